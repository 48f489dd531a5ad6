/-
  Package sosoptnum: Neg, Sub, Cmp, QuoRem, den, Den. (Walks written by vc.py, gen_nr.py.)
  Package sosoptnum: Gcd, Bits.
  Package sosoptnum: Frac, RNeg, RSign, RAdd, RSub, RMul, RDiv, RCmp, Floor. (Walks written by vc.py, gen_nf.py.)
  Package sosoptnum: Text. (Walks written by vc.py, gen_nt.py.)
  Package sosoptnum: FromDigits.
-/
import Derived.Test.YtndafmjcelgnbaaGreatDoorM14
import Derived.Test.YtndafmjcelgnbaaGreatDoorM15
import Derived.Test.YtndafmjcelgnbaaGreatDoorM12
import Derived.Test.YtndafmjcelgnbaaGreatDoorM13
namespace Go.Proofs.YtndafmjcelgnbaaGreatDoor
open Go.RowKit

theorem make1_ret (neg : Bool) (u : Value) (n : Nat) (w : World) (hu : MagIs w u n) : Calls Tryz.prog 112 #[.bool neg, u] w (RetNum w (sg neg n)) := by
  refine (make1_any neg u n w hu).mono ?_
  rintro e w1 ⟨s, rfl, hs, hF⟩
  exact ⟨_, rfl, NumIs.signed (hu.ext hF) hs.out, hF⟩
theorem NumIs.opn {w : World} {s : Bool} {A : Option Addr} {l c : Nat} {z : Int} (h : NumIs w (.agg #[.bool s, .slice A l c]) z) : MagIs w (.slice A l c) z.natAbs ∧ z = sg s z.natAbs ∧ (z = 0 → s = false) := by
  obtain ⟨s', A', l', c', he, h1, h2, h3⟩ := h.open
  injection he with he
  simp at he
  obtain ⟨rfl, rfl, rfl, rfl⟩ := he
  exact ⟨h1, h2, h3⟩
theorem NumIs.mag {w : World} {s : Bool} {A : Option Addr} {l c : Nat} {z : Int} (h : NumIs w (.agg #[.bool s, .slice A l c]) z) : MagIs w (.slice A l c) z.natAbs := h.opn.1
theorem neg_sg {w : World} {s : Bool} {A : Option Addr} {l c : Nat} {z : Int} (h : NumIs w (.agg #[.bool s, .slice A l c]) z) : sg (!s) z.natAbs = -z := by
  obtain ⟨_, h2, h3⟩ := h.opn
  cases s <;> simp [sg] at * <;> omega
theorem NFits.neg {x : Int} (h : NFits x) : NFits (-x) := by
  unfold NFits at *; rw [Int.natAbs_neg]; exact h
/-- one Int as result -/
theorem fin_Num {fn : Func} {t : Tmp} {tmps : Array Value} {w w' : World} {r : Nat} {x y : Value} {z : Int} (hres : fn.results = #[.cell t 53]) (ht : tmps[t]? = some (.pointer (some ⟨r, 0, none⟩)))
    (hB : Blk 53 w' r #[x, y]) (hI : NumIs w' (.agg #[x, y]) z) (hE : Ext w w') : bodyPost Tryz.prog fn (RetNum w z) .ret ⟨tmps, []⟩ w' :=
  bodyPost_ret (results_num hres _ _ r _ _ ht hB) rfl ⟨_, rfl, hI, hE⟩
theorem fin_NRat {fn : Func} {t : Tmp} {tmps : Array Value} {w w' : World} {r : Nat} {x y z u : Value} {q : Rat} (hres : fn.results = #[.cell t 55]) (ht : tmps[t]? = some (.pointer (some ⟨r, 0, none⟩)))
    (hB : Blk 55 w' r #[x, y, z, u]) (hI : NRatIs w' (.agg #[x, y, z, u]) q) (hE : Ext w w') : bodyPost Tryz.prog fn (RetNRat w q) .ret ⟨tmps, []⟩ w' := by
  obtain ⟨h0, h1, h2, h4, _⟩ := hB.cell4
  exact bodyPost_ret (v := .agg #[x, y, z, u]) (by simp [results, hres, ht, go_sem, h0, h1, h2, h4]) rfl ⟨_, rfl, hI, hE⟩
theorem NumIs.sneg {w : World} {s : Bool} {A : Option Addr} {l c : Nat} {z : Int} (h : NumIs w (.agg #[.bool s, .slice A l c]) z) (hz : z < 0) : s = true := by
  obtain ⟨_, h2, h3⟩ := h.opn
  cases s with
  | true => rfl
  | false => simp [sg] at h2; omega
theorem NumIs.spos {w : World} {s : Bool} {A : Option Addr} {l c : Nat} {z : Int} (h : NumIs w (.agg #[.bool s, .slice A l c]) z) (hz : 0 ≤ z) : s = false := by
  obtain ⟨_, h2, h3⟩ := h.opn
  cases s with
  | false => rfl
  | true => simp [sg] at h2; exact h3 (by omega)
theorem NumIs.len0 {w : World} {s : Bool} {A : Option Addr} {l c : Nat} {z : Int} (h : NumIs w (.agg #[.bool s, .slice A l c]) z) (hz : z = 0) : l = 0 := by
  obtain ⟨h1, _, _⟩ := h.opn
  obtain ⟨A', xs, c', he, _, _, hd, ht, hv⟩ := h1
  injection he with _ he
  rw [hz] at hv
  have := eq_nil_of_val ht W32_pos hv
  rw [this] at he
  simpa using he
theorem NumIs.lenp {w : World} {s : Bool} {A : Option Addr} {l c : Nat} {z : Int} (h : NumIs w (.agg #[.bool s, .slice A l c]) z) (hz : z ≠ 0) : 0 < l := by
  obtain ⟨h1, _, _⟩ := h.opn
  obtain ⟨A', xs, c', he, _, _, hd, ht, hv⟩ := h1
  injection he with _ he
  rcases Nat.eq_zero_or_pos l with e | e
  · rw [e] at he
    have : xs = [] := List.length_eq_zero_iff.1 he.symm
    rw [this] at hv
    simp at hv
    omega
  · exact e
theorem NumIs.quo {w : World} {s t : Bool} {A B : Option Addr} {l c l' c' : Nat} {x y : Int} (h : NumIs w (.agg #[.bool s, .slice A l c]) x) (k : NumIs w (.agg #[.bool t, .slice B l' c']) y) : sg (s != t) (x.natAbs / y.natAbs) = x.tdiv y ∧ sg s (x.natAbs % y.natAbs) = x.tmod y := by
  obtain ⟨_, h2, h3⟩ := h.opn
  obtain ⟨_, k2, k3⟩ := k.opn
  generalize x.natAbs = m at *
  generalize y.natAbs = n at *
  subst h2 k2
  cases s <;> cases t <;> simp [sg, Int.neg_tdiv, Int.tdiv_neg, Int.neg_tmod, Int.tmod_neg] <;> exact (Int.tmod_eq_emod_of_nonneg (by omega)).symm
/-- two Ints as results -/
def RetNum2 (w : World) (q r : Int) (e : Ending) (w' : World) : Prop := ∃ u v, e = .returned (.tuple #[u, v]) ∧ NumIs w' u q ∧ NumIs w' v r ∧ Ext w w'
theorem fin_Num2 {fn : Func} {t t' : Tmp} {tmps : Array Value} {w w' : World} {r r' : Nat} {x y x' y' : Value} {z z' : Int} (hres : fn.results = #[.cell t 53, .cell t' 53]) (ht : tmps[t]? = some (.pointer (some ⟨r, 0, none⟩))) (ht' : tmps[t']? = some (.pointer (some ⟨r', 0, none⟩)))
    (hB : Blk 53 w' r #[x, y]) (hB' : Blk 53 w' r' #[x', y']) (hI : NumIs w' (.agg #[x, y]) z) (hI' : NumIs w' (.agg #[x', y']) z') (hE : Ext w w') : bodyPost Tryz.prog fn (RetNum2 w z z') .ret ⟨tmps, []⟩ w' := by
  obtain ⟨h0, h1, _⟩ := hB.cell2
  obtain ⟨k0, k1, _⟩ := hB'.cell2
  exact bodyPost_ret (v := .tuple #[.agg #[x, y], .agg #[x', y']]) (by simp [results, hres, ht, ht', go_sem, h0, h1, k0, k1]) rfl ⟨_, _, rfl, hI, hI', hE⟩
theorem denF_one {q : Rat} (h : q.den = 1) : denF q = 0 := by unfold denF; rw [if_pos h]
theorem denF_big {q : Rat} (h : ¬ q.den = 1) : denF q = (q.den : Int) := by unfold denF; rw [if_neg h]
theorem denF_ne {q : Rat} (h : ¬ q.den = 1) : denF q ≠ 0 := by rw [denF_big h]; have := q.den_nz; omega

set_option maxHeartbeats 2000000 in
set_option maxRecDepth 100000 in
theorem NNeg_any (a : Value) (x : Int) (w : World) (ha : NumIs w a x) :
    Calls Tryz.prog 72 #[a] w (RetNum w (-x)) := by
  obtain ⟨s1, A1, l1, c1, rfl⟩ := ha.shp
  have F2 : Hid (NumIs w (.agg #[.bool s1, .slice A1 l1 c1]) (x)) := ha
  clear ha
  have Hs := Lib.hid (neg_sg F2.out)
  go_enter Tryz.func72, Tryz.ntmps72
  go_wp2_with fail
  generalize hwb : World.alloc (World.alloc w _) _ = w5
  obtain ⟨b_B3, b_B4, hE0⟩ := blocks2 hwb
  clear hwb
  have B3 := Lib.hid b_B3
  have B4 := Lib.hid b_B4
  clear b_B3 b_B4
  replace F2 := Lib.hid (F2.out.ext hE0)
  have HE := Lib.hid hE0
  clear hE0
  have F6 : Hid (MagIs w5 (.slice A1 l1 c1) ((x).natAbs)) := F2.out.mag
  refine (make1_ret ((!s1)) _ _ _ F6.out).mono ?_
  rintro e w7 ⟨_, rfl, hI, hF⟩
  obtain ⟨s8, A8, l8, c8, rfl⟩ := hI.shp
  replace B3 := Lib.hid (B3.out.ext hF)
  replace B4 := Lib.hid (B4.out.ext hF)
  replace F2 := Lib.hid (F2.out.ext hF)
  replace F6 := Lib.hid (F6.out.ext hF)
  replace HE := Lib.hid (HE.out.trans hF)
  have F9 : Hid (NumIs w7 (.agg #[.bool s8, .slice A8 l8 c8]) (sg ((!s1)) ((x).natAbs))) := hI
  clear hF hI
  obtain ⟨c10_0, c10_1, f10_0, f10_1⟩ := B3.out.cell2
  obtain ⟨c11_0, c11_1, f11_0, f11_1⟩ := B4.out.cell2
  go_wp2
  clear c10_0 c10_1 f10_0 f10_1 c11_0 c11_1 f11_0 f11_1
  have hFs : Fr (fun i => i = (w.heap.size + 1)) w7 ((w7.setCell ⟨(w.heap.size + 1), 0, none⟩ (.bool s8)).setCell ⟨(w.heap.size + 1), 1, none⟩ (.slice A8 l8 c8)) := (((Fr.refl (fun i => i = (w.heap.size + 1)) _).setCell (p := ⟨(w.heap.size + 1), 0, none⟩) (Or.inl rfl) _).setCell (p := ⟨(w.heap.size + 1), 1, none⟩) (Or.inl rfl) _)
  replace F2 := Lib.hid (F2.out.oth B4.out noRow2 hFs)
  replace F6 := Lib.hid (F6.out.oth B4.out noRow2 hFs)
  replace F9 := Lib.hid (F9.out.oth B4.out noRow2 hFs)
  replace B3 := Lib.hid (B3.out.fr hFs (by first | omega | (have := B3.out.lt; have := B4.out.lt; omega)))
  replace HE := Lib.hid (HE.out.next hFs (fun i hi e => by first | omega | (have := HE.out.size; have := B4.out.lt; omega)))
  have b_new : Blk 53 ((w7.setCell ⟨(w.heap.size + 1), 0, none⟩ (.bool s8)).setCell ⟨(w.heap.size + 1), 1, none⟩ (.slice A8 l8 c8)) (w.heap.size + 1) #[.bool s8, .slice A8 l8 c8] := ((B4.out.set_ 0 _).set_ 1 _)
  generalize ((w7.setCell ⟨(w.heap.size + 1), 0, none⟩ (.bool s8)).setCell ⟨(w.heap.size + 1), 1, none⟩ (.slice A8 l8 c8)) = w12 at *
  replace B4 := Lib.hid b_new; clear b_new hFs
  exact fin_Num rfl rfl B4.out (by have := F9.out; rw [Hs.out] at this; exact this) HE.out

set_option maxHeartbeats 2000000 in
set_option maxRecDepth 100000 in
theorem NSign_neg (a : Value) (x : Int) (w : World) (ha : NumIs w a x) (hx : x < 0) :
    Calls Tryz.prog 69 #[a] w (RetV w (.int .i64 (-1))) := by
  obtain ⟨s1, A1, l1, c1, rfl⟩ := ha.shp
  have F2 : Hid (NumIs w (.agg #[.bool s1, .slice A1 l1 c1]) (x)) := ha
  clear ha
  obtain rfl : s1 = true := F2.out.sneg hx
  clear hx
  go_enter Tryz.func69, Tryz.ntmps69
  go_wp2
  generalize hwb : World.alloc w _ = w4
  obtain ⟨b_B3, hE0⟩ := blocks1 hwb
  clear hwb
  have B3 := Lib.hid b_B3
  clear b_B3
  replace F2 := Lib.hid (F2.out.ext hE0)
  have HE := Lib.hid hE0
  clear hE0
  go_ret
  exact ⟨rfl, HE.out⟩

set_option maxHeartbeats 2000000 in
set_option maxRecDepth 100000 in
theorem NSign_zero (a : Value) (x : Int) (w : World) (ha : NumIs w a x) (hx : x = 0) :
    Calls Tryz.prog 69 #[a] w (RetV w (.int .i64 (0))) := by
  obtain ⟨s1, A1, l1, c1, rfl⟩ := ha.shp
  have F2 : Hid (NumIs w (.agg #[.bool s1, .slice A1 l1 c1]) (x)) := ha
  clear ha
  obtain rfl : s1 = false := F2.out.spos (by omega)
  obtain rfl : l1 = 0 := F2.out.len0 hx
  clear hx
  go_enter Tryz.func69, Tryz.ntmps69
  go_wp2
  generalize hwb : World.alloc w _ = w4
  obtain ⟨b_B3, hE0⟩ := blocks1 hwb
  clear hwb
  have B3 := Lib.hid b_B3
  clear b_B3
  replace F2 := Lib.hid (F2.out.ext hE0)
  have HE := Lib.hid hE0
  clear hE0
  go_ret
  exact ⟨rfl, HE.out⟩

set_option maxHeartbeats 2000000 in
set_option maxRecDepth 100000 in
theorem NSign_pos (a : Value) (x : Int) (w : World) (ha : NumIs w a x) (hx : 0 < x) :
    Calls Tryz.prog 69 #[a] w (RetV w (.int .i64 (1))) := by
  obtain ⟨s1, A1, l1, c1, rfl⟩ := ha.shp
  have F2 : Hid (NumIs w (.agg #[.bool s1, .slice A1 l1 c1]) (x)) := ha
  clear ha
  obtain rfl : s1 = false := F2.out.spos (by omega)
  have hl : ((l1 : Int) == 0) = false := by have := F2.out.lenp (by omega); simp; omega
  clear hx
  go_enter Tryz.func69, Tryz.ntmps69
  go_wp2
  generalize hwb : World.alloc w _ = w4
  obtain ⟨b_B3, hE0⟩ := blocks1 hwb
  clear hwb
  have B3 := Lib.hid b_B3
  clear b_B3
  replace F2 := Lib.hid (F2.out.ext hE0)
  have HE := Lib.hid hE0
  clear hE0
  go_ret
  exact ⟨rfl, HE.out⟩

theorem NSign_any (a : Value) (x : Int) (w : World) (ha : NumIs w a x) : Calls Tryz.prog 69 #[a] w (RetV w (.int .i64 x.sign)) := by
  rcases Int.lt_trichotomy x 0 with h | h | h
  · rw [Int.sign_eq_neg_one_of_neg h]; exact NSign_neg a x w ha h
  · rw [h, Int.sign_zero]; exact NSign_zero a x w ha h
  · rw [Int.sign_eq_one_of_pos h]; exact NSign_pos a x w ha h

set_option maxHeartbeats 2000000 in
set_option maxRecDepth 100000 in
theorem NQuoRem_any (a b : Value) (x y : Int) (w : World) (ha : NumIs w a x) (hb : NumIs w b y) (hx : NFits x) (hy : NFits y) (h0 : y ≠ 0) :
    Calls Tryz.prog 68 #[a, b] w (RetNum2 w (x.tdiv y) (x.tmod y)) := by
  obtain ⟨s1, A1, l1, c1, rfl⟩ := ha.shp
  have F2 : Hid (NumIs w (.agg #[.bool s1, .slice A1 l1 c1]) (x)) := ha
  clear ha
  obtain ⟨s3, A3, l3, c3, rfl⟩ := hb.shp
  have F4 : Hid (NumIs w (.agg #[.bool s3, .slice A3 l3 c3]) (y)) := hb
  clear hb
  have Hx : Hid (ml x.natAbs ≤ 1048576) := hx
  have Hy : Hid (ml y.natAbs ≤ 1048576) := hy
  have H0 : Hid (0 < y.natAbs) := by unfold Hid; omega
  have HQ := Lib.hid (F2.out.quo F4.out)
  clear hx hy h0
  go_enter Tryz.func68, Tryz.ntmps68
  go_wp2_with fail
  generalize hwb : World.alloc (World.alloc (World.alloc (World.alloc w _) _) _) _ = w9
  obtain ⟨b_B5, b_B6, b_B7, b_B8, hE0⟩ := blocks4 hwb
  clear hwb
  have B5 := Lib.hid b_B5
  have B6 := Lib.hid b_B6
  have B7 := Lib.hid b_B7
  have B8 := Lib.hid b_B8
  clear b_B5 b_B6 b_B7 b_B8
  replace F2 := Lib.hid (F2.out.ext hE0)
  replace F4 := Lib.hid (F4.out.ext hE0)
  have HE := Lib.hid hE0
  clear hE0
  have F10 : Hid (MagIs w9 (.slice A1 l1 c1) ((x).natAbs)) := F2.out.mag
  have F11 : Hid (MagIs w9 (.slice A3 l3 c3) ((y).natAbs)) := F4.out.mag
  refine (divMag_any _ _ ((x).natAbs) ((y).natAbs) _ F10.out F11.out Hx.out Hy.out H0.out).mono ?_
  rintro e w12 ⟨_, _, rfl, hq, hr, hF⟩
  obtain ⟨Aq13, lq13, cq13, rfl⟩ := hq.slice
  obtain ⟨Ar13, lr13, cr13, rfl⟩ := hr.slice
  replace B5 := Lib.hid (B5.out.ext hF)
  replace B6 := Lib.hid (B6.out.ext hF)
  replace B7 := Lib.hid (B7.out.ext hF)
  replace B8 := Lib.hid (B8.out.ext hF)
  replace F2 := Lib.hid (F2.out.ext hF)
  replace F4 := Lib.hid (F4.out.ext hF)
  replace F10 := Lib.hid (F10.out.ext hF)
  replace F11 := Lib.hid (F11.out.ext hF)
  replace HE := Lib.hid (HE.out.trans hF)
  have F14 : Hid (MagIs w12 (.slice Aq13 lq13 cq13) (((x).natAbs) / ((y).natAbs))) := hq
  have F15 : Hid (MagIs w12 (.slice Ar13 lr13 cr13) (((x).natAbs) % ((y).natAbs))) := hr
  clear hF hq hr
  obtain ⟨c16_0, c16_1, f16_0, f16_1⟩ := B5.out.cell2
  obtain ⟨c17_0, c17_1, f17_0, f17_1⟩ := B6.out.cell2
  obtain ⟨c18_0, c18_1, f18_0, f18_1⟩ := B7.out.cell2
  obtain ⟨c19_0, c19_1, f19_0, f19_1⟩ := B8.out.cell2
  go_wp2_with fail
  clear c16_0 c16_1 f16_0 f16_1 c17_0 c17_1 f17_0 f17_1 c18_0 c18_1 f18_0 f18_1 c19_0 c19_1 f19_0 f19_1
  refine wp_region_T 11 (fun W' => Blk 53 W' w.heap.size #[.bool s1, .slice A1 l1 c1] ∧ Blk 53 W' (w.heap.size + 1) #[.bool s3, .slice A3 l3 c3] ∧ Blk 53 W' (w.heap.size + 1 + 1) #[.bool false, .slice none 0 0] ∧ Blk 53 W' (w.heap.size + 1 + 1 + 1) #[.bool false, .slice none 0 0]) follows_mixed' ?_
  replace B5 := Lib.hid (B5.out.ext (Fr.refl _ _).drew)
  replace B6 := Lib.hid (B6.out.ext (Fr.refl _ _).drew)
  replace B7 := Lib.hid (B7.out.ext (Fr.refl _ _).drew)
  replace B8 := Lib.hid (B8.out.ext (Fr.refl _ _).drew)
  replace F2 := Lib.hid (F2.out.ext (Fr.refl _ _).drew)
  replace F4 := Lib.hid (F4.out.ext (Fr.refl _ _).drew)
  replace F10 := Lib.hid (F10.out.ext (Fr.refl _ _).drew)
  replace F11 := Lib.hid (F11.out.ext (Fr.refl _ _).drew)
  replace F14 := Lib.hid (F14.out.ext (Fr.refl _ _).drew)
  replace F15 := Lib.hid (F15.out.ext (Fr.refl _ _).drew)
  replace HE := Lib.hid (HE.out.trans (Fr.refl _ _).drew)
  generalize w12.drew = w20 at *
  have hS := (⟨B5.out, B6.out, B7.out, B8.out⟩ : (fun W' => Blk 53 W' w.heap.size #[.bool s1, .slice A1 l1 c1] ∧ Blk 53 W' (w.heap.size + 1) #[.bool s3, .slice A3 l3 c3] ∧ Blk 53 W' (w.heap.size + 1 + 1) #[.bool false, .slice none 0 0] ∧ Blk 53 W' (w.heap.size + 1 + 1 + 1) #[.bool false, .slice none 0 0]) w20)
  refine wpT_take 0 rfl (by kernel_rfl) (fun _ _ _ h => h) hS (fun _ => ya_NumInt0 (g := w.heap.size) (off := 0) rfl rfl (by kernel_rfl)) (fun hS => ?_)
  refine wpT_take 1 rfl (by kernel_rfl) (fun _ _ _ h => h) hS (fun _ => yl_bool (g := w.heap.size) (off := 0) (x := .bool s1) rfl rfl (by kernel_rfl) (fun _ h => Blk.one' (h.1) 0 rfl)) (fun hS => ?_)
  refine wpT_take 2 rfl (by kernel_rfl) (fun _ _ _ h => h) hS (fun _ => ya_NumInt0 (g := (w.heap.size + 1)) (off := 0) rfl rfl (by kernel_rfl)) (fun hS => ?_)
  refine wpT_take 3 rfl (by kernel_rfl) (fun _ _ _ h => h) hS (fun _ => yl_bool (g := (w.heap.size + 1)) (off := 0) (x := .bool s3) rfl rfl (by kernel_rfl) (fun _ h => Blk.one' (h.2.1) 0 rfl)) (fun hS => ?_)
  refine wpT_take 4 rfl (by kernel_rfl) (fun _ _ _ h => h) hS (fun _ => yne_bool (b := s1) (c := s3) rfl rfl (by kernel_rfl) (by kernel_rfl)) (fun hS => ?_)
  refine wpT_take 5 rfl (by kernel_rfl) (fun _ _ _ h => h) hS (fun _ => ym (v := .slice Aq13 lq13 cq13) rfl rfl (by kernel_rfl)) (fun hS => ?_)
  refine wpT_take 7 rfl (by kernel_rfl) (fun _ _ _ h => h) hS (fun _ => ya_NumInt0 (g := w.heap.size) (off := 0) rfl rfl (by kernel_rfl)) (fun hS => ?_)
  refine wpT_take 8 rfl (by kernel_rfl) (fun _ _ _ h => h) hS (fun _ => yl_bool (g := w.heap.size) (off := 0) (x := .bool s1) rfl rfl (by kernel_rfl) (fun _ h => Blk.one' (h.1) 0 rfl)) (fun hS => ?_)
  refine wpT_take 9 rfl (by kernel_rfl) (fun _ _ _ h => h) hS (fun _ => ym (v := .slice Ar13 lr13 cr13) rfl rfl (by kernel_rfl)) (fun hS => ?_)
  refine wpT_only 6 rfl (by kernel_rfl) rfl (fun K hK => ?_)
  go_simp
  clear hS
  refine (make1_ret ((s1 != s3)) _ _ _ F14.out).mono ?_
  rintro e w21 ⟨_, rfl, hI, hF⟩
  obtain ⟨s22, A22, l22, c22, rfl⟩ := hI.shp
  replace B5 := Lib.hid (B5.out.ext hF)
  replace B6 := Lib.hid (B6.out.ext hF)
  replace B7 := Lib.hid (B7.out.ext hF)
  replace B8 := Lib.hid (B8.out.ext hF)
  replace F2 := Lib.hid (F2.out.ext hF)
  replace F4 := Lib.hid (F4.out.ext hF)
  replace F10 := Lib.hid (F10.out.ext hF)
  replace F11 := Lib.hid (F11.out.ext hF)
  replace F14 := Lib.hid (F14.out.ext hF)
  replace F15 := Lib.hid (F15.out.ext hF)
  replace HE := Lib.hid (HE.out.trans hF)
  have F23 : Hid (NumIs w21 (.agg #[.bool s22, .slice A22 l22 c22]) (sg ((s1 != s3)) (((x).natAbs) / ((y).natAbs)))) := hI
  clear hF hI
  have hS := (⟨B5.out, B6.out, B7.out, B8.out⟩ : (fun W' => Blk 53 W' w.heap.size #[.bool s1, .slice A1 l1 c1] ∧ Blk 53 W' (w.heap.size + 1) #[.bool s3, .slice A3 l3 c3] ∧ Blk 53 W' (w.heap.size + 1 + 1) #[.bool false, .slice none 0 0] ∧ Blk 53 W' (w.heap.size + 1 + 1 + 1) #[.bool false, .slice none 0 0]) w21)
  refine hK _ _ hS ?_
  clear hK
  refine wpT_only 10 rfl (by kernel_rfl) rfl (fun K hK => ?_)
  go_simp
  clear hS
  refine (make1_ret (s1) _ _ _ F15.out).mono ?_
  rintro e w24 ⟨_, rfl, hI, hF⟩
  obtain ⟨s25, A25, l25, c25, rfl⟩ := hI.shp
  replace B5 := Lib.hid (B5.out.ext hF)
  replace B6 := Lib.hid (B6.out.ext hF)
  replace B7 := Lib.hid (B7.out.ext hF)
  replace B8 := Lib.hid (B8.out.ext hF)
  replace F2 := Lib.hid (F2.out.ext hF)
  replace F4 := Lib.hid (F4.out.ext hF)
  replace F10 := Lib.hid (F10.out.ext hF)
  replace F11 := Lib.hid (F11.out.ext hF)
  replace F14 := Lib.hid (F14.out.ext hF)
  replace F15 := Lib.hid (F15.out.ext hF)
  replace F23 := Lib.hid (F23.out.ext hF)
  replace HE := Lib.hid (HE.out.trans hF)
  have F26 : Hid (NumIs w24 (.agg #[.bool s25, .slice A25 l25 c25]) (sg (s1) (((x).natAbs) % ((y).natAbs)))) := hI
  clear hF hI
  have hS := (⟨B5.out, B6.out, B7.out, B8.out⟩ : (fun W' => Blk 53 W' w.heap.size #[.bool s1, .slice A1 l1 c1] ∧ Blk 53 W' (w.heap.size + 1) #[.bool s3, .slice A3 l3 c3] ∧ Blk 53 W' (w.heap.size + 1 + 1) #[.bool false, .slice none 0 0] ∧ Blk 53 W' (w.heap.size + 1 + 1 + 1) #[.bool false, .slice none 0 0]) w24)
  refine hK _ _ hS ?_
  clear hK
  refine wpT_tail (l := [_, _]) 11 rfl (by kernel_rfl) ?_
  clear hS
  obtain ⟨c27_0, c27_1, f27_0, f27_1⟩ := B5.out.cell2
  obtain ⟨c28_0, c28_1, f28_0, f28_1⟩ := B6.out.cell2
  obtain ⟨c29_0, c29_1, f29_0, f29_1⟩ := B7.out.cell2
  obtain ⟨c30_0, c30_1, f30_0, f30_1⟩ := B8.out.cell2
  go_wp2
  clear c27_0 c27_1 f27_0 f27_1 c28_0 c28_1 f28_0 f28_1 c29_0 c29_1 f29_0 f29_1 c30_0 c30_1 f30_0 f30_1
  have hFs : Fr (fun i => i = (w.heap.size + 1 + 1)) w24 ((w24.setCell ⟨(w.heap.size + 1 + 1), 0, none⟩ (.bool s22)).setCell ⟨(w.heap.size + 1 + 1), 1, none⟩ (.slice A22 l22 c22)) := (((Fr.refl (fun i => i = (w.heap.size + 1 + 1)) _).setCell (p := ⟨(w.heap.size + 1 + 1), 0, none⟩) (Or.inl rfl) _).setCell (p := ⟨(w.heap.size + 1 + 1), 1, none⟩) (Or.inl rfl) _)
  replace F2 := Lib.hid (F2.out.oth B7.out noRow2 hFs)
  replace F4 := Lib.hid (F4.out.oth B7.out noRow2 hFs)
  replace F10 := Lib.hid (F10.out.oth B7.out noRow2 hFs)
  replace F11 := Lib.hid (F11.out.oth B7.out noRow2 hFs)
  replace F14 := Lib.hid (F14.out.oth B7.out noRow2 hFs)
  replace F15 := Lib.hid (F15.out.oth B7.out noRow2 hFs)
  replace F23 := Lib.hid (F23.out.oth B7.out noRow2 hFs)
  replace F26 := Lib.hid (F26.out.oth B7.out noRow2 hFs)
  replace B5 := Lib.hid (B5.out.fr hFs (by first | omega | (have := B5.out.lt; have := B7.out.lt; omega)))
  replace B6 := Lib.hid (B6.out.fr hFs (by first | omega | (have := B6.out.lt; have := B7.out.lt; omega)))
  replace B8 := Lib.hid (B8.out.fr hFs (by first | omega | (have := B8.out.lt; have := B7.out.lt; omega)))
  replace HE := Lib.hid (HE.out.next hFs (fun i hi e => by first | omega | (have := HE.out.size; have := B7.out.lt; omega)))
  have b_new : Blk 53 ((w24.setCell ⟨(w.heap.size + 1 + 1), 0, none⟩ (.bool s22)).setCell ⟨(w.heap.size + 1 + 1), 1, none⟩ (.slice A22 l22 c22)) (w.heap.size + 1 + 1) #[.bool s22, .slice A22 l22 c22] := ((B7.out.set_ 0 _).set_ 1 _)
  generalize ((w24.setCell ⟨(w.heap.size + 1 + 1), 0, none⟩ (.bool s22)).setCell ⟨(w.heap.size + 1 + 1), 1, none⟩ (.slice A22 l22 c22)) = w31 at *
  replace B7 := Lib.hid b_new; clear b_new hFs
  have hFs : Fr (fun i => i = (w.heap.size + 1 + 1 + 1)) w31 ((w31.setCell ⟨(w.heap.size + 1 + 1 + 1), 0, none⟩ (.bool s25)).setCell ⟨(w.heap.size + 1 + 1 + 1), 1, none⟩ (.slice A25 l25 c25)) := (((Fr.refl (fun i => i = (w.heap.size + 1 + 1 + 1)) _).setCell (p := ⟨(w.heap.size + 1 + 1 + 1), 0, none⟩) (Or.inl rfl) _).setCell (p := ⟨(w.heap.size + 1 + 1 + 1), 1, none⟩) (Or.inl rfl) _)
  replace F2 := Lib.hid (F2.out.oth B8.out noRow2 hFs)
  replace F4 := Lib.hid (F4.out.oth B8.out noRow2 hFs)
  replace F10 := Lib.hid (F10.out.oth B8.out noRow2 hFs)
  replace F11 := Lib.hid (F11.out.oth B8.out noRow2 hFs)
  replace F14 := Lib.hid (F14.out.oth B8.out noRow2 hFs)
  replace F15 := Lib.hid (F15.out.oth B8.out noRow2 hFs)
  replace F23 := Lib.hid (F23.out.oth B8.out noRow2 hFs)
  replace F26 := Lib.hid (F26.out.oth B8.out noRow2 hFs)
  replace B5 := Lib.hid (B5.out.fr hFs (by first | omega | (have := B5.out.lt; have := B8.out.lt; omega)))
  replace B6 := Lib.hid (B6.out.fr hFs (by first | omega | (have := B6.out.lt; have := B8.out.lt; omega)))
  replace B7 := Lib.hid (B7.out.fr hFs (by first | omega | (have := B7.out.lt; have := B8.out.lt; omega)))
  replace HE := Lib.hid (HE.out.next hFs (fun i hi e => by first | omega | (have := HE.out.size; have := B8.out.lt; omega)))
  have b_new : Blk 53 ((w31.setCell ⟨(w.heap.size + 1 + 1 + 1), 0, none⟩ (.bool s25)).setCell ⟨(w.heap.size + 1 + 1 + 1), 1, none⟩ (.slice A25 l25 c25)) (w.heap.size + 1 + 1 + 1) #[.bool s25, .slice A25 l25 c25] := ((B8.out.set_ 0 _).set_ 1 _)
  generalize ((w31.setCell ⟨(w.heap.size + 1 + 1 + 1), 0, none⟩ (.bool s25)).setCell ⟨(w.heap.size + 1 + 1 + 1), 1, none⟩ (.slice A25 l25 c25)) = w32 at *
  replace B8 := Lib.hid b_new; clear b_new hFs
  exact fin_Num2 rfl rfl rfl B7.out B8.out (by rw [← HQ.out.1]; exact F23.out) (by rw [← HQ.out.2]; exact F26.out) HE.out

set_option maxHeartbeats 2000000 in
set_option maxRecDepth 100000 in
theorem Nden_one (a : Value) (q : Rat) (w : World) (ha : NRatIs w a q) (hq : q.den = 1) :
    Calls Tryz.prog 129 #[a] w (RetNum w (q.den : Int)) := by
  obtain ⟨s1, A1, l1, c1, t1, B1, m1, d1, rfl⟩ := ha.shp
  have F2 : Hid (NRatIs w (.agg #[.bool s1, .slice A1 l1 c1, .bool t1, .slice B1 m1 d1]) (q)) := ha
  clear ha
  have Fd := F2.out.den
  obtain rfl : m1 = 0 := Fd.len0 (denF_one hq)
  have Hq : Hid ((q.den : Int) = 1) := by unfold Hid; omega
  clear Fd hq
  go_enter Tryz.func129, Tryz.ntmps129
  go_wp2_with fail
  generalize hwb : World.alloc (World.alloc w _) _ = w5
  obtain ⟨b_B3, b_B4, hE0⟩ := blocks2 hwb
  clear hwb
  have B3 := Lib.hid b_B3
  have B4 := Lib.hid b_B4
  clear b_B3 b_B4
  replace F2 := Lib.hid (F2.out.ext hE0)
  have HE := Lib.hid hE0
  clear hE0
  refine (NFromInt_any 1 _ (by omega) (by omega)).mono ?_
  rintro e w6 ⟨_, rfl, hI, hF⟩
  obtain ⟨s7, A7, l7, c7, rfl⟩ := hI.shp
  replace B3 := Lib.hid (B3.out.ext hF)
  replace B4 := Lib.hid (B4.out.ext hF)
  replace F2 := Lib.hid (F2.out.ext hF)
  replace HE := Lib.hid (HE.out.trans hF)
  have F8 : Hid (NumIs w6 (.agg #[.bool s7, .slice A7 l7 c7]) (1)) := hI
  clear hF hI
  obtain ⟨c9_0, c9_1, c9_2, c9_3, f9_0, f9_1, f9_2, f9_3⟩ := B3.out.cell4
  obtain ⟨c10_0, c10_1, f10_0, f10_1⟩ := B4.out.cell2
  go_wp2
  clear c9_0 c9_1 c9_2 c9_3 f9_0 f9_1 f9_2 f9_3 c10_0 c10_1 f10_0 f10_1
  have hFs : Fr (fun i => i = (w.heap.size + 1)) w6 ((w6.setCell ⟨(w.heap.size + 1), 0, none⟩ (.bool s7)).setCell ⟨(w.heap.size + 1), 1, none⟩ (.slice A7 l7 c7)) := (((Fr.refl (fun i => i = (w.heap.size + 1)) _).setCell (p := ⟨(w.heap.size + 1), 0, none⟩) (Or.inl rfl) _).setCell (p := ⟨(w.heap.size + 1), 1, none⟩) (Or.inl rfl) _)
  replace F2 := Lib.hid (F2.out.oth B4.out noRow2 hFs)
  replace F8 := Lib.hid (F8.out.oth B4.out noRow2 hFs)
  replace B3 := Lib.hid (B3.out.fr hFs (by first | omega | (have := B3.out.lt; have := B4.out.lt; omega)))
  replace HE := Lib.hid (HE.out.next hFs (fun i hi e => by first | omega | (have := HE.out.size; have := B4.out.lt; omega)))
  have b_new : Blk 53 ((w6.setCell ⟨(w.heap.size + 1), 0, none⟩ (.bool s7)).setCell ⟨(w.heap.size + 1), 1, none⟩ (.slice A7 l7 c7)) (w.heap.size + 1) #[.bool s7, .slice A7 l7 c7] := ((B4.out.set_ 0 _).set_ 1 _)
  generalize ((w6.setCell ⟨(w.heap.size + 1), 0, none⟩ (.bool s7)).setCell ⟨(w.heap.size + 1), 1, none⟩ (.slice A7 l7 c7)) = w11 at *
  replace B4 := Lib.hid b_new; clear b_new hFs
  exact fin_Num rfl rfl B4.out (by rw [Hq.out]; exact F8.out) HE.out

set_option maxHeartbeats 2000000 in
set_option maxRecDepth 100000 in
theorem Nden_big (a : Value) (q : Rat) (w : World) (ha : NRatIs w a q) (hq : ¬ q.den = 1) :
    Calls Tryz.prog 129 #[a] w (RetNum w (q.den : Int)) := by
  obtain ⟨s1, A1, l1, c1, t1, B1, m1, d1, rfl⟩ := ha.shp
  have F2 : Hid (NRatIs w (.agg #[.bool s1, .slice A1 l1 c1, .bool t1, .slice B1 m1 d1]) (q)) := ha
  clear ha
  have Fd := F2.out.den
  have hl : ((m1 : Int) == 0) = false := by have := Fd.lenp (denF_ne hq); simp; omega
  have Hq := Lib.hid (denF_big hq)
  clear Fd hq
  go_enter Tryz.func129, Tryz.ntmps129
  go_wp2
  generalize hwb : World.alloc (World.alloc w _) _ = w5
  obtain ⟨b_B3, b_B4, hE0⟩ := blocks2 hwb
  clear hwb
  have B3 := Lib.hid b_B3
  have B4 := Lib.hid b_B4
  clear b_B3 b_B4
  replace F2 := Lib.hid (F2.out.ext hE0)
  have HE := Lib.hid hE0
  clear hE0
  have F6 : Hid (NumIs w5 (.agg #[.bool t1, .slice B1 m1 d1]) (denF (q))) := F2.out.den
  exact fin_Num rfl rfl B4.out (by rw [← Hq.out]; exact F6.out) HE.out

theorem Nden_any (a : Value) (q : Rat) (w : World) (ha : NRatIs w a q) : Calls Tryz.prog 129 #[a] w (RetNum w (q.den : Int)) := by
  by_cases h : q.den = 1
  · exact Nden_one a q w ha h
  · exact Nden_big a q w ha h

set_option maxHeartbeats 2000000 in
set_option maxRecDepth 100000 in
theorem NDen_any (a : Value) (q : Rat) (w : World) (ha : NRatIs w a q) :
    Calls Tryz.prog 78 #[a] w (RetNum w (q.den : Int)) := by
  obtain ⟨s1, A1, l1, c1, t1, B1, m1, d1, rfl⟩ := ha.shp
  have F2 : Hid (NRatIs w (.agg #[.bool s1, .slice A1 l1 c1, .bool t1, .slice B1 m1 d1]) (q)) := ha
  clear ha
  go_enter Tryz.func78, Tryz.ntmps78
  go_wp2_with fail
  generalize hwb : World.alloc (World.alloc w _) _ = w5
  obtain ⟨b_B3, b_B4, hE0⟩ := blocks2 hwb
  clear hwb
  have B3 := Lib.hid b_B3
  have B4 := Lib.hid b_B4
  clear b_B3 b_B4
  replace F2 := Lib.hid (F2.out.ext hE0)
  have HE := Lib.hid hE0
  clear hE0
  refine (Nden_any _ (q) _ F2.out).mono ?_
  rintro e w6 ⟨_, rfl, hI, hF⟩
  obtain ⟨s7, A7, l7, c7, rfl⟩ := hI.shp
  replace B3 := Lib.hid (B3.out.ext hF)
  replace B4 := Lib.hid (B4.out.ext hF)
  replace F2 := Lib.hid (F2.out.ext hF)
  replace HE := Lib.hid (HE.out.trans hF)
  have F8 : Hid (NumIs w6 (.agg #[.bool s7, .slice A7 l7 c7]) (((q).den : Int))) := hI
  clear hF hI
  obtain ⟨c9_0, c9_1, c9_2, c9_3, f9_0, f9_1, f9_2, f9_3⟩ := B3.out.cell4
  obtain ⟨c10_0, c10_1, f10_0, f10_1⟩ := B4.out.cell2
  go_wp2
  clear c9_0 c9_1 c9_2 c9_3 f9_0 f9_1 f9_2 f9_3 c10_0 c10_1 f10_0 f10_1
  have hFs : Fr (fun i => i = (w.heap.size + 1)) w6 ((w6.setCell ⟨(w.heap.size + 1), 0, none⟩ (.bool s7)).setCell ⟨(w.heap.size + 1), 1, none⟩ (.slice A7 l7 c7)) := (((Fr.refl (fun i => i = (w.heap.size + 1)) _).setCell (p := ⟨(w.heap.size + 1), 0, none⟩) (Or.inl rfl) _).setCell (p := ⟨(w.heap.size + 1), 1, none⟩) (Or.inl rfl) _)
  replace F2 := Lib.hid (F2.out.oth B4.out noRow2 hFs)
  replace F8 := Lib.hid (F8.out.oth B4.out noRow2 hFs)
  replace B3 := Lib.hid (B3.out.fr hFs (by first | omega | (have := B3.out.lt; have := B4.out.lt; omega)))
  replace HE := Lib.hid (HE.out.next hFs (fun i hi e => by first | omega | (have := HE.out.size; have := B4.out.lt; omega)))
  have b_new : Blk 53 ((w6.setCell ⟨(w.heap.size + 1), 0, none⟩ (.bool s7)).setCell ⟨(w.heap.size + 1), 1, none⟩ (.slice A7 l7 c7)) (w.heap.size + 1) #[.bool s7, .slice A7 l7 c7] := ((B4.out.set_ 0 _).set_ 1 _)
  generalize ((w6.setCell ⟨(w.heap.size + 1), 0, none⟩ (.bool s7)).setCell ⟨(w.heap.size + 1), 1, none⟩ (.slice A7 l7 c7)) = w11 at *
  replace B4 := Lib.hid b_new; clear b_new hFs
  exact fin_Num rfl rfl B4.out (by exact F8.out) HE.out

end Go.Proofs.YtndafmjcelgnbaaGreatDoor

namespace Go.Proofs.YtndafmjcelgnbaaGreatDoor
open Go.RowKit

/-- the number of binary digits -/
def blen (n : Nat) : Nat := if n = 0 then 0 else n.log2 + 1
theorem blen_zero : blen 0 = 0 := rfl
theorem blen_lt (n : Nat) : n < 2 ^ blen n := by
  unfold blen
  split
  · rename_i h; subst h; decide
  · rename_i h; exact (Nat.log2_lt h).1 (Nat.lt_succ_self _)
theorem blen_le {n k : Nat} : blen n ≤ k ↔ n < 2 ^ k := by
  unfold blen
  split
  · rename_i h; subst h; simp [Nat.pow_pos]
  · rename_i h; rw [← Nat.log2_lt h]; omega
theorem blen_half {n : Nat} (h : 0 < n) : blen n = blen (n / 2) + 1 := by
  have h1 : blen (n / 2) + 1 ≤ blen n := by
    have : blen (n / 2) ≤ blen n - 1 := blen_le.2 (by
      have h2 := blen_lt n
      have h3 : 0 < blen n := by unfold blen; rw [if_neg (by omega)]; omega
      obtain ⟨k, hk⟩ : ∃ k, blen n = k + 1 := ⟨blen n - 1, by omega⟩
      rw [hk] at h2 ⊢
      rw [Nat.pow_succ] at h2
      show n / 2 < 2 ^ (k + 1 - 1)
      rw [Nat.add_sub_cancel]
      omega)
    have h3 : 0 < blen n := by unfold blen; rw [if_neg (by omega)]; omega
    omega
  have h2 : blen n ≤ blen (n / 2) + 1 := blen_le.2 (by
    have := blen_lt (n / 2)
    rw [Nat.pow_succ]
    omega)
  omega
theorem blen_eq_one {n : Nat} : blen n = 1 ↔ n = 1 := by
  constructor
  · intro h
    have h1 := blen_lt n
    rw [h] at h1
    rcases Nat.eq_zero_or_pos n with e | e
    · subst e; rw [blen_zero] at h; omega
    · omega
  · rintro rfl; decide
theorem blen_gt_one {n : Nat} : 1 < blen n ↔ 1 < n := by
  rcases Nat.lt_or_ge 1 n with h | h
  · have : ¬ blen n ≤ 1 := fun k => by have := blen_le.1 k; omega
    omega
  · have : blen n ≤ 1 := blen_le.2 (by omega)
    omega
/-- the top digit and the digits below it -/
theorem blen_top {B k t low : Nat} (hl : low < 2 ^ (B * k)) (ht : 0 < t) : blen (low + 2 ^ (B * k) * t) = B * k + blen t := by
  have h1 := blen_lt t
  have h2 : blen (low + 2 ^ (B * k) * t) ≤ B * k + blen t := blen_le.2 (by
    rw [Nat.pow_add]
    have : 2 ^ (B * k) * (t + 1) ≤ 2 ^ (B * k) * 2 ^ blen t := Nat.mul_le_mul_left _ h1
    rw [Nat.mul_add] at this
    omega)
  have h3 : ¬ blen (low + 2 ^ (B * k) * t) ≤ B * k + blen t - 1 := fun h => by
    have h4 := blen_le.1 h
    obtain ⟨j, hj⟩ : ∃ j, blen t = j + 1 := ⟨blen t - 1, by have := blen_half ht; omega⟩
    rw [hj, show B * k + (j + 1) - 1 = B * k + j by omega, Nat.pow_add] at h4
    have h5 : 2 ^ j ≤ t := by
      rcases Nat.lt_or_ge t (2 ^ j) with h | h
      · have := blen_le.2 h; omega
      · exact h
    have : 2 ^ (B * k) * 2 ^ j ≤ 2 ^ (B * k) * t := Nat.mul_le_mul_left _ h5
    omega
  have : 0 < blen t := by have := blen_half ht; omega
  omega

set_option maxHeartbeats 1000000 in
set_option maxRecDepth 100000 in
theorem NBits_any (a : Value) (x : Int) (w : World) (ha : NumIs w a x) (hx : NFits x) : Calls Tryz.prog 73 #[a] w (RetV w (.int .i64 (blen x.natAbs : Int))) := by
  obtain ⟨s, A, l, c, rfl⟩ := ha.shp
  have h1 := ha.mag
  have h0 := ha.len0
  obtain ⟨A', xs, c', he, hc, hX, hd, ht, hv⟩ := h1
  injection he with e1 e2 e3
  subst e1 e2 e3
  unfold NFits at hx
  rw [← hv, ← ml_len hd ht] at hx
  rw [← hv]
  clear ha h0 hv
  rcases Nat.eq_zero_or_pos xs.length with hl | hl
  · obtain rfl : xs = [] := List.length_eq_zero_iff.1 hl
    go_enter Tryz.func73, Tryz.ntmps73
    go_wp2
    go_ret
    exact ⟨rfl, (Fr.refl _ _).alloc _⟩
  · obtain ⟨k, hk⟩ : ∃ k, xs.length = k + 1 := ⟨xs.length - 1, by omega⟩
    obtain ⟨b, off, rfl, hb, hct⟩ := hX.at (i := k) (by omega)
    obtain ⟨t, et⟩ : ∃ t, xs[k]?.getD 0 = t := ⟨_, rfl⟩
    rw [et] at hct
    have ht0 : 0 < t := by have := ht k hk; omega
    have EV : val W32 xs = val W32 (xs.take k) + W32 ^ k * t := by
      have := val_take_succ (B := W32) (xs := xs) k (by omega)
      rw [List.take_of_length_le (by omega), et] at this
      exact this
    have hlow := val_lt (hd.take k)
    rw [List.length_take, Nat.min_eq_left (by omega), W32_pow] at hlow
    have HB : Hid (blen (val W32 xs) = 32 * k + blen t) := by
      unfold Hid
      rw [EV, W32_pow]
      exact blen_top hlow ht0
    have htW : t < W32 := et ▸ hd.getD W32_pos k
    have hbt : blen t ≤ 32 := blen_le.2 (by rw [W32_eq] at htW; exact htW)
    obtain ⟨r, er⟩ : ∃ r, blen (val W32 xs) = r := ⟨_, rfl⟩
    rw [er] at HB ⊢
    have hne : b ≠ w.heap.size := Nat.ne_of_lt hb
    rw [hk]
    clear hX hd ht EV hlow et er htW hc hl
    have g0 : (((k : Int) + 1) == 0) = false := by simp; omega
    go_enter Tryz.func73, Tryz.ntmps73
    go_wp2
    go_loop [3, 4] (fun nv tv => ∃ n t' : Nat, nv = .int .i64 (n : Int) ∧ tv = .int .u32 (t' : Int) ∧ Hid (n + blen t' = r) ∧ n ≤ 32 * k + 32) (fun _ tv => (intOf tv).toNat)
    case atStart => exact ⟨32 * k, t, by go_num, rfl, by have := HB.out; unfold Hid; omega, by omega⟩
    case round =>
      obtain ⟨n, t', rfl, rfl, hR, hn⟩ := hrel
      by_cases hz : 0 < t'
      · have hR2 : Hid (n + 1 + blen (t' / 2) = r) := by have h1 := hR.out; rw [blen_half hz] at h1; unfold Hid; omega
        have hle : n + 1 ≤ 32 * k + 32 := by
          have h1 := hR.out; have h2 := HB.out; rw [blen_half hz] at h1; omega
        have q1 : (t' : Int) / 2 = ((t' / 2 : Nat) : Int) := rfl
        have hlt : t' / 2 < t' := by omega
        obtain ⟨t2, et2⟩ : ∃ t2, t' / 2 = t2 := ⟨_, rfl⟩
        rw [et2] at hR2 q1 hlt
        clear et2
        go_wp2
        go_round
        case rel => exact ⟨n + 1, t2, by go_num, rfl, hR2, hle⟩
        case measure => simp [intOf]; omega
      · obtain rfl : t' = 0 := by omega
        have hR2 : Hid (n = r) := by have h1 := hR.out; rw [blen_zero] at h1; exact h1
        go_wp2
        go_ret
        exact ⟨by rw [hR2.out]; rfl, (Fr.refl _ _).alloc _⟩

theorem MagIs.inj {w : World} {v : Value} {m n : Nat} (h : MagIs w v m) (k : MagIs w v n) : m = n := by
  obtain ⟨A, xs, c, rfl, _, hX, _, _, rfl⟩ := h
  obtain ⟨A', ys, c', he, _, hY, _, _, rfl⟩ := k
  injection he with e1 e2 e3
  subst e1
  have : xs = ys := by
    apply List.ext_getElem e2
    intro i h1 h2
    obtain ⟨b, o, rfl, _, c1⟩ := hX.at h1
    obtain ⟨b', o', e', _, c2⟩ := hY.at h2
    injection e' with e'
    injection e' with e3 e4
    subst e3 e4
    rw [c1] at c2
    injection c2 with c2
    injection c2 with _ c2
    rw [List.getElem?_eq_getElem h1, List.getElem?_eq_getElem h2] at c2
    simp only [Option.getD_some] at c2
    omega
  rw [this]
open Classical in
noncomputable def magVal (w : World) (v : Value) : Nat := if h : ∃ n, MagIs w v n then Classical.choose h else 0
theorem magVal_eq {w : World} {v : Value} {n : Nat} (h : MagIs w v n) : magVal w v = n := by
  have hx : ∃ n, MagIs w v n := ⟨n, h⟩
  unfold magVal
  rw [dif_pos hx]
  exact (Classical.choose_spec hx).inj h
theorem MagIs.len_zero {w : World} {A : Option Addr} {l c n : Nat} (h : MagIs w (.slice A l c) n) : (n = 0 ↔ l = 0) ∧ l = ml n := by
  obtain ⟨A', xs, c', he, _, _, hd, ht, hv⟩ := h
  injection he with _ he
  have hl := ml_len hd ht
  rw [hv] at hl
  refine ⟨⟨fun e => ?_, fun e => ?_⟩, by omega⟩
  · rw [e, ml_zero] at hl; omega
  · rw [e] at he
    have : xs = [] := List.length_eq_zero_iff.1 he.symm
    rw [this] at hv
    simpa using hv.symm

set_option maxHeartbeats 1000000 in
set_option maxRecDepth 100000 in
theorem NGcd_any (a b : Value) (x y : Int) (w : World) (ha : NumIs w a x) (hb : NumIs w b y) (hx : NFits x) (hy : NFits y) : Calls Tryz.prog 74 #[a, b] w (RetNum w (Int.gcd x y : Int)) := by
  obtain ⟨s, A, l, c, rfl⟩ := ha.shp
  obtain ⟨t, B, m, d, rfl⟩ := hb.shp
  have HM := Lib.hid ha.mag
  have HN := Lib.hid hb.mag
  have HX : Hid (ml x.natAbs ≤ 1048576) := hx
  have HY : Hid (ml y.natAbs ≤ 1048576) := hy
  obtain ⟨r, er⟩ : ∃ r, Int.gcd x y = r := ⟨_, rfl⟩
  have HR : Hid (Nat.gcd x.natAbs y.natAbs = r) := er
  rw [er]
  clear ha hb hx hy er
  go_enter Tryz.func74, Tryz.ntmps74
  go_wp2_with fail
  generalize hwb : World.alloc (World.alloc (World.alloc w _) _) _ = w1
  obtain ⟨b0, b1, b2, hE0⟩ := blocks3 hwb
  clear hwb
  have HB2 := Lib.hid b2
  have HE := Lib.hid hE0
  replace HM := Lib.hid (HM.out.ext hE0)
  replace HN := Lib.hid (HN.out.ext hE0)
  obtain ⟨c0, c1, f0, f1⟩ := b0.cell2
  obtain ⟨c2, c3, f2, f3⟩ := b1.cell2
  clear b0 b1 b2 hE0
  go_quiet (fail)
  clear c0 c1 f0 f1 c2 c3 f2 f3
  go_wp2_with fail
  go_loopw [5, 6, 7, 8] (fun xv yv _ _ wr => ∃ (u v : Nat) (A' B' : Option Addr) (l' c' m' d' : Nat), xv = .slice A' l' c' ∧ yv = .slice B' m' d' ∧ Hid (MagIs wr (.slice A' l' c') u) ∧ Hid (MagIs wr (.slice B' m' d') v) ∧ Hid (ml u ≤ 1048576) ∧ Hid (ml v ≤ 1048576) ∧ Hid (Nat.gcd u v = r) ∧ Hid (Ext w1 wr)) (fun _ yv _ _ wr => magVal wr yv)
  case atStart => exact ⟨_, _, _, _, _, _, _, _, rfl, rfl, HM.out.ext ((Fr.refl _ _).drewN _), HN.out.ext ((Fr.refl _ _).drewN _), HX, HY, HR, (Fr.refl _ _).drewN _⟩
  case round =>
    obtain ⟨u, v, A', B', l', c', m', d', rfl, rfl, hU, hV, hu, hv, hG, hF⟩ := hrel
    obtain ⟨z1, z2⟩ := hV.out.len_zero
    have hm' : m' ≤ 1048576 := by have := hv.out; omega
    by_cases hm : m' = 0
    · subst hm
      have hv0 : v = 0 := z1.2 rfl
      have HG : Hid (u = r) := by have := hG.out; rw [hv0, Nat.gcd_zero_right] at this; exact this
      have HB := Lib.hid (HB2.out.ext hF.out)
      have HEE := Lib.hid (HE.out.trans hF.out)
      clear z1 z2 hv0
      go_wp2_with fail
      refine (make1_ret false _ u _ hU.out).mono ?_
      rintro e w2 ⟨_, rfl, hI, hF2⟩
      obtain ⟨s2, A2, l2, c2, rfl⟩ := hI.shp
      have HI := Lib.hid hI
      have HB' := Lib.hid (HB.out.ext hF2)
      have HE' := Lib.hid (HEE.out.trans hF2)
      obtain ⟨k0, k1, k2, k3⟩ := HB'.out.cell2
      clear hI hF2
      go_wp2
      have hFs : Fr (fun i => i = (w.heap.size + 1 + 1)) w2 ((w2.setCell ⟨w.heap.size + 1 + 1, 0, none⟩ (.bool s2)).setCell ⟨w.heap.size + 1 + 1, 1, none⟩ (.slice A2 l2 c2)) := ((Fr.refl (fun i => i = (w.heap.size + 1 + 1)) _).setCell (p := ⟨w.heap.size + 1 + 1, 0, none⟩) (Or.inl rfl) _).setCell (p := ⟨w.heap.size + 1 + 1, 1, none⟩) (Or.inl rfl) _
      exact fin_Num rfl rfl ((HB'.out.set_ 0 _).set_ 1 _) (by rw [← HG.out]; exact HI.out.oth HB'.out noRow2 hFs) (HE'.out.next hFs (fun i hi e => by omega))
    · have hm0 : 0 < m' := by omega
      have hv0 : 0 < v := by rcases Nat.eq_zero_or_pos v with e | e; · exact absurd (z1.1 e) hm
                             · exact e
      have HG : Hid (Nat.gcd v (u % v) = r) := by have := hG.out; rw [Nat.gcd_comm, Nat.gcd_rec, Nat.gcd_comm] at this; exact this
      have hml := Lib.hid (Nat.le_trans (ml_mono (Nat.le_of_lt (Nat.mod_lt u hv0))) hv.out)
      have hlt := Lib.hid (Nat.mod_lt u hv0)
      have HC := Lib.hid (divMag_any _ _ u v wr hU.out hV.out hu.out hv.out hv0)
      clear z1 z2 hv0 hm hG
      go_wp2_with fail
      refine HC.out.mono ?_
      rintro e w2 ⟨_, _, rfl, hq, hr, hF2⟩
      obtain ⟨A2, l2, c2, rfl⟩ := hq.slice
      obtain ⟨A3, l3, c3, rfl⟩ := hr.slice
      have HQr := Lib.hid hr
      have HV2 := Lib.hid (hV.out.ext hF2)
      have HF2 := Lib.hid (hF.out.trans hF2)
      have hme : Hid (magVal wr (.slice B' m' d') = v) := magVal_eq hV.out
      have hme2 : Hid (magVal w2 (.slice A3 l3 c3) = u % v) := magVal_eq hr
      clear hq hr hF2 HC
      go_wp2
      go_roundw
      case rel => exact ⟨v, u % v, _, _, _, _, _, _, rfl, rfl, HV2, HQr, hv, hml, HG, HF2⟩
      case measure => rw [hme.out, hme2.out]; exact hlt.out
end Go.Proofs.YtndafmjcelgnbaaGreatDoor

namespace Go.Proofs.YtndafmjcelgnbaaGreatDoor
open Go.RowKit

theorem NFits.le {x y : Int} (h : NFits x) (hl : y.natAbs ≤ x.natAbs) : NFits y := Nat.le_trans (ml_mono hl) h
theorem NFits.gcd {x y : Int} (h : NFits y) (h0 : y ≠ 0) : NFits (Int.gcd x y : Int) := h.le (by
  have : Int.gcd x y ≤ y.natAbs := Nat.gcd_le_right _ (by omega)
  omega)
theorem NFits.tdiv {x y : Int} (h : NFits x) : NFits (x.tdiv y) := h.le (by rw [Int.natAbs_tdiv]; exact Nat.div_le_self _ _)
theorem gcd_pos_of {x y : Int} (h : 0 < y) : 0 < Int.gcd x y := by
  rcases Nat.eq_zero_or_pos (Int.gcd x y) with e | e
  · have := (Int.gcd_eq_zero_iff.1 e).2; omega
  · exact e
/-- sizes of rational numbers -/
def RFits (q : Rat) : Prop := ml q.num.natAbs ≤ 100000 ∧ ml q.den ≤ 100000
theorem NFits.add {x y : Int} {k : Nat} (hx : ml x.natAbs ≤ k) (hy : ml y.natAbs ≤ k) (hk : k ≤ 1000000) : NFits (x + y) := by
  have h1 : ml (x.natAbs + y.natAbs) ≤ k + 1 := ml_add hx hy
  have h2 : ml (x + y).natAbs ≤ ml (x.natAbs + y.natAbs) := ml_mono (Int.natAbs_add_le x y)
  unfold NFits
  omega
theorem rneg_num (q : Rat) : (-q).num = -q.num := rfl
theorem rneg_den (q : Rat) : (-q).den = q.den := rfl
theorem RFits.neg {q : Rat} (h : RFits q) : RFits (-q) := by
  unfold RFits at *
  rw [rneg_num, rneg_den, Int.natAbs_neg]
  exact h

set_option maxHeartbeats 2000000 in
set_option maxRecDepth 100000 in
theorem NFrac_neg (a b : Value) (x y : Int) (q : Rat) (w : World) (ha : NumIs w a x) (hb : NumIs w b y) (hx : NFits x) (hy : NFits y) (h0 : y < 0) (hq : Rat.divInt x y = q) :
    Calls Tryz.prog 75 #[a, b] w (RetNRat w q) := by
  obtain ⟨s1, A1, l1, c1, rfl⟩ := ha.shp
  have F2 : Hid (NumIs w (.agg #[.bool s1, .slice A1 l1 c1]) (x)) := ha
  clear ha
  obtain ⟨s3, A3, l3, c3, rfl⟩ := hb.shp
  have F4 : Hid (NumIs w (.agg #[.bool s3, .slice A3 l3 c3]) (y)) := hb
  clear hb
  obtain rfl : s3 = true := F4.out.sneg h0
  have HFx : Hid (NFits (-x)) := hx.neg
  have HFy : Hid (NFits (-y)) := hy.neg
  have HY : Hid (0 < -y) := by unfold Hid; omega
  have HFg : Hid (NFits (Int.gcd (-x) (-y) : Int)) := NFits.gcd HFy.out (by have := HY.out; omega)
  have HFd : Hid (NFits ((-y).tdiv (Int.gcd (-x) (-y) : Int))) := NFits.tdiv HFy.out
  have HG0 : Hid ((Int.gcd (-x) (-y) : Int) ≠ 0) := by have := gcd_pos_of (x := -x) HY.out; unfold Hid; omega
  have Hq : Hid (Rat.divInt (-x) (-y) = q) := by unfold Hid; rw [Rat.neg_divInt_neg]; exact hq
  clear hx hy h0 hq
  go_enter Tryz.func75, Tryz.ntmps75
  go_wp2_with fail
  generalize hwb : World.alloc (World.alloc (World.alloc w _) _) _ = w8
  obtain ⟨b_B5, b_B6, b_B7, hE0⟩ := blocks3 hwb
  clear hwb
  have B5 := Lib.hid b_B5
  have B6 := Lib.hid b_B6
  have B7 := Lib.hid b_B7
  clear b_B5 b_B6 b_B7
  replace F2 := Lib.hid (F2.out.ext hE0)
  replace F4 := Lib.hid (F4.out.ext hE0)
  have HE := Lib.hid hE0
  clear hE0
  refine wp_region_T 4 (fun W' => Blk 53 W' w.heap.size #[.bool s1, .slice A1 l1 c1] ∧ Blk 53 W' (w.heap.size + 1) #[.bool true, .slice A3 l3 c3] ∧ Blk 55 W' (w.heap.size + 1 + 1) #[.bool false, .slice none 0 0, .bool false, .slice none 0 0]) follows_mixed' ?_
  replace B5 := Lib.hid (B5.out.ext (Fr.refl _ _).drew)
  replace B6 := Lib.hid (B6.out.ext (Fr.refl _ _).drew)
  replace B7 := Lib.hid (B7.out.ext (Fr.refl _ _).drew)
  replace F2 := Lib.hid (F2.out.ext (Fr.refl _ _).drew)
  replace F4 := Lib.hid (F4.out.ext (Fr.refl _ _).drew)
  replace HE := Lib.hid (HE.out.trans (Fr.refl _ _).drew)
  generalize w8.drew = w9 at *
  have hS := (⟨B5.out, B6.out, B7.out⟩ : (fun W' => Blk 53 W' w.heap.size #[.bool s1, .slice A1 l1 c1] ∧ Blk 53 W' (w.heap.size + 1) #[.bool true, .slice A3 l3 c3] ∧ Blk 55 W' (w.heap.size + 1 + 1) #[.bool false, .slice none 0 0, .bool false, .slice none 0 0]) w9)
  refine wpT_take 0 rfl (by kernel_rfl) (fun _ _ _ h => h) hS (fun _ => yl_NumInt (g := w.heap.size) (off := 0) (x := .bool s1) (y := .slice A1 l1 c1) rfl rfl (by kernel_rfl) (fun _ h => Blk.two (h.1) 0 rfl rfl)) (fun hS => ?_)
  refine wpT_take 2 rfl (by kernel_rfl) (fun _ _ _ h => h) hS (fun _ => yl_NumInt (g := (w.heap.size + 1)) (off := 0) (x := .bool true) (y := .slice A3 l3 c3) rfl rfl (by kernel_rfl) (fun _ h => Blk.two (h.2.1) 0 rfl rfl)) (fun hS => ?_)
  refine wpT_only 1 rfl (by kernel_rfl) rfl (fun K hK => ?_)
  go_simp
  clear hS
  refine (NNeg_any _ (x) _ F2.out).mono ?_
  rintro e w10 ⟨_, rfl, hI, hF⟩
  obtain ⟨s11, A11, l11, c11, rfl⟩ := hI.shp
  replace B5 := Lib.hid (B5.out.ext hF)
  replace B6 := Lib.hid (B6.out.ext hF)
  replace B7 := Lib.hid (B7.out.ext hF)
  replace F2 := Lib.hid (F2.out.ext hF)
  replace F4 := Lib.hid (F4.out.ext hF)
  replace HE := Lib.hid (HE.out.trans hF)
  have F12 : Hid (NumIs w10 (.agg #[.bool s11, .slice A11 l11 c11]) (-(x))) := hI
  clear hF hI
  have hS := (⟨B5.out, B6.out, B7.out⟩ : (fun W' => Blk 53 W' w.heap.size #[.bool s1, .slice A1 l1 c1] ∧ Blk 53 W' (w.heap.size + 1) #[.bool true, .slice A3 l3 c3] ∧ Blk 55 W' (w.heap.size + 1 + 1) #[.bool false, .slice none 0 0, .bool false, .slice none 0 0]) w10)
  refine hK _ _ hS ?_
  clear hK
  refine wpT_only 3 rfl (by kernel_rfl) rfl (fun K hK => ?_)
  go_simp
  clear hS
  refine (NNeg_any _ (y) _ F4.out).mono ?_
  rintro e w13 ⟨_, rfl, hI, hF⟩
  obtain ⟨s14, A14, l14, c14, rfl⟩ := hI.shp
  replace B5 := Lib.hid (B5.out.ext hF)
  replace B6 := Lib.hid (B6.out.ext hF)
  replace B7 := Lib.hid (B7.out.ext hF)
  replace F2 := Lib.hid (F2.out.ext hF)
  replace F4 := Lib.hid (F4.out.ext hF)
  replace F12 := Lib.hid (F12.out.ext hF)
  replace HE := Lib.hid (HE.out.trans hF)
  have F15 : Hid (NumIs w13 (.agg #[.bool s14, .slice A14 l14 c14]) (-(y))) := hI
  clear hF hI
  have hS := (⟨B5.out, B6.out, B7.out⟩ : (fun W' => Blk 53 W' w.heap.size #[.bool s1, .slice A1 l1 c1] ∧ Blk 53 W' (w.heap.size + 1) #[.bool true, .slice A3 l3 c3] ∧ Blk 55 W' (w.heap.size + 1 + 1) #[.bool false, .slice none 0 0, .bool false, .slice none 0 0]) w13)
  refine hK _ _ hS ?_
  clear hK
  refine wpT_tail (l := [_, _]) 4 rfl (by kernel_rfl) ?_
  clear hS
  obtain ⟨c16_0, c16_1, f16_0, f16_1⟩ := B5.out.cell2
  obtain ⟨c17_0, c17_1, f17_0, f17_1⟩ := B6.out.cell2
  obtain ⟨c18_0, c18_1, c18_2, c18_3, f18_0, f18_1, f18_2, f18_3⟩ := B7.out.cell4
  go_wp2_with fail
  clear c16_0 c16_1 f16_0 f16_1 c17_0 c17_1 f17_0 f17_1 c18_0 c18_1 c18_2 c18_3 f18_0 f18_1 f18_2 f18_3
  have hFs : Fr (fun i => i = w.heap.size) w13 ((w13.setCell ⟨w.heap.size, 0, none⟩ (.bool s11)).setCell ⟨w.heap.size, 1, none⟩ (.slice A11 l11 c11)) := (((Fr.refl (fun i => i = w.heap.size) _).setCell (p := ⟨w.heap.size, 0, none⟩) (Or.inl rfl) _).setCell (p := ⟨w.heap.size, 1, none⟩) (Or.inl rfl) _)
  replace F2 := Lib.hid (F2.out.oth B5.out noRow2 hFs)
  replace F4 := Lib.hid (F4.out.oth B5.out noRow2 hFs)
  replace F12 := Lib.hid (F12.out.oth B5.out noRow2 hFs)
  replace F15 := Lib.hid (F15.out.oth B5.out noRow2 hFs)
  replace B6 := Lib.hid (B6.out.fr hFs (by first | omega | (have := B6.out.lt; have := B5.out.lt; omega)))
  replace B7 := Lib.hid (B7.out.fr hFs (by first | omega | (have := B7.out.lt; have := B5.out.lt; omega)))
  replace HE := Lib.hid (HE.out.next hFs (fun i hi e => by first | omega | (have := HE.out.size; have := B5.out.lt; omega)))
  have b_new : Blk 53 ((w13.setCell ⟨w.heap.size, 0, none⟩ (.bool s11)).setCell ⟨w.heap.size, 1, none⟩ (.slice A11 l11 c11)) w.heap.size #[.bool s11, .slice A11 l11 c11] := ((B5.out.set_ 0 _).set_ 1 _)
  generalize ((w13.setCell ⟨w.heap.size, 0, none⟩ (.bool s11)).setCell ⟨w.heap.size, 1, none⟩ (.slice A11 l11 c11)) = w19 at *
  replace B5 := Lib.hid b_new; clear b_new hFs
  have hFs : Fr (fun i => i = (w.heap.size + 1)) w19 ((w19.setCell ⟨(w.heap.size + 1), 0, none⟩ (.bool s14)).setCell ⟨(w.heap.size + 1), 1, none⟩ (.slice A14 l14 c14)) := (((Fr.refl (fun i => i = (w.heap.size + 1)) _).setCell (p := ⟨(w.heap.size + 1), 0, none⟩) (Or.inl rfl) _).setCell (p := ⟨(w.heap.size + 1), 1, none⟩) (Or.inl rfl) _)
  replace F2 := Lib.hid (F2.out.oth B6.out noRow2 hFs)
  replace F4 := Lib.hid (F4.out.oth B6.out noRow2 hFs)
  replace F12 := Lib.hid (F12.out.oth B6.out noRow2 hFs)
  replace F15 := Lib.hid (F15.out.oth B6.out noRow2 hFs)
  replace B5 := Lib.hid (B5.out.fr hFs (by first | omega | (have := B5.out.lt; have := B6.out.lt; omega)))
  replace B7 := Lib.hid (B7.out.fr hFs (by first | omega | (have := B7.out.lt; have := B6.out.lt; omega)))
  replace HE := Lib.hid (HE.out.next hFs (fun i hi e => by first | omega | (have := HE.out.size; have := B6.out.lt; omega)))
  have b_new : Blk 53 ((w19.setCell ⟨(w.heap.size + 1), 0, none⟩ (.bool s14)).setCell ⟨(w.heap.size + 1), 1, none⟩ (.slice A14 l14 c14)) (w.heap.size + 1) #[.bool s14, .slice A14 l14 c14] := ((B6.out.set_ 0 _).set_ 1 _)
  generalize ((w19.setCell ⟨(w.heap.size + 1), 0, none⟩ (.bool s14)).setCell ⟨(w.heap.size + 1), 1, none⟩ (.slice A14 l14 c14)) = w20 at *
  replace B6 := Lib.hid b_new; clear b_new hFs
  refine (NGcd_any _ _ (-(x)) (-(y)) _ F12.out F15.out HFx.out HFy.out).mono ?_
  rintro e w21 ⟨_, rfl, hI, hF⟩
  obtain ⟨s22, A22, l22, c22, rfl⟩ := hI.shp
  replace B5 := Lib.hid (B5.out.ext hF)
  replace B6 := Lib.hid (B6.out.ext hF)
  replace B7 := Lib.hid (B7.out.ext hF)
  replace F2 := Lib.hid (F2.out.ext hF)
  replace F4 := Lib.hid (F4.out.ext hF)
  replace F12 := Lib.hid (F12.out.ext hF)
  replace F15 := Lib.hid (F15.out.ext hF)
  replace HE := Lib.hid (HE.out.trans hF)
  have F23 : Hid (NumIs w21 (.agg #[.bool s22, .slice A22 l22 c22]) ((Int.gcd (-(x)) (-(y)) : Int))) := hI
  clear hF hI
  obtain ⟨c25_0, c25_1, f25_0, f25_1⟩ := B5.out.cell2
  obtain ⟨c26_0, c26_1, f26_0, f26_1⟩ := B6.out.cell2
  obtain ⟨c27_0, c27_1, c27_2, c27_3, f27_0, f27_1, f27_2, f27_3⟩ := B7.out.cell4
  go_wp2_with fail
  clear c25_0 c25_1 f25_0 f25_1 c26_0 c26_1 f26_0 f26_1 c27_0 c27_1 c27_2 c27_3 f27_0 f27_1 f27_2 f27_3
  generalize hwb : World.alloc w21 _ = w28
  obtain ⟨b_B24, hF⟩ := blocks1 hwb
  clear hwb
  have hlt29 := B5.out.lt
  have hlt30 := B6.out.lt
  have hlt31 := B7.out.lt
  generalize w21.heap.size = g28 at *
  have B24 := Lib.hid b_B24; clear b_B24
  replace B5 := Lib.hid (B5.out.ext hF)
  replace B6 := Lib.hid (B6.out.ext hF)
  replace B7 := Lib.hid (B7.out.ext hF)
  replace F2 := Lib.hid (F2.out.ext hF)
  replace F4 := Lib.hid (F4.out.ext hF)
  replace F12 := Lib.hid (F12.out.ext hF)
  replace F15 := Lib.hid (F15.out.ext hF)
  replace F23 := Lib.hid (F23.out.ext hF)
  replace HE := Lib.hid (HE.out.trans hF)
  clear hF
  refine (NBits_any _ ((Int.gcd (-(x)) (-(y)) : Int)) _ F23.out (by first | exact HFg.out | exact HFy.out | exact HFd.out)).mono ?_
  obtain ⟨k32, ek32⟩ : ∃ k, blen ((Int.gcd (-(x)) (-(y)) : Int)).natAbs = k := ⟨_, rfl⟩
  rw [ek32]
  by_cases hb32 : 1 < ((Int.gcd (-(x)) (-(y)) : Int)).natAbs
  · have hk1 : 1 < k32 := by rw [← ek32]; exact blen_gt_one.2 hb32
    have hk2 : decide ((1 : Int) < (k32 : Int)) = true := by rw [decide_eq_true_eq]; omega
    have hk3 : decide (1 < k32) = true := by rw [decide_eq_true_eq]; omega
    have Hb32 := Lib.hid hb32
    clear ek32 hb32
    rintro e w33 ⟨rfl, hF⟩
    replace B5 := Lib.hid (B5.out.ext hF)
    replace B6 := Lib.hid (B6.out.ext hF)
    replace B7 := Lib.hid (B7.out.ext hF)
    replace B24 := Lib.hid (B24.out.ext hF)
    replace F2 := Lib.hid (F2.out.ext hF)
    replace F4 := Lib.hid (F4.out.ext hF)
    replace F12 := Lib.hid (F12.out.ext hF)
    replace F15 := Lib.hid (F15.out.ext hF)
    replace F23 := Lib.hid (F23.out.ext hF)
    replace HE := Lib.hid (HE.out.trans hF)
    clear hF
    have HQ : Hid (q.num = (-x).tdiv (Int.gcd (-x) (-y) : Int) ∧ (q.den : Int) = (-y).tdiv (Int.gcd (-x) (-y) : Int)) := by rw [← Hq.out]; exact frac_gcd HY.out
    obtain ⟨c34_0, c34_1, f34_0, f34_1⟩ := B5.out.cell2
    obtain ⟨c35_0, c35_1, f35_0, f35_1⟩ := B6.out.cell2
    obtain ⟨c36_0, c36_1, c36_2, c36_3, f36_0, f36_1, f36_2, f36_3⟩ := B7.out.cell4
    obtain ⟨c37_0, c37_1, f37_0, f37_1⟩ := B24.out.cell2
    go_wp2_with fail
    clear c34_0 c34_1 f34_0 f34_1 c35_0 c35_1 f35_0 f35_1 c36_0 c36_1 c36_2 c36_3 f36_0 f36_1 f36_2 f36_3 c37_0 c37_1 f37_0 f37_1
    refine (NQuoRem_any _ _ (-(x)) ((Int.gcd (-(x)) (-(y)) : Int)) _ F12.out F23.out (by first | exact HFx.out | exact HFy.out) HFg.out HG0.out).mono ?_
    rintro e w38 ⟨_, _, rfl, hI, hJ, hF⟩
    obtain ⟨s39, A39, l39, c39, rfl⟩ := hI.shp
    obtain ⟨s40, A40, l40, c40, rfl⟩ := hJ.shp
    replace B5 := Lib.hid (B5.out.ext hF)
    replace B6 := Lib.hid (B6.out.ext hF)
    replace B7 := Lib.hid (B7.out.ext hF)
    replace B24 := Lib.hid (B24.out.ext hF)
    replace F2 := Lib.hid (F2.out.ext hF)
    replace F4 := Lib.hid (F4.out.ext hF)
    replace F12 := Lib.hid (F12.out.ext hF)
    replace F15 := Lib.hid (F15.out.ext hF)
    replace F23 := Lib.hid (F23.out.ext hF)
    replace HE := Lib.hid (HE.out.trans hF)
    have F41 : Hid (NumIs w38 (.agg #[.bool s39, .slice A39 l39 c39]) ((-(x)).tdiv ((Int.gcd (-(x)) (-(y)) : Int)))) := hI
    have F42 : Hid (NumIs w38 (.agg #[.bool s40, .slice A40 l40 c40]) ((-(x)).tmod ((Int.gcd (-(x)) (-(y)) : Int)))) := hJ
    clear hF hI hJ
    obtain ⟨c43_0, c43_1, f43_0, f43_1⟩ := B5.out.cell2
    obtain ⟨c44_0, c44_1, f44_0, f44_1⟩ := B6.out.cell2
    obtain ⟨c45_0, c45_1, c45_2, c45_3, f45_0, f45_1, f45_2, f45_3⟩ := B7.out.cell4
    obtain ⟨c46_0, c46_1, f46_0, f46_1⟩ := B24.out.cell2
    go_wp2_with fail
    clear c43_0 c43_1 f43_0 f43_1 c44_0 c44_1 f44_0 f44_1 c45_0 c45_1 c45_2 c45_3 f45_0 f45_1 f45_2 f45_3 c46_0 c46_1 f46_0 f46_1
    have hFs : Fr (fun i => i = w.heap.size) w38 ((w38.setCell ⟨w.heap.size, 0, none⟩ (.bool s39)).setCell ⟨w.heap.size, 1, none⟩ (.slice A39 l39 c39)) := (((Fr.refl (fun i => i = w.heap.size) _).setCell (p := ⟨w.heap.size, 0, none⟩) (Or.inl rfl) _).setCell (p := ⟨w.heap.size, 1, none⟩) (Or.inl rfl) _)
    replace F2 := Lib.hid (F2.out.oth B5.out noRow2 hFs)
    replace F4 := Lib.hid (F4.out.oth B5.out noRow2 hFs)
    replace F12 := Lib.hid (F12.out.oth B5.out noRow2 hFs)
    replace F15 := Lib.hid (F15.out.oth B5.out noRow2 hFs)
    replace F23 := Lib.hid (F23.out.oth B5.out noRow2 hFs)
    replace F41 := Lib.hid (F41.out.oth B5.out noRow2 hFs)
    replace F42 := Lib.hid (F42.out.oth B5.out noRow2 hFs)
    replace B6 := Lib.hid (B6.out.fr hFs (by first | omega | (have := B6.out.lt; have := B5.out.lt; omega)))
    replace B7 := Lib.hid (B7.out.fr hFs (by first | omega | (have := B7.out.lt; have := B5.out.lt; omega)))
    replace B24 := Lib.hid (B24.out.fr hFs (by first | omega | (have := B24.out.lt; have := B5.out.lt; omega)))
    replace HE := Lib.hid (HE.out.next hFs (fun i hi e => by first | omega | (have := HE.out.size; have := B5.out.lt; omega)))
    have b_new : Blk 53 ((w38.setCell ⟨w.heap.size, 0, none⟩ (.bool s39)).setCell ⟨w.heap.size, 1, none⟩ (.slice A39 l39 c39)) w.heap.size #[.bool s39, .slice A39 l39 c39] := ((B5.out.set_ 0 _).set_ 1 _)
    generalize ((w38.setCell ⟨w.heap.size, 0, none⟩ (.bool s39)).setCell ⟨w.heap.size, 1, none⟩ (.slice A39 l39 c39)) = w47 at *
    replace B5 := Lib.hid b_new; clear b_new hFs
    refine (NQuoRem_any _ _ (-(y)) ((Int.gcd (-(x)) (-(y)) : Int)) _ F15.out F23.out (by first | exact HFx.out | exact HFy.out) HFg.out HG0.out).mono ?_
    rintro e w48 ⟨_, _, rfl, hI, hJ, hF⟩
    obtain ⟨s49, A49, l49, c49, rfl⟩ := hI.shp
    obtain ⟨s50, A50, l50, c50, rfl⟩ := hJ.shp
    replace B5 := Lib.hid (B5.out.ext hF)
    replace B6 := Lib.hid (B6.out.ext hF)
    replace B7 := Lib.hid (B7.out.ext hF)
    replace B24 := Lib.hid (B24.out.ext hF)
    replace F2 := Lib.hid (F2.out.ext hF)
    replace F4 := Lib.hid (F4.out.ext hF)
    replace F12 := Lib.hid (F12.out.ext hF)
    replace F15 := Lib.hid (F15.out.ext hF)
    replace F23 := Lib.hid (F23.out.ext hF)
    replace F41 := Lib.hid (F41.out.ext hF)
    replace F42 := Lib.hid (F42.out.ext hF)
    replace HE := Lib.hid (HE.out.trans hF)
    have F51 : Hid (NumIs w48 (.agg #[.bool s49, .slice A49 l49 c49]) ((-(y)).tdiv ((Int.gcd (-(x)) (-(y)) : Int)))) := hI
    have F52 : Hid (NumIs w48 (.agg #[.bool s50, .slice A50 l50 c50]) ((-(y)).tmod ((Int.gcd (-(x)) (-(y)) : Int)))) := hJ
    clear hF hI hJ
    obtain ⟨c53_0, c53_1, f53_0, f53_1⟩ := B5.out.cell2
    obtain ⟨c54_0, c54_1, f54_0, f54_1⟩ := B6.out.cell2
    obtain ⟨c55_0, c55_1, c55_2, c55_3, f55_0, f55_1, f55_2, f55_3⟩ := B7.out.cell4
    obtain ⟨c56_0, c56_1, f56_0, f56_1⟩ := B24.out.cell2
    go_wp2_with fail
    clear c53_0 c53_1 f53_0 f53_1 c54_0 c54_1 f54_0 f54_1 c55_0 c55_1 c55_2 c55_3 f55_0 f55_1 f55_2 f55_3 c56_0 c56_1 f56_0 f56_1
    have hFs : Fr (fun i => i = (w.heap.size + 1)) w48 ((w48.setCell ⟨(w.heap.size + 1), 0, none⟩ (.bool s49)).setCell ⟨(w.heap.size + 1), 1, none⟩ (.slice A49 l49 c49)) := (((Fr.refl (fun i => i = (w.heap.size + 1)) _).setCell (p := ⟨(w.heap.size + 1), 0, none⟩) (Or.inl rfl) _).setCell (p := ⟨(w.heap.size + 1), 1, none⟩) (Or.inl rfl) _)
    replace F2 := Lib.hid (F2.out.oth B6.out noRow2 hFs)
    replace F4 := Lib.hid (F4.out.oth B6.out noRow2 hFs)
    replace F12 := Lib.hid (F12.out.oth B6.out noRow2 hFs)
    replace F15 := Lib.hid (F15.out.oth B6.out noRow2 hFs)
    replace F23 := Lib.hid (F23.out.oth B6.out noRow2 hFs)
    replace F41 := Lib.hid (F41.out.oth B6.out noRow2 hFs)
    replace F42 := Lib.hid (F42.out.oth B6.out noRow2 hFs)
    replace F51 := Lib.hid (F51.out.oth B6.out noRow2 hFs)
    replace F52 := Lib.hid (F52.out.oth B6.out noRow2 hFs)
    replace B5 := Lib.hid (B5.out.fr hFs (by first | omega | (have := B5.out.lt; have := B6.out.lt; omega)))
    replace B7 := Lib.hid (B7.out.fr hFs (by first | omega | (have := B7.out.lt; have := B6.out.lt; omega)))
    replace B24 := Lib.hid (B24.out.fr hFs (by first | omega | (have := B24.out.lt; have := B6.out.lt; omega)))
    replace HE := Lib.hid (HE.out.next hFs (fun i hi e => by first | omega | (have := HE.out.size; have := B6.out.lt; omega)))
    have b_new : Blk 53 ((w48.setCell ⟨(w.heap.size + 1), 0, none⟩ (.bool s49)).setCell ⟨(w.heap.size + 1), 1, none⟩ (.slice A49 l49 c49)) (w.heap.size + 1) #[.bool s49, .slice A49 l49 c49] := ((B6.out.set_ 0 _).set_ 1 _)
    generalize ((w48.setCell ⟨(w.heap.size + 1), 0, none⟩ (.bool s49)).setCell ⟨(w.heap.size + 1), 1, none⟩ (.slice A49 l49 c49)) = w57 at *
    replace B6 := Lib.hid b_new; clear b_new hFs
    refine (NBits_any _ ((-(y)).tdiv ((Int.gcd (-(x)) (-(y)) : Int))) _ F51.out (by first | exact HFg.out | exact HFy.out | exact HFd.out)).mono ?_
    obtain ⟨k58, ek58⟩ : ∃ k, blen ((-(y)).tdiv ((Int.gcd (-(x)) (-(y)) : Int))).natAbs = k := ⟨_, rfl⟩
    rw [ek58]
    by_cases hb58 : ((-(y)).tdiv ((Int.gcd (-(x)) (-(y)) : Int))).natAbs = 1
    · obtain rfl : k58 = 1 := by rw [← ek58]; exact blen_eq_one.2 hb58
      have Hb58 := Lib.hid hb58
      clear ek58 hb58
      rintro e w59 ⟨rfl, hF⟩
      replace B5 := Lib.hid (B5.out.ext hF)
      replace B6 := Lib.hid (B6.out.ext hF)
      replace B7 := Lib.hid (B7.out.ext hF)
      replace B24 := Lib.hid (B24.out.ext hF)
      replace F2 := Lib.hid (F2.out.ext hF)
      replace F4 := Lib.hid (F4.out.ext hF)
      replace F12 := Lib.hid (F12.out.ext hF)
      replace F15 := Lib.hid (F15.out.ext hF)
      replace F23 := Lib.hid (F23.out.ext hF)
      replace F41 := Lib.hid (F41.out.ext hF)
      replace F42 := Lib.hid (F42.out.ext hF)
      replace F51 := Lib.hid (F51.out.ext hF)
      replace F52 := Lib.hid (F52.out.ext hF)
      replace HE := Lib.hid (HE.out.trans hF)
      clear hF
      obtain ⟨c60_0, c60_1, f60_0, f60_1⟩ := B5.out.cell2
      obtain ⟨c61_0, c61_1, f61_0, f61_1⟩ := B6.out.cell2
      obtain ⟨c62_0, c62_1, c62_2, c62_3, f62_0, f62_1, f62_2, f62_3⟩ := B7.out.cell4
      obtain ⟨c63_0, c63_1, f63_0, f63_1⟩ := B24.out.cell2
      go_wp2
      clear c60_0 c60_1 f60_0 f60_1 c61_0 c61_1 f61_0 f61_1 c62_0 c62_1 c62_2 c62_3 f62_0 f62_1 f62_2 f62_3 c63_0 c63_1 f63_0 f63_1
      have hFs : Fr (fun i => i = (w.heap.size + 1)) w59 ((w59.setCell ⟨(w.heap.size + 1), 0, none⟩ (.bool false)).setCell ⟨(w.heap.size + 1), 1, none⟩ (.slice none 0 0)) := (((Fr.refl (fun i => i = (w.heap.size + 1)) _).setCell (p := ⟨(w.heap.size + 1), 0, none⟩) (Or.inl rfl) _).setCell (p := ⟨(w.heap.size + 1), 1, none⟩) (Or.inl rfl) _)
      replace F2 := Lib.hid (F2.out.oth B6.out noRow2 hFs)
      replace F4 := Lib.hid (F4.out.oth B6.out noRow2 hFs)
      replace F12 := Lib.hid (F12.out.oth B6.out noRow2 hFs)
      replace F15 := Lib.hid (F15.out.oth B6.out noRow2 hFs)
      replace F23 := Lib.hid (F23.out.oth B6.out noRow2 hFs)
      replace F41 := Lib.hid (F41.out.oth B6.out noRow2 hFs)
      replace F42 := Lib.hid (F42.out.oth B6.out noRow2 hFs)
      replace F51 := Lib.hid (F51.out.oth B6.out noRow2 hFs)
      replace F52 := Lib.hid (F52.out.oth B6.out noRow2 hFs)
      replace B5 := Lib.hid (B5.out.fr hFs (by first | omega | (have := B5.out.lt; have := B6.out.lt; omega)))
      replace B7 := Lib.hid (B7.out.fr hFs (by first | omega | (have := B7.out.lt; have := B6.out.lt; omega)))
      replace B24 := Lib.hid (B24.out.fr hFs (by first | omega | (have := B24.out.lt; have := B6.out.lt; omega)))
      replace HE := Lib.hid (HE.out.next hFs (fun i hi e => by first | omega | (have := HE.out.size; have := B6.out.lt; omega)))
      have b_new : Blk 53 ((w59.setCell ⟨(w.heap.size + 1), 0, none⟩ (.bool false)).setCell ⟨(w.heap.size + 1), 1, none⟩ (.slice none 0 0)) (w.heap.size + 1) #[.bool false, .slice none 0 0] := ((B6.out.set_ 0 _).set_ 1 _)
      generalize ((w59.setCell ⟨(w.heap.size + 1), 0, none⟩ (.bool false)).setCell ⟨(w.heap.size + 1), 1, none⟩ (.slice none 0 0)) = w64 at *
      replace B6 := Lib.hid b_new; clear b_new hFs
      have hFs : Fr (fun i => i = (w.heap.size + 1 + 1)) w64 ((((w64.setCell ⟨(w.heap.size + 1 + 1), 0, none⟩ (.bool s39)).setCell ⟨(w.heap.size + 1 + 1), 1, none⟩ (.slice A39 l39 c39)).setCell ⟨(w.heap.size + 1 + 1), 2, none⟩ (.bool false)).setCell ⟨(w.heap.size + 1 + 1), 3, none⟩ (.slice none 0 0)) := (((((Fr.refl (fun i => i = (w.heap.size + 1 + 1)) _).setCell (p := ⟨(w.heap.size + 1 + 1), 0, none⟩) (Or.inl rfl) _).setCell (p := ⟨(w.heap.size + 1 + 1), 1, none⟩) (Or.inl rfl) _).setCell (p := ⟨(w.heap.size + 1 + 1), 2, none⟩) (Or.inl rfl) _).setCell (p := ⟨(w.heap.size + 1 + 1), 3, none⟩) (Or.inl rfl) _)
      replace F2 := Lib.hid (F2.out.oth B7.out noRow4 hFs)
      replace F4 := Lib.hid (F4.out.oth B7.out noRow4 hFs)
      replace F12 := Lib.hid (F12.out.oth B7.out noRow4 hFs)
      replace F15 := Lib.hid (F15.out.oth B7.out noRow4 hFs)
      replace F23 := Lib.hid (F23.out.oth B7.out noRow4 hFs)
      replace F41 := Lib.hid (F41.out.oth B7.out noRow4 hFs)
      replace F42 := Lib.hid (F42.out.oth B7.out noRow4 hFs)
      replace F51 := Lib.hid (F51.out.oth B7.out noRow4 hFs)
      replace F52 := Lib.hid (F52.out.oth B7.out noRow4 hFs)
      replace B5 := Lib.hid (B5.out.fr hFs (by first | omega | (have := B5.out.lt; have := B7.out.lt; omega)))
      replace B6 := Lib.hid (B6.out.fr hFs (by first | omega | (have := B6.out.lt; have := B7.out.lt; omega)))
      replace B24 := Lib.hid (B24.out.fr hFs (by first | omega | (have := B24.out.lt; have := B7.out.lt; omega)))
      replace HE := Lib.hid (HE.out.next hFs (fun i hi e => by first | omega | (have := HE.out.size; have := B7.out.lt; omega)))
      have b_new : Blk 55 ((((w64.setCell ⟨(w.heap.size + 1 + 1), 0, none⟩ (.bool s39)).setCell ⟨(w.heap.size + 1 + 1), 1, none⟩ (.slice A39 l39 c39)).setCell ⟨(w.heap.size + 1 + 1), 2, none⟩ (.bool false)).setCell ⟨(w.heap.size + 1 + 1), 3, none⟩ (.slice none 0 0)) (w.heap.size + 1 + 1) #[.bool s39, .slice A39 l39 c39, .bool false, .slice none 0 0] := ((((B7.out.set_ 0 _).set_ 1 _).set_ 2 _).set_ 3 _)
      generalize ((((w64.setCell ⟨(w.heap.size + 1 + 1), 0, none⟩ (.bool s39)).setCell ⟨(w.heap.size + 1 + 1), 1, none⟩ (.slice A39 l39 c39)).setCell ⟨(w.heap.size + 1 + 1), 2, none⟩ (.bool false)).setCell ⟨(w.heap.size + 1 + 1), 3, none⟩ (.slice none 0 0)) = w65 at *
      replace B7 := Lib.hid b_new; clear b_new hFs
      have F66 : Hid (NumIs w65 (.agg #[.bool false, .slice none 0 0]) (0)) := NumIs.nil _
      exact fin_NRat rfl rfl B7.out (NRatIs.of (by rw [HQ.out.1]; exact F41.out) (by rw [denF_one (by have := HQ.out.2; have := Hb58.out; have := q.den_nz; omega)]; exact F66.out)) HE.out
    · have hk1 : k58 ≠ 1 := by rw [← ek58]; exact fun h => hb58 (blen_eq_one.1 h)
      have hk2 : ((k58 : Int) == 1) = false := by simp; omega
      have Hb58 := Lib.hid hb58
      clear ek58 hb58
      rintro e w67 ⟨rfl, hF⟩
      replace B5 := Lib.hid (B5.out.ext hF)
      replace B6 := Lib.hid (B6.out.ext hF)
      replace B7 := Lib.hid (B7.out.ext hF)
      replace B24 := Lib.hid (B24.out.ext hF)
      replace F2 := Lib.hid (F2.out.ext hF)
      replace F4 := Lib.hid (F4.out.ext hF)
      replace F12 := Lib.hid (F12.out.ext hF)
      replace F15 := Lib.hid (F15.out.ext hF)
      replace F23 := Lib.hid (F23.out.ext hF)
      replace F41 := Lib.hid (F41.out.ext hF)
      replace F42 := Lib.hid (F42.out.ext hF)
      replace F51 := Lib.hid (F51.out.ext hF)
      replace F52 := Lib.hid (F52.out.ext hF)
      replace HE := Lib.hid (HE.out.trans hF)
      clear hF
      obtain ⟨c68_0, c68_1, f68_0, f68_1⟩ := B5.out.cell2
      obtain ⟨c69_0, c69_1, f69_0, f69_1⟩ := B6.out.cell2
      obtain ⟨c70_0, c70_1, c70_2, c70_3, f70_0, f70_1, f70_2, f70_3⟩ := B7.out.cell4
      obtain ⟨c71_0, c71_1, f71_0, f71_1⟩ := B24.out.cell2
      go_wp2
      clear c68_0 c68_1 f68_0 f68_1 c69_0 c69_1 f69_0 f69_1 c70_0 c70_1 c70_2 c70_3 f70_0 f70_1 f70_2 f70_3 c71_0 c71_1 f71_0 f71_1
      have hFs : Fr (fun i => i = (w.heap.size + 1 + 1)) w67 ((((w67.setCell ⟨(w.heap.size + 1 + 1), 0, none⟩ (.bool s39)).setCell ⟨(w.heap.size + 1 + 1), 1, none⟩ (.slice A39 l39 c39)).setCell ⟨(w.heap.size + 1 + 1), 2, none⟩ (.bool s49)).setCell ⟨(w.heap.size + 1 + 1), 3, none⟩ (.slice A49 l49 c49)) := (((((Fr.refl (fun i => i = (w.heap.size + 1 + 1)) _).setCell (p := ⟨(w.heap.size + 1 + 1), 0, none⟩) (Or.inl rfl) _).setCell (p := ⟨(w.heap.size + 1 + 1), 1, none⟩) (Or.inl rfl) _).setCell (p := ⟨(w.heap.size + 1 + 1), 2, none⟩) (Or.inl rfl) _).setCell (p := ⟨(w.heap.size + 1 + 1), 3, none⟩) (Or.inl rfl) _)
      replace F2 := Lib.hid (F2.out.oth B7.out noRow4 hFs)
      replace F4 := Lib.hid (F4.out.oth B7.out noRow4 hFs)
      replace F12 := Lib.hid (F12.out.oth B7.out noRow4 hFs)
      replace F15 := Lib.hid (F15.out.oth B7.out noRow4 hFs)
      replace F23 := Lib.hid (F23.out.oth B7.out noRow4 hFs)
      replace F41 := Lib.hid (F41.out.oth B7.out noRow4 hFs)
      replace F42 := Lib.hid (F42.out.oth B7.out noRow4 hFs)
      replace F51 := Lib.hid (F51.out.oth B7.out noRow4 hFs)
      replace F52 := Lib.hid (F52.out.oth B7.out noRow4 hFs)
      replace B5 := Lib.hid (B5.out.fr hFs (by first | omega | (have := B5.out.lt; have := B7.out.lt; omega)))
      replace B6 := Lib.hid (B6.out.fr hFs (by first | omega | (have := B6.out.lt; have := B7.out.lt; omega)))
      replace B24 := Lib.hid (B24.out.fr hFs (by first | omega | (have := B24.out.lt; have := B7.out.lt; omega)))
      replace HE := Lib.hid (HE.out.next hFs (fun i hi e => by first | omega | (have := HE.out.size; have := B7.out.lt; omega)))
      have b_new : Blk 55 ((((w67.setCell ⟨(w.heap.size + 1 + 1), 0, none⟩ (.bool s39)).setCell ⟨(w.heap.size + 1 + 1), 1, none⟩ (.slice A39 l39 c39)).setCell ⟨(w.heap.size + 1 + 1), 2, none⟩ (.bool s49)).setCell ⟨(w.heap.size + 1 + 1), 3, none⟩ (.slice A49 l49 c49)) (w.heap.size + 1 + 1) #[.bool s39, .slice A39 l39 c39, .bool s49, .slice A49 l49 c49] := ((((B7.out.set_ 0 _).set_ 1 _).set_ 2 _).set_ 3 _)
      generalize ((((w67.setCell ⟨(w.heap.size + 1 + 1), 0, none⟩ (.bool s39)).setCell ⟨(w.heap.size + 1 + 1), 1, none⟩ (.slice A39 l39 c39)).setCell ⟨(w.heap.size + 1 + 1), 2, none⟩ (.bool s49)).setCell ⟨(w.heap.size + 1 + 1), 3, none⟩ (.slice A49 l49 c49)) = w72 at *
      replace B7 := Lib.hid b_new; clear b_new hFs
      exact fin_NRat rfl rfl B7.out (NRatIs.of (by rw [HQ.out.1]; exact F41.out) (by rw [denF_big (fun h => Hb58.out (by have := HQ.out.2; omega)), HQ.out.2]; exact F51.out)) HE.out
  · have hk1 : ¬ 1 < k32 := by rw [← ek32]; exact fun h => hb32 (blen_gt_one.1 h)
    have hk2 : decide ((1 : Int) < (k32 : Int)) = false := by rw [decide_eq_false_iff_not]; omega
    have hk3 : decide (1 < k32) = false := by rw [decide_eq_false_iff_not]; omega
    have Hb32 := Lib.hid hb32
    clear ek32 hb32
    rintro e w73 ⟨rfl, hF⟩
    replace B5 := Lib.hid (B5.out.ext hF)
    replace B6 := Lib.hid (B6.out.ext hF)
    replace B7 := Lib.hid (B7.out.ext hF)
    replace B24 := Lib.hid (B24.out.ext hF)
    replace F2 := Lib.hid (F2.out.ext hF)
    replace F4 := Lib.hid (F4.out.ext hF)
    replace F12 := Lib.hid (F12.out.ext hF)
    replace F15 := Lib.hid (F15.out.ext hF)
    replace F23 := Lib.hid (F23.out.ext hF)
    replace HE := Lib.hid (HE.out.trans hF)
    clear hF
    have HQ : Hid (q.num = -x ∧ (q.den : Int) = -y) := by rw [← Hq.out]; exact frac_coprime HY.out (by have := gcd_pos_of (x := -x) HY.out; have := Hb32.out; omega)
    obtain ⟨c74_0, c74_1, f74_0, f74_1⟩ := B5.out.cell2
    obtain ⟨c75_0, c75_1, f75_0, f75_1⟩ := B6.out.cell2
    obtain ⟨c76_0, c76_1, c76_2, c76_3, f76_0, f76_1, f76_2, f76_3⟩ := B7.out.cell4
    obtain ⟨c77_0, c77_1, f77_0, f77_1⟩ := B24.out.cell2
    go_wp2_with fail
    clear c74_0 c74_1 f74_0 f74_1 c75_0 c75_1 f75_0 f75_1 c76_0 c76_1 c76_2 c76_3 f76_0 f76_1 f76_2 f76_3 c77_0 c77_1 f77_0 f77_1
    refine (NBits_any _ (-(y)) _ F15.out (by first | exact HFg.out | exact HFy.out | exact HFd.out)).mono ?_
    obtain ⟨k78, ek78⟩ : ∃ k, blen (-(y)).natAbs = k := ⟨_, rfl⟩
    rw [ek78]
    by_cases hb78 : (-(y)).natAbs = 1
    · obtain rfl : k78 = 1 := by rw [← ek78]; exact blen_eq_one.2 hb78
      have Hb78 := Lib.hid hb78
      clear ek78 hb78
      rintro e w79 ⟨rfl, hF⟩
      replace B5 := Lib.hid (B5.out.ext hF)
      replace B6 := Lib.hid (B6.out.ext hF)
      replace B7 := Lib.hid (B7.out.ext hF)
      replace B24 := Lib.hid (B24.out.ext hF)
      replace F2 := Lib.hid (F2.out.ext hF)
      replace F4 := Lib.hid (F4.out.ext hF)
      replace F12 := Lib.hid (F12.out.ext hF)
      replace F15 := Lib.hid (F15.out.ext hF)
      replace F23 := Lib.hid (F23.out.ext hF)
      replace HE := Lib.hid (HE.out.trans hF)
      clear hF
      obtain ⟨c80_0, c80_1, f80_0, f80_1⟩ := B5.out.cell2
      obtain ⟨c81_0, c81_1, f81_0, f81_1⟩ := B6.out.cell2
      obtain ⟨c82_0, c82_1, c82_2, c82_3, f82_0, f82_1, f82_2, f82_3⟩ := B7.out.cell4
      obtain ⟨c83_0, c83_1, f83_0, f83_1⟩ := B24.out.cell2
      go_wp2
      clear c80_0 c80_1 f80_0 f80_1 c81_0 c81_1 f81_0 f81_1 c82_0 c82_1 c82_2 c82_3 f82_0 f82_1 f82_2 f82_3 c83_0 c83_1 f83_0 f83_1
      have hFs : Fr (fun i => i = (w.heap.size + 1)) w79 ((w79.setCell ⟨(w.heap.size + 1), 0, none⟩ (.bool false)).setCell ⟨(w.heap.size + 1), 1, none⟩ (.slice none 0 0)) := (((Fr.refl (fun i => i = (w.heap.size + 1)) _).setCell (p := ⟨(w.heap.size + 1), 0, none⟩) (Or.inl rfl) _).setCell (p := ⟨(w.heap.size + 1), 1, none⟩) (Or.inl rfl) _)
      replace F2 := Lib.hid (F2.out.oth B6.out noRow2 hFs)
      replace F4 := Lib.hid (F4.out.oth B6.out noRow2 hFs)
      replace F12 := Lib.hid (F12.out.oth B6.out noRow2 hFs)
      replace F15 := Lib.hid (F15.out.oth B6.out noRow2 hFs)
      replace F23 := Lib.hid (F23.out.oth B6.out noRow2 hFs)
      replace B5 := Lib.hid (B5.out.fr hFs (by first | omega | (have := B5.out.lt; have := B6.out.lt; omega)))
      replace B7 := Lib.hid (B7.out.fr hFs (by first | omega | (have := B7.out.lt; have := B6.out.lt; omega)))
      replace B24 := Lib.hid (B24.out.fr hFs (by first | omega | (have := B24.out.lt; have := B6.out.lt; omega)))
      replace HE := Lib.hid (HE.out.next hFs (fun i hi e => by first | omega | (have := HE.out.size; have := B6.out.lt; omega)))
      have b_new : Blk 53 ((w79.setCell ⟨(w.heap.size + 1), 0, none⟩ (.bool false)).setCell ⟨(w.heap.size + 1), 1, none⟩ (.slice none 0 0)) (w.heap.size + 1) #[.bool false, .slice none 0 0] := ((B6.out.set_ 0 _).set_ 1 _)
      generalize ((w79.setCell ⟨(w.heap.size + 1), 0, none⟩ (.bool false)).setCell ⟨(w.heap.size + 1), 1, none⟩ (.slice none 0 0)) = w84 at *
      replace B6 := Lib.hid b_new; clear b_new hFs
      have hFs : Fr (fun i => i = (w.heap.size + 1 + 1)) w84 ((((w84.setCell ⟨(w.heap.size + 1 + 1), 0, none⟩ (.bool s11)).setCell ⟨(w.heap.size + 1 + 1), 1, none⟩ (.slice A11 l11 c11)).setCell ⟨(w.heap.size + 1 + 1), 2, none⟩ (.bool false)).setCell ⟨(w.heap.size + 1 + 1), 3, none⟩ (.slice none 0 0)) := (((((Fr.refl (fun i => i = (w.heap.size + 1 + 1)) _).setCell (p := ⟨(w.heap.size + 1 + 1), 0, none⟩) (Or.inl rfl) _).setCell (p := ⟨(w.heap.size + 1 + 1), 1, none⟩) (Or.inl rfl) _).setCell (p := ⟨(w.heap.size + 1 + 1), 2, none⟩) (Or.inl rfl) _).setCell (p := ⟨(w.heap.size + 1 + 1), 3, none⟩) (Or.inl rfl) _)
      replace F2 := Lib.hid (F2.out.oth B7.out noRow4 hFs)
      replace F4 := Lib.hid (F4.out.oth B7.out noRow4 hFs)
      replace F12 := Lib.hid (F12.out.oth B7.out noRow4 hFs)
      replace F15 := Lib.hid (F15.out.oth B7.out noRow4 hFs)
      replace F23 := Lib.hid (F23.out.oth B7.out noRow4 hFs)
      replace B5 := Lib.hid (B5.out.fr hFs (by first | omega | (have := B5.out.lt; have := B7.out.lt; omega)))
      replace B6 := Lib.hid (B6.out.fr hFs (by first | omega | (have := B6.out.lt; have := B7.out.lt; omega)))
      replace B24 := Lib.hid (B24.out.fr hFs (by first | omega | (have := B24.out.lt; have := B7.out.lt; omega)))
      replace HE := Lib.hid (HE.out.next hFs (fun i hi e => by first | omega | (have := HE.out.size; have := B7.out.lt; omega)))
      have b_new : Blk 55 ((((w84.setCell ⟨(w.heap.size + 1 + 1), 0, none⟩ (.bool s11)).setCell ⟨(w.heap.size + 1 + 1), 1, none⟩ (.slice A11 l11 c11)).setCell ⟨(w.heap.size + 1 + 1), 2, none⟩ (.bool false)).setCell ⟨(w.heap.size + 1 + 1), 3, none⟩ (.slice none 0 0)) (w.heap.size + 1 + 1) #[.bool s11, .slice A11 l11 c11, .bool false, .slice none 0 0] := ((((B7.out.set_ 0 _).set_ 1 _).set_ 2 _).set_ 3 _)
      generalize ((((w84.setCell ⟨(w.heap.size + 1 + 1), 0, none⟩ (.bool s11)).setCell ⟨(w.heap.size + 1 + 1), 1, none⟩ (.slice A11 l11 c11)).setCell ⟨(w.heap.size + 1 + 1), 2, none⟩ (.bool false)).setCell ⟨(w.heap.size + 1 + 1), 3, none⟩ (.slice none 0 0)) = w85 at *
      replace B7 := Lib.hid b_new; clear b_new hFs
      have F86 : Hid (NumIs w85 (.agg #[.bool false, .slice none 0 0]) (0)) := NumIs.nil _
      exact fin_NRat rfl rfl B7.out (NRatIs.of (by rw [HQ.out.1]; exact F12.out) (by rw [denF_one (by have := HQ.out.2; have := Hb78.out; have := q.den_nz; omega)]; exact F86.out)) HE.out
    · have hk1 : k78 ≠ 1 := by rw [← ek78]; exact fun h => hb78 (blen_eq_one.1 h)
      have hk2 : ((k78 : Int) == 1) = false := by simp; omega
      have Hb78 := Lib.hid hb78
      clear ek78 hb78
      rintro e w87 ⟨rfl, hF⟩
      replace B5 := Lib.hid (B5.out.ext hF)
      replace B6 := Lib.hid (B6.out.ext hF)
      replace B7 := Lib.hid (B7.out.ext hF)
      replace B24 := Lib.hid (B24.out.ext hF)
      replace F2 := Lib.hid (F2.out.ext hF)
      replace F4 := Lib.hid (F4.out.ext hF)
      replace F12 := Lib.hid (F12.out.ext hF)
      replace F15 := Lib.hid (F15.out.ext hF)
      replace F23 := Lib.hid (F23.out.ext hF)
      replace HE := Lib.hid (HE.out.trans hF)
      clear hF
      obtain ⟨c88_0, c88_1, f88_0, f88_1⟩ := B5.out.cell2
      obtain ⟨c89_0, c89_1, f89_0, f89_1⟩ := B6.out.cell2
      obtain ⟨c90_0, c90_1, c90_2, c90_3, f90_0, f90_1, f90_2, f90_3⟩ := B7.out.cell4
      obtain ⟨c91_0, c91_1, f91_0, f91_1⟩ := B24.out.cell2
      go_wp2
      clear c88_0 c88_1 f88_0 f88_1 c89_0 c89_1 f89_0 f89_1 c90_0 c90_1 c90_2 c90_3 f90_0 f90_1 f90_2 f90_3 c91_0 c91_1 f91_0 f91_1
      have hFs : Fr (fun i => i = (w.heap.size + 1 + 1)) w87 ((((w87.setCell ⟨(w.heap.size + 1 + 1), 0, none⟩ (.bool s11)).setCell ⟨(w.heap.size + 1 + 1), 1, none⟩ (.slice A11 l11 c11)).setCell ⟨(w.heap.size + 1 + 1), 2, none⟩ (.bool s14)).setCell ⟨(w.heap.size + 1 + 1), 3, none⟩ (.slice A14 l14 c14)) := (((((Fr.refl (fun i => i = (w.heap.size + 1 + 1)) _).setCell (p := ⟨(w.heap.size + 1 + 1), 0, none⟩) (Or.inl rfl) _).setCell (p := ⟨(w.heap.size + 1 + 1), 1, none⟩) (Or.inl rfl) _).setCell (p := ⟨(w.heap.size + 1 + 1), 2, none⟩) (Or.inl rfl) _).setCell (p := ⟨(w.heap.size + 1 + 1), 3, none⟩) (Or.inl rfl) _)
      replace F2 := Lib.hid (F2.out.oth B7.out noRow4 hFs)
      replace F4 := Lib.hid (F4.out.oth B7.out noRow4 hFs)
      replace F12 := Lib.hid (F12.out.oth B7.out noRow4 hFs)
      replace F15 := Lib.hid (F15.out.oth B7.out noRow4 hFs)
      replace F23 := Lib.hid (F23.out.oth B7.out noRow4 hFs)
      replace B5 := Lib.hid (B5.out.fr hFs (by first | omega | (have := B5.out.lt; have := B7.out.lt; omega)))
      replace B6 := Lib.hid (B6.out.fr hFs (by first | omega | (have := B6.out.lt; have := B7.out.lt; omega)))
      replace B24 := Lib.hid (B24.out.fr hFs (by first | omega | (have := B24.out.lt; have := B7.out.lt; omega)))
      replace HE := Lib.hid (HE.out.next hFs (fun i hi e => by first | omega | (have := HE.out.size; have := B7.out.lt; omega)))
      have b_new : Blk 55 ((((w87.setCell ⟨(w.heap.size + 1 + 1), 0, none⟩ (.bool s11)).setCell ⟨(w.heap.size + 1 + 1), 1, none⟩ (.slice A11 l11 c11)).setCell ⟨(w.heap.size + 1 + 1), 2, none⟩ (.bool s14)).setCell ⟨(w.heap.size + 1 + 1), 3, none⟩ (.slice A14 l14 c14)) (w.heap.size + 1 + 1) #[.bool s11, .slice A11 l11 c11, .bool s14, .slice A14 l14 c14] := ((((B7.out.set_ 0 _).set_ 1 _).set_ 2 _).set_ 3 _)
      generalize ((((w87.setCell ⟨(w.heap.size + 1 + 1), 0, none⟩ (.bool s11)).setCell ⟨(w.heap.size + 1 + 1), 1, none⟩ (.slice A11 l11 c11)).setCell ⟨(w.heap.size + 1 + 1), 2, none⟩ (.bool s14)).setCell ⟨(w.heap.size + 1 + 1), 3, none⟩ (.slice A14 l14 c14)) = w92 at *
      replace B7 := Lib.hid b_new; clear b_new hFs
      exact fin_NRat rfl rfl B7.out (NRatIs.of (by rw [HQ.out.1]; exact F12.out) (by rw [denF_big (fun h => Hb78.out (by have := HQ.out.2; omega)), HQ.out.2]; exact F15.out)) HE.out

set_option maxHeartbeats 2000000 in
set_option maxRecDepth 100000 in
theorem NFrac_pos (a b : Value) (x y : Int) (q : Rat) (w : World) (ha : NumIs w a x) (hb : NumIs w b y) (hx : NFits x) (hy : NFits y) (h0 : 0 < y) (hq : Rat.divInt x y = q) :
    Calls Tryz.prog 75 #[a, b] w (RetNRat w q) := by
  obtain ⟨s1, A1, l1, c1, rfl⟩ := ha.shp
  have F2 : Hid (NumIs w (.agg #[.bool s1, .slice A1 l1 c1]) (x)) := ha
  clear ha
  obtain ⟨s3, A3, l3, c3, rfl⟩ := hb.shp
  have F4 : Hid (NumIs w (.agg #[.bool s3, .slice A3 l3 c3]) (y)) := hb
  clear hb
  obtain rfl : s3 = false := F4.out.spos (by omega)
  have HFx : Hid (NFits (x)) := hx
  have HFy : Hid (NFits (y)) := hy
  have HY : Hid (0 < y) := by unfold Hid; omega
  have HFg : Hid (NFits (Int.gcd (x) (y) : Int)) := NFits.gcd HFy.out (by have := HY.out; omega)
  have HFd : Hid (NFits ((y).tdiv (Int.gcd (x) (y) : Int))) := NFits.tdiv HFy.out
  have HG0 : Hid ((Int.gcd (x) (y) : Int) ≠ 0) := by have := gcd_pos_of (x := x) HY.out; unfold Hid; omega
  have Hq : Hid (Rat.divInt (x) (y) = q) := hq
  clear hx hy h0 hq
  go_enter Tryz.func75, Tryz.ntmps75
  go_wp2_with fail
  generalize hwb : World.alloc (World.alloc (World.alloc w _) _) _ = w8
  obtain ⟨b_B5, b_B6, b_B7, hE0⟩ := blocks3 hwb
  clear hwb
  have B5 := Lib.hid b_B5
  have B6 := Lib.hid b_B6
  have B7 := Lib.hid b_B7
  clear b_B5 b_B6 b_B7
  replace F2 := Lib.hid (F2.out.ext hE0)
  replace F4 := Lib.hid (F4.out.ext hE0)
  have HE := Lib.hid hE0
  clear hE0
  refine (NGcd_any _ _ (x) (y) _ F2.out F4.out HFx.out HFy.out).mono ?_
  rintro e w9 ⟨_, rfl, hI, hF⟩
  obtain ⟨s10, A10, l10, c10, rfl⟩ := hI.shp
  replace B5 := Lib.hid (B5.out.ext hF)
  replace B6 := Lib.hid (B6.out.ext hF)
  replace B7 := Lib.hid (B7.out.ext hF)
  replace F2 := Lib.hid (F2.out.ext hF)
  replace F4 := Lib.hid (F4.out.ext hF)
  replace HE := Lib.hid (HE.out.trans hF)
  have F11 : Hid (NumIs w9 (.agg #[.bool s10, .slice A10 l10 c10]) ((Int.gcd (x) (y) : Int))) := hI
  clear hF hI
  obtain ⟨c13_0, c13_1, f13_0, f13_1⟩ := B5.out.cell2
  obtain ⟨c14_0, c14_1, f14_0, f14_1⟩ := B6.out.cell2
  obtain ⟨c15_0, c15_1, c15_2, c15_3, f15_0, f15_1, f15_2, f15_3⟩ := B7.out.cell4
  go_wp2_with fail
  clear c13_0 c13_1 f13_0 f13_1 c14_0 c14_1 f14_0 f14_1 c15_0 c15_1 c15_2 c15_3 f15_0 f15_1 f15_2 f15_3
  generalize hwb : World.alloc w9 _ = w16
  obtain ⟨b_B12, hF⟩ := blocks1 hwb
  clear hwb
  have hlt17 := B5.out.lt
  have hlt18 := B6.out.lt
  have hlt19 := B7.out.lt
  generalize w9.heap.size = g16 at *
  have B12 := Lib.hid b_B12; clear b_B12
  replace B5 := Lib.hid (B5.out.ext hF)
  replace B6 := Lib.hid (B6.out.ext hF)
  replace B7 := Lib.hid (B7.out.ext hF)
  replace F2 := Lib.hid (F2.out.ext hF)
  replace F4 := Lib.hid (F4.out.ext hF)
  replace F11 := Lib.hid (F11.out.ext hF)
  replace HE := Lib.hid (HE.out.trans hF)
  clear hF
  refine (NBits_any _ ((Int.gcd (x) (y) : Int)) _ F11.out (by first | exact HFg.out | exact HFy.out | exact HFd.out)).mono ?_
  obtain ⟨k20, ek20⟩ : ∃ k, blen ((Int.gcd (x) (y) : Int)).natAbs = k := ⟨_, rfl⟩
  rw [ek20]
  by_cases hb20 : 1 < ((Int.gcd (x) (y) : Int)).natAbs
  · have hk1 : 1 < k20 := by rw [← ek20]; exact blen_gt_one.2 hb20
    have hk2 : decide ((1 : Int) < (k20 : Int)) = true := by rw [decide_eq_true_eq]; omega
    have hk3 : decide (1 < k20) = true := by rw [decide_eq_true_eq]; omega
    have Hb20 := Lib.hid hb20
    clear ek20 hb20
    rintro e w21 ⟨rfl, hF⟩
    replace B5 := Lib.hid (B5.out.ext hF)
    replace B6 := Lib.hid (B6.out.ext hF)
    replace B7 := Lib.hid (B7.out.ext hF)
    replace B12 := Lib.hid (B12.out.ext hF)
    replace F2 := Lib.hid (F2.out.ext hF)
    replace F4 := Lib.hid (F4.out.ext hF)
    replace F11 := Lib.hid (F11.out.ext hF)
    replace HE := Lib.hid (HE.out.trans hF)
    clear hF
    have HQ : Hid (q.num = (x).tdiv (Int.gcd (x) (y) : Int) ∧ (q.den : Int) = (y).tdiv (Int.gcd (x) (y) : Int)) := by rw [← Hq.out]; exact frac_gcd HY.out
    obtain ⟨c22_0, c22_1, f22_0, f22_1⟩ := B5.out.cell2
    obtain ⟨c23_0, c23_1, f23_0, f23_1⟩ := B6.out.cell2
    obtain ⟨c24_0, c24_1, c24_2, c24_3, f24_0, f24_1, f24_2, f24_3⟩ := B7.out.cell4
    obtain ⟨c25_0, c25_1, f25_0, f25_1⟩ := B12.out.cell2
    go_wp2_with fail
    clear c22_0 c22_1 f22_0 f22_1 c23_0 c23_1 f23_0 f23_1 c24_0 c24_1 c24_2 c24_3 f24_0 f24_1 f24_2 f24_3 c25_0 c25_1 f25_0 f25_1
    refine (NQuoRem_any _ _ (x) ((Int.gcd (x) (y) : Int)) _ F2.out F11.out (by first | exact HFx.out | exact HFy.out) HFg.out HG0.out).mono ?_
    rintro e w26 ⟨_, _, rfl, hI, hJ, hF⟩
    obtain ⟨s27, A27, l27, c27, rfl⟩ := hI.shp
    obtain ⟨s28, A28, l28, c28, rfl⟩ := hJ.shp
    replace B5 := Lib.hid (B5.out.ext hF)
    replace B6 := Lib.hid (B6.out.ext hF)
    replace B7 := Lib.hid (B7.out.ext hF)
    replace B12 := Lib.hid (B12.out.ext hF)
    replace F2 := Lib.hid (F2.out.ext hF)
    replace F4 := Lib.hid (F4.out.ext hF)
    replace F11 := Lib.hid (F11.out.ext hF)
    replace HE := Lib.hid (HE.out.trans hF)
    have F29 : Hid (NumIs w26 (.agg #[.bool s27, .slice A27 l27 c27]) ((x).tdiv ((Int.gcd (x) (y) : Int)))) := hI
    have F30 : Hid (NumIs w26 (.agg #[.bool s28, .slice A28 l28 c28]) ((x).tmod ((Int.gcd (x) (y) : Int)))) := hJ
    clear hF hI hJ
    obtain ⟨c31_0, c31_1, f31_0, f31_1⟩ := B5.out.cell2
    obtain ⟨c32_0, c32_1, f32_0, f32_1⟩ := B6.out.cell2
    obtain ⟨c33_0, c33_1, c33_2, c33_3, f33_0, f33_1, f33_2, f33_3⟩ := B7.out.cell4
    obtain ⟨c34_0, c34_1, f34_0, f34_1⟩ := B12.out.cell2
    go_wp2_with fail
    clear c31_0 c31_1 f31_0 f31_1 c32_0 c32_1 f32_0 f32_1 c33_0 c33_1 c33_2 c33_3 f33_0 f33_1 f33_2 f33_3 c34_0 c34_1 f34_0 f34_1
    have hFs : Fr (fun i => i = w.heap.size) w26 ((w26.setCell ⟨w.heap.size, 0, none⟩ (.bool s27)).setCell ⟨w.heap.size, 1, none⟩ (.slice A27 l27 c27)) := (((Fr.refl (fun i => i = w.heap.size) _).setCell (p := ⟨w.heap.size, 0, none⟩) (Or.inl rfl) _).setCell (p := ⟨w.heap.size, 1, none⟩) (Or.inl rfl) _)
    replace F2 := Lib.hid (F2.out.oth B5.out noRow2 hFs)
    replace F4 := Lib.hid (F4.out.oth B5.out noRow2 hFs)
    replace F11 := Lib.hid (F11.out.oth B5.out noRow2 hFs)
    replace F29 := Lib.hid (F29.out.oth B5.out noRow2 hFs)
    replace F30 := Lib.hid (F30.out.oth B5.out noRow2 hFs)
    replace B6 := Lib.hid (B6.out.fr hFs (by first | omega | (have := B6.out.lt; have := B5.out.lt; omega)))
    replace B7 := Lib.hid (B7.out.fr hFs (by first | omega | (have := B7.out.lt; have := B5.out.lt; omega)))
    replace B12 := Lib.hid (B12.out.fr hFs (by first | omega | (have := B12.out.lt; have := B5.out.lt; omega)))
    replace HE := Lib.hid (HE.out.next hFs (fun i hi e => by first | omega | (have := HE.out.size; have := B5.out.lt; omega)))
    have b_new : Blk 53 ((w26.setCell ⟨w.heap.size, 0, none⟩ (.bool s27)).setCell ⟨w.heap.size, 1, none⟩ (.slice A27 l27 c27)) w.heap.size #[.bool s27, .slice A27 l27 c27] := ((B5.out.set_ 0 _).set_ 1 _)
    generalize ((w26.setCell ⟨w.heap.size, 0, none⟩ (.bool s27)).setCell ⟨w.heap.size, 1, none⟩ (.slice A27 l27 c27)) = w35 at *
    replace B5 := Lib.hid b_new; clear b_new hFs
    refine (NQuoRem_any _ _ (y) ((Int.gcd (x) (y) : Int)) _ F4.out F11.out (by first | exact HFx.out | exact HFy.out) HFg.out HG0.out).mono ?_
    rintro e w36 ⟨_, _, rfl, hI, hJ, hF⟩
    obtain ⟨s37, A37, l37, c37, rfl⟩ := hI.shp
    obtain ⟨s38, A38, l38, c38, rfl⟩ := hJ.shp
    replace B5 := Lib.hid (B5.out.ext hF)
    replace B6 := Lib.hid (B6.out.ext hF)
    replace B7 := Lib.hid (B7.out.ext hF)
    replace B12 := Lib.hid (B12.out.ext hF)
    replace F2 := Lib.hid (F2.out.ext hF)
    replace F4 := Lib.hid (F4.out.ext hF)
    replace F11 := Lib.hid (F11.out.ext hF)
    replace F29 := Lib.hid (F29.out.ext hF)
    replace F30 := Lib.hid (F30.out.ext hF)
    replace HE := Lib.hid (HE.out.trans hF)
    have F39 : Hid (NumIs w36 (.agg #[.bool s37, .slice A37 l37 c37]) ((y).tdiv ((Int.gcd (x) (y) : Int)))) := hI
    have F40 : Hid (NumIs w36 (.agg #[.bool s38, .slice A38 l38 c38]) ((y).tmod ((Int.gcd (x) (y) : Int)))) := hJ
    clear hF hI hJ
    obtain ⟨c41_0, c41_1, f41_0, f41_1⟩ := B5.out.cell2
    obtain ⟨c42_0, c42_1, f42_0, f42_1⟩ := B6.out.cell2
    obtain ⟨c43_0, c43_1, c43_2, c43_3, f43_0, f43_1, f43_2, f43_3⟩ := B7.out.cell4
    obtain ⟨c44_0, c44_1, f44_0, f44_1⟩ := B12.out.cell2
    go_wp2_with fail
    clear c41_0 c41_1 f41_0 f41_1 c42_0 c42_1 f42_0 f42_1 c43_0 c43_1 c43_2 c43_3 f43_0 f43_1 f43_2 f43_3 c44_0 c44_1 f44_0 f44_1
    have hFs : Fr (fun i => i = (w.heap.size + 1)) w36 ((w36.setCell ⟨(w.heap.size + 1), 0, none⟩ (.bool s37)).setCell ⟨(w.heap.size + 1), 1, none⟩ (.slice A37 l37 c37)) := (((Fr.refl (fun i => i = (w.heap.size + 1)) _).setCell (p := ⟨(w.heap.size + 1), 0, none⟩) (Or.inl rfl) _).setCell (p := ⟨(w.heap.size + 1), 1, none⟩) (Or.inl rfl) _)
    replace F2 := Lib.hid (F2.out.oth B6.out noRow2 hFs)
    replace F4 := Lib.hid (F4.out.oth B6.out noRow2 hFs)
    replace F11 := Lib.hid (F11.out.oth B6.out noRow2 hFs)
    replace F29 := Lib.hid (F29.out.oth B6.out noRow2 hFs)
    replace F30 := Lib.hid (F30.out.oth B6.out noRow2 hFs)
    replace F39 := Lib.hid (F39.out.oth B6.out noRow2 hFs)
    replace F40 := Lib.hid (F40.out.oth B6.out noRow2 hFs)
    replace B5 := Lib.hid (B5.out.fr hFs (by first | omega | (have := B5.out.lt; have := B6.out.lt; omega)))
    replace B7 := Lib.hid (B7.out.fr hFs (by first | omega | (have := B7.out.lt; have := B6.out.lt; omega)))
    replace B12 := Lib.hid (B12.out.fr hFs (by first | omega | (have := B12.out.lt; have := B6.out.lt; omega)))
    replace HE := Lib.hid (HE.out.next hFs (fun i hi e => by first | omega | (have := HE.out.size; have := B6.out.lt; omega)))
    have b_new : Blk 53 ((w36.setCell ⟨(w.heap.size + 1), 0, none⟩ (.bool s37)).setCell ⟨(w.heap.size + 1), 1, none⟩ (.slice A37 l37 c37)) (w.heap.size + 1) #[.bool s37, .slice A37 l37 c37] := ((B6.out.set_ 0 _).set_ 1 _)
    generalize ((w36.setCell ⟨(w.heap.size + 1), 0, none⟩ (.bool s37)).setCell ⟨(w.heap.size + 1), 1, none⟩ (.slice A37 l37 c37)) = w45 at *
    replace B6 := Lib.hid b_new; clear b_new hFs
    refine (NBits_any _ ((y).tdiv ((Int.gcd (x) (y) : Int))) _ F39.out (by first | exact HFg.out | exact HFy.out | exact HFd.out)).mono ?_
    obtain ⟨k46, ek46⟩ : ∃ k, blen ((y).tdiv ((Int.gcd (x) (y) : Int))).natAbs = k := ⟨_, rfl⟩
    rw [ek46]
    by_cases hb46 : ((y).tdiv ((Int.gcd (x) (y) : Int))).natAbs = 1
    · obtain rfl : k46 = 1 := by rw [← ek46]; exact blen_eq_one.2 hb46
      have Hb46 := Lib.hid hb46
      clear ek46 hb46
      rintro e w47 ⟨rfl, hF⟩
      replace B5 := Lib.hid (B5.out.ext hF)
      replace B6 := Lib.hid (B6.out.ext hF)
      replace B7 := Lib.hid (B7.out.ext hF)
      replace B12 := Lib.hid (B12.out.ext hF)
      replace F2 := Lib.hid (F2.out.ext hF)
      replace F4 := Lib.hid (F4.out.ext hF)
      replace F11 := Lib.hid (F11.out.ext hF)
      replace F29 := Lib.hid (F29.out.ext hF)
      replace F30 := Lib.hid (F30.out.ext hF)
      replace F39 := Lib.hid (F39.out.ext hF)
      replace F40 := Lib.hid (F40.out.ext hF)
      replace HE := Lib.hid (HE.out.trans hF)
      clear hF
      obtain ⟨c48_0, c48_1, f48_0, f48_1⟩ := B5.out.cell2
      obtain ⟨c49_0, c49_1, f49_0, f49_1⟩ := B6.out.cell2
      obtain ⟨c50_0, c50_1, c50_2, c50_3, f50_0, f50_1, f50_2, f50_3⟩ := B7.out.cell4
      obtain ⟨c51_0, c51_1, f51_0, f51_1⟩ := B12.out.cell2
      go_wp2
      clear c48_0 c48_1 f48_0 f48_1 c49_0 c49_1 f49_0 f49_1 c50_0 c50_1 c50_2 c50_3 f50_0 f50_1 f50_2 f50_3 c51_0 c51_1 f51_0 f51_1
      have hFs : Fr (fun i => i = (w.heap.size + 1)) w47 ((w47.setCell ⟨(w.heap.size + 1), 0, none⟩ (.bool false)).setCell ⟨(w.heap.size + 1), 1, none⟩ (.slice none 0 0)) := (((Fr.refl (fun i => i = (w.heap.size + 1)) _).setCell (p := ⟨(w.heap.size + 1), 0, none⟩) (Or.inl rfl) _).setCell (p := ⟨(w.heap.size + 1), 1, none⟩) (Or.inl rfl) _)
      replace F2 := Lib.hid (F2.out.oth B6.out noRow2 hFs)
      replace F4 := Lib.hid (F4.out.oth B6.out noRow2 hFs)
      replace F11 := Lib.hid (F11.out.oth B6.out noRow2 hFs)
      replace F29 := Lib.hid (F29.out.oth B6.out noRow2 hFs)
      replace F30 := Lib.hid (F30.out.oth B6.out noRow2 hFs)
      replace F39 := Lib.hid (F39.out.oth B6.out noRow2 hFs)
      replace F40 := Lib.hid (F40.out.oth B6.out noRow2 hFs)
      replace B5 := Lib.hid (B5.out.fr hFs (by first | omega | (have := B5.out.lt; have := B6.out.lt; omega)))
      replace B7 := Lib.hid (B7.out.fr hFs (by first | omega | (have := B7.out.lt; have := B6.out.lt; omega)))
      replace B12 := Lib.hid (B12.out.fr hFs (by first | omega | (have := B12.out.lt; have := B6.out.lt; omega)))
      replace HE := Lib.hid (HE.out.next hFs (fun i hi e => by first | omega | (have := HE.out.size; have := B6.out.lt; omega)))
      have b_new : Blk 53 ((w47.setCell ⟨(w.heap.size + 1), 0, none⟩ (.bool false)).setCell ⟨(w.heap.size + 1), 1, none⟩ (.slice none 0 0)) (w.heap.size + 1) #[.bool false, .slice none 0 0] := ((B6.out.set_ 0 _).set_ 1 _)
      generalize ((w47.setCell ⟨(w.heap.size + 1), 0, none⟩ (.bool false)).setCell ⟨(w.heap.size + 1), 1, none⟩ (.slice none 0 0)) = w52 at *
      replace B6 := Lib.hid b_new; clear b_new hFs
      have hFs : Fr (fun i => i = (w.heap.size + 1 + 1)) w52 ((((w52.setCell ⟨(w.heap.size + 1 + 1), 0, none⟩ (.bool s27)).setCell ⟨(w.heap.size + 1 + 1), 1, none⟩ (.slice A27 l27 c27)).setCell ⟨(w.heap.size + 1 + 1), 2, none⟩ (.bool false)).setCell ⟨(w.heap.size + 1 + 1), 3, none⟩ (.slice none 0 0)) := (((((Fr.refl (fun i => i = (w.heap.size + 1 + 1)) _).setCell (p := ⟨(w.heap.size + 1 + 1), 0, none⟩) (Or.inl rfl) _).setCell (p := ⟨(w.heap.size + 1 + 1), 1, none⟩) (Or.inl rfl) _).setCell (p := ⟨(w.heap.size + 1 + 1), 2, none⟩) (Or.inl rfl) _).setCell (p := ⟨(w.heap.size + 1 + 1), 3, none⟩) (Or.inl rfl) _)
      replace F2 := Lib.hid (F2.out.oth B7.out noRow4 hFs)
      replace F4 := Lib.hid (F4.out.oth B7.out noRow4 hFs)
      replace F11 := Lib.hid (F11.out.oth B7.out noRow4 hFs)
      replace F29 := Lib.hid (F29.out.oth B7.out noRow4 hFs)
      replace F30 := Lib.hid (F30.out.oth B7.out noRow4 hFs)
      replace F39 := Lib.hid (F39.out.oth B7.out noRow4 hFs)
      replace F40 := Lib.hid (F40.out.oth B7.out noRow4 hFs)
      replace B5 := Lib.hid (B5.out.fr hFs (by first | omega | (have := B5.out.lt; have := B7.out.lt; omega)))
      replace B6 := Lib.hid (B6.out.fr hFs (by first | omega | (have := B6.out.lt; have := B7.out.lt; omega)))
      replace B12 := Lib.hid (B12.out.fr hFs (by first | omega | (have := B12.out.lt; have := B7.out.lt; omega)))
      replace HE := Lib.hid (HE.out.next hFs (fun i hi e => by first | omega | (have := HE.out.size; have := B7.out.lt; omega)))
      have b_new : Blk 55 ((((w52.setCell ⟨(w.heap.size + 1 + 1), 0, none⟩ (.bool s27)).setCell ⟨(w.heap.size + 1 + 1), 1, none⟩ (.slice A27 l27 c27)).setCell ⟨(w.heap.size + 1 + 1), 2, none⟩ (.bool false)).setCell ⟨(w.heap.size + 1 + 1), 3, none⟩ (.slice none 0 0)) (w.heap.size + 1 + 1) #[.bool s27, .slice A27 l27 c27, .bool false, .slice none 0 0] := ((((B7.out.set_ 0 _).set_ 1 _).set_ 2 _).set_ 3 _)
      generalize ((((w52.setCell ⟨(w.heap.size + 1 + 1), 0, none⟩ (.bool s27)).setCell ⟨(w.heap.size + 1 + 1), 1, none⟩ (.slice A27 l27 c27)).setCell ⟨(w.heap.size + 1 + 1), 2, none⟩ (.bool false)).setCell ⟨(w.heap.size + 1 + 1), 3, none⟩ (.slice none 0 0)) = w53 at *
      replace B7 := Lib.hid b_new; clear b_new hFs
      have F54 : Hid (NumIs w53 (.agg #[.bool false, .slice none 0 0]) (0)) := NumIs.nil _
      exact fin_NRat rfl rfl B7.out (NRatIs.of (by rw [HQ.out.1]; exact F29.out) (by rw [denF_one (by have := HQ.out.2; have := Hb46.out; have := q.den_nz; omega)]; exact F54.out)) HE.out
    · have hk1 : k46 ≠ 1 := by rw [← ek46]; exact fun h => hb46 (blen_eq_one.1 h)
      have hk2 : ((k46 : Int) == 1) = false := by simp; omega
      have Hb46 := Lib.hid hb46
      clear ek46 hb46
      rintro e w55 ⟨rfl, hF⟩
      replace B5 := Lib.hid (B5.out.ext hF)
      replace B6 := Lib.hid (B6.out.ext hF)
      replace B7 := Lib.hid (B7.out.ext hF)
      replace B12 := Lib.hid (B12.out.ext hF)
      replace F2 := Lib.hid (F2.out.ext hF)
      replace F4 := Lib.hid (F4.out.ext hF)
      replace F11 := Lib.hid (F11.out.ext hF)
      replace F29 := Lib.hid (F29.out.ext hF)
      replace F30 := Lib.hid (F30.out.ext hF)
      replace F39 := Lib.hid (F39.out.ext hF)
      replace F40 := Lib.hid (F40.out.ext hF)
      replace HE := Lib.hid (HE.out.trans hF)
      clear hF
      obtain ⟨c56_0, c56_1, f56_0, f56_1⟩ := B5.out.cell2
      obtain ⟨c57_0, c57_1, f57_0, f57_1⟩ := B6.out.cell2
      obtain ⟨c58_0, c58_1, c58_2, c58_3, f58_0, f58_1, f58_2, f58_3⟩ := B7.out.cell4
      obtain ⟨c59_0, c59_1, f59_0, f59_1⟩ := B12.out.cell2
      go_wp2
      clear c56_0 c56_1 f56_0 f56_1 c57_0 c57_1 f57_0 f57_1 c58_0 c58_1 c58_2 c58_3 f58_0 f58_1 f58_2 f58_3 c59_0 c59_1 f59_0 f59_1
      have hFs : Fr (fun i => i = (w.heap.size + 1 + 1)) w55 ((((w55.setCell ⟨(w.heap.size + 1 + 1), 0, none⟩ (.bool s27)).setCell ⟨(w.heap.size + 1 + 1), 1, none⟩ (.slice A27 l27 c27)).setCell ⟨(w.heap.size + 1 + 1), 2, none⟩ (.bool s37)).setCell ⟨(w.heap.size + 1 + 1), 3, none⟩ (.slice A37 l37 c37)) := (((((Fr.refl (fun i => i = (w.heap.size + 1 + 1)) _).setCell (p := ⟨(w.heap.size + 1 + 1), 0, none⟩) (Or.inl rfl) _).setCell (p := ⟨(w.heap.size + 1 + 1), 1, none⟩) (Or.inl rfl) _).setCell (p := ⟨(w.heap.size + 1 + 1), 2, none⟩) (Or.inl rfl) _).setCell (p := ⟨(w.heap.size + 1 + 1), 3, none⟩) (Or.inl rfl) _)
      replace F2 := Lib.hid (F2.out.oth B7.out noRow4 hFs)
      replace F4 := Lib.hid (F4.out.oth B7.out noRow4 hFs)
      replace F11 := Lib.hid (F11.out.oth B7.out noRow4 hFs)
      replace F29 := Lib.hid (F29.out.oth B7.out noRow4 hFs)
      replace F30 := Lib.hid (F30.out.oth B7.out noRow4 hFs)
      replace F39 := Lib.hid (F39.out.oth B7.out noRow4 hFs)
      replace F40 := Lib.hid (F40.out.oth B7.out noRow4 hFs)
      replace B5 := Lib.hid (B5.out.fr hFs (by first | omega | (have := B5.out.lt; have := B7.out.lt; omega)))
      replace B6 := Lib.hid (B6.out.fr hFs (by first | omega | (have := B6.out.lt; have := B7.out.lt; omega)))
      replace B12 := Lib.hid (B12.out.fr hFs (by first | omega | (have := B12.out.lt; have := B7.out.lt; omega)))
      replace HE := Lib.hid (HE.out.next hFs (fun i hi e => by first | omega | (have := HE.out.size; have := B7.out.lt; omega)))
      have b_new : Blk 55 ((((w55.setCell ⟨(w.heap.size + 1 + 1), 0, none⟩ (.bool s27)).setCell ⟨(w.heap.size + 1 + 1), 1, none⟩ (.slice A27 l27 c27)).setCell ⟨(w.heap.size + 1 + 1), 2, none⟩ (.bool s37)).setCell ⟨(w.heap.size + 1 + 1), 3, none⟩ (.slice A37 l37 c37)) (w.heap.size + 1 + 1) #[.bool s27, .slice A27 l27 c27, .bool s37, .slice A37 l37 c37] := ((((B7.out.set_ 0 _).set_ 1 _).set_ 2 _).set_ 3 _)
      generalize ((((w55.setCell ⟨(w.heap.size + 1 + 1), 0, none⟩ (.bool s27)).setCell ⟨(w.heap.size + 1 + 1), 1, none⟩ (.slice A27 l27 c27)).setCell ⟨(w.heap.size + 1 + 1), 2, none⟩ (.bool s37)).setCell ⟨(w.heap.size + 1 + 1), 3, none⟩ (.slice A37 l37 c37)) = w60 at *
      replace B7 := Lib.hid b_new; clear b_new hFs
      exact fin_NRat rfl rfl B7.out (NRatIs.of (by rw [HQ.out.1]; exact F29.out) (by rw [denF_big (fun h => Hb46.out (by have := HQ.out.2; omega)), HQ.out.2]; exact F39.out)) HE.out
  · have hk1 : ¬ 1 < k20 := by rw [← ek20]; exact fun h => hb20 (blen_gt_one.1 h)
    have hk2 : decide ((1 : Int) < (k20 : Int)) = false := by rw [decide_eq_false_iff_not]; omega
    have hk3 : decide (1 < k20) = false := by rw [decide_eq_false_iff_not]; omega
    have Hb20 := Lib.hid hb20
    clear ek20 hb20
    rintro e w61 ⟨rfl, hF⟩
    replace B5 := Lib.hid (B5.out.ext hF)
    replace B6 := Lib.hid (B6.out.ext hF)
    replace B7 := Lib.hid (B7.out.ext hF)
    replace B12 := Lib.hid (B12.out.ext hF)
    replace F2 := Lib.hid (F2.out.ext hF)
    replace F4 := Lib.hid (F4.out.ext hF)
    replace F11 := Lib.hid (F11.out.ext hF)
    replace HE := Lib.hid (HE.out.trans hF)
    clear hF
    have HQ : Hid (q.num = x ∧ (q.den : Int) = y) := by rw [← Hq.out]; exact frac_coprime HY.out (by have := gcd_pos_of (x := x) HY.out; have := Hb20.out; omega)
    obtain ⟨c62_0, c62_1, f62_0, f62_1⟩ := B5.out.cell2
    obtain ⟨c63_0, c63_1, f63_0, f63_1⟩ := B6.out.cell2
    obtain ⟨c64_0, c64_1, c64_2, c64_3, f64_0, f64_1, f64_2, f64_3⟩ := B7.out.cell4
    obtain ⟨c65_0, c65_1, f65_0, f65_1⟩ := B12.out.cell2
    go_wp2_with fail
    clear c62_0 c62_1 f62_0 f62_1 c63_0 c63_1 f63_0 f63_1 c64_0 c64_1 c64_2 c64_3 f64_0 f64_1 f64_2 f64_3 c65_0 c65_1 f65_0 f65_1
    refine (NBits_any _ (y) _ F4.out (by first | exact HFg.out | exact HFy.out | exact HFd.out)).mono ?_
    obtain ⟨k66, ek66⟩ : ∃ k, blen (y).natAbs = k := ⟨_, rfl⟩
    rw [ek66]
    by_cases hb66 : (y).natAbs = 1
    · obtain rfl : k66 = 1 := by rw [← ek66]; exact blen_eq_one.2 hb66
      have Hb66 := Lib.hid hb66
      clear ek66 hb66
      rintro e w67 ⟨rfl, hF⟩
      replace B5 := Lib.hid (B5.out.ext hF)
      replace B6 := Lib.hid (B6.out.ext hF)
      replace B7 := Lib.hid (B7.out.ext hF)
      replace B12 := Lib.hid (B12.out.ext hF)
      replace F2 := Lib.hid (F2.out.ext hF)
      replace F4 := Lib.hid (F4.out.ext hF)
      replace F11 := Lib.hid (F11.out.ext hF)
      replace HE := Lib.hid (HE.out.trans hF)
      clear hF
      obtain ⟨c68_0, c68_1, f68_0, f68_1⟩ := B5.out.cell2
      obtain ⟨c69_0, c69_1, f69_0, f69_1⟩ := B6.out.cell2
      obtain ⟨c70_0, c70_1, c70_2, c70_3, f70_0, f70_1, f70_2, f70_3⟩ := B7.out.cell4
      obtain ⟨c71_0, c71_1, f71_0, f71_1⟩ := B12.out.cell2
      go_wp2
      clear c68_0 c68_1 f68_0 f68_1 c69_0 c69_1 f69_0 f69_1 c70_0 c70_1 c70_2 c70_3 f70_0 f70_1 f70_2 f70_3 c71_0 c71_1 f71_0 f71_1
      have hFs : Fr (fun i => i = (w.heap.size + 1)) w67 ((w67.setCell ⟨(w.heap.size + 1), 0, none⟩ (.bool false)).setCell ⟨(w.heap.size + 1), 1, none⟩ (.slice none 0 0)) := (((Fr.refl (fun i => i = (w.heap.size + 1)) _).setCell (p := ⟨(w.heap.size + 1), 0, none⟩) (Or.inl rfl) _).setCell (p := ⟨(w.heap.size + 1), 1, none⟩) (Or.inl rfl) _)
      replace F2 := Lib.hid (F2.out.oth B6.out noRow2 hFs)
      replace F4 := Lib.hid (F4.out.oth B6.out noRow2 hFs)
      replace F11 := Lib.hid (F11.out.oth B6.out noRow2 hFs)
      replace B5 := Lib.hid (B5.out.fr hFs (by first | omega | (have := B5.out.lt; have := B6.out.lt; omega)))
      replace B7 := Lib.hid (B7.out.fr hFs (by first | omega | (have := B7.out.lt; have := B6.out.lt; omega)))
      replace B12 := Lib.hid (B12.out.fr hFs (by first | omega | (have := B12.out.lt; have := B6.out.lt; omega)))
      replace HE := Lib.hid (HE.out.next hFs (fun i hi e => by first | omega | (have := HE.out.size; have := B6.out.lt; omega)))
      have b_new : Blk 53 ((w67.setCell ⟨(w.heap.size + 1), 0, none⟩ (.bool false)).setCell ⟨(w.heap.size + 1), 1, none⟩ (.slice none 0 0)) (w.heap.size + 1) #[.bool false, .slice none 0 0] := ((B6.out.set_ 0 _).set_ 1 _)
      generalize ((w67.setCell ⟨(w.heap.size + 1), 0, none⟩ (.bool false)).setCell ⟨(w.heap.size + 1), 1, none⟩ (.slice none 0 0)) = w72 at *
      replace B6 := Lib.hid b_new; clear b_new hFs
      have hFs : Fr (fun i => i = (w.heap.size + 1 + 1)) w72 ((((w72.setCell ⟨(w.heap.size + 1 + 1), 0, none⟩ (.bool s1)).setCell ⟨(w.heap.size + 1 + 1), 1, none⟩ (.slice A1 l1 c1)).setCell ⟨(w.heap.size + 1 + 1), 2, none⟩ (.bool false)).setCell ⟨(w.heap.size + 1 + 1), 3, none⟩ (.slice none 0 0)) := (((((Fr.refl (fun i => i = (w.heap.size + 1 + 1)) _).setCell (p := ⟨(w.heap.size + 1 + 1), 0, none⟩) (Or.inl rfl) _).setCell (p := ⟨(w.heap.size + 1 + 1), 1, none⟩) (Or.inl rfl) _).setCell (p := ⟨(w.heap.size + 1 + 1), 2, none⟩) (Or.inl rfl) _).setCell (p := ⟨(w.heap.size + 1 + 1), 3, none⟩) (Or.inl rfl) _)
      replace F2 := Lib.hid (F2.out.oth B7.out noRow4 hFs)
      replace F4 := Lib.hid (F4.out.oth B7.out noRow4 hFs)
      replace F11 := Lib.hid (F11.out.oth B7.out noRow4 hFs)
      replace B5 := Lib.hid (B5.out.fr hFs (by first | omega | (have := B5.out.lt; have := B7.out.lt; omega)))
      replace B6 := Lib.hid (B6.out.fr hFs (by first | omega | (have := B6.out.lt; have := B7.out.lt; omega)))
      replace B12 := Lib.hid (B12.out.fr hFs (by first | omega | (have := B12.out.lt; have := B7.out.lt; omega)))
      replace HE := Lib.hid (HE.out.next hFs (fun i hi e => by first | omega | (have := HE.out.size; have := B7.out.lt; omega)))
      have b_new : Blk 55 ((((w72.setCell ⟨(w.heap.size + 1 + 1), 0, none⟩ (.bool s1)).setCell ⟨(w.heap.size + 1 + 1), 1, none⟩ (.slice A1 l1 c1)).setCell ⟨(w.heap.size + 1 + 1), 2, none⟩ (.bool false)).setCell ⟨(w.heap.size + 1 + 1), 3, none⟩ (.slice none 0 0)) (w.heap.size + 1 + 1) #[.bool s1, .slice A1 l1 c1, .bool false, .slice none 0 0] := ((((B7.out.set_ 0 _).set_ 1 _).set_ 2 _).set_ 3 _)
      generalize ((((w72.setCell ⟨(w.heap.size + 1 + 1), 0, none⟩ (.bool s1)).setCell ⟨(w.heap.size + 1 + 1), 1, none⟩ (.slice A1 l1 c1)).setCell ⟨(w.heap.size + 1 + 1), 2, none⟩ (.bool false)).setCell ⟨(w.heap.size + 1 + 1), 3, none⟩ (.slice none 0 0)) = w73 at *
      replace B7 := Lib.hid b_new; clear b_new hFs
      have F74 : Hid (NumIs w73 (.agg #[.bool false, .slice none 0 0]) (0)) := NumIs.nil _
      exact fin_NRat rfl rfl B7.out (NRatIs.of (by rw [HQ.out.1]; exact F2.out) (by rw [denF_one (by have := HQ.out.2; have := Hb66.out; have := q.den_nz; omega)]; exact F74.out)) HE.out
    · have hk1 : k66 ≠ 1 := by rw [← ek66]; exact fun h => hb66 (blen_eq_one.1 h)
      have hk2 : ((k66 : Int) == 1) = false := by simp; omega
      have Hb66 := Lib.hid hb66
      clear ek66 hb66
      rintro e w75 ⟨rfl, hF⟩
      replace B5 := Lib.hid (B5.out.ext hF)
      replace B6 := Lib.hid (B6.out.ext hF)
      replace B7 := Lib.hid (B7.out.ext hF)
      replace B12 := Lib.hid (B12.out.ext hF)
      replace F2 := Lib.hid (F2.out.ext hF)
      replace F4 := Lib.hid (F4.out.ext hF)
      replace F11 := Lib.hid (F11.out.ext hF)
      replace HE := Lib.hid (HE.out.trans hF)
      clear hF
      obtain ⟨c76_0, c76_1, f76_0, f76_1⟩ := B5.out.cell2
      obtain ⟨c77_0, c77_1, f77_0, f77_1⟩ := B6.out.cell2
      obtain ⟨c78_0, c78_1, c78_2, c78_3, f78_0, f78_1, f78_2, f78_3⟩ := B7.out.cell4
      obtain ⟨c79_0, c79_1, f79_0, f79_1⟩ := B12.out.cell2
      go_wp2
      clear c76_0 c76_1 f76_0 f76_1 c77_0 c77_1 f77_0 f77_1 c78_0 c78_1 c78_2 c78_3 f78_0 f78_1 f78_2 f78_3 c79_0 c79_1 f79_0 f79_1
      have hFs : Fr (fun i => i = (w.heap.size + 1 + 1)) w75 ((((w75.setCell ⟨(w.heap.size + 1 + 1), 0, none⟩ (.bool s1)).setCell ⟨(w.heap.size + 1 + 1), 1, none⟩ (.slice A1 l1 c1)).setCell ⟨(w.heap.size + 1 + 1), 2, none⟩ (.bool false)).setCell ⟨(w.heap.size + 1 + 1), 3, none⟩ (.slice A3 l3 c3)) := (((((Fr.refl (fun i => i = (w.heap.size + 1 + 1)) _).setCell (p := ⟨(w.heap.size + 1 + 1), 0, none⟩) (Or.inl rfl) _).setCell (p := ⟨(w.heap.size + 1 + 1), 1, none⟩) (Or.inl rfl) _).setCell (p := ⟨(w.heap.size + 1 + 1), 2, none⟩) (Or.inl rfl) _).setCell (p := ⟨(w.heap.size + 1 + 1), 3, none⟩) (Or.inl rfl) _)
      replace F2 := Lib.hid (F2.out.oth B7.out noRow4 hFs)
      replace F4 := Lib.hid (F4.out.oth B7.out noRow4 hFs)
      replace F11 := Lib.hid (F11.out.oth B7.out noRow4 hFs)
      replace B5 := Lib.hid (B5.out.fr hFs (by first | omega | (have := B5.out.lt; have := B7.out.lt; omega)))
      replace B6 := Lib.hid (B6.out.fr hFs (by first | omega | (have := B6.out.lt; have := B7.out.lt; omega)))
      replace B12 := Lib.hid (B12.out.fr hFs (by first | omega | (have := B12.out.lt; have := B7.out.lt; omega)))
      replace HE := Lib.hid (HE.out.next hFs (fun i hi e => by first | omega | (have := HE.out.size; have := B7.out.lt; omega)))
      have b_new : Blk 55 ((((w75.setCell ⟨(w.heap.size + 1 + 1), 0, none⟩ (.bool s1)).setCell ⟨(w.heap.size + 1 + 1), 1, none⟩ (.slice A1 l1 c1)).setCell ⟨(w.heap.size + 1 + 1), 2, none⟩ (.bool false)).setCell ⟨(w.heap.size + 1 + 1), 3, none⟩ (.slice A3 l3 c3)) (w.heap.size + 1 + 1) #[.bool s1, .slice A1 l1 c1, .bool false, .slice A3 l3 c3] := ((((B7.out.set_ 0 _).set_ 1 _).set_ 2 _).set_ 3 _)
      generalize ((((w75.setCell ⟨(w.heap.size + 1 + 1), 0, none⟩ (.bool s1)).setCell ⟨(w.heap.size + 1 + 1), 1, none⟩ (.slice A1 l1 c1)).setCell ⟨(w.heap.size + 1 + 1), 2, none⟩ (.bool false)).setCell ⟨(w.heap.size + 1 + 1), 3, none⟩ (.slice A3 l3 c3)) = w80 at *
      replace B7 := Lib.hid b_new; clear b_new hFs
      exact fin_NRat rfl rfl B7.out (NRatIs.of (by rw [HQ.out.1]; exact F2.out) (by rw [denF_big (fun h => Hb66.out (by have := HQ.out.2; omega)), HQ.out.2]; exact F4.out)) HE.out

theorem NFrac_any (a b : Value) (x y : Int) (w : World) (ha : NumIs w a x) (hb : NumIs w b y) (hx : NFits x) (hy : NFits y) (h0 : y ≠ 0) : Calls Tryz.prog 75 #[a, b] w (RetNRat w (Rat.divInt x y)) := by
  rcases Int.lt_or_gt_of_ne h0 with h | h
  · exact NFrac_neg a b x y _ w ha hb hx hy h rfl
  · exact NFrac_pos a b x y _ w ha hb hx hy h rfl

end Go.Proofs.YtndafmjcelgnbaaGreatDoor

namespace Go.Proofs.YtndafmjcelgnbaaGreatDoor
open Go.RowKit

theorem str_cat (a b : List UInt8) : (⟨a.toArray⟩ : ByteArray) ++ ⟨b.toArray⟩ = ⟨(a ++ b).toArray⟩ := by
  apply ByteArray.ext
  simp
theorem dec_len {n : Nat} (hn : ml n ≤ 65536) : (Lib.decDigits n).length ≤ 655360 := by
  rcases Nat.eq_zero_or_pos n with e | e
  · rw [e, Lib.decDigits_one (by omega)]; simp
  · have h1 : n < 10 ^ (10 * ml n) := by
      refine Nat.lt_of_lt_of_le (lt_ml n) ?_
      rw [Nat.pow_mul]
      exact Nat.pow_le_pow_left (by rw [W32_eq]; decide) _
    have := topText_le _ _ h1
    rw [topText_pos e] at this
    omega

set_option maxHeartbeats 2000000 in
set_option maxRecDepth 100000 in
theorem NText_neg_one (a : Value) (q : Rat) (w : World) (ha : NRatIs w a q) (h1 : ml q.num.natAbs ≤ 65536) (_ : ml q.den ≤ 65536) (hs : q.num < 0) (hd : q.den = 1) :
    Calls Tryz.prog 39 #[a] w (RetV w (.string ⟨(ratText q).toArray⟩)) := by
  obtain ⟨s1, A1, l1, c1, t1, B1, m1, d1, rfl⟩ := ha.shp
  have F2 : Hid (NRatIs w (.agg #[.bool s1, .slice A1 l1 c1, .bool t1, .slice B1 m1 d1]) (q)) := ha
  clear ha
  obtain rfl : s1 = true := F2.out.num.sneg hs
  have H1 : Hid (ml q.num.natAbs ≤ 65536) := h1
  obtain rfl : m1 = 0 := F2.out.den.len0 (denF_one hd)
  have HT : Hid (ratText q = 45 :: Lib.decDigits q.num.natAbs) := by unfold Hid ratText Lib.itoa; rw [if_pos hd, if_pos hs]
  obtain ⟨rt, ert⟩ : ∃ rt, ratText q = rt := ⟨_, rfl⟩
  rw [ert] at HT ⊢
  clear hs hd h1 ert
  go_enter Tryz.func39, Tryz.ntmps39
  go_wp2_with fail
  generalize hwb : World.alloc w _ = w4
  obtain ⟨b_B3, hE0⟩ := blocks1 hwb
  clear hwb
  have B3 := Lib.hid b_B3
  clear b_B3
  replace F2 := Lib.hid (F2.out.ext hE0)
  have HE := Lib.hid hE0
  clear hE0
  have F5 : Hid (NumIs w4 (.agg #[.bool true, .slice A1 l1 c1]) ((q).num)) := F2.out.num
  have F8 : Hid (MagIs w4 (.slice A1 l1 c1) (((q).num).natAbs)) := F5.out.mag
  refine (Digits_any true A1 l1 c1 _ _ F8.out (by first | exact H1.out | exact H2.out)).mono ?_
  obtain ⟨t7, et7⟩ : ∃ t, Lib.decDigits (((q).num).natAbs) = t := ⟨_, rfl⟩
  rw [et7]; have hlen7 : t7.length ≤ 655360 := by rw [← et7]; exact dec_len (by first | exact H1.out | exact H2.out)
  have Ht7 := Lib.hid et7; clear et7
  rintro e w6 ⟨rfl, hF⟩
  replace B3 := Lib.hid (B3.out.ext hF)
  replace F2 := Lib.hid (F2.out.ext hF)
  replace F5 := Lib.hid (F5.out.ext hF)
  replace F8 := Lib.hid (F8.out.ext hF)
  replace HE := Lib.hid (HE.out.trans hF)
  clear hF
  obtain ⟨c9_0, c9_1, c9_2, c9_3, f9_0, f9_1, f9_2, f9_3⟩ := B3.out.cell4
  go_wp2
  clear c9_0 c9_1 c9_2 c9_3 f9_0 f9_1 f9_2 f9_3
  go_ret
  refine ⟨?_, HE.out⟩
  rw [HT.out, Ht7.out]
  show Ending.returned (.string ((⟨#[45]⟩ : ByteArray) ++ ⟨t7.toArray⟩)) = _
  simp only [str_cat]
  rfl

set_option maxHeartbeats 2000000 in
set_option maxRecDepth 100000 in
theorem NText_neg_big (a : Value) (q : Rat) (w : World) (ha : NRatIs w a q) (h1 : ml q.num.natAbs ≤ 65536) (h2 : ml q.den ≤ 65536) (hs : q.num < 0) (hd : ¬ q.den = 1) :
    Calls Tryz.prog 39 #[a] w (RetV w (.string ⟨(ratText q).toArray⟩)) := by
  obtain ⟨s1, A1, l1, c1, t1, B1, m1, d1, rfl⟩ := ha.shp
  have F2 : Hid (NRatIs w (.agg #[.bool s1, .slice A1 l1 c1, .bool t1, .slice B1 m1 d1]) (q)) := ha
  clear ha
  obtain rfl : s1 = true := F2.out.num.sneg hs
  have H1 : Hid (ml q.num.natAbs ≤ 65536) := h1
  have hl : 0 < m1 := F2.out.den.lenp (denF_ne hd)
  have hlb : decide ((0 : Int) < (m1 : Int)) = true := by rw [decide_eq_true_eq]; omega
  have H2 : Hid (ml (denF q).natAbs ≤ 65536) := by unfold Hid; rw [denF_big hd, Int.natAbs_natCast]; exact h2
  have HT : Hid (ratText q = (45 :: Lib.decDigits q.num.natAbs) ++ (47 :: Lib.decDigits (denF q).natAbs)) := by
    unfold Hid ratText
    rw [if_neg hd, denF_big hd, Int.natAbs_natCast, Lib.itoa_nonneg]
    unfold Lib.itoa
    rw [if_pos (show q.num < 0 by omega)]
    simp
  obtain ⟨rt, ert⟩ : ∃ rt, ratText q = rt := ⟨_, rfl⟩
  rw [ert] at HT ⊢
  clear hs hd h1 h2 ert
  go_enter Tryz.func39, Tryz.ntmps39
  go_wp2_with fail
  generalize hwb : World.alloc w _ = w4
  obtain ⟨b_B3, hE0⟩ := blocks1 hwb
  clear hwb
  have B3 := Lib.hid b_B3
  clear b_B3
  replace F2 := Lib.hid (F2.out.ext hE0)
  have HE := Lib.hid hE0
  clear hE0
  have F5 : Hid (NumIs w4 (.agg #[.bool true, .slice A1 l1 c1]) ((q).num)) := F2.out.num
  have F8 : Hid (MagIs w4 (.slice A1 l1 c1) (((q).num).natAbs)) := F5.out.mag
  refine (Digits_any true A1 l1 c1 _ _ F8.out (by first | exact H1.out | exact H2.out)).mono ?_
  obtain ⟨t7, et7⟩ : ∃ t, Lib.decDigits (((q).num).natAbs) = t := ⟨_, rfl⟩
  rw [et7]; have hlen7 : t7.length ≤ 655360 := by rw [← et7]; exact dec_len (by first | exact H1.out | exact H2.out)
  have Ht7 := Lib.hid et7; clear et7
  rintro e w6 ⟨rfl, hF⟩
  replace B3 := Lib.hid (B3.out.ext hF)
  replace F2 := Lib.hid (F2.out.ext hF)
  replace F5 := Lib.hid (F5.out.ext hF)
  replace F8 := Lib.hid (F8.out.ext hF)
  replace HE := Lib.hid (HE.out.trans hF)
  clear hF
  obtain ⟨c9_0, c9_1, c9_2, c9_3, f9_0, f9_1, f9_2, f9_3⟩ := B3.out.cell4
  go_wp2_with fail
  clear c9_0 c9_1 c9_2 c9_3 f9_0 f9_1 f9_2 f9_3
  have F10 : Hid (NumIs w6 (.agg #[.bool t1, .slice B1 m1 d1]) (denF (q))) := F2.out.den
  have F13 : Hid (MagIs w6 (.slice B1 m1 d1) ((denF (q)).natAbs)) := F10.out.mag
  refine (Digits_any t1 B1 m1 d1 _ _ F13.out (by first | exact H1.out | exact H2.out)).mono ?_
  obtain ⟨t12, et12⟩ : ∃ t, Lib.decDigits ((denF (q)).natAbs) = t := ⟨_, rfl⟩
  rw [et12]; have hlen12 : t12.length ≤ 655360 := by rw [← et12]; exact dec_len (by first | exact H1.out | exact H2.out)
  have Ht12 := Lib.hid et12; clear et12
  rintro e w11 ⟨rfl, hF⟩
  replace B3 := Lib.hid (B3.out.ext hF)
  replace F2 := Lib.hid (F2.out.ext hF)
  replace F5 := Lib.hid (F5.out.ext hF)
  replace F8 := Lib.hid (F8.out.ext hF)
  replace F10 := Lib.hid (F10.out.ext hF)
  replace F13 := Lib.hid (F13.out.ext hF)
  replace HE := Lib.hid (HE.out.trans hF)
  clear hF
  obtain ⟨c14_0, c14_1, c14_2, c14_3, f14_0, f14_1, f14_2, f14_3⟩ := B3.out.cell4
  go_wp2
  clear c14_0 c14_1 c14_2 c14_3 f14_0 f14_1 f14_2 f14_3
  go_ret
  refine ⟨?_, HE.out⟩
  rw [HT.out, Ht7.out, Ht12.out]
  show Ending.returned (.string (((⟨#[45]⟩ : ByteArray) ++ ⟨t7.toArray⟩) ++ ((⟨#[47]⟩ : ByteArray) ++ ⟨t12.toArray⟩))) = _
  simp only [str_cat]
  rfl

set_option maxHeartbeats 2000000 in
set_option maxRecDepth 100000 in
theorem NText_pos_one (a : Value) (q : Rat) (w : World) (ha : NRatIs w a q) (h1 : ml q.num.natAbs ≤ 65536) (_ : ml q.den ≤ 65536) (hs : 0 ≤ q.num) (hd : q.den = 1) :
    Calls Tryz.prog 39 #[a] w (RetV w (.string ⟨(ratText q).toArray⟩)) := by
  obtain ⟨s1, A1, l1, c1, t1, B1, m1, d1, rfl⟩ := ha.shp
  have F2 : Hid (NRatIs w (.agg #[.bool s1, .slice A1 l1 c1, .bool t1, .slice B1 m1 d1]) (q)) := ha
  clear ha
  obtain rfl : s1 = false := F2.out.num.spos hs
  have H1 : Hid (ml q.num.natAbs ≤ 65536) := h1
  obtain rfl : m1 = 0 := F2.out.den.len0 (denF_one hd)
  have HT : Hid (ratText q = Lib.decDigits q.num.natAbs) := by unfold Hid ratText Lib.itoa; rw [if_pos hd, if_neg (show ¬ q.num < 0 by omega)]; rw [show q.num.toNat = q.num.natAbs by omega]
  obtain ⟨rt, ert⟩ : ∃ rt, ratText q = rt := ⟨_, rfl⟩
  rw [ert] at HT ⊢
  clear hs hd h1 ert
  go_enter Tryz.func39, Tryz.ntmps39
  go_wp2_with fail
  generalize hwb : World.alloc w _ = w4
  obtain ⟨b_B3, hE0⟩ := blocks1 hwb
  clear hwb
  have B3 := Lib.hid b_B3
  clear b_B3
  replace F2 := Lib.hid (F2.out.ext hE0)
  have HE := Lib.hid hE0
  clear hE0
  have F5 : Hid (NumIs w4 (.agg #[.bool false, .slice A1 l1 c1]) ((q).num)) := F2.out.num
  have F8 : Hid (MagIs w4 (.slice A1 l1 c1) (((q).num).natAbs)) := F5.out.mag
  refine (Digits_any false A1 l1 c1 _ _ F8.out (by first | exact H1.out | exact H2.out)).mono ?_
  obtain ⟨t7, et7⟩ : ∃ t, Lib.decDigits (((q).num).natAbs) = t := ⟨_, rfl⟩
  rw [et7]; have hlen7 : t7.length ≤ 655360 := by rw [← et7]; exact dec_len (by first | exact H1.out | exact H2.out)
  have Ht7 := Lib.hid et7; clear et7
  rintro e w6 ⟨rfl, hF⟩
  replace B3 := Lib.hid (B3.out.ext hF)
  replace F2 := Lib.hid (F2.out.ext hF)
  replace F5 := Lib.hid (F5.out.ext hF)
  replace F8 := Lib.hid (F8.out.ext hF)
  replace HE := Lib.hid (HE.out.trans hF)
  clear hF
  obtain ⟨c9_0, c9_1, c9_2, c9_3, f9_0, f9_1, f9_2, f9_3⟩ := B3.out.cell4
  go_wp2
  clear c9_0 c9_1 c9_2 c9_3 f9_0 f9_1 f9_2 f9_3
  go_ret
  refine ⟨?_, HE.out⟩
  rw [HT.out, Ht7.out]
  show Ending.returned (.string (⟨t7.toArray⟩ : ByteArray)) = _
  rfl

set_option maxHeartbeats 2000000 in
set_option maxRecDepth 100000 in
theorem NText_pos_big (a : Value) (q : Rat) (w : World) (ha : NRatIs w a q) (h1 : ml q.num.natAbs ≤ 65536) (h2 : ml q.den ≤ 65536) (hs : 0 ≤ q.num) (hd : ¬ q.den = 1) :
    Calls Tryz.prog 39 #[a] w (RetV w (.string ⟨(ratText q).toArray⟩)) := by
  obtain ⟨s1, A1, l1, c1, t1, B1, m1, d1, rfl⟩ := ha.shp
  have F2 : Hid (NRatIs w (.agg #[.bool s1, .slice A1 l1 c1, .bool t1, .slice B1 m1 d1]) (q)) := ha
  clear ha
  obtain rfl : s1 = false := F2.out.num.spos hs
  have H1 : Hid (ml q.num.natAbs ≤ 65536) := h1
  have hl : 0 < m1 := F2.out.den.lenp (denF_ne hd)
  have hlb : decide ((0 : Int) < (m1 : Int)) = true := by rw [decide_eq_true_eq]; omega
  have H2 : Hid (ml (denF q).natAbs ≤ 65536) := by unfold Hid; rw [denF_big hd, Int.natAbs_natCast]; exact h2
  have HT : Hid (ratText q = (Lib.decDigits q.num.natAbs) ++ (47 :: Lib.decDigits (denF q).natAbs)) := by
    unfold Hid ratText
    rw [if_neg hd, denF_big hd, Int.natAbs_natCast, Lib.itoa_nonneg]
    unfold Lib.itoa
    rw [if_neg (show ¬ q.num < 0 by omega)]
    rw [show q.num.toNat = q.num.natAbs by omega]
    simp
  obtain ⟨rt, ert⟩ : ∃ rt, ratText q = rt := ⟨_, rfl⟩
  rw [ert] at HT ⊢
  clear hs hd h1 h2 ert
  go_enter Tryz.func39, Tryz.ntmps39
  go_wp2_with fail
  generalize hwb : World.alloc w _ = w4
  obtain ⟨b_B3, hE0⟩ := blocks1 hwb
  clear hwb
  have B3 := Lib.hid b_B3
  clear b_B3
  replace F2 := Lib.hid (F2.out.ext hE0)
  have HE := Lib.hid hE0
  clear hE0
  have F5 : Hid (NumIs w4 (.agg #[.bool false, .slice A1 l1 c1]) ((q).num)) := F2.out.num
  have F8 : Hid (MagIs w4 (.slice A1 l1 c1) (((q).num).natAbs)) := F5.out.mag
  refine (Digits_any false A1 l1 c1 _ _ F8.out (by first | exact H1.out | exact H2.out)).mono ?_
  obtain ⟨t7, et7⟩ : ∃ t, Lib.decDigits (((q).num).natAbs) = t := ⟨_, rfl⟩
  rw [et7]; have hlen7 : t7.length ≤ 655360 := by rw [← et7]; exact dec_len (by first | exact H1.out | exact H2.out)
  have Ht7 := Lib.hid et7; clear et7
  rintro e w6 ⟨rfl, hF⟩
  replace B3 := Lib.hid (B3.out.ext hF)
  replace F2 := Lib.hid (F2.out.ext hF)
  replace F5 := Lib.hid (F5.out.ext hF)
  replace F8 := Lib.hid (F8.out.ext hF)
  replace HE := Lib.hid (HE.out.trans hF)
  clear hF
  obtain ⟨c9_0, c9_1, c9_2, c9_3, f9_0, f9_1, f9_2, f9_3⟩ := B3.out.cell4
  go_wp2_with fail
  clear c9_0 c9_1 c9_2 c9_3 f9_0 f9_1 f9_2 f9_3
  have F10 : Hid (NumIs w6 (.agg #[.bool t1, .slice B1 m1 d1]) (denF (q))) := F2.out.den
  have F13 : Hid (MagIs w6 (.slice B1 m1 d1) ((denF (q)).natAbs)) := F10.out.mag
  refine (Digits_any t1 B1 m1 d1 _ _ F13.out (by first | exact H1.out | exact H2.out)).mono ?_
  obtain ⟨t12, et12⟩ : ∃ t, Lib.decDigits ((denF (q)).natAbs) = t := ⟨_, rfl⟩
  rw [et12]; have hlen12 : t12.length ≤ 655360 := by rw [← et12]; exact dec_len (by first | exact H1.out | exact H2.out)
  have Ht12 := Lib.hid et12; clear et12
  rintro e w11 ⟨rfl, hF⟩
  replace B3 := Lib.hid (B3.out.ext hF)
  replace F2 := Lib.hid (F2.out.ext hF)
  replace F5 := Lib.hid (F5.out.ext hF)
  replace F8 := Lib.hid (F8.out.ext hF)
  replace F10 := Lib.hid (F10.out.ext hF)
  replace F13 := Lib.hid (F13.out.ext hF)
  replace HE := Lib.hid (HE.out.trans hF)
  clear hF
  obtain ⟨c14_0, c14_1, c14_2, c14_3, f14_0, f14_1, f14_2, f14_3⟩ := B3.out.cell4
  go_wp2
  clear c14_0 c14_1 c14_2 c14_3 f14_0 f14_1 f14_2 f14_3
  go_ret
  refine ⟨?_, HE.out⟩
  rw [HT.out, Ht7.out, Ht12.out]
  show Ending.returned (.string ((⟨t7.toArray⟩ : ByteArray) ++ ((⟨#[47]⟩ : ByteArray) ++ ⟨t12.toArray⟩))) = _
  simp only [str_cat]
  rfl

theorem NText_all (a : Value) (q : Rat) (w : World) (ha : NRatIs w a q) (h1 : ml q.num.natAbs ≤ 65536) (h2 : ml q.den ≤ 65536) : Calls Tryz.prog 39 #[a] w (RetV w (.string ⟨(ratText q).toArray⟩)) := by
  by_cases hs : q.num < 0
  · by_cases hd : q.den = 1
    · exact NText_neg_one a q w ha h1 h2 hs hd
    · exact NText_neg_big a q w ha h1 h2 hs hd
  · by_cases hd : q.den = 1
    · exact NText_pos_one a q w ha h1 h2 (by omega) hd
    · exact NText_pos_big a q w ha h1 h2 (by omega) hd

end Go.Proofs.YtndafmjcelgnbaaGreatDoor

namespace Go.Proofs.YtndafmjcelgnbaaGreatDoor
open Go.RowKit

/-- what FromDigits returns -/
def RetFD (w : World) (l : List UInt8) (e : Ending) (w' : World) : Prop :=
  ∃ v b, e = .returned (.tuple #[v, .bool b]) ∧ b = (l.all isDig && !l.isEmpty) ∧ NumIs w' v (if l.all isDig then (decVal l : Int) else 0) ∧ Ext w w'
theorem fin_NumB {fn : Func} {t t' : Tmp} {tmps : Array Value} {w w' : World} {r : Nat} {x y : Value} {b : Bool} {l : List UInt8} (hres : fn.results = #[.cell t 53, .tmp t']) (ht : tmps[t]? = some (.pointer (some ⟨r, 0, none⟩))) (ht' : tmps[t']? = some (.bool b))
    (hB : Blk 53 w' r #[x, y]) (hI : NumIs w' (.agg #[x, y]) (if l.all isDig then (decVal l : Int) else 0)) (hb : b = (l.all isDig && !l.isEmpty)) (hE : Ext w w') : bodyPost Tryz.prog fn (RetFD w l) .ret ⟨tmps, []⟩ w' := by
  obtain ⟨h0, h1, _⟩ := hB.cell2
  exact bodyPost_ret (v := .tuple #[.agg #[x, y], .bool b]) (by simp [results, hres, ht, ht', go_sem, h0, h1]) rfl ⟨_, _, rfl, hb, hI, hE⟩
theorem MagIs.one_pos {w : World} {b r : Nat} (h : Own .u32 137 w b [r]) (hr : r < W32) (h0 : 0 < r) : MagIs w (.slice (some ⟨b, 0, none⟩) 1 1) r :=
  ⟨_, [r], 1, rfl, Nat.le_refl _, h.shows0, Dig.cons hr Dig.nil, fun k hk => by simp at hk; subst hk; simp; omega, by simp⟩
theorem ml_ten {n k : Nat} (h : n < 10 ^ k) : ml n ≤ k := ml_le_iff.2 (Nat.lt_of_lt_of_le h (Nat.pow_le_pow_left (by rw [W32_eq]; omega) _))
theorem toList_empty (s : ByteArray) : s.toList.isEmpty = (bytes s).isEmpty := by
  rw [Lib.toList_data]
/-- within a chunk: k digits from place i on have been read -/
def FdIn (l : List UInt8) (i k v f : Nat) : Prop := k ≤ 9 ∧ i + k ≤ l.length ∧ (l.take (i + k)).all isDig = true ∧ v = decVal ((l.drop i).take k) ∧ f = 10 ^ k
theorem FdIn.bounds {l : List UInt8} {i k v f : Nat} (h : FdIn l i k v f) : v < 10 ^ k ∧ v < 1000000000 ∧ f ≤ 1000000000 ∧ 0 < f := by
  obtain ⟨h1, h2, h3, h4, h5⟩ := h
  have hall : ((l.drop i).take k).all isDig = true := by
    rw [List.all_eq_true] at h3 ⊢
    intro x hx
    refine h3 x ?_
    rw [List.take_add]
    exact List.mem_append_right _ hx
  have := decVal_lt _ hall
  rw [List.length_take, List.length_drop, Nat.min_eq_left (by omega), ← h4] at this
  have h6 : 10 ^ k ≤ 10 ^ 9 := Nat.pow_le_pow_right (by omega) h1
  have h7 : 0 < 10 ^ k := Nat.pow_pos (by omega)
  exact ⟨this, by omega, by omega, by omega⟩
theorem FdIn.step {l : List UInt8} {i k v f : Nat} {c : UInt8} (h : FdIn l i k v f) (hk : k < 9) (hlt : i + k < l.length) (hc : l[i + k] = c) (hd : isDig c = true) : FdIn l i (k + 1) (v * 10 + (c.toNat - 48)) (f * 10) := by
  obtain ⟨h1, h2, h3, h4, h5⟩ := h
  refine ⟨by omega, by omega, ?_, ?_, by rw [h5, Nat.pow_succ]⟩
  · rw [← Nat.add_assoc, List.take_succ_eq_append_getElem hlt, List.all_append, h3, hc]
    simp [hd]
  · rw [List.take_succ_eq_append_getElem (by simp; omega), decVal_snoc, ← h4, List.getElem_drop, hc]
    omega
theorem FdIn.done {l : List UInt8} {i k v f : Nat} (h : FdIn l i k v f) : decVal (l.take i) * f + v = decVal (l.take (i + k)) := by
  obtain ⟨h1, h2, h3, h4, h5⟩ := h
  have : l.take (i + k) = l.take i ++ (l.drop i).take k := by rw [List.take_add]
  rw [this, decVal_append, List.length_take, List.length_drop, Nat.min_eq_left (by omega), ← h4, h5]
theorem not_all {l : List UInt8} {i : Nat} (h : i < l.length) (hd : isDig l[i] = false) : l.all isDig = false := by
  rw [List.all_eq_false]
  exact ⟨l[i], List.getElem_mem h, by simp [hd]⟩

set_option maxHeartbeats 2000000 in
set_option maxRecDepth 100000 in
theorem NFromDigits_any (s : ByteArray) (w : World) (hs : s.size ≤ 65536) : Calls Tryz.prog 126 #[.string s] w (RetFD w (bytes s)) := by
  have hbl := Lib.hid (bytes_length s)
  go_enter Tryz.func126, Tryz.ntmps126
  go_wp2_with fail
  generalize hwb : World.alloc w _ = w1
  obtain ⟨b0, hE0⟩ := blocks1 hwb
  have HB := Lib.hid b0
  have HE := Lib.hid hE0
  clear hwb b0 hE0
  go_loopw [4, 5, 6, 7, 8] (fun mv iv _ _ _ wr => ∃ (i : Nat) (A : Option Addr) (ln c : Nat), i ≤ s.size ∧ iv = .int .i64 (i : Int) ∧ mv = .slice A ln c ∧ Hid (((bytes s).take i).all isDig = true) ∧ Hid (MagIs wr (.slice A ln c) (decVal ((bytes s).take i))) ∧ Hid (Ext w1 wr)) (fun _ iv _ _ _ _ => s.size - (intOf iv).toNat)
  case atStart => exact ⟨0, none, 0, 0, by omega, rfl, rfl, by unfold Hid; simp, by unfold Hid; simpa [decVal] using MagIs.zero _, Fr.refl _ _⟩
  case round =>
    obtain ⟨i, A, ln, c, hi, rfl, rfl, hall, hM, hF⟩ := hrel
    by_cases hlt : i < s.size
    · go_wp2
      go_loop [5, 6, 7, 8] (fun iv vv fv kv => ∃ (k v f : Nat), k ≤ 9 ∧ i + k ≤ s.size ∧ v < 1000000000 ∧ f ≤ 1000000000 ∧ 0 < f ∧ iv = .int .i64 ((i + k : Nat) : Int) ∧ vv = .int .u32 (v : Int) ∧ fv = .int .u32 (f : Int) ∧ kv = .int .i64 (k : Int) ∧ Hid (FdIn (bytes s) i k v f)) (fun _ _ _ kv => 9 - (intOf kv).toNat)
      case atStart => exact ⟨0, 0, 1, by omega, by omega, by omega, by omega, by omega, rfl, rfl, rfl, rfl, ⟨by omega, by rw [hbl.out]; omega, hall.out, by simp [decVal], rfl⟩⟩
      case round =>
        obtain ⟨k, v, f, hk, hik, hv, hf, hf0, rfl, rfl, rfl, rfl, hI⟩ := hrel
        by_cases hgo : k < 9 ∧ i + k < s.size
        · obtain ⟨g1, g2⟩ := hgo
          have gd1 : decide ((k : Int) < 9) = true := by rw [decide_eq_true_eq]; omega
          have hbk : (bytes s)[i + k]'(by rw [hbl.out]; exact g2) = s[i + k] := bytes_at s g2
          by_cases hd : isDig s[i + k] = true
          · have HI2 := Lib.hid (hI.out.step g1 (by rw [hbl.out]; exact g2) hbk hd)
            have hb := isDig_bounds hd
            have hb2 := HI2.out.bounds
            have e1 : IntKind.u8.wrap ((s[i + k].toNat : Int) - 48) = ((s[i + k].toNat - 48 : Nat) : Int) := by rw [IntKind.wrap_u8]; omega
            have e1' : ((s[i + k].toNat : Int) - 48) % 256 = ((s[i + k].toNat - 48 : Nat) : Int) := by omega
            obtain ⟨d, ed⟩ : ∃ d, s[i + k].toNat - 48 = d := ⟨_, rfl⟩
            have hd9 : d ≤ 9 := by omega
            rw [ed] at HI2 e1 e1' hb2
            have hv2 := hb2.2.1
            have hf2 := hb2.2.2.1
            have x1 : (i : Int) + (k : Int) < (s.size : Int) := by omega
            have x2 : (0 : Int) ≤ (i : Int) + (k : Int) := by omega
            have x3 : (48 : Int) ≤ (s[i + k].toNat : Int) := by omega
            have x4 : ¬ ((s[i + k].toNat : Int) < 48) := by omega
            have x5 : ¬ ((57 : Int) < (s[i + k].toNat : Int)) := by omega
            have x6 : decide ((s[i + k].toNat : Int) < 48) = false := by rw [decide_eq_false_iff_not]; omega
            have x7 : decide ((57 : Int) < (s[i + k].toNat : Int)) = false := by rw [decide_eq_false_iff_not]; omega
            have x8 : ((i : Int) + (k : Int)).toNat = i + k := by omega
            clear hb2 hbk ed hd
            go_wp2
            go_round
            case rel => exact ⟨k + 1, v * 10 + d, f * 10, by omega, by omega, hv2, hf2, by omega, by go_num, by go_num, by go_num, by go_num, HI2⟩
            case measure => simp [intOf]; omega
          · have hno : Hid ((bytes s).all isDig = false) := not_all (by rw [hbl.out]; exact g2) (by rw [hbk]; simpa using hd)
            have HBx := Lib.hid (HB.out.ext hF.out)
            have HEx := Lib.hid (HE.out.trans hF.out)
            obtain ⟨z0, z1, z2, z3⟩ := HBx.out.cell2
            have x1 : (i : Int) + (k : Int) < (s.size : Int) := by omega
            have x2 : (0 : Int) ≤ (i : Int) + (k : Int) := by omega
            have x8 : ((i : Int) + (k : Int)).toNat = i + k := by omega
            have hFin : Hid (∀ tmps : Array Value, tmps[2]? = some (.pointer (some ⟨w.heap.size, 0, none⟩)) → tmps[3]? = some (.bool false) → bodyPost Tryz.prog Tryz.f126 (RetFD w (bytes s)) .ret ⟨tmps, []⟩ ((wr.setCell ⟨w.heap.size, 0, none⟩ (.bool false)).setCell ⟨w.heap.size, 1, none⟩ (.slice none 0 0))) := by
              intro tmps h2 h3
              have hFs : Fr (fun i => i = w.heap.size) wr ((wr.setCell ⟨w.heap.size, 0, none⟩ (.bool false)).setCell ⟨w.heap.size, 1, none⟩ (.slice none 0 0)) := ((Fr.refl (fun i => i = w.heap.size) _).setCell (p := ⟨w.heap.size, 0, none⟩) (Or.inl rfl) _).setCell (p := ⟨w.heap.size, 1, none⟩) (Or.inl rfl) _
              refine fin_NumB rfl h2 h3 ((HBx.out.set_ 0 _).set_ 1 _) ?_ (by rw [hno.out]; rfl) (HEx.out.next hFs (fun i hi e => by omega))
              rw [hno.out]; exact NumIs.nil _
            by_cases hlo : s[i + k].toNat < 48
            · have x3 : (s[i + k].toNat : Int) < 48 := by omega
              have x6 : decide ((s[i + k].toNat : Int) < 48) = true := by rw [decide_eq_true_eq]; omega
              clear hbk hd hno
              go_wp2
              exact hFin.out _ rfl rfl
            · have hhi : 57 < s[i + k].toNat := by
                have : isDig s[i + k] = false := by simpa using hd
                unfold isDig at this
                simp at this
                omega
              have x3 : ¬ ((s[i + k].toNat : Int) < 48) := by omega
              have x4 : (57 : Int) < (s[i + k].toNat : Int) := by omega
              have x6 : decide ((s[i + k].toNat : Int) < 48) = false := by rw [decide_eq_false_iff_not]; omega
              have x7 : decide ((57 : Int) < (s[i + k].toNat : Int)) = true := by rw [decide_eq_true_eq]; omega
              clear hbk hd hno
              go_wp2
              exact hFin.out _ rfl rfl
        · have hk1 : 1 ≤ k := by
            rcases Nat.eq_zero_or_pos k with e | e
            · subst e; exact absurd ⟨by omega, by omega⟩ hgo
            · exact e
          have hfW : Hid (f < W32) := by unfold Hid; rw [W32_eq]; omega
          have hvW : Hid (v < W32) := by unfold Hid; rw [W32_eq]; omega
          have hml1 : Hid (ml (decVal ((bytes s).take i)) ≤ 1048576) := by
            have h1 := ml_ten (decVal_lt _ hall.out)
            rw [List.length_take, hbl.out] at h1
            unfold Hid; omega
          have hmlf : Hid (ml f ≤ 1048576) := by
            have := ml_le_iff (n := f) (k := 1)
            rw [Nat.pow_one] at this
            have := this.2 hfW.out
            unfold Hid; omega
          have hmlv : Hid (ml v ≤ 1048576) := by
            have := ml_le_iff (n := v) (k := 1)
            rw [Nat.pow_one] at this
            have := this.2 hvW.out
            unfold Hid; omega
          have hdone := Lib.hid hI.out.done
          have hall2 : Hid (((bytes s).take (i + k)).all isDig = true) := hI.out.2.2.1
          have hml2 : Hid (ml (decVal ((bytes s).take i) * f) ≤ 1048576) := by
            have h1 := ml_ten (decVal_lt _ hall2.out)
            rw [List.length_take, hbl.out] at h1
            have h2 := ml_mono (show decVal ((bytes s).take i) * f ≤ decVal ((bytes s).take (i + k)) by have := hdone.out; omega)
            unfold Hid; omega
          have hF0 : Hid (0 < f) := hf0
          by_cases h9 : k < 9
          · have g2 : ¬ ((i : Int) + (k : Int) < (s.size : Int)) := by omega
            have gd1 : decide ((k : Int) < 9) = true := by rw [decide_eq_true_eq]; omega
            have gd2 : decide ((i : Int) + (k : Int) < (s.size : Int)) = false := by rw [decide_eq_false_iff_not]; omega
            clear hgo hI
            go_wp2_with fail
            generalize hwb : World.alloc wr _ = w2
            have hO2 : Own .u32 137 w2 wr.heap.size [f] := hwb ▸ Own.new wr 137 .u32 [f] []
            have hF2 : Ext wr w2 := hwb ▸ (Fr.refl _ _).alloc _
            clear hwb
            refine (mulMag_any _ _ (decVal ((bytes s).take i)) f _ (hM.out.ext hF2) (MagIs.one_pos hO2 hfW.out hF0.out) hml1.out hmlf.out).mono ?_
            rintro e w3 ⟨_, rfl, hN3, hF3⟩
            obtain ⟨A3, l3, c3, rfl⟩ := hN3.slice
            have HN3 := Lib.hid hN3
            have HF3 := Lib.hid ((hF.out.trans hF2).trans hF3)
            clear hN3 hF3 hF2 hO2
            go_wp2_with fail
            generalize hwb : World.alloc w3 _ = w4
            have hO4 : Own .u32 137 w4 w3.heap.size [v] := hwb ▸ Own.new w3 137 .u32 [v] []
            have hF4 : Ext w3 w4 := hwb ▸ (Fr.refl _ _).alloc _
            clear hwb
            refine (trim32_any _ [v] 1 1 _ rfl hO4.shows0 (by simp) (by simp)).mono ?_
            rintro e w5 ⟨rfl, rfl⟩
            have HV4 := Lib.hid (MagIs.one hO4 hvW.out)
            have HN4 := Lib.hid (HN3.out.ext hF4)
            have HF4 := Lib.hid (HF3.out.trans hF4)
            clear hO4 hF4 HN3 HF3
            go_wp2_with fail
            refine (addMag_any _ _ _ _ _ HN4.out HV4.out hml2.out hmlv.out).mono ?_
            rintro e w6 ⟨_, rfl, hN6, hF6⟩
            rw [hdone.out] at hN6
            obtain ⟨A6, l6, c6, rfl⟩ := hN6.slice
            have HN6 := Lib.hid hN6
            have HF6 := Lib.hid (HF4.out.trans hF6)
            clear hN6 hF6
            go_wp2
            go_roundw
            case rel => exact ⟨i + k, A6, l6, c6, by omega, by go_num, rfl, hall2, HN6, HF6⟩
            case measure => simp [intOf]; omega
          · have g2 : ¬ ((k : Int) < 9) := by omega
            have gd1 : decide ((k : Int) < 9) = false := by rw [decide_eq_false_iff_not]; omega
            clear hgo hI
            go_wp2_with fail
            generalize hwb : World.alloc wr _ = w2
            have hO2 : Own .u32 137 w2 wr.heap.size [f] := hwb ▸ Own.new wr 137 .u32 [f] []
            have hF2 : Ext wr w2 := hwb ▸ (Fr.refl _ _).alloc _
            clear hwb
            refine (mulMag_any _ _ (decVal ((bytes s).take i)) f _ (hM.out.ext hF2) (MagIs.one_pos hO2 hfW.out hF0.out) hml1.out hmlf.out).mono ?_
            rintro e w3 ⟨_, rfl, hN3, hF3⟩
            obtain ⟨A3, l3, c3, rfl⟩ := hN3.slice
            have HN3 := Lib.hid hN3
            have HF3 := Lib.hid ((hF.out.trans hF2).trans hF3)
            clear hN3 hF3 hF2 hO2
            go_wp2_with fail
            generalize hwb : World.alloc w3 _ = w4
            have hO4 : Own .u32 137 w4 w3.heap.size [v] := hwb ▸ Own.new w3 137 .u32 [v] []
            have hF4 : Ext w3 w4 := hwb ▸ (Fr.refl _ _).alloc _
            clear hwb
            refine (trim32_any _ [v] 1 1 _ rfl hO4.shows0 (by simp) (by simp)).mono ?_
            rintro e w5 ⟨rfl, rfl⟩
            have HV4 := Lib.hid (MagIs.one hO4 hvW.out)
            have HN4 := Lib.hid (HN3.out.ext hF4)
            have HF4 := Lib.hid (HF3.out.trans hF4)
            clear hO4 hF4 HN3 HF3
            go_wp2_with fail
            refine (addMag_any _ _ _ _ _ HN4.out HV4.out hml2.out hmlv.out).mono ?_
            rintro e w6 ⟨_, rfl, hN6, hF6⟩
            rw [hdone.out] at hN6
            obtain ⟨A6, l6, c6, rfl⟩ := hN6.slice
            have HN6 := Lib.hid hN6
            have HF6 := Lib.hid (HF4.out.trans hF6)
            clear hN6 hF6
            go_wp2
            go_roundw
            case rel => exact ⟨i + k, A6, l6, c6, by omega, by go_num, rfl, hall2, HN6, HF6⟩
            case measure => simp [intOf]; omega
    · obtain rfl : i = s.size := by omega
      have e1 : (bytes s).take s.size = bytes s := List.take_of_length_le (by rw [hbl.out]; exact Nat.le_refl _)
      have HA : Hid ((bytes s).all isDig = true) := by have := hall.out; rw [e1] at this; exact this
      have HM : Hid (MagIs wr (.slice A ln c) (decVal (bytes s))) := by have := hM.out; rw [e1] at this; exact this
      have HBx := Lib.hid (HB.out.ext hF.out)
      have HEx := Lib.hid (HE.out.trans hF.out)
      have hbe := Lib.hid (toList_empty s)
      clear e1 hall hM
      go_wp2_with fail
      refine (make1_ret false _ _ _ HM.out).mono ?_
      rintro e w2 ⟨_, rfl, hI, hF2⟩
      obtain ⟨s2, A2, l2, c2, rfl⟩ := hI.shp
      have HI := Lib.hid hI
      have HB' := Lib.hid (HBx.out.ext hF2)
      have HE' := Lib.hid (HEx.out.trans hF2)
      obtain ⟨k0, k1, k2, k3⟩ := HB'.out.cell2
      clear hI hF2
      go_wp2
      have hFs : Fr (fun i => i = w.heap.size) w2 ((w2.setCell ⟨w.heap.size, 0, none⟩ (.bool s2)).setCell ⟨w.heap.size, 1, none⟩ (.slice A2 l2 c2)) := ((Fr.refl (fun i => i = w.heap.size) _).setCell (p := ⟨w.heap.size, 0, none⟩) (Or.inl rfl) _).setCell (p := ⟨w.heap.size, 1, none⟩) (Or.inl rfl) _
      refine fin_NumB (b := !s.toList.isEmpty) rfl rfl rfl ((HB'.out.set_ 0 _).set_ 1 _) ?_ (by rw [HA.out, hbe.out]; rfl) (HE'.out.next hFs (fun i hi e => by omega))
      rw [HA.out]
      exact HI.out.oth HB'.out noRow2 hFs
end Go.Proofs.YtndafmjcelgnbaaGreatDoor
