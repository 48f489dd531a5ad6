/-
  Package integer: the methods of Int, by the integers that they hold.
-/
import Derived.Test.YtndafmjcelgnbaaGreatDoorInt
import Derived.Test.YtndafmjcelgnbaaGreatDoorShift
import Derived.Test.YtndafmjcelgnbaaGreatDoorDivWord
namespace Go.Proofs.YtndafmjcelgnbaaGreatDoor
open Go.RowKit

theorem IntIs.open {w : World} {v : Value} {z : Int} (h : IntIs w v z) : ∃ (s : Bool) (A : Option Addr) (l c : Nat), v = .agg #[.bool s, .slice A l c] ∧ NatIs w (.slice A l c) z.natAbs ∧ z = sg s z.natAbs ∧ (z = 0 → s = false) := by
  obtain ⟨s, u, n, h1, h2, h3, h4⟩ := h
  obtain ⟨A, l, c, rfl⟩ := h2.slice
  have hn : z.natAbs = n := by cases s <;> simp at h4 <;> omega
  refine ⟨s, A, l, c, h1, hn ▸ h2, ?_, ?_⟩
  · rw [hn]; exact h4
  · intro hz; exact h3 (by omega)
theorem IntIs.of {w : World} {s : Bool} {u : Value} {z : Int} (h : NatIs w u z.natAbs) (hz : z = sg s z.natAbs) (h0 : z = 0 → s = false) : IntIs w (.agg #[.bool s, u]) z :=
  ⟨s, u, z.natAbs, rfl, h, fun e => h0 (by omega), hz⟩

/-- The number of words of the absolute value of an integer is small. -/
def Fits (z : Int) : Prop := wl z.natAbs ≤ 1048576

theorem Add_any (a b : Value) (x y : Int) (w : World) (ha : IntIs w a x) (hb : IntIs w b y) (hx : Fits x) (hy : Fits y) : Calls Tryz.prog 52 #[a, b] w (RetInt w (x + y)) := by
  obtain ⟨s, A, l, c, rfl, hN, hz, h0⟩ := ha.open
  obtain ⟨t, A', l', c', rfl, hN', hz', h0'⟩ := hb.open
  unfold Fits at hx hy
  cases s <;> cases t <;> simp only [sg, if_true, if_false, Bool.false_eq_true] at hz hz'
  · exact Add_same_false _ _ _ _ _ _ w hN hN' (by omega) (by omega) rfl (by simp [sg]; omega)
  · rcases Nat.lt_or_ge x.natAbs y.natAbs with h | h
    · exact Add_diff_false_lt _ _ _ _ _ _ w hN hN' (by omega) (by omega) h rfl (by simp [sg]; omega)
    · exact Add_diff_false_ge _ _ _ _ _ _ w hN hN' (by omega) (by omega) h rfl (by simp [sg]; omega)
  · rcases Nat.lt_or_ge x.natAbs y.natAbs with h | h
    · exact Add_diff_true_lt _ _ _ _ _ _ w hN hN' (by omega) (by omega) h rfl (by simp [sg]; omega)
    · exact Add_diff_true_ge _ _ _ _ _ _ w hN hN' (by omega) (by omega) h rfl (by simp [sg]; omega)
  · exact Add_same_true _ _ _ _ _ _ w hN hN' (by omega) (by omega) rfl (by simp [sg]; omega)

theorem Mul_any (a b : Value) (x y : Int) (w : World) (ha : IntIs w a x) (hb : IntIs w b y) (hx : Fits x) (hy : Fits y) (h40 : wl x.natAbs < 40 ∨ wl y.natAbs < 40) : Calls Tryz.prog 53 #[a, b] w (RetInt w (x * y)) := by
  obtain ⟨s, A, l, c, rfl, hN, hz, h0⟩ := ha.open
  obtain ⟨t, A', l', c', rfl, hN', hz', h0'⟩ := hb.open
  unfold Fits at hx hy
  generalize x.natAbs = m at *
  generalize y.natAbs = n at *
  subst hz hz'
  cases s <;> cases t
  · exact Mul_false_false _ _ _ _ _ _ w hN hN' (by omega) (by omega) h40 rfl (by simp [sg])
  · exact Mul_false_true _ _ _ _ _ _ w hN hN' (by omega) (by omega) h40 rfl (by simp [sg, Int.mul_neg])
  · exact Mul_true_false _ _ _ _ _ _ w hN hN' (by omega) (by omega) h40 rfl (by simp [sg, Int.neg_mul])
  · exact Mul_true_true _ _ _ _ _ _ w hN hN' (by omega) (by omega) h40 rfl (by simp [sg, Int.neg_mul, Int.mul_neg])

theorem two_blocks {t : TypeId} {w wb : World} {x y : Array Value} (h : (w.alloc (.cells x t)).alloc (.cells y t) = wb) : Blk t wb w.heap.size x ∧ Blk t wb (w.heap.size + 1) y ∧ Ext w wb := by
  subst h
  have e1 : (w.alloc (.cells x t)).heap.size = w.heap.size + 1 := by simp
  have h2 := Blk.new (w.alloc (.cells x t)) t y
  rw [e1] at h2
  exact ⟨(Blk.new _ _ _).alloc _, h2, ((Fr.refl _ _).alloc _).alloc _⟩

theorem fin_int0 {fn : Func} {t : Tmp} {tmps : Array Value} {w w' : World} {r : Nat} {s : Bool} {u : Value} {z : Int}
    (hres : fn.results = #[.cell t 67]) (ht : tmps[t]? = some (.pointer (some ⟨r, 0, none⟩))) (hB : Blk 67 w' r #[.bool s, u]) (hI : IntIs w' (.agg #[.bool s, u]) z) (hE : Ext w w') :
    bodyPost Tryz.prog fn (RetInt w z) .ret ⟨tmps, []⟩ w' :=
  bodyPost_ret (results_int hres _ _ r _ _ ht hB) rfl ⟨_, rfl, hI, hE⟩

set_option maxHeartbeats 1000000 in
set_option maxRecDepth 100000 in
theorem Neg_any (a : Value) (x : Int) (w : World) (ha : IntIs w a x) : Calls Tryz.prog 118 #[a] w (RetInt w (-x)) := by
  obtain ⟨s, A, l, c, rfl, hN, hz, h0⟩ := ha.open
  have HN := Lib.hid hN
  have Hz := Lib.hid hz
  have H0 := Lib.hid h0
  clear hN hz h0 ha
  go_enter Tryz.func118, Tryz.ntmps118
  go_wp2_with fail
  generalize hwb : World.alloc (World.alloc w _) _ = wb
  obtain ⟨hBx, hBr, hE⟩ := two_blocks hwb
  have HBr := Lib.hid hBr
  have HE := Lib.hid hE
  clear hwb hBx hBr hE
  refine (signed_any _ _ _ _ (HN.out.ext HE.out)).mono ?_
  rintro e w2 ⟨s2, rfl, hs2, hF2⟩
  obtain ⟨z0, z1, z2, z3⟩ := (HBr.out.ext hF2).cell2
  have HF2 := Lib.hid hF2
  clear hF2
  go_wp2
  refine fin_int rfl rfl (by omega) HE.out HBr.out HF2.out (HN.out.ext (HE.out.trans HF2.out)) hs2.out ?_
  have := Hz.out
  cases s <;> simp [sg] at this ⊢ <;> omega

set_option maxHeartbeats 1000000 in
set_option maxRecDepth 100000 in
theorem Abs_any (a : Value) (x : Int) (w : World) (ha : IntIs w a x) : Calls Tryz.prog 156 #[a] w (RetInt w (x.natAbs : Int)) := by
  obtain ⟨s, A, l, c, rfl, hN, hz, h0⟩ := ha.open
  have HN := Lib.hid hN
  clear hN hz h0 ha
  obtain ⟨m, em⟩ : ∃ m, x.natAbs = m := ⟨_, rfl⟩
  rw [em] at HN ⊢
  clear em
  go_enter Tryz.func156, Tryz.ntmps156
  go_wp2
  generalize hwb : World.alloc (World.alloc w _) _ = wb
  obtain ⟨hBx, hBr, hE⟩ := two_blocks hwb
  exact fin_int0 rfl rfl hBr (IntIs.of (z := (m : Int)) (HN.out.ext hE) rfl (fun _ => rfl)) hE

/-- the result v; nothing that was there has changed -/
def RetV (w : World) (v : Value) (e : Ending) (w' : World) : Prop := e = .returned v ∧ Ext w w'

theorem NatIs.len0 {w : World} {A : Option Addr} {l c n : Nat} (h : NatIs w (.slice A l c) n) : l = wl n := by
  obtain ⟨A', xs, c', e, hc, h1, h2, h3, rfl⟩ := h
  injection e with e1 e2 e3
  rw [e2]; exact wl_len h2 h3
theorem wl_zero_iff {n : Nat} : wl n = 0 ↔ n = 0 := by
  constructor
  · intro h; rcases Nat.eq_zero_or_pos n with e | e
    · exact e
    · have := wl_pos e; omega
  · rintro rfl; rfl

set_option maxHeartbeats 1000000 in
theorem IsZero_any (a : Value) (x : Int) (w : World) (ha : IntIs w a x) : Calls Tryz.prog 119 #[a] w (RetV w (.bool (decide (x = 0)))) := by
  obtain ⟨s, A, l, c, rfl, hN, hz, h0⟩ := ha.open
  have hl := hN.len0
  have hd : Hid (decide (x = 0) = ((l : Int) == 0)) := by
    unfold Hid
    rw [Bool.eq_iff_iff]
    simp
    rw [hl, wl_zero_iff]
    omega
  clear hN hz h0 ha hl
  go_enter Tryz.func119, Tryz.ntmps119
  go_wp2
  go_ret
  exact ⟨by rw [hd.out]; rfl, (Fr.refl _ _).alloc _⟩

set_option maxHeartbeats 1000000 in
theorem Sign_any (a : Value) (x : Int) (w : World) (ha : IntIs w a x) : Calls Tryz.prog 159 #[a] w (RetV w (.int .i64 x.sign)) := by
  obtain ⟨s, A, l, c, rfl, hN, hz, h0⟩ := ha.open
  have hl := hN.len0
  by_cases hx : x = 0
  · subst hx
    obtain rfl : l = 0 := by rw [hl]; rfl
    clear hN hz h0 ha hl
    go_enter Tryz.func159, Tryz.ntmps159
    go_wp2
    go_ret
    exact ⟨rfl, (Fr.refl _ _).alloc _⟩
  · have hl0 : ((l : Int) == 0) = false := by
      have : l ≠ 0 := by rw [hl]; intro e; rw [wl_zero_iff] at e; omega
      simp; exact this
    have hs : Hid (x.sign = if s then -1 else 1) := by
      unfold Hid
      cases s <;> simp only [sg, if_true, if_false, Bool.false_eq_true] at hz ⊢
      · have h : 0 < x := by omega
        exact Int.sign_eq_one_of_pos h
      · have h : x < 0 := by omega
        exact Int.sign_eq_neg_one_of_neg h
    clear hN hz h0 ha hl hx
    cases s
    all_goals
      go_enter Tryz.func159, Tryz.ntmps159
      go_wp2
      go_ret
      exact ⟨by rw [hs.out]; rfl, (Fr.refl _ _).alloc _⟩

set_option maxHeartbeats 1000000 in
theorem IsOne_any (a : Value) (x : Int) (w : World) (ha : IntIs w a x) : Calls Tryz.prog 100 #[a] w (RetV w (.bool (decide (x = 1)))) := by
  obtain ⟨s, A, l, c, rfl, hN, hz, h0⟩ := ha.open
  have hl := hN.len0
  cases s with
  | true =>
    have hx : Hid (decide (x = 1) = false) := by unfold Hid; simp [sg] at hz; simp; omega
    clear hN hz h0 ha hl
    go_enter Tryz.func100, Tryz.ntmps100
    go_wp2
    go_ret
    exact ⟨by rw [hx.out]; rfl, (Fr.refl _ _).alloc _⟩
  | false =>
    by_cases h1 : l = 1
    · subst h1
      obtain ⟨A', xs, c', e, hc, g1, g2, g3, g4⟩ := hN
      injection e with e1 e2 e3
      subst e1 e3
      obtain ⟨x0, rfl⟩ : ∃ x0, xs = [x0] := by match xs, e2 with | [y], _ => exact ⟨y, rfl⟩
      simp at g4
      obtain ⟨b, off, rfl, hb, hc0⟩ := g1.at (i := 0) (by simp)
      simp at hc0
      have hne := Nat.ne_of_lt hb
      have hx : Hid (decide (x = 1) = ((x0 : Int) == 1)) := by
        unfold Hid; rw [Bool.eq_iff_iff]; simp; simp [sg] at hz; omega
      clear hz h0 ha hl g1 g2 g3 g4 e2 hc
      go_enter Tryz.func100, Tryz.ntmps100
      go_wp2
      go_ret
      exact ⟨by rw [hx.out]; rfl, (Fr.refl _ _).alloc _⟩
    · have hl1 : ((l : Int) == 1) = false := by simp; omega
      have hx : Hid (decide (x = 1) = false) := by
        unfold Hid
        rw [decide_eq_false_iff_not]
        rintro rfl
        apply h1
        rw [hl]
        rfl
      clear hN hz h0 ha hl h1
      go_enter Tryz.func100, Tryz.ntmps100
      go_wp2
      go_ret
      exact ⟨by rw [hx.out]; rfl, (Fr.refl _ _).alloc _⟩

/-- the order of two integers, from their signs and absolute values -/
theorem cmpI_neg2 (a b : Nat) : cmpI (-(b : Int)) (-(a : Int)) = cmpI a b := by
  unfold cmpI; congr 1
  · simp
  · congr 1; simp

set_option maxHeartbeats 2000000 in
theorem Compare_any (a b : Value) (x y : Int) (w : World) (ha : IntIs w a x) (hb : IntIs w b y) (hx : Fits x) (hy : Fits y) : Calls Tryz.prog 63 #[a, b] w (RetV w (.int .i64 (cmpI x y))) := by
  obtain ⟨s, A, l, c, rfl, hN, hz, h0⟩ := ha.open
  obtain ⟨t, A', l', c', rfl, hN', hz', h0'⟩ := hb.open
  unfold Fits at hx hy
  have HN := Lib.hid hN
  have HN' := Lib.hid hN'
  have Hx := Lib.hid hx
  have Hy := Lib.hid hy
  cases s <;> cases t <;> simp only [sg, if_true, if_false, Bool.false_eq_true] at hz hz'
  · have hr : Hid (cmpI x y = cmpI (x.natAbs : Int) (y.natAbs : Int)) := by unfold Hid; rw [← hz, ← hz']
    clear hN hN' hz hz' h0 h0' ha hb hx hy
    go_enter Tryz.func63, Tryz.ntmps63
    go_wp2_with fail
    refine (compare_nat _ _ x.natAbs y.natAbs _ (HN.out.ext (((Fr.refl _ _).alloc _).alloc _)) (HN'.out.ext (((Fr.refl _ _).alloc _).alloc _)) (by have := Hx.out; omega) (by have := Hy.out; omega)).mono ?_
    rintro e w' ⟨rfl, nd, rfl⟩
    go_wp2
    go_ret
    exact ⟨by rw [hr.out]; rfl, (((Fr.refl _ _).alloc _).alloc _).drewN _⟩
  · have hr : Hid (cmpI x y = 1) := cmpI_gt (by have : y ≠ 0 := fun e => by simp [e] at h0'; 
                                                omega)
    clear hN hN' hz hz' h0 h0' ha hb hx hy
    go_enter Tryz.func63, Tryz.ntmps63
    go_wp2
    go_ret
    exact ⟨by rw [hr.out]; rfl, (((Fr.refl _ _).alloc _).alloc _)⟩
  · have hr : Hid (cmpI x y = -1) := cmpI_lt (by have : x ≠ 0 := fun e => by simp [e] at h0
                                                 omega)
    clear hN hN' hz hz' h0 h0' ha hb hx hy
    go_enter Tryz.func63, Tryz.ntmps63
    go_wp2
    go_ret
    exact ⟨by rw [hr.out]; rfl, (((Fr.refl _ _).alloc _).alloc _)⟩
  · have hr : Hid (cmpI x y = cmpI (y.natAbs : Int) (x.natAbs : Int)) := by unfold Hid; rw [← cmpI_neg2, ← hz, ← hz']
    clear hN hN' hz hz' h0 h0' ha hb hx hy
    go_enter Tryz.func63, Tryz.ntmps63
    go_wp2_with fail
    refine (compare_nat _ _ y.natAbs x.natAbs _ (HN'.out.ext (((Fr.refl _ _).alloc _).alloc _)) (HN.out.ext (((Fr.refl _ _).alloc _).alloc _)) (by have := Hy.out; omega) (by have := Hx.out; omega)).mono ?_
    rintro e w' ⟨rfl, nd, rfl⟩
    go_wp2
    go_ret
    exact ⟨by rw [hr.out]; rfl, (((Fr.refl _ _).alloc _).alloc _).drewN _⟩

theorem neg_emod_nat {m p r : Nat} (h : m % p = r) (hp : 0 < p) : (r = 0 → (-(m : Int)) % (p : Int) = 0) ∧ (r ≠ 0 → (-(m : Int)) % (p : Int) = ((p - r : Nat) : Int)) := by
  have hd := Nat.div_add_mod m p
  rw [h] at hd
  generalize m / p = q at hd
  have hr : r < p := h ▸ Nat.mod_lt _ hp
  subst hd
  constructor
  · rintro rfl
    rw [Nat.add_zero, Int.natCast_mul, ← Int.mul_neg]
    exact Int.mul_emod_right _ _
  · intro h0
    have e : -((p * q + r : Nat) : Int) = ((p - r : Nat) : Int) + (p : Int) * (-(q : Int) - 1) := by
      rw [Int.mul_sub, Int.mul_neg, Int.mul_one, Int.natCast_add, Int.natCast_mul]; omega
    rw [e, Int.add_mul_emod_self_left, Int.emod_eq_of_lt (by omega) (by omega)]

set_option maxHeartbeats 2000000 in
/-- ModWord, for a modulus that is not 0 -/
theorem ModWord_any (a : Value) (x : Int) (p : Nat) (w : World) (ha : IntIs w a x) (hx : Fits x) (h0 : 0 < p) (hp : p < W64) : Calls Tryz.prog 50 #[a, .int .u64 (p : Int)] w (RetV w (.int .u64 (x % (p : Int)))) := by
  obtain ⟨s, A, l, c, rfl, hN, hz, _⟩ := ha.open
  unfold Fits at hx
  obtain ⟨A', xs, c', e, hc, g1, g2, g3, g4⟩ := hN
  injection e with e1 e2 e3
  subst e1 e2 e3
  have hl := wl_len g2 g3
  rw [g4] at hl
  have G1 := Lib.hid g1
  have G2 := Lib.hid g2
  have hl' : Hid (xs.length ≤ 1099511627776) := by unfold Hid; omega
  have hP := Lib.hid hp
  have h0' : ((p : Int) == 0) = false := by simp; omega
  obtain ⟨r, er⟩ : ∃ r, val W64 xs % p = r := ⟨_, rfl⟩
  have hrp : r < p := by rw [← er]; exact Nat.mod_lt _ h0
  have Hp := Lib.hid h0
  have Er := Lib.hid er
  cases s with
  | false =>
    have hr : Hid (x % (p : Int) = (r : Int)) := by
      unfold Hid
      simp only [sg, Bool.false_eq_true, if_false] at hz
      rw [hz, ← er, g4, Int.natCast_emod]
    clear hl hx hz g1 g2 g3 g4 er hrp h0 hp hc ha
    go_enter Tryz.func50, Tryz.ntmps50
    go_wp2_with fail
    refine (remainderWord_any A xs _ c p _ rfl (G1.out.alloc _) hl'.out G2.out Hp.out hP.out).mono ?_
    rintro e w' ⟨rfl, nd, rfl⟩
    rw [Er.out]
    go_wp2
    go_ret
    exact ⟨by rw [hr.out]; rfl, ((Fr.refl _ _).alloc _).drewN _⟩
  | true =>
    simp only [sg, if_true] at hz
    obtain ⟨hm0, hm1⟩ := neg_emod_nat (m := val W64 xs) (p := p) (r := r) er h0
    rw [g4, ← hz] at hm0 hm1
    by_cases r0 : r = 0
    · have hr : Hid (x % (p : Int) = 0) := hm0 r0
      clear hl hx hz g1 g2 g3 g4 er hrp h0 hp hc ha hm0 hm1
      go_enter Tryz.func50, Tryz.ntmps50
      go_wp2_with fail
      refine (remainderWord_any A xs _ c p _ rfl (G1.out.alloc _) hl'.out G2.out Hp.out hP.out).mono ?_
      rintro e w' ⟨rfl, nd, rfl⟩
      rw [Er.out, r0]
      go_wp2
      go_ret
      exact ⟨by rw [hr.out]; rfl, ((Fr.refl _ _).alloc _).drewN _⟩
    · have hr : Hid (x % (p : Int) = ((p - r : Nat) : Int)) := hm1 r0
      have hr0 : decide (0 < r) = true := by simp; omega
      have hw : IntKind.u64.wrap ((p : Int) - (r : Int)) = ((p - r : Nat) : Int) := by
        rw [show (p : Int) - (r : Int) = ((p - r : Nat) : Int) by omega]
        exact wrapW _ (by omega)
      obtain ⟨d, ed⟩ : ∃ d, p - r = d := ⟨_, rfl⟩
      rw [ed] at hw hr
      clear hl hx hz g1 g2 g3 g4 er hrp h0 hp hc ha hm0 hm1 ed r0
      go_enter Tryz.func50, Tryz.ntmps50
      go_wp2_with fail
      refine (remainderWord_any A xs _ c p _ rfl (G1.out.alloc _) hl'.out G2.out Hp.out hP.out).mono ?_
      rintro e w' ⟨rfl, nd, rfl⟩
      rw [Er.out]
      go_wp2
      go_ret
      exact ⟨by rw [hr.out]; rfl, ((Fr.refl _ _).alloc _).drewN _⟩
end Go.Proofs.YtndafmjcelgnbaaGreatDoor
