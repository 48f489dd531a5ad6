/-
  The library's tables in memory; math/bits.TrailingZeros64; gcdWord.
-/
import Derived.Test.YtndafmjcelgnbaaGreatDoorShift
import Derived.Lib.AppendIntMem
import Derived.Shelf.Spec.TrailingZeros
namespace Go.Proofs.YtndafmjcelgnbaaGreatDoor
open Go.RowKit

def db64 : List Int := Lib.deBruijn64tab.map fun n : Nat => (n : Int)
/-- The tables that the library reads hold what its text lays there. -/
def Glob (w : World) : Prop := Lib.TabIs Tryz.prog w "internal/strconv.uint64pow10" .u64 Lib.pow10Tab ∧ Lib.TabIs Tryz.prog w "math/bits.deBruijn64tab" .u8 db64
theorem Glob.ext {w w' : World} (h : Glob w) (hf : Ext w w') : Glob w' := ⟨Lib.tabBelow_of_tabIs h.1 w' hf.toBelow, Lib.tabBelow_of_tabIs h.2 w' hf.toBelow⟩
theorem Glob.cell {w : World} (h : Glob w) (i : Nat) (hi : i < 64) : w.cell? ⟨4, i, none⟩ = some (.int .u8 ((Lib.deBruijn64tab.getD i 0 : Nat) : Int)) := by
  have h1 := h.2.cell (g := 4) (by kernel_rfl) i (by rw [db64, List.length_map]; exact hi)
  rw [h1]
  have hl : i < Lib.deBruijn64tab.length := hi
  simp [db64, List.getElem?_eq_getElem hl]

theorem ctzFrom_of : ∀ (f t m : Nat), t < f → Lib.ctzFrom f (2 ^ t * (2 * m + 1)) = t
  | 0, t, m, h => by omega
  | f + 1, 0, m, _ => by unfold Lib.ctzFrom; rw [if_pos (by omega)]
  | f + 1, t + 1, m, h => by
    unfold Lib.ctzFrom
    have e : 2 ^ (t + 1) * (2 * m + 1) = 2 * (2 ^ t * (2 * m + 1)) := by rw [Nat.pow_succ, Nat.mul_comm (2 ^ t) 2, Nat.mul_assoc]
    rw [e, if_neg (by omega), Nat.mul_div_cancel_left _ (by omega), ctzFrom_of f t m (by omega)]
    omega
theorem two_odd (x : Nat) (h0 : 0 < x) (hx : x < W64) : ∃ t m, x = 2 ^ t * (2 * m + 1) ∧ t < 64 := by
  rw [W64_eq] at hx
  obtain ⟨m, h1, h2⟩ := Lib.ctzFrom_spec 64 x h0 (by omega)
  exact ⟨_, m, h1, h2⟩

set_option maxHeartbeats 1000000 in
theorem tz64_core (x k idx : Nat) (w : World) (hx0 : ((x : Int) == 0) = false)
    (key : IntKind.u64.wrap (bits BinOp.and IntKind.u64 (x : Int) (IntKind.u64.wrap (-(x : Int))) * 285870213051353865) / 288230376151711744 = (idx : Int))
    (hi : idx < 64) (hk : k < 64) (hcell : w.cell? ⟨4, idx, none⟩ = some (.int .u8 (k : Int))) :
    Calls Tryz.prog 193 #[.int .u64 (x : Int)] w fun e w' => e = .returned (.int .i64 (k : Int)) ∧ w = w' := by
  go_enter Tryz.func193, Tryz.ntmps193
  go_wp2_with (simp only [key])
  go_ret
  exact ⟨rfl, rfl⟩
theorem tz64_any (x t m : Nat) (w : World) (hg : Glob w) (hx : x = 2 ^ t * (2 * m + 1)) (ht : t < 64) (hxW : x < W64) :
    Calls Tryz.prog 193 #[.int .u64 (x : Int)] w fun e w' => e = .returned (.int .i64 (t : Int)) ∧ w = w' := by
  rw [W64_eq] at hxW
  have hx0 : x ≠ 0 := by
    rw [hx]; intro e
    rcases Nat.mul_eq_zero.1 e with e | e
    · have := Nat.pow_pos (a := 2) (n := t) (by omega); omega
    · omega
  obtain ⟨hlow, hk⟩ := Lib.lowest_bit 64 x hx0 hxW
  obtain ⟨hi, htab⟩ := Lib.deBruijn64_at _ hk
  have hcell := hg.cell _ hi
  rw [htab] at hcell
  have e : Lib.ctz 64 x = t := by
    unfold Lib.ctz
    rw [if_neg hx0, hx]
    exact ctzFrom_of 64 t m ht
  have h := tz64_core x _ _ w (by simp; omega) (Go.Proofs.tz64_key x _ hxW hx0 hlow) hi hk hcell
  rw [e] at h
  exact h

theorem gcd_odd_left (x t y : Nat) (hx : x % 2 = 1) : Nat.gcd x (2 ^ t * y) = Nat.gcd x y := by
  have h : Nat.Coprime x (2 ^ t) := by
    refine Nat.Coprime.pow_right t ?_
    rw [Nat.coprime_comm, Nat.Coprime, Nat.gcd_rec, hx]
    simp
  exact h.symm.gcd_mul_left_cancel_right y
theorem gcd_two_pow (a b x y : Nat) (hx : x % 2 = 1) (hy : y % 2 = 1) : Nat.gcd (2 ^ a * x) (2 ^ b * y) = 2 ^ (min a b) * Nat.gcd x y := by
  rcases Nat.le_total a b with h | h
  · obtain ⟨c, rfl⟩ : ∃ c, b = a + c := ⟨b - a, by omega⟩
    rw [Nat.min_eq_left h, Nat.pow_add, Nat.mul_assoc, Nat.gcd_mul_left, gcd_odd_left x c y hx]
  · obtain ⟨c, rfl⟩ : ∃ c, a = b + c := ⟨a - b, by omega⟩
    rw [Nat.min_eq_right h, Nat.pow_add, Nat.mul_assoc, Nat.gcd_mul_left, Nat.gcd_comm, gcd_odd_left y c x hy, Nat.gcd_comm]
/-- the low zero bits of 'x | y' -/
theorem or_low (a b m n : Nat) : ∃ k, 2 ^ a * (2 * m + 1) ||| 2 ^ b * (2 * n + 1) = 2 ^ (min a b) * (2 * k + 1) := by
  have key : ∀ c p q : Nat, ∃ k, (2 * p + 1) ||| (2 ^ c * (2 * q + 1)) = 2 * k + 1 := by
    intro c p q
    refine ⟨((2 * p + 1) ||| (2 ^ c * (2 * q + 1))) / 2, ?_⟩
    have : ((2 * p + 1) ||| (2 ^ c * (2 * q + 1))) % 2 = 1 := by
      simp
    omega
  have sh : ∀ a x y : Nat, 2 ^ a * x ||| 2 ^ a * y = 2 ^ a * (x ||| y) := by
    intro a x y
    rw [Nat.mul_comm _ x, Nat.mul_comm _ y, Nat.mul_comm _ (x ||| y), ← Nat.shiftLeft_eq, ← Nat.shiftLeft_eq, ← Nat.shiftLeft_eq, Nat.shiftLeft_or_distrib]
  rcases Nat.le_total a b with h | h
  · obtain ⟨c, rfl⟩ : ∃ c, b = a + c := ⟨b - a, by omega⟩
    obtain ⟨k, hk⟩ := key c m n
    exact ⟨k, by rw [Nat.min_eq_left h, Nat.pow_add, Nat.mul_assoc, sh, hk]⟩
  · obtain ⟨c, rfl⟩ : ∃ c, a = b + c := ⟨a - b, by omega⟩
    obtain ⟨k, hk⟩ := key c n m
    exact ⟨k, by rw [Nat.min_eq_right h, Nat.pow_add, Nat.mul_assoc, sh, Nat.or_comm, hk]⟩
theorem gcd_le_left' {x y : Nat} (hx : 0 < x) : Nat.gcd x y ≤ x := Nat.gcd_le_left y hx
theorem or_lt_W {x y : Nat} (hx : x < W64) (hy : y < W64) : x ||| y < W64 := by
  rw [W64_eq] at *
  exact Nat.or_lt_two_pow (n := 64) hx hy

set_option maxHeartbeats 2000000 in
set_option maxRecDepth 100000 in
theorem gcdWord_any (x y g : Nat) (w : World) (hg : Glob w) (hx : x < W64) (hy : y < W64) (hgv : Nat.gcd x y = g) :
    Calls Tryz.prog 171 #[.int .u64 (x : Int), .int .u64 (y : Int)] w fun e w' => e = .returned (.int .u64 (g : Int)) ∧ w = w' := by
  have HG := Lib.hid hgv
  have HX := Lib.hid hx
  have HY := Lib.hid hy
  have HGl := Lib.hid hg
  clear hg hx hy hgv
  by_cases h0 : x = 0
  · subst h0
    have e1 := or_u64 (a := 0) (b := y) HX.out HY.out
    have HE : Hid (y = g) := by have := HG.out; rw [Nat.gcd_zero_left] at this; exact this
    rw [Nat.zero_or] at e1
    go_enter Tryz.func171, Tryz.ntmps171
    go_wp2
    go_ret
    exact ⟨by rw [← HE.out]; first | exact congrArg Ending.returned (congrArg (Value.int .u64) e1) | rfl, rfl⟩
  have x0 : ((x : Int) == 0) = false := by simp; omega
  by_cases h1 : y = 0
  · subst h1
    have e1 := or_u64 (a := x) (b := 0) HX.out HY.out
    have HE : Hid (x = g) := by have := HG.out; rw [Nat.gcd_zero_right] at this; exact this
    rw [Nat.or_zero] at e1
    go_enter Tryz.func171, Tryz.ntmps171
    go_wp2
    go_ret
    exact ⟨by rw [← HE.out]; first | exact congrArg Ending.returned (congrArg (Value.int .u64) e1) | rfl, rfl⟩
  have y0 : ((y : Int) == 0) = false := by simp; omega
  obtain ⟨a, m, hxa, ha⟩ := two_odd x (by omega) HX.out
  obtain ⟨b, n, hyb, hb⟩ := two_odd y (by omega) HY.out
  obtain ⟨k, hk⟩ := or_low a b m n
  have hm : min a b < 64 := by omega
  obtain ⟨s, es⟩ : ∃ s, min a b = s := ⟨_, rfl⟩
  rw [es] at hk hm
  have e1 := or_u64 HX.out HY.out
  obtain ⟨o, eo⟩ : ∃ o, x ||| y = o := ⟨_, rfl⟩
  rw [eo] at e1
  have HT1 := Lib.hid (tz64_any o s k w HGl.out (by rw [← eo, ← hk, ← hxa, ← hyb]) hm (by rw [← eo]; exact or_lt_W HX.out HY.out))
  have HT2 := Lib.hid (tz64_any x a m w HGl.out hxa ha HX.out)
  have q1 := shr_eq x a
  have ex1 : x / 2 ^ a = 2 * m + 1 := by rw [hxa, Nat.mul_div_cancel_left _ (Nat.pow_pos (by omega))]
  rw [ex1] at q1
  obtain ⟨x1, ex2⟩ : ∃ x1, 2 * m + 1 = x1 := ⟨_, rfl⟩
  rw [ex2] at q1
  have Hodd : Hid (x1 % 2 = 1) := by unfold Hid; omega
  have HGG : Hid (2 ^ s * Nat.gcd x1 y = g) := by
    unfold Hid
    rw [← HG.out, hyb, gcd_odd_left x1 b (2 * n + 1) (by omega), hxa, gcd_two_pow a b _ _ (by omega) (by omega), es, ex2]
  have hx1W : Hid (x1 < W64) := by
    have h2 : x1 ≤ x := by rw [← ex2, ← ex1]; exact Nat.div_le_self _ _
    have := HX.out
    unfold Hid; omega
  have ha' : a ≤ 63 := by omega
  have hs' : s ≤ 63 := by omega
  clear hxa hyb hk es eo ex1 ex2 ha hb hm h0 h1
  go_enter Tryz.func171, Tryz.ntmps171
  go_wp2_with fail
  (with_reducible refine HT1.out.mono ?_)
  rintro e w' ⟨rfl, rfl⟩
  go_wp2_with fail
  (with_reducible refine HT2.out.mono ?_)
  rintro e w' ⟨rfl, rfl⟩
  clear HT1 HT2
  go_wp2
  clear q1 e1
  go_loop [0, 1] (fun xv yv => ∃ p q : Nat, xv = .int .u64 (p : Int) ∧ yv = .int .u64 (q : Int) ∧ Hid (p < W64) ∧ Hid (q < W64) ∧ Hid (p % 2 = 1) ∧ Hid (2 ^ s * Nat.gcd p q = g)) (fun xv yv => (intOf xv).toNat + (intOf yv).toNat)
  case atStart => exact ⟨x1, y, rfl, rfl, hx1W, HY, Hodd, HGG⟩
  case round =>
    obtain ⟨p, q, rfl, rfl, hpW, hqW, hpo, hgg⟩ := hrel
    by_cases hq0 : q = 0
    · subst hq0
      have HP : Hid (p * 2 ^ s % W64 = g) := by
        have h1 := hgg.out
        rw [Nat.gcd_zero_right, Nat.mul_comm] at h1
        have h2 : g ≤ x := by rw [← HG.out]; exact Nat.gcd_le_left y (by have := x0; simp at this; omega)
        rw [h1]
        exact Nat.mod_eq_of_lt (Nat.lt_of_le_of_lt h2 HX.out)
      have q2 := shl_wrap p s
      rw [HP.out] at q2
      go_wp2
      go_ret
      exact ⟨rfl, rfl⟩
    · have q0 : ((q : Int) != 0) = true := by simp; omega
      obtain ⟨t, n, hqt, ht⟩ := two_odd q (by omega) hqW.out
      have HT := Lib.hid (tz64_any q t n w HGl.out hqt ht hqW.out)
      have q1 := shr_eq q t
      have eq1 : q / 2 ^ t = 2 * n + 1 := by rw [hqt, Nat.mul_div_cancel_left _ (Nat.pow_pos (by omega))]
      rw [eq1] at q1
      obtain ⟨r, er⟩ : ∃ r, 2 * n + 1 = r := ⟨_, rfl⟩
      rw [er] at q1
      have hr1 : r % 2 = 1 := by omega
      have hrq : r ≤ q := by rw [← er, ← eq1]; exact Nat.div_le_self _ _
      have hgr : Nat.gcd p q = Nat.gcd p r := by rw [hqt, gcd_odd_left p t _ hpo.out, er]
      have hp0 : 0 < p := by have := hpo.out; omega
      have ht' : t ≤ 63 := by omega
      by_cases hsw : r < p
      · have t1 := lt_true hsw
        have g1 : IntKind.u64.wrap ((p : Int) - (r : Int)) = ((p - r : Nat) : Int) := by
          rw [show (p : Int) - (r : Int) = ((p - r : Nat) : Int) by omega]
          exact wrapW _ (by have := hpW.out; omega)
        obtain ⟨d, ed⟩ : ∃ d, p - r = d := ⟨_, rfl⟩
        rw [ed] at g1
        have HG2 : Hid (2 ^ s * Nat.gcd r d = g) := by
          unfold Hid
          rw [← hgg.out, hgr, ← ed, Nat.gcd_sub_self_right (by omega), Nat.gcd_comm]
        have hrW : Hid (r < W64) := by have := hqW.out; unfold Hid; omega
        have hdW : Hid (d < W64) := by have := hpW.out; unfold Hid; omega
        have Hr1 := Lib.hid hr1
        have hdec : r + d < p + q := by omega
        clear hqt eq1 er hr1 hgr ed hsw hq0 ht
        go_wp2_with (go_at_call 193; refine HT.out.mono ?_; rintro e w' ⟨rfl, rfl⟩)
        go_round
        case rel => exact ⟨r, d, rfl, rfl, hrW, hdW, Hr1, HG2⟩
        case measure => simp [intOf]; omega
      · have t1 := lt_false hsw
        have g1 : IntKind.u64.wrap ((r : Int) - (p : Int)) = ((r - p : Nat) : Int) := by
          rw [show (r : Int) - (p : Int) = ((r - p : Nat) : Int) by omega]
          exact wrapW _ (by have := hqW.out; omega)
        obtain ⟨d, ed⟩ : ∃ d, r - p = d := ⟨_, rfl⟩
        rw [ed] at g1
        have HG2 : Hid (2 ^ s * Nat.gcd p d = g) := by
          unfold Hid
          rw [← hgg.out, hgr, ← ed, Nat.gcd_sub_self_right (by omega)]
        have hdW : Hid (d < W64) := by have := hqW.out; unfold Hid; omega
        have hdec : p + d < p + q := by omega
        clear hqt eq1 er hr1 hgr ed hsw hq0 ht
        go_wp2_with (go_at_call 193; refine HT.out.mono ?_; rintro e w' ⟨rfl, rfl⟩)
        go_round
        case rel => exact ⟨p, d, rfl, rfl, hpW, hdW, hpo, HG2⟩
        case measure => simp [intOf]; omega
end Go.Proofs.YtndafmjcelgnbaaGreatDoor
