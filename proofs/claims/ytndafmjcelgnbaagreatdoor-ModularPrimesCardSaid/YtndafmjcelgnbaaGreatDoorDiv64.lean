/-
  math/bits.Div64: two words divided by one.
-/
import Derived.Test.YtndafmjcelgnbaaGreatDoorBits
import Derived.Test.YtndafmjcelgnbaaGreatDoorShelf
import Derived.Test.YtndafmjcelgnbaaGreatDoorDivMath
import Derived.Test.YtndafmjcelgnbaaGreatDoorMulWords
import Derived.Lib.ItoaNum
import Derived.Deep.QuietTactic
import Derived.BigQuiet
namespace Go.Proofs.YtndafmjcelgnbaaGreatDoor
open Go.RowKit

theorem lead_any (x : Nat) (w : World) (hx : x < W64) : Calls Tryz.prog 173 #[.int .u64 (x : Int)] w fun e w' => e = .returned (.int .i64 (64 - (Lib.bitLen x : Int))) ∧ w = w' := by
  rw [W64_eq] at hx
  refine (Tryz.bits_LeadingZeros64 x w (by omega) (by omega)).mono ?_
  rintro e w' ⟨rfl, rfl⟩
  exact ⟨by simp, rfl⟩

/-- 2^32, behind a name. -/
noncomputable def H32 : Nat := Classical.choose (p := fun n : Nat => n = 4294967296) ⟨_, rfl⟩
theorem H32_eq : H32 = 4294967296 := Classical.choose_spec (p := fun n : Nat => n = 4294967296) ⟨_, rfl⟩

/-- what Div64 computes before its loops -/
structure Prep (hi lo y s Y v1 v0 Hs Ls U T u1 u0 : Nat) : Prop where
  hY : IntKind.u64.wrap ((y : Int) * 2 ^ s) = (Y : Int)
  hv1 : (Y : Int) / 4294967296 = (v1 : Int)
  hv0 : bits .and .u64 (Y : Int) 4294967295 = (v0 : Int)
  hH : IntKind.u64.wrap ((hi : Int) * 2 ^ s) = (Hs : Int)
  hL : (lo : Int) / 2 ^ (64 - s) = (Ls : Int)
  hU : bits .or .u64 (Hs : Int) (Ls : Int) = (U : Int)
  hT : IntKind.u64.wrap ((lo : Int) * 2 ^ s) = (T : Int)
  hu1 : (T : Int) / 4294967296 = (u1 : Int)
  hu0 : bits .and .u64 (T : Int) 4294967295 = (u0 : Int)

theorem wrapU (a : Int) : ∃ n : Nat, IntKind.u64.wrap a = (n : Int) ∧ (n : Int) = a % 18446744073709551616 := by
  refine ⟨(a % 18446744073709551616).toNat, ?_, ?_⟩
  · rw [IntKind.wrap_u64]; omega
  · omega
/-- 'U*2^32 + u - q*Y', each step modulo 2^64 -/
theorem un21 {U u Y q R : Nat} (hY' : Y ≤ W64) (hq : q * Y + R = U * 4294967296 + u) (hR : R < Y) :
    ∃ a1 a2 a3 : Nat, IntKind.u64.wrap ((U : Int) * 4294967296) = (a1 : Int) ∧ IntKind.u64.wrap ((a1 : Int) + (u : Int)) = (a2 : Int) ∧ IntKind.u64.wrap ((q : Int) * (Y : Int)) = (a3 : Int) ∧ IntKind.u64.wrap ((a2 : Int) - (a3 : Int)) = (R : Int) := by
  have hY := hY'
  rw [W64_eq] at hY
  obtain ⟨a1, h1, k1⟩ := wrapU ((U : Int) * 4294967296)
  obtain ⟨a2, h2, k2⟩ := wrapU ((a1 : Int) + (u : Int))
  obtain ⟨a3, h3, k3⟩ := wrapU ((q : Int) * (Y : Int))
  obtain ⟨a4, h4, k4⟩ := wrapU ((a2 : Int) - (a3 : Int))
  refine ⟨a1, a2, a3, h1, h2, h3, ?_⟩
  rw [h4]
  have hq' : ((q * Y + R : Nat) : Int) = ((U * 4294967296 + u : Nat) : Int) := by rw [hq]
  rw [Int.natCast_add, Int.natCast_mul, Int.natCast_add, Int.natCast_mul] at hq'
  omega
/-- the first estimate: quotient and rest by the leading digit -/
theorem first_est {U v1 : Nat} (hv1 : 0 < v1) (hU' : U < W64) :
    ∃ qi mi ri : Nat, (U : Int) / (v1 : Int) = (qi : Int) ∧ IntKind.u64.wrap (qi : Int) = (qi : Int) ∧ IntKind.u64.wrap ((qi : Int) * (v1 : Int)) = (mi : Int) ∧ IntKind.u64.wrap ((U : Int) - (mi : Int)) = (ri : Int) ∧ qi * v1 + ri = U ∧ ri < v1 := by
  have hU := hU'
  rw [W64_eq] at hU
  have hd := Nat.div_add_mod U v1
  have hm := Nat.mod_lt U hv1
  have hle : U / v1 * v1 ≤ U := Nat.div_mul_le_self U v1
  rw [Nat.mul_comm] at hd
  refine ⟨U / v1, U / v1 * v1, U % v1, (Int.natCast_ediv _ _).symm, wrapW _ (by rw [W64_eq]; have := Nat.div_le_self U v1; omega), ?_, ?_, hd, hm⟩
  · rw [← Int.natCast_mul]; exact wrapW _ (by rw [W64_eq]; omega)
  · rw [show (U : Int) - ((U / v1 * v1 : Nat) : Int) = ((U % v1 : Nat) : Int) by omega]
    exact wrapW _ (by rw [W64_eq]; omega)
theorem est_start {U v1 v0 u qi ri : Nat} (hv1 : 0 < v1) (hu : u < H32) (h : qi * v1 + ri = U) (hr : ri < v1) : EstRel H32 U v1 v0 u qi ri := by
  refine ⟨h, ?_⟩
  have hp : 0 < v1 * H32 := Nat.mul_pos hv1 (by rw [H32_eq]; omega)
  rw [← Nat.lt_succ_iff, Nat.div_lt_iff_lt_mul (by omega)]
  have h1 : U < (qi + 1) * v1 := by rw [Nat.add_mul]; omega
  have h2 : (U + 1) * H32 ≤ (qi + 1) * v1 * H32 := Nat.mul_le_mul_right _ h1
  rw [Nat.succ_eq_add_one, Nat.mul_add, ← Nat.mul_assoc]
  rw [Nat.add_mul U] at h2
  omega
theorem est_bound {U v1 v0 u q r : Nat} (hv1 : 2147483648 ≤ v1) (hU' : U < W64) (h : EstRel H32 U v1 v0 u q r) : q ≤ 8589934592 := by
  have hU := hU'
  rw [W64_eq] at hU
  have h1 := h.1
  have h2 : q * 2147483648 ≤ q * v1 := Nat.mul_le_mul_left q hv1
  omega
theorem est_rest {H U Y u q : Nat} (h : q = (U * H + u) / Y) : q * Y + (U * H + u) % Y = U * H + u := by
  subst h
  rw [Nat.mul_comm]
  exact Nat.div_add_mod _ _
theorem small_mul {q v : Nat} (hq : q < 4294967296) (hv : v < 4294967296) : ∃ m : Nat, IntKind.u64.wrap ((q : Int) * (v : Int)) = (m : Int) ∧ m = q * v := by
  refine ⟨q * v, ?_, rfl⟩
  have : q * v ≤ 4294967296 * 4294967295 := Nat.mul_le_mul (by omega) (by omega)
  rw [← Int.natCast_mul]
  exact wrapW _ (by rw [W64_eq]; omega)

theorem digit_lt {U u Y q : Nat} (hY : 0 < Y) (hU : U < Y) (hu : u < H32) (hq : q = (U * H32 + u) / Y) : q < H32 := by
  subst hq
  rw [Nat.div_lt_iff_lt_mul hY]
  have : (U + 1) * H32 ≤ Y * H32 := Nat.mul_le_mul_right _ hU
  rw [Nat.add_mul] at this
  rw [Nat.mul_comm H32]
  omega
theorem dec_u64 {q : Nat} (h0 : 0 < q) (h : q < W64) : IntKind.u64.wrap ((q : Int) - 1) = ((q - 1 : Nat) : Int) := by
  rw [show (q : Int) - 1 = ((q - 1 : Nat) : Int) by omega]
  exact wrapW _ (by omega)
theorem add_u64 {a b : Nat} (h : a + b < W64) : IntKind.u64.wrap ((a : Int) + (b : Int)) = ((a + b : Nat) : Int) := by
  rw [← Int.natCast_add]
  exact wrapW _ h
theorem mul_u64 {a b : Nat} (h : a * b < W64) : IntKind.u64.wrap ((a : Int) * (b : Int)) = ((a * b : Nat) : Int) := by
  rw [← Int.natCast_mul]
  exact wrapW _ h
theorem H32_sq : H32 * H32 = W64 := by rw [H32_eq, W64_eq]
/-- q1 * 2^32 + q0, as the machine computes it -/
theorem quo_u64 {q1 q0 : Nat} (h1 : q1 < H32) (h0 : q0 < H32) : ∃ z1 z2 : Nat, IntKind.u64.wrap ((q1 : Int) * 4294967296) = (z1 : Int) ∧ IntKind.u64.wrap ((z1 : Int) + (q0 : Int)) = (z2 : Int) ∧ z2 = q1 * H32 + q0 := by
  have h : q1 * H32 + q0 < W64 := by
    rw [← H32_sq]
    have : (q1 + 1) * H32 ≤ H32 * H32 := Nat.mul_le_mul_right _ h1
    rw [Nat.add_mul] at this
    omega
  refine ⟨q1 * H32, q1 * H32 + q0, ?_, add_u64 h, rfl⟩
  rw [show (4294967296 : Int) = ((H32 : Nat) : Int) by rw [H32_eq]; rfl]
  exact mul_u64 (by omega)
/-- 2^32 * r + u, as the machine computes it -/
theorem mad_u64 {r u : Nat} (hr : r < H32) (hu : u < H32) : ∃ m2 m3 : Nat, IntKind.u64.wrap (4294967296 * (r : Int)) = (m2 : Int) ∧ IntKind.u64.wrap ((m2 : Int) + (u : Int)) = (m3 : Int) ∧ m3 = H32 * r + u := by
  have h1 : H32 * r + u < W64 := by
    rw [← H32_sq]
    have : H32 * (r + 1) ≤ H32 * H32 := Nat.mul_le_mul_left _ hr
    rw [Nat.mul_add] at this
    omega
  refine ⟨H32 * r, H32 * r + u, ?_, add_u64 h1, rfl⟩
  rw [show (4294967296 : Int) = ((H32 : Nat) : Int) by rw [H32_eq]; rfl]
  exact mul_u64 (by omega)
theorem ten_true {q : Nat} (h : H32 ≤ q) : decide ((4294967296 : Int) ≤ (q : Int)) = true := by rw [H32_eq] at h; rw [decide_eq_true_eq]; omega
theorem ten_false {q : Nat} (h : ¬ H32 ≤ q) : decide ((4294967296 : Int) ≤ (q : Int)) = false := by rw [H32_eq] at h; rw [decide_eq_false_iff_not]; omega
theorem lt_true {a b : Nat} (h : a < b) : decide (a < b) = true := by rw [decide_eq_true_eq]; omega
theorem lt_false {a b : Nat} (h : ¬ a < b) : decide (a < b) = false := by rw [decide_eq_false_iff_not]; omega
theorem mul_lt_H {q v : Nat} (hq : ¬ H32 ≤ q) (hv : v < H32) : q * v < W64 := by
  rw [← H32_sq]
  have h1 : q * v ≤ q * H32 := Nat.mul_le_mul_left _ (by omega)
  have h2 : (q + 1) * H32 ≤ H32 * H32 := Nat.mul_le_mul_right _ (by omega)
  rw [Nat.add_mul] at h2
  have := H32_eq
  omega

set_option maxHeartbeats 4000000 in
set_option maxRecDepth 1000000 in
theorem div64_loop (hi lo y s Y v1 v0 Hs Ls U T u1 u0 qf rf : Nat) (w : World) (hqf : (U * H32 + u1) / Y * H32 + ((U * H32 + u1) % Y * H32 + u0) / Y = qf) (hrf : ((U * H32 + u1) % Y * H32 + u0) % Y / 2 ^ s = rf) (h0 : 0 < hi) (h1 : hi < y) (hy : y < W64) (hs : 64 - (Lib.bitLen y : Int) = s) (hs2 : s ≤ 63) (P : Prep hi lo y s Y v1 v0 Hs Ls U T u1 u0)
    (hU : U < v1 * H32 + v0) (hYv : v1 * H32 + v0 = Y) (b1 : 2147483648 ≤ v1) (b2 : v1 < H32) (b3 : v0 < H32) (b4 : u1 < H32) (b5 : u0 < H32) :
    Calls Tryz.prog 146 #[.int .u64 (hi : Int), .int .u64 (lo : Int), .int .u64 (y : Int)] w fun e w' => e = .returned (.tuple #[.int .u64 (qf : Int), .int .u64 (rf : Int)]) ∧ w = w' := by
  have HQF := Lib.hid hqf
  have HRF := Lib.hid hrf
  clear hqf hrf
  have he := H32_eq
  have HS := Lib.hid hs
  have HY := Lib.hid hy
  have e1 : ((hi : Int) == 0) = false := by simp; omega
  have e2 : ((y : Int) == 0) = false := by simp; omega
  have hUY := Lib.hid hU
  have hYV := Lib.hid hYv
  have hUb : U < 18446744073709551616 := by rw [he] at hU b2 b3; omega
  have HUb : Hid (U < W64) := by unfold Hid; rw [W64_eq]; exact hUb
  have hY64 : Hid (Y ≤ W64) := by unfold Hid; rw [W64_eq]; rw [he] at hYv b2 b3; omega
  obtain ⟨p1, p2, p3, p4, p5, p6, p7, p8, p9⟩ := P
  have hv1 : ((v1 : Int) == 0) = false := by simp; omega
  obtain ⟨qi, mi, ri, f1, f2, f3, f4, f5, f6⟩ := first_est (U := U) (v1 := v1) (by omega) HUb.out
  have HE := Lib.hid (est_start (v0 := v0) (u := u1) (by omega) b4 f5 f6)
  clear hs hy hU hYv f5
  have B1 := Lib.hid b1
  have B2 := Lib.hid b2
  have B3 := Lib.hid b3
  have B4 := Lib.hid b4
  have B5 := Lib.hid b5
  clear b1 b2 b3 b4 b5 he hUb
  go_enter Tryz.func146, Tryz.ntmps146
  go_wp2_with (go_at_call 173; refine (lead_any _ _ HY.out).mono ?_; rintro e w' ⟨rfl, rfl⟩; rw [HS.out])
  clear p1 p2 p3 p4 p5 p6 p7 p8 p9 e1 e2
  go_loop [15, 16] (fun qv rv => ∃ q r : Nat, qv = .int .u64 q ∧ rv = .int .u64 r ∧ Hid (r < H32) ∧ Hid (EstRel H32 U v1 v0 u1 q r)) (fun qv _ => (intOf qv).toNat)
  case atStart => exact ⟨_, _, rfl, rfl, by have := B2.out; unfold Hid; omega, HE⟩
  case round =>
    obtain ⟨q, r, rfl, rfl, hr, hE⟩ := hrel
    clear f1 f2 f3 f4 f6 HE
    have hqW : Hid (q < W64) := by
      have h1 := est_bound B1.out HUb.out hE.out
      unfold Hid; rw [W64_eq]; omega
    have hrW : Hid (r + v1 < W64) := by
      have h1 := hr.out
      have h2 := B2.out
      unfold Hid; rw [W64_eq]; rw [H32_eq] at h1 h2; omega
    have g2 := add_u64 hrW.out
    obtain ⟨r1, er1⟩ : ∃ r1, r + v1 = r1 := ⟨_, rfl⟩
    rw [er1] at g2
    have ER1 := Lib.hid er1
    clear er1
    by_cases hbig : H32 ≤ q
    · have hE2 := Lib.hid (est_big hUY.out B4.out hbig hE.out)
      have t1 := ten_true hbig
      have g1 := dec_u64 (q := q) (by have := H32_eq; omega) hqW.out
      obtain ⟨q1, eq1⟩ : ∃ q1, q - 1 = q1 := ⟨_, rfl⟩
      rw [eq1] at g1 hE2
      rw [ER1.out] at hE2
      have hq1 : q1 < q := by have := H32_eq; omega
      by_cases hbr : H32 ≤ r1
      · have HQ := Lib.hid (est_break hUY.out B3.out hbr hE2.out)
        have t2 := ten_true hbr
        clear hbr hbig eq1 hq1 hE2 hE
        rw [hYV.out] at HQ
        have hYpos : Hid (0 < Y) := by have := hYV.out; have := hUY.out; unfold Hid; omega
        obtain ⟨R1, eR1⟩ : ∃ R1, (U * H32 + u1) % Y = R1 := ⟨_, rfl⟩
        have hR1 : Hid (R1 < Y) := by rw [← eR1]; exact Nat.mod_lt _ hYpos.out
        obtain ⟨a1, a2, a3, x1, x2, x3, x4⟩ := un21 hY64.out (by rw [← H32_eq]; exact est_rest HQ.out) (Nat.mod_lt _ hYpos.out)
        rw [eR1] at x4
        have hQ1 : Hid (q1 < H32) := digit_lt hYpos.out (by have := hUY.out; rw [hYV.out] at this; exact this) B4.out HQ.out
        have HQ1 := HQ
        clear HQ
        have ERR := Lib.hid eR1
        clear eR1
        have hR1W : Hid (R1 < W64) := Nat.lt_of_lt_of_le hR1.out hY64.out
        have hR1Y : Hid (R1 < v1 * H32 + v0) := by rw [hYV.out]; exact hR1.out
        obtain ⟨qi, mi, ri, k1, k2, k3, k4, k5, k6⟩ := first_est (U := R1) (v1 := v1) (by have := B1.out; omega) hR1W.out
        have HE0 := Lib.hid (est_start (v0 := v0) (u := u0) (by have := B1.out; omega) B5.out k5 k6)
        clear k5
        go_wp2
        go_loop [16, 18] (fun rv qv => ∃ q r : Nat, qv = .int .u64 q ∧ rv = .int .u64 r ∧ Hid (r < H32) ∧ Hid (EstRel H32 R1 v1 v0 u0 q r)) (fun _ qv => (intOf qv).toNat)
        case atStart => exact ⟨_, _, rfl, rfl, by have := B2.out; unfold Hid; omega, HE0⟩
        case round =>
          obtain ⟨q, r, rfl, rfl, hr, hE⟩ := hrel
          clear k1 k2 k3 k4 k6 HE0 x1 x2 x3 x4
          have hqW : Hid (q < W64) := by
            have h1 := est_bound B1.out hR1W.out hE.out
            unfold Hid; rw [W64_eq]; omega
          have hrW : Hid (r + v1 < W64) := by
            have h1 := hr.out
            have h2 := B2.out
            unfold Hid; rw [W64_eq]; rw [H32_eq] at h1 h2; omega
          have g2 := add_u64 hrW.out
          obtain ⟨r1, er1⟩ : ∃ r1, r + v1 = r1 := ⟨_, rfl⟩
          rw [er1] at g2
          have ER1 := Lib.hid er1
          clear er1
          by_cases hbig : H32 ≤ q
          · have hE2 := Lib.hid (est_big hR1Y.out B5.out hbig hE.out)
            have t1 := ten_true hbig
            have g1 := dec_u64 (q := q) (by have := H32_eq; omega) hqW.out
            obtain ⟨q1, eq1⟩ : ∃ q1, q - 1 = q1 := ⟨_, rfl⟩
            rw [eq1] at g1 hE2
            rw [ER1.out] at hE2
            have hq1 : q1 < q := by have := H32_eq; omega
            by_cases hbr : H32 ≤ r1
            · have HQ := Lib.hid (est_break hR1Y.out B3.out hbr hE2.out)
              have t2 := ten_true hbr
              clear hbr hbig eq1 hq1 hE2 hE
              rw [hYV.out] at HQ
              obtain ⟨a1', a2', a3', y1, y2, y3, y4⟩ := un21 hY64.out (by rw [← H32_eq]; exact est_rest HQ.out) (Nat.mod_lt _ hYpos.out)
              obtain ⟨R0, eR0⟩ : ∃ R0, (R1 * H32 + u0) % Y = R0 := ⟨_, rfl⟩
              rw [eR0] at y4
              obtain ⟨z1, z2, z4, z5, ez⟩ := quo_u64 hQ1.out (digit_lt hYpos.out hR1.out B5.out HQ.out)
              have y5 : (R0 : Int) / 2 ^ s = ((R0 / 2 ^ s : Nat) : Int) := by rw [Int.natCast_ediv, Int.natCast_pow]; rfl
              obtain ⟨rem, erem⟩ : ∃ rem, R0 / 2 ^ s = rem := ⟨_, rfl⟩
              rw [erem] at y5
              have EZ := Lib.hid ez
              have ER := Lib.hid erem
              have ER0 := Lib.hid eR0
              clear eR0 ez erem
              go_wp2
              go_ret2
              have fq : z2 = qf := by rw [EZ.out, ← HQF.out, HQ.out, HQ1.out, ERR.out]
              have fr : rem = rf := by rw [← ER.out, ← ER0.out, ← HRF.out, ERR.out]
              exact ⟨by rw [← fq, ← fr]; rfl, rfl⟩
            · have t2 := ten_false hbr
              have hR2 : Hid (r1 < H32) := by unfold Hid; omega
              clear hbr hbig eq1
              go_wp2
              go_round
              case rel => exact ⟨q1, r1, rfl, rfl, hR2, hE2⟩
              case measure => simp [intOf]; omega
          · have t1 := ten_false hbig
            have g5 := mul_u64 (mul_lt_H hbig B3.out)
            obtain ⟨m, em⟩ : ∃ m, q * v0 = m := ⟨_, rfl⟩
            rw [em] at g5
            obtain ⟨m2, m3, g6, g7, em3⟩ := mad_u64 hr.out B5.out
            by_cases hov : m3 < m
            · have t3 := lt_true hov
              have hE2 := Lib.hid (est_over (by have := hR1Y.out; omega) (by rw [em, ← em3]; exact hov) hE.out)
              have hq0 : 0 < q := by
                rcases Nat.eq_zero_or_pos q with e | e
                · subst e; simp at em; omega
                · exact e
              have g1 := dec_u64 hq0 hqW.out
              obtain ⟨q1, eq1⟩ : ∃ q1, q - 1 = q1 := ⟨_, rfl⟩
              rw [eq1] at g1 hE2
              rw [ER1.out] at hE2
              have hq1 : q1 < q := by omega
              by_cases hbr : H32 ≤ r1
              · have HQ := Lib.hid (est_break hR1Y.out B3.out hbr hE2.out)
                have t2 := ten_true hbr
                clear hbr hbig eq1 hq1 hE2 hE hov em em3 hq0
                rw [hYV.out] at HQ
                obtain ⟨a1', a2', a3', y1, y2, y3, y4⟩ := un21 hY64.out (by rw [← H32_eq]; exact est_rest HQ.out) (Nat.mod_lt _ hYpos.out)
                obtain ⟨R0, eR0⟩ : ∃ R0, (R1 * H32 + u0) % Y = R0 := ⟨_, rfl⟩
                rw [eR0] at y4
                obtain ⟨z1, z2, z4, z5, ez⟩ := quo_u64 hQ1.out (digit_lt hYpos.out hR1.out B5.out HQ.out)
                have y5 : (R0 : Int) / 2 ^ s = ((R0 / 2 ^ s : Nat) : Int) := by rw [Int.natCast_ediv, Int.natCast_pow]; rfl
                obtain ⟨rem, erem⟩ : ∃ rem, R0 / 2 ^ s = rem := ⟨_, rfl⟩
                rw [erem] at y5
                have EZ := Lib.hid ez
                have ER := Lib.hid erem
                have ER0 := Lib.hid eR0
                clear eR0 ez erem
                go_wp2
                go_ret2
                have fq : z2 = qf := by rw [EZ.out, ← HQF.out, HQ.out, HQ1.out, ERR.out]
                have fr : rem = rf := by rw [← ER.out, ← ER0.out, ← HRF.out, ERR.out]
                exact ⟨by rw [← fq, ← fr]; rfl, rfl⟩
              · have t2 := ten_false hbr
                have hR2 : Hid (r1 < H32) := by unfold Hid; omega
                clear hbr hbig eq1 hov em em3 hq0
                go_wp2
                go_round
                case rel => exact ⟨q1, r1, rfl, rfl, hR2, hE2⟩
                case measure => simp [intOf]; omega
            · have t3 := lt_false hov
              have HQ := Lib.hid (est_done (by have := hR1Y.out; omega) (by rw [em, ← em3]; omega) hE.out)
              obtain ⟨q1, rfl⟩ : ∃ q1, q1 = q := ⟨_, rfl⟩
              clear hov em em3 hbig hE
              rw [hYV.out] at HQ
              obtain ⟨a1', a2', a3', y1, y2, y3, y4⟩ := un21 hY64.out (by rw [← H32_eq]; exact est_rest HQ.out) (Nat.mod_lt _ hYpos.out)
              obtain ⟨R0, eR0⟩ : ∃ R0, (R1 * H32 + u0) % Y = R0 := ⟨_, rfl⟩
              rw [eR0] at y4
              obtain ⟨z1, z2, z4, z5, ez⟩ := quo_u64 hQ1.out (digit_lt hYpos.out hR1.out B5.out HQ.out)
              have y5 : (R0 : Int) / 2 ^ s = ((R0 / 2 ^ s : Nat) : Int) := by rw [Int.natCast_ediv, Int.natCast_pow]; rfl
              obtain ⟨rem, erem⟩ : ∃ rem, R0 / 2 ^ s = rem := ⟨_, rfl⟩
              rw [erem] at y5
              have EZ := Lib.hid ez
              have ER := Lib.hid erem
              have ER0 := Lib.hid eR0
              clear eR0 ez erem
              go_wp2
              go_ret2
              have fq : z2 = qf := by rw [EZ.out, ← HQF.out, HQ.out, HQ1.out, ERR.out]
              have fr : rem = rf := by rw [← ER.out, ← ER0.out, ← HRF.out, ERR.out]
              exact ⟨by rw [← fq, ← fr]; rfl, rfl⟩
      · have t2 := ten_false hbr
        have hR2 : Hid (r1 < H32) := by unfold Hid; omega
        clear hbr hbig eq1
        go_wp2
        go_round
        case rel => exact ⟨q1, r1, rfl, rfl, hR2, hE2⟩
        case measure => simp [intOf]; omega
    · have t1 := ten_false hbig
      have g5 := mul_u64 (mul_lt_H hbig B3.out)
      obtain ⟨m, em⟩ : ∃ m, q * v0 = m := ⟨_, rfl⟩
      rw [em] at g5
      obtain ⟨m2, m3, g6, g7, em3⟩ := mad_u64 hr.out B4.out
      by_cases hov : m3 < m
      · have t3 := lt_true hov
        have hE2 := Lib.hid (est_over (by have := hUY.out; omega) (by rw [em, ← em3]; exact hov) hE.out)
        have hq0 : 0 < q := by
          rcases Nat.eq_zero_or_pos q with e | e
          · subst e; simp at em; omega
          · exact e
        have g1 := dec_u64 hq0 hqW.out
        obtain ⟨q1, eq1⟩ : ∃ q1, q - 1 = q1 := ⟨_, rfl⟩
        rw [eq1] at g1 hE2
        rw [ER1.out] at hE2
        have hq1 : q1 < q := by omega
        by_cases hbr : H32 ≤ r1
        · have HQ := Lib.hid (est_break hUY.out B3.out hbr hE2.out)
          have t2 := ten_true hbr
          clear hbr hbig eq1 hq1 hE2 hE hov em em3 hq0
          rw [hYV.out] at HQ
          have hYpos : Hid (0 < Y) := by have := hYV.out; have := hUY.out; unfold Hid; omega
          obtain ⟨R1, eR1⟩ : ∃ R1, (U * H32 + u1) % Y = R1 := ⟨_, rfl⟩
          have hR1 : Hid (R1 < Y) := by rw [← eR1]; exact Nat.mod_lt _ hYpos.out
          obtain ⟨a1, a2, a3, x1, x2, x3, x4⟩ := un21 hY64.out (by rw [← H32_eq]; exact est_rest HQ.out) (Nat.mod_lt _ hYpos.out)
          rw [eR1] at x4
          have hQ1 : Hid (q1 < H32) := digit_lt hYpos.out (by have := hUY.out; rw [hYV.out] at this; exact this) B4.out HQ.out
          have HQ1 := HQ
          clear HQ
          have ERR := Lib.hid eR1
          clear eR1
          have hR1W : Hid (R1 < W64) := Nat.lt_of_lt_of_le hR1.out hY64.out
          have hR1Y : Hid (R1 < v1 * H32 + v0) := by rw [hYV.out]; exact hR1.out
          obtain ⟨qi, mi, ri, k1, k2, k3, k4, k5, k6⟩ := first_est (U := R1) (v1 := v1) (by have := B1.out; omega) hR1W.out
          have HE0 := Lib.hid (est_start (v0 := v0) (u := u0) (by have := B1.out; omega) B5.out k5 k6)
          clear k5
          go_wp2
          go_loop [16, 18] (fun rv qv => ∃ q r : Nat, qv = .int .u64 q ∧ rv = .int .u64 r ∧ Hid (r < H32) ∧ Hid (EstRel H32 R1 v1 v0 u0 q r)) (fun _ qv => (intOf qv).toNat)
          case atStart => exact ⟨_, _, rfl, rfl, by have := B2.out; unfold Hid; omega, HE0⟩
          case round =>
            obtain ⟨q, r, rfl, rfl, hr, hE⟩ := hrel
            clear k1 k2 k3 k4 k6 HE0 x1 x2 x3 x4
            have hqW : Hid (q < W64) := by
              have h1 := est_bound B1.out hR1W.out hE.out
              unfold Hid; rw [W64_eq]; omega
            have hrW : Hid (r + v1 < W64) := by
              have h1 := hr.out
              have h2 := B2.out
              unfold Hid; rw [W64_eq]; rw [H32_eq] at h1 h2; omega
            have g2 := add_u64 hrW.out
            obtain ⟨r1, er1⟩ : ∃ r1, r + v1 = r1 := ⟨_, rfl⟩
            rw [er1] at g2
            have ER1 := Lib.hid er1
            clear er1
            by_cases hbig : H32 ≤ q
            · have hE2 := Lib.hid (est_big hR1Y.out B5.out hbig hE.out)
              have t1 := ten_true hbig
              have g1 := dec_u64 (q := q) (by have := H32_eq; omega) hqW.out
              obtain ⟨q1, eq1⟩ : ∃ q1, q - 1 = q1 := ⟨_, rfl⟩
              rw [eq1] at g1 hE2
              rw [ER1.out] at hE2
              have hq1 : q1 < q := by have := H32_eq; omega
              by_cases hbr : H32 ≤ r1
              · have HQ := Lib.hid (est_break hR1Y.out B3.out hbr hE2.out)
                have t2 := ten_true hbr
                clear hbr hbig eq1 hq1 hE2 hE
                rw [hYV.out] at HQ
                obtain ⟨a1', a2', a3', y1, y2, y3, y4⟩ := un21 hY64.out (by rw [← H32_eq]; exact est_rest HQ.out) (Nat.mod_lt _ hYpos.out)
                obtain ⟨R0, eR0⟩ : ∃ R0, (R1 * H32 + u0) % Y = R0 := ⟨_, rfl⟩
                rw [eR0] at y4
                obtain ⟨z1, z2, z4, z5, ez⟩ := quo_u64 hQ1.out (digit_lt hYpos.out hR1.out B5.out HQ.out)
                have y5 : (R0 : Int) / 2 ^ s = ((R0 / 2 ^ s : Nat) : Int) := by rw [Int.natCast_ediv, Int.natCast_pow]; rfl
                obtain ⟨rem, erem⟩ : ∃ rem, R0 / 2 ^ s = rem := ⟨_, rfl⟩
                rw [erem] at y5
                have EZ := Lib.hid ez
                have ER := Lib.hid erem
                have ER0 := Lib.hid eR0
                clear eR0 ez erem
                go_wp2
                go_ret2
                have fq : z2 = qf := by rw [EZ.out, ← HQF.out, HQ.out, HQ1.out, ERR.out]
                have fr : rem = rf := by rw [← ER.out, ← ER0.out, ← HRF.out, ERR.out]
                exact ⟨by rw [← fq, ← fr]; rfl, rfl⟩
              · have t2 := ten_false hbr
                have hR2 : Hid (r1 < H32) := by unfold Hid; omega
                clear hbr hbig eq1
                go_wp2
                go_round
                case rel => exact ⟨q1, r1, rfl, rfl, hR2, hE2⟩
                case measure => simp [intOf]; omega
            · have t1 := ten_false hbig
              have g5 := mul_u64 (mul_lt_H hbig B3.out)
              obtain ⟨m, em⟩ : ∃ m, q * v0 = m := ⟨_, rfl⟩
              rw [em] at g5
              obtain ⟨m2, m3, g6, g7, em3⟩ := mad_u64 hr.out B5.out
              by_cases hov : m3 < m
              · have t3 := lt_true hov
                have hE2 := Lib.hid (est_over (by have := hR1Y.out; omega) (by rw [em, ← em3]; exact hov) hE.out)
                have hq0 : 0 < q := by
                  rcases Nat.eq_zero_or_pos q with e | e
                  · subst e; simp at em; omega
                  · exact e
                have g1 := dec_u64 hq0 hqW.out
                obtain ⟨q1, eq1⟩ : ∃ q1, q - 1 = q1 := ⟨_, rfl⟩
                rw [eq1] at g1 hE2
                rw [ER1.out] at hE2
                have hq1 : q1 < q := by omega
                by_cases hbr : H32 ≤ r1
                · have HQ := Lib.hid (est_break hR1Y.out B3.out hbr hE2.out)
                  have t2 := ten_true hbr
                  clear hbr hbig eq1 hq1 hE2 hE hov em em3 hq0
                  rw [hYV.out] at HQ
                  obtain ⟨a1', a2', a3', y1, y2, y3, y4⟩ := un21 hY64.out (by rw [← H32_eq]; exact est_rest HQ.out) (Nat.mod_lt _ hYpos.out)
                  obtain ⟨R0, eR0⟩ : ∃ R0, (R1 * H32 + u0) % Y = R0 := ⟨_, rfl⟩
                  rw [eR0] at y4
                  obtain ⟨z1, z2, z4, z5, ez⟩ := quo_u64 hQ1.out (digit_lt hYpos.out hR1.out B5.out HQ.out)
                  have y5 : (R0 : Int) / 2 ^ s = ((R0 / 2 ^ s : Nat) : Int) := by rw [Int.natCast_ediv, Int.natCast_pow]; rfl
                  obtain ⟨rem, erem⟩ : ∃ rem, R0 / 2 ^ s = rem := ⟨_, rfl⟩
                  rw [erem] at y5
                  have EZ := Lib.hid ez
                  have ER := Lib.hid erem
                  have ER0 := Lib.hid eR0
                  clear eR0 ez erem
                  go_wp2
                  go_ret2
                  have fq : z2 = qf := by rw [EZ.out, ← HQF.out, HQ.out, HQ1.out, ERR.out]
                  have fr : rem = rf := by rw [← ER.out, ← ER0.out, ← HRF.out, ERR.out]
                  exact ⟨by rw [← fq, ← fr]; rfl, rfl⟩
                · have t2 := ten_false hbr
                  have hR2 : Hid (r1 < H32) := by unfold Hid; omega
                  clear hbr hbig eq1 hov em em3 hq0
                  go_wp2
                  go_round
                  case rel => exact ⟨q1, r1, rfl, rfl, hR2, hE2⟩
                  case measure => simp [intOf]; omega
              · have t3 := lt_false hov
                have HQ := Lib.hid (est_done (by have := hR1Y.out; omega) (by rw [em, ← em3]; omega) hE.out)
                obtain ⟨q1, rfl⟩ : ∃ q1, q1 = q := ⟨_, rfl⟩
                clear hov em em3 hbig hE
                rw [hYV.out] at HQ
                obtain ⟨a1', a2', a3', y1, y2, y3, y4⟩ := un21 hY64.out (by rw [← H32_eq]; exact est_rest HQ.out) (Nat.mod_lt _ hYpos.out)
                obtain ⟨R0, eR0⟩ : ∃ R0, (R1 * H32 + u0) % Y = R0 := ⟨_, rfl⟩
                rw [eR0] at y4
                obtain ⟨z1, z2, z4, z5, ez⟩ := quo_u64 hQ1.out (digit_lt hYpos.out hR1.out B5.out HQ.out)
                have y5 : (R0 : Int) / 2 ^ s = ((R0 / 2 ^ s : Nat) : Int) := by rw [Int.natCast_ediv, Int.natCast_pow]; rfl
                obtain ⟨rem, erem⟩ : ∃ rem, R0 / 2 ^ s = rem := ⟨_, rfl⟩
                rw [erem] at y5
                have EZ := Lib.hid ez
                have ER := Lib.hid erem
                have ER0 := Lib.hid eR0
                clear eR0 ez erem
                go_wp2
                go_ret2
                have fq : z2 = qf := by rw [EZ.out, ← HQF.out, HQ.out, HQ1.out, ERR.out]
                have fr : rem = rf := by rw [← ER.out, ← ER0.out, ← HRF.out, ERR.out]
                exact ⟨by rw [← fq, ← fr]; rfl, rfl⟩
        · have t2 := ten_false hbr
          have hR2 : Hid (r1 < H32) := by unfold Hid; omega
          clear hbr hbig eq1 hov em em3 hq0
          go_wp2
          go_round
          case rel => exact ⟨q1, r1, rfl, rfl, hR2, hE2⟩
          case measure => simp [intOf]; omega
      · have t3 := lt_false hov
        have HQ := Lib.hid (est_done (by have := hUY.out; omega) (by rw [em, ← em3]; omega) hE.out)
        obtain ⟨q1, rfl⟩ : ∃ q1, q1 = q := ⟨_, rfl⟩
        clear hov em em3 hbig hE
        rw [hYV.out] at HQ
        have hYpos : Hid (0 < Y) := by have := hYV.out; have := hUY.out; unfold Hid; omega
        obtain ⟨R1, eR1⟩ : ∃ R1, (U * H32 + u1) % Y = R1 := ⟨_, rfl⟩
        have hR1 : Hid (R1 < Y) := by rw [← eR1]; exact Nat.mod_lt _ hYpos.out
        obtain ⟨a1, a2, a3, x1, x2, x3, x4⟩ := un21 hY64.out (by rw [← H32_eq]; exact est_rest HQ.out) (Nat.mod_lt _ hYpos.out)
        rw [eR1] at x4
        have hQ1 : Hid (q1 < H32) := digit_lt hYpos.out (by have := hUY.out; rw [hYV.out] at this; exact this) B4.out HQ.out
        have HQ1 := HQ
        clear HQ
        have ERR := Lib.hid eR1
        clear eR1
        have hR1W : Hid (R1 < W64) := Nat.lt_of_lt_of_le hR1.out hY64.out
        have hR1Y : Hid (R1 < v1 * H32 + v0) := by rw [hYV.out]; exact hR1.out
        obtain ⟨qi, mi, ri, k1, k2, k3, k4, k5, k6⟩ := first_est (U := R1) (v1 := v1) (by have := B1.out; omega) hR1W.out
        have HE0 := Lib.hid (est_start (v0 := v0) (u := u0) (by have := B1.out; omega) B5.out k5 k6)
        clear k5
        go_wp2
        go_loop [16, 18] (fun rv qv => ∃ q r : Nat, qv = .int .u64 q ∧ rv = .int .u64 r ∧ Hid (r < H32) ∧ Hid (EstRel H32 R1 v1 v0 u0 q r)) (fun _ qv => (intOf qv).toNat)
        case atStart => exact ⟨_, _, rfl, rfl, by have := B2.out; unfold Hid; omega, HE0⟩
        case round =>
          obtain ⟨q, r, rfl, rfl, hr, hE⟩ := hrel
          clear k1 k2 k3 k4 k6 HE0 x1 x2 x3 x4
          have hqW : Hid (q < W64) := by
            have h1 := est_bound B1.out hR1W.out hE.out
            unfold Hid; rw [W64_eq]; omega
          have hrW : Hid (r + v1 < W64) := by
            have h1 := hr.out
            have h2 := B2.out
            unfold Hid; rw [W64_eq]; rw [H32_eq] at h1 h2; omega
          have g2 := add_u64 hrW.out
          obtain ⟨r1, er1⟩ : ∃ r1, r + v1 = r1 := ⟨_, rfl⟩
          rw [er1] at g2
          have ER1 := Lib.hid er1
          clear er1
          by_cases hbig : H32 ≤ q
          · have hE2 := Lib.hid (est_big hR1Y.out B5.out hbig hE.out)
            have t1 := ten_true hbig
            have g1 := dec_u64 (q := q) (by have := H32_eq; omega) hqW.out
            obtain ⟨q1, eq1⟩ : ∃ q1, q - 1 = q1 := ⟨_, rfl⟩
            rw [eq1] at g1 hE2
            rw [ER1.out] at hE2
            have hq1 : q1 < q := by have := H32_eq; omega
            by_cases hbr : H32 ≤ r1
            · have HQ := Lib.hid (est_break hR1Y.out B3.out hbr hE2.out)
              have t2 := ten_true hbr
              clear hbr hbig eq1 hq1 hE2 hE
              rw [hYV.out] at HQ
              obtain ⟨a1', a2', a3', y1, y2, y3, y4⟩ := un21 hY64.out (by rw [← H32_eq]; exact est_rest HQ.out) (Nat.mod_lt _ hYpos.out)
              obtain ⟨R0, eR0⟩ : ∃ R0, (R1 * H32 + u0) % Y = R0 := ⟨_, rfl⟩
              rw [eR0] at y4
              obtain ⟨z1, z2, z4, z5, ez⟩ := quo_u64 hQ1.out (digit_lt hYpos.out hR1.out B5.out HQ.out)
              have y5 : (R0 : Int) / 2 ^ s = ((R0 / 2 ^ s : Nat) : Int) := by rw [Int.natCast_ediv, Int.natCast_pow]; rfl
              obtain ⟨rem, erem⟩ : ∃ rem, R0 / 2 ^ s = rem := ⟨_, rfl⟩
              rw [erem] at y5
              have EZ := Lib.hid ez
              have ER := Lib.hid erem
              have ER0 := Lib.hid eR0
              clear eR0 ez erem
              go_wp2
              go_ret2
              have fq : z2 = qf := by rw [EZ.out, ← HQF.out, HQ.out, HQ1.out, ERR.out]
              have fr : rem = rf := by rw [← ER.out, ← ER0.out, ← HRF.out, ERR.out]
              exact ⟨by rw [← fq, ← fr]; rfl, rfl⟩
            · have t2 := ten_false hbr
              have hR2 : Hid (r1 < H32) := by unfold Hid; omega
              clear hbr hbig eq1
              go_wp2
              go_round
              case rel => exact ⟨q1, r1, rfl, rfl, hR2, hE2⟩
              case measure => simp [intOf]; omega
          · have t1 := ten_false hbig
            have g5 := mul_u64 (mul_lt_H hbig B3.out)
            obtain ⟨m, em⟩ : ∃ m, q * v0 = m := ⟨_, rfl⟩
            rw [em] at g5
            obtain ⟨m2, m3, g6, g7, em3⟩ := mad_u64 hr.out B5.out
            by_cases hov : m3 < m
            · have t3 := lt_true hov
              have hE2 := Lib.hid (est_over (by have := hR1Y.out; omega) (by rw [em, ← em3]; exact hov) hE.out)
              have hq0 : 0 < q := by
                rcases Nat.eq_zero_or_pos q with e | e
                · subst e; simp at em; omega
                · exact e
              have g1 := dec_u64 hq0 hqW.out
              obtain ⟨q1, eq1⟩ : ∃ q1, q - 1 = q1 := ⟨_, rfl⟩
              rw [eq1] at g1 hE2
              rw [ER1.out] at hE2
              have hq1 : q1 < q := by omega
              by_cases hbr : H32 ≤ r1
              · have HQ := Lib.hid (est_break hR1Y.out B3.out hbr hE2.out)
                have t2 := ten_true hbr
                clear hbr hbig eq1 hq1 hE2 hE hov em em3 hq0
                rw [hYV.out] at HQ
                obtain ⟨a1', a2', a3', y1, y2, y3, y4⟩ := un21 hY64.out (by rw [← H32_eq]; exact est_rest HQ.out) (Nat.mod_lt _ hYpos.out)
                obtain ⟨R0, eR0⟩ : ∃ R0, (R1 * H32 + u0) % Y = R0 := ⟨_, rfl⟩
                rw [eR0] at y4
                obtain ⟨z1, z2, z4, z5, ez⟩ := quo_u64 hQ1.out (digit_lt hYpos.out hR1.out B5.out HQ.out)
                have y5 : (R0 : Int) / 2 ^ s = ((R0 / 2 ^ s : Nat) : Int) := by rw [Int.natCast_ediv, Int.natCast_pow]; rfl
                obtain ⟨rem, erem⟩ : ∃ rem, R0 / 2 ^ s = rem := ⟨_, rfl⟩
                rw [erem] at y5
                have EZ := Lib.hid ez
                have ER := Lib.hid erem
                have ER0 := Lib.hid eR0
                clear eR0 ez erem
                go_wp2
                go_ret2
                have fq : z2 = qf := by rw [EZ.out, ← HQF.out, HQ.out, HQ1.out, ERR.out]
                have fr : rem = rf := by rw [← ER.out, ← ER0.out, ← HRF.out, ERR.out]
                exact ⟨by rw [← fq, ← fr]; rfl, rfl⟩
              · have t2 := ten_false hbr
                have hR2 : Hid (r1 < H32) := by unfold Hid; omega
                clear hbr hbig eq1 hov em em3 hq0
                go_wp2
                go_round
                case rel => exact ⟨q1, r1, rfl, rfl, hR2, hE2⟩
                case measure => simp [intOf]; omega
            · have t3 := lt_false hov
              have HQ := Lib.hid (est_done (by have := hR1Y.out; omega) (by rw [em, ← em3]; omega) hE.out)
              obtain ⟨q1, rfl⟩ : ∃ q1, q1 = q := ⟨_, rfl⟩
              clear hov em em3 hbig hE
              rw [hYV.out] at HQ
              obtain ⟨a1', a2', a3', y1, y2, y3, y4⟩ := un21 hY64.out (by rw [← H32_eq]; exact est_rest HQ.out) (Nat.mod_lt _ hYpos.out)
              obtain ⟨R0, eR0⟩ : ∃ R0, (R1 * H32 + u0) % Y = R0 := ⟨_, rfl⟩
              rw [eR0] at y4
              obtain ⟨z1, z2, z4, z5, ez⟩ := quo_u64 hQ1.out (digit_lt hYpos.out hR1.out B5.out HQ.out)
              have y5 : (R0 : Int) / 2 ^ s = ((R0 / 2 ^ s : Nat) : Int) := by rw [Int.natCast_ediv, Int.natCast_pow]; rfl
              obtain ⟨rem, erem⟩ : ∃ rem, R0 / 2 ^ s = rem := ⟨_, rfl⟩
              rw [erem] at y5
              have EZ := Lib.hid ez
              have ER := Lib.hid erem
              have ER0 := Lib.hid eR0
              clear eR0 ez erem
              go_wp2
              go_ret2
              have fq : z2 = qf := by rw [EZ.out, ← HQF.out, HQ.out, HQ1.out, ERR.out]
              have fr : rem = rf := by rw [← ER.out, ← ER0.out, ← HRF.out, ERR.out]
              exact ⟨by rw [← fq, ← fr]; rfl, rfl⟩

theorem bitLen_bounds {y : Nat} (h0 : 0 < y) (hy : y < W64) : 1 ≤ Lib.bitLen y ∧ Lib.bitLen y ≤ 64 ∧ 2 ^ (Lib.bitLen y - 1) ≤ y ∧ y < 2 ^ Lib.bitLen y := by
  rw [W64_eq] at hy
  have h := Lib.bitLenAux_bounds 64 y (by omega) (by omega)
  exact ⟨h.1, Lib.bitLen_le y 64 (by omega) (by omega), h.2.1, h.2.2⟩

noncomputable def divQ (hi lo y : Nat) : Nat := (hi * W64 + lo) / y
noncomputable def divR (hi lo y : Nat) : Nat := (hi * W64 + lo) % y
theorem div_spec (hi lo y : Nat) : divQ hi lo y * y + divR hi lo y = hi * W64 + lo := by
  unfold divQ divR; rw [Nat.mul_comm]; exact Nat.div_add_mod _ _
theorem divR_lt (hi lo : Nat) {y : Nat} (hy : 0 < y) : divR hi lo y < y := Nat.mod_lt _ hy
theorem divQ_lt {hi lo y : Nat} (h : hi < y) (hlo : lo < W64) : divQ hi lo y < W64 := by
  unfold divQ
  rw [Nat.div_lt_iff_lt_mul (by omega)]
  have : (hi + 1) * W64 ≤ y * W64 := Nat.mul_le_mul_right _ h
  rw [Nat.add_mul] at this
  rw [Nat.mul_comm W64]
  omega

theorem div64_big (hi lo y : Nat) (w : World) (h0 : 0 < hi) (h1 : hi < y) (hy : y < W64) (hlo : lo < W64) :
    Calls Tryz.prog 146 #[.int .u64 (hi : Int), .int .u64 (lo : Int), .int .u64 (y : Int)] w fun e w' => e = .returned (.tuple #[.int .u64 (divQ hi lo y : Nat), .int .u64 (divR hi lo y : Nat)]) ∧ w = w' := by
  obtain ⟨l1, l2, l3, l4⟩ := bitLen_bounds (y := y) (by omega) hy
  obtain ⟨s, hs⟩ : ∃ s, 64 - Lib.bitLen y = s := ⟨_, rfl⟩
  have hp : 0 < 2 ^ s := Nat.pow_pos (by omega)
  have hyY : y * 2 ^ s < W64 := by
    have : y * 2 ^ s < 2 ^ Lib.bitLen y * 2 ^ s := Nat.mul_lt_mul_of_pos_right l4 hp
    rw [← Nat.pow_add, show Lib.bitLen y + s = 64 by omega] at this
    rw [W64_eq]; exact this
  have hyL : 9223372036854775808 ≤ y * 2 ^ s := by
    have : 2 ^ (Lib.bitLen y - 1) * 2 ^ s ≤ y * 2 ^ s := Nat.mul_le_mul_right _ l3
    rw [← Nat.pow_add, show Lib.bitLen y - 1 + s = 63 by omega] at this
    exact this
  have hH : hi * 2 ^ s < y * 2 ^ s := Nat.mul_lt_mul_of_pos_right h1 hp
  have hLs : lo / 2 ^ (64 - s) < 2 ^ s := by
    rw [Nat.div_lt_iff_lt_mul (Nat.pow_pos (by omega)), ← Nat.pow_add, show s + (64 - s) = 64 by omega]
    rw [W64_eq] at hlo; exact hlo
  have hor : hi * 2 ^ s ||| lo / 2 ^ (64 - s) = hi * 2 ^ s + lo / 2 ^ (64 - s) := by
    have := Nat.shiftLeft_add_eq_or_of_lt hLs hi
    rw [Nat.shiftLeft_eq] at this
    exact this.symm
  have hUY : hi * 2 ^ s + lo / 2 ^ (64 - s) < y * 2 ^ s := by
    have : (hi + 1) * 2 ^ s ≤ y * 2 ^ s := Nat.mul_le_mul_right _ h1
    rw [Nat.add_mul] at this
    omega
  have hY2 : y * 2 ^ s < 18446744073709551616 := by rw [W64_eq] at hyY; exact hyY
  have hT : lo * 2 ^ s % 18446744073709551616 < 18446744073709551616 := Nat.mod_lt _ (by omega)
  have hHs : hi * 2 ^ s < 18446744073709551616 := by omega
  have hpow : ((2 : Int) ^ s) = ((2 ^ s : Nat) : Int) := by rw [Int.natCast_pow]; rfl
  have hpow2 : ((2 : Int) ^ (64 - s)) = ((2 ^ (64 - s) : Nat) : Int) := by rw [Int.natCast_pow]; rfl
  have sp := shift_parts hi lo s (by omega)
  have hv : y * 2 ^ s / 4294967296 * H32 + y * 2 ^ s % 4294967296 = y * 2 ^ s := by rw [H32_eq, Nat.mul_comm]; exact Nat.div_add_mod _ _
  have sh := div_shift (hi * 18446744073709551616 + lo) y (2 ^ s) hp
  have dt := div_two (H := H32) (Y := y * 2 ^ s) (U := hi * 2 ^ s + lo / 2 ^ (64 - s)) (u1 := lo * 2 ^ s % 18446744073709551616 / 4294967296) (u0 := lo * 2 ^ s % 18446744073709551616 % 4294967296) (by omega) hUY (by rw [H32_eq]; omega) (by rw [H32_eq]; omega)
  rw [H32_eq, ← sp, sh.1] at dt
  refine div64_loop hi lo y s (y * 2 ^ s) (y * 2 ^ s / 4294967296) (y * 2 ^ s % 4294967296) (hi * 2 ^ s) (lo / 2 ^ (64 - s)) (hi * 2 ^ s + lo / 2 ^ (64 - s)) (lo * 2 ^ s % 18446744073709551616) (lo * 2 ^ s % 18446744073709551616 / 4294967296) (lo * 2 ^ s % 18446744073709551616 % 4294967296) _ _ w ?_ ?_ h0 h1 hy (by omega) (by omega) ⟨?_, ?_, ?_, ?_, ?_, ?_, ?_, ?_, ?_⟩ (by rw [hv]; exact hUY) hv (by omega) (by rw [H32_eq]; omega) (by rw [H32_eq]; omega) (by rw [H32_eq]; omega) (by rw [H32_eq]; omega)
  · rw [H32_eq, ← dt.2.2.2.1, divQ, W64_eq]
  · rw [H32_eq, ← dt.2.2.2.2, divR, W64_eq]; exact sh.2
  · rw [hpow, ← Int.natCast_mul]; exact wrapW _ hyY
  · omega
  · exact M64.maskN _ hY2
  · rw [hpow, ← Int.natCast_mul]; exact M64.wrapN _ hHs
  · rw [hpow2, Int.natCast_ediv]
  · rw [bits_or_u64_nat _ _ hHs (by omega), hor]
  · rw [hpow, ← Int.natCast_mul]; exact M64.wrapM _
  · omega
  · exact M64.maskN _ hT

set_option maxHeartbeats 400000 in
set_option maxRecDepth 100000 in
theorem div64_small (lo y q r : Nat) (w : World) (h1 : 0 < y) (hq : lo / y = q) (hr : lo % y = r) (hlo : lo < W64) :
    Calls Tryz.prog 146 #[.int .u64 0, .int .u64 (lo : Int), .int .u64 (y : Int)] w fun e w' => e = .returned (.tuple #[.int .u64 (q : Int), .int .u64 (r : Int)]) ∧ ∃ n, w' = w.drewN n := by
  have e2 : ((y : Int) == 0) = false := by simp; omega
  have p1 : (lo : Int) / (y : Int) = (q : Int) := by rw [← Int.natCast_ediv, hq]
  have p2 : IntKind.u64.wrap (q : Int) = (q : Int) := wrapW _ (by have := Nat.div_le_self lo y; omega)
  have p3 : (lo : Int) % (y : Int) = (r : Int) := by rw [← Int.natCast_emod, hr]
  clear hq hr hlo
  go_enter Tryz.func146, Tryz.ntmps146
  go_wp2
  go_quiet (fail)
  go_wp2
  go_ret2
  exact ⟨by rw [← p3]; rfl, _, rfl⟩

theorem div64_any (hi lo y : Nat) (w : World) (h1 : hi < y) (hy : y < W64) (hlo : lo < W64) :
    Calls Tryz.prog 146 #[.int .u64 (hi : Int), .int .u64 (lo : Int), .int .u64 (y : Int)] w fun e w' => e = .returned (.tuple #[.int .u64 (divQ hi lo y : Nat), .int .u64 (divR hi lo y : Nat)]) ∧ ∃ n, w' = w.drewN n := by
  rcases Nat.eq_zero_or_pos hi with h0 | h0
  · subst h0
    refine (div64_small lo y (divQ 0 lo y) (divR 0 lo y) w h1 (by simp [divQ]) (by simp [divR]) hlo).mono ?_
    rintro e w' ⟨rfl, hw⟩
    exact ⟨rfl, hw⟩
  · refine (div64_big hi lo y w h0 h1 hy hlo).mono ?_
    rintro e w' ⟨rfl, rfl⟩
    exact ⟨rfl, 0, rfl⟩
end Go.Proofs.YtndafmjcelgnbaaGreatDoor
