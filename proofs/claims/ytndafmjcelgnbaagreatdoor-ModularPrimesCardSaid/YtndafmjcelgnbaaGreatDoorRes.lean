/-
  Residues, powers and inverses modulo a prime number.
-/
import Derived.Test.YtndafmjcelgnbaaGreatDoorPrimeW
import Derived.Test.YtndafmjcelgnbaaGreatDoorInt5
import Derived.Laws.BitsAllLaws
namespace Go.Proofs.YtndafmjcelgnbaaGreatDoor
open Go.RowKit

theorem pow_odd {p r x n : Nat} (hn : n % 2 = 1) : (r * x % p) * (x * x % p) ^ (n / 2) % p = r * x ^ n % p := by
  have e : x ^ n = x * (x * x) ^ (n / 2) := by
    conv => lhs; rw [show n = 2 * (n / 2) + 1 by omega, Nat.pow_succ, Nat.pow_mul, Nat.pow_two, Nat.mul_comm]
  rw [e, ← Nat.mul_assoc, Nat.mul_mod, Nat.mod_mod, Nat.pow_mod, Nat.mod_mod, ← Nat.pow_mod, ← Nat.mul_mod]
theorem pow_even {p r x n : Nat} (hn : n % 2 = 0) : r * (x * x % p) ^ (n / 2) % p = r * x ^ n % p := by
  have e : x ^ n = (x * x) ^ (n / 2) := by
    conv => lhs; rw [show n = 2 * (n / 2) by omega, Nat.pow_mul, Nat.pow_two]
  rw [e, Nat.mul_mod, Nat.pow_mod, Nat.mod_mod, ← Nat.pow_mod, ← Nat.mul_mod]

theorem and1_u64 (n : Nat) (hn : n < W64) : bits .and .u64 (n : Int) 1 = ((n % 2 : Nat) : Int) := by
  rw [W64_eq] at hn
  have h := u64_and_nat n 1 hn (by omega)
  rw [Nat.and_one_is_mod] at h
  exact h
theorem tmod_nat {a p : Nat} : (a : Int).tmod (p : Int) = ((a % p : Nat) : Int) := by
  rw [Int.tmod_eq_emod_of_nonneg (by omega), Int.natCast_emod]
theorem mulmod_u64 {a b p : Nat} (ha : a < p) (hb : b < p) (hp : p ≤ 2147483647) : (IntKind.u64.wrap ((a : Int) * (b : Int))).tmod (p : Int) = ((a * b % p : Nat) : Int) := by
  have h : a * b ≤ 2147483647 * 2147483647 := Nat.mul_le_mul (by omega) (by omega)
  rw [mul_u64 (by rw [W64_eq]; omega), tmod_nat]

set_option maxHeartbeats 1000000 in
theorem power_any (x n p T : Nat) (w : World) (hx : x < p) (hp : 2 ≤ p) (hm : p ≤ 2147483647) (hn : n < W64) (hT : x ^ n % p = T) :
    Calls Tryz.prog 105 #[.int .u64 (x : Int), .int .u64 (n : Int), .int .u64 (p : Int)] w fun e w' => e = .returned (.int .u64 (T : Int)) ∧ w = w' := by
  have HT := Lib.hid hT
  have HN := Lib.hid hn
  have hp0 : ((p : Int) == 0) = false := by simp; omega
  clear hT hn
  go_enter Tryz.func105, Tryz.ntmps105
  go_wp2
  go_loop [0, 1, 7] (fun xv nv rv => ∃ x n r : Nat, xv = .int .u64 (x : Int) ∧ nv = .int .u64 (n : Int) ∧ rv = .int .u64 (r : Int) ∧ x < p ∧ r < p ∧ Hid (r * x ^ n % p = T ∧ n < W64)) (fun _ nv _ => (intOf nv).toNat)
  case atStart => exact ⟨x, n, 1, rfl, rfl, rfl, hx, by omega, by rw [Nat.one_mul]; exact HT.out, HN.out⟩
  case round =>
    obtain ⟨x, n, r, rfl, rfl, rfl, hx, hr, hR⟩ := hrel
    have HA := Lib.hid (and1_u64 n hR.out.2)
    by_cases h0 : 0 < n
    · have hn2 : Hid (((n / 2 : Nat) : Int) = (n : Int) / 2) := by unfold Hid; omega
      have hm1 := Lib.hid (mulmod_u64 hx hx hm)
      have hm2 := Lib.hid (mulmod_u64 hr hx hm)
      have hlt : Hid (n / 2 < W64) := by have := hR.out.2; unfold Hid; omega
      by_cases h1 : n % 2 = 1
      · have hb : (bits BinOp.and IntKind.u64 (n : Int) 1 == 1) = true := by rw [HA.out]; simp; omega
        have H1 := Lib.hid h1
        clear h1
        go_wp2
        go_round
        case rel => exact ⟨x * x % p, n / 2, r * x % p, by rw [hm1.out], by rw [hn2.out], by rw [hm2.out], Nat.mod_lt _ (by omega), Nat.mod_lt _ (by omega), by rw [pow_odd H1.out]; exact hR.out.1, hlt.out⟩
        case measure => simp [intOf]; omega
      · have hb : (bits BinOp.and IntKind.u64 (n : Int) 1 == 1) = false := by rw [HA.out]; simp; omega
        have H1 : Hid (n % 2 = 0) := by unfold Hid; omega
        clear h1
        go_wp2
        go_round
        case rel => exact ⟨x * x % p, n / 2, r, by rw [hm1.out], by rw [hn2.out], rfl, Nat.mod_lt _ (by omega), hr, by rw [pow_even H1.out]; exact hR.out.1, hlt.out⟩
        case measure => simp [intOf]; omega
    · have hd := hR.out.1
      obtain rfl : n = 0 := by omega
      rw [Nat.pow_zero, Nat.mul_one, Nat.mod_eq_of_lt hr] at hd
      have HD := Lib.hid hd
      clear hd
      go_wp2
      go_ret
      exact ⟨by rw [← HD.out]; rfl, rfl⟩

/-- the inverse of x modulo p by Fermat's theorem -/
def invN (x p : Nat) : Nat := x ^ (p - 2) % p
set_option maxHeartbeats 1000000 in
theorem Invert_any (x p : Nat) (w : World) (hx : x < p) (hp : 2 ≤ p) (hm : p ≤ 2147483647) :
    Calls Tryz.prog 51 #[.int .u64 (x : Int), .int .u64 (p : Int)] w fun e w' => e = .returned (.int .u64 (invN x p : Int)) ∧ w = w' := by
  have hw : IntKind.u64.wrap ((p : Int) - 2) = ((p - 2 : Nat) : Int) := by
    rw [show (p : Int) - 2 = ((p - 2 : Nat) : Int) by omega]
    exact wrapW _ (by rw [W64_eq]; omega)
  obtain ⟨T, hT⟩ : ∃ T, invN x p = T := ⟨_, rfl⟩
  rw [hT]
  have HT : Hid (x ^ (p - 2) % p = T) := hT
  obtain ⟨m, em⟩ : ∃ m, p - 2 = m := ⟨_, rfl⟩
  rw [em] at hw HT
  have Hm : Hid (m < W64) := by unfold Hid; rw [W64_eq]; omega
  clear hT em
  go_enter Tryz.func51, Tryz.ntmps51
  go_wp2_with (go_at_call 105; refine (power_any x m p T _ hx hp hm Hm.out HT.out).mono ?_; rintro e w' ⟨rfl, rfl⟩)
  go_ret
  exact ⟨rfl, rfl⟩

set_option maxHeartbeats 1000000 in
theorem residue_any (a p : Int) (w : World) (_h1 : -9223372036854775808 ≤ a) (_h2 : a ≤ 9223372036854775807) (hp : 1 ≤ p) (hm : p ≤ 2147483647) :
    Calls Tryz.prog 49 #[.int .i64 a, .int .i64 p] w fun e w' => e = .returned (.int .u64 (a % p)) ∧ w = w' := by
  have hp0 : (p == 0) = false := by simp; omega
  have hb := Int.tmod_lt_of_pos a (b := p) (by omega)
  have hb' : -p < a.tmod p := by
    have h3 := Int.natAbs_tmod a p
    have := Nat.mod_lt a.natAbs (y := p.natAbs) (by omega)
    omega
  have hz1 : Hid (0 ≤ a.tmod p → a % p = a.tmod p) := fun h => mod_of_tmod_nonneg (by omega) h
  have hz2 : Hid (a.tmod p < 0 → a % p = a.tmod p + p) := fun h => mod_of_tmod_neg (by omega) h
  go_enter Tryz.func49, Tryz.ntmps49
  go_wp2
  · go_ret
    exact ⟨by rw [hz2.out (by assumption)]; rfl, rfl⟩
  · go_ret
    exact ⟨by rw [hz1.out (by assumption)]; rfl, rfl⟩
end Go.Proofs.YtndafmjcelgnbaaGreatDoor
