/-
  IsPrime and NextPrime, of the program and of the reference.
-/
import Derived.Test.YtndafmjcelgnbaaGreatDoorProg
import Derived.Test.YtndafmjcelgnbaaGreatDoorPrime
import Derived.Test.YtndafmjcelgnbaaGreatDoorMem
import Derived.IntWalk
namespace Go.Proofs.YtndafmjcelgnbaaGreatDoor
open Go.RowKit

set_option maxHeartbeats 1000000 in
theorem isPrime_any (n : Int) (w : World) : Calls Tryz.prog 21 #[.int .i64 n] w fun e w' => e = .returned (.bool (prB n)) ∧ w = w' := by
  rcases Int.lt_or_le n 2 with h | h2
  · have hp := Lib.hid (prB_false.2 (Pr.not_lt h))
    go_enter Tryz.func21, Tryz.ntmps21
    go_wp2
    go_ret
    exact ⟨by rw [hp.out]; rfl, rfl⟩
  rcases Int.lt_or_le 2147483647 n with h | hm
  · have hp := Lib.hid (prB_false.2 (Pr.not_gt h))
    have h' : ¬ n < 2 := by omega
    go_enter Tryz.func21, Tryz.ntmps21
    go_wp2
    go_ret
    exact ⟨by rw [hp.out]; rfl, rfl⟩
  by_cases he : n % 2 = 0
  · have hp : Hid (prB n = (n == 2)) := by
      unfold Hid
      by_cases e : n = 2
      · subst e; exact prB_true.2 Pr.two
      · rw [prB_false.2 (Pr.even he e)]; simp [e]
    have he' : (n % 2 == 0) = true := by simp [he]
    clear he
    go_enter Tryz.func21, Tryz.ntmps21
    go_wp2
    go_ret
    exact ⟨by rw [hp.out]; rfl, rfl⟩
  · have he' : (n % 2 == 0) = false := by simp [he]
    have HE := Lib.hid he
    clear he
    go_enter Tryz.func21, Tryz.ntmps21
    go_wp2
    go_loop [3] (fun v => ∃ d : Int, 3 ≤ d ∧ d ≤ 46342 ∧ v = .int .i64 d ∧ Hid (NoDiv n d ∧ d % 2 ≠ 0)) (fun v => (46344 - intOf v).toNat)
    case atStart => exact ⟨3, by omega, by omega, rfl, NoDiv.three HE.out, by omega⟩
    case round =>
      obtain ⟨d, hd1, hd2, rfl, hN⟩ := hrel
      obtain ⟨s1, s2⟩ := pr_sq_le (d := d) (by omega) hd2
      by_cases hlt : d * d ≤ n
      · have hd3 := pr_sq_bound hm (by omega) hlt
        by_cases hz : n % d = 0
        · have hp := Lib.hid (prB_false.2 (Pr.not_of_dvd (by omega) hlt hz))
          have hz' : (n % d == 0) = true := by simp [hz]
          clear hz
          go_wp2
          go_ret
          exact ⟨by rw [hp.out]; rfl, rfl⟩
        · have hz' : (n % d == 0) = false := by simp [hz]
          have HZ := Lib.hid hz
          clear hz
          go_wp2
          go_round
          case rel => exact ⟨d + 2, by omega, by omega, rfl, hN.out.1.next2 HZ.out HE.out hN.out.2, by have := hN.out.2; omega⟩
          case measure => simp [intOf]; omega
      · have hp := Lib.hid (prB_true.2 (Pr.of_noDiv h2 hm hN.out.1 (by omega) (by omega)))
        go_wp2
        go_ret
        exact ⟨by rw [hp.out]; rfl, rfl⟩

set_option maxHeartbeats 1000000 in
theorem refIsPrime_any (n : Int) (w : World) : Calls Tryz.prog 22 #[.int .i64 n] w fun e w' => e = .returned (.bool (prB n)) ∧ w = w' := by
  rcases Int.lt_or_le n 2 with h | h2
  · have hp := Lib.hid (prB_false.2 (Pr.not_lt h))
    go_enter Tryz.func22, Tryz.ntmps22
    go_wp2
    go_ret
    exact ⟨by rw [hp.out]; rfl, rfl⟩
  rcases Int.lt_or_le 2147483647 n with h | hm
  · have hp := Lib.hid (prB_false.2 (Pr.not_gt h))
    have h' : ¬ n < 2 := by omega
    go_enter Tryz.func22, Tryz.ntmps22
    go_wp2
    go_ret
    exact ⟨by rw [hp.out]; rfl, rfl⟩
  go_enter Tryz.func22, Tryz.ntmps22
  go_wp2
  go_loop [3] (fun v => ∃ d : Int, 2 ≤ d ∧ d ≤ 46342 ∧ v = .int .i64 d ∧ Hid (NoDiv n d)) (fun v => (46344 - intOf v).toNat)
  case atStart => exact ⟨2, by omega, by omega, rfl, NoDiv.two n⟩
  case round =>
    obtain ⟨d, hd1, hd2, rfl, hN⟩ := hrel
    obtain ⟨s1, s2⟩ := pr_sq_le (d := d) (by omega) hd2
    by_cases hlt : d * d ≤ n
    · have hd3 := pr_sq_bound hm (by omega) hlt
      by_cases hz : n % d = 0
      · have hp := Lib.hid (prB_false.2 (Pr.not_of_dvd (by omega) hlt hz))
        have hz' : (n % d == 0) = true := by simp [hz]
        clear hz
        go_wp2
        go_ret
        exact ⟨by rw [hp.out]; rfl, rfl⟩
      · have hz' : (n % d == 0) = false := by simp [hz]
        have HZ := Lib.hid hz
        clear hz
        go_wp2
        go_round
        case rel => exact ⟨d + 1, by omega, by omega, rfl, hN.out.next HZ.out⟩
        case measure => simp [intOf]; omega
    · have hp := Lib.hid (prB_true.2 (Pr.of_noDiv h2 hm hN.out (by omega) (by omega)))
      go_wp2
      go_ret
      exact ⟨by rw [hp.out]; rfl, rfl⟩

/-- the result of NextPrime -/
def NpRet (n : Int) (w : World) (e : Ending) (w' : World) : Prop := ∃ p ok, e = .returned (.tuple #[.int .i64 p, .bool ok]) ∧ NpIs n p ok ∧ w = w'

set_option maxHeartbeats 1000000 in
theorem nextPrime_hi (n : Int) (w : World) (h : 1 < n) (h2 : n ≤ 9223372036854775807) : Calls Tryz.prog 19 #[.int .i64 n] w (NpRet n w) := by
  have h1 : 1 ≤ n := by omega
  go_enter Tryz.func19, Tryz.ntmps19
  go_wp2
  go_loop [4] (fun v => ∃ c : Int, 1 ≤ c ∧ c ≤ 9223372036854775807 ∧ v = .int .i64 c ∧ Hid (NoPr n (c + 1) ∧ n ≤ c)) (fun v => (2147483648 - intOf v).toNat)
  case atStart => exact ⟨n, h1, h2, rfl, NoPr.start n, Int.le_refl _⟩
  case round =>
    obtain ⟨c, hc1, hc2, rfl, hN⟩ := hrel
    by_cases hlt : c < 2147483647
    · cases hp : prB (c + 1) with
      | true =>
        have HP := Lib.hid (prB_true.1 hp)
        go_wp2_with (go_at_call 21; refine (isPrime_any _ _).mono ?_; rintro e w' ⟨rfl, rfl⟩)
        go_ret2
        exact ⟨c + 1, true, rfl, Or.inl ⟨rfl, HP.out, by have := hN.out.2; omega, hN.out.1⟩, rfl⟩
      | false =>
        have HP := Lib.hid (prB_false.1 hp)
        go_wp2_with (go_at_call 21; refine (isPrime_any _ _).mono ?_; rintro e w' ⟨rfl, rfl⟩)
        go_round
        case rel => exact ⟨c + 1, by omega, by omega, rfl, hN.out.1.next HP.out, by have := hN.out.2; omega⟩
        case measure => simp [intOf]; omega
    · go_wp2
      go_ret2
      refine ⟨0, false, rfl, Or.inr ⟨rfl, rfl, fun q h1 h2 => ?_⟩, rfl⟩
      have h3 := h2.2.1
      exact hN.out.1 q h1 (by omega) h2

set_option maxHeartbeats 1000000 in
theorem nextPrime_lo (n : Int) (w : World) (h : n < 1) : Calls Tryz.prog 19 #[.int .i64 n] w (NpRet 1 w) := by
  go_enter Tryz.func19, Tryz.ntmps19
  go_wp2
  go_loop [4] (fun v => ∃ c : Int, 1 ≤ c ∧ c ≤ 9223372036854775807 ∧ v = .int .i64 c ∧ Hid (NoPr 1 (c + 1) ∧ 1 ≤ c)) (fun v => (2147483648 - intOf v).toNat)
  case atStart => exact ⟨1, by omega, by omega, rfl, NoPr.start 1, Int.le_refl _⟩
  case round =>
    obtain ⟨c, hc1, hc2, rfl, hN⟩ := hrel
    by_cases hlt : c < 2147483647
    · cases hp : prB (c + 1) with
      | true =>
        have HP := Lib.hid (prB_true.1 hp)
        go_wp2_with (go_at_call 21; refine (isPrime_any _ _).mono ?_; rintro e w' ⟨rfl, rfl⟩)
        go_ret2
        exact ⟨c + 1, true, rfl, Or.inl ⟨rfl, HP.out, by have := hN.out.2; omega, hN.out.1⟩, rfl⟩
      | false =>
        have HP := Lib.hid (prB_false.1 hp)
        go_wp2_with (go_at_call 21; refine (isPrime_any _ _).mono ?_; rintro e w' ⟨rfl, rfl⟩)
        go_round
        case rel => exact ⟨c + 1, by omega, by omega, rfl, hN.out.1.next HP.out, by have := hN.out.2; omega⟩
        case measure => simp [intOf]; omega
    · go_wp2
      go_ret2
      refine ⟨0, false, rfl, Or.inr ⟨rfl, rfl, fun q h1 h2 => ?_⟩, rfl⟩
      have h3 := h2.2.1
      exact hN.out.1 q h1 (by omega) h2

set_option maxHeartbeats 1000000 in
theorem nextPrime_one (w : World) : Calls Tryz.prog 19 #[.int .i64 1] w (NpRet 1 w) := by
  go_enter Tryz.func19, Tryz.ntmps19
  go_wp2
  go_loop [4] (fun v => ∃ c : Int, 1 ≤ c ∧ c ≤ 9223372036854775807 ∧ v = .int .i64 c ∧ Hid (NoPr 1 (c + 1) ∧ 1 ≤ c)) (fun v => (2147483648 - intOf v).toNat)
  case atStart => exact ⟨1, by omega, by omega, rfl, NoPr.start 1, Int.le_refl _⟩
  case round =>
    obtain ⟨c, hc1, hc2, rfl, hN⟩ := hrel
    by_cases hlt : c < 2147483647
    · cases hp : prB (c + 1) with
      | true =>
        have HP := Lib.hid (prB_true.1 hp)
        go_wp2_with (go_at_call 21; refine (isPrime_any _ _).mono ?_; rintro e w' ⟨rfl, rfl⟩)
        go_ret2
        exact ⟨c + 1, true, rfl, Or.inl ⟨rfl, HP.out, by have := hN.out.2; omega, hN.out.1⟩, rfl⟩
      | false =>
        have HP := Lib.hid (prB_false.1 hp)
        go_wp2_with (go_at_call 21; refine (isPrime_any _ _).mono ?_; rintro e w' ⟨rfl, rfl⟩)
        go_round
        case rel => exact ⟨c + 1, by omega, by omega, rfl, hN.out.1.next HP.out, by have := hN.out.2; omega⟩
        case measure => simp [intOf]; omega
    · go_wp2
      go_ret2
      refine ⟨0, false, rfl, Or.inr ⟨rfl, rfl, fun q h1 h2 => ?_⟩, rfl⟩
      have h3 := h2.2.1
      exact hN.out.1 q h1 (by omega) h2

/-- NextPrime of the program -/
theorem nextPrime_any (n : Int) (w : World) (h2 : n ≤ 9223372036854775807) : Calls Tryz.prog 19 #[.int .i64 n] w (NpRet n w) := by
  rcases Int.lt_or_le 1 n with h | h
  · exact nextPrime_hi n w h h2
  · rcases (by omega : n < 1 ∨ n = 1) with h | rfl
    · refine (nextPrime_lo n w h).mono ?_
      rintro e w' ⟨p, ok, rfl, hN, rfl⟩
      exact ⟨p, ok, rfl, hN.low (Int.le_refl _) (by omega), rfl⟩
    · exact nextPrime_one w

set_option maxHeartbeats 1000000 in
theorem refNextPrime_any (n : Int) (w : World) : Calls Tryz.prog 20 #[.int .i64 n] w (NpRet n w) := by
  rcases Int.lt_or_le n 2 with h | h2
  · go_enter Tryz.func20, Tryz.ntmps20
    go_wp2
    go_ret2
    refine ⟨2, true, rfl, Or.inl ⟨rfl, Pr.two, by omega, fun q k1 k2 k3 => ?_⟩, rfl⟩
    have := k3.1; omega
  rcases Int.lt_or_le 2147483646 n with h | hm
  · have h' : ¬ n < 2 := by omega
    have h'' : 2147483647 ≤ n := by omega
    go_enter Tryz.func20, Tryz.ntmps20
    go_wp2
    go_ret2
    refine ⟨0, false, rfl, Or.inr ⟨rfl, rfl, fun q k1 k3 => ?_⟩, rfl⟩
    have := k3.2.1; omega
  have h' : ¬ n < 2 := by omega
  have h'' : ¬ 2147483647 ≤ n := by omega
  go_enter Tryz.func20, Tryz.ntmps20
  go_wp2
  go_loop [4] (fun v => ∃ c : Int, 1 ≤ c ∧ c ≤ 2147483647 ∧ v = .int .i64 c ∧ Hid (NoPr n c ∧ n < c)) (fun v => (2147483648 - intOf v).toNat)
  case atStart => exact ⟨n + 1, by omega, by omega, rfl, NoPr.start n, by omega⟩
  case round =>
    obtain ⟨c, hc1, hc2, rfl, hN⟩ := hrel
    cases hp : prB c with
    | true =>
      have HP := Lib.hid (prB_true.1 hp)
      go_wp2_with (go_at_call 22; refine (refIsPrime_any _ _).mono ?_; rintro e w' ⟨rfl, rfl⟩)
      go_ret2
      exact ⟨c, true, rfl, Or.inl ⟨rfl, HP.out, hN.out.2, hN.out.1⟩, rfl⟩
    | false =>
      have HP := Lib.hid (prB_false.1 hp)
      have hc3 : c < 2147483647 := by
        rcases Int.lt_or_le c 2147483647 with k | k
        · exact k
        · exact absurd ((by omega : (2147483647 : Int) = c) ▸ Pr.max) HP.out
      go_wp2_with (go_at_call 22; refine (refIsPrime_any _ _).mono ?_; rintro e w' ⟨rfl, rfl⟩)
      go_round
      case rel => exact ⟨c + 1, by omega, by omega, rfl, hN.out.1.next HP.out, by have := hN.out.2; omega⟩
      case measure => simp [intOf]; omega
end Go.Proofs.YtndafmjcelgnbaaGreatDoor
