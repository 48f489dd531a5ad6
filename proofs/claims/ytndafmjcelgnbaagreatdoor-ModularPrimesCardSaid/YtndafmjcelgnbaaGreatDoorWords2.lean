/-
  The contracts of package integer's compareWords, addWords, subtractWords and fromWord.
-/
import Derived.Test.YtndafmjcelgnbaaGreatDoorWords1
import Derived.Deep.QuietTactic
import Derived.BigQuiet
namespace Go.Proofs.YtndafmjcelgnbaaGreatDoor
open Go.RowKit

def cmpI (a b : Int) : Int := if a < b then -1 else if b < a then 1 else 0

set_option maxHeartbeats 400000 in
theorem cmpInt_any (x y : Int) (w : World) : Calls Tryz.prog 149 #[.int .i64 x, .int .i64 y] w fun e w' => e = .returned (.int .i64 (cmpI x y)) ∧ w' = w := by
  go_enter Tryz.func149, Tryz.ntmps149
  go_wp2
  all_goals (go_ret; exact ⟨by simp [cmpI, *]; try omega, rfl⟩)

set_option maxHeartbeats 400000 in
theorem cmpU64_any (x y : Int) (w : World) : Calls Tryz.prog 150 #[.int .u64 x, .int .u64 y] w fun e w' => e = .returned (.int .i64 (cmpI x y)) ∧ w' = w := by
  go_enter Tryz.func150, Tryz.ntmps150
  go_wp2
  all_goals (go_ret; exact ⟨by simp [cmpI, *]; try omega, rfl⟩)

theorem cmpI_lt {a b : Int} (h : a < b) : cmpI a b = -1 := by simp [cmpI, h]
theorem cmpI_gt {a b : Int} (h : b < a) : cmpI a b = 1 := by unfold cmpI; rw [if_neg (by omega), if_pos h]
theorem cmpI_self (a : Int) : cmpI a a = 0 := by simp [cmpI]

/-- comparing two natural numbers by their lengths and then from the top -/
theorem cmp_len {xs ys : List Nat} (hx : Dig W64 xs) (hy : Dig W64 ys) (tx : Trim xs) (ty : Trim ys) (hl : xs.length ≠ ys.length) : cmpI xs.length ys.length = cmpI (val W64 xs) (val W64 ys) := by
  rcases Nat.lt_or_gt_of_ne hl with h | h
  · rw [cmpI_lt (by omega), cmpI_lt (by have := val_lt_of_length W64_pos hx ty h; omega)]
  · rw [cmpI_gt (by omega), cmpI_gt (by have := val_lt_of_length W64_pos hy tx h; omega)]
theorem cmp_digit {xs ys : List Nat} (hx : Dig W64 xs) (hy : Dig W64 ys) (hl : xs.length = ys.length) {k x y : Nat} (hk : k < xs.length) (he : xs.drop (k + 1) = ys.drop (k + 1)) (ex : xs[k]?.getD 0 = x) (ey : ys[k]?.getD 0 = y) (hne : x ≠ y) :
    cmpI x y = cmpI (val W64 xs) (val W64 ys) := by
  subst ex ey
  rcases Nat.lt_or_gt_of_ne hne with h | h
  · rw [cmpI_lt (by omega), cmpI_lt (by have := val_lt_of_digit hx hl k hk he h; omega)]
  · rw [cmpI_gt (by omega), cmpI_gt (by have := val_lt_of_digit hy hl.symm k (by omega) he.symm h; omega)]

set_option maxHeartbeats 1000000 in
theorem compareWords_any (A A2 : Option Addr) (xs ys : List Nat) (n m c c2 : Nat) (w : World) (hn : xs.length = n) (hm : ys.length = m) (hX : Shows .u64 w A xs) (hY : Shows .u64 w A2 ys) (hc : xs.length ≤ 1099511627776) (_ : ys.length ≤ 1099511627776)
    (hx : Dig W64 xs) (hy : Dig W64 ys) (tx : Trim xs) (ty : Trim ys) :
    Calls Tryz.prog 108 #[.slice A n c, .slice A2 m c2] w fun e w' => e = .returned (.int .i64 (cmpI (val W64 xs) (val W64 ys))) ∧ ∃ n, w' = w.drewN n := by
  subst hn hm
  by_cases hl : xs.length = ys.length
  · have HX := Lib.hid hX
    have HY := Lib.hid hY
    have HL := Lib.hid hl
    have Hx := Lib.hid hx
    have Hy := Lib.hid hy
    have hne : (((xs.length : Nat) : Int) != (ys.length : Nat)) = false := by simp [hl]
    clear hX hY hx hy tx ty hl
    go_enter Tryz.func108, Tryz.ntmps108
    go_wp2
    go_loopw [5] (fun i wr => ∃ k n : Nat, k ≤ xs.length ∧ i = .int .i64 ((k : Int) - 1) ∧ Hid (xs.drop k = ys.drop k) ∧ Hid (wr = w.drewN n)) (fun i _ => (intOf i + 1).toNat)
    case atStart => exact ⟨xs.length, 0, Nat.le_refl _, rfl, by unfold Hid; rw [List.drop_of_length_le (Nat.le_refl _), List.drop_of_length_le (by rw [HL.out]; exact Nat.le_refl _)], rfl⟩
    case round =>
      obtain ⟨k, n, hk, rfl, hE, hW⟩ := hrel
      obtain rfl := hW.out
      clear hW
      by_cases hlt : 0 < k
      · obtain ⟨j, rfl⟩ : ∃ j, k = j + 1 := ⟨k - 1, by omega⟩
        have ej : (((j + 1 : Nat) : Int) - 1) = (j : Int) := by omega
        rw [ej]
        clear ej
        obtain ⟨b, off, rfl, _, hcx⟩ := HX.out.at (i := j) (by omega)
        obtain ⟨b2, off2, rfl, _, hcy⟩ := HY.out.at (i := j) (by have := HL.out; omega)
        obtain ⟨x, ex⟩ : ∃ x, xs[j]?.getD 0 = x := ⟨_, rfl⟩
        obtain ⟨y, ey⟩ : ∃ y, ys[j]?.getD 0 = y := ⟨_, rfl⟩
        rw [ex] at hcx
        rw [ey] at hcy
        have hj2 : (j : Int) < (ys.length : Nat) := by have := HL.out; omega
        have hj1 : (j : Int) < (xs.length : Nat) := by omega
        by_cases hd : x = y
        · subst hd
          have HE : Hid (xs.drop j = ys.drop j) := by
            unfold Hid
            have h1 : j < xs.length := by omega
            have h2 : j < ys.length := by have := HL.out; omega
            rw [List.drop_eq_getElem_cons h1, List.drop_eq_getElem_cons h2, hE.out]
            rw [List.getElem?_eq_getElem h1] at ex
            rw [List.getElem?_eq_getElem h2] at ey
            simp only [Option.getD_some] at ex ey
            rw [ex, ey]
          clear ex ey hE
          go_wp2
          go_quiet (fail)
          go_wp2
          go_roundw
          case rel => exact ⟨j, _, by omega, rfl, HE, rfl⟩
          case measure => simp [intOf]
        · have HC := Lib.hid (cmp_digit Hx.out Hy.out HL.out (by omega) hE.out ex ey hd)
          have hd' : (((x : Nat) : Int) != (y : Nat)) = true := by simp; omega
          clear ex ey hE
          go_wp2
          go_quiet (fail)
          go_wp2
          go_quiet ((go_at_call 150; first | exact Calls.quiet_of_same (cmpU64_any _ _ _) | exact (cmpU64_any _ _ _).mono (fun _ _ h => ⟨h.1, _, h.2⟩)))
          go_wp2
          go_ret
          exact ⟨by rw [← HC.out]; rfl, by simp only [World.drewN_drewN]; exact ⟨_, rfl⟩⟩
      · obtain rfl : k = 0 := by omega
        have HE : xs = ys := by simpa using hE.out
        have HC := Lib.hid (congrArg (fun l => cmpI (val W64 xs) (val W64 l)) HE)
        clear hE HE
        go_wp2
        go_ret
        exact ⟨by rw [← (show _ = cmpI (val W64 xs) (val W64 ys) from HC.out), cmpI_self]; rfl, _, rfl⟩
  · have hne : (((xs.length : Nat) : Int) != (ys.length : Nat)) = true := by simp; omega
    have HC := Lib.hid (cmp_len hx hy tx ty hl)
    clear hX hY hx hy tx ty
    go_enter Tryz.func108, Tryz.ntmps108
    go_wp2_with (go_at_call 149; refine (cmpInt_any _ _ _).mono ?_; rintro e w' ⟨rfl, rfl⟩)
    go_ret
    exact ⟨by rw [← HC.out]; rfl, 0, rfl⟩
end Go.Proofs.YtndafmjcelgnbaaGreatDoor
