/-
  The law ModularInverse.
-/
import Derived.Test.YtndafmjcelgnbaaGreatDoorM20
import Derived.Test.YtndafmjcelgnbaaGreatDoorM21
import Derived.Test.YtndafmjcelgnbaaGreatDoorM19
namespace Go.Proofs.YtndafmjcelgnbaaGreatDoor
open Go.RowKit

theorem refInverse_any (a p : Int) (w : World) : Calls Tryz.prog 24 #[.int .i64 a, .int .i64 p] w (RetInv w a p) := by
  by_cases hP : Pr p
  · obtain ⟨n, rfl⟩ := Int.eq_ofNat_of_zero_le (show 0 ≤ p by have := hP.1; omega)
    have hn : 2 ≤ n := by have := hP.1; omega
    by_cases h0 : a % (n : Int) = 0
    · refine (refInverse_no a n w hP h0).mono ?_
      rintro e w' ⟨rfl, rfl⟩
      exact ⟨0, false, rfl, Or.inr ⟨rfl, rfl, Or.inr h0⟩, Fr.refl _ _⟩
    · have h1 := Int.emod_nonneg a (b := (n : Int)) (by omega)
      refine (refInverse_ok a (a % (n : Int)).toNat n w hP (by omega) (by omega)).mono ?_
      rintro e w' ⟨rfl, rfl⟩
      exact ⟨_, true, rfl, Or.inl ⟨rfl, hP, h0, by rw [show ((n : Int)).toNat = n by omega]⟩, Fr.refl _ _⟩
  · refine (refInverse_bad a p w hP).mono ?_
    rintro e w' ⟨rfl, rfl⟩
    exact ⟨0, false, rfl, Or.inr ⟨rfl, rfl, Or.inl hP⟩, Fr.refl _ _⟩
theorem RedIs.unique {l : List UInt8} {p x x' : Int} {ok ok' : Bool} (h : RedIs l p x ok) (h' : RedIs l p x' ok') : x = x' ∧ ok = ok' := by
  rcases h with ⟨rfl, h1, q, hq, h2, rfl⟩ | ⟨rfl, rfl, h1⟩ <;> rcases h' with ⟨rfl, k1, q', hq', k2, rfl⟩ | ⟨rfl, rfl, k1⟩
  · rw [hq] at hq'
    injection hq' with e
    subst e
    exact ⟨rfl, rfl⟩
  · rcases k1 with k1 | k1 | ⟨q', hq', k1⟩
    · exact absurd h1 k1
    · rw [hq] at k1; cases k1
    · rw [hq] at hq'
      injection hq' with e
      subst e
      exact absurd k1 h2
  · rcases h1 with h1 | h1 | ⟨q, hq, h1⟩
    · exact absurd k1 h1
    · rw [hq'] at h1; cases h1
    · rw [hq'] at hq
      injection hq with e
      subst e
      exact absurd h1 k2
  · exact ⟨rfl, rfl⟩

set_option maxHeartbeats 1000000 in
set_option maxRecDepth 100000 in
theorem modularInverse_any (a p : Int) (s : ByteArray) (w : World) (hg : Glob w) (h1 : -9223372036854775808 ≤ a) (h2 : a ≤ 9223372036854775807) :
    Calls Tryz.prog 6 #[.int .i64 a, .int .i64 p, .string s] w (RetV w (.bool true)) := by
  have HG := Lib.hid hg
  by_cases hs : s.size ≤ 200
  · have t1 : decide ((200 : Int) < (s.size : Int)) = false := by rw [decide_eq_false_iff_not]; omega
    have t2 : ¬ ((200 : Int) < (s.size : Int)) := by omega
    have H1 := Lib.hid (Inverse_any a p w h1 h2)
    have Hok : Hid (ReadOk (bytes s)) := ReadOk.of_len (by rw [bytes_length]; omega)
    have Hs : Hid (s.size ≤ 65536) := by unfold Hid; omega
    clear hg h1 h2 hs
    go_enter Tryz.func6, Tryz.ntmps6
    go_wp2_with fail
    refine H1.out.mono ?_
    rintro e w1 ⟨x, ok, rfl, hI, hF1⟩
    have HI := Lib.hid hI
    have HF1 := Lib.hid hF1
    clear hI hF1 H1
    go_wp2_with fail
    refine (refInverse_any a p w1).mono ?_
    rintro e w2 ⟨x', ok', rfl, hI', hF2⟩
    obtain ⟨rfl, rfl⟩ := HI.out.unique hI'
    have HF2 := Lib.hid (HF1.out.trans hF2)
    clear hI' hF2 HI
    go_wp2_with fail
    refine (Reduce_any s p w2 (HG.out.ext HF2.out) Hok.out).mono ?_
    rintro e w3 ⟨y, oy, rfl, hR, hF3⟩
    have HR := Lib.hid hR
    have HF3 := Lib.hid (HF2.out.trans hF3)
    clear hR hF3
    go_wp2_with fail
    refine (refReduce_any s p w3 Hs.out).mono ?_
    rintro e w4 ⟨y', oy', rfl, hR', hF4⟩
    obtain ⟨rfl, rfl⟩ := HR.out.unique hR'
    have HF4 := Lib.hid (HF3.out.trans hF4)
    clear hR' hF4 HR
    go_wp2_with fail
    refine (awake_any _ (HG.out.ext HF4.out)).mono ?_
    rintro e w5 ⟨rfl, hF5⟩
    have HF5 := Lib.hid (HF4.out.trans hF5)
    clear hF5
    go_wp2
    go_ret
    exact ⟨rfl, HF5.out⟩
  · have t1 : decide ((200 : Int) < (s.size : Int)) = true := by rw [decide_eq_true_eq]; omega
    have t2 : (200 : Int) < (s.size : Int) := by omega
    clear hg hs h1 h2
    go_enter Tryz.func6, Tryz.ntmps6
    go_wp2_with fail
    refine (awake_any _ HG.out).mono ?_
    rintro e w3 ⟨rfl, hF3⟩
    have HF3 := Lib.hid hF3
    clear hF3
    go_wp2
    go_ret
    exact ⟨rfl, HF3.out⟩
end Go.Proofs.YtndafmjcelgnbaaGreatDoor
