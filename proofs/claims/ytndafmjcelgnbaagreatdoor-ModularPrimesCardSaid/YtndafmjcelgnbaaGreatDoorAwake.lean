/-
  awake, and ModularPrimes.
-/
import Derived.Test.YtndafmjcelgnbaaGreatDoorRecon
import Derived.Test.YtndafmjcelgnbaaGreatDoorComb
import Derived.Test.YtndafmjcelgnbaaGreatDoorPrimeW
namespace Go.Proofs.YtndafmjcelgnbaaGreatDoor
open Go.RowKit

theorem itoa_one {n : Nat} (h : n < 10) : Lib.itoa (n : Int) = [UInt8.ofNat (48 + n)] := by
  unfold Lib.itoa
  rw [if_neg (by omega), Int.toNat_natCast, Lib.decDigits, dif_pos h]
theorem itoa_15 : Lib.itoa 15 = [49, 53] := by
  unfold Lib.itoa
  rw [if_neg (by omega), show (15 : Int).toNat = 15 from rfl, Lib.decDigits, dif_neg (by omega), Lib.decDigits, dif_pos (by omega)]
  rfl
theorem pr3 : Pr 3 := Pr.of_noDiv (d := 2) (by omega) (by omega) (NoDiv.two 3) (by omega) (by omega)
theorem pr5 : Pr 5 := Pr.of_noDiv (d := 3) (by omega) (by omega) (NoDiv.three (by omega)) (by omega) (by omega)
theorem crt_awake : crt (List.zip [2, 3] [3, 5]) = (8, 15) := by decide
theorem comb_awake {s t : List UInt8} {c : Int} (h : CombIs [2, 3] [3, 5] s t c) : s = [56] ∧ t = [49, 53] ∧ c = 0 := by
  have hp : ∀ p ∈ ([3, 5] : List Int), Pr p := by
    intro p hp
    simp at hp
    rcases hp with rfl | rfl
    · exact pr3
    · exact pr5
  have hn : ([3, 5] : List Int).Nodup := by decide
  rcases h with h | h | h | h | h
  · exact absurd rfl h.1
  · have := h.2.1; simp at this
  · obtain ⟨p, hp1, hp2⟩ := h.2.2.1
    exact absurd (hp p hp1) hp2
  · exact absurd hn h.2.2.2.1
  · obtain ⟨_, _, _, _, h1, h2, h3⟩ := h
    rw [crt_awake] at h1 h2
    exact ⟨h1.trans (itoa_one (n := 8) (by omega)), h2.trans itoa_15, h3⟩
theorem combOk_awake : CombOk [2, 3] [3, 5] := by
  unfold CombOk PrtOk
  rw [crt_awake, W64_eq]
  exact ⟨by decide, by decide⟩

theorem split8 : splitF [56] = (false, [56], [], true) := by decide
theorem split15 : splitF [49, 53] = (false, [49, 53], [], true) := by decide
theorem read8 : readF [56] = some ((8 : Int) : Rat) := by
  unfold readF
  rw [split8]
  rfl
theorem read15 : readF [49, 53] = some ((15 : Int) : Rat) := by
  unfold readF
  rw [split15]
  rfl
theorem readOk8 : ReadOk [56] := ⟨by simp, fun neg num den h hd => by rw [split8] at h; injection h with _ h; injection h with _ h; injection h with h _; exact absurd h.symm hd⟩
theorem readOk15 : ReadOk [49, 53] := ⟨by simp, fun neg num den h hd => by rw [split15] at h; injection h with _ h; injection h with _ h; injection h with h _; exact absurd h.symm hd⟩
theorem run_awake : RecRun 15 15 (8 % 15) 0 1 1 2 := by
  refine RecRun.step (by decide) ?_
  refine RecRun.step (by decide) ?_
  exact RecRun.done (by decide)
theorem rec_awake (q : Rat) (ok : Bool) (h : RecIs 8 15 q ok) : q = Rat.divInt 1 2 ∧ ok = true := by
  obtain ⟨r, t, h1, h2⟩ := h
  obtain ⟨rfl, rfl⟩ := h1.unique run_awake
  rcases h2 with h2 | h2
  · exact ⟨h2.2.2.2.2, h2.1⟩
  · exact absurd ⟨by decide, by decide, by decide⟩ h2.2.1
theorem half_parts : (Rat.divInt 1 2).num = 1 ∧ (Rat.divInt 1 2).den = 2 := by decide
theorem half_text : ratText (Rat.divInt 1 2) = [49, 47, 50] := by
  unfold ratText
  rw [half_parts.1, half_parts.2, if_neg (by omega)]
  rw [show (1 : Int) = ((1 : Nat) : Int) from rfl, itoa_one (by omega), itoa_one (n := 2) (by omega)]
  rfl

theorem iShows_two {w : World} {g : Nat} {x y : Int} {t : TypeId} (h : Blk t w g #[.int .i64 x, .int .i64 y]) : IShows w (some ⟨g, 0, none⟩) [x, y] := fun _ => by
  refine ⟨g, 0, rfl, h.lt, fun i hi => ?_⟩
  rw [Nat.zero_add, h.cell]
  rcases i with _ | _ | i
  · rfl
  · rfl
  · simp at hi; omega

set_option maxHeartbeats 2000000 in
set_option maxRecDepth 100000 in
theorem awake_any (w : World) (hg : Glob w) : Calls Tryz.prog 13 #[] w (RetV w (.bool true)) := by
  have HG := Lib.hid hg
  clear hg
  go_enter Tryz.func13, Tryz.ntmps13
  go_wp2_with fail
  generalize hwb : World.alloc (World.alloc w _) _ = wb
  obtain ⟨hB0, hB1, hE⟩ := two_blocks hwb
  clear hwb
  refine (Combine_any _ _ [2, 3] [3, 5] 2 2 2 2 _ (HG.out.ext hE) rfl rfl (iShows_two hB0) (iShows_two hB1) ?_ ?_ (by omega) (by omega) (by omega) combOk_awake).mono ?_
  · intro z hz; simp at hz; omega
  · intro z hz; simp at hz; omega
  rintro e w1 ⟨s, t, c, rfl, hC, hF1⟩
  obtain ⟨rfl, rfl, rfl⟩ := comb_awake hC
  have HE1 := Lib.hid (hE.trans hF1)
  clear hB0 hB1 hE hC hF1
  go_wp2_with fail
  have hp := half_parts
  refine (Reconstruct_frac ⟨#[56]⟩ ⟨#[49, 53]⟩ 8 15 (Rat.divInt 1 2) _ (HG.out.ext HE1.out) readOk8 readOk15 read8 read15 ?_ ?_ (by omega) (GcdAll.small ?_) rec_awake ?_ ?_ ?_ ?_).mono ?_
  · have : wl 8 ≤ 1 := wl_one.2 (by rw [W64_eq]; omega)
    unfold Fits; show wl 8 ≤ _; omega
  · have : wl 15 ≤ 1 := wl_one.2 (by rw [W64_eq]; omega)
    show wl 15 < _; omega
  · rw [W64_eq]; decide
  · rw [hp.1]; unfold PrtOk; rw [W64_eq]; decide
  · rw [hp.2]; unfold PrtOk; rw [W64_eq]; decide
  · rw [hp.2]; omega
  · rw [hp.1, show (1 : Int) = ((1 : Nat) : Int) from rfl, itoa_one (by omega)]; simp
  rw [half_text]
  rintro e w2 ⟨rfl, hF2⟩
  have HE2 := Lib.hid (HE1.out.trans hF2)
  clear hF2 hp
  go_wp2
  go_ret
  exact ⟨by first | rfl | (simp [Lib.toList_data]), HE2.out⟩

set_option maxHeartbeats 1000000 in
theorem modularPrimes_any (n : Int) (w : World) (hg : Glob w) (hn : n ≤ 9223372036854775807) : Calls Tryz.prog 5 #[.int .i64 n] w (RetV w (.bool true)) := by
  have HG := Lib.hid hg
  clear hg
  go_enter Tryz.func5, Tryz.ntmps5
  go_wp2_with fail
  refine (nextPrime_any n _ hn).mono ?_
  rintro e w1 ⟨p, ok, rfl, hN1, rfl⟩
  go_wp2_with fail
  refine (refNextPrime_any n _).mono ?_
  rintro e w1 ⟨p', ok', rfl, hN2, rfl⟩
  obtain ⟨rfl, rfl⟩ := hN1.unique hN2
  clear hN1 hN2
  obtain ⟨b, hb⟩ : ∃ b, prB n = b := ⟨_, rfl⟩
  have H1 := fun w => isPrime_any n w
  have H2 := fun w => refIsPrime_any n w
  rw [hb] at H1 H2
  clear hb
  go_wp2_with (first
    | (go_at_call 21; refine (H1 _).mono ?_; rintro e w' ⟨rfl, rfl⟩)
    | (go_at_call 22; refine (H2 _).mono ?_; rintro e w' ⟨rfl, rfl⟩))
  refine (awake_any _ HG.out).mono ?_
  rintro e w2 ⟨rfl, hF⟩
  have HF := Lib.hid hF
  clear hF
  go_wp2
  go_ret
  exact ⟨rfl, HF.out⟩
end Go.Proofs.YtndafmjcelgnbaaGreatDoor
