/-
  Texts of whole numbers: rational.FromInt, integer's Int64, Ratio.String.
  Package modular: Inverse, Reduce.
  Package integer: Quo. Package rational: Fraction.
  Package rational: Compare of whole numbers.
  Whole numbers: Ratio.Mul, Ratio.Add; rational.Mul, rational.Add.
  Whole numbers: rational.Mul, rational.Add on texts.
  modular.ReconstructRatio: the Euclidean algorithm that it runs, and its walk.
  Package rational: Ratio.String for a number with a denominator.
  modular.Reconstruct, on the road where it succeeds with a number that is not whole.
  awake, and ModularPrimes.
-/
import Derived.Test.YtndafmjcelgnbaaGreatDoorM14
import Derived.Test.YtndafmjcelgnbaaGreatDoorM12
import Derived.Test.YtndafmjcelgnbaaGreatDoorM16
import Derived.Deep.DeepCutAuto
import Derived.Deep.LoopGhost
import Derived.Test.YtndafmjcelgnbaaGreatDoorM15
import Derived.Test.YtndafmjcelgnbaaGreatDoorM02
namespace Go.Proofs.YtndafmjcelgnbaaGreatDoor
open Go.RowKit

theorem FormatInt_any (n : Int) (w : World) (hg : Glob w) (h0 : -9223372036854775808 ≤ n) (h1 : n ≤ 9223372036854775807) :
    Calls Tryz.prog 92 #[.int .i64 n, .int .i64 10] w (RetV w (.string ⟨(Lib.itoa n).toArray⟩)) :=
  (Tryz.strconv_FormatInt_10 n h0 h1 w hg.1).mono (by
    rintro e w' ⟨rfl, k, os, rfl⟩
    exact ⟨rfl, Fr.ofBelow (Lib.below_grow _ w (Nat.le_refl _) k os)⟩)

set_option maxHeartbeats 1000000 in
theorem FromInt_any (n : Int) (w : World) (hg : Glob w) (h0 : -9223372036854775808 ≤ n) (h1 : n ≤ 9223372036854775807) :
    Calls Tryz.prog 42 #[.int .i64 n] w (RetV w (.string ⟨(Lib.itoa n).toArray⟩)) := by
  have H := Lib.hid (FormatInt_any n w hg h0 h1)
  generalize Lib.itoa n = t at *
  clear hg
  go_enter Tryz.func42, Tryz.ntmps42
  go_wp2_with fail
  refine H.out.mono ?_
  rintro e w1 ⟨rfl, hF⟩
  have HF := Lib.hid hF
  clear hF
  go_wp2
  go_ret
  exact ⟨rfl, HF.out⟩

set_option maxHeartbeats 1000000 in
/-- formatShort of a whole number -/
theorem formatShort_one (n : Int) (w : World) (hg : Glob w) (h0 : -9223372036854775808 ≤ n) (h1 : n ≤ 9223372036854775807) :
    Calls Tryz.prog 90 #[.int .i64 n, .int .i64 1] w (RetV w (.string ⟨(Lib.itoa n).toArray⟩)) := by
  have H := Lib.hid (FormatInt_any n w hg h0 h1)
  generalize Lib.itoa n = t at *
  clear hg
  go_enter Tryz.func90, Tryz.ntmps90
  go_wp2_with fail
  refine H.out.mono ?_
  rintro e w1 ⟨rfl, hF⟩
  have HF := Lib.hid hF
  clear hF
  go_wp2
  go_ret
  exact ⟨rfl, HF.out⟩

/-- what Int64 returns -/
def RetI64 (w : World) (z : Int) (e : Ending) (w' : World) : Prop :=
  ∃ (z' : Int) (ok : Bool), e = .returned (.tuple #[.int .i64 z', .bool ok]) ∧ Hid (ok = true → z' = z ∧ -9223372036854775808 ≤ z ∧ z ≤ 9223372036854775807) ∧ Ext w w'

set_option maxHeartbeats 1000000 in
set_option maxRecDepth 100000 in
theorem Int64_any (a : Value) (z : Int) (w : World) (ha : IntIs w a z) : Calls Tryz.prog 125 #[a] w (RetI64 w z) := by
  obtain ⟨s, A, l, c, rfl, hN, hz, h0⟩ := ha.open
  obtain ⟨A', xs, c', he, hc, hX, hd, ht, hv⟩ := hN
  injection he with e1 e2 e3
  subst e1 e2 e3
  match xs, hX, hd, ht, hv with
  | [], hX, hd, ht, hv =>
    have hz0 : z = 0 := by simp at hv; omega
    have HZ : Hid ((0 : Int) = z ∧ -9223372036854775808 ≤ z ∧ z ≤ 9223372036854775807) := by unfold Hid; omega
    clear hX hd ht hv hz h0 hc hz0
    go_enter Tryz.func125, Tryz.ntmps125
    go_wp2
    go_ret2
    exact ⟨0, true, rfl, (fun _ => HZ.out), (Fr.refl _ _).alloc _⟩
  | [x], hX, hd, ht, hv =>
    obtain ⟨b, off, rfl, hb, hc0⟩ := hX.at (i := 0) (by simp)
    simp at hc0
    have hne := Nat.ne_of_lt hb
    have hxv : x = z.natAbs := by simpa using hv
    have hxW : x < 18446744073709551616 := by have := hd x (by simp); rwa [W64_eq] at this
    cases s with
    | false =>
      have hzz : z = (x : Int) := by simp [sg] at hz; omega
      by_cases hle : x ≤ 9223372036854775807
      · have HZ : Hid ((x : Int) = z ∧ -9223372036854775808 ≤ z ∧ z ≤ 9223372036854775807) := by unfold Hid; omega
        have f1 : IntKind.i64.wrap (x : Int) = (x : Int) := IntWalk.i64_in _ (by omega)
        have t1 : decide ((x : Int) ≤ 9223372036854775807) = true := by simp; omega
        clear hX hd ht hv hz h0 hc hxv hzz hle hxW
        go_enter Tryz.func125, Tryz.ntmps125
        go_wp2
        go_ret2
        exact ⟨x, true, rfl, (fun _ => HZ.out), (Fr.refl _ _).alloc _⟩
      · have t1 : decide ((x : Int) ≤ 9223372036854775807) = false := by simp; omega
        clear hX hd ht hv hz h0 hc hxv hzz hle hxW
        go_enter Tryz.func125, Tryz.ntmps125
        go_wp2
        go_ret2
        exact ⟨0, false, rfl, (fun h => by cases h), (Fr.refl _ _).alloc _⟩
    | true =>
      have hzz : z = -(x : Int) := by simp [sg] at hz; omega
      by_cases hle : x ≤ 9223372036854775808
      · have HZ : Hid (-(x : Int) = z ∧ -9223372036854775808 ≤ z ∧ z ≤ 9223372036854775807) := by unfold Hid; omega
        have f1 : IntKind.i64.wrap (IntKind.u64.wrap (-(x : Int))) = -(x : Int) := by
          rw [IntKind.wrap_u64, IntKind.wrap_i64]; omega
        have t1 : decide ((x : Int) ≤ 9223372036854775808) = true := by simp; omega
        clear hX hd ht hv hz h0 hc hxv hzz hle hxW
        go_enter Tryz.func125, Tryz.ntmps125
        go_wp2
        go_ret2
        exact ⟨-(x : Int), true, rfl, (fun _ => HZ.out), (Fr.refl _ _).alloc _⟩
      · have t1 : decide ((x : Int) ≤ 9223372036854775808) = false := by simp; omega
        clear hX hd ht hv hz h0 hc hxv hzz hle hxW
        go_enter Tryz.func125, Tryz.ntmps125
        go_wp2
        go_ret2
        exact ⟨0, false, rfl, (fun h => by cases h), (Fr.refl _ _).alloc _⟩
  | x :: y :: ys, hX, hd, ht, hv =>
    obtain ⟨b, off, rfl, hb, hc0⟩ := hX.at (i := 0) (by simp)
    simp at hc0
    have hne := Nat.ne_of_lt hb
    obtain ⟨k, hk⟩ : ∃ k, (x :: y :: ys).length = k := ⟨_, rfl⟩
    have hk2 : 2 ≤ k := by simp at hk; omega
    rw [hk]
    have t0 : ((k : Int) == 0) = false := by simp; omega
    clear hX hd ht hv hz h0 hc hk
    go_enter Tryz.func125, Tryz.ntmps125
    go_wp2
    go_ret2
    exact ⟨0, false, rfl, (fun h => by cases h), (Fr.refl _ _).alloc _⟩

set_option maxHeartbeats 1000000 in
set_option maxRecDepth 100000 in
theorem RString_whole (a : Value) (q : Rat) (w : World) (hg : Glob w) (ha : RatIs w a q) (h1 : q.den = 1) (hp : PrtOk q.num.natAbs) :
    Calls Tryz.prog 65 #[a] w (RetV w (.string ⟨(Lib.itoa q.num).toArray⟩)) := by
  obtain ⟨s, t, A, B, l, c, l', c', rfl, hn, hd⟩ := ha
  rw [denF_zero.2 h1] at hd
  generalize q.num = z at *
  have HN := Lib.hid hn
  have HD := Lib.hid hd
  have HG := Lib.hid hg
  have HP := Lib.hid hp
  clear hn hd h1 hg hp
  go_enter Tryz.func65, Tryz.ntmps65
  go_wp2_with fail
  generalize hwb : World.alloc w _ = wb
  obtain ⟨hB0, hE0⟩ := Blk.one hwb
  clear hwb
  refine (IsZero_any _ 0 _ (HD.out.ext hE0)).mono ?_
  rw [decide_eq_true rfl]
  rintro e w1 ⟨rfl, hF1⟩
  have HB1 := Lib.hid (hB0.ext hF1)
  have HE1 := Lib.hid (hE0.trans hF1)
  obtain ⟨x0, x1, x2, x3, _⟩ := (hB0.ext hF1).cell4
  clear hB0 hE0 hF1
  go_wp2_with fail
  refine (Int64_any _ z _ (HN.out.ext HE1.out)).mono ?_
  rintro e w2 ⟨z', ok, rfl, hR, hF2⟩
  have HB2 := Lib.hid (HB1.out.ext hF2)
  have HE2 := Lib.hid (HE1.out.trans hF2)
  obtain ⟨y0, y1, y2, y3, _⟩ := (HB1.out.ext hF2).cell4
  clear hF2 x0 x1 x2 x3 HB1 HE1
  cases ok with
  | true =>
    obtain ⟨rfl, r1, r2⟩ := hR.out rfl
    have HC := Lib.hid (FromInt_any z' w2 (HG.out.ext HE2.out) r1 r2)
    generalize Lib.itoa z' = txt at *
    clear r1 r2
    go_wp2_with fail
    refine HC.out.mono ?_
    rintro e w3 ⟨rfl, hF3⟩
    have HE3 := Lib.hid (HE2.out.trans hF3)
    clear hF3
    go_wp2
    go_ret
    exact ⟨rfl, HE3.out⟩
  | false =>
    have HC := Lib.hid (String_any _ z w2 (HG.out.ext HE2.out) (HN.out.ext HE2.out) HP.out)
    generalize Lib.itoa z = txt at *
    clear hR
    go_wp2_with fail
    refine HC.out.mono ?_
    rintro e w3 ⟨rfl, hF3⟩
    have HE3 := Lib.hid (HE2.out.trans hF3)
    clear hF3
    go_wp2
    go_ret
    exact ⟨rfl, HE3.out⟩
end Go.Proofs.YtndafmjcelgnbaaGreatDoor

namespace Go.Proofs.YtndafmjcelgnbaaGreatDoor
open Go.RowKit

theorem dec_wl {l : List UInt8} (hd : l.all isDig = true) (hl : l.length ≤ 570) : wl (decVal l) ≤ 30 := by
  rw [wl_le_iff]
  have h1 := decVal_lt l hd
  obtain ⟨k, hk⟩ : ∃ k, k = 30 := ⟨_, rfl⟩
  have h2 : 10 ^ l.length ≤ 10 ^ (19 * k) := Nat.pow_le_pow_right (by omega) (by omega)
  rw [← hk]
  rw [Nat.pow_mul] at h2
  have h3 : (10 ^ 19) ^ k ≤ W64 ^ k := Nat.pow_le_pow_left (by rw [W64_eq]; decide) k
  exact Nat.lt_of_lt_of_le h1 (Nat.le_trans h2 h3)
theorem readF_small {l : List UInt8} {q : Rat} (h : readF l = some q) (hl : l.length ≤ 570) : wl q.num.natAbs ≤ 30 ∧ wl q.den ≤ 30 := by
  unfold readF at h
  obtain ⟨⟨neg, num, den, ok⟩, hS⟩ : ∃ x, splitF l = x := ⟨_, rfl⟩
  rw [hS] at h
  cases ok with
  | false => cases h
  | true =>
    obtain ⟨d1, d2, d3⟩ := splitF_digits hS
    have hn : ∀ z, (sg neg z).natAbs = z := fun z => by unfold sg; split <;> omega
    have w1 := dec_wl d1 (by omega)
    have w2 := dec_wl d2 (by omega)
    simp only [] at h
    split at h
    · injection h with h
      subst h
      refine ⟨?_, ?_⟩
      · show wl (sg neg (decVal num)).natAbs ≤ 30
        rw [hn]; exact w1
      · show wl 1 ≤ 30
        have : wl 1 ≤ 1 := wl_one.2 W64_one
        omega
    · split at h
      · rename_i hne hg
        injection h with h
        subst h
        have h2 := (splitF_den hS).1 hne
        obtain ⟨e1, e2⟩ := mkRat_parts (z := sg neg (decVal num)) h2 (by rw [hn]; exact hg)
        refine ⟨by rw [e1, hn]; exact w1, ?_⟩
        have e3 : (mkRat (sg neg (decVal num)) (decVal den)).den = decVal den := by
          unfold denF at e2
          split at e2 <;> omega
        rw [e3]; exact w2
      · cases h

/-- what Inverse returns -/
def InvIs (a p x : Int) (ok : Bool) : Prop :=
  (ok = true ∧ Pr p ∧ a % p ≠ 0 ∧ x = (invN (a % p).toNat p.toNat : Int)) ∨ (ok = false ∧ x = 0 ∧ (¬ Pr p ∨ a % p = 0))
theorem InvIs.unique {a p x x' : Int} {ok ok' : Bool} (h : InvIs a p x ok) (h' : InvIs a p x' ok') : x = x' ∧ ok = ok' := by
  rcases h with ⟨rfl, h1, h2, rfl⟩ | ⟨rfl, rfl, h1⟩ <;> rcases h' with ⟨rfl, k1, k2, rfl⟩ | ⟨rfl, rfl, k1⟩
  · exact ⟨rfl, rfl⟩
  · rcases k1 with k1 | k1
    · exact absurd h1 k1
    · exact absurd k1 h2
  · rcases h1 with h1 | h1
    · exact absurd k1 h1
    · exact absurd h1 k2
  · exact ⟨rfl, rfl⟩
def RetInv (w : World) (a p : Int) (e : Ending) (w' : World) : Prop := ∃ x ok, e = .returned (.tuple #[.int .i64 x, .bool ok]) ∧ InvIs a p x ok ∧ Ext w w'

set_option maxHeartbeats 1000000 in
theorem Inverse_any (a p : Int) (w : World) (h1 : -9223372036854775808 ≤ a) (h2 : a ≤ 9223372036854775807) : Calls Tryz.prog 23 #[.int .i64 a, .int .i64 p] w (RetInv w a p) := by
  cases hp : prB p with
  | false =>
    have HP := Lib.hid (prB_false.1 hp)
    have H1 := fun w => isPrime_any p w
    rw [hp] at H1
    clear hp
    go_enter Tryz.func23, Tryz.ntmps23
    go_wp2_with (go_at_call 21; refine (H1 _).mono ?_; rintro e w' ⟨rfl, rfl⟩)
    go_ret2
    exact ⟨0, false, rfl, Or.inr ⟨rfl, rfl, Or.inl HP.out⟩, Fr.refl _ _⟩
  | true =>
    have hP := prB_true.1 hp
    have HP := Lib.hid hP
    have H1 := fun w => isPrime_any p w
    rw [hp] at H1
    obtain ⟨P, rfl⟩ := Int.eq_ofNat_of_zero_le (show 0 ≤ p by have := hP.1; omega)
    have hP2 : 2 ≤ P := by have := hP.1; omega
    have hPm : P ≤ 2147483647 := by have := hP.2.1; omega
    obtain ⟨x, hx⟩ : ∃ x : Nat, a % (P : Int) = (x : Int) := Int.eq_ofNat_of_zero_le (Int.emod_nonneg _ (by omega))
    have lx : x < P := by have := Int.emod_lt_of_pos a (b := (P : Int)) (by omega); omega
    have cres := fun w => residue_any a (P : Int) w h1 h2 (by omega) (by omega)
    rw [hx] at cres
    have Hx := Lib.hid hx
    have q0 := wrapW P (by rw [W64_eq]; omega)
    clear hp hP hx
    by_cases h0 : x = 0
    · subst h0
      go_enter Tryz.func23, Tryz.ntmps23
      go_wp2_with (first
        | (go_at_call 21; refine (H1 _).mono ?_; rintro e w' ⟨rfl, rfl⟩)
        | (go_at_call 49; refine (cres _).mono ?_; rintro e w' ⟨rfl, rfl⟩))
      go_ret2
      exact ⟨0, false, rfl, Or.inr ⟨rfl, rfl, Or.inr (by rw [Hx.out]; rfl)⟩, Fr.refl _ _⟩
    · have hx0 : ((x : Int) == 0) = false := by simp; omega
      have cinv := fun w => Invert_any x P w lx hP2 hPm
      obtain ⟨iv, hiv⟩ : ∃ iv, invN x P = iv := ⟨_, rfl⟩
      have liv : iv < P := by rw [← hiv]; exact Nat.mod_lt _ (by omega)
      rw [hiv] at cinv
      have f2 : IntKind.i64.wrap (iv : Int) = (iv : Int) := IntWalk.i64_in _ (by omega)
      have HF : Hid (InvIs a (P : Int) (iv : Int) true) := Or.inl ⟨rfl, HP.out, by rw [Hx.out]; omega, by rw [Hx.out, ← hiv]; simp⟩
      clear hiv
      go_enter Tryz.func23, Tryz.ntmps23
      go_wp2_with (first
        | (go_at_call 21; refine (H1 _).mono ?_; rintro e w' ⟨rfl, rfl⟩)
        | (go_at_call 49; refine (cres _).mono ?_; rintro e w' ⟨rfl, rfl⟩)
        | (go_at_call 51; refine (cinv _).mono ?_; rintro e w' ⟨rfl, rfl⟩))
      go_ret2
      exact ⟨iv, true, rfl, HF.out, Fr.refl _ _⟩

/-- what Reduce returns -/
def RedIs (l : List UInt8) (p x : Int) (ok : Bool) : Prop :=
  (ok = true ∧ Pr p ∧ ∃ q : Rat, readF l = some q ∧ (q.den : Int) % p ≠ 0 ∧ x = (q.num % p) * (invN ((q.den : Int) % p).toNat p.toNat : Int) % p) ∨ (ok = false ∧ x = 0 ∧ (¬ Pr p ∨ readF l = none ∨ ∃ q : Rat, readF l = some q ∧ (q.den : Int) % p = 0))
def RetRed (w : World) (l : List UInt8) (p : Int) (e : Ending) (w' : World) : Prop := ∃ x ok, e = .returned (.tuple #[.int .i64 x, .bool ok]) ∧ RedIs l p x ok ∧ Ext w w'

set_option maxHeartbeats 2000000 in
set_option maxRecDepth 100000 in
theorem Reduce_any (s : ByteArray) (p : Int) (w : World) (hg : Glob w) (hok : ReadOk (bytes s)) : Calls Tryz.prog 25 #[.string s, .int .i64 p] w (RetRed w (bytes s) p) := by
  cases hp : prB p with
  | false =>
    have HP := Lib.hid (prB_false.1 hp)
    have H1 := fun w => isPrime_any p w
    rw [hp] at H1
    clear hp hg hok
    go_enter Tryz.func25, Tryz.ntmps25
    go_wp2_with (go_at_call 21; refine (H1 _).mono ?_; rintro e w' ⟨rfl, rfl⟩)
    go_ret2
    exact ⟨0, false, rfl, Or.inr ⟨rfl, rfl, Or.inl HP.out⟩, Fr.refl _ _⟩
  | true =>
    have hP := prB_true.1 hp
    have HP := Lib.hid hP
    have H1 := fun w => isPrime_any p w
    rw [hp] at H1
    obtain ⟨P, rfl⟩ := Int.eq_ofNat_of_zero_le (show 0 ≤ p by have := hP.1; omega)
    have hP2 : 2 ≤ P := by have := hP.1; omega
    have hPm : P ≤ 2147483647 := by have := hP.2.1; omega
    have HG := Lib.hid hg
    have HO := Lib.hid hok
    have q0 := wrapW P (by rw [W64_eq]; omega)
    clear hp hP hg hok
    go_enter Tryz.func25, Tryz.ntmps25
    go_wp2_with (go_at_call 21; refine (H1 _).mono ?_; rintro e w' ⟨rfl, rfl⟩)
    refine (Read_any s _ HG.out HO.out).mono ?_
    rintro e w1 ⟨v, ok, rfl, hF1, hR⟩
    have HF1 := Lib.hid hF1
    clear hF1
    rcases hR with ⟨rfl, q, hq, hI⟩ | ⟨rfl, hq, hI⟩
    · have hsm := readF_small hq HO.out.1
      obtain ⟨a, b, A, B, l, c, l', c', rfl, hn, hd⟩ := hI
      have HI : Hid (RatIs w1 (.agg #[.bool a, .slice A l c, .bool b, .slice B l' c']) q) := ⟨_, _, _, _, _, _, _, _, rfl, hn, hd⟩
      have HQ := Lib.hid hq
      have HSm := Lib.hid hsm
      clear hq hsm hn hd
      go_wp2_with fail
      generalize hwb : World.alloc w1 _ = wb
      obtain ⟨hB0, hE0⟩ := Blk.one hwb
      clear hwb
      obtain ⟨D, hD⟩ : ∃ D : Nat, ((q.den : Nat) : Int) % (P : Int) = (D : Int) := Int.eq_ofNat_of_zero_le (Int.emod_nonneg _ (by omega))
      have lD : D < P := by have := Int.emod_lt_of_pos (q.den : Int) (b := (P : Int)) (by omega); omega
      obtain ⟨M, hM⟩ : ∃ M : Nat, q.num % (P : Int) = (M : Int) := Int.eq_ofNat_of_zero_le (Int.emod_nonneg _ (by omega))
      have lM : M < P := by have := Int.emod_lt_of_pos q.num (b := (P : Int)) (by omega); omega
      refine (Den_any _ q _ (HI.out.ext hE0)).mono ?_
      rintro e w2 ⟨u2, rfl, hI2, hF2⟩
      obtain ⟨s2, B2, l2, c2, rfl⟩ := hI2.shape
      have HB := Lib.hid (hB0.ext hF2)
      have HE := Lib.hid (hE0.trans hF2)
      have HI2 := Lib.hid hI2
      clear hB0 hE0 hI2 hF2
      go_wp2_with fail
      refine (ModWord_any _ _ P _ HI2.out (by have := HSm.out.2; unfold Fits; rw [Int.natAbs_natCast]; omega) (by omega) (by rw [W64_eq]; omega)).mono ?_
      rw [hD]
      rintro e w3 ⟨rfl, hF3⟩
      have HB3 := Lib.hid (HB.out.ext hF3)
      have HE3 := Lib.hid (HE.out.trans hF3)
      have HDm := Lib.hid hD
      have HMm := Lib.hid hM
      clear hF3 HB HE hD hM
      by_cases h0 : D = 0
      · subst h0
        go_wp2
        go_ret2
        exact ⟨0, false, rfl, Or.inr ⟨rfl, rfl, Or.inr (Or.inr ⟨q, HQ.out, HDm.out⟩)⟩, HF1.out.trans HE3.out⟩
      · have hD0 : ((D : Int) == 0) = false := by simp; omega
        obtain ⟨y0, y1, y2, y3, y4⟩ := HB3.out.cell4
        go_wp2_with fail
        refine (Num_any _ q _ (HI.out.ext HE3.out)).mono ?_
        rintro e w4 ⟨u4, rfl, hI4, hF4⟩
        obtain ⟨s4, B4, l4, c4, rfl⟩ := hI4.shape
        have HI4 := Lib.hid hI4
        have HE4 := Lib.hid (HE3.out.trans hF4)
        clear hI4 hF4 HB3 HE3 y0 y1 y2 y3 y4
        go_wp2_with fail
        refine (ModWord_any _ _ P _ HI4.out (by have := HSm.out.1; unfold Fits; omega) (by omega) (by rw [W64_eq]; omega)).mono ?_
        rw [HMm.out]
        rintro e w5 ⟨rfl, hF5⟩
        have HE5 := Lib.hid (HE4.out.trans hF5)
        have cinv := fun w => Invert_any D P w lD hP2 hPm
        obtain ⟨iv, hiv⟩ : ∃ iv, invN D P = iv := ⟨_, rfl⟩
        have liv : iv < P := by rw [← hiv]; exact Nat.mod_lt _ (by omega)
        rw [hiv] at cinv
        obtain ⟨f, hf⟩ : ∃ f, M * iv % P = f := ⟨_, rfl⟩
        have lf : f < P := by rw [← hf]; exact Nat.mod_lt _ (by omega)
        have e5 : (IntKind.u64.wrap ((M : Int) * (iv : Int))).tmod (P : Int) = (f : Int) := by rw [mulmod_u64 lM liv hPm, hf]
        have f2 : IntKind.i64.wrap (f : Int) = (f : Int) := IntWalk.i64_in _ (by omega)
        have hp0 : ((P : Int) == 0) = false := by simp; omega
        have hp1 : P ≠ 0 := by omega
        have HFin : Hid (RedIs (bytes s) (P : Int) (f : Int) true) := Or.inl ⟨rfl, HP.out, q, HQ.out, by rw [HDm.out]; omega, by
          rw [HDm.out, HMm.out, show ((D : Int)).toNat = D by omega, show ((P : Int)).toNat = P by omega, hiv, ← Int.natCast_mul, ← Int.natCast_emod, hf]⟩
        clear hF5 hiv hf HE4
        go_wp2_with (go_at_call 51; refine (cinv _).mono ?_; rintro e w' ⟨rfl, rfl⟩)
        go_ret2
        exact ⟨f, true, rfl, HFin.out, HF1.out.trans HE5.out⟩
    · obtain ⟨a, b, A, B, l, c, l', c', rfl, hn, hd⟩ := hI
      have HQ := Lib.hid hq
      clear hq hn hd
      go_wp2
      go_ret2
      exact ⟨0, false, rfl, Or.inr ⟨rfl, rfl, Or.inr (Or.inl HQ.out)⟩, HF1.out.alloc _⟩
end Go.Proofs.YtndafmjcelgnbaaGreatDoor

namespace Go.Proofs.YtndafmjcelgnbaaGreatDoor
open Go.RowKit

set_option maxHeartbeats 2000000 in
set_option maxRecDepth 100000 in
theorem Quo_any (a b : Value) (x y : Int) (w : World) (ha : IntIs w a x) (hb : IntIs w b y) (hx : Fits x) (hy : wl y.natAbs < 80) (h0 : y ≠ 0) : Calls Tryz.prog 135 #[a, b] w (RetInt w (x.tdiv y)) := by
  obtain ⟨s, A, l, c, rfl⟩ := ha.shape
  obtain ⟨t, B, l', c', rfl⟩ := hb.shape
  have HA := Lib.hid ha
  have HB := Lib.hid hb
  have HX := Lib.hid hx
  have HY := Lib.hid hy
  have H0 := Lib.hid h0
  clear ha hb hx hy h0
  go_enter Tryz.func135, Tryz.ntmps135
  go_wp2_with fail
  generalize hwb : World.alloc (World.alloc (World.alloc w _) _) _ = wb
  obtain ⟨hB0, hB1, hB2, hE⟩ := three_blocks hwb
  clear hwb
  refine (IsOne_any _ y _ (HB.out.ext hE)).mono ?_
  by_cases h1 : y = 1
  · rw [decide_eq_true h1]
    rintro e w1 ⟨rfl, hF⟩
    have HE := Lib.hid (hE.trans hF)
    have HB0 := Lib.hid (hB0.ext hF)
    have HB2 := Lib.hid (hB2.ext hF)
    have HQ : Hid (x.tdiv y = x) := by unfold Hid; rw [h1]; exact Int.tdiv_one x
    obtain ⟨x0, x1, _, _⟩ := HB0.out.cell2
    obtain ⟨y0, y1, y2, y3⟩ := HB2.out.cell2
    clear hE hF hB0 hB1 hB2 h1
    go_wp2
    refine fin_int2 rfl rfl (by omega) HE.out HB2.out (Fr.refl _ _) ?_
    rw [HQ.out]; exact HA.out.ext HE.out
  · rw [decide_eq_false h1]
    rintro e w1 ⟨rfl, hF⟩
    have HE := Lib.hid (hE.trans hF)
    have HB0 := Lib.hid (hB0.ext hF)
    have HB1 := Lib.hid (hB1.ext hF)
    have HB2 := Lib.hid (hB2.ext hF)
    obtain ⟨x0, x1, _, _⟩ := HB0.out.cell2
    obtain ⟨z0, z1, _, _⟩ := HB1.out.cell2
    clear hE hF hB0 hB1 hB2 h1
    go_wp2_with fail
    refine (QuoRem_any _ _ x y _ (HA.out.ext HE.out) (HB.out.ext HE.out) HX.out HY.out H0.out).mono ?_
    rintro e w2 ⟨u1, u2, rfl, hN1, hN2, hF1⟩
    obtain ⟨s1, A1, l1, c1, rfl⟩ := hN1.shape
    obtain ⟨s2, A2, l2, c2, rfl⟩ := hN2.shape
    have HN1 := Lib.hid hN1
    have HE2 := Lib.hid (HE.out.trans hF1)
    have HB2' := Lib.hid (HB2.out.ext hF1)
    obtain ⟨y0, y1, y2, y3⟩ := HB2'.out.cell2
    have hlt1 := HB2'.out.lt
    have hlt2 := Nat.lt_succ_of_lt hlt1
    clear hN1 hN2 hF1 x0 x1 z0 z1
    go_wp2
    have hB := (HB2'.out.set_ 0 (.bool s1)).set_ 1 (.slice A1 l1 c1)
    refine bodyPost_ret (results_int rfl _ _ (w.heap.size + 1 + 1) _ _ rfl ((hB.alloc _).alloc _)) rfl ⟨_, rfl, ?_, (((HE2.out.setCell (Or.inr (by simp; omega)) _).setCell (Or.inr (by simp; omega)) _).alloc _).alloc _⟩
    exact (HN1.out.store2 HB2'.out).ext (((Fr.refl _ _).alloc _).alloc _)

theorem frac_blocks {t u : TypeId} {w wb : World} {x y z : Array Value} (h : ((w.alloc (.cells x t)).alloc (.cells y t)).alloc (.cells z u) = wb) :
    Blk t wb w.heap.size x ∧ Blk t wb (w.heap.size + 1) y ∧ Blk u wb (w.heap.size + 1 + 1) z ∧ Ext w wb := by
  obtain ⟨h0, h1, h2⟩ := two_blocks (t := t) (w := w) (x := x) (y := y) rfl
  subst h
  have e2 : ((w.alloc (.cells x t)).alloc (.cells y t)).heap.size = w.heap.size + 1 + 1 := by simp
  have h3 := Blk.new ((w.alloc (.cells x t)).alloc (.cells y t)) u z
  rw [e2] at h3
  exact ⟨h0.alloc _, h1.alloc _, h3, h2.alloc _⟩
theorem keepI3 {t t' t'' : TypeId} {w w' : World} {g g' g'' : Nat} {x y x' y' x'' y'' : Value} (h : Blk t w g #[x, y]) (h' : Blk t' w g' #[x', y']) (h'' : Blk t'' w g'' #[x'', y'']) (hF : Ext w w') :
    (w'.cell? ⟨g, 0, none⟩ = some x ∧ w'.cell? ⟨g, 1, none⟩ = some y) ∧ (w'.cell? ⟨g', 0, none⟩ = some x' ∧ w'.cell? ⟨g', 1, none⟩ = some y') ∧ (w'.cell? ⟨g'', 0, none⟩ = some x'' ∧ w'.cell? ⟨g'', 1, none⟩ = some y'') :=
  ⟨⟨(h.ext hF).cell 0, (h.ext hF).cell 1⟩, ⟨(h'.ext hF).cell 0, (h'.ext hF).cell 1⟩, ⟨(h''.ext hF).cell 0, (h''.ext hF).cell 1⟩⟩
theorem gcd_ne {x y : Int} (hy : 0 < y) : ((Int.gcd x y : Nat) : Int) ≠ 0 := by
  have : Int.gcd x y ≠ 0 := fun h => by rw [Int.gcd_eq_zero_iff] at h; omega
  omega
theorem gcd_wl {x y : Int} (hy : 0 < y) (h : wl y.natAbs < 80) : wl (((Int.gcd x y : Nat) : Int)).natAbs < 80 := by
  have h1 : Int.gcd x y ≤ y.natAbs := Nat.gcd_le_right _ (by omega)
  have := wl_mono h1
  rw [Int.natAbs_natCast]
  omega
theorem frac_gcd {x y : Int} (hy : 0 < y) : (Rat.divInt x y).num = x.tdiv (Int.gcd x y : Int) ∧ ((Rat.divInt x y).den : Int) = y.tdiv (Int.gcd x y : Int) := by
  have hd1 : (Int.gcd x y : Int) ∣ x := Int.gcd_dvd_left _ _
  have hd2 : (Int.gcd x y : Int) ∣ y := Int.gcd_dvd_right _ _
  rw [Rat.num_divInt, Rat.den_divInt, if_neg (by omega), Int.sign_eq_one_of_pos hy, Int.one_mul, Int.gcd_comm y x, Int.tdiv_eq_ediv_of_dvd hd1, Int.tdiv_eq_ediv_of_dvd hd2]
  refine ⟨rfl, ?_⟩
  rw [Int.natCast_ediv]
  congr 1
  omega
theorem frac_coprime {x y : Int} (hy : 0 < y) (h : ((Int.gcd x y : Nat) : Int) = 1) : (Rat.divInt x y).num = x ∧ ((Rat.divInt x y).den : Int) = y := by
  have := frac_gcd (x := x) hy
  rwa [h, Int.tdiv_one, Int.tdiv_one] at this
theorem frac_one {x y : Int} (h : y = 1) : (Rat.divInt x y).num = x ∧ denF (Rat.divInt x y) = 0 := by
  have h1 := frac_coprime (x := x) (y := y) (by omega) (by rw [h, Int.gcd_one]; rfl)
  refine ⟨h1.1, denF_zero.2 ?_⟩
  have := h1.2
  omega

set_option maxHeartbeats 4000000 in
set_option maxRecDepth 100000 in
theorem Fraction_pos (a b : Value) (x y : Int) (w : World) (hgl : Glob w) (ha : IntIs w a x) (hb : IntIs w b y) (hfx : Fits x) (hfy : Fits y) (hgk : GcdOk x y) (h80 : wl y.natAbs < 80) (hx0 : x ≠ 0) (hy : 0 < y) : Calls Tryz.prog 124 #[a, b] w (RetRat w (Rat.divInt x y)) := by
  obtain ⟨s, A, l, c, rfl⟩ := ha.shape
  obtain ⟨t, B, l', c', rfl⟩ := hb.shape
  have HA := Lib.hid ha
  have HB := Lib.hid hb
  have HGl := Lib.hid hgl
  have HFx := Lib.hid hfx
  have HFy := Lib.hid hfy
  have HGk := Lib.hid hgk
  have Hy80 := Lib.hid h80
  clear ha hb hfx hfy hgk h80 hgl
  go_enter Tryz.func124, Tryz.ntmps124
  go_wp2_with fail
  generalize hwb : World.alloc (World.alloc (World.alloc w _) _) _ = wb
  obtain ⟨hB0, hB1, hB2, hE⟩ := frac_blocks hwb
  have HX : Hid (IntAt wb w.heap.size x) := ⟨_, _, _, _, hB0, HA.out.ext hE⟩
  have HY : Hid (IntAt wb (w.heap.size + 1) y) := ⟨_, _, _, _, hB1, HB.out.ext hE⟩
  have HR := Lib.hid hB2
  have HE := Lib.hid hE
  have hrR : w.heap.size ≤ w.heap.size + 1 + 1 := by omega
  have hXY : w.heap.size ≠ w.heap.size + 1 := by omega
  have hXR : w.heap.size ≠ w.heap.size + 1 + 1 := by omega
  have hYR : w.heap.size + 1 ≠ w.heap.size + 1 + 1 := by omega
  have HB1 := Lib.hid (HB.out.ext hE)
  clear hwb hB0 hB1 hB2 hE HA HB
  generalize hRr : w.heap.size + 1 + 1 = Rr at *
  generalize hYy : w.heap.size + 1 = Y at *
  obtain ⟨X, hXx⟩ : ∃ X, w.heap.size = X := ⟨_, rfl⟩
  rw [hXx] at HX hXY hXR
  rw [hXx]
  refine (IsZero_any _ y _ HB1.out).mono ?_
  rw [decide_eq_false (show ¬ y = 0 by omega)]
  rintro e w1 ⟨rfl, hF⟩
  clear HB1
  replace HX := Lib.hid (HX.out.ext hF)
  replace HY := Lib.hid (HY.out.ext hF)
  replace HR := Lib.hid (HR.out.ext hF)
  replace HE := Lib.hid (HE.out.trans hF)
  clear hF
  obtain ⟨sx, Ax, lx, cx, hBx, hIx⟩ := HX.out
  obtain ⟨sy, Ay, ly, cy, hBy, hIy⟩ := HY.out
  obtain ⟨bx0, bx1, bx2, bx3⟩ := hBx.cell2
  obtain ⟨by0, by1, by2, by3⟩ := hBy.cell2
  have HIx := Lib.hid hIx
  have HIy := Lib.hid hIy
  have HBx := Lib.hid hBx
  have HBy := Lib.hid hBy
  clear hBx hBy hIx hIy
  go_wp2_with fail
  refine (IsZero_any _ x _ HIx.out).mono ?_
  rw [decide_eq_false hx0]
  rintro e w2 ⟨rfl, hF⟩
  clear bx0 bx1 bx2 bx3 by0 by1 by2 by3 HIx HIy HBx HBy
  replace HX := Lib.hid (HX.out.ext hF)
  replace HY := Lib.hid (HY.out.ext hF)
  replace HR := Lib.hid (HR.out.ext hF)
  replace HE := Lib.hid (HE.out.trans hF)
  clear hF
  obtain ⟨sx, Ax, lx, cx, hBx, hIx⟩ := HX.out
  obtain ⟨sy, Ay, ly, cy, hBy, hIy⟩ := HY.out
  obtain ⟨bx0, bx1, bx2, bx3⟩ := hBx.cell2
  obtain ⟨by0, by1, by2, by3⟩ := hBy.cell2
  have HIx := Lib.hid hIx
  have HIy := Lib.hid hIy
  have HBx := Lib.hid hBx
  have HBy := Lib.hid hBy
  clear hBx hBy hIx hIy
  go_wp2_with fail
  refine (Sign_any _ y _ HIy.out).mono ?_
  rw [Int.sign_eq_one_of_pos hy]
  rintro e w3 ⟨rfl, hF⟩
  clear bx0 bx1 bx2 bx3 by0 by1 by2 by3 HIx HIy HBx HBy
  replace HX := Lib.hid (HX.out.ext hF)
  replace HY := Lib.hid (HY.out.ext hF)
  replace HR := Lib.hid (HR.out.ext hF)
  replace HE := Lib.hid (HE.out.trans hF)
  clear hF
  have HG : Hid (Glob _) := HGl.out.ext HE.out
  obtain ⟨sx, Ax, lx, cx, hBx, hIx⟩ := HX.out
  obtain ⟨sy, Ay, ly, cy, hBy, hIy⟩ := HY.out
  obtain ⟨bx0, bx1, bx2, bx3⟩ := hBx.cell2
  obtain ⟨by0, by1, by2, by3⟩ := hBy.cell2
  have HIx := Lib.hid hIx
  have HIy := Lib.hid hIy
  have HBx := Lib.hid hBx
  have HBy := Lib.hid hBy
  clear hBx hBy hIx hIy
  go_wp2_with fail
  refine (IsOne_any _ y _ HIy.out).mono ?_
  by_cases h1 : y = 1
  · rw [decide_eq_true h1]
    rintro e wa ⟨rfl, hF⟩
    have HQ : Hid ((Rat.divInt x y).num = x ∧ denF (Rat.divInt x y) = 0) := frac_one h1
    clear bx0 bx1 bx2 bx3 by0 by1 by2 by3 HIx HIy HBx HBy
    replace HX := Lib.hid (HX.out.ext hF)
    replace HY := Lib.hid (HY.out.ext hF)
    replace HR := Lib.hid (HR.out.ext hF)
    replace HE := Lib.hid (HE.out.trans hF)
    clear hF
    obtain ⟨sx, Ax, lx, cx, hBx, hIx⟩ := HX.out
    obtain ⟨sy, Ay, ly, cy, hBy, hIy⟩ := HY.out
    obtain ⟨bx0, bx1, bx2, bx3⟩ := hBx.cell2
    obtain ⟨by0, by1, by2, by3⟩ := hBy.cell2
    have HIx := Lib.hid hIx
    have HIy := Lib.hid hIy
    have HBx := Lib.hid hBx
    have HBy := Lib.hid hBy
    clear hBx hBy hIx hIy
    obtain ⟨y0, y1, y2, y3, y4, y5, y6, y7⟩ := HR.out.cell4
    clear h1
    go_wp2
    refine fin_rat rfl rfl (HR.out.put4 _ _ _ _) ?_ ?_ (Fr.local_ HE.out (Fr.set4 _ _ _ _) hrR)
    · rw [HQ.out.1]; exact HIx.out.other HR.out noWords4 (Fr.set4 _ _ _ _)
    · rw [HQ.out.2]; exact IntIs.zero _
  · rw [decide_eq_false h1]
    rintro e wa ⟨rfl, hF⟩
    clear bx0 bx1 bx2 bx3 by0 by1 by2 by3 HIx HIy HBx HBy
    replace HX := Lib.hid (HX.out.ext hF)
    replace HY := Lib.hid (HY.out.ext hF)
    replace HR := Lib.hid (HR.out.ext hF)
    replace HE := Lib.hid (HE.out.trans hF)
    clear hF
    obtain ⟨sx, Ax, lx, cx, hBx, hIx⟩ := HX.out
    obtain ⟨sy, Ay, ly, cy, hBy, hIy⟩ := HY.out
    obtain ⟨bx0, bx1, bx2, bx3⟩ := hBx.cell2
    obtain ⟨by0, by1, by2, by3⟩ := hBy.cell2
    have HIx := Lib.hid hIx
    have HIy := Lib.hid hIy
    have HBx := Lib.hid hBx
    have HBy := Lib.hid hBy
    clear hBx hBy hIx hIy
    clear h1
    go_wp2_with fail
    refine (GCD_any _ _ x y _ (HGl.out.ext HE.out) HIx.out HIy.out HFx.out HFy.out HGk.out).mono ?_
    rintro e wg ⟨ug, rfl, hIg, hF⟩
    obtain ⟨sg_, Ag, lg, cg, rfl⟩ := hIg.shape
    have HIg := Lib.hid hIg
    clear hIg
    clear bx0 bx1 bx2 bx3 by0 by1 by2 by3 HIx HIy HBx HBy
    replace HX := Lib.hid (HX.out.ext hF)
    replace HY := Lib.hid (HY.out.ext hF)
    replace HR := Lib.hid (HR.out.ext hF)
    replace HE := Lib.hid (HE.out.trans hF)
    clear hF
    obtain ⟨sx, Ax, lx, cx, hBx, hIx⟩ := HX.out
    obtain ⟨sy, Ay, ly, cy, hBy, hIy⟩ := HY.out
    obtain ⟨bx0, bx1, bx2, bx3⟩ := hBx.cell2
    obtain ⟨by0, by1, by2, by3⟩ := hBy.cell2
    have HIx := Lib.hid hIx
    have HIy := Lib.hid hIy
    have HBx := Lib.hid hBx
    have HBy := Lib.hid hBy
    clear hBx hBy hIx hIy
    go_wp2_with fail
    generalize hwb : World.alloc wg _ = wh
    obtain ⟨hBg, hF⟩ := Blk.one hwb
    have HAg : Hid (IntAt wh wg.heap.size (Int.gcd x y : Int)) := ⟨_, _, _, _, hBg, HIg.out.ext hF⟩
    have hXg : X < wg.heap.size := HBx.out.lt
    have hYg : Y < wg.heap.size := HBy.out.lt
    have hRg : Rr < wg.heap.size := HR.out.lt
    generalize wg.heap.size = G at *
    replace HIg := Lib.hid (HIg.out.ext hF)
    clear hwb
    clear bx0 bx1 bx2 bx3 by0 by1 by2 by3 HIx HIy HBx HBy
    replace HX := Lib.hid (HX.out.ext hF)
    replace HY := Lib.hid (HY.out.ext hF)
    replace HR := Lib.hid (HR.out.ext hF)
    replace HE := Lib.hid (HE.out.trans hF)
    clear hF
    obtain ⟨sx, Ax, lx, cx, hBx, hIx⟩ := HX.out
    obtain ⟨sy, Ay, ly, cy, hBy, hIy⟩ := HY.out
    obtain ⟨bx0, bx1, bx2, bx3⟩ := hBx.cell2
    obtain ⟨by0, by1, by2, by3⟩ := hBy.cell2
    have HIx := Lib.hid hIx
    have HIy := Lib.hid hIy
    have HBx := Lib.hid hBx
    have HBy := Lib.hid hBy
    clear hBx hBy hIx hIy
    refine (IsOne_any _ _ _ HIg.out).mono ?_
    by_cases h2 : ((Int.gcd x y : Nat) : Int) = 1
    · rw [decide_eq_true h2]
      rintro e wi ⟨rfl, hF⟩
      have HQ : Hid ((Rat.divInt x y).num = x ∧ ((Rat.divInt x y).den : Int) = y) := frac_coprime hy h2
      clear h2 HAg HIg
      clear bx0 bx1 bx2 bx3 by0 by1 by2 by3 HIx HIy HBx HBy
      replace HX := Lib.hid (HX.out.ext hF)
      replace HY := Lib.hid (HY.out.ext hF)
      replace HR := Lib.hid (HR.out.ext hF)
      replace HE := Lib.hid (HE.out.trans hF)
      clear hF
      obtain ⟨sx, Ax, lx, cx, hBx, hIx⟩ := HX.out
      obtain ⟨sy, Ay, ly, cy, hBy, hIy⟩ := HY.out
      obtain ⟨bx0, bx1, bx2, bx3⟩ := hBx.cell2
      obtain ⟨by0, by1, by2, by3⟩ := hBy.cell2
      have HIx := Lib.hid hIx
      have HIy := Lib.hid hIy
      have HBx := Lib.hid hBx
      have HBy := Lib.hid hBy
      clear hBx hBy hIx hIy
      go_wp2_with fail
      refine (lowest_any _ _ x y (Rat.divInt x y) _ HIx.out HIy.out HQ.out).mono ?_
      rintro e wl_ ⟨ul, rfl, hRl, hF⟩
      obtain ⟨s, t, A, B, l, c, l', c', rfl, hIn, hId⟩ := hRl
      have HIn := Lib.hid hIn
      have HId := Lib.hid hId
      clear hIn hId
      clear bx0 bx1 bx2 bx3 by0 by1 by2 by3 HIx HIy HBx HBy
      replace HX := Lib.hid (HX.out.ext hF)
      replace HY := Lib.hid (HY.out.ext hF)
      replace HR := Lib.hid (HR.out.ext hF)
      replace HE := Lib.hid (HE.out.trans hF)
      clear hF
      obtain ⟨y0, y1, y2, y3, y4, y5, y6, y7⟩ := HR.out.cell4
      go_wp2
      exact fin_rat rfl rfl (HR.out.put4 _ _ _ _) (HIn.out.other HR.out noWords4 (Fr.set4 _ _ _ _)) (HId.out.other HR.out noWords4 (Fr.set4 _ _ _ _)) (Fr.local_ HE.out (Fr.set4 _ _ _ _) hrR)
    · rw [decide_eq_false h2]
      rintro e wi ⟨rfl, hF⟩
      have HQ : Hid ((Rat.divInt x y).num = x.tdiv (Int.gcd x y : Int) ∧ ((Rat.divInt x y).den : Int) = y.tdiv (Int.gcd x y : Int)) := frac_gcd hy
      have Hg0 : Hid (((Int.gcd x y : Nat) : Int) ≠ 0) := gcd_ne hy
      have Hg80 : Hid (wl (((Int.gcd x y : Nat) : Int)).natAbs < 80) := gcd_wl hy Hy80.out
      clear h2 HIg
      clear bx0 bx1 bx2 bx3 by0 by1 by2 by3 HIx HIy HBx HBy
      replace HX := Lib.hid (HX.out.ext hF)
      replace HY := Lib.hid (HY.out.ext hF)
      replace HR := Lib.hid (HR.out.ext hF)
      replace HAg := Lib.hid (HAg.out.ext hF)
      replace HE := Lib.hid (HE.out.trans hF)
      clear hF
      obtain ⟨sx, Ax, lx, cx, hBx, hIx⟩ := HX.out
      obtain ⟨sy, Ay, ly, cy, hBy, hIy⟩ := HY.out
      obtain ⟨bx0, bx1, bx2, bx3⟩ := hBx.cell2
      obtain ⟨by0, by1, by2, by3⟩ := hBy.cell2
      have HIx := Lib.hid hIx
      have HIy := Lib.hid hIy
      have HBx := Lib.hid hBx
      have HBy := Lib.hid hBy
      clear hBx hBy hIx hIy
      obtain ⟨sg_, Ag, lg, cg, hBg, hIg⟩ := HAg.out
      have HBg := Lib.hid hBg
      have HIg := Lib.hid hIg
      clear hBg hIg
      generalize ((Int.gcd x y : Nat) : Int) = g at *
      obtain ⟨x', hx'⟩ : ∃ x', x.tdiv g = x' := ⟨_, rfl⟩
      obtain ⟨y', hy'⟩ : ∃ y', y.tdiv g = y' := ⟨_, rfl⟩
      go_wp2_with fail
      refine wp_region_T 6 (fun w' => (w'.cell? ⟨X, 0, none⟩ = some (.bool sx) ∧ w'.cell? ⟨X, 1, none⟩ = some (.slice Ax lx cx)) ∧ (w'.cell? ⟨Y, 0, none⟩ = some (.bool sy) ∧ w'.cell? ⟨Y, 1, none⟩ = some (.slice Ay ly cy)) ∧ (w'.cell? ⟨G, 0, none⟩ = some (.bool sg_) ∧ w'.cell? ⟨G, 1, none⟩ = some (.slice Ag lg cg))) follows_mixed ?_
      refine wpT_take 0 rfl (by kernel_rfl) (fun _ _ _ h => h) (keepI3 HBx.out HBy.out HBg.out (Fr.refl _ _).drew) (fun _ => yields_int rfl rfl rfl (fun _ h => h.1)) (fun hS => ?_)
      refine wpT_take 1 rfl (by kernel_rfl) (fun _ _ _ h => h) hS (fun _ => yields_int rfl rfl rfl (fun _ h => h.2.2)) (fun hS => ?_)
      refine wpT_take 3 rfl (by kernel_rfl) (fun _ _ _ h => h) hS (fun _ => yields_int rfl rfl rfl (fun _ h => h.2.1)) (fun hS => ?_)
      refine wpT_take 4 rfl (by kernel_rfl) (fun _ _ _ h => h) hS (fun _ => yields_int rfl rfl rfl (fun _ h => h.2.2)) (fun hS => ?_)
      refine wpT_only 2 rfl (by kernel_rfl) rfl (fun K hK => ?_)
      go_simp
      refine (Quo_any _ _ x g _ (HIx.out.ext (Fr.refl _ _).drew) (HIg.out.ext (Fr.refl _ _).drew) HFx.out Hg80.out Hg0.out).mono ?_
      rw [hx']
      rintro e wq ⟨uq, rfl, hIq, hFq⟩
      obtain ⟨sq, Aq, lq, cq, rfl⟩ := hIq.shape
      replace hFq := Fr.undrew hFq
      refine hK _ _ (keepI3 HBx.out HBy.out HBg.out hFq) ?_
      refine wpT_only 5 rfl (by kernel_rfl) rfl (fun K hK => ?_)
      go_simp
      refine (Quo_any _ _ y g _ (HIy.out.ext hFq) (HIg.out.ext hFq) HFy.out Hg80.out Hg0.out).mono ?_
      rw [hy']
      rintro e wr ⟨ur, rfl, hIr, hFr⟩
      obtain ⟨sr, Ar, lr, cr, rfl⟩ := hIr.shape
      refine hK _ _ (keepI3 HBx.out HBy.out HBg.out (hFq.trans hFr)) ?_
      clear hK
      have hIq := hIq.ext hFr
      have hF := hFq.trans hFr
      have HIq := Lib.hid hIq
      have HIr := Lib.hid hIr
      have HQ' : Hid ((Rat.divInt x y).num = x' ∧ ((Rat.divInt x y).den : Int) = y') := by rw [Hid, ← hx', ← hy']; exact HQ.out
      clear hFq hFr hIr hIq hx' hy' HAg HIg HBg hS
      clear bx0 bx1 bx2 bx3 by0 by1 by2 by3 HIx HIy HBx HBy
      replace HX := Lib.hid (HX.out.ext hF)
      replace HY := Lib.hid (HY.out.ext hF)
      replace HR := Lib.hid (HR.out.ext hF)
      replace HE := Lib.hid (HE.out.trans hF)
      clear hF
      obtain ⟨sx, Ax, lx, cx, hBx, hIx⟩ := HX.out
      obtain ⟨sy, Ay, ly, cy, hBy, hIy⟩ := HY.out
      obtain ⟨bx0, bx1, bx2, bx3⟩ := hBx.cell2
      obtain ⟨by0, by1, by2, by3⟩ := hBy.cell2
      have HIx := Lib.hid hIx
      have HIy := Lib.hid hIy
      have HBx := Lib.hid hBx
      have HBy := Lib.hid hBy
      clear hBx hBy hIx hIy
      refine wpT_tail (l := [_, _]) 6 rfl (by kernel_rfl) ?_
      go_wp2_with fail
      have k1 := IntIs.away (a := .bool sq) (b := .slice Aq lq cq) HIq.out HX.out
      have k2 := IntIs.away (a := .bool sq) (b := .slice Aq lq cq) HIr.out HX.out
      have k3 := HX.out.put HIq.out
      have k4 := IntAt.away (a := .bool sq) (b := .slice Aq lq cq) HY.out HX.out (Ne.symm hXY)
      have k5 := HR.out.fr (Fr.set2 (r := X) (i := 0) (j := 1) (.bool sq) (.slice Aq lq cq)) (Ne.symm hXR)
      have k6 := Fr.local_ HE.out (Fr.set2 (r := X) (i := 0) (j := 1) (.bool sq) (.slice Aq lq cq)) (Nat.le_of_eq hXx)
      generalize World.setCell (World.setCell _ ⟨X, 0, none⟩ _) ⟨X, 1, none⟩ _ = wx at *
      have m1 := IntIs.away (a := .bool sr) (b := .slice Ar lr cr) k1 k4
      have m2 := IntIs.away (a := .bool sr) (b := .slice Ar lr cr) k2 k4
      have m5 := k5.fr (Fr.set2 (r := Y) (i := 0) (j := 1) (.bool sr) (.slice Ar lr cr)) (Ne.symm hYR)
      have m6 := Fr.local_ k6 (Fr.set2 (r := Y) (i := 0) (j := 1) (.bool sr) (.slice Ar lr cr)) (by omega)
      generalize World.setCell (World.setCell wx ⟨Y, 0, none⟩ _) ⟨Y, 1, none⟩ _ = wy at *
      have HR2 := Lib.hid m5
      have HE2 := Lib.hid m6
      refine (lowest_any _ _ x' y' (Rat.divInt x y) _ m1 m2 HQ'.out).mono ?_
      rintro e wl_ ⟨ul, rfl, hRl, hF⟩
      obtain ⟨s, t, A, B, l, c, l', c', rfl, hIn, hId⟩ := hRl
      have HIn := Lib.hid hIn
      have HId := Lib.hid hId
      have HR3 := Lib.hid (HR2.out.ext hF)
      have HE3 := Lib.hid (HE2.out.trans hF)
      clear hIn hId hF k1 k2 k3 k4 k5 k6 m1 m2 m5 m6
      obtain ⟨y0, y1, y2, y3, y4, y5, y6, y7⟩ := HR3.out.cell4
      go_wp2
      exact fin_rat rfl rfl (HR3.out.put4 _ _ _ _) (HIn.out.other HR3.out noWords4 (Fr.set4 _ _ _ _)) (HId.out.other HR3.out noWords4 (Fr.set4 _ _ _ _)) (Fr.local_ HE3.out (Fr.set4 _ _ _ _) hrR)

set_option maxHeartbeats 4000000 in
set_option maxRecDepth 100000 in
theorem Fraction_zero (a b : Value) (x y : Int) (w : World) (ha : IntIs w a x) (hb : IntIs w b y) (hx0 : x = 0) (hy : y ≠ 0) : Calls Tryz.prog 124 #[a, b] w (RetRat w 0) := by
  obtain ⟨s, A, l, c, rfl⟩ := ha.shape
  obtain ⟨t, B, l', c', rfl⟩ := hb.shape
  have HA := Lib.hid ha
  have HB := Lib.hid hb
  clear ha hb
  go_enter Tryz.func124, Tryz.ntmps124
  go_wp2_with fail
  generalize hwb : World.alloc (World.alloc (World.alloc w _) _) _ = wb
  obtain ⟨hB0, hB1, hB2, hE⟩ := frac_blocks hwb
  have HX : Hid (IntAt wb w.heap.size x) := ⟨_, _, _, _, hB0, HA.out.ext hE⟩
  have HY : Hid (IntAt wb (w.heap.size + 1) y) := ⟨_, _, _, _, hB1, HB.out.ext hE⟩
  have HR := Lib.hid hB2
  have HE := Lib.hid hE
  have HB1 := Lib.hid (HB.out.ext hE)
  clear hwb hB0 hB1 hB2 hE HA HB
  refine (IsZero_any _ y _ HB1.out).mono ?_
  rw [decide_eq_false hy]
  rintro e w1 ⟨rfl, hF⟩
  clear HB1
  replace HX := Lib.hid (HX.out.ext hF)
  replace HY := Lib.hid (HY.out.ext hF)
  replace HR := Lib.hid (HR.out.ext hF)
  replace HE := Lib.hid (HE.out.trans hF)
  clear hF
  obtain ⟨sx, Ax, lx, cx, hBx, hIx⟩ := HX.out
  obtain ⟨sy, Ay, ly, cy, hBy, hIy⟩ := HY.out
  obtain ⟨bx0, bx1, bx2, bx3⟩ := hBx.cell2
  obtain ⟨by0, by1, by2, by3⟩ := hBy.cell2
  have HIx := Lib.hid hIx
  have HIy := Lib.hid hIy
  have HBx := Lib.hid hBx
  have HBy := Lib.hid hBy
  clear hBx hBy hIx hIy
  go_wp2_with fail
  refine (IsZero_any _ x _ HIx.out).mono ?_
  rw [decide_eq_true hx0]
  rintro e w2 ⟨rfl, hF⟩
  clear bx0 bx1 bx2 bx3 by0 by1 by2 by3 HIx HIy HBx HBy
  replace HX := Lib.hid (HX.out.ext hF)
  replace HY := Lib.hid (HY.out.ext hF)
  replace HR := Lib.hid (HR.out.ext hF)
  replace HE := Lib.hid (HE.out.trans hF)
  clear hF
  obtain ⟨y0, y1, y2, y3, y4, y5, y6, y7⟩ := HR.out.cell4
  clear hx0 hy
  go_wp2
  exact fin_rat rfl rfl (HR.out.put4 _ _ _ _) (IntIs.zero _) (IntIs.zero _) (Fr.local_ HE.out (Fr.set4 _ _ _ _) (by omega))

set_option maxHeartbeats 4000000 in
set_option maxRecDepth 100000 in
theorem Fraction_neg (a b : Value) (xo yo x y : Int) (w : World) (hgl : Glob w) (ha : IntIs w a xo) (hb : IntIs w b yo) (hxo : -xo = x) (hyo : -yo = y) (hfx : Fits x) (hfy : Fits y) (hgk : GcdOk x y) (h80 : wl y.natAbs < 80) (hx0 : x ≠ 0) (hy : 0 < y) : Calls Tryz.prog 124 #[a, b] w (RetRat w (Rat.divInt x y)) := by
  obtain ⟨s, A, l, c, rfl⟩ := ha.shape
  obtain ⟨t, B, l', c', rfl⟩ := hb.shape
  have HA := Lib.hid ha
  have HB := Lib.hid hb
  have HGl := Lib.hid hgl
  have HFx := Lib.hid hfx
  have HFy := Lib.hid hfy
  have HGk := Lib.hid hgk
  have Hy80 := Lib.hid h80
  have Hxo := Lib.hid hxo
  have Hyo := Lib.hid hyo
  have hyn : yo < 0 := by omega
  have hxn : ¬ xo = 0 := by omega
  clear ha hb hfx hfy hgk h80 hgl hxo hyo
  go_enter Tryz.func124, Tryz.ntmps124
  go_wp2_with fail
  generalize hwb : World.alloc (World.alloc (World.alloc w _) _) _ = wb
  obtain ⟨hB0, hB1, hB2, hE⟩ := frac_blocks hwb
  have HX : Hid (IntAt wb w.heap.size xo) := ⟨_, _, _, _, hB0, HA.out.ext hE⟩
  have HY : Hid (IntAt wb (w.heap.size + 1) yo) := ⟨_, _, _, _, hB1, HB.out.ext hE⟩
  have HR := Lib.hid hB2
  have HE := Lib.hid hE
  have hrR : w.heap.size ≤ w.heap.size + 1 + 1 := by omega
  have hXY : w.heap.size ≠ w.heap.size + 1 := by omega
  have hXR : w.heap.size ≠ w.heap.size + 1 + 1 := by omega
  have hYR : w.heap.size + 1 ≠ w.heap.size + 1 + 1 := by omega
  have HB1 := Lib.hid (HB.out.ext hE)
  clear hwb hB0 hB1 hB2 hE HA HB
  generalize hRr : w.heap.size + 1 + 1 = Rr at *
  generalize hYy : w.heap.size + 1 = Y at *
  obtain ⟨X, hXx⟩ : ∃ X, w.heap.size = X := ⟨_, rfl⟩
  rw [hXx] at HX hXY hXR
  rw [hXx]
  refine (IsZero_any _ yo _ HB1.out).mono ?_
  rw [decide_eq_false (show ¬ yo = 0 by omega)]
  rintro e w1 ⟨rfl, hF⟩
  clear HB1
  replace HX := Lib.hid (HX.out.ext hF)
  replace HY := Lib.hid (HY.out.ext hF)
  replace HR := Lib.hid (HR.out.ext hF)
  replace HE := Lib.hid (HE.out.trans hF)
  clear hF
  obtain ⟨sx, Ax, lx, cx, hBx, hIx⟩ := HX.out
  obtain ⟨sy, Ay, ly, cy, hBy, hIy⟩ := HY.out
  obtain ⟨bx0, bx1, bx2, bx3⟩ := hBx.cell2
  obtain ⟨by0, by1, by2, by3⟩ := hBy.cell2
  have HIx := Lib.hid hIx
  have HIy := Lib.hid hIy
  have HBx := Lib.hid hBx
  have HBy := Lib.hid hBy
  clear hBx hBy hIx hIy
  go_wp2_with fail
  refine (IsZero_any _ xo _ HIx.out).mono ?_
  rw [decide_eq_false hxn]
  rintro e w2 ⟨rfl, hF⟩
  clear bx0 bx1 bx2 bx3 by0 by1 by2 by3 HIx HIy HBx HBy
  replace HX := Lib.hid (HX.out.ext hF)
  replace HY := Lib.hid (HY.out.ext hF)
  replace HR := Lib.hid (HR.out.ext hF)
  replace HE := Lib.hid (HE.out.trans hF)
  clear hF
  obtain ⟨sx, Ax, lx, cx, hBx, hIx⟩ := HX.out
  obtain ⟨sy, Ay, ly, cy, hBy, hIy⟩ := HY.out
  obtain ⟨bx0, bx1, bx2, bx3⟩ := hBx.cell2
  obtain ⟨by0, by1, by2, by3⟩ := hBy.cell2
  have HIx := Lib.hid hIx
  have HIy := Lib.hid hIy
  have HBx := Lib.hid hBx
  have HBy := Lib.hid hBy
  clear hBx hBy hIx hIy
  go_wp2_with fail
  refine (Sign_any _ yo _ HIy.out).mono ?_
  rw [Int.sign_eq_neg_one_of_neg hyn]
  rintro e w3 ⟨rfl, hF⟩
  clear bx0 bx1 bx2 bx3 by0 by1 by2 by3 HIx HIy HBx HBy
  replace HX := Lib.hid (HX.out.ext hF)
  replace HY := Lib.hid (HY.out.ext hF)
  replace HR := Lib.hid (HR.out.ext hF)
  replace HE := Lib.hid (HE.out.trans hF)
  clear hF
  obtain ⟨sx, Ax, lx, cx, hBx, hIx⟩ := HX.out
  obtain ⟨sy, Ay, ly, cy, hBy, hIy⟩ := HY.out
  obtain ⟨bx0, bx1, bx2, bx3⟩ := hBx.cell2
  obtain ⟨by0, by1, by2, by3⟩ := hBy.cell2
  have HIx := Lib.hid hIx
  have HIy := Lib.hid hIy
  have HBx := Lib.hid hBx
  have HBy := Lib.hid hBy
  clear hBx hBy hIx hIy
  go_wp2_with fail
  refine wp_region_T 4 (fun w' => (w'.cell? ⟨X, 0, none⟩ = some (.bool sx) ∧ w'.cell? ⟨X, 1, none⟩ = some (.slice Ax lx cx)) ∧ (w'.cell? ⟨Y, 0, none⟩ = some (.bool sy) ∧ w'.cell? ⟨Y, 1, none⟩ = some (.slice Ay ly cy))) follows_mixed ?_
  refine wpT_take 0 rfl (by kernel_rfl) (fun _ _ _ h => h) (keepI2 HBx.out HBy.out (Fr.refl _ _).drew) (fun _ => yields_int rfl rfl rfl (fun _ h => h.1)) (fun hS => ?_)
  refine wpT_take 2 rfl (by kernel_rfl) (fun _ _ _ h => h) hS (fun _ => yields_int rfl rfl rfl (fun _ h => h.2)) (fun hS => ?_)
  refine wpT_only 1 rfl (by kernel_rfl) rfl (fun K hK => ?_)
  go_simp
  refine (Neg_any _ xo _ (HIx.out.ext (Fr.refl _ _).drew)).mono ?_
  rw [Hxo.out]
  rintro e wq ⟨uq, rfl, hIq, hFq⟩
  obtain ⟨sq, Aq, lq, cq, rfl⟩ := hIq.shape
  replace hFq := Fr.undrew hFq
  refine hK _ _ (keepI2 HBx.out HBy.out hFq) ?_
  refine wpT_only 3 rfl (by kernel_rfl) rfl (fun K hK => ?_)
  go_simp
  refine (Neg_any _ yo _ (HIy.out.ext hFq)).mono ?_
  rw [Hyo.out]
  rintro e wr ⟨ur, rfl, hIr, hFr⟩
  obtain ⟨sr, Ar, lr, cr, rfl⟩ := hIr.shape
  refine hK _ _ (keepI2 HBx.out HBy.out (hFq.trans hFr)) ?_
  clear hK
  have hIq := hIq.ext hFr
  have hF := hFq.trans hFr
  have HIq := Lib.hid hIq
  have HIr := Lib.hid hIr
  clear hFq hFr hIr hIq hS
  clear bx0 bx1 bx2 bx3 by0 by1 by2 by3 HIx HIy HBx HBy
  replace HX := Lib.hid (HX.out.ext hF)
  replace HY := Lib.hid (HY.out.ext hF)
  replace HR := Lib.hid (HR.out.ext hF)
  replace HE := Lib.hid (HE.out.trans hF)
  clear hF
  obtain ⟨sx, Ax, lx, cx, hBx, hIx⟩ := HX.out
  obtain ⟨sy, Ay, ly, cy, hBy, hIy⟩ := HY.out
  obtain ⟨bx0, bx1, bx2, bx3⟩ := hBx.cell2
  obtain ⟨by0, by1, by2, by3⟩ := hBy.cell2
  have HIx := Lib.hid hIx
  have HIy := Lib.hid hIy
  have HBx := Lib.hid hBx
  have HBy := Lib.hid hBy
  clear hBx hBy hIx hIy
  refine wpT_tail (l := [_, _]) 4 rfl (by kernel_rfl) ?_
  go_wp2_with fail
  have k1 := IntIs.away (a := .bool sq) (b := .slice Aq lq cq) HIq.out HX.out
  have k2 := IntIs.away (a := .bool sq) (b := .slice Aq lq cq) HIr.out HX.out
  have k3 := HX.out.put HIq.out
  have k4 := IntAt.away (a := .bool sq) (b := .slice Aq lq cq) HY.out HX.out (Ne.symm hXY)
  have k5 := HR.out.fr (Fr.set2 (r := X) (i := 0) (j := 1) (.bool sq) (.slice Aq lq cq)) (Ne.symm hXR)
  have k6 := Fr.local_ HE.out (Fr.set2 (r := X) (i := 0) (j := 1) (.bool sq) (.slice Aq lq cq)) (Nat.le_of_eq hXx)
  generalize World.setCell (World.setCell _ ⟨X, 0, none⟩ _) ⟨X, 1, none⟩ _ = wx at *
  have m1 := IntIs.away (a := .bool sr) (b := .slice Ar lr cr) k1 k4
  have m3 := IntAt.away (a := .bool sr) (b := .slice Ar lr cr) k3 k4 hXY
  have m4 := k4.put k2
  have m2 := IntIs.away (a := .bool sr) (b := .slice Ar lr cr) k2 k4
  have m5 := k5.fr (Fr.set2 (r := Y) (i := 0) (j := 1) (.bool sr) (.slice Ar lr cr)) (Ne.symm hYR)
  have m6 := Fr.local_ k6 (Fr.set2 (r := Y) (i := 0) (j := 1) (.bool sr) (.slice Ar lr cr)) (by omega)
  generalize World.setCell (World.setCell wx ⟨Y, 0, none⟩ _) ⟨Y, 1, none⟩ _ = wy at *
  replace HX : Hid (IntAt wy X x) := m3
  replace HY : Hid (IntAt wy Y y) := m4
  replace HR := Lib.hid m5
  replace HE := Lib.hid m6
  refine (IsOne_any _ y _ m2).mono ?_
  clear k1 k2 k3 k4 k5 k6 m1 m2 m3 m4 m5 m6 HIq HIr
  clear bx0 bx1 bx2 bx3 by0 by1 by2 by3 HIx HIy HBx HBy
  obtain ⟨sx, Ax, lx, cx, hBx, hIx⟩ := HX.out
  obtain ⟨sy, Ay, ly, cy, hBy, hIy⟩ := HY.out
  obtain ⟨bx0, bx1, bx2, bx3⟩ := hBx.cell2
  obtain ⟨by0, by1, by2, by3⟩ := hBy.cell2
  have HIx := Lib.hid hIx
  have HIy := Lib.hid hIy
  have HBx := Lib.hid hBx
  have HBy := Lib.hid hBy
  clear hBx hBy hIx hIy
  have HG : Hid (Glob _) := HGl.out.ext HE.out
  by_cases h1 : y = 1
  · rw [decide_eq_true h1]
    rintro e wa ⟨rfl, hF⟩
    have HQ : Hid ((Rat.divInt x y).num = x ∧ denF (Rat.divInt x y) = 0) := frac_one h1
    clear bx0 bx1 bx2 bx3 by0 by1 by2 by3 HIx HIy HBx HBy
    replace HX := Lib.hid (HX.out.ext hF)
    replace HY := Lib.hid (HY.out.ext hF)
    replace HR := Lib.hid (HR.out.ext hF)
    replace HE := Lib.hid (HE.out.trans hF)
    clear hF
    obtain ⟨sx, Ax, lx, cx, hBx, hIx⟩ := HX.out
    obtain ⟨sy, Ay, ly, cy, hBy, hIy⟩ := HY.out
    obtain ⟨bx0, bx1, bx2, bx3⟩ := hBx.cell2
    obtain ⟨by0, by1, by2, by3⟩ := hBy.cell2
    have HIx := Lib.hid hIx
    have HIy := Lib.hid hIy
    have HBx := Lib.hid hBx
    have HBy := Lib.hid hBy
    clear hBx hBy hIx hIy
    obtain ⟨y0, y1, y2, y3, y4, y5, y6, y7⟩ := HR.out.cell4
    clear h1
    go_wp2
    refine fin_rat rfl rfl (HR.out.put4 _ _ _ _) ?_ ?_ (Fr.local_ HE.out (Fr.set4 _ _ _ _) hrR)
    · rw [HQ.out.1]; exact HIx.out.other HR.out noWords4 (Fr.set4 _ _ _ _)
    · rw [HQ.out.2]; exact IntIs.zero _
  · rw [decide_eq_false h1]
    rintro e wa ⟨rfl, hF⟩
    clear bx0 bx1 bx2 bx3 by0 by1 by2 by3 HIx HIy HBx HBy
    replace HX := Lib.hid (HX.out.ext hF)
    replace HY := Lib.hid (HY.out.ext hF)
    replace HR := Lib.hid (HR.out.ext hF)
    replace HE := Lib.hid (HE.out.trans hF)
    clear hF
    obtain ⟨sx, Ax, lx, cx, hBx, hIx⟩ := HX.out
    obtain ⟨sy, Ay, ly, cy, hBy, hIy⟩ := HY.out
    obtain ⟨bx0, bx1, bx2, bx3⟩ := hBx.cell2
    obtain ⟨by0, by1, by2, by3⟩ := hBy.cell2
    have HIx := Lib.hid hIx
    have HIy := Lib.hid hIy
    have HBx := Lib.hid hBx
    have HBy := Lib.hid hBy
    clear hBx hBy hIx hIy
    clear h1
    go_wp2_with fail
    refine (GCD_any _ _ x y _ (HGl.out.ext HE.out) HIx.out HIy.out HFx.out HFy.out HGk.out).mono ?_
    rintro e wg ⟨ug, rfl, hIg, hF⟩
    obtain ⟨sg_, Ag, lg, cg, rfl⟩ := hIg.shape
    have HIg := Lib.hid hIg
    clear hIg
    clear bx0 bx1 bx2 bx3 by0 by1 by2 by3 HIx HIy HBx HBy
    replace HX := Lib.hid (HX.out.ext hF)
    replace HY := Lib.hid (HY.out.ext hF)
    replace HR := Lib.hid (HR.out.ext hF)
    replace HE := Lib.hid (HE.out.trans hF)
    clear hF
    obtain ⟨sx, Ax, lx, cx, hBx, hIx⟩ := HX.out
    obtain ⟨sy, Ay, ly, cy, hBy, hIy⟩ := HY.out
    obtain ⟨bx0, bx1, bx2, bx3⟩ := hBx.cell2
    obtain ⟨by0, by1, by2, by3⟩ := hBy.cell2
    have HIx := Lib.hid hIx
    have HIy := Lib.hid hIy
    have HBx := Lib.hid hBx
    have HBy := Lib.hid hBy
    clear hBx hBy hIx hIy
    go_wp2_with fail
    generalize hwb : World.alloc wg _ = wh
    obtain ⟨hBg, hF⟩ := Blk.one hwb
    have HAg : Hid (IntAt wh wg.heap.size (Int.gcd x y : Int)) := ⟨_, _, _, _, hBg, HIg.out.ext hF⟩
    have hXg : X < wg.heap.size := HBx.out.lt
    have hYg : Y < wg.heap.size := HBy.out.lt
    have hRg : Rr < wg.heap.size := HR.out.lt
    generalize wg.heap.size = G at *
    replace HIg := Lib.hid (HIg.out.ext hF)
    clear hwb
    clear bx0 bx1 bx2 bx3 by0 by1 by2 by3 HIx HIy HBx HBy
    replace HX := Lib.hid (HX.out.ext hF)
    replace HY := Lib.hid (HY.out.ext hF)
    replace HR := Lib.hid (HR.out.ext hF)
    replace HE := Lib.hid (HE.out.trans hF)
    clear hF
    obtain ⟨sx, Ax, lx, cx, hBx, hIx⟩ := HX.out
    obtain ⟨sy, Ay, ly, cy, hBy, hIy⟩ := HY.out
    obtain ⟨bx0, bx1, bx2, bx3⟩ := hBx.cell2
    obtain ⟨by0, by1, by2, by3⟩ := hBy.cell2
    have HIx := Lib.hid hIx
    have HIy := Lib.hid hIy
    have HBx := Lib.hid hBx
    have HBy := Lib.hid hBy
    clear hBx hBy hIx hIy
    refine (IsOne_any _ _ _ HIg.out).mono ?_
    by_cases h2 : ((Int.gcd x y : Nat) : Int) = 1
    · rw [decide_eq_true h2]
      rintro e wi ⟨rfl, hF⟩
      have HQ : Hid ((Rat.divInt x y).num = x ∧ ((Rat.divInt x y).den : Int) = y) := frac_coprime hy h2
      clear h2 HAg HIg
      clear bx0 bx1 bx2 bx3 by0 by1 by2 by3 HIx HIy HBx HBy
      replace HX := Lib.hid (HX.out.ext hF)
      replace HY := Lib.hid (HY.out.ext hF)
      replace HR := Lib.hid (HR.out.ext hF)
      replace HE := Lib.hid (HE.out.trans hF)
      clear hF
      obtain ⟨sx, Ax, lx, cx, hBx, hIx⟩ := HX.out
      obtain ⟨sy, Ay, ly, cy, hBy, hIy⟩ := HY.out
      obtain ⟨bx0, bx1, bx2, bx3⟩ := hBx.cell2
      obtain ⟨by0, by1, by2, by3⟩ := hBy.cell2
      have HIx := Lib.hid hIx
      have HIy := Lib.hid hIy
      have HBx := Lib.hid hBx
      have HBy := Lib.hid hBy
      clear hBx hBy hIx hIy
      go_wp2_with fail
      refine (lowest_any _ _ x y (Rat.divInt x y) _ HIx.out HIy.out HQ.out).mono ?_
      rintro e wl_ ⟨ul, rfl, hRl, hF⟩
      obtain ⟨s, t, A, B, l, c, l', c', rfl, hIn, hId⟩ := hRl
      have HIn := Lib.hid hIn
      have HId := Lib.hid hId
      clear hIn hId
      clear bx0 bx1 bx2 bx3 by0 by1 by2 by3 HIx HIy HBx HBy
      replace HX := Lib.hid (HX.out.ext hF)
      replace HY := Lib.hid (HY.out.ext hF)
      replace HR := Lib.hid (HR.out.ext hF)
      replace HE := Lib.hid (HE.out.trans hF)
      clear hF
      obtain ⟨y0, y1, y2, y3, y4, y5, y6, y7⟩ := HR.out.cell4
      go_wp2
      exact fin_rat rfl rfl (HR.out.put4 _ _ _ _) (HIn.out.other HR.out noWords4 (Fr.set4 _ _ _ _)) (HId.out.other HR.out noWords4 (Fr.set4 _ _ _ _)) (Fr.local_ HE.out (Fr.set4 _ _ _ _) hrR)
    · rw [decide_eq_false h2]
      rintro e wi ⟨rfl, hF⟩
      have HQ : Hid ((Rat.divInt x y).num = x.tdiv (Int.gcd x y : Int) ∧ ((Rat.divInt x y).den : Int) = y.tdiv (Int.gcd x y : Int)) := frac_gcd hy
      have Hg0 : Hid (((Int.gcd x y : Nat) : Int) ≠ 0) := gcd_ne hy
      have Hg80 : Hid (wl (((Int.gcd x y : Nat) : Int)).natAbs < 80) := gcd_wl hy Hy80.out
      clear h2 HIg
      clear bx0 bx1 bx2 bx3 by0 by1 by2 by3 HIx HIy HBx HBy
      replace HX := Lib.hid (HX.out.ext hF)
      replace HY := Lib.hid (HY.out.ext hF)
      replace HR := Lib.hid (HR.out.ext hF)
      replace HAg := Lib.hid (HAg.out.ext hF)
      replace HE := Lib.hid (HE.out.trans hF)
      clear hF
      obtain ⟨sx, Ax, lx, cx, hBx, hIx⟩ := HX.out
      obtain ⟨sy, Ay, ly, cy, hBy, hIy⟩ := HY.out
      obtain ⟨bx0, bx1, bx2, bx3⟩ := hBx.cell2
      obtain ⟨by0, by1, by2, by3⟩ := hBy.cell2
      have HIx := Lib.hid hIx
      have HIy := Lib.hid hIy
      have HBx := Lib.hid hBx
      have HBy := Lib.hid hBy
      clear hBx hBy hIx hIy
      obtain ⟨sg_, Ag, lg, cg, hBg, hIg⟩ := HAg.out
      have HBg := Lib.hid hBg
      have HIg := Lib.hid hIg
      clear hBg hIg
      generalize ((Int.gcd x y : Nat) : Int) = g at *
      obtain ⟨x', hx'⟩ : ∃ x', x.tdiv g = x' := ⟨_, rfl⟩
      obtain ⟨y', hy'⟩ : ∃ y', y.tdiv g = y' := ⟨_, rfl⟩
      go_wp2_with fail
      refine wp_region_T 6 (fun w' => (w'.cell? ⟨X, 0, none⟩ = some (.bool sx) ∧ w'.cell? ⟨X, 1, none⟩ = some (.slice Ax lx cx)) ∧ (w'.cell? ⟨Y, 0, none⟩ = some (.bool sy) ∧ w'.cell? ⟨Y, 1, none⟩ = some (.slice Ay ly cy)) ∧ (w'.cell? ⟨G, 0, none⟩ = some (.bool sg_) ∧ w'.cell? ⟨G, 1, none⟩ = some (.slice Ag lg cg))) follows_mixed ?_
      refine wpT_take 0 rfl (by kernel_rfl) (fun _ _ _ h => h) (keepI3 HBx.out HBy.out HBg.out (Fr.refl _ _).drew) (fun _ => yields_int rfl rfl rfl (fun _ h => h.1)) (fun hS => ?_)
      refine wpT_take 1 rfl (by kernel_rfl) (fun _ _ _ h => h) hS (fun _ => yields_int rfl rfl rfl (fun _ h => h.2.2)) (fun hS => ?_)
      refine wpT_take 3 rfl (by kernel_rfl) (fun _ _ _ h => h) hS (fun _ => yields_int rfl rfl rfl (fun _ h => h.2.1)) (fun hS => ?_)
      refine wpT_take 4 rfl (by kernel_rfl) (fun _ _ _ h => h) hS (fun _ => yields_int rfl rfl rfl (fun _ h => h.2.2)) (fun hS => ?_)
      refine wpT_only 2 rfl (by kernel_rfl) rfl (fun K hK => ?_)
      go_simp
      refine (Quo_any _ _ x g _ (HIx.out.ext (Fr.refl _ _).drew) (HIg.out.ext (Fr.refl _ _).drew) HFx.out Hg80.out Hg0.out).mono ?_
      rw [hx']
      rintro e wq ⟨uq, rfl, hIq, hFq⟩
      obtain ⟨sq, Aq, lq, cq, rfl⟩ := hIq.shape
      replace hFq := Fr.undrew hFq
      refine hK _ _ (keepI3 HBx.out HBy.out HBg.out hFq) ?_
      refine wpT_only 5 rfl (by kernel_rfl) rfl (fun K hK => ?_)
      go_simp
      refine (Quo_any _ _ y g _ (HIy.out.ext hFq) (HIg.out.ext hFq) HFy.out Hg80.out Hg0.out).mono ?_
      rw [hy']
      rintro e wr ⟨ur, rfl, hIr, hFr⟩
      obtain ⟨sr, Ar, lr, cr, rfl⟩ := hIr.shape
      refine hK _ _ (keepI3 HBx.out HBy.out HBg.out (hFq.trans hFr)) ?_
      clear hK
      have hIq := hIq.ext hFr
      have hF := hFq.trans hFr
      have HIq := Lib.hid hIq
      have HIr := Lib.hid hIr
      have HQ' : Hid ((Rat.divInt x y).num = x' ∧ ((Rat.divInt x y).den : Int) = y') := by rw [Hid, ← hx', ← hy']; exact HQ.out
      clear hFq hFr hIr hIq hx' hy' HAg HIg HBg hS
      clear bx0 bx1 bx2 bx3 by0 by1 by2 by3 HIx HIy HBx HBy
      replace HX := Lib.hid (HX.out.ext hF)
      replace HY := Lib.hid (HY.out.ext hF)
      replace HR := Lib.hid (HR.out.ext hF)
      replace HE := Lib.hid (HE.out.trans hF)
      clear hF
      obtain ⟨sx, Ax, lx, cx, hBx, hIx⟩ := HX.out
      obtain ⟨sy, Ay, ly, cy, hBy, hIy⟩ := HY.out
      obtain ⟨bx0, bx1, bx2, bx3⟩ := hBx.cell2
      obtain ⟨by0, by1, by2, by3⟩ := hBy.cell2
      have HIx := Lib.hid hIx
      have HIy := Lib.hid hIy
      have HBx := Lib.hid hBx
      have HBy := Lib.hid hBy
      clear hBx hBy hIx hIy
      refine wpT_tail (l := [_, _]) 6 rfl (by kernel_rfl) ?_
      go_wp2_with fail
      have k1 := IntIs.away (a := .bool sq) (b := .slice Aq lq cq) HIq.out HX.out
      have k2 := IntIs.away (a := .bool sq) (b := .slice Aq lq cq) HIr.out HX.out
      have k3 := HX.out.put HIq.out
      have k4 := IntAt.away (a := .bool sq) (b := .slice Aq lq cq) HY.out HX.out (Ne.symm hXY)
      have k5 := HR.out.fr (Fr.set2 (r := X) (i := 0) (j := 1) (.bool sq) (.slice Aq lq cq)) (Ne.symm hXR)
      have k6 := Fr.local_ HE.out (Fr.set2 (r := X) (i := 0) (j := 1) (.bool sq) (.slice Aq lq cq)) (Nat.le_of_eq hXx)
      generalize World.setCell (World.setCell _ ⟨X, 0, none⟩ _) ⟨X, 1, none⟩ _ = wx at *
      have m1 := IntIs.away (a := .bool sr) (b := .slice Ar lr cr) k1 k4
      have m2 := IntIs.away (a := .bool sr) (b := .slice Ar lr cr) k2 k4
      have m5 := k5.fr (Fr.set2 (r := Y) (i := 0) (j := 1) (.bool sr) (.slice Ar lr cr)) (Ne.symm hYR)
      have m6 := Fr.local_ k6 (Fr.set2 (r := Y) (i := 0) (j := 1) (.bool sr) (.slice Ar lr cr)) (by omega)
      generalize World.setCell (World.setCell wx ⟨Y, 0, none⟩ _) ⟨Y, 1, none⟩ _ = wy at *
      have HR2 := Lib.hid m5
      have HE2 := Lib.hid m6
      refine (lowest_any _ _ x' y' (Rat.divInt x y) _ m1 m2 HQ'.out).mono ?_
      rintro e wl_ ⟨ul, rfl, hRl, hF⟩
      obtain ⟨s, t, A, B, l, c, l', c', rfl, hIn, hId⟩ := hRl
      have HIn := Lib.hid hIn
      have HId := Lib.hid hId
      have HR3 := Lib.hid (HR2.out.ext hF)
      have HE3 := Lib.hid (HE2.out.trans hF)
      clear hIn hId hF k1 k2 k3 k4 k5 k6 m1 m2 m5 m6
      obtain ⟨y0, y1, y2, y3, y4, y5, y6, y7⟩ := HR3.out.cell4
      go_wp2
      exact fin_rat rfl rfl (HR3.out.put4 _ _ _ _) (HIn.out.other HR3.out noWords4 (Fr.set4 _ _ _ _)) (HId.out.other HR3.out noWords4 (Fr.set4 _ _ _ _)) (Fr.local_ HE3.out (Fr.set4 _ _ _ _) hrR)

theorem Fraction_any (a b : Value) (x y : Int) (w : World) (hgl : Glob w) (ha : IntIs w a x) (hb : IntIs w b y) (hfx : Fits x) (hfy : Fits y) (hgk : GcdOk x y) (h80 : wl y.natAbs < 80) (hy : y ≠ 0) : Calls Tryz.prog 124 #[a, b] w (RetRat w (Rat.divInt x y)) := by
  by_cases hx : x = 0
  · have h := Fraction_zero a b x y w ha hb hx hy
    rwa [hx, Rat.zero_divInt]
  rcases Int.lt_or_le 0 y with h | h
  · exact Fraction_pos a b x y w hgl ha hb hfx hfy hgk h80 hx h
  · rw [← Rat.neg_divInt_neg]
    refine Fraction_neg a b x y (-x) (-y) w hgl ha hb rfl rfl ?_ ?_ ?_ ?_ (by omega) (by omega)
    · unfold Fits; rw [Int.natAbs_neg]; exact hfx
    · unfold Fits; rw [Int.natAbs_neg]; exact hfy
    · unfold GcdOk; rw [Int.natAbs_neg, Int.natAbs_neg]; exact hgk
    · rw [Int.natAbs_neg]; exact h80

end Go.Proofs.YtndafmjcelgnbaaGreatDoor

namespace Go.Proofs.YtndafmjcelgnbaaGreatDoor
open Go.RowKit

set_option maxHeartbeats 1000000 in
theorem compareInts_any (a b : Int) (w : World) : Calls Tryz.prog 86 #[.int .i64 a, .int .i64 b] w fun e w' => e = .returned (.int .i64 (cmpI a b)) ∧ w = w' := by
  rcases Int.lt_trichotomy a b with h | h | h
  · have HC : Hid (cmpI a b = -1) := by unfold Hid cmpI; rw [if_pos h]
    go_enter Tryz.func86, Tryz.ntmps86
    go_wp2
    go_ret
    exact ⟨by rw [HC.out]; rfl, rfl⟩
  · subst h
    have HC : Hid (cmpI a a = 0) := by unfold Hid cmpI; rw [if_neg (by omega), if_neg (by omega)]
    go_enter Tryz.func86, Tryz.ntmps86
    go_wp2
    go_ret
    exact ⟨by rw [HC.out]; rfl, rfl⟩
  · have HC : Hid (cmpI a b = 1) := by unfold Hid cmpI; rw [if_neg (by omega), if_pos h]
    have h' : ¬ a < b := by omega
    go_enter Tryz.func86, Tryz.ntmps86
    go_wp2
    go_ret
    exact ⟨by rw [HC.out]; rfl, rfl⟩

theorem keep8 {t : TypeId} {w w' : World} {g g' : Nat} {x y z u x' y' z' u' : Value} (h : Blk t w g #[x, y, z, u]) (h' : Blk t w g' #[x', y', z', u']) (hF : Ext w w') :
    w'.cell? ⟨g, 0, none⟩ = some x ∧ w'.cell? ⟨g, 1, none⟩ = some y ∧ w'.cell? ⟨g, 2, none⟩ = some z ∧ w'.cell? ⟨g, 3, none⟩ = some u ∧ w'.cell? ⟨g', 0, none⟩ = some x' ∧ w'.cell? ⟨g', 1, none⟩ = some y' ∧ w'.cell? ⟨g', 2, none⟩ = some z' ∧ w'.cell? ⟨g', 3, none⟩ = some u' :=
  ⟨(h.ext hF).cell 0, (h.ext hF).cell 1, (h.ext hF).cell 2, (h.ext hF).cell 3, (h'.ext hF).cell 0, (h'.ext hF).cell 1, (h'.ext hF).cell 2, (h'.ext hF).cell 3⟩

set_option maxHeartbeats 2000000 in
set_option maxRecDepth 100000 in
theorem RCompare_whole (a b : Value) (q q' : Rat) (w : World) (ha : RatIs w a q) (hb : RatIs w b q') (h1 : q.den = 1) (h1' : q'.den = 1) (hf : Fits q.num) (hf' : Fits q'.num) :
    Calls Tryz.prog 88 #[a, b] w (RetV w (.int .i64 (cmpI q.num q'.num))) := by
  obtain ⟨s, t, A, B, l, c, l', c', rfl, hn, hd⟩ := ha
  obtain ⟨s2, t2, A2, B2, l2, c2, l2', c2', rfl, hn2, hd2⟩ := hb
  rw [denF_zero.2 h1] at hd
  rw [denF_zero.2 h1'] at hd2
  have HN := Lib.hid hn
  have HD := Lib.hid hd
  have HN2 := Lib.hid hn2
  have HD2 := Lib.hid hd2
  have HF := Lib.hid hf
  have HF' := Lib.hid hf'
  generalize q.num = x at *
  generalize q'.num = y at *
  clear hn hd hn2 hd2 h1 h1' hf hf'
  go_enter Tryz.func88, Tryz.ntmps88
  go_wp2_with fail
  generalize hwb : World.alloc (World.alloc w _) _ = wb
  obtain ⟨hB0, hB1, hE⟩ := two_blocks hwb
  clear hwb
  have HB0 := Lib.hid hB0
  have HB1 := Lib.hid hB1
  have HE := Lib.hid hE
  have HZ := Lib.hid (fun W (hW : Ext wb W) => IsZero_any (.agg #[.bool t, .slice B l' c']) 0 W (HD.out.ext (HE.out.trans hW)))
  have HZ2 := Lib.hid (fun W (hW : Ext wb W) => IsZero_any (.agg #[.bool t2, .slice B2 l2' c2']) 0 W (HD2.out.ext (HE.out.trans hW)))
  rw [decide_eq_true rfl] at HZ HZ2
  clear hB0 hB1 hE
  obtain ⟨x0, x1, x2, x3, _⟩ := HB0.out.cell4
  obtain ⟨y0, y1, y2, y3, _⟩ := HB1.out.cell4
  go_region_with (first
      | (go_at_call 119
         ((with_reducible refine (HZ.out _ ?_).mono ?_); · exact (Fr.refl _ _).drew
          rintro e w1 ⟨rfl, hFx⟩
          obtain ⟨m0, m1, m2, m3, _⟩ := (HB0.out.ext (Fr.undrew hFx)).cell4
          obtain ⟨n0, n1, n2, n3, _⟩ := (HB1.out.ext (Fr.undrew hFx)).cell4))
      | (go_at_call 119
         ((with_reducible refine (HZ2.out _ ?_).mono ?_); · exact (Fr.refl _ _).drew.trans hFx
          rintro e w2 ⟨rfl, hFy⟩
          replace hFx := hFx.trans hFy
          clear m0 m1 m2 m3 n0 n1 n2 n3
          obtain ⟨m0, m1, m2, m3, _⟩ := (HB0.out.ext (Fr.undrew hFx)).cell4
          obtain ⟨n0, n1, n2, n3, _⟩ := (HB1.out.ext (Fr.undrew hFx)).cell4)))
  all_goals
    have HX := Lib.hid (Fr.undrew hFx)
    clear hFx
    try clear hFy
    go_wp2_with fail
    refine (Compare_any _ _ x y _ (HN.out.ext (HE.out.trans HX.out)) (HN2.out.ext (HE.out.trans HX.out)) HF.out HF'.out).mono ?_
    rintro e w3 ⟨rfl, hF3⟩
    have HF3 := Lib.hid hF3
    clear hF3
    go_wp2
    go_ret
    exact ⟨rfl, (HE.out.trans HX.out).trans HF3.out⟩

theorem wholeF {l : List UInt8} {z : Int} (h : readF l = some (z : Rat)) : valF l = (z : Rat) := by unfold valF; rw [h]; rfl
theorem fits_of_read {l : List UInt8} {z : Int} (h : readF l = some (z : Rat)) (hl : l.length ≤ 570) : Fits z := by
  have := (readF_small h hl).1
  unfold Fits
  exact Nat.le_trans this (by omega)

set_option maxHeartbeats 2000000 in
set_option maxRecDepth 100000 in
/-- Compare, for texts of whole numbers -/
theorem Compare_whole (s s' : ByteArray) (x y : Int) (w : World) (hg : Glob w) (hok : ReadOk (bytes s)) (hok' : ReadOk (bytes s')) (hx : readF (bytes s) = some (x : Rat)) (hy : readF (bytes s') = some (y : Rat)) :
    Calls Tryz.prog 37 #[.string s, .string s'] w (RetV w (.int .i64 (cmpI x y))) := by
  have hs : s.size ≤ 570 := by have := hok.1; rw [bytes_length] at this; exact this
  have hs' : s'.size ≤ 570 := by have := hok'.1; rw [bytes_length] at this; exact this
  have HG := Lib.hid hg
  have HO := Lib.hid hok
  have HO' := Lib.hid hok'
  have HX := Lib.hid hx
  have HY := Lib.hid hy
  clear hg hok hok' hx hy
  go_enter Tryz.func37, Tryz.ntmps37
  go_wp2_with fail
  refine (readTwo_any s s' _ (by omega) (by omega)).mono ?_
  rintro e w1 ⟨a, b, a', b', ok, rfl, hS, hF1⟩
  have HF1 := Lib.hid hF1
  clear hF1
  cases ok with
  | true =>
    obtain ⟨h1, h2⟩ := hS rfl
    obtain ⟨q, k1, rfl, rfl, _⟩ := h1.ok
    obtain ⟨q', k2, rfl, rfl, _⟩ := h2.ok
    have b1 := h1.ok
    have b2 := h2.ok
    rw [HX.out] at k1
    rw [HY.out] at k2
    injection k1 with k1
    injection k2 with k2
    subst k1 k2
    have e1 : ((x : Rat)).num = x := rfl
    have e2 : (((x : Rat)).den : Int) = 1 := rfl
    have e3 : ((y : Rat)).num = y := rfl
    have e4 : (((y : Rat)).den : Int) = 1 := rfl
    rw [e1, e2] at b1
    rw [e3, e4] at b2
    obtain ⟨_, _, _, _, b11, b12, _⟩ := b1
    obtain ⟨_, _, _, _, b21, b22, _⟩ := b2
    rw [e1, e2, e3, e4]
    clear e1 e2 e3 e4 hS h1 h2
    have HC := Lib.hid (fun W => compareInts_any x y W)
    go_wp2_with fail
    refine (HC.out _).mono ?_
    rintro e w2 ⟨rfl, rfl⟩
    go_wp2
    go_ret
    exact ⟨rfl, (HF1.out.alloc _).alloc _⟩
  | false =>
    clear hS
    go_wp2_with fail
    generalize hwb : World.alloc (World.alloc w1 _) _ = wb
    have hE : Ext w wb := hwb ▸ (HF1.out.alloc _).alloc _
    clear hwb HF1
    refine (value_any s _ (HG.out.ext hE) HO.out).mono ?_
    rw [wholeF HX.out]
    rintro e w2 ⟨v, rfl, hI, hF2⟩
    obtain ⟨sa, ta, A, B, l, c, l', c', rfl, hn, hd⟩ := hI
    have HI : Hid (RatIs w2 (.agg #[.bool sa, .slice A l c, .bool ta, .slice B l' c']) (x : Rat)) := ⟨_, _, _, _, _, _, _, _, rfl, hn, hd⟩
    have HE2 := Lib.hid (hE.trans hF2)
    clear hn hd hE hF2
    go_wp2_with fail
    refine (value_any s' _ (HG.out.ext HE2.out) HO'.out).mono ?_
    rw [wholeF HY.out]
    rintro e w3 ⟨v', rfl, hI', hF3⟩
    obtain ⟨sb, tb, A', B', k, d, k', d', rfl, hn, hd⟩ := hI'
    have HI' : Hid (RatIs w3 (.agg #[.bool sb, .slice A' k d, .bool tb, .slice B' k' d']) (y : Rat)) := ⟨_, _, _, _, _, _, _, _, rfl, hn, hd⟩
    have HI3 := Lib.hid (HI.out.ext hF3)
    have HE3 := Lib.hid (HE2.out.trans hF3)
    clear hn hd hF3 HI HE2
    go_wp2_with fail
    refine (RCompare_whole _ _ (x : Rat) (y : Rat) _ HI3.out HI'.out rfl rfl (fits_of_read HX.out HO.out.1) (fits_of_read HY.out HO'.out.1)).mono ?_
    rintro e w4 ⟨rfl, hF4⟩
    have HE4 := Lib.hid (HE3.out.trans hF4)
    clear hF4
    go_wp2
    go_ret
    exact ⟨rfl, HE4.out⟩
end Go.Proofs.YtndafmjcelgnbaaGreatDoor

namespace Go.Proofs.YtndafmjcelgnbaaGreatDoor
open Go.RowKit

/-- the result of a whole number has been stored -/
theorem fin_whole {fn : Func} {t : Tmp} {tmps : Array Value} {w w1 : World} {r : Nat} {x0 y0 z0 u0 : Value} {s : Bool} {A : Option Addr} {l c : Nat} {z : Int} (hres : fn.results = #[.cell t 80]) (ht : tmps[t]? = some (.pointer (some ⟨r, 0, none⟩)))
    (hB : Blk 80 w1 r #[x0, y0, z0, u0]) (hcs : NoWords #[x0, y0, z0, u0]) (hI : IntIs w1 (.agg #[.bool s, .slice A l c]) z) (hE : Ext w w1) (hr : w.heap.size ≤ r) :
    bodyPost Tryz.prog fn (RetRat w (z : Rat)) .ret ⟨tmps, []⟩ ((((w1.setCell ⟨r, 0, none⟩ (.bool s)).setCell ⟨r, 1, none⟩ (.slice A l c)).setCell ⟨r, 2, none⟩ (.bool false)).setCell ⟨r, 3, none⟩ (.slice none 0 0)) := by
  have hB2 := hB.put4 (.bool s) (.slice A l c) (.bool false) (.slice none 0 0)
  have hF2 : Fr (fun i => i = r) w1 ((((w1.setCell ⟨r, 0, none⟩ (.bool s)).setCell ⟨r, 1, none⟩ (.slice A l c)).setCell ⟨r, 2, none⟩ (.bool false)).setCell ⟨r, 3, none⟩ (.slice none 0 0)) := Fr.set4 _ _ _ _
  have h2 := (ratOf_int z).2
  refine fin_rat hres ht hB2 (hI.other hB hcs hF2) (by rw [h2]; exact IntIs.zero _) (Fr.local_ hE hF2 hr)

set_option maxHeartbeats 2000000 in
set_option maxRecDepth 100000 in
theorem RMul_whole (a b : Value) (x y : Int) (w : World) (ha : RatIs w a (x : Rat)) (hb : RatIs w b (y : Rat)) (hx : wl x.natAbs < 40) (hy : Fits y) :
    Calls Tryz.prog 93 #[a, b] w (RetRat w ((x * y : Int) : Rat)) := by
  obtain ⟨s, t, A, B, l, c, l', c', rfl, hn, hd⟩ := ha
  obtain ⟨s2, t2, A2, B2, l2, c2, l2', c2', rfl, hn2, hd2⟩ := hb
  rw [(ratOf_int x).2] at hd
  rw [(ratOf_int y).2] at hd2
  rw [(ratOf_int x).1] at hn
  rw [(ratOf_int y).1] at hn2
  have HN := Lib.hid hn
  have HD := Lib.hid hd
  have HN2 := Lib.hid hn2
  have HD2 := Lib.hid hd2
  have HX := Lib.hid hx
  have HY := Lib.hid hy
  clear hn hd hn2 hd2 hx hy
  go_enter Tryz.func93, Tryz.ntmps93
  go_wp2_with fail
  generalize hwb : World.alloc (World.alloc (World.alloc w _) _) _ = wb
  obtain ⟨hB0, hB1, hB2, hE⟩ := three_blocks hwb
  clear hwb
  refine (IsZero_any _ x _ (HN.out.ext hE)).mono ?_
  obtain ⟨bx, ebx⟩ : ∃ bx, decide (x = 0) = bx := ⟨_, rfl⟩
  rw [ebx]
  rintro e w1 ⟨rfl, hF1⟩
  replace hB0 := hB0.ext hF1
  replace hB1 := hB1.ext hF1
  replace hB2 := hB2.ext hF1
  replace hE := hE.trans hF1
  clear hF1
  cases bx with
  | true =>
    have hx0 : x = 0 := of_decide_eq_true ebx
    have HB2 := Lib.hid hB2
    have HE := Lib.hid hE
    have HQ : Hid (x * y = 0) := by unfold Hid; rw [hx0, Int.zero_mul]
    obtain ⟨z0, z1, z2, z3, z4, z5, z6, z7⟩ := hB2.cell4
    clear hB0 hB1 hB2 hE hx0 ebx
    go_wp2
    exact fin_whole (w := w) rfl rfl HB2.out noWords4 (by rw [HQ.out]; exact IntIs.zero _) HE.out (by omega)
  | false =>
    obtain ⟨y0, y1, y2, y3, _⟩ := hB1.cell4
    have HB0 := Lib.hid hB0
    have HB1 := Lib.hid hB1
    have HB2 := Lib.hid hB2
    have HE := Lib.hid hE
    clear hB0 hB1 hB2 hE ebx
    go_wp2_with fail
    refine (IsZero_any _ y _ (HN2.out.ext HE.out)).mono ?_
    obtain ⟨bY, ebY⟩ : ∃ bY, decide (y = 0) = bY := ⟨_, rfl⟩
    rw [ebY]
    rintro e w2 ⟨rfl, hF2⟩
    replace HB0 := Lib.hid (HB0.out.ext hF2)
    replace HB1 := Lib.hid (HB1.out.ext hF2)
    replace HB2 := Lib.hid (HB2.out.ext hF2)
    replace HE := Lib.hid (HE.out.trans hF2)
    clear hF2 y0 y1 y2 y3
    cases bY with
    | true =>
      have hy0 : y = 0 := of_decide_eq_true ebY
      have HQ : Hid (x * y = 0) := by unfold Hid; rw [hy0, Int.mul_zero]
      obtain ⟨z0, z1, z2, z3, z4, z5, z6, z7⟩ := HB2.out.cell4
      clear hy0 ebY
      go_wp2
      exact fin_whole (w := w) rfl rfl HB2.out noWords4 (by rw [HQ.out]; exact IntIs.zero _) HE.out (by omega)
    | false =>
      clear ebY
      obtain ⟨x0, x1, x2, x3, _⟩ := HB0.out.cell4
      go_wp2_with fail
      refine (IsZero_any _ 0 _ (HD.out.ext HE.out)).mono ?_
      rw [decide_eq_true rfl]
      rintro e w3 ⟨rfl, hF3⟩
      replace HB0 := Lib.hid (HB0.out.ext hF3)
      replace HB1 := Lib.hid (HB1.out.ext hF3)
      replace HB2 := Lib.hid (HB2.out.ext hF3)
      replace HE := Lib.hid (HE.out.trans hF3)
      clear hF3 x0 x1 x2 x3
      obtain ⟨y0, y1, y2, y3, _⟩ := HB1.out.cell4
      go_wp2_with fail
      refine (IsZero_any _ 0 _ (HD2.out.ext HE.out)).mono ?_
      rw [decide_eq_true rfl]
      rintro e w4 ⟨rfl, hF4⟩
      replace HB0 := Lib.hid (HB0.out.ext hF4)
      replace HB1 := Lib.hid (HB1.out.ext hF4)
      replace HB2 := Lib.hid (HB2.out.ext hF4)
      replace HE := Lib.hid (HE.out.trans hF4)
      clear hF4 y0 y1 y2 y3
      obtain ⟨x0, x1, x2, x3, _⟩ := HB0.out.cell4
      obtain ⟨y0, y1, y2, y3, _⟩ := HB1.out.cell4
      go_wp2_with fail
      refine (Mul_any _ _ x y _ (HN.out.ext HE.out) (HN2.out.ext HE.out) (by have := HX.out; unfold Fits; omega) HY.out (Or.inl HX.out)).mono ?_
      rintro e w5 ⟨u, rfl, hI, hF5⟩
      obtain ⟨sM, AM, lM, cM, rfl⟩ := hI.shape
      replace HB2 := Lib.hid (HB2.out.ext hF5)
      replace HE := Lib.hid (HE.out.trans hF5)
      have HI := Lib.hid hI
      clear hF5 hI x0 x1 x2 x3 y0 y1 y2 y3
      obtain ⟨z0, z1, z2, z3, z4, z5, z6, z7⟩ := HB2.out.cell4
      go_wp2
      exact fin_whole (w := w) rfl rfl HB2.out noWords4 HI.out HE.out (by omega)

set_option maxHeartbeats 2000000 in
set_option maxRecDepth 100000 in
theorem RAdd_whole (a b : Value) (x y : Int) (w : World) (ha : RatIs w a (x : Rat)) (hb : RatIs w b (y : Rat)) (hx : Fits x) (hy : Fits y) :
    Calls Tryz.prog 91 #[a, b] w (RetRat w ((x + y : Int) : Rat)) := by
  obtain ⟨s, t, A, B, l, c, l', c', rfl, hn, hd⟩ := ha
  obtain ⟨s2, t2, A2, B2, l2, c2, l2', c2', rfl, hn2, hd2⟩ := hb
  rw [(ratOf_int x).2] at hd
  rw [(ratOf_int y).2] at hd2
  rw [(ratOf_int x).1] at hn
  rw [(ratOf_int y).1] at hn2
  have HN := Lib.hid hn
  have HD := Lib.hid hd
  have HN2 := Lib.hid hn2
  have HD2 := Lib.hid hd2
  have HX := Lib.hid hx
  have HY := Lib.hid hy
  clear hn hd hn2 hd2 hx hy
  go_enter Tryz.func91, Tryz.ntmps91
  go_wp2_with fail
  generalize hwb : World.alloc (World.alloc (World.alloc w _) _) _ = wb
  obtain ⟨hB0, hB1, hB2, hE⟩ := three_blocks hwb
  clear hwb
  refine (IsZero_any _ 0 _ (HD.out.ext hE)).mono ?_
  rw [decide_eq_true rfl]
  rintro e w1 ⟨rfl, hF1⟩
  have HB0 := Lib.hid (hB0.ext hF1)
  have HB1 := Lib.hid (hB1.ext hF1)
  have HB2 := Lib.hid (hB2.ext hF1)
  have HE := Lib.hid (hE.trans hF1)
  clear hF1 hB0 hB1 hB2 hE
  obtain ⟨y0, y1, y2, y3, _⟩ := HB1.out.cell4
  go_wp2_with fail
  refine (IsZero_any _ 0 _ (HD2.out.ext HE.out)).mono ?_
  rw [decide_eq_true rfl]
  rintro e w4 ⟨rfl, hF4⟩
  replace HB0 := Lib.hid (HB0.out.ext hF4)
  replace HB1 := Lib.hid (HB1.out.ext hF4)
  replace HB2 := Lib.hid (HB2.out.ext hF4)
  replace HE := Lib.hid (HE.out.trans hF4)
  clear hF4 y0 y1 y2 y3
  obtain ⟨x0, x1, x2, x3, _⟩ := HB0.out.cell4
  obtain ⟨y0, y1, y2, y3, _⟩ := HB1.out.cell4
  go_wp2_with fail
  refine (Add_any _ _ x y _ (HN.out.ext HE.out) (HN2.out.ext HE.out) HX.out HY.out).mono ?_
  rintro e w5 ⟨u, rfl, hI, hF5⟩
  obtain ⟨sM, AM, lM, cM, rfl⟩ := hI.shape
  replace HB2 := Lib.hid (HB2.out.ext hF5)
  replace HE := Lib.hid (HE.out.trans hF5)
  have HI := Lib.hid hI
  clear hF5 hI x0 x1 x2 x3 y0 y1 y2 y3
  obtain ⟨z0, z1, z2, z3, z4, z5, z6, z7⟩ := HB2.out.cell4
  go_wp2
  exact fin_whole (w := w) rfl rfl HB2.out noWords4 HI.out HE.out (by omega)
end Go.Proofs.YtndafmjcelgnbaaGreatDoor

namespace Go.Proofs.YtndafmjcelgnbaaGreatDoor
open Go.RowKit

theorem mul_small {x y : Int} (h1 : -1000000000 < x) (h2 : x < 1000000000) (h3 : -1000000000 < y) (h4 : y < 1000000000) : -1000000000000000000 ≤ x * y ∧ x * y ≤ 1000000000000000000 := by
  have h5 : x.natAbs * y.natAbs ≤ 1000000000 * 1000000000 := Nat.mul_le_mul (by omega) (by omega)
  rw [← Int.natAbs_mul] at h5
  omega
/-- the parts of a short whole number -/
theorem ShortIs.whole {l : List UInt8} {a b x : Int} (h : ShortIs l a b true) (hx : readF l = some (x : Rat)) : a = x ∧ b = 1 ∧ -1000000000 < x ∧ x < 1000000000 := by
  obtain ⟨q, k1, k2, k3, k4, k5, _⟩ := h.ok
  rw [hx] at k1
  injection k1 with k1
  subst k1
  have e1 : ((x : Rat)).num = x := rfl
  have e2 : (((x : Rat)).den : Int) = 1 := rfl
  rw [e1] at k2
  rw [e2] at k3
  exact ⟨k2.symm, k3.symm, by omega, by omega⟩

set_option maxHeartbeats 2000000 in
set_option maxRecDepth 100000 in
theorem TMul_whole (s s' : ByteArray) (x y : Int) (w : World) (hg : Glob w) (hok : ReadOk (bytes s)) (hok' : ReadOk (bytes s')) (hx : readF (bytes s) = some (x : Rat)) (hy : readF (bytes s') = some (y : Rat)) :
    Calls Tryz.prog 43 #[.string s, .string s'] w (RetV w (.string ⟨(Lib.itoa (x * y)).toArray⟩)) := by
  have hs : s.size ≤ 570 := by have := hok.1; rw [bytes_length] at this; exact this
  have hs' : s'.size ≤ 570 := by have := hok'.1; rw [bytes_length] at this; exact this
  have hsx := (readF_small hx hok.1).1
  have hsy := (readF_small hy hok'.1).1
  rw [(ratOf_int x).1] at hsx
  rw [(ratOf_int y).1] at hsy
  have HPO : Hid (PrtOk (x * y).natAbs) := by
    have h1 := wl_mul x.natAbs y.natAbs
    unfold Hid PrtOk; rw [Int.natAbs_mul]; omega
  have HSx := Lib.hid hsx
  have HSy := Lib.hid hsy
  have HG := Lib.hid hg
  have HO := Lib.hid hok
  have HO' := Lib.hid hok'
  have HX := Lib.hid hx
  have HY := Lib.hid hy
  obtain ⟨txt, HT⟩ : ∃ txt, Hid (Lib.itoa (x * y) = txt) := ⟨_, rfl⟩
  rw [HT.out]
  clear hg hok hok' hx hy hsx hsy
  go_enter Tryz.func43, Tryz.ntmps43
  go_wp2_with fail
  refine (readTwo_any s s' _ (by omega) (by omega)).mono ?_
  rintro e w1 ⟨a, b, a', b', ok, rfl, hS, hF1⟩
  have HF1 := Lib.hid hF1
  clear hF1
  cases ok with
  | true =>
    obtain ⟨h1, h2⟩ := hS rfl
    obtain ⟨rfl, rfl, b1, b2⟩ := h1.whole HX.out
    obtain ⟨rfl, rfl, b3, b4⟩ := h2.whole HY.out
    obtain ⟨m1, m2⟩ := mul_small b1 b2 b3 b4
    have hw : IntKind.i64.wrap (a * a') = a * a' := IntWalk.i64_in _ (by omega)
    have HC := Lib.hid (fun W hW => formatShort_one (a * a') W hW (by omega) (by omega))
    rw [HT.out] at HC
    clear hS h1 h2
    go_wp2_with fail
    refine (HC.out _ (HG.out.ext ((HF1.out.alloc _).alloc _))).mono ?_
    rintro e w2 ⟨rfl, hF2⟩
    have HF2 := Lib.hid (((HF1.out.alloc _).alloc _).trans hF2)
    clear hF2
    go_wp2
    go_ret
    exact ⟨rfl, HF2.out⟩
  | false =>
    clear hS
    go_wp2_with fail
    generalize hwb : World.alloc (World.alloc w1 _) _ = wb
    have hE : Ext w wb := hwb ▸ (HF1.out.alloc _).alloc _
    clear hwb HF1
    refine (value_any s _ (HG.out.ext hE) HO.out).mono ?_
    rw [wholeF HX.out]
    rintro e w2 ⟨v, rfl, hI, hF2⟩
    obtain ⟨sa, ta, A, B, l, c, l', c', rfl, hn, hd⟩ := hI
    have HI : Hid (RatIs w2 (.agg #[.bool sa, .slice A l c, .bool ta, .slice B l' c']) (x : Rat)) := ⟨_, _, _, _, _, _, _, _, rfl, hn, hd⟩
    have HE2 := Lib.hid (hE.trans hF2)
    clear hn hd hE hF2
    go_wp2_with fail
    refine (value_any s' _ (HG.out.ext HE2.out) HO'.out).mono ?_
    rw [wholeF HY.out]
    rintro e w3 ⟨v', rfl, hI', hF3⟩
    obtain ⟨sb, tb, A', B', k, d, k', d', rfl, hn, hd⟩ := hI'
    have HI' : Hid (RatIs w3 (.agg #[.bool sb, .slice A' k d, .bool tb, .slice B' k' d']) (y : Rat)) := ⟨_, _, _, _, _, _, _, _, rfl, hn, hd⟩
    have HI3 := Lib.hid (HI.out.ext hF3)
    have HE3 := Lib.hid (HE2.out.trans hF3)
    clear hn hd hF3 HI HE2
    go_wp2_with fail
    refine (RMul_whole _ _ x y _ HI3.out HI'.out (by have := HSx.out; omega) (by have := HSy.out; unfold Fits; omega)).mono ?_
    rintro e w4 ⟨v4, rfl, hI4, hF4⟩
    have HS4 := Lib.hid (RString_whole v4 _ w4 (HG.out.ext (HE3.out.trans hF4)) hI4 rfl (by show PrtOk (x * y).natAbs; exact HPO.out))
    obtain ⟨sc, tc, A4, B4, l4, c4, l4', c4', rfl, hn, hd⟩ := hI4
    have HE4 := Lib.hid (HE3.out.trans hF4)
    rw [(ratOf_int (x * y)).1, HT.out] at HS4
    clear hn hd hF4 HE3 HI3 HI'
    go_wp2_with fail
    refine HS4.out.mono ?_
    rintro e w5 ⟨rfl, hF5⟩
    have HE5 := Lib.hid (HE4.out.trans hF5)
    clear hF5
    go_wp2
    go_ret
    exact ⟨rfl, HE5.out⟩

set_option maxHeartbeats 2000000 in
set_option maxRecDepth 100000 in
theorem TAdd_whole (s s' : ByteArray) (x y : Int) (w : World) (hg : Glob w) (hok : ReadOk (bytes s)) (hok' : ReadOk (bytes s')) (hx : readF (bytes s) = some (x : Rat)) (hy : readF (bytes s') = some (y : Rat)) :
    Calls Tryz.prog 41 #[.string s, .string s'] w (RetV w (.string ⟨(Lib.itoa (x + y)).toArray⟩)) := by
  have hs : s.size ≤ 570 := by have := hok.1; rw [bytes_length] at this; exact this
  have hs' : s'.size ≤ 570 := by have := hok'.1; rw [bytes_length] at this; exact this
  have hsx := (readF_small hx hok.1).1
  have hsy := (readF_small hy hok'.1).1
  rw [(ratOf_int x).1] at hsx
  rw [(ratOf_int y).1] at hsy
  have HPO : Hid (PrtOk (x + y).natAbs) := by
    have h1 := wl_add hsx hsy
    have h2 : wl (x + y).natAbs ≤ wl (x.natAbs + y.natAbs) := wl_mono (by omega)
    unfold Hid PrtOk; omega
  have HSx := Lib.hid hsx
  have HSy := Lib.hid hsy
  have HG := Lib.hid hg
  have HO := Lib.hid hok
  have HO' := Lib.hid hok'
  have HX := Lib.hid hx
  have HY := Lib.hid hy
  obtain ⟨txt, HT⟩ : ∃ txt, Hid (Lib.itoa (x + y) = txt) := ⟨_, rfl⟩
  rw [HT.out]
  clear hg hok hok' hx hy hsx hsy
  go_enter Tryz.func41, Tryz.ntmps41
  go_wp2_with fail
  refine (readTwo_any s s' _ (by omega) (by omega)).mono ?_
  rintro e w1 ⟨a, b, a', b', ok, rfl, hS, hF1⟩
  have HF1 := Lib.hid hF1
  clear hF1
  cases ok with
  | true =>
    obtain ⟨h1, h2⟩ := hS rfl
    obtain ⟨rfl, rfl, b1, b2⟩ := h1.whole HX.out
    obtain ⟨rfl, rfl, b3, b4⟩ := h2.whole HY.out

    have HC := Lib.hid (fun W hW => formatShort_one (a + a') W hW (by omega) (by omega))
    rw [HT.out] at HC
    clear hS h1 h2
    go_wp2_with fail
    refine (HC.out _ (HG.out.ext ((HF1.out.alloc _).alloc _))).mono ?_
    rintro e w2 ⟨rfl, hF2⟩
    have HF2 := Lib.hid (((HF1.out.alloc _).alloc _).trans hF2)
    clear hF2
    go_wp2
    go_ret
    exact ⟨rfl, HF2.out⟩
  | false =>
    clear hS
    go_wp2_with fail
    generalize hwb : World.alloc (World.alloc w1 _) _ = wb
    have hE : Ext w wb := hwb ▸ (HF1.out.alloc _).alloc _
    clear hwb HF1
    refine (value_any s _ (HG.out.ext hE) HO.out).mono ?_
    rw [wholeF HX.out]
    rintro e w2 ⟨v, rfl, hI, hF2⟩
    obtain ⟨sa, ta, A, B, l, c, l', c', rfl, hn, hd⟩ := hI
    have HI : Hid (RatIs w2 (.agg #[.bool sa, .slice A l c, .bool ta, .slice B l' c']) (x : Rat)) := ⟨_, _, _, _, _, _, _, _, rfl, hn, hd⟩
    have HE2 := Lib.hid (hE.trans hF2)
    clear hn hd hE hF2
    go_wp2_with fail
    refine (value_any s' _ (HG.out.ext HE2.out) HO'.out).mono ?_
    rw [wholeF HY.out]
    rintro e w3 ⟨v', rfl, hI', hF3⟩
    obtain ⟨sb, tb, A', B', k, d, k', d', rfl, hn, hd⟩ := hI'
    have HI' : Hid (RatIs w3 (.agg #[.bool sb, .slice A' k d, .bool tb, .slice B' k' d']) (y : Rat)) := ⟨_, _, _, _, _, _, _, _, rfl, hn, hd⟩
    have HI3 := Lib.hid (HI.out.ext hF3)
    have HE3 := Lib.hid (HE2.out.trans hF3)
    clear hn hd hF3 HI HE2
    go_wp2_with fail
    refine (RAdd_whole _ _ x y _ HI3.out HI'.out (by have := HSx.out; unfold Fits; omega) (by have := HSy.out; unfold Fits; omega)).mono ?_
    rintro e w4 ⟨v4, rfl, hI4, hF4⟩
    have HS4 := Lib.hid (RString_whole v4 _ w4 (HG.out.ext (HE3.out.trans hF4)) hI4 rfl (by show PrtOk (x + y).natAbs; exact HPO.out))
    obtain ⟨sc, tc, A4, B4, l4, c4, l4', c4', rfl, hn, hd⟩ := hI4
    have HE4 := Lib.hid (HE3.out.trans hF4)
    rw [(ratOf_int (x + y)).1, HT.out] at HS4
    clear hn hd hF4 HE3 HI3 HI'
    go_wp2_with fail
    refine HS4.out.mono ?_
    rintro e w5 ⟨rfl, hF5⟩
    have HE5 := Lib.hid (HE4.out.trans hF5)
    clear hF5
    go_wp2
    go_ret
    exact ⟨rfl, HE5.out⟩

end Go.Proofs.YtndafmjcelgnbaaGreatDoor

namespace Go.Proofs.YtndafmjcelgnbaaGreatDoor
open Go.RowKit

/-- The Euclidean algorithm from the rests r0, r1 with the factors t0, t1 ends with the rest r and the factor t. -/
inductive RecRun (m : Int) : Int → Int → Int → Int → Int → Int → Prop
  | done {r0 r1 t0 t1 : Int} (h : r1 * r1 * 2 < m) : RecRun m r0 r1 t0 t1 r1 t1
  | step {r0 r1 t0 t1 r t : Int} (h : ¬ r1 * r1 * 2 < m) (k : RecRun m r1 (r0.tmod r1) t1 (t0 - r0.tdiv r1 * t1) r t) : RecRun m r0 r1 t0 t1 r t
theorem RecRun.unique {m r0 r1 t0 t1 r t r' t' : Int} (h : RecRun m r0 r1 t0 t1 r t) (k : RecRun m r0 r1 t0 t1 r' t') : r = r' ∧ t = t' := by
  induction h with
  | done h =>
    cases k with
    | done => exact ⟨rfl, rfl⟩
    | step h' => exact absurd h h'
  | step h _ ih =>
    cases k with
    | done h' => exact absurd h' h
    | step _ k => exact ih k
/-- what holds at the head of every round -/
structure RecInv (m r0 r1 t0 t1 : Int) : Prop where
  nonneg : 0 ≤ r1
  lt : r1 < r0
  le : r0 ≤ m
  sum : (t1.natAbs : Int) * r0 + (t0.natAbs : Int) * r1 = m
  alt : (0 ≤ t0 ∧ t1 ≤ 0) ∨ (t0 ≤ 0 ∧ 0 ≤ t1)
theorem RecInv.start {m r : Int} (h0 : 0 ≤ r) (hr : r < m) : RecInv m m r 0 1 := ⟨h0, hr, Int.le_refl _, by simp, Or.inr ⟨Int.le_refl _, by omega⟩⟩
theorem RecInv.next {m r0 r1 t0 t1 : Int} (h : RecInv m r0 r1 t0 t1) (h1 : 0 < r1) : RecInv m r1 (r0.tmod r1) t1 (t0 - r0.tdiv r1 * t1) := by
  obtain ⟨h2, h3, h4, h5, h6⟩ := h
  have e1 : r0.tdiv r1 = r0 / r1 := Int.tdiv_eq_ediv_of_nonneg (by omega)
  have e2 : r0.tmod r1 = r0 % r1 := Int.tmod_eq_emod_of_nonneg (by omega)
  rw [e1, e2]
  have hq : 0 ≤ r0 / r1 := Int.ediv_nonneg (by omega) h2
  have hd := Int.mul_ediv_add_emod r0 r1
  have hm0 := Int.emod_nonneg r0 (show r1 ≠ 0 by omega)
  have hm1 := Int.emod_lt_of_pos r0 h1
  generalize r0 / r1 = q at *
  generalize r0 % r1 = r2 at *
  have habs : ((t0 - q * t1).natAbs : Int) = (t0.natAbs : Int) + q * (t1.natAbs : Int) := by
    rcases h6 with ⟨a, b⟩ | ⟨a, b⟩
    · have e3 : (t1.natAbs : Int) = -t1 := by omega
      have e4 : (t0.natAbs : Int) = t0 := by omega
      have hp : 0 ≤ q * -t1 := Int.mul_nonneg hq (by omega)
      rw [e3, e4, Int.mul_neg]
      rw [Int.mul_neg] at hp
      omega
    · have e3 : (t1.natAbs : Int) = t1 := by omega
      have e4 : (t0.natAbs : Int) = -t0 := by omega
      have hp : 0 ≤ q * t1 := Int.mul_nonneg hq b
      rw [e3, e4]
      omega
  refine ⟨hm0, hm1, by omega, ?_, ?_⟩
  · rw [habs, Int.add_mul]
    rw [← hd, Int.mul_add] at h5
    rw [← h5, Int.mul_right_comm q, Int.mul_assoc q, Int.mul_comm (t1.natAbs : Int) (r1 * q), Int.mul_right_comm r1 q, Int.mul_comm q, Int.mul_comm r1 (t1.natAbs : Int)]
    omega
  · rcases h6 with ⟨a, b⟩ | ⟨a, b⟩
    · right
      have hp : 0 ≤ q * -t1 := Int.mul_nonneg hq (by omega)
      rw [Int.mul_neg] at hp
      exact ⟨b, by omega⟩
    · left
      have hp : 0 ≤ q * t1 := Int.mul_nonneg hq b
      exact ⟨b, by omega⟩
theorem RecInv.bound {m r0 r1 t0 t1 : Int} (h : RecInv m r0 r1 t0 t1) : t1.natAbs ≤ m.natAbs ∧ r0.natAbs ≤ m.natAbs ∧ r1.natAbs ≤ m.natAbs ∧ (0 < r1 → t0.natAbs ≤ m.natAbs) := by
  obtain ⟨h2, h3, h4, h5, _⟩ := h
  have a1 : 0 ≤ (t1.natAbs : Int) * r0 := Int.mul_nonneg (by omega) (by omega)
  have a2 : 0 ≤ (t0.natAbs : Int) * r1 := Int.mul_nonneg (by omega) h2
  have a3 : (t1.natAbs : Int) * 1 ≤ (t1.natAbs : Int) * r0 := Int.mul_le_mul_of_nonneg_left (by omega) (by omega)
  refine ⟨by omega, by omega, by omega, fun h1 => ?_⟩
  have a4 : (t0.natAbs : Int) * 1 ≤ (t0.natAbs : Int) * r1 := Int.mul_le_mul_of_nonneg_left (by omega) (by omega)
  omega

/-- two new blocks hold the integers x and y -/
def TwoNew (wb wx : World) (g h : Nat) (x y : Int) : Prop := IntAt wx g x ∧ IntAt wx h y ∧ Ext wb wx ∧ g ≠ h ∧ wb.heap.size ≤ g ∧ wb.heap.size ≤ h
theorem IntAt.new {w : World} {z : Int} {s : Bool} {A : Option Addr} {l c : Nat} (hI : IntIs w (.agg #[.bool s, .slice A l c]) z) : IntAt (w.alloc (.cells #[.bool s, .slice A l c] 67)) w.heap.size z :=
  ⟨s, A, l, c, Blk.new _ _ _, hI.ext ((Fr.refl _ _).alloc _)⟩

theorem blk_second (w : World) (t : TypeId) (x y : Array Value) : Blk t ((w.alloc (.cells x t)).alloc (.cells y t)) (w.heap.size + 1) y := by
  have e : (w.alloc (.cells x t)).heap.size = w.heap.size + 1 := by simp
  have h1 := Blk.new (w.alloc (.cells x t)) t y
  rwa [e] at h1
theorem intAt_zero {w : World} {g : Nat} (h : Blk 67 w g #[.bool false, .slice none 0 0]) : IntAt w g 0 := ⟨_, _, _, _, h, IntIs.zero w⟩
/-- the blocks of ReconstructRatio: the modulus, the result, the two rests and the two factors -/
structure RecMem (w wr : World) (M R b r f g : Nat) (m r0 r1 t0 t1 : Int) : Prop where
  ext : Ext w wr
  mod : IntAt wr M m
  res : Blk 80 wr R #[.bool false, .slice none 0 0, .bool false, .slice none 0 0]
  rest0 : IntAt wr b r0
  rest1 : IntAt wr r r1
  fac0 : IntAt wr f t0
  fac1 : IntAt wr g t1
theorem RecMem.on {w wr wx : World} {M R b r f g : Nat} {m r0 r1 t0 t1 : Int} (h : RecMem w wr M R b r f g m r0 r1 t0 t1) (hF : Ext wr wx) : RecMem w wx M R b r f g m r0 r1 t0 t1 :=
  ⟨h.ext.trans hF, h.mod.ext hF, h.res.ext hF, h.rest0.ext hF, h.rest1.ext hF, h.fac0.ext hF, h.fac1.ext hF⟩
/-- the blocks are different, and new -/
def RecNe (w : World) (M R b r f g : Nat) : Prop := w.heap.size ≤ M ∧ w.heap.size ≤ R ∧ M ≠ R ∧ M < b ∧ M < r ∧ R < b ∧ R < r ∧ b ≠ r ∧ b < f ∧ r < f ∧ b < g ∧ r < g ∧ f ≠ g
section
variable {w wr : World} {M R b r f g : Nat} {m r0 r1 t0 t1 z : Int} {s : Bool} {A : Option Addr} {l c : Nat}
theorem RecMem.put0 (h : RecMem w wr M R b r f g m r0 r1 t0 t1) (hd : RecNe w M R b r f g) (hI : IntIs wr (.agg #[.bool s, .slice A l c]) z) : RecMem w ((wr.setCell ⟨b, 0, none⟩ (.bool s)).setCell ⟨b, 1, none⟩ (.slice A l c)) M R b r f g m z r1 t0 t1 := by
  unfold RecNe at hd
  exact ⟨Fr.local_ h.ext (Fr.set2 _ _) (by omega), h.mod.away h.rest0 (by omega), h.res.fr (Fr.set2 (r := b) (i := 0) (j := 1) _ _) (by omega), h.rest0.put hI, h.rest1.away h.rest0 (by omega), h.fac0.away h.rest0 (by omega), h.fac1.away h.rest0 (by omega)⟩
theorem RecMem.put1 (h : RecMem w wr M R b r f g m r0 r1 t0 t1) (hd : RecNe w M R b r f g) (hI : IntIs wr (.agg #[.bool s, .slice A l c]) z) : RecMem w ((wr.setCell ⟨r, 0, none⟩ (.bool s)).setCell ⟨r, 1, none⟩ (.slice A l c)) M R b r f g m r0 z t0 t1 := by
  unfold RecNe at hd
  exact ⟨Fr.local_ h.ext (Fr.set2 _ _) (by omega), h.mod.away h.rest1 (by omega), h.res.fr (Fr.set2 (r := r) (i := 0) (j := 1) _ _) (by omega), h.rest0.away h.rest1 (by omega), h.rest1.put hI, h.fac0.away h.rest1 (by omega), h.fac1.away h.rest1 (by omega)⟩
theorem RecMem.put2 (h : RecMem w wr M R b r f g m r0 r1 t0 t1) (hd : RecNe w M R b r f g) (hI : IntIs wr (.agg #[.bool s, .slice A l c]) z) : RecMem w ((wr.setCell ⟨f, 0, none⟩ (.bool s)).setCell ⟨f, 1, none⟩ (.slice A l c)) M R b r f g m r0 r1 z t1 := by
  unfold RecNe at hd
  exact ⟨Fr.local_ h.ext (Fr.set2 _ _) (by omega), h.mod.away h.fac0 (by omega), h.res.fr (Fr.set2 (r := f) (i := 0) (j := 1) _ _) (by omega), h.rest0.away h.fac0 (by omega), h.rest1.away h.fac0 (by omega), h.fac0.put hI, h.fac1.away h.fac0 (by omega)⟩
theorem RecMem.put3 (h : RecMem w wr M R b r f g m r0 r1 t0 t1) (hd : RecNe w M R b r f g) (hI : IntIs wr (.agg #[.bool s, .slice A l c]) z) : RecMem w ((wr.setCell ⟨g, 0, none⟩ (.bool s)).setCell ⟨g, 1, none⟩ (.slice A l c)) M R b r f g m r0 r1 t0 z := by
  unfold RecNe at hd
  exact ⟨Fr.local_ h.ext (Fr.set2 _ _) (by omega), h.mod.away h.fac1 (by omega), h.res.fr (Fr.set2 (r := g) (i := 0) (j := 1) _ _) (by omega), h.rest0.away h.fac1 (by omega), h.rest1.away h.fac1 (by omega), h.fac0.away h.fac1 (by omega), h.fac1.put hI⟩
end
def RecSt (w wr : World) (M R b r f g : Nat) (v m r0 r1 t0 t1 : Int) : Prop :=
  RecMem w wr M R b r f g m r0 r1 t0 t1 ∧ RecInv m r0 r1 t0 t1 ∧ ∀ x y, RecRun m r0 r1 t0 t1 x y → RecRun m m (v % m) 0 1 x y
/-- the greatest common divisors of numbers one of which is not greater than m are covered -/
def GcdAll (m : Int) : Prop := ∀ x y : Int, x.natAbs ≤ m.natAbs ∨ y.natAbs ≤ m.natAbs → GcdOk x y
theorem GcdAll.small {m : Int} (h : m.natAbs < W64) : GcdAll m := fun x y hxy => by
  unfold GcdOk
  rcases hxy with h1 | h1
  · exact Nat.lt_of_le_of_lt (Nat.min_le_left _ _) (by omega)
  · exact Nat.lt_of_le_of_lt (Nat.min_le_right _ _) (by omega)
/-- the result of ReconstructRatio -/
def RecIs (v m : Int) (q : Rat) (ok : Bool) : Prop := ∃ r t : Int, RecRun m m (v % m) 0 1 r t ∧ 
  ((ok = true ∧ t * t * 2 < m ∧ Int.gcd t m = 1 ∧ Int.gcd t r = 1 ∧ q = Rat.divInt r t) ∨ (ok = false ∧ ¬ (t * t * 2 < m ∧ Int.gcd t m = 1 ∧ Int.gcd t r = 1) ∧ q = 0))
def RetRec (w : World) (v m : Int) (e : Ending) (w' : World) : Prop := ∃ x q ok, e = .returned (.tuple #[x, .bool ok]) ∧ RatIs w' x q ∧ RecIs v m q ok ∧ Ext w w'
theorem fin_rec {fn : Func} {tmps : Array Value} {w wz : World} {r : Nat} {ok : Bool} {s t : Bool} {A B : Option Addr} {l c l' c' : Nat} {v m : Int} {q : Rat} (hres : fn.results = #[.cell 4 80, .tmp 5]) (ht : tmps[4]? = some (.pointer (some ⟨r, 0, none⟩))) (h3 : tmps[5]? = some (.bool ok))
    (hB : Blk 80 wz r #[.bool s, .slice A l c, .bool t, .slice B l' c']) (hE : Ext w wz) (hR : RatIs wz (.agg #[.bool s, .slice A l c, .bool t, .slice B l' c']) q) (hI : RecIs v m q ok) :
    bodyPost Tryz.prog fn (RetRec w v m) .ret ⟨tmps, []⟩ wz := by
  obtain ⟨h0, h1, h2, h4, _⟩ := hB.cell4
  exact bodyPost_ret (v := .tuple #[.agg #[.bool s, .slice A l c, .bool t, .slice B l' c'], .bool ok]) (by simp [results, hres, ht, h3, go_sem, h0, h1, h2, h4]) rfl ⟨_, q, ok, rfl, hR, hI, hE⟩
theorem keepF2 {t t' : TypeId} {w : World} {g g' r i j : Nat} {x y x' y' a b : Value} (h : Blk t w g #[x, y]) (h' : Blk t' w g' #[x', y']) (hg : g ≠ r) (hg' : g' ≠ r) :
    ((((w.setCell ⟨r, i, none⟩ a).setCell ⟨r, j, none⟩ b).drew.cell? ⟨g, 0, none⟩ = some x ∧ ((w.setCell ⟨r, i, none⟩ a).setCell ⟨r, j, none⟩ b).drew.cell? ⟨g, 1, none⟩ = some y) ∧ (((w.setCell ⟨r, i, none⟩ a).setCell ⟨r, j, none⟩ b).drew.cell? ⟨g', 0, none⟩ = some x' ∧ ((w.setCell ⟨r, i, none⟩ a).setCell ⟨r, j, none⟩ b).drew.cell? ⟨g', 1, none⟩ = some y')) :=
  ⟨⟨(h.fr (Fr.set2 a b) hg).cell 0, (h.fr (Fr.set2 a b) hg).cell 1⟩, ⟨(h'.fr (Fr.set2 a b) hg').cell 0, (h'.fr (Fr.set2 a b) hg').cell 1⟩⟩
section
variable {wb w1 : World} {x y : Int} {s s' : Bool} {A A' : Option Addr} {l c l' c' : Nat}
abbrev bx (s : Bool) (A : Option Addr) (l c : Nat) : Obj := .cells #[.bool s, .slice A l c] 67
theorem two_new1 (hX : Ext wb w1) (hx : IntIs w1 (.agg #[.bool s, .slice A l c]) x) (hy : IntIs w1 (.agg #[.bool s', .slice A' l' c']) y) : TwoNew wb ((w1.alloc (bx s A l c)).alloc (bx s' A' l' c')) w1.heap.size (w1.heap.size + 1) x y := by
  refine ⟨(IntAt.new hx).ext ((Fr.refl _ _).alloc _), ⟨_, _, _, _, blk_second _ _ _ _, hy.ext (((Fr.refl _ _).alloc _).alloc _)⟩, (hX.alloc _).alloc _, by omega, hX.size, by have := hX.size; omega⟩
theorem two_new2 (hX : Ext wb w1) (hx : IntIs w1 (.agg #[.bool s, .slice A l c]) x) (hy : IntIs w1 (.agg #[.bool s', .slice A' l' c']) y) : TwoNew wb ((w1.alloc (bx s' A' l' c')).alloc (bx s A l c)) (w1.heap.size + 1) w1.heap.size x y := by
  obtain ⟨h1, h2, h3, h4, h5, h6⟩ := two_new1 hX hy hx
  exact ⟨h2, h1, h3, Ne.symm h4, h6, h5⟩
theorem two_new3 (hX : Ext wb w1) (hb : Blk 67 w1 wb.heap.size #[.bool false, .slice none 0 0]) (hx : IntIs w1 (.agg #[.bool s, .slice A l c]) x) (hy : IntIs w1 (.agg #[.bool s', .slice A' l' c']) y) :
    TwoNew wb (((w1.setCell ⟨wb.heap.size, 0, none⟩ (.bool s)).setCell ⟨wb.heap.size, 1, none⟩ (.slice A l c)).alloc (bx s' A' l' c')) wb.heap.size w1.heap.size x y := by
  have h1 := (intAt_zero hb).put hx
  have h2 := IntIs.away (a := .bool s) (b := .slice A l c) hy (intAt_zero hb)
  have h3 := Fr.local_ hX (Fr.set2 (r := wb.heap.size) (i := 0) (j := 1) (.bool s) (.slice A l c)) (Nat.le_refl _)
  have e : ((w1.setCell ⟨wb.heap.size, 0, none⟩ (.bool s)).setCell ⟨wb.heap.size, 1, none⟩ (.slice A l c)).heap.size = w1.heap.size := by simp [World.setCell]
  have h4 := IntAt.new h2
  rw [e] at h4
  exact ⟨h1.ext ((Fr.refl _ _).alloc _), h4, h3.alloc _, Nat.ne_of_lt hb.lt, Nat.le_refl _, hX.size⟩
theorem two_new4 (hX : Ext wb w1) (hb : Blk 67 w1 wb.heap.size #[.bool false, .slice none 0 0]) (hx : IntIs w1 (.agg #[.bool s, .slice A l c]) x) (hy : IntIs w1 (.agg #[.bool s', .slice A' l' c']) y) :
    TwoNew wb (((w1.setCell ⟨wb.heap.size, 0, none⟩ (.bool s')).setCell ⟨wb.heap.size, 1, none⟩ (.slice A' l' c')).alloc (bx s A l c)) w1.heap.size wb.heap.size x y := by
  obtain ⟨h1, h2, h3, h4, h5, h6⟩ := two_new3 hX hb hy hx
  exact ⟨h2, h1, h3, Ne.symm h4, h6, h5⟩
theorem two_new5 (hX : Ext wb w1) (hb : Blk 67 w1 wb.heap.size #[.bool false, .slice none 0 0]) (hb2 : Blk 67 w1 (wb.heap.size + 1) #[.bool false, .slice none 0 0]) (hx : IntIs w1 (.agg #[.bool s, .slice A l c]) x) (hy : IntIs w1 (.agg #[.bool s', .slice A' l' c']) y) :
    TwoNew wb ((((w1.setCell ⟨wb.heap.size, 0, none⟩ (.bool s)).setCell ⟨wb.heap.size, 1, none⟩ (.slice A l c)).setCell ⟨wb.heap.size + 1, 0, none⟩ (.bool s')).setCell ⟨wb.heap.size + 1, 1, none⟩ (.slice A' l' c')) wb.heap.size (wb.heap.size + 1) x y := by
  have h1 := (intAt_zero hb).put hx
  have h2 := IntIs.away (a := .bool s) (b := .slice A l c) hy (intAt_zero hb)
  have h3 := Fr.local_ hX (Fr.set2 (r := wb.heap.size) (i := 0) (j := 1) (.bool s) (.slice A l c)) (Nat.le_refl _)
  have h4 := IntAt.away (a := .bool s) (b := .slice A l c) (intAt_zero hb2) (intAt_zero hb) (by omega)
  have h5 := Fr.local_ h3 (Fr.set2 (r := wb.heap.size + 1) (i := 0) (j := 1) (.bool s') (.slice A' l' c')) (by omega)
  exact ⟨h1.away h4 (by omega), h4.put h2, h5, by omega, Nat.le_refl _, by omega⟩
theorem two_new6 (hX : Ext wb w1) (hb : Blk 67 w1 wb.heap.size #[.bool false, .slice none 0 0]) (hb2 : Blk 67 w1 (wb.heap.size + 1) #[.bool false, .slice none 0 0]) (hx : IntIs w1 (.agg #[.bool s, .slice A l c]) x) (hy : IntIs w1 (.agg #[.bool s', .slice A' l' c']) y) :
    TwoNew wb ((((w1.setCell ⟨wb.heap.size + 1, 0, none⟩ (.bool s)).setCell ⟨wb.heap.size + 1, 1, none⟩ (.slice A l c)).setCell ⟨wb.heap.size, 0, none⟩ (.bool s')).setCell ⟨wb.heap.size, 1, none⟩ (.slice A' l' c')) (wb.heap.size + 1) wb.heap.size x y := by
  have h1 := (intAt_zero hb2).put hx
  have h2 := IntIs.away (a := .bool s) (b := .slice A l c) hy (intAt_zero hb2)
  have h3 := Fr.local_ hX (Fr.set2 (r := wb.heap.size + 1) (i := 0) (j := 1) (.bool s) (.slice A l c)) (by omega)
  have h4 := IntAt.away (a := .bool s) (b := .slice A l c) (intAt_zero hb) (intAt_zero hb2) (by omega)
  have h5 := Fr.local_ h3 (Fr.set2 (r := wb.heap.size) (i := 0) (j := 1) (.bool s') (.slice A' l' c')) (Nat.le_refl _)
  exact ⟨h1.away h4 (by omega), h4.put h2, h5, by omega, by omega, Nat.le_refl _⟩
end

set_option maxHeartbeats 4000000 in
set_option maxRecDepth 100000 in
theorem ReconstructRatio_any (a b : Value) (v m : Int) (w : World) (hgl : Glob w) (ha : IntIs w a v) (hb : IntIs w b m) (hv : Fits v) (hm : wl m.natAbs < 39) (h2 : 2 ≤ m) (hga : GcdAll m) : Calls Tryz.prog 64 #[a, b] w (RetRec w v m) := by
  obtain ⟨s, A, l, c, rfl⟩ := ha.shape
  obtain ⟨t, B, l', c', rfl⟩ := hb.shape
  have HA := Lib.hid ha
  have HB := Lib.hid hb
  have HGl := Lib.hid hgl
  have HV := Lib.hid hv
  have HM := Lib.hid hm
  have HGA := Lib.hid hga
  clear ha hb hgl hv hm hga
  go_enter Tryz.func64, Tryz.ntmps64
  go_wp2_with fail
  generalize hwb : World.alloc (World.alloc (World.alloc w _) _) _ = wb
  obtain ⟨hB0, hB1, hB2, hE⟩ := frac_blocks hwb
  have HB0 := Lib.hid hB0
  have HB1 := Lib.hid hB1
  have HR := Lib.hid hB2
  have HE := Lib.hid hE
  clear hwb hB0 hB1 hB2 hE
  go_cut [6, 7] (fun s6 s7 wx => ∃ g6 g7 : Nat, s6 = .pointer (some ⟨g6, 0, none⟩) ∧ s7 = .pointer (some ⟨g7, 0, none⟩) ∧ Hid (TwoNew wb wx g6 g7 m (v % m)))
  case first =>
    refine wp_region_T 6 (fun w' => (w'.cell? ⟨w.heap.size, 0, none⟩ = some (.bool s) ∧ w'.cell? ⟨w.heap.size, 1, none⟩ = some (.slice A l c)) ∧ (w'.cell? ⟨w.heap.size + 1, 0, none⟩ = some (.bool t) ∧ w'.cell? ⟨w.heap.size + 1, 1, none⟩ = some (.slice B l' c'))) follows_mixed ?_
    refine wpT_take 0 rfl (by kernel_rfl) (fun _ _ _ h => h) (keepI2 HB0.out HB1.out ((Fr.refl _ _).drew)) (fun _ => yields_int rfl rfl rfl (fun _ h => h.2)) (fun hS => ?_)
    refine wpT_take 1 rfl (by kernel_rfl) (fun _ _ _ h => h) hS (fun _ => yields_int rfl rfl rfl (fun _ h => h.1)) (fun hS => ?_)
    refine wpT_take 2 rfl (by kernel_rfl) (fun _ _ _ h => h) hS (fun _ => yields_int rfl rfl rfl (fun _ h => h.2)) (fun hS => ?_)
    refine wpT_each (rs := [3, 4, 5]) (by kernel_rfl) (forall_three ?_ ?_ ?_)
    · refine ⟨_, rfl, rfl, fun K hK => ?_⟩
      go_simp
      refine (Mod_any _ _ v m _ (HA.out.ext (HE.out.trans ((Fr.refl _ _).drew))) (HB.out.ext (HE.out.trans ((Fr.refl _ _).drew))) HV.out (by have := HM.out; omega) (by omega)).mono ?_
      rintro e w1 ⟨u1, rfl, hI1, hF1⟩
      obtain ⟨s1, A1, l1, c1, rfl⟩ := hI1.shape
      have hX : Ext wb w1 := ((Fr.refl _ _).drew).trans hF1
      refine hK _ _ (keepI2 HB0.out HB1.out (hX)) ?_
      refine wpT_each (rs := [4, 5]) (by kernel_rfl) (forall_two ?_ ?_)
      · refine ⟨_, rfl, rfl, fun K hK => ?_⟩
        go_simp
        refine hK _ _ (keepI2 HB0.out HB1.out (hX.alloc _)) ?_
        refine wpT_each (rs := [5]) (by kernel_rfl) (forall_one ?_)
        refine ⟨_, rfl, rfl, fun K hK => ?_⟩
        go_simp
        refine hK _ _ (keepI2 HB0.out HB1.out ((hX.alloc _).alloc _)) ?_
        refine wpT_tail (l := [_, _]) 6 rfl (by kernel_rfl) ?_
        go_wp2_with fail
        go_meet
        exact ⟨_, _, rfl, rfl, two_new1 hX (HB.out.ext (HE.out.trans hX)) hI1⟩
      · refine ⟨_, rfl, rfl, fun K hK => ?_⟩
        go_simp
        refine hK _ _ (keepI2 HB0.out HB1.out (hX.alloc _)) ?_
        refine wpT_each (rs := [4]) (by kernel_rfl) (forall_one ?_)
        refine ⟨_, rfl, rfl, fun K hK => ?_⟩
        go_simp
        refine hK _ _ (keepI2 HB0.out HB1.out ((hX.alloc _).alloc _)) ?_
        refine wpT_tail (l := [_, _]) 6 rfl (by kernel_rfl) ?_
        go_wp2_with fail
        go_meet
        exact ⟨_, _, rfl, rfl, two_new2 hX (HB.out.ext (HE.out.trans hX)) hI1⟩
    · refine ⟨_, rfl, rfl, fun K hK => ?_⟩
      go_simp
      refine hK _ _ (keepI2 HB0.out HB1.out (((Fr.refl _ _).drew).alloc _)) ?_
      refine wpT_each (rs := [3, 5]) (by kernel_rfl) (forall_two ?_ ?_)
      · refine ⟨_, rfl, rfl, fun K hK => ?_⟩
        go_simp
        refine (Mod_any _ _ v m _ (HA.out.ext (HE.out.trans (((Fr.refl _ _).drew).alloc _))) (HB.out.ext (HE.out.trans (((Fr.refl _ _).drew).alloc _))) HV.out (by have := HM.out; omega) (by omega)).mono ?_
        rintro e w1 ⟨u1, rfl, hI1, hF1⟩
        obtain ⟨s1, A1, l1, c1, rfl⟩ := hI1.shape
        have hX : Ext wb w1 := (((Fr.refl _ _).drew).alloc _).trans hF1
        refine hK _ _ (keepI2 HB0.out HB1.out (hX)) ?_
        refine wpT_each (rs := [5]) (by kernel_rfl) (forall_one ?_)
        refine ⟨_, rfl, rfl, fun K hK => ?_⟩
        go_simp
        refine hK _ _ (keepI2 HB0.out HB1.out (hX.alloc _)) ?_
        have hb := (Blk.new wb 67 #[.bool false, .slice none 0 0]).ext (Fr.undrew hF1)
        obtain ⟨f0, f1, f2, f3⟩ := hb.cell2
        have hlt := hb.lt
        have hne := Nat.ne_of_lt hlt
        refine wpT_tail (l := [_, _]) 6 rfl (by kernel_rfl) ?_
        go_wp2_with fail
        go_meet
        exact ⟨_, _, rfl, rfl, two_new3 hX hb (HB.out.ext (HE.out.trans hX)) hI1⟩
      · refine ⟨_, rfl, rfl, fun K hK => ?_⟩
        go_simp
        refine hK _ _ (keepI2 HB0.out HB1.out ((((Fr.refl _ _).drew).alloc _).alloc _)) ?_
        refine wpT_each (rs := [3]) (by kernel_rfl) (forall_one ?_)
        refine ⟨_, rfl, rfl, fun K hK => ?_⟩
        go_simp
        refine (Mod_any _ _ v m _ (HA.out.ext (HE.out.trans ((((Fr.refl _ _).drew).alloc _).alloc _))) (HB.out.ext (HE.out.trans ((((Fr.refl _ _).drew).alloc _).alloc _))) HV.out (by have := HM.out; omega) (by omega)).mono ?_
        rintro e w1 ⟨u1, rfl, hI1, hF1⟩
        obtain ⟨s1, A1, l1, c1, rfl⟩ := hI1.shape
        have hX : Ext wb w1 := ((((Fr.refl _ _).drew).alloc _).alloc _).trans hF1
        refine hK _ _ (keepI2 HB0.out HB1.out (hX)) ?_
        have hb := ((Blk.new wb 67 #[.bool false, .slice none 0 0]).alloc (.cells #[.bool false, .slice none 0 0] 67)).ext (Fr.undrew hF1)
        have hb2 := (blk_second wb 67 #[.bool false, .slice none 0 0] #[.bool false, .slice none 0 0]).ext (Fr.undrew hF1)
        obtain ⟨f0, f1, f2, f3⟩ := hb.cell2
        obtain ⟨f4, f5, f6, f7⟩ := hb2.cell2
        refine wpT_tail (l := [_, _]) 6 rfl (by kernel_rfl) ?_
        go_wp2_with fail
        go_meet
        exact ⟨_, _, rfl, rfl, two_new5 hX hb hb2 (HB.out.ext (HE.out.trans hX)) hI1⟩
    · refine ⟨_, rfl, rfl, fun K hK => ?_⟩
      go_simp
      refine hK _ _ (keepI2 HB0.out HB1.out (((Fr.refl _ _).drew).alloc _)) ?_
      refine wpT_each (rs := [3, 4]) (by kernel_rfl) (forall_two ?_ ?_)
      · refine ⟨_, rfl, rfl, fun K hK => ?_⟩
        go_simp
        refine (Mod_any _ _ v m _ (HA.out.ext (HE.out.trans (((Fr.refl _ _).drew).alloc _))) (HB.out.ext (HE.out.trans (((Fr.refl _ _).drew).alloc _))) HV.out (by have := HM.out; omega) (by omega)).mono ?_
        rintro e w1 ⟨u1, rfl, hI1, hF1⟩
        obtain ⟨s1, A1, l1, c1, rfl⟩ := hI1.shape
        have hX : Ext wb w1 := (((Fr.refl _ _).drew).alloc _).trans hF1
        refine hK _ _ (keepI2 HB0.out HB1.out (hX)) ?_
        refine wpT_each (rs := [4]) (by kernel_rfl) (forall_one ?_)
        refine ⟨_, rfl, rfl, fun K hK => ?_⟩
        go_simp
        refine hK _ _ (keepI2 HB0.out HB1.out (hX.alloc _)) ?_
        have hb := (Blk.new wb 67 #[.bool false, .slice none 0 0]).ext (Fr.undrew hF1)
        obtain ⟨f0, f1, f2, f3⟩ := hb.cell2
        have hlt := hb.lt
        have hne := Nat.ne_of_lt hlt
        refine wpT_tail (l := [_, _]) 6 rfl (by kernel_rfl) ?_
        go_wp2_with fail
        go_meet
        exact ⟨_, _, rfl, rfl, two_new4 hX hb (HB.out.ext (HE.out.trans hX)) hI1⟩
      · refine ⟨_, rfl, rfl, fun K hK => ?_⟩
        go_simp
        refine hK _ _ (keepI2 HB0.out HB1.out ((((Fr.refl _ _).drew).alloc _).alloc _)) ?_
        refine wpT_each (rs := [3]) (by kernel_rfl) (forall_one ?_)
        refine ⟨_, rfl, rfl, fun K hK => ?_⟩
        go_simp
        refine (Mod_any _ _ v m _ (HA.out.ext (HE.out.trans ((((Fr.refl _ _).drew).alloc _).alloc _))) (HB.out.ext (HE.out.trans ((((Fr.refl _ _).drew).alloc _).alloc _))) HV.out (by have := HM.out; omega) (by omega)).mono ?_
        rintro e w1 ⟨u1, rfl, hI1, hF1⟩
        obtain ⟨s1, A1, l1, c1, rfl⟩ := hI1.shape
        have hX : Ext wb w1 := ((((Fr.refl _ _).drew).alloc _).alloc _).trans hF1
        refine hK _ _ (keepI2 HB0.out HB1.out (hX)) ?_
        have hb := ((Blk.new wb 67 #[.bool false, .slice none 0 0]).alloc (.cells #[.bool false, .slice none 0 0] 67)).ext (Fr.undrew hF1)
        have hb2 := (blk_second wb 67 #[.bool false, .slice none 0 0] #[.bool false, .slice none 0 0]).ext (Fr.undrew hF1)
        obtain ⟨f0, f1, f2, f3⟩ := hb.cell2
        obtain ⟨f4, f5, f6, f7⟩ := hb2.cell2
        refine wpT_tail (l := [_, _]) 6 rfl (by kernel_rfl) ?_
        go_wp2_with fail
        go_meet
        exact ⟨_, _, rfl, rfl, two_new6 hX hb hb2 (HB.out.ext (HE.out.trans hX)) hI1⟩
  case rest =>
    obtain ⟨g6, g7, rfl, rfl, hT⟩ := hcut
    obtain ⟨h6, h7, hEc, hne67, hl6, hl7⟩ := hT.out
    have hR1 := HR.out.ext hEc
    have hM1 : IntAt wc (w.heap.size + 1) m := ⟨_, _, _, _, HB1.out.ext hEc, HB.out.ext (HE.out.trans hEc)⟩
    have hsz : w.heap.size + 1 + 1 < wb.heap.size := HR.out.lt
    have hmod0 := Int.emod_nonneg v (show m ≠ 0 by omega)
    have hmod1 := Int.emod_lt_of_pos v (show 0 < m by omega)
    have H6 := Lib.hid h6
    have H7 := Lib.hid h7
    have HEc := Lib.hid (HE.out.trans hEc)
    have HR1 := Lib.hid hR1
    have HM1 := Lib.hid hM1
    have hc6 := h6.lt
    have hc7 := h7.lt
    clear h6 h7 hEc hT hR1 hM1 HB0 HB1 HR HE HA HV
    generalize hMM : w.heap.size + 1 = M at *
    generalize hRR : M + 1 = R at *
    have d1 : w.heap.size ≤ M := by omega
    have d2 : w.heap.size ≤ R := by omega
    have d3 : M ≠ R := by omega
    have d4 : M < g6 := by omega
    have d5 : M < g7 := by omega
    have d6 : R < g6 := by omega
    have d7 : R < g7 := by omega
    clear hMM hRR hsz hl6 hl7
    clear wb
    go_wp2_with fail
    refine (New_pos 0 _ W64_pos rfl rfl).mono ?_
    rintro e w1 ⟨u1, rfl, hI1, hF1⟩
    obtain ⟨s1, B1, l1, c1, rfl⟩ := hI1.shape
    go_wp2_with fail
    refine (New_pos 1 _ W64_one rfl rfl).mono ?_
    rintro e w2 ⟨u2, rfl, hI2, hF2⟩
    obtain ⟨s2, B2, l2, c2, rfl⟩ := hI2.shape
    have HTN := Lib.hid (two_new1 (hF1.trans hF2) (hI1.ext hF2) hI2)
    have d8 : g6 < w2.heap.size := Nat.lt_of_lt_of_le hc6 (hF1.trans hF2).size
    have d9 : g7 < w2.heap.size := Nat.lt_of_lt_of_le hc7 (hF1.trans hF2).size
    clear hI1 hI2 hF1 hF2 hc6 hc7
    go_wp2
    generalize hwx : World.alloc (World.alloc w2 _) _ = wx
    have HST : Hid (RecSt w wx M R g6 g7 w2.heap.size (w2.heap.size + 1) v m m (v % m) 0 1) := by
      have h := HTN.out
      rw [show (w2.alloc (bx s1 B1 l1 c1)).alloc (bx s2 B2 l2 c2) = wx from hwx] at h
      obtain ⟨k1, k2, k3, _⟩ := h
      exact ⟨⟨HEc.out.trans k3, HM1.out.ext k3, HR1.out.ext k3, H6.out.ext k3, H7.out.ext k3, k1, k2⟩, RecInv.start hmod0 hmod1, fun _ _ h => h⟩
    have hfg : w2.heap.size ≠ w2.heap.size + 1 := by omega
    have d10 : g6 < w2.heap.size + 1 := by omega
    have d11 : g7 < w2.heap.size + 1 := by omega
    generalize w2.heap.size + 1 = g at *
    generalize w2.heap.size = f at *
    clear hwx HTN H6 H7 HEc HR1 HM1 hmod0 hmod1 w1 w2
    have HNE : Hid (RecNe w M R g6 g7 f g) := ⟨d1, d2, d3, d4, d5, d6, d7, hne67, d8, d9, d10, d11, hfg⟩
    go_loopg [10] (v % m).toNat (fun k _ wr => ∃ r0 r1 t0 t1 : Int, k = r1.toNat ∧ Hid (RecSt w wr M R g6 g7 f g v m r0 r1 t0 t1))
    case atStart => exact ⟨m, v % m, 0, 1, rfl, HST.out⟩
    case round =>
      obtain ⟨r0, r1, t0, t1, hk, hST⟩ := hrel
      have HK := Lib.hid hk
      clear hk HST
      obtain ⟨hMem, hInv, hRun⟩ := hST.out
      obtain ⟨b1, b2, b3, b4⟩ := hInv.bound
      have HInv := Lib.hid hInv
      have HRun := Lib.hid hRun
      have HMem := Lib.hid hMem
      have W1 : Hid (wl t1.natAbs < 39) := Nat.lt_of_le_of_lt (wl_mono b1) HM.out
      have W2 : Hid (wl r0.natAbs < 39) := Nat.lt_of_le_of_lt (wl_mono b2) HM.out
      have W3 : Hid (wl r1.natAbs < 39) := Nat.lt_of_le_of_lt (wl_mono b3) HM.out
      have W4 : Hid (0 < r1 → wl t0.natAbs < 39) := fun h => Nat.lt_of_le_of_lt (wl_mono (b4 h)) HM.out
      have HB3 := Lib.hid b3
      have FM : Hid (Fits m) := by have := HM.out; unfold Hid Fits; omega
      obtain ⟨sm, Am, lm, cm, hBm, hIm⟩ := hMem.mod
      obtain ⟨sr, Ar, lr, cr, hBr, hIr⟩ := hMem.rest1
      obtain ⟨m0, m1, _, _⟩ := hBm.cell2
      obtain ⟨n0, n1, _, _⟩ := hBr.cell2
      clear hST hMem hInv hRun b1 b2 b3 b4
      go_wp2_with fail
      refine (isSmall_any _ _ r1 m _ hIr hIm (by have := W3.out; omega) FM.out).mono ?_
      by_cases hsm : r1 * r1 * 2 < m
      · have HSM := Lib.hid hsm
        rw [decide_eq_true hsm]
        rintro e w1 ⟨rfl, hF1⟩
        replace HMem := Lib.hid (HMem.out.on hF1)
        clear hBm hIm hBr hIr m0 m1 n0 n1 hF1 hsm
        obtain ⟨sm, Am, lm, cm, hBm, hIm⟩ := HMem.out.mod
        obtain ⟨sg_, Ag, lg, cg, hBg, hIg⟩ := HMem.out.fac1
        obtain ⟨m0, m1, _, _⟩ := hBm.cell2
        obtain ⟨n0, n1, _, _⟩ := hBg.cell2
        go_wp2_with fail
        refine (isSmall_any _ _ t1 m _ hIg hIm (by have := W1.out; omega) FM.out).mono ?_
        by_cases hst : t1 * t1 * 2 < m
        · have HST := Lib.hid hst
          rw [decide_eq_true hst]
          rintro e w2 ⟨rfl, hF1⟩
          replace HMem := Lib.hid (HMem.out.on hF1)
          clear hBm hIm hBg hIg m0 m1 n0 n1 hF1 hst
          obtain ⟨sm, Am, lm, cm, hBm, hIm⟩ := HMem.out.mod
          obtain ⟨sg_, Ag, lg, cg, hBg, hIg⟩ := HMem.out.fac1
          obtain ⟨m0, m1, _, _⟩ := hBm.cell2
          obtain ⟨n0, n1, _, _⟩ := hBg.cell2
          go_wp2_with fail
          refine (GCD_any _ _ t1 m _ (HGl.out.ext HMem.out.ext) hIg hIm (by have := W1.out; unfold Fits; omega) FM.out (HGA.out _ _ (Or.inr (Nat.le_refl _)))).mono ?_
          rintro e w3 ⟨u3, rfl, hI3, hF1⟩
          obtain ⟨s3, A3, l3, c3, rfl⟩ := hI3.shape
          have HI3 := Lib.hid hI3
          replace HMem := Lib.hid (HMem.out.on hF1)
          clear hBm hIm hBg hIg m0 m1 n0 n1 hF1 hI3
          go_wp2_with fail
          refine (IsOne_any _ _ _ HI3.out).mono ?_
          clear HI3
          by_cases hg1 : ((Int.gcd t1 m : Nat) : Int) = 1
          · rw [decide_eq_true hg1]
            have HG1 : Hid (Int.gcd t1 m = 1) := by unfold Hid; omega
            rintro e w4 ⟨rfl, hF1⟩
            replace HMem := Lib.hid (HMem.out.on hF1)
            clear hF1 hg1
            obtain ⟨sr, Ar, lr, cr, hBr, hIr⟩ := HMem.out.rest1
            obtain ⟨sg_, Ag, lg, cg, hBg, hIg⟩ := HMem.out.fac1
            obtain ⟨m0, m1, _, _⟩ := hBr.cell2
            obtain ⟨n0, n1, _, _⟩ := hBg.cell2
            go_wp2_with fail
            refine (GCD_any _ _ t1 r1 _ (HGl.out.ext HMem.out.ext) hIg hIr (by have := W1.out; unfold Fits; omega) (by have := W3.out; unfold Fits; omega) (HGA.out _ _ (Or.inr HB3.out))).mono ?_
            rintro e w5 ⟨u5, rfl, hI5, hF1⟩
            obtain ⟨s5, A5, l5, c5, rfl⟩ := hI5.shape
            have HI5 := Lib.hid hI5
            replace HMem := Lib.hid (HMem.out.on hF1)
            clear hBr hIr hBg hIg m0 m1 n0 n1 hF1 hI5
            go_wp2_with fail
            refine (IsOne_any _ _ _ HI5.out).mono ?_
            clear HI5
            by_cases hg2 : ((Int.gcd t1 r1 : Nat) : Int) = 1
            · rw [decide_eq_true hg2]
              have HG2 : Hid (Int.gcd t1 r1 = 1) := by unfold Hid; omega
              have Ht0 : Hid (t1 ≠ 0) := fun e0 => by
                have h1 := HG1.out
                rw [e0] at h1
                simp at h1
                omega
              rintro e w6 ⟨rfl, hF1⟩
              have HRi : Hid (RecIs v m (Rat.divInt r1 t1) true) := ⟨r1, t1, HRun.out _ _ (RecRun.done HSM.out), Or.inl ⟨rfl, HST.out, HG1.out, HG2.out, rfl⟩⟩
              replace HMem := Lib.hid (HMem.out.on hF1)
              clear hF1 hg2
              obtain ⟨sr, Ar, lr, cr, hBr, hIr⟩ := HMem.out.rest1
              obtain ⟨sg_, Ag, lg, cg, hBg, hIg⟩ := HMem.out.fac1
              obtain ⟨m0, m1, _, _⟩ := hBr.cell2
              obtain ⟨n0, n1, _, _⟩ := hBg.cell2
              go_wp2_with fail
              refine (Fraction_any _ _ r1 t1 _ (HGl.out.ext HMem.out.ext) hIr hIg (by have := W3.out; unfold Fits; omega) (by have := W1.out; unfold Fits; omega) (HGA.out _ _ (Or.inl HB3.out)) (by have := W1.out; omega) Ht0.out).mono ?_
              rintro e w7 ⟨u7, rfl, hR7, hF1⟩
              obtain ⟨s, t, A, B, l, c, l', c', rfl, hIn, hId⟩ := hR7
              have HIn := Lib.hid hIn
              have HId := Lib.hid hId
              replace HMem := Lib.hid (HMem.out.on hF1)
              clear hBr hIr hBg hIg m0 m1 n0 n1 hF1 hIn hId
              obtain ⟨z0, z1, z2, z3, z4, z5, z6, z7⟩ := HMem.out.res.cell4
              go_wp2
              exact fin_rec rfl rfl rfl (HMem.out.res.put4 _ _ _ _) (Fr.local_ HMem.out.ext (Fr.set4 _ _ _ _) d2) ⟨_, _, _, _, _, _, _, _, rfl, HIn.out.other HMem.out.res noWords4 (Fr.set4 _ _ _ _), HId.out.other HMem.out.res noWords4 (Fr.set4 _ _ _ _)⟩ HRi.out
            · rw [decide_eq_false hg2]
              have HG2 : Hid (¬ Int.gcd t1 r1 = 1) := by unfold Hid; omega
              clear hg2
              rintro e w6 ⟨rfl, hF⟩
              have HRi : Hid (RecIs v m 0 false) := ⟨r1, t1, HRun.out _ _ (RecRun.done HSM.out), Or.inr ⟨rfl, fun hh => HG2.out hh.2.2, rfl⟩⟩
              replace HMem := Lib.hid (HMem.out.on hF)
              clear hF
              obtain ⟨z0, z1, z2, z3, z4, z5, z6, z7⟩ := HMem.out.res.cell4
              go_wp2
              exact fin_rec rfl rfl rfl (HMem.out.res.put4 _ _ _ _) (Fr.local_ HMem.out.ext (Fr.set4 _ _ _ _) d2) (RatIs.zero _) HRi.out
          · rw [decide_eq_false hg1]
            have HG1 : Hid (¬ Int.gcd t1 m = 1) := by unfold Hid; omega
            clear hg1
            rintro e w4 ⟨rfl, hF⟩
            have HRi : Hid (RecIs v m 0 false) := ⟨r1, t1, HRun.out _ _ (RecRun.done HSM.out), Or.inr ⟨rfl, fun hh => HG1.out hh.2.1, rfl⟩⟩
            replace HMem := Lib.hid (HMem.out.on hF)
            clear hF
            obtain ⟨z0, z1, z2, z3, z4, z5, z6, z7⟩ := HMem.out.res.cell4
            go_wp2
            exact fin_rec rfl rfl rfl (HMem.out.res.put4 _ _ _ _) (Fr.local_ HMem.out.ext (Fr.set4 _ _ _ _) d2) (RatIs.zero _) HRi.out
        · rw [decide_eq_false hst]
          have HST := Lib.hid hst
          clear hst hBm hIm hBg hIg m0 m1 n0 n1
          rintro e w2 ⟨rfl, hF⟩
          have HRi : Hid (RecIs v m 0 false) := ⟨r1, t1, HRun.out _ _ (RecRun.done HSM.out), Or.inr ⟨rfl, fun hh => HST.out hh.1, rfl⟩⟩
          replace HMem := Lib.hid (HMem.out.on hF)
          clear hF
          obtain ⟨z0, z1, z2, z3, z4, z5, z6, z7⟩ := HMem.out.res.cell4
          go_wp2
          exact fin_rec rfl rfl rfl (HMem.out.res.put4 _ _ _ _) (Fr.local_ HMem.out.ext (Fr.set4 _ _ _ _) d2) (RatIs.zero _) HRi.out
      · rw [decide_eq_false hsm]
        rintro e w1 ⟨rfl, hF1⟩
        have HSM := Lib.hid hsm
        have hr1 : 0 < r1 := by
          have := HInv.out.nonneg
          rcases Int.lt_or_le 0 r1 with h | h
          · exact h
          · exfalso; apply hsm; have e0 : r1 = 0 := by omega
            rw [e0]; omega
        replace HMem := Lib.hid (HMem.out.on hF1)
        clear hBm hIm hBr hIr m0 m1 n0 n1 hF1 hsm
        obtain ⟨s0, A0, l0, c0, hB0, hI0⟩ := HMem.out.rest0
        obtain ⟨s7, A7, l7, c7, hB7, hI7⟩ := HMem.out.rest1
        obtain ⟨m0, m1, _, _⟩ := hB0.cell2
        obtain ⟨n0, n1, _, _⟩ := hB7.cell2
        go_wp2_with fail
        refine (QuoRem_any _ _ r0 r1 _ hI0 hI7 (by have := W2.out; unfold Fits; omega) (by have := W3.out; omega) (by omega)).mono ?_
        rintro e w2 ⟨u1, u2, rfl, hN1, hN2, hF2⟩
        obtain ⟨sq, Aq, lq, cq, rfl⟩ := hN1.shape
        obtain ⟨sn, An, ln, cn, rfl⟩ := hN2.shape
        have HI7 := Lib.hid (hI7.ext hF2)
        have HTN := Lib.hid (two_new1 (Fr.refl _ _) hN1 hN2)
        replace HMem := Lib.hid (HMem.out.on hF2)
        have e10 : g < w2.heap.size := HMem.out.fac1.lt
        have e11 : f < w2.heap.size := HMem.out.fac0.lt
        have HWq : Hid (wl (r0.tdiv r1).natAbs < 39) := by
          have h1 : (r0.tdiv r1).natAbs ≤ r0.natAbs := by rw [Int.natAbs_tdiv]; exact Nat.div_le_self _ _
          exact Nat.lt_of_le_of_lt (wl_mono h1) W2.out
        have HNx := Lib.hid (HInv.out.next hr1)
        have HRn : Hid (∀ x y, RecRun m r1 (r0.tmod r1) t1 (t0 - r0.tdiv r1 * t1) x y → RecRun m m (v % m) 0 1 x y) := fun x y h => HRun.out x y (RecRun.step (Int.not_lt.2 HSM.out) h)
        have hmeas : Hid ((r0.tmod r1).toNat < gk) := by
          have h1 := HNx.out.lt
          have h2 := HNx.out.nonneg
          have := HK.out
          unfold Hid; omega
        clear hN1 hN2 hF2 hB0 hI0 hB7 hI7 m0 m1 n0 n1 HSM HInv HRun
        go_wp2_with fail
        generalize hw3 : World.alloc (World.alloc w2 _) _ = w3
        have hTN := HTN.out
        rw [show (w2.alloc (bx sq Aq lq cq)).alloc (bx sn An ln cn) = w3 from hw3] at hTN
        obtain ⟨h10, h11, hE3, hne10, _, _⟩ := hTN
        replace HMem := Lib.hid (HMem.out.on hE3)
        replace HI7 := Lib.hid (HI7.out.ext hE3)
        have e12 : g < w2.heap.size + 1 := by omega
        have e13 : f < w2.heap.size + 1 := by omega
        have H10 := Lib.hid h10
        have H11 := Lib.hid h11
        generalize w2.heap.size + 1 = G11 at *
        generalize w2.heap.size = G10 at *
        clear hw3 HTN hE3 h10 h11
        obtain ⟨s7', A7', l7', c7', hB7, hI7⟩ := HMem.out.rest1
        obtain ⟨s11, A11, l11, c11, hB11, hI11⟩ := H11.out
        obtain ⟨s6, A6, l6, c6, hB6, _⟩ := HMem.out.rest0
        obtain ⟨p0, p1, p2, p3⟩ := hB6.cell2
        have hD := HNE.out
        unfold RecNe at hD
        refine wp_region_T 3 (fun w' => (w'.cell? ⟨g7, 0, none⟩ = some (.bool s7') ∧ w'.cell? ⟨g7, 1, none⟩ = some (.slice A7' l7' c7')) ∧ (w'.cell? ⟨G11, 0, none⟩ = some (.bool s11) ∧ w'.cell? ⟨G11, 1, none⟩ = some (.slice A11 l11 c11))) follows_mixed ?_
        refine wpT_take 0 rfl (by kernel_rfl) (fun _ _ _ h => h) (keepI2 hB7 hB11 (Fr.refl _ _).drew) (fun _ => yields_int rfl rfl rfl (fun _ h => h.1)) (fun hS => ?_)
        refine wpT_take 1 rfl (by kernel_rfl) (fun _ _ _ h => h) hS (fun _ => yields_int rfl rfl rfl (fun _ h => h.2)) (fun hS => ?_)
        refine wpT_only 2 rfl (by kernel_rfl) rfl (fun K hK => ?_)
        go_simp
        refine hK _ _ (keepF2 hB7 hB11 (r := g6) (i := 0) (j := 1) (by omega) (by omega)) ?_
        have kA := (HMem.out.put0 HNE.out hI7).on (Fr.refl _ _).drew
        have kI := (IntIs.away (a := .bool s7') (b := .slice A7' l7' c7') hI11 HMem.out.rest0).ext (Fr.refl _ _).drew
        have k10 := (IntAt.away (a := .bool s7') (b := .slice A7' l7' c7') H10.out HMem.out.rest0 (by omega)).ext (Fr.refl _ _).drew
        first
          | generalize World.drew (World.setCell (World.setCell w3 _ _) _ _) = wA at *
          | generalize World.setCell (World.setCell (World.drew w3) _ _) _ _ = wA at *
        have HMA := Lib.hid kA
        have HIA := Lib.hid kI
        have H10A := Lib.hid k10
        obtain ⟨s7'', A7'', l7'', c7'', hB7'', _⟩ := kA.rest1
        obtain ⟨q0, q1, q2, q3⟩ := hB7''.cell2
        clear kA kI k10 hK hS hB7 hI7 hB11 hI11 hB6 p0 p1 p2 p3 HI7 H10 H11 hB7'' HMem
        refine wpT_tail (l := [_]) 3 rfl (by kernel_rfl) ?_
        go_wp2_with fail
        have kB := HMA.out.put1 HNE.out HIA.out
        have k10 := IntAt.away (a := .bool s11) (b := .slice A11 l11 c11) H10A.out HMA.out.rest1 (by omega)
        generalize World.setCell (World.setCell wA _ _) _ _ = wB at *
        have HMB := Lib.hid kB
        have H10B := Lib.hid k10
        clear kB k10 q0 q1 q2 q3 HMA HIA H10A
        obtain ⟨sf, Af, lf, cf, hBf, hIf⟩ := HMB.out.fac0
        obtain ⟨sg_, Ag, lg, cg, hBg, hIg⟩ := HMB.out.fac1
        obtain ⟨st, At, lt, ct, hBt, hIt⟩ := H10B.out
        refine wp_region_T 6 (fun w' => (w'.cell? ⟨g, 0, none⟩ = some (.bool sg_) ∧ w'.cell? ⟨g, 1, none⟩ = some (.slice Ag lg cg)) ∧ (w'.cell? ⟨f, 0, none⟩ = some (.bool sf) ∧ w'.cell? ⟨f, 1, none⟩ = some (.slice Af lf cf)) ∧ (w'.cell? ⟨G10, 0, none⟩ = some (.bool st) ∧ w'.cell? ⟨G10, 1, none⟩ = some (.slice At lt ct))) follows_mixed ?_
        refine wpT_take 0 rfl (by kernel_rfl) (fun _ _ _ h => h) (keepI3 hBg hBf hBt (Fr.refl _ _).drew) (fun _ => yields_int rfl rfl rfl (fun _ h => h.1)) (fun hS => ?_)
        refine wpT_take 1 rfl (by kernel_rfl) (fun _ _ _ h => h) hS (fun _ => yields_int rfl rfl rfl (fun _ h => h.2.1)) (fun hS => ?_)
        refine wpT_take 2 rfl (by kernel_rfl) (fun _ _ _ h => h) hS (fun _ => yields_int rfl rfl rfl (fun _ h => h.2.2)) (fun hS => ?_)
        refine wpT_take 3 rfl (by kernel_rfl) (fun _ _ _ h => h) hS (fun _ => yields_int rfl rfl rfl (fun _ h => h.1)) (fun hS => ?_)
        refine wpT_only 4 rfl (by kernel_rfl) rfl (fun K hK => ?_)
        go_simp
        refine (Mul_any _ _ (r0.tdiv r1) t1 _ (hIt.ext (Fr.refl _ _).drew) (hIg.ext (Fr.refl _ _).drew) (by have := HWq.out; unfold Fits; omega) (by have := W1.out; unfold Fits; omega) (Or.inr (by have := W1.out; omega))).mono ?_
        rintro e wM ⟨uM, rfl, hIM, hFM⟩
        obtain ⟨sM, AM, lM, cM, rfl⟩ := hIM.shape
        replace hFM := Fr.undrew hFM
        refine hK _ _ (keepI3 hBg hBf hBt hFM) ?_
        refine wpT_only 5 rfl (by kernel_rfl) rfl (fun K hK => ?_)
        go_simp
        refine (Sub_any _ _ t0 (r0.tdiv r1 * t1) _ (hIf.ext hFM) hIM (by have := W4.out hr1; unfold Fits; omega) (by have h1 := wl_mul (r0.tdiv r1).natAbs t1.natAbs; have := HWq.out; have := W1.out; unfold Fits; rw [Int.natAbs_mul]; omega)).mono ?_
        rintro e wS ⟨uS, rfl, hIS, hFS⟩
        obtain ⟨sS, AS, lS, cS, rfl⟩ := hIS.shape
        refine hK _ _ (keepI3 hBg hBf hBt (hFM.trans hFS)) ?_
        have HMC := Lib.hid (HMB.out.on (hFM.trans hFS))
        have HIg := Lib.hid (hIg.ext (hFM.trans hFS))
        have HIS := Lib.hid hIS
        clear hK hS hBf hIf hBg hIg hBt hIt hIM hFM hIS hFS HMB H10B
        obtain ⟨sf', Af', lf', cf', hBf', _⟩ := HMC.out.fac0
        obtain ⟨sg', Ag', lg', cg', hBg', _⟩ := HMC.out.fac1
        obtain ⟨p0, p1, p2, p3⟩ := hBf'.cell2
        obtain ⟨q0, q1, q2, q3⟩ := hBg'.cell2
        clear hBf' hBg'
        refine wpT_tail (l := [_, _]) 6 rfl (by kernel_rfl) ?_
        go_wp2
        have kC := HMC.out.put2 HNE.out HIg.out
        have kI := IntIs.away (a := .bool sg_) (b := .slice Ag lg cg) HIS.out HMC.out.fac0
        have kD := kC.put3 HNE.out kI
        go_roundg (r0.tmod r1).toNat
        case measure => exact hmeas.out
        case rel => exact ⟨r1, r0.tmod r1, t1, t0 - r0.tdiv r1 * t1, rfl, kD, HNx.out, HRn.out⟩
end Go.Proofs.YtndafmjcelgnbaaGreatDoor

namespace Go.Proofs.YtndafmjcelgnbaaGreatDoor
open Go.RowKit

/-- the canonical text of a rational number -/
def ratText (q : Rat) : List UInt8 := if q.den = 1 then Lib.itoa q.num else Lib.itoa q.num ++ [47] ++ Lib.itoa (q.den : Int)

set_option maxHeartbeats 2000000 in
set_option maxRecDepth 100000 in
theorem RString_frac (a : Value) (q : Rat) (w : World) (hg : Glob w) (ha : RatIs w a q) (hn : PrtOk q.num.natAbs) (hd : PrtOk q.den) (h1 : q.den ≠ 1) (hl : (Lib.itoa q.num).length ≤ 68719476736) : Calls Tryz.prog 65 #[a] w (RetV w (.string ⟨(ratText q).toArray⟩)) := by
  obtain ⟨s, t, A, B, l, c, l', c', rfl, hIn, hId⟩ := ha
  have hdf : denF q = (q.den : Int) := by unfold denF; rw [if_neg h1]
  have hd0 : ¬ denF q = 0 := fun h => h1 (denF_zero.1 h)
  have HM : Hid (ratText q = Lib.itoa q.num ++ [47] ++ Lib.itoa (q.den : Int)) := by unfold Hid ratText; rw [if_neg h1]
  rw [hdf] at hId
  have HIn := Lib.hid hIn
  have HId := Lib.hid hId
  have HG := Lib.hid hg
  have HPn := Lib.hid hn
  have HPd : Hid (PrtOk ((q.den : Int)).natAbs) := by unfold Hid; rw [Int.natAbs_natCast]; exact hd
  have hne := itoa_ne (q.den : Int)
  rw [hdf] at hd0
  generalize hm : ratText q = m at *
  have hmne : m ≠ [] := by rw [HM.out]; simp
  generalize q.num = x at *
  generalize (q.den : Int) = y at *
  clear hg hn hd h1 hIn hId hdf hm hne
  go_enter Tryz.func65, Tryz.ntmps65
  go_wp2_with fail
  generalize hwb : World.alloc w _ = wb
  obtain ⟨hB0, hE0⟩ := Blk.one hwb
  clear hwb
  refine (IsZero_any _ y _ (HId.out.ext hE0)).mono ?_
  rw [decide_eq_false hd0]
  rintro e w1 ⟨rfl, hF1⟩
  have HB1 := Lib.hid (hB0.ext hF1)
  have HE1 := Lib.hid (hE0.trans hF1)
  obtain ⟨x0, x1, x2, x3, _, _, _, _⟩ := HB1.out.cell4
  clear hB0 hE0 hF1 hd0
  go_wp2_with fail
  refine (Append_any _ x none 0 0 [] w1 _ (Fr.refl _ _) (HG.out.ext HE1.out) (HIn.out.ext HE1.out) HPn.out rfl Buf.nil Newer.nil (by omega)).mono ?_
  rw [List.nil_append]
  rintro e w2 ⟨A2, cap2, rfl, hT2, hF2, hA2⟩
  have hN2 : Newer w1 A2 := (Newer.nil (w0 := w1)).next (Fr.refl _ _) hA2
  have hE2 : Ext w1 w2 := (Newer.nil (w0 := w1)).ext (Fr.refl _ _) hF2
  have HT2 := Lib.hid hT2
  have HN2 := Lib.hid hN2
  have HE2 := Lib.hid hE2
  clear hT2 hF2 hA2 hN2 hE2 x0 x1 x2 x3
  obtain ⟨n, hnl⟩ : ∃ n, (Lib.itoa x).length = n := ⟨_, rfl⟩
  rw [hnl] at hl ⊢
  have HNL := Lib.hid hnl
  clear hnl
  have HS : Hid (Shows .u8 (w2.alloc (.cells #[.int .u8 47] 5)) (some ⟨w2.heap.size, 0, none⟩) (nats [47])) := (Own.new w2 5 .u8 [47] []).shows0
  go_wp2_with (at_builtin; refine Hid.out ?_)
  refine Lib.hid ?_
  refine wpList_append_words rfl _ _ _ rfl _ .u8 1 Tryz.underlying133 info8 A2 (some ⟨w2.heap.size, 0, none⟩) n 1 cap2 1 rfl rfl (nats (Lib.itoa x)) (nats [47]) (by rw [nats_length]; exact HNL.out) rfl (HT2.out.ext ((Fr.refl _ _).alloc _)) HS.out (by simp only [maxLen]; omega) (by omega) ?_
  intro A3 cap3 w3 hB3 hF3 hA3
  have hE3 : Ext w1 w3 := HN2.out.ext (HE2.out.alloc _) hF3
  have hN3 : Newer w1 A3 := HN2.out.next (w := w2) HE2.out (fun b hb => (hA3 b hb).imp id (fun h => by simp at h; omega))
  have hT3 : TBuf w3 A3 cap3 (Lib.itoa x ++ [47]) := by show Buf _ _ _ _ _ (nats (Lib.itoa x ++ [47])); rw [nats_append]; exact hB3
  have HT3 := Lib.hid hT3
  have HN3 := Lib.hid hN3
  have HE3 := Lib.hid hE3
  have HB3 := Lib.hid (HB1.out.ext hE3)
  obtain ⟨x0, x1, x2, x3, _, _, _, _⟩ := HB3.out.cell4
  clear hB3 hF3 hA3 hE3 hN3 hT3
  go_wp2_with fail
  refine (Append_any _ y A3 cap3 (n + 1) (Lib.itoa x ++ [47]) w1 _ HE3.out (HG.out.ext HE1.out) (HId.out.ext HE1.out) HPd.out (by rw [List.length_append, HNL.out]; rfl) HT3.out HN3.out (by omega)).mono ?_
  rw [← HM.out]
  rintro e w4 ⟨A4, cap4, rfl, hT4, hF4, hA4⟩
  have HE4 : Hid (Ext w w4) := HE1.out.trans (HN3.out.ext HE3.out hF4)
  obtain ⟨b, rfl, hc⟩ := TBuf.bytes hT4 hmne
  have hcv := run_convert_bytes_back (P := Tryz.prog) w4 133 9 5 ⟨b, 0, none⟩ cap4 m Tryz.underlying133 Tryz.underlying5 Tryz.underlying9 hc
  clear hT4 hF4 hA4 hc hmne x0 x1 x2 x3
  go_wp2
  go_ret
  exact ⟨rfl, HE4.out⟩
end Go.Proofs.YtndafmjcelgnbaaGreatDoor

namespace Go.Proofs.YtndafmjcelgnbaaGreatDoor
open Go.RowKit

theorem yields_rat {ops : Array Oper} {S : World → Prop} {o : Oper} {a : Act} {p : Operand} {g : Nat} {x y z u : Value} (hg : o.guard = none) (ho : o.op = Op.load 80 p) (hp : a.eval p = .pointer (some ⟨g, 0, none⟩))
    (hc : ∀ w, S w → w.cell? ⟨g, 0, none⟩ = some x ∧ w.cell? ⟨g, 1, none⟩ = some y ∧ w.cell? ⟨g, 2, none⟩ = some z ∧ w.cell? ⟨g, 3, none⟩ = some u) : YieldsIf Tryz.prog ops S o (.agg #[x, y, z, u]) a :=
  Or.inl ⟨by unfold Region.wanted; rw [hg], fun w hS => by
    obtain ⟨h0, h1, h2, h3⟩ := hc w hS
    simp only [execOp, ho, hp]
    simp [go_sem, h0, h1, h2, h3]⟩
theorem keepRI {t t' : TypeId} {w w' : World} {g g' : Nat} {x y z u x' y' : Value} (h : Blk t w g #[x, y, z, u]) (h' : Blk t' w g' #[x', y']) (hF : Ext w w') :
    (w'.cell? ⟨g, 0, none⟩ = some x ∧ w'.cell? ⟨g, 1, none⟩ = some y ∧ w'.cell? ⟨g, 2, none⟩ = some z ∧ w'.cell? ⟨g, 3, none⟩ = some u) ∧ (w'.cell? ⟨g', 0, none⟩ = some x' ∧ w'.cell? ⟨g', 1, none⟩ = some y') :=
  ⟨⟨(h.ext hF).cell 0, (h.ext hF).cell 1, (h.ext hF).cell 2, (h.ext hF).cell 3⟩, ⟨(h'.ext hF).cell 0, (h'.ext hF).cell 1⟩⟩
/-- block g holds the rational number q -/
def RatAt (w : World) (g : Nat) (q : Rat) : Prop := ∃ s t A B l c l' c', Blk 80 w g #[.bool s, .slice A l c, .bool t, .slice B l' c'] ∧ IntIs w (.agg #[.bool s, .slice A l c]) q.num ∧ IntIs w (.agg #[.bool t, .slice B l' c']) (denF q)
def RatNew (wb wx : World) (g : Nat) (q : Rat) : Prop := RatAt wx g q ∧ Ext wb wx
section
variable {wb wr : World} {g : Nat} {q : Rat} {s t : Bool} {A B : Option Addr} {l c l' c' : Nat}
theorem rat_new (hX : Ext wb wr) (hn : IntIs wr (.agg #[.bool s, .slice A l c]) q.num) (hd : IntIs wr (.agg #[.bool t, .slice B l' c']) (denF q)) : RatNew wb (wr.alloc (.cells #[.bool s, .slice A l c, .bool t, .slice B l' c'] 80)) wr.heap.size q :=
  ⟨⟨_, _, _, _, _, _, _, _, Blk.new _ _ _, hn.ext ((Fr.refl _ _).alloc _), hd.ext ((Fr.refl _ _).alloc _)⟩, hX.alloc _⟩
theorem rat_put (hX : Ext wb wr) (hg : wb.heap.size ≤ g) (hb : Blk 80 wr g #[.bool false, .slice none 0 0, .bool false, .slice none 0 0]) (hn : IntIs wr (.agg #[.bool s, .slice A l c]) q.num) (hd : IntIs wr (.agg #[.bool t, .slice B l' c']) (denF q)) :
    RatNew wb ((((wr.setCell ⟨g, 0, none⟩ (.bool s)).setCell ⟨g, 1, none⟩ (.slice A l c)).setCell ⟨g, 2, none⟩ (.bool t)).setCell ⟨g, 3, none⟩ (.slice B l' c')) g q :=
  ⟨⟨_, _, _, _, _, _, _, _, hb.put4 _ _ _ _, hn.other hb noWords4 (Fr.set4 _ _ _ _), hd.other hb noWords4 (Fr.set4 _ _ _ _)⟩, Fr.local_ hX (Fr.set4 _ _ _ _) hg⟩
end

set_option maxHeartbeats 4000000 in
set_option maxRecDepth 100000 in
theorem Reconstruct_frac (s1 s2 : ByteArray) (v m : Int) (q : Rat) (w : World) (hg : Glob w) (hk1 : ReadOk (bytes s1)) (hk2 : ReadOk (bytes s2)) (hr1 : readF (bytes s1) = some (v : Rat)) (hr2 : readF (bytes s2) = some (m : Rat)) (hfv : Fits v) (hwm : wl m.natAbs < 39) (h2 : 2 ≤ m) (hga : GcdAll m)
    (hq : ∀ q' ok, RecIs v m q' ok → q' = q ∧ ok = true) (hpn : PrtOk q.num.natAbs) (hpd : PrtOk q.den) (hd1 : q.den ≠ 1) (hil : (Lib.itoa q.num).length ≤ 68719476736) :
    Calls Tryz.prog 17 #[.string s1, .string s2] w (RetV w (.tuple #[.string ⟨(ratText q).toArray⟩, .bool true])) := by
  have HG := Lib.hid hg
  have HK1 := Lib.hid hk1
  have HK2 := Lib.hid hk2
  have HR1 := Lib.hid hr1
  have HR2 := Lib.hid hr2
  have HFv : Hid (Fits (v : Rat).num) := hfv
  have HWm := Lib.hid hwm
  have HGA := Lib.hid hga
  have HQ : Hid (∀ q' ok, RecIs (v : Rat).num m q' ok → q' = q ∧ ok = true) := hq
  have HPn := Lib.hid hpn
  have HPd := Lib.hid hpd
  have HD1 := Lib.hid hd1
  have HIL := Lib.hid hil
  generalize hrt : ratText q = rt
  have HRT := Lib.hid hrt
  clear hg hk1 hk2 hr1 hr2 hfv hwm hga hq hpn hpd hd1 hil hrt
  go_enter Tryz.func17, Tryz.ntmps17
  go_wp2_with fail
  refine (Read_any s1 _ HG.out HK1.out).mono ?_
  rintro e w1 ⟨x1, ok1, rfl, hE1, h1⟩
  obtain ⟨rfl, q1, hq1, hx1⟩ : ok1 = true ∧ ∃ q, readF (bytes s1) = some q ∧ RatIs w1 x1 q := by
    rcases h1 with h | h
    · exact h
    · have := h.2.1; rw [HR1.out] at this; cases this
  obtain rfl : q1 = (v : Rat) := by rw [HR1.out] at hq1; injection hq1 with hq1; exact hq1.symm
  obtain ⟨sv, tv, Av, Bv, lv, cv, lv', cv', rfl, hvn, hvd⟩ := hx1
  have HVn := Lib.hid hvn
  have HVd := Lib.hid hvd
  have HE1 := Lib.hid hE1
  clear h1 hq1 hvn hvd hE1
  go_wp2_with fail
  generalize hwb : World.alloc w1 _ = w2
  obtain ⟨hBv, hE2⟩ := Blk.one hwb
  have HBv := Lib.hid hBv
  have HRv : Hid (RatIs w2 (.agg #[.bool sv, .slice Av lv cv, .bool tv, .slice Bv lv' cv']) (v : Rat)) := ⟨_, _, _, _, _, _, _, _, rfl, HVn.out.ext hE2, HVd.out.ext hE2⟩
  have HE2 := Lib.hid (HE1.out.trans hE2)
  generalize w1.heap.size = V at *
  clear hwb hBv hE2 HVn HVd HE1
  refine (Read_any s2 _ (HG.out.ext HE2.out) HK2.out).mono ?_
  rintro e w3 ⟨x3, ok3, rfl, hE3, h3⟩
  obtain ⟨rfl, q3, hq3, hx3⟩ : ok3 = true ∧ ∃ q, readF (bytes s2) = some q ∧ RatIs w3 x3 q := by
    rcases h3 with h | h
    · exact h
    · have := h.2.1; rw [HR2.out] at this; cases this
  obtain rfl : q3 = (m : Rat) := by rw [HR2.out] at hq3; injection hq3 with hq3; exact hq3.symm
  obtain ⟨sm, tm, Am, Bm, lm, cm, lm', cm', rfl, hmn, hmd⟩ := hx3
  have HMn := Lib.hid hmn
  have HMd := Lib.hid hmd
  replace HBv := Lib.hid (HBv.out.ext hE3)
  replace HRv := Lib.hid (HRv.out.ext hE3)
  have HE3 := Lib.hid (HE2.out.trans hE3)
  have hVlt := HBv.out.lt
  obtain ⟨p0, p1, p2, p3, _, _, _, _⟩ := HBv.out.cell4
  clear h3 hq3 hmn hmd hE3 HE2
  go_wp2_with fail
  generalize hwb : World.alloc w3 _ = w4
  obtain ⟨hBm, hE4⟩ := Blk.one hwb
  have HBm := Lib.hid hBm
  have HRm : Hid (RatIs w4 (.agg #[.bool sm, .slice Am lm cm, .bool tm, .slice Bm lm' cm']) (m : Rat)) := ⟨_, _, _, _, _, _, _, _, rfl, HMn.out.ext hE4, HMd.out.ext hE4⟩
  replace HBv := Lib.hid (HBv.out.ext hE4)
  replace HRv := Lib.hid (HRv.out.ext hE4)
  have HE4 := Lib.hid (HE3.out.trans hE4)
  generalize w3.heap.size = M at *
  clear hwb hBm hE4 HMn HMd HE3 p0 p1 p2 p3
  refine (IsWhole_any _ _ _ HRv.out).mono ?_
  rw [decide_eq_true (show ((v : Int) : Rat).den = 1 from rfl)]
  rintro e w5 ⟨rfl, hE5⟩
  replace HBv := Lib.hid (HBv.out.ext hE5)
  replace HBm := Lib.hid (HBm.out.ext hE5)
  replace HRv := Lib.hid (HRv.out.ext hE5)
  replace HRm := Lib.hid (HRm.out.ext hE5)
  have HE5 := Lib.hid (HE4.out.trans hE5)
  obtain ⟨p0, p1, p2, p3, _, _, _, _⟩ := HBm.out.cell4
  clear hE5 HE4
  go_wp2_with fail
  refine (IsWhole_any _ _ _ HRm.out).mono ?_
  rw [decide_eq_true (show ((m : Int) : Rat).den = 1 from rfl)]
  rintro e w6 ⟨rfl, hE6⟩
  replace HBv := Lib.hid (HBv.out.ext hE6)
  replace HBm := Lib.hid (HBm.out.ext hE6)
  replace HRv := Lib.hid (HRv.out.ext hE6)
  replace HRm := Lib.hid (HRm.out.ext hE6)
  have HE6 := Lib.hid (HE5.out.trans hE6)
  clear hE6 HE5 p0 p1 p2 p3
  obtain ⟨p0, p1, p2, p3, _, _, _, _⟩ := HBm.out.cell4
  go_wp2_with fail
  refine (Num_any _ _ _ HRm.out).mono ?_
  rintro e w7 ⟨u7, rfl, hI7, hE7⟩
  obtain ⟨sh, Ah, lh, ch, rfl⟩ := hI7.shape
  replace HBv := Lib.hid (HBv.out.ext hE7)
  replace HRv := Lib.hid (HRv.out.ext hE7)
  have HE7 := Lib.hid (HE6.out.trans hE7)
  have HIh : Hid (IntIs w7 (.agg #[.bool sh, .slice Ah lh ch]) m) := hI7
  have hVlt := HBv.out.lt
  clear hI7 hE7 HE6 p0 p1 p2 p3 HBm HRm
  go_wp2_with fail
  generalize hwb : World.alloc w7 _ = wc
  obtain ⟨hBh, hE8⟩ := Blk.one hwb
  have HBh := Lib.hid hBh
  replace HIh := Lib.hid (HIh.out.ext hE8)
  replace HBv := Lib.hid (HBv.out.ext hE8)
  replace HRv := Lib.hid (HRv.out.ext hE8)
  have HE := Lib.hid (HE7.out.trans hE8)
  generalize w7.heap.size = H at *
  clear hwb hBh hE8 HE7
  have HFm : Hid (Fits m) := by have := HWm.out; unfold Hid Fits; omega
  have HF2 : Hid (Fits ((2 : Nat) : Int)) := by
    have : wl 2 ≤ 1 := wl_one.2 (by rw [W64_eq]; omega)
    unfold Hid Fits; rw [Int.natAbs_natCast]; omega
  refine wp_region_T 4 (fun w' => w'.cell? ⟨H, 0, none⟩ = some (.bool sh) ∧ w'.cell? ⟨H, 1, none⟩ = some (.slice Ah lh ch)) follows_mixed ?_
  refine wpT_take 0 rfl (by kernel_rfl) (fun _ _ _ h => h) (keepI2 HBh.out HBh.out (Fr.refl _ _).drew).1 (fun _ => yields_int rfl rfl rfl (fun _ h => h)) (fun hS => ?_)
  refine wpT_only 1 rfl (by kernel_rfl) rfl (fun K hK => ?_)
  go_simp
  refine (New_pos 2 _ (by rw [W64_eq]; omega) rfl rfl).mono ?_
  rintro e w9 ⟨u9, rfl, hI9, hF9⟩
  obtain ⟨s9, A9, l9, c9, rfl⟩ := hI9.shape
  replace hF9 := Fr.undrew hF9
  refine hK _ _ (keepI2 HBh.out HBh.out hF9).1 ?_
  refine wpT_only 2 rfl (by kernel_rfl) rfl (fun K hK => ?_)
  go_simp
  refine (Compare_any _ _ m ((2 : Nat) : Int) _ (HIh.out.ext hF9) hI9 HFm.out HF2.out).mono ?_
  rintro e wb ⟨rfl, hFb⟩
  have hXb := hF9.trans hFb
  refine hK _ _ (keepI2 HBh.out HBh.out hXb).1 ?_
  have hcmp : decide (cmpI m ((2 : Nat) : Int) < 0) = false := by
    rw [decide_eq_false_iff_not]; intro h; rw [cmpI_negI] at h; omega
  have hcmp2 : 0 ≤ cmpI m 2 := by
    rcases Int.lt_or_le (cmpI m 2) 0 with h | h
    · rw [cmpI_negI] at h; omega
    · exact h
  refine wpT_only 3 rfl (by kernel_rfl) rfl (fun K hK => ?_)
  go_simp
  refine hK _ _ (keepI2 HBh.out HBh.out hXb).1 ?_
  refine wpT_tail (l := []) 4 rfl (by kernel_rfl) ?_
  replace HBv := Lib.hid (HBv.out.ext hXb)
  replace HRv := Lib.hid (HRv.out.ext hXb)
  replace HBh := Lib.hid (HBh.out.ext hXb)
  replace HIh := Lib.hid (HIh.out.ext hXb)
  replace HE := Lib.hid (HE.out.trans hXb)
  clear hK hS hI9 hF9 hFb hXb
  go_wp2_with fail
  go_cut [11, 12] (fun s11 s12 wx => ∃ g11 : Nat, s11 = .pointer (some ⟨g11, 0, none⟩) ∧ s12 = .bool true ∧ Hid (RatNew wb wx g11 q))
  case first =>
    refine wp_region_T 9 (fun w' => (w'.cell? ⟨V, 0, none⟩ = some (.bool sv) ∧ w'.cell? ⟨V, 1, none⟩ = some (.slice Av lv cv) ∧ w'.cell? ⟨V, 2, none⟩ = some (.bool tv) ∧ w'.cell? ⟨V, 3, none⟩ = some (.slice Bv lv' cv')) ∧ (w'.cell? ⟨H, 0, none⟩ = some (.bool sh) ∧ w'.cell? ⟨H, 1, none⟩ = some (.slice Ah lh ch))) follows_mixed ?_
    refine wpT_take 0 rfl (by kernel_rfl) (fun _ _ _ h => h) (keepRI HBv.out HBh.out ((Fr.refl _ _).drew)) (fun _ => yields_rat rfl rfl rfl (fun _ h => h.1)) (fun hS => ?_)
    refine wpT_take 2 rfl (by kernel_rfl) (fun _ _ _ h => h) hS (fun _ => yields_int rfl rfl rfl (fun _ h => h.2)) (fun hS => ?_)
    refine wpT_each (rs := [1, 7]) (by kernel_rfl) (forall_two ?_ ?_)
    · refine ⟨_, rfl, rfl, fun K hK => ?_⟩
      go_simp
      refine (Num_any _ _ _ (HRv.out.ext ((Fr.refl _ _).drew))).mono ?_
      rintro e wn ⟨un, rfl, hIn, hFn⟩
      obtain ⟨sn, An, ln, cn, rfl⟩ := hIn.shape
      have hXn : Ext wb wn := ((Fr.refl _ _).drew).trans hFn
      refine hK _ _ (keepRI HBv.out HBh.out (hXn)) ?_
      refine wpT_each (rs := [3, 7]) (by kernel_rfl) (forall_two ?_ ?_)
      · refine ⟨_, rfl, rfl, fun K hK => ?_⟩
        go_simp
        refine (ReconstructRatio_any _ _ (v : Rat).num m _ (HG.out.ext (HE.out.trans (hXn))) (hIn.ext (Fr.refl _ _)) (HIh.out.ext (hXn)) HFv.out HWm.out h2 HGA.out).mono ?_
        rintro e wr ⟨xr, qr, okr, rfl, hRr, hRi, hFr⟩
        have hXr : Ext wb wr := (hXn).trans hFr
        obtain ⟨rfl, rfl⟩ := HQ.out qr okr hRi
        obtain ⟨sr, tr, Ar, Br, lr, cr, lr', cr', rfl, hJn, hJd⟩ := hRr
        refine hK _ _ (keepRI HBv.out HBh.out (hXr)) ?_
        refine wpT_each (rs := [4, 7]) (by kernel_rfl) (forall_two ?_ ?_)
        · refine ⟨_, rfl, rfl, fun K hK => ?_⟩
          go_simp
          refine hK _ _ (keepRI HBv.out HBh.out (hXr)) ?_
          refine wpT_take 5 (v := .agg #[.bool sr, .slice Ar lr cr, .bool tr, .slice Br lr' cr']) rfl (by kernel_rfl) (fun _ _ _ h => h) (keepRI HBv.out HBh.out (hXr)) (fun _ => Or.inl ⟨rfl, fun w _ => by go_simp⟩) (fun hS => ?_)
          refine wpT_take 6 (v := .bool true) rfl (by kernel_rfl) (fun _ _ _ h => h) hS (fun _ => Or.inl ⟨rfl, fun w _ => by go_simp⟩) (fun hS => ?_)
          refine wpT_each (rs := [7]) (by kernel_rfl) (forall_one ?_)
          refine ⟨_, rfl, rfl, fun K hK => ?_⟩
          go_simp
          refine hK _ _ (keepRI HBv.out HBh.out (hXr.alloc _)) ?_
          refine wpT_each (rs := [8]) (by kernel_rfl) (forall_one ?_)
          refine ⟨_, rfl, rfl, fun K hK => ?_⟩
          go_simp
          refine hK _ _ (keepRI HBv.out HBh.out (hXr.alloc _)) ?_
          refine wpT_tail (l := [_]) 9 rfl (by kernel_rfl) ?_
          go_wp2_with fail
          go_meet
          exact ⟨_, rfl, rfl, rat_new hXr hJn hJd⟩
        · refine ⟨_, rfl, rfl, fun K hK => ?_⟩
          go_simp
          refine hK _ _ (keepRI HBv.out HBh.out (hXr.alloc _)) ?_
          refine wpT_each (rs := [4]) (by kernel_rfl) (forall_one ?_)
          refine ⟨_, rfl, rfl, fun K hK => ?_⟩
          go_simp
          refine hK _ _ (keepRI HBv.out HBh.out (hXr.alloc _)) ?_
          refine wpT_take 5 (v := .agg #[.bool sr, .slice Ar lr cr, .bool tr, .slice Br lr' cr']) rfl (by kernel_rfl) (fun _ _ _ h => h) (keepRI HBv.out HBh.out (hXr.alloc _)) (fun _ => Or.inl ⟨rfl, fun w _ => by go_simp⟩) (fun hS => ?_)
          refine wpT_take 6 (v := .bool true) rfl (by kernel_rfl) (fun _ _ _ h => h) hS (fun _ => Or.inl ⟨rfl, fun w _ => by go_simp⟩) (fun hS => ?_)
          refine wpT_each (rs := [8]) (by kernel_rfl) (forall_one ?_)
          refine ⟨_, rfl, rfl, fun K hK => ?_⟩
          go_simp
          refine hK _ _ (keepRI HBv.out HBh.out (hXr.alloc _)) ?_
          refine wpT_tail (l := [_]) 9 rfl (by kernel_rfl) ?_
          go_wp2_with fail
          go_meet
          exact ⟨_, rfl, rfl, rat_new hXr hJn hJd⟩
      · refine ⟨_, rfl, rfl, fun K hK => ?_⟩
        go_simp
        refine hK _ _ (keepRI HBv.out HBh.out (hXn.alloc _)) ?_
        refine wpT_each (rs := [3]) (by kernel_rfl) (forall_one ?_)
        refine ⟨_, rfl, rfl, fun K hK => ?_⟩
        go_simp
        refine (ReconstructRatio_any _ _ (v : Rat).num m _ (HG.out.ext (HE.out.trans (hXn.alloc _))) (hIn.ext (((Fr.refl _ _).alloc _))) (HIh.out.ext (hXn.alloc _)) HFv.out HWm.out h2 HGA.out).mono ?_
        rintro e wr ⟨xr, qr, okr, rfl, hRr, hRi, hFr⟩
        have hXr : Ext wb wr := (hXn.alloc _).trans hFr
        obtain ⟨rfl, rfl⟩ := HQ.out qr okr hRi
        obtain ⟨sr, tr, Ar, Br, lr, cr, lr', cr', rfl, hJn, hJd⟩ := hRr
        refine hK _ _ (keepRI HBv.out HBh.out (hXr)) ?_
        refine wpT_each (rs := [4]) (by kernel_rfl) (forall_one ?_)
        refine ⟨_, rfl, rfl, fun K hK => ?_⟩
        go_simp
        refine hK _ _ (keepRI HBv.out HBh.out (hXr)) ?_
        refine wpT_take 5 (v := .agg #[.bool sr, .slice Ar lr cr, .bool tr, .slice Br lr' cr']) rfl (by kernel_rfl) (fun _ _ _ h => h) (keepRI HBv.out HBh.out (hXr)) (fun _ => Or.inl ⟨rfl, fun w _ => by go_simp⟩) (fun hS => ?_)
        refine wpT_take 6 (v := .bool true) rfl (by kernel_rfl) (fun _ _ _ h => h) hS (fun _ => Or.inl ⟨rfl, fun w _ => by go_simp⟩) (fun hS => ?_)
        have hb := (Blk.new wn 80 #[.bool false, .slice none 0 0, .bool false, .slice none 0 0]).ext hFr
        obtain ⟨f0, f1, f2, f3, f4, f5, f6, f7⟩ := hb.cell4
        refine wpT_each (rs := [8]) (by kernel_rfl) (forall_one ?_)
        refine ⟨_, rfl, rfl, fun K hK => ?_⟩
        go_simp
        refine hK _ _ (keepRI HBv.out HBh.out ((rat_put hXr hXn.size hb hJn hJd).2)) ?_
        refine wpT_tail (l := [_]) 9 rfl (by kernel_rfl) ?_
        go_wp2_with fail
        go_meet
        exact ⟨_, rfl, rfl, rat_put hXr hXn.size hb hJn hJd⟩
    · refine ⟨_, rfl, rfl, fun K hK => ?_⟩
      go_simp
      refine hK _ _ (keepRI HBv.out HBh.out (((Fr.refl _ _).drew).alloc _)) ?_
      refine wpT_each (rs := [1]) (by kernel_rfl) (forall_one ?_)
      refine ⟨_, rfl, rfl, fun K hK => ?_⟩
      go_simp
      refine (Num_any _ _ _ (HRv.out.ext (((Fr.refl _ _).drew).alloc _))).mono ?_
      rintro e wn ⟨un, rfl, hIn, hFn⟩
      obtain ⟨sn, An, ln, cn, rfl⟩ := hIn.shape
      have hXn : Ext wb wn := (((Fr.refl _ _).drew).alloc _).trans hFn
      refine hK _ _ (keepRI HBv.out HBh.out (hXn)) ?_
      refine wpT_each (rs := [3]) (by kernel_rfl) (forall_one ?_)
      refine ⟨_, rfl, rfl, fun K hK => ?_⟩
      go_simp
      refine (ReconstructRatio_any _ _ (v : Rat).num m _ (HG.out.ext (HE.out.trans (hXn))) (hIn.ext (Fr.refl _ _)) (HIh.out.ext (hXn)) HFv.out HWm.out h2 HGA.out).mono ?_
      rintro e wr ⟨xr, qr, okr, rfl, hRr, hRi, hFr⟩
      have hXr : Ext wb wr := (hXn).trans hFr
      obtain ⟨rfl, rfl⟩ := HQ.out qr okr hRi
      obtain ⟨sr, tr, Ar, Br, lr, cr, lr', cr', rfl, hJn, hJd⟩ := hRr
      refine hK _ _ (keepRI HBv.out HBh.out (hXr)) ?_
      refine wpT_each (rs := [4]) (by kernel_rfl) (forall_one ?_)
      refine ⟨_, rfl, rfl, fun K hK => ?_⟩
      go_simp
      refine hK _ _ (keepRI HBv.out HBh.out (hXr)) ?_
      refine wpT_take 5 (v := .agg #[.bool sr, .slice Ar lr cr, .bool tr, .slice Br lr' cr']) rfl (by kernel_rfl) (fun _ _ _ h => h) (keepRI HBv.out HBh.out (hXr)) (fun _ => Or.inl ⟨rfl, fun w _ => by go_simp⟩) (fun hS => ?_)
      refine wpT_take 6 (v := .bool true) rfl (by kernel_rfl) (fun _ _ _ h => h) hS (fun _ => Or.inl ⟨rfl, fun w _ => by go_simp⟩) (fun hS => ?_)
      have hb := ((Blk.new wb 80 #[.bool false, .slice none 0 0, .bool false, .slice none 0 0]).ext (Fr.undrew hFn)).ext hFr
      obtain ⟨f0, f1, f2, f3, f4, f5, f6, f7⟩ := hb.cell4
      refine wpT_each (rs := [8]) (by kernel_rfl) (forall_one ?_)
      refine ⟨_, rfl, rfl, fun K hK => ?_⟩
      go_simp
      refine hK _ _ (keepRI HBv.out HBh.out ((rat_put hXr (Nat.le_refl _) hb hJn hJd).2)) ?_
      refine wpT_tail (l := [_]) 9 rfl (by kernel_rfl) ?_
      go_wp2_with fail
      go_meet
      exact ⟨_, rfl, rfl, rat_put hXr (Nat.le_refl _) hb hJn hJd⟩
  case rest =>
    obtain ⟨g11, rfl, rfl, hT⟩ := hcut
    obtain ⟨⟨s, t, A, B, l, c, l', c', hB11, hn11, hd11⟩, hEx⟩ := hT.out
    have HR11 : Hid (RatIs _ (.agg #[.bool s, .slice A l c, .bool t, .slice B l' c']) q) := ⟨_, _, _, _, _, _, _, _, rfl, hn11, hd11⟩
    have HEx := Lib.hid (HE.out.trans hEx)
    obtain ⟨p0, p1, p2, p3, _, _, _, _⟩ := hB11.cell4
    clear hT hB11 hn11 hd11 hEx
    go_wp2_with fail
    refine (RString_frac _ q _ (HG.out.ext HEx.out) HR11.out HPn.out HPd.out HD1.out HIL.out).mono ?_
    rw [HRT.out]
    rintro e wz ⟨rfl, hFz⟩
    have HFz := Lib.hid (HEx.out.trans hFz)
    clear hFz p0 p1 p2 p3
    go_wp2
    go_ret2
    exact ⟨rfl, HFz.out⟩
end Go.Proofs.YtndafmjcelgnbaaGreatDoor

namespace Go.Proofs.YtndafmjcelgnbaaGreatDoor
open Go.RowKit

theorem itoa_one {n : Nat} (h : n < 10) : Lib.itoa (n : Int) = [UInt8.ofNat (48 + n)] := by
  unfold Lib.itoa
  rw [if_neg (by omega), Int.toNat_natCast, Lib.decDigits, dif_pos h]
theorem itoa_15 : Lib.itoa 15 = [49, 53] := by
  unfold Lib.itoa
  rw [if_neg (by omega), show (15 : Int).toNat = 15 from rfl, Lib.decDigits, dif_neg (by omega), Lib.decDigits, dif_pos (by omega)]
  rfl
theorem pr3 : Pr 3 := Pr.of_noDiv (d := 2) (by omega) (by omega) (NoDiv.two 3) (by omega) (by omega)
theorem pr5 : Pr 5 := Pr.of_noDiv (d := 3) (by omega) (by omega) (NoDiv.three (by omega)) (by omega) (by omega)
theorem crt_awake : crt (List.zip [2, 3] [3, 5]) = (8, 15) := by decide
theorem comb_awake {s t : List UInt8} {c : Int} (h : CombIs [2, 3] [3, 5] s t c) : s = [56] ∧ t = [49, 53] ∧ c = 0 := by
  have hp : ∀ p ∈ ([3, 5] : List Int), Pr p := by
    intro p hp
    simp at hp
    rcases hp with rfl | rfl
    · exact pr3
    · exact pr5
  have hn : ([3, 5] : List Int).Nodup := by decide
  rcases h with h | h | h | h | h
  · exact absurd rfl h.1
  · have := h.2.1; simp at this
  · obtain ⟨p, hp1, hp2⟩ := h.2.2.1
    exact absurd (hp p hp1) hp2
  · exact absurd hn h.2.2.2.1
  · obtain ⟨_, _, _, _, h1, h2, h3⟩ := h
    rw [crt_awake] at h1 h2
    exact ⟨h1.trans (itoa_one (n := 8) (by omega)), h2.trans itoa_15, h3⟩
theorem split8 : splitF [56] = (false, [56], [], true) := by decide
theorem split15 : splitF [49, 53] = (false, [49, 53], [], true) := by decide
theorem read8 : readF [56] = some ((8 : Int) : Rat) := by
  unfold readF
  rw [split8]
  rfl
theorem read15 : readF [49, 53] = some ((15 : Int) : Rat) := by
  unfold readF
  rw [split15]
  rfl
theorem readOk8 : ReadOk [56] := ⟨by simp, fun neg num den h hd => by rw [split8] at h; injection h with _ h; injection h with _ h; injection h with h _; exact absurd h.symm hd⟩
theorem readOk15 : ReadOk [49, 53] := ⟨by simp, fun neg num den h hd => by rw [split15] at h; injection h with _ h; injection h with _ h; injection h with h _; exact absurd h.symm hd⟩
theorem run_awake : RecRun 15 15 (8 % 15) 0 1 1 2 := by
  refine RecRun.step (by decide) ?_
  refine RecRun.step (by decide) ?_
  exact RecRun.done (by decide)
theorem rec_awake (q : Rat) (ok : Bool) (h : RecIs 8 15 q ok) : q = Rat.divInt 1 2 ∧ ok = true := by
  obtain ⟨r, t, h1, h2⟩ := h
  obtain ⟨rfl, rfl⟩ := h1.unique run_awake
  rcases h2 with h2 | h2
  · exact ⟨h2.2.2.2.2, h2.1⟩
  · exact absurd ⟨by decide, by decide, by decide⟩ h2.2.1
theorem half_parts : (Rat.divInt 1 2).num = 1 ∧ (Rat.divInt 1 2).den = 2 := by decide
theorem half_text : ratText (Rat.divInt 1 2) = [49, 47, 50] := by
  unfold ratText
  rw [half_parts.1, half_parts.2, if_neg (by omega)]
  rw [show (1 : Int) = ((1 : Nat) : Int) from rfl, itoa_one (by omega), itoa_one (n := 2) (by omega)]
  rfl

theorem iShows_two {w : World} {g : Nat} {x y : Int} {t : TypeId} (h : Blk t w g #[.int .i64 x, .int .i64 y]) : IShows w (some ⟨g, 0, none⟩) [x, y] := fun _ => by
  refine ⟨g, 0, rfl, h.lt, fun i hi => ?_⟩
  rw [Nat.zero_add, h.cell]
  rcases i with _ | _ | i
  · rfl
  · rfl
  · simp at hi; omega

set_option maxHeartbeats 2000000 in
set_option maxRecDepth 100000 in
theorem awake_any (w : World) (hg : Glob w) : Calls Tryz.prog 13 #[] w (RetV w (.bool true)) := by
  have HG := Lib.hid hg
  clear hg
  go_enter Tryz.func13, Tryz.ntmps13
  go_wp2_with fail
  generalize hwb : World.alloc (World.alloc w _) _ = wb
  obtain ⟨hB0, hB1, hE⟩ := two_blocks hwb
  clear hwb
  refine (Combine_any _ _ [2, 3] [3, 5] 2 2 2 2 _ (HG.out.ext hE) rfl rfl (iShows_two hB0) (iShows_two hB1) ?_ ?_ (by omega) (by omega) (by omega)).mono ?_
  · intro z hz; simp at hz; omega
  · intro z hz; simp at hz; omega
  rintro e w1 ⟨s, t, c, rfl, hC, hF1⟩
  obtain ⟨rfl, rfl, rfl⟩ := comb_awake hC
  have HE1 := Lib.hid (hE.trans hF1)
  clear hB0 hB1 hE hC hF1
  go_wp2_with fail
  have hp := half_parts
  refine (Reconstruct_frac ⟨#[56]⟩ ⟨#[49, 53]⟩ 8 15 (Rat.divInt 1 2) _ (HG.out.ext HE1.out) readOk8 readOk15 read8 read15 ?_ ?_ (by omega) (GcdAll.small ?_) rec_awake ?_ ?_ ?_ ?_).mono ?_
  · have : wl 8 ≤ 1 := wl_one.2 (by rw [W64_eq]; omega)
    unfold Fits; show wl 8 ≤ _; omega
  · have : wl 15 ≤ 1 := wl_one.2 (by rw [W64_eq]; omega)
    show wl 15 < _; omega
  · rw [W64_eq]; decide
  · rw [hp.1]; exact PrtOk.one (by rw [W64_eq]; decide)
  · rw [hp.2]; exact PrtOk.one (by rw [W64_eq]; decide)
  · rw [hp.2]; omega
  · rw [hp.1, show (1 : Int) = ((1 : Nat) : Int) from rfl, itoa_one (by omega)]; simp
  rw [half_text]
  rintro e w2 ⟨rfl, hF2⟩
  have HE2 := Lib.hid (HE1.out.trans hF2)
  clear hF2 hp
  go_wp2
  go_ret
  exact ⟨by first | rfl | (simp [Lib.toList_data]), HE2.out⟩

set_option maxHeartbeats 1000000 in
theorem modularPrimes_any (n : Int) (w : World) (hg : Glob w) (hn : n ≤ 9223372036854775807) : Calls Tryz.prog 5 #[.int .i64 n] w (RetV w (.bool true)) := by
  have HG := Lib.hid hg
  clear hg
  go_enter Tryz.func5, Tryz.ntmps5
  go_wp2_with fail
  refine (nextPrime_any n _ hn).mono ?_
  rintro e w1 ⟨p, ok, rfl, hN1, rfl⟩
  go_wp2_with fail
  refine (refNextPrime_any n _).mono ?_
  rintro e w1 ⟨p', ok', rfl, hN2, rfl⟩
  obtain ⟨rfl, rfl⟩ := hN1.unique hN2
  clear hN1 hN2
  obtain ⟨b, hb⟩ : ∃ b, prB n = b := ⟨_, rfl⟩
  have H1 := fun w => isPrime_any n w
  have H2 := fun w => refIsPrime_any n w
  rw [hb] at H1 H2
  clear hb
  go_wp2_with (first
    | (go_at_call 21; refine (H1 _).mono ?_; rintro e w' ⟨rfl, rfl⟩)
    | (go_at_call 22; refine (H2 _).mono ?_; rintro e w' ⟨rfl, rfl⟩))
  refine (awake_any _ HG.out).mono ?_
  rintro e w2 ⟨rfl, hF⟩
  have HF := Lib.hid hF
  clear hF
  go_wp2
  go_ret
  exact ⟨rfl, HF.out⟩
end Go.Proofs.YtndafmjcelgnbaaGreatDoor
