/-
  The law ModularCombinePrimes.
  The law ModularNumbers; package sosoptnum: R, Text of whole numbers of either sign.
  The law ModularReduceField.
-/
import Derived.Test.YtndafmjcelgnbaaGreatDoorM21
import Derived.Test.YtndafmjcelgnbaaGreatDoorM12
import Derived.Test.YtndafmjcelgnbaaGreatDoorM20
import Derived.Test.YtndafmjcelgnbaaGreatDoorM17
import Derived.Test.YtndafmjcelgnbaaGreatDoorM22
import Derived.Test.YtndafmjcelgnbaaGreatDoorM16
import Derived.Test.YtndafmjcelgnbaaGreatDoorM02
namespace Go.Proofs.YtndafmjcelgnbaaGreatDoor
open Go.RowKit

/-- numbers as integers -/
def ints (xs : List Nat) : List Int := xs.map fun x : Nat => (x : Int)
theorem ints_length (xs : List Nat) : (ints xs).length = xs.length := by simp [ints]
theorem ints_at' (xs : List Nat) (i : Nat) : (ints xs).getD i 0 = ((xs[i]?.getD 0 : Nat) : Int) := by
  rw [List.getD_eq_getElem?_getD, ints, List.getElem?_map]
  cases xs[i]? <;> rfl
theorem Shows.ints {w : World} {A : Option Addr} {xs : List Nat} (h : Shows .i64 w A xs) : IShows w A (ints xs) := fun hne => by
  obtain ⟨b, off, rfl, hb, hc⟩ := h (by intro e; subst e; exact hne rfl)
  refine ⟨b, off, rfl, hb, fun i hi => ?_⟩
  rw [ints_length] at hi
  rw [hc i hi, ints_at']
/-- the primes that have been found: each greater than those before it, the last is at most p -/
def Found (xs : List Nat) (p : Int) : Prop := (∀ x ∈ xs, Pr (x : Int) ∧ (x : Int) ≤ p) ∧ xs.Nodup
theorem Found.start (p : Int) : Found [] p := ⟨fun x hx => by simp at hx, by simp⟩
theorem Found.next {xs : List Nat} {p : Int} {q : Nat} (h : Found xs p) (hq : Pr (q : Int)) (hlt : p < (q : Int)) : Found (xs ++ [q]) (q : Int) := by
  refine ⟨fun x hx => ?_, ?_⟩
  · rcases List.mem_append.1 hx with k | k
    · have := h.1 x k; exact ⟨this.1, by omega⟩
    · simp at k; subst k; exact ⟨hq, by omega⟩
  · rw [List.nodup_append]
    refine ⟨h.2, by simp, fun a ha b hb e => ?_⟩
    simp at hb; subst hb; subst e
    have := (h.1 a ha).2; omega
theorem Found.all {xs : List Nat} {p : Int} (h : Found xs p) : (∀ x ∈ ints xs, Pr x) ∧ (ints xs).Nodup ∧ Int64s (ints xs) := by
  have h1 : ∀ x ∈ ints xs, Pr x := fun x hx => by
    obtain ⟨n, hn, rfl⟩ := List.mem_map.1 hx
    exact (h.1 n hn).1
  refine ⟨h1, ?_, fun z hz => ?_⟩
  · unfold ints
    exact List.pairwise_map.2 (h.2.imp (fun hne e => hne (by omega)))
  · have h2 := h1 z hz
    have := h2.1; have := h2.2.1; omega
/-- NextPrime below a known prime number -/
theorem NpIs.below {n p k : Int} {ok : Bool} (h : NpIs n p ok) (hk : Pr k) (hlt : n < k) : ok = true ∧ Pr p ∧ n < p ∧ p ≤ k := by
  rcases h with ⟨rfl, h1, h2, h3⟩ | ⟨rfl, rfl, h1⟩
  · refine ⟨rfl, h1, h2, ?_⟩
    rcases Int.lt_or_le k p with h4 | h4
    · exact absurd hk (h3 k hlt h4)
    · exact h4
  · exact absurd hk (h1 k hlt)
theorem invN_one {P : Nat} (h : 2 ≤ P) : invN 1 P = 1 := by
  unfold invN; rw [Nat.one_pow, Nat.mod_eq_of_lt (by omega)]
/-- the residue of a whole number -/
theorem RedIs.whole {l : List UInt8} {z p x : Int} {ok : Bool} (h : RedIs l p x ok) (hr : readF l = some (z : Rat)) (hp : Pr p) : ok = true ∧ x = z % p := by
  have hp2 := hp.1
  have e1 : (1 : Int) % p = 1 := Int.emod_eq_of_lt (by omega) (by omega)
  rcases h with ⟨rfl, _, q, h1, h2, rfl⟩ | ⟨rfl, rfl, h1⟩
  · rw [hr] at h1
    injection h1 with h1
    subst h1
    refine ⟨rfl, ?_⟩
    have d1 : (((z : Rat)).den : Int) = 1 := rfl
    have d2 : ((z : Rat)).num = z := rfl
    rw [d1, d2, e1]
    have : invN (1 : Int).toNat p.toNat = 1 := invN_one (by omega)
    rw [this]
    rw [Int.natCast_one, Int.mul_one, Int.emod_emod_of_dvd _ (Int.dvd_refl _)]
  · exfalso
    rcases h1 with h1 | h1 | ⟨q, h1, h2⟩
    · exact h1 hp
    · rw [hr] at h1; cases h1
    · rw [hr] at h1
      injection h1 with h1
      subst h1
      have d1 : (((z : Rat)).den : Int) = 1 := rfl
      rw [d1, e1] at h2; omega

end Go.Proofs.YtndafmjcelgnbaaGreatDoor

namespace Go.Proofs.YtndafmjcelgnbaaGreatDoor
open Go.RowKit

/-- digits are not in a block of a struct -/
theorem MagIs.other {t : TypeId} {w w' : World} {r n : Nat} {u : Value} {cs : Array Value} (h : MagIs w u n) (hB : Blk t w r cs) (hc : ∀ (i : Nat) (k : Int), cs[i]? ≠ some (.int .u32 k)) (hF : Fr (fun i => i = r) w w') : MagIs w' u n := by
  obtain ⟨B, xs, c, rfl, hc0, hX, hd, ht, hv⟩ := h
  refine ⟨B, xs, c, rfl, hc0, ?_, hd, ht, hv⟩
  by_cases hne : xs = []
  · subst hne; exact Shows.nil
  · obtain ⟨b, off, rfl, hb, hcs⟩ := hX hne
    refine hX.fr hF (fun a ha _ hs => ?_)
    injection ha with ha; subst ha
    have h0 := hcs 0 (List.length_pos_iff.2 hne)
    simp only at hs
    subst hs
    have h1 := hB.cell (off + 0)
    rw [h0] at h1
    exact hc _ _ h1.symm

set_option maxHeartbeats 1000000 in
/-- the law's own prime number -/
theorem prime_any (n : Int) (w : World) : Calls Tryz.prog 27 #[.int .i64 n] w fun e w' => (∃ P : Nat, e = .returned (.int .i64 (P : Int)) ∧ Hid (Pr (P : Int)) ∧ P ≤ 1000003) ∧ w = w' := by
  obtain ⟨m, hm⟩ : ∃ m, n % 100000 = m := ⟨_, rfl⟩
  have h1 : m < 1000003 := by omega
  have HM := Lib.hid (keepMod_same n 100000 w (by omega) (by omega))
  rw [hm] at HM
  clear hm
  go_enter Tryz.func27, Tryz.ntmps27
  go_wp2_with fail
  refine HM.out.mono ?_
  rintro e w1 ⟨rfl, rfl⟩
  go_wp2_with fail
  refine (refNextPrime_any m _).mono ?_
  rintro e w1 ⟨p, ok, rfl, hN, rfl⟩
  obtain ⟨rfl, k1, k2, k3⟩ := hN.below (kp_at (i := 0) (by omega)) (show m < 1000003 by omega)
  obtain ⟨P, rfl⟩ := Int.eq_ofNat_of_zero_le (show 0 ≤ p by have := k1.1; omega)
  have HP := Lib.hid k1
  have hPb : P ≤ 1000003 := by
    have e : kp.getD 0 0 = 1000003 := rfl
    rw [e] at k3; omega
  clear hN k1 k2 k3
  go_wp2
  go_ret
  exact ⟨⟨P, rfl, HP, hPb⟩, rfl⟩

end Go.Proofs.YtndafmjcelgnbaaGreatDoor

namespace Go.Proofs.YtndafmjcelgnbaaGreatDoor
open Go.RowKit

theorem readF_dec {l : List UInt8} {q : Rat} {k : Nat} (h : readF l = some q) (hl : l.length ≤ k) (hk : 1 ≤ k) : q.num.natAbs < 10 ^ k ∧ q.den < 10 ^ k := by
  unfold readF at h
  obtain ⟨⟨neg, num, den, ok⟩, hS⟩ : ∃ x, splitF l = x := ⟨_, rfl⟩
  rw [hS] at h
  cases ok with
  | false => cases h
  | true =>
    obtain ⟨d1, d2, d3⟩ := splitF_digits hS
    have hn : ∀ z, (sg neg z).natAbs = z := fun z => by unfold sg; split <;> omega
    have w1 : decVal num < 10 ^ k := Nat.lt_of_lt_of_le (decVal_lt num d1) (Nat.pow_le_pow_right (by omega) (by omega))
    have w2 : decVal den < 10 ^ k := Nat.lt_of_lt_of_le (decVal_lt den d2) (Nat.pow_le_pow_right (by omega) (by omega))
    simp only [] at h
    split at h
    · injection h with h
      subst h
      refine ⟨?_, ?_⟩
      · show (sg neg (decVal num)).natAbs < 10 ^ k
        rw [hn]; exact w1
      · show 1 < 10 ^ k
        exact Nat.one_lt_pow (by omega) (by omega)
    · split at h
      · rename_i hne hg
        injection h with h
        subst h
        have h2 := (splitF_den hS).1 hne
        obtain ⟨e1, e2⟩ := mkRat_parts (z := sg neg (decVal num)) h2 (by rw [hn]; exact hg)
        refine ⟨by rw [e1, hn]; exact w1, ?_⟩
        have e3 : (mkRat (sg neg (decVal num)) (decVal den)).den = decVal den := by
          unfold denF at e2
          split at e2 <;> omega
        rw [e3]; exact w2
      · cases h
theorem valF_dec {l : List UInt8} {k : Nat} (hl : l.length ≤ k) (hk : 1 ≤ k) : (valF l).num.natAbs < 10 ^ k ∧ (valF l).den < 10 ^ k := by
  cases h : readF l with
  | none => rw [valF_none h]; exact ⟨Nat.pow_pos (by omega), Nat.one_lt_pow (by omega) (by omega)⟩
  | some q => rw [valF_some h]; exact readF_dec h hl hk
theorem text_len {q : Rat} {k : Nat} (hk : 1 ≤ k) (h1 : q.num.natAbs < 10 ^ k) (h2 : q.den < 10 ^ k) : (ratText q).length ≤ 2 * k + 3 := by
  have a1 := itoa_le hk h1
  have a2 := itoa_le (z := (q.den : Int)) hk (by rw [Int.natAbs_natCast]; exact h2)
  unfold ratText
  split
  · omega
  · simp only [List.length_append, List.length_cons, List.length_nil]
    omega
theorem frac_small {q : Rat} {n d : Int} {k : Nat} (hd : d ≠ 0) (h : Rat.divInt n d = q) (h1 : n.natAbs < 10 ^ k) (h2 : d.natAbs < 10 ^ k) : q.num.natAbs < 10 ^ k ∧ q.den < 10 ^ k := by
  have hc := frac_cross hd h
  have hn : q.num.natAbs * d.natAbs = n.natAbs * q.den := by
    have := congrArg Int.natAbs hc
    rwa [Int.natAbs_mul, Int.natAbs_mul, Int.natAbs_natCast] at this
  have hcop := q.reduced
  have hd1 : q.den ∣ d.natAbs := (Nat.Coprime.symm hcop).dvd_of_dvd_mul_left ⟨n.natAbs, by rw [hn, Nat.mul_comm]⟩
  have hd0 : 0 < d.natAbs := by omega
  have hde := Nat.le_of_dvd hd0 hd1
  refine ⟨?_, by omega⟩
  have hn1 : q.num.natAbs ∣ n.natAbs := hcop.dvd_of_dvd_mul_right ⟨d.natAbs, hn.symm⟩
  rcases Nat.eq_zero_or_pos n.natAbs with e | e
  · rw [e, Nat.zero_mul] at hn
    rcases Nat.mul_eq_zero.1 hn with e2 | e2
    · rw [e2]; exact Nat.pow_pos (by omega)
    · omega
  · have := Nat.le_of_dvd e hn1; omega
/-- the lengths of the results -/
theorem res_len {a b : Rat} (ha : a.num.natAbs < 10 ^ 100 ∧ a.den < 10 ^ 100) (hb : b.num.natAbs < 10 ^ 100 ∧ b.den < 10 ^ 100) :
    (ratText (a + b)).length ≤ 570 ∧ (ratText (a * b)).length ≤ 570 ∧ (b.num ≠ 0 → (ratText (a / b)).length ≤ 570) := by
  obtain ⟨k, hk⟩ : ∃ k, 100 = k := ⟨_, rfl⟩
  rw [hk] at ha hb
  have mm : ∀ x y : Nat, x < 10 ^ k → y < 10 ^ k → x * y < 10 ^ (2 * k) := fun x y hx hy => by
    have := Nat.mul_lt_mul'' hx hy
    rwa [← Nat.pow_add, show k + k = 2 * k by omega] at this
  have up : ∀ x : Nat, x < 10 ^ (2 * k) → x < 10 ^ (2 * k + 1) := fun x hx => by
    rw [Nat.pow_succ]; omega
  have m1 := mm _ _ ha.1 hb.2
  have m2 := mm _ _ hb.1 ha.2
  have m3 := mm _ _ ha.2 hb.2
  have m4 := mm _ _ ha.1 hb.1
  have m5 := mm _ _ ha.2 hb.1
  have hs : (a.num * b.den + b.num * a.den).natAbs < 10 ^ (2 * k + 1) := by
    have := Int.natAbs_add_le (a.num * b.den) (b.num * a.den)
    rw [Int.natAbs_mul, Int.natAbs_mul, Int.natAbs_natCast, Int.natAbs_natCast] at this
    rw [Nat.pow_succ]; omega
  have hd : ((a.den : Int) * b.den).natAbs < 10 ^ (2 * k) := by rw [Int.natAbs_mul, Int.natAbs_natCast, Int.natAbs_natCast]; exact m3
  have nz := Int.mul_ne_zero (denI a) (denI b)
  refine ⟨?_, ?_, fun h0 => ?_⟩
  · obtain ⟨f1, f2⟩ := frac_small nz (rat_add_frac a b) hs (up _ hd)
    have := text_len (by omega) f1 f2; omega
  · obtain ⟨f1, f2⟩ := frac_small nz (rat_mul_frac a b) (by rw [Int.natAbs_mul]; exact m4) hd
    have := text_len (by omega) f1 f2; omega
  · obtain ⟨f1, f2⟩ := frac_small (Int.mul_ne_zero (denI a) h0) (rat_div_frac a b) (by rw [Int.natAbs_mul, Int.natAbs_natCast]; exact m1) (by rw [Int.natAbs_mul, Int.natAbs_natCast]; exact m5)
    have := text_len (by omega) f1 f2; omega
/-- Reduce of a canonical text -/
theorem RedIs.text {q : Rat} {p x : Int} {ok : Bool} (h : RedIs (ratText q) p x ok) (hP : Pr p) (hd : (q.den : Int) % p ≠ 0) : ok = true ∧ Rs p q x := h.of (read_text q) hP hd

theorem invIs_div {Y P : Nat} {i : Int} (hP : Pr (P : Int)) (yb : Y < P) (h3 : (Y : Int) % (P : Int) ≠ 0)
    (h4 : i = ((invN ((Y : Int) % (P : Int)).toNat (P : Int).toNat : Nat) : Int)) : 0 ≤ i ∧ i < P ∧ ∃ k : Int, (Y : Int) * i = 1 + (P : Int) * k := by
  have hym : (Y : Int) % (P : Int) = (Y : Int) := Int.emod_eq_of_lt (by omega) (by omega)
  rw [hym, show ((Y : Int)).toNat = Y by omega, show ((P : Int)).toNat = P by omega] at h4
  have hyn : Y % P ≠ 0 := fun e => h3 (by rw [hym]; rw [Nat.mod_eq_of_lt yb] at e; omega)
  have h5 := invN_mul hP hyn
  have h6 := Nat.div_add_mod (Y * invN Y P) P
  rw [h5] at h6
  have h7 : invN Y P < P := Nat.mod_lt _ (by omega)
  have h8 : (P : Int) * ((Y * invN Y P / P : Nat) : Int) + 1 = (Y : Int) * (invN Y P : Int) := by exact_mod_cast h6
  exact ⟨by omega, by omega, ((Y * invN Y P / P : Nat) : Int), by rw [h4]; omega⟩

set_option maxHeartbeats 4000000 in
set_option maxRecDepth 100000 in
theorem modularReduceField_any (a b : ByteArray) (n : Int) (w : World) (hg : Glob w) :
    Calls Tryz.prog 11 #[.string a, .string b, .int .i64 n] w (RetV w (.bool true)) := by
  have HG := Lib.hid hg
  obtain ⟨r, hr⟩ : ∃ r, [a, b].all (fun s => decide ((s.size : Int) ≤ 100)) = r := ⟨_, rfl⟩
  have HR := Lib.hid hr
  have HSh := Lib.hid (keepShort_any 100 w.heap.size 2 [a, b] (w.alloc (.cells #[.string a, .string b] 9)) rfl (by omega) (fun i hi => by
    have hB := (Blk.new w 9 #[.string a, .string b]).cell i
    rcases (by omega : i = 0 ∨ i = 1) with e | e <;> subst e <;> rw [hB] <;> rfl) r hr)
  have HE0 : Hid (Ext w (w.alloc (.cells #[.string a, .string b] 9))) := (Fr.refl _ _).alloc _
  clear hg hr
  go_enter Tryz.func11, Tryz.ntmps11
  go_wp2_with fail
  refine HSh.out.mono ?_
  rintro e w0 ⟨rfl, rfl⟩
  generalize w.alloc (.cells #[.string a, .string b] 9) = w0 at *
  clear HSh
  cases r with
  | false =>
    go_wp2_with fail
    refine (awake_any _ (HG.out.ext HE0.out)).mono ?_
    rintro e w1 ⟨rfl, hF⟩
    have HF := Lib.hid (HE0.out.trans hF)
    clear hF
    go_wp2
    go_ret
    exact ⟨rfl, HF.out⟩
  | true =>
    have HL : Hid ((bytes a).length ≤ 100 ∧ (bytes b).length ≤ 100) := by
      have := HR.out
      simp only [List.all_cons, List.all_nil, Bool.and_true, Bool.and_eq_true, decide_eq_true_eq] at this
      unfold Hid; rw [bytes_length, bytes_length]; omega
    clear HR
    go_wp2_with fail
    refine (prime_any n w0).mono ?_
    rintro e w1 ⟨⟨P, rfl, hP, hPb⟩, rfl⟩
    have HP := Lib.hid hP.out
    have hP2 : 2 ≤ P := by have := hP.out.1; omega
    clear hP
    go_wp2_with fail
    refine (Reduce_any a (P : Int) _ (HG.out.ext HE0.out) (ReadOk.of_len (by have := HL.out.1; omega))).mono ?_
    rintro e w1 ⟨x, o1, rfl, hR1, hF1⟩
    have HR1 := Lib.hid hR1
    have HE1 := Lib.hid (HE0.out.trans hF1)
    clear hR1 hF1 HE0
    go_wp2_with fail
    refine (Reduce_any b (P : Int) _ (HG.out.ext HE1.out) (ReadOk.of_len (by have := HL.out.2; omega))).mono ?_
    rintro e w2 ⟨y, o2, rfl, hR2, hF2⟩
    have HR2 := Lib.hid hR2
    have HE2 := Lib.hid (HE1.out.trans hF2)
    clear hR2 hF2 HE1
    cases o1 with
    | false =>
      go_wp2_with fail
      refine (awake_any _ (HG.out.ext HE2.out)).mono ?_
      rintro e w3 ⟨rfl, hF⟩
      have HF := Lib.hid (HE2.out.trans hF)
      clear hF
      go_wp2
      go_ret
      exact ⟨rfl, HF.out⟩
    | true =>
      cases o2 with
      | false =>
        go_wp2_with fail
        refine (awake_any _ (HG.out.ext HE2.out)).mono ?_
        rintro e w3 ⟨rfl, hF⟩
        have HF := Lib.hid (HE2.out.trans hF)
        clear hF
        go_wp2
        go_ret
        exact ⟨rfl, HF.out⟩
      | true =>
        obtain ⟨qa, ra, _, da, sa⟩ := HR1.out.rs
        obtain ⟨qb, rb, _, db, sb⟩ := HR2.out.rs
        have va := valF_some ra
        have vb := valF_some rb
        obtain ⟨X, rfl⟩ := Int.eq_ofNat_of_zero_le sa.1
        obtain ⟨Y, rfl⟩ := Int.eq_ofNat_of_zero_le sb.1
        have xb : X < P := by have := sa.2.1; omega
        have yb : Y < P := by have := sb.2.1; omega
        have fa := valF_dec HL.out.1 (by decide)
        have fb := valF_dec HL.out.2 (by decide)
        rw [va] at fa
        rw [vb] at fb
        obtain ⟨l1, l2, l3⟩ := res_len fa fb
        have HA := Lib.hid (fun W (hW : Glob W) => TAdd_any a b W hW (by have := HL.out.1; omega) (by have := HL.out.2; omega))
        have HM := Lib.hid (fun W (hW : Glob W) => TMul_any a b W hW (by have := HL.out.1; omega) (by have := HL.out.2; omega))
        have HD0 := Lib.hid (fun W (hW : Glob W) => TDiv_zero a b W hW (by have := HL.out.1; omega) (by have := HL.out.2; omega))
        have HD1 := Lib.hid (fun W (hW : Glob W) => TDiv_nz a b W hW (by have := HL.out.1; omega) (by have := HL.out.2; omega))
        rw [va, vb] at HA HM HD1
        rw [vb] at HD0
        have hadd := fun s => rs_add (s := s) HP.out da db sa sb
        have hmul := fun s => rs_mul (s := s) HP.out da db sa sb
        have HRA := Lib.hid (fun W (hW : Glob W) => Reduce_any ⟨(ratText (qa + qb)).toArray⟩ (P : Int) W hW (ReadOk.of_len (by rw [bytes_of]; exact l1)))
        have HRM := Lib.hid (fun W (hW : Glob W) => Reduce_any ⟨(ratText (qa * qb)).toArray⟩ (P : Int) W hW (ReadOk.of_len (by rw [bytes_of]; exact l2)))
        have HRD := Lib.hid (fun (h0 : qb.num ≠ 0) W (hW : Glob W) => Reduce_any ⟨(ratText (qa / qb)).toArray⟩ (P : Int) W hW (ReadOk.of_len (by rw [bytes_of]; exact l3 h0)))
        simp only [bytes_of] at HRA HRM HRD
        have FA : Hid (∀ s ok, RedIs (ratText (qa + qb)) (P : Int) s ok → ok = true ∧ s = ((X : Int) + (Y : Int)) % (P : Int)) := fun s ok h => by
          obtain ⟨h1, h2⟩ := h.text HP.out (hadd 0).1
          exact ⟨h1, (hadd s).2 h2⟩
        have FM : Hid (∀ s ok, RedIs (ratText (qa * qb)) (P : Int) s ok → ok = true ∧ s = ((X : Int) * (Y : Int)) % (P : Int)) := fun s ok h => by
          obtain ⟨h1, h2⟩ := h.text HP.out (hmul 0).1
          exact ⟨h1, (hmul s).2 h2⟩
        have FD : Hid (∀ i ok, InvIs (Y : Int) (P : Int) i ok → ok = true → 0 ≤ i ∧ i ≤ 1000003 ∧ qb.num ≠ 0 ∧ ∀ s ok, RedIs (ratText (qa / qb)) (P : Int) s ok → ok = true ∧ s = ((X : Int) * i) % (P : Int)) := fun i ok h ho => by
          rcases h with ⟨_, _, h3, h4⟩ | ⟨h, _⟩
          · obtain ⟨k1, k2, k3⟩ := invIs_div HP.out yb h3 h4
            obtain ⟨g1, g2, g3⟩ := rs_div (i := i) (s := 0) HP.out da db sa sb h3 k3
            refine ⟨k1, by omega, g1, fun s ok hs => ?_⟩
            obtain ⟨m1, m2⟩ := hs.text HP.out g2
            exact ⟨m1, (rs_div (i := i) (s := s) HP.out da db sa sb h3 k3).2.2 m2⟩
          · rw [h] at ho; cases ho
        have HQ0 : Hid (qb.num = 0 → ∀ i ok, InvIs (Y : Int) (P : Int) i ok → ok = false) := fun h0 i ok h => by
          cases ok with
          | false => rfl
          | true => exact absurd h0 (FD.out i true h rfl).2.2.1
        generalize ratText (qa + qb) = ta at *
        generalize ratText (qa * qb) = tm at *
        generalize ratText (qa / qb) = td at *
        clear ra rb da db sa sb va vb fa fb l1 l2 l3 hadd hmul HR1 HR2 HL
        have hp0 : ((P : Int) == 0) = false := by simp; omega
        have hp1 : ¬ (P : Int) = 0 := by omega
        have hp3 : P ≠ 0 := by omega
        obtain ⟨S, hS⟩ : ∃ S : Nat, ((X : Int) + (Y : Int)) % (P : Int) = (S : Int) := ⟨(X + Y) % P, by rw [← Int.natCast_add]; rfl⟩
        have hS2 : ((X : Int) + (Y : Int)).tmod (P : Int) = (S : Int) := by rw [Int.tmod_eq_emod_of_nonneg (by omega)]; exact hS
        obtain ⟨M, hM⟩ : ∃ M : Nat, ((X : Int) * (Y : Int)) % (P : Int) = (M : Int) := ⟨(X * Y) % P, by rw [← Int.natCast_mul]; rfl⟩
        have hM2 : ((X : Int) * (Y : Int)).tmod (P : Int) = (M : Int) := by rw [Int.tmod_eq_emod_of_nonneg (Int.mul_nonneg (by omega) (by omega))]; exact hM
        rw [hS] at FA
        rw [hM] at FM
        have hXY : (X : Int) * (Y : Int) ≤ 1000003 * 1000003 := by
          have := Nat.mul_le_mul (show X ≤ 1000003 by omega) (show Y ≤ 1000003 by omega)
          rw [← Int.natCast_mul]; omega
        have hXY0 : 0 ≤ (X : Int) * (Y : Int) := Int.mul_nonneg (by omega) (by omega)
        have c1 : IntKind.i64.wrap ((X : Int) * (Y : Int)) = (X : Int) * (Y : Int) := IntWalk.i64_in _ (by omega)
        go_wp2_with fail
        refine (HA.out _ (HG.out.ext HE2.out)).mono ?_
        rintro e w3 ⟨rfl, hF3⟩
        have HE3 := Lib.hid (HE2.out.trans hF3)
        clear hF3 HE2
        go_wp2_with fail
        refine (HRA.out _ (HG.out.ext HE3.out)).mono ?_
        rintro e w4 ⟨s, o3, rfl, hR, hF4⟩
        obtain ⟨rfl, rfl⟩ := FA.out _ _ hR
        have HE4 := Lib.hid (HE3.out.trans hF4)
        clear hF4 HE3 hR
        go_wp2_with fail
        refine (HM.out _ (HG.out.ext HE4.out)).mono ?_
        rintro e w5 ⟨rfl, hF5⟩
        have HE5 := Lib.hid (HE4.out.trans hF5)
        clear hF5 HE4
        go_wp2_with fail
        refine (HRM.out _ (HG.out.ext HE5.out)).mono ?_
        rintro e w6 ⟨m, o4, rfl, hR, hF6⟩
        obtain ⟨rfl, rfl⟩ := FM.out _ _ hR
        have HE6 := Lib.hid (HE5.out.trans hF6)
        clear hF6 HE5 hR
        by_cases h0 : qb.num = 0
        · have HD := Lib.hid (fun W hW => HD0.out W hW h0)
          have HQ := Lib.hid (HQ0.out h0)
          clear HD0 HD1 HQ0 FD HRD
          go_wp2_with fail
          refine (HD.out _ (HG.out.ext HE6.out)).mono ?_
          rintro e w7 ⟨rfl, hF7⟩
          have HE7 := Lib.hid (HE6.out.trans hF7)
          clear hF7 HE6
          go_wp2_with fail
          refine (Inverse_any (Y : Int) (P : Int) _ (by omega) (by omega)).mono ?_
          rintro e w8 ⟨i, o5, rfl, hI, hF8⟩
          obtain rfl := HQ.out _ _ hI
          have HE8 := Lib.hid (HE7.out.trans hF8)
          clear hF8 HE7 hI
          go_wp2_with fail
          refine (awake_any _ (HG.out.ext HE8.out)).mono ?_
          rintro e w9 ⟨rfl, hF⟩
          have HF := Lib.hid (HE8.out.trans hF)
          clear hF
          go_wp2
          go_ret
          exact ⟨rfl, HF.out⟩
        · have HD := Lib.hid (fun W hW => HD1.out W hW h0)
          have HRDn := Lib.hid (HRD.out h0)
          clear HD0 HD1 HQ0 HRD h0
          go_wp2_with fail
          refine (HD.out _ (HG.out.ext HE6.out)).mono ?_
          rintro e w7 ⟨rfl, hF7⟩
          have HE7 := Lib.hid (HE6.out.trans hF7)
          clear hF7 HE6
          go_wp2_with fail
          refine (Inverse_any (Y : Int) (P : Int) _ (by omega) (by omega)).mono ?_
          rintro e w8 ⟨i, o5, rfl, hI, hF8⟩
          have HE8 := Lib.hid (HE7.out.trans hF8)
          have HI := Lib.hid (FD.out _ _ hI)
          clear hF8 HE7 hI FD
          cases o5 with
          | false =>
            go_wp2_with fail
            refine (awake_any _ (HG.out.ext HE8.out)).mono ?_
            rintro e w9 ⟨rfl, hF⟩
            have HF := Lib.hid (HE8.out.trans hF)
            clear hF
            go_wp2
            go_ret
            exact ⟨rfl, HF.out⟩
          | true =>
            obtain ⟨i0, i1, _, hi⟩ := HI.out rfl
            obtain ⟨I, rfl⟩ := Int.eq_ofNat_of_zero_le i0
            have HI2 := Lib.hid hi
            clear hi HI
            obtain ⟨Z, hZ⟩ : ∃ Z : Nat, ((X : Int) * (I : Int)) % (P : Int) = (Z : Int) := ⟨(X * I) % P, by rw [← Int.natCast_mul]; rfl⟩
            have hZ2 : ((X : Int) * (I : Int)).tmod (P : Int) = (Z : Int) := by rw [Int.tmod_eq_emod_of_nonneg (Int.mul_nonneg (by omega) (by omega))]; exact hZ
            rw [hZ] at HI2
            have hXI : (X : Int) * (I : Int) ≤ 1000003 * 1000003 := by
              have := Nat.mul_le_mul (show X ≤ 1000003 by omega) (show I ≤ 1000003 by omega)
              rw [← Int.natCast_mul]; omega
            have hXI0 : 0 ≤ (X : Int) * (I : Int) := Int.mul_nonneg (by omega) (by omega)
            have c2 : IntKind.i64.wrap ((X : Int) * (I : Int)) = (X : Int) * (I : Int) := IntWalk.i64_in _ (by omega)
            go_wp2_with fail
            refine (HRDn.out _ (HG.out.ext HE8.out)).mono ?_
            rintro e w9 ⟨d, o6, rfl, hR, hF9⟩
            obtain ⟨rfl, rfl⟩ := HI2.out _ _ hR
            have HE9 := Lib.hid (HE8.out.trans hF9)
            clear hF9 HE8 hR
            go_wp2_with fail
            refine (awake_any _ (HG.out.ext HE9.out)).mono ?_
            rintro e w10 ⟨rfl, hF⟩
            have HF := Lib.hid (HE9.out.trans hF)
            clear hF
            go_wp2
            go_ret
            exact ⟨rfl, HF.out⟩
end Go.Proofs.YtndafmjcelgnbaaGreatDoor
