/-
  The law ModularCombinePrimes.
  The law ModularNumbers; package sosoptnum: R, Text of whole numbers of either sign.
-/
import Derived.Test.YtndafmjcelgnbaaGreatDoorM18
import Derived.Test.YtndafmjcelgnbaaGreatDoorM12
import Derived.Test.YtndafmjcelgnbaaGreatDoorM17
import Derived.Test.YtndafmjcelgnbaaGreatDoorM16
namespace Go.Proofs.YtndafmjcelgnbaaGreatDoor
open Go.RowKit

theorem infoInt : (Tryz.prog.info? 3).map (fun i => (i.zero, i.size, i.bytes)) = some (some (.int .i64 0), 1, 8) := by kernel_rfl
/-- numbers as integers -/
def ints (xs : List Nat) : List Int := xs.map fun x : Nat => (x : Int)
theorem ints_length (xs : List Nat) : (ints xs).length = xs.length := by simp [ints]
theorem ints_at' (xs : List Nat) (i : Nat) : (ints xs).getD i 0 = ((xs[i]?.getD 0 : Nat) : Int) := by
  rw [List.getD_eq_getElem?_getD, ints, List.getElem?_map]
  cases xs[i]? <;> rfl
theorem Shows.ints {w : World} {A : Option Addr} {xs : List Nat} (h : Shows .i64 w A xs) : IShows w A (ints xs) := fun hne => by
  obtain ⟨b, off, rfl, hb, hc⟩ := h (by intro e; subst e; exact hne rfl)
  refine ⟨b, off, rfl, hb, fun i hi => ?_⟩
  rw [ints_length] at hi
  rw [hc i hi, ints_at']
/-- the primes that have been found: each greater than those before it, the last is at most p -/
def Found (xs : List Nat) (p : Int) : Prop := (∀ x ∈ xs, Pr (x : Int) ∧ (x : Int) ≤ p) ∧ xs.Nodup
theorem Found.start (p : Int) : Found [] p := ⟨fun x hx => by simp at hx, by simp⟩
theorem Found.next {xs : List Nat} {p : Int} {q : Nat} (h : Found xs p) (hq : Pr (q : Int)) (hlt : p < (q : Int)) : Found (xs ++ [q]) (q : Int) := by
  refine ⟨fun x hx => ?_, ?_⟩
  · rcases List.mem_append.1 hx with k | k
    · have := h.1 x k; exact ⟨this.1, by omega⟩
    · simp at k; subst k; exact ⟨hq, by omega⟩
  · rw [List.nodup_append]
    refine ⟨h.2, by simp, fun a ha b hb e => ?_⟩
    simp at hb; subst hb; subst e
    have := (h.1 a ha).2; omega
theorem Found.all {xs : List Nat} {p : Int} (h : Found xs p) : (∀ x ∈ ints xs, Pr x) ∧ (ints xs).Nodup ∧ Int64s (ints xs) := by
  have h1 : ∀ x ∈ ints xs, Pr x := fun x hx => by
    obtain ⟨n, hn, rfl⟩ := List.mem_map.1 hx
    exact (h.1 n hn).1
  refine ⟨h1, ?_, fun z hz => ?_⟩
  · unfold ints
    exact List.pairwise_map.2 (h.2.imp (fun hne e => hne (by omega)))
  · have h2 := h1 z hz
    have := h2.1; have := h2.2.1; omega
/-- NextPrime below a known prime number -/
theorem NpIs.below {n p k : Int} {ok : Bool} (h : NpIs n p ok) (hk : Pr k) (hlt : n < k) : ok = true ∧ Pr p ∧ n < p ∧ p ≤ k := by
  rcases h with ⟨rfl, h1, h2, h3⟩ | ⟨rfl, rfl, h1⟩
  · refine ⟨rfl, h1, h2, ?_⟩
    rcases Int.lt_or_le k p with h4 | h4
    · exact absurd hk (h3 k hlt h4)
    · exact h4
  · exact absurd hk (h1 k hlt)
/-- the text of a number below the product of twelve small prime numbers -/
theorem readOk_itoa {z : Int} (h0 : 0 ≤ z) (h : z ≤ 2147483647 ^ 12) : ReadOk (Lib.itoa z) := by
  refine ⟨?_, fun neg num den hs hne => ?_⟩
  · rw [itoa_nn h0]
    rcases Nat.eq_zero_or_pos z.natAbs with e | e
    · rw [e, dec_one (by omega)]; simp
    · have h1 : z.natAbs < 10 ^ 120 := by
        have h2 : (z.natAbs : Int) ≤ ((2147483647 ^ 12 : Nat) : Int) := by
          rw [Int.natCast_pow]; omega
        have h3 : (2147483647 : Nat) ^ 12 < 10 ^ 120 := by decide
        omega
      have := topText_le 120 z.natAbs h1
      rw [topText_pos e] at this
      omega
  · rw [split_itoa] at hs
    injection hs with _ hs
    injection hs with _ hs
    injection hs with hs _
    exact absurd hs.symm hne
theorem invN_one {P : Nat} (h : 2 ≤ P) : invN 1 P = 1 := by
  unfold invN; rw [Nat.one_pow, Nat.mod_eq_of_lt (by omega)]
/-- the residue of a whole number -/
theorem RedIs.whole {l : List UInt8} {z p x : Int} {ok : Bool} (h : RedIs l p x ok) (hr : readF l = some (z : Rat)) (hp : Pr p) : ok = true ∧ x = z % p := by
  have hp2 := hp.1
  have e1 : (1 : Int) % p = 1 := Int.emod_eq_of_lt (by omega) (by omega)
  rcases h with ⟨rfl, _, q, h1, h2, rfl⟩ | ⟨rfl, rfl, h1⟩
  · rw [hr] at h1
    injection h1 with h1
    subst h1
    refine ⟨rfl, ?_⟩
    have d1 : (((z : Rat)).den : Int) = 1 := rfl
    have d2 : ((z : Rat)).num = z := rfl
    rw [d1, d2, e1]
    have : invN (1 : Int).toNat p.toNat = 1 := invN_one (by omega)
    rw [this]
    rw [Int.natCast_one, Int.mul_one, Int.emod_emod_of_dvd _ (Int.dvd_refl _)]
  · exfalso
    rcases h1 with h1 | h1 | ⟨q, h1, h2⟩
    · exact h1 hp
    · rw [hr] at h1; cases h1
    · rw [hr] at h1
      injection h1 with h1
      subst h1
      have d1 : (((z : Rat)).den : Int) = 1 := rfl
      rw [d1, e1] at h2; omega

set_option maxHeartbeats 4000000 in
set_option maxRecDepth 100000 in
theorem modularCombinePrimes_any (A : Option Addr) (rs : List Int) (n c : Nat) (st : Int) (w : World) (hg : Glob w) (hn : rs.length = n) (hR : IShows w A rs) (iR : Int64s rs) :
    Calls Tryz.prog 9 #[.slice A n c, .int .i64 st] w (RetV w (.bool true)) := by
  by_cases h12 : 12 < n
  · have HG := Lib.hid hg
    clear hg hn hR iR
    go_enter Tryz.func9, Tryz.ntmps9
    go_wp2_with fail
    refine (awake_any _ HG.out).mono ?_
    rintro e w3 ⟨rfl, hF3⟩
    have HF3 := Lib.hid hF3
    clear hF3
    go_wp2
    go_ret
    exact ⟨rfl, HF3.out⟩
  have t1 : decide ((12 : Int) < (n : Int)) = false := by simp; omega
  have HG := Lib.hid hg
  have HN := Lib.hid hn
  have HR := Lib.hid hR
  have IR := Lib.hid iR
  obtain ⟨p0, hp0⟩ : ∃ p0 : Int, st % 1000000 = p0 := ⟨_, rfl⟩
  have hp1 : 0 ≤ p0 := by omega
  have hp2 : p0 ≤ 999999 := by omega
  have HM := Lib.hid (keepMod_same st 1000000 w (by omega) (by omega))
  rw [hp0] at HM
  clear hg hn hR iR hp0
  go_enter Tryz.func9, Tryz.ntmps9
  go_wp2_with fail
  refine HM.out.mono ?_
  rintro e w1 ⟨rfl, rfl⟩
  clear HM
  go_wp2
  go_loopw [5, 6, 7] (fun sv pv iv wr => ∃ (i : Nat) (xs : List Nat) (p : Int) (A2 : Option Addr) (c2 : Nat), i ≤ n ∧ xs.length = i ∧ sv = .slice A2 i c2 ∧ pv = .int .i64 p ∧ iv = .int .i64 (i : Int) ∧ 0 ≤ p ∧ p ≤ 1000183 ∧ Hid (p < kp.getD i 0) ∧ Hid (Found xs p) ∧ Hid (Buf .i64 3 wr A2 c2 xs) ∧ Hid (∀ b, AtBlock A2 b → w.heap.size ≤ b) ∧ Hid (Ext w wr)) (fun _ _ iv _ => n - (intOf iv).toNat)
  case atStart => exact ⟨0, [], p0, none, 0, Nat.zero_le _, rfl, rfl, rfl, rfl, hp1, by omega, by show p0 < 1000003; omega, Found.start _, Buf.nil, (fun b hb => (noneB b hb).elim), Fr.refl _ _⟩
  case round =>
    obtain ⟨i, xs, p, A2, c2, hi, rfl, rfl, rfl, rfl, hq1, hq2, hK, hFd, hB, hA, hE⟩ := hrel
    by_cases hlt : xs.length < n
    · go_wp2_with fail
      refine (nextPrime_any p _ (by omega)).mono ?_
      rintro e w1 ⟨q, ok, rfl, hN, rfl⟩
      obtain ⟨rfl, k1, k2, k3⟩ := hN.below (kp_at (i := xs.length) (by omega)) hK.out
      obtain ⟨Q, rfl⟩ := Int.eq_ofNat_of_zero_le (show 0 ≤ q by omega)
      have hb := kp_bound (i := xs.length)
      have hnx := kp_next (i := xs.length) (by omega)
      have HK2 : Hid ((Q : Int) < kp.getD (xs.length + 1) 0) := by unfold Hid; omega
      have HFd2 := Lib.hid (hFd.out.next k1 k2)
      have tq : decide ((Q : Int) ≤ p) = false := by simp; omega
      have hQb : (Q : Int) ≤ 1000183 := by omega
      clear hN k1 hnx hb k3
      have hSh : Hid (Shows .i64 (wr.alloc (.cells #[.int .i64 (Q : Int)] 3)) (some ⟨wr.heap.size, 0, none⟩) [Q]) := (Own.new wr 3 .i64 [Q] []).shows0
      go_wp2_with (at_builtin; refine Hid.out ?_)
      refine Lib.hid ?_
      refine wpList_append_words rfl _ _ _ rfl _ .i64 8 Tryz.underlying22 infoInt A2 (some ⟨wr.heap.size, 0, none⟩) xs.length 1 c2 1 rfl rfl xs [Q] rfl rfl (hB.out.ext ((Fr.refl _ _).alloc _)) hSh.out (by simp only [maxLen]; omega) (by omega) ?_
      intro A3 c3 w3 hB3 hF3 hA3
      have HB3 := Lib.hid hB3
      have HA3 : Hid (∀ b, AtBlock A3 b → w.heap.size ≤ b) := fun b hb => by
        rcases hA3 b hb with k | k
        · exact hA.out b k
        · have := hE.out.size; simp at k; omega
      have HE3 : Hid (Ext w w3) := (hE.out.alloc _).next hF3 (fun j hj hb => by have := hA.out j hb; omega)
      clear hB3 hF3 hA3 hSh
      go_wp2
      go_roundw
      case rel => exact ⟨xs.length + 1, xs ++ [Q], (Q : Int), A3, c3, by omega, by simp, rfl, rfl, by go_num, by omega, hQb, HK2, HFd2, HB3, HA3, HE3⟩
      case measure => simp [intOf]; omega
    · obtain rfl : xs.length = n := by omega
      obtain ⟨f1, f2, f3⟩ := hFd.out.all
      have hsh := hB.out.shows.ints
      have hlen : rs.length = (ints xs).length := by rw [HN.out, ints_length]
      have HC := Lib.hid (Combine_any A A2 rs (ints xs) xs.length xs.length c c2 wr (HG.out.ext hE.out) HN.out (ints_length xs) (HR.out.ext hE.out) hsh IR.out f3 hB.out.len (by omega) (by omega))
      have hk12 : (ints xs).length ≤ 12 := by rw [ints_length]; omega
      have hAP : AllPr (ints xs) (ints xs).length := fun i hi => f1 _ (getD_mem hi)
      have hres := crt_residue hlen (ints xs).length (Nat.le_refl _) hAP (by rw [List.take_length]; exact f2)
      have hbd := crt_bounds hlen (ints xs).length (Nat.le_refl _) hAP
      have hzl : (rs.zip (ints xs)).take (ints xs).length = rs.zip (ints xs) := List.take_of_length_le (by simp; omega)
      rw [hzl] at hres hbd
      have hpw : (2147483647 : Int) ^ (ints xs).length ≤ 2147483647 ^ 12 := by
        have h1 : (2147483647 : Nat) ^ (ints xs).length ≤ 2147483647 ^ 12 := Nat.pow_le_pow_right (by omega) hk12
        have h2 : (((2147483647 : Nat) ^ (ints xs).length : Nat) : Int) ≤ ((2147483647 ^ 12 : Nat) : Int) := by omega
        rw [Int.natCast_pow, Int.natCast_pow] at h2
        exact h2
      have HPr := Lib.hid f1
      have HOk : Hid (∀ s t e, CombIs rs (ints xs) s t e → s = Lib.itoa (crt (rs.zip (ints xs))).1 ∧ t = Lib.itoa (crt (rs.zip (ints xs))).2 ∧ e = 0) := fun s t e h =>
        h.unique (Or.inr (Or.inr (Or.inr (Or.inr ⟨hlen, by omega, f1, f2, rfl, rfl, rfl⟩))))
      generalize (crt (rs.zip (ints xs))).1 = v at *
      generalize (crt (rs.zip (ints xs))).2 = m at *
      obtain ⟨v0, v1, v2⟩ := hbd
      have ROv := Lib.hid (readOk_itoa v0 (by omega))
      have ROm := Lib.hid (readOk_itoa (z := m) (by omega) (by omega))
      have HRes := Lib.hid hres
      have HV0 := Lib.hid v0
      have HV1 := Lib.hid v1
      clear f1 f2 f3 hsh hlen hk12 hAP hres hzl hpw v0 v1 v2
      go_wp2_with fail
      refine HC.out.mono ?_
      rintro e w2 ⟨s, t, e1, rfl, hCI, hF2⟩
      obtain ⟨rfl, rfl, rfl⟩ := HOk.out s t e1 hCI
      have HB2 := Lib.hid (hB.out.ext hF2)
      have HE2 := Lib.hid (hE.out.trans hF2)
      clear hCI hF2 HC HOk hB hE
      have HCm := Lib.hid (Compare_whole ⟨(Lib.itoa v).toArray⟩ ⟨(Lib.itoa m).toArray⟩ v m w2 (HG.out.ext HE2.out) (by rw [bytes_of]; exact ROv.out) (by rw [bytes_of]; exact ROm.out) (by rw [bytes_of]; exact read_itoa v) (by rw [bytes_of]; exact read_itoa m))
      have hcmp : cmpI v m = -1 := by unfold cmpI; rw [if_pos HV1.out]
      rw [hcmp] at HCm
      have HSg := Lib.hid (fun W => Sign_nn v.natAbs ⟨(Lib.itoa v).toArray⟩ W (by rw [bytes_of, itoa_nn HV0.out]) (by have := ROv.out.1; rw [itoa_size]; omega))
      obtain ⟨sv, hsv⟩ : ∃ sv : Int, (if v.natAbs = 0 then (0 : Int) else 1) = sv := ⟨_, rfl⟩
      have hsv0 : 0 ≤ sv := by rw [← hsv]; split <;> omega
      rw [hsv] at HSg
      have HRd := Lib.hid (fun p W hW => Reduce_any ⟨(Lib.itoa v).toArray⟩ p W hW (by rw [bytes_of]; exact ROv.out))
      rw [bytes_of] at HRd
      have HRI := Lib.hid (read_itoa v)
      generalize Lib.itoa v = tv at *
      generalize Lib.itoa m = tm at *
      clear hcmp hsv ROv ROm HV0 HV1
      go_wp2_with fail
      refine HCm.out.mono ?_
      rintro e w3 ⟨rfl, hF3⟩
      have HB3 := Lib.hid (HB2.out.ext hF3)
      have HE3 := Lib.hid (HE2.out.trans hF3)
      clear hF3 HB2 HE2 HCm
      go_wp2_with fail
      refine (HSg.out _).mono ?_
      rintro e w4 ⟨rfl, hF4⟩
      have HB4 := Lib.hid (HB3.out.ext hF4)
      have HE4 := Lib.hid (HE3.out.trans hF4)
      clear hF4 HB3 HE3 HSg
      go_wp2
      go_loopw [13] (fun iv wr => ∃ j : Nat, j ≤ xs.length ∧ iv = .int .i64 (j : Int) ∧ Hid (Ext w4 wr)) (fun iv _ => xs.length - (intOf iv).toNat)
      case atStart => exact ⟨0, Nat.zero_le _, rfl, Fr.refl _ _⟩
      case round =>
        obtain ⟨j, hj, rfl, hX⟩ := hrel
        by_cases hlt2 : j < xs.length
        · obtain ⟨b2, rfl, hOw, _⟩ := (HB4.out.ext hX.out).openK (by intro e; rw [e] at hlt2; simp at hlt2)
          have hcp := hOw.cell hlt2
          obtain ⟨b1, off1, rfl, hb1, hc1⟩ := HR.out (by intro e; have := HN.out; simp [e] at this; omega)
          have hcr := ((HE4.out.trans hX.out).cell (p := ⟨b1, off1 + j, none⟩) hb1 (fun f => f)).trans (hc1 j (by have := HN.out; omega))
          have hpr := HPr.out _ (getD_mem (i := j) (by rw [ints_length]; exact hlt2))
          have hrs := HRes.out j (by rw [ints_length]; exact hlt2)
          rw [ints_at'] at hpr hrs
          generalize xs[j]?.getD 0 = P at *
          generalize rs.getD j 0 = r at *
          have hP2 : 2 ≤ P := by have := hpr.1; omega
          have hPm : P ≤ 2147483647 := by have := hpr.2.1; omega
          have HPr1 := Lib.hid hpr
          have HMd := Lib.hid (fun W => keepMod_same r (P : Int) W (by omega) (by omega))
          rw [← hrs] at HMd
          obtain ⟨z, hz⟩ : ∃ z, v % (P : Int) = z := ⟨_, rfl⟩
          rw [hz] at HMd
          have Hz := Lib.hid hz
          clear hOw hc1 hpr hrs hz
          go_wp2_with fail
          refine (HRd.out (P : Int) _ (HG.out.ext (HE4.out.trans hX.out))).mono ?_
          rintro e w5 ⟨x, ok, rfl, hRI, hF5⟩
          obtain ⟨rfl, rfl⟩ := hRI.whole HRI.out HPr1.out
          rw [Hz.out]
          have HF5 := Lib.hid hF5
          replace hcp := (hF5.cell (p := ⟨b2, j, none⟩) (World.block_lt_of_cell? _ _ hcp) (fun f => f)).trans hcp
          replace hcr := (hF5.cell (p := ⟨b1, off1 + j, none⟩) (World.block_lt_of_cell? _ _ hcr) (fun f => f)).trans hcr
          clear hF5 hRI
          go_wp2_with fail
          go_region_held3 (fun w' => w'.cell? ⟨b1, off1 + j, none⟩ = some (.int .i64 r) ∧ w'.cell? ⟨b2, j, none⟩ = some (.int .i64 (P : Int)))
            (exact ⟨hcr, hcp⟩)
            (first | (go_at_call 30; refine (HMd.out _).mono ?_; rintro e w' ⟨rfl, rfl⟩))
          go_wp2
          go_roundw
          case rel => exact ⟨j + 1, by omega, by go_num, (hX.out.trans HF5.out).drew⟩
          case measure => simp [intOf]; omega
        · go_wp2_with fail
          refine (awake_any _ (HG.out.ext (HE4.out.trans hX.out))).mono ?_
          rintro e w6 ⟨rfl, hF6⟩
          have HF6 := Lib.hid ((HE4.out.trans hX.out).trans hF6)
          clear hF6
          go_wp2
          go_ret
          exact ⟨rfl, HF6.out⟩
end Go.Proofs.YtndafmjcelgnbaaGreatDoor

namespace Go.Proofs.YtndafmjcelgnbaaGreatDoor
open Go.RowKit

theorem minus_text (txt : List UInt8) : ((⟨#[45]⟩ : ByteArray) ++ ⟨txt.toArray⟩) = ⟨([45] ++ txt).toArray⟩ := by
  apply ByteArray.ext
  rw [ByteArray.data_append]
  simp

set_option maxHeartbeats 1000000 in
set_option maxRecDepth 100000 in
theorem Text_neg (A0 : Option Addr) (l0 c0 : Nat) (n : Nat) (t : Bool) (A1 : Option Addr) (c1 : Nat) (w : World) (hN : MagIs w (.slice A0 l0 c0) n) (hn : ml n ≤ 65536) :
    Calls Tryz.prog 39 #[.agg #[.bool true, .slice A0 l0 c0, .bool t, .slice A1 0 c1]] w (RetV w (.string ⟨([45] ++ Lib.decDigits n).toArray⟩)) := by
  have HN := Lib.hid hN
  have Hn := Lib.hid hn
  have hlen : (Lib.decDigits n).length ≤ 655360 := by
    rcases Nat.eq_zero_or_pos n with e | e
    · rw [e, dec_one (by omega)]; simp
    · have h1 : n < 10 ^ (10 * ml n) := by
        refine Nat.lt_of_lt_of_le (lt_ml n) ?_
        rw [Nat.pow_mul]
        exact Nat.pow_le_pow_left (by rw [W32_eq]; decide) _
      have := topText_le _ _ h1
      rw [topText_pos e] at this
      omega
  clear hN hn
  go_enter Tryz.func39, Tryz.ntmps39
  go_wp2_with fail
  generalize hwb : World.alloc w _ = wb
  have HB : Hid (Blk 55 wb w.heap.size #[.bool true, .slice A0 l0 c0, .bool t, .slice A1 0 c1]) := hwb ▸ Blk.new _ _ _
  have HE : Hid (Ext w wb) := hwb ▸ (Fr.refl _ _).alloc _
  clear hwb
  refine (Digits_any true A0 l0 c0 n wb (HN.out.ext HE.out) Hn.out).mono ?_
  rintro e w1 ⟨rfl, hF⟩
  have HF := Lib.hid hF
  have c0' := (HB.out.ext hF).cell 0
  have c3' := (HB.out.ext hF).cell 3
  simp at c0' c3'
  generalize Lib.decDigits n = txt at *
  clear hF
  go_wp2
  go_ret
  refine ⟨?_, HE.out.trans HF.out⟩
  show Ending.returned (.string ((⟨#[45]⟩ : ByteArray) ++ ⟨txt.toArray⟩)) = _
  rw [minus_text]
  rfl

/-- Text of a whole number -/
theorem NText_any (s : Bool) (A : Option Addr) (l c : Nat) (z : Int) (t : Bool) (A1 : Option Addr) (c1 : Nat) (w : World) (h : NumIs w (.agg #[.bool s, .slice A l c]) z) (hz : ml z.natAbs ≤ 65536) :
    Calls Tryz.prog 39 #[.agg #[.bool s, .slice A l c, .bool t, .slice A1 0 c1]] w (RetV w (.string ⟨(Lib.itoa z).toArray⟩)) := by
  obtain ⟨s', A', l', c', he, h1, h2, h3⟩ := h.open
  injection he with he
  simp at he
  obtain ⟨rfl, rfl, rfl, rfl⟩ := he
  cases s with
  | false =>
    have h0 : 0 ≤ z := by simp [sg] at h2; omega
    rw [itoa_nn h0]
    exact Text_pos A l c _ t A1 c1 w h1 hz
  | true =>
    have h0 : z < 0 := by
      simp [sg] at h2
      rcases (by omega : z < 0 ∨ z = 0) with k | k
      · exact k
      · have := h3 k; cases this
    rw [itoa_neg h0]
    exact Text_neg A l c _ t A1 c1 w h1 hz

/-- what R returns -/
def RetR (w : World) (z : Int) (e : Ending) (w' : World) : Prop := ∃ s A l c, e = .returned (.agg #[.bool s, .slice A l c, .bool false, .slice none 0 0]) ∧ NumIs w' (.agg #[.bool s, .slice A l c]) z ∧ Ext w w'

/-- digits are not in a block of a struct -/
theorem MagIs.other {t : TypeId} {w w' : World} {r n : Nat} {u : Value} {cs : Array Value} (h : MagIs w u n) (hB : Blk t w r cs) (hc : ∀ (i : Nat) (k : Int), cs[i]? ≠ some (.int .u32 k)) (hF : Fr (fun i => i = r) w w') : MagIs w' u n := by
  obtain ⟨B, xs, c, rfl, hc0, hX, hd, ht, hv⟩ := h
  refine ⟨B, xs, c, rfl, hc0, ?_, hd, ht, hv⟩
  by_cases hne : xs = []
  · subst hne; exact Shows.nil
  · obtain ⟨b, off, rfl, hb, hcs⟩ := hX hne
    refine hX.fr hF (fun a ha _ hs => ?_)
    injection ha with ha; subst ha
    have h0 := hcs 0 (List.length_pos_iff.2 hne)
    simp only at hs
    subst hs
    have h1 := hB.cell (off + 0)
    rw [h0] at h1
    exact hc _ _ h1.symm

set_option maxHeartbeats 1000000 in
set_option maxRecDepth 100000 in
theorem R_any (z : Int) (w : World) (h1 : -9223372036854775808 ≤ z) (h2 : z ≤ 9223372036854775807) : Calls Tryz.prog 40 #[.int .i64 z] w (RetR w z) := by
  have H := Lib.hid (fun W => NFromInt_any z W h1 h2)
  go_enter Tryz.func40, Tryz.ntmps40
  go_wp2_with fail
  generalize hwb : World.alloc w _ = wb
  obtain ⟨hB0, hE0⟩ := Blk.one hwb
  clear hwb
  refine (H.out _).mono ?_
  rintro e w1 ⟨v, rfl, hI, hF1⟩
  obtain ⟨s, A, l, c, rfl, hM, hs, hs0⟩ := hI.open
  have HB := Lib.hid (hB0.ext hF1)
  have HE := Lib.hid (hE0.trans hF1)
  have HM := Lib.hid hM
  have HS := Lib.hid hs
  have HS0 := Lib.hid hs0
  obtain ⟨y0, y1, y2, y3, y4, y5, y6, y7⟩ := (hB0.ext hF1).cell4
  clear hB0 hE0 hF1 hI hM hs hs0
  generalize hr : w.heap.size = r at *
  have HR := Lib.hid hr
  clear hr
  go_wp2
  have hB2 := HB.out.put4 (.bool s) (.slice A l c) (.bool false) (.slice none 0 0)
  have hF2 : Fr (fun i => i = r) w1 ((((w1.setCell ⟨r, 0, none⟩ (.bool s)).setCell ⟨r, 1, none⟩ (.slice A l c)).setCell ⟨r, 2, none⟩ (.bool false)).setCell ⟨r, 3, none⟩ (.slice none 0 0)) := Fr.set4 _ _ _ _
  obtain ⟨k0, k1, k2, k3, _⟩ := hB2.cell4
  refine bodyPost_ret (v := .agg #[.bool s, .slice A l c, .bool false, .slice none 0 0]) (by simp [results, Tryz.results40, go_sem, k0, k1, k2, k3]) rfl ⟨s, A, l, c, rfl, NumIs.of (HM.out.other HB.out (fun i k => ?_) hF2) HS.out HS0.out, Fr.local_ HE.out hF2 (by rw [HR.out]; exact Nat.le_refl _)⟩
  match i with
  | 0 => simp
  | 1 => simp
  | 2 => simp
  | 3 => simp
  | n + 4 => simp

set_option maxHeartbeats 1000000 in
/-- the law's own prime number -/
theorem prime_any (n : Int) (w : World) : Calls Tryz.prog 27 #[.int .i64 n] w fun e w' => (∃ P : Nat, e = .returned (.int .i64 (P : Int)) ∧ Hid (Pr (P : Int)) ∧ P ≤ 1000003) ∧ w = w' := by
  obtain ⟨m, hm⟩ : ∃ m, n % 100000 = m := ⟨_, rfl⟩
  have h1 : m < 1000003 := by omega
  have HM := Lib.hid (keepMod_same n 100000 w (by omega) (by omega))
  rw [hm] at HM
  clear hm
  go_enter Tryz.func27, Tryz.ntmps27
  go_wp2_with fail
  refine HM.out.mono ?_
  rintro e w1 ⟨rfl, rfl⟩
  go_wp2_with fail
  refine (refNextPrime_any m _).mono ?_
  rintro e w1 ⟨p, ok, rfl, hN, rfl⟩
  obtain ⟨rfl, k1, k2, k3⟩ := hN.below (kp_at (i := 0) (by omega)) (show m < 1000003 by omega)
  obtain ⟨P, rfl⟩ := Int.eq_ofNat_of_zero_le (show 0 ≤ p by have := k1.1; omega)
  have HP := Lib.hid k1
  have hPb : P ≤ 1000003 := by
    have e : kp.getD 0 0 = 1000003 := rfl
    rw [e] at k3; omega
  clear hN k1 k2 k3
  go_wp2
  go_ret
  exact ⟨⟨P, rfl, HP, hPb⟩, rfl⟩

theorem readOk_small {z : Int} (h : z.natAbs < 10 ^ 120) : ReadOk (Lib.itoa z) := by
  refine ⟨?_, fun neg num den hs hne => ?_⟩
  · have h1 : (Lib.decDigits z.natAbs).length ≤ 120 := by
      rcases Nat.eq_zero_or_pos z.natAbs with e | e
      · rw [e, dec_one (by omega)]; simp
      · have := topText_le 120 z.natAbs h
        rwa [topText_pos e] at this
    by_cases h0 : z < 0
    · rw [itoa_neg h0, List.length_append]; simp; omega
    · rw [itoa_nn (by omega)]; omega
  · rw [split_itoa] at hs
    injection hs with _ hs
    injection hs with _ hs
    injection hs with hs _
    exact absurd hs.symm hne

theorem tmod_twice (a : Int) {P : Nat} (hP : 2 ≤ P) : -(P : Int) < a.tmod (P : Int) ∧ a.tmod (P : Int) < (P : Int) ∧ (a.tmod (P : Int) + (P : Int)) % (P : Int) = a % (P : Int) := by
  have h1 := emod_of_tmod a (P : Int) (by omega)
  have h2 := Int.emod_nonneg a (b := (P : Int)) (by omega)
  have h3 := Int.emod_lt_of_pos a (b := (P : Int)) (by omega)
  have h4 := Int.tmod_lt_of_pos a (b := (P : Int)) (by omega)
  have h5 := Int.natAbs_tmod a (P : Int)
  have h6 := Nat.mod_lt a.natAbs (y := ((P : Int)).natAbs) (by omega)
  rw [← h5] at h6
  clear h5
  generalize a.tmod (P : Int) = T at *
  split at h1
  · refine ⟨by omega, h4, ?_⟩
    rw [← h1, Int.emod_eq_of_lt h2 h3]
  · refine ⟨by omega, h4, ?_⟩
    rw [Int.add_emod_right, h1, Int.emod_eq_of_lt (by omega) h4]

set_option maxHeartbeats 4000000 in
set_option maxRecDepth 100000 in
theorem modularNumbers_any (a k n : Int) (w : World) (hg : Glob w) (a1 : -9223372036854775808 ≤ a) (a2 : a ≤ 9223372036854775807) (k1 : -2147483648 ≤ k) (k2 : k ≤ 2147483647) :
    Calls Tryz.prog 10 #[.int .i64 a, .int .i32 k, .int .i64 n] w (RetV w (.bool true)) := by
  have HG := Lib.hid hg
  have HN := Lib.hid (prime_any n w)
  clear hg
  go_enter Tryz.func10, Tryz.ntmps10
  go_wp2_with fail
  refine HN.out.mono ?_
  rintro e w0 ⟨⟨P, rfl, hPr, hPb⟩, rfl⟩
  clear HN
  have hP2 : 2 ≤ P := by have := hPr.out.1; omega
  obtain ⟨T1, T2, T3⟩ := tmod_twice a hP2
  obtain ⟨X, hX⟩ : ∃ X, a % (P : Int) = X := ⟨_, rfl⟩
  rw [hX] at T3
  have HX := Lib.hid hX
  have hkP : (k * (P : Int)).natAbs ≤ 2147483648 * 1000003 := by
    rw [Int.natAbs_mul, Int.natAbs_natCast]; exact Nat.mul_le_mul (by omega) hPb
  have HX2 : Hid ((a + k * (P : Int)) % (P : Int) = X) := by unfold Hid; rw [Int.add_mul_emod_self_right, hX]
  have Ra : Hid (ReadOk (Lib.itoa a)) := readOk_small (by omega)
  have Rk : Hid (ReadOk (Lib.itoa k)) := readOk_small (by omega)
  have Rp : Hid (ReadOk (Lib.itoa (P : Int))) := readOk_small (by omega)
  have Rm : Hid (ReadOk (Lib.itoa (k * (P : Int)))) := readOk_small (by omega)
  have Rs : Hid (ReadOk (Lib.itoa (a + k * (P : Int)))) := readOk_small (by omega)
  clear hX hkP
  go_wp2_with fail
  refine (R_any a _ a1 a2).mono ?_
  rintro e w1 ⟨s, A, l, c, rfl, hI1, hF1⟩
  have hml : ml a.natAbs ≤ 65536 := by
    have : ml a.natAbs ≤ 2 := ml_le_iff.2 (by rw [Nat.pow_two, W32_sq, W64_eq]; omega)
    omega
  have HT1 := Lib.hid (NText_any s A l c a false none 0 w1 hI1 hml)
  have HF1 := Lib.hid hF1
  clear hI1 hF1 hml
  go_wp2_with fail
  refine HT1.out.mono ?_
  rintro e w2 ⟨rfl, hF2⟩
  have HE2 := Lib.hid (HF1.out.trans hF2)
  have HR2 := Lib.hid (Reduce_any ⟨(Lib.itoa a).toArray⟩ (P : Int) w2 (HG.out.ext HE2.out) (by rw [bytes_of]; exact Ra.out))
  rw [bytes_of] at HR2
  clear hF2 HT1 HF1
  go_wp2_with fail
  refine HR2.out.mono ?_
  rintro e w3 ⟨x, ok, rfl, hRd, hF3⟩
  obtain ⟨rfl, rfl⟩ := hRd.whole (read_itoa a) hPr.out
  rw [HX.out]
  have HE3 := Lib.hid (HE2.out.trans hF3)
  clear hRd hF3 HR2 HE2
  have HA4 := Lib.hid (fun W hW => FromInt_any a W hW a1 a2)
  have HK4 := Lib.hid (fun W hW => FromInt_any k W hW (by omega) (by omega))
  have HP4 := Lib.hid (fun W hW => FromInt_any (P : Int) W hW (by omega) (by omega))
  have HM4 := Lib.hid (fun W hW => TMul_whole ⟨(Lib.itoa k).toArray⟩ ⟨(Lib.itoa (P : Int)).toArray⟩ k (P : Int) W hW (by rw [bytes_of]; exact Rk.out) (by rw [bytes_of]; exact Rp.out) (by rw [bytes_of]; exact read_itoa k) (by rw [bytes_of]; exact read_itoa (P : Int)))
  have HS4 := Lib.hid (fun W hW => TAdd_whole ⟨(Lib.itoa a).toArray⟩ ⟨(Lib.itoa (k * (P : Int))).toArray⟩ a (k * (P : Int)) W hW (by rw [bytes_of]; exact Ra.out) (by rw [bytes_of]; exact Rm.out) (by rw [bytes_of]; exact read_itoa a) (by rw [bytes_of]; exact read_itoa (k * (P : Int))))
  have HR4 := Lib.hid (fun W hW => Reduce_any ⟨(Lib.itoa (a + k * (P : Int))).toArray⟩ (P : Int) W hW (by rw [bytes_of]; exact Rs.out))
  have HRI := Lib.hid (read_itoa (a + k * (P : Int)))
  rw [bytes_of] at HR4
  generalize Lib.itoa a = ta at *
  generalize Lib.itoa k = tk at *
  generalize Lib.itoa (P : Int) = tp at *
  generalize Lib.itoa (k * (P : Int)) = tm at *
  generalize Lib.itoa (a + k * (P : Int)) = ts at *
  clear Ra Rk Rp Rm Rs
  have c1 : IntKind.i64.wrap k = k := IntWalk.i64_in _ (by omega)
  go_wp2_with fail
  refine (HA4.out _ (HG.out.ext HE3.out)).mono ?_
  rintro e w4 ⟨rfl, hF4⟩
  have HE4 := Lib.hid (HE3.out.trans hF4)
  clear hF4 HE3
  go_wp2_with fail
  refine (HK4.out _ (HG.out.ext HE4.out)).mono ?_
  rintro e w5 ⟨rfl, hF5⟩
  have HE5 := Lib.hid (HE4.out.trans hF5)
  clear hF5 HE4 c1
  go_wp2_with fail
  refine (HP4.out _ (HG.out.ext HE5.out)).mono ?_
  rintro e w6 ⟨rfl, hF6⟩
  have HE6 := Lib.hid (HE5.out.trans hF6)
  clear hF6 HE5
  go_wp2_with fail
  refine (HM4.out _ (HG.out.ext HE6.out)).mono ?_
  rintro e w7 ⟨rfl, hF7⟩
  have HE7 := Lib.hid (HE6.out.trans hF7)
  clear hF7 HE6
  go_wp2_with fail
  refine (HS4.out _ (HG.out.ext HE7.out)).mono ?_
  rintro e w8 ⟨rfl, hF8⟩
  have HE8 := Lib.hid (HE7.out.trans hF8)
  clear hF8 HE7
  go_wp2_with fail
  refine (HR4.out _ (HG.out.ext HE8.out)).mono ?_
  rintro e w9 ⟨y, ok2, rfl, hRd, hF9⟩
  obtain ⟨rfl, rfl⟩ := hRd.whole HRI.out hPr.out
  rw [HX2.out]
  have HE9 := Lib.hid (HE8.out.trans hF9)
  clear hRd hF9 HE8
  have hp0 : ((P : Int) == 0) = false := by simp; omega
  have hp1 : P ≠ 0 := by omega
  obtain ⟨T, hT⟩ : ∃ T, a.tmod (P : Int) = T := ⟨_, rfl⟩
  rw [hT] at T1 T2 T3
  have T4 : (T + (P : Int)).tmod (P : Int) = X := by rw [Int.tmod_eq_emod_of_nonneg (by omega)]; exact T3
  have T5 : IntKind.i64.wrap (T + (P : Int)) = T + (P : Int) := IntWalk.i64_in _ (by omega)
  go_wp2_with fail
  refine (awake_any _ (HG.out.ext HE9.out)).mono ?_
  rintro e w10 ⟨rfl, hF10⟩
  have HE10 := Lib.hid (HE9.out.trans hF10)
  clear hF10
  go_wp2
  go_ret
  exact ⟨rfl, HE10.out⟩
end Go.Proofs.YtndafmjcelgnbaaGreatDoor
