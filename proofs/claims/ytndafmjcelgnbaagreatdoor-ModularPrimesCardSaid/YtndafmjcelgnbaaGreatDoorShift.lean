/-
  shiftLeft, shiftRight: multiplication and division by a power of 2.
-/
import Derived.Test.YtndafmjcelgnbaaGreatDoorDivWord
import Derived.RegionTactic
import Derived.BigRegion
namespace Go.Proofs.YtndafmjcelgnbaaGreatDoor
open Go.RowKit

theorem two_pow_split {t : Nat} (ht : t ≤ 63) : 2 ^ (64 - t) * 2 ^ t = W64 := by
  rw [← Nat.pow_add, show 64 - t + t = 64 by omega, W64_eq]
/-- the parts of a word that is shifted left by t bits -/
theorem shl_parts {x t : Nat} (ht : t ≤ 63) : x * 2 ^ t = x * 2 ^ t % W64 + W64 * (x / 2 ^ (64 - t)) := by
  have h := Nat.mod_add_div (x * 2 ^ t) W64
  have : x * 2 ^ t / W64 = x / 2 ^ (64 - t) := by
    rw [← two_pow_split ht, Nat.mul_div_mul_right _ _ (Nat.pow_pos (by omega))]
  rw [this] at h
  exact h.symm
theorem shl_or {h x t : Nat} (hh : h < 2 ^ t) (ht : t ≤ 63) : h ||| x * 2 ^ t % W64 = h + x * 2 ^ t % W64 := by
  have e : x * 2 ^ t % W64 = (x % 2 ^ (64 - t)) <<< t := by
    rw [Nat.shiftLeft_eq, ← two_pow_split ht, Nat.mul_mod_mul_right]
  rw [e, Nat.or_comm, ← Nat.shiftLeft_add_eq_or_of_lt hh, Nat.add_comm]
theorem shl_wrap (x t : Nat) : IntKind.u64.wrap ((x : Int) * 2 ^ t) = ((x * 2 ^ t % W64 : Nat) : Int) := by
  have hpow : ((2 : Int) ^ t) = ((2 ^ t : Nat) : Int) := by rw [Int.natCast_pow]; rfl
  rw [hpow, ← Int.natCast_mul, W64_eq]
  exact M64.wrapM _
theorem shr_eq (x t : Nat) : (x : Int) / 2 ^ t = ((x / 2 ^ t : Nat) : Int) := by
  have hpow : ((2 : Int) ^ t) = ((2 ^ t : Nat) : Int) := by rw [Int.natCast_pow]; rfl
  rw [hpow, Int.natCast_ediv]
theorem or_u64 {a b : Nat} (ha : a < W64) (hb : b < W64) : bits .or .u64 (a : Int) (b : Int) = ((a ||| b : Nat) : Int) := by
  rw [W64_eq] at ha hb
  exact bits_or_u64_nat a b ha hb

/-- after k rounds of a shift to the left by skip words and t bits -/
def ShlRel (xs : List Nat) (skip t k : Nat) (zs : List Nat) : Prop :=
  zs.length = xs.length + skip + 1 ∧ Dig W64 zs ∧ val W64 (zs.take (k + skip + 1)) = val W64 (xs.take k) * 2 ^ (64 * skip + t) ∧ (zs[k + skip]?.getD 0) < 2 ^ t
theorem ShlRel.start (xs : List Nat) (skip t : Nat) : ShlRel xs skip t 0 (List.replicate (xs.length + skip + 1) 0) := by
  refine ⟨by simp, Dig.replicate W64_pos _, ?_, ?_⟩
  · rw [List.take_replicate, val_replicate]; simp
  · have : ((List.replicate (xs.length + skip + 1) 0)[0 + skip]?.getD 0) = 0 := by
      rw [List.getElem?_replicate]; split <;> rfl
    rw [this]; exact Nat.pow_pos (by omega)
theorem ShlRel.step {xs zs : List Nat} {skip t k h x : Nat} (hR : ShlRel xs skip t k zs) (ht : t ≤ 63) (hk : k < xs.length) (hh : zs[k + skip]?.getD 0 = h) (hx : xs[k]?.getD 0 = x) (hxW : x < W64) :
    ShlRel xs skip t (k + 1) ((zs.set (k + skip) (h + x * 2 ^ t % W64)).set (k + skip + 1) (x / 2 ^ (64 - t))) ∧ h + x * 2 ^ t % W64 < W64 := by
  obtain ⟨h1, h2, h3, h4⟩ := hR
  rw [hh] at h4
  have hlt : h + x * 2 ^ t % W64 < W64 := by
    rw [← two_pow_split ht, Nat.mul_mod_mul_right]
    have : x % 2 ^ (64 - t) < 2 ^ (64 - t) := Nat.mod_lt _ (Nat.pow_pos (by omega))
    have h5 : (x % 2 ^ (64 - t) + 1) * 2 ^ t ≤ 2 ^ (64 - t) * 2 ^ t := Nat.mul_le_mul_right _ this
    rw [Nat.add_mul] at h5
    omega
  have hhi : x / 2 ^ (64 - t) < 2 ^ t := by
    rw [Nat.div_lt_iff_lt_mul (Nat.pow_pos (by omega)), ← Nat.pow_add, show t + (64 - t) = 64 by omega]
    rw [W64_eq] at hxW; exact hxW
  have hhi2 : x / 2 ^ (64 - t) < W64 := Nat.lt_of_le_of_lt (Nat.div_le_self _ _) hxW
  refine ⟨⟨by simpa using h1, (h2.set _ hlt).set _ hhi2, ?_, ?_⟩, hlt⟩
  · rw [show k + 1 + skip + 1 = (k + skip + 1) + 1 by omega, take_set_succ _ _ _ _ (by simp; omega), take_set_succ _ _ _ _ (by omega), val_take_succ k hk, hx, Nat.add_mul, ← h3, val_take_succ (k + skip) (by omega), hh]
    have e := shl_parts (x := x) ht
    have e2 : W64 ^ k * x * 2 ^ (64 * skip + t) = W64 ^ (k + skip) * (x * 2 ^ t) := by
      rw [Nat.pow_add 2, ← W64_pow, Nat.pow_add]
      simp only [Nat.mul_assoc, Nat.mul_left_comm]
    rw [e2]
    have e3 := congrArg (W64 ^ (k + skip) * ·) e
    simp only [Nat.mul_add] at e3
    rw [Nat.mul_add, Nat.pow_succ, Nat.mul_assoc]
    omega
  · have : ((zs.set (k + skip) (h + x * 2 ^ t % W64)).set (k + skip + 1) (x / 2 ^ (64 - t)))[k + 1 + skip]?.getD 0 = x / 2 ^ (64 - t) := by
      rw [show k + 1 + skip = k + skip + 1 by omega, List.getElem?_set_self (by simp; omega)]
      rfl
    rw [this]; exact hhi
theorem ShlRel.done {xs zs : List Nat} {skip t : Nat} (h : ShlRel xs skip t xs.length zs) : val W64 zs = val W64 xs * 2 ^ (64 * skip + t) := by
  obtain ⟨h1, h2, h3, h4⟩ := h
  rw [List.take_of_length_le (by omega), List.take_of_length_le (by omega)] at h3
  exact h3

set_option maxHeartbeats 1000000 in
set_option maxRecDepth 100000 in
theorem shiftLeft_core (A : Option Addr) (xs : List Nat) (n c s skip t : Nat) (w : World) (hn : xs.length = n) (hX : Shows .u64 w A xs) (hc : xs.length ≤ c) (hl : xs.length ≤ 4294967296) (hd : Dig W64 xs) (tx : Trim xs) (hs : s = 64 * skip + t) (ht : t ≤ 63) (hk : skip ≤ 4294967296) :
    Calls Tryz.prog 181 #[.slice A n c, .int .u64 (s : Int)] w (RetNat w (val W64 xs * 2 ^ s)) := by
  subst hn
  have HX := Lib.hid hX
  have Hd := Lib.hid hd
  have Tx := Lib.hid tx
  have HS := Lib.hid hs
  clear hX hd tx
  by_cases h0 : xs.length = 0
  · obtain rfl : xs = [] := List.length_eq_zero_iff.1 h0
    clear hs
    go_enter Tryz.func181, Tryz.ntmps181
    go_wp2
    go_ret
    exact ⟨_, rfl, ⟨A, [], c, rfl, hc, HX.out, Hd.out, Tx.out, by simp⟩, Fr.refl _ _⟩
  have h0' : (((xs.length : Nat) : Int) == 0) = false := by simp; intro e; simp [e] at h0
  by_cases h1 : s = 0
  · subst h1
    clear hs
    go_enter Tryz.func181, Tryz.ntmps181
    go_wp2
    go_ret
    exact ⟨_, rfl, ⟨A, xs, c, rfl, hc, HX.out, Hd.out, Tx.out, by simp⟩, Fr.refl _ _⟩
  have h1' : ((s : Int) == 0) = false := by simp; omega
  have p1 : (s : Int) / 64 = (skip : Int) := by omega
  have p2 : (s : Int) % 64 = (t : Int) := by omega
  clear hs h1
  go_enter Tryz.func181, Tryz.ntmps181
  go_wp2_with (at_make
               refine wpList_make_words rfl _ _ _ rfl _ _ _ Tryz.underlying65 info64 _ _ _ _ (xs.length + skip + 1) rfl rfl (by omega) (by omega) (by omega) (by omega) ?_
               intro b w1 hb hO1 _ hF1 hs1
               have HO1 := Lib.hid hO1
               have HF1 := Lib.hid hF1
               have Hb := Lib.hid hb
               clear hO1 hF1 hb hs1)
  go_loopw [31] (fun i wr => ∃ (k : Nat) (zs : List Nat), k ≤ xs.length ∧ i = .int .i64 (k : Int) ∧ Hid (ShlRel xs skip t k zs) ∧ Hid (Own .u64 69 wr b zs) ∧ Hid (Ext w wr)) (fun i _ => xs.length - (intOf i).toNat)
  case atStart => exact ⟨0, _, by omega, rfl, ShlRel.start xs skip t, HO1.out, HF1.out⟩
  case round =>
    obtain ⟨k, zs, hkk, rfl, hR, hO2, hF2⟩ := hrel
    clear p1 p2 h0' h1'
    by_cases hlt : k < xs.length
    · obtain ⟨b2, off2, rfl, _, hcx⟩ := (HX.out.ext hF2.out).at hlt
      obtain ⟨x, ex⟩ : ∃ x, xs[k]?.getD 0 = x := ⟨_, rfl⟩
      obtain ⟨h, eh⟩ : ∃ h, zs[k + skip]?.getD 0 = h := ⟨_, rfl⟩
      rw [ex] at hcx
      have hxW : Hid (x < W64) := ex ▸ Hd.out.getD W64_pos k
      obtain ⟨hst, hdlt⟩ := hR.out.step ht hlt eh ex hxW.out
      have HR2 := Lib.hid hst
      have hzl : zs.length = xs.length + skip + 1 := hR.out.1
      have hc1 := hO2.out.cell (i := k + skip) (by omega)
      have hf1 := hO2.out.frozen (k + skip)
      rw [eh] at hc1
      have hO3 := hO2.out.set (k + skip) (h + x * 2 ^ t % W64) (by omega)
      have hc2 := hO3.cell (i := k + skip + 1) (by simp; omega)
      have hf2 := hO3.frozen (k + skip + 1)
      obtain ⟨g, eg⟩ : ∃ g, (zs.set (k + skip) (h + x * 2 ^ t % W64))[k + skip + 1]?.getD 0 = g := ⟨_, rfl⟩
      rw [eg] at hc2
      have HO4 := Lib.hid (hO3.set (k + skip + 1) (x / 2 ^ (64 - t)) (by simp; omega))
      have q1 := shl_wrap x t
      have q2 := or_u64 (a := h) (b := x * 2 ^ t % W64) (eh ▸ hR.out.2.1.getD W64_pos _) (Nat.mod_lt _ W64_pos)
      rw [shl_or (eh ▸ hR.out.2.2.2) ht] at q2
      have q3 := shr_eq x (64 - t)
      obtain ⟨lo, elo⟩ : ∃ lo, x * 2 ^ t % W64 = lo := ⟨_, rfl⟩
      obtain ⟨hi, ehi⟩ : ∃ hi, x / 2 ^ (64 - t) = hi := ⟨_, rfl⟩
      rw [elo] at q1 q2 hc2 hf2 HR2 HO4
      rw [ehi] at q3 HR2 HO4
      obtain ⟨d, ed⟩ : ∃ d, h + lo = d := ⟨_, rfl⟩
      rw [ed] at q2 hc2 hf2 HR2 HO4
      clear ex eh hst hdlt hzl hO3 eg elo ehi ed
      go_wp2
      go_roundw
      case rel => exact ⟨k + 1, _, by omega, by go_num, HR2, HO4.out, (hF2.out.setCell (p := ⟨b, k + skip, none⟩) (Or.inr (by have := Hb.out; show w.heap.size ≤ b; omega)) _).setCell (p := ⟨b, k + skip + 1, none⟩) (Or.inr (by have := Hb.out; show w.heap.size ≤ b; omega)) _⟩
      case measure => simp [intOf]; omega
    · obtain rfl : k = xs.length := by omega
      have hz := hR.out.1
      have HT := Lib.hid (trim_any _ zs (xs.length + skip + 1) (xs.length + skip + 1) wr hz hO2.out.shows0 (by omega) (by omega))
      have HN := Lib.hid (NatIs.of_own (c := xs.length + skip + 1) hO2.out hR.out.2.1 (by omega))
      rw [hR.out.done, ← HS.out] at HN
      clear hz
      go_wp2_with fail
      refine HT.out.mono ?_
      rintro e w2 ⟨rfl, rfl⟩
      clear HT
      go_wp2
      go_ret
      exact ⟨_, rfl, HN.out, hF2.out⟩

theorem shiftLeft_any (xv : Value) (x s : Nat) (w : World) (hX : NatIs w xv x) (hx : wl x ≤ 4294967296) (hs : s ≤ 274877906944) : Calls Tryz.prog 181 #[xv, .int .u64 (s : Int)] w (RetNat w (x * 2 ^ s)) := by
  obtain ⟨A, xs, c, rfl, hc, h1, h2, h3, rfl⟩ := hX
  rw [← wl_len h2 h3] at hx
  exact shiftLeft_core A xs _ c s (s / 64) (s % 64) w rfl h1 hc hx h2 h3 (by omega) (by omega) (by omega)

/-- after k rounds of a shift to the right of ys by t bits -/
def ShrRel (ys : List Nat) (t k : Nat) (zs : List Nat) : Prop :=
  zs.length = ys.length ∧ Dig W64 zs ∧ 2 ^ t * val W64 (zs.take k) + (ys[0]?.getD 0) % 2 ^ t = val W64 (ys.take k) + W64 ^ k * ((ys[k]?.getD 0) % 2 ^ t)
theorem ShrRel.start (ys : List Nat) (t : Nat) : ShrRel ys t 0 (List.replicate ys.length 0) := by
  refine ⟨by simp, Dig.replicate W64_pos _, ?_⟩
  simp
/-- the low bits of a word, moved up -/
theorem shl_low {y t : Nat} (ht : t ≤ 63) : y * 2 ^ (64 - t) % W64 = y % 2 ^ t * 2 ^ (64 - t) := by
  rw [← two_pow_split ht, Nat.mul_comm (2 ^ (64 - t)), Nat.mul_mod_mul_right]
theorem shr_or {x y t : Nat} (ht : t ≤ 63) (hx : x < W64) : x / 2 ^ t ||| y * 2 ^ (64 - t) % W64 = x / 2 ^ t + y % 2 ^ t * 2 ^ (64 - t) := by
  have hlt : x / 2 ^ t < 2 ^ (64 - t) := by
    rw [Nat.div_lt_iff_lt_mul (Nat.pow_pos (by omega)), two_pow_split ht]; exact hx
  rw [shl_low ht, ← Nat.shiftLeft_eq, Nat.or_comm, ← Nat.shiftLeft_add_eq_or_of_lt hlt, Nat.add_comm]
theorem ShrRel.step {ys zs : List Nat} {t k x y : Nat} (h : ShrRel ys t k zs) (ht : t ≤ 63) (hk : k < ys.length) (hx : ys[k]?.getD 0 = x) (hy : ys[k + 1]?.getD 0 = y) (hxW : x < W64) :
    ShrRel ys t (k + 1) (zs.set k (x / 2 ^ t + y % 2 ^ t * 2 ^ (64 - t))) := by
  obtain ⟨h1, h2, h3⟩ := h
  have hlt : x / 2 ^ t + y % 2 ^ t * 2 ^ (64 - t) < W64 := by
    have e1 : x / 2 ^ t < 2 ^ (64 - t) := by
      rw [Nat.div_lt_iff_lt_mul (Nat.pow_pos (by omega)), two_pow_split ht]; exact hxW
    have e2 : y % 2 ^ t < 2 ^ t := Nat.mod_lt _ (Nat.pow_pos (by omega))
    have e3 : (y % 2 ^ t + 1) * 2 ^ (64 - t) ≤ 2 ^ t * 2 ^ (64 - t) := Nat.mul_le_mul_right _ e2
    rw [Nat.mul_comm (2 ^ t), two_pow_split ht, Nat.add_mul] at e3
    omega
  refine ⟨by simpa using h1, h2.set k hlt, ?_⟩
  rw [take_set_succ _ _ _ _ (by omega), val_take_succ k hk, hx, hy]
  rw [hx] at h3
  have e1 := Nat.div_add_mod x (2 ^ t)
  have e2 : 2 ^ t * (y % 2 ^ t * 2 ^ (64 - t)) = W64 * (y % 2 ^ t) := by
    rw [← two_pow_split ht]
    simp only [Nat.mul_comm, Nat.mul_left_comm]
  have e3 := congrArg (W64 ^ k * ·) e1
  simp only [Nat.mul_add] at e3
  rw [Nat.mul_add, Nat.mul_left_comm (2 ^ t), Nat.mul_add (2 ^ t), e2, Nat.mul_add, Nat.pow_succ, Nat.mul_assoc (W64 ^ k) W64]
  omega
theorem ShrRel.done {ys zs : List Nat} {t : Nat} (h : ShrRel ys t ys.length zs) : val W64 zs = val W64 ys / 2 ^ t := by
  obtain ⟨h1, h2, h3⟩ := h
  rw [List.take_of_length_le (by omega), List.take_of_length_le (by omega), List.getElem?_eq_none (Nat.le_refl _)] at h3
  simp only [Option.getD_none, Nat.zero_mod, Nat.mul_zero, Nat.add_zero] at h3
  rw [← h3, Nat.mul_add_div (Nat.pow_pos (by omega)), Nat.div_eq_of_lt (Nat.mod_lt _ (Nat.pow_pos (by omega))), Nat.add_zero]
theorem shr_val (xs : List Nat) (skip t : Nat) (hd : Dig W64 xs) (hs : skip ≤ xs.length) : val W64 (xs.drop skip) / 2 ^ t = val W64 xs / 2 ^ (64 * skip + t) := by
  rw [Nat.pow_add, ← W64_pow, ← Nat.div_div_eq_div_mul]
  congr 1
  rw [val_take_drop (xs := xs) skip, Nat.min_eq_left hs, Nat.add_comm, Nat.mul_add_div (Nat.pow_pos W64_pos)]
  have h := val_lt (hd.take skip)
  rw [List.length_take, Nat.min_eq_left hs] at h
  rw [Nat.div_eq_of_lt h, Nat.add_zero]
theorem shr_zero {xs : List Nat} {s : Nat} (hd : Dig W64 xs) (h : xs.length ≤ s / 64) : val W64 xs / 2 ^ s = 0 := by
  refine Nat.div_eq_of_lt (Nat.lt_of_lt_of_le (val_lt hd) ?_)
  rw [W64_pow]
  exact Nat.pow_le_pow_right (by omega) (by omega)

set_option maxHeartbeats 2000000 in
set_option maxRecDepth 100000 in
theorem shiftRight_core (A : Option Addr) (xs : List Nat) (n c s skip t : Nat) (w : World) (hn : xs.length = n) (hX : Shows .u64 w A xs) (hl : xs.length ≤ 4294967296) (hd : Dig W64 xs) (hs : s = 64 * skip + t) (ht : t ≤ 63) (hk : skip ≤ 4294967296) :
    Calls Tryz.prog 203 #[.slice A n c, .int .u64 (s : Int)] w (RetNat w (val W64 xs / 2 ^ s)) := by
  subst hn
  have HX := Lib.hid hX
  have Hd := Lib.hid hd
  have HS := Lib.hid hs
  have p1 : (s : Int) / 64 = (skip : Int) := by omega
  have p2 : (s : Int) % 64 = (t : Int) := by omega
  clear hX hd
  by_cases h0 : xs.length ≤ skip
  · have HZ := Lib.hid (shr_zero (s := s) Hd.out (by omega))
    clear hs
    go_enter Tryz.func203, Tryz.ntmps203
    go_wp2
    go_ret
    exact ⟨_, rfl, by rw [HZ.out]; exact NatIs.zero _, Fr.refl _ _⟩
  clear hs
  go_enter Tryz.func203, Tryz.ntmps203
  go_wp2_with (at_make
               refine wpList_make_words rfl _ _ _ rfl _ _ _ Tryz.underlying65 info64 _ _ _ _ (xs.length - skip) rfl rfl (by omega) (by omega) (by omega) (by omega) ?_
               intro b w1 hb hO1 _ hF1 hs1
               have HO1 := Lib.hid hO1
               have HF1 := Lib.hid hF1
               have Hb := Lib.hid hb
               clear hO1 hF1 hb hs1)
  have hyl : Hid ((xs.drop skip).length = xs.length - skip) := by unfold Hid; simp
  go_loopw [27] (fun i wr => ∃ (k : Nat) (zs : List Nat), k ≤ xs.length - skip ∧ i = .int .i64 (k : Int) ∧ Hid (ShrRel (xs.drop skip) t k zs) ∧ Hid (Own .u64 69 wr b zs) ∧ Hid (Ext w wr)) (fun i _ => xs.length - skip - (intOf i).toNat)
  case atStart => exact ⟨0, _, by omega, rfl, ShrRel.start _ t, by rw [hyl.out]; exact HO1.out, HF1.out⟩
  case round =>
    obtain ⟨k, zs, hkk, rfl, hR, hO2, hF2⟩ := hrel
    clear p1 p2
    by_cases hlt : k < xs.length - skip
    · obtain ⟨b2, off2, rfl, _, hcx⟩ := (HX.out.ext hF2.out).at (i := k + skip) (by omega)
      obtain ⟨x, ex⟩ : ∃ x, xs[k + skip]?.getD 0 = x := ⟨_, rfl⟩
      rw [ex] at hcx
      have hxW : Hid (x < W64) := ex ▸ Hd.out.getD W64_pos _
      have ex' : (xs.drop skip)[k]?.getD 0 = x := by rw [List.getElem?_drop, Nat.add_comm]; exact ex
      have hzl : zs.length = xs.length - skip := by rw [← hyl.out]; exact hR.out.1
      have hkz : k < zs.length := by omega
      have hc1 := hO2.out.cell hkz
      have hf1 := hO2.out.frozen k
      obtain ⟨z0, ez0⟩ : ∃ z0, zs[k]?.getD 0 = z0 := ⟨_, rfl⟩
      rw [ez0] at hc1
      have q3 := shr_eq x t
      by_cases hlast : k + skip + 1 < xs.length
      · obtain ⟨b3, off3, e3, _, hcy⟩ := (HX.out.ext hF2.out).at (i := k + skip + 1) hlast
        injection e3 with e3
        injection e3 with e31 e32
        subst e31 e32
        obtain ⟨y, ey⟩ : ∃ y, xs[k + skip + 1]?.getD 0 = y := ⟨_, rfl⟩
        rw [ey] at hcy
        have ey' : (xs.drop skip)[k + 1]?.getD 0 = y := by rw [List.getElem?_drop, show skip + (k + 1) = k + skip + 1 by omega]; exact ey
        have HR2 := Lib.hid (hR.out.step ht (by rw [hyl.out]; exact hlt) ex' ey' hxW.out)
        have q1 := shl_wrap y (64 - t)
        have q2 := or_u64 (a := x / 2 ^ t) (b := y * 2 ^ (64 - t) % W64) (Nat.lt_of_le_of_lt (Nat.div_le_self _ _) hxW.out) (Nat.mod_lt _ W64_pos)
        rw [shr_or ht hxW.out] at q2
        obtain ⟨lo, elo⟩ : ∃ lo, x / 2 ^ t = lo := ⟨_, rfl⟩
        obtain ⟨hi, ehi⟩ : ∃ hi, y * 2 ^ (64 - t) % W64 = hi := ⟨_, rfl⟩
        obtain ⟨d, ed⟩ : ∃ d, x / 2 ^ t + y % 2 ^ t * 2 ^ (64 - t) = d := ⟨_, rfl⟩
        rw [ed] at q2 HR2
        rw [elo] at q2 q3
        rw [ehi] at q1 q2
        have hO3 := hO2.out.set k lo hkz
        have hf3 := hO3.frozen k
        have hc3 := hO3.cell (i := k) (by simpa using hkz)
        have e4 : (zs.set k lo)[k]?.getD 0 = lo := by rw [List.getElem?_set_self hkz]; rfl
        rw [e4] at hc3
        have HO4 := Lib.hid (hO3.set k d (by simpa using hkz))
        have hcy' : (wr.setCell ⟨b, k, none⟩ (.int .u64 (lo : Int))).cell? ⟨b2, off2 + (k + skip + 1), none⟩ = some (.int .u64 (y : Int)) := by
          rw [World.cell?_setCell_other _ _ _ _ (by intro e; injection e with e; have := Hb.out; obtain ⟨b', o', e', hb', _⟩ := HX.out (by intro e0; rw [e0] at hlt; simp at hlt); injection e' with e'; injection e' with e'; omega)]
          exact hcy
        clear ex ex' ey ey' ez0 elo ehi ed hzl hO3 e4
        have HF3 := Lib.hid (hF2.out.setCell (p := ⟨b, k, none⟩) (Or.inr (by have := Hb.out; show w.heap.size ≤ b; omega)) (.int .u64 (lo : Int)))
        go_wp2
        clear hcy hcx
        generalize hwq : wr.setCell ⟨b, k, none⟩ (.int .u64 (lo : Int)) = wq at *
        clear hwq hc1 hf1
        go_region
        all_goals
          go_wp2
          go_roundw
          case rel => exact ⟨k + 1, _, by omega, by go_num, HR2, by have := HO4.out; rw [List.set_set] at this; exact this.drewN _, (HF3.out.setCell (p := ⟨b, k, none⟩) (Or.inr (by have := Hb.out; show w.heap.size ≤ b; omega)) _).drewN _⟩
          case measure => simp [intOf]; omega
      · have ey' : (xs.drop skip)[k + 1]?.getD 0 = 0 := by rw [List.getElem?_drop, List.getElem?_eq_none (by omega)]; rfl
        have HR2 := Lib.hid (hR.out.step ht (by rw [hyl.out]; exact hlt) ex' ey' hxW.out)
        rw [Nat.zero_mod, Nat.zero_mul, Nat.add_zero] at HR2
        obtain ⟨lo, elo⟩ : ∃ lo, x / 2 ^ t = lo := ⟨_, rfl⟩
        rw [elo] at q3 HR2
        have HO3 := Lib.hid (hO2.out.set k lo hkz)
        clear ex ex' ey' ez0 elo hzl
        go_wp2
        go_roundw
        case rel => exact ⟨k + 1, _, by omega, by go_num, HR2, HO3.out, hF2.out.setCell (p := ⟨b, k, none⟩) (Or.inr (by have := Hb.out; show w.heap.size ≤ b; omega)) _⟩
        case measure => simp [intOf]; omega
    · obtain rfl : k = xs.length - skip := by omega
      have hz : zs.length = xs.length - skip := by rw [← hyl.out]; exact hR.out.1
      have HT := Lib.hid (trim_any _ zs (xs.length - skip) (xs.length - skip) wr hz hO2.out.shows0 (by omega) (by omega))
      have HN := Lib.hid (NatIs.of_own (c := xs.length - skip) hO2.out hR.out.2.1 (by omega))
      have hRd := hR.out
      rw [← hyl.out] at hRd
      rw [hRd.done, shr_val xs skip t Hd.out (by omega), ← HS.out] at HN
      clear hz hRd
      go_wp2_with fail
      refine HT.out.mono ?_
      rintro e w2 ⟨rfl, rfl⟩
      clear HT
      go_wp2
      go_ret
      exact ⟨_, rfl, HN.out, hF2.out⟩

theorem shiftRight_any (xv : Value) (x s : Nat) (w : World) (hX : NatIs w xv x) (hx : wl x ≤ 4294967296) (hs : s ≤ 274877906944) : Calls Tryz.prog 203 #[xv, .int .u64 (s : Int)] w (RetNat w (x / 2 ^ s)) := by
  obtain ⟨A, xs, c, rfl, hc, h1, h2, h3, rfl⟩ := hX
  rw [← wl_len h2 h3] at hx
  exact shiftRight_core A xs _ c s (s / 64) (s % 64) w rfl h1 hx h2 (by omega) (by omega) (by omega)
end Go.Proofs.YtndafmjcelgnbaaGreatDoor
