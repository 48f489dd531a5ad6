/-
  gcdWords, where the smaller number has at most one word.
-/
import Derived.Test.YtndafmjcelgnbaaGreatDoorInt3
import Derived.Test.YtndafmjcelgnbaaGreatDoorGlob
import Derived.Test.YtndafmjcelgnbaaGreatDoorNat2
namespace Go.Proofs.YtndafmjcelgnbaaGreatDoor
open Go.RowKit

set_option maxHeartbeats 4000000 in
set_option maxRecDepth 100000 in
theorem gcdWords_le (u v : Value) (m n g : Nat) (w : World) (hg : Glob w) (hu : NatIs w u m) (hv : NatIs w v n) (hm : wl m ≤ 4294967296) (hn : n < W64) (h0 : 0 < n) (hle : n ≤ m) (eg : Nat.gcd m n = g) :
    Calls Tryz.prog 144 #[u, v] w (RetNat w g) := by
  obtain ⟨A, xs, c, rfl, hc, h1, h2, h3, h4⟩ := hu
  obtain ⟨A2, ys, c2, rfl, hc2, k1, k2, k3, k4⟩ := hv
  have hlx := wl_len h2 h3
  have hly := wl_len k2 k3
  rw [h4] at hlx
  rw [k4] at hly
  have hl1 : ys.length = 1 := by
    have := wl_one.2 hn
    have := wl_pos h0
    omega
  obtain ⟨y, rfl⟩ : ∃ y, ys = [y] := by match ys, hl1 with | [y], _ => exact ⟨y, rfl⟩
  simp at k4
  subst k4
  have HU : Hid (NatIs w (.slice A xs.length c) m) := ⟨A, xs, c, rfl, hc, h1, h2, h3, h4⟩
  have HV : Hid (NatIs w (.slice A2 1 c2) y) := ⟨A2, [y], c2, rfl, hc2, k1, k2, k3, by simp⟩
  have HX := Lib.hid h1
  have HY := Lib.hid k1
  have Hm : Hid (wl m ≤ 4294967296 ∧ xs.length ≤ 4294967296) := ⟨hm, by omega⟩
  have Hn := Lib.hid hn
  have Hle := Lib.hid hle
  have Hy0 := Lib.hid h0
  have Hdx := Lib.hid h2
  have Hval := Lib.hid h4
  have Heg := Lib.hid eg
  have HG := Lib.hid hg
  clear hm hn hle h1 k1 k2 k3 h3 h2 hc hc2 hlx hly hl1 h4 eg hg h0
  go_enter Tryz.func144, Tryz.ntmps144
  go_wp2_with fail
  refine (compare_nat _ _ m y w HU.out HV.out Hm.out.1 (by have := wl_one.2 Hn.out; omega)).mono ?_
  rintro e w' ⟨rfl, nd, hw'⟩
  obtain ⟨q, hq⟩ : ∃ q, cmpI m y = q := ⟨_, rfl⟩
  have hq0 : (0 : Int) ≤ q := by rw [← hq]; exact cmpI_nonneg Hle.out
  have hq1 : decide (q < 0) = false := by simp; omega
  rw [hq]
  have HE0 : Hid (Ext w w') := hw' ▸ (Fr.refl _ w).drewN nd
  clear hq hw' hq0
  go_wp2_with fail
  refine (clone_any A xs _ c w' rfl (HX.out.ext HE0.out) Hm.out.2).mono ?_
  rintro e w1 ⟨A1, cap1, rfl, hB1, hF1, hA1⟩
  have HS1 : Hid (Shows .u64 w1 A1 xs) := hB1.shows
  have HE1 : Hid (Ext w w1) := HE0.out.trans hF1
  clear hB1 hF1 hA1
  go_wp2_with fail
  refine (clone_any A2 [y] 1 c2 w1 rfl (HY.out.ext HE1.out) (by omega)).mono ?_
  rintro e w2 ⟨A3, cap3, rfl, hB3, hF3, hA3⟩
  have hy3 : Hid (Shows .u64 w2 A3 [y]) := hB3.shows
  obtain ⟨b3, o3, rfl, hb3, hc3⟩ := hy3.out.at (i := 0) (by simp)
  simp at hc3
  have HS2 : Hid (Shows .u64 w2 A1 xs) := HS1.out.ext hF3
  have HE2 : Hid (Ext w w2) := HE1.out.trans hF3
  have hb3 := Lib.hid hb3
  clear hB3 hF3 hA3 hy3 HS1
  obtain ⟨x, ex⟩ : ∃ x, xs.length = x := ⟨_, rfl⟩
  rw [ex]
  go_wp2_with fail
  obtain ⟨r, er⟩ : ∃ r, m % y = r := ⟨_, rfl⟩
  go_loopw [5, 6] (fun av bv wr => av = .slice A1 x cap1 ∧ bv = .slice (some ⟨b3, o3, none⟩) 1 cap3 ∧ wr = w2) (fun _ _ _ => 0)
  case atStart => exact ⟨rfl, rfl, rfl⟩
  case round =>
    obtain ⟨rfl, rfl, rfl⟩ := hrel
    go_wp2_with fail
    have HC3 : Hid (wr.cell? ⟨b3, o3, none⟩ = some (.int .u64 (y : Int))) := hc3
    have hb3' : Hid (b3 < wr.heap.size) := hb3.out
    have hzz : Hid (r < W64 ∧ Nat.gcd y r = g ∧ g < W64) := by
      have h1 := Nat.mod_lt m Hy0.out
      have h2 := Hn.out
      have h3 := Nat.gcd_le_right m Hy0.out
      rw [Heg.out] at h3
      refine ⟨by omega, ?_, by omega⟩
      rw [← er, ← Heg.out, Nat.gcd_comm y, ← Nat.gcd_rec, Nat.gcd_comm]
    go_region_held3 (fun w' => w'.cell? ⟨b3, o3, none⟩ = some (.int .u64 (y : Int)))
      (first | exact HC3.out | exact (Fr.cell (p := ⟨b3, o3, none⟩) (Fr.undrew hFF) hb3'.out (fun f => f)).trans HC3.out)
      (first
        | (go_at_call 104
           refine (remainderWord_any A1 xs x cap1 y _ ex HS2.out.drew (by have := Hm.out.2; omega) Hdx.out Hy0.out Hn.out).mono ?_
           rintro e w4 ⟨rfl, nd4, hw4⟩
           rw [Hval.out, er]
           have hFF : Ext wr.drew w4 := hw4 ▸ (Fr.refl _ wr.drew).drewN nd4
           clear hw4)
        | (go_at_call 171
           refine (gcdWord_any y r g _ (HG.out.ext (HE2.out.trans (Fr.undrew hFF))) Hn.out hzz.out.1 hzz.out.2.1).mono ?_
           rintro e w5 ⟨rfl, rfl⟩)
        | (go_at_call 103
           refine (fromWord_any g _ hzz.out.2.2).mono ?_
           rintro e w6 ⟨v6, rfl, hN6, hF6⟩
           replace hFF : Ext wr.drew w6 := hFF.trans hF6))
    go_wp2
    go_ret
    exact ⟨_, rfl, hN6, HE2.out.trans (Fr.undrew hFF)⟩
set_option maxHeartbeats 4000000 in
set_option maxRecDepth 100000 in
theorem gcdWords_lt (u v : Value) (m n g : Nat) (w : World) (hg : Glob w) (hu : NatIs w u m) (hv : NatIs w v n) (hm : wl m ≤ 4294967296) (hn : n < W64) (h0 : 0 < n) (hle : n < m) (eg : Nat.gcd m n = g) :
    Calls Tryz.prog 144 #[v, u] w (RetNat w g) := by
  obtain ⟨A, xs, c, rfl, hc, h1, h2, h3, h4⟩ := hu
  obtain ⟨A2, ys, c2, rfl, hc2, k1, k2, k3, k4⟩ := hv
  have hlx := wl_len h2 h3
  have hly := wl_len k2 k3
  rw [h4] at hlx
  rw [k4] at hly
  have hl1 : ys.length = 1 := by
    have := wl_one.2 hn
    have := wl_pos h0
    omega
  obtain ⟨y, rfl⟩ : ∃ y, ys = [y] := by match ys, hl1 with | [y], _ => exact ⟨y, rfl⟩
  simp at k4
  subst k4
  have HU : Hid (NatIs w (.slice A xs.length c) m) := ⟨A, xs, c, rfl, hc, h1, h2, h3, h4⟩
  have HV : Hid (NatIs w (.slice A2 1 c2) y) := ⟨A2, [y], c2, rfl, hc2, k1, k2, k3, by simp⟩
  have HX := Lib.hid h1
  have HY := Lib.hid k1
  have Hm : Hid (wl m ≤ 4294967296 ∧ xs.length ≤ 4294967296) := ⟨hm, by omega⟩
  have Hn := Lib.hid hn
  have Hle := Lib.hid hle
  have Hy0 := Lib.hid h0
  have Hdx := Lib.hid h2
  have Hval := Lib.hid h4
  have Heg := Lib.hid eg
  have HG := Lib.hid hg
  clear hm hn hle h1 k1 k2 k3 h3 h2 hc hc2 hlx hly hl1 h4 eg hg h0
  go_enter Tryz.func144, Tryz.ntmps144
  go_wp2_with fail
  refine (compare_nat _ _ y m w HV.out HU.out (by have := wl_one.2 Hn.out; omega) Hm.out.1).mono ?_
  rintro e w' ⟨rfl, nd, hw'⟩
  obtain ⟨q, hq⟩ : ∃ q, cmpI y m = q := ⟨_, rfl⟩
  have hq0 : q < 0 := by rw [← hq]; exact cmpI_neg.2 Hle.out
  have hq1 : decide (q < 0) = true := by simp; omega
  rw [hq]
  have HE0 : Hid (Ext w w') := hw' ▸ (Fr.refl _ w).drewN nd
  clear hq hw' hq0
  go_wp2_with fail
  refine (clone_any A xs _ c w' rfl (HX.out.ext HE0.out) Hm.out.2).mono ?_
  rintro e w1 ⟨A1, cap1, rfl, hB1, hF1, hA1⟩
  have HS1 : Hid (Shows .u64 w1 A1 xs) := hB1.shows
  have HE1 : Hid (Ext w w1) := HE0.out.trans hF1
  clear hB1 hF1 hA1
  go_wp2_with fail
  refine (clone_any A2 [y] 1 c2 w1 rfl (HY.out.ext HE1.out) (by omega)).mono ?_
  rintro e w2 ⟨A3, cap3, rfl, hB3, hF3, hA3⟩
  have hy3 : Hid (Shows .u64 w2 A3 [y]) := hB3.shows
  obtain ⟨b3, o3, rfl, hb3, hc3⟩ := hy3.out.at (i := 0) (by simp)
  simp at hc3
  have HS2 : Hid (Shows .u64 w2 A1 xs) := HS1.out.ext hF3
  have HE2 : Hid (Ext w w2) := HE1.out.trans hF3
  have hb3 := Lib.hid hb3
  clear hB3 hF3 hA3 hy3 HS1
  obtain ⟨x, ex⟩ : ∃ x, xs.length = x := ⟨_, rfl⟩
  rw [ex]
  go_wp2_with fail
  obtain ⟨r, er⟩ : ∃ r, m % y = r := ⟨_, rfl⟩
  go_loopw [5, 6] (fun av bv wr => av = .slice A1 x cap1 ∧ bv = .slice (some ⟨b3, o3, none⟩) 1 cap3 ∧ wr = w2) (fun _ _ _ => 0)
  case atStart => exact ⟨rfl, rfl, rfl⟩
  case round =>
    obtain ⟨rfl, rfl, rfl⟩ := hrel
    go_wp2_with fail
    have HC3 : Hid (wr.cell? ⟨b3, o3, none⟩ = some (.int .u64 (y : Int))) := hc3
    have hb3' : Hid (b3 < wr.heap.size) := hb3.out
    have hzz : Hid (r < W64 ∧ Nat.gcd y r = g ∧ g < W64) := by
      have h1 := Nat.mod_lt m Hy0.out
      have h2 := Hn.out
      have h3 := Nat.gcd_le_right m Hy0.out
      rw [Heg.out] at h3
      refine ⟨by omega, ?_, by omega⟩
      rw [← er, ← Heg.out, Nat.gcd_comm y, ← Nat.gcd_rec, Nat.gcd_comm]
    go_region_held3 (fun w' => w'.cell? ⟨b3, o3, none⟩ = some (.int .u64 (y : Int)))
      (first | exact HC3.out | exact (Fr.cell (p := ⟨b3, o3, none⟩) (Fr.undrew hFF) hb3'.out (fun f => f)).trans HC3.out)
      (first
        | (go_at_call 104
           refine (remainderWord_any A1 xs x cap1 y _ ex HS2.out.drew (by have := Hm.out.2; omega) Hdx.out Hy0.out Hn.out).mono ?_
           rintro e w4 ⟨rfl, nd4, hw4⟩
           rw [Hval.out, er]
           have hFF : Ext wr.drew w4 := hw4 ▸ (Fr.refl _ wr.drew).drewN nd4
           clear hw4)
        | (go_at_call 171
           refine (gcdWord_any y r g _ (HG.out.ext (HE2.out.trans (Fr.undrew hFF))) Hn.out hzz.out.1 hzz.out.2.1).mono ?_
           rintro e w5 ⟨rfl, rfl⟩)
        | (go_at_call 103
           refine (fromWord_any g _ hzz.out.2.2).mono ?_
           rintro e w6 ⟨v6, rfl, hN6, hF6⟩
           replace hFF : Ext wr.drew w6 := hFF.trans hF6))
    go_wp2
    go_ret
    exact ⟨_, rfl, hN6, HE2.out.trans (Fr.undrew hFF)⟩

set_option maxHeartbeats 1000000 in
theorem gcdWords_zero (u v : Value) (m : Nat) (w : World) (hu : NatIs w u m) (hv : NatIs w v 0) (hm : wl m ≤ 4294967296) : Calls Tryz.prog 144 #[u, v] w (RetNat w m) := by
  obtain ⟨A, l, c, rfl⟩ := hu.slice
  obtain ⟨A2, l2, c2, rfl⟩ := hv.slice
  obtain rfl : l2 = 0 := hv.len0
  have HU := Lib.hid hu
  have HV := Lib.hid hv
  have Hm := Lib.hid hm
  clear hu hv hm
  go_enter Tryz.func144, Tryz.ntmps144
  go_wp2_with fail
  refine (compare_nat _ _ m 0 w HU.out HV.out Hm.out (by rw [wl_zero]; omega)).mono ?_
  rintro e w' ⟨rfl, nd, hw'⟩
  obtain ⟨q, hq⟩ : ∃ q, cmpI (m : Int) ((0 : Nat) : Int) = q := ⟨_, rfl⟩
  have hq0 : (0 : Int) ≤ q := by rw [← hq]; exact cmpI_nonneg (Nat.zero_le _)
  have hq1 : decide (q < 0) = false := by simp; omega
  rw [hq]
  have HE0 : Hid (Ext w w') := hw' ▸ (Fr.refl _ w).drewN nd
  clear hq hw' hq0
  go_wp2
  go_ret
  exact ⟨_, rfl, HU.out.ext HE0.out, HE0.out⟩

set_option maxHeartbeats 1000000 in
theorem gcdWords_zero' (u v : Value) (m : Nat) (w : World) (hu : NatIs w u 0) (hv : NatIs w v m) (h0 : 0 < m) (hm : wl m ≤ 4294967296) : Calls Tryz.prog 144 #[u, v] w (RetNat w m) := by
  obtain ⟨A, l, c, rfl⟩ := hu.slice
  obtain ⟨A2, l2, c2, rfl⟩ := hv.slice
  obtain rfl : l = 0 := hu.len0
  have HU := Lib.hid hu
  have HV := Lib.hid hv
  have Hm := Lib.hid hm
  have H0 := Lib.hid h0
  clear hu hv hm h0
  go_enter Tryz.func144, Tryz.ntmps144
  go_wp2_with fail
  refine (compare_nat _ _ 0 m w HU.out HV.out (by rw [wl_zero]; omega) Hm.out).mono ?_
  rintro e w' ⟨rfl, nd, hw'⟩
  obtain ⟨q, hq⟩ : ∃ q, cmpI ((0 : Nat) : Int) (m : Int) = q := ⟨_, rfl⟩
  have hq0 : q < 0 := by rw [← hq]; exact cmpI_neg.2 H0.out
  have hq1 : decide (q < 0) = true := by simp; omega
  rw [hq]
  have HE0 : Hid (Ext w w') := hw' ▸ (Fr.refl _ w).drewN nd
  clear hq hw' hq0
  go_wp2
  go_ret
  exact ⟨_, rfl, HV.out.ext HE0.out, HE0.out⟩

theorem gcdWords_small (u v : Value) (m n : Nat) (w : World) (hg : Glob w) (hu : NatIs w u m) (hv : NatIs w v n) (hm : wl m ≤ 4294967296) (hn : wl n ≤ 4294967296) (hs : min m n < W64) : Calls Tryz.prog 144 #[u, v] w (RetNat w (Nat.gcd m n)) := by
  rcases Nat.eq_zero_or_pos n with rfl | n0
  · rw [Nat.gcd_zero_right]; exact gcdWords_zero u v m w hu hv hm
  rcases Nat.eq_zero_or_pos m with rfl | m0
  · rw [Nat.gcd_zero_left]; exact gcdWords_zero' u v n w hu hv n0 hn
  rcases Nat.lt_or_ge m n with h | h
  · exact gcdWords_lt v u n m _ w hg hv hu hn (by omega) m0 h (Nat.gcd_comm _ _)
  · exact gcdWords_le u v m n _ w hg hu hv hm (by omega) n0 h rfl
end Go.Proofs.YtndafmjcelgnbaaGreatDoor
