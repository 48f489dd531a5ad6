/-
  Package integer: Mod, Quo.
-/
import Derived.Test.YtndafmjcelgnbaaGreatDoorInt4
namespace Go.Proofs.YtndafmjcelgnbaaGreatDoor
open Go.RowKit

theorem IntIs.neg_iff {w : World} {s : Bool} {u : Value} {z : Int} (h : IntIs w (.agg #[.bool s, u]) z) : (s = true) ↔ z < 0 := by
  obtain ⟨s', u', n, h1, h2, h3, h4⟩ := h
  injection h1 with h1
  simp at h1
  obtain ⟨rfl, rfl⟩ := h1
  cases s <;> simp at h3 h4 ⊢ <;> omega
theorem mod_of_tmod_nonneg {x y : Int} (hy : 0 < y) (h : 0 ≤ x.tmod y) : x % y = x.tmod y := by
  have h1 := Int.tmod_lt_of_pos x hy
  have h2 : x = x.tmod y + y * x.tdiv y := by have := Int.mul_tdiv_add_tmod x y; omega
  generalize x.tmod y = r at *
  generalize x.tdiv y = q at *
  subst h2
  rw [Int.add_mul_emod_self_left, Int.emod_eq_of_lt h h1]
theorem mod_of_tmod_neg {x y : Int} (hy : 0 < y) (h : x.tmod y < 0) : x % y = x.tmod y + y := by
  have h1 : -y < x.tmod y := by
    have h3 := Int.natAbs_tmod x y
    have := Nat.mod_lt x.natAbs (y := y.natAbs) (by omega)
    omega
  have h2 : x = x.tmod y + y * x.tdiv y := by have := Int.mul_tdiv_add_tmod x y; omega
  generalize x.tmod y = r at *
  generalize x.tdiv y = q at *
  subst h2
  rw [Int.add_mul_emod_self_left, ← Int.add_emod_right, Int.emod_eq_of_lt (by omega) (by omega)]
/-- what is known behind QuoRem: the boxes, the result's block and the two new blocks -/
theorem behind_two {w wb w1 w2 : World} {t : TypeId} {g0 g1 r : Nat} {x y z p q : Array Value} (hE : Ext w wb) (h0 : Blk t wb g0 x) (h1 : Blk t wb g1 y) (hr : Blk t wb r z) (hF : Ext wb w1) (e : (w1.alloc (.cells p t)).alloc (.cells q t) = w2) :
    Blk t w2 g0 x ∧ Blk t w2 g1 y ∧ Blk t w2 r z ∧ Blk t w2 w1.heap.size p ∧ Blk t w2 (w1.heap.size + 1) q ∧ Ext w w2 ∧ Ext w1 w2 ∧ g0 < w1.heap.size ∧ g1 < w1.heap.size ∧ r < w1.heap.size := by
  obtain ⟨k0, k1, k2⟩ := two_blocks e
  exact ⟨(h0.ext hF).ext k2, (h1.ext hF).ext k2, (hr.ext hF).ext k2, k0, k1, (hE.trans hF).trans k2, k2, (h0.ext hF).lt, (h1.ext hF).lt, (hr.ext hF).lt⟩

set_option maxHeartbeats 4000000 in
set_option maxRecDepth 100000 in
theorem Mod_any (a b : Value) (x y : Int) (w : World) (ha : IntIs w a x) (hb : IntIs w b y) (hx : Fits x) (hy : wl y.natAbs < 80) (h0 : 0 < y) : Calls Tryz.prog 120 #[a, b] w (RetInt w (x % y)) := by
  obtain ⟨s, A, l, c, rfl⟩ := ha.shape
  obtain ⟨t, A', l', c', rfl⟩ := hb.shape
  have Ha := Lib.hid ha
  have Hb := Lib.hid hb
  have Hx := Lib.hid hx
  have Hy := Lib.hid hy
  have H0 : Hid (y ≠ 0) := by unfold Hid; omega
  have Hpos := Lib.hid h0
  obtain ⟨z, ez⟩ : ∃ z, x % y = z := ⟨_, rfl⟩
  obtain ⟨q, eq⟩ : ∃ q, x.tdiv y = q := ⟨_, rfl⟩
  obtain ⟨r, er⟩ : ∃ r, x.tmod y = r := ⟨_, rfl⟩
  have HQ : Hid (x.tdiv y = q ∧ x.tmod y = r) := ⟨eq, er⟩
  have HZ : Hid ((0 ≤ r → z = r) ∧ (r < 0 → z = r + y) ∧ r.natAbs ≤ x.natAbs) := by
    unfold Hid
    refine ⟨fun h => ?_, fun h => ?_, ?_⟩
    · rw [← ez, ← er]
      exact mod_of_tmod_nonneg h0 (er ▸ h)
    · rw [← ez, ← er]
      exact mod_of_tmod_neg h0 (er ▸ h)
    · rw [← er, Int.natAbs_tmod]; exact Nat.mod_le _ _
  rw [ez]
  clear ha hb hx hy h0 ez eq er
  go_enter Tryz.func120, Tryz.ntmps120
  go_wp2_with fail
  generalize hwb : World.alloc (World.alloc (World.alloc w _) _) _ = wb
  obtain ⟨hBx, hBy, hBr, hE⟩ := three_blocks hwb
  have HBx := Lib.hid hBx
  have HBy := Lib.hid hBy
  have HBr := Lib.hid hBr
  have HE := Lib.hid hE
  clear hwb hBx hBy hBr hE
  refine (QuoRem_any _ _ _ _ _ (Ha.out.ext HE.out) (Hb.out.ext HE.out) Hx.out Hy.out H0.out).mono ?_
  rintro e w1 ⟨u1, u2, rfl, hN1, hN2, hF1⟩
  rw [HQ.out.1] at hN1
  rw [HQ.out.2] at hN2
  obtain ⟨s1, A1, l1, c1, rfl⟩ := hN1.shape
  obtain ⟨s2, A2, l2, c2, rfl⟩ := hN2.shape
  have hs2 := hN2.neg_iff
  have HN2 := Lib.hid hN2
  have HF1 := Lib.hid hF1
  obtain ⟨z0, z1, z2, z3⟩ := (HBr.out.ext hF1).cell2
  have hlt1 := (HBr.out.ext hF1).lt
  have hlt2 := Nat.lt_succ_of_lt hlt1
  clear hN1 hN2 hF1
  cases s2 with
  | false =>
    have hr0 : Hid (0 ≤ r) := by unfold Hid; simp at hs2; exact hs2
    clear hs2
    go_wp2
    have hB := ((HBr.out.ext HF1.out).set_ 0 (.bool false)).set_ 1 (.slice A2 l2 c2)
    refine bodyPost_ret (results_int rfl _ _ (w.heap.size + 1 + 1) _ _ rfl ((hB.alloc _).alloc _)) rfl ⟨_, rfl, ?_, ((((HE.out.trans HF1.out).setCell (Or.inr (by simp; omega)) _).setCell (Or.inr (by simp; omega)) _).alloc _).alloc _⟩
    rw [HZ.out.1 hr0.out]
    exact (HN2.out.store2 (HBr.out.ext HF1.out)).ext (((Fr.refl _ _).alloc _).alloc _)
  | true =>
    have hr0 : Hid (r < 0) := by unfold Hid; simp at hs2; exact hs2
    clear hs2
    go_wp2_with fail
    generalize hw2 : World.alloc (World.alloc w1 _) _ = w2
    obtain ⟨hBx2, hBy2, hBr2, hBp2, hBq2, hE2, hF2, hb0, hb1, hb2⟩ := behind_two HE.out HBx.out HBy.out HBr.out HF1.out hw2
    clear z0 z1 z2 z3 hlt1 hlt2 hw2
    have HBy2 := Lib.hid hBy2
    have HBq2 := Lib.hid hBq2
    have HBr2 := Lib.hid hBr2
    have HE2 := Lib.hid hE2
    have HF2 := Lib.hid hF2
    have Hlt := Lib.hid hb2
    have Hrf : Hid (Fits r) := by
      have := HZ.out.2.2; have h := Hx.out; unfold Hid Fits at *; exact Nat.le_trans (wl_mono this) h
    have Hyf : Hid (Fits (y.natAbs : Int)) := by
      have h := Hy.out; unfold Hid Fits; simp; omega
    clear hBx2 hBy2 hBr2 hBp2 hBq2 hE2 hF2 hb0 hb1 hb2
    go_region_held3 (fun w' => w'.cell? ⟨w.heap.size + 1, 0, none⟩ = some (.bool t) ∧ w'.cell? ⟨w.heap.size + 1, 1, none⟩ = some (.slice A' l' c') ∧ w'.cell? ⟨w1.heap.size + 1, 0, none⟩ = some (.bool true) ∧ w'.cell? ⟨w1.heap.size + 1, 1, none⟩ = some (.slice A2 l2 c2))
      (first | exact keep4 HBy2.out HBq2.out (Fr.refl _ _).drew | exact keep4 HBy2.out HBq2.out (Fr.undrew hF3) | exact keep4s HBy2.out HBq2.out (Fr.undrew hF3) (by omega) (by have := Hlt.out; omega))
      (first
        | (go_at_call 156
           refine (Abs_any _ _ _ (Hb.out.ext HE2.out.drew)).mono ?_
           rintro e w3 ⟨u3, rfl, hN3, hF3⟩
           obtain ⟨s3, A3, l3, c3, rfl⟩ := hN3.shape)
        | (go_at_call 52
           refine (Add_any _ _ r _ _ (HN2.out.ext (HF2.out.drew.trans hF3)) hN3 Hrf.out Hyf.out).mono ?_
           rintro e w4 ⟨u4, rfl, hN4, hF4⟩
           obtain ⟨s4, A4, l4, c4, rfl⟩ := hN4.shape
           replace hF3 : Ext w2.drew w4 := hF3.trans hF4
           obtain ⟨z0, z1, z2, z3⟩ := (HBr2.out.ext (Fr.undrew hF3)).cell2))
    go_wp2
    refine fin_int2 rfl rfl (by omega) HE2.out HBr2.out (Fr.undrew hF3) ?_
    rw [HZ.out.2.1 hr0.out]
    have e : ((y.natAbs : Nat) : Int) = y := by have := Hpos.out; omega
    rw [e] at hN4
    exact hN4
end Go.Proofs.YtndafmjcelgnbaaGreatDoor
