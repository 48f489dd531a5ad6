/-
  Package integer: New, GCD (small road), Mod, Quo.
-/
import Derived.Test.YtndafmjcelgnbaaGreatDoorGcd1
namespace Go.Proofs.YtndafmjcelgnbaaGreatDoor
open Go.RowKit

/-- The greatest common divisors that a walk may ask for: one of the numbers has one word. -/
def GcdOk (x y : Int) : Prop := min x.natAbs y.natAbs < W64

set_option maxHeartbeats 1000000 in
set_option maxRecDepth 100000 in
theorem GCD_any (a b : Value) (x y : Int) (w : World) (hg : Glob w) (ha : IntIs w a x) (hb : IntIs w b y) (hx : Fits x) (hy : Fits y) (hs : GcdOk x y) : Calls Tryz.prog 99 #[a, b] w (RetInt w (Int.gcd x y : Int)) := by
  obtain ⟨s, A, l, c, rfl, hN, hz, z0⟩ := ha.open
  obtain ⟨t, A', l', c', rfl, hN', hz', z0'⟩ := hb.open
  have HN := Lib.hid hN
  have HN' := Lib.hid hN'
  have Hx : Hid (wl x.natAbs ≤ 4294967296) := by unfold Fits at hx; unfold Hid; omega
  have Hy : Hid (wl y.natAbs ≤ 4294967296) := by unfold Fits at hy; unfold Hid; omega
  have HG := Lib.hid hg
  have HS := Lib.hid hs
  obtain ⟨z, ez⟩ : ∃ z, Int.gcd x y = z := ⟨_, rfl⟩
  have Ez : Hid (Nat.gcd x.natAbs y.natAbs = z) := ez
  rw [ez]
  clear ha hb hx hy hN hN' hz hz' z0 z0' hg hs ez
  go_enter Tryz.func99, Tryz.ntmps99
  go_wp2_with fail
  generalize hwb : World.alloc (World.alloc (World.alloc w _) _) _ = wb
  obtain ⟨hBx, hBy, hBr, hE⟩ := three_blocks hwb
  have HBr := Lib.hid hBr
  have HE := Lib.hid hE
  clear hwb hBx hBy hBr hE
  refine (gcdWords_small _ _ _ _ _ (HG.out.ext HE.out) (HN.out.ext HE.out) (HN'.out.ext HE.out) Hx.out Hy.out HS.out).mono ?_
  rintro e w1 ⟨u1, rfl, hN1, hF1⟩
  rw [Ez.out] at hN1
  obtain ⟨A1, l1, c1, rfl⟩ := hN1.slice
  obtain ⟨z0, z1, z2, z3⟩ := (HBr.out.ext hF1).cell2
  have HN1 := Lib.hid hN1
  have HF1 := Lib.hid hF1
  clear hN1 hF1
  go_wp2
  exact fin_int (neg := false) rfl rfl (by omega) HE.out HBr.out HF1.out HN1.out rfl rfl

set_option maxHeartbeats 1000000 in
set_option maxRecDepth 100000 in
theorem New_pos (n : Nat) (w : World) (hn : n < W64) (hw : IntKind.u64.wrap (n : Int) = (n : Int)) (hlt : decide ((n : Int) < 0) = false) : Calls Tryz.prog 48 #[.int .i64 (n : Int)] w (RetInt w (n : Int)) := by
  have Hn := Lib.hid hn
  clear hn
  go_enter Tryz.func48, Tryz.ntmps48
  go_wp2_with fail
  generalize hwb : World.alloc w _ = wb
  have HBr : Hid (Blk 67 wb w.heap.size #[.bool false, .slice none 0 0]) := hwb ▸ Blk.new _ _ _
  have HE : Hid (Ext w wb) := hwb ▸ (Fr.refl _ _).alloc _
  clear hwb
  refine (fromWord_any n _ Hn.out).mono ?_
  rintro e w1 ⟨u1, rfl, hN1, hF1⟩
  obtain ⟨A1, l1, c1, rfl⟩ := hN1.slice
  obtain ⟨z0, z1, z2, z3⟩ := (HBr.out.ext hF1).cell2
  have HN1 := Lib.hid hN1
  have HF1 := Lib.hid hF1
  clear hN1 hF1
  go_wp2
  exact fin_int (neg := false) rfl rfl (by omega) HE.out HBr.out HF1.out HN1.out rfl rfl

set_option maxHeartbeats 1000000 in
set_option maxRecDepth 100000 in
theorem New_neg (z : Int) (n k : Nat) (w : World) (hn : n < W64) (h0 : 0 < n) (hz : z = -(n : Int)) (hw : IntKind.u64.wrap z = (k : Int)) (hw' : IntKind.u64.wrap (-(k : Int)) = (n : Int)) (hlt : decide (z < 0) = true) : Calls Tryz.prog 48 #[.int .i64 z] w (RetInt w z) := by
  have Hn := Lib.hid hn
  have Hz := Lib.hid hz
  have H0 := Lib.hid h0
  clear hn hz h0
  go_enter Tryz.func48, Tryz.ntmps48
  go_wp2_with fail
  generalize hwb : World.alloc w _ = wb
  have HBr : Hid (Blk 67 wb w.heap.size #[.bool false, .slice none 0 0]) := hwb ▸ Blk.new _ _ _
  have HE : Hid (Ext w wb) := hwb ▸ (Fr.refl _ _).alloc _
  clear hwb
  refine (fromWord_any n _ Hn.out).mono ?_
  rintro e w1 ⟨u1, rfl, hN1, hF1⟩
  obtain ⟨A1, l1, c1, rfl⟩ := hN1.slice
  obtain ⟨z0, z1, z2, z3⟩ := (HBr.out.ext hF1).cell2
  have HN1 := Lib.hid hN1
  have HF1 := Lib.hid hF1
  clear hN1 hF1
  go_wp2
  refine fin_int (neg := true) rfl rfl (by omega) HE.out HBr.out HF1.out HN1.out ?_ Hz.out
  have := H0.out; simp; exact this
end Go.Proofs.YtndafmjcelgnbaaGreatDoor
