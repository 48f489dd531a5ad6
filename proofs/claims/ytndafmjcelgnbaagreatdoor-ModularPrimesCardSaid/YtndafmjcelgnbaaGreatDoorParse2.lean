/-
  Package integer: parseSplit, parseWords (at most 570 digits), Parse.
-/
import Derived.Test.YtndafmjcelgnbaaGreatDoorParse
namespace Go.Proofs.YtndafmjcelgnbaaGreatDoor
open Go.RowKit

set_option maxHeartbeats 1000000 in
set_option maxRecDepth 100000 in
theorem parseSplit_nil (d : ByteArray) (w : World) (T : Nat) (hd : (bytes d).all isDig = true) (hT : decVal (bytes d) = T) (hw : wl T ≤ 1048576) (hl : d.size ≤ 1099511627776) :
    Calls Tryz.prog 168 #[.string d, .slice none 0 0] w (RetNat w T) := by
  have HD := Lib.hid hd
  have HT := Lib.hid hT
  clear hd hT
  go_enter Tryz.func168, Tryz.ntmps168
  go_wp2
  go_loop [5] (fun v => v = .int .i64 (-1)) (fun _ => 0)
  case atStart => rfl
  case round =>
    subst hrel
    go_wp2_with fail
    refine (parseSimple_any d _ T HD.out HT.out hw hl).mono ?_
    rintro e w1 ⟨u1, rfl, hN, hF⟩
    have HN := Lib.hid hN
    have HF := Lib.hid hF
    clear hN hF
    go_wp2
    go_ret
    exact ⟨_, rfl, HN.out, HF.out⟩

theorem wl_pow10 {n k m : Nat} (h : n < 10 ^ k) (hk : k ≤ m) : wl n ≤ m := by
  rw [wl_le_iff]
  have h1 : 10 ^ k ≤ W64 ^ k := Nat.pow_le_pow_left (by rw [W64_eq]; omega) k
  have h2 : W64 ^ k ≤ W64 ^ m := Nat.pow_le_pow_right W64_pos hk
  exact Nat.lt_of_lt_of_le h (Nat.le_trans h1 h2)

/-- the texts that parseWords is proved for -/
def PrsOk (n : Nat) : Prop := n ≤ 570
set_option maxHeartbeats 1000000 in
set_option maxRecDepth 100000 in
theorem parseWords_any (d : ByteArray) (w : World) (hd : (bytes d).all isDig = true) (hl : PrsOk d.size) :
    Calls Tryz.prog 143 #[.string d] w (RetNat w (decVal (bytes d))) := by
  unfold PrsOk at hl
  have hw : wl (decVal (bytes d)) ≤ 1048576 := wl_pow10 (by have := decVal_lt (bytes d) hd; rw [bytes_length] at this; exact this) (by omega)
  generalize hT : decVal (bytes d) = T at *
  have HD := Lib.hid hd
  have HT := Lib.hid hT
  clear hd hT
  go_enter Tryz.func143, Tryz.ntmps143
  go_wp2_with fail
  refine (parseSplit_nil d _ T HD.out HT.out hw (by omega)).mono ?_
  rintro e w1 ⟨u1, rfl, hN, hF⟩
  have HN := Lib.hid hN
  have HF := Lib.hid hF
  clear hN hF
  go_wp2
  go_ret
  exact ⟨_, rfl, HN.out, HF.out⟩

set_option maxHeartbeats 1000000 in
set_option maxRecDepth 100000 in
theorem intParse_any (d : ByteArray) (w : World) (hd : (bytes d).all isDig = true) (hl : PrsOk d.size) :
    Calls Tryz.prog 98 #[.string d] w (RetInt w (decVal (bytes d) : Int)) := by
  generalize hT : decVal (bytes d) = T
  have HD := Lib.hid hd
  have HL := Lib.hid hl
  have HT := Lib.hid hT
  clear hd hT hl
  go_enter Tryz.func98, Tryz.ntmps98
  go_wp2_with fail
  generalize hwb : World.alloc w _ = wb
  have HBr : Hid (Blk 67 wb w.heap.size #[.bool false, .slice none 0 0]) := hwb ▸ Blk.new _ _ _
  have HE : Hid (Ext w wb) := hwb ▸ (Fr.refl _ _).alloc _
  clear hwb
  refine (parseWords_any d _ HD.out HL.out).mono ?_
  rw [HT.out]
  rintro e w1 ⟨u1, rfl, hN1, hF1⟩
  obtain ⟨A1, l1, c1, rfl⟩ := hN1.slice
  obtain ⟨z0, z1, z2, z3⟩ := (HBr.out.ext hF1).cell2
  have HN1 := Lib.hid hN1
  have HF1 := Lib.hid hF1
  clear hN1 hF1
  go_wp2
  exact fin_int (neg := false) rfl rfl (by omega) HE.out HBr.out HF1.out HN1.out rfl rfl
end Go.Proofs.YtndafmjcelgnbaaGreatDoor
