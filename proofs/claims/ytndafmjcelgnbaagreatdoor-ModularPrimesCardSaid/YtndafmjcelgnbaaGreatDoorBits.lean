/-
  math/bits.Add64 and Sub64, which the model runs itself, in words that the walk does not open.
-/
import Derived.Test.YtndafmjcelgnbaaGreatDoorProg
import Derived.Test.YtndafmjcelgnbaaGreatDoorMath
import Derived.Test.YtndafmjcelgnbaaGreatDoorMem
import Derived.Laws.Externs
namespace Go.Proofs.YtndafmjcelgnbaaGreatDoor
open Go.RowKit

/-- 2^64, behind a name that neither the walk nor the kernel opens. -/
noncomputable def W64 : Nat := Classical.choose (p := fun n : Nat => n = 18446744073709551616) ⟨_, rfl⟩
theorem W64_eq : W64 = 18446744073709551616 := Classical.choose_spec (p := fun n : Nat => n = 18446744073709551616) ⟨_, rfl⟩
theorem W64_pos : 0 < W64 := by have := W64_eq; omega
theorem W64_one : 1 < W64 := by have := W64_eq; omega
theorem W64_two : 2 ≤ W64 := by have := W64_eq; omega

noncomputable def addLo (x y c : Nat) : Nat := (x + y + c) % W64
noncomputable def addHi (x y c : Nat) : Nat := (x + y + c) / W64
noncomputable def subLo (x y c : Nat) : Nat := (x + W64 - y - c) % W64
def subHi (x y c : Nat) : Nat := if x < y + c then 1 else 0

theorem add_spec (x y c : Nat) : addLo x y c + W64 * addHi x y c = x + y + c := by
  unfold addLo addHi
  exact Nat.mod_add_div _ _
theorem addLo_lt (x y c : Nat) : addLo x y c < W64 := Nat.mod_lt _ W64_pos
theorem addHi_le {x y c : Nat} (hx : x < W64) (hy : y < W64) (hc : c ≤ 1) : addHi x y c ≤ 1 := by
  unfold addHi
  rw [W64_eq] at *
  omega
theorem sub_spec {x y c : Nat} (hx : x < W64) (hy : y < W64) (hc : c ≤ 1) : subLo x y c + y + c = x + W64 * subHi x y c := by
  unfold subLo subHi
  rw [W64_eq] at *
  split <;> omega
theorem subLo_lt (x y c : Nat) : subLo x y c < W64 := Nat.mod_lt _ W64_pos
theorem subHi_le (x y c : Nat) : subHi x y c ≤ 1 := by unfold subHi; split <;> omega

theorem run_Add64 (x y c : Nat) (hc : c ≤ 1) (w : World) :
    (callFunc 174 #[.int .u64 (x : Int), .int .u64 (y : Int), .int .u64 (c : Int)]).run Tryz.prog w = .ok (.value (.tuple #[.int .u64 (addLo x y c : Nat), .int .u64 (addHi x y c : Nat)])) w := by
  rw [run_callFunc_extern (fn := Tryz.f174) (by kernel_rfl) (by kernel_rfl) (by kernel_rfl) (by kernel_rfl) (e := add64Entry) (by kernel_rfl), run_add64 x y c (by omega) (by omega) (by omega) (by omega)]
  simp only [Result.andThen, addLo, addHi, W64_eq]
  congr 5 <;> omega

/-- The model's entry for math/bits.Sub64. -/
def sub64Entry : Array Value → Sem Value := fun args => do
  let (x, y, b) ← Extern.MathBitsCarry.three "Sub64" args
  pure (Extern.MathBitsCarry.pair ((x + Extern.MathBitsCarry.m64 - y - b) % Extern.MathBitsCarry.m64) (if x < y + b then 1 else 0))
theorem run_sub64 {P : Program} (x y b : Nat) (hb : b ≤ 1) (w : World) :
    (sub64Entry #[.int .u64 x, .int .u64 y, .int .u64 b]).run P w =
      .ok (.tuple #[.int .u64 (((x + 18446744073709551616 - y - b) % 18446744073709551616 : Nat) : Int), .int .u64 ((if x < y + b then 1 else 0 : Nat) : Int)]) w := by
  have : b = 0 ∨ b = 1 := by omega
  rcases this with rfl | rfl <;> rfl
theorem run_Sub64 (x y c : Nat) (hc : c ≤ 1) (w : World) :
    (callFunc 177 #[.int .u64 (x : Int), .int .u64 (y : Int), .int .u64 (c : Int)]).run Tryz.prog w = .ok (.value (.tuple #[.int .u64 (subLo x y c : Nat), .int .u64 (subHi x y c : Nat)])) w := by
  rw [run_callFunc_extern (fn := Tryz.f177) (by kernel_rfl) (by kernel_rfl) (by kernel_rfl) (by kernel_rfl) (e := sub64Entry) (by kernel_rfl), run_sub64 x y c hc]
  simp only [Result.andThen, subLo, subHi, W64_eq]
theorem run_Add64_y0 (x c : Nat) (hc : c ≤ 1) (w : World) :
    (callFunc 174 #[.int .u64 (x : Int), .int .u64 0, .int .u64 (c : Int)]).run Tryz.prog w = .ok (.value (.tuple #[.int .u64 (addLo x 0 c : Nat), .int .u64 (addHi x 0 c : Nat)])) w := run_Add64 x 0 c hc w
theorem run_Add64_c0 (x y : Nat) (w : World) :
    (callFunc 174 #[.int .u64 (x : Int), .int .u64 (y : Int), .int .u64 0]).run Tryz.prog w = .ok (.value (.tuple #[.int .u64 (addLo x y 0 : Nat), .int .u64 (addHi x y 0 : Nat)])) w := run_Add64 x y 0 (by omega) w
theorem run_Sub64_y0 (x c : Nat) (hc : c ≤ 1) (w : World) :
    (callFunc 177 #[.int .u64 (x : Int), .int .u64 0, .int .u64 (c : Int)]).run Tryz.prog w = .ok (.value (.tuple #[.int .u64 (subLo x 0 c : Nat), .int .u64 (subHi x 0 c : Nat)])) w := run_Sub64 x 0 c hc w
theorem run_Sub64_c0 (x y : Nat) (w : World) :
    (callFunc 177 #[.int .u64 (x : Int), .int .u64 (y : Int), .int .u64 0]).run Tryz.prog w = .ok (.value (.tuple #[.int .u64 (subLo x y 0 : Nat), .int .u64 (subHi x y 0 : Nat)])) w := run_Sub64 x y 0 (by omega) w
end Go.Proofs.YtndafmjcelgnbaaGreatDoor
