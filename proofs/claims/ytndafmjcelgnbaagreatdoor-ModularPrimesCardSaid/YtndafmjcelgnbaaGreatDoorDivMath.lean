/-
  Plain facts behind math/bits.Div64: a digit of a quotient is estimated from leading digits. No program in sight.
-/
namespace Go.Proofs.YtndafmjcelgnbaaGreatDoor

/-- while the digit q of (U*H + u) / (v1*H + v0) is estimated: q is not too small, r is the rest for the leading digit -/
def EstRel (H U v1 v0 u q r : Nat) : Prop := q * v1 + r = U ∧ (U * H + u) / (v1 * H + v0) ≤ q

theorem est_big {H U v1 v0 u q r : Nat} (hU : U < v1 * H + v0) (hu : u < H) (hq : H ≤ q) (h : EstRel H U v1 v0 u q r) : EstRel H U v1 v0 u (q - 1) (r + v1) := by
  obtain ⟨h1, h2⟩ := h
  have hQ : (U * H + u) / (v1 * H + v0) < H := by
    rw [Nat.div_lt_iff_lt_mul (by omega)]
    have : (U + 1) * H ≤ (v1 * H + v0) * H := Nat.mul_le_mul_right H hU
    rw [Nat.add_mul U 1 H, Nat.one_mul] at this
    rw [Nat.mul_comm H]
    omega
  refine ⟨?_, by omega⟩
  obtain ⟨p, rfl⟩ : ∃ p, q = p + 1 := ⟨q - 1, by omega⟩
  rw [Nat.add_mul] at h1
  simp only [Nat.add_sub_cancel]
  omega
theorem est_over {H U v1 v0 u q r : Nat} (hv : 0 < v1 * H + v0) (hq : H * r + u < q * v0) (h : EstRel H U v1 v0 u q r) : EstRel H U v1 v0 u (q - 1) (r + v1) := by
  obtain ⟨h1, h2⟩ := h
  have hq0 : q ≠ 0 := by rintro rfl; omega
  have hlt : (U * H + u) / (v1 * H + v0) < q := by
    rw [Nat.div_lt_iff_lt_mul hv, Nat.mul_add, ← Nat.mul_assoc]
    have : U * H = q * v1 * H + r * H := by rw [← h1, Nat.add_mul]
    rw [Nat.mul_comm H r] at hq
    omega
  refine ⟨?_, by omega⟩
  obtain ⟨p, rfl⟩ : ∃ p, q = p + 1 := ⟨q - 1, by omega⟩
  rw [Nat.add_mul] at h1
  simp only [Nat.add_sub_cancel]
  omega
theorem est_done {H U v1 v0 u q r : Nat} (hv : 0 < v1 * H + v0) (hq : q * v0 ≤ H * r + u) (h : EstRel H U v1 v0 u q r) : q = (U * H + u) / (v1 * H + v0) := by
  obtain ⟨h1, h2⟩ := h
  refine Nat.le_antisymm ?_ h2
  rw [Nat.le_div_iff_mul_le hv, Nat.mul_add, ← Nat.mul_assoc]
  have : U * H = q * v1 * H + r * H := by rw [← h1, Nat.add_mul]
  rw [Nat.mul_comm H r] at hq
  omega
theorem est_break {H U v1 v0 u q r : Nat} (hU : U < v1 * H + v0) (hv0 : v0 < H) (hr : H ≤ r) (h : EstRel H U v1 v0 u q r) : q = (U * H + u) / (v1 * H + v0) := by
  refine est_done (by omega) ?_ h
  obtain ⟨h1, h2⟩ := h
  have hq : q < H := by
    have : q * v1 < H * v1 := by rw [Nat.mul_comm H]; omega
    exact Nat.lt_of_mul_lt_mul_right this
  have h3 : q * v0 ≤ H * H := Nat.mul_le_mul (by omega) (by omega)
  have h4 : H * H ≤ H * r := Nat.mul_le_mul_left H hr
  omega

/-- the two digits of the quotient and the last rest -/
theorem div_two {H Y U u1 u0 : Nat} (hY : 0 < Y) (hU : U < Y) (hu1 : u1 < H) (hu0 : u0 < H) :
    (U * H + u1) / Y < H ∧ (U * H + u1) % Y < Y ∧ ((U * H + u1) % Y * H + u0) / Y < H ∧
    (U * (H * H) + u1 * H + u0) / Y = (U * H + u1) / Y * H + ((U * H + u1) % Y * H + u0) / Y ∧ (U * (H * H) + u1 * H + u0) % Y = ((U * H + u1) % Y * H + u0) % Y := by
  have hlt : ∀ a b : Nat, a < Y → b < H → (a * H + b) / Y < H := by
    intro a b ha hb
    rw [Nat.div_lt_iff_lt_mul hY]
    have : (a + 1) * H ≤ Y * H := Nat.mul_le_mul_right H ha
    rw [Nat.add_mul a 1 H, Nat.one_mul] at this
    rw [Nat.mul_comm H]
    omega
  have hm : (U * H + u1) % Y < Y := Nat.mod_lt _ hY
  have e := Nat.div_add_mod (U * H + u1) Y
  have e2 : U * (H * H) + u1 * H + u0 = Y * ((U * H + u1) / Y * H) + ((U * H + u1) % Y * H + u0) := by
    have : (U * H + u1) * H = (Y * ((U * H + u1) / Y) + (U * H + u1) % Y) * H := by rw [e]
    rw [Nat.add_mul, Nat.add_mul, Nat.mul_assoc U, Nat.mul_assoc Y] at this
    omega
  refine ⟨hlt _ _ hU hu1, hm, hlt _ _ hm hu0, ?_, ?_⟩
  · rw [e2, Nat.mul_add_div hY]
  · rw [e2, Nat.mul_add_mod]

/-- shifting both numbers left changes no quotient -/
theorem div_shift (N y p : Nat) (hp : 0 < p) : N * p / (y * p) = N / y ∧ N * p % (y * p) / p = N % y := by
  refine ⟨Nat.mul_div_mul_right N y hp, ?_⟩
  rw [Nat.mul_mod_mul_right, Nat.mul_div_cancel _ hp]

/-- a number of 128 bits shifted left by s bits, in three digits -/
theorem shift_parts (hi lo s : Nat) (hs : s ≤ 63) :
    (hi * 18446744073709551616 + lo) * 2 ^ s = (hi * 2 ^ s + lo / 2 ^ (64 - s)) * (4294967296 * 4294967296) + (lo * 2 ^ s % 18446744073709551616) / 4294967296 * 4294967296 + (lo * 2 ^ s % 18446744073709551616) % 4294967296 := by
  have h64 : (18446744073709551616 : Nat) = 2 ^ (64 - s) * 2 ^ s := by rw [← Nat.pow_add, show 64 - s + s = 64 by omega]
  have e1 : lo * 2 ^ s = lo / 2 ^ (64 - s) * 18446744073709551616 + lo * 2 ^ s % 18446744073709551616 := by
    have h1 := Nat.div_add_mod (lo * 2 ^ s) 18446744073709551616
    have h2 : lo * 2 ^ s / 18446744073709551616 = lo / 2 ^ (64 - s) := by
      rw [h64, Nat.mul_div_mul_right _ _ (Nat.pow_pos (by omega))]
    rw [h2, Nat.mul_comm] at h1
    omega
  generalize hT : lo * 2 ^ s % 18446744073709551616 = T at *
  have e2 := Nat.div_add_mod T 4294967296
  have e3 : (hi * 18446744073709551616 + lo) * 2 ^ s = hi * 2 ^ s * 18446744073709551616 + lo * 2 ^ s := by
    rw [Nat.add_mul, Nat.mul_right_comm]
  rw [e3, e1]
  generalize hi * 2 ^ s = A at *
  generalize lo / 2 ^ (64 - s) = C at *
  rw [Nat.add_mul]
  omega
end Go.Proofs.YtndafmjcelgnbaaGreatDoor
