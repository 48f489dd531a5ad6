/-
  Plain facts on numbers that are written as lists of digits, the least significant digit first. No program in sight.
-/
namespace Go.Proofs.YtndafmjcelgnbaaGreatDoor
/-- The number whose digits in base B are the list's elements, the least significant one first. -/
def val (B : Nat) : List Nat → Nat
  | [] => 0
  | x :: xs => x + B * val B xs

/-- Every element is a digit. -/
def Dig (B : Nat) (xs : List Nat) : Prop := ∀ x ∈ xs, x < B

/-- The last digit is not 0. -/
def Trim (xs : List Nat) : Prop := ∀ k, xs.length = k + 1 → (xs[k]?.getD 0) ≠ 0

variable {B : Nat} {xs ys : List Nat}

@[simp] theorem val_nil : val B [] = 0 := rfl
@[simp] theorem val_cons (x : Nat) : val B (x :: xs) = x + B * val B xs := rfl

theorem val_append : val B (xs ++ ys) = val B xs + B ^ xs.length * val B ys := by
  induction xs with
  | nil => simp
  | cons x xs ih => simp [ih, Nat.pow_succ, Nat.mul_add, Nat.add_assoc]; rw [← Nat.mul_assoc, Nat.mul_comm B]

theorem Dig.nil : Dig B [] := fun _ h => by cases h
theorem Dig.cons {x : Nat} (h : x < B) (hs : Dig B xs) : Dig B (x :: xs) := fun y hy => by
  rcases List.mem_cons.1 hy with rfl | hy
  · exact h
  · exact hs y hy
theorem Dig.head {x : Nat} (h : Dig B (x :: xs)) : x < B := h x (by simp)
theorem Dig.tail {x : Nat} (h : Dig B (x :: xs)) : Dig B xs := fun y hy => h y (by simp [hy])
theorem Dig.append (h : Dig B xs) (k : Dig B ys) : Dig B (xs ++ ys) := fun y hy => by
  rcases List.mem_append.1 hy with hy | hy
  · exact h y hy
  · exact k y hy
theorem Dig.take (h : Dig B xs) (k : Nat) : Dig B (xs.take k) := fun y hy => h y (List.mem_of_mem_take hy)
theorem Dig.drop (h : Dig B xs) (k : Nat) : Dig B (xs.drop k) := fun y hy => h y (List.mem_of_mem_drop hy)
theorem Dig.getD (h : Dig B xs) (hB : 0 < B) (k : Nat) : (xs[k]?.getD 0) < B := by
  rcases Nat.lt_or_ge k xs.length with hk | hk
  · rw [List.getElem?_eq_getElem hk]; exact h _ (List.getElem_mem hk)
  · rw [List.getElem?_eq_none hk]; exact hB
theorem Dig.set (h : Dig B xs) (k : Nat) {v : Nat} (hv : v < B) : Dig B (xs.set k v) := fun y hy => by
  rcases List.mem_or_eq_of_mem_set hy with hy | hy
  · exact h y hy
  · exact hy ▸ hv
theorem Dig.replicate (hB : 0 < B) (n : Nat) : Dig B (List.replicate n 0) := fun y hy => by
  rw [(List.mem_replicate.1 hy).2]; exact hB

theorem val_lt (h : Dig B xs) : val B xs < B ^ xs.length := by
  induction xs with
  | nil => simp
  | cons x xs ih =>
    have h1 := h.head
    have h2 := ih h.tail
    have h3 : B * (val B xs + 1) ≤ B * B ^ xs.length := Nat.mul_le_mul_left B h2
    rw [val_cons, List.length_cons, Nat.pow_succ, Nat.mul_comm (B ^ _)]
    rw [Nat.mul_add] at h3
    omega

theorem val_replicate (n : Nat) : val B (List.replicate n 0) = 0 := by
  induction n with
  | zero => rfl
  | succ n ih => simp [List.replicate_succ, ih]

theorem val_take_succ (k : Nat) (h : k < xs.length) : val B (xs.take (k + 1)) = val B (xs.take k) + B ^ k * (xs[k]?.getD 0) := by
  rw [List.take_succ_eq_append_getElem h, val_append]
  have : (xs.take k).length = k := by simp; omega
  rw [this]
  simp [List.getElem?_eq_getElem h]

theorem val_take_drop (k : Nat) : val B xs = val B (xs.take k) + B ^ (min k xs.length) * val B (xs.drop k) := by
  conv => lhs; rw [← List.take_append_drop k xs, val_append]
  simp

theorem val_inj (h : Dig B xs) (k : Dig B ys) (hl : xs.length = ys.length) (hv : val B xs = val B ys) : xs = ys := by
  induction xs generalizing ys with
  | nil => cases ys with | nil => rfl | cons => cases hl
  | cons x xs ih =>
    cases ys with
    | nil => cases hl
    | cons y ys =>
      have hx := h.head
      have hy := k.head
      simp only [val_cons] at hv
      have e1 : x = y := by
        have := congrArg (· % B) hv
        simpa [Nat.add_mul_mod_self_left, Nat.mod_eq_of_lt hx, Nat.mod_eq_of_lt hy] using this
      subst e1
      have e2 : val B xs = val B ys := Nat.eq_of_mul_eq_mul_left (by omega : 0 < B) (by omega)
      rw [ih h.tail k.tail (by simpa using hl) e2]

theorem step_add (P B V X Y x y c d c' : Nat) (h1 : V + P * c = X + Y) (h2 : d + B * c' = x + y + c) : V + P * d + P * B * c' = X + P * x + (Y + P * y) := by
  have h3 := congrArg (P * ·) h2
  simp only [Nat.mul_add] at h3
  rw [Nat.mul_assoc]
  omega
theorem step_sub (P B V X Y x y b d b' : Nat) (h1 : V + Y = X + P * b) (h2 : d + y + b = x + B * b') : V + P * d + (Y + P * y) = X + P * x + P * B * b' := by
  have h3 := congrArg (P * ·) h2
  simp only [Nat.mul_add] at h3
  rw [Nat.mul_assoc]
  omega
/-- z + x*w in place -/
theorem step_mac (P B V Z X w z x c d c' : Nat) (h1 : V + P * c = Z + X * w) (h2 : d + B * c' = z + x * w + c) : V + P * d + P * B * c' = Z + P * z + (X + P * x) * w := by
  have h3 := congrArg (P * ·) h2
  simp only [Nat.mul_add] at h3
  rw [Nat.mul_assoc, Nat.add_mul, Nat.mul_assoc]
  omega
theorem step_msub (P B V Z X w z x c d c' : Nat) (h1 : V + X * w = Z + P * c) (h2 : d + x * w + c = z + B * c') : V + P * d + (X + P * x) * w = Z + P * z + P * B * c' := by
  have h3 := congrArg (P * ·) h2
  simp only [Nat.mul_add] at h3
  rw [Nat.mul_assoc, Nat.add_mul, Nat.mul_assoc]
  omega
/-- division by one digit, from the top -/
theorem step_div (B V Q w r x q r' : Nat) (h1 : V = Q * w + r) (h2 : r * B + x = q * w + r') : x + B * V = (q + B * Q) * w + r' := by
  subst h1
  rw [Nat.mul_add, Nat.add_mul, Nat.mul_assoc]
  have : B * r = r * B := Nat.mul_comm _ _
  omega

/-- Knuth: the two leading digits of the divisor give the digit or one more. -/
theorem knuth2 (v2 v' t3 u' R q2 : Nat) (B : Nat) (hv' : v' < R) (hq : q2 < B) (hBv : B * R ≤ v2 * R) (hq2 : q2 * v2 ≤ t3) :
    q2 * (v2 * R + v') ≤ (t3 * R + u') + (v2 * R + v') := by
  have h1 : q2 * v2 * R ≤ t3 * R := Nat.mul_le_mul_right R hq2
  have h2 : q2 * v' ≤ B * R := Nat.mul_le_mul (by omega) (by omega)
  rw [Nat.mul_add, ← Nat.mul_assoc]
  omega
theorem knuth2_lt (v2 v' t3 u' R q2 : Nat) (hu' : u' < R) (hq2 : t3 < (q2 + 1) * v2) : t3 * R + u' < (q2 + 1) * (v2 * R + v') := by
  have h1 : (t3 + 1) * R ≤ (q2 + 1) * v2 * R := Nat.mul_le_mul_right R hq2
  rw [Nat.mul_add, ← Nat.mul_assoc]
  rw [Nat.add_mul t3, Nat.one_mul] at h1
  omega

theorem val_getD_drop (k : Nat) (h : k < xs.length) : val B (xs.drop k) = (xs[k]?.getD 0) + B * val B (xs.drop (k + 1)) := by
  rw [List.drop_eq_getElem_cons h, val_cons, List.getElem?_eq_getElem h]; rfl
theorem val_lt_of_digit (hx : Dig B xs) (hl : xs.length = ys.length) (k : Nat) (hk : k < xs.length) (he : xs.drop (k + 1) = ys.drop (k + 1)) (hd : (xs[k]?.getD 0) < (ys[k]?.getD 0)) : val B xs < val B ys := by
  rw [val_take_drop (xs := xs) k, val_take_drop (xs := ys) k, val_getD_drop k hk, val_getD_drop k (by omega), he, Nat.min_eq_left (by omega), Nat.min_eq_left (by omega)]
  have h1 := val_lt (hx.take k)
  rw [List.length_take, Nat.min_eq_left (by omega)] at h1
  have h2 : B ^ k * ((xs[k]?.getD 0) + 1) ≤ B ^ k * (ys[k]?.getD 0) := Nat.mul_le_mul_left _ hd
  rw [Nat.mul_add, Nat.mul_add]
  rw [Nat.mul_add] at h2
  omega
theorem val_ge (h : Trim xs) {k : Nat} (hk : xs.length = k + 1) : B ^ k ≤ val B xs := by
  rw [val_take_drop (xs := xs) k, val_getD_drop k (by omega), List.drop_of_length_le (by omega : xs.length ≤ k + 1), Nat.min_eq_left (by omega)]
  have h1 : B ^ k * 1 ≤ B ^ k * (xs[k]?.getD 0) := Nat.mul_le_mul_left _ (by have := h k hk; omega)
  simp only [val_nil, Nat.mul_zero, Nat.add_zero]
  omega
theorem val_lt_of_length (hB : 0 < B) (hx : Dig B xs) (hy : Trim ys) (hl : xs.length < ys.length) : val B xs < val B ys := by
  obtain ⟨k, hk⟩ : ∃ k, ys.length = k + 1 := ⟨ys.length - 1, by omega⟩
  have h1 := val_lt hx
  have h2 := val_ge (B := B) hy hk
  have h3 : B ^ xs.length ≤ B ^ k := Nat.pow_le_pow_right hB (by omega)
  omega
theorem length_le_of_val (hB : 1 < B) (hx : Trim xs) {n : Nat} (h : val B xs < B ^ n) : xs.length ≤ n := by
  rcases Nat.lt_or_ge n xs.length with hl | hl
  · obtain ⟨k, hk⟩ : ∃ k, xs.length = k + 1 := ⟨xs.length - 1, by omega⟩
    have h2 := val_ge (B := B) hx hk
    have h3 : B ^ n ≤ B ^ k := Nat.pow_le_pow_right (by omega) (by omega)
    omega
  · exact hl
theorem val_inj_trim (hB : 1 < B) (h : Dig B xs) (k : Dig B ys) (hx : Trim xs) (hy : Trim ys) (hv : val B xs = val B ys) : xs = ys := by
  have h1 : xs.length ≤ ys.length := length_le_of_val hB hx (hv ▸ val_lt k)
  have h2 : ys.length ≤ xs.length := length_le_of_val hB hy (hv ▸ val_lt h)
  exact val_inj h k (by omega) hv
theorem Trim.nil : Trim [] := fun k hk => by simp at hk
theorem val_pos_of (h : Trim xs) (hB : 0 < B) (hne : xs ≠ []) : 0 < val B xs := by
  obtain ⟨k, hk⟩ : ∃ k, xs.length = k + 1 := ⟨xs.length - 1, by have := List.length_pos_iff.2 hne; omega⟩
  have h2 := val_ge (B := B) h hk
  have := Nat.pow_pos (n := k) hB
  omega
theorem eq_nil_of_val (h : Trim xs) (hB : 0 < B) (hv : val B xs = 0) : xs = [] := by
  rcases xs with _ | ⟨x, xs⟩
  · rfl
  · have := val_pos_of h hB (by simp); omega
end Go.Proofs.YtndafmjcelgnbaaGreatDoor
