/-
  Prime numbers by trial division. No program in sight.
-/
namespace Go.Proofs.YtndafmjcelgnbaaGreatDoor
/-- a prime number that is at most 2147483647 -/
def Pr (n : Int) : Prop := 2 ≤ n ∧ n ≤ 2147483647 ∧ ∀ d : Int, 2 ≤ d → d * d ≤ n → n % d ≠ 0
noncomputable def prB (n : Int) : Bool := @decide (Pr n) (Classical.propDecidable _)
theorem prB_true {n : Int} : prB n = true ↔ Pr n := by unfold prB; exact @decide_eq_true_iff _ (Classical.propDecidable _)
theorem prB_false {n : Int} : prB n = false ↔ ¬ Pr n := by
  rw [← prB_true]; cases prB n <;> simp

/-- no number from 2 to below d divides n -/
def NoDiv (n d : Int) : Prop := ∀ e, 2 ≤ e → e < d → n % e ≠ 0
theorem NoDiv.two (n : Int) : NoDiv n 2 := fun e h1 h2 => by omega
theorem NoDiv.next {n d : Int} (h : NoDiv n d) (hd : n % d ≠ 0) : NoDiv n (d + 1) := fun e h1 h2 => by
  rcases (by omega : e < d ∨ e = d) with h3 | rfl
  · exact h e h1 h3
  · exact hd
theorem NoDiv.three {n : Int} (h : n % 2 ≠ 0) : NoDiv n 3 := (NoDiv.two n).next h
theorem NoDiv.next2 {n d : Int} (h : NoDiv n d) (hd : n % d ≠ 0) (hn : n % 2 ≠ 0) (ho : d % 2 ≠ 0) : NoDiv n (d + 2) := fun e h1 h2 => by
  rcases (by omega : e < d + 1 ∨ e = d + 1) with h3 | rfl
  · exact h.next hd e h1 h3
  · intro h4
    apply hn
    obtain ⟨k, hk⟩ := Int.dvd_of_emod_eq_zero h4
    obtain ⟨j, hj⟩ : ∃ j, d + 1 = 2 * j := ⟨(d + 1) / 2, by omega⟩
    rw [hk, hj, Int.mul_assoc]
    exact Int.mul_emod_right _ _
theorem Pr.of_noDiv {n d : Int} (h2 : 2 ≤ n) (hm : n ≤ 2147483647) (h : NoDiv n d) (hd : n < d * d) (h0 : 0 ≤ d) : Pr n := ⟨h2, hm, fun e h1 h3 => by
  rcases Int.lt_or_le e d with h4 | h4
  · exact h e h1 h4
  · have h5 : d * d ≤ e * e := Int.mul_le_mul h4 h4 h0 (by omega)
    omega⟩
theorem Pr.not_of_dvd {n d : Int} (h2 : 2 ≤ d) (hd : d * d ≤ n) (h : n % d = 0) : ¬ Pr n := fun hp => hp.2.2 d h2 hd h
theorem Pr.not_lt {n : Int} (h : n < 2) : ¬ Pr n := fun hp => by have := hp.1; omega
theorem Pr.not_gt {n : Int} (h : 2147483647 < n) : ¬ Pr n := fun hp => by have := hp.2.1; omega
theorem Pr.two : Pr 2 := ⟨by omega, by omega, fun d h1 h2 h3 => by
  have : 2 * 2 ≤ d * d := Int.mul_le_mul h1 h1 (by omega) (by omega)
  omega⟩
theorem Pr.even {n : Int} (h : n % 2 = 0) (hn : n ≠ 2) : ¬ Pr n := fun hp => by
  have h1 := hp.1
  exact hp.2.2 2 (by omega) (by omega) h
theorem pr_sq_bound {n d : Int} (hn : n ≤ 2147483647) (h0 : 0 ≤ d) (h : d * d ≤ n) : d ≤ 46340 := by
  rcases Int.lt_or_le 46340 d with h1 | h1
  · have : 46341 * 46341 ≤ d * d := Int.mul_le_mul h1 h1 (by omega) (by omega)
    omega
  · exact h1
theorem pr_sq_le {d : Int} (h0 : 0 ≤ d) (h : d ≤ 46342) : 0 ≤ d * d ∧ d * d ≤ 2147580964 :=
  ⟨Int.mul_nonneg h0 h0, Int.mul_le_mul h h h0 (by omega)⟩

/-- none of the 2^k numbers from lo on divides n -/
def noDivN (n : Nat) : Nat → Nat → Bool
  | 0, lo => !(Nat.beq (n % lo) 0)
  | k + 1, lo => noDivN n k lo && noDivN n k (lo + 2 ^ k)
theorem noDivN_spec (n : Nat) : ∀ (k lo : Nat), noDivN n k lo = true → ∀ e, lo ≤ e → e < lo + 2 ^ k → n % e ≠ 0
  | 0, lo, h, e, h1, h2, h3 => by
    obtain rfl : e = lo := by simp at h2; omega
    simp [noDivN, h3] at h
  | k + 1, lo, h, e, h1, h2, h3 => by
    rw [noDivN, Bool.and_eq_true] at h
    rw [Nat.pow_succ] at h2
    rcases Nat.lt_or_ge e (lo + 2 ^ k) with h4 | h4
    · exact noDivN_spec n k lo h.1 e h1 h4 h3
    · exact noDivN_spec n k _ h.2 e h4 (by omega) h3
set_option maxRecDepth 100000 in
theorem noDiv_max : noDivN 2147483647 16 2 = true := by decide +kernel
theorem Pr.max : Pr 2147483647 := ⟨by omega, by omega, fun d h1 h2 h3 => by
  have h4 := pr_sq_bound (by omega) (by omega) h2
  obtain ⟨e, rfl⟩ := Int.eq_ofNat_of_zero_le (show 0 ≤ d by omega)
  have h5 := noDivN_spec _ _ _ noDiv_max e (by omega) (by omega)
  apply h5
  have h6 : ((2147483647 % e : Nat) : Int) = 0 := by rw [Int.natCast_emod]; exact h3
  omega⟩

/-- the least prime number that is greater than n -/
def NpIs (n p : Int) (ok : Bool) : Prop :=
  (ok = true ∧ Pr p ∧ n < p ∧ ∀ q, n < q → q < p → ¬ Pr q) ∨ (ok = false ∧ p = 0 ∧ ∀ q, n < q → ¬ Pr q)
theorem NpIs.unique {n p q : Int} {a b : Bool} (h : NpIs n p a) (k : NpIs n q b) : p = q ∧ a = b := by
  rcases h with ⟨rfl, h1, h2, h3⟩ | ⟨rfl, rfl, h1⟩
  · rcases k with ⟨rfl, k1, k2, k3⟩ | ⟨rfl, rfl, k1⟩
    · rcases Int.lt_trichotomy p q with h | h | h
      · exact absurd h1 (k3 p h2 h)
      · exact ⟨h, rfl⟩
      · exact absurd k1 (h3 q k2 h)
    · exact absurd h1 (k1 p h2)
  · rcases k with ⟨rfl, k1, k2, k3⟩ | ⟨rfl, rfl, k1⟩
    · exact absurd k1 (h1 q k2)
    · exact ⟨rfl, rfl⟩
theorem NpIs.low {n m p : Int} {a : Bool} (h : NpIs n p a) (hn : n ≤ 1) (hm : m ≤ 1) : NpIs m p a := by
  rcases h with ⟨rfl, h1, h2, h3⟩ | ⟨rfl, rfl, h1⟩
  · have := h1.1
    refine Or.inl ⟨rfl, h1, by omega, fun q k1 k2 hq => ?_⟩
    have := hq.1
    exact h3 q (by omega) k2 hq
  · refine Or.inr ⟨rfl, rfl, fun q k1 hq => ?_⟩
    have := hq.1
    exact h1 q (by omega) hq
/-- no prime number lies between n and k -/
def NoPr (n k : Int) : Prop := ∀ q, n < q → q < k → ¬ Pr q
theorem NoPr.start (n : Int) : NoPr n (n + 1) := fun q h1 h2 => by omega
theorem NoPr.next {n k : Int} (h : NoPr n k) (hk : ¬ Pr k) : NoPr n (k + 1) := fun q h1 h2 => by
  rcases (by omega : q < k ∨ q = k) with h3 | rfl
  · exact h q h1 h3
  · exact hk
end Go.Proofs.YtndafmjcelgnbaaGreatDoor
