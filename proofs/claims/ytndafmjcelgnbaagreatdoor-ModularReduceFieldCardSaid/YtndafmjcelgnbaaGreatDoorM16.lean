/-
  Residues of sums, products and quotients of rational numbers (plain).
-/
import Derived.Test.YtndafmjcelgnbaaGreatDoorM14
import Derived.Test.YtndafmjcelgnbaaGreatDoorM15
import Derived.Test.YtndafmjcelgnbaaGreatDoorM13
namespace Go.Proofs.YtndafmjcelgnbaaGreatDoor
open Go.RowKit

theorem pr_inv {p b : Int} (hP : Pr p) (hb : b % p ≠ 0) : ∃ v k, b * v = 1 + p * k := by
  have h2 := hP.1
  obtain ⟨P, rfl⟩ := Int.eq_ofNat_of_zero_le (show 0 ≤ p by omega)
  have h0 := Int.emod_nonneg b (b := (P : Int)) (by omega)
  have h1 := Int.emod_lt_of_pos b (b := (P : Int)) (by omega)
  obtain ⟨c, hc⟩ := Int.eq_ofNat_of_zero_le h0
  have hcp : c < P := by omega
  have hcm : c % P ≠ 0 := by rw [Nat.mod_eq_of_lt hcp]; omega
  have h3 := invN_mul hP hcm
  have h4 := Nat.div_add_mod (c * invN c P) P
  rw [h3] at h4
  have h5 := Int.mul_ediv_add_emod b P
  rw [hc] at h5
  refine ⟨(invN c P : Int), ((c * invN c P / P : Nat) : Int) + b / P * (invN c P : Int), ?_⟩
  have h6 : (P : Int) * ((c * invN c P / P : Nat) : Int) + 1 = (c : Int) * (invN c P : Int) := by exact_mod_cast h4
  generalize ((c * invN c P / P : Nat) : Int) = m at *
  generalize (invN c P : Int) = v at *
  generalize b / (P : Int) = t at *
  grind
theorem pr_cancel {p a b : Int} (hP : Pr p) (hb : b % p ≠ 0) (h : ∃ m, a * b = p * m) : ∃ k, a = p * k := by
  obtain ⟨v, k, hv⟩ := pr_inv hP hb
  obtain ⟨m, hm⟩ := h
  exact ⟨m * v - a * k, by grind⟩
theorem mod_of {p a k : Int} (h : a = p * k) : a % p = 0 := by rw [h]; exact Int.mul_emod_right _ _
theorem of_mod {p a : Int} (h : a % p = 0) : ∃ k, a = p * k := ⟨a / p, by have := Int.mul_ediv_add_emod a p; omega⟩
theorem pr_mul_ne {p a b : Int} (hP : Pr p) (ha : a % p ≠ 0) (hb : b % p ≠ 0) : a * b % p ≠ 0 := fun h => by
  obtain ⟨k, hk⟩ := pr_cancel hP hb (of_mod h)
  exact ha (mod_of hk)
/-- x is the residue of q -/
def Rs (p : Int) (q : Rat) (x : Int) : Prop := 0 ≤ x ∧ x < p ∧ ∃ k, x * q.den - q.num = p * k
theorem rs_of {p x : Int} {q : Rat} (hP : Pr p) (hd : (q.den : Int) % p ≠ 0) (hx : x = (q.num % p) * (invN ((q.den : Int) % p).toNat p.toNat : Int) % p) : Rs p q x := by
  have h2 := hP.1
  obtain ⟨P, rfl⟩ := Int.eq_ofNat_of_zero_le (show 0 ≤ p by omega)
  have h0 := Int.emod_nonneg (q.den : Int) (b := (P : Int)) (by omega)
  have h1 := Int.emod_lt_of_pos (q.den : Int) (b := (P : Int)) (by omega)
  obtain ⟨c, hc⟩ := Int.eq_ofNat_of_zero_le h0
  have hcp : c < P := by omega
  have hcm : c % P ≠ 0 := by rw [Nat.mod_eq_of_lt hcp]; omega
  have h3 := invN_mul hP hcm
  have h4 := Nat.div_add_mod (c * invN c P) P
  rw [h3] at h4
  have h5 := Int.mul_ediv_add_emod (q.den : Int) P
  have h7 := Int.mul_ediv_add_emod q.num P
  rw [hc] at h5 hx
  rw [show ((c : Int)).toNat = c by omega, show ((P : Int)).toNat = P by omega] at hx
  have h8 := Int.mul_ediv_add_emod (q.num % (P : Int) * (invN c P : Int)) P
  rw [← hx] at h8
  have h6 : (P : Int) * ((c * invN c P / P : Nat) : Int) + 1 = (c : Int) * (invN c P : Int) := by exact_mod_cast h4
  refine ⟨by rw [hx]; exact Int.emod_nonneg _ (by omega), by rw [hx]; exact Int.emod_lt_of_pos _ (by omega), ?_⟩
  generalize ((c * invN c P / P : Nat) : Int) = m at *
  generalize (invN c P : Int) = v at *
  generalize (q.den : Int) / (P : Int) = t at *
  generalize q.num / (P : Int) = u at *
  generalize q.num % (P : Int) * v / (P : Int) = s at *
  generalize q.num % (P : Int) = a at *
  clear hx hc h0 h1 h3 h4 hcm hcp
  generalize q.num = n at *
  generalize (q.den : Int) = d at *
  exact ⟨a * m + a * v * t - s * d - u, by grind⟩
theorem RedIs.of {l : List UInt8} {p x : Int} {ok : Bool} {q : Rat} (h : RedIs l p x ok) (hr : readF l = some q) (hP : Pr p) (hd : (q.den : Int) % p ≠ 0) : ok = true ∧ Rs p q x := by
  rcases h with ⟨rfl, h1, q', hq, h2, hx⟩ | ⟨rfl, rfl, h1⟩
  · rw [hr] at hq
    injection hq with hq
    subst hq
    exact ⟨rfl, rs_of hP hd hx⟩
  · exfalso
    rcases h1 with h1 | h1 | ⟨q', hq, h1⟩
    · exact h1 hP
    · rw [hr] at h1; cases h1
    · rw [hr] at hq
      injection hq with hq
      subst hq
      exact hd h1
theorem RedIs.rs {l : List UInt8} {p x : Int} (h : RedIs l p x true) : ∃ q, readF l = some q ∧ Pr p ∧ (q.den : Int) % p ≠ 0 ∧ Rs p q x := by
  rcases h with ⟨_, h1, q, hq, h2, hx⟩ | ⟨h, _⟩
  · exact ⟨q, hq, h1, h2, rs_of h1 h2 hx⟩
  · cases h
theorem frac_cross {q : Rat} {n d : Int} (hd : d ≠ 0) (h : Rat.divInt n d = q) : q.num * d = n * q.den := by
  have h1 := (Rat.divInt_eq_divInt_iff (denI q) hd (n₁ := q.num) (n₂ := n)).1 (by rw [Rat.num_divInt_den, h])
  exact h1
theorem den_ne {p : Int} {q : Rat} {n d : Int} (hP : Pr p) (h : q.num * d = n * q.den) (hd : d % p ≠ 0) : (q.den : Int) % p ≠ 0 := fun h0 => by
  obtain ⟨k, hk⟩ := of_mod h0
  obtain ⟨m, hm⟩ := pr_cancel hP hd (a := q.num) ⟨n * k, by rw [h, hk]; grind⟩
  have h2 := hP.1
  obtain ⟨P, rfl⟩ := Int.eq_ofNat_of_zero_le (show 0 ≤ p by omega)
  have d1 : P ∣ q.den := by
    have : (P : Int) ∣ (q.den : Int) := ⟨k, hk⟩
    exact Int.ofNat_dvd.1 this
  have d2 : P ∣ q.num.natAbs := Int.ofNat_dvd_left.1 ⟨m, hm⟩
  have d3 := Nat.dvd_gcd d2 d1
  rw [q.reduced] at d3
  have := Nat.le_of_dvd (by decide) d3
  omega
theorem rs_unique {p s z D : Int} (hP : Pr p) (hD : D % p ≠ 0) (h0 : 0 ≤ s) (h1 : s < p) (h : ∃ m, (s - z) * D = p * m) : s = z % p := by
  obtain ⟨k, hk⟩ := pr_cancel hP hD h
  have hz : z = s + p * (-k) := by grind
  rw [hz, Int.add_mul_emod_self_left, Int.emod_eq_of_lt h0 h1]
theorem rs_add {p x y s : Int} {a b : Rat} (hP : Pr p) (ha : (a.den : Int) % p ≠ 0) (hb : (b.den : Int) % p ≠ 0) (hx : Rs p a x) (hy : Rs p b y) :
    ((a + b).den : Int) % p ≠ 0 ∧ (Rs p (a + b) s → s = (x + y) % p) := by
  have hd : (a.den : Int) * b.den % p ≠ 0 := pr_mul_ne hP ha hb
  have hc := frac_cross (Int.mul_ne_zero (denI a) (denI b)) (rat_add_frac a b)
  have hn := den_ne hP hc hd
  refine ⟨hn, fun ⟨s0, s1, k3, h3⟩ => ?_⟩
  obtain ⟨_, _, k1, h1⟩ := hx
  obtain ⟨_, _, k2, h2⟩ := hy
  refine rs_unique hP (pr_mul_ne hP hn hd) s0 s1 ⟨k3 * ((a.den : Int) * b.den) - (a + b).den * (k1 * b.den + k2 * a.den), ?_⟩
  clear hn hd s0 s1 ha hb hP
  generalize ((a + b).den : Int) = D at *
  generalize (a + b).num = N at *
  generalize (a.den : Int) = d1 at *
  generalize (b.den : Int) = d2 at *
  generalize a.num = n1 at *
  generalize b.num = n2 at *
  grind
theorem rs_mul {p x y s : Int} {a b : Rat} (hP : Pr p) (ha : (a.den : Int) % p ≠ 0) (hb : (b.den : Int) % p ≠ 0) (hx : Rs p a x) (hy : Rs p b y) :
    ((a * b).den : Int) % p ≠ 0 ∧ (Rs p (a * b) s → s = (x * y) % p) := by
  have hd : (a.den : Int) * b.den % p ≠ 0 := pr_mul_ne hP ha hb
  have hc := frac_cross (Int.mul_ne_zero (denI a) (denI b)) (rat_mul_frac a b)
  have hn := den_ne hP hc hd
  refine ⟨hn, fun ⟨s0, s1, k3, h3⟩ => ?_⟩
  obtain ⟨_, _, k1, h1⟩ := hx
  obtain ⟨_, _, k2, h2⟩ := hy
  refine rs_unique hP (pr_mul_ne hP hn hd) s0 s1 ⟨k3 * ((a.den : Int) * b.den) - (a + b).den * 0 - (a * b).den * (k1 * (y * b.den) + a.num * k2), ?_⟩
  clear hn hd s0 s1 ha hb hP
  generalize ((a * b).den : Int) = D at *
  generalize (a * b).num = N at *
  generalize ((a + b).den : Int) = E at *
  generalize (a.den : Int) = d1 at *
  generalize (b.den : Int) = d2 at *
  generalize a.num = n1 at *
  generalize b.num = n2 at *
  grind
theorem rs_div {p x y i s : Int} {a b : Rat} (hP : Pr p) (ha : (a.den : Int) % p ≠ 0) (hb : (b.den : Int) % p ≠ 0) (hx : Rs p a x) (hy : Rs p b y) (h0 : y % p ≠ 0) (hi : ∃ k, y * i = 1 + p * k) :
    b.num ≠ 0 ∧ ((a / b).den : Int) % p ≠ 0 ∧ (Rs p (a / b) s → s = (x * i) % p) := by
  obtain ⟨_, _, k1, h1⟩ := hx
  obtain ⟨_, _, k2, h2⟩ := hy
  obtain ⟨k5, h5⟩ := hi
  have hn2 : b.num % p ≠ 0 := fun h => by
    obtain ⟨k, hk⟩ := of_mod h
    exact pr_mul_ne hP h0 hb (mod_of (k := k2 + k) (by grind))
  have hn0 : b.num ≠ 0 := fun h => hn2 (by rw [h]; simp)
  have hd : (a.den : Int) * b.num % p ≠ 0 := pr_mul_ne hP ha hn2
  have hc := frac_cross (Int.mul_ne_zero (denI a) hn0) (rat_div_frac a b)
  have hn := den_ne hP hc hd
  refine ⟨hn0, hn, fun ⟨s0, s1, k3, h3⟩ => ?_⟩
  refine rs_unique hP (pr_mul_ne hP hn hd) s0 s1 ⟨k3 * ((a.den : Int) * b.num) - (a / b).den * (k1 * i * b.num + a.num * (k5 * b.den - i * k2)), ?_⟩
  clear hn hd s0 s1 ha hb hP hn2 hn0 h0
  generalize ((a / b).den : Int) = D at *
  generalize (a / b).num = N at *
  generalize (a.den : Int) = d1 at *
  generalize (b.den : Int) = d2 at *
  generalize a.num = n1 at *
  generalize b.num = n2 at *
  grind
end Go.Proofs.YtndafmjcelgnbaaGreatDoor
