/-
  Plain facts behind the division of the school (Knuth's algorithm D). No program in sight.
-/
import Derived.Test.YtndafmjcelgnbaaGreatDoorEst
namespace Go.Proofs.YtndafmjcelgnbaaGreatDoor

theorem digit_up {u v d : Nat} (h : DigitOf u v d) (hge : d * v ≤ u) : d = u / v := by
  have h2 := h.2
  have h3 : u < (d + 1) * v := h2
  have := Nat.div_eq_of_lt_le (m := u) (n := v) (k := d) (by omega) (by simpa using h3)
  exact this.symm
theorem digit_down {u v d : Nat} (h : DigitOf u v d) (hlt : u < d * v) : 0 < d ∧ d - 1 = u / v := by
  have h1 := h.1
  have hd : 0 < d := by
    rcases Nat.eq_zero_or_pos d with e | e
    · subst e; simp at hlt
    · exact e
  obtain ⟨c, rfl⟩ : ∃ c, d = c + 1 := ⟨d - 1, by omega⟩
  refine ⟨hd, ?_⟩
  have e : c + 1 - 1 = c := by omega
  rw [e]
  rw [Nat.add_mul] at h1
  exact (Nat.div_eq_of_lt_le (m := u) (n := v) (k := c) (by omega) (by simpa using hlt)).symm

/-- the product was subtracted and nothing was borrowed from beyond the window -/
theorem knuth_even {P v u low top d borrow m : Nat} (hv : v ≤ P) (hu : u = low + P * top) (hd : DigitOf u v d) (hm : m + v * d = low + P * borrow) (hle : borrow ≤ top) :
    d = u / v ∧ m = u % v ∧ top = borrow := by
  have e1 : u = d * v + (m + P * (top - borrow)) := by
    obtain ⟨t, rfl⟩ : ∃ t, top = borrow + t := ⟨top - borrow, by omega⟩
    rw [show borrow + t - borrow = t by omega, hu, Nat.mul_add, Nat.mul_comm d]
    omega
  have hq := digit_up hd (by omega)
  have hr : m + P * (top - borrow) < v := by
    have := hd.2
    rw [Nat.add_mul] at this
    omega
  have htb : top - borrow = 0 := by
    rcases Nat.eq_zero_or_pos (top - borrow) with h | h
    · exact h
    · have : P * 1 ≤ P * (top - borrow) := Nat.mul_le_mul_left P h
      omega
  refine ⟨hq, ?_, by omega⟩
  rw [htb] at e1 hr
  simp only [Nat.mul_zero, Nat.add_zero] at e1 hr
  rw [e1, Nat.mul_comm, Nat.mul_add_mod, Nat.mod_eq_of_lt hr]
/-- .. and something was borrowed: the divisor is added again -/
theorem knuth_odd {P v u low top d borrow m m2 c : Nat} (hv0 : 0 < v) (hv : v ≤ P) (hu : u = low + P * top) (hd : DigitOf u v d) (hm : m + v * d = low + P * borrow) (hlt : top < borrow)
    (hmP : m < P) (hm2 : m2 + P * c = m + v) (hm2P : m2 < P) : 0 < d ∧ d - 1 = u / v ∧ m2 = u % v ∧ c + top = borrow := by
  have hud : u < d * v := by
    have : P * (top + 1) ≤ P * borrow := Nat.mul_le_mul_left P hlt
    rw [Nat.mul_add] at this
    rw [Nat.mul_comm d]
    omega
  obtain ⟨hd0, hq⟩ := digit_down hd hud
  obtain ⟨q, rfl⟩ : ∃ q, d = q + 1 := ⟨d - 1, by omega⟩
  have e : q + 1 - 1 = q := by omega
  rw [e] at hq ⊢
  refine ⟨hd0, hq, ?_⟩
  have hmod := Nat.div_add_mod u v
  have hml := Nat.mod_lt u hv0
  rw [← hq, Nat.mul_comm] at hmod
  rw [Nat.mul_add] at hm
  -- m2 + P*(c + top) = u % v + P * borrow
  have key : m2 + P * (c + top) = u % v + P * borrow := by
    rw [Nat.mul_add, Nat.mul_comm q] at *
    omega
  have hc : c + top = borrow := by
    rcases Nat.lt_trichotomy (c + top) borrow with h | h | h
    · have : P * (c + top + 1) ≤ P * borrow := Nat.mul_le_mul_left P h
      rw [Nat.mul_add] at this
      omega
    · exact h
    · have : P * (borrow + 1) ≤ P * (c + top) := Nat.mul_le_mul_left P h
      rw [Nat.mul_add] at this
      omega
  rw [hc] at key
  exact ⟨by omega, hc⟩

/-- while x is divided: rs is what is left, qs has the digits from place k on -/
def DivRel (X v n k : Nat) (rs qs : List Nat) : Prop :=
  Dig W64 rs ∧ Dig W64 qs ∧ rs.length = qs.length + n ∧ val W64 rs + val W64 (qs.drop k) * W64 ^ k * v = X ∧ val W64 (rs.drop k) < v
theorem DivRel.window {X v n k : Nat} {rs qs : List Nat} (h : DivRel X v n (k + 1) rs qs) (hv : v ≤ W64 ^ n) (hk : k + n < rs.length) :
    val W64 (rs.drop k) = val W64 ((rs.drop k).take (n + 1)) ∧ val W64 (rs.drop k) < v * W64 ∧ val W64 (rs.drop (k + n + 1)) = 0 := by
  obtain ⟨h1, h2, h3, h4, h5⟩ := h
  have hz : val W64 (rs.drop (k + n + 1)) = 0 := by
    have e := val_take_drop (B := W64) (xs := rs.drop (k + 1)) n
    rw [List.drop_drop, show k + 1 + n = k + n + 1 by omega, Nat.min_eq_left (by simp; omega)] at e
    rcases Nat.eq_zero_or_pos (val W64 (rs.drop (k + n + 1))) with h | h
    · exact h
    · have : W64 ^ n * 1 ≤ W64 ^ n * val W64 (rs.drop (k + n + 1)) := Nat.mul_le_mul_left _ h
      omega
  refine ⟨?_, ?_, hz⟩
  · have e := val_take_drop (B := W64) (xs := rs.drop k) (n + 1)
    rw [List.drop_drop, show k + (n + 1) = k + n + 1 by omega, hz] at e
    simpa using e
  · rw [val_getD_drop k (by omega)]
    have hd := h1.getD W64_pos k
    have : W64 * (val W64 (rs.drop (k + 1)) + 1) ≤ W64 * v := Nat.mul_le_mul_left _ h5
    rw [Nat.mul_add] at this
    rw [Nat.mul_comm v]
    omega
theorem DivRel.step {X v n k q : Nat} {rs qs m : List Nat} (h : DivRel X v n (k + 1) rs qs) (hv0 : 0 < v) (hv : v ≤ W64 ^ n) (hk : k + n < rs.length) (hm : m.length = n) (hd : Dig W64 m) (hq : q = val W64 (rs.drop k) / v) (hr : val W64 m = val W64 (rs.drop k) % v) :
    DivRel X v n k (rs.take k ++ m ++ (0 :: rs.drop (k + n + 1))) (qs.set k q) := by
  obtain ⟨w1, w2, w3⟩ := h.window hv hk
  obtain ⟨h1, h2, h3, h4, h5⟩ := h
  have hkq : k < qs.length := by omega
  have hqW : q < W64 := by rw [hq, Nat.div_lt_iff_lt_mul hv0, Nat.mul_comm]; exact w2
  have hlk : (rs.take k).length = k := by simp; omega
  have hnew : val W64 (m ++ (0 :: rs.drop (k + n + 1))) = val W64 m := by
    rw [val_append, val_cons, w3]; simp
  have hdrop : (rs.take k ++ m ++ (0 :: rs.drop (k + n + 1))).drop k = m ++ (0 :: rs.drop (k + n + 1)) := by
    rw [List.append_assoc, List.drop_append, hlk, List.drop_of_length_le (by omega), Nat.sub_self]; simp
  refine ⟨((h1.take k).append hd).append (Dig.cons W64_pos (h1.drop _)), h2.set k hqW, ?_, ?_, ?_⟩
  · simp [hm]; omega
  · rw [List.append_assoc, val_append, hlk, hnew, hr]
    rw [val_getD_drop (xs := qs.set k q) k (by simpa using hkq), List.drop_set_of_lt (by omega)]
    have eq0 : (qs.set k q)[k]?.getD 0 = q := by rw [List.getElem?_set_self hkq]; rfl
    rw [eq0]
    have e1 := val_take_drop (B := W64) (xs := rs) k
    rw [Nat.min_eq_left (by omega)] at e1
    have e2 := Nat.div_add_mod (val W64 (rs.drop k)) v
    rw [← hq] at e2
    have e3 := congrArg (W64 ^ k * ·) e2
    simp only [Nat.mul_add] at e3
    rw [Nat.add_mul, Nat.add_mul]
    have e4 : q * W64 ^ k * v = W64 ^ k * (v * q) := by rw [Nat.mul_comm q, Nat.mul_assoc, Nat.mul_comm q]
    have e5 : W64 * val W64 (qs.drop (k + 1)) * W64 ^ k * v = val W64 (qs.drop (k + 1)) * W64 ^ (k + 1) * v := by
      rw [Nat.pow_succ, Nat.mul_comm W64 (val W64 _), Nat.mul_assoc (val W64 _) W64, Nat.mul_comm W64 (W64 ^ k)]
    rw [e4, e5]
    omega
  · rw [hdrop, hnew, hr]; exact Nat.mod_lt _ hv0
theorem DivRel.done {X v n : Nat} {rs qs : List Nat} (h : DivRel X v n 0 rs qs) : val W64 qs = X / v ∧ val W64 rs = X % v := by
  obtain ⟨h1, h2, h3, h4, h5⟩ := h
  rw [List.drop_zero] at h4 h5
  simp only [Nat.pow_zero, Nat.mul_one] at h4
  rw [← h4, Nat.add_comm, Nat.mul_comm, Nat.mul_add_div (by omega), Nat.mul_add_mod, Nat.mod_eq_of_lt h5, Nat.div_eq_of_lt h5]
  exact ⟨by omega, rfl⟩
/-- at the beginning -/
theorem DivRel.start {x y s L n : Nat} {rs : List Nat} (hd : Dig W64 rs) (hl : rs.length = L + 1) (hv : val W64 rs = x * 2 ^ s) (hx : x < W64 ^ L) (hy : W64 ^ (n - 1) ≤ y) (hn : 1 ≤ n) (hnL : n ≤ L) :
    DivRel (x * 2 ^ s) (y * 2 ^ s) n (L - n + 1) rs (List.replicate (L - n + 1) 0) := by
  refine ⟨hd, Dig.replicate W64_pos _, by simp; omega, ?_, ?_⟩
  · rw [List.drop_of_length_le (by simp)]; simp [hv]
  · have e := val_take_drop (B := W64) (xs := rs) (L - n + 1)
    rw [Nat.min_eq_left (by omega), hv] at e
    have hp : 0 < 2 ^ s := Nat.pow_pos (by omega)
    have h1 : W64 ^ (L - n + 1) * val W64 (rs.drop (L - n + 1)) ≤ x * 2 ^ s := by omega
    have h2 : x * 2 ^ s < W64 ^ L * 2 ^ s := Nat.mul_lt_mul_of_pos_right hx hp
    have h3 : W64 ^ L = W64 ^ (L - n + 1) * W64 ^ (n - 1) := by rw [← Nat.pow_add, show L - n + 1 + (n - 1) = L by omega]
    rw [h3, Nat.mul_assoc] at h2
    have h4 : W64 ^ (L - n + 1) * val W64 (rs.drop (L - n + 1)) < W64 ^ (L - n + 1) * (W64 ^ (n - 1) * 2 ^ s) := by omega
    have h5 := Nat.lt_of_mul_lt_mul_left h4
    exact Nat.lt_of_lt_of_le h5 (Nat.mul_le_mul_right _ hy)

/-- a divisor that is shifted so that its first bit is set -/
theorem norm_spec {ys vs : List Nat} {n yt s : Nat} (hl : ys.length = n + 1) (dy : Dig W64 ys) (ey : ys[n]?.getD 0 = yt) (hyt : 0 < yt) (hs : 64 - Lib.bitLen yt = s) (dv : Dig W64 vs) (tv : Trim vs) (hv : val W64 vs = val W64 ys * 2 ^ s) :
    vs.length = n + 1 ∧ W64 ≤ 2 * (vs[n]?.getD 0) ∧ W64 ^ n ≤ val W64 ys ∧ s ≤ 63 := by
  have hytW : yt < W64 := ey ▸ dy.getD W64_pos _
  obtain ⟨l1, l2, l3, l4⟩ := bitLen_bounds hyt hytW
  have EY : val W64 ys = val W64 (ys.take n) + W64 ^ n * yt := by
    have := val_take_succ (B := W64) (xs := ys) n (by omega)
    rw [List.take_of_length_le (by omega), ey] at this
    exact this
  have hlow := val_lt (dy.take n)
  rw [List.length_take, Nat.min_eq_left (by omega)] at hlow
  have hp : 0 < 2 ^ s := Nat.pow_pos (by omega)
  have hhi : val W64 ys * 2 ^ s < W64 ^ (n + 1) := by
    have h1 : val W64 ys < W64 ^ n * 2 ^ Lib.bitLen yt := by
      have : W64 ^ n * (yt + 1) ≤ W64 ^ n * 2 ^ Lib.bitLen yt := Nat.mul_le_mul_left _ l4
      rw [Nat.mul_add] at this
      omega
    have h2 := Nat.mul_lt_mul_of_pos_right h1 hp
    rw [Nat.mul_assoc, ← Nat.pow_add, show Lib.bitLen yt + s = 64 by omega] at h2
    rw [Nat.pow_succ, W64_eq] at *
    exact h2
  have hlo : W64 ^ n * 2 ^ 63 ≤ val W64 ys * 2 ^ s := by
    have h1 : W64 ^ n * 2 ^ (Lib.bitLen yt - 1) ≤ val W64 ys := by
      have : W64 ^ n * 2 ^ (Lib.bitLen yt - 1) ≤ W64 ^ n * yt := Nat.mul_le_mul_left _ l3
      omega
    have h2 := Nat.mul_le_mul_right (2 ^ s) h1
    rw [Nat.mul_assoc, ← Nat.pow_add, show Lib.bitLen yt - 1 + s = 63 by omega] at h2
    exact h2
  have hlen1 : vs.length ≤ n + 1 := length_le_of_val W64_one tv (hv ▸ hhi)
  have hlen2 : n + 1 ≤ vs.length := by
    rcases Nat.lt_or_ge vs.length (n + 1) with h | h
    · have h1 := val_lt dv
      have h2 : W64 ^ vs.length ≤ W64 ^ n := Nat.pow_le_pow_right W64_pos (by omega)
      have h3 : W64 ^ n * 1 ≤ W64 ^ n * 2 ^ 63 := Nat.mul_le_mul_left _ (by decide)
      omega
    · exact h
  refine ⟨by omega, ?_, ?_, by omega⟩
  · have EV : val W64 vs = val W64 (vs.take n) + W64 ^ n * (vs[n]?.getD 0) := by
      have := val_take_succ (B := W64) (xs := vs) n (by omega)
      rw [List.take_of_length_le (by omega)] at this
      exact this
    have hlow2 := val_lt (dv.take n)
    rw [List.length_take, Nat.min_eq_left (by omega)] at hlow2
    have h1 : W64 ^ n * 2 ^ 63 < W64 ^ n * ((vs[n]?.getD 0) + 1) := by rw [Nat.mul_add]; omega
    have h2 := Nat.lt_of_mul_lt_mul_left h1
    rw [W64_eq]
    omega
  · have : W64 ^ n * 1 ≤ W64 ^ n * yt := Nat.mul_le_mul_left _ hyt
    omega
end Go.Proofs.YtndafmjcelgnbaaGreatDoor
