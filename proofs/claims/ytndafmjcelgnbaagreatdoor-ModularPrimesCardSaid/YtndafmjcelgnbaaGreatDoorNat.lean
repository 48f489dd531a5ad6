/-
  Natural numbers in memory (package integer's words), and how many words they have.
-/
import Derived.Test.YtndafmjcelgnbaaGreatDoorWords2
namespace Go.Proofs.YtndafmjcelgnbaaGreatDoor
open Go.RowKit

/-- how many words a number has -/
def wl (n : Nat) : Nat := if n = 0 then 0 else n.log2 / 64 + 1
theorem W64_pow (k : Nat) : W64 ^ k = 2 ^ (64 * k) := by rw [Nat.pow_mul, W64_eq]
theorem wl_le_iff {n k : Nat} : wl n ≤ k ↔ n < W64 ^ k := by
  unfold wl
  rw [W64_pow]
  split
  · rename_i h; subst h; simp [Nat.pow_pos]
  · rename_i h
    rw [← Nat.log2_lt h]; omega
theorem lt_wl (n : Nat) : n < W64 ^ wl n := wl_le_iff.1 (Nat.le_refl _)
theorem wl_zero : wl 0 = 0 := rfl
theorem wl_mono {a b : Nat} (h : a ≤ b) : wl a ≤ wl b := wl_le_iff.2 (Nat.lt_of_le_of_lt h (lt_wl b))
theorem wl_mul (a b : Nat) : wl (a * b) ≤ wl a + wl b := wl_le_iff.2 (by rw [Nat.pow_add]; exact Nat.mul_lt_mul'' (lt_wl a) (lt_wl b))
theorem wl_add {a b k : Nat} (ha : wl a ≤ k) (hb : wl b ≤ k) : wl (a + b) ≤ k + 1 := by
  rw [wl_le_iff] at *
  have : W64 ^ k * 2 ≤ W64 ^ k * W64 := Nat.mul_le_mul_left _ W64_two
  rw [Nat.pow_succ]
  omega
theorem wl_len {xs : List Nat} (hd : Dig W64 xs) (ht : Trim xs) : xs.length = wl (val W64 xs) := by
  have h1 := length_le_of_val (n := wl (val W64 xs)) W64_one ht (lt_wl _)
  have h2 : wl (val W64 xs) ≤ xs.length := wl_le_iff.2 (val_lt hd)
  omega
theorem wl_pos {n : Nat} (h : 0 < n) : 0 < wl n := by
  unfold wl; rw [if_neg (by omega)]; omega
theorem wl_one {n : Nat} : wl n ≤ 1 ↔ n < W64 := by rw [wl_le_iff, Nat.pow_one]

/-- The slice v holds the natural number n. -/
def NatIs (w : World) (v : Value) (n : Nat) : Prop :=
  ∃ (A : Option Addr) (xs : List Nat) (c : Nat), v = .slice A xs.length c ∧ xs.length ≤ c ∧ Shows .u64 w A xs ∧ Dig W64 xs ∧ Trim xs ∧ val W64 xs = n
theorem NatIs.ext {w w' : World} {v : Value} {n : Nat} (h : NatIs w v n) (hf : Ext w w') : NatIs w' v n := by
  obtain ⟨A, xs, c, h1, h2, h4, h5⟩ := h
  exact ⟨A, xs, c, h1, h2, h4.ext hf, h5⟩
theorem NatIs.zero (w : World) : NatIs w (.slice none 0 0) 0 := ⟨none, [], 0, rfl, by simp, Shows.nil, Dig.nil, Trim.nil, rfl⟩

/-- The result is a slice that holds n; nothing that was there has changed. -/
def RetNat (w : World) (n : Nat) (e : Ending) (w' : World) : Prop := ∃ v, e = .returned v ∧ NatIs w' v n ∧ Ext w w'

theorem info64 : (Tryz.prog.info? 69).map (fun i => (i.zero, i.size, i.bytes)) = some (some (.int .u64 0), 1, 8) := by kernel_rfl
theorem info64s : (Tryz.prog.info? 69).map (·.size) = some 1 := by kernel_rfl

/-- what trim makes of a block of words -/
theorem NatIs.of_own {w : World} {b : Nat} {xs : List Nat} (h : Own .u64 69 w b xs) (hd : Dig W64 xs) {c : Nat} (hc : xs.length ≤ c) : NatIs w (.slice (some ⟨b, 0, none⟩) (trimLen xs xs.length) c) (val W64 xs) := by
  refine ⟨_, trimmed xs, c, by rw [trimmed_length], by rw [trimmed_length]; exact Nat.le_trans (trimLen_le _ _) hc, h.shows0.take _, trimmed_dig hd, trimmed_trim xs, trimmed_val _ _⟩

theorem sum_fits {xs ys m : List Nat} (hx : Dig W64 xs) (hy : Dig W64 ys) (hl : ys.length ≤ xs.length) (h : SumOf (xs ++ [0]) ys m) : val W64 m = val W64 xs + val W64 ys := by
  obtain ⟨k, hk⟩ := h
  have h1 := val_lt hx
  have h2 := val_lt hy
  have h3 : W64 ^ ys.length ≤ W64 ^ xs.length := Nat.pow_le_pow_right W64_pos hl
  have h4 : W64 ^ xs.length * 2 ≤ W64 ^ xs.length * W64 := Nat.mul_le_mul_left _ W64_two
  rw [val_append] at hk
  simp only [List.length_append, List.length_singleton, Nat.pow_succ, val_cons, val_nil, Nat.mul_zero, Nat.add_zero] at hk
  rcases Nat.eq_zero_or_pos k with h0 | h0
  · subst h0; simpa using hk
  · have : W64 ^ xs.length * W64 * 1 ≤ W64 ^ xs.length * W64 * k := Nat.mul_le_mul_left _ h0
    omega

set_option maxHeartbeats 1000000 in
set_option maxRecDepth 100000 in
theorem addWords_core (A A2 : Option Addr) (xs ys : List Nat) (c c2 : Nat) (w : World) (hX : Shows .u64 w A xs) (hY : Shows .u64 w A2 ys) (hc : xs.length ≤ c) (hl : xs.length ≤ 4294967296) (hxy : ys.length ≤ xs.length)
    (hx : Dig W64 xs) (hy : Dig W64 ys) (tx : Trim xs) (ty : Trim ys) :
    Calls Tryz.prog 107 #[.slice A xs.length c, .slice A2 ys.length c2] w (RetNat w (val W64 xs + val W64 ys)) := by
  have HX := Lib.hid hX
  have HY := Lib.hid hY
  have Hx := Lib.hid hx
  have Hy := Lib.hid hy
  have Tx := Lib.hid tx
  have Ty := Lib.hid ty
  clear hX hY hx hy tx ty
  by_cases h0 : ys.length = 0
  · obtain rfl : ys = [] := List.length_eq_zero_iff.1 h0
    clear h0 Hy Ty HY hxy
    go_enter Tryz.func107, Tryz.ntmps107
    go_wp2
    go_ret
    exact ⟨_, rfl, ⟨A, xs, c, rfl, hc, HX.out, Hx.out, Tx.out, by simp⟩, Fr.refl _ _⟩
  · have h0' : (((ys.length : Nat) : Int) == 0) = false := by simp; intro e; simp [e] at h0
    go_enter Tryz.func107, Tryz.ntmps107
    go_wp2_with (first
      | (at_make
         refine wpList_make_words rfl _ _ _ rfl _ _ _ Tryz.underlying65 info64 _ _ _ _ (xs.length + 1) rfl rfl (by omega) (by omega) (by omega) (by omega) ?_
         intro b w1 hb hO1 _ hF1 hs1
         have HO1 : Hid (Own .u64 69 w1 b ([] ++ List.replicate (xs.length + 1) 0 ++ [])) := by simpa [Hid] using hO1
         have HF1 := Lib.hid hF1
         have Hb := Lib.hid hb
         clear hO1 hF1 hb hs1)
      | (with_reducible refine wpList_copy_words rfl (.tmp 21) (.tmp 22) _ _ rfl _ _ Tryz.underlying65 info64s _ _ _ _ _ _ rfl rfl b [] (List.replicate (xs.length + 1) 0) [] xs (by simp) rfl HO1.out (HX.out.ext HF1.out) (fun _ => rfl) ?_
         intro w2 z hO2 _ hF2 hs2
         have HO2 := Lib.hid hO2
         have HF2 := Lib.hid hF2
         clear hO2 hF2 hs2))
    have HO3 : Hid (Own .u64 69 w2 b ([] ++ (xs ++ [0]) ++ [])) := by
      have h := HO2.out
      rw [List.take_of_length_le (by simp), List.drop_replicate] at h
      simpa [Hid] using h
    have hA2 : Hid (∀ a, A2 = some a → a.block ≠ b) := by
      intro a ha
      obtain ⟨b', off', e', hb', _⟩ := HY.out (by intro e; simp [e] at h0)
      rw [e'] at ha; injection ha with ha; subst ha
      have := Hb.out
      show b' ≠ b
      omega
    have HY2 : Hid (Shows .u64 w2 A2 ys) := (HY.out.ext HF1.out).fr HF2.out (fun a ha _ => hA2.out a ha)
    refine (addInto_any b _ _ _ _ _ [] (xs ++ [0]) [] ys A2 w2 rfl (by simp) rfl HO3.out HY2.out hA2.out (by simp; omega) (by simp; omega) (Hx.out.append (Dig.nil.cons W64_pos)) Hy.out).mono ?_
    rintro e w3 ⟨rfl, hM⟩
    have HM := Lib.hid hM
    clear hM
    go_wp2_with fail
    obtain ⟨hF3, _, m, hO4, hml, hdm, hsum⟩ := HM.out
    have hml' : m.length = xs.length + 1 := by simpa using hml
    have hO4' : Own .u64 69 w3 b m := by simpa using hO4
    have HF3 : Hid (Ext w w3) := by
      have hb := Hb.out
      exact ((HF1.out.next HF2.out (fun i hi e => by omega)).next hF3 (fun i hi e => by omega))
    refine (trim_any _ m _ _ w3 hml' hO4'.shows0 (by omega) (by omega)).mono ?_
    rintro e w4 ⟨rfl, rfl⟩
    have HN := Lib.hid (NatIs.of_own hO4' hdm (Nat.le_refl _))
    rw [sum_fits Hx.out Hy.out hxy hsum, hml'] at HN
    clear HM hF3 hO4 hml hdm hsum hO4'
    have hml2 := Lib.hid hml'
    clear hml'
    go_wp2
    go_ret
    exact ⟨_, by rw [hml2.out]; rfl, HN.out, HF3.out⟩
set_option maxHeartbeats 1000000 in
set_option maxRecDepth 100000 in
theorem addWords_swap (A A2 : Option Addr) (xs ys : List Nat) (c c2 : Nat) (w : World) (hX : Shows .u64 w A xs) (hY : Shows .u64 w A2 ys) (hc : xs.length ≤ c) (hl : xs.length ≤ 4294967296) (hxy : ys.length < xs.length)
    (hx : Dig W64 xs) (hy : Dig W64 ys) (tx : Trim xs) (ty : Trim ys) :
    Calls Tryz.prog 107 #[.slice A2 ys.length c2, .slice A xs.length c] w (RetNat w (val W64 xs + val W64 ys)) := by
  have HX := Lib.hid hX
  have HY := Lib.hid hY
  have Hx := Lib.hid hx
  have Hy := Lib.hid hy
  have Tx := Lib.hid tx
  have Ty := Lib.hid ty
  clear hX hY hx hy tx ty
  by_cases h0 : ys.length = 0
  · obtain rfl : ys = [] := List.length_eq_zero_iff.1 h0
    clear h0 Hy Ty HY
    simp only [List.length_nil] at hxy
    go_enter Tryz.func107, Tryz.ntmps107
    go_wp2
    go_ret
    exact ⟨_, rfl, ⟨A, xs, c, rfl, hc, HX.out, Hx.out, Tx.out, by simp⟩, Fr.refl _ _⟩
  · have h0' : (((ys.length : Nat) : Int) == 0) = false := by simp; intro e; simp [e] at h0
    go_enter Tryz.func107, Tryz.ntmps107
    go_wp2_with (first
      | (at_make
         refine wpList_make_words rfl _ _ _ rfl _ _ _ Tryz.underlying65 info64 _ _ _ _ (xs.length + 1) rfl rfl (by omega) (by omega) (by omega) (by omega) ?_
         intro b w1 hb hO1 _ hF1 hs1
         have HO1 : Hid (Own .u64 69 w1 b ([] ++ List.replicate (xs.length + 1) 0 ++ [])) := by simpa [Hid] using hO1
         have HF1 := Lib.hid hF1
         have Hb := Lib.hid hb
         clear hO1 hF1 hb hs1)
      | (with_reducible refine wpList_copy_words rfl (.tmp 21) (.tmp 22) _ _ rfl _ _ Tryz.underlying65 info64s _ _ _ _ _ _ rfl rfl b [] (List.replicate (xs.length + 1) 0) [] xs (by simp) rfl HO1.out (HX.out.ext HF1.out) (fun _ => rfl) ?_
         intro w2 z hO2 _ hF2 hs2
         have HO2 := Lib.hid hO2
         have HF2 := Lib.hid hF2
         clear hO2 hF2 hs2))
    have HO3 : Hid (Own .u64 69 w2 b ([] ++ (xs ++ [0]) ++ [])) := by
      have h := HO2.out
      rw [List.take_of_length_le (by simp), List.drop_replicate] at h
      simpa [Hid] using h
    have hA2 : Hid (∀ a, A2 = some a → a.block ≠ b) := by
      intro a ha
      obtain ⟨b', off', e', hb', _⟩ := HY.out (by intro e; simp [e] at h0)
      rw [e'] at ha; injection ha with ha; subst ha
      have := Hb.out
      show b' ≠ b
      omega
    have HY2 : Hid (Shows .u64 w2 A2 ys) := (HY.out.ext HF1.out).fr HF2.out (fun a ha _ => hA2.out a ha)
    refine (addInto_any b _ _ _ _ _ [] (xs ++ [0]) [] ys A2 w2 rfl (by simp) rfl HO3.out HY2.out hA2.out (by simp; omega) (by simp; omega) (Hx.out.append (Dig.nil.cons W64_pos)) Hy.out).mono ?_
    rintro e w3 ⟨rfl, hM⟩
    have HM := Lib.hid hM
    clear hM
    go_wp2_with fail
    obtain ⟨hF3, _, m, hO4, hml, hdm, hsum⟩ := HM.out
    have hml' : m.length = xs.length + 1 := by simpa using hml
    have hO4' : Own .u64 69 w3 b m := by simpa using hO4
    have HF3 : Hid (Ext w w3) := by
      have hb := Hb.out
      exact ((HF1.out.next HF2.out (fun i hi e => by omega)).next hF3 (fun i hi e => by omega))
    refine (trim_any _ m _ _ w3 hml' hO4'.shows0 (by omega) (by omega)).mono ?_
    rintro e w4 ⟨rfl, rfl⟩
    have HN := Lib.hid (NatIs.of_own hO4' hdm (Nat.le_refl _))
    rw [sum_fits Hx.out Hy.out (Nat.le_of_lt hxy) hsum, hml'] at HN
    clear HM hF3 hO4 hml hdm hsum hO4'
    have hml2 := Lib.hid hml'
    clear hml'
    go_wp2
    go_ret
    exact ⟨_, by rw [hml2.out]; rfl, HN.out, HF3.out⟩

theorem addWords_any (xv yv : Value) (x y : Nat) (w : World) (hX : NatIs w xv x) (hY : NatIs w yv y) (hx : wl x ≤ 4294967296) (hy : wl y ≤ 4294967296) : Calls Tryz.prog 107 #[xv, yv] w (RetNat w (x + y)) := by
  obtain ⟨A, xs, c, rfl, hc, h1, h2, h3, rfl⟩ := hX
  obtain ⟨A2, ys, c2, rfl, hc2, k1, k2, k3, rfl⟩ := hY
  rw [← wl_len h2 h3] at hx
  rw [← wl_len k2 k3] at hy
  rcases Nat.lt_or_ge xs.length ys.length with hlt | hge
  · rw [Nat.add_comm]
    exact addWords_swap A2 A ys xs c2 c w k1 h1 hc2 hy hlt k2 h2 k3 h3
  · exact addWords_core A A2 xs ys c c2 w h1 k1 hc hx hge h2 k2 h3 k3
end Go.Proofs.YtndafmjcelgnbaaGreatDoor
