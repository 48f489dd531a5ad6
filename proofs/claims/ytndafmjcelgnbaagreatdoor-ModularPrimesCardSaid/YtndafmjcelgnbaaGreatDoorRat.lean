/-
  Package rational: the type Ratio, its values, and Read.
-/
import Derived.Test.YtndafmjcelgnbaaGreatDoorParse2
namespace Go.Proofs.YtndafmjcelgnbaaGreatDoor
open Go.RowKit

/-- no cell is a word -/
def NoWords (cs : Array Value) : Prop := ∀ (i : Nat) (k : Int), cs[i]? ≠ some (.int .u64 k)
theorem noWords2 {s : Bool} {A : Option Addr} {l c : Nat} : NoWords #[.bool s, .slice A l c] := by
  intro i k; rcases i with _ | _ | i <;> simp
theorem noWords4 {s t : Bool} {A B : Option Addr} {l c l' c' : Nat} : NoWords #[.bool s, .slice A l c, .bool t, .slice B l' c'] := by
  intro i k; rcases i with _ | _ | _ | _ | i <;> simp
theorem NatIs.other {t : TypeId} {w w' : World} {r n : Nat} {u : Value} {cs : Array Value} (h : NatIs w u n) (hB : Blk t w r cs) (hc : NoWords cs) (hF : Fr (fun i => i = r) w w') : NatIs w' u n := by
  obtain ⟨A', xs, c', h1, h2, h3, h4⟩ := h
  refine ⟨A', xs, c', h1, h2, ?_, h4⟩
  cases xs with
  | nil => exact Shows.nil
  | cons x xs =>
    refine h3.fr hF (fun ad hA hlt e => ?_)
    obtain ⟨g, off, e', _, hcl⟩ := h3.at (i := 0) (by simp)
    rw [e'] at hA
    injection hA with hA
    subst hA
    simp at e
    subst e
    rw [hB.cell] at hcl
    exact hc _ _ hcl
theorem IntIs.other {t : TypeId} {w w' : World} {r : Nat} {v : Value} {z : Int} {cs : Array Value} (h : IntIs w v z) (hB : Blk t w r cs) (hc : NoWords cs) (hF : Fr (fun i => i = r) w w') : IntIs w' v z := by
  obtain ⟨s', u, n, h1, h2, h3⟩ := h
  exact ⟨s', u, n, h1, h2.other hB hc hF, h3⟩
theorem Blk.cell4 {t : TypeId} {w : World} {g : Nat} {x y z u : Value} (h : Blk t w g #[x, y, z, u]) : w.cell? ⟨g, 0, none⟩ = some x ∧ w.cell? ⟨g, 1, none⟩ = some y ∧ w.cell? ⟨g, 2, none⟩ = some z ∧ w.cell? ⟨g, 3, none⟩ = some u ∧ w.frozen? ⟨g, 0, none⟩ = false ∧ w.frozen? ⟨g, 1, none⟩ = false ∧ w.frozen? ⟨g, 2, none⟩ = false ∧ w.frozen? ⟨g, 3, none⟩ = false :=
  ⟨h.cell 0, h.cell 1, h.cell 2, h.cell 3, h.frozen 0, h.frozen 1, h.frozen 2, h.frozen 3⟩

/-- the field den of a Ratio -/
def denF (q : Rat) : Int := if q.den = 1 then 0 else (q.den : Int)
/-- The struct v holds the rational number q. -/
def RatIs (w : World) (v : Value) (q : Rat) : Prop := ∃ (s t : Bool) (A B : Option Addr) (l c l' c' : Nat), v = .agg #[.bool s, .slice A l c, .bool t, .slice B l' c'] ∧ IntIs w (.agg #[.bool s, .slice A l c]) q.num ∧ IntIs w (.agg #[.bool t, .slice B l' c']) (denF q)
theorem RatIs.ext {w w' : World} {v : Value} {q : Rat} (h : RatIs w v q) (hf : Ext w w') : RatIs w' v q := by
  obtain ⟨s, t, A, B, l, c, l', c', h1, h2, h3⟩ := h
  exact ⟨s, t, A, B, l, c, l', c', h1, h2.ext hf, h3.ext hf⟩
theorem RatIs.other {t : TypeId} {w w' : World} {r : Nat} {v : Value} {q : Rat} {cs : Array Value} (h : RatIs w v q) (hB : Blk t w r cs) (hc : NoWords cs) (hF : Fr (fun i => i = r) w w') : RatIs w' v q := by
  obtain ⟨s, t, A, B, l, c, l', c', h1, h2, h3⟩ := h
  exact ⟨s, t, A, B, l, c, l', c', h1, h2.other hB hc hF, h3.other hB hc hF⟩
theorem IntIs.zero (w : World) : IntIs w (.agg #[.bool false, .slice none 0 0]) 0 := ⟨false, _, 0, rfl, NatIs.zero w, fun _ => rfl, rfl⟩
theorem RatIs.zero (w : World) : RatIs w (.agg #[.bool false, .slice none 0 0, .bool false, .slice none 0 0]) 0 := ⟨_, _, _, _, _, _, _, _, rfl, IntIs.zero w, IntIs.zero w⟩

/-- the number that a text in canonical form denotes -/
def readF (l : List UInt8) : Option Rat :=
  match splitF l with
  | (_, _, _, false) => none
  | (neg, num, den, true) =>
    if den = [] then some ((sg neg (decVal num) : Int) : Rat)
    else if Nat.gcd (decVal num) (decVal den) = 1 then some (mkRat (sg neg (decVal num)) (decVal den)) else none
def RetRead (w : World) (l : List UInt8) (e : Ending) (w' : World) : Prop :=
  ∃ v ok, e = .returned (.tuple #[v, .bool ok]) ∧ Ext w w' ∧ ((ok = true ∧ ∃ q, readF l = some q ∧ RatIs w' v q) ∨ (ok = false ∧ readF l = none ∧ RatIs w' v 0))

theorem all_takeWhile {p : UInt8 → Bool} (l : List UInt8) : (l.takeWhile p).all p = true := by
  induction l with
  | nil => rfl
  | cons x l ih =>
    rw [List.takeWhile_cons]
    split
    · rename_i h; simp [h]
    · rfl
/-- what split says of a text that it accepts -/
theorem splitF_digits {l num den : List UInt8} {neg ok : Bool} (h : splitF l = (neg, num, den, ok)) : num.all isDig = true ∧ den.all isDig = true ∧ num.length + den.length ≤ l.length := by
  have hle : (unsign l).2.length ≤ l.length := by unfold unsign; split <;> simp
  have hsum : ((unsign l).2.takeWhile isDig).length + ((unsign l).2.dropWhile isDig).length = (unsign l).2.length := by
    rw [← List.length_append, List.takeWhile_append_dropWhile]
  have hden := (List.takeWhile_sublist isDig (l := ((unsign l).2.dropWhile isDig).tail)).length_le
  have htl : ((unsign l).2.dropWhile isDig).tail.length ≤ ((unsign l).2.dropWhile isDig).length := by simp
  unfold splitF at h
  simp only [] at h
  split at h
  · injection h with _ h; injection h with h1 h; injection h with h2 _; subst h1 h2
    exact ⟨all_takeWhile _, rfl, by simp; omega⟩
  split at h
  · injection h with _ h; injection h with h1 h; injection h with h2 _; subst h1 h2
    exact ⟨all_takeWhile _, rfl, by simp; omega⟩
  split at h
  · injection h with _ h; injection h with h1 h; injection h with h2 _; subst h1 h2
    exact ⟨all_takeWhile _, rfl, by simp; omega⟩
  split at h
  · injection h with _ h; injection h with h1 h; injection h with h2 _; subst h1 h2
    exact ⟨all_takeWhile _, rfl, by simp; omega⟩
  · injection h with _ h; injection h with h1 h; injection h with h2 _; subst h1 h2
    exact ⟨all_takeWhile _, all_takeWhile _, by omega⟩
/-- the denominator of an accepted text is at least 2, or there is none; the number 0 has no sign -/
theorem decVal_pos {l : List UInt8} (hd : l.all isDig = true) (h0 : l ≠ []) (h48 : l.head? ≠ some 48) : 1 ≤ decVal l ∧ (2 ≤ decVal l ∨ l = [49]) := by
  cases l with
  | nil => exact absurd rfl h0
  | cons c l =>
    rw [List.all_cons, Bool.and_eq_true] at hd
    have h1 := isDig_le hd.1
    have h2 : c.toNat ≠ 48 := fun e => h48 (by simp; exact UInt8.toNat.inj e)
    rw [decVal_cons]
    have hp : 1 ≤ 10 ^ l.length := Nat.pow_pos (by omega)
    have h3 : 1 * 10 ^ l.length ≤ (c.toNat - 48) * 10 ^ l.length := Nat.mul_le_mul_right _ (by omega)
    refine ⟨by omega, ?_⟩
    cases l with
    | nil =>
      by_cases e : c.toNat = 49
      · right; rw [UInt8.toNat.inj (a := c) (b := 49) e]
      · left; simp [decVal]; omega
    | cons d l =>
      left
      rw [List.length_cons, Nat.pow_succ] at h3 ⊢
      have hp : 1 ≤ 10 ^ l.length := Nat.pow_pos (by omega)
      omega
theorem splitF_den {l num den : List UInt8} {neg : Bool} (h : splitF l = (neg, num, den, true)) : (den ≠ [] → 2 ≤ decVal den) ∧ (decVal num = 0 → neg = false ∧ den = []) := by
  have hdg := splitF_digits h
  unfold splitF at h
  simp only [] at h
  split at h
  · rename_i h48
    injection h with h0 h; injection h with h1 h; injection h with h2 h3; subst h0 h1 h2
    simp at h3
    exact ⟨fun h => absurd rfl h, fun _ => ⟨h3.1, rfl⟩⟩
  rename_i n48
  split at h
  · injection h with _ h; injection h with h1 h; injection h with h2 h3; cases h3
  rename_i hn
  have hpos : decVal ((unsign l).2.takeWhile isDig) ≠ 0 := by
    have := (decVal_pos (all_takeWhile (p := isDig) (unsign l).2) (fun e => hn (Or.inl e)) (fun e => hn (Or.inr e))).1
    omega
  split at h
  · injection h with _ h; injection h with h1 h; injection h with h2 _; subst h1 h2
    exact ⟨fun h => absurd rfl h, fun e => absurd e hpos⟩
  split at h
  · injection h with _ h; injection h with h1 h; injection h with h2 h3; cases h3
  · injection h with _ h; injection h with h1 h; injection h with h2 h3; subst h1
    rw [h2] at h3
    simp at h3
    refine ⟨fun hne => ?_, fun e => absurd e hpos⟩
    rcases (decVal_pos hdg.2.1 hne h3.1.2).2 with h | h
    · exact h
    · exact absurd h h3.2
end Go.Proofs.YtndafmjcelgnbaaGreatDoor
