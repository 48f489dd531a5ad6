/-
  slices.Clone at words; subtractWords, fromWord.
-/
import Derived.Test.YtndafmjcelgnbaaGreatDoorNat
import Derived.Test.YtndafmjcelgnbaaGreatDoorAppend
import Derived.Lib.SliceRun
namespace Go.Proofs.YtndafmjcelgnbaaGreatDoor
open Go.RowKit

theorem eqlNil (w : World) (a : Option Addr) (n c : Nat) : (binOp .eql 65 (.slice a n c) (.slice none 0 0)).run Tryz.prog w = .ok (.bool a.isNone) w :=
  Lib.run_eql_slice_nil w 65 69 a n c 0 0 Tryz.underlying65

/-- A copy of the numbers xs in a block of its own. -/
def CloneRet (w : World) (xs : List Nat) (e : Ending) (w' : World) : Prop :=
  ∃ A cap, e = .returned (.slice A xs.length cap) ∧ Buf .u64 69 w' A cap xs ∧ Ext w w' ∧ ∀ b, AtBlock A b → w.heap.size ≤ b

set_option maxHeartbeats 1000000 in
set_option maxRecDepth 100000 in
theorem clone_any (A : Option Addr) (xs : List Nat) (n c : Nat) (w : World) (hn : xs.length = n) (hX : Shows .u64 w A xs) (hl : n ≤ 4294967296) :
    Calls Tryz.prog 151 #[.slice A n c] w (CloneRet w xs) := by
  have HX := Lib.hid hX
  have HN := Lib.hid hn
  clear hX hn
  have hnil := eqlNil
  cases A with
  | none =>
    have h0 : Hid (xs = []) := by
      rcases xs with _ | ⟨y, ys⟩
      · rfl
      · obtain ⟨b, off, h, _⟩ := HX.out (by simp); cases h
    go_enter Tryz.func151, Tryz.ntmps151
    go_wp2
    go_ret
    rw [h0.out]
    exact ⟨none, 0, rfl, Buf.nil, Fr.refl _ _, fun b hb => by obtain ⟨a, ha, _⟩ := hb; cases ha⟩
  | some ad =>
    go_enter Tryz.func151, Tryz.ntmps151
    go_wp2_with (at_builtin
                 refine wpList_append_words rfl _ _ _ rfl _ .u64 8 Tryz.underlying65 info64 (some ⟨w.heap.size, 0, none⟩) (some ad) 0 n 0 c rfl rfl [] xs rfl HN.out ?_ (HX.out.alloc _) (by simp only [maxLen]; omega) (by omega) ?_
                 · exact Or.inr ⟨_, rfl, Own.new w _ _ [] [], ⟨#[], heap_alloc_new w _, rfl⟩, Nat.le_refl _, by simp only [maxLen]; omega⟩
                 intro A1 cap1 w1 hB1 hF1 hA1
                 have HB1 := Lib.hid hB1
                 have HF1 := Lib.hid hF1
                 have HA1 := Lib.hid hA1
                 clear hB1 hF1 hA1)
    go_ret
    refine ⟨A1, cap1, ?_, by simpa using HB1.out, ?_, ?_⟩
    · rw [HN.out]; simp
    · refine ((Fr.refl (fun _ => False) w).alloc _).next HF1.out (fun i hi hb => ?_)
      obtain ⟨a, ha, hb⟩ := hb
      injection ha with ha
      subst ha
      simp at hb; omega
    · intro b hb
      rcases HA1.out b hb with ⟨a, ha, h⟩ | h
      · injection ha with ha; subst ha; simp at h; omega
      · simp at h; omega

set_option maxHeartbeats 1000000 in
set_option maxRecDepth 100000 in
theorem subtractWords_core (A A2 : Option Addr) (xs ys : List Nat) (c c2 : Nat) (w : World) (hX : Shows .u64 w A xs) (hY : Shows .u64 w A2 ys) (hc : xs.length ≤ c) (hl : xs.length ≤ 4294967296) (hxy : ys.length ≤ xs.length)
    (hx : Dig W64 xs) (hy : Dig W64 ys) (tx : Trim xs) (hle : val W64 ys ≤ val W64 xs) :
    Calls Tryz.prog 109 #[.slice A xs.length c, .slice A2 ys.length c2] w (RetNat w (val W64 xs - val W64 ys)) := by
  have HX := Lib.hid hX
  have HY := Lib.hid hY
  have Hx := Lib.hid hx
  have Hy := Lib.hid hy
  have Tx := Lib.hid tx
  have HL := Lib.hid hle
  clear hX hY hx hy tx hle
  by_cases h0 : ys.length = 0
  · obtain rfl : ys = [] := List.length_eq_zero_iff.1 h0
    clear h0 Hy HY hxy
    go_enter Tryz.func109, Tryz.ntmps109
    go_wp2
    go_ret
    exact ⟨_, rfl, ⟨A, xs, c, rfl, hc, HX.out, Hx.out, Tx.out, by simp⟩, Fr.refl _ _⟩
  · have h0' : (((ys.length : Nat) : Int) == 0) = false := by simp; intro e; simp [e] at h0
    go_enter Tryz.func109, Tryz.ntmps109
    go_wp2_with fail
    refine (clone_any A xs _ c w rfl HX.out hl).mono ?_
    rintro e w1 ⟨A1, cap1, rfl, hB1, hF1, hA1⟩
    have hne : xs ≠ [] := by rintro rfl; simp at hxy; exact h0 (by simp [hxy])
    rcases hB1 with ⟨_, h, _⟩ | ⟨b, rfl, hO1, hC1, hcap1, hcm1⟩
    · exact absurd h hne
    have hb1 : w.heap.size ≤ b := hA1 b ⟨_, rfl, rfl⟩
    have HO1 : Hid (Own .u64 69 w1 b ([] ++ xs ++ [])) := by simpa [Hid] using hO1
    have HF1 := Lib.hid hF1
    clear hO1 hF1 hA1 hC1 hcm1
    go_wp2_with fail
    have hA2 : Hid (∀ a, A2 = some a → a.block ≠ b) := by
      intro a ha
      obtain ⟨b', off', e', hb', _⟩ := HY.out (by intro e; simp [e] at h0)
      rw [e'] at ha; injection ha with ha; subst ha
      show b' ≠ b
      omega
    refine (subtractFrom_any b _ _ _ _ _ [] xs [] ys A2 w1 rfl rfl rfl HO1.out (HY.out.ext HF1.out) hA2.out hxy (by omega) Hx.out Hy.out HL.out).mono ?_
    rintro e w2 ⟨rfl, hM⟩
    have HM := Lib.hid hM
    clear hM
    go_wp2_with fail
    obtain ⟨hF2, _, m, hO2, hml, hdm, hdiff⟩ := HM.out
    have hO2' : Own .u64 69 w2 b m := by simpa using hO2
    have HF2 : Hid (Ext w w2) := HF1.out.next hF2 (fun i hi e => by omega)
    refine (trim_any _ m _ _ w2 hml hO2'.shows0 (by omega) (by omega)).mono ?_
    rintro e w3 ⟨rfl, rfl⟩
    have HN := Lib.hid (NatIs.of_own (c := cap1) hO2' hdm (by omega))
    have hd : val W64 m = val W64 xs - val W64 ys := by unfold DiffOf at hdiff; omega
    rw [hd] at HN
    clear HM hF2 hO2 hdm hdiff hO2' hd hml
    go_wp2
    go_ret
    exact ⟨_, rfl, HN.out, HF2.out⟩

theorem subtractWords_any (xv yv : Value) (x y : Nat) (w : World) (hX : NatIs w xv x) (hY : NatIs w yv y) (hx : wl x ≤ 4294967296) (hle : y ≤ x) : Calls Tryz.prog 109 #[xv, yv] w (RetNat w (x - y)) := by
  obtain ⟨A, xs, c, rfl, hc, h1, h2, h3, rfl⟩ := hX
  obtain ⟨A2, ys, c2, rfl, hc2, k1, k2, k3, rfl⟩ := hY
  have hy := wl_mono hle
  rw [← wl_len h2 h3] at hx
  rw [← wl_len k2 k3, ← wl_len h2 h3] at hy
  exact subtractWords_core A A2 xs ys c c2 w h1 k1 hc hx hy h2 k2 h3 hle

/-- a number of one word in a new block -/
theorem NatIs.one (w : World) {x : Nat} (h0 : x ≠ 0) (hx : x < W64) : NatIs (w.alloc (.cells #[.int .u64 (x : Int)] 69)) (.slice (some ⟨w.heap.size, 0, none⟩) 1 1) x := by
  have hO : Own .u64 69 (w.alloc (.cells #[.int .u64 (x : Int)] 69)) w.heap.size [x] := Own.new w _ _ [x] []
  refine ⟨_, [x], 1, rfl, Nat.le_refl _, hO.shows0, Dig.nil.cons hx, ?_, by simp⟩
  intro k hk
  simp at hk
  subst hk
  simpa using h0
set_option maxHeartbeats 400000 in
theorem fromWord_any (x : Nat) (w : World) (hx : x < W64) : Calls Tryz.prog 103 #[.int .u64 (x : Int)] w (RetNat w x) := by
  have HX := Lib.hid hx
  clear hx
  by_cases h0 : x = 0
  · subst h0
    go_enter Tryz.func103, Tryz.ntmps103
    go_wp2
    go_ret
    exact ⟨_, rfl, NatIs.zero _, Fr.refl _ _⟩
  · have h0' : (((x : Nat) : Int) == 0) = false := by simp; omega
    go_enter Tryz.func103, Tryz.ntmps103
    go_wp2
    go_ret
    exact ⟨_, rfl, NatIs.one w h0 HX.out, (Fr.refl _ _).alloc _⟩
end Go.Proofs.YtndafmjcelgnbaaGreatDoor
