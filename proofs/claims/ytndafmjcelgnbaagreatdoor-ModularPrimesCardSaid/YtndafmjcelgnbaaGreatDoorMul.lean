/-
  multiplyWords, where the shorter number has fewer than 40 words.
-/
import Derived.Test.YtndafmjcelgnbaaGreatDoorMulWords
namespace Go.Proofs.YtndafmjcelgnbaaGreatDoor
open Go.RowKit

theorem split3 (zs : List Nat) (k n : Nat) : zs.take k ++ (zs.drop k).take n ++ zs.drop (k + n) = zs := by
  rw [List.append_assoc, ← List.drop_drop, List.take_append_drop, List.take_append_drop]

/-- after k rounds of the school method -/
def SchoolRel (xs ys : List Nat) (k : Nat) (zs : List Nat) : Prop :=
  zs.length = xs.length + ys.length ∧ Dig W64 zs ∧ val W64 (zs.take (k + xs.length)) = val W64 xs * val W64 (ys.take k)
theorem SchoolRel.start (xs ys : List Nat) : SchoolRel xs ys 0 (List.replicate (xs.length + ys.length) 0) := by
  refine ⟨by simp, Dig.replicate W64_pos _, ?_⟩
  rw [List.take_replicate, val_replicate]; simp
theorem SchoolRel.step {xs ys zs m : List Nat} {k y cc : Nat} (h : SchoolRel xs ys k zs) (hk : k < ys.length) (hy : ys[k]?.getD 0 = y) (hm : m.length = xs.length) (hd : Dig W64 m) (hc : cc < W64)
    (hq : MacOf ((zs.drop k).take xs.length) xs y cc m) : SchoolRel xs ys (k + 1) ((zs.take k ++ m ++ zs.drop (k + xs.length)).set (k + xs.length) cc) := by
  obtain ⟨h1, h2, h3⟩ := h
  have hl : (zs.take k ++ m).length = k + xs.length := by simp [hm]; omega
  refine ⟨by simp [hm]; omega, Dig.set (((h2.take k).append hd).append (h2.drop _)) _ hc, ?_⟩
  have e1 : ((zs.take k ++ m ++ zs.drop (k + xs.length)).set (k + xs.length) cc).take (k + 1 + xs.length) = zs.take k ++ m ++ [cc] := by
    rw [List.set_append_right _ _ (by omega), hl, Nat.sub_self, List.take_append, hl, List.take_of_length_le (by omega)]
    congr 1
    have : k + 1 + xs.length - (k + xs.length) = 1 := by omega
    rw [this]
    have hne : 0 < (zs.drop (k + xs.length)).length := by simp; omega
    cases hz : zs.drop (k + xs.length) with
    | nil => rw [hz] at hne; simp at hne
    | cons a l => simp
  rw [e1, val_append, hl, val_append, val_take_succ k hk, hy]
  have hlk : (zs.take k).length = k := by simp; omega
  have e2 : val W64 (zs.take (k + xs.length)) = val W64 (zs.take k) + W64 ^ k * val W64 ((zs.drop k).take xs.length) := by
    have : zs.take (k + xs.length) = zs.take k ++ (zs.drop k).take xs.length := by rw [List.take_add]
    rw [this, val_append, hlk]
  unfold MacOf at hq
  have hml : ((zs.drop k).take xs.length).length = xs.length := by simp; omega
  rw [hml] at hq
  rw [hlk, Nat.pow_add, Nat.mul_add, ← h3, e2]
  simp only [val_cons, val_nil, Nat.mul_zero, Nat.add_zero]
  have e3 := congrArg (W64 ^ k * ·) hq
  simp only [Nat.mul_add] at e3
  have e4 : W64 ^ k * W64 ^ xs.length * cc = W64 ^ k * (W64 ^ xs.length * cc) := Nat.mul_assoc _ _ _
  have e5 : val W64 xs * (W64 ^ k * y) = W64 ^ k * (val W64 xs * y) := Nat.mul_left_comm _ _ _
  omega
theorem SchoolRel.done {xs ys zs : List Nat} (h : SchoolRel xs ys ys.length zs) : val W64 zs = val W64 xs * val W64 ys := by
  obtain ⟨h1, h2, h3⟩ := h
  rw [List.take_of_length_le (by omega), List.take_of_length_le (by omega)] at h3
  exact h3

set_option maxHeartbeats 1000000 in
set_option maxRecDepth 100000 in
theorem multiplyWords_core (A A2 : Option Addr) (xs ys : List Nat) (c c2 : Nat) (w : World) (hX : Shows .u64 w A xs) (hY : Shows .u64 w A2 ys) (hc : xs.length ≤ c) (hl : xs.length ≤ 4294967296) (hxy : ys.length ≤ xs.length) (h40 : ys.length < 40)
    (hx : Dig W64 xs) (hy : Dig W64 ys) (tx : Trim xs) :
    Calls Tryz.prog 110 #[.slice A xs.length c, .slice A2 ys.length c2] w (RetNat w (val W64 xs * val W64 ys)) := by
  have HX := Lib.hid hX
  have HY := Lib.hid hY
  have Hx := Lib.hid hx
  have Hy := Lib.hid hy
  have Tx := Lib.hid tx
  clear hX hY hx hy tx
  by_cases h0 : ys.length = 0
  · obtain rfl : ys = [] := List.length_eq_zero_iff.1 h0
    clear h0 Hy HY hxy h40
    go_enter Tryz.func110, Tryz.ntmps110
    go_wp2
    go_ret
    exact ⟨_, rfl, by simpa using NatIs.zero w, Fr.refl _ _⟩
  have h0' : (((ys.length : Nat) : Int) == 0) = false := by simp; intro e; simp [e] at h0
  by_cases h1 : ys = [1]
  · subst h1
    obtain ⟨b2, off2, rfl, hb2, hcy⟩ := HY.out.at (i := 0) (by simp)
    have hcy' : w.cell? ⟨b2, off2, none⟩ = some (.int .u64 1) := by simpa using hcy
    have hxy' : 1 ≤ xs.length := by simpa using hxy
    clear h0 Hy HY hxy h40 hcy h0'
    go_enter Tryz.func110, Tryz.ntmps110
    go_wp2
    go_ret
    exact ⟨_, rfl, ⟨A, xs, c, rfl, hc, HX.out, Hx.out, Tx.out, by simp⟩, Fr.refl _ _⟩
  · have hone : Hid (ys.length = 1 → ys[0]?.getD 0 ≠ 1) := by
      intro e1 e2
      obtain ⟨y, rfl⟩ := List.length_eq_one_iff.1 e1
      simp at e2; exact h1 (by rw [e2])
    clear h1
    obtain ⟨y0, ey0⟩ : ∃ y0, ys[0]?.getD 0 = y0 := ⟨_, rfl⟩
    obtain ⟨b2, off2, rfl, hb2, hcy⟩ := HY.out.at (i := 0) (by omega)
    rw [ey0] at hcy
    have hcy' : w.cell? ⟨b2, off2, none⟩ = some (.int .u64 (y0 : Nat)) := by simpa using hcy
    clear hcy
    have hcases : (((ys.length : Nat) : Int) == 1) = false ∨ ((((ys.length : Nat) : Int) == 1) = true ∧ (((y0 : Nat) : Int) == 1) = false) := by
      by_cases e1 : ys.length = 1
      · refine Or.inr ⟨by simp [e1], ?_⟩
        have := hone.out e1
        rw [ey0] at this
        simp; omega
      · refine Or.inl ?_
        simp; omega
    clear ey0 hone
    have hylen : 0 < ys.length := by omega
    clear h0
    rcases hcases with hc1 | ⟨hc1, hc2'⟩
    all_goals
      go_enter Tryz.func110, Tryz.ntmps110
      go_wp2_with (at_make
                   refine wpList_make_words rfl _ _ _ rfl _ _ _ Tryz.underlying65 info64 _ _ _ _ (xs.length + ys.length) rfl rfl (by omega) (by omega) (by omega) (by omega) ?_
                   intro b w1 hb hO1 _ hF1 hs1
                   have HO1 := Lib.hid hO1
                   have HF1 := Lib.hid hF1
                   have Hb := Lib.hid hb
                   clear hO1 hF1 hb hs1)
      go_loopw [55] (fun i wr => ∃ (k : Nat) (zs : List Nat), k ≤ ys.length ∧ i = .int .i64 k ∧ Hid (SchoolRel xs ys k zs) ∧ Hid (Own .u64 69 wr b zs) ∧ Hid (Ext w wr)) (fun i _ => ys.length - (intOf i).toNat)
      case atStart => exact ⟨0, _, by omega, rfl, SchoolRel.start _ _, HO1.out, HF1.out⟩
      case round =>
        obtain ⟨k, zs, hk, rfl, hR, hO2, hF2⟩ := hrel
        by_cases hlt : k < ys.length
        · obtain ⟨b3, off3, e3, hb3, hck⟩ := (HY.out.ext hF2.out).at hlt
          injection e3 with e3
          injection e3 with e31 e32
          subst e31 e32
          obtain ⟨y, ey⟩ : ∃ y, ys[k]?.getD 0 = y := ⟨_, rfl⟩
          rw [ey] at hck
          have EY := Lib.hid ey
          clear ey
          have hkk : k < xs.length + ys.length := by omega
          have hkx : k + xs.length ≤ xs.length + ys.length := by omega
          have HA : Hid (∀ a, A = some a → a.block ≠ b) := by
            intro a ha
            obtain ⟨b', off', e', hb', _⟩ := HX.out.at (i := 0) (by omega)
            rw [e'] at ha; injection ha with ha; subst ha
            have := Hb.out
            show b' ≠ b
            omega
          have hzl := hR.out.1
          have HO3 : Hid (Own .u64 69 wr b (zs.take k ++ (zs.drop k).take xs.length ++ zs.drop (k + xs.length))) := by rw [split3]; exact hO2.out
          have Hyd : Hid (y < W64) := EY.out ▸ Hy.out.getD W64_pos k
          have HM := Lib.hid (addProduct_any b (xs.length + ys.length - k) c k xs.length xs.length y (zs.take k) ((zs.drop k).take xs.length) (zs.drop (k + xs.length)) xs A wr (by simp; omega) (by simp; omega) rfl HO3.out (HX.out.ext hF2.out) HA.out (by simp; omega) (by simp; omega) ((hR.out.2.1.drop k).take _) Hx.out Hyd.out)
          clear hzl
          go_wp2_with fail
          refine HM.out.mono ?_
          rintro e w2 ⟨cc, rfl, hcc, hF3, _, m, hO4, hml, hdm, hq⟩
          have hml' : m.length = xs.length := by rw [hml]; simp; have := hR.out.1; omega
          have hzl := hR.out.1
          have hlen : k + xs.length < (zs.take k ++ m ++ zs.drop (k + xs.length)).length := by simp; omega
          have hcs := hO4.cell hlen
          have hfs := hO4.frozen (k + xs.length)
          obtain ⟨v0, hv0⟩ : ∃ v0, (zs.take k ++ m ++ zs.drop (k + xs.length))[k + xs.length]?.getD 0 = v0 := ⟨_, rfl⟩
          rw [hv0] at hcs
          have HR2 := Lib.hid (hR.out.step hlt EY.out hml' hdm hcc hq)
          have HO5 := Lib.hid (hO4.set (k + xs.length) cc hlen)
          have HF5 : Hid (Ext w w2) := hF2.out.next hF3 (fun i hi e => by have := Hb.out; omega)
          clear hcc hF3 hO4 hml hdm hq hv0 hzl hlen hml' HM HO3
          go_wp2
          go_roundw
          case rel => exact ⟨k + 1, _, by omega, by go_num, HR2, HO5.out, HF5.out.setCell (Or.inr (by have := Hb.out; show w.heap.size ≤ b; omega)) _⟩
          case measure => simp [intOf]; omega
        · obtain rfl : k = ys.length := by omega
          have hz := hR.out.1
          have HT := Lib.hid (trim_any _ zs (xs.length + ys.length) (xs.length + ys.length) wr hz hO2.out.shows0 (by omega) (by omega))
          have HN := Lib.hid (NatIs.of_own (c := xs.length + ys.length) hO2.out hR.out.2.1 (by omega))
          rw [hR.out.done] at HN
          clear hz
          go_wp2_with fail
          refine HT.out.mono ?_
          rintro e w2 ⟨rfl, rfl⟩
          clear HT
          go_wp2
          go_ret
          exact ⟨_, rfl, HN.out, hF2.out⟩
set_option maxHeartbeats 1000000 in
set_option maxRecDepth 100000 in
theorem multiplyWords_swap (A A2 : Option Addr) (xs ys : List Nat) (c c2 : Nat) (w : World) (hX : Shows .u64 w A xs) (hY : Shows .u64 w A2 ys) (hc : xs.length ≤ c) (hl : xs.length ≤ 4294967296) (hxy : ys.length < xs.length) (h40 : ys.length < 40)
    (hx : Dig W64 xs) (hy : Dig W64 ys) (tx : Trim xs) :
    Calls Tryz.prog 110 #[.slice A2 ys.length c2, .slice A xs.length c] w (RetNat w (val W64 xs * val W64 ys)) := by
  have HX := Lib.hid hX
  have HY := Lib.hid hY
  have Hx := Lib.hid hx
  have Hy := Lib.hid hy
  have Tx := Lib.hid tx
  clear hX hY hx hy tx
  by_cases h0 : ys.length = 0
  · obtain rfl : ys = [] := List.length_eq_zero_iff.1 h0
    clear h0 Hy HY h40
    simp only [List.length_nil] at hxy
    go_enter Tryz.func110, Tryz.ntmps110
    go_wp2
    go_ret
    exact ⟨_, rfl, by simpa using NatIs.zero w, Fr.refl _ _⟩
  have h0' : (((ys.length : Nat) : Int) == 0) = false := by simp; intro e; simp [e] at h0
  by_cases h1 : ys = [1]
  · subst h1
    obtain ⟨b2, off2, rfl, hb2, hcy⟩ := HY.out.at (i := 0) (by simp)
    have hcy' : w.cell? ⟨b2, off2, none⟩ = some (.int .u64 1) := by simpa using hcy
    have hxy' : 1 < xs.length := by simpa using hxy
    clear h0 Hy HY hxy h40 hcy h0'
    go_enter Tryz.func110, Tryz.ntmps110
    go_wp2
    go_ret
    exact ⟨_, rfl, ⟨A, xs, c, rfl, hc, HX.out, Hx.out, Tx.out, by simp⟩, Fr.refl _ _⟩
  · have hone : Hid (ys.length = 1 → ys[0]?.getD 0 ≠ 1) := by
      intro e1 e2
      obtain ⟨y, rfl⟩ := List.length_eq_one_iff.1 e1
      simp at e2; exact h1 (by rw [e2])
    clear h1
    obtain ⟨y0, ey0⟩ : ∃ y0, ys[0]?.getD 0 = y0 := ⟨_, rfl⟩
    obtain ⟨b2, off2, rfl, hb2, hcy⟩ := HY.out.at (i := 0) (by omega)
    rw [ey0] at hcy
    have hcy' : w.cell? ⟨b2, off2, none⟩ = some (.int .u64 (y0 : Nat)) := by simpa using hcy
    clear hcy
    have hcases : (((ys.length : Nat) : Int) == 1) = false ∨ ((((ys.length : Nat) : Int) == 1) = true ∧ (((y0 : Nat) : Int) == 1) = false) := by
      by_cases e1 : ys.length = 1
      · refine Or.inr ⟨by simp [e1], ?_⟩
        have := hone.out e1
        rw [ey0] at this
        simp; omega
      · refine Or.inl ?_
        simp; omega
    clear ey0 hone
    have hylen : 0 < ys.length := by omega
    clear h0
    rcases hcases with hc1 | ⟨hc1, hc2'⟩
    all_goals
      go_enter Tryz.func110, Tryz.ntmps110
      go_wp2_with (at_make
                   refine wpList_make_words rfl _ _ _ rfl _ _ _ Tryz.underlying65 info64 _ _ _ _ (xs.length + ys.length) rfl rfl (by omega) (by omega) (by omega) (by omega) ?_
                   intro b w1 hb hO1 _ hF1 hs1
                   have HO1 := Lib.hid hO1
                   have HF1 := Lib.hid hF1
                   have Hb := Lib.hid hb
                   clear hO1 hF1 hb hs1)
      go_loopw [55] (fun i wr => ∃ (k : Nat) (zs : List Nat), k ≤ ys.length ∧ i = .int .i64 k ∧ Hid (SchoolRel xs ys k zs) ∧ Hid (Own .u64 69 wr b zs) ∧ Hid (Ext w wr)) (fun i _ => ys.length - (intOf i).toNat)
      case atStart => exact ⟨0, _, by omega, rfl, SchoolRel.start _ _, HO1.out, HF1.out⟩
      case round =>
        obtain ⟨k, zs, hk, rfl, hR, hO2, hF2⟩ := hrel
        by_cases hlt : k < ys.length
        · obtain ⟨b3, off3, e3, hb3, hck⟩ := (HY.out.ext hF2.out).at hlt
          injection e3 with e3
          injection e3 with e31 e32
          subst e31 e32
          obtain ⟨y, ey⟩ : ∃ y, ys[k]?.getD 0 = y := ⟨_, rfl⟩
          rw [ey] at hck
          have EY := Lib.hid ey
          clear ey
          have hkk : k < xs.length + ys.length := by omega
          have hkx : k + xs.length ≤ xs.length + ys.length := by omega
          have HA : Hid (∀ a, A = some a → a.block ≠ b) := by
            intro a ha
            obtain ⟨b', off', e', hb', _⟩ := HX.out.at (i := 0) (by omega)
            rw [e'] at ha; injection ha with ha; subst ha
            have := Hb.out
            show b' ≠ b
            omega
          have hzl := hR.out.1
          have HO3 : Hid (Own .u64 69 wr b (zs.take k ++ (zs.drop k).take xs.length ++ zs.drop (k + xs.length))) := by rw [split3]; exact hO2.out
          have Hyd : Hid (y < W64) := EY.out ▸ Hy.out.getD W64_pos k
          have HM := Lib.hid (addProduct_any b (xs.length + ys.length - k) c k xs.length xs.length y (zs.take k) ((zs.drop k).take xs.length) (zs.drop (k + xs.length)) xs A wr (by simp; omega) (by simp; omega) rfl HO3.out (HX.out.ext hF2.out) HA.out (by simp; omega) (by simp; omega) ((hR.out.2.1.drop k).take _) Hx.out Hyd.out)
          clear hzl
          go_wp2_with fail
          refine HM.out.mono ?_
          rintro e w2 ⟨cc, rfl, hcc, hF3, _, m, hO4, hml, hdm, hq⟩
          have hml' : m.length = xs.length := by rw [hml]; simp; have := hR.out.1; omega
          have hzl := hR.out.1
          have hlen : k + xs.length < (zs.take k ++ m ++ zs.drop (k + xs.length)).length := by simp; omega
          have hcs := hO4.cell hlen
          have hfs := hO4.frozen (k + xs.length)
          obtain ⟨v0, hv0⟩ : ∃ v0, (zs.take k ++ m ++ zs.drop (k + xs.length))[k + xs.length]?.getD 0 = v0 := ⟨_, rfl⟩
          rw [hv0] at hcs
          have HR2 := Lib.hid (hR.out.step hlt EY.out hml' hdm hcc hq)
          have HO5 := Lib.hid (hO4.set (k + xs.length) cc hlen)
          have HF5 : Hid (Ext w w2) := hF2.out.next hF3 (fun i hi e => by have := Hb.out; omega)
          clear hcc hF3 hO4 hml hdm hq hv0 hzl hlen hml' HM HO3
          go_wp2
          go_roundw
          case rel => exact ⟨k + 1, _, by omega, by go_num, HR2, HO5.out, HF5.out.setCell (Or.inr (by have := Hb.out; show w.heap.size ≤ b; omega)) _⟩
          case measure => simp [intOf]; omega
        · obtain rfl : k = ys.length := by omega
          have hz := hR.out.1
          have HT := Lib.hid (trim_any _ zs (xs.length + ys.length) (xs.length + ys.length) wr hz hO2.out.shows0 (by omega) (by omega))
          have HN := Lib.hid (NatIs.of_own (c := xs.length + ys.length) hO2.out hR.out.2.1 (by omega))
          rw [hR.out.done] at HN
          clear hz
          go_wp2_with fail
          refine HT.out.mono ?_
          rintro e w2 ⟨rfl, rfl⟩
          clear HT
          go_wp2
          go_ret
          exact ⟨_, rfl, HN.out, hF2.out⟩

theorem multiplyWords_any (xv yv : Value) (x y : Nat) (w : World) (hX : NatIs w xv x) (hY : NatIs w yv y) (hx : wl x ≤ 4294967296) (hy : wl y ≤ 4294967296) (h40 : wl x < 40 ∨ wl y < 40) : Calls Tryz.prog 110 #[xv, yv] w (RetNat w (x * y)) := by
  obtain ⟨A, xs, c, rfl, hc, h1, h2, h3, rfl⟩ := hX
  obtain ⟨A2, ys, c2, rfl, hc2, k1, k2, k3, rfl⟩ := hY
  rw [← wl_len h2 h3] at hx h40
  rw [← wl_len k2 k3] at hy h40
  rcases Nat.lt_or_ge xs.length ys.length with hlt | hge
  · rw [Nat.mul_comm]
    exact multiplyWords_swap A2 A ys xs c2 c w k1 h1 hc2 hy hlt (by omega) k2 h2 k3
  · exact multiplyWords_core A A2 xs ys c c2 w h1 k1 hc hx hge (by omega) h2 k2 h3
end Go.Proofs.YtndafmjcelgnbaaGreatDoor
