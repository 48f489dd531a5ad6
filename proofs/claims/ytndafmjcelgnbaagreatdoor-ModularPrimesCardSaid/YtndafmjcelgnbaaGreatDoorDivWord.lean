/-
  remainderWord, divideWord: division by one word.
-/
import Derived.Test.YtndafmjcelgnbaaGreatDoorDiv64
import Derived.Test.YtndafmjcelgnbaaGreatDoorMul
namespace Go.Proofs.YtndafmjcelgnbaaGreatDoor
open Go.RowKit

/-- the words from place k on, divided by u, leave r -/
def RemRel (xs : List Nat) (u k r : Nat) : Prop := r < u ∧ ∃ Q, val W64 (xs.drop k) = Q * u + r
theorem RemRel.start (xs : List Nat) {u : Nat} (hu : 0 < u) : RemRel xs u xs.length 0 := ⟨hu, 0, by rw [List.drop_of_length_le (Nat.le_refl _)]; simp⟩
theorem RemRel.step {xs : List Nat} {u k r x : Nat} (h : RemRel xs u (k + 1) r) (hk : k < xs.length) (hx : xs[k]?.getD 0 = x) : RemRel xs u k (divR r x u) := by
  obtain ⟨h1, Q, h2⟩ := h
  refine ⟨divR_lt _ _ (by omega), divQ r x u + W64 * Q, ?_⟩
  rw [val_getD_drop k hk, hx]
  exact step_div W64 _ _ _ _ _ _ _ h2 (div_spec r x u).symm
theorem RemRel.done {xs : List Nat} {u r : Nat} (h : RemRel xs u 0 r) : val W64 xs % u = r := by
  obtain ⟨h1, Q, h2⟩ := h
  rw [List.drop_zero] at h2
  rw [h2, Nat.mul_comm, Nat.mul_add_mod, Nat.mod_eq_of_lt h1]

set_option maxHeartbeats 1000000 in
set_option maxRecDepth 100000 in
theorem remainderWord_any (A : Option Addr) (xs : List Nat) (n c u : Nat) (w : World) (hn : xs.length = n) (hX : Shows .u64 w A xs) (hl : xs.length ≤ 1099511627776) (hd : Dig W64 xs) (hu : 0 < u) (huW : u < W64) :
    Calls Tryz.prog 104 #[.slice A n c, .int .u64 (u : Int)] w fun e w' => e = .returned (.int .u64 ((val W64 xs % u : Nat) : Int)) ∧ ∃ n, w' = w.drewN n := by
  subst hn
  have HX := Lib.hid hX
  have Hd := Lib.hid hd
  have HU := Lib.hid huW
  obtain ⟨res, hres⟩ : ∃ res, val W64 xs % u = res := ⟨_, rfl⟩
  rw [hres]
  have HRes := Lib.hid hres
  clear hX hd huW hres
  go_enter Tryz.func104, Tryz.ntmps104
  go_wp2
  go_loopw [5, 6] (fun rv i wr => ∃ k r q : Nat, k ≤ xs.length ∧ i = .int .i64 ((k : Int) - 1) ∧ rv = .int .u64 (r : Int) ∧ Hid (RemRel xs u k r) ∧ Hid (wr = w.drewN q)) (fun _ i _ => (intOf i + 1).toNat)
  case atStart => exact ⟨xs.length, 0, 0, Nat.le_refl _, rfl, rfl, RemRel.start xs hu, rfl⟩
  case round =>
    obtain ⟨k, r, q, hk, rfl, rfl, hR, hW⟩ := hrel
    obtain rfl := hW.out
    clear hW
    by_cases hlt : 0 < k
    · obtain ⟨j, rfl⟩ : ∃ j, k = j + 1 := ⟨k - 1, by omega⟩
      have ej : (((j + 1 : Nat) : Int) - 1) = (j : Int) := by omega
      rw [ej]
      clear ej
      obtain ⟨b, off, rfl, _, hcx⟩ := HX.out.at (i := j) (by omega)
      obtain ⟨x, ex⟩ : ∃ x, xs[j]?.getD 0 = x := ⟨_, rfl⟩
      rw [ex] at hcx
      have HR2 := Lib.hid (hR.out.step (by omega) ex)
      have hxW : Hid (x < W64) := ex ▸ Hd.out.getD W64_pos j
      clear ex
      go_wp2_with (go_at_call 146; refine (div64_any _ _ _ _ hR.out.1 HU.out hxW.out).mono ?_; rintro e w' ⟨rfl, n1, rfl⟩)
      go_roundw
      case rel => exact ⟨j, _, _, by omega, rfl, rfl, HR2, rfl⟩
      case measure => simp [intOf]
    · obtain rfl : k = 0 := by omega
      have HD := Lib.hid hR.out.done
      rw [HRes.out] at HD
      go_wp2
      go_ret
      exact ⟨by rw [HD.out]; rfl, _, rfl⟩

/-- the words from place k on, divided by u, give the words qs from k on, and leave r -/
def QuoRel (xs : List Nat) (u k : Nat) (qs : List Nat) (r : Nat) : Prop := qs.length = xs.length ∧ Dig W64 qs ∧ r < u ∧ val W64 (xs.drop k) = val W64 (qs.drop k) * u + r
theorem QuoRel.start (xs : List Nat) {u : Nat} (hu : 0 < u) : QuoRel xs u xs.length (List.replicate xs.length 0) 0 := by
  refine ⟨by simp, Dig.replicate W64_pos _, hu, ?_⟩
  rw [List.drop_of_length_le (Nat.le_refl _), List.drop_of_length_le (by simp)]; simp
theorem QuoRel.step {xs qs : List Nat} {u k r x : Nat} (h : QuoRel xs u (k + 1) qs r) (hk : k < xs.length) (hx : xs[k]?.getD 0 = x) (hxW : x < W64) : QuoRel xs u k (qs.set k (divQ r x u)) (divR r x u) := by
  obtain ⟨h1, h2, h3, h4⟩ := h
  refine ⟨by simpa using h1, h2.set k (divQ_lt h3 hxW), divR_lt _ _ (by omega), ?_⟩
  rw [val_getD_drop k hk, hx, val_getD_drop (xs := qs.set k _) k (by simp; omega), List.drop_set_of_lt (by omega)]
  have : (qs.set k (divQ r x u))[k]?.getD 0 = divQ r x u := by simp [h1, hk]
  rw [this]
  exact step_div W64 _ _ _ _ _ _ _ h4 (div_spec r x u).symm
theorem QuoRel.done {xs qs : List Nat} {u r : Nat} (h : QuoRel xs u 0 qs r) : val W64 qs = val W64 xs / u ∧ r = val W64 xs % u := by
  obtain ⟨h1, h2, h3, h4⟩ := h
  rw [List.drop_zero, List.drop_zero] at h4
  rw [h4, Nat.mul_comm, Nat.mul_add_div (by omega), Nat.mul_add_mod, Nat.mod_eq_of_lt h3, Nat.div_eq_of_lt h3]
  exact ⟨rfl, rfl⟩
/-- two results: a slice with the number q, and the word r -/
def RetNatWord (w : World) (q r : Nat) (e : Ending) (w' : World) : Prop := ∃ v, e = .returned (.tuple #[v, .int .u64 (r : Int)]) ∧ NatIs w' v q ∧ Ext w w'

set_option maxHeartbeats 1000000 in
set_option maxRecDepth 100000 in
theorem divideWord_any (A : Option Addr) (xs : List Nat) (n c u : Nat) (w : World) (hn : xs.length = n) (hX : Shows .u64 w A xs) (hl : xs.length ≤ 4294967296) (hd : Dig W64 xs) (hu : 0 < u) (huW : u < W64) :
    Calls Tryz.prog 204 #[.slice A n c, .int .u64 (u : Int)] w (RetNatWord w (val W64 xs / u) (val W64 xs % u)) := by
  subst hn
  have HX := Lib.hid hX
  have Hd := Lib.hid hd
  have HU := Lib.hid huW
  clear hX hd huW
  go_enter Tryz.func204, Tryz.ntmps204
  go_wp2_with (at_make
               refine wpList_make_words rfl _ _ _ rfl _ _ _ Tryz.underlying65 info64 _ _ _ _ xs.length rfl rfl (by omega) (by omega) (by omega) (by omega) ?_
               intro b w1 hb hO1 _ hF1 hs1
               have HO1 := Lib.hid hO1
               have HF1 := Lib.hid hF1
               have Hb := Lib.hid hb
               clear hO1 hF1 hb hs1)
  go_loopw [7, 8] (fun rv i wr => ∃ (k r : Nat) (qs : List Nat), k ≤ xs.length ∧ i = .int .i64 ((k : Int) - 1) ∧ rv = .int .u64 (r : Int) ∧ Hid (QuoRel xs u k qs r) ∧ Hid (Own .u64 69 wr b qs) ∧ Hid (Ext w wr)) (fun _ i _ => (intOf i + 1).toNat)
  case atStart => exact ⟨xs.length, 0, _, Nat.le_refl _, rfl, rfl, QuoRel.start xs hu, HO1.out, HF1.out⟩
  case round =>
    obtain ⟨k, r, qs, hk, rfl, rfl, hR, hO2, hF2⟩ := hrel
    by_cases hlt : 0 < k
    · obtain ⟨j, rfl⟩ : ∃ j, k = j + 1 := ⟨k - 1, by omega⟩
      have ej : (((j + 1 : Nat) : Int) - 1) = (j : Int) := by omega
      rw [ej]
      clear ej
      obtain ⟨b2, off2, rfl, _, hcx⟩ := (HX.out.ext hF2.out).at (i := j) (by omega)
      obtain ⟨x, ex⟩ : ∃ x, xs[j]?.getD 0 = x := ⟨_, rfl⟩
      rw [ex] at hcx
      have hxW : Hid (x < W64) := ex ▸ Hd.out.getD W64_pos j
      have HR2 := Lib.hid (hR.out.step (by omega) ex hxW.out)
      clear ex
      have hql := hR.out.1
      have hjl : j < qs.length := by omega
      have hcz := hO2.out.cell hjl
      have hfz := hO2.out.frozen j
      obtain ⟨z, ez⟩ : ∃ z, qs[j]?.getD 0 = z := ⟨_, rfl⟩
      rw [ez] at hcz
      have HO3 := Lib.hid (fun v => hO2.out.set j v hjl)
      clear ez hql
      go_wp2_with (go_at_call 146; refine (div64_any _ _ _ _ hR.out.2.2.1 HU.out hxW.out).mono ?_; rintro e w' ⟨rfl, n1, rfl⟩)
      go_roundw
      case rel => exact ⟨j, _, _, by omega, rfl, rfl, HR2, HO3.out _, (hF2.out.setCell (p := ⟨b, j, none⟩) (Or.inr (by have := Hb.out; show w.heap.size ≤ b; omega)) _).drewN _⟩
      case measure => simp [intOf]
    · obtain rfl : k = 0 := by omega
      have hD := hR.out.done
      have hz := hR.out.1
      have HT := Lib.hid (trim_any _ qs xs.length xs.length wr hz hO2.out.shows0 (by omega) (by omega))
      have HN := Lib.hid (NatIs.of_own (c := xs.length) hO2.out hR.out.2.1 (by omega))
      rw [hD.1] at HN
      have Hr := Lib.hid hD.2
      clear hz hD
      go_wp2_with fail
      refine HT.out.mono ?_
      rintro e w2 ⟨rfl, rfl⟩
      clear HT
      go_wp2
      go_ret2
      exact ⟨_, by rw [← Hr.out]; rfl, HN.out, hF2.out⟩
end Go.Proofs.YtndafmjcelgnbaaGreatDoor
