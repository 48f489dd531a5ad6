/-
  Package integer: multiplyAdd, parseSimple, parseSplit, parseWords (the simple road), Parse.
-/
import Derived.Test.YtndafmjcelgnbaaGreatDoorSplit
import Derived.Lib.ConvBytes
import Derived.Deep.DeepCutAuto

namespace Go.Proofs.YtndafmjcelgnbaaGreatDoor
open Go.RowKit

/-- the number that decimal digits denote -/
def decVal (l : List UInt8) : Nat := l.foldl (fun n c => 10 * n + (c.toNat - 48)) 0
theorem decVal_snoc (l : List UInt8) (c : UInt8) : decVal (l ++ [c]) = 10 * decVal l + (c.toNat - 48) := by simp [decVal]
theorem decVal_append (a b : List UInt8) : decVal (a ++ b) = decVal a * 10 ^ b.length + decVal b := by
  have key : ∀ (b : List UInt8) (n : Nat), b.foldl (fun n c => 10 * n + (c.toNat - 48)) n = n * 10 ^ b.length + b.foldl (fun n c => 10 * n + (c.toNat - 48)) 0 := by
    intro b
    induction b with
    | nil => intro n; simp
    | cons c b ih =>
      intro n
      simp only [List.foldl_cons, List.length_cons]
      rw [ih, ih (10 * 0 + (c.toNat - 48)), Nat.pow_succ, Nat.mul_zero, Nat.zero_add, Nat.add_mul, Nat.add_assoc]
      congr 1
      rw [Nat.mul_comm (10 ^ b.length) 10, ← Nat.mul_assoc, Nat.mul_comm n 10]
  unfold decVal
  rw [List.foldl_append, key]
theorem isDig_le {c : UInt8} (h : isDig c = true) : 48 ≤ c.toNat ∧ c.toNat - 48 ≤ 9 := by
  unfold isDig at h
  simp at h
  omega
theorem decVal_cons (c : UInt8) (l : List UInt8) : decVal (c :: l) = (c.toNat - 48) * 10 ^ l.length + decVal l := by
  have := decVal_append [c] l
  simpa [decVal] using this
theorem decVal_lt : ∀ (l : List UInt8), l.all isDig = true → decVal l < 10 ^ l.length
  | [], _ => by simp [decVal]
  | c :: l, h => by
    rw [List.all_cons, Bool.and_eq_true] at h
    have h1 := decVal_lt l h.2
    have h2 := isDig_le h.1
    have h3 : (c.toNat - 48) * 10 ^ l.length ≤ 9 * 10 ^ l.length := Nat.mul_le_mul_right _ h2.2
    rw [decVal_cons, List.length_cons, Nat.pow_succ]
    omega

noncomputable def maLo (x y c : Nat) : Nat := addLo (mulLo x y) c 0
noncomputable def maHi (x y c : Nat) : Nat := mulHi x y + addHi (mulLo x y) c 0
theorem ma_spec (x y c : Nat) : maLo x y c + W64 * maHi x y c = x * y + c := by
  have h1 := mul_spec x y
  have h2 := add_spec (mulLo x y) c 0
  unfold maLo maHi
  rw [Nat.mul_add]
  omega
theorem maLo_lt (x y c : Nat) : maLo x y c < W64 := addLo_lt _ _ _
theorem maHi_lt {x y c : Nat} (hx : x < W64) (hy : y < W64) (hc : c < W64) : maHi x y c < W64 := by
  have h1 := ma_spec x y c
  have h2 := sq_bound hx hy
  exact lt_of_mul_lt _ (by omega)
set_option maxHeartbeats 1000000 in
theorem multiplyAdd_any (x y c : Nat) (w : World) (hx : x < W64) (hy : y < W64) (hc : c < W64) :
    Calls Tryz.prog 192 #[.int .u64 (x : Int), .int .u64 (y : Int), .int .u64 (c : Int)] w fun e w' => e = .returned (.tuple #[.int .u64 (maLo x y c : Int), .int .u64 (maHi x y c : Int)]) ∧ w = w' := by
  have HX := Lib.hid hx
  have HY := Lib.hid hy
  have HW : Hid (IntKind.u64.wrap ((mulHi x y : Int) + (addHi (mulLo x y) c 0 : Int)) = (maHi x y c : Int)) := by
    have h := maHi_lt hx hy hc
    unfold Hid maHi at *
    rw [← Int.natCast_add, wrapW _ h]
  clear hx hy hc
  have ha := run_Add64_c0
  go_enter Tryz.func192, Tryz.ntmps192
  go_wp2_with (go_at_call 178; refine (mul64_any _ _ HX.out HY.out _).mono ?_; rintro e w' ⟨rfl, rfl⟩)
  go_ret2
  exact ⟨by rw [← HW.out]; rfl, rfl⟩

/-- after k rounds of 'x = x * y + c' in place -/
def MaRel (xs : List Nat) (y q k : Nat) (m : List Nat) (c : Nat) : Prop :=
  m.length = xs.length ∧ m.drop k = xs.drop k ∧ Dig W64 m ∧ c < W64 ∧ val W64 (m.take k) + W64 ^ k * c = val W64 (xs.take k) * y + q
theorem MaRel.start {xs : List Nat} {y q : Nat} (h : Dig W64 xs) (hq : q < W64) : MaRel xs y q 0 xs q := ⟨rfl, rfl, h, hq, by simp⟩
theorem MaRel.at {xs m : List Nat} {y q k c : Nat} (h : MaRel xs y q k m c) : m[k]?.getD 0 = xs[k]?.getD 0 := by
  have := congrArg (fun l => l[0]?.getD 0) h.2.1
  simpa [List.getElem?_drop] using this
theorem MaRel.step {xs m : List Nat} {y q k c z : Nat} (h : MaRel xs y q k m c) (hk : k < xs.length) (hz : m[k]?.getD 0 = z) (hy : y < W64) : MaRel xs y q (k + 1) (m.set k (maLo z y c)) (maHi z y c) := by
  have e1 : xs[k]?.getD 0 = z := h.at.symm.trans hz
  obtain ⟨h1, h2, h3, h5, h4⟩ := h
  refine ⟨by simpa using h1, ?_, h3.set k (maLo_lt _ _ _), maHi_lt (hz ▸ h3.getD W64_pos k) hy h5, ?_⟩
  · rw [List.drop_set_of_lt (by omega), ← List.drop_drop, ← List.drop_drop, h2]
  · rw [take_set_succ _ _ _ _ (by omega), val_take_succ k hk, e1, Nat.pow_succ]
    have h6 := ma_spec z y c
    have h7 := congrArg (W64 ^ k * ·) h6
    simp only [Nat.mul_add] at h7
    rw [Nat.add_mul, Nat.mul_assoc, Nat.mul_assoc]
    omega
theorem MaRel.done {xs m : List Nat} {y q c : Nat} (h : MaRel xs y q xs.length m c) : val W64 m + W64 ^ xs.length * c = val W64 xs * y + q := by
  obtain ⟨h1, h2, h3, h5, h4⟩ := h
  rwa [List.take_of_length_le (by omega), List.take_of_length_le (by omega)] at h4
theorem trim_of_ge {m : List Nat} (hd : Dig W64 m) (h : ∀ k, m.length = k + 1 → W64 ^ k ≤ val W64 m) : Trim m := by
  intro k hk h0
  have h1 := h k hk
  rw [val_take_drop (xs := m) k, val_getD_drop k (by omega), h0, List.drop_of_length_le (by omega : m.length ≤ k + 1)] at h1
  have h2 := val_lt (hd.take k)
  rw [List.length_take, Nat.min_eq_left (by omega)] at h2
  simp at h1
  omega
/-- the words after a chunk -/
theorem MaRel.zero {xs m : List Nat} {y q : Nat} (h : MaRel xs y q xs.length m 0) (ht : Trim xs) (hy : 1 ≤ y) : Trim m ∧ val W64 m = val W64 xs * y + q := by
  have h1 := h.done
  simp at h1
  refine ⟨trim_of_ge h.2.2.1 (fun k hk => ?_), h1⟩
  have h2 := val_ge (B := W64) ht (k := k) (by rw [← h.1]; exact hk)
  have h3 : val W64 xs * 1 ≤ val W64 xs * y := Nat.mul_le_mul_left _ hy
  omega
theorem MaRel.more {xs m : List Nat} {y q c : Nat} (h : MaRel xs y q xs.length m c) (hc : c ≠ 0) : Trim (m ++ [c]) ∧ Dig W64 (m ++ [c]) ∧ val W64 (m ++ [c]) = val W64 xs * y + q := by
  refine ⟨?_, h.2.2.1.append (Dig.nil.cons h.2.2.2.1), ?_⟩
  · intro k hk
    have : k = m.length := by simp at hk; omega
    subst this
    simpa using hc
  · rw [val_append, h.1, val_cons, val_nil, Nat.mul_zero, Nat.add_zero]
    exact h.done

theorem Buf.open_ {k : IntKind} {e : TypeId} {w : World} {A : Option Addr} {cap : Nat} {xs : List Nat} (h : Buf k e w A cap xs) (hne : xs ≠ []) : ∃ b, A = some ⟨b, 0, none⟩ ∧ Own k e w b xs ∧ CapIs e w b cap ∧ xs.length ≤ cap ∧ cap ≤ maxLen := by
  rcases h with ⟨_, h, _⟩ | h
  · exact absurd h hne
  · exact h
theorem Buf.set_ {k : IntKind} {e : TypeId} {w : World} {b cap : Nat} {xs : List Nat} (h : Own k e w b xs) (hC : CapIs e w b cap) (hl : xs.length ≤ cap) (hm : cap ≤ maxLen) (i v : Nat) (hi : i < xs.length) : Buf k e (w.setCell ⟨b, i, none⟩ (.int k (v : Int))) (some ⟨b, 0, none⟩) cap (xs.set i v) :=
  Or.inr ⟨b, rfl, h.set i v hi, hC.setCell b i _, by simpa using hl, hm⟩
/-- what parseSimple holds at the head of a round -/
def PsRel (w wr : World) (T : Nat) (d : ByteArray) (A : Option Addr) (cap : Nat) (xs : List Nat) : Prop :=
  Buf .u64 69 wr A cap xs ∧ Dig W64 xs ∧ Trim xs ∧ val W64 xs * 10 ^ d.size + decVal (bytes d) = T ∧ (bytes d).all isDig = true ∧ Ext w wr ∧ ∀ b, AtBlock A b → w.heap.size ≤ b
theorem PsRel.len {w wr : World} {T : Nat} {d : ByteArray} {A : Option Addr} {cap : Nat} {xs : List Nat} (h : PsRel w wr T d A cap xs) : xs.length ≤ wl T := by
  obtain ⟨_, h1, h2, h3, _⟩ := h
  rw [wl_len h1 h2]
  apply wl_mono
  have : val W64 xs * 1 ≤ val W64 xs * 10 ^ d.size := Nat.mul_le_mul_left _ (Nat.pow_pos (by omega))
  omega
theorem pow19 {n : Nat} (h : n ≤ 19) : 10 ^ n ≤ 10000000000000000000 := by
  have : 10 ^ n ≤ 10 ^ 19 := Nat.pow_le_pow_right (by omega) h
  exact this

set_option maxHeartbeats 4000000 in
set_option maxRecDepth 100000 in
theorem parseSimple_any (d : ByteArray) (w : World) (T : Nat) (hd : (bytes d).all isDig = true) (hT : decVal (bytes d) = T) (hw : wl T ≤ 1048576) (hl : d.size ≤ 1099511627776) :
    Calls Tryz.prog 191 #[.string d] w (RetNat w T) := by
  have HD := Lib.hid hd
  have HT := Lib.hid hT
  clear hd hT
  have hcv := fun (w : World) (s : ByteArray) => Lib.run_convert_string_bytes (P := Tryz.prog) w 9 133 5 s Tryz.underlying9 Tryz.underlying133 Tryz.underlying5
  go_enter Tryz.func191, Tryz.ntmps191
  go_wp2
  go_loopw [0, 3] (fun v0 v3 wr => ∃ (d : ByteArray) (A : Option Addr) (cap : Nat) (xs : List Nat), v0 = .string d ∧ v3 = .slice A xs.length cap ∧ d.size ≤ 1099511627776 ∧ Hid (PsRel w wr T d A cap xs)) (fun v0 _ _ => match v0 with | .string d => d.size | _ => 0)
  case atStart => exact ⟨d, none, 0, [], rfl, rfl, hl, Buf.nil, Dig.nil, Trim.nil, by simpa using HT.out, HD.out, Fr.refl _ _, fun b hb => by obtain ⟨a, ha, _⟩ := hb; cases ha⟩
  case round =>
    obtain ⟨d, A, cap, xs, rfl, rfl, hl, hR⟩ := hrel
    by_cases hpos : 0 < d.size
    · have hlen := hR.out.len
      obtain ⟨n, hn⟩ : ∃ n, d.size = n := ⟨_, rfl⟩
      obtain ⟨z, hz⟩ : ∃ z, (n - 1) % 19 = z := ⟨_, rfl⟩
      have hz18 : z ≤ 18 := by omega
      have hzn : z + 1 ≤ n := by have := Nat.mod_le (n - 1) 19; omega
      have e1 : ((n : Int) - 1) % 19 = (z : Int) := by omega
      have hn1 : (1 : Int) ≤ (n : Int) := by omega
      have hn2 : (0 : Int) ≤ (n : Int) - 1 := by omega
      have hzI : ((z : Int) + 1) ≤ (n : Int) := by omega
      have hzT : ((z : Int) + 1).toNat = z + 1 := by omega
      go_wp2_with fail
      have hes : (d.extract 0 (z + 1)).size = z + 1 := by rw [ByteArray.size_extract]; omega
      have hbs : bytes (d.extract 0 (z + 1)) = (bytes d).take (z + 1) := by rw [bytes_extract]; simp
      have hext : Ext wr (Lib.bytesWorld wr 5 (d.extract 0 (z + 1))) := ⟨rfl, rfl, rfl, by rw [Lib.bytesWorld_size]; omega, fun i hi _ => Lib.bytesWorld_at_old _ _ _ i hi⟩
      have hcel : ∀ j, j < z + 1 → (Lib.bytesWorld wr 5 (d.extract 0 (z + 1))).cell? ⟨wr.heap.size, j, none⟩ = some (.int .u8 ((bytes d).getD j 0).toNat) := fun j hj => by
        rw [Lib.bytesWorld_cell _ _ _ j (by omega)]
        have : (d.extract 0 (z + 1)).data.toList = (bytes d).take (z + 1) := hbs
        rw [this]
        simp [List.getElem?_take_of_lt hj]
      have hblt : wr.heap.size < (Lib.bytesWorld wr 5 (d.extract 0 (z + 1))).heap.size := by rw [Lib.bytesWorld_size]; omega
      generalize Lib.bytesWorld wr 5 (d.extract 0 (z + 1)) = wB at *
      have HX := Lib.hid hext
      have HC := Lib.hid hcel
      have Hn := Lib.hid hn
      have Hz := Lib.hid hz
      have hdl : Hid ((bytes d).length = n) := by unfold Hid; rw [bytes_length]; exact hn
      clear hext hcel hes hbs hn hz
      go_loop [5, 6, 25] (fun v5 v6 v25 => ∃ j c p : Nat, j ≤ z + 1 ∧ v25 = .int .i64 (j : Int) ∧ v5 = .int .u64 (c : Int) ∧ v6 = .int .u64 (p : Int) ∧ c < p ∧ p ≤ 10000000000000000000 ∧ Hid (c = decVal ((bytes d).take j) ∧ p = 10 ^ j)) (fun _ _ v => z + 1 - (intOf v).toNat)
      case atStart => exact ⟨0, 0, 1, by omega, rfl, rfl, rfl, by omega, by omega, by unfold Hid; simp [decVal]⟩
      case round =>
        obtain ⟨j, c, p, hj, rfl, rfl, rfl, hcp, hp, hJ⟩ := hrel
        by_cases hlt : j < z + 1
        · have hcj := HC.out j hlt
          have hjn : j < (bytes d).length := by rw [hdl.out]; omega
          have hdig := isDig_le (c := (bytes d).getD j 0) (by
            rw [List.getD_eq_getElem?_getD, List.getElem?_eq_getElem hjn]
            exact List.all_eq_true.1 hR.out.2.2.2.2.1 _ (List.getElem_mem hjn))
          have hsn : Hid (decVal ((bytes d).take (j + 1)) = 10 * decVal ((bytes d).take j) + (((bytes d).getD j 0).toNat - 48)) := by
            unfold Hid
            rw [List.take_succ_eq_append_getElem hjn, decVal_snoc, List.getD_eq_getElem?_getD, List.getElem?_eq_getElem hjn]
            rfl
          have hlt3 : Hid (decVal ((bytes d).take (j + 1)) < 10 ^ (j + 1)) := by
            have h := decVal_lt ((bytes d).take (j + 1)) (by
              rw [List.all_eq_true]; intro x hx
              exact List.all_eq_true.1 hR.out.2.2.2.2.1 _ (List.mem_of_mem_take hx))
            rw [List.length_take, Nat.min_eq_left (by omega)] at h
            exact h
          have hp19 := pow19 (n := j + 1) (by omega)
          rw [Nat.pow_succ, ← hJ.out.2] at hp19
          generalize ((bytes d).getD j 0).toNat = x at *
          have f1 : IntKind.u64.wrap (10 * (c : Int)) = ((10 * c : Nat) : Int) := by
            rw [show 10 * (c : Int) = ((10 * c : Nat) : Int) by omega]; exact wrapW _ (by rw [W64_eq]; omega)
          have f2 : IntKind.u8.wrap ((x : Int) - 48) = ((x - 48 : Nat) : Int) := by
            rw [show (x : Int) - 48 = ((x - 48 : Nat) : Int) by omega, IntKind.wrap_u8]; omega
          have f3 : IntKind.u64.wrap ((x - 48 : Nat) : Int) = ((x - 48 : Nat) : Int) := wrapW _ (by rw [W64_eq]; omega)
          have f4 : IntKind.u64.wrap (((10 * c : Nat) : Int) + ((x - 48 : Nat) : Int)) = ((10 * c + (x - 48) : Nat) : Int) := add_u64 (by rw [W64_eq]; omega)
          have f5 : IntKind.u64.wrap ((p : Int) * 10) = ((p * 10 : Nat) : Int) := by
            rw [show (p : Int) * 10 = ((p * 10 : Nat) : Int) by omega]; exact wrapW _ (by rw [W64_eq]; omega)
          obtain ⟨c1, hc1⟩ : ∃ c1, 10 * c = c1 := ⟨_, rfl⟩
          obtain ⟨y, hy⟩ : ∃ y, x - 48 = y := ⟨_, rfl⟩
          obtain ⟨c2, hc2⟩ : ∃ c2, c1 + y = c2 := ⟨_, rfl⟩
          obtain ⟨p2, hp2⟩ : ∃ p2, p * 10 = p2 := ⟨_, rfl⟩
          have HN : Hid (c2 = decVal ((bytes d).take (j + 1)) ∧ p2 = 10 ^ (j + 1)) := by
            unfold Hid
            rw [hsn.out, ← hJ.out.1, Nat.pow_succ, ← hJ.out.2]
            omega
          have hc2p : c2 < p2 := by rw [HN.out.1, HN.out.2]; exact hlt3.out
          rw [hc1] at f1 f4
          rw [hy] at f2 f3 f4
          rw [hc2] at f4
          rw [hp2] at f5 hp19
          have hjB : wr.heap.size ≠ wB.heap.size := by omega
          clear hc1 hy hc2 hp2 hdig hjn
          go_wp2
          go_round
          case rel => exact ⟨j + 1, c2, p2, by omega, by go_num, rfl, rfl, hc2p, hp19, HN.out⟩
          case measure => simp [intOf]; omega
        · obtain rfl : j = z + 1 := by omega
          have hzd : z + 1 ≤ d.size := by rw [Hn.out]; exact hzn
          have hd2 : bytes (d.extract (z + 1) d.size) = (bytes d).drop (z + 1) := by
            rw [bytes_extract, List.take_of_length_le (by rw [List.length_drop, bytes_length]; exact Nat.le_refl _)]
          have hd2s : (d.extract (z + 1) d.size).size = d.size - (z + 1) := by rw [ByteArray.size_extract]; omega
          have Hd2 := Lib.hid hd2
          have Hd2s := Lib.hid hd2s
          clear hd2 hd2s
          go_wp2_with fail
          have HR0 := Lib.hid hR.out.1
          have HDig := Lib.hid hR.out.2.1
          have HTr := Lib.hid hR.out.2.2.1
          have HEq : Hid (∀ m, val W64 m = val W64 xs * p + c → val W64 m * 10 ^ (d.extract (z + 1) d.size).size + decVal (bytes (d.extract (z + 1) d.size)) = T) := by
            intro m hm
            rw [hm, Hd2s.out, Hd2.out, ← hR.out.2.2.2.1]
            have h1 : bytes d = (bytes d).take (z + 1) ++ (bytes d).drop (z + 1) := (List.take_append_drop _ _).symm
            conv => rhs; rw [h1, decVal_append, ← hJ.out.1]
            rw [List.length_drop, bytes_length, hJ.out.2, Nat.add_mul, Nat.mul_assoc, ← Nat.pow_add, Nat.add_assoc]
            congr 3
            omega
          have HAll : Hid ((bytes (d.extract (z + 1) d.size)).all isDig = true) := by
            unfold Hid
            rw [Hd2.out, List.all_eq_true]
            intro x hx
            exact List.all_eq_true.1 hR.out.2.2.2.2.1 _ (List.mem_of_mem_drop hx)
          have HE0 := Lib.hid hR.out.2.2.2.2.2.1
          have HN0 := Lib.hid hR.out.2.2.2.2.2.2
          have hd2l : (d.extract (z + 1) d.size).size ≤ 1099511627776 := by rw [Hd2s.out]; omega
          have hmeas : Hid ((d.extract (z + 1) d.size).size < d.size) := by rw [Hid, Hd2s.out]; omega
          generalize d.extract (z + 1) d.size = d2 at *
          have hxb := hlen
          have HcW : Hid (c < W64) := by unfold Hid; rw [W64_eq]; omega
          have HpW : Hid (p < W64) := by unfold Hid; rw [W64_eq]; omega
          have Hp1 : Hid (1 ≤ p) := by unfold Hid; omega
          go_loopw [9, 44] (fun v9 v44 wx => ∃ (k q : Nat) (m : List Nat), k ≤ xs.length ∧ v44 = .int .i64 (k : Int) ∧ v9 = .int .u64 (q : Int) ∧ Hid (MaRel xs p c k m q) ∧ Hid (Buf .u64 69 wx A cap m) ∧ Hid (Fr (AtBlock A) wB wx)) (fun _ v _ => xs.length - (intOf v).toNat)
          case atStart => exact ⟨0, c, xs, by omega, rfl, rfl, MaRel.start HDig.out HcW.out, HR0.out.ext HX.out, Fr.refl _ _⟩
          case round =>
            obtain ⟨k, q, m, hk, rfl, rfl, hM, hB, hF⟩ := hrel
            have hml : m.length = xs.length := hM.out.1
            by_cases hlt : k < xs.length
            · obtain ⟨b, rfl, hO, hC, hmc, hcm⟩ := hB.out.open_ (by intro e; rw [e] at hml; simp at hml; omega)
              obtain ⟨y, hy⟩ : ∃ y, m[k]?.getD 0 = y := ⟨_, rfl⟩
              have hcell := hO.cell (i := k) (by omega)
              rw [hy] at hcell
              have hfrz := hO.frozen k
              have HyW : Hid (y < W64) := hy ▸ hM.out.2.2.1.getD W64_pos k
              have HM2 := Lib.hid (hM.out.step hlt hy HpW.out)
              have HB2 := fun v => Buf.set_ hO hC hmc hcm k v (by omega)
              have HBh := Lib.hid HB2
              have HqW := Lib.hid hM.out.2.2.2.1
              have hblt2 := hO.lt
              have hbne : b ≠ wr.heap.size := by omega
              have Hml := Lib.hid hml
              clear hO hC hmc hcm hy HB2 hml
              go_wp2_with (go_at_call 192; refine (multiplyAdd_any y p q _ HyW.out HpW.out HqW.out).mono ?_; rintro e w' ⟨rfl, rfl⟩)
              go_roundw
              case rel => exact ⟨k + 1, _, _, by omega, by go_num, rfl, HM2.out, HBh.out _, hF.out.setCell (p := ⟨b, k, none⟩) (Or.inl ⟨_, rfl, rfl⟩) _⟩
              case measure => simp [intOf]; omega
            · obtain rfl : k = xs.length := by omega
              have HEx : Hid (Ext w wr) := (HE0.out.trans HX.out).next hF.out (fun i hi hb => by have := HN0.out i hb; omega)
              by_cases hq : q = 0
              · subst hq
                obtain ⟨h1, h2⟩ := hM.out.zero HTr.out Hp1.out
                have HNew : Hid (PsRel w wr T d2 A cap m) := ⟨hB.out, hM.out.2.2.1, h1, HEq.out m h2, HAll.out, HEx.out, HN0.out⟩
                have Hml := Lib.hid hml
                clear h1 h2 hml
                go_wp2
                go_roundw
                case rel => exact ⟨d2, A, cap, m, rfl, by rw [Hml.out], hd2l, HNew.out⟩
                case measure => exact hmeas.out
              · have hq' : ((q : Int) != 0) = true := by simp; omega
                obtain ⟨h1, h2, h3⟩ := hM.out.more hq
                have HNum : Hid (Trim (m ++ [q]) ∧ Dig W64 (m ++ [q]) ∧ val W64 (m ++ [q]) = val W64 xs * p + c) := ⟨h1, h2, h3⟩
                have Hml := Lib.hid hml
                have hSh : Hid (Shows .u64 (wr.alloc (.cells #[.int .u64 (q : Int)] 69)) (some ⟨wr.heap.size, 0, none⟩) [q]) := (Own.new wr 69 .u64 [q] []).shows0
                clear h1 h2 h3 hml hq
                go_wp2_with (at_builtin; refine Hid.out ?_)
                refine Lib.hid ?_
                refine wpList_append_words rfl _ _ _ rfl _ .u64 8 Tryz.underlying65 info64 A (some ⟨wr.heap.size, 0, none⟩) xs.length 1 cap 1 rfl rfl m [q] Hml.out rfl (hB.out.ext ((Fr.refl _ _).alloc _)) hSh.out (by simp only [maxLen]; omega) (by omega) ?_
                intro A1 cap1 w2 hB1 hF1 hA1
                have HNew : Hid (PsRel w w2 T d2 A1 cap1 (m ++ [q])) := by
                  refine ⟨hB1, HNum.out.2.1, HNum.out.1, HEq.out _ HNum.out.2.2, HAll.out, ?_, ?_⟩
                  · exact (HEx.out.alloc _).next hF1 (fun i hi hb => by have := HN0.out i hb; omega)
                  · intro b hb
                    rcases hA1 b hb with h | h
                    · exact HN0.out b h
                    · have := HEx.out.size; simp at h; omega
                clear hB1 hF1 hA1
                go_wp2
                go_roundw
                case rel => exact ⟨d2, A1, cap1, m ++ [q], rfl, by rw [List.length_append, Hml.out]; rfl, hd2l, HNew.out⟩
                case measure => exact hmeas.out
    · have h0 : d.size = 0 := by omega
      obtain ⟨hB, hD, hTr, hV, _, hE, hN⟩ := hR.out
      have hb0 : bytes d = [] := List.length_eq_zero_iff.1 (by rw [bytes_length]; exact h0)
      rw [h0, hb0, Nat.pow_zero, Nat.mul_one] at hV
      have HB := Lib.hid hB
      have HD2 := Lib.hid hD
      have HTr := Lib.hid hTr
      have HV : Hid (val W64 xs = T) := by unfold Hid; rw [← hV]; rfl
      have HE := Lib.hid hE
      clear hB hD hTr hV hE hN h0 hb0
      go_wp2
      go_ret
      exact ⟨_, rfl, ⟨A, xs, cap, rfl, HB.out.len, HB.out.shows, HD2.out, HTr.out, HV.out⟩, HE.out⟩
end Go.Proofs.YtndafmjcelgnbaaGreatDoor
