/-
  addProduct, subtractProduct: a row plus or minus a multiple of another one.
-/
import Derived.Test.YtndafmjcelgnbaaGreatDoorMul64
import Derived.Test.YtndafmjcelgnbaaGreatDoorNat2
namespace Go.Proofs.YtndafmjcelgnbaaGreatDoor
open Go.RowKit

theorem wrapW (a : Nat) (ha : a < W64) : IntKind.u64.wrap (a : Int) = (a : Int) := by rw [W64_eq] at ha; rw [IntKind.wrap_u64]; omega

noncomputable def macDigit (z x u c : Nat) : Nat := addLo z (addLo (mulLo x u) c 0) 0
noncomputable def macCarry (z x u c : Nat) : Nat := mulHi x u + addHi (mulLo x u) c 0 + addHi z (addLo (mulLo x u) c 0) 0
theorem mac_spec (z x u c : Nat) : macDigit z x u c + W64 * macCarry z x u c = z + x * u + c := by
  have h1 := mul_spec x u
  have h2 := add_spec (mulLo x u) c 0
  have h3 := add_spec z (addLo (mulLo x u) c 0) 0
  unfold macDigit macCarry
  rw [Nat.mul_add, Nat.mul_add]
  omega
theorem sq_bound {a b : Nat} (ha : a < W64) (hb : b < W64) : a * b + W64 + W64 ≤ W64 * W64 + 1 := by
  have h1 : a * b ≤ (W64 - 1) * (W64 - 1) := Nat.mul_le_mul (by omega) (by omega)
  rw [W64_eq] at *
  omega
theorem lt_of_mul_lt (a : Nat) {n : Nat} (h : W64 * a < W64 * n) : a < n := Nat.lt_of_mul_lt_mul_left h
theorem macCarry_lt {z x u c : Nat} (hz : z < W64) (hx : x < W64) (hu : u < W64) (hc : c < W64) : macCarry z x u c < W64 := by
  have h1 := mac_spec z x u c
  have h2 := sq_bound hx hu
  exact lt_of_mul_lt _ (by omega)
theorem macWrap {z x u c : Nat} (hz : z < W64) (hx : x < W64) (hu : u < W64) (hc : c < W64) :
    IntKind.u64.wrap (IntKind.u64.wrap ((mulHi x u : Int) + (addHi (mulLo x u) c 0 : Int)) + (addHi z (addLo (mulLo x u) c 0) 0 : Int)) = (macCarry z x u c : Int) := by
  have h := macCarry_lt hz hx hu hc
  unfold macCarry at *
  rw [← Int.natCast_add, wrapW _ (by omega), ← Int.natCast_add, wrapW _ h]

/-- after k rounds of 'z += x * u' in place -/
def MacRel (mid xs : List Nat) (u k : Nat) (m : List Nat) (c : Nat) : Prop :=
  m.length = mid.length ∧ m.drop k = mid.drop k ∧ Dig W64 m ∧ c < W64 ∧ val W64 (m.take k) + W64 ^ k * c = val W64 (mid.take k) + val W64 (xs.take k) * u
theorem MacRel.start (mid xs : List Nat) (u : Nat) (h : Dig W64 mid) : MacRel mid xs u 0 mid 0 := ⟨rfl, rfl, h, W64_pos, by simp⟩
theorem MacRel.at {mid xs m : List Nat} {u k c : Nat} (h : MacRel mid xs u k m c) : m[k]?.getD 0 = mid[k]?.getD 0 := by
  have := congrArg (fun l => l[0]?.getD 0) h.2.1
  simpa [List.getElem?_drop] using this
theorem MacRel.step {mid xs m : List Nat} {u k c z x : Nat} (h : MacRel mid xs u k m c) (hk : k < mid.length) (hz : m[k]?.getD 0 = z) (hx : xs[k]?.getD 0 = x) (hxl : k < xs.length) (hxd : Dig W64 xs) (hu : u < W64) : MacRel mid xs u (k + 1) (m.set k (macDigit z x u c)) (macCarry z x u c) := by
  have e1 : mid[k]?.getD 0 = z := h.at.symm.trans hz
  obtain ⟨h1, h2, h3, h5, h4⟩ := h
  refine ⟨by simpa using h1, ?_, h3.set k (addLo_lt _ _ _), macCarry_lt (hz ▸ h3.getD W64_pos k) (hx ▸ hxd.getD W64_pos k) hu h5, ?_⟩
  · rw [List.drop_set_of_lt (by omega), ← List.drop_drop, ← List.drop_drop, h2]
  · rw [take_set_succ _ _ _ _ (by omega), val_take_succ k hk, val_take_succ k hxl, e1, hx, Nat.pow_succ]
    exact step_mac _ _ _ _ _ _ _ _ _ _ _ h4 (mac_spec z x u c)
/-- the row and the carry together are the row before plus the multiple -/
def MacOf (mid xs : List Nat) (u cc : Nat) (m : List Nat) : Prop := val W64 m + W64 ^ mid.length * cc = val W64 mid + val W64 xs * u
theorem MacRel.done {mid xs m : List Nat} {u c : Nat} (h : MacRel mid xs u xs.length m c) (hl : xs.length = mid.length) : MacOf mid xs u c m := by
  obtain ⟨h1, h2, h3, h5, h4⟩ := h
  rw [List.take_of_length_le (by omega), List.take_of_length_le (by omega), List.take_of_length_le (by omega), hl] at h4
  exact h4
def MacPost (t : TypeId) (b : Nat) (pre mid post xs : List Nat) (u : Nat) (w : World) (e : Ending) (w' : World) : Prop :=
  ∃ cc, e = .returned (.int .u64 (cc : Nat)) ∧ cc < W64 ∧ MidPost t b pre post mid.length (MacOf mid xs u cc) w w'

set_option maxHeartbeats 1000000 in
set_option maxRecDepth 100000 in
theorem addProduct_any (b c c2 off n m u : Nat) (pre mid post xs : List Nat) (A : Option Addr) (w : World) (ho : pre.length = off) (hn : mid.length = n) (hxm : xs.length = m) (hO : Own .u64 69 w b (pre ++ mid ++ post)) (hX : Shows .u64 w A xs) (hA : ∀ a, A = some a → a.block ≠ b)
    (hl : xs.length = mid.length) (hm : mid.length ≤ 1099511627776) (hdm : Dig W64 mid) (hdx : Dig W64 xs) (hu : u < W64) :
    Calls Tryz.prog 153 #[.slice (some ⟨b, off, none⟩) n c, .slice A m c2, .int .u64 (u : Int)] w (MacPost 69 b pre mid post xs u w) := by
  subst ho hn hxm
  have HO := Lib.hid hO
  have HX := Lib.hid hX
  have HA := Lib.hid hA
  have Hdm := Lib.hid hdm
  have Hdx := Lib.hid hdx
  have HL := Lib.hid hl
  have HU := Lib.hid hu
  have hle : xs.length ≤ mid.length := by omega
  clear hO hX hA hdm hdx hl hu
  go_enter Tryz.func153, Tryz.ntmps153
  go_wp2
  go_loopw [7, 16] (fun cv i wr => ∃ (k cc : Nat) (m : List Nat), k ≤ xs.length ∧ i = .int .i64 k ∧ cv = .int .u64 cc ∧ Hid (MacRel mid xs u k m cc) ∧ Hid (Own .u64 69 wr b (pre ++ m ++ post)) ∧ Hid (Fr (· = b) w wr) ∧ Hid (SameCap 69 b w wr)) (fun _ i _ => xs.length - (intOf i).toNat)
  case atStart => exact ⟨0, 0, mid, by omega, rfl, rfl, MacRel.start _ _ _ Hdm.out, HO.out, Fr.refl _ _, SameCap.refl _ _ _⟩
  case round =>
    obtain ⟨k, cc, m, hk, rfl, rfl, hR, hO1, hF1, hS1⟩ := hrel
    by_cases hlt : k < xs.length
    · obtain ⟨b2, off2, rfl, hb2, hcx⟩ := (HX.out.fr hF1.out (fun a ha _ => HA.out a ha)).at hlt
      obtain ⟨x, ex⟩ : ∃ x, xs[k]?.getD 0 = x := ⟨_, rfl⟩
      obtain ⟨z, ez⟩ : ∃ z, m[k]?.getD 0 = z := ⟨_, rfl⟩
      have hkm : k < m.length := by have := hR.out.1; omega
      have hcz := hO1.out.mid (k := k) hkm
      have hfz := hO1.out.frozen (pre.length + k)
      rw [ex] at hcx
      rw [ez] at hcz
      have Hx : Hid (x < W64) := ex ▸ Hdx.out.getD W64_pos k
      have HR2 := Lib.hid (hR.out.step (by omega) ez ex hlt Hdx.out HU.out)
      have HW := Lib.hid (macWrap (ez ▸ hR.out.2.2.1.getD W64_pos k) Hx.out HU.out hR.out.2.2.2.1)
      clear ex ez
      have ha := run_Add64_c0
      go_wp2_with (go_at_call 178; refine (mul64_any _ _ Hx.out HU.out _).mono ?_; rintro e w' ⟨rfl, rfl⟩)
      go_roundw
      case rel => exact ⟨k + 1, _, _, by omega, by go_num, by rw [HW.out], HR2, hO1.out.set_mid hkm _, hF1.out.setCell (Or.inl rfl) _, hS1.out.setCell _ _ _⟩
      case measure => simp [intOf]; omega
    · obtain rfl : k = xs.length := by omega
      go_wp2
      go_ret
      exact ⟨cc, rfl, hR.out.2.2.2.1, hF1.out, hS1.out, m, hO1.out, hR.out.1, hR.out.2.2.1, hR.out.done HL.out⟩

noncomputable def msubDigit (z x u c : Nat) : Nat := subLo z (addLo (mulLo x u) c 0) 0
noncomputable def msubCarry (z x u c : Nat) : Nat := mulHi x u + addHi (mulLo x u) c 0 + subHi z (addLo (mulLo x u) c 0) 0
theorem msub_spec {z : Nat} (hz : z < W64) (x u c : Nat) : msubDigit z x u c + x * u + c = z + W64 * msubCarry z x u c := by
  have h1 := mul_spec x u
  have h2 := add_spec (mulLo x u) c 0
  have h3 := sub_spec hz (addLo_lt (mulLo x u) c 0) (c := 0) (by omega)
  unfold msubDigit msubCarry
  rw [Nat.mul_add, Nat.mul_add]
  omega
theorem msubCarry_lt {z x u c : Nat} (hz : z < W64) (hx : x < W64) (hu : u < W64) (hc : c < W64) : msubCarry z x u c < W64 := by
  have h1 := msub_spec hz x u c
  have h2 := sq_bound hx hu
  have h3 : msubDigit z x u c < W64 := subLo_lt _ _ _
  exact lt_of_mul_lt _ (by omega)
theorem msubWrap {z x u c : Nat} (hz : z < W64) (hx : x < W64) (hu : u < W64) (hc : c < W64) :
    IntKind.u64.wrap (IntKind.u64.wrap ((mulHi x u : Int) + (addHi (mulLo x u) c 0 : Int)) + (subHi z (addLo (mulLo x u) c 0) 0 : Int)) = (msubCarry z x u c : Int) := by
  have h := msubCarry_lt hz hx hu hc
  unfold msubCarry at *
  rw [← Int.natCast_add, wrapW _ (by omega), ← Int.natCast_add, wrapW _ h]
/-- after k rounds of 'z -= x * u' in place -/
def MsubRel (mid xs : List Nat) (u k : Nat) (m : List Nat) (c : Nat) : Prop :=
  m.length = mid.length ∧ m.drop k = mid.drop k ∧ Dig W64 m ∧ c < W64 ∧ val W64 (m.take k) + val W64 (xs.take k) * u = val W64 (mid.take k) + W64 ^ k * c
theorem MsubRel.start (mid xs : List Nat) (u : Nat) (h : Dig W64 mid) : MsubRel mid xs u 0 mid 0 := ⟨rfl, rfl, h, W64_pos, by simp⟩
theorem MsubRel.at {mid xs m : List Nat} {u k c : Nat} (h : MsubRel mid xs u k m c) : m[k]?.getD 0 = mid[k]?.getD 0 := by
  have := congrArg (fun l => l[0]?.getD 0) h.2.1
  simpa [List.getElem?_drop] using this
theorem MsubRel.step {mid xs m : List Nat} {u k c z x : Nat} (h : MsubRel mid xs u k m c) (hk : k < mid.length) (hz : m[k]?.getD 0 = z) (hx : xs[k]?.getD 0 = x) (hxl : k < xs.length) (hxd : Dig W64 xs) (hu : u < W64) : MsubRel mid xs u (k + 1) (m.set k (msubDigit z x u c)) (msubCarry z x u c) := by
  have e1 : mid[k]?.getD 0 = z := h.at.symm.trans hz
  obtain ⟨h1, h2, h3, h5, h4⟩ := h
  have hzd : z < W64 := hz ▸ h3.getD W64_pos k
  refine ⟨by simpa using h1, ?_, h3.set k (subLo_lt _ _ _), msubCarry_lt hzd (hx ▸ hxd.getD W64_pos k) hu h5, ?_⟩
  · rw [List.drop_set_of_lt (by omega), ← List.drop_drop, ← List.drop_drop, h2]
  · rw [take_set_succ _ _ _ _ (by omega), val_take_succ k hk, val_take_succ k hxl, e1, hx, Nat.pow_succ]
    exact step_msub _ _ _ _ _ _ _ _ _ _ _ h4 (msub_spec hzd x u c)
/-- the row before and the borrow together are the row plus the multiple -/
def MsubOf (mid xs : List Nat) (u cc : Nat) (m : List Nat) : Prop := val W64 m + val W64 xs * u = val W64 mid + W64 ^ mid.length * cc
theorem MsubRel.done {mid xs m : List Nat} {u c : Nat} (h : MsubRel mid xs u xs.length m c) (hl : xs.length = mid.length) : MsubOf mid xs u c m := by
  obtain ⟨h1, h2, h3, h5, h4⟩ := h
  rw [List.take_of_length_le (by omega), List.take_of_length_le (by omega), List.take_of_length_le (by omega), hl] at h4
  exact h4
def MsubPost (t : TypeId) (b : Nat) (pre mid post xs : List Nat) (u : Nat) (w : World) (e : Ending) (w' : World) : Prop :=
  ∃ cc, e = .returned (.int .u64 (cc : Nat)) ∧ cc < W64 ∧ MidPost t b pre post mid.length (MsubOf mid xs u cc) w w'

set_option maxHeartbeats 1000000 in
set_option maxRecDepth 100000 in
theorem subtractProduct_any (b c c2 off n m u : Nat) (pre mid post xs : List Nat) (A : Option Addr) (w : World) (ho : pre.length = off) (hn : mid.length = n) (hxm : xs.length = m) (hO : Own .u64 69 w b (pre ++ mid ++ post)) (hX : Shows .u64 w A xs) (hA : ∀ a, A = some a → a.block ≠ b)
    (hl : xs.length = mid.length) (hm : mid.length ≤ 1099511627776) (hdm : Dig W64 mid) (hdx : Dig W64 xs) (hu : u < W64) :
    Calls Tryz.prog 206 #[.slice (some ⟨b, off, none⟩) n c, .slice A m c2, .int .u64 (u : Int)] w (MsubPost 69 b pre mid post xs u w) := by
  subst ho hn hxm
  have HO := Lib.hid hO
  have HX := Lib.hid hX
  have HA := Lib.hid hA
  have Hdm := Lib.hid hdm
  have Hdx := Lib.hid hdx
  have HL := Lib.hid hl
  have HU := Lib.hid hu
  have hle : xs.length ≤ mid.length := by omega
  clear hO hX hA hdm hdx hl hu
  go_enter Tryz.func206, Tryz.ntmps206
  go_wp2
  go_loopw [7, 16] (fun cv i wr => ∃ (k cc : Nat) (m : List Nat), k ≤ xs.length ∧ i = .int .i64 k ∧ cv = .int .u64 cc ∧ Hid (MsubRel mid xs u k m cc) ∧ Hid (Own .u64 69 wr b (pre ++ m ++ post)) ∧ Hid (Fr (· = b) w wr) ∧ Hid (SameCap 69 b w wr)) (fun _ i _ => xs.length - (intOf i).toNat)
  case atStart => exact ⟨0, 0, mid, by omega, rfl, rfl, MsubRel.start _ _ _ Hdm.out, HO.out, Fr.refl _ _, SameCap.refl _ _ _⟩
  case round =>
    obtain ⟨k, cc, m, hk, rfl, rfl, hR, hO1, hF1, hS1⟩ := hrel
    by_cases hlt : k < xs.length
    · obtain ⟨b2, off2, rfl, hb2, hcx⟩ := (HX.out.fr hF1.out (fun a ha _ => HA.out a ha)).at hlt
      obtain ⟨x, ex⟩ : ∃ x, xs[k]?.getD 0 = x := ⟨_, rfl⟩
      obtain ⟨z, ez⟩ : ∃ z, m[k]?.getD 0 = z := ⟨_, rfl⟩
      have hkm : k < m.length := by have := hR.out.1; omega
      have hcz := hO1.out.mid (k := k) hkm
      have hfz := hO1.out.frozen (pre.length + k)
      rw [ex] at hcx
      rw [ez] at hcz
      have Hx : Hid (x < W64) := ex ▸ Hdx.out.getD W64_pos k
      have HR2 := Lib.hid (hR.out.step (by omega) ez ex hlt Hdx.out HU.out)
      have HW := Lib.hid (msubWrap (ez ▸ hR.out.2.2.1.getD W64_pos k) Hx.out HU.out hR.out.2.2.2.1)
      clear ex ez
      have ha := run_Add64_c0
      have hsb := run_Sub64_c0
      go_wp2_with (go_at_call 178; refine (mul64_any _ _ Hx.out HU.out _).mono ?_; rintro e w' ⟨rfl, rfl⟩)
      go_roundw
      case rel => exact ⟨k + 1, _, _, by omega, by go_num, by rw [HW.out], HR2, hO1.out.set_mid hkm _, hF1.out.setCell (Or.inl rfl) _, hS1.out.setCell _ _ _⟩
      case measure => simp [intOf]; omega
    · obtain rfl : k = xs.length := by omega
      go_wp2
      go_ret
      exact ⟨cc, rfl, hR.out.2.2.2.1, hF1.out, hS1.out, m, hO1.out, hR.out.1, hR.out.2.2.1, hR.out.done HL.out⟩
end Go.Proofs.YtndafmjcelgnbaaGreatDoor
