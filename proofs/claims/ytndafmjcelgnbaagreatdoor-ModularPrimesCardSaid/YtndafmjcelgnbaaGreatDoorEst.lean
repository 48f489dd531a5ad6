/-
  estimate: a digit of a quotient from the leading words.
-/
import Derived.Test.YtndafmjcelgnbaaGreatDoorShift
namespace Go.Proofs.YtndafmjcelgnbaaGreatDoor
open Go.RowKit

/-- the leading words of a number -/
theorem top2 {B : Nat} {vs : List Nat} {n : Nat} (h : vs.length = n + 2) : val B vs = val B (vs.take n) + B ^ n * ((vs[n]?.getD 0) + B * (vs[n + 1]?.getD 0)) := by
  rw [val_take_drop (xs := vs) n, val_getD_drop n (by omega), val_getD_drop (n + 1) (by omega), List.drop_of_length_le (by omega : vs.length ≤ n + 1 + 1), Nat.min_eq_left (by omega)]
  simp
theorem top3 {B : Nat} {ws : List Nat} {n : Nat} (h : ws.length = n + 3) : val B ws = val B (ws.take n) + B ^ n * ((ws[n]?.getD 0) + B * ((ws[n + 1]?.getD 0) + B * (ws[n + 2]?.getD 0))) := by
  rw [val_take_drop (xs := ws) n, val_getD_drop n (by omega), val_getD_drop (n + 1) (by omega), val_getD_drop (n + 2) (by omega), List.drop_of_length_le (by omega : ws.length ≤ n + 2 + 1), Nat.min_eq_left (by omega)]
  simp
/-- d is the digit u / v or one more -/
def DigitOf (u v d : Nat) : Prop := d * v ≤ u + v ∧ u < (d + 1) * v

theorem lt_succ_div_mul (a : Nat) {b : Nat} (hb : 0 < b) : a < (a / b + 1) * b := by
  have h1 := Nat.div_add_mod a b
  have h2 := Nat.mod_lt a hb
  rw [Nat.add_mul, Nat.mul_comm (a / b)]
  omega
theorem est_case1 {B : Nat} {ws vs : List Nat} {n a v1 : Nat} (hB : 2 ≤ B) (hv : vs.length = n + 2) (hw : ws.length = n + 3) (dv : Dig B vs)
    (ea : ws[n + 2]?.getD 0 = a) (e1 : vs[n + 1]?.getD 0 = v1) (hge : v1 ≤ a) (hnorm : B ≤ 2 * v1) (hu : val B ws < val B vs * B) :
    DigitOf (val B ws) (val B vs) (B - 1) := by
  have EV : val B vs = val B (vs.take (n + 1)) + B ^ (n + 1) * v1 := by
    have := val_take_succ (B := B) (xs := vs) (n + 1) (by omega)
    rw [List.take_of_length_le (by omega), e1] at this
    exact this
  have EW : val B ws = val B (ws.take (n + 2)) + B ^ (n + 2) * a := by
    have := val_take_succ (B := B) (xs := ws) (n + 2) (by omega)
    rw [List.take_of_length_le (by omega), ea] at this
    exact this
  have hv' := val_lt (dv.take (n + 1))
  rw [List.length_take, Nat.min_eq_left (by omega)] at hv'
  obtain ⟨C, rfl⟩ : ∃ C, B = C + 2 := ⟨B - 2, by omega⟩
  refine ⟨?_, by rw [show C + 2 - 1 + 1 = C + 2 by omega, Nat.mul_comm]; exact hu⟩
  have h1 : val (C + 2) vs ≤ (C + 2) ^ (n + 1) * (v1 + 1) := by rw [EV, Nat.mul_add]; omega
  have h2 : C * val (C + 2) vs ≤ C * ((C + 2) ^ (n + 1) * (v1 + 1)) := Nat.mul_le_mul_left C h1
  have h3 : C * ((C + 2) ^ (n + 1) * (v1 + 1)) = (C + 2) ^ (n + 1) * (C * (v1 + 1)) := Nat.mul_left_comm _ _ _
  have h4 : C * (v1 + 1) ≤ (C + 2) * v1 := by rw [Nat.mul_add, Nat.add_mul]; omega
  have h5 : (C + 2) ^ (n + 1) * (C * (v1 + 1)) ≤ (C + 2) ^ (n + 1) * ((C + 2) * v1) := Nat.mul_le_mul_left _ h4
  have h6 : (C + 2) ^ (n + 2) * v1 = (C + 2) ^ (n + 1) * ((C + 2) * v1) := by rw [Nat.pow_succ, Nat.mul_assoc]
  have h7 : (C + 2) ^ (n + 2) * v1 ≤ (C + 2) ^ (n + 2) * a := Nat.mul_le_mul_left _ hge
  rw [show C + 2 - 1 = C + 1 by omega, Nat.add_mul, Nat.one_mul]
  omega
theorem est_case2 {B : Nat} {ws vs : List Nat} {n a b c0 v1 v0 : Nat} (hB : 0 < B) (hv : vs.length = n + 2) (hw : ws.length = n + 3) (dv : Dig B vs) (dw : Dig B ws)
    (ea : ws[n + 2]?.getD 0 = a) (eb : ws[n + 1]?.getD 0 = b) (ec : ws[n]?.getD 0 = c0) (e1 : vs[n + 1]?.getD 0 = v1) (e0 : vs[n]?.getD 0 = v0) (hlt : a < v1) :
    DigitOf (val B ws) (val B vs) (((a * B + b) * B + c0) / (v1 * B + v0)) := by
  have hb : b < B := eb ▸ dw.getD hB _
  have hc : c0 < B := ec ▸ dw.getD hB _
  have hU : a * B + b < v1 * B := by
    have : (a + 1) * B ≤ v1 * B := Nat.mul_le_mul_right B hlt
    rw [Nat.add_mul] at this; omega
  have hq : ((a * B + b) * B + c0) / (v1 * B + v0) < B := by
    rw [Nat.div_lt_iff_lt_mul (by omega)]
    have : (a * B + b + 1) * B ≤ (v1 * B + v0) * B := Nat.mul_le_mul_right B (by omega)
    rw [Nat.add_mul (a * B + b)] at this
    rw [Nat.mul_comm B]
    omega
  have hvB : B ≤ v1 * B + v0 := by
    have : 1 * B ≤ v1 * B := Nat.mul_le_mul_right B (by omega)
    omega
  have hd := Nat.div_mul_le_self ((a * B + b) * B + c0) (v1 * B + v0)
  have hd2 : (a * B + b) * B + c0 < (((a * B + b) * B + c0) / (v1 * B + v0) + 1) * (v1 * B + v0) := lt_succ_div_mul _ (by omega)
  have hv' := val_lt (dv.take n)
  have hw' := val_lt (dw.take n)
  rw [List.length_take, Nat.min_eq_left (by omega)] at hv' hw'
  have EV : val B vs = (v1 * B + v0) * B ^ n + val B (vs.take n) := by
    rw [top2 hv, e1, e0, Nat.add_comm, Nat.mul_comm (B ^ n), Nat.mul_comm B v1, Nat.add_comm v0]
  have EW : val B ws = ((a * B + b) * B + c0) * B ^ n + val B (ws.take n) := by
    rw [top3 hw, ea, eb, ec, Nat.add_comm, Nat.mul_comm (B ^ n), Nat.add_comm c0, Nat.mul_comm B, Nat.add_comm b, Nat.mul_comm B a]
  rw [EV, EW]
  exact ⟨knuth2 _ _ _ _ _ _ B hv' hq (Nat.mul_le_mul_right _ hvB) hd, knuth2_lt _ _ _ _ _ _ hw' hd2⟩

theorem quiet_add {P : Program} {f : FuncId} {args : Array Value} {w : World} {a n : Nat} {v : Value}
    (h : Calls P f args (w.drewN (a + n)) fun e w' => e = .returned v ∧ ∃ m, w' = (w.drewN (a + n)).drewN m) :
    Calls P f args (w.drewN (a + n)) fun e w'' => e = .returned v ∧ ∃ m, w'' = w.drewN (a + m) :=
  h.mono fun _ _ ⟨he, m, hm⟩ => ⟨he, n + m, by rw [hm, World.drewN_drewN, Nat.add_assoc]⟩
theorem est_start' {H U v1 v0 u qi ri : Nat} (hH : 0 < H) (hv1 : 0 < v1) (hu : u < H) (h : qi * v1 + ri = U) (hr : ri < v1) : EstRel H U v1 v0 u qi ri := by
  refine ⟨h, ?_⟩
  have hp : 0 < v1 * H := Nat.mul_pos hv1 hH
  rw [← Nat.lt_succ_iff, Nat.div_lt_iff_lt_mul (by omega)]
  have h1 : U < (qi + 1) * v1 := by rw [Nat.add_mul]; omega
  have h2 : (U + 1) * H ≤ (qi + 1) * v1 * H := Nat.mul_le_mul_right _ h1
  rw [Nat.succ_eq_add_one, Nat.mul_add, ← Nat.mul_assoc]
  rw [Nat.add_mul U] at h2
  omega
/-- the test of the loop: high*W + low against rest*W + c0 -/
theorem est_test {p q rest c0 : Nat} (hp : mulLo p q < W64) (hc : c0 < W64) : (mulHi p q < rest ∨ mulHi p q = rest ∧ mulLo p q ≤ c0) ↔ p * q ≤ W64 * rest + c0 := by
  have h := mul_spec p q
  constructor
  · rintro (h1 | ⟨h1, h2⟩)
    · have : W64 * (mulHi p q + 1) ≤ W64 * rest := Nat.mul_le_mul_left _ h1
      rw [Nat.mul_add] at this
      omega
    · rw [h1] at h; omega
  · intro h1
    rcases Nat.lt_trichotomy (mulHi p q) rest with h2 | h2 | h2
    · exact Or.inl h2
    · exact Or.inr ⟨h2, by rw [h2] at h; omega⟩
    · have : W64 * (rest + 1) ≤ W64 * mulHi p q := Nat.mul_le_mul_left _ h2
      rw [Nat.mul_add] at this
      omega

def EstPost (u v : Nat) (w : World) (e : Ending) (w' : World) : Prop := ∃ d : Nat, e = .returned (.int .u64 (d : Int)) ∧ d < W64 ∧ DigitOf u v d ∧ ∃ n, w' = w.drewN n

set_option maxHeartbeats 2000000 in
set_option maxRecDepth 100000 in
theorem estimate_any (A A2 : Option Addr) (ws vs : List Nat) (n m c c2 k : Nat) (w : World) (hn : ws.length = n) (hm : vs.length = m) (hW : Shows .u64 w A ws) (hV : Shows .u64 w A2 vs) (hk : vs.length = k + 2) (hwl : ws.length = k + 3) (hl : k ≤ 1099511627776)
    (dw : Dig W64 ws) (dv : Dig W64 vs) (hnorm : W64 ≤ 2 * (vs[k + 1]?.getD 0)) (hu : val W64 ws < val W64 vs * W64) :
    Calls Tryz.prog 205 #[.slice A n c, .slice A2 m c2] w (EstPost (val W64 ws) (val W64 vs) w) := by
  obtain ⟨b1, o1, rfl, _, hca⟩ := hW.at (i := k + 2) (by omega)
  obtain ⟨b1', o1', e1', _, hcb⟩ := hW.at (i := k + 1) (by omega)
  injection e1' with e1'; injection e1' with f1 f2; subst f1 f2
  obtain ⟨b1', o1', e1', _, hcc⟩ := hW.at (i := k) (by omega)
  injection e1' with e1'; injection e1' with f1 f2; subst f1 f2
  obtain ⟨b2, o2, rfl, _, hc1⟩ := hV.at (i := k + 1) (by omega)
  obtain ⟨b2', o2', e2', _, hc0⟩ := hV.at (i := k) (by omega)
  injection e2' with e2'; injection e2' with f1 f2; subst f1 f2
  obtain ⟨a, ea⟩ : ∃ a, ws[k + 2]?.getD 0 = a := ⟨_, rfl⟩
  obtain ⟨bb, eb⟩ : ∃ bb, ws[k + 1]?.getD 0 = bb := ⟨_, rfl⟩
  obtain ⟨cc, ec⟩ : ∃ cc, ws[k]?.getD 0 = cc := ⟨_, rfl⟩
  obtain ⟨v1, e1⟩ : ∃ v1, vs[k + 1]?.getD 0 = v1 := ⟨_, rfl⟩
  obtain ⟨v0, e0⟩ : ∃ v0, vs[k]?.getD 0 = v0 := ⟨_, rfl⟩
  rw [ea] at hca
  rw [eb] at hcb
  rw [ec] at hcc
  rw [e1] at hc1 hnorm
  rw [e0] at hc0
  have hab : Hid (a < W64) := ea ▸ dw.getD W64_pos _
  have hbb : Hid (bb < W64) := eb ▸ dw.getD W64_pos _
  have hcb' : Hid (cc < W64) := ec ▸ dw.getD W64_pos _
  have hv1b : Hid (v1 < W64) := e1 ▸ dv.getD W64_pos _
  have hv0b : Hid (v0 < W64) := e0 ▸ dv.getD W64_pos _
  obtain rfl : m = k + 2 := by omega
  obtain rfl : n = k + 3 := by omega
  by_cases hge : v1 ≤ a
  · have HD := Lib.hid (est_case1 W64_two hk hwl dv ea e1 hge hnorm hu)
    clear hW hV dw dv hnorm hu ea eb ec e1 e0 hn hm hk hwl
    go_enter Tryz.func205, Tryz.ntmps205
    go_wp2
    have g3 : IntKind.i64.wrap ((k : Int) + 2 - 1) = (k : Int) + 1 := by rw [IntKind.wrap_i64]; omega
    have g4 : IntKind.i64.wrap ((k : Int) + 2 - 2) = (k : Int) := by rw [IntKind.wrap_i64]; omega
    have g5 : (0 : Int) ≤ (k : Int) + 1 := by omega
    have g6 : ((k : Int) + 1).toNat = k + 1 := by omega
    have g7 : (k : Int) + 1 < (k : Int) + 2 := by omega
    have g8 : (k : Int) < (k : Int) + 2 := by omega
    go_quiet (fail)
    clear g3 g4 g5 g6 g7 g8
    go_wp2
    go_ret
    exact ⟨W64 - 1, by rw [show (((W64 - 1 : Nat) : Int)) = 18446744073709551615 by rw [W64_eq]; rfl]; rfl, by have := W64_pos; omega, HD.out, _, rfl⟩
  · have HD := Lib.hid (est_case2 W64_pos hk hwl dv dw ea eb ec e1 e0 (by omega))
    have hlt : a < v1 := by omega
    have hU : Hid (a * W64 + bb < v1 * W64 + v0) := by
      have : (a + 1) * W64 ≤ v1 * W64 := Nat.mul_le_mul_right _ hlt
      rw [Nat.add_mul] at this
      have := hbb.out
      unfold Hid; omega
    have hpos : Hid (0 < v1 * W64 + v0) := by have := hU.out; unfold Hid; omega
    have HE := Lib.hid (est_start' (v0 := v0) (u := cc) W64_pos (by omega) hcb'.out (div_spec a bb v1) (divR_lt _ _ (by omega)))
    have hq0 : Hid (divQ a bb v1 < W64) := divQ_lt hlt hbb.out
    have hr0 : Hid (divR a bb v1 < W64) := Nat.lt_trans (divR_lt _ _ (by omega)) hv1b.out
    clear hW hV dw dv hnorm hu ea eb ec e1 e0 hn hm hk hwl
    go_enter Tryz.func205, Tryz.ntmps205
    go_wp2
    have g3 : IntKind.i64.wrap ((k : Int) + 2 - 1) = (k : Int) + 1 := by rw [IntKind.wrap_i64]; omega
    have g4 : IntKind.i64.wrap ((k : Int) + 2 - 2) = (k : Int) := by rw [IntKind.wrap_i64]; omega
    have g5 : (0 : Int) ≤ (k : Int) + 1 := by omega
    have g6 : ((k : Int) + 1).toNat = k + 1 := by omega
    have g7 : (k : Int) + 1 < (k : Int) + 2 := by omega
    have g8 : (k : Int) < (k : Int) + 2 := by omega
    go_quiet (fail)
    clear g3 g4 g5 g6 g7 g8
    go_wp2
    have g3 : IntKind.i64.wrap ((k : Int) + 2 - 1) = (k : Int) + 1 := by rw [IntKind.wrap_i64]; omega
    have g5 : (0 : Int) ≤ (k : Int) + 1 := by omega
    have g6 : ((k : Int) + 1).toNat = k + 1 := by omega
    have g7 : (k : Int) + 1 < (k : Int) + 3 := by omega
    have g8 : (k : Int) + 2 < (k : Int) + 3 := by omega
    have g9 : (0 : Int) ≤ (k : Int) + 2 := by omega
    have g10 : ((k : Int) + 2).toNat = k + 2 := by omega
    go_quiet ((go_at_call 146; exact quiet_add (div64_any _ _ _ _ hlt hv1b.out hbb.out)))
    clear g3 g5 g6 g7 g8 g9 g10
    go_wp2
    go_loopw [8, 9] (fun qv rv wr => ∃ q r m : Nat, qv = .int .u64 (q : Int) ∧ rv = .int .u64 (r : Int) ∧ Hid (q < W64) ∧ Hid (r < W64) ∧ Hid (EstRel W64 (a * W64 + bb) v1 v0 cc q r) ∧ Hid (wr = w.drewN m)) (fun qv _ _ => (intOf qv).toNat)
    case atStart => exact ⟨_, _, _, rfl, rfl, hq0, hr0, HE, World.drewN_drewN _ _ _⟩
    case round =>
      obtain ⟨q, r, m, rfl, rfl, hqW, hrW, hE, hW⟩ := hrel
      obtain rfl := hW.out
      clear hW
      have hgo : ∀ hh : W64 * r + cc < q * v0, Hid (EstRel W64 (a * W64 + bb) v1 v0 cc (q - 1) (r + v1)) := fun hh => est_over hpos.out hh hE.out
      have Hgo := Lib.hid hgo
      clear hgo
      have htest := Lib.hid (est_test (p := q) (q := v0) (rest := r) (mulLo_lt _ _) hcb'.out)
      have hdone : ∀ hh : q * v0 ≤ W64 * r + cc, q = ((a * W64 + bb) * W64 + cc) / (v1 * W64 + v0) := fun hh => est_done hpos.out hh hE.out
      have Hdone := Lib.hid hdone
      clear hdone
      obtain ⟨hi, ehi⟩ : ∃ hi, mulHi q v0 = hi := ⟨_, rfl⟩
      obtain ⟨lo, elo⟩ : ∃ lo, mulLo q v0 = lo := ⟨_, rfl⟩
      rw [ehi, elo] at htest
      have hmul := Lib.hid (mul64_any q v0 hqW.out hv0b.out (w.drewN m))
      rw [ehi, elo] at hmul
      clear ehi elo
      by_cases t1 : hi < r
      · have Hq := Lib.hid (Hdone.out (htest.out.1 (Or.inl t1)))
        have t1' := lt_true t1
        go_wp2_with (go_at_call 178; refine hmul.out.mono ?_; rintro e w' ⟨rfl, rfl⟩)
        go_ret
        exact ⟨q, rfl, hqW.out, by rw [Hq.out]; exact HD.out, _, rfl⟩
      · have t1' := lt_false t1
        by_cases t2 : hi = r
        · subst t2
          by_cases t3 : lo ≤ cc
          · have Hq := Lib.hid (Hdone.out (htest.out.1 (Or.inr ⟨rfl, t3⟩)))
            go_wp2_with (go_at_call 178; refine hmul.out.mono ?_; rintro e w' ⟨rfl, rfl⟩)
            go_ret
            exact ⟨q, rfl, hqW.out, by rw [Hq.out]; exact HD.out, _, rfl⟩
          · have hov : W64 * hi + cc < q * v0 := by
              rcases Nat.lt_or_ge (W64 * hi + cc) (q * v0) with h | h
              · exact h
              · rcases htest.out.2 h with h | h <;> omega
            have hE2 := Hgo.out hov
            have hq0' : 0 < q := by
              rcases Nat.eq_zero_or_pos q with e | e
              · rw [e, Nat.zero_mul] at hov; omega
              · exact e
            clear hov
            have g1 := dec_u64 hq0' hqW.out
            obtain ⟨q1, eq1⟩ : ∃ q1, q - 1 = q1 := ⟨_, rfl⟩
            rw [eq1] at g1 hE2
            have hq1 : q1 < q := by omega
            have hq1W : Hid (q1 < W64) := by have := hqW.out; unfold Hid; omega
            have HE2 := Lib.hid hE2.out
            clear eq1 hE2 hq0'
            by_cases hbr : hi + v1 < W64
            · have g2 := add_u64 hbr
              obtain ⟨r1, er1⟩ : ∃ r1, hi + v1 = r1 := ⟨_, rfl⟩
              rw [er1] at g2 HE2
              have t5 := lt_false (a := r1) (b := v1) (by omega)
              have hr1W : Hid (r1 < W64) := by unfold Hid; omega
              clear er1 hbr
              go_wp2_with (go_at_call 178; refine hmul.out.mono ?_; rintro e w' ⟨rfl, rfl⟩)
              go_roundw
              case rel => exact ⟨q1, r1, _, rfl, rfl, hq1W, hr1W, HE2, rfl⟩
              case measure => simp [intOf]; omega
            · have Hq := Lib.hid (est_break hU.out hv0b.out (by omega) HE2.out)
              have g2 : IntKind.u64.wrap ((hi : Int) + (v1 : Int)) = ((hi + v1 - W64 : Nat) : Int) := by
                have h1 := hrW.out
                have h2 := hv1b.out
                rw [W64_eq] at *
                rw [IntKind.wrap_u64]
                omega
              obtain ⟨r1, er1⟩ : ∃ r1, hi + v1 - W64 = r1 := ⟨_, rfl⟩
              rw [er1] at g2
              have t5 := lt_true (a := r1) (b := v1) (by have := hrW.out; omega)
              clear er1 hbr
              go_wp2_with (go_at_call 178; refine hmul.out.mono ?_; rintro e w' ⟨rfl, rfl⟩)
              go_ret
              exact ⟨q1, rfl, hq1W.out, by rw [Hq.out]; exact HD.out, _, rfl⟩
        · have t2' : ((hi : Int) == (r : Int)) = false := by simp; omega
          have hov : W64 * r + cc < q * v0 := by
            rcases Nat.lt_or_ge (W64 * r + cc) (q * v0) with h | h
            · exact h
            · rcases htest.out.2 h with h | h <;> omega
          have hE2 := Hgo.out hov
          have hq0' : 0 < q := by
            rcases Nat.eq_zero_or_pos q with e | e
            · rw [e, Nat.zero_mul] at hov; omega
            · exact e
          clear hov
          have g1 := dec_u64 hq0' hqW.out
          obtain ⟨q1, eq1⟩ : ∃ q1, q - 1 = q1 := ⟨_, rfl⟩
          rw [eq1] at g1 hE2
          have hq1 : q1 < q := by omega
          have hq1W : Hid (q1 < W64) := by have := hqW.out; unfold Hid; omega
          have HE2 := Lib.hid hE2.out
          clear eq1 hE2 hq0'
          by_cases hbr : r + v1 < W64
          · have g2 := add_u64 hbr
            obtain ⟨r1, er1⟩ : ∃ r1, r + v1 = r1 := ⟨_, rfl⟩
            rw [er1] at g2 HE2
            have t5 := lt_false (a := r1) (b := v1) (by omega)
            have hr1W : Hid (r1 < W64) := by unfold Hid; omega
            clear er1 hbr
            go_wp2_with (go_at_call 178; refine hmul.out.mono ?_; rintro e w' ⟨rfl, rfl⟩)
            go_roundw
            case rel => exact ⟨q1, r1, _, rfl, rfl, hq1W, hr1W, HE2, rfl⟩
            case measure => simp [intOf]; omega
          · have Hq := Lib.hid (est_break hU.out hv0b.out (by omega) HE2.out)
            have g2 : IntKind.u64.wrap ((r : Int) + (v1 : Int)) = ((r + v1 - W64 : Nat) : Int) := by
              have h1 := hrW.out
              have h2 := hv1b.out
              rw [W64_eq] at *
              rw [IntKind.wrap_u64]
              omega
            obtain ⟨r1, er1⟩ : ∃ r1, r + v1 - W64 = r1 := ⟨_, rfl⟩
            rw [er1] at g2
            have t5 := lt_true (a := r1) (b := v1) (by have := hrW.out; omega)
            clear er1 hbr
            go_wp2_with (go_at_call 178; refine hmul.out.mono ?_; rintro e w' ⟨rfl, rfl⟩)
            go_ret
            exact ⟨q1, rfl, hq1W.out, by rw [Hq.out]; exact HD.out, _, rfl⟩
end Go.Proofs.YtndafmjcelgnbaaGreatDoor
