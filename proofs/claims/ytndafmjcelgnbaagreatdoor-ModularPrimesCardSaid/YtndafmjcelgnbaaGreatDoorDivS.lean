/-
  divideSimple: the division of the school.
-/
import Derived.Test.YtndafmjcelgnbaaGreatDoorKnuth
namespace Go.Proofs.YtndafmjcelgnbaaGreatDoor
open Go.RowKit

/-- two results: slices with the numbers q and r -/
def RetTwo (w : World) (q r : Nat) (e : Ending) (w' : World) : Prop := ∃ u v, e = .returned (.tuple #[u, v]) ∧ NatIs w' u q ∧ NatIs w' v r ∧ Ext w w'

theorem cmpI_neg {a b : Nat} : cmpI a b < 0 ↔ a < b := by
  unfold cmpI
  split
  · omega
  · split <;> omega

set_option maxHeartbeats 1000000 in
set_option maxRecDepth 1000000 in
theorem divideSimple_lt (xv yv : Value) (x y : Nat) (w : World) (hX : NatIs w xv x) (hY : NatIs w yv y) (hx : wl x ≤ 4294967296) (hy : wl y ≤ 4294967296) (hlt : x < y) :
    Calls Tryz.prog 183 #[xv, yv] w (RetTwo w 0 x) := by
  have HX := Lib.hid hX
  obtain ⟨A, xs, c, rfl, hc, h1, h2, h3, rfl⟩ := hX
  obtain ⟨A2, ys, c2, rfl, hc2, k1, k2, k3, rfl⟩ := hY
  rw [← wl_len h2 h3] at hx
  rw [← wl_len k2 k3] at hy
  have HC := Lib.hid (compareWords_any A A2 xs ys _ _ c c2 w rfl rfl h1 k1 (by omega) (by omega) h2 k2 h3 k3)
  rw [cmpI_lt (by omega)] at HC
  clear h1 h2 h3 k1 k2 k3 hlt hc hc2
  go_enter Tryz.func183, Tryz.ntmps183
  go_wp2_with (go_at_call 108; refine HC.out.mono ?_; rintro e w' ⟨rfl, m, rfl⟩)
  go_ret2
  exact ⟨_, _, rfl, NatIs.zero _, HX.out.ext ((Fr.refl _ _).drewN _), (Fr.refl _ _).drewN _⟩

set_option maxHeartbeats 1000000 in
set_option maxRecDepth 1000000 in
theorem divideSimple_one (xv yv : Value) (x y : Nat) (w : World) (hX : NatIs w xv x) (hY : NatIs w yv y) (hx : wl x ≤ 4294967296) (hy : wl y = 1) (hge : y ≤ x) :
    Calls Tryz.prog 183 #[xv, yv] w (RetTwo w (x / y) (x % y)) := by
  obtain ⟨A, xs, c, rfl, hc, h1, h2, h3, rfl⟩ := hX
  obtain ⟨A2, ys, c2, rfl, hc2, k1, k2, k3, rfl⟩ := hY
  rw [← wl_len h2 h3] at hx
  rw [← wl_len k2 k3] at hy
  obtain ⟨y, rfl⟩ := List.length_eq_one_iff.1 hy
  have HC := Lib.hid (compareWords_any A A2 xs [y] _ _ c c2 w rfl rfl h1 k1 (by omega) (by simp) h2 k2 h3 k3)
  obtain ⟨cr, ecr⟩ : ∃ cr, cmpI (val W64 xs) (val W64 [y]) = cr := ⟨_, rfl⟩
  have hcr : 0 ≤ cr := by
    rcases Int.lt_or_le cr 0 with h | h
    · rw [← ecr] at h; have := cmpI_neg.1 h; omega
    · exact h
  rw [ecr] at HC
  have hyv : val W64 [y] = y := by simp
  rw [hyv]
  have hy0 : 0 < y := by have := k3 0 (by simp); simp at this; omega
  have hyW : y < W64 := k2.head
  obtain ⟨b, o, rfl, _, hcy⟩ := k1.at (i := 0) (by simp)
  have hcy' : w.cell? ⟨b, o, none⟩ = some (.int .u64 (y : Int)) := by simpa using hcy
  have HD := fun w' (hf : Ext w w') => Lib.hid (divideWord_any A xs _ c y w' rfl (h1.ext hf) hx h2 hy0 hyW)
  have HDH := Lib.hid HD
  have hrW : Hid (val W64 xs % y < W64) := Nat.lt_trans (Nat.mod_lt _ hy0) hyW
  clear h1 h2 h3 k1 k2 k3 hc hc2 ecr hge hcy HD hy hyv hy0 hyW
  go_enter Tryz.func183, Tryz.ntmps183
  go_wp2_with (first
    | (go_at_call 108; refine HC.out.mono ?_; rintro e w' ⟨rfl, m, rfl⟩)
    | (go_at_call 204; refine (HDH.out _ ((Fr.refl _ _).drewN _)).out.mono ?_; rintro e w1 ⟨v, rfl, hN, hF⟩; have HN := Lib.hid hN; have HF := Lib.hid hF; clear hN hF)
    | (go_at_call 103; refine (fromWord_any _ _ hrW.out).mono ?_; rintro e w2 ⟨v2, rfl, hN2, hF2⟩; have HN2 := Lib.hid hN2; have HF2 := Lib.hid hF2; clear hN2 hF2))
  go_ret2
  exact ⟨_, _, rfl, HN.out.ext HF2.out, HN2.out, (((Fr.refl _ _).drewN _).ext HF.out).ext HF2.out⟩

theorem set_top (pre m : List Nat) (rs : List Nat) (j n v : Nat) (hp : pre.length = j) (hm : m.length = n) (hr : j + n < rs.length) : (pre ++ m ++ rs.drop (j + n)).set (j + n) v = pre ++ m ++ (v :: rs.drop (j + n + 1)) := by
  have hl : (pre ++ m).length = j + n := by simp [hp, hm]
  rw [List.set_append_right _ _ (by omega), hl, Nat.sub_self, List.drop_eq_getElem_cons hr]
  rfl
theorem get_top (pre m : List Nat) (rs : List Nat) (j n : Nat) (hp : pre.length = j) (hm : m.length = n) : (pre ++ m ++ rs.drop (j + n))[j + n]?.getD 0 = rs[j + n]?.getD 0 := by
  have hl : (pre ++ m).length = j + n := by simp [hp, hm]
  rw [List.getElem?_append_right (by omega), hl, Nat.sub_self, List.getElem?_drop]; rfl

theorem set_top2 (pre m l : List Nat) (t v j n : Nat) (hp : pre.length = j) (hm : m.length = n) : (pre ++ m ++ (t :: l)).set (j + n) v = pre ++ m ++ (v :: l) := by
  have hl : (pre ++ m).length = j + n := by simp [hp, hm]
  rw [List.set_append_right _ _ (by omega), hl, Nat.sub_self]
  rfl
theorem get_top2 (pre m l : List Nat) (t j n : Nat) (hp : pre.length = j) (hm : m.length = n) : (pre ++ m ++ (t :: l))[j + n]?.getD 0 = t := by
  have hl : (pre ++ m).length = j + n := by simp [hp, hm]
  rw [List.getElem?_append_right (by omega), hl, Nat.sub_self]
  rfl

set_option maxHeartbeats 4000000 in
set_option maxRecDepth 1000000 in
theorem divideSimple_main (A A2 : Option Addr) (xs ys : List Nat) (c c2 kk : Nat) (w : World) (hX : Shows .u64 w A xs) (hY : Shows .u64 w A2 ys) (hc : xs.length ≤ c) (hc2 : ys.length ≤ c2) (hl : xs.length ≤ 4294967296) (hk : ys.length = kk + 2)
    (dx : Dig W64 xs) (dy : Dig W64 ys) (tx : Trim xs) (ty : Trim ys) (hge : val W64 ys ≤ val W64 xs) :
    Calls Tryz.prog 183 #[.slice A xs.length c, .slice A2 ys.length c2] w (RetTwo w (val W64 xs / val W64 ys) (val W64 xs % val W64 ys)) := by
  have hlxy : kk + 2 ≤ xs.length := by
    have := wl_mono hge
    rw [← wl_len dx tx, ← wl_len dy ty] at this
    omega
  have HC := Lib.hid (compareWords_any A A2 xs ys _ _ c c2 w rfl rfl hX hY (by omega) (by omega) dx dy tx ty)
  obtain ⟨cr, ecr⟩ : ∃ cr, cmpI (val W64 xs) (val W64 ys) = cr := ⟨_, rfl⟩
  have hcr : 0 ≤ cr := by
    rcases Int.lt_or_le cr 0 with h | h
    · rw [← ecr] at h; have := cmpI_neg.1 h; omega
    · exact h
  rw [ecr] at HC
  clear ecr
  obtain ⟨bY, oY, rfl, _, hct⟩ := hY.at (i := kk + 1) (by omega)
  obtain ⟨yt, eyt⟩ : ∃ yt, ys[kk + 1]?.getD 0 = yt := ⟨_, rfl⟩
  rw [eyt] at hct
  have hyt0 : 0 < yt := by have := ty (kk + 1) (by omega); omega
  have hytW : Hid (yt < W64) := eyt ▸ dy.getD W64_pos _
  obtain ⟨s, hs⟩ : ∃ s, 64 - Lib.bitLen yt = s := ⟨_, rfl⟩
  have hbl := bitLen_bounds hyt0 hytW.out
  have hsI : Hid (64 - (Lib.bitLen yt : Int) = (s : Int)) := by unfold Hid; omega
  have hs63 : s ≤ 63 := by omega
  have NX : Hid (NatIs w (.slice A xs.length c) (val W64 xs)) := ⟨A, xs, c, rfl, hc, hX, dx, tx, rfl⟩
  have NY : Hid (NatIs w (.slice (some ⟨bY, oY, none⟩) ys.length c2) (val W64 ys)) := ⟨_, ys, c2, rfl, hc2, hY, dy, ty, rfl⟩
  have wlX : Hid (wl (val W64 xs) ≤ 4294967296) := by unfold Hid; rw [← wl_len dx tx]; omega
  have wlY : Hid (wl (val W64 ys) ≤ 4294967296) := by unfold Hid; rw [← wl_len dy ty]; omega
  have Hdx := Lib.hid dx
  have Hdy := Lib.hid dy
  have HS := Lib.hid hs
  have HEY := Lib.hid eyt
  have HK := Lib.hid hk
  clear hX hY hc hc2 dx dy tx ty hge hbl hs eyt
  obtain ⟨n, hn⟩ : ∃ n, ys.length = n := ⟨_, rfl⟩
  rw [hn] at HC NY
  rw [hn] at HK
  rw [hn]
  have HN := Lib.hid hn
  have hn2 : n = kk + 2 := HK.out
  subst hn2
  clear hn hk HK
  have hone : (((kk : Int) + 2) == 1) = false := by simp; omega
  have hcrB : decide (cr < 0) = false := by rw [decide_eq_false_iff_not]; omega
  go_enter Tryz.func183, Tryz.ntmps183
  go_wp2_with (first
    | (go_at_call 108; refine HC.out.mono ?_; rintro e w' ⟨rfl, m, rfl⟩)
    | (go_at_call 173; refine (lead_any _ _ hytW.out).mono ?_; rintro e w' ⟨rfl, rfl⟩; rw [hsI.out]))
  refine (shiftLeft_any _ _ s _ (NY.out.ext ((Fr.refl _ _).drewN _)) wlY.out (by omega)).mono ?_
  rintro e wD ⟨vD, rfl, hND, hFD⟩
  obtain ⟨AD, vs, cD, rfl, hcD, hSD, dvs, tvs, hvv⟩ := hND
  obtain ⟨n1, n2, n3, n4⟩ := norm_spec (n := kk + 1) HN.out Hdy.out HEY.out hyt0 HS.out dvs tvs hvv
  have HSD := Lib.hid hSD
  have Hdv := Lib.hid dvs
  have HFD : Hid (Ext w wD) := ((Fr.refl _ _).drewN _).ext hFD
  have Hvv := Lib.hid hvv
  have Hn1 := Lib.hid n1
  have Hn2 := Lib.hid n2
  have Hn3 := Lib.hid n3
  rw [n1]
  clear hSD dvs tvs hvv hFD n1 n2 n3 n4 hcD hct HC hyt0 hytW hsI HS HEY
  go_wp2_with (at_make
               refine wpList_make_words rfl _ _ _ rfl _ _ _ Tryz.underlying65 info64 _ _ _ _ (xs.length + 1) rfl rfl (by omega) (by omega) (by omega) (by omega) ?_
               intro R w1 hR hO1 _ hF1 hs1
               have HO1 : Hid (Own .u64 69 w1 R ([] ++ List.replicate (xs.length + 1) 0 ++ [])) := by simpa [Hid] using hO1
               have HF1 := Lib.hid hF1
               have HR := Lib.hid hR
               clear hO1 hF1 hR hs1)
  refine (shiftLeft_any _ _ s _ (NX.out.ext (HFD.out.ext HF1.out)) wlX.out (by omega)).mono ?_
  rintro e w2 ⟨v2, rfl, hN2, hF2⟩
  obtain ⟨A3, x2, c3, rfl, hc3, hS3, d3, t3, hv3⟩ := hN2
  have HS3 := Lib.hid hS3
  have HF2 := Lib.hid hF2
  have Hd3 := Lib.hid d3
  have Hv3 := Lib.hid hv3
  have Hl3 : Hid (x2.length ≤ xs.length + 1) := by
    unfold Hid
    refine length_le_of_val W64_one t3 ?_
    rw [hv3, Nat.pow_succ]
    have h1 := val_lt Hdx.out
    have h2 : 2 ^ s ≤ W64 := by rw [W64_eq]; exact Nat.le_trans (Nat.pow_le_pow_right (by omega) hs63) (by decide)
    exact Nat.lt_of_lt_of_le (Nat.mul_lt_mul_of_pos_right h1 (Nat.pow_pos (by omega))) (Nat.mul_le_mul_left _ h2)
  clear hS3 hF2 d3 t3 hv3 hc3 NX wlX NY wlY
  go_wp2_with (first
    | (with_reducible refine wpList_copy_words rfl (.tmp 57) (.tmp 60) _ _ rfl _ _ Tryz.underlying65 info64s _ _ _ _ _ _ rfl rfl R [] (List.replicate (xs.length + 1) 0) [] x2 (by simp) rfl (HO1.out.ext HF2.out) HS3.out (fun _ => rfl) ?_
       intro w3 z hO3 _ hF3 hs3
       have HO3 := Lib.hid hO3
       have HF3 := Lib.hid hF3
       clear hO3 hF3 hs3)
    | (at_make
       refine wpList_make_words rfl _ _ _ rfl _ _ _ Tryz.underlying65 info64 _ _ _ _ (xs.length - (kk + 2) + 1) rfl rfl (by omega) (by omega) (by omega) (by omega) ?_
       intro Qb w4 hQ hO4 _ hF4 hs4
       have HO4 := Lib.hid hO4
       have HF4 := Lib.hid hF4
       have HQ := Lib.hid hQ
       clear hO4 hF4 hQ hs4))
  have hRlt : Hid (R < Qb) := by
    have h1 := HO3.out.lt
    have h2 := HQ.out
    unfold Hid; omega
  have hV : Hid (val W64 vs ≤ W64 ^ (kk + 2)) := by
    have := val_lt Hdv.out
    rw [Hn1.out] at this
    exact Nat.le_of_lt this
  have hV0 : Hid (0 < val W64 vs) := by
    rw [Hvv.out]
    have h1 := Hn3.out
    have h2 := Nat.pow_pos (n := kk + 1) W64_pos
    exact Nat.mul_pos (by omega) (Nat.pow_pos (by omega))
  obtain ⟨X, eX⟩ : ∃ X, val W64 xs * 2 ^ s = X := ⟨_, rfl⟩
  have HX := Lib.hid eX
  have hst : Hid (∃ rs, Own .u64 69 w4 R rs ∧ rs.length = xs.length + 1 ∧ DivRel X (val W64 vs) (kk + 2) (xs.length - (kk + 2) + 1) rs (List.replicate (xs.length - (kk + 2) + 1) 0)) := by
    refine ⟨x2 ++ List.replicate (xs.length + 1 - x2.length) 0, ?_, ?_, ?_⟩
    · have h := HO3.out
      rw [List.take_of_length_le (by simp; exact Hl3.out), List.drop_replicate] at h
      have h' : Own .u64 69 w3 R (x2 ++ List.replicate (xs.length + 1 - x2.length) 0) := by simpa using h
      exact h'.ext HF4.out
    · have := Hl3.out
      simp; omega
    · rw [← HX.out, Hvv.out]
      refine DivRel.start (L := xs.length) (Hd3.out.append (Dig.replicate W64_pos _)) (by have := Hl3.out; simp; omega) ?_ (val_lt Hdx.out) (by simpa using Hn3.out) (by omega) hlxy
      rw [val_append, val_replicate, Hv3.out]; simp
  have HFw : Hid (Ext wD w4) := by
    have h1 := HR.out
    exact ((HF1.out.ext HF2.out).next HF3.out (fun i hi e => by omega)).ext HF4.out
  clear HO3 HF3 HS3 Hd3 Hv3 Hl3 HF1 HF2 HF4 HO1 hone eX
  obtain ⟨V, eV⟩ : ∃ V, val W64 vs = V := ⟨_, rfl⟩
  have HV := Lib.hid eV
  rw [eV] at hV hV0 hst
  clear eV
  go_loopw [13] (fun i wr => ∃ (k : Nat) (rs qs : List Nat), k ≤ xs.length - (kk + 2) + 1 ∧ i = .int .i64 ((k : Int) - 1) ∧ Hid (DivRel X V (kk + 2) k rs qs) ∧ Hid (rs.length = xs.length + 1) ∧ Hid (Own .u64 69 wr R rs) ∧ Hid (Own .u64 69 wr Qb qs) ∧ Hid (Ext wD wr)) (fun i _ => (intOf i + 1).toNat)
  case atStart =>
    obtain ⟨rs, h1, h2, h3⟩ := hst.out
    exact ⟨xs.length - (kk + 2) + 1, rs, _, Nat.le_refl _, by go_num, h3, h2, h1, HO4.out, HFw.out⟩
  case round =>
    clear hst HO4 HFw
    obtain ⟨k, rs, qs, hk, rfl, hR, hrl, hO1, hO2, hF1⟩ := hrel
    by_cases hlt : 0 < k
    · obtain ⟨j, rfl⟩ : ∃ j, k = j + 1 := ⟨k - 1, by omega⟩
      have ej : (((j + 1 : Nat) : Int) - 1) = (j : Int) := by omega
      rw [ej]
      clear ej
      have hjr : j + (kk + 2) < xs.length + 1 := by omega
      have hrl' := hrl.out
      obtain ⟨q1, q2, q3⟩ := hR.out.window hV.out (by omega)
      have hwl : ((rs.drop j).take (kk + 3)).length = kk + 3 := by simp; omega
      have HSV : Hid (Shows .u64 wr AD vs) := HSD.out.ext hF1.out
      have HEst := Lib.hid (estimate_any (some ⟨R, j, none⟩) AD ((rs.drop j).take (kk + 3)) vs (j + (kk + 2) + 1 - j) (kk + 1 + 1) (xs.length + 1 - j) cD kk wr (by omega) Hn1.out (hO1.out.shows j (kk + 3)) HSV.out Hn1.out hwl (by omega) ((hR.out.1.drop j).take _) Hdv.out Hn2.out (by rw [← q1, HV.out]; exact q2))
      rw [← q1, HV.out] at HEst
      have Hq2 := Lib.hid q2
      clear q1 q2 q3 hwl hrl'
      go_wp2_with fail
      (with_reducible refine HEst.out.mono ?_)
      rintro e w5 ⟨d, rfl, hdW, hdig, n5, rfl⟩
      clear HEst
      have hAR : Hid (∀ a, AD = some a → a.block ≠ R) := by
        intro a ha
        obtain ⟨b', o', e', hb', _⟩ := HSD.out.at (i := 0) (by rw [Hn1.out]; omega)
        rw [e'] at ha; injection ha with ha; subst ha
        have := HR.out
        show b' ≠ R
        omega
      have hrl' := hrl.out
      have HO3 : Hid (Own .u64 69 (wr.drewN n5) R (rs.take j ++ (rs.drop j).take (kk + 2) ++ rs.drop (j + (kk + 2)))) := by rw [split3]; exact hO1.out.drewN _
      have HMs := Lib.hid (subtractProduct_any R (xs.length + 1 - j) cD j (kk + 2) (kk + 1 + 1) d (rs.take j) ((rs.drop j).take (kk + 2)) (rs.drop (j + (kk + 2))) vs AD (wr.drewN n5) (by simp; omega) (by simp; omega) Hn1.out HO3.out (HSV.out.drewN _) hAR.out (by rw [Hn1.out]; simp; omega) (by simp; omega) ((hR.out.1.drop j).take _) Hdv.out hdW)
      have Hdig := Lib.hid hdig
      have HdW := Lib.hid hdW
      clear HO3 hdW hdig hrl'
      go_wp2_with fail
      (with_reducible refine HMs.out.mono ?_)
      rintro e w6 ⟨br, rfl, hbrW, hF6, _, m, hO6, hml, hdm, hms⟩
      clear HMs
      have hrl' := hrl.out
      have hml' : m.length = kk + 2 := by rw [hml]; simp; omega
      have hlp : (rs.take j).length = j := by simp; omega
      have hlen6 : j + (kk + 2) < (rs.take j ++ m ++ rs.drop (j + (kk + 2))).length := by simp; omega
      have hct := hO6.cell hlen6
      have hft := hO6.frozen (j + (kk + 2))
      rw [get_top _ _ _ _ _ hlp hml'] at hct
      obtain ⟨top, etop⟩ : ∃ top, rs[j + (kk + 2)]?.getD 0 = top := ⟨_, rfl⟩
      rw [etop] at hct
      have hu : val W64 (rs.drop j) = val W64 ((rs.drop j).take (kk + 2)) + W64 ^ (kk + 2) * top := by
        obtain ⟨q1, _, _⟩ := hR.out.window hV.out (by omega)
        rw [q1, val_take_succ (kk + 2) (by simp; omega), List.getElem?_drop, etop]
      have hms' : val W64 m + V * d = val W64 ((rs.drop j).take (kk + 2)) + W64 ^ (kk + 2) * br := by
        have h := hms
        unfold MsubOf at h
        rw [HV.out] at h
        have e : ((rs.drop j).take (kk + 2)).length = kk + 2 := by simp; omega
        rw [e] at h
        exact h
      have hQF : Hid (Own .u64 69 w6 Qb qs) := (hO2.out.drewN n5).fr hF6 (by have := hRlt.out; omega)
      have HF6 : Hid (Ext wD w6) := (hF1.out.drewN n5).next hF6 (fun i hi e => by have := HR.out; omega)
      have HSV6 : Hid (Shows .u64 w6 AD vs) := (HSV.out.drewN n5).fr hF6 (fun a ha _ => hAR.out a ha)
      have hql : qs.length = xs.length - (kk + 2) + 1 := by have := hR.out.2.2.1; omega
      have hmP : val W64 m < W64 ^ (kk + 2) := by have := val_lt hdm; rw [hml'] at this; exact this
      have hjq : j < qs.length := by omega
      by_cases hle : br ≤ top
      · obtain ⟨k1, k2, k3⟩ := knuth_even hV.out hu Hdig.out hms' hle
        have HR2 := Lib.hid (hR.out.step hV0.out hV.out (by omega) hml' hdm k1 k2)
        subst k3
        have g1 : IntKind.u64.wrap ((top : Int) - (top : Int)) = 0 := by rw [Int.sub_self]; rfl
        have t1 := lt_false (a := top) (b := top) (by omega)
        have hO7 := hO6.set (j + (kk + 2)) 0 hlen6
        rw [set_top _ _ _ _ _ _ hlp hml' (by omega)] at hO7
        have hF7 : Fr (· = R) w6 (w6.setCell ⟨R, j + (kk + 2), none⟩ (.int .u64 ((0 : Nat) : Int))) := (Fr.refl (· = R) w6).setCell (p := ⟨R, j + (kk + 2), none⟩) (Or.inl rfl) _
        have hO8 := hQF.out.fr hF7 (by have := hRlt.out; omega)
        have hcq := hO8.cell hjq
        have hfq := hO8.frozen j
        obtain ⟨z0, ez0⟩ : ∃ z0, qs[j]?.getD 0 = z0 := ⟨_, rfl⟩
        rw [ez0] at hcq
        have HO9 := Lib.hid (hO8.set j d hjq)
        have HO10 := Lib.hid (hO7.far (p := ⟨Qb, j, none⟩) (by have := hRlt.out; show R ≠ Qb; omega) (.int .u64 (d : Int)))
        have HF10 : Hid (Ext wD ((w6.setCell ⟨R, j + (kk + 2), none⟩ (.int .u64 ((0 : Nat) : Int))).setCell ⟨Qb, j, none⟩ (.int .u64 (d : Int)))) := (HF6.out.next hF7 (fun i hi e => by have := HR.out; omega)).setCell (Or.inr (by have := HR.out; have := hRlt.out; show wD.heap.size ≤ Qb; omega)) _
        have hnl : Hid ((rs.take j ++ m ++ (0 :: rs.drop (j + (kk + 2) + 1))).length = xs.length + 1) := by unfold Hid; simp; omega
        clear hbrW hF6 hO6 hml hdm hms hrl' hml' hlp hlen6 etop hu hms' hmP k1 k2 hO7 hF7 hO8 ez0 hle
        simp only [Int.ofNat_zero] at *
        go_wp2
        go_roundw
        case rel => exact ⟨j, _, _, by omega, rfl, HR2, hnl, HO10.out, HO9.out, HF10.out⟩
        case measure => simp [intOf]
      · have hd0 : 0 < d := by
          rcases Nat.eq_zero_or_pos d with e | e
          · subst e
            have : W64 ^ (kk + 2) * 1 ≤ W64 ^ (kk + 2) * br := Nat.mul_le_mul_left _ (by omega)
            omega
          · exact e
        have g2 := dec_u64 hd0 HdW.out
        obtain ⟨d1, ed1⟩ : ∃ d1, d - 1 = d1 := ⟨_, rfl⟩
        rw [ed1] at g2
        obtain ⟨t2, g1, k1⟩ := wrapU ((top : Int) - (br : Int))
        have t1 := lt_true (a := top) (b := br) (by omega)
        have hO7 := hO6.set (j + (kk + 2)) t2 hlen6
        rw [set_top _ _ _ _ _ _ hlp hml' (by omega)] at hO7
        have hF7 : Fr (· = R) w6 (w6.setCell ⟨R, j + (kk + 2), none⟩ (.int .u64 (t2 : Int))) := (Fr.refl (· = R) w6).setCell (p := ⟨R, j + (kk + 2), none⟩) (Or.inl rfl) _
        have HO7 := Lib.hid hO7
        have HF7 := Lib.hid hF7
        have HO8 := Lib.hid (hQF.out.fr hF7 (by have := hRlt.out; omega))
        have HSV7 : Hid (Shows .u64 (w6.setCell ⟨R, j + (kk + 2), none⟩ (.int .u64 (t2 : Int))) AD vs) := HSV6.out.fr hF7 (fun a ha _ => hAR.out a ha)
        have HF8 : Hid (Ext wD (w6.setCell ⟨R, j + (kk + 2), none⟩ (.int .u64 (t2 : Int)))) := HF6.out.next hF7 (fun i hi e => by have := HR.out; omega)
        have Hdm := Lib.hid hdm
        have Hml := Lib.hid hml'
        have Hlp := Lib.hid hlp
        have Hu := Lib.hid hu
        have Hms := Lib.hid hms'
        have HmP := Lib.hid hmP
        have Hk1 := Lib.hid k1
        have Hd1 := Lib.hid ed1
        have Hql := Lib.hid hql
        have hlt2 : top < br := by omega
        clear hbrW hF6 hO6 hml hdm hms hrl' hml' hlp hlen6 etop hu hms' hmP k1 hO7 hF7 hle ed1 hql HSV6 HF6 hQF
        go_wp2
        generalize hw7 : w6.setCell ⟨R, j + (kk + 2), none⟩ (.int .u64 (t2 : Int)) = w7 at *
        clear hw7 hct hft g1 g2 t1
        obtain ⟨wo, rfl⟩ : ∃ wo : World, wo = wr := ⟨_, rfl⟩
        go_loopw [17, 115] (fun cv iv wr => ∃ (kx cc : Nat) (m2 : List Nat), kx ≤ kk + 2 ∧ iv = .int .i64 (kx : Int) ∧ cc ≤ 1 ∧ cv = .int .u64 (cc : Int) ∧ Hid (AddRel m vs kx m2 cc) ∧ Hid (Own .u64 69 wr R (rs.take j ++ m2 ++ (t2 :: rs.drop (j + (kk + 2) + 1)))) ∧ Hid (Fr (· = R) w7 wr)) (fun _ iv _ => kk + 2 - (intOf iv).toNat)
        case atStart => exact ⟨0, 0, m, by omega, rfl, by omega, rfl, AddRel.start _ _ Hdm.out, HO7.out, Fr.refl _ _⟩
        case round =>
          obtain ⟨kx, cc, m2, hkx, rfl, hcc, rfl, hA2, hO11, hF11⟩ := hrel
          have hm2l : m2.length = kk + 2 := by rw [hA2.out.1]; exact Hml.out
          by_cases hlt3 : kx < kk + 2
          · obtain ⟨b3, o3, rfl, _, hcv⟩ := (HSV7.out.fr hF11.out (fun a ha _ => hAR.out a ha)).at (i := kx) (by rw [Hn1.out]; omega)
            obtain ⟨y, ey⟩ : ∃ y, vs[kx]?.getD 0 = y := ⟨_, rfl⟩
            obtain ⟨z, ez⟩ : ∃ z, m2[kx]?.getD 0 = z := ⟨_, rfl⟩
            have hkm : kx < m2.length := by omega
            have hcz := hO11.out.mid (k := kx) hkm
            have hfz := hO11.out.frozen (j + kx)
            rw [Hlp.out] at hcz
            rw [ey] at hcv
            rw [ez] at hcz
            have HR3 := Lib.hid (hA2.out.step (by rw [Hml.out]; omega) ez ey (by rw [Hn1.out]; omega))
            have hle3 : addHi z y cc ≤ 1 := addHi_le (ez ▸ hA2.out.2.2.1.getD W64_pos kx) (ey ▸ Hdv.out.getD W64_pos kx) hcc
            have HO12 := Lib.hid (hO11.out.set_mid hkm (addLo z y cc))
            rw [Hlp.out] at HO12
            have ha := run_Add64 z y cc hcc
            clear ey ez hm2l
            go_wp2
            go_roundw
            case rel => exact ⟨kx + 1, _, _, by omega, by go_num, hle3, rfl, HR3, HO12.out, hF11.out.setCell (p := ⟨R, j + kx, none⟩) (Or.inl rfl) _⟩
            case measure => simp [intOf]; omega
          · obtain rfl : kx = kk + 2 := by omega
            have hsum := hA2.out.done (by rw [Hn1.out]; omega) (by rw [Hml.out]; omega) (Or.inr Hml.out.symm)
            rw [Hml.out, HV.out] at hsum
            obtain ⟨_, k2, k3, k4⟩ := knuth_odd hV0.out hV.out Hu.out Hdig.out Hms.out hlt2 HmP.out hsum (by have := val_lt hA2.out.2.2.1; rw [hm2l] at this; exact this)
            have g3 : IntKind.u64.wrap ((t2 : Int) + (cc : Int)) = 0 := by
              have h1 := Hk1.out
              rw [IntKind.wrap_u64]
              omega
            rw [Hd1.out] at k2
            have hrl' := hrl.out
            have hql' := Hql.out
            have hlen2 : j + (kk + 2) < (rs.take j ++ m2 ++ (t2 :: rs.drop (j + (kk + 2) + 1))).length := by simp; omega
            have hct := hO11.out.cell hlen2
            have hft := hO11.out.frozen (j + (kk + 2))
            rw [get_top2 _ _ _ _ _ _ Hlp.out hm2l] at hct
            have hO13 := hO11.out.set (j + (kk + 2)) 0 hlen2
            rw [set_top2 _ _ _ _ _ _ _ Hlp.out hm2l] at hO13
            have hF13 : Fr (· = R) w7 (wr.setCell ⟨R, j + (kk + 2), none⟩ (.int .u64 ((0 : Nat) : Int))) := hF11.out.setCell (p := ⟨R, j + (kk + 2), none⟩) (Or.inl rfl) _
            have hO14 := HO8.out.fr hF13 (by have := hRlt.out; omega)
            have hjq : j < qs.length := by omega
            have hcq := hO14.cell hjq
            have hfq := hO14.frozen j
            obtain ⟨z0, ez0⟩ : ∃ z0, qs[j]?.getD 0 = z0 := ⟨_, rfl⟩
            rw [ez0] at hcq
            have HR2 := Lib.hid (hR.out.step hV0.out hV.out (by omega) hm2l hA2.out.2.2.1 k2 k3)
            have HO15 := Lib.hid (hO14.set j d1 hjq)
            have HO16 := Lib.hid (hO13.far (p := ⟨Qb, j, none⟩) (by have := hRlt.out; show R ≠ Qb; omega) (.int .u64 (d1 : Int)))
            have HF16 : Hid (Ext wD ((wr.setCell ⟨R, j + (kk + 2), none⟩ (.int .u64 ((0 : Nat) : Int))).setCell ⟨Qb, j, none⟩ (.int .u64 (d1 : Int)))) := (HF8.out.next hF13 (fun i hi e => by have := HR.out; omega)).setCell (Or.inr (by have := HR.out; have := hRlt.out; show wD.heap.size ≤ Qb; omega)) _
            have hnl : Hid ((rs.take j ++ m2 ++ (0 :: rs.drop (j + (kk + 2) + 1))).length = xs.length + 1) := by unfold Hid; simp; omega
            clear hsum k2 k3 k4 hrl' hql' hlen2 hO13 hF13 hO14 ez0 hm2l
            simp only [Int.ofNat_zero] at *
            go_wp2
            go_roundw
            case rel => exact ⟨j, _, _, by omega, rfl, HR2, hnl, HO16.out, HO15.out, HF16.out⟩
            case measure => simp [intOf]
    · obtain rfl : k = 0 := by omega
      obtain ⟨k1, k2⟩ := hR.out.done
      have hql : qs.length = xs.length - (kk + 2) + 1 := by have := hR.out.2.2.1; have := hrl.out; omega
      have hsh := div_shift (val W64 xs) (val W64 ys) (2 ^ s) (Nat.pow_pos (by omega))
      have NQ := NatIs.of_own (c := xs.length - (kk + 2) + 1) hO2.out hR.out.2.1 (by omega)
      have NR := NatIs.of_own (c := xs.length + 1) hO1.out hR.out.1 (by have := hrl.out; omega)
      rw [k1, ← HX.out, ← HV.out, Hvv.out, hsh.1] at NQ
      rw [k2, ← HX.out, ← HV.out, Hvv.out] at NR
      have HNQ := Lib.hid NQ
      have HNR := Lib.hid NR
      have HT1 := Lib.hid (trim_any _ qs (xs.length - (kk + 2) + 1) (xs.length - (kk + 2) + 1) wr hql hO2.out.shows0 (by omega) (by omega))
      have HT2 := Lib.hid (trim_any _ rs (xs.length + 1) (xs.length + 1) wr hrl.out hO1.out.shows0 (by have := hrl.out; omega) (by have := hrl.out; omega))
      have Hsh := Lib.hid hsh.2
      have hwl : Hid (wl (val W64 xs * 2 ^ s % (val W64 ys * 2 ^ s)) ≤ 4294967296) := by
        refine Nat.le_trans ((wl_le_iff (k := kk + 2)).2 ?_) (by omega)
        have h1 := Nat.mod_lt (val W64 xs * 2 ^ s) hV0.out
        rw [← HV.out, Hvv.out] at h1
        have h2 := hV.out
        rw [← HV.out, Hvv.out] at h2
        exact Nat.lt_of_lt_of_le h1 h2
      clear k1 k2 hql hsh NQ NR
      go_wp2_with fail
      (with_reducible refine HT1.out.mono ?_)
      rintro e w7 ⟨rfl, rfl⟩
      clear HT1
      go_wp2_with fail
      (with_reducible refine HT2.out.mono ?_)
      rintro e w7 ⟨rfl, rfl⟩
      clear HT2
      go_wp2_with fail
      (with_reducible refine (shiftRight_any _ _ s _ HNR.out hwl.out (by omega)).mono ?_)
      rintro e w7 ⟨v7, rfl, hN7, hF7⟩
      rw [Hsh.out] at hN7
      have HN7 := Lib.hid hN7
      have HF7 := Lib.hid hF7
      clear hN7 hF7
      go_wp2
      go_ret2
      exact ⟨_, _, rfl, HNQ.out.ext HF7.out, HN7.out, (HFD.out.ext hF1.out).ext HF7.out⟩

theorem divideSimple_any (xv yv : Value) (x y : Nat) (w : World) (hX : NatIs w xv x) (hY : NatIs w yv y) (hx : wl x ≤ 4294967296) (hy : wl y ≤ 4294967296) (h0 : 0 < y) :
    Calls Tryz.prog 183 #[xv, yv] w (RetTwo w (x / y) (x % y)) := by
  rcases Nat.lt_or_ge x y with hlt | hge
  · rw [Nat.div_eq_of_lt hlt, Nat.mod_eq_of_lt hlt]
    exact divideSimple_lt xv yv x y w hX hY hx hy hlt
  · have hp := wl_pos h0
    by_cases h1 : wl y = 1
    · exact divideSimple_one xv yv x y w hX hY hx h1 hge
    · obtain ⟨A, xs, c, rfl, hc, h1', h2, h3, rfl⟩ := hX
      obtain ⟨A2, ys, c2, rfl, hc2, k1, k2, k3, rfl⟩ := hY
      rw [← wl_len h2 h3] at hx
      rw [← wl_len k2 k3] at hy h1 hp
      exact divideSimple_main A A2 xs ys c c2 (ys.length - 2) w h1' k1 hc hc2 hx (by omega) h2 k2 h3 k3 hge

set_option maxHeartbeats 400000 in
theorem divideWords_any (xv yv : Value) (x y : Nat) (w : World) (hX : NatIs w xv x) (hY : NatIs w yv y) (hx : wl x ≤ 4294967296) (hy : wl y < 80) (h0 : 0 < y) :
    Calls Tryz.prog 158 #[xv, yv] w (RetTwo w (x / y) (x % y)) := by
  have HD := Lib.hid (divideSimple_any xv yv x y w hX hY hx (by omega) h0)
  obtain ⟨A, xs, c, rfl, hc, h1', h2, h3, rfl⟩ := hX
  obtain ⟨A2, ys, c2, rfl, hc2, k1, k2, k3, rfl⟩ := hY
  rw [← wl_len k2 k3] at hy
  clear h1' h2 h3 k1 k2 k3 hc hc2
  go_enter Tryz.func158, Tryz.ntmps158
  go_wp2_with (go_at_call 183; refine HD.out.mono ?_; rintro e w1 ⟨u, v, rfl, hN1, hN2, hF⟩; have HN1 := Lib.hid hN1; have HN2 := Lib.hid hN2; have HF := Lib.hid hF; clear hN1 hN2 hF)
  go_ret2
  exact ⟨_, _, rfl, HN1.out, HN2.out, HF.out⟩
end Go.Proofs.YtndafmjcelgnbaaGreatDoor
