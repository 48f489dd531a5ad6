/-
  Package rational: Read.
-/
import Derived.Test.YtndafmjcelgnbaaGreatDoorRat
namespace Go.Proofs.YtndafmjcelgnbaaGreatDoor
open Go.RowKit

theorem Blk.one {t : TypeId} {w wb : World} {x : Array Value} (h : w.alloc (.cells x t) = wb) : Blk t wb w.heap.size x ∧ Ext w wb := by
  subst h
  exact ⟨Blk.new _ _ _, (Fr.refl _ _).alloc _⟩
/-- the end of a function whose results are a Ratio in block r and a Boolean -/
theorem fin_read {fn : Func} {tmps : Array Value} {w wz : World} {r : Nat} {ok : Bool} {s t : Bool} {A B : Option Addr} {l c l' c' : Nat} {L : List UInt8} (hres : fn.results = #[.cell 2 80, .tmp 3]) (ht : tmps[2]? = some (.pointer (some ⟨r, 0, none⟩))) (h3 : tmps[3]? = some (.bool ok))
    (hB : Blk 80 wz r #[.bool s, .slice A l c, .bool t, .slice B l' c']) (hE : Ext w wz)
    (hR : (ok = true ∧ ∃ q, readF L = some q ∧ RatIs wz (.agg #[.bool s, .slice A l c, .bool t, .slice B l' c']) q) ∨ (ok = false ∧ readF L = none ∧ RatIs wz (.agg #[.bool s, .slice A l c, .bool t, .slice B l' c']) 0)) :
    bodyPost Tryz.prog fn (RetRead w L) .ret ⟨tmps, []⟩ wz := by
  obtain ⟨h0, h1, h2, h4, _⟩ := hB.cell4
  exact bodyPost_ret (v := .tuple #[.agg #[.bool s, .slice A l c, .bool t, .slice B l' c'], .bool ok]) (by simp [results, hres, ht, h3, go_sem, h0, h1, h2, h4]) rfl ⟨_, ok, rfl, hE, hR⟩
theorem Fr.set4 {w : World} {r : Nat} (a b c d : Value) : Fr (fun i => i = r) w ((((w.setCell ⟨r, 0, none⟩ a).setCell ⟨r, 1, none⟩ b).setCell ⟨r, 2, none⟩ c).setCell ⟨r, 3, none⟩ d) :=
  ((((Fr.refl (fun i => i = r) w).setCell (p := ⟨r, 0, none⟩) (Or.inl rfl) _).setCell (p := ⟨r, 1, none⟩) (Or.inl rfl) _).setCell (p := ⟨r, 2, none⟩) (Or.inl rfl) _).setCell (p := ⟨r, 3, none⟩) (Or.inl rfl) _
theorem Fr.set2 {w : World} {r i j : Nat} (a b : Value) : Fr (fun k => k = r) w ((w.setCell ⟨r, i, none⟩ a).setCell ⟨r, j, none⟩ b) :=
  ((Fr.refl (fun k => k = r) w).setCell (p := ⟨r, i, none⟩) (Or.inl rfl) _).setCell (p := ⟨r, j, none⟩) (Or.inl rfl) _
theorem Fr.local_ {w w1 w2 : World} {r : Nat} (hE : Ext w w1) (hF : Fr (fun i => i = r) w1 w2) (hr : w.heap.size ≤ r) : Ext w w2 := hE.next hF (fun i hi e => by omega)
/-- the four cells of a Ratio stored into block r -/
theorem Blk.put4 {t : TypeId} {w : World} {r : Nat} {x y z u : Value} (h : Blk t w r #[x, y, z, u]) (a b c d : Value) : Blk t ((((w.setCell ⟨r, 0, none⟩ a).setCell ⟨r, 1, none⟩ b).setCell ⟨r, 2, none⟩ c).setCell ⟨r, 3, none⟩ d) r #[a, b, c, d] :=
  (((h.set_ 0 a).set_ 1 b).set_ 2 c).set_ 3 d

/-- the common divisors that Read asks for -/
def ReadOk (l : List UInt8) : Prop := l.length ≤ 570 ∧ ∀ neg num den, splitF l = (neg, num, den, true) → den ≠ [] → GcdOk (sg neg (decVal num)) (decVal den : Int)
theorem ratOf_int (z : Int) : ((z : Int) : Rat).num = z ∧ denF ((z : Int) : Rat) = 0 := by
  refine ⟨rfl, ?_⟩
  unfold denF
  rw [if_pos (show ((z : Int) : Rat).den = 1 from rfl)]
theorem mkRat_parts {z : Int} {d : Nat} (hd : 2 ≤ d) (hg : Nat.gcd z.natAbs d = 1) : (mkRat z d).num = z ∧ denF (mkRat z d) = (d : Int) := by
  have h1 : mkRat z d = ⟨z, d, by omega, hg⟩ := by
    rw [← Rat.normalize_eq_mkRat (by omega)]
    exact Rat.normalize_eq_mk' z d (by omega) hg
  rw [h1]
  refine ⟨rfl, ?_⟩
  unfold denF
  simp
  omega

set_option maxHeartbeats 2000000 in
set_option maxRecDepth 100000 in
theorem Read_any (s : ByteArray) (w : World) (hg : Glob w) (hok : ReadOk (bytes s)) : Calls Tryz.prog 60 #[.string s] w (RetRead w (bytes s)) := by
  have hs : s.size ≤ 570 := by have := hok.1; rw [bytes_length] at this; exact this
  have HG := Lib.hid hg
  have HO := Lib.hid hok
  clear hg hok
  go_enter Tryz.func60, Tryz.ntmps60
  go_wp2_with fail
  generalize hwb : World.alloc w _ = wb
  obtain ⟨hB0, hE0⟩ := Blk.one hwb
  have HB0 := Lib.hid hB0
  have HE0 := Lib.hid hE0
  clear hwb hB0 hE0
  refine (split_any s _ (by omega)).mono ?_
  rintro e w1 ⟨neg, t, d, ok, rfl, hsp, hF1⟩
  have HSP := Lib.hid hsp
  have HB1 := Lib.hid (HB0.out.ext hF1)
  have HE1 := Lib.hid (HE0.out.trans hF1)
  clear hsp hF1 HB0 HE0
  cases ok with
  | false =>
    have hR : Hid (readF (bytes s) = none) := by unfold Hid readF; rw [HSP.out]
    obtain ⟨x0, x1, x2, x3, x4, x5, x6, x7⟩ := HB1.out.cell4
    have hlt := HB1.out.lt
    go_wp2
    have hB2 := (HB1.out.put4 (.bool false) (.slice none 0 0) (.bool false) (.slice none 0 0)).alloc (.cells #[.bool neg, .string t, .string d] 120)
    exact fin_read rfl rfl rfl hB2 ((Fr.local_ HE1.out (Fr.set4 _ _ _ _) (by omega)).alloc _) (Or.inr ⟨rfl, hR.out, RatIs.zero _⟩)
  | true =>
    obtain ⟨hd1, hd2, hd3⟩ := splitF_digits HSP.out
    rw [bytes_length, bytes_length, bytes_length] at hd3
    have Hd1 := Lib.hid hd1
    have Hd2 := Lib.hid hd2
    obtain ⟨hk1, hk2⟩ := splitF_den HSP.out
    have Hk1 := Lib.hid hk1
    have Hk2 := Lib.hid hk2
    have hpn : PrsOk t.size := by unfold PrsOk; omega
    have hpd : PrsOk d.size := by unfold PrsOk; omega
    have HPn := Lib.hid hpn
    have HPd := Lib.hid hpd
    clear hd1 hd2 hd3 hk1 hk2 hpn hpd
    go_wp2_with fail
    generalize hwb : World.alloc w1 _ = wf
    obtain ⟨hBf, hEf⟩ := Blk.one hwb
    have HBf := Lib.hid hBf
    have HB2 := Lib.hid (HB1.out.ext hEf)
    have HE2 := Lib.hid (HE1.out.trans hEf)
    have hfl : w.heap.size < w1.heap.size := HB1.out.lt
    generalize w1.heap.size = F at *
    clear hwb hBf hEf HB1 HE1
    refine (intParse_any t _ Hd1.out HPn.out).mono ?_
    rintro e w2 ⟨u, rfl, hI, hF2⟩
    obtain ⟨s1, A1, l1, c1, rfl⟩ := hI.shape
    have HB3 := Lib.hid (HB2.out.ext hF2)
    have HBf3 := Lib.hid (HBf.out.ext hF2)
    have HE3 := Lib.hid (HE2.out.trans hF2)
    have HI := Lib.hid hI
    obtain ⟨y0, y1, y2, y3, y4, y5⟩ := HBf3.out.cell3
    have hflt := HBf3.out.lt
    clear hI hF2 HB2 HBf HE2
    by_cases hd : bytes d = []
    · have hde : d.toList.isEmpty = true := by rw [Lib.toList_data, show d.data.toList = [] from hd]; rfl
      obtain ⟨x0, x1, x2, x3, x4, x5, x6, x7⟩ := HB3.out.cell4
      have hrl := HB3.out.lt
      have HRi : Hid (readF (bytes s) = some ((sg neg (decVal (bytes t)) : Int) : Rat)) := by
        unfold Hid readF; rw [HSP.out]; simp only []; rw [if_pos hd]
      clear hd
      cases neg with
      | false =>
        go_wp2
        have hB4 := (HB3.out.put4 (.bool s1) (.slice A1 l1 c1) (.bool false) (.slice none 0 0)).alloc (.cells #[.bool s1, .slice A1 l1 c1, .bool false, .slice none 0 0] 80)
        refine fin_read rfl rfl rfl hB4 ((Fr.local_ HE3.out (Fr.set4 _ _ _ _) (by omega)).alloc _) (Or.inl ⟨rfl, _, HRi.out, _, _, _, _, _, _, _, _, rfl, ?_, ?_⟩)
        · exact (HI.out.other HB3.out noWords4 (Fr.set4 _ _ _ _)).ext ((Fr.refl _ _).alloc _)
        · rw [(ratOf_int _).2]; exact IntIs.zero _
      | true =>
        clear x0 x1 x2 x3 x4 x5 x6 x7
        go_wp2_with fail
        generalize hwb : World.alloc w2 _ = wx
        obtain ⟨hBx, hEx⟩ := Blk.one hwb
        have HBx := Lib.hid hBx
        have HBr := Lib.hid (HB3.out.ext hEx)
        have HIx := Lib.hid (HI.out.ext hEx)
        have HEx := Lib.hid (HE3.out.trans hEx)
        have HBfx := Lib.hid (HBf3.out.ext hEx)
        have hfX : F < w2.heap.size := HBf3.out.lt
        generalize w2.heap.size = X at *
        clear hwb hBx hEx
        refine (Neg_any _ _ _ HIx.out).mono ?_
        rintro e w3 ⟨u3, rfl, hI3, hF3⟩
        obtain ⟨s3, A3, l3, c3, rfl⟩ := hI3.shape
        have HBr3 := Lib.hid (HBr.out.ext hF3)
        have HBx3 := Lib.hid (HBx.out.ext hF3)
        have HE4 := Lib.hid (HEx.out.trans hF3)
        have HBf4 := Lib.hid (HBfx.out.ext hF3)
        have HI3 : Hid (IntIs w3 (.agg #[.bool s3, .slice A3 l3 c3]) (sg true (decVal (bytes t)))) := hI3
        obtain ⟨y0, y1, y2, y3, y4, y5⟩ := HBf4.out.cell3
        obtain ⟨m0, m1, m2, m3, m4, m5, m6, m7⟩ := HBx3.out.cell4
        obtain ⟨x0, x1, x2, x3, x4, x5, x6, x7⟩ := HBr3.out.cell4
        clear hI3 hF3
        go_wp2
        have hF5 : Fr (fun k => k = X) w3 ((w3.setCell ⟨X, 0, none⟩ (.bool s3)).setCell ⟨X, 1, none⟩ (.slice A3 l3 c3)) := Fr.set2 _ _
        have hBr5 := HBr3.out.fr hF5 (by omega)
        refine fin_read rfl rfl rfl (hBr5.put4 _ _ _ _) (Fr.local_ (Fr.local_ HE4.out hF5 (by omega)) (Fr.set4 _ _ _ _) (by omega)) (Or.inl ⟨rfl, _, HRi.out, _, _, _, _, _, _, _, _, rfl, ?_, ?_⟩)
        · exact (HI3.out.other HBx3.out noWords4 hF5).other hBr5 noWords4 (Fr.set4 _ _ _ _)
        · rw [(ratOf_int _).2]; exact IntIs.zero _
    · have hde : d.toList.isEmpty = false := (head_of hd).2.2
      have HDne := Lib.hid hd
      clear hd
      cases neg with
      | false =>
        have HRd : Hid ((Nat.gcd (sg false (decVal (bytes t))).natAbs (decVal (bytes d)) = 1 → readF (bytes s) = some (mkRat (sg false (decVal (bytes t))) (decVal (bytes d)))) ∧ (¬ Nat.gcd (sg false (decVal (bytes t))).natAbs (decVal (bytes d)) = 1 → readF (bytes s) = none)) := by
          have e : (sg false (decVal (bytes t))).natAbs = decVal (bytes t) := by simp [sg]
          rw [e]
          unfold Hid readF
          rw [HSP.out]
          simp only []
          rw [if_neg HDne.out]
          exact ⟨fun h => if_pos h, fun h => if_neg h⟩
        have HFz : Hid (Fits (sg false (decVal (bytes t)))) := by
          have e : (sg false (decVal (bytes t))).natAbs = decVal (bytes t) := by simp [sg]
          unfold Hid Fits
          rw [e]
          refine wl_pow10 (decVal_lt _ Hd1.out) ?_
          have := HPn.out; unfold PrsOk at this; rw [bytes_length]; omega
        have HFd : Hid (Fits (decVal (bytes d) : Int)) := by
          unfold Hid Fits
          rw [Int.natAbs_natCast]
          refine wl_pow10 (decVal_lt _ Hd2.out) ?_
          have := HPd.out; unfold PrsOk at this; rw [bytes_length]; omega
        have HGk : Hid (GcdOk (sg false (decVal (bytes t))) (decVal (bytes d) : Int)) := HO.out.2 _ _ _ HSP.out HDne.out
        obtain ⟨Z, hZ⟩ : ∃ Z, sg false (decVal (bytes t)) = Z := ⟨_, rfl⟩
        rw [hZ] at HRd HFz HGk
        have HIz : Hid (IntIs w2 (.agg #[.bool s1, .slice A1 l1 c1]) Z) := hZ ▸ HI.out
        clear hZ HI
        go_wp2_with fail
        generalize hwb : World.alloc w2 _ = wx
        obtain ⟨hBx, hEx⟩ := Blk.one hwb
        have HBx := Lib.hid hBx
        have HBr := Lib.hid (HB3.out.ext hEx)
        have HIx := Lib.hid (HIz.out.ext hEx)
        have HEx := Lib.hid (HE3.out.trans hEx)
        have hrX : w.heap.size < w2.heap.size := HB3.out.lt
        generalize w2.heap.size = X at *
        obtain ⟨s2, hs2⟩ : ∃ s2, s2 = s1 := ⟨_, rfl⟩
        obtain ⟨A2, hA2⟩ : ∃ A2, A2 = A1 := ⟨_, rfl⟩
        obtain ⟨l2, hl2⟩ : ∃ l2, l2 = l1 := ⟨_, rfl⟩
        obtain ⟨c2, hc2⟩ : ∃ c2, c2 = c1 := ⟨_, rfl⟩
        subst hs2 hA2 hl2 hc2
        clear hwb hBx hEx
        refine (intParse_any d _ Hd2.out HPd.out).mono ?_
        rintro e w4 ⟨u4, rfl, hI4, hF4⟩
        obtain ⟨s4, A4, l4, c4, rfl⟩ := hI4.shape
        have HBr4 := Lib.hid (HBr.out.ext hF4)
        have HBx4 := Lib.hid (HBx.out.ext hF4)
        have HIx4 := Lib.hid (HIx.out.ext hF4)
        have HE4 := Lib.hid (HEx.out.trans hF4)
        have HI4 := Lib.hid hI4
        clear hI4 hF4 HBr HBx HIx HEx
        obtain ⟨m0, m1, m2, m3, m4, m5, m6, m7⟩ := HBx4.out.cell4
        go_wp2_with fail
        generalize hw5 : World.setCell (World.setCell w4 _ _) _ _ = w5
        have hF5 : Fr (fun k => k = X) w4 w5 := hw5 ▸ Fr.set2 _ _
        have HBx5 : Hid (Blk 80 w5 X #[.bool s2, .slice A2 l2 c2, .bool s4, .slice A4 l4 c4]) := hw5 ▸ (HBx4.out.set_ 2 _).set_ 3 _
        have HBr5 := Lib.hid (HBr4.out.fr hF5 (by omega))
        have HIx5 := Lib.hid (HIx4.out.other HBx4.out noWords4 hF5)
        have HI5 := Lib.hid (HI4.out.other HBx4.out noWords4 hF5)
        have HE5 := Lib.hid (Fr.local_ HE4.out hF5 (by omega))
        clear hw5 hF5 m0 m1 m2 m3 m4 m5 m6 m7 HBx4 HBr4 HIx4 HI4 HE4
        refine (GCD_any _ _ Z (decVal (bytes d) : Int) _ (HG.out.ext HE5.out) HIx5.out HI5.out HFz.out HFd.out HGk.out).mono ?_
        rintro e w6 ⟨u6, rfl, hI6, hF6⟩
        obtain ⟨s6, A6, l6, c6, rfl⟩ := hI6.shape
        have HBr6 := Lib.hid (HBr5.out.ext hF6)
        have HBx6 := Lib.hid (HBx5.out.ext hF6)
        have HIx6 := Lib.hid (HIx5.out.ext hF6)
        have HId6 := Lib.hid (HI5.out.ext hF6)
        have HE6 := Lib.hid (HE5.out.trans hF6)
        have HI6 := Lib.hid hI6
        clear hI6 hF6 HBr5 HBx5 HIx5 HI5 HE5
        go_wp2_with fail
        refine (IsOne_any _ _ _ HI6.out).mono ?_
        by_cases hone : ((Int.gcd Z (decVal (bytes d) : Int) : Nat) : Int) = 1
        · rw [decide_eq_true hone]
          rintro e w7 ⟨rfl, hF7⟩
          have HBr7 := Lib.hid (HBr6.out.ext hF7)
          have HBx7 := Lib.hid (HBx6.out.ext hF7)
          have HIx7 := Lib.hid (HIx6.out.ext hF7)
          have HId7 := Lib.hid (HId6.out.ext hF7)
          have HE7 := Lib.hid (HE6.out.trans hF7)
          have HQ : Hid (readF (bytes s) = some (mkRat Z (decVal (bytes d))) ∧ (mkRat Z (decVal (bytes d))).num = Z ∧ denF (mkRat Z (decVal (bytes d))) = (decVal (bytes d) : Int)) := by
            have hg1 : Nat.gcd Z.natAbs (decVal (bytes d)) = 1 := by
              have : Int.gcd Z (decVal (bytes d) : Int) = 1 := by omega
              exact this
            refine ⟨HRd.out.1 hg1, mkRat_parts (Hk1.out HDne.out) hg1⟩
          clear hone hF7 HBr6 HBx6 HIx6 HId6 HE6
          obtain ⟨x0, x1, x2, x3, x4, x5, x6, x7⟩ := HBr7.out.cell4
          obtain ⟨m0, m1, m2, m3, m4, m5, m6, m7⟩ := HBx7.out.cell4
          go_wp2
          refine fin_read rfl rfl rfl (HBr7.out.put4 _ _ _ _) (Fr.local_ HE7.out (Fr.set4 _ _ _ _) (by omega)) (Or.inl ⟨rfl, _, HQ.out.1, _, _, _, _, _, _, _, _, rfl, ?_, ?_⟩)
          · rw [HQ.out.2.1]; exact HIx7.out.other HBr7.out noWords4 (Fr.set4 _ _ _ _)
          · rw [HQ.out.2.2]; exact HId7.out.other HBr7.out noWords4 (Fr.set4 _ _ _ _)
        · rw [decide_eq_false hone]
          rintro e w7 ⟨rfl, hF7⟩
          have HBr7 := Lib.hid (HBr6.out.ext hF7)
          have HE7 := Lib.hid (HE6.out.trans hF7)
          have HQ : Hid (readF (bytes s) = none) := HRd.out.2 (fun h => hone (by have : Int.gcd Z (decVal (bytes d) : Int) = 1 := h; omega))
          clear hone hF7 HBr6 HBx6 HIx6 HId6 HE6
          obtain ⟨x0, x1, x2, x3, x4, x5, x6, x7⟩ := HBr7.out.cell4
          go_wp2
          exact fin_read rfl rfl rfl (HBr7.out.put4 _ _ _ _) (Fr.local_ HE7.out (Fr.set4 _ _ _ _) (by omega)) (Or.inr ⟨rfl, HQ.out, RatIs.zero _⟩)
      | true =>
        have HRd : Hid ((Nat.gcd (sg true (decVal (bytes t))).natAbs (decVal (bytes d)) = 1 → readF (bytes s) = some (mkRat (sg true (decVal (bytes t))) (decVal (bytes d)))) ∧ (¬ Nat.gcd (sg true (decVal (bytes t))).natAbs (decVal (bytes d)) = 1 → readF (bytes s) = none)) := by
          have e : (sg true (decVal (bytes t))).natAbs = decVal (bytes t) := by simp [sg]
          rw [e]
          unfold Hid readF
          rw [HSP.out]
          simp only []
          rw [if_neg HDne.out]
          exact ⟨fun h => if_pos h, fun h => if_neg h⟩
        have HFz : Hid (Fits (sg true (decVal (bytes t)))) := by
          have e : (sg true (decVal (bytes t))).natAbs = decVal (bytes t) := by simp [sg]
          unfold Hid Fits
          rw [e]
          refine wl_pow10 (decVal_lt _ Hd1.out) ?_
          have := HPn.out; unfold PrsOk at this; rw [bytes_length]; omega
        have HFd : Hid (Fits (decVal (bytes d) : Int)) := by
          unfold Hid Fits
          rw [Int.natAbs_natCast]
          refine wl_pow10 (decVal_lt _ Hd2.out) ?_
          have := HPd.out; unfold PrsOk at this; rw [bytes_length]; omega
        have HGk : Hid (GcdOk (sg true (decVal (bytes t))) (decVal (bytes d) : Int)) := HO.out.2 _ _ _ HSP.out HDne.out
        obtain ⟨Z, hZ⟩ : ∃ Z, sg true (decVal (bytes t)) = Z := ⟨_, rfl⟩
        rw [hZ] at HRd HFz HGk
        go_wp2_with fail
        generalize hwb : World.alloc w2 _ = wn
        obtain ⟨hBx, hEx⟩ := Blk.one hwb
        have HBx0 := Lib.hid hBx
        have HBr0 := Lib.hid (HB3.out.ext hEx)
        have HIx0 := Lib.hid (HI.out.ext hEx)
        have HEx0 := Lib.hid (HE3.out.trans hEx)
        have HBf0 := Lib.hid (HBf3.out.ext hEx)
        have hrX : w.heap.size < w2.heap.size := HB3.out.lt
        have hfX : F < w2.heap.size := HBf3.out.lt
        generalize w2.heap.size = X at *
        clear hwb hBx hEx
        refine (Neg_any _ _ _ HIx0.out).mono ?_
        rintro e w3 ⟨u3, rfl, hI3, hF3⟩
        obtain ⟨s2, A2, l2, c2, rfl⟩ := hI3.shape
        have hI3' : IntIs w3 (.agg #[.bool s2, .slice A2 l2 c2]) Z := by rw [← hZ]; exact hI3
        have HBr3 := Lib.hid (HBr0.out.ext hF3)
        have HBx3 := Lib.hid (HBx0.out.ext hF3)
        have HBf4 := Lib.hid (HBf0.out.ext hF3)
        have HE4 := Lib.hid (HEx0.out.trans hF3)
        have HI3 := Lib.hid hI3'
        obtain ⟨y0, y1, y2, y3, y4, y5⟩ := HBf4.out.cell3
        obtain ⟨m0, m1, m2, m3, m4, m5, m6, m7⟩ := HBx3.out.cell4
        clear hI3 hI3' hF3 hZ
        go_wp2_with fail
        generalize hwx : World.setCell (World.setCell w3 _ _) _ _ = wx
        have hF5 : Fr (fun k => k = X) w3 wx := hwx ▸ Fr.set2 _ _
        have HBx : Hid (Blk 80 wx X #[.bool s2, .slice A2 l2 c2, .bool false, .slice none 0 0]) := hwx ▸ (HBx3.out.set_ 0 _).set_ 1 _
        have HBr := Lib.hid (HBr3.out.fr hF5 (by omega))
        have HIx := Lib.hid (HI3.out.other HBx3.out noWords4 hF5)
        have HEx := Lib.hid (Fr.local_ HE4.out hF5 (by omega))
        clear hwx hF5 m0 m1 m2 m3 m4 m5 m6 m7 y0 y1 y2 y3 y4 y5 HBx3 HBr3 HI3 HE4 HBf4
        refine (intParse_any d _ Hd2.out HPd.out).mono ?_
        rintro e w4 ⟨u4, rfl, hI4, hF4⟩
        obtain ⟨s4, A4, l4, c4, rfl⟩ := hI4.shape
        have HBr4 := Lib.hid (HBr.out.ext hF4)
        have HBx4 := Lib.hid (HBx.out.ext hF4)
        have HIx4 := Lib.hid (HIx.out.ext hF4)
        have HE4 := Lib.hid (HEx.out.trans hF4)
        have HI4 := Lib.hid hI4
        clear hI4 hF4 HBr HBx HIx HEx
        obtain ⟨m0, m1, m2, m3, m4, m5, m6, m7⟩ := HBx4.out.cell4
        go_wp2_with fail
        generalize hw5 : World.setCell (World.setCell w4 _ _) _ _ = w5
        have hF5 : Fr (fun k => k = X) w4 w5 := hw5 ▸ Fr.set2 _ _
        have HBx5 : Hid (Blk 80 w5 X #[.bool s2, .slice A2 l2 c2, .bool s4, .slice A4 l4 c4]) := hw5 ▸ (HBx4.out.set_ 2 _).set_ 3 _
        have HBr5 := Lib.hid (HBr4.out.fr hF5 (by omega))
        have HIx5 := Lib.hid (HIx4.out.other HBx4.out noWords4 hF5)
        have HI5 := Lib.hid (HI4.out.other HBx4.out noWords4 hF5)
        have HE5 := Lib.hid (Fr.local_ HE4.out hF5 (by omega))
        clear hw5 hF5 m0 m1 m2 m3 m4 m5 m6 m7 HBx4 HBr4 HIx4 HI4 HE4
        refine (GCD_any _ _ Z (decVal (bytes d) : Int) _ (HG.out.ext HE5.out) HIx5.out HI5.out HFz.out HFd.out HGk.out).mono ?_
        rintro e w6 ⟨u6, rfl, hI6, hF6⟩
        obtain ⟨s6, A6, l6, c6, rfl⟩ := hI6.shape
        have HBr6 := Lib.hid (HBr5.out.ext hF6)
        have HBx6 := Lib.hid (HBx5.out.ext hF6)
        have HIx6 := Lib.hid (HIx5.out.ext hF6)
        have HId6 := Lib.hid (HI5.out.ext hF6)
        have HE6 := Lib.hid (HE5.out.trans hF6)
        have HI6 := Lib.hid hI6
        clear hI6 hF6 HBr5 HBx5 HIx5 HI5 HE5
        go_wp2_with fail
        refine (IsOne_any _ _ _ HI6.out).mono ?_
        by_cases hone : ((Int.gcd Z (decVal (bytes d) : Int) : Nat) : Int) = 1
        · rw [decide_eq_true hone]
          rintro e w7 ⟨rfl, hF7⟩
          have HBr7 := Lib.hid (HBr6.out.ext hF7)
          have HBx7 := Lib.hid (HBx6.out.ext hF7)
          have HIx7 := Lib.hid (HIx6.out.ext hF7)
          have HId7 := Lib.hid (HId6.out.ext hF7)
          have HE7 := Lib.hid (HE6.out.trans hF7)
          have HQ : Hid (readF (bytes s) = some (mkRat Z (decVal (bytes d))) ∧ (mkRat Z (decVal (bytes d))).num = Z ∧ denF (mkRat Z (decVal (bytes d))) = (decVal (bytes d) : Int)) := by
            have hg1 : Nat.gcd Z.natAbs (decVal (bytes d)) = 1 := by
              have : Int.gcd Z (decVal (bytes d) : Int) = 1 := by omega
              exact this
            refine ⟨HRd.out.1 hg1, mkRat_parts (Hk1.out HDne.out) hg1⟩
          clear hone hF7 HBr6 HBx6 HIx6 HId6 HE6
          obtain ⟨x0, x1, x2, x3, x4, x5, x6, x7⟩ := HBr7.out.cell4
          obtain ⟨m0, m1, m2, m3, m4, m5, m6, m7⟩ := HBx7.out.cell4
          go_wp2
          refine fin_read rfl rfl rfl (HBr7.out.put4 _ _ _ _) (Fr.local_ HE7.out (Fr.set4 _ _ _ _) (by omega)) (Or.inl ⟨rfl, _, HQ.out.1, _, _, _, _, _, _, _, _, rfl, ?_, ?_⟩)
          · rw [HQ.out.2.1]; exact HIx7.out.other HBr7.out noWords4 (Fr.set4 _ _ _ _)
          · rw [HQ.out.2.2]; exact HId7.out.other HBr7.out noWords4 (Fr.set4 _ _ _ _)
        · rw [decide_eq_false hone]
          rintro e w7 ⟨rfl, hF7⟩
          have HBr7 := Lib.hid (HBr6.out.ext hF7)
          have HE7 := Lib.hid (HE6.out.trans hF7)
          have HQ : Hid (readF (bytes s) = none) := HRd.out.2 (fun h => hone (by have : Int.gcd Z (decVal (bytes d) : Int) = 1 := h; omega))
          clear hone hF7 HBr6 HBx6 HIx6 HId6 HE6
          obtain ⟨x0, x1, x2, x3, x4, x5, x6, x7⟩ := HBr7.out.cell4
          go_wp2
          exact fin_read rfl rfl rfl (HBr7.out.put4 _ _ _ _) (Fr.local_ HE7.out (Fr.set4 _ _ _ _) (by omega)) (Or.inr ⟨rfl, HQ.out, RatIs.zero _⟩)
end Go.Proofs.YtndafmjcelgnbaaGreatDoor
