/-
  Package sosoptnum: Read. (Walks written by vc.py, gen_nrd.py.)
  Package sosoptref02: Reduce. (Walks written by vc.py, gen_rr.py.)
-/
import Derived.Test.YtndafmjcelgnbaaGreatDoorM16
import Derived.Test.YtndafmjcelgnbaaGreatDoorM19
import Derived.Deep.CutBlock
import Derived.Deep.DeepCutAuto
import Derived.Test.YtndafmjcelgnbaaGreatDoorM12
namespace Go.Proofs.YtndafmjcelgnbaaGreatDoor
open Go.RowKit

def notSlash (c : UInt8) : Bool := c != 47
/-- what sosoptnum.Read computes -/
def nreadF (l : List UInt8) : Option Rat :=
  if (((unsign l).2.takeWhile notSlash).all isDig && !((unsign l).2.takeWhile notSlash).isEmpty) = false then none
  else if (unsign l).2.drop ((unsign l).2.takeWhile notSlash).length = [] then
    (if ratText (((sg (unsign l).1 (decVal ((unsign l).2.takeWhile notSlash)) : Int)) : Rat) = l then some (((sg (unsign l).1 (decVal ((unsign l).2.takeWhile notSlash)) : Int)) : Rat) else none)
  else if (((unsign l).2.drop (((unsign l).2.takeWhile notSlash).length + 1)).all isDig && !((unsign l).2.drop (((unsign l).2.takeWhile notSlash).length + 1)).isEmpty) = false ∨ decVal ((unsign l).2.drop (((unsign l).2.takeWhile notSlash).length + 1)) = 0 then none
  else (if ratText (Rat.divInt (sg (unsign l).1 (decVal ((unsign l).2.takeWhile notSlash))) (decVal ((unsign l).2.drop (((unsign l).2.takeWhile notSlash).length + 1)) : Int)) = l then some (Rat.divInt (sg (unsign l).1 (decVal ((unsign l).2.takeWhile notSlash))) (decVal ((unsign l).2.drop (((unsign l).2.takeWhile notSlash).length + 1)) : Int)) else none)
theorem nread_some {l : List UInt8} {q : Rat} (h : nreadF l = some q) : ratText q = l := by
  unfold nreadF at h
  split at h
  · cases h
  split at h
  · split at h
    · rename_i e; injection h with h; rw [← h]; exact e
    · cases h
  split at h
  · cases h
  · split at h
    · rename_i e; injection h with h; rw [← h]; exact e
    · cases h
theorem dig_notSlash {l : List UInt8} (h : l.all isDig = true) : l.all notSlash = true := by
  rw [List.all_eq_true] at *
  intro x hx
  have := h x hx
  unfold notSlash
  simp
  rintro rfl
  exact absurd this (by decide)
theorem nread_text (q : Rat) : nreadF (ratText q) = some q := by
  by_cases h : q.den = 1
  · have ht : ratText q = Lib.itoa q.num ++ [] := by unfold ratText; rw [if_pos h, List.append_nil]
    have hu := unsign_itoa q.num []
    rw [← ht, List.append_nil] at hu
    obtain ⟨h1, h2⟩ := takeWhile_all (dig_notSlash (dec_all q.num.natAbs))
    unfold nreadF
    rw [hu]
    simp only []
    rw [h1, dec_all, dec_val, sg_abs, whole_self h]
    rw [if_neg (by simp [decDigits_ne]), List.drop_of_length_le (Nat.le_refl _), if_pos rfl, if_pos rfl]
  · have ht : ratText q = Lib.itoa q.num ++ 47 :: Lib.decDigits q.den := by unfold ratText; rw [if_neg h, itoa_den]; simp
    have hu := unsign_itoa q.num (47 :: Lib.decDigits q.den)
    rw [← ht] at hu
    obtain ⟨h1, h2⟩ := takeWhile_stop (p := notSlash) (r := Lib.decDigits q.den) (c := 47) (dig_notSlash (dec_all q.num.natAbs)) (by decide)
    have hd := q.den_nz
    have hdr : (Lib.decDigits q.num.natAbs ++ 47 :: Lib.decDigits q.den).drop (Lib.decDigits q.num.natAbs).length = 47 :: Lib.decDigits q.den := by simp
    have hdr2 : (Lib.decDigits q.num.natAbs ++ 47 :: Lib.decDigits q.den).drop ((Lib.decDigits q.num.natAbs).length + 1) = Lib.decDigits q.den := by
      rw [← List.drop_drop, hdr]; rfl
    unfold nreadF
    rw [hu]
    simp only []
    rw [h1, hdr, hdr2, dec_all, dec_all, dec_val, dec_val, sg_abs, Rat.num_divInt_den]
    rw [if_neg (by simp [decDigits_ne]), if_neg (by simp), if_neg (by simp [decDigits_ne]; exact hd), if_pos rfl]
theorem nread_eq (l : List UInt8) : nreadF l = readF l := by
  cases h : nreadF l with
  | some q => rw [← nread_some h]; exact (read_text q).symm
  | none =>
    cases k : readF l with
    | none => rfl
    | some q =>
      have := text_of_read k
      rw [← this, nread_text] at h
      cases h
/-- what Read returns -/
def RetNRead (w : World) (l : List UInt8) (e : Ending) (w' : World) : Prop :=
  ∃ v ok q, e = .returned (.tuple #[v, .bool ok]) ∧ Ext w w' ∧ NRatIs w' v q ∧ ((ok = true ∧ readF l = some q) ∨ (ok = false ∧ readF l = none))
theorem fin_NRatB {fn : Func} {t t' : Tmp} {tmps : Array Value} {w w' : World} {r : Nat} {x y z u : Value} {b : Bool} {l : List UInt8} {q : Rat} (hres : fn.results = #[.cell t 55, .tmp t']) (ht : tmps[t]? = some (.pointer (some ⟨r, 0, none⟩))) (ht' : tmps[t']? = some (.bool b))
    (hB : Blk 55 w' r #[x, y, z, u]) (hN : NRatIs w' (.agg #[x, y, z, u]) q) (hI : (b = true ∧ readF l = some q) ∨ (b = false ∧ readF l = none)) (hE : Ext w w') : bodyPost Tryz.prog fn (RetNRead w l) .ret ⟨tmps, []⟩ w' := by
  obtain ⟨h0, h1, h2, h4, _⟩ := hB.cell4
  exact bodyPost_ret (v := .tuple #[.agg #[x, y, z, u], .bool b]) (by simp [results, hres, ht, ht', go_sem, h0, h1, h2, h4]) rfl ⟨_, _, q, rfl, hE, hN, hI⟩
theorem read_end {q : Rat} {s : ByteArray} {b : Bool} (hn : nreadF (bytes s) = if ratText q = bytes s then some q else none) (hb : b = decide (ratText q = bytes s)) : (b = true ∧ readF (bytes s) = some q) ∨ (b = false ∧ readF (bytes s) = none) := by
  rw [nread_eq] at hn
  by_cases h : ratText q = bytes s
  · rw [if_pos h] at hn; left; exact ⟨by rw [hb, decide_eq_true h], hn⟩
  · rw [if_neg h] at hn; right; exact ⟨by rw [hb, decide_eq_false h], hn⟩
theorem extract_le (t : ByteArray) (a b : Nat) : (t.extract a b).size ≤ t.size := by
  rw [← bytes_length, bytes_extract, List.length_take, List.length_drop, bytes_length]; omega
theorem takeWhile_len {l : List UInt8} {k : Nat} (h : (l.take k).all notSlash = true) (hs : ∀ h : k < l.length, notSlash l[k] = false) (hk : k ≤ l.length) : k = (l.takeWhile notSlash).length := by
  rw [(takeWhile_of h hs).1, List.length_take]; omega
theorem cut_at {t : ByteArray} {p : Nat} (hp : p = ((bytes t).takeWhile notSlash).length) : bytes (t.extract 0 p) = (bytes t).takeWhile notSlash ∧ bytes (t.extract (p + 1) t.size) = (bytes t).drop (p + 1) := by
  rw [bytes_extract, bytes_extract]
  refine ⟨?_, ?_⟩
  · rw [List.drop_zero, Nat.sub_zero, hp]
    have := List.takeWhile_prefix notSlash (l := bytes t)
    exact (List.prefix_iff_eq_take.1 this).symm
  · rw [List.take_of_length_le (by rw [List.length_drop, bytes_length]; exact Nat.le_refl _)]
/-- the parts of nreadF, for a text whose sign is known -/
theorem nread_bad1 {l t : List UInt8} {neg : Bool} (hu : unsign l = (neg, t)) (hb : (((t.takeWhile notSlash)).all isDig && !(t.takeWhile notSlash).isEmpty) = false) : nreadF l = none := by
  unfold nreadF; rw [hu]; simp only []; rw [if_pos hb]
theorem nread_whole {l t : List UInt8} {neg : Bool} (hu : unsign l = (neg, t)) (hb : (((t.takeWhile notSlash)).all isDig && !(t.takeWhile notSlash).isEmpty) = true) (hd : t.length ≤ (t.takeWhile notSlash).length) :
    nreadF l = if ratText ((sg neg (decVal (t.takeWhile notSlash)) : Int) : Rat) = l then some ((sg neg (decVal (t.takeWhile notSlash)) : Int) : Rat) else none := by
  unfold nreadF; rw [hu]; simp only []; rw [if_neg (by rw [hb]; simp), if_pos (List.drop_of_length_le hd)]
theorem nread_bad2 {l t : List UInt8} {neg : Bool} (hu : unsign l = (neg, t)) (hb : (((t.takeWhile notSlash)).all isDig && !(t.takeWhile notSlash).isEmpty) = true) (hd : (t.takeWhile notSlash).length < t.length)
    (h2 : ((t.drop ((t.takeWhile notSlash).length + 1)).all isDig && !(t.drop ((t.takeWhile notSlash).length + 1)).isEmpty) = false ∨ decVal (t.drop ((t.takeWhile notSlash).length + 1)) = 0) : nreadF l = none := by
  unfold nreadF; rw [hu]; simp only []; rw [if_neg (by rw [hb]; simp), if_neg (fun e => by have := congrArg List.length e; simp at this; omega), if_pos h2]
theorem nread_frac {l t : List UInt8} {neg : Bool} (hu : unsign l = (neg, t)) (hb : (((t.takeWhile notSlash)).all isDig && !(t.takeWhile notSlash).isEmpty) = true) (hd : (t.takeWhile notSlash).length < t.length)
    (h2 : ((t.drop ((t.takeWhile notSlash).length + 1)).all isDig && !(t.drop ((t.takeWhile notSlash).length + 1)).isEmpty) = true) (h3 : decVal (t.drop ((t.takeWhile notSlash).length + 1)) ≠ 0) :
    nreadF l = if ratText (Rat.divInt (sg neg (decVal (t.takeWhile notSlash))) (decVal (t.drop ((t.takeWhile notSlash).length + 1)) : Int)) = l then some (Rat.divInt (sg neg (decVal (t.takeWhile notSlash))) (decVal (t.drop ((t.takeWhile notSlash).length + 1)) : Int)) else none := by
  unfold nreadF; rw [hu]; simp only []; rw [if_neg (by rw [hb]; simp), if_neg (fun e => by have := congrArg List.length e; simp at this; omega), if_neg (fun e => e.elim (fun e => by rw [h2] at e; cases e) h3)]
theorem str_dec' {x : List UInt8} {s : ByteArray} : (x == s.toList) = decide (x = bytes s) := by
  rw [Lib.toList_data]
  by_cases h : x = bytes s
  · rw [decide_eq_true h]; simp [h]
  · rw [decide_eq_false h]; simpa using h
/-- the size of a number that is read -/
theorem ml_decVal {t : ByteArray} (h : (bytes t).all isDig = true) (hs : t.size ≤ 65536) : ml (decVal (bytes t)) ≤ 65536 := by
  have := ml_ten (decVal_lt _ h)
  rw [bytes_length] at this
  omega
theorem sg_ml {neg : Bool} {n : Nat} : (sg neg n).natAbs = n := by cases neg <;> simp [sg]
theorem frac_ml {x y : Int} (hy : y ≠ 0) : ml (Rat.divInt x y).num.natAbs ≤ ml x.natAbs ∧ ml (Rat.divInt x y).den ≤ ml y.natAbs := by
  constructor
  · refine ml_mono ?_
    rw [Rat.num_divInt, Int.natAbs_ediv_of_dvd]
    · refine Nat.le_trans (Nat.div_le_self _ _) ?_
      rw [Int.natAbs_mul]
      rcases Int.lt_or_gt_of_ne hy with h | h
      · rw [Int.sign_eq_neg_one_of_neg h]; simp
      · rw [Int.sign_eq_one_of_pos h]; simp
    · exact Int.dvd_mul_of_dvd_right (Int.gcd_dvd_right _ _)
  · refine ml_mono ?_
    rw [Rat.den_divInt, if_neg hy]
    exact Nat.div_le_self _ _

set_option maxHeartbeats 2000000 in
set_option maxRecDepth 100000 in
theorem NRead_neg (s : ByteArray) (w : World) (hs : s.size ≤ 65536) (h0 : 0 < s.size) (h1 : s[0] = 45) :
    Calls Tryz.prog 66 #[.string s] w (RetNRead w (bytes s)) := by
  obtain ⟨t, et⟩ : ∃ t, s.extract 1 s.size = t := ⟨_, rfl⟩
  have Hun : Hid (unsign (bytes s) = (true, bytes t)) := by unfold Hid unsign; rw [head_byte h0, if_pos (by rw [h1]), ← et, bytes_extract, List.take_of_length_le (by rw [List.length_drop, bytes_length]; exact Nat.le_refl _), List.drop_one]
  have hts : t.size ≤ 65536 := by rw [← et]; exact Nat.le_trans (extract_le _ _ _) hs
  have Hsz : Hid (t.size ≤ 65536) := hts
  have hx : s[0].toNat = 45 := by rw [h1]; rfl
  have hx1 : ((s[0].toNat : Int) == 45) = true := by rw [hx]; rfl
  clear h1
  go_enter Tryz.func66, Tryz.ntmps66
  go_upto_block 0 with fail
  generalize hwb : World.alloc w _ = w2
  obtain ⟨b_B1, hE0⟩ := blocks1 hwb
  clear hwb
  have B1 := Lib.hid b_B1
  clear b_B1
  have HE := Lib.hid hE0
  clear hE0
  go_cut [6, 7] from 27 to 37 (fun av _ wx => ∃ p : Nat, av = .int .i64 (p : Int) ∧ p ≤ t.size ∧ Hid (p = ((bytes t).takeWhile notSlash).length) ∧ Hid (wx = w2))
  case first =>
    go_wp2_with fail
    go_loop [6, 7] (fun av iv => ∃ i : Nat, i ≤ t.size ∧ av = .int .i64 (t.size : Int) ∧ iv = .int .i64 (i : Int) ∧ Hid (((bytes t).take i).all notSlash = true)) (fun _ iv => t.size - (intOf iv).toNat)
    case atStart => exact ⟨0, Nat.zero_le _, rfl, rfl, by unfold Hid; simp⟩
    case round =>
      obtain ⟨i, hi, rfl, rfl, hR⟩ := hrel
      by_cases hlt : i < t.size
      · by_cases hc : t[i] = 47
        · have HP : Hid (i = ((bytes t).takeWhile notSlash).length) := takeWhile_len hR.out (fun _ => by rw [bytes_at t hlt, hc]; decide) (by rw [bytes_length]; exact hi)
          have hx : t[i].toNat = 47 := by rw [hc]; rfl
          have hx1 : ((t[i].toNat : Int) == 47) = true := by rw [hx]; rfl
          clear hc
          go_wp2
          go_meet
          exact ⟨i, rfl, hi, HP, rfl⟩
        · have hx : ¬ t[i].toNat = 47 := fun e => hc (UInt8.toNat.inj e)
          have hx1 : ((t[i].toNat : Int) == 47) = false := by simp; omega
          have HR2 : Hid (((bytes t).take (i + 1)).all notSlash = true) := by
            unfold Hid
            rw [take_snoc t i hlt, List.all_append, hR.out]
            simp [notSlash, hc]
          clear hc
          go_wp2
          go_round
          case rel => exact ⟨i + 1, by omega, rfl, by go_num, HR2⟩
          case measure => simp [intOf]; omega
      · obtain rfl : i = t.size := by omega
        have HP : Hid (t.size = ((bytes t).takeWhile notSlash).length) := takeWhile_len hR.out (fun h => by rw [bytes_length] at h; omega) (by rw [bytes_length]; exact Nat.le_refl _)
        go_wp2
        go_meet
        exact ⟨t.size, rfl, Nat.le_refl _, HP, rfl⟩
  case rest =>
    obtain ⟨p, rfl, hpt, HP, hw⟩ := hcut
    obtain rfl := hw.out
    clear hw
    have Hcut := Lib.hid (cut_at HP.out)
    obtain ⟨c3_0, c3_1, c3_2, c3_3, f3_0, f3_1, f3_2, f3_3⟩ := B1.out.cell4
    go_wp2_with fail
    clear c3_0 c3_1 c3_2 c3_3 f3_0 f3_1 f3_2 f3_3
    refine (NFromDigits_any _ _ (Nat.le_trans (extract_le _ _ _) Hsz.out)).mono ?_
    rintro e w4 ⟨_, b1, rfl, hb1, hI, hF⟩
    rw [Hcut.out.1] at hb1 hI
    obtain ⟨s5, A5, l5, c5, rfl⟩ := hI.shp
    cases b1 with
    | true =>
      replace B1 := Lib.hid (B1.out.ext hF)
      replace HE := Lib.hid (HE.out.trans hF)
      have Hb1 := Lib.hid hb1.symm
      have Hd1 : Hid (((bytes t).takeWhile notSlash).all isDig = true) := by have := Hb1.out; rw [Bool.and_eq_true] at this; exact this.1
      rw [Hd1.out, if_pos rfl] at hI
      obtain ⟨n1, en1⟩ : ∃ n, decVal ((bytes t).takeWhile notSlash) = n := ⟨_, rfl⟩
      rw [en1] at hI; have Hn1 := Lib.hid en1; clear en1
      have Hm1 : Hid (ml n1 ≤ 65536) := by have := ml_decVal (t := t.extract 0 p) (by rw [Hcut.out.1]; exact Hd1.out) (Nat.le_trans (extract_le _ _ _) Hsz.out); rw [Hcut.out.1, Hn1.out] at this; exact this
      have F6 : Hid (NumIs w4 (.agg #[.bool s5, .slice A5 l5 c5]) ((n1 : Int))) := hI
      clear hF hI hb1
      obtain ⟨c8_0, c8_1, c8_2, c8_3, f8_0, f8_1, f8_2, f8_3⟩ := B1.out.cell4
      have hl9 := B1.out.lt
      go_wp2_with fail
      clear c8_0 c8_1 c8_2 c8_3 f8_0 f8_1 f8_2 f8_3 hl9
      generalize hwb : World.alloc w4 _ = w10
      obtain ⟨b_B7, hF⟩ := blocks1 hwb
      clear hwb
      have hlt11 := B1.out.lt
      generalize w4.heap.size = g10 at *
      have B7 := Lib.hid b_B7; clear b_B7
      replace B1 := Lib.hid (B1.out.ext hF)
      replace F6 := Lib.hid (F6.out.ext hF)
      replace HE := Lib.hid (HE.out.trans hF)
      clear hF
      have F13 : Hid (MagIs w10 (.slice A5 l5 c5) n1) := by have h := F6.out.mag; rw [Int.natAbs_natCast] at h; exact h
      refine (make1_ret true _ _ _ F13.out).mono ?_
      rintro e w12 ⟨_, rfl, hI, hF⟩
      obtain ⟨s14, A14, l14, c14, rfl⟩ := hI.shp
      replace B1 := Lib.hid (B1.out.ext hF)
      replace B7 := Lib.hid (B7.out.ext hF)
      replace F6 := Lib.hid (F6.out.ext hF)
      replace F13 := Lib.hid (F13.out.ext hF)
      replace HE := Lib.hid (HE.out.trans hF)
      have F15 : Hid (NumIs w12 (.agg #[.bool s14, .slice A14 l14 c14]) (sg true n1)) := hI
      clear hF hI
      by_cases hlt : p < t.size
      · have hltI : (p : Int) < (t.size : Int) := by omega
        have hltB : decide ((p : Int) < (t.size : Int)) = true := by rw [decide_eq_true_eq]; omega
        have Hlt := Lib.hid hlt; clear hlt
        obtain ⟨c17_0, c17_1, c17_2, c17_3, f17_0, f17_1, f17_2, f17_3⟩ := B1.out.cell4
        have hl18 := B1.out.lt
        obtain ⟨c19_0, c19_1, f19_0, f19_1⟩ := B7.out.cell2
        have hl20 := B7.out.lt
        go_wp2_with fail
        clear c17_0 c17_1 c17_2 c17_3 f17_0 f17_1 f17_2 f17_3 hl18 c19_0 c19_1 f19_0 f19_1 hl20
        generalize hwb : World.alloc w12 _ = w21
        obtain ⟨b_B16, hF⟩ := blocks1 hwb
        clear hwb
        have hlt22 := B1.out.lt
        have hlt23 := B7.out.lt
        generalize w12.heap.size = g21 at *
        have B16 := Lib.hid b_B16; clear b_B16
        replace B1 := Lib.hid (B1.out.ext hF)
        replace B7 := Lib.hid (B7.out.ext hF)
        replace F6 := Lib.hid (F6.out.ext hF)
        replace F13 := Lib.hid (F13.out.ext hF)
        replace F15 := Lib.hid (F15.out.ext hF)
        replace HE := Lib.hid (HE.out.trans hF)
        clear hF
        refine (NFromDigits_any _ _ (Nat.le_trans (extract_le _ _ _) Hsz.out)).mono ?_
        rintro e w24 ⟨_, b2, rfl, hb2, hI, hF⟩
        rw [Hcut.out.2] at hb2 hI
        obtain ⟨s25, A25, l25, c25, rfl⟩ := hI.shp
        cases b2 with
        | true =>
          replace B1 := Lib.hid (B1.out.ext hF)
          replace B7 := Lib.hid (B7.out.ext hF)
          replace B16 := Lib.hid (B16.out.ext hF)
          replace F6 := Lib.hid (F6.out.ext hF)
          replace F13 := Lib.hid (F13.out.ext hF)
          replace F15 := Lib.hid (F15.out.ext hF)
          replace HE := Lib.hid (HE.out.trans hF)
          have Hb2 := Lib.hid hb2.symm
          have Hd2 : Hid (((bytes t).drop (p + 1)).all isDig = true) := by have := Hb2.out; rw [Bool.and_eq_true] at this; exact this.1
          rw [Hd2.out, if_pos rfl] at hI
          obtain ⟨n2, en2⟩ : ∃ n, decVal ((bytes t).drop (p + 1)) = n := ⟨_, rfl⟩
          rw [en2] at hI; have Hn2 := Lib.hid en2; clear en2
          have Hm2 : Hid (ml n2 ≤ 65536) := by have := ml_decVal (t := t.extract (p + 1) t.size) (by rw [Hcut.out.2]; exact Hd2.out) (Nat.le_trans (extract_le _ _ _) Hsz.out); rw [Hcut.out.2, Hn2.out] at this; exact this
          have F26 : Hid (NumIs w24 (.agg #[.bool s25, .slice A25 l25 c25]) ((n2 : Int))) := hI
          clear hF hI hb2
          obtain ⟨c28_0, c28_1, c28_2, c28_3, f28_0, f28_1, f28_2, f28_3⟩ := B1.out.cell4
          have hl29 := B1.out.lt
          obtain ⟨c30_0, c30_1, f30_0, f30_1⟩ := B7.out.cell2
          have hl31 := B7.out.lt
          obtain ⟨c32_0, c32_1, c32_2, c32_3, f32_0, f32_1, f32_2, f32_3⟩ := B16.out.cell4
          have hl33 := B16.out.lt
          go_wp2_with fail
          clear c28_0 c28_1 c28_2 c28_3 f28_0 f28_1 f28_2 f28_3 hl29 c30_0 c30_1 f30_0 f30_1 hl31 c32_0 c32_1 c32_2 c32_3 f32_0 f32_1 f32_2 f32_3 hl33
          generalize hwb : World.alloc w24 _ = w34
          obtain ⟨b_B27, hF⟩ := blocks1 hwb
          clear hwb
          have hlt35 := B1.out.lt
          have hlt36 := B7.out.lt
          have hlt37 := B16.out.lt
          generalize w24.heap.size = g34 at *
          have B27 := Lib.hid b_B27; clear b_B27
          replace B1 := Lib.hid (B1.out.ext hF)
          replace B7 := Lib.hid (B7.out.ext hF)
          replace B16 := Lib.hid (B16.out.ext hF)
          replace F6 := Lib.hid (F6.out.ext hF)
          replace F13 := Lib.hid (F13.out.ext hF)
          replace F15 := Lib.hid (F15.out.ext hF)
          replace F26 := Lib.hid (F26.out.ext hF)
          replace HE := Lib.hid (HE.out.trans hF)
          clear hF
          refine (NSign_any _ ((n2 : Int)) _ F26.out).mono ?_
          by_cases hz : n2 = 0
          · rw [hz, show ((0 : Nat) : Int).sign = 0 from rfl]
            have Hz := Lib.hid hz; clear hz
            rintro e w38 ⟨rfl, hF⟩
            replace B1 := Lib.hid (B1.out.ext hF)
            replace B7 := Lib.hid (B7.out.ext hF)
            replace B16 := Lib.hid (B16.out.ext hF)
            replace B27 := Lib.hid (B27.out.ext hF)
            replace F6 := Lib.hid (F6.out.ext hF)
            replace F13 := Lib.hid (F13.out.ext hF)
            replace F15 := Lib.hid (F15.out.ext hF)
            replace F26 := Lib.hid (F26.out.ext hF)
            replace HE := Lib.hid (HE.out.trans hF)
            clear hF
            obtain ⟨c39_0, c39_1, c39_2, c39_3, f39_0, f39_1, f39_2, f39_3⟩ := B1.out.cell4
            obtain ⟨c40_0, c40_1, f40_0, f40_1⟩ := B7.out.cell2
            obtain ⟨c41_0, c41_1, c41_2, c41_3, f41_0, f41_1, f41_2, f41_3⟩ := B16.out.cell4
            obtain ⟨c42_0, c42_1, f42_0, f42_1⟩ := B27.out.cell2
            go_wp2
            clear c39_0 c39_1 c39_2 c39_3 f39_0 f39_1 f39_2 f39_3 c40_0 c40_1 f40_0 f40_1 c41_0 c41_1 c41_2 c41_3 f41_0 f41_1 f41_2 f41_3 c42_0 c42_1 f42_0 f42_1
            have hFs : Fr (fun i => i = w.heap.size) w38 ((((w38.setCell ⟨w.heap.size, 0, none⟩ (.bool false)).setCell ⟨w.heap.size, 1, none⟩ (.slice none 0 0)).setCell ⟨w.heap.size, 2, none⟩ (.bool false)).setCell ⟨w.heap.size, 3, none⟩ (.slice none 0 0)) := (((((Fr.refl (fun i => i = w.heap.size) _).setCell (p := ⟨w.heap.size, 0, none⟩) (Or.inl rfl) _).setCell (p := ⟨w.heap.size, 1, none⟩) (Or.inl rfl) _).setCell (p := ⟨w.heap.size, 2, none⟩) (Or.inl rfl) _).setCell (p := ⟨w.heap.size, 3, none⟩) (Or.inl rfl) _)
            replace F6 := Lib.hid (F6.out.oth B1.out noRow4 hFs)
            replace F13 := Lib.hid (F13.out.oth B1.out noRow4 hFs)
            replace F15 := Lib.hid (F15.out.oth B1.out noRow4 hFs)
            replace F26 := Lib.hid (F26.out.oth B1.out noRow4 hFs)
            replace B7 := Lib.hid (B7.out.fr hFs (by first | omega | (have := B7.out.lt; have := B1.out.lt; omega)))
            replace B16 := Lib.hid (B16.out.fr hFs (by first | omega | (have := B16.out.lt; have := B1.out.lt; omega)))
            replace B27 := Lib.hid (B27.out.fr hFs (by first | omega | (have := B27.out.lt; have := B1.out.lt; omega)))
            replace HE := Lib.hid (HE.out.next hFs (fun i hi e => by first | omega | (have := HE.out.size; have := B1.out.lt; omega)))
            have b_new : Blk 55 ((((w38.setCell ⟨w.heap.size, 0, none⟩ (.bool false)).setCell ⟨w.heap.size, 1, none⟩ (.slice none 0 0)).setCell ⟨w.heap.size, 2, none⟩ (.bool false)).setCell ⟨w.heap.size, 3, none⟩ (.slice none 0 0)) w.heap.size #[.bool false, .slice none 0 0, .bool false, .slice none 0 0] := ((((B1.out.set_ 0 _).set_ 1 _).set_ 2 _).set_ 3 _)
            generalize ((((w38.setCell ⟨w.heap.size, 0, none⟩ (.bool false)).setCell ⟨w.heap.size, 1, none⟩ (.slice none 0 0)).setCell ⟨w.heap.size, 2, none⟩ (.bool false)).setCell ⟨w.heap.size, 3, none⟩ (.slice none 0 0)) = w43 at *
            replace B1 := Lib.hid b_new; clear b_new hFs
            exact fin_NRatB (b := false) rfl rfl rfl B1.out (NRatIs.nil _) (Or.inr ⟨rfl, by rw [← nread_eq]; exact nread_bad2 Hun.out Hb1.out (by have := HP.out; have := Hlt.out; rw [bytes_length]; omega) (Or.inr (by rw [← HP.out, Hn2.out]; exact Hz.out))⟩) HE.out
          · rw [Int.sign_eq_one_of_pos (show (0 : Int) < (n2 : Int) by omega)]
            have Hz := Lib.hid hz; clear hz
            rintro e w38 ⟨rfl, hF⟩
            replace B1 := Lib.hid (B1.out.ext hF)
            replace B7 := Lib.hid (B7.out.ext hF)
            replace B16 := Lib.hid (B16.out.ext hF)
            replace B27 := Lib.hid (B27.out.ext hF)
            replace F6 := Lib.hid (F6.out.ext hF)
            replace F13 := Lib.hid (F13.out.ext hF)
            replace F15 := Lib.hid (F15.out.ext hF)
            replace F26 := Lib.hid (F26.out.ext hF)
            replace HE := Lib.hid (HE.out.trans hF)
            clear hF
            obtain ⟨c44_0, c44_1, c44_2, c44_3, f44_0, f44_1, f44_2, f44_3⟩ := B1.out.cell4
            obtain ⟨c45_0, c45_1, f45_0, f45_1⟩ := B7.out.cell2
            obtain ⟨c46_0, c46_1, c46_2, c46_3, f46_0, f46_1, f46_2, f46_3⟩ := B16.out.cell4
            obtain ⟨c47_0, c47_1, f47_0, f47_1⟩ := B27.out.cell2
            go_wp2_with fail
            clear c44_0 c44_1 c44_2 c44_3 f44_0 f44_1 f44_2 f44_3 c45_0 c45_1 f45_0 f45_1 c46_0 c46_1 c46_2 c46_3 f46_0 f46_1 f46_2 f46_3 c47_0 c47_1 f47_0 f47_1
            refine (NFrac_any _ _ (sg true n1) ((n2 : Int)) _ F15.out F26.out (by unfold NFits; rw [sg_ml]; have := Hm1.out; omega) (by unfold NFits; rw [Int.natAbs_natCast]; have := Hm2.out; omega) (by have := Hz.out; omega)).mono ?_
            rintro e w48 ⟨_, rfl, hI, hF⟩
            obtain ⟨s49, A49, l49, c49, t49, B49, m49, d49, rfl⟩ := hI.shp
            replace B1 := Lib.hid (B1.out.ext hF)
            replace B7 := Lib.hid (B7.out.ext hF)
            replace B16 := Lib.hid (B16.out.ext hF)
            replace B27 := Lib.hid (B27.out.ext hF)
            replace F6 := Lib.hid (F6.out.ext hF)
            replace F13 := Lib.hid (F13.out.ext hF)
            replace F15 := Lib.hid (F15.out.ext hF)
            replace F26 := Lib.hid (F26.out.ext hF)
            replace HE := Lib.hid (HE.out.trans hF)
            have F50 : Hid (NRatIs w48 (.agg #[.bool s49, .slice A49 l49 c49, .bool t49, .slice B49 m49 d49]) (Rat.divInt (sg true n1) ((n2 : Int)))) := hI
            clear hF hI
            have Hs1 := Lib.hid (frac_ml (x := sg true n1) (y := (n2 : Int)) (by have := Hz.out; omega))
            rw [sg_ml, Int.natAbs_natCast] at Hs1
            obtain ⟨c51_0, c51_1, c51_2, c51_3, f51_0, f51_1, f51_2, f51_3⟩ := B1.out.cell4
            obtain ⟨c52_0, c52_1, f52_0, f52_1⟩ := B7.out.cell2
            obtain ⟨c53_0, c53_1, c53_2, c53_3, f53_0, f53_1, f53_2, f53_3⟩ := B16.out.cell4
            obtain ⟨c54_0, c54_1, f54_0, f54_1⟩ := B27.out.cell2
            go_wp2_with fail
            clear c51_0 c51_1 c51_2 c51_3 f51_0 f51_1 f51_2 f51_3 c52_0 c52_1 f52_0 f52_1 c53_0 c53_1 c53_2 c53_3 f53_0 f53_1 f53_2 f53_3 c54_0 c54_1 f54_0 f54_1
            have hFs : Fr (fun i => i = g21) w48 ((((w48.setCell ⟨g21, 0, none⟩ (.bool s49)).setCell ⟨g21, 1, none⟩ (.slice A49 l49 c49)).setCell ⟨g21, 2, none⟩ (.bool t49)).setCell ⟨g21, 3, none⟩ (.slice B49 m49 d49)) := (((((Fr.refl (fun i => i = g21) _).setCell (p := ⟨g21, 0, none⟩) (Or.inl rfl) _).setCell (p := ⟨g21, 1, none⟩) (Or.inl rfl) _).setCell (p := ⟨g21, 2, none⟩) (Or.inl rfl) _).setCell (p := ⟨g21, 3, none⟩) (Or.inl rfl) _)
            replace F6 := Lib.hid (F6.out.oth B16.out noRow4 hFs)
            replace F13 := Lib.hid (F13.out.oth B16.out noRow4 hFs)
            replace F15 := Lib.hid (F15.out.oth B16.out noRow4 hFs)
            replace F26 := Lib.hid (F26.out.oth B16.out noRow4 hFs)
            replace F50 := Lib.hid (F50.out.oth B16.out noRow4 hFs)
            replace B1 := Lib.hid (B1.out.fr hFs (by first | omega | (have := B1.out.lt; have := B16.out.lt; omega)))
            replace B7 := Lib.hid (B7.out.fr hFs (by first | omega | (have := B7.out.lt; have := B16.out.lt; omega)))
            replace B27 := Lib.hid (B27.out.fr hFs (by first | omega | (have := B27.out.lt; have := B16.out.lt; omega)))
            replace HE := Lib.hid (HE.out.next hFs (fun i hi e => by first | omega | (have := HE.out.size; have := B16.out.lt; omega)))
            have b_new : Blk 55 ((((w48.setCell ⟨g21, 0, none⟩ (.bool s49)).setCell ⟨g21, 1, none⟩ (.slice A49 l49 c49)).setCell ⟨g21, 2, none⟩ (.bool t49)).setCell ⟨g21, 3, none⟩ (.slice B49 m49 d49)) g21 #[.bool s49, .slice A49 l49 c49, .bool t49, .slice B49 m49 d49] := ((((B16.out.set_ 0 _).set_ 1 _).set_ 2 _).set_ 3 _)
            generalize ((((w48.setCell ⟨g21, 0, none⟩ (.bool s49)).setCell ⟨g21, 1, none⟩ (.slice A49 l49 c49)).setCell ⟨g21, 2, none⟩ (.bool t49)).setCell ⟨g21, 3, none⟩ (.slice B49 m49 d49)) = w55 at *
            replace B16 := Lib.hid b_new; clear b_new hFs
            refine wp_region_T 6 (fun W' => Blk 53 W' g10 #[.bool s5, .slice A5 l5 c5] ∧ Blk 55 W' g21 #[.bool s49, .slice A49 l49 c49, .bool t49, .slice B49 m49 d49] ∧ Blk 53 W' g34 #[.bool s25, .slice A25 l25 c25]) follows_mixed' ?_
            replace B1 := Lib.hid (B1.out.ext (Fr.refl _ _).drew)
            replace B7 := Lib.hid (B7.out.ext (Fr.refl _ _).drew)
            replace B16 := Lib.hid (B16.out.ext (Fr.refl _ _).drew)
            replace B27 := Lib.hid (B27.out.ext (Fr.refl _ _).drew)
            replace F6 := Lib.hid (F6.out.ext (Fr.refl _ _).drew)
            replace F13 := Lib.hid (F13.out.ext (Fr.refl _ _).drew)
            replace F15 := Lib.hid (F15.out.ext (Fr.refl _ _).drew)
            replace F26 := Lib.hid (F26.out.ext (Fr.refl _ _).drew)
            replace F50 := Lib.hid (F50.out.ext (Fr.refl _ _).drew)
            replace HE := Lib.hid (HE.out.trans (Fr.refl _ _).drew)
            generalize w55.drew = w56 at *
            have hS := (⟨B7.out, B16.out, B27.out⟩ : (fun W' => Blk 53 W' g10 #[.bool s5, .slice A5 l5 c5] ∧ Blk 55 W' g21 #[.bool s49, .slice A49 l49 c49, .bool t49, .slice B49 m49 d49] ∧ Blk 53 W' g34 #[.bool s25, .slice A25 l25 c25]) w56)
            refine wpT_take 0 rfl (by kernel_rfl) (fun _ _ _ h => h) hS (fun _ => yl_NumRat (g := g21) (off := 0) (x := .bool s49) (y := .slice A49 l49 c49) (z := .bool t49) (u := .slice B49 m49 d49) rfl rfl (by kernel_rfl) (fun _ h => Blk.four (h.2.1) 0 rfl rfl rfl rfl)) (fun hS => ?_)
            refine wpT_take 1 rfl (by kernel_rfl) (fun _ _ _ h => h) hS (fun _ => yl_NumRat (g := g21) (off := 0) (x := .bool s49) (y := .slice A49 l49 c49) (z := .bool t49) (u := .slice B49 m49 d49) rfl rfl (by kernel_rfl) (fun _ h => Blk.four (h.2.1) 0 rfl rfl rfl rfl)) (fun hS => ?_)
            refine wpT_take 3 rfl (by kernel_rfl) (fun _ _ _ h => h) hS (fun _ => ym (v := .string s) rfl rfl (by kernel_rfl)) (fun hS => ?_)
            refine wpT_only 2 rfl (by kernel_rfl) rfl (fun K hK => ?_)
            go_simp
            clear hS
            refine (NText_all _ (Rat.divInt (sg true n1) ((n2 : Int))) _ F50.out (by have := Hs1.out.1; have := Hm1.out; omega) (by have := Hs1.out.2; have := Hm2.out; omega)).mono ?_
            obtain ⟨tx, etx⟩ : ∃ tx, ratText (Rat.divInt (sg true n1) ((n2 : Int))) = tx := ⟨_, rfl⟩
            rw [etx]; have Htx := Lib.hid etx; clear etx
            rintro e w57 ⟨rfl, hF⟩
            replace B1 := Lib.hid (B1.out.ext hF)
            replace B7 := Lib.hid (B7.out.ext hF)
            replace B16 := Lib.hid (B16.out.ext hF)
            replace B27 := Lib.hid (B27.out.ext hF)
            replace F6 := Lib.hid (F6.out.ext hF)
            replace F13 := Lib.hid (F13.out.ext hF)
            replace F15 := Lib.hid (F15.out.ext hF)
            replace F26 := Lib.hid (F26.out.ext hF)
            replace F50 := Lib.hid (F50.out.ext hF)
            replace HE := Lib.hid (HE.out.trans hF)
            clear hF
            have hS := (⟨B7.out, B16.out, B27.out⟩ : (fun W' => Blk 53 W' g10 #[.bool s5, .slice A5 l5 c5] ∧ Blk 55 W' g21 #[.bool s49, .slice A49 l49 c49, .bool t49, .slice B49 m49 d49] ∧ Blk 53 W' g34 #[.bool s25, .slice A25 l25 c25]) w57)
            refine hK _ _ hS ?_
            clear hK
            refine wpT_take 4 rfl (by kernel_rfl) (fun _ _ _ h => h) hS (fun _ => yeq_str (s := ⟨tx.toArray⟩) (t := s) rfl rfl (by kernel_rfl) (by kernel_rfl)) (fun hS => ?_)
            refine wpT_only 5 rfl (by kernel_rfl) rfl (fun K hK => ?_)
            clear hS
            obtain ⟨c58_0, c58_1, c58_2, c58_3, f58_0, f58_1, f58_2, f58_3⟩ := B1.out.cell4
            obtain ⟨c59_0, c59_1, f59_0, f59_1⟩ := B7.out.cell2
            obtain ⟨c60_0, c60_1, c60_2, c60_3, f60_0, f60_1, f60_2, f60_3⟩ := B16.out.cell4
            obtain ⟨c61_0, c61_1, f61_0, f61_1⟩ := B27.out.cell2
            go_simp
            clear c58_0 c58_1 c58_2 c58_3 f58_0 f58_1 f58_2 f58_3 c59_0 c59_1 f59_0 f59_1 c60_0 c60_1 c60_2 c60_3 f60_0 f60_1 f60_2 f60_3 c61_0 c61_1 f61_0 f61_1
            have hFs : Fr (fun i => i = w.heap.size) w57 ((((w57.setCell ⟨w.heap.size, 0, none⟩ (.bool s49)).setCell ⟨w.heap.size, 1, none⟩ (.slice A49 l49 c49)).setCell ⟨w.heap.size, 2, none⟩ (.bool t49)).setCell ⟨w.heap.size, 3, none⟩ (.slice B49 m49 d49)) := (((((Fr.refl (fun i => i = w.heap.size) _).setCell (p := ⟨w.heap.size, 0, none⟩) (Or.inl rfl) _).setCell (p := ⟨w.heap.size, 1, none⟩) (Or.inl rfl) _).setCell (p := ⟨w.heap.size, 2, none⟩) (Or.inl rfl) _).setCell (p := ⟨w.heap.size, 3, none⟩) (Or.inl rfl) _)
            replace F6 := Lib.hid (F6.out.oth B1.out noRow4 hFs)
            replace F13 := Lib.hid (F13.out.oth B1.out noRow4 hFs)
            replace F15 := Lib.hid (F15.out.oth B1.out noRow4 hFs)
            replace F26 := Lib.hid (F26.out.oth B1.out noRow4 hFs)
            replace F50 := Lib.hid (F50.out.oth B1.out noRow4 hFs)
            replace B7 := Lib.hid (B7.out.fr hFs (by first | omega | (have := B7.out.lt; have := B1.out.lt; omega)))
            replace B16 := Lib.hid (B16.out.fr hFs (by first | omega | (have := B16.out.lt; have := B1.out.lt; omega)))
            replace B27 := Lib.hid (B27.out.fr hFs (by first | omega | (have := B27.out.lt; have := B1.out.lt; omega)))
            replace HE := Lib.hid (HE.out.next hFs (fun i hi e => by first | omega | (have := HE.out.size; have := B1.out.lt; omega)))
            have b_new : Blk 55 ((((w57.setCell ⟨w.heap.size, 0, none⟩ (.bool s49)).setCell ⟨w.heap.size, 1, none⟩ (.slice A49 l49 c49)).setCell ⟨w.heap.size, 2, none⟩ (.bool t49)).setCell ⟨w.heap.size, 3, none⟩ (.slice B49 m49 d49)) w.heap.size #[.bool s49, .slice A49 l49 c49, .bool t49, .slice B49 m49 d49] := ((((B1.out.set_ 0 _).set_ 1 _).set_ 2 _).set_ 3 _)
            generalize ((((w57.setCell ⟨w.heap.size, 0, none⟩ (.bool s49)).setCell ⟨w.heap.size, 1, none⟩ (.slice A49 l49 c49)).setCell ⟨w.heap.size, 2, none⟩ (.bool t49)).setCell ⟨w.heap.size, 3, none⟩ (.slice B49 m49 d49)) = w62 at *
            replace B1 := Lib.hid b_new; clear b_new hFs
            have hS := (⟨B7.out, B16.out, B27.out⟩ : (fun W' => Blk 53 W' g10 #[.bool s5, .slice A5 l5 c5] ∧ Blk 55 W' g21 #[.bool s49, .slice A49 l49 c49, .bool t49, .slice B49 m49 d49] ∧ Blk 53 W' g34 #[.bool s25, .slice A25 l25 c25]) w62)
            refine hK _ _ hS ?_
            clear hK
            refine wpT_tail (l := [_]) 6 rfl (by kernel_rfl) ?_
            clear hS
            obtain ⟨c63_0, c63_1, c63_2, c63_3, f63_0, f63_1, f63_2, f63_3⟩ := B1.out.cell4
            obtain ⟨c64_0, c64_1, f64_0, f64_1⟩ := B7.out.cell2
            obtain ⟨c65_0, c65_1, c65_2, c65_3, f65_0, f65_1, f65_2, f65_3⟩ := B16.out.cell4
            obtain ⟨c66_0, c66_1, f66_0, f66_1⟩ := B27.out.cell2
            go_wp2
            clear c63_0 c63_1 c63_2 c63_3 f63_0 f63_1 f63_2 f63_3 c64_0 c64_1 f64_0 f64_1 c65_0 c65_1 c65_2 c65_3 f65_0 f65_1 f65_2 f65_3 c66_0 c66_1 f66_0 f66_1
            exact fin_NRatB (b := (tx == s.toList)) rfl rfl rfl B1.out F50.out (read_end (by have h := nread_frac Hun.out Hb1.out (by have := HP.out; have := Hlt.out; rw [bytes_length]; omega) (by rw [← HP.out]; exact Hb2.out) (by rw [← HP.out, Hn2.out]; exact Hz.out); rw [← HP.out, Hn1.out, Hn2.out] at h; exact h) (by rw [str_dec', Htx.out])) HE.out
        | false =>
          replace B1 := Lib.hid (B1.out.ext hF)
          replace B7 := Lib.hid (B7.out.ext hF)
          replace B16 := Lib.hid (B16.out.ext hF)
          replace F6 := Lib.hid (F6.out.ext hF)
          replace F13 := Lib.hid (F13.out.ext hF)
          replace F15 := Lib.hid (F15.out.ext hF)
          replace HE := Lib.hid (HE.out.trans hF)
          have Hb2 := Lib.hid hb2.symm
          clear hF hI hb2
          obtain ⟨c68_0, c68_1, c68_2, c68_3, f68_0, f68_1, f68_2, f68_3⟩ := B1.out.cell4
          have hl69 := B1.out.lt
          obtain ⟨c70_0, c70_1, f70_0, f70_1⟩ := B7.out.cell2
          have hl71 := B7.out.lt
          obtain ⟨c72_0, c72_1, c72_2, c72_3, f72_0, f72_1, f72_2, f72_3⟩ := B16.out.cell4
          have hl73 := B16.out.lt
          go_wp2
          clear c68_0 c68_1 c68_2 c68_3 f68_0 f68_1 f68_2 f68_3 hl69 c70_0 c70_1 f70_0 f70_1 hl71 c72_0 c72_1 c72_2 c72_3 f72_0 f72_1 f72_2 f72_3 hl73
          have hFs : Fr (fun i => i = w.heap.size) w24 ((((w24.setCell ⟨w.heap.size, 0, none⟩ (.bool false)).setCell ⟨w.heap.size, 1, none⟩ (.slice none 0 0)).setCell ⟨w.heap.size, 2, none⟩ (.bool false)).setCell ⟨w.heap.size, 3, none⟩ (.slice none 0 0)) := (((((Fr.refl (fun i => i = w.heap.size) _).setCell (p := ⟨w.heap.size, 0, none⟩) (Or.inl rfl) _).setCell (p := ⟨w.heap.size, 1, none⟩) (Or.inl rfl) _).setCell (p := ⟨w.heap.size, 2, none⟩) (Or.inl rfl) _).setCell (p := ⟨w.heap.size, 3, none⟩) (Or.inl rfl) _)
          replace F6 := Lib.hid (F6.out.oth B1.out noRow4 hFs)
          replace F13 := Lib.hid (F13.out.oth B1.out noRow4 hFs)
          replace F15 := Lib.hid (F15.out.oth B1.out noRow4 hFs)
          replace B7 := Lib.hid (B7.out.fr hFs (by first | omega | (have := B7.out.lt; have := B1.out.lt; omega)))
          replace B16 := Lib.hid (B16.out.fr hFs (by first | omega | (have := B16.out.lt; have := B1.out.lt; omega)))
          replace HE := Lib.hid (HE.out.next hFs (fun i hi e => by first | omega | (have := HE.out.size; have := B1.out.lt; omega)))
          have b_new : Blk 55 ((((w24.setCell ⟨w.heap.size, 0, none⟩ (.bool false)).setCell ⟨w.heap.size, 1, none⟩ (.slice none 0 0)).setCell ⟨w.heap.size, 2, none⟩ (.bool false)).setCell ⟨w.heap.size, 3, none⟩ (.slice none 0 0)) w.heap.size #[.bool false, .slice none 0 0, .bool false, .slice none 0 0] := ((((B1.out.set_ 0 _).set_ 1 _).set_ 2 _).set_ 3 _)
          have hsz75 : (((((w24.setCell ⟨w.heap.size, 0, none⟩ (.bool false)).setCell ⟨w.heap.size, 1, none⟩ (.slice none 0 0)).setCell ⟨w.heap.size, 2, none⟩ (.bool false)).setCell ⟨w.heap.size, 3, none⟩ (.slice none 0 0))).heap.size = w24.heap.size := by simp
          generalize ((((w24.setCell ⟨w.heap.size, 0, none⟩ (.bool false)).setCell ⟨w.heap.size, 1, none⟩ (.slice none 0 0)).setCell ⟨w.heap.size, 2, none⟩ (.bool false)).setCell ⟨w.heap.size, 3, none⟩ (.slice none 0 0)) = w74 at *
          replace B1 := Lib.hid b_new; clear b_new hFs
          generalize hwb : World.alloc w74 _ = w76
          obtain ⟨b_B67, hF⟩ := blocks1 hwb
          clear hwb
          have hlt77 := B1.out.lt
          rw [hsz75] at hlt77
          have hlt78 := B7.out.lt
          rw [hsz75] at hlt78
          have hlt79 := B16.out.lt
          rw [hsz75] at hlt79
          rw [hsz75] at b_B67
          generalize w24.heap.size = g76 at *
          have B67 := Lib.hid b_B67; clear b_B67
          replace B1 := Lib.hid (B1.out.ext hF)
          replace B7 := Lib.hid (B7.out.ext hF)
          replace B16 := Lib.hid (B16.out.ext hF)
          replace F6 := Lib.hid (F6.out.ext hF)
          replace F13 := Lib.hid (F13.out.ext hF)
          replace F15 := Lib.hid (F15.out.ext hF)
          replace HE := Lib.hid (HE.out.trans hF)
          clear hF
          exact fin_NRatB (b := false) rfl rfl rfl B1.out (NRatIs.nil _) (Or.inr ⟨rfl, by rw [← nread_eq]; exact nread_bad2 Hun.out Hb1.out (by have := HP.out; have := Hlt.out; rw [bytes_length]; omega) (Or.inl (by rw [← HP.out]; exact Hb2.out))⟩) HE.out
      · have hltI : ¬ ((p : Int) < (t.size : Int)) := by omega
        have hltB : decide ((p : Int) < (t.size : Int)) = false := by rw [decide_eq_false_iff_not]; omega
        have Hlt := Lib.hid hlt; clear hlt
        obtain ⟨c80_0, c80_1, c80_2, c80_3, f80_0, f80_1, f80_2, f80_3⟩ := B1.out.cell4
        have hl81 := B1.out.lt
        obtain ⟨c82_0, c82_1, f82_0, f82_1⟩ := B7.out.cell2
        have hl83 := B7.out.lt
        go_wp2_with fail
        clear c80_0 c80_1 c80_2 c80_3 f80_0 f80_1 f80_2 f80_3 hl81 c82_0 c82_1 f82_0 f82_1 hl83
        generalize hwb : World.alloc w12 _ = w84
        obtain ⟨b_B16, hF⟩ := blocks1 hwb
        clear hwb
        have hlt85 := B1.out.lt
        have hlt86 := B7.out.lt
        generalize w12.heap.size = g84 at *
        have B16 := Lib.hid b_B16; clear b_B16
        replace B1 := Lib.hid (B1.out.ext hF)
        replace B7 := Lib.hid (B7.out.ext hF)
        replace F6 := Lib.hid (F6.out.ext hF)
        replace F13 := Lib.hid (F13.out.ext hF)
        replace F15 := Lib.hid (F15.out.ext hF)
        replace HE := Lib.hid (HE.out.trans hF)
        clear hF
        refine wp_region_T 6 (fun W' => Blk 53 W' g10 #[.bool s5, .slice A5 l5 c5] ∧ Blk 55 W' g84 #[.bool s14, .slice A14 l14 c14, .bool false, .slice none 0 0]) follows_mixed' ?_
        replace B1 := Lib.hid (B1.out.ext (Fr.refl _ _).drew)
        replace B7 := Lib.hid (B7.out.ext (Fr.refl _ _).drew)
        replace B16 := Lib.hid (B16.out.ext (Fr.refl _ _).drew)
        replace F6 := Lib.hid (F6.out.ext (Fr.refl _ _).drew)
        replace F13 := Lib.hid (F13.out.ext (Fr.refl _ _).drew)
        replace F15 := Lib.hid (F15.out.ext (Fr.refl _ _).drew)
        replace HE := Lib.hid (HE.out.trans (Fr.refl _ _).drew)
        generalize w84.drew = w87 at *
        have hS := (⟨B7.out, B16.out⟩ : (fun W' => Blk 53 W' g10 #[.bool s5, .slice A5 l5 c5] ∧ Blk 55 W' g84 #[.bool s14, .slice A14 l14 c14, .bool false, .slice none 0 0]) w87)
        refine wpT_take 0 rfl (by kernel_rfl) (fun _ _ _ h => h) hS (fun _ => yl_NumRat (g := g84) (off := 0) (x := .bool s14) (y := .slice A14 l14 c14) (z := .bool false) (u := .slice none 0 0) rfl rfl (by kernel_rfl) (fun _ h => Blk.four (h.2) 0 rfl rfl rfl rfl)) (fun hS => ?_)
        refine wpT_take 1 rfl (by kernel_rfl) (fun _ _ _ h => h) hS (fun _ => yl_NumRat (g := g84) (off := 0) (x := .bool s14) (y := .slice A14 l14 c14) (z := .bool false) (u := .slice none 0 0) rfl rfl (by kernel_rfl) (fun _ h => Blk.four (h.2) 0 rfl rfl rfl rfl)) (fun hS => ?_)
        refine wpT_take 3 rfl (by kernel_rfl) (fun _ _ _ h => h) hS (fun _ => ym (v := .string s) rfl rfl (by kernel_rfl)) (fun hS => ?_)
        refine wpT_only 2 rfl (by kernel_rfl) rfl (fun K hK => ?_)
        go_simp
        clear hS
        have F89 : Hid (NRatIs w87 (.agg #[.bool s14, .slice A14 l14 c14, .bool false, .slice none 0 0]) (((sg true n1 : Int) : Rat))) := NRatIs.of (by exact F15.out) (by rw [denF_one (by simp)]; exact NumIs.nil _)
        refine (NText_all _ (((sg true n1 : Int) : Rat)) _ F89.out (by show ml (sg true n1).natAbs ≤ _; rw [sg_ml]; exact Hm1.out) (by show ml 1 ≤ _; decide)).mono ?_
        obtain ⟨tx, etx⟩ : ∃ tx, ratText (((sg true n1 : Int) : Rat)) = tx := ⟨_, rfl⟩
        rw [etx]; have Htx := Lib.hid etx; clear etx
        rintro e w88 ⟨rfl, hF⟩
        replace B1 := Lib.hid (B1.out.ext hF)
        replace B7 := Lib.hid (B7.out.ext hF)
        replace B16 := Lib.hid (B16.out.ext hF)
        replace F6 := Lib.hid (F6.out.ext hF)
        replace F13 := Lib.hid (F13.out.ext hF)
        replace F15 := Lib.hid (F15.out.ext hF)
        replace F89 := Lib.hid (F89.out.ext hF)
        replace HE := Lib.hid (HE.out.trans hF)
        clear hF
        have hS := (⟨B7.out, B16.out⟩ : (fun W' => Blk 53 W' g10 #[.bool s5, .slice A5 l5 c5] ∧ Blk 55 W' g84 #[.bool s14, .slice A14 l14 c14, .bool false, .slice none 0 0]) w88)
        refine hK _ _ hS ?_
        clear hK
        refine wpT_take 4 rfl (by kernel_rfl) (fun _ _ _ h => h) hS (fun _ => yeq_str (s := ⟨tx.toArray⟩) (t := s) rfl rfl (by kernel_rfl) (by kernel_rfl)) (fun hS => ?_)
        refine wpT_only 5 rfl (by kernel_rfl) rfl (fun K hK => ?_)
        clear hS
        obtain ⟨c90_0, c90_1, c90_2, c90_3, f90_0, f90_1, f90_2, f90_3⟩ := B1.out.cell4
        obtain ⟨c91_0, c91_1, f91_0, f91_1⟩ := B7.out.cell2
        obtain ⟨c92_0, c92_1, c92_2, c92_3, f92_0, f92_1, f92_2, f92_3⟩ := B16.out.cell4
        go_simp
        clear c90_0 c90_1 c90_2 c90_3 f90_0 f90_1 f90_2 f90_3 c91_0 c91_1 f91_0 f91_1 c92_0 c92_1 c92_2 c92_3 f92_0 f92_1 f92_2 f92_3
        have hFs : Fr (fun i => i = w.heap.size) w88 ((((w88.setCell ⟨w.heap.size, 0, none⟩ (.bool s14)).setCell ⟨w.heap.size, 1, none⟩ (.slice A14 l14 c14)).setCell ⟨w.heap.size, 2, none⟩ (.bool false)).setCell ⟨w.heap.size, 3, none⟩ (.slice none 0 0)) := (((((Fr.refl (fun i => i = w.heap.size) _).setCell (p := ⟨w.heap.size, 0, none⟩) (Or.inl rfl) _).setCell (p := ⟨w.heap.size, 1, none⟩) (Or.inl rfl) _).setCell (p := ⟨w.heap.size, 2, none⟩) (Or.inl rfl) _).setCell (p := ⟨w.heap.size, 3, none⟩) (Or.inl rfl) _)
        replace F6 := Lib.hid (F6.out.oth B1.out noRow4 hFs)
        replace F13 := Lib.hid (F13.out.oth B1.out noRow4 hFs)
        replace F15 := Lib.hid (F15.out.oth B1.out noRow4 hFs)
        replace F89 := Lib.hid (F89.out.oth B1.out noRow4 hFs)
        replace B7 := Lib.hid (B7.out.fr hFs (by first | omega | (have := B7.out.lt; have := B1.out.lt; omega)))
        replace B16 := Lib.hid (B16.out.fr hFs (by first | omega | (have := B16.out.lt; have := B1.out.lt; omega)))
        replace HE := Lib.hid (HE.out.next hFs (fun i hi e => by first | omega | (have := HE.out.size; have := B1.out.lt; omega)))
        have b_new : Blk 55 ((((w88.setCell ⟨w.heap.size, 0, none⟩ (.bool s14)).setCell ⟨w.heap.size, 1, none⟩ (.slice A14 l14 c14)).setCell ⟨w.heap.size, 2, none⟩ (.bool false)).setCell ⟨w.heap.size, 3, none⟩ (.slice none 0 0)) w.heap.size #[.bool s14, .slice A14 l14 c14, .bool false, .slice none 0 0] := ((((B1.out.set_ 0 _).set_ 1 _).set_ 2 _).set_ 3 _)
        generalize ((((w88.setCell ⟨w.heap.size, 0, none⟩ (.bool s14)).setCell ⟨w.heap.size, 1, none⟩ (.slice A14 l14 c14)).setCell ⟨w.heap.size, 2, none⟩ (.bool false)).setCell ⟨w.heap.size, 3, none⟩ (.slice none 0 0)) = w93 at *
        replace B1 := Lib.hid b_new; clear b_new hFs
        have hS := (⟨B7.out, B16.out⟩ : (fun W' => Blk 53 W' g10 #[.bool s5, .slice A5 l5 c5] ∧ Blk 55 W' g84 #[.bool s14, .slice A14 l14 c14, .bool false, .slice none 0 0]) w93)
        refine hK _ _ hS ?_
        clear hK
        refine wpT_tail (l := [_]) 6 rfl (by kernel_rfl) ?_
        clear hS
        obtain ⟨c94_0, c94_1, c94_2, c94_3, f94_0, f94_1, f94_2, f94_3⟩ := B1.out.cell4
        obtain ⟨c95_0, c95_1, f95_0, f95_1⟩ := B7.out.cell2
        obtain ⟨c96_0, c96_1, c96_2, c96_3, f96_0, f96_1, f96_2, f96_3⟩ := B16.out.cell4
        go_wp2
        clear c94_0 c94_1 c94_2 c94_3 f94_0 f94_1 f94_2 f94_3 c95_0 c95_1 f95_0 f95_1 c96_0 c96_1 c96_2 c96_3 f96_0 f96_1 f96_2 f96_3
        exact fin_NRatB (b := (tx == s.toList)) rfl rfl rfl B1.out F89.out (read_end (by have h := nread_whole Hun.out Hb1.out (by have := HP.out; have := Hlt.out; rw [bytes_length]; omega); rw [Hn1.out] at h; exact h) (by rw [str_dec', Htx.out])) HE.out
    | false =>
      replace B1 := Lib.hid (B1.out.ext hF)
      replace HE := Lib.hid (HE.out.trans hF)
      have Hb1 := Lib.hid hb1.symm
      clear hF hI hb1
      obtain ⟨c98_0, c98_1, c98_2, c98_3, f98_0, f98_1, f98_2, f98_3⟩ := B1.out.cell4
      have hl99 := B1.out.lt
      go_wp2
      clear c98_0 c98_1 c98_2 c98_3 f98_0 f98_1 f98_2 f98_3 hl99
      have hFs : Fr (fun i => i = w.heap.size) w4 ((((w4.setCell ⟨w.heap.size, 0, none⟩ (.bool false)).setCell ⟨w.heap.size, 1, none⟩ (.slice none 0 0)).setCell ⟨w.heap.size, 2, none⟩ (.bool false)).setCell ⟨w.heap.size, 3, none⟩ (.slice none 0 0)) := (((((Fr.refl (fun i => i = w.heap.size) _).setCell (p := ⟨w.heap.size, 0, none⟩) (Or.inl rfl) _).setCell (p := ⟨w.heap.size, 1, none⟩) (Or.inl rfl) _).setCell (p := ⟨w.heap.size, 2, none⟩) (Or.inl rfl) _).setCell (p := ⟨w.heap.size, 3, none⟩) (Or.inl rfl) _)
      replace HE := Lib.hid (HE.out.next hFs (fun i hi e => by first | omega | (have := HE.out.size; have := B1.out.lt; omega)))
      have b_new : Blk 55 ((((w4.setCell ⟨w.heap.size, 0, none⟩ (.bool false)).setCell ⟨w.heap.size, 1, none⟩ (.slice none 0 0)).setCell ⟨w.heap.size, 2, none⟩ (.bool false)).setCell ⟨w.heap.size, 3, none⟩ (.slice none 0 0)) w.heap.size #[.bool false, .slice none 0 0, .bool false, .slice none 0 0] := ((((B1.out.set_ 0 _).set_ 1 _).set_ 2 _).set_ 3 _)
      have hsz101 : (((((w4.setCell ⟨w.heap.size, 0, none⟩ (.bool false)).setCell ⟨w.heap.size, 1, none⟩ (.slice none 0 0)).setCell ⟨w.heap.size, 2, none⟩ (.bool false)).setCell ⟨w.heap.size, 3, none⟩ (.slice none 0 0))).heap.size = w4.heap.size := by simp
      generalize ((((w4.setCell ⟨w.heap.size, 0, none⟩ (.bool false)).setCell ⟨w.heap.size, 1, none⟩ (.slice none 0 0)).setCell ⟨w.heap.size, 2, none⟩ (.bool false)).setCell ⟨w.heap.size, 3, none⟩ (.slice none 0 0)) = w100 at *
      replace B1 := Lib.hid b_new; clear b_new hFs
      generalize hwb : World.alloc w100 _ = w102
      obtain ⟨b_B97, hF⟩ := blocks1 hwb
      clear hwb
      have hlt103 := B1.out.lt
      rw [hsz101] at hlt103
      rw [hsz101] at b_B97
      generalize w4.heap.size = g102 at *
      have B97 := Lib.hid b_B97; clear b_B97
      replace B1 := Lib.hid (B1.out.ext hF)
      replace HE := Lib.hid (HE.out.trans hF)
      clear hF
      exact fin_NRatB (b := false) rfl rfl rfl B1.out (NRatIs.nil _) (Or.inr ⟨rfl, by rw [← nread_eq]; exact nread_bad1 Hun.out Hb1.out⟩) HE.out

set_option maxHeartbeats 2000000 in
set_option maxRecDepth 100000 in
theorem NRead_pos (s : ByteArray) (w : World) (hs : s.size ≤ 65536) (h0 : 0 < s.size) (h1 : ¬ s[0] = 45) :
    Calls Tryz.prog 66 #[.string s] w (RetNRead w (bytes s)) := by
  have Hun : Hid (unsign (bytes s) = (false, bytes s)) := by unfold Hid unsign; rw [head_byte h0, if_neg (fun e => h1 (Option.some.inj e))]
  have hts := hs
  have Hsz := Lib.hid hs
  have hx : ¬ s[0].toNat = 45 := fun e => h1 (UInt8.toNat.inj e)
  have hx1 : ((s[0].toNat : Int) == 45) = false := by simp; omega
  clear h1
  go_enter Tryz.func66, Tryz.ntmps66
  go_upto_block 0 with fail
  generalize hwb : World.alloc w _ = w2
  obtain ⟨b_B1, hE0⟩ := blocks1 hwb
  clear hwb
  have B1 := Lib.hid b_B1
  clear b_B1
  have HE := Lib.hid hE0
  clear hE0
  go_cut [6, 7] from 27 to 37 (fun av _ wx => ∃ p : Nat, av = .int .i64 (p : Int) ∧ p ≤ s.size ∧ Hid (p = ((bytes s).takeWhile notSlash).length) ∧ Hid (wx = w2))
  case first =>
    go_wp2_with fail
    go_loop [6, 7] (fun av iv => ∃ i : Nat, i ≤ s.size ∧ av = .int .i64 (s.size : Int) ∧ iv = .int .i64 (i : Int) ∧ Hid (((bytes s).take i).all notSlash = true)) (fun _ iv => s.size - (intOf iv).toNat)
    case atStart => exact ⟨0, Nat.zero_le _, rfl, rfl, by unfold Hid; simp⟩
    case round =>
      obtain ⟨i, hi, rfl, rfl, hR⟩ := hrel
      by_cases hlt : i < s.size
      · by_cases hc : s[i] = 47
        · have HP : Hid (i = ((bytes s).takeWhile notSlash).length) := takeWhile_len hR.out (fun _ => by rw [bytes_at s hlt, hc]; decide) (by rw [bytes_length]; exact hi)
          have hx : s[i].toNat = 47 := by rw [hc]; rfl
          have hx1 : ((s[i].toNat : Int) == 47) = true := by rw [hx]; rfl
          clear hc
          go_wp2
          go_meet
          exact ⟨i, rfl, hi, HP, rfl⟩
        · have hx : ¬ s[i].toNat = 47 := fun e => hc (UInt8.toNat.inj e)
          have hx1 : ((s[i].toNat : Int) == 47) = false := by simp; omega
          have HR2 : Hid (((bytes s).take (i + 1)).all notSlash = true) := by
            unfold Hid
            rw [take_snoc s i hlt, List.all_append, hR.out]
            simp [notSlash, hc]
          clear hc
          go_wp2
          go_round
          case rel => exact ⟨i + 1, by omega, rfl, by go_num, HR2⟩
          case measure => simp [intOf]; omega
      · obtain rfl : i = s.size := by omega
        have HP : Hid (s.size = ((bytes s).takeWhile notSlash).length) := takeWhile_len hR.out (fun h => by rw [bytes_length] at h; omega) (by rw [bytes_length]; exact Nat.le_refl _)
        go_wp2
        go_meet
        exact ⟨s.size, rfl, Nat.le_refl _, HP, rfl⟩
  case rest =>
    obtain ⟨p, rfl, hpt, HP, hw⟩ := hcut
    obtain rfl := hw.out
    clear hw
    have Hcut := Lib.hid (cut_at HP.out)
    obtain ⟨c3_0, c3_1, c3_2, c3_3, f3_0, f3_1, f3_2, f3_3⟩ := B1.out.cell4
    go_wp2_with fail
    clear c3_0 c3_1 c3_2 c3_3 f3_0 f3_1 f3_2 f3_3
    refine (NFromDigits_any _ _ (Nat.le_trans (extract_le _ _ _) Hsz.out)).mono ?_
    rintro e w4 ⟨_, b1, rfl, hb1, hI, hF⟩
    rw [Hcut.out.1] at hb1 hI
    obtain ⟨s5, A5, l5, c5, rfl⟩ := hI.shp
    cases b1 with
    | true =>
      replace B1 := Lib.hid (B1.out.ext hF)
      replace HE := Lib.hid (HE.out.trans hF)
      have Hb1 := Lib.hid hb1.symm
      have Hd1 : Hid (((bytes s).takeWhile notSlash).all isDig = true) := by have := Hb1.out; rw [Bool.and_eq_true] at this; exact this.1
      rw [Hd1.out, if_pos rfl] at hI
      obtain ⟨n1, en1⟩ : ∃ n, decVal ((bytes s).takeWhile notSlash) = n := ⟨_, rfl⟩
      rw [en1] at hI; have Hn1 := Lib.hid en1; clear en1
      have Hm1 : Hid (ml n1 ≤ 65536) := by have := ml_decVal (t := s.extract 0 p) (by rw [Hcut.out.1]; exact Hd1.out) (Nat.le_trans (extract_le _ _ _) Hsz.out); rw [Hcut.out.1, Hn1.out] at this; exact this
      have F6 : Hid (NumIs w4 (.agg #[.bool s5, .slice A5 l5 c5]) ((n1 : Int))) := hI
      clear hF hI hb1
      obtain ⟨c8_0, c8_1, c8_2, c8_3, f8_0, f8_1, f8_2, f8_3⟩ := B1.out.cell4
      have hl9 := B1.out.lt
      go_wp2_with fail
      clear c8_0 c8_1 c8_2 c8_3 f8_0 f8_1 f8_2 f8_3 hl9
      generalize hwb : World.alloc w4 _ = w10
      obtain ⟨b_B7, hF⟩ := blocks1 hwb
      clear hwb
      have hlt11 := B1.out.lt
      generalize w4.heap.size = g10 at *
      have B7 := Lib.hid b_B7; clear b_B7
      replace B1 := Lib.hid (B1.out.ext hF)
      replace F6 := Lib.hid (F6.out.ext hF)
      replace HE := Lib.hid (HE.out.trans hF)
      clear hF
      have F13 : Hid (MagIs w10 (.slice A5 l5 c5) n1) := by have h := F6.out.mag; rw [Int.natAbs_natCast] at h; exact h
      refine (make1_ret false _ _ _ F13.out).mono ?_
      rintro e w12 ⟨_, rfl, hI, hF⟩
      obtain ⟨s14, A14, l14, c14, rfl⟩ := hI.shp
      replace B1 := Lib.hid (B1.out.ext hF)
      replace B7 := Lib.hid (B7.out.ext hF)
      replace F6 := Lib.hid (F6.out.ext hF)
      replace F13 := Lib.hid (F13.out.ext hF)
      replace HE := Lib.hid (HE.out.trans hF)
      have F15 : Hid (NumIs w12 (.agg #[.bool s14, .slice A14 l14 c14]) (sg false n1)) := hI
      clear hF hI
      by_cases hlt : p < s.size
      · have hltI : (p : Int) < (s.size : Int) := by omega
        have hltB : decide ((p : Int) < (s.size : Int)) = true := by rw [decide_eq_true_eq]; omega
        have Hlt := Lib.hid hlt; clear hlt
        obtain ⟨c17_0, c17_1, c17_2, c17_3, f17_0, f17_1, f17_2, f17_3⟩ := B1.out.cell4
        have hl18 := B1.out.lt
        obtain ⟨c19_0, c19_1, f19_0, f19_1⟩ := B7.out.cell2
        have hl20 := B7.out.lt
        go_wp2_with fail
        clear c17_0 c17_1 c17_2 c17_3 f17_0 f17_1 f17_2 f17_3 hl18 c19_0 c19_1 f19_0 f19_1 hl20
        generalize hwb : World.alloc w12 _ = w21
        obtain ⟨b_B16, hF⟩ := blocks1 hwb
        clear hwb
        have hlt22 := B1.out.lt
        have hlt23 := B7.out.lt
        generalize w12.heap.size = g21 at *
        have B16 := Lib.hid b_B16; clear b_B16
        replace B1 := Lib.hid (B1.out.ext hF)
        replace B7 := Lib.hid (B7.out.ext hF)
        replace F6 := Lib.hid (F6.out.ext hF)
        replace F13 := Lib.hid (F13.out.ext hF)
        replace F15 := Lib.hid (F15.out.ext hF)
        replace HE := Lib.hid (HE.out.trans hF)
        clear hF
        refine (NFromDigits_any _ _ (Nat.le_trans (extract_le _ _ _) Hsz.out)).mono ?_
        rintro e w24 ⟨_, b2, rfl, hb2, hI, hF⟩
        rw [Hcut.out.2] at hb2 hI
        obtain ⟨s25, A25, l25, c25, rfl⟩ := hI.shp
        cases b2 with
        | true =>
          replace B1 := Lib.hid (B1.out.ext hF)
          replace B7 := Lib.hid (B7.out.ext hF)
          replace B16 := Lib.hid (B16.out.ext hF)
          replace F6 := Lib.hid (F6.out.ext hF)
          replace F13 := Lib.hid (F13.out.ext hF)
          replace F15 := Lib.hid (F15.out.ext hF)
          replace HE := Lib.hid (HE.out.trans hF)
          have Hb2 := Lib.hid hb2.symm
          have Hd2 : Hid (((bytes s).drop (p + 1)).all isDig = true) := by have := Hb2.out; rw [Bool.and_eq_true] at this; exact this.1
          rw [Hd2.out, if_pos rfl] at hI
          obtain ⟨n2, en2⟩ : ∃ n, decVal ((bytes s).drop (p + 1)) = n := ⟨_, rfl⟩
          rw [en2] at hI; have Hn2 := Lib.hid en2; clear en2
          have Hm2 : Hid (ml n2 ≤ 65536) := by have := ml_decVal (t := s.extract (p + 1) s.size) (by rw [Hcut.out.2]; exact Hd2.out) (Nat.le_trans (extract_le _ _ _) Hsz.out); rw [Hcut.out.2, Hn2.out] at this; exact this
          have F26 : Hid (NumIs w24 (.agg #[.bool s25, .slice A25 l25 c25]) ((n2 : Int))) := hI
          clear hF hI hb2
          obtain ⟨c28_0, c28_1, c28_2, c28_3, f28_0, f28_1, f28_2, f28_3⟩ := B1.out.cell4
          have hl29 := B1.out.lt
          obtain ⟨c30_0, c30_1, f30_0, f30_1⟩ := B7.out.cell2
          have hl31 := B7.out.lt
          obtain ⟨c32_0, c32_1, c32_2, c32_3, f32_0, f32_1, f32_2, f32_3⟩ := B16.out.cell4
          have hl33 := B16.out.lt
          go_wp2_with fail
          clear c28_0 c28_1 c28_2 c28_3 f28_0 f28_1 f28_2 f28_3 hl29 c30_0 c30_1 f30_0 f30_1 hl31 c32_0 c32_1 c32_2 c32_3 f32_0 f32_1 f32_2 f32_3 hl33
          generalize hwb : World.alloc w24 _ = w34
          obtain ⟨b_B27, hF⟩ := blocks1 hwb
          clear hwb
          have hlt35 := B1.out.lt
          have hlt36 := B7.out.lt
          have hlt37 := B16.out.lt
          generalize w24.heap.size = g34 at *
          have B27 := Lib.hid b_B27; clear b_B27
          replace B1 := Lib.hid (B1.out.ext hF)
          replace B7 := Lib.hid (B7.out.ext hF)
          replace B16 := Lib.hid (B16.out.ext hF)
          replace F6 := Lib.hid (F6.out.ext hF)
          replace F13 := Lib.hid (F13.out.ext hF)
          replace F15 := Lib.hid (F15.out.ext hF)
          replace F26 := Lib.hid (F26.out.ext hF)
          replace HE := Lib.hid (HE.out.trans hF)
          clear hF
          refine (NSign_any _ ((n2 : Int)) _ F26.out).mono ?_
          by_cases hz : n2 = 0
          · rw [hz, show ((0 : Nat) : Int).sign = 0 from rfl]
            have Hz := Lib.hid hz; clear hz
            rintro e w38 ⟨rfl, hF⟩
            replace B1 := Lib.hid (B1.out.ext hF)
            replace B7 := Lib.hid (B7.out.ext hF)
            replace B16 := Lib.hid (B16.out.ext hF)
            replace B27 := Lib.hid (B27.out.ext hF)
            replace F6 := Lib.hid (F6.out.ext hF)
            replace F13 := Lib.hid (F13.out.ext hF)
            replace F15 := Lib.hid (F15.out.ext hF)
            replace F26 := Lib.hid (F26.out.ext hF)
            replace HE := Lib.hid (HE.out.trans hF)
            clear hF
            obtain ⟨c39_0, c39_1, c39_2, c39_3, f39_0, f39_1, f39_2, f39_3⟩ := B1.out.cell4
            obtain ⟨c40_0, c40_1, f40_0, f40_1⟩ := B7.out.cell2
            obtain ⟨c41_0, c41_1, c41_2, c41_3, f41_0, f41_1, f41_2, f41_3⟩ := B16.out.cell4
            obtain ⟨c42_0, c42_1, f42_0, f42_1⟩ := B27.out.cell2
            go_wp2
            clear c39_0 c39_1 c39_2 c39_3 f39_0 f39_1 f39_2 f39_3 c40_0 c40_1 f40_0 f40_1 c41_0 c41_1 c41_2 c41_3 f41_0 f41_1 f41_2 f41_3 c42_0 c42_1 f42_0 f42_1
            have hFs : Fr (fun i => i = w.heap.size) w38 ((((w38.setCell ⟨w.heap.size, 0, none⟩ (.bool false)).setCell ⟨w.heap.size, 1, none⟩ (.slice none 0 0)).setCell ⟨w.heap.size, 2, none⟩ (.bool false)).setCell ⟨w.heap.size, 3, none⟩ (.slice none 0 0)) := (((((Fr.refl (fun i => i = w.heap.size) _).setCell (p := ⟨w.heap.size, 0, none⟩) (Or.inl rfl) _).setCell (p := ⟨w.heap.size, 1, none⟩) (Or.inl rfl) _).setCell (p := ⟨w.heap.size, 2, none⟩) (Or.inl rfl) _).setCell (p := ⟨w.heap.size, 3, none⟩) (Or.inl rfl) _)
            replace F6 := Lib.hid (F6.out.oth B1.out noRow4 hFs)
            replace F13 := Lib.hid (F13.out.oth B1.out noRow4 hFs)
            replace F15 := Lib.hid (F15.out.oth B1.out noRow4 hFs)
            replace F26 := Lib.hid (F26.out.oth B1.out noRow4 hFs)
            replace B7 := Lib.hid (B7.out.fr hFs (by first | omega | (have := B7.out.lt; have := B1.out.lt; omega)))
            replace B16 := Lib.hid (B16.out.fr hFs (by first | omega | (have := B16.out.lt; have := B1.out.lt; omega)))
            replace B27 := Lib.hid (B27.out.fr hFs (by first | omega | (have := B27.out.lt; have := B1.out.lt; omega)))
            replace HE := Lib.hid (HE.out.next hFs (fun i hi e => by first | omega | (have := HE.out.size; have := B1.out.lt; omega)))
            have b_new : Blk 55 ((((w38.setCell ⟨w.heap.size, 0, none⟩ (.bool false)).setCell ⟨w.heap.size, 1, none⟩ (.slice none 0 0)).setCell ⟨w.heap.size, 2, none⟩ (.bool false)).setCell ⟨w.heap.size, 3, none⟩ (.slice none 0 0)) w.heap.size #[.bool false, .slice none 0 0, .bool false, .slice none 0 0] := ((((B1.out.set_ 0 _).set_ 1 _).set_ 2 _).set_ 3 _)
            generalize ((((w38.setCell ⟨w.heap.size, 0, none⟩ (.bool false)).setCell ⟨w.heap.size, 1, none⟩ (.slice none 0 0)).setCell ⟨w.heap.size, 2, none⟩ (.bool false)).setCell ⟨w.heap.size, 3, none⟩ (.slice none 0 0)) = w43 at *
            replace B1 := Lib.hid b_new; clear b_new hFs
            exact fin_NRatB (b := false) rfl rfl rfl B1.out (NRatIs.nil _) (Or.inr ⟨rfl, by rw [← nread_eq]; exact nread_bad2 Hun.out Hb1.out (by have := HP.out; have := Hlt.out; rw [bytes_length]; omega) (Or.inr (by rw [← HP.out, Hn2.out]; exact Hz.out))⟩) HE.out
          · rw [Int.sign_eq_one_of_pos (show (0 : Int) < (n2 : Int) by omega)]
            have Hz := Lib.hid hz; clear hz
            rintro e w38 ⟨rfl, hF⟩
            replace B1 := Lib.hid (B1.out.ext hF)
            replace B7 := Lib.hid (B7.out.ext hF)
            replace B16 := Lib.hid (B16.out.ext hF)
            replace B27 := Lib.hid (B27.out.ext hF)
            replace F6 := Lib.hid (F6.out.ext hF)
            replace F13 := Lib.hid (F13.out.ext hF)
            replace F15 := Lib.hid (F15.out.ext hF)
            replace F26 := Lib.hid (F26.out.ext hF)
            replace HE := Lib.hid (HE.out.trans hF)
            clear hF
            obtain ⟨c44_0, c44_1, c44_2, c44_3, f44_0, f44_1, f44_2, f44_3⟩ := B1.out.cell4
            obtain ⟨c45_0, c45_1, f45_0, f45_1⟩ := B7.out.cell2
            obtain ⟨c46_0, c46_1, c46_2, c46_3, f46_0, f46_1, f46_2, f46_3⟩ := B16.out.cell4
            obtain ⟨c47_0, c47_1, f47_0, f47_1⟩ := B27.out.cell2
            go_wp2_with fail
            clear c44_0 c44_1 c44_2 c44_3 f44_0 f44_1 f44_2 f44_3 c45_0 c45_1 f45_0 f45_1 c46_0 c46_1 c46_2 c46_3 f46_0 f46_1 f46_2 f46_3 c47_0 c47_1 f47_0 f47_1
            refine (NFrac_any _ _ (sg false n1) ((n2 : Int)) _ F15.out F26.out (by unfold NFits; rw [sg_ml]; have := Hm1.out; omega) (by unfold NFits; rw [Int.natAbs_natCast]; have := Hm2.out; omega) (by have := Hz.out; omega)).mono ?_
            rintro e w48 ⟨_, rfl, hI, hF⟩
            obtain ⟨s49, A49, l49, c49, t49, B49, m49, d49, rfl⟩ := hI.shp
            replace B1 := Lib.hid (B1.out.ext hF)
            replace B7 := Lib.hid (B7.out.ext hF)
            replace B16 := Lib.hid (B16.out.ext hF)
            replace B27 := Lib.hid (B27.out.ext hF)
            replace F6 := Lib.hid (F6.out.ext hF)
            replace F13 := Lib.hid (F13.out.ext hF)
            replace F15 := Lib.hid (F15.out.ext hF)
            replace F26 := Lib.hid (F26.out.ext hF)
            replace HE := Lib.hid (HE.out.trans hF)
            have F50 : Hid (NRatIs w48 (.agg #[.bool s49, .slice A49 l49 c49, .bool t49, .slice B49 m49 d49]) (Rat.divInt (sg false n1) ((n2 : Int)))) := hI
            clear hF hI
            have Hs1 := Lib.hid (frac_ml (x := sg false n1) (y := (n2 : Int)) (by have := Hz.out; omega))
            rw [sg_ml, Int.natAbs_natCast] at Hs1
            obtain ⟨c51_0, c51_1, c51_2, c51_3, f51_0, f51_1, f51_2, f51_3⟩ := B1.out.cell4
            obtain ⟨c52_0, c52_1, f52_0, f52_1⟩ := B7.out.cell2
            obtain ⟨c53_0, c53_1, c53_2, c53_3, f53_0, f53_1, f53_2, f53_3⟩ := B16.out.cell4
            obtain ⟨c54_0, c54_1, f54_0, f54_1⟩ := B27.out.cell2
            go_wp2_with fail
            clear c51_0 c51_1 c51_2 c51_3 f51_0 f51_1 f51_2 f51_3 c52_0 c52_1 f52_0 f52_1 c53_0 c53_1 c53_2 c53_3 f53_0 f53_1 f53_2 f53_3 c54_0 c54_1 f54_0 f54_1
            have hFs : Fr (fun i => i = g21) w48 ((((w48.setCell ⟨g21, 0, none⟩ (.bool s49)).setCell ⟨g21, 1, none⟩ (.slice A49 l49 c49)).setCell ⟨g21, 2, none⟩ (.bool t49)).setCell ⟨g21, 3, none⟩ (.slice B49 m49 d49)) := (((((Fr.refl (fun i => i = g21) _).setCell (p := ⟨g21, 0, none⟩) (Or.inl rfl) _).setCell (p := ⟨g21, 1, none⟩) (Or.inl rfl) _).setCell (p := ⟨g21, 2, none⟩) (Or.inl rfl) _).setCell (p := ⟨g21, 3, none⟩) (Or.inl rfl) _)
            replace F6 := Lib.hid (F6.out.oth B16.out noRow4 hFs)
            replace F13 := Lib.hid (F13.out.oth B16.out noRow4 hFs)
            replace F15 := Lib.hid (F15.out.oth B16.out noRow4 hFs)
            replace F26 := Lib.hid (F26.out.oth B16.out noRow4 hFs)
            replace F50 := Lib.hid (F50.out.oth B16.out noRow4 hFs)
            replace B1 := Lib.hid (B1.out.fr hFs (by first | omega | (have := B1.out.lt; have := B16.out.lt; omega)))
            replace B7 := Lib.hid (B7.out.fr hFs (by first | omega | (have := B7.out.lt; have := B16.out.lt; omega)))
            replace B27 := Lib.hid (B27.out.fr hFs (by first | omega | (have := B27.out.lt; have := B16.out.lt; omega)))
            replace HE := Lib.hid (HE.out.next hFs (fun i hi e => by first | omega | (have := HE.out.size; have := B16.out.lt; omega)))
            have b_new : Blk 55 ((((w48.setCell ⟨g21, 0, none⟩ (.bool s49)).setCell ⟨g21, 1, none⟩ (.slice A49 l49 c49)).setCell ⟨g21, 2, none⟩ (.bool t49)).setCell ⟨g21, 3, none⟩ (.slice B49 m49 d49)) g21 #[.bool s49, .slice A49 l49 c49, .bool t49, .slice B49 m49 d49] := ((((B16.out.set_ 0 _).set_ 1 _).set_ 2 _).set_ 3 _)
            generalize ((((w48.setCell ⟨g21, 0, none⟩ (.bool s49)).setCell ⟨g21, 1, none⟩ (.slice A49 l49 c49)).setCell ⟨g21, 2, none⟩ (.bool t49)).setCell ⟨g21, 3, none⟩ (.slice B49 m49 d49)) = w55 at *
            replace B16 := Lib.hid b_new; clear b_new hFs
            refine wp_region_T 6 (fun W' => Blk 53 W' g10 #[.bool s5, .slice A5 l5 c5] ∧ Blk 55 W' g21 #[.bool s49, .slice A49 l49 c49, .bool t49, .slice B49 m49 d49] ∧ Blk 53 W' g34 #[.bool s25, .slice A25 l25 c25]) follows_mixed' ?_
            replace B1 := Lib.hid (B1.out.ext (Fr.refl _ _).drew)
            replace B7 := Lib.hid (B7.out.ext (Fr.refl _ _).drew)
            replace B16 := Lib.hid (B16.out.ext (Fr.refl _ _).drew)
            replace B27 := Lib.hid (B27.out.ext (Fr.refl _ _).drew)
            replace F6 := Lib.hid (F6.out.ext (Fr.refl _ _).drew)
            replace F13 := Lib.hid (F13.out.ext (Fr.refl _ _).drew)
            replace F15 := Lib.hid (F15.out.ext (Fr.refl _ _).drew)
            replace F26 := Lib.hid (F26.out.ext (Fr.refl _ _).drew)
            replace F50 := Lib.hid (F50.out.ext (Fr.refl _ _).drew)
            replace HE := Lib.hid (HE.out.trans (Fr.refl _ _).drew)
            generalize w55.drew = w56 at *
            have hS := (⟨B7.out, B16.out, B27.out⟩ : (fun W' => Blk 53 W' g10 #[.bool s5, .slice A5 l5 c5] ∧ Blk 55 W' g21 #[.bool s49, .slice A49 l49 c49, .bool t49, .slice B49 m49 d49] ∧ Blk 53 W' g34 #[.bool s25, .slice A25 l25 c25]) w56)
            refine wpT_take 0 rfl (by kernel_rfl) (fun _ _ _ h => h) hS (fun _ => yl_NumRat (g := g21) (off := 0) (x := .bool s49) (y := .slice A49 l49 c49) (z := .bool t49) (u := .slice B49 m49 d49) rfl rfl (by kernel_rfl) (fun _ h => Blk.four (h.2.1) 0 rfl rfl rfl rfl)) (fun hS => ?_)
            refine wpT_take 1 rfl (by kernel_rfl) (fun _ _ _ h => h) hS (fun _ => yl_NumRat (g := g21) (off := 0) (x := .bool s49) (y := .slice A49 l49 c49) (z := .bool t49) (u := .slice B49 m49 d49) rfl rfl (by kernel_rfl) (fun _ h => Blk.four (h.2.1) 0 rfl rfl rfl rfl)) (fun hS => ?_)
            refine wpT_take 3 rfl (by kernel_rfl) (fun _ _ _ h => h) hS (fun _ => ym (v := .string s) rfl rfl (by kernel_rfl)) (fun hS => ?_)
            refine wpT_only 2 rfl (by kernel_rfl) rfl (fun K hK => ?_)
            go_simp
            clear hS
            refine (NText_all _ (Rat.divInt (sg false n1) ((n2 : Int))) _ F50.out (by have := Hs1.out.1; have := Hm1.out; omega) (by have := Hs1.out.2; have := Hm2.out; omega)).mono ?_
            obtain ⟨tx, etx⟩ : ∃ tx, ratText (Rat.divInt (sg false n1) ((n2 : Int))) = tx := ⟨_, rfl⟩
            rw [etx]; have Htx := Lib.hid etx; clear etx
            rintro e w57 ⟨rfl, hF⟩
            replace B1 := Lib.hid (B1.out.ext hF)
            replace B7 := Lib.hid (B7.out.ext hF)
            replace B16 := Lib.hid (B16.out.ext hF)
            replace B27 := Lib.hid (B27.out.ext hF)
            replace F6 := Lib.hid (F6.out.ext hF)
            replace F13 := Lib.hid (F13.out.ext hF)
            replace F15 := Lib.hid (F15.out.ext hF)
            replace F26 := Lib.hid (F26.out.ext hF)
            replace F50 := Lib.hid (F50.out.ext hF)
            replace HE := Lib.hid (HE.out.trans hF)
            clear hF
            have hS := (⟨B7.out, B16.out, B27.out⟩ : (fun W' => Blk 53 W' g10 #[.bool s5, .slice A5 l5 c5] ∧ Blk 55 W' g21 #[.bool s49, .slice A49 l49 c49, .bool t49, .slice B49 m49 d49] ∧ Blk 53 W' g34 #[.bool s25, .slice A25 l25 c25]) w57)
            refine hK _ _ hS ?_
            clear hK
            refine wpT_take 4 rfl (by kernel_rfl) (fun _ _ _ h => h) hS (fun _ => yeq_str (s := ⟨tx.toArray⟩) (t := s) rfl rfl (by kernel_rfl) (by kernel_rfl)) (fun hS => ?_)
            refine wpT_only 5 rfl (by kernel_rfl) rfl (fun K hK => ?_)
            clear hS
            obtain ⟨c58_0, c58_1, c58_2, c58_3, f58_0, f58_1, f58_2, f58_3⟩ := B1.out.cell4
            obtain ⟨c59_0, c59_1, f59_0, f59_1⟩ := B7.out.cell2
            obtain ⟨c60_0, c60_1, c60_2, c60_3, f60_0, f60_1, f60_2, f60_3⟩ := B16.out.cell4
            obtain ⟨c61_0, c61_1, f61_0, f61_1⟩ := B27.out.cell2
            go_simp
            clear c58_0 c58_1 c58_2 c58_3 f58_0 f58_1 f58_2 f58_3 c59_0 c59_1 f59_0 f59_1 c60_0 c60_1 c60_2 c60_3 f60_0 f60_1 f60_2 f60_3 c61_0 c61_1 f61_0 f61_1
            have hFs : Fr (fun i => i = w.heap.size) w57 ((((w57.setCell ⟨w.heap.size, 0, none⟩ (.bool s49)).setCell ⟨w.heap.size, 1, none⟩ (.slice A49 l49 c49)).setCell ⟨w.heap.size, 2, none⟩ (.bool t49)).setCell ⟨w.heap.size, 3, none⟩ (.slice B49 m49 d49)) := (((((Fr.refl (fun i => i = w.heap.size) _).setCell (p := ⟨w.heap.size, 0, none⟩) (Or.inl rfl) _).setCell (p := ⟨w.heap.size, 1, none⟩) (Or.inl rfl) _).setCell (p := ⟨w.heap.size, 2, none⟩) (Or.inl rfl) _).setCell (p := ⟨w.heap.size, 3, none⟩) (Or.inl rfl) _)
            replace F6 := Lib.hid (F6.out.oth B1.out noRow4 hFs)
            replace F13 := Lib.hid (F13.out.oth B1.out noRow4 hFs)
            replace F15 := Lib.hid (F15.out.oth B1.out noRow4 hFs)
            replace F26 := Lib.hid (F26.out.oth B1.out noRow4 hFs)
            replace F50 := Lib.hid (F50.out.oth B1.out noRow4 hFs)
            replace B7 := Lib.hid (B7.out.fr hFs (by first | omega | (have := B7.out.lt; have := B1.out.lt; omega)))
            replace B16 := Lib.hid (B16.out.fr hFs (by first | omega | (have := B16.out.lt; have := B1.out.lt; omega)))
            replace B27 := Lib.hid (B27.out.fr hFs (by first | omega | (have := B27.out.lt; have := B1.out.lt; omega)))
            replace HE := Lib.hid (HE.out.next hFs (fun i hi e => by first | omega | (have := HE.out.size; have := B1.out.lt; omega)))
            have b_new : Blk 55 ((((w57.setCell ⟨w.heap.size, 0, none⟩ (.bool s49)).setCell ⟨w.heap.size, 1, none⟩ (.slice A49 l49 c49)).setCell ⟨w.heap.size, 2, none⟩ (.bool t49)).setCell ⟨w.heap.size, 3, none⟩ (.slice B49 m49 d49)) w.heap.size #[.bool s49, .slice A49 l49 c49, .bool t49, .slice B49 m49 d49] := ((((B1.out.set_ 0 _).set_ 1 _).set_ 2 _).set_ 3 _)
            generalize ((((w57.setCell ⟨w.heap.size, 0, none⟩ (.bool s49)).setCell ⟨w.heap.size, 1, none⟩ (.slice A49 l49 c49)).setCell ⟨w.heap.size, 2, none⟩ (.bool t49)).setCell ⟨w.heap.size, 3, none⟩ (.slice B49 m49 d49)) = w62 at *
            replace B1 := Lib.hid b_new; clear b_new hFs
            have hS := (⟨B7.out, B16.out, B27.out⟩ : (fun W' => Blk 53 W' g10 #[.bool s5, .slice A5 l5 c5] ∧ Blk 55 W' g21 #[.bool s49, .slice A49 l49 c49, .bool t49, .slice B49 m49 d49] ∧ Blk 53 W' g34 #[.bool s25, .slice A25 l25 c25]) w62)
            refine hK _ _ hS ?_
            clear hK
            refine wpT_tail (l := [_]) 6 rfl (by kernel_rfl) ?_
            clear hS
            obtain ⟨c63_0, c63_1, c63_2, c63_3, f63_0, f63_1, f63_2, f63_3⟩ := B1.out.cell4
            obtain ⟨c64_0, c64_1, f64_0, f64_1⟩ := B7.out.cell2
            obtain ⟨c65_0, c65_1, c65_2, c65_3, f65_0, f65_1, f65_2, f65_3⟩ := B16.out.cell4
            obtain ⟨c66_0, c66_1, f66_0, f66_1⟩ := B27.out.cell2
            go_wp2
            clear c63_0 c63_1 c63_2 c63_3 f63_0 f63_1 f63_2 f63_3 c64_0 c64_1 f64_0 f64_1 c65_0 c65_1 c65_2 c65_3 f65_0 f65_1 f65_2 f65_3 c66_0 c66_1 f66_0 f66_1
            exact fin_NRatB (b := (tx == s.toList)) rfl rfl rfl B1.out F50.out (read_end (by have h := nread_frac Hun.out Hb1.out (by have := HP.out; have := Hlt.out; rw [bytes_length]; omega) (by rw [← HP.out]; exact Hb2.out) (by rw [← HP.out, Hn2.out]; exact Hz.out); rw [← HP.out, Hn1.out, Hn2.out] at h; exact h) (by rw [str_dec', Htx.out])) HE.out
        | false =>
          replace B1 := Lib.hid (B1.out.ext hF)
          replace B7 := Lib.hid (B7.out.ext hF)
          replace B16 := Lib.hid (B16.out.ext hF)
          replace F6 := Lib.hid (F6.out.ext hF)
          replace F13 := Lib.hid (F13.out.ext hF)
          replace F15 := Lib.hid (F15.out.ext hF)
          replace HE := Lib.hid (HE.out.trans hF)
          have Hb2 := Lib.hid hb2.symm
          clear hF hI hb2
          obtain ⟨c68_0, c68_1, c68_2, c68_3, f68_0, f68_1, f68_2, f68_3⟩ := B1.out.cell4
          have hl69 := B1.out.lt
          obtain ⟨c70_0, c70_1, f70_0, f70_1⟩ := B7.out.cell2
          have hl71 := B7.out.lt
          obtain ⟨c72_0, c72_1, c72_2, c72_3, f72_0, f72_1, f72_2, f72_3⟩ := B16.out.cell4
          have hl73 := B16.out.lt
          go_wp2
          clear c68_0 c68_1 c68_2 c68_3 f68_0 f68_1 f68_2 f68_3 hl69 c70_0 c70_1 f70_0 f70_1 hl71 c72_0 c72_1 c72_2 c72_3 f72_0 f72_1 f72_2 f72_3 hl73
          have hFs : Fr (fun i => i = w.heap.size) w24 ((((w24.setCell ⟨w.heap.size, 0, none⟩ (.bool false)).setCell ⟨w.heap.size, 1, none⟩ (.slice none 0 0)).setCell ⟨w.heap.size, 2, none⟩ (.bool false)).setCell ⟨w.heap.size, 3, none⟩ (.slice none 0 0)) := (((((Fr.refl (fun i => i = w.heap.size) _).setCell (p := ⟨w.heap.size, 0, none⟩) (Or.inl rfl) _).setCell (p := ⟨w.heap.size, 1, none⟩) (Or.inl rfl) _).setCell (p := ⟨w.heap.size, 2, none⟩) (Or.inl rfl) _).setCell (p := ⟨w.heap.size, 3, none⟩) (Or.inl rfl) _)
          replace F6 := Lib.hid (F6.out.oth B1.out noRow4 hFs)
          replace F13 := Lib.hid (F13.out.oth B1.out noRow4 hFs)
          replace F15 := Lib.hid (F15.out.oth B1.out noRow4 hFs)
          replace B7 := Lib.hid (B7.out.fr hFs (by first | omega | (have := B7.out.lt; have := B1.out.lt; omega)))
          replace B16 := Lib.hid (B16.out.fr hFs (by first | omega | (have := B16.out.lt; have := B1.out.lt; omega)))
          replace HE := Lib.hid (HE.out.next hFs (fun i hi e => by first | omega | (have := HE.out.size; have := B1.out.lt; omega)))
          have b_new : Blk 55 ((((w24.setCell ⟨w.heap.size, 0, none⟩ (.bool false)).setCell ⟨w.heap.size, 1, none⟩ (.slice none 0 0)).setCell ⟨w.heap.size, 2, none⟩ (.bool false)).setCell ⟨w.heap.size, 3, none⟩ (.slice none 0 0)) w.heap.size #[.bool false, .slice none 0 0, .bool false, .slice none 0 0] := ((((B1.out.set_ 0 _).set_ 1 _).set_ 2 _).set_ 3 _)
          have hsz75 : (((((w24.setCell ⟨w.heap.size, 0, none⟩ (.bool false)).setCell ⟨w.heap.size, 1, none⟩ (.slice none 0 0)).setCell ⟨w.heap.size, 2, none⟩ (.bool false)).setCell ⟨w.heap.size, 3, none⟩ (.slice none 0 0))).heap.size = w24.heap.size := by simp
          generalize ((((w24.setCell ⟨w.heap.size, 0, none⟩ (.bool false)).setCell ⟨w.heap.size, 1, none⟩ (.slice none 0 0)).setCell ⟨w.heap.size, 2, none⟩ (.bool false)).setCell ⟨w.heap.size, 3, none⟩ (.slice none 0 0)) = w74 at *
          replace B1 := Lib.hid b_new; clear b_new hFs
          generalize hwb : World.alloc w74 _ = w76
          obtain ⟨b_B67, hF⟩ := blocks1 hwb
          clear hwb
          have hlt77 := B1.out.lt
          rw [hsz75] at hlt77
          have hlt78 := B7.out.lt
          rw [hsz75] at hlt78
          have hlt79 := B16.out.lt
          rw [hsz75] at hlt79
          rw [hsz75] at b_B67
          generalize w24.heap.size = g76 at *
          have B67 := Lib.hid b_B67; clear b_B67
          replace B1 := Lib.hid (B1.out.ext hF)
          replace B7 := Lib.hid (B7.out.ext hF)
          replace B16 := Lib.hid (B16.out.ext hF)
          replace F6 := Lib.hid (F6.out.ext hF)
          replace F13 := Lib.hid (F13.out.ext hF)
          replace F15 := Lib.hid (F15.out.ext hF)
          replace HE := Lib.hid (HE.out.trans hF)
          clear hF
          exact fin_NRatB (b := false) rfl rfl rfl B1.out (NRatIs.nil _) (Or.inr ⟨rfl, by rw [← nread_eq]; exact nread_bad2 Hun.out Hb1.out (by have := HP.out; have := Hlt.out; rw [bytes_length]; omega) (Or.inl (by rw [← HP.out]; exact Hb2.out))⟩) HE.out
      · have hltI : ¬ ((p : Int) < (s.size : Int)) := by omega
        have hltB : decide ((p : Int) < (s.size : Int)) = false := by rw [decide_eq_false_iff_not]; omega
        have Hlt := Lib.hid hlt; clear hlt
        obtain ⟨c80_0, c80_1, c80_2, c80_3, f80_0, f80_1, f80_2, f80_3⟩ := B1.out.cell4
        have hl81 := B1.out.lt
        obtain ⟨c82_0, c82_1, f82_0, f82_1⟩ := B7.out.cell2
        have hl83 := B7.out.lt
        go_wp2_with fail
        clear c80_0 c80_1 c80_2 c80_3 f80_0 f80_1 f80_2 f80_3 hl81 c82_0 c82_1 f82_0 f82_1 hl83
        generalize hwb : World.alloc w12 _ = w84
        obtain ⟨b_B16, hF⟩ := blocks1 hwb
        clear hwb
        have hlt85 := B1.out.lt
        have hlt86 := B7.out.lt
        generalize w12.heap.size = g84 at *
        have B16 := Lib.hid b_B16; clear b_B16
        replace B1 := Lib.hid (B1.out.ext hF)
        replace B7 := Lib.hid (B7.out.ext hF)
        replace F6 := Lib.hid (F6.out.ext hF)
        replace F13 := Lib.hid (F13.out.ext hF)
        replace F15 := Lib.hid (F15.out.ext hF)
        replace HE := Lib.hid (HE.out.trans hF)
        clear hF
        refine wp_region_T 6 (fun W' => Blk 53 W' g10 #[.bool s5, .slice A5 l5 c5] ∧ Blk 55 W' g84 #[.bool s14, .slice A14 l14 c14, .bool false, .slice none 0 0]) follows_mixed' ?_
        replace B1 := Lib.hid (B1.out.ext (Fr.refl _ _).drew)
        replace B7 := Lib.hid (B7.out.ext (Fr.refl _ _).drew)
        replace B16 := Lib.hid (B16.out.ext (Fr.refl _ _).drew)
        replace F6 := Lib.hid (F6.out.ext (Fr.refl _ _).drew)
        replace F13 := Lib.hid (F13.out.ext (Fr.refl _ _).drew)
        replace F15 := Lib.hid (F15.out.ext (Fr.refl _ _).drew)
        replace HE := Lib.hid (HE.out.trans (Fr.refl _ _).drew)
        generalize w84.drew = w87 at *
        have hS := (⟨B7.out, B16.out⟩ : (fun W' => Blk 53 W' g10 #[.bool s5, .slice A5 l5 c5] ∧ Blk 55 W' g84 #[.bool s14, .slice A14 l14 c14, .bool false, .slice none 0 0]) w87)
        refine wpT_take 0 rfl (by kernel_rfl) (fun _ _ _ h => h) hS (fun _ => yl_NumRat (g := g84) (off := 0) (x := .bool s14) (y := .slice A14 l14 c14) (z := .bool false) (u := .slice none 0 0) rfl rfl (by kernel_rfl) (fun _ h => Blk.four (h.2) 0 rfl rfl rfl rfl)) (fun hS => ?_)
        refine wpT_take 1 rfl (by kernel_rfl) (fun _ _ _ h => h) hS (fun _ => yl_NumRat (g := g84) (off := 0) (x := .bool s14) (y := .slice A14 l14 c14) (z := .bool false) (u := .slice none 0 0) rfl rfl (by kernel_rfl) (fun _ h => Blk.four (h.2) 0 rfl rfl rfl rfl)) (fun hS => ?_)
        refine wpT_take 3 rfl (by kernel_rfl) (fun _ _ _ h => h) hS (fun _ => ym (v := .string s) rfl rfl (by kernel_rfl)) (fun hS => ?_)
        refine wpT_only 2 rfl (by kernel_rfl) rfl (fun K hK => ?_)
        go_simp
        clear hS
        have F89 : Hid (NRatIs w87 (.agg #[.bool s14, .slice A14 l14 c14, .bool false, .slice none 0 0]) (((sg false n1 : Int) : Rat))) := NRatIs.of (by exact F15.out) (by rw [denF_one (by simp)]; exact NumIs.nil _)
        refine (NText_all _ (((sg false n1 : Int) : Rat)) _ F89.out (by show ml (sg false n1).natAbs ≤ _; rw [sg_ml]; exact Hm1.out) (by show ml 1 ≤ _; decide)).mono ?_
        obtain ⟨tx, etx⟩ : ∃ tx, ratText (((sg false n1 : Int) : Rat)) = tx := ⟨_, rfl⟩
        rw [etx]; have Htx := Lib.hid etx; clear etx
        rintro e w88 ⟨rfl, hF⟩
        replace B1 := Lib.hid (B1.out.ext hF)
        replace B7 := Lib.hid (B7.out.ext hF)
        replace B16 := Lib.hid (B16.out.ext hF)
        replace F6 := Lib.hid (F6.out.ext hF)
        replace F13 := Lib.hid (F13.out.ext hF)
        replace F15 := Lib.hid (F15.out.ext hF)
        replace F89 := Lib.hid (F89.out.ext hF)
        replace HE := Lib.hid (HE.out.trans hF)
        clear hF
        have hS := (⟨B7.out, B16.out⟩ : (fun W' => Blk 53 W' g10 #[.bool s5, .slice A5 l5 c5] ∧ Blk 55 W' g84 #[.bool s14, .slice A14 l14 c14, .bool false, .slice none 0 0]) w88)
        refine hK _ _ hS ?_
        clear hK
        refine wpT_take 4 rfl (by kernel_rfl) (fun _ _ _ h => h) hS (fun _ => yeq_str (s := ⟨tx.toArray⟩) (t := s) rfl rfl (by kernel_rfl) (by kernel_rfl)) (fun hS => ?_)
        refine wpT_only 5 rfl (by kernel_rfl) rfl (fun K hK => ?_)
        clear hS
        obtain ⟨c90_0, c90_1, c90_2, c90_3, f90_0, f90_1, f90_2, f90_3⟩ := B1.out.cell4
        obtain ⟨c91_0, c91_1, f91_0, f91_1⟩ := B7.out.cell2
        obtain ⟨c92_0, c92_1, c92_2, c92_3, f92_0, f92_1, f92_2, f92_3⟩ := B16.out.cell4
        go_simp
        clear c90_0 c90_1 c90_2 c90_3 f90_0 f90_1 f90_2 f90_3 c91_0 c91_1 f91_0 f91_1 c92_0 c92_1 c92_2 c92_3 f92_0 f92_1 f92_2 f92_3
        have hFs : Fr (fun i => i = w.heap.size) w88 ((((w88.setCell ⟨w.heap.size, 0, none⟩ (.bool s14)).setCell ⟨w.heap.size, 1, none⟩ (.slice A14 l14 c14)).setCell ⟨w.heap.size, 2, none⟩ (.bool false)).setCell ⟨w.heap.size, 3, none⟩ (.slice none 0 0)) := (((((Fr.refl (fun i => i = w.heap.size) _).setCell (p := ⟨w.heap.size, 0, none⟩) (Or.inl rfl) _).setCell (p := ⟨w.heap.size, 1, none⟩) (Or.inl rfl) _).setCell (p := ⟨w.heap.size, 2, none⟩) (Or.inl rfl) _).setCell (p := ⟨w.heap.size, 3, none⟩) (Or.inl rfl) _)
        replace F6 := Lib.hid (F6.out.oth B1.out noRow4 hFs)
        replace F13 := Lib.hid (F13.out.oth B1.out noRow4 hFs)
        replace F15 := Lib.hid (F15.out.oth B1.out noRow4 hFs)
        replace F89 := Lib.hid (F89.out.oth B1.out noRow4 hFs)
        replace B7 := Lib.hid (B7.out.fr hFs (by first | omega | (have := B7.out.lt; have := B1.out.lt; omega)))
        replace B16 := Lib.hid (B16.out.fr hFs (by first | omega | (have := B16.out.lt; have := B1.out.lt; omega)))
        replace HE := Lib.hid (HE.out.next hFs (fun i hi e => by first | omega | (have := HE.out.size; have := B1.out.lt; omega)))
        have b_new : Blk 55 ((((w88.setCell ⟨w.heap.size, 0, none⟩ (.bool s14)).setCell ⟨w.heap.size, 1, none⟩ (.slice A14 l14 c14)).setCell ⟨w.heap.size, 2, none⟩ (.bool false)).setCell ⟨w.heap.size, 3, none⟩ (.slice none 0 0)) w.heap.size #[.bool s14, .slice A14 l14 c14, .bool false, .slice none 0 0] := ((((B1.out.set_ 0 _).set_ 1 _).set_ 2 _).set_ 3 _)
        generalize ((((w88.setCell ⟨w.heap.size, 0, none⟩ (.bool s14)).setCell ⟨w.heap.size, 1, none⟩ (.slice A14 l14 c14)).setCell ⟨w.heap.size, 2, none⟩ (.bool false)).setCell ⟨w.heap.size, 3, none⟩ (.slice none 0 0)) = w93 at *
        replace B1 := Lib.hid b_new; clear b_new hFs
        have hS := (⟨B7.out, B16.out⟩ : (fun W' => Blk 53 W' g10 #[.bool s5, .slice A5 l5 c5] ∧ Blk 55 W' g84 #[.bool s14, .slice A14 l14 c14, .bool false, .slice none 0 0]) w93)
        refine hK _ _ hS ?_
        clear hK
        refine wpT_tail (l := [_]) 6 rfl (by kernel_rfl) ?_
        clear hS
        obtain ⟨c94_0, c94_1, c94_2, c94_3, f94_0, f94_1, f94_2, f94_3⟩ := B1.out.cell4
        obtain ⟨c95_0, c95_1, f95_0, f95_1⟩ := B7.out.cell2
        obtain ⟨c96_0, c96_1, c96_2, c96_3, f96_0, f96_1, f96_2, f96_3⟩ := B16.out.cell4
        go_wp2
        clear c94_0 c94_1 c94_2 c94_3 f94_0 f94_1 f94_2 f94_3 c95_0 c95_1 f95_0 f95_1 c96_0 c96_1 c96_2 c96_3 f96_0 f96_1 f96_2 f96_3
        exact fin_NRatB (b := (tx == s.toList)) rfl rfl rfl B1.out F89.out (read_end (by have h := nread_whole Hun.out Hb1.out (by have := HP.out; have := Hlt.out; rw [bytes_length]; omega); rw [Hn1.out] at h; exact h) (by rw [str_dec', Htx.out])) HE.out
    | false =>
      replace B1 := Lib.hid (B1.out.ext hF)
      replace HE := Lib.hid (HE.out.trans hF)
      have Hb1 := Lib.hid hb1.symm
      clear hF hI hb1
      obtain ⟨c98_0, c98_1, c98_2, c98_3, f98_0, f98_1, f98_2, f98_3⟩ := B1.out.cell4
      have hl99 := B1.out.lt
      go_wp2
      clear c98_0 c98_1 c98_2 c98_3 f98_0 f98_1 f98_2 f98_3 hl99
      have hFs : Fr (fun i => i = w.heap.size) w4 ((((w4.setCell ⟨w.heap.size, 0, none⟩ (.bool false)).setCell ⟨w.heap.size, 1, none⟩ (.slice none 0 0)).setCell ⟨w.heap.size, 2, none⟩ (.bool false)).setCell ⟨w.heap.size, 3, none⟩ (.slice none 0 0)) := (((((Fr.refl (fun i => i = w.heap.size) _).setCell (p := ⟨w.heap.size, 0, none⟩) (Or.inl rfl) _).setCell (p := ⟨w.heap.size, 1, none⟩) (Or.inl rfl) _).setCell (p := ⟨w.heap.size, 2, none⟩) (Or.inl rfl) _).setCell (p := ⟨w.heap.size, 3, none⟩) (Or.inl rfl) _)
      replace HE := Lib.hid (HE.out.next hFs (fun i hi e => by first | omega | (have := HE.out.size; have := B1.out.lt; omega)))
      have b_new : Blk 55 ((((w4.setCell ⟨w.heap.size, 0, none⟩ (.bool false)).setCell ⟨w.heap.size, 1, none⟩ (.slice none 0 0)).setCell ⟨w.heap.size, 2, none⟩ (.bool false)).setCell ⟨w.heap.size, 3, none⟩ (.slice none 0 0)) w.heap.size #[.bool false, .slice none 0 0, .bool false, .slice none 0 0] := ((((B1.out.set_ 0 _).set_ 1 _).set_ 2 _).set_ 3 _)
      have hsz101 : (((((w4.setCell ⟨w.heap.size, 0, none⟩ (.bool false)).setCell ⟨w.heap.size, 1, none⟩ (.slice none 0 0)).setCell ⟨w.heap.size, 2, none⟩ (.bool false)).setCell ⟨w.heap.size, 3, none⟩ (.slice none 0 0))).heap.size = w4.heap.size := by simp
      generalize ((((w4.setCell ⟨w.heap.size, 0, none⟩ (.bool false)).setCell ⟨w.heap.size, 1, none⟩ (.slice none 0 0)).setCell ⟨w.heap.size, 2, none⟩ (.bool false)).setCell ⟨w.heap.size, 3, none⟩ (.slice none 0 0)) = w100 at *
      replace B1 := Lib.hid b_new; clear b_new hFs
      generalize hwb : World.alloc w100 _ = w102
      obtain ⟨b_B97, hF⟩ := blocks1 hwb
      clear hwb
      have hlt103 := B1.out.lt
      rw [hsz101] at hlt103
      rw [hsz101] at b_B97
      generalize w4.heap.size = g102 at *
      have B97 := Lib.hid b_B97; clear b_B97
      replace B1 := Lib.hid (B1.out.ext hF)
      replace HE := Lib.hid (HE.out.trans hF)
      clear hF
      exact fin_NRatB (b := false) rfl rfl rfl B1.out (NRatIs.nil _) (Or.inr ⟨rfl, by rw [← nread_eq]; exact nread_bad1 Hun.out Hb1.out⟩) HE.out

set_option maxHeartbeats 2000000 in
set_option maxRecDepth 100000 in
theorem NRead_nil (s : ByteArray) (w : World) (hs : s.size ≤ 65536) (h0 : s.size = 0) :
    Calls Tryz.prog 66 #[.string s] w (RetNRead w (bytes s)) := by
  have Hun : Hid (unsign (bytes s) = (false, bytes s)) := by have : bytes s = [] := List.length_eq_zero_iff.1 (by rw [bytes_length]; exact h0); unfold Hid unsign; rw [this]; rfl
  have hts := hs
  have Hsz := Lib.hid hs
  have Hnil : Hid (bytes s = []) := List.length_eq_zero_iff.1 (by rw [bytes_length]; exact h0)
  have hnp : ¬ (0 < s.size) := by omega
  have hnI : ¬ ((0 : Int) < (s.size : Int)) := by omega
  have hnd : decide ((0 : Int) < (s.size : Int)) = false := by rw [decide_eq_false_iff_not]; omega
  have hnd2 : decide (0 < s.size) = false := by rw [decide_eq_false_iff_not]; omega
  clear h0
  go_enter Tryz.func66, Tryz.ntmps66
  go_upto_block 0 with fail
  generalize hwb : World.alloc w _ = w2
  obtain ⟨b_B1, hE0⟩ := blocks1 hwb
  clear hwb
  have B1 := Lib.hid b_B1
  clear b_B1
  have HE := Lib.hid hE0
  clear hE0
  go_cut [6, 7] from 27 to 37 (fun av _ wx => ∃ p : Nat, av = .int .i64 (p : Int) ∧ p ≤ s.size ∧ Hid (p = ((bytes s).takeWhile notSlash).length) ∧ Hid (wx = w2))
  case first =>
    go_wp2_with fail
    go_loop [6, 7] (fun av iv => ∃ i : Nat, i ≤ s.size ∧ av = .int .i64 (s.size : Int) ∧ iv = .int .i64 (i : Int) ∧ Hid (((bytes s).take i).all notSlash = true)) (fun _ iv => s.size - (intOf iv).toNat)
    case atStart => exact ⟨0, Nat.zero_le _, rfl, rfl, by unfold Hid; simp⟩
    case round =>
      obtain ⟨i, hi, rfl, rfl, hR⟩ := hrel
      by_cases hlt : i < s.size
      · by_cases hc : s[i] = 47
        · have HP : Hid (i = ((bytes s).takeWhile notSlash).length) := takeWhile_len hR.out (fun _ => by rw [bytes_at s hlt, hc]; decide) (by rw [bytes_length]; exact hi)
          have hx : s[i].toNat = 47 := by rw [hc]; rfl
          have hx1 : ((s[i].toNat : Int) == 47) = true := by rw [hx]; rfl
          clear hc
          go_wp2
          go_meet
          exact ⟨i, rfl, hi, HP, rfl⟩
        · have hx : ¬ s[i].toNat = 47 := fun e => hc (UInt8.toNat.inj e)
          have hx1 : ((s[i].toNat : Int) == 47) = false := by simp; omega
          have HR2 : Hid (((bytes s).take (i + 1)).all notSlash = true) := by
            unfold Hid
            rw [take_snoc s i hlt, List.all_append, hR.out]
            simp [notSlash, hc]
          clear hc
          go_wp2
          go_round
          case rel => exact ⟨i + 1, by omega, rfl, by go_num, HR2⟩
          case measure => simp [intOf]; omega
      · obtain rfl : i = s.size := by omega
        have HP : Hid (s.size = ((bytes s).takeWhile notSlash).length) := takeWhile_len hR.out (fun h => by rw [bytes_length] at h; omega) (by rw [bytes_length]; exact Nat.le_refl _)
        go_wp2
        go_meet
        exact ⟨s.size, rfl, Nat.le_refl _, HP, rfl⟩
  case rest =>
    obtain ⟨p, rfl, hpt, HP, hw⟩ := hcut
    obtain rfl := hw.out
    clear hw
    have Hcut := Lib.hid (cut_at HP.out)
    obtain ⟨c3_0, c3_1, c3_2, c3_3, f3_0, f3_1, f3_2, f3_3⟩ := B1.out.cell4
    go_wp2_with fail
    clear c3_0 c3_1 c3_2 c3_3 f3_0 f3_1 f3_2 f3_3
    refine (NFromDigits_any _ _ (Nat.le_trans (extract_le _ _ _) Hsz.out)).mono ?_
    rintro e w4 ⟨_, b1, rfl, hb1, hI, hF⟩
    rw [Hcut.out.1] at hb1 hI
    obtain ⟨s5, A5, l5, c5, rfl⟩ := hI.shp
    cases b1 with
    | true =>
      exfalso
      rw [Hnil.out] at hb1
      simp at hb1
    | false =>
      replace B1 := Lib.hid (B1.out.ext hF)
      replace HE := Lib.hid (HE.out.trans hF)
      have Hb1 := Lib.hid hb1.symm
      clear hF hI hb1
      obtain ⟨c7_0, c7_1, c7_2, c7_3, f7_0, f7_1, f7_2, f7_3⟩ := B1.out.cell4
      have hl8 := B1.out.lt
      go_wp2
      clear c7_0 c7_1 c7_2 c7_3 f7_0 f7_1 f7_2 f7_3 hl8
      have hFs : Fr (fun i => i = w.heap.size) w4 ((((w4.setCell ⟨w.heap.size, 0, none⟩ (.bool false)).setCell ⟨w.heap.size, 1, none⟩ (.slice none 0 0)).setCell ⟨w.heap.size, 2, none⟩ (.bool false)).setCell ⟨w.heap.size, 3, none⟩ (.slice none 0 0)) := (((((Fr.refl (fun i => i = w.heap.size) _).setCell (p := ⟨w.heap.size, 0, none⟩) (Or.inl rfl) _).setCell (p := ⟨w.heap.size, 1, none⟩) (Or.inl rfl) _).setCell (p := ⟨w.heap.size, 2, none⟩) (Or.inl rfl) _).setCell (p := ⟨w.heap.size, 3, none⟩) (Or.inl rfl) _)
      replace HE := Lib.hid (HE.out.next hFs (fun i hi e => by first | omega | (have := HE.out.size; have := B1.out.lt; omega)))
      have b_new : Blk 55 ((((w4.setCell ⟨w.heap.size, 0, none⟩ (.bool false)).setCell ⟨w.heap.size, 1, none⟩ (.slice none 0 0)).setCell ⟨w.heap.size, 2, none⟩ (.bool false)).setCell ⟨w.heap.size, 3, none⟩ (.slice none 0 0)) w.heap.size #[.bool false, .slice none 0 0, .bool false, .slice none 0 0] := ((((B1.out.set_ 0 _).set_ 1 _).set_ 2 _).set_ 3 _)
      have hsz10 : (((((w4.setCell ⟨w.heap.size, 0, none⟩ (.bool false)).setCell ⟨w.heap.size, 1, none⟩ (.slice none 0 0)).setCell ⟨w.heap.size, 2, none⟩ (.bool false)).setCell ⟨w.heap.size, 3, none⟩ (.slice none 0 0))).heap.size = w4.heap.size := by simp
      generalize ((((w4.setCell ⟨w.heap.size, 0, none⟩ (.bool false)).setCell ⟨w.heap.size, 1, none⟩ (.slice none 0 0)).setCell ⟨w.heap.size, 2, none⟩ (.bool false)).setCell ⟨w.heap.size, 3, none⟩ (.slice none 0 0)) = w9 at *
      replace B1 := Lib.hid b_new; clear b_new hFs
      generalize hwb : World.alloc w9 _ = w11
      obtain ⟨b_B6, hF⟩ := blocks1 hwb
      clear hwb
      have hlt12 := B1.out.lt
      rw [hsz10] at hlt12
      rw [hsz10] at b_B6
      generalize w4.heap.size = g11 at *
      have B6 := Lib.hid b_B6; clear b_B6
      replace B1 := Lib.hid (B1.out.ext hF)
      replace HE := Lib.hid (HE.out.trans hF)
      clear hF
      exact fin_NRatB (b := false) rfl rfl rfl B1.out (NRatIs.nil _) (Or.inr ⟨rfl, by rw [← nread_eq]; exact nread_bad1 Hun.out Hb1.out⟩) HE.out

theorem NRead_any (s : ByteArray) (w : World) (hs : s.size ≤ 65536) : Calls Tryz.prog 66 #[.string s] w (RetNRead w (bytes s)) := by
  rcases Nat.eq_zero_or_pos s.size with h | h
  · exact NRead_nil s w hs h
  · by_cases h1 : s[0] = 45
    · exact NRead_neg s w hs h h1
    · exact NRead_pos s w hs h h1

end Go.Proofs.YtndafmjcelgnbaaGreatDoor

namespace Go.Proofs.YtndafmjcelgnbaaGreatDoor
open Go.RowKit

theorem read_len {l : List UInt8} {q : Rat} (h : readF l = some q) (hl : l.length ≤ 65536) : ml q.num.natAbs ≤ 65536 ∧ ml q.den ≤ 65536 := by
  have ht := text_of_read h
  have h1 : (Lib.decDigits q.num.natAbs).length ≤ (ratText q).length ∧ (Lib.decDigits q.den).length ≤ (ratText q).length ∨ q.den = 1 ∧ (Lib.decDigits q.num.natAbs).length ≤ (ratText q).length := by
    unfold ratText
    by_cases hd : q.den = 1
    · right
      rw [if_pos hd]
      refine ⟨hd, ?_⟩
      by_cases hn : q.num < 0
      · rw [itoa_neg hn]; simp
      · rw [itoa_nn (by omega)]; exact Nat.le_refl _
    · left
      rw [if_neg hd, itoa_den]
      by_cases hn : q.num < 0
      · rw [itoa_neg hn]; simp; omega
      · rw [itoa_nn (by omega)]; simp; omega
  have hm : ∀ n : Nat, (Lib.decDigits n).length ≤ 65536 → ml n ≤ 65536 := fun n hn => by
    have := decVal_lt _ (dec_all n)
    rw [dec_val] at this
    have := ml_ten this
    omega
  rw [ht] at h1
  rcases h1 with ⟨h1, h2⟩ | ⟨h1, h2⟩
  · exact ⟨hm _ (by omega), hm _ (by omega)⟩
  · exact ⟨hm _ (by omega), by rw [h1]; decide⟩

set_option maxHeartbeats 2000000 in
set_option maxRecDepth 100000 in
theorem refReduce_np (s : ByteArray) (p : Int) (w : World) (hs : s.size ≤ 65536) (hP : ¬ Pr p) :
    Calls Tryz.prog 26 #[.string s, .int .i64 p] w (RetRed w (bytes s) p) := by
  have Hs := Lib.hid hs
  have Hlen : Hid ((bytes s).length ≤ 65536) := by unfold Hid; rw [bytes_length]; exact hs
  have HP := Lib.hid hP
  clear hP
  have HE : Hid (Ext w w) := Fr.refl _ _
  go_enter Tryz.func26, Tryz.ntmps26
  go_wp2_with fail
  refine (NRead_any _ _ Hs.out).mono ?_
  rintro e w1 ⟨_, ok, q, rfl, hF, hI, hR⟩
  obtain ⟨s2, A2, l2, c2, t2, B2, m2, d2, rfl⟩ := hI.shp
  replace HE := Lib.hid (HE.out.trans hF)
  have F3 : Hid (NRatIs w1 (.agg #[.bool s2, .slice A2 l2 c2, .bool t2, .slice B2 m2 d2]) (q)) := hI
  clear hF hI
  rcases hR with ⟨rfl, hR⟩ | ⟨rfl, hR⟩
  · have HR := Lib.hid hR; clear hR
    have Hml := Lib.hid (read_len HR.out Hlen.out)
    go_wp2_with fail
    generalize hwb : World.alloc w1 _ = w5
    obtain ⟨b_B4, hF⟩ := blocks1 hwb
    clear hwb
    generalize w1.heap.size = g5 at *
    have B4 := Lib.hid b_B4; clear b_B4
    replace F3 := Lib.hid (F3.out.ext hF)
    replace HE := Lib.hid (HE.out.trans hF)
    clear hF
    refine (refIsPrime_any _ _).mono ?_
    rw [prB_false.2 HP.out]
    rintro e w' ⟨rfl, rfl⟩
    obtain ⟨c6_0, c6_1, c6_2, c6_3, f6_0, f6_1, f6_2, f6_3⟩ := B4.out.cell4
    go_wp2
    clear c6_0 c6_1 c6_2 c6_3 f6_0 f6_1 f6_2 f6_3
    go_ret2
    exact ⟨0, false, rfl, Or.inr ⟨rfl, rfl, Or.inl HP.out⟩, HE.out⟩
  · have HR := Lib.hid hR; clear hR
    go_wp2_with fail
    generalize hwb : World.alloc w1 _ = w8
    obtain ⟨b_B7, hF⟩ := blocks1 hwb
    clear hwb
    generalize w1.heap.size = g8 at *
    have B7 := Lib.hid b_B7; clear b_B7
    replace F3 := Lib.hid (F3.out.ext hF)
    replace HE := Lib.hid (HE.out.trans hF)
    clear hF
    refine (refIsPrime_any _ _).mono ?_
    rw [prB_false.2 HP.out]
    rintro e w' ⟨rfl, rfl⟩
    obtain ⟨c9_0, c9_1, c9_2, c9_3, f9_0, f9_1, f9_2, f9_3⟩ := B7.out.cell4
    go_wp2
    clear c9_0 c9_1 c9_2 c9_3 f9_0 f9_1 f9_2 f9_3
    go_ret2
    exact ⟨0, false, rfl, Or.inr ⟨rfl, rfl, Or.inl HP.out⟩, HE.out⟩

set_option maxHeartbeats 2000000 in
set_option maxRecDepth 100000 in
theorem refReduce_pr (s : ByteArray) (p : Nat) (w : World) (hs : s.size ≤ 65536) (hP : Pr (p : Int)) :
    Calls Tryz.prog 26 #[.string s, .int .i64 (p : Int)] w (RetRed w (bytes s) (p : Int)) := by
  have Hs := Lib.hid hs
  have Hlen : Hid ((bytes s).length ≤ 65536) := by unfold Hid; rw [bytes_length]; exact hs
  have HP := Lib.hid hP
  have hp2 : 2 ≤ p := by have := hP.1; omega
  have hpm : p ≤ 2147483647 := by have := hP.2.1; omega
  have Hp2 := Lib.hid hp2
  have Hpm := Lib.hid hpm
  clear hP
  have HE : Hid (Ext w w) := Fr.refl _ _
  go_enter Tryz.func26, Tryz.ntmps26
  go_wp2_with fail
  refine (NRead_any _ _ Hs.out).mono ?_
  rintro e w1 ⟨_, ok, q, rfl, hF, hI, hR⟩
  obtain ⟨s2, A2, l2, c2, t2, B2, m2, d2, rfl⟩ := hI.shp
  replace HE := Lib.hid (HE.out.trans hF)
  have F3 : Hid (NRatIs w1 (.agg #[.bool s2, .slice A2 l2 c2, .bool t2, .slice B2 m2 d2]) (q)) := hI
  clear hF hI
  rcases hR with ⟨rfl, hR⟩ | ⟨rfl, hR⟩
  · have HR := Lib.hid hR; clear hR
    have Hml := Lib.hid (read_len HR.out Hlen.out)
    go_wp2_with fail
    generalize hwb : World.alloc w1 _ = w5
    obtain ⟨b_B4, hF⟩ := blocks1 hwb
    clear hwb
    generalize w1.heap.size = g5 at *
    have B4 := Lib.hid b_B4; clear b_B4
    replace F3 := Lib.hid (F3.out.ext hF)
    replace HE := Lib.hid (HE.out.trans hF)
    clear hF
    refine (refIsPrime_any _ _).mono ?_
    rw [prB_true.2 HP.out]
    rintro e w' ⟨rfl, rfl⟩
    obtain ⟨c6_0, c6_1, c6_2, c6_3, f6_0, f6_1, f6_2, f6_3⟩ := B4.out.cell4
    go_wp2_with fail
    clear c6_0 c6_1 c6_2 c6_3 f6_0 f6_1 f6_2 f6_3
    refine (NDen_any _ (q) _ F3.out).mono ?_
    rintro e w7 ⟨_, rfl, hI, hF⟩
    obtain ⟨s8, A8, l8, c8, rfl⟩ := hI.shp
    replace B4 := Lib.hid (B4.out.ext hF)
    replace F3 := Lib.hid (F3.out.ext hF)
    replace HE := Lib.hid (HE.out.trans hF)
    have F9 : Hid (NumIs w7 (.agg #[.bool s8, .slice A8 l8 c8]) (((q).den : Int))) := hI
    clear hF hI
    obtain ⟨c10_0, c10_1, c10_2, c10_3, f10_0, f10_1, f10_2, f10_3⟩ := B4.out.cell4
    go_wp2_with fail
    clear c10_0 c10_1 c10_2 c10_3 f10_0 f10_1 f10_2 f10_3
    refine (refResidue_any _ (((q).den : Int)) p _ F9.out (by have := Hml.out.2; unfold NFits; rw [Int.natAbs_natCast]; omega) Hp2.out Hpm.out).mono ?_
    obtain ⟨r12, er12⟩ : ∃ r, (((q).den : Int)) % (p : Int) = r := ⟨_, rfl⟩
    rw [er12]; have b121 : 0 ≤ r12 := by rw [← er12]; exact Int.emod_nonneg _ (by have := Hp2.out; omega)
    have b122 : r12 < (p : Int) := by rw [← er12]; exact Int.emod_lt_of_pos _ (by have := Hp2.out; omega)
    have Hr12 := Lib.hid er12; clear er12
    rintro e w11 ⟨rfl, hF⟩
    replace B4 := Lib.hid (B4.out.ext hF)
    replace F3 := Lib.hid (F3.out.ext hF)
    replace F9 := Lib.hid (F9.out.ext hF)
    replace HE := Lib.hid (HE.out.trans hF)
    clear hF
    obtain ⟨c13_0, c13_1, c13_2, c13_3, f13_0, f13_1, f13_2, f13_3⟩ := B4.out.cell4
    go_wp2_with fail
    clear c13_0 c13_1 c13_2 c13_3 f13_0 f13_1 f13_2 f13_3
    by_cases hz : r12 = 0
    · refine (refInverse_no _ p _ HP.out (by rw [hz]; rfl)).mono ?_
      rintro e w' ⟨rfl, rfl⟩
      have Hz := Lib.hid hz; clear hz
      obtain ⟨c14_0, c14_1, c14_2, c14_3, f14_0, f14_1, f14_2, f14_3⟩ := B4.out.cell4
      go_wp2
      clear c14_0 c14_1 c14_2 c14_3 f14_0 f14_1 f14_2 f14_3
      go_ret2
      exact ⟨0, false, rfl, Or.inr ⟨rfl, rfl, Or.inr (Or.inr ⟨q, HR.out, by rw [Hr12.out]; exact Hz.out⟩)⟩, HE.out⟩
    · refine (refInverse_ok _ r12.toNat p _ HP.out (by rw [Int.emod_eq_of_lt b121 b122]; omega) (by omega)).mono ?_
      obtain ⟨iv, eiv⟩ : ∃ iv, invN r12.toNat p = iv := ⟨_, rfl⟩
      have hiv : iv < p := by rw [← eiv]; exact Nat.mod_lt _ (by have := Hp2.out; omega)
      rw [eiv]; have Hiv := Lib.hid eiv; clear eiv
      rintro e w' ⟨rfl, rfl⟩
      have Hz := Lib.hid hz; clear hz
      obtain ⟨c15_0, c15_1, c15_2, c15_3, f15_0, f15_1, f15_2, f15_3⟩ := B4.out.cell4
      go_wp2_with fail
      clear c15_0 c15_1 c15_2 c15_3 f15_0 f15_1 f15_2 f15_3
      have F16 : Hid (NumIs w11 (.agg #[.bool s2, .slice A2 l2 c2]) ((q).num)) := F3.out.num
      refine (refResidue_any _ ((q).num) p _ F16.out (by have := Hml.out.1; unfold NFits; omega) Hp2.out Hpm.out).mono ?_
      obtain ⟨r18, er18⟩ : ∃ r, ((q).num) % (p : Int) = r := ⟨_, rfl⟩
      rw [er18]; have b181 : 0 ≤ r18 := by rw [← er18]; exact Int.emod_nonneg _ (by have := Hp2.out; omega)
      have b182 : r18 < (p : Int) := by rw [← er18]; exact Int.emod_lt_of_pos _ (by have := Hp2.out; omega)
      have Hr18 := Lib.hid er18; clear er18
      rintro e w17 ⟨rfl, hF⟩
      replace B4 := Lib.hid (B4.out.ext hF)
      replace F3 := Lib.hid (F3.out.ext hF)
      replace F9 := Lib.hid (F9.out.ext hF)
      replace F16 := Lib.hid (F16.out.ext hF)
      replace HE := Lib.hid (HE.out.trans hF)
      clear hF
      have hm1 : 0 ≤ r18 * (iv : Int) := Int.mul_nonneg b181 (by omega)
      have hm2 : r18 * (iv : Int) ≤ 2147483647 * 2147483647 := Int.mul_le_mul (by omega) (by omega) (by omega) (by omega)
      have hpz : ((p : Int) == 0) = false := by simp; omega
      have hpn : (p : Int) ≠ 0 := by omega
      obtain ⟨m, em⟩ : ∃ m, r18 * (iv : Int) = m := ⟨_, rfl⟩
      rw [em] at hm1 hm2
      have qm : IntKind.i64.wrap (r18 * (iv : Int)) = m := by rw [em]; exact IntWalk.i64_in _ (by omega)
      have HM := Lib.hid em
      have qt : m.tmod (p : Int) = m % (p : Int) := Int.tmod_eq_emod_of_nonneg hm1
      obtain ⟨c19_0, c19_1, c19_2, c19_3, f19_0, f19_1, f19_2, f19_3⟩ := B4.out.cell4
      go_wp2
      clear c19_0 c19_1 c19_2 c19_3 f19_0 f19_1 f19_2 f19_3
      go_ret2
      refine ⟨_, true, rfl, Or.inl ⟨rfl, HP.out, q, HR.out, by rw [Hr12.out]; exact Hz.out, ?_⟩, HE.out⟩
      rw [Hr12.out, Hr18.out, show ((p : Int)).toNat = p by omega, Hiv.out, HM.out]
  · have HR := Lib.hid hR; clear hR
    go_wp2_with fail
    generalize hwb : World.alloc w1 _ = w21
    obtain ⟨b_B20, hF⟩ := blocks1 hwb
    clear hwb
    generalize w1.heap.size = g21 at *
    have B20 := Lib.hid b_B20; clear b_B20
    replace F3 := Lib.hid (F3.out.ext hF)
    replace HE := Lib.hid (HE.out.trans hF)
    clear hF
    refine (refIsPrime_any _ _).mono ?_
    rw [prB_true.2 HP.out]
    rintro e w' ⟨rfl, rfl⟩
    obtain ⟨c22_0, c22_1, c22_2, c22_3, f22_0, f22_1, f22_2, f22_3⟩ := B20.out.cell4
    go_wp2
    clear c22_0 c22_1 c22_2 c22_3 f22_0 f22_1 f22_2 f22_3
    go_ret2
    exact ⟨0, false, rfl, Or.inr ⟨rfl, rfl, Or.inr (Or.inl HR.out)⟩, HE.out⟩

theorem refReduce_any (s : ByteArray) (p : Int) (w : World) (hs : s.size ≤ 65536) : Calls Tryz.prog 26 #[.string s, .int .i64 p] w (RetRed w (bytes s) p) := by
  by_cases hP : Pr p
  · obtain ⟨n, rfl⟩ := Int.eq_ofNat_of_zero_le (show 0 ≤ p by have := hP.1; omega)
    exact refReduce_pr s n w hs hP
  · exact refReduce_np s p w hs hP

end Go.Proofs.YtndafmjcelgnbaaGreatDoor
