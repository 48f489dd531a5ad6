/-
 My texts Nrd, Rc put together.
-/
import Derived.Test.YtndafmjcelgnbaaGreatDoorM18
import Derived.Test.YtndafmjcelgnbaaGreatDoorM21
import Derived.Deep.CutBlock
import Derived.Deep.DeepCutAuto
namespace Go.Proofs.YtndafmjcelgnbaaGreatDoor
open Go.RowKit
def notSlash (c : UInt8) : Bool := c != 47
def nreadF (l : List UInt8) : Option Rat :=
 if (((unsign l).2.takeWhile notSlash).all isDig && !((unsign l).2.takeWhile notSlash).isEmpty) = false then none
 else if (unsign l).2.drop ((unsign l).2.takeWhile notSlash).length = [] then
  (if ratText (((sg (unsign l).1 (decVal ((unsign l).2.takeWhile notSlash)) : Int)) : Rat) = l then some (((sg (unsign l).1 (decVal ((unsign l).2.takeWhile notSlash)) : Int)) : Rat) else none)
 else if (((unsign l).2.drop (((unsign l).2.takeWhile notSlash).length + 1)).all isDig && !((unsign l).2.drop (((unsign l).2.takeWhile notSlash).length + 1)).isEmpty) = false ∨ decVal ((unsign l).2.drop (((unsign l).2.takeWhile notSlash).length + 1)) = 0 then none
 else (if ratText (Rat.divInt (sg (unsign l).1 (decVal ((unsign l).2.takeWhile notSlash))) (decVal ((unsign l).2.drop (((unsign l).2.takeWhile notSlash).length + 1)) : Int)) = l then some (Rat.divInt (sg (unsign l).1 (decVal ((unsign l).2.takeWhile notSlash))) (decVal ((unsign l).2.drop (((unsign l).2.takeWhile notSlash).length + 1)) : Int)) else none)
theorem nread_some {l : List UInt8} {q : Rat} (h : nreadF l = some q) : ratText q = l := by
 unfold nreadF at h
 split at h
 ·cases h
 split at h
 ·split at h
  ·rename_i e; injection h with h; rw [← h]; exact e
  ·cases h
 split at h
 ·cases h
 ·split at h
  ·rename_i e; injection h with h; rw [← h]; exact e
  ·cases h
theorem dig_notSlash {l : List UInt8} (h : l.all isDig = true) : l.all notSlash = true := by
 rw [List.all_eq_true] at *
 intro x hx
 have := h x hx
 unfold notSlash
 simp
 rintro rfl
 exact absurd this (by decide)
theorem nread_text (q : Rat) : nreadF (ratText q) = some q := by
 by_cases h : q.den = 1
 ·have ht : ratText q = Lib.itoa q.num ++ [] := by unfold ratText; rw [if_pos h,List.append_nil]
  have hu := unsign_itoa q.num []
  rw [← ht,List.append_nil] at hu
  obtain ⟨h1,h2⟩ := takeWhile_all (dig_notSlash (dec_all q.num.natAbs))
  unfold nreadF
  rw [hu]
  simp only []
  rw [h1,dec_all,dec_val,sg_abs,whole_self h]
  rw [if_neg (by simp [decDigits_ne]),List.drop_of_length_le (Nat.le_refl _),if_pos rfl,if_pos rfl]
 ·have ht : ratText q = Lib.itoa q.num ++ 47 :: Lib.decDigits q.den := by unfold ratText; rw [if_neg h,itoa_den]; simp
  have hu := unsign_itoa q.num (47 :: Lib.decDigits q.den)
  rw [← ht] at hu
  obtain ⟨h1,h2⟩ := takeWhile_stop (p := notSlash) (r := Lib.decDigits q.den) (c := 47) (dig_notSlash (dec_all q.num.natAbs)) (by decide)
  have hd := q.den_nz
  have hdr : (Lib.decDigits q.num.natAbs ++ 47 :: Lib.decDigits q.den).drop (Lib.decDigits q.num.natAbs).length = 47 :: Lib.decDigits q.den := by simp
  have hdr2 : (Lib.decDigits q.num.natAbs ++ 47 :: Lib.decDigits q.den).drop ((Lib.decDigits q.num.natAbs).length + 1) = Lib.decDigits q.den := by
   rw [← List.drop_drop,hdr]; rfl
  unfold nreadF
  rw [hu]
  simp only []
  rw [h1,hdr,hdr2,dec_all,dec_all,dec_val,dec_val,sg_abs,Rat.num_divInt_den]
  rw [if_neg (by simp [decDigits_ne]),if_neg (by simp),if_neg (by simp [decDigits_ne]; exact hd),if_pos rfl]
theorem nread_eq (l : List UInt8) : nreadF l = readF l := by
 cases h : nreadF l with
 | some q => rw [← nread_some h]; exact (read_text q).symm
 | none =>
   cases k : readF l with
   | none => rfl
   | some q =>
     have := text_of_read k
     rw [← this,nread_text] at h
     cases h
def RetNRead (w : World) (l : List UInt8) (e : Ending) (w' : World) : Prop :=
 ∃ v ok q,e = .returned (.tuple #[v, .bool ok]) ∧ Ext w w' ∧ NRatIs w' v q ∧ ((ok = true ∧ readF l = some q) ∨ (ok = false ∧ readF l = none))
theorem fin_NRatB {fn : Func} {t t' : Tmp} {tmps : Array Value} {w w' : World} {r : Nat} {x y z u : Value} {b : Bool} {l : List UInt8} {q : Rat} (hres : fn.results = #[.cell t 55, .tmp t']) (ht : tmps[t]? = some (.pointer (some ⟨r,0,none⟩))) (ht' : tmps[t']? = some (.bool b))
 (hB : Blk 55 w' r #[x,y,z,u]) (hN : NRatIs w' (.agg #[x,y,z,u]) q) (hI : (b = true ∧ readF l = some q) ∨ (b = false ∧ readF l = none)) (hE : Ext w w') : bodyPost Tryz.prog fn (RetNRead w l) .ret ⟨tmps,[]⟩ w' := by
 obtain ⟨h0,h1,h2,h4,_⟩ := hB.cell4
 exact bodyPost_ret (v := .tuple #[.agg #[x,y,z,u], .bool b]) (by simp [results,hres,ht,ht',go_sem,h0,h1,h2,h4]) rfl ⟨_,_,q,rfl,hE,hN,hI⟩
theorem read_end {q : Rat} {s : ByteArray} {b : Bool} (hn : nreadF (bytes s) = if ratText q = bytes s then some q else none) (hb : b = decide (ratText q = bytes s)) : (b = true ∧ readF (bytes s) = some q) ∨ (b = false ∧ readF (bytes s) = none) := by
 rw [nread_eq] at hn
 by_cases h : ratText q = bytes s
 ·rw [if_pos h] at hn; left; exact ⟨by rw [hb,decide_eq_true h],hn⟩
 ·rw [if_neg h] at hn; right; exact ⟨by rw [hb,decide_eq_false h],hn⟩
theorem extract_le (t : ByteArray) (a b : Nat) : (t.extract a b).size ≤ t.size := by
 rw [← bytes_length,bytes_extract,List.length_take,List.length_drop,bytes_length]; omega
theorem takeWhile_len {l : List UInt8} {k : Nat} (h : (l.take k).all notSlash = true) (hs : ∀ h : k < l.length,notSlash l[k] = false) (hk : k ≤ l.length) : k = (l.takeWhile notSlash).length := by
 rw [(takeWhile_of h hs).1,List.length_take]; omega
theorem cut_at {t : ByteArray} {p : Nat} (hp : p = ((bytes t).takeWhile notSlash).length) : bytes (t.extract 0 p) = (bytes t).takeWhile notSlash ∧ bytes (t.extract (p + 1) t.size) = (bytes t).drop (p + 1) := by
 rw [bytes_extract,bytes_extract]
 refine ⟨?_,?_⟩
 ·rw [List.drop_zero,Nat.sub_zero,hp]
  have := List.takeWhile_prefix notSlash (l := bytes t)
  exact (List.prefix_iff_eq_take.1 this).symm
 ·rw [List.take_of_length_le (by rw [List.length_drop,bytes_length]; exact Nat.le_refl _)]
theorem nread_bad1 {l t : List UInt8} {neg : Bool} (hu : unsign l = (neg,t)) (hb : (((t.takeWhile notSlash)).all isDig && !(t.takeWhile notSlash).isEmpty) = false) : nreadF l = none := by
 unfold nreadF; rw [hu]; simp only []; rw [if_pos hb]
theorem nread_whole {l t : List UInt8} {neg : Bool} (hu : unsign l = (neg,t)) (hb : (((t.takeWhile notSlash)).all isDig && !(t.takeWhile notSlash).isEmpty) = true) (hd : t.length ≤ (t.takeWhile notSlash).length) :
 nreadF l = if ratText ((sg neg (decVal (t.takeWhile notSlash)) : Int) : Rat) = l then some ((sg neg (decVal (t.takeWhile notSlash)) : Int) : Rat) else none := by
 unfold nreadF; rw [hu]; simp only []; rw [if_neg (by rw [hb]; simp),if_pos (List.drop_of_length_le hd)]
theorem nread_bad2 {l t : List UInt8} {neg : Bool} (hu : unsign l = (neg,t)) (hb : (((t.takeWhile notSlash)).all isDig && !(t.takeWhile notSlash).isEmpty) = true) (hd : (t.takeWhile notSlash).length < t.length)
 (h2 : ((t.drop ((t.takeWhile notSlash).length + 1)).all isDig && !(t.drop ((t.takeWhile notSlash).length + 1)).isEmpty) = false ∨ decVal (t.drop ((t.takeWhile notSlash).length + 1)) = 0) : nreadF l = none := by
 unfold nreadF; rw [hu]; simp only []; rw [if_neg (by rw [hb]; simp),if_neg (fun e => by have := congrArg List.length e; simp at this; omega),if_pos h2]
theorem nread_frac {l t : List UInt8} {neg : Bool} (hu : unsign l = (neg,t)) (hb : (((t.takeWhile notSlash)).all isDig && !(t.takeWhile notSlash).isEmpty) = true) (hd : (t.takeWhile notSlash).length < t.length)
 (h2 : ((t.drop ((t.takeWhile notSlash).length + 1)).all isDig && !(t.drop ((t.takeWhile notSlash).length + 1)).isEmpty) = true) (h3 : decVal (t.drop ((t.takeWhile notSlash).length + 1)) ≠ 0) :
 nreadF l = if ratText (Rat.divInt (sg neg (decVal (t.takeWhile notSlash))) (decVal (t.drop ((t.takeWhile notSlash).length + 1)) : Int)) = l then some (Rat.divInt (sg neg (decVal (t.takeWhile notSlash))) (decVal (t.drop ((t.takeWhile notSlash).length + 1)) : Int)) else none := by
 unfold nreadF; rw [hu]; simp only []; rw [if_neg (by rw [hb]; simp),if_neg (fun e => by have := congrArg List.length e; simp at this; omega),if_neg (fun e => e.elim (fun e => by rw [h2] at e; cases e) h3)]
theorem str_dec' {x : List UInt8} {s : ByteArray} : (x == s.toList) = decide (x = bytes s) := by
 rw [Lib.toList_data]
 by_cases h : x = bytes s
 ·rw [decide_eq_true h]; simp [h]
 ·rw [decide_eq_false h]; simpa using h
theorem ml_decVal {t : ByteArray} (h : (bytes t).all isDig = true) (hs : t.size ≤ 65536) : ml (decVal (bytes t)) ≤ 65536 := by
 have := ml_ten (decVal_lt _ h)
 rw [bytes_length] at this
 omega
theorem sg_ml {neg : Bool} {n : Nat} : (sg neg n).natAbs = n := by cases neg <;> simp [sg]
theorem frac_ml {x y : Int} (hy : y ≠ 0) : ml (Rat.divInt x y).num.natAbs ≤ ml x.natAbs ∧ ml (Rat.divInt x y).den ≤ ml y.natAbs := by
 constructor
 ·refine ml_mono ?_
  rw [Rat.num_divInt,Int.natAbs_ediv_of_dvd]
  ·refine Nat.le_trans (Nat.div_le_self _ _) ?_
   rw [Int.natAbs_mul]
   rcases Int.lt_or_gt_of_ne hy with h | h
   ·rw [Int.sign_eq_neg_one_of_neg h]; simp
   ·rw [Int.sign_eq_one_of_pos h]; simp
  ·exact Int.dvd_mul_of_dvd_right (Int.gcd_dvd_right _ _)
 ·refine ml_mono ?_
  rw [Rat.den_divInt,if_neg hy]
  exact Nat.div_le_self _ _
set_option maxHeartbeats 2000000 in
set_option maxRecDepth 100000 in
theorem NRead_neg (s : ByteArray) (w : World) (hs : s.size ≤ 65536) (h0 : 0 < s.size) (h1 : s[0] = 45) :
 Calls Tryz.prog 66 #[.string s] w (RetNRead w (bytes s)) := by
 obtain ⟨t,et⟩ : ∃ t,s.extract 1 s.size = t := ⟨_,rfl⟩
 have Hun : Hid (unsign (bytes s) = (true,bytes t)) := by unfold Hid unsign; rw [head_byte h0,if_pos (by rw [h1]),← et,bytes_extract,List.take_of_length_le (by rw [List.length_drop,bytes_length]; exact Nat.le_refl _),List.drop_one]
 have hts : t.size ≤ 65536 := by rw [← et]; exact Nat.le_trans (extract_le _ _ _) hs
 have Hsz : Hid (t.size ≤ 65536) := hts
 have hx : s[0].toNat = 45 := by rw [h1]; rfl
 have hx1 : ((s[0].toNat : Int) == 45) = true := by rw [hx]; rfl
 clear h1
 go_enter Tryz.func66,Tryz.ntmps66
 go_upto_block 0 with fail
 generalize hwb : World.alloc w _ = w2
 obtain ⟨b_B1,hE0⟩ := blocks1 hwb
 clear hwb
 have B1 := zh b_B1
 clear b_B1
 have HE := zh hE0
 clear hE0
 go_cut [6,7] from 27 to 37 (fun av _ wx => ∃ p : Nat,av = .int .i64 (p : Int) ∧ p ≤ t.size ∧ Hid (p = ((bytes t).takeWhile notSlash).length) ∧ Hid (wx = w2))
 case first =>
  go_wp2_with fail
  go_loop [6,7] (fun av iv => ∃ i : Nat,i ≤ t.size ∧ av = .int .i64 (t.size : Int) ∧ iv = .int .i64 (i : Int) ∧ Hid (((bytes t).take i).all notSlash = true)) (fun _ iv => t.size - (intOf iv).toNat)
  case atStart => exact ⟨0,Nat.zero_le _,rfl,rfl,by unfold Hid; simp⟩
  case round =>
   obtain ⟨i,hi,rfl,rfl,hR⟩ := hrel
   by_cases hlt : i < t.size
   ·by_cases hc : t[i] = 47
    ·have HP : Hid (i = ((bytes t).takeWhile notSlash).length) := takeWhile_len hR.out (fun _ => by rw [bytes_at t hlt,hc]; decide) (by rw [bytes_length]; exact hi)
     have hx : t[i].toNat = 47 := by rw [hc]; rfl
     have hx1 : ((t[i].toNat : Int) == 47) = true := by rw [hx]; rfl
     clear hc
     go_wp2
     go_meet
     exact ⟨i,rfl,hi,HP,rfl⟩
    ·have hx : ¬ t[i].toNat = 47 := fun e => hc (UInt8.toNat.inj e)
     have hx1 : ((t[i].toNat : Int) == 47) = false := by simp; omega
     have HR2 : Hid (((bytes t).take (i + 1)).all notSlash = true) := by
      unfold Hid
      rw [take_snoc t i hlt,List.all_append,hR.out]
      simp [notSlash,hc]
     clear hc
     go_wp2
     go_round
     case rel => exact ⟨i + 1,by omega,rfl,by go_num,HR2⟩
     case measure => simp [intOf]; omega
   ·obtain rfl : i = t.size := by omega
    have HP : Hid (t.size = ((bytes t).takeWhile notSlash).length) := takeWhile_len hR.out (fun h => by rw [bytes_length] at h; omega) (by rw [bytes_length]; exact Nat.le_refl _)
    go_wp2
    go_meet
    exact ⟨t.size,rfl,Nat.le_refl _,HP,rfl⟩
 case rest =>
  obtain ⟨p,rfl,hpt,HP,hw⟩ := hcut
  obtain rfl := hw.out
  clear hw
  have Hcut := zh (cut_at HP.out)
  obtain ⟨c3_0,c3_1,c3_2,c3_3,f3_0,f3_1,f3_2,f3_3⟩ := B1.out.cell4
  go_wp2_with fail
  clear c3_0 c3_1 c3_2 c3_3 f3_0 f3_1 f3_2 f3_3
  refine (NFromDigits_any _ _ (Nat.le_trans (extract_le _ _ _) Hsz.out)).mono ?_
  rintro e w4 ⟨_,b1,rfl,hb1,hI,hF⟩
  rw [Hcut.out.1] at hb1 hI
  obtain ⟨s5,A5,l5,c5,rfl⟩ := hI.shp
  cases b1 with
  | true =>
    replace B1 := zh (B1.out.ext hF)
    replace HE := zh (HE.out.trans hF)
    have Hb1 := zh hb1.symm
    have Hd1 : Hid (((bytes t).takeWhile notSlash).all isDig = true) := by have := Hb1.out; rw [Bool.and_eq_true] at this; exact this.1
    rw [Hd1.out,if_pos rfl] at hI
    obtain ⟨n1,en1⟩ : ∃ n,decVal ((bytes t).takeWhile notSlash) = n := ⟨_,rfl⟩
    rw [en1] at hI; have Hn1 := zh en1; clear en1
    have Hm1 : Hid (ml n1 ≤ 65536) := by have := ml_decVal (t := t.extract 0 p) (by rw [Hcut.out.1]; exact Hd1.out) (Nat.le_trans (extract_le _ _ _) Hsz.out); rw [Hcut.out.1,Hn1.out] at this; exact this
    have F6 : Hid (NumIs w4 (.agg #[.bool s5, .slice A5 l5 c5]) ((n1 : Int))) := hI
    clear hF hI hb1
    obtain ⟨c8_0,c8_1,c8_2,c8_3,f8_0,f8_1,f8_2,f8_3⟩ := B1.out.cell4
    have hl9 := B1.out.lt
    go_wp2_with fail
    clear c8_0 c8_1 c8_2 c8_3 f8_0 f8_1 f8_2 f8_3 hl9
    generalize hwb : World.alloc w4 _ = w10
    obtain ⟨b_B7,hF⟩ := blocks1 hwb
    clear hwb
    have hlt11 := B1.out.lt
    generalize w4.heap.size = g10 at *
    have B7 := zh b_B7; clear b_B7
    replace B1 := zh (B1.out.ext hF)
    replace F6 := zh (F6.out.ext hF)
    replace HE := zh (HE.out.trans hF)
    clear hF
    have F13 : Hid (MagIs w10 (.slice A5 l5 c5) n1) := by have h := F6.out.mag; rw [Int.natAbs_natCast] at h; exact h
    refine (make1_ret true _ _ _ F13.out).mono ?_
    rintro e w12 ⟨_,rfl,hI,hF⟩
    obtain ⟨s14,A14,l14,c14,rfl⟩ := hI.shp
    replace B1 := zh (B1.out.ext hF)
    replace B7 := zh (B7.out.ext hF)
    replace F6 := zh (F6.out.ext hF)
    replace F13 := zh (F13.out.ext hF)
    replace HE := zh (HE.out.trans hF)
    have F15 : Hid (NumIs w12 (.agg #[.bool s14, .slice A14 l14 c14]) (sg true n1)) := hI
    clear hF hI
    by_cases hlt : p < t.size
    ·have hltI : (p : Int) < (t.size : Int) := by omega
     have hltB : decide ((p : Int) < (t.size : Int)) = true := by rw [decide_eq_true_eq]; omega
     have Hlt := zh hlt; clear hlt
     obtain ⟨c17_0,c17_1,c17_2,c17_3,f17_0,f17_1,f17_2,f17_3⟩ := B1.out.cell4
     have hl18 := B1.out.lt
     obtain ⟨c19_0,c19_1,f19_0,f19_1⟩ := B7.out.cell2
     have hl20 := B7.out.lt
     go_wp2_with fail
     clear c17_0 c17_1 c17_2 c17_3 f17_0 f17_1 f17_2 f17_3 hl18 c19_0 c19_1 f19_0 f19_1 hl20
     generalize hwb : World.alloc w12 _ = w21
     obtain ⟨b_B16,hF⟩ := blocks1 hwb
     clear hwb
     have hlt22 := B1.out.lt
     have hlt23 := B7.out.lt
     generalize w12.heap.size = g21 at *
     have B16 := zh b_B16; clear b_B16
     replace B1 := zh (B1.out.ext hF)
     replace B7 := zh (B7.out.ext hF)
     replace F6 := zh (F6.out.ext hF)
     replace F13 := zh (F13.out.ext hF)
     replace F15 := zh (F15.out.ext hF)
     replace HE := zh (HE.out.trans hF)
     clear hF
     refine (NFromDigits_any _ _ (Nat.le_trans (extract_le _ _ _) Hsz.out)).mono ?_
     rintro e w24 ⟨_,b2,rfl,hb2,hI,hF⟩
     rw [Hcut.out.2] at hb2 hI
     obtain ⟨s25,A25,l25,c25,rfl⟩ := hI.shp
     cases b2 with
     | true =>
       replace B1 := zh (B1.out.ext hF)
       replace B7 := zh (B7.out.ext hF)
       replace B16 := zh (B16.out.ext hF)
       replace F6 := zh (F6.out.ext hF)
       replace F13 := zh (F13.out.ext hF)
       replace F15 := zh (F15.out.ext hF)
       replace HE := zh (HE.out.trans hF)
       have Hb2 := zh hb2.symm
       have Hd2 : Hid (((bytes t).drop (p + 1)).all isDig = true) := by have := Hb2.out; rw [Bool.and_eq_true] at this; exact this.1
       rw [Hd2.out,if_pos rfl] at hI
       obtain ⟨n2,en2⟩ : ∃ n,decVal ((bytes t).drop (p + 1)) = n := ⟨_,rfl⟩
       rw [en2] at hI; have Hn2 := zh en2; clear en2
       have Hm2 : Hid (ml n2 ≤ 65536) := by have := ml_decVal (t := t.extract (p + 1) t.size) (by rw [Hcut.out.2]; exact Hd2.out) (Nat.le_trans (extract_le _ _ _) Hsz.out); rw [Hcut.out.2,Hn2.out] at this; exact this
       have F26 : Hid (NumIs w24 (.agg #[.bool s25, .slice A25 l25 c25]) ((n2 : Int))) := hI
       clear hF hI hb2
       obtain ⟨c28_0,c28_1,c28_2,c28_3,f28_0,f28_1,f28_2,f28_3⟩ := B1.out.cell4
       have hl29 := B1.out.lt
       obtain ⟨c30_0,c30_1,f30_0,f30_1⟩ := B7.out.cell2
       have hl31 := B7.out.lt
       obtain ⟨c32_0,c32_1,c32_2,c32_3,f32_0,f32_1,f32_2,f32_3⟩ := B16.out.cell4
       have hl33 := B16.out.lt
       go_wp2_with fail
       clear c28_0 c28_1 c28_2 c28_3 f28_0 f28_1 f28_2 f28_3 hl29 c30_0 c30_1 f30_0 f30_1 hl31 c32_0 c32_1 c32_2 c32_3 f32_0 f32_1 f32_2 f32_3 hl33
       generalize hwb : World.alloc w24 _ = w34
       obtain ⟨b_B27,hF⟩ := blocks1 hwb
       clear hwb
       have hlt35 := B1.out.lt
       have hlt36 := B7.out.lt
       have hlt37 := B16.out.lt
       generalize w24.heap.size = g34 at *
       have B27 := zh b_B27; clear b_B27
       replace B1 := zh (B1.out.ext hF)
       replace B7 := zh (B7.out.ext hF)
       replace B16 := zh (B16.out.ext hF)
       replace F6 := zh (F6.out.ext hF)
       replace F13 := zh (F13.out.ext hF)
       replace F15 := zh (F15.out.ext hF)
       replace F26 := zh (F26.out.ext hF)
       replace HE := zh (HE.out.trans hF)
       clear hF
       refine (NSign_any _ ((n2 : Int)) _ F26.out).mono ?_
       by_cases hz : n2 = 0
       ·rw [hz,show ((0 : Nat) : Int).sign = 0 from rfl]
        have Hz := zh hz; clear hz
        rintro e w38 ⟨rfl,hF⟩
        replace B1 := zh (B1.out.ext hF)
        replace B7 := zh (B7.out.ext hF)
        replace B16 := zh (B16.out.ext hF)
        replace B27 := zh (B27.out.ext hF)
        replace F6 := zh (F6.out.ext hF)
        replace F13 := zh (F13.out.ext hF)
        replace F15 := zh (F15.out.ext hF)
        replace F26 := zh (F26.out.ext hF)
        replace HE := zh (HE.out.trans hF)
        clear hF
        obtain ⟨c39_0,c39_1,c39_2,c39_3,f39_0,f39_1,f39_2,f39_3⟩ := B1.out.cell4
        obtain ⟨c40_0,c40_1,f40_0,f40_1⟩ := B7.out.cell2
        obtain ⟨c41_0,c41_1,c41_2,c41_3,f41_0,f41_1,f41_2,f41_3⟩ := B16.out.cell4
        obtain ⟨c42_0,c42_1,f42_0,f42_1⟩ := B27.out.cell2
        go_wp2
        clear c39_0 c39_1 c39_2 c39_3 f39_0 f39_1 f39_2 f39_3 c40_0 c40_1 f40_0 f40_1 c41_0 c41_1 c41_2 c41_3 f41_0 f41_1 f41_2 f41_3 c42_0 c42_1 f42_0 f42_1
        have hFs : Fr (fun i => i = w.heap.size) w38 ((((w38.setCell ⟨w.heap.size,0,none⟩ (.bool false)).setCell ⟨w.heap.size,1,none⟩ (.slice none 0 0)).setCell ⟨w.heap.size,2,none⟩ (.bool false)).setCell ⟨w.heap.size,3,none⟩ (.slice none 0 0)) := (((((Fr.refl (fun i => i = w.heap.size) _).setCell (p := ⟨w.heap.size,0,none⟩) (Or.inl rfl) _).setCell (p := ⟨w.heap.size,1,none⟩) (Or.inl rfl) _).setCell (p := ⟨w.heap.size,2,none⟩) (Or.inl rfl) _).setCell (p := ⟨w.heap.size,3,none⟩) (Or.inl rfl) _)
        replace F6 := zh (F6.out.oth B1.out noRow4 hFs)
        replace F13 := zh (F13.out.oth B1.out noRow4 hFs)
        replace F15 := zh (F15.out.oth B1.out noRow4 hFs)
        replace F26 := zh (F26.out.oth B1.out noRow4 hFs)
        replace B7 := zh (B7.out.fr hFs (by first | omega | (have := B7.out.lt; have := B1.out.lt; omega)))
        replace B16 := zh (B16.out.fr hFs (by first | omega | (have := B16.out.lt; have := B1.out.lt; omega)))
        replace B27 := zh (B27.out.fr hFs (by first | omega | (have := B27.out.lt; have := B1.out.lt; omega)))
        replace HE := zh (HE.out.next hFs (fun i hi e => by first | omega | (have := HE.out.size; have := B1.out.lt; omega)))
        have b_new : Blk 55 ((((w38.setCell ⟨w.heap.size,0,none⟩ (.bool false)).setCell ⟨w.heap.size,1,none⟩ (.slice none 0 0)).setCell ⟨w.heap.size,2,none⟩ (.bool false)).setCell ⟨w.heap.size,3,none⟩ (.slice none 0 0)) w.heap.size #[.bool false, .slice none 0 0, .bool false, .slice none 0 0] := ((((B1.out.set_ 0 _).set_ 1 _).set_ 2 _).set_ 3 _)
        generalize ((((w38.setCell ⟨w.heap.size,0,none⟩ (.bool false)).setCell ⟨w.heap.size,1,none⟩ (.slice none 0 0)).setCell ⟨w.heap.size,2,none⟩ (.bool false)).setCell ⟨w.heap.size,3,none⟩ (.slice none 0 0)) = w43 at *
        replace B1 := zh b_new; clear b_new hFs
        exact fin_NRatB (b := false) rfl rfl rfl B1.out (NRatIs.nil _) (Or.inr ⟨rfl,by rw [← nread_eq]; exact nread_bad2 Hun.out Hb1.out (by have := HP.out; have := Hlt.out; rw [bytes_length]; omega) (Or.inr (by rw [← HP.out,Hn2.out]; exact Hz.out))⟩) HE.out
       ·rw [Int.sign_eq_one_of_pos (show (0 : Int) < (n2 : Int) by omega)]
        have Hz := zh hz; clear hz
        rintro e w38 ⟨rfl,hF⟩
        replace B1 := zh (B1.out.ext hF)
        replace B7 := zh (B7.out.ext hF)
        replace B16 := zh (B16.out.ext hF)
        replace B27 := zh (B27.out.ext hF)
        replace F6 := zh (F6.out.ext hF)
        replace F13 := zh (F13.out.ext hF)
        replace F15 := zh (F15.out.ext hF)
        replace F26 := zh (F26.out.ext hF)
        replace HE := zh (HE.out.trans hF)
        clear hF
        obtain ⟨c44_0,c44_1,c44_2,c44_3,f44_0,f44_1,f44_2,f44_3⟩ := B1.out.cell4
        obtain ⟨c45_0,c45_1,f45_0,f45_1⟩ := B7.out.cell2
        obtain ⟨c46_0,c46_1,c46_2,c46_3,f46_0,f46_1,f46_2,f46_3⟩ := B16.out.cell4
        obtain ⟨c47_0,c47_1,f47_0,f47_1⟩ := B27.out.cell2
        go_wp2_with fail
        clear c44_0 c44_1 c44_2 c44_3 f44_0 f44_1 f44_2 f44_3 c45_0 c45_1 f45_0 f45_1 c46_0 c46_1 c46_2 c46_3 f46_0 f46_1 f46_2 f46_3 c47_0 c47_1 f47_0 f47_1
        refine (NFrac_any _ _ (sg true n1) ((n2 : Int)) _ F15.out F26.out (by unfold NFits; rw [sg_ml]; have := Hm1.out; omega) (by unfold NFits; rw [Int.natAbs_natCast]; have := Hm2.out; omega) (by have := Hz.out; omega)).mono ?_
        rintro e w48 ⟨_,rfl,hI,hF⟩
        obtain ⟨s49,A49,l49,c49,t49,B49,m49,d49,rfl⟩ := hI.shp
        replace B1 := zh (B1.out.ext hF)
        replace B7 := zh (B7.out.ext hF)
        replace B16 := zh (B16.out.ext hF)
        replace B27 := zh (B27.out.ext hF)
        replace F6 := zh (F6.out.ext hF)
        replace F13 := zh (F13.out.ext hF)
        replace F15 := zh (F15.out.ext hF)
        replace F26 := zh (F26.out.ext hF)
        replace HE := zh (HE.out.trans hF)
        have F50 : Hid (NRatIs w48 (.agg #[.bool s49, .slice A49 l49 c49, .bool t49, .slice B49 m49 d49]) (Rat.divInt (sg true n1) ((n2 : Int)))) := hI
        clear hF hI
        have Hs1 := zh (frac_ml (x := sg true n1) (y := (n2 : Int)) (by have := Hz.out; omega))
        rw [sg_ml,Int.natAbs_natCast] at Hs1
        obtain ⟨c51_0,c51_1,c51_2,c51_3,f51_0,f51_1,f51_2,f51_3⟩ := B1.out.cell4
        obtain ⟨c52_0,c52_1,f52_0,f52_1⟩ := B7.out.cell2
        obtain ⟨c53_0,c53_1,c53_2,c53_3,f53_0,f53_1,f53_2,f53_3⟩ := B16.out.cell4
        obtain ⟨c54_0,c54_1,f54_0,f54_1⟩ := B27.out.cell2
        go_wp2_with fail
        clear c51_0 c51_1 c51_2 c51_3 f51_0 f51_1 f51_2 f51_3 c52_0 c52_1 f52_0 f52_1 c53_0 c53_1 c53_2 c53_3 f53_0 f53_1 f53_2 f53_3 c54_0 c54_1 f54_0 f54_1
        have hFs : Fr (fun i => i = g21) w48 ((((w48.setCell ⟨g21,0,none⟩ (.bool s49)).setCell ⟨g21,1,none⟩ (.slice A49 l49 c49)).setCell ⟨g21,2,none⟩ (.bool t49)).setCell ⟨g21,3,none⟩ (.slice B49 m49 d49)) := (((((Fr.refl (fun i => i = g21) _).setCell (p := ⟨g21,0,none⟩) (Or.inl rfl) _).setCell (p := ⟨g21,1,none⟩) (Or.inl rfl) _).setCell (p := ⟨g21,2,none⟩) (Or.inl rfl) _).setCell (p := ⟨g21,3,none⟩) (Or.inl rfl) _)
        replace F6 := zh (F6.out.oth B16.out noRow4 hFs)
        replace F13 := zh (F13.out.oth B16.out noRow4 hFs)
        replace F15 := zh (F15.out.oth B16.out noRow4 hFs)
        replace F26 := zh (F26.out.oth B16.out noRow4 hFs)
        replace F50 := zh (F50.out.oth B16.out noRow4 hFs)
        replace B1 := zh (B1.out.fr hFs (by first | omega | (have := B1.out.lt; have := B16.out.lt; omega)))
        replace B7 := zh (B7.out.fr hFs (by first | omega | (have := B7.out.lt; have := B16.out.lt; omega)))
        replace B27 := zh (B27.out.fr hFs (by first | omega | (have := B27.out.lt; have := B16.out.lt; omega)))
        replace HE := zh (HE.out.next hFs (fun i hi e => by first | omega | (have := HE.out.size; have := B16.out.lt; omega)))
        have b_new : Blk 55 ((((w48.setCell ⟨g21,0,none⟩ (.bool s49)).setCell ⟨g21,1,none⟩ (.slice A49 l49 c49)).setCell ⟨g21,2,none⟩ (.bool t49)).setCell ⟨g21,3,none⟩ (.slice B49 m49 d49)) g21 #[.bool s49, .slice A49 l49 c49, .bool t49, .slice B49 m49 d49] := ((((B16.out.set_ 0 _).set_ 1 _).set_ 2 _).set_ 3 _)
        generalize ((((w48.setCell ⟨g21,0,none⟩ (.bool s49)).setCell ⟨g21,1,none⟩ (.slice A49 l49 c49)).setCell ⟨g21,2,none⟩ (.bool t49)).setCell ⟨g21,3,none⟩ (.slice B49 m49 d49)) = w55 at *
        replace B16 := zh b_new; clear b_new hFs
        refine wp_region_T 6 (fun W' => Blk 53 W' g10 #[.bool s5, .slice A5 l5 c5] ∧ Blk 55 W' g21 #[.bool s49, .slice A49 l49 c49, .bool t49, .slice B49 m49 d49] ∧ Blk 53 W' g34 #[.bool s25, .slice A25 l25 c25]) follows_mixed' ?_
        replace B1 := zh (B1.out.ext (Fr.refl _ _).drew)
        replace B7 := zh (B7.out.ext (Fr.refl _ _).drew)
        replace B16 := zh (B16.out.ext (Fr.refl _ _).drew)
        replace B27 := zh (B27.out.ext (Fr.refl _ _).drew)
        replace F6 := zh (F6.out.ext (Fr.refl _ _).drew)
        replace F13 := zh (F13.out.ext (Fr.refl _ _).drew)
        replace F15 := zh (F15.out.ext (Fr.refl _ _).drew)
        replace F26 := zh (F26.out.ext (Fr.refl _ _).drew)
        replace F50 := zh (F50.out.ext (Fr.refl _ _).drew)
        replace HE := zh (HE.out.trans (Fr.refl _ _).drew)
        generalize w55.drew = w56 at *
        have hS := (⟨B7.out,B16.out,B27.out⟩ : (fun W' => Blk 53 W' g10 #[.bool s5, .slice A5 l5 c5] ∧ Blk 55 W' g21 #[.bool s49, .slice A49 l49 c49, .bool t49, .slice B49 m49 d49] ∧ Blk 53 W' g34 #[.bool s25, .slice A25 l25 c25]) w56)
        refine wpT_take 0 rfl (by kernel_rfl) (fun _ _ _ h => h) hS (fun _ => yl_NumRat (g := g21) (off := 0) (x := .bool s49) (y := .slice A49 l49 c49) (z := .bool t49) (u := .slice B49 m49 d49) rfl rfl (by kernel_rfl) (fun _ h => Blk.four (h.2.1) 0 rfl rfl rfl rfl)) (fun hS => ?_)
        refine wpT_take 1 rfl (by kernel_rfl) (fun _ _ _ h => h) hS (fun _ => yl_NumRat (g := g21) (off := 0) (x := .bool s49) (y := .slice A49 l49 c49) (z := .bool t49) (u := .slice B49 m49 d49) rfl rfl (by kernel_rfl) (fun _ h => Blk.four (h.2.1) 0 rfl rfl rfl rfl)) (fun hS => ?_)
        refine wpT_take 3 rfl (by kernel_rfl) (fun _ _ _ h => h) hS (fun _ => ym (v := .string s) rfl rfl (by kernel_rfl)) (fun hS => ?_)
        refine wpT_only 2 rfl (by kernel_rfl) rfl (fun K hK => ?_)
        go_simp
        clear hS
        refine (NText_all _ (Rat.divInt (sg true n1) ((n2 : Int))) _ F50.out (by have := Hs1.out.1; have := Hm1.out; omega) (by have := Hs1.out.2; have := Hm2.out; omega)).mono ?_
        obtain ⟨tx,etx⟩ : ∃ tx,ratText (Rat.divInt (sg true n1) ((n2 : Int))) = tx := ⟨_,rfl⟩
        rw [etx]; have Htx := zh etx; clear etx
        rintro e w57 ⟨rfl,hF⟩
        replace B1 := zh (B1.out.ext hF)
        replace B7 := zh (B7.out.ext hF)
        replace B16 := zh (B16.out.ext hF)
        replace B27 := zh (B27.out.ext hF)
        replace F6 := zh (F6.out.ext hF)
        replace F13 := zh (F13.out.ext hF)
        replace F15 := zh (F15.out.ext hF)
        replace F26 := zh (F26.out.ext hF)
        replace F50 := zh (F50.out.ext hF)
        replace HE := zh (HE.out.trans hF)
        clear hF
        have hS := (⟨B7.out,B16.out,B27.out⟩ : (fun W' => Blk 53 W' g10 #[.bool s5, .slice A5 l5 c5] ∧ Blk 55 W' g21 #[.bool s49, .slice A49 l49 c49, .bool t49, .slice B49 m49 d49] ∧ Blk 53 W' g34 #[.bool s25, .slice A25 l25 c25]) w57)
        refine hK _ _ hS ?_
        clear hK
        refine wpT_take 4 rfl (by kernel_rfl) (fun _ _ _ h => h) hS (fun _ => yeq_str (s := ⟨tx.toArray⟩) (t := s) rfl rfl (by kernel_rfl) (by kernel_rfl)) (fun hS => ?_)
        refine wpT_only 5 rfl (by kernel_rfl) rfl (fun K hK => ?_)
        clear hS
        obtain ⟨c58_0,c58_1,c58_2,c58_3,f58_0,f58_1,f58_2,f58_3⟩ := B1.out.cell4
        obtain ⟨c59_0,c59_1,f59_0,f59_1⟩ := B7.out.cell2
        obtain ⟨c60_0,c60_1,c60_2,c60_3,f60_0,f60_1,f60_2,f60_3⟩ := B16.out.cell4
        obtain ⟨c61_0,c61_1,f61_0,f61_1⟩ := B27.out.cell2
        go_simp
        clear c58_0 c58_1 c58_2 c58_3 f58_0 f58_1 f58_2 f58_3 c59_0 c59_1 f59_0 f59_1 c60_0 c60_1 c60_2 c60_3 f60_0 f60_1 f60_2 f60_3 c61_0 c61_1 f61_0 f61_1
        have hFs : Fr (fun i => i = w.heap.size) w57 ((((w57.setCell ⟨w.heap.size,0,none⟩ (.bool s49)).setCell ⟨w.heap.size,1,none⟩ (.slice A49 l49 c49)).setCell ⟨w.heap.size,2,none⟩ (.bool t49)).setCell ⟨w.heap.size,3,none⟩ (.slice B49 m49 d49)) := (((((Fr.refl (fun i => i = w.heap.size) _).setCell (p := ⟨w.heap.size,0,none⟩) (Or.inl rfl) _).setCell (p := ⟨w.heap.size,1,none⟩) (Or.inl rfl) _).setCell (p := ⟨w.heap.size,2,none⟩) (Or.inl rfl) _).setCell (p := ⟨w.heap.size,3,none⟩) (Or.inl rfl) _)
        replace F6 := zh (F6.out.oth B1.out noRow4 hFs)
        replace F13 := zh (F13.out.oth B1.out noRow4 hFs)
        replace F15 := zh (F15.out.oth B1.out noRow4 hFs)
        replace F26 := zh (F26.out.oth B1.out noRow4 hFs)
        replace F50 := zh (F50.out.oth B1.out noRow4 hFs)
        replace B7 := zh (B7.out.fr hFs (by first | omega | (have := B7.out.lt; have := B1.out.lt; omega)))
        replace B16 := zh (B16.out.fr hFs (by first | omega | (have := B16.out.lt; have := B1.out.lt; omega)))
        replace B27 := zh (B27.out.fr hFs (by first | omega | (have := B27.out.lt; have := B1.out.lt; omega)))
        replace HE := zh (HE.out.next hFs (fun i hi e => by first | omega | (have := HE.out.size; have := B1.out.lt; omega)))
        have b_new : Blk 55 ((((w57.setCell ⟨w.heap.size,0,none⟩ (.bool s49)).setCell ⟨w.heap.size,1,none⟩ (.slice A49 l49 c49)).setCell ⟨w.heap.size,2,none⟩ (.bool t49)).setCell ⟨w.heap.size,3,none⟩ (.slice B49 m49 d49)) w.heap.size #[.bool s49, .slice A49 l49 c49, .bool t49, .slice B49 m49 d49] := ((((B1.out.set_ 0 _).set_ 1 _).set_ 2 _).set_ 3 _)
        generalize ((((w57.setCell ⟨w.heap.size,0,none⟩ (.bool s49)).setCell ⟨w.heap.size,1,none⟩ (.slice A49 l49 c49)).setCell ⟨w.heap.size,2,none⟩ (.bool t49)).setCell ⟨w.heap.size,3,none⟩ (.slice B49 m49 d49)) = w62 at *
        replace B1 := zh b_new; clear b_new hFs
        have hS := (⟨B7.out,B16.out,B27.out⟩ : (fun W' => Blk 53 W' g10 #[.bool s5, .slice A5 l5 c5] ∧ Blk 55 W' g21 #[.bool s49, .slice A49 l49 c49, .bool t49, .slice B49 m49 d49] ∧ Blk 53 W' g34 #[.bool s25, .slice A25 l25 c25]) w62)
        refine hK _ _ hS ?_
        clear hK
        refine wpT_tail (l := [_]) 6 rfl (by kernel_rfl) ?_
        clear hS
        obtain ⟨c63_0,c63_1,c63_2,c63_3,f63_0,f63_1,f63_2,f63_3⟩ := B1.out.cell4
        obtain ⟨c64_0,c64_1,f64_0,f64_1⟩ := B7.out.cell2
        obtain ⟨c65_0,c65_1,c65_2,c65_3,f65_0,f65_1,f65_2,f65_3⟩ := B16.out.cell4
        obtain ⟨c66_0,c66_1,f66_0,f66_1⟩ := B27.out.cell2
        go_wp2
        clear c63_0 c63_1 c63_2 c63_3 f63_0 f63_1 f63_2 f63_3 c64_0 c64_1 f64_0 f64_1 c65_0 c65_1 c65_2 c65_3 f65_0 f65_1 f65_2 f65_3 c66_0 c66_1 f66_0 f66_1
        exact fin_NRatB (b := (tx == s.toList)) rfl rfl rfl B1.out F50.out (read_end (by have h := nread_frac Hun.out Hb1.out (by have := HP.out; have := Hlt.out; rw [bytes_length]; omega) (by rw [← HP.out]; exact Hb2.out) (by rw [← HP.out,Hn2.out]; exact Hz.out); rw [← HP.out,Hn1.out,Hn2.out] at h; exact h) (by rw [str_dec',Htx.out])) HE.out
     | false =>
       replace B1 := zh (B1.out.ext hF)
       replace B7 := zh (B7.out.ext hF)
       replace B16 := zh (B16.out.ext hF)
       replace F6 := zh (F6.out.ext hF)
       replace F13 := zh (F13.out.ext hF)
       replace F15 := zh (F15.out.ext hF)
       replace HE := zh (HE.out.trans hF)
       have Hb2 := zh hb2.symm
       clear hF hI hb2
       obtain ⟨c68_0,c68_1,c68_2,c68_3,f68_0,f68_1,f68_2,f68_3⟩ := B1.out.cell4
       have hl69 := B1.out.lt
       obtain ⟨c70_0,c70_1,f70_0,f70_1⟩ := B7.out.cell2
       have hl71 := B7.out.lt
       obtain ⟨c72_0,c72_1,c72_2,c72_3,f72_0,f72_1,f72_2,f72_3⟩ := B16.out.cell4
       have hl73 := B16.out.lt
       go_wp2
       clear c68_0 c68_1 c68_2 c68_3 f68_0 f68_1 f68_2 f68_3 hl69 c70_0 c70_1 f70_0 f70_1 hl71 c72_0 c72_1 c72_2 c72_3 f72_0 f72_1 f72_2 f72_3 hl73
       have hFs : Fr (fun i => i = w.heap.size) w24 ((((w24.setCell ⟨w.heap.size,0,none⟩ (.bool false)).setCell ⟨w.heap.size,1,none⟩ (.slice none 0 0)).setCell ⟨w.heap.size,2,none⟩ (.bool false)).setCell ⟨w.heap.size,3,none⟩ (.slice none 0 0)) := (((((Fr.refl (fun i => i = w.heap.size) _).setCell (p := ⟨w.heap.size,0,none⟩) (Or.inl rfl) _).setCell (p := ⟨w.heap.size,1,none⟩) (Or.inl rfl) _).setCell (p := ⟨w.heap.size,2,none⟩) (Or.inl rfl) _).setCell (p := ⟨w.heap.size,3,none⟩) (Or.inl rfl) _)
       replace F6 := zh (F6.out.oth B1.out noRow4 hFs)
       replace F13 := zh (F13.out.oth B1.out noRow4 hFs)
       replace F15 := zh (F15.out.oth B1.out noRow4 hFs)
       replace B7 := zh (B7.out.fr hFs (by first | omega | (have := B7.out.lt; have := B1.out.lt; omega)))
       replace B16 := zh (B16.out.fr hFs (by first | omega | (have := B16.out.lt; have := B1.out.lt; omega)))
       replace HE := zh (HE.out.next hFs (fun i hi e => by first | omega | (have := HE.out.size; have := B1.out.lt; omega)))
       have b_new : Blk 55 ((((w24.setCell ⟨w.heap.size,0,none⟩ (.bool false)).setCell ⟨w.heap.size,1,none⟩ (.slice none 0 0)).setCell ⟨w.heap.size,2,none⟩ (.bool false)).setCell ⟨w.heap.size,3,none⟩ (.slice none 0 0)) w.heap.size #[.bool false, .slice none 0 0, .bool false, .slice none 0 0] := ((((B1.out.set_ 0 _).set_ 1 _).set_ 2 _).set_ 3 _)
       have hsz75 : (((((w24.setCell ⟨w.heap.size,0,none⟩ (.bool false)).setCell ⟨w.heap.size,1,none⟩ (.slice none 0 0)).setCell ⟨w.heap.size,2,none⟩ (.bool false)).setCell ⟨w.heap.size,3,none⟩ (.slice none 0 0))).heap.size = w24.heap.size := by simp
       generalize ((((w24.setCell ⟨w.heap.size,0,none⟩ (.bool false)).setCell ⟨w.heap.size,1,none⟩ (.slice none 0 0)).setCell ⟨w.heap.size,2,none⟩ (.bool false)).setCell ⟨w.heap.size,3,none⟩ (.slice none 0 0)) = w74 at *
       replace B1 := zh b_new; clear b_new hFs
       generalize hwb : World.alloc w74 _ = w76
       obtain ⟨b_B67,hF⟩ := blocks1 hwb
       clear hwb
       have hlt77 := B1.out.lt
       rw [hsz75] at hlt77
       have hlt78 := B7.out.lt
       rw [hsz75] at hlt78
       have hlt79 := B16.out.lt
       rw [hsz75] at hlt79
       rw [hsz75] at b_B67
       generalize w24.heap.size = g76 at *
       have B67 := zh b_B67; clear b_B67
       replace B1 := zh (B1.out.ext hF)
       replace B7 := zh (B7.out.ext hF)
       replace B16 := zh (B16.out.ext hF)
       replace F6 := zh (F6.out.ext hF)
       replace F13 := zh (F13.out.ext hF)
       replace F15 := zh (F15.out.ext hF)
       replace HE := zh (HE.out.trans hF)
       clear hF
       exact fin_NRatB (b := false) rfl rfl rfl B1.out (NRatIs.nil _) (Or.inr ⟨rfl,by rw [← nread_eq]; exact nread_bad2 Hun.out Hb1.out (by have := HP.out; have := Hlt.out; rw [bytes_length]; omega) (Or.inl (by rw [← HP.out]; exact Hb2.out))⟩) HE.out
    ·have hltI : ¬ ((p : Int) < (t.size : Int)) := by omega
     have hltB : decide ((p : Int) < (t.size : Int)) = false := by rw [decide_eq_false_iff_not]; omega
     have Hlt := zh hlt; clear hlt
     obtain ⟨c80_0,c80_1,c80_2,c80_3,f80_0,f80_1,f80_2,f80_3⟩ := B1.out.cell4
     have hl81 := B1.out.lt
     obtain ⟨c82_0,c82_1,f82_0,f82_1⟩ := B7.out.cell2
     have hl83 := B7.out.lt
     go_wp2_with fail
     clear c80_0 c80_1 c80_2 c80_3 f80_0 f80_1 f80_2 f80_3 hl81 c82_0 c82_1 f82_0 f82_1 hl83
     generalize hwb : World.alloc w12 _ = w84
     obtain ⟨b_B16,hF⟩ := blocks1 hwb
     clear hwb
     have hlt85 := B1.out.lt
     have hlt86 := B7.out.lt
     generalize w12.heap.size = g84 at *
     have B16 := zh b_B16; clear b_B16
     replace B1 := zh (B1.out.ext hF)
     replace B7 := zh (B7.out.ext hF)
     replace F6 := zh (F6.out.ext hF)
     replace F13 := zh (F13.out.ext hF)
     replace F15 := zh (F15.out.ext hF)
     replace HE := zh (HE.out.trans hF)
     clear hF
     refine wp_region_T 6 (fun W' => Blk 53 W' g10 #[.bool s5, .slice A5 l5 c5] ∧ Blk 55 W' g84 #[.bool s14, .slice A14 l14 c14, .bool false, .slice none 0 0]) follows_mixed' ?_
     replace B1 := zh (B1.out.ext (Fr.refl _ _).drew)
     replace B7 := zh (B7.out.ext (Fr.refl _ _).drew)
     replace B16 := zh (B16.out.ext (Fr.refl _ _).drew)
     replace F6 := zh (F6.out.ext (Fr.refl _ _).drew)
     replace F13 := zh (F13.out.ext (Fr.refl _ _).drew)
     replace F15 := zh (F15.out.ext (Fr.refl _ _).drew)
     replace HE := zh (HE.out.trans (Fr.refl _ _).drew)
     generalize w84.drew = w87 at *
     have hS := (⟨B7.out,B16.out⟩ : (fun W' => Blk 53 W' g10 #[.bool s5, .slice A5 l5 c5] ∧ Blk 55 W' g84 #[.bool s14, .slice A14 l14 c14, .bool false, .slice none 0 0]) w87)
     refine wpT_take 0 rfl (by kernel_rfl) (fun _ _ _ h => h) hS (fun _ => yl_NumRat (g := g84) (off := 0) (x := .bool s14) (y := .slice A14 l14 c14) (z := .bool false) (u := .slice none 0 0) rfl rfl (by kernel_rfl) (fun _ h => Blk.four (h.2) 0 rfl rfl rfl rfl)) (fun hS => ?_)
     refine wpT_take 1 rfl (by kernel_rfl) (fun _ _ _ h => h) hS (fun _ => yl_NumRat (g := g84) (off := 0) (x := .bool s14) (y := .slice A14 l14 c14) (z := .bool false) (u := .slice none 0 0) rfl rfl (by kernel_rfl) (fun _ h => Blk.four (h.2) 0 rfl rfl rfl rfl)) (fun hS => ?_)
     refine wpT_take 3 rfl (by kernel_rfl) (fun _ _ _ h => h) hS (fun _ => ym (v := .string s) rfl rfl (by kernel_rfl)) (fun hS => ?_)
     refine wpT_only 2 rfl (by kernel_rfl) rfl (fun K hK => ?_)
     go_simp
     clear hS
     have F89 : Hid (NRatIs w87 (.agg #[.bool s14, .slice A14 l14 c14, .bool false, .slice none 0 0]) (((sg true n1 : Int) : Rat))) := NRatIs.of (by exact F15.out) (by rw [denF_one (by simp)]; exact NumIs.nil _)
     refine (NText_all _ (((sg true n1 : Int) : Rat)) _ F89.out (by show ml (sg true n1).natAbs ≤ _; rw [sg_ml]; exact Hm1.out) (by show ml 1 ≤ _; decide)).mono ?_
     obtain ⟨tx,etx⟩ : ∃ tx,ratText (((sg true n1 : Int) : Rat)) = tx := ⟨_,rfl⟩
     rw [etx]; have Htx := zh etx; clear etx
     rintro e w88 ⟨rfl,hF⟩
     replace B1 := zh (B1.out.ext hF)
     replace B7 := zh (B7.out.ext hF)
     replace B16 := zh (B16.out.ext hF)
     replace F6 := zh (F6.out.ext hF)
     replace F13 := zh (F13.out.ext hF)
     replace F15 := zh (F15.out.ext hF)
     replace F89 := zh (F89.out.ext hF)
     replace HE := zh (HE.out.trans hF)
     clear hF
     have hS := (⟨B7.out,B16.out⟩ : (fun W' => Blk 53 W' g10 #[.bool s5, .slice A5 l5 c5] ∧ Blk 55 W' g84 #[.bool s14, .slice A14 l14 c14, .bool false, .slice none 0 0]) w88)
     refine hK _ _ hS ?_
     clear hK
     refine wpT_take 4 rfl (by kernel_rfl) (fun _ _ _ h => h) hS (fun _ => yeq_str (s := ⟨tx.toArray⟩) (t := s) rfl rfl (by kernel_rfl) (by kernel_rfl)) (fun hS => ?_)
     refine wpT_only 5 rfl (by kernel_rfl) rfl (fun K hK => ?_)
     clear hS
     obtain ⟨c90_0,c90_1,c90_2,c90_3,f90_0,f90_1,f90_2,f90_3⟩ := B1.out.cell4
     obtain ⟨c91_0,c91_1,f91_0,f91_1⟩ := B7.out.cell2
     obtain ⟨c92_0,c92_1,c92_2,c92_3,f92_0,f92_1,f92_2,f92_3⟩ := B16.out.cell4
     go_simp
     clear c90_0 c90_1 c90_2 c90_3 f90_0 f90_1 f90_2 f90_3 c91_0 c91_1 f91_0 f91_1 c92_0 c92_1 c92_2 c92_3 f92_0 f92_1 f92_2 f92_3
     have hFs : Fr (fun i => i = w.heap.size) w88 ((((w88.setCell ⟨w.heap.size,0,none⟩ (.bool s14)).setCell ⟨w.heap.size,1,none⟩ (.slice A14 l14 c14)).setCell ⟨w.heap.size,2,none⟩ (.bool false)).setCell ⟨w.heap.size,3,none⟩ (.slice none 0 0)) := (((((Fr.refl (fun i => i = w.heap.size) _).setCell (p := ⟨w.heap.size,0,none⟩) (Or.inl rfl) _).setCell (p := ⟨w.heap.size,1,none⟩) (Or.inl rfl) _).setCell (p := ⟨w.heap.size,2,none⟩) (Or.inl rfl) _).setCell (p := ⟨w.heap.size,3,none⟩) (Or.inl rfl) _)
     replace F6 := zh (F6.out.oth B1.out noRow4 hFs)
     replace F13 := zh (F13.out.oth B1.out noRow4 hFs)
     replace F15 := zh (F15.out.oth B1.out noRow4 hFs)
     replace F89 := zh (F89.out.oth B1.out noRow4 hFs)
     replace B7 := zh (B7.out.fr hFs (by first | omega | (have := B7.out.lt; have := B1.out.lt; omega)))
     replace B16 := zh (B16.out.fr hFs (by first | omega | (have := B16.out.lt; have := B1.out.lt; omega)))
     replace HE := zh (HE.out.next hFs (fun i hi e => by first | omega | (have := HE.out.size; have := B1.out.lt; omega)))
     have b_new : Blk 55 ((((w88.setCell ⟨w.heap.size,0,none⟩ (.bool s14)).setCell ⟨w.heap.size,1,none⟩ (.slice A14 l14 c14)).setCell ⟨w.heap.size,2,none⟩ (.bool false)).setCell ⟨w.heap.size,3,none⟩ (.slice none 0 0)) w.heap.size #[.bool s14, .slice A14 l14 c14, .bool false, .slice none 0 0] := ((((B1.out.set_ 0 _).set_ 1 _).set_ 2 _).set_ 3 _)
     generalize ((((w88.setCell ⟨w.heap.size,0,none⟩ (.bool s14)).setCell ⟨w.heap.size,1,none⟩ (.slice A14 l14 c14)).setCell ⟨w.heap.size,2,none⟩ (.bool false)).setCell ⟨w.heap.size,3,none⟩ (.slice none 0 0)) = w93 at *
     replace B1 := zh b_new; clear b_new hFs
     have hS := (⟨B7.out,B16.out⟩ : (fun W' => Blk 53 W' g10 #[.bool s5, .slice A5 l5 c5] ∧ Blk 55 W' g84 #[.bool s14, .slice A14 l14 c14, .bool false, .slice none 0 0]) w93)
     refine hK _ _ hS ?_
     clear hK
     refine wpT_tail (l := [_]) 6 rfl (by kernel_rfl) ?_
     clear hS
     obtain ⟨c94_0,c94_1,c94_2,c94_3,f94_0,f94_1,f94_2,f94_3⟩ := B1.out.cell4
     obtain ⟨c95_0,c95_1,f95_0,f95_1⟩ := B7.out.cell2
     obtain ⟨c96_0,c96_1,c96_2,c96_3,f96_0,f96_1,f96_2,f96_3⟩ := B16.out.cell4
     go_wp2
     clear c94_0 c94_1 c94_2 c94_3 f94_0 f94_1 f94_2 f94_3 c95_0 c95_1 f95_0 f95_1 c96_0 c96_1 c96_2 c96_3 f96_0 f96_1 f96_2 f96_3
     exact fin_NRatB (b := (tx == s.toList)) rfl rfl rfl B1.out F89.out (read_end (by have h := nread_whole Hun.out Hb1.out (by have := HP.out; have := Hlt.out; rw [bytes_length]; omega); rw [Hn1.out] at h; exact h) (by rw [str_dec',Htx.out])) HE.out
  | false =>
    replace B1 := zh (B1.out.ext hF)
    replace HE := zh (HE.out.trans hF)
    have Hb1 := zh hb1.symm
    clear hF hI hb1
    obtain ⟨c98_0,c98_1,c98_2,c98_3,f98_0,f98_1,f98_2,f98_3⟩ := B1.out.cell4
    have hl99 := B1.out.lt
    go_wp2
    clear c98_0 c98_1 c98_2 c98_3 f98_0 f98_1 f98_2 f98_3 hl99
    have hFs : Fr (fun i => i = w.heap.size) w4 ((((w4.setCell ⟨w.heap.size,0,none⟩ (.bool false)).setCell ⟨w.heap.size,1,none⟩ (.slice none 0 0)).setCell ⟨w.heap.size,2,none⟩ (.bool false)).setCell ⟨w.heap.size,3,none⟩ (.slice none 0 0)) := (((((Fr.refl (fun i => i = w.heap.size) _).setCell (p := ⟨w.heap.size,0,none⟩) (Or.inl rfl) _).setCell (p := ⟨w.heap.size,1,none⟩) (Or.inl rfl) _).setCell (p := ⟨w.heap.size,2,none⟩) (Or.inl rfl) _).setCell (p := ⟨w.heap.size,3,none⟩) (Or.inl rfl) _)
    replace HE := zh (HE.out.next hFs (fun i hi e => by first | omega | (have := HE.out.size; have := B1.out.lt; omega)))
    have b_new : Blk 55 ((((w4.setCell ⟨w.heap.size,0,none⟩ (.bool false)).setCell ⟨w.heap.size,1,none⟩ (.slice none 0 0)).setCell ⟨w.heap.size,2,none⟩ (.bool false)).setCell ⟨w.heap.size,3,none⟩ (.slice none 0 0)) w.heap.size #[.bool false, .slice none 0 0, .bool false, .slice none 0 0] := ((((B1.out.set_ 0 _).set_ 1 _).set_ 2 _).set_ 3 _)
    have hsz101 : (((((w4.setCell ⟨w.heap.size,0,none⟩ (.bool false)).setCell ⟨w.heap.size,1,none⟩ (.slice none 0 0)).setCell ⟨w.heap.size,2,none⟩ (.bool false)).setCell ⟨w.heap.size,3,none⟩ (.slice none 0 0))).heap.size = w4.heap.size := by simp
    generalize ((((w4.setCell ⟨w.heap.size,0,none⟩ (.bool false)).setCell ⟨w.heap.size,1,none⟩ (.slice none 0 0)).setCell ⟨w.heap.size,2,none⟩ (.bool false)).setCell ⟨w.heap.size,3,none⟩ (.slice none 0 0)) = w100 at *
    replace B1 := zh b_new; clear b_new hFs
    generalize hwb : World.alloc w100 _ = w102
    obtain ⟨b_B97,hF⟩ := blocks1 hwb
    clear hwb
    have hlt103 := B1.out.lt
    rw [hsz101] at hlt103
    rw [hsz101] at b_B97
    generalize w4.heap.size = g102 at *
    have B97 := zh b_B97; clear b_B97
    replace B1 := zh (B1.out.ext hF)
    replace HE := zh (HE.out.trans hF)
    clear hF
    exact fin_NRatB (b := false) rfl rfl rfl B1.out (NRatIs.nil _) (Or.inr ⟨rfl,by rw [← nread_eq]; exact nread_bad1 Hun.out Hb1.out⟩) HE.out
set_option maxHeartbeats 2000000 in
set_option maxRecDepth 100000 in
theorem NRead_pos (s : ByteArray) (w : World) (hs : s.size ≤ 65536) (h0 : 0 < s.size) (h1 : ¬ s[0] = 45) :
 Calls Tryz.prog 66 #[.string s] w (RetNRead w (bytes s)) := by
 have Hun : Hid (unsign (bytes s) = (false,bytes s)) := by unfold Hid unsign; rw [head_byte h0,if_neg (fun e => h1 (Option.some.inj e))]
 have hts := hs
 have Hsz := zh hs
 have hx : ¬ s[0].toNat = 45 := fun e => h1 (UInt8.toNat.inj e)
 have hx1 : ((s[0].toNat : Int) == 45) = false := by simp; omega
 clear h1
 go_enter Tryz.func66,Tryz.ntmps66
 go_upto_block 0 with fail
 generalize hwb : World.alloc w _ = w2
 obtain ⟨b_B1,hE0⟩ := blocks1 hwb
 clear hwb
 have B1 := zh b_B1
 clear b_B1
 have HE := zh hE0
 clear hE0
 go_cut [6,7] from 27 to 37 (fun av _ wx => ∃ p : Nat,av = .int .i64 (p : Int) ∧ p ≤ s.size ∧ Hid (p = ((bytes s).takeWhile notSlash).length) ∧ Hid (wx = w2))
 case first =>
  go_wp2_with fail
  go_loop [6,7] (fun av iv => ∃ i : Nat,i ≤ s.size ∧ av = .int .i64 (s.size : Int) ∧ iv = .int .i64 (i : Int) ∧ Hid (((bytes s).take i).all notSlash = true)) (fun _ iv => s.size - (intOf iv).toNat)
  case atStart => exact ⟨0,Nat.zero_le _,rfl,rfl,by unfold Hid; simp⟩
  case round =>
   obtain ⟨i,hi,rfl,rfl,hR⟩ := hrel
   by_cases hlt : i < s.size
   ·by_cases hc : s[i] = 47
    ·have HP : Hid (i = ((bytes s).takeWhile notSlash).length) := takeWhile_len hR.out (fun _ => by rw [bytes_at s hlt,hc]; decide) (by rw [bytes_length]; exact hi)
     have hx : s[i].toNat = 47 := by rw [hc]; rfl
     have hx1 : ((s[i].toNat : Int) == 47) = true := by rw [hx]; rfl
     clear hc
     go_wp2
     go_meet
     exact ⟨i,rfl,hi,HP,rfl⟩
    ·have hx : ¬ s[i].toNat = 47 := fun e => hc (UInt8.toNat.inj e)
     have hx1 : ((s[i].toNat : Int) == 47) = false := by simp; omega
     have HR2 : Hid (((bytes s).take (i + 1)).all notSlash = true) := by
      unfold Hid
      rw [take_snoc s i hlt,List.all_append,hR.out]
      simp [notSlash,hc]
     clear hc
     go_wp2
     go_round
     case rel => exact ⟨i + 1,by omega,rfl,by go_num,HR2⟩
     case measure => simp [intOf]; omega
   ·obtain rfl : i = s.size := by omega
    have HP : Hid (s.size = ((bytes s).takeWhile notSlash).length) := takeWhile_len hR.out (fun h => by rw [bytes_length] at h; omega) (by rw [bytes_length]; exact Nat.le_refl _)
    go_wp2
    go_meet
    exact ⟨s.size,rfl,Nat.le_refl _,HP,rfl⟩
 case rest =>
  obtain ⟨p,rfl,hpt,HP,hw⟩ := hcut
  obtain rfl := hw.out
  clear hw
  have Hcut := zh (cut_at HP.out)
  obtain ⟨c3_0,c3_1,c3_2,c3_3,f3_0,f3_1,f3_2,f3_3⟩ := B1.out.cell4
  go_wp2_with fail
  clear c3_0 c3_1 c3_2 c3_3 f3_0 f3_1 f3_2 f3_3
  refine (NFromDigits_any _ _ (Nat.le_trans (extract_le _ _ _) Hsz.out)).mono ?_
  rintro e w4 ⟨_,b1,rfl,hb1,hI,hF⟩
  rw [Hcut.out.1] at hb1 hI
  obtain ⟨s5,A5,l5,c5,rfl⟩ := hI.shp
  cases b1 with
  | true =>
    replace B1 := zh (B1.out.ext hF)
    replace HE := zh (HE.out.trans hF)
    have Hb1 := zh hb1.symm
    have Hd1 : Hid (((bytes s).takeWhile notSlash).all isDig = true) := by have := Hb1.out; rw [Bool.and_eq_true] at this; exact this.1
    rw [Hd1.out,if_pos rfl] at hI
    obtain ⟨n1,en1⟩ : ∃ n,decVal ((bytes s).takeWhile notSlash) = n := ⟨_,rfl⟩
    rw [en1] at hI; have Hn1 := zh en1; clear en1
    have Hm1 : Hid (ml n1 ≤ 65536) := by have := ml_decVal (t := s.extract 0 p) (by rw [Hcut.out.1]; exact Hd1.out) (Nat.le_trans (extract_le _ _ _) Hsz.out); rw [Hcut.out.1,Hn1.out] at this; exact this
    have F6 : Hid (NumIs w4 (.agg #[.bool s5, .slice A5 l5 c5]) ((n1 : Int))) := hI
    clear hF hI hb1
    obtain ⟨c8_0,c8_1,c8_2,c8_3,f8_0,f8_1,f8_2,f8_3⟩ := B1.out.cell4
    have hl9 := B1.out.lt
    go_wp2_with fail
    clear c8_0 c8_1 c8_2 c8_3 f8_0 f8_1 f8_2 f8_3 hl9
    generalize hwb : World.alloc w4 _ = w10
    obtain ⟨b_B7,hF⟩ := blocks1 hwb
    clear hwb
    have hlt11 := B1.out.lt
    generalize w4.heap.size = g10 at *
    have B7 := zh b_B7; clear b_B7
    replace B1 := zh (B1.out.ext hF)
    replace F6 := zh (F6.out.ext hF)
    replace HE := zh (HE.out.trans hF)
    clear hF
    have F13 : Hid (MagIs w10 (.slice A5 l5 c5) n1) := by have h := F6.out.mag; rw [Int.natAbs_natCast] at h; exact h
    refine (make1_ret false _ _ _ F13.out).mono ?_
    rintro e w12 ⟨_,rfl,hI,hF⟩
    obtain ⟨s14,A14,l14,c14,rfl⟩ := hI.shp
    replace B1 := zh (B1.out.ext hF)
    replace B7 := zh (B7.out.ext hF)
    replace F6 := zh (F6.out.ext hF)
    replace F13 := zh (F13.out.ext hF)
    replace HE := zh (HE.out.trans hF)
    have F15 : Hid (NumIs w12 (.agg #[.bool s14, .slice A14 l14 c14]) (sg false n1)) := hI
    clear hF hI
    by_cases hlt : p < s.size
    ·have hltI : (p : Int) < (s.size : Int) := by omega
     have hltB : decide ((p : Int) < (s.size : Int)) = true := by rw [decide_eq_true_eq]; omega
     have Hlt := zh hlt; clear hlt
     obtain ⟨c17_0,c17_1,c17_2,c17_3,f17_0,f17_1,f17_2,f17_3⟩ := B1.out.cell4
     have hl18 := B1.out.lt
     obtain ⟨c19_0,c19_1,f19_0,f19_1⟩ := B7.out.cell2
     have hl20 := B7.out.lt
     go_wp2_with fail
     clear c17_0 c17_1 c17_2 c17_3 f17_0 f17_1 f17_2 f17_3 hl18 c19_0 c19_1 f19_0 f19_1 hl20
     generalize hwb : World.alloc w12 _ = w21
     obtain ⟨b_B16,hF⟩ := blocks1 hwb
     clear hwb
     have hlt22 := B1.out.lt
     have hlt23 := B7.out.lt
     generalize w12.heap.size = g21 at *
     have B16 := zh b_B16; clear b_B16
     replace B1 := zh (B1.out.ext hF)
     replace B7 := zh (B7.out.ext hF)
     replace F6 := zh (F6.out.ext hF)
     replace F13 := zh (F13.out.ext hF)
     replace F15 := zh (F15.out.ext hF)
     replace HE := zh (HE.out.trans hF)
     clear hF
     refine (NFromDigits_any _ _ (Nat.le_trans (extract_le _ _ _) Hsz.out)).mono ?_
     rintro e w24 ⟨_,b2,rfl,hb2,hI,hF⟩
     rw [Hcut.out.2] at hb2 hI
     obtain ⟨s25,A25,l25,c25,rfl⟩ := hI.shp
     cases b2 with
     | true =>
       replace B1 := zh (B1.out.ext hF)
       replace B7 := zh (B7.out.ext hF)
       replace B16 := zh (B16.out.ext hF)
       replace F6 := zh (F6.out.ext hF)
       replace F13 := zh (F13.out.ext hF)
       replace F15 := zh (F15.out.ext hF)
       replace HE := zh (HE.out.trans hF)
       have Hb2 := zh hb2.symm
       have Hd2 : Hid (((bytes s).drop (p + 1)).all isDig = true) := by have := Hb2.out; rw [Bool.and_eq_true] at this; exact this.1
       rw [Hd2.out,if_pos rfl] at hI
       obtain ⟨n2,en2⟩ : ∃ n,decVal ((bytes s).drop (p + 1)) = n := ⟨_,rfl⟩
       rw [en2] at hI; have Hn2 := zh en2; clear en2
       have Hm2 : Hid (ml n2 ≤ 65536) := by have := ml_decVal (t := s.extract (p + 1) s.size) (by rw [Hcut.out.2]; exact Hd2.out) (Nat.le_trans (extract_le _ _ _) Hsz.out); rw [Hcut.out.2,Hn2.out] at this; exact this
       have F26 : Hid (NumIs w24 (.agg #[.bool s25, .slice A25 l25 c25]) ((n2 : Int))) := hI
       clear hF hI hb2
       obtain ⟨c28_0,c28_1,c28_2,c28_3,f28_0,f28_1,f28_2,f28_3⟩ := B1.out.cell4
       have hl29 := B1.out.lt
       obtain ⟨c30_0,c30_1,f30_0,f30_1⟩ := B7.out.cell2
       have hl31 := B7.out.lt
       obtain ⟨c32_0,c32_1,c32_2,c32_3,f32_0,f32_1,f32_2,f32_3⟩ := B16.out.cell4
       have hl33 := B16.out.lt
       go_wp2_with fail
       clear c28_0 c28_1 c28_2 c28_3 f28_0 f28_1 f28_2 f28_3 hl29 c30_0 c30_1 f30_0 f30_1 hl31 c32_0 c32_1 c32_2 c32_3 f32_0 f32_1 f32_2 f32_3 hl33
       generalize hwb : World.alloc w24 _ = w34
       obtain ⟨b_B27,hF⟩ := blocks1 hwb
       clear hwb
       have hlt35 := B1.out.lt
       have hlt36 := B7.out.lt
       have hlt37 := B16.out.lt
       generalize w24.heap.size = g34 at *
       have B27 := zh b_B27; clear b_B27
       replace B1 := zh (B1.out.ext hF)
       replace B7 := zh (B7.out.ext hF)
       replace B16 := zh (B16.out.ext hF)
       replace F6 := zh (F6.out.ext hF)
       replace F13 := zh (F13.out.ext hF)
       replace F15 := zh (F15.out.ext hF)
       replace F26 := zh (F26.out.ext hF)
       replace HE := zh (HE.out.trans hF)
       clear hF
       refine (NSign_any _ ((n2 : Int)) _ F26.out).mono ?_
       by_cases hz : n2 = 0
       ·rw [hz,show ((0 : Nat) : Int).sign = 0 from rfl]
        have Hz := zh hz; clear hz
        rintro e w38 ⟨rfl,hF⟩
        replace B1 := zh (B1.out.ext hF)
        replace B7 := zh (B7.out.ext hF)
        replace B16 := zh (B16.out.ext hF)
        replace B27 := zh (B27.out.ext hF)
        replace F6 := zh (F6.out.ext hF)
        replace F13 := zh (F13.out.ext hF)
        replace F15 := zh (F15.out.ext hF)
        replace F26 := zh (F26.out.ext hF)
        replace HE := zh (HE.out.trans hF)
        clear hF
        obtain ⟨c39_0,c39_1,c39_2,c39_3,f39_0,f39_1,f39_2,f39_3⟩ := B1.out.cell4
        obtain ⟨c40_0,c40_1,f40_0,f40_1⟩ := B7.out.cell2
        obtain ⟨c41_0,c41_1,c41_2,c41_3,f41_0,f41_1,f41_2,f41_3⟩ := B16.out.cell4
        obtain ⟨c42_0,c42_1,f42_0,f42_1⟩ := B27.out.cell2
        go_wp2
        clear c39_0 c39_1 c39_2 c39_3 f39_0 f39_1 f39_2 f39_3 c40_0 c40_1 f40_0 f40_1 c41_0 c41_1 c41_2 c41_3 f41_0 f41_1 f41_2 f41_3 c42_0 c42_1 f42_0 f42_1
        have hFs : Fr (fun i => i = w.heap.size) w38 ((((w38.setCell ⟨w.heap.size,0,none⟩ (.bool false)).setCell ⟨w.heap.size,1,none⟩ (.slice none 0 0)).setCell ⟨w.heap.size,2,none⟩ (.bool false)).setCell ⟨w.heap.size,3,none⟩ (.slice none 0 0)) := (((((Fr.refl (fun i => i = w.heap.size) _).setCell (p := ⟨w.heap.size,0,none⟩) (Or.inl rfl) _).setCell (p := ⟨w.heap.size,1,none⟩) (Or.inl rfl) _).setCell (p := ⟨w.heap.size,2,none⟩) (Or.inl rfl) _).setCell (p := ⟨w.heap.size,3,none⟩) (Or.inl rfl) _)
        replace F6 := zh (F6.out.oth B1.out noRow4 hFs)
        replace F13 := zh (F13.out.oth B1.out noRow4 hFs)
        replace F15 := zh (F15.out.oth B1.out noRow4 hFs)
        replace F26 := zh (F26.out.oth B1.out noRow4 hFs)
        replace B7 := zh (B7.out.fr hFs (by first | omega | (have := B7.out.lt; have := B1.out.lt; omega)))
        replace B16 := zh (B16.out.fr hFs (by first | omega | (have := B16.out.lt; have := B1.out.lt; omega)))
        replace B27 := zh (B27.out.fr hFs (by first | omega | (have := B27.out.lt; have := B1.out.lt; omega)))
        replace HE := zh (HE.out.next hFs (fun i hi e => by first | omega | (have := HE.out.size; have := B1.out.lt; omega)))
        have b_new : Blk 55 ((((w38.setCell ⟨w.heap.size,0,none⟩ (.bool false)).setCell ⟨w.heap.size,1,none⟩ (.slice none 0 0)).setCell ⟨w.heap.size,2,none⟩ (.bool false)).setCell ⟨w.heap.size,3,none⟩ (.slice none 0 0)) w.heap.size #[.bool false, .slice none 0 0, .bool false, .slice none 0 0] := ((((B1.out.set_ 0 _).set_ 1 _).set_ 2 _).set_ 3 _)
        generalize ((((w38.setCell ⟨w.heap.size,0,none⟩ (.bool false)).setCell ⟨w.heap.size,1,none⟩ (.slice none 0 0)).setCell ⟨w.heap.size,2,none⟩ (.bool false)).setCell ⟨w.heap.size,3,none⟩ (.slice none 0 0)) = w43 at *
        replace B1 := zh b_new; clear b_new hFs
        exact fin_NRatB (b := false) rfl rfl rfl B1.out (NRatIs.nil _) (Or.inr ⟨rfl,by rw [← nread_eq]; exact nread_bad2 Hun.out Hb1.out (by have := HP.out; have := Hlt.out; rw [bytes_length]; omega) (Or.inr (by rw [← HP.out,Hn2.out]; exact Hz.out))⟩) HE.out
       ·rw [Int.sign_eq_one_of_pos (show (0 : Int) < (n2 : Int) by omega)]
        have Hz := zh hz; clear hz
        rintro e w38 ⟨rfl,hF⟩
        replace B1 := zh (B1.out.ext hF)
        replace B7 := zh (B7.out.ext hF)
        replace B16 := zh (B16.out.ext hF)
        replace B27 := zh (B27.out.ext hF)
        replace F6 := zh (F6.out.ext hF)
        replace F13 := zh (F13.out.ext hF)
        replace F15 := zh (F15.out.ext hF)
        replace F26 := zh (F26.out.ext hF)
        replace HE := zh (HE.out.trans hF)
        clear hF
        obtain ⟨c44_0,c44_1,c44_2,c44_3,f44_0,f44_1,f44_2,f44_3⟩ := B1.out.cell4
        obtain ⟨c45_0,c45_1,f45_0,f45_1⟩ := B7.out.cell2
        obtain ⟨c46_0,c46_1,c46_2,c46_3,f46_0,f46_1,f46_2,f46_3⟩ := B16.out.cell4
        obtain ⟨c47_0,c47_1,f47_0,f47_1⟩ := B27.out.cell2
        go_wp2_with fail
        clear c44_0 c44_1 c44_2 c44_3 f44_0 f44_1 f44_2 f44_3 c45_0 c45_1 f45_0 f45_1 c46_0 c46_1 c46_2 c46_3 f46_0 f46_1 f46_2 f46_3 c47_0 c47_1 f47_0 f47_1
        refine (NFrac_any _ _ (sg false n1) ((n2 : Int)) _ F15.out F26.out (by unfold NFits; rw [sg_ml]; have := Hm1.out; omega) (by unfold NFits; rw [Int.natAbs_natCast]; have := Hm2.out; omega) (by have := Hz.out; omega)).mono ?_
        rintro e w48 ⟨_,rfl,hI,hF⟩
        obtain ⟨s49,A49,l49,c49,t49,B49,m49,d49,rfl⟩ := hI.shp
        replace B1 := zh (B1.out.ext hF)
        replace B7 := zh (B7.out.ext hF)
        replace B16 := zh (B16.out.ext hF)
        replace B27 := zh (B27.out.ext hF)
        replace F6 := zh (F6.out.ext hF)
        replace F13 := zh (F13.out.ext hF)
        replace F15 := zh (F15.out.ext hF)
        replace F26 := zh (F26.out.ext hF)
        replace HE := zh (HE.out.trans hF)
        have F50 : Hid (NRatIs w48 (.agg #[.bool s49, .slice A49 l49 c49, .bool t49, .slice B49 m49 d49]) (Rat.divInt (sg false n1) ((n2 : Int)))) := hI
        clear hF hI
        have Hs1 := zh (frac_ml (x := sg false n1) (y := (n2 : Int)) (by have := Hz.out; omega))
        rw [sg_ml,Int.natAbs_natCast] at Hs1
        obtain ⟨c51_0,c51_1,c51_2,c51_3,f51_0,f51_1,f51_2,f51_3⟩ := B1.out.cell4
        obtain ⟨c52_0,c52_1,f52_0,f52_1⟩ := B7.out.cell2
        obtain ⟨c53_0,c53_1,c53_2,c53_3,f53_0,f53_1,f53_2,f53_3⟩ := B16.out.cell4
        obtain ⟨c54_0,c54_1,f54_0,f54_1⟩ := B27.out.cell2
        go_wp2_with fail
        clear c51_0 c51_1 c51_2 c51_3 f51_0 f51_1 f51_2 f51_3 c52_0 c52_1 f52_0 f52_1 c53_0 c53_1 c53_2 c53_3 f53_0 f53_1 f53_2 f53_3 c54_0 c54_1 f54_0 f54_1
        have hFs : Fr (fun i => i = g21) w48 ((((w48.setCell ⟨g21,0,none⟩ (.bool s49)).setCell ⟨g21,1,none⟩ (.slice A49 l49 c49)).setCell ⟨g21,2,none⟩ (.bool t49)).setCell ⟨g21,3,none⟩ (.slice B49 m49 d49)) := (((((Fr.refl (fun i => i = g21) _).setCell (p := ⟨g21,0,none⟩) (Or.inl rfl) _).setCell (p := ⟨g21,1,none⟩) (Or.inl rfl) _).setCell (p := ⟨g21,2,none⟩) (Or.inl rfl) _).setCell (p := ⟨g21,3,none⟩) (Or.inl rfl) _)
        replace F6 := zh (F6.out.oth B16.out noRow4 hFs)
        replace F13 := zh (F13.out.oth B16.out noRow4 hFs)
        replace F15 := zh (F15.out.oth B16.out noRow4 hFs)
        replace F26 := zh (F26.out.oth B16.out noRow4 hFs)
        replace F50 := zh (F50.out.oth B16.out noRow4 hFs)
        replace B1 := zh (B1.out.fr hFs (by first | omega | (have := B1.out.lt; have := B16.out.lt; omega)))
        replace B7 := zh (B7.out.fr hFs (by first | omega | (have := B7.out.lt; have := B16.out.lt; omega)))
        replace B27 := zh (B27.out.fr hFs (by first | omega | (have := B27.out.lt; have := B16.out.lt; omega)))
        replace HE := zh (HE.out.next hFs (fun i hi e => by first | omega | (have := HE.out.size; have := B16.out.lt; omega)))
        have b_new : Blk 55 ((((w48.setCell ⟨g21,0,none⟩ (.bool s49)).setCell ⟨g21,1,none⟩ (.slice A49 l49 c49)).setCell ⟨g21,2,none⟩ (.bool t49)).setCell ⟨g21,3,none⟩ (.slice B49 m49 d49)) g21 #[.bool s49, .slice A49 l49 c49, .bool t49, .slice B49 m49 d49] := ((((B16.out.set_ 0 _).set_ 1 _).set_ 2 _).set_ 3 _)
        generalize ((((w48.setCell ⟨g21,0,none⟩ (.bool s49)).setCell ⟨g21,1,none⟩ (.slice A49 l49 c49)).setCell ⟨g21,2,none⟩ (.bool t49)).setCell ⟨g21,3,none⟩ (.slice B49 m49 d49)) = w55 at *
        replace B16 := zh b_new; clear b_new hFs
        refine wp_region_T 6 (fun W' => Blk 53 W' g10 #[.bool s5, .slice A5 l5 c5] ∧ Blk 55 W' g21 #[.bool s49, .slice A49 l49 c49, .bool t49, .slice B49 m49 d49] ∧ Blk 53 W' g34 #[.bool s25, .slice A25 l25 c25]) follows_mixed' ?_
        replace B1 := zh (B1.out.ext (Fr.refl _ _).drew)
        replace B7 := zh (B7.out.ext (Fr.refl _ _).drew)
        replace B16 := zh (B16.out.ext (Fr.refl _ _).drew)
        replace B27 := zh (B27.out.ext (Fr.refl _ _).drew)
        replace F6 := zh (F6.out.ext (Fr.refl _ _).drew)
        replace F13 := zh (F13.out.ext (Fr.refl _ _).drew)
        replace F15 := zh (F15.out.ext (Fr.refl _ _).drew)
        replace F26 := zh (F26.out.ext (Fr.refl _ _).drew)
        replace F50 := zh (F50.out.ext (Fr.refl _ _).drew)
        replace HE := zh (HE.out.trans (Fr.refl _ _).drew)
        generalize w55.drew = w56 at *
        have hS := (⟨B7.out,B16.out,B27.out⟩ : (fun W' => Blk 53 W' g10 #[.bool s5, .slice A5 l5 c5] ∧ Blk 55 W' g21 #[.bool s49, .slice A49 l49 c49, .bool t49, .slice B49 m49 d49] ∧ Blk 53 W' g34 #[.bool s25, .slice A25 l25 c25]) w56)
        refine wpT_take 0 rfl (by kernel_rfl) (fun _ _ _ h => h) hS (fun _ => yl_NumRat (g := g21) (off := 0) (x := .bool s49) (y := .slice A49 l49 c49) (z := .bool t49) (u := .slice B49 m49 d49) rfl rfl (by kernel_rfl) (fun _ h => Blk.four (h.2.1) 0 rfl rfl rfl rfl)) (fun hS => ?_)
        refine wpT_take 1 rfl (by kernel_rfl) (fun _ _ _ h => h) hS (fun _ => yl_NumRat (g := g21) (off := 0) (x := .bool s49) (y := .slice A49 l49 c49) (z := .bool t49) (u := .slice B49 m49 d49) rfl rfl (by kernel_rfl) (fun _ h => Blk.four (h.2.1) 0 rfl rfl rfl rfl)) (fun hS => ?_)
        refine wpT_take 3 rfl (by kernel_rfl) (fun _ _ _ h => h) hS (fun _ => ym (v := .string s) rfl rfl (by kernel_rfl)) (fun hS => ?_)
        refine wpT_only 2 rfl (by kernel_rfl) rfl (fun K hK => ?_)
        go_simp
        clear hS
        refine (NText_all _ (Rat.divInt (sg false n1) ((n2 : Int))) _ F50.out (by have := Hs1.out.1; have := Hm1.out; omega) (by have := Hs1.out.2; have := Hm2.out; omega)).mono ?_
        obtain ⟨tx,etx⟩ : ∃ tx,ratText (Rat.divInt (sg false n1) ((n2 : Int))) = tx := ⟨_,rfl⟩
        rw [etx]; have Htx := zh etx; clear etx
        rintro e w57 ⟨rfl,hF⟩
        replace B1 := zh (B1.out.ext hF)
        replace B7 := zh (B7.out.ext hF)
        replace B16 := zh (B16.out.ext hF)
        replace B27 := zh (B27.out.ext hF)
        replace F6 := zh (F6.out.ext hF)
        replace F13 := zh (F13.out.ext hF)
        replace F15 := zh (F15.out.ext hF)
        replace F26 := zh (F26.out.ext hF)
        replace F50 := zh (F50.out.ext hF)
        replace HE := zh (HE.out.trans hF)
        clear hF
        have hS := (⟨B7.out,B16.out,B27.out⟩ : (fun W' => Blk 53 W' g10 #[.bool s5, .slice A5 l5 c5] ∧ Blk 55 W' g21 #[.bool s49, .slice A49 l49 c49, .bool t49, .slice B49 m49 d49] ∧ Blk 53 W' g34 #[.bool s25, .slice A25 l25 c25]) w57)
        refine hK _ _ hS ?_
        clear hK
        refine wpT_take 4 rfl (by kernel_rfl) (fun _ _ _ h => h) hS (fun _ => yeq_str (s := ⟨tx.toArray⟩) (t := s) rfl rfl (by kernel_rfl) (by kernel_rfl)) (fun hS => ?_)
        refine wpT_only 5 rfl (by kernel_rfl) rfl (fun K hK => ?_)
        clear hS
        obtain ⟨c58_0,c58_1,c58_2,c58_3,f58_0,f58_1,f58_2,f58_3⟩ := B1.out.cell4
        obtain ⟨c59_0,c59_1,f59_0,f59_1⟩ := B7.out.cell2
        obtain ⟨c60_0,c60_1,c60_2,c60_3,f60_0,f60_1,f60_2,f60_3⟩ := B16.out.cell4
        obtain ⟨c61_0,c61_1,f61_0,f61_1⟩ := B27.out.cell2
        go_simp
        clear c58_0 c58_1 c58_2 c58_3 f58_0 f58_1 f58_2 f58_3 c59_0 c59_1 f59_0 f59_1 c60_0 c60_1 c60_2 c60_3 f60_0 f60_1 f60_2 f60_3 c61_0 c61_1 f61_0 f61_1
        have hFs : Fr (fun i => i = w.heap.size) w57 ((((w57.setCell ⟨w.heap.size,0,none⟩ (.bool s49)).setCell ⟨w.heap.size,1,none⟩ (.slice A49 l49 c49)).setCell ⟨w.heap.size,2,none⟩ (.bool t49)).setCell ⟨w.heap.size,3,none⟩ (.slice B49 m49 d49)) := (((((Fr.refl (fun i => i = w.heap.size) _).setCell (p := ⟨w.heap.size,0,none⟩) (Or.inl rfl) _).setCell (p := ⟨w.heap.size,1,none⟩) (Or.inl rfl) _).setCell (p := ⟨w.heap.size,2,none⟩) (Or.inl rfl) _).setCell (p := ⟨w.heap.size,3,none⟩) (Or.inl rfl) _)
        replace F6 := zh (F6.out.oth B1.out noRow4 hFs)
        replace F13 := zh (F13.out.oth B1.out noRow4 hFs)
        replace F15 := zh (F15.out.oth B1.out noRow4 hFs)
        replace F26 := zh (F26.out.oth B1.out noRow4 hFs)
        replace F50 := zh (F50.out.oth B1.out noRow4 hFs)
        replace B7 := zh (B7.out.fr hFs (by first | omega | (have := B7.out.lt; have := B1.out.lt; omega)))
        replace B16 := zh (B16.out.fr hFs (by first | omega | (have := B16.out.lt; have := B1.out.lt; omega)))
        replace B27 := zh (B27.out.fr hFs (by first | omega | (have := B27.out.lt; have := B1.out.lt; omega)))
        replace HE := zh (HE.out.next hFs (fun i hi e => by first | omega | (have := HE.out.size; have := B1.out.lt; omega)))
        have b_new : Blk 55 ((((w57.setCell ⟨w.heap.size,0,none⟩ (.bool s49)).setCell ⟨w.heap.size,1,none⟩ (.slice A49 l49 c49)).setCell ⟨w.heap.size,2,none⟩ (.bool t49)).setCell ⟨w.heap.size,3,none⟩ (.slice B49 m49 d49)) w.heap.size #[.bool s49, .slice A49 l49 c49, .bool t49, .slice B49 m49 d49] := ((((B1.out.set_ 0 _).set_ 1 _).set_ 2 _).set_ 3 _)
        generalize ((((w57.setCell ⟨w.heap.size,0,none⟩ (.bool s49)).setCell ⟨w.heap.size,1,none⟩ (.slice A49 l49 c49)).setCell ⟨w.heap.size,2,none⟩ (.bool t49)).setCell ⟨w.heap.size,3,none⟩ (.slice B49 m49 d49)) = w62 at *
        replace B1 := zh b_new; clear b_new hFs
        have hS := (⟨B7.out,B16.out,B27.out⟩ : (fun W' => Blk 53 W' g10 #[.bool s5, .slice A5 l5 c5] ∧ Blk 55 W' g21 #[.bool s49, .slice A49 l49 c49, .bool t49, .slice B49 m49 d49] ∧ Blk 53 W' g34 #[.bool s25, .slice A25 l25 c25]) w62)
        refine hK _ _ hS ?_
        clear hK
        refine wpT_tail (l := [_]) 6 rfl (by kernel_rfl) ?_
        clear hS
        obtain ⟨c63_0,c63_1,c63_2,c63_3,f63_0,f63_1,f63_2,f63_3⟩ := B1.out.cell4
        obtain ⟨c64_0,c64_1,f64_0,f64_1⟩ := B7.out.cell2
        obtain ⟨c65_0,c65_1,c65_2,c65_3,f65_0,f65_1,f65_2,f65_3⟩ := B16.out.cell4
        obtain ⟨c66_0,c66_1,f66_0,f66_1⟩ := B27.out.cell2
        go_wp2
        clear c63_0 c63_1 c63_2 c63_3 f63_0 f63_1 f63_2 f63_3 c64_0 c64_1 f64_0 f64_1 c65_0 c65_1 c65_2 c65_3 f65_0 f65_1 f65_2 f65_3 c66_0 c66_1 f66_0 f66_1
        exact fin_NRatB (b := (tx == s.toList)) rfl rfl rfl B1.out F50.out (read_end (by have h := nread_frac Hun.out Hb1.out (by have := HP.out; have := Hlt.out; rw [bytes_length]; omega) (by rw [← HP.out]; exact Hb2.out) (by rw [← HP.out,Hn2.out]; exact Hz.out); rw [← HP.out,Hn1.out,Hn2.out] at h; exact h) (by rw [str_dec',Htx.out])) HE.out
     | false =>
       replace B1 := zh (B1.out.ext hF)
       replace B7 := zh (B7.out.ext hF)
       replace B16 := zh (B16.out.ext hF)
       replace F6 := zh (F6.out.ext hF)
       replace F13 := zh (F13.out.ext hF)
       replace F15 := zh (F15.out.ext hF)
       replace HE := zh (HE.out.trans hF)
       have Hb2 := zh hb2.symm
       clear hF hI hb2
       obtain ⟨c68_0,c68_1,c68_2,c68_3,f68_0,f68_1,f68_2,f68_3⟩ := B1.out.cell4
       have hl69 := B1.out.lt
       obtain ⟨c70_0,c70_1,f70_0,f70_1⟩ := B7.out.cell2
       have hl71 := B7.out.lt
       obtain ⟨c72_0,c72_1,c72_2,c72_3,f72_0,f72_1,f72_2,f72_3⟩ := B16.out.cell4
       have hl73 := B16.out.lt
       go_wp2
       clear c68_0 c68_1 c68_2 c68_3 f68_0 f68_1 f68_2 f68_3 hl69 c70_0 c70_1 f70_0 f70_1 hl71 c72_0 c72_1 c72_2 c72_3 f72_0 f72_1 f72_2 f72_3 hl73
       have hFs : Fr (fun i => i = w.heap.size) w24 ((((w24.setCell ⟨w.heap.size,0,none⟩ (.bool false)).setCell ⟨w.heap.size,1,none⟩ (.slice none 0 0)).setCell ⟨w.heap.size,2,none⟩ (.bool false)).setCell ⟨w.heap.size,3,none⟩ (.slice none 0 0)) := (((((Fr.refl (fun i => i = w.heap.size) _).setCell (p := ⟨w.heap.size,0,none⟩) (Or.inl rfl) _).setCell (p := ⟨w.heap.size,1,none⟩) (Or.inl rfl) _).setCell (p := ⟨w.heap.size,2,none⟩) (Or.inl rfl) _).setCell (p := ⟨w.heap.size,3,none⟩) (Or.inl rfl) _)
       replace F6 := zh (F6.out.oth B1.out noRow4 hFs)
       replace F13 := zh (F13.out.oth B1.out noRow4 hFs)
       replace F15 := zh (F15.out.oth B1.out noRow4 hFs)
       replace B7 := zh (B7.out.fr hFs (by first | omega | (have := B7.out.lt; have := B1.out.lt; omega)))
       replace B16 := zh (B16.out.fr hFs (by first | omega | (have := B16.out.lt; have := B1.out.lt; omega)))
       replace HE := zh (HE.out.next hFs (fun i hi e => by first | omega | (have := HE.out.size; have := B1.out.lt; omega)))
       have b_new : Blk 55 ((((w24.setCell ⟨w.heap.size,0,none⟩ (.bool false)).setCell ⟨w.heap.size,1,none⟩ (.slice none 0 0)).setCell ⟨w.heap.size,2,none⟩ (.bool false)).setCell ⟨w.heap.size,3,none⟩ (.slice none 0 0)) w.heap.size #[.bool false, .slice none 0 0, .bool false, .slice none 0 0] := ((((B1.out.set_ 0 _).set_ 1 _).set_ 2 _).set_ 3 _)
       have hsz75 : (((((w24.setCell ⟨w.heap.size,0,none⟩ (.bool false)).setCell ⟨w.heap.size,1,none⟩ (.slice none 0 0)).setCell ⟨w.heap.size,2,none⟩ (.bool false)).setCell ⟨w.heap.size,3,none⟩ (.slice none 0 0))).heap.size = w24.heap.size := by simp
       generalize ((((w24.setCell ⟨w.heap.size,0,none⟩ (.bool false)).setCell ⟨w.heap.size,1,none⟩ (.slice none 0 0)).setCell ⟨w.heap.size,2,none⟩ (.bool false)).setCell ⟨w.heap.size,3,none⟩ (.slice none 0 0)) = w74 at *
       replace B1 := zh b_new; clear b_new hFs
       generalize hwb : World.alloc w74 _ = w76
       obtain ⟨b_B67,hF⟩ := blocks1 hwb
       clear hwb
       have hlt77 := B1.out.lt
       rw [hsz75] at hlt77
       have hlt78 := B7.out.lt
       rw [hsz75] at hlt78
       have hlt79 := B16.out.lt
       rw [hsz75] at hlt79
       rw [hsz75] at b_B67
       generalize w24.heap.size = g76 at *
       have B67 := zh b_B67; clear b_B67
       replace B1 := zh (B1.out.ext hF)
       replace B7 := zh (B7.out.ext hF)
       replace B16 := zh (B16.out.ext hF)
       replace F6 := zh (F6.out.ext hF)
       replace F13 := zh (F13.out.ext hF)
       replace F15 := zh (F15.out.ext hF)
       replace HE := zh (HE.out.trans hF)
       clear hF
       exact fin_NRatB (b := false) rfl rfl rfl B1.out (NRatIs.nil _) (Or.inr ⟨rfl,by rw [← nread_eq]; exact nread_bad2 Hun.out Hb1.out (by have := HP.out; have := Hlt.out; rw [bytes_length]; omega) (Or.inl (by rw [← HP.out]; exact Hb2.out))⟩) HE.out
    ·have hltI : ¬ ((p : Int) < (s.size : Int)) := by omega
     have hltB : decide ((p : Int) < (s.size : Int)) = false := by rw [decide_eq_false_iff_not]; omega
     have Hlt := zh hlt; clear hlt
     obtain ⟨c80_0,c80_1,c80_2,c80_3,f80_0,f80_1,f80_2,f80_3⟩ := B1.out.cell4
     have hl81 := B1.out.lt
     obtain ⟨c82_0,c82_1,f82_0,f82_1⟩ := B7.out.cell2
     have hl83 := B7.out.lt
     go_wp2_with fail
     clear c80_0 c80_1 c80_2 c80_3 f80_0 f80_1 f80_2 f80_3 hl81 c82_0 c82_1 f82_0 f82_1 hl83
     generalize hwb : World.alloc w12 _ = w84
     obtain ⟨b_B16,hF⟩ := blocks1 hwb
     clear hwb
     have hlt85 := B1.out.lt
     have hlt86 := B7.out.lt
     generalize w12.heap.size = g84 at *
     have B16 := zh b_B16; clear b_B16
     replace B1 := zh (B1.out.ext hF)
     replace B7 := zh (B7.out.ext hF)
     replace F6 := zh (F6.out.ext hF)
     replace F13 := zh (F13.out.ext hF)
     replace F15 := zh (F15.out.ext hF)
     replace HE := zh (HE.out.trans hF)
     clear hF
     refine wp_region_T 6 (fun W' => Blk 53 W' g10 #[.bool s5, .slice A5 l5 c5] ∧ Blk 55 W' g84 #[.bool s14, .slice A14 l14 c14, .bool false, .slice none 0 0]) follows_mixed' ?_
     replace B1 := zh (B1.out.ext (Fr.refl _ _).drew)
     replace B7 := zh (B7.out.ext (Fr.refl _ _).drew)
     replace B16 := zh (B16.out.ext (Fr.refl _ _).drew)
     replace F6 := zh (F6.out.ext (Fr.refl _ _).drew)
     replace F13 := zh (F13.out.ext (Fr.refl _ _).drew)
     replace F15 := zh (F15.out.ext (Fr.refl _ _).drew)
     replace HE := zh (HE.out.trans (Fr.refl _ _).drew)
     generalize w84.drew = w87 at *
     have hS := (⟨B7.out,B16.out⟩ : (fun W' => Blk 53 W' g10 #[.bool s5, .slice A5 l5 c5] ∧ Blk 55 W' g84 #[.bool s14, .slice A14 l14 c14, .bool false, .slice none 0 0]) w87)
     refine wpT_take 0 rfl (by kernel_rfl) (fun _ _ _ h => h) hS (fun _ => yl_NumRat (g := g84) (off := 0) (x := .bool s14) (y := .slice A14 l14 c14) (z := .bool false) (u := .slice none 0 0) rfl rfl (by kernel_rfl) (fun _ h => Blk.four (h.2) 0 rfl rfl rfl rfl)) (fun hS => ?_)
     refine wpT_take 1 rfl (by kernel_rfl) (fun _ _ _ h => h) hS (fun _ => yl_NumRat (g := g84) (off := 0) (x := .bool s14) (y := .slice A14 l14 c14) (z := .bool false) (u := .slice none 0 0) rfl rfl (by kernel_rfl) (fun _ h => Blk.four (h.2) 0 rfl rfl rfl rfl)) (fun hS => ?_)
     refine wpT_take 3 rfl (by kernel_rfl) (fun _ _ _ h => h) hS (fun _ => ym (v := .string s) rfl rfl (by kernel_rfl)) (fun hS => ?_)
     refine wpT_only 2 rfl (by kernel_rfl) rfl (fun K hK => ?_)
     go_simp
     clear hS
     have F89 : Hid (NRatIs w87 (.agg #[.bool s14, .slice A14 l14 c14, .bool false, .slice none 0 0]) (((sg false n1 : Int) : Rat))) := NRatIs.of (by exact F15.out) (by rw [denF_one (by simp)]; exact NumIs.nil _)
     refine (NText_all _ (((sg false n1 : Int) : Rat)) _ F89.out (by show ml (sg false n1).natAbs ≤ _; rw [sg_ml]; exact Hm1.out) (by show ml 1 ≤ _; decide)).mono ?_
     obtain ⟨tx,etx⟩ : ∃ tx,ratText (((sg false n1 : Int) : Rat)) = tx := ⟨_,rfl⟩
     rw [etx]; have Htx := zh etx; clear etx
     rintro e w88 ⟨rfl,hF⟩
     replace B1 := zh (B1.out.ext hF)
     replace B7 := zh (B7.out.ext hF)
     replace B16 := zh (B16.out.ext hF)
     replace F6 := zh (F6.out.ext hF)
     replace F13 := zh (F13.out.ext hF)
     replace F15 := zh (F15.out.ext hF)
     replace F89 := zh (F89.out.ext hF)
     replace HE := zh (HE.out.trans hF)
     clear hF
     have hS := (⟨B7.out,B16.out⟩ : (fun W' => Blk 53 W' g10 #[.bool s5, .slice A5 l5 c5] ∧ Blk 55 W' g84 #[.bool s14, .slice A14 l14 c14, .bool false, .slice none 0 0]) w88)
     refine hK _ _ hS ?_
     clear hK
     refine wpT_take 4 rfl (by kernel_rfl) (fun _ _ _ h => h) hS (fun _ => yeq_str (s := ⟨tx.toArray⟩) (t := s) rfl rfl (by kernel_rfl) (by kernel_rfl)) (fun hS => ?_)
     refine wpT_only 5 rfl (by kernel_rfl) rfl (fun K hK => ?_)
     clear hS
     obtain ⟨c90_0,c90_1,c90_2,c90_3,f90_0,f90_1,f90_2,f90_3⟩ := B1.out.cell4
     obtain ⟨c91_0,c91_1,f91_0,f91_1⟩ := B7.out.cell2
     obtain ⟨c92_0,c92_1,c92_2,c92_3,f92_0,f92_1,f92_2,f92_3⟩ := B16.out.cell4
     go_simp
     clear c90_0 c90_1 c90_2 c90_3 f90_0 f90_1 f90_2 f90_3 c91_0 c91_1 f91_0 f91_1 c92_0 c92_1 c92_2 c92_3 f92_0 f92_1 f92_2 f92_3
     have hFs : Fr (fun i => i = w.heap.size) w88 ((((w88.setCell ⟨w.heap.size,0,none⟩ (.bool s14)).setCell ⟨w.heap.size,1,none⟩ (.slice A14 l14 c14)).setCell ⟨w.heap.size,2,none⟩ (.bool false)).setCell ⟨w.heap.size,3,none⟩ (.slice none 0 0)) := (((((Fr.refl (fun i => i = w.heap.size) _).setCell (p := ⟨w.heap.size,0,none⟩) (Or.inl rfl) _).setCell (p := ⟨w.heap.size,1,none⟩) (Or.inl rfl) _).setCell (p := ⟨w.heap.size,2,none⟩) (Or.inl rfl) _).setCell (p := ⟨w.heap.size,3,none⟩) (Or.inl rfl) _)
     replace F6 := zh (F6.out.oth B1.out noRow4 hFs)
     replace F13 := zh (F13.out.oth B1.out noRow4 hFs)
     replace F15 := zh (F15.out.oth B1.out noRow4 hFs)
     replace F89 := zh (F89.out.oth B1.out noRow4 hFs)
     replace B7 := zh (B7.out.fr hFs (by first | omega | (have := B7.out.lt; have := B1.out.lt; omega)))
     replace B16 := zh (B16.out.fr hFs (by first | omega | (have := B16.out.lt; have := B1.out.lt; omega)))
     replace HE := zh (HE.out.next hFs (fun i hi e => by first | omega | (have := HE.out.size; have := B1.out.lt; omega)))
     have b_new : Blk 55 ((((w88.setCell ⟨w.heap.size,0,none⟩ (.bool s14)).setCell ⟨w.heap.size,1,none⟩ (.slice A14 l14 c14)).setCell ⟨w.heap.size,2,none⟩ (.bool false)).setCell ⟨w.heap.size,3,none⟩ (.slice none 0 0)) w.heap.size #[.bool s14, .slice A14 l14 c14, .bool false, .slice none 0 0] := ((((B1.out.set_ 0 _).set_ 1 _).set_ 2 _).set_ 3 _)
     generalize ((((w88.setCell ⟨w.heap.size,0,none⟩ (.bool s14)).setCell ⟨w.heap.size,1,none⟩ (.slice A14 l14 c14)).setCell ⟨w.heap.size,2,none⟩ (.bool false)).setCell ⟨w.heap.size,3,none⟩ (.slice none 0 0)) = w93 at *
     replace B1 := zh b_new; clear b_new hFs
     have hS := (⟨B7.out,B16.out⟩ : (fun W' => Blk 53 W' g10 #[.bool s5, .slice A5 l5 c5] ∧ Blk 55 W' g84 #[.bool s14, .slice A14 l14 c14, .bool false, .slice none 0 0]) w93)
     refine hK _ _ hS ?_
     clear hK
     refine wpT_tail (l := [_]) 6 rfl (by kernel_rfl) ?_
     clear hS
     obtain ⟨c94_0,c94_1,c94_2,c94_3,f94_0,f94_1,f94_2,f94_3⟩ := B1.out.cell4
     obtain ⟨c95_0,c95_1,f95_0,f95_1⟩ := B7.out.cell2
     obtain ⟨c96_0,c96_1,c96_2,c96_3,f96_0,f96_1,f96_2,f96_3⟩ := B16.out.cell4
     go_wp2
     clear c94_0 c94_1 c94_2 c94_3 f94_0 f94_1 f94_2 f94_3 c95_0 c95_1 f95_0 f95_1 c96_0 c96_1 c96_2 c96_3 f96_0 f96_1 f96_2 f96_3
     exact fin_NRatB (b := (tx == s.toList)) rfl rfl rfl B1.out F89.out (read_end (by have h := nread_whole Hun.out Hb1.out (by have := HP.out; have := Hlt.out; rw [bytes_length]; omega); rw [Hn1.out] at h; exact h) (by rw [str_dec',Htx.out])) HE.out
  | false =>
    replace B1 := zh (B1.out.ext hF)
    replace HE := zh (HE.out.trans hF)
    have Hb1 := zh hb1.symm
    clear hF hI hb1
    obtain ⟨c98_0,c98_1,c98_2,c98_3,f98_0,f98_1,f98_2,f98_3⟩ := B1.out.cell4
    have hl99 := B1.out.lt
    go_wp2
    clear c98_0 c98_1 c98_2 c98_3 f98_0 f98_1 f98_2 f98_3 hl99
    have hFs : Fr (fun i => i = w.heap.size) w4 ((((w4.setCell ⟨w.heap.size,0,none⟩ (.bool false)).setCell ⟨w.heap.size,1,none⟩ (.slice none 0 0)).setCell ⟨w.heap.size,2,none⟩ (.bool false)).setCell ⟨w.heap.size,3,none⟩ (.slice none 0 0)) := (((((Fr.refl (fun i => i = w.heap.size) _).setCell (p := ⟨w.heap.size,0,none⟩) (Or.inl rfl) _).setCell (p := ⟨w.heap.size,1,none⟩) (Or.inl rfl) _).setCell (p := ⟨w.heap.size,2,none⟩) (Or.inl rfl) _).setCell (p := ⟨w.heap.size,3,none⟩) (Or.inl rfl) _)
    replace HE := zh (HE.out.next hFs (fun i hi e => by first | omega | (have := HE.out.size; have := B1.out.lt; omega)))
    have b_new : Blk 55 ((((w4.setCell ⟨w.heap.size,0,none⟩ (.bool false)).setCell ⟨w.heap.size,1,none⟩ (.slice none 0 0)).setCell ⟨w.heap.size,2,none⟩ (.bool false)).setCell ⟨w.heap.size,3,none⟩ (.slice none 0 0)) w.heap.size #[.bool false, .slice none 0 0, .bool false, .slice none 0 0] := ((((B1.out.set_ 0 _).set_ 1 _).set_ 2 _).set_ 3 _)
    have hsz101 : (((((w4.setCell ⟨w.heap.size,0,none⟩ (.bool false)).setCell ⟨w.heap.size,1,none⟩ (.slice none 0 0)).setCell ⟨w.heap.size,2,none⟩ (.bool false)).setCell ⟨w.heap.size,3,none⟩ (.slice none 0 0))).heap.size = w4.heap.size := by simp
    generalize ((((w4.setCell ⟨w.heap.size,0,none⟩ (.bool false)).setCell ⟨w.heap.size,1,none⟩ (.slice none 0 0)).setCell ⟨w.heap.size,2,none⟩ (.bool false)).setCell ⟨w.heap.size,3,none⟩ (.slice none 0 0)) = w100 at *
    replace B1 := zh b_new; clear b_new hFs
    generalize hwb : World.alloc w100 _ = w102
    obtain ⟨b_B97,hF⟩ := blocks1 hwb
    clear hwb
    have hlt103 := B1.out.lt
    rw [hsz101] at hlt103
    rw [hsz101] at b_B97
    generalize w4.heap.size = g102 at *
    have B97 := zh b_B97; clear b_B97
    replace B1 := zh (B1.out.ext hF)
    replace HE := zh (HE.out.trans hF)
    clear hF
    exact fin_NRatB (b := false) rfl rfl rfl B1.out (NRatIs.nil _) (Or.inr ⟨rfl,by rw [← nread_eq]; exact nread_bad1 Hun.out Hb1.out⟩) HE.out
set_option maxHeartbeats 2000000 in
set_option maxRecDepth 100000 in
theorem NRead_nil (s : ByteArray) (w : World) (hs : s.size ≤ 65536) (h0 : s.size = 0) :
 Calls Tryz.prog 66 #[.string s] w (RetNRead w (bytes s)) := by
 have Hun : Hid (unsign (bytes s) = (false,bytes s)) := by have : bytes s = [] := List.length_eq_zero_iff.1 (by rw [bytes_length]; exact h0); unfold Hid unsign; rw [this]; rfl
 have hts := hs
 have Hsz := zh hs
 have Hnil : Hid (bytes s = []) := List.length_eq_zero_iff.1 (by rw [bytes_length]; exact h0)
 have hnp : ¬ (0 < s.size) := by omega
 have hnI : ¬ ((0 : Int) < (s.size : Int)) := by omega
 have hnd : decide ((0 : Int) < (s.size : Int)) = false := by rw [decide_eq_false_iff_not]; omega
 have hnd2 : decide (0 < s.size) = false := by rw [decide_eq_false_iff_not]; omega
 clear h0
 go_enter Tryz.func66,Tryz.ntmps66
 go_upto_block 0 with fail
 generalize hwb : World.alloc w _ = w2
 obtain ⟨b_B1,hE0⟩ := blocks1 hwb
 clear hwb
 have B1 := zh b_B1
 clear b_B1
 have HE := zh hE0
 clear hE0
 go_cut [6,7] from 27 to 37 (fun av _ wx => ∃ p : Nat,av = .int .i64 (p : Int) ∧ p ≤ s.size ∧ Hid (p = ((bytes s).takeWhile notSlash).length) ∧ Hid (wx = w2))
 case first =>
  go_wp2_with fail
  go_loop [6,7] (fun av iv => ∃ i : Nat,i ≤ s.size ∧ av = .int .i64 (s.size : Int) ∧ iv = .int .i64 (i : Int) ∧ Hid (((bytes s).take i).all notSlash = true)) (fun _ iv => s.size - (intOf iv).toNat)
  case atStart => exact ⟨0,Nat.zero_le _,rfl,rfl,by unfold Hid; simp⟩
  case round =>
   obtain ⟨i,hi,rfl,rfl,hR⟩ := hrel
   by_cases hlt : i < s.size
   ·by_cases hc : s[i] = 47
    ·have HP : Hid (i = ((bytes s).takeWhile notSlash).length) := takeWhile_len hR.out (fun _ => by rw [bytes_at s hlt,hc]; decide) (by rw [bytes_length]; exact hi)
     have hx : s[i].toNat = 47 := by rw [hc]; rfl
     have hx1 : ((s[i].toNat : Int) == 47) = true := by rw [hx]; rfl
     clear hc
     go_wp2
     go_meet
     exact ⟨i,rfl,hi,HP,rfl⟩
    ·have hx : ¬ s[i].toNat = 47 := fun e => hc (UInt8.toNat.inj e)
     have hx1 : ((s[i].toNat : Int) == 47) = false := by simp; omega
     have HR2 : Hid (((bytes s).take (i + 1)).all notSlash = true) := by
      unfold Hid
      rw [take_snoc s i hlt,List.all_append,hR.out]
      simp [notSlash,hc]
     clear hc
     go_wp2
     go_round
     case rel => exact ⟨i + 1,by omega,rfl,by go_num,HR2⟩
     case measure => simp [intOf]; omega
   ·obtain rfl : i = s.size := by omega
    have HP : Hid (s.size = ((bytes s).takeWhile notSlash).length) := takeWhile_len hR.out (fun h => by rw [bytes_length] at h; omega) (by rw [bytes_length]; exact Nat.le_refl _)
    go_wp2
    go_meet
    exact ⟨s.size,rfl,Nat.le_refl _,HP,rfl⟩
 case rest =>
  obtain ⟨p,rfl,hpt,HP,hw⟩ := hcut
  obtain rfl := hw.out
  clear hw
  have Hcut := zh (cut_at HP.out)
  obtain ⟨c3_0,c3_1,c3_2,c3_3,f3_0,f3_1,f3_2,f3_3⟩ := B1.out.cell4
  go_wp2_with fail
  clear c3_0 c3_1 c3_2 c3_3 f3_0 f3_1 f3_2 f3_3
  refine (NFromDigits_any _ _ (Nat.le_trans (extract_le _ _ _) Hsz.out)).mono ?_
  rintro e w4 ⟨_,b1,rfl,hb1,hI,hF⟩
  rw [Hcut.out.1] at hb1 hI
  obtain ⟨s5,A5,l5,c5,rfl⟩ := hI.shp
  cases b1 with
  | true =>
    exfalso
    rw [Hnil.out] at hb1
    simp at hb1
  | false =>
    replace B1 := zh (B1.out.ext hF)
    replace HE := zh (HE.out.trans hF)
    have Hb1 := zh hb1.symm
    clear hF hI hb1
    obtain ⟨c7_0,c7_1,c7_2,c7_3,f7_0,f7_1,f7_2,f7_3⟩ := B1.out.cell4
    have hl8 := B1.out.lt
    go_wp2
    clear c7_0 c7_1 c7_2 c7_3 f7_0 f7_1 f7_2 f7_3 hl8
    have hFs : Fr (fun i => i = w.heap.size) w4 ((((w4.setCell ⟨w.heap.size,0,none⟩ (.bool false)).setCell ⟨w.heap.size,1,none⟩ (.slice none 0 0)).setCell ⟨w.heap.size,2,none⟩ (.bool false)).setCell ⟨w.heap.size,3,none⟩ (.slice none 0 0)) := (((((Fr.refl (fun i => i = w.heap.size) _).setCell (p := ⟨w.heap.size,0,none⟩) (Or.inl rfl) _).setCell (p := ⟨w.heap.size,1,none⟩) (Or.inl rfl) _).setCell (p := ⟨w.heap.size,2,none⟩) (Or.inl rfl) _).setCell (p := ⟨w.heap.size,3,none⟩) (Or.inl rfl) _)
    replace HE := zh (HE.out.next hFs (fun i hi e => by first | omega | (have := HE.out.size; have := B1.out.lt; omega)))
    have b_new : Blk 55 ((((w4.setCell ⟨w.heap.size,0,none⟩ (.bool false)).setCell ⟨w.heap.size,1,none⟩ (.slice none 0 0)).setCell ⟨w.heap.size,2,none⟩ (.bool false)).setCell ⟨w.heap.size,3,none⟩ (.slice none 0 0)) w.heap.size #[.bool false, .slice none 0 0, .bool false, .slice none 0 0] := ((((B1.out.set_ 0 _).set_ 1 _).set_ 2 _).set_ 3 _)
    have hsz10 : (((((w4.setCell ⟨w.heap.size,0,none⟩ (.bool false)).setCell ⟨w.heap.size,1,none⟩ (.slice none 0 0)).setCell ⟨w.heap.size,2,none⟩ (.bool false)).setCell ⟨w.heap.size,3,none⟩ (.slice none 0 0))).heap.size = w4.heap.size := by simp
    generalize ((((w4.setCell ⟨w.heap.size,0,none⟩ (.bool false)).setCell ⟨w.heap.size,1,none⟩ (.slice none 0 0)).setCell ⟨w.heap.size,2,none⟩ (.bool false)).setCell ⟨w.heap.size,3,none⟩ (.slice none 0 0)) = w9 at *
    replace B1 := zh b_new; clear b_new hFs
    generalize hwb : World.alloc w9 _ = w11
    obtain ⟨b_B6,hF⟩ := blocks1 hwb
    clear hwb
    have hlt12 := B1.out.lt
    rw [hsz10] at hlt12
    rw [hsz10] at b_B6
    generalize w4.heap.size = g11 at *
    have B6 := zh b_B6; clear b_B6
    replace B1 := zh (B1.out.ext hF)
    replace HE := zh (HE.out.trans hF)
    clear hF
    exact fin_NRatB (b := false) rfl rfl rfl B1.out (NRatIs.nil _) (Or.inr ⟨rfl,by rw [← nread_eq]; exact nread_bad1 Hun.out Hb1.out⟩) HE.out
theorem NRead_any (s : ByteArray) (w : World) (hs : s.size ≤ 65536) : Calls Tryz.prog 66 #[.string s] w (RetNRead w (bytes s)) := by
 rcases Nat.eq_zero_or_pos s.size with h | h
 ·exact NRead_nil s w hs h
 ·by_cases h1 : s[0] = 45
  ·exact NRead_neg s w hs h h1
  ·exact NRead_pos s w hs h h1
end Go.Proofs.YtndafmjcelgnbaaGreatDoor

namespace Go.Proofs.YtndafmjcelgnbaaGreatDoor
open Go.RowKit
theorem opt_two {α : Type} (o : Option α) : o = none ∨ ∃ x,o = some x := by cases o; exact Or.inl rfl; exact Or.inr ⟨_,rfl⟩
section
variable {w w' : World} {e : Ending} {l : List UInt8}
theorem post_Read_none (h : RetRead w l e w') (hr : readF l = none) : PostC (fun x : ShQ => .tuple #[shRat x, .bool false]) (fun x w => RatIs w (shRat x) 0) w e w' := by
 obtain ⟨v,ok,rfl,hE,⟨rfl,q,h1,h2⟩ | ⟨rfl,h1,h2⟩⟩ := h
 ·rw [hr] at h1; cases h1
 ·obtain ⟨s,A,l,c,t,B,m,d,rfl⟩ := h2.shp
  exact ⟨(s,A,l,c,t,B,m,d),rfl,hE,boxn hE (fun S w'' hS hF => h2.nrb hS hF)⟩
theorem post_Read_some {q : Rat} (h : RetRead w l e w') (hr : readF l = some q) : PostC (fun x : ShQ => .tuple #[shRat x, .bool true]) (fun x w => RatIs w (shRat x) q) w e w' := by
 obtain ⟨v,ok,rfl,hE,⟨rfl,q,h1,h2⟩ | ⟨rfl,h1,h2⟩⟩ := h
 ·rw [hr] at h1; injection h1 with h1; subst h1
  obtain ⟨s,A,l,c,t,B,m,d,rfl⟩ := h2.shp
  exact ⟨(s,A,l,c,t,B,m,d),rfl,hE,boxn hE (fun S w'' hS hF => h2.nrb hS hF)⟩
 ·rw [hr] at h1; cases h1
theorem post_NRead_none (h : RetNRead w l e w') (hr : readF l = none) : PostC (fun x : ShQ => .tuple #[shRat x, .bool false]) (fun x w => ∃ q,NRatIs w (shRat x) q) w e w' := by
 obtain ⟨v,ok,q,rfl,hE,h2,⟨rfl,h1⟩ | ⟨rfl,h1⟩⟩ := h
 ·rw [hr] at h1; cases h1
 ·obtain ⟨s,A,l,c,t,B,m,d,rfl⟩ := h2.shp
  exact ⟨(s,A,l,c,t,B,m,d),rfl,hE,boxn hE (fun S w'' hS hF => ⟨q,h2.nrb hS hF⟩)⟩
theorem post_NRead_some {q : Rat} (h : RetNRead w l e w') (hr : readF l = some q) : PostC (fun x : ShQ => .tuple #[shRat x, .bool true]) (fun x w => NRatIs w (shRat x) q) w e w' := by
 obtain ⟨v,ok,q',rfl,hE,h2,⟨rfl,h1⟩ | ⟨rfl,h1⟩⟩ := h
 ·rw [hr] at h1; injection h1 with h1; subst h1
  obtain ⟨s,A,l,c,t,B,m,d,rfl⟩ := h2.shp
  exact ⟨(s,A,l,c,t,B,m,d),rfl,hE,boxn hE (fun S w'' hS hF => h2.nrb hS hF)⟩
 ·rw [hr] at h1; cases h1
theorem post_Rec {v m : Int} (h : RetRec w v m e w') : PostC (fun x : ShQ × Rat × Bool => .tuple #[shRat x.1, .bool x.2.2]) (fun x w => RatIs w (shRat x.1) x.2.1 ∧ RecIs v m x.2.1 x.2.2) w e w' := by
 obtain ⟨u,q,ok,rfl,h2,h3,hE⟩ := h
 obtain ⟨s,A,l,c,t,B,m,d,rfl⟩ := h2.shp
 exact ⟨((s,A,l,c,t,B,m,d),q,ok),rfl,hE,boxn hE (fun S w'' hS hF => ⟨h2.nrb hS hF,h3⟩)⟩
theorem lenD {s t : Bool} {A B : Option Addr} {l c m d : Nat} {q : Rat} (h : NRatIs w (.agg #[.bool s, .slice A l c, .bool t, .slice B m d]) q) : (q.den = 1 → m = 0) ∧ (¬ q.den = 1 → 0 < m) := ⟨fun h1 => h.den.len0 (denF_one h1),fun h1 => h.den.lenp (denF_ne h1)⟩
end
def RetRc (w : World) (la lb : List UInt8) (e : Ending) (w' : World) : Prop := ∃ s ok,e = .returned (.tuple #[.string ⟨s.toArray⟩, .bool ok]) ∧ RcIs la lb s ok ∧ Ext w w'
theorem dec_fit {l : List UInt8} {q : Rat} (h : readF l = some q) (hl : l.length ≤ 200) : wl q.num.natAbs < 39 ∧ wl q.den < 39 ∧ ml q.num.natAbs ≤ 200 ∧ ml q.den ≤ 200 := by
 obtain ⟨h1,h2⟩ := readF_dec h hl (by omega)
 have key : ∀ n : Nat,n < 10 ^ 200 → wl n < 39 := fun n hn => by
  have : wl n ≤ 38 := by
   rw [wl_le_iff,W64_eq]
   exact Nat.lt_of_lt_of_le hn (by decide)
  omega
 exact ⟨key _ h1,key _ h2,ml_ten h1,ml_ten h2⟩
theorem fit2 {z : Int} (h : wl z.natAbs < 39) : Fits z := by unfold Fits; omega
theorem prt_of {v m : Int} {q : Rat} (h : RecIs v m q true) (hm : 2 ≤ m) (hw : wl m.natAbs < 39) : PrtOk q.num.natAbs ∧ PrtOk q.den := by
 obtain ⟨h1,h2⟩ := h.size hm
 exact ⟨Nat.lt_of_le_of_lt (wl_mono h1) (by omega),Nat.lt_of_le_of_lt (wl_mono h2) (by omega)⟩
theorem sgn_ge_t {a b : Int} (h : ¬ a < b) : decide ((a - b).sign ≥ 0) = true := by
 rw [decide_eq_true_iff]
 rcases sign3 (a - b) with ⟨h1,h2⟩ | ⟨h1,h2⟩ | ⟨h1,h2⟩ <;> rw [h2] <;> omega
theorem sgn_ge_f {a b : Int} (h : a < b) : decide ((a - b).sign ≥ 0) = false := by
 rw [decide_eq_false_iff_not]
 rcases sign3 (a - b) with ⟨h1,h2⟩ | ⟨h1,h2⟩ | ⟨h1,h2⟩ <;> rw [h2] <;> omega
theorem ge_of {a b : Int} (h : decide ((a - b).sign ≥ 0) = true) : ¬ a < b := fun e => by rw [sgn_ge_f e] at h; cases h
theorem lt_of {a b : Int} (h : decide ((a - b).sign ≥ 0) = false) : a < b := Decidable.byContradiction fun e => by rw [sgn_ge_t e] at h; cases h
theorem sgn_lt {a : Int} {b : Bool} (h : decide (a.sign < 0) = b) : (b = true → a < 0) ∧ (b = false → ¬ a < 0) := by
 rcases sign3 a with ⟨h1,h2⟩ | ⟨h1,h2⟩ | ⟨h1,h2⟩ <;> rw [h2] at h <;> subst h <;> simp <;> omega
theorem bit_one {n : Nat} (h : n = 1) : (((blen n : Nat) : Int) != 1) = false := by rw [blen_eq_one.2 h]; rfl
theorem bit_big {n : Nat} (h : ¬ n = 1) : (((blen n : Nat) : Int) != 1) = true := by
 have h1 : blen n ≠ 1 := fun e => h (blen_eq_one.1 e)
 simp; omega
theorem mlq {x y : Int} {k : Nat} (h : ml x.natAbs ≤ k) : ml (x.tdiv y).natAbs ≤ k := Nat.le_trans (ml_mono (by rw [Int.natAbs_tdiv]; exact Nat.div_le_self _ _)) h
theorem mln {x : Int} {k : Nat} (h : ml x.natAbs ≤ k) : ml (-x).natAbs ≤ k := by rw [Int.natAbs_neg]; exact h
theorem mlr {x y : Int} {k : Nat} (h : ml y.natAbs ≤ k) (h0 : y ≠ 0) : ml (x.tmod y).natAbs ≤ k := Nat.le_trans (ml_mono (by
 have e : (x.tmod y).natAbs = x.natAbs % y.natAbs := Int.natAbs_tmod x y
 rw [e]; exact Nat.le_of_lt (Nat.mod_lt _ (by omega)))) h
theorem tmod_low {v m : Int} (hm : 0 < m) (h : v.tmod m < 0) : v.tmod m + m = v % m := by
 rcases Int.lt_or_le v 0 with e | e
 ·have h1 := Int.tmod_eq_emod (a := v) (b := m)
  rw [if_neg (by
   intro hh
   rcases hh with hh | hh
   ·omega
   ·obtain ⟨k,rfl⟩ := hh
    rw [Int.mul_tmod_right] at h; omega)] at h1
  have : (m.natAbs : Int) = m := by omega
  omega
 ·have := Int.tmod_nonneg m e
  omega
theorem tmod_high {v m : Int} (hm : 0 < m) (h : ¬ v.tmod m < 0) : v.tmod m = v % m := by
 have h1 := Int.tmod_lt_of_pos v hm
 have h2 := Int.mul_tdiv_add_tmod v m
 have h3 := Int.emod_emod_of_dvd v (Int.dvd_refl m)
 have h4 : v % m = (v.tmod m) % m := by
  rw [show v % m = (v.tmod m + m * v.tdiv m) % m by rw [Int.add_comm,h2],Int.add_mul_emod_self_left]
 rw [h4,Int.emod_eq_of_lt (by omega) h1]
theorem rec_eqs {m z t X Y : Int} (h : (X = z ∧ Y = t) ∨ (X = -z ∧ Y = -t)) : Y * Y * 2 = t * t * 2 ∧ Int.gcd Y m = Int.gcd t m ∧ Int.gcd X Y = Int.gcd t z ∧ Rat.divInt X Y = Rat.divInt z t := by
 rcases h with ⟨rfl,rfl⟩ | ⟨rfl,rfl⟩
 ·exact ⟨rfl,rfl,Int.gcd_comm _ _,rfl⟩
 ·exact ⟨by rw [Int.neg_mul_neg],Int.neg_gcd,by rw [Int.neg_gcd,Int.gcd_neg,Int.gcd_comm],Rat.neg_divInt_neg _ _⟩
theorem rec_yes {v m z t X Y : Int} (run : RecRun m m (v % m) 0 1 z t) (h : (X = z ∧ Y = t) ∨ (X = -z ∧ Y = -t)) (c1 : Y * Y * 2 < m) (c2 : ((Int.gcd Y m : Nat) : Int).natAbs = 1) (c3 : ((Int.gcd X Y : Nat) : Int).natAbs = 1) : RecIs v m (Rat.divInt X Y) true := by
 obtain ⟨e1,e2,e3,e4⟩ := rec_eqs (m := m) h
 rw [e1] at c1; rw [e2] at c2; rw [e3] at c3
 exact ⟨z,t,run,Or.inl ⟨rfl,c1,by omega,by omega,e4⟩⟩
theorem rec_no {v m z t X Y : Int} (run : RecRun m m (v % m) 0 1 z t) (h : (X = z ∧ Y = t) ∨ (X = -z ∧ Y = -t)) (c : ¬ (Y * Y * 2 < m ∧ ((Int.gcd Y m : Nat) : Int).natAbs = 1 ∧ ((Int.gcd X Y : Nat) : Int).natAbs = 1)) : ∀ x,¬ RecIs v m x true := by
 obtain ⟨e1,e2,e3,e4⟩ := rec_eqs (m := m) h
 rw [e1,e2,e3] at c
 refine RecIs.ok (q := 0) ⟨z,t,run,Or.inr ⟨rfl,fun ⟨a,b,d⟩ => c ⟨a,by omega,by omega⟩,rfl⟩⟩
theorem rec_nz {m Y : Int} (hm : 2 ≤ m) (c2 : ((Int.gcd Y m : Nat) : Int).natAbs = 1) : Y ≠ 0 := fun e => by
 rw [e,Int.gcd_zero_left] at c2; omega
theorem succ_pos' (k : Nat) : decide (((k + 1 : Nat) : Int) > 0) = true := decide_eq_true (by omega)
theorem ml2 : ml (2 : Int).natAbs ≤ 1 := ml_le_iff.2 (by rw [W32_eq]; decide)
set_option maxRecDepth 100000 in
theorem MReconstruct_any (s1 s2 : ByteArray) (w : World) (hg : Glob w) (h1 : s1.size ≤ 200) (h2 : s2.size ≤ 200) :
 Calls Tryz.prog 17 #[.string s1, .string s2] w (RetRc w (bytes s1) (bytes s2)) := by
 refine sx_enter (Φ := fun w => Glob w) Tryz.func17 rfl (by kernel_rfl) (fun w' hf => hg.ext hf) ?_
 refine sx_seq ?_
 refine sx_region ?_
 refine sx_run 2 [(0, .v (.string s1)),(1, .v (.string s2)),(4, .v (.string ⟨#[]⟩)),(5, .v (.bool false))] [] (by kernel_rfl) (by kernel_rfl) ?_
 refine sx_end (by kernel_rfl) ?_
 refine sx_next ?_
 refine sx_seq ?_
 refine sx_region ?_
 refine sx_run 1 [(1, .v (.string s2)),(4, .v (.string ⟨#[]⟩)),(5, .v (.bool false)),(14, .v (.string s1))] [] (by kernel_rfl) (by kernel_rfl) ?_
 rcases opt_two (readF (bytes s1)) with hr1 | ⟨q1,hr1⟩
 ·refine sx_call 60 [.string s1] 15 (fun x : ShQ => .tuple #[shRat x, .bool false]) _ (by kernel_rfl) (by kernel_rfl) (fun w hE hΦ => (Read_any s1 _ hΦ (ReadOk.of_len (by rw [bytes_length]; omega))).mono (fun _ _ h => post_Read_none h hr1)) (fun xx => ?_)
  obtain ⟨s10,A10,l10,c10,t10,B10,m10,d10⟩ := xx
  refine sx_run 6 [(1, .v (.string s2)),(4, .v (.string ⟨#[]⟩)),(5, .v (.bool false)),(6, .p 6 0),(7, .v (.bool false))] [(6,80,[.v (.bool s10), .v (.slice A10 l10 c10), .v (.bool t10), .v (.slice B10 m10 d10)])] (by kernel_rfl) (by kernel_rfl) ?_
  refine sx_end (by kernel_rfl) ?_
  refine sx_next ?_
  refine sx_seq ?_
  refine sx_region ?_
  refine sx_run 1 [(4, .v (.string ⟨#[]⟩)),(5, .v (.bool false)),(6, .p 6 0),(7, .v (.bool false)),(19, .v (.string s2))] [(6,80,[.v (.bool s10), .v (.slice A10 l10 c10), .v (.bool t10), .v (.slice B10 m10 d10)])] (by kernel_rfl) (by kernel_rfl) ?_
  rcases opt_two (readF (bytes s2)) with hr2 | ⟨q2,hr2⟩
  ·refine sx_call 60 [.string s2] 20 (fun x : ShQ => .tuple #[shRat x, .bool false]) _ (by kernel_rfl) (by kernel_rfl) (fun w hE hΦ => (Read_any s2 _ hΦ.1 (ReadOk.of_len (by rw [bytes_length]; omega))).mono (fun _ _ h => post_Read_none h hr2)) (fun xx => ?_)
   obtain ⟨s11,A11,l11,c11,t11,B11,m11,d11⟩ := xx
   refine sx_run 6 [(4, .v (.string ⟨#[]⟩)),(5, .v (.bool false)),(6, .p 6 0),(7, .v (.bool false)),(8, .p 8 0),(9, .v (.bool false))] [(8,80,[.v (.bool s11), .v (.slice A11 l11 c11), .v (.bool t11), .v (.slice B11 m11 d11)]),(6,80,[.v (.bool s10), .v (.slice A10 l10 c10), .v (.bool t10), .v (.slice B10 m10 d10)])] (by kernel_rfl) (by kernel_rfl) ?_
   refine sx_end (by kernel_rfl) ?_
   refine sx_next ?_
   refine sx_seq ?_
   refine sx_seq ?_
   refine sx_region ?_
   refine sx_run 16 [(4, .v (.string ⟨#[]⟩)),(5, .v (.bool false)),(6, .p 6 0),(8, .p 8 0),(38, .v (.bool true))] [(8,80,[.v (.bool s11), .v (.slice A11 l11 c11), .v (.bool t11), .v (.slice B11 m11 d11)]),(6,80,[.v (.bool s10), .v (.slice A10 l10 c10), .v (.bool t10), .v (.slice B10 m10 d10)])] (by kernel_rfl) (by kernel_rfl) ?_
   refine sx_end (by kernel_rfl) ?_
   refine sx_next ?_
   refine sx_cond_t (by kernel_rfl) ?_
   refine sx_seq ?_
   refine sx_region ?_
   refine sx_run 2 [(4, .v (.string ⟨#[]⟩)),(5, .v (.bool false)),(6, .p 6 0),(8, .p 8 0)] [(8,80,[.v (.bool s11), .v (.slice A11 l11 c11), .v (.bool t11), .v (.slice B11 m11 d11)]),(6,80,[.v (.bool s10), .v (.slice A10 l10 c10), .v (.bool t10), .v (.slice B10 m10 d10)])] (by kernel_rfl) (by kernel_rfl) ?_
   refine sx_end (by kernel_rfl) ?_
   refine sx_next ?_
   refine sx_ret ?_
   refine sx_then_ret ?_
   refine sx_done (v := .tuple #[.string ⟨#[]⟩, .bool false]) (by kernel_rfl) (fun w' hE hΦ => ?_)
   exact ⟨_,_,rfl,RcIs.none1 hr1,hE⟩
  ·refine sx_call 60 [.string s2] 20 (fun x : ShQ => .tuple #[shRat x, .bool true]) _ (by kernel_rfl) (by kernel_rfl) (fun w hE hΦ => (Read_any s2 _ hΦ.1 (ReadOk.of_len (by rw [bytes_length]; omega))).mono (fun _ _ h => post_Read_some h hr2)) (fun xx => ?_)
   obtain ⟨s12,A12,l12,c12,t12,B12,m12,d12⟩ := xx
   refine sx_run 6 [(4, .v (.string ⟨#[]⟩)),(5, .v (.bool false)),(6, .p 6 0),(7, .v (.bool false)),(8, .p 8 0),(9, .v (.bool true))] [(8,80,[.v (.bool s12), .v (.slice A12 l12 c12), .v (.bool t12), .v (.slice B12 m12 d12)]),(6,80,[.v (.bool s10), .v (.slice A10 l10 c10), .v (.bool t10), .v (.slice B10 m10 d10)])] (by kernel_rfl) (by kernel_rfl) ?_
   refine sx_end (by kernel_rfl) ?_
   refine sx_next ?_
   refine sx_seq ?_
   refine sx_seq ?_
   refine sx_region ?_
   refine sx_run 16 [(4, .v (.string ⟨#[]⟩)),(5, .v (.bool false)),(6, .p 6 0),(8, .p 8 0),(38, .v (.bool true))] [(8,80,[.v (.bool s12), .v (.slice A12 l12 c12), .v (.bool t12), .v (.slice B12 m12 d12)]),(6,80,[.v (.bool s10), .v (.slice A10 l10 c10), .v (.bool t10), .v (.slice B10 m10 d10)])] (by kernel_rfl) (by kernel_rfl) ?_
   refine sx_end (by kernel_rfl) ?_
   refine sx_next ?_
   refine sx_cond_t (by kernel_rfl) ?_
   refine sx_seq ?_
   refine sx_region ?_
   refine sx_run 2 [(4, .v (.string ⟨#[]⟩)),(5, .v (.bool false)),(6, .p 6 0),(8, .p 8 0)] [(8,80,[.v (.bool s12), .v (.slice A12 l12 c12), .v (.bool t12), .v (.slice B12 m12 d12)]),(6,80,[.v (.bool s10), .v (.slice A10 l10 c10), .v (.bool t10), .v (.slice B10 m10 d10)])] (by kernel_rfl) (by kernel_rfl) ?_
   refine sx_end (by kernel_rfl) ?_
   refine sx_next ?_
   refine sx_ret ?_
   refine sx_then_ret ?_
   refine sx_done (v := .tuple #[.string ⟨#[]⟩, .bool false]) (by kernel_rfl) (fun w' hE hΦ => ?_)
   exact ⟨_,_,rfl,RcIs.none1 hr1,hE⟩
 ·refine sx_call 60 [.string s1] 15 (fun x : ShQ => .tuple #[shRat x, .bool true]) _ (by kernel_rfl) (by kernel_rfl) (fun w hE hΦ => (Read_any s1 _ hΦ (ReadOk.of_len (by rw [bytes_length]; omega))).mono (fun _ _ h => post_Read_some h hr1)) (fun xx => ?_)
  obtain ⟨s13,A13,l13,c13,t13,B13,m13,d13⟩ := xx
  refine sx_run 6 [(1, .v (.string s2)),(4, .v (.string ⟨#[]⟩)),(5, .v (.bool false)),(6, .p 6 0),(7, .v (.bool true))] [(6,80,[.v (.bool s13), .v (.slice A13 l13 c13), .v (.bool t13), .v (.slice B13 m13 d13)])] (by kernel_rfl) (by kernel_rfl) ?_
  refine sx_end (by kernel_rfl) ?_
  refine sx_next ?_
  refine sx_seq ?_
  refine sx_region ?_
  refine sx_run 1 [(4, .v (.string ⟨#[]⟩)),(5, .v (.bool false)),(6, .p 6 0),(7, .v (.bool true)),(19, .v (.string s2))] [(6,80,[.v (.bool s13), .v (.slice A13 l13 c13), .v (.bool t13), .v (.slice B13 m13 d13)])] (by kernel_rfl) (by kernel_rfl) ?_
  rcases opt_two (readF (bytes s2)) with hr2 | ⟨q2,hr2⟩
  ·refine sx_call 60 [.string s2] 20 (fun x : ShQ => .tuple #[shRat x, .bool false]) _ (by kernel_rfl) (by kernel_rfl) (fun w hE hΦ => (Read_any s2 _ hΦ.1 (ReadOk.of_len (by rw [bytes_length]; omega))).mono (fun _ _ h => post_Read_none h hr2)) (fun xx => ?_)
   obtain ⟨s14,A14,l14,c14,t14,B14,m14,d14⟩ := xx
   refine sx_run 6 [(4, .v (.string ⟨#[]⟩)),(5, .v (.bool false)),(6, .p 6 0),(7, .v (.bool true)),(8, .p 8 0),(9, .v (.bool false))] [(8,80,[.v (.bool s14), .v (.slice A14 l14 c14), .v (.bool t14), .v (.slice B14 m14 d14)]),(6,80,[.v (.bool s13), .v (.slice A13 l13 c13), .v (.bool t13), .v (.slice B13 m13 d13)])] (by kernel_rfl) (by kernel_rfl) ?_
   refine sx_end (by kernel_rfl) ?_
   refine sx_next ?_
   refine sx_seq ?_
   refine sx_seq ?_
   refine sx_region ?_
   refine sx_run 16 [(4, .v (.string ⟨#[]⟩)),(5, .v (.bool false)),(6, .p 6 0),(8, .p 8 0),(38, .v (.bool true))] [(8,80,[.v (.bool s14), .v (.slice A14 l14 c14), .v (.bool t14), .v (.slice B14 m14 d14)]),(6,80,[.v (.bool s13), .v (.slice A13 l13 c13), .v (.bool t13), .v (.slice B13 m13 d13)])] (by kernel_rfl) (by kernel_rfl) ?_
   refine sx_end (by kernel_rfl) ?_
   refine sx_next ?_
   refine sx_cond_t (by kernel_rfl) ?_
   refine sx_seq ?_
   refine sx_region ?_
   refine sx_run 2 [(4, .v (.string ⟨#[]⟩)),(5, .v (.bool false)),(6, .p 6 0),(8, .p 8 0)] [(8,80,[.v (.bool s14), .v (.slice A14 l14 c14), .v (.bool t14), .v (.slice B14 m14 d14)]),(6,80,[.v (.bool s13), .v (.slice A13 l13 c13), .v (.bool t13), .v (.slice B13 m13 d13)])] (by kernel_rfl) (by kernel_rfl) ?_
   refine sx_end (by kernel_rfl) ?_
   refine sx_next ?_
   refine sx_ret ?_
   refine sx_then_ret ?_
   refine sx_done (v := .tuple #[.string ⟨#[]⟩, .bool false]) (by kernel_rfl) (fun w' hE hΦ => ?_)
   exact ⟨_,_,rfl,RcIs.none2 hr2,hE⟩
  ·refine sx_call 60 [.string s2] 20 (fun x : ShQ => .tuple #[shRat x, .bool true]) _ (by kernel_rfl) (by kernel_rfl) (fun w hE hΦ => (Read_any s2 _ hΦ.1 (ReadOk.of_len (by rw [bytes_length]; omega))).mono (fun _ _ h => post_Read_some h hr2)) (fun xx => ?_)
   obtain ⟨s15,A15,l15,c15,t15,B15,m15,d15⟩ := xx
   refine sx_run 6 [(4, .v (.string ⟨#[]⟩)),(5, .v (.bool false)),(6, .p 6 0),(7, .v (.bool true)),(8, .p 8 0),(9, .v (.bool true))] [(8,80,[.v (.bool s15), .v (.slice A15 l15 c15), .v (.bool t15), .v (.slice B15 m15 d15)]),(6,80,[.v (.bool s13), .v (.slice A13 l13 c13), .v (.bool t13), .v (.slice B13 m13 d13)])] (by kernel_rfl) (by kernel_rfl) ?_
   refine sx_end (by kernel_rfl) ?_
   refine sx_next ?_
   refine sx_seq ?_
   refine sx_seq ?_
   refine sx_region ?_
   refine sx_run 8 [(4, .v (.string ⟨#[]⟩)),(5, .v (.bool false)),(6, .p 6 0),(8, .p 8 0),(29, .v (.bool false)),(30, .v (.agg #[.bool s13, .slice A13 l13 c13, .bool t13, .slice B13 m13 d13]))] [(8,80,[.v (.bool s15), .v (.slice A15 l15 c15), .v (.bool t15), .v (.slice B15 m15 d15)]),(6,80,[.v (.bool s13), .v (.slice A13 l13 c13), .v (.bool t13), .v (.slice B13 m13 d13)])] (by kernel_rfl) (by kernel_rfl) ?_
   by_cases hd1 : (q1).den = 1
   ·refine sx_call 61 [.agg #[.bool s13, .slice A13 l13 c13, .bool t13, .slice B13 m13 d13]] 31 (fun _ : Unit => .bool true) _ (by kernel_rfl) (by kernel_rfl) (fun w hE hΦ => (IsWhole_any _ (q1) _ hΦ.1.2).mono (fun _ _ h => post_val h (by rw [decide_eq_true hd1]))) (fun xx => ?_)
    refine sx_run 4 [(4, .v (.string ⟨#[]⟩)),(5, .v (.bool false)),(6, .p 6 0),(8, .p 8 0),(34, .v (.bool false)),(35, .v (.agg #[.bool s15, .slice A15 l15 c15, .bool t15, .slice B15 m15 d15]))] [(8,80,[.v (.bool s15), .v (.slice A15 l15 c15), .v (.bool t15), .v (.slice B15 m15 d15)]),(6,80,[.v (.bool s13), .v (.slice A13 l13 c13), .v (.bool t13), .v (.slice B13 m13 d13)])] (by kernel_rfl) (by kernel_rfl) ?_
    by_cases hd2 : (q2).den = 1
    ·refine sx_call 61 [.agg #[.bool s15, .slice A15 l15 c15, .bool t15, .slice B15 m15 d15]] 36 (fun _ : Unit => .bool true) _ (by kernel_rfl) (by kernel_rfl) (fun w hE hΦ => (IsWhole_any _ (q2) _ hΦ.1.2).mono (fun _ _ h => post_val h (by rw [decide_eq_true hd2]))) (fun xx => ?_)
     refine sx_run 2 [(4, .v (.string ⟨#[]⟩)),(5, .v (.bool false)),(6, .p 6 0),(8, .p 8 0),(38, .v (.bool false))] [(8,80,[.v (.bool s15), .v (.slice A15 l15 c15), .v (.bool t15), .v (.slice B15 m15 d15)]),(6,80,[.v (.bool s13), .v (.slice A13 l13 c13), .v (.bool t13), .v (.slice B13 m13 d13)])] (by kernel_rfl) (by kernel_rfl) ?_
     refine sx_end (by kernel_rfl) ?_
     refine sx_next ?_
     refine sx_cond_f (by kernel_rfl) ?_
     refine sx_skip ?_
     refine sx_next ?_
     refine sx_seq ?_
     have HV := dec_fit hr1 (by rw [bytes_length]; omega)
     have HW := dec_fit hr2 (by rw [bytes_length]; omega)
     refine sx_region ?_
     refine sx_run 1 [(4, .v (.string ⟨#[]⟩)),(5, .v (.bool false)),(6, .p 6 0),(39, .v (.agg #[.bool s15, .slice A15 l15 c15, .bool t15, .slice B15 m15 d15]))] [(6,80,[.v (.bool s13), .v (.slice A13 l13 c13), .v (.bool t13), .v (.slice B13 m13 d13)])] (by kernel_rfl) (by kernel_rfl) ?_
     refine sx_call 62 [.agg #[.bool s15, .slice A15 l15 c15, .bool t15, .slice B15 m15 d15]] 40 shInt _ (by kernel_rfl) (by kernel_rfl) (fun w hE hΦ => (Num_any _ (q2) _ hΦ.1.1.2).mono (fun _ _ h => post_Int h)) (fun xx => ?_)
     obtain ⟨s16,A16,l16,c16⟩ := xx
     refine sx_run 2 [(4, .v (.string ⟨#[]⟩)),(5, .v (.bool false)),(6, .p 6 0),(10, .p 10 0)] [(10,67,[.v (.bool s16), .v (.slice A16 l16 c16)]),(6,80,[.v (.bool s13), .v (.slice A13 l13 c13), .v (.bool t13), .v (.slice B13 m13 d13)])] (by kernel_rfl) (by kernel_rfl) ?_
     refine sx_end (by kernel_rfl) ?_
     refine sx_next ?_
     refine sx_seq ?_
     refine sx_seq ?_
     refine sx_draw 4 (by kernel_rfl) (by kernel_rfl) follows_mixed' ?_
     refine st_flt 1 [(4, .v (.string ⟨#[]⟩)),(5, .v (.bool false)),(6, .p 6 0),(10, .p 10 0),(41, .v (.agg #[.bool s16, .slice A16 l16 c16]))] [(10,67,[.v (.bool s16), .v (.slice A16 l16 c16)]),(6,80,[.v (.bool s13), .v (.slice A13 l13 c13), .v (.bool t13), .v (.slice B13 m13 d13)])] (by kernel_rfl) (by kernel_rfl) ?_
     refine st_call 48 [.int .i64 2] 42 shInt _ (by kernel_rfl) (by kernel_rfl) (by kernel_rfl) (fun w hE hΦ => (New_pos 2 _ (by rw [W64_eq]; omega) (by decide) (by decide)).mono (fun _ _ h => post_Int h)) (fun xx => ?_)
     obtain ⟨s17,A17,l17,c17⟩ := xx
     refine st_flt 0 [(4, .v (.string ⟨#[]⟩)),(5, .v (.bool false)),(6, .p 6 0),(10, .p 10 0),(41, .v (.agg #[.bool s16, .slice A16 l16 c16])),(42, .v (.agg #[.bool s17, .slice A17 l17 c17]))] [(10,67,[.v (.bool s16), .v (.slice A16 l16 c16)]),(6,80,[.v (.bool s13), .v (.slice A13 l13 c13), .v (.bool t13), .v (.slice B13 m13 d13)])] (by kernel_rfl) (by kernel_rfl) ?_
     refine st_call 63 [.agg #[.bool s16, .slice A16 l16 c16], .agg #[.bool s17, .slice A17 l17 c17]] 43 (fun _ : Unit => .int .i64 (cmpI ((q2).num) (2))) _ (by kernel_rfl) (by kernel_rfl) (by kernel_rfl) (fun w hE hΦ => (Compare_any _ _ ((q2).num) (2) _ hΦ.1.2 hΦ.2 (fit2 HW.1) (fit2 (z := 2) (by decide))).mono (fun _ _ h => post_val h rfl)) (fun xx => ?_)
     refine st_flt 1 [(4, .v (.string ⟨#[]⟩)),(5, .v (.bool false)),(6, .p 6 0),(10, .p 10 0),(44, .v (.bool (decide ((cmpI ((q2).num) (2)) < 0))))] [(10,67,[.v (.bool s16), .v (.slice A16 l16 c16)]),(6,80,[.v (.bool s13), .v (.slice A13 l13 c13), .v (.bool t13), .v (.slice B13 m13 d13)])] (by kernel_rfl) (by kernel_rfl) ?_
     refine st_end (by kernel_rfl) ?_
     refine sx_end (by kernel_rfl) ?_
     refine sx_next ?_
     refine sx_cond ((decide ((cmpI ((q2).num) (2)) < 0))) (by kernel_rfl) (fun hb18 => ?_) (fun hb18 => ?_)
     ·have hm : q2.num < 2 := (cmpI_negI _ _).1 (of_decide_eq_true hb18)
      refine sx_seq ?_
      refine sx_region ?_
      refine sx_run 2 [(4, .v (.string ⟨#[]⟩)),(5, .v (.bool false)),(6, .p 6 0),(10, .p 10 0)] [(10,67,[.v (.bool s16), .v (.slice A16 l16 c16)]),(6,80,[.v (.bool s13), .v (.slice A13 l13 c13), .v (.bool t13), .v (.slice B13 m13 d13)])] (by kernel_rfl) (by kernel_rfl) ?_
      refine sx_end (by kernel_rfl) ?_
      refine sx_next ?_
      refine sx_ret ?_
      refine sx_then_ret ?_
      refine sx_done (v := .tuple #[.string ⟨#[]⟩, .bool false]) (by kernel_rfl) (fun w' hE hΦ => ?_)
      exact ⟨_,_,rfl,RcIs.low hr2 hm,hE⟩
     ·have hm : ¬ q2.num < 2 := fun h => of_decide_eq_false hb18 ((cmpI_negI _ _).2 h)
      refine sx_skip ?_
      refine sx_next ?_
      refine sx_seq ?_
      refine sx_draw 10 (by kernel_rfl) (by kernel_rfl) follows_mixed' ?_
      refine st_flt 1 [(4, .v (.string ⟨#[]⟩)),(5, .v (.bool false)),(10, .p 10 0),(46, .v (.agg #[.bool s13, .slice A13 l13 c13, .bool t13, .slice B13 m13 d13]))] [(10,67,[.v (.bool s16), .v (.slice A16 l16 c16)]),(6,80,[.v (.bool s13), .v (.slice A13 l13 c13), .v (.bool t13), .v (.slice B13 m13 d13)])] (by kernel_rfl) (by kernel_rfl) ?_
      refine st_call 62 [.agg #[.bool s13, .slice A13 l13 c13, .bool t13, .slice B13 m13 d13]] 47 shInt _ (by kernel_rfl) (by kernel_rfl) (by kernel_rfl) (fun w hE hΦ => (Num_any _ (q1) _ hΦ.1.1.1.1.1.1.2).mono (fun _ _ h => post_Int h)) (fun xx => ?_)
      obtain ⟨s19,A19,l19,c19⟩ := xx
      refine st_flt 1 [(4, .v (.string ⟨#[]⟩)),(5, .v (.bool false)),(47, .v (.agg #[.bool s19, .slice A19 l19 c19])),(48, .v (.agg #[.bool s16, .slice A16 l16 c16]))] [(10,67,[.v (.bool s16), .v (.slice A16 l16 c16)]),(6,80,[.v (.bool s13), .v (.slice A13 l13 c13), .v (.bool t13), .v (.slice B13 m13 d13)])] (by kernel_rfl) (by kernel_rfl) ?_
      refine st_call 64 [.agg #[.bool s19, .slice A19 l19 c19], .agg #[.bool s16, .slice A16 l16 c16]] 49 (fun x : ShQ × Rat × Bool => .tuple #[shRat x.1, .bool x.2.2]) _ (by kernel_rfl) (by kernel_rfl) (by kernel_rfl) (fun w hE hΦ => (ReconstructRatio_any _ _ ((q1).num) ((q2).num) _ hΦ.1.1.1.1.1.1.1.1 hΦ.2 hΦ.1.1.1.2 (fit2 HV.1) HW.1 (by omega) (GcdAll.words HW.1)).mono (fun _ _ h => post_Rec h)) (fun xx => ?_)
      obtain ⟨⟨s20,A20,l20,c20,t20,B20,m20,d20⟩,y21,ok21⟩ := xx
      rcases ok21 with _ | _
      ·refine st_flt 6 [(4, .v (.string ⟨#[]⟩)),(5, .v (.bool false)),(11, .p 11 0),(12, .v (.bool false))] [(11,80,[.v (.bool s20), .v (.slice A20 l20 c20), .v (.bool t20), .v (.slice B20 m20 d20)]),(11,80,[.v (.bool false), .v (.slice none 0 0), .v (.bool false), .v (.slice none 0 0)]),(10,67,[.v (.bool s16), .v (.slice A16 l16 c16)]),(6,80,[.v (.bool s13), .v (.slice A13 l13 c13), .v (.bool t13), .v (.slice B13 m13 d13)])] (by kernel_rfl) (by kernel_rfl) ?_
       refine st_end (by kernel_rfl) ?_
       refine sx_end (by kernel_rfl) ?_
       refine sx_next ?_
       refine sx_seq ?_
       refine sx_seq ?_
       refine sx_region ?_
       refine sx_run 2 [(4, .v (.string ⟨#[]⟩)),(5, .v (.bool false)),(11, .p 11 0),(53, .v (.bool true))] [(11,80,[.v (.bool s20), .v (.slice A20 l20 c20), .v (.bool t20), .v (.slice B20 m20 d20)])] (by kernel_rfl) (by kernel_rfl) ?_
       refine sx_end (by kernel_rfl) ?_
       refine sx_next ?_
       refine sx_cond_t (by kernel_rfl) ?_
       refine sx_seq ?_
       refine SXc.know (p := RecIs q1.num q2.num y21 false) (fun w _ hΦ => hΦ.2.2) (fun HK => ?_)
       refine sx_region ?_
       refine sx_run 2 [(4, .v (.string ⟨#[]⟩)),(5, .v (.bool false)),(11, .p 11 0)] [(11,80,[.v (.bool s20), .v (.slice A20 l20 c20), .v (.bool t20), .v (.slice B20 m20 d20)])] (by kernel_rfl) (by kernel_rfl) ?_
       refine sx_end (by kernel_rfl) ?_
       refine sx_next ?_
       refine sx_ret ?_
       refine sx_then_ret ?_
       refine sx_done (v := .tuple #[.string ⟨#[]⟩, .bool false]) (by kernel_rfl) (fun w' hE hΦ => ?_)
       exact ⟨_,_,rfl,RcIs.not hr1 hr2 HK.ok,hE⟩
      ·refine st_flt 6 [(4, .v (.string ⟨#[]⟩)),(5, .v (.bool false)),(11, .p 11 0),(12, .v (.bool true))] [(11,80,[.v (.bool s20), .v (.slice A20 l20 c20), .v (.bool t20), .v (.slice B20 m20 d20)]),(11,80,[.v (.bool false), .v (.slice none 0 0), .v (.bool false), .v (.slice none 0 0)]),(10,67,[.v (.bool s16), .v (.slice A16 l16 c16)]),(6,80,[.v (.bool s13), .v (.slice A13 l13 c13), .v (.bool t13), .v (.slice B13 m13 d13)])] (by kernel_rfl) (by kernel_rfl) ?_
       refine st_end (by kernel_rfl) ?_
       refine sx_end (by kernel_rfl) ?_
       refine sx_next ?_
       refine sx_seq ?_
       refine sx_seq ?_
       refine sx_region ?_
       refine sx_run 2 [(4, .v (.string ⟨#[]⟩)),(5, .v (.bool false)),(11, .p 11 0),(53, .v (.bool false))] [(11,80,[.v (.bool s20), .v (.slice A20 l20 c20), .v (.bool t20), .v (.slice B20 m20 d20)])] (by kernel_rfl) (by kernel_rfl) ?_
       refine sx_end (by kernel_rfl) ?_
       refine sx_next ?_
       refine sx_cond_f (by kernel_rfl) ?_
       refine sx_skip ?_
       refine sx_next ?_
       refine sx_seq ?_
       refine SXc.know (p := RecIs q1.num q2.num y21 true) (fun w _ hΦ => hΦ.2.2) (fun HK => ?_)
       have HP : PrtOk (y21).num.natAbs ∧ PrtOk (y21).den := prt_of HK (by omega) HW.1
       refine sx_region ?_
       refine sx_run 1 [(4, .v (.string ⟨#[]⟩)),(5, .v (.bool false)),(54, .v (.agg #[.bool s20, .slice A20 l20 c20, .bool t20, .slice B20 m20 d20]))] [] (by kernel_rfl) (by kernel_rfl) ?_
       refine sx_call 65 [.agg #[.bool s20, .slice A20 l20 c20, .bool t20, .slice B20 m20 d20]] 55 (fun _ : Unit => .string ⟨(ratText (y21)).toArray⟩) _ (by kernel_rfl) (by kernel_rfl) (fun w hE hΦ => (RString_any _ (y21) _ hΦ.1.1.1.1.1.1.1.1.1 hΦ.2.1 HP.1 HP.2).mono (fun _ _ h => post_val h rfl)) (fun xx => ?_)
       refine sx_run 2 [(4, .v (.string ⟨(ratText (y21)).toArray⟩)),(5, .v (.bool true))] [] (by kernel_rfl) (by kernel_rfl) ?_
       refine sx_end (by kernel_rfl) ?_
       refine sx_next ?_
       refine sx_ret ?_
       refine sx_done (v := .tuple #[.string ⟨(ratText (y21)).toArray⟩, .bool true]) (by kernel_rfl) (fun w' hE hΦ => ?_)
       exact ⟨_,_,rfl,RcIs.got hr1 hr2 hd1 hd2 hm HK,hE⟩
    ·refine sx_call 61 [.agg #[.bool s15, .slice A15 l15 c15, .bool t15, .slice B15 m15 d15]] 36 (fun _ : Unit => .bool false) _ (by kernel_rfl) (by kernel_rfl) (fun w hE hΦ => (IsWhole_any _ (q2) _ hΦ.1.2).mono (fun _ _ h => post_val h (by rw [decide_eq_false hd2]))) (fun xx => ?_)
     refine sx_run 2 [(4, .v (.string ⟨#[]⟩)),(5, .v (.bool false)),(6, .p 6 0),(8, .p 8 0),(38, .v (.bool true))] [(8,80,[.v (.bool s15), .v (.slice A15 l15 c15), .v (.bool t15), .v (.slice B15 m15 d15)]),(6,80,[.v (.bool s13), .v (.slice A13 l13 c13), .v (.bool t13), .v (.slice B13 m13 d13)])] (by kernel_rfl) (by kernel_rfl) ?_
     refine sx_end (by kernel_rfl) ?_
     refine sx_next ?_
     refine sx_cond_t (by kernel_rfl) ?_
     refine sx_seq ?_
     refine sx_region ?_
     refine sx_run 2 [(4, .v (.string ⟨#[]⟩)),(5, .v (.bool false)),(6, .p 6 0),(8, .p 8 0)] [(8,80,[.v (.bool s15), .v (.slice A15 l15 c15), .v (.bool t15), .v (.slice B15 m15 d15)]),(6,80,[.v (.bool s13), .v (.slice A13 l13 c13), .v (.bool t13), .v (.slice B13 m13 d13)])] (by kernel_rfl) (by kernel_rfl) ?_
     refine sx_end (by kernel_rfl) ?_
     refine sx_next ?_
     refine sx_ret ?_
     refine sx_then_ret ?_
     refine sx_done (v := .tuple #[.string ⟨#[]⟩, .bool false]) (by kernel_rfl) (fun w' hE hΦ => ?_)
     exact ⟨_,_,rfl,RcIs.frac2 hr2 hd2,hE⟩
   ·refine sx_call 61 [.agg #[.bool s13, .slice A13 l13 c13, .bool t13, .slice B13 m13 d13]] 31 (fun _ : Unit => .bool false) _ (by kernel_rfl) (by kernel_rfl) (fun w hE hΦ => (IsWhole_any _ (q1) _ hΦ.1.2).mono (fun _ _ h => post_val h (by rw [decide_eq_false hd1]))) (fun xx => ?_)
    refine sx_run 7 [(4, .v (.string ⟨#[]⟩)),(5, .v (.bool false)),(6, .p 6 0),(8, .p 8 0),(38, .v (.bool true))] [(8,80,[.v (.bool s15), .v (.slice A15 l15 c15), .v (.bool t15), .v (.slice B15 m15 d15)]),(6,80,[.v (.bool s13), .v (.slice A13 l13 c13), .v (.bool t13), .v (.slice B13 m13 d13)])] (by kernel_rfl) (by kernel_rfl) ?_
    refine sx_end (by kernel_rfl) ?_
    refine sx_next ?_
    refine sx_cond_t (by kernel_rfl) ?_
    refine sx_seq ?_
    refine sx_region ?_
    refine sx_run 2 [(4, .v (.string ⟨#[]⟩)),(5, .v (.bool false)),(6, .p 6 0),(8, .p 8 0)] [(8,80,[.v (.bool s15), .v (.slice A15 l15 c15), .v (.bool t15), .v (.slice B15 m15 d15)]),(6,80,[.v (.bool s13), .v (.slice A13 l13 c13), .v (.bool t13), .v (.slice B13 m13 d13)])] (by kernel_rfl) (by kernel_rfl) ?_
    refine sx_end (by kernel_rfl) ?_
    refine sx_next ?_
    refine sx_ret ?_
    refine sx_then_ret ?_
    refine sx_done (v := .tuple #[.string ⟨#[]⟩, .bool false]) (by kernel_rfl) (fun w' hE hΦ => ?_)
    exact ⟨_,_,rfl,RcIs.frac1 hr1 hd1,hE⟩
set_option maxRecDepth 100000 in
theorem NTwice_any (a : Value) (x : Int) (w : World) (ha : NumIs w a x) (hx : ml x.natAbs ≤ 200) :
 Calls Tryz.prog 70 #[a] w (RetNum w (x * x * 2)) := by
 obtain ⟨s0,A0,l0,c0,rfl⟩ := ha.shp
 refine sx_enter (Φ := fun w => NumIs w (.agg #[.bool s0, .slice A0 l0 c0]) (x)) Tryz.func70 rfl (by kernel_rfl) (fun w' hf => ha.ext hf) ?_
 refine sx_seq ?_
 refine sx_region ?_
 refine sx_run 2 [(1, .p 1 0),(2, .p 2 0)] [(2,53,[.v (.bool false), .v (.slice none 0 0)]),(1,53,[.v (.bool s0), .v (.slice A0 l0 c0)])] (by kernel_rfl) (by kernel_rfl) ?_
 refine sx_end (by kernel_rfl) ?_
 refine sx_next ?_
 refine sx_seq ?_
 refine sx_region ?_
 refine sx_run 2 [(2, .p 2 0),(3, .v (.agg #[.bool s0, .slice A0 l0 c0])),(4, .v (.agg #[.bool s0, .slice A0 l0 c0]))] [(2,53,[.v (.bool false), .v (.slice none 0 0)])] (by kernel_rfl) (by kernel_rfl) ?_
 refine sx_call 59 [.agg #[.bool s0, .slice A0 l0 c0], .agg #[.bool s0, .slice A0 l0 c0]] 5 shInt _ (by kernel_rfl) (by kernel_rfl) (fun w hE hΦ => (NMul_any _ _ (x) (x) _ hΦ hΦ (nfit hx (by decide)) (nfit hx (by decide))).mono (fun _ _ h => post_Num h)) (fun xx => ?_)
 obtain ⟨s10,A10,l10,c10⟩ := xx
 refine sx_run 0 [(2, .p 2 0),(5, .v (.agg #[.bool s10, .slice A10 l10 c10]))] [(2,53,[.v (.bool false), .v (.slice none 0 0)])] (by kernel_rfl) (by kernel_rfl) ?_
 refine sx_call 128 [.agg #[.bool s10, .slice A10 l10 c10], .int .i64 1] 6 shInt _ (by kernel_rfl) (by kernel_rfl) (fun w hE hΦ => (NShift_up _ ((x) * (x)) 1 _ hΦ.2 (nfit (mlm hx hx) (by decide)) (by decide)).mono (fun _ _ h => post_Num (by rw [(show ((x) * (x)) * (2 : Int) ^ 1 = x * x * 2 by simp)] at h; exact h))) (fun xx => ?_)
 obtain ⟨s11,A11,l11,c11⟩ := xx
 refine sx_run 1 [(2, .p 2 0)] [(2,53,[.v (.bool s11), .v (.slice A11 l11 c11)])] (by kernel_rfl) (by kernel_rfl) ?_
 refine sx_end (by kernel_rfl) ?_
 refine sx_next ?_
 refine sx_ret ?_
 refine sx_done (v := .agg #[.bool s11, .slice A11 l11 c11]) (by kernel_rfl) (fun w' hE hΦ => ?_)
 exact ⟨_,rfl,hΦ.2,hE⟩
set_option maxRecDepth 100000 in
theorem RReconstruct_any (s1 s2 : ByteArray) (w : World) (h1 : s1.size ≤ 200) (h2 : s2.size ≤ 200) :
 Calls Tryz.prog 18 #[.string s1, .string s2] w (RetRc w (bytes s1) (bytes s2)) := by
 refine sx_enter (Φ := fun w => True) Tryz.func18 rfl (by kernel_rfl) (fun w' hf => trivial) ?_
 refine sx_seq ?_
 refine sx_region ?_
 refine sx_run 2 [(0, .v (.string s1)),(1, .v (.string s2)),(4, .v (.string ⟨#[]⟩)),(5, .v (.bool false))] [] (by kernel_rfl) (by kernel_rfl) ?_
 refine sx_end (by kernel_rfl) ?_
 refine sx_next ?_
 refine sx_seq ?_
 refine sx_region ?_
 refine sx_run 1 [(1, .v (.string s2)),(4, .v (.string ⟨#[]⟩)),(5, .v (.bool false)),(19, .v (.string s1))] [] (by kernel_rfl) (by kernel_rfl) ?_
 rcases opt_two (readF (bytes s1)) with hr1 | ⟨q1,hr1⟩
 ·refine sx_call 66 [.string s1] 20 (fun x : ShQ => .tuple #[shRat x, .bool false]) _ (by kernel_rfl) (by kernel_rfl) (fun w hE hΦ => (NRead_any s1 _ (by omega)).mono (fun _ _ h => post_NRead_none h hr1)) (fun xx => ?_)
  obtain ⟨s10,A10,l10,c10,t10,B10,m10,d10⟩ := xx
  refine sx_run 6 [(1, .v (.string s2)),(4, .v (.string ⟨#[]⟩)),(5, .v (.bool false)),(6, .p 6 0),(7, .v (.bool false))] [(6,55,[.v (.bool s10), .v (.slice A10 l10 c10), .v (.bool t10), .v (.slice B10 m10 d10)])] (by kernel_rfl) (by kernel_rfl) ?_
  refine sx_end (by kernel_rfl) ?_
  refine sx_next ?_
  refine sx_seq ?_
  refine sx_region ?_
  refine sx_run 1 [(4, .v (.string ⟨#[]⟩)),(5, .v (.bool false)),(6, .p 6 0),(7, .v (.bool false)),(24, .v (.string s2))] [(6,55,[.v (.bool s10), .v (.slice A10 l10 c10), .v (.bool t10), .v (.slice B10 m10 d10)])] (by kernel_rfl) (by kernel_rfl) ?_
  rcases opt_two (readF (bytes s2)) with hr2 | ⟨q2,hr2⟩
  ·refine sx_call 66 [.string s2] 25 (fun x : ShQ => .tuple #[shRat x, .bool false]) _ (by kernel_rfl) (by kernel_rfl) (fun w hE hΦ => (NRead_any s2 _ (by omega)).mono (fun _ _ h => post_NRead_none h hr2)) (fun xx => ?_)
   obtain ⟨s11,A11,l11,c11,t11,B11,m11,d11⟩ := xx
   refine sx_run 6 [(4, .v (.string ⟨#[]⟩)),(5, .v (.bool false)),(6, .p 6 0),(7, .v (.bool false)),(8, .p 8 0),(9, .v (.bool false))] [(8,55,[.v (.bool s11), .v (.slice A11 l11 c11), .v (.bool t11), .v (.slice B11 m11 d11)]),(6,55,[.v (.bool s10), .v (.slice A10 l10 c10), .v (.bool t10), .v (.slice B10 m10 d10)])] (by kernel_rfl) (by kernel_rfl) ?_
   refine sx_end (by kernel_rfl) ?_
   refine sx_next ?_
   refine sx_seq ?_
   refine sx_seq ?_
   refine sx_draw 27 (by kernel_rfl) (by kernel_rfl) follows_mixed' ?_
   refine st_flt 27 [(4, .v (.string ⟨#[]⟩)),(5, .v (.bool false)),(6, .p 6 0),(8, .p 8 0),(54, .v (.bool true))] [(8,55,[.v (.bool s11), .v (.slice A11 l11 c11), .v (.bool t11), .v (.slice B11 m11 d11)]),(6,55,[.v (.bool s10), .v (.slice A10 l10 c10), .v (.bool t10), .v (.slice B10 m10 d10)])] (by kernel_rfl) (by kernel_rfl) ?_
   refine st_end (by kernel_rfl) ?_
   refine sx_end (by kernel_rfl) ?_
   refine sx_next ?_
   refine sx_cond_t (by kernel_rfl) ?_
   refine sx_seq ?_
   refine sx_region ?_
   refine sx_run 2 [(4, .v (.string ⟨#[]⟩)),(5, .v (.bool false)),(6, .p 6 0),(8, .p 8 0)] [(8,55,[.v (.bool s11), .v (.slice A11 l11 c11), .v (.bool t11), .v (.slice B11 m11 d11)]),(6,55,[.v (.bool s10), .v (.slice A10 l10 c10), .v (.bool t10), .v (.slice B10 m10 d10)])] (by kernel_rfl) (by kernel_rfl) ?_
   refine sx_end (by kernel_rfl) ?_
   refine sx_next ?_
   refine sx_ret ?_
   refine sx_then_ret ?_
   refine sx_done (v := .tuple #[.string ⟨#[]⟩, .bool false]) (by kernel_rfl) (fun w' hE hΦ => ?_)
   exact ⟨_,_,rfl,RcIs.none1 hr1,hE⟩
  ·refine sx_call 66 [.string s2] 25 (fun x : ShQ => .tuple #[shRat x, .bool true]) _ (by kernel_rfl) (by kernel_rfl) (fun w hE hΦ => (NRead_any s2 _ (by omega)).mono (fun _ _ h => post_NRead_some h hr2)) (fun xx => ?_)
   obtain ⟨s12,A12,l12,c12,t12,B12,m12,d12⟩ := xx
   refine sx_run 6 [(4, .v (.string ⟨#[]⟩)),(5, .v (.bool false)),(6, .p 6 0),(7, .v (.bool false)),(8, .p 8 0),(9, .v (.bool true))] [(8,55,[.v (.bool s12), .v (.slice A12 l12 c12), .v (.bool t12), .v (.slice B12 m12 d12)]),(6,55,[.v (.bool s10), .v (.slice A10 l10 c10), .v (.bool t10), .v (.slice B10 m10 d10)])] (by kernel_rfl) (by kernel_rfl) ?_
   refine sx_end (by kernel_rfl) ?_
   refine sx_next ?_
   refine sx_seq ?_
   refine sx_seq ?_
   refine sx_draw 27 (by kernel_rfl) (by kernel_rfl) follows_mixed' ?_
   refine st_flt 27 [(4, .v (.string ⟨#[]⟩)),(5, .v (.bool false)),(6, .p 6 0),(8, .p 8 0),(54, .v (.bool true))] [(8,55,[.v (.bool s12), .v (.slice A12 l12 c12), .v (.bool t12), .v (.slice B12 m12 d12)]),(6,55,[.v (.bool s10), .v (.slice A10 l10 c10), .v (.bool t10), .v (.slice B10 m10 d10)])] (by kernel_rfl) (by kernel_rfl) ?_
   refine st_end (by kernel_rfl) ?_
   refine sx_end (by kernel_rfl) ?_
   refine sx_next ?_
   refine sx_cond_t (by kernel_rfl) ?_
   refine sx_seq ?_
   refine sx_region ?_
   refine sx_run 2 [(4, .v (.string ⟨#[]⟩)),(5, .v (.bool false)),(6, .p 6 0),(8, .p 8 0)] [(8,55,[.v (.bool s12), .v (.slice A12 l12 c12), .v (.bool t12), .v (.slice B12 m12 d12)]),(6,55,[.v (.bool s10), .v (.slice A10 l10 c10), .v (.bool t10), .v (.slice B10 m10 d10)])] (by kernel_rfl) (by kernel_rfl) ?_
   refine sx_end (by kernel_rfl) ?_
   refine sx_next ?_
   refine sx_ret ?_
   refine sx_then_ret ?_
   refine sx_done (v := .tuple #[.string ⟨#[]⟩, .bool false]) (by kernel_rfl) (fun w' hE hΦ => ?_)
   exact ⟨_,_,rfl,RcIs.none1 hr1,hE⟩
 ·refine sx_call 66 [.string s1] 20 (fun x : ShQ => .tuple #[shRat x, .bool true]) _ (by kernel_rfl) (by kernel_rfl) (fun w hE hΦ => (NRead_any s1 _ (by omega)).mono (fun _ _ h => post_NRead_some h hr1)) (fun xx => ?_)
  obtain ⟨s13,A13,l13,c13,t13,B13,m13,d13⟩ := xx
  refine sx_run 6 [(1, .v (.string s2)),(4, .v (.string ⟨#[]⟩)),(5, .v (.bool false)),(6, .p 6 0),(7, .v (.bool true))] [(6,55,[.v (.bool s13), .v (.slice A13 l13 c13), .v (.bool t13), .v (.slice B13 m13 d13)])] (by kernel_rfl) (by kernel_rfl) ?_
  refine sx_end (by kernel_rfl) ?_
  refine sx_next ?_
  refine sx_seq ?_
  refine sx_region ?_
  refine sx_run 1 [(4, .v (.string ⟨#[]⟩)),(5, .v (.bool false)),(6, .p 6 0),(7, .v (.bool true)),(24, .v (.string s2))] [(6,55,[.v (.bool s13), .v (.slice A13 l13 c13), .v (.bool t13), .v (.slice B13 m13 d13)])] (by kernel_rfl) (by kernel_rfl) ?_
  rcases opt_two (readF (bytes s2)) with hr2 | ⟨q2,hr2⟩
  ·refine sx_call 66 [.string s2] 25 (fun x : ShQ => .tuple #[shRat x, .bool false]) _ (by kernel_rfl) (by kernel_rfl) (fun w hE hΦ => (NRead_any s2 _ (by omega)).mono (fun _ _ h => post_NRead_none h hr2)) (fun xx => ?_)
   obtain ⟨s14,A14,l14,c14,t14,B14,m14,d14⟩ := xx
   refine sx_run 6 [(4, .v (.string ⟨#[]⟩)),(5, .v (.bool false)),(6, .p 6 0),(7, .v (.bool true)),(8, .p 8 0),(9, .v (.bool false))] [(8,55,[.v (.bool s14), .v (.slice A14 l14 c14), .v (.bool t14), .v (.slice B14 m14 d14)]),(6,55,[.v (.bool s13), .v (.slice A13 l13 c13), .v (.bool t13), .v (.slice B13 m13 d13)])] (by kernel_rfl) (by kernel_rfl) ?_
   refine sx_end (by kernel_rfl) ?_
   refine sx_next ?_
   refine sx_seq ?_
   refine sx_seq ?_
   refine sx_draw 27 (by kernel_rfl) (by kernel_rfl) follows_mixed' ?_
   refine st_flt 27 [(4, .v (.string ⟨#[]⟩)),(5, .v (.bool false)),(6, .p 6 0),(8, .p 8 0),(54, .v (.bool true))] [(8,55,[.v (.bool s14), .v (.slice A14 l14 c14), .v (.bool t14), .v (.slice B14 m14 d14)]),(6,55,[.v (.bool s13), .v (.slice A13 l13 c13), .v (.bool t13), .v (.slice B13 m13 d13)])] (by kernel_rfl) (by kernel_rfl) ?_
   refine st_end (by kernel_rfl) ?_
   refine sx_end (by kernel_rfl) ?_
   refine sx_next ?_
   refine sx_cond_t (by kernel_rfl) ?_
   refine sx_seq ?_
   refine sx_region ?_
   refine sx_run 2 [(4, .v (.string ⟨#[]⟩)),(5, .v (.bool false)),(6, .p 6 0),(8, .p 8 0)] [(8,55,[.v (.bool s14), .v (.slice A14 l14 c14), .v (.bool t14), .v (.slice B14 m14 d14)]),(6,55,[.v (.bool s13), .v (.slice A13 l13 c13), .v (.bool t13), .v (.slice B13 m13 d13)])] (by kernel_rfl) (by kernel_rfl) ?_
   refine sx_end (by kernel_rfl) ?_
   refine sx_next ?_
   refine sx_ret ?_
   refine sx_then_ret ?_
   refine sx_done (v := .tuple #[.string ⟨#[]⟩, .bool false]) (by kernel_rfl) (fun w' hE hΦ => ?_)
   exact ⟨_,_,rfl,RcIs.none2 hr2,hE⟩
  ·refine sx_call 66 [.string s2] 25 (fun x : ShQ => .tuple #[shRat x, .bool true]) _ (by kernel_rfl) (by kernel_rfl) (fun w hE hΦ => (NRead_any s2 _ (by omega)).mono (fun _ _ h => post_NRead_some h hr2)) (fun xx => ?_)
   obtain ⟨s15,A15,l15,c15,t15,B15,m15,d15⟩ := xx
   refine sx_run 6 [(4, .v (.string ⟨#[]⟩)),(5, .v (.bool false)),(6, .p 6 0),(7, .v (.bool true)),(8, .p 8 0),(9, .v (.bool true))] [(8,55,[.v (.bool s15), .v (.slice A15 l15 c15), .v (.bool t15), .v (.slice B15 m15 d15)]),(6,55,[.v (.bool s13), .v (.slice A13 l13 c13), .v (.bool t13), .v (.slice B13 m13 d13)])] (by kernel_rfl) (by kernel_rfl) ?_
   refine sx_end (by kernel_rfl) ?_
   refine sx_next ?_
   refine sx_seq ?_
   refine sx_seq ?_
   have HV := dec_fit hr1 (by rw [bytes_length]; omega)
   have HW := dec_fit hr2 (by rw [bytes_length]; omega)
   refine SXc.know (p := ((q1.den = 1 → m13 = 0) ∧ (¬ q1.den = 1 → 0 < m13)) ∧ ((q2.den = 1 → m15 = 0) ∧ (¬ q2.den = 1 → 0 < m15))) (fun w _ hΦ => ⟨lenD hΦ.1.2,lenD hΦ.2⟩) (fun HK => ?_)
   by_cases hd1 : q1.den = 1
   ·obtain rfl : m13 = 0 := HK.1.1 hd1
    by_cases hd2 : q2.den = 1
    ·obtain rfl : m15 = 0 := HK.2.1 hd2
     refine sx_draw 27 (by kernel_rfl) (by kernel_rfl) follows_mixed' ?_
     refine st_flt 23 [(4, .v (.string ⟨#[]⟩)),(5, .v (.bool false)),(6, .p 6 0),(8, .p 8 0),(48, .v (.bool false)),(50, .v (.agg #[.bool s15, .slice A15 l15 c15]))] [(8,55,[.v (.bool s15), .v (.slice A15 l15 c15), .v (.bool t15), .v (.slice B15 0 d15)]),(6,55,[.v (.bool s13), .v (.slice A13 l13 c13), .v (.bool t13), .v (.slice B13 0 d13)])] (by kernel_rfl) (by kernel_rfl) ?_
     refine st_call 55 [.int .i64 2] 51 shInt _ (by kernel_rfl) (by kernel_rfl) (by kernel_rfl) (fun w hE hΦ => (NFromInt_any 2 _ (by decide) (by decide)).mono (fun _ _ h => post_Num h)) (fun xx => ?_)
     obtain ⟨s16,A16,l16,c16⟩ := xx
     refine st_flt 0 [(4, .v (.string ⟨#[]⟩)),(5, .v (.bool false)),(6, .p 6 0),(8, .p 8 0),(48, .v (.bool false)),(50, .v (.agg #[.bool s15, .slice A15 l15 c15])),(51, .v (.agg #[.bool s16, .slice A16 l16 c16]))] [(8,55,[.v (.bool s15), .v (.slice A15 l15 c15), .v (.bool t15), .v (.slice B15 0 d15)]),(6,55,[.v (.bool s13), .v (.slice A13 l13 c13), .v (.bool t13), .v (.slice B13 0 d13)])] (by kernel_rfl) (by kernel_rfl) ?_
     refine st_call 67 [.agg #[.bool s15, .slice A15 l15 c15], .agg #[.bool s16, .slice A16 l16 c16]] 52 (fun _ : Unit => .int .i64 (((q2).num) - (2)).sign) _ (by kernel_rfl) (by kernel_rfl) (by kernel_rfl) (fun w hE hΦ => (NCmp_any _ _ ((q2).num) (2) _ hΦ.1.2.num hΦ.2 (nfit HW.2.2.1 (by decide)) (nfit ml2 (by decide))).mono (fun _ _ h => post_val h rfl)) (fun xx => ?_)
     refine st_flt 2 [(4, .v (.string ⟨#[]⟩)),(5, .v (.bool false)),(6, .p 6 0),(8, .p 8 0),(54, .v (.bool (decide ((((q2).num) - (2)).sign < 0))))] [(8,55,[.v (.bool s15), .v (.slice A15 l15 c15), .v (.bool t15), .v (.slice B15 0 d15)]),(6,55,[.v (.bool s13), .v (.slice A13 l13 c13), .v (.bool t13), .v (.slice B13 0 d13)])] (by kernel_rfl) (by kernel_rfl) ?_
     refine st_end (by kernel_rfl) ?_
     refine sx_end (by kernel_rfl) ?_
     refine sx_next ?_
     refine sx_cond ((decide ((((q2).num) - (2)).sign < 0))) (by kernel_rfl) (fun hb17 => ?_) (fun hb17 => ?_)
     ·have hm : q2.num < 2 := by have := (sgn_lt hb17).1 rfl; omega
      refine sx_seq ?_
      refine sx_region ?_
      refine sx_run 2 [(4, .v (.string ⟨#[]⟩)),(5, .v (.bool false)),(6, .p 6 0),(8, .p 8 0)] [(8,55,[.v (.bool s15), .v (.slice A15 l15 c15), .v (.bool t15), .v (.slice B15 0 d15)]),(6,55,[.v (.bool s13), .v (.slice A13 l13 c13), .v (.bool t13), .v (.slice B13 0 d13)])] (by kernel_rfl) (by kernel_rfl) ?_
      refine sx_end (by kernel_rfl) ?_
      refine sx_next ?_
      refine sx_ret ?_
      refine sx_then_ret ?_
      refine sx_done (v := .tuple #[.string ⟨#[]⟩, .bool false]) (by kernel_rfl) (fun w' hE hΦ => ?_)
      exact ⟨_,_,rfl,RcIs.low hr2 hm,hE⟩
     ·have hm : ¬ q2.num < 2 := by have := (sgn_lt hb17).2 rfl; omega
      refine sx_skip ?_
      refine sx_next ?_
      refine sx_seq ?_
      refine sx_region ?_
      refine sx_run 4 [(4, .v (.string ⟨#[]⟩)),(5, .v (.bool false)),(8, .p 8 0),(57, .v (.agg #[.bool s13, .slice A13 l13 c13])),(59, .v (.agg #[.bool s15, .slice A15 l15 c15]))] [(8,55,[.v (.bool s15), .v (.slice A15 l15 c15), .v (.bool t15), .v (.slice B15 0 d15)])] (by kernel_rfl) (by kernel_rfl) ?_
      refine sx_call 68 [.agg #[.bool s13, .slice A13 l13 c13], .agg #[.bool s15, .slice A15 l15 c15]] 60 shInt2 _ (by kernel_rfl) (by kernel_rfl) (fun w hE hΦ => (NQuoRem_any _ _ ((q1).num) ((q2).num) _ hΦ.1.1.1.2.num hΦ.1.1.2.num (nfit HV.2.2.1 (by decide)) (nfit HW.2.2.1 (by decide)) (by omega)).mono (fun _ _ h => post_Num2 h)) (fun xx => ?_)
      obtain ⟨⟨s18,A18,l18,c18⟩,⟨s19,A19,l19,c19⟩⟩ := xx
      refine sx_run 7 [(4, .v (.string ⟨#[]⟩)),(5, .v (.bool false)),(8, .p 8 0),(11, .p 11 0)] [(11,53,[.v (.bool s19), .v (.slice A19 l19 c19)]),(8,55,[.v (.bool s15), .v (.slice A15 l15 c15), .v (.bool t15), .v (.slice B15 0 d15)])] (by kernel_rfl) (by kernel_rfl) ?_
      refine sx_end (by kernel_rfl) ?_
      refine sx_next ?_
      refine sx_cut (fun ss ff => ∃ (xs0 : Bool) (xA0 : Option Addr) (xl0 xc0 : Nat),ss = ofL [(4, .v (.string ⟨#[]⟩)),(5, .v (.bool false)),(8, .p 8 0),(11, .p 11 0)] [(11,53,[.v (.bool xs0), .v (.slice xA0 xl0 xc0)]),(8,55,[.v (.bool s15), .v (.slice A15 l15 c15), .v (.bool t15), .v (.slice B15 0 d15)])] ∧ ff = (fun w => (NRatIs w (.agg #[.bool s15, .slice A15 l15 c15, .bool t15, .slice B15 0 d15]) (q2) ∧ NumIs w (.agg #[.bool xs0, .slice xA0 xl0 xc0]) ((q1).num % (q2).num)))) ?_ ?_
      ·refine sx_seq ?_
       refine sx_region ?_
       refine sx_run 1 [(4, .v (.string ⟨#[]⟩)),(5, .v (.bool false)),(8, .p 8 0),(11, .p 11 0),(63, .v (.agg #[.bool s19, .slice A19 l19 c19]))] [(11,53,[.v (.bool s19), .v (.slice A19 l19 c19)]),(8,55,[.v (.bool s15), .v (.slice A15 l15 c15), .v (.bool t15), .v (.slice B15 0 d15)])] (by kernel_rfl) (by kernel_rfl) ?_
       refine sx_call 69 [.agg #[.bool s19, .slice A19 l19 c19]] 64 (fun _ : Unit => .int .i64 (((q1).num).tmod ((q2).num)).sign) _ (by kernel_rfl) (by kernel_rfl) (fun w hE hΦ => (NSign_any _ (((q1).num).tmod ((q2).num)) _ hΦ.2.2).mono (fun _ _ h => post_val h rfl)) (fun xx => ?_)
       refine sx_run 1 [(4, .v (.string ⟨#[]⟩)),(5, .v (.bool false)),(8, .p 8 0),(11, .p 11 0),(65, .v (.bool (decide ((((q1).num).tmod ((q2).num)).sign < 0))))] [(11,53,[.v (.bool s19), .v (.slice A19 l19 c19)]),(8,55,[.v (.bool s15), .v (.slice A15 l15 c15), .v (.bool t15), .v (.slice B15 0 d15)])] (by kernel_rfl) (by kernel_rfl) ?_
       refine sx_end (by kernel_rfl) ?_
       refine sx_next ?_
       refine sx_cond ((decide ((((q1).num).tmod ((q2).num)).sign < 0))) (by kernel_rfl) (fun hb20 => ?_) (fun hb20 => ?_)
       ·have hs := (sgn_lt hb20).1 rfl
        refine sx_region ?_
        refine sx_run 3 [(4, .v (.string ⟨#[]⟩)),(5, .v (.bool false)),(8, .p 8 0),(11, .p 11 0),(66, .v (.agg #[.bool s19, .slice A19 l19 c19])),(68, .v (.agg #[.bool s15, .slice A15 l15 c15]))] [(11,53,[.v (.bool s19), .v (.slice A19 l19 c19)]),(8,55,[.v (.bool s15), .v (.slice A15 l15 c15), .v (.bool t15), .v (.slice B15 0 d15)])] (by kernel_rfl) (by kernel_rfl) ?_
        refine sx_call 58 [.agg #[.bool s19, .slice A19 l19 c19], .agg #[.bool s15, .slice A15 l15 c15]] 69 shInt _ (by kernel_rfl) (by kernel_rfl) (fun w hE hΦ => (NAdd_any _ _ (((q1).num).tmod ((q2).num)) ((q2).num) _ hΦ.1.2.2 hΦ.1.1.1.1.2.num (nfit (mlr HW.2.2.1 (by omega)) (by decide)) (nfit HW.2.2.1 (by decide))).mono (fun _ _ h => post_Num h)) (fun xx => ?_)
        obtain ⟨s21,A21,l21,c21⟩ := xx
        refine sx_run 1 [(4, .v (.string ⟨#[]⟩)),(5, .v (.bool false)),(8, .p 8 0),(11, .p 11 0)] [(11,53,[.v (.bool s21), .v (.slice A21 l21 c21)]),(8,55,[.v (.bool s15), .v (.slice A15 l15 c15), .v (.bool t15), .v (.slice B15 0 d15)])] (by kernel_rfl) (by kernel_rfl) ?_
        refine sx_end (by kernel_rfl) ?_
        refine SXq.weak [(4, .v (.string ⟨#[]⟩)),(5, .v (.bool false)),(8, .p 8 0),(11, .p 11 0)] [(11,53,[.v (.bool s21), .v (.slice A21 l21 c21)]),(8,55,[.v (.bool s15), .v (.slice A15 l15 c15), .v (.bool t15), .v (.slice B15 0 d15)])] (Ψ := fun w => (NRatIs w (.agg #[.bool s15, .slice A15 l15 c15, .bool t15, .slice B15 0 d15]) (q2) ∧ NumIs w (.agg #[.bool s21, .slice A21 l21 c21]) ((q1).num % (q2).num))) (SameL.of (by kernel_rfl)) (by kernel_rfl) (fun w hΦ => ⟨hΦ.1.1.1.1.1.2,(by have h := hΦ.2; rw [tmod_low (by omega) hs] at h; exact h)⟩) ?_
        exact sx_meet ⟨s21,A21,l21,c21,rfl,rfl⟩
       ·have hs := (sgn_lt hb20).2 rfl
        refine sx_skip ?_
        refine SXq.weak [(4, .v (.string ⟨#[]⟩)),(5, .v (.bool false)),(8, .p 8 0),(11, .p 11 0)] [(11,53,[.v (.bool s19), .v (.slice A19 l19 c19)]),(8,55,[.v (.bool s15), .v (.slice A15 l15 c15), .v (.bool t15), .v (.slice B15 0 d15)])] (Ψ := fun w => (NRatIs w (.agg #[.bool s15, .slice A15 l15 c15, .bool t15, .slice B15 0 d15]) (q2) ∧ NumIs w (.agg #[.bool s19, .slice A19 l19 c19]) ((q1).num % (q2).num))) (SameL.of (by kernel_rfl)) (by kernel_rfl) (fun w hΦ => ⟨hΦ.1.1.1.1.2,(by have h := hΦ.1.2.2; rw [tmod_high (by omega) hs] at h; exact h)⟩) ?_
        exact sx_meet ⟨s19,A19,l19,c19,rfl,rfl⟩
      ·rintro ss ff ⟨xs0,xA0,xl0,xc0,rfl,rfl⟩
       refine sx_seq ?_
       refine sx_draw 13 (by kernel_rfl) (by kernel_rfl) follows_mixed' ?_
       refine st_flt 4 [(4, .v (.string ⟨#[]⟩)),(5, .v (.bool false)),(8, .p 8 0),(71, .v (.agg #[.bool s15, .slice A15 l15 c15])),(72, .v (.agg #[.bool xs0, .slice xA0 xl0 xc0])),(73, .v (.agg #[.bool false, .slice none 0 0]))] [(11,53,[.v (.bool xs0), .v (.slice xA0 xl0 xc0)]),(8,55,[.v (.bool s15), .v (.slice A15 l15 c15), .v (.bool t15), .v (.slice B15 0 d15)])] (by kernel_rfl) (by kernel_rfl) ?_
       refine st_call 55 [.int .i64 1] 74 shInt _ (by kernel_rfl) (by kernel_rfl) (by kernel_rfl) (fun w hE hΦ => (NFromInt_any 1 _ (by decide) (by decide)).mono (fun _ _ h => post_Num h)) (fun xx => ?_)
       obtain ⟨s22,A22,l22,c22⟩ := xx
       refine st_flt 8 [(4, .v (.string ⟨#[]⟩)),(5, .v (.bool false)),(8, .p 8 0),(12, .p 12 0),(13, .p 13 0),(14, .p 14 0),(15, .p 15 0)] [(15,53,[.v (.bool s22), .v (.slice A22 l22 c22)]),(14,53,[.v (.bool false), .v (.slice none 0 0)]),(13,53,[.v (.bool xs0), .v (.slice xA0 xl0 xc0)]),(12,53,[.v (.bool s15), .v (.slice A15 l15 c15)]),(15,53,[.v (.bool false), .v (.slice none 0 0)]),(14,53,[.v (.bool false), .v (.slice none 0 0)]),(13,53,[.v (.bool false), .v (.slice none 0 0)]),(12,53,[.v (.bool false), .v (.slice none 0 0)]),(11,53,[.v (.bool xs0), .v (.slice xA0 xl0 xc0)]),(8,55,[.v (.bool s15), .v (.slice A15 l15 c15), .v (.bool t15), .v (.slice B15 0 d15)])] (by kernel_rfl) (by kernel_rfl) ?_
       refine st_end (by kernel_rfl) ?_
       refine sx_end (by kernel_rfl) ?_
       refine sx_next ?_
       refine sx_seq ?_
       refine sx_block ?_
       refine SXc.weak [(4, .v (.string ⟨#[]⟩)),(5, .v (.bool false)),(8, .p 8 0),(12, .p 12 0),(13, .p 13 0),(14, .p 14 0),(15, .p 15 0)] [(15,53,[.v (.bool s22), .v (.slice A22 l22 c22)]),(14,53,[.v (.bool false), .v (.slice none 0 0)]),(13,53,[.v (.bool xs0), .v (.slice xA0 xl0 xc0)]),(12,53,[.v (.bool s15), .v (.slice A15 l15 c15)]),(8,55,[.v (.bool s15), .v (.slice A15 l15 c15), .v (.bool t15), .v (.slice B15 0 d15)])] (Ψ := fun w => ((((NRatIs w (.agg #[.bool s15, .slice A15 l15 c15, .bool t15, .slice B15 0 d15]) (q2) ∧ NumIs w (.agg #[.bool s15, .slice A15 l15 c15]) (((q2).num))) ∧ NumIs w (.agg #[.bool xs0, .slice xA0 xl0 xc0]) (((q1).num % (q2).num))) ∧ NumIs w (.agg #[.bool false, .slice none 0 0]) ((0))) ∧ NumIs w (.agg #[.bool s22, .slice A22 l22 c22]) ((1)))) (SameL.of (by kernel_rfl)) (by kernel_rfl) (fun w hΦ => ⟨⟨⟨⟨hΦ.1.1,hΦ.1.1.num⟩,hΦ.1.2⟩,(NumIs.nil _)⟩,hΦ.2⟩) ?_
       refine sx_loop (fun nn ss ff => ∃ (gs0 : Bool) (gA0 : Option Addr) (gl0 gc0 : Nat) (gs1 : Bool) (gA1 : Option Addr) (gl1 gc1 : Nat) (gs2 : Bool) (gA2 : Option Addr) (gl2 gc2 : Nat) (gs3 : Bool) (gA3 : Option Addr) (gl3 gc3 : Nat) (z0 z1 t0 t1 : Int),ss = ofL [(4, .v (.string ⟨#[]⟩)),(5, .v (.bool false)),(8, .p 8 0),(12, .p 12 0),(13, .p 13 0),(14, .p 14 0),(15, .p 15 0)] [(15,53,[.v (.bool gs3), .v (.slice gA3 gl3 gc3)]),(14,53,[.v (.bool gs2), .v (.slice gA2 gl2 gc2)]),(13,53,[.v (.bool gs1), .v (.slice gA1 gl1 gc1)]),(12,53,[.v (.bool gs0), .v (.slice gA0 gl0 gc0)]),(8,55,[.v (.bool s15), .v (.slice A15 l15 c15), .v (.bool t15), .v (.slice B15 0 d15)])] ∧ ff = (fun w => ((((NRatIs w (.agg #[.bool s15, .slice A15 l15 c15, .bool t15, .slice B15 0 d15]) (q2) ∧ NumIs w (.agg #[.bool gs0, .slice gA0 gl0 gc0]) (z0)) ∧ NumIs w (.agg #[.bool gs1, .slice gA1 gl1 gc1]) (z1)) ∧ NumIs w (.agg #[.bool gs2, .slice gA2 gl2 gc2]) (t0)) ∧ NumIs w (.agg #[.bool gs3, .slice gA3 gl3 gc3]) (t1))) ∧ (RecInv (q2).num z0 z1 t0 t1) ∧ (∀ x y,RecRun (q2).num z0 z1 t0 t1 x y → RecRun (q2).num (q2).num ((q1).num % (q2).num) 0 1 x y) ∧ nn = z1.toNat) (((q1).num % (q2).num).toNat) ⟨s15,A15,l15,c15,xs0,xA0,xl0,xc0,false,none,0,0,s22,A22,l22,c22,((q2).num),((q1).num % (q2).num),(0),(1),rfl,rfl,RecInv.start (Int.emod_nonneg _ (by omega)) (Int.emod_lt_of_pos _ (by omega)),fun _ _ h => h,rfl⟩ ?_
       rintro nn ss ff ⟨gs0,gA0,gl0,gc0,gs1,gA1,gl1,gc1,gs2,gA2,gl2,gc2,gs3,gA3,gl3,gc3,z0,z1,t0,t1,rfl,rfl,HI,HR,rfl⟩
       refine sx_seq ?_
       refine sx_seq ?_
       obtain ⟨b1,b2,b3,b4⟩ := HI.bound
       have S1 : ml z1.natAbs ≤ 200 := Nat.le_trans (ml_mono b3) HW.2.2.1
       have S0 : ml z0.natAbs ≤ 200 := Nat.le_trans (ml_mono b2) HW.2.2.1
       have ST1 : ml t1.natAbs ≤ 200 := Nat.le_trans (ml_mono b1) HW.2.2.1
       refine sx_draw 6 (by kernel_rfl) (by kernel_rfl) follows_mixed' ?_
       refine st_flt 1 [(4, .v (.string ⟨#[]⟩)),(5, .v (.bool false)),(8, .p 8 0),(12, .p 12 0),(13, .p 13 0),(14, .p 14 0),(15, .p 15 0),(75, .v (.agg #[.bool gs1, .slice gA1 gl1 gc1]))] [(15,53,[.v (.bool gs3), .v (.slice gA3 gl3 gc3)]),(14,53,[.v (.bool gs2), .v (.slice gA2 gl2 gc2)]),(13,53,[.v (.bool gs1), .v (.slice gA1 gl1 gc1)]),(12,53,[.v (.bool gs0), .v (.slice gA0 gl0 gc0)]),(8,55,[.v (.bool s15), .v (.slice A15 l15 c15), .v (.bool t15), .v (.slice B15 0 d15)])] (by kernel_rfl) (by kernel_rfl) ?_
       refine st_call 70 [.agg #[.bool gs1, .slice gA1 gl1 gc1]] 76 shInt _ (by kernel_rfl) (by kernel_rfl) (by kernel_rfl) (fun w hE hΦ => (NTwice_any _ (z1) _ hΦ.1.1.2 S1).mono (fun _ _ h => post_Num h)) (fun xx => ?_)
       obtain ⟨s23,A23,l23,c23⟩ := xx
       refine st_flt 2 [(4, .v (.string ⟨#[]⟩)),(5, .v (.bool false)),(8, .p 8 0),(12, .p 12 0),(13, .p 13 0),(14, .p 14 0),(15, .p 15 0),(76, .v (.agg #[.bool s23, .slice A23 l23 c23])),(78, .v (.agg #[.bool s15, .slice A15 l15 c15]))] [(15,53,[.v (.bool gs3), .v (.slice gA3 gl3 gc3)]),(14,53,[.v (.bool gs2), .v (.slice gA2 gl2 gc2)]),(13,53,[.v (.bool gs1), .v (.slice gA1 gl1 gc1)]),(12,53,[.v (.bool gs0), .v (.slice gA0 gl0 gc0)]),(8,55,[.v (.bool s15), .v (.slice A15 l15 c15), .v (.bool t15), .v (.slice B15 0 d15)])] (by kernel_rfl) (by kernel_rfl) ?_
       refine st_call 67 [.agg #[.bool s23, .slice A23 l23 c23], .agg #[.bool s15, .slice A15 l15 c15]] 79 (fun _ : Unit => .int .i64 ((z1 * z1 * 2) - ((q2).num)).sign) _ (by kernel_rfl) (by kernel_rfl) (by kernel_rfl) (fun w hE hΦ => (NCmp_any _ _ (z1 * z1 * 2) ((q2).num) _ hΦ.2 hΦ.1.1.1.1.1.num (nfit (mlm (b := 1) (mlm S1 S1) ml2) (by decide)) (nfit HW.2.2.1 (by decide))).mono (fun _ _ h => post_val h rfl)) (fun xx => ?_)
       refine st_flt 1 [(4, .v (.string ⟨#[]⟩)),(5, .v (.bool false)),(8, .p 8 0),(12, .p 12 0),(13, .p 13 0),(14, .p 14 0),(15, .p 15 0),(80, .v (.bool (decide (((z1 * z1 * 2) - ((q2).num)).sign ≥ 0))))] [(15,53,[.v (.bool gs3), .v (.slice gA3 gl3 gc3)]),(14,53,[.v (.bool gs2), .v (.slice gA2 gl2 gc2)]),(13,53,[.v (.bool gs1), .v (.slice gA1 gl1 gc1)]),(12,53,[.v (.bool gs0), .v (.slice gA0 gl0 gc0)]),(8,55,[.v (.bool s15), .v (.slice A15 l15 c15), .v (.bool t15), .v (.slice B15 0 d15)])] (by kernel_rfl) (by kernel_rfl) ?_
       refine st_end (by kernel_rfl) ?_
       refine sx_end (by kernel_rfl) ?_
       refine sx_next ?_
       refine sx_cond ((decide (((z1 * z1 * 2) - ((q2).num)).sign ≥ 0))) (by kernel_rfl) (fun hb24 => ?_) (fun hb24 => ?_)
       ·have hns := ge_of hb24
        have hz1 : 0 < z1 := by rcases Int.lt_or_eq_of_le HI.nonneg with h | h; exact h; rw [← h] at hns; exact absurd (by omega) hns
        refine sx_skip ?_
        refine sx_next ?_
        refine sx_block ?_
        refine sx_seq ?_
        refine sx_region ?_
        refine sx_run 2 [(4, .v (.string ⟨#[]⟩)),(5, .v (.bool false)),(8, .p 8 0),(12, .p 12 0),(13, .p 13 0),(14, .p 14 0),(15, .p 15 0),(82, .v (.agg #[.bool gs0, .slice gA0 gl0 gc0])),(83, .v (.agg #[.bool gs1, .slice gA1 gl1 gc1]))] [(15,53,[.v (.bool gs3), .v (.slice gA3 gl3 gc3)]),(14,53,[.v (.bool gs2), .v (.slice gA2 gl2 gc2)]),(13,53,[.v (.bool gs1), .v (.slice gA1 gl1 gc1)]),(12,53,[.v (.bool gs0), .v (.slice gA0 gl0 gc0)]),(8,55,[.v (.bool s15), .v (.slice A15 l15 c15), .v (.bool t15), .v (.slice B15 0 d15)])] (by kernel_rfl) (by kernel_rfl) ?_
        refine sx_call 68 [.agg #[.bool gs0, .slice gA0 gl0 gc0], .agg #[.bool gs1, .slice gA1 gl1 gc1]] 84 shInt2 _ (by kernel_rfl) (by kernel_rfl) (fun w hE hΦ => (NQuoRem_any _ _ (z0) (z1) _ hΦ.1.1.1.1.1.2 hΦ.1.1.1.1.2 (nfit S0 (by decide)) (nfit S1 (by decide)) (by omega)).mono (fun _ _ h => post_Num2 h)) (fun xx => ?_)
        obtain ⟨⟨s25,A25,l25,c25⟩,⟨s26,A26,l26,c26⟩⟩ := xx
        refine sx_run 7 [(4, .v (.string ⟨#[]⟩)),(5, .v (.bool false)),(8, .p 8 0),(12, .p 12 0),(13, .p 13 0),(14, .p 14 0),(15, .p 15 0),(16, .p 16 0),(17, .p 17 0)] [(17,53,[.v (.bool s26), .v (.slice A26 l26 c26)]),(16,53,[.v (.bool s25), .v (.slice A25 l25 c25)]),(15,53,[.v (.bool gs3), .v (.slice gA3 gl3 gc3)]),(14,53,[.v (.bool gs2), .v (.slice gA2 gl2 gc2)]),(13,53,[.v (.bool gs1), .v (.slice gA1 gl1 gc1)]),(12,53,[.v (.bool gs0), .v (.slice gA0 gl0 gc0)]),(8,55,[.v (.bool s15), .v (.slice A15 l15 c15), .v (.bool t15), .v (.slice B15 0 d15)])] (by kernel_rfl) (by kernel_rfl) ?_
        refine sx_end (by kernel_rfl) ?_
        refine sx_next ?_
        refine sx_draw 12 (by kernel_rfl) (by kernel_rfl) follows_mixed' ?_
        refine st_flt 6 [(4, .v (.string ⟨#[]⟩)),(5, .v (.bool false)),(8, .p 8 0),(12, .p 12 0),(13, .p 13 0),(14, .p 14 0),(15, .p 15 0),(87, .v (.agg #[.bool gs1, .slice gA1 gl1 gc1])),(88, .v (.agg #[.bool s26, .slice A26 l26 c26])),(89, .v (.agg #[.bool gs3, .slice gA3 gl3 gc3])),(90, .v (.agg #[.bool gs2, .slice gA2 gl2 gc2])),(91, .v (.agg #[.bool s25, .slice A25 l25 c25])),(92, .v (.agg #[.bool gs3, .slice gA3 gl3 gc3]))] [(17,53,[.v (.bool s26), .v (.slice A26 l26 c26)]),(16,53,[.v (.bool s25), .v (.slice A25 l25 c25)]),(15,53,[.v (.bool gs3), .v (.slice gA3 gl3 gc3)]),(14,53,[.v (.bool gs2), .v (.slice gA2 gl2 gc2)]),(13,53,[.v (.bool gs1), .v (.slice gA1 gl1 gc1)]),(12,53,[.v (.bool gs0), .v (.slice gA0 gl0 gc0)]),(8,55,[.v (.bool s15), .v (.slice A15 l15 c15), .v (.bool t15), .v (.slice B15 0 d15)])] (by kernel_rfl) (by kernel_rfl) ?_
        refine st_call 59 [.agg #[.bool s25, .slice A25 l25 c25], .agg #[.bool gs3, .slice gA3 gl3 gc3]] 93 shInt _ (by kernel_rfl) (by kernel_rfl) (by kernel_rfl) (fun w hE hΦ => (NMul_any _ _ ((z0).tdiv (z1)) (t1) _ hΦ.2.1 hΦ.1.1.1.2 (nfit (mlq S0) (by decide)) (nfit ST1 (by decide))).mono (fun _ _ h => post_Num h)) (fun xx => ?_)
        obtain ⟨s27,A27,l27,c27⟩ := xx
        refine st_flt 0 [(4, .v (.string ⟨#[]⟩)),(5, .v (.bool false)),(8, .p 8 0),(12, .p 12 0),(13, .p 13 0),(14, .p 14 0),(15, .p 15 0),(87, .v (.agg #[.bool gs1, .slice gA1 gl1 gc1])),(88, .v (.agg #[.bool s26, .slice A26 l26 c26])),(89, .v (.agg #[.bool gs3, .slice gA3 gl3 gc3])),(90, .v (.agg #[.bool gs2, .slice gA2 gl2 gc2])),(93, .v (.agg #[.bool s27, .slice A27 l27 c27]))] [(17,53,[.v (.bool s26), .v (.slice A26 l26 c26)]),(16,53,[.v (.bool s25), .v (.slice A25 l25 c25)]),(15,53,[.v (.bool gs3), .v (.slice gA3 gl3 gc3)]),(14,53,[.v (.bool gs2), .v (.slice gA2 gl2 gc2)]),(13,53,[.v (.bool gs1), .v (.slice gA1 gl1 gc1)]),(12,53,[.v (.bool gs0), .v (.slice gA0 gl0 gc0)]),(8,55,[.v (.bool s15), .v (.slice A15 l15 c15), .v (.bool t15), .v (.slice B15 0 d15)])] (by kernel_rfl) (by kernel_rfl) ?_
        refine st_call 71 [.agg #[.bool gs2, .slice gA2 gl2 gc2], .agg #[.bool s27, .slice A27 l27 c27]] 94 shInt _ (by kernel_rfl) (by kernel_rfl) (by kernel_rfl) (fun w hE hΦ => (NSub_any _ _ (t0) (((z0).tdiv (z1)) * (t1)) _ hΦ.1.1.1.1.1.2 hΦ.2 (nfit (Nat.le_trans (ml_mono (b4 hz1)) HW.2.2.1) (by decide)) (nfit (mlm (mlq S0) ST1) (by decide))).mono (fun _ _ h => post_Num h)) (fun xx => ?_)
        obtain ⟨s28,A28,l28,c28⟩ := xx
        refine st_flt 4 [(4, .v (.string ⟨#[]⟩)),(5, .v (.bool false)),(8, .p 8 0),(12, .p 12 0),(13, .p 13 0),(14, .p 14 0),(15, .p 15 0)] [(15,53,[.v (.bool s28), .v (.slice A28 l28 c28)]),(14,53,[.v (.bool gs3), .v (.slice gA3 gl3 gc3)]),(13,53,[.v (.bool s26), .v (.slice A26 l26 c26)]),(12,53,[.v (.bool gs1), .v (.slice gA1 gl1 gc1)]),(17,53,[.v (.bool s26), .v (.slice A26 l26 c26)]),(16,53,[.v (.bool s25), .v (.slice A25 l25 c25)]),(15,53,[.v (.bool gs3), .v (.slice gA3 gl3 gc3)]),(14,53,[.v (.bool gs2), .v (.slice gA2 gl2 gc2)]),(13,53,[.v (.bool gs1), .v (.slice gA1 gl1 gc1)]),(12,53,[.v (.bool gs0), .v (.slice gA0 gl0 gc0)]),(8,55,[.v (.bool s15), .v (.slice A15 l15 c15), .v (.bool t15), .v (.slice B15 0 d15)])] (by kernel_rfl) (by kernel_rfl) ?_
        refine st_end (by kernel_rfl) ?_
        refine sx_end (by kernel_rfl) ?_
        refine sx_out ?_
        refine SXq.weak [(4, .v (.string ⟨#[]⟩)),(5, .v (.bool false)),(8, .p 8 0),(12, .p 12 0),(13, .p 13 0),(14, .p 14 0),(15, .p 15 0)] [(15,53,[.v (.bool s28), .v (.slice A28 l28 c28)]),(14,53,[.v (.bool gs3), .v (.slice gA3 gl3 gc3)]),(13,53,[.v (.bool s26), .v (.slice A26 l26 c26)]),(12,53,[.v (.bool gs1), .v (.slice gA1 gl1 gc1)]),(8,55,[.v (.bool s15), .v (.slice A15 l15 c15), .v (.bool t15), .v (.slice B15 0 d15)])] (Ψ := fun w => ((((NRatIs w (.agg #[.bool s15, .slice A15 l15 c15, .bool t15, .slice B15 0 d15]) (q2) ∧ NumIs w (.agg #[.bool gs1, .slice gA1 gl1 gc1]) ((z1))) ∧ NumIs w (.agg #[.bool s26, .slice A26 l26 c26]) (((z0).tmod (z1)))) ∧ NumIs w (.agg #[.bool gs3, .slice gA3 gl3 gc3]) ((t1))) ∧ NumIs w (.agg #[.bool s28, .slice A28 l28 c28]) (((t0) - (((z0).tdiv (z1)) * (t1)))))) (SameL.of (by kernel_rfl)) (by kernel_rfl) (fun w hΦ => ⟨⟨⟨⟨hΦ.1.1.1.1.1.1.1.1.1,hΦ.1.1.1.1.1.1.1.2⟩,hΦ.1.1.2.2⟩,hΦ.1.1.1.1.1.2⟩,hΦ.2⟩) ?_
        exact sx_round (((z0).tmod (z1)).toNat) (by have h1 := (HI.next hz1).lt; have h2 := (HI.next hz1).nonneg; omega) ⟨gs1,gA1,gl1,gc1,s26,A26,l26,c26,gs3,gA3,gl3,gc3,s28,A28,l28,c28,(z1),((z0).tmod (z1)),(t1),((t0) - (((z0).tdiv (z1)) * (t1))),rfl,rfl,HI.next hz1,fun x y h => HR x y (RecRun.step hns h),rfl⟩
       ·have hsm := lt_of hb24
        refine sx_exit ?_
        refine sx_then_exit ?_
        refine sx_then_exit ?_
        refine sx_hit ?_
        refine sx_next ?_
        refine sx_cut (fun ss ff => ∃ (xs1 : Bool) (xA1 : Option Addr) (xl1 xc1 : Nat) (xs3 : Bool) (xA3 : Option Addr) (xl3 xc3 : Nat) (X Y : Int),ss = ofL [(4, .v (.string ⟨#[]⟩)),(5, .v (.bool false)),(8, .p 8 0),(13, .p 13 0),(15, .p 15 0)] [(15,53,[.v (.bool xs3), .v (.slice xA3 xl3 xc3)]),(13,53,[.v (.bool xs1), .v (.slice xA1 xl1 xc1)]),(8,55,[.v (.bool s15), .v (.slice A15 l15 c15), .v (.bool t15), .v (.slice B15 0 d15)])] ∧ ff = (fun w => ((NRatIs w (.agg #[.bool s15, .slice A15 l15 c15, .bool t15, .slice B15 0 d15]) (q2) ∧ NumIs w (.agg #[.bool xs1, .slice xA1 xl1 xc1]) (X)) ∧ NumIs w (.agg #[.bool xs3, .slice xA3 xl3 xc3]) (Y))) ∧ ((X = z1 ∧ Y = t1) ∨ (X = -z1 ∧ Y = -t1))) ?_ ?_
        ·refine sx_seq ?_
         refine sx_region ?_
         refine sx_run 2 [(4, .v (.string ⟨#[]⟩)),(5, .v (.bool false)),(8, .p 8 0),(13, .p 13 0),(15, .p 15 0),(96, .v (.bool gs3))] [(15,53,[.v (.bool gs3), .v (.slice gA3 gl3 gc3)]),(13,53,[.v (.bool gs1), .v (.slice gA1 gl1 gc1)]),(8,55,[.v (.bool s15), .v (.slice A15 l15 c15), .v (.bool t15), .v (.slice B15 0 d15)])] (by kernel_rfl) (by kernel_rfl) ?_
         refine sx_end (by kernel_rfl) ?_
         refine sx_next ?_
         refine sx_cond (gs3) (by kernel_rfl) (fun hb29 => ?_) (fun hb29 => ?_)
         ·refine sx_draw 6 (by kernel_rfl) (by kernel_rfl) follows_mixed' ?_
          refine st_flt 1 [(4, .v (.string ⟨#[]⟩)),(5, .v (.bool false)),(8, .p 8 0),(13, .p 13 0),(15, .p 15 0),(97, .v (.agg #[.bool gs1, .slice gA1 gl1 gc1]))] [(15,53,[.v (.bool gs3), .v (.slice gA3 gl3 gc3)]),(13,53,[.v (.bool gs1), .v (.slice gA1 gl1 gc1)]),(8,55,[.v (.bool s15), .v (.slice A15 l15 c15), .v (.bool t15), .v (.slice B15 0 d15)])] (by kernel_rfl) (by kernel_rfl) ?_
          refine st_call 72 [.agg #[.bool gs1, .slice gA1 gl1 gc1]] 98 shInt _ (by kernel_rfl) (by kernel_rfl) (by kernel_rfl) (fun w hE hΦ => (NNeg_any _ (z1) _ hΦ.1.1.1.1.2).mono (fun _ _ h => post_Num h)) (fun xx => ?_)
          obtain ⟨s30,A30,l30,c30⟩ := xx
          refine st_flt 1 [(4, .v (.string ⟨#[]⟩)),(5, .v (.bool false)),(8, .p 8 0),(13, .p 13 0),(15, .p 15 0),(98, .v (.agg #[.bool s30, .slice A30 l30 c30])),(99, .v (.agg #[.bool gs3, .slice gA3 gl3 gc3]))] [(15,53,[.v (.bool gs3), .v (.slice gA3 gl3 gc3)]),(13,53,[.v (.bool gs1), .v (.slice gA1 gl1 gc1)]),(8,55,[.v (.bool s15), .v (.slice A15 l15 c15), .v (.bool t15), .v (.slice B15 0 d15)])] (by kernel_rfl) (by kernel_rfl) ?_
          refine st_call 72 [.agg #[.bool gs3, .slice gA3 gl3 gc3]] 100 shInt _ (by kernel_rfl) (by kernel_rfl) (by kernel_rfl) (fun w hE hΦ => (NNeg_any _ (t1) _ hΦ.1.1.1.2).mono (fun _ _ h => post_Num h)) (fun xx => ?_)
          obtain ⟨s31,A31,l31,c31⟩ := xx
          refine st_flt 2 [(4, .v (.string ⟨#[]⟩)),(5, .v (.bool false)),(8, .p 8 0),(13, .p 13 0),(15, .p 15 0)] [(15,53,[.v (.bool s31), .v (.slice A31 l31 c31)]),(13,53,[.v (.bool s30), .v (.slice A30 l30 c30)]),(15,53,[.v (.bool gs3), .v (.slice gA3 gl3 gc3)]),(13,53,[.v (.bool gs1), .v (.slice gA1 gl1 gc1)]),(8,55,[.v (.bool s15), .v (.slice A15 l15 c15), .v (.bool t15), .v (.slice B15 0 d15)])] (by kernel_rfl) (by kernel_rfl) ?_
          refine st_end (by kernel_rfl) ?_
          refine sx_end (by kernel_rfl) ?_
          refine SXq.weak [(4, .v (.string ⟨#[]⟩)),(5, .v (.bool false)),(8, .p 8 0),(13, .p 13 0),(15, .p 15 0)] [(15,53,[.v (.bool s31), .v (.slice A31 l31 c31)]),(13,53,[.v (.bool s30), .v (.slice A30 l30 c30)]),(8,55,[.v (.bool s15), .v (.slice A15 l15 c15), .v (.bool t15), .v (.slice B15 0 d15)])] (Ψ := fun w => ((NRatIs w (.agg #[.bool s15, .slice A15 l15 c15, .bool t15, .slice B15 0 d15]) (q2) ∧ NumIs w (.agg #[.bool s30, .slice A30 l30 c30]) ((-(z1)))) ∧ NumIs w (.agg #[.bool s31, .slice A31 l31 c31]) ((-(t1))))) (SameL.of (by kernel_rfl)) (by kernel_rfl) (fun w hΦ => ⟨⟨hΦ.1.1.1.1.1.1.1.1,hΦ.1.2⟩,hΦ.2⟩) ?_
          exact sx_meet ⟨s30,A30,l30,c30,s31,A31,l31,c31,(-(z1)),(-(t1)),rfl,rfl,Or.inr ⟨rfl,rfl⟩⟩
         ·refine sx_skip ?_
          refine SXq.weak [(4, .v (.string ⟨#[]⟩)),(5, .v (.bool false)),(8, .p 8 0),(13, .p 13 0),(15, .p 15 0)] [(15,53,[.v (.bool gs3), .v (.slice gA3 gl3 gc3)]),(13,53,[.v (.bool gs1), .v (.slice gA1 gl1 gc1)]),(8,55,[.v (.bool s15), .v (.slice A15 l15 c15), .v (.bool t15), .v (.slice B15 0 d15)])] (Ψ := fun w => ((NRatIs w (.agg #[.bool s15, .slice A15 l15 c15, .bool t15, .slice B15 0 d15]) (q2) ∧ NumIs w (.agg #[.bool gs1, .slice gA1 gl1 gc1]) ((z1))) ∧ NumIs w (.agg #[.bool gs3, .slice gA3 gl3 gc3]) ((t1)))) (SameL.of (by kernel_rfl)) (by kernel_rfl) (fun w hΦ => ⟨⟨hΦ.1.1.1.1.1.1,hΦ.1.1.1.1.2⟩,hΦ.1.1.2⟩) ?_
          exact sx_meet ⟨gs1,gA1,gl1,gc1,gs3,gA3,gl3,gc3,(z1),(t1),rfl,rfl,Or.inl ⟨rfl,rfl⟩⟩
        ·rintro ss ff ⟨xs1,xA1,xl1,xc1,xs3,xA3,xl3,xc3,X,Y,rfl,rfl,hXY⟩
         refine sx_seq ?_
         refine sx_seq ?_
         have SX : ml X.natAbs ≤ 200 := by rcases hXY with ⟨rfl,_⟩ | ⟨rfl,_⟩; exact S1; exact mln S1
         have SY : ml Y.natAbs ≤ 200 := by rcases hXY with ⟨_,rfl⟩ | ⟨_,rfl⟩; exact ST1; exact mln ST1
         by_cases hc1 : Y * Y * 2 < (q2).num
         ·by_cases hc2 : ((Int.gcd (Y) ((q2).num) : Nat) : Int).natAbs = 1
          ·have hY0 : Y ≠ 0 := rec_nz (by omega) hc2
           by_cases hc3 : ((Int.gcd (X) (Y) : Nat) : Int).natAbs = 1
           ·refine sx_draw 21 (by kernel_rfl) (by kernel_rfl) follows_mixed' ?_
            refine st_flt 1 [(4, .v (.string ⟨#[]⟩)),(5, .v (.bool false)),(8, .p 8 0),(13, .p 13 0),(15, .p 15 0),(101, .v (.agg #[.bool xs3, .slice xA3 xl3 xc3]))] [(15,53,[.v (.bool xs3), .v (.slice xA3 xl3 xc3)]),(13,53,[.v (.bool xs1), .v (.slice xA1 xl1 xc1)]),(8,55,[.v (.bool s15), .v (.slice A15 l15 c15), .v (.bool t15), .v (.slice B15 0 d15)])] (by kernel_rfl) (by kernel_rfl) ?_
            refine st_call 70 [.agg #[.bool xs3, .slice xA3 xl3 xc3]] 102 shInt _ (by kernel_rfl) (by kernel_rfl) (by kernel_rfl) (fun w hE hΦ => (NTwice_any _ (Y) _ hΦ.2 SY).mono (fun _ _ h => post_Num h)) (fun xx => ?_)
            obtain ⟨s32,A32,l32,c32⟩ := xx
            refine st_flt 2 [(4, .v (.string ⟨#[]⟩)),(5, .v (.bool false)),(8, .p 8 0),(13, .p 13 0),(15, .p 15 0),(102, .v (.agg #[.bool s32, .slice A32 l32 c32])),(104, .v (.agg #[.bool s15, .slice A15 l15 c15]))] [(15,53,[.v (.bool xs3), .v (.slice xA3 xl3 xc3)]),(13,53,[.v (.bool xs1), .v (.slice xA1 xl1 xc1)]),(8,55,[.v (.bool s15), .v (.slice A15 l15 c15), .v (.bool t15), .v (.slice B15 0 d15)])] (by kernel_rfl) (by kernel_rfl) ?_
            refine st_call 67 [.agg #[.bool s32, .slice A32 l32 c32], .agg #[.bool s15, .slice A15 l15 c15]] 105 (fun _ : Unit => .int .i64 ((Y * Y * 2) - ((q2).num)).sign) _ (by kernel_rfl) (by kernel_rfl) (by kernel_rfl) (fun w hE hΦ => (NCmp_any _ _ (Y * Y * 2) ((q2).num) _ hΦ.2 hΦ.1.1.1.num (nfit (mlm (b := 1) (mlm SY SY) ml2) (by decide)) (nfit HW.2.2.1 (by decide))).mono (fun _ _ h => post_val h rfl)) (fun xx => ?_)
            refine st_flt 1 [(4, .v (.string ⟨#[]⟩)),(5, .v (.bool false)),(8, .p 8 0),(13, .p 13 0),(15, .p 15 0),(106, .v (.bool (decide (((Y * Y * 2) - ((q2).num)).sign ≥ 0))))] [(15,53,[.v (.bool xs3), .v (.slice xA3 xl3 xc3)]),(13,53,[.v (.bool xs1), .v (.slice xA1 xl1 xc1)]),(8,55,[.v (.bool s15), .v (.slice A15 l15 c15), .v (.bool t15), .v (.slice B15 0 d15)])] (by kernel_rfl) (by kernel_rfl) ?_
            rw [sgn_ge_f hc1]
            refine st_flt 4 [(4, .v (.string ⟨#[]⟩)),(5, .v (.bool false)),(13, .p 13 0),(15, .p 15 0),(107, .v (.bool false)),(108, .v (.agg #[.bool xs3, .slice xA3 xl3 xc3])),(110, .v (.agg #[.bool s15, .slice A15 l15 c15]))] [(15,53,[.v (.bool xs3), .v (.slice xA3 xl3 xc3)]),(13,53,[.v (.bool xs1), .v (.slice xA1 xl1 xc1)]),(8,55,[.v (.bool s15), .v (.slice A15 l15 c15), .v (.bool t15), .v (.slice B15 0 d15)])] (by kernel_rfl) (by kernel_rfl) ?_
            refine st_call 74 [.agg #[.bool xs3, .slice xA3 xl3 xc3], .agg #[.bool s15, .slice A15 l15 c15]] 111 shInt _ (by kernel_rfl) (by kernel_rfl) (by kernel_rfl) (fun w hE hΦ => (NGcd_any _ _ (Y) ((q2).num) _ hΦ.1.1.2 hΦ.1.1.1.1.num (nfit SY (by decide)) (nfit HW.2.2.1 (by decide))).mono (fun _ _ h => post_Num h)) (fun xx => ?_)
            obtain ⟨s33,A33,l33,c33⟩ := xx
            refine st_flt 0 [(4, .v (.string ⟨#[]⟩)),(5, .v (.bool false)),(13, .p 13 0),(15, .p 15 0),(107, .v (.bool false)),(111, .v (.agg #[.bool s33, .slice A33 l33 c33]))] [(15,53,[.v (.bool xs3), .v (.slice xA3 xl3 xc3)]),(13,53,[.v (.bool xs1), .v (.slice xA1 xl1 xc1)]),(8,55,[.v (.bool s15), .v (.slice A15 l15 c15), .v (.bool t15), .v (.slice B15 0 d15)])] (by kernel_rfl) (by kernel_rfl) ?_
            refine st_call 73 [.agg #[.bool s33, .slice A33 l33 c33]] 112 (fun _ : Unit => .int .i64 ((blen (((Int.gcd (Y) ((q2).num) : Nat) : Int)).natAbs : Nat) : Int)) _ (by kernel_rfl) (by kernel_rfl) (by kernel_rfl) (fun w hE hΦ => (NBits_any _ (((Int.gcd (Y) ((q2).num) : Nat) : Int)) _ hΦ.2 (NFits.gcd (nfit HW.2.2.1 (by decide)) (by omega))).mono (fun _ _ h => post_val h rfl)) (fun xx => ?_)
            refine st_flt 1 [(4, .v (.string ⟨#[]⟩)),(5, .v (.bool false)),(13, .p 13 0),(15, .p 15 0),(107, .v (.bool false)),(113, .v (.bool ((((blen (((Int.gcd (Y) ((q2).num) : Nat) : Int)).natAbs : Nat) : Int) : Int) != 1)))] [(15,53,[.v (.bool xs3), .v (.slice xA3 xl3 xc3)]),(13,53,[.v (.bool xs1), .v (.slice xA1 xl1 xc1)]),(8,55,[.v (.bool s15), .v (.slice A15 l15 c15), .v (.bool t15), .v (.slice B15 0 d15)])] (by kernel_rfl) (by kernel_rfl) ?_
            rw [bit_one hc2]
            refine st_flt 4 [(4, .v (.string ⟨#[]⟩)),(5, .v (.bool false)),(13, .p 13 0),(15, .p 15 0),(115, .v (.bool false)),(116, .v (.agg #[.bool xs1, .slice xA1 xl1 xc1])),(117, .v (.agg #[.bool xs3, .slice xA3 xl3 xc3]))] [(15,53,[.v (.bool xs3), .v (.slice xA3 xl3 xc3)]),(13,53,[.v (.bool xs1), .v (.slice xA1 xl1 xc1)]),(8,55,[.v (.bool s15), .v (.slice A15 l15 c15), .v (.bool t15), .v (.slice B15 0 d15)])] (by kernel_rfl) (by kernel_rfl) ?_
            refine st_call 74 [.agg #[.bool xs1, .slice xA1 xl1 xc1], .agg #[.bool xs3, .slice xA3 xl3 xc3]] 118 shInt _ (by kernel_rfl) (by kernel_rfl) (by kernel_rfl) (fun w hE hΦ => (NGcd_any _ _ (X) (Y) _ hΦ.1.1.1.1.1.2 hΦ.1.1.1.1.2 (nfit SX (by decide)) (nfit SY (by decide))).mono (fun _ _ h => post_Num h)) (fun xx => ?_)
            obtain ⟨s34,A34,l34,c34⟩ := xx
            refine st_flt 0 [(4, .v (.string ⟨#[]⟩)),(5, .v (.bool false)),(13, .p 13 0),(15, .p 15 0),(115, .v (.bool false)),(118, .v (.agg #[.bool s34, .slice A34 l34 c34]))] [(15,53,[.v (.bool xs3), .v (.slice xA3 xl3 xc3)]),(13,53,[.v (.bool xs1), .v (.slice xA1 xl1 xc1)]),(8,55,[.v (.bool s15), .v (.slice A15 l15 c15), .v (.bool t15), .v (.slice B15 0 d15)])] (by kernel_rfl) (by kernel_rfl) ?_
            refine st_call 73 [.agg #[.bool s34, .slice A34 l34 c34]] 119 (fun _ : Unit => .int .i64 ((blen (((Int.gcd (X) (Y) : Nat) : Int)).natAbs : Nat) : Int)) _ (by kernel_rfl) (by kernel_rfl) (by kernel_rfl) (fun w hE hΦ => (NBits_any _ (((Int.gcd (X) (Y) : Nat) : Int)) _ hΦ.2 (NFits.gcd (nfit SY (by decide)) hY0)).mono (fun _ _ h => post_val h rfl)) (fun xx => ?_)
            refine st_flt 1 [(4, .v (.string ⟨#[]⟩)),(5, .v (.bool false)),(13, .p 13 0),(15, .p 15 0),(115, .v (.bool false)),(120, .v (.bool ((((blen (((Int.gcd (X) (Y) : Nat) : Int)).natAbs : Nat) : Int) : Int) != 1)))] [(15,53,[.v (.bool xs3), .v (.slice xA3 xl3 xc3)]),(13,53,[.v (.bool xs1), .v (.slice xA1 xl1 xc1)]),(8,55,[.v (.bool s15), .v (.slice A15 l15 c15), .v (.bool t15), .v (.slice B15 0 d15)])] (by kernel_rfl) (by kernel_rfl) ?_
            rw [bit_one hc3]
            refine st_flt 1 [(4, .v (.string ⟨#[]⟩)),(5, .v (.bool false)),(13, .p 13 0),(15, .p 15 0),(121, .v (.bool false))] [(15,53,[.v (.bool xs3), .v (.slice xA3 xl3 xc3)]),(13,53,[.v (.bool xs1), .v (.slice xA1 xl1 xc1)]),(8,55,[.v (.bool s15), .v (.slice A15 l15 c15), .v (.bool t15), .v (.slice B15 0 d15)])] (by kernel_rfl) (by kernel_rfl) ?_
            refine st_end (by kernel_rfl) ?_
            refine sx_end (by kernel_rfl) ?_
            refine sx_next ?_
            refine sx_cond_f (by kernel_rfl) ?_
            refine sx_skip ?_
            refine sx_next ?_
            refine sx_seq ?_
            have HK := rec_yes (HR _ _ (RecRun.done hsm)) hXY hc1 hc2 hc3
            refine sx_region ?_
            refine sx_run 2 [(4, .v (.string ⟨#[]⟩)),(5, .v (.bool false)),(122, .v (.agg #[.bool xs1, .slice xA1 xl1 xc1])),(123, .v (.agg #[.bool xs3, .slice xA3 xl3 xc3]))] [] (by kernel_rfl) (by kernel_rfl) ?_
            refine sx_call 75 [.agg #[.bool xs1, .slice xA1 xl1 xc1], .agg #[.bool xs3, .slice xA3 xl3 xc3]] 124 shRat _ (by kernel_rfl) (by kernel_rfl) (fun w hE hΦ => (NFrac_any _ _ (X) (Y) _ hΦ.1.1.1.1.1.1.1.2 hΦ.1.1.1.1.1.1.2 (nfit SX (by decide)) (nfit SY (by decide)) hY0).mono (fun _ _ h => post_NRat h)) (fun xx => ?_)
            obtain ⟨s35,A35,l35,c35,t35,B35,m35,d35⟩ := xx
            refine sx_run 0 [(4, .v (.string ⟨#[]⟩)),(5, .v (.bool false)),(124, .v (.agg #[.bool s35, .slice A35 l35 c35, .bool t35, .slice B35 m35 d35]))] [] (by kernel_rfl) (by kernel_rfl) ?_
            refine sx_call 39 [.agg #[.bool s35, .slice A35 l35 c35, .bool t35, .slice B35 m35 d35]] 125 (fun _ : Unit => .string ⟨(ratText (Rat.divInt (X) (Y))).toArray⟩) _ (by kernel_rfl) (by kernel_rfl) (fun w hE hΦ => (NText_all _ (Rat.divInt (X) (Y)) _ hΦ.2 (Nat.le_trans (Nat.le_trans (ml_mono (HK.size (by omega)).1) HW.2.2.1) (by decide)) (Nat.le_trans (Nat.le_trans (ml_mono (HK.size (by omega)).2) HW.2.2.1) (by decide))).mono (fun _ _ h => post_val h rfl)) (fun xx => ?_)
            refine sx_run 2 [(4, .v (.string ⟨(ratText (Rat.divInt (X) (Y))).toArray⟩)),(5, .v (.bool true))] [] (by kernel_rfl) (by kernel_rfl) ?_
            refine sx_end (by kernel_rfl) ?_
            refine sx_next ?_
            refine sx_ret ?_
            refine sx_done (v := .tuple #[.string ⟨(ratText (Rat.divInt (X) (Y))).toArray⟩, .bool true]) (by kernel_rfl) (fun w' hE hΦ => ?_)
            exact ⟨_,_,rfl,RcIs.got hr1 hr2 hd1 hd2 hm HK,hE⟩
           ·refine sx_draw 21 (by kernel_rfl) (by kernel_rfl) follows_mixed' ?_
            refine st_flt 1 [(4, .v (.string ⟨#[]⟩)),(5, .v (.bool false)),(8, .p 8 0),(13, .p 13 0),(15, .p 15 0),(101, .v (.agg #[.bool xs3, .slice xA3 xl3 xc3]))] [(15,53,[.v (.bool xs3), .v (.slice xA3 xl3 xc3)]),(13,53,[.v (.bool xs1), .v (.slice xA1 xl1 xc1)]),(8,55,[.v (.bool s15), .v (.slice A15 l15 c15), .v (.bool t15), .v (.slice B15 0 d15)])] (by kernel_rfl) (by kernel_rfl) ?_
            refine st_call 70 [.agg #[.bool xs3, .slice xA3 xl3 xc3]] 102 shInt _ (by kernel_rfl) (by kernel_rfl) (by kernel_rfl) (fun w hE hΦ => (NTwice_any _ (Y) _ hΦ.2 SY).mono (fun _ _ h => post_Num h)) (fun xx => ?_)
            obtain ⟨s36,A36,l36,c36⟩ := xx
            refine st_flt 2 [(4, .v (.string ⟨#[]⟩)),(5, .v (.bool false)),(8, .p 8 0),(13, .p 13 0),(15, .p 15 0),(102, .v (.agg #[.bool s36, .slice A36 l36 c36])),(104, .v (.agg #[.bool s15, .slice A15 l15 c15]))] [(15,53,[.v (.bool xs3), .v (.slice xA3 xl3 xc3)]),(13,53,[.v (.bool xs1), .v (.slice xA1 xl1 xc1)]),(8,55,[.v (.bool s15), .v (.slice A15 l15 c15), .v (.bool t15), .v (.slice B15 0 d15)])] (by kernel_rfl) (by kernel_rfl) ?_
            refine st_call 67 [.agg #[.bool s36, .slice A36 l36 c36], .agg #[.bool s15, .slice A15 l15 c15]] 105 (fun _ : Unit => .int .i64 ((Y * Y * 2) - ((q2).num)).sign) _ (by kernel_rfl) (by kernel_rfl) (by kernel_rfl) (fun w hE hΦ => (NCmp_any _ _ (Y * Y * 2) ((q2).num) _ hΦ.2 hΦ.1.1.1.num (nfit (mlm (b := 1) (mlm SY SY) ml2) (by decide)) (nfit HW.2.2.1 (by decide))).mono (fun _ _ h => post_val h rfl)) (fun xx => ?_)
            refine st_flt 1 [(4, .v (.string ⟨#[]⟩)),(5, .v (.bool false)),(8, .p 8 0),(13, .p 13 0),(15, .p 15 0),(106, .v (.bool (decide (((Y * Y * 2) - ((q2).num)).sign ≥ 0))))] [(15,53,[.v (.bool xs3), .v (.slice xA3 xl3 xc3)]),(13,53,[.v (.bool xs1), .v (.slice xA1 xl1 xc1)]),(8,55,[.v (.bool s15), .v (.slice A15 l15 c15), .v (.bool t15), .v (.slice B15 0 d15)])] (by kernel_rfl) (by kernel_rfl) ?_
            rw [sgn_ge_f hc1]
            refine st_flt 4 [(4, .v (.string ⟨#[]⟩)),(5, .v (.bool false)),(13, .p 13 0),(15, .p 15 0),(107, .v (.bool false)),(108, .v (.agg #[.bool xs3, .slice xA3 xl3 xc3])),(110, .v (.agg #[.bool s15, .slice A15 l15 c15]))] [(15,53,[.v (.bool xs3), .v (.slice xA3 xl3 xc3)]),(13,53,[.v (.bool xs1), .v (.slice xA1 xl1 xc1)]),(8,55,[.v (.bool s15), .v (.slice A15 l15 c15), .v (.bool t15), .v (.slice B15 0 d15)])] (by kernel_rfl) (by kernel_rfl) ?_
            refine st_call 74 [.agg #[.bool xs3, .slice xA3 xl3 xc3], .agg #[.bool s15, .slice A15 l15 c15]] 111 shInt _ (by kernel_rfl) (by kernel_rfl) (by kernel_rfl) (fun w hE hΦ => (NGcd_any _ _ (Y) ((q2).num) _ hΦ.1.1.2 hΦ.1.1.1.1.num (nfit SY (by decide)) (nfit HW.2.2.1 (by decide))).mono (fun _ _ h => post_Num h)) (fun xx => ?_)
            obtain ⟨s37,A37,l37,c37⟩ := xx
            refine st_flt 0 [(4, .v (.string ⟨#[]⟩)),(5, .v (.bool false)),(13, .p 13 0),(15, .p 15 0),(107, .v (.bool false)),(111, .v (.agg #[.bool s37, .slice A37 l37 c37]))] [(15,53,[.v (.bool xs3), .v (.slice xA3 xl3 xc3)]),(13,53,[.v (.bool xs1), .v (.slice xA1 xl1 xc1)]),(8,55,[.v (.bool s15), .v (.slice A15 l15 c15), .v (.bool t15), .v (.slice B15 0 d15)])] (by kernel_rfl) (by kernel_rfl) ?_
            refine st_call 73 [.agg #[.bool s37, .slice A37 l37 c37]] 112 (fun _ : Unit => .int .i64 ((blen (((Int.gcd (Y) ((q2).num) : Nat) : Int)).natAbs : Nat) : Int)) _ (by kernel_rfl) (by kernel_rfl) (by kernel_rfl) (fun w hE hΦ => (NBits_any _ (((Int.gcd (Y) ((q2).num) : Nat) : Int)) _ hΦ.2 (NFits.gcd (nfit HW.2.2.1 (by decide)) (by omega))).mono (fun _ _ h => post_val h rfl)) (fun xx => ?_)
            refine st_flt 1 [(4, .v (.string ⟨#[]⟩)),(5, .v (.bool false)),(13, .p 13 0),(15, .p 15 0),(107, .v (.bool false)),(113, .v (.bool ((((blen (((Int.gcd (Y) ((q2).num) : Nat) : Int)).natAbs : Nat) : Int) : Int) != 1)))] [(15,53,[.v (.bool xs3), .v (.slice xA3 xl3 xc3)]),(13,53,[.v (.bool xs1), .v (.slice xA1 xl1 xc1)]),(8,55,[.v (.bool s15), .v (.slice A15 l15 c15), .v (.bool t15), .v (.slice B15 0 d15)])] (by kernel_rfl) (by kernel_rfl) ?_
            rw [bit_one hc2]
            refine st_flt 4 [(4, .v (.string ⟨#[]⟩)),(5, .v (.bool false)),(13, .p 13 0),(15, .p 15 0),(115, .v (.bool false)),(116, .v (.agg #[.bool xs1, .slice xA1 xl1 xc1])),(117, .v (.agg #[.bool xs3, .slice xA3 xl3 xc3]))] [(15,53,[.v (.bool xs3), .v (.slice xA3 xl3 xc3)]),(13,53,[.v (.bool xs1), .v (.slice xA1 xl1 xc1)]),(8,55,[.v (.bool s15), .v (.slice A15 l15 c15), .v (.bool t15), .v (.slice B15 0 d15)])] (by kernel_rfl) (by kernel_rfl) ?_
            refine st_call 74 [.agg #[.bool xs1, .slice xA1 xl1 xc1], .agg #[.bool xs3, .slice xA3 xl3 xc3]] 118 shInt _ (by kernel_rfl) (by kernel_rfl) (by kernel_rfl) (fun w hE hΦ => (NGcd_any _ _ (X) (Y) _ hΦ.1.1.1.1.1.2 hΦ.1.1.1.1.2 (nfit SX (by decide)) (nfit SY (by decide))).mono (fun _ _ h => post_Num h)) (fun xx => ?_)
            obtain ⟨s38,A38,l38,c38⟩ := xx
            refine st_flt 0 [(4, .v (.string ⟨#[]⟩)),(5, .v (.bool false)),(13, .p 13 0),(15, .p 15 0),(115, .v (.bool false)),(118, .v (.agg #[.bool s38, .slice A38 l38 c38]))] [(15,53,[.v (.bool xs3), .v (.slice xA3 xl3 xc3)]),(13,53,[.v (.bool xs1), .v (.slice xA1 xl1 xc1)]),(8,55,[.v (.bool s15), .v (.slice A15 l15 c15), .v (.bool t15), .v (.slice B15 0 d15)])] (by kernel_rfl) (by kernel_rfl) ?_
            refine st_call 73 [.agg #[.bool s38, .slice A38 l38 c38]] 119 (fun _ : Unit => .int .i64 ((blen (((Int.gcd (X) (Y) : Nat) : Int)).natAbs : Nat) : Int)) _ (by kernel_rfl) (by kernel_rfl) (by kernel_rfl) (fun w hE hΦ => (NBits_any _ (((Int.gcd (X) (Y) : Nat) : Int)) _ hΦ.2 (NFits.gcd (nfit SY (by decide)) hY0)).mono (fun _ _ h => post_val h rfl)) (fun xx => ?_)
            refine st_flt 1 [(4, .v (.string ⟨#[]⟩)),(5, .v (.bool false)),(13, .p 13 0),(15, .p 15 0),(115, .v (.bool false)),(120, .v (.bool ((((blen (((Int.gcd (X) (Y) : Nat) : Int)).natAbs : Nat) : Int) : Int) != 1)))] [(15,53,[.v (.bool xs3), .v (.slice xA3 xl3 xc3)]),(13,53,[.v (.bool xs1), .v (.slice xA1 xl1 xc1)]),(8,55,[.v (.bool s15), .v (.slice A15 l15 c15), .v (.bool t15), .v (.slice B15 0 d15)])] (by kernel_rfl) (by kernel_rfl) ?_
            rw [bit_big hc3]
            refine st_flt 1 [(4, .v (.string ⟨#[]⟩)),(5, .v (.bool false)),(13, .p 13 0),(15, .p 15 0),(121, .v (.bool true))] [(15,53,[.v (.bool xs3), .v (.slice xA3 xl3 xc3)]),(13,53,[.v (.bool xs1), .v (.slice xA1 xl1 xc1)]),(8,55,[.v (.bool s15), .v (.slice A15 l15 c15), .v (.bool t15), .v (.slice B15 0 d15)])] (by kernel_rfl) (by kernel_rfl) ?_
            refine st_end (by kernel_rfl) ?_
            refine sx_end (by kernel_rfl) ?_
            refine sx_next ?_
            refine sx_cond_t (by kernel_rfl) ?_
            refine sx_seq ?_
            refine sx_region ?_
            refine sx_run 2 [(4, .v (.string ⟨#[]⟩)),(5, .v (.bool false)),(13, .p 13 0),(15, .p 15 0)] [(15,53,[.v (.bool xs3), .v (.slice xA3 xl3 xc3)]),(13,53,[.v (.bool xs1), .v (.slice xA1 xl1 xc1)])] (by kernel_rfl) (by kernel_rfl) ?_
            refine sx_end (by kernel_rfl) ?_
            refine sx_next ?_
            refine sx_ret ?_
            refine sx_then_ret ?_
            refine sx_done (v := .tuple #[.string ⟨#[]⟩, .bool false]) (by kernel_rfl) (fun w' hE hΦ => ?_)
            exact ⟨_,_,rfl,RcIs.not hr1 hr2 (rec_no (HR _ _ (RecRun.done hsm)) hXY (fun h => hc3 h.2.2)),hE⟩
          ·refine sx_draw 21 (by kernel_rfl) (by kernel_rfl) follows_mixed' ?_
           refine st_flt 1 [(4, .v (.string ⟨#[]⟩)),(5, .v (.bool false)),(8, .p 8 0),(13, .p 13 0),(15, .p 15 0),(101, .v (.agg #[.bool xs3, .slice xA3 xl3 xc3]))] [(15,53,[.v (.bool xs3), .v (.slice xA3 xl3 xc3)]),(13,53,[.v (.bool xs1), .v (.slice xA1 xl1 xc1)]),(8,55,[.v (.bool s15), .v (.slice A15 l15 c15), .v (.bool t15), .v (.slice B15 0 d15)])] (by kernel_rfl) (by kernel_rfl) ?_
           refine st_call 70 [.agg #[.bool xs3, .slice xA3 xl3 xc3]] 102 shInt _ (by kernel_rfl) (by kernel_rfl) (by kernel_rfl) (fun w hE hΦ => (NTwice_any _ (Y) _ hΦ.2 SY).mono (fun _ _ h => post_Num h)) (fun xx => ?_)
           obtain ⟨s39,A39,l39,c39⟩ := xx
           refine st_flt 2 [(4, .v (.string ⟨#[]⟩)),(5, .v (.bool false)),(8, .p 8 0),(13, .p 13 0),(15, .p 15 0),(102, .v (.agg #[.bool s39, .slice A39 l39 c39])),(104, .v (.agg #[.bool s15, .slice A15 l15 c15]))] [(15,53,[.v (.bool xs3), .v (.slice xA3 xl3 xc3)]),(13,53,[.v (.bool xs1), .v (.slice xA1 xl1 xc1)]),(8,55,[.v (.bool s15), .v (.slice A15 l15 c15), .v (.bool t15), .v (.slice B15 0 d15)])] (by kernel_rfl) (by kernel_rfl) ?_
           refine st_call 67 [.agg #[.bool s39, .slice A39 l39 c39], .agg #[.bool s15, .slice A15 l15 c15]] 105 (fun _ : Unit => .int .i64 ((Y * Y * 2) - ((q2).num)).sign) _ (by kernel_rfl) (by kernel_rfl) (by kernel_rfl) (fun w hE hΦ => (NCmp_any _ _ (Y * Y * 2) ((q2).num) _ hΦ.2 hΦ.1.1.1.num (nfit (mlm (b := 1) (mlm SY SY) ml2) (by decide)) (nfit HW.2.2.1 (by decide))).mono (fun _ _ h => post_val h rfl)) (fun xx => ?_)
           refine st_flt 1 [(4, .v (.string ⟨#[]⟩)),(5, .v (.bool false)),(8, .p 8 0),(13, .p 13 0),(15, .p 15 0),(106, .v (.bool (decide (((Y * Y * 2) - ((q2).num)).sign ≥ 0))))] [(15,53,[.v (.bool xs3), .v (.slice xA3 xl3 xc3)]),(13,53,[.v (.bool xs1), .v (.slice xA1 xl1 xc1)]),(8,55,[.v (.bool s15), .v (.slice A15 l15 c15), .v (.bool t15), .v (.slice B15 0 d15)])] (by kernel_rfl) (by kernel_rfl) ?_
           rw [sgn_ge_f hc1]
           refine st_flt 4 [(4, .v (.string ⟨#[]⟩)),(5, .v (.bool false)),(13, .p 13 0),(15, .p 15 0),(107, .v (.bool false)),(108, .v (.agg #[.bool xs3, .slice xA3 xl3 xc3])),(110, .v (.agg #[.bool s15, .slice A15 l15 c15]))] [(15,53,[.v (.bool xs3), .v (.slice xA3 xl3 xc3)]),(13,53,[.v (.bool xs1), .v (.slice xA1 xl1 xc1)]),(8,55,[.v (.bool s15), .v (.slice A15 l15 c15), .v (.bool t15), .v (.slice B15 0 d15)])] (by kernel_rfl) (by kernel_rfl) ?_
           refine st_call 74 [.agg #[.bool xs3, .slice xA3 xl3 xc3], .agg #[.bool s15, .slice A15 l15 c15]] 111 shInt _ (by kernel_rfl) (by kernel_rfl) (by kernel_rfl) (fun w hE hΦ => (NGcd_any _ _ (Y) ((q2).num) _ hΦ.1.1.2 hΦ.1.1.1.1.num (nfit SY (by decide)) (nfit HW.2.2.1 (by decide))).mono (fun _ _ h => post_Num h)) (fun xx => ?_)
           obtain ⟨s40,A40,l40,c40⟩ := xx
           refine st_flt 0 [(4, .v (.string ⟨#[]⟩)),(5, .v (.bool false)),(13, .p 13 0),(15, .p 15 0),(107, .v (.bool false)),(111, .v (.agg #[.bool s40, .slice A40 l40 c40]))] [(15,53,[.v (.bool xs3), .v (.slice xA3 xl3 xc3)]),(13,53,[.v (.bool xs1), .v (.slice xA1 xl1 xc1)]),(8,55,[.v (.bool s15), .v (.slice A15 l15 c15), .v (.bool t15), .v (.slice B15 0 d15)])] (by kernel_rfl) (by kernel_rfl) ?_
           refine st_call 73 [.agg #[.bool s40, .slice A40 l40 c40]] 112 (fun _ : Unit => .int .i64 ((blen (((Int.gcd (Y) ((q2).num) : Nat) : Int)).natAbs : Nat) : Int)) _ (by kernel_rfl) (by kernel_rfl) (by kernel_rfl) (fun w hE hΦ => (NBits_any _ (((Int.gcd (Y) ((q2).num) : Nat) : Int)) _ hΦ.2 (NFits.gcd (nfit HW.2.2.1 (by decide)) (by omega))).mono (fun _ _ h => post_val h rfl)) (fun xx => ?_)
           refine st_flt 1 [(4, .v (.string ⟨#[]⟩)),(5, .v (.bool false)),(13, .p 13 0),(15, .p 15 0),(107, .v (.bool false)),(113, .v (.bool ((((blen (((Int.gcd (Y) ((q2).num) : Nat) : Int)).natAbs : Nat) : Int) : Int) != 1)))] [(15,53,[.v (.bool xs3), .v (.slice xA3 xl3 xc3)]),(13,53,[.v (.bool xs1), .v (.slice xA1 xl1 xc1)]),(8,55,[.v (.bool s15), .v (.slice A15 l15 c15), .v (.bool t15), .v (.slice B15 0 d15)])] (by kernel_rfl) (by kernel_rfl) ?_
           rw [bit_big hc2]
           refine st_flt 8 [(4, .v (.string ⟨#[]⟩)),(5, .v (.bool false)),(13, .p 13 0),(15, .p 15 0),(121, .v (.bool true))] [(15,53,[.v (.bool xs3), .v (.slice xA3 xl3 xc3)]),(13,53,[.v (.bool xs1), .v (.slice xA1 xl1 xc1)]),(8,55,[.v (.bool s15), .v (.slice A15 l15 c15), .v (.bool t15), .v (.slice B15 0 d15)])] (by kernel_rfl) (by kernel_rfl) ?_
           refine st_end (by kernel_rfl) ?_
           refine sx_end (by kernel_rfl) ?_
           refine sx_next ?_
           refine sx_cond_t (by kernel_rfl) ?_
           refine sx_seq ?_
           refine sx_region ?_
           refine sx_run 2 [(4, .v (.string ⟨#[]⟩)),(5, .v (.bool false)),(13, .p 13 0),(15, .p 15 0)] [(15,53,[.v (.bool xs3), .v (.slice xA3 xl3 xc3)]),(13,53,[.v (.bool xs1), .v (.slice xA1 xl1 xc1)])] (by kernel_rfl) (by kernel_rfl) ?_
           refine sx_end (by kernel_rfl) ?_
           refine sx_next ?_
           refine sx_ret ?_
           refine sx_then_ret ?_
           refine sx_done (v := .tuple #[.string ⟨#[]⟩, .bool false]) (by kernel_rfl) (fun w' hE hΦ => ?_)
           exact ⟨_,_,rfl,RcIs.not hr1 hr2 (rec_no (HR _ _ (RecRun.done hsm)) hXY (fun h => hc2 h.2.1)),hE⟩
         ·refine sx_draw 21 (by kernel_rfl) (by kernel_rfl) follows_mixed' ?_
          refine st_flt 1 [(4, .v (.string ⟨#[]⟩)),(5, .v (.bool false)),(8, .p 8 0),(13, .p 13 0),(15, .p 15 0),(101, .v (.agg #[.bool xs3, .slice xA3 xl3 xc3]))] [(15,53,[.v (.bool xs3), .v (.slice xA3 xl3 xc3)]),(13,53,[.v (.bool xs1), .v (.slice xA1 xl1 xc1)]),(8,55,[.v (.bool s15), .v (.slice A15 l15 c15), .v (.bool t15), .v (.slice B15 0 d15)])] (by kernel_rfl) (by kernel_rfl) ?_
          refine st_call 70 [.agg #[.bool xs3, .slice xA3 xl3 xc3]] 102 shInt _ (by kernel_rfl) (by kernel_rfl) (by kernel_rfl) (fun w hE hΦ => (NTwice_any _ (Y) _ hΦ.2 SY).mono (fun _ _ h => post_Num h)) (fun xx => ?_)
          obtain ⟨s41,A41,l41,c41⟩ := xx
          refine st_flt 2 [(4, .v (.string ⟨#[]⟩)),(5, .v (.bool false)),(8, .p 8 0),(13, .p 13 0),(15, .p 15 0),(102, .v (.agg #[.bool s41, .slice A41 l41 c41])),(104, .v (.agg #[.bool s15, .slice A15 l15 c15]))] [(15,53,[.v (.bool xs3), .v (.slice xA3 xl3 xc3)]),(13,53,[.v (.bool xs1), .v (.slice xA1 xl1 xc1)]),(8,55,[.v (.bool s15), .v (.slice A15 l15 c15), .v (.bool t15), .v (.slice B15 0 d15)])] (by kernel_rfl) (by kernel_rfl) ?_
          refine st_call 67 [.agg #[.bool s41, .slice A41 l41 c41], .agg #[.bool s15, .slice A15 l15 c15]] 105 (fun _ : Unit => .int .i64 ((Y * Y * 2) - ((q2).num)).sign) _ (by kernel_rfl) (by kernel_rfl) (by kernel_rfl) (fun w hE hΦ => (NCmp_any _ _ (Y * Y * 2) ((q2).num) _ hΦ.2 hΦ.1.1.1.num (nfit (mlm (b := 1) (mlm SY SY) ml2) (by decide)) (nfit HW.2.2.1 (by decide))).mono (fun _ _ h => post_val h rfl)) (fun xx => ?_)
          refine st_flt 1 [(4, .v (.string ⟨#[]⟩)),(5, .v (.bool false)),(8, .p 8 0),(13, .p 13 0),(15, .p 15 0),(106, .v (.bool (decide (((Y * Y * 2) - ((q2).num)).sign ≥ 0))))] [(15,53,[.v (.bool xs3), .v (.slice xA3 xl3 xc3)]),(13,53,[.v (.bool xs1), .v (.slice xA1 xl1 xc1)]),(8,55,[.v (.bool s15), .v (.slice A15 l15 c15), .v (.bool t15), .v (.slice B15 0 d15)])] (by kernel_rfl) (by kernel_rfl) ?_
          rw [sgn_ge_t hc1]
          refine st_flt 15 [(4, .v (.string ⟨#[]⟩)),(5, .v (.bool false)),(13, .p 13 0),(15, .p 15 0),(121, .v (.bool true))] [(15,53,[.v (.bool xs3), .v (.slice xA3 xl3 xc3)]),(13,53,[.v (.bool xs1), .v (.slice xA1 xl1 xc1)]),(8,55,[.v (.bool s15), .v (.slice A15 l15 c15), .v (.bool t15), .v (.slice B15 0 d15)])] (by kernel_rfl) (by kernel_rfl) ?_
          refine st_end (by kernel_rfl) ?_
          refine sx_end (by kernel_rfl) ?_
          refine sx_next ?_
          refine sx_cond_t (by kernel_rfl) ?_
          refine sx_seq ?_
          refine sx_region ?_
          refine sx_run 2 [(4, .v (.string ⟨#[]⟩)),(5, .v (.bool false)),(13, .p 13 0),(15, .p 15 0)] [(15,53,[.v (.bool xs3), .v (.slice xA3 xl3 xc3)]),(13,53,[.v (.bool xs1), .v (.slice xA1 xl1 xc1)])] (by kernel_rfl) (by kernel_rfl) ?_
          refine sx_end (by kernel_rfl) ?_
          refine sx_next ?_
          refine sx_ret ?_
          refine sx_then_ret ?_
          refine sx_done (v := .tuple #[.string ⟨#[]⟩, .bool false]) (by kernel_rfl) (fun w' hE hΦ => ?_)
          exact ⟨_,_,rfl,RcIs.not hr1 hr2 (rec_no (HR _ _ (RecRun.done hsm)) hXY (fun h => hc1 h.1)),hE⟩
    ·obtain ⟨k42,rfl⟩ : ∃ k,m15 = k + 1 := ⟨m15 - 1,by have := HK.2.2 hd2; omega⟩
     refine sx_draw 27 (by kernel_rfl) (by kernel_rfl) follows_mixed' ?_
     refine st_flt 19 [(4, .v (.string ⟨#[]⟩)),(5, .v (.bool false)),(6, .p 6 0),(8, .p 8 0),(41, .v (.bool false)),(46, .v (.bool (decide (((k42 + 1 : Nat) : Int) > 0))))] [(8,55,[.v (.bool s15), .v (.slice A15 l15 c15), .v (.bool t15), .v (.slice B15 (k42 + 1) d15)]),(6,55,[.v (.bool s13), .v (.slice A13 l13 c13), .v (.bool t13), .v (.slice B13 0 d13)])] (by kernel_rfl) (by kernel_rfl) ?_
     rw [succ_pos' k42]
     refine st_flt 8 [(4, .v (.string ⟨#[]⟩)),(5, .v (.bool false)),(6, .p 6 0),(8, .p 8 0),(54, .v (.bool true))] [(8,55,[.v (.bool s15), .v (.slice A15 l15 c15), .v (.bool t15), .v (.slice B15 (k42 + 1) d15)]),(6,55,[.v (.bool s13), .v (.slice A13 l13 c13), .v (.bool t13), .v (.slice B13 0 d13)])] (by kernel_rfl) (by kernel_rfl) ?_
     refine st_end (by kernel_rfl) ?_
     refine sx_end (by kernel_rfl) ?_
     refine sx_next ?_
     refine sx_cond_t (by kernel_rfl) ?_
     refine sx_seq ?_
     refine sx_region ?_
     refine sx_run 2 [(4, .v (.string ⟨#[]⟩)),(5, .v (.bool false)),(6, .p 6 0),(8, .p 8 0)] [(8,55,[.v (.bool s15), .v (.slice A15 l15 c15), .v (.bool t15), .v (.slice B15 (k42 + 1) d15)]),(6,55,[.v (.bool s13), .v (.slice A13 l13 c13), .v (.bool t13), .v (.slice B13 0 d13)])] (by kernel_rfl) (by kernel_rfl) ?_
     refine sx_end (by kernel_rfl) ?_
     refine sx_next ?_
     refine sx_ret ?_
     refine sx_then_ret ?_
     refine sx_done (v := .tuple #[.string ⟨#[]⟩, .bool false]) (by kernel_rfl) (fun w' hE hΦ => ?_)
     exact ⟨_,_,rfl,RcIs.frac2 hr2 hd2,hE⟩
   ·obtain ⟨k43,rfl⟩ : ∃ k,m13 = k + 1 := ⟨m13 - 1,by have := HK.1.2 hd1; omega⟩
    refine sx_draw 27 (by kernel_rfl) (by kernel_rfl) follows_mixed' ?_
    refine st_flt 12 [(4, .v (.string ⟨#[]⟩)),(5, .v (.bool false)),(6, .p 6 0),(8, .p 8 0),(34, .v (.bool false)),(39, .v (.bool (decide (((k43 + 1 : Nat) : Int) > 0))))] [(8,55,[.v (.bool s15), .v (.slice A15 l15 c15), .v (.bool t15), .v (.slice B15 m15 d15)]),(6,55,[.v (.bool s13), .v (.slice A13 l13 c13), .v (.bool t13), .v (.slice B13 (k43 + 1) d13)])] (by kernel_rfl) (by kernel_rfl) ?_
    rw [succ_pos' k43]
    refine st_flt 15 [(4, .v (.string ⟨#[]⟩)),(5, .v (.bool false)),(6, .p 6 0),(8, .p 8 0),(54, .v (.bool true))] [(8,55,[.v (.bool s15), .v (.slice A15 l15 c15), .v (.bool t15), .v (.slice B15 m15 d15)]),(6,55,[.v (.bool s13), .v (.slice A13 l13 c13), .v (.bool t13), .v (.slice B13 (k43 + 1) d13)])] (by kernel_rfl) (by kernel_rfl) ?_
    refine st_end (by kernel_rfl) ?_
    refine sx_end (by kernel_rfl) ?_
    refine sx_next ?_
    refine sx_cond_t (by kernel_rfl) ?_
    refine sx_seq ?_
    refine sx_region ?_
    refine sx_run 2 [(4, .v (.string ⟨#[]⟩)),(5, .v (.bool false)),(6, .p 6 0),(8, .p 8 0)] [(8,55,[.v (.bool s15), .v (.slice A15 l15 c15), .v (.bool t15), .v (.slice B15 m15 d15)]),(6,55,[.v (.bool s13), .v (.slice A13 l13 c13), .v (.bool t13), .v (.slice B13 (k43 + 1) d13)])] (by kernel_rfl) (by kernel_rfl) ?_
    refine sx_end (by kernel_rfl) ?_
    refine sx_next ?_
    refine sx_ret ?_
    refine sx_then_ret ?_
    refine sx_done (v := .tuple #[.string ⟨#[]⟩, .bool false]) (by kernel_rfl) (fun w' hE hΦ => ?_)
    exact ⟨_,_,rfl,RcIs.frac1 hr1 hd1,hE⟩
end Go.Proofs.YtndafmjcelgnbaaGreatDoor
