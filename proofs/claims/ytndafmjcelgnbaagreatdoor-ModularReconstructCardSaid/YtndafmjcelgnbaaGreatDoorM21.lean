/-
 My texts Rt, Gen2, Reduce, Whole, Ra, Reduce2, Ts, Rec, RcM, Recon, Awake put together.
-/
import Derived.Test.YtndafmjcelgnbaaGreatDoorM20
import Derived.Test.YtndafmjcelgnbaaGreatDoorM16
import Derived.Test.YtndafmjcelgnbaaGreatDoorM15
import Derived.Test.YtndafmjcelgnbaaGreatDoorM14
import Derived.Deep.DeepCutAuto
import Derived.Deep.LoopGhost
import Derived.Test.YtndafmjcelgnbaaGreatDoorM19
import Derived.Test.YtndafmjcelgnbaaGreatDoorM02
namespace Go.Proofs.YtndafmjcelgnbaaGreatDoor
open Go.RowKit
theorem digit_back {c : UInt8} (h : isDig c = true) : UInt8.ofNat (48 + (c.toNat - 48)) = c := by
 have := isDig_le h
 apply UInt8.toNat.inj
 rw [UInt8.toNat_ofNat']
 have := c.toNat_lt
 omega
theorem dec_of : ∀ (k : Nat) (l : List UInt8),l.length = k → l.all isDig = true → l ≠ [] → l.head? ≠ some 48 → Lib.decDigits (decVal l) = l := by
 intro k
 induction k with
 | zero => intro l hl _ h0; exact absurd (List.length_eq_zero_iff.1 hl) h0
 | succ k ih =>
   intro l hl hd h0 h48
   obtain ⟨l',c,rfl⟩ : ∃ l' c,l = l' ++ [c] := by
    rcases List.eq_nil_or_concat l with h | ⟨l',c,h⟩
    ·exact absurd h h0
    ·exact ⟨l',c,by simpa using h⟩
   rw [List.all_append,Bool.and_eq_true] at hd
   have hc : isDig c = true := by simpa using hd.2
   have hcb := isDig_le hc
   rw [decVal_snoc]
   by_cases hl0 : l' = []
   ·subst hl0
    have e : decVal [] = 0 := rfl
    rw [e,Nat.mul_zero,Nat.zero_add,dec_one (by omega),digit_back hc]; rfl
   ·have hh : l'.head? ≠ some 48 := by
     rw [List.head?_append] at h48
     cases hx : l'.head? with
     | none => exact absurd (List.head?_eq_none_iff.1 hx) hl0
     | some x => rw [hx] at h48; exact h48
    have h1 := ih l' (by simp at hl; exact hl) hd.1 hl0 hh
    have hp := (decVal_pos hd.1 hl0 hh).1
    rw [dec_succ (by omega),show (10 * decVal l' + (c.toNat - 48)) / 10 = decVal l' by omega,show (10 * decVal l' + (c.toNat - 48)) % 10 = c.toNat - 48 by omega,h1,digit_back hc]
theorem head_dec_ne (n : Nat) : (Lib.decDigits n).head? ≠ some 45 := by
 intro e
 cases h : Lib.decDigits n with
 | nil => exact decDigits_ne n h
 | cons x xs =>
   rw [h] at e
   simp only [List.head?_cons,Option.some.injEq] at e
   subst e
   have := dec_all n
   rw [h] at this
   simp only [List.all_cons,Bool.and_eq_true] at this
   exact absurd this.1 (by decide)
theorem takeWhile_stop {p : UInt8 → Bool} {l r : List UInt8} {c : UInt8} (h : l.all p = true) (hc : p c = false) : (l ++ c :: r).takeWhile p = l ∧ (l ++ c :: r).dropWhile p = c :: r := by
 induction l with
 | nil => simp [hc]
 | cons x xs ih =>
   simp only [List.all_cons,Bool.and_eq_true] at h
   obtain ⟨h1,h2⟩ := ih h.2
   rw [List.cons_append,List.takeWhile_cons,List.dropWhile_cons,h.1]
   simp [h1,h2]
theorem unsign_itoa (z : Int) (r : List UInt8) : unsign (Lib.itoa z ++ r) = (decide (z < 0),Lib.decDigits z.natAbs ++ r) := by
 by_cases h : z < 0
 ·rw [itoa_neg h,decide_eq_true h]
  unfold unsign
  rw [if_pos (by simp)]
  rfl
 ·rw [itoa_nn (by omega),decide_eq_false h]
  unfold unsign
  rw [if_neg]
  intro e
  rw [List.head?_append] at e
  cases hx : (Lib.decDigits z.natAbs).head? with
  | none => exact absurd (List.head?_eq_none_iff.1 hx) (decDigits_ne _)
  | some c =>
    rw [hx] at e
    exact head_dec_ne _ (hx.trans e)
theorem sg_abs (z : Int) : sg (decide (z < 0)) z.natAbs = z := by
 unfold sg
 split
 ·rename_i h; have := of_decide_eq_true h; omega
 ·rename_i h; have : ¬ z < 0 := fun k => h (decide_eq_true k); omega
theorem whole_self {q : Rat} (h : q.den = 1) : ((q.num : Int) : Rat) = q := by
 apply Rat.ext <;> simp [h]
theorem num_ne {q : Rat} (h : q.den ≠ 1) : q.num ≠ 0 := by
 intro e
 have := q.reduced
 rw [e] at this
 simp [Nat.Coprime] at this
 exact h this
theorem itoa_den (n : Nat) : Lib.itoa (n : Int) = Lib.decDigits n := by
 rw [itoa_nn (by omega),Int.natAbs_natCast]
theorem split_text {q : Rat} (h : q.den ≠ 1) : splitF (ratText q) = (decide (q.num < 0),Lib.decDigits q.num.natAbs,Lib.decDigits q.den,true) := by
 have hn := num_ne h
 have hd := q.den_nz
 unfold ratText
 rw [if_neg h,itoa_den,List.append_assoc]
 unfold splitF
 rw [unsign_itoa]
 simp only []
 obtain ⟨h1,h2⟩ := takeWhile_stop (p := isDig) (r := Lib.decDigits q.den) (c := 47) (dec_all q.num.natAbs) (by decide)
 have e : Lib.decDigits q.num.natAbs ++ ([47] ++ Lib.decDigits q.den) = Lib.decDigits q.num.natAbs ++ 47 :: Lib.decDigits q.den := rfl
 rw [e,h1,h2]
 have hh := dec_head q.num.natAbs (by omega)
 rw [if_neg (fun e => hh (by rw [e]; rfl)),if_neg (fun e => e.elim (decDigits_ne _) hh),if_neg (by simp),if_neg (by simp)]
 simp only [List.tail_cons]
 obtain ⟨h3,h4⟩ := takeWhile_all (dec_all q.den)
 rw [h3,h4]
 have hh2 := dec_head q.den (by omega)
 have h49 : Lib.decDigits q.den ≠ [49] := fun e => by
  have := dec_val q.den
  rw [e] at this
  exact h (by rw [← this]; rfl)
 have hne := decDigits_ne q.den
 simp [hh2,h49,hne]
theorem read_text (q : Rat) : readF (ratText q) = some q := by
 by_cases h : q.den = 1
 ·unfold ratText
  rw [if_pos h,read_itoa,whole_self h]
 ·unfold readF
  rw [split_text h]
  simp only []
  rw [if_neg (decDigits_ne _),dec_val,dec_val,if_pos q.reduced,sg_abs,Rat.mkRat_self]
theorem sg_neg_lt {neg : Bool} {a : Nat} (h : a = 0 → neg = false) : (sg neg a < 0 ↔ neg = true) ∧ (sg neg a).natAbs = a := by
 cases neg with
 | false => simp [sg]
 | true =>
   have : a ≠ 0 := fun e => by cases h e
   simp [sg]; omega
theorem itoa_sg {neg : Bool} {a : Nat} (h : a = 0 → neg = false) : Lib.itoa (sg neg a) = (if neg then [45] else []) ++ Lib.decDigits a := by
 obtain ⟨h1,h2⟩ := sg_neg_lt h
 cases neg with
 | false => rw [itoa_nn (by simp [sg]),h2]; rfl
 | true => rw [itoa_neg (h1.2 rfl),h2]; rfl
theorem unsign_back {l r : List UInt8} {neg : Bool} (h : unsign l = (neg,r)) : l = (if neg then [45] else []) ++ r := by
 unfold unsign at h
 split at h
 ·rename_i hh
  injection h with h1 h2
  subst h1 h2
  cases l with
  | nil => cases hh
  | cons x xs => simp at hh; subst hh; rfl
 ·injection h with h1 h2
  subst h1 h2
  rfl
theorem text_of_read {l : List UInt8} {q : Rat} (h : readF l = some q) : ratText q = l := by
 unfold readF at h
 cases hs : splitF l with
 | mk neg r =>
   obtain ⟨num,den,ok⟩ := r
   rw [hs] at h
   cases ok with
   | false => cases h
   | true =>
     simp only [] at h
     have hdg := splitF_digits hs
     obtain ⟨s1,s2⟩ := splitF_den hs
     cases hu : unsign l with
     | mk neg' t =>
       have hl := unsign_back hu
       have htw : t.takeWhile isDig ++ t.dropWhile isDig = t := List.takeWhile_append_dropWhile
       unfold splitF at hs
       rw [hu] at hs
       simp only [] at hs
       split at hs
       ·-- zero
        rename_i h48
        injection hs with e1 hs; injection hs with e2 hs; injection hs with e3 e4
        subst e1 e2 e3
        simp at e4
        rw [if_pos rfl,h48] at h
        have hv : decVal [48] = 0 := rfl
        rw [hv] at h
        injection h with h
        rw [e4.1] at h hl
        rw [← h,hl,← htw,h48,e4.2]
        simp only [sg]
        unfold ratText
        rw [if_pos (by simp)]
        have : Lib.itoa ((0 : Nat) : Int) = [48] := by rw [itoa_den,dec_one (by omega)]; rfl
        simpa using this
       split at hs
       ·injection hs with _ hs; injection hs with _ hs; injection hs with _ hs; cases hs
       rename_i hn
       have hn1 : t.takeWhile isDig ≠ [] := fun e => hn (Or.inl e)
       have hn2 : (t.takeWhile isDig).head? ≠ some 48 := fun e => hn (Or.inr e)
       have hdn := dec_of _ _ rfl (all_takeWhile (p := isDig) t) hn1 hn2
       split at hs
       ·rename_i hr
        injection hs with e1 hs; injection hs with e2 hs; injection hs with e3 _
        subst e1 e2 e3
        rw [if_pos rfl] at h
        injection h with h
        rw [← h]
        unfold ratText
        rw [if_pos (by simp)]
        have hnum : (((sg neg' (decVal (t.takeWhile isDig)) : Int)) : Rat).num = sg neg' (decVal (t.takeWhile isDig)) := rfl
        rw [hnum,itoa_sg (fun e => (s2 e).1),hdn,hl]
        rw [hr,List.append_nil] at htw
        rw [htw]
       split at hs
       ·injection hs with _ hs; injection hs with _ hs; injection hs with _ hs; cases hs
       ·rename_i hr h47
        injection hs with e1 hs; injection hs with e2 hs; injection hs with e3 e4
        subst e1 e2
        rw [e3] at e4
        simp at e4
        obtain ⟨⟨⟨k1,k2⟩,k3⟩,k4⟩ := e4
        rw [if_neg k2] at h
        split at h
        ·rename_i hg
         injection h with h
         have h2 := s1 k2
         have hq : q.num = sg neg' (decVal (t.takeWhile isDig)) ∧ q.den = decVal den := by
          have := frac_coprime (x := sg neg' (decVal (t.takeWhile isDig))) (y := (decVal den : Int)) (by omega) (by
           unfold Int.gcd
           rw [(sg_neg_lt (fun e => (s2 e).1)).2,Int.natAbs_natCast,hg]; rfl)
          rw [Rat.divInt_ofNat,h] at this
          exact ⟨this.1,by have := this.2; omega⟩
         unfold ratText
         rw [if_neg (by rw [hq.2]; omega),hq.1,hq.2,itoa_sg (fun e => (s2 e).1),hdn,itoa_den,dec_of _ _ rfl hdg.2.1 k2 k3,hl]
         have htail : t.dropWhile isDig = 47 :: den := by
          cases hx : t.dropWhile isDig with
          | nil => exact absurd hx hr
          | cons c r =>
            rw [hx] at h47 k1 e3
            simp at h47 k1 e3
            subst h47
            have := List.takeWhile_append_dropWhile (p := isDig) (l := r)
            rw [e3,k1,List.append_nil] at this
            rw [this]
         rw [htail] at htw
         rw [List.append_assoc,List.append_assoc]
         congr 1
        ·cases h
end Go.Proofs.YtndafmjcelgnbaaGreatDoor

namespace Go.Proofs.YtndafmjcelgnbaaGreatDoor
open Go.RowKit
section
variable {ops : Array Oper} {S : World → Prop} {o : Oper} {a : Act} {p : Operand} {g off : Nat} {x y z u v : Value}
theorem yeq_str {s t : ByteArray} {q : Operand} (hw : Region.wanted o (yielded ops a.tmps) = true) (ho : o.op = Op.binOp .eql 9 p q 9) (hp : a.eval p = .string s) (hq : a.eval q = .string t) : YieldsIf Tryz.prog ops S o (.bool (s.toList == t.toList)) a :=
 Or.inl ⟨hw,fun w _ => by simp only [execOp,ho,hp,hq]; simp [go_sem]⟩
end
end Go.Proofs.YtndafmjcelgnbaaGreatDoor

namespace Go.Proofs.YtndafmjcelgnbaaGreatDoor
open Go.RowKit
end Go.Proofs.YtndafmjcelgnbaaGreatDoor

namespace Go.Proofs.YtndafmjcelgnbaaGreatDoor
open Go.RowKit
theorem FormatInt_any (n : Int) (w : World) (hg : Glob w) (h0 : -9223372036854775808 ≤ n) (h1 : n ≤ 9223372036854775807) :
 Calls Tryz.prog 92 #[.int .i64 n, .int .i64 10] w (RetV w (.string ⟨(Lib.itoa n).toArray⟩)) :=
 (Tryz.strconv_FormatInt_10 n h0 h1 w hg.1).mono (by
  rintro e w' ⟨rfl,k,os,rfl⟩
  exact ⟨rfl,Fr.ofBelow (Lib.below_grow _ w (Nat.le_refl _) k os)⟩)
set_option maxHeartbeats 1000000 in
theorem FromInt_any (n : Int) (w : World) (hg : Glob w) (h0 : -9223372036854775808 ≤ n) (h1 : n ≤ 9223372036854775807) :
 Calls Tryz.prog 42 #[.int .i64 n] w (RetV w (.string ⟨(Lib.itoa n).toArray⟩)) := by
 have H := zh (FormatInt_any n w hg h0 h1)
 generalize Lib.itoa n = t at *
 clear hg
 go_enter Tryz.func42,Tryz.ntmps42
 go_wp2_with fail
 refine H.out.mono ?_
 rintro e w1 ⟨rfl,hF⟩
 have HF := zh hF
 clear hF
 go_wp2
 go_ret
 exact ⟨rfl,HF.out⟩
def RetI64 (w : World) (z : Int) (e : Ending) (w' : World) : Prop :=
 ∃ (z' : Int) (ok : Bool),e = .returned (.tuple #[.int .i64 z', .bool ok]) ∧ Hid (ok = true → z' = z ∧ -9223372036854775808 ≤ z ∧ z ≤ 9223372036854775807) ∧ Ext w w'
set_option maxHeartbeats 1000000 in
set_option maxRecDepth 100000 in
theorem Int64_any (a : Value) (z : Int) (w : World) (ha : IntIs w a z) : Calls Tryz.prog 125 #[a] w (RetI64 w z) := by
 obtain ⟨s,A,l,c,rfl,hN,hz,h0⟩ := ha.open
 obtain ⟨A',xs,c',he,hc,hX,hd,ht,hv⟩ := hN
 injection he with e1 e2 e3
 subst e1 e2 e3
 match xs,hX,hd,ht,hv with
 | [],hX,hd,ht,hv =>
   have hz0 : z = 0 := by simp at hv; omega
   have HZ : Hid ((0 : Int) = z ∧ -9223372036854775808 ≤ z ∧ z ≤ 9223372036854775807) := by unfold Hid; omega
   clear hX hd ht hv hz h0 hc hz0
   go_enter Tryz.func125,Tryz.ntmps125
   go_wp2
   go_ret2
   exact ⟨0,true,rfl,(fun _ => HZ.out),(Fr.refl _ _).alloc _⟩
 | [x],hX,hd,ht,hv =>
   obtain ⟨b,off,rfl,hb,hc0⟩ := hX.at (i := 0) (by simp)
   simp at hc0
   have hne := Nat.ne_of_lt hb
   have hxv : x = z.natAbs := by simpa using hv
   have hxW : x < 18446744073709551616 := by have := hd x (by simp); rwa [W64_eq] at this
   cases s with
   | false =>
     have hzz : z = (x : Int) := by simp [sg] at hz; omega
     by_cases hle : x ≤ 9223372036854775807
     ·have HZ : Hid ((x : Int) = z ∧ -9223372036854775808 ≤ z ∧ z ≤ 9223372036854775807) := by unfold Hid; omega
      have f1 : IntKind.i64.wrap (x : Int) = (x : Int) := IntWalk.i64_in _ (by omega)
      have t1 : decide ((x : Int) ≤ 9223372036854775807) = true := by simp; omega
      clear hX hd ht hv hz h0 hc hxv hzz hle hxW
      go_enter Tryz.func125,Tryz.ntmps125
      go_wp2
      go_ret2
      exact ⟨x,true,rfl,(fun _ => HZ.out),(Fr.refl _ _).alloc _⟩
     ·have t1 : decide ((x : Int) ≤ 9223372036854775807) = false := by simp; omega
      clear hX hd ht hv hz h0 hc hxv hzz hle hxW
      go_enter Tryz.func125,Tryz.ntmps125
      go_wp2
      go_ret2
      exact ⟨0,false,rfl,(fun h => by cases h),(Fr.refl _ _).alloc _⟩
   | true =>
     have hzz : z = -(x : Int) := by simp [sg] at hz; omega
     by_cases hle : x ≤ 9223372036854775808
     ·have HZ : Hid (-(x : Int) = z ∧ -9223372036854775808 ≤ z ∧ z ≤ 9223372036854775807) := by unfold Hid; omega
      have f1 : IntKind.i64.wrap (IntKind.u64.wrap (-(x : Int))) = -(x : Int) := by
       rw [IntKind.wrap_u64,IntKind.wrap_i64]; omega
      have t1 : decide ((x : Int) ≤ 9223372036854775808) = true := by simp; omega
      clear hX hd ht hv hz h0 hc hxv hzz hle hxW
      go_enter Tryz.func125,Tryz.ntmps125
      go_wp2
      go_ret2
      exact ⟨-(x : Int),true,rfl,(fun _ => HZ.out),(Fr.refl _ _).alloc _⟩
     ·have t1 : decide ((x : Int) ≤ 9223372036854775808) = false := by simp; omega
      clear hX hd ht hv hz h0 hc hxv hzz hle hxW
      go_enter Tryz.func125,Tryz.ntmps125
      go_wp2
      go_ret2
      exact ⟨0,false,rfl,(fun h => by cases h),(Fr.refl _ _).alloc _⟩
 | x :: y :: ys,hX,hd,ht,hv =>
   obtain ⟨b,off,rfl,hb,hc0⟩ := hX.at (i := 0) (by simp)
   simp at hc0
   have hne := Nat.ne_of_lt hb
   obtain ⟨k,hk⟩ : ∃ k,(x :: y :: ys).length = k := ⟨_,rfl⟩
   have hk2 : 2 ≤ k := by simp at hk; omega
   rw [hk]
   have t0 : ((k : Int) == 0) = false := by simp; omega
   clear hX hd ht hv hz h0 hc hk
   go_enter Tryz.func125,Tryz.ntmps125
   go_wp2
   go_ret2
   exact ⟨0,false,rfl,(fun h => by cases h),(Fr.refl _ _).alloc _⟩
set_option maxHeartbeats 1000000 in
set_option maxRecDepth 100000 in
theorem RString_whole (a : Value) (q : Rat) (w : World) (hg : Glob w) (ha : RatIs w a q) (h1 : q.den = 1) (hp : PrtOk q.num.natAbs) :
 Calls Tryz.prog 65 #[a] w (RetV w (.string ⟨(Lib.itoa q.num).toArray⟩)) := by
 obtain ⟨s,t,A,B,l,c,l',c',rfl,hn,hd⟩ := ha
 rw [denF_zero.2 h1] at hd
 generalize q.num = z at *
 have HN := zh hn
 have HD := zh hd
 have HG := zh hg
 have HP := zh hp
 clear hn hd h1 hg hp
 go_enter Tryz.func65,Tryz.ntmps65
 go_wp2_with fail
 generalize hwb : World.alloc w _ = wb
 obtain ⟨hB0,hE0⟩ := Blk.one hwb
 clear hwb
 refine (IsZero_any _ 0 _ (HD.out.ext hE0)).mono ?_
 rw [decide_eq_true rfl]
 rintro e w1 ⟨rfl,hF1⟩
 have HB1 := zh (hB0.ext hF1)
 have HE1 := zh (hE0.trans hF1)
 obtain ⟨x0,x1,x2,x3,_⟩ := (hB0.ext hF1).cell4
 clear hB0 hE0 hF1
 go_wp2_with fail
 refine (Int64_any _ z _ (HN.out.ext HE1.out)).mono ?_
 rintro e w2 ⟨z',ok,rfl,hR,hF2⟩
 have HB2 := zh (HB1.out.ext hF2)
 have HE2 := zh (HE1.out.trans hF2)
 obtain ⟨y0,y1,y2,y3,_⟩ := (HB1.out.ext hF2).cell4
 clear hF2 x0 x1 x2 x3 HB1 HE1
 cases ok with
 | true =>
   obtain ⟨rfl,r1,r2⟩ := hR.out rfl
   have HC := zh (FromInt_any z' w2 (HG.out.ext HE2.out) r1 r2)
   generalize Lib.itoa z' = txt at *
   clear r1 r2
   go_wp2_with fail
   refine HC.out.mono ?_
   rintro e w3 ⟨rfl,hF3⟩
   have HE3 := zh (HE2.out.trans hF3)
   clear hF3
   go_wp2
   go_ret
   exact ⟨rfl,HE3.out⟩
 | false =>
   have HC := zh (String_any _ z w2 (HG.out.ext HE2.out) (HN.out.ext HE2.out) HP.out)
   generalize Lib.itoa z = txt at *
   clear hR
   go_wp2_with fail
   refine HC.out.mono ?_
   rintro e w3 ⟨rfl,hF3⟩
   have HE3 := zh (HE2.out.trans hF3)
   clear hF3
   go_wp2
   go_ret
   exact ⟨rfl,HE3.out⟩
end Go.Proofs.YtndafmjcelgnbaaGreatDoor

namespace Go.Proofs.YtndafmjcelgnbaaGreatDoor
open Go.RowKit
theorem fit {x : Int} {k : Nat} (h : wl x.natAbs ≤ k) (hk : k ≤ 1048576) : Fits x := Nat.le_trans h hk
end Go.Proofs.YtndafmjcelgnbaaGreatDoor

namespace Go.Proofs.YtndafmjcelgnbaaGreatDoor
open Go.RowKit
theorem dec_wl {l : List UInt8} (hd : l.all isDig = true) (hl : l.length ≤ 570) : wl (decVal l) ≤ 30 := by
 rw [wl_le_iff]
 have h1 := decVal_lt l hd
 obtain ⟨k,hk⟩ : ∃ k,k = 30 := ⟨_,rfl⟩
 have h2 : 10 ^ l.length ≤ 10 ^ (19 * k) := Nat.pow_le_pow_right (by omega) (by omega)
 rw [← hk]
 rw [Nat.pow_mul] at h2
 have h3 : (10 ^ 19) ^ k ≤ W64 ^ k := Nat.pow_le_pow_left (by rw [W64_eq]; decide) k
 exact Nat.lt_of_lt_of_le h1 (Nat.le_trans h2 h3)
theorem ReadOk.of_len {l : List UInt8} (h : l.length ≤ 570) : ReadOk l := by
 refine ⟨h,fun neg num den hs _ => ?_⟩
 obtain ⟨d1,d2,d3⟩ := splitF_digits hs
 have w1 := dec_wl d1 (by omega)
 have w2 := dec_wl d2 (by omega)
 have hn : (sg neg (decVal num)).natAbs = decVal num := by unfold sg; split <;> omega
 exact GcdOk.words (by rw [hn]; omega) (by rw [Int.natAbs_natCast]; omega)
end Go.Proofs.YtndafmjcelgnbaaGreatDoor

namespace Go.Proofs.YtndafmjcelgnbaaGreatDoor
open Go.RowKit
theorem nDigits_le : ∀ (k u : Nat),1 ≤ k → u < 10 ^ k → Lib.nDigits u ≤ k
 | 0,_,h,_ => by omega
 | k + 1,u,_,h => by
   by_cases h0 : u < 10
   ·rw [Lib.nDigits_small h0]; omega
   ·rw [Lib.nDigits_big h0]
    have hk : 1 ≤ k := by
     rcases Nat.eq_zero_or_pos k with e | e
     ·subst e; simp at h; omega
     ·exact e
    have h1 : u / 10 < 10 ^ k := by
     rw [Nat.pow_succ] at h
     exact Nat.div_lt_of_lt_mul (by rw [Nat.mul_comm]; exact h)
    have := nDigits_le k (u / 10) hk h1
    omega
theorem itoa_le {z : Int} {k : Nat} (hk : 1 ≤ k) (h : z.natAbs < 10 ^ k) : (Lib.itoa z).length ≤ k + 1 := by
 have h1 := nDigits_le k z.natAbs hk h
 have e : 0 ≤ z → z.toNat = z.natAbs := fun h => by omega
 unfold Lib.itoa
 split
 ·simp only [List.length_cons,Lib.decDigits_length]
  omega
 ·rename_i hz
  rw [Lib.decDigits_length]
  first
   | omega
   | (rw [e (by omega)]; omega)
theorem pow_wl {n k : Nat} (h : wl n ≤ k) : n < 10 ^ (20 * k) := by
 have h1 : n < W64 ^ k := wl_le_iff.1 h
 have h2 : W64 ^ k ≤ (10 ^ 20) ^ k := Nat.pow_le_pow_left (by rw [W64_eq]; decide) k
 rw [← Nat.pow_mul] at h2
 omega
theorem RString_any (a : Value) (q : Rat) (w : World) (hg : Glob w) (ha : RatIs w a q) (hn : PrtOk q.num.natAbs) (hd : PrtOk q.den) : Calls Tryz.prog 65 #[a] w (RetV w (.string ⟨(ratText q).toArray⟩)) := by
 by_cases h : q.den = 1
 ·have := RString_whole a q w hg ha h hn
  unfold ratText
  rw [if_pos h]; exact this
 ·refine RString_frac a q w hg ha hn hd h ?_
  unfold PrtOk at hn
  have h1 := pow_wl (show wl q.num.natAbs ≤ 128 by omega)
  have h2 := itoa_le (z := q.num) (k := 20 * 128) (by decide) h1
  omega
end Go.Proofs.YtndafmjcelgnbaaGreatDoor

namespace Go.Proofs.YtndafmjcelgnbaaGreatDoor
open Go.RowKit
inductive RecRun (m : Int) : Int → Int → Int → Int → Int → Int → Prop
 | done {r0 r1 t0 t1 : Int} (h : r1 * r1 * 2 < m) : RecRun m r0 r1 t0 t1 r1 t1
 | step {r0 r1 t0 t1 r t : Int} (h : ¬ r1 * r1 * 2 < m) (k : RecRun m r1 (r0.tmod r1) t1 (t0 - r0.tdiv r1 * t1) r t) : RecRun m r0 r1 t0 t1 r t
theorem RecRun.unique {m r0 r1 t0 t1 r t r' t' : Int} (h : RecRun m r0 r1 t0 t1 r t) (k : RecRun m r0 r1 t0 t1 r' t') : r = r' ∧ t = t' := by
 induction h with
 | done h =>
   cases k with
   | done => exact ⟨rfl,rfl⟩
   | step h' => exact absurd h h'
 | step h _ ih =>
   cases k with
   | done h' => exact absurd h' h
   | step _ k => exact ih k
structure RecInv (m r0 r1 t0 t1 : Int) : Prop where
 nonneg : 0 ≤ r1
 lt : r1 < r0
 le : r0 ≤ m
 sum : (t1.natAbs : Int) * r0 + (t0.natAbs : Int) * r1 = m
 alt : (0 ≤ t0 ∧ t1 ≤ 0) ∨ (t0 ≤ 0 ∧ 0 ≤ t1)
theorem RecInv.start {m r : Int} (h0 : 0 ≤ r) (hr : r < m) : RecInv m m r 0 1 := ⟨h0,hr,Int.le_refl _,by simp,Or.inr ⟨Int.le_refl _,by omega⟩⟩
theorem RecInv.next {m r0 r1 t0 t1 : Int} (h : RecInv m r0 r1 t0 t1) (h1 : 0 < r1) : RecInv m r1 (r0.tmod r1) t1 (t0 - r0.tdiv r1 * t1) := by
 obtain ⟨h2,h3,h4,h5,h6⟩ := h
 have e1 : r0.tdiv r1 = r0 / r1 := Int.tdiv_eq_ediv_of_nonneg (by omega)
 have e2 : r0.tmod r1 = r0 % r1 := Int.tmod_eq_emod_of_nonneg (by omega)
 rw [e1,e2]
 have hq : 0 ≤ r0 / r1 := Int.ediv_nonneg (by omega) h2
 have hd := Int.mul_ediv_add_emod r0 r1
 have hm0 := Int.emod_nonneg r0 (show r1 ≠ 0 by omega)
 have hm1 := Int.emod_lt_of_pos r0 h1
 generalize r0 / r1 = q at *
 generalize r0 % r1 = r2 at *
 have habs : ((t0 - q * t1).natAbs : Int) = (t0.natAbs : Int) + q * (t1.natAbs : Int) := by
  rcases h6 with ⟨a,b⟩ | ⟨a,b⟩
  ·have e3 : (t1.natAbs : Int) = -t1 := by omega
   have e4 : (t0.natAbs : Int) = t0 := by omega
   have hp : 0 ≤ q * -t1 := Int.mul_nonneg hq (by omega)
   rw [e3,e4,Int.mul_neg]
   rw [Int.mul_neg] at hp
   omega
  ·have e3 : (t1.natAbs : Int) = t1 := by omega
   have e4 : (t0.natAbs : Int) = -t0 := by omega
   have hp : 0 ≤ q * t1 := Int.mul_nonneg hq b
   rw [e3,e4]
   omega
 refine ⟨hm0,hm1,by omega,?_,?_⟩
 ·rw [habs,Int.add_mul]
  rw [← hd,Int.mul_add] at h5
  rw [← h5,Int.mul_right_comm q,Int.mul_assoc q,Int.mul_comm (t1.natAbs : Int) (r1 * q),Int.mul_right_comm r1 q,Int.mul_comm q,Int.mul_comm r1 (t1.natAbs : Int)]
  omega
 ·rcases h6 with ⟨a,b⟩ | ⟨a,b⟩
  ·right
   have hp : 0 ≤ q * -t1 := Int.mul_nonneg hq (by omega)
   rw [Int.mul_neg] at hp
   exact ⟨b,by omega⟩
  ·left
   have hp : 0 ≤ q * t1 := Int.mul_nonneg hq b
   exact ⟨b,by omega⟩
theorem RecInv.bound {m r0 r1 t0 t1 : Int} (h : RecInv m r0 r1 t0 t1) : t1.natAbs ≤ m.natAbs ∧ r0.natAbs ≤ m.natAbs ∧ r1.natAbs ≤ m.natAbs ∧ (0 < r1 → t0.natAbs ≤ m.natAbs) := by
 obtain ⟨h2,h3,h4,h5,_⟩ := h
 have a1 : 0 ≤ (t1.natAbs : Int) * r0 := Int.mul_nonneg (by omega) (by omega)
 have a2 : 0 ≤ (t0.natAbs : Int) * r1 := Int.mul_nonneg (by omega) h2
 have a3 : (t1.natAbs : Int) * 1 ≤ (t1.natAbs : Int) * r0 := Int.mul_le_mul_of_nonneg_left (by omega) (by omega)
 refine ⟨by omega,by omega,by omega,fun h1 => ?_⟩
 have a4 : (t0.natAbs : Int) * 1 ≤ (t0.natAbs : Int) * r1 := Int.mul_le_mul_of_nonneg_left (by omega) (by omega)
 omega
def TwoNew (wb wx : World) (g h : Nat) (x y : Int) : Prop := IntAt wx g x ∧ IntAt wx h y ∧ Ext wb wx ∧ g ≠ h ∧ wb.heap.size ≤ g ∧ wb.heap.size ≤ h
theorem IntAt.new {w : World} {z : Int} {s : Bool} {A : Option Addr} {l c : Nat} (hI : IntIs w (.agg #[.bool s, .slice A l c]) z) : IntAt (w.alloc (.cells #[.bool s, .slice A l c] 67)) w.heap.size z :=
 ⟨s,A,l,c,Blk.new _ _ _,hI.ext ((Fr.refl _ _).alloc _)⟩
theorem blk_second (w : World) (t : TypeId) (x y : Array Value) : Blk t ((w.alloc (.cells x t)).alloc (.cells y t)) (w.heap.size + 1) y := by
 have e : (w.alloc (.cells x t)).heap.size = w.heap.size + 1 := by simp
 have h1 := Blk.new (w.alloc (.cells x t)) t y
 rwa [e] at h1
theorem intAt_zero {w : World} {g : Nat} (h : Blk 67 w g #[.bool false, .slice none 0 0]) : IntAt w g 0 := ⟨_,_,_,_,h,IntIs.zero w⟩
structure RecMem (w wr : World) (M R b r f g : Nat) (m r0 r1 t0 t1 : Int) : Prop where
 ext : Ext w wr
 mod : IntAt wr M m
 res : Blk 80 wr R #[.bool false, .slice none 0 0, .bool false, .slice none 0 0]
 rest0 : IntAt wr b r0
 rest1 : IntAt wr r r1
 fac0 : IntAt wr f t0
 fac1 : IntAt wr g t1
theorem RecMem.on {w wr wx : World} {M R b r f g : Nat} {m r0 r1 t0 t1 : Int} (h : RecMem w wr M R b r f g m r0 r1 t0 t1) (hF : Ext wr wx) : RecMem w wx M R b r f g m r0 r1 t0 t1 :=
 ⟨h.ext.trans hF,h.mod.ext hF,h.res.ext hF,h.rest0.ext hF,h.rest1.ext hF,h.fac0.ext hF,h.fac1.ext hF⟩
def RecNe (w : World) (M R b r f g : Nat) : Prop := w.heap.size ≤ M ∧ w.heap.size ≤ R ∧ M ≠ R ∧ M < b ∧ M < r ∧ R < b ∧ R < r ∧ b ≠ r ∧ b < f ∧ r < f ∧ b < g ∧ r < g ∧ f ≠ g
section
variable {w wr : World} {M R b r f g : Nat} {m r0 r1 t0 t1 z : Int} {s : Bool} {A : Option Addr} {l c : Nat}
theorem RecMem.put0 (h : RecMem w wr M R b r f g m r0 r1 t0 t1) (hd : RecNe w M R b r f g) (hI : IntIs wr (.agg #[.bool s, .slice A l c]) z) : RecMem w ((wr.setCell ⟨b,0,none⟩ (.bool s)).setCell ⟨b,1,none⟩ (.slice A l c)) M R b r f g m z r1 t0 t1 := by
 unfold RecNe at hd
 exact ⟨Fr.local_ h.ext (Fr.set2 _ _) (by omega),h.mod.away h.rest0 (by omega),h.res.fr (Fr.set2 (r := b) (i := 0) (j := 1) _ _) (by omega),h.rest0.put hI,h.rest1.away h.rest0 (by omega),h.fac0.away h.rest0 (by omega),h.fac1.away h.rest0 (by omega)⟩
theorem RecMem.put1 (h : RecMem w wr M R b r f g m r0 r1 t0 t1) (hd : RecNe w M R b r f g) (hI : IntIs wr (.agg #[.bool s, .slice A l c]) z) : RecMem w ((wr.setCell ⟨r,0,none⟩ (.bool s)).setCell ⟨r,1,none⟩ (.slice A l c)) M R b r f g m r0 z t0 t1 := by
 unfold RecNe at hd
 exact ⟨Fr.local_ h.ext (Fr.set2 _ _) (by omega),h.mod.away h.rest1 (by omega),h.res.fr (Fr.set2 (r := r) (i := 0) (j := 1) _ _) (by omega),h.rest0.away h.rest1 (by omega),h.rest1.put hI,h.fac0.away h.rest1 (by omega),h.fac1.away h.rest1 (by omega)⟩
theorem RecMem.put2 (h : RecMem w wr M R b r f g m r0 r1 t0 t1) (hd : RecNe w M R b r f g) (hI : IntIs wr (.agg #[.bool s, .slice A l c]) z) : RecMem w ((wr.setCell ⟨f,0,none⟩ (.bool s)).setCell ⟨f,1,none⟩ (.slice A l c)) M R b r f g m r0 r1 z t1 := by
 unfold RecNe at hd
 exact ⟨Fr.local_ h.ext (Fr.set2 _ _) (by omega),h.mod.away h.fac0 (by omega),h.res.fr (Fr.set2 (r := f) (i := 0) (j := 1) _ _) (by omega),h.rest0.away h.fac0 (by omega),h.rest1.away h.fac0 (by omega),h.fac0.put hI,h.fac1.away h.fac0 (by omega)⟩
theorem RecMem.put3 (h : RecMem w wr M R b r f g m r0 r1 t0 t1) (hd : RecNe w M R b r f g) (hI : IntIs wr (.agg #[.bool s, .slice A l c]) z) : RecMem w ((wr.setCell ⟨g,0,none⟩ (.bool s)).setCell ⟨g,1,none⟩ (.slice A l c)) M R b r f g m r0 r1 t0 z := by
 unfold RecNe at hd
 exact ⟨Fr.local_ h.ext (Fr.set2 _ _) (by omega),h.mod.away h.fac1 (by omega),h.res.fr (Fr.set2 (r := g) (i := 0) (j := 1) _ _) (by omega),h.rest0.away h.fac1 (by omega),h.rest1.away h.fac1 (by omega),h.fac0.away h.fac1 (by omega),h.fac1.put hI⟩
end
def RecSt (w wr : World) (M R b r f g : Nat) (v m r0 r1 t0 t1 : Int) : Prop :=
 RecMem w wr M R b r f g m r0 r1 t0 t1 ∧ RecInv m r0 r1 t0 t1 ∧ ∀ x y,RecRun m r0 r1 t0 t1 x y → RecRun m m (v % m) 0 1 x y
def GcdAll (m : Int) : Prop := ∀ x y : Int,x.natAbs ≤ m.natAbs ∧ y.natAbs ≤ m.natAbs → GcdOk x y
theorem GcdAll.small {m : Int} (h : m.natAbs < W64) : GcdAll m := fun x y hxy => by
 unfold GcdOk
 exact Or.inl (Nat.lt_of_le_of_lt (Nat.min_le_left _ _) (by omega))
theorem GcdAll.words {m : Int} (h : wl m.natAbs < 39) : GcdAll m := fun x y hxy => GcdOk.words (by have := wl_mono hxy.1; omega) (by have := wl_mono hxy.2; omega)
def RecIs (v m : Int) (q : Rat) (ok : Bool) : Prop := ∃ r t : Int,RecRun m m (v % m) 0 1 r t ∧
 ((ok = true ∧ t * t * 2 < m ∧ Int.gcd t m = 1 ∧ Int.gcd t r = 1 ∧ q = Rat.divInt r t) ∨ (ok = false ∧ ¬ (t * t * 2 < m ∧ Int.gcd t m = 1 ∧ Int.gcd t r = 1) ∧ q = 0))
def RetRec (w : World) (v m : Int) (e : Ending) (w' : World) : Prop := ∃ x q ok,e = .returned (.tuple #[x, .bool ok]) ∧ RatIs w' x q ∧ RecIs v m q ok ∧ Ext w w'
theorem fin_rec {fn : Func} {tmps : Array Value} {w wz : World} {r : Nat} {ok : Bool} {s t : Bool} {A B : Option Addr} {l c l' c' : Nat} {v m : Int} {q : Rat} (hres : fn.results = #[.cell 4 80, .tmp 5]) (ht : tmps[4]? = some (.pointer (some ⟨r,0,none⟩))) (h3 : tmps[5]? = some (.bool ok))
 (hB : Blk 80 wz r #[.bool s, .slice A l c, .bool t, .slice B l' c']) (hE : Ext w wz) (hR : RatIs wz (.agg #[.bool s, .slice A l c, .bool t, .slice B l' c']) q) (hI : RecIs v m q ok) :
 bodyPost Tryz.prog fn (RetRec w v m) .ret ⟨tmps,[]⟩ wz := by
 obtain ⟨h0,h1,h2,h4,_⟩ := hB.cell4
 exact bodyPost_ret (v := .tuple #[.agg #[.bool s, .slice A l c, .bool t, .slice B l' c'], .bool ok]) (by simp [results,hres,ht,h3,go_sem,h0,h1,h2,h4]) rfl ⟨_,q,ok,rfl,hR,hI,hE⟩
theorem keepF2 {t t' : TypeId} {w : World} {g g' r i j : Nat} {x y x' y' a b : Value} (h : Blk t w g #[x,y]) (h' : Blk t' w g' #[x',y']) (hg : g ≠ r) (hg' : g' ≠ r) :
 ((((w.setCell ⟨r,i,none⟩ a).setCell ⟨r,j,none⟩ b).drew.cell? ⟨g,0,none⟩ = some x ∧ ((w.setCell ⟨r,i,none⟩ a).setCell ⟨r,j,none⟩ b).drew.cell? ⟨g,1,none⟩ = some y) ∧ (((w.setCell ⟨r,i,none⟩ a).setCell ⟨r,j,none⟩ b).drew.cell? ⟨g',0,none⟩ = some x' ∧ ((w.setCell ⟨r,i,none⟩ a).setCell ⟨r,j,none⟩ b).drew.cell? ⟨g',1,none⟩ = some y')) :=
 ⟨⟨(h.fr (Fr.set2 a b) hg).cell 0,(h.fr (Fr.set2 a b) hg).cell 1⟩,⟨(h'.fr (Fr.set2 a b) hg').cell 0,(h'.fr (Fr.set2 a b) hg').cell 1⟩⟩
section
variable {wb w1 : World} {x y : Int} {s s' : Bool} {A A' : Option Addr} {l c l' c' : Nat}
abbrev bx (s : Bool) (A : Option Addr) (l c : Nat) : Obj := .cells #[.bool s, .slice A l c] 67
theorem two_new1 (hX : Ext wb w1) (hx : IntIs w1 (.agg #[.bool s, .slice A l c]) x) (hy : IntIs w1 (.agg #[.bool s', .slice A' l' c']) y) : TwoNew wb ((w1.alloc (bx s A l c)).alloc (bx s' A' l' c')) w1.heap.size (w1.heap.size + 1) x y := by
 refine ⟨(IntAt.new hx).ext ((Fr.refl _ _).alloc _),⟨_,_,_,_,blk_second _ _ _ _,hy.ext (((Fr.refl _ _).alloc _).alloc _)⟩,(hX.alloc _).alloc _,by omega,hX.size,by have := hX.size; omega⟩
theorem two_new2 (hX : Ext wb w1) (hx : IntIs w1 (.agg #[.bool s, .slice A l c]) x) (hy : IntIs w1 (.agg #[.bool s', .slice A' l' c']) y) : TwoNew wb ((w1.alloc (bx s' A' l' c')).alloc (bx s A l c)) (w1.heap.size + 1) w1.heap.size x y := by
 obtain ⟨h1,h2,h3,h4,h5,h6⟩ := two_new1 hX hy hx
 exact ⟨h2,h1,h3,Ne.symm h4,h6,h5⟩
theorem two_new3 (hX : Ext wb w1) (hb : Blk 67 w1 wb.heap.size #[.bool false, .slice none 0 0]) (hx : IntIs w1 (.agg #[.bool s, .slice A l c]) x) (hy : IntIs w1 (.agg #[.bool s', .slice A' l' c']) y) :
 TwoNew wb (((w1.setCell ⟨wb.heap.size,0,none⟩ (.bool s)).setCell ⟨wb.heap.size,1,none⟩ (.slice A l c)).alloc (bx s' A' l' c')) wb.heap.size w1.heap.size x y := by
 have h1 := (intAt_zero hb).put hx
 have h2 := IntIs.away (a := .bool s) (b := .slice A l c) hy (intAt_zero hb)
 have h3 := Fr.local_ hX (Fr.set2 (r := wb.heap.size) (i := 0) (j := 1) (.bool s) (.slice A l c)) (Nat.le_refl _)
 have e : ((w1.setCell ⟨wb.heap.size,0,none⟩ (.bool s)).setCell ⟨wb.heap.size,1,none⟩ (.slice A l c)).heap.size = w1.heap.size := by simp [World.setCell]
 have h4 := IntAt.new h2
 rw [e] at h4
 exact ⟨h1.ext ((Fr.refl _ _).alloc _),h4,h3.alloc _,Nat.ne_of_lt hb.lt,Nat.le_refl _,hX.size⟩
theorem two_new4 (hX : Ext wb w1) (hb : Blk 67 w1 wb.heap.size #[.bool false, .slice none 0 0]) (hx : IntIs w1 (.agg #[.bool s, .slice A l c]) x) (hy : IntIs w1 (.agg #[.bool s', .slice A' l' c']) y) :
 TwoNew wb (((w1.setCell ⟨wb.heap.size,0,none⟩ (.bool s')).setCell ⟨wb.heap.size,1,none⟩ (.slice A' l' c')).alloc (bx s A l c)) w1.heap.size wb.heap.size x y := by
 obtain ⟨h1,h2,h3,h4,h5,h6⟩ := two_new3 hX hb hy hx
 exact ⟨h2,h1,h3,Ne.symm h4,h6,h5⟩
theorem two_new5 (hX : Ext wb w1) (hb : Blk 67 w1 wb.heap.size #[.bool false, .slice none 0 0]) (hb2 : Blk 67 w1 (wb.heap.size + 1) #[.bool false, .slice none 0 0]) (hx : IntIs w1 (.agg #[.bool s, .slice A l c]) x) (hy : IntIs w1 (.agg #[.bool s', .slice A' l' c']) y) :
 TwoNew wb ((((w1.setCell ⟨wb.heap.size,0,none⟩ (.bool s)).setCell ⟨wb.heap.size,1,none⟩ (.slice A l c)).setCell ⟨wb.heap.size + 1,0,none⟩ (.bool s')).setCell ⟨wb.heap.size + 1,1,none⟩ (.slice A' l' c')) wb.heap.size (wb.heap.size + 1) x y := by
 have h1 := (intAt_zero hb).put hx
 have h2 := IntIs.away (a := .bool s) (b := .slice A l c) hy (intAt_zero hb)
 have h3 := Fr.local_ hX (Fr.set2 (r := wb.heap.size) (i := 0) (j := 1) (.bool s) (.slice A l c)) (Nat.le_refl _)
 have h4 := IntAt.away (a := .bool s) (b := .slice A l c) (intAt_zero hb2) (intAt_zero hb) (by omega)
 have h5 := Fr.local_ h3 (Fr.set2 (r := wb.heap.size + 1) (i := 0) (j := 1) (.bool s') (.slice A' l' c')) (by omega)
 exact ⟨h1.away h4 (by omega),h4.put h2,h5,by omega,Nat.le_refl _,by omega⟩
theorem two_new6 (hX : Ext wb w1) (hb : Blk 67 w1 wb.heap.size #[.bool false, .slice none 0 0]) (hb2 : Blk 67 w1 (wb.heap.size + 1) #[.bool false, .slice none 0 0]) (hx : IntIs w1 (.agg #[.bool s, .slice A l c]) x) (hy : IntIs w1 (.agg #[.bool s', .slice A' l' c']) y) :
 TwoNew wb ((((w1.setCell ⟨wb.heap.size + 1,0,none⟩ (.bool s)).setCell ⟨wb.heap.size + 1,1,none⟩ (.slice A l c)).setCell ⟨wb.heap.size,0,none⟩ (.bool s')).setCell ⟨wb.heap.size,1,none⟩ (.slice A' l' c')) (wb.heap.size + 1) wb.heap.size x y := by
 have h1 := (intAt_zero hb2).put hx
 have h2 := IntIs.away (a := .bool s) (b := .slice A l c) hy (intAt_zero hb2)
 have h3 := Fr.local_ hX (Fr.set2 (r := wb.heap.size + 1) (i := 0) (j := 1) (.bool s) (.slice A l c)) (by omega)
 have h4 := IntAt.away (a := .bool s) (b := .slice A l c) (intAt_zero hb) (intAt_zero hb2) (by omega)
 have h5 := Fr.local_ h3 (Fr.set2 (r := wb.heap.size) (i := 0) (j := 1) (.bool s') (.slice A' l' c')) (Nat.le_refl _)
 exact ⟨h1.away h4 (by omega),h4.put h2,h5,by omega,by omega,Nat.le_refl _⟩
end
set_option maxHeartbeats 4000000 in
set_option maxRecDepth 100000 in
theorem ReconstructRatio_any (a b : Value) (v m : Int) (w : World) (hgl : Glob w) (ha : IntIs w a v) (hb : IntIs w b m) (hv : Fits v) (hm : wl m.natAbs < 39) (h2 : 2 ≤ m) (hga : GcdAll m) : Calls Tryz.prog 64 #[a,b] w (RetRec w v m) := by
 obtain ⟨s,A,l,c,rfl⟩ := ha.shape
 obtain ⟨t,B,l',c',rfl⟩ := hb.shape
 have HA := zh ha
 have HB := zh hb
 have HGl := zh hgl
 have HV := zh hv
 have HM := zh hm
 have HGA := zh hga
 clear ha hb hgl hv hm hga
 go_enter Tryz.func64,Tryz.ntmps64
 go_wp2_with fail
 generalize hwb : World.alloc (World.alloc (World.alloc w _) _) _ = wb
 obtain ⟨hB0,hB1,hB2,hE⟩ := frac_blocks hwb
 have HB0 := zh hB0
 have HB1 := zh hB1
 have HR := zh hB2
 have HE := zh hE
 clear hwb hB0 hB1 hB2 hE
 go_cut [6,7] (fun s6 s7 wx => ∃ g6 g7 : Nat,s6 = .pointer (some ⟨g6,0,none⟩) ∧ s7 = .pointer (some ⟨g7,0,none⟩) ∧ Hid (TwoNew wb wx g6 g7 m (v % m)))
 case first =>
  refine wp_region_T 6 (fun w' => (w'.cell? ⟨w.heap.size,0,none⟩ = some (.bool s) ∧ w'.cell? ⟨w.heap.size,1,none⟩ = some (.slice A l c)) ∧ (w'.cell? ⟨w.heap.size + 1,0,none⟩ = some (.bool t) ∧ w'.cell? ⟨w.heap.size + 1,1,none⟩ = some (.slice B l' c'))) follows_mixed ?_
  refine wpT_take 0 rfl (by kernel_rfl) (fun _ _ _ h => h) (keepI2 HB0.out HB1.out ((Fr.refl _ _).drew)) (fun _ => yields_int rfl rfl rfl (fun _ h => h.2)) (fun hS => ?_)
  refine wpT_take 1 rfl (by kernel_rfl) (fun _ _ _ h => h) hS (fun _ => yields_int rfl rfl rfl (fun _ h => h.1)) (fun hS => ?_)
  refine wpT_take 2 rfl (by kernel_rfl) (fun _ _ _ h => h) hS (fun _ => yields_int rfl rfl rfl (fun _ h => h.2)) (fun hS => ?_)
  refine wpT_each (rs := [3,4,5]) (by kernel_rfl) (forall_three ?_ ?_ ?_)
  ·refine ⟨_,rfl,rfl,fun K hK => ?_⟩
   go_simp
   refine (Mod_any _ _ v m _ (HA.out.ext (HE.out.trans ((Fr.refl _ _).drew))) (HB.out.ext (HE.out.trans ((Fr.refl _ _).drew))) HV.out (by have := HM.out; omega) (by omega)).mono ?_
   rintro e w1 ⟨u1,rfl,hI1,hF1⟩
   obtain ⟨s1,A1,l1,c1,rfl⟩ := hI1.shape
   have hX : Ext wb w1 := ((Fr.refl _ _).drew).trans hF1
   refine hK _ _ (keepI2 HB0.out HB1.out (hX)) ?_
   refine wpT_each (rs := [4,5]) (by kernel_rfl) (forall_two ?_ ?_)
   ·refine ⟨_,rfl,rfl,fun K hK => ?_⟩
    go_simp
    refine hK _ _ (keepI2 HB0.out HB1.out (hX.alloc _)) ?_
    refine wpT_each (rs := [5]) (by kernel_rfl) (forall_one ?_)
    refine ⟨_,rfl,rfl,fun K hK => ?_⟩
    go_simp
    refine hK _ _ (keepI2 HB0.out HB1.out ((hX.alloc _).alloc _)) ?_
    refine wpT_tail (l := [_,_]) 6 rfl (by kernel_rfl) ?_
    go_wp2_with fail
    go_meet
    exact ⟨_,_,rfl,rfl,two_new1 hX (HB.out.ext (HE.out.trans hX)) hI1⟩
   ·refine ⟨_,rfl,rfl,fun K hK => ?_⟩
    go_simp
    refine hK _ _ (keepI2 HB0.out HB1.out (hX.alloc _)) ?_
    refine wpT_each (rs := [4]) (by kernel_rfl) (forall_one ?_)
    refine ⟨_,rfl,rfl,fun K hK => ?_⟩
    go_simp
    refine hK _ _ (keepI2 HB0.out HB1.out ((hX.alloc _).alloc _)) ?_
    refine wpT_tail (l := [_,_]) 6 rfl (by kernel_rfl) ?_
    go_wp2_with fail
    go_meet
    exact ⟨_,_,rfl,rfl,two_new2 hX (HB.out.ext (HE.out.trans hX)) hI1⟩
  ·refine ⟨_,rfl,rfl,fun K hK => ?_⟩
   go_simp
   refine hK _ _ (keepI2 HB0.out HB1.out (((Fr.refl _ _).drew).alloc _)) ?_
   refine wpT_each (rs := [3,5]) (by kernel_rfl) (forall_two ?_ ?_)
   ·refine ⟨_,rfl,rfl,fun K hK => ?_⟩
    go_simp
    refine (Mod_any _ _ v m _ (HA.out.ext (HE.out.trans (((Fr.refl _ _).drew).alloc _))) (HB.out.ext (HE.out.trans (((Fr.refl _ _).drew).alloc _))) HV.out (by have := HM.out; omega) (by omega)).mono ?_
    rintro e w1 ⟨u1,rfl,hI1,hF1⟩
    obtain ⟨s1,A1,l1,c1,rfl⟩ := hI1.shape
    have hX : Ext wb w1 := (((Fr.refl _ _).drew).alloc _).trans hF1
    refine hK _ _ (keepI2 HB0.out HB1.out (hX)) ?_
    refine wpT_each (rs := [5]) (by kernel_rfl) (forall_one ?_)
    refine ⟨_,rfl,rfl,fun K hK => ?_⟩
    go_simp
    refine hK _ _ (keepI2 HB0.out HB1.out (hX.alloc _)) ?_
    have hb := (Blk.new wb 67 #[.bool false, .slice none 0 0]).ext (Fr.undrew hF1)
    obtain ⟨f0,f1,f2,f3⟩ := hb.cell2
    have hlt := hb.lt
    have hne := Nat.ne_of_lt hlt
    refine wpT_tail (l := [_,_]) 6 rfl (by kernel_rfl) ?_
    go_wp2_with fail
    go_meet
    exact ⟨_,_,rfl,rfl,two_new3 hX hb (HB.out.ext (HE.out.trans hX)) hI1⟩
   ·refine ⟨_,rfl,rfl,fun K hK => ?_⟩
    go_simp
    refine hK _ _ (keepI2 HB0.out HB1.out ((((Fr.refl _ _).drew).alloc _).alloc _)) ?_
    refine wpT_each (rs := [3]) (by kernel_rfl) (forall_one ?_)
    refine ⟨_,rfl,rfl,fun K hK => ?_⟩
    go_simp
    refine (Mod_any _ _ v m _ (HA.out.ext (HE.out.trans ((((Fr.refl _ _).drew).alloc _).alloc _))) (HB.out.ext (HE.out.trans ((((Fr.refl _ _).drew).alloc _).alloc _))) HV.out (by have := HM.out; omega) (by omega)).mono ?_
    rintro e w1 ⟨u1,rfl,hI1,hF1⟩
    obtain ⟨s1,A1,l1,c1,rfl⟩ := hI1.shape
    have hX : Ext wb w1 := ((((Fr.refl _ _).drew).alloc _).alloc _).trans hF1
    refine hK _ _ (keepI2 HB0.out HB1.out (hX)) ?_
    have hb := ((Blk.new wb 67 #[.bool false, .slice none 0 0]).alloc (.cells #[.bool false, .slice none 0 0] 67)).ext (Fr.undrew hF1)
    have hb2 := (blk_second wb 67 #[.bool false, .slice none 0 0] #[.bool false, .slice none 0 0]).ext (Fr.undrew hF1)
    obtain ⟨f0,f1,f2,f3⟩ := hb.cell2
    obtain ⟨f4,f5,f6,f7⟩ := hb2.cell2
    refine wpT_tail (l := [_,_]) 6 rfl (by kernel_rfl) ?_
    go_wp2_with fail
    go_meet
    exact ⟨_,_,rfl,rfl,two_new5 hX hb hb2 (HB.out.ext (HE.out.trans hX)) hI1⟩
  ·refine ⟨_,rfl,rfl,fun K hK => ?_⟩
   go_simp
   refine hK _ _ (keepI2 HB0.out HB1.out (((Fr.refl _ _).drew).alloc _)) ?_
   refine wpT_each (rs := [3,4]) (by kernel_rfl) (forall_two ?_ ?_)
   ·refine ⟨_,rfl,rfl,fun K hK => ?_⟩
    go_simp
    refine (Mod_any _ _ v m _ (HA.out.ext (HE.out.trans (((Fr.refl _ _).drew).alloc _))) (HB.out.ext (HE.out.trans (((Fr.refl _ _).drew).alloc _))) HV.out (by have := HM.out; omega) (by omega)).mono ?_
    rintro e w1 ⟨u1,rfl,hI1,hF1⟩
    obtain ⟨s1,A1,l1,c1,rfl⟩ := hI1.shape
    have hX : Ext wb w1 := (((Fr.refl _ _).drew).alloc _).trans hF1
    refine hK _ _ (keepI2 HB0.out HB1.out (hX)) ?_
    refine wpT_each (rs := [4]) (by kernel_rfl) (forall_one ?_)
    refine ⟨_,rfl,rfl,fun K hK => ?_⟩
    go_simp
    refine hK _ _ (keepI2 HB0.out HB1.out (hX.alloc _)) ?_
    have hb := (Blk.new wb 67 #[.bool false, .slice none 0 0]).ext (Fr.undrew hF1)
    obtain ⟨f0,f1,f2,f3⟩ := hb.cell2
    have hlt := hb.lt
    have hne := Nat.ne_of_lt hlt
    refine wpT_tail (l := [_,_]) 6 rfl (by kernel_rfl) ?_
    go_wp2_with fail
    go_meet
    exact ⟨_,_,rfl,rfl,two_new4 hX hb (HB.out.ext (HE.out.trans hX)) hI1⟩
   ·refine ⟨_,rfl,rfl,fun K hK => ?_⟩
    go_simp
    refine hK _ _ (keepI2 HB0.out HB1.out ((((Fr.refl _ _).drew).alloc _).alloc _)) ?_
    refine wpT_each (rs := [3]) (by kernel_rfl) (forall_one ?_)
    refine ⟨_,rfl,rfl,fun K hK => ?_⟩
    go_simp
    refine (Mod_any _ _ v m _ (HA.out.ext (HE.out.trans ((((Fr.refl _ _).drew).alloc _).alloc _))) (HB.out.ext (HE.out.trans ((((Fr.refl _ _).drew).alloc _).alloc _))) HV.out (by have := HM.out; omega) (by omega)).mono ?_
    rintro e w1 ⟨u1,rfl,hI1,hF1⟩
    obtain ⟨s1,A1,l1,c1,rfl⟩ := hI1.shape
    have hX : Ext wb w1 := ((((Fr.refl _ _).drew).alloc _).alloc _).trans hF1
    refine hK _ _ (keepI2 HB0.out HB1.out (hX)) ?_
    have hb := ((Blk.new wb 67 #[.bool false, .slice none 0 0]).alloc (.cells #[.bool false, .slice none 0 0] 67)).ext (Fr.undrew hF1)
    have hb2 := (blk_second wb 67 #[.bool false, .slice none 0 0] #[.bool false, .slice none 0 0]).ext (Fr.undrew hF1)
    obtain ⟨f0,f1,f2,f3⟩ := hb.cell2
    obtain ⟨f4,f5,f6,f7⟩ := hb2.cell2
    refine wpT_tail (l := [_,_]) 6 rfl (by kernel_rfl) ?_
    go_wp2_with fail
    go_meet
    exact ⟨_,_,rfl,rfl,two_new6 hX hb hb2 (HB.out.ext (HE.out.trans hX)) hI1⟩
 case rest =>
  obtain ⟨g6,g7,rfl,rfl,hT⟩ := hcut
  obtain ⟨h6,h7,hEc,hne67,hl6,hl7⟩ := hT.out
  have hR1 := HR.out.ext hEc
  have hM1 : IntAt wc (w.heap.size + 1) m := ⟨_,_,_,_,HB1.out.ext hEc,HB.out.ext (HE.out.trans hEc)⟩
  have hsz : w.heap.size + 1 + 1 < wb.heap.size := HR.out.lt
  have hmod0 := Int.emod_nonneg v (show m ≠ 0 by omega)
  have hmod1 := Int.emod_lt_of_pos v (show 0 < m by omega)
  have H6 := zh h6
  have H7 := zh h7
  have HEc := zh (HE.out.trans hEc)
  have HR1 := zh hR1
  have HM1 := zh hM1
  have hc6 := h6.lt
  have hc7 := h7.lt
  clear h6 h7 hEc hT hR1 hM1 HB0 HB1 HR HE HA HV
  generalize hMM : w.heap.size + 1 = M at *
  generalize hRR : M + 1 = R at *
  have d1 : w.heap.size ≤ M := by omega
  have d2 : w.heap.size ≤ R := by omega
  have d3 : M ≠ R := by omega
  have d4 : M < g6 := by omega
  have d5 : M < g7 := by omega
  have d6 : R < g6 := by omega
  have d7 : R < g7 := by omega
  clear hMM hRR hsz hl6 hl7
  clear wb
  go_wp2_with fail
  refine (New_pos 0 _ W64_pos rfl rfl).mono ?_
  rintro e w1 ⟨u1,rfl,hI1,hF1⟩
  obtain ⟨s1,B1,l1,c1,rfl⟩ := hI1.shape
  go_wp2_with fail
  refine (New_pos 1 _ W64_one rfl rfl).mono ?_
  rintro e w2 ⟨u2,rfl,hI2,hF2⟩
  obtain ⟨s2,B2,l2,c2,rfl⟩ := hI2.shape
  have HTN := zh (two_new1 (hF1.trans hF2) (hI1.ext hF2) hI2)
  have d8 : g6 < w2.heap.size := Nat.lt_of_lt_of_le hc6 (hF1.trans hF2).size
  have d9 : g7 < w2.heap.size := Nat.lt_of_lt_of_le hc7 (hF1.trans hF2).size
  clear hI1 hI2 hF1 hF2 hc6 hc7
  go_wp2
  generalize hwx : World.alloc (World.alloc w2 _) _ = wx
  have HST : Hid (RecSt w wx M R g6 g7 w2.heap.size (w2.heap.size + 1) v m m (v % m) 0 1) := by
   have h := HTN.out
   rw [show (w2.alloc (bx s1 B1 l1 c1)).alloc (bx s2 B2 l2 c2) = wx from hwx] at h
   obtain ⟨k1,k2,k3,_⟩ := h
   exact ⟨⟨HEc.out.trans k3,HM1.out.ext k3,HR1.out.ext k3,H6.out.ext k3,H7.out.ext k3,k1,k2⟩,RecInv.start hmod0 hmod1,fun _ _ h => h⟩
  have hfg : w2.heap.size ≠ w2.heap.size + 1 := by omega
  have d10 : g6 < w2.heap.size + 1 := by omega
  have d11 : g7 < w2.heap.size + 1 := by omega
  generalize w2.heap.size + 1 = g at *
  generalize w2.heap.size = f at *
  clear hwx HTN H6 H7 HEc HR1 HM1 hmod0 hmod1 w1 w2
  have HNE : Hid (RecNe w M R g6 g7 f g) := ⟨d1,d2,d3,d4,d5,d6,d7,hne67,d8,d9,d10,d11,hfg⟩
  go_loopg [10] (v % m).toNat (fun k _ wr => ∃ r0 r1 t0 t1 : Int,k = r1.toNat ∧ Hid (RecSt w wr M R g6 g7 f g v m r0 r1 t0 t1))
  case atStart => exact ⟨m,v % m,0,1,rfl,HST.out⟩
  case round =>
   obtain ⟨r0,r1,t0,t1,hk,hST⟩ := hrel
   have HK := zh hk
   clear hk HST
   obtain ⟨hMem,hInv,hRun⟩ := hST.out
   obtain ⟨b1,b2,b3,b4⟩ := hInv.bound
   have HInv := zh hInv
   have HRun := zh hRun
   have HMem := zh hMem
   have HBt := zh b1
   have W1 : Hid (wl t1.natAbs < 39) := Nat.lt_of_le_of_lt (wl_mono b1) HM.out
   have W2 : Hid (wl r0.natAbs < 39) := Nat.lt_of_le_of_lt (wl_mono b2) HM.out
   have W3 : Hid (wl r1.natAbs < 39) := Nat.lt_of_le_of_lt (wl_mono b3) HM.out
   have W4 : Hid (0 < r1 → wl t0.natAbs < 39) := fun h => Nat.lt_of_le_of_lt (wl_mono (b4 h)) HM.out
   have HB3 := zh b3
   have FM : Hid (Fits m) := by have := HM.out; unfold Hid Fits; omega
   obtain ⟨sm,Am,lm,cm,hBm,hIm⟩ := hMem.mod
   obtain ⟨sr,Ar,lr,cr,hBr,hIr⟩ := hMem.rest1
   obtain ⟨m0,m1,_,_⟩ := hBm.cell2
   obtain ⟨n0,n1,_,_⟩ := hBr.cell2
   clear hST hMem hInv hRun b1 b2 b3 b4
   go_wp2_with fail
   refine (isSmall_any _ _ r1 m _ hIr hIm (by have := W3.out; omega) FM.out).mono ?_
   by_cases hsm : r1 * r1 * 2 < m
   ·have HSM := zh hsm
    rw [decide_eq_true hsm]
    rintro e w1 ⟨rfl,hF1⟩
    replace HMem := zh (HMem.out.on hF1)
    clear hBm hIm hBr hIr m0 m1 n0 n1 hF1 hsm
    obtain ⟨sm,Am,lm,cm,hBm,hIm⟩ := HMem.out.mod
    obtain ⟨sg_,Ag,lg,cg,hBg,hIg⟩ := HMem.out.fac1
    obtain ⟨m0,m1,_,_⟩ := hBm.cell2
    obtain ⟨n0,n1,_,_⟩ := hBg.cell2
    go_wp2_with fail
    refine (isSmall_any _ _ t1 m _ hIg hIm (by have := W1.out; omega) FM.out).mono ?_
    by_cases hst : t1 * t1 * 2 < m
    ·have HST := zh hst
     rw [decide_eq_true hst]
     rintro e w2 ⟨rfl,hF1⟩
     replace HMem := zh (HMem.out.on hF1)
     clear hBm hIm hBg hIg m0 m1 n0 n1 hF1 hst
     obtain ⟨sm,Am,lm,cm,hBm,hIm⟩ := HMem.out.mod
     obtain ⟨sg_,Ag,lg,cg,hBg,hIg⟩ := HMem.out.fac1
     obtain ⟨m0,m1,_,_⟩ := hBm.cell2
     obtain ⟨n0,n1,_,_⟩ := hBg.cell2
     go_wp2_with fail
     refine (GCD_any _ _ t1 m _ (HGl.out.ext HMem.out.ext) hIg hIm (by have := W1.out; unfold Fits; omega) FM.out (HGA.out _ _ ⟨HBt.out,Nat.le_refl _⟩)).mono ?_
     rintro e w3 ⟨u3,rfl,hI3,hF1⟩
     obtain ⟨s3,A3,l3,c3,rfl⟩ := hI3.shape
     have HI3 := zh hI3
     replace HMem := zh (HMem.out.on hF1)
     clear hBm hIm hBg hIg m0 m1 n0 n1 hF1 hI3
     go_wp2_with fail
     refine (IsOne_any _ _ _ HI3.out).mono ?_
     clear HI3
     by_cases hg1 : ((Int.gcd t1 m : Nat) : Int) = 1
     ·rw [decide_eq_true hg1]
      have HG1 : Hid (Int.gcd t1 m = 1) := by unfold Hid; omega
      rintro e w4 ⟨rfl,hF1⟩
      replace HMem := zh (HMem.out.on hF1)
      clear hF1 hg1
      obtain ⟨sr,Ar,lr,cr,hBr,hIr⟩ := HMem.out.rest1
      obtain ⟨sg_,Ag,lg,cg,hBg,hIg⟩ := HMem.out.fac1
      obtain ⟨m0,m1,_,_⟩ := hBr.cell2
      obtain ⟨n0,n1,_,_⟩ := hBg.cell2
      go_wp2_with fail
      refine (GCD_any _ _ t1 r1 _ (HGl.out.ext HMem.out.ext) hIg hIr (by have := W1.out; unfold Fits; omega) (by have := W3.out; unfold Fits; omega) (HGA.out _ _ ⟨HBt.out,HB3.out⟩)).mono ?_
      rintro e w5 ⟨u5,rfl,hI5,hF1⟩
      obtain ⟨s5,A5,l5,c5,rfl⟩ := hI5.shape
      have HI5 := zh hI5
      replace HMem := zh (HMem.out.on hF1)
      clear hBr hIr hBg hIg m0 m1 n0 n1 hF1 hI5
      go_wp2_with fail
      refine (IsOne_any _ _ _ HI5.out).mono ?_
      clear HI5
      by_cases hg2 : ((Int.gcd t1 r1 : Nat) : Int) = 1
      ·rw [decide_eq_true hg2]
       have HG2 : Hid (Int.gcd t1 r1 = 1) := by unfold Hid; omega
       have Ht0 : Hid (t1 ≠ 0) := fun e0 => by
        have h1 := HG1.out
        rw [e0] at h1
        simp at h1
        omega
       rintro e w6 ⟨rfl,hF1⟩
       have HRi : Hid (RecIs v m (Rat.divInt r1 t1) true) := ⟨r1,t1,HRun.out _ _ (RecRun.done HSM.out),Or.inl ⟨rfl,HST.out,HG1.out,HG2.out,rfl⟩⟩
       replace HMem := zh (HMem.out.on hF1)
       clear hF1 hg2
       obtain ⟨sr,Ar,lr,cr,hBr,hIr⟩ := HMem.out.rest1
       obtain ⟨sg_,Ag,lg,cg,hBg,hIg⟩ := HMem.out.fac1
       obtain ⟨m0,m1,_,_⟩ := hBr.cell2
       obtain ⟨n0,n1,_,_⟩ := hBg.cell2
       go_wp2_with fail
       refine (Fraction_any _ _ r1 t1 _ (HGl.out.ext HMem.out.ext) hIr hIg (by have := W3.out; unfold Fits; omega) (by have := W1.out; unfold Fits; omega) (HGA.out _ _ ⟨HB3.out,HBt.out⟩) (by have := W1.out; omega) Ht0.out).mono ?_
       rintro e w7 ⟨u7,rfl,hR7,hF1⟩
       obtain ⟨s,t,A,B,l,c,l',c',rfl,hIn,hId⟩ := hR7
       have HIn := zh hIn
       have HId := zh hId
       replace HMem := zh (HMem.out.on hF1)
       clear hBr hIr hBg hIg m0 m1 n0 n1 hF1 hIn hId
       obtain ⟨z0,z1,z2,z3,z4,z5,z6,z7⟩ := HMem.out.res.cell4
       go_wp2
       exact fin_rec rfl rfl rfl (HMem.out.res.put4 _ _ _ _) (Fr.local_ HMem.out.ext (Fr.set4 _ _ _ _) d2) ⟨_,_,_,_,_,_,_,_,rfl,HIn.out.other HMem.out.res noWords4 (Fr.set4 _ _ _ _),HId.out.other HMem.out.res noWords4 (Fr.set4 _ _ _ _)⟩ HRi.out
      ·rw [decide_eq_false hg2]
       have HG2 : Hid (¬ Int.gcd t1 r1 = 1) := by unfold Hid; omega
       clear hg2
       rintro e w6 ⟨rfl,hF⟩
       have HRi : Hid (RecIs v m 0 false) := ⟨r1,t1,HRun.out _ _ (RecRun.done HSM.out),Or.inr ⟨rfl,fun hh => HG2.out hh.2.2,rfl⟩⟩
       replace HMem := zh (HMem.out.on hF)
       clear hF
       obtain ⟨z0,z1,z2,z3,z4,z5,z6,z7⟩ := HMem.out.res.cell4
       go_wp2
       exact fin_rec rfl rfl rfl (HMem.out.res.put4 _ _ _ _) (Fr.local_ HMem.out.ext (Fr.set4 _ _ _ _) d2) (RatIs.zero _) HRi.out
     ·rw [decide_eq_false hg1]
      have HG1 : Hid (¬ Int.gcd t1 m = 1) := by unfold Hid; omega
      clear hg1
      rintro e w4 ⟨rfl,hF⟩
      have HRi : Hid (RecIs v m 0 false) := ⟨r1,t1,HRun.out _ _ (RecRun.done HSM.out),Or.inr ⟨rfl,fun hh => HG1.out hh.2.1,rfl⟩⟩
      replace HMem := zh (HMem.out.on hF)
      clear hF
      obtain ⟨z0,z1,z2,z3,z4,z5,z6,z7⟩ := HMem.out.res.cell4
      go_wp2
      exact fin_rec rfl rfl rfl (HMem.out.res.put4 _ _ _ _) (Fr.local_ HMem.out.ext (Fr.set4 _ _ _ _) d2) (RatIs.zero _) HRi.out
    ·rw [decide_eq_false hst]
     have HST := zh hst
     clear hst hBm hIm hBg hIg m0 m1 n0 n1
     rintro e w2 ⟨rfl,hF⟩
     have HRi : Hid (RecIs v m 0 false) := ⟨r1,t1,HRun.out _ _ (RecRun.done HSM.out),Or.inr ⟨rfl,fun hh => HST.out hh.1,rfl⟩⟩
     replace HMem := zh (HMem.out.on hF)
     clear hF
     obtain ⟨z0,z1,z2,z3,z4,z5,z6,z7⟩ := HMem.out.res.cell4
     go_wp2
     exact fin_rec rfl rfl rfl (HMem.out.res.put4 _ _ _ _) (Fr.local_ HMem.out.ext (Fr.set4 _ _ _ _) d2) (RatIs.zero _) HRi.out
   ·rw [decide_eq_false hsm]
    rintro e w1 ⟨rfl,hF1⟩
    have HSM := zh hsm
    have hr1 : 0 < r1 := by
     have := HInv.out.nonneg
     rcases Int.lt_or_le 0 r1 with h | h
     ·exact h
     ·exfalso; apply hsm; have e0 : r1 = 0 := by omega
      rw [e0]; omega
    replace HMem := zh (HMem.out.on hF1)
    clear hBm hIm hBr hIr m0 m1 n0 n1 hF1 hsm
    obtain ⟨s0,A0,l0,c0,hB0,hI0⟩ := HMem.out.rest0
    obtain ⟨s7,A7,l7,c7,hB7,hI7⟩ := HMem.out.rest1
    obtain ⟨m0,m1,_,_⟩ := hB0.cell2
    obtain ⟨n0,n1,_,_⟩ := hB7.cell2
    go_wp2_with fail
    refine (QuoRem_any _ _ r0 r1 _ hI0 hI7 (by have := W2.out; unfold Fits; omega) (by have := W3.out; omega) (by omega)).mono ?_
    rintro e w2 ⟨u1,u2,rfl,hN1,hN2,hF2⟩
    obtain ⟨sq,Aq,lq,cq,rfl⟩ := hN1.shape
    obtain ⟨sn,An,ln,cn,rfl⟩ := hN2.shape
    have HI7 := zh (hI7.ext hF2)
    have HTN := zh (two_new1 (Fr.refl _ _) hN1 hN2)
    replace HMem := zh (HMem.out.on hF2)
    have e10 : g < w2.heap.size := HMem.out.fac1.lt
    have e11 : f < w2.heap.size := HMem.out.fac0.lt
    have HWq : Hid (wl (r0.tdiv r1).natAbs < 39) := by
     have h1 : (r0.tdiv r1).natAbs ≤ r0.natAbs := by rw [Int.natAbs_tdiv]; exact Nat.div_le_self _ _
     exact Nat.lt_of_le_of_lt (wl_mono h1) W2.out
    have HNx := zh (HInv.out.next hr1)
    have HRn : Hid (∀ x y,RecRun m r1 (r0.tmod r1) t1 (t0 - r0.tdiv r1 * t1) x y → RecRun m m (v % m) 0 1 x y) := fun x y h => HRun.out x y (RecRun.step (Int.not_lt.2 HSM.out) h)
    have hmeas : Hid ((r0.tmod r1).toNat < gk) := by
     have h1 := HNx.out.lt
     have h2 := HNx.out.nonneg
     have := HK.out
     unfold Hid; omega
    clear hN1 hN2 hF2 hB0 hI0 hB7 hI7 m0 m1 n0 n1 HSM HInv HRun
    go_wp2_with fail
    generalize hw3 : World.alloc (World.alloc w2 _) _ = w3
    have hTN := HTN.out
    rw [show (w2.alloc (bx sq Aq lq cq)).alloc (bx sn An ln cn) = w3 from hw3] at hTN
    obtain ⟨h10,h11,hE3,hne10,_,_⟩ := hTN
    replace HMem := zh (HMem.out.on hE3)
    replace HI7 := zh (HI7.out.ext hE3)
    have e12 : g < w2.heap.size + 1 := by omega
    have e13 : f < w2.heap.size + 1 := by omega
    have H10 := zh h10
    have H11 := zh h11
    generalize w2.heap.size + 1 = G11 at *
    generalize w2.heap.size = G10 at *
    clear hw3 HTN hE3 h10 h11
    obtain ⟨s7',A7',l7',c7',hB7,hI7⟩ := HMem.out.rest1
    obtain ⟨s11,A11,l11,c11,hB11,hI11⟩ := H11.out
    obtain ⟨s6,A6,l6,c6,hB6,_⟩ := HMem.out.rest0
    obtain ⟨p0,p1,p2,p3⟩ := hB6.cell2
    have hD := HNE.out
    unfold RecNe at hD
    refine wp_region_T 3 (fun w' => (w'.cell? ⟨g7,0,none⟩ = some (.bool s7') ∧ w'.cell? ⟨g7,1,none⟩ = some (.slice A7' l7' c7')) ∧ (w'.cell? ⟨G11,0,none⟩ = some (.bool s11) ∧ w'.cell? ⟨G11,1,none⟩ = some (.slice A11 l11 c11))) follows_mixed ?_
    refine wpT_take 0 rfl (by kernel_rfl) (fun _ _ _ h => h) (keepI2 hB7 hB11 (Fr.refl _ _).drew) (fun _ => yields_int rfl rfl rfl (fun _ h => h.1)) (fun hS => ?_)
    refine wpT_take 1 rfl (by kernel_rfl) (fun _ _ _ h => h) hS (fun _ => yields_int rfl rfl rfl (fun _ h => h.2)) (fun hS => ?_)
    refine wpT_only 2 rfl (by kernel_rfl) rfl (fun K hK => ?_)
    go_simp
    refine hK _ _ (keepF2 hB7 hB11 (r := g6) (i := 0) (j := 1) (by omega) (by omega)) ?_
    have kA := (HMem.out.put0 HNE.out hI7).on (Fr.refl _ _).drew
    have kI := (IntIs.away (a := .bool s7') (b := .slice A7' l7' c7') hI11 HMem.out.rest0).ext (Fr.refl _ _).drew
    have k10 := (IntAt.away (a := .bool s7') (b := .slice A7' l7' c7') H10.out HMem.out.rest0 (by omega)).ext (Fr.refl _ _).drew
    first
     | generalize World.drew (World.setCell (World.setCell w3 _ _) _ _) = wA at *
     | generalize World.setCell (World.setCell (World.drew w3) _ _) _ _ = wA at *
    have HMA := zh kA
    have HIA := zh kI
    have H10A := zh k10
    obtain ⟨s7'',A7'',l7'',c7'',hB7'',_⟩ := kA.rest1
    obtain ⟨q0,q1,q2,q3⟩ := hB7''.cell2
    clear kA kI k10 hK hS hB7 hI7 hB11 hI11 hB6 p0 p1 p2 p3 HI7 H10 H11 hB7'' HMem
    refine wpT_tail (l := [_]) 3 rfl (by kernel_rfl) ?_
    go_wp2_with fail
    have kB := HMA.out.put1 HNE.out HIA.out
    have k10 := IntAt.away (a := .bool s11) (b := .slice A11 l11 c11) H10A.out HMA.out.rest1 (by omega)
    generalize World.setCell (World.setCell wA _ _) _ _ = wB at *
    have HMB := zh kB
    have H10B := zh k10
    clear kB k10 q0 q1 q2 q3 HMA HIA H10A
    obtain ⟨sf,Af,lf,cf,hBf,hIf⟩ := HMB.out.fac0
    obtain ⟨sg_,Ag,lg,cg,hBg,hIg⟩ := HMB.out.fac1
    obtain ⟨st,At,lt,ct,hBt,hIt⟩ := H10B.out
    refine wp_region_T 6 (fun w' => (w'.cell? ⟨g,0,none⟩ = some (.bool sg_) ∧ w'.cell? ⟨g,1,none⟩ = some (.slice Ag lg cg)) ∧ (w'.cell? ⟨f,0,none⟩ = some (.bool sf) ∧ w'.cell? ⟨f,1,none⟩ = some (.slice Af lf cf)) ∧ (w'.cell? ⟨G10,0,none⟩ = some (.bool st) ∧ w'.cell? ⟨G10,1,none⟩ = some (.slice At lt ct))) follows_mixed ?_
    refine wpT_take 0 rfl (by kernel_rfl) (fun _ _ _ h => h) (keepI3 hBg hBf hBt (Fr.refl _ _).drew) (fun _ => yields_int rfl rfl rfl (fun _ h => h.1)) (fun hS => ?_)
    refine wpT_take 1 rfl (by kernel_rfl) (fun _ _ _ h => h) hS (fun _ => yields_int rfl rfl rfl (fun _ h => h.2.1)) (fun hS => ?_)
    refine wpT_take 2 rfl (by kernel_rfl) (fun _ _ _ h => h) hS (fun _ => yields_int rfl rfl rfl (fun _ h => h.2.2)) (fun hS => ?_)
    refine wpT_take 3 rfl (by kernel_rfl) (fun _ _ _ h => h) hS (fun _ => yields_int rfl rfl rfl (fun _ h => h.1)) (fun hS => ?_)
    refine wpT_only 4 rfl (by kernel_rfl) rfl (fun K hK => ?_)
    go_simp
    refine (Mul_any _ _ (r0.tdiv r1) t1 _ (hIt.ext (Fr.refl _ _).drew) (hIg.ext (Fr.refl _ _).drew) (by have := HWq.out; unfold Fits; omega) (by have := W1.out; unfold Fits; omega) (Or.inr (by have := W1.out; omega))).mono ?_
    rintro e wM ⟨uM,rfl,hIM,hFM⟩
    obtain ⟨sM,AM,lM,cM,rfl⟩ := hIM.shape
    replace hFM := Fr.undrew hFM
    refine hK _ _ (keepI3 hBg hBf hBt hFM) ?_
    refine wpT_only 5 rfl (by kernel_rfl) rfl (fun K hK => ?_)
    go_simp
    refine (Sub_any _ _ t0 (r0.tdiv r1 * t1) _ (hIf.ext hFM) hIM (by have := W4.out hr1; unfold Fits; omega) (by have h1 := wl_mul (r0.tdiv r1).natAbs t1.natAbs; have := HWq.out; have := W1.out; unfold Fits; rw [Int.natAbs_mul]; omega)).mono ?_
    rintro e wS ⟨uS,rfl,hIS,hFS⟩
    obtain ⟨sS,AS,lS,cS,rfl⟩ := hIS.shape
    refine hK _ _ (keepI3 hBg hBf hBt (hFM.trans hFS)) ?_
    have HMC := zh (HMB.out.on (hFM.trans hFS))
    have HIg := zh (hIg.ext (hFM.trans hFS))
    have HIS := zh hIS
    clear hK hS hBf hIf hBg hIg hBt hIt hIM hFM hIS hFS HMB H10B
    obtain ⟨sf',Af',lf',cf',hBf',_⟩ := HMC.out.fac0
    obtain ⟨sg',Ag',lg',cg',hBg',_⟩ := HMC.out.fac1
    obtain ⟨p0,p1,p2,p3⟩ := hBf'.cell2
    obtain ⟨q0,q1,q2,q3⟩ := hBg'.cell2
    clear hBf' hBg'
    refine wpT_tail (l := [_,_]) 6 rfl (by kernel_rfl) ?_
    go_wp2
    have kC := HMC.out.put2 HNE.out HIg.out
    have kI := IntIs.away (a := .bool sg_) (b := .slice Ag lg cg) HIS.out HMC.out.fac0
    have kD := kC.put3 HNE.out kI
    go_roundg (r0.tmod r1).toNat
    case measure => exact hmeas.out
    case rel => exact ⟨r1,r0.tmod r1,t1,t0 - r0.tdiv r1 * t1,rfl,kD,HNx.out,HRn.out⟩
end Go.Proofs.YtndafmjcelgnbaaGreatDoor

namespace Go.Proofs.YtndafmjcelgnbaaGreatDoor
open Go.RowKit
theorem readF_dec {l : List UInt8} {q : Rat} {k : Nat} (h : readF l = some q) (hl : l.length ≤ k) (hk : 1 ≤ k) : q.num.natAbs < 10 ^ k ∧ q.den < 10 ^ k := by
 unfold readF at h
 obtain ⟨⟨neg,num,den,ok⟩,hS⟩ : ∃ x,splitF l = x := ⟨_,rfl⟩
 rw [hS] at h
 cases ok with
 | false => cases h
 | true =>
   obtain ⟨d1,d2,d3⟩ := splitF_digits hS
   have hn : ∀ z,(sg neg z).natAbs = z := fun z => by unfold sg; split <;> omega
   have w1 : decVal num < 10 ^ k := Nat.lt_of_lt_of_le (decVal_lt num d1) (Nat.pow_le_pow_right (by omega) (by omega))
   have w2 : decVal den < 10 ^ k := Nat.lt_of_lt_of_le (decVal_lt den d2) (Nat.pow_le_pow_right (by omega) (by omega))
   simp only [] at h
   split at h
   ·injection h with h
    subst h
    refine ⟨?_,?_⟩
    ·show (sg neg (decVal num)).natAbs < 10 ^ k
     rw [hn]; exact w1
    ·show 1 < 10 ^ k
     exact Nat.one_lt_pow (by omega) (by omega)
   ·split at h
    ·rename_i hne hg
     injection h with h
     subst h
     have h2 := (splitF_den hS).1 hne
     obtain ⟨e1,e2⟩ := mkRat_parts (z := sg neg (decVal num)) h2 (by rw [hn]; exact hg)
     refine ⟨by rw [e1,hn]; exact w1,?_⟩
     have e3 : (mkRat (sg neg (decVal num)) (decVal den)).den = decVal den := by
      unfold denF at e2
      split at e2 <;> omega
     rw [e3]; exact w2
    ·cases h
def RcIs (la lb s : List UInt8) (ok : Bool) : Prop :=
 (ok = true ∧ ∃ v m : Int,readF la = some (v : Rat) ∧ readF lb = some (m : Rat) ∧ 2 ≤ m ∧ ∃ q,RecIs v m q true ∧ s = ratText q) ∨
 (ok = false ∧ s = [] ∧ ∀ v m : Int,readF la = some (v : Rat) → readF lb = some (m : Rat) → 2 ≤ m → ∀ q,¬ RecIs v m q true)
theorem RecIs.one {v m : Int} {q q' : Rat} (h : RecIs v m q true) (k : RecIs v m q' true) : q = q' := by
 obtain ⟨r,t,h1,h2⟩ := h
 obtain ⟨r',t',k1,k2⟩ := k
 obtain ⟨rfl,rfl⟩ := h1.unique k1
 rcases h2 with ⟨_,_,_,_,e⟩ | ⟨e,_⟩
 ·rcases k2 with ⟨_,_,_,_,e'⟩ | ⟨e',_⟩
  ·rw [e,e']
  ·cases e'
 ·cases e
theorem RcIs.unique {la lb s s' : List UInt8} {ok ok' : Bool} (h : RcIs la lb s ok) (k : RcIs la lb s' ok') : s = s' ∧ ok = ok' := by
 rcases h with ⟨rfl,v,m,h1,h2,h3,q,h4,rfl⟩ | ⟨rfl,rfl,h⟩
 ·rcases k with ⟨rfl,v',m',k1,k2,k3,q',k4,rfl⟩ | ⟨rfl,rfl,k⟩
  ·rw [h1] at k1; rw [h2] at k2
   injection k1 with k1; injection k2 with k2
   obtain rfl := Rat.intCast_inj.1 k1
   obtain rfl := Rat.intCast_inj.1 k2
   exact ⟨by rw [h4.one k4],rfl⟩
  ·exact absurd h4 (k v m h1 h2 h3 q)
 ·rcases k with ⟨rfl,v',m',k1,k2,k3,q',k4,rfl⟩ | ⟨rfl,rfl,k⟩
  ·exact absurd k4 (h v' m' k1 k2 k3 q')
  ·exact ⟨rfl,rfl⟩
theorem RecRun.small {m r0 r1 t0 t1 r t : Int} (h : RecRun m r0 r1 t0 t1 r t) : r * r * 2 < m := by
 induction h with
 | done h => exact h
 | step _ _ ih => exact ih
theorem sq_small {r m : Int} (h : r * r * 2 < m) : r.natAbs ≤ m.natAbs := by
 have h1 : ((r.natAbs * r.natAbs : Nat) : Int) = r * r := Int.natAbs_mul_self
 rcases Nat.eq_zero_or_pos r.natAbs with e | e
 ·omega
 ·have h2 : r.natAbs * 1 ≤ r.natAbs * r.natAbs := Nat.mul_le_mul_left _ e
  omega
theorem frac_le {q : Rat} {n d : Int} (hd : d ≠ 0) (h : Rat.divInt n d = q) : q.num.natAbs ≤ n.natAbs ∧ q.den ≤ d.natAbs := by
 have hc : q.num * d = n * q.den := by
  have h1 := Rat.num_divInt_den q
  rw [← h1] at h
  exact ((Rat.divInt_eq_divInt_iff hd (denI q)).1 h).symm
 have hn : q.num.natAbs * d.natAbs = n.natAbs * q.den := by
  have := congrArg Int.natAbs hc
  rwa [Int.natAbs_mul,Int.natAbs_mul,Int.natAbs_natCast] at this
 have hcop := q.reduced
 have hd1 : q.den ∣ d.natAbs := (Nat.Coprime.symm hcop).dvd_of_dvd_mul_left ⟨n.natAbs,by rw [hn,Nat.mul_comm]⟩
 have hd0 : 0 < d.natAbs := by omega
 have hde := Nat.le_of_dvd hd0 hd1
 refine ⟨?_,hde⟩
 have hn1 : q.num.natAbs ∣ n.natAbs := hcop.dvd_of_dvd_mul_right ⟨d.natAbs,hn.symm⟩
 rcases Nat.eq_zero_or_pos n.natAbs with e | e
 ·rw [e,Nat.zero_mul] at hn
  rcases Nat.mul_eq_zero.1 hn with e2 | e2
  ·omega
  ·omega
 ·exact Nat.le_of_dvd e hn1
theorem RecIs.size {v m : Int} {q : Rat} (h : RecIs v m q true) (hm : 2 ≤ m) : q.num.natAbs ≤ m.natAbs ∧ q.den ≤ m.natAbs := by
 obtain ⟨r,t,h1,h2⟩ := h
 rcases h2 with ⟨_,h3,h4,_,rfl⟩ | ⟨e,_⟩
 ·have ht : t ≠ 0 := fun e => by
   rw [e] at h4
   simp at h4; omega
  obtain ⟨f1,f2⟩ := frac_le (n := r) ht rfl
  have := sq_small h1.small
  have := sq_small h3
  omega
 ·cases e
theorem RecIs.ok {v m : Int} {q : Rat} (h : RecIs v m q false) : ∀ q',¬ RecIs v m q' true := fun q' k => by
 obtain ⟨r,t,h1,h2⟩ := h
 obtain ⟨r',t',k1,k2⟩ := k
 obtain ⟨rfl,rfl⟩ := h1.unique k1
 rcases h2 with ⟨e,_⟩ | ⟨_,h2,_⟩
 ·cases e
 ·rcases k2 with ⟨_,a,b,c,_⟩ | ⟨e,_⟩
  ·exact h2 ⟨a,b,c⟩
  ·cases e
theorem RcIs.none1 {la lb : List UInt8} (h : readF la = none) : RcIs la lb [] false := Or.inr ⟨rfl,rfl,fun v m h1 => by rw [h] at h1; cases h1⟩
theorem RcIs.none2 {la lb : List UInt8} (h : readF lb = none) : RcIs la lb [] false := Or.inr ⟨rfl,rfl,fun v m _ h1 => by rw [h] at h1; cases h1⟩
theorem RcIs.frac1 {la lb : List UInt8} {q : Rat} (h : readF la = some q) (hd : ¬ q.den = 1) : RcIs la lb [] false := Or.inr ⟨rfl,rfl,fun v m h1 => by rw [h] at h1; injection h1 with h1; exact absurd (by rw [h1]; rfl) hd⟩
theorem RcIs.frac2 {la lb : List UInt8} {q : Rat} (h : readF lb = some q) (hd : ¬ q.den = 1) : RcIs la lb [] false := Or.inr ⟨rfl,rfl,fun v m _ h1 => by rw [h] at h1; injection h1 with h1; exact absurd (by rw [h1]; rfl) hd⟩
theorem RcIs.low {la lb : List UInt8} {q : Rat} (h : readF lb = some q) (hd : q.num < 2) : RcIs la lb [] false := Or.inr ⟨rfl,rfl,fun v m _ h1 h2 => by rw [h] at h1; injection h1 with h1; rw [h1] at hd; exact absurd hd (by simp; omega)⟩
theorem RcIs.got {la lb : List UInt8} {p q x : Rat} (h1 : readF la = some p) (h2 : readF lb = some q) (d1 : p.den = 1) (d2 : q.den = 1) (hm : ¬ q.num < 2) (h : RecIs p.num q.num x true) : RcIs la lb (ratText x) true :=
 Or.inl ⟨rfl,p.num,q.num,by rw [h1,← whole_num d1],by rw [h2,← whole_num d2],by omega,x,h,rfl⟩
theorem RcIs.not {la lb : List UInt8} {p q : Rat} (h1 : readF la = some p) (h2 : readF lb = some q) (h : ∀ x,¬ RecIs p.num q.num x true) : RcIs la lb [] false :=
 Or.inr ⟨rfl,rfl,fun v m k1 k2 _ x => by
  rw [h1] at k1; rw [h2] at k2
  injection k1 with k1; injection k2 with k2
  rw [k1,k2] at h
  exact h x⟩
end Go.Proofs.YtndafmjcelgnbaaGreatDoor

namespace Go.Proofs.YtndafmjcelgnbaaGreatDoor
open Go.RowKit
theorem yields_rat {ops : Array Oper} {S : World → Prop} {o : Oper} {a : Act} {p : Operand} {g : Nat} {x y z u : Value} (hg : o.guard = none) (ho : o.op = Op.load 80 p) (hp : a.eval p = .pointer (some ⟨g,0,none⟩))
 (hc : ∀ w,S w → w.cell? ⟨g,0,none⟩ = some x ∧ w.cell? ⟨g,1,none⟩ = some y ∧ w.cell? ⟨g,2,none⟩ = some z ∧ w.cell? ⟨g,3,none⟩ = some u) : YieldsIf Tryz.prog ops S o (.agg #[x,y,z,u]) a :=
 Or.inl ⟨by unfold Region.wanted; rw [hg],fun w hS => by
  obtain ⟨h0,h1,h2,h3⟩ := hc w hS
  simp only [execOp,ho,hp]
  simp [go_sem,h0,h1,h2,h3]⟩
theorem keepRI {t t' : TypeId} {w w' : World} {g g' : Nat} {x y z u x' y' : Value} (h : Blk t w g #[x,y,z,u]) (h' : Blk t' w g' #[x',y']) (hF : Ext w w') :
 (w'.cell? ⟨g,0,none⟩ = some x ∧ w'.cell? ⟨g,1,none⟩ = some y ∧ w'.cell? ⟨g,2,none⟩ = some z ∧ w'.cell? ⟨g,3,none⟩ = some u) ∧ (w'.cell? ⟨g',0,none⟩ = some x' ∧ w'.cell? ⟨g',1,none⟩ = some y') :=
 ⟨⟨(h.ext hF).cell 0,(h.ext hF).cell 1,(h.ext hF).cell 2,(h.ext hF).cell 3⟩,⟨(h'.ext hF).cell 0,(h'.ext hF).cell 1⟩⟩
def RatAt (w : World) (g : Nat) (q : Rat) : Prop := ∃ s t A B l c l' c',Blk 80 w g #[.bool s, .slice A l c, .bool t, .slice B l' c'] ∧ IntIs w (.agg #[.bool s, .slice A l c]) q.num ∧ IntIs w (.agg #[.bool t, .slice B l' c']) (denF q)
def RatNew (wb wx : World) (g : Nat) (q : Rat) : Prop := RatAt wx g q ∧ Ext wb wx
section
variable {wb wr : World} {g : Nat} {q : Rat} {s t : Bool} {A B : Option Addr} {l c l' c' : Nat}
theorem rat_new (hX : Ext wb wr) (hn : IntIs wr (.agg #[.bool s, .slice A l c]) q.num) (hd : IntIs wr (.agg #[.bool t, .slice B l' c']) (denF q)) : RatNew wb (wr.alloc (.cells #[.bool s, .slice A l c, .bool t, .slice B l' c'] 80)) wr.heap.size q :=
 ⟨⟨_,_,_,_,_,_,_,_,Blk.new _ _ _,hn.ext ((Fr.refl _ _).alloc _),hd.ext ((Fr.refl _ _).alloc _)⟩,hX.alloc _⟩
theorem rat_put (hX : Ext wb wr) (hg : wb.heap.size ≤ g) (hb : Blk 80 wr g #[.bool false, .slice none 0 0, .bool false, .slice none 0 0]) (hn : IntIs wr (.agg #[.bool s, .slice A l c]) q.num) (hd : IntIs wr (.agg #[.bool t, .slice B l' c']) (denF q)) :
 RatNew wb ((((wr.setCell ⟨g,0,none⟩ (.bool s)).setCell ⟨g,1,none⟩ (.slice A l c)).setCell ⟨g,2,none⟩ (.bool t)).setCell ⟨g,3,none⟩ (.slice B l' c')) g q :=
 ⟨⟨_,_,_,_,_,_,_,_,hb.put4 _ _ _ _,hn.other hb noWords4 (Fr.set4 _ _ _ _),hd.other hb noWords4 (Fr.set4 _ _ _ _)⟩,Fr.local_ hX (Fr.set4 _ _ _ _) hg⟩
end
set_option maxHeartbeats 4000000 in
set_option maxRecDepth 100000 in
theorem Reconstruct_frac (s1 s2 : ByteArray) (v m : Int) (q : Rat) (w : World) (hg : Glob w) (hk1 : ReadOk (bytes s1)) (hk2 : ReadOk (bytes s2)) (hr1 : readF (bytes s1) = some (v : Rat)) (hr2 : readF (bytes s2) = some (m : Rat)) (hfv : Fits v) (hwm : wl m.natAbs < 39) (h2 : 2 ≤ m) (hga : GcdAll m)
 (hq : ∀ q' ok,RecIs v m q' ok → q' = q ∧ ok = true) (hpn : PrtOk q.num.natAbs) (hpd : PrtOk q.den) (hd1 : q.den ≠ 1) (hil : (Lib.itoa q.num).length ≤ 68719476736) :
 Calls Tryz.prog 17 #[.string s1, .string s2] w (RetV w (.tuple #[.string ⟨(ratText q).toArray⟩, .bool true])) := by
 have HG := zh hg
 have HK1 := zh hk1
 have HK2 := zh hk2
 have HR1 := zh hr1
 have HR2 := zh hr2
 have HFv : Hid (Fits (v : Rat).num) := hfv
 have HWm := zh hwm
 have HGA := zh hga
 have HQ : Hid (∀ q' ok,RecIs (v : Rat).num m q' ok → q' = q ∧ ok = true) := hq
 have HPn := zh hpn
 have HPd := zh hpd
 have HD1 := zh hd1
 have HIL := zh hil
 generalize hrt : ratText q = rt
 have HRT := zh hrt
 clear hg hk1 hk2 hr1 hr2 hfv hwm hga hq hpn hpd hd1 hil hrt
 go_enter Tryz.func17,Tryz.ntmps17
 go_wp2_with fail
 refine (Read_any s1 _ HG.out HK1.out).mono ?_
 rintro e w1 ⟨x1,ok1,rfl,hE1,h1⟩
 obtain ⟨rfl,q1,hq1,hx1⟩ : ok1 = true ∧ ∃ q,readF (bytes s1) = some q ∧ RatIs w1 x1 q := by
  rcases h1 with h | h
  ·exact h
  ·have := h.2.1; rw [HR1.out] at this; cases this
 obtain rfl : q1 = (v : Rat) := by rw [HR1.out] at hq1; injection hq1 with hq1; exact hq1.symm
 obtain ⟨sv,tv,Av,Bv,lv,cv,lv',cv',rfl,hvn,hvd⟩ := hx1
 have HVn := zh hvn
 have HVd := zh hvd
 have HE1 := zh hE1
 clear h1 hq1 hvn hvd hE1
 go_wp2_with fail
 generalize hwb : World.alloc w1 _ = w2
 obtain ⟨hBv,hE2⟩ := Blk.one hwb
 have HBv := zh hBv
 have HRv : Hid (RatIs w2 (.agg #[.bool sv, .slice Av lv cv, .bool tv, .slice Bv lv' cv']) (v : Rat)) := ⟨_,_,_,_,_,_,_,_,rfl,HVn.out.ext hE2,HVd.out.ext hE2⟩
 have HE2 := zh (HE1.out.trans hE2)
 generalize w1.heap.size = V at *
 clear hwb hBv hE2 HVn HVd HE1
 refine (Read_any s2 _ (HG.out.ext HE2.out) HK2.out).mono ?_
 rintro e w3 ⟨x3,ok3,rfl,hE3,h3⟩
 obtain ⟨rfl,q3,hq3,hx3⟩ : ok3 = true ∧ ∃ q,readF (bytes s2) = some q ∧ RatIs w3 x3 q := by
  rcases h3 with h | h
  ·exact h
  ·have := h.2.1; rw [HR2.out] at this; cases this
 obtain rfl : q3 = (m : Rat) := by rw [HR2.out] at hq3; injection hq3 with hq3; exact hq3.symm
 obtain ⟨sm,tm,Am,Bm,lm,cm,lm',cm',rfl,hmn,hmd⟩ := hx3
 have HMn := zh hmn
 have HMd := zh hmd
 replace HBv := zh (HBv.out.ext hE3)
 replace HRv := zh (HRv.out.ext hE3)
 have HE3 := zh (HE2.out.trans hE3)
 have hVlt := HBv.out.lt
 obtain ⟨p0,p1,p2,p3,_,_,_,_⟩ := HBv.out.cell4
 clear h3 hq3 hmn hmd hE3 HE2
 go_wp2_with fail
 generalize hwb : World.alloc w3 _ = w4
 obtain ⟨hBm,hE4⟩ := Blk.one hwb
 have HBm := zh hBm
 have HRm : Hid (RatIs w4 (.agg #[.bool sm, .slice Am lm cm, .bool tm, .slice Bm lm' cm']) (m : Rat)) := ⟨_,_,_,_,_,_,_,_,rfl,HMn.out.ext hE4,HMd.out.ext hE4⟩
 replace HBv := zh (HBv.out.ext hE4)
 replace HRv := zh (HRv.out.ext hE4)
 have HE4 := zh (HE3.out.trans hE4)
 generalize w3.heap.size = M at *
 clear hwb hBm hE4 HMn HMd HE3 p0 p1 p2 p3
 refine (IsWhole_any _ _ _ HRv.out).mono ?_
 rw [decide_eq_true (show ((v : Int) : Rat).den = 1 from rfl)]
 rintro e w5 ⟨rfl,hE5⟩
 replace HBv := zh (HBv.out.ext hE5)
 replace HBm := zh (HBm.out.ext hE5)
 replace HRv := zh (HRv.out.ext hE5)
 replace HRm := zh (HRm.out.ext hE5)
 have HE5 := zh (HE4.out.trans hE5)
 obtain ⟨p0,p1,p2,p3,_,_,_,_⟩ := HBm.out.cell4
 clear hE5 HE4
 go_wp2_with fail
 refine (IsWhole_any _ _ _ HRm.out).mono ?_
 rw [decide_eq_true (show ((m : Int) : Rat).den = 1 from rfl)]
 rintro e w6 ⟨rfl,hE6⟩
 replace HBv := zh (HBv.out.ext hE6)
 replace HBm := zh (HBm.out.ext hE6)
 replace HRv := zh (HRv.out.ext hE6)
 replace HRm := zh (HRm.out.ext hE6)
 have HE6 := zh (HE5.out.trans hE6)
 clear hE6 HE5 p0 p1 p2 p3
 obtain ⟨p0,p1,p2,p3,_,_,_,_⟩ := HBm.out.cell4
 go_wp2_with fail
 refine (Num_any _ _ _ HRm.out).mono ?_
 rintro e w7 ⟨u7,rfl,hI7,hE7⟩
 obtain ⟨sh,Ah,lh,ch,rfl⟩ := hI7.shape
 replace HBv := zh (HBv.out.ext hE7)
 replace HRv := zh (HRv.out.ext hE7)
 have HE7 := zh (HE6.out.trans hE7)
 have HIh : Hid (IntIs w7 (.agg #[.bool sh, .slice Ah lh ch]) m) := hI7
 have hVlt := HBv.out.lt
 clear hI7 hE7 HE6 p0 p1 p2 p3 HBm HRm
 go_wp2_with fail
 generalize hwb : World.alloc w7 _ = wc
 obtain ⟨hBh,hE8⟩ := Blk.one hwb
 have HBh := zh hBh
 replace HIh := zh (HIh.out.ext hE8)
 replace HBv := zh (HBv.out.ext hE8)
 replace HRv := zh (HRv.out.ext hE8)
 have HE := zh (HE7.out.trans hE8)
 generalize w7.heap.size = H at *
 clear hwb hBh hE8 HE7
 have HFm : Hid (Fits m) := by have := HWm.out; unfold Hid Fits; omega
 have HF2 : Hid (Fits ((2 : Nat) : Int)) := by
  have : wl 2 ≤ 1 := wl_one.2 (by rw [W64_eq]; omega)
  unfold Hid Fits; rw [Int.natAbs_natCast]; omega
 refine wp_region_T 4 (fun w' => w'.cell? ⟨H,0,none⟩ = some (.bool sh) ∧ w'.cell? ⟨H,1,none⟩ = some (.slice Ah lh ch)) follows_mixed ?_
 refine wpT_take 0 rfl (by kernel_rfl) (fun _ _ _ h => h) (keepI2 HBh.out HBh.out (Fr.refl _ _).drew).1 (fun _ => yields_int rfl rfl rfl (fun _ h => h)) (fun hS => ?_)
 refine wpT_only 1 rfl (by kernel_rfl) rfl (fun K hK => ?_)
 go_simp
 refine (New_pos 2 _ (by rw [W64_eq]; omega) rfl rfl).mono ?_
 rintro e w9 ⟨u9,rfl,hI9,hF9⟩
 obtain ⟨s9,A9,l9,c9,rfl⟩ := hI9.shape
 replace hF9 := Fr.undrew hF9
 refine hK _ _ (keepI2 HBh.out HBh.out hF9).1 ?_
 refine wpT_only 2 rfl (by kernel_rfl) rfl (fun K hK => ?_)
 go_simp
 refine (Compare_any _ _ m ((2 : Nat) : Int) _ (HIh.out.ext hF9) hI9 HFm.out HF2.out).mono ?_
 rintro e wb ⟨rfl,hFb⟩
 have hXb := hF9.trans hFb
 refine hK _ _ (keepI2 HBh.out HBh.out hXb).1 ?_
 have hcmp : decide (cmpI m ((2 : Nat) : Int) < 0) = false := by
  rw [decide_eq_false_iff_not]; intro h; rw [cmpI_negI] at h; omega
 have hcmp2 : 0 ≤ cmpI m 2 := by
  rcases Int.lt_or_le (cmpI m 2) 0 with h | h
  ·rw [cmpI_negI] at h; omega
  ·exact h
 refine wpT_only 3 rfl (by kernel_rfl) rfl (fun K hK => ?_)
 go_simp
 refine hK _ _ (keepI2 HBh.out HBh.out hXb).1 ?_
 refine wpT_tail (l := []) 4 rfl (by kernel_rfl) ?_
 replace HBv := zh (HBv.out.ext hXb)
 replace HRv := zh (HRv.out.ext hXb)
 replace HBh := zh (HBh.out.ext hXb)
 replace HIh := zh (HIh.out.ext hXb)
 replace HE := zh (HE.out.trans hXb)
 clear hK hS hI9 hF9 hFb hXb
 go_wp2_with fail
 go_cut [11,12] (fun s11 s12 wx => ∃ g11 : Nat,s11 = .pointer (some ⟨g11,0,none⟩) ∧ s12 = .bool true ∧ Hid (RatNew wb wx g11 q))
 case first =>
  refine wp_region_T 9 (fun w' => (w'.cell? ⟨V,0,none⟩ = some (.bool sv) ∧ w'.cell? ⟨V,1,none⟩ = some (.slice Av lv cv) ∧ w'.cell? ⟨V,2,none⟩ = some (.bool tv) ∧ w'.cell? ⟨V,3,none⟩ = some (.slice Bv lv' cv')) ∧ (w'.cell? ⟨H,0,none⟩ = some (.bool sh) ∧ w'.cell? ⟨H,1,none⟩ = some (.slice Ah lh ch))) follows_mixed ?_
  refine wpT_take 0 rfl (by kernel_rfl) (fun _ _ _ h => h) (keepRI HBv.out HBh.out ((Fr.refl _ _).drew)) (fun _ => yields_rat rfl rfl rfl (fun _ h => h.1)) (fun hS => ?_)
  refine wpT_take 2 rfl (by kernel_rfl) (fun _ _ _ h => h) hS (fun _ => yields_int rfl rfl rfl (fun _ h => h.2)) (fun hS => ?_)
  refine wpT_each (rs := [1,7]) (by kernel_rfl) (forall_two ?_ ?_)
  ·refine ⟨_,rfl,rfl,fun K hK => ?_⟩
   go_simp
   refine (Num_any _ _ _ (HRv.out.ext ((Fr.refl _ _).drew))).mono ?_
   rintro e wn ⟨un,rfl,hIn,hFn⟩
   obtain ⟨sn,An,ln,cn,rfl⟩ := hIn.shape
   have hXn : Ext wb wn := ((Fr.refl _ _).drew).trans hFn
   refine hK _ _ (keepRI HBv.out HBh.out (hXn)) ?_
   refine wpT_each (rs := [3,7]) (by kernel_rfl) (forall_two ?_ ?_)
   ·refine ⟨_,rfl,rfl,fun K hK => ?_⟩
    go_simp
    refine (ReconstructRatio_any _ _ (v : Rat).num m _ (HG.out.ext (HE.out.trans (hXn))) (hIn.ext (Fr.refl _ _)) (HIh.out.ext (hXn)) HFv.out HWm.out h2 HGA.out).mono ?_
    rintro e wr ⟨xr,qr,okr,rfl,hRr,hRi,hFr⟩
    have hXr : Ext wb wr := (hXn).trans hFr
    obtain ⟨rfl,rfl⟩ := HQ.out qr okr hRi
    obtain ⟨sr,tr,Ar,Br,lr,cr,lr',cr',rfl,hJn,hJd⟩ := hRr
    refine hK _ _ (keepRI HBv.out HBh.out (hXr)) ?_
    refine wpT_each (rs := [4,7]) (by kernel_rfl) (forall_two ?_ ?_)
    ·refine ⟨_,rfl,rfl,fun K hK => ?_⟩
     go_simp
     refine hK _ _ (keepRI HBv.out HBh.out (hXr)) ?_
     refine wpT_take 5 (v := .agg #[.bool sr, .slice Ar lr cr, .bool tr, .slice Br lr' cr']) rfl (by kernel_rfl) (fun _ _ _ h => h) (keepRI HBv.out HBh.out (hXr)) (fun _ => Or.inl ⟨rfl,fun w _ => by go_simp⟩) (fun hS => ?_)
     refine wpT_take 6 (v := .bool true) rfl (by kernel_rfl) (fun _ _ _ h => h) hS (fun _ => Or.inl ⟨rfl,fun w _ => by go_simp⟩) (fun hS => ?_)
     refine wpT_each (rs := [7]) (by kernel_rfl) (forall_one ?_)
     refine ⟨_,rfl,rfl,fun K hK => ?_⟩
     go_simp
     refine hK _ _ (keepRI HBv.out HBh.out (hXr.alloc _)) ?_
     refine wpT_each (rs := [8]) (by kernel_rfl) (forall_one ?_)
     refine ⟨_,rfl,rfl,fun K hK => ?_⟩
     go_simp
     refine hK _ _ (keepRI HBv.out HBh.out (hXr.alloc _)) ?_
     refine wpT_tail (l := [_]) 9 rfl (by kernel_rfl) ?_
     go_wp2_with fail
     go_meet
     exact ⟨_,rfl,rfl,rat_new hXr hJn hJd⟩
    ·refine ⟨_,rfl,rfl,fun K hK => ?_⟩
     go_simp
     refine hK _ _ (keepRI HBv.out HBh.out (hXr.alloc _)) ?_
     refine wpT_each (rs := [4]) (by kernel_rfl) (forall_one ?_)
     refine ⟨_,rfl,rfl,fun K hK => ?_⟩
     go_simp
     refine hK _ _ (keepRI HBv.out HBh.out (hXr.alloc _)) ?_
     refine wpT_take 5 (v := .agg #[.bool sr, .slice Ar lr cr, .bool tr, .slice Br lr' cr']) rfl (by kernel_rfl) (fun _ _ _ h => h) (keepRI HBv.out HBh.out (hXr.alloc _)) (fun _ => Or.inl ⟨rfl,fun w _ => by go_simp⟩) (fun hS => ?_)
     refine wpT_take 6 (v := .bool true) rfl (by kernel_rfl) (fun _ _ _ h => h) hS (fun _ => Or.inl ⟨rfl,fun w _ => by go_simp⟩) (fun hS => ?_)
     refine wpT_each (rs := [8]) (by kernel_rfl) (forall_one ?_)
     refine ⟨_,rfl,rfl,fun K hK => ?_⟩
     go_simp
     refine hK _ _ (keepRI HBv.out HBh.out (hXr.alloc _)) ?_
     refine wpT_tail (l := [_]) 9 rfl (by kernel_rfl) ?_
     go_wp2_with fail
     go_meet
     exact ⟨_,rfl,rfl,rat_new hXr hJn hJd⟩
   ·refine ⟨_,rfl,rfl,fun K hK => ?_⟩
    go_simp
    refine hK _ _ (keepRI HBv.out HBh.out (hXn.alloc _)) ?_
    refine wpT_each (rs := [3]) (by kernel_rfl) (forall_one ?_)
    refine ⟨_,rfl,rfl,fun K hK => ?_⟩
    go_simp
    refine (ReconstructRatio_any _ _ (v : Rat).num m _ (HG.out.ext (HE.out.trans (hXn.alloc _))) (hIn.ext (((Fr.refl _ _).alloc _))) (HIh.out.ext (hXn.alloc _)) HFv.out HWm.out h2 HGA.out).mono ?_
    rintro e wr ⟨xr,qr,okr,rfl,hRr,hRi,hFr⟩
    have hXr : Ext wb wr := (hXn.alloc _).trans hFr
    obtain ⟨rfl,rfl⟩ := HQ.out qr okr hRi
    obtain ⟨sr,tr,Ar,Br,lr,cr,lr',cr',rfl,hJn,hJd⟩ := hRr
    refine hK _ _ (keepRI HBv.out HBh.out (hXr)) ?_
    refine wpT_each (rs := [4]) (by kernel_rfl) (forall_one ?_)
    refine ⟨_,rfl,rfl,fun K hK => ?_⟩
    go_simp
    refine hK _ _ (keepRI HBv.out HBh.out (hXr)) ?_
    refine wpT_take 5 (v := .agg #[.bool sr, .slice Ar lr cr, .bool tr, .slice Br lr' cr']) rfl (by kernel_rfl) (fun _ _ _ h => h) (keepRI HBv.out HBh.out (hXr)) (fun _ => Or.inl ⟨rfl,fun w _ => by go_simp⟩) (fun hS => ?_)
    refine wpT_take 6 (v := .bool true) rfl (by kernel_rfl) (fun _ _ _ h => h) hS (fun _ => Or.inl ⟨rfl,fun w _ => by go_simp⟩) (fun hS => ?_)
    have hb := (Blk.new wn 80 #[.bool false, .slice none 0 0, .bool false, .slice none 0 0]).ext hFr
    obtain ⟨f0,f1,f2,f3,f4,f5,f6,f7⟩ := hb.cell4
    refine wpT_each (rs := [8]) (by kernel_rfl) (forall_one ?_)
    refine ⟨_,rfl,rfl,fun K hK => ?_⟩
    go_simp
    refine hK _ _ (keepRI HBv.out HBh.out ((rat_put hXr hXn.size hb hJn hJd).2)) ?_
    refine wpT_tail (l := [_]) 9 rfl (by kernel_rfl) ?_
    go_wp2_with fail
    go_meet
    exact ⟨_,rfl,rfl,rat_put hXr hXn.size hb hJn hJd⟩
  ·refine ⟨_,rfl,rfl,fun K hK => ?_⟩
   go_simp
   refine hK _ _ (keepRI HBv.out HBh.out (((Fr.refl _ _).drew).alloc _)) ?_
   refine wpT_each (rs := [1]) (by kernel_rfl) (forall_one ?_)
   refine ⟨_,rfl,rfl,fun K hK => ?_⟩
   go_simp
   refine (Num_any _ _ _ (HRv.out.ext (((Fr.refl _ _).drew).alloc _))).mono ?_
   rintro e wn ⟨un,rfl,hIn,hFn⟩
   obtain ⟨sn,An,ln,cn,rfl⟩ := hIn.shape
   have hXn : Ext wb wn := (((Fr.refl _ _).drew).alloc _).trans hFn
   refine hK _ _ (keepRI HBv.out HBh.out (hXn)) ?_
   refine wpT_each (rs := [3]) (by kernel_rfl) (forall_one ?_)
   refine ⟨_,rfl,rfl,fun K hK => ?_⟩
   go_simp
   refine (ReconstructRatio_any _ _ (v : Rat).num m _ (HG.out.ext (HE.out.trans (hXn))) (hIn.ext (Fr.refl _ _)) (HIh.out.ext (hXn)) HFv.out HWm.out h2 HGA.out).mono ?_
   rintro e wr ⟨xr,qr,okr,rfl,hRr,hRi,hFr⟩
   have hXr : Ext wb wr := (hXn).trans hFr
   obtain ⟨rfl,rfl⟩ := HQ.out qr okr hRi
   obtain ⟨sr,tr,Ar,Br,lr,cr,lr',cr',rfl,hJn,hJd⟩ := hRr
   refine hK _ _ (keepRI HBv.out HBh.out (hXr)) ?_
   refine wpT_each (rs := [4]) (by kernel_rfl) (forall_one ?_)
   refine ⟨_,rfl,rfl,fun K hK => ?_⟩
   go_simp
   refine hK _ _ (keepRI HBv.out HBh.out (hXr)) ?_
   refine wpT_take 5 (v := .agg #[.bool sr, .slice Ar lr cr, .bool tr, .slice Br lr' cr']) rfl (by kernel_rfl) (fun _ _ _ h => h) (keepRI HBv.out HBh.out (hXr)) (fun _ => Or.inl ⟨rfl,fun w _ => by go_simp⟩) (fun hS => ?_)
   refine wpT_take 6 (v := .bool true) rfl (by kernel_rfl) (fun _ _ _ h => h) hS (fun _ => Or.inl ⟨rfl,fun w _ => by go_simp⟩) (fun hS => ?_)
   have hb := ((Blk.new wb 80 #[.bool false, .slice none 0 0, .bool false, .slice none 0 0]).ext (Fr.undrew hFn)).ext hFr
   obtain ⟨f0,f1,f2,f3,f4,f5,f6,f7⟩ := hb.cell4
   refine wpT_each (rs := [8]) (by kernel_rfl) (forall_one ?_)
   refine ⟨_,rfl,rfl,fun K hK => ?_⟩
   go_simp
   refine hK _ _ (keepRI HBv.out HBh.out ((rat_put hXr (Nat.le_refl _) hb hJn hJd).2)) ?_
   refine wpT_tail (l := [_]) 9 rfl (by kernel_rfl) ?_
   go_wp2_with fail
   go_meet
   exact ⟨_,rfl,rfl,rat_put hXr (Nat.le_refl _) hb hJn hJd⟩
 case rest =>
  obtain ⟨g11,rfl,rfl,hT⟩ := hcut
  obtain ⟨⟨s,t,A,B,l,c,l',c',hB11,hn11,hd11⟩,hEx⟩ := hT.out
  have HR11 : Hid (RatIs _ (.agg #[.bool s, .slice A l c, .bool t, .slice B l' c']) q) := ⟨_,_,_,_,_,_,_,_,rfl,hn11,hd11⟩
  have HEx := zh (HE.out.trans hEx)
  obtain ⟨p0,p1,p2,p3,_,_,_,_⟩ := hB11.cell4
  clear hT hB11 hn11 hd11 hEx
  go_wp2_with fail
  refine (RString_frac _ q _ (HG.out.ext HEx.out) HR11.out HPn.out HPd.out HD1.out HIL.out).mono ?_
  rw [HRT.out]
  rintro e wz ⟨rfl,hFz⟩
  have HFz := zh (HEx.out.trans hFz)
  clear hFz p0 p1 p2 p3
  go_wp2
  go_ret2
  exact ⟨rfl,HFz.out⟩
end Go.Proofs.YtndafmjcelgnbaaGreatDoor

namespace Go.Proofs.YtndafmjcelgnbaaGreatDoor
open Go.RowKit
theorem itoa_one {n : Nat} (h : n < 10) : Lib.itoa (n : Int) = [UInt8.ofNat (48 + n)] := by
 unfold Lib.itoa
 rw [if_neg (by omega),Int.toNat_natCast,Lib.decDigits,dif_pos h]
theorem itoa_15 : Lib.itoa 15 = [49,53] := by
 unfold Lib.itoa
 rw [if_neg (by omega),show (15 : Int).toNat = 15 from rfl,Lib.decDigits,dif_neg (by omega),Lib.decDigits,dif_pos (by omega)]
 rfl
theorem pr3 : Pr 3 := Pr.of_noDiv (d := 2) (by omega) (by omega) (NoDiv.two 3) (by omega) (by omega)
theorem pr5 : Pr 5 := Pr.of_noDiv (d := 3) (by omega) (by omega) (NoDiv.three (by omega)) (by omega) (by omega)
theorem crt_awake : crt (List.zip [2,3] [3,5]) = (8,15) := by decide
theorem comb_awake {s t : List UInt8} {c : Int} (h : CombIs [2,3] [3,5] s t c) : s = [56] ∧ t = [49,53] ∧ c = 0 := by
 have hp : ∀ p ∈ ([3,5] : List Int),Pr p := by
  intro p hp
  simp at hp
  rcases hp with rfl | rfl
  ·exact pr3
  ·exact pr5
 have hn : ([3,5] : List Int).Nodup := by decide
 rcases h with h | h | h | h | h
 ·exact absurd rfl h.1
 ·have := h.2.1; simp at this
 ·obtain ⟨p,hp1,hp2⟩ := h.2.2.1
  exact absurd (hp p hp1) hp2
 ·exact absurd hn h.2.2.2.1
 ·obtain ⟨_,_,_,_,h1,h2,h3⟩ := h
  rw [crt_awake] at h1 h2
  exact ⟨h1.trans (itoa_one (n := 8) (by omega)),h2.trans itoa_15,h3⟩
theorem split8 : splitF [56] = (false,[56],[],true) := by decide
theorem split15 : splitF [49,53] = (false,[49,53],[],true) := by decide
theorem read8 : readF [56] = some ((8 : Int) : Rat) := by
 unfold readF
 rw [split8]
 rfl
theorem read15 : readF [49,53] = some ((15 : Int) : Rat) := by
 unfold readF
 rw [split15]
 rfl
theorem readOk8 : ReadOk [56] := ⟨by simp,fun neg num den h hd => by rw [split8] at h; injection h with _ h; injection h with _ h; injection h with h _; exact absurd h.symm hd⟩
theorem readOk15 : ReadOk [49,53] := ⟨by simp,fun neg num den h hd => by rw [split15] at h; injection h with _ h; injection h with _ h; injection h with h _; exact absurd h.symm hd⟩
theorem run_awake : RecRun 15 15 (8 % 15) 0 1 1 2 := by
 refine RecRun.step (by decide) ?_
 refine RecRun.step (by decide) ?_
 exact RecRun.done (by decide)
theorem rec_awake (q : Rat) (ok : Bool) (h : RecIs 8 15 q ok) : q = Rat.divInt 1 2 ∧ ok = true := by
 obtain ⟨r,t,h1,h2⟩ := h
 obtain ⟨rfl,rfl⟩ := h1.unique run_awake
 rcases h2 with h2 | h2
 ·exact ⟨h2.2.2.2.2,h2.1⟩
 ·exact absurd ⟨by decide,by decide,by decide⟩ h2.2.1
theorem half_parts : (Rat.divInt 1 2).num = 1 ∧ (Rat.divInt 1 2).den = 2 := by decide
theorem half_text : ratText (Rat.divInt 1 2) = [49,47,50] := by
 unfold ratText
 rw [half_parts.1,half_parts.2,if_neg (by omega)]
 rw [show (1 : Int) = ((1 : Nat) : Int) from rfl,itoa_one (by omega),itoa_one (n := 2) (by omega)]
 rfl
theorem iShows_two {w : World} {g : Nat} {x y : Int} {t : TypeId} (h : Blk t w g #[.int .i64 x, .int .i64 y]) : IShows w (some ⟨g,0,none⟩) [x,y] := fun _ => by
 refine ⟨g,0,rfl,h.lt,fun i hi => ?_⟩
 rw [Nat.zero_add,h.cell]
 rcases i with _ | _ | i
 ·rfl
 ·rfl
 ·simp at hi; omega
set_option maxHeartbeats 2000000 in
set_option maxRecDepth 100000 in
theorem awake_any (w : World) (hg : Glob w) : Calls Tryz.prog 13 #[] w (RetV w (.bool true)) := by
 have HG := zh hg
 clear hg
 go_enter Tryz.func13,Tryz.ntmps13
 go_wp2_with fail
 generalize hwb : World.alloc (World.alloc w _) _ = wb
 obtain ⟨hB0,hB1,hE⟩ := two_blocks hwb
 clear hwb
 refine (Combine_any _ _ [2,3] [3,5] 2 2 2 2 _ (HG.out.ext hE) rfl rfl (iShows_two hB0) (iShows_two hB1) ?_ ?_ (by omega) (by omega) (by omega)).mono ?_
 ·intro z hz; simp at hz; omega
 ·intro z hz; simp at hz; omega
 rintro e w1 ⟨s,t,c,rfl,hC,hF1⟩
 obtain ⟨rfl,rfl,rfl⟩ := comb_awake hC
 have HE1 := zh (hE.trans hF1)
 clear hB0 hB1 hE hC hF1
 go_wp2_with fail
 have hp := half_parts
 refine (Reconstruct_frac ⟨#[56]⟩ ⟨#[49,53]⟩ 8 15 (Rat.divInt 1 2) _ (HG.out.ext HE1.out) readOk8 readOk15 read8 read15 ?_ ?_ (by omega) (GcdAll.small ?_) rec_awake ?_ ?_ ?_ ?_).mono ?_
 ·have : wl 8 ≤ 1 := wl_one.2 (by rw [W64_eq]; omega)
  unfold Fits; show wl 8 ≤ _; omega
 ·have : wl 15 ≤ 1 := wl_one.2 (by rw [W64_eq]; omega)
  show wl 15 < _; omega
 ·rw [W64_eq]; decide
 ·rw [hp.1]; exact PrtOk.one (by rw [W64_eq]; decide)
 ·rw [hp.2]; exact PrtOk.one (by rw [W64_eq]; decide)
 ·rw [hp.2]; omega
 ·rw [hp.1,show (1 : Int) = ((1 : Nat) : Int) from rfl,itoa_one (by omega)]; simp
 rw [half_text]
 rintro e w2 ⟨rfl,hF2⟩
 have HE2 := zh (HE1.out.trans hF2)
 clear hF2 hp
 go_wp2
 go_ret
 exact ⟨by first | rfl | (simp [Lib.toList_data]),HE2.out⟩
end Go.Proofs.YtndafmjcelgnbaaGreatDoor
