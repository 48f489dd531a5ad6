/-
 My texts DecR, Rq, Short, Short2, Sign put together.
-/
import Derived.Test.YtbgkofgoeoiciaaGreatDoorQ15
import Derived.Test.YtbgkofgoeoiciaaGreatDoorQ13
import Derived.Test.YtbgkofgoeoiciaaGreatDoorQ08
import Derived.Test.YtbgkofgoeoiciaaGreatDoorQ00
import Derived.Test.YtbgkofgoeoiciaaGreatDoorQ05
import Derived.Test.YtbgkofgoeoiciaaGreatDoorQ12
namespace Go.Proofs.YtbgkofgoeoiciaaGreatDoor
open Go.RowKit
theorem dec_succ {n:Nat} (h:10≤n):Lib.decDigits n=Lib.decDigits (n / 10) ++ [UInt8.ofNat (48 + n % 10)]:=by
 rw [Lib.decDigits,dif_neg (by omega)]
theorem dec_one {n:Nat} (h:n < 10):Lib.decDigits n=[UInt8.ofNat (48 + n)]:=Lib.decDigits_one h
theorem ofNat_toNat {n:Nat} (h:n < 10):(UInt8.ofNat (48 + n)).toNat=48 + n:=by
 rw [UInt8.toNat_ofNat']; omega
theorem isDig_ofNat {n:Nat} (h:n < 10):isDig (UInt8.ofNat (48 + n))=true:=by
 unfold isDig; rw [ofNat_toNat h]; simp; omega
theorem dec_all:∀ n,(Lib.decDigits n).all isDig=true:=by
 intro n
 induction n using Nat.strongRecOn with
 | _ n ih =>
   rcases Nat.lt_or_ge n 10 with h | h
   ·rw [dec_one h,List.all_cons,isDig_ofNat h]; rfl
   ·rw [dec_succ h,List.all_append,ih (n / 10) (by omega),List.all_cons,isDig_ofNat (Nat.mod_lt n (by omega:0 < 10))]; rfl
theorem dec_val:∀ n,decVal (Lib.decDigits n)=n:=by
 intro n
 induction n using Nat.strongRecOn with
 | _ n ih =>
   rcases Nat.lt_or_ge n 10 with h | h
   ·rw [dec_one h]; simp only [decVal,List.foldl_cons,List.foldl_nil]; rw [ofNat_toNat h]; omega
   ·rw [dec_succ h,decVal_snoc,ih (n / 10) (by omega),ofNat_toNat (Nat.mod_lt n (by omega:0 < 10))]; omega
theorem dec_head:∀ n,0 < n→(Lib.decDigits n).head? ≠ some 48:=by
 intro n
 induction n using Nat.strongRecOn with
 | _ n ih =>
   intro h0
   rcases Nat.lt_or_ge n 10 with h | h
   ·rw [dec_one h]
    intro e
    simp only [List.head?_cons,Option.some.injEq] at e
    have:=congrArg UInt8.toNat e
    rw [ofNat_toNat h] at this
    simp at this; omega
   ·have h1:=ih (n / 10) (by omega) (by omega)
    rw [dec_succ h,List.head?_append]
    cases hc:(Lib.decDigits (n / 10)).head? with
    | none=>exact absurd (List.head?_eq_none_iff.1 hc) (decDigits_ne _)
    | some c=>rw [hc] at h1; exact h1
theorem takeWhile_all {p:UInt8→Bool} {l:List UInt8} (h:l.all p=true):l.takeWhile p=l∧l.dropWhile p=[]:=by
 induction l with
 | nil=>exact ⟨rfl,rfl⟩
 | cons x xs ih =>
   simp only [List.all_cons,Bool.and_eq_true] at h
   obtain ⟨h1,h2⟩:=ih h.2
   rw [List.takeWhile_cons,List.dropWhile_cons,h.1]
   simp [h1,h2]
theorem unsign_dec {l:List UInt8} (h:l.all isDig=true):unsign l=(false,l):=by
 unfold unsign
 rw [if_neg]
 intro e
 cases l with
 | nil=>cases e
 | cons x xs =>
   simp only [List.head?_cons,Option.some.injEq] at e
   subst e
   simp only [List.all_cons,Bool.and_eq_true] at h
   exact absurd h.1 (by decide)
theorem split_dec (n:Nat):splitF (Lib.decDigits n)=(false,Lib.decDigits n,[],true):=by
 obtain ⟨h1,h2⟩:=takeWhile_all (dec_all n)
 unfold splitF
 rw [unsign_dec (dec_all n)]
 simp only []
 rw [h1,h2]
 rcases Nat.eq_zero_or_pos n with h0 | h0
 ·subst h0; rw [dec_one (by omega)]; rfl
 ·have hne:Lib.decDigits n≠[48]:=fun e=>dec_head n h0 (by rw [e]; rfl)
  rw [if_neg hne,if_neg (fun e=>e.elim (decDigits_ne n) (dec_head n h0)),if_pos rfl]
theorem split_neg {n:Nat} (h:0 < n):splitF ([45] ++ Lib.decDigits n)=(true,Lib.decDigits n,[],true):=by
 obtain ⟨h1,h2⟩:=takeWhile_all (dec_all n)
 unfold splitF
 have e:unsign ([45] ++ Lib.decDigits n)=(true,Lib.decDigits n):=rfl
 rw [e]
 simp only []
 rw [h1,h2]
 have hne:Lib.decDigits n≠[48]:=fun e=>dec_head n h (by rw [e]; rfl)
 rw [if_neg hne,if_neg (fun e=>e.elim (decDigits_ne n) (dec_head n h)),if_pos rfl]
theorem itoa_neg {z:Int} (h:z < 0):Lib.itoa z=[45] ++ Lib.decDigits z.natAbs:=by
 unfold Lib.itoa
 rw [if_pos h]
 rfl
theorem split_itoa (z:Int):splitF (Lib.itoa z)=(decide (z < 0),Lib.decDigits z.natAbs,[],true):=by
 by_cases h:z < 0
 ·rw [itoa_neg h,split_neg (by omega),decide_eq_true h]
 ·rw [itoa_nn (by omega),split_dec,decide_eq_false h]
theorem read_itoa (z:Int):readF (Lib.itoa z)=some (z:Rat):=by
 unfold readF
 rw [split_itoa]
 simp only []
 rw [if_pos trivial,dec_val]
 congr 2
 unfold sg
 split
 ·rename_i h; have:=of_decide_eq_true h; omega
 ·rename_i h; have:¬ z < 0:=fun k=>h (decide_eq_true k); omega
end Go.Proofs.YtbgkofgoeoiciaaGreatDoor

namespace Go.Proofs.YtbgkofgoeoiciaaGreatDoor
theorem denF_one {q:Rat} (h:q.den=1):denF q=0:=by unfold denF; rw [if_pos h]
theorem denF_big {q:Rat} (h:¬ q.den=1):denF q=(q.den:Int):=by unfold denF; rw [if_neg h]
theorem denF_iff {q:Rat}:denF q=0 ↔ q.den=1:=by
 unfold denF
 split
 ·rename_i h; simp [h]
 ·rename_i h; have:=q.den_nz; omega
theorem denI (q:Rat):((q.den:Nat):Int)≠0:=by have:=q.den_nz; omega
theorem rat_add_frac (p q:Rat):Rat.divInt (p.num * q.den + q.num * p.den) (p.den * q.den)=p + q:=by
 have h:=Rat.divInt_add_divInt p.num q.num (denI p) (denI q)
 rw [Rat.num_divInt_den,Rat.num_divInt_den] at h
 exact h.symm
theorem rat_mul_frac (p q:Rat):Rat.divInt (p.num * q.num) (p.den * q.den)=p * q:=by
 have h:=Rat.divInt_mul_divInt p.num q.num (d₁:=p.den) (d₂:=q.den)
 rw [Rat.num_divInt_den,Rat.num_divInt_den] at h
 exact h.symm
theorem whole_num {p:Rat} (hp:p.den=1):p=(p.num:Rat):=by
 apply Rat.ext<;>simp [hp]
theorem rat_whole_add {p q:Rat} (hp:p.den=1) (hq:q.den=1):(p + q).num=p.num + q.num∧(p + q).den=1:=by
 have e:p + q=((p.num + q.num:Int):Rat):=by rw [Rat.intCast_add,← whole_num hp,← whole_num hq]
 rw [e]
 exact ⟨rfl,rfl⟩
theorem rat_whole_mul {p q:Rat} (hp:p.den=1) (hq:q.den=1):(p * q).num=p.num * q.num∧(p * q).den=1:=by
 have e:p * q=((p.num * q.num:Int):Rat):=by rw [Rat.intCast_mul,← whole_num hp,← whole_num hq]
 rw [e]
 exact ⟨rfl,rfl⟩
theorem rneg_num (q:Rat):(-q).num = -q.num:=rfl
theorem rneg_den (q:Rat):(-q).den=q.den:=rfl
theorem denF_neg (q:Rat):denF (-q)=denF q:=by unfold denF; rw [rneg_den]
theorem rmul_zero_l {p q:Rat} (h:p.num=0):p * q=0:=by rw [Rat.num_eq_zero.1 h,Rat.zero_mul]
theorem rmul_zero_r {p q:Rat} (h:q.num=0):p * q=0:=by rw [Rat.num_eq_zero.1 h,Rat.mul_zero]
end Go.Proofs.YtbgkofgoeoiciaaGreatDoor

namespace Go.Proofs.YtbgkofgoeoiciaaGreatDoor
open Go.RowKit
theorem isDig_bounds {c:UInt8} (h:isDig c=true):48≤c.toNat∧c.toNat≤57:=by
 unfold isDig at h
 simpa using h
end Go.Proofs.YtbgkofgoeoiciaaGreatDoor

namespace Go.Proofs.YtbgkofgoeoiciaaGreatDoor
open Go.RowKit
end Go.Proofs.YtbgkofgoeoiciaaGreatDoor

namespace Go.Proofs.YtbgkofgoeoiciaaGreatDoor
open Go.RowKit
theorem bytes_of (l:List UInt8):bytes ⟨l.toArray⟩=l:=by simp [bytes]
end Go.Proofs.YtbgkofgoeoiciaaGreatDoor
