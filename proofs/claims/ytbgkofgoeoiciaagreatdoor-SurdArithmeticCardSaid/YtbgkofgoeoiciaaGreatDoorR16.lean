/-
 My texts DecR, Rq, Short, Short2, Sign put together.
-/
import Derived.Test.YtbgkofgoeoiciaaGreatDoorR15
import Derived.Test.YtbgkofgoeoiciaaGreatDoorR13
import Derived.Test.YtbgkofgoeoiciaaGreatDoorR08
import Derived.Test.YtbgkofgoeoiciaaGreatDoorR00
import Derived.Test.YtbgkofgoeoiciaaGreatDoorR05
import Derived.Test.YtbgkofgoeoiciaaGreatDoorR12
set_option maxRecDepth 100000
namespace Go.Proofs.YtbgkofgoeoiciaaGreatDoor
open Go.RowKit
theorem ZgY {n:Nat} (h:10≤n):Lib.decDigits n=Lib.decDigits (n / 10) ++ [UInt8.ofNat (48 + n % 10)]:=by
 rw [Lib.decDigits,dif_neg (by omega)]
theorem ZeM {n:Nat} (h:n < 10):Lib.decDigits n=[UInt8.ofNat (48 + n)]:=Lib.decDigits_one h
theorem ZeX {n:Nat} (h:n < 10):(UInt8.ofNat (48 + n)).toNat=48 + n:=by
 rw [UInt8.toNat_ofNat']; omega
theorem ZiX {n:Nat} (h:n < 10):Zaz (UInt8.ofNat (48 + n))=true:=by
 unfold Zaz; rw [ZeX h]; simp; omega
theorem Zc4:∀ n,(Lib.decDigits n).all Zaz=true:=by
 intro n
 induction n using Nat.strongRecOn with
 | _ n ih =>
   rcases Nat.lt_or_ge n 10 with h | h
   ·rw [ZeM h,List.all_cons,ZiX h]; rfl
   ·rw [ZgY h,List.all_append,ih (n / 10) (by omega),List.all_cons,ZiX (Nat.mod_lt n (by omega:0 < 10))]; rfl
theorem ZeN:∀ n,Zag (Lib.decDigits n)=n:=by
 intro n
 induction n using Nat.strongRecOn with
 | _ n ih =>
   rcases Nat.lt_or_ge n 10 with h | h
   ·rw [ZeM h]; simp only [Zag,List.foldl_cons,List.foldl_nil]; rw [ZeX h]; omega
   ·rw [ZgY h,ZeV,ih (n / 10) (by omega),ZeX (Nat.mod_lt n (by omega:0 < 10))]; omega
theorem ZeO:∀ n,0 < n→(Lib.decDigits n).head? ≠ some 48:=by
 intro n
 induction n using Nat.strongRecOn with
 | _ n ih =>
   intro h0
   rcases Nat.lt_or_ge n 10 with h | h
   ·rw [ZeM h]
    intro e
    simp only [List.head?_cons,Option.some.injEq] at e
    have:=congrArg UInt8.toNat e
    rw [ZeX h] at this
    simp at this; omega
   ·have h1:=ih (n / 10) (by omega) (by omega)
    rw [ZgY h,List.head?_append]
    cases hc:(Lib.decDigits (n / 10)).head? with
    | none=>exact absurd (List.head?_eq_none_iff.1 hc) (Zbi _)
    | some c=>rw [hc] at h1; exact h1
theorem Zd2 {p:UInt8→Bool} {l:List UInt8} (h:l.all p=true):l.takeWhile p=l∧l.dropWhile p=[]:=by
 induction l with
 | nil=>exact ⟨rfl,rfl⟩
 | cons x xs ih =>
   simp only [List.all_cons,Bool.and_eq_true] at h
   obtain ⟨h1,h2⟩:=ih h.2
   rw [List.takeWhile_cons,List.dropWhile_cons,h.1]
   simp [h1,h2]
theorem Zpr {l:List UInt8} (h:l.all Zaz=true):ZaG l=(false,l):=by
 unfold ZaG
 rw [if_neg]
 intro e
 cases l with
 | nil=>cases e
 | cons x xs =>
   simp only [List.head?_cons,Option.some.injEq] at e
   subst e
   simp only [List.all_cons,Bool.and_eq_true] at h
   exact absurd h.1 (by decide)
theorem Zqe (n:Nat):Zbf (Lib.decDigits n)=(false,Lib.decDigits n,[],true):=by
 obtain ⟨h1,h2⟩:=Zd2 (Zc4 n)
 unfold Zbf
 rw [Zpr (Zc4 n)]
 simp only []
 rw [h1,h2]
 rcases Nat.eq_zero_or_pos n with h0 | h0
 ·subst h0; rw [ZeM (by omega)]; rfl
 ·have hne:Lib.decDigits n≠[48]:=fun e=>ZeO n h0 (by rw [e]; rfl)
  rw [if_neg hne,if_neg (fun e=>e.elim (Zbi n) (ZeO n h0)),if_pos rfl]
theorem Zqf {n:Nat} (h:0 < n):Zbf ([45] ++ Lib.decDigits n)=(true,Lib.decDigits n,[],true):=by
 obtain ⟨h1,h2⟩:=Zd2 (Zc4 n)
 unfold Zbf
 have e:ZaG ([45] ++ Lib.decDigits n)=(true,Lib.decDigits n):=rfl
 rw [e]
 simp only []
 rw [h1,h2]
 have hne:Lib.decDigits n≠[48]:=fun e=>ZeO n h (by rw [e]; rfl)
 rw [if_neg hne,if_neg (fun e=>e.elim (Zbi n) (ZeO n h)),if_pos rfl]
theorem ZgZ {z:Int} (h:z < 0):Lib.itoa z=[45] ++ Lib.decDigits z.natAbs:=by
 unfold Lib.itoa
 rw [if_pos h]
 rfl
theorem Zps (z:Int):Zbf (Lib.itoa z)=(decide (z < 0),Lib.decDigits z.natAbs,[],true):=by
 by_cases h:z < 0
 ·rw [ZgZ h,Zqf (by omega),decide_eq_true h]
 ·rw [Ziv (by omega),Zqe,decide_eq_false h]
theorem Zqg (z:Int):ZaH (Lib.itoa z)=some (z:Rat):=by
 unfold ZaH
 rw [Zps]
 simp only []
 rw [if_pos trivial,ZeN]
 congr 2
 unfold sg
 split
 ·rename_i h; have:=of_decide_eq_true h; omega
 ·rename_i h; have:¬ z < 0:=fun k=>h (decide_eq_true k); omega
end Go.Proofs.YtbgkofgoeoiciaaGreatDoor

namespace Go.Proofs.YtbgkofgoeoiciaaGreatDoor
theorem Zbd {q:Rat} (h:q.den=1):denF q=0:=by unfold denF; rw [if_pos h]
theorem ZbN {q:Rat} (h:¬ q.den=1):denF q=(q.den:Int):=by unfold denF; rw [if_neg h]
theorem Znh {q:Rat}:denF q=0 ↔ q.den=1:=by
 unfold denF
 split
 ·rename_i h; simp [h]
 ·rename_i h; have:=q.den_nz; omega
theorem denI (q:Rat):((q.den:Nat):Int)≠0:=by have:=q.den_nz; omega
theorem ZfK (p q:Rat):Rat.divInt (p.num * q.den + q.num * p.den) (p.den * q.den)=p + q:=by
 have h:=Rat.divInt_add_divInt p.num q.num (denI p) (denI q)
 rw [Rat.num_divInt_den,Rat.num_divInt_den] at h
 exact h.symm
theorem ZfL (p q:Rat):Rat.divInt (p.num * q.num) (p.den * q.den)=p * q:=by
 have h:=Rat.divInt_mul_divInt p.num q.num (d₁:=p.den) (d₂:=q.den)
 rw [Rat.num_divInt_den,Rat.num_divInt_den] at h
 exact h.symm
theorem Zh4 (p q:Rat):Rat.divInt (p.num * q.den) (p.den * q.num)=p / q:=by
 rw [Rat.div_def,Rat.inv_def,← Rat.num_divInt_den p,Rat.divInt_mul_divInt,Rat.num_divInt_den]
theorem Zga {p:Rat} (hp:p.den=1):p=(p.num:Rat):=by
 apply Rat.ext<;>simp [hp]
theorem Ze9 {p q:Rat} (hp:p.den=1) (hq:q.den=1):(p + q).num=p.num + q.num∧(p + q).den=1:=by
 have e:p + q=((p.num + q.num:Int):Rat):=by rw [Rat.intCast_add,← Zga hp,← Zga hq]
 rw [e]
 exact ⟨rfl,rfl⟩
theorem Zfa {p q:Rat} (hp:p.den=1) (hq:q.den=1):(p * q).num=p.num * q.num∧(p * q).den=1:=by
 have e:p * q=((p.num * q.num:Int):Rat):=by rw [Rat.intCast_mul,← Zga hp,← Zga hq]
 rw [e]
 exact ⟨rfl,rfl⟩
theorem Zg7 (q:Rat):(-q).num = -q.num:=rfl
theorem Zju (q:Rat):(-q).den=q.den:=rfl
theorem Zni (q:Rat):denF (-q)=denF q:=by unfold denF; rw [Zju]
theorem Znj {q:Rat} (h:0 < q.num):(q⁻¹).num=(q.den:Int)∧((q⁻¹).den:Int)=q.num:=by
 have h1:¬ q.num < 0:=by omega
 have e:q⁻¹=Rat.inv q:=rfl
 rw [e]
 unfold Rat.inv
 rw [dif_neg h1,dif_pos h]
 exact ⟨rfl,by simp only; omega⟩
theorem Znk {q:Rat} (h:q.num < 0):(q⁻¹).num = -(q.den:Int)∧((q⁻¹).den:Int) = -q.num:=by
 have e:q⁻¹=Rat.inv q:=rfl
 rw [e]
 unfold Rat.inv
 rw [dif_pos h]
 exact ⟨rfl,by simp only; omega⟩
theorem Ztz (x:Int):(x < 0∧x.sign = -1)∨(x=0∧x.sign=0)∨(0 < x∧x.sign=1):=by
 rcases Int.lt_trichotomy x 0 with h | h | h
 ·exact Or.inl ⟨h,Int.sign_eq_neg_one_of_neg h⟩
 ·exact Or.inr (Or.inl ⟨h,by rw [h]; rfl⟩)
 ·exact Or.inr (Or.inr ⟨h,Int.sign_eq_one_of_pos h⟩)
theorem Zod {p q:Rat} (h:p.num=0):p * q=0:=by rw [Rat.num_eq_zero.1 h,Rat.zero_mul]
theorem Zoe {p q:Rat} (h:q.num=0):p * q=0:=by rw [Rat.num_eq_zero.1 h,Rat.mul_zero]
theorem Zly {q:Rat} (h:q.num=0):q⁻¹=0:=by rw [Rat.num_eq_zero.1 h,Rat.inv_zero]
end Go.Proofs.YtbgkofgoeoiciaaGreatDoor

namespace Go.Proofs.YtbgkofgoeoiciaaGreatDoor
open Go.RowKit
theorem Znn {c:UInt8} (h:Zaz c=true):48≤c.toNat∧c.toNat≤57:=by
 unfold Zaz at h
 simpa using h
end Go.Proofs.YtbgkofgoeoiciaaGreatDoor

namespace Go.Proofs.YtbgkofgoeoiciaaGreatDoor
open Go.RowKit
end Go.Proofs.YtbgkofgoeoiciaaGreatDoor

namespace Go.Proofs.YtbgkofgoeoiciaaGreatDoor
open Go.RowKit
theorem Zha (l:List UInt8):bytes ⟨l.toArray⟩=l:=by simp [bytes]
end Go.Proofs.YtbgkofgoeoiciaaGreatDoor
