/-
 My texts RvM put together.
-/
import Derived.Test.YthlipnahcbcjkaaGreatDoorM12
import Derived.Lib.ParseIntB
set_option maxRecDepth 100000
namespace Go.Proofs.YthlipnahcbcjkaaGreatDoor
open Go.RowKit
theorem Zrd {c:UInt8} (h:Zay c=true):48≤c.toNat∧c.toNat≤57:=by
 unfold Zay at h
 rw [Bool.and_eq_true] at h
 exact ⟨of_decide_eq_true h.1,of_decide_eq_true h.2⟩
theorem pum:∀ (l:List UInt8) (acc:Nat),l.all Zay=true→acc≤18446744073709551615 →
 Lib.parseUintM (2 ^ 64 - 1) acc l=if acc * 10 ^ l.length + Zad l≤18446744073709551615 then .ok (acc * 10 ^ l.length + Zad l) else .range
 | [],acc,_,h=>by
   have e:acc * 10 ^ ([]:List UInt8).length + Zad []=acc:=by simp [Zad]
   rw [e,if_pos h]; rfl
 | c :: r,acc,hd,h=>by
   rw [List.all_cons,Bool.and_eq_true] at hd
   obtain ⟨h1,h2⟩:=Zrd hd.1
   have e:acc * 10 ^ (c :: r).length + Zad (c :: r)=(acc * 10 + (c.toNat - 48)) * 10 ^ r.length + Zad r:=by
    rw [Zgr,List.length_cons,Nat.pow_succ,Nat.add_mul,Nat.mul_assoc acc 10,Nat.mul_comm 10 (10 ^ r.length)]
    omega
   have hp:1≤10 ^ r.length:=Nat.pow_pos (by omega)
   have hm:acc * 10 + (c.toNat - 48)≤(acc * 10 + (c.toNat - 48)) * 10 ^ r.length:=Nat.le_mul_of_pos_right _ hp
   rw [e]
   unfold Lib.parseUintM
   rw [if_pos ⟨h1,h2⟩]
   by_cases g1:1844674407370955162≤acc
   ·rw [if_pos g1,if_neg (by omega)]
   ·rw [if_neg g1]
    by_cases g2:2 ^ 64 - 1 < acc * 10 + (c.toNat - 48)
    ·rw [if_pos g2,if_neg (by omega)]
    ·rw [if_neg g2]
     exact pum r _ hd.2 (by omega)
theorem ZpK {l t:List UInt8} {neg:Bool} (h:ZaP l=(neg,t,[],true)):ZaF l=(neg,t)∧t.all Zay=true∧t≠[]:=by
 have hall:=(ZbS h).1
 have hcat:=List.takeWhile_append_dropWhile (p:=Zay) (l:=(ZaF l).2)
 unfold ZaP at h
 simp only [] at h
 split at h
 ·rename_i h48
  injection h with e1 h
  injection h with e2 h
  injection h with _ e4
  rw [Bool.and_eq_true,List.isEmpty_iff] at e4
  rw [e4.2,List.append_nil] at hcat
  refine ⟨Prod.ext e1 (hcat.symm.trans e2),hall,?_⟩
  rw [← e2,h48]; simp
 ·split at h
  ·injection h with _ h
   injection h with _ h
   injection h with _ e4
   cases e4
  ·rename_i hne
   split at h
   ·rename_i hr
    injection h with e1 h
    injection h with e2 h
    rw [hr,List.append_nil] at hcat
    exact ⟨Prod.ext e1 (hcat.symm.trans e2),hall,fun e=>hne (Or.inl (e2.trans e))⟩
   ·split at h
    ·injection h with _ h
     injection h with _ h
     injection h with _ e4
     cases e4
    ·injection h with _ h
     injection h with _ h
     injection h with e3 e4
     rw [e3] at e4
     simp at e4
def ZcB (z:Int):Prop := -9223372036854775808≤z∧z≤9223372036854775807
instance (z:Int):Decidable (ZcB z):=by unfold ZcB; exact inferInstance
theorem pib {l t:List UInt8} {neg:Bool} (h:ZaP l=(neg,t,[],true)):Lib.parseIntB 64 l=if ZcB (sg neg (Zad t)) then .ok (sg neg (Zad t)) else .range:=by
 obtain ⟨h1,h2,h3⟩:=ZpK h
 have hu:Lib.parseUintB 64 t=if Zad t≤18446744073709551615 then .ok (Zad t) else .range:=by
  unfold Lib.parseUintB
  rw [if_neg h3,pum t 0 h2 (by omega),Nat.zero_mul,Nat.zero_add]
 unfold ZaF at h1
 split at h1
 ·rename_i h45
  injection h1 with e1 e2
  subst e1
  cases l with
  | nil=>cases h45
  | cons c r =>
    have hc:c=45:=by simpa using h45
    have hr:r=t:=e2
    subst hc hr
    unfold Lib.parseIntB
    simp only [show (45:UInt8).toNat=45 from rfl]
    simp only [or_true,if_true,hu]
    unfold ZcB sg
    simp only [if_true]
    by_cases g:Zad r≤18446744073709551615
    ·rw [if_pos g]
     simp only [not_true,false_and,if_false,true_and]
     by_cases g2:2 ^ (64 - 1) < Zad r
     ·rw [if_pos g2,if_neg (by omega)]
     ·rw [if_neg g2,if_pos (by omega)]
    ·rw [if_neg g,if_neg (by omega)]
 ·rename_i h45
  injection h1 with e1 e2
  subst e1 e2
  cases l with
  | nil=>exact absurd rfl h3
  | cons c r =>
    rw [List.all_cons,Bool.and_eq_true] at h2
    obtain ⟨b1,b2⟩:=Zrd h2.1
    unfold Lib.parseIntB
    have hn:¬ c.toNat=45:=by omega
    have hn2:¬ (c.toNat=43∨c.toNat=45):=by omega
    simp only [if_neg hn2,hu]
    unfold ZcB sg
    simp only [Bool.false_eq_true,if_false]
    by_cases g:Zad (c :: r)≤18446744073709551615
    ·rw [if_pos g]
     simp only [hn,not_false_eq_true,true_and,false_and,if_false]
     by_cases g2:2 ^ (64 - 1)≤Zad (c :: r)
     ·rw [if_pos g2,if_neg (by omega)]
     ·rw [if_neg g2,if_pos (by omega)]
    ·rw [if_neg g,if_neg (by omega)]
end Go.Proofs.YthlipnahcbcjkaaGreatDoor
