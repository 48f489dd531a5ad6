/-
 My texts DecR, Rq, Short, Short2, Sign put together.
-/
import Derived.Test.YtbgkofgoeoiciaaGreatDoorT17
import Derived.Test.YtbgkofgoeoiciaaGreatDoorT13
import Derived.Test.YtbgkofgoeoiciaaGreatDoorT08
import Derived.Test.YtbgkofgoeoiciaaGreatDoorT00
import Derived.Test.YtbgkofgoeoiciaaGreatDoorT05
import Derived.Test.YtbgkofgoeoiciaaGreatDoorT12
namespace Go.Proofs.YtbgkofgoeoiciaaGreatDoor
open Go.RowKit
theorem dec_succ {n:Nat} (h:10≤n):Lib.decDigits n=Lib.decDigits (n / 10) ++ [UInt8.ofNat (48 + n % 10)]:=by
 rw [Lib.decDigits,dif_neg (by omega)]
theorem dec_one {n:Nat} (h:n < 10):Lib.decDigits n=[UInt8.ofNat (48 + n)]:=Lib.decDigits_one h
theorem ofNat_toNat {n:Nat} (h:n < 10):(UInt8.ofNat (48 + n)).toNat=48 + n:=by
 rw [UInt8.toNat_ofNat']; omega
theorem isDig_ofNat {n:Nat} (h:n < 10):isDig (UInt8.ofNat (48 + n))=true:=by
 unfold isDig; rw [ofNat_toNat h]; simp; omega
theorem dec_all:∀ n,(Lib.decDigits n).all isDig=true:=by
 intro n
 induction n using Nat.strongRecOn with
 | _ n ih =>
   rcases Nat.lt_or_ge n 10 with h | h
   ·rw [dec_one h,List.all_cons,isDig_ofNat h]; rfl
   ·rw [dec_succ h,List.all_append,ih (n / 10) (by omega),List.all_cons,isDig_ofNat (Nat.mod_lt n (by omega:0 < 10))]; rfl
theorem dec_val:∀ n,decVal (Lib.decDigits n)=n:=by
 intro n
 induction n using Nat.strongRecOn with
 | _ n ih =>
   rcases Nat.lt_or_ge n 10 with h | h
   ·rw [dec_one h]; simp only [decVal,List.foldl_cons,List.foldl_nil]; rw [ofNat_toNat h]; omega
   ·rw [dec_succ h,decVal_snoc,ih (n / 10) (by omega),ofNat_toNat (Nat.mod_lt n (by omega:0 < 10))]; omega
theorem dec_head:∀ n,0 < n→(Lib.decDigits n).head? ≠ some 48:=by
 intro n
 induction n using Nat.strongRecOn with
 | _ n ih =>
   intro h0
   rcases Nat.lt_or_ge n 10 with h | h
   ·rw [dec_one h]
    intro e
    simp only [List.head?_cons,Option.some.injEq] at e
    have:=congrArg UInt8.toNat e
    rw [ofNat_toNat h] at this
    simp at this; omega
   ·have h1:=ih (n / 10) (by omega) (by omega)
    rw [dec_succ h,List.head?_append]
    cases hc:(Lib.decDigits (n / 10)).head? with
    | none=>exact absurd (List.head?_eq_none_iff.1 hc) (decDigits_ne _)
    | some c=>rw [hc] at h1; exact h1
theorem takeWhile_all {p:UInt8→Bool} {l:List UInt8} (h:l.all p=true):l.takeWhile p=l∧l.dropWhile p=[]:=by
 induction l with
 | nil=>exact ⟨rfl,rfl⟩
 | cons x xs ih =>
   simp only [List.all_cons,Bool.and_eq_true] at h
   obtain ⟨h1,h2⟩:=ih h.2
   rw [List.takeWhile_cons,List.dropWhile_cons,h.1]
   simp [h1,h2]
theorem unsign_dec {l:List UInt8} (h:l.all isDig=true):unsign l=(false,l):=by
 unfold unsign
 rw [if_neg]
 intro e
 cases l with
 | nil=>cases e
 | cons x xs =>
   simp only [List.head?_cons,Option.some.injEq] at e
   subst e
   simp only [List.all_cons,Bool.and_eq_true] at h
   exact absurd h.1 (by decide)
theorem split_dec (n:Nat):splitF (Lib.decDigits n)=(false,Lib.decDigits n,[],true):=by
 obtain ⟨h1,h2⟩:=takeWhile_all (dec_all n)
 unfold splitF
 rw [unsign_dec (dec_all n)]
 simp only []
 rw [h1,h2]
 rcases Nat.eq_zero_or_pos n with h0 | h0
 ·subst h0; rw [dec_one (by omega)]; rfl
 ·have hne:Lib.decDigits n≠[48]:=fun e=>dec_head n h0 (by rw [e]; rfl)
  rw [if_neg hne,if_neg (fun e=>e.elim (decDigits_ne n) (dec_head n h0)),if_pos rfl]
theorem split_neg {n:Nat} (h:0 < n):splitF ([45] ++ Lib.decDigits n)=(true,Lib.decDigits n,[],true):=by
 obtain ⟨h1,h2⟩:=takeWhile_all (dec_all n)
 unfold splitF
 have e:unsign ([45] ++ Lib.decDigits n)=(true,Lib.decDigits n):=rfl
 rw [e]
 simp only []
 rw [h1,h2]
 have hne:Lib.decDigits n≠[48]:=fun e=>dec_head n h (by rw [e]; rfl)
 rw [if_neg hne,if_neg (fun e=>e.elim (decDigits_ne n) (dec_head n h)),if_pos rfl]
theorem itoa_neg {z:Int} (h:z < 0):Lib.itoa z=[45] ++ Lib.decDigits z.natAbs:=by
 unfold Lib.itoa
 rw [if_pos h]
 rfl
theorem split_itoa (z:Int):splitF (Lib.itoa z)=(decide (z < 0),Lib.decDigits z.natAbs,[],true):=by
 by_cases h:z < 0
 ·rw [itoa_neg h,split_neg (by omega),decide_eq_true h]
 ·rw [itoa_nn (by omega),split_dec,decide_eq_false h]
theorem read_itoa (z:Int):readF (Lib.itoa z)=some (z:Rat):=by
 unfold readF
 rw [split_itoa]
 simp only []
 rw [if_pos trivial,dec_val]
 congr 2
 unfold sg
 split
 ·rename_i h; have:=of_decide_eq_true h; omega
 ·rename_i h; have:¬ z < 0:=fun k=>h (decide_eq_true k); omega
theorem crt_residue {rs ps:List Int} (hl:rs.length=ps.length):∀ k,k≤ps.length→AllPr ps k→(ps.take k).Nodup→∀ i,i < k→(crt ((rs.zip ps).take k)).1 % ps.getD i 0=rs.getD i 0 % ps.getD i 0
 | 0,_,_,_=>fun i hi=>by omega
 | k + 1,hk,hA,hN=>fun i hi=>by
   have hA':AllPr ps k:=fun j hj=>hA j (by omega)
   have hN2:=(nodup_take_succ (by omega)).1 hN
   have ih:=crt_residue hl k (by omega) hA' hN2.1
   have hb:=crt_bounds hl k (by omega) hA'
   have hPk:=hA k (by omega)
   have hdk:=crt_dup hl hPk k (by omega) hA'
   rw [crt_step (by omega) hl]
   rcases (by omega:i < k∨i=k) with h | rfl
   ·have hPi:=hA i (by omega)
    have hdi:=(crt_dup hl hPi k (by omega) hA').2 (by
     rw [List.getD_eq_getElem?_getD,List.getElem?_eq_getElem (by omega)]
     exact List.mem_take_iff_getElem.2 ⟨i,by omega,rfl⟩)
    have ih2:=ih i h
    generalize crt ((rs.zip ps).take k)=s at *
    simp only [crtStep]
    generalize ((rs.getD k 0 % ps.getD k 0 + ps.getD k 0 - s.1 % ps.getD k 0) % ps.getD k 0) * (invN (s.2 % ps.getD k 0).toNat (ps.getD k 0).toNat:Int) % ps.getD k 0=f
    rw [Int.add_emod,Int.mul_emod,hdi,Int.zero_mul,Int.zero_emod,Int.add_zero,Int.emod_emod_of_dvd _ (Int.dvd_refl _)]
    exact ih2
   ·have hne:(crt ((rs.zip ps).take i)).2 % ps.getD i 0≠0:=fun e=>by
     have h1:=hdk.1 e
     have h2:=hN2.2
     simp at h2
     rw [List.getD_eq_getElem?_getD] at h1
     exact h2 h1
    generalize crt ((rs.zip ps).take i)=s at *
    generalize ps.getD i 0=p at *
    generalize rs.getD i 0=r at *
    simp only [crtStep]
    obtain ⟨P,rfl⟩:=Int.eq_ofNat_of_zero_le (show 0≤p by have:=hPk.1; omega)
    have hP2:2≤P:=by have:=hPk.1; omega
    obtain ⟨M,hM⟩:∃ M:Nat,s.2 % (P:Int)=(M:Int):=Int.eq_ofNat_of_zero_le (Int.emod_nonneg _ (by omega))
    have lM:M < P:=by have:=Int.emod_lt_of_pos s.2 (b:=(P:Int)) (by omega); omega
    have hinv:=invN_mul (x:=M) hPk (by rw [Nat.mod_eq_of_lt lM]; omega)
    rw [hM,show ((M:Int)).toNat=M by omega,show ((P:Int)).toNat=P by omega]
    generalize invN M P=iv at *
    have hmi:s.2 * (iv:Int) % (P:Int)=1:=by
     have h1:=Int.mul_emod (M:Int) (iv:Int) (P:Int)
     rw [Int.emod_eq_of_lt (a:=(M:Int)) (by omega) (by omega)] at h1
     rw [Int.mul_emod,hM,← h1,← Int.natCast_mul,← Int.natCast_emod,hinv]
     rfl
    generalize hd:r % (P:Int) + (P:Int) - s.1 % (P:Int)=d
    have e1:s.2 * (d % (P:Int) * (iv:Int) % (P:Int)) % (P:Int)=d % (P:Int):=by
     rw [Int.mul_emod,Int.emod_emod_of_dvd _ (Int.dvd_refl _),← Int.mul_emod,Int.mul_left_comm,Int.mul_emod,hmi,Int.mul_one,Int.emod_emod_of_dvd _ (Int.dvd_refl _),Int.emod_emod_of_dvd _ (Int.dvd_refl _)]
    have hv:=Int.emod_add_mul_ediv s.1 (P:Int)
    rw [Int.add_emod,e1,← Int.add_emod,← hd]
    rw [show s.1 + (r % (P:Int) + (P:Int) - s.1 % (P:Int))=r % (P:Int) + (P:Int) * (s.1 / (P:Int) + 1) by
     rw [Int.mul_add,Int.mul_one]
     generalize (P:Int) * (s.1 / (P:Int))=X at *
     omega]
    rw [Int.add_mul_emod_self_left,Int.emod_emod_of_dvd _ (Int.dvd_refl _)]
end Go.Proofs.YtbgkofgoeoiciaaGreatDoor

namespace Go.Proofs.YtbgkofgoeoiciaaGreatDoor
theorem denF_one {q:Rat} (h:q.den=1):denF q=0:=by unfold denF; rw [if_pos h]
theorem denF_iff {q:Rat}:denF q=0 ↔ q.den=1:=by
 unfold denF
 split
 ·rename_i h; simp [h]
 ·rename_i h; have:=q.den_nz; omega
theorem denI (q:Rat):((q.den:Nat):Int)≠0:=by have:=q.den_nz; omega
theorem rat_mul_frac (p q:Rat):Rat.divInt (p.num * q.num) (p.den * q.den)=p * q:=by
 have h:=Rat.divInt_mul_divInt p.num q.num (d₁:=p.den) (d₂:=q.den)
 rw [Rat.num_divInt_den,Rat.num_divInt_den] at h
 exact h.symm
theorem whole_num {p:Rat} (hp:p.den=1):p=(p.num:Rat):=by
 apply Rat.ext<;>simp [hp]
theorem rat_whole_mul {p q:Rat} (hp:p.den=1) (hq:q.den=1):(p * q).num=p.num * q.num∧(p * q).den=1:=by
 have e:p * q=((p.num * q.num:Int):Rat):=by rw [Rat.intCast_mul,← whole_num hp,← whole_num hq]
 rw [e]
 exact ⟨rfl,rfl⟩
theorem sign3' (x:Int):(x < 0∧x.sign = -1)∨(x=0∧x.sign=0)∨(0 < x∧x.sign=1):=by
 rcases Int.lt_trichotomy x 0 with h | h | h
 ·exact Or.inl ⟨h,Int.sign_eq_neg_one_of_neg h⟩
 ·exact Or.inr (Or.inl ⟨h,by rw [h]; rfl⟩)
 ·exact Or.inr (Or.inr ⟨h,Int.sign_eq_one_of_pos h⟩)
theorem rmul_zero_l {p q:Rat} (h:p.num=0):p * q=0:=by rw [Rat.num_eq_zero.1 h,Rat.zero_mul]
theorem rmul_zero_r {p q:Rat} (h:q.num=0):p * q=0:=by rw [Rat.num_eq_zero.1 h,Rat.mul_zero]
theorem cmp_cross (p q:Rat):cmpI (p.num * q.den) (q.num * p.den)=(p - q).num.sign:=by
 have hl:∀ a b:Rat,a < b ↔ a.num * b.den < b.num * a.den:=fun a b=>Rat.lt_iff a b
 unfold cmpI
 split
 ·rename_i h
  have h1:p < q:=(hl p q).2 h
  have h2:p - q < 0:=by
   have:=Rat.add_lt_add_right (c := -q) |>.2 h1
   rw [Rat.add_neg_cancel,← Rat.sub_eq_add_neg] at this
   exact this
  have h3:(p - q).num < 0:=by simpa using (Rat.lt_iff (p - q) 0).1 h2
  rw [Int.sign_eq_neg_one_of_neg h3]
 ·split
  ·rename_i h0 h
   have h1:q < p:=(hl q p).2 h
   have h2:0 < p - q:=by
    have:=Rat.add_lt_add_right (c := -q) |>.2 h1
    rw [Rat.add_neg_cancel,← Rat.sub_eq_add_neg] at this
    exact this
   have h3:0 < (p - q).num:=by simpa using (Rat.lt_iff 0 (p - q)).1 h2
   rw [Int.sign_eq_one_of_pos h3]
  ·rename_i h0 h
   have h1:¬ p < q:=fun h'=>h0 ((hl p q).1 h')
   have h2:¬ q < p:=fun h'=>h ((hl q p).1 h')
   have h3:p=q:=Rat.le_antisymm (Rat.not_lt.1 h2) (Rat.not_lt.1 h1)
   rw [h3,Rat.sub_self]; rfl
theorem cmp_signs {p q:Rat} (h:p.num.sign≠q.num.sign):cmpI p.num q.num=(p - q).num.sign:=by
 rw [← cmp_cross]
 have hp:(0:Int) < p.den:=by have:=p.den_nz; omega
 have hq:(0:Int) < q.den:=by have:=q.den_nz; omega
 unfold cmpI
 rcases sign3' p.num with ⟨h1,e1⟩ | ⟨h1,e1⟩ | ⟨h1,e1⟩<;>rcases sign3' q.num with ⟨h2,e2⟩ | ⟨h2,e2⟩ | ⟨h2,e2⟩
 all_goals (rw [e1,e2] at h)
 all_goals first
  | exact absurd rfl h
  | (have a1:p.num * (q.den:Int) < 0:=Int.mul_neg_of_neg_of_pos h1 hq
     have a2:0≤q.num * (p.den:Int):=Int.mul_nonneg (by omega) (by omega)
     rw [if_pos (by omega),if_pos (by omega)])
  | (have a1:0 < p.num * (q.den:Int):=Int.mul_pos h1 hq
     have a2:q.num * (p.den:Int)≤0:=Int.mul_nonpos_of_nonpos_of_nonneg (by omega) (by omega)
     rw [if_neg (by omega),if_pos (by omega),if_neg (by omega),if_pos (by omega)])
  | (have a1:p.num * (q.den:Int)=0:=by rw [h1,Int.zero_mul]
     have a2:0 < q.num * (p.den:Int):=Int.mul_pos h2 hp
     rw [if_pos (by omega),if_pos (by omega)])
  | (have a1:p.num * (q.den:Int)=0:=by rw [h1,Int.zero_mul]
     have a2:q.num * (p.den:Int) < 0:=Int.mul_neg_of_neg_of_pos h2 hp
     rw [if_neg (by omega),if_pos (by omega),if_neg (by omega),if_pos (by omega)])
theorem cmp_whole {p q:Rat} (h1:p.den=1) (h2:q.den=1):cmpI p.num q.num=(p - q).num.sign:=by
 rw [← cmp_cross,h1,h2]; simp
end Go.Proofs.YtbgkofgoeoiciaaGreatDoor

namespace Go.Proofs.YtbgkofgoeoiciaaGreatDoor
open Go.RowKit
theorem isDig_bounds {c:UInt8} (h:isDig c=true):48≤c.toNat∧c.toNat≤57:=by
 unfold isDig at h
 simpa using h
theorem all_take_at {s:ByteArray} (h:(bytes s).all isDig=true) {k:Nat} (hk:k < s.size):isDig s[k]=true:=by
 have h1:=List.all_eq_true.1 h ((bytes s)[k]'(by rw [bytes_length]; exact hk)) (List.getElem_mem _)
 rwa [bytes_at s hk] at h1
set_option maxHeartbeats 1000000 in
theorem digitsValue_any (s:ByteArray) (w:World) (hd:(bytes s).all isDig=true) (hs:s.size≤9) :
 Calls Tryz.prog 226 #[.string s] w fun e w'=>e=.returned (.int .i64 (decVal (bytes s):Int))∧w=w':=by
 have HD:=zh hd
 clear hd
 go_enter Tryz.func226,Tryz.ntmps226
 go_wp2
 go_loop [3,7] (fun n i=>∃ k m:Nat,k≤s.size∧i=.int .i64 (k:Int)∧n=.int .i64 (m:Int)∧m≤1000000000∧Hid (m=decVal ((bytes s).take k))) (fun _ i=>s.size - (intOf i).toNat)
 case atStart=>exact ⟨0,0,Nat.zero_le _,rfl,rfl,by omega,by unfold Hid; simp [decVal]⟩
 case round =>
  obtain ⟨k,m,hk,rfl,rfl,hm,hM⟩:=hrel
  by_cases hlt:k < s.size
  ·have hb:=isDig_bounds (all_take_at HD.out hlt)
   have hts:=take_snoc s k hlt
   have HM2:Hid (10 * m + (s[k].toNat - 48)=decVal ((bytes s).take (k + 1))):=by
    unfold Hid; rw [hts,decVal_snoc,← hM.out]
   have hlt2:decVal ((bytes s).take (k + 1)) < 10 ^ ((bytes s).take (k + 1)).length:=decVal_lt _ (by
    rw [List.all_eq_true]; intro x hx; exact List.all_eq_true.1 HD.out x (List.mem_of_mem_take hx))
   have hle:10 ^ ((bytes s).take (k + 1)).length≤10 ^ 9:=Nat.pow_le_pow_right (by omega) (by rw [List.length_take,bytes_length]; omega)
   have hB2:10 * m + (s[k].toNat - 48)≤1000000000:=by
    rw [HM2.out]; omega
   have e1:IntKind.u8.wrap ((s[k].toNat:Int) - 48)=((s[k].toNat - 48:Nat):Int):=by rw [IntKind.wrap_u8]; omega
   have e1':((s[k].toNat:Int) - 48) % 256=((s[k].toNat - 48:Nat):Int):=by omega
   obtain ⟨d,ed⟩:∃ d,s[k].toNat - 48=d:=⟨_,rfl⟩
   rw [ed] at HM2 hB2 e1 e1'
   clear hts hlt2 hle
   go_wp2
   go_round
   case rel=>exact ⟨k + 1,10 * m + d,by omega,by go_num,by go_num,hB2,HM2⟩
   case measure=>simp [intOf]; omega
  ·have HF:Hid ((m:Nat)=decVal (bytes s)):=by
    have h:=hM.out
    rw [List.take_of_length_le (by rw [bytes_length]; omega)] at h
    exact h
   go_wp2
   go_ret
   exact ⟨by rw [← HF.out]; rfl,rfl⟩
set_option maxHeartbeats 1000000 in
theorem gcd64_any (a b:Nat) (w:World) (ha:a≤9223372036854775807) (hb:b≤9223372036854775807) :
 Calls Tryz.prog 206 #[.int .i64 (a:Int), .int .i64 (b:Int)] w fun e w'=>e=.returned (.int .i64 (Nat.gcd a b:Int))∧∃ n,w'=w.drewN n:=by
 obtain ⟨G,hG⟩:∃ G,Nat.gcd a b=G:=⟨_,rfl⟩
 rw [hG]
 have HG:=zh hG
 clear hG
 go_enter Tryz.func206,Tryz.ntmps206
 go_wp2
 go_loopw [0,1] (fun av bv wr=>∃ x y n:Nat,av=.int .i64 (x:Int)∧bv=.int .i64 (y:Int)∧x≤9223372036854775807∧y≤9223372036854775807∧Hid (Nat.gcd x y=G)∧wr=w.drewN n) (fun _ bv _=>(intOf bv).toNat)
 case atStart=>exact ⟨a,b,0,rfl,rfl,ha,hb,HG,rfl⟩
 case round =>
  obtain ⟨x,y,n,rfl,rfl,hx,hy,hR,rfl⟩:=hrel
  by_cases h0:y=0
  ·subst h0
   have HF:Hid (x=G):=by have:=hR.out; rwa [Nat.gcd_zero_right] at this
   go_wp2
   go_ret
   exact ⟨by rw [← HF.out]; rfl,n,rfl⟩
  ·have g1:((y:Int) != 0)=true:=by simp; omega
   have g2:((y:Int) == 0)=false:=by simp; omega
   have g3:y≠0:=h0
   have q1:(x:Int).tmod (y:Int)=((x % y:Nat):Int):=tmod_nat
   have q2:(x:Int) % (y:Int)=((x % y:Nat):Int):=rfl
   have hlt:x % y < y:=Nat.mod_lt _ (by omega)
   have HR2:Hid (Nat.gcd y (x % y)=G):=by
    unfold Hid; rw [← hR.out,Nat.gcd_comm x y,Nat.gcd_rec y x,Nat.gcd_comm]
   obtain ⟨r,er⟩:∃ r,x % y=r:=⟨_,rfl⟩
   rw [er] at q1 q2 hlt HR2
   clear er h0
   go_wp2_with fail
   go_region
   all_goals
    go_wp2
    go_roundw
    case rel=>exact ⟨y,r,n + 1,rfl,rfl,hy,by omega,HR2,rfl⟩
    case measure=>simp [intOf]; omega
end Go.Proofs.YtbgkofgoeoiciaaGreatDoor

namespace Go.Proofs.YtbgkofgoeoiciaaGreatDoor
open Go.RowKit
def ShortIs (l:List UInt8) (a b:Int) (ok:Bool):Prop :=
 (ok=true∧∃ q:Rat,readF l=some q∧q.num=a∧(q.den:Int)=b ∧ -1000000000 < a∧a < 1000000000∧1≤b∧b < 1000000000)∨(ok=false∧a=0∧b=0)
def RetShort (w:World) (l:List UInt8) (e:Ending) (w':World):Prop :=
 ∃ a b ok,e=.returned (.tuple #[.agg #[.int .i64 a, .int .i64 b], .bool ok])∧ShortIs l a b ok∧Ext w w'
theorem fin_short {fn:Func} {tmps:Array Value} {w wz:World} {r:Nat} {a b:Int} {ok:Bool} {l:List UInt8} (hres:fn.results=#[.cell 2 159, .tmp 3]) (ht:tmps[2]? = some (.pointer (some ⟨r,0,none⟩))) (h3:tmps[3]? = some (.bool ok))
 (hB:Blk 159 wz r #[.int .i64 a, .int .i64 b]) (hE:Ext w wz) (hS:ShortIs l a b ok):bodyPost Tryz.prog fn (RetShort w l) .ret ⟨tmps,[]⟩ wz:=by
 obtain ⟨h0,h1,_,_⟩:=hB.cell2
 refine bodyPost_ret (v:=.tuple #[.agg #[.int .i64 a, .int .i64 b], .bool ok]) (by simp [results,hres,ht,h3,go_sem,h0,h1]) rfl ⟨a,b,ok,rfl,hS,hE⟩
theorem small_dec {t:ByteArray} (hd:(bytes t).all isDig=true) (ht:t.size≤9):decVal (bytes t) < 1000000000:=by
 have h1:=decVal_lt _ hd
 have h2:10 ^ (bytes t).length≤10 ^ 9:=Nat.pow_le_pow_right (by omega) (by rw [bytes_length]; exact ht)
 omega
theorem short_whole {l:List UInt8} {neg:Bool} {t d:ByteArray} (hS:splitF l=(neg,bytes t,bytes d,true)) (hd:bytes d=[]) (hb:decVal (bytes t) < 1000000000):ShortIs l (sg neg (decVal (bytes t))) 1 true:=by
 refine Or.inl ⟨rfl,((sg neg (decVal (bytes t)):Int):Rat),?_,rfl,rfl,?_,?_,by omega,by omega⟩
 ·unfold readF; rw [hS]; simp only []; rw [if_pos hd]
 ·show _ < sg neg _
  unfold sg; split<;>omega
 ·show sg neg _ < _
  unfold sg; split<;>omega
theorem short_frac {l:List UInt8} {neg:Bool} {t d:ByteArray} (hS:splitF l=(neg,bytes t,bytes d,true)) (hd:bytes d≠[]) (hg:Nat.gcd (decVal (bytes t)) (decVal (bytes d))=1) (hb:decVal (bytes t) < 1000000000) (hb2:decVal (bytes d) < 1000000000) :
 ShortIs l (sg neg (decVal (bytes t))) (decVal (bytes d)) true:=by
 have h2:=(splitF_den hS).1 hd
 have hn:(sg neg (decVal (bytes t))).natAbs=decVal (bytes t):=by unfold sg; split<;>omega
 obtain ⟨e1,e2⟩:=mkRat_parts (z:=sg neg (decVal (bytes t))) h2 (by rw [hn]; exact hg)
 refine Or.inl ⟨rfl,_,?_,e1,?_,?_,?_,by omega,by omega⟩
 ·unfold readF; rw [hS]; simp only []; rw [if_neg hd,if_pos hg]
 ·unfold denF at e2
  split at e2
  ·omega
  ·exact e2
 ·unfold sg; split<;>omega
 ·unfold sg; split<;>omega
theorem put_two {T:TypeId} {w w1:World} {r0:Nat} {x y:Value} (hB:Blk T w1 r0 #[x,y]) (hE:Ext w w1) (hr:w.heap.size=r0) (a b:Value) :
 Blk T ((w1.setCell ⟨r0,0,none⟩ a).setCell ⟨r0,1,none⟩ b) r0 #[a,b]∧Ext w ((w1.setCell ⟨r0,0,none⟩ a).setCell ⟨r0,1,none⟩ b) :=
 ⟨(hB.set_ 0 _).set_ 1 _,(hE.setCell (Or.inr (by rw [hr]; exact Nat.le_refl _)) _).setCell (Or.inr (by rw [hr]; exact Nat.le_refl _)) _⟩
set_option maxHeartbeats 2000000 in
set_option maxRecDepth 100000 in
theorem readShort_any (s:ByteArray) (w:World) (hs:s.size≤1099511627776):Calls Tryz.prog 158 #[.string s] w (RetShort w (bytes s)):=by
 by_cases h20:20 < s.size
 ·go_enter Tryz.func158,Tryz.ntmps158
  go_wp2
  exact fin_short rfl rfl rfl (Blk.new w _ _) ((Fr.refl _ _).alloc _) (Or.inr ⟨rfl,rfl,rfl⟩)
 ·have hs20:decide ((20:Int) < (s.size:Int))=false:=by simp; omega
  go_enter Tryz.func158,Tryz.ntmps158
  go_wp2_with fail
  generalize hwb:World.alloc w _=wb
  have HB:Hid (Blk 159 wb w.heap.size #[.int .i64 0, .int .i64 0]):=hwb ▸ Blk.new _ _ _
  have HE:Hid (Ext w wb):=hwb ▸ (Fr.refl _ _).alloc _
  clear hwb
  refine (split_any s wb hs).mono ?_
  rintro e w1 ⟨neg,t,d,ok,rfl,hS,hF1⟩
  have HB1:=zh (HB.out.ext hF1)
  have HE1:=zh (HE.out.trans hF1)
  have HS:=zh hS
  obtain ⟨hd1,hd2,hd3⟩:=splitF_digits hS
  rw [bytes_length,bytes_length,bytes_length] at hd3
  have HT:=zh hd1
  have HD:=zh hd2
  clear HB HE hF1 hS hd1 hd2
  generalize hR0:w.heap.size=r0 at *
  have hr0:=HB1.out.lt
  have HR0:=zh hR0
  clear hR0
  obtain ⟨x0,x1,x2,x3⟩:=HB1.out.cell2
  have HN0:Hid (Blk 159 (((w1.setCell ⟨r0,0,none⟩ (.int .i64 0)).setCell ⟨r0,1,none⟩ (.int .i64 0)).alloc (.cells #[.bool neg, .string t, .string d] 179)) r0 #[.int .i64 0, .int .i64 0]∧Ext w (((w1.setCell ⟨r0,0,none⟩ (.int .i64 0)).setCell ⟨r0,1,none⟩ (.int .i64 0)).alloc (.cells #[.bool neg, .string t, .string d] 179))) :=
   ⟨((HB1.out.set_ 0 _).set_ 1 _).alloc _,((HE1.out.setCell (Or.inr (by rw [HR0.out]; exact Nat.le_refl _)) _).setCell (Or.inr (by rw [HR0.out]; exact Nat.le_refl _)) _).alloc _⟩
  cases ok with
  | false =>
    go_wp2
    exact fin_short rfl rfl rfl HN0.out.1 HN0.out.2 (Or.inr ⟨rfl,rfl,rfl⟩)
  | true =>
    by_cases ht9:9 < t.size
    ·go_wp2
     exact fin_short rfl rfl rfl HN0.out.1 HN0.out.2 (Or.inr ⟨rfl,rfl,rfl⟩)
    ·have hT9:decide ((9:Int) < (t.size:Int))=false:=by simp; omega
     by_cases hd9:9 < d.size
     ·go_wp2
      exact fin_short rfl rfl rfl HN0.out.1 HN0.out.2 (Or.inr ⟨rfl,rfl,rfl⟩)
     ·have hD9:decide ((9:Int) < (d.size:Int))=false:=by simp; omega
      clear HN0
      go_wp2_with fail
      have HV:=zh (fun W=>digitsValue_any t W HT.out (by omega))
      have HV2:=zh (fun W=>digitsValue_any d W HD.out (by omega))
      have hb1:=small_dec HT.out (by omega)
      have hb2:=small_dec HD.out (by omega)
      have HW:=zh (fun (h:bytes d=[])=>short_whole HS.out h hb1)
      have HFr:=zh (fun (h:bytes d≠[]) hg=>short_frac HS.out h hg hb1 hb2)
      generalize decVal (bytes t)=nt at *
      generalize decVal (bytes d)=nd at *
      refine (HV.out _).mono ?_
      rintro e w2 ⟨rfl,rfl⟩
      by_cases hd0:bytes d=[]
      ·have hd1:d.toList=[]:=by rw [Lib.toList_data]; exact hd0
       have hd2:(!d.toList.isEmpty)=false:=by rw [hd1]; rfl
       cases neg with
       | false =>
         have hP:=put_two HB1.out HE1.out HR0.out (.int .i64 (nt:Int)) (.int .i64 1)
         have HP:=zh hP
         clear hP
         go_wp2
         exact fin_short rfl rfl rfl ((HP.out.1.alloc _).alloc _) ((HP.out.2.alloc _).alloc _) (HW.out hd0)
       | true =>
         have hP:=put_two HB1.out HE1.out HR0.out (.int .i64 (-(nt:Int))) (.int .i64 1)
         have HP:=zh hP
         clear hP
         go_wp2
         exact fin_short rfl rfl rfl ((HP.out.1.alloc _).alloc _) ((HP.out.2.alloc _).alloc _) (HW.out hd0)
      ·have hd1:d.toList≠[]:=by rw [Lib.toList_data]; exact hd0
       have hd2:d.toList.isEmpty=false:=by simpa using hd1
       go_wp2_with fail
       refine (HV2.out _).mono ?_
       rintro e w3 ⟨rfl,rfl⟩
       have HGc:=zh (fun W=>gcd64_any nt nd W (by omega) (by omega))
       obtain ⟨G,hG⟩:∃ G,Nat.gcd nt nd=G:=⟨_,rfl⟩
       rw [hG] at HGc
       have HGG:=zh hG
       clear hG
       go_wp2_with fail
       refine (HGc.out _).mono ?_
       rintro e w3 ⟨rfl,n3,rfl⟩
       by_cases hG1:G=1
       ·have hg1:((G:Int) != 1)=false:=by simp; omega
        have HSf:=zh (HFr.out hd0 (by rw [HGG.out,hG1]))
        cases neg with
        | false =>
          go_wp2
          exact fin_short rfl rfl rfl (put_two (((HB1.out.alloc _).alloc _).drewN n3) (((HE1.out.alloc _).alloc _).drewN n3) HR0.out _ _).1 (put_two (((HB1.out.alloc _).alloc _).drewN n3) (((HE1.out.alloc _).alloc _).drewN n3) HR0.out _ _).2 HSf.out
        | true =>
          go_wp2
          refine fin_short rfl rfl rfl (put_two (w:=w) ((((HB1.out.alloc _).alloc _).drewN n3).far (by show r0≠w1.heap.size + 1; omega) _) ?_ HR0.out _ _).1 (put_two ((((HB1.out.alloc _).alloc _).drewN n3).far (by show r0≠w1.heap.size + 1; omega) _) ?_ HR0.out _ _).2 HSf.out
          ·exact (((HE1.out.alloc _).alloc _).drewN n3).setCell (Or.inr (by have:=HE1.out.size; show _≤w1.heap.size + 1; omega)) _
          ·exact (((HE1.out.alloc _).alloc _).drewN n3).setCell (Or.inr (by have:=HE1.out.size; show _≤w1.heap.size + 1; omega)) _
       ·have hg1:((G:Int) != 1)=true:=by simp; omega
        go_wp2
        exact fin_short rfl rfl rfl (put_two (((HB1.out.alloc _).alloc _).drewN n3) (((HE1.out.alloc _).alloc _).drewN n3) HR0.out _ _).1 (put_two (((HB1.out.alloc _).alloc _).drewN n3) (((HE1.out.alloc _).alloc _).drewN n3) HR0.out _ _).2 (Or.inr ⟨rfl,rfl,rfl⟩)
theorem put_four {T:TypeId} {w w1:World} {r0:Nat} {x y x' y':Value} (hB:Blk T w1 r0 #[x,y]) (hB':Blk T w1 (r0 + 1) #[x',y']) (hE:Ext w w1) (hr:w.heap.size=r0) (a b a' b':Value) :
 Blk T ((((w1.setCell ⟨r0,0,none⟩ a).setCell ⟨r0,1,none⟩ b).setCell ⟨r0 + 1,0,none⟩ a').setCell ⟨r0 + 1,1,none⟩ b') r0 #[a,b]∧Blk T ((((w1.setCell ⟨r0,0,none⟩ a).setCell ⟨r0,1,none⟩ b).setCell ⟨r0 + 1,0,none⟩ a').setCell ⟨r0 + 1,1,none⟩ b') (r0 + 1) #[a',b']∧Ext w ((((w1.setCell ⟨r0,0,none⟩ a).setCell ⟨r0,1,none⟩ b).setCell ⟨r0 + 1,0,none⟩ a').setCell ⟨r0 + 1,1,none⟩ b'):=by
 have h1:=put_two hB hE hr a b
 have hB2:Blk T ((w1.setCell ⟨r0,0,none⟩ a).setCell ⟨r0,1,none⟩ b) (r0 + 1) #[x',y']:=(hB'.far (by simp) _).far (by simp) _
 exact ⟨(h1.1.far (by simp) _).far (by simp) _,(hB2.set_ 0 _).set_ 1 _,(h1.2.setCell (Or.inr (by show _≤r0 + 1; omega)) _).setCell (Or.inr (by show _≤r0 + 1; omega)) _⟩
def RetTwoShort (w:World) (l l':List UInt8) (e:Ending) (w':World):Prop :=
 ∃ a b a' b' ok,e=.returned (.tuple #[.agg #[.int .i64 a, .int .i64 b], .agg #[.int .i64 a', .int .i64 b'], .bool ok])∧(ok=true→ShortIs l a b true∧ShortIs l' a' b' true)∧Ext w w'
theorem ShortIs.ok {l:List UInt8} {a b:Int} (h:ShortIs l a b true):∃ q:Rat,readF l=some q∧q.num=a∧(q.den:Int)=b ∧ -1000000000 < a∧a < 1000000000∧1≤b∧b < 1000000000:=by
 rcases h with ⟨_,h⟩ | ⟨h,_⟩
 ·exact h
 ·cases h
theorem fin_two {fn:Func} {tmps:Array Value} {w wz:World} {r r':Nat} {a b a' b':Int} {ok:Bool} {l l':List UInt8} (hres:fn.results=#[.cell 4 159, .cell 5 159, .tmp 6]) (ht:tmps[4]? = some (.pointer (some ⟨r,0,none⟩))) (ht':tmps[5]? = some (.pointer (some ⟨r',0,none⟩))) (h3:tmps[6]? = some (.bool ok))
 (hB:Blk 159 wz r #[.int .i64 a, .int .i64 b]) (hB':Blk 159 wz r' #[.int .i64 a', .int .i64 b']) (hE:Ext w wz) (hS:ok=true→ShortIs l a b true∧ShortIs l' a' b' true):bodyPost Tryz.prog fn (RetTwoShort w l l') .ret ⟨tmps,[]⟩ wz:=by
 obtain ⟨h0,h1,_,_⟩:=hB.cell2
 obtain ⟨k0,k1,_,_⟩:=hB'.cell2
 refine bodyPost_ret (v:=.tuple #[.agg #[.int .i64 a, .int .i64 b], .agg #[.int .i64 a', .int .i64 b'], .bool ok]) (by simp [results,hres,ht,ht',h3,go_sem,h0,h1,k0,k1]) rfl ⟨a,b,a',b',ok,rfl,hS,hE⟩
set_option maxHeartbeats 2000000 in
set_option maxRecDepth 100000 in
theorem readTwo_any (s s':ByteArray) (w:World) (hs:s.size≤1099511627776) (hs':s'.size≤1099511627776):Calls Tryz.prog 133 #[.string s, .string s'] w (RetTwoShort w (bytes s) (bytes s')):=by
 go_enter Tryz.func133,Tryz.ntmps133
 go_wp2_with fail
 generalize hwb:World.alloc (World.alloc w _) _=wb
 obtain ⟨hB0,hB1,hE⟩:=two_blocks hwb
 clear hwb
 refine (readShort_any s wb hs).mono ?_
 rintro e w1 ⟨a,b,ok,rfl,hS,hF1⟩
 have HB0:=zh (hB0.ext hF1)
 have HB1:=zh (hB1.ext hF1)
 have HE:=zh (hE.trans hF1)
 have HS:=zh hS
 have hr0:=(hB0.ext hF1).lt
 have hr1:=(hB1.ext hF1).lt
 clear hB0 hB1 hE hF1 hS
 generalize hR0:w.heap.size=r0 at *
 have HR0:=zh hR0
 clear hR0
 obtain ⟨x0,x1,x2,x3⟩:=HB0.out.cell2
 obtain ⟨y0,y1,y2,y3⟩:=HB1.out.cell2
 cases ok with
 | false =>
   have HP:=zh (put_four HB0.out HB1.out HE.out HR0.out (.int .i64 0) (.int .i64 0) (.int .i64 0) (.int .i64 0))
   go_wp2
   exact fin_two rfl rfl rfl rfl (HP.out.1.alloc _) (HP.out.2.1.alloc _) (HP.out.2.2.alloc _) (fun h=>by cases h)
 | true =>
   go_wp2_with fail
   generalize hwb:World.alloc w1 _=wb
   have hB2:Blk 159 wb w1.heap.size #[.int .i64 a, .int .i64 b]:=hwb ▸ Blk.new _ _ _
   have hE2:Ext w1 wb:=hwb ▸ (Fr.refl _ _).alloc _
   clear hwb x0 x1 x2 x3 y0 y1 y2 y3
   refine (readShort_any s' wb hs').mono ?_
   rintro e w2 ⟨a',b',ok',rfl,hS',hF2⟩
   replace hB2:=hB2.ext hF2
   replace HB0:=zh (HB0.out.ext (hE2.trans hF2))
   replace HB1:=zh (HB1.out.ext (hE2.trans hF2))
   replace HE:=zh (HE.out.trans (hE2.trans hF2))
   have HS':=zh hS'
   have HB2:=zh hB2
   have hsz:=hB2.lt
   clear hS' hE2 hF2 hB2
   obtain ⟨x0,x1,x2,x3⟩:=HB0.out.cell2
   obtain ⟨y0,y1,y2,y3⟩:=HB1.out.cell2
   obtain ⟨z0,z1,z2,z3⟩:=HB2.out.cell2
   generalize w1.heap.size=r2 at *
   have hq0:r0 < w2.heap.size:=by omega
   have hq1:r0 + 1 < w2.heap.size:=by omega
   cases ok' with
   | false =>
     have HP:=zh (put_four HB0.out HB1.out HE.out HR0.out (.int .i64 0) (.int .i64 0) (.int .i64 0) (.int .i64 0))
     go_wp2
     exact fin_two rfl rfl rfl rfl (HP.out.1.alloc _) (HP.out.2.1.alloc _) (HP.out.2.2.alloc _) (fun h=>by cases h)
   | true =>
     have HP:=zh (put_four HB0.out HB1.out HE.out HR0.out (.int .i64 a) (.int .i64 b) (.int .i64 a') (.int .i64 b'))
     go_wp2_with fail
     go_region
     all_goals
      go_wp2
      exact fin_two rfl rfl rfl rfl ((HP.out.1.alloc _).drewN 1) ((HP.out.2.1.alloc _).drewN 1) ((HP.out.2.2.alloc _).drew) (fun _=>⟨HS.out,HS'.out⟩)
end Go.Proofs.YtbgkofgoeoiciaaGreatDoor

namespace Go.Proofs.YtbgkofgoeoiciaaGreatDoor
open Go.RowKit
theorem bytes_of (l:List UInt8):bytes ⟨l.toArray⟩=l:=by simp [bytes]
end Go.Proofs.YtbgkofgoeoiciaaGreatDoor
