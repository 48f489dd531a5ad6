/-
 My texts Rt, Dc, RcM, RtM, Sx8, Sx9, Whole, Ra, Ts, Fs, Cmp, Tx, Len, Vl, PaM, Pw, Pa, Px, Gq, RfM put together.
-/
import Derived.Test.YtbgkofgoeoiciaaGreatDoorT18
import Derived.Test.YtbgkofgoeoiciaaGreatDoorT16
import Derived.Test.YtbgkofgoeoiciaaGreatDoorT01
import Derived.Deep.LoopGhost
import Derived.Test.YtbgkofgoeoiciaaGreatDoorT12
import Derived.Test.YtbgkofgoeoiciaaGreatDoorT02
import Derived.Test.YtbgkofgoeoiciaaGreatDoorT06
import Derived.Test.YtbgkofgoeoiciaaGreatDoorT11
import Derived.Test.YtbgkofgoeoiciaaGreatDoorT03
import Derived.Test.YtbgkofgoeoiciaaGreatDoorT17
namespace Go.Proofs.YtbgkofgoeoiciaaGreatDoor
open Go.RowKit
theorem digit_back {c:UInt8} (h:isDig c=true):UInt8.ofNat (48 + (c.toNat - 48))=c:=by
 have:=isDig_le h
 apply UInt8.toNat.inj
 rw [UInt8.toNat_ofNat']
 have:=c.toNat_lt
 omega
theorem dec_of:∀ (k:Nat) (l:List UInt8),l.length=k→l.all isDig=true→l≠[]→l.head? ≠ some 48→Lib.decDigits (decVal l)=l:=by
 intro k
 induction k with
 | zero=>intro l hl _ h0; exact absurd (List.length_eq_zero_iff.1 hl) h0
 | succ k ih =>
   intro l hl hd h0 h48
   obtain ⟨l',c,rfl⟩:∃ l' c,l=l' ++ [c]:=by
    rcases List.eq_nil_or_concat l with h | ⟨l',c,h⟩
    ·exact absurd h h0
    ·exact ⟨l',c,by simpa using h⟩
   rw [List.all_append,Bool.and_eq_true] at hd
   have hc:isDig c=true:=by simpa using hd.2
   have hcb:=isDig_le hc
   rw [decVal_snoc]
   by_cases hl0:l'=[]
   ·subst hl0
    have e:decVal []=0:=rfl
    rw [e,Nat.mul_zero,Nat.zero_add,dec_one (by omega),digit_back hc]; rfl
   ·have hh:l'.head? ≠ some 48:=by
     rw [List.head?_append] at h48
     cases hx:l'.head? with
     | none=>exact absurd (List.head?_eq_none_iff.1 hx) hl0
     | some x=>rw [hx] at h48; exact h48
    have h1:=ih l' (by simp at hl; exact hl) hd.1 hl0 hh
    have hp:=(decVal_pos hd.1 hl0 hh).1
    rw [dec_succ (by omega),show (10 * decVal l' + (c.toNat - 48)) / 10=decVal l' by omega,show (10 * decVal l' + (c.toNat - 48)) % 10=c.toNat - 48 by omega,h1,digit_back hc]
theorem head_dec_ne (n:Nat):(Lib.decDigits n).head? ≠ some 45:=by
 intro e
 cases h:Lib.decDigits n with
 | nil=>exact decDigits_ne n h
 | cons x xs =>
   rw [h] at e
   simp only [List.head?_cons,Option.some.injEq] at e
   subst e
   have:=dec_all n
   rw [h] at this
   simp only [List.all_cons,Bool.and_eq_true] at this
   exact absurd this.1 (by decide)
theorem takeWhile_stop {p:UInt8→Bool} {l r:List UInt8} {c:UInt8} (h:l.all p=true) (hc:p c=false):(l ++ c :: r).takeWhile p=l∧(l ++ c :: r).dropWhile p=c :: r:=by
 induction l with
 | nil=>simp [hc]
 | cons x xs ih =>
   simp only [List.all_cons,Bool.and_eq_true] at h
   obtain ⟨h1,h2⟩:=ih h.2
   rw [List.cons_append,List.takeWhile_cons,List.dropWhile_cons,h.1]
   simp [h1,h2]
theorem unsign_itoa (z:Int) (r:List UInt8):unsign (Lib.itoa z ++ r)=(decide (z < 0),Lib.decDigits z.natAbs ++ r):=by
 by_cases h:z < 0
 ·rw [itoa_neg h,decide_eq_true h]
  unfold unsign
  rw [if_pos (by simp)]
  rfl
 ·rw [itoa_nn (by omega),decide_eq_false h]
  unfold unsign
  rw [if_neg]
  intro e
  rw [List.head?_append] at e
  cases hx:(Lib.decDigits z.natAbs).head? with
  | none=>exact absurd (List.head?_eq_none_iff.1 hx) (decDigits_ne _)
  | some c =>
    rw [hx] at e
    exact head_dec_ne _ (hx.trans e)
theorem sg_abs (z:Int):sg (decide (z < 0)) z.natAbs=z:=by
 unfold sg
 split
 ·rename_i h; have:=of_decide_eq_true h; omega
 ·rename_i h; have:¬ z < 0:=fun k=>h (decide_eq_true k); omega
theorem whole_self {q:Rat} (h:q.den=1):((q.num:Int):Rat)=q:=by
 apply Rat.ext<;>simp [h]
theorem num_ne {q:Rat} (h:q.den≠1):q.num≠0:=by
 intro e
 have:=q.reduced
 rw [e] at this
 simp [Nat.Coprime] at this
 exact h this
theorem itoa_den (n:Nat):Lib.itoa (n:Int)=Lib.decDigits n:=by
 rw [itoa_nn (by omega),Int.natAbs_natCast]
theorem split_text {q:Rat} (h:q.den≠1):splitF (ratText q)=(decide (q.num < 0),Lib.decDigits q.num.natAbs,Lib.decDigits q.den,true):=by
 have hn:=num_ne h
 have hd:=q.den_nz
 unfold ratText
 rw [if_neg h,itoa_den,List.append_assoc]
 unfold splitF
 rw [unsign_itoa]
 simp only []
 obtain ⟨h1,h2⟩:=takeWhile_stop (p:=isDig) (r:=Lib.decDigits q.den) (c:=47) (dec_all q.num.natAbs) (by decide)
 have e:Lib.decDigits q.num.natAbs ++ ([47] ++ Lib.decDigits q.den)=Lib.decDigits q.num.natAbs ++ 47 :: Lib.decDigits q.den:=rfl
 rw [e,h1,h2]
 have hh:=dec_head q.num.natAbs (by omega)
 rw [if_neg (fun e=>hh (by rw [e]; rfl)),if_neg (fun e=>e.elim (decDigits_ne _) hh),if_neg (by simp),if_neg (by simp)]
 simp only [List.tail_cons]
 obtain ⟨h3,h4⟩:=takeWhile_all (dec_all q.den)
 rw [h3,h4]
 have hh2:=dec_head q.den (by omega)
 have h49:Lib.decDigits q.den≠[49]:=fun e=>by
  have:=dec_val q.den
  rw [e] at this
  exact h (by rw [← this]; rfl)
 have hne:=decDigits_ne q.den
 simp [hh2,h49,hne]
theorem read_text (q:Rat):readF (ratText q)=some q:=by
 by_cases h:q.den=1
 ·unfold ratText
  rw [if_pos h,read_itoa,whole_self h]
 ·unfold readF
  rw [split_text h]
  simp only []
  rw [if_neg (decDigits_ne _),dec_val,dec_val,if_pos q.reduced,sg_abs,Rat.mkRat_self]
theorem sg_neg_lt {neg:Bool} {a:Nat} (h:a=0→neg=false):(sg neg a < 0 ↔ neg=true)∧(sg neg a).natAbs=a:=by
 cases neg with
 | false=>simp [sg]
 | true =>
   have:a≠0:=fun e=>by cases h e
   simp [sg]; omega
theorem itoa_sg {neg:Bool} {a:Nat} (h:a=0→neg=false):Lib.itoa (sg neg a)=(if neg then [45] else []) ++ Lib.decDigits a:=by
 obtain ⟨h1,h2⟩:=sg_neg_lt h
 cases neg with
 | false=>rw [itoa_nn (by simp [sg]),h2]; rfl
 | true=>rw [itoa_neg (h1.2 rfl),h2]; rfl
theorem unsign_back {l r:List UInt8} {neg:Bool} (h:unsign l=(neg,r)):l=(if neg then [45] else []) ++ r:=by
 unfold unsign at h
 split at h
 ·rename_i hh
  injection h with h1 h2
  subst h1 h2
  cases l with
  | nil=>cases hh
  | cons x xs=>simp at hh; subst hh; rfl
 ·injection h with h1 h2
  subst h1 h2
  rfl
theorem text_of_read {l:List UInt8} {q:Rat} (h:readF l=some q):ratText q=l:=by
 unfold readF at h
 cases hs:splitF l with
 | mk neg r =>
   obtain ⟨num,den,ok⟩:=r
   rw [hs] at h
   cases ok with
   | false=>cases h
   | true =>
     simp only [] at h
     have hdg:=splitF_digits hs
     obtain ⟨s1,s2⟩:=splitF_den hs
     cases hu:unsign l with
     | mk neg' t =>
       have hl:=unsign_back hu
       have htw:t.takeWhile isDig ++ t.dropWhile isDig=t:=List.takeWhile_append_dropWhile
       unfold splitF at hs
       rw [hu] at hs
       simp only [] at hs
       split at hs
       ·-- zero
        rename_i h48
        injection hs with e1 hs; injection hs with e2 hs; injection hs with e3 e4
        subst e1 e2 e3
        simp at e4
        rw [if_pos rfl,h48] at h
        have hv:decVal [48]=0:=rfl
        rw [hv] at h
        injection h with h
        rw [e4.1] at h hl
        rw [← h,hl,← htw,h48,e4.2]
        simp only [sg]
        unfold ratText
        rw [if_pos (by simp)]
        have:Lib.itoa ((0:Nat):Int)=[48]:=by rw [itoa_den,dec_one (by omega)]; rfl
        simpa using this
       split at hs
       ·injection hs with _ hs; injection hs with _ hs; injection hs with _ hs; cases hs
       rename_i hn
       have hn1:t.takeWhile isDig≠[]:=fun e=>hn (Or.inl e)
       have hn2:(t.takeWhile isDig).head? ≠ some 48:=fun e=>hn (Or.inr e)
       have hdn:=dec_of _ _ rfl (all_takeWhile (p:=isDig) t) hn1 hn2
       split at hs
       ·rename_i hr
        injection hs with e1 hs; injection hs with e2 hs; injection hs with e3 _
        subst e1 e2 e3
        rw [if_pos rfl] at h
        injection h with h
        rw [← h]
        unfold ratText
        rw [if_pos (by simp)]
        have hnum:(((sg neg' (decVal (t.takeWhile isDig)):Int)):Rat).num=sg neg' (decVal (t.takeWhile isDig)):=rfl
        rw [hnum,itoa_sg (fun e=>(s2 e).1),hdn,hl]
        rw [hr,List.append_nil] at htw
        rw [htw]
       split at hs
       ·injection hs with _ hs; injection hs with _ hs; injection hs with _ hs; cases hs
       ·rename_i hr h47
        injection hs with e1 hs; injection hs with e2 hs; injection hs with e3 e4
        subst e1 e2
        rw [e3] at e4
        simp at e4
        obtain ⟨⟨⟨k1,k2⟩,k3⟩,k4⟩:=e4
        rw [if_neg k2] at h
        split at h
        ·rename_i hg
         injection h with h
         have h2:=s1 k2
         have hq:q.num=sg neg' (decVal (t.takeWhile isDig))∧q.den=decVal den:=by
          have:=frac_coprime (x:=sg neg' (decVal (t.takeWhile isDig))) (y:=(decVal den:Int)) (by omega) (by
           unfold Int.gcd
           rw [(sg_neg_lt (fun e=>(s2 e).1)).2,Int.natAbs_natCast,hg]; rfl)
          rw [Rat.divInt_ofNat,h] at this
          exact ⟨this.1,by have:=this.2; omega⟩
         unfold ratText
         rw [if_neg (by rw [hq.2]; omega),hq.1,hq.2,itoa_sg (fun e=>(s2 e).1),hdn,itoa_den,dec_of _ _ rfl hdg.2.1 k2 k3,hl]
         have htail:t.dropWhile isDig=47 :: den:=by
          cases hx:t.dropWhile isDig with
          | nil=>exact absurd hx hr
          | cons c r =>
            rw [hx] at h47 k1 e3
            simp at h47 k1 e3
            subst h47
            have:=List.takeWhile_append_dropWhile (p:=isDig) (l:=r)
            rw [e3,k1,List.append_nil] at this
            rw [this]
         rw [htail] at htw
         rw [List.append_assoc,List.append_assoc]
         congr 1
        ·cases h
theorem read_iff {l:List UInt8} {q:Rat}:readF l=some q ↔ ratText q=l :=
 ⟨text_of_read,fun h=>by rw [← h]; exact read_text q⟩
end Go.Proofs.YtbgkofgoeoiciaaGreatDoor

namespace Go.Proofs.YtbgkofgoeoiciaaGreatDoor
open Go.RowKit
theorem readF_dec {l:List UInt8} {q:Rat} {k:Nat} (h:readF l=some q) (hl:l.length≤k) (hk:1≤k):q.num.natAbs < 10 ^ k∧q.den < 10 ^ k:=by
 unfold readF at h
 obtain ⟨⟨neg,num,den,ok⟩,hS⟩:∃ x,splitF l=x:=⟨_,rfl⟩
 rw [hS] at h
 cases ok with
 | false=>cases h
 | true =>
   obtain ⟨d1,d2,d3⟩:=splitF_digits hS
   have hn:∀ z,(sg neg z).natAbs=z:=fun z=>by unfold sg; split<;>omega
   have w1:decVal num < 10 ^ k:=Nat.lt_of_lt_of_le (decVal_lt num d1) (Nat.pow_le_pow_right (by omega) (by omega))
   have w2:decVal den < 10 ^ k:=Nat.lt_of_lt_of_le (decVal_lt den d2) (Nat.pow_le_pow_right (by omega) (by omega))
   simp only [] at h
   split at h
   ·injection h with h
    subst h
    refine ⟨?_,?_⟩
    ·show (sg neg (decVal num)).natAbs < 10 ^ k
     rw [hn]; exact w1
    ·show 1 < 10 ^ k
     exact Nat.one_lt_pow (by omega) (by omega)
   ·split at h
    ·rename_i hne hg
     injection h with h
     subst h
     have h2:=(splitF_den hS).1 hne
     obtain ⟨e1,e2⟩:=mkRat_parts (z:=sg neg (decVal num)) h2 (by rw [hn]; exact hg)
     refine ⟨by rw [e1,hn]; exact w1,?_⟩
     have e3:(mkRat (sg neg (decVal num)) (decVal den)).den=decVal den:=by
      unfold denF at e2
      split at e2<;>omega
     rw [e3]; exact w2
    ·cases h
end Go.Proofs.YtbgkofgoeoiciaaGreatDoor

namespace Go.Proofs.YtbgkofgoeoiciaaGreatDoor
open Go.RowKit
def RcIs (la lb s:List UInt8) (ok:Bool):Prop :=
 (ok=true∧∃ v m:Int,readF la=some (v:Rat)∧readF lb=some (m:Rat)∧2≤m∧∃ q,RecIs v m q true∧s=ratText q) ∨
 (ok=false∧s=[]∧∀ v m:Int,readF la=some (v:Rat)→readF lb=some (m:Rat)→2≤m→∀ q,¬ RecIs v m q true)
theorem RecIs.one {v m:Int} {q q':Rat} (h:RecIs v m q true) (k:RecIs v m q' true):q=q':=by
 obtain ⟨r,t,h1,h2⟩:=h
 obtain ⟨r',t',k1,k2⟩:=k
 obtain ⟨rfl,rfl⟩:=h1.unique k1
 rcases h2 with ⟨_,_,_,_,e⟩ | ⟨e,_⟩
 ·rcases k2 with ⟨_,_,_,_,e'⟩ | ⟨e',_⟩
  ·rw [e,e']
  ·cases e'
 ·cases e
theorem RcIs.unique {la lb s s':List UInt8} {ok ok':Bool} (h:RcIs la lb s ok) (k:RcIs la lb s' ok'):s=s'∧ok=ok':=by
 rcases h with ⟨rfl,v,m,h1,h2,h3,q,h4,rfl⟩ | ⟨rfl,rfl,h⟩
 ·rcases k with ⟨rfl,v',m',k1,k2,k3,q',k4,rfl⟩ | ⟨rfl,rfl,k⟩
  ·rw [h1] at k1; rw [h2] at k2
   injection k1 with k1; injection k2 with k2
   obtain rfl:=Rat.intCast_inj.1 k1
   obtain rfl:=Rat.intCast_inj.1 k2
   exact ⟨by rw [h4.one k4],rfl⟩
  ·exact absurd h4 (k v m h1 h2 h3 q)
 ·rcases k with ⟨rfl,v',m',k1,k2,k3,q',k4,rfl⟩ | ⟨rfl,rfl,k⟩
  ·exact absurd k4 (h v' m' k1 k2 k3 q')
  ·exact ⟨rfl,rfl⟩
theorem RecRun.small {m r0 r1 t0 t1 r t:Int} (h:RecRun m r0 r1 t0 t1 r t):r * r * 2 < m:=by
 induction h with
 | done h=>exact h
 | step _ _ ih=>exact ih
theorem sq_small {r m:Int} (h:r * r * 2 < m):r.natAbs≤m.natAbs:=by
 have h1:((r.natAbs * r.natAbs:Nat):Int)=r * r:=Int.natAbs_mul_self
 rcases Nat.eq_zero_or_pos r.natAbs with e | e
 ·omega
 ·have h2:r.natAbs * 1≤r.natAbs * r.natAbs:=Nat.mul_le_mul_left _ e
  omega
theorem frac_le {q:Rat} {n d:Int} (hd:d≠0) (h:Rat.divInt n d=q):q.num.natAbs≤n.natAbs∧q.den≤d.natAbs:=by
 have hc:q.num * d=n * q.den:=by
  have h1:=Rat.num_divInt_den q
  rw [← h1] at h
  exact ((Rat.divInt_eq_divInt_iff hd (denI q)).1 h).symm
 have hn:q.num.natAbs * d.natAbs=n.natAbs * q.den:=by
  have:=congrArg Int.natAbs hc
  rwa [Int.natAbs_mul,Int.natAbs_mul,Int.natAbs_natCast] at this
 have hcop:=q.reduced
 have hd1:q.den ∣ d.natAbs:=(Nat.Coprime.symm hcop).dvd_of_dvd_mul_left ⟨n.natAbs,by rw [hn,Nat.mul_comm]⟩
 have hd0:0 < d.natAbs:=by omega
 have hde:=Nat.le_of_dvd hd0 hd1
 refine ⟨?_,hde⟩
 have hn1:q.num.natAbs ∣ n.natAbs:=hcop.dvd_of_dvd_mul_right ⟨d.natAbs,hn.symm⟩
 rcases Nat.eq_zero_or_pos n.natAbs with e | e
 ·rw [e,Nat.zero_mul] at hn
  rcases Nat.mul_eq_zero.1 hn with e2 | e2
  ·omega
  ·omega
 ·exact Nat.le_of_dvd e hn1
theorem RecIs.size {v m:Int} {q:Rat} (h:RecIs v m q true) (hm:2≤m):q.num.natAbs≤m.natAbs∧q.den≤m.natAbs:=by
 obtain ⟨r,t,h1,h2⟩:=h
 rcases h2 with ⟨_,h3,h4,_,rfl⟩ | ⟨e,_⟩
 ·have ht:t≠0:=fun e=>by
   rw [e] at h4
   simp at h4; omega
  obtain ⟨f1,f2⟩:=frac_le (n:=r) ht rfl
  have:=sq_small h1.small
  have:=sq_small h3
  omega
 ·cases e
theorem RecIs.ok {v m:Int} {q:Rat} (h:RecIs v m q false):∀ q',¬ RecIs v m q' true:=fun q' k=>by
 obtain ⟨r,t,h1,h2⟩:=h
 obtain ⟨r',t',k1,k2⟩:=k
 obtain ⟨rfl,rfl⟩:=h1.unique k1
 rcases h2 with ⟨e,_⟩ | ⟨_,h2,_⟩
 ·cases e
 ·rcases k2 with ⟨_,a,b,c,_⟩ | ⟨e,_⟩
  ·exact h2 ⟨a,b,c⟩
  ·cases e
theorem RcIs.none1 {la lb:List UInt8} (h:readF la=none):RcIs la lb [] false:=Or.inr ⟨rfl,rfl,fun v m h1=>by rw [h] at h1; cases h1⟩
theorem RcIs.none2 {la lb:List UInt8} (h:readF lb=none):RcIs la lb [] false:=Or.inr ⟨rfl,rfl,fun v m _ h1=>by rw [h] at h1; cases h1⟩
theorem RcIs.frac1 {la lb:List UInt8} {q:Rat} (h:readF la=some q) (hd:¬ q.den=1):RcIs la lb [] false:=Or.inr ⟨rfl,rfl,fun v m h1=>by rw [h] at h1; injection h1 with h1; exact absurd (by rw [h1]; rfl) hd⟩
theorem RcIs.frac2 {la lb:List UInt8} {q:Rat} (h:readF lb=some q) (hd:¬ q.den=1):RcIs la lb [] false:=Or.inr ⟨rfl,rfl,fun v m _ h1=>by rw [h] at h1; injection h1 with h1; exact absurd (by rw [h1]; rfl) hd⟩
theorem RcIs.low {la lb:List UInt8} {q:Rat} (h:readF lb=some q) (hd:q.num < 2):RcIs la lb [] false:=Or.inr ⟨rfl,rfl,fun v m _ h1 h2=>by rw [h] at h1; injection h1 with h1; rw [h1] at hd; exact absurd hd (by simp; omega)⟩
theorem RcIs.got {la lb:List UInt8} {p q x:Rat} (h1:readF la=some p) (h2:readF lb=some q) (d1:p.den=1) (d2:q.den=1) (hm:¬ q.num < 2) (h:RecIs p.num q.num x true):RcIs la lb (ratText x) true :=
 Or.inl ⟨rfl,p.num,q.num,by rw [h1,← whole_num d1],by rw [h2,← whole_num d2],by omega,x,h,rfl⟩
theorem RcIs.not {la lb:List UInt8} {p q:Rat} (h1:readF la=some p) (h2:readF lb=some q) (h:∀ x,¬ RecIs p.num q.num x true):RcIs la lb [] false :=
 Or.inr ⟨rfl,rfl,fun v m k1 k2 _ x=>by
  rw [h1] at k1; rw [h2] at k2
  injection k1 with k1; injection k2 with k2
  rw [k1,k2] at h
  exact h x⟩
end Go.Proofs.YtbgkofgoeoiciaaGreatDoor

namespace Go.Proofs.YtbgkofgoeoiciaaGreatDoor
open Go.RowKit
theorem RecRun.ends {m:Int}:∀ (k:Nat) (r0 r1 t0 t1:Int),0 < m→0≤r0→0≤r1→r1.toNat≤k→∃ r t,RecRun m r0 r1 t0 t1 r t:=by
 intro k
 induction k with
 | zero=>exact fun r0 r1 t0 t1 hm _ h0 h=>⟨r1,t1, .done (by rw [show r1=0 by omega]; simpa using hm)⟩
 | succ k ih =>
   intro r0 r1 t0 t1 hm hr h0 h
   by_cases hs:r1 * r1 * 2 < m
   ·exact ⟨r1,t1, .done hs⟩
   ·have h1:r1≠0:=fun e=>hs (by rw [e]; simpa using hm)
    have h3:0≤r0.tmod r1:=Int.tmod_nonneg _ hr
    have h4:(r0.tmod r1).natAbs < r1.natAbs:=by rw [Int.natAbs_tmod]; exact Nat.mod_lt _ (by omega)
    obtain ⟨r,t,hr⟩:=ih r1 (r0.tmod r1) t1 (t0 - r0.tdiv r1 * t1) hm h0 h3 (by omega)
    exact ⟨r,t, .step hs hr⟩
structure RowInv (m n d r0 r1 t0 t1:Int):Prop where
 inv:RecInv m r0 r1 t0 t1
 big:m≤r0 * r0 * 2
 comb:∃ x y:Int,n=x * r0 + y * r1∧d=x * t0 + y * t1
theorem RowInv.start {m n d v:Int} (hm:2≤m) (hv:m ∣ n - d * (v % m)):RowInv m n d m (v % m) 0 1:=by
 obtain ⟨k,hk⟩:=hv
 refine ⟨RecInv.start (Int.emod_nonneg _ (by omega)) (Int.emod_lt_of_pos _ (by omega)),?_,k,d,by rw [Int.mul_comm k]; omega,by simp⟩
 have:m * 1≤m * m:=Int.mul_le_mul_of_nonneg_left (by omega) (by omega)
 omega
theorem RowInv.next {m n d r0 r1 t0 t1:Int} (h:RowInv m n d r0 r1 t0 t1) (hm:0 < m) (hs:¬ r1 * r1 * 2 < m):RowInv m n d r1 (r0.tmod r1) t1 (t0 - r0.tdiv r1 * t1):=by
 have h0:=h.inv.nonneg
 have h1:0 < r1:=by
  rcases Int.lt_or_eq_of_le h0 with e | e
  ·exact e
  ·rw [← e] at hs; exact absurd (by omega) hs
 obtain ⟨x,y,e1,e2⟩:=h.comb
 refine ⟨h.inv.next h1,by omega,y + x * r0.tdiv r1,x,?_,?_⟩
 ·have h2:=Int.mul_tdiv_add_tmod r0 r1
  generalize r0.tdiv r1=q at *
  generalize r0.tmod r1=s at *
  subst h2
  rw [e1]; grind
 ·rw [e2]; generalize r0.tdiv r1=q; grind
theorem two_mul_le (a b:Int):a * b * 2≤a * a + b * b:=by
 have h:0≤(a - b) * (a - b):=by
  rcases Int.le_total 0 (a - b) with e | e
  ·exact Int.mul_nonneg e e
  ·exact Int.mul_nonneg_of_nonpos_of_nonpos e e
 have e:(a - b) * (a - b)=a * a + b * b - a * b * 2:=by grind
 omega
theorem abs_sq (a:Int):(a.natAbs:Int) * (a.natAbs:Int)=a * a:=Int.natAbs_mul_self
theorem sq_le {a b:Int} (ha:0≤a) (h:a≤b):a * a≤b * b:=Int.mul_le_mul h h ha (by omega)
theorem RowInv.fin {m n d r0 r1 t0 t1:Int} (h:RowInv m n d r0 r1 t0 t1) (hm:0 < m) (hs:r1 * r1 * 2 < m) (hn:n * n * 2 < m) (hd:d * d * 2 < m):∃ y:Int,n=y * r1∧d=y * t1:=by
 obtain ⟨x,y,e1,e2⟩:=h.comb
 obtain ⟨i1,i2,i3,i4,i5⟩:=h.inv
 have hb:=h.big
 by_cases hx:x=0
 ·subst hx
  exact ⟨y,by rw [e1]; simp,by rw [e2]; simp⟩
 ·exfalso
  -- |n| is less than r0
  have hn0:(n.natAbs:Int) < r0:=by
   rcases Int.lt_or_le (n.natAbs:Int) r0 with e | e
   ·exact e
   ·have:=sq_le (by omega) e
    rw [abs_sq] at this; omega
  -- so x and y have different signs
  have hxy:(0 < x∧y < 0)∨(x < 0∧0 < y):=by
   rcases Int.lt_trichotomy y 0 with hy | hy | hy
   ·rcases (by omega:0 < x∨x < 0) with h1 | h1
    ·exact Or.inl ⟨h1,hy⟩
    ·exfalso
     have a1:x * r0 ≤ -1 * r0:=Int.mul_le_mul_of_nonneg_right (by omega) (by omega)
     have a2:y * r1≤0:=Int.mul_nonpos_of_nonpos_of_nonneg (by omega) i1
     omega
   ·exfalso
    subst hy
    rcases (by omega:0 < x∨x < 0) with h1 | h1
    ·have a1:1 * r0≤x * r0:=Int.mul_le_mul_of_nonneg_right (by omega) (by omega)
     omega
    ·have a1:x * r0 ≤ -1 * r0:=Int.mul_le_mul_of_nonneg_right (by omega) (by omega)
     omega
   ·rcases (by omega:0 < x∨x < 0) with h1 | h1
    ·exfalso
     have a1:1 * r0≤x * r0:=Int.mul_le_mul_of_nonneg_right (by omega) (by omega)
     have a2:0≤y * r1:=Int.mul_nonneg (by omega) i1
     omega
    ·exact Or.inr ⟨h1,hy⟩
  -- the determinant
  have det:n * t1 - d * r1=x * (r0 * t1 - t0 * r1):=by rw [e1,e2]; grind
  have hdet:r0 * t1 - t0 * r1=m∨r0 * t1 - t0 * r1 = -m:=by
   rcases i5 with ⟨s0,s1⟩ | ⟨s0,s1⟩
   ·have q1:(t1.natAbs:Int) = -t1:=by omega
    have q2:(t0.natAbs:Int)=t0:=by omega
    rw [q1,q2] at i4
    right; grind
   ·have q1:(t1.natAbs:Int)=t1:=by omega
    have q2:(t0.natAbs:Int) = -t0:=by omega
    rw [q1,q2] at i4
    left; grind
  -- |t1| is at most |d|
  have ht:(t1.natAbs:Int)≤(d.natAbs:Int):=by
   have key:∀ a b c e:Int,0≤a→0≤b→1≤c→0≤e→b≤e * a + c * b:=fun a b c e ha hb hc he=>by
    have k1:1 * b≤c * b:=Int.mul_le_mul_of_nonneg_right hc hb
    have k2:=Int.mul_nonneg he ha
    omega
   rcases i5 with ⟨s0,s1⟩ | ⟨s0,s1⟩
   ·rcases hxy with ⟨hx1,hy1⟩ | ⟨hx1,hy1⟩
    ·have:=key t0 (-t1) (-y) x s0 (by omega) (by omega) (by omega)
     have e:d=x * t0 + -y * -t1:=by rw [e2]; grind
     omega
    ·have:=key t0 (-t1) y (-x) s0 (by omega) (by omega) (by omega)
     have e : -d = -x * t0 + y * -t1:=by rw [e2]; grind
     omega
   ·rcases hxy with ⟨hx1,hy1⟩ | ⟨hx1,hy1⟩
    ·have:=key (-t0) t1 (-y) x (by omega) s1 (by omega) (by omega)
     have e : -d=x * -t0 + -y * t1:=by rw [e2]; grind
     omega
    ·have:=key (-t0) t1 y (-x) (by omega) s1 (by omega) (by omega)
     have e:d = -x * -t0 + y * t1:=by rw [e2]; grind
     omega
  -- so the determinant is less than m
  have b1:(n.natAbs:Int) * (t1.natAbs:Int)≤(n.natAbs:Int) * (d.natAbs:Int):=Int.mul_le_mul_of_nonneg_left ht (by omega)
  have b2:=two_mul_le (n.natAbs:Int) (d.natAbs:Int)
  have b3:=two_mul_le (d.natAbs:Int) r1
  rw [abs_sq,abs_sq] at b2
  rw [abs_sq] at b3
  have b4:(n * t1).natAbs=n.natAbs * t1.natAbs:=Int.natAbs_mul _ _
  have b5:(d * r1).natAbs=d.natAbs * r1.natAbs:=Int.natAbs_mul _ _
  have b6:((n * t1).natAbs:Int)=(n.natAbs:Int) * (t1.natAbs:Int):=by rw [b4,Int.natCast_mul]
  have b7:((d * r1).natAbs:Int)=(d.natAbs:Int) * r1:=by rw [b5,Int.natCast_mul,show (r1.natAbs:Int)=r1 by omega]
  have b8:m≤((n * t1 - d * r1).natAbs:Int):=by
   rw [det,Int.natAbs_mul,Int.natCast_mul]
   have c1:((r0 * t1 - t0 * r1).natAbs:Int)=m:=by omega
   rw [c1]
   have c2:1 * m≤(x.natAbs:Int) * m:=Int.mul_le_mul_of_nonneg_right (by omega) (by omega)
   omega
  omega
theorem RowInv.run {m n d r0 r1 t0 t1 r t:Int} (h:RowInv m n d r0 r1 t0 t1) (hm:0 < m) (hn:n * n * 2 < m) (hd:d * d * 2 < m) (k:RecRun m r0 r1 t0 t1 r t):∃ y:Int,n=y * r∧d=y * t:=by
 induction k with
 | done hs=>exact h.fin hm hs hn hd
 | step hs _ ih=>exact ih (h.next hm hs)
theorem rec_finds {v m n d:Int} (hm:2≤m) (hg:Int.gcd n d=1) (hdm:Int.gcd d m=1) (hn:n * n * 2 < m) (hd:d * d * 2 < m) (hv:m ∣ n - d * (v % m)):RecIs v m (Rat.divInt n d) true:=by
 obtain ⟨r,t,hr⟩:=RecRun.ends (m:=m) (v % m).toNat m (v % m) 0 1 (by omega) (by omega) (Int.emod_nonneg _ (by omega)) (Nat.le_refl _)
 obtain ⟨y,e1,e2⟩:=(RowInv.start hm hv).run (by omega) hn hd hr
 have hy:y.natAbs=1:=by
  have h1:y ∣ n:=⟨r,e1⟩
  have h2:y ∣ d:=⟨t,e2⟩
  have h3:=Int.dvd_coe_gcd h1 h2
  rw [hg] at h3
  exact Nat.dvd_one.1 (by simpa using Int.natAbs_dvd_natAbs.2 h3)
 have key:(n=r∧d=t)∨(n = -r∧d = -t):=by
  rcases (by omega:y=1∨y = -1) with rfl | rfl
  ·left; exact ⟨by simpa using e1,by simpa using e2⟩
  ·right; exact ⟨by simpa using e1,by simpa using e2⟩
 refine ⟨r,t,hr,Or.inl ⟨rfl,?_,?_,?_,?_⟩⟩
 ·rcases key with ⟨_,rfl⟩ | ⟨_,rfl⟩
  ·exact hd
  ·rw [Int.neg_mul_neg] at hd; exact hd
 ·rcases key with ⟨_,rfl⟩ | ⟨_,rfl⟩
  ·exact hdm
  ·rw [Int.neg_gcd] at hdm; exact hdm
 ·rcases key with ⟨rfl,rfl⟩ | ⟨rfl,rfl⟩
  ·rw [Int.gcd_comm]; exact hg
  ·rw [Int.neg_gcd,Int.gcd_neg,Int.gcd_comm] at hg; exact hg
 ·rcases key with ⟨rfl,rfl⟩ | ⟨rfl,rfl⟩
  ·rfl
  ·rw [Rat.neg_divInt_neg]
end Go.Proofs.YtbgkofgoeoiciaaGreatDoor

namespace Go.Proofs.YtbgkofgoeoiciaaGreatDoor
open Go.RowKit
section
variable {N:Nat} {S0:Nat→Prop} {w0:World} {s s':St} {Φ Ψ Φ0:World→Prop} {L:Nat→Nat} {a:Act} {w:World} {P:Program} {ops:Array Oper} {Q:Exit→Act→World→Prop} {o:Oper}
theorem SameL.of {sl:SlL} {bl:BlL} (h:(sl.map (fun q=>s.sl q.1),bl.map (fun q=>s.bl q.1))=(sl.map (fun q=>some q.2),bl.map (fun q=>some q.2))):SameL s sl bl:=h
def Hands (N:Nat) (S0:Nat→Prop) (w0:World) (J:Nat→St→(World→Prop)→Prop) (n:Nat) (a:Act) (w:World):Prop:=∃ n' s' Φ' L',n' < n∧J n' s' Φ'∧Inv N S0 w0 s' Φ' L' a w
theorem sx_loop {c:Code} (J:Nat→St→(World→Prop)→Prop) (n0:Nat) (h0:J n0 s Φ)
 (round:∀ n s Φ,J n s Φ→SXc P N S0 w0 (Exit.then (Hands N S0 w0 J n) Q) c s Φ):SXc P N S0 w0 Q (.loop c) s Φ:=fun L a w hi=>by
 refine wp_loop_ghost (fun n a w=>∃ s Φ L,J n s Φ∧Inv N S0 w0 s Φ L a w) n0 ⟨s,Φ,L,h0,hi⟩ ?_
 rintro n a w ⟨s,Φ,L,hJ,hi⟩
 refine wp_mono (round n s Φ hJ L a w hi) ?_
 intro e a' w' hq
 cases e with
 | normal =>
   obtain ⟨n',s',Φ',L',h1,h2,h3⟩:=hq
   exact ⟨n',h1,s',Φ',L',h2,h3⟩
 | exit id=>exact hq
 | goto l=>exact hq
 | ret=>exact hq
 | panic ch=>exact hq
 | outgrown=>exact hq
theorem sx_round {J:Nat→St→(World→Prop)→Prop} {n:Nat} (n':Nat) (hlt:n' < n) (h:J n' s Φ):SXq N S0 w0 (Exit.then (Hands N S0 w0 J n) Q .normal) s Φ:=fun _ _ _ hi=>⟨n',s,Φ,_,hlt,h,hi⟩
theorem sx_cut {x y:Code} (J:St→(World→Prop)→Prop) (h1:SXc P N S0 w0 (Exit.then (fun a w=>∃ s' Φ' L',J s' Φ'∧Inv N S0 w0 s' Φ' L' a w) Q) x s Φ) (h2:∀ s Φ,J s Φ→SXc P N S0 w0 Q y s Φ):SXc P N S0 w0 Q (.seq x y) s Φ:=fun L a w hi=>by
 refine wp_seq (wp_mono (h1 L a w hi) ?_)
 intro e a' w' hq
 cases e with
 | normal =>
   obtain ⟨s',Φ',L',h2',h3⟩:=hq
   exact h2 s' Φ' h2' L' a' w' h3
 | exit id=>exact hq
 | goto l=>exact hq
 | ret=>exact hq
 | panic ch=>exact hq
 | outgrown=>exact hq
theorem sx_meet {J:St→(World→Prop)→Prop} (h:J s Φ):SXq N S0 w0 (Exit.then (fun a w=>∃ s' Φ' L',J s' Φ'∧Inv N S0 w0 s' Φ' L' a w) Q .normal) s Φ:=fun _ _ _ hi=>⟨s,Φ,_,h,hi⟩
end
end Go.Proofs.YtbgkofgoeoiciaaGreatDoor

namespace Go.Proofs.YtbgkofgoeoiciaaGreatDoor
open Go.RowKit
theorem str_self (x:ByteArray):(x.toList == x.toList)=true:=by simp
theorem run_bslice {P:Program} {ρ:Operand→Value} {w:World} {t e:TypeId} {n sz:Nat} {z:Value} {parts:Array (Nat × Operand)} {cells:Array Value} (ht:P.underlying t=some (.slice e))
 (hinfo:(P.info? e).map (fun i=>(i.zero,i.size))=some (some z,sz)) (hn:Nat.ble (n * sz) 1000=true) (hn0:Nat.beq (n * sz) 0=false)
 (hf:Instr.fill (fun i=>some (i * sz,sz)) ((List.range (n * sz)).map (fun i=>z.cells[i % z.cells.size]!)).toArray (parts.toList.map fun q=>(q.1,ρ q.2))=some cells) :
 (Instr.buildSlice t n (parts.map fun q:Nat × Operand=>(q.1,ρ q.2))).run P w=.ok (.slice (some ⟨w.heap.size,0,none⟩) n n) (w.alloc (.cells cells e)):=by
 obtain ⟨i,hi,h1⟩:=Option.map_eq_some_iff.1 hinfo
 injection h1 with h1 h2
 have hn':=Nat.le_of_ble_eq_true hn
 have hn1:¬ n * sz=0:=fun h=>by rw [h] at hn0; cases hn0
 have hn2:¬ 2 ^ 24 < n * sz:=by omega
 have e1:(Array.range (n * sz)).map (fun i=>z.cells[i % z.cells.size]!)=((List.range (n * sz)).map (fun i=>z.cells[i % z.cells.size]!)).toArray:=by
  apply Array.ext'; simp
 have e2:(parts.map fun q:Nat × Operand=>(q.1,ρ q.2)).toList=parts.toList.map fun q=>(q.1,ρ q.2):=by simp
 unfold Instr.buildSlice
 simp [underlying,ht,sizeOf,typeInfo,hi,h2,zeroValue,h1,hn1,hn2,e1,hf,newRow,newObj,Result.andThen]
 rfl
theorem does_bslice {P:Program} {o:Oper} {ρ:Operand→Value} {w:World} {t e:TypeId} {n sz:Nat} {z:Value} {parts:Array (Nat × Operand)} {cells:Array Value} (ho:o.op=Op.buildSlice t n parts) (ht:P.underlying t=some (.slice e))
 (hinfo:(P.info? e).map (fun i=>(i.zero,i.size))=some (some z,sz)) (hn:Nat.ble (n * sz) 1000=true) (hn0:Nat.beq (n * sz) 0=false)
 (hf:Instr.fill (fun i=>some (i * sz,sz)) ((List.range (n * sz)).map (fun i=>z.cells[i % z.cells.size]!)).toArray (parts.toList.map fun q=>(q.1,ρ q.2))=some cells) :
 Does P o ρ w (DoR (fun b:Nat=>.slice (some ⟨b,0,none⟩) n n) (fun b w=>Blk e w b cells) w):=by
 have hrun:=run_bslice (w:=w) ht hinfo hn hn0 hf
 exact Or.inl ⟨_,_,by simp [execOp,ho,hrun,Result.andThen],w.heap.size,rfl,(Fr.refl _ w).alloc _,fun S hS w'' hF=>(Blk.new w e cells).fr hF (fun h=>by have:=(hS _ h).1; omega)⟩
theorem run_strslice {P:Program} {o:Oper} {ρ:Operand→Value} {w:World} {t:TypeId} {x:Operand} {lo hi:Option Operand} {b r:ByteArray} (l h:Nat) (ho:o.op=Op.slice t x lo hi none) (ht:P.underlying t=some .string) (hx:ρ x=.string b)
 (hl:lo.map ρ=none∧l=0∨lo.map ρ=some (.int .i64 l)) (hh:hi.map ρ=none∧h=b.size∨hi.map ρ=some (.int .i64 h)) (h1:l≤h) (h2:h≤b.size) (hr:b.extract l h=r):(execOp ρ o).run P w=.ok (.value (.string r)) w:=by
 subst hr
 rcases hl with ⟨hl,rfl⟩ | hl<;>rcases hh with ⟨hh,rfl⟩ | hh <;>
  simp [execOp,ho,Instr.sliceAt,Instr.slice,Instr.sliceBounds,Instr.sliceBound,asIntOf,underlying,ht,hx,hl,hh,h1,h2,Result.andThen]
end Go.Proofs.YtbgkofgoeoiciaaGreatDoor

namespace Go.Proofs.YtbgkofgoeoiciaaGreatDoor
open Go.RowKit
theorem FormatInt_any (n:Int) (w:World) (hg:Glob w) (h0 : -9223372036854775808≤n) (h1:n≤9223372036854775807) :
 Calls Tryz.prog 169 #[.int .i64 n, .int .i64 10] w (RetV w (.string ⟨(Lib.itoa n).toArray⟩)) :=
 (Tryz.strconv_FormatInt_10 n h0 h1 w hg.1).mono (by
  rintro e w' ⟨rfl,k,os,rfl⟩
  exact ⟨rfl,Fr.ofBelow (Lib.below_grow _ w (Nat.le_refl _) k os)⟩)
set_option maxHeartbeats 1000000 in
theorem FromInt_any (n:Int) (w:World) (hg:Glob w) (h0 : -9223372036854775808≤n) (h1:n≤9223372036854775807) :
 Calls Tryz.prog 71 #[.int .i64 n] w (RetV w (.string ⟨(Lib.itoa n).toArray⟩)):=by
 have H:=zh (FormatInt_any n w hg h0 h1)
 generalize Lib.itoa n=t at *
 clear hg
 go_enter Tryz.func71,Tryz.ntmps71
 go_wp2_with fail
 refine H.out.mono ?_
 rintro e w1 ⟨rfl,hF⟩
 have HF:=zh hF
 clear hF
 go_wp2
 go_ret
 exact ⟨rfl,HF.out⟩
set_option maxHeartbeats 1000000 in
theorem formatShort_one (n:Int) (w:World) (hg:Glob w) (h0 : -9223372036854775808≤n) (h1:n≤9223372036854775807) :
 Calls Tryz.prog 134 #[.int .i64 n, .int .i64 1] w (RetV w (.string ⟨(Lib.itoa n).toArray⟩)):=by
 have H:=zh (FormatInt_any n w hg h0 h1)
 generalize Lib.itoa n=t at *
 clear hg
 go_enter Tryz.func134,Tryz.ntmps134
 go_wp2_with fail
 refine H.out.mono ?_
 rintro e w1 ⟨rfl,hF⟩
 have HF:=zh hF
 clear hF
 go_wp2
 go_ret
 exact ⟨rfl,HF.out⟩
def RetI64 (w:World) (z:Int) (e:Ending) (w':World):Prop :=
 ∃ (z':Int) (ok:Bool),e=.returned (.tuple #[.int .i64 z', .bool ok])∧Hid (ok=true→z'=z ∧ -9223372036854775808≤z∧z≤9223372036854775807)∧Ext w w'
set_option maxHeartbeats 1000000 in
set_option maxRecDepth 100000 in
theorem Int64_any (a:Value) (z:Int) (w:World) (ha:IntIs w a z):Calls Tryz.prog 198 #[a] w (RetI64 w z):=by
 obtain ⟨s,A,l,c,rfl,hN,hz,h0⟩:=ha.open
 obtain ⟨A',xs,c',he,hc,hX,hd,ht,hv⟩:=hN
 injection he with e1 e2 e3
 subst e1 e2 e3
 match xs,hX,hd,ht,hv with
 | [],hX,hd,ht,hv =>
   have hz0:z=0:=by simp at hv; omega
   have HZ:Hid ((0:Int)=z ∧ -9223372036854775808≤z∧z≤9223372036854775807):=by unfold Hid; omega
   clear hX hd ht hv hz h0 hc hz0
   go_enter Tryz.func198,Tryz.ntmps198
   go_wp2
   go_ret2
   exact ⟨0,true,rfl,(fun _=>HZ.out),(Fr.refl _ _).alloc _⟩
 | [x],hX,hd,ht,hv =>
   obtain ⟨b,off,rfl,hb,hc0⟩:=hX.at (i:=0) (by simp)
   simp at hc0
   have hne:=Nat.ne_of_lt hb
   have hxv:x=z.natAbs:=by simpa using hv
   have hxW:x < 18446744073709551616:=by have:=hd x (by simp); rwa [W64_eq] at this
   cases s with
   | false =>
     have hzz:z=(x:Int):=by simp [sg] at hz; omega
     by_cases hle:x≤9223372036854775807
     ·have HZ:Hid ((x:Int)=z ∧ -9223372036854775808≤z∧z≤9223372036854775807):=by unfold Hid; omega
      have f1:IntKind.i64.wrap (x:Int)=(x:Int):=IntWalk.i64_in _ (by omega)
      have t1:decide ((x:Int)≤9223372036854775807)=true:=by simp; omega
      clear hX hd ht hv hz h0 hc hxv hzz hle hxW
      go_enter Tryz.func198,Tryz.ntmps198
      go_wp2
      go_ret2
      exact ⟨x,true,rfl,(fun _=>HZ.out),(Fr.refl _ _).alloc _⟩
     ·have t1:decide ((x:Int)≤9223372036854775807)=false:=by simp; omega
      clear hX hd ht hv hz h0 hc hxv hzz hle hxW
      go_enter Tryz.func198,Tryz.ntmps198
      go_wp2
      go_ret2
      exact ⟨0,false,rfl,(fun h=>by cases h),(Fr.refl _ _).alloc _⟩
   | true =>
     have hzz:z = -(x:Int):=by simp [sg] at hz; omega
     by_cases hle:x≤9223372036854775808
     ·have HZ:Hid (-(x:Int)=z ∧ -9223372036854775808≤z∧z≤9223372036854775807):=by unfold Hid; omega
      have f1:IntKind.i64.wrap (IntKind.u64.wrap (-(x:Int))) = -(x:Int):=by
       rw [IntKind.wrap_u64,IntKind.wrap_i64]; omega
      have t1:decide ((x:Int)≤9223372036854775808)=true:=by simp; omega
      clear hX hd ht hv hz h0 hc hxv hzz hle hxW
      go_enter Tryz.func198,Tryz.ntmps198
      go_wp2
      go_ret2
      exact ⟨-(x:Int),true,rfl,(fun _=>HZ.out),(Fr.refl _ _).alloc _⟩
     ·have t1:decide ((x:Int)≤9223372036854775808)=false:=by simp; omega
      clear hX hd ht hv hz h0 hc hxv hzz hle hxW
      go_enter Tryz.func198,Tryz.ntmps198
      go_wp2
      go_ret2
      exact ⟨0,false,rfl,(fun h=>by cases h),(Fr.refl _ _).alloc _⟩
 | x :: y :: ys,hX,hd,ht,hv =>
   obtain ⟨b,off,rfl,hb,hc0⟩:=hX.at (i:=0) (by simp)
   simp at hc0
   have hne:=Nat.ne_of_lt hb
   obtain ⟨k,hk⟩:∃ k,(x :: y :: ys).length=k:=⟨_,rfl⟩
   have hk2:2≤k:=by simp at hk; omega
   rw [hk]
   have t0:((k:Int) == 0)=false:=by simp; omega
   clear hX hd ht hv hz h0 hc hk
   go_enter Tryz.func198,Tryz.ntmps198
   go_wp2
   go_ret2
   exact ⟨0,false,rfl,(fun h=>by cases h),(Fr.refl _ _).alloc _⟩
set_option maxHeartbeats 1000000 in
set_option maxRecDepth 100000 in
theorem RString_whole (a:Value) (q:Rat) (w:World) (hg:Glob w) (ha:RatIs w a q) (h1:q.den=1) (hp:PrtOk q.num.natAbs) :
 Calls Tryz.prog 107 #[a] w (RetV w (.string ⟨(Lib.itoa q.num).toArray⟩)):=by
 obtain ⟨s,t,A,B,l,c,l',c',rfl,hn,hd⟩:=ha
 rw [denF_zero.2 h1] at hd
 generalize q.num=z at *
 have HN:=zh hn
 have HD:=zh hd
 have HG:=zh hg
 have HP:=zh hp
 clear hn hd h1 hg hp
 go_enter Tryz.func107,Tryz.ntmps107
 go_wp2_with fail
 generalize hwb:World.alloc w _=wb
 obtain ⟨hB0,hE0⟩:=Blk.one hwb
 clear hwb
 refine (IsZero_any _ 0 _ (HD.out.ext hE0)).mono ?_
 rw [decide_eq_true rfl]
 rintro e w1 ⟨rfl,hF1⟩
 have HB1:=zh (hB0.ext hF1)
 have HE1:=zh (hE0.trans hF1)
 obtain ⟨x0,x1,x2,x3,_⟩:=(hB0.ext hF1).cell4
 clear hB0 hE0 hF1
 go_wp2_with fail
 refine (Int64_any _ z _ (HN.out.ext HE1.out)).mono ?_
 rintro e w2 ⟨z',ok,rfl,hR,hF2⟩
 have HB2:=zh (HB1.out.ext hF2)
 have HE2:=zh (HE1.out.trans hF2)
 obtain ⟨y0,y1,y2,y3,_⟩:=(HB1.out.ext hF2).cell4
 clear hF2 x0 x1 x2 x3 HB1 HE1
 cases ok with
 | true =>
   obtain ⟨rfl,r1,r2⟩:=hR.out rfl
   have HC:=zh (FromInt_any z' w2 (HG.out.ext HE2.out) r1 r2)
   generalize Lib.itoa z'=txt at *
   clear r1 r2
   go_wp2_with fail
   refine HC.out.mono ?_
   rintro e w3 ⟨rfl,hF3⟩
   have HE3:=zh (HE2.out.trans hF3)
   clear hF3
   go_wp2
   go_ret
   exact ⟨rfl,HE3.out⟩
 | false =>
   have HC:=zh (String_any _ z w2 (HG.out.ext HE2.out) (HN.out.ext HE2.out) HP.out)
   generalize Lib.itoa z=txt at *
   clear hR
   go_wp2_with fail
   refine HC.out.mono ?_
   rintro e w3 ⟨rfl,hF3⟩
   have HE3:=zh (HE2.out.trans hF3)
   clear hF3
   go_wp2
   go_ret
   exact ⟨rfl,HE3.out⟩
end Go.Proofs.YtbgkofgoeoiciaaGreatDoor

namespace Go.Proofs.YtbgkofgoeoiciaaGreatDoor
open Go.RowKit
def QFits (q:Rat) (k:Nat):Prop:=wl q.num.natAbs≤k∧wl q.den≤k
theorem wlm {x y:Int} {a b:Nat} (hx:wl x.natAbs≤a) (hy:wl y.natAbs≤b):wl (x * y).natAbs≤a + b:=by
 have h:=wl_mul x.natAbs y.natAbs
 rw [← Int.natAbs_mul] at h
 omega
theorem wlc {n k:Nat} (h:wl n≤k):wl ((n:Int)).natAbs≤k:=by rw [Int.natAbs_natCast]; exact h
theorem wlq {x y:Int} {k:Nat} (h:wl x.natAbs≤k):wl (x.tdiv y).natAbs≤k:=by
 rw [Int.natAbs_tdiv]; exact Nat.le_trans (wl_mono (Nat.div_le_self _ _)) h
theorem wld {n m k:Nat} (h:wl n≤k):wl (n / m)≤k:=Nat.le_trans (wl_mono (Nat.div_le_self _ _)) h
theorem wlg {x y:Int} {k:Nat} (h:wl y.natAbs≤k) (h0:y≠0):wl (Int.gcd x y)≤k :=
 Nat.le_trans (wl_mono (Nat.gcd_le_right _ (by omega))) h
theorem fit {x:Int} {k:Nat} (h:wl x.natAbs≤k) (hk:k≤1048576):Fits x:=Nat.le_trans h hk
theorem nat_tdiv (a b:Nat):(a:Int).tdiv (b:Int)=((a / b:Nat):Int):=by
 rw [Int.tdiv_eq_ediv_of_nonneg (by omega)]; rfl
theorem gcd_nz {x:Int} {y:Int} (h:y≠0):((Int.gcd x y:Nat):Int)≠0:=fun e=>h ((Int.gcd_eq_zero_iff.1 (Int.ofNat_eq_zero.1 e)).2)
set_option maxRecDepth 100000 in
theorem QSign_any (a:Value) (q:Rat) (w:World) (ha:RatIs w a q) :
 Calls Tryz.prog 200 #[a] w (RetV w (.int .i64 q.num.sign)):=by
 obtain ⟨s0,A0,l0,c0,t0,B0,m0,d0,rfl⟩:=ha.shp
 refine sx_enter (Φ:=fun w=>RatIs w (.agg #[.bool s0, .slice A0 l0 c0, .bool t0, .slice B0 m0 d0]) (q)) Tryz.func200 rfl (by kernel_rfl) (fun w' hf=>ha.ext hf) ?_
 refine sx_seq (sx_region (xr 2 [(1, .p 1 0),(2, .v (.int .i64 0))] [bR4 1 116 s0 A0 l0 c0 t0 B0 m0 d0] ?_))
 refine xe (sx_next (sx_seq (sx_region (xr 2 [(2, .v (.int .i64 0)),eI2 4 s0 A0 l0 c0] [] ?_))))
 refine xc 223 [vI2 s0 A0 l0 c0] 5 (fun _:Unit=>.int .i64 q.num.sign) _ (fun w hE hΦ=>(Sign_any _ (q.num) _ hΦ.num).mono (fun _ _ h=>post_val h rfl)) (fun xx=>?_)
 refine xr 1 [(2, .v (.int .i64 q.num.sign))] [] ?_
 refine xe (sx_next (sx_ret ?_))
 refine sx_done (v:=.int .i64 q.num.sign) (by kernel_rfl) (fun w' hE hΦ=>?_)
 exact ⟨rfl,hE⟩
set_option maxRecDepth 100000 in
theorem cancel_any (a b:Value) (x y:Int) (w:World) (hg:Glob w) (ha:IntIs w a x) (hb:IntIs w b y) (hx:wl x.natAbs≤38) (hy:wl y.natAbs≤38) (h0:y≠0) :
 Calls Tryz.prog 190 #[a,b] w (RetInt2 w (x.tdiv ((Int.gcd x y:Nat):Int)) (y.tdiv ((Int.gcd x y:Nat):Int))):=by
 obtain ⟨s0,A0,l0,c0,rfl⟩:=ha.shp
 obtain ⟨s1,A1,l1,c1,rfl⟩:=hb.shp
 refine sx_enter (Φ:=fun w=>((IntIs w (.agg #[.bool s0, .slice A0 l0 c0]) (x)∧IntIs w (.agg #[.bool s1, .slice A1 l1 c1]) (y))∧Glob w)) Tryz.func190 rfl (by kernel_rfl) (fun w' hf=>⟨⟨ha.ext hf,hb.ext hf⟩,hg.ext hf⟩) ?_
 refine sx_seq (sx_region (xr 4 [(2, .p 2 0),(3, .p 3 0),(4, .p 4 0),(5, .p 5 0)] [bI2 5 114 false none 0 0,bI2 4 114 false none 0 0,bI2 3 114 s1 A1 l1 c1,bI2 2 114 s0 A0 l0 c0] ?_))
 refine xe (sx_next (sx_seq (sx_seq (sx_region (xr 1 [(2, .p 2 0),(3, .p 3 0),(4, .p 4 0),(5, .p 5 0),eI2 7 s1 A1 l1 c1] [bI2 5 114 false none 0 0,bI2 4 114 false none 0 0,bI2 3 114 s1 A1 l1 c1,bI2 2 114 s0 A0 l0 c0] ?_)))))
 by_cases hz10:(y)=1
 ·refine xc 161 [vI2 s1 A1 l1 c1] 8 (fun _:Unit=>.bool true) _ (fun w hE hΦ=>(IsOne_any _ (y) _ hΦ.1.2).mono (fun _ _ h=>post_val h (by rw [decide_eq_true (p:=(y)=1) hz10]))) (fun xx=>?_)
  refine xr 0 [(2, .p 2 0),(3, .p 3 0),(4, .p 4 0),(5, .p 5 0),(8, .v (.bool true))] [bI2 5 114 false none 0 0,bI2 4 114 false none 0 0,bI2 3 114 s1 A1 l1 c1,bI2 2 114 s0 A0 l0 c0] ?_
  refine xe (sx_next (xa (sx_seq ?_)))
  refine sx_draw 4 (by kernel_rfl) (by kernel_rfl) follows_mixed' ?_
  refine xf 4 [(2, .p 2 0),(3, .p 3 0),(4, .p 4 0),(5, .p 5 0)] [bI2 5 114 s1 A1 l1 c1,bI2 4 114 s0 A0 l0 c0,bI2 5 114 false none 0 0,bI2 4 114 false none 0 0,bI2 3 114 s1 A1 l1 c1,bI2 2 114 s0 A0 l0 c0] ?_
  refine xz (xe (sx_next (sx_ret (sx_then_ret ?_))))
  refine sx_done (v:=.tuple #[.agg #[.bool s0, .slice A0 l0 c0], .agg #[.bool s1, .slice A1 l1 c1]]) (by kernel_rfl) (fun w' hE hΦ=>?_)
  exact ⟨_,_,rfl,by rw [hz10,Int.gcd_one_right]; simpa using hΦ.1.1.1,by rw [hz10,Int.gcd_one_right]; simpa [hz10] using hΦ.1.1.2,hE⟩
 ·refine xc 161 [vI2 s1 A1 l1 c1] 8 (fun _:Unit=>.bool false) _ (fun w hE hΦ=>(IsOne_any _ (y) _ hΦ.1.2).mono (fun _ _ h=>post_val h (by rw [decide_eq_false (p:=(y)=1) hz10]))) (fun xx=>?_)
  refine xr 0 [(2, .p 2 0),(3, .p 3 0),(4, .p 4 0),(5, .p 5 0),(8, .v (.bool false))] [bI2 5 114 false none 0 0,bI2 4 114 false none 0 0,bI2 3 114 s1 A1 l1 c1,bI2 2 114 s0 A0 l0 c0] ?_
  refine xe (sx_next (xb (sx_skip (sx_next (sx_seq (sx_region (xr 2 [(2, .p 2 0),(3, .p 3 0),(4, .p 4 0),(5, .p 5 0),eI2 11 s0 A0 l0 c0,eI2 12 s1 A1 l1 c1] [bI2 5 114 false none 0 0,bI2 4 114 false none 0 0,bI2 3 114 s1 A1 l1 c1,bI2 2 114 s0 A0 l0 c0] ?_)))))))
  refine xc 153 [vI2 s0 A0 l0 c0,vI2 s1 A1 l1 c1] 13 shInt _ (fun w hE hΦ=>(GCD_any _ _ (x) (y) _ hΦ.1.2 hΦ.1.1.1 hΦ.1.1.2 (fit hx (by decide)) (fit hy (by decide)) (GcdOk.words (Nat.le_trans hx (by decide)) (Nat.le_trans hy (by decide)))).mono (fun _ _ h=>post_Int h)) (fun xx=>?_)
  obtain ⟨s11,A11,l11,c11⟩:=xx
  refine xr 2 [(2, .p 2 0),(3, .p 3 0),(4, .p 4 0),(5, .p 5 0),(6, .p 6 0)] [bI2 6 114 s11 A11 l11 c11,bI2 5 114 false none 0 0,bI2 4 114 false none 0 0,bI2 3 114 s1 A1 l1 c1,bI2 2 114 s0 A0 l0 c0] ?_
  refine xe (sx_next (sx_seq ?_))
  refine sx_draw 8 (by kernel_rfl) (by kernel_rfl) follows_mixed' ?_
  refine xf 2 [(3, .p 3 0),(4, .p 4 0),(5, .p 5 0),(6, .p 6 0),eI2 14 s0 A0 l0 c0,eI2 15 s11 A11 l11 c11] [bI2 6 114 s11 A11 l11 c11,bI2 5 114 false none 0 0,bI2 4 114 false none 0 0,bI2 3 114 s1 A1 l1 c1,bI2 2 114 s0 A0 l0 c0] ?_
  refine xd 191 [vI2 s0 A0 l0 c0,vI2 s11 A11 l11 c11] 16 shInt _ (fun w hE hΦ=>(Quo_any _ _ (x) (((Int.gcd (x) (y):Nat):Int)) _ hΦ.1.1.1.1 hΦ.2 (fit hx (by decide)) (Nat.lt_of_le_of_lt (wlc (wlg hy h0)) (by decide)) (gcd_nz h0)).mono (fun _ _ h=>post_Int h)) (fun xx=>?_)
  obtain ⟨s12,A12,l12,c12⟩:=xx
  refine xf 2 [(4, .p 4 0),(5, .p 5 0),eI2 16 s12 A12 l12 c12,eI2 17 s1 A1 l1 c1,eI2 18 s11 A11 l11 c11] [bI2 6 114 s11 A11 l11 c11,bI2 5 114 false none 0 0,bI2 4 114 false none 0 0,bI2 3 114 s1 A1 l1 c1,bI2 2 114 s0 A0 l0 c0] ?_
  refine xd 191 [vI2 s1 A1 l1 c1,vI2 s11 A11 l11 c11] 19 shInt _ (fun w hE hΦ=>(Quo_any _ _ (y) (((Int.gcd (x) (y):Nat):Int)) _ hΦ.1.1.1.1.2 hΦ.1.2 (fit hy (by decide)) (Nat.lt_of_le_of_lt (wlc (wlg hy h0)) (by decide)) (gcd_nz h0)).mono (fun _ _ h=>post_Int h)) (fun xx=>?_)
  obtain ⟨s13,A13,l13,c13⟩:=xx
  refine xf 2 [(4, .p 4 0),(5, .p 5 0)] [bI2 5 114 s13 A13 l13 c13,bI2 4 114 s12 A12 l12 c12,bI2 6 114 s11 A11 l11 c11,bI2 5 114 false none 0 0,bI2 4 114 false none 0 0,bI2 3 114 s1 A1 l1 c1,bI2 2 114 s0 A0 l0 c0] ?_
  refine xz (xe (sx_next (sx_ret ?_)))
  refine sx_done (v:=.tuple #[.agg #[.bool s12, .slice A12 l12 c12], .agg #[.bool s13, .slice A13 l13 c13]]) (by kernel_rfl) (fun w' hE hΦ=>?_)
  exact ⟨_,_,rfl,hΦ.1.2,hΦ.2,hE⟩
set_option maxRecDepth 100000 in
theorem QMul_any (a b:Value) (p q:Rat) (w:World) (hg:Glob w) (ha:RatIs w a p) (hb:RatIs w b q) (hp:QFits p 38) (hq:QFits q 38) :
 Calls Tryz.prog 96 #[a,b] w (RetRat w (p * q)):=by
 obtain ⟨s0,A0,l0,c0,t0,B0,m0,d0,rfl⟩:=ha.shp
 obtain ⟨s1,A1,l1,c1,t1,B1,m1,d1,rfl⟩:=hb.shp
 have S1:wl p.num.natAbs≤38:=hp.1
 have S2:wl q.num.natAbs≤38:=hq.1
 have hp2:wl p.den≤38:=hp.2
 have hq2:wl q.den≤38:=hq.2
 have S3:wl ((p.den:Nat):Int).natAbs≤38:=wlc hp2
 have S4:wl ((q.den:Nat):Int).natAbs≤38:=wlc hq2
 refine sx_enter (Φ:=fun w=>((RatIs w (.agg #[.bool s0, .slice A0 l0 c0, .bool t0, .slice B0 m0 d0]) (p)∧RatIs w (.agg #[.bool s1, .slice A1 l1 c1, .bool t1, .slice B1 m1 d1]) (q))∧Glob w)) Tryz.func96 rfl (by kernel_rfl) (fun w' hf=>⟨⟨ha.ext hf,hb.ext hf⟩,hg.ext hf⟩) ?_
 refine sx_seq (sx_region (xr 3 [(2, .p 2 0),(3, .p 3 0),(4, .p 4 0)] [bR4 4 116 false none 0 0 false none 0 0,bR4 3 116 s1 A1 l1 c1 t1 B1 m1 d1,bR4 2 116 s0 A0 l0 c0 t0 B0 m0 d0] ?_))
 refine xe (sx_next (sx_seq (sx_seq (sx_region (xr 2 [(2, .p 2 0),(3, .p 3 0),(4, .p 4 0),eI2 10 s0 A0 l0 c0] [bR4 4 116 false none 0 0 false none 0 0,bR4 3 116 s1 A1 l1 c1 t1 B1 m1 d1,bR4 2 116 s0 A0 l0 c0 t0 B0 m0 d0] ?_)))))
 by_cases hz10:((p).num)=0
 ·refine xc 189 [vI2 s0 A0 l0 c0] 11 (fun _:Unit=>.bool true) _ (fun w hE hΦ=>(IsZero_any _ ((p).num) _ hΦ.1.1.num).mono (fun _ _ h=>post_val h (by rw [decide_eq_true (p:=((p).num)=0) hz10]))) (fun xx=>?_)
  refine xr 5 [(2, .p 2 0),(3, .p 3 0),(4, .p 4 0),(16, .v (.bool true))] [bR4 4 116 false none 0 0 false none 0 0,bR4 3 116 s1 A1 l1 c1 t1 B1 m1 d1,bR4 2 116 s0 A0 l0 c0 t0 B0 m0 d0] ?_
  refine xe (sx_next (xa (sx_seq (sx_region (xr 2 [(2, .p 2 0),(3, .p 3 0),(4, .p 4 0)] [bR4 4 116 false none 0 0 false none 0 0,bR4 3 116 s1 A1 l1 c1 t1 B1 m1 d1,bR4 2 116 s0 A0 l0 c0 t0 B0 m0 d0] ?_)))))
  refine xe (sx_next (sx_ret (sx_then_ret ?_)))
  refine sx_done (v:=.agg #[.bool false, .slice none 0 0, .bool false, .slice none 0 0]) (by kernel_rfl) (fun w' hE hΦ=>?_)
  exact ⟨_,rfl,by rw [rmul_zero_l hz10]; exact RatIs.nil _,hE⟩
 ·refine xc 189 [vI2 s0 A0 l0 c0] 11 (fun _:Unit=>.bool false) _ (fun w hE hΦ=>(IsZero_any _ ((p).num) _ hΦ.1.1.num).mono (fun _ _ h=>post_val h (by rw [decide_eq_false (p:=((p).num)=0) hz10]))) (fun xx=>?_)
  refine xr 3 [(2, .p 2 0),(3, .p 3 0),(4, .p 4 0),(12, .v (.bool false)),eI2 14 s1 A1 l1 c1] [bR4 4 116 false none 0 0 false none 0 0,bR4 3 116 s1 A1 l1 c1 t1 B1 m1 d1,bR4 2 116 s0 A0 l0 c0 t0 B0 m0 d0] ?_
  by_cases hz11:((q).num)=0
  ·refine xc 189 [vI2 s1 A1 l1 c1] 15 (fun _:Unit=>.bool true) _ (fun w hE hΦ=>(IsZero_any _ ((q).num) _ hΦ.1.1.2.num).mono (fun _ _ h=>post_val h (by rw [decide_eq_true (p:=((q).num)=0) hz11]))) (fun xx=>?_)
   refine xr 1 [(2, .p 2 0),(3, .p 3 0),(4, .p 4 0),(16, .v (.bool true))] [bR4 4 116 false none 0 0 false none 0 0,bR4 3 116 s1 A1 l1 c1 t1 B1 m1 d1,bR4 2 116 s0 A0 l0 c0 t0 B0 m0 d0] ?_
   refine xe (sx_next (xa (sx_seq (sx_region (xr 2 [(2, .p 2 0),(3, .p 3 0),(4, .p 4 0)] [bR4 4 116 false none 0 0 false none 0 0,bR4 3 116 s1 A1 l1 c1 t1 B1 m1 d1,bR4 2 116 s0 A0 l0 c0 t0 B0 m0 d0] ?_)))))
   refine xe (sx_next (sx_ret (sx_then_ret ?_)))
   refine sx_done (v:=.agg #[.bool false, .slice none 0 0, .bool false, .slice none 0 0]) (by kernel_rfl) (fun w' hE hΦ=>?_)
   exact ⟨_,rfl,by rw [rmul_zero_r hz11]; exact RatIs.nil _,hE⟩
  ·refine xc 189 [vI2 s1 A1 l1 c1] 15 (fun _:Unit=>.bool false) _ (fun w hE hΦ=>(IsZero_any _ ((q).num) _ hΦ.1.1.2.num).mono (fun _ _ h=>post_val h (by rw [decide_eq_false (p:=((q).num)=0) hz11]))) (fun xx=>?_)
   refine xr 1 [(2, .p 2 0),(3, .p 3 0),(4, .p 4 0),(16, .v (.bool false))] [bR4 4 116 false none 0 0 false none 0 0,bR4 3 116 s1 A1 l1 c1 t1 B1 m1 d1,bR4 2 116 s0 A0 l0 c0 t0 B0 m0 d0] ?_
   refine xe (sx_next (xb (sx_skip (sx_next (sx_seq (sx_seq (sx_region (xr 2 [(2, .p 2 0),(3, .p 3 0),(4, .p 4 0),eI2 19 t0 B0 m0 d0] [bR4 4 116 false none 0 0 false none 0 0,bR4 3 116 s1 A1 l1 c1 t1 B1 m1 d1,bR4 2 116 s0 A0 l0 c0 t0 B0 m0 d0] ?_))))))))
   by_cases hz12:(denF (p))=0
   ·refine xc 189 [vI2 t0 B0 m0 d0] 20 (fun _:Unit=>.bool true) _ (fun w hE hΦ=>(IsZero_any _ (denF (p)) _ hΦ.1.1.1.1.den).mono (fun _ _ h=>post_val h (by rw [decide_eq_true (p:=(denF (p))=0) hz12]))) (fun xx=>?_)
    refine xr 3 [(2, .p 2 0),(3, .p 3 0),(4, .p 4 0),(21, .v (.bool true)),eI2 23 t1 B1 m1 d1] [bR4 4 116 false none 0 0 false none 0 0,bR4 3 116 s1 A1 l1 c1 t1 B1 m1 d1,bR4 2 116 s0 A0 l0 c0 t0 B0 m0 d0] ?_
    by_cases hz13:(denF (q))=0
    ·refine xc 189 [vI2 t1 B1 m1 d1] 24 (fun _:Unit=>.bool true) _ (fun w hE hΦ=>(IsZero_any _ (denF (q)) _ hΦ.1.1.1.1.2.den).mono (fun _ _ h=>post_val h (by rw [decide_eq_true (p:=(denF (q))=0) hz13]))) (fun xx=>?_)
     refine xr 1 [(2, .p 2 0),(3, .p 3 0),(4, .p 4 0),(25, .v (.bool true))] [bR4 4 116 false none 0 0 false none 0 0,bR4 3 116 s1 A1 l1 c1 t1 B1 m1 d1,bR4 2 116 s0 A0 l0 c0 t0 B0 m0 d0] ?_
     refine xe (sx_next (xa (sx_seq (sx_region (xr 4 [(2, .p 2 0),(3, .p 3 0),(4, .p 4 0),eI2 27 s0 A0 l0 c0,eI2 29 s1 A1 l1 c1] [bR4 4 116 false none 0 0 false none 0 0,bR4 3 116 s1 A1 l1 c1 t1 B1 m1 d1,bR4 2 116 s0 A0 l0 c0 t0 B0 m0 d0] ?_)))))
     refine xc 152 [vI2 s0 A0 l0 c0,vI2 s1 A1 l1 c1] 30 shInt _ (fun w hE hΦ=>(Mul_any _ _ ((p).num) ((q).num) _ hΦ.1.1.1.1.1.1.num hΦ.1.1.1.1.1.2.num (fit S1 (by decide)) (fit S2 (by decide)) (Or.inl (Nat.lt_of_le_of_lt S1 (by decide)))).mono (fun _ _ h=>post_Int h)) (fun xx=>?_)
     obtain ⟨s14,A14,l14,c14⟩:=xx
     refine xr 2 [(2, .p 2 0),(3, .p 3 0),(4, .p 4 0)] [bR4 4 116 s14 A14 l14 c14 false none 0 0,bR4 3 116 s1 A1 l1 c1 t1 B1 m1 d1,bR4 2 116 s0 A0 l0 c0 t0 B0 m0 d0] ?_
     refine xe (sx_next (sx_ret (sx_then_ret ?_)))
     refine sx_done (v:=.agg #[.bool s14, .slice A14 l14 c14, .bool false, .slice none 0 0]) (by kernel_rfl) (fun w' hE hΦ=>?_)
     have HW:=rat_whole_mul (denF_iff.1 hz12) (denF_iff.1 hz13)
     exact ⟨_,rfl,RatIs.of (by rw [HW.1]; exact hΦ.2) (by rw [denF_one HW.2]; exact (IntIs.nil _)),hE⟩
    ·refine xc 189 [vI2 t1 B1 m1 d1] 24 (fun _:Unit=>.bool false) _ (fun w hE hΦ=>(IsZero_any _ (denF (q)) _ hΦ.1.1.1.1.2.den).mono (fun _ _ h=>post_val h (by rw [decide_eq_false (p:=(denF (q))=0) hz13]))) (fun xx=>?_)
     refine xr 1 [(2, .p 2 0),(3, .p 3 0),(4, .p 4 0),(25, .v (.bool false))] [bR4 4 116 false none 0 0 false none 0 0,bR4 3 116 s1 A1 l1 c1 t1 B1 m1 d1,bR4 2 116 s0 A0 l0 c0 t0 B0 m0 d0] ?_
     refine xe (sx_next (xb (sx_skip (sx_next (sx_seq ?_)))))
     refine sx_draw 12 (by kernel_rfl) (by kernel_rfl) follows_mixed' ?_
     refine xf 3 [(2, .p 2 0),(3, .p 3 0),(4, .p 4 0),eI2 34 s0 A0 l0 c0,eR4 35 s1 A1 l1 c1 t1 B1 m1 d1] [bR4 4 116 false none 0 0 false none 0 0,bR4 3 116 s1 A1 l1 c1 t1 B1 m1 d1,bR4 2 116 s0 A0 l0 c0 t0 B0 m0 d0] ?_
     refine xd 140 [vR4 s1 A1 l1 c1 t1 B1 m1 d1] 36 shInt _ (fun w hE hΦ=>(Den_any _ (q) _ hΦ.1.1.1.1.1.2).mono (fun _ _ h=>post_Int h)) (fun xx=>?_)
     obtain ⟨s15,A15,l15,c15⟩:=xx
     refine xf 0 [(2, .p 2 0),(3, .p 3 0),(4, .p 4 0),eI2 34 s0 A0 l0 c0,eI2 36 s15 A15 l15 c15] [bR4 4 116 false none 0 0 false none 0 0,bR4 3 116 s1 A1 l1 c1 t1 B1 m1 d1,bR4 2 116 s0 A0 l0 c0 t0 B0 m0 d0] ?_
     refine xd 190 [vI2 s0 A0 l0 c0,vI2 s15 A15 l15 c15] 37 shInt2 _ (fun w hE hΦ=>(cancel_any _ _ ((p).num) (((q).den:Int)) _ hΦ.1.1.1.1.1.2 hΦ.1.1.1.1.1.1.1.num hΦ.2 S1 S4 (denI q)).mono (fun _ _ h=>post_Int2 h)) (fun xx=>?_)
     obtain ⟨⟨s16,A16,l16,c16⟩,⟨s17,A17,l17,c17⟩⟩:=xx
     refine xf 7 [(2, .p 2 0),(3, .p 3 0),(4, .p 4 0),(5, .p 5 0),(6, .p 6 0)] [bI2 6 114 s17 A17 l17 c17,bI2 5 114 s16 A16 l16 c16,bI2 6 114 false none 0 0,bI2 5 114 false none 0 0,bR4 4 116 false none 0 0 false none 0 0,bR4 3 116 s1 A1 l1 c1 t1 B1 m1 d1,bR4 2 116 s0 A0 l0 c0 t0 B0 m0 d0] ?_
     refine xz (xe (sx_next (sx_seq ?_)))
     refine sx_draw 12 (by kernel_rfl) (by kernel_rfl) follows_mixed' ?_
     refine xf 3 [(4, .p 4 0),(5, .p 5 0),(6, .p 6 0),eI2 42 s1 A1 l1 c1,eR4 43 s0 A0 l0 c0 t0 B0 m0 d0] [bI2 6 114 s17 A17 l17 c17,bI2 5 114 s16 A16 l16 c16,bI2 6 114 false none 0 0,bI2 5 114 false none 0 0,bR4 4 116 false none 0 0 false none 0 0,bR4 3 116 s1 A1 l1 c1 t1 B1 m1 d1,bR4 2 116 s0 A0 l0 c0 t0 B0 m0 d0] ?_
     refine xd 140 [vR4 s0 A0 l0 c0 t0 B0 m0 d0] 44 shInt _ (fun w hE hΦ=>(Den_any _ (p) _ hΦ.1.1.1.1.1.1.1.1).mono (fun _ _ h=>post_Int h)) (fun xx=>?_)
     obtain ⟨s18,A18,l18,c18⟩:=xx
     refine xf 0 [(4, .p 4 0),(5, .p 5 0),(6, .p 6 0),eI2 42 s1 A1 l1 c1,eI2 44 s18 A18 l18 c18] [bI2 6 114 s17 A17 l17 c17,bI2 5 114 s16 A16 l16 c16,bI2 6 114 false none 0 0,bI2 5 114 false none 0 0,bR4 4 116 false none 0 0 false none 0 0,bR4 3 116 s1 A1 l1 c1 t1 B1 m1 d1,bR4 2 116 s0 A0 l0 c0 t0 B0 m0 d0] ?_
     refine xd 190 [vI2 s1 A1 l1 c1,vI2 s18 A18 l18 c18] 45 shInt2 _ (fun w hE hΦ=>(cancel_any _ _ ((q).num) (((p).den:Int)) _ hΦ.1.1.1.1.1.1.1.2 hΦ.1.1.1.1.1.1.1.1.2.num hΦ.2 S2 S3 (denI p)).mono (fun _ _ h=>post_Int2 h)) (fun xx=>?_)
     obtain ⟨⟨s19,A19,l19,c19⟩,⟨s20,A20,l20,c20⟩⟩:=xx
     refine xf 7 [(4, .p 4 0),(5, .p 5 0),(6, .p 6 0),(7, .p 7 0),(8, .p 8 0)] [bI2 8 114 s20 A20 l20 c20,bI2 7 114 s19 A19 l19 c19,bI2 8 114 false none 0 0,bI2 7 114 false none 0 0,bI2 6 114 s17 A17 l17 c17,bI2 5 114 s16 A16 l16 c16,bI2 6 114 false none 0 0,bI2 5 114 false none 0 0,bR4 4 116 false none 0 0 false none 0 0,bR4 3 116 s1 A1 l1 c1 t1 B1 m1 d1,bR4 2 116 s0 A0 l0 c0 t0 B0 m0 d0] ?_
     refine xz (xe (sx_next (sx_seq ?_)))
     refine sx_draw 8 (by kernel_rfl) (by kernel_rfl) follows_mixed' ?_
     refine xf 2 [(4, .p 4 0),(6, .p 6 0),(8, .p 8 0),eI2 48 s16 A16 l16 c16,eI2 49 s19 A19 l19 c19] [bI2 8 114 s20 A20 l20 c20,bI2 7 114 s19 A19 l19 c19,bI2 8 114 false none 0 0,bI2 7 114 false none 0 0,bI2 6 114 s17 A17 l17 c17,bI2 5 114 s16 A16 l16 c16,bI2 6 114 false none 0 0,bI2 5 114 false none 0 0,bR4 4 116 false none 0 0 false none 0 0,bR4 3 116 s1 A1 l1 c1 t1 B1 m1 d1,bR4 2 116 s0 A0 l0 c0 t0 B0 m0 d0] ?_
     refine xd 152 [vI2 s16 A16 l16 c16,vI2 s19 A19 l19 c19] 50 shInt _ (fun w hE hΦ=>(Mul_any _ _ (((p).num).tdiv (((Int.gcd ((p).num) (((q).den:Int)):Nat):Int))) (((q).num).tdiv (((Int.gcd ((q).num) (((p).den:Int)):Nat):Int))) _ hΦ.1.1.2.1 hΦ.2.1 (fit (wlq S1) (by decide)) (fit (wlq S2) (by decide)) (Or.inl (Nat.lt_of_le_of_lt (wlq S1) (by decide)))).mono (fun _ _ h=>post_Int h)) (fun xx=>?_)
     obtain ⟨s21,A21,l21,c21⟩:=xx
     refine xf 2 [(4, .p 4 0),eI2 50 s21 A21 l21 c21,eI2 51 s20 A20 l20 c20,eI2 52 s17 A17 l17 c17] [bI2 8 114 s20 A20 l20 c20,bI2 7 114 s19 A19 l19 c19,bI2 8 114 false none 0 0,bI2 7 114 false none 0 0,bI2 6 114 s17 A17 l17 c17,bI2 5 114 s16 A16 l16 c16,bI2 6 114 false none 0 0,bI2 5 114 false none 0 0,bR4 4 116 false none 0 0 false none 0 0,bR4 3 116 s1 A1 l1 c1 t1 B1 m1 d1,bR4 2 116 s0 A0 l0 c0 t0 B0 m0 d0] ?_
     refine xd 152 [vI2 s20 A20 l20 c20,vI2 s17 A17 l17 c17] 53 shInt _ (fun w hE hΦ=>(Mul_any _ _ ((((p).den:Int)).tdiv (((Int.gcd ((q).num) (((p).den:Int)):Nat):Int))) ((((q).den:Int)).tdiv (((Int.gcd ((p).num) (((q).den:Int)):Nat):Int))) _ hΦ.1.2.2 hΦ.1.1.1.2.2 (fit (wlq S3) (by decide)) (fit (wlq S4) (by decide)) (Or.inl (Nat.lt_of_le_of_lt (wlq S3) (by decide)))).mono (fun _ _ h=>post_Int h)) (fun xx=>?_)
     obtain ⟨s22,A22,l22,c22⟩:=xx
     refine xf 0 [(4, .p 4 0),eI2 50 s21 A21 l21 c21,eI2 53 s22 A22 l22 c22] [bI2 8 114 s20 A20 l20 c20,bI2 7 114 s19 A19 l19 c19,bI2 8 114 false none 0 0,bI2 7 114 false none 0 0,bI2 6 114 s17 A17 l17 c17,bI2 5 114 s16 A16 l16 c16,bI2 6 114 false none 0 0,bI2 5 114 false none 0 0,bR4 4 116 false none 0 0 false none 0 0,bR4 3 116 s1 A1 l1 c1 t1 B1 m1 d1,bR4 2 116 s0 A0 l0 c0 t0 B0 m0 d0] ?_
     refine xd 141 [vI2 s21 A21 l21 c21,vI2 s22 A22 l22 c22] 54 shRat _ (fun w hE hΦ=>(lowest_any _ _ ((((p).num).tdiv (((Int.gcd ((p).num) (((q).den:Int)):Nat):Int))) * (((q).num).tdiv (((Int.gcd ((q).num) (((p).den:Int)):Nat):Int)))) (((((p).den:Int)).tdiv (((Int.gcd ((q).num) (((p).den:Int)):Nat):Int))) * ((((q).den:Int)).tdiv (((Int.gcd ((p).num) (((q).den:Int)):Nat):Int)))) (p * q) _ hΦ.1.2 hΦ.2 (by obtain ⟨k1,k2⟩:=rmul_parts p q; exact ⟨k1,by rw [k2,Int.natCast_mul,← nat_tdiv,← nat_tdiv]⟩)).mono (fun _ _ h=>post_Rat h)) (fun xx=>?_)
     obtain ⟨s23,A23,l23,c23,t23,B23,m23,d23⟩:=xx
     refine xf 1 [(4, .p 4 0)] [bR4 4 116 s23 A23 l23 c23 t23 B23 m23 d23,bI2 8 114 s20 A20 l20 c20,bI2 7 114 s19 A19 l19 c19,bI2 8 114 false none 0 0,bI2 7 114 false none 0 0,bI2 6 114 s17 A17 l17 c17,bI2 5 114 s16 A16 l16 c16,bI2 6 114 false none 0 0,bI2 5 114 false none 0 0,bR4 4 116 false none 0 0 false none 0 0,bR4 3 116 s1 A1 l1 c1 t1 B1 m1 d1,bR4 2 116 s0 A0 l0 c0 t0 B0 m0 d0] ?_
     refine xz (xe (sx_next (sx_ret ?_)))
     refine sx_done (v:=.agg #[.bool s23, .slice A23 l23 c23, .bool t23, .slice B23 m23 d23]) (by kernel_rfl) (fun w' hE hΦ=>?_)
     exact ⟨_,rfl,hΦ.2,hE⟩
   ·refine xc 189 [vI2 t0 B0 m0 d0] 20 (fun _:Unit=>.bool false) _ (fun w hE hΦ=>(IsZero_any _ (denF (p)) _ hΦ.1.1.1.1.den).mono (fun _ _ h=>post_val h (by rw [decide_eq_false (p:=(denF (p))=0) hz12]))) (fun xx=>?_)
    refine xr 5 [(2, .p 2 0),(3, .p 3 0),(4, .p 4 0),(25, .v (.bool false))] [bR4 4 116 false none 0 0 false none 0 0,bR4 3 116 s1 A1 l1 c1 t1 B1 m1 d1,bR4 2 116 s0 A0 l0 c0 t0 B0 m0 d0] ?_
    refine xe (sx_next (xb (sx_skip (sx_next (sx_seq ?_)))))
    refine sx_draw 12 (by kernel_rfl) (by kernel_rfl) follows_mixed' ?_
    refine xf 3 [(2, .p 2 0),(3, .p 3 0),(4, .p 4 0),eI2 34 s0 A0 l0 c0,eR4 35 s1 A1 l1 c1 t1 B1 m1 d1] [bR4 4 116 false none 0 0 false none 0 0,bR4 3 116 s1 A1 l1 c1 t1 B1 m1 d1,bR4 2 116 s0 A0 l0 c0 t0 B0 m0 d0] ?_
    refine xd 140 [vR4 s1 A1 l1 c1 t1 B1 m1 d1] 36 shInt _ (fun w hE hΦ=>(Den_any _ (q) _ hΦ.1.1.1.1.2).mono (fun _ _ h=>post_Int h)) (fun xx=>?_)
    obtain ⟨s24,A24,l24,c24⟩:=xx
    refine xf 0 [(2, .p 2 0),(3, .p 3 0),(4, .p 4 0),eI2 34 s0 A0 l0 c0,eI2 36 s24 A24 l24 c24] [bR4 4 116 false none 0 0 false none 0 0,bR4 3 116 s1 A1 l1 c1 t1 B1 m1 d1,bR4 2 116 s0 A0 l0 c0 t0 B0 m0 d0] ?_
    refine xd 190 [vI2 s0 A0 l0 c0,vI2 s24 A24 l24 c24] 37 shInt2 _ (fun w hE hΦ=>(cancel_any _ _ ((p).num) (((q).den:Int)) _ hΦ.1.1.1.1.2 hΦ.1.1.1.1.1.1.num hΦ.2 S1 S4 (denI q)).mono (fun _ _ h=>post_Int2 h)) (fun xx=>?_)
    obtain ⟨⟨s25,A25,l25,c25⟩,⟨s26,A26,l26,c26⟩⟩:=xx
    refine xf 7 [(2, .p 2 0),(3, .p 3 0),(4, .p 4 0),(5, .p 5 0),(6, .p 6 0)] [bI2 6 114 s26 A26 l26 c26,bI2 5 114 s25 A25 l25 c25,bI2 6 114 false none 0 0,bI2 5 114 false none 0 0,bR4 4 116 false none 0 0 false none 0 0,bR4 3 116 s1 A1 l1 c1 t1 B1 m1 d1,bR4 2 116 s0 A0 l0 c0 t0 B0 m0 d0] ?_
    refine xz (xe (sx_next (sx_seq ?_)))
    refine sx_draw 12 (by kernel_rfl) (by kernel_rfl) follows_mixed' ?_
    refine xf 3 [(4, .p 4 0),(5, .p 5 0),(6, .p 6 0),eI2 42 s1 A1 l1 c1,eR4 43 s0 A0 l0 c0 t0 B0 m0 d0] [bI2 6 114 s26 A26 l26 c26,bI2 5 114 s25 A25 l25 c25,bI2 6 114 false none 0 0,bI2 5 114 false none 0 0,bR4 4 116 false none 0 0 false none 0 0,bR4 3 116 s1 A1 l1 c1 t1 B1 m1 d1,bR4 2 116 s0 A0 l0 c0 t0 B0 m0 d0] ?_
    refine xd 140 [vR4 s0 A0 l0 c0 t0 B0 m0 d0] 44 shInt _ (fun w hE hΦ=>(Den_any _ (p) _ hΦ.1.1.1.1.1.1.1).mono (fun _ _ h=>post_Int h)) (fun xx=>?_)
    obtain ⟨s27,A27,l27,c27⟩:=xx
    refine xf 0 [(4, .p 4 0),(5, .p 5 0),(6, .p 6 0),eI2 42 s1 A1 l1 c1,eI2 44 s27 A27 l27 c27] [bI2 6 114 s26 A26 l26 c26,bI2 5 114 s25 A25 l25 c25,bI2 6 114 false none 0 0,bI2 5 114 false none 0 0,bR4 4 116 false none 0 0 false none 0 0,bR4 3 116 s1 A1 l1 c1 t1 B1 m1 d1,bR4 2 116 s0 A0 l0 c0 t0 B0 m0 d0] ?_
    refine xd 190 [vI2 s1 A1 l1 c1,vI2 s27 A27 l27 c27] 45 shInt2 _ (fun w hE hΦ=>(cancel_any _ _ ((q).num) (((p).den:Int)) _ hΦ.1.1.1.1.1.1.2 hΦ.1.1.1.1.1.1.1.2.num hΦ.2 S2 S3 (denI p)).mono (fun _ _ h=>post_Int2 h)) (fun xx=>?_)
    obtain ⟨⟨s28,A28,l28,c28⟩,⟨s29,A29,l29,c29⟩⟩:=xx
    refine xf 7 [(4, .p 4 0),(5, .p 5 0),(6, .p 6 0),(7, .p 7 0),(8, .p 8 0)] [bI2 8 114 s29 A29 l29 c29,bI2 7 114 s28 A28 l28 c28,bI2 8 114 false none 0 0,bI2 7 114 false none 0 0,bI2 6 114 s26 A26 l26 c26,bI2 5 114 s25 A25 l25 c25,bI2 6 114 false none 0 0,bI2 5 114 false none 0 0,bR4 4 116 false none 0 0 false none 0 0,bR4 3 116 s1 A1 l1 c1 t1 B1 m1 d1,bR4 2 116 s0 A0 l0 c0 t0 B0 m0 d0] ?_
    refine xz (xe (sx_next (sx_seq ?_)))
    refine sx_draw 8 (by kernel_rfl) (by kernel_rfl) follows_mixed' ?_
    refine xf 2 [(4, .p 4 0),(6, .p 6 0),(8, .p 8 0),eI2 48 s25 A25 l25 c25,eI2 49 s28 A28 l28 c28] [bI2 8 114 s29 A29 l29 c29,bI2 7 114 s28 A28 l28 c28,bI2 8 114 false none 0 0,bI2 7 114 false none 0 0,bI2 6 114 s26 A26 l26 c26,bI2 5 114 s25 A25 l25 c25,bI2 6 114 false none 0 0,bI2 5 114 false none 0 0,bR4 4 116 false none 0 0 false none 0 0,bR4 3 116 s1 A1 l1 c1 t1 B1 m1 d1,bR4 2 116 s0 A0 l0 c0 t0 B0 m0 d0] ?_
    refine xd 152 [vI2 s25 A25 l25 c25,vI2 s28 A28 l28 c28] 50 shInt _ (fun w hE hΦ=>(Mul_any _ _ (((p).num).tdiv (((Int.gcd ((p).num) (((q).den:Int)):Nat):Int))) (((q).num).tdiv (((Int.gcd ((q).num) (((p).den:Int)):Nat):Int))) _ hΦ.1.1.2.1 hΦ.2.1 (fit (wlq S1) (by decide)) (fit (wlq S2) (by decide)) (Or.inl (Nat.lt_of_le_of_lt (wlq S1) (by decide)))).mono (fun _ _ h=>post_Int h)) (fun xx=>?_)
    obtain ⟨s30,A30,l30,c30⟩:=xx
    refine xf 2 [(4, .p 4 0),eI2 50 s30 A30 l30 c30,eI2 51 s29 A29 l29 c29,eI2 52 s26 A26 l26 c26] [bI2 8 114 s29 A29 l29 c29,bI2 7 114 s28 A28 l28 c28,bI2 8 114 false none 0 0,bI2 7 114 false none 0 0,bI2 6 114 s26 A26 l26 c26,bI2 5 114 s25 A25 l25 c25,bI2 6 114 false none 0 0,bI2 5 114 false none 0 0,bR4 4 116 false none 0 0 false none 0 0,bR4 3 116 s1 A1 l1 c1 t1 B1 m1 d1,bR4 2 116 s0 A0 l0 c0 t0 B0 m0 d0] ?_
    refine xd 152 [vI2 s29 A29 l29 c29,vI2 s26 A26 l26 c26] 53 shInt _ (fun w hE hΦ=>(Mul_any _ _ ((((p).den:Int)).tdiv (((Int.gcd ((q).num) (((p).den:Int)):Nat):Int))) ((((q).den:Int)).tdiv (((Int.gcd ((p).num) (((q).den:Int)):Nat):Int))) _ hΦ.1.2.2 hΦ.1.1.1.2.2 (fit (wlq S3) (by decide)) (fit (wlq S4) (by decide)) (Or.inl (Nat.lt_of_le_of_lt (wlq S3) (by decide)))).mono (fun _ _ h=>post_Int h)) (fun xx=>?_)
    obtain ⟨s31,A31,l31,c31⟩:=xx
    refine xf 0 [(4, .p 4 0),eI2 50 s30 A30 l30 c30,eI2 53 s31 A31 l31 c31] [bI2 8 114 s29 A29 l29 c29,bI2 7 114 s28 A28 l28 c28,bI2 8 114 false none 0 0,bI2 7 114 false none 0 0,bI2 6 114 s26 A26 l26 c26,bI2 5 114 s25 A25 l25 c25,bI2 6 114 false none 0 0,bI2 5 114 false none 0 0,bR4 4 116 false none 0 0 false none 0 0,bR4 3 116 s1 A1 l1 c1 t1 B1 m1 d1,bR4 2 116 s0 A0 l0 c0 t0 B0 m0 d0] ?_
    refine xd 141 [vI2 s30 A30 l30 c30,vI2 s31 A31 l31 c31] 54 shRat _ (fun w hE hΦ=>(lowest_any _ _ ((((p).num).tdiv (((Int.gcd ((p).num) (((q).den:Int)):Nat):Int))) * (((q).num).tdiv (((Int.gcd ((q).num) (((p).den:Int)):Nat):Int)))) (((((p).den:Int)).tdiv (((Int.gcd ((q).num) (((p).den:Int)):Nat):Int))) * ((((q).den:Int)).tdiv (((Int.gcd ((p).num) (((q).den:Int)):Nat):Int)))) (p * q) _ hΦ.1.2 hΦ.2 (by obtain ⟨k1,k2⟩:=rmul_parts p q; exact ⟨k1,by rw [k2,Int.natCast_mul,← nat_tdiv,← nat_tdiv]⟩)).mono (fun _ _ h=>post_Rat h)) (fun xx=>?_)
    obtain ⟨s32,A32,l32,c32,t32,B32,m32,d32⟩:=xx
    refine xf 1 [(4, .p 4 0)] [bR4 4 116 s32 A32 l32 c32 t32 B32 m32 d32,bI2 8 114 s29 A29 l29 c29,bI2 7 114 s28 A28 l28 c28,bI2 8 114 false none 0 0,bI2 7 114 false none 0 0,bI2 6 114 s26 A26 l26 c26,bI2 5 114 s25 A25 l25 c25,bI2 6 114 false none 0 0,bI2 5 114 false none 0 0,bR4 4 116 false none 0 0 false none 0 0,bR4 3 116 s1 A1 l1 c1 t1 B1 m1 d1,bR4 2 116 s0 A0 l0 c0 t0 B0 m0 d0] ?_
    refine xz (xe (sx_next (sx_ret ?_)))
    refine sx_done (v:=.agg #[.bool s32, .slice A32 l32 c32, .bool t32, .slice B32 m32 d32]) (by kernel_rfl) (fun w' hE hΦ=>?_)
    exact ⟨_,rfl,hΦ.2,hE⟩
set_option maxRecDepth 100000 in
theorem QCompare_any (a b:Value) (p q:Rat) (w:World) (ha:RatIs w a p) (hb:RatIs w b q) (hp:QFits p 38) (hq:QFits q 38) :
 Calls Tryz.prog 164 #[a,b] w (RetV w (.int .i64 (p - q).num.sign)):=by
 obtain ⟨s0,A0,l0,c0,t0,B0,m0,d0,rfl⟩:=ha.shp
 obtain ⟨s1,A1,l1,c1,t1,B1,m1,d1,rfl⟩:=hb.shp
 have S1:wl p.num.natAbs≤38:=hp.1
 have S2:wl q.num.natAbs≤38:=hq.1
 have hp2:wl p.den≤38:=hp.2
 have hq2:wl q.den≤38:=hq.2
 have S3:wl ((p.den:Nat):Int).natAbs≤38:=wlc hp2
 have S4:wl ((q.den:Nat):Int).natAbs≤38:=wlc hq2
 refine sx_enter (Φ:=fun w=>(RatIs w (.agg #[.bool s0, .slice A0 l0 c0, .bool t0, .slice B0 m0 d0]) (p)∧RatIs w (.agg #[.bool s1, .slice A1 l1 c1, .bool t1, .slice B1 m1 d1]) (q))) Tryz.func164 rfl (by kernel_rfl) (fun w' hf=>⟨ha.ext hf,hb.ext hf⟩) ?_
 refine sx_seq (sx_region (xr 3 [(2, .p 2 0),(3, .p 3 0),(4, .v (.int .i64 0))] [bR4 3 116 s1 A1 l1 c1 t1 B1 m1 d1,bR4 2 116 s0 A0 l0 c0 t0 B0 m0 d0] ?_))
 refine xe (sx_next (sx_seq (sx_seq ?_)))
 refine sx_draw 15 (by kernel_rfl) (by kernel_rfl) follows_mixed' ?_
 refine xf 2 [(2, .p 2 0),(3, .p 3 0),(4, .v (.int .i64 0)),eI2 6 t0 B0 m0 d0] [bR4 3 116 s1 A1 l1 c1 t1 B1 m1 d1,bR4 2 116 s0 A0 l0 c0 t0 B0 m0 d0] ?_
 by_cases hz10:(denF (p))=0
 ·refine xd 189 [vI2 t0 B0 m0 d0] 7 (fun _:Unit=>.bool true) _ (fun w hE hΦ=>(IsZero_any _ (denF (p)) _ hΦ.1.den).mono (fun _ _ h=>post_val h (by rw [decide_eq_true (p:=(denF (p))=0) hz10]))) (fun xx=>?_)
  refine xf 3 [(2, .p 2 0),(3, .p 3 0),(4, .v (.int .i64 0)),(8, .v (.bool true)),eI2 10 t1 B1 m1 d1] [bR4 3 116 s1 A1 l1 c1 t1 B1 m1 d1,bR4 2 116 s0 A0 l0 c0 t0 B0 m0 d0] ?_
  by_cases hz11:(denF (q))=0
  ·refine xd 189 [vI2 t1 B1 m1 d1] 11 (fun _:Unit=>.bool true) _ (fun w hE hΦ=>(IsZero_any _ (denF (q)) _ hΦ.1.2.den).mono (fun _ _ h=>post_val h (by rw [decide_eq_true (p:=(denF (q))=0) hz11]))) (fun xx=>?_)
   refine xf 8 [(2, .p 2 0),(3, .p 3 0),(4, .v (.int .i64 0)),(19, .v (.bool true))] [bR4 3 116 s1 A1 l1 c1 t1 B1 m1 d1,bR4 2 116 s0 A0 l0 c0 t0 B0 m0 d0] ?_
   refine xz (xe (sx_next (xa (sx_seq (sx_region (xr 4 [(2, .p 2 0),(3, .p 3 0),(4, .v (.int .i64 0)),eI2 21 s0 A0 l0 c0,eI2 23 s1 A1 l1 c1] [bR4 3 116 s1 A1 l1 c1 t1 B1 m1 d1,bR4 2 116 s0 A0 l0 c0 t0 B0 m0 d0] ?_))))))
   refine xc 174 [vI2 s0 A0 l0 c0,vI2 s1 A1 l1 c1] 24 (fun _:Unit=>.int .i64 (p - q).num.sign) _ (fun w hE hΦ=>(Compare_any _ _ ((p).num) ((q).num) _ hΦ.1.1.1.num hΦ.1.1.2.num (fit S1 (by decide)) (fit S2 (by decide))).mono (fun _ _ h=>post_val h (by rw [cmp_whole (denF_iff.1 hz10) (denF_iff.1 hz11)]))) (fun xx=>?_)
   refine xr 1 [(2, .p 2 0),(3, .p 3 0),(4, .v (.int .i64 (p - q).num.sign))] [bR4 3 116 s1 A1 l1 c1 t1 B1 m1 d1,bR4 2 116 s0 A0 l0 c0 t0 B0 m0 d0] ?_
   refine xe (sx_next (sx_ret (sx_then_ret ?_)))
   refine sx_done (v:=.int .i64 (p - q).num.sign) (by kernel_rfl) (fun w' hE hΦ=>?_)
   exact ⟨rfl,hE⟩
  ·refine xd 189 [vI2 t1 B1 m1 d1] 11 (fun _:Unit=>.bool false) _ (fun w hE hΦ=>(IsZero_any _ (denF (q)) _ hΦ.1.2.den).mono (fun _ _ h=>post_val h (by rw [decide_eq_false (p:=(denF (q))=0) hz11]))) (fun xx=>?_)
   refine xf 3 [(2, .p 2 0),(3, .p 3 0),(4, .v (.int .i64 0)),(13, .v (.bool false)),eR4 14 s0 A0 l0 c0 t0 B0 m0 d0] [bR4 3 116 s1 A1 l1 c1 t1 B1 m1 d1,bR4 2 116 s0 A0 l0 c0 t0 B0 m0 d0] ?_
   rcases sign3 (p.num) with ⟨hz12,hs12⟩ | ⟨hz12,hs12⟩ | ⟨hz12,hs12⟩
   ·refine xd 200 [vR4 s0 A0 l0 c0 t0 B0 m0 d0] 15 (fun _:Unit=>.int .i64 (-1)) _ (fun w hE hΦ=>(QSign_any _ _ _ hΦ.1.1.1).mono (fun _ _ h=>post_val h (by rw [hs12]))) (fun xx=>?_)
    refine xf 1 [(2, .p 2 0),(3, .p 3 0),(4, .v (.int .i64 0)),(13, .v (.bool false)),(15, .v (.int .i64 (-1))),eR4 16 s1 A1 l1 c1 t1 B1 m1 d1] [bR4 3 116 s1 A1 l1 c1 t1 B1 m1 d1,bR4 2 116 s0 A0 l0 c0 t0 B0 m0 d0] ?_
    rcases sign3 (q.num) with ⟨hz13,hs13⟩ | ⟨hz13,hs13⟩ | ⟨hz13,hs13⟩
    ·refine xd 200 [vR4 s1 A1 l1 c1 t1 B1 m1 d1] 17 (fun _:Unit=>.int .i64 (-1)) _ (fun w hE hΦ=>(QSign_any _ _ _ hΦ.1.1.1.2).mono (fun _ _ h=>post_val h (by rw [hs13]))) (fun xx=>?_)
     refine xf 2 [(2, .p 2 0),(3, .p 3 0),(4, .v (.int .i64 0)),(19, .v (.bool false))] [bR4 3 116 s1 A1 l1 c1 t1 B1 m1 d1,bR4 2 116 s0 A0 l0 c0 t0 B0 m0 d0] ?_
     refine xz (xe (sx_next (xb (sx_skip (sx_next (sx_seq ?_))))))
     refine sx_draw 12 (by kernel_rfl) (by kernel_rfl) follows_mixed' ?_
     refine xf 3 [(2, .p 2 0),(3, .p 3 0),(4, .v (.int .i64 0)),eI2 26 s0 A0 l0 c0,eR4 27 s1 A1 l1 c1 t1 B1 m1 d1] [bR4 3 116 s1 A1 l1 c1 t1 B1 m1 d1,bR4 2 116 s0 A0 l0 c0 t0 B0 m0 d0] ?_
     refine xd 140 [vR4 s1 A1 l1 c1 t1 B1 m1 d1] 28 shInt _ (fun w hE hΦ=>(Den_any _ (q) _ hΦ.1.1.1.1.2).mono (fun _ _ h=>post_Int h)) (fun xx=>?_)
     obtain ⟨s14,A14,l14,c14⟩:=xx
     refine xf 0 [(2, .p 2 0),(3, .p 3 0),(4, .v (.int .i64 0)),eI2 26 s0 A0 l0 c0,eI2 28 s14 A14 l14 c14] [bR4 3 116 s1 A1 l1 c1 t1 B1 m1 d1,bR4 2 116 s0 A0 l0 c0 t0 B0 m0 d0] ?_
     refine xd 152 [vI2 s0 A0 l0 c0,vI2 s14 A14 l14 c14] 29 shInt _ (fun w hE hΦ=>(Mul_any _ _ ((p).num) (((q).den:Int)) _ hΦ.1.1.1.1.1.1.num hΦ.2 (fit S1 (by decide)) (fit S4 (by decide)) (Or.inl (Nat.lt_of_le_of_lt S1 (by decide)))).mono (fun _ _ h=>post_Int h)) (fun xx=>?_)
     obtain ⟨s15,A15,l15,c15⟩:=xx
     refine xf 3 [(4, .v (.int .i64 0)),eI2 29 s15 A15 l15 c15,eI2 31 s1 A1 l1 c1,eR4 32 s0 A0 l0 c0 t0 B0 m0 d0] [bR4 3 116 s1 A1 l1 c1 t1 B1 m1 d1,bR4 2 116 s0 A0 l0 c0 t0 B0 m0 d0] ?_
     refine xd 140 [vR4 s0 A0 l0 c0 t0 B0 m0 d0] 33 shInt _ (fun w hE hΦ=>(Den_any _ (p) _ hΦ.1.1.1.1.1.1.1).mono (fun _ _ h=>post_Int h)) (fun xx=>?_)
     obtain ⟨s16,A16,l16,c16⟩:=xx
     refine xf 0 [(4, .v (.int .i64 0)),eI2 29 s15 A15 l15 c15,eI2 31 s1 A1 l1 c1,eI2 33 s16 A16 l16 c16] [bR4 3 116 s1 A1 l1 c1 t1 B1 m1 d1,bR4 2 116 s0 A0 l0 c0 t0 B0 m0 d0] ?_
     refine xd 152 [vI2 s1 A1 l1 c1,vI2 s16 A16 l16 c16] 34 shInt _ (fun w hE hΦ=>(Mul_any _ _ ((q).num) (((p).den:Int)) _ hΦ.1.1.1.1.1.1.1.2.num hΦ.2 (fit S2 (by decide)) (fit S3 (by decide)) (Or.inl (Nat.lt_of_le_of_lt S2 (by decide)))).mono (fun _ _ h=>post_Int h)) (fun xx=>?_)
     obtain ⟨s17,A17,l17,c17⟩:=xx
     refine xf 0 [(4, .v (.int .i64 0)),eI2 29 s15 A15 l15 c15,eI2 34 s17 A17 l17 c17] [bR4 3 116 s1 A1 l1 c1 t1 B1 m1 d1,bR4 2 116 s0 A0 l0 c0 t0 B0 m0 d0] ?_
     refine xd 174 [vI2 s15 A15 l15 c15,vI2 s17 A17 l17 c17] 35 (fun _:Unit=>.int .i64 (p - q).num.sign) _ (fun w hE hΦ=>(Compare_any _ _ (((p).num) * (((q).den:Int))) (((q).num) * (((p).den:Int))) _ hΦ.1.1.2 hΦ.2 (fit (wlm S1 S4) (by decide)) (fit (wlm S2 S3) (by decide))).mono (fun _ _ h=>post_val h (by rw [cmp_cross]))) (fun xx=>?_)
     refine xf 1 [(4, .v (.int .i64 (p - q).num.sign))] [bR4 3 116 s1 A1 l1 c1 t1 B1 m1 d1,bR4 2 116 s0 A0 l0 c0 t0 B0 m0 d0] ?_
     refine xz (xe (sx_next (sx_ret ?_)))
     refine sx_done (v:=.int .i64 (p - q).num.sign) (by kernel_rfl) (fun w' hE hΦ=>?_)
     exact ⟨rfl,hE⟩
    ·refine xd 200 [vR4 s1 A1 l1 c1 t1 B1 m1 d1] 17 (fun _:Unit=>.int .i64 0) _ (fun w hE hΦ=>(QSign_any _ _ _ hΦ.1.1.1.2).mono (fun _ _ h=>post_val h (by rw [hs13]))) (fun xx=>?_)
     refine xf 2 [(2, .p 2 0),(3, .p 3 0),(4, .v (.int .i64 0)),(19, .v (.bool true))] [bR4 3 116 s1 A1 l1 c1 t1 B1 m1 d1,bR4 2 116 s0 A0 l0 c0 t0 B0 m0 d0] ?_
     refine xz (xe (sx_next (xa (sx_seq (sx_region (xr 4 [(2, .p 2 0),(3, .p 3 0),(4, .v (.int .i64 0)),eI2 21 s0 A0 l0 c0,eI2 23 s1 A1 l1 c1] [bR4 3 116 s1 A1 l1 c1 t1 B1 m1 d1,bR4 2 116 s0 A0 l0 c0 t0 B0 m0 d0] ?_))))))
     refine xc 174 [vI2 s0 A0 l0 c0,vI2 s1 A1 l1 c1] 24 (fun _:Unit=>.int .i64 (p - q).num.sign) _ (fun w hE hΦ=>(Compare_any _ _ ((p).num) ((q).num) _ hΦ.1.1.1.1.1.num hΦ.1.1.1.1.2.num (fit S1 (by decide)) (fit S2 (by decide))).mono (fun _ _ h=>post_val h (by rw [cmp_signs (p:=p) (q:=q) (by rw [hs12,hs13]; decide)]))) (fun xx=>?_)
     refine xr 1 [(2, .p 2 0),(3, .p 3 0),(4, .v (.int .i64 (p - q).num.sign))] [bR4 3 116 s1 A1 l1 c1 t1 B1 m1 d1,bR4 2 116 s0 A0 l0 c0 t0 B0 m0 d0] ?_
     refine xe (sx_next (sx_ret (sx_then_ret ?_)))
     refine sx_done (v:=.int .i64 (p - q).num.sign) (by kernel_rfl) (fun w' hE hΦ=>?_)
     exact ⟨rfl,hE⟩
    ·refine xd 200 [vR4 s1 A1 l1 c1 t1 B1 m1 d1] 17 (fun _:Unit=>.int .i64 1) _ (fun w hE hΦ=>(QSign_any _ _ _ hΦ.1.1.1.2).mono (fun _ _ h=>post_val h (by rw [hs13]))) (fun xx=>?_)
     refine xf 2 [(2, .p 2 0),(3, .p 3 0),(4, .v (.int .i64 0)),(19, .v (.bool true))] [bR4 3 116 s1 A1 l1 c1 t1 B1 m1 d1,bR4 2 116 s0 A0 l0 c0 t0 B0 m0 d0] ?_
     refine xz (xe (sx_next (xa (sx_seq (sx_region (xr 4 [(2, .p 2 0),(3, .p 3 0),(4, .v (.int .i64 0)),eI2 21 s0 A0 l0 c0,eI2 23 s1 A1 l1 c1] [bR4 3 116 s1 A1 l1 c1 t1 B1 m1 d1,bR4 2 116 s0 A0 l0 c0 t0 B0 m0 d0] ?_))))))
     refine xc 174 [vI2 s0 A0 l0 c0,vI2 s1 A1 l1 c1] 24 (fun _:Unit=>.int .i64 (p - q).num.sign) _ (fun w hE hΦ=>(Compare_any _ _ ((p).num) ((q).num) _ hΦ.1.1.1.1.1.num hΦ.1.1.1.1.2.num (fit S1 (by decide)) (fit S2 (by decide))).mono (fun _ _ h=>post_val h (by rw [cmp_signs (p:=p) (q:=q) (by rw [hs12,hs13]; decide)]))) (fun xx=>?_)
     refine xr 1 [(2, .p 2 0),(3, .p 3 0),(4, .v (.int .i64 (p - q).num.sign))] [bR4 3 116 s1 A1 l1 c1 t1 B1 m1 d1,bR4 2 116 s0 A0 l0 c0 t0 B0 m0 d0] ?_
     refine xe (sx_next (sx_ret (sx_then_ret ?_)))
     refine sx_done (v:=.int .i64 (p - q).num.sign) (by kernel_rfl) (fun w' hE hΦ=>?_)
     exact ⟨rfl,hE⟩
   ·refine xd 200 [vR4 s0 A0 l0 c0 t0 B0 m0 d0] 15 (fun _:Unit=>.int .i64 0) _ (fun w hE hΦ=>(QSign_any _ _ _ hΦ.1.1.1).mono (fun _ _ h=>post_val h (by rw [hs12]))) (fun xx=>?_)
    refine xf 1 [(2, .p 2 0),(3, .p 3 0),(4, .v (.int .i64 0)),(13, .v (.bool false)),(15, .v (.int .i64 0)),eR4 16 s1 A1 l1 c1 t1 B1 m1 d1] [bR4 3 116 s1 A1 l1 c1 t1 B1 m1 d1,bR4 2 116 s0 A0 l0 c0 t0 B0 m0 d0] ?_
    rcases sign3 (q.num) with ⟨hz18,hs18⟩ | ⟨hz18,hs18⟩ | ⟨hz18,hs18⟩
    ·refine xd 200 [vR4 s1 A1 l1 c1 t1 B1 m1 d1] 17 (fun _:Unit=>.int .i64 (-1)) _ (fun w hE hΦ=>(QSign_any _ _ _ hΦ.1.1.1.2).mono (fun _ _ h=>post_val h (by rw [hs18]))) (fun xx=>?_)
     refine xf 2 [(2, .p 2 0),(3, .p 3 0),(4, .v (.int .i64 0)),(19, .v (.bool true))] [bR4 3 116 s1 A1 l1 c1 t1 B1 m1 d1,bR4 2 116 s0 A0 l0 c0 t0 B0 m0 d0] ?_
     refine xz (xe (sx_next (xa (sx_seq (sx_region (xr 4 [(2, .p 2 0),(3, .p 3 0),(4, .v (.int .i64 0)),eI2 21 s0 A0 l0 c0,eI2 23 s1 A1 l1 c1] [bR4 3 116 s1 A1 l1 c1 t1 B1 m1 d1,bR4 2 116 s0 A0 l0 c0 t0 B0 m0 d0] ?_))))))
     refine xc 174 [vI2 s0 A0 l0 c0,vI2 s1 A1 l1 c1] 24 (fun _:Unit=>.int .i64 (p - q).num.sign) _ (fun w hE hΦ=>(Compare_any _ _ ((p).num) ((q).num) _ hΦ.1.1.1.1.1.num hΦ.1.1.1.1.2.num (fit S1 (by decide)) (fit S2 (by decide))).mono (fun _ _ h=>post_val h (by rw [cmp_signs (p:=p) (q:=q) (by rw [hs12,hs18]; decide)]))) (fun xx=>?_)
     refine xr 1 [(2, .p 2 0),(3, .p 3 0),(4, .v (.int .i64 (p - q).num.sign))] [bR4 3 116 s1 A1 l1 c1 t1 B1 m1 d1,bR4 2 116 s0 A0 l0 c0 t0 B0 m0 d0] ?_
     refine xe (sx_next (sx_ret (sx_then_ret ?_)))
     refine sx_done (v:=.int .i64 (p - q).num.sign) (by kernel_rfl) (fun w' hE hΦ=>?_)
     exact ⟨rfl,hE⟩
    ·refine xd 200 [vR4 s1 A1 l1 c1 t1 B1 m1 d1] 17 (fun _:Unit=>.int .i64 0) _ (fun w hE hΦ=>(QSign_any _ _ _ hΦ.1.1.1.2).mono (fun _ _ h=>post_val h (by rw [hs18]))) (fun xx=>?_)
     refine xf 2 [(2, .p 2 0),(3, .p 3 0),(4, .v (.int .i64 0)),(19, .v (.bool false))] [bR4 3 116 s1 A1 l1 c1 t1 B1 m1 d1,bR4 2 116 s0 A0 l0 c0 t0 B0 m0 d0] ?_
     refine xz (xe (sx_next (xb (sx_skip (sx_next (sx_seq ?_))))))
     refine sx_draw 12 (by kernel_rfl) (by kernel_rfl) follows_mixed' ?_
     refine xf 3 [(2, .p 2 0),(3, .p 3 0),(4, .v (.int .i64 0)),eI2 26 s0 A0 l0 c0,eR4 27 s1 A1 l1 c1 t1 B1 m1 d1] [bR4 3 116 s1 A1 l1 c1 t1 B1 m1 d1,bR4 2 116 s0 A0 l0 c0 t0 B0 m0 d0] ?_
     refine xd 140 [vR4 s1 A1 l1 c1 t1 B1 m1 d1] 28 shInt _ (fun w hE hΦ=>(Den_any _ (q) _ hΦ.1.1.1.1.2).mono (fun _ _ h=>post_Int h)) (fun xx=>?_)
     obtain ⟨s19,A19,l19,c19⟩:=xx
     refine xf 0 [(2, .p 2 0),(3, .p 3 0),(4, .v (.int .i64 0)),eI2 26 s0 A0 l0 c0,eI2 28 s19 A19 l19 c19] [bR4 3 116 s1 A1 l1 c1 t1 B1 m1 d1,bR4 2 116 s0 A0 l0 c0 t0 B0 m0 d0] ?_
     refine xd 152 [vI2 s0 A0 l0 c0,vI2 s19 A19 l19 c19] 29 shInt _ (fun w hE hΦ=>(Mul_any _ _ ((p).num) (((q).den:Int)) _ hΦ.1.1.1.1.1.1.num hΦ.2 (fit S1 (by decide)) (fit S4 (by decide)) (Or.inl (Nat.lt_of_le_of_lt S1 (by decide)))).mono (fun _ _ h=>post_Int h)) (fun xx=>?_)
     obtain ⟨s20,A20,l20,c20⟩:=xx
     refine xf 3 [(4, .v (.int .i64 0)),eI2 29 s20 A20 l20 c20,eI2 31 s1 A1 l1 c1,eR4 32 s0 A0 l0 c0 t0 B0 m0 d0] [bR4 3 116 s1 A1 l1 c1 t1 B1 m1 d1,bR4 2 116 s0 A0 l0 c0 t0 B0 m0 d0] ?_
     refine xd 140 [vR4 s0 A0 l0 c0 t0 B0 m0 d0] 33 shInt _ (fun w hE hΦ=>(Den_any _ (p) _ hΦ.1.1.1.1.1.1.1).mono (fun _ _ h=>post_Int h)) (fun xx=>?_)
     obtain ⟨s21,A21,l21,c21⟩:=xx
     refine xf 0 [(4, .v (.int .i64 0)),eI2 29 s20 A20 l20 c20,eI2 31 s1 A1 l1 c1,eI2 33 s21 A21 l21 c21] [bR4 3 116 s1 A1 l1 c1 t1 B1 m1 d1,bR4 2 116 s0 A0 l0 c0 t0 B0 m0 d0] ?_
     refine xd 152 [vI2 s1 A1 l1 c1,vI2 s21 A21 l21 c21] 34 shInt _ (fun w hE hΦ=>(Mul_any _ _ ((q).num) (((p).den:Int)) _ hΦ.1.1.1.1.1.1.1.2.num hΦ.2 (fit S2 (by decide)) (fit S3 (by decide)) (Or.inl (Nat.lt_of_le_of_lt S2 (by decide)))).mono (fun _ _ h=>post_Int h)) (fun xx=>?_)
     obtain ⟨s22,A22,l22,c22⟩:=xx
     refine xf 0 [(4, .v (.int .i64 0)),eI2 29 s20 A20 l20 c20,eI2 34 s22 A22 l22 c22] [bR4 3 116 s1 A1 l1 c1 t1 B1 m1 d1,bR4 2 116 s0 A0 l0 c0 t0 B0 m0 d0] ?_
     refine xd 174 [vI2 s20 A20 l20 c20,vI2 s22 A22 l22 c22] 35 (fun _:Unit=>.int .i64 (p - q).num.sign) _ (fun w hE hΦ=>(Compare_any _ _ (((p).num) * (((q).den:Int))) (((q).num) * (((p).den:Int))) _ hΦ.1.1.2 hΦ.2 (fit (wlm S1 S4) (by decide)) (fit (wlm S2 S3) (by decide))).mono (fun _ _ h=>post_val h (by rw [cmp_cross]))) (fun xx=>?_)
     refine xf 1 [(4, .v (.int .i64 (p - q).num.sign))] [bR4 3 116 s1 A1 l1 c1 t1 B1 m1 d1,bR4 2 116 s0 A0 l0 c0 t0 B0 m0 d0] ?_
     refine xz (xe (sx_next (sx_ret ?_)))
     refine sx_done (v:=.int .i64 (p - q).num.sign) (by kernel_rfl) (fun w' hE hΦ=>?_)
     exact ⟨rfl,hE⟩
    ·refine xd 200 [vR4 s1 A1 l1 c1 t1 B1 m1 d1] 17 (fun _:Unit=>.int .i64 1) _ (fun w hE hΦ=>(QSign_any _ _ _ hΦ.1.1.1.2).mono (fun _ _ h=>post_val h (by rw [hs18]))) (fun xx=>?_)
     refine xf 2 [(2, .p 2 0),(3, .p 3 0),(4, .v (.int .i64 0)),(19, .v (.bool true))] [bR4 3 116 s1 A1 l1 c1 t1 B1 m1 d1,bR4 2 116 s0 A0 l0 c0 t0 B0 m0 d0] ?_
     refine xz (xe (sx_next (xa (sx_seq (sx_region (xr 4 [(2, .p 2 0),(3, .p 3 0),(4, .v (.int .i64 0)),eI2 21 s0 A0 l0 c0,eI2 23 s1 A1 l1 c1] [bR4 3 116 s1 A1 l1 c1 t1 B1 m1 d1,bR4 2 116 s0 A0 l0 c0 t0 B0 m0 d0] ?_))))))
     refine xc 174 [vI2 s0 A0 l0 c0,vI2 s1 A1 l1 c1] 24 (fun _:Unit=>.int .i64 (p - q).num.sign) _ (fun w hE hΦ=>(Compare_any _ _ ((p).num) ((q).num) _ hΦ.1.1.1.1.1.num hΦ.1.1.1.1.2.num (fit S1 (by decide)) (fit S2 (by decide))).mono (fun _ _ h=>post_val h (by rw [cmp_signs (p:=p) (q:=q) (by rw [hs12,hs18]; decide)]))) (fun xx=>?_)
     refine xr 1 [(2, .p 2 0),(3, .p 3 0),(4, .v (.int .i64 (p - q).num.sign))] [bR4 3 116 s1 A1 l1 c1 t1 B1 m1 d1,bR4 2 116 s0 A0 l0 c0 t0 B0 m0 d0] ?_
     refine xe (sx_next (sx_ret (sx_then_ret ?_)))
     refine sx_done (v:=.int .i64 (p - q).num.sign) (by kernel_rfl) (fun w' hE hΦ=>?_)
     exact ⟨rfl,hE⟩
   ·refine xd 200 [vR4 s0 A0 l0 c0 t0 B0 m0 d0] 15 (fun _:Unit=>.int .i64 1) _ (fun w hE hΦ=>(QSign_any _ _ _ hΦ.1.1.1).mono (fun _ _ h=>post_val h (by rw [hs12]))) (fun xx=>?_)
    refine xf 1 [(2, .p 2 0),(3, .p 3 0),(4, .v (.int .i64 0)),(13, .v (.bool false)),(15, .v (.int .i64 1)),eR4 16 s1 A1 l1 c1 t1 B1 m1 d1] [bR4 3 116 s1 A1 l1 c1 t1 B1 m1 d1,bR4 2 116 s0 A0 l0 c0 t0 B0 m0 d0] ?_
    rcases sign3 (q.num) with ⟨hz23,hs23⟩ | ⟨hz23,hs23⟩ | ⟨hz23,hs23⟩
    ·refine xd 200 [vR4 s1 A1 l1 c1 t1 B1 m1 d1] 17 (fun _:Unit=>.int .i64 (-1)) _ (fun w hE hΦ=>(QSign_any _ _ _ hΦ.1.1.1.2).mono (fun _ _ h=>post_val h (by rw [hs23]))) (fun xx=>?_)
     refine xf 2 [(2, .p 2 0),(3, .p 3 0),(4, .v (.int .i64 0)),(19, .v (.bool true))] [bR4 3 116 s1 A1 l1 c1 t1 B1 m1 d1,bR4 2 116 s0 A0 l0 c0 t0 B0 m0 d0] ?_
     refine xz (xe (sx_next (xa (sx_seq (sx_region (xr 4 [(2, .p 2 0),(3, .p 3 0),(4, .v (.int .i64 0)),eI2 21 s0 A0 l0 c0,eI2 23 s1 A1 l1 c1] [bR4 3 116 s1 A1 l1 c1 t1 B1 m1 d1,bR4 2 116 s0 A0 l0 c0 t0 B0 m0 d0] ?_))))))
     refine xc 174 [vI2 s0 A0 l0 c0,vI2 s1 A1 l1 c1] 24 (fun _:Unit=>.int .i64 (p - q).num.sign) _ (fun w hE hΦ=>(Compare_any _ _ ((p).num) ((q).num) _ hΦ.1.1.1.1.1.num hΦ.1.1.1.1.2.num (fit S1 (by decide)) (fit S2 (by decide))).mono (fun _ _ h=>post_val h (by rw [cmp_signs (p:=p) (q:=q) (by rw [hs12,hs23]; decide)]))) (fun xx=>?_)
     refine xr 1 [(2, .p 2 0),(3, .p 3 0),(4, .v (.int .i64 (p - q).num.sign))] [bR4 3 116 s1 A1 l1 c1 t1 B1 m1 d1,bR4 2 116 s0 A0 l0 c0 t0 B0 m0 d0] ?_
     refine xe (sx_next (sx_ret (sx_then_ret ?_)))
     refine sx_done (v:=.int .i64 (p - q).num.sign) (by kernel_rfl) (fun w' hE hΦ=>?_)
     exact ⟨rfl,hE⟩
    ·refine xd 200 [vR4 s1 A1 l1 c1 t1 B1 m1 d1] 17 (fun _:Unit=>.int .i64 0) _ (fun w hE hΦ=>(QSign_any _ _ _ hΦ.1.1.1.2).mono (fun _ _ h=>post_val h (by rw [hs23]))) (fun xx=>?_)
     refine xf 2 [(2, .p 2 0),(3, .p 3 0),(4, .v (.int .i64 0)),(19, .v (.bool true))] [bR4 3 116 s1 A1 l1 c1 t1 B1 m1 d1,bR4 2 116 s0 A0 l0 c0 t0 B0 m0 d0] ?_
     refine xz (xe (sx_next (xa (sx_seq (sx_region (xr 4 [(2, .p 2 0),(3, .p 3 0),(4, .v (.int .i64 0)),eI2 21 s0 A0 l0 c0,eI2 23 s1 A1 l1 c1] [bR4 3 116 s1 A1 l1 c1 t1 B1 m1 d1,bR4 2 116 s0 A0 l0 c0 t0 B0 m0 d0] ?_))))))
     refine xc 174 [vI2 s0 A0 l0 c0,vI2 s1 A1 l1 c1] 24 (fun _:Unit=>.int .i64 (p - q).num.sign) _ (fun w hE hΦ=>(Compare_any _ _ ((p).num) ((q).num) _ hΦ.1.1.1.1.1.num hΦ.1.1.1.1.2.num (fit S1 (by decide)) (fit S2 (by decide))).mono (fun _ _ h=>post_val h (by rw [cmp_signs (p:=p) (q:=q) (by rw [hs12,hs23]; decide)]))) (fun xx=>?_)
     refine xr 1 [(2, .p 2 0),(3, .p 3 0),(4, .v (.int .i64 (p - q).num.sign))] [bR4 3 116 s1 A1 l1 c1 t1 B1 m1 d1,bR4 2 116 s0 A0 l0 c0 t0 B0 m0 d0] ?_
     refine xe (sx_next (sx_ret (sx_then_ret ?_)))
     refine sx_done (v:=.int .i64 (p - q).num.sign) (by kernel_rfl) (fun w' hE hΦ=>?_)
     exact ⟨rfl,hE⟩
    ·refine xd 200 [vR4 s1 A1 l1 c1 t1 B1 m1 d1] 17 (fun _:Unit=>.int .i64 1) _ (fun w hE hΦ=>(QSign_any _ _ _ hΦ.1.1.1.2).mono (fun _ _ h=>post_val h (by rw [hs23]))) (fun xx=>?_)
     refine xf 2 [(2, .p 2 0),(3, .p 3 0),(4, .v (.int .i64 0)),(19, .v (.bool false))] [bR4 3 116 s1 A1 l1 c1 t1 B1 m1 d1,bR4 2 116 s0 A0 l0 c0 t0 B0 m0 d0] ?_
     refine xz (xe (sx_next (xb (sx_skip (sx_next (sx_seq ?_))))))
     refine sx_draw 12 (by kernel_rfl) (by kernel_rfl) follows_mixed' ?_
     refine xf 3 [(2, .p 2 0),(3, .p 3 0),(4, .v (.int .i64 0)),eI2 26 s0 A0 l0 c0,eR4 27 s1 A1 l1 c1 t1 B1 m1 d1] [bR4 3 116 s1 A1 l1 c1 t1 B1 m1 d1,bR4 2 116 s0 A0 l0 c0 t0 B0 m0 d0] ?_
     refine xd 140 [vR4 s1 A1 l1 c1 t1 B1 m1 d1] 28 shInt _ (fun w hE hΦ=>(Den_any _ (q) _ hΦ.1.1.1.1.2).mono (fun _ _ h=>post_Int h)) (fun xx=>?_)
     obtain ⟨s24,A24,l24,c24⟩:=xx
     refine xf 0 [(2, .p 2 0),(3, .p 3 0),(4, .v (.int .i64 0)),eI2 26 s0 A0 l0 c0,eI2 28 s24 A24 l24 c24] [bR4 3 116 s1 A1 l1 c1 t1 B1 m1 d1,bR4 2 116 s0 A0 l0 c0 t0 B0 m0 d0] ?_
     refine xd 152 [vI2 s0 A0 l0 c0,vI2 s24 A24 l24 c24] 29 shInt _ (fun w hE hΦ=>(Mul_any _ _ ((p).num) (((q).den:Int)) _ hΦ.1.1.1.1.1.1.num hΦ.2 (fit S1 (by decide)) (fit S4 (by decide)) (Or.inl (Nat.lt_of_le_of_lt S1 (by decide)))).mono (fun _ _ h=>post_Int h)) (fun xx=>?_)
     obtain ⟨s25,A25,l25,c25⟩:=xx
     refine xf 3 [(4, .v (.int .i64 0)),eI2 29 s25 A25 l25 c25,eI2 31 s1 A1 l1 c1,eR4 32 s0 A0 l0 c0 t0 B0 m0 d0] [bR4 3 116 s1 A1 l1 c1 t1 B1 m1 d1,bR4 2 116 s0 A0 l0 c0 t0 B0 m0 d0] ?_
     refine xd 140 [vR4 s0 A0 l0 c0 t0 B0 m0 d0] 33 shInt _ (fun w hE hΦ=>(Den_any _ (p) _ hΦ.1.1.1.1.1.1.1).mono (fun _ _ h=>post_Int h)) (fun xx=>?_)
     obtain ⟨s26,A26,l26,c26⟩:=xx
     refine xf 0 [(4, .v (.int .i64 0)),eI2 29 s25 A25 l25 c25,eI2 31 s1 A1 l1 c1,eI2 33 s26 A26 l26 c26] [bR4 3 116 s1 A1 l1 c1 t1 B1 m1 d1,bR4 2 116 s0 A0 l0 c0 t0 B0 m0 d0] ?_
     refine xd 152 [vI2 s1 A1 l1 c1,vI2 s26 A26 l26 c26] 34 shInt _ (fun w hE hΦ=>(Mul_any _ _ ((q).num) (((p).den:Int)) _ hΦ.1.1.1.1.1.1.1.2.num hΦ.2 (fit S2 (by decide)) (fit S3 (by decide)) (Or.inl (Nat.lt_of_le_of_lt S2 (by decide)))).mono (fun _ _ h=>post_Int h)) (fun xx=>?_)
     obtain ⟨s27,A27,l27,c27⟩:=xx
     refine xf 0 [(4, .v (.int .i64 0)),eI2 29 s25 A25 l25 c25,eI2 34 s27 A27 l27 c27] [bR4 3 116 s1 A1 l1 c1 t1 B1 m1 d1,bR4 2 116 s0 A0 l0 c0 t0 B0 m0 d0] ?_
     refine xd 174 [vI2 s25 A25 l25 c25,vI2 s27 A27 l27 c27] 35 (fun _:Unit=>.int .i64 (p - q).num.sign) _ (fun w hE hΦ=>(Compare_any _ _ (((p).num) * (((q).den:Int))) (((q).num) * (((p).den:Int))) _ hΦ.1.1.2 hΦ.2 (fit (wlm S1 S4) (by decide)) (fit (wlm S2 S3) (by decide))).mono (fun _ _ h=>post_val h (by rw [cmp_cross]))) (fun xx=>?_)
     refine xf 1 [(4, .v (.int .i64 (p - q).num.sign))] [bR4 3 116 s1 A1 l1 c1 t1 B1 m1 d1,bR4 2 116 s0 A0 l0 c0 t0 B0 m0 d0] ?_
     refine xz (xe (sx_next (sx_ret ?_)))
     refine sx_done (v:=.int .i64 (p - q).num.sign) (by kernel_rfl) (fun w' hE hΦ=>?_)
     exact ⟨rfl,hE⟩
 ·refine xd 189 [vI2 t0 B0 m0 d0] 7 (fun _:Unit=>.bool false) _ (fun w hE hΦ=>(IsZero_any _ (denF (p)) _ hΦ.1.den).mono (fun _ _ h=>post_val h (by rw [decide_eq_false (p:=(denF (p))=0) hz10]))) (fun xx=>?_)
  refine xf 7 [(2, .p 2 0),(3, .p 3 0),(4, .v (.int .i64 0)),(13, .v (.bool false)),eR4 14 s0 A0 l0 c0 t0 B0 m0 d0] [bR4 3 116 s1 A1 l1 c1 t1 B1 m1 d1,bR4 2 116 s0 A0 l0 c0 t0 B0 m0 d0] ?_
  rcases sign3 (p.num) with ⟨hz28,hs28⟩ | ⟨hz28,hs28⟩ | ⟨hz28,hs28⟩
  ·refine xd 200 [vR4 s0 A0 l0 c0 t0 B0 m0 d0] 15 (fun _:Unit=>.int .i64 (-1)) _ (fun w hE hΦ=>(QSign_any _ _ _ hΦ.1.1).mono (fun _ _ h=>post_val h (by rw [hs28]))) (fun xx=>?_)
   refine xf 1 [(2, .p 2 0),(3, .p 3 0),(4, .v (.int .i64 0)),(13, .v (.bool false)),(15, .v (.int .i64 (-1))),eR4 16 s1 A1 l1 c1 t1 B1 m1 d1] [bR4 3 116 s1 A1 l1 c1 t1 B1 m1 d1,bR4 2 116 s0 A0 l0 c0 t0 B0 m0 d0] ?_
   rcases sign3 (q.num) with ⟨hz29,hs29⟩ | ⟨hz29,hs29⟩ | ⟨hz29,hs29⟩
   ·refine xd 200 [vR4 s1 A1 l1 c1 t1 B1 m1 d1] 17 (fun _:Unit=>.int .i64 (-1)) _ (fun w hE hΦ=>(QSign_any _ _ _ hΦ.1.1.2).mono (fun _ _ h=>post_val h (by rw [hs29]))) (fun xx=>?_)
    refine xf 2 [(2, .p 2 0),(3, .p 3 0),(4, .v (.int .i64 0)),(19, .v (.bool false))] [bR4 3 116 s1 A1 l1 c1 t1 B1 m1 d1,bR4 2 116 s0 A0 l0 c0 t0 B0 m0 d0] ?_
    refine xz (xe (sx_next (xb (sx_skip (sx_next (sx_seq ?_))))))
    refine sx_draw 12 (by kernel_rfl) (by kernel_rfl) follows_mixed' ?_
    refine xf 3 [(2, .p 2 0),(3, .p 3 0),(4, .v (.int .i64 0)),eI2 26 s0 A0 l0 c0,eR4 27 s1 A1 l1 c1 t1 B1 m1 d1] [bR4 3 116 s1 A1 l1 c1 t1 B1 m1 d1,bR4 2 116 s0 A0 l0 c0 t0 B0 m0 d0] ?_
    refine xd 140 [vR4 s1 A1 l1 c1 t1 B1 m1 d1] 28 shInt _ (fun w hE hΦ=>(Den_any _ (q) _ hΦ.1.1.1.2).mono (fun _ _ h=>post_Int h)) (fun xx=>?_)
    obtain ⟨s30,A30,l30,c30⟩:=xx
    refine xf 0 [(2, .p 2 0),(3, .p 3 0),(4, .v (.int .i64 0)),eI2 26 s0 A0 l0 c0,eI2 28 s30 A30 l30 c30] [bR4 3 116 s1 A1 l1 c1 t1 B1 m1 d1,bR4 2 116 s0 A0 l0 c0 t0 B0 m0 d0] ?_
    refine xd 152 [vI2 s0 A0 l0 c0,vI2 s30 A30 l30 c30] 29 shInt _ (fun w hE hΦ=>(Mul_any _ _ ((p).num) (((q).den:Int)) _ hΦ.1.1.1.1.1.num hΦ.2 (fit S1 (by decide)) (fit S4 (by decide)) (Or.inl (Nat.lt_of_le_of_lt S1 (by decide)))).mono (fun _ _ h=>post_Int h)) (fun xx=>?_)
    obtain ⟨s31,A31,l31,c31⟩:=xx
    refine xf 3 [(4, .v (.int .i64 0)),eI2 29 s31 A31 l31 c31,eI2 31 s1 A1 l1 c1,eR4 32 s0 A0 l0 c0 t0 B0 m0 d0] [bR4 3 116 s1 A1 l1 c1 t1 B1 m1 d1,bR4 2 116 s0 A0 l0 c0 t0 B0 m0 d0] ?_
    refine xd 140 [vR4 s0 A0 l0 c0 t0 B0 m0 d0] 33 shInt _ (fun w hE hΦ=>(Den_any _ (p) _ hΦ.1.1.1.1.1.1).mono (fun _ _ h=>post_Int h)) (fun xx=>?_)
    obtain ⟨s32,A32,l32,c32⟩:=xx
    refine xf 0 [(4, .v (.int .i64 0)),eI2 29 s31 A31 l31 c31,eI2 31 s1 A1 l1 c1,eI2 33 s32 A32 l32 c32] [bR4 3 116 s1 A1 l1 c1 t1 B1 m1 d1,bR4 2 116 s0 A0 l0 c0 t0 B0 m0 d0] ?_
    refine xd 152 [vI2 s1 A1 l1 c1,vI2 s32 A32 l32 c32] 34 shInt _ (fun w hE hΦ=>(Mul_any _ _ ((q).num) (((p).den:Int)) _ hΦ.1.1.1.1.1.1.2.num hΦ.2 (fit S2 (by decide)) (fit S3 (by decide)) (Or.inl (Nat.lt_of_le_of_lt S2 (by decide)))).mono (fun _ _ h=>post_Int h)) (fun xx=>?_)
    obtain ⟨s33,A33,l33,c33⟩:=xx
    refine xf 0 [(4, .v (.int .i64 0)),eI2 29 s31 A31 l31 c31,eI2 34 s33 A33 l33 c33] [bR4 3 116 s1 A1 l1 c1 t1 B1 m1 d1,bR4 2 116 s0 A0 l0 c0 t0 B0 m0 d0] ?_
    refine xd 174 [vI2 s31 A31 l31 c31,vI2 s33 A33 l33 c33] 35 (fun _:Unit=>.int .i64 (p - q).num.sign) _ (fun w hE hΦ=>(Compare_any _ _ (((p).num) * (((q).den:Int))) (((q).num) * (((p).den:Int))) _ hΦ.1.1.2 hΦ.2 (fit (wlm S1 S4) (by decide)) (fit (wlm S2 S3) (by decide))).mono (fun _ _ h=>post_val h (by rw [cmp_cross]))) (fun xx=>?_)
    refine xf 1 [(4, .v (.int .i64 (p - q).num.sign))] [bR4 3 116 s1 A1 l1 c1 t1 B1 m1 d1,bR4 2 116 s0 A0 l0 c0 t0 B0 m0 d0] ?_
    refine xz (xe (sx_next (sx_ret ?_)))
    refine sx_done (v:=.int .i64 (p - q).num.sign) (by kernel_rfl) (fun w' hE hΦ=>?_)
    exact ⟨rfl,hE⟩
   ·refine xd 200 [vR4 s1 A1 l1 c1 t1 B1 m1 d1] 17 (fun _:Unit=>.int .i64 0) _ (fun w hE hΦ=>(QSign_any _ _ _ hΦ.1.1.2).mono (fun _ _ h=>post_val h (by rw [hs29]))) (fun xx=>?_)
    refine xf 2 [(2, .p 2 0),(3, .p 3 0),(4, .v (.int .i64 0)),(19, .v (.bool true))] [bR4 3 116 s1 A1 l1 c1 t1 B1 m1 d1,bR4 2 116 s0 A0 l0 c0 t0 B0 m0 d0] ?_
    refine xz (xe (sx_next (xa (sx_seq (sx_region (xr 4 [(2, .p 2 0),(3, .p 3 0),(4, .v (.int .i64 0)),eI2 21 s0 A0 l0 c0,eI2 23 s1 A1 l1 c1] [bR4 3 116 s1 A1 l1 c1 t1 B1 m1 d1,bR4 2 116 s0 A0 l0 c0 t0 B0 m0 d0] ?_))))))
    refine xc 174 [vI2 s0 A0 l0 c0,vI2 s1 A1 l1 c1] 24 (fun _:Unit=>.int .i64 (p - q).num.sign) _ (fun w hE hΦ=>(Compare_any _ _ ((p).num) ((q).num) _ hΦ.1.1.1.1.num hΦ.1.1.1.2.num (fit S1 (by decide)) (fit S2 (by decide))).mono (fun _ _ h=>post_val h (by rw [cmp_signs (p:=p) (q:=q) (by rw [hs28,hs29]; decide)]))) (fun xx=>?_)
    refine xr 1 [(2, .p 2 0),(3, .p 3 0),(4, .v (.int .i64 (p - q).num.sign))] [bR4 3 116 s1 A1 l1 c1 t1 B1 m1 d1,bR4 2 116 s0 A0 l0 c0 t0 B0 m0 d0] ?_
    refine xe (sx_next (sx_ret (sx_then_ret ?_)))
    refine sx_done (v:=.int .i64 (p - q).num.sign) (by kernel_rfl) (fun w' hE hΦ=>?_)
    exact ⟨rfl,hE⟩
   ·refine xd 200 [vR4 s1 A1 l1 c1 t1 B1 m1 d1] 17 (fun _:Unit=>.int .i64 1) _ (fun w hE hΦ=>(QSign_any _ _ _ hΦ.1.1.2).mono (fun _ _ h=>post_val h (by rw [hs29]))) (fun xx=>?_)
    refine xf 2 [(2, .p 2 0),(3, .p 3 0),(4, .v (.int .i64 0)),(19, .v (.bool true))] [bR4 3 116 s1 A1 l1 c1 t1 B1 m1 d1,bR4 2 116 s0 A0 l0 c0 t0 B0 m0 d0] ?_
    refine xz (xe (sx_next (xa (sx_seq (sx_region (xr 4 [(2, .p 2 0),(3, .p 3 0),(4, .v (.int .i64 0)),eI2 21 s0 A0 l0 c0,eI2 23 s1 A1 l1 c1] [bR4 3 116 s1 A1 l1 c1 t1 B1 m1 d1,bR4 2 116 s0 A0 l0 c0 t0 B0 m0 d0] ?_))))))
    refine xc 174 [vI2 s0 A0 l0 c0,vI2 s1 A1 l1 c1] 24 (fun _:Unit=>.int .i64 (p - q).num.sign) _ (fun w hE hΦ=>(Compare_any _ _ ((p).num) ((q).num) _ hΦ.1.1.1.1.num hΦ.1.1.1.2.num (fit S1 (by decide)) (fit S2 (by decide))).mono (fun _ _ h=>post_val h (by rw [cmp_signs (p:=p) (q:=q) (by rw [hs28,hs29]; decide)]))) (fun xx=>?_)
    refine xr 1 [(2, .p 2 0),(3, .p 3 0),(4, .v (.int .i64 (p - q).num.sign))] [bR4 3 116 s1 A1 l1 c1 t1 B1 m1 d1,bR4 2 116 s0 A0 l0 c0 t0 B0 m0 d0] ?_
    refine xe (sx_next (sx_ret (sx_then_ret ?_)))
    refine sx_done (v:=.int .i64 (p - q).num.sign) (by kernel_rfl) (fun w' hE hΦ=>?_)
    exact ⟨rfl,hE⟩
  ·refine xd 200 [vR4 s0 A0 l0 c0 t0 B0 m0 d0] 15 (fun _:Unit=>.int .i64 0) _ (fun w hE hΦ=>(QSign_any _ _ _ hΦ.1.1).mono (fun _ _ h=>post_val h (by rw [hs28]))) (fun xx=>?_)
   refine xf 1 [(2, .p 2 0),(3, .p 3 0),(4, .v (.int .i64 0)),(13, .v (.bool false)),(15, .v (.int .i64 0)),eR4 16 s1 A1 l1 c1 t1 B1 m1 d1] [bR4 3 116 s1 A1 l1 c1 t1 B1 m1 d1,bR4 2 116 s0 A0 l0 c0 t0 B0 m0 d0] ?_
   rcases sign3 (q.num) with ⟨hz34,hs34⟩ | ⟨hz34,hs34⟩ | ⟨hz34,hs34⟩
   ·refine xd 200 [vR4 s1 A1 l1 c1 t1 B1 m1 d1] 17 (fun _:Unit=>.int .i64 (-1)) _ (fun w hE hΦ=>(QSign_any _ _ _ hΦ.1.1.2).mono (fun _ _ h=>post_val h (by rw [hs34]))) (fun xx=>?_)
    refine xf 2 [(2, .p 2 0),(3, .p 3 0),(4, .v (.int .i64 0)),(19, .v (.bool true))] [bR4 3 116 s1 A1 l1 c1 t1 B1 m1 d1,bR4 2 116 s0 A0 l0 c0 t0 B0 m0 d0] ?_
    refine xz (xe (sx_next (xa (sx_seq (sx_region (xr 4 [(2, .p 2 0),(3, .p 3 0),(4, .v (.int .i64 0)),eI2 21 s0 A0 l0 c0,eI2 23 s1 A1 l1 c1] [bR4 3 116 s1 A1 l1 c1 t1 B1 m1 d1,bR4 2 116 s0 A0 l0 c0 t0 B0 m0 d0] ?_))))))
    refine xc 174 [vI2 s0 A0 l0 c0,vI2 s1 A1 l1 c1] 24 (fun _:Unit=>.int .i64 (p - q).num.sign) _ (fun w hE hΦ=>(Compare_any _ _ ((p).num) ((q).num) _ hΦ.1.1.1.1.num hΦ.1.1.1.2.num (fit S1 (by decide)) (fit S2 (by decide))).mono (fun _ _ h=>post_val h (by rw [cmp_signs (p:=p) (q:=q) (by rw [hs28,hs34]; decide)]))) (fun xx=>?_)
    refine xr 1 [(2, .p 2 0),(3, .p 3 0),(4, .v (.int .i64 (p - q).num.sign))] [bR4 3 116 s1 A1 l1 c1 t1 B1 m1 d1,bR4 2 116 s0 A0 l0 c0 t0 B0 m0 d0] ?_
    refine xe (sx_next (sx_ret (sx_then_ret ?_)))
    refine sx_done (v:=.int .i64 (p - q).num.sign) (by kernel_rfl) (fun w' hE hΦ=>?_)
    exact ⟨rfl,hE⟩
   ·refine xd 200 [vR4 s1 A1 l1 c1 t1 B1 m1 d1] 17 (fun _:Unit=>.int .i64 0) _ (fun w hE hΦ=>(QSign_any _ _ _ hΦ.1.1.2).mono (fun _ _ h=>post_val h (by rw [hs34]))) (fun xx=>?_)
    refine xf 2 [(2, .p 2 0),(3, .p 3 0),(4, .v (.int .i64 0)),(19, .v (.bool false))] [bR4 3 116 s1 A1 l1 c1 t1 B1 m1 d1,bR4 2 116 s0 A0 l0 c0 t0 B0 m0 d0] ?_
    refine xz (xe (sx_next (xb (sx_skip (sx_next (sx_seq ?_))))))
    refine sx_draw 12 (by kernel_rfl) (by kernel_rfl) follows_mixed' ?_
    refine xf 3 [(2, .p 2 0),(3, .p 3 0),(4, .v (.int .i64 0)),eI2 26 s0 A0 l0 c0,eR4 27 s1 A1 l1 c1 t1 B1 m1 d1] [bR4 3 116 s1 A1 l1 c1 t1 B1 m1 d1,bR4 2 116 s0 A0 l0 c0 t0 B0 m0 d0] ?_
    refine xd 140 [vR4 s1 A1 l1 c1 t1 B1 m1 d1] 28 shInt _ (fun w hE hΦ=>(Den_any _ (q) _ hΦ.1.1.1.2).mono (fun _ _ h=>post_Int h)) (fun xx=>?_)
    obtain ⟨s35,A35,l35,c35⟩:=xx
    refine xf 0 [(2, .p 2 0),(3, .p 3 0),(4, .v (.int .i64 0)),eI2 26 s0 A0 l0 c0,eI2 28 s35 A35 l35 c35] [bR4 3 116 s1 A1 l1 c1 t1 B1 m1 d1,bR4 2 116 s0 A0 l0 c0 t0 B0 m0 d0] ?_
    refine xd 152 [vI2 s0 A0 l0 c0,vI2 s35 A35 l35 c35] 29 shInt _ (fun w hE hΦ=>(Mul_any _ _ ((p).num) (((q).den:Int)) _ hΦ.1.1.1.1.1.num hΦ.2 (fit S1 (by decide)) (fit S4 (by decide)) (Or.inl (Nat.lt_of_le_of_lt S1 (by decide)))).mono (fun _ _ h=>post_Int h)) (fun xx=>?_)
    obtain ⟨s36,A36,l36,c36⟩:=xx
    refine xf 3 [(4, .v (.int .i64 0)),eI2 29 s36 A36 l36 c36,eI2 31 s1 A1 l1 c1,eR4 32 s0 A0 l0 c0 t0 B0 m0 d0] [bR4 3 116 s1 A1 l1 c1 t1 B1 m1 d1,bR4 2 116 s0 A0 l0 c0 t0 B0 m0 d0] ?_
    refine xd 140 [vR4 s0 A0 l0 c0 t0 B0 m0 d0] 33 shInt _ (fun w hE hΦ=>(Den_any _ (p) _ hΦ.1.1.1.1.1.1).mono (fun _ _ h=>post_Int h)) (fun xx=>?_)
    obtain ⟨s37,A37,l37,c37⟩:=xx
    refine xf 0 [(4, .v (.int .i64 0)),eI2 29 s36 A36 l36 c36,eI2 31 s1 A1 l1 c1,eI2 33 s37 A37 l37 c37] [bR4 3 116 s1 A1 l1 c1 t1 B1 m1 d1,bR4 2 116 s0 A0 l0 c0 t0 B0 m0 d0] ?_
    refine xd 152 [vI2 s1 A1 l1 c1,vI2 s37 A37 l37 c37] 34 shInt _ (fun w hE hΦ=>(Mul_any _ _ ((q).num) (((p).den:Int)) _ hΦ.1.1.1.1.1.1.2.num hΦ.2 (fit S2 (by decide)) (fit S3 (by decide)) (Or.inl (Nat.lt_of_le_of_lt S2 (by decide)))).mono (fun _ _ h=>post_Int h)) (fun xx=>?_)
    obtain ⟨s38,A38,l38,c38⟩:=xx
    refine xf 0 [(4, .v (.int .i64 0)),eI2 29 s36 A36 l36 c36,eI2 34 s38 A38 l38 c38] [bR4 3 116 s1 A1 l1 c1 t1 B1 m1 d1,bR4 2 116 s0 A0 l0 c0 t0 B0 m0 d0] ?_
    refine xd 174 [vI2 s36 A36 l36 c36,vI2 s38 A38 l38 c38] 35 (fun _:Unit=>.int .i64 (p - q).num.sign) _ (fun w hE hΦ=>(Compare_any _ _ (((p).num) * (((q).den:Int))) (((q).num) * (((p).den:Int))) _ hΦ.1.1.2 hΦ.2 (fit (wlm S1 S4) (by decide)) (fit (wlm S2 S3) (by decide))).mono (fun _ _ h=>post_val h (by rw [cmp_cross]))) (fun xx=>?_)
    refine xf 1 [(4, .v (.int .i64 (p - q).num.sign))] [bR4 3 116 s1 A1 l1 c1 t1 B1 m1 d1,bR4 2 116 s0 A0 l0 c0 t0 B0 m0 d0] ?_
    refine xz (xe (sx_next (sx_ret ?_)))
    refine sx_done (v:=.int .i64 (p - q).num.sign) (by kernel_rfl) (fun w' hE hΦ=>?_)
    exact ⟨rfl,hE⟩
   ·refine xd 200 [vR4 s1 A1 l1 c1 t1 B1 m1 d1] 17 (fun _:Unit=>.int .i64 1) _ (fun w hE hΦ=>(QSign_any _ _ _ hΦ.1.1.2).mono (fun _ _ h=>post_val h (by rw [hs34]))) (fun xx=>?_)
    refine xf 2 [(2, .p 2 0),(3, .p 3 0),(4, .v (.int .i64 0)),(19, .v (.bool true))] [bR4 3 116 s1 A1 l1 c1 t1 B1 m1 d1,bR4 2 116 s0 A0 l0 c0 t0 B0 m0 d0] ?_
    refine xz (xe (sx_next (xa (sx_seq (sx_region (xr 4 [(2, .p 2 0),(3, .p 3 0),(4, .v (.int .i64 0)),eI2 21 s0 A0 l0 c0,eI2 23 s1 A1 l1 c1] [bR4 3 116 s1 A1 l1 c1 t1 B1 m1 d1,bR4 2 116 s0 A0 l0 c0 t0 B0 m0 d0] ?_))))))
    refine xc 174 [vI2 s0 A0 l0 c0,vI2 s1 A1 l1 c1] 24 (fun _:Unit=>.int .i64 (p - q).num.sign) _ (fun w hE hΦ=>(Compare_any _ _ ((p).num) ((q).num) _ hΦ.1.1.1.1.num hΦ.1.1.1.2.num (fit S1 (by decide)) (fit S2 (by decide))).mono (fun _ _ h=>post_val h (by rw [cmp_signs (p:=p) (q:=q) (by rw [hs28,hs34]; decide)]))) (fun xx=>?_)
    refine xr 1 [(2, .p 2 0),(3, .p 3 0),(4, .v (.int .i64 (p - q).num.sign))] [bR4 3 116 s1 A1 l1 c1 t1 B1 m1 d1,bR4 2 116 s0 A0 l0 c0 t0 B0 m0 d0] ?_
    refine xe (sx_next (sx_ret (sx_then_ret ?_)))
    refine sx_done (v:=.int .i64 (p - q).num.sign) (by kernel_rfl) (fun w' hE hΦ=>?_)
    exact ⟨rfl,hE⟩
  ·refine xd 200 [vR4 s0 A0 l0 c0 t0 B0 m0 d0] 15 (fun _:Unit=>.int .i64 1) _ (fun w hE hΦ=>(QSign_any _ _ _ hΦ.1.1).mono (fun _ _ h=>post_val h (by rw [hs28]))) (fun xx=>?_)
   refine xf 1 [(2, .p 2 0),(3, .p 3 0),(4, .v (.int .i64 0)),(13, .v (.bool false)),(15, .v (.int .i64 1)),eR4 16 s1 A1 l1 c1 t1 B1 m1 d1] [bR4 3 116 s1 A1 l1 c1 t1 B1 m1 d1,bR4 2 116 s0 A0 l0 c0 t0 B0 m0 d0] ?_
   rcases sign3 (q.num) with ⟨hz39,hs39⟩ | ⟨hz39,hs39⟩ | ⟨hz39,hs39⟩
   ·refine xd 200 [vR4 s1 A1 l1 c1 t1 B1 m1 d1] 17 (fun _:Unit=>.int .i64 (-1)) _ (fun w hE hΦ=>(QSign_any _ _ _ hΦ.1.1.2).mono (fun _ _ h=>post_val h (by rw [hs39]))) (fun xx=>?_)
    refine xf 2 [(2, .p 2 0),(3, .p 3 0),(4, .v (.int .i64 0)),(19, .v (.bool true))] [bR4 3 116 s1 A1 l1 c1 t1 B1 m1 d1,bR4 2 116 s0 A0 l0 c0 t0 B0 m0 d0] ?_
    refine xz (xe (sx_next (xa (sx_seq (sx_region (xr 4 [(2, .p 2 0),(3, .p 3 0),(4, .v (.int .i64 0)),eI2 21 s0 A0 l0 c0,eI2 23 s1 A1 l1 c1] [bR4 3 116 s1 A1 l1 c1 t1 B1 m1 d1,bR4 2 116 s0 A0 l0 c0 t0 B0 m0 d0] ?_))))))
    refine xc 174 [vI2 s0 A0 l0 c0,vI2 s1 A1 l1 c1] 24 (fun _:Unit=>.int .i64 (p - q).num.sign) _ (fun w hE hΦ=>(Compare_any _ _ ((p).num) ((q).num) _ hΦ.1.1.1.1.num hΦ.1.1.1.2.num (fit S1 (by decide)) (fit S2 (by decide))).mono (fun _ _ h=>post_val h (by rw [cmp_signs (p:=p) (q:=q) (by rw [hs28,hs39]; decide)]))) (fun xx=>?_)
    refine xr 1 [(2, .p 2 0),(3, .p 3 0),(4, .v (.int .i64 (p - q).num.sign))] [bR4 3 116 s1 A1 l1 c1 t1 B1 m1 d1,bR4 2 116 s0 A0 l0 c0 t0 B0 m0 d0] ?_
    refine xe (sx_next (sx_ret (sx_then_ret ?_)))
    refine sx_done (v:=.int .i64 (p - q).num.sign) (by kernel_rfl) (fun w' hE hΦ=>?_)
    exact ⟨rfl,hE⟩
   ·refine xd 200 [vR4 s1 A1 l1 c1 t1 B1 m1 d1] 17 (fun _:Unit=>.int .i64 0) _ (fun w hE hΦ=>(QSign_any _ _ _ hΦ.1.1.2).mono (fun _ _ h=>post_val h (by rw [hs39]))) (fun xx=>?_)
    refine xf 2 [(2, .p 2 0),(3, .p 3 0),(4, .v (.int .i64 0)),(19, .v (.bool true))] [bR4 3 116 s1 A1 l1 c1 t1 B1 m1 d1,bR4 2 116 s0 A0 l0 c0 t0 B0 m0 d0] ?_
    refine xz (xe (sx_next (xa (sx_seq (sx_region (xr 4 [(2, .p 2 0),(3, .p 3 0),(4, .v (.int .i64 0)),eI2 21 s0 A0 l0 c0,eI2 23 s1 A1 l1 c1] [bR4 3 116 s1 A1 l1 c1 t1 B1 m1 d1,bR4 2 116 s0 A0 l0 c0 t0 B0 m0 d0] ?_))))))
    refine xc 174 [vI2 s0 A0 l0 c0,vI2 s1 A1 l1 c1] 24 (fun _:Unit=>.int .i64 (p - q).num.sign) _ (fun w hE hΦ=>(Compare_any _ _ ((p).num) ((q).num) _ hΦ.1.1.1.1.num hΦ.1.1.1.2.num (fit S1 (by decide)) (fit S2 (by decide))).mono (fun _ _ h=>post_val h (by rw [cmp_signs (p:=p) (q:=q) (by rw [hs28,hs39]; decide)]))) (fun xx=>?_)
    refine xr 1 [(2, .p 2 0),(3, .p 3 0),(4, .v (.int .i64 (p - q).num.sign))] [bR4 3 116 s1 A1 l1 c1 t1 B1 m1 d1,bR4 2 116 s0 A0 l0 c0 t0 B0 m0 d0] ?_
    refine xe (sx_next (sx_ret (sx_then_ret ?_)))
    refine sx_done (v:=.int .i64 (p - q).num.sign) (by kernel_rfl) (fun w' hE hΦ=>?_)
    exact ⟨rfl,hE⟩
   ·refine xd 200 [vR4 s1 A1 l1 c1 t1 B1 m1 d1] 17 (fun _:Unit=>.int .i64 1) _ (fun w hE hΦ=>(QSign_any _ _ _ hΦ.1.1.2).mono (fun _ _ h=>post_val h (by rw [hs39]))) (fun xx=>?_)
    refine xf 2 [(2, .p 2 0),(3, .p 3 0),(4, .v (.int .i64 0)),(19, .v (.bool false))] [bR4 3 116 s1 A1 l1 c1 t1 B1 m1 d1,bR4 2 116 s0 A0 l0 c0 t0 B0 m0 d0] ?_
    refine xz (xe (sx_next (xb (sx_skip (sx_next (sx_seq ?_))))))
    refine sx_draw 12 (by kernel_rfl) (by kernel_rfl) follows_mixed' ?_
    refine xf 3 [(2, .p 2 0),(3, .p 3 0),(4, .v (.int .i64 0)),eI2 26 s0 A0 l0 c0,eR4 27 s1 A1 l1 c1 t1 B1 m1 d1] [bR4 3 116 s1 A1 l1 c1 t1 B1 m1 d1,bR4 2 116 s0 A0 l0 c0 t0 B0 m0 d0] ?_
    refine xd 140 [vR4 s1 A1 l1 c1 t1 B1 m1 d1] 28 shInt _ (fun w hE hΦ=>(Den_any _ (q) _ hΦ.1.1.1.2).mono (fun _ _ h=>post_Int h)) (fun xx=>?_)
    obtain ⟨s40,A40,l40,c40⟩:=xx
    refine xf 0 [(2, .p 2 0),(3, .p 3 0),(4, .v (.int .i64 0)),eI2 26 s0 A0 l0 c0,eI2 28 s40 A40 l40 c40] [bR4 3 116 s1 A1 l1 c1 t1 B1 m1 d1,bR4 2 116 s0 A0 l0 c0 t0 B0 m0 d0] ?_
    refine xd 152 [vI2 s0 A0 l0 c0,vI2 s40 A40 l40 c40] 29 shInt _ (fun w hE hΦ=>(Mul_any _ _ ((p).num) (((q).den:Int)) _ hΦ.1.1.1.1.1.num hΦ.2 (fit S1 (by decide)) (fit S4 (by decide)) (Or.inl (Nat.lt_of_le_of_lt S1 (by decide)))).mono (fun _ _ h=>post_Int h)) (fun xx=>?_)
    obtain ⟨s41,A41,l41,c41⟩:=xx
    refine xf 3 [(4, .v (.int .i64 0)),eI2 29 s41 A41 l41 c41,eI2 31 s1 A1 l1 c1,eR4 32 s0 A0 l0 c0 t0 B0 m0 d0] [bR4 3 116 s1 A1 l1 c1 t1 B1 m1 d1,bR4 2 116 s0 A0 l0 c0 t0 B0 m0 d0] ?_
    refine xd 140 [vR4 s0 A0 l0 c0 t0 B0 m0 d0] 33 shInt _ (fun w hE hΦ=>(Den_any _ (p) _ hΦ.1.1.1.1.1.1).mono (fun _ _ h=>post_Int h)) (fun xx=>?_)
    obtain ⟨s42,A42,l42,c42⟩:=xx
    refine xf 0 [(4, .v (.int .i64 0)),eI2 29 s41 A41 l41 c41,eI2 31 s1 A1 l1 c1,eI2 33 s42 A42 l42 c42] [bR4 3 116 s1 A1 l1 c1 t1 B1 m1 d1,bR4 2 116 s0 A0 l0 c0 t0 B0 m0 d0] ?_
    refine xd 152 [vI2 s1 A1 l1 c1,vI2 s42 A42 l42 c42] 34 shInt _ (fun w hE hΦ=>(Mul_any _ _ ((q).num) (((p).den:Int)) _ hΦ.1.1.1.1.1.1.2.num hΦ.2 (fit S2 (by decide)) (fit S3 (by decide)) (Or.inl (Nat.lt_of_le_of_lt S2 (by decide)))).mono (fun _ _ h=>post_Int h)) (fun xx=>?_)
    obtain ⟨s43,A43,l43,c43⟩:=xx
    refine xf 0 [(4, .v (.int .i64 0)),eI2 29 s41 A41 l41 c41,eI2 34 s43 A43 l43 c43] [bR4 3 116 s1 A1 l1 c1 t1 B1 m1 d1,bR4 2 116 s0 A0 l0 c0 t0 B0 m0 d0] ?_
    refine xd 174 [vI2 s41 A41 l41 c41,vI2 s43 A43 l43 c43] 35 (fun _:Unit=>.int .i64 (p - q).num.sign) _ (fun w hE hΦ=>(Compare_any _ _ (((p).num) * (((q).den:Int))) (((q).num) * (((p).den:Int))) _ hΦ.1.1.2 hΦ.2 (fit (wlm S1 S4) (by decide)) (fit (wlm S2 S3) (by decide))).mono (fun _ _ h=>post_val h (by rw [cmp_cross]))) (fun xx=>?_)
    refine xf 1 [(4, .v (.int .i64 (p - q).num.sign))] [bR4 3 116 s1 A1 l1 c1 t1 B1 m1 d1,bR4 2 116 s0 A0 l0 c0 t0 B0 m0 d0] ?_
    refine xz (xe (sx_next (sx_ret ?_)))
    refine sx_done (v:=.int .i64 (p - q).num.sign) (by kernel_rfl) (fun w' hE hΦ=>?_)
    exact ⟨rfl,hE⟩
end Go.Proofs.YtbgkofgoeoiciaaGreatDoor

namespace Go.Proofs.YtbgkofgoeoiciaaGreatDoor
open Go.RowKit
theorem nDigits_le:∀ (k u:Nat),1≤k→u < 10 ^ k→Lib.nDigits u≤k
 | 0,_,h,_=>by omega
 | k + 1,u,_,h=>by
   by_cases h0:u < 10
   ·rw [Lib.nDigits_small h0]; omega
   ·rw [Lib.nDigits_big h0]
    have hk:1≤k:=by
     rcases Nat.eq_zero_or_pos k with e | e
     ·subst e; simp at h; omega
     ·exact e
    have h1:u / 10 < 10 ^ k:=by
     rw [Nat.pow_succ] at h
     exact Nat.div_lt_of_lt_mul (by rw [Nat.mul_comm]; exact h)
    have:=nDigits_le k (u / 10) hk h1
    omega
theorem itoa_le {z:Int} {k:Nat} (hk:1≤k) (h:z.natAbs < 10 ^ k):(Lib.itoa z).length≤k + 1:=by
 have h1:=nDigits_le k z.natAbs hk h
 have e:0≤z→z.toNat=z.natAbs:=fun h=>by omega
 unfold Lib.itoa
 split
 ·simp only [List.length_cons,Lib.decDigits_length]
  omega
 ·rename_i hz
  rw [Lib.decDigits_length]
  first
   | omega
   | (rw [e (by omega)]; omega)
theorem pow_wl {n k:Nat} (h:wl n≤k):n < 10 ^ (20 * k):=by
 have h1:n < W64 ^ k:=wl_le_iff.1 h
 have h2:W64 ^ k≤(10 ^ 20) ^ k:=Nat.pow_le_pow_left (by rw [W64_eq]; decide) k
 rw [← Nat.pow_mul] at h2
 omega
theorem RString_any (a:Value) (q:Rat) (w:World) (hg:Glob w) (ha:RatIs w a q) (hn:PrtOk q.num.natAbs) (hd:PrtOk q.den):Calls Tryz.prog 107 #[a] w (RetV w (.string ⟨(ratText q).toArray⟩)):=by
 by_cases h:q.den=1
 ·have:=RString_whole a q w hg ha h hn
  unfold ratText
  rw [if_pos h]; exact this
 ·refine RString_frac a q w hg ha hn hd h ?_
  unfold PrtOk at hn
  have h1:=pow_wl (show wl q.num.natAbs≤128 by omega)
  have h2:=itoa_le (z:=q.num) (k:=20 * 128) (by decide) h1
  omega
theorem valF_none {l:List UInt8} (h:readF l=none):valF l=0:=by unfold valF; rw [h]; rfl
theorem valF_some {l:List UInt8} {q:Rat} (h:readF l=some q):valF l=q:=by unfold valF; rw [h]; rfl
theorem valF_fits {l:List UInt8} (hl:l.length≤570):QFits (valF l) 30:=by
 cases h:readF l with
 | none=>rw [valF_none h]; exact ⟨by rw [show (0:Rat).num.natAbs=0 from rfl,wl_zero]; omega,Nat.le_trans (wl_one.2 (by rw [W64_eq]; decide)) (by decide)⟩
 | some q=>rw [valF_some h]; exact readF_small h hl
theorem QFits.up {q:Rat} {k m:Nat} (h:QFits q k) (hk:k≤m):QFits q m:=⟨Nat.le_trans h.1 hk,Nat.le_trans h.2 hk⟩
end Go.Proofs.YtbgkofgoeoiciaaGreatDoor

namespace Go.Proofs.YtbgkofgoeoiciaaGreatDoor
open Go.RowKit Go.Sort
theorem zeros48_room {w wb:World} (h:w.alloc (.cells (Array.replicate 48 (.int .u8 0)) 229)=wb):Room .u8 229 wb w.heap.size 48 (nats []):=by
 subst h
 refine ⟨⟨List.replicate 48 (.int .u8 0),fun v hv=>⟨0,List.eq_of_mem_replicate hv⟩,?_⟩,_,heap_alloc_new w _,by simp⟩
 rw [heap_alloc_new]; rfl
theorem Room.bytes {T:TypeId} {w:World} {b cap:Nat} {l:List UInt8} (h:Room .u8 T w b cap (nats l)):∀ j (hj:j < l.length),w.cell? ((⟨b,0,none⟩:Addr).add j)=some (.int .u8 (l[j].toNat:Int)):=fun j hj=>by
 have:=h.1.cell (i:=j) (by rw [nats_length]; exact hj)
 rw [Lib.add_plain,Nat.zero_add,this]
 simp [nats,hj]
theorem itoa18 {z:Int} (h : -4000000000000000000≤z) (h1:z≤4000000000000000000):(Lib.itoa z).length≤20:=by
 have hn:∀ u:Nat,u≤4000000000000000000→Lib.nDigits u≤19:=fun u hu=>by
  rcases Nat.eq_zero_or_pos u with e | e
  ·subst e; rw [Lib.nDigits_small (by omega)]; omega
  ·have h2:=Lib.lt_pow_nDigits u
   rcases Nat.lt_or_ge 19 (Lib.nDigits u) with hlt | hge
   ·exfalso
    have h3:=Lib.nDigits_unique 19 (10 ^ 19)
    have h4:=(Lib.numDigits_eq u e (by omega))
    have:=h4.2
    have h5:=h4.1
    split at h5
    ·rename_i h6
     have h7:Lib.l10 (Lib.bitLen u)=19:=by omega
     rw [h7] at h6
     omega
    ·omega
   ·exact hge
 unfold Lib.itoa
 split
 ·simp only [List.length_cons,Lib.decDigits_length]
  have:=hn z.natAbs (by omega)
  omega
 ·have e:z.toNat=z.natAbs:=by omega
  rw [Lib.decDigits_length]
  have:=hn z.natAbs (by omega)
  first | omega | (rw [e]; omega)
set_option maxHeartbeats 4000000 in
set_option maxRecDepth 100000 in
theorem formatShort_core (N n':Int) (D M G d':Nat) (w:World) (hg:Glob w) (hM:max N (-N)=(M:Int)) (hN : -4000000000000000000≤N) (hN1:N≤4000000000000000000) (hD:2≤D) (hD1:D≤4000000000000000000) (hG:Nat.gcd M D=G) (hG0:1≤G)
 (q1:N.tdiv (G:Int)=n') (q2:(D:Int).tdiv (G:Int)=(d':Int)) (hn : -4000000000000000000≤n') (hn1:n'≤4000000000000000000) (hd:1≤d') (hd1:d'≤4000000000000000000) (t:List UInt8) (ht:t=if d'=1 then Lib.itoa n' else Lib.itoa n' ++ [47] ++ Lib.itoa (d':Int)) :
 Calls Tryz.prog 134 #[.int .i64 N, .int .i64 (D:Int)] w (RetV w (.string ⟨t.toArray⟩)):=by
 have h1:¬ ((D:Int) < 0):=by omega
 have hMb:M≤4000000000000000000:=by omega
 have h2:((D:Int) != 1)=true:=by simp; omega
 have g0:((G:Int) == 0)=false:=by simp; omega
 have g1:¬ (G:Int)=0:=by omega
 have q3:(D:Int) / (G:Int)=(d':Int):=by rw [← q2,Int.tdiv_eq_ediv_of_nonneg (by omega)]
 have HF:=zh (FormatInt_any n' · · (by omega) (by omega))
 have HG:=zh hg
 have HGc:=zh (gcd64_any M D · (by omega) (by omega))
 rw [hG] at HGc
 by_cases e1:d'=1
 ·have HT2:Hid (t=Lib.itoa n'):=by unfold Hid; rw [ht,if_pos e1]
  generalize Lib.itoa n'=t1 at *
  clear hg hG ht
  go_enter Tryz.func134,Tryz.ntmps134
  go_wp2_with (go_at_call 206; refine (HGc.out _).mono ?_; rintro e w1 ⟨rfl,n,rfl⟩)
  go_region
  go_wp2_with fail
  refine (HF.out _ (HG.out.ext ((Fr.refl _ _).drewN n).drew)).mono ?_
  rintro e w2 ⟨rfl,hF⟩
  have HE:Hid (Ext w w2):=((Fr.refl _ w).drewN n).drew.trans hF
  clear hF
  go_wp2
  go_ret
  exact ⟨by rw [HT2.out]; rfl,HE.out⟩
 ·have e2:((d':Int) == 1)=false:=by simp; omega
  have e3:¬ (d':Int)=1:=by omega
  have HT2:Hid (t=Lib.itoa n' ++ [47] ++ Lib.itoa (d':Int)):=by unfold Hid; rw [ht,if_neg e1]
  have hl1:=itoa18 hn hn1
  have hl2:=itoa18 (z:=(d':Int)) (by omega) (by omega)
  have HA1:=zh (fun b W (hgW:∀ w',Fr (· = b) W w'→Glob w') hB=>AppendInt_room 229 b 48 0 n' [] W rfl hgW (by omega) (by omega) hB (by omega))
  have HA2:=zh (fun b n W l (hnl:l.length=n) (hgW:∀ w',Fr (· = b) W w'→Glob w') hB (h27:n≤27)=>AppendInt_room 229 b 48 n (d':Int) l W hnl hgW (by omega) (by omega) hB (by omega))
  simp only [List.nil_append] at HA1
  generalize Lib.itoa n'=t1 at *
  generalize Lib.itoa (d':Int)=t2 at *
  clear hg hG ht
  go_enter Tryz.func134,Tryz.ntmps134
  go_wp2_with (go_at_call 206; refine (HGc.out _).mono ?_; rintro e w1 ⟨rfl,n,rfl⟩)
  go_region
  have HEr:Hid (Ext w (w.drewN n).drew):=((Fr.refl _ w).drewN n).drew
  generalize (w.drewN n).drew=wr at *
  have hal:Tryz.prog.arrayLen 229=48:=by simp [Program.arrayLen,Tryz.underlying229]
  have hsl:∀ W,(Instr.sliceAt 229 (.pointer (some ⟨wr.heap.size,0,none⟩)) none (some (.int .i64 0)) none).run Tryz.prog W=.ok (.slice (some ⟨wr.heap.size,0,none⟩) 0 48) W:=fun W=>by
   rw [run_sliceAt_array_h W 229 ⟨wr.heap.size,0,none⟩ (by simp [Program.arrayLen,Program.elem,Tryz.underlying229]) .i64 0 (by omega) (by rw [hal]; omega)]
   go_simp
  go_wp2_with fail
  generalize hwb:World.alloc wr _=wb
  have HR:=zh (zeros48_room hwb)
  have HEb:Hid (Ext wr wb):=hwb ▸ (Fr.refl _ _).alloc _
  have HL:Hid (w.heap.size≤wr.heap.size):=HEr.out.size
  clear hwb hal hsl
  generalize wr.heap.size=g at *
  have HGl:Hid (∀ W,Fr (· = g) wb W→Glob W):=fun W hF=>HG.out.ext (((HEr.out.trans HEb.out).mono (fun _ _ h=>h.elim)).next hF (fun i hi e=>by have:=HL.out; omega))
  refine (HA1.out g wb HGl.out HR.out).mono ?_
  rintro e w3 ⟨rfl,hB3,hF3⟩
  have HB3:=zh hB3
  have HF3:=zh hF3
  obtain ⟨k,hk⟩:∃ k,t1.length=k:=⟨_,rfl⟩
  rw [hk] at hl1 ⊢
  have HK:=zh hk
  clear hB3 hF3 hk
  have HS:Hid (Shows .u8 (w3.alloc (.cells #[.int .u8 47] 5)) (some ⟨w3.heap.size,0,none⟩) (nats [47])):=(Own.new w3 5 .u8 [47] []).shows0
  go_wp2_with (at_builtin; refine Hid.out ?_)
  refine zh ?_
  refine wpList_append_room rfl _ _ _ rfl _ 229 .u8 1 Tryz.underlying223 info8 g 48 k 1 1 (some ⟨w3.heap.size,0,none⟩) rfl rfl (nats t1) (nats [47]) (by rw [nats_length]; exact HK.out) rfl (by simp [nats]) (HB3.out.ext ((Fr.refl _ _).alloc _)) HS.out (by omega) ?_
  intro w4 hB4 hF4
  have HF4:Hid (Fr (· = g) wb w4):=HF3.out.trans (((Fr.refl _ _).alloc _).trans hF4)
  have HB4:Hid (Room .u8 229 w4 g 48 (nats (t1 ++ [47]))):=by unfold Hid; rw [nats_append]; exact hB4
  clear hB4 hF4
  go_wp2_with fail
  refine (HA2.out g (k + 1) w4 (t1 ++ [47]) (by rw [List.length_append,HK.out]; rfl) (fun W hF=>HGl.out W (HF4.out.trans hF)) HB4.out (by omega)).mono ?_
  rw [← HT2.out]
  rintro e w5 ⟨rfl,hB5,hF5⟩
  have hc:=Room.bytes hB5
  have hcv:=run_convert_bytes_back (P:=Tryz.prog) w5 223 9 5 ⟨g,0,none⟩ 48 t Tryz.underlying223 Tryz.underlying5 Tryz.underlying9 hc
  have HE:Hid (Ext w w5):=((HEr.out.trans HEb.out)).next (HF4.out.trans hF5) (fun i hi e=>by have:=HL.out; omega)
  clear hB5 hF5 hc
  go_wp2
  go_ret
  exact ⟨rfl,HE.out⟩
set_option maxHeartbeats 4000000 in
set_option maxRecDepth 100000 in
theorem formatShort_coreN (N n':Int) (D M G d':Nat) (w:World) (hg:Glob w) (hM:max N (-N)=(M:Int)) (hN : -4000000000000000000≤N) (hN1:N≤4000000000000000000) (hD:2≤D) (hD1:D≤4000000000000000000) (hG:Nat.gcd M D=G) (hG0:1≤G)
 (q1:N.tdiv (G:Int)=n') (q2:(D:Int).tdiv (G:Int)=(d':Int)) (hn : -4000000000000000000≤n') (hn1:n'≤4000000000000000000) (hd:1≤d') (hd1:d'≤4000000000000000000) (t:List UInt8) (ht:t=if d'=1 then Lib.itoa n' else Lib.itoa n' ++ [47] ++ Lib.itoa (d':Int)) :
 Calls Tryz.prog 134 #[.int .i64 (-N), .int .i64 (-(D:Int))] w (RetV w (.string ⟨t.toArray⟩)):=by
 have h1 : -(D:Int) < 0:=by omega
 have hMb:M≤4000000000000000000:=by omega
 have h2:((D:Int) != 1)=true:=by simp; omega
 have g0:((G:Int) == 0)=false:=by simp; omega
 have g1:¬ (G:Int)=0:=by omega
 have q3:(D:Int) / (G:Int)=(d':Int):=by rw [← q2,Int.tdiv_eq_ediv_of_nonneg (by omega)]
 have HF:=zh (FormatInt_any n' · · (by omega) (by omega))
 have HG:=zh hg
 have HGc:=zh (gcd64_any M D · (by omega) (by omega))
 rw [hG] at HGc
 by_cases e1:d'=1
 ·have HT2:Hid (t=Lib.itoa n'):=by unfold Hid; rw [ht,if_pos e1]
  generalize Lib.itoa n'=t1 at *
  clear hg hG ht
  go_enter Tryz.func134,Tryz.ntmps134
  go_wp2_with (go_at_call 206; refine (HGc.out _).mono ?_; rintro e w1 ⟨rfl,n,rfl⟩)
  go_region
  go_wp2_with fail
  refine (HF.out _ (HG.out.ext ((Fr.refl _ _).drewN n).drew)).mono ?_
  rintro e w2 ⟨rfl,hF⟩
  have HE:Hid (Ext w w2):=((Fr.refl _ w).drewN n).drew.trans hF
  clear hF
  go_wp2
  go_ret
  exact ⟨by rw [HT2.out]; rfl,HE.out⟩
 ·have e2:((d':Int) == 1)=false:=by simp; omega
  have e3:¬ (d':Int)=1:=by omega
  have HT2:Hid (t=Lib.itoa n' ++ [47] ++ Lib.itoa (d':Int)):=by unfold Hid; rw [ht,if_neg e1]
  have hl1:=itoa18 hn hn1
  have hl2:=itoa18 (z:=(d':Int)) (by omega) (by omega)
  have HA1:=zh (fun b W (hgW:∀ w',Fr (· = b) W w'→Glob w') hB=>AppendInt_room 229 b 48 0 n' [] W rfl hgW (by omega) (by omega) hB (by omega))
  have HA2:=zh (fun b n W l (hnl:l.length=n) (hgW:∀ w',Fr (· = b) W w'→Glob w') hB (h27:n≤27)=>AppendInt_room 229 b 48 n (d':Int) l W hnl hgW (by omega) (by omega) hB (by omega))
  simp only [List.nil_append] at HA1
  generalize Lib.itoa n'=t1 at *
  generalize Lib.itoa (d':Int)=t2 at *
  clear hg hG ht
  go_enter Tryz.func134,Tryz.ntmps134
  go_wp2_with (go_at_call 206; refine (HGc.out _).mono ?_; rintro e w1 ⟨rfl,n,rfl⟩)
  go_region
  have HEr:Hid (Ext w (w.drewN n).drew):=((Fr.refl _ w).drewN n).drew
  generalize (w.drewN n).drew=wr at *
  have hal:Tryz.prog.arrayLen 229=48:=by simp [Program.arrayLen,Tryz.underlying229]
  have hsl:∀ W,(Instr.sliceAt 229 (.pointer (some ⟨wr.heap.size,0,none⟩)) none (some (.int .i64 0)) none).run Tryz.prog W=.ok (.slice (some ⟨wr.heap.size,0,none⟩) 0 48) W:=fun W=>by
   rw [run_sliceAt_array_h W 229 ⟨wr.heap.size,0,none⟩ (by simp [Program.arrayLen,Program.elem,Tryz.underlying229]) .i64 0 (by omega) (by rw [hal]; omega)]
   go_simp
  go_wp2_with fail
  generalize hwb:World.alloc wr _=wb
  have HR:=zh (zeros48_room hwb)
  have HEb:Hid (Ext wr wb):=hwb ▸ (Fr.refl _ _).alloc _
  have HL:Hid (w.heap.size≤wr.heap.size):=HEr.out.size
  clear hwb hal hsl
  generalize wr.heap.size=g at *
  have HGl:Hid (∀ W,Fr (· = g) wb W→Glob W):=fun W hF=>HG.out.ext (((HEr.out.trans HEb.out).mono (fun _ _ h=>h.elim)).next hF (fun i hi e=>by have:=HL.out; omega))
  refine (HA1.out g wb HGl.out HR.out).mono ?_
  rintro e w3 ⟨rfl,hB3,hF3⟩
  have HB3:=zh hB3
  have HF3:=zh hF3
  obtain ⟨k,hk⟩:∃ k,t1.length=k:=⟨_,rfl⟩
  rw [hk] at hl1 ⊢
  have HK:=zh hk
  clear hB3 hF3 hk
  have HS:Hid (Shows .u8 (w3.alloc (.cells #[.int .u8 47] 5)) (some ⟨w3.heap.size,0,none⟩) (nats [47])):=(Own.new w3 5 .u8 [47] []).shows0
  go_wp2_with (at_builtin; refine Hid.out ?_)
  refine zh ?_
  refine wpList_append_room rfl _ _ _ rfl _ 229 .u8 1 Tryz.underlying223 info8 g 48 k 1 1 (some ⟨w3.heap.size,0,none⟩) rfl rfl (nats t1) (nats [47]) (by rw [nats_length]; exact HK.out) rfl (by simp [nats]) (HB3.out.ext ((Fr.refl _ _).alloc _)) HS.out (by omega) ?_
  intro w4 hB4 hF4
  have HF4:Hid (Fr (· = g) wb w4):=HF3.out.trans (((Fr.refl _ _).alloc _).trans hF4)
  have HB4:Hid (Room .u8 229 w4 g 48 (nats (t1 ++ [47]))):=by unfold Hid; rw [nats_append]; exact hB4
  clear hB4 hF4
  go_wp2_with fail
  refine (HA2.out g (k + 1) w4 (t1 ++ [47]) (by rw [List.length_append,HK.out]; rfl) (fun W hF=>HGl.out W (HF4.out.trans hF)) HB4.out (by omega)).mono ?_
  rw [← HT2.out]
  rintro e w5 ⟨rfl,hB5,hF5⟩
  have hc:=Room.bytes hB5
  have hcv:=run_convert_bytes_back (P:=Tryz.prog) w5 223 9 5 ⟨g,0,none⟩ 48 t Tryz.underlying223 Tryz.underlying5 Tryz.underlying9 hc
  have HE:Hid (Ext w w5):=((HEr.out.trans HEb.out)).next (HF4.out.trans hF5) (fun i hi e=>by have:=HL.out; omega)
  clear hB5 hF5 hc
  go_wp2
  go_ret
  exact ⟨rfl,HE.out⟩
set_option maxHeartbeats 1000000 in
theorem formatShort_oneN (n:Int) (w:World) (hg:Glob w) (h0 : -9223372036854775807≤n) (h1:n≤9223372036854775807) :
 Calls Tryz.prog 134 #[.int .i64 (-n), .int .i64 (-1)] w (RetV w (.string ⟨(Lib.itoa n).toArray⟩)):=by
 have H:=zh (FormatInt_any n w hg (by omega) h1)
 generalize Lib.itoa n=t at *
 clear hg
 go_enter Tryz.func134,Tryz.ntmps134
 go_wp2_with fail
 refine H.out.mono ?_
 rintro e w1 ⟨rfl,hF⟩
 have HF:=zh hF
 clear hF
 go_wp2
 go_ret
 exact ⟨rfl,HF.out⟩
theorem mkRat_parts' (N:Int) (D:Nat) (hD:D≠0):(mkRat N D).num=N.tdiv ((Nat.gcd N.natAbs D:Nat):Int)∧(mkRat N D).den=D / Nat.gcd N.natAbs D:=by
 rw [← Rat.normalize_eq_mkRat hD,Rat.normalize_eq]
 exact ⟨(Int.tdiv_eq_ediv_of_dvd (Int.ofNat_dvd_left.2 (Nat.gcd_dvd_left _ _))).symm,rfl⟩
theorem formatShort_parts (N:Int) (D:Nat) (q:Rat) (hN:N.natAbs≤4000000000000000000) (hD:2≤D) (hD1:D≤4000000000000000000) (hq:mkRat N D=q) :
 ∃ (n':Int) (M G d':Nat),max N (-N)=(M:Int)∧Nat.gcd M D=G∧1≤G∧N.tdiv (G:Int)=n'∧(D:Int).tdiv (G:Int)=(d':Int) ∧ -4000000000000000000≤n'∧n'≤4000000000000000000∧1≤d'∧d'≤4000000000000000000∧ratText q=if d'=1 then Lib.itoa n' else Lib.itoa n' ++ [47] ++ Lib.itoa (d':Int):=by
 obtain ⟨e1,e2⟩:=mkRat_parts' N D (by omega)
 have hG:1≤Nat.gcd N.natAbs D:=Nat.gcd_pos_of_pos_right _ (by omega)
 have hd:1≤D / Nat.gcd N.natAbs D:=Nat.div_pos (Nat.le_of_dvd (by omega) (Nat.gcd_dvd_right _ _)) hG
 have hd2:D / Nat.gcd N.natAbs D≤D:=Nat.div_le_self _ _
 have hn:(N.tdiv ((Nat.gcd N.natAbs D:Nat):Int)).natAbs≤N.natAbs:=by rw [Int.natAbs_tdiv]; exact Nat.div_le_self _ _
 refine ⟨_,N.natAbs,_,D / Nat.gcd N.natAbs D,by omega,rfl,hG,rfl,?_,by omega,by omega,hd,by omega,?_⟩
 ·rw [Int.tdiv_eq_ediv_of_nonneg (by omega)]; rfl
 ·rw [← hq]
  unfold ratText
  rw [e1,e2]
theorem formatShort_any (N D:Int) (q:Rat) (w:World) (hg:Glob w) (hN:N.natAbs≤4000000000000000000) (hD:D.natAbs≤4000000000000000000) (h0:D≠0) (hq:Rat.divInt N D=q) :
 Calls Tryz.prog 134 #[.int .i64 N, .int .i64 D] w (RetV w (.string ⟨(ratText q).toArray⟩)):=by
 rcases (by omega:0 < D∨D < 0) with hp | hp
 ·obtain ⟨d,rfl⟩:∃ d:Nat,D=(d:Int):=⟨D.natAbs,by omega⟩
  have hm:mkRat N d=q:=by rw [← hq]; rfl
  by_cases h1:d=1
  ·subst h1
   have e:ratText q=Lib.itoa N:=by
    rw [← hm]
    unfold ratText
    have:=mkRat_parts' N 1 (by decide)
    simp only [Nat.gcd_one_right] at this
    rw [this.1,this.2]
    simp
   rw [e]
   exact formatShort_one N w hg (by omega) (by omega)
  ·obtain ⟨n',M,G,d',k1,k2,k3,k4,k5,k6,k7,k8,k9,k10⟩:=formatShort_parts N d q hN (by omega) (by omega) hm
   exact formatShort_core N n' d M G d' w hg k1 (by omega) (by omega) (by omega) (by omega) k2 k3 k4 k5 k6 k7 k8 k9 _ k10
 ·obtain ⟨d,rfl⟩:∃ d:Nat,D = -(d:Int):=⟨D.natAbs,by omega⟩
  obtain ⟨m,rfl⟩:∃ m:Int,N = -m:=⟨-N,by omega⟩
  have hm:mkRat m d=q:=by rw [← hq,Rat.neg_divInt_neg]; rfl
  by_cases h1:d=1
  ·subst h1
   have e:ratText q=Lib.itoa m:=by
    rw [← hm]
    unfold ratText
    have:=mkRat_parts' m 1 (by decide)
    simp only [Nat.gcd_one_right] at this
    rw [this.1,this.2]
    simp
   rw [e]
   exact formatShort_oneN m w hg (by omega) (by omega)
  ·obtain ⟨n',M,G,d',k1,k2,k3,k4,k5,k6,k7,k8,k9,k10⟩:=formatShort_parts m d q (by omega) (by omega) (by omega) hm
   exact formatShort_coreN m n' d M G d' w hg k1 (by omega) (by omega) (by omega) (by omega) k2 k3 k4 k5 k6 k7 k8 k9 _ k10
end Go.Proofs.YtbgkofgoeoiciaaGreatDoor

namespace Go.Proofs.YtbgkofgoeoiciaaGreatDoor
open Go.RowKit
set_option maxHeartbeats 1000000 in
theorem compareInts_any (a b:Int) (w:World):Calls Tryz.prog 163 #[.int .i64 a, .int .i64 b] w fun e w'=>e=.returned (.int .i64 (cmpI a b))∧w=w':=by
 rcases Int.lt_trichotomy a b with h | h | h
 ·have HC:Hid (cmpI a b = -1):=by unfold Hid cmpI; rw [if_pos h]
  go_enter Tryz.func163,Tryz.ntmps163
  go_wp2
  go_ret
  exact ⟨by rw [HC.out]; rfl,rfl⟩
 ·subst h
  have HC:Hid (cmpI a a=0):=by unfold Hid cmpI; rw [if_neg (by omega),if_neg (by omega)]
  go_enter Tryz.func163,Tryz.ntmps163
  go_wp2
  go_ret
  exact ⟨by rw [HC.out]; rfl,rfl⟩
 ·have HC:Hid (cmpI a b=1):=by unfold Hid cmpI; rw [if_neg (by omega),if_pos h]
  have h':¬ a < b:=by omega
  go_enter Tryz.func163,Tryz.ntmps163
  go_wp2
  go_ret
  exact ⟨by rw [HC.out]; rfl,rfl⟩
end Go.Proofs.YtbgkofgoeoiciaaGreatDoor

namespace Go.Proofs.YtbgkofgoeoiciaaGreatDoor
open Go.RowKit
abbrev Sh5:=Int × Int × Int × Int × Bool
def shTwo (x:Sh5):Value:=.tuple #[.agg #[.int .i64 x.1, .int .i64 x.2.1], .agg #[.int .i64 x.2.2.1, .int .i64 x.2.2.2.1], .bool x.2.2.2.2]
theorem post_Two {w w':World} {e:Ending} {l l':List UInt8} (h:RetTwoShort w l l' e w'):PostC shTwo (fun x _=>x.2.2.2.2=true→ShortIs l x.1 x.2.1 true∧ShortIs l' x.2.2.1 x.2.2.2.1 true) w e w':=by
 obtain ⟨a,b,a',b',ok,rfl,hS,hE⟩:=h
 exact ⟨(a,b,a',b',ok),rfl,hE,BoxN.pure hS⟩
theorem short_two {l l':List UInt8} {a b a' b':Int} (h:ShortIs l a b true∧ShortIs l' a' b' true) :
 ∃ p q:Rat,valF l=p∧valF l'=q∧p.num=a∧(p.den:Int)=b∧q.num=a'∧(q.den:Int)=b' ∧ -1000000000 < a∧a < 1000000000∧1≤b∧b < 1000000000 ∧ -1000000000 < a'∧a' < 1000000000∧1≤b'∧b' < 1000000000:=by
 obtain ⟨p,h1,h2,h3,h4,h5,h6,h7⟩:=h.1.ok
 obtain ⟨q,k1,k2,k3,k4,k5,k6,k7⟩:=h.2.ok
 exact ⟨p,q,valF_some h1,valF_some k1,h2,h3,k2,k3,h4,h5,h6,h7,k4,k5,k6,k7⟩
theorem mul_bound {a b:Int} (h1 : -1000000000 < a) (h2:a < 1000000000) (h3 : -1000000000 < b) (h4:b < 1000000000) : -1000000000000000000≤a * b∧a * b≤1000000000000000000:=by
 have ha:a.natAbs≤1000000000:=by omega
 have hb:b.natAbs≤1000000000:=by omega
 have h:=Nat.mul_le_mul ha hb
 rw [← Int.natAbs_mul] at h
 omega
theorem wrap_id {x:Int} (h1 : -9223372036854775808≤x) (h2:x≤9223372036854775807):IntKind.i64.wrap x=x:=by
 rw [IntKind.wrap_i64]
 omega
theorem wMul {l l':List UInt8} {a b a' b':Int} (h:ShortIs l a b true∧ShortIs l' a' b' true) :
 ∃ N D:Int,IntKind.i64.wrap (a * a')=N∧IntKind.i64.wrap (b * b')=D∧1≤D∧N.natAbs≤4000000000000000000∧D.natAbs≤4000000000000000000∧Rat.divInt N D=valF l * valF l':=by
 obtain ⟨p,q,rfl,rfl,e1,e2,e3,e4,b1,b2,b3,b4,b5,b6,b7,b8⟩:=short_two h
 have m1:=mul_bound b1 b2 b5 b6
 have m3:=mul_bound (show -1000000000 < b by omega) b4 (show -1000000000 < b' by omega) b8
 have m4:1≤b * b':=Int.mul_pos (by omega) (by omega)
 refine ⟨_,_,rfl,rfl,?_⟩
 rw [wrap_id (x:=a * a') (by omega) (by omega),wrap_id (x:=b * b') (by omega) (by omega)]
 refine ⟨m4,by omega,by omega,?_⟩
 rw [← e1,← e2,← e3,← e4]
 exact rat_mul_frac _ _
theorem wCmp {l l':List UInt8} {a b a' b':Int} (h:ShortIs l a b true∧ShortIs l' a' b' true):cmpI (IntKind.i64.wrap (a * b')) (IntKind.i64.wrap (a' * b))=(valF l - valF l').num.sign:=by
 obtain ⟨p,q,rfl,rfl,e1,e2,e3,e4,b1,b2,b3,b4,b5,b6,b7,b8⟩:=short_two h
 have m1:=mul_bound b1 b2 (show -1000000000 < b' by omega) b8
 have m2:=mul_bound b5 b6 (show -1000000000 < b by omega) b4
 rw [wrap_id (x:=a * b') (by omega) (by omega),wrap_id (x:=a' * b) (by omega) (by omega),← e1,← e2,← e3,← e4]
 exact cmp_cross _ _
theorem prt_mul {p q:Rat} (hp:QFits p 30) (hq:QFits q 30):PrtOk (p * q).num.natAbs∧PrtOk (p * q).den:=by
 obtain ⟨k1,k2⟩:=rmul_parts p q
 have h1:=wlm (wlq (y:=((Int.gcd p.num q.den:Nat):Int)) hp.1) (wlq (y:=((Int.gcd q.num p.den:Nat):Int)) hq.1)
 have h2:=wl_mul (p.den / Int.gcd q.num p.den) (q.den / Int.gcd p.num q.den)
 have h3:=wld (m:=Int.gcd q.num p.den) hp.2
 have h4:=wld (m:=Int.gcd p.num q.den) hq.2
 unfold PrtOk
 rw [k1,k2]
 omega
set_option maxRecDepth 100000 in
theorem TMul_any (s t:ByteArray) (w:World) (hg:Glob w) (hs:(bytes s).length≤570) (ht:(bytes t).length≤570) :
 Calls Tryz.prog 52 #[.string s, .string t] w (RetV w (.string ⟨(ratText (valF (bytes s) * valF (bytes t))).toArray⟩)):=by
 have hs8:s.size≤1099511627776:=by rw [bytes_length] at hs; omega
 have ht8:t.size≤1099511627776:=by rw [bytes_length] at ht; omega
 have fa:=valF_fits hs
 have fb:=valF_fits ht
 have hP:=prt_mul fa fb
 refine sx_enter (Φ:=fun w=>Glob w) Tryz.func52 rfl (by kernel_rfl) (fun w' hf=>hg.ext hf) ?_
 refine sx_seq (sx_region (xr 1 [(0, .v (.string s)),(1, .v (.string t)),(4, .v (.string ⟨#[]⟩))] [] ?_))
 refine xe (sx_next (sx_seq (sx_seq (sx_region (xr 2 [(0, .v (.string s)),(1, .v (.string t)),(4, .v (.string ⟨#[]⟩)),(9, .v (.string s)),(10, .v (.string t))] [] ?_)))))
 refine xc 133 [.string s, .string t] 11 shTwo _ (fun w hE hΦ=>(readTwo_any s t _ hs8 ht8).mono (fun _ _ h=>post_Two h)) (fun xx=>?_)
 obtain ⟨x10,y10,u10,v10,ok10⟩:=xx
 cases ok10
 ·refine xr 9 [(0, .v (.string s)),(1, .v (.string t)),(4, .v (.string ⟨#[]⟩)),(5, .p 5 0),(6, .p 6 0),(7, .v (.bool false))] [(6,159,[.v (.int .i64 u10), .v (.int .i64 v10)]),(5,159,[.v (.int .i64 x10), .v (.int .i64 y10)])] ?_
  refine xe (sx_next (sx_seq (sx_region (xr 1 [(0, .v (.string s)),(1, .v (.string t)),(4, .v (.string ⟨#[]⟩)),(5, .p 5 0),(6, .p 6 0),(15, .v (.bool false))] [(6,159,[.v (.int .i64 u10), .v (.int .i64 v10)]),(5,159,[.v (.int .i64 x10), .v (.int .i64 y10)])] ?_))))
  refine xe (sx_next (xb (sx_skip (sx_next (sx_seq (sx_region (xr 1 [(1, .v (.string t)),(4, .v (.string ⟨#[]⟩)),(27, .v (.string s))] [] ?_)))))))
  refine xc 135 [.string s] 28 shRat _ (fun w hE hΦ=>(value_any s _ hΦ.1 (ReadOk.of_len hs)).mono (fun _ _ h=>post_Rat h)) (fun xx=>?_)
  obtain ⟨s11,A11,l11,c11,t11,B11,m11,d11⟩:=xx
  refine xr 1 [(4, .v (.string ⟨#[]⟩)),eR4 28 s11 A11 l11 c11 t11 B11 m11 d11,(29, .v (.string t))] [] ?_
  refine xc 135 [.string t] 30 shRat _ (fun w hE hΦ=>(value_any t _ hΦ.1.1 (ReadOk.of_len ht)).mono (fun _ _ h=>post_Rat h)) (fun xx=>?_)
  obtain ⟨s12,A12,l12,c12,t12,B12,m12,d12⟩:=xx
  refine xr 0 [(4, .v (.string ⟨#[]⟩)),eR4 28 s11 A11 l11 c11 t11 B11 m11 d11,eR4 30 s12 A12 l12 c12 t12 B12 m12 d12] [] ?_
  refine xc 96 [vR4 s11 A11 l11 c11 t11 B11 m11 d11,vR4 s12 A12 l12 c12 t12 B12 m12 d12] 31 shRat _ (fun w hE hΦ=>(QMul_any _ _ (valF (bytes s)) (valF (bytes t)) _ hΦ.1.1.1 hΦ.1.2 hΦ.2 (fa.up (by decide)) (fb.up (by decide))).mono (fun _ _ h=>post_Rat h)) (fun xx=>?_)
  obtain ⟨s13,A13,l13,c13,t13,B13,m13,d13⟩:=xx
  refine xr 0 [(4, .v (.string ⟨#[]⟩)),eR4 31 s13 A13 l13 c13 t13 B13 m13 d13] [] ?_
  refine xc 107 [vR4 s13 A13 l13 c13 t13 B13 m13 d13] 32 (fun _:Unit=>.string ⟨(ratText (valF (bytes s) * valF (bytes t))).toArray⟩) _ (fun w hE hΦ=>(RString_any _ (valF (bytes s) * valF (bytes t)) _ hΦ.1.1.1.1 hΦ.2 hP.1 hP.2).mono (fun _ _ h=>post_val h rfl)) (fun xx=>?_)
  refine xr 1 [(4, .v (.string ⟨(ratText (valF (bytes s) * valF (bytes t))).toArray⟩))] [] ?_
  refine xe (sx_next (sx_ret ?_))
  refine sx_done (v:=.string ⟨(ratText (valF (bytes s) * valF (bytes t))).toArray⟩) (by kernel_rfl) (fun w' hE hΦ=>?_)
  exact ⟨rfl,hE⟩
 ·refine xr 9 [(0, .v (.string s)),(1, .v (.string t)),(4, .v (.string ⟨#[]⟩)),(5, .p 5 0),(6, .p 6 0),(7, .v (.bool true))] [(6,159,[.v (.int .i64 u10), .v (.int .i64 v10)]),(5,159,[.v (.int .i64 x10), .v (.int .i64 y10)])] ?_
  refine xe (sx_next (sx_seq (sx_region (xr 1 [(0, .v (.string s)),(1, .v (.string t)),(4, .v (.string ⟨#[]⟩)),(5, .p 5 0),(6, .p 6 0),(15, .v (.bool true))] [(6,159,[.v (.int .i64 u10), .v (.int .i64 v10)]),(5,159,[.v (.int .i64 x10), .v (.int .i64 y10)])] ?_))))
  refine xe (sx_next (xa (sx_seq (sx_region (xr 10 [(0, .v (.string s)),(1, .v (.string t)),(4, .v (.string ⟨#[]⟩)),(20, .v (.int .i64 (IntKind.i64.wrap (x10 * u10)))),(25, .v (.int .i64 (IntKind.i64.wrap (y10 * v10))))] [] ?_)))))
  refine xc 134 [.int .i64 (IntKind.i64.wrap (x10 * u10)), .int .i64 (IntKind.i64.wrap (y10 * v10))] 26 (fun _:Unit=>.string ⟨(ratText (valF (bytes s) * valF (bytes t))).toArray⟩) _ (fun w hE hΦ=>by obtain ⟨N,D,e1,e2,d0,n1,n2,e3⟩:=wMul (hΦ.2 rfl); rw [e1,e2]; exact (formatShort_any N D _ _ hΦ.1 n1 n2 (by omega) e3).mono (fun _ _ h=>post_val h rfl)) (fun xx=>?_)
  refine xr 1 [(0, .v (.string s)),(1, .v (.string t)),(4, .v (.string ⟨(ratText (valF (bytes s) * valF (bytes t))).toArray⟩))] [] ?_
  refine xe (sx_next (sx_ret (sx_then_ret ?_)))
  refine sx_done (v:=.string ⟨(ratText (valF (bytes s) * valF (bytes t))).toArray⟩) (by kernel_rfl) (fun w' hE hΦ=>?_)
  exact ⟨rfl,hE⟩
set_option maxRecDepth 100000 in
theorem TCompare_any (s t:ByteArray) (w:World) (hg:Glob w) (hs:(bytes s).length≤570) (ht:(bytes t).length≤570) :
 Calls Tryz.prog 68 #[.string s, .string t] w (RetV w (.int .i64 (valF (bytes s) - valF (bytes t)).num.sign)):=by
 have hs8:s.size≤1099511627776:=by rw [bytes_length] at hs; omega
 have ht8:t.size≤1099511627776:=by rw [bytes_length] at ht; omega
 have fa:=valF_fits hs
 have fb:=valF_fits ht
 refine sx_enter (Φ:=fun w=>Glob w) Tryz.func68 rfl (by kernel_rfl) (fun w' hf=>hg.ext hf) ?_
 refine sx_seq (sx_region (xr 1 [(0, .v (.string s)),(1, .v (.string t)),(4, .v (.int .i64 0))] [] ?_))
 refine xe (sx_next (sx_seq (sx_seq (sx_region (xr 2 [(0, .v (.string s)),(1, .v (.string t)),(4, .v (.int .i64 0)),(9, .v (.string s)),(10, .v (.string t))] [] ?_)))))
 refine xc 133 [.string s, .string t] 11 shTwo _ (fun w hE hΦ=>(readTwo_any s t _ hs8 ht8).mono (fun _ _ h=>post_Two h)) (fun xx=>?_)
 obtain ⟨x10,y10,u10,v10,ok10⟩:=xx
 cases ok10
 ·refine xr 9 [(0, .v (.string s)),(1, .v (.string t)),(4, .v (.int .i64 0)),(5, .p 5 0),(6, .p 6 0),(7, .v (.bool false))] [(6,159,[.v (.int .i64 u10), .v (.int .i64 v10)]),(5,159,[.v (.int .i64 x10), .v (.int .i64 y10)])] ?_
  refine xe (sx_next (sx_seq (sx_region (xr 1 [(0, .v (.string s)),(1, .v (.string t)),(4, .v (.int .i64 0)),(5, .p 5 0),(6, .p 6 0),(15, .v (.bool false))] [(6,159,[.v (.int .i64 u10), .v (.int .i64 v10)]),(5,159,[.v (.int .i64 x10), .v (.int .i64 y10)])] ?_))))
  refine xe (sx_next (xb (sx_skip (sx_next (sx_seq (sx_region (xr 1 [(1, .v (.string t)),(4, .v (.int .i64 0)),(27, .v (.string s))] [] ?_)))))))
  refine xc 135 [.string s] 28 shRat _ (fun w hE hΦ=>(value_any s _ hΦ.1 (ReadOk.of_len hs)).mono (fun _ _ h=>post_Rat h)) (fun xx=>?_)
  obtain ⟨s11,A11,l11,c11,t11,B11,m11,d11⟩:=xx
  refine xr 1 [(4, .v (.int .i64 0)),eR4 28 s11 A11 l11 c11 t11 B11 m11 d11,(29, .v (.string t))] [] ?_
  refine xc 135 [.string t] 30 shRat _ (fun w hE hΦ=>(value_any t _ hΦ.1.1 (ReadOk.of_len ht)).mono (fun _ _ h=>post_Rat h)) (fun xx=>?_)
  obtain ⟨s12,A12,l12,c12,t12,B12,m12,d12⟩:=xx
  refine xr 0 [(4, .v (.int .i64 0)),eR4 28 s11 A11 l11 c11 t11 B11 m11 d11,eR4 30 s12 A12 l12 c12 t12 B12 m12 d12] [] ?_
  refine xc 164 [vR4 s11 A11 l11 c11 t11 B11 m11 d11,vR4 s12 A12 l12 c12 t12 B12 m12 d12] 31 (fun _:Unit=>.int .i64 (valF (bytes s) - valF (bytes t)).num.sign) _ (fun w hE hΦ=>(QCompare_any _ _ (valF (bytes s)) (valF (bytes t)) _ hΦ.1.2 hΦ.2 (fa.up (by decide)) (fb.up (by decide))).mono (fun _ _ h=>post_val h rfl)) (fun xx=>?_)
  refine xr 1 [(4, .v (.int .i64 (valF (bytes s) - valF (bytes t)).num.sign))] [] ?_
  refine xe (sx_next (sx_ret ?_))
  refine sx_done (v:=.int .i64 (valF (bytes s) - valF (bytes t)).num.sign) (by kernel_rfl) (fun w' hE hΦ=>?_)
  exact ⟨rfl,hE⟩
 ·refine xr 9 [(0, .v (.string s)),(1, .v (.string t)),(4, .v (.int .i64 0)),(5, .p 5 0),(6, .p 6 0),(7, .v (.bool true))] [(6,159,[.v (.int .i64 u10), .v (.int .i64 v10)]),(5,159,[.v (.int .i64 x10), .v (.int .i64 y10)])] ?_
  refine xe (sx_next (sx_seq (sx_region (xr 1 [(0, .v (.string s)),(1, .v (.string t)),(4, .v (.int .i64 0)),(5, .p 5 0),(6, .p 6 0),(15, .v (.bool true))] [(6,159,[.v (.int .i64 u10), .v (.int .i64 v10)]),(5,159,[.v (.int .i64 x10), .v (.int .i64 y10)])] ?_))))
  refine xe (sx_next (xa (sx_seq (sx_region (xr 10 [(0, .v (.string s)),(1, .v (.string t)),(4, .v (.int .i64 0)),(20, .v (.int .i64 (IntKind.i64.wrap (x10 * v10)))),(25, .v (.int .i64 (IntKind.i64.wrap (u10 * y10))))] [] ?_)))))
  refine xc 163 [.int .i64 (IntKind.i64.wrap (x10 * v10)), .int .i64 (IntKind.i64.wrap (u10 * y10))] 26 (fun _:Unit=>.int .i64 (valF (bytes s) - valF (bytes t)).num.sign) _ (fun w hE hΦ=>by rw [← wCmp (hΦ.2 rfl)]; exact (compareInts_any _ _ _).mono (fun _ _ h=>post_val (v:=_) ⟨h.1,h.2 ▸ Fr.refl _ _⟩ rfl)) (fun xx=>?_)
  refine xr 1 [(0, .v (.string s)),(1, .v (.string t)),(4, .v (.int .i64 (valF (bytes s) - valF (bytes t)).num.sign))] [] ?_
  refine xe (sx_next (sx_ret (sx_then_ret ?_)))
  refine sx_done (v:=.int .i64 (valF (bytes s) - valF (bytes t)).num.sign) (by kernel_rfl) (fun w' hE hΦ=>?_)
  exact ⟨rfl,hE⟩
end Go.Proofs.YtbgkofgoeoiciaaGreatDoor

namespace Go.Proofs.YtbgkofgoeoiciaaGreatDoor
open Go.RowKit
def StrIs (s:ByteArray) (p:Rat):Prop:=valF (bytes s)=p∧(bytes s).length≤570
section
variable {s t:ByteArray} {p q r:Rat} {w:World}
theorem sMul (hg:Glob w) (hp:StrIs s p) (hq:StrIs t q) (hr:p * q=r):Calls Tryz.prog 52 #[.string s, .string t] w (RetV w (.string ⟨(ratText r).toArray⟩)):=by
 have:=TMul_any s t w hg hp.2 hq.2
 rwa [hp.1,hq.1,hr] at this
theorem sCmp {k:Int} (hg:Glob w) (hp:StrIs s p) (hq:StrIs t q) (hr:(p - q).num.sign=k):Calls Tryz.prog 68 #[.string s, .string t] w (RetV w (.int .i64 k)):=by
 have:=TCompare_any s t w hg hp.2 hq.2
 rwa [hp.1,hq.1,hr] at this
end
end Go.Proofs.YtbgkofgoeoiciaaGreatDoor

namespace Go.Proofs.YtbgkofgoeoiciaaGreatDoor
open Go.RowKit
theorem post_Short {w w':World} {e:Ending} {l:List UInt8} (h:RetShort w l e w'):PostC (fun x:Int × Int × Bool=>.tuple #[.agg #[.int .i64 x.1, .int .i64 x.2.1], .bool x.2.2]) (fun x _=>ShortIs l x.1 x.2.1 x.2.2) w e w':=by
 obtain ⟨a,b,ok,rfl,hS,hE⟩:=h
 exact ⟨(a,b,ok),rfl,hE,BoxN.pure hS⟩
abbrev ShSp:=Bool × ByteArray × ByteArray × Bool
theorem post_Split {w w':World} {e:Ending} {s:ByteArray} (h:RetSplit s w e w'):PostC (fun x:ShSp=>.tuple #[.agg #[.bool x.1, .string x.2.1, .string x.2.2.1], .bool x.2.2.2]) (fun x _=>splitF (bytes s)=(x.1,bytes x.2.1,bytes x.2.2.1,x.2.2.2)) w e w':=by
 obtain ⟨neg,t,d,ok,rfl,hS,hE⟩:=h
 exact ⟨(neg,t,d,ok),rfl,hE,BoxN.pure hS⟩
theorem str_nil {x:ByteArray} (h:bytes x=[]):(x.toList == (⟨#[]⟩:ByteArray).toList)=true:=by
 rw [Lib.toList_data,Lib.toList_data,show x.data.toList=[] from h]; rfl
theorem str_not {x:ByteArray} (h:¬ bytes x=[]):(x.toList == (⟨#[]⟩:ByteArray).toList)=false:=by
 rw [Lib.toList_data,Lib.toList_data]
 exact beq_eq_false_iff_ne.2 h
theorem readF_bad {l:List UInt8} {neg:Bool} {t d:List UInt8} (h:splitF l=(neg,t,d,false)):readF l=none:=by unfold readF; rw [h]
theorem readF_int {l:List UInt8} {neg:Bool} {t d:List UInt8} (h:splitF l=(neg,t,d,true)) (hd:d=[]):(readF l).isSome=true:=by unfold readF; rw [h]; simp [hd]
theorem readF_gcd {l:List UInt8} {neg:Bool} {t d:List UInt8} (h:splitF l=(neg,t,d,true)) (hd:¬ d=[]):(readF l).isSome=decide (((Int.gcd (decVal t:Int) (decVal d:Int):Nat):Int)=1):=by
 unfold readF
 rw [h]
 have e:Int.gcd (decVal t:Int) (decVal d:Int)=Nat.gcd (decVal t) (decVal d):=rfl
 rw [e]
 simp only [if_neg hd]
 by_cases hg:Nat.gcd (decVal t) (decVal d)=1
 ·rw [if_pos hg,hg]; rfl
 ·rw [if_neg hg]; simp; omega
theorem short_some {l:List UInt8} {a b:Int} (h:ShortIs l a b true):(readF l).isSome=true:=by
 rcases h with ⟨_,q,h,_⟩ | ⟨h,_⟩
 ·rw [h]; rfl
 ·cases h
set_option maxRecDepth 100000 in
theorem Valid_any (s:ByteArray) (w:World) (hg:Glob w) (hs:(bytes s).length≤570) :
 Calls Tryz.prog 66 #[.string s] w (RetV w (.bool (readF (bytes s)).isSome)):=by
 have hs8:s.size≤1099511627776:=by rw [bytes_length] at hs; omega
 refine sx_enter (Φ:=fun w=>Glob w) Tryz.func66 rfl (by kernel_rfl) (fun w' hf=>hg.ext hf) ?_
 refine sx_seq (sx_region (xr 1 [(0, .v (.string s)),(2, .v (.bool false))] [] ?_))
 refine xe (sx_next (sx_seq (sx_seq (sx_region (xr 1 [(0, .v (.string s)),(2, .v (.bool false)),(8, .v (.string s))] [] ?_)))))
 refine xc 158 [.string s] 9 (fun x:Int × Int × Bool=>.tuple #[.agg #[.int .i64 x.1, .int .i64 x.2.1], .bool x.2.2]) _ (fun w hE hΦ=>(readShort_any s _ hs8).mono (fun _ _ h=>post_Short h)) (fun xx=>?_)
 obtain ⟨sa,sb,xok⟩:=xx
 rcases xok with _ | _
 ·refine xr 6 [(0, .v (.string s)),(2, .v (.bool false)),(4, .v (.bool false))] [] ?_
  refine xe (sx_next (sx_seq (sx_region (xr 1 [(0, .v (.string s)),(2, .v (.bool false)),(12, .v (.bool false))] [] ?_))))
  refine xe (sx_next (xb (sx_skip (sx_next (sx_seq (sx_region (xr 1 [(2, .v (.bool false)),(14, .v (.string s))] [] ?_)))))))
  refine xc 159 [.string s] 15 (fun x:ShSp=>.tuple #[.agg #[.bool x.1, .string x.2.1, .string x.2.2.1], .bool x.2.2.2]) _ (fun w hE hΦ=>(split_any s _ hs8).mono (fun _ _ h=>post_Split h)) (fun xx=>?_)
  obtain ⟨xneg,xt,sd,yok⟩:=xx
  rcases yok with _ | _
  ·refine xr 6 [(2, .v (.bool false)),(5, .p 5 0),(6, .v (.bool false))] [(5,179,[.v (.bool xneg), .v (.string xt), .v (.string sd)])] ?_
   refine xe (sx_next (sx_seq (sx_seq ?_)))
   refine SXc.know (p:=splitF (bytes s)=(xneg,bytes xt,bytes sd,false)) (fun w _ hΦ=>hΦ.2) (fun HK=>?_)
   refine sx_region (xr 7 [(2, .v (.bool false)),(5, .p 5 0),(6, .v (.bool false)),(24, .v (.bool true))] [(5,179,[.v (.bool xneg), .v (.string xt), .v (.string sd)])] ?_)
   refine xe (sx_next (xa (sx_seq (sx_region (xr 2 [(2, .v (.bool false)),(5, .p 5 0)] [(5,179,[.v (.bool xneg), .v (.string xt), .v (.string sd)])] ?_)))))
   refine xe (sx_next (sx_ret (sx_then_ret ?_)))
   refine sx_done (v:=.bool false) (by kernel_rfl) (fun w' hE hΦ=>?_)
   exact ⟨by rw [readF_bad HK]; rfl,hE⟩
  ·refine xr 6 [(2, .v (.bool false)),(5, .p 5 0),(6, .v (.bool true))] [(5,179,[.v (.bool xneg), .v (.string xt), .v (.string sd)])] ?_
   refine xe (sx_next (sx_seq (sx_seq ?_)))
   refine SXc.know (p:=splitF (bytes s)=(xneg,bytes xt,bytes sd,true)) (fun w _ hΦ=>hΦ.2) (fun HK=>?_)
   by_cases hd:bytes sd=[]
   ·refine sx_region (xr 6 [(2, .v (.bool false)),(5, .p 5 0),(6, .v (.bool true)),(20, .v (.bool false)),(23, .v (.bool ((sd:ByteArray).toList == (⟨#[]⟩:ByteArray).toList)))] [(5,179,[.v (.bool xneg), .v (.string xt), .v (.string sd)])] ?_)
    rw [str_nil hd]
    refine xr 1 [(2, .v (.bool false)),(5, .p 5 0),(6, .v (.bool true)),(24, .v (.bool true))] [(5,179,[.v (.bool xneg), .v (.string xt), .v (.string sd)])] ?_
    refine xe (sx_next (xa (sx_seq (sx_region (xr 2 [(2, .v (.bool true)),(5, .p 5 0)] [(5,179,[.v (.bool xneg), .v (.string xt), .v (.string sd)])] ?_)))))
    refine xe (sx_next (sx_ret (sx_then_ret ?_)))
    refine sx_done (v:=.bool true) (by kernel_rfl) (fun w' hE hΦ=>?_)
    exact ⟨by rw [readF_int HK hd],hE⟩
   ·refine sx_region (xr 6 [(2, .v (.bool false)),(5, .p 5 0),(6, .v (.bool true)),(20, .v (.bool false)),(23, .v (.bool ((sd:ByteArray).toList == (⟨#[]⟩:ByteArray).toList)))] [(5,179,[.v (.bool xneg), .v (.string xt), .v (.string sd)])] ?_)
    rw [str_not hd]
    refine xr 1 [(2, .v (.bool false)),(5, .p 5 0),(6, .v (.bool true)),(24, .v (.bool false))] [(5,179,[.v (.bool xneg), .v (.string xt), .v (.string sd)])] ?_
    refine xe (sx_next (xb (sx_skip (sx_next (sx_seq ?_)))))
    obtain ⟨hdigxt,hdigsd,hll⟩:=splitF_digits HK
    have hprsxt:PrsOk xt.size:=by unfold PrsOk; rw [← bytes_length]; omega
    have hprssd:PrsOk sd.size:=by unfold PrsOk; rw [← bytes_length]; omega
    have hwt:wl ((decVal (bytes xt):Nat):Int).natAbs≤79:=by rw [Int.natAbs_natCast]; exact Nat.le_trans (dec_wl hdigxt (by omega)) (by decide)
    have hwd:wl ((decVal (bytes sd):Nat):Int).natAbs≤79:=by rw [Int.natAbs_natCast]; exact Nat.le_trans (dec_wl hdigsd (by omega)) (by decide)
    have hft:Fits ((decVal (bytes xt):Nat):Int):=by unfold Fits; omega
    have hfd:Fits ((decVal (bytes sd):Nat):Int):=by unfold Fits; omega
    refine sx_draw 9 (by kernel_rfl) (by kernel_rfl) follows_mixed' ?_
    refine xf 2 [(2, .v (.bool false)),(5, .p 5 0),(27, .v (.string xt))] [(5,179,[.v (.bool xneg), .v (.string xt), .v (.string sd)])] ?_
    refine xd 160 [.string xt] 28 shInt _ (fun w hE hΦ=>(intParse_any xt _ hdigxt hprsxt).mono (fun _ _ h=>post_Int h)) (fun xx=>?_)
    obtain ⟨s10,A10,l10,c10⟩:=xx
    refine xf 2 [(2, .v (.bool false)),eI2 28 s10 A10 l10 c10,(30, .v (.string sd))] [(5,179,[.v (.bool xneg), .v (.string xt), .v (.string sd)])] ?_
    refine xd 160 [.string sd] 31 shInt _ (fun w hE hΦ=>(intParse_any sd _ hdigsd hprssd).mono (fun _ _ h=>post_Int h)) (fun xx=>?_)
    obtain ⟨s11,A11,l11,c11⟩:=xx
    refine xf 0 [(2, .v (.bool false)),eI2 28 s10 A10 l10 c10,eI2 31 s11 A11 l11 c11] [(5,179,[.v (.bool xneg), .v (.string xt), .v (.string sd)])] ?_
    refine xd 153 [vI2 s10 A10 l10 c10,vI2 s11 A11 l11 c11] 32 shInt _ (fun w hE hΦ=>(GCD_any _ _ ((decVal (bytes xt):Int)) ((decVal (bytes sd):Int)) _ hΦ.1.1.1.1 hΦ.1.2 hΦ.2 hft hfd (GcdOk.words hwt hwd)).mono (fun _ _ h=>post_Int h)) (fun xx=>?_)
    obtain ⟨s12,A12,l12,c12⟩:=xx
    refine xf 0 [(2, .v (.bool false)),eI2 32 s12 A12 l12 c12] [(5,179,[.v (.bool xneg), .v (.string xt), .v (.string sd)])] ?_
    refine xd 161 [vI2 s12 A12 l12 c12] 33 (fun _:Unit=>.bool (decide ((((Int.gcd ((decVal (bytes xt):Int)) ((decVal (bytes sd):Int)):Nat):Int))=1))) _ (fun w hE hΦ=>(IsOne_any _ (((Int.gcd ((decVal (bytes xt):Int)) ((decVal (bytes sd):Int)):Nat):Int)) _ hΦ.2).mono (fun _ _ h=>post_val h rfl)) (fun xx=>?_)
    refine xf 1 [(2, .v (.bool (decide ((((Int.gcd ((decVal (bytes xt):Int)) ((decVal (bytes sd):Int)):Nat):Int))=1))))] [(5,179,[.v (.bool xneg), .v (.string xt), .v (.string sd)])] ?_
    refine xz (xe (sx_next (sx_ret ?_)))
    refine sx_done (v:=.bool (decide ((((Int.gcd ((decVal (bytes xt):Int)) ((decVal (bytes sd):Int)):Nat):Int))=1))) (by kernel_rfl) (fun w' hE hΦ=>?_)
    exact ⟨by rw [readF_gcd HK hd],hE⟩
 ·refine xr 6 [(0, .v (.string s)),(2, .v (.bool false)),(4, .v (.bool true))] [] ?_
  refine xe (sx_next (sx_seq (sx_region (xr 1 [(0, .v (.string s)),(2, .v (.bool false)),(12, .v (.bool true))] [] ?_))))
  refine xe (sx_next (xa (sx_seq (sx_region (xr 1 [(0, .v (.string s)),(2, .v (.bool true))] [] ?_)))))
  refine xe (sx_next (sx_ret (sx_then_ret ?_)))
  refine sx_done (v:=.bool true) (by kernel_rfl) (fun w' hE hΦ=>?_)
  exact ⟨by rw [short_some hΦ.2],hE⟩
end Go.Proofs.YtbgkofgoeoiciaaGreatDoor

namespace Go.Proofs.YtbgkofgoeoiciaaGreatDoor
open Go.RowKit
section
variable {l r a t b:List UInt8} {neg:Bool} {c:UInt8}
end
/-! ### texts of small numbers -/
theorem itoa_dig {n:Nat} (h:n < 10):Lib.itoa (n:Int)=[UInt8.ofNat (48 + n)]:=by
 unfold Lib.itoa
 rw [if_neg (by omega),Int.toNat_natCast,Lib.decDigits,dif_pos h]
theorem rt_whole {q:Rat} {n:Nat} (h:n < 10) (h1:q.num=(n:Int)) (h2:q.den=1):ratText q=[UInt8.ofNat (48 + n)]:=by
 unfold ratText; rw [if_pos h2,h1,itoa_dig h]
theorem rt_frac {q:Rat} {n d:Nat} (h:n < 10) (hd:d < 10) (h1:q.num=(n:Int)) (h2:q.den=d) (h3:d≠1):ratText q=[UInt8.ofNat (48 + n),47,UInt8.ofNat (48 + d)]:=by
 unfold ratText; rw [h2,if_neg h3,h1,itoa_dig h,itoa_dig hd]; rfl
theorem valF_of {l:List UInt8} {q:Rat} (h:ratText q=l):valF l=q:=valF_some (read_iff.2 h)
theorem t1:ratText (mkRat 1 1)=[49]:=rt_whole (n:=1) (by decide) (by decide) (by decide)
theorem t3:ratText (mkRat 3 1)=[51]:=rt_whole (n:=3) (by decide) (by decide) (by decide)
theorem t13:ratText (mkRat 1 3)=[49,47,51]:=rt_frac (n:=1) (d:=3) (by decide) (by decide) (by decide) (by decide) (by decide)
theorem t12:ratText (mkRat 1 2)=[49,47,50]:=rt_frac (n:=1) (d:=2) (by decide) (by decide) (by decide) (by decide) (by decide)
end Go.Proofs.YtbgkofgoeoiciaaGreatDoor

namespace Go.Proofs.YtbgkofgoeoiciaaGreatDoor
open Go.RowKit
end Go.Proofs.YtbgkofgoeoiciaaGreatDoor

namespace Go.Proofs.YtbgkofgoeoiciaaGreatDoor
open Go.RowKit
section
variable {w w':World} {e:Ending} {s:ByteArray}
end
theorem str_ext {a b:ByteArray} (h:bytes a=bytes b):a=b:=by
 cases a with | mk a=>cases b with | mk b=>simp only [bytes] at h; rw [Array.toList_inj.1 h]
def e4:Nat:=400
end Go.Proofs.YtbgkofgoeoiciaaGreatDoor

namespace Go.Proofs.YtbgkofgoeoiciaaGreatDoor
open Go.RowKit
end Go.Proofs.YtbgkofgoeoiciaaGreatDoor

namespace Go.Proofs.YtbgkofgoeoiciaaGreatDoor
open Go.RowKit
theorem zt:ratText 0=[48]:=rt_whole (n:=0) (by decide) (by decide) (by decide)
theorem run_stridx' {P:Program} {o:Oper} {ρ:Operand→Value} {w:World} {t:TypeId} {x i:Operand} {b:ByteArray} {k:Nat} {c:UInt8} (ho:o.op=Op.index t x i) (ht:P.underlying t=some .string) (hx:ρ x=.string b) (hi:ρ i=.int .i64 (k:Int)) (hc:b[k]? = some c):(execOp ρ o).run P w=.ok (.value (.int .u8 (c.toNat:Int))) w:=by
 simp [execOp,ho,Instr.index,asIntOf,underlying,ht,hx,hi,hc,Result.andThen]
end Go.Proofs.YtbgkofgoeoiciaaGreatDoor

namespace Go.Proofs.YtbgkofgoeoiciaaGreatDoor
open Go.RowKit
def Rs (p:Int) (q:Rat) (x:Int):Prop:=0≤x∧x < p∧∃ k,x * q.den - q.num=p * k
theorem rs_of {p x:Int} {q:Rat} (hP:Pr p) (hd:(q.den:Int) % p≠0) (hx:x=(q.num % p) * (invN ((q.den:Int) % p).toNat p.toNat:Int) % p):Rs p q x:=by
 have h2:=hP.1
 obtain ⟨P,rfl⟩:=Int.eq_ofNat_of_zero_le (show 0≤p by omega)
 have h0:=Int.emod_nonneg (q.den:Int) (b:=(P:Int)) (by omega)
 have h1:=Int.emod_lt_of_pos (q.den:Int) (b:=(P:Int)) (by omega)
 obtain ⟨c,hc⟩:=Int.eq_ofNat_of_zero_le h0
 have hcp:c < P:=by omega
 have hcm:c % P≠0:=by rw [Nat.mod_eq_of_lt hcp]; omega
 have h3:=invN_mul hP hcm
 have h4:=Nat.div_add_mod (c * invN c P) P
 rw [h3] at h4
 have h5:=Int.mul_ediv_add_emod (q.den:Int) P
 have h7:=Int.mul_ediv_add_emod q.num P
 rw [hc] at h5 hx
 rw [show ((c:Int)).toNat=c by omega,show ((P:Int)).toNat=P by omega] at hx
 have h8:=Int.mul_ediv_add_emod (q.num % (P:Int) * (invN c P:Int)) P
 rw [← hx] at h8
 have h6:(P:Int) * ((c * invN c P / P:Nat):Int) + 1=(c:Int) * (invN c P:Int):=by exact_mod_cast h4
 refine ⟨by rw [hx]; exact Int.emod_nonneg _ (by omega),by rw [hx]; exact Int.emod_lt_of_pos _ (by omega),?_⟩
 generalize ((c * invN c P / P:Nat):Int)=m at *
 generalize (invN c P:Int)=v at *
 generalize (q.den:Int) / (P:Int)=t at *
 generalize q.num / (P:Int)=u at *
 generalize q.num % (P:Int) * v / (P:Int)=s at *
 generalize q.num % (P:Int)=a at *
 clear hx hc h0 h1 h3 h4 hcm hcp
 generalize q.num=n at *
 generalize (q.den:Int)=d at *
 exact ⟨a * m + a * v * t - s * d - u,by grind⟩
theorem RedIs.of {l:List UInt8} {p x:Int} {ok:Bool} {q:Rat} (h:RedIs l p x ok) (hr:readF l=some q) (hP:Pr p) (hd:(q.den:Int) % p≠0):ok=true∧Rs p q x:=by
 rcases h with ⟨rfl,h1,q',hq,h2,hx⟩ | ⟨rfl,rfl,h1⟩
 ·rw [hr] at hq
  injection hq with hq
  subst hq
  exact ⟨rfl,rs_of hP hd hx⟩
 ·exfalso
  rcases h1 with h1 | h1 | ⟨q',hq,h1⟩
  ·exact h1 hP
  ·rw [hr] at h1; cases h1
  ·rw [hr] at hq
   injection hq with hq
   subst hq
   exact hd h1
end Go.Proofs.YtbgkofgoeoiciaaGreatDoor
