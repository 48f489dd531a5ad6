/-
 My texts Ne put together.
-/
import Derived.Test.YtklpdkpcocnglaaGreatDoorY19
set_option maxRecDepth 100000
namespace Go.Proofs.YtklpdkpcocnglaaGreatDoor
open Go.RowKit
def exT (l:List UInt8) (x:Int):List UInt8:=if fvB l x=true then (if flM l=0 then [48] else if x < 0 then l ++ [47] ++ Lib.decDigits (2 ^ (-x).toNat) else Lib.itoa (flM l * 2 ^ x.toNat)) else [48]
theorem ZnP {l:List UInt8} {x:Int} (hv:fvB l x=true) (h:flM l=0):exT l x=[48]:=by unfold exT; rw [if_pos hv,if_pos h]
theorem Zsu {s:ByteArray} {x:Int} {k:Nat} (hv:fvB (bytes s) x=true) (h:flM (bytes s)≠0) (hk : -x=k) (hx:x < 0):(⟨(exT (bytes s) x).toArray⟩:ByteArray)=s ++ ⟨#[47]⟩ ++ ⟨(Lib.decDigits (1 * 2 ^ k)).toArray⟩:=by
 unfold exT
 rw [if_pos hv,if_neg h,if_pos hx,hk,Nat.one_mul]
 apply ZgZ
 rw [ZbY]
 simp [bytes]
theorem Zph {l:List UInt8} {x:Int} {k:Nat} (hv:fvB l x=true) (hk:x=k):exT l x=(if Zae (Zap l).2=0 then [48] else (if (Zap l).1 then [45] else []) ++ Lib.decDigits (Zae (Zap l).2 * 2 ^ k)):=by
 have ha:=ZfL l
 unfold exT
 rw [if_pos hv,if_neg (show ¬ x < 0 by omega),hk,Int.toNat_natCast]
 by_cases h0:flM l=0
 ·rw [if_pos h0,if_pos (by omega)]
 ·rw [if_neg h0,if_neg (by omega)]
  have e:flM l * 2 ^ k=sg (Zap l).1 (Zae (Zap l).2 * 2 ^ k):=by
   unfold flM sg
   split
   ·rw [Int.natCast_mul,Int.natCast_pow,Int.neg_mul]; rfl
   ·rw [Int.natCast_mul,Int.natCast_pow]; rfl
  have hp:=Nat.mul_pos (show 0 < Zae (Zap l).2 by omega) (p2 k)
  rw [e,Ze2 (fun h=>by omega)]
theorem ZkO (s:ByteArray) (x:Int) (w:World) (hg:Glob w) (hs:(bytes s).length≤100000) (hx:fvB (bytes s) x=true → -1000≤x∧x≤1000) :
 Calls Tryz.prog 22 #[.agg #[.string s, .int .i64 x]] w (RetV w (.string ⟨(exT (bytes s) x).toArray⟩)):=by
 refine Zay (Φ:=fun w=>Glob w) Tryz.func22 rfl (by kernel_rfl) (fun w' hf=>hg.ext hf) ?_
 refine Zac (Zab (xq 2 [(1, .p 1 0),(2, .v (.string ⟨#[]⟩))] [(1,24,[.v (.string s), .v (.int .i64 x)])] ?_))
 refine xe (Zaa (Zac (Zab (xq 1 [(6, .v (.agg #[.string s, .int .i64 x]))] [] ?_))))
 by_cases hv:fvB (bytes s) x=true
 ·obtain ⟨r10,hr10⟩:∃ r,ldR (bytes s) x=r:=⟨_,rfl⟩
  have hfv:=ZbZ hv
  have hwl:wl r10.m≤100000:=by rw [← hr10]; exact ZhB hs
  have hre:r10.e=x:=by rw [← hr10,show ldR (bytes s) x=_ from if_pos hv]
  have hrs:r10.s=true→0 < r10.m:=by rw [← hr10,show ldR (bytes s) x=_ from if_pos hv]; exact hfv.2.2.2
  refine xqc 64 [.agg #[.string s, .int .i64 x]] 7 (shLd true r10) _ (fun w R Q=>((show Calls _ _ _ _ (ZdH w true r10) from by rw [← hr10,← hv]; exact Zb5 s x _ hs)).mono (fun _ _=>ZcQ)) (fun xx=>?_)
  obtain ⟨A10,l10,c10⟩:=xx
  refine xq 6 [(3, .p 3 0)] [(3,79,[.v (.bool r10.s), .v (.slice A10 l10 c10), .v (.int .i64 r10.e)])] ?_
  refine xe (Zaa (Zac (ZaO (Zac ?_))))
  refine SXc.know (p:=l10=wl r10.m) (fun w _ Q=>(Q.2).len0) (fun hln=>?_)
  have hzz:=@Zdx r10.m
  have hxx:=hx hv
  have hld:=hr10
  rw [show ldR (bytes s) x=⟨(Zap (bytes s)).1,Zae (Zap (bytes s)).2,x,0⟩ from if_pos hv] at hld
  have hab:=ZfL (bytes s)
  have hms:r10.m=Zae (Zap (bytes s)).2:=by rw [← hld]
  have hss:r10.s=(Zap (bytes s)).1:=by rw [← hld]
  by_cases hm0:r10.m=0
  ·refine Zab (xq 4 [(14, .v (.bool ((((l10:Nat):Int):Int) == 0)))] [] ?_)
   rw [(show ((((l10:Nat):Int):Int) == 0)=true from beq_iff_eq.2 (by omega))]
   refine xq 1 [(10, .v (.bool true))] [] ?_
   refine xe (Zaa (xa (Zac (Zab (xq 1 [(2, .v (.string ⟨#[48]⟩))] [] ?_)))))
   refine xe (Zaa (Zai (Zbv (Zah ?_))))
   refine Zaf (v:=.string ⟨#[48]⟩) (by kernel_rfl) (fun w' R Q=>?_)
   exact ⟨by rw [ZnP hv (by omega)],R⟩
  ·refine Zab (xq 4 [(14, .v (.bool ((((l10:Nat):Int):Int) == 0)))] [] ?_)
   rw [(show ((((l10:Nat):Int):Int) == 0)=false from beq_eq_false_iff_ne.2 (by omega))]
   refine xq 1 [(10, .v (.bool false))] [] ?_
   refine xe (Zaa (xb (Zac (Zab (xq 4 [(15, .v (.bool (decide (r10.e < 0))))] [] ?_)))))
   refine xe (Zaa ?_)
   refine ZaA ((decide (r10.e < 0))) (by kernel_rfl) (fun hb11=>?_) (fun hb11=>?_)
   ·have hb11':=of_decide_eq_true hb11
    refine Zac ?_
    obtain ⟨k,hk⟩:∃ k:Nat,-x=k:=Int.eq_ofNat_of_zero_le (by omega)
    have hk1:k≤1000:=by omega
    have hwk:wl (1 * 2 ^ k)≤110000:=by have h1:=ZhT 1 (2 ^ k); have h2:wl (2 ^ k)≤100:=ZgY (by omega); have h3:wl 1≤1:=Zfk.2 (by rw [Zal]; decide); omega
    refine ZbS 11 [0,1,3,0,0,16,48,120,248,511,1023] (by kernel_rfl) (by kernel_rfl) Zaj ?_
    refine xqf 2 [(20, .v (.string s))] [(3,79,[.v (.bool r10.s), .v (.slice A10 l10 c10), .v (.int .i64 r10.e)]),(1,24,[.v (.string s), .v (.int .i64 x)])] ?_
    refine Zb7 21 (.string (s ++ ⟨#[47]⟩)) (by kernel_rfl) (by kernel_rfl) (by kernel_rfl) (by kernel_rfl) (by kernel_rfl) (by kernel_rfl) (fun w Q=>ZeI (x:=(Operand.tmp 20)) (y:=(Operand.const (Value.string { data:=#[47] }))) (t:=9) (k:=9) (by kernel_rfl) (by kernel_rfl) (by kernel_rfl) (by have h1:=Zam s; have h2:(⟨#[47]⟩:ByteArray).size=1:=rfl; omega) rfl) ?_
    refine xf 0 [(2, .v (.string ⟨#[]⟩)),(3, .p 3 0),(21, .v (.string (s ++ ⟨#[47]⟩)))] [(3,79,[.v (.bool r10.s), .v (.slice A10 l10 c10), .v (.int .i64 r10.e)]),(1,24,[.v (.string s), .v (.int .i64 x)])] ?_
    refine ZiR 22 (fun zb:Nat=>.slice (some ⟨zb,0,none⟩) 1 1) (fun zb zw=>Blk 94 zw zb #[.int .u64 1]) (by kernel_rfl) (by kernel_rfl) (by kernel_rfl) (by kernel_rfl) (by kernel_rfl) (by kernel_rfl) (by kernel_rfl) (fun w R Q=>Zcd (t:=77) (e:=94) (n:=1) (sz:=1) (z:=.int .u64 0) (parts:=#[(0,Operand.const (Value.int IntKind.u64 1))]) (by kernel_rfl) (by kernel_rfl) (by kernel_rfl) (by kernel_rfl) (by kernel_rfl) (by kernel_rfl)) (fun b12=>?_)
    refine xf 3 [(2, .v (.string ⟨#[]⟩)),(3, .p 3 0),(21, .v (.string (s ++ ⟨#[47]⟩))),eS1 22 (some ⟨b12,0,none⟩) 1 1,(25, .v (.int .i64 (IntKind.i64.wrap (0 - (r10.e)))))] [(3,79,[.v (.bool r10.s), .v (.slice A10 l10 c10), .v (.int .i64 r10.e)]),(1,24,[.v (.string s), .v (.int .i64 x)])] ?_
    rw [show IntKind.i64.wrap (0 - (r10.e))=((k:Nat):Int) from by rw [IntKind.wrap_i64]; omega]
    refine xqd 66 [.slice (some ⟨b12,0,none⟩) 1 1, .int .i64 ((k:Nat):Int)] 26 Za3 _ (fun w R Q=>(Zc7 k (ZiT Q.2) wl_1 (by omega)).mono (fun _ _=>Za5)) (fun xx=>?_)
    obtain ⟨A13,l13,c13⟩:=xx
    refine xqd 67 [.slice A13 l13 c13] 27 (fun _:Unit=>.string ⟨(Lib.decDigits (1 * 2 ^ k)).toArray⟩) _ (fun w R Q=>(ZeM A13 l13 c13 (1 * 2 ^ k) _ Q.1.1.1 Q.2 (by omega)).mono (fun _ _ h=>Zad h rfl)) (fun xx=>?_)
    refine Zb7 28 (.string (s ++ ⟨#[47]⟩ ++ ⟨(Lib.decDigits (1 * 2 ^ k)).toArray⟩)) (by kernel_rfl) (by kernel_rfl) (by kernel_rfl) (by kernel_rfl) (by kernel_rfl) (by kernel_rfl) (fun w Q=>ZeI (x:=(Operand.tmp 21)) (y:=(Operand.tmp 27)) (t:=9) (k:=9) (by kernel_rfl) (by kernel_rfl) (by kernel_rfl) (by have h1:=Zlo (1 * 2 ^ k); have h3:=Zam s; have h4:(⟨#[47]⟩:ByteArray).size=1:=rfl; rw [ByteArray.size_append,← Zam ⟨(Lib.decDigits (1 * 2 ^ k)).toArray⟩,ZbY]; omega) rfl) ?_
    refine xf 1 [(2, .v (.string (s ++ ⟨#[47]⟩ ++ ⟨(Lib.decDigits (1 * 2 ^ k)).toArray⟩))),(3, .p 3 0)] [(3,79,[.v (.bool r10.s), .v (.slice A10 l10 c10), .v (.int .i64 r10.e)]),(1,24,[.v (.string s), .v (.int .i64 x)])] ?_
    refine xz (xe (Zaa (Zai (Zbv (Zah ?_)))))
    refine Zaf (v:=.string (s ++ ⟨#[47]⟩ ++ ⟨(Lib.decDigits (1 * 2 ^ k)).toArray⟩)) (by kernel_rfl) (fun w' R Q=>?_)
    exact ⟨by rw [Zsu hv (by omega) hk (by omega)],R⟩
   ·have hb11':=of_decide_eq_false hb11
    refine Zac ?_
    obtain ⟨k,hk⟩:∃ k:Nat,x=k:=Int.eq_ofNat_of_zero_le (by omega)
    have hk1:k≤1000:=by omega
    have hwk:wl (r10.m * 2 ^ k)≤110000:=by have h1:=ZhT r10.m (2 ^ k); have h2:wl (2 ^ k)≤100:=ZgY (by omega); omega
    rw [show r10.e=((k:Nat):Int) from by omega]
    refine Zab (xq 3 [(29, .v (.bool r10.s))] [] ?_)
    refine xe (Zaa ?_)
    refine ZaA (r10.s) (by kernel_rfl) (fun hb14=>?_) (fun hb14=>?_)
    ·have hs1:=hb14
     refine Zac (Zab (xq 4 [eS1 33 A10 l10 c10,(35, .v (.int .i64 ((k:Nat):Int)))] [] ?_))
     refine xqc 66 [.slice A10 l10 c10, .int .i64 ((k:Nat):Int)] 36 Za3 _ (fun w R Q=>(Zc7 k Q.2 (by omega) (by omega)).mono (fun _ _=>Za5)) (fun xx=>?_)
     obtain ⟨A15,l15,c15⟩:=xx
     refine xqc 67 [.slice A15 l15 c15] 37 (fun _:Unit=>.string ⟨(Lib.decDigits (r10.m * 2 ^ k)).toArray⟩) _ (fun w R Q=>(ZeM A15 l15 c15 (r10.m * 2 ^ k) _ Q.1.1 Q.2 (by omega)).mono (fun _ _ h=>Zad h rfl)) (fun xx=>?_)
     refine Zbn 38 (.string ⟨(45 :: Lib.decDigits (r10.m * 2 ^ k)).toArray⟩) (by kernel_rfl) (by kernel_rfl) (by kernel_rfl) (by kernel_rfl) (by kernel_rfl) (by kernel_rfl) (fun w R Q=>ZeI (x:=(Operand.const (Value.string { data:=#[45] }))) (y:=(Operand.tmp 37)) (t:=9) (k:=9) (by kernel_rfl) (by kernel_rfl) (by kernel_rfl) (by have h1:=Zlo (r10.m * 2 ^ k); have h4:(⟨#[45]⟩:ByteArray).size=1:=rfl; rw [← Zam ⟨(Lib.decDigits (r10.m * 2 ^ k)).toArray⟩,ZbY]; omega) (Zg0 [45] (Lib.decDigits (r10.m * 2 ^ k)))) ?_
     refine xr 1 [(2, .v (.string ⟨(45 :: Lib.decDigits (r10.m * 2 ^ k)).toArray⟩)),(3, .p 3 0)] [(3,79,[.v (.bool r10.s), .v (.slice A10 l10 c10), .v (.int .i64 ((k:Nat):Int))])] ?_
     refine xe (Zaa (Zai (Zbv (Zah ?_))))
     refine Zaf (v:=.string ⟨(45 :: Lib.decDigits (r10.m * 2 ^ k)).toArray⟩) (by kernel_rfl) (fun w' R Q=>?_)
     exact ⟨by rw [Zph hv hk,← hms,← hss,hs1,if_neg hm0]; rfl,R⟩
    ·have hs1:=hb14
     refine Zaq (ZbT (Zaa (Zac (Zab (xq 4 [eS1 40 A10 l10 c10,(42, .v (.int .i64 ((k:Nat):Int)))] [] ?_)))))
     refine xqc 66 [.slice A10 l10 c10, .int .i64 ((k:Nat):Int)] 43 Za3 _ (fun w R Q=>(Zc7 k Q.2 (by omega) (by omega)).mono (fun _ _=>Za5)) (fun xx=>?_)
     obtain ⟨A16,l16,c16⟩:=xx
     refine xqc 67 [.slice A16 l16 c16] 44 (fun _:Unit=>.string ⟨(Lib.decDigits (r10.m * 2 ^ k)).toArray⟩) _ (fun w R Q=>(ZeM A16 l16 c16 (r10.m * 2 ^ k) _ Q.1.1 Q.2 (by omega)).mono (fun _ _ h=>Zad h rfl)) (fun xx=>?_)
     refine xq 1 [(2, .v (.string ⟨(Lib.decDigits (r10.m * 2 ^ k)).toArray⟩))] [] ?_
     refine xe (Zaa (Zai ?_))
     refine Zaf (v:=.string ⟨(Lib.decDigits (r10.m * 2 ^ k)).toArray⟩) (by kernel_rfl) (fun w' R Q=>?_)
     exact ⟨by rw [Zph hv hk,← hms,← hss,hs1,if_neg hm0]; rfl,R⟩
 ·obtain ⟨r17,hr17⟩:∃ r,ldR (bytes s) x=r:=⟨_,rfl⟩
  refine xqc 64 [.agg #[.string s, .int .i64 x]] 7 (shLd false r17) _ (fun w R Q=>((show Calls _ _ _ _ (ZdH w false r17) from by rw [← hr17,← Bool.eq_false_iff.2 hv]; exact Zb5 s x _ hs)).mono (fun _ _=>ZcQ)) (fun xx=>?_)
  obtain ⟨A17,l17,c17⟩:=xx
  refine xq 6 [(3, .p 3 0)] [(3,79,[.v (.bool r17.s), .v (.slice A17 l17 c17), .v (.int .i64 r17.e)])] ?_
  refine xe (Zaa (Zac (ZaO (Zac ?_))))
  refine SXc.know (p:=l17=wl r17.m) (fun w _ Q=>(Q.2).len0) (fun hln=>?_)
  have hzz:=@Zdx r17.m
  have hm0:r17.m=0:=by rw [← hr17,show ldR (bytes s) x=⟨false,0,0,0⟩ from if_neg hv]
  refine Zab (xq 4 [(14, .v (.bool ((((l17:Nat):Int):Int) == 0)))] [] ?_)
  rw [(show ((((l17:Nat):Int):Int) == 0)=true from beq_iff_eq.2 (by omega))]
  refine xq 1 [(10, .v (.bool true))] [] ?_
  refine xe (Zaa (xa (Zac (Zab (xq 1 [(2, .v (.string ⟨#[48]⟩))] [] ?_)))))
  refine xe (Zaa (Zai (Zbv (Zah ?_))))
  refine Zaf (v:=.string ⟨#[48]⟩) (by kernel_rfl) (fun w' R Q=>?_)
  exact ⟨by rw [show exT (bytes s) x=[48] from if_neg hv],R⟩
end Go.Proofs.YtklpdkpcocnglaaGreatDoor
