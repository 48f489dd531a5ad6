/-
 My texts Nr, Ng, Nf, Nt, Nd, Len2, Nrd, RdK, Nm, Pt, Ro, RoL put together.
-/
import Derived.Test.YtibipjlohahekaaGreatDoorM15
import Derived.Test.YtibipjlohahekaaGreatDoorM19
import Derived.Test.YtibipjlohahekaaGreatDoorM13
import Derived.Test.YtibipjlohahekaaGreatDoorM17
import Derived.Test.YtibipjlohahekaaGreatDoorM11
import Derived.Test.YtibipjlohahekaaGreatDoorM18
namespace Go.Proofs.YtibipjlohahekaaGreatDoor
open Go.RowKit
end Go.Proofs.YtibipjlohahekaaGreatDoor

namespace Go.Proofs.YtibipjlohahekaaGreatDoor
open Go.RowKit
end Go.Proofs.YtibipjlohahekaaGreatDoor

namespace Go.Proofs.YtibipjlohahekaaGreatDoor
open Go.RowKit
end Go.Proofs.YtibipjlohahekaaGreatDoor

namespace Go.Proofs.YtibipjlohahekaaGreatDoor
open Go.RowKit
end Go.Proofs.YtibipjlohahekaaGreatDoor

namespace Go.Proofs.YtibipjlohahekaaGreatDoor
open Go.RowKit
end Go.Proofs.YtibipjlohahekaaGreatDoor

namespace Go.Proofs.YtibipjlohahekaaGreatDoor
open Go.RowKit
end Go.Proofs.YtibipjlohahekaaGreatDoor

namespace Go.Proofs.YtibipjlohahekaaGreatDoor
open Go.RowKit
end Go.Proofs.YtibipjlohahekaaGreatDoor

namespace Go.Proofs.YtibipjlohahekaaGreatDoor
open Go.RowKit
section
variable {w w':World} {e:Ending} {l:List UInt8}
end
end Go.Proofs.YtibipjlohahekaaGreatDoor

namespace Go.Proofs.YtibipjlohahekaaGreatDoor
open Go.RowKit
end Go.Proofs.YtibipjlohahekaaGreatDoor

namespace Go.Proofs.YtibipjlohahekaaGreatDoor
open Go.RowKit
theorem neg_txt {q:Rat} (h:q.num < 0):ratText q=45 :: ratText (-q):=by
 have e:Lib.itoa q.num=45 :: Lib.itoa (-q.num):=by
  rw [itoa_neg h,show -q.num=((q.num.natAbs:Nat):Int) by omega,itoa_den]; rfl
 unfold ratText
 rw [rneg_num,rneg_den,e]
 split<;>simp
def absQ (q:Rat):Rat:=if q.num < 0 then -q else q
theorem abs_zero:Ending.returned (.string ⟨#[48]⟩)=Ending.returned (.string ⟨(ratText (absQ 0)).toArray⟩):=by
 rw [show absQ 0=0 from rfl,zt]
theorem trim_ret (s:ByteArray) (q:Rat) (w:World) (h:ratText q=bytes s):Calls Tryz.prog 104 #[.string s, .string ⟨#[45]⟩] w (RetV w (.string ⟨(ratText (absQ q)).toArray⟩)):=by
 refine (Tryz.strings_TrimPrefix s ⟨#[45]⟩ w).mono ?_
 rintro e w' ⟨rfl,rfl⟩
 refine ⟨?_,Fr.refl _ _⟩
 have e1:Lib.trimPrefix s.data.toList [45]=ratText (absQ q):=by
  rw [show s.data.toList=ratText q from h.symm]
  unfold absQ
  by_cases hn:q.num < 0
  ·rw [if_pos hn,neg_txt hn]; simp [Lib.trimPrefix,Lib.hasPrefix]
  ·rw [if_neg hn]
   have hne:∀ l:List UInt8,(∀ c,l.head? = some c→c≠45)→Lib.trimPrefix l [45]=l:=fun l hl=>by
    cases l with
    | nil=>simp [Lib.trimPrefix,Lib.hasPrefix]
    | cons c r =>
      have hc:=hl c rfl
      have hc':¬ 45=c:=fun e=>hc e.symm
      simp [Lib.trimPrefix,Lib.hasPrefix,List.isPrefixOf,hc']
   exact hne _ (fun c hc e=>hn ((sgn_txt (read_text q) hc).1 e))
 rw [← e1]
theorem int_txt' (x:Int):ratText ((x:Int):Rat)=Lib.itoa x:=by unfold ratText; exact if_pos rfl
set_option maxRecDepth 100000 in
theorem TAbs_any (s:ByteArray) (w:World) (hg:Glob w) (hs:(bytes s).length≤570) :
 Calls Tryz.prog 44 #[.string s] w (RetV w (.string ⟨(ratText (absQ (valF (bytes s)))).toArray⟩)):=by
 refine sx_enter (Φ:=fun w=>Glob w) Tryz.func44 rfl (by kernel_rfl) (fun w' hf=>hg.ext hf) ?_
 refine sx_seq (sx_region (xr 1 [(0, .v (.string s)),(2, .v (.string ⟨#[]⟩))] [] ?_))
 refine xe (sx_next (sx_seq (sx_seq (sx_region (xr 1 [(0, .v (.string s)),(2, .v (.string ⟨#[]⟩)),(3, .v (.string s))] [] ?_)))))
 by_cases hv:(readF (bytes s)).isSome=true
 ·obtain ⟨q,hq⟩:=Option.isSome_iff_exists.1 hv
  have hV:=valF_some hq
  refine xc 52 [.string s] 4 (fun _:Unit=>.bool true) _ (fun w hE hΦ=>(Valid_any s _ hΦ hs).mono (fun _ _ h=>post_val h (by rw [hv]))) (fun xx=>?_)
  refine xr 1 [(0, .v (.string s)),(2, .v (.string ⟨#[]⟩)),(5, .v (.bool false))] [] ?_
  refine xe (sx_next (xb (sx_skip (sx_next (sx_seq (sx_region (xr 1 [(2, .v (.string ⟨#[]⟩)),(6, .v (.string s))] [] ?_)))))))
  refine xc 104 [.string s, .string ⟨#[45]⟩] 7 (fun _:Unit=>.string ⟨(ratText (absQ q)).toArray⟩) _ (fun w hE hΦ=>(trim_ret s q _ (text_of_read hq)).mono (fun _ _ h=>post_val h rfl)) (fun xx=>?_)
  refine xr 1 [(2, .v (.string ⟨(ratText (absQ q)).toArray⟩))] [] ?_
  refine xe (sx_next (sx_ret ?_))
  refine sx_done (v:=.string ⟨(ratText (absQ q)).toArray⟩) (by kernel_rfl) (fun w' hE hΦ=>?_)
  exact ⟨by rw [hV],hE⟩
 ·have hV:valF (bytes s)=0:=valF_none (by cases h:readF (bytes s) with | none=>rfl | some q=>rw [h] at hv; exact absurd rfl hv)
  refine xc 52 [.string s] 4 (fun _:Unit=>.bool false) _ (fun w hE hΦ=>(Valid_any s _ hΦ hs).mono (fun _ _ h=>post_val h (by rw [Bool.eq_false_iff.2 hv]))) (fun xx=>?_)
  refine xr 1 [(0, .v (.string s)),(2, .v (.string ⟨#[]⟩)),(5, .v (.bool true))] [] ?_
  refine xe (sx_next (xa (sx_seq (sx_region (xr 1 [(0, .v (.string s)),(2, .v (.string ⟨#[48]⟩))] [] ?_)))))
  refine xe (sx_next (sx_ret (sx_then_ret ?_)))
  refine sx_done (v:=.string ⟨#[48]⟩) (by kernel_rfl) (fun w' hE hΦ=>?_)
  exact ⟨by rw [hV]; exact abs_zero,hE⟩
end Go.Proofs.YtibipjlohahekaaGreatDoor

namespace Go.Proofs.YtibipjlohahekaaGreatDoor
open Go.RowKit
theorem bl_bound {ys:List Nat} {t k:Nat} (hd:Dig W64 (ys ++ [t])) (hk:t < 2 ^ k):val W64 (ys ++ [t]) < 2 ^ (64 * ys.length + k):=by
 have h1:val W64 ys < W64 ^ ys.length:=val_lt (fun x hx=>hd x (List.mem_append_left _ hx))
 rw [val_append]
 have h2:W64 ^ ys.length=2 ^ (64 * ys.length):=by rw [W64_eq,show (18446744073709551616:Nat)=2 ^ 64 from rfl,← Nat.pow_mul]
 have h3:val W64 [t]=t:=by simp
 rw [h3,Nat.pow_add,← h2]
 have h4:W64 ^ ys.length * (t + 1)≤W64 ^ ys.length * 2 ^ k:=Nat.mul_le_mul_left _ hk
 rw [Nat.mul_add,Nat.mul_one] at h4
 omega
set_option maxHeartbeats 1000000 in
set_option maxRecDepth 100000 in
theorem bitLength_any (a:Value) (n:Nat) (w:World) (ha:NatIs w a n) (h0:0 < n) (hl:wl n≤1000) :
 Calls Tryz.prog 145 #[a] w (fun e w'=>∃ k:Nat,e=.returned (.int .i64 (k:Int))∧n < 2 ^ k∧k≤64 * wl n∧Ext w w'):=by
 obtain ⟨A,xs,c,rfl,hc,h1,h2,h3,h4⟩:=ha
 have hlen:=wl_len h2 h3
 rw [h4] at hlen
 have hne:xs≠[]:=fun e=>by subst e; simp at h4; omega
 obtain ⟨ys,t,rfl⟩:∃ ys t,xs=ys ++ [t]:=⟨xs.dropLast,xs.getLast hne,(List.dropLast_concat_getLast hne).symm⟩
 obtain ⟨b,o,rfl,hb,hcell⟩:=h1.at (i:=ys.length) (by simp)
 have ht:t < W64:=h2 t (List.mem_append_right _ List.mem_cons_self)
 simp at hcell
 rw [W64_eq] at ht
 obtain ⟨k,hk,hk64,hk1⟩:=bitlen_nat ht
 have hkt:t < 2 ^ k:=by
  rw [Nat.shiftRight_eq_div_pow] at hk1
  exact (Nat.div_eq_zero_iff_lt (Nat.pow_pos (by omega))).1 hk1
 have HB:=zh (bl_bound h2 hkt)
 rw [h4] at HB
 have hys:ys.length < 1000:=by simp at hlen; omega
 have HW:=zh hlen
 rw [List.length_append,List.length_singleton] at HW
 generalize hyl:ys.length=L at *
 have hxl:(ys ++ [t]).length=L + 1:=by simp [hyl]
 rw [hxl]
 clear h1 h2 h3 h4 hc hlen hne hxl hk1 hkt
 have e1:(((L + 1:Nat):Int) == 0)=false:=by simp; omega
 have e2:IntKind.i64.wrap (((L + 1:Nat):Int) - 1)=(L:Int):=by rw [IntKind.wrap_i64]; omega
 have e3:IntKind.i64.wrap (64 * (L:Int))=((64 * L:Nat):Int):=by rw [IntKind.wrap_i64]; omega
 have e4:IntKind.i64.wrap (((64 * L:Nat):Int) + (k:Int))=((64 * L + k:Nat):Int):=by rw [IntKind.wrap_i64]; omega
 have HL:Hid (∀ W:World,Calls Tryz.prog 180 #[.int .u64 (t:Int)] W fun e w'=>e=.returned (.int .i64 (k:Int))∧w'=W):=fun W=>by
  have:=Tryz.bits_Len64 (t:Int) W (by omega) (by omega)
  rwa [Int.toNat_natCast,hk] at this
 have HK:=zh hk64
 have HY:=zh hys
 clear hk ht hk64 h0 hl
 go_enter Tryz.func145,Tryz.ntmps145
 go_wp2_with fail
 refine (HL.out _).mono ?_
 rintro e w' ⟨rfl,rfl⟩
 go_wp2
 go_ret
 have hw:wrap64 (64 * (L:Int) + (k:Int))=((64 * L + k:Nat):Int):=by
  have:=HK.out; have:=HY.out
  unfold wrap64; omega
 exact ⟨64 * L + k,by rw [← hw]; rfl,HB.out,by have:=HK.out; have:=HW.out; omega,Fr.refl _ _⟩
/-! ### Newton's step -/
theorem nw_step {x r:Nat} (hr0:0 < r) (hx:0 < x):x < ((r + x / r) / 2 ^ 1 + 1) * ((r + x / r) / 2 ^ 1 + 1)∧0 < (r + x / r) / 2 ^ 1:=by
 obtain ⟨q,hq⟩:∃ q,x / r=q:=⟨_,rfl⟩
 have h1:=Nat.div_add_mod x r
 have h2:=Nat.mod_lt x hr0
 rw [hq] at h1 ⊢
 obtain ⟨m,hm⟩:∃ m,(r + q) / 2 ^ 1=m:=⟨_,rfl⟩
 rw [hm]
 have hm2:r + q≤2 * m + 1:=by omega
 have hlt:x < r * (q + 1):=by rw [Nat.mul_add,Nat.mul_one]; omega
 have h4:4 * (r * (q + 1))≤(r + q + 1) * (r + q + 1):=by
  rcases Nat.le_total r (q + 1) with h | h
  ·obtain ⟨d,hd⟩:=Nat.exists_eq_add_of_le h
   have e:r + q + 1=r + (r + d):=by omega
   rw [e,hd]
   simp only [Nat.mul_add,Nat.add_mul]
   have:=Nat.zero_le (d * d)
   rw [Nat.mul_comm d r]; omega
  ·obtain ⟨d,hd⟩:=Nat.exists_eq_add_of_le h
   have e:r + q + 1=(q + 1 + d) + (q + 1):=by omega
   rw [e,hd]
   generalize q + 1=p
   simp only [Nat.mul_add,Nat.add_mul]
   have:=Nat.zero_le (d * d)
   rw [Nat.mul_comm d p]; omega
 have h5:(r + q + 1) * (r + q + 1)≤(2 * (m + 1)) * (2 * (m + 1)):=Nat.mul_le_mul (by omega) (by omega)
 have h6:(2 * (m + 1)) * (2 * (m + 1))=4 * ((m + 1) * (m + 1)):=by
  rw [Nat.mul_mul_mul_comm]
 refine ⟨by omega,?_⟩
 rcases Nat.eq_zero_or_pos m with e | e
 ·exfalso
  subst e
  have:r=1:=by omega
  subst this
  have:q=0:=by omega
  subst this
  omega
 ·exact e
theorem nw_end {x r r0:Nat} (h:¬ (r + x / r) / 2 ^ 1 < r) (h1:x < (r + 1) * (r + 1)) (h2:r0 * r0≤x) (h3:x < (r0 + 1) * (r0 + 1)):r=r0:=by
 have hq:r≤x / r:=by omega
 have h4:r * r≤x:=by
  have:=Nat.div_mul_le_self x r
  have:=Nat.mul_le_mul_right r hq
  omega
 rcases Nat.lt_trichotomy r r0 with h5 | h5 | h5
 ·have:=Nat.mul_le_mul (show r + 1≤r0 by omega) (show r + 1≤r0 by omega); omega
 ·exact h5
 ·have:=Nat.mul_le_mul (show r0 + 1≤r by omega) (show r0 + 1≤r by omega); omega
theorem nw_start {x k:Nat} (h:x < 2 ^ k):x < (1 * 2 ^ ((k + 1) / 2) + 1) * (1 * 2 ^ ((k + 1) / 2) + 1)∧0 < 1 * 2 ^ ((k + 1) / 2):=by
 rw [Nat.one_mul]
 have h1:2 ^ k≤2 ^ ((k + 1) / 2) * 2 ^ ((k + 1) / 2):=by rw [← Nat.pow_add]; exact Nat.pow_le_pow_right (by omega) (by omega)
 have h2:=Nat.pow_pos (n:=(k + 1) / 2) (show 0 < 2 by omega)
 refine ⟨?_,h2⟩
 have:=Nat.mul_le_mul (Nat.le_succ (2 ^ ((k + 1) / 2))) (Nat.le_succ (2 ^ ((k + 1) / 2)))
 simp only [Nat.succ_eq_add_one] at this
 omega
theorem nw_wl {k m:Nat} (h:k≤64 * m):wl (1 * 2 ^ ((k + 1) / 2))≤m + 1:=by
 rw [Nat.one_mul]
 refine wl_le_iff.2 ?_
 rw [W64_eq,show (18446744073709551616:Nat)=2 ^ 64 from rfl,← Nat.pow_mul]
 exact Nat.pow_lt_pow_right (by omega) (by omega)
theorem post_Bl {n:Nat} {w w':World} {e:Ending} (h:∃ k:Nat,e=.returned (.int .i64 (k:Int))∧n < 2 ^ k∧k≤64 * wl n∧Ext w w'):PostC (fun k:{k:Nat // n < 2 ^ k∧k≤64 * wl n}=>.int .i64 (k.1:Int)) (fun _ _=>True) w e w':=by
 obtain ⟨k,rfl,h1,h2,hE⟩:=h
 exact ⟨⟨k,h1,h2⟩,rfl,hE,BoxN.pure trivial⟩
theorem post_Two2 {q r:Nat} {w w':World} {e:Ending} (h:RetTwo w q r e w'):PostC (fun x:ShN × ShN=>.tuple #[shNat x.1,shNat x.2]) (fun x w=>NatIs w (shNat x.1) q∧NatIs w (shNat x.2) r) w e w':=by
 obtain ⟨u,v,rfl,h1,h2,hE⟩:=h
 obtain ⟨A,l,c,rfl⟩:=h1.slice
 obtain ⟨A2,l2,c2,rfl⟩:=h2.slice
 exact ⟨((A,l,c),(A2,l2,c2)),rfl,hE,boxn hE (fun S w'' hS hF=>⟨h1.nrb hS hF,h2.nrb hS hF⟩)⟩
theorem cmp_ret {u v:Value} {m n:Nat} {w:World} (hu:NatIs w u m) (hv:NatIs w v n) (hm:wl m≤1000) (hn:wl n≤1000):Calls Tryz.prog 141 #[u,v] w (RetV w (.int .i64 (cmpI m n))):=by
 refine (compare_nat u v m n w hu hv (by omega) (by omega)).mono ?_
 rintro e w' ⟨rfl,k,rfl⟩
 exact ⟨rfl,(Fr.refl _ _).drewN k⟩
theorem cmp_lt {a b:Nat} (h:a < b):decide (cmpI a b ≥ 0)=false:=decide_eq_false (by have:=cmpI_neg.2 h; omega)
theorem cmp_ge {a b:Nat} (h:¬ a < b):decide (cmpI a b ≥ 0)=true:=decide_eq_true (by
 rcases Int.lt_or_le (cmpI a b) 0 with h1 | h1
 ·exact absurd (cmpI_neg.1 h1) h
 ·exact h1)
theorem cmp_eq {a b:Nat} (h:a=b):((cmpI a b:Int) == 0)=true:=by subst h; simp [cmpI]
theorem cmp_ne {a b:Nat} (h:¬ a=b):((cmpI a b:Int) == 0)=false:=by
 have:cmpI a b≠0:=by unfold cmpI; split<;>(try split)<;>omega
 simpa using this
theorem l_nz {n:Nat} (h:¬ n=0):(((n:Nat):Int) == 0)=false:=by simp; omega
theorem rw1 {k:Nat} (h:k≤100000):IntKind.i64.wrap ((k:Int) + 1)=((k + 1:Nat):Int):=by rw [IntKind.wrap_i64]; omega
theorem rw2 {k:Nat} (h:k≤100000):IntKind.u64.wrap ((k + 1:Nat):Int)=((k + 1:Nat):Int):=by rw [IntKind.wrap_u64]; omega
theorem rw3 {k:Nat} (h:k≤100000):IntKind.u64.wrap ((((k + 1:Nat):Int)).tdiv 2)=(((k + 1) / 2:Nat):Int):=by
 rw [Int.tdiv_eq_ediv_of_nonneg (by omega),IntKind.wrap_u64]; omega
def RetIB (w:World) (z:Int) (b:Bool) (e:Ending) (w':World):Prop:=∃ v,e=.returned (.tuple #[v, .bool b])∧IntIs w' v z∧Ext w w'
theorem post_IB {w w':World} {e:Ending} {z:Int} {b:Bool} (h:RetIB w z b e w'):PostC (fun x:ShI=>.tuple #[shInt x, .bool b]) (fun x w=>IntIs w (shInt x) z) w e w':=by
 obtain ⟨v,rfl,hI,hE⟩:=h
 obtain ⟨s,A,l,c,rfl⟩:=hI.shape
 exact ⟨(s,A,l,c),rfl,hE,boxn hE (fun S w'' hS hF=>hI.nrb hS hF)⟩
theorem IntIs.ofNat {w:World} {A:Option Addr} {l c n:Nat} (h:NatIs w (.slice A l c) n):IntIs w (.agg #[.bool false, .slice A l c]) (n:Int):=⟨false,_,n,rfl,h,fun _=>rfl,rfl⟩
theorem wl_sq {r x:Nat} (h:r * r≤x):wl r≤wl x:=by
 refine wl_mono ?_
 rcases Nat.eq_zero_or_pos r with e | e
 ·omega
 ·exact Nat.le_trans (Nat.le_mul_of_pos_right r e) h
set_option maxRecDepth 100000 in
theorem rootWords_pos (a:Value) (x r0:Nat) (w:World) (ha:NatIs w a x) (h0:0 < x) (hx:wl x≤70) (h1:r0 * r0≤x) (h2:x < (r0 + 1) * (r0 + 1)) :
 Calls Tryz.prog 140 #[a] w (RetNat w r0):=by
 obtain ⟨A0,l0,c0,rfl⟩:=ha.slice
 have hl0:¬ l0=0:=by have:=ha.len0; have:=wl_pos h0; omega
 refine sx_enter (Φ:=fun w=>NatIs w (.slice A0 l0 c0) (x)) Tryz.func140 rfl (by kernel_rfl) (fun w' hf=>ha.ext hf) ?_
 refine sx_seq (sx_region (xr 1 [eS1 0 A0 l0 c0,eS1 2 none 0 0] [] ?_))
 refine xe (sx_next (sx_seq (sx_seq (sx_region (xr 3 [eS1 0 A0 l0 c0,eS1 2 none 0 0,(9, .v (.bool ((((l0:Nat):Int):Int) == 0)))] [] ?_)))))
 rw [l_nz hl0]
 refine xr 0 [eS1 0 A0 l0 c0,eS1 2 none 0 0,(9, .v (.bool false))] [] ?_
 refine xe (sx_next (xb (sx_skip (sx_next (sx_seq (sx_region ?_))))))
 refine sx_does (d:=10) shNat (fun x w=>NatIs w (shNat x) 1) (by kernel_rfl) (by kernel_rfl) (by kernel_rfl) (by kernel_rfl) (by kernel_rfl) (by kernel_rfl) (fun w hE hΦ=>does_one64 (t:=61) (by kernel_rfl) (by kernel_rfl) (by kernel_rfl) (by kernel_rfl)) (fun xx=>?_)
 obtain ⟨A10,l10,c10⟩:=xx
 refine xr 1 [eS1 0 A0 l0 c0,eS1 2 none 0 0,eS1 10 A10 l10 c10,eS1 11 A0 l0 c0] [] ?_
 refine xc 145 [.slice A0 l0 c0] 12 (fun k:{k:Nat // x < 2 ^ k∧k≤64 * wl x}=>.int .i64 (k.1:Int)) _ (fun w hE hΦ=>(bitLength_any _ (x) _ hΦ.1 h0 (by omega)).mono (fun _ _ h=>post_Bl h)) (fun xx=>?_)
 obtain ⟨k,hk1,hk2⟩:=xx
 refine xr 1 [eS1 0 A0 l0 c0,eS1 2 none 0 0,eS1 10 A10 l10 c10,(13, .v (.int .i64 (IntKind.i64.wrap ((k:Int) + 1))))] [] ?_
 rw [rw1 (k:=k) (by omega)]
 refine xr 1 [eS1 0 A0 l0 c0,eS1 2 none 0 0,eS1 10 A10 l10 c10,(14, .v (.int .u64 (IntKind.u64.wrap (((k + 1:Nat):Int)))))] [] ?_
 rw [rw2 (k:=k) (by omega)]
 refine xr 1 [eS1 0 A0 l0 c0,eS1 2 none 0 0,eS1 10 A10 l10 c10,(15, .v (.int .u64 (IntKind.u64.wrap ((((k + 1:Nat):Int)).tdiv 2))))] [] ?_
 rw [rw3 (k:=k) (by omega)]
 refine xc 175 [.slice A10 l10 c10, .int .u64 (((k + 1) / 2:Nat):Int)] 16 shNat _ (fun w hE hΦ=>(shiftLeft_any _ 1 ((k + 1) / 2) _ hΦ.1.2 (Nat.le_trans (wl_one.2 (by rw [W64_eq]; decide)) (by decide)) (by omega)).mono (fun _ _ h=>post_Nat h)) (fun xx=>?_)
 obtain ⟨A11,l11,c11⟩:=xx
 refine xr 1 [eS1 0 A0 l0 c0,eS1 2 none 0 0,eS1 3 A11 l11 c11] [] ?_
 refine xe (sx_next (sx_block ?_))
 refine SXc.weak [(0, .v (.slice A0 l0 c0)),(2, .v (.slice none 0 0)),(3, .v (.slice A11 l11 c11))] [] (Ψ:=fun w=>(NatIs w (.slice A0 l0 c0) (x)∧NatIs w (.slice A11 l11 c11) ((1 * 2 ^ ((k + 1) / 2))))) (SameL.of (by kernel_rfl)) (by kernel_rfl) (fun w hΦ=>⟨hΦ.1.1.1,hΦ.2⟩) ?_
 refine sx_loop (fun nn ss ff=>∃ (gA:Option Addr) (gl gc r:Nat),ss=ofL [(0, .v (.slice A0 l0 c0)),(2, .v (.slice none 0 0)),(3, .v (.slice gA gl gc))] []∧ff=(fun w=>(NatIs w (.slice A0 l0 c0) (x)∧NatIs w (.slice gA gl gc) (r)))∧(x < (r + 1) * (r + 1))∧(0 < r)∧(wl r≤71)∧nn=(1 + r)) ((1 + (1 * 2 ^ ((k + 1) / 2)))) ⟨A11,l11,c11,(1 * 2 ^ ((k + 1) / 2)),rfl,rfl,(nw_start hk1).1,(nw_start hk1).2,(Nat.le_trans (nw_wl (m:=wl x) hk2) (by omega)),rfl⟩ ?_
 rintro nn ss ff ⟨gA,gl,gc,r,rfl,rfl,hr,hr0,hw,rfl⟩
 refine sx_block (sx_seq (sx_region (xr 2 [eS1 0 A0 l0 c0,eS1 2 none 0 0,eS1 3 gA gl gc,eS1 18 A0 l0 c0,eS1 19 gA gl gc] [] ?_)))
 refine xc 166 [.slice A0 l0 c0, .slice gA gl gc] 20 (fun x:ShN × ShN=>.tuple #[shNat x.1,shNat x.2]) _ (fun w hE hΦ=>(divideWords_any _ _ (x) (r) _ hΦ.1 hΦ.2 (by omega) (by omega) hr0).mono (fun _ _ h=>post_Two2 h)) (fun xx=>?_)
 obtain ⟨⟨A12,l12,c12⟩,⟨A13,l13,c13⟩⟩:=xx
 refine xr 5 [eS1 0 A0 l0 c0,eS1 2 none 0 0,eS1 3 gA gl gc,eS1 4 A12 l12 c12] [] ?_
 refine xe (sx_next (sx_seq (sx_region (xr 2 [eS1 0 A0 l0 c0,eS1 2 none 0 0,eS1 3 gA gl gc,eS1 23 gA gl gc,eS1 24 A12 l12 c12] [] ?_))))
 refine xc 157 [.slice gA gl gc, .slice A12 l12 c12] 25 shNat _ (fun w hE hΦ=>(addWords_any _ _ (r) (x / r) _ hΦ.1.2 hΦ.2.1 (by omega) (Nat.le_trans (wl_mono (Nat.div_le_self x r)) (by omega))).mono (fun _ _ h=>post_Nat h)) (fun xx=>?_)
 obtain ⟨A14,l14,c14⟩:=xx
 refine xr 0 [eS1 0 A0 l0 c0,eS1 2 none 0 0,eS1 3 gA gl gc,eS1 25 A14 l14 c14] [] ?_
 refine xc 176 [.slice A14 l14 c14, .int .u64 1] 26 shNat _ (fun w hE hΦ=>(shiftRight_any _ (r + x / r) 1 _ hΦ.2 (Nat.le_trans (wl_add (k:=71) (by omega) (Nat.le_trans (wl_mono (Nat.div_le_self x r)) (by omega))) (by decide)) (by decide)).mono (fun _ _ h=>post_Nat h)) (fun xx=>?_)
 obtain ⟨A15,l15,c15⟩:=xx
 refine xr 1 [eS1 0 A0 l0 c0,eS1 2 none 0 0,eS1 3 gA gl gc,eS1 6 A15 l15 c15] [] ?_
 refine xe (sx_next (sx_seq (sx_seq ?_)))
 by_cases hlt:(r + x / r) / 2 ^ 1 < r
 ·refine sx_region (xr 2 [eS1 0 A0 l0 c0,eS1 2 none 0 0,eS1 3 gA gl gc,eS1 6 A15 l15 c15,eS1 27 A15 l15 c15,eS1 28 gA gl gc] [] ?_)
  refine xc 141 [.slice A15 l15 c15, .slice gA gl gc] 29 (fun _:Unit=>.int .i64 (cmpI (((r + x / r) / 2 ^ 1:Nat):Int) ((r:Nat):Int))) _ (fun w hE hΦ=>(cmp_ret hΦ.2 hΦ.1.1.1.2 (Nat.le_trans (wl_mono (Nat.div_le_self _ _)) (Nat.le_trans (wl_add (k:=71) (by omega) (Nat.le_trans (wl_mono (Nat.div_le_self x r)) (by omega))) (by decide))) (by omega)).mono (fun _ _ h=>post_val h rfl)) (fun xx=>?_)
  refine xr 1 [eS1 0 A0 l0 c0,eS1 2 none 0 0,eS1 3 gA gl gc,eS1 6 A15 l15 c15,(30, .v (.bool (decide ((cmpI (((r + x / r) / 2 ^ 1:Nat):Int) ((r:Nat):Int)) ≥ 0))))] [] ?_
  rw [cmp_lt hlt]
  refine xr 0 [eS1 0 A0 l0 c0,eS1 2 none 0 0,eS1 3 gA gl gc,eS1 6 A15 l15 c15,(30, .v (.bool false))] [] ?_
  refine xe (sx_next (xb (sx_skip (sx_next (sx_region (xr 2 [eS1 0 A0 l0 c0,eS1 2 none 0 0,eS1 3 A15 l15 c15] [] ?_))))))
  refine xe (sx_out ?_)
  refine SXq.weak [(0, .v (.slice A0 l0 c0)),(2, .v (.slice none 0 0)),(3, .v (.slice A15 l15 c15))] [] (Ψ:=fun w=>(NatIs w (.slice A0 l0 c0) (x)∧NatIs w (.slice A15 l15 c15) (((r + x / r) / 2 ^ 1)))) (SameL.of (by kernel_rfl)) (by kernel_rfl) (fun w hΦ=>⟨hΦ.1.1.1.1.1,hΦ.1.2⟩) ?_
  exact sx_round ((1 + ((r + x / r) / 2 ^ 1))) (by omega) ⟨A15,l15,c15,((r + x / r) / 2 ^ 1),rfl,rfl,(nw_step hr0 h0).1,(nw_step hr0 h0).2,(Nat.le_trans (wl_mono (Nat.le_of_lt hlt)) hw),rfl⟩
 ·refine sx_region (xr 2 [eS1 0 A0 l0 c0,eS1 2 none 0 0,eS1 3 gA gl gc,eS1 6 A15 l15 c15,eS1 27 A15 l15 c15,eS1 28 gA gl gc] [] ?_)
  refine xc 141 [.slice A15 l15 c15, .slice gA gl gc] 29 (fun _:Unit=>.int .i64 (cmpI (((r + x / r) / 2 ^ 1:Nat):Int) ((r:Nat):Int))) _ (fun w hE hΦ=>(cmp_ret hΦ.2 hΦ.1.1.1.2 (Nat.le_trans (wl_mono (Nat.div_le_self _ _)) (Nat.le_trans (wl_add (k:=71) (by omega) (Nat.le_trans (wl_mono (Nat.div_le_self x r)) (by omega))) (by decide))) (by omega)).mono (fun _ _ h=>post_val h rfl)) (fun xx=>?_)
  refine xr 1 [eS1 0 A0 l0 c0,eS1 2 none 0 0,eS1 3 gA gl gc,eS1 6 A15 l15 c15,(30, .v (.bool (decide ((cmpI (((r + x / r) / 2 ^ 1:Nat):Int) ((r:Nat):Int)) ≥ 0))))] [] ?_
  rw [cmp_ge hlt]
  refine xr 0 [eS1 0 A0 l0 c0,eS1 2 none 0 0,eS1 3 gA gl gc,eS1 6 A15 l15 c15,(30, .v (.bool true))] [] ?_
  refine xe (sx_next (xa (sx_seq (sx_region (xr 2 [eS1 0 A0 l0 c0,eS1 2 gA gl gc,eS1 3 gA gl gc,eS1 6 A15 l15 c15] [] ?_)))))
  refine xe (sx_next (sx_ret (sx_then_ret (sx_in_ret (sx_then_ret (sx_in_ret ?_))))))
  refine sx_done (v:=.slice gA gl gc) (by kernel_rfl) (fun w' hE hΦ=>?_)
  exact ⟨_,rfl,by have h:=hΦ.1.1.1.1.2; rwa [nw_end hlt hr h1 h2] at h,hE⟩
set_option maxRecDepth 100000 in
theorem rootWords_zero (a:Value) (w:World) (ha:NatIs w a 0) :
 Calls Tryz.prog 140 #[a] w (RetNat w 0):=by
 obtain ⟨A0,l0,c0,rfl⟩:=ha.slice
 obtain rfl:l0=0:=by have:=ha.len0; rw [wl_zero] at this; exact this
 refine sx_enter (Φ:=fun w=>NatIs w (.slice A0 0 c0) (0)) Tryz.func140 rfl (by kernel_rfl) (fun w' hf=>ha.ext hf) ?_
 refine sx_seq (sx_region (xr 1 [eS1 0 A0 0 c0,eS1 2 none 0 0] [] ?_))
 refine xe (sx_next (sx_seq (sx_seq (sx_region (xr 3 [eS1 0 A0 0 c0,eS1 2 none 0 0,(9, .v (.bool true))] [] ?_)))))
 refine xe (sx_next (xa (sx_seq (sx_region (xr 1 [eS1 0 A0 0 c0,eS1 2 none 0 0] [] ?_)))))
 refine xe (sx_next (sx_ret (sx_then_ret ?_)))
 refine sx_done (v:=.slice none 0 0) (by kernel_rfl) (fun w' hE hΦ=>?_)
 exact ⟨_,rfl,NatIs.zero _,hE⟩
theorem rootWords_any (a:Value) (x r0:Nat) (w:World) (ha:NatIs w a x) (hx:wl x≤70) (h1:r0 * r0≤x) (h2:x < (r0 + 1) * (r0 + 1)):Calls Tryz.prog 140 #[a] w (RetNat w r0):=by
 rcases Nat.eq_zero_or_pos x with rfl | h0
 ·obtain rfl:r0=0:=by
   rcases Nat.eq_zero_or_pos r0 with e | e
   ·exact e
   ·have:=Nat.mul_le_mul e e; omega
  exact rootWords_zero a w ha
 ·exact rootWords_pos a x r0 w ha h0 hx h1 h2
set_option maxRecDepth 100000 in
theorem IRoot_any (a:Value) (x:Int) (r0:Nat) (w:World) (ha:IntIs w a x) (h0:0≤x) (hx:wl x.natAbs≤70) (h39:wl r0 < 40) (h1:r0 * r0≤x.natAbs) (h2:x.natAbs < (r0 + 1) * (r0 + 1)) :
 Calls Tryz.prog 94 #[a] w (RetIB w (r0:Int) (decide (r0 * r0=x.natAbs))):=by
 obtain ⟨A0,l0,c0,rfl⟩:=int_pos ha h0
 refine sx_enter (Φ:=fun w=>IntIs w (.agg #[.bool false, .slice A0 l0 c0]) (x)) Tryz.func94 rfl (by kernel_rfl) (fun w' hf=>ha.ext hf) ?_
 refine sx_seq (sx_region (xr 3 [(1, .p 1 0),(2, .p 2 0),(3, .v (.bool false))] [bI2 2 63 false none 0 0,bI2 1 63 false A0 l0 c0] ?_))
 refine xe (sx_next (sx_seq (sx_seq (sx_region (xr 2 [(1, .p 1 0),(2, .p 2 0),(3, .v (.bool false)),(6, .v (.bool false))] [bI2 2 63 false none 0 0,bI2 1 63 false A0 l0 c0] ?_)))))
 refine xe (sx_next (xb (sx_skip (sx_next (sx_seq (sx_region (xr 2 [(1, .p 1 0),(2, .p 2 0),(3, .v (.bool false)),eS1 9 A0 l0 c0] [bI2 2 63 false none 0 0,bI2 1 63 false A0 l0 c0] ?_)))))))
 refine xc 140 [.slice A0 l0 c0] 10 shNat _ (fun w hE hΦ=>(rootWords_any _ x.natAbs r0 _ hΦ.mag hx h1 h2).mono (fun _ _ h=>post_Nat h)) (fun xx=>?_)
 obtain ⟨A10,l10,c10⟩:=xx
 refine xr 1 [(1, .p 1 0),(2, .p 2 0),(3, .v (.bool false)),eS1 4 A10 l10 c10] [bI2 2 63 false none 0 0,bI2 1 63 false A0 l0 c0] ?_
 refine xe (sx_next (sx_seq ?_))
 by_cases hsq:r0 * r0=x.natAbs
 ·refine sx_draw 11 (by kernel_rfl) (by kernel_rfl) follows_mixed' ?_
  refine xf 4 [(1, .p 1 0),(2, .p 2 0),(3, .v (.bool false)),eI2 12 false A10 l10 c10,eS1 13 A10 l10 c10,eS1 14 A10 l10 c10] [bI2 2 63 false none 0 0,bI2 1 63 false A0 l0 c0] ?_
  refine xd 136 [.slice A10 l10 c10, .slice A10 l10 c10] 15 shNat _ (fun w hE hΦ=>(multiplyWords_any _ _ r0 r0 _ hΦ.2 hΦ.2 (by omega) (by omega) (Or.inl h39)).mono (fun _ _ h=>post_Nat h)) (fun xx=>?_)
  obtain ⟨A11,l11,c11⟩:=xx
  refine xf 2 [(2, .p 2 0),(3, .v (.bool false)),eI2 12 false A10 l10 c10,eS1 15 A11 l11 c11,eS1 17 A0 l0 c0] [bI2 2 63 false none 0 0,bI2 1 63 false A0 l0 c0] ?_
  refine xd 141 [.slice A11 l11 c11, .slice A0 l0 c0] 18 (fun _:Unit=>.int .i64 (cmpI ((r0 * r0:Nat):Int) ((x.natAbs:Nat):Int))) _ (fun w hE hΦ=>(cmp_ret hΦ.2 hΦ.1.1.mag (Nat.le_trans (wl_mono h1) (by omega)) (by omega)).mono (fun _ _ h=>post_val h rfl)) (fun xx=>?_)
  refine xf 1 [(2, .p 2 0),(3, .v (.bool false)),eI2 12 false A10 l10 c10,(19, .v (.bool (((cmpI ((r0 * r0:Nat):Int) ((x.natAbs:Nat):Int)):Int) == 0)))] [bI2 2 63 false none 0 0,bI2 1 63 false A0 l0 c0] ?_
  rw [cmp_eq hsq]
  refine xf 2 [(2, .p 2 0),(3, .v (.bool true))] [bI2 2 63 false A10 l10 c10,bI2 2 63 false none 0 0,bI2 1 63 false A0 l0 c0] ?_
  refine xz (xe (sx_next (sx_ret ?_)))
  refine sx_done (v:=.tuple #[.agg #[.bool false, .slice A10 l10 c10], .bool true]) (by kernel_rfl) (fun w' hE hΦ=>?_)
  exact ⟨_,by rw [decide_eq_true hsq],IntIs.ofNat hΦ.1.1.2,hE⟩
 ·refine sx_draw 11 (by kernel_rfl) (by kernel_rfl) follows_mixed' ?_
  refine xf 4 [(1, .p 1 0),(2, .p 2 0),(3, .v (.bool false)),eI2 12 false A10 l10 c10,eS1 13 A10 l10 c10,eS1 14 A10 l10 c10] [bI2 2 63 false none 0 0,bI2 1 63 false A0 l0 c0] ?_
  refine xd 136 [.slice A10 l10 c10, .slice A10 l10 c10] 15 shNat _ (fun w hE hΦ=>(multiplyWords_any _ _ r0 r0 _ hΦ.2 hΦ.2 (by omega) (by omega) (Or.inl h39)).mono (fun _ _ h=>post_Nat h)) (fun xx=>?_)
  obtain ⟨A12,l12,c12⟩:=xx
  refine xf 2 [(2, .p 2 0),(3, .v (.bool false)),eI2 12 false A10 l10 c10,eS1 15 A12 l12 c12,eS1 17 A0 l0 c0] [bI2 2 63 false none 0 0,bI2 1 63 false A0 l0 c0] ?_
  refine xd 141 [.slice A12 l12 c12, .slice A0 l0 c0] 18 (fun _:Unit=>.int .i64 (cmpI ((r0 * r0:Nat):Int) ((x.natAbs:Nat):Int))) _ (fun w hE hΦ=>(cmp_ret hΦ.2 hΦ.1.1.mag (Nat.le_trans (wl_mono h1) (by omega)) (by omega)).mono (fun _ _ h=>post_val h rfl)) (fun xx=>?_)
  refine xf 1 [(2, .p 2 0),(3, .v (.bool false)),eI2 12 false A10 l10 c10,(19, .v (.bool (((cmpI ((r0 * r0:Nat):Int) ((x.natAbs:Nat):Int)):Int) == 0)))] [bI2 2 63 false none 0 0,bI2 1 63 false A0 l0 c0] ?_
  rw [cmp_ne hsq]
  refine xf 2 [(2, .p 2 0),(3, .v (.bool false))] [bI2 2 63 false A10 l10 c10,bI2 2 63 false none 0 0,bI2 1 63 false A0 l0 c0] ?_
  refine xz (xe (sx_next (sx_ret ?_)))
  refine sx_done (v:=.tuple #[.agg #[.bool false, .slice A10 l10 c10], .bool false]) (by kernel_rfl) (fun w' hE hΦ=>?_)
  exact ⟨_,by rw [decide_eq_false hsq],IntIs.ofNat hΦ.1.1.2,hE⟩
set_option maxRecDepth 100000 in
theorem TRoot_sq (s:ByteArray) (Q:Rat) (n d:Nat) (w:World) (hg:Glob w) (hs:(bytes s).length≤570) (hn0:0≤(valF (bytes s)).num) (hn:n * n≤(valF (bytes s)).num.natAbs∧(valF (bytes s)).num.natAbs < (n + 1) * (n + 1)∧n * n=(valF (bytes s)).num.natAbs) (hd:d * d≤((valF (bytes s)).den:Int).natAbs∧((valF (bytes s)).den:Int).natAbs < (d + 1) * (d + 1)∧d * d=((valF (bytes s)).den:Int).natAbs) (hQn:Q.num=(n:Int)) (hQd:(Q.den:Int)=(d:Int)) :
 Calls Tryz.prog 36 #[.string s] w (RetV w (.tuple #[.string ⟨(ratText Q).toArray⟩, .bool true])):=by
 have fa:=valF_fits hs
 have hd0:(0:Int)≤((valF (bytes s)).den:Int):=by omega
 have HP:PrtOk Q.num.natAbs∧PrtOk Q.den:=by
  have e1:Q.num.natAbs=n:=by omega
  have e2:Q.den=d:=by omega
  rw [e1,e2]
  have h1:=Nat.le_trans (wl_sq hn.1) fa.1
  have h2:=Nat.le_trans (wl_sq hd.1) (wlc fa.2)
  unfold PrtOk; omega
 refine sx_enter (Φ:=fun w=>Glob w) Tryz.func36 rfl (by kernel_rfl) (fun w' hf=>hg.ext hf) ?_
 refine sx_seq (sx_region (xr 2 [(0, .v (.string s)),(2, .v (.string ⟨#[]⟩)),(3, .v (.bool false))] [] ?_))
 refine xe (sx_next (sx_seq (sx_region (xr 1 [(2, .v (.string ⟨#[]⟩)),(3, .v (.bool false)),(9, .v (.string s))] [] ?_))))
 refine xc 75 [.string s] 10 shRat _ (fun w hE hΦ=>(value_any s _ hΦ (ReadOk.of_len hs)).mono (fun _ _ h=>post_Rat h)) (fun xx=>?_)
 obtain ⟨s10,A10,l10,c10,t10,B10,m10,d10⟩:=xx
 refine xr 2 [(2, .v (.string ⟨#[]⟩)),(3, .v (.bool false)),(4, .p 4 0)] [bR4 4 70 s10 A10 l10 c10 t10 B10 m10 d10] ?_
 refine xe (sx_next (sx_seq (sx_region (xr 2 [(2, .v (.string ⟨#[]⟩)),(3, .v (.bool false)),(4, .p 4 0),eI2 13 s10 A10 l10 c10] [bR4 4 70 s10 A10 l10 c10 t10 B10 m10 d10] ?_))))
 refine xc 94 [vI2 s10 A10 l10 c10] 14 (fun x:ShI=>.tuple #[shInt x, .bool true]) _ (fun w hE hΦ=>(IRoot_any _ ((valF (bytes s)).num) n _ hΦ.2.num hn0 (Nat.le_trans fa.1 (by decide)) (Nat.lt_of_le_of_lt (Nat.le_trans (wl_sq hn.1) fa.1) (by decide)) hn.1 hn.2.1).mono (fun _ _ h=>post_IB (by rw [decide_eq_true hn.2.2] at h; exact h))) (fun xx=>?_)
 obtain ⟨s11,A11,l11,c11⟩:=xx
 refine xr 6 [(2, .v (.string ⟨#[]⟩)),(3, .v (.bool false)),(4, .p 4 0),(5, .p 5 0),(6, .v (.bool true))] [bI2 5 63 s11 A11 l11 c11,bR4 4 70 s10 A10 l10 c10 t10 B10 m10 d10] ?_
 refine xe (sx_next (sx_seq (sx_seq (sx_region (xr 2 [(2, .v (.string ⟨#[]⟩)),(3, .v (.bool false)),(4, .p 4 0),(5, .p 5 0),(18, .v (.bool false))] [bI2 5 63 s11 A11 l11 c11,bR4 4 70 s10 A10 l10 c10 t10 B10 m10 d10] ?_)))))
 refine xe (sx_next (xb (sx_skip (sx_next (sx_seq (sx_region (xr 1 [(2, .v (.string ⟨#[]⟩)),(3, .v (.bool false)),(5, .p 5 0),eR4 20 s10 A10 l10 c10 t10 B10 m10 d10] [bI2 5 63 s11 A11 l11 c11] ?_)))))))
 refine xc 89 [vR4 s10 A10 l10 c10 t10 B10 m10 d10] 21 shInt _ (fun w hE hΦ=>(Den_any _ (valF (bytes s)) _ hΦ.1.2).mono (fun _ _ h=>post_Int h)) (fun xx=>?_)
 obtain ⟨s12,A12,l12,c12⟩:=xx
 refine xr 0 [(2, .v (.string ⟨#[]⟩)),(3, .v (.bool false)),(5, .p 5 0),eI2 21 s12 A12 l12 c12] [bI2 5 63 s11 A11 l11 c11] ?_
 refine xc 94 [vI2 s12 A12 l12 c12] 22 (fun x:ShI=>.tuple #[shInt x, .bool true]) _ (fun w hE hΦ=>(IRoot_any _ (((valF (bytes s)).den:Int)) d _ hΦ.2 hd0 (Nat.le_trans (wlc fa.2) (by decide)) (Nat.lt_of_le_of_lt (Nat.le_trans (wl_sq hd.1) (wlc fa.2)) (by decide)) hd.1 hd.2.1).mono (fun _ _ h=>post_IB (by rw [decide_eq_true hd.2.2] at h; exact h))) (fun xx=>?_)
 obtain ⟨s13,A13,l13,c13⟩:=xx
 refine xr 6 [(2, .v (.string ⟨#[]⟩)),(3, .v (.bool false)),(5, .p 5 0),(7, .p 7 0),(8, .v (.bool true))] [bI2 7 63 s13 A13 l13 c13,bI2 5 63 s11 A11 l11 c11] ?_
 refine xe (sx_next (sx_seq (sx_seq (sx_region (xr 2 [(2, .v (.string ⟨#[]⟩)),(3, .v (.bool false)),(5, .p 5 0),(7, .p 7 0),(26, .v (.bool false))] [bI2 7 63 s13 A13 l13 c13,bI2 5 63 s11 A11 l11 c11] ?_)))))
 refine xe (sx_next (xb (sx_skip (sx_next (sx_seq (sx_region (xr 2 [(2, .v (.string ⟨#[]⟩)),(3, .v (.bool false)),eI2 27 s11 A11 l11 c11,eI2 28 s13 A13 l13 c13] [] ?_)))))))
 refine xc 95 [vI2 s11 A11 l11 c11,vI2 s13 A13 l13 c13] 29 shRat _ (fun w hE hΦ=>(lowest_any _ _ ((n:Int)) ((d:Int)) Q _ hΦ.1.1.2 hΦ.2 ⟨hQn,hQd⟩).mono (fun _ _ h=>post_Rat h)) (fun xx=>?_)
 obtain ⟨s14,A14,l14,c14,t14,B14,m14,d14⟩:=xx
 refine xr 0 [(2, .v (.string ⟨#[]⟩)),(3, .v (.bool false)),eR4 29 s14 A14 l14 c14 t14 B14 m14 d14] [] ?_
 refine xc 63 [vR4 s14 A14 l14 c14 t14 B14 m14 d14] 30 (fun _:Unit=>.string ⟨(ratText Q).toArray⟩) _ (fun w hE hΦ=>(RString_any _ Q _ hΦ.1.1.1.1.1 hΦ.2 HP.1 HP.2).mono (fun _ _ h=>post_val h rfl)) (fun xx=>?_)
 refine xr 2 [(2, .v (.string ⟨(ratText Q).toArray⟩)),(3, .v (.bool true))] [] ?_
 refine xe (sx_next (sx_ret ?_))
 refine sx_done (v:=.tuple #[.string ⟨(ratText Q).toArray⟩, .bool true]) (by kernel_rfl) (fun w' hE hΦ=>?_)
 exact ⟨rfl,hE⟩
set_option maxRecDepth 100000 in
theorem TRoot_no (s:ByteArray) (n:Nat) (w:World) (hg:Glob w) (hs:(bytes s).length≤570) (hn0:0≤(valF (bytes s)).num) (hn:n * n≤(valF (bytes s)).num.natAbs∧(valF (bytes s)).num.natAbs < (n + 1) * (n + 1)∧¬ n * n=(valF (bytes s)).num.natAbs) :
 Calls Tryz.prog 36 #[.string s] w (RetV w (.tuple #[.string ⟨#[]⟩, .bool false])):=by
 have fa:=valF_fits hs
 refine sx_enter (Φ:=fun w=>Glob w) Tryz.func36 rfl (by kernel_rfl) (fun w' hf=>hg.ext hf) ?_
 refine sx_seq (sx_region (xr 2 [(0, .v (.string s)),(2, .v (.string ⟨#[]⟩)),(3, .v (.bool false))] [] ?_))
 refine xe (sx_next (sx_seq (sx_region (xr 1 [(2, .v (.string ⟨#[]⟩)),(3, .v (.bool false)),(9, .v (.string s))] [] ?_))))
 refine xc 75 [.string s] 10 shRat _ (fun w hE hΦ=>(value_any s _ hΦ (ReadOk.of_len hs)).mono (fun _ _ h=>post_Rat h)) (fun xx=>?_)
 obtain ⟨s10,A10,l10,c10,t10,B10,m10,d10⟩:=xx
 refine xr 2 [(2, .v (.string ⟨#[]⟩)),(3, .v (.bool false)),(4, .p 4 0)] [bR4 4 70 s10 A10 l10 c10 t10 B10 m10 d10] ?_
 refine xe (sx_next (sx_seq (sx_region (xr 2 [(2, .v (.string ⟨#[]⟩)),(3, .v (.bool false)),(4, .p 4 0),eI2 13 s10 A10 l10 c10] [bR4 4 70 s10 A10 l10 c10 t10 B10 m10 d10] ?_))))
 refine xc 94 [vI2 s10 A10 l10 c10] 14 (fun x:ShI=>.tuple #[shInt x, .bool false]) _ (fun w hE hΦ=>(IRoot_any _ ((valF (bytes s)).num) n _ hΦ.2.num hn0 (Nat.le_trans fa.1 (by decide)) (Nat.lt_of_le_of_lt (Nat.le_trans (wl_sq hn.1) fa.1) (by decide)) hn.1 hn.2.1).mono (fun _ _ h=>post_IB (by rw [decide_eq_false hn.2.2] at h; exact h))) (fun xx=>?_)
 obtain ⟨s11,A11,l11,c11⟩:=xx
 refine xr 6 [(2, .v (.string ⟨#[]⟩)),(3, .v (.bool false)),(4, .p 4 0),(5, .p 5 0),(6, .v (.bool false))] [bI2 5 63 s11 A11 l11 c11,bR4 4 70 s10 A10 l10 c10 t10 B10 m10 d10] ?_
 refine xe (sx_next (sx_seq (sx_seq (sx_region (xr 2 [(2, .v (.string ⟨#[]⟩)),(3, .v (.bool false)),(4, .p 4 0),(5, .p 5 0),(18, .v (.bool true))] [bI2 5 63 s11 A11 l11 c11,bR4 4 70 s10 A10 l10 c10 t10 B10 m10 d10] ?_)))))
 refine xe (sx_next (xa (sx_seq (sx_region (xr 2 [(2, .v (.string ⟨#[]⟩)),(3, .v (.bool false)),(4, .p 4 0),(5, .p 5 0)] [bI2 5 63 s11 A11 l11 c11,bR4 4 70 s10 A10 l10 c10 t10 B10 m10 d10] ?_)))))
 refine xe (sx_next (sx_ret (sx_then_ret ?_)))
 refine sx_done (v:=.tuple #[.string ⟨#[]⟩, .bool false]) (by kernel_rfl) (fun w' hE hΦ=>?_)
 exact ⟨rfl,hE⟩
end Go.Proofs.YtibipjlohahekaaGreatDoor

namespace Go.Proofs.YtibipjlohahekaaGreatDoor
open Go.RowKit
section
variable {s:ByteArray} {p:Rat} {w:World} {n d:Nat}
theorem sRoot_sq {Q:Rat} (hg:Glob w) (hp:StrIs s p) (hn0:0≤p.num) (hn:n * n≤p.num.natAbs∧p.num.natAbs < (n + 1) * (n + 1)∧n * n=p.num.natAbs) (hd:d * d≤(p.den:Int).natAbs∧(p.den:Int).natAbs < (d + 1) * (d + 1)∧d * d=(p.den:Int).natAbs) (hQn:Q.num=(n:Int)) (hQd:(Q.den:Int)=(d:Int)) :
 Calls Tryz.prog 36 #[.string s] w (RetV w (.tuple #[.string ⟨(ratText Q).toArray⟩, .bool true])):=by
 obtain ⟨rfl,h⟩:=hp
 exact TRoot_sq s Q n d w hg h hn0 hn hd hQn hQd
theorem sRoot_no (hg:Glob w) (hp:StrIs s p) (hn0:0≤p.num) (hn:n * n≤p.num.natAbs∧p.num.natAbs < (n + 1) * (n + 1)∧¬ n * n=p.num.natAbs) :
 Calls Tryz.prog 36 #[.string s] w (RetV w (.tuple #[.string ⟨#[]⟩, .bool false])):=by
 obtain ⟨rfl,h⟩:=hp
 exact TRoot_no s n w hg h hn0 hn
end
theorem one_t:ratText 1=[49]:=rt_whole (n:=1) (by decide) (by decide) (by decide)
theorem sq_in (n:Nat):n * n≤n * n∧n * n < (n + 1) * (n + 1)∧n * n=n * n:=⟨Nat.le_refl _,by rw [Nat.mul_add,Nat.add_mul]; omega,rfl⟩
theorem sq_off {n:Nat} (h:0 < n):n * n≤n * n + 1∧n * n + 1 < (n + 1) * (n + 1)∧¬ n * n=n * n + 1:=⟨by omega,by rw [Nat.mul_add,Nat.add_mul]; omega,by omega⟩
theorem sq_nonneg (z:Int):0≤z * z:=by
 rcases Int.lt_or_le z 0 with h | h
 ·exact Int.mul_nonneg_of_nonpos_of_nonpos (by omega) (by omega)
 ·exact Int.mul_nonneg h h
theorem sq1_abs (z:Int):((z * z + 1:Int):Rat).num.natAbs=z.natAbs * z.natAbs + 1:=by
 show (z * z + 1).natAbs=_
 have h:=sq_nonneg z
 rw [← Int.natAbs_mul]; omega
theorem sq_small {z:Int} (h:z.natAbs < 10 ^ 100):(z * z + 1).natAbs < 10 ^ 201:=by
 have h1:=Nat.mul_lt_mul'' h h
 rw [← Nat.pow_add] at h1
 have h2:=sq_nonneg z
 have h3:(z * z + 1).natAbs=z.natAbs * z.natAbs + 1:=by rw [← Int.natAbs_mul]; omega
 rw [h3,Nat.pow_succ]
 omega
theorem sq_parts (q:Rat):(q * q).num=q.num * q.num∧(q * q).den=q.den * q.den:=by
 have hc:Int.gcd (q.num * q.num) ((q.den:Int) * q.den)=1:=by
  have h:=q.reduced
  have h2:Nat.Coprime (q.num.natAbs * q.num.natAbs) (q.den * q.den):=Nat.Coprime.mul_left (Nat.Coprime.mul_right h h) (Nat.Coprime.mul_right h h)
  unfold Int.gcd
  rw [Int.natAbs_mul,Int.natAbs_mul,Int.natAbs_natCast]; exact h2
 have hd:(0:Int) < (q.den:Int) * q.den:=gq_pos q q
 obtain ⟨h1,h2⟩:=frac_coprime hd (by rw [hc]; rfl)
 rw [rat_mul_frac] at h1 h2
 exact ⟨h1,by exact_mod_cast h2⟩
theorem abs_parts (q:Rat):(absQ q).num=(q.num.natAbs:Int)∧(absQ q).den=q.den:=by
 unfold absQ
 split
 ·rw [rneg_num,rneg_den]; exact ⟨by omega,rfl⟩
 ·exact ⟨by omega,rfl⟩
theorem floor_whole {q:Rat} (h:q.den=1):Lib.itoa (q.num / (q.den:Int))=ratText q:=by
 unfold ratText; rw [if_pos h,h,show ((1:Nat):Int)=1 from rfl,Int.ediv_one]
theorem floor_ne {q:Rat} {F:Int} (h:¬ q.den=1):((⟨(Lib.itoa F).toArray⟩:ByteArray).toList == (⟨(ratText q).toArray⟩:ByteArray).toList)=false:=by
 rw [Lib.toList_data,Lib.toList_data]
 refine beq_eq_false_iff_ne.2 (fun e=>?_)
 have e':ratText ((F:Int):Rat)=ratText q:=by rw [int_txt']; simpa using e
 have:=ratText_inj e'
 exact h (by rw [← this]; rfl)
theorem sn_z {q:Rat} (h:q.num=0):((q.num.sign:Int) != 0)=false:=by rw [h]; rfl
theorem sn_nz {q:Rat} (h:¬ q.num=0):((q.num.sign:Int) != 0)=true:=by
 rw [bne_iff_ne]; exact fun e=>h (Int.sign_eq_zero_iff_zero.1 e)
theorem whole_sq {q:Rat} (h:q.den=1):q * q + 1=((q.num * q.num + 1:Int):Rat):=by
 have e:q=((q.num:Int):Rat):=(whole_self h).symm
 conv=>lhs; rw [e]
 rw [Rat.intCast_add,Rat.intCast_mul]; rfl
theorem int_len' {x:Int} {k n:Nat} (h:x.natAbs < 10 ^ k) (hk:1≤k) (hk2:k + 1≤n):(ratText ((x:Int):Rat)).length≤n:=by
 rw [int_txt']; exact Nat.le_trans (itoa_le hk h) hk2
set_option maxRecDepth 100000 in
theorem rationalRoots_any (a:ByteArray) (w:World) (hg:Glob w) :
 Calls Tryz.prog 10 #[.string a] w (RetV w (.bool true)):=by
 obtain ⟨A,hA⟩:∃ q,valF (bytes a)=q:=⟨_,rfl⟩
 obtain ⟨S,hS⟩:∃ q:Rat,A * A=q:=⟨_,rfl⟩
 obtain ⟨T,hT⟩:∃ q:Rat,S + 1=q:=⟨_,rfl⟩
 obtain ⟨Q,hQ⟩:∃ q:Rat,absQ A=q:=⟨_,rfl⟩
 refine sx_enter (Φ:=fun w=>Glob w) Tryz.func10 rfl (by kernel_rfl) (fun w' hf=>hg.ext hf) ?_
 refine sx_seq (sx_region (xr 1 [(0, .v (.string a)),(2, .v (.bool false))] [] ?_))
 refine xe (sx_next (sx_seq (sx_seq (sx_region (xr 3 [(0, .v (.string a)),(2, .v (.bool false)),(8, .v (.bool (decide (((a).size:Int) > 100))))] [] ?_)))))
 refine xe (sx_next ?_)
 refine sx_cond ((decide (((a).size:Int) > 100))) (by kernel_rfl) (fun hb10=>?_) (fun hb10=>?_)
 ·refine sx_seq (sx_region ?_)
  refine xc 13 [] 9 (fun _:Unit=>.bool true) _ (fun w hE hΦ=>(awake1_any _ hΦ).mono (fun _ _ h=>post_val h rfl)) (fun xx=>?_)
  refine xr 1 [(0, .v (.string a)),(2, .v (.bool true))] [] ?_
  refine xe (sx_next (sx_ret (sx_then_ret ?_)))
  refine sx_done (v:=.bool true) (by kernel_rfl) (fun w' hE hΦ=>?_)
  exact ⟨rfl,hE⟩
 ·have L:(bytes a).length≤100:=by rw [bytes_length]; have:=of_decide_eq_false hb10; omega
  have DA:=valF_dec L (by decide)
  rw [hA] at DA
  have SA:StrIs a A:=⟨hA,Nat.le_trans L (by decide)⟩
  have S0:StrIs ⟨#[48]⟩ 0:=⟨valF_of zt,by decide⟩
  have S1:StrIs ⟨#[49]⟩ 1:=⟨valF_of one_t,by decide⟩
  have DS:=(res_small DA DA).2.1
  rw [hS] at DS
  have SS:StrIs ⟨(ratText S).toArray⟩ S:=StrIs.of (small_len (by decide) DS (by decide))
  obtain ⟨p1,p2⟩:=sq_parts A
  rw [hS] at p1 p2
  have hS0:0≤S.num:=by rw [p1]; exact sq_nonneg _
  have hSn:A.num.natAbs * A.num.natAbs≤S.num.natAbs∧S.num.natAbs < (A.num.natAbs + 1) * (A.num.natAbs + 1)∧A.num.natAbs * A.num.natAbs=S.num.natAbs:=by rw [p1,Int.natAbs_mul]; exact sq_in _
  have hSd:A.den * A.den≤(S.den:Int).natAbs∧(S.den:Int).natAbs < (A.den + 1) * (A.den + 1)∧A.den * A.den=(S.den:Int).natAbs:=by rw [Int.natAbs_natCast,p2]; exact sq_in _
  have hQn:Q.num=(A.num.natAbs:Int):=by rw [← hQ]; exact (abs_parts A).1
  have hQd:(Q.den:Int)=(A.den:Int):=by rw [← hQ,(abs_parts A).2]
  refine sx_skip (sx_next (sx_seq (sx_region (xr 2 [(0, .v (.string a)),(2, .v (.bool false)),(10, .v (.string a)),(11, .v (.string a))] [] ?_))))
  refine xc 27 [.string a, .string a] 12 (fun _:Unit=>.string ⟨(ratText S).toArray⟩) _ (fun w hE hΦ=>(sMul hΦ SA SA hS).mono (fun _ _ h=>post_val h rfl)) (fun xx=>?_)
  refine xr 1 [(0, .v (.string a)),(2, .v (.bool false)),(3, .v (.string ⟨(ratText S).toArray⟩))] [] ?_
  refine xe (sx_next (sx_seq (sx_region (xr 1 [(0, .v (.string a)),(2, .v (.bool false)),(3, .v (.string ⟨(ratText S).toArray⟩)),(14, .v (.string ⟨(ratText S).toArray⟩))] [] ?_))))
  refine xc 36 [.string ⟨(ratText S).toArray⟩] 15 (fun _:Unit=>.tuple #[.string ⟨(ratText Q).toArray⟩, .bool true]) _ (fun w hE hΦ=>(sRoot_sq (n:=A.num.natAbs) (d:=A.den) hΦ.1 SS hS0 hSn hSd hQn hQd).mono (fun _ _ h=>post_val h rfl)) (fun xx=>?_)
  refine xr 5 [(0, .v (.string a)),(2, .v (.bool false)),(3, .v (.string ⟨(ratText S).toArray⟩)),(4, .v (.string ⟨(ratText Q).toArray⟩)),(5, .v (.bool true))] [] ?_
  refine xe (sx_next (sx_seq (sx_seq (sx_region (xr 5 [(0, .v (.string a)),(2, .v (.bool false)),(3, .v (.string ⟨(ratText S).toArray⟩)),(5, .v (.bool true)),(20, .v (.bool false)),(21, .v (.string ⟨(ratText Q).toArray⟩)),(22, .v (.string a))] [] ?_)))))
  refine xc 44 [.string a] 23 (fun _:Unit=>.string ⟨(ratText Q).toArray⟩) _ (fun w hE hΦ=>(TAbs_any a _ hΦ.1.1 SA.2).mono (fun _ _ h=>post_val h (by rw [hA,hQ]))) (fun xx=>?_)
  refine xr 1 [(0, .v (.string a)),(2, .v (.bool false)),(3, .v (.string ⟨(ratText S).toArray⟩)),(5, .v (.bool true)),(20, .v (.bool false)),(24, .v (.bool (!((⟨(ratText Q).toArray⟩:ByteArray).toList == (⟨(ratText Q).toArray⟩:ByteArray).toList))))] [] ?_
  rw [str_self,Bool.not_true]
  refine xr 1 [(0, .v (.string a)),(2, .v (.bool false)),(3, .v (.string ⟨(ratText S).toArray⟩)),(5, .v (.bool true)),(25, .v (.bool false))] [] ?_
  refine xe (sx_next (xb (sx_skip (sx_next (sx_seq (sx_seq ?_))))))
  by_cases hi:A.den=1
  ·by_cases h0:A.num=0
   ·refine sx_region (xr 1 [(0, .v (.string a)),(2, .v (.bool false)),(3, .v (.string ⟨(ratText S).toArray⟩)),(5, .v (.bool true)),(26, .v (.string a))] [] ?_)
    refine xc 34 [.string a] 27 (fun _:Unit=>.string ⟨(ratText A).toArray⟩) _ (fun w hE hΦ=>(TFloor_any a _ hΦ.1.1.1 SA.2).mono (fun _ _ h=>post_val h (by rw [hA,floor_whole hi]))) (fun xx=>?_)
    refine xr 1 [(0, .v (.string a)),(2, .v (.bool false)),(3, .v (.string ⟨(ratText S).toArray⟩)),(5, .v (.bool true)),(27, .v (.string ⟨(ratText A).toArray⟩)),(28, .v (.string a))] [] ?_
    refine xc 23 [.string a, .string ⟨#[48]⟩] 29 (fun _:Unit=>.string ⟨(ratText A).toArray⟩) _ (fun w hE hΦ=>(sAdd hΦ.1.1.1.1 SA S0 (Rat.add_zero A)).mono (fun _ _ h=>post_val h rfl)) (fun xx=>?_)
    refine xr 1 [(0, .v (.string a)),(2, .v (.bool false)),(3, .v (.string ⟨(ratText S).toArray⟩)),(5, .v (.bool true)),(30, .v (.bool ((⟨(ratText A).toArray⟩:ByteArray).toList == (⟨(ratText A).toArray⟩:ByteArray).toList)))] [] ?_
    rw [str_self]
    refine xr 2 [(2, .v (.bool false)),(3, .v (.string ⟨(ratText S).toArray⟩)),(5, .v (.bool true)),(31, .v (.bool true)),(32, .v (.string a))] [] ?_
    refine xc 33 [.string a] 33 (fun _:Unit=>.int .i64 (A).num.sign) _ (fun w hE hΦ=>(TSign_any a _ hΦ.1.1.1.1.1 SA.2).mono (fun _ _ h=>post_val h (by rw [hA]))) (fun xx=>?_)
    refine xr 1 [(2, .v (.bool false)),(3, .v (.string ⟨(ratText S).toArray⟩)),(5, .v (.bool true)),(31, .v (.bool true)),(34, .v (.bool (((A).num.sign:Int) != 0)))] [] ?_
    rw [sn_z h0]
    refine xr 1 [(2, .v (.bool false)),(3, .v (.string ⟨(ratText S).toArray⟩)),(5, .v (.bool true)),(35, .v (.bool false))] [] ?_
    refine xe (sx_next (xb (sx_skip (sx_next (sx_seq (sx_region ?_))))))
    refine xc 13 [] 47 (fun _:Unit=>.bool true) _ (fun w hE hΦ=>(awake1_any _ hΦ.1.1.1.1.1.1).mono (fun _ _ h=>post_val h rfl)) (fun xx=>?_)
    refine xr 1 [(2, .v (.bool true))] [] ?_
    refine xe (sx_next (sx_ret ?_))
    refine sx_done (v:=.bool true) (by kernel_rfl) (fun w' hE hΦ=>?_)
    exact ⟨rfl,hE⟩
   ·have eT:T=((A.num * A.num + 1:Int):Rat):=by rw [← hT,← hS]; exact whole_sq hi
    have hTN:T.num.natAbs=A.num.natAbs * A.num.natAbs + 1:=by rw [eT]; exact sq1_abs A.num
    have hT0:0≤T.num:=by rw [eT]; have:=sq_nonneg A.num; show 0≤A.num * A.num + 1; omega
    have hTn:A.num.natAbs * A.num.natAbs≤T.num.natAbs∧T.num.natAbs < (A.num.natAbs + 1) * (A.num.natAbs + 1)∧¬ A.num.natAbs * A.num.natAbs=T.num.natAbs:=by rw [hTN]; exact sq_off (by omega)
    have ST:StrIs ⟨(ratText T).toArray⟩ T:=StrIs.of (by rw [eT]; exact int_len' (k:=201) (sq_small DA.1) (by decide) (by decide))
    refine sx_region (xr 1 [(0, .v (.string a)),(2, .v (.bool false)),(3, .v (.string ⟨(ratText S).toArray⟩)),(5, .v (.bool true)),(26, .v (.string a))] [] ?_)
    refine xc 34 [.string a] 27 (fun _:Unit=>.string ⟨(ratText A).toArray⟩) _ (fun w hE hΦ=>(TFloor_any a _ hΦ.1.1.1 SA.2).mono (fun _ _ h=>post_val h (by rw [hA,floor_whole hi]))) (fun xx=>?_)
    refine xr 1 [(0, .v (.string a)),(2, .v (.bool false)),(3, .v (.string ⟨(ratText S).toArray⟩)),(5, .v (.bool true)),(27, .v (.string ⟨(ratText A).toArray⟩)),(28, .v (.string a))] [] ?_
    refine xc 23 [.string a, .string ⟨#[48]⟩] 29 (fun _:Unit=>.string ⟨(ratText A).toArray⟩) _ (fun w hE hΦ=>(sAdd hΦ.1.1.1.1 SA S0 (Rat.add_zero A)).mono (fun _ _ h=>post_val h rfl)) (fun xx=>?_)
    refine xr 1 [(0, .v (.string a)),(2, .v (.bool false)),(3, .v (.string ⟨(ratText S).toArray⟩)),(5, .v (.bool true)),(30, .v (.bool ((⟨(ratText A).toArray⟩:ByteArray).toList == (⟨(ratText A).toArray⟩:ByteArray).toList)))] [] ?_
    rw [str_self]
    refine xr 2 [(2, .v (.bool false)),(3, .v (.string ⟨(ratText S).toArray⟩)),(5, .v (.bool true)),(31, .v (.bool true)),(32, .v (.string a))] [] ?_
    refine xc 33 [.string a] 33 (fun _:Unit=>.int .i64 (A).num.sign) _ (fun w hE hΦ=>(TSign_any a _ hΦ.1.1.1.1.1 SA.2).mono (fun _ _ h=>post_val h (by rw [hA]))) (fun xx=>?_)
    refine xr 1 [(2, .v (.bool false)),(3, .v (.string ⟨(ratText S).toArray⟩)),(5, .v (.bool true)),(31, .v (.bool true)),(34, .v (.bool (((A).num.sign:Int) != 0)))] [] ?_
    rw [sn_nz h0]
    refine xr 1 [(2, .v (.bool false)),(3, .v (.string ⟨(ratText S).toArray⟩)),(5, .v (.bool true)),(35, .v (.bool true))] [] ?_
    refine xe (sx_next (xa (sx_seq (sx_region (xr 1 [(2, .v (.bool false)),(5, .v (.bool true)),(37, .v (.string ⟨(ratText S).toArray⟩))] [] ?_)))))
    refine xc 23 [.string ⟨(ratText S).toArray⟩, .string ⟨#[49]⟩] 38 (fun _:Unit=>.string ⟨(ratText T).toArray⟩) _ (fun w hE hΦ=>(sAdd hΦ.1.1.1.1.1.1 SS S1 hT).mono (fun _ _ h=>post_val h rfl)) (fun xx=>?_)
    refine xr 0 [(2, .v (.bool false)),(5, .v (.bool true)),(38, .v (.string ⟨(ratText T).toArray⟩))] [] ?_
    refine xc 36 [.string ⟨(ratText T).toArray⟩] 39 (fun _:Unit=>.tuple #[.string ⟨#[]⟩, .bool false]) _ (fun w hE hΦ=>(sRoot_no (n:=A.num.natAbs) hΦ.1.1.1.1.1.1.1 ST hT0 hTn).mono (fun _ _ h=>post_val h rfl)) (fun xx=>?_)
    refine xr 4 [(2, .v (.bool false)),(5, .v (.bool false))] [] ?_
    refine xe (sx_next (sx_seq (sx_region (xr 3 [(2, .v (.bool false)),(44, .v (.bool true))] [] ?_))))
    refine xc 13 [] 45 (fun _:Unit=>.bool true) _ (fun w hE hΦ=>(awake1_any _ hΦ.1.1.1.1.1.1.1.1).mono (fun _ _ h=>post_val h rfl)) (fun xx=>?_)
    refine xr 2 [(2, .v (.bool true))] [] ?_
    refine xe (sx_next (sx_ret (sx_then_ret ?_)))
    refine sx_done (v:=.bool true) (by kernel_rfl) (fun w' hE hΦ=>?_)
    exact ⟨rfl,hE⟩
  ·obtain ⟨F,hF⟩:∃ F,A.num / (A.den:Int)=F:=⟨_,rfl⟩
   refine sx_region (xr 1 [(0, .v (.string a)),(2, .v (.bool false)),(3, .v (.string ⟨(ratText S).toArray⟩)),(5, .v (.bool true)),(26, .v (.string a))] [] ?_)
   refine xc 34 [.string a] 27 (fun _:Unit=>.string ⟨(Lib.itoa F).toArray⟩) _ (fun w hE hΦ=>(TFloor_any a _ hΦ.1.1.1 SA.2).mono (fun _ _ h=>post_val h (by rw [hA,hF]))) (fun xx=>?_)
   refine xr 1 [(0, .v (.string a)),(2, .v (.bool false)),(3, .v (.string ⟨(ratText S).toArray⟩)),(5, .v (.bool true)),(27, .v (.string ⟨(Lib.itoa F).toArray⟩)),(28, .v (.string a))] [] ?_
   refine xc 23 [.string a, .string ⟨#[48]⟩] 29 (fun _:Unit=>.string ⟨(ratText A).toArray⟩) _ (fun w hE hΦ=>(sAdd hΦ.1.1.1.1 SA S0 (Rat.add_zero A)).mono (fun _ _ h=>post_val h rfl)) (fun xx=>?_)
   refine xr 1 [(0, .v (.string a)),(2, .v (.bool false)),(3, .v (.string ⟨(ratText S).toArray⟩)),(5, .v (.bool true)),(30, .v (.bool ((⟨(Lib.itoa F).toArray⟩:ByteArray).toList == (⟨(ratText A).toArray⟩:ByteArray).toList)))] [] ?_
   rw [floor_ne hi]
   refine xr 5 [(2, .v (.bool false)),(3, .v (.string ⟨(ratText S).toArray⟩)),(5, .v (.bool true)),(35, .v (.bool false))] [] ?_
   refine xe (sx_next (xb (sx_skip (sx_next (sx_seq (sx_region ?_))))))
   refine xc 13 [] 47 (fun _:Unit=>.bool true) _ (fun w hE hΦ=>(awake1_any _ hΦ.1.1.1.1.1).mono (fun _ _ h=>post_val h rfl)) (fun xx=>?_)
   refine xr 1 [(2, .v (.bool true))] [] ?_
   refine xe (sx_next (sx_ret ?_))
   refine sx_done (v:=.bool true) (by kernel_rfl) (fun w' hE hΦ=>?_)
   exact ⟨rfl,hE⟩
end Go.Proofs.YtibipjlohahekaaGreatDoor
