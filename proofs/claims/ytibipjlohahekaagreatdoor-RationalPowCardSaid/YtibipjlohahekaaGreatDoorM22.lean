/-
 My texts Pp, PpL put together.
-/
import Derived.Test.YtibipjlohahekaaGreatDoorM16
import Derived.Test.YtibipjlohahekaaGreatDoorM21
import Derived.Test.YtibipjlohahekaaGreatDoorM19
namespace Go.Proofs.YtibipjlohahekaaGreatDoor
open Go.RowKit
abbrev eT5 (k:Nat) (x:ByteArray):Nat × AV:=(k, .v (.string x))
abbrev eB5 (k:Nat) (x:Bool):Nat × AV:=(k, .v (.bool x))
abbrev eN5 (k:Nat) (x:Int):Nat × AV:=(k, .v (.int .i64 x))
noncomputable def powF (l:List UInt8) (z:Int):List UInt8 × Bool :=
 if z < -1000∨z > 1000 then ([],false) else if 0≤z then (ratText (valF l ^ z.toNat),true) else if (valF l).num=0 then ([],false) else (ratText ((valF l)⁻¹ ^ (-z).toNat),true)
theorem powF_big {l:List UInt8} {z:Int} (h:z < -1000∨z > 1000):powF l z=([],false):=by unfold powF; rw [if_pos h]
theorem powF_pos {l:List UInt8} {m:Nat} (h:m≤60):powF l (m:Int)=(ratText (valF l ^ m),true):=by unfold powF; rw [if_neg (by omega),if_pos (by omega),Int.toNat_natCast]
theorem powF_zero {l:List UInt8} {m:Nat} (h1:1≤m) (h:m≤60) (h0:(valF l).num=0):powF l (-(m:Int))=([],false):=by unfold powF; rw [if_neg (by omega),if_neg (by omega),if_pos h0]
theorem powF_neg {l:List UInt8} {m:Nat} (h1:1≤m) (h:m≤60) (h0:¬ (valF l).num=0):powF l (-(m:Int))=(ratText ((valF l)⁻¹ ^ m),true):=by
 unfold powF; rw [if_neg (by omega),if_neg (by omega),if_neg h0,show (- -(m:Int)).toNat=m by omega]
def Q12 (q:Rat):Prop:=q.num.natAbs < 10 ^ 12∧q.den < 10 ^ 12
theorem Q12.inv {q:Rat} (h:Q12 q):Q12 q⁻¹:=by
 by_cases h0:q.num=0
 ·rw [Rat.num_eq_zero.1 h0,Rat.inv_zero]; exact ⟨by decide,by decide⟩
 ·have h1:(q⁻¹).num.natAbs=q.den:=by
   rw [Rat.num_inv,Int.natAbs_mul,Int.natAbs_natCast]
   have:q.num.sign.natAbs=1:=Int.natAbs_sign_of_ne_zero h0
   rw [this,Nat.one_mul]
  have h2:(q⁻¹).den=q.num.natAbs:=by rw [Rat.den_inv,if_neg (fun e=>h0 (by rw [e]))]
  exact ⟨by rw [h1]; exact h.2,by rw [h2]; exact h.1⟩
theorem wl12 {x m:Nat} (hx:x < 10 ^ 12) (hm:m≤60):wl (x ^ m) < 40:=by
 obtain ⟨k,hk⟩:∃ k,k=38:=⟨_,rfl⟩
 have h1:x≤2 ^ 40:=Nat.le_of_lt (Nat.lt_of_lt_of_le hx (by decide))
 have h2:=Nat.pow_le_pow_left h1 m
 rw [← Nat.pow_mul] at h2
 have h3:x ^ m < W64 ^ k:=by
  refine Nat.lt_of_le_of_lt h2 ?_
  rw [W64_eq,show (18446744073709551616:Nat)=2 ^ 64 from rfl,← Nat.pow_mul]
  exact Nat.pow_lt_pow_right (by omega) (by omega)
 have:=wl_le_iff.2 h3
 omega
theorem wl12' {x:Nat} (hx:x < 10 ^ 12):wl x < 40:=by
 have:=wl12 (m:=1) hx (by decide)
 rwa [Nat.pow_one] at this
theorem prt12 {q:Rat} {m:Nat} (h:Q12 q) (hm:m≤60):PrtOk (q ^ m).num.natAbs∧PrtOk (q ^ m).den:=by
 rw [Rat.num_pow,Rat.den_pow,Int.natAbs_pow]
 have h1:=wl12 h.1 hm
 have h2:=wl12 h.2 hm
 unfold PrtOk; omega
theorem small12 {q:Rat} {j:Nat} (h:Q12 q):(q ^ j).num.natAbs < 10 ^ (12 * j + 1)∧(q ^ j).den < 10 ^ (12 * j + 1):=by
 rw [Rat.num_pow,Rat.den_pow,Int.natAbs_pow]
 have key:∀ x:Nat,x < 10 ^ 12→x ^ j < 10 ^ (12 * j + 1):=fun x hx=>by
  have h1:=Nat.pow_le_pow_left (Nat.le_of_lt hx) j
  rw [← Nat.pow_mul] at h1
  refine Nat.lt_of_le_of_lt h1 ?_
  rw [Nat.pow_succ]
  have:=Nat.pow_pos (n:=12 * j) (show 0 < 10 by omega)
  omega
 exact ⟨key _ h.1,key _ h.2⟩
theorem fits12 {q:Rat} {j:Nat} (h:Q12 q) (hj:j≤200):RFits (q ^ j):=small_fits (small12 h) (by omega)
theorem rpow_add (q:Rat) (i j:Nat):q ^ i * q ^ j=q ^ (i + j):=by
 induction j with
 | zero=>rw [Rat.pow_zero,Rat.mul_one,Nat.add_zero]
 | succ j ih=>rw [Rat.pow_succ,← Rat.mul_assoc,ih,← Nat.add_assoc,Rat.pow_succ]
theorem rpow_one' (q:Rat):q=q ^ 1:=by rw [Rat.pow_succ,Rat.pow_zero,Rat.one_mul]
theorem rone_pow (q:Rat):(((1:Int)):Rat)=q ^ 0:=by rw [Rat.pow_zero]; rfl
theorem denF_pow1 {q:Rat} {n:Nat} (h:denF q=0):denF (q ^ n)=0:=by
 have h1:q.den=1:=denF_zero.1 h
 exact denF_zero.2 (by rw [Rat.den_pow,h1,Nat.one_pow])
theorem denF_val {q:Rat} (h:¬ denF q=0):denF q=(q.den:Int):=by
 unfold denF at h ⊢
 split
 ·rename_i h1; rw [if_pos h1] at h; exact absurd rfl h
 ·rfl
theorem pp_nat {m:Nat} (h:m≤60):IntKind.u64.wrap ((m:Nat):Int)=((m:Nat):Int):=by rw [IntKind.wrap_u64]; omega
theorem pp_neg {m:Nat} (h:m≤60):IntKind.i64.wrap (0 - (-((m:Nat):Int)))=((m:Nat):Int):=by rw [IntKind.wrap_i64]; omega
theorem pp_rem {n:Nat}:((n:Nat):Int).tmod 2=((n % 2:Nat):Int):=by rw [Int.tmod_eq_emod_of_nonneg (by omega)]; rfl
theorem pp_quo {n:Nat} (h:n≤60):IntKind.i64.wrap (((n:Nat):Int).tdiv 2)=((n / 2:Nat):Int):=by
 rw [Int.tdiv_eq_ediv_of_nonneg (by omega),IntKind.wrap_i64]; omega
theorem pp_inv (q:Rat):((1:Int):Rat) / q=q⁻¹:=by rw [Rat.div_def]; show (1:Rat) * q⁻¹=q⁻¹; rw [Rat.one_mul]
theorem pp_one:(((1:Int)):Rat).num.natAbs < 10 ^ 12∧(((1:Int)):Rat).den < 10 ^ 12:=by decide
theorem q_zero {q:Rat} (h:q.num=0):((q.num.sign:Int) == 0)=true:=by rw [h]; rfl
theorem q_nzero {q:Rat} (h:¬ q.num=0):((q.num.sign:Int) == 0)=false:=by
 rw [beq_eq_false_iff_ne]; exact fun e=>h (Int.sign_eq_zero_iff_zero.1 e)
theorem pp_odd {i j n N:Nat} (hb:n % 2=1) (h:i + j * n=N):i + j + (j + j) * (n / 2)=N:=by
 have e:n=2 * (n / 2) + 1:=by omega
 rw [e,Nat.mul_add,Nat.mul_one,← Nat.mul_assoc,Nat.mul_comm j 2,Nat.two_mul] at h
 omega
theorem pp_even {i j n N:Nat} (hb:¬ n % 2=1) (h:i + j * n=N):i + (j + j) * (n / 2)=N:=by
 have e:n=2 * (n / 2):=by omega
 rw [e,← Nat.mul_assoc,Nat.mul_comm j 2,Nat.two_mul] at h
 exact h
theorem pp_j60 {i j n N:Nat} (hp:0 < n) (h:i + j * n=N) (hN:N≤60):j≤60∧i≤60:=by
 have:=Nat.le_mul_of_pos_right j hp
 omega
set_option maxRecDepth 100000 in
theorem QPow_any (a:Value) (q:Rat) (n:Nat) (w:World) (ha:RatIs w a q) (hn:n < 18446744073709551616) (h1:wl ((q).num.natAbs ^ n) < 40) (h2:wl ((q.den:Int).natAbs ^ n) < 40) (h3:wl (q).num.natAbs < 40) (h4:wl (q.den:Int).natAbs < 40) :
 Calls Tryz.prog 86 #[a, .int .u64 (n:Int)] w (RetRat w (q ^ n)):=by
 obtain ⟨s0,A0,l0,c0,t0,B0,m0,d0,rfl⟩:=ha.shp
 refine sx_enter (Φ:=fun w=>RatIs w (.agg #[.bool s0, .slice A0 l0 c0, .bool t0, .slice B0 m0 d0]) (q)) Tryz.func86 rfl (by kernel_rfl) (fun w' hf=>ha.ext hf) ?_
 refine sx_seq (sx_region (xr 2 [(1, .v (.int .u64 (n:Int))),(2, .p 2 0),(4, .p 4 0)] [bR4 4 70 false none 0 0 false none 0 0,bR4 2 70 s0 A0 l0 c0 t0 B0 m0 d0] ?_))
 refine xe (sx_next (sx_seq (sx_seq (sx_region (xr 2 [(1, .v (.int .u64 (n:Int))),(2, .p 2 0),(4, .p 4 0),eI2 6 t0 B0 m0 d0] [bR4 4 70 false none 0 0 false none 0 0,bR4 2 70 s0 A0 l0 c0 t0 B0 m0 d0] ?_)))))
 by_cases hzd:denF q=0
 ·refine xc 60 [vI2 t0 B0 m0 d0] 7 (fun _:Unit=>.bool true) _ (fun w hE hΦ=>(IsZero_any _ (denF (q)) _ hΦ.den).mono (fun _ _ h=>post_val h (by rw [decide_eq_true hzd]))) (fun xx=>?_)
  refine xr 0 [(1, .v (.int .u64 (n:Int))),(2, .p 2 0),(4, .p 4 0),eB5 7 true] [bR4 4 70 false none 0 0 false none 0 0,bR4 2 70 s0 A0 l0 c0 t0 B0 m0 d0] ?_
  refine xe (sx_next (xa (sx_seq (sx_region (xr 3 [(1, .v (.int .u64 (n:Int))),(2, .p 2 0),(4, .p 4 0),eI2 9 s0 A0 l0 c0,(10, .v (.int .u64 (n:Int)))] [bR4 4 70 false none 0 0 false none 0 0,bR4 2 70 s0 A0 l0 c0 t0 B0 m0 d0] ?_)))))
  refine xc 59 [vI2 s0 A0 l0 c0, .int .u64 (n:Int)] 11 shInt _ (fun w hE hΦ=>(Pow_any _ (q).num n _ hΦ.1.num hn h1 h3).mono (fun _ _ h=>post_Int h)) (fun xx=>?_)
  obtain ⟨s10,A10,l10,c10⟩:=xx
  refine xr 2 [(1, .v (.int .u64 (n:Int))),(2, .p 2 0),(4, .p 4 0)] [bR4 4 70 s10 A10 l10 c10 false none 0 0,bR4 2 70 s0 A0 l0 c0 t0 B0 m0 d0] ?_
  refine xe (sx_next (sx_ret (sx_then_ret ?_)))
  refine sx_done (v:=.agg #[.bool s10, .slice A10 l10 c10, .bool false, .slice none 0 0]) (by kernel_rfl) (fun w' hE hΦ=>?_)
  exact ⟨_,rfl,RatIs.of (by rw [Rat.num_pow]; exact hΦ.2) (by rw [denF_pow1 hzd]; exact (IntIs.nil _)),hE⟩
 ·refine xc 60 [vI2 t0 B0 m0 d0] 7 (fun _:Unit=>.bool false) _ (fun w hE hΦ=>(IsZero_any _ (denF (q)) _ hΦ.den).mono (fun _ _ h=>post_val h (by rw [decide_eq_false hzd]))) (fun xx=>?_)
  refine xr 0 [(1, .v (.int .u64 (n:Int))),(2, .p 2 0),(4, .p 4 0),eB5 7 false] [bR4 4 70 false none 0 0 false none 0 0,bR4 2 70 s0 A0 l0 c0 t0 B0 m0 d0] ?_
  refine xe (sx_next (xb (sx_skip (sx_next (sx_seq ?_)))))
  refine sx_draw 10 (by kernel_rfl) (by kernel_rfl) follows_mixed' ?_
  refine xf 3 [(1, .v (.int .u64 (n:Int))),(2, .p 2 0),(4, .p 4 0),eI2 14 s0 A0 l0 c0,(15, .v (.int .u64 (n:Int)))] [bR4 4 70 false none 0 0 false none 0 0,bR4 2 70 s0 A0 l0 c0 t0 B0 m0 d0] ?_
  refine xd 59 [vI2 s0 A0 l0 c0, .int .u64 (n:Int)] 16 shInt _ (fun w hE hΦ=>(Pow_any _ (q).num n _ hΦ.1.num hn h1 h3).mono (fun _ _ h=>post_Int h)) (fun xx=>?_)
  obtain ⟨s11,A11,l11,c11⟩:=xx
  refine xf 3 [(4, .p 4 0),eI2 16 s11 A11 l11 c11,eI2 18 t0 B0 m0 d0,(19, .v (.int .u64 (n:Int)))] [bR4 4 70 false none 0 0 false none 0 0,bR4 2 70 s0 A0 l0 c0 t0 B0 m0 d0] ?_
  refine xd 59 [vI2 t0 B0 m0 d0, .int .u64 (n:Int)] 20 shInt _ (fun w hE hΦ=>(Pow_any _ (denF q) n _ hΦ.1.1.den hn (by rw [denF_val hzd]; exact h2) (by rw [denF_val hzd]; exact h4)).mono (fun _ _ h=>post_Int h)) (fun xx=>?_)
  obtain ⟨s12,A12,l12,c12⟩:=xx
  refine xf 0 [(4, .p 4 0),eI2 16 s11 A11 l11 c11,eI2 20 s12 A12 l12 c12] [bR4 4 70 false none 0 0 false none 0 0,bR4 2 70 s0 A0 l0 c0 t0 B0 m0 d0] ?_
  refine xd 95 [vI2 s11 A11 l11 c11,vI2 s12 A12 l12 c12] 21 shRat _ (fun w hE hΦ=>(lowest_any _ _ ((q).num ^ n) (denF q ^ n) (q ^ n) _ hΦ.1.2 hΦ.2 ⟨Rat.num_pow q n,by rw [Rat.den_pow,denF_val hzd,Int.natCast_pow]⟩).mono (fun _ _ h=>post_Rat h)) (fun xx=>?_)
  obtain ⟨s13,A13,l13,c13,t13,B13,m13,d13⟩:=xx
  refine xf 1 [(4, .p 4 0)] [bR4 4 70 s13 A13 l13 c13 t13 B13 m13 d13,bR4 4 70 false none 0 0 false none 0 0,bR4 2 70 s0 A0 l0 c0 t0 B0 m0 d0] ?_
  refine xz (xe (sx_next (sx_ret ?_)))
  refine sx_done (v:=.agg #[.bool s13, .slice A13 l13 c13, .bool t13, .slice B13 m13 d13]) (by kernel_rfl) (fun w' hE hΦ=>?_)
  exact ⟨_,rfl,hΦ.2,hE⟩
set_option maxRecDepth 100000 in
theorem NR_any (z:Int) (w:World) (h1 : -9223372036854775808≤z) (h2:z≤9223372036854775807) :
 Calls Tryz.prog 54 #[.int .i64 z] w (RetNRat w ((z:Int):Rat)):=by
 refine sx_enter (Φ:=fun w=>True) Tryz.func54 rfl (by kernel_rfl) (fun w' hf=>trivial) ?_
 refine sx_seq (sx_region (xr 1 [eN5 0 z,(2, .p 2 0)] [bR4 2 35 false none 0 0 false none 0 0] ?_))
 refine xe (sx_next (sx_seq (sx_region (xr 1 [(2, .p 2 0),eN5 3 z] [bR4 2 35 false none 0 0 false none 0 0] ?_))))
 refine xc 66 [.int .i64 z] 4 shInt _ (fun w hE hΦ=>(NFromInt_any z _ h1 h2).mono (fun _ _ h=>post_Num h)) (fun xx=>?_)
 obtain ⟨s10,A10,l10,c10⟩:=xx
 refine xr 2 [(2, .p 2 0)] [bR4 2 35 s10 A10 l10 c10 false none 0 0] ?_
 refine xe (sx_next (sx_ret ?_))
 refine sx_done (v:=.agg #[.bool s10, .slice A10 l10 c10, .bool false, .slice none 0 0]) (by kernel_rfl) (fun w' hE hΦ=>?_)
 exact ⟨_,rfl,NRatIs.whole hΦ.2,hE⟩
set_option maxRecDepth 100000 in
theorem TPow_big (s:ByteArray) (z:Int) (hz:z > 1000) (w:World) (hg:Glob w) (hs:(bytes s).length≤12) :
 Calls Tryz.prog 30 #[.string s, .int .i64 z] w (RetV w (.tuple #[.string ⟨(powF (bytes s) (z)).1.toArray⟩, .bool (powF (bytes s) (z)).2])):=by
 have HQ:Q12 (valF (bytes s)):=valF_dec hs (by decide)
 refine sx_enter (Φ:=fun w=>Glob w) Tryz.func30 rfl (by kernel_rfl) (fun w' hf=>hg.ext hf) ?_
 refine sx_seq (sx_region (xr 2 [eT5 0 s,eN5 1 z,eT5 4 ⟨#[]⟩,eB5 5 false] [] ?_))
 refine xe (sx_next (sx_seq (sx_seq (sx_region (xr 2 [eT5 0 s,eN5 1 z,eT5 4 ⟨#[]⟩,eB5 5 false,(8, .v (.bool (decide (z < (-1000)))))] [] ?_)))))
 rw [(show (decide (z < (-1000)))=false from decide_eq_false (by omega))]
 refine xr 3 [eT5 0 s,eN5 1 z,eT5 4 ⟨#[]⟩,eB5 5 false,eB5 9 false,(11, .v (.bool (decide (z > 1000))))] [] ?_
 rw [(show (decide (z > 1000))=true from decide_eq_true (by omega))]
 refine xr 1 [eT5 0 s,eN5 1 z,eT5 4 ⟨#[]⟩,eB5 5 false,eB5 12 true] [] ?_
 refine xe (sx_next (xa (sx_seq (sx_region (xr 2 [eT5 0 s,eN5 1 z,eT5 4 ⟨#[]⟩,eB5 5 false] [] ?_)))))
 refine xe (sx_next (sx_ret (sx_then_ret ?_)))
 refine sx_done (v:=.tuple #[.string ⟨#[]⟩, .bool false]) (by kernel_rfl) (fun w' hE hΦ=>?_)
 exact ⟨by (rw [powF_big (by omega)])<;>rfl,hE⟩
set_option maxRecDepth 100000 in
theorem TPow_low (s:ByteArray) (z:Int) (hz:z < -1000) (w:World) (hg:Glob w) (hs:(bytes s).length≤12) :
 Calls Tryz.prog 30 #[.string s, .int .i64 z] w (RetV w (.tuple #[.string ⟨(powF (bytes s) (z)).1.toArray⟩, .bool (powF (bytes s) (z)).2])):=by
 have HQ:Q12 (valF (bytes s)):=valF_dec hs (by decide)
 refine sx_enter (Φ:=fun w=>Glob w) Tryz.func30 rfl (by kernel_rfl) (fun w' hf=>hg.ext hf) ?_
 refine sx_seq (sx_region (xr 2 [eT5 0 s,eN5 1 z,eT5 4 ⟨#[]⟩,eB5 5 false] [] ?_))
 refine xe (sx_next (sx_seq (sx_seq (sx_region (xr 2 [eT5 0 s,eN5 1 z,eT5 4 ⟨#[]⟩,eB5 5 false,(8, .v (.bool (decide (z < (-1000)))))] [] ?_)))))
 rw [(show (decide (z < (-1000)))=true from decide_eq_true (by omega))]
 refine xr 4 [eT5 0 s,eN5 1 z,eT5 4 ⟨#[]⟩,eB5 5 false,eB5 12 true] [] ?_
 refine xe (sx_next (xa (sx_seq (sx_region (xr 2 [eT5 0 s,eN5 1 z,eT5 4 ⟨#[]⟩,eB5 5 false] [] ?_)))))
 refine xe (sx_next (sx_ret (sx_then_ret ?_)))
 refine sx_done (v:=.tuple #[.string ⟨#[]⟩, .bool false]) (by kernel_rfl) (fun w' hE hΦ=>?_)
 exact ⟨by (rw [powF_big (by omega)])<;>rfl,hE⟩
set_option maxRecDepth 100000 in
theorem TPow_pos (s:ByteArray) (m:Nat) (hm:m≤60) (w:World) (hg:Glob w) (hs:(bytes s).length≤12) :
 Calls Tryz.prog 30 #[.string s, .int .i64 ((m:Nat):Int)] w (RetV w (.tuple #[.string ⟨(powF (bytes s) (((m:Nat):Int))).1.toArray⟩, .bool (powF (bytes s) (((m:Nat):Int))).2])):=by
 have HQ:Q12 (valF (bytes s)):=valF_dec hs (by decide)
 refine sx_enter (Φ:=fun w=>Glob w) Tryz.func30 rfl (by kernel_rfl) (fun w' hf=>hg.ext hf) ?_
 refine sx_seq (sx_region (xr 2 [eT5 0 s,eN5 1 ((m:Nat):Int),eT5 4 ⟨#[]⟩,eB5 5 false] [] ?_))
 refine xe (sx_next (sx_seq (sx_seq (sx_region (xr 2 [eT5 0 s,eN5 1 ((m:Nat):Int),eT5 4 ⟨#[]⟩,eB5 5 false,(8, .v (.bool (decide (((m:Nat):Int) < (-1000)))))] [] ?_)))))
 rw [(show (decide (((m:Nat):Int) < (-1000)))=false from decide_eq_false (by omega))]
 refine xr 3 [eT5 0 s,eN5 1 ((m:Nat):Int),eT5 4 ⟨#[]⟩,eB5 5 false,eB5 9 false,(11, .v (.bool (decide (((m:Nat):Int) > 1000))))] [] ?_
 rw [(show (decide (((m:Nat):Int) > 1000))=false from decide_eq_false (by omega))]
 refine xr 1 [eT5 0 s,eN5 1 ((m:Nat):Int),eT5 4 ⟨#[]⟩,eB5 5 false,eB5 12 false] [] ?_
 refine xe (sx_next (xb (sx_skip (sx_next (sx_seq (sx_region (xr 1 [eN5 1 ((m:Nat):Int),eT5 4 ⟨#[]⟩,eB5 5 false,eT5 13 s] [] ?_)))))))
 refine xc 75 [.string s] 14 shRat _ (fun w hE hΦ=>(value_any s _ hΦ (ReadOk.of_len (by omega))).mono (fun _ _ h=>post_Rat h)) (fun xx=>?_)
 obtain ⟨s10,A10,l10,c10,t10,B10,m10,d10⟩:=xx
 refine xr 2 [eN5 1 ((m:Nat):Int),eT5 4 ⟨#[]⟩,eB5 5 false,(6, .p 6 0)] [bR4 6 70 s10 A10 l10 c10 t10 B10 m10 d10] ?_
 refine xe (sx_next (sx_seq (sx_seq (sx_region (xr 2 [eN5 1 ((m:Nat):Int),eT5 4 ⟨#[]⟩,eB5 5 false,(6, .p 6 0),(16, .v (.bool (decide (((m:Nat):Int) < 0))))] [bR4 6 70 s10 A10 l10 c10 t10 B10 m10 d10] ?_)))))
 rw [(show (decide (((m:Nat):Int) < 0))=false from decide_eq_false (by omega))]
 refine xr 0 [eN5 1 ((m:Nat):Int),eT5 4 ⟨#[]⟩,eB5 5 false,(6, .p 6 0),eB5 16 false] [bR4 6 70 s10 A10 l10 c10 t10 B10 m10 d10] ?_
 refine xe (sx_next (xb (sx_skip (sx_next (sx_seq (sx_region (xr 3 [eT5 4 ⟨#[]⟩,eB5 5 false,eR4 23 s10 A10 l10 c10 t10 B10 m10 d10,(25, .v (.int .u64 (IntKind.u64.wrap (((m:Nat):Int)))))] [] ?_)))))))
 rw [pp_nat hm]
 refine xc 86 [vR4 s10 A10 l10 c10 t10 B10 m10 d10, .int .u64 ((m:Nat):Int)] 26 shRat _ (fun w hE hΦ=>(QPow_any _ (valF (bytes s)) m _ hΦ.2 (by omega) (wl12 HQ.1 hm) (by rw [Int.natAbs_natCast]; exact wl12 HQ.2 hm) (wl12' HQ.1) (by rw [Int.natAbs_natCast]; exact wl12' HQ.2)).mono (fun _ _ h=>post_Rat h)) (fun xx=>?_)
 obtain ⟨s11,A11,l11,c11,t11,B11,m11,d11⟩:=xx
 refine xr 0 [eT5 4 ⟨#[]⟩,eB5 5 false,eR4 26 s11 A11 l11 c11 t11 B11 m11 d11] [] ?_
 refine xc 63 [vR4 s11 A11 l11 c11 t11 B11 m11 d11] 27 (fun _:Unit=>.string ⟨(ratText ((valF (bytes s)) ^ m)).toArray⟩) _ (fun w hE hΦ=>(RString_any _ ((valF (bytes s)) ^ m) _ hΦ.1.1 hΦ.2 (prt12 HQ hm).1 (prt12 HQ hm).2).mono (fun _ _ h=>post_val h rfl)) (fun xx=>?_)
 refine xr 2 [(4, .v (.string ⟨(ratText ((valF (bytes s)) ^ m)).toArray⟩)),eB5 5 true] [] ?_
 refine xe (sx_next (sx_ret ?_))
 refine sx_done (v:=.tuple #[.string ⟨(ratText ((valF (bytes s)) ^ m)).toArray⟩, .bool true]) (by kernel_rfl) (fun w' hE hΦ=>?_)
 exact ⟨by (rw [powF_pos hm])<;>rfl,hE⟩
set_option maxRecDepth 100000 in
theorem TPow_neg (s:ByteArray) (m:Nat) (hm1:1≤m) (hm:m≤60) (w:World) (hg:Glob w) (hs:(bytes s).length≤12) :
 Calls Tryz.prog 30 #[.string s, .int .i64 (-((m:Nat):Int))] w (RetV w (.tuple #[.string ⟨(powF (bytes s) ((-((m:Nat):Int)))).1.toArray⟩, .bool (powF (bytes s) ((-((m:Nat):Int)))).2])):=by
 have HQ:Q12 (valF (bytes s)):=valF_dec hs (by decide)
 refine sx_enter (Φ:=fun w=>Glob w) Tryz.func30 rfl (by kernel_rfl) (fun w' hf=>hg.ext hf) ?_
 refine sx_seq (sx_region (xr 2 [eT5 0 s,eN5 1 (-((m:Nat):Int)),eT5 4 ⟨#[]⟩,eB5 5 false] [] ?_))
 refine xe (sx_next (sx_seq (sx_seq (sx_region (xr 2 [eT5 0 s,eN5 1 (-((m:Nat):Int)),eT5 4 ⟨#[]⟩,eB5 5 false,(8, .v (.bool (decide ((-((m:Nat):Int)) < (-1000)))))] [] ?_)))))
 rw [(show (decide ((-((m:Nat):Int)) < (-1000)))=false from decide_eq_false (by omega))]
 refine xr 3 [eT5 0 s,eN5 1 (-((m:Nat):Int)),eT5 4 ⟨#[]⟩,eB5 5 false,eB5 9 false,(11, .v (.bool (decide ((-((m:Nat):Int)) > 1000))))] [] ?_
 rw [(show (decide ((-((m:Nat):Int)) > 1000))=false from decide_eq_false (by omega))]
 refine xr 1 [eT5 0 s,eN5 1 (-((m:Nat):Int)),eT5 4 ⟨#[]⟩,eB5 5 false,eB5 12 false] [] ?_
 refine xe (sx_next (xb (sx_skip (sx_next (sx_seq (sx_region (xr 1 [eN5 1 (-((m:Nat):Int)),eT5 4 ⟨#[]⟩,eB5 5 false,eT5 13 s] [] ?_)))))))
 refine xc 75 [.string s] 14 shRat _ (fun w hE hΦ=>(value_any s _ hΦ (ReadOk.of_len (by omega))).mono (fun _ _ h=>post_Rat h)) (fun xx=>?_)
 obtain ⟨s10,A10,l10,c10,t10,B10,m10,d10⟩:=xx
 refine xr 2 [eN5 1 (-((m:Nat):Int)),eT5 4 ⟨#[]⟩,eB5 5 false,(6, .p 6 0)] [bR4 6 70 s10 A10 l10 c10 t10 B10 m10 d10] ?_
 refine xe (sx_next (sx_seq (sx_seq (sx_region (xr 2 [eN5 1 (-((m:Nat):Int)),eT5 4 ⟨#[]⟩,eB5 5 false,(6, .p 6 0),(16, .v (.bool (decide ((-((m:Nat):Int)) < 0))))] [bR4 6 70 s10 A10 l10 c10 t10 B10 m10 d10] ?_)))))
 rw [(show (decide ((-((m:Nat):Int)) < 0))=true from decide_eq_true (by omega))]
 refine xr 0 [eN5 1 (-((m:Nat):Int)),eT5 4 ⟨#[]⟩,eB5 5 false,(6, .p 6 0),eB5 16 true] [bR4 6 70 s10 A10 l10 c10 t10 B10 m10 d10] ?_
 refine xe (sx_next (xa (sx_seq (sx_seq (sx_region (xr 1 [eN5 1 (-((m:Nat):Int)),eT5 4 ⟨#[]⟩,eB5 5 false,(6, .p 6 0),eR4 17 s10 A10 l10 c10 t10 B10 m10 d10] [bR4 6 70 s10 A10 l10 c10 t10 B10 m10 d10] ?_))))))
 by_cases h0:(valF (bytes s)).num=0
 ·refine xc 76 [vR4 s10 A10 l10 c10 t10 B10 m10 d10] 18 (fun _:Unit=>.bool true) _ (fun w hE hΦ=>(QIsZero_any _ (valF (bytes s)) _ hΦ.2).mono (fun _ _ h=>post_val h (by rw [decide_eq_true h0]))) (fun xx=>?_)
  refine xr 0 [eN5 1 (-((m:Nat):Int)),eT5 4 ⟨#[]⟩,eB5 5 false,(6, .p 6 0),eB5 18 true] [bR4 6 70 s10 A10 l10 c10 t10 B10 m10 d10] ?_
  refine xe (sx_next (xa (sx_seq (sx_region (xr 2 [eN5 1 (-((m:Nat):Int)),eT5 4 ⟨#[]⟩,eB5 5 false,(6, .p 6 0)] [bR4 6 70 s10 A10 l10 c10 t10 B10 m10 d10] ?_)))))
  refine xe (sx_next (sx_ret (sx_then_ret (sx_then_ret ?_))))
  refine sx_done (v:=.tuple #[.string ⟨#[]⟩, .bool false]) (by kernel_rfl) (fun w' hE hΦ=>?_)
  exact ⟨by (rw [powF_zero hm1 hm h0])<;>rfl,hE⟩
 ·refine xc 76 [vR4 s10 A10 l10 c10 t10 B10 m10 d10] 18 (fun _:Unit=>.bool false) _ (fun w hE hΦ=>(QIsZero_any _ (valF (bytes s)) _ hΦ.2).mono (fun _ _ h=>post_val h (by rw [decide_eq_false h0]))) (fun xx=>?_)
  refine xr 0 [eN5 1 (-((m:Nat):Int)),eT5 4 ⟨#[]⟩,eB5 5 false,(6, .p 6 0),eB5 18 false] [bR4 6 70 s10 A10 l10 c10 t10 B10 m10 d10] ?_
  refine xe (sx_next (xb (sx_skip (sx_next (sx_region (xr 1 [eN5 1 (-((m:Nat):Int)),eT5 4 ⟨#[]⟩,eB5 5 false,(6, .p 6 0),eR4 19 s10 A10 l10 c10 t10 B10 m10 d10] [bR4 6 70 s10 A10 l10 c10 t10 B10 m10 d10] ?_))))))
  refine xc 85 [vR4 s10 A10 l10 c10 t10 B10 m10 d10] 20 shRat _ (fun w hE hΦ=>(QInverse_any _ (valF (bytes s)) _ hΦ.1.2).mono (fun _ _ h=>post_Rat h)) (fun xx=>?_)
  obtain ⟨s11,A11,l11,c11,t11,B11,m11,d11⟩:=xx
  refine xr 2 [eN5 1 (-((m:Nat):Int)),eT5 4 ⟨#[]⟩,eB5 5 false,(6, .p 6 0),eR4 20 s11 A11 l11 c11 t11 B11 m11 d11,(22, .v (.int .i64 (IntKind.i64.wrap (0 - (-((m:Nat):Int))))))] [bR4 6 70 s10 A10 l10 c10 t10 B10 m10 d10] ?_
  rw [pp_neg hm]
  refine xr 2 [eN5 1 ((m:Nat):Int),eT5 4 ⟨#[]⟩,eB5 5 false,(6, .p 6 0)] [bR4 6 70 s11 A11 l11 c11 t11 B11 m11 d11] ?_
  refine xe (sx_next (sx_seq (sx_region (xr 3 [eT5 4 ⟨#[]⟩,eB5 5 false,eR4 23 s11 A11 l11 c11 t11 B11 m11 d11,(25, .v (.int .u64 (IntKind.u64.wrap (((m:Nat):Int)))))] [] ?_))))
  rw [pp_nat hm]
  refine xc 86 [vR4 s11 A11 l11 c11 t11 B11 m11 d11, .int .u64 ((m:Nat):Int)] 26 shRat _ (fun w hE hΦ=>(QPow_any _ ((valF (bytes s))⁻¹) m _ hΦ.2 (by omega) (wl12 HQ.inv.1 hm) (by rw [Int.natAbs_natCast]; exact wl12 HQ.inv.2 hm) (wl12' HQ.inv.1) (by rw [Int.natAbs_natCast]; exact wl12' HQ.inv.2)).mono (fun _ _ h=>post_Rat h)) (fun xx=>?_)
  obtain ⟨s12,A12,l12,c12,t12,B12,m12,d12⟩:=xx
  refine xr 0 [eT5 4 ⟨#[]⟩,eB5 5 false,eR4 26 s12 A12 l12 c12 t12 B12 m12 d12] [] ?_
  refine xc 63 [vR4 s12 A12 l12 c12 t12 B12 m12 d12] 27 (fun _:Unit=>.string ⟨(ratText (((valF (bytes s))⁻¹) ^ m)).toArray⟩) _ (fun w hE hΦ=>(RString_any _ (((valF (bytes s))⁻¹) ^ m) _ hΦ.1.1.1.1 hΦ.2 (prt12 HQ.inv hm).1 (prt12 HQ.inv hm).2).mono (fun _ _ h=>post_val h rfl)) (fun xx=>?_)
  refine xr 2 [(4, .v (.string ⟨(ratText (((valF (bytes s))⁻¹) ^ m)).toArray⟩)),eB5 5 true] [] ?_
  refine xe (sx_next (sx_ret ?_))
  refine sx_done (v:=.tuple #[.string ⟨(ratText (((valF (bytes s))⁻¹) ^ m)).toArray⟩, .bool true]) (by kernel_rfl) (fun w' hE hΦ=>?_)
  exact ⟨by (rw [powF_neg hm1 hm h0])<;>rfl,hE⟩
set_option maxRecDepth 100000 in
theorem RPower_any (a:Value) (q:Rat) (N:Nat) (w:World) (ha:NRatIs w a q) (hq:Q12 q) (hN:N≤60) :
 Calls Tryz.prog 87 #[a, .int .i64 ((N:Nat):Int)] w (RetNRat w (q ^ N)):=by
 obtain ⟨s0,A0,l0,c0,t0,B0,m0,d0,rfl⟩:=ha.shp
 refine sx_enter (Φ:=fun w=>NRatIs w (.agg #[.bool s0, .slice A0 l0 c0, .bool t0, .slice B0 m0 d0]) (q)) Tryz.func87 rfl (by kernel_rfl) (fun w' hf=>ha.ext hf) ?_
 refine sx_seq (sx_region (xr 2 [(1, .v (.int .i64 ((N:Nat):Int))),(2, .p 2 0),(4, .p 4 0)] [bR4 4 35 false none 0 0 false none 0 0,bR4 2 35 s0 A0 l0 c0 t0 B0 m0 d0] ?_))
 refine xe (sx_next (sx_seq (sx_region ?_)))
 refine xc 54 [.int .i64 1] 6 shRat _ (fun w hE hΦ=>(NR_any 1 _ (by decide) (by decide)).mono (fun _ _ h=>post_NRat h)) (fun xx=>?_)
 obtain ⟨s10,A10,l10,c10,t10,B10,m10,d10⟩:=xx
 refine xr 2 [(1, .v (.int .i64 ((N:Nat):Int))),(2, .p 2 0),(4, .p 4 0),(5, .p 5 0)] [bR4 5 35 s10 A10 l10 c10 t10 B10 m10 d10,bR4 4 35 false none 0 0 false none 0 0,bR4 2 35 s0 A0 l0 c0 t0 B0 m0 d0] ?_
 refine xe (sx_next (sx_seq (sx_block ?_)))
 refine SXc.weak [(1, .v (.int .i64 ((N:Nat):Int))),(2, .p 2 0),(4, .p 4 0),(5, .p 5 0)] [(5,35,[.v (.bool s10), .v (.slice A10 l10 c10), .v (.bool t10), .v (.slice B10 m10 d10)]),(4,35,[.v (.bool false), .v (.slice none 0 0), .v (.bool false), .v (.slice none 0 0)]),(2,35,[.v (.bool s0), .v (.slice A0 l0 c0), .v (.bool t0), .v (.slice B0 m0 d0)])] (Ψ:=fun w=>(NRatIs w (.agg #[.bool s0, .slice A0 l0 c0, .bool t0, .slice B0 m0 d0]) (q ^ 1)∧NRatIs w (.agg #[.bool s10, .slice A10 l10 c10, .bool t10, .slice B10 m10 d10]) (q ^ 0))) (SameL.of (by kernel_rfl)) (by kernel_rfl) (fun w hΦ=>⟨(by have h:=hΦ.1; rw [rpow_one' q] at h; exact h),(by have h:=hΦ.2; rw [rone_pow q] at h; exact h)⟩) ?_
 refine sx_loop (fun nn ss ff=>∃ (x2s x2t:Bool) (x2A x2B:Option Addr) (x2l x2c x2m x2d:Nat) (x5s x5t:Bool) (x5A x5B:Option Addr) (x5l x5c x5m x5d:Nat) (i j n:Nat),ss=ofL [(1, .v (.int .i64 ((n:Nat):Int))),(2, .p 2 0),(4, .p 4 0),(5, .p 5 0)] [(5,35,[.v (.bool x5s), .v (.slice x5A x5l x5c), .v (.bool x5t), .v (.slice x5B x5m x5d)]),(4,35,[.v (.bool false), .v (.slice none 0 0), .v (.bool false), .v (.slice none 0 0)]),(2,35,[.v (.bool x2s), .v (.slice x2A x2l x2c), .v (.bool x2t), .v (.slice x2B x2m x2d)])]∧ff=(fun w=>(NRatIs w (.agg #[.bool x2s, .slice x2A x2l x2c, .bool x2t, .slice x2B x2m x2d]) (q ^ j)∧NRatIs w (.agg #[.bool x5s, .slice x5A x5l x5c, .bool x5t, .slice x5B x5m x5d]) (q ^ i)))∧(i + j * n=N)∧(n≤60)∧(j≤120)∧nn=(1 + n)) ((1 + N)) ⟨s0,t0,A0,B0,l0,c0,m0,d0,s10,t10,A10,B10,l10,c10,m10,d10,0,1,N,rfl,rfl,(by omega),hN,(by omega),rfl⟩ ?_
 rintro nn ss ff ⟨x2s,x2t,x2A,x2B,x2l,x2c,x2m,x2d,x5s,x5t,x5A,x5B,x5l,x5c,x5m,x5d,i,j,n,rfl,rfl,hij,hn,hj,rfl⟩
 refine sx_seq (sx_seq (sx_region (xr 2 [(1, .v (.int .i64 ((n:Nat):Int))),(2, .p 2 0),(4, .p 4 0),(5, .p 5 0),(8, .v (.bool (decide (((n:Nat):Int) > 0))))] [bR4 5 35 x5s x5A x5l x5c x5t x5B x5m x5d,bR4 4 35 false none 0 0 false none 0 0,bR4 2 35 x2s x2A x2l x2c x2t x2B x2m x2d] ?_)))
 refine xe (sx_next ?_)
 refine sx_cond ((decide (((n:Nat):Int) > 0))) (by kernel_rfl) (fun hb11=>?_) (fun hb11=>?_)
 ·have hpos:0 < n:=by have:=of_decide_eq_true hb11; omega
  have hj60:=pp_j60 hpos hij hN
  refine sx_skip (sx_next (sx_block (sx_seq (sx_seq ?_))))
  by_cases hb:n % 2=1
  ·have hi60:=hj60.2
   refine sx_region (xr 2 [(1, .v (.int .i64 ((n:Nat):Int))),(2, .p 2 0),(4, .p 4 0),(5, .p 5 0),(10, .v (.int .i64 ((((n:Nat):Int)).tmod 2)))] [bR4 5 35 x5s x5A x5l x5c x5t x5B x5m x5d,bR4 4 35 false none 0 0 false none 0 0,bR4 2 35 x2s x2A x2l x2c x2t x2B x2m x2d] ?_)
   rw [pp_rem]
   refine xr 1 [(1, .v (.int .i64 ((n:Nat):Int))),(2, .p 2 0),(4, .p 4 0),(5, .p 5 0),(11, .v (.bool ((((n % 2:Nat):Int):Int) == 1)))] [bR4 5 35 x5s x5A x5l x5c x5t x5B x5m x5d,bR4 4 35 false none 0 0 false none 0 0,bR4 2 35 x2s x2A x2l x2c x2t x2B x2m x2d] ?_
   rw [pw_bit1 hb]
   refine xr 0 [(1, .v (.int .i64 ((n:Nat):Int))),(2, .p 2 0),(4, .p 4 0),(5, .p 5 0),eB5 11 true] [bR4 5 35 x5s x5A x5l x5c x5t x5B x5m x5d,bR4 4 35 false none 0 0 false none 0 0,bR4 2 35 x2s x2A x2l x2c x2t x2B x2m x2d] ?_
   refine xe (sx_next (xa (sx_region (xr 2 [(1, .v (.int .i64 ((n:Nat):Int))),(2, .p 2 0),(4, .p 4 0),(5, .p 5 0),eR4 12 x5s x5A x5l x5c x5t x5B x5m x5d,eR4 13 x2s x2A x2l x2c x2t x2B x2m x2d] [bR4 5 35 x5s x5A x5l x5c x5t x5B x5m x5d,bR4 4 35 false none 0 0 false none 0 0,bR4 2 35 x2s x2A x2l x2c x2t x2B x2m x2d] ?_))))
   refine xc 28 [vR4 x5s x5A x5l x5c x5t x5B x5m x5d,vR4 x2s x2A x2l x2c x2t x2B x2m x2d] 14 shRat _ (fun w hE hΦ=>(NRMul_any _ _ (q ^ i) (q ^ j) _ hΦ.2 hΦ.1 (fits12 hq (by omega)) (fits12 hq (by omega))).mono (fun _ _ h=>post_NRat (by rw [rpow_add] at h; exact h))) (fun xx=>?_)
   obtain ⟨s12,A12,l12,c12,t12,B12,m12,d12⟩:=xx
   refine xr 1 [(1, .v (.int .i64 ((n:Nat):Int))),(2, .p 2 0),(4, .p 4 0),(5, .p 5 0)] [bR4 5 35 s12 A12 l12 c12 t12 B12 m12 d12,bR4 4 35 false none 0 0 false none 0 0,bR4 2 35 x2s x2A x2l x2c x2t x2B x2m x2d] ?_
   refine xe (sx_next (sx_region (xr 2 [(1, .v (.int .i64 ((n:Nat):Int))),(2, .p 2 0),(4, .p 4 0),(5, .p 5 0),eR4 15 x2s x2A x2l x2c x2t x2B x2m x2d,eR4 16 x2s x2A x2l x2c x2t x2B x2m x2d] [bR4 5 35 s12 A12 l12 c12 t12 B12 m12 d12,bR4 4 35 false none 0 0 false none 0 0,bR4 2 35 x2s x2A x2l x2c x2t x2B x2m x2d] ?_)))
   refine xc 28 [vR4 x2s x2A x2l x2c x2t x2B x2m x2d,vR4 x2s x2A x2l x2c x2t x2B x2m x2d] 17 shRat _ (fun w hE hΦ=>(NRMul_any _ _ (q ^ j) (q ^ j) _ hΦ.1.1 hΦ.1.1 (fits12 hq (by omega)) (fits12 hq (by omega))).mono (fun _ _ h=>post_NRat (by rw [rpow_add] at h; exact h))) (fun xx=>?_)
   obtain ⟨s13,A13,l13,c13,t13,B13,m13,d13⟩:=xx
   refine xr 2 [(1, .v (.int .i64 ((n:Nat):Int))),(2, .p 2 0),(4, .p 4 0),(5, .p 5 0),eR4 17 s13 A13 l13 c13 t13 B13 m13 d13,(19, .v (.int .i64 (IntKind.i64.wrap ((((n:Nat):Int)).tdiv 2))))] [bR4 5 35 s12 A12 l12 c12 t12 B12 m12 d12,bR4 4 35 false none 0 0 false none 0 0,bR4 2 35 x2s x2A x2l x2c x2t x2B x2m x2d] ?_
   rw [pp_quo hn]
   refine xr 2 [(1, .v (.int .i64 ((n / 2:Nat):Int))),(2, .p 2 0),(4, .p 4 0),(5, .p 5 0)] [bR4 5 35 s12 A12 l12 c12 t12 B12 m12 d12,bR4 4 35 false none 0 0 false none 0 0,bR4 2 35 s13 A13 l13 c13 t13 B13 m13 d13] ?_
   refine xe (sx_out ?_)
   refine SXq.weak [(1, .v (.int .i64 (((n / 2):Nat):Int))),(2, .p 2 0),(4, .p 4 0),(5, .p 5 0)] [(5,35,[.v (.bool s12), .v (.slice A12 l12 c12), .v (.bool t12), .v (.slice B12 m12 d12)]),(4,35,[.v (.bool false), .v (.slice none 0 0), .v (.bool false), .v (.slice none 0 0)]),(2,35,[.v (.bool s13), .v (.slice A13 l13 c13), .v (.bool t13), .v (.slice B13 m13 d13)])] (Ψ:=fun w=>(NRatIs w (.agg #[.bool s13, .slice A13 l13 c13, .bool t13, .slice B13 m13 d13]) (q ^ (j + j))∧NRatIs w (.agg #[.bool s12, .slice A12 l12 c12, .bool t12, .slice B12 m12 d12]) (q ^ (i + j)))) (SameL.of (by kernel_rfl)) (by kernel_rfl) (fun w hΦ=>⟨hΦ.2,hΦ.1.2⟩) ?_
   exact sx_round ((1 + (n / 2))) (by omega) ⟨s13,t13,A13,B13,l13,c13,m13,d13,s12,t12,A12,B12,l12,c12,m12,d12,(i + j),(j + j),(n / 2),rfl,rfl,pp_odd hb hij,(by omega),(by have:=hj60.1; omega),rfl⟩
  ·refine sx_region (xr 2 [(1, .v (.int .i64 ((n:Nat):Int))),(2, .p 2 0),(4, .p 4 0),(5, .p 5 0),(10, .v (.int .i64 ((((n:Nat):Int)).tmod 2)))] [bR4 5 35 x5s x5A x5l x5c x5t x5B x5m x5d,bR4 4 35 false none 0 0 false none 0 0,bR4 2 35 x2s x2A x2l x2c x2t x2B x2m x2d] ?_)
   rw [pp_rem]
   refine xr 1 [(1, .v (.int .i64 ((n:Nat):Int))),(2, .p 2 0),(4, .p 4 0),(5, .p 5 0),(11, .v (.bool ((((n % 2:Nat):Int):Int) == 1)))] [bR4 5 35 x5s x5A x5l x5c x5t x5B x5m x5d,bR4 4 35 false none 0 0 false none 0 0,bR4 2 35 x2s x2A x2l x2c x2t x2B x2m x2d] ?_
   rw [pw_bit0 hb]
   refine xr 0 [(1, .v (.int .i64 ((n:Nat):Int))),(2, .p 2 0),(4, .p 4 0),(5, .p 5 0),eB5 11 false] [bR4 5 35 x5s x5A x5l x5c x5t x5B x5m x5d,bR4 4 35 false none 0 0 false none 0 0,bR4 2 35 x2s x2A x2l x2c x2t x2B x2m x2d] ?_
   refine xe (sx_next (xb (sx_skip (sx_next (sx_region (xr 2 [(1, .v (.int .i64 ((n:Nat):Int))),(2, .p 2 0),(4, .p 4 0),(5, .p 5 0),eR4 15 x2s x2A x2l x2c x2t x2B x2m x2d,eR4 16 x2s x2A x2l x2c x2t x2B x2m x2d] [bR4 5 35 x5s x5A x5l x5c x5t x5B x5m x5d,bR4 4 35 false none 0 0 false none 0 0,bR4 2 35 x2s x2A x2l x2c x2t x2B x2m x2d] ?_))))))
   refine xc 28 [vR4 x2s x2A x2l x2c x2t x2B x2m x2d,vR4 x2s x2A x2l x2c x2t x2B x2m x2d] 17 shRat _ (fun w hE hΦ=>(NRMul_any _ _ (q ^ j) (q ^ j) _ hΦ.1 hΦ.1 (fits12 hq (by omega)) (fits12 hq (by omega))).mono (fun _ _ h=>post_NRat (by rw [rpow_add] at h; exact h))) (fun xx=>?_)
   obtain ⟨s14,A14,l14,c14,t14,B14,m14,d14⟩:=xx
   refine xr 2 [(1, .v (.int .i64 ((n:Nat):Int))),(2, .p 2 0),(4, .p 4 0),(5, .p 5 0),eR4 17 s14 A14 l14 c14 t14 B14 m14 d14,(19, .v (.int .i64 (IntKind.i64.wrap ((((n:Nat):Int)).tdiv 2))))] [bR4 5 35 x5s x5A x5l x5c x5t x5B x5m x5d,bR4 4 35 false none 0 0 false none 0 0,bR4 2 35 x2s x2A x2l x2c x2t x2B x2m x2d] ?_
   rw [pp_quo hn]
   refine xr 2 [(1, .v (.int .i64 ((n / 2:Nat):Int))),(2, .p 2 0),(4, .p 4 0),(5, .p 5 0)] [bR4 5 35 x5s x5A x5l x5c x5t x5B x5m x5d,bR4 4 35 false none 0 0 false none 0 0,bR4 2 35 s14 A14 l14 c14 t14 B14 m14 d14] ?_
   refine xe (sx_out ?_)
   refine SXq.weak [(1, .v (.int .i64 (((n / 2):Nat):Int))),(2, .p 2 0),(4, .p 4 0),(5, .p 5 0)] [(5,35,[.v (.bool x5s), .v (.slice x5A x5l x5c), .v (.bool x5t), .v (.slice x5B x5m x5d)]),(4,35,[.v (.bool false), .v (.slice none 0 0), .v (.bool false), .v (.slice none 0 0)]),(2,35,[.v (.bool s14), .v (.slice A14 l14 c14), .v (.bool t14), .v (.slice B14 m14 d14)])] (Ψ:=fun w=>(NRatIs w (.agg #[.bool s14, .slice A14 l14 c14, .bool t14, .slice B14 m14 d14]) (q ^ (j + j))∧NRatIs w (.agg #[.bool x5s, .slice x5A x5l x5c, .bool x5t, .slice x5B x5m x5d]) (q ^ i))) (SameL.of (by kernel_rfl)) (by kernel_rfl) (fun w hΦ=>⟨hΦ.2,hΦ.1.2⟩) ?_
   exact sx_round ((1 + (n / 2))) (by omega) ⟨s14,t14,A14,B14,l14,c14,m14,d14,x5s,x5t,x5A,x5B,x5l,x5c,x5m,x5d,i,(j + j),(n / 2),rfl,rfl,pp_even hb hij,(by omega),(by have:=hj60.1; omega),rfl⟩
 ·obtain rfl:n=0:=by have:=of_decide_eq_false hb11; omega
  refine sx_exit (sx_then_exit (sx_then_exit (sx_hit (sx_next (sx_seq (sx_region (xr 2 [(4, .p 4 0)] [bR4 4 35 x5s x5A x5l x5c x5t x5B x5m x5d] ?_)))))))
  refine xe (sx_next (sx_ret ?_))
  refine sx_done (v:=.agg #[.bool x5s, .slice x5A x5l x5c, .bool x5t, .slice x5B x5m x5d]) (by kernel_rfl) (fun w' hE hΦ=>?_)
  exact ⟨_,rfl,by have h:=hΦ.2; rwa [show i=N by omega] at h,hE⟩
set_option maxRecDepth 100000 in
theorem RPow_big (s:ByteArray) (z:Int) (hz:z > 1000) (w:World) (hs:(bytes s).length≤12) :
 Calls Tryz.prog 31 #[.string s, .int .i64 z] w (RetV w (.tuple #[.string ⟨(powF (bytes s) (z)).1.toArray⟩, .bool (powF (bytes s) (z)).2])):=by
 have HQ:Q12 (valF (bytes s)):=valF_dec hs (by decide)
 refine sx_enter (Φ:=fun w=>True) Tryz.func31 rfl (by kernel_rfl) (fun w' hf=>trivial) ?_
 refine sx_seq (sx_region (xr 2 [eT5 0 s,eN5 1 z,eT5 4 ⟨#[]⟩,eB5 5 false] [] ?_))
 refine xe (sx_next (sx_seq (sx_region (xr 1 [eN5 1 z,eT5 4 ⟨#[]⟩,eB5 5 false,eT5 7 s] [] ?_))))
 refine xc 18 [.string s] 8 shRat _ (fun w hE hΦ=>(NNum_any s _ (by rw [← bytes_length]; omega)).mono (fun _ _ h=>post_NRat h)) (fun xx=>?_)
 obtain ⟨s10,A10,l10,c10,t10,B10,m10,d10⟩:=xx
 refine xr 2 [eN5 1 z,eT5 4 ⟨#[]⟩,eB5 5 false,(6, .p 6 0)] [bR4 6 35 s10 A10 l10 c10 t10 B10 m10 d10] ?_
 refine xe (sx_next (sx_seq (sx_seq (sx_region (xr 2 [eN5 1 z,eT5 4 ⟨#[]⟩,eB5 5 false,(6, .p 6 0),(10, .v (.bool (decide (z < (-1000)))))] [bR4 6 35 s10 A10 l10 c10 t10 B10 m10 d10] ?_)))))
 rw [(show (decide (z < (-1000)))=false from decide_eq_false (by omega))]
 refine xr 3 [eN5 1 z,eT5 4 ⟨#[]⟩,eB5 5 false,(6, .p 6 0),eB5 11 false,(13, .v (.bool (decide (z > 1000))))] [bR4 6 35 s10 A10 l10 c10 t10 B10 m10 d10] ?_
 rw [(show (decide (z > 1000))=true from decide_eq_true (by omega))]
 refine xr 10 [eN5 1 z,eT5 4 ⟨#[]⟩,eB5 5 false,(6, .p 6 0),eB5 23 true] [bR4 6 35 s10 A10 l10 c10 t10 B10 m10 d10] ?_
 refine xe (sx_next (xa (sx_seq (sx_region (xr 2 [eN5 1 z,eT5 4 ⟨#[]⟩,eB5 5 false,(6, .p 6 0)] [bR4 6 35 s10 A10 l10 c10 t10 B10 m10 d10] ?_)))))
 refine xe (sx_next (sx_ret (sx_then_ret ?_)))
 refine sx_done (v:=.tuple #[.string ⟨#[]⟩, .bool false]) (by kernel_rfl) (fun w' hE hΦ=>?_)
 exact ⟨by (rw [powF_big (by omega)])<;>rfl,hE⟩
set_option maxRecDepth 100000 in
theorem RPow_low (s:ByteArray) (z:Int) (hz:z < -1000) (w:World) (hs:(bytes s).length≤12) :
 Calls Tryz.prog 31 #[.string s, .int .i64 z] w (RetV w (.tuple #[.string ⟨(powF (bytes s) (z)).1.toArray⟩, .bool (powF (bytes s) (z)).2])):=by
 have HQ:Q12 (valF (bytes s)):=valF_dec hs (by decide)
 refine sx_enter (Φ:=fun w=>True) Tryz.func31 rfl (by kernel_rfl) (fun w' hf=>trivial) ?_
 refine sx_seq (sx_region (xr 2 [eT5 0 s,eN5 1 z,eT5 4 ⟨#[]⟩,eB5 5 false] [] ?_))
 refine xe (sx_next (sx_seq (sx_region (xr 1 [eN5 1 z,eT5 4 ⟨#[]⟩,eB5 5 false,eT5 7 s] [] ?_))))
 refine xc 18 [.string s] 8 shRat _ (fun w hE hΦ=>(NNum_any s _ (by rw [← bytes_length]; omega)).mono (fun _ _ h=>post_NRat h)) (fun xx=>?_)
 obtain ⟨s10,A10,l10,c10,t10,B10,m10,d10⟩:=xx
 refine xr 2 [eN5 1 z,eT5 4 ⟨#[]⟩,eB5 5 false,(6, .p 6 0)] [bR4 6 35 s10 A10 l10 c10 t10 B10 m10 d10] ?_
 refine xe (sx_next (sx_seq (sx_seq (sx_region (xr 2 [eN5 1 z,eT5 4 ⟨#[]⟩,eB5 5 false,(6, .p 6 0),(10, .v (.bool (decide (z < (-1000)))))] [bR4 6 35 s10 A10 l10 c10 t10 B10 m10 d10] ?_)))))
 rw [(show (decide (z < (-1000)))=true from decide_eq_true (by omega))]
 refine xr 13 [eN5 1 z,eT5 4 ⟨#[]⟩,eB5 5 false,(6, .p 6 0),eB5 23 true] [bR4 6 35 s10 A10 l10 c10 t10 B10 m10 d10] ?_
 refine xe (sx_next (xa (sx_seq (sx_region (xr 2 [eN5 1 z,eT5 4 ⟨#[]⟩,eB5 5 false,(6, .p 6 0)] [bR4 6 35 s10 A10 l10 c10 t10 B10 m10 d10] ?_)))))
 refine xe (sx_next (sx_ret (sx_then_ret ?_)))
 refine sx_done (v:=.tuple #[.string ⟨#[]⟩, .bool false]) (by kernel_rfl) (fun w' hE hΦ=>?_)
 exact ⟨by (rw [powF_big (by omega)])<;>rfl,hE⟩
set_option maxRecDepth 100000 in
theorem RPow_pos (s:ByteArray) (m:Nat) (hm:m≤60) (w:World) (hs:(bytes s).length≤12) :
 Calls Tryz.prog 31 #[.string s, .int .i64 ((m:Nat):Int)] w (RetV w (.tuple #[.string ⟨(powF (bytes s) (((m:Nat):Int))).1.toArray⟩, .bool (powF (bytes s) (((m:Nat):Int))).2])):=by
 have HQ:Q12 (valF (bytes s)):=valF_dec hs (by decide)
 refine sx_enter (Φ:=fun w=>True) Tryz.func31 rfl (by kernel_rfl) (fun w' hf=>trivial) ?_
 refine sx_seq (sx_region (xr 2 [eT5 0 s,eN5 1 ((m:Nat):Int),eT5 4 ⟨#[]⟩,eB5 5 false] [] ?_))
 refine xe (sx_next (sx_seq (sx_region (xr 1 [eN5 1 ((m:Nat):Int),eT5 4 ⟨#[]⟩,eB5 5 false,eT5 7 s] [] ?_))))
 refine xc 18 [.string s] 8 shRat _ (fun w hE hΦ=>(NNum_any s _ (by rw [← bytes_length]; omega)).mono (fun _ _ h=>post_NRat h)) (fun xx=>?_)
 obtain ⟨s10,A10,l10,c10,t10,B10,m10,d10⟩:=xx
 refine xr 2 [eN5 1 ((m:Nat):Int),eT5 4 ⟨#[]⟩,eB5 5 false,(6, .p 6 0)] [bR4 6 35 s10 A10 l10 c10 t10 B10 m10 d10] ?_
 refine xe (sx_next (sx_seq (sx_seq (sx_region (xr 2 [eN5 1 ((m:Nat):Int),eT5 4 ⟨#[]⟩,eB5 5 false,(6, .p 6 0),(10, .v (.bool (decide (((m:Nat):Int) < (-1000)))))] [bR4 6 35 s10 A10 l10 c10 t10 B10 m10 d10] ?_)))))
 rw [(show (decide (((m:Nat):Int) < (-1000)))=false from decide_eq_false (by omega))]
 refine xr 3 [eN5 1 ((m:Nat):Int),eT5 4 ⟨#[]⟩,eB5 5 false,(6, .p 6 0),eB5 11 false,(13, .v (.bool (decide (((m:Nat):Int) > 1000))))] [bR4 6 35 s10 A10 l10 c10 t10 B10 m10 d10] ?_
 rw [(show (decide (((m:Nat):Int) > 1000))=false from decide_eq_false (by omega))]
 refine xr 4 [eN5 1 ((m:Nat):Int),eT5 4 ⟨#[]⟩,eB5 5 false,(6, .p 6 0),eB5 15 false,(17, .v (.bool (decide (((m:Nat):Int) < 0))))] [bR4 6 35 s10 A10 l10 c10 t10 B10 m10 d10] ?_
 rw [(show (decide (((m:Nat):Int) < 0))=false from decide_eq_false (by omega))]
 refine xr 6 [eN5 1 ((m:Nat):Int),eT5 4 ⟨#[]⟩,eB5 5 false,(6, .p 6 0),eB5 23 false] [bR4 6 35 s10 A10 l10 c10 t10 B10 m10 d10] ?_
 refine xe (sx_next (xb (sx_skip (sx_next (sx_seq (sx_seq (sx_region (xr 2 [eN5 1 ((m:Nat):Int),eT5 4 ⟨#[]⟩,eB5 5 false,(6, .p 6 0),(25, .v (.bool (decide (((m:Nat):Int) < 0))))] [bR4 6 35 s10 A10 l10 c10 t10 B10 m10 d10] ?_))))))))
 rw [(show (decide (((m:Nat):Int) < 0))=false from decide_eq_false (by omega))]
 refine xr 0 [eN5 1 ((m:Nat):Int),eT5 4 ⟨#[]⟩,eB5 5 false,(6, .p 6 0),eB5 25 false] [bR4 6 35 s10 A10 l10 c10 t10 B10 m10 d10] ?_
 refine xe (sx_next (xb (sx_skip (sx_next (sx_seq (sx_region (xr 2 [eT5 4 ⟨#[]⟩,eB5 5 false,eR4 31 s10 A10 l10 c10 t10 B10 m10 d10,eN5 32 ((m:Nat):Int)] [] ?_)))))))
 refine xc 87 [vR4 s10 A10 l10 c10 t10 B10 m10 d10, .int .i64 ((m:Nat):Int)] 33 shRat _ (fun w hE hΦ=>(RPower_any _ (valF (bytes s)) m _ hΦ.2 HQ hm).mono (fun _ _ h=>post_NRat h)) (fun xx=>?_)
 obtain ⟨s11,A11,l11,c11,t11,B11,m11,d11⟩:=xx
 refine xr 0 [eT5 4 ⟨#[]⟩,eB5 5 false,eR4 33 s11 A11 l11 c11 t11 B11 m11 d11] [] ?_
 refine xc 21 [vR4 s11 A11 l11 c11 t11 B11 m11 d11] 34 (fun _:Unit=>.string ⟨(ratText ((valF (bytes s)) ^ m)).toArray⟩) _ (fun w hE hΦ=>(sText hΦ.2 (small12 HQ) (by omega)).mono (fun _ _ h=>post_val h rfl)) (fun xx=>?_)
 refine xr 2 [(4, .v (.string ⟨(ratText ((valF (bytes s)) ^ m)).toArray⟩)),eB5 5 true] [] ?_
 refine xe (sx_next (sx_ret ?_))
 refine sx_done (v:=.tuple #[.string ⟨(ratText ((valF (bytes s)) ^ m)).toArray⟩, .bool true]) (by kernel_rfl) (fun w' hE hΦ=>?_)
 exact ⟨by (rw [powF_pos hm])<;>rfl,hE⟩
set_option maxRecDepth 100000 in
theorem RPow_neg (s:ByteArray) (m:Nat) (hm1:1≤m) (hm:m≤60) (w:World) (hs:(bytes s).length≤12) :
 Calls Tryz.prog 31 #[.string s, .int .i64 (-((m:Nat):Int))] w (RetV w (.tuple #[.string ⟨(powF (bytes s) ((-((m:Nat):Int)))).1.toArray⟩, .bool (powF (bytes s) ((-((m:Nat):Int)))).2])):=by
 have HQ:Q12 (valF (bytes s)):=valF_dec hs (by decide)
 refine sx_enter (Φ:=fun w=>True) Tryz.func31 rfl (by kernel_rfl) (fun w' hf=>trivial) ?_
 refine sx_seq (sx_region (xr 2 [eT5 0 s,eN5 1 (-((m:Nat):Int)),eT5 4 ⟨#[]⟩,eB5 5 false] [] ?_))
 refine xe (sx_next (sx_seq (sx_region (xr 1 [eN5 1 (-((m:Nat):Int)),eT5 4 ⟨#[]⟩,eB5 5 false,eT5 7 s] [] ?_))))
 refine xc 18 [.string s] 8 shRat _ (fun w hE hΦ=>(NNum_any s _ (by rw [← bytes_length]; omega)).mono (fun _ _ h=>post_NRat h)) (fun xx=>?_)
 obtain ⟨s10,A10,l10,c10,t10,B10,m10,d10⟩:=xx
 refine xr 2 [eN5 1 (-((m:Nat):Int)),eT5 4 ⟨#[]⟩,eB5 5 false,(6, .p 6 0)] [bR4 6 35 s10 A10 l10 c10 t10 B10 m10 d10] ?_
 refine xe (sx_next (sx_seq (sx_seq (sx_region (xr 2 [eN5 1 (-((m:Nat):Int)),eT5 4 ⟨#[]⟩,eB5 5 false,(6, .p 6 0),(10, .v (.bool (decide ((-((m:Nat):Int)) < (-1000)))))] [bR4 6 35 s10 A10 l10 c10 t10 B10 m10 d10] ?_)))))
 rw [(show (decide ((-((m:Nat):Int)) < (-1000)))=false from decide_eq_false (by omega))]
 refine xr 3 [eN5 1 (-((m:Nat):Int)),eT5 4 ⟨#[]⟩,eB5 5 false,(6, .p 6 0),eB5 11 false,(13, .v (.bool (decide ((-((m:Nat):Int)) > 1000))))] [bR4 6 35 s10 A10 l10 c10 t10 B10 m10 d10] ?_
 rw [(show (decide ((-((m:Nat):Int)) > 1000))=false from decide_eq_false (by omega))]
 refine xr 4 [eN5 1 (-((m:Nat):Int)),eT5 4 ⟨#[]⟩,eB5 5 false,(6, .p 6 0),eB5 15 false,(17, .v (.bool (decide ((-((m:Nat):Int)) < 0))))] [bR4 6 35 s10 A10 l10 c10 t10 B10 m10 d10] ?_
 rw [(show (decide ((-((m:Nat):Int)) < 0))=true from decide_eq_true (by omega))]
 refine xr 2 [eN5 1 (-((m:Nat):Int)),eT5 4 ⟨#[]⟩,eB5 5 false,(6, .p 6 0),eB5 15 false,eB5 18 true,eR4 19 s10 A10 l10 c10 t10 B10 m10 d10] [bR4 6 35 s10 A10 l10 c10 t10 B10 m10 d10] ?_
 by_cases h0:(valF (bytes s)).num=0
 ·refine xc 20 [vR4 s10 A10 l10 c10 t10 B10 m10 d10] 20 (fun _:Unit=>.int .i64 (valF (bytes s)).num.sign) _ (fun w hE hΦ=>(NRSign_any _ (valF (bytes s)) _ hΦ.2).mono (fun _ _ h=>post_val h rfl)) (fun xx=>?_)
  refine xr 1 [eN5 1 (-((m:Nat):Int)),eT5 4 ⟨#[]⟩,eB5 5 false,(6, .p 6 0),eB5 15 false,eB5 18 true,(21, .v (.bool (((valF (bytes s)).num.sign:Int) == 0)))] [bR4 6 35 s10 A10 l10 c10 t10 B10 m10 d10] ?_
  rw [q_zero h0]
  refine xr 2 [eN5 1 (-((m:Nat):Int)),eT5 4 ⟨#[]⟩,eB5 5 false,(6, .p 6 0),eB5 23 true] [bR4 6 35 s10 A10 l10 c10 t10 B10 m10 d10] ?_
  refine xe (sx_next (xa (sx_seq (sx_region (xr 2 [eN5 1 (-((m:Nat):Int)),eT5 4 ⟨#[]⟩,eB5 5 false,(6, .p 6 0)] [bR4 6 35 s10 A10 l10 c10 t10 B10 m10 d10] ?_)))))
  refine xe (sx_next (sx_ret (sx_then_ret ?_)))
  refine sx_done (v:=.tuple #[.string ⟨#[]⟩, .bool false]) (by kernel_rfl) (fun w' hE hΦ=>?_)
  exact ⟨by (rw [powF_zero hm1 hm h0])<;>rfl,hE⟩
 ·refine xc 20 [vR4 s10 A10 l10 c10 t10 B10 m10 d10] 20 (fun _:Unit=>.int .i64 (valF (bytes s)).num.sign) _ (fun w hE hΦ=>(NRSign_any _ (valF (bytes s)) _ hΦ.2).mono (fun _ _ h=>post_val h rfl)) (fun xx=>?_)
  refine xr 1 [eN5 1 (-((m:Nat):Int)),eT5 4 ⟨#[]⟩,eB5 5 false,(6, .p 6 0),eB5 15 false,eB5 18 true,(21, .v (.bool (((valF (bytes s)).num.sign:Int) == 0)))] [bR4 6 35 s10 A10 l10 c10 t10 B10 m10 d10] ?_
  rw [q_nzero h0]
  refine xr 2 [eN5 1 (-((m:Nat):Int)),eT5 4 ⟨#[]⟩,eB5 5 false,(6, .p 6 0),eB5 23 false] [bR4 6 35 s10 A10 l10 c10 t10 B10 m10 d10] ?_
  refine xe (sx_next (xb (sx_skip (sx_next (sx_seq (sx_seq (sx_region (xr 2 [eN5 1 (-((m:Nat):Int)),eT5 4 ⟨#[]⟩,eB5 5 false,(6, .p 6 0),(25, .v (.bool (decide ((-((m:Nat):Int)) < 0))))] [bR4 6 35 s10 A10 l10 c10 t10 B10 m10 d10] ?_))))))))
  rw [(show (decide ((-((m:Nat):Int)) < 0))=true from decide_eq_true (by omega))]
  refine xr 0 [eN5 1 (-((m:Nat):Int)),eT5 4 ⟨#[]⟩,eB5 5 false,(6, .p 6 0),eB5 25 true] [bR4 6 35 s10 A10 l10 c10 t10 B10 m10 d10] ?_
  refine xe (sx_next (xa ?_))
  refine sx_draw 7 (by kernel_rfl) (by kernel_rfl) follows_mixed' ?_
  refine xd 54 [.int .i64 1] 26 shRat _ (fun w hE hΦ=>(NR_any 1 _ (by decide) (by decide)).mono (fun _ _ h=>post_NRat h)) (fun xx=>?_)
  obtain ⟨s11,A11,l11,c11,t11,B11,m11,d11⟩:=xx
  refine xf 1 [eN5 1 (-((m:Nat):Int)),eT5 4 ⟨#[]⟩,eB5 5 false,(6, .p 6 0),eR4 26 s11 A11 l11 c11 t11 B11 m11 d11,eR4 27 s10 A10 l10 c10 t10 B10 m10 d10] [bR4 6 35 s10 A10 l10 c10 t10 B10 m10 d10] ?_
  refine xd 22 [vR4 s11 A11 l11 c11 t11 B11 m11 d11,vR4 s10 A10 l10 c10 t10 B10 m10 d10] 28 shRat _ (fun w hE hΦ=>(NRDiv_any _ _ (((1:Int):Rat)) (valF (bytes s)) _ hΦ.2 hΦ.1.1.2 (small_fits pp_one (by decide)) (small_fits HQ (by decide))).mono (fun _ _ h=>post_NRat (by rw [pp_inv] at h; exact h))) (fun xx=>?_)
  obtain ⟨s12,A12,l12,c12,t12,B12,m12,d12⟩:=xx
  refine xf 2 [eN5 1 (-((m:Nat):Int)),eT5 4 ⟨#[]⟩,eB5 5 false,(6, .p 6 0),eR4 28 s12 A12 l12 c12 t12 B12 m12 d12,(30, .v (.int .i64 (IntKind.i64.wrap (0 - (-((m:Nat):Int))))))] [bR4 6 35 s10 A10 l10 c10 t10 B10 m10 d10] ?_
  rw [pp_neg hm]
  refine xf 2 [eN5 1 ((m:Nat):Int),eT5 4 ⟨#[]⟩,eB5 5 false,(6, .p 6 0)] [bR4 6 35 s12 A12 l12 c12 t12 B12 m12 d12,bR4 6 35 s10 A10 l10 c10 t10 B10 m10 d10] ?_
  refine xz (xe (sx_next (sx_seq (sx_region (xr 2 [(4, .v (.string ⟨#[]⟩)),(5, .v (.bool false)),eR4 31 s12 A12 l12 c12 t12 B12 m12 d12,(32, .v (.int .i64 ((m:Nat):Int)))] [] ?_)))))
  refine xc 87 [vR4 s12 A12 l12 c12 t12 B12 m12 d12, .int .i64 ((m:Nat):Int)] 33 shRat _ (fun w hE hΦ=>(RPower_any _ ((valF (bytes s))⁻¹) m _ hΦ.2 HQ.inv hm).mono (fun _ _ h=>post_NRat h)) (fun xx=>?_)
  obtain ⟨s13,A13,l13,c13,t13,B13,m13,d13⟩:=xx
  refine xr 0 [eT5 4 ⟨#[]⟩,eB5 5 false,eR4 33 s13 A13 l13 c13 t13 B13 m13 d13] [] ?_
  refine xc 21 [vR4 s13 A13 l13 c13 t13 B13 m13 d13] 34 (fun _:Unit=>.string ⟨(ratText (((valF (bytes s))⁻¹) ^ m)).toArray⟩) _ (fun w hE hΦ=>(sText hΦ.2 (small12 HQ.inv) (by omega)).mono (fun _ _ h=>post_val h rfl)) (fun xx=>?_)
  refine xr 2 [(4, .v (.string ⟨(ratText (((valF (bytes s))⁻¹) ^ m)).toArray⟩)),eB5 5 true] [] ?_
  refine xe (sx_next (sx_ret ?_))
  refine sx_done (v:=.tuple #[.string ⟨(ratText (((valF (bytes s))⁻¹) ^ m)).toArray⟩, .bool true]) (by kernel_rfl) (fun w' hE hΦ=>?_)
  exact ⟨by (rw [powF_neg hm1 hm h0])<;>rfl,hE⟩
theorem TPow_any (s:ByteArray) (z:Int) (w:World) (hg:Glob w) (hs:(bytes s).length≤12) (hz:(-60≤z∧z≤60)∨z < -1000∨z > 1000):Calls Tryz.prog 30 #[.string s, .int .i64 z] w (RetV w (.tuple #[.string ⟨(powF (bytes s) (z)).1.toArray⟩, .bool (powF (bytes s) (z)).2])):=by
 rcases hz with ⟨h1,h2⟩ | h | h
 ·rcases Int.lt_or_le z 0 with h | h
  ·obtain ⟨m,rfl⟩:∃ m:Nat,z = -(m:Int):=⟨z.natAbs,by omega⟩
   exact TPow_neg s m (by omega) (by omega) w hg hs
  ·obtain ⟨m,rfl⟩:=Int.eq_ofNat_of_zero_le h
   exact TPow_pos s m (by omega) w hg hs
 ·exact TPow_low s z h w hg hs
 ·exact TPow_big s z h w hg hs
theorem RPow_any (s:ByteArray) (z:Int) (w:World) (hs:(bytes s).length≤12) (hz:(-60≤z∧z≤60)∨z < -1000∨z > 1000):Calls Tryz.prog 31 #[.string s, .int .i64 z] w (RetV w (.tuple #[.string ⟨(powF (bytes s) (z)).1.toArray⟩, .bool (powF (bytes s) (z)).2])):=by
 rcases hz with ⟨h1,h2⟩ | h | h
 ·rcases Int.lt_or_le z 0 with h | h
  ·obtain ⟨m,rfl⟩:∃ m:Nat,z = -(m:Int):=⟨z.natAbs,by omega⟩
   exact RPow_neg s m (by omega) (by omega) w hs
  ·obtain ⟨m,rfl⟩:=Int.eq_ofNat_of_zero_le h
   exact RPow_pos s m (by omega) w hs
 ·exact RPow_low s z h w hs
 ·exact RPow_big s z h w hs
end Go.Proofs.YtibipjlohahekaaGreatDoor

namespace Go.Proofs.YtibipjlohahekaaGreatDoor
open Go.RowKit
theorem km_lo {z:Int} (h:decide (z.tmod 121 < 0)=true):IntKind.i64.wrap (z.tmod 121 + 121)=z % 121:=by
 have h1:=of_decide_eq_true h
 have h2:=Int.emod_nonneg z (show (121:Int)≠0 by decide)
 have h3:=Int.emod_lt_of_pos z (show (0:Int) < 121 by decide)
 have h4:=Int.tmod_eq_emod (a:=z) (b:=121)
 rw [IntKind.wrap_i64]
 split at h4<;>omega
theorem km_hi {z:Int} (h:decide (z.tmod 121 < 0)=false):z.tmod 121=z % 121:=by
 have h1:=of_decide_eq_false h
 have h2:=Int.emod_nonneg z (show (121:Int)≠0 by decide)
 have h3:=Int.emod_lt_of_pos z (show (0:Int) < 121 by decide)
 have h4:=Int.tmod_eq_emod (a:=z) (b:=121)
 split at h4<;>omega
theorem pp_mod {z z1:Int} (h:z % 121 - 60=z1):IntKind.i64.wrap (z % 121 - 60)=z1:=by
 rw [h,IntKind.wrap_i64]; omega
set_option maxRecDepth 100000 in
theorem KMod_121 (z:Int) (w:World) :
 Calls Tryz.prog 16 #[.int .i64 z, .int .i64 121] w (RetV w (.int .i64 (z % 121))):=by
 refine sx_enter (Φ:=fun w=>True) Tryz.func16 rfl (by kernel_rfl) (fun w' hf=>trivial) ?_
 refine sx_seq (sx_region (xr 1 [eN5 0 z,eN5 1 121,eN5 4 0] [] ?_))
 refine xe (sx_next (sx_seq (sx_region (xr 4 [eN5 1 121,eN5 4 0,(5, .v (.int .i64 ((z).tmod 121)))] [] ?_))))
 refine xe (sx_next (sx_seq (sx_seq (sx_region (xr 2 [eN5 1 121,eN5 4 0,(5, .v (.int .i64 ((z).tmod 121))),(10, .v (.bool (decide (((z).tmod 121) < 0))))] [] ?_)))))
 refine xe (sx_next ?_)
 refine sx_cond ((decide (((z).tmod 121) < 0))) (by kernel_rfl) (fun hb10=>?_) (fun hb10=>?_)
 ·refine sx_region (xr 4 [eN5 4 0,(5, .v (.int .i64 (IntKind.i64.wrap (((z).tmod 121) + 121))))] [] ?_)
  refine xe (sx_next (sx_seq (sx_region (xr 2 [(4, .v (.int .i64 (IntKind.i64.wrap (((z).tmod 121) + 121))))] [] ?_))))
  refine xe (sx_next (sx_ret ?_))
  refine sx_done (v:=.int .i64 (IntKind.i64.wrap (((z).tmod 121) + 121))) (by kernel_rfl) (fun w' hE hΦ=>?_)
  exact ⟨by rw [km_lo hb10],hE⟩
 ·refine sx_skip (sx_next (sx_seq (sx_region (xr 2 [(4, .v (.int .i64 ((z).tmod 121)))] [] ?_))))
  refine xe (sx_next (sx_ret ?_))
  refine sx_done (v:=.int .i64 ((z).tmod 121)) (by kernel_rfl) (fun w' hE hΦ=>?_)
  exact ⟨by rw [km_hi hb10],hE⟩
set_option maxRecDepth 100000 in
theorem rationalPow_any (s:ByteArray) (z:Int) (w:World) (hg:Glob w) :
 Calls Tryz.prog 7 #[.string s, .int .i64 z] w (RetV w (.bool true)):=by
 refine sx_enter (Φ:=fun w=>Glob w) Tryz.func7 rfl (by kernel_rfl) (fun w' hf=>hg.ext hf) ?_
 refine sx_seq (sx_region (xr 1 [eT5 0 s,eN5 1 z,eB5 4 false] [] ?_))
 refine xe (sx_next (sx_seq (sx_seq (sx_region (xr 3 [eT5 0 s,eN5 1 z,eB5 4 false,(11, .v (.bool (decide (((s).size:Int) > 12))))] [] ?_)))))
 refine xe (sx_next ?_)
 refine sx_cond ((decide (((s).size:Int) > 12))) (by kernel_rfl) (fun hb10=>?_) (fun hb10=>?_)
 ·refine sx_seq (sx_region ?_)
  refine xc 13 [] 12 (fun _:Unit=>.bool true) _ (fun w hE hΦ=>(awake1_any _ hΦ).mono (fun _ _ h=>post_val h rfl)) (fun xx=>?_)
  refine xr 1 [eT5 0 s,eN5 1 z,eB5 4 true] [] ?_
  refine xe (sx_next (sx_ret (sx_then_ret ?_)))
  refine sx_done (v:=.bool true) (by kernel_rfl) (fun w' hE hΦ=>?_)
  exact ⟨rfl,hE⟩
 ·have hs:(bytes s).length≤12:=by rw [bytes_length]; have:=of_decide_eq_false hb10; omega
  refine sx_skip (sx_next (sx_seq (sx_seq ?_)))
  have hz5:(z > 60∧z≤1000)∨(z < -60∧z ≥ -1000)∨(-60≤z∧z≤60)∨z > 1000∨z < -1000:=by omega
  rcases hz5 with hz | hz | hz | hz | hz
  ·obtain ⟨z1,hz1⟩:∃ z1,z % 121 - 60=z1:=⟨_,rfl⟩
   have hb1 : -60≤z1∧z1≤60:=by omega
   refine sx_region (xr 2 [eT5 0 s,eN5 1 z,eB5 4 false,(14, .v (.bool (decide (z > 60))))] [] ?_)
   rw [(show (decide (z > 60))=true from decide_eq_true (by omega))]
   refine xr 3 [eT5 0 s,eN5 1 z,eB5 4 false,eB5 15 true,(17, .v (.bool (decide (z≤1000))))] [] ?_
   rw [(show (decide (z≤1000))=true from decide_eq_true (by omega))]
   refine xr 9 [eT5 0 s,eN5 1 z,eB5 4 false,eB5 26 true] [] ?_
   refine xe (sx_next (xa (sx_region (xr 1 [eT5 0 s,eN5 1 z,eB5 4 false,eN5 27 z] [] ?_))))
   refine xc 16 [.int .i64 z, .int .i64 121] 28 (fun _:Unit=>.int .i64 (z % 121)) _ (fun w hE hΦ=>(KMod_121 z _).mono (fun _ _ h=>post_val h rfl)) (fun xx=>?_)
   refine xr 1 [eT5 0 s,eN5 1 z,eB5 4 false,(29, .v (.int .i64 (IntKind.i64.wrap ((z % 121) - 60))))] [] ?_
   rw [pp_mod hz1]
   refine xr 1 [eT5 0 s,eN5 1 z1,eB5 4 false] [] ?_
   refine xe (sx_next (sx_seq ?_))
   obtain ⟨⟨P,ok⟩,hP⟩:∃ x,powF (bytes s) z1=x:=⟨_,rfl⟩
   cases ok
   ·refine sx_region (xr 2 [eT5 0 s,eN5 1 z1,eB5 4 false,eT5 31 s,eN5 32 z1] [] ?_)
    refine xc 30 [.string s, .int .i64 z1] 33 (fun _:Unit=>.tuple #[.string ⟨P.toArray⟩, .bool false]) _ (fun w hE hΦ=>(TPow_any s z1 _ hΦ.1 hs (by omega)).mono (fun _ _ h=>post_val h (by rw [hP]))) (fun xx=>?_)
    refine xr 5 [eT5 0 s,eN5 1 z1,eB5 4 false,eT5 5 ⟨P.toArray⟩,eB5 6 false] [] ?_
    refine xe (sx_next (sx_seq (sx_region (xr 2 [eB5 4 false,eT5 5 ⟨P.toArray⟩,eB5 6 false,eT5 37 s,eN5 38 z1] [] ?_))))
    refine xc 31 [.string s, .int .i64 z1] 39 (fun _:Unit=>.tuple #[.string ⟨P.toArray⟩, .bool false]) _ (fun w hE hΦ=>(RPow_any s z1 _ hs (by omega)).mono (fun _ _ h=>post_val h (by rw [hP]))) (fun xx=>?_)
    refine xr 5 [eB5 4 false,eT5 5 ⟨P.toArray⟩,eB5 6 false,eT5 7 ⟨P.toArray⟩,eB5 8 false] [] ?_
    refine xe (sx_next (sx_seq (sx_region (xr 3 [eB5 4 false,eB5 6 false,eB5 8 false,(44, .v (.bool ((⟨P.toArray⟩:ByteArray).toList == (⟨P.toArray⟩:ByteArray).toList)))] [] ?_))))
    rw [str_self]
    refine xr 6 [eB5 4 false,eB5 50 true] [] ?_
    refine xc 13 [] 51 (fun _:Unit=>.bool true) _ (fun w hE hΦ=>(awake1_any _ hΦ.1.1.1).mono (fun _ _ h=>post_val h rfl)) (fun xx=>?_)
    refine xr 2 [eB5 4 true] [] ?_
    refine xe (sx_next (sx_ret ?_))
    refine sx_done (v:=.bool true) (by kernel_rfl) (fun w' hE hΦ=>?_)
    exact ⟨rfl,hE⟩
   ·refine sx_region (xr 2 [eT5 0 s,eN5 1 z1,eB5 4 false,eT5 31 s,eN5 32 z1] [] ?_)
    refine xc 30 [.string s, .int .i64 z1] 33 (fun _:Unit=>.tuple #[.string ⟨P.toArray⟩, .bool true]) _ (fun w hE hΦ=>(TPow_any s z1 _ hΦ.1 hs (by omega)).mono (fun _ _ h=>post_val h (by rw [hP]))) (fun xx=>?_)
    refine xr 5 [eT5 0 s,eN5 1 z1,eB5 4 false,eT5 5 ⟨P.toArray⟩,eB5 6 true] [] ?_
    refine xe (sx_next (sx_seq (sx_region (xr 2 [eB5 4 false,eT5 5 ⟨P.toArray⟩,eB5 6 true,eT5 37 s,eN5 38 z1] [] ?_))))
    refine xc 31 [.string s, .int .i64 z1] 39 (fun _:Unit=>.tuple #[.string ⟨P.toArray⟩, .bool true]) _ (fun w hE hΦ=>(RPow_any s z1 _ hs (by omega)).mono (fun _ _ h=>post_val h (by rw [hP]))) (fun xx=>?_)
    refine xr 5 [eB5 4 false,eT5 5 ⟨P.toArray⟩,eB5 6 true,eT5 7 ⟨P.toArray⟩,eB5 8 true] [] ?_
    refine xe (sx_next (sx_seq (sx_region (xr 3 [eB5 4 false,eB5 6 true,eB5 8 true,(44, .v (.bool ((⟨P.toArray⟩:ByteArray).toList == (⟨P.toArray⟩:ByteArray).toList)))] [] ?_))))
    rw [str_self]
    refine xr 6 [eB5 4 false,eB5 50 true] [] ?_
    refine xc 13 [] 51 (fun _:Unit=>.bool true) _ (fun w hE hΦ=>(awake1_any _ hΦ.1.1.1).mono (fun _ _ h=>post_val h rfl)) (fun xx=>?_)
    refine xr 2 [eB5 4 true] [] ?_
    refine xe (sx_next (sx_ret ?_))
    refine sx_done (v:=.bool true) (by kernel_rfl) (fun w' hE hΦ=>?_)
    exact ⟨rfl,hE⟩
  ·obtain ⟨z1,hz1⟩:∃ z1,z % 121 - 60=z1:=⟨_,rfl⟩
   have hb1 : -60≤z1∧z1≤60:=by omega
   refine sx_region (xr 2 [eT5 0 s,eN5 1 z,eB5 4 false,(14, .v (.bool (decide (z > 60))))] [] ?_)
   rw [(show (decide (z > 60))=false from decide_eq_false (by omega))]
   refine xr 7 [eT5 0 s,eN5 1 z,eB5 4 false,eB5 19 false,(21, .v (.bool (decide (z < (-60)))))] [] ?_
   rw [(show (decide (z < (-60)))=true from decide_eq_true (by omega))]
   refine xr 3 [eT5 0 s,eN5 1 z,eB5 4 false,eB5 19 false,eB5 22 true,(24, .v (.bool (decide (z ≥ (-1000)))))] [] ?_
   rw [(show (decide (z ≥ (-1000)))=true from decide_eq_true (by omega))]
   refine xr 2 [eT5 0 s,eN5 1 z,eB5 4 false,eB5 26 true] [] ?_
   refine xe (sx_next (xa (sx_region (xr 1 [eT5 0 s,eN5 1 z,eB5 4 false,eN5 27 z] [] ?_))))
   refine xc 16 [.int .i64 z, .int .i64 121] 28 (fun _:Unit=>.int .i64 (z % 121)) _ (fun w hE hΦ=>(KMod_121 z _).mono (fun _ _ h=>post_val h rfl)) (fun xx=>?_)
   refine xr 1 [eT5 0 s,eN5 1 z,eB5 4 false,(29, .v (.int .i64 (IntKind.i64.wrap ((z % 121) - 60))))] [] ?_
   rw [pp_mod hz1]
   refine xr 1 [eT5 0 s,eN5 1 z1,eB5 4 false] [] ?_
   refine xe (sx_next (sx_seq ?_))
   obtain ⟨⟨P,ok⟩,hP⟩:∃ x,powF (bytes s) z1=x:=⟨_,rfl⟩
   cases ok
   ·refine sx_region (xr 2 [eT5 0 s,eN5 1 z1,eB5 4 false,eT5 31 s,eN5 32 z1] [] ?_)
    refine xc 30 [.string s, .int .i64 z1] 33 (fun _:Unit=>.tuple #[.string ⟨P.toArray⟩, .bool false]) _ (fun w hE hΦ=>(TPow_any s z1 _ hΦ.1 hs (by omega)).mono (fun _ _ h=>post_val h (by rw [hP]))) (fun xx=>?_)
    refine xr 5 [eT5 0 s,eN5 1 z1,eB5 4 false,eT5 5 ⟨P.toArray⟩,eB5 6 false] [] ?_
    refine xe (sx_next (sx_seq (sx_region (xr 2 [eB5 4 false,eT5 5 ⟨P.toArray⟩,eB5 6 false,eT5 37 s,eN5 38 z1] [] ?_))))
    refine xc 31 [.string s, .int .i64 z1] 39 (fun _:Unit=>.tuple #[.string ⟨P.toArray⟩, .bool false]) _ (fun w hE hΦ=>(RPow_any s z1 _ hs (by omega)).mono (fun _ _ h=>post_val h (by rw [hP]))) (fun xx=>?_)
    refine xr 5 [eB5 4 false,eT5 5 ⟨P.toArray⟩,eB5 6 false,eT5 7 ⟨P.toArray⟩,eB5 8 false] [] ?_
    refine xe (sx_next (sx_seq (sx_region (xr 3 [eB5 4 false,eB5 6 false,eB5 8 false,(44, .v (.bool ((⟨P.toArray⟩:ByteArray).toList == (⟨P.toArray⟩:ByteArray).toList)))] [] ?_))))
    rw [str_self]
    refine xr 6 [eB5 4 false,eB5 50 true] [] ?_
    refine xc 13 [] 51 (fun _:Unit=>.bool true) _ (fun w hE hΦ=>(awake1_any _ hΦ.1.1.1).mono (fun _ _ h=>post_val h rfl)) (fun xx=>?_)
    refine xr 2 [eB5 4 true] [] ?_
    refine xe (sx_next (sx_ret ?_))
    refine sx_done (v:=.bool true) (by kernel_rfl) (fun w' hE hΦ=>?_)
    exact ⟨rfl,hE⟩
   ·refine sx_region (xr 2 [eT5 0 s,eN5 1 z1,eB5 4 false,eT5 31 s,eN5 32 z1] [] ?_)
    refine xc 30 [.string s, .int .i64 z1] 33 (fun _:Unit=>.tuple #[.string ⟨P.toArray⟩, .bool true]) _ (fun w hE hΦ=>(TPow_any s z1 _ hΦ.1 hs (by omega)).mono (fun _ _ h=>post_val h (by rw [hP]))) (fun xx=>?_)
    refine xr 5 [eT5 0 s,eN5 1 z1,eB5 4 false,eT5 5 ⟨P.toArray⟩,eB5 6 true] [] ?_
    refine xe (sx_next (sx_seq (sx_region (xr 2 [eB5 4 false,eT5 5 ⟨P.toArray⟩,eB5 6 true,eT5 37 s,eN5 38 z1] [] ?_))))
    refine xc 31 [.string s, .int .i64 z1] 39 (fun _:Unit=>.tuple #[.string ⟨P.toArray⟩, .bool true]) _ (fun w hE hΦ=>(RPow_any s z1 _ hs (by omega)).mono (fun _ _ h=>post_val h (by rw [hP]))) (fun xx=>?_)
    refine xr 5 [eB5 4 false,eT5 5 ⟨P.toArray⟩,eB5 6 true,eT5 7 ⟨P.toArray⟩,eB5 8 true] [] ?_
    refine xe (sx_next (sx_seq (sx_region (xr 3 [eB5 4 false,eB5 6 true,eB5 8 true,(44, .v (.bool ((⟨P.toArray⟩:ByteArray).toList == (⟨P.toArray⟩:ByteArray).toList)))] [] ?_))))
    rw [str_self]
    refine xr 6 [eB5 4 false,eB5 50 true] [] ?_
    refine xc 13 [] 51 (fun _:Unit=>.bool true) _ (fun w hE hΦ=>(awake1_any _ hΦ.1.1.1).mono (fun _ _ h=>post_val h rfl)) (fun xx=>?_)
    refine xr 2 [eB5 4 true] [] ?_
    refine xe (sx_next (sx_ret ?_))
    refine sx_done (v:=.bool true) (by kernel_rfl) (fun w' hE hΦ=>?_)
    exact ⟨rfl,hE⟩
  ·refine sx_region (xr 2 [eT5 0 s,eN5 1 z,eB5 4 false,(14, .v (.bool (decide (z > 60))))] [] ?_)
   rw [(show (decide (z > 60))=false from decide_eq_false (by omega))]
   refine xr 7 [eT5 0 s,eN5 1 z,eB5 4 false,eB5 19 false,(21, .v (.bool (decide (z < (-60)))))] [] ?_
   rw [(show (decide (z < (-60)))=false from decide_eq_false (by omega))]
   refine xr 5 [eT5 0 s,eN5 1 z,eB5 4 false,eB5 26 false] [] ?_
   refine xe (sx_next (xb (sx_skip (sx_next (sx_seq ?_)))))
   obtain ⟨⟨P,ok⟩,hP⟩:∃ x,powF (bytes s) z=x:=⟨_,rfl⟩
   cases ok
   ·refine sx_region (xr 2 [eT5 0 s,eN5 1 z,eB5 4 false,eT5 31 s,eN5 32 z] [] ?_)
    refine xc 30 [.string s, .int .i64 z] 33 (fun _:Unit=>.tuple #[.string ⟨P.toArray⟩, .bool false]) _ (fun w hE hΦ=>(TPow_any s z _ hΦ hs (by omega)).mono (fun _ _ h=>post_val h (by rw [hP]))) (fun xx=>?_)
    refine xr 5 [eT5 0 s,eN5 1 z,eB5 4 false,eT5 5 ⟨P.toArray⟩,eB5 6 false] [] ?_
    refine xe (sx_next (sx_seq (sx_region (xr 2 [eB5 4 false,eT5 5 ⟨P.toArray⟩,eB5 6 false,eT5 37 s,eN5 38 z] [] ?_))))
    refine xc 31 [.string s, .int .i64 z] 39 (fun _:Unit=>.tuple #[.string ⟨P.toArray⟩, .bool false]) _ (fun w hE hΦ=>(RPow_any s z _ hs (by omega)).mono (fun _ _ h=>post_val h (by rw [hP]))) (fun xx=>?_)
    refine xr 5 [eB5 4 false,eT5 5 ⟨P.toArray⟩,eB5 6 false,eT5 7 ⟨P.toArray⟩,eB5 8 false] [] ?_
    refine xe (sx_next (sx_seq (sx_region (xr 3 [eB5 4 false,eB5 6 false,eB5 8 false,(44, .v (.bool ((⟨P.toArray⟩:ByteArray).toList == (⟨P.toArray⟩:ByteArray).toList)))] [] ?_))))
    rw [str_self]
    refine xr 6 [eB5 4 false,eB5 50 true] [] ?_
    refine xc 13 [] 51 (fun _:Unit=>.bool true) _ (fun w hE hΦ=>(awake1_any _ hΦ.1.1).mono (fun _ _ h=>post_val h rfl)) (fun xx=>?_)
    refine xr 2 [eB5 4 true] [] ?_
    refine xe (sx_next (sx_ret ?_))
    refine sx_done (v:=.bool true) (by kernel_rfl) (fun w' hE hΦ=>?_)
    exact ⟨rfl,hE⟩
   ·refine sx_region (xr 2 [eT5 0 s,eN5 1 z,eB5 4 false,eT5 31 s,eN5 32 z] [] ?_)
    refine xc 30 [.string s, .int .i64 z] 33 (fun _:Unit=>.tuple #[.string ⟨P.toArray⟩, .bool true]) _ (fun w hE hΦ=>(TPow_any s z _ hΦ hs (by omega)).mono (fun _ _ h=>post_val h (by rw [hP]))) (fun xx=>?_)
    refine xr 5 [eT5 0 s,eN5 1 z,eB5 4 false,eT5 5 ⟨P.toArray⟩,eB5 6 true] [] ?_
    refine xe (sx_next (sx_seq (sx_region (xr 2 [eB5 4 false,eT5 5 ⟨P.toArray⟩,eB5 6 true,eT5 37 s,eN5 38 z] [] ?_))))
    refine xc 31 [.string s, .int .i64 z] 39 (fun _:Unit=>.tuple #[.string ⟨P.toArray⟩, .bool true]) _ (fun w hE hΦ=>(RPow_any s z _ hs (by omega)).mono (fun _ _ h=>post_val h (by rw [hP]))) (fun xx=>?_)
    refine xr 5 [eB5 4 false,eT5 5 ⟨P.toArray⟩,eB5 6 true,eT5 7 ⟨P.toArray⟩,eB5 8 true] [] ?_
    refine xe (sx_next (sx_seq (sx_region (xr 3 [eB5 4 false,eB5 6 true,eB5 8 true,(44, .v (.bool ((⟨P.toArray⟩:ByteArray).toList == (⟨P.toArray⟩:ByteArray).toList)))] [] ?_))))
    rw [str_self]
    refine xr 6 [eB5 4 false,eB5 50 true] [] ?_
    refine xc 13 [] 51 (fun _:Unit=>.bool true) _ (fun w hE hΦ=>(awake1_any _ hΦ.1.1).mono (fun _ _ h=>post_val h rfl)) (fun xx=>?_)
    refine xr 2 [eB5 4 true] [] ?_
    refine xe (sx_next (sx_ret ?_))
    refine sx_done (v:=.bool true) (by kernel_rfl) (fun w' hE hΦ=>?_)
    exact ⟨rfl,hE⟩
  ·refine sx_region (xr 2 [eT5 0 s,eN5 1 z,eB5 4 false,(14, .v (.bool (decide (z > 60))))] [] ?_)
   rw [(show (decide (z > 60))=true from decide_eq_true (by omega))]
   refine xr 3 [eT5 0 s,eN5 1 z,eB5 4 false,eB5 15 true,(17, .v (.bool (decide (z≤1000))))] [] ?_
   rw [(show (decide (z≤1000))=false from decide_eq_false (by omega))]
   refine xr 4 [eT5 0 s,eN5 1 z,eB5 4 false,eB5 19 false,(21, .v (.bool (decide (z < (-60)))))] [] ?_
   rw [(show (decide (z < (-60)))=false from decide_eq_false (by omega))]
   refine xr 5 [eT5 0 s,eN5 1 z,eB5 4 false,eB5 26 false] [] ?_
   refine xe (sx_next (xb (sx_skip (sx_next (sx_seq ?_)))))
   obtain ⟨⟨P,ok⟩,hP⟩:∃ x,powF (bytes s) z=x:=⟨_,rfl⟩
   cases ok
   ·refine sx_region (xr 2 [eT5 0 s,eN5 1 z,eB5 4 false,eT5 31 s,eN5 32 z] [] ?_)
    refine xc 30 [.string s, .int .i64 z] 33 (fun _:Unit=>.tuple #[.string ⟨P.toArray⟩, .bool false]) _ (fun w hE hΦ=>(TPow_any s z _ hΦ hs (by omega)).mono (fun _ _ h=>post_val h (by rw [hP]))) (fun xx=>?_)
    refine xr 5 [eT5 0 s,eN5 1 z,eB5 4 false,eT5 5 ⟨P.toArray⟩,eB5 6 false] [] ?_
    refine xe (sx_next (sx_seq (sx_region (xr 2 [eB5 4 false,eT5 5 ⟨P.toArray⟩,eB5 6 false,eT5 37 s,eN5 38 z] [] ?_))))
    refine xc 31 [.string s, .int .i64 z] 39 (fun _:Unit=>.tuple #[.string ⟨P.toArray⟩, .bool false]) _ (fun w hE hΦ=>(RPow_any s z _ hs (by omega)).mono (fun _ _ h=>post_val h (by rw [hP]))) (fun xx=>?_)
    refine xr 5 [eB5 4 false,eT5 5 ⟨P.toArray⟩,eB5 6 false,eT5 7 ⟨P.toArray⟩,eB5 8 false] [] ?_
    refine xe (sx_next (sx_seq (sx_region (xr 3 [eB5 4 false,eB5 6 false,eB5 8 false,(44, .v (.bool ((⟨P.toArray⟩:ByteArray).toList == (⟨P.toArray⟩:ByteArray).toList)))] [] ?_))))
    rw [str_self]
    refine xr 6 [eB5 4 false,eB5 50 true] [] ?_
    refine xc 13 [] 51 (fun _:Unit=>.bool true) _ (fun w hE hΦ=>(awake1_any _ hΦ.1.1).mono (fun _ _ h=>post_val h rfl)) (fun xx=>?_)
    refine xr 2 [eB5 4 true] [] ?_
    refine xe (sx_next (sx_ret ?_))
    refine sx_done (v:=.bool true) (by kernel_rfl) (fun w' hE hΦ=>?_)
    exact ⟨rfl,hE⟩
   ·refine sx_region (xr 2 [eT5 0 s,eN5 1 z,eB5 4 false,eT5 31 s,eN5 32 z] [] ?_)
    refine xc 30 [.string s, .int .i64 z] 33 (fun _:Unit=>.tuple #[.string ⟨P.toArray⟩, .bool true]) _ (fun w hE hΦ=>(TPow_any s z _ hΦ hs (by omega)).mono (fun _ _ h=>post_val h (by rw [hP]))) (fun xx=>?_)
    refine xr 5 [eT5 0 s,eN5 1 z,eB5 4 false,eT5 5 ⟨P.toArray⟩,eB5 6 true] [] ?_
    refine xe (sx_next (sx_seq (sx_region (xr 2 [eB5 4 false,eT5 5 ⟨P.toArray⟩,eB5 6 true,eT5 37 s,eN5 38 z] [] ?_))))
    refine xc 31 [.string s, .int .i64 z] 39 (fun _:Unit=>.tuple #[.string ⟨P.toArray⟩, .bool true]) _ (fun w hE hΦ=>(RPow_any s z _ hs (by omega)).mono (fun _ _ h=>post_val h (by rw [hP]))) (fun xx=>?_)
    refine xr 5 [eB5 4 false,eT5 5 ⟨P.toArray⟩,eB5 6 true,eT5 7 ⟨P.toArray⟩,eB5 8 true] [] ?_
    refine xe (sx_next (sx_seq (sx_region (xr 3 [eB5 4 false,eB5 6 true,eB5 8 true,(44, .v (.bool ((⟨P.toArray⟩:ByteArray).toList == (⟨P.toArray⟩:ByteArray).toList)))] [] ?_))))
    rw [str_self]
    refine xr 6 [eB5 4 false,eB5 50 true] [] ?_
    refine xc 13 [] 51 (fun _:Unit=>.bool true) _ (fun w hE hΦ=>(awake1_any _ hΦ.1.1).mono (fun _ _ h=>post_val h rfl)) (fun xx=>?_)
    refine xr 2 [eB5 4 true] [] ?_
    refine xe (sx_next (sx_ret ?_))
    refine sx_done (v:=.bool true) (by kernel_rfl) (fun w' hE hΦ=>?_)
    exact ⟨rfl,hE⟩
  ·refine sx_region (xr 2 [eT5 0 s,eN5 1 z,eB5 4 false,(14, .v (.bool (decide (z > 60))))] [] ?_)
   rw [(show (decide (z > 60))=false from decide_eq_false (by omega))]
   refine xr 7 [eT5 0 s,eN5 1 z,eB5 4 false,eB5 19 false,(21, .v (.bool (decide (z < (-60)))))] [] ?_
   rw [(show (decide (z < (-60)))=true from decide_eq_true (by omega))]
   refine xr 3 [eT5 0 s,eN5 1 z,eB5 4 false,eB5 19 false,eB5 22 true,(24, .v (.bool (decide (z ≥ (-1000)))))] [] ?_
   rw [(show (decide (z ≥ (-1000)))=false from decide_eq_false (by omega))]
   refine xr 2 [eT5 0 s,eN5 1 z,eB5 4 false,eB5 26 false] [] ?_
   refine xe (sx_next (xb (sx_skip (sx_next (sx_seq ?_)))))
   obtain ⟨⟨P,ok⟩,hP⟩:∃ x,powF (bytes s) z=x:=⟨_,rfl⟩
   cases ok
   ·refine sx_region (xr 2 [eT5 0 s,eN5 1 z,eB5 4 false,eT5 31 s,eN5 32 z] [] ?_)
    refine xc 30 [.string s, .int .i64 z] 33 (fun _:Unit=>.tuple #[.string ⟨P.toArray⟩, .bool false]) _ (fun w hE hΦ=>(TPow_any s z _ hΦ hs (by omega)).mono (fun _ _ h=>post_val h (by rw [hP]))) (fun xx=>?_)
    refine xr 5 [eT5 0 s,eN5 1 z,eB5 4 false,eT5 5 ⟨P.toArray⟩,eB5 6 false] [] ?_
    refine xe (sx_next (sx_seq (sx_region (xr 2 [eB5 4 false,eT5 5 ⟨P.toArray⟩,eB5 6 false,eT5 37 s,eN5 38 z] [] ?_))))
    refine xc 31 [.string s, .int .i64 z] 39 (fun _:Unit=>.tuple #[.string ⟨P.toArray⟩, .bool false]) _ (fun w hE hΦ=>(RPow_any s z _ hs (by omega)).mono (fun _ _ h=>post_val h (by rw [hP]))) (fun xx=>?_)
    refine xr 5 [eB5 4 false,eT5 5 ⟨P.toArray⟩,eB5 6 false,eT5 7 ⟨P.toArray⟩,eB5 8 false] [] ?_
    refine xe (sx_next (sx_seq (sx_region (xr 3 [eB5 4 false,eB5 6 false,eB5 8 false,(44, .v (.bool ((⟨P.toArray⟩:ByteArray).toList == (⟨P.toArray⟩:ByteArray).toList)))] [] ?_))))
    rw [str_self]
    refine xr 6 [eB5 4 false,eB5 50 true] [] ?_
    refine xc 13 [] 51 (fun _:Unit=>.bool true) _ (fun w hE hΦ=>(awake1_any _ hΦ.1.1).mono (fun _ _ h=>post_val h rfl)) (fun xx=>?_)
    refine xr 2 [eB5 4 true] [] ?_
    refine xe (sx_next (sx_ret ?_))
    refine sx_done (v:=.bool true) (by kernel_rfl) (fun w' hE hΦ=>?_)
    exact ⟨rfl,hE⟩
   ·refine sx_region (xr 2 [eT5 0 s,eN5 1 z,eB5 4 false,eT5 31 s,eN5 32 z] [] ?_)
    refine xc 30 [.string s, .int .i64 z] 33 (fun _:Unit=>.tuple #[.string ⟨P.toArray⟩, .bool true]) _ (fun w hE hΦ=>(TPow_any s z _ hΦ hs (by omega)).mono (fun _ _ h=>post_val h (by rw [hP]))) (fun xx=>?_)
    refine xr 5 [eT5 0 s,eN5 1 z,eB5 4 false,eT5 5 ⟨P.toArray⟩,eB5 6 true] [] ?_
    refine xe (sx_next (sx_seq (sx_region (xr 2 [eB5 4 false,eT5 5 ⟨P.toArray⟩,eB5 6 true,eT5 37 s,eN5 38 z] [] ?_))))
    refine xc 31 [.string s, .int .i64 z] 39 (fun _:Unit=>.tuple #[.string ⟨P.toArray⟩, .bool true]) _ (fun w hE hΦ=>(RPow_any s z _ hs (by omega)).mono (fun _ _ h=>post_val h (by rw [hP]))) (fun xx=>?_)
    refine xr 5 [eB5 4 false,eT5 5 ⟨P.toArray⟩,eB5 6 true,eT5 7 ⟨P.toArray⟩,eB5 8 true] [] ?_
    refine xe (sx_next (sx_seq (sx_region (xr 3 [eB5 4 false,eB5 6 true,eB5 8 true,(44, .v (.bool ((⟨P.toArray⟩:ByteArray).toList == (⟨P.toArray⟩:ByteArray).toList)))] [] ?_))))
    rw [str_self]
    refine xr 6 [eB5 4 false,eB5 50 true] [] ?_
    refine xc 13 [] 51 (fun _:Unit=>.bool true) _ (fun w hE hΦ=>(awake1_any _ hΦ.1.1).mono (fun _ _ h=>post_val h rfl)) (fun xx=>?_)
    refine xr 2 [eB5 4 true] [] ?_
    refine xe (sx_next (sx_ret ?_))
    refine sx_done (v:=.bool true) (by kernel_rfl) (fun w' hE hΦ=>?_)
    exact ⟨rfl,hE⟩
end Go.Proofs.YtibipjlohahekaaGreatDoor
