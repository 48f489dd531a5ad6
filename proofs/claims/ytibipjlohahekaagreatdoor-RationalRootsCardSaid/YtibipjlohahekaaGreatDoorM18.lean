/-
 My texts Gq put together.
-/
import Derived.Test.YtibipjlohahekaaGreatDoorM17
import Derived.Test.YtibipjlohahekaaGreatDoorM11
namespace Go.Proofs.YtibipjlohahekaaGreatDoor
open Go.RowKit
theorem gq_pos (a b:Rat):(0:Int) < (a.den:Int) * b.den:=by
 have:=Rat.den_pos a; have:=Rat.den_pos b
 exact Int.mul_pos (by omega) (by omega)
theorem gqden {q:Rat} (h:¬ denF q=0):denF q=(q.den:Int):=by
 unfold denF at h ⊢
 split
 ·rename_i h1; rw [if_pos h1] at h; exact absurd rfl h
 ·rfl
theorem fq_lt {x y:Int} (hy:0 < y) (h:x.tmod y < 0):decide (IntKind.i64.wrap (((x).tmod (y)).sign * (y).sign) < 0)=true:=by
 rw [Int.sign_eq_neg_one_of_neg h,Int.sign_eq_one_of_pos hy]; decide
theorem fq_ge {x y:Int} (hy:0 < y) (h:¬ x.tmod y < 0):decide (IntKind.i64.wrap (((x).tmod (y)).sign * (y).sign) < 0)=false:=by
 rw [Int.sign_eq_one_of_pos hy]
 rcases sign3 (x.tmod y) with ⟨h1,_⟩ | ⟨_,h2⟩ | ⟨_,h2⟩
 ·exact absurd h1 h
 ·rw [h2]; decide
 ·rw [h2]; decide
theorem fq_neg {x y:Int} (hy:0 < y) (h:x.tmod y < 0):x.tdiv y - 1=x / y:=by
 have h1:=Int.mul_tdiv_add_tmod x y
 have h2:=Int.mul_ediv_add_emod x y
 have h3:=Int.emod_nonneg x (show y≠0 by omega)
 have h4:=Int.emod_lt_of_pos x hy
 have h5:=Int.lt_tmod_of_pos x hy
 have h6:y * (x.tdiv y - 1 - x / y)=x % y - x.tmod y - y:=by
  rw [Int.mul_sub,Int.mul_sub,Int.mul_one]; omega
 have h7:x.tdiv y - 1 - x / y=0:=by
  rcases Int.lt_trichotomy (x.tdiv y - 1 - x / y) 0 with h | h | h
  ·have:=Int.mul_le_mul_of_nonneg_left (show x.tdiv y - 1 - x / y ≤ -1 by omega) (Int.le_of_lt hy); rw [h6] at this; omega
  ·exact h
  ·have:=Int.mul_le_mul_of_nonneg_left (show 1≤x.tdiv y - 1 - x / y by omega) (Int.le_of_lt hy); rw [h6] at this; omega
 omega
theorem fq_pos {x y:Int} (hy:0 < y) (h:¬ x.tmod y < 0):x.tdiv y=x / y:=by
 have h1:=Int.mul_tdiv_add_tmod x y
 have h2:=Int.mul_ediv_add_emod x y
 have h3:=Int.emod_nonneg x (show y≠0 by omega)
 have h4:=Int.emod_lt_of_pos x hy
 have h5:=Int.tmod_lt_of_pos x hy
 have h6:y * (x.tdiv y - x / y)=x % y - x.tmod y:=by
  rw [Int.mul_sub]; omega
 have h7:x.tdiv y - x / y=0:=by
  rcases Int.lt_trichotomy (x.tdiv y - x / y) 0 with h | h | h
  ·have:=Int.mul_le_mul_of_nonneg_left (show x.tdiv y - x / y ≤ -1 by omega) (Int.le_of_lt hy); rw [h6] at this; omega
  ·exact h
  ·have:=Int.mul_le_mul_of_nonneg_left (show 1≤x.tdiv y - x / y by omega) (Int.le_of_lt hy); rw [h6] at this; omega
 omega
theorem fq_abs (q:Rat):(q.num / q.den).natAbs≤q.num.natAbs:=by
 have hd:=Rat.den_pos q
 have h2:=Int.mul_ediv_add_emod q.num q.den
 have h3:=Int.emod_nonneg q.num (denI q)
 have h4:=Int.emod_lt_of_pos q.num (show (0:Int) < q.den by omega)
 rcases Int.lt_or_le (q.num / q.den) 0 with h | h
 ·have h5:q.num < 0:=by
   rcases Int.lt_or_le q.num 0 with h6 | h6
   ·exact h6
   ·have:=Int.ediv_nonneg h6 (show (0:Int)≤q.den by omega); omega
  have h7:q.num≤q.num / q.den:=by
   rw [Int.le_ediv_iff_mul_le (by omega)]
   have:=Int.mul_le_mul_of_nonpos_left (show q.num≤0 by omega) (show (1:Int)≤q.den by omega)
   omega
  omega
 ·have h7:q.num / q.den≤q.num:=by
   have h8:0≤q.num:=by
    rcases Int.lt_or_le q.num 0 with h6 | h6
    ·have:=Int.ediv_neg_of_neg_of_pos h6 (show (0:Int) < q.den by omega); omega
    ·exact h6
   exact Int.ediv_le_self _ h8
  omega
theorem lit48_t {s:ByteArray} (h:bytes s=[48]):(s.toList == (⟨#[48]⟩:ByteArray).toList)=true:=by
 rw [Lib.toList_data,Lib.toList_data,show s.data.toList=[48] from h]; rfl
theorem lit48_f {s:ByteArray} (h:¬ bytes s=[48]):(s.toList == (⟨#[48]⟩:ByteArray).toList)=false:=by
 rw [Lib.toList_data,Lib.toList_data]; exact beq_eq_false_iff_ne.2 h
theorem sgn_txt {l:List UInt8} {q:Rat} {c:UInt8} (h:readF l=some q) (hc:l.head? = some c):(c=45→q.num < 0)∧(c≠45→0≤q.num):=by
 have ht:=text_of_read h
 have key:∃ r,l=Lib.itoa q.num ++ r:=by
  rw [← ht]; unfold ratText
  split
  ·exact ⟨[],by simp⟩
  ·exact ⟨[47] ++ Lib.itoa (q.den:Int),by simp⟩
 obtain ⟨r,hr⟩:=key
 rcases Int.lt_or_le q.num 0 with h1 | h1
 ·rw [hr,itoa_neg h1] at hc
  simp at hc
  exact ⟨fun _=>h1,fun e=>absurd hc.symm e⟩
 ·refine ⟨fun e=>?_,fun _=>h1⟩
  exfalso
  rw [hr,show q.num=((q.num.toNat:Nat):Int) by omega,itoa_den] at hc
  have hne:=decDigits_ne q.num.toNat
  have:=head_dec_ne q.num.toNat
  cases hd:Lib.decDigits q.num.toNat with
  | nil=>exact hne hd
  | cons x xs=>rw [hd] at hc this; simp at hc this; exact this (hc.trans e)
theorem zero_txt {l:List UInt8} {q:Rat} (h:readF l=some q) (h0:q.num=0):l=[48]:=by
 have ht:=text_of_read h
 have hq:q=0:=Rat.num_eq_zero.1 h0
 rw [← ht,hq]; exact rt_whole (n:=0) (by decide) (by decide) (by decide)
theorem zt:ratText 0=[48]:=rt_whole (n:=0) (by decide) (by decide) (by decide)
theorem str_head' {s:ByteArray} (h:¬ bytes s=[]):∃ c,(bytes s).head? = some c∧s[0]? = some c:=by
 obtain ⟨h1,_⟩:=head_of h
 exact ⟨s[0],head_byte h1,by simp [h1]⟩
theorem u8_ne' {c b:UInt8} (h:¬ c=b):((c.toNat:Int) == (b.toNat:Int))=false:=by
 have:c.toNat≠b.toNat:=fun e=>h (UInt8.toNat_inj.1 e)
 simp; omega
theorem run_stridx' {P:Program} {o:Oper} {ρ:Operand→Value} {w:World} {t:TypeId} {x i:Operand} {b:ByteArray} {k:Nat} {c:UInt8} (ho:o.op=Op.index t x i) (ht:P.underlying t=some .string) (hx:ρ x=.string b) (hi:ρ i=.int .i64 (k:Int)) (hc:b[k]? = some c):(execOp ρ o).run P w=.ok (.value (.int .u8 (c.toNat:Int))) w:=by
 simp [execOp,ho,Instr.index,asIntOf,underlying,ht,hx,hi,hc,Result.andThen]
set_option maxRecDepth 100000 in
theorem FloorQuo_any (a b:Value) (x y:Int) (w:World) (ha:IntIs w a x) (hb:IntIs w b y) (hx:Fits x) (h80:wl y.natAbs < 80) (hy:0 < y) :
 Calls Tryz.prog 138 #[a,b] w (RetInt w (x / y)):=by
 obtain ⟨s0,A0,l0,c0,rfl⟩:=ha.shape
 obtain ⟨s1,A1,l1,c1,rfl⟩:=hb.shape
 refine sx_enter (Φ:=fun w=>(IntIs w (.agg #[.bool s0, .slice A0 l0 c0]) (x)∧IntIs w (.agg #[.bool s1, .slice A1 l1 c1]) (y))) Tryz.func138 rfl (by kernel_rfl) (fun w' hf=>⟨ha.ext hf,hb.ext hf⟩) ?_
 refine sx_seq (sx_region (xr 3 [(2, .p 2 0),(3, .p 3 0),(4, .p 4 0)] [bI2 4 63 false none 0 0,bI2 3 63 s1 A1 l1 c1,bI2 2 63 s0 A0 l0 c0] ?_))
 refine xe (sx_next (sx_seq (sx_region (xr 2 [(3, .p 3 0),(4, .p 4 0),eI2 8 s0 A0 l0 c0,eI2 9 s1 A1 l1 c1] [bI2 4 63 false none 0 0,bI2 3 63 s1 A1 l1 c1] ?_))))
 refine xc 154 [vI2 s0 A0 l0 c0,vI2 s1 A1 l1 c1] 10 shInt2 _ (fun w hE hΦ=>(QuoRem_any _ _ (x) (y) _ hΦ.1 hΦ.2 hx h80 (by omega)).mono (fun _ _ h=>post_Int2 h)) (fun xx=>?_)
 obtain ⟨⟨s10,A10,l10,c10⟩,⟨s11,A11,l11,c11⟩⟩:=xx
 refine xr 7 [(3, .p 3 0),(4, .p 4 0),(5, .p 5 0),(6, .p 6 0)] [bI2 6 63 s11 A11 l11 c11,bI2 5 63 s10 A10 l10 c10,bI2 4 63 false none 0 0,bI2 3 63 s1 A1 l1 c1] ?_
 refine xe (sx_next (sx_seq (sx_seq ?_)))
 by_cases hr:x.tmod y < 0
 ·refine sx_draw 6 (by kernel_rfl) (by kernel_rfl) follows_mixed' ?_
  refine xf 1 [(3, .p 3 0),(4, .p 4 0),(5, .p 5 0),eI2 13 s11 A11 l11 c11] [bI2 6 63 s11 A11 l11 c11,bI2 5 63 s10 A10 l10 c10,bI2 4 63 false none 0 0,bI2 3 63 s1 A1 l1 c1] ?_
  refine xd 115 [vI2 s11 A11 l11 c11] 14 (fun _:Unit=>.int .i64 ((x).tmod (y)).sign) _ (fun w hE hΦ=>(Sign_any _ ((x).tmod (y)) _ hΦ.2.2).mono (fun _ _ h=>post_val h rfl)) (fun xx=>?_)
  refine xf 1 [(4, .p 4 0),(5, .p 5 0),(14, .v (.int .i64 ((x).tmod (y)).sign)),eI2 15 s1 A1 l1 c1] [bI2 6 63 s11 A11 l11 c11,bI2 5 63 s10 A10 l10 c10,bI2 4 63 false none 0 0,bI2 3 63 s1 A1 l1 c1] ?_
  refine xd 115 [vI2 s1 A1 l1 c1] 16 (fun _:Unit=>.int .i64 (y).sign) _ (fun w hE hΦ=>(Sign_any _ (y) _ hΦ.1.1.2).mono (fun _ _ h=>post_val h rfl)) (fun xx=>?_)
  refine xf 2 [(4, .p 4 0),(5, .p 5 0),(18, .v (.bool (decide ((IntKind.i64.wrap (((x).tmod (y)).sign * (y).sign)) < 0))))] [bI2 6 63 s11 A11 l11 c11,bI2 5 63 s10 A10 l10 c10,bI2 4 63 false none 0 0,bI2 3 63 s1 A1 l1 c1] ?_
  rw [fq_lt hy hr]
  refine xf 0 [(4, .p 4 0),(5, .p 5 0),(18, .v (.bool true))] [bI2 6 63 s11 A11 l11 c11,bI2 5 63 s10 A10 l10 c10,bI2 4 63 false none 0 0,bI2 3 63 s1 A1 l1 c1] ?_
  refine xz (xe (sx_next (xa (sx_seq ?_))))
  refine sx_draw 4 (by kernel_rfl) (by kernel_rfl) follows_mixed' ?_
  refine xf 1 [(4, .p 4 0),(5, .p 5 0),eI2 19 s10 A10 l10 c10] [bI2 6 63 s11 A11 l11 c11,bI2 5 63 s10 A10 l10 c10,bI2 4 63 false none 0 0,bI2 3 63 s1 A1 l1 c1] ?_
  refine xd 58 [.int .i64 1] 20 shInt _ (fun w hE hΦ=>(New_pos 1 _ (by rw [W64_eq]; omega) (by decide) (by decide)).mono (fun _ _ h=>post_Int h)) (fun xx=>?_)
  obtain ⟨s12,A12,l12,c12⟩:=xx
  refine xf 0 [(4, .p 4 0),(5, .p 5 0),eI2 19 s10 A10 l10 c10,eI2 20 s12 A12 l12 c12] [bI2 6 63 s11 A11 l11 c11,bI2 5 63 s10 A10 l10 c10,bI2 4 63 false none 0 0,bI2 3 63 s1 A1 l1 c1] ?_
  refine xd 170 [vI2 s10 A10 l10 c10,vI2 s12 A12 l12 c12] 21 shInt _ (fun w hE hΦ=>(Sub_any _ _ ((x).tdiv (y)) (1) _ hΦ.1.1.1.2.1 hΦ.2 (fit (Nat.le_trans (wl_mono (by rw [Int.natAbs_tdiv]; exact Nat.div_le_self _ _)) hx) (by decide)) (fit (k:=1) (wl_one.2 (by rw [W64_eq]; decide)) (by decide))).mono (fun _ _ h=>post_Int (by rw [fq_neg hy hr] at h; exact h))) (fun xx=>?_)
  obtain ⟨s13,A13,l13,c13⟩:=xx
  refine xf 1 [(4, .p 4 0),(5, .p 5 0)] [bI2 4 63 s13 A13 l13 c13,bI2 6 63 s11 A11 l11 c11,bI2 5 63 s10 A10 l10 c10,bI2 4 63 false none 0 0,bI2 3 63 s1 A1 l1 c1] ?_
  refine xz (xe (sx_next (sx_ret (sx_then_ret ?_))))
  refine sx_done (v:=.agg #[.bool s13, .slice A13 l13 c13]) (by kernel_rfl) (fun w' hE hΦ=>?_)
  exact ⟨_,rfl,hΦ.2,hE⟩
 ·refine sx_draw 6 (by kernel_rfl) (by kernel_rfl) follows_mixed' ?_
  refine xf 1 [(3, .p 3 0),(4, .p 4 0),(5, .p 5 0),eI2 13 s11 A11 l11 c11] [bI2 6 63 s11 A11 l11 c11,bI2 5 63 s10 A10 l10 c10,bI2 4 63 false none 0 0,bI2 3 63 s1 A1 l1 c1] ?_
  refine xd 115 [vI2 s11 A11 l11 c11] 14 (fun _:Unit=>.int .i64 ((x).tmod (y)).sign) _ (fun w hE hΦ=>(Sign_any _ ((x).tmod (y)) _ hΦ.2.2).mono (fun _ _ h=>post_val h rfl)) (fun xx=>?_)
  refine xf 1 [(4, .p 4 0),(5, .p 5 0),(14, .v (.int .i64 ((x).tmod (y)).sign)),eI2 15 s1 A1 l1 c1] [bI2 6 63 s11 A11 l11 c11,bI2 5 63 s10 A10 l10 c10,bI2 4 63 false none 0 0,bI2 3 63 s1 A1 l1 c1] ?_
  refine xd 115 [vI2 s1 A1 l1 c1] 16 (fun _:Unit=>.int .i64 (y).sign) _ (fun w hE hΦ=>(Sign_any _ (y) _ hΦ.1.1.2).mono (fun _ _ h=>post_val h rfl)) (fun xx=>?_)
  refine xf 2 [(4, .p 4 0),(5, .p 5 0),(18, .v (.bool (decide ((IntKind.i64.wrap (((x).tmod (y)).sign * (y).sign)) < 0))))] [bI2 6 63 s11 A11 l11 c11,bI2 5 63 s10 A10 l10 c10,bI2 4 63 false none 0 0,bI2 3 63 s1 A1 l1 c1] ?_
  rw [fq_ge hy hr]
  refine xf 0 [(4, .p 4 0),(5, .p 5 0),(18, .v (.bool false))] [bI2 6 63 s11 A11 l11 c11,bI2 5 63 s10 A10 l10 c10,bI2 4 63 false none 0 0,bI2 3 63 s1 A1 l1 c1] ?_
  refine xz (xe (sx_next (xb (sx_skip (sx_next (sx_seq (sx_region (xr 2 [(4, .p 4 0)] [bI2 4 63 s10 A10 l10 c10] ?_))))))))
  refine xe (sx_next (sx_ret ?_))
  refine sx_done (v:=.agg #[.bool s10, .slice A10 l10 c10]) (by kernel_rfl) (fun w' hE hΦ=>?_)
  exact ⟨_,rfl,(by rw [← fq_pos hy hr]; exact hΦ.1.1.2.1),hE⟩
set_option maxRecDepth 100000 in
theorem QFloor_any (a:Value) (q:Rat) (w:World) (ha:RatIs w a q) (hq:QFits q 38) :
 Calls Tryz.prog 91 #[a] w (RetInt w ((q).num / (q).den)):=by
 obtain ⟨s0,A0,l0,c0,t0,B0,m0,d0,rfl⟩:=ha.shp
 refine sx_enter (Φ:=fun w=>RatIs w (.agg #[.bool s0, .slice A0 l0 c0, .bool t0, .slice B0 m0 d0]) (q)) Tryz.func91 rfl (by kernel_rfl) (fun w' hf=>ha.ext hf) ?_
 refine sx_seq (sx_region (xr 2 [(1, .p 1 0),(2, .p 2 0)] [bI2 2 63 false none 0 0,bR4 1 70 s0 A0 l0 c0 t0 B0 m0 d0] ?_))
 refine xe (sx_next (sx_seq (sx_seq (sx_region (xr 2 [(1, .p 1 0),(2, .p 2 0),eI2 4 t0 B0 m0 d0] [bI2 2 63 false none 0 0,bR4 1 70 s0 A0 l0 c0 t0 B0 m0 d0] ?_)))))
 by_cases hzd:denF q=0
 ·refine xc 60 [vI2 t0 B0 m0 d0] 5 (fun _:Unit=>.bool true) _ (fun w hE hΦ=>(IsZero_any _ (denF (q)) _ hΦ.den).mono (fun _ _ h=>post_val h (by rw [decide_eq_true hzd]))) (fun xx=>?_)
  refine xr 0 [(1, .p 1 0),(2, .p 2 0),(5, .v (.bool true))] [bI2 2 63 false none 0 0,bR4 1 70 s0 A0 l0 c0 t0 B0 m0 d0] ?_
  refine xe (sx_next (xa (sx_seq (sx_region (xr 3 [(1, .p 1 0),(2, .p 2 0)] [bI2 2 63 s0 A0 l0 c0,bR4 1 70 s0 A0 l0 c0 t0 B0 m0 d0] ?_)))))
  refine xe (sx_next (sx_ret (sx_then_ret ?_)))
  refine sx_done (v:=.agg #[.bool s0, .slice A0 l0 c0]) (by kernel_rfl) (fun w' hE hΦ=>?_)
  exact ⟨_,rfl,(by rw [denF_zero.1 hzd]; show IntIs _ _ ((q).num / ((1:Nat):Int)); rw [show (((1:Nat)):Int)=1 from rfl,Int.ediv_one]; exact hΦ.1.num),hE⟩
 ·refine xc 60 [vI2 t0 B0 m0 d0] 5 (fun _:Unit=>.bool false) _ (fun w hE hΦ=>(IsZero_any _ (denF (q)) _ hΦ.den).mono (fun _ _ h=>post_val h (by rw [decide_eq_false hzd]))) (fun xx=>?_)
  refine xr 0 [(1, .p 1 0),(2, .p 2 0),(5, .v (.bool false))] [bI2 2 63 false none 0 0,bR4 1 70 s0 A0 l0 c0 t0 B0 m0 d0] ?_
  refine xe (sx_next (xb (sx_skip (sx_next (sx_seq (sx_region (xr 4 [(2, .p 2 0),eI2 9 s0 A0 l0 c0,eI2 11 t0 B0 m0 d0] [bI2 2 63 false none 0 0] ?_)))))))
  refine xc 138 [vI2 s0 A0 l0 c0,vI2 t0 B0 m0 d0] 12 shInt _ (fun w hE hΦ=>(FloorQuo_any _ _ (q).num (denF q) _ hΦ.1.num hΦ.1.den (fit hq.1 (by decide)) (by rw [gqden hzd]; exact Nat.lt_of_le_of_lt (wlc hq.2) (by decide)) (by rw [gqden hzd]; have:=Rat.den_pos q; omega)).mono (fun _ _ h=>post_Int (by rw [gqden hzd] at h; exact h))) (fun xx=>?_)
  obtain ⟨s10,A10,l10,c10⟩:=xx
  refine xr 1 [(2, .p 2 0)] [bI2 2 63 s10 A10 l10 c10] ?_
  refine xe (sx_next (sx_ret ?_))
  refine sx_done (v:=.agg #[.bool s10, .slice A10 l10 c10]) (by kernel_rfl) (fun w' hE hΦ=>?_)
  exact ⟨_,rfl,hΦ.2,hE⟩
set_option maxRecDepth 100000 in
theorem TFloor_any (s:ByteArray) (w:World) (hg:Glob w) (hs:(bytes s).length≤570) :
 Calls Tryz.prog 34 #[.string s] w (RetV w (.string ⟨(Lib.itoa ((valF (bytes s)).num / (valF (bytes s)).den)).toArray⟩)):=by
 have fa:=valF_fits hs
 refine sx_enter (Φ:=fun w=>Glob w) Tryz.func34 rfl (by kernel_rfl) (fun w' hf=>hg.ext hf) ?_
 refine sx_seq (sx_region (xr 1 [(0, .v (.string s)),(2, .v (.string ⟨#[]⟩))] [] ?_))
 refine xe (sx_next (sx_seq (sx_region (xr 1 [(2, .v (.string ⟨#[]⟩)),(3, .v (.string s))] [] ?_))))
 refine xc 75 [.string s] 4 shRat _ (fun w hE hΦ=>(value_any s _ hΦ (ReadOk.of_len hs)).mono (fun _ _ h=>post_Rat h)) (fun xx=>?_)
 obtain ⟨s10,A10,l10,c10,t10,B10,m10,d10⟩:=xx
 refine xr 0 [(2, .v (.string ⟨#[]⟩)),eR4 4 s10 A10 l10 c10 t10 B10 m10 d10] [] ?_
 refine xc 91 [vR4 s10 A10 l10 c10 t10 B10 m10 d10] 5 shInt _ (fun w hE hΦ=>(QFloor_any _ (valF (bytes s)) _ hΦ.2 (fa.up (by decide))).mono (fun _ _ h=>post_Int h)) (fun xx=>?_)
 obtain ⟨s11,A11,l11,c11⟩:=xx
 refine xr 0 [(2, .v (.string ⟨#[]⟩)),eI2 5 s11 A11 l11 c11] [] ?_
 refine xc 92 [vI2 s11 A11 l11 c11] 6 (fun _:Unit=>.string ⟨(Lib.itoa ((valF (bytes s)).num / (valF (bytes s)).den)).toArray⟩) _ (fun w hE hΦ=>(String_any _ ((valF (bytes s)).num / (valF (bytes s)).den) _ hΦ.1.1 hΦ.2 (by have:=Nat.le_trans (wl_mono (fq_abs (valF (bytes s)))) fa.1; unfold PrtOk; omega)).mono (fun _ _ h=>post_val h rfl)) (fun xx=>?_)
 refine xr 1 [(2, .v (.string ⟨(Lib.itoa ((valF (bytes s)).num / (valF (bytes s)).den)).toArray⟩))] [] ?_
 refine xe (sx_next (sx_ret ?_))
 refine sx_done (v:=.string ⟨(Lib.itoa ((valF (bytes s)).num / (valF (bytes s)).den)).toArray⟩) (by kernel_rfl) (fun w' hE hΦ=>?_)
 exact ⟨rfl,hE⟩
set_option maxRecDepth 100000 in
theorem TSign_any (s:ByteArray) (w:World) (hg:Glob w) (hs:(bytes s).length≤570) :
 Calls Tryz.prog 33 #[.string s] w (RetV w (.int .i64 (valF (bytes s)).num.sign)):=by
 refine sx_enter (Φ:=fun w=>Glob w) Tryz.func33 rfl (by kernel_rfl) (fun w' hf=>hg.ext hf) ?_
 refine sx_seq (sx_region (xr 1 [(0, .v (.string s)),(2, .v (.int .i64 0))] [] ?_))
 refine xe (sx_next (sx_seq (sx_block (sx_seq ?_))))
 by_cases h48:bytes s=[48]
 ·refine sx_region (xr 2 [(0, .v (.string s)),(2, .v (.int .i64 0)),(5, .v (.bool ((s:ByteArray).toList == (⟨#[48]⟩:ByteArray).toList)))] [] ?_)
  rw [lit48_t h48]
  refine xr 6 [(0, .v (.string s)),(2, .v (.int .i64 0)),(3, .v (.bool true))] [] ?_
  refine xe (sx_next (xa (sx_seq (sx_region (xr 1 [(2, .v (.int .i64 0))] [] ?_)))))
  refine xe (sx_next (sx_ret (sx_in_ret (sx_then_ret ?_))))
  refine sx_done (v:=.int .i64 0) (by kernel_rfl) (fun w' hE hΦ=>?_)
  exact ⟨by rw [valF_of (show ratText 0=bytes s by rw [h48]; exact zt)]; rfl,hE⟩
 ·refine sx_region (xr 2 [(0, .v (.string s)),(2, .v (.int .i64 0)),(5, .v (.bool ((s:ByteArray).toList == (⟨#[48]⟩:ByteArray).toList)))] [] ?_)
  rw [lit48_f h48]
  refine xr 2 [(0, .v (.string s)),(2, .v (.int .i64 0)),(6, .v (.bool false)),(7, .v (.string s))] [] ?_
  by_cases hv:(readF (bytes s)).isSome=true
  ·obtain ⟨q,hq⟩:=Option.isSome_iff_exists.1 hv
   obtain ⟨c0,h0,hc0⟩:=str_head' (s:=s) (fun e=>by rw [e,show readF []=none from rfl] at hq; cases hq)
   refine xc 52 [.string s] 8 (fun _:Unit=>.bool true) _ (fun w hE hΦ=>(Valid_any s _ hΦ hs).mono (fun _ _ h=>post_val h (by rw [hv]))) (fun xx=>?_)
   refine xr 3 [(0, .v (.string s)),(2, .v (.int .i64 0)),(3, .v (.bool false))] [] ?_
   refine xe (sx_next (xb (sx_seq ?_)))
   by_cases hm:c0=45
   ·refine sx_region (xr 1 [(2, .v (.int .i64 0)),(12, .v (.string s))] [] ?_)
    refine sx_look 13 (.int .u8 (c0.toNat:Int)) (by kernel_rfl) (by kernel_rfl) (by kernel_rfl) (by kernel_rfl) (by kernel_rfl) (by kernel_rfl) (fun w hE hΦ=>run_stridx' (t:=9) (x:=.tmp 12) (k:=0) (i:=.const (.int .i64 0)) (by kernel_rfl) (by kernel_rfl) (by kernel_rfl) (by rfl) hc0) ?_
    refine xr 1 [(2, .v (.int .i64 0)),(14, .v (.bool (((c0.toNat:Int):Int) == 45)))] [] ?_
    rw [(show ((c0.toNat:Int) == 45)=true from by rw [hm]; rfl)]
    refine xr 1 [(2, .v (.int .i64 0)),(11, .v (.bool true))] [] ?_
    refine xe (sx_next (xa (sx_seq (sx_region (xr 1 [(2, .v (.int .i64 (-1)))] [] ?_)))))
    refine xe (sx_next (sx_ret (sx_in_ret (sx_then_ret ?_))))
    refine sx_done (v:=.int .i64 (-1)) (by kernel_rfl) (fun w' hE hΦ=>?_)
    exact ⟨by rw [valF_some hq,Int.sign_eq_neg_one_of_neg ((sgn_txt hq h0).1 hm)],hE⟩
   ·refine sx_region (xr 1 [(2, .v (.int .i64 0)),(12, .v (.string s))] [] ?_)
    refine sx_look 13 (.int .u8 (c0.toNat:Int)) (by kernel_rfl) (by kernel_rfl) (by kernel_rfl) (by kernel_rfl) (by kernel_rfl) (by kernel_rfl) (fun w hE hΦ=>run_stridx' (t:=9) (x:=.tmp 12) (k:=0) (i:=.const (.int .i64 0)) (by kernel_rfl) (by kernel_rfl) (by kernel_rfl) (by rfl) hc0) ?_
    refine xr 1 [(2, .v (.int .i64 0)),(14, .v (.bool (((c0.toNat:Int):Int) == 45)))] [] ?_
    rw [(show ((c0.toNat:Int) == 45)=false from u8_ne' (b:=45) hm)]
    refine xr 1 [(2, .v (.int .i64 0)),(11, .v (.bool false))] [] ?_
    refine xe (sx_next (xb (sx_skip (sx_out (sx_next (sx_seq (sx_region (xr 1 [(2, .v (.int .i64 1))] [] ?_))))))))
    refine xe (sx_next (sx_ret ?_))
    refine sx_done (v:=.int .i64 1) (by kernel_rfl) (fun w' hE hΦ=>?_)
    exact ⟨by rw [valF_some hq,Int.sign_eq_one_of_pos (by have h1:=(sgn_txt hq h0).2 hm; have h2:q.num≠0:=fun e=>h48 (zero_txt hq e); omega)],hE⟩
  ·refine xc 52 [.string s] 8 (fun _:Unit=>.bool false) _ (fun w hE hΦ=>(Valid_any s _ hΦ hs).mono (fun _ _ h=>post_val h (by rw [Bool.eq_false_iff.2 hv]))) (fun xx=>?_)
   refine xr 3 [(0, .v (.string s)),(2, .v (.int .i64 0)),(3, .v (.bool true))] [] ?_
   refine xe (sx_next (xa (sx_seq (sx_region (xr 1 [(2, .v (.int .i64 0))] [] ?_)))))
   refine xe (sx_next (sx_ret (sx_in_ret (sx_then_ret ?_))))
   refine sx_done (v:=.int .i64 0) (by kernel_rfl) (fun w' hE hΦ=>?_)
   exact ⟨by rw [valF_none (by cases h:readF (bytes s) with | none=>rfl | some q=>rw [h] at hv; exact absurd rfl hv)]; rfl,hE⟩
end Go.Proofs.YtibipjlohahekaaGreatDoor
