/-
 My texts SdLs put together.
-/
import Derived.Test.YtbgkofgoeoiciaaGreatDoorQ22
namespace Go.Proofs.YtbgkofgoeoiciaaGreatDoor
open Go.RowKit
set_option maxRecDepth 100000 in
theorem surdSign_no (a1 a2:ByteArray) (da:Int) (w:World) (hg:Glob w) (hx:rdS (bytes a1) (bytes a2) da=none) :
 Calls Tryz.prog 4 #[.agg #[.string a1, .string a2, .int .i64 da]] w (RetV w (.bool true)):=by
 obtain ⟨r,hr⟩:∃ r,[(a1,a2,da)].all okP=r:=⟨_,rfl⟩
 refine sx_enter (Φ:=fun w=>Glob w) Tryz.func4 rfl (by kernel_rfl) (fun w' hf=>hg.ext hf) ?_
 refine sx_seq (sx_region (xr 2 [(1, .p 1 0),(2, .v (.bool false))] [bS3 1 23 a1 a2 da] ?_))
 refine xe (sx_next (sx_seq (sx_seq (sx_region (xr 1 [(1, .p 1 0),(2, .v (.bool false)),eS3 11 a1 a2 da] [bS3 1 23 a1 a2 da] ?_)))))
 refine sx_does (d:=12) (fun zb:Nat=>.slice (some ⟨zb,0,none⟩) 1 1) (fun zb zw=>Blk 23 zw zb #[.string a1, .string a2, .int .i64 da]) (by kernel_rfl) (by kernel_rfl) (by kernel_rfl) (by kernel_rfl) (by kernel_rfl) (by kernel_rfl) (fun w hE hΦ=>does_bslice (t:=86) (e:=23) (n:=1) (sz:=3) (z:=.agg #[.string ⟨#[]⟩, .string ⟨#[]⟩, .int .i64 0]) (parts:=#[(0,Operand.tmp 11)]) (by kernel_rfl) (by kernel_rfl) (by kernel_rfl) (by kernel_rfl) (by kernel_rfl) (by kernel_rfl)) (fun b10=>?_)
 refine xr 0 [(1, .p 1 0),(2, .v (.bool false)),eS1 12 (some ⟨b10,0,none⟩) 1 1] [bS3 1 23 a1 a2 da] ?_
 refine xc 15 [.slice (some ⟨b10,0,none⟩) 1 1] 13 (fun _:Unit=>.bool r) _ (fun w hE hΦ=>(small_any _ 1 [(a1,a2,da)] _ hΦ.2 rfl (by decide) r hr).mono (fun _ _ h=>post_val h rfl)) (fun xx=>?_)
 rcases r with _ | _
 ·refine xr 1 [(1, .p 1 0),(2, .v (.bool false)),(14, .v (.bool true))] [bS3 1 23 a1 a2 da] ?_
  refine xe (sx_next (xa (sx_seq (sx_region ?_))))
  refine xc 17 [] 15 (fun _:Unit=>.bool true) _ (fun w hE hΦ=>(awake11_any _ hΦ.1.1).mono (fun _ _ h=>post_val h rfl)) (fun xx=>?_)
  refine xr 1 [(1, .p 1 0),(2, .v (.bool true))] [bS3 1 23 a1 a2 da] ?_
  refine xe (sx_next (sx_ret (sx_then_ret ?_)))
  refine sx_done (v:=.bool true) (by kernel_rfl) (fun w' hE hΦ=>?_)
  exact ⟨rfl,hE⟩
 ·have HL:=small_l1 hr
  have LA:(bytes a1).length≤570∧(bytes a2).length≤570:=by omega
  refine xr 1 [(1, .p 1 0),(2, .v (.bool false)),(14, .v (.bool false))] [bS3 1 23 a1 a2 da] ?_
  refine xe (sx_next (xb (sx_skip (sx_next (sx_seq (sx_region (xr 1 [(1, .p 1 0),(2, .v (.bool false)),eS3 17 a1 a2 da] [bS3 1 23 a1 a2 da] ?_)))))))
  refine xc 22 [vS3 a1 a2 da] 18 (fun u0:Int × ShS=>.tuple #[shSd u0.1 u0.2, .bool false]) _ (fun w hE hΦ=>(RRead_any a1 a2 da _ LA).mono (fun _ _ h=>post_RRd_none h hx)) (fun xx=>?_)
  obtain ⟨d13d,X11,X12⟩:=xx
  refine xr 6 [(1, .p 1 0),(2, .v (.bool false)),(3, .p 3 0),(4, .v (.bool false))] [bW 3 38 X11 X12 d13d,bS3 1 23 a1 a2 da] ?_
  refine xe (sx_next (sx_seq (sx_region (xr 1 [(1, .p 1 0),(2, .v (.bool false)),(3, .p 3 0),(4, .v (.bool false)),eS3 22 a1 a2 da] [bW 3 38 X11 X12 d13d,bS3 1 23 a1 a2 da] ?_))))
  refine xc 23 [vS3 a1 a2 da] 23 (fun _:Unit=>.tuple #[vS3 ⟨#[]⟩ ⟨#[]⟩ 0, .int .i64 1]) _ (fun w hE hΦ=>(SConjT_bad a1 a2 da _ hΦ.1.1.1 LA hx).mono (fun _ _ h=>post_val h (by rw [opU_bad hx]))) (fun xx=>?_)
  refine xr 6 [(1, .p 1 0),(2, .v (.bool false)),(3, .p 3 0),(4, .v (.bool false)),(5, .p 5 0),(6, .v (.int .i64 1))] [bS3 5 23 ⟨#[]⟩ ⟨#[]⟩ 0,bW 3 38 X11 X12 d13d,bS3 1 23 a1 a2 da] ?_
  refine xe (sx_next (sx_seq (sx_region (xr 1 [(1, .p 1 0),(2, .v (.bool false)),(3, .p 3 0),(4, .v (.bool false)),(5, .p 5 0),(6, .v (.int .i64 1)),eS3 27 a1 a2 da] [bS3 5 23 ⟨#[]⟩ ⟨#[]⟩ 0,bW 3 38 X11 X12 d13d,bS3 1 23 a1 a2 da] ?_))))
  refine xc 24 [vS3 a1 a2 da] 28 (fun _:Unit=>.tuple #[.string ⟨#[]⟩, .int .i64 1]) _ (fun w hE hΦ=>(SNormT_bad a1 a2 da _ hΦ.1.1.1.1 LA hx).mono (fun _ _ h=>post_val h (by rw [opU_bad hx]))) (fun xx=>?_)
  refine xr 5 [(1, .p 1 0),(2, .v (.bool false)),(3, .p 3 0),(4, .v (.bool false)),(5, .p 5 0),(6, .v (.int .i64 1)),(7, .v (.string ⟨#[]⟩)),(8, .v (.int .i64 1))] [bS3 5 23 ⟨#[]⟩ ⟨#[]⟩ 0,bW 3 38 X11 X12 d13d,bS3 1 23 a1 a2 da] ?_
  refine xe (sx_next (sx_seq (sx_region (xr 1 [(2, .v (.bool false)),(3, .p 3 0),(4, .v (.bool false)),(5, .p 5 0),(6, .v (.int .i64 1)),(7, .v (.string ⟨#[]⟩)),(8, .v (.int .i64 1)),eS3 32 a1 a2 da] [bS3 5 23 ⟨#[]⟩ ⟨#[]⟩ 0,bW 3 38 X11 X12 d13d] ?_))))
  refine xc 25 [vS3 a1 a2 da] 33 (fun _:Unit=>.tuple #[.int .i64 0, .int .i64 1]) _ (fun w hE hΦ=>(SSignT_bad a1 a2 da _ hΦ.1.1.1.1.1 LA hx).mono (fun _ _ h=>post_val h (by rw [opU_bad hx]))) (fun xx=>?_)
  refine xr 5 [(2, .v (.bool false)),(3, .p 3 0),(4, .v (.bool false)),(5, .p 5 0),(6, .v (.int .i64 1)),(7, .v (.string ⟨#[]⟩)),(8, .v (.int .i64 1)),(9, .v (.int .i64 0)),(10, .v (.int .i64 1))] [bS3 5 23 ⟨#[]⟩ ⟨#[]⟩ 0,bW 3 38 X11 X12 d13d] ?_
  refine xe (sx_next (sx_seq (sx_seq (sx_region (xr 2 [(2, .v (.bool false)),(3, .p 3 0),(5, .p 5 0),(6, .v (.int .i64 1)),(7, .v (.string ⟨#[]⟩)),(8, .v (.int .i64 1)),(9, .v (.int .i64 0)),(10, .v (.int .i64 1)),(37, .v (.bool true))] [bS3 5 23 ⟨#[]⟩ ⟨#[]⟩ 0,bW 3 38 X11 X12 d13d] ?_)))))
  refine xe (sx_next (xa (sx_seq (sx_region (xr 15 [(2, .v (.bool false)),(3, .p 3 0),(5, .p 5 0),(6, .v (.int .i64 1)),(7, .v (.string ⟨#[]⟩)),(8, .v (.int .i64 1)),(9, .v (.int .i64 0)),(10, .v (.int .i64 1)),(50, .v (.bool true)),eS3 51 ⟨#[]⟩ ⟨#[]⟩ 0,eS3 52 ⟨#[]⟩ ⟨#[]⟩ 0] [bS3 5 23 ⟨#[]⟩ ⟨#[]⟩ 0,bW 3 38 X11 X12 d13d] ?_)))))
  refine xl 53 (.bool true) (fun w hE hΦ=>run_eq3 ((Operand.tmp 51)) ((Operand.tmp 52)) 23 ⟨#[]⟩ ⟨#[]⟩ 0) ?_
  refine xr 4 [(2, .v (.bool false)),(3, .p 3 0),(5, .p 5 0),(6, .v (.int .i64 1)),(7, .v (.string ⟨#[]⟩)),(8, .v (.int .i64 1)),(9, .v (.int .i64 0)),(10, .v (.int .i64 1)),(55, .v (.bool true)),(57, .v (.bool ((⟨#[]⟩:ByteArray).toList == (⟨#[]⟩:ByteArray).toList)))] [bS3 5 23 ⟨#[]⟩ ⟨#[]⟩ 0,bW 3 38 X11 X12 d13d] ?_
  rw [str_self]
  refine xr 6 [(2, .v (.bool false)),(3, .p 3 0),(5, .p 5 0),(6, .v (.int .i64 1)),(7, .v (.string ⟨#[]⟩)),(8, .v (.int .i64 1)),(9, .v (.int .i64 0)),(10, .v (.int .i64 1)),(63, .v (.bool true))] [bS3 5 23 ⟨#[]⟩ ⟨#[]⟩ 0,bW 3 38 X11 X12 d13d] ?_
  refine xc 17 [] 64 (fun _:Unit=>.bool true) _ (fun w hE hΦ=>(awake11_any _ hΦ.1.1.1.1.1.1).mono (fun _ _ h=>post_val h rfl)) (fun xx=>?_)
  refine xr 2 [(2, .v (.bool true)),(3, .p 3 0),(5, .p 5 0),(6, .v (.int .i64 1)),(7, .v (.string ⟨#[]⟩)),(8, .v (.int .i64 1)),(9, .v (.int .i64 0)),(10, .v (.int .i64 1))] [bS3 5 23 ⟨#[]⟩ ⟨#[]⟩ 0,bW 3 38 X11 X12 d13d] ?_
  refine xe (sx_next (sx_ret (sx_then_ret ?_)))
  refine sx_done (v:=.bool true) (by kernel_rfl) (fun w' hE hΦ=>?_)
  exact ⟨rfl,hE⟩
set_option maxRecDepth 100000 in
theorem surdSign_ok (a1 a2:ByteArray) (da:Int) (w:World) (hg:Glob w) {x:Sd} (hx:rdS (bytes a1) (bytes a2) da=some x) :
 Calls Tryz.prog 4 #[.agg #[.string a1, .string a2, .int .i64 da]] w (RetV w (.bool true)):=by
 obtain ⟨r,hr⟩:∃ r,[(a1,a2,da)].all okP=r:=⟨_,rfl⟩
 refine sx_enter (Φ:=fun w=>Glob w) Tryz.func4 rfl (by kernel_rfl) (fun w' hf=>hg.ext hf) ?_
 refine sx_seq (sx_region (xr 2 [(1, .p 1 0),(2, .v (.bool false))] [bS3 1 23 a1 a2 da] ?_))
 refine xe (sx_next (sx_seq (sx_seq (sx_region (xr 1 [(1, .p 1 0),(2, .v (.bool false)),eS3 11 a1 a2 da] [bS3 1 23 a1 a2 da] ?_)))))
 refine sx_does (d:=12) (fun zb:Nat=>.slice (some ⟨zb,0,none⟩) 1 1) (fun zb zw=>Blk 23 zw zb #[.string a1, .string a2, .int .i64 da]) (by kernel_rfl) (by kernel_rfl) (by kernel_rfl) (by kernel_rfl) (by kernel_rfl) (by kernel_rfl) (fun w hE hΦ=>does_bslice (t:=86) (e:=23) (n:=1) (sz:=3) (z:=.agg #[.string ⟨#[]⟩, .string ⟨#[]⟩, .int .i64 0]) (parts:=#[(0,Operand.tmp 11)]) (by kernel_rfl) (by kernel_rfl) (by kernel_rfl) (by kernel_rfl) (by kernel_rfl) (by kernel_rfl)) (fun b10=>?_)
 refine xr 0 [(1, .p 1 0),(2, .v (.bool false)),eS1 12 (some ⟨b10,0,none⟩) 1 1] [bS3 1 23 a1 a2 da] ?_
 refine xc 15 [.slice (some ⟨b10,0,none⟩) 1 1] 13 (fun _:Unit=>.bool r) _ (fun w hE hΦ=>(small_any _ 1 [(a1,a2,da)] _ hΦ.2 rfl (by decide) r hr).mono (fun _ _ h=>post_val h rfl)) (fun xx=>?_)
 rcases r with _ | _
 ·refine xr 1 [(1, .p 1 0),(2, .v (.bool false)),(14, .v (.bool true))] [bS3 1 23 a1 a2 da] ?_
  refine xe (sx_next (xa (sx_seq (sx_region ?_))))
  refine xc 17 [] 15 (fun _:Unit=>.bool true) _ (fun w hE hΦ=>(awake11_any _ hΦ.1.1).mono (fun _ _ h=>post_val h rfl)) (fun xx=>?_)
  refine xr 1 [(1, .p 1 0),(2, .v (.bool true))] [bS3 1 23 a1 a2 da] ?_
  refine xe (sx_next (sx_ret (sx_then_ret ?_)))
  refine sx_done (v:=.bool true) (by kernel_rfl) (fun w' hE hΦ=>?_)
  exact ⟨rfl,hE⟩
 ·have HL:=small_l1 hr
  have LA:(bytes a1).length≤570∧(bytes a2).length≤570:=by omega
  have zx:Sz x 40:=rdS_sz hx HL.1 HL.2 (by decide)
  have ZA:∀ y,rdS (bytes a1) (bytes a2) da=some y→Sz y 40:=fun y h=>rdS_sz h HL.1 HL.2 (by decide)
  have OF:=one_field (rdS_spec hx).2.2.2
  have TX:TIs a1 a2 da x 40:=TIs.in hx HL.1 HL.2 (by decide) (by decide)
  refine xr 1 [(1, .p 1 0),(2, .v (.bool false)),(14, .v (.bool false))] [bS3 1 23 a1 a2 da] ?_
  refine xe (sx_next (xb (sx_skip (sx_next (sx_seq (sx_region (xr 1 [(1, .p 1 0),(2, .v (.bool false)),eS3 17 a1 a2 da] [bS3 1 23 a1 a2 da] ?_)))))))
  refine xc 22 [vS3 a1 a2 da] 18 (fun u0:ShS=>.tuple #[shSd x.d u0, .bool true]) _ (fun w hE hΦ=>(RRead_any a1 a2 da _ LA).mono (fun _ _ h=>post_RRd_some h hx)) (fun xx=>?_)
  obtain ⟨X11,X12⟩:=xx
  refine xr 6 [(1, .p 1 0),(2, .v (.bool false)),(3, .p 3 0),(4, .v (.bool true))] [bW 3 38 X11 X12 x.d,bS3 1 23 a1 a2 da] ?_
  refine xe (sx_next (sx_seq (sx_region (xr 1 [(1, .p 1 0),(2, .v (.bool false)),(3, .p 3 0),(4, .v (.bool true)),eS3 22 a1 a2 da] [bW 3 38 X11 X12 x.d,bS3 1 23 a1 a2 da] ?_))))
  refine xc 23 [vS3 a1 a2 da] 23 (fun _:Unit=>.tuple #[vS3 ⟨(ratText x.conj.a).toArray⟩ ⟨(ratText x.conj.b).toArray⟩ x.conj.d, .int .i64 0]) _ (fun w hE hΦ=>(lConj hΦ.1.1.1 TX rfl (by decide)).mono (fun _ _ h=>post_val h (rfl))) (fun xx=>?_)
  refine xr 6 [(1, .p 1 0),(2, .v (.bool false)),(3, .p 3 0),(4, .v (.bool true)),(5, .p 5 0),(6, .v (.int .i64 0))] [bS3 5 23 ⟨(ratText x.conj.a).toArray⟩ ⟨(ratText x.conj.b).toArray⟩ x.conj.d,bW 3 38 X11 X12 x.d,bS3 1 23 a1 a2 da] ?_
  refine xe (sx_next (sx_seq (sx_region (xr 1 [(1, .p 1 0),(2, .v (.bool false)),(3, .p 3 0),(4, .v (.bool true)),(5, .p 5 0),(6, .v (.int .i64 0)),eS3 27 a1 a2 da] [bS3 5 23 ⟨(ratText x.conj.a).toArray⟩ ⟨(ratText x.conj.b).toArray⟩ x.conj.d,bW 3 38 X11 X12 x.d,bS3 1 23 a1 a2 da] ?_))))
  refine xc 24 [vS3 a1 a2 da] 28 (fun _:Unit=>.tuple #[.string ⟨(ratText x.norm).toArray⟩, .int .i64 0]) _ (fun w hE hΦ=>(lNorm hΦ.1.1.1.1 TX rfl (by decide)).mono (fun _ _ h=>post_val h (rfl))) (fun xx=>?_)
  refine xr 5 [(1, .p 1 0),(2, .v (.bool false)),(3, .p 3 0),(4, .v (.bool true)),(5, .p 5 0),(6, .v (.int .i64 0)),(7, .v (.string ⟨(ratText x.norm).toArray⟩)),(8, .v (.int .i64 0))] [bS3 5 23 ⟨(ratText x.conj.a).toArray⟩ ⟨(ratText x.conj.b).toArray⟩ x.conj.d,bW 3 38 X11 X12 x.d,bS3 1 23 a1 a2 da] ?_
  refine xe (sx_next (sx_seq (sx_region (xr 1 [(2, .v (.bool false)),(3, .p 3 0),(4, .v (.bool true)),(5, .p 5 0),(6, .v (.int .i64 0)),(7, .v (.string ⟨(ratText x.norm).toArray⟩)),(8, .v (.int .i64 0)),eS3 32 a1 a2 da] [bS3 5 23 ⟨(ratText x.conj.a).toArray⟩ ⟨(ratText x.conj.b).toArray⟩ x.conj.d,bW 3 38 X11 X12 x.d] ?_))))
  refine xc 25 [vS3 a1 a2 da] 33 (fun _:Unit=>.tuple #[.int .i64 x.sgn, .int .i64 0]) _ (fun w hE hΦ=>(lSign hΦ.1.1.1.1.1 TX rfl (by decide)).mono (fun _ _ h=>post_val h (rfl))) (fun xx=>?_)
  refine xr 5 [(2, .v (.bool false)),(3, .p 3 0),(4, .v (.bool true)),(5, .p 5 0),(6, .v (.int .i64 0)),(7, .v (.string ⟨(ratText x.norm).toArray⟩)),(8, .v (.int .i64 0)),(9, .v (.int .i64 x.sgn)),(10, .v (.int .i64 0))] [bS3 5 23 ⟨(ratText x.conj.a).toArray⟩ ⟨(ratText x.conj.b).toArray⟩ x.conj.d,bW 3 38 X11 X12 x.d] ?_
  refine xe (sx_next (sx_seq (sx_seq (sx_region (xr 2 [(2, .v (.bool false)),(3, .p 3 0),(5, .p 5 0),(6, .v (.int .i64 0)),(7, .v (.string ⟨(ratText x.norm).toArray⟩)),(8, .v (.int .i64 0)),(9, .v (.int .i64 x.sgn)),(10, .v (.int .i64 0)),(37, .v (.bool false))] [bS3 5 23 ⟨(ratText x.conj.a).toArray⟩ ⟨(ratText x.conj.b).toArray⟩ x.conj.d,bW 3 38 X11 X12 x.d] ?_)))))
  refine xe (sx_next (xb (sx_skip (sx_next (sx_seq ?_)))))
  refine sx_drawM 36 [0,1,3,7,7,31,63,127,255,255,1023,2047,4095,8191,8191,24575,57343,131071,262143,524287,1048575,1048575,3145727,7340031,16777215,33554431,67108863,134217727,134217727,402653183,1073741823,2147483647,4294967295,8589934591,17179869183,34359738367] (by kernel_rfl) (by kernel_rfl) follows_mixed' ?_
  refine xf 15 [(2, .v (.bool false)),(3, .p 3 0),(7, .v (.string ⟨(ratText x.norm).toArray⟩)),(9, .v (.int .i64 x.sgn)),(78, .v (.bool true)),eS3 79 ⟨(ratText x.conj.a).toArray⟩ ⟨(ratText x.conj.b).toArray⟩ x.conj.d,eW 80 X11 X12 x.d] [bS3 5 23 ⟨(ratText x.conj.a).toArray⟩ ⟨(ratText x.conj.b).toArray⟩ x.conj.d,bW 3 38 X11 X12 x.d] ?_
  refine xd 27 [vW X11 X12 x.d] 81 (shSd x.conj.d) _ (fun w hE hΦ=>(RConj_any _ x _ (RSdIs.of hΦ.1.1.1.2.1 hΦ.1.1.1.2.2)).mono (fun _ _ h=>post_RSd h)) (fun xx=>?_)
  obtain ⟨X13,X14⟩:=xx
  refine xf 0 [(2, .v (.bool false)),(3, .p 3 0),(7, .v (.string ⟨(ratText x.norm).toArray⟩)),(9, .v (.int .i64 x.sgn)),(78, .v (.bool true)),eS3 79 ⟨(ratText x.conj.a).toArray⟩ ⟨(ratText x.conj.b).toArray⟩ x.conj.d,eW 81 X13 X14 x.conj.d] [bS3 5 23 ⟨(ratText x.conj.a).toArray⟩ ⟨(ratText x.conj.b).toArray⟩ x.conj.d,bW 3 38 X11 X12 x.d] ?_
  refine xd 26 [vW X13 X14 x.conj.d] 82 (fun _:Unit=>vS3 ⟨(ratText x.conj.a).toArray⟩ ⟨(ratText x.conj.b).toArray⟩ x.conj.d) _ (fun w hE hΦ=>(RWrite_any _ x.conj _ (RSdIs.of hΦ.2.1 hΦ.2.2) (j:=40) zx.conj.a zx.conj.b (by decide)).mono (fun _ _ h=>post_val h rfl)) (fun xx=>?_)
  refine xf 0 [(2, .v (.bool false)),(3, .p 3 0),(7, .v (.string ⟨(ratText x.norm).toArray⟩)),(9, .v (.int .i64 x.sgn)),(78, .v (.bool true)),eS3 79 ⟨(ratText x.conj.a).toArray⟩ ⟨(ratText x.conj.b).toArray⟩ x.conj.d,eS3 82 ⟨(ratText x.conj.a).toArray⟩ ⟨(ratText x.conj.b).toArray⟩ x.conj.d] [bS3 5 23 ⟨(ratText x.conj.a).toArray⟩ ⟨(ratText x.conj.b).toArray⟩ x.conj.d,bW 3 38 X11 X12 x.d] ?_
  refine xm 83 (.bool true) (fun w hΦ=>run_eq3 ((Operand.tmp 79)) ((Operand.tmp 82)) 23 ⟨(ratText x.conj.a).toArray⟩ ⟨(ratText x.conj.b).toArray⟩ x.conj.d) ?_
  refine xf 4 [(2, .v (.bool false)),(3, .p 3 0),(9, .v (.int .i64 x.sgn)),(85, .v (.bool true)),(86, .v (.string ⟨(ratText x.norm).toArray⟩)),eW 87 X11 X12 x.d] [bS3 5 23 ⟨(ratText x.conj.a).toArray⟩ ⟨(ratText x.conj.b).toArray⟩ x.conj.d,bW 3 38 X11 X12 x.d] ?_
  refine xd 29 [vW X11 X12 x.d] 88 shRat _ (fun w hE hΦ=>(RAbs2_any _ x _ (RSdIs.of hΦ.1.1.1.1.1.2.1 hΦ.1.1.1.1.1.2.2) zx (by decide)).mono (fun _ _ h=>post_NRat (by rw [OF.2.2.1] at h; exact h))) (fun X15=>?_)
  refine xf 0 [(2, .v (.bool false)),(3, .p 3 0),(9, .v (.int .i64 x.sgn)),(85, .v (.bool true)),(86, .v (.string ⟨(ratText x.norm).toArray⟩)),eQ 88 X15] [bS3 5 23 ⟨(ratText x.conj.a).toArray⟩ ⟨(ratText x.conj.b).toArray⟩ x.conj.d,bW 3 38 X11 X12 x.d] ?_
  refine xd 28 [vQ X15] 89 (fun _:Unit=>.string ⟨(ratText x.norm).toArray⟩) _ (fun w hE hΦ=>(sText (k:=168) hΦ.2 zx.norm (by decide)).mono (fun _ _ h=>post_val h rfl)) (fun xx=>?_)
  refine xf 1 [(2, .v (.bool false)),(3, .p 3 0),(9, .v (.int .i64 x.sgn)),(85, .v (.bool true)),(90, .v (.bool ((⟨(ratText x.norm).toArray⟩:ByteArray).toList == (⟨(ratText x.norm).toArray⟩:ByteArray).toList)))] [bS3 5 23 ⟨(ratText x.conj.a).toArray⟩ ⟨(ratText x.conj.b).toArray⟩ x.conj.d,bW 3 38 X11 X12 x.d] ?_
  rw [str_self]
  refine xf 4 [(2, .v (.bool false)),(92, .v (.bool true)),(93, .v (.int .i64 x.sgn)),eW 94 X11 X12 x.d] [bS3 5 23 ⟨(ratText x.conj.a).toArray⟩ ⟨(ratText x.conj.b).toArray⟩ x.conj.d,bW 3 38 X11 X12 x.d] ?_
  refine xd 30 [vW X11 X12 x.d] 95 (fun _:Unit=>.int .i64 x.sgn) _ (fun w hE hΦ=>(RSgn_any _ x _ (RSdIs.of hΦ.1.1.1.1.1.1.1.2.1 hΦ.1.1.1.1.1.1.1.2.2) zx (by decide)).mono (fun _ _ h=>post_val h (by rw [OF.2.2.2]))) (fun xx=>?_)
  refine xf 1 [(2, .v (.bool false)),(92, .v (.bool true)),(96, .v (.bool ((x.sgn:Int) == x.sgn)))] [bS3 5 23 ⟨(ratText x.conj.a).toArray⟩ ⟨(ratText x.conj.b).toArray⟩ x.conj.d,bW 3 38 X11 X12 x.d] ?_
  rw [int_self]
  refine xf 2 [(2, .v (.bool false)),(98, .v (.bool true))] [bS3 5 23 ⟨(ratText x.conj.a).toArray⟩ ⟨(ratText x.conj.b).toArray⟩ x.conj.d,bW 3 38 X11 X12 x.d] ?_
  refine xd 17 [] 99 (fun _:Unit=>.bool true) _ (fun w hE hΦ=>(awake11_any _ hΦ.1.1.1.1.1.1.1.1.1.1.1).mono (fun _ _ h=>post_val h rfl)) (fun xx=>?_)
  refine xf 2 [(2, .v (.bool true))] [bS3 5 23 ⟨(ratText x.conj.a).toArray⟩ ⟨(ratText x.conj.b).toArray⟩ x.conj.d,bW 3 38 X11 X12 x.d] ?_
  refine xz (xe (sx_next (sx_ret ?_)))
  refine sx_done (v:=.bool true) (by kernel_rfl) (fun w' hE hΦ=>?_)
  exact ⟨rfl,hE⟩
theorem surdSign_any (a1 a2:ByteArray) (da:Int) (w:World) (hg:Glob w):Calls Tryz.prog 4 #[.agg #[.string a1, .string a2, .int .i64 da]] w (RetV w (.bool true)):=by
 rcases opt_two (rdS (bytes a1) (bytes a2) da) with hx | ⟨x,hx⟩
 ·exact surdSign_no a1 a2 da w hg hx
 ·exact surdSign_ok a1 a2 da w hg hx
end Go.Proofs.YtbgkofgoeoiciaaGreatDoor
