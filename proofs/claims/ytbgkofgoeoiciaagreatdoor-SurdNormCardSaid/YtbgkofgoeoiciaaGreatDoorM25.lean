/-
 My texts SdLn put together.
-/
import Derived.Test.YtbgkofgoeoiciaaGreatDoorM21
namespace Go.Proofs.YtbgkofgoeoiciaaGreatDoor
open Go.RowKit
set_option maxRecDepth 100000 in
theorem surdNorm_ok (a1 a2 b1 b2:ByteArray) (da db:Int) (w:World) (hg:Glob w) {x y:Sd} (hx:rdS (bytes a1) (bytes a2) da=some x) (hy:rdS (bytes b1) (bytes b2) db=some y) (h1:Blg x.d y.d) :
 Calls Tryz.prog 9 #[.agg #[.string a1, .string a2, .int .i64 da], .agg #[.string b1, .string b2, .int .i64 db]] w (RetV w (.bool true)):=by
 obtain ⟨r,hr⟩:∃ r,[(a1,a2,da),(b1,b2,db)].all okP=r:=⟨_,rfl⟩
 refine sx_enter (Φ:=fun w=>Glob w) Tryz.func9 rfl (by kernel_rfl) (fun w' hf=>hg.ext hf) ?_
 refine sx_seq (sx_region (xr 3 [(2, .p 2 0),(3, .p 3 0),(4, .v (.bool false))] [bS3 3 23 b1 b2 db,bS3 2 23 a1 a2 da] ?_))
 refine xe (sx_next (sx_seq (sx_seq (sx_region (xr 2 [(2, .p 2 0),(3, .p 3 0),(4, .v (.bool false)),eS3 19 a1 a2 da,eS3 20 b1 b2 db] [bS3 3 23 b1 b2 db,bS3 2 23 a1 a2 da] ?_)))))
 refine sx_does (d:=21) (fun zb:Nat=>.slice (some ⟨zb,0,none⟩) 2 2) (fun zb zw=>Blk 23 zw zb #[.string a1, .string a2, .int .i64 da, .string b1, .string b2, .int .i64 db]) (by kernel_rfl) (by kernel_rfl) (by kernel_rfl) (by kernel_rfl) (by kernel_rfl) (by kernel_rfl) (fun w hE hΦ=>does_bslice (t:=86) (e:=23) (n:=2) (sz:=3) (z:=.agg #[.string ⟨#[]⟩, .string ⟨#[]⟩, .int .i64 0]) (parts:=#[(0,Operand.tmp 19),(1,Operand.tmp 20)]) (by kernel_rfl) (by kernel_rfl) (by kernel_rfl) (by kernel_rfl) (by kernel_rfl) (by kernel_rfl)) (fun b10=>?_)
 refine xr 0 [(2, .p 2 0),(3, .p 3 0),(4, .v (.bool false)),eS1 21 (some ⟨b10,0,none⟩) 2 2] [bS3 3 23 b1 b2 db,bS3 2 23 a1 a2 da] ?_
 refine xc 15 [.slice (some ⟨b10,0,none⟩) 2 2] 22 (fun _:Unit=>.bool r) _ (fun w hE hΦ=>(small_any _ 2 [(a1,a2,da),(b1,b2,db)] _ hΦ.2 rfl (by decide) r hr).mono (fun _ _ h=>post_val h rfl)) (fun xx=>?_)
 rcases r with _ | _
 ·refine xr 1 [(2, .p 2 0),(3, .p 3 0),(4, .v (.bool false)),(23, .v (.bool true))] [bS3 3 23 b1 b2 db,bS3 2 23 a1 a2 da] ?_
  refine xe (sx_next (xa (sx_seq (sx_region ?_))))
  refine xc 17 [] 24 (fun _:Unit=>.bool true) _ (fun w hE hΦ=>(awake11_any _ hΦ.1.1).mono (fun _ _ h=>post_val h rfl)) (fun xx=>?_)
  refine xr 1 [(2, .p 2 0),(3, .p 3 0),(4, .v (.bool true))] [bS3 3 23 b1 b2 db,bS3 2 23 a1 a2 da] ?_
  refine xe (sx_next (sx_ret (sx_then_ret ?_)))
  refine sx_done (v:=.bool true) (by kernel_rfl) (fun w' hE hΦ=>?_)
  exact ⟨rfl,hE⟩
 ·have HL:=small_l2 hr
  have TX:TIs a1 a2 da x 40:=TIs.in hx HL.1 HL.2.1 (by decide) (by decide)
  have TY:TIs b1 b2 db y 40:=TIs.in hy HL.2.2.1 HL.2.2.2 (by decide) (by decide)
  have EM:=mul_eq TX.ok TY.ok h1
  have EN:=norm_times TX.ok TY.ok h1
  have O1:=(one_field TX.ok).2.1
  have O2:=(one_field TY.ok).2.1
  have OS:=sgn_norm TX.ok
  have zP:=TX.sz.times TY.sz
  have z1:=TX.sz.conj
  have z2:=TY.sz.conj
  have n1:=TX.sz.norm
  have n2:=TY.sz.norm
  obtain ⟨P,hP⟩:∃ r,x.times y=r:=⟨_,rfl⟩
  obtain ⟨NX,hNX⟩:∃ r,x.norm=r:=⟨_,rfl⟩
  obtain ⟨NY,hNY⟩:∃ r,y.norm=r:=⟨_,rfl⟩
  obtain ⟨CX,hCX⟩:∃ r,x.conj=r:=⟨_,rfl⟩
  obtain ⟨CY,hCY⟩:∃ r,y.conj=r:=⟨_,rfl⟩
  obtain ⟨CP,hCP⟩:∃ r,P.conj=r:=⟨_,rfl⟩
  obtain ⟨NZ,hNZ⟩:∃ r,NX * NY=r:=⟨_,rfl⟩
  rw [hP] at EM EN zP
  rw [hNX] at EN OS n1
  rw [hNY] at EN n2
  rw [hCX] at EN O1 z1
  rw [hCY] at EN O2 z2
  rw [hCP,hNZ] at EN
  have TP:=TIs.of EM.1 zP (by decide) (by decide)
  have TCX:=TIs.of O1 z1 (by decide) (by decide)
  have TCY:=TIs.of O2 z2 (by decide) (by decide)
  have SX:=StrIs.of (small_len (n:=570) (by decide) n1 (by decide))
  have SY:=StrIs.of (small_len (n:=570) (by decide) n2 (by decide))
  have SA:StrIs a1 x.a:=⟨valF_some (rdS_spec hx).1,by omega⟩
  refine xr 1 [(2, .p 2 0),(3, .p 3 0),(4, .v (.bool false)),(23, .v (.bool false))] [bS3 3 23 b1 b2 db,bS3 2 23 a1 a2 da] ?_
  refine xe (sx_next (xb (sx_skip (sx_next (sx_seq (sx_region (xr 2 [(2, .p 2 0),(3, .p 3 0),(4, .v (.bool false)),eS3 26 a1 a2 da,eS3 27 b1 b2 db] [bS3 3 23 b1 b2 db,bS3 2 23 a1 a2 da] ?_)))))))
  refine xc 31 [vS3 a1 a2 da,vS3 b1 b2 db] 28 (fun _:Unit=>.tuple #[vS3 (tB P.a) (tB P.b) P.d, .int .i64 0]) _ (fun w hE hΦ=>(lMul hΦ.1.1 TX TY h1 hP (by decide)).mono (fun _ _ h=>post_val h rfl)) (fun xx=>?_)
  refine xr 6 [(2, .p 2 0),(3, .p 3 0),(4, .v (.bool false)),(5, .p 5 0),(6, .v (.int .i64 0))] [bS3 5 23 (tB P.a) (tB P.b) P.d,bS3 3 23 b1 b2 db,bS3 2 23 a1 a2 da] ?_
  refine xe (sx_next (sx_seq (sx_region (xr 1 [(2, .p 2 0),(3, .p 3 0),(4, .v (.bool false)),(5, .p 5 0),(6, .v (.int .i64 0)),eS3 32 a1 a2 da] [bS3 5 23 (tB P.a) (tB P.b) P.d,bS3 3 23 b1 b2 db,bS3 2 23 a1 a2 da] ?_))))
  refine xc 24 [vS3 a1 a2 da] 33 (fun _:Unit=>.tuple #[.string (tB NX), .int .i64 0]) _ (fun w hE hΦ=>(lNorm hΦ.1.1.1 TX hNX (by decide)).mono (fun _ _ h=>post_val h rfl)) (fun xx=>?_)
  refine xr 5 [(2, .p 2 0),(3, .p 3 0),(4, .v (.bool false)),(5, .p 5 0),(6, .v (.int .i64 0)),(7, .v (.string (tB NX))),(8, .v (.int .i64 0))] [bS3 5 23 (tB P.a) (tB P.b) P.d,bS3 3 23 b1 b2 db,bS3 2 23 a1 a2 da] ?_
  refine xe (sx_next (sx_seq (sx_region (xr 1 [(2, .p 2 0),(3, .p 3 0),(4, .v (.bool false)),(5, .p 5 0),(6, .v (.int .i64 0)),(7, .v (.string (tB NX))),(8, .v (.int .i64 0)),eS3 37 b1 b2 db] [bS3 5 23 (tB P.a) (tB P.b) P.d,bS3 3 23 b1 b2 db,bS3 2 23 a1 a2 da] ?_))))
  refine xc 24 [vS3 b1 b2 db] 38 (fun _:Unit=>.tuple #[.string (tB NY), .int .i64 0]) _ (fun w hE hΦ=>(lNorm hΦ.1.1.1.1 TY hNY (by decide)).mono (fun _ _ h=>post_val h rfl)) (fun xx=>?_)
  refine xr 5 [(2, .p 2 0),(3, .p 3 0),(4, .v (.bool false)),(5, .p 5 0),(6, .v (.int .i64 0)),(7, .v (.string (tB NX))),(8, .v (.int .i64 0)),(9, .v (.string (tB NY))),(10, .v (.int .i64 0))] [bS3 5 23 (tB P.a) (tB P.b) P.d,bS3 3 23 b1 b2 db,bS3 2 23 a1 a2 da] ?_
  refine xe (sx_next (sx_seq (sx_seq (sx_region (xr 10 [(2, .p 2 0),(3, .p 3 0),(4, .v (.bool false)),(5, .p 5 0),(6, .v (.int .i64 0)),(7, .v (.string (tB NX))),(8, .v (.int .i64 0)),(9, .v (.string (tB NY))),(10, .v (.int .i64 0)),(50, .v (.bool false))] [bS3 5 23 (tB P.a) (tB P.b) P.d,bS3 3 23 b1 b2 db,bS3 2 23 a1 a2 da] ?_)))))
  refine xe (sx_next (xb (sx_skip (sx_next (sx_seq (sx_region (xr 1 [(2, .p 2 0),(3, .p 3 0),(4, .v (.bool false)),(5, .p 5 0),(6, .v (.int .i64 0)),(7, .v (.string (tB NX))),(8, .v (.int .i64 0)),(9, .v (.string (tB NY))),(10, .v (.int .i64 0)),eS3 53 (tB P.a) (tB P.b) P.d] [bS3 5 23 (tB P.a) (tB P.b) P.d,bS3 3 23 b1 b2 db,bS3 2 23 a1 a2 da] ?_)))))))
  refine xc 24 [vS3 (tB P.a) (tB P.b) P.d] 54 (fun _:Unit=>.tuple #[.string (tB NZ), .int .i64 0]) _ (fun w hE hΦ=>(lNorm hΦ.1.1.1.1.1 TP EN.1 (by decide)).mono (fun _ _ h=>post_val h rfl)) (fun xx=>?_)
  refine xr 5 [(2, .p 2 0),(3, .p 3 0),(4, .v (.bool false)),(5, .p 5 0),(6, .v (.int .i64 0)),(7, .v (.string (tB NX))),(8, .v (.int .i64 0)),(9, .v (.string (tB NY))),(10, .v (.int .i64 0)),(11, .v (.string (tB NZ)))] [bS3 5 23 (tB P.a) (tB P.b) P.d,bS3 3 23 b1 b2 db,bS3 2 23 a1 a2 da] ?_
  refine xe (sx_next (sx_seq (sx_region (xr 1 [(2, .p 2 0),(3, .p 3 0),(4, .v (.bool false)),(5, .p 5 0),(6, .v (.int .i64 0)),(7, .v (.string (tB NX))),(8, .v (.int .i64 0)),(9, .v (.string (tB NY))),(10, .v (.int .i64 0)),(11, .v (.string (tB NZ))),eS3 58 a1 a2 da] [bS3 5 23 (tB P.a) (tB P.b) P.d,bS3 3 23 b1 b2 db,bS3 2 23 a1 a2 da] ?_))))
  refine xc 23 [vS3 a1 a2 da] 59 (fun _:Unit=>.tuple #[vS3 (tB CX.a) (tB CX.b) CX.d, .int .i64 0]) _ (fun w hE hΦ=>(lConj hΦ.1.1.1.1.1.1 TX hCX (by decide)).mono (fun _ _ h=>post_val h rfl)) (fun xx=>?_)
  refine xr 6 [(2, .p 2 0),(3, .p 3 0),(4, .v (.bool false)),(5, .p 5 0),(6, .v (.int .i64 0)),(7, .v (.string (tB NX))),(8, .v (.int .i64 0)),(9, .v (.string (tB NY))),(10, .v (.int .i64 0)),(11, .v (.string (tB NZ))),(12, .p 12 0)] [bS3 12 23 (tB CX.a) (tB CX.b) CX.d,bS3 5 23 (tB P.a) (tB P.b) P.d,bS3 3 23 b1 b2 db,bS3 2 23 a1 a2 da] ?_
  refine xe (sx_next (sx_seq (sx_region (xr 1 [(2, .p 2 0),(4, .v (.bool false)),(5, .p 5 0),(6, .v (.int .i64 0)),(7, .v (.string (tB NX))),(8, .v (.int .i64 0)),(9, .v (.string (tB NY))),(10, .v (.int .i64 0)),(11, .v (.string (tB NZ))),(12, .p 12 0),eS3 63 b1 b2 db] [bS3 12 23 (tB CX.a) (tB CX.b) CX.d,bS3 5 23 (tB P.a) (tB P.b) P.d,bS3 2 23 a1 a2 da] ?_))))
  refine xc 23 [vS3 b1 b2 db] 64 (fun _:Unit=>.tuple #[vS3 (tB CY.a) (tB CY.b) CY.d, .int .i64 0]) _ (fun w hE hΦ=>(lConj hΦ.1.1.1.1.1.1.1 TY hCY (by decide)).mono (fun _ _ h=>post_val h rfl)) (fun xx=>?_)
  refine xr 6 [(2, .p 2 0),(4, .v (.bool false)),(5, .p 5 0),(6, .v (.int .i64 0)),(7, .v (.string (tB NX))),(8, .v (.int .i64 0)),(9, .v (.string (tB NY))),(10, .v (.int .i64 0)),(11, .v (.string (tB NZ))),(12, .p 12 0),(13, .p 13 0)] [bS3 13 23 (tB CY.a) (tB CY.b) CY.d,bS3 12 23 (tB CX.a) (tB CX.b) CX.d,bS3 5 23 (tB P.a) (tB P.b) P.d,bS3 2 23 a1 a2 da] ?_
  refine xe (sx_next (sx_seq (sx_region (xr 2 [(2, .p 2 0),(4, .v (.bool false)),(5, .p 5 0),(6, .v (.int .i64 0)),(7, .v (.string (tB NX))),(8, .v (.int .i64 0)),(9, .v (.string (tB NY))),(10, .v (.int .i64 0)),(11, .v (.string (tB NZ))),eS3 68 (tB CX.a) (tB CX.b) CX.d,eS3 69 (tB CY.a) (tB CY.b) CY.d] [bS3 5 23 (tB P.a) (tB P.b) P.d,bS3 2 23 a1 a2 da] ?_))))
  refine xc 31 [vS3 (tB CX.a) (tB CX.b) CX.d,vS3 (tB CY.a) (tB CY.b) CY.d] 70 (fun _:Unit=>.tuple #[vS3 (tB CP.a) (tB CP.b) CP.d, .int .i64 0]) _ (fun w hE hΦ=>(lMul hΦ.1.1.1.1.1.1.1.1 TCX TCY EN.2.1 EN.2.2 (by decide)).mono (fun _ _ h=>post_val h rfl)) (fun xx=>?_)
  refine xr 6 [(2, .p 2 0),(4, .v (.bool false)),(5, .p 5 0),(6, .v (.int .i64 0)),(7, .v (.string (tB NX))),(8, .v (.int .i64 0)),(9, .v (.string (tB NY))),(10, .v (.int .i64 0)),(11, .v (.string (tB NZ))),(14, .p 14 0),(15, .v (.int .i64 0))] [bS3 14 23 (tB CP.a) (tB CP.b) CP.d,bS3 5 23 (tB P.a) (tB P.b) P.d,bS3 2 23 a1 a2 da] ?_
  refine xe (sx_next (sx_seq (sx_region (xr 1 [(2, .p 2 0),(4, .v (.bool false)),(6, .v (.int .i64 0)),(7, .v (.string (tB NX))),(8, .v (.int .i64 0)),(9, .v (.string (tB NY))),(10, .v (.int .i64 0)),(11, .v (.string (tB NZ))),(14, .p 14 0),(15, .v (.int .i64 0)),eS3 74 (tB P.a) (tB P.b) P.d] [bS3 14 23 (tB CP.a) (tB CP.b) CP.d,bS3 2 23 a1 a2 da] ?_))))
  refine xc 23 [vS3 (tB P.a) (tB P.b) P.d] 75 (fun _:Unit=>.tuple #[vS3 (tB CP.a) (tB CP.b) CP.d, .int .i64 0]) _ (fun w hE hΦ=>(lConj hΦ.1.1.1.1.1.1.1.1.1 TP hCP (by decide)).mono (fun _ _ h=>post_val h rfl)) (fun xx=>?_)
  refine xr 6 [(2, .p 2 0),(4, .v (.bool false)),(6, .v (.int .i64 0)),(7, .v (.string (tB NX))),(8, .v (.int .i64 0)),(9, .v (.string (tB NY))),(10, .v (.int .i64 0)),(11, .v (.string (tB NZ))),(14, .p 14 0),(15, .v (.int .i64 0)),(16, .p 16 0),(17, .v (.int .i64 0))] [bS3 16 23 (tB CP.a) (tB CP.b) CP.d,bS3 14 23 (tB CP.a) (tB CP.b) CP.d,bS3 2 23 a1 a2 da] ?_
  refine xe (sx_next (sx_seq (sx_seq (sx_region (xr 22 [(2, .p 2 0),(4, .v (.bool false)),(6, .v (.int .i64 0)),(7, .v (.string (tB NX))),(14, .p 14 0),(16, .p 16 0),(96, .v (.bool false)),(97, .v (.string (tB NZ))),(98, .v (.string (tB NX))),(99, .v (.string (tB NY)))] [bS3 16 23 (tB CP.a) (tB CP.b) CP.d,bS3 14 23 (tB CP.a) (tB CP.b) CP.d,bS3 2 23 a1 a2 da] ?_)))))
  refine xc 52 [.string (tB NX), .string (tB NY)] 100 (fun _:Unit=>.string (tB NZ)) _ (fun w hE hΦ=>(sMul hΦ.1.1.1.1.1.1.1.1.1.1 SX SY hNZ).mono (fun _ _ h=>post_val h (rfl))) (fun xx=>?_)
  refine xr 1 [(2, .p 2 0),(4, .v (.bool false)),(6, .v (.int .i64 0)),(7, .v (.string (tB NX))),(14, .p 14 0),(16, .p 16 0),(96, .v (.bool false)),(101, .v (.bool (!(((tB NZ):ByteArray).toList == ((tB NZ):ByteArray).toList))))] [bS3 16 23 (tB CP.a) (tB CP.b) CP.d,bS3 14 23 (tB CP.a) (tB CP.b) CP.d,bS3 2 23 a1 a2 da] ?_
  rw [str_self,Bool.not_true]
  refine xr 4 [(2, .p 2 0),(4, .v (.bool false)),(6, .v (.int .i64 0)),(7, .v (.string (tB NX))),(103, .v (.bool false)),eS3 104 (tB CP.a) (tB CP.b) CP.d,eS3 105 (tB CP.a) (tB CP.b) CP.d] [bS3 2 23 a1 a2 da] ?_
  refine xl 106 (.bool false) (fun w hE hΦ=>run_ne3 ((Operand.tmp 104)) ((Operand.tmp 105)) 23 (tB CP.a) (tB CP.b) CP.d) ?_
  refine xr 1 [(2, .p 2 0),(4, .v (.bool false)),(6, .v (.int .i64 0)),(7, .v (.string (tB NX))),(107, .v (.bool false))] [bS3 2 23 a1 a2 da] ?_
  refine xe (sx_next (xb (sx_skip (sx_next (sx_seq (sx_region (xr 1 [(2, .p 2 0),(4, .v (.bool false)),(6, .v (.int .i64 0)),(7, .v (.string (tB NX))),eS3 109 a1 a2 da] [bS3 2 23 a1 a2 da] ?_)))))))
  refine xc 25 [vS3 a1 a2 da] 110 (fun _:Unit=>.tuple #[.int .i64 x.sgn, .int .i64 0]) _ (fun w hE hΦ=>(lSign hΦ.1.1.1.1.1.1.1.1.1.1.1 TX rfl (by decide)).mono (fun _ _ h=>post_val h rfl)) (fun xx=>?_)
  refine xr 5 [(2, .p 2 0),(4, .v (.bool false)),(6, .v (.int .i64 0)),(7, .v (.string (tB NX))),(18, .v (.int .i64 x.sgn))] [bS3 2 23 a1 a2 da] ?_
  refine xe (sx_next (sx_seq (sx_region (xr 4 [(2, .p 2 0),(4, .v (.bool false)),(18, .v (.int .i64 x.sgn)),(115, .v (.bool true)),(116, .v (.string (tB NX)))] [bS3 2 23 a1 a2 da] ?_))))
  refine xc 53 [.string (tB NX)] 117 (fun _:Unit=>.int .i64 NX.num.sign) _ (fun w hE hΦ=>(sSign hΦ.1.1.1.1.1.1.1.1.1.1.1.1 SX).mono (fun _ _ h=>post_val h rfl)) (fun xx=>?_)
  refine xr 2 [(2, .p 2 0),(4, .v (.bool false)),(18, .v (.int .i64 x.sgn)),(115, .v (.bool true)),(119, .v (.bool (decide (NX.num.sign≤0))))] [bS3 2 23 a1 a2 da] ?_
  rcases bool2 ((decide (NX.num.sign≤0))) with hb11 | hb11
  ·rw [hb11]
   refine xr 8 [(4, .v (.bool false)),(127, .v (.bool true))] [] ?_
   refine xc 17 [] 128 (fun _:Unit=>.bool true) _ (fun w hE hΦ=>(awake11_any _ hΦ.1.1.1.1.1.1.1.1.1.1.1.1.1).mono (fun _ _ h=>post_val h rfl)) (fun xx=>?_)
   refine xr 2 [(4, .v (.bool true))] [] ?_
   refine xe (sx_next (sx_ret ?_))
   refine sx_done (v:=.bool true) (by kernel_rfl) (fun w' hE hΦ=>?_)
   exact ⟨rfl,hE⟩
  ·rw [hb11]
   refine xr 3 [(4, .v (.bool false)),(115, .v (.bool true)),(119, .v (.bool false)),(120, .v (.int .i64 x.sgn)),(122, .v (.string a1))] [] ?_
   refine xc 53 [.string a1] 123 (fun _:Unit=>.int .i64 x.a.num.sign) _ (fun w hE hΦ=>(sSign hΦ.1.1.1.1.1.1.1.1.1.1.1.1.1 SA).mono (fun _ _ h=>post_val h rfl)) (fun xx=>?_)
   refine xr 1 [(4, .v (.bool false)),(115, .v (.bool true)),(119, .v (.bool false)),(124, .v (.bool ((x.sgn:Int) == x.a.num.sign)))] [] ?_
   rw [beq_iff_eq.2 (OS (of_decide_eq_false hb11))]
   refine xr 3 [(4, .v (.bool false)),(127, .v (.bool true))] [] ?_
   refine xc 17 [] 128 (fun _:Unit=>.bool true) _ (fun w hE hΦ=>(awake11_any _ hΦ.1.1.1.1.1.1.1.1.1.1.1.1.1.1).mono (fun _ _ h=>post_val h rfl)) (fun xx=>?_)
   refine xr 2 [(4, .v (.bool true))] [] ?_
   refine xe (sx_next (sx_ret ?_))
   refine sx_done (v:=.bool true) (by kernel_rfl) (fun w' hE hΦ=>?_)
   exact ⟨rfl,hE⟩
set_option maxRecDepth 100000 in
theorem surdNorm_no (a1 a2 b1 b2:ByteArray) (da db:Int) (w:World) (hg:Glob w) {p1 q1 p2 p3:ByteArray} {k1 n1 n2 n3:Int} (e1:opV (rdS (bytes a1) (bytes a2) da) (rdS (bytes b1) (bytes b2) db) (fun x y=>okS (x.times y)) zS=.tuple #[.agg #[.string p1, .string q1, .int .i64 k1], .int .i64 n1]) (e2:opU (rdS (bytes a1) (bytes a2) da) (fun x=>.tuple #[.string ⟨(ratText x.norm).toArray⟩, .int .i64 0]) (.string ⟨#[]⟩)=.tuple #[.string p2, .int .i64 n2]) (e3:opU (rdS (bytes b1) (bytes b2) db) (fun x=>.tuple #[.string ⟨(ratText x.norm).toArray⟩, .int .i64 0]) (.string ⟨#[]⟩)=.tuple #[.string p3, .int .i64 n3]) (hn:¬ (n1=0∧n2=0∧n3=0)) :
 Calls Tryz.prog 9 #[.agg #[.string a1, .string a2, .int .i64 da], .agg #[.string b1, .string b2, .int .i64 db]] w (RetV w (.bool true)):=by
 obtain ⟨r,hr⟩:∃ r,[(a1,a2,da),(b1,b2,db)].all okP=r:=⟨_,rfl⟩
 refine sx_enter (Φ:=fun w=>Glob w) Tryz.func9 rfl (by kernel_rfl) (fun w' hf=>hg.ext hf) ?_
 refine sx_seq (sx_region (xr 3 [(2, .p 2 0),(3, .p 3 0),(4, .v (.bool false))] [bS3 3 23 b1 b2 db,bS3 2 23 a1 a2 da] ?_))
 refine xe (sx_next (sx_seq (sx_seq (sx_region (xr 2 [(2, .p 2 0),(3, .p 3 0),(4, .v (.bool false)),eS3 19 a1 a2 da,eS3 20 b1 b2 db] [bS3 3 23 b1 b2 db,bS3 2 23 a1 a2 da] ?_)))))
 refine sx_does (d:=21) (fun zb:Nat=>.slice (some ⟨zb,0,none⟩) 2 2) (fun zb zw=>Blk 23 zw zb #[.string a1, .string a2, .int .i64 da, .string b1, .string b2, .int .i64 db]) (by kernel_rfl) (by kernel_rfl) (by kernel_rfl) (by kernel_rfl) (by kernel_rfl) (by kernel_rfl) (fun w hE hΦ=>does_bslice (t:=86) (e:=23) (n:=2) (sz:=3) (z:=.agg #[.string ⟨#[]⟩, .string ⟨#[]⟩, .int .i64 0]) (parts:=#[(0,Operand.tmp 19),(1,Operand.tmp 20)]) (by kernel_rfl) (by kernel_rfl) (by kernel_rfl) (by kernel_rfl) (by kernel_rfl) (by kernel_rfl)) (fun b10=>?_)
 refine xr 0 [(2, .p 2 0),(3, .p 3 0),(4, .v (.bool false)),eS1 21 (some ⟨b10,0,none⟩) 2 2] [bS3 3 23 b1 b2 db,bS3 2 23 a1 a2 da] ?_
 refine xc 15 [.slice (some ⟨b10,0,none⟩) 2 2] 22 (fun _:Unit=>.bool r) _ (fun w hE hΦ=>(small_any _ 2 [(a1,a2,da),(b1,b2,db)] _ hΦ.2 rfl (by decide) r hr).mono (fun _ _ h=>post_val h rfl)) (fun xx=>?_)
 rcases r with _ | _
 ·refine xr 1 [(2, .p 2 0),(3, .p 3 0),(4, .v (.bool false)),(23, .v (.bool true))] [bS3 3 23 b1 b2 db,bS3 2 23 a1 a2 da] ?_
  refine xe (sx_next (xa (sx_seq (sx_region ?_))))
  refine xc 17 [] 24 (fun _:Unit=>.bool true) _ (fun w hE hΦ=>(awake11_any _ hΦ.1.1).mono (fun _ _ h=>post_val h rfl)) (fun xx=>?_)
  refine xr 1 [(2, .p 2 0),(3, .p 3 0),(4, .v (.bool true))] [bS3 3 23 b1 b2 db,bS3 2 23 a1 a2 da] ?_
  refine xe (sx_next (sx_ret (sx_then_ret ?_)))
  refine sx_done (v:=.bool true) (by kernel_rfl) (fun w' hE hΦ=>?_)
  exact ⟨rfl,hE⟩
 ·have HL:=small_l2 hr
  have La:(bytes a1).length≤570∧(bytes a2).length≤570:=by omega
  have Za:∀ x,rdS (bytes a1) (bytes a2) da=some x→Sz x 40:=fun x h=>rdS_sz h HL.1 HL.2.1 (by decide)
  have Lb:(bytes b1).length≤570∧(bytes b2).length≤570:=by omega
  have Zb:∀ x,rdS (bytes b1) (bytes b2) db=some x→Sz x 40:=fun x h=>rdS_sz h HL.2.2.1 HL.2.2.2 (by decide)
  refine xr 1 [(2, .p 2 0),(3, .p 3 0),(4, .v (.bool false)),(23, .v (.bool false))] [bS3 3 23 b1 b2 db,bS3 2 23 a1 a2 da] ?_
  refine xe (sx_next (xb (sx_skip (sx_next (sx_seq (sx_region (xr 2 [(2, .p 2 0),(3, .p 3 0),(4, .v (.bool false)),eS3 26 a1 a2 da,eS3 27 b1 b2 db] [bS3 3 23 b1 b2 db,bS3 2 23 a1 a2 da] ?_)))))))
  refine xc 31 [vS3 a1 a2 da,vS3 b1 b2 db] 28 (fun _:Unit=>.tuple #[vS3 p1 q1 k1, .int .i64 n1]) _ (fun w hE hΦ=>(SMulT_any a1 a2 b1 b2 da db _ hΦ.1.1 La Lb Za Zb (by decide)).mono (fun _ _ h=>post_val h (by rw [e1]))) (fun xx=>?_)
  refine xr 6 [(2, .p 2 0),(3, .p 3 0),(4, .v (.bool false)),(5, .p 5 0),(6, .v (.int .i64 n1))] [bS3 5 23 p1 q1 k1,bS3 3 23 b1 b2 db,bS3 2 23 a1 a2 da] ?_
  refine xe (sx_next (sx_seq (sx_region (xr 1 [(2, .p 2 0),(3, .p 3 0),(4, .v (.bool false)),(5, .p 5 0),(6, .v (.int .i64 n1)),eS3 32 a1 a2 da] [bS3 5 23 p1 q1 k1,bS3 3 23 b1 b2 db,bS3 2 23 a1 a2 da] ?_))))
  refine xc 24 [vS3 a1 a2 da] 33 (fun _:Unit=>.tuple #[.string p2, .int .i64 n2]) _ (fun w hE hΦ=>(SNormT_any a1 a2 da _ hΦ.1.1.1 La Za (by decide)).mono (fun _ _ h=>post_val h (by rw [e2]))) (fun xx=>?_)
  refine xr 5 [(2, .p 2 0),(3, .p 3 0),(4, .v (.bool false)),(5, .p 5 0),(6, .v (.int .i64 n1)),(7, .v (.string p2)),(8, .v (.int .i64 n2))] [bS3 5 23 p1 q1 k1,bS3 3 23 b1 b2 db,bS3 2 23 a1 a2 da] ?_
  refine xe (sx_next (sx_seq (sx_region (xr 1 [(2, .p 2 0),(3, .p 3 0),(4, .v (.bool false)),(5, .p 5 0),(6, .v (.int .i64 n1)),(7, .v (.string p2)),(8, .v (.int .i64 n2)),eS3 37 b1 b2 db] [bS3 5 23 p1 q1 k1,bS3 3 23 b1 b2 db,bS3 2 23 a1 a2 da] ?_))))
  refine xc 24 [vS3 b1 b2 db] 38 (fun _:Unit=>.tuple #[.string p3, .int .i64 n3]) _ (fun w hE hΦ=>(SNormT_any b1 b2 db _ hΦ.1.1.1.1 Lb Zb (by decide)).mono (fun _ _ h=>post_val h (by rw [e3]))) (fun xx=>?_)
  refine xr 5 [(2, .p 2 0),(3, .p 3 0),(4, .v (.bool false)),(5, .p 5 0),(6, .v (.int .i64 n1)),(7, .v (.string p2)),(8, .v (.int .i64 n2)),(9, .v (.string p3)),(10, .v (.int .i64 n3))] [bS3 5 23 p1 q1 k1,bS3 3 23 b1 b2 db,bS3 2 23 a1 a2 da] ?_
  refine xe (sx_next (sx_seq (sx_seq (sx_region (xr 3 [(2, .p 2 0),(3, .p 3 0),(4, .v (.bool false)),(5, .p 5 0),(6, .v (.int .i64 n1)),(7, .v (.string p2)),(8, .v (.int .i64 n2)),(9, .v (.string p3)),(10, .v (.int .i64 n3)),(43, .v (.bool ((n1:Int) != 0)))] [bS3 5 23 p1 q1 k1,bS3 3 23 b1 b2 db,bS3 2 23 a1 a2 da] ?_)))))
  rcases bool2 (((n1:Int) != 0)) with hb11 | hb11
  ·rw [hb11]
   refine xr 7 [(2, .p 2 0),(3, .p 3 0),(4, .v (.bool false)),(5, .p 5 0),(6, .v (.int .i64 n1)),(7, .v (.string p2)),(8, .v (.int .i64 n2)),(9, .v (.string p3)),(10, .v (.int .i64 n3)),(50, .v (.bool true))] [bS3 5 23 p1 q1 k1,bS3 3 23 b1 b2 db,bS3 2 23 a1 a2 da] ?_
   refine xe (sx_next (xa (sx_seq (sx_region ?_))))
   refine xc 17 [] 51 (fun _:Unit=>.bool true) _ (fun w hE hΦ=>(awake11_any _ hΦ.1.1.1.1.1).mono (fun _ _ h=>post_val h rfl)) (fun xx=>?_)
   refine xr 1 [(2, .p 2 0),(3, .p 3 0),(4, .v (.bool true)),(5, .p 5 0),(6, .v (.int .i64 n1)),(7, .v (.string p2)),(8, .v (.int .i64 n2)),(9, .v (.string p3)),(10, .v (.int .i64 n3))] [bS3 5 23 p1 q1 k1,bS3 3 23 b1 b2 db,bS3 2 23 a1 a2 da] ?_
   refine xe (sx_next (sx_ret (sx_then_ret ?_)))
   refine sx_done (v:=.bool true) (by kernel_rfl) (fun w' hE hΦ=>?_)
   exact ⟨rfl,hE⟩
  ·rw [hb11]
   have thb11:=bne_f hb11
   refine xr 4 [(2, .p 2 0),(3, .p 3 0),(4, .v (.bool false)),(5, .p 5 0),(6, .v (.int .i64 n1)),(7, .v (.string p2)),(8, .v (.int .i64 n2)),(9, .v (.string p3)),(10, .v (.int .i64 n3)),(47, .v (.bool ((n2:Int) != 0)))] [bS3 5 23 p1 q1 k1,bS3 3 23 b1 b2 db,bS3 2 23 a1 a2 da] ?_
   rcases bool2 (((n2:Int) != 0)) with hb12 | hb12
   ·rw [hb12]
    refine xr 3 [(2, .p 2 0),(3, .p 3 0),(4, .v (.bool false)),(5, .p 5 0),(6, .v (.int .i64 n1)),(7, .v (.string p2)),(8, .v (.int .i64 n2)),(9, .v (.string p3)),(10, .v (.int .i64 n3)),(50, .v (.bool true))] [bS3 5 23 p1 q1 k1,bS3 3 23 b1 b2 db,bS3 2 23 a1 a2 da] ?_
    refine xe (sx_next (xa (sx_seq (sx_region ?_))))
    refine xc 17 [] 51 (fun _:Unit=>.bool true) _ (fun w hE hΦ=>(awake11_any _ hΦ.1.1.1.1.1).mono (fun _ _ h=>post_val h rfl)) (fun xx=>?_)
    refine xr 1 [(2, .p 2 0),(3, .p 3 0),(4, .v (.bool true)),(5, .p 5 0),(6, .v (.int .i64 n1)),(7, .v (.string p2)),(8, .v (.int .i64 n2)),(9, .v (.string p3)),(10, .v (.int .i64 n3))] [bS3 5 23 p1 q1 k1,bS3 3 23 b1 b2 db,bS3 2 23 a1 a2 da] ?_
    refine xe (sx_next (sx_ret (sx_then_ret ?_)))
    refine sx_done (v:=.bool true) (by kernel_rfl) (fun w' hE hΦ=>?_)
    exact ⟨rfl,hE⟩
   ·rw [hb12]
    have thb12:=bne_f hb12
    refine xr 3 [(2, .p 2 0),(3, .p 3 0),(4, .v (.bool false)),(5, .p 5 0),(6, .v (.int .i64 n1)),(7, .v (.string p2)),(8, .v (.int .i64 n2)),(9, .v (.string p3)),(10, .v (.int .i64 n3)),(50, .v (.bool ((n3:Int) != 0)))] [bS3 5 23 p1 q1 k1,bS3 3 23 b1 b2 db,bS3 2 23 a1 a2 da] ?_
    refine xe (sx_next ?_)
    refine sx_cond (((n3:Int) != 0)) (by kernel_rfl) (fun hb13=>?_) (fun hb13=>?_)
    ·refine sx_seq (sx_region ?_)
     refine xc 17 [] 51 (fun _:Unit=>.bool true) _ (fun w hE hΦ=>(awake11_any _ hΦ.1.1.1.1.1).mono (fun _ _ h=>post_val h rfl)) (fun xx=>?_)
     refine xr 1 [(2, .p 2 0),(3, .p 3 0),(4, .v (.bool true)),(5, .p 5 0),(6, .v (.int .i64 n1)),(7, .v (.string p2)),(8, .v (.int .i64 n2)),(9, .v (.string p3)),(10, .v (.int .i64 n3))] [bS3 5 23 p1 q1 k1,bS3 3 23 b1 b2 db,bS3 2 23 a1 a2 da] ?_
     refine xe (sx_next (sx_ret (sx_then_ret ?_)))
     refine sx_done (v:=.bool true) (by kernel_rfl) (fun w' hE hΦ=>?_)
     exact ⟨rfl,hE⟩
    ·have thb13:=bne_f hb13
     exfalso; omega
theorem opU_sh (o:Option Sd):∃ p n,opU o (fun x=>.tuple #[.string ⟨(ratText x.norm).toArray⟩, .int .i64 0]) (.string ⟨#[]⟩)=.tuple #[.string p, .int .i64 n]:=by
 cases o with
 | none=>exact ⟨_,_,rfl⟩
 | some x=>exact ⟨_,_,rfl⟩
theorem surdNorm_any (a1 a2 b1 b2:ByteArray) (da db:Int) (w:World) (hg:Glob w):Calls Tryz.prog 9 #[.agg #[.string a1, .string a2, .int .i64 da], .agg #[.string b1, .string b2, .int .i64 db]] w (RetV w (.bool true)):=by
 obtain ⟨p1,q1,k1,n1,e1,f1⟩:=opV_sh2 (rdS (bytes a1) (bytes a2) da) (rdS (bytes b1) (bytes b2) db) Sd.times
 obtain ⟨p2,n2,e2⟩:=opU_sh (rdS (bytes a1) (bytes a2) da)
 obtain ⟨p3,n3,e3⟩:=opU_sh (rdS (bytes b1) (bytes b2) db)
 by_cases h:n1=0∧n2=0∧n3=0
 ·obtain ⟨x,y,hx,hy,h1⟩:=f1 h.1
  exact surdNorm_ok a1 a2 b1 b2 da db w hg hx hy h1
 ·exact surdNorm_no a1 a2 b1 b2 da db w hg e1 e2 e3 h
end Go.Proofs.YtbgkofgoeoiciaaGreatDoor
