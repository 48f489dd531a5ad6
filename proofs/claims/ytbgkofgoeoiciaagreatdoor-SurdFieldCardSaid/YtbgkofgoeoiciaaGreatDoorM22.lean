/-
 My texts SdLf put together.
-/
import Derived.Test.YtbgkofgoeoiciaaGreatDoorM21
namespace Go.Proofs.YtbgkofgoeoiciaaGreatDoor
open Go.RowKit
set_option maxRecDepth 100000 in
theorem surdField_ok (a1 a2 b1 b2 c1 c2:ByteArray) (da db dc:Int) (w:World) (hg:Glob w) {x y z:Sd} (hx:rdS (bytes a1) (bytes a2) da=some x) (hy:rdS (bytes b1) (bytes b2) db=some y) (hz:rdS (bytes c1) (bytes c2) dc=some z) (h1:Blg x.d y.d) (h2:Blg y.d z.d) (h3:Blg x.d z.d) :
 Calls Tryz.prog 5 #[.agg #[.string a1, .string a2, .int .i64 da], .agg #[.string b1, .string b2, .int .i64 db], .agg #[.string c1, .string c2, .int .i64 dc]] w (RetV w (.bool true)):=by
 obtain ⟨r,hr⟩:∃ r,[(a1,a2,da),(b1,b2,db),(c1,c2,dc)].all okP=r:=⟨_,rfl⟩
 refine sx_enter (Φ:=fun w=>Glob w) Tryz.func5 rfl (by kernel_rfl) (fun w' hf=>hg.ext hf) ?_
 refine sx_seq (sx_region (xr 4 [(3, .p 3 0),(4, .p 4 0),(5, .p 5 0),(6, .v (.bool false))] [bS3 5 23 c1 c2 dc,bS3 4 23 b1 b2 db,bS3 3 23 a1 a2 da] ?_))
 refine xe (sx_next (sx_seq (sx_seq (sx_region (xr 3 [(3, .p 3 0),(4, .p 4 0),(5, .p 5 0),(6, .v (.bool false)),eS3 19 a1 a2 da,eS3 20 b1 b2 db,eS3 21 c1 c2 dc] [bS3 5 23 c1 c2 dc,bS3 4 23 b1 b2 db,bS3 3 23 a1 a2 da] ?_)))))
 refine sx_does (d:=22) (fun zb:Nat=>.slice (some ⟨zb,0,none⟩) 3 3) (fun zb zw=>Blk 23 zw zb #[.string a1, .string a2, .int .i64 da, .string b1, .string b2, .int .i64 db, .string c1, .string c2, .int .i64 dc]) (by kernel_rfl) (by kernel_rfl) (by kernel_rfl) (by kernel_rfl) (by kernel_rfl) (by kernel_rfl) (fun w hE hΦ=>does_bslice (t:=86) (e:=23) (n:=3) (sz:=3) (z:=.agg #[.string ⟨#[]⟩, .string ⟨#[]⟩, .int .i64 0]) (parts:=#[(0,Operand.tmp 19),(1,Operand.tmp 20),(2,Operand.tmp 21)]) (by kernel_rfl) (by kernel_rfl) (by kernel_rfl) (by kernel_rfl) (by kernel_rfl) (by kernel_rfl)) (fun b10=>?_)
 refine xr 0 [(3, .p 3 0),(4, .p 4 0),(5, .p 5 0),(6, .v (.bool false)),eS1 22 (some ⟨b10,0,none⟩) 3 3] [bS3 5 23 c1 c2 dc,bS3 4 23 b1 b2 db,bS3 3 23 a1 a2 da] ?_
 refine xc 15 [.slice (some ⟨b10,0,none⟩) 3 3] 23 (fun _:Unit=>.bool r) _ (fun w hE hΦ=>(small_any _ 3 [(a1,a2,da),(b1,b2,db),(c1,c2,dc)] _ hΦ.2 rfl (by decide) r hr).mono (fun _ _ h=>post_val h rfl)) (fun xx=>?_)
 rcases r with _ | _
 ·refine xr 1 [(3, .p 3 0),(4, .p 4 0),(5, .p 5 0),(6, .v (.bool false)),(24, .v (.bool true))] [bS3 5 23 c1 c2 dc,bS3 4 23 b1 b2 db,bS3 3 23 a1 a2 da] ?_
  refine xe (sx_next (xa (sx_seq (sx_region ?_))))
  refine xc 17 [] 25 (fun _:Unit=>.bool true) _ (fun w hE hΦ=>(awake11_any _ hΦ.1.1).mono (fun _ _ h=>post_val h rfl)) (fun xx=>?_)
  refine xr 1 [(3, .p 3 0),(4, .p 4 0),(5, .p 5 0),(6, .v (.bool true))] [bS3 5 23 c1 c2 dc,bS3 4 23 b1 b2 db,bS3 3 23 a1 a2 da] ?_
  refine xe (sx_next (sx_ret (sx_then_ret ?_)))
  refine sx_done (v:=.bool true) (by kernel_rfl) (fun w' hE hΦ=>?_)
  exact ⟨rfl,hE⟩
 ·have HL:=small_l3 hr
  have TX:TIs a1 a2 da x 40:=TIs.in hx HL.1 HL.2.1 (by decide) (by decide)
  have TY:TIs b1 b2 db y 40:=TIs.in hy HL.2.2.1 HL.2.2.2.1 (by decide) (by decide)
  have TZ:TIs c1 c2 dc z 40:=TIs.in hz HL.2.2.2.2.1 HL.2.2.2.2.2 (by decide) (by decide)
  have EM:=mul_eq TX.ok TY.ok h1
  have ES:=add_eq TY.ok TZ.ok h2
  have EQ:=mul_eq TX.ok TZ.ok h3
  have ED:=distr TX.ok TY.ok TZ.ok h1 h2 h3
  have EG:=sgn_times TX.ok TY.ok h1
  have EB:=back TX.ok TY.ok h1
  have E0:=sgn_is0 TY.ok
  have zP:=TX.sz.times TY.sz
  have zS:=TY.sz.plus TZ.sz
  have zQ:=TX.sz.times TZ.sz
  have k1r:=sgn_rng x
  have k2r:=sgn_rng y
  obtain ⟨P,hP⟩:∃ r,x.times y=r:=⟨_,rfl⟩
  obtain ⟨S,hS⟩:∃ r,y.plus z=r:=⟨_,rfl⟩
  obtain ⟨Q,hQ⟩:∃ r,x.times z=r:=⟨_,rfl⟩
  obtain ⟨V,hV⟩:∃ r,x.times S=r:=⟨_,rfl⟩
  obtain ⟨k1,hk1⟩:∃ r,x.sgn=r:=⟨_,rfl⟩
  obtain ⟨k2,hk2⟩:∃ r,y.sgn=r:=⟨_,rfl⟩
  rw [hP] at EM EG EB ED zP
  rw [hS] at ES ED zS
  rw [hQ] at EQ ED zQ
  rw [hV] at ED
  rw [hk1] at EG k1r
  rw [hk2] at EG E0 k2r
  have TP:=TIs.of EM.1 zP (by decide) (by decide)
  have TS:=TIs.of ES.1 zS (by decide) (by decide)
  have TQ:=TIs.of EQ.1 zQ (by decide) (by decide)
  have hPy:Blg P.d y.d:=hP ▸ blg_times TX.ok TY.ok h1
  refine xr 1 [(3, .p 3 0),(4, .p 4 0),(5, .p 5 0),(6, .v (.bool false)),(24, .v (.bool false))] [bS3 5 23 c1 c2 dc,bS3 4 23 b1 b2 db,bS3 3 23 a1 a2 da] ?_
  refine xe (sx_next (xb (sx_skip (sx_next (sx_seq (sx_region (xr 2 [(3, .p 3 0),(4, .p 4 0),(5, .p 5 0),(6, .v (.bool false)),eS3 27 a1 a2 da,eS3 28 b1 b2 db] [bS3 5 23 c1 c2 dc,bS3 4 23 b1 b2 db,bS3 3 23 a1 a2 da] ?_)))))))
  refine xc 31 [vS3 a1 a2 da,vS3 b1 b2 db] 29 (fun _:Unit=>.tuple #[vS3 (tB P.a) (tB P.b) P.d, .int .i64 0]) _ (fun w hE hΦ=>(lMul hΦ.1.1 TX TY h1 hP (by decide)).mono (fun _ _ h=>post_val h rfl)) (fun xx=>?_)
  refine xr 6 [(3, .p 3 0),(4, .p 4 0),(5, .p 5 0),(6, .v (.bool false)),(7, .p 7 0),(8, .v (.int .i64 0))] [bS3 7 23 (tB P.a) (tB P.b) P.d,bS3 5 23 c1 c2 dc,bS3 4 23 b1 b2 db,bS3 3 23 a1 a2 da] ?_
  refine xe (sx_next (sx_seq (sx_region (xr 2 [(3, .p 3 0),(4, .p 4 0),(5, .p 5 0),(6, .v (.bool false)),(7, .p 7 0),(8, .v (.int .i64 0)),eS3 33 b1 b2 db,eS3 34 c1 c2 dc] [bS3 7 23 (tB P.a) (tB P.b) P.d,bS3 5 23 c1 c2 dc,bS3 4 23 b1 b2 db,bS3 3 23 a1 a2 da] ?_))))
  refine xc 32 [vS3 b1 b2 db,vS3 c1 c2 dc] 35 (fun _:Unit=>.tuple #[vS3 (tB S.a) (tB S.b) S.d, .int .i64 0]) _ (fun w hE hΦ=>(lAdd hΦ.1.1.1 TY TZ h2 hS (by decide)).mono (fun _ _ h=>post_val h rfl)) (fun xx=>?_)
  refine xr 6 [(3, .p 3 0),(4, .p 4 0),(5, .p 5 0),(6, .v (.bool false)),(7, .p 7 0),(8, .v (.int .i64 0)),(9, .p 9 0),(10, .v (.int .i64 0))] [bS3 9 23 (tB S.a) (tB S.b) S.d,bS3 7 23 (tB P.a) (tB P.b) P.d,bS3 5 23 c1 c2 dc,bS3 4 23 b1 b2 db,bS3 3 23 a1 a2 da] ?_
  refine xe (sx_next (sx_seq (sx_region (xr 2 [(3, .p 3 0),(4, .p 4 0),(6, .v (.bool false)),(7, .p 7 0),(8, .v (.int .i64 0)),(9, .p 9 0),(10, .v (.int .i64 0)),eS3 39 a1 a2 da,eS3 40 c1 c2 dc] [bS3 9 23 (tB S.a) (tB S.b) S.d,bS3 7 23 (tB P.a) (tB P.b) P.d,bS3 4 23 b1 b2 db,bS3 3 23 a1 a2 da] ?_))))
  refine xc 31 [vS3 a1 a2 da,vS3 c1 c2 dc] 41 (fun _:Unit=>.tuple #[vS3 (tB Q.a) (tB Q.b) Q.d, .int .i64 0]) _ (fun w hE hΦ=>(lMul hΦ.1.1.1.1 TX TZ h3 hQ (by decide)).mono (fun _ _ h=>post_val h rfl)) (fun xx=>?_)
  refine xr 6 [(3, .p 3 0),(4, .p 4 0),(6, .v (.bool false)),(7, .p 7 0),(8, .v (.int .i64 0)),(9, .p 9 0),(10, .v (.int .i64 0)),(11, .p 11 0),(12, .v (.int .i64 0))] [bS3 11 23 (tB Q.a) (tB Q.b) Q.d,bS3 9 23 (tB S.a) (tB S.b) S.d,bS3 7 23 (tB P.a) (tB P.b) P.d,bS3 4 23 b1 b2 db,bS3 3 23 a1 a2 da] ?_
  refine xe (sx_next (sx_seq (sx_seq (sx_region (xr 10 [(3, .p 3 0),(4, .p 4 0),(6, .v (.bool false)),(7, .p 7 0),(8, .v (.int .i64 0)),(9, .p 9 0),(10, .v (.int .i64 0)),(11, .p 11 0),(12, .v (.int .i64 0)),(53, .v (.bool false))] [bS3 11 23 (tB Q.a) (tB Q.b) Q.d,bS3 9 23 (tB S.a) (tB S.b) S.d,bS3 7 23 (tB P.a) (tB P.b) P.d,bS3 4 23 b1 b2 db,bS3 3 23 a1 a2 da] ?_)))))
  refine xe (sx_next (xb (sx_skip (sx_next (sx_seq (sx_region (xr 2 [(3, .p 3 0),(4, .p 4 0),(6, .v (.bool false)),(7, .p 7 0),(8, .v (.int .i64 0)),(10, .v (.int .i64 0)),(11, .p 11 0),(12, .v (.int .i64 0)),eS3 56 a1 a2 da,eS3 57 (tB S.a) (tB S.b) S.d] [bS3 11 23 (tB Q.a) (tB Q.b) Q.d,bS3 7 23 (tB P.a) (tB P.b) P.d,bS3 4 23 b1 b2 db,bS3 3 23 a1 a2 da] ?_)))))))
  refine xc 31 [vS3 a1 a2 da,vS3 (tB S.a) (tB S.b) S.d] 58 (fun _:Unit=>.tuple #[vS3 (tB V.a) (tB V.b) V.d, .int .i64 0]) _ (fun w hE hΦ=>(lMul hΦ.1.1.1.1.1 TX TS ED.1 hV (by decide)).mono (fun _ _ h=>post_val h rfl)) (fun xx=>?_)
  refine xr 6 [(3, .p 3 0),(4, .p 4 0),(6, .v (.bool false)),(7, .p 7 0),(8, .v (.int .i64 0)),(10, .v (.int .i64 0)),(11, .p 11 0),(12, .v (.int .i64 0)),(13, .p 13 0)] [bS3 13 23 (tB V.a) (tB V.b) V.d,bS3 11 23 (tB Q.a) (tB Q.b) Q.d,bS3 7 23 (tB P.a) (tB P.b) P.d,bS3 4 23 b1 b2 db,bS3 3 23 a1 a2 da] ?_
  refine xe (sx_next (sx_seq (sx_region (xr 2 [(3, .p 3 0),(4, .p 4 0),(6, .v (.bool false)),(7, .p 7 0),(8, .v (.int .i64 0)),(10, .v (.int .i64 0)),(12, .v (.int .i64 0)),(13, .p 13 0),eS3 62 (tB P.a) (tB P.b) P.d,eS3 63 (tB Q.a) (tB Q.b) Q.d] [bS3 13 23 (tB V.a) (tB V.b) V.d,bS3 7 23 (tB P.a) (tB P.b) P.d,bS3 4 23 b1 b2 db,bS3 3 23 a1 a2 da] ?_))))
  refine xc 32 [vS3 (tB P.a) (tB P.b) P.d,vS3 (tB Q.a) (tB Q.b) Q.d] 64 (fun _:Unit=>.tuple #[vS3 (tB V.a) (tB V.b) V.d, .int .i64 0]) _ (fun w hE hΦ=>(lAdd hΦ.1.1.1.1.1.1 TP TQ ED.2.1 ED.2.2 (by decide)).mono (fun _ _ h=>post_val h rfl)) (fun xx=>?_)
  refine xr 6 [(3, .p 3 0),(4, .p 4 0),(6, .v (.bool false)),(7, .p 7 0),(8, .v (.int .i64 0)),(10, .v (.int .i64 0)),(12, .v (.int .i64 0)),(13, .p 13 0),(14, .p 14 0)] [bS3 14 23 (tB V.a) (tB V.b) V.d,bS3 13 23 (tB V.a) (tB V.b) V.d,bS3 7 23 (tB P.a) (tB P.b) P.d,bS3 4 23 b1 b2 db,bS3 3 23 a1 a2 da] ?_
  refine xe (sx_next (sx_seq (sx_seq (sx_region (xr 9 [(3, .p 3 0),(4, .p 4 0),(6, .v (.bool false)),(7, .p 7 0),(8, .v (.int .i64 0)),(10, .v (.int .i64 0)),(12, .v (.int .i64 0)),(73, .v (.bool false)),eS3 74 (tB V.a) (tB V.b) V.d,eS3 75 (tB V.a) (tB V.b) V.d] [bS3 7 23 (tB P.a) (tB P.b) P.d,bS3 4 23 b1 b2 db,bS3 3 23 a1 a2 da] ?_)))))
  refine xl 76 (.bool false) (fun w hE hΦ=>run_ne3 ((Operand.tmp 74)) ((Operand.tmp 75)) 23 (tB V.a) (tB V.b) V.d) ?_
  refine xr 1 [(3, .p 3 0),(4, .p 4 0),(6, .v (.bool false)),(7, .p 7 0),(8, .v (.int .i64 0)),(10, .v (.int .i64 0)),(12, .v (.int .i64 0)),(77, .v (.bool false))] [bS3 7 23 (tB P.a) (tB P.b) P.d,bS3 4 23 b1 b2 db,bS3 3 23 a1 a2 da] ?_
  refine xe (sx_next (xb (sx_skip (sx_next (sx_seq (sx_region (xr 1 [(3, .p 3 0),(4, .p 4 0),(6, .v (.bool false)),(7, .p 7 0),(8, .v (.int .i64 0)),(10, .v (.int .i64 0)),(12, .v (.int .i64 0)),eS3 79 a1 a2 da] [bS3 7 23 (tB P.a) (tB P.b) P.d,bS3 4 23 b1 b2 db,bS3 3 23 a1 a2 da] ?_)))))))
  refine xc 25 [vS3 a1 a2 da] 80 (fun _:Unit=>.tuple #[.int .i64 k1, .int .i64 0]) _ (fun w hE hΦ=>(lSign hΦ.1.1.1.1.1.1.1 TX hk1 (by decide)).mono (fun _ _ h=>post_val h rfl)) (fun xx=>?_)
  refine xr 5 [(3, .p 3 0),(4, .p 4 0),(6, .v (.bool false)),(7, .p 7 0),(8, .v (.int .i64 0)),(10, .v (.int .i64 0)),(12, .v (.int .i64 0)),(15, .v (.int .i64 k1))] [bS3 7 23 (tB P.a) (tB P.b) P.d,bS3 4 23 b1 b2 db,bS3 3 23 a1 a2 da] ?_
  refine xe (sx_next (sx_seq (sx_region (xr 1 [(3, .p 3 0),(4, .p 4 0),(6, .v (.bool false)),(7, .p 7 0),(8, .v (.int .i64 0)),(10, .v (.int .i64 0)),(12, .v (.int .i64 0)),(15, .v (.int .i64 k1)),eS3 84 b1 b2 db] [bS3 7 23 (tB P.a) (tB P.b) P.d,bS3 4 23 b1 b2 db,bS3 3 23 a1 a2 da] ?_))))
  refine xc 25 [vS3 b1 b2 db] 85 (fun _:Unit=>.tuple #[.int .i64 k2, .int .i64 0]) _ (fun w hE hΦ=>(lSign hΦ.1.1.1.1.1.1.1.1 TY hk2 (by decide)).mono (fun _ _ h=>post_val h rfl)) (fun xx=>?_)
  refine xr 5 [(3, .p 3 0),(4, .p 4 0),(6, .v (.bool false)),(7, .p 7 0),(8, .v (.int .i64 0)),(10, .v (.int .i64 0)),(12, .v (.int .i64 0)),(15, .v (.int .i64 k1)),(16, .v (.int .i64 k2))] [bS3 7 23 (tB P.a) (tB P.b) P.d,bS3 4 23 b1 b2 db,bS3 3 23 a1 a2 da] ?_
  refine xe (sx_next (sx_seq (sx_region (xr 1 [(3, .p 3 0),(4, .p 4 0),(6, .v (.bool false)),(7, .p 7 0),(8, .v (.int .i64 0)),(10, .v (.int .i64 0)),(12, .v (.int .i64 0)),(15, .v (.int .i64 k1)),(16, .v (.int .i64 k2)),eS3 89 (tB P.a) (tB P.b) P.d] [bS3 7 23 (tB P.a) (tB P.b) P.d,bS3 4 23 b1 b2 db,bS3 3 23 a1 a2 da] ?_))))
  refine xc 25 [vS3 (tB P.a) (tB P.b) P.d] 90 (fun _:Unit=>.tuple #[.int .i64 (k1 * k2), .int .i64 0]) _ (fun w hE hΦ=>(lSign hΦ.1.1.1.1.1.1.1.1.1 TP EG (by decide)).mono (fun _ _ h=>post_val h rfl)) (fun xx=>?_)
  refine xr 5 [(3, .p 3 0),(4, .p 4 0),(6, .v (.bool false)),(7, .p 7 0),(8, .v (.int .i64 0)),(10, .v (.int .i64 0)),(12, .v (.int .i64 0)),(15, .v (.int .i64 k1)),(16, .v (.int .i64 k2)),(17, .v (.int .i64 (k1 * k2)))] [bS3 7 23 (tB P.a) (tB P.b) P.d,bS3 4 23 b1 b2 db,bS3 3 23 a1 a2 da] ?_
  refine xe (sx_next (sx_seq (sx_seq (sx_region (xr 15 [(3, .p 3 0),(4, .p 4 0),(6, .v (.bool false)),(7, .p 7 0),(8, .v (.int .i64 0)),(16, .v (.int .i64 k2)),(103, .v (.bool false)),(104, .v (.int .i64 (k1 * k2))),(107, .v (.int .i64 (IntKind.i64.wrap (k1 * k2))))] [bS3 7 23 (tB P.a) (tB P.b) P.d,bS3 4 23 b1 b2 db,bS3 3 23 a1 a2 da] ?_)))))
  rw [sgn_wr k1r k2r]
  refine xr 1 [(3, .p 3 0),(4, .p 4 0),(6, .v (.bool false)),(7, .p 7 0),(8, .v (.int .i64 0)),(16, .v (.int .i64 k2)),(103, .v (.bool false)),(108, .v (.bool (((k1 * k2):Int) != (k1 * k2))))] [bS3 7 23 (tB P.a) (tB P.b) P.d,bS3 4 23 b1 b2 db,bS3 3 23 a1 a2 da] ?_
  rw [int_nself]
  refine xr 1 [(3, .p 3 0),(4, .p 4 0),(6, .v (.bool false)),(7, .p 7 0),(8, .v (.int .i64 0)),(16, .v (.int .i64 k2)),(109, .v (.bool false))] [bS3 7 23 (tB P.a) (tB P.b) P.d,bS3 4 23 b1 b2 db,bS3 3 23 a1 a2 da] ?_
  refine xe (sx_next (xb (sx_skip (sx_next (sx_seq (sx_region (xr 2 [(3, .p 3 0),(6, .v (.bool false)),(8, .v (.int .i64 0)),(16, .v (.int .i64 k2)),eS3 111 (tB P.a) (tB P.b) P.d,eS3 112 b1 b2 db] [bS3 3 23 a1 a2 da] ?_)))))))
  by_cases hZ:y.a=0∧y.b=0
  ·refine xc 33 [vS3 (tB P.a) (tB P.b) P.d,vS3 b1 b2 db] 113 (fun _:Unit=>.tuple #[vS3 ⟨#[]⟩ ⟨#[]⟩ 0, .int .i64 5]) _ (fun w hE hΦ=>(lDiv0 hΦ.1.1.1.1.1.1.1.1.1.1 TP TY hPy hZ (by decide)).mono (fun _ _ h=>post_val h rfl)) (fun xx=>?_)
   refine xr 6 [(3, .p 3 0),(6, .v (.bool false)),(8, .v (.int .i64 5)),(16, .v (.int .i64 k2)),(18, .p 18 0)] [bS3 18 23 ⟨#[]⟩ ⟨#[]⟩ 0,bS3 3 23 a1 a2 da] ?_
   refine xe (sx_next (sx_seq (sx_seq (sx_region (xr 2 [(3, .p 3 0),(6, .v (.bool false)),(8, .v (.int .i64 5)),(18, .p 18 0),(117, .v (.bool ((k2:Int) == 0)))] [bS3 18 23 ⟨#[]⟩ ⟨#[]⟩ 0,bS3 3 23 a1 a2 da] ?_)))))
   rw [k0_t (E0.2 hZ)]
   refine xr 0 [(3, .p 3 0),(6, .v (.bool false)),(8, .v (.int .i64 5)),(18, .p 18 0),(117, .v (.bool true))] [bS3 18 23 ⟨#[]⟩ ⟨#[]⟩ 0,bS3 3 23 a1 a2 da] ?_
   refine xe (sx_next (xa (sx_seq (sx_region (xr 3 [(3, .p 3 0),(6, .v (.bool false)),(8, .v (.int .i64 5)),(18, .p 18 0),(120, .v (.bool true))] [bS3 18 23 ⟨#[]⟩ ⟨#[]⟩ 0,bS3 3 23 a1 a2 da] ?_)))))
   refine xc 17 [] 121 (fun _:Unit=>.bool true) _ (fun w hE hΦ=>(awake11_any _ hΦ.1.1.1.1.1.1.1.1.1.1.1).mono (fun _ _ h=>post_val h rfl)) (fun xx=>?_)
   refine xr 2 [(3, .p 3 0),(6, .v (.bool true)),(8, .v (.int .i64 5)),(18, .p 18 0)] [bS3 18 23 ⟨#[]⟩ ⟨#[]⟩ 0,bS3 3 23 a1 a2 da] ?_
   refine xe (sx_next (sx_ret (sx_then_ret ?_)))
   refine sx_done (v:=.bool true) (by kernel_rfl) (fun w' hE hΦ=>?_)
   exact ⟨rfl,hE⟩
  ·refine xc 33 [vS3 (tB P.a) (tB P.b) P.d,vS3 b1 b2 db] 113 (fun _:Unit=>.tuple #[vS3 (tB x.a) (tB x.b) x.d, .int .i64 0]) _ (fun w hE hΦ=>(lDiv hΦ.1.1.1.1.1.1.1.1.1.1 TP TY hPy hZ (EB hZ).2 (by decide)).mono (fun _ _ h=>post_val h rfl)) (fun xx=>?_)
   refine xr 6 [(3, .p 3 0),(6, .v (.bool false)),(8, .v (.int .i64 0)),(16, .v (.int .i64 k2)),(18, .p 18 0)] [bS3 18 23 (tB x.a) (tB x.b) x.d,bS3 3 23 a1 a2 da] ?_
   refine xe (sx_next (sx_seq (sx_seq (sx_region (xr 2 [(3, .p 3 0),(6, .v (.bool false)),(8, .v (.int .i64 0)),(18, .p 18 0),(117, .v (.bool ((k2:Int) == 0)))] [bS3 18 23 (tB x.a) (tB x.b) x.d,bS3 3 23 a1 a2 da] ?_)))))
   rw [k0_f (fun e=>hZ (E0.1 e))]
   refine xr 0 [(3, .p 3 0),(6, .v (.bool false)),(8, .v (.int .i64 0)),(18, .p 18 0),(117, .v (.bool false))] [bS3 18 23 (tB x.a) (tB x.b) x.d,bS3 3 23 a1 a2 da] ?_
   refine xe (sx_next (xb (sx_skip (sx_next (sx_seq (sx_region (xr 5 [(6, .v (.bool false)),(125, .v (.bool true)),eS3 126 (tB x.a) (tB x.b) x.d,eS3 127 a1 a2 da] [] ?_)))))))
   refine xl 128 (.bool true) (fun w hE hΦ=>run_eqS (x:=(Operand.tmp 126)) (y:=(Operand.tmp 127)) (k:=23) (a:=(tB x.a)) (b:=(tB x.b)) (d:=x.d) (a':=a1) (b':=a2) (d':=da) (by kernel_rfl) (by kernel_rfl) (by kernel_rfl) (TX.back)) ?_
   refine xr 2 [(6, .v (.bool false)),(130, .v (.bool true))] [] ?_
   refine xc 17 [] 131 (fun _:Unit=>.bool true) _ (fun w hE hΦ=>(awake11_any _ hΦ.1.1.1.1.1.1.1.1.1.1.1).mono (fun _ _ h=>post_val h rfl)) (fun xx=>?_)
   refine xr 2 [(6, .v (.bool true))] [] ?_
   refine xe (sx_next (sx_ret ?_))
   refine sx_done (v:=.bool true) (by kernel_rfl) (fun w' hE hΦ=>?_)
   exact ⟨rfl,hE⟩
set_option maxRecDepth 100000 in
theorem surdField_no (a1 a2 b1 b2 c1 c2:ByteArray) (da db dc:Int) (w:World) (hg:Glob w) {p1 q1 p2 q2 p3 q3:ByteArray} {k1 n1 k2 n2 k3 n3:Int} (e1:opV (rdS (bytes a1) (bytes a2) da) (rdS (bytes b1) (bytes b2) db) (fun x y=>okS (x.times y)) zS=.tuple #[.agg #[.string p1, .string q1, .int .i64 k1], .int .i64 n1]) (e2:opV (rdS (bytes b1) (bytes b2) db) (rdS (bytes c1) (bytes c2) dc) (fun x y=>okS (x.plus y)) zS=.tuple #[.agg #[.string p2, .string q2, .int .i64 k2], .int .i64 n2]) (e3:opV (rdS (bytes a1) (bytes a2) da) (rdS (bytes c1) (bytes c2) dc) (fun x y=>okS (x.times y)) zS=.tuple #[.agg #[.string p3, .string q3, .int .i64 k3], .int .i64 n3]) (hn:¬ (n1=0∧n2=0∧n3=0)) :
 Calls Tryz.prog 5 #[.agg #[.string a1, .string a2, .int .i64 da], .agg #[.string b1, .string b2, .int .i64 db], .agg #[.string c1, .string c2, .int .i64 dc]] w (RetV w (.bool true)):=by
 obtain ⟨r,hr⟩:∃ r,[(a1,a2,da),(b1,b2,db),(c1,c2,dc)].all okP=r:=⟨_,rfl⟩
 refine sx_enter (Φ:=fun w=>Glob w) Tryz.func5 rfl (by kernel_rfl) (fun w' hf=>hg.ext hf) ?_
 refine sx_seq (sx_region (xr 4 [(3, .p 3 0),(4, .p 4 0),(5, .p 5 0),(6, .v (.bool false))] [bS3 5 23 c1 c2 dc,bS3 4 23 b1 b2 db,bS3 3 23 a1 a2 da] ?_))
 refine xe (sx_next (sx_seq (sx_seq (sx_region (xr 3 [(3, .p 3 0),(4, .p 4 0),(5, .p 5 0),(6, .v (.bool false)),eS3 19 a1 a2 da,eS3 20 b1 b2 db,eS3 21 c1 c2 dc] [bS3 5 23 c1 c2 dc,bS3 4 23 b1 b2 db,bS3 3 23 a1 a2 da] ?_)))))
 refine sx_does (d:=22) (fun zb:Nat=>.slice (some ⟨zb,0,none⟩) 3 3) (fun zb zw=>Blk 23 zw zb #[.string a1, .string a2, .int .i64 da, .string b1, .string b2, .int .i64 db, .string c1, .string c2, .int .i64 dc]) (by kernel_rfl) (by kernel_rfl) (by kernel_rfl) (by kernel_rfl) (by kernel_rfl) (by kernel_rfl) (fun w hE hΦ=>does_bslice (t:=86) (e:=23) (n:=3) (sz:=3) (z:=.agg #[.string ⟨#[]⟩, .string ⟨#[]⟩, .int .i64 0]) (parts:=#[(0,Operand.tmp 19),(1,Operand.tmp 20),(2,Operand.tmp 21)]) (by kernel_rfl) (by kernel_rfl) (by kernel_rfl) (by kernel_rfl) (by kernel_rfl) (by kernel_rfl)) (fun b10=>?_)
 refine xr 0 [(3, .p 3 0),(4, .p 4 0),(5, .p 5 0),(6, .v (.bool false)),eS1 22 (some ⟨b10,0,none⟩) 3 3] [bS3 5 23 c1 c2 dc,bS3 4 23 b1 b2 db,bS3 3 23 a1 a2 da] ?_
 refine xc 15 [.slice (some ⟨b10,0,none⟩) 3 3] 23 (fun _:Unit=>.bool r) _ (fun w hE hΦ=>(small_any _ 3 [(a1,a2,da),(b1,b2,db),(c1,c2,dc)] _ hΦ.2 rfl (by decide) r hr).mono (fun _ _ h=>post_val h rfl)) (fun xx=>?_)
 rcases r with _ | _
 ·refine xr 1 [(3, .p 3 0),(4, .p 4 0),(5, .p 5 0),(6, .v (.bool false)),(24, .v (.bool true))] [bS3 5 23 c1 c2 dc,bS3 4 23 b1 b2 db,bS3 3 23 a1 a2 da] ?_
  refine xe (sx_next (xa (sx_seq (sx_region ?_))))
  refine xc 17 [] 25 (fun _:Unit=>.bool true) _ (fun w hE hΦ=>(awake11_any _ hΦ.1.1).mono (fun _ _ h=>post_val h rfl)) (fun xx=>?_)
  refine xr 1 [(3, .p 3 0),(4, .p 4 0),(5, .p 5 0),(6, .v (.bool true))] [bS3 5 23 c1 c2 dc,bS3 4 23 b1 b2 db,bS3 3 23 a1 a2 da] ?_
  refine xe (sx_next (sx_ret (sx_then_ret ?_)))
  refine sx_done (v:=.bool true) (by kernel_rfl) (fun w' hE hΦ=>?_)
  exact ⟨rfl,hE⟩
 ·have HL:=small_l3 hr
  have La:(bytes a1).length≤570∧(bytes a2).length≤570:=by omega
  have Za:∀ x,rdS (bytes a1) (bytes a2) da=some x→Sz x 40:=fun x h=>rdS_sz h HL.1 HL.2.1 (by decide)
  have Lb:(bytes b1).length≤570∧(bytes b2).length≤570:=by omega
  have Zb:∀ x,rdS (bytes b1) (bytes b2) db=some x→Sz x 40:=fun x h=>rdS_sz h HL.2.2.1 HL.2.2.2.1 (by decide)
  have Lc:(bytes c1).length≤570∧(bytes c2).length≤570:=by omega
  have Zc:∀ x,rdS (bytes c1) (bytes c2) dc=some x→Sz x 40:=fun x h=>rdS_sz h HL.2.2.2.2.1 HL.2.2.2.2.2 (by decide)
  refine xr 1 [(3, .p 3 0),(4, .p 4 0),(5, .p 5 0),(6, .v (.bool false)),(24, .v (.bool false))] [bS3 5 23 c1 c2 dc,bS3 4 23 b1 b2 db,bS3 3 23 a1 a2 da] ?_
  refine xe (sx_next (xb (sx_skip (sx_next (sx_seq (sx_region (xr 2 [(3, .p 3 0),(4, .p 4 0),(5, .p 5 0),(6, .v (.bool false)),eS3 27 a1 a2 da,eS3 28 b1 b2 db] [bS3 5 23 c1 c2 dc,bS3 4 23 b1 b2 db,bS3 3 23 a1 a2 da] ?_)))))))
  refine xc 31 [vS3 a1 a2 da,vS3 b1 b2 db] 29 (fun _:Unit=>.tuple #[vS3 p1 q1 k1, .int .i64 n1]) _ (fun w hE hΦ=>(SMulT_any a1 a2 b1 b2 da db _ hΦ.1.1 La Lb Za Zb (by decide)).mono (fun _ _ h=>post_val h (by rw [e1]))) (fun xx=>?_)
  refine xr 6 [(3, .p 3 0),(4, .p 4 0),(5, .p 5 0),(6, .v (.bool false)),(7, .p 7 0),(8, .v (.int .i64 n1))] [bS3 7 23 p1 q1 k1,bS3 5 23 c1 c2 dc,bS3 4 23 b1 b2 db,bS3 3 23 a1 a2 da] ?_
  refine xe (sx_next (sx_seq (sx_region (xr 2 [(3, .p 3 0),(4, .p 4 0),(5, .p 5 0),(6, .v (.bool false)),(7, .p 7 0),(8, .v (.int .i64 n1)),eS3 33 b1 b2 db,eS3 34 c1 c2 dc] [bS3 7 23 p1 q1 k1,bS3 5 23 c1 c2 dc,bS3 4 23 b1 b2 db,bS3 3 23 a1 a2 da] ?_))))
  refine xc 32 [vS3 b1 b2 db,vS3 c1 c2 dc] 35 (fun _:Unit=>.tuple #[vS3 p2 q2 k2, .int .i64 n2]) _ (fun w hE hΦ=>(SAddT_any b1 b2 c1 c2 db dc _ hΦ.1.1.1 Lb Lc Zb Zc (by decide)).mono (fun _ _ h=>post_val h (by rw [e2]))) (fun xx=>?_)
  refine xr 6 [(3, .p 3 0),(4, .p 4 0),(5, .p 5 0),(6, .v (.bool false)),(7, .p 7 0),(8, .v (.int .i64 n1)),(9, .p 9 0),(10, .v (.int .i64 n2))] [bS3 9 23 p2 q2 k2,bS3 7 23 p1 q1 k1,bS3 5 23 c1 c2 dc,bS3 4 23 b1 b2 db,bS3 3 23 a1 a2 da] ?_
  refine xe (sx_next (sx_seq (sx_region (xr 2 [(3, .p 3 0),(4, .p 4 0),(6, .v (.bool false)),(7, .p 7 0),(8, .v (.int .i64 n1)),(9, .p 9 0),(10, .v (.int .i64 n2)),eS3 39 a1 a2 da,eS3 40 c1 c2 dc] [bS3 9 23 p2 q2 k2,bS3 7 23 p1 q1 k1,bS3 4 23 b1 b2 db,bS3 3 23 a1 a2 da] ?_))))
  refine xc 31 [vS3 a1 a2 da,vS3 c1 c2 dc] 41 (fun _:Unit=>.tuple #[vS3 p3 q3 k3, .int .i64 n3]) _ (fun w hE hΦ=>(SMulT_any a1 a2 c1 c2 da dc _ hΦ.1.1.1.1 La Lc Za Zc (by decide)).mono (fun _ _ h=>post_val h (by rw [e3]))) (fun xx=>?_)
  refine xr 6 [(3, .p 3 0),(4, .p 4 0),(6, .v (.bool false)),(7, .p 7 0),(8, .v (.int .i64 n1)),(9, .p 9 0),(10, .v (.int .i64 n2)),(11, .p 11 0),(12, .v (.int .i64 n3))] [bS3 11 23 p3 q3 k3,bS3 9 23 p2 q2 k2,bS3 7 23 p1 q1 k1,bS3 4 23 b1 b2 db,bS3 3 23 a1 a2 da] ?_
  refine xe (sx_next (sx_seq (sx_seq (sx_region (xr 3 [(3, .p 3 0),(4, .p 4 0),(6, .v (.bool false)),(7, .p 7 0),(8, .v (.int .i64 n1)),(9, .p 9 0),(10, .v (.int .i64 n2)),(11, .p 11 0),(12, .v (.int .i64 n3)),(46, .v (.bool ((n1:Int) != 0)))] [bS3 11 23 p3 q3 k3,bS3 9 23 p2 q2 k2,bS3 7 23 p1 q1 k1,bS3 4 23 b1 b2 db,bS3 3 23 a1 a2 da] ?_)))))
  rcases bool2 (((n1:Int) != 0)) with hb11 | hb11
  ·rw [hb11]
   refine xr 7 [(3, .p 3 0),(4, .p 4 0),(6, .v (.bool false)),(7, .p 7 0),(8, .v (.int .i64 n1)),(9, .p 9 0),(10, .v (.int .i64 n2)),(11, .p 11 0),(12, .v (.int .i64 n3)),(53, .v (.bool true))] [bS3 11 23 p3 q3 k3,bS3 9 23 p2 q2 k2,bS3 7 23 p1 q1 k1,bS3 4 23 b1 b2 db,bS3 3 23 a1 a2 da] ?_
   refine xe (sx_next (xa (sx_seq (sx_region ?_))))
   refine xc 17 [] 54 (fun _:Unit=>.bool true) _ (fun w hE hΦ=>(awake11_any _ hΦ.1.1.1.1.1).mono (fun _ _ h=>post_val h rfl)) (fun xx=>?_)
   refine xr 1 [(3, .p 3 0),(4, .p 4 0),(6, .v (.bool true)),(7, .p 7 0),(8, .v (.int .i64 n1)),(9, .p 9 0),(10, .v (.int .i64 n2)),(11, .p 11 0),(12, .v (.int .i64 n3))] [bS3 11 23 p3 q3 k3,bS3 9 23 p2 q2 k2,bS3 7 23 p1 q1 k1,bS3 4 23 b1 b2 db,bS3 3 23 a1 a2 da] ?_
   refine xe (sx_next (sx_ret (sx_then_ret ?_)))
   refine sx_done (v:=.bool true) (by kernel_rfl) (fun w' hE hΦ=>?_)
   exact ⟨rfl,hE⟩
  ·rw [hb11]
   have thb11:=bne_f hb11
   refine xr 4 [(3, .p 3 0),(4, .p 4 0),(6, .v (.bool false)),(7, .p 7 0),(8, .v (.int .i64 n1)),(9, .p 9 0),(10, .v (.int .i64 n2)),(11, .p 11 0),(12, .v (.int .i64 n3)),(50, .v (.bool ((n2:Int) != 0)))] [bS3 11 23 p3 q3 k3,bS3 9 23 p2 q2 k2,bS3 7 23 p1 q1 k1,bS3 4 23 b1 b2 db,bS3 3 23 a1 a2 da] ?_
   rcases bool2 (((n2:Int) != 0)) with hb12 | hb12
   ·rw [hb12]
    refine xr 3 [(3, .p 3 0),(4, .p 4 0),(6, .v (.bool false)),(7, .p 7 0),(8, .v (.int .i64 n1)),(9, .p 9 0),(10, .v (.int .i64 n2)),(11, .p 11 0),(12, .v (.int .i64 n3)),(53, .v (.bool true))] [bS3 11 23 p3 q3 k3,bS3 9 23 p2 q2 k2,bS3 7 23 p1 q1 k1,bS3 4 23 b1 b2 db,bS3 3 23 a1 a2 da] ?_
    refine xe (sx_next (xa (sx_seq (sx_region ?_))))
    refine xc 17 [] 54 (fun _:Unit=>.bool true) _ (fun w hE hΦ=>(awake11_any _ hΦ.1.1.1.1.1).mono (fun _ _ h=>post_val h rfl)) (fun xx=>?_)
    refine xr 1 [(3, .p 3 0),(4, .p 4 0),(6, .v (.bool true)),(7, .p 7 0),(8, .v (.int .i64 n1)),(9, .p 9 0),(10, .v (.int .i64 n2)),(11, .p 11 0),(12, .v (.int .i64 n3))] [bS3 11 23 p3 q3 k3,bS3 9 23 p2 q2 k2,bS3 7 23 p1 q1 k1,bS3 4 23 b1 b2 db,bS3 3 23 a1 a2 da] ?_
    refine xe (sx_next (sx_ret (sx_then_ret ?_)))
    refine sx_done (v:=.bool true) (by kernel_rfl) (fun w' hE hΦ=>?_)
    exact ⟨rfl,hE⟩
   ·rw [hb12]
    have thb12:=bne_f hb12
    refine xr 3 [(3, .p 3 0),(4, .p 4 0),(6, .v (.bool false)),(7, .p 7 0),(8, .v (.int .i64 n1)),(9, .p 9 0),(10, .v (.int .i64 n2)),(11, .p 11 0),(12, .v (.int .i64 n3)),(53, .v (.bool ((n3:Int) != 0)))] [bS3 11 23 p3 q3 k3,bS3 9 23 p2 q2 k2,bS3 7 23 p1 q1 k1,bS3 4 23 b1 b2 db,bS3 3 23 a1 a2 da] ?_
    refine xe (sx_next ?_)
    refine sx_cond (((n3:Int) != 0)) (by kernel_rfl) (fun hb13=>?_) (fun hb13=>?_)
    ·refine sx_seq (sx_region ?_)
     refine xc 17 [] 54 (fun _:Unit=>.bool true) _ (fun w hE hΦ=>(awake11_any _ hΦ.1.1.1.1.1).mono (fun _ _ h=>post_val h rfl)) (fun xx=>?_)
     refine xr 1 [(3, .p 3 0),(4, .p 4 0),(6, .v (.bool true)),(7, .p 7 0),(8, .v (.int .i64 n1)),(9, .p 9 0),(10, .v (.int .i64 n2)),(11, .p 11 0),(12, .v (.int .i64 n3))] [bS3 11 23 p3 q3 k3,bS3 9 23 p2 q2 k2,bS3 7 23 p1 q1 k1,bS3 4 23 b1 b2 db,bS3 3 23 a1 a2 da] ?_
     refine xe (sx_next (sx_ret (sx_then_ret ?_)))
     refine sx_done (v:=.bool true) (by kernel_rfl) (fun w' hE hΦ=>?_)
     exact ⟨rfl,hE⟩
    ·have thb13:=bne_f hb13
     exfalso; omega
theorem surdField_any (a1 a2 b1 b2 c1 c2:ByteArray) (da db dc:Int) (w:World) (hg:Glob w):Calls Tryz.prog 5 #[.agg #[.string a1, .string a2, .int .i64 da], .agg #[.string b1, .string b2, .int .i64 db], .agg #[.string c1, .string c2, .int .i64 dc]] w (RetV w (.bool true)):=by
 obtain ⟨p1,q1,k1,n1,e1,f1⟩:=opV_sh2 (rdS (bytes a1) (bytes a2) da) (rdS (bytes b1) (bytes b2) db) Sd.times
 obtain ⟨p2,q2,k2,n2,e2,f2⟩:=opV_sh2 (rdS (bytes b1) (bytes b2) db) (rdS (bytes c1) (bytes c2) dc) Sd.plus
 obtain ⟨p3,q3,k3,n3,e3,f3⟩:=opV_sh2 (rdS (bytes a1) (bytes a2) da) (rdS (bytes c1) (bytes c2) dc) Sd.times
 by_cases h:n1=0∧n2=0∧n3=0
 ·obtain ⟨x,y,hx,hy,h1⟩:=f1 h.1
  obtain ⟨y',z,hy',hz,h2⟩:=f2 h.2.1
  obtain ⟨x',z',hx',hz',h3⟩:=f3 h.2.2
  rw [hy] at hy'; rw [hx] at hx'; rw [hz] at hz'
  injection hy' with hy'; injection hx' with hx'; injection hz' with hz'
  subst hy' hx' hz'
  exact surdField_ok a1 a2 b1 b2 c1 c2 da db dc w hg hx hy hz h1 h2 h3
 ·exact surdField_no a1 a2 b1 b2 c1 c2 da db dc w hg e1 e2 e3 h
end Go.Proofs.YtbgkofgoeoiciaaGreatDoor
