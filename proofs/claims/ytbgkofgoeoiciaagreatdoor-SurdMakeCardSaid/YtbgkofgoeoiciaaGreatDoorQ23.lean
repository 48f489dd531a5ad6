/-
 My texts SdLk put together.
-/
import Derived.Test.YtbgkofgoeoiciaaGreatDoorQ22
namespace Go.Proofs.YtbgkofgoeoiciaaGreatDoor
open Go.RowKit
set_option maxRecDepth 100000 in
theorem surdMake_any (s1 s2:ByteArray) (ds:Int) (a b:ByteArray) (d:Int) (w:World) (hg:Glob w) :
 Calls Tryz.prog 3 #[.agg #[.string s1, .string s2, .int .i64 ds], .string a, .string b, .int .i64 d] w (RetV w (.bool true)):=by
 obtain ⟨r,hr⟩:∃ r,[(s1,s2,ds)].all okP=r:=⟨_,rfl⟩
 refine sx_enter (Φ:=fun w=>Glob w) Tryz.func3 rfl (by kernel_rfl) (fun w' hf=>hg.ext hf) ?_
 refine sx_seq (sx_region (xr 2 [(1, .v (.string a)),(2, .v (.string b)),(3, .v (.int .i64 d)),(4, .p 4 0),(8, .v (.bool false))] [bS3 4 23 s1 s2 ds] ?_))
 refine xe (sx_next (sx_seq (sx_seq (sx_region (xr 1 [(1, .v (.string a)),(2, .v (.string b)),(3, .v (.int .i64 d)),(4, .p 4 0),(8, .v (.bool false)),eS3 13 s1 s2 ds] [bS3 4 23 s1 s2 ds] ?_)))))
 refine sx_does (d:=14) (fun zb:Nat=>.slice (some ⟨zb,0,none⟩) 1 1) (fun zb zw=>Blk 23 zw zb #[.string s1, .string s2, .int .i64 ds]) (by kernel_rfl) (by kernel_rfl) (by kernel_rfl) (by kernel_rfl) (by kernel_rfl) (by kernel_rfl) (fun w hE hΦ=>does_bslice (t:=86) (e:=23) (n:=1) (sz:=3) (z:=.agg #[.string ⟨#[]⟩, .string ⟨#[]⟩, .int .i64 0]) (parts:=#[(0,Operand.tmp 13)]) (by kernel_rfl) (by kernel_rfl) (by kernel_rfl) (by kernel_rfl) (by kernel_rfl) (by kernel_rfl)) (fun b10=>?_)
 refine xr 0 [(1, .v (.string a)),(2, .v (.string b)),(3, .v (.int .i64 d)),(4, .p 4 0),(8, .v (.bool false)),eS1 14 (some ⟨b10,0,none⟩) 1 1] [bS3 4 23 s1 s2 ds] ?_
 refine xc 15 [.slice (some ⟨b10,0,none⟩) 1 1] 15 (fun _:Unit=>.bool r) _ (fun w hE hΦ=>(small_any _ 1 [(s1,s2,ds)] _ hΦ.2 rfl (by decide) r hr).mono (fun _ _ h=>post_val h rfl)) (fun xx=>?_)
 rcases r with _ | _
 ·refine xr 8 [(1, .v (.string a)),(2, .v (.string b)),(3, .v (.int .i64 d)),(4, .p 4 0),(8, .v (.bool false)),(23, .v (.bool true))] [bS3 4 23 s1 s2 ds] ?_
  refine xe (sx_next (xa (sx_seq (sx_region ?_))))
  refine xc 17 [] 24 (fun _:Unit=>.bool true) _ (fun w hE hΦ=>(awake11_any _ hΦ.1.1).mono (fun _ _ h=>post_val h rfl)) (fun xx=>?_)
  refine xr 1 [(1, .v (.string a)),(2, .v (.string b)),(3, .v (.int .i64 d)),(4, .p 4 0),(8, .v (.bool true))] [bS3 4 23 s1 s2 ds] ?_
  refine xe (sx_next (sx_ret (sx_then_ret ?_)))
  refine sx_done (v:=.bool true) (by kernel_rfl) (fun w' hE hΦ=>?_)
  exact ⟨rfl,hE⟩
 ·have HL:=small_l1 hr
  refine xr 4 [(1, .v (.string a)),(2, .v (.string b)),(3, .v (.int .i64 d)),(4, .p 4 0),(8, .v (.bool false)),(17, .v (.bool false)),(18, .v (.string a)),(19, .v (.string b))] [bS3 4 23 s1 s2 ds] ?_
  refine sx_does (d:=20) (fun zb:Nat=>.slice (some ⟨zb,0,none⟩) 2 2) (fun zb zw=>Blk 9 zw zb #[.string a, .string b]) (by kernel_rfl) (by kernel_rfl) (by kernel_rfl) (by kernel_rfl) (by kernel_rfl) (by kernel_rfl) (fun w hE hΦ=>does_bslice (t:=111) (e:=9) (n:=2) (sz:=1) (z:=.string ⟨#[]⟩) (parts:=#[(0,Operand.tmp 18),(1,Operand.tmp 19)]) (by kernel_rfl) (by kernel_rfl) (by kernel_rfl) (by kernel_rfl) (by kernel_rfl) (by kernel_rfl)) (fun b11=>?_)
  refine xr 0 [(1, .v (.string a)),(2, .v (.string b)),(3, .v (.int .i64 d)),(4, .p 4 0),(8, .v (.bool false)),(17, .v (.bool false)),eS1 20 (some ⟨b11,0,none⟩) 2 2] [bS3 4 23 s1 s2 ds] ?_
  obtain ⟨r2,hr2⟩:∃ r,[a,b].all (fun s=>decide ((s.size:Int)≤40))=r:=⟨_,rfl⟩
  refine xc 16 [.int .i64 40, .slice (some ⟨b11,0,none⟩) 2 2] 21 (fun _:Unit=>.bool r2) _ (fun w hE hΦ=>(short2 hΦ.2 hr2).mono (fun _ _ h=>post_val h rfl)) (fun xx=>?_)
  rcases r2 with _ | _
  ·refine xr 2 [(1, .v (.string a)),(2, .v (.string b)),(3, .v (.int .i64 d)),(4, .p 4 0),(8, .v (.bool false)),(23, .v (.bool true))] [bS3 4 23 s1 s2 ds] ?_
   refine xe (sx_next (xa (sx_seq (sx_region ?_))))
   refine xc 17 [] 24 (fun _:Unit=>.bool true) _ (fun w hE hΦ=>(awake11_any _ hΦ.1.1.1.1).mono (fun _ _ h=>post_val h rfl)) (fun xx=>?_)
   refine xr 1 [(1, .v (.string a)),(2, .v (.string b)),(3, .v (.int .i64 d)),(4, .p 4 0),(8, .v (.bool true))] [bS3 4 23 s1 s2 ds] ?_
   refine xe (sx_next (sx_ret (sx_then_ret ?_)))
   refine sx_done (v:=.bool true) (by kernel_rfl) (fun w' hE hΦ=>?_)
   exact ⟨rfl,hE⟩
  ·have HA:=short_all2 hr2
   have LA:(bytes a).length≤570∧(bytes b).length≤570:=by omega
   have LS:(bytes s1).length≤570∧(bytes s2).length≤570:=by omega
   obtain ⟨R,M,HS⟩:∃ R M,(0 < d→d≤1000000→SqF d.toNat R M):=sqf_for d
   have HM:=mkV_ways (R:=R) (M:=M) (show (bytes a).length≤40 by omega) (show (bytes b).length≤40 by omega) (by decide) HS
   refine xr 2 [(1, .v (.string a)),(2, .v (.string b)),(3, .v (.int .i64 d)),(4, .p 4 0),(8, .v (.bool false)),(23, .v (.bool false))] [bS3 4 23 s1 s2 ds] ?_
   refine xe (sx_next (xb (sx_skip (sx_next (sx_seq (sx_region (xr 3 [(1, .v (.string a)),(2, .v (.string b)),(3, .v (.int .i64 d)),(4, .p 4 0),(8, .v (.bool false)),(26, .v (.string a)),(27, .v (.string b)),(28, .v (.int .i64 d))] [bS3 4 23 s1 s2 ds] ?_)))))))
   rcases HM with hm | hm | ⟨x,hxo,hxz,hm⟩
   ·refine xc 18 [.string a, .string b, .int .i64 d] 29 (fun _:Unit=>.tuple #[vS3 ⟨#[]⟩ ⟨#[]⟩ 0, .int .i64 1]) _ (fun w hE hΦ=>(SMake_any a b d _ hΦ.1.1.1.1 LA (j:=40) (fun q h=>readF_dec h (by omega) (by decide)) (fun q h=>readF_dec h (by omega) (by decide)) (by decide) R M HS).mono (fun _ _ h=>post_val h (by rw [hm]))) (fun xx=>?_)
    refine xr 6 [(1, .v (.string a)),(2, .v (.string b)),(3, .v (.int .i64 d)),(4, .p 4 0),(8, .v (.bool false)),(9, .p 9 0),(10, .v (.int .i64 1))] [bS3 9 23 ⟨#[]⟩ ⟨#[]⟩ 0,bS3 4 23 s1 s2 ds] ?_
    refine xe (sx_next (sx_seq (sx_region (xr 3 [(4, .p 4 0),(8, .v (.bool false)),(9, .p 9 0),(10, .v (.int .i64 1)),(33, .v (.string a)),(34, .v (.string b)),(35, .v (.int .i64 d))] [bS3 9 23 ⟨#[]⟩ ⟨#[]⟩ 0,bS3 4 23 s1 s2 ds] ?_))))
    refine xc 19 [.string a, .string b, .int .i64 d] 36 (fun _:Unit=>.tuple #[vS3 ⟨#[]⟩ ⟨#[]⟩ 0, .int .i64 1]) _ (fun w hE hΦ=>(RMake_any a b d _ LA (j:=40) (fun q h=>readF_dec h (by omega) (by decide)) (fun q h=>readF_dec h (by omega) (by decide)) (by decide) R M HS).mono (fun _ _ h=>post_val h (by rw [hm]))) (fun xx=>?_)
    refine xr 6 [(4, .p 4 0),(8, .v (.bool false)),(9, .p 9 0),(10, .v (.int .i64 1)),(11, .p 11 0),(12, .v (.int .i64 1))] [bS3 11 23 ⟨#[]⟩ ⟨#[]⟩ 0,bS3 9 23 ⟨#[]⟩ ⟨#[]⟩ 0,bS3 4 23 s1 s2 ds] ?_
    refine xe (sx_next (sx_seq ?_))
    refine sx_drawM 27 [0,1,0,7,15,31,63,63,255,511,1023,2047,2047,8191,16383,32767,65535,131071,262143,524287,1048575,2097151,4194303,8388607,16777215,33554431,67108863] (by kernel_rfl) (by kernel_rfl) follows_mixed' ?_
    refine xf 1 [(4, .p 4 0),(8, .v (.bool false)),(9, .p 9 0),(10, .v (.int .i64 1)),(11, .p 11 0),(12, .v (.int .i64 1)),eS3 39 s1 s2 ds] [bS3 11 23 ⟨#[]⟩ ⟨#[]⟩ 0,bS3 9 23 ⟨#[]⟩ ⟨#[]⟩ 0,bS3 4 23 s1 s2 ds] ?_
    rcases bool2 (rdS (bytes s1) (bytes s2) ds).isSome with hv | hv
    ·refine xd 20 [vS3 s1 s2 ds] 40 (fun _:Unit=>.bool true) _ (fun w hE hΦ=>(SValid_any s1 s2 ds _ hΦ.1.1.1.1.1.1 LS).mono (fun _ _ h=>post_val h (by rw [hv]))) (fun xx=>?_)
     refine xf 1 [(8, .v (.bool false)),(9, .p 9 0),(10, .v (.int .i64 1)),(11, .p 11 0),(12, .v (.int .i64 1)),(40, .v (.bool true)),eS3 41 s1 s2 ds] [bS3 11 23 ⟨#[]⟩ ⟨#[]⟩ 0,bS3 9 23 ⟨#[]⟩ ⟨#[]⟩ 0,bS3 4 23 s1 s2 ds] ?_
     refine xd 21 [vS3 s1 s2 ds] 42 (fun _:Unit=>.bool true) _ (fun w hE hΦ=>(RValid_any s1 s2 ds _ LS).mono (fun _ _ h=>post_val h (by rw [hv]))) (fun xx=>?_)
     refine xf 4 [(8, .v (.bool false)),(9, .p 9 0),(10, .v (.int .i64 1)),(12, .v (.int .i64 1)),(44, .v (.bool true)),eS3 45 ⟨#[]⟩ ⟨#[]⟩ 0,eS3 46 ⟨#[]⟩ ⟨#[]⟩ 0] [bS3 11 23 ⟨#[]⟩ ⟨#[]⟩ 0,bS3 9 23 ⟨#[]⟩ ⟨#[]⟩ 0,bS3 4 23 s1 s2 ds] ?_
     refine xm 47 (.bool true) (fun w hΦ=>run_eq3 ((Operand.tmp 45)) ((Operand.tmp 46)) 23 ⟨#[]⟩ ⟨#[]⟩ 0) ?_
     refine xf 15 [(8, .v (.bool false)),(62, .v (.bool true))] [bS3 11 23 ⟨#[]⟩ ⟨#[]⟩ 0,bS3 9 23 ⟨#[]⟩ ⟨#[]⟩ 0,bS3 4 23 s1 s2 ds] ?_
     refine xd 17 [] 63 (fun _:Unit=>.bool true) _ (fun w hE hΦ=>(awake11_any _ hΦ.1.1.1.1.1.1.1.1).mono (fun _ _ h=>post_val h rfl)) (fun xx=>?_)
     refine xf 2 [(8, .v (.bool true))] [bS3 11 23 ⟨#[]⟩ ⟨#[]⟩ 0,bS3 9 23 ⟨#[]⟩ ⟨#[]⟩ 0,bS3 4 23 s1 s2 ds] ?_
     refine xz (xe (sx_next (sx_ret ?_)))
     refine sx_done (v:=.bool true) (by kernel_rfl) (fun w' hE hΦ=>?_)
     exact ⟨rfl,hE⟩
    ·refine xd 20 [vS3 s1 s2 ds] 40 (fun _:Unit=>.bool false) _ (fun w hE hΦ=>(SValid_any s1 s2 ds _ hΦ.1.1.1.1.1.1 LS).mono (fun _ _ h=>post_val h (by rw [hv]))) (fun xx=>?_)
     refine xf 1 [(8, .v (.bool false)),(9, .p 9 0),(10, .v (.int .i64 1)),(11, .p 11 0),(12, .v (.int .i64 1)),(40, .v (.bool false)),eS3 41 s1 s2 ds] [bS3 11 23 ⟨#[]⟩ ⟨#[]⟩ 0,bS3 9 23 ⟨#[]⟩ ⟨#[]⟩ 0,bS3 4 23 s1 s2 ds] ?_
     refine xd 21 [vS3 s1 s2 ds] 42 (fun _:Unit=>.bool false) _ (fun w hE hΦ=>(RValid_any s1 s2 ds _ LS).mono (fun _ _ h=>post_val h (by rw [hv]))) (fun xx=>?_)
     refine xf 4 [(8, .v (.bool false)),(9, .p 9 0),(10, .v (.int .i64 1)),(12, .v (.int .i64 1)),(44, .v (.bool true)),eS3 45 ⟨#[]⟩ ⟨#[]⟩ 0,eS3 46 ⟨#[]⟩ ⟨#[]⟩ 0] [bS3 11 23 ⟨#[]⟩ ⟨#[]⟩ 0,bS3 9 23 ⟨#[]⟩ ⟨#[]⟩ 0,bS3 4 23 s1 s2 ds] ?_
     refine xm 47 (.bool true) (fun w hΦ=>run_eq3 ((Operand.tmp 45)) ((Operand.tmp 46)) 23 ⟨#[]⟩ ⟨#[]⟩ 0) ?_
     refine xf 15 [(8, .v (.bool false)),(62, .v (.bool true))] [bS3 11 23 ⟨#[]⟩ ⟨#[]⟩ 0,bS3 9 23 ⟨#[]⟩ ⟨#[]⟩ 0,bS3 4 23 s1 s2 ds] ?_
     refine xd 17 [] 63 (fun _:Unit=>.bool true) _ (fun w hE hΦ=>(awake11_any _ hΦ.1.1.1.1.1.1.1.1).mono (fun _ _ h=>post_val h rfl)) (fun xx=>?_)
     refine xf 2 [(8, .v (.bool true))] [bS3 11 23 ⟨#[]⟩ ⟨#[]⟩ 0,bS3 9 23 ⟨#[]⟩ ⟨#[]⟩ 0,bS3 4 23 s1 s2 ds] ?_
     refine xz (xe (sx_next (sx_ret ?_)))
     refine sx_done (v:=.bool true) (by kernel_rfl) (fun w' hE hΦ=>?_)
     exact ⟨rfl,hE⟩
   ·refine xc 18 [.string a, .string b, .int .i64 d] 29 (fun _:Unit=>.tuple #[vS3 ⟨#[]⟩ ⟨#[]⟩ 0, .int .i64 3]) _ (fun w hE hΦ=>(SMake_any a b d _ hΦ.1.1.1.1 LA (j:=40) (fun q h=>readF_dec h (by omega) (by decide)) (fun q h=>readF_dec h (by omega) (by decide)) (by decide) R M HS).mono (fun _ _ h=>post_val h (by rw [hm]))) (fun xx=>?_)
    refine xr 6 [(1, .v (.string a)),(2, .v (.string b)),(3, .v (.int .i64 d)),(4, .p 4 0),(8, .v (.bool false)),(9, .p 9 0),(10, .v (.int .i64 3))] [bS3 9 23 ⟨#[]⟩ ⟨#[]⟩ 0,bS3 4 23 s1 s2 ds] ?_
    refine xe (sx_next (sx_seq (sx_region (xr 3 [(4, .p 4 0),(8, .v (.bool false)),(9, .p 9 0),(10, .v (.int .i64 3)),(33, .v (.string a)),(34, .v (.string b)),(35, .v (.int .i64 d))] [bS3 9 23 ⟨#[]⟩ ⟨#[]⟩ 0,bS3 4 23 s1 s2 ds] ?_))))
    refine xc 19 [.string a, .string b, .int .i64 d] 36 (fun _:Unit=>.tuple #[vS3 ⟨#[]⟩ ⟨#[]⟩ 0, .int .i64 3]) _ (fun w hE hΦ=>(RMake_any a b d _ LA (j:=40) (fun q h=>readF_dec h (by omega) (by decide)) (fun q h=>readF_dec h (by omega) (by decide)) (by decide) R M HS).mono (fun _ _ h=>post_val h (by rw [hm]))) (fun xx=>?_)
    refine xr 6 [(4, .p 4 0),(8, .v (.bool false)),(9, .p 9 0),(10, .v (.int .i64 3)),(11, .p 11 0),(12, .v (.int .i64 3))] [bS3 11 23 ⟨#[]⟩ ⟨#[]⟩ 0,bS3 9 23 ⟨#[]⟩ ⟨#[]⟩ 0,bS3 4 23 s1 s2 ds] ?_
    refine xe (sx_next (sx_seq ?_))
    refine sx_drawM 27 [0,1,0,7,15,31,63,63,255,511,1023,2047,2047,8191,16383,32767,65535,131071,262143,524287,1048575,2097151,4194303,8388607,16777215,33554431,67108863] (by kernel_rfl) (by kernel_rfl) follows_mixed' ?_
    refine xf 1 [(4, .p 4 0),(8, .v (.bool false)),(9, .p 9 0),(10, .v (.int .i64 3)),(11, .p 11 0),(12, .v (.int .i64 3)),eS3 39 s1 s2 ds] [bS3 11 23 ⟨#[]⟩ ⟨#[]⟩ 0,bS3 9 23 ⟨#[]⟩ ⟨#[]⟩ 0,bS3 4 23 s1 s2 ds] ?_
    rcases bool2 (rdS (bytes s1) (bytes s2) ds).isSome with hv | hv
    ·refine xd 20 [vS3 s1 s2 ds] 40 (fun _:Unit=>.bool true) _ (fun w hE hΦ=>(SValid_any s1 s2 ds _ hΦ.1.1.1.1.1.1 LS).mono (fun _ _ h=>post_val h (by rw [hv]))) (fun xx=>?_)
     refine xf 1 [(8, .v (.bool false)),(9, .p 9 0),(10, .v (.int .i64 3)),(11, .p 11 0),(12, .v (.int .i64 3)),(40, .v (.bool true)),eS3 41 s1 s2 ds] [bS3 11 23 ⟨#[]⟩ ⟨#[]⟩ 0,bS3 9 23 ⟨#[]⟩ ⟨#[]⟩ 0,bS3 4 23 s1 s2 ds] ?_
     refine xd 21 [vS3 s1 s2 ds] 42 (fun _:Unit=>.bool true) _ (fun w hE hΦ=>(RValid_any s1 s2 ds _ LS).mono (fun _ _ h=>post_val h (by rw [hv]))) (fun xx=>?_)
     refine xf 4 [(8, .v (.bool false)),(9, .p 9 0),(10, .v (.int .i64 3)),(12, .v (.int .i64 3)),(44, .v (.bool true)),eS3 45 ⟨#[]⟩ ⟨#[]⟩ 0,eS3 46 ⟨#[]⟩ ⟨#[]⟩ 0] [bS3 11 23 ⟨#[]⟩ ⟨#[]⟩ 0,bS3 9 23 ⟨#[]⟩ ⟨#[]⟩ 0,bS3 4 23 s1 s2 ds] ?_
     refine xm 47 (.bool true) (fun w hΦ=>run_eq3 ((Operand.tmp 45)) ((Operand.tmp 46)) 23 ⟨#[]⟩ ⟨#[]⟩ 0) ?_
     refine xf 15 [(8, .v (.bool false)),(62, .v (.bool true))] [bS3 11 23 ⟨#[]⟩ ⟨#[]⟩ 0,bS3 9 23 ⟨#[]⟩ ⟨#[]⟩ 0,bS3 4 23 s1 s2 ds] ?_
     refine xd 17 [] 63 (fun _:Unit=>.bool true) _ (fun w hE hΦ=>(awake11_any _ hΦ.1.1.1.1.1.1.1.1).mono (fun _ _ h=>post_val h rfl)) (fun xx=>?_)
     refine xf 2 [(8, .v (.bool true))] [bS3 11 23 ⟨#[]⟩ ⟨#[]⟩ 0,bS3 9 23 ⟨#[]⟩ ⟨#[]⟩ 0,bS3 4 23 s1 s2 ds] ?_
     refine xz (xe (sx_next (sx_ret ?_)))
     refine sx_done (v:=.bool true) (by kernel_rfl) (fun w' hE hΦ=>?_)
     exact ⟨rfl,hE⟩
    ·refine xd 20 [vS3 s1 s2 ds] 40 (fun _:Unit=>.bool false) _ (fun w hE hΦ=>(SValid_any s1 s2 ds _ hΦ.1.1.1.1.1.1 LS).mono (fun _ _ h=>post_val h (by rw [hv]))) (fun xx=>?_)
     refine xf 1 [(8, .v (.bool false)),(9, .p 9 0),(10, .v (.int .i64 3)),(11, .p 11 0),(12, .v (.int .i64 3)),(40, .v (.bool false)),eS3 41 s1 s2 ds] [bS3 11 23 ⟨#[]⟩ ⟨#[]⟩ 0,bS3 9 23 ⟨#[]⟩ ⟨#[]⟩ 0,bS3 4 23 s1 s2 ds] ?_
     refine xd 21 [vS3 s1 s2 ds] 42 (fun _:Unit=>.bool false) _ (fun w hE hΦ=>(RValid_any s1 s2 ds _ LS).mono (fun _ _ h=>post_val h (by rw [hv]))) (fun xx=>?_)
     refine xf 4 [(8, .v (.bool false)),(9, .p 9 0),(10, .v (.int .i64 3)),(12, .v (.int .i64 3)),(44, .v (.bool true)),eS3 45 ⟨#[]⟩ ⟨#[]⟩ 0,eS3 46 ⟨#[]⟩ ⟨#[]⟩ 0] [bS3 11 23 ⟨#[]⟩ ⟨#[]⟩ 0,bS3 9 23 ⟨#[]⟩ ⟨#[]⟩ 0,bS3 4 23 s1 s2 ds] ?_
     refine xm 47 (.bool true) (fun w hΦ=>run_eq3 ((Operand.tmp 45)) ((Operand.tmp 46)) 23 ⟨#[]⟩ ⟨#[]⟩ 0) ?_
     refine xf 15 [(8, .v (.bool false)),(62, .v (.bool true))] [bS3 11 23 ⟨#[]⟩ ⟨#[]⟩ 0,bS3 9 23 ⟨#[]⟩ ⟨#[]⟩ 0,bS3 4 23 s1 s2 ds] ?_
     refine xd 17 [] 63 (fun _:Unit=>.bool true) _ (fun w hE hΦ=>(awake11_any _ hΦ.1.1.1.1.1.1.1.1).mono (fun _ _ h=>post_val h rfl)) (fun xx=>?_)
     refine xf 2 [(8, .v (.bool true))] [bS3 11 23 ⟨#[]⟩ ⟨#[]⟩ 0,bS3 9 23 ⟨#[]⟩ ⟨#[]⟩ 0,bS3 4 23 s1 s2 ds] ?_
     refine xz (xe (sx_next (sx_ret ?_)))
     refine sx_done (v:=.bool true) (by kernel_rfl) (fun w' hE hΦ=>?_)
     exact ⟨rfl,hE⟩
   ·have TX:=TIs.of hxo hxz (by decide) (by decide)
    refine xc 18 [.string a, .string b, .int .i64 d] 29 (fun _:Unit=>.tuple #[vS3 (tB x.a) (tB x.b) x.d, .int .i64 0]) _ (fun w hE hΦ=>(SMake_any a b d _ hΦ.1.1.1.1 LA (j:=40) (fun q h=>readF_dec h (by omega) (by decide)) (fun q h=>readF_dec h (by omega) (by decide)) (by decide) R M HS).mono (fun _ _ h=>post_val h (by rw [hm]))) (fun xx=>?_)
    refine xr 6 [(1, .v (.string a)),(2, .v (.string b)),(3, .v (.int .i64 d)),(4, .p 4 0),(8, .v (.bool false)),(9, .p 9 0),(10, .v (.int .i64 0))] [bS3 9 23 (tB x.a) (tB x.b) x.d,bS3 4 23 s1 s2 ds] ?_
    refine xe (sx_next (sx_seq (sx_region (xr 3 [(4, .p 4 0),(8, .v (.bool false)),(9, .p 9 0),(10, .v (.int .i64 0)),(33, .v (.string a)),(34, .v (.string b)),(35, .v (.int .i64 d))] [bS3 9 23 (tB x.a) (tB x.b) x.d,bS3 4 23 s1 s2 ds] ?_))))
    refine xc 19 [.string a, .string b, .int .i64 d] 36 (fun _:Unit=>.tuple #[vS3 (tB x.a) (tB x.b) x.d, .int .i64 0]) _ (fun w hE hΦ=>(RMake_any a b d _ LA (j:=40) (fun q h=>readF_dec h (by omega) (by decide)) (fun q h=>readF_dec h (by omega) (by decide)) (by decide) R M HS).mono (fun _ _ h=>post_val h (by rw [hm]))) (fun xx=>?_)
    refine xr 6 [(4, .p 4 0),(8, .v (.bool false)),(9, .p 9 0),(10, .v (.int .i64 0)),(11, .p 11 0),(12, .v (.int .i64 0))] [bS3 11 23 (tB x.a) (tB x.b) x.d,bS3 9 23 (tB x.a) (tB x.b) x.d,bS3 4 23 s1 s2 ds] ?_
    refine xe (sx_next (sx_seq ?_))
    refine sx_drawM 27 [0,1,0,7,15,31,63,63,255,511,1023,2047,2047,8191,16383,32767,65535,131071,262143,524287,1048575,2097151,4194303,8388607,16777215,33554431,67108863] (by kernel_rfl) (by kernel_rfl) follows_mixed' ?_
    refine xf 1 [(4, .p 4 0),(8, .v (.bool false)),(9, .p 9 0),(10, .v (.int .i64 0)),(11, .p 11 0),(12, .v (.int .i64 0)),eS3 39 s1 s2 ds] [bS3 11 23 (tB x.a) (tB x.b) x.d,bS3 9 23 (tB x.a) (tB x.b) x.d,bS3 4 23 s1 s2 ds] ?_
    rcases bool2 (rdS (bytes s1) (bytes s2) ds).isSome with hv | hv
    ·refine xd 20 [vS3 s1 s2 ds] 40 (fun _:Unit=>.bool true) _ (fun w hE hΦ=>(SValid_any s1 s2 ds _ hΦ.1.1.1.1.1.1 LS).mono (fun _ _ h=>post_val h (by rw [hv]))) (fun xx=>?_)
     refine xf 1 [(8, .v (.bool false)),(9, .p 9 0),(10, .v (.int .i64 0)),(11, .p 11 0),(12, .v (.int .i64 0)),(40, .v (.bool true)),eS3 41 s1 s2 ds] [bS3 11 23 (tB x.a) (tB x.b) x.d,bS3 9 23 (tB x.a) (tB x.b) x.d,bS3 4 23 s1 s2 ds] ?_
     refine xd 21 [vS3 s1 s2 ds] 42 (fun _:Unit=>.bool true) _ (fun w hE hΦ=>(RValid_any s1 s2 ds _ LS).mono (fun _ _ h=>post_val h (by rw [hv]))) (fun xx=>?_)
     refine xf 4 [(8, .v (.bool false)),(9, .p 9 0),(10, .v (.int .i64 0)),(12, .v (.int .i64 0)),(44, .v (.bool true)),eS3 45 (tB x.a) (tB x.b) x.d,eS3 46 (tB x.a) (tB x.b) x.d] [bS3 11 23 (tB x.a) (tB x.b) x.d,bS3 9 23 (tB x.a) (tB x.b) x.d,bS3 4 23 s1 s2 ds] ?_
     refine xm 47 (.bool true) (fun w hΦ=>run_eq3 ((Operand.tmp 45)) ((Operand.tmp 46)) 23 (tB x.a) (tB x.b) x.d) ?_
     refine xf 11 [(8, .v (.bool false)),(54, .v (.bool true)),(57, .v (.bool false)),eS3 58 (tB x.a) (tB x.b) x.d] [bS3 11 23 (tB x.a) (tB x.b) x.d,bS3 9 23 (tB x.a) (tB x.b) x.d,bS3 4 23 s1 s2 ds] ?_
     refine xd 20 [vS3 (tB x.a) (tB x.b) x.d] 59 (fun _:Unit=>.bool true) _ (fun w hE hΦ=>(SValid_any _ _ _ _ hΦ.1.1.1.1.1.1.1.1 TX.len).mono (fun _ _ h=>post_val h (by rw [TX.rd]; rfl))) (fun xx=>?_)
     refine xf 3 [(8, .v (.bool false)),(62, .v (.bool true))] [bS3 11 23 (tB x.a) (tB x.b) x.d,bS3 9 23 (tB x.a) (tB x.b) x.d,bS3 4 23 s1 s2 ds] ?_
     refine xd 17 [] 63 (fun _:Unit=>.bool true) _ (fun w hE hΦ=>(awake11_any _ hΦ.1.1.1.1.1.1.1.1.1).mono (fun _ _ h=>post_val h rfl)) (fun xx=>?_)
     refine xf 2 [(8, .v (.bool true))] [bS3 11 23 (tB x.a) (tB x.b) x.d,bS3 9 23 (tB x.a) (tB x.b) x.d,bS3 4 23 s1 s2 ds] ?_
     refine xz (xe (sx_next (sx_ret ?_)))
     refine sx_done (v:=.bool true) (by kernel_rfl) (fun w' hE hΦ=>?_)
     exact ⟨rfl,hE⟩
    ·refine xd 20 [vS3 s1 s2 ds] 40 (fun _:Unit=>.bool false) _ (fun w hE hΦ=>(SValid_any s1 s2 ds _ hΦ.1.1.1.1.1.1 LS).mono (fun _ _ h=>post_val h (by rw [hv]))) (fun xx=>?_)
     refine xf 1 [(8, .v (.bool false)),(9, .p 9 0),(10, .v (.int .i64 0)),(11, .p 11 0),(12, .v (.int .i64 0)),(40, .v (.bool false)),eS3 41 s1 s2 ds] [bS3 11 23 (tB x.a) (tB x.b) x.d,bS3 9 23 (tB x.a) (tB x.b) x.d,bS3 4 23 s1 s2 ds] ?_
     refine xd 21 [vS3 s1 s2 ds] 42 (fun _:Unit=>.bool false) _ (fun w hE hΦ=>(RValid_any s1 s2 ds _ LS).mono (fun _ _ h=>post_val h (by rw [hv]))) (fun xx=>?_)
     refine xf 4 [(8, .v (.bool false)),(9, .p 9 0),(10, .v (.int .i64 0)),(12, .v (.int .i64 0)),(44, .v (.bool true)),eS3 45 (tB x.a) (tB x.b) x.d,eS3 46 (tB x.a) (tB x.b) x.d] [bS3 11 23 (tB x.a) (tB x.b) x.d,bS3 9 23 (tB x.a) (tB x.b) x.d,bS3 4 23 s1 s2 ds] ?_
     refine xm 47 (.bool true) (fun w hΦ=>run_eq3 ((Operand.tmp 45)) ((Operand.tmp 46)) 23 (tB x.a) (tB x.b) x.d) ?_
     refine xf 11 [(8, .v (.bool false)),(54, .v (.bool true)),(57, .v (.bool false)),eS3 58 (tB x.a) (tB x.b) x.d] [bS3 11 23 (tB x.a) (tB x.b) x.d,bS3 9 23 (tB x.a) (tB x.b) x.d,bS3 4 23 s1 s2 ds] ?_
     refine xd 20 [vS3 (tB x.a) (tB x.b) x.d] 59 (fun _:Unit=>.bool true) _ (fun w hE hΦ=>(SValid_any _ _ _ _ hΦ.1.1.1.1.1.1.1.1 TX.len).mono (fun _ _ h=>post_val h (by rw [TX.rd]; rfl))) (fun xx=>?_)
     refine xf 3 [(8, .v (.bool false)),(62, .v (.bool true))] [bS3 11 23 (tB x.a) (tB x.b) x.d,bS3 9 23 (tB x.a) (tB x.b) x.d,bS3 4 23 s1 s2 ds] ?_
     refine xd 17 [] 63 (fun _:Unit=>.bool true) _ (fun w hE hΦ=>(awake11_any _ hΦ.1.1.1.1.1.1.1.1.1).mono (fun _ _ h=>post_val h rfl)) (fun xx=>?_)
     refine xf 2 [(8, .v (.bool true))] [bS3 11 23 (tB x.a) (tB x.b) x.d,bS3 9 23 (tB x.a) (tB x.b) x.d,bS3 4 23 s1 s2 ds] ?_
     refine xz (xe (sx_next (sx_ret ?_)))
     refine sx_done (v:=.bool true) (by kernel_rfl) (fun w' hE hΦ=>?_)
     exact ⟨rfl,hE⟩
end Go.Proofs.YtbgkofgoeoiciaaGreatDoor
