/-
 My texts Sdr, SdF, SdG, Nm, Pp, Sre, SdT, SdL put together.
-/
import Derived.Test.YtbgkofgoeoiciaaGreatDoorQ21
import Derived.Test.YtbgkofgoeoiciaaGreatDoorQ19
import Derived.Test.YtbgkofgoeoiciaaGreatDoorQ02
namespace Go.Proofs.YtbgkofgoeoiciaaGreatDoor
open Go.RowKit
theorem beq_ne {d e:Int} (h:(d == e)=false):d≠e:=fun x=>by subst x; simp at h
theorem blg_no {d e:Int} (h:¬ Blg d e):blg d e=false:=by
 cases hb:blg d e with
 | false=>rfl
 | true=>exact absurd (blg_iff.1 hb) h
theorem build_t {a b:Rat} {d:Int} (h:(d == 1)=true):Sd.build a b d=⟨a + b,0,1⟩:=by unfold Sd.build; exact if_pos (eq_of_beq h)
theorem build_f {a b:Rat} {d:Int} (h:(d == 1)=false):Sd.build a b d=nv a b d:=by unfold Sd.build nv; exact if_neg (ne_one h)
set_option maxRecDepth 100000 in
theorem squareFactor_any (N R M:Nat) (w:World) (hN:N≤1000000) (hS:SqF N R M) :
 Calls Tryz.prog 95 #[.int .i64 ((N:Nat):Int)] w (RetV w (.tuple #[.int .i64 ((R:Nat):Int), .int .i64 ((M:Nat):Int)])):=by
 refine sx_enter (Φ:=fun w=>True) Tryz.func95 rfl (by kernel_rfl) (fun w' hf=>trivial) ?_
 refine sx_seq (sx_region (xr 2 [(0, .v (.int .i64 ((N:Nat):Int))),(2, .v (.int .i64 0)),(3, .v (.int .i64 0))] [] ?_))
 refine xe (sx_next (sx_seq (sx_region (xr 1 [(0, .v (.int .i64 ((N:Nat):Int))),(2, .v (.int .i64 0)),(3, .v (.int .i64 0)),(4, .v (.int .i64 1))] [] ?_))))
 refine xe (sx_next (sx_seq (sx_seq (sx_region (xr 1 [(0, .v (.int .i64 ((N:Nat):Int))),(2, .v (.int .i64 0)),(3, .v (.int .i64 0)),(4, .v (.int .i64 1)),(5, .v (.int .i64 2))] [] ?_)))))
 refine xe (sx_next (sx_block ?_))
 refine SXc.weak [(0, .v (.int .i64 ((N:Nat):Int))),(4, .v (.int .i64 ((1:Nat):Int))),(5, .v (.int .i64 ((2:Nat):Int)))] [] (Ψ:=fun w=>True) (SameL.of (by kernel_rfl)) (by kernel_rfl) (fun w hΦ=>trivial) ?_
 refine sx_loop (fun nn ss ff=>∃ (m r k:Nat),ss=ofL [(0, .v (.int .i64 ((m:Nat):Int))),(4, .v (.int .i64 ((r:Nat):Int))),(5, .v (.int .i64 ((k:Nat):Int)))] []∧ff=(fun w=>True)∧(r * r * m=N)∧(0 < m)∧(m≤1000000)∧(FreeTo k m)∧(2≤k)∧(k≤1001)∧nn=(2000 - k)) ((2000 - 2)) ⟨N,1,2,rfl,rfl,(by omega),hS.pos,hN,(FreeTo.two N),(by omega),(by omega),rfl⟩ ?_
 rintro nn ss ff ⟨m,r,k,rfl,rfl,hmul,hm0,hmN,hF,hk2,hk3,rfl⟩
 refine sx_seq (sx_seq (sx_region (xr 3 [(0, .v (.int .i64 ((m:Nat):Int))),(4, .v (.int .i64 ((r:Nat):Int))),(5, .v (.int .i64 ((k:Nat):Int))),(8, .v (.int .i64 (IntKind.i64.wrap (((k:Nat):Int) * ((k:Nat):Int)))))] [] ?_)))
 rw [nmul (kk_le (by omega))]
 refine xr 2 [(0, .v (.int .i64 ((m:Nat):Int))),(4, .v (.int .i64 ((r:Nat):Int))),(5, .v (.int .i64 ((k:Nat):Int))),(10, .v (.bool (decide (((k * k:Nat):Int)≤((m:Nat):Int)))))] [] ?_
 refine xe (sx_next ?_)
 refine sx_cond ((decide (((k * k:Nat):Int)≤((m:Nat):Int)))) (by kernel_rfl) (fun hb10=>?_) (fun hb10=>?_)
 ·have hle:=le_t hb10
  have hk1:=k_le hle (by omega)
  refine sx_skip (sx_next (sx_seq (sx_block (sx_block ?_))))
  refine SXc.weak [(0, .v (.int .i64 ((m:Nat):Int))),(4, .v (.int .i64 ((r:Nat):Int))),(5, .v (.int .i64 ((k:Nat):Int)))] [] (Ψ:=fun w=>True) (SameL.of (by kernel_rfl)) (by kernel_rfl) (fun w hΦ=>trivial) ?_
  refine sx_loop (fun nn ss ff=>∃ (m2 r2:Nat),ss=ofL [(0, .v (.int .i64 ((m2:Nat):Int))),(4, .v (.int .i64 ((r2:Nat):Int))),(5, .v (.int .i64 ((k:Nat):Int)))] []∧ff=(fun w=>True)∧(r2 * r2 * m2=N)∧(0 < m2)∧(m2≤1000000)∧(FreeTo k m2)∧nn=(0 + m2)) ((0 + m)) ⟨m,r,rfl,rfl,hmul,hm0,hmN,hF,rfl⟩ ?_
  rintro nn ss ff ⟨m2,r2,rfl,rfl,hmul2,hm2,hm2N,hF2,rfl⟩
  refine sx_seq (sx_seq (sx_region (xr 4 [(0, .v (.int .i64 ((m2:Nat):Int))),(4, .v (.int .i64 ((r2:Nat):Int))),(5, .v (.int .i64 ((k:Nat):Int))),(13, .v (.int .i64 ((m2:Nat):Int))),(16, .v (.int .i64 (IntKind.i64.wrap (((k:Nat):Int) * ((k:Nat):Int)))))] [] ?_)))
  rw [nmul (kk_le (by omega))]
  refine xl 17 (.int .i64 ((m2 % (k * k):Nat):Int)) (fun w hE hΦ=>run_rem (t:=3) (k:=3) (x:=.tmp 13) (y:=.tmp 16) (a:=m2) (b:=k * k) (by kernel_rfl) (by kernel_rfl) (by kernel_rfl) (by have:=kk4 hk2; omega)) ?_
  refine xr 1 [(0, .v (.int .i64 ((m2:Nat):Int))),(4, .v (.int .i64 ((r2:Nat):Int))),(5, .v (.int .i64 ((k:Nat):Int))),(18, .v (.bool ((((m2 % (k * k):Nat):Int):Int) == 0)))] [] ?_
  refine xe (sx_next ?_)
  refine sx_cond (((((m2 % (k * k):Nat):Int):Int) == 0)) (by kernel_rfl) (fun hb11=>?_) (fun hb11=>?_)
  ·have hd:=md_t hb11
   refine sx_skip (sx_next (sx_block (sx_seq (sx_region (xr 4 [(0, .v (.int .i64 ((m2:Nat):Int))),(4, .v (.int .i64 ((r2:Nat):Int))),(5, .v (.int .i64 ((k:Nat):Int))),(19, .v (.int .i64 ((m2:Nat):Int))),(22, .v (.int .i64 (IntKind.i64.wrap (((k:Nat):Int) * ((k:Nat):Int)))))] [] ?_)))))
   rw [nmul (kk_le (by omega))]
   refine xl 23 (.int .i64 ((m2 / (k * k):Nat):Int)) (fun w hE hΦ=>run_quo (t:=3) (k:=3) (x:=.tmp 19) (y:=.tmp 22) (a:=m2) (b:=k * k) (by kernel_rfl) (by kernel_rfl) (by kernel_rfl) (by have:=kk4 hk2; omega) (by omega)) ?_
   refine xr 1 [(0, .v (.int .i64 ((m2 / (k * k):Nat):Int))),(4, .v (.int .i64 ((r2:Nat):Int))),(5, .v (.int .i64 ((k:Nat):Int)))] [] ?_
   refine xe (sx_next (sx_region (xr 3 [(0, .v (.int .i64 ((m2 / (k * k):Nat):Int))),(4, .v (.int .i64 ((r2:Nat):Int))),(5, .v (.int .i64 ((k:Nat):Int))),(26, .v (.int .i64 (IntKind.i64.wrap (((r2:Nat):Int) * ((k:Nat):Int)))))] [] ?_)))
   rw [nmul (sq_rk (sq_r hmul2 hm2 hN) (by omega))]
   refine xr 1 [(0, .v (.int .i64 ((m2 / (k * k):Nat):Int))),(4, .v (.int .i64 ((r2 * k:Nat):Int))),(5, .v (.int .i64 ((k:Nat):Int)))] [] ?_
   refine xe (sx_out ?_)
   refine SXq.weak [(0, .v (.int .i64 (((m2 / (k * k)):Nat):Int))),(4, .v (.int .i64 (((r2 * k):Nat):Int))),(5, .v (.int .i64 ((k:Nat):Int)))] [] (Ψ:=fun w=>True) (SameL.of (by kernel_rfl)) (by kernel_rfl) (fun w hΦ=>trivial) ?_
   have hq:=sq_div hm2 hd (kk4 hk2)
   exact sx_round ((0 + (m2 / (k * k)))) (by have:=hq.2; omega) ⟨(m2 / (k * k)),(r2 * k),rfl,rfl,(sq_step hmul2 hd),hq.1,(by omega),(hF2.div (Nat.dvd_of_mod_eq_zero hd)),rfl⟩
  ·have hd:=md_f hb11
   refine sx_exit (sx_then_exit (sx_then_exit (sx_hit (sx_out (sx_next (sx_region (xr 2 [(0, .v (.int .i64 ((m2:Nat):Int))),(4, .v (.int .i64 ((r2:Nat):Int))),(5, .v (.int .i64 ((k:Nat):Int))),(12, .v (.int .i64 (IntKind.i64.wrap (((k:Nat):Int) + 1))))] [] ?_)))))))
   rw [ninc (by omega)]
   refine xr 1 [(0, .v (.int .i64 ((m2:Nat):Int))),(4, .v (.int .i64 ((r2:Nat):Int))),(5, .v (.int .i64 ((k + 1:Nat):Int)))] [] ?_
   refine xe ?_
   refine SXq.weak [(0, .v (.int .i64 ((m2:Nat):Int))),(4, .v (.int .i64 ((r2:Nat):Int))),(5, .v (.int .i64 (((k + 1):Nat):Int)))] [] (Ψ:=fun w=>True) (SameL.of (by kernel_rfl)) (by kernel_rfl) (fun w hΦ=>trivial) ?_
   exact sx_round ((2000 - (k + 1))) (by omega) ⟨m2,r2,(k + 1),rfl,rfl,hmul2,hm2,hm2N,(hF2.next (fun h=>hd (Nat.mod_eq_zero_of_dvd h))),(by omega),(by omega),rfl⟩
 ·have hle:=le_f hb10
  refine sx_exit (sx_then_exit (sx_then_exit (sx_hit (sx_next (sx_seq (sx_region (xr 4 [(2, .v (.int .i64 ((r:Nat):Int))),(3, .v (.int .i64 ((m:Nat):Int)))] [] ?_)))))))
  refine xe (sx_next (sx_ret ?_))
  refine sx_done (v:=.tuple #[.int .i64 ((r:Nat):Int), .int .i64 ((m:Nat):Int)]) (by kernel_rfl) (fun w' hE hΦ=>?_)
  obtain ⟨rfl,rfl⟩:=SqF.eq ⟨hmul,hS.pos,hF.free hm0 hle⟩ hS
  exact ⟨rfl,hE⟩
theorem squareFactor_int (d:Int) (R M:Nat) (w:World) (h0:0 < d) (h1:d≤1000000) (hS:SqF d.toNat R M):Calls Tryz.prog 95 #[.int .i64 d] w (RetV w (.tuple #[.int .i64 ((R:Nat):Int), .int .i64 ((M:Nat):Int)])):=by
 obtain ⟨n,rfl⟩:=Int.eq_ofNat_of_zero_le (show 0≤d by omega)
 exact squareFactor_any n R M w (by omega) hS
set_option maxRecDepth 100000 in
theorem SRead_any (a b:ByteArray) (d:Int) (w:World) (hg:Glob w) (L:(bytes a).length≤570∧(bytes b).length≤570) :
 Calls Tryz.prog 102 #[.agg #[.string a, .string b, .int .i64 d]] w (RetRd w (rdS (bytes a) (bytes b) d)):=by
 refine sx_enter (Φ:=fun w=>Glob w) Tryz.func102 rfl (by kernel_rfl) (fun w' hf=>hg.ext hf) ?_
 refine sx_seq (sx_region (xr 3 [(1, .p 1 0),(2, .p 2 0),(3, .v (.bool false))] [bW 2 120 nQ nQ 0,bS3 1 23 a b d] ?_))
 refine xe (sx_next (sx_seq (sx_region (xr 2 [(1, .p 1 0),(2, .p 2 0),(3, .v (.bool false)),(12, .v (.string a))] [bW 2 120 nQ nQ 0,bS3 1 23 a b d] ?_))))
 rcases opt_two (readF (bytes a)) with ha | ⟨qa,ha⟩
 ·refine xc 92 [.string a] 13 (fun x:ShQ=>.tuple #[shRat x, .bool false]) _ (fun w hE hΦ=>(Read_any a _ hΦ (ReadOk.of_len (by omega))).mono (fun _ _ h=>post_Read_none h ha)) (fun X10=>?_)
  refine xr 6 [(1, .p 1 0),(2, .p 2 0),(3, .v (.bool false)),(4, .p 4 0),(5, .v (.bool false))] [bQ 4 116 X10,bW 2 120 nQ nQ 0,bS3 1 23 a b d] ?_
  refine xe (sx_next (sx_seq (sx_region (xr 2 [(1, .p 1 0),(2, .p 2 0),(3, .v (.bool false)),(4, .p 4 0),(5, .v (.bool false)),(18, .v (.string b))] [bQ 4 116 X10,bW 2 120 nQ nQ 0,bS3 1 23 a b d] ?_))))
  refine xc 92 [.string b] 19 (fun u0:Bool × ShQ=>.tuple #[shRat u0.2, .bool u0.1]) _ (fun w hE hΦ=>(Read_any b _ hΦ.1 (ReadOk.of_len (by omega))).mono (fun _ _ h=>post_Read_gen h)) (fun xx=>?_)
  obtain ⟨b12,X11⟩:=xx
  refine xr 6 [(1, .p 1 0),(2, .p 2 0),(3, .v (.bool false)),(4, .p 4 0),(5, .v (.bool false)),(6, .p 6 0),(7, .v (.bool b12))] [bQ 6 116 X11,bQ 4 116 X10,bW 2 120 nQ nQ 0,bS3 1 23 a b d] ?_
  refine xe (sx_next (sx_seq (sx_seq (sx_region (xr 6 [(1, .p 1 0),(2, .p 2 0),(3, .v (.bool false)),(4, .p 4 0),(6, .p 6 0),(27, .v (.bool true))] [bQ 6 116 X11,bQ 4 116 X10,bW 2 120 nQ nQ 0,bS3 1 23 a b d] ?_)))))
  refine xe (sx_next (xa (sx_seq (sx_region (xr 3 [(1, .p 1 0),(2, .p 2 0),(3, .v (.bool false)),(4, .p 4 0),(6, .p 6 0)] [bQ 6 116 X11,bQ 4 116 X10,bW 2 120 nQ nQ 0,bS3 1 23 a b d] ?_)))))
  refine xe (sx_next (sx_ret (sx_then_ret ?_)))
  refine sx_done (v:=.tuple #[.agg #[.bool false, .slice none 0 0, .bool false, .slice none 0 0, .bool false, .slice none 0 0, .bool false, .slice none 0 0, .int .i64 0], .bool false]) (by kernel_rfl) (fun w' hE hΦ=>?_)
  exact ⟨_,_,_,rfl,(SdIs.of (RatIs.nil _) (RatIs.nil _)),hE,Or.inr ⟨rfl,rdS_no1 ha⟩⟩
 ·refine xc 92 [.string a] 13 (fun x:ShQ=>.tuple #[shRat x, .bool true]) _ (fun w hE hΦ=>(Read_any a _ hΦ (ReadOk.of_len (by omega))).mono (fun _ _ h=>post_Read_some h ha)) (fun X13=>?_)
  refine xr 6 [(1, .p 1 0),(2, .p 2 0),(3, .v (.bool false)),(4, .p 4 0),(5, .v (.bool true))] [bQ 4 116 X13,bW 2 120 nQ nQ 0,bS3 1 23 a b d] ?_
  refine xe (sx_next (sx_seq (sx_region (xr 2 [(1, .p 1 0),(2, .p 2 0),(3, .v (.bool false)),(4, .p 4 0),(5, .v (.bool true)),(18, .v (.string b))] [bQ 4 116 X13,bW 2 120 nQ nQ 0,bS3 1 23 a b d] ?_))))
  rcases opt_two (readF (bytes b)) with hb | ⟨qb,hb⟩
  ·refine xc 92 [.string b] 19 (fun x:ShQ=>.tuple #[shRat x, .bool false]) _ (fun w hE hΦ=>(Read_any b _ hΦ.1 (ReadOk.of_len (by omega))).mono (fun _ _ h=>post_Read_none h hb)) (fun X14=>?_)
   refine xr 6 [(1, .p 1 0),(2, .p 2 0),(3, .v (.bool false)),(4, .p 4 0),(5, .v (.bool true)),(6, .p 6 0),(7, .v (.bool false))] [bQ 6 116 X14,bQ 4 116 X13,bW 2 120 nQ nQ 0,bS3 1 23 a b d] ?_
   refine xe (sx_next (sx_seq (sx_seq (sx_region (xr 6 [(1, .p 1 0),(2, .p 2 0),(3, .v (.bool false)),(4, .p 4 0),(6, .p 6 0),(27, .v (.bool true))] [bQ 6 116 X14,bQ 4 116 X13,bW 2 120 nQ nQ 0,bS3 1 23 a b d] ?_)))))
   refine xe (sx_next (xa (sx_seq (sx_region (xr 3 [(1, .p 1 0),(2, .p 2 0),(3, .v (.bool false)),(4, .p 4 0),(6, .p 6 0)] [bQ 6 116 X14,bQ 4 116 X13,bW 2 120 nQ nQ 0,bS3 1 23 a b d] ?_)))))
   refine xe (sx_next (sx_ret (sx_then_ret ?_)))
   refine sx_done (v:=.tuple #[.agg #[.bool false, .slice none 0 0, .bool false, .slice none 0 0, .bool false, .slice none 0 0, .bool false, .slice none 0 0, .int .i64 0], .bool false]) (by kernel_rfl) (fun w' hE hΦ=>?_)
   exact ⟨_,_,_,rfl,(SdIs.of (RatIs.nil _) (RatIs.nil _)),hE,Or.inr ⟨rfl,rdS_no2 hb⟩⟩
  ·refine xc 92 [.string b] 19 (fun x:ShQ=>.tuple #[shRat x, .bool true]) _ (fun w hE hΦ=>(Read_any b _ hΦ.1 (ReadOk.of_len (by omega))).mono (fun _ _ h=>post_Read_some h hb)) (fun X15=>?_)
   refine xr 6 [(1, .p 1 0),(2, .p 2 0),(3, .v (.bool false)),(4, .p 4 0),(5, .v (.bool true)),(6, .p 6 0),(7, .v (.bool true))] [bQ 6 116 X15,bQ 4 116 X13,bW 2 120 nQ nQ 0,bS3 1 23 a b d] ?_
   refine xe (sx_next (sx_seq (sx_seq (sx_region (xr 6 [(1, .p 1 0),(2, .p 2 0),(3, .v (.bool false)),(4, .p 4 0),(6, .p 6 0),(27, .v (.bool false))] [bQ 6 116 X15,bQ 4 116 X13,bW 2 120 nQ nQ 0,bS3 1 23 a b d] ?_)))))
   refine xe (sx_next (xb (sx_skip (sx_next (sx_seq (sx_seq (sx_region (xr 3 [(1, .p 1 0),(2, .p 2 0),(3, .v (.bool false)),(4, .p 4 0),(6, .p 6 0),(31, .v (.bool ((d:Int) == 1)))] [bQ 6 116 X15,bQ 4 116 X13,bW 2 120 nQ nQ 0,bS3 1 23 a b d] ?_))))))))
   refine xe (sx_next ?_)
   refine sx_cond (((d:Int) == 1)) (by kernel_rfl) (fun hb16=>?_) (fun hb16=>?_)
   ·refine sx_seq ?_
    refine sx_draw 6 (by kernel_rfl) (by kernel_rfl) follows_mixed' ?_
    refine xf 1 [(1, .p 1 0),(2, .p 2 0),(3, .v (.bool false)),(4, .p 4 0),(6, .p 6 0),eQ 32 X13] [bQ 6 116 X15,bQ 4 116 X13,bW 2 120 nQ nQ 0,bS3 1 23 a b d] ?_
    refine xd 93 [vQ X13] 33 (shSd 1) _ (fun w hE hΦ=>(SRat_any _ qa _ hΦ.1.2).mono (fun _ _ h=>post_Sd h)) (fun xx=>?_)
    obtain ⟨X17,X18⟩:=xx
    refine xf 1 [(1, .p 1 0),(2, .p 2 0),(3, .v (.bool false)),(4, .p 4 0),(6, .p 6 0),eW 33 X17 X18 1,eQ 34 X15] [bQ 6 116 X15,bQ 4 116 X13,bW 2 120 nQ nQ 0,bS3 1 23 a b d] ?_
    by_cases hzqb:qb.num=0
    ·refine xd 192 [vQ X15] 35 (fun _:Unit=>.bool true) _ (fun w hE hΦ=>(QIsZero_any _ qb _ hΦ.1.2).mono (fun _ _ h=>post_val h (by rw [decide_eq_true hzqb]))) (fun xx=>?_)
     refine xf 2 [(1, .p 1 0),(2, .p 2 0),(3, .v (.bool true)),(4, .p 4 0),(6, .p 6 0)] [bW 2 120 X17 X18 1,bQ 6 116 X15,bQ 4 116 X13,bW 2 120 nQ nQ 0,bS3 1 23 a b d] ?_
     refine xz (xe (sx_next (sx_ret (sx_then_ret ?_))))
     refine sx_done (v:=.tuple #[vW X17 X18 1, .bool true]) (by kernel_rfl) (fun w' hE hΦ=>?_)
     exact ⟨_,_,_,rfl,(SdIs.of hΦ.1.2.1 hΦ.1.2.2),hE,Or.inl ⟨rfl,rd_one ha hb hb16 hzqb⟩⟩
    ·refine xd 192 [vQ X15] 35 (fun _:Unit=>.bool false) _ (fun w hE hΦ=>(QIsZero_any _ qb _ hΦ.1.2).mono (fun _ _ h=>post_val h (by rw [decide_eq_false hzqb]))) (fun xx=>?_)
     refine xf 2 [(1, .p 1 0),(2, .p 2 0),(3, .v (.bool false)),(4, .p 4 0),(6, .p 6 0)] [bW 2 120 X17 X18 1,bQ 6 116 X15,bQ 4 116 X13,bW 2 120 nQ nQ 0,bS3 1 23 a b d] ?_
     refine xz (xe (sx_next (sx_ret (sx_then_ret ?_))))
     refine sx_done (v:=.tuple #[vW X17 X18 1, .bool false]) (by kernel_rfl) (fun w' hE hΦ=>?_)
     exact ⟨_,_,_,rfl,(SdIs.of hΦ.1.2.1 hΦ.1.2.2),hE,Or.inr ⟨rfl,rd_one_no ha hb hb16 hzqb⟩⟩
   ·refine sx_skip (sx_next (sx_seq (sx_seq (sx_region (xr 4 [(1, .p 1 0),(2, .p 2 0),(3, .v (.bool false)),(4, .p 4 0),(6, .p 6 0),(39, .v (.bool (decide (d < 2))))] [bQ 6 116 X15,bQ 4 116 X13,bW 2 120 nQ nQ 0,bS3 1 23 a b d] ?_)))))
    rcases bool2 ((decide (d < 2))) with hb19 | hb19
    ·rw [hb19]
     have thb19:=of_decide_eq_true hb19
     refine xr 8 [(1, .p 1 0),(2, .p 2 0),(3, .v (.bool false)),(4, .p 4 0),(6, .p 6 0),(47, .v (.bool true))] [bQ 6 116 X15,bQ 4 116 X13,bW 2 120 nQ nQ 0,bS3 1 23 a b d] ?_
     refine xe (sx_next (xa (sx_seq (sx_region (xr 3 [(1, .p 1 0),(2, .p 2 0),(3, .v (.bool false)),(4, .p 4 0),(6, .p 6 0)] [bQ 6 116 X15,bQ 4 116 X13,bW 2 120 nQ nQ 0,bS3 1 23 a b d] ?_)))))
     refine xe (sx_next (sx_ret (sx_then_ret ?_)))
     refine sx_done (v:=.tuple #[.agg #[.bool false, .slice none 0 0, .bool false, .slice none 0 0, .bool false, .slice none 0 0, .bool false, .slice none 0 0, .int .i64 0], .bool false]) (by kernel_rfl) (fun w' hE hΦ=>?_)
     exact ⟨_,_,_,rfl,(SdIs.of (RatIs.nil _) (RatIs.nil _)),hE,Or.inr ⟨rfl,rd_out ha hb hb16 (by omega)⟩⟩
    ·rw [hb19]
     have thb19:=of_decide_eq_false hb19
     refine xr 5 [(1, .p 1 0),(2, .p 2 0),(3, .v (.bool false)),(4, .p 4 0),(6, .p 6 0),(44, .v (.bool (decide (d > 1000000))))] [bQ 6 116 X15,bQ 4 116 X13,bW 2 120 nQ nQ 0,bS3 1 23 a b d] ?_
     rcases bool2 ((decide (d > 1000000))) with hb20 | hb20
     ·rw [hb20]
      have thb20:=of_decide_eq_true hb20
      refine xr 3 [(1, .p 1 0),(2, .p 2 0),(3, .v (.bool false)),(4, .p 4 0),(6, .p 6 0),(47, .v (.bool true))] [bQ 6 116 X15,bQ 4 116 X13,bW 2 120 nQ nQ 0,bS3 1 23 a b d] ?_
      refine xe (sx_next (xa (sx_seq (sx_region (xr 3 [(1, .p 1 0),(2, .p 2 0),(3, .v (.bool false)),(4, .p 4 0),(6, .p 6 0)] [bQ 6 116 X15,bQ 4 116 X13,bW 2 120 nQ nQ 0,bS3 1 23 a b d] ?_)))))
      refine xe (sx_next (sx_ret (sx_then_ret ?_)))
      refine sx_done (v:=.tuple #[.agg #[.bool false, .slice none 0 0, .bool false, .slice none 0 0, .bool false, .slice none 0 0, .bool false, .slice none 0 0, .int .i64 0], .bool false]) (by kernel_rfl) (fun w' hE hΦ=>?_)
      exact ⟨_,_,_,rfl,(SdIs.of (RatIs.nil _) (RatIs.nil _)),hE,Or.inr ⟨rfl,rd_out ha hb hb16 (by omega)⟩⟩
     ·rw [hb20]
      have thb20:=of_decide_eq_false hb20
      refine xr 1 [(1, .p 1 0),(2, .p 2 0),(3, .v (.bool false)),(4, .p 4 0),(6, .p 6 0),(44, .v (.bool false)),eQ 45 X15] [bQ 6 116 X15,bQ 4 116 X13,bW 2 120 nQ nQ 0,bS3 1 23 a b d] ?_
      by_cases hzqb:qb.num=0
      ·refine xc 192 [vQ X15] 46 (fun _:Unit=>.bool true) _ (fun w hE hΦ=>(QIsZero_any _ qb _ hΦ.2).mono (fun _ _ h=>post_val h (by rw [decide_eq_true hzqb]))) (fun xx=>?_)
       refine xr 1 [(1, .p 1 0),(2, .p 2 0),(3, .v (.bool false)),(4, .p 4 0),(6, .p 6 0),(47, .v (.bool true))] [bQ 6 116 X15,bQ 4 116 X13,bW 2 120 nQ nQ 0,bS3 1 23 a b d] ?_
       refine xe (sx_next (xa (sx_seq (sx_region (xr 3 [(1, .p 1 0),(2, .p 2 0),(3, .v (.bool false)),(4, .p 4 0),(6, .p 6 0)] [bQ 6 116 X15,bQ 4 116 X13,bW 2 120 nQ nQ 0,bS3 1 23 a b d] ?_)))))
       refine xe (sx_next (sx_ret (sx_then_ret ?_)))
       refine sx_done (v:=.tuple #[.agg #[.bool false, .slice none 0 0, .bool false, .slice none 0 0, .bool false, .slice none 0 0, .bool false, .slice none 0 0, .int .i64 0], .bool false]) (by kernel_rfl) (fun w' hE hΦ=>?_)
       exact ⟨_,_,_,rfl,(SdIs.of (RatIs.nil _) (RatIs.nil _)),hE,Or.inr ⟨rfl,rd_out ha hb hb16 (Or.inr (Or.inr (Or.inl hzqb)))⟩⟩
      ·refine xc 192 [vQ X15] 46 (fun _:Unit=>.bool false) _ (fun w hE hΦ=>(QIsZero_any _ qb _ hΦ.2).mono (fun _ _ h=>post_val h (by rw [decide_eq_false hzqb]))) (fun xx=>?_)
       refine xr 1 [(1, .p 1 0),(2, .p 2 0),(3, .v (.bool false)),(4, .p 4 0),(6, .p 6 0),(47, .v (.bool false))] [bQ 6 116 X15,bQ 4 116 X13,bW 2 120 nQ nQ 0,bS3 1 23 a b d] ?_
       refine xe (sx_next (xb (sx_skip (sx_next (sx_seq (sx_seq (sx_region (xr 2 [(1, .p 1 0),(2, .p 2 0),(3, .v (.bool false)),(4, .p 4 0),(6, .p 6 0),(51, .v (.int .i64 d))] [bQ 6 116 X15,bQ 4 116 X13,bW 2 120 nQ nQ 0,bS3 1 23 a b d] ?_))))))))
       obtain ⟨R,M,hS⟩:=sqf_exists _ (d).toNat (Nat.le_refl _) (by omega)
       refine xc 95 [.int .i64 d] 52 (fun _:Unit=>.tuple #[.int .i64 ((R:Nat):Int), .int .i64 ((M:Nat):Int)]) _ (fun w hE hΦ=>(squareFactor_int d R M _ (by omega) (by omega) hS).mono (fun _ _ h=>post_val h rfl)) (fun xx=>?_)
       refine xr 5 [(1, .p 1 0),(2, .p 2 0),(3, .v (.bool false)),(4, .p 4 0),(6, .p 6 0),(8, .v (.int .i64 ((R:Nat):Int)))] [bQ 6 116 X15,bQ 4 116 X13,bW 2 120 nQ nQ 0,bS3 1 23 a b d] ?_
       refine xe (sx_next (sx_seq (sx_region (xr 2 [(1, .p 1 0),(2, .p 2 0),(3, .v (.bool false)),(4, .p 4 0),(6, .p 6 0),(56, .v (.bool ((((R:Nat):Int):Int) != 1)))] [bQ 6 116 X15,bQ 4 116 X13,bW 2 120 nQ nQ 0,bS3 1 23 a b d] ?_))))
       refine xe (sx_next ?_)
       refine sx_cond (((((R:Nat):Int):Int) != 1)) (by kernel_rfl) (fun hb21=>?_) (fun hb21=>?_)
       ·refine sx_seq (sx_region (xr 3 [(1, .p 1 0),(2, .p 2 0),(3, .v (.bool false)),(4, .p 4 0),(6, .p 6 0)] [bQ 6 116 X15,bQ 4 116 X13,bW 2 120 nQ nQ 0,bS3 1 23 a b d] ?_))
        refine xe (sx_next (sx_ret (sx_then_ret ?_)))
        refine sx_done (v:=.tuple #[.agg #[.bool false, .slice none 0 0, .bool false, .slice none 0 0, .bool false, .slice none 0 0, .bool false, .slice none 0 0, .int .i64 0], .bool false]) (by kernel_rfl) (fun w' hE hΦ=>?_)
        exact ⟨_,_,_,rfl,(SdIs.of (RatIs.nil _) (RatIs.nil _)),hE,Or.inr ⟨rfl,rd_out ha hb hb16 (Or.inr (Or.inr (Or.inr (ne1_t hS hb21))))⟩⟩
       ·refine sx_skip (sx_next (sx_seq (sx_region (xr 7 [(2, .p 2 0),(3, .v (.bool true))] [bW 2 120 X13 X15 d] ?_))))
        refine xe (sx_next (sx_ret ?_))
        refine sx_done (v:=.tuple #[vW X13 X15 d, .bool true]) (by kernel_rfl) (fun w' hE hΦ=>?_)
        exact ⟨_,_,_,rfl,(SdIs.of hΦ.1.1.1.2 hΦ.1.1.2),hE,Or.inl ⟨rfl,rd_in ha hb (by omega) (by omega) hzqb (ne1_f hS hb21)⟩⟩
set_option maxRecDepth 100000 in
theorem SValid_any (a b:ByteArray) (d:Int) (w:World) (hg:Glob w) (L:(bytes a).length≤570∧(bytes b).length≤570) :
 Calls Tryz.prog 20 #[.agg #[.string a, .string b, .int .i64 d]] w (RetV w (.bool (rdS (bytes a) (bytes b) d).isSome)):=by
 refine sx_enter (Φ:=fun w=>Glob w) Tryz.func20 rfl (by kernel_rfl) (fun w' hf=>hg.ext hf) ?_
 refine sx_seq (sx_region (xr 2 [(1, .p 1 0),(2, .v (.bool false))] [bS3 1 23 a b d] ?_))
 refine xe (sx_next (sx_seq (sx_region (xr 1 [(2, .v (.bool false)),eS3 6 a b d] [] ?_))))
 rcases opt_two (rdS (bytes a) (bytes b) d) with hx | ⟨x,hx⟩
 ·refine xc 102 [vS3 a b d] 7 (fun u0:Int × ShS=>.tuple #[shSd u0.1 u0.2, .bool false]) _ (fun w hE hΦ=>(SRead_any a b d _ hΦ L).mono (fun _ _ h=>post_Rd_none h hx)) (fun xx=>?_)
  obtain ⟨d12d,X10,X11⟩:=xx
  refine xr 6 [(2, .v (.bool false)),(4, .v (.bool false))] [] ?_
  refine xe (sx_next (sx_seq (sx_region (xr 2 [(2, .v (.bool false))] [] ?_))))
  refine xe (sx_next (sx_ret ?_))
  refine sx_done (v:=.bool false) (by kernel_rfl) (fun w' hE hΦ=>?_)
  exact ⟨by rw [hx]; rfl,hE⟩
 ·refine xc 102 [vS3 a b d] 7 (fun u0:ShS=>.tuple #[shSd x.d u0, .bool true]) _ (fun w hE hΦ=>(SRead_any a b d _ hΦ L).mono (fun _ _ h=>post_Rd_some h hx)) (fun xx=>?_)
  obtain ⟨X13,X14⟩:=xx
  refine xr 6 [(2, .v (.bool false)),(4, .v (.bool true))] [] ?_
  refine xe (sx_next (sx_seq (sx_region (xr 2 [(2, .v (.bool true))] [] ?_))))
  refine xe (sx_next (sx_ret ?_))
  refine sx_done (v:=.bool true) (by kernel_rfl) (fun w' hE hΦ=>?_)
  exact ⟨by rw [hx]; rfl,hE⟩
set_option maxRecDepth 100000 in
theorem SMake_any (a b:ByteArray) (d:Int) (w:World) (hg:Glob w) (L:(bytes a).length≤570∧(bytes b).length≤570) {j:Nat} (Za:∀ q,readF (bytes a)=some q→Dq q j) (Zb:∀ q,readF (bytes b)=some q→Dq q j) (hj:j≤350) (R M:Nat) (HS:0 < d→d≤1000000→SqF d.toNat R M) :
 Calls Tryz.prog 18 #[.string a, .string b, .int .i64 d] w (RetV w (mkV (bytes a) (bytes b) d R M)):=by
 refine sx_enter (Φ:=fun w=>Glob w) Tryz.func18 rfl (by kernel_rfl) (fun w' hf=>hg.ext hf) ?_
 refine sx_seq (sx_region (xr 2 [(0, .v (.string a)),(1, .v (.string b)),(2, .v (.int .i64 d)),(6, .p 6 0),(7, .v (.int .i64 0))] [bS3 6 23 ⟨#[]⟩ ⟨#[]⟩ 0] ?_))
 refine xe (sx_next (sx_seq (sx_region (xr 1 [(1, .v (.string b)),(2, .v (.int .i64 d)),(6, .p 6 0),(7, .v (.int .i64 0)),(15, .v (.string a))] [bS3 6 23 ⟨#[]⟩ ⟨#[]⟩ 0] ?_))))
 rcases opt_two (readF (bytes a)) with ha | ⟨qa,ha⟩
 ·refine xc 92 [.string a] 16 (fun x:ShQ=>.tuple #[shRat x, .bool false]) _ (fun w hE hΦ=>(Read_any a _ hΦ (ReadOk.of_len (by omega))).mono (fun _ _ h=>post_Read_none h ha)) (fun X10=>?_)
  refine xr 6 [(1, .v (.string b)),(2, .v (.int .i64 d)),(6, .p 6 0),(7, .v (.int .i64 0)),(8, .p 8 0),(9, .v (.bool false))] [bQ 8 116 X10,bS3 6 23 ⟨#[]⟩ ⟨#[]⟩ 0] ?_
  refine xe (sx_next (sx_seq (sx_region (xr 1 [(2, .v (.int .i64 d)),(6, .p 6 0),(7, .v (.int .i64 0)),(8, .p 8 0),(9, .v (.bool false)),(20, .v (.string b))] [bQ 8 116 X10,bS3 6 23 ⟨#[]⟩ ⟨#[]⟩ 0] ?_))))
  refine xc 92 [.string b] 21 (fun u0:Bool × ShQ=>.tuple #[shRat u0.2, .bool u0.1]) _ (fun w hE hΦ=>(Read_any b _ hΦ.1 (ReadOk.of_len (by omega))).mono (fun _ _ h=>post_Read_gen h)) (fun xx=>?_)
  obtain ⟨b12,X11⟩:=xx
  refine xr 6 [(2, .v (.int .i64 d)),(6, .p 6 0),(7, .v (.int .i64 0)),(8, .p 8 0),(9, .v (.bool false)),(10, .p 10 0),(11, .v (.bool b12))] [bQ 10 116 X11,bQ 8 116 X10,bS3 6 23 ⟨#[]⟩ ⟨#[]⟩ 0] ?_
  refine xe (sx_next (sx_seq (sx_block (sx_seq (sx_region (xr 7 [(2, .v (.int .i64 d)),(6, .p 6 0),(7, .v (.int .i64 0)),(8, .p 8 0),(10, .p 10 0),(24, .v (.bool true))] [bQ 10 116 X11,bQ 8 116 X10,bS3 6 23 ⟨#[]⟩ ⟨#[]⟩ 0] ?_))))))
  refine xe (sx_next (xa (sx_seq (sx_region (xr 3 [(2, .v (.int .i64 d)),(6, .p 6 0),(7, .v (.int .i64 1)),(8, .p 8 0),(10, .p 10 0)] [bQ 10 116 X11,bQ 8 116 X10,bS3 6 23 ⟨#[]⟩ ⟨#[]⟩ 0] ?_)))))
  refine xe (sx_next (sx_ret (sx_in_ret (sx_then_ret ?_))))
  refine sx_done (v:=.tuple #[.agg #[.string ⟨#[]⟩, .string ⟨#[]⟩, .int .i64 0], .int .i64 1]) (by kernel_rfl) (fun w' hE hΦ=>?_)
  exact ⟨by rw [mkV_bad1 ha],hE⟩
 ·have za:=Za _ ha
  refine xc 92 [.string a] 16 (fun x:ShQ=>.tuple #[shRat x, .bool true]) _ (fun w hE hΦ=>(Read_any a _ hΦ (ReadOk.of_len (by omega))).mono (fun _ _ h=>post_Read_some h ha)) (fun X13=>?_)
  refine xr 6 [(1, .v (.string b)),(2, .v (.int .i64 d)),(6, .p 6 0),(7, .v (.int .i64 0)),(8, .p 8 0),(9, .v (.bool true))] [bQ 8 116 X13,bS3 6 23 ⟨#[]⟩ ⟨#[]⟩ 0] ?_
  refine xe (sx_next (sx_seq (sx_region (xr 1 [(2, .v (.int .i64 d)),(6, .p 6 0),(7, .v (.int .i64 0)),(8, .p 8 0),(9, .v (.bool true)),(20, .v (.string b))] [bQ 8 116 X13,bS3 6 23 ⟨#[]⟩ ⟨#[]⟩ 0] ?_))))
  rcases opt_two (readF (bytes b)) with hb | ⟨qb,hb⟩
  ·refine xc 92 [.string b] 21 (fun x:ShQ=>.tuple #[shRat x, .bool false]) _ (fun w hE hΦ=>(Read_any b _ hΦ.1 (ReadOk.of_len (by omega))).mono (fun _ _ h=>post_Read_none h hb)) (fun X14=>?_)
   refine xr 6 [(2, .v (.int .i64 d)),(6, .p 6 0),(7, .v (.int .i64 0)),(8, .p 8 0),(9, .v (.bool true)),(10, .p 10 0),(11, .v (.bool false))] [bQ 10 116 X14,bQ 8 116 X13,bS3 6 23 ⟨#[]⟩ ⟨#[]⟩ 0] ?_
   refine xe (sx_next (sx_seq (sx_block (sx_seq (sx_region (xr 7 [(2, .v (.int .i64 d)),(6, .p 6 0),(7, .v (.int .i64 0)),(8, .p 8 0),(10, .p 10 0),(24, .v (.bool true))] [bQ 10 116 X14,bQ 8 116 X13,bS3 6 23 ⟨#[]⟩ ⟨#[]⟩ 0] ?_))))))
   refine xe (sx_next (xa (sx_seq (sx_region (xr 3 [(2, .v (.int .i64 d)),(6, .p 6 0),(7, .v (.int .i64 1)),(8, .p 8 0),(10, .p 10 0)] [bQ 10 116 X14,bQ 8 116 X13,bS3 6 23 ⟨#[]⟩ ⟨#[]⟩ 0] ?_)))))
   refine xe (sx_next (sx_ret (sx_in_ret (sx_then_ret ?_))))
   refine sx_done (v:=.tuple #[.agg #[.string ⟨#[]⟩, .string ⟨#[]⟩, .int .i64 0], .int .i64 1]) (by kernel_rfl) (fun w' hE hΦ=>?_)
   exact ⟨by rw [mkV_bad2 hb],hE⟩
  ·have zb:=Zb _ hb
   refine xc 92 [.string b] 21 (fun x:ShQ=>.tuple #[shRat x, .bool true]) _ (fun w hE hΦ=>(Read_any b _ hΦ.1 (ReadOk.of_len (by omega))).mono (fun _ _ h=>post_Read_some h hb)) (fun X15=>?_)
   refine xr 6 [(2, .v (.int .i64 d)),(6, .p 6 0),(7, .v (.int .i64 0)),(8, .p 8 0),(9, .v (.bool true)),(10, .p 10 0),(11, .v (.bool true))] [bQ 10 116 X15,bQ 8 116 X13,bS3 6 23 ⟨#[]⟩ ⟨#[]⟩ 0] ?_
   refine xe (sx_next (sx_seq (sx_block (sx_seq (sx_region (xr 7 [(2, .v (.int .i64 d)),(6, .p 6 0),(7, .v (.int .i64 0)),(8, .p 8 0),(10, .p 10 0),(24, .v (.bool false))] [bQ 10 116 X15,bQ 8 116 X13,bS3 6 23 ⟨#[]⟩ ⟨#[]⟩ 0] ?_))))))
   refine xe (sx_next (xb (sx_seq (sx_region (xr 3 [(2, .v (.int .i64 d)),(6, .p 6 0),(7, .v (.int .i64 0)),(8, .p 8 0),(10, .p 10 0),(35, .v (.bool (decide (d < 0))))] [bQ 10 116 X15,bQ 8 116 X13,bS3 6 23 ⟨#[]⟩ ⟨#[]⟩ 0] ?_)))))
   rcases bool2 ((decide (d < 0))) with hb16 | hb16
   ·rw [hb16]
    have thb16:=of_decide_eq_true hb16
    refine xr 4 [(2, .v (.int .i64 d)),(6, .p 6 0),(7, .v (.int .i64 0)),(8, .p 8 0),(10, .p 10 0),(32, .v (.bool true))] [bQ 10 116 X15,bQ 8 116 X13,bS3 6 23 ⟨#[]⟩ ⟨#[]⟩ 0] ?_
    refine xe (sx_next (xa (sx_seq (sx_region (xr 3 [(2, .v (.int .i64 d)),(6, .p 6 0),(7, .v (.int .i64 3)),(8, .p 8 0),(10, .p 10 0)] [bQ 10 116 X15,bQ 8 116 X13,bS3 6 23 ⟨#[]⟩ ⟨#[]⟩ 0] ?_)))))
    refine xe (sx_next (sx_ret (sx_in_ret (sx_then_ret ?_))))
    refine sx_done (v:=.tuple #[.agg #[.string ⟨#[]⟩, .string ⟨#[]⟩, .int .i64 0], .int .i64 3]) (by kernel_rfl) (fun w' hE hΦ=>?_)
    exact ⟨by rw [mkV_range ha hb (by omega)],hE⟩
   ·rw [hb16]
    have thb16:=of_decide_eq_false hb16
    refine xr 4 [(2, .v (.int .i64 d)),(6, .p 6 0),(7, .v (.int .i64 0)),(8, .p 8 0),(10, .p 10 0),(32, .v (.bool (decide (d > 1000000))))] [bQ 10 116 X15,bQ 8 116 X13,bS3 6 23 ⟨#[]⟩ ⟨#[]⟩ 0] ?_
    refine xe (sx_next ?_)
    refine sx_cond ((decide (d > 1000000))) (by kernel_rfl) (fun hb17=>?_) (fun hb17=>?_)
    ·have thb17:=of_decide_eq_true hb17
     refine sx_seq (sx_region (xr 3 [(2, .v (.int .i64 d)),(6, .p 6 0),(7, .v (.int .i64 3)),(8, .p 8 0),(10, .p 10 0)] [bQ 10 116 X15,bQ 8 116 X13,bS3 6 23 ⟨#[]⟩ ⟨#[]⟩ 0] ?_))
     refine xe (sx_next (sx_ret (sx_in_ret (sx_then_ret ?_))))
     refine sx_done (v:=.tuple #[.agg #[.string ⟨#[]⟩, .string ⟨#[]⟩, .int .i64 0], .int .i64 3]) (by kernel_rfl) (fun w' hE hΦ=>?_)
     exact ⟨by rw [mkV_range ha hb (by omega)],hE⟩
    ·have thb17:=of_decide_eq_false hb17
     refine sx_seq (sx_region (xr 3 [(2, .v (.int .i64 d)),(6, .p 6 0),(7, .v (.int .i64 0)),(8, .p 8 0),(10, .p 10 0),(40, .v (.bool ((d:Int) == 0)))] [bQ 10 116 X15,bQ 8 116 X13,bS3 6 23 ⟨#[]⟩ ⟨#[]⟩ 0] ?_))
     refine xe (sx_next ?_)
     refine sx_cond (((d:Int) == 0)) (by kernel_rfl) (fun hb18=>?_) (fun hb18=>?_)
     ·have thb18:=eq_of_beq hb18
      refine sx_seq (sx_region (xr 1 [(2, .v (.int .i64 d)),(6, .p 6 0),(7, .v (.int .i64 0)),(8, .p 8 0),(10, .p 10 0),eQ 43 X13] [bQ 10 116 X15,bQ 8 116 X13,bS3 6 23 ⟨#[]⟩ ⟨#[]⟩ 0] ?_))
      refine xc 93 [vQ X13] 44 (shSd 1) _ (fun w hE hΦ=>(SRat_any _ qa _ hΦ.1.2).mono (fun _ _ h=>post_Sd h)) (fun xx=>?_)
      obtain ⟨X19,X20⟩:=xx
      refine xr 0 [(2, .v (.int .i64 d)),(6, .p 6 0),(7, .v (.int .i64 0)),(8, .p 8 0),(10, .p 10 0),eW 44 X19 X20 1] [bQ 10 116 X15,bQ 8 116 X13,bS3 6 23 ⟨#[]⟩ ⟨#[]⟩ 0] ?_
      refine xc 94 [vW X19 X20 1] 45 (fun _:Unit=>vS3 ⟨(ratText qa).toArray⟩ ⟨(ratText 0).toArray⟩ 1) _ (fun w hE hΦ=>(SWrite_any _ ((⟨qa,0,1⟩:Sd)) _ hΦ.1.1.1 (SdIs.of hΦ.2.1 hΦ.2.2) (j:=(j + 1)) (Dq.up za (Nat.le_add_right _ _)) (Dq.up (Dq.zero (by decide)) (Nat.le_add_left _ _)) (by omega)).mono (fun _ _ h=>post_val h rfl)) (fun xx=>?_)
      refine xr 2 [(2, .v (.int .i64 d)),(6, .p 6 0),(7, .v (.int .i64 0)),(8, .p 8 0),(10, .p 10 0)] [bQ 10 116 X15,bQ 8 116 X13,bS3 6 23 ⟨(ratText qa).toArray⟩ ⟨(ratText 0).toArray⟩ 1] ?_
      refine xe (sx_next (sx_ret (sx_in_ret (sx_then_ret ?_))))
      refine sx_done (v:=.tuple #[.agg #[.string ⟨(ratText qa).toArray⟩, .string ⟨(ratText 0).toArray⟩, .int .i64 1], .int .i64 0]) (by kernel_rfl) (fun w' hE hΦ=>?_)
      exact ⟨by rw [mkV_zero ha hb (eq_of_beq hb18)],hE⟩
     ·have thb18:=beq_ne hb18
      refine sx_skip (sx_out (sx_next (sx_seq (sx_region (xr 1 [(6, .p 6 0),(7, .v (.int .i64 0)),(8, .p 8 0),(10, .p 10 0),(47, .v (.int .i64 d))] [bQ 10 116 X15,bQ 8 116 X13,bS3 6 23 ⟨#[]⟩ ⟨#[]⟩ 0] ?_)))))
      have hS:=HS (by omega) (by omega)
      have hR:=sqf_bound hS (by omega)
      have hR0:=hS.rpos
      have hM:=hS.le
      refine xc 95 [.int .i64 d] 48 (fun _:Unit=>.tuple #[.int .i64 ((R:Nat):Int), .int .i64 ((M:Nat):Int)]) _ (fun w hE hΦ=>(squareFactor_int d R M _ (by omega) (by omega) hS).mono (fun _ _ h=>post_val h rfl)) (fun xx=>?_)
      refine xr 5 [(6, .p 6 0),(7, .v (.int .i64 0)),(8, .p 8 0),(10, .p 10 0),(12, .v (.int .i64 ((R:Nat):Int))),(13, .v (.int .i64 ((M:Nat):Int)))] [bQ 10 116 X15,bQ 8 116 X13,bS3 6 23 ⟨#[]⟩ ⟨#[]⟩ 0] ?_
      refine xe (sx_next (sx_seq ?_))
      refine sx_draw 5 (by kernel_rfl) (by kernel_rfl) follows_mixed' ?_
      refine xf 2 [(6, .p 6 0),(7, .v (.int .i64 0)),(8, .p 8 0),(10, .p 10 0),(13, .v (.int .i64 ((M:Nat):Int))),eQ 51 X15,(52, .v (.int .i64 ((R:Nat):Int)))] [bQ 10 116 X15,bQ 8 116 X13,bS3 6 23 ⟨#[]⟩ ⟨#[]⟩ 0] ?_
      refine xd 97 [.int .i64 ((R:Nat):Int)] 53 shRat _ (fun w hE hΦ=>(Small_any (((R:Nat):Int)) _ (by omega) (by omega)).mono (fun _ _ h=>post_Rat h)) (fun X21=>?_)
      refine xf 0 [(6, .p 6 0),(7, .v (.int .i64 0)),(8, .p 8 0),(10, .p 10 0),(13, .v (.int .i64 ((M:Nat):Int))),eQ 51 X15,eQ 53 X21] [bQ 10 116 X15,bQ 8 116 X13,bS3 6 23 ⟨#[]⟩ ⟨#[]⟩ 0] ?_
      refine xd 96 [vQ X15,vQ X21] 54 shRat _ (fun w hE hΦ=>(QMul_any _ _ qb (((((R:Nat):Int):Int):Rat)) _ hΦ.1.1.1.1 hΦ.1.1.2 hΦ.2 (zb.fit (by omega)) ((Dq.int (d:=((R:Nat):Int)) (k:=4) (by rw [show (10:Nat) ^ 4=10000 by decide]; omega) (by decide)).fit (by omega))).mono (fun _ _ h=>post_Rat h)) (fun X22=>?_)
      refine xf 1 [(6, .p 6 0),(7, .v (.int .i64 0)),(8, .p 8 0),(10, .p 10 0),(13, .v (.int .i64 ((M:Nat):Int)))] [bQ 10 116 X22,bQ 10 116 X15,bQ 8 116 X13,bS3 6 23 ⟨#[]⟩ ⟨#[]⟩ 0] ?_
      refine xz (xe (sx_next (sx_seq (sx_seq (sx_region (xr 2 [(6, .p 6 0),(7, .v (.int .i64 0)),(8, .p 8 0),(10, .p 10 0),(13, .v (.int .i64 ((M:Nat):Int))),(56, .v (.bool ((((M:Nat):Int):Int) == 1)))] [bQ 10 116 X22,bQ 8 116 X13,bS3 6 23 ⟨#[]⟩ ⟨#[]⟩ 0] ?_))))))
      refine xe (sx_next ?_)
      refine sx_cond (((((M:Nat):Int):Int) == 1)) (by kernel_rfl) (fun hb23=>?_) (fun hb23=>?_)
      ·refine sx_seq (sx_region (xr 2 [(6, .p 6 0),(7, .v (.int .i64 0)),(8, .p 8 0),(10, .p 10 0),(13, .v (.int .i64 ((M:Nat):Int))),eQ 57 X13,eQ 58 X22] [bQ 10 116 X22,bQ 8 116 X13,bS3 6 23 ⟨#[]⟩ ⟨#[]⟩ 0] ?_))
       refine xc 98 [vQ X13,vQ X22] 59 shRat _ (fun w hE hΦ=>(QAdd_any _ _ qa (qb * (((((R:Nat):Int):Int):Rat))) _ hΦ.1.1.1.1.1 hΦ.1.1.1.1.2 hΦ.2 (za.fit (by omega)) ((zb.mul (Dq.int (d:=((R:Nat):Int)) (k:=4) (by rw [show (10:Nat) ^ 4=10000 by decide]; omega) (by decide))).fit (by omega))).mono (fun _ _ h=>post_Rat h)) (fun X24=>?_)
       refine xr 0 [(6, .p 6 0),(7, .v (.int .i64 0)),(8, .p 8 0),(10, .p 10 0),(13, .v (.int .i64 ((M:Nat):Int))),eQ 59 X24] [bQ 10 116 X22,bQ 8 116 X13,bS3 6 23 ⟨#[]⟩ ⟨#[]⟩ 0] ?_
       refine xc 93 [vQ X24] 60 (shSd 1) _ (fun w hE hΦ=>(SRat_any _ (qa + (qb * (((((R:Nat):Int):Int):Rat)))) _ hΦ.2).mono (fun _ _ h=>post_Sd h)) (fun xx=>?_)
       obtain ⟨X25,X26⟩:=xx
       refine xr 0 [(6, .p 6 0),(7, .v (.int .i64 0)),(8, .p 8 0),(10, .p 10 0),(13, .v (.int .i64 ((M:Nat):Int))),eW 60 X25 X26 1] [bQ 10 116 X22,bQ 8 116 X13,bS3 6 23 ⟨#[]⟩ ⟨#[]⟩ 0] ?_
       refine xc 94 [vW X25 X26 1] 61 (fun _:Unit=>.agg #[.string ⟨(ratText (qa + (qb * (((((R:Nat):Int):Int):Rat))))).toArray⟩, .string ⟨(ratText 0).toArray⟩, .int .i64 1]) _ (fun w hE hΦ=>(SWrite_any _ ((⟨qa + (qb * (((((R:Nat):Int):Int):Rat))),0,1⟩:Sd)) _ hΦ.1.1.1.1.1.1.1 (SdIs.of hΦ.2.1 hΦ.2.2) (j:=((j + (j + 4) + 1) + 1)) (Dq.up (za.add (zb.mul (Dq.int (d:=((R:Nat):Int)) (k:=4) (by rw [show (10:Nat) ^ 4=10000 by decide]; omega) (by decide)))) (Nat.le_add_right _ _)) (Dq.up (Dq.zero (by decide)) (Nat.le_add_left _ _)) (by omega)).mono (fun _ _ h=>post_val h rfl)) (fun xx=>?_)
       refine xr 2 [(6, .p 6 0),(7, .v (.int .i64 0)),(8, .p 8 0),(10, .p 10 0),(13, .v (.int .i64 ((M:Nat):Int)))] [bQ 10 116 X22,bQ 8 116 X13,(6,23,[.v (.string ⟨(ratText (qa + (qb * (((((R:Nat):Int):Int):Rat))))).toArray⟩), .v (.string ⟨(ratText 0).toArray⟩), .v (.int .i64 1)])] ?_
       refine xe (sx_next (sx_ret (sx_then_ret ?_)))
       refine sx_done (v:=.tuple #[.agg #[.string ⟨(ratText (qa + (qb * (((((R:Nat):Int):Int):Rat))))).toArray⟩, .string ⟨(ratText 0).toArray⟩, .int .i64 1], .int .i64 0]) (by kernel_rfl) (fun w' hE hΦ=>?_)
       exact ⟨by rw [mkV_ok ha hb (by omega) (by omega) (by omega),build_t hb23],hE⟩
      ·refine sx_skip (sx_next (sx_seq (sx_region (xr 3 [(6, .p 6 0),(7, .v (.int .i64 0)),eQ 62 X13,eQ 63 X22,(64, .v (.int .i64 ((M:Nat):Int)))] [bS3 6 23 ⟨#[]⟩ ⟨#[]⟩ 0] ?_))))
       refine xc 99 [vQ X13,vQ X22, .int .i64 ((M:Nat):Int)] 65 (shSd ((nv qa (qb * (((((R:Nat):Int):Int):Rat))) ((M:Nat):Int)).d)) _ (fun w hE hΦ=>(SNew_any _ _ qa (qb * (((((R:Nat):Int):Int):Rat))) ((M:Nat):Int) _ hΦ.1.1.1.1.2 hΦ.2).mono (fun _ _ h=>post_Sd h)) (fun xx=>?_)
       obtain ⟨⟨s27,A27,l27,c27,t27,B27,m27,d27⟩,⟨s28,A28,l28,c28,t28,B28,m28,d28⟩⟩:=xx
       refine xr 0 [(6, .p 6 0),(7, .v (.int .i64 0)),(65, .v (.agg #[.bool s27, .slice A27 l27 c27, .bool t27, .slice B27 m27 d27, .bool s28, .slice A28 l28 c28, .bool t28, .slice B28 m28 d28, .int .i64 ((nv qa (qb * (((((R:Nat):Int):Int):Rat))) ((M:Nat):Int)).d)]))] [bS3 6 23 ⟨#[]⟩ ⟨#[]⟩ 0] ?_
       refine xc 94 [.agg #[.bool s27, .slice A27 l27 c27, .bool t27, .slice B27 m27 d27, .bool s28, .slice A28 l28 c28, .bool t28, .slice B28 m28 d28, .int .i64 ((nv qa (qb * (((((R:Nat):Int):Int):Rat))) ((M:Nat):Int)).d)]] 66 (fun _:Unit=>.agg #[.string ⟨(ratText ((nv qa (qb * (((((R:Nat):Int):Int):Rat))) ((M:Nat):Int)).a)).toArray⟩, .string ⟨(ratText ((nv qa (qb * (((((R:Nat):Int):Int):Rat))) ((M:Nat):Int)).b)).toArray⟩, .int .i64 ((nv qa (qb * (((((R:Nat):Int):Int):Rat))) ((M:Nat):Int)).d)]) _ (fun w hE hΦ=>(SWrite_any _ (nv qa (qb * (((((R:Nat):Int):Int):Rat))) ((M:Nat):Int)) _ hΦ.1.1.1.1.1.1 (SdIs.of hΦ.2.1 hΦ.2.2) (j:=(j + (j + 4))) (nv_sz (Dq.up za (Nat.le_add_right _ _)) (Dq.up (zb.mul (Dq.int (d:=((R:Nat):Int)) (k:=4) (by rw [show (10:Nat) ^ 4=10000 by decide]; omega) (by decide))) (Nat.le_add_left _ _)) (by omega) (by omega)).a (nv_sz (Dq.up za (Nat.le_add_right _ _)) (Dq.up (zb.mul (Dq.int (d:=((R:Nat):Int)) (k:=4) (by rw [show (10:Nat) ^ 4=10000 by decide]; omega) (by decide))) (Nat.le_add_left _ _)) (by omega) (by omega)).b (by omega)).mono (fun _ _ h=>post_val h rfl)) (fun xx=>?_)
       refine xr 2 [(6, .p 6 0),(7, .v (.int .i64 0))] [(6,23,[.v (.string ⟨(ratText ((nv qa (qb * (((((R:Nat):Int):Int):Rat))) ((M:Nat):Int)).a)).toArray⟩), .v (.string ⟨(ratText ((nv qa (qb * (((((R:Nat):Int):Int):Rat))) ((M:Nat):Int)).b)).toArray⟩), .v (.int .i64 ((nv qa (qb * (((((R:Nat):Int):Int):Rat))) ((M:Nat):Int)).d))])] ?_
       refine xe (sx_next (sx_ret ?_))
       refine sx_done (v:=.tuple #[.agg #[.string ⟨(ratText ((nv qa (qb * (((((R:Nat):Int):Int):Rat))) ((M:Nat):Int)).a)).toArray⟩, .string ⟨(ratText ((nv qa (qb * (((((R:Nat):Int):Int):Rat))) ((M:Nat):Int)).b)).toArray⟩, .int .i64 ((nv qa (qb * (((((R:Nat):Int):Int):Rat))) ((M:Nat):Int)).d)], .int .i64 0]) (by kernel_rfl) (fun w' hE hΦ=>?_)
       exact ⟨by rw [mkV_ok ha hb (by omega) (by omega) (by omega),build_f hb23],hE⟩
set_option maxRecDepth 100000 in
theorem SReadTwo_any (a b a' b':ByteArray) (d d':Int) (w:World) (hg:Glob w) (L:(bytes a).length≤570∧(bytes b).length≤570) (L':(bytes a').length≤570∧(bytes b').length≤570) :
 Calls Tryz.prog 115 #[.agg #[.string a, .string b, .int .i64 d], .agg #[.string a', .string b', .int .i64 d']] w (RetRd2 w (rdS (bytes a) (bytes b) d) (rdS (bytes a') (bytes b') d')):=by
 refine sx_enter (Φ:=fun w=>Glob w) Tryz.func115 rfl (by kernel_rfl) (fun w' hf=>hg.ext hf) ?_
 refine sx_seq (sx_region (xr 5 [(2, .p 2 0),(3, .p 3 0),(4, .p 4 0),(5, .p 5 0),(6, .v (.int .i64 0))] [bW 5 120 nQ nQ 0,bW 4 120 nQ nQ 0,bS3 3 23 a' b' d',bS3 2 23 a b d] ?_))
 refine xe (sx_next (sx_seq (sx_region (xr 1 [(3, .p 3 0),(4, .p 4 0),(5, .p 5 0),(6, .v (.int .i64 0)),eS3 12 a b d] [bW 5 120 nQ nQ 0,bW 4 120 nQ nQ 0,bS3 3 23 a' b' d'] ?_))))
 rcases opt_two (rdS (bytes a) (bytes b) d) with hx | ⟨x,hx⟩
 ·refine xc 102 [vS3 a b d] 13 (fun u0:Int × ShS=>.tuple #[shSd u0.1 u0.2, .bool false]) _ (fun w hE hΦ=>(SRead_any a b d _ hΦ L).mono (fun _ _ h=>post_Rd_none h hx)) (fun xx=>?_)
  obtain ⟨d12d,X10,X11⟩:=xx
  refine xr 6 [(3, .p 3 0),(4, .p 4 0),(5, .p 5 0),(6, .v (.int .i64 0)),(7, .p 7 0),(8, .v (.bool false))] [bW 7 120 X10 X11 d12d,bW 5 120 nQ nQ 0,bW 4 120 nQ nQ 0,bS3 3 23 a' b' d'] ?_
  refine xe (sx_next (sx_seq (sx_region (xr 1 [(4, .p 4 0),(5, .p 5 0),(6, .v (.int .i64 0)),(7, .p 7 0),(8, .v (.bool false)),eS3 17 a' b' d'] [bW 7 120 X10 X11 d12d,bW 5 120 nQ nQ 0,bW 4 120 nQ nQ 0] ?_))))
  refine xc 102 [vS3 a' b' d'] 18 (fun u0:Bool × Int × ShS=>.tuple #[shSd u0.2.1 u0.2.2, .bool u0.1]) _ (fun w hE hΦ=>(SRead_any a' b' d' _ hΦ.1 L').mono (fun _ _ h=>post_Rd_gen h)) (fun xx=>?_)
  obtain ⟨b15,d15d,X13,X14⟩:=xx
  refine xr 6 [(4, .p 4 0),(5, .p 5 0),(6, .v (.int .i64 0)),(7, .p 7 0),(8, .v (.bool false)),(9, .p 9 0),(10, .v (.bool b15))] [bW 9 120 X13 X14 d15d,bW 7 120 X10 X11 d12d,bW 5 120 nQ nQ 0,bW 4 120 nQ nQ 0] ?_
  refine xe (sx_next (sx_seq (sx_block (sx_seq (sx_region (xr 7 [(4, .p 4 0),(5, .p 5 0),(6, .v (.int .i64 0)),(7, .p 7 0),(9, .p 9 0),(21, .v (.bool true))] [bW 9 120 X13 X14 d15d,bW 7 120 X10 X11 d12d,bW 5 120 nQ nQ 0,bW 4 120 nQ nQ 0] ?_))))))
  refine xe (sx_next (xa (sx_seq (sx_region (xr 5 [(4, .p 4 0),(5, .p 5 0),(6, .v (.int .i64 1)),(7, .p 7 0),(9, .p 9 0)] [bW 9 120 X13 X14 d15d,bW 7 120 X10 X11 d12d,bW 5 120 nQ nQ 0,bW 4 120 nQ nQ 0] ?_)))))
  refine xe (sx_next (sx_ret (sx_in_ret (sx_then_ret ?_))))
  refine sx_done (v:=.tuple #[.agg #[.bool false, .slice none 0 0, .bool false, .slice none 0 0, .bool false, .slice none 0 0, .bool false, .slice none 0 0, .int .i64 0], .agg #[.bool false, .slice none 0 0, .bool false, .slice none 0 0, .bool false, .slice none 0 0, .bool false, .slice none 0 0, .int .i64 0], .int .i64 1]) (by kernel_rfl) (fun w' hE hΦ=>?_)
  exact Or.inl ⟨Or.inl hx,rfl,hE⟩
 ·refine xc 102 [vS3 a b d] 13 (fun u0:ShS=>.tuple #[shSd x.d u0, .bool true]) _ (fun w hE hΦ=>(SRead_any a b d _ hΦ L).mono (fun _ _ h=>post_Rd_some h hx)) (fun xx=>?_)
  obtain ⟨X16,X17⟩:=xx
  refine xr 6 [(3, .p 3 0),(4, .p 4 0),(5, .p 5 0),(6, .v (.int .i64 0)),(7, .p 7 0),(8, .v (.bool true))] [bW 7 120 X16 X17 x.d,bW 5 120 nQ nQ 0,bW 4 120 nQ nQ 0,bS3 3 23 a' b' d'] ?_
  refine xe (sx_next (sx_seq (sx_region (xr 1 [(4, .p 4 0),(5, .p 5 0),(6, .v (.int .i64 0)),(7, .p 7 0),(8, .v (.bool true)),eS3 17 a' b' d'] [bW 7 120 X16 X17 x.d,bW 5 120 nQ nQ 0,bW 4 120 nQ nQ 0] ?_))))
  rcases opt_two (rdS (bytes a') (bytes b') d') with hy | ⟨y,hy⟩
  ·refine xc 102 [vS3 a' b' d'] 18 (fun u0:Int × ShS=>.tuple #[shSd u0.1 u0.2, .bool false]) _ (fun w hE hΦ=>(SRead_any a' b' d' _ hΦ.1 L').mono (fun _ _ h=>post_Rd_none h hy)) (fun xx=>?_)
   obtain ⟨d20d,X18,X19⟩:=xx
   refine xr 6 [(4, .p 4 0),(5, .p 5 0),(6, .v (.int .i64 0)),(7, .p 7 0),(8, .v (.bool true)),(9, .p 9 0),(10, .v (.bool false))] [bW 9 120 X18 X19 d20d,bW 7 120 X16 X17 x.d,bW 5 120 nQ nQ 0,bW 4 120 nQ nQ 0] ?_
   refine xe (sx_next (sx_seq (sx_block (sx_seq (sx_region (xr 7 [(4, .p 4 0),(5, .p 5 0),(6, .v (.int .i64 0)),(7, .p 7 0),(9, .p 9 0),(21, .v (.bool true))] [bW 9 120 X18 X19 d20d,bW 7 120 X16 X17 x.d,bW 5 120 nQ nQ 0,bW 4 120 nQ nQ 0] ?_))))))
   refine xe (sx_next (xa (sx_seq (sx_region (xr 5 [(4, .p 4 0),(5, .p 5 0),(6, .v (.int .i64 1)),(7, .p 7 0),(9, .p 9 0)] [bW 9 120 X18 X19 d20d,bW 7 120 X16 X17 x.d,bW 5 120 nQ nQ 0,bW 4 120 nQ nQ 0] ?_)))))
   refine xe (sx_next (sx_ret (sx_in_ret (sx_then_ret ?_))))
   refine sx_done (v:=.tuple #[.agg #[.bool false, .slice none 0 0, .bool false, .slice none 0 0, .bool false, .slice none 0 0, .bool false, .slice none 0 0, .int .i64 0], .agg #[.bool false, .slice none 0 0, .bool false, .slice none 0 0, .bool false, .slice none 0 0, .bool false, .slice none 0 0, .int .i64 0], .int .i64 1]) (by kernel_rfl) (fun w' hE hΦ=>?_)
   exact Or.inl ⟨Or.inr hy,rfl,hE⟩
  ·refine xc 102 [vS3 a' b' d'] 18 (fun u0:ShS=>.tuple #[shSd y.d u0, .bool true]) _ (fun w hE hΦ=>(SRead_any a' b' d' _ hΦ.1 L').mono (fun _ _ h=>post_Rd_some h hy)) (fun xx=>?_)
   obtain ⟨X21,X22⟩:=xx
   refine xr 6 [(4, .p 4 0),(5, .p 5 0),(6, .v (.int .i64 0)),(7, .p 7 0),(8, .v (.bool true)),(9, .p 9 0),(10, .v (.bool true))] [bW 9 120 X21 X22 y.d,bW 7 120 X16 X17 x.d,bW 5 120 nQ nQ 0,bW 4 120 nQ nQ 0] ?_
   refine xe (sx_next (sx_seq (sx_block (sx_seq (sx_region (xr 7 [(4, .p 4 0),(5, .p 5 0),(6, .v (.int .i64 0)),(7, .p 7 0),(9, .p 9 0),(21, .v (.bool false))] [bW 9 120 X21 X22 y.d,bW 7 120 X16 X17 x.d,bW 5 120 nQ nQ 0,bW 4 120 nQ nQ 0] ?_))))))
   refine xe (sx_next (xb (sx_seq (sx_region (xr 4 [(4, .p 4 0),(5, .p 5 0),(6, .v (.int .i64 0)),(7, .p 7 0),(9, .p 9 0),(32, .v (.int .i64 x.d)),(34, .v (.int .i64 y.d))] [bW 9 120 X21 X22 y.d,bW 7 120 X16 X17 x.d,bW 5 120 nQ nQ 0,bW 4 120 nQ nQ 0] ?_)))))
   by_cases hB:Blg x.d y.d
   ·refine xc 185 [.int .i64 x.d, .int .i64 y.d] 35 (fun _:Unit=>.bool true) _ (fun w hE hΦ=>(Belong_any x.d y.d _).mono (fun _ _ h=>post_val h (by rw [blg_iff.2 hB]))) (fun xx=>?_)
    refine xr 2 [(4, .p 4 0),(5, .p 5 0),(6, .v (.int .i64 0)),(7, .p 7 0),(9, .p 9 0),(30, .v (.bool false))] [bW 9 120 X21 X22 y.d,bW 7 120 X16 X17 x.d,bW 5 120 nQ nQ 0,bW 4 120 nQ nQ 0] ?_
    refine xe (sx_next (xb (sx_skip (sx_out (sx_next (sx_seq ?_))))))
    refine sx_draw 5 (by kernel_rfl) (by kernel_rfl) follows_mixed' ?_
    refine xf 5 [(4, .p 4 0),(5, .p 5 0),(6, .v (.int .i64 0))] [bW 5 120 X21 X22 y.d,bW 4 120 X16 X17 x.d,bW 9 120 X21 X22 y.d,bW 7 120 X16 X17 x.d,bW 5 120 nQ nQ 0,bW 4 120 nQ nQ 0] ?_
    refine xz (xe (sx_next (sx_ret ?_)))
    refine sx_done (v:=.tuple #[vW X16 X17 x.d,vW X21 X22 y.d, .int .i64 0]) (by kernel_rfl) (fun w' hE hΦ=>?_)
    exact Or.inr (Or.inr ⟨_,_,_,_,hx,hy,hB,rfl,(SdIs.of hΦ.1.1.2.1 hΦ.1.1.2.2),(SdIs.of hΦ.1.2.1 hΦ.1.2.2),hE⟩)
   ·refine xc 185 [.int .i64 x.d, .int .i64 y.d] 35 (fun _:Unit=>.bool false) _ (fun w hE hΦ=>(Belong_any x.d y.d _).mono (fun _ _ h=>post_val h (by rw [blg_no hB]))) (fun xx=>?_)
    refine xr 2 [(4, .p 4 0),(5, .p 5 0),(6, .v (.int .i64 0)),(7, .p 7 0),(9, .p 9 0),(30, .v (.bool true))] [bW 9 120 X21 X22 y.d,bW 7 120 X16 X17 x.d,bW 5 120 nQ nQ 0,bW 4 120 nQ nQ 0] ?_
    refine xe (sx_next (xa (sx_seq (sx_region (xr 5 [(4, .p 4 0),(5, .p 5 0),(6, .v (.int .i64 9)),(7, .p 7 0),(9, .p 9 0)] [bW 9 120 X21 X22 y.d,bW 7 120 X16 X17 x.d,bW 5 120 nQ nQ 0,bW 4 120 nQ nQ 0] ?_)))))
    refine xe (sx_next (sx_ret (sx_in_ret (sx_then_ret ?_))))
    refine sx_done (v:=.tuple #[.agg #[.bool false, .slice none 0 0, .bool false, .slice none 0 0, .bool false, .slice none 0 0, .bool false, .slice none 0 0, .int .i64 0], .agg #[.bool false, .slice none 0 0, .bool false, .slice none 0 0, .bool false, .slice none 0 0, .bool false, .slice none 0 0, .int .i64 0], .int .i64 9]) (by kernel_rfl) (fun w' hE hΦ=>?_)
    exact Or.inr (Or.inl ⟨_,_,hx,hy,hB,rfl,hE⟩)
set_option maxRecDepth 100000 in
theorem SCombMul_ok (a b a' b':ByteArray) (d d':Int) (w:World) (hg:Glob w) (L:(bytes a).length≤570∧(bytes b).length≤570) (L':(bytes a').length≤570∧(bytes b').length≤570) {x y:Sd} (hx:rdS (bytes a) (bytes b) d=some x) (hy:rdS (bytes a') (bytes b') d'=some y) (hB:Blg x.d y.d) {j k:Nat} (Zx:∀ x,rdS (bytes a) (bytes b) d=some x→Sz x j) (Zy:∀ x,rdS (bytes a') (bytes b') d'=some x→Sz x k) (hj:j + k≤350) :
 Calls Tryz.prog 112 #[.agg #[.string a, .string b, .int .i64 d], .agg #[.string a', .string b', .int .i64 d'], .func (.func 113) #[] #[]] w (RetV w (opV (rdS (bytes a) (bytes b) d) (rdS (bytes a') (bytes b') d') (fun x y=>okS (x.times y)) zS)):=by
 have zx:=Zx _ hx
 have zy:=Zy _ hy
 refine sx_enter (Φ:=fun w=>Glob w) Tryz.func112 rfl (by kernel_rfl) (fun w' hf=>hg.ext hf) ?_
 refine sx_seq (sx_region (xr 4 [(2, .v (.func (.func 113) #[] #[])),(3, .p 3 0),(4, .p 4 0),(6, .p 6 0),(7, .v (.int .i64 0))] [bS3 6 23 ⟨#[]⟩ ⟨#[]⟩ 0,bS3 4 23 a' b' d',bS3 3 23 a b d] ?_))
 refine xe (sx_next (sx_seq (sx_region (xr 2 [(2, .v (.func (.func 113) #[] #[])),(6, .p 6 0),(7, .v (.int .i64 0)),eS3 12 a b d,eS3 13 a' b' d'] [bS3 6 23 ⟨#[]⟩ ⟨#[]⟩ 0] ?_))))
 refine xc 115 [vS3 a b d,vS3 a' b' d'] 14 (fun u:ShS × ShS=>.tuple #[shSd x.d u.1,shSd y.d u.2, .int .i64 0]) _ (fun w hE hΦ=>(SReadTwo_any a b a' b' d d' _ hΦ L L').mono (fun _ _ h=>post_Rd2_ok h hx hy hB)) (fun xx=>?_)
 obtain ⟨⟨X10,X11⟩,⟨X12,X13⟩⟩:=xx
 refine xr 9 [(2, .v (.func (.func 113) #[] #[])),(6, .p 6 0),(7, .v (.int .i64 0)),(8, .p 8 0),(9, .p 9 0),(10, .v (.int .i64 0))] [bW 9 120 X12 X13 y.d,bW 8 120 X10 X11 x.d,bS3 6 23 ⟨#[]⟩ ⟨#[]⟩ 0] ?_
 refine xe (sx_next (sx_seq (sx_seq (sx_region (xr 2 [(2, .v (.func (.func 113) #[] #[])),(6, .p 6 0),(7, .v (.int .i64 0)),(8, .p 8 0),(9, .p 9 0),(10, .v (.int .i64 0)),(19, .v (.bool false))] [bW 9 120 X12 X13 y.d,bW 8 120 X10 X11 x.d,bS3 6 23 ⟨#[]⟩ ⟨#[]⟩ 0] ?_)))))
 refine xe (sx_next (xb (sx_skip (sx_next (sx_seq (sx_region (xr 3 [(6, .p 6 0),(7, .v (.int .i64 0)),(22, .v (.func (.func 113) #[] #[])),eW 23 X10 X11 x.d,eW 24 X12 X13 y.d] [bS3 6 23 ⟨#[]⟩ ⟨#[]⟩ 0] ?_)))))))
 refine xc 113 [vW X10 X11 x.d,vW X12 X13 y.d] 25 (shSd ((x.times y).d)) _ (fun w hE hΦ=>(STimes_any _ _ x y _ hΦ.1 (SdIs.of hΦ.2.1.1.1 hΦ.2.1.1.2) (SdIs.of hΦ.2.1.2 hΦ.2.2) zx zy (by omega)).mono (fun _ _ h=>post_Sd h)) (fun xx=>?_)
 obtain ⟨X14,X15⟩:=xx
 refine xr 0 [(6, .p 6 0),(7, .v (.int .i64 0)),(25, .v (vW X14 X15 ((x.times y).d)))] [bS3 6 23 ⟨#[]⟩ ⟨#[]⟩ 0] ?_
 refine xc 94 [vW X14 X15 ((x.times y).d)] 26 (fun _:Unit=>vS3 ⟨(ratText ((x.times y).a)).toArray⟩ ⟨(ratText ((x.times y).b)).toArray⟩ ((x.times y).d)) _ (fun w hE hΦ=>(SWrite_any _ (x.times y) _ hΦ.1.1 (SdIs.of hΦ.2.1 hΦ.2.2) (j:=(2 * (j + k) + 8)) (zx.times zy).a (zx.times zy).b (by omega)).mono (fun _ _ h=>post_val h rfl)) (fun xx=>?_)
 refine xr 2 [(6, .p 6 0),(7, .v (.int .i64 0))] [bS3 6 23 ⟨(ratText ((x.times y).a)).toArray⟩ ⟨(ratText ((x.times y).b)).toArray⟩ ((x.times y).d)] ?_
 refine xe (sx_next (sx_ret ?_))
 refine sx_done (v:=.tuple #[.agg #[.string ⟨(ratText ((x.times y).a)).toArray⟩, .string ⟨(ratText ((x.times y).b)).toArray⟩, .int .i64 ((x.times y).d)], .int .i64 0]) (by kernel_rfl) (fun w' hE hΦ=>?_)
 exact ⟨by rw [opV_ok hx hy hB],hE⟩
set_option maxRecDepth 100000 in
theorem SMulT_ok (a b a' b':ByteArray) (d d':Int) (w:World) (hg:Glob w) (L:(bytes a).length≤570∧(bytes b).length≤570) (L':(bytes a').length≤570∧(bytes b').length≤570) {x y:Sd} (hx:rdS (bytes a) (bytes b) d=some x) (hy:rdS (bytes a') (bytes b') d'=some y) (hB:Blg x.d y.d) {j k:Nat} (Zx:∀ x,rdS (bytes a) (bytes b) d=some x→Sz x j) (Zy:∀ x,rdS (bytes a') (bytes b') d'=some x→Sz x k) (hj:j + k≤350) :
 Calls Tryz.prog 31 #[.agg #[.string a, .string b, .int .i64 d], .agg #[.string a', .string b', .int .i64 d']] w (RetV w (opV (rdS (bytes a) (bytes b) d) (rdS (bytes a') (bytes b') d') (fun x y=>okS (x.times y)) zS)):=by
 have zx:=Zx _ hx
 have zy:=Zy _ hy
 refine sx_enter (Φ:=fun w=>Glob w) Tryz.func31 rfl (by kernel_rfl) (fun w' hf=>hg.ext hf) ?_
 refine sx_seq (sx_region (xr 4 [(2, .p 2 0),(3, .p 3 0),(4, .p 4 0),(5, .v (.int .i64 0))] [bS3 4 23 ⟨#[]⟩ ⟨#[]⟩ 0,bS3 3 23 a' b' d',bS3 2 23 a b d] ?_))
 refine xe (sx_next (sx_seq (sx_region (xr 2 [(4, .p 4 0),(5, .v (.int .i64 0)),eS3 6 a b d,eS3 7 a' b' d'] [bS3 4 23 ⟨#[]⟩ ⟨#[]⟩ 0] ?_))))
 refine xc 112 [vS3 a b d,vS3 a' b' d', .func (.func 113) #[] #[]] 8 (fun _:Unit=>.tuple #[.agg #[.string ⟨(ratText (x.times y).a).toArray⟩, .string ⟨(ratText (x.times y).b).toArray⟩, .int .i64 (x.times y).d], .int .i64 0]) _ (fun w hE hΦ=>(SCombMul_ok a b a' b' d d' _ hΦ L L' hx hy hB Zx Zy hj).mono (fun _ _ h=>post_val h (by rw [opV_ok hx hy hB]))) (fun xx=>?_)
 refine xr 4 [(4, .p 4 0),(5, .v (.int .i64 0))] [(4,23,[.v (.string ⟨(ratText (x.times y).a).toArray⟩), .v (.string ⟨(ratText (x.times y).b).toArray⟩), .v (.int .i64 (x.times y).d)])] ?_
 refine xe (sx_next (sx_ret ?_))
 refine sx_done (v:=.tuple #[.agg #[.string ⟨(ratText (x.times y).a).toArray⟩, .string ⟨(ratText (x.times y).b).toArray⟩, .int .i64 (x.times y).d], .int .i64 0]) (by kernel_rfl) (fun w' hE hΦ=>?_)
 exact ⟨by rw [opV_ok hx hy hB],hE⟩
set_option maxRecDepth 100000 in
theorem SConjT_bad (a b:ByteArray) (d:Int) (w:World) (hg:Glob w) (L:(bytes a).length≤570∧(bytes b).length≤570) (hx:rdS (bytes a) (bytes b) d=none) :
 Calls Tryz.prog 23 #[.agg #[.string a, .string b, .int .i64 d]] w (RetV w (opU (rdS (bytes a) (bytes b) d) (fun x=>okS x.conj) zS)):=by
 refine sx_enter (Φ:=fun w=>Glob w) Tryz.func23 rfl (by kernel_rfl) (fun w' hf=>hg.ext hf) ?_
 refine sx_seq (sx_region (xr 3 [(1, .p 1 0),(2, .p 2 0),(3, .v (.int .i64 0))] [bS3 2 23 ⟨#[]⟩ ⟨#[]⟩ 0,bS3 1 23 a b d] ?_))
 refine xe (sx_next (sx_seq (sx_region (xr 1 [(2, .p 2 0),(3, .v (.int .i64 0)),eS3 7 a b d] [bS3 2 23 ⟨#[]⟩ ⟨#[]⟩ 0] ?_))))
 refine xc 102 [vS3 a b d] 8 (fun u0:Int × ShS=>.tuple #[shSd u0.1 u0.2, .bool false]) _ (fun w hE hΦ=>(SRead_any a b d _ hΦ L).mono (fun _ _ h=>post_Rd_none h hx)) (fun xx=>?_)
 obtain ⟨d12d,X10,X11⟩:=xx
 refine xr 6 [(2, .p 2 0),(3, .v (.int .i64 0)),(4, .p 4 0),(5, .v (.bool false))] [bW 4 120 X10 X11 d12d,bS3 2 23 ⟨#[]⟩ ⟨#[]⟩ 0] ?_
 refine xe (sx_next (sx_seq (sx_seq (sx_region (xr 2 [(2, .p 2 0),(3, .v (.int .i64 0)),(4, .p 4 0),(12, .v (.bool true))] [bW 4 120 X10 X11 d12d,bS3 2 23 ⟨#[]⟩ ⟨#[]⟩ 0] ?_)))))
 refine xe (sx_next (xa (sx_seq (sx_region (xr 3 [(2, .p 2 0),(3, .v (.int .i64 1)),(4, .p 4 0)] [bW 4 120 X10 X11 d12d,bS3 2 23 ⟨#[]⟩ ⟨#[]⟩ 0] ?_)))))
 refine xe (sx_next (sx_ret (sx_then_ret ?_)))
 refine sx_done (v:=.tuple #[.agg #[.string ⟨#[]⟩, .string ⟨#[]⟩, .int .i64 0], .int .i64 1]) (by kernel_rfl) (fun w' hE hΦ=>?_)
 exact ⟨by rw [opU_bad hx],hE⟩
set_option maxRecDepth 100000 in
theorem SConjT_ok (a b:ByteArray) (d:Int) (w:World) (hg:Glob w) (L:(bytes a).length≤570∧(bytes b).length≤570) {x:Sd} (hx:rdS (bytes a) (bytes b) d=some x) {j:Nat} (Zx:∀ x,rdS (bytes a) (bytes b) d=some x→Sz x j) (hj:j≤350) :
 Calls Tryz.prog 23 #[.agg #[.string a, .string b, .int .i64 d]] w (RetV w (opU (rdS (bytes a) (bytes b) d) (fun x=>okS x.conj) zS)):=by
 have zx:=Zx _ hx
 refine sx_enter (Φ:=fun w=>Glob w) Tryz.func23 rfl (by kernel_rfl) (fun w' hf=>hg.ext hf) ?_
 refine sx_seq (sx_region (xr 3 [(1, .p 1 0),(2, .p 2 0),(3, .v (.int .i64 0))] [bS3 2 23 ⟨#[]⟩ ⟨#[]⟩ 0,bS3 1 23 a b d] ?_))
 refine xe (sx_next (sx_seq (sx_region (xr 1 [(2, .p 2 0),(3, .v (.int .i64 0)),eS3 7 a b d] [bS3 2 23 ⟨#[]⟩ ⟨#[]⟩ 0] ?_))))
 refine xc 102 [vS3 a b d] 8 (fun u0:ShS=>.tuple #[shSd x.d u0, .bool true]) _ (fun w hE hΦ=>(SRead_any a b d _ hΦ L).mono (fun _ _ h=>post_Rd_some h hx)) (fun xx=>?_)
 obtain ⟨X10,X11⟩:=xx
 refine xr 6 [(2, .p 2 0),(3, .v (.int .i64 0)),(4, .p 4 0),(5, .v (.bool true))] [bW 4 120 X10 X11 x.d,bS3 2 23 ⟨#[]⟩ ⟨#[]⟩ 0] ?_
 refine xe (sx_next (sx_seq (sx_seq (sx_region (xr 2 [(2, .p 2 0),(3, .v (.int .i64 0)),(4, .p 4 0),(12, .v (.bool false))] [bW 4 120 X10 X11 x.d,bS3 2 23 ⟨#[]⟩ ⟨#[]⟩ 0] ?_)))))
 refine xe (sx_next (xb (sx_skip (sx_next (sx_seq (sx_region (xr 1 [(2, .p 2 0),(3, .v (.int .i64 0)),eW 14 X10 X11 x.d] [bS3 2 23 ⟨#[]⟩ ⟨#[]⟩ 0] ?_)))))))
 refine xc 105 [vW X10 X11 x.d] 15 (shSd x.conj.d) _ (fun w hE hΦ=>(SConj_any _ x _ (SdIs.of hΦ.2.1 hΦ.2.2)).mono (fun _ _ h=>post_Sd h)) (fun xx=>?_)
 obtain ⟨X12,X13⟩:=xx
 refine xr 0 [(2, .p 2 0),(3, .v (.int .i64 0)),eW 15 X12 X13 x.conj.d] [bS3 2 23 ⟨#[]⟩ ⟨#[]⟩ 0] ?_
 refine xc 94 [vW X12 X13 x.conj.d] 16 (fun _:Unit=>vS3 ⟨(ratText x.conj.a).toArray⟩ ⟨(ratText x.conj.b).toArray⟩ x.conj.d) _ (fun w hE hΦ=>(SWrite_any _ x.conj _ hΦ.1.1 (SdIs.of hΦ.2.1 hΦ.2.2) (j:=j) zx.conj.a zx.conj.b (by omega)).mono (fun _ _ h=>post_val h rfl)) (fun xx=>?_)
 refine xr 2 [(2, .p 2 0),(3, .v (.int .i64 0))] [bS3 2 23 ⟨(ratText x.conj.a).toArray⟩ ⟨(ratText x.conj.b).toArray⟩ x.conj.d] ?_
 refine xe (sx_next (sx_ret ?_))
 refine sx_done (v:=.tuple #[.agg #[.string ⟨(ratText x.conj.a).toArray⟩, .string ⟨(ratText x.conj.b).toArray⟩, .int .i64 x.conj.d], .int .i64 0]) (by kernel_rfl) (fun w' hE hΦ=>?_)
 exact ⟨by rw [opU_ok hx],hE⟩
set_option maxRecDepth 100000 in
theorem SNormT_bad (a b:ByteArray) (d:Int) (w:World) (hg:Glob w) (L:(bytes a).length≤570∧(bytes b).length≤570) (hx:rdS (bytes a) (bytes b) d=none) :
 Calls Tryz.prog 24 #[.agg #[.string a, .string b, .int .i64 d]] w (RetV w (opU (rdS (bytes a) (bytes b) d) (fun x=>.tuple #[.string ⟨(ratText x.norm).toArray⟩, .int .i64 0]) (.string ⟨#[]⟩))):=by
 refine sx_enter (Φ:=fun w=>Glob w) Tryz.func24 rfl (by kernel_rfl) (fun w' hf=>hg.ext hf) ?_
 refine sx_seq (sx_region (xr 3 [(1, .p 1 0),(2, .v (.string ⟨#[]⟩)),(3, .v (.int .i64 0))] [bS3 1 23 a b d] ?_))
 refine xe (sx_next (sx_seq (sx_region (xr 1 [(2, .v (.string ⟨#[]⟩)),(3, .v (.int .i64 0)),eS3 7 a b d] [] ?_))))
 refine xc 102 [vS3 a b d] 8 (fun u0:Int × ShS=>.tuple #[shSd u0.1 u0.2, .bool false]) _ (fun w hE hΦ=>(SRead_any a b d _ hΦ L).mono (fun _ _ h=>post_Rd_none h hx)) (fun xx=>?_)
 obtain ⟨d12d,X10,X11⟩:=xx
 refine xr 6 [(2, .v (.string ⟨#[]⟩)),(3, .v (.int .i64 0)),(4, .p 4 0),(5, .v (.bool false))] [bW 4 120 X10 X11 d12d] ?_
 refine xe (sx_next (sx_seq (sx_seq (sx_region (xr 2 [(2, .v (.string ⟨#[]⟩)),(3, .v (.int .i64 0)),(4, .p 4 0),(12, .v (.bool true))] [bW 4 120 X10 X11 d12d] ?_)))))
 refine xe (sx_next (xa (sx_seq (sx_region (xr 2 [(2, .v (.string ⟨#[]⟩)),(3, .v (.int .i64 1)),(4, .p 4 0)] [bW 4 120 X10 X11 d12d] ?_)))))
 refine xe (sx_next (sx_ret (sx_then_ret ?_)))
 refine sx_done (v:=.tuple #[.string ⟨#[]⟩, .int .i64 1]) (by kernel_rfl) (fun w' hE hΦ=>?_)
 exact ⟨by rw [opU_bad hx],hE⟩
set_option maxRecDepth 100000 in
theorem SNormT_ok (a b:ByteArray) (d:Int) (w:World) (hg:Glob w) (L:(bytes a).length≤570∧(bytes b).length≤570) {x:Sd} (hx:rdS (bytes a) (bytes b) d=some x) {j:Nat} (Zx:∀ x,rdS (bytes a) (bytes b) d=some x→Sz x j) (hj:j≤170) :
 Calls Tryz.prog 24 #[.agg #[.string a, .string b, .int .i64 d]] w (RetV w (opU (rdS (bytes a) (bytes b) d) (fun x=>.tuple #[.string ⟨(ratText x.norm).toArray⟩, .int .i64 0]) (.string ⟨#[]⟩))):=by
 have zx:=Zx _ hx
 refine sx_enter (Φ:=fun w=>Glob w) Tryz.func24 rfl (by kernel_rfl) (fun w' hf=>hg.ext hf) ?_
 refine sx_seq (sx_region (xr 3 [(1, .p 1 0),(2, .v (.string ⟨#[]⟩)),(3, .v (.int .i64 0))] [bS3 1 23 a b d] ?_))
 refine xe (sx_next (sx_seq (sx_region (xr 1 [(2, .v (.string ⟨#[]⟩)),(3, .v (.int .i64 0)),eS3 7 a b d] [] ?_))))
 refine xc 102 [vS3 a b d] 8 (fun u0:ShS=>.tuple #[shSd x.d u0, .bool true]) _ (fun w hE hΦ=>(SRead_any a b d _ hΦ L).mono (fun _ _ h=>post_Rd_some h hx)) (fun xx=>?_)
 obtain ⟨X10,X11⟩:=xx
 refine xr 6 [(2, .v (.string ⟨#[]⟩)),(3, .v (.int .i64 0)),(4, .p 4 0),(5, .v (.bool true))] [bW 4 120 X10 X11 x.d] ?_
 refine xe (sx_next (sx_seq (sx_seq (sx_region (xr 2 [(2, .v (.string ⟨#[]⟩)),(3, .v (.int .i64 0)),(4, .p 4 0),(12, .v (.bool false))] [bW 4 120 X10 X11 x.d] ?_)))))
 refine xe (sx_next (xb (sx_skip (sx_next (sx_seq (sx_region (xr 1 [(2, .v (.string ⟨#[]⟩)),(3, .v (.int .i64 0)),eW 13 X10 X11 x.d] [] ?_)))))))
 refine xc 106 [vW X10 X11 x.d] 14 shRat _ (fun w hE hΦ=>(SNorm_any _ x _ hΦ.1 (SdIs.of hΦ.2.1 hΦ.2.2) zx (by omega)).mono (fun _ _ h=>post_Rat h)) (fun X12=>?_)
 refine xr 0 [(2, .v (.string ⟨#[]⟩)),(3, .v (.int .i64 0)),eQ 14 X12] [] ?_
 refine xc 107 [vQ X12] 15 (fun _:Unit=>.string ⟨(ratText x.norm).toArray⟩) _ (fun w hE hΦ=>(RString_any _ x.norm _ hΦ.1.1 hΦ.2 (zx.norm.prt (by omega)).1 (zx.norm.prt (by omega)).2).mono (fun _ _ h=>post_val h rfl)) (fun xx=>?_)
 refine xr 2 [(2, .v (.string ⟨(ratText x.norm).toArray⟩)),(3, .v (.int .i64 0))] [] ?_
 refine xe (sx_next (sx_ret ?_))
 refine sx_done (v:=.tuple #[.string ⟨(ratText x.norm).toArray⟩, .int .i64 0]) (by kernel_rfl) (fun w' hE hΦ=>?_)
 exact ⟨by rw [opU_ok hx],hE⟩
set_option maxRecDepth 100000 in
theorem SSignT_bad (a b:ByteArray) (d:Int) (w:World) (hg:Glob w) (L:(bytes a).length≤570∧(bytes b).length≤570) (hx:rdS (bytes a) (bytes b) d=none) :
 Calls Tryz.prog 25 #[.agg #[.string a, .string b, .int .i64 d]] w (RetV w (opU (rdS (bytes a) (bytes b) d) (fun x=>.tuple #[.int .i64 x.sgn, .int .i64 0]) (.int .i64 0))):=by
 refine sx_enter (Φ:=fun w=>Glob w) Tryz.func25 rfl (by kernel_rfl) (fun w' hf=>hg.ext hf) ?_
 refine sx_seq (sx_region (xr 3 [(1, .p 1 0),(2, .v (.int .i64 0)),(3, .v (.int .i64 0))] [bS3 1 23 a b d] ?_))
 refine xe (sx_next (sx_seq (sx_region (xr 1 [(2, .v (.int .i64 0)),(3, .v (.int .i64 0)),eS3 7 a b d] [] ?_))))
 refine xc 102 [vS3 a b d] 8 (fun u0:Int × ShS=>.tuple #[shSd u0.1 u0.2, .bool false]) _ (fun w hE hΦ=>(SRead_any a b d _ hΦ L).mono (fun _ _ h=>post_Rd_none h hx)) (fun xx=>?_)
 obtain ⟨d12d,X10,X11⟩:=xx
 refine xr 6 [(2, .v (.int .i64 0)),(3, .v (.int .i64 0)),(4, .p 4 0),(5, .v (.bool false))] [bW 4 120 X10 X11 d12d] ?_
 refine xe (sx_next (sx_seq (sx_seq (sx_region (xr 2 [(2, .v (.int .i64 0)),(3, .v (.int .i64 0)),(4, .p 4 0),(12, .v (.bool true))] [bW 4 120 X10 X11 d12d] ?_)))))
 refine xe (sx_next (xa (sx_seq (sx_region (xr 2 [(2, .v (.int .i64 0)),(3, .v (.int .i64 1)),(4, .p 4 0)] [bW 4 120 X10 X11 d12d] ?_)))))
 refine xe (sx_next (sx_ret (sx_then_ret ?_)))
 refine sx_done (v:=.tuple #[.int .i64 0, .int .i64 1]) (by kernel_rfl) (fun w' hE hΦ=>?_)
 exact ⟨by rw [opU_bad hx],hE⟩
set_option maxRecDepth 100000 in
theorem SSignT_ok (a b:ByteArray) (d:Int) (w:World) (hg:Glob w) (L:(bytes a).length≤570∧(bytes b).length≤570) {x:Sd} (hx:rdS (bytes a) (bytes b) d=some x) {j:Nat} (Zx:∀ x,rdS (bytes a) (bytes b) d=some x→Sz x j) (hj:j≤350) :
 Calls Tryz.prog 25 #[.agg #[.string a, .string b, .int .i64 d]] w (RetV w (opU (rdS (bytes a) (bytes b) d) (fun x=>.tuple #[.int .i64 x.sgn, .int .i64 0]) (.int .i64 0))):=by
 have zx:=Zx _ hx
 refine sx_enter (Φ:=fun w=>Glob w) Tryz.func25 rfl (by kernel_rfl) (fun w' hf=>hg.ext hf) ?_
 refine sx_seq (sx_region (xr 3 [(1, .p 1 0),(2, .v (.int .i64 0)),(3, .v (.int .i64 0))] [bS3 1 23 a b d] ?_))
 refine xe (sx_next (sx_seq (sx_region (xr 1 [(2, .v (.int .i64 0)),(3, .v (.int .i64 0)),eS3 7 a b d] [] ?_))))
 refine xc 102 [vS3 a b d] 8 (fun u0:ShS=>.tuple #[shSd x.d u0, .bool true]) _ (fun w hE hΦ=>(SRead_any a b d _ hΦ L).mono (fun _ _ h=>post_Rd_some h hx)) (fun xx=>?_)
 obtain ⟨X10,X11⟩:=xx
 refine xr 6 [(2, .v (.int .i64 0)),(3, .v (.int .i64 0)),(4, .p 4 0),(5, .v (.bool true))] [bW 4 120 X10 X11 x.d] ?_
 refine xe (sx_next (sx_seq (sx_seq (sx_region (xr 2 [(2, .v (.int .i64 0)),(3, .v (.int .i64 0)),(4, .p 4 0),(12, .v (.bool false))] [bW 4 120 X10 X11 x.d] ?_)))))
 refine xe (sx_next (xb (sx_skip (sx_next (sx_seq (sx_region (xr 1 [(2, .v (.int .i64 0)),(3, .v (.int .i64 0)),eW 13 X10 X11 x.d] [] ?_)))))))
 refine xc 108 [vW X10 X11 x.d] 14 (fun _:Unit=>.int .i64 x.sgn) _ (fun w hE hΦ=>(SSign_any _ x _ hΦ.1 (SdIs.of hΦ.2.1 hΦ.2.2) zx (by omega)).mono (fun _ _ h=>post_val h rfl)) (fun xx=>?_)
 refine xr 2 [(2, .v (.int .i64 x.sgn)),(3, .v (.int .i64 0))] [] ?_
 refine xe (sx_next (sx_ret ?_))
 refine sx_done (v:=.tuple #[.int .i64 x.sgn, .int .i64 0]) (by kernel_rfl) (fun w' hE hΦ=>?_)
 exact ⟨by rw [opU_ok hx],hE⟩
end Go.Proofs.YtbgkofgoeoiciaaGreatDoor

namespace Go.Proofs.YtbgkofgoeoiciaaGreatDoor
open Go.RowKit
open Sd
section
variable {x y z:Sd}
theorem one_in (hx:x.Ok):∃ D,Fld D∧∃ a b,x=nv a b D:=by
 obtain ⟨D,hD,h1,h2⟩:=hx.field
 exact ⟨D,hD,_,_,h2 D h1⟩
theorem one_field (hx:x.Ok):x.neg.Ok∧x.conj.Ok∧x.rnorm=x.norm∧x.rsgn=x.sgn:=by
 obtain ⟨D,hD,a,b,rfl⟩:=one_in hx
 rw [neg_nv hD,conj_nv hD,rnorm_nv hD,norm_nv hD,rsgn_nv hD]
 exact ⟨hD.nv_ok _ _,hD.nv_ok _ _,rfl,rfl⟩
end
theorem rd_txt {z:Sd} (hz:z.Ok):rdS (ratText z.a) (ratText z.b) z.d=some z:=rdS_some (read_text _) (read_text _) hz
end Go.Proofs.YtbgkofgoeoiciaaGreatDoor

namespace Go.Proofs.YtbgkofgoeoiciaaGreatDoor
open Go.RowKit
open Sd
theorem build_sz {a b:Rat} {d:Int} {k:Nat} (ha:Dq a k) (hb:Dq b k) (h1:1≤d) (h2:d≤1000000):Sz (Sd.build a b d) (2 * k + 1):=by
 have hz:Dq 0 (2 * k + 1):=Dq.zero (by omega)
 unfold Sd.build
 split
 ·exact ⟨(ha.add hb).up (by omega),hz,(by decide:(1:Int)≤1),(by decide:(1:Int)≤1000000)⟩
 ·split
  ·exact ⟨ha.up (by omega),hz,(by decide:(1:Int)≤1),(by decide:(1:Int)≤1000000)⟩
  ·exact ⟨ha.up (by omega),hb.up (by omega),h1,h2⟩
theorem fld_in {d e:Int} (hB:Blg d e) (h1:1≤d) (h2:d≤1000000) (h3:1≤e) (h4:e≤1000000):1≤fld d e∧fld d e≤1000000:=by
 unfold Blg at hB
 unfold fld
 split
 ·omega
 ·split
  ·omega
  ·omega
section
variable {x y:Sd} {j k:Nat}
theorem Sz.fl (h:Sz x j) (h':Sz y k) (hB:Blg x.d y.d):1≤fld x.d y.d∧fld x.d y.d≤1000000:=fld_in hB h.lo h.hi h'.lo h'.hi
theorem Dq.fl (h:Sz x j) (h':Sz y k) (hB:Blg x.d y.d):Dq ((fld x.d y.d:Int):Rat) 7:=by
 have h1:=h.fl h' hB
 exact Dq.int (k:=7) (by rw [show (10:Nat) ^ 7=10000000 by decide]; omega) (by decide)
theorem blg_conj (x:Sd):Blg x.d x.conj.d:=Or.inr (Or.inr rfl)
end
theorem fld1 {d e:Int} (h:(d == 1)=true):fld d e=e:=by unfold fld; exact if_pos (Or.inl (eq_of_beq h))
theorem fld2 {d e:Int} (_h:(d == 1)=false) (h':(d == e)=true):fld d e=e:=by unfold fld; exact if_pos (Or.inr (eq_of_beq h'))
theorem fld3 {d e:Int} (h:(d == 1)=false) (h':(d == e)=false) (h'':(e == 1)=true):fld d e=d:=by
 unfold fld; rw [if_neg (by rintro (e1 | e1)<;>subst e1<;>simp at h h'),if_pos (eq_of_beq h'')]
theorem fld4 {d e:Int} (h:(d == 1)=false) (h':(d == e)=false) (h'':(e == 1)=false):fld d e=0:=by
 unfold fld; rw [if_neg (by rintro (e1 | e1)<;>subst e1<;>simp at h h'),if_neg (by rintro e1; subst e1; simp at h'')]
theorem sign_wrap (a b:Int):IntKind.i64.wrap (a.sign * b.sign)=a.sign * b.sign:=by
 rcases sign3 a with ⟨_,h⟩ | ⟨_,h⟩ | ⟨_,h⟩<;>rcases sign3 b with ⟨_,h'⟩ | ⟨_,h'⟩ | ⟨_,h'⟩<;>rw [h,h']<;>decide
theorem qmul_nat (q:Rat) (a b:Nat):q * (((a:Nat):Int):Rat) * (((b:Nat):Int):Rat)=q * (((a * b:Nat):Int):Rat):=by
 rw [Int.natCast_mul,Rat.intCast_mul,Rat.mul_assoc]
theorem qmul_one (q:Rat):q * (((1:Nat):Int):Rat)=q:=by
 have e:(((1:Nat):Int):Rat)=1:=rfl
 rw [e,Rat.mul_one]
theorem dq_nat {n:Nat} (h:n≤1000000):Dq (((n:Nat):Int):Rat) 7:=Dq.int (k:=7) (by rw [show (10:Nat) ^ 7=10000000 by decide]; omega) (by decide)
end Go.Proofs.YtbgkofgoeoiciaaGreatDoor

namespace Go.Proofs.YtbgkofgoeoiciaaGreatDoor
open Go.RowKit
end Go.Proofs.YtbgkofgoeoiciaaGreatDoor

namespace Go.Proofs.YtbgkofgoeoiciaaGreatDoor
open Go.RowKit
abbrev eN5 (k:Nat) (x:Int):Nat × AV:=(k, .v (.int .i64 x))
set_option maxRecDepth 100000 in
theorem NR_any (z:Int) (w:World) (h1 : -9223372036854775808≤z) (h2:z≤9223372036854775807) :
 Calls Tryz.prog 77 #[.int .i64 z] w (RetNRat w ((z:Int):Rat)):=by
 refine sx_enter (Φ:=fun w=>True) Tryz.func77 rfl (by kernel_rfl) (fun w' hf=>trivial) ?_
 refine sx_seq (sx_region (xr 1 [eN5 0 z,(2, .p 2 0)] [bR4 2 36 false none 0 0 false none 0 0] ?_))
 refine xe (sx_next (sx_seq (sx_region (xr 1 [(2, .p 2 0),eN5 3 z] [bR4 2 36 false none 0 0 false none 0 0] ?_))))
 refine xc 177 [.int .i64 z] 4 shInt _ (fun w hE hΦ=>(NFromInt_any z _ h1 h2).mono (fun _ _ h=>post_Num h)) (fun xx=>?_)
 obtain ⟨s10,A10,l10,c10⟩:=xx
 refine xr 2 [(2, .p 2 0)] [bR4 2 36 s10 A10 l10 c10 false none 0 0] ?_
 refine xe (sx_next (sx_ret ?_))
 refine sx_done (v:=.agg #[.bool s10, .slice A10 l10 c10, .bool false, .slice none 0 0]) (by kernel_rfl) (fun w' hE hΦ=>?_)
 exact ⟨_,rfl,NRatIs.whole hΦ.2,hE⟩
end Go.Proofs.YtbgkofgoeoiciaaGreatDoor

namespace Go.Proofs.YtbgkofgoeoiciaaGreatDoor
open Go.RowKit
theorem sge_t {q:Rat} (h:q.num=0):((q.num.sign:Int) == 0)=true:=by rw [h]; rfl
theorem sge_f {q:Rat} (h:¬ q.num=0):((q.num.sign:Int) == 0)=false:=by rw [beq_eq_false_iff_ne]; exact fun e=>h (Int.sign_eq_zero_iff_zero.1 e)
theorem sgn_t {q:Rat} (h:q.num=0):((q.num.sign:Int) != 0)=false:=by rw [h]; rfl
theorem sgn_f {q:Rat} (h:¬ q.num=0):((q.num.sign:Int) != 0)=true:=by rw [bne_iff_ne]; exact fun e=>h (Int.sign_eq_zero_iff_zero.1 e)
theorem bld_one (a b:Rat) {d:Int} (h:(d == 1)=true):Sd.build a b d=⟨a + b,0,1⟩:=build_t h
theorem bld_zero (a:Rat) {b:Rat} {d:Int} (h:(d == 1)=false) (h':b.num=0):Sd.build a b d=⟨a,0,1⟩:=by rw [build_f h,Rat.num_eq_zero.1 h',nv_zero]
theorem bld_nz (a:Rat) {b:Rat} {d:Int} (h:(d == 1)=false) (h':¬ b.num=0):Sd.build a b d=⟨a,b,d⟩:=by rw [build_f h,nv_nz _ _ (fun e=>h' (by rw [e]; rfl))]
theorem free_t {N:Nat} (h:Free N):@decide (Free N) (Classical.propDecidable _)=true:=@decide_eq_true _ (Classical.propDecidable _) h
theorem free_f {N:Nat} (h:¬ Free N):@decide (Free N) (Classical.propDecidable _)=false:=@decide_eq_false _ (Classical.propDecidable _) h
set_option maxRecDepth 100000 in
theorem RRat_any (vp:Value) (p:Rat) (w:World) (hhp:NRatIs w vp p)  :
 Calls Tryz.prog 74 #[vp] w (RetRSd w ⟨p,0,1⟩):=by
 obtain ⟨s8,A8,l8,c8,t8,B8,m8,d8,rfl⟩:=hhp.shp
 refine sx_enter (Φ:=fun w=>NRatIs w (.agg #[.bool s8, .slice A8 l8 c8, .bool t8, .slice B8 m8 d8]) (p)) Tryz.func74 rfl (by kernel_rfl) (fun w' hf=>hhp.ext hf) ?_
 refine sx_seq (sx_region (xr 2 [(1, .p 1 0),(2, .p 2 0)] [bV9 2 38 false none 0 0 false none 0 0 false none 0 0 false none 0 0 0,bR4 1 36 s8 A8 l8 c8 t8 B8 m8 d8] ?_))
 refine xe (sx_next (sx_seq (sx_region (xr 3 [(2, .p 2 0)] [bV9 2 38 s8 A8 l8 c8 t8 B8 m8 d8 false none 0 0 false none 0 0 1] ?_))))
 refine xe (sx_next (sx_ret ?_))
 refine sx_done (v:=.agg #[.bool s8, .slice A8 l8 c8, .bool t8, .slice B8 m8 d8, .bool false, .slice none 0 0, .bool false, .slice none 0 0, .int .i64 1]) (by kernel_rfl) (fun w' hE hΦ=>?_)
 exact ⟨_,rfl,(RSdIs.of hΦ (NRatIs.nil _)),hE⟩
set_option maxRecDepth 100000 in
theorem RField_any (s0:Bool) (A0:Option Addr) (l0:Nat) (c0:Nat) (t0:Bool) (B0:Option Addr) (m0:Nat) (d0:Nat) (s1:Bool) (A1:Option Addr) (l1:Nat) (c1:Nat) (t1:Bool) (B1:Option Addr) (m1:Nat) (d1:Nat) (s2:Bool) (A2:Option Addr) (l2:Nat) (c2:Nat) (t2:Bool) (B2:Option Addr) (m2:Nat) (d2:Nat) (s3:Bool) (A3:Option Addr) (l3:Nat) (c3:Nat) (t3:Bool) (B3:Option Addr) (m3:Nat) (d3:Nat) (d e:Int) (w:World) :
 Calls Tryz.prog 118 #[.agg #[.bool s0, .slice A0 l0 c0, .bool t0, .slice B0 m0 d0, .bool s1, .slice A1 l1 c1, .bool t1, .slice B1 m1 d1, .int .i64 d], .agg #[.bool s2, .slice A2 l2 c2, .bool t2, .slice B2 m2 d2, .bool s3, .slice A3 l3 c3, .bool t3, .slice B3 m3 d3, .int .i64 e]] w (RetV w (.int .i64 (Sd.fld d e))):=by
 refine sx_enter (Φ:=fun w=>True) Tryz.func118 rfl (by kernel_rfl) (fun w' hf=>trivial) ?_
 refine sx_seq (sx_region (xr 3 [(2, .p 2 0),(3, .p 3 0),(4, .v (.int .i64 0))] [bV9 3 38 s2 A2 l2 c2 t2 B2 m2 d2 s3 A3 l3 c3 t3 B3 m3 d3 e,bV9 2 38 s0 A0 l0 c0 t0 B0 m0 d0 s1 A1 l1 c1 t1 B1 m1 d1 d] ?_))
 refine xe (sx_next (sx_seq (sx_block (sx_seq (sx_region (xr 4 [(2, .p 2 0),(3, .p 3 0),(4, .v (.int .i64 0)),(9, .v (.bool ((d:Int) == 1)))] [bV9 3 38 s2 A2 l2 c2 t2 B2 m2 d2 s3 A3 l3 c3 t3 B3 m3 d3 e,bV9 2 38 s0 A0 l0 c0 t0 B0 m0 d0 s1 A1 l1 c1 t1 B1 m1 d1 d] ?_))))))
 rcases bool2 (((d:Int) == 1)) with hb10 | hb10
 ·rw [hb10]
  refine xr 7 [(2, .p 2 0),(3, .p 3 0),(4, .v (.int .i64 0)),(5, .v (.bool true))] [bV9 3 38 s2 A2 l2 c2 t2 B2 m2 d2 s3 A3 l3 c3 t3 B3 m3 d3 e,bV9 2 38 s0 A0 l0 c0 t0 B0 m0 d0 s1 A1 l1 c1 t1 B1 m1 d1 d] ?_
  refine xe (sx_next (xa (sx_seq (sx_region (xr 3 [(4, .v (.int .i64 e))] [] ?_)))))
  refine xe (sx_next (sx_ret (sx_in_ret (sx_then_ret ?_))))
  refine sx_done (v:=.int .i64 e) (by kernel_rfl) (fun w' hE hΦ=>?_)
  exact ⟨by rw [fld1 hb10],hE⟩
 ·rw [hb10]
  refine xr 7 [(2, .p 2 0),(3, .p 3 0),(4, .v (.int .i64 0)),(5, .v (.bool ((d:Int) == e)))] [bV9 3 38 s2 A2 l2 c2 t2 B2 m2 d2 s3 A3 l3 c3 t3 B3 m3 d3 e,bV9 2 38 s0 A0 l0 c0 t0 B0 m0 d0 s1 A1 l1 c1 t1 B1 m1 d1 d] ?_
  refine xe (sx_next ?_)
  refine sx_cond (((d:Int) == e)) (by kernel_rfl) (fun hb11=>?_) (fun hb11=>?_)
  ·refine sx_seq (sx_region (xr 3 [(4, .v (.int .i64 e))] [] ?_))
   refine xe (sx_next (sx_ret (sx_in_ret (sx_then_ret ?_))))
   refine sx_done (v:=.int .i64 e) (by kernel_rfl) (fun w' hE hΦ=>?_)
   exact ⟨by rw [fld2 hb10 hb11],hE⟩
  ·refine sx_seq (sx_region (xr 4 [(2, .p 2 0),(4, .v (.int .i64 0)),(18, .v (.bool ((e:Int) == 1)))] [bV9 2 38 s0 A0 l0 c0 t0 B0 m0 d0 s1 A1 l1 c1 t1 B1 m1 d1 d] ?_))
   refine xe (sx_next ?_)
   refine sx_cond (((e:Int) == 1)) (by kernel_rfl) (fun hb12=>?_) (fun hb12=>?_)
   ·refine sx_seq (sx_region (xr 3 [(4, .v (.int .i64 d))] [] ?_))
    refine xe (sx_next (sx_ret (sx_in_ret (sx_then_ret ?_))))
    refine sx_done (v:=.int .i64 d) (by kernel_rfl) (fun w' hE hΦ=>?_)
    exact ⟨by rw [fld3 hb10 hb11 hb12],hE⟩
   ·refine sx_skip (sx_out (sx_next (sx_seq (sx_region (xr 1 [(4, .v (.int .i64 0))] [] ?_)))))
    refine xe (sx_next (sx_ret ?_))
    refine sx_done (v:=.int .i64 0) (by kernel_rfl) (fun w' hE hΦ=>?_)
    exact ⟨by rw [fld4 hb10 hb11 hb12],hE⟩
set_option maxRecDepth 100000 in
theorem RConj_any (vx:Value) (x:Sd) (w:World) (hhx:RSdIs w vx x)  :
 Calls Tryz.prog 27 #[vx] w (RetRSd w x.conj):=by
 obtain ⟨X0,X1,rfl,hx1,hx2⟩:=hhx.shq
 refine sx_enter (Φ:=fun w=>(NRatIs w (shRat X0) (x.a)∧NRatIs w (shRat X1) (x.b))) Tryz.func27 rfl (by kernel_rfl) (fun w' hf=>⟨hx1.ext hf,hx2.ext hf⟩) ?_
 refine sx_seq (sx_region (xr 2 [(1, .p 1 0),(2, .p 2 0)] [bW 2 38 nQ nQ 0,bW 1 38 X0 X1 x.d] ?_))
 refine xe (sx_next (sx_seq ?_))
 refine sx_draw 9 (by kernel_rfl) (by kernel_rfl) follows_mixed' ?_
 refine xf 4 [(1, .p 1 0),(2, .p 2 0),eQ 4 X0,eQ 6 X1] [bW 2 38 nQ nQ 0,bW 1 38 X0 X1 x.d] ?_
 refine xd 109 [vQ X1] 7 shRat _ (fun w hE hΦ=>(NRNeg_any _ x.b _ hΦ.2).mono (fun _ _ h=>post_NRat h)) (fun X10=>?_)
 refine xf 4 [(2, .p 2 0)] [bW 2 38 X0 X10 x.d,bW 2 38 nQ nQ 0,bW 1 38 X0 X1 x.d] ?_
 refine xz (xe (sx_next (sx_ret ?_)))
 refine sx_done (v:=vW X0 X10 x.d) (by kernel_rfl) (fun w' hE hΦ=>?_)
 exact ⟨_,rfl,(RSdIs.of hΦ.1.1 hΦ.2),hE⟩
set_option maxRecDepth 100000 in
theorem RWrite_any (vx:Value) (x:Sd) (w:World) (hhx:RSdIs w vx x) {j:Nat} (za:Dq x.a j) (zb:Dq x.b j) (hj:j≤65536) :
 Calls Tryz.prog 26 #[vx] w (RetV w (.agg #[.string ⟨(ratText x.a).toArray⟩, .string ⟨(ratText x.b).toArray⟩, .int .i64 x.d])):=by
 obtain ⟨X0,X1,rfl,hx1,hx2⟩:=hhx.shq
 refine sx_enter (Φ:=fun w=>(NRatIs w (shRat X0) (x.a)∧NRatIs w (shRat X1) (x.b))) Tryz.func26 rfl (by kernel_rfl) (fun w' hf=>⟨hx1.ext hf,hx2.ext hf⟩) ?_
 refine sx_seq (sx_region (xr 2 [(1, .p 1 0),(2, .p 2 0)] [bS3 2 23 ⟨#[]⟩ ⟨#[]⟩ 0,bW 1 38 X0 X1 x.d] ?_))
 refine xe (sx_next (sx_seq ?_))
 refine sx_draw 10 (by kernel_rfl) (by kernel_rfl) follows_mixed' ?_
 refine xf 2 [(1, .p 1 0),(2, .p 2 0),eQ 4 X0] [bS3 2 23 ⟨#[]⟩ ⟨#[]⟩ 0,bW 1 38 X0 X1 x.d] ?_
 refine xd 28 [vQ X0] 5 (fun _:Unit=>.string ⟨(ratText x.a).toArray⟩) _ (fun w hE hΦ=>(sText (k:=j) hΦ.1 za (by omega)).mono (fun _ _ h=>post_val h rfl)) (fun xx=>?_)
 refine xf 2 [(1, .p 1 0),(2, .p 2 0),(5, .v (.string ⟨(ratText x.a).toArray⟩)),eQ 7 X1] [bS3 2 23 ⟨#[]⟩ ⟨#[]⟩ 0,bW 1 38 X0 X1 x.d] ?_
 refine xd 28 [vQ X1] 8 (fun _:Unit=>.string ⟨(ratText x.b).toArray⟩) _ (fun w hE hΦ=>(sText (k:=j) hΦ.1.2 zb (by omega)).mono (fun _ _ h=>post_val h rfl)) (fun xx=>?_)
 refine xf 4 [(2, .p 2 0)] [bS3 2 23 ⟨(ratText x.a).toArray⟩ ⟨(ratText x.b).toArray⟩ x.d,bS3 2 23 ⟨#[]⟩ ⟨#[]⟩ 0,bW 1 38 X0 X1 x.d] ?_
 refine xz (xe (sx_next (sx_ret ?_)))
 refine sx_done (v:=.agg #[.string ⟨(ratText x.a).toArray⟩, .string ⟨(ratText x.b).toArray⟩, .int .i64 x.d]) (by kernel_rfl) (fun w' hE hΦ=>?_)
 exact ⟨rfl,hE⟩
set_option maxRecDepth 100000 in
theorem RBuild_any (vp vq:Value) (p:Rat) (q:Rat) (d:Int) (w:World) (hhp:NRatIs w vp p) (hhq:NRatIs w vq q) (hp:RFits p) (hq:RFits q) :
 Calls Tryz.prog 75 #[vp,vq, .int .i64 d] w (RetRSd w (Sd.build p q d)):=by
 obtain ⟨X8,rfl⟩:=hhp.shq
 obtain ⟨X9,rfl⟩:=hhq.shq
 refine sx_enter (Φ:=fun w=>(NRatIs w (shRat X8) (p)∧NRatIs w (shRat X9) (q))) Tryz.func75 rfl (by kernel_rfl) (fun w' hf=>⟨hhp.ext hf,hhq.ext hf⟩) ?_
 refine sx_seq (sx_region (xr 3 [(2, .v (.int .i64 d)),(3, .p 3 0),(4, .p 4 0),(6, .p 6 0)] [bW 6 38 nQ nQ 0,bQ 4 36 X9,bQ 3 36 X8] ?_))
 refine xe (sx_next (sx_seq (sx_seq (sx_region (xr 2 [(2, .v (.int .i64 d)),(3, .p 3 0),(4, .p 4 0),(6, .p 6 0),(8, .v (.bool ((d:Int) == 1)))] [bW 6 38 nQ nQ 0,bQ 4 36 X9,bQ 3 36 X8] ?_)))))
 refine xe (sx_next ?_)
 refine sx_cond (((d:Int) == 1)) (by kernel_rfl) (fun hb10=>?_) (fun hb10=>?_)
 ·refine sx_seq (sx_region (xr 2 [(2, .v (.int .i64 d)),(3, .p 3 0),(4, .p 4 0),(6, .p 6 0),eQ 9 X8,eQ 10 X9] [bW 6 38 nQ nQ 0,bQ 4 36 X9,bQ 3 36 X8] ?_))
  refine xc 176 [vQ X8,vQ X9] 11 shRat _ (fun w hE hΦ=>(NRAdd_any _ _ p q _ hΦ.1 hΦ.2 hp hq).mono (fun _ _ h=>post_NRat h)) (fun X11=>?_)
  refine xr 0 [(2, .v (.int .i64 d)),(3, .p 3 0),(4, .p 4 0),(6, .p 6 0),eQ 11 X11] [bW 6 38 nQ nQ 0,bQ 4 36 X9,bQ 3 36 X8] ?_
  refine xc 74 [vQ X11] 12 (shSd 1) _ (fun w hE hΦ=>(RRat_any _ (p + q) _ hΦ.2).mono (fun _ _ h=>post_RSd h)) (fun xx=>?_)
  obtain ⟨X12,X13⟩:=xx
  refine xr 1 [(2, .v (.int .i64 d)),(3, .p 3 0),(4, .p 4 0),(6, .p 6 0)] [bW 6 38 X12 X13 1,bQ 4 36 X9,bQ 3 36 X8] ?_
  refine xe (sx_next (sx_ret (sx_then_ret ?_)))
  refine sx_done (v:=vW X12 X13 1) (by kernel_rfl) (fun w' hE hΦ=>?_)
  exact ⟨_,rfl,by rw [bld_one _ _ hb10]; exact (RSdIs.of hΦ.2.1 hΦ.2.2),hE⟩
 ·refine sx_skip (sx_next (sx_seq (sx_seq (sx_region (xr 1 [(2, .v (.int .i64 d)),(3, .p 3 0),(4, .p 4 0),(6, .p 6 0),eQ 13 X9] [bW 6 38 nQ nQ 0,bQ 4 36 X9,bQ 3 36 X8] ?_)))))
  by_cases hzq:q.num=0
  ·refine xc 103 [vQ X9] 14 (fun _:Unit=>.int .i64 q.num.sign) _ (fun w hE hΦ=>(NRSign_any _ q _ hΦ.2).mono (fun _ _ h=>post_val h rfl)) (fun xx=>?_)
   refine xr 1 [(2, .v (.int .i64 d)),(3, .p 3 0),(4, .p 4 0),(6, .p 6 0),(15, .v (.bool ((q.num.sign:Int) == 0)))] [bW 6 38 nQ nQ 0,bQ 4 36 X9,bQ 3 36 X8] ?_
   rw [sge_t hzq]
   refine xr 0 [(2, .v (.int .i64 d)),(3, .p 3 0),(4, .p 4 0),(6, .p 6 0),(15, .v (.bool true))] [bW 6 38 nQ nQ 0,bQ 4 36 X9,bQ 3 36 X8] ?_
   refine xe (sx_next (xa (sx_seq (sx_region (xr 1 [(2, .v (.int .i64 d)),(3, .p 3 0),(4, .p 4 0),(6, .p 6 0),eQ 16 X8] [bW 6 38 nQ nQ 0,bQ 4 36 X9,bQ 3 36 X8] ?_)))))
   refine xc 74 [vQ X8] 17 (shSd 1) _ (fun w hE hΦ=>(RRat_any _ p _ hΦ.1.1).mono (fun _ _ h=>post_RSd h)) (fun xx=>?_)
   obtain ⟨X14,X15⟩:=xx
   refine xr 1 [(2, .v (.int .i64 d)),(3, .p 3 0),(4, .p 4 0),(6, .p 6 0)] [bW 6 38 X14 X15 1,bQ 4 36 X9,bQ 3 36 X8] ?_
   refine xe (sx_next (sx_ret (sx_then_ret ?_)))
   refine sx_done (v:=vW X14 X15 1) (by kernel_rfl) (fun w' hE hΦ=>?_)
   exact ⟨_,rfl,by rw [bld_zero _ hb10 hzq]; exact (RSdIs.of hΦ.2.1 hΦ.2.2),hE⟩
  ·refine xc 103 [vQ X9] 14 (fun _:Unit=>.int .i64 q.num.sign) _ (fun w hE hΦ=>(NRSign_any _ q _ hΦ.2).mono (fun _ _ h=>post_val h rfl)) (fun xx=>?_)
   refine xr 1 [(2, .v (.int .i64 d)),(3, .p 3 0),(4, .p 4 0),(6, .p 6 0),(15, .v (.bool ((q.num.sign:Int) == 0)))] [bW 6 38 nQ nQ 0,bQ 4 36 X9,bQ 3 36 X8] ?_
   rw [sge_f hzq]
   refine xr 0 [(2, .v (.int .i64 d)),(3, .p 3 0),(4, .p 4 0),(6, .p 6 0),(15, .v (.bool false))] [bW 6 38 nQ nQ 0,bQ 4 36 X9,bQ 3 36 X8] ?_
   refine xe (sx_next (xb (sx_skip (sx_next (sx_seq (sx_region (xr 5 [(6, .p 6 0)] [bW 6 38 X8 X9 d] ?_)))))))
   refine xe (sx_next (sx_ret ?_))
   refine sx_done (v:=vW X8 X9 d) (by kernel_rfl) (fun w' hE hΦ=>?_)
   exact ⟨_,rfl,by rw [bld_nz _ hb10 hzq]; exact (RSdIs.of hΦ.1.1 hΦ.1.2),hE⟩
set_option maxRecDepth 100000 in
theorem RTimes_any (vx vy:Value) (x:Sd) (y:Sd) (w:World) (hhx:RSdIs w vx x) (hhy:RSdIs w vy y) {jx:Nat} (zx:Sz x jx) {jy:Nat} (zy:Sz y jy) (hB:Blg x.d y.d) (hj:jx + jy≤40000) :
 Calls Tryz.prog 78 #[vx,vy] w (RetRSd w (x.rtimes y)):=by
 obtain ⟨X0,X1,rfl,hx1,hx2⟩:=hhx.shq
 obtain ⟨X2,X3,rfl,hy1,hy2⟩:=hhy.shq
 have hfl:=zx.fl zy hB
 refine sx_enter (Φ:=fun w=>(((NRatIs w (shRat X0) (x.a)∧NRatIs w (shRat X1) (x.b))∧NRatIs w (shRat X2) (y.a))∧NRatIs w (shRat X3) (y.b))) Tryz.func78 rfl (by kernel_rfl) (fun w' hf=>⟨⟨⟨hx1.ext hf,hx2.ext hf⟩,hy1.ext hf⟩,hy2.ext hf⟩) ?_
 refine sx_seq (sx_region (xr 3 [(2, .p 2 0),(3, .p 3 0),(4, .p 4 0)] [bW 4 38 nQ nQ 0,bW 3 38 X2 X3 y.d,bW 2 38 X0 X1 x.d] ?_))
 refine xe (sx_next (sx_seq (sx_region (xr 2 [(2, .p 2 0),(3, .p 3 0),(4, .p 4 0),eW 7 X0 X1 x.d,eW 8 X2 X3 y.d] [bW 4 38 nQ nQ 0,bW 3 38 X2 X3 y.d,bW 2 38 X0 X1 x.d] ?_))))
 refine xc 118 [vW X0 X1 x.d,vW X2 X3 y.d] 9 (fun _:Unit=>.int .i64 (Sd.fld x.d y.d)) _ (fun w hE hΦ=>(RField_any _ _ _ _ _ _ _ _ _ _ _ _ _ _ _ _ _ _ _ _ _ _ _ _ _ _ _ _ _ _ _ _ _ _ _).mono (fun _ _ h=>post_val h rfl)) (fun xx=>?_)
 refine xr 1 [(2, .p 2 0),(3, .p 3 0),(4, .p 4 0),(5, .v (.int .i64 (Sd.fld x.d y.d)))] [bW 4 38 nQ nQ 0,bW 3 38 X2 X3 y.d,bW 2 38 X0 X1 x.d] ?_
 refine xe (sx_next (sx_seq ?_))
 refine sx_draw 16 (by kernel_rfl) (by kernel_rfl) follows_mixed' ?_
 refine xf 4 [(2, .p 2 0),(3, .p 3 0),(4, .p 4 0),(5, .v (.int .i64 (Sd.fld x.d y.d))),eQ 11 X0,eQ 13 X2] [bW 4 38 nQ nQ 0,bW 3 38 X2 X3 y.d,bW 2 38 X0 X1 x.d] ?_
 refine xd 101 [vQ X0,vQ X2] 14 shRat _ (fun w hE hΦ=>(NRMul_any _ _ x.a y.a _ hΦ.1.1.1.1 hΦ.1.1.2 (zx.a.rfit (by omega)) (zy.a.rfit (by omega))).mono (fun _ _ h=>post_NRat h)) (fun X10=>?_)
 refine xf 1 [(2, .p 2 0),(3, .p 3 0),(4, .p 4 0),(5, .v (.int .i64 (Sd.fld x.d y.d))),eQ 14 X10,(15, .v (.int .i64 (Sd.fld x.d y.d)))] [bW 4 38 nQ nQ 0,bW 3 38 X2 X3 y.d,bW 2 38 X0 X1 x.d] ?_
 refine xd 77 [.int .i64 (Sd.fld x.d y.d)] 16 shRat _ (fun w hE hΦ=>(NR_any (Sd.fld x.d y.d) _ (by omega) (by omega)).mono (fun _ _ h=>post_NRat h)) (fun X11=>?_)
 refine xf 4 [(2, .p 2 0),(3, .p 3 0),(4, .p 4 0),(5, .v (.int .i64 (Sd.fld x.d y.d))),eQ 14 X10,eQ 16 X11,eQ 18 X1,eQ 20 X3] [bW 4 38 nQ nQ 0,bW 3 38 X2 X3 y.d,bW 2 38 X0 X1 x.d] ?_
 refine xd 101 [vQ X1,vQ X3] 21 shRat _ (fun w hE hΦ=>(NRMul_any _ _ x.b y.b _ hΦ.1.1.1.1.1.2 hΦ.1.1.1.2 (zx.b.rfit (by omega)) (zy.b.rfit (by omega))).mono (fun _ _ h=>post_NRat h)) (fun X12=>?_)
 refine xf 0 [(2, .p 2 0),(3, .p 3 0),(4, .p 4 0),(5, .v (.int .i64 (Sd.fld x.d y.d))),eQ 14 X10,eQ 16 X11,eQ 21 X12] [bW 4 38 nQ nQ 0,bW 3 38 X2 X3 y.d,bW 2 38 X0 X1 x.d] ?_
 refine xd 101 [vQ X11,vQ X12] 22 shRat _ (fun w hE hΦ=>(NRMul_any _ _ (((Sd.fld x.d y.d:Int):Rat)) (x.b * y.b) _ hΦ.1.2 hΦ.2 ((Dq.fl zx zy hB).rfit (by omega)) ((zx.b.mul zy.b).rfit (by omega))).mono (fun _ _ h=>post_NRat h)) (fun X13=>?_)
 refine xf 0 [(2, .p 2 0),(3, .p 3 0),(4, .p 4 0),(5, .v (.int .i64 (Sd.fld x.d y.d))),eQ 14 X10,eQ 22 X13] [bW 4 38 nQ nQ 0,bW 3 38 X2 X3 y.d,bW 2 38 X0 X1 x.d] ?_
 refine xd 176 [vQ X10,vQ X13] 23 shRat _ (fun w hE hΦ=>(NRAdd_any _ _ (x.a * y.a) ((((Sd.fld x.d y.d:Int):Rat)) * (x.b * y.b)) _ hΦ.1.1.1.2 hΦ.2 ((zx.a.mul zy.a).rfit (by omega)) (((Dq.fl zx zy hB).mul (zx.b.mul zy.b)).rfit (by omega))).mono (fun _ _ h=>post_NRat h)) (fun X14=>?_)
 refine xf 2 [(2, .p 2 0),(3, .p 3 0),(4, .p 4 0),(5, .v (.int .i64 (Sd.fld x.d y.d))),(6, .p 6 0)] [bQ 6 36 X14,bR4 6 36 false none 0 0 false none 0 0,bW 4 38 nQ nQ 0,bW 3 38 X2 X3 y.d,bW 2 38 X0 X1 x.d] ?_
 refine xz (xe (sx_next (sx_seq ?_)))
 refine sx_draw 15 (by kernel_rfl) (by kernel_rfl) follows_mixed' ?_
 refine xf 5 [(2, .p 2 0),(3, .p 3 0),(4, .p 4 0),(5, .v (.int .i64 (Sd.fld x.d y.d))),eQ 24 X14,eQ 26 X0,eQ 28 X3] [bQ 6 36 X14,bR4 6 36 false none 0 0 false none 0 0,bW 4 38 nQ nQ 0,bW 3 38 X2 X3 y.d,bW 2 38 X0 X1 x.d] ?_
 refine xd 101 [vQ X0,vQ X3] 29 shRat _ (fun w hE hΦ=>(NRMul_any _ _ x.a y.b _ hΦ.1.1.1.1.1.1.1.1.1 hΦ.1.1.1.1.1.1.2 (zx.a.rfit (by omega)) (zy.b.rfit (by omega))).mono (fun _ _ h=>post_NRat h)) (fun X15=>?_)
 refine xf 4 [(4, .p 4 0),(5, .v (.int .i64 (Sd.fld x.d y.d))),eQ 24 X14,eQ 29 X15,eQ 31 X1,eQ 33 X2] [bQ 6 36 X14,bR4 6 36 false none 0 0 false none 0 0,bW 4 38 nQ nQ 0,bW 3 38 X2 X3 y.d,bW 2 38 X0 X1 x.d] ?_
 refine xd 101 [vQ X1,vQ X2] 34 shRat _ (fun w hE hΦ=>(NRMul_any _ _ x.b y.a _ hΦ.1.1.1.1.1.1.1.1.1.2 hΦ.1.1.1.1.1.1.1.1.2 (zx.b.rfit (by omega)) (zy.a.rfit (by omega))).mono (fun _ _ h=>post_NRat h)) (fun X16=>?_)
 refine xf 0 [(4, .p 4 0),(5, .v (.int .i64 (Sd.fld x.d y.d))),eQ 24 X14,eQ 29 X15,eQ 34 X16] [bQ 6 36 X14,bR4 6 36 false none 0 0 false none 0 0,bW 4 38 nQ nQ 0,bW 3 38 X2 X3 y.d,bW 2 38 X0 X1 x.d] ?_
 refine xd 176 [vQ X15,vQ X16] 35 shRat _ (fun w hE hΦ=>(NRAdd_any _ _ (x.a * y.b) (x.b * y.a) _ hΦ.1.2 hΦ.2 ((zx.a.mul zy.b).rfit (by omega)) ((zx.b.mul zy.a).rfit (by omega))).mono (fun _ _ h=>post_NRat h)) (fun X17=>?_)
 refine xf 1 [(4, .p 4 0),eQ 24 X14,eQ 35 X17,(36, .v (.int .i64 (Sd.fld x.d y.d)))] [bQ 6 36 X14,bR4 6 36 false none 0 0 false none 0 0,bW 4 38 nQ nQ 0,bW 3 38 X2 X3 y.d,bW 2 38 X0 X1 x.d] ?_
 refine xd 75 [vQ X14,vQ X17, .int .i64 (Sd.fld x.d y.d)] 37 (shSd ((Sd.build ((x.a * y.a) + ((((Sd.fld x.d y.d:Int):Rat)) * (x.b * y.b))) ((x.a * y.b) + (x.b * y.a)) (Sd.fld x.d y.d)).d)) _ (fun w hE hΦ=>(RBuild_any _ _ ((x.a * y.a) + ((((Sd.fld x.d y.d:Int):Rat)) * (x.b * y.b))) ((x.a * y.b) + (x.b * y.a)) (Sd.fld x.d y.d) _ hΦ.1.1.1.2 hΦ.2 (((zx.a.mul zy.a).add ((Dq.fl zx zy hB).mul (zx.b.mul zy.b))).rfit (by omega)) (((zx.a.mul zy.b).add (zx.b.mul zy.a)).rfit (by omega))).mono (fun _ _ h=>post_RSd h)) (fun xx=>?_)
 obtain ⟨⟨s18,A18,l18,c18,t18,B18,m18,d18⟩,⟨s19,A19,l19,c19,t19,B19,m19,d19⟩⟩:=xx
 refine xf 1 [(4, .p 4 0)] [(4,38,[.v (.bool s18), .v (.slice A18 l18 c18), .v (.bool t18), .v (.slice B18 m18 d18), .v (.bool s19), .v (.slice A19 l19 c19), .v (.bool t19), .v (.slice B19 m19 d19), .v (.int .i64 ((Sd.build ((x.a * y.a) + ((((Sd.fld x.d y.d:Int):Rat)) * (x.b * y.b))) ((x.a * y.b) + (x.b * y.a)) (Sd.fld x.d y.d)).d))]),bQ 6 36 X14,bR4 6 36 false none 0 0 false none 0 0,bW 4 38 nQ nQ 0,bW 3 38 X2 X3 y.d,bW 2 38 X0 X1 x.d] ?_
 refine xz (xe (sx_next (sx_ret ?_)))
 refine sx_done (v:=.agg #[.bool s18, .slice A18 l18 c18, .bool t18, .slice B18 m18 d18, .bool s19, .slice A19 l19 c19, .bool t19, .slice B19 m19 d19, .int .i64 ((Sd.build ((x.a * y.a) + ((((Sd.fld x.d y.d:Int):Rat)) * (x.b * y.b))) ((x.a * y.b) + (x.b * y.a)) (Sd.fld x.d y.d)).d)]) (by kernel_rfl) (fun w' hE hΦ=>?_)
 exact ⟨_,rfl,(RSdIs.of hΦ.2.1 hΦ.2.2),hE⟩
set_option maxRecDepth 100000 in
theorem RAbs2_any (vx:Value) (x:Sd) (w:World) (hhx:RSdIs w vx x) {jx:Nat} (zx:Sz x jx) (hj:jx≤20000) :
 Calls Tryz.prog 29 #[vx] w (RetNRat w x.rnorm):=by
 obtain ⟨X0,X1,rfl,hx1,hx2⟩:=hhx.shq
 refine sx_enter (Φ:=fun w=>(NRatIs w (shRat X0) (x.a)∧NRatIs w (shRat X1) (x.b))) Tryz.func29 rfl (by kernel_rfl) (fun w' hf=>⟨hx1.ext hf,hx2.ext hf⟩) ?_
 refine sx_seq (sx_region (xr 2 [(1, .p 1 0),(2, .p 2 0)] [bR4 2 36 false none 0 0 false none 0 0,bW 1 38 X0 X1 x.d] ?_))
 refine xe (sx_next (sx_seq ?_))
 refine sx_draw 6 (by kernel_rfl) (by kernel_rfl) follows_mixed' ?_
 refine xf 2 [(2, .p 2 0),eW 3 X0 X1 x.d,eW 4 X0 X1 x.d] [bR4 2 36 false none 0 0 false none 0 0,bW 1 38 X0 X1 x.d] ?_
 refine xd 27 [vW X0 X1 x.d] 5 (shSd x.conj.d) _ (fun w hE hΦ=>(RConj_any _ x _ (RSdIs.of hΦ.1 hΦ.2)).mono (fun _ _ h=>post_RSd h)) (fun xx=>?_)
 obtain ⟨X10,X11⟩:=xx
 refine xf 0 [(2, .p 2 0),eW 3 X0 X1 x.d,eW 5 X10 X11 x.conj.d] [bR4 2 36 false none 0 0 false none 0 0,bW 1 38 X0 X1 x.d] ?_
 refine xd 78 [vW X0 X1 x.d,vW X10 X11 x.conj.d] 6 (shSd ((x.rtimes x.conj).d)) _ (fun w hE hΦ=>(RTimes_any _ _ x x.conj _ (RSdIs.of hΦ.1.1 hΦ.1.2) (RSdIs.of hΦ.2.1 hΦ.2.2) zx zx.conj (blg_conj x) (by omega)).mono (fun _ _ h=>post_RSd h)) (fun xx=>?_)
 obtain ⟨X12,X13⟩:=xx
 refine xf 2 [(2, .p 2 0)] [bQ 2 36 X12,bR4 2 36 false none 0 0 false none 0 0,bW 1 38 X0 X1 x.d] ?_
 refine xz (xe (sx_next (sx_ret ?_)))
 refine sx_done (v:=shRat X12) (by kernel_rfl) (fun w' hE hΦ=>?_)
 exact ⟨_,rfl,hΦ.2.1,hE⟩
set_option maxRecDepth 100000 in
theorem RSgn_any (vx:Value) (x:Sd) (w:World) (hhx:RSdIs w vx x) {jx:Nat} (zx:Sz x jx) (hj:jx≤20000) :
 Calls Tryz.prog 30 #[vx] w (RetV w (.int .i64 x.rsgn)):=by
 obtain ⟨X0,X1,rfl,hx1,hx2⟩:=hhx.shq
 have hd1:=zx.lo
 have hd2:=zx.hi
 refine sx_enter (Φ:=fun w=>(NRatIs w (shRat X0) (x.a)∧NRatIs w (shRat X1) (x.b))) Tryz.func30 rfl (by kernel_rfl) (fun w' hf=>⟨hx1.ext hf,hx2.ext hf⟩) ?_
 refine sx_seq (sx_region (xr 2 [(1, .p 1 0),(2, .v (.int .i64 0))] [bW 1 38 X0 X1 x.d] ?_))
 refine xe (sx_next (sx_seq ?_))
 refine sx_draw 8 (by kernel_rfl) (by kernel_rfl) follows_mixed' ?_
 refine xf 2 [(1, .p 1 0),(2, .v (.int .i64 0)),eQ 6 X0] [bW 1 38 X0 X1 x.d] ?_
 refine xd 103 [vQ X0] 7 (fun _:Unit=>.int .i64 x.a.num.sign) _ (fun w hE hΦ=>(NRSign_any _ x.a _ hΦ.1).mono (fun _ _ h=>post_val h rfl)) (fun xx=>?_)
 refine xf 2 [(1, .p 1 0),(2, .v (.int .i64 0)),(7, .v (.int .i64 x.a.num.sign)),eQ 9 X1] [bW 1 38 X0 X1 x.d] ?_
 refine xd 103 [vQ X1] 10 (fun _:Unit=>.int .i64 x.b.num.sign) _ (fun w hE hΦ=>(NRSign_any _ x.b _ hΦ.1.2).mono (fun _ _ h=>post_val h rfl)) (fun xx=>?_)
 refine xf 2 [(1, .p 1 0),(2, .v (.int .i64 0)),(3, .v (.int .i64 x.a.num.sign)),(4, .v (.int .i64 x.b.num.sign))] [bW 1 38 X0 X1 x.d] ?_
 refine xz (xe (sx_next (sx_seq (sx_seq (sx_region (xr 3 [(1, .p 1 0),(2, .v (.int .i64 0)),(3, .v (.int .i64 x.a.num.sign)),(4, .v (.int .i64 x.b.num.sign)),(13, .v (.bool ((x.a.num.sign:Int) == 0)))] [bW 1 38 X0 X1 x.d] ?_))))))
 rcases bool2 (((x.a.num.sign:Int) == 0)) with hb10 | hb10
 ·rw [hb10]
  refine xr 8 [(1, .p 1 0),(2, .v (.int .i64 0)),(3, .v (.int .i64 x.a.num.sign)),(4, .v (.int .i64 x.b.num.sign)),(21, .v (.bool true))] [bW 1 38 X0 X1 x.d] ?_
  refine xe (sx_next (xa (sx_seq (sx_seq (sx_region (xr 2 [(1, .p 1 0),(2, .v (.int .i64 0)),(3, .v (.int .i64 x.a.num.sign)),(4, .v (.int .i64 x.b.num.sign)),(23, .v (.bool ((x.a.num.sign:Int) == 0)))] [bW 1 38 X0 X1 x.d] ?_))))))
  rw [hb10]
  refine xr 0 [(1, .p 1 0),(2, .v (.int .i64 0)),(3, .v (.int .i64 x.a.num.sign)),(4, .v (.int .i64 x.b.num.sign)),(23, .v (.bool true))] [bW 1 38 X0 X1 x.d] ?_
  refine xe (sx_next (xa (sx_seq (sx_region (xr 2 [(1, .p 1 0),(2, .v (.int .i64 x.b.num.sign)),(3, .v (.int .i64 x.a.num.sign))] [bW 1 38 X0 X1 x.d] ?_)))))
  refine xe (sx_next (sx_ret (sx_then_ret (sx_then_ret ?_))))
  refine sx_done (v:=.int .i64 x.b.num.sign) (by kernel_rfl) (fun w' hE hΦ=>?_)
  exact ⟨by unfold Sd.rsgn; simp_all,hE⟩
 ·rw [hb10]
  refine xr 4 [(1, .p 1 0),(2, .v (.int .i64 0)),(3, .v (.int .i64 x.a.num.sign)),(4, .v (.int .i64 x.b.num.sign)),(17, .v (.bool ((x.b.num.sign:Int) == 0)))] [bW 1 38 X0 X1 x.d] ?_
  rcases bool2 (((x.b.num.sign:Int) == 0)) with hb11 | hb11
  ·rw [hb11]
   refine xr 4 [(1, .p 1 0),(2, .v (.int .i64 0)),(3, .v (.int .i64 x.a.num.sign)),(4, .v (.int .i64 x.b.num.sign)),(21, .v (.bool true))] [bW 1 38 X0 X1 x.d] ?_
   refine xe (sx_next (xa (sx_seq (sx_seq (sx_region (xr 2 [(1, .p 1 0),(2, .v (.int .i64 0)),(3, .v (.int .i64 x.a.num.sign)),(4, .v (.int .i64 x.b.num.sign)),(23, .v (.bool ((x.a.num.sign:Int) == 0)))] [bW 1 38 X0 X1 x.d] ?_))))))
   rw [hb10]
   refine xr 0 [(1, .p 1 0),(2, .v (.int .i64 0)),(3, .v (.int .i64 x.a.num.sign)),(4, .v (.int .i64 x.b.num.sign)),(23, .v (.bool false))] [bW 1 38 X0 X1 x.d] ?_
   refine xe (sx_next (xb (sx_skip (sx_next (sx_seq (sx_region (xr 2 [(1, .p 1 0),(2, .v (.int .i64 x.a.num.sign)),(3, .v (.int .i64 x.a.num.sign))] [bW 1 38 X0 X1 x.d] ?_)))))))
   refine xe (sx_next (sx_ret (sx_then_ret ?_)))
   refine sx_done (v:=.int .i64 x.a.num.sign) (by kernel_rfl) (fun w' hE hΦ=>?_)
   exact ⟨by unfold Sd.rsgn; simp_all,hE⟩
  ·rw [hb11]
   refine xr 4 [(1, .p 1 0),(2, .v (.int .i64 0)),(3, .v (.int .i64 x.a.num.sign)),(4, .v (.int .i64 x.b.num.sign)),(21, .v (.bool ((x.a.num.sign:Int) == x.b.num.sign)))] [bW 1 38 X0 X1 x.d] ?_
   refine xe (sx_next ?_)
   refine sx_cond (((x.a.num.sign:Int) == x.b.num.sign)) (by kernel_rfl) (fun hb12=>?_) (fun hb12=>?_)
   ·refine sx_seq (sx_seq (sx_region (xr 2 [(1, .p 1 0),(2, .v (.int .i64 0)),(3, .v (.int .i64 x.a.num.sign)),(4, .v (.int .i64 x.b.num.sign)),(23, .v (.bool ((x.a.num.sign:Int) == 0)))] [bW 1 38 X0 X1 x.d] ?_)))
    rw [hb10]
    refine xr 0 [(1, .p 1 0),(2, .v (.int .i64 0)),(3, .v (.int .i64 x.a.num.sign)),(4, .v (.int .i64 x.b.num.sign)),(23, .v (.bool false))] [bW 1 38 X0 X1 x.d] ?_
    refine xe (sx_next (xb (sx_skip (sx_next (sx_seq (sx_region (xr 2 [(1, .p 1 0),(2, .v (.int .i64 x.a.num.sign)),(3, .v (.int .i64 x.a.num.sign))] [bW 1 38 X0 X1 x.d] ?_)))))))
    refine xe (sx_next (sx_ret (sx_then_ret ?_)))
    refine sx_done (v:=.int .i64 x.a.num.sign) (by kernel_rfl) (fun w' hE hΦ=>?_)
    exact ⟨by unfold Sd.rsgn; simp_all,hE⟩
   ·refine sx_skip (sx_next (sx_seq ?_))
    refine sx_drawM 19 [0,0,2,0,8,30,0,64,254,0,512,0,2048,8190,16382,32766,65534,131071,262143] (by kernel_rfl) (by kernel_rfl) follows_mixed' ?_
    refine xf 5 [(1, .p 1 0),(2, .v (.int .i64 0)),(26, .v (.int .i64 x.a.num.sign)),eQ 28 X0,eQ 30 X0] [bW 1 38 X0 X1 x.d] ?_
    refine xd 101 [vQ X0,vQ X0] 31 shRat _ (fun w hE hΦ=>(NRMul_any _ _ x.a x.a _ hΦ.1.1.1 hΦ.1.1.1 (zx.a.rfit (by omega)) (zx.a.rfit (by omega))).mono (fun _ _ h=>post_NRat h)) (fun X13=>?_)
    refine xf 2 [(1, .p 1 0),(2, .v (.int .i64 0)),(26, .v (.int .i64 x.a.num.sign)),eQ 31 X13,(33, .v (.int .i64 x.d))] [bW 1 38 X0 X1 x.d] ?_
    refine xd 77 [.int .i64 x.d] 34 shRat _ (fun w hE hΦ=>(NR_any x.d _ (by omega) (by omega)).mono (fun _ _ h=>post_NRat h)) (fun X14=>?_)
    refine xf 4 [(2, .v (.int .i64 0)),(26, .v (.int .i64 x.a.num.sign)),eQ 31 X13,eQ 34 X14,eQ 36 X1,eQ 38 X1] [bW 1 38 X0 X1 x.d] ?_
    refine xd 101 [vQ X1,vQ X1] 39 shRat _ (fun w hE hΦ=>(NRMul_any _ _ x.b x.b _ hΦ.1.1.1.1.2 hΦ.1.1.1.1.2 (zx.b.rfit (by omega)) (zx.b.rfit (by omega))).mono (fun _ _ h=>post_NRat h)) (fun X15=>?_)
    refine xf 0 [(2, .v (.int .i64 0)),(26, .v (.int .i64 x.a.num.sign)),eQ 31 X13,eQ 34 X14,eQ 39 X15] [bW 1 38 X0 X1 x.d] ?_
    refine xd 101 [vQ X14,vQ X15] 40 shRat _ (fun w hE hΦ=>(NRMul_any _ _ (((x.d:Int):Rat)) (x.b * x.b) _ hΦ.1.2 hΦ.2 (zx.d.rfit (by omega)) ((zx.b.mul zx.b).rfit (by omega))).mono (fun _ _ h=>post_NRat h)) (fun X16=>?_)
    refine xf 0 [(2, .v (.int .i64 0)),(26, .v (.int .i64 x.a.num.sign)),eQ 31 X13,eQ 40 X16] [bW 1 38 X0 X1 x.d] ?_
    refine xd 111 [vQ X13,vQ X16] 41 shRat _ (fun w hE hΦ=>(NRSub_any _ _ (x.a * x.a) ((((x.d:Int):Rat)) * (x.b * x.b)) _ hΦ.1.1.1.2 hΦ.2 ((zx.a.mul zx.a).rfit (by omega)) ((zx.d.mul (zx.b.mul zx.b)).rfit (by omega))).mono (fun _ _ h=>post_NRat h)) (fun X17=>?_)
    refine xf 0 [(2, .v (.int .i64 0)),(26, .v (.int .i64 x.a.num.sign)),eQ 41 X17] [bW 1 38 X0 X1 x.d] ?_
    refine xd 103 [vQ X17] 42 (fun _:Unit=>.int .i64 ((x.a * x.a) - ((((x.d:Int):Rat)) * (x.b * x.b))).num.sign) _ (fun w hE hΦ=>(NRSign_any _ ((x.a * x.a) - ((((x.d:Int):Rat)) * (x.b * x.b))) _ hΦ.2).mono (fun _ _ h=>post_val h rfl)) (fun xx=>?_)
    refine xf 1 [(2, .v (.int .i64 0)),(43, .v (.int .i64 (IntKind.i64.wrap (x.a.num.sign * ((x.a * x.a) - ((((x.d:Int):Rat)) * (x.b * x.b))).num.sign))))] [bW 1 38 X0 X1 x.d] ?_
    rw [sign_wrap _ _]
    refine xf 1 [(2, .v (.int .i64 (x.a.num.sign * (x.a * x.a - ((x.d:Int):Rat) * (x.b * x.b)).num.sign)))] [bW 1 38 X0 X1 x.d] ?_
    refine xz (xe (sx_next (sx_ret ?_)))
    refine sx_done (v:=.int .i64 (x.a.num.sign * (x.a * x.a - ((x.d:Int):Rat) * (x.b * x.b)).num.sign)) (by kernel_rfl) (fun w' hE hΦ=>?_)
    exact ⟨by unfold Sd.rsgn; simp_all,hE⟩
set_option maxRecDepth 100000 in
theorem RFree_any (N:Nat) (w:World) (h0:0 < N) (hN:N≤1000000) :
 Calls Tryz.prog 104 #[.int .i64 ((N:Nat):Int)] w (RetV w (.bool (@decide (Free N) (Classical.propDecidable _)))):=by
 refine sx_enter (Φ:=fun w=>True) Tryz.func104 rfl (by kernel_rfl) (fun w' hf=>trivial) ?_
 refine sx_seq (sx_region (xr 1 [(0, .v (.int .i64 ((N:Nat):Int))),(2, .v (.bool false))] [] ?_))
 refine xe (sx_next (sx_seq (sx_seq (sx_region (xr 1 [(0, .v (.int .i64 ((N:Nat):Int))),(2, .v (.bool false)),(3, .v (.int .i64 2))] [] ?_)))))
 refine xe (sx_next (sx_block ?_))
 refine SXc.weak [(0, .v (.int .i64 ((N:Nat):Int))),(3, .v (.int .i64 ((2:Nat):Int)))] [] (Ψ:=fun w=>True) (SameL.of (by kernel_rfl)) (by kernel_rfl) (fun w hΦ=>trivial) ?_
 refine sx_loop (fun nn ss ff=>∃ (k:Nat),ss=ofL [(0, .v (.int .i64 ((N:Nat):Int))),(3, .v (.int .i64 ((k:Nat):Int)))] []∧ff=(fun w=>True)∧(FreeTo k N)∧(2≤k)∧(k≤1001)∧nn=(2000 - k)) ((2000 - 2)) ⟨2,rfl,rfl,(FreeTo.two N),(by omega),(by omega),rfl⟩ ?_
 rintro nn ss ff ⟨k,rfl,rfl,hF,hk2,hk3,rfl⟩
 refine sx_seq (sx_seq (sx_region (xr 3 [(0, .v (.int .i64 ((N:Nat):Int))),(3, .v (.int .i64 ((k:Nat):Int))),(6, .v (.int .i64 (IntKind.i64.wrap (((k:Nat):Int) * ((k:Nat):Int)))))] [] ?_)))
 rw [nmul (kk_le (by omega))]
 refine xr 2 [(0, .v (.int .i64 ((N:Nat):Int))),(3, .v (.int .i64 ((k:Nat):Int))),(8, .v (.bool (decide (((k * k:Nat):Int)≤((N:Nat):Int)))))] [] ?_
 refine xe (sx_next ?_)
 refine sx_cond ((decide (((k * k:Nat):Int)≤((N:Nat):Int)))) (by kernel_rfl) (fun hb10=>?_) (fun hb10=>?_)
 ·have hle:=le_t hb10
  have hk1:=k_le hle (by omega)
  refine sx_skip (sx_next (sx_seq (sx_block (sx_seq (sx_region (xr 4 [(0, .v (.int .i64 ((N:Nat):Int))),(3, .v (.int .i64 ((k:Nat):Int))),(11, .v (.int .i64 ((N:Nat):Int))),(14, .v (.int .i64 (IntKind.i64.wrap (((k:Nat):Int) * ((k:Nat):Int)))))] [] ?_))))))
  rw [nmul (kk_le (by omega))]
  refine xl 15 (.int .i64 ((N % (k * k):Nat):Int)) (fun w hE hΦ=>run_rem (t:=3) (k:=3) (x:=.tmp 11) (y:=.tmp 14) (a:=N) (b:=k * k) (by kernel_rfl) (by kernel_rfl) (by kernel_rfl) (by have:=kk4 hk2; omega)) ?_
  refine xr 1 [(0, .v (.int .i64 ((N:Nat):Int))),(3, .v (.int .i64 ((k:Nat):Int))),(16, .v (.bool ((((N % (k * k):Nat):Int):Int) == 0)))] [] ?_
  refine xe (sx_next ?_)
  refine sx_cond (((((N % (k * k):Nat):Int):Int) == 0)) (by kernel_rfl) (fun hb11=>?_) (fun hb11=>?_)
  ·have hd:=md_t hb11
   refine sx_seq (sx_region (xr 1 [(0, .v (.int .i64 ((N:Nat):Int))),(2, .v (.bool false)),(3, .v (.int .i64 ((k:Nat):Int)))] [] ?_))
   refine xe (sx_next (sx_ret (sx_in_ret (sx_then_ret (sx_then_ret (sx_in_ret (sx_then_ret ?_)))))))
   refine sx_done (v:=.bool false) (by kernel_rfl) (fun w' hE hΦ=>?_)
   exact ⟨by rw [free_f (not_free hk2 hd)],hE⟩
  ·have hd:=md_f hb11
   refine sx_skip (sx_out (sx_next (sx_region (xr 2 [(0, .v (.int .i64 ((N:Nat):Int))),(3, .v (.int .i64 ((k:Nat):Int))),(10, .v (.int .i64 (IntKind.i64.wrap (((k:Nat):Int) + 1))))] [] ?_))))
   rw [ninc (by omega)]
   refine xr 1 [(0, .v (.int .i64 ((N:Nat):Int))),(3, .v (.int .i64 ((k + 1:Nat):Int)))] [] ?_
   refine xe ?_
   refine SXq.weak [(0, .v (.int .i64 ((N:Nat):Int))),(3, .v (.int .i64 (((k + 1):Nat):Int)))] [] (Ψ:=fun w=>True) (SameL.of (by kernel_rfl)) (by kernel_rfl) (fun w hΦ=>trivial) ?_
   exact sx_round ((2000 - (k + 1))) (by omega) ⟨(k + 1),rfl,rfl,(hF.next (fun h=>hd (Nat.mod_eq_zero_of_dvd h))),(by omega),(by omega),rfl⟩
 ·have hle:=le_f hb10
  refine sx_exit (sx_then_exit (sx_then_exit (sx_hit (sx_next (sx_seq (sx_region (xr 1 [(2, .v (.bool true))] [] ?_)))))))
  refine xe (sx_next (sx_ret ?_))
  refine sx_done (v:=.bool true) (by kernel_rfl) (fun w' hE hΦ=>?_)
  exact ⟨by rw [free_t (hF.free h0 hle)],hE⟩
theorem RFree_int (d:Int) (b:Bool) (w:World) (h0:0 < d) (h1:d≤1000000) (hb:@decide (Free d.toNat) (Classical.propDecidable _)=b):Calls Tryz.prog 104 #[.int .i64 d] w (RetV w (.bool b)):=by
 obtain ⟨n,rfl⟩:=Int.eq_ofNat_of_zero_le (show 0≤d by omega)
 subst hb
 exact RFree_any n w (by omega) (by omega)
theorem rd_one' {A B:List UInt8} {D:Int} {p q:Rat} (h1:readF A=some p) (h2:readF B=some q) (hD:(D == 1)=true) (hq:q.num=0):rdS A B D=some ⟨p,q,1⟩:=by
 rw [rd_one h1 h2 hD hq,Rat.num_eq_zero.1 hq]
set_option maxRecDepth 100000 in
theorem RRead_any (a b:ByteArray) (d:Int) (w:World) (L:(bytes a).length≤570∧(bytes b).length≤570) :
 Calls Tryz.prog 22 #[.agg #[.string a, .string b, .int .i64 d]] w (RetRRd w (rdS (bytes a) (bytes b) d)):=by
 refine sx_enter (Φ:=fun w=>True) Tryz.func22 rfl (by kernel_rfl) (fun w' hf=>trivial) ?_
 refine sx_seq (sx_region (xr 3 [(1, .p 1 0),(2, .p 2 0),(3, .v (.bool false))] [bW 2 38 nQ nQ 0,bS3 1 23 a b d] ?_))
 refine xe (sx_next (sx_seq (sx_region (xr 2 [(1, .p 1 0),(2, .p 2 0),(3, .v (.bool false)),(10, .v (.string a))] [bW 2 38 nQ nQ 0,bS3 1 23 a b d] ?_))))
 rcases opt_two (readF (bytes a)) with ha | ⟨qa,ha⟩
 ·refine xc 100 [.string a] 11 (fun x:ShQ=>.tuple #[shRat x, .bool false]) _ (fun w hE hΦ=>(NRead_any a _ (by rw [← bytes_length]; omega)).mono (fun _ _ h=>post_NRead_none h ha)) (fun X10=>?_)
  refine xr 6 [(1, .p 1 0),(2, .p 2 0),(3, .v (.bool false)),(4, .p 4 0),(5, .v (.bool false))] [bQ 4 36 X10,bW 2 38 nQ nQ 0,bS3 1 23 a b d] ?_
  refine xe (sx_next (sx_seq (sx_region (xr 2 [(1, .p 1 0),(2, .p 2 0),(3, .v (.bool false)),(4, .p 4 0),(5, .v (.bool false)),(16, .v (.string b))] [bQ 4 36 X10,bW 2 38 nQ nQ 0,bS3 1 23 a b d] ?_))))
  refine xc 100 [.string b] 17 (fun u0:Bool × ShQ=>.tuple #[shRat u0.2, .bool u0.1]) _ (fun w hE hΦ=>(NRead_any b _ (by rw [← bytes_length]; omega)).mono (fun _ _ h=>post_NRead_gen h)) (fun xx=>?_)
  obtain ⟨b12,X11⟩:=xx
  refine xr 6 [(1, .p 1 0),(2, .p 2 0),(3, .v (.bool false)),(4, .p 4 0),(5, .v (.bool false)),(6, .p 6 0),(7, .v (.bool b12))] [bQ 6 36 X11,bQ 4 36 X10,bW 2 38 nQ nQ 0,bS3 1 23 a b d] ?_
  refine xe (sx_next (sx_seq (sx_seq (sx_region (xr 6 [(1, .p 1 0),(2, .p 2 0),(3, .v (.bool false)),(4, .p 4 0),(6, .p 6 0),(25, .v (.bool true))] [bQ 6 36 X11,bQ 4 36 X10,bW 2 38 nQ nQ 0,bS3 1 23 a b d] ?_)))))
  refine xe (sx_next (xa (sx_seq (sx_region (xr 3 [(1, .p 1 0),(2, .p 2 0),(3, .v (.bool false)),(4, .p 4 0),(6, .p 6 0)] [bQ 6 36 X11,bQ 4 36 X10,bW 2 38 nQ nQ 0,bS3 1 23 a b d] ?_)))))
  refine xe (sx_next (sx_ret (sx_then_ret ?_)))
  refine sx_done (v:=.tuple #[.agg #[.bool false, .slice none 0 0, .bool false, .slice none 0 0, .bool false, .slice none 0 0, .bool false, .slice none 0 0, .int .i64 0], .bool false]) (by kernel_rfl) (fun w' hE hΦ=>?_)
  exact ⟨_,_,_,rfl,(RSdIs.of (NRatIs.nil _) (NRatIs.nil _)),hE,Or.inr ⟨rfl,rdS_no1 ha⟩⟩
 ·refine xc 100 [.string a] 11 (fun x:ShQ=>.tuple #[shRat x, .bool true]) _ (fun w hE hΦ=>(NRead_any a _ (by rw [← bytes_length]; omega)).mono (fun _ _ h=>post_NRead_some h ha)) (fun X13=>?_)
  refine xr 6 [(1, .p 1 0),(2, .p 2 0),(3, .v (.bool false)),(4, .p 4 0),(5, .v (.bool true))] [bQ 4 36 X13,bW 2 38 nQ nQ 0,bS3 1 23 a b d] ?_
  refine xe (sx_next (sx_seq (sx_region (xr 2 [(1, .p 1 0),(2, .p 2 0),(3, .v (.bool false)),(4, .p 4 0),(5, .v (.bool true)),(16, .v (.string b))] [bQ 4 36 X13,bW 2 38 nQ nQ 0,bS3 1 23 a b d] ?_))))
  rcases opt_two (readF (bytes b)) with hb | ⟨qb,hb⟩
  ·refine xc 100 [.string b] 17 (fun x:ShQ=>.tuple #[shRat x, .bool false]) _ (fun w hE hΦ=>(NRead_any b _ (by rw [← bytes_length]; omega)).mono (fun _ _ h=>post_NRead_none h hb)) (fun X14=>?_)
   refine xr 6 [(1, .p 1 0),(2, .p 2 0),(3, .v (.bool false)),(4, .p 4 0),(5, .v (.bool true)),(6, .p 6 0),(7, .v (.bool false))] [bQ 6 36 X14,bQ 4 36 X13,bW 2 38 nQ nQ 0,bS3 1 23 a b d] ?_
   refine xe (sx_next (sx_seq (sx_seq (sx_region (xr 6 [(1, .p 1 0),(2, .p 2 0),(3, .v (.bool false)),(4, .p 4 0),(6, .p 6 0),(25, .v (.bool true))] [bQ 6 36 X14,bQ 4 36 X13,bW 2 38 nQ nQ 0,bS3 1 23 a b d] ?_)))))
   refine xe (sx_next (xa (sx_seq (sx_region (xr 3 [(1, .p 1 0),(2, .p 2 0),(3, .v (.bool false)),(4, .p 4 0),(6, .p 6 0)] [bQ 6 36 X14,bQ 4 36 X13,bW 2 38 nQ nQ 0,bS3 1 23 a b d] ?_)))))
   refine xe (sx_next (sx_ret (sx_then_ret ?_)))
   refine sx_done (v:=.tuple #[.agg #[.bool false, .slice none 0 0, .bool false, .slice none 0 0, .bool false, .slice none 0 0, .bool false, .slice none 0 0, .int .i64 0], .bool false]) (by kernel_rfl) (fun w' hE hΦ=>?_)
   exact ⟨_,_,_,rfl,(RSdIs.of (NRatIs.nil _) (NRatIs.nil _)),hE,Or.inr ⟨rfl,rdS_no2 hb⟩⟩
  ·refine xc 100 [.string b] 17 (fun x:ShQ=>.tuple #[shRat x, .bool true]) _ (fun w hE hΦ=>(NRead_any b _ (by rw [← bytes_length]; omega)).mono (fun _ _ h=>post_NRead_some h hb)) (fun X15=>?_)
   refine xr 6 [(1, .p 1 0),(2, .p 2 0),(3, .v (.bool false)),(4, .p 4 0),(5, .v (.bool true)),(6, .p 6 0),(7, .v (.bool true))] [bQ 6 36 X15,bQ 4 36 X13,bW 2 38 nQ nQ 0,bS3 1 23 a b d] ?_
   refine xe (sx_next (sx_seq (sx_seq (sx_region (xr 6 [(1, .p 1 0),(2, .p 2 0),(3, .v (.bool false)),(4, .p 4 0),(6, .p 6 0),(25, .v (.bool false))] [bQ 6 36 X15,bQ 4 36 X13,bW 2 38 nQ nQ 0,bS3 1 23 a b d] ?_)))))
   refine xe (sx_next (xb (sx_skip (sx_next (sx_seq (sx_seq (sx_region (xr 3 [(1, .p 1 0),(2, .p 2 0),(3, .v (.bool false)),(4, .p 4 0),(6, .p 6 0),(29, .v (.bool ((d:Int) == 1)))] [bQ 6 36 X15,bQ 4 36 X13,bW 2 38 nQ nQ 0,bS3 1 23 a b d] ?_))))))))
   refine xe (sx_next ?_)
   refine sx_cond (((d:Int) == 1)) (by kernel_rfl) (fun hb16=>?_) (fun hb16=>?_)
   ·refine sx_seq ?_
    refine sx_draw 8 (by kernel_rfl) (by kernel_rfl) follows_mixed' ?_
    refine xf 4 [(1, .p 1 0),(2, .p 2 0),(3, .v (.bool false)),(4, .p 4 0),(6, .p 6 0),eW 32 X13 X15 1,eQ 33 X15] [bQ 6 36 X15,bQ 4 36 X13,bW 2 38 nQ nQ 0,bS3 1 23 a b d] ?_
    by_cases hzqb:qb.num=0
    ·refine xd 103 [vQ X15] 34 (fun _:Unit=>.int .i64 qb.num.sign) _ (fun w hE hΦ=>(NRSign_any _ qb _ hΦ.2).mono (fun _ _ h=>post_val h rfl)) (fun xx=>?_)
     refine xf 1 [(1, .p 1 0),(2, .p 2 0),(3, .v (.bool false)),(4, .p 4 0),(6, .p 6 0),eW 32 X13 X15 1,(35, .v (.bool ((qb.num.sign:Int) == 0)))] [bQ 6 36 X15,bQ 4 36 X13,bW 2 38 nQ nQ 0,bS3 1 23 a b d] ?_
     rw [sge_t hzqb]
     refine xf 2 [(1, .p 1 0),(2, .p 2 0),(3, .v (.bool true)),(4, .p 4 0),(6, .p 6 0)] [bW 2 38 X13 X15 1,bQ 6 36 X15,bQ 4 36 X13,bW 2 38 nQ nQ 0,bS3 1 23 a b d] ?_
     refine xz (xe (sx_next (sx_ret (sx_then_ret ?_))))
     refine sx_done (v:=.tuple #[vW X13 X15 1, .bool true]) (by kernel_rfl) (fun w' hE hΦ=>?_)
     exact ⟨_,_,_,rfl,(RSdIs.of hΦ.1.1.2 hΦ.1.2),hE,Or.inl ⟨rfl,rd_one' ha hb hb16 hzqb⟩⟩
    ·refine xd 103 [vQ X15] 34 (fun _:Unit=>.int .i64 qb.num.sign) _ (fun w hE hΦ=>(NRSign_any _ qb _ hΦ.2).mono (fun _ _ h=>post_val h rfl)) (fun xx=>?_)
     refine xf 1 [(1, .p 1 0),(2, .p 2 0),(3, .v (.bool false)),(4, .p 4 0),(6, .p 6 0),eW 32 X13 X15 1,(35, .v (.bool ((qb.num.sign:Int) == 0)))] [bQ 6 36 X15,bQ 4 36 X13,bW 2 38 nQ nQ 0,bS3 1 23 a b d] ?_
     rw [sge_f hzqb]
     refine xf 2 [(1, .p 1 0),(2, .p 2 0),(3, .v (.bool false)),(4, .p 4 0),(6, .p 6 0)] [bW 2 38 X13 X15 1,bQ 6 36 X15,bQ 4 36 X13,bW 2 38 nQ nQ 0,bS3 1 23 a b d] ?_
     refine xz (xe (sx_next (sx_ret (sx_then_ret ?_))))
     refine sx_done (v:=.tuple #[vW X13 X15 1, .bool false]) (by kernel_rfl) (fun w' hE hΦ=>?_)
     exact ⟨_,_,_,rfl,(RSdIs.of hΦ.1.1.2 hΦ.1.2),hE,Or.inr ⟨rfl,rd_one_no ha hb hb16 hzqb⟩⟩
   ·refine sx_skip (sx_next (sx_seq ?_))
    refine sx_drawM 25 [0,0,0,4,15,0,32,96,224,480,992,2016,4064,8160,16352,32736,65504,131040,262112,524256,1048544,2097120,4194272,2097151,16777215] (by kernel_rfl) (by kernel_rfl) follows_mixed' ?_
    refine xf 9 [(1, .p 1 0),(2, .p 2 0),(3, .v (.bool false)),(6, .p 6 0),eW 40 X13 X15 d,(44, .v (.bool (decide (d ≥ 2))))] [bQ 6 36 X15,bQ 4 36 X13,bW 2 38 nQ nQ 0,bS3 1 23 a b d] ?_
    rcases bool2 ((decide (d ≥ 2))) with hb17 | hb17
    ·rw [hb17]
     have thb17:=of_decide_eq_true hb17
     refine xf 5 [(1, .p 1 0),(2, .p 2 0),(3, .v (.bool false)),(6, .p 6 0),eW 40 X13 X15 d,(49, .v (.bool (decide (d≤1000000))))] [bQ 6 36 X15,bQ 4 36 X13,bW 2 38 nQ nQ 0,bS3 1 23 a b d] ?_
     rcases bool2 ((decide (d≤1000000))) with hb18 | hb18
     ·rw [hb18]
      have thb18:=of_decide_eq_true hb18
      refine xf 2 [(2, .p 2 0),(3, .v (.bool false)),(6, .p 6 0),eW 40 X13 X15 d,(49, .v (.bool true)),(51, .v (.int .i64 d))] [bQ 6 36 X15,bQ 4 36 X13,bW 2 38 nQ nQ 0,bS3 1 23 a b d] ?_
      by_cases hfr:Free (d).toNat
      ·refine xd 104 [.int .i64 d] 52 (fun _:Unit=>.bool true) _ (fun w hE hΦ=>(RFree_int d true _ (by omega) (by omega) (free_t hfr)).mono (fun _ _ h=>post_val h rfl)) (fun xx=>?_)
       refine xf 3 [(2, .p 2 0),(3, .v (.bool false)),eW 40 X13 X15 d,(54, .v (.bool true)),eQ 55 X15] [bQ 6 36 X15,bQ 4 36 X13,bW 2 38 nQ nQ 0,bS3 1 23 a b d] ?_
       by_cases hzqb:qb.num=0
       ·refine xd 103 [vQ X15] 56 (fun _:Unit=>.int .i64 qb.num.sign) _ (fun w hE hΦ=>(NRSign_any _ qb _ hΦ.1.2).mono (fun _ _ h=>post_val h rfl)) (fun xx=>?_)
        refine xf 1 [(2, .p 2 0),(3, .v (.bool false)),eW 40 X13 X15 d,(54, .v (.bool true)),(57, .v (.bool ((qb.num.sign:Int) != 0)))] [bQ 6 36 X15,bQ 4 36 X13,bW 2 38 nQ nQ 0,bS3 1 23 a b d] ?_
        rw [sgn_t hzqb]
        refine xf 3 [(2, .p 2 0),(3, .v (.bool false))] [bW 2 38 X13 X15 d,bQ 6 36 X15,bQ 4 36 X13,bW 2 38 nQ nQ 0,bS3 1 23 a b d] ?_
        refine xz (xe (sx_next (sx_ret ?_)))
        refine sx_done (v:=.tuple #[vW X13 X15 d, .bool false]) (by kernel_rfl) (fun w' hE hΦ=>?_)
        exact ⟨_,_,_,rfl,(RSdIs.of hΦ.1.1.1.2 hΦ.1.1.2),hE,Or.inr ⟨rfl,rd_out ha hb hb16 (Or.inr (Or.inr (Or.inl hzqb)))⟩⟩
       ·refine xd 103 [vQ X15] 56 (fun _:Unit=>.int .i64 qb.num.sign) _ (fun w hE hΦ=>(NRSign_any _ qb _ hΦ.1.2).mono (fun _ _ h=>post_val h rfl)) (fun xx=>?_)
        refine xf 1 [(2, .p 2 0),(3, .v (.bool false)),eW 40 X13 X15 d,(54, .v (.bool true)),(57, .v (.bool ((qb.num.sign:Int) != 0)))] [bQ 6 36 X15,bQ 4 36 X13,bW 2 38 nQ nQ 0,bS3 1 23 a b d] ?_
        rw [sgn_f hzqb]
        refine xf 3 [(2, .p 2 0),(3, .v (.bool true))] [bW 2 38 X13 X15 d,bQ 6 36 X15,bQ 4 36 X13,bW 2 38 nQ nQ 0,bS3 1 23 a b d] ?_
        refine xz (xe (sx_next (sx_ret ?_)))
        refine sx_done (v:=.tuple #[vW X13 X15 d, .bool true]) (by kernel_rfl) (fun w' hE hΦ=>?_)
        exact ⟨_,_,_,rfl,(RSdIs.of hΦ.1.1.1.2 hΦ.1.1.2),hE,Or.inl ⟨rfl,rd_in ha hb (by omega) (by omega) hzqb hfr⟩⟩
      ·refine xd 104 [.int .i64 d] 52 (fun _:Unit=>.bool false) _ (fun w hE hΦ=>(RFree_int d false _ (by omega) (by omega) (free_f hfr)).mono (fun _ _ h=>post_val h rfl)) (fun xx=>?_)
       refine xf 8 [(2, .p 2 0),(3, .v (.bool false))] [bW 2 38 X13 X15 d,bQ 6 36 X15,bQ 4 36 X13,bW 2 38 nQ nQ 0,bS3 1 23 a b d] ?_
       refine xz (xe (sx_next (sx_ret ?_)))
       refine sx_done (v:=.tuple #[vW X13 X15 d, .bool false]) (by kernel_rfl) (fun w' hE hΦ=>?_)
       exact ⟨_,_,_,rfl,(RSdIs.of hΦ.1.1.2 hΦ.1.2),hE,Or.inr ⟨rfl,rd_out ha hb hb16 (Or.inr (Or.inr (Or.inr hfr)))⟩⟩
     ·rw [hb18]
      have thb18:=of_decide_eq_false hb18
      refine xf 11 [(2, .p 2 0),(3, .v (.bool false))] [bW 2 38 X13 X15 d,bQ 6 36 X15,bQ 4 36 X13,bW 2 38 nQ nQ 0,bS3 1 23 a b d] ?_
      refine xz (xe (sx_next (sx_ret ?_)))
      refine sx_done (v:=.tuple #[vW X13 X15 d, .bool false]) (by kernel_rfl) (fun w' hE hΦ=>?_)
      exact ⟨_,_,_,rfl,(RSdIs.of hΦ.1.2 hΦ.2),hE,Or.inr ⟨rfl,rd_out ha hb hb16 (by omega)⟩⟩
    ·rw [hb17]
     have thb17:=of_decide_eq_false hb17
     refine xf 16 [(2, .p 2 0),(3, .v (.bool false))] [bW 2 38 X13 X15 d,bQ 6 36 X15,bQ 4 36 X13,bW 2 38 nQ nQ 0,bS3 1 23 a b d] ?_
     refine xz (xe (sx_next (sx_ret ?_)))
     refine sx_done (v:=.tuple #[vW X13 X15 d, .bool false]) (by kernel_rfl) (fun w' hE hΦ=>?_)
     exact ⟨_,_,_,rfl,(RSdIs.of hΦ.1.2 hΦ.2),hE,Or.inr ⟨rfl,rd_out ha hb hb16 (by omega)⟩⟩
set_option maxRecDepth 100000 in
theorem RValid_any (a b:ByteArray) (d:Int) (w:World) (L:(bytes a).length≤570∧(bytes b).length≤570) :
 Calls Tryz.prog 21 #[.agg #[.string a, .string b, .int .i64 d]] w (RetV w (.bool (rdS (bytes a) (bytes b) d).isSome)):=by
 refine sx_enter (Φ:=fun w=>True) Tryz.func21 rfl (by kernel_rfl) (fun w' hf=>trivial) ?_
 refine sx_seq (sx_region (xr 2 [(1, .p 1 0),(2, .v (.bool false))] [bS3 1 23 a b d] ?_))
 refine xe (sx_next (sx_seq (sx_region (xr 1 [(2, .v (.bool false)),eS3 6 a b d] [] ?_))))
 rcases opt_two (rdS (bytes a) (bytes b) d) with hx | ⟨x,hx⟩
 ·refine xc 22 [vS3 a b d] 7 (fun u0:Int × ShS=>.tuple #[shSd u0.1 u0.2, .bool false]) _ (fun w hE hΦ=>(RRead_any a b d _ L).mono (fun _ _ h=>post_RRd_none h hx)) (fun xx=>?_)
  obtain ⟨d12d,X10,X11⟩:=xx
  refine xr 6 [(2, .v (.bool false)),(4, .v (.bool false))] [] ?_
  refine xe (sx_next (sx_seq (sx_region (xr 2 [(2, .v (.bool false))] [] ?_))))
  refine xe (sx_next (sx_ret ?_))
  refine sx_done (v:=.bool false) (by kernel_rfl) (fun w' hE hΦ=>?_)
  exact ⟨by rw [hx]; rfl,hE⟩
 ·refine xc 22 [vS3 a b d] 7 (fun u0:ShS=>.tuple #[shSd x.d u0, .bool true]) _ (fun w hE hΦ=>(RRead_any a b d _ L).mono (fun _ _ h=>post_RRd_some h hx)) (fun xx=>?_)
  obtain ⟨X13,X14⟩:=xx
  refine xr 6 [(2, .v (.bool false)),(4, .v (.bool true))] [] ?_
  refine xe (sx_next (sx_seq (sx_region (xr 2 [(2, .v (.bool true))] [] ?_))))
  refine xe (sx_next (sx_ret ?_))
  refine sx_done (v:=.bool true) (by kernel_rfl) (fun w' hE hΦ=>?_)
  exact ⟨by rw [hx]; rfl,hE⟩
set_option maxRecDepth 100000 in
theorem RMake_any (a b:ByteArray) (d:Int) (w:World) (L:(bytes a).length≤570∧(bytes b).length≤570) {j:Nat} (Za:∀ q,readF (bytes a)=some q→Dq q j) (Zb:∀ q,readF (bytes b)=some q→Dq q j) (hj:j≤1000) (R M:Nat) (HS:0 < d→d≤1000000→SqF d.toNat R M) :
 Calls Tryz.prog 19 #[.string a, .string b, .int .i64 d] w (RetV w (mkV (bytes a) (bytes b) d R M)):=by
 refine sx_enter (Φ:=fun w=>True) Tryz.func19 rfl (by kernel_rfl) (fun w' hf=>trivial) ?_
 refine sx_seq (sx_region (xr 2 [(0, .v (.string a)),(1, .v (.string b)),(2, .v (.int .i64 d)),(6, .p 6 0),(7, .v (.int .i64 0))] [bS3 6 23 ⟨#[]⟩ ⟨#[]⟩ 0] ?_))
 refine xe (sx_next (sx_seq (sx_region (xr 1 [(1, .v (.string b)),(2, .v (.int .i64 d)),(6, .p 6 0),(7, .v (.int .i64 0)),(14, .v (.string a))] [bS3 6 23 ⟨#[]⟩ ⟨#[]⟩ 0] ?_))))
 rcases opt_two (readF (bytes a)) with ha | ⟨qa,ha⟩
 ·refine xc 100 [.string a] 15 (fun x:ShQ=>.tuple #[shRat x, .bool false]) _ (fun w hE hΦ=>(NRead_any a _ (by rw [← bytes_length]; omega)).mono (fun _ _ h=>post_NRead_none h ha)) (fun X10=>?_)
  refine xr 6 [(1, .v (.string b)),(2, .v (.int .i64 d)),(6, .p 6 0),(7, .v (.int .i64 0)),(8, .p 8 0),(9, .v (.bool false))] [bQ 8 36 X10,bS3 6 23 ⟨#[]⟩ ⟨#[]⟩ 0] ?_
  refine xe (sx_next (sx_seq (sx_region (xr 1 [(2, .v (.int .i64 d)),(6, .p 6 0),(7, .v (.int .i64 0)),(8, .p 8 0),(9, .v (.bool false)),(19, .v (.string b))] [bQ 8 36 X10,bS3 6 23 ⟨#[]⟩ ⟨#[]⟩ 0] ?_))))
  refine xc 100 [.string b] 20 (fun u0:Bool × ShQ=>.tuple #[shRat u0.2, .bool u0.1]) _ (fun w hE hΦ=>(NRead_any b _ (by rw [← bytes_length]; omega)).mono (fun _ _ h=>post_NRead_gen h)) (fun xx=>?_)
  obtain ⟨b12,X11⟩:=xx
  refine xr 6 [(2, .v (.int .i64 d)),(6, .p 6 0),(7, .v (.int .i64 0)),(8, .p 8 0),(9, .v (.bool false)),(10, .p 10 0),(11, .v (.bool b12))] [bQ 10 36 X11,bQ 8 36 X10,bS3 6 23 ⟨#[]⟩ ⟨#[]⟩ 0] ?_
  refine xe (sx_next (sx_seq (sx_seq (sx_region (xr 6 [(2, .v (.int .i64 d)),(6, .p 6 0),(7, .v (.int .i64 0)),(8, .p 8 0),(10, .p 10 0),(28, .v (.bool true))] [bQ 10 36 X11,bQ 8 36 X10,bS3 6 23 ⟨#[]⟩ ⟨#[]⟩ 0] ?_)))))
  refine xe (sx_next (xa (sx_seq (sx_region (xr 3 [(2, .v (.int .i64 d)),(6, .p 6 0),(7, .v (.int .i64 1)),(8, .p 8 0),(10, .p 10 0)] [bQ 10 36 X11,bQ 8 36 X10,bS3 6 23 ⟨#[]⟩ ⟨#[]⟩ 0] ?_)))))
  refine xe (sx_next (sx_ret (sx_then_ret ?_)))
  refine sx_done (v:=.tuple #[.agg #[.string ⟨#[]⟩, .string ⟨#[]⟩, .int .i64 0], .int .i64 1]) (by kernel_rfl) (fun w' hE hΦ=>?_)
  exact ⟨by rw [mkV_bad1 ha],hE⟩
 ·have za:=Za _ ha
  refine xc 100 [.string a] 15 (fun x:ShQ=>.tuple #[shRat x, .bool true]) _ (fun w hE hΦ=>(NRead_any a _ (by rw [← bytes_length]; omega)).mono (fun _ _ h=>post_NRead_some h ha)) (fun xx=>?_)
  obtain ⟨s13,A13,l13,c13,t13,B13,m13,d13⟩:=xx
  refine xr 6 [(1, .v (.string b)),(2, .v (.int .i64 d)),(6, .p 6 0),(7, .v (.int .i64 0)),(8, .p 8 0),(9, .v (.bool true))] [bR4 8 36 s13 A13 l13 c13 t13 B13 m13 d13,bS3 6 23 ⟨#[]⟩ ⟨#[]⟩ 0] ?_
  refine xe (sx_next (sx_seq (sx_region (xr 1 [(2, .v (.int .i64 d)),(6, .p 6 0),(7, .v (.int .i64 0)),(8, .p 8 0),(9, .v (.bool true)),(19, .v (.string b))] [bR4 8 36 s13 A13 l13 c13 t13 B13 m13 d13,bS3 6 23 ⟨#[]⟩ ⟨#[]⟩ 0] ?_))))
  rcases opt_two (readF (bytes b)) with hb | ⟨qb,hb⟩
  ·refine xc 100 [.string b] 20 (fun x:ShQ=>.tuple #[shRat x, .bool false]) _ (fun w hE hΦ=>(NRead_any b _ (by rw [← bytes_length]; omega)).mono (fun _ _ h=>post_NRead_none h hb)) (fun X14=>?_)
   refine xr 6 [(2, .v (.int .i64 d)),(6, .p 6 0),(7, .v (.int .i64 0)),(8, .p 8 0),(9, .v (.bool true)),(10, .p 10 0),(11, .v (.bool false))] [bQ 10 36 X14,bR4 8 36 s13 A13 l13 c13 t13 B13 m13 d13,bS3 6 23 ⟨#[]⟩ ⟨#[]⟩ 0] ?_
   refine xe (sx_next (sx_seq (sx_seq (sx_region (xr 6 [(2, .v (.int .i64 d)),(6, .p 6 0),(7, .v (.int .i64 0)),(8, .p 8 0),(10, .p 10 0),(28, .v (.bool true))] [bQ 10 36 X14,bR4 8 36 s13 A13 l13 c13 t13 B13 m13 d13,bS3 6 23 ⟨#[]⟩ ⟨#[]⟩ 0] ?_)))))
   refine xe (sx_next (xa (sx_seq (sx_region (xr 3 [(2, .v (.int .i64 d)),(6, .p 6 0),(7, .v (.int .i64 1)),(8, .p 8 0),(10, .p 10 0)] [bQ 10 36 X14,bR4 8 36 s13 A13 l13 c13 t13 B13 m13 d13,bS3 6 23 ⟨#[]⟩ ⟨#[]⟩ 0] ?_)))))
   refine xe (sx_next (sx_ret (sx_then_ret ?_)))
   refine sx_done (v:=.tuple #[.agg #[.string ⟨#[]⟩, .string ⟨#[]⟩, .int .i64 0], .int .i64 1]) (by kernel_rfl) (fun w' hE hΦ=>?_)
   exact ⟨by rw [mkV_bad2 hb],hE⟩
  ·have zb:=Zb _ hb
   refine xc 100 [.string b] 20 (fun x:ShQ=>.tuple #[shRat x, .bool true]) _ (fun w hE hΦ=>(NRead_any b _ (by rw [← bytes_length]; omega)).mono (fun _ _ h=>post_NRead_some h hb)) (fun xx=>?_)
   obtain ⟨s15,A15,l15,c15,t15,B15,m15,d15⟩:=xx
   refine xr 6 [(2, .v (.int .i64 d)),(6, .p 6 0),(7, .v (.int .i64 0)),(8, .p 8 0),(9, .v (.bool true)),(10, .p 10 0),(11, .v (.bool true))] [bR4 10 36 s15 A15 l15 c15 t15 B15 m15 d15,bR4 8 36 s13 A13 l13 c13 t13 B13 m13 d13,bS3 6 23 ⟨#[]⟩ ⟨#[]⟩ 0] ?_
   refine xe (sx_next (sx_seq (sx_seq (sx_region (xr 6 [(2, .v (.int .i64 d)),(6, .p 6 0),(7, .v (.int .i64 0)),(8, .p 8 0),(10, .p 10 0),(28, .v (.bool false))] [bR4 10 36 s15 A15 l15 c15 t15 B15 m15 d15,bR4 8 36 s13 A13 l13 c13 t13 B13 m13 d13,bS3 6 23 ⟨#[]⟩ ⟨#[]⟩ 0] ?_)))))
   refine xe (sx_next (xb (sx_skip (sx_next (sx_seq (sx_seq (sx_region (xr 3 [(2, .v (.int .i64 d)),(6, .p 6 0),(7, .v (.int .i64 0)),(8, .p 8 0),(10, .p 10 0),(32, .v (.bool (decide (d < 0))))] [bR4 10 36 s15 A15 l15 c15 t15 B15 m15 d15,bR4 8 36 s13 A13 l13 c13 t13 B13 m13 d13,bS3 6 23 ⟨#[]⟩ ⟨#[]⟩ 0] ?_))))))))
   rcases bool2 ((decide (d < 0))) with hb16 | hb16
   ·rw [hb16]
    have thb16:=of_decide_eq_true hb16
    refine xr 3 [(2, .v (.int .i64 d)),(6, .p 6 0),(7, .v (.int .i64 0)),(8, .p 8 0),(10, .p 10 0),(35, .v (.bool true))] [bR4 10 36 s15 A15 l15 c15 t15 B15 m15 d15,bR4 8 36 s13 A13 l13 c13 t13 B13 m13 d13,bS3 6 23 ⟨#[]⟩ ⟨#[]⟩ 0] ?_
    refine xe (sx_next (xa (sx_seq (sx_region (xr 3 [(2, .v (.int .i64 d)),(6, .p 6 0),(7, .v (.int .i64 3)),(8, .p 8 0),(10, .p 10 0)] [bR4 10 36 s15 A15 l15 c15 t15 B15 m15 d15,bR4 8 36 s13 A13 l13 c13 t13 B13 m13 d13,bS3 6 23 ⟨#[]⟩ ⟨#[]⟩ 0] ?_)))))
    refine xe (sx_next (sx_ret (sx_then_ret ?_)))
    refine sx_done (v:=.tuple #[.agg #[.string ⟨#[]⟩, .string ⟨#[]⟩, .int .i64 0], .int .i64 3]) (by kernel_rfl) (fun w' hE hΦ=>?_)
    exact ⟨by rw [mkV_range ha hb (by omega)],hE⟩
   ·rw [hb16]
    have thb16:=of_decide_eq_false hb16
    refine xr 3 [(2, .v (.int .i64 d)),(6, .p 6 0),(7, .v (.int .i64 0)),(8, .p 8 0),(10, .p 10 0),(35, .v (.bool (decide (d > 1000000))))] [bR4 10 36 s15 A15 l15 c15 t15 B15 m15 d15,bR4 8 36 s13 A13 l13 c13 t13 B13 m13 d13,bS3 6 23 ⟨#[]⟩ ⟨#[]⟩ 0] ?_
    refine xe (sx_next ?_)
    refine sx_cond ((decide (d > 1000000))) (by kernel_rfl) (fun hb17=>?_) (fun hb17=>?_)
    ·have thb17:=of_decide_eq_true hb17
     refine sx_seq (sx_region (xr 3 [(2, .v (.int .i64 d)),(6, .p 6 0),(7, .v (.int .i64 3)),(8, .p 8 0),(10, .p 10 0)] [bR4 10 36 s15 A15 l15 c15 t15 B15 m15 d15,bR4 8 36 s13 A13 l13 c13 t13 B13 m13 d13,bS3 6 23 ⟨#[]⟩ ⟨#[]⟩ 0] ?_))
     refine xe (sx_next (sx_ret (sx_then_ret ?_)))
     refine sx_done (v:=.tuple #[.agg #[.string ⟨#[]⟩, .string ⟨#[]⟩, .int .i64 0], .int .i64 3]) (by kernel_rfl) (fun w' hE hΦ=>?_)
     exact ⟨by rw [mkV_range ha hb (by omega)],hE⟩
    ·have thb17:=of_decide_eq_false hb17
     refine sx_skip (sx_next (sx_seq (sx_seq (sx_region (xr 2 [(2, .v (.int .i64 d)),(6, .p 6 0),(7, .v (.int .i64 0)),(8, .p 8 0),(10, .p 10 0),(38, .v (.bool ((d:Int) == 0)))] [bR4 10 36 s15 A15 l15 c15 t15 B15 m15 d15,bR4 8 36 s13 A13 l13 c13 t13 B13 m13 d13,bS3 6 23 ⟨#[]⟩ ⟨#[]⟩ 0] ?_)))))
     refine xe (sx_next ?_)
     refine sx_cond (((d:Int) == 0)) (by kernel_rfl) (fun hb18=>?_) (fun hb18=>?_)
     ·have thb18:=eq_of_beq hb18
      refine sx_seq (sx_region (xr 1 [(2, .v (.int .i64 d)),(6, .p 6 0),(7, .v (.int .i64 0)),(8, .p 8 0),(10, .p 10 0),eR4 39 s13 A13 l13 c13 t13 B13 m13 d13] [bR4 10 36 s15 A15 l15 c15 t15 B15 m15 d15,bR4 8 36 s13 A13 l13 c13 t13 B13 m13 d13,bS3 6 23 ⟨#[]⟩ ⟨#[]⟩ 0] ?_))
      refine xc 74 [vR4 s13 A13 l13 c13 t13 B13 m13 d13] 40 (shSd 1) _ (fun w hE hΦ=>(RRat_any _ qa _ hΦ.1.2).mono (fun _ _ h=>post_RSd h)) (fun xx=>?_)
      obtain ⟨X19,X20⟩:=xx
      refine xr 0 [(2, .v (.int .i64 d)),(6, .p 6 0),(7, .v (.int .i64 0)),(8, .p 8 0),(10, .p 10 0),eW 40 X19 X20 1] [bR4 10 36 s15 A15 l15 c15 t15 B15 m15 d15,bR4 8 36 s13 A13 l13 c13 t13 B13 m13 d13,bS3 6 23 ⟨#[]⟩ ⟨#[]⟩ 0] ?_
      refine xc 26 [vW X19 X20 1] 41 (fun _:Unit=>vS3 ⟨(ratText qa).toArray⟩ ⟨(ratText 0).toArray⟩ 1) _ (fun w hE hΦ=>(RWrite_any _ ((⟨qa,0,1⟩:Sd)) _ (RSdIs.of hΦ.2.1 hΦ.2.2) (j:=(j + 1)) (Dq.up za (Nat.le_add_right _ _)) (Dq.up (Dq.zero (by decide)) (Nat.le_add_left _ _)) (by omega)).mono (fun _ _ h=>post_val h rfl)) (fun xx=>?_)
      refine xr 2 [(2, .v (.int .i64 d)),(6, .p 6 0),(7, .v (.int .i64 0)),(8, .p 8 0),(10, .p 10 0)] [bR4 10 36 s15 A15 l15 c15 t15 B15 m15 d15,bR4 8 36 s13 A13 l13 c13 t13 B13 m13 d13,bS3 6 23 ⟨(ratText qa).toArray⟩ ⟨(ratText 0).toArray⟩ 1] ?_
      refine xe (sx_next (sx_ret (sx_then_ret ?_)))
      refine sx_done (v:=.tuple #[.agg #[.string ⟨(ratText qa).toArray⟩, .string ⟨(ratText 0).toArray⟩, .int .i64 1], .int .i64 0]) (by kernel_rfl) (fun w' hE hΦ=>?_)
      exact ⟨by rw [mkV_zero ha hb (eq_of_beq hb18)],hE⟩
     ·have thb18:=beq_ne hb18
      refine sx_skip (sx_next (sx_seq (sx_seq ?_)))
      obtain ⟨N,rfl⟩:=Int.eq_ofNat_of_zero_le (show 0≤d by omega)
      have hN0:0 < N:=by omega
      have hN:N≤1000000:=by omega
      have hS:=HS (by omega) (by omega)
      have hR:=sqf_bound hS (by omega)
      have hR0:=hS.rpos
      have hM:=hS.le
      refine sx_region (xr 1 [(2, .v (.int .i64 ((N:Nat):Int))),(6, .p 6 0),(7, .v (.int .i64 0)),(8, .p 8 0),(10, .p 10 0),(12, .v (.int .i64 2))] [bR4 10 36 s15 A15 l15 c15 t15 B15 m15 d15,bR4 8 36 s13 A13 l13 c13 t13 B13 m13 d13,bS3 6 23 ⟨#[]⟩ ⟨#[]⟩ 0] ?_)
      refine xe (sx_next (sx_block ?_))
      refine SXc.weak [(2, .v (.int .i64 ((N:Nat):Int))),(6, .p 6 0),(7, .v (.int .i64 0)),(8, .p 8 0),(10, .p 10 0),(12, .v (.int .i64 ((2:Nat):Int)))] [(6,23,[.v (.string ⟨#[]⟩), .v (.string ⟨#[]⟩), .v (.int .i64 0)]),(8,36,[.v (.bool s13), .v (.slice A13 l13 c13), .v (.bool t13), .v (.slice B13 m13 d13)]),(10,36,[.v (.bool s15), .v (.slice A15 l15 c15), .v (.bool t15), .v (.slice B15 m15 d15)])] (Ψ:=fun w=>(NRatIs w (.agg #[.bool s13, .slice A13 l13 c13, .bool t13, .slice B13 m13 d13]) (qa)∧NRatIs w (.agg #[.bool s15, .slice A15 l15 c15, .bool t15, .slice B15 m15 d15]) (qb * (((1:Nat):Int):Rat)))) (SameL.of (by kernel_rfl)) (by kernel_rfl) (fun w hΦ=>⟨hΦ.1.2,(by have h:=hΦ.2; rw [← qmul_one qb] at h; exact h)⟩) ?_
      refine sx_loop (fun nn ss ff=>∃ (gs gt:Bool) (gA gB:Option Addr) (gl gc gm gd:Nat) (m r k:Nat),ss=ofL [(2, .v (.int .i64 ((m:Nat):Int))),(6, .p 6 0),(7, .v (.int .i64 0)),(8, .p 8 0),(10, .p 10 0),(12, .v (.int .i64 ((k:Nat):Int)))] [(6,23,[.v (.string ⟨#[]⟩), .v (.string ⟨#[]⟩), .v (.int .i64 0)]),(8,36,[.v (.bool s13), .v (.slice A13 l13 c13), .v (.bool t13), .v (.slice B13 m13 d13)]),(10,36,[.v (.bool gs), .v (.slice gA gl gc), .v (.bool gt), .v (.slice gB gm gd)])]∧ff=(fun w=>(NRatIs w (.agg #[.bool s13, .slice A13 l13 c13, .bool t13, .slice B13 m13 d13]) (qa)∧NRatIs w (.agg #[.bool gs, .slice gA gl gc, .bool gt, .slice gB gm gd]) (qb * (((r:Nat):Int):Rat))))∧(r * r * m=N)∧(0 < m)∧(m≤1000000)∧(FreeTo k m)∧(2≤k)∧(k≤1001)∧nn=(2000 - k)) ((2000 - 2)) ⟨s15,t15,A15,B15,l15,c15,m15,d15,N,1,2,rfl,rfl,(by omega),(by omega),(by omega),(FreeTo.two N),(by omega),(by omega),rfl⟩ ?_
      rintro nn ss ff ⟨gs,gt,gA,gB,gl,gc,gm,gd,m,r,k,rfl,rfl,hmul,hm0,hmN,hF,hk2,hk3,rfl⟩
      refine sx_seq (sx_seq (sx_region (xr 3 [(2, .v (.int .i64 ((m:Nat):Int))),(6, .p 6 0),(7, .v (.int .i64 0)),(8, .p 8 0),(10, .p 10 0),(12, .v (.int .i64 ((k:Nat):Int))),(44, .v (.int .i64 (IntKind.i64.wrap (((k:Nat):Int) * ((k:Nat):Int)))))] [bS3 6 23 ⟨#[]⟩ ⟨#[]⟩ 0,bR4 8 36 s13 A13 l13 c13 t13 B13 m13 d13,bR4 10 36 gs gA gl gc gt gB gm gd] ?_)))
      rw [nmul (kk_le (by omega))]
      refine xr 2 [(2, .v (.int .i64 ((m:Nat):Int))),(6, .p 6 0),(7, .v (.int .i64 0)),(8, .p 8 0),(10, .p 10 0),(12, .v (.int .i64 ((k:Nat):Int))),(46, .v (.bool (decide (((k * k:Nat):Int)≤((m:Nat):Int)))))] [bS3 6 23 ⟨#[]⟩ ⟨#[]⟩ 0,bR4 8 36 s13 A13 l13 c13 t13 B13 m13 d13,bR4 10 36 gs gA gl gc gt gB gm gd] ?_
      refine xe (sx_next ?_)
      refine sx_cond ((decide (((k * k:Nat):Int)≤((m:Nat):Int)))) (by kernel_rfl) (fun hb21=>?_) (fun hb21=>?_)
      ·have hle:=le_t hb21
       have hk1:=k_le hle (by omega)
       refine sx_skip (sx_next (sx_seq (sx_block (sx_block ?_))))
       refine SXc.weak [(2, .v (.int .i64 ((m:Nat):Int))),(6, .p 6 0),(7, .v (.int .i64 0)),(8, .p 8 0),(10, .p 10 0),(12, .v (.int .i64 ((k:Nat):Int)))] [(6,23,[.v (.string ⟨#[]⟩), .v (.string ⟨#[]⟩), .v (.int .i64 0)]),(8,36,[.v (.bool s13), .v (.slice A13 l13 c13), .v (.bool t13), .v (.slice B13 m13 d13)]),(10,36,[.v (.bool gs), .v (.slice gA gl gc), .v (.bool gt), .v (.slice gB gm gd)])] (Ψ:=fun w=>(NRatIs w (.agg #[.bool s13, .slice A13 l13 c13, .bool t13, .slice B13 m13 d13]) (qa)∧NRatIs w (.agg #[.bool gs, .slice gA gl gc, .bool gt, .slice gB gm gd]) (qb * (((r:Nat):Int):Rat)))) (SameL.of (by kernel_rfl)) (by kernel_rfl) (fun w hΦ=>⟨hΦ.1,hΦ.2⟩) ?_
       refine sx_loop (fun nn ss ff=>∃ (vs vt:Bool) (vA vB:Option Addr) (vl vc vm vd:Nat) (m2 r2:Nat),ss=ofL [(2, .v (.int .i64 ((m2:Nat):Int))),(6, .p 6 0),(7, .v (.int .i64 0)),(8, .p 8 0),(10, .p 10 0),(12, .v (.int .i64 ((k:Nat):Int)))] [(6,23,[.v (.string ⟨#[]⟩), .v (.string ⟨#[]⟩), .v (.int .i64 0)]),(8,36,[.v (.bool s13), .v (.slice A13 l13 c13), .v (.bool t13), .v (.slice B13 m13 d13)]),(10,36,[.v (.bool vs), .v (.slice vA vl vc), .v (.bool vt), .v (.slice vB vm vd)])]∧ff=(fun w=>(NRatIs w (.agg #[.bool s13, .slice A13 l13 c13, .bool t13, .slice B13 m13 d13]) (qa)∧NRatIs w (.agg #[.bool vs, .slice vA vl vc, .bool vt, .slice vB vm vd]) (qb * (((r2:Nat):Int):Rat))))∧(r2 * r2 * m2=N)∧(0 < m2)∧(m2≤1000000)∧(FreeTo k m2)∧nn=(0 + m2)) ((0 + m)) ⟨gs,gt,gA,gB,gl,gc,gm,gd,m,r,rfl,rfl,hmul,hm0,hmN,hF,rfl⟩ ?_
       rintro nn ss ff ⟨vs,vt,vA,vB,vl,vc,vm,vd,m2,r2,rfl,rfl,hmul2,hm2,hm2N,hF2,rfl⟩
       refine sx_seq (sx_seq (sx_region (xr 4 [(2, .v (.int .i64 ((m2:Nat):Int))),(6, .p 6 0),(7, .v (.int .i64 0)),(8, .p 8 0),(10, .p 10 0),(12, .v (.int .i64 ((k:Nat):Int))),(49, .v (.int .i64 ((m2:Nat):Int))),(52, .v (.int .i64 (IntKind.i64.wrap (((k:Nat):Int) * ((k:Nat):Int)))))] [bS3 6 23 ⟨#[]⟩ ⟨#[]⟩ 0,bR4 8 36 s13 A13 l13 c13 t13 B13 m13 d13,bR4 10 36 vs vA vl vc vt vB vm vd] ?_)))
       rw [nmul (kk_le (by omega))]
       refine xl 53 (.int .i64 ((m2 % (k * k):Nat):Int)) (fun w hE hΦ=>run_rem (t:=3) (k:=3) (x:=.tmp 49) (y:=.tmp 52) (a:=m2) (b:=k * k) (by kernel_rfl) (by kernel_rfl) (by kernel_rfl) (by have:=kk4 hk2; omega)) ?_
       refine xr 1 [(2, .v (.int .i64 ((m2:Nat):Int))),(6, .p 6 0),(7, .v (.int .i64 0)),(8, .p 8 0),(10, .p 10 0),(12, .v (.int .i64 ((k:Nat):Int))),(54, .v (.bool ((((m2 % (k * k):Nat):Int):Int) == 0)))] [bS3 6 23 ⟨#[]⟩ ⟨#[]⟩ 0,bR4 8 36 s13 A13 l13 c13 t13 B13 m13 d13,bR4 10 36 vs vA vl vc vt vB vm vd] ?_
       refine xe (sx_next ?_)
       refine sx_cond (((((m2 % (k * k):Nat):Int):Int) == 0)) (by kernel_rfl) (fun hb22=>?_) (fun hb22=>?_)
       ·have hd:=md_t hb22
        refine sx_skip (sx_next (sx_block (sx_seq (sx_region (xr 4 [(2, .v (.int .i64 ((m2:Nat):Int))),(6, .p 6 0),(7, .v (.int .i64 0)),(8, .p 8 0),(10, .p 10 0),(12, .v (.int .i64 ((k:Nat):Int))),(55, .v (.int .i64 ((m2:Nat):Int))),(58, .v (.int .i64 (IntKind.i64.wrap (((k:Nat):Int) * ((k:Nat):Int)))))] [bS3 6 23 ⟨#[]⟩ ⟨#[]⟩ 0,bR4 8 36 s13 A13 l13 c13 t13 B13 m13 d13,bR4 10 36 vs vA vl vc vt vB vm vd] ?_)))))
        rw [nmul (kk_le (by omega))]
        refine xl 59 (.int .i64 ((m2 / (k * k):Nat):Int)) (fun w hE hΦ=>run_quo (t:=3) (k:=3) (x:=.tmp 55) (y:=.tmp 58) (a:=m2) (b:=k * k) (by kernel_rfl) (by kernel_rfl) (by kernel_rfl) (by have:=kk4 hk2; omega) (by omega)) ?_
        refine xr 1 [(2, .v (.int .i64 ((m2 / (k * k):Nat):Int))),(6, .p 6 0),(7, .v (.int .i64 0)),(8, .p 8 0),(10, .p 10 0),(12, .v (.int .i64 ((k:Nat):Int)))] [bS3 6 23 ⟨#[]⟩ ⟨#[]⟩ 0,bR4 8 36 s13 A13 l13 c13 t13 B13 m13 d13,bR4 10 36 vs vA vl vc vt vB vm vd] ?_
        refine xe (sx_next ?_)
        refine sx_draw 5 (by kernel_rfl) (by kernel_rfl) follows_mixed' ?_
        refine xf 2 [(2, .v (.int .i64 ((m2 / (k * k):Nat):Int))),(6, .p 6 0),(7, .v (.int .i64 0)),(8, .p 8 0),(10, .p 10 0),(12, .v (.int .i64 ((k:Nat):Int))),eR4 60 vs vA vl vc vt vB vm vd,(61, .v (.int .i64 ((k:Nat):Int)))] [bS3 6 23 ⟨#[]⟩ ⟨#[]⟩ 0,bR4 8 36 s13 A13 l13 c13 t13 B13 m13 d13,bR4 10 36 vs vA vl vc vt vB vm vd] ?_
        refine xd 77 [.int .i64 ((k:Nat):Int)] 62 shRat _ (fun w hE hΦ=>(NR_any ((k:Nat):Int) _ (by omega) (by omega)).mono (fun _ _ h=>post_NRat h)) (fun X23=>?_)
        refine xf 0 [(2, .v (.int .i64 ((m2 / (k * k):Nat):Int))),(6, .p 6 0),(7, .v (.int .i64 0)),(8, .p 8 0),(10, .p 10 0),(12, .v (.int .i64 ((k:Nat):Int))),eR4 60 vs vA vl vc vt vB vm vd,eQ 62 X23] [bS3 6 23 ⟨#[]⟩ ⟨#[]⟩ 0,bR4 8 36 s13 A13 l13 c13 t13 B13 m13 d13,bR4 10 36 vs vA vl vc vt vB vm vd] ?_
        refine xd 101 [vR4 vs vA vl vc vt vB vm vd,vQ X23] 63 shRat _ (fun w hE hΦ=>(NRMul_any _ _ (qb * (((r2:Nat):Int):Rat)) (((k:Nat):Int):Rat) _ hΦ.1.2 hΦ.2 (Dq.rfit (zb.mul (dq_nat (n:=r2) (by have:=sq_r hmul2 hm2 hN; omega))) (by omega)) (Dq.rfit (dq_nat (n:=k) (by omega)) (by decide))).mono (fun _ _ h=>post_NRat (by rw [qmul_nat] at h; exact h))) (fun xx=>?_)
        obtain ⟨s24,A24,l24,c24,t24,B24,m24,d24⟩:=xx
        refine xf 1 [(2, .v (.int .i64 ((m2 / (k * k):Nat):Int))),(6, .p 6 0),(7, .v (.int .i64 0)),(8, .p 8 0),(10, .p 10 0),(12, .v (.int .i64 ((k:Nat):Int)))] [bR4 10 36 s24 A24 l24 c24 t24 B24 m24 d24,bS3 6 23 ⟨#[]⟩ ⟨#[]⟩ 0,bR4 8 36 s13 A13 l13 c13 t13 B13 m13 d13,bR4 10 36 vs vA vl vc vt vB vm vd] ?_
        refine xz (xe (sx_out ?_))
        refine SXq.weak [(2, .v (.int .i64 (((m2 / (k * k)):Nat):Int))),(6, .p 6 0),(7, .v (.int .i64 0)),(8, .p 8 0),(10, .p 10 0),(12, .v (.int .i64 ((k:Nat):Int)))] [(6,23,[.v (.string ⟨#[]⟩), .v (.string ⟨#[]⟩), .v (.int .i64 0)]),(8,36,[.v (.bool s13), .v (.slice A13 l13 c13), .v (.bool t13), .v (.slice B13 m13 d13)]),(10,36,[.v (.bool s24), .v (.slice A24 l24 c24), .v (.bool t24), .v (.slice B24 m24 d24)])] (Ψ:=fun w=>(NRatIs w (.agg #[.bool s13, .slice A13 l13 c13, .bool t13, .slice B13 m13 d13]) (qa)∧NRatIs w (.agg #[.bool s24, .slice A24 l24 c24, .bool t24, .slice B24 m24 d24]) (qb * ((((r2 * k):Nat):Int):Rat)))) (SameL.of (by kernel_rfl)) (by kernel_rfl) (fun w hΦ=>⟨hΦ.1.1.1,hΦ.2⟩) ?_
        have hq:=sq_div hm2 hd (kk4 hk2)
        exact sx_round ((0 + (m2 / (k * k)))) (by have:=hq.2; omega) ⟨s24,t24,A24,B24,l24,c24,m24,d24,(m2 / (k * k)),(r2 * k),rfl,rfl,(sq_step hmul2 hd),hq.1,(by omega),(hF2.div (Nat.dvd_of_mod_eq_zero hd)),rfl⟩
       ·have hd:=md_f hb22
        refine sx_exit (sx_then_exit (sx_then_exit (sx_hit (sx_out (sx_next (sx_region (xr 2 [(2, .v (.int .i64 ((m2:Nat):Int))),(6, .p 6 0),(7, .v (.int .i64 0)),(8, .p 8 0),(10, .p 10 0),(12, .v (.int .i64 ((k:Nat):Int))),(48, .v (.int .i64 (IntKind.i64.wrap (((k:Nat):Int) + 1))))] [bS3 6 23 ⟨#[]⟩ ⟨#[]⟩ 0,bR4 8 36 s13 A13 l13 c13 t13 B13 m13 d13,bR4 10 36 vs vA vl vc vt vB vm vd] ?_)))))))
        rw [ninc (by omega)]
        refine xr 1 [(2, .v (.int .i64 ((m2:Nat):Int))),(6, .p 6 0),(7, .v (.int .i64 0)),(8, .p 8 0),(10, .p 10 0),(12, .v (.int .i64 ((k + 1:Nat):Int)))] [bS3 6 23 ⟨#[]⟩ ⟨#[]⟩ 0,bR4 8 36 s13 A13 l13 c13 t13 B13 m13 d13,bR4 10 36 vs vA vl vc vt vB vm vd] ?_
        refine xe ?_
        refine SXq.weak [(2, .v (.int .i64 ((m2:Nat):Int))),(6, .p 6 0),(7, .v (.int .i64 0)),(8, .p 8 0),(10, .p 10 0),(12, .v (.int .i64 (((k + 1):Nat):Int)))] [(6,23,[.v (.string ⟨#[]⟩), .v (.string ⟨#[]⟩), .v (.int .i64 0)]),(8,36,[.v (.bool s13), .v (.slice A13 l13 c13), .v (.bool t13), .v (.slice B13 m13 d13)]),(10,36,[.v (.bool vs), .v (.slice vA vl vc), .v (.bool vt), .v (.slice vB vm vd)])] (Ψ:=fun w=>(NRatIs w (.agg #[.bool s13, .slice A13 l13 c13, .bool t13, .slice B13 m13 d13]) (qa)∧NRatIs w (.agg #[.bool vs, .slice vA vl vc, .bool vt, .slice vB vm vd]) (qb * (((r2:Nat):Int):Rat)))) (SameL.of (by kernel_rfl)) (by kernel_rfl) (fun w hΦ=>⟨hΦ.1,hΦ.2⟩) ?_
        exact sx_round ((2000 - (k + 1))) (by omega) ⟨vs,vt,vA,vB,vl,vc,vm,vd,m2,r2,(k + 1),rfl,rfl,hmul2,hm2,hm2N,(hF2.next (fun h=>hd (Nat.mod_eq_zero_of_dvd h))),(by omega),(by omega),rfl⟩
      ·have hle:=le_f hb21
       refine sx_exit (sx_then_exit (sx_then_exit (sx_hit (sx_next (sx_seq ?_)))))
       obtain ⟨rfl,rfl⟩:=SqF.eq ⟨hmul,hN0,hF.free hm0 hle⟩ hS
       refine sx_region (xr 3 [(6, .p 6 0),(7, .v (.int .i64 0)),eR4 64 s13 A13 l13 c13 t13 B13 m13 d13,eR4 65 gs gA gl gc gt gB gm gd,(66, .v (.int .i64 ((m:Nat):Int)))] [bS3 6 23 ⟨#[]⟩ ⟨#[]⟩ 0] ?_)
       refine xc 75 [vR4 s13 A13 l13 c13 t13 B13 m13 d13,vR4 gs gA gl gc gt gB gm gd, .int .i64 ((m:Nat):Int)] 67 (shSd ((Sd.build qa (qb * (((r:Nat):Int):Rat)) ((m:Nat):Int)).d)) _ (fun w hE hΦ=>(RBuild_any _ _ qa (qb * (((r:Nat):Int):Rat)) ((m:Nat):Int) _ hΦ.1 hΦ.2 (za.rfit (by omega)) ((zb.mul (dq_nat (n:=r) (by omega))).rfit (by omega))).mono (fun _ _ h=>post_RSd h)) (fun xx=>?_)
       obtain ⟨⟨s25,A25,l25,c25,t25,B25,m25,d25⟩,⟨s26,A26,l26,c26,t26,B26,m26,d26⟩⟩:=xx
       refine xr 0 [(6, .p 6 0),(7, .v (.int .i64 0)),(67, .v (.agg #[.bool s25, .slice A25 l25 c25, .bool t25, .slice B25 m25 d25, .bool s26, .slice A26 l26 c26, .bool t26, .slice B26 m26 d26, .int .i64 ((Sd.build qa (qb * (((r:Nat):Int):Rat)) ((m:Nat):Int)).d)]))] [bS3 6 23 ⟨#[]⟩ ⟨#[]⟩ 0] ?_
       refine xc 26 [.agg #[.bool s25, .slice A25 l25 c25, .bool t25, .slice B25 m25 d25, .bool s26, .slice A26 l26 c26, .bool t26, .slice B26 m26 d26, .int .i64 ((Sd.build qa (qb * (((r:Nat):Int):Rat)) ((m:Nat):Int)).d)]] 68 (fun _:Unit=>.agg #[.string ⟨(ratText ((Sd.build qa (qb * (((r:Nat):Int):Rat)) ((m:Nat):Int)).a)).toArray⟩, .string ⟨(ratText ((Sd.build qa (qb * (((r:Nat):Int):Rat)) ((m:Nat):Int)).b)).toArray⟩, .int .i64 ((Sd.build qa (qb * (((r:Nat):Int):Rat)) ((m:Nat):Int)).d)]) _ (fun w hE hΦ=>(RWrite_any _ (Sd.build qa (qb * (((r:Nat):Int):Rat)) ((m:Nat):Int)) _ (RSdIs.of hΦ.2.1 hΦ.2.2) (j:=(2 * (j + 7) + 1)) (build_sz (za.up (Nat.le_add_right j 7)) (zb.mul (dq_nat (n:=r) (by omega))) (by omega) (by omega)).a (build_sz (za.up (Nat.le_add_right j 7)) (zb.mul (dq_nat (n:=r) (by omega))) (by omega) (by omega)).b (by omega)).mono (fun _ _ h=>post_val h rfl)) (fun xx=>?_)
       refine xr 2 [(6, .p 6 0),(7, .v (.int .i64 0))] [(6,23,[.v (.string ⟨(ratText ((Sd.build qa (qb * (((r:Nat):Int):Rat)) ((m:Nat):Int)).a)).toArray⟩), .v (.string ⟨(ratText ((Sd.build qa (qb * (((r:Nat):Int):Rat)) ((m:Nat):Int)).b)).toArray⟩), .v (.int .i64 ((Sd.build qa (qb * (((r:Nat):Int):Rat)) ((m:Nat):Int)).d))])] ?_
       refine xe (sx_next (sx_ret ?_))
       refine sx_done (v:=.tuple #[.agg #[.string ⟨(ratText ((Sd.build qa (qb * (((r:Nat):Int):Rat)) ((m:Nat):Int)).a)).toArray⟩, .string ⟨(ratText ((Sd.build qa (qb * (((r:Nat):Int):Rat)) ((m:Nat):Int)).b)).toArray⟩, .int .i64 ((Sd.build qa (qb * (((r:Nat):Int):Rat)) ((m:Nat):Int)).d)], .int .i64 0]) (by kernel_rfl) (fun w' hE hΦ=>?_)
       exact ⟨by rw [mkV_ok ha hb (by omega) (by omega) (by omega)],hE⟩
end Go.Proofs.YtbgkofgoeoiciaaGreatDoor

namespace Go.Proofs.YtbgkofgoeoiciaaGreatDoor
open Go.RowKit
open Sd
structure TIs (a b:ByteArray) (d:Int) (x:Sd) (j:Nat):Prop where
 rd:rdS (bytes a) (bytes b) d=some x
 len:(bytes a).length≤570∧(bytes b).length≤570
 sz:Sz x j
abbrev tB (q:Rat):ByteArray:=⟨(ratText q).toArray⟩
theorem TIs.of {r:Sd} {j:Nat} (hr:r.Ok) (hz:Sz r j) (h1:1≤j) (hj:2 * j + 3≤570):TIs (tB r.a) (tB r.b) r.d r j:=by
 refine ⟨?_,?_,hz⟩
 ·rw [bytes_of,bytes_of]; exact rd_txt hr
 ·rw [bytes_of,bytes_of]; exact ⟨small_len h1 hz.a hj,small_len h1 hz.b hj⟩
theorem TIs.in {a b:ByteArray} {d:Int} {x:Sd} {k:Nat} (h:rdS (bytes a) (bytes b) d=some x) (ha:(bytes a).length≤k) (hb:(bytes b).length≤k) (h1:1≤k) (hk:k≤570):TIs a b d x k :=
 ⟨h,⟨Nat.le_trans ha hk,Nat.le_trans hb hk⟩,rdS_sz h ha hb h1⟩
theorem TIs.zz {a b:ByteArray} {d:Int} {x:Sd} {j:Nat} (h:TIs a b d x j):∀ y,rdS (bytes a) (bytes b) d=some y→Sz y j:=fun y hy=>by
 have:=h.rd.symm.trans hy; injection this with e; exact e ▸ h.sz
section
variable {a b a' b':ByteArray} {d d':Int} {x y r:Sd} {j k:Nat} {w:World}
theorem lMul (hg:Glob w) (hx:TIs a b d x j) (hy:TIs a' b' d' y k) (hB:Blg x.d y.d) (hr:x.times y=r) (hj:j + k≤350) :
 Calls Tryz.prog 31 #[.agg #[.string a, .string b, .int .i64 d], .agg #[.string a', .string b', .int .i64 d']] w (RetV w (okS r)):=by
 have h:=SMulT_ok a b a' b' d d' w hg hx.len hy.len hx.rd hy.rd hB hx.zz hy.zz hj
 rw [opV_ok hx.rd hy.rd hB,hr] at h; exact h
theorem lConj (hg:Glob w) (hx:TIs a b d x j) (hr:x.conj=r) (hj:j≤350):Calls Tryz.prog 23 #[.agg #[.string a, .string b, .int .i64 d]] w (RetV w (okS r)):=by
 have h:=SConjT_ok a b d w hg hx.len hx.rd hx.zz hj
 rw [opU_ok hx.rd,hr] at h; exact h
theorem lNorm {q:Rat} (hg:Glob w) (hx:TIs a b d x j) (hr:x.norm=q) (hj:j≤170):Calls Tryz.prog 24 #[.agg #[.string a, .string b, .int .i64 d]] w (RetV w (.tuple #[.string (tB q), .int .i64 0])):=by
 have h:=SNormT_ok a b d w hg hx.len hx.rd hx.zz hj
 rw [opU_ok hx.rd,hr] at h; exact h
theorem lSign {n:Int} (hg:Glob w) (hx:TIs a b d x j) (hr:x.sgn=n) (hj:j≤350):Calls Tryz.prog 25 #[.agg #[.string a, .string b, .int .i64 d]] w (RetV w (.tuple #[.int .i64 n, .int .i64 0])):=by
 have h:=SSignT_ok a b d w hg hx.len hx.rd hx.zz hj
 rw [opU_ok hx.rd,hr] at h; exact h
-- the reference
end
theorem mkV_ways {A B:List UInt8} {d:Int} {R M:Nat} {j:Nat} (hA:A.length≤j) (hB:B.length≤j) (hj:1≤j) (HS:0 < d→d≤1000000→SqF d.toNat R M) :
 mkV A B d R M=.tuple #[zS, .int .i64 1]∨mkV A B d R M=.tuple #[zS, .int .i64 3]∨∃ x:Sd,x.Ok∧Sz x (2 * (j + 7) + 1)∧mkV A B d R M=okS x:=by
 cases hp:readF A with
 | none=>exact Or.inl (mkV_bad1 hp)
 | some p =>
   cases hq:readF B with
   | none=>exact Or.inl (mkV_bad2 hq)
   | some q =>
     have z1:=readF_dec hp hA hj
     have z2:=readF_dec hq hB hj
     by_cases h1:d < 0∨d > 1000000
     ·exact Or.inr (Or.inl (mkV_range hp hq h1))
     by_cases h2:d=0
     ·refine Or.inr (Or.inr ⟨⟨p,0,1⟩,Or.inl ⟨rfl,rfl⟩,⟨Dq.up z1 (by omega),Dq.zero (by omega),(by decide:(1:Int)≤1),(by decide:(1:Int)≤1000000)⟩,mkV_zero hp hq h2⟩)
     ·have hS:=HS (by omega) (by omega)
      have hR:=sqf_bound hS (by omega)
      have hR0:=hS.rpos
      have hM:=hS.le
      refine Or.inr (Or.inr ⟨_,?_,build_sz (k:=j + 7) (Dq.up z1 (by omega)) (Dq.mul z2 (dq_nat (n:=R) (by omega))) (by omega) (by omega),mkV_ok hp hq (by omega) (by omega) h2⟩)
      unfold Sd.build
      split
      ·exact Or.inl ⟨rfl,rfl⟩
      ·split
       ·exact Or.inl ⟨rfl,rfl⟩
       ·rename_i e1 e2
        exact Or.inr ⟨by show (2:Int)≤(M:Int); omega,by show (M:Int)≤1000000; omega,e2,hS.free⟩
-- rows of surds
def cellsS (l:List (ByteArray × ByteArray × Int)):List Value:=l.flatMap fun p=>[.string p.1, .string p.2.1, .int .i64 p.2.2]
theorem cellsS_at:∀ (l:List (ByteArray × ByteArray × Int)) (i:Nat) (p:ByteArray × ByteArray × Int),l[i]? = some p→(cellsS l)[i * 3]? = some (.string p.1)∧(cellsS l)[i * 3 + 1]? = some (.string p.2.1)
 | [],i,p,h=>by simp at h
 | q :: l,0,p,h=>by
   simp at h; subst h
   exact ⟨rfl,rfl⟩
 | q :: l,i + 1,p,h=>by
   simp at h
   have:=cellsS_at l i p h
   simp only [cellsS,List.flatMap_cons,Nat.succ_mul] at this ⊢
   exact this
theorem srow_at {e:TypeId} {w:World} {g i:Nat} {l:List (ByteArray × ByteArray × Int)} {p:ByteArray × ByteArray × Int} (hB:Blk e w g (cellsS l).toArray) (hp:l[i]? = some p) :
 w.cell? ⟨g,i * 3,none⟩=some (.string p.1)∧w.cell? ⟨g,i * 3 + 1,none⟩=some (.string p.2.1):=by
 obtain ⟨h1,h2⟩:=cellsS_at l i p hp
 rw [hB.cell,hB.cell]
 exact ⟨by simpa using h1,by simpa using h2⟩
def okP (p:ByteArray × ByteArray × Int):Bool:=decide ((p.1.size:Int)≤40) && decide ((p.2.1.size:Int)≤40)
theorem okP_eq (p:ByteArray × ByteArray × Int):[p.1,p.2.1].all (fun s=>decide ((s.size:Int)≤40))=okP p:=by simp [okP]
theorem all_no {l:List (ByteArray × ByteArray × Int)} {i:Nat} {p:ByteArray × ByteArray × Int} (hp:l[i]? = some p) (h:okP p=false):l.all okP=false:=by
 rw [List.all_eq_false]; exact ⟨p,List.mem_of_getElem? hp,by rw [h]; decide⟩
theorem all_yes {l:List (ByteArray × ByteArray × Int)} {i:Nat} (h:∀ j p,j < i→l[j]? = some p→okP p=true) (hi:¬ i < l.length):l.all okP=true:=by
 rw [List.all_eq_true]
 intro p hp
 obtain ⟨j,hj,rfl⟩:=List.getElem_of_mem hp
 exact h j _ (by omega) (List.getElem?_eq_getElem hj)
theorem all_next {l:List (ByteArray × ByteArray × Int)} {i:Nat} {p:ByteArray × ByteArray × Int} (h:∀ j p,j < i→l[j]? = some p→okP p=true) (hp:l[i]? = some p) (hk:okP p=true):∀ j p,j < i + 1→l[j]? = some p→okP p=true:=fun j q hj hq=>by
 by_cases e:j=i
 ·subst e; rw [hp] at hq; injection hq with hq; subst hq; exact hk
 ·exact h j q (by omega) hq
end Go.Proofs.YtbgkofgoeoiciaaGreatDoor

namespace Go.Proofs.YtbgkofgoeoiciaaGreatDoor
open Go.RowKit
theorem okP_len {p:ByteArray × ByteArray × Int} (h:okP p=true):(bytes p.1).length≤40∧(bytes p.2.1).length≤40:=by
 unfold okP at h
 rw [Bool.and_eq_true,decide_eq_true_eq,decide_eq_true_eq] at h
 rw [bytes_length,bytes_length]; omega
section
variable {a b a' b' a'' b'':ByteArray} {d d' d'':Int}
theorem small_l1 (h:[(a,b,d)].all okP=true):(bytes a).length≤40∧(bytes b).length≤40:=by
 simp only [List.all_cons,List.all_nil,Bool.and_true] at h
 exact okP_len h
end
theorem sqf_for (d:Int):∃ R M,(0 < d→d≤1000000→SqF d.toNat R M):=by
 by_cases h:0 < d
 ·obtain ⟨R,M,hS⟩:=sqf_exists _ d.toNat (Nat.le_refl _) (by omega)
  exact ⟨R,M,fun _ _=>hS⟩
 ·exact ⟨0,0,fun h'=>absurd h' h⟩
theorem aw_sq:SqF (8:Int).toNat 2 2:=⟨by decide,by decide,two_field.free⟩
theorem aw_r0:readF [48]=some 0:=read_iff.2 (rt_whole (n:=0) (by decide) (by decide) (by decide))
theorem aw_r1:readF [49]=some 1:=read_iff.2 (rt_whole (n:=1) (by decide) (by decide) (by decide))
theorem aw_r3:readF [51]=some 3:=read_iff.2 (rt_whole (n:=3) (by decide) (by decide) (by decide))
theorem aw_r2n:readF [45,50]=some (-2):=read_iff.2 (rt_nwhole (n:=2) (by decide) (by decide) (by decide) (by decide))
theorem aw_tb0:(tB (0:Rat))=⟨#[48]⟩:=by show (⟨(ratText 0).toArray⟩:ByteArray)=_; rw [rt_whole (q:=0) (n:=0) (by decide) (by decide) (by decide)]; rfl
theorem aw_tb1:(tB (1:Rat))=⟨#[49]⟩:=by show (⟨(ratText 1).toArray⟩:ByteArray)=_; rw [rt_whole (q:=1) (n:=1) (by decide) (by decide) (by decide)]; rfl
theorem aw_tb2:(tB (2:Rat))=⟨#[50]⟩:=by show (⟨(ratText 2).toArray⟩:ByteArray)=_; rw [rt_whole (q:=2) (n:=2) (by decide) (by decide) (by decide)]; rfl
theorem aw_v2:okS ⟨2,0,1⟩=.tuple #[.agg #[.string ⟨#[50]⟩, .string ⟨#[48]⟩, .int .i64 1], .int .i64 0]:=by
 show Value.tuple #[.agg #[.string (tB 2), .string (tB 0), .int .i64 1], .int .i64 0]=_
 rw [aw_tb2,aw_tb0]
theorem aw_d1:Dq 1 1:=⟨by decide,by decide⟩
theorem aw_mk:okS (nv 1 (1 * ((2:Int):Rat)) 2)=.tuple #[.agg #[.string ⟨#[49]⟩, .string ⟨#[50]⟩, .int .i64 2], .int .i64 0]:=by
 have h:(1:Rat) * ((2:Int):Rat)=2:=by decide +kernel
 rw [h,nv_nz _ _ (by decide)]
 show Value.tuple #[.agg #[.string (tB 1), .string (tB 2), .int .i64 2], .int .i64 0]=_
 rw [aw_tb1,aw_tb2]
theorem aw_t1:TIs ⟨#[51]⟩ ⟨#[45,50]⟩ 2 ⟨3,-2,2⟩ 1:=by
 have h:rdS (bytes ⟨#[51]⟩) (bytes ⟨#[45,50]⟩) 2=some ⟨3,-2,2⟩:=rdS_some aw_r3 aw_r2n (Or.inr ⟨by decide,by decide,by decide,two_field.free⟩)
 exact ⟨h,by decide,⟨⟨by decide,by decide⟩,⟨by decide,by decide⟩,by decide,by decide⟩⟩
theorem aw_t2:TIs ⟨#[48]⟩ ⟨#[49]⟩ 2 ⟨0,1,2⟩ 1:=by
 have h:rdS (bytes ⟨#[48]⟩) (bytes ⟨#[49]⟩) 2=some ⟨0,1,2⟩:=rdS_some aw_r0 aw_r1 (Or.inr ⟨by decide,by decide,by decide,two_field.free⟩)
 exact ⟨h,by decide,⟨⟨by decide,by decide⟩,⟨by decide,by decide⟩,by decide,by decide⟩⟩
theorem aw_times:Sd.times ⟨0,1,2⟩ ⟨0,1,2⟩=⟨2,0,1⟩:=by
 have h1:(0:Rat) * 0 + 1 * 1 * ((max (2:Int) 2:Int):Rat)=2:=by decide +kernel
 have h2:(0:Rat) * 1 + 1 * 0=0:=by decide +kernel
 unfold Sd.times
 simp only []
 rw [h1,h2,nv_zero]
set_option maxRecDepth 100000 in
theorem small_any (gb n:Nat) (l:List (ByteArray × ByteArray × Int)) (w:World) (hB:Blk 23 w gb (cellsS l).toArray) (hl:l.length=n) (hn:n≤1000) (r:Bool) (hr:l.all okP=r) :
 Calls Tryz.prog 15 #[.slice (some ⟨gb,0,none⟩) n n] w (RetV w (.bool r)):=by
 refine sx_enter (Φ:=fun w=>Blk 23 w gb (cellsS l).toArray) Tryz.func15 rfl (by kernel_rfl) (fun w' hf=>hB.ext hf) ?_
 refine sx_seq (sx_region (xr 1 [eS1 0 (some ⟨gb,0,none⟩) n n,(2, .v (.bool false))] [] ?_))
 refine xe (sx_next (sx_seq (sx_seq (sx_region (xr 1 [eS1 0 (some ⟨gb,0,none⟩) n n,(2, .v (.bool false)),(3, .v (.int .i64 0))] [] ?_)))))
 refine xe (sx_next (sx_block ?_))
 refine SXc.weak [(0, .v (.slice (some ⟨gb,0,none⟩) n n)),(3, .v (.int .i64 ((0:Nat):Int)))] [] (Ψ:=fun w=>Blk 23 w gb (cellsS l).toArray) (SameL.of (by kernel_rfl)) (by kernel_rfl) (fun w hΦ=>hΦ) ?_
 refine sx_loop (fun nn ss ff=>∃ (i:Nat),ss=ofL [(0, .v (.slice (some ⟨gb,0,none⟩) n n)),(3, .v (.int .i64 ((i:Nat):Int)))] []∧ff=(fun w=>Blk 23 w gb (cellsS l).toArray)∧(i≤n)∧(∀ j p,j < i→l[j]? = some p→okP p=true)∧nn=(1 + n - i)) ((1 + n - 0)) ⟨0,rfl,rfl,(by omega),(fun j p hj=>by omega),rfl⟩ ?_
 rintro nn ss ff ⟨i,rfl,rfl,hi,hS,rfl⟩
 refine sx_seq (sx_seq (sx_region (xr 4 [eS1 0 (some ⟨gb,0,none⟩) n n,(3, .v (.int .i64 ((i:Nat):Int))),(7, .v (.bool (decide (((i:Nat):Int) < ((n:Nat):Int)))))] [] ?_)))
 refine xe (sx_next ?_)
 refine sx_cond ((decide (((i:Nat):Int) < ((n:Nat):Int)))) (by kernel_rfl) (fun hb10=>?_) (fun hb10=>?_)
 ·have hlt:i < n:=by have:=of_decide_eq_true hb10; omega
  obtain ⟨p,hp⟩:∃ p,l[i]? = some p:=⟨_,List.getElem?_eq_getElem (by omega)⟩
  refine sx_skip (sx_next (sx_seq (sx_block (sx_seq ?_))))
  refine sx_drawM 13 [0,0,3,7,15,0,0,96,224,480,1023,2047,4095] (by kernel_rfl) (by kernel_rfl) follows_mixed' ?_
  refine xf 2 [eS1 0 (some ⟨gb,0,none⟩) n n,(3, .v (.int .i64 ((i:Nat):Int))),eS1 10 (some ⟨gb,0,none⟩) n n,(11, .v (.int .i64 ((i:Nat):Int)))] [] ?_
  refine xm 12 (.pointer (some ⟨gb,i * 3,none⟩)) (fun w hΦ=>run_index (g:=gb) (len:=n) (cap:=n) (i:=i) (x:=.tmp 10) (ix:=.tmp 11) (e:=23) (t:=86) (by kernel_rfl) (by kernel_rfl) (by kernel_rfl) (by kernel_rfl) (by kernel_rfl) hlt) ?_
  refine xf 1 [eS1 0 (some ⟨gb,0,none⟩) n n,(3, .v (.int .i64 ((i:Nat):Int))),(13, .v (.pointer (some ⟨gb,i * 3,none⟩)))] [] ?_
  refine xm 14 (.string p.1) (fun w hΦ=>run_rowload (x:=.tmp 13) (t:=9) (g:=gb) (off:=i * 3) (by kernel_rfl) (by kernel_rfl) (by kernel_rfl) (srow_at hΦ hp).1) ?_
  refine xf 2 [eS1 0 (some ⟨gb,0,none⟩) n n,(3, .v (.int .i64 ((i:Nat):Int))),(14, .v (.string p.1)),eS1 15 (some ⟨gb,0,none⟩) n n,(16, .v (.int .i64 ((i:Nat):Int)))] [] ?_
  refine xm 17 (.pointer (some ⟨gb,i * 3,none⟩)) (fun w hΦ=>run_index (g:=gb) (len:=n) (cap:=n) (i:=i) (x:=.tmp 15) (ix:=.tmp 16) (e:=23) (t:=86) (by kernel_rfl) (by kernel_rfl) (by kernel_rfl) (by kernel_rfl) (by kernel_rfl) hlt) ?_
  refine xf 1 [eS1 0 (some ⟨gb,0,none⟩) n n,(3, .v (.int .i64 ((i:Nat):Int))),(14, .v (.string p.1)),(18, .v (.pointer (some ⟨gb,i * 3 + 1,none⟩)))] [] ?_
  refine xm 19 (.string p.2.1) (fun w hΦ=>run_rowload (x:=.tmp 18) (t:=9) (g:=gb) (off:=i * 3 + 1) (by kernel_rfl) (by kernel_rfl) (by kernel_rfl) (srow_at hΦ hp).2) ?_
  refine xf 0 [eS1 0 (some ⟨gb,0,none⟩) n n,(3, .v (.int .i64 ((i:Nat):Int))),(14, .v (.string p.1)),(19, .v (.string p.2.1))] [] ?_
  refine st_does 20 (fun zb:Nat=>.slice (some ⟨zb,0,none⟩) 2 2) (fun zb zw=>Blk 9 zw zb #[.string p.1, .string p.2.1]) (by kernel_rfl) (by kernel_rfl) (by kernel_rfl) (by kernel_rfl) (by kernel_rfl) (by kernel_rfl) (by kernel_rfl) (fun w hE hΦ=>does_bslice (t:=111) (e:=9) (n:=2) (sz:=1) (z:=.string ⟨#[]⟩) (parts:=#[(0,Operand.tmp 14),(1,Operand.tmp 19)]) (by kernel_rfl) (by kernel_rfl) (by kernel_rfl) (by kernel_rfl) (by kernel_rfl) (by kernel_rfl)) (fun b11=>?_)
  refine xf 0 [eS1 0 (some ⟨gb,0,none⟩) n n,(3, .v (.int .i64 ((i:Nat):Int))),eS1 20 (some ⟨b11,0,none⟩) 2 2] [] ?_
  obtain ⟨b,hb⟩:∃ b,okP p=b:=⟨_,rfl⟩
  refine xd 16 [.int .i64 40, .slice (some ⟨b11,0,none⟩) 2 2] 21 (fun _:Unit=>.bool b) _ (fun w hE hΦ=>(short2 hΦ.2 ((okP_eq p).trans hb)).mono (fun _ _ h=>post_val h rfl)) (fun xx=>?_)
  rcases b with _ | _
  ·refine xf 1 [eS1 0 (some ⟨gb,0,none⟩) n n,(3, .v (.int .i64 ((i:Nat):Int))),(22, .v (.bool true))] [] ?_
   refine xz (xe (sx_next (xa (sx_seq (sx_region (xr 1 [eS1 0 (some ⟨gb,0,none⟩) n n,(2, .v (.bool false)),(3, .v (.int .i64 ((i:Nat):Int)))] [] ?_))))))
   refine xe (sx_next (sx_ret (sx_in_ret (sx_then_ret (sx_then_ret (sx_in_ret (sx_then_ret ?_)))))))
   refine sx_done (v:=.bool false) (by kernel_rfl) (fun w' hE hΦ=>?_)
   exact ⟨by rw [← hr,all_no hp hb],hE⟩
  ·refine xf 1 [eS1 0 (some ⟨gb,0,none⟩) n n,(3, .v (.int .i64 ((i:Nat):Int))),(22, .v (.bool false))] [] ?_
   refine xz (xe (sx_next (xb (sx_skip (sx_out (sx_next (sx_region (xr 2 [eS1 0 (some ⟨gb,0,none⟩) n n,(3, .v (.int .i64 ((i:Nat):Int))),(9, .v (.int .i64 (IntKind.i64.wrap (((i:Nat):Int) + 1))))] [] ?_))))))))
   rw [ninc (by omega)]
   refine xr 1 [eS1 0 (some ⟨gb,0,none⟩) n n,(3, .v (.int .i64 ((i + 1:Nat):Int)))] [] ?_
   refine xe ?_
   refine SXq.weak [(0, .v (.slice (some ⟨gb,0,none⟩) n n)),(3, .v (.int .i64 (((i + 1):Nat):Int)))] [] (Ψ:=fun w=>Blk 23 w gb (cellsS l).toArray) (SameL.of (by kernel_rfl)) (by kernel_rfl) (fun w hΦ=>hΦ.1.1) ?_
   exact sx_round ((1 + n - (i + 1))) (by omega) ⟨(i + 1),rfl,rfl,(by omega),(all_next hS hp hb),rfl⟩
 ·have hge:¬ i < l.length:=by have:=of_decide_eq_false hb10; omega
  refine sx_exit (sx_then_exit (sx_then_exit (sx_hit (sx_next (sx_seq (sx_region (xr 1 [(2, .v (.bool true))] [] ?_)))))))
  refine xe (sx_next (sx_ret ?_))
  refine sx_done (v:=.bool true) (by kernel_rfl) (fun w' hE hΦ=>?_)
  exact ⟨by rw [← hr,all_yes hS hge],hE⟩
set_option maxRecDepth 100000 in
theorem aw_make (w:World) (hg:Glob w) :
 Calls Tryz.prog 18 #[.string ⟨#[49]⟩, .string ⟨#[49]⟩, .int .i64 8] w (RetV w (.tuple #[.agg #[.string ⟨#[49]⟩, .string ⟨#[50]⟩, .int .i64 2], .int .i64 0])):=by
 refine sx_enter (Φ:=fun w=>Glob w) Tryz.func18 rfl (by kernel_rfl) (fun w' hf=>hg.ext hf) ?_
 refine sx_seq (sx_region (xr 2 [(0, .v (.string ⟨#[49]⟩)),(1, .v (.string ⟨#[49]⟩)),(2, .v (.int .i64 8)),(6, .p 6 0),(7, .v (.int .i64 0))] [bS3 6 23 ⟨#[]⟩ ⟨#[]⟩ 0] ?_))
 refine xe (sx_next (sx_seq (sx_region (xr 1 [(1, .v (.string ⟨#[49]⟩)),(2, .v (.int .i64 8)),(6, .p 6 0),(7, .v (.int .i64 0)),(15, .v (.string ⟨#[49]⟩))] [bS3 6 23 ⟨#[]⟩ ⟨#[]⟩ 0] ?_))))
 refine xc 92 [.string ⟨#[49]⟩] 16 (fun x:ShQ=>.tuple #[shRat x, .bool true]) _ (fun w hE hΦ=>(Read_any ⟨#[49]⟩ _ hΦ (ReadOk.of_len (by decide))).mono (fun _ _ h=>post_Read_some h aw_r1)) (fun X10=>?_)
 refine xr 6 [(1, .v (.string ⟨#[49]⟩)),(2, .v (.int .i64 8)),(6, .p 6 0),(7, .v (.int .i64 0)),(8, .p 8 0),(9, .v (.bool true))] [bQ 8 116 X10,bS3 6 23 ⟨#[]⟩ ⟨#[]⟩ 0] ?_
 refine xe (sx_next (sx_seq (sx_region (xr 1 [(2, .v (.int .i64 8)),(6, .p 6 0),(7, .v (.int .i64 0)),(8, .p 8 0),(9, .v (.bool true)),(20, .v (.string ⟨#[49]⟩))] [bQ 8 116 X10,bS3 6 23 ⟨#[]⟩ ⟨#[]⟩ 0] ?_))))
 refine xc 92 [.string ⟨#[49]⟩] 21 (fun x:ShQ=>.tuple #[shRat x, .bool true]) _ (fun w hE hΦ=>(Read_any ⟨#[49]⟩ _ hΦ.1 (ReadOk.of_len (by decide))).mono (fun _ _ h=>post_Read_some h aw_r1)) (fun X11=>?_)
 refine xr 6 [(2, .v (.int .i64 8)),(6, .p 6 0),(7, .v (.int .i64 0)),(8, .p 8 0),(9, .v (.bool true)),(10, .p 10 0),(11, .v (.bool true))] [bQ 10 116 X11,bQ 8 116 X10,bS3 6 23 ⟨#[]⟩ ⟨#[]⟩ 0] ?_
 refine xe (sx_next (sx_seq (sx_block (sx_seq (sx_region (xr 7 [(2, .v (.int .i64 8)),(6, .p 6 0),(7, .v (.int .i64 0)),(8, .p 8 0),(10, .p 10 0),(24, .v (.bool false))] [bQ 10 116 X11,bQ 8 116 X10,bS3 6 23 ⟨#[]⟩ ⟨#[]⟩ 0] ?_))))))
 refine xe (sx_next (xb (sx_seq (sx_region (xr 7 [(2, .v (.int .i64 8)),(6, .p 6 0),(7, .v (.int .i64 0)),(8, .p 8 0),(10, .p 10 0),(32, .v (.bool false))] [bQ 10 116 X11,bQ 8 116 X10,bS3 6 23 ⟨#[]⟩ ⟨#[]⟩ 0] ?_)))))
 refine xe (sx_next (xb (sx_seq (sx_region (xr 3 [(2, .v (.int .i64 8)),(6, .p 6 0),(7, .v (.int .i64 0)),(8, .p 8 0),(10, .p 10 0),(40, .v (.bool false))] [bQ 10 116 X11,bQ 8 116 X10,bS3 6 23 ⟨#[]⟩ ⟨#[]⟩ 0] ?_)))))
 refine xe (sx_next (xb (sx_skip (sx_out (sx_next (sx_seq (sx_region (xr 1 [(6, .p 6 0),(7, .v (.int .i64 0)),(8, .p 8 0),(10, .p 10 0),(47, .v (.int .i64 8))] [bQ 10 116 X11,bQ 8 116 X10,bS3 6 23 ⟨#[]⟩ ⟨#[]⟩ 0] ?_))))))))
 refine xc 95 [.int .i64 8] 48 (fun _:Unit=>.tuple #[.int .i64 2, .int .i64 2]) _ (fun w hE hΦ=>(squareFactor_int 8 2 2 _ (by decide) (by decide) aw_sq).mono (fun _ _ h=>post_val h (rfl))) (fun xx=>?_)
 refine xr 5 [(6, .p 6 0),(7, .v (.int .i64 0)),(8, .p 8 0),(10, .p 10 0),(12, .v (.int .i64 2)),(13, .v (.int .i64 2))] [bQ 10 116 X11,bQ 8 116 X10,bS3 6 23 ⟨#[]⟩ ⟨#[]⟩ 0] ?_
 refine xe (sx_next (sx_seq ?_))
 refine sx_draw 5 (by kernel_rfl) (by kernel_rfl) follows_mixed' ?_
 refine xf 2 [(6, .p 6 0),(7, .v (.int .i64 0)),(8, .p 8 0),(10, .p 10 0),(13, .v (.int .i64 2)),eQ 51 X11,(52, .v (.int .i64 2))] [bQ 10 116 X11,bQ 8 116 X10,bS3 6 23 ⟨#[]⟩ ⟨#[]⟩ 0] ?_
 refine xd 97 [.int .i64 2] 53 shRat _ (fun w hE hΦ=>(Small_any 2 _ (by decide) (by decide)).mono (fun _ _ h=>post_Rat h)) (fun X12=>?_)
 refine xf 0 [(6, .p 6 0),(7, .v (.int .i64 0)),(8, .p 8 0),(10, .p 10 0),(13, .v (.int .i64 2)),eQ 51 X11,eQ 53 X12] [bQ 10 116 X11,bQ 8 116 X10,bS3 6 23 ⟨#[]⟩ ⟨#[]⟩ 0] ?_
 refine xd 96 [vQ X11,vQ X12] 54 shRat _ (fun w hE hΦ=>(QMul_any _ _ 1 (((2:Int):Rat)) _ hΦ.1.1.1.1 hΦ.1.1.2 hΦ.2 (aw_d1.fit (by omega)) ((Dq.int (d:=2) (k:=1) (by decide) (by decide)).fit (by omega))).mono (fun _ _ h=>post_Rat h)) (fun X13=>?_)
 refine xf 1 [(6, .p 6 0),(7, .v (.int .i64 0)),(8, .p 8 0),(10, .p 10 0),(13, .v (.int .i64 2))] [bQ 10 116 X13,bQ 10 116 X11,bQ 8 116 X10,bS3 6 23 ⟨#[]⟩ ⟨#[]⟩ 0] ?_
 refine xz (xe (sx_next (sx_seq (sx_seq (sx_region (xr 2 [(6, .p 6 0),(7, .v (.int .i64 0)),(8, .p 8 0),(10, .p 10 0),(13, .v (.int .i64 2)),(56, .v (.bool false))] [bQ 10 116 X13,bQ 8 116 X10,bS3 6 23 ⟨#[]⟩ ⟨#[]⟩ 0] ?_))))))
 refine xe (sx_next (xb (sx_skip (sx_next (sx_seq (sx_region (xr 3 [(6, .p 6 0),(7, .v (.int .i64 0)),eQ 62 X10,eQ 63 X13,(64, .v (.int .i64 2))] [bS3 6 23 ⟨#[]⟩ ⟨#[]⟩ 0] ?_)))))))
 refine xc 99 [vQ X10,vQ X13, .int .i64 2] 65 (shSd ((nv 1 (1 * (((2:Int):Rat))) 2).d)) _ (fun w hE hΦ=>(SNew_any _ _ 1 (1 * (((2:Int):Rat))) 2 _ hΦ.1.1.1.1.2 hΦ.2).mono (fun _ _ h=>post_Sd h)) (fun xx=>?_)
 obtain ⟨⟨s14,A14,l14,c14,t14,B14,m14,d14⟩,⟨s15,A15,l15,c15,t15,B15,m15,d15⟩⟩:=xx
 refine xr 0 [(6, .p 6 0),(7, .v (.int .i64 0)),(65, .v (.agg #[.bool s14, .slice A14 l14 c14, .bool t14, .slice B14 m14 d14, .bool s15, .slice A15 l15 c15, .bool t15, .slice B15 m15 d15, .int .i64 ((nv 1 (1 * (((2:Int):Rat))) 2).d)]))] [bS3 6 23 ⟨#[]⟩ ⟨#[]⟩ 0] ?_
 refine xc 94 [.agg #[.bool s14, .slice A14 l14 c14, .bool t14, .slice B14 m14 d14, .bool s15, .slice A15 l15 c15, .bool t15, .slice B15 m15 d15, .int .i64 ((nv 1 (1 * (((2:Int):Rat))) 2).d)]] 66 (fun _:Unit=>.agg #[.string ⟨(ratText ((nv 1 (1 * (((2:Int):Rat))) 2).a)).toArray⟩, .string ⟨(ratText ((nv 1 (1 * (((2:Int):Rat))) 2).b)).toArray⟩, .int .i64 ((nv 1 (1 * (((2:Int):Rat))) 2).d)]) _ (fun w hE hΦ=>(SWrite_any _ (nv 1 (1 * (((2:Int):Rat))) 2) _ hΦ.1.1.1.1.1.1 (SdIs.of hΦ.2.1 hΦ.2.2) (j:=2) (nv_sz (k:=2) (aw_d1.up (by decide)) (aw_d1.mul (Dq.int (d:=2) (k:=1) (by decide) (by decide))) (by decide) (by decide)).a (nv_sz (k:=2) (aw_d1.up (by decide)) (aw_d1.mul (Dq.int (d:=2) (k:=1) (by decide) (by decide))) (by decide) (by decide)).b (by omega)).mono (fun _ _ h=>post_val h rfl)) (fun xx=>?_)
 refine xr 2 [(6, .p 6 0),(7, .v (.int .i64 0))] [(6,23,[.v (.string ⟨(ratText ((nv 1 (1 * (((2:Int):Rat))) 2).a)).toArray⟩), .v (.string ⟨(ratText ((nv 1 (1 * (((2:Int):Rat))) 2).b)).toArray⟩), .v (.int .i64 ((nv 1 (1 * (((2:Int):Rat))) 2).d))])] ?_
 refine xe (sx_next (sx_ret ?_))
 refine sx_done (v:=.tuple #[.agg #[.string ⟨(ratText ((nv 1 (1 * (((2:Int):Rat))) 2).a)).toArray⟩, .string ⟨(ratText ((nv 1 (1 * (((2:Int):Rat))) 2).b)).toArray⟩, .int .i64 ((nv 1 (1 * (((2:Int):Rat))) 2).d)], .int .i64 0]) (by kernel_rfl) (fun w' hE hΦ=>?_)
 exact ⟨congrArg _ aw_mk,hE⟩
set_option maxRecDepth 100000 in
theorem awake11_any (w:World) (hg:Glob w) :
 Calls Tryz.prog 17 #[] w (RetV w (.bool true)):=by
 refine sx_enter (Φ:=fun w=>Glob w) Tryz.func17 rfl (by kernel_rfl) (fun w' hf=>hg.ext hf) ?_
 refine sx_seq (sx_region (xr 1 [(0, .v (.bool false))] [] ?_))
 refine xe (sx_next (sx_seq (sx_region ?_)))
 refine xc 18 [.string ⟨#[49]⟩, .string ⟨#[49]⟩, .int .i64 8] 8 (fun _:Unit=>.tuple #[vS3 ⟨#[49]⟩ ⟨#[50]⟩ 2, .int .i64 0]) _ (fun w hE hΦ=>(aw_make _ hΦ).mono (fun _ _ h=>post_val h (rfl))) (fun xx=>?_)
 refine xr 6 [(0, .v (.bool false)),(1, .p 1 0),(2, .v (.int .i64 0))] [bS3 1 23 ⟨#[49]⟩ ⟨#[50]⟩ 2] ?_
 refine xe (sx_next (sx_seq (sx_region (xr 1 [(0, .v (.bool false)),(1, .p 1 0),(2, .v (.int .i64 0)),eS3 12 ⟨#[51]⟩ ⟨#[45,50]⟩ 2] [bS3 1 23 ⟨#[49]⟩ ⟨#[50]⟩ 2] ?_))))
 refine xc 25 [vS3 ⟨#[51]⟩ ⟨#[45,50]⟩ 2] 13 (fun _:Unit=>.tuple #[.int .i64 1, .int .i64 0]) _ (fun w hE hΦ=>(lSign hΦ.1 aw_t1 (show Sd.sgn ⟨3,-2,2⟩=1 by decide +kernel) (by decide)).mono (fun _ _ h=>post_val h (rfl))) (fun xx=>?_)
 refine xr 5 [(0, .v (.bool false)),(1, .p 1 0),(2, .v (.int .i64 0)),(3, .v (.int .i64 1)),(4, .v (.int .i64 0))] [bS3 1 23 ⟨#[49]⟩ ⟨#[50]⟩ 2] ?_
 refine xe (sx_next (sx_seq (sx_region (xr 2 [(0, .v (.bool false)),(1, .p 1 0),(2, .v (.int .i64 0)),(3, .v (.int .i64 1)),(4, .v (.int .i64 0)),eS3 17 ⟨#[48]⟩ ⟨#[49]⟩ 2,eS3 18 ⟨#[48]⟩ ⟨#[49]⟩ 2] [bS3 1 23 ⟨#[49]⟩ ⟨#[50]⟩ 2] ?_))))
 refine xc 31 [vS3 ⟨#[48]⟩ ⟨#[49]⟩ 2,vS3 ⟨#[48]⟩ ⟨#[49]⟩ 2] 19 (fun _:Unit=>.tuple #[vS3 ⟨#[50]⟩ ⟨#[48]⟩ 1, .int .i64 0]) _ (fun w hE hΦ=>(lMul hΦ.1.1 aw_t2 aw_t2 (Or.inr (Or.inr rfl)) (show Sd.times ⟨0,1,2⟩ ⟨0,1,2⟩=⟨2,0,1⟩ from aw_times) (by decide)).mono (fun _ _ h=>post_val h (aw_v2))) (fun xx=>?_)
 refine xr 6 [(0, .v (.bool false)),(1, .p 1 0),(2, .v (.int .i64 0)),(3, .v (.int .i64 1)),(4, .v (.int .i64 0)),(5, .p 5 0),(6, .v (.int .i64 0))] [bS3 5 23 ⟨#[50]⟩ ⟨#[48]⟩ 1,bS3 1 23 ⟨#[49]⟩ ⟨#[50]⟩ 2] ?_
 refine xe (sx_next (sx_seq (sx_region (xr 13 [(0, .v (.bool false)),(3, .v (.int .i64 1)),(5, .p 5 0),(32, .v (.bool true)),eS3 33 ⟨#[49]⟩ ⟨#[50]⟩ 2,eS3 34 ⟨#[49]⟩ ⟨#[50]⟩ 2] [bS3 5 23 ⟨#[50]⟩ ⟨#[48]⟩ 1] ?_))))
 refine xl 35 (.bool true) (fun w hE hΦ=>run_eq3 ((Operand.tmp 33)) ((Operand.tmp 34)) 23 ⟨#[49]⟩ ⟨#[50]⟩ 2) ?_
 refine xr 8 [(0, .v (.bool false)),(41, .v (.bool true)),eS3 42 ⟨#[50]⟩ ⟨#[48]⟩ 1,eS3 43 ⟨#[50]⟩ ⟨#[48]⟩ 1] [] ?_
 refine xl 44 (.bool true) (fun w hE hΦ=>run_eq3 ((Operand.tmp 42)) ((Operand.tmp 43)) 23 ⟨#[50]⟩ ⟨#[48]⟩ 1) ?_
 refine xr 2 [(0, .v (.bool true))] [] ?_
 refine xe (sx_next (sx_ret ?_))
 refine sx_done (v:=.bool true) (by kernel_rfl) (fun w' hE hΦ=>?_)
 exact ⟨rfl,hE⟩
end Go.Proofs.YtbgkofgoeoiciaaGreatDoor
