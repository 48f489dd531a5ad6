/-
 My texts Gq put together.
-/
import Derived.Test.YtibipjlohahekaaGreatDoorM19
import Derived.Test.YtibipjlohahekaaGreatDoorM14
namespace Go.Proofs.YtibipjlohahekaaGreatDoor
open Go.RowKit
theorem lit48_t {s:ByteArray} (h:bytes s=[48]):(s.toList == (⟨#[48]⟩:ByteArray).toList)=true:=by
 rw [Lib.toList_data,Lib.toList_data,show s.data.toList=[48] from h]; rfl
theorem lit48_f {s:ByteArray} (h:¬ bytes s=[48]):(s.toList == (⟨#[48]⟩:ByteArray).toList)=false:=by
 rw [Lib.toList_data,Lib.toList_data]; exact beq_eq_false_iff_ne.2 h
theorem sgn_txt {l:List UInt8} {q:Rat} {c:UInt8} (h:readF l=some q) (hc:l.head? = some c):(c=45→q.num < 0)∧(c≠45→0≤q.num):=by
 have ht:=text_of_read h
 have key:∃ r,l=Lib.itoa q.num ++ r:=by
  rw [← ht]; unfold ratText
  split
  ·exact ⟨[],by simp⟩
  ·exact ⟨[47] ++ Lib.itoa (q.den:Int),by simp⟩
 obtain ⟨r,hr⟩:=key
 rcases Int.lt_or_le q.num 0 with h1 | h1
 ·rw [hr,itoa_neg h1] at hc
  simp at hc
  exact ⟨fun _=>h1,fun e=>absurd hc.symm e⟩
 ·refine ⟨fun e=>?_,fun _=>h1⟩
  exfalso
  rw [hr,show q.num=((q.num.toNat:Nat):Int) by omega,itoa_den] at hc
  have hne:=decDigits_ne q.num.toNat
  have:=head_dec_ne q.num.toNat
  cases hd:Lib.decDigits q.num.toNat with
  | nil=>exact hne hd
  | cons x xs=>rw [hd] at hc this; simp at hc this; exact this (hc.trans e)
theorem zero_txt {l:List UInt8} {q:Rat} (h:readF l=some q) (h0:q.num=0):l=[48]:=by
 have ht:=text_of_read h
 have hq:q=0:=Rat.num_eq_zero.1 h0
 rw [← ht,hq]; exact rt_whole (n:=0) (by decide) (by decide) (by decide)
theorem zt:ratText 0=[48]:=rt_whole (n:=0) (by decide) (by decide) (by decide)
theorem str_head' {s:ByteArray} (h:¬ bytes s=[]):∃ c,(bytes s).head? = some c∧s[0]? = some c:=by
 obtain ⟨h1,_⟩:=head_of h
 exact ⟨s[0],head_byte h1,by simp [h1]⟩
theorem u8_ne' {c b:UInt8} (h:¬ c=b):((c.toNat:Int) == (b.toNat:Int))=false:=by
 have:c.toNat≠b.toNat:=fun e=>h (UInt8.toNat_inj.1 e)
 simp; omega
theorem run_stridx' {P:Program} {o:Oper} {ρ:Operand→Value} {w:World} {t:TypeId} {x i:Operand} {b:ByteArray} {k:Nat} {c:UInt8} (ho:o.op=Op.index t x i) (ht:P.underlying t=some .string) (hx:ρ x=.string b) (hi:ρ i=.int .i64 (k:Int)) (hc:b[k]? = some c):(execOp ρ o).run P w=.ok (.value (.int .u8 (c.toNat:Int))) w:=by
 simp [execOp,ho,Instr.index,asIntOf,underlying,ht,hx,hi,hc,Result.andThen]
set_option maxRecDepth 100000 in
theorem TSign_any (s:ByteArray) (w:World) (hg:Glob w) (hs:(bytes s).length≤570) :
 Calls Tryz.prog 33 #[.string s] w (RetV w (.int .i64 (valF (bytes s)).num.sign)):=by
 refine sx_enter (Φ:=fun w=>Glob w) Tryz.func33 rfl (by kernel_rfl) (fun w' hf=>hg.ext hf) ?_
 refine sx_seq (sx_region (xr 1 [(0, .v (.string s)),(2, .v (.int .i64 0))] [] ?_))
 refine xe (sx_next (sx_seq (sx_block (sx_seq ?_))))
 by_cases h48:bytes s=[48]
 ·refine sx_region (xr 2 [(0, .v (.string s)),(2, .v (.int .i64 0)),(5, .v (.bool ((s:ByteArray).toList == (⟨#[48]⟩:ByteArray).toList)))] [] ?_)
  rw [lit48_t h48]
  refine xr 6 [(0, .v (.string s)),(2, .v (.int .i64 0)),(3, .v (.bool true))] [] ?_
  refine xe (sx_next (xa (sx_seq (sx_region (xr 1 [(2, .v (.int .i64 0))] [] ?_)))))
  refine xe (sx_next (sx_ret (sx_in_ret (sx_then_ret ?_))))
  refine sx_done (v:=.int .i64 0) (by kernel_rfl) (fun w' hE hΦ=>?_)
  exact ⟨by rw [valF_of (show ratText 0=bytes s by rw [h48]; exact zt)]; rfl,hE⟩
 ·refine sx_region (xr 2 [(0, .v (.string s)),(2, .v (.int .i64 0)),(5, .v (.bool ((s:ByteArray).toList == (⟨#[48]⟩:ByteArray).toList)))] [] ?_)
  rw [lit48_f h48]
  refine xr 2 [(0, .v (.string s)),(2, .v (.int .i64 0)),(6, .v (.bool false)),(7, .v (.string s))] [] ?_
  by_cases hv:(readF (bytes s)).isSome=true
  ·obtain ⟨q,hq⟩:=Option.isSome_iff_exists.1 hv
   obtain ⟨c0,h0,hc0⟩:=str_head' (s:=s) (fun e=>by rw [e,show readF []=none from rfl] at hq; cases hq)
   refine xc 52 [.string s] 8 (fun _:Unit=>.bool true) _ (fun w hE hΦ=>(Valid_any s _ hΦ hs).mono (fun _ _ h=>post_val h (by rw [hv]))) (fun xx=>?_)
   refine xr 3 [(0, .v (.string s)),(2, .v (.int .i64 0)),(3, .v (.bool false))] [] ?_
   refine xe (sx_next (xb (sx_seq ?_)))
   by_cases hm:c0=45
   ·refine sx_region (xr 1 [(2, .v (.int .i64 0)),(12, .v (.string s))] [] ?_)
    refine sx_look 13 (.int .u8 (c0.toNat:Int)) (by kernel_rfl) (by kernel_rfl) (by kernel_rfl) (by kernel_rfl) (by kernel_rfl) (by kernel_rfl) (fun w hE hΦ=>run_stridx' (t:=9) (x:=.tmp 12) (k:=0) (i:=.const (.int .i64 0)) (by kernel_rfl) (by kernel_rfl) (by kernel_rfl) (by rfl) hc0) ?_
    refine xr 1 [(2, .v (.int .i64 0)),(14, .v (.bool (((c0.toNat:Int):Int) == 45)))] [] ?_
    rw [(show ((c0.toNat:Int) == 45)=true from by rw [hm]; rfl)]
    refine xr 1 [(2, .v (.int .i64 0)),(11, .v (.bool true))] [] ?_
    refine xe (sx_next (xa (sx_seq (sx_region (xr 1 [(2, .v (.int .i64 (-1)))] [] ?_)))))
    refine xe (sx_next (sx_ret (sx_in_ret (sx_then_ret ?_))))
    refine sx_done (v:=.int .i64 (-1)) (by kernel_rfl) (fun w' hE hΦ=>?_)
    exact ⟨by rw [valF_some hq,Int.sign_eq_neg_one_of_neg ((sgn_txt hq h0).1 hm)],hE⟩
   ·refine sx_region (xr 1 [(2, .v (.int .i64 0)),(12, .v (.string s))] [] ?_)
    refine sx_look 13 (.int .u8 (c0.toNat:Int)) (by kernel_rfl) (by kernel_rfl) (by kernel_rfl) (by kernel_rfl) (by kernel_rfl) (by kernel_rfl) (fun w hE hΦ=>run_stridx' (t:=9) (x:=.tmp 12) (k:=0) (i:=.const (.int .i64 0)) (by kernel_rfl) (by kernel_rfl) (by kernel_rfl) (by rfl) hc0) ?_
    refine xr 1 [(2, .v (.int .i64 0)),(14, .v (.bool (((c0.toNat:Int):Int) == 45)))] [] ?_
    rw [(show ((c0.toNat:Int) == 45)=false from u8_ne' (b:=45) hm)]
    refine xr 1 [(2, .v (.int .i64 0)),(11, .v (.bool false))] [] ?_
    refine xe (sx_next (xb (sx_skip (sx_out (sx_next (sx_seq (sx_region (xr 1 [(2, .v (.int .i64 1))] [] ?_))))))))
    refine xe (sx_next (sx_ret ?_))
    refine sx_done (v:=.int .i64 1) (by kernel_rfl) (fun w' hE hΦ=>?_)
    exact ⟨by rw [valF_some hq,Int.sign_eq_one_of_pos (by have h1:=(sgn_txt hq h0).2 hm; have h2:q.num≠0:=fun e=>h48 (zero_txt hq e); omega)],hE⟩
  ·refine xc 52 [.string s] 8 (fun _:Unit=>.bool false) _ (fun w hE hΦ=>(Valid_any s _ hΦ hs).mono (fun _ _ h=>post_val h (by rw [Bool.eq_false_iff.2 hv]))) (fun xx=>?_)
   refine xr 3 [(0, .v (.string s)),(2, .v (.int .i64 0)),(3, .v (.bool true))] [] ?_
   refine xe (sx_next (xa (sx_seq (sx_region (xr 1 [(2, .v (.int .i64 0))] [] ?_)))))
   refine xe (sx_next (sx_ret (sx_in_ret (sx_then_ret ?_))))
   refine sx_done (v:=.int .i64 0) (by kernel_rfl) (fun w' hE hΦ=>?_)
   exact ⟨by rw [valF_none (by cases h:readF (bytes s) with | none=>rfl | some q=>rw [h] at hv; exact absurd rfl hv)]; rfl,hE⟩
end Go.Proofs.YtibipjlohahekaaGreatDoor
