/-
 My texts Pt, PtL put together.
-/
import Derived.Test.YtibipjlohahekaaGreatDoorM24
import Derived.Test.YtibipjlohahekaaGreatDoorM21
import Derived.Test.YtibipjlohahekaaGreatDoorM19
import Derived.Test.YtibipjlohahekaaGreatDoorM16
namespace Go.Proofs.YtibipjlohahekaaGreatDoor
open Go.RowKit
theorem index_slash:∀ l:List UInt8,Lib.indexByte l 47=if (l.takeWhile notSlash).length < l.length then ((l.takeWhile notSlash).length:Int) else -1
 | []=>by simp [Lib.indexByte]
 | b :: l=>by
   have ih:=index_slash l
   unfold Lib.indexByte
   by_cases hb:b=47
   ·subst hb; simp [notSlash]
   ·have h1:(b == (47:UInt8))=false:=by simpa using hb
    have h2:notSlash b=true:=by simp [notSlash,hb]
    rw [h1,ih]
    simp only [List.takeWhile_cons,h2,List.length_cons,if_true,Bool.false_eq_true,if_false]
    generalize (l.takeWhile notSlash).length=k
    generalize l.length=n
    by_cases h3:k < n
    ·have h4:k + 1 < n + 1:=by omega
     have h5:(((k:Nat):Int) == -1)=false:=by simp
     rw [if_pos h4,if_pos h3]
     simp only [h5,Bool.false_eq_true,if_false]
     omega
    ·have h4:¬ k + 1 < n + 1:=by omega
     rw [if_neg h4,if_neg h3]
     rfl
theorem idx_eq {s:ByteArray} (h:bytes s=[47]):(0:Int)=Lib.indexByte (bytes s) 47:=by rw [h]; rfl
theorem slash_t {s:ByteArray} (h:bytes s=[47]):((⟨#[47]⟩:ByteArray).toList == s.toList)=true:=by
 rw [Lib.toList_data,Lib.toList_data,show s.data.toList=[47] from h]; rfl
theorem slash_f {s:ByteArray} (h:¬ bytes s=[47]):((⟨#[47]⟩:ByteArray).toList == s.toList)=false:=by
 rw [Lib.toList_data,Lib.toList_data]; exact beq_eq_false_iff_ne.2 (fun e=>h e.symm)
theorem pt_wrap {p:Nat} (h:p≤1000000):IntKind.i64.wrap (((p:Nat):Int) + ((⟨#[47]⟩:ByteArray).size:Int))=((p + 1:Nat):Int):=by
 rw [show (((⟨#[47]⟩:ByteArray).size:Nat):Int)=1 from rfl,IntKind.wrap_i64]; omega
theorem itoa_ns (z:Int):(Lib.itoa z).all notSlash=true:=by
 rcases Int.lt_or_le z 0 with h | h
 ·rw [itoa_neg h,List.all_append,dig_notSlash (dec_all _)]; rfl
 ·rw [show z=((z.toNat:Nat):Int) by omega,itoa_den]; exact dig_notSlash (dec_all _)
theorem parts_one {l:List UInt8} {q:Rat} (h:readF l=some q) (h1:q.den=1):l=Lib.itoa q.num∧l.length≤(l.takeWhile notSlash).length:=by
 have ht:ratText q=l:=text_of_read h
 have e:l=Lib.itoa q.num:=by rw [← ht]; unfold ratText; rw [if_pos h1]
 refine ⟨e,?_⟩
 have:=itoa_ns q.num
 rw [← e] at this
 rw [(takeWhile_all this).1]
 exact Nat.le_refl _
theorem parts_two {l:List UInt8} {q:Rat} (h:readF l=some q) (h1:¬ q.den=1):l.takeWhile notSlash=Lib.itoa q.num∧l.drop ((l.takeWhile notSlash).length + 1)=Lib.itoa (q.den:Int)∧(l.takeWhile notSlash).length < l.length:=by
 have ht:ratText q=l:=text_of_read h
 have e:l=Lib.itoa q.num ++ 47 :: Lib.itoa (q.den:Int):=by rw [← ht]; unfold ratText; rw [if_neg h1]; simp
 obtain ⟨e1,e2⟩:=takeWhile_stop (p:=notSlash) (r:=Lib.itoa (q.den:Int)) (c:=47) (itoa_ns q.num) (by decide)
 rw [← e] at e1 e2
 refine ⟨e1,?_,?_⟩
 ·rw [e1,e,← List.drop_drop,List.drop_left]; rfl
 ·rw [e1,e]; simp
theorem neg_txt {q:Rat} (h:q.num < 0):ratText q=45 :: ratText (-q):=by
 have e:Lib.itoa q.num=45 :: Lib.itoa (-q.num):=by
  rw [itoa_neg h,show -q.num=((q.num.natAbs:Nat):Int) by omega,itoa_den]; rfl
 unfold ratText
 rw [rneg_num,rneg_den,e]
 split<;>simp
theorem neg_neg_txt {q:Rat} (h:0 < q.num):ratText (-q)=45 :: ratText q:=by
 have:=neg_txt (q := -q) (by rw [rneg_num]; omega)
 rwa [Rat.neg_neg] at this
theorem parts_zero:Ending.returned (.tuple #[.string ⟨#[48]⟩, .string ⟨#[49]⟩])=Ending.returned (.tuple #[.string ⟨(Lib.itoa (0:Rat).num).toArray⟩, .string ⟨(Lib.itoa ((0:Rat).den:Int)).toArray⟩]):=by
 rw [show (0:Rat).num=((0:Nat):Int) from rfl,show ((0:Rat).den:Int)=((1:Nat):Int) from rfl,itoa_dig (by decide),itoa_dig (by decide)]; rfl
theorem parts_whole (s:ByteArray):Ending.returned (.tuple #[.string s, .string ⟨#[49]⟩])=Ending.returned (.tuple #[.string ⟨(bytes s).toArray⟩, .string ⟨(Lib.itoa ((1:Nat):Int)).toArray⟩]):=by
 rw [itoa_dig (by decide)]; rfl
theorem bytes_rest (s:ByteArray):bytes (s.extract 1 s.size)=(bytes s).tail:=by
 rw [bytes_extract,List.take_of_length_le (by rw [List.length_drop,bytes_length]; exact Nat.le_refl _),List.drop_one]
theorem neg_zero:Ending.returned (.string ⟨#[48]⟩)=Ending.returned (.string ⟨(ratText (-(0:Rat))).toArray⟩):=by
 rw [show -(0:Rat)=0 from rfl,zt]
def absQ (q:Rat):Rat:=if q.num < 0 then -q else q
theorem abs_zero:Ending.returned (.string ⟨#[48]⟩)=Ending.returned (.string ⟨(ratText (absQ 0)).toArray⟩):=by
 rw [show absQ 0=0 from rfl,zt]
theorem trim_ret (s:ByteArray) (q:Rat) (w:World) (h:ratText q=bytes s):Calls Tryz.prog 104 #[.string s, .string ⟨#[45]⟩] w (RetV w (.string ⟨(ratText (absQ q)).toArray⟩)):=by
 refine (Tryz.strings_TrimPrefix s ⟨#[45]⟩ w).mono ?_
 rintro e w' ⟨rfl,rfl⟩
 refine ⟨?_,Fr.refl _ _⟩
 have e1:Lib.trimPrefix s.data.toList [45]=ratText (absQ q):=by
  rw [show s.data.toList=ratText q from h.symm]
  unfold absQ
  by_cases hn:q.num < 0
  ·rw [if_pos hn,neg_txt hn]; simp [Lib.trimPrefix,Lib.hasPrefix]
  ·rw [if_neg hn]
   have hne:∀ l:List UInt8,(∀ c,l.head? = some c→c≠45)→Lib.trimPrefix l [45]=l:=fun l hl=>by
    cases l with
    | nil=>simp [Lib.trimPrefix,Lib.hasPrefix]
    | cons c r =>
      have hc:=hl c rfl
      have hc':¬ 45=c:=fun e=>hc e.symm
      simp [Lib.trimPrefix,Lib.hasPrefix,List.isPrefixOf,hc']
   exact hne _ (fun c hc e=>hn ((sgn_txt (read_text q) hc).1 e))
 rw [← e1]
theorem int_txt' (x:Int):ratText ((x:Int):Rat)=Lib.itoa x:=by unfold ratText; exact if_pos rfl
theorem index_ret (s:ByteArray) (w:World):Calls Tryz.prog 208 #[.string s, .int .u8 (((47:UInt8).toNat:Nat):Int)] w (RetV w (.int .i64 (Lib.indexByte (bytes s) 47))):=by
 refine (Tryz.stringslite_IndexByte s (((47:UInt8).toNat:Nat):Int) w).mono ?_
 rintro e w' ⟨rfl,rfl⟩
 exact ⟨rfl,Fr.refl _ _⟩
set_option maxRecDepth 100000 in
theorem IndexSlash_any (s:ByteArray) (w:World) :
 Calls Tryz.prog 181 #[.string s, .string ⟨#[47]⟩] w (RetV w (.int .i64 (Lib.indexByte (bytes s) 47))):=by
 refine sx_enter (Φ:=fun w=>True) Tryz.func181 rfl (by kernel_rfl) (fun w' hf=>trivial) ?_
 refine sx_seq (sx_region (xr 1 [(0, .v (.string s)),(1, .v (.string ⟨#[47]⟩)),(4, .v (.int .i64 0))] [] ?_))
 refine xe (sx_next (sx_seq (sx_region (xr 2 [(0, .v (.string s)),(1, .v (.string ⟨#[47]⟩)),(4, .v (.int .i64 0)),(15, .v (.int .i64 ((⟨#[47]⟩:ByteArray).size:Int)))] [] ?_))))
 rw [(show (((⟨#[47]⟩:ByteArray).size:Nat):Int)=1 from rfl)]
 refine xr 1 [(0, .v (.string s)),(1, .v (.string ⟨#[47]⟩)),(4, .v (.int .i64 0)),(5, .v (.int .i64 1))] [] ?_
 refine xe (sx_next (sx_seq (sx_block (sx_seq ?_))))
 by_cases h47:bytes s=[47]
 ·refine sx_region (xr 6 [(0, .v (.string s)),(1, .v (.string ⟨#[47]⟩)),(4, .v (.int .i64 0)),(5, .v (.int .i64 1)),(19, .v (.bool false)),(22, .v (.bool ((⟨#[47]⟩:ByteArray).toList == (s:ByteArray).toList)))] [] ?_)
  rw [slash_t h47]
  refine xr 2 [(0, .v (.string s)),(1, .v (.string ⟨#[47]⟩)),(4, .v (.int .i64 0)),(5, .v (.int .i64 1)),(16, .v (.bool true))] [] ?_
  refine xe (sx_next (xa (sx_seq (sx_region (xr 1 [(0, .v (.string s)),(1, .v (.string ⟨#[47]⟩)),(4, .v (.int .i64 0)),(5, .v (.int .i64 1))] [] ?_)))))
  refine xe (sx_next (sx_ret (sx_in_ret (sx_then_ret ?_))))
  refine sx_done (v:=.int .i64 0) (by kernel_rfl) (fun w' hE hΦ=>?_)
  exact ⟨by rw [← idx_eq h47],hE⟩
 ·refine sx_region (xr 6 [(0, .v (.string s)),(1, .v (.string ⟨#[47]⟩)),(4, .v (.int .i64 0)),(5, .v (.int .i64 1)),(19, .v (.bool false)),(22, .v (.bool ((⟨#[47]⟩:ByteArray).toList == (s:ByteArray).toList)))] [] ?_)
  rw [slash_f h47]
  refine xr 2 [(0, .v (.string s)),(1, .v (.string ⟨#[47]⟩)),(4, .v (.int .i64 0)),(5, .v (.int .i64 1)),(16, .v (.bool false))] [] ?_
  refine xe (sx_next (xb (sx_seq (sx_region (xr 3 [(0, .v (.string s)),(1, .v (.string ⟨#[47]⟩)),(4, .v (.int .i64 0)),(5, .v (.int .i64 1)),(24, .v (.bool true))] [] ?_)))))
  refine xe (sx_next (xa (sx_seq (sx_region (xr 2 [(0, .v (.string s)),(1, .v (.string ⟨#[47]⟩)),(4, .v (.int .i64 0)),(5, .v (.int .i64 1)),(27, .v (.string s)),(28, .v (.string ⟨#[47]⟩))] [] ?_)))))
  refine sx_look 29 (.int .u8 (((47:UInt8).toNat:Nat):Int)) (by kernel_rfl) (by kernel_rfl) (by kernel_rfl) (by kernel_rfl) (by kernel_rfl) (by kernel_rfl) (fun w hE hΦ=>run_stridx' (c:=47) (b:=⟨#[47]⟩) (t:=9) (x:=.tmp 28) (k:=0) (i:=.const (.int .i64 0)) (by kernel_rfl) (by kernel_rfl) (by kernel_rfl) (by rfl) (by rfl)) ?_
  refine xr 0 [(0, .v (.string s)),(1, .v (.string ⟨#[47]⟩)),(4, .v (.int .i64 0)),(5, .v (.int .i64 1)),(27, .v (.string s)),(29, .v (.int .u8 (((47:UInt8).toNat:Nat):Int)))] [] ?_
  refine xc 208 [.string s, .int .u8 (((47:UInt8).toNat:Nat):Int)] 30 (fun _:Unit=>.int .i64 (Lib.indexByte (bytes s) 47)) _ (fun w hE hΦ=>(index_ret s _).mono (fun _ _ h=>post_val h rfl)) (fun xx=>?_)
  refine xr 1 [(0, .v (.string s)),(1, .v (.string ⟨#[47]⟩)),(4, .v (.int .i64 (Lib.indexByte (bytes s) 47))),(5, .v (.int .i64 1))] [] ?_
  refine xe (sx_next (sx_ret (sx_in_ret (sx_then_ret ?_))))
  refine sx_done (v:=.int .i64 (Lib.indexByte (bytes s) 47)) (by kernel_rfl) (fun w' hE hΦ=>?_)
  exact ⟨rfl,hE⟩
set_option maxRecDepth 100000 in
theorem CutSlash_yes (s x y:ByteArray) (p:Nat) (w:World) (h1:s.size≤100000) (hp:p=((bytes s).takeWhile notSlash).length) (hlt:p < s.size) (hx:s.extract 0 p=x) (hy:s.extract (p + 1) s.size=y) :
 Calls Tryz.prog 147 #[.string s, .string ⟨#[47]⟩] w (RetV w (.tuple #[.string x, .string y, .bool true])):=by
 have hlt':((bytes s).takeWhile notSlash).length < (bytes s).length:=by rw [← hp,bytes_length]; exact hlt
 refine sx_enter (Φ:=fun w=>True) Tryz.func147 rfl (by kernel_rfl) (fun w' hf=>trivial) ?_
 refine sx_seq (sx_region (xr 3 [(0, .v (.string s)),(1, .v (.string ⟨#[47]⟩)),(4, .v (.string ⟨#[]⟩)),(5, .v (.string ⟨#[]⟩)),(6, .v (.bool false))] [] ?_))
 refine xe (sx_next (sx_seq (sx_seq (sx_region (xr 2 [(0, .v (.string s)),(1, .v (.string ⟨#[47]⟩)),(4, .v (.string ⟨#[]⟩)),(5, .v (.string ⟨#[]⟩)),(6, .v (.bool false)),(8, .v (.string s)),(9, .v (.string ⟨#[47]⟩))] [] ?_)))))
 refine xc 181 [.string s, .string ⟨#[47]⟩] 10 (fun _:Unit=>.int .i64 ((p:Nat):Int)) _ (fun w hE hΦ=>(IndexSlash_any s _).mono (fun _ _ h=>post_val h (by rw [index_slash,if_pos hlt',← hp]))) (fun xx=>?_)
 refine xr 1 [(0, .v (.string s)),(1, .v (.string ⟨#[47]⟩)),(4, .v (.string ⟨#[]⟩)),(5, .v (.string ⟨#[]⟩)),(6, .v (.bool false)),(7, .v (.int .i64 ((p:Nat):Int)))] [] ?_
 refine xe (sx_next (sx_seq (sx_region (xr 2 [(0, .v (.string s)),(1, .v (.string ⟨#[47]⟩)),(4, .v (.string ⟨#[]⟩)),(5, .v (.string ⟨#[]⟩)),(6, .v (.bool false)),(7, .v (.int .i64 ((p:Nat):Int))),(12, .v (.bool (decide (((p:Nat):Int) ≥ 0))))] [] ?_))))
 rw [(show decide (((p:Nat):Int) ≥ 0)=true from decide_eq_true (by omega))]
 refine xr 0 [(0, .v (.string s)),(1, .v (.string ⟨#[47]⟩)),(4, .v (.string ⟨#[]⟩)),(5, .v (.string ⟨#[]⟩)),(6, .v (.bool false)),(7, .v (.int .i64 ((p:Nat):Int))),(12, .v (.bool true))] [] ?_
 refine xe (sx_next (xa (sx_seq ?_)))
 refine sx_draw 12 (by kernel_rfl) (by kernel_rfl) follows_mixed' ?_
 refine xf 2 [(0, .v (.string s)),(1, .v (.string ⟨#[47]⟩)),(4, .v (.string ⟨#[]⟩)),(5, .v (.string ⟨#[]⟩)),(6, .v (.bool false)),(7, .v (.int .i64 ((p:Nat):Int))),(13, .v (.string s)),(14, .v (.int .i64 ((p:Nat):Int)))] [] ?_
 refine st_look 15 (.string x) (by kernel_rfl) (by kernel_rfl) (by kernel_rfl) (by kernel_rfl) (by kernel_rfl) (by kernel_rfl) (fun w hΦ=>run_strslice 0 p (t:=9) (x:=(Operand.tmp 13)) (lo:=none) (hi:=(some (Operand.tmp 14))) (by kernel_rfl) (by kernel_rfl) (by kernel_rfl) (Or.inl ⟨rfl,rfl⟩) (Or.inr (by kernel_rfl)) (by omega) (by omega) hx) ?_
 refine xf 5 [(0, .v (.string s)),(4, .v (.string ⟨#[]⟩)),(5, .v (.string ⟨#[]⟩)),(6, .v (.bool false)),(15, .v (.string x)),(16, .v (.string s)),(20, .v (.int .i64 (IntKind.i64.wrap (((p:Nat):Int) + ((⟨#[47]⟩:ByteArray).size:Int)))))] [] ?_
 rw [pt_wrap (p:=p) (by omega)]
 refine st_look 21 (.string y) (by kernel_rfl) (by kernel_rfl) (by kernel_rfl) (by kernel_rfl) (by kernel_rfl) (by kernel_rfl) (fun w hΦ=>run_strslice (p + 1) _ (t:=9) (x:=(Operand.tmp 16)) (lo:=(some (Operand.tmp 20))) (hi:=none) (by kernel_rfl) (by kernel_rfl) (by kernel_rfl) (Or.inr (by kernel_rfl)) (Or.inl ⟨rfl,rfl⟩) (by omega) (Nat.le_refl _) hy) ?_
 refine xf 3 [(0, .v (.string s)),(4, .v (.string x)),(5, .v (.string y)),(6, .v (.bool true))] [] ?_
 refine xz (xe (sx_next (sx_ret (sx_then_ret ?_))))
 refine sx_done (v:=.tuple #[.string x, .string y, .bool true]) (by kernel_rfl) (fun w' hE hΦ=>?_)
 exact ⟨rfl,hE⟩
set_option maxRecDepth 100000 in
theorem CutSlash_no (s:ByteArray) (w:World) (hlt':¬ ((bytes s).takeWhile notSlash).length < (bytes s).length) :
 Calls Tryz.prog 147 #[.string s, .string ⟨#[47]⟩] w (RetV w (.tuple #[.string s, .string ⟨#[]⟩, .bool false])):=by
 refine sx_enter (Φ:=fun w=>True) Tryz.func147 rfl (by kernel_rfl) (fun w' hf=>trivial) ?_
 refine sx_seq (sx_region (xr 3 [(0, .v (.string s)),(1, .v (.string ⟨#[47]⟩)),(4, .v (.string ⟨#[]⟩)),(5, .v (.string ⟨#[]⟩)),(6, .v (.bool false))] [] ?_))
 refine xe (sx_next (sx_seq (sx_seq (sx_region (xr 2 [(0, .v (.string s)),(1, .v (.string ⟨#[47]⟩)),(4, .v (.string ⟨#[]⟩)),(5, .v (.string ⟨#[]⟩)),(6, .v (.bool false)),(8, .v (.string s)),(9, .v (.string ⟨#[47]⟩))] [] ?_)))))
 refine xc 181 [.string s, .string ⟨#[47]⟩] 10 (fun _:Unit=>.int .i64 (-1)) _ (fun w hE hΦ=>(IndexSlash_any s _).mono (fun _ _ h=>post_val h (by rw [index_slash,if_neg hlt']))) (fun xx=>?_)
 refine xr 1 [(0, .v (.string s)),(1, .v (.string ⟨#[47]⟩)),(4, .v (.string ⟨#[]⟩)),(5, .v (.string ⟨#[]⟩)),(6, .v (.bool false)),(7, .v (.int .i64 (-1)))] [] ?_
 refine xe (sx_next (sx_seq (sx_region (xr 2 [(0, .v (.string s)),(1, .v (.string ⟨#[47]⟩)),(4, .v (.string ⟨#[]⟩)),(5, .v (.string ⟨#[]⟩)),(6, .v (.bool false)),(7, .v (.int .i64 (-1))),(12, .v (.bool false))] [] ?_))))
 refine xe (sx_next (xb (sx_skip (sx_next (sx_seq (sx_region (xr 4 [(4, .v (.string s)),(5, .v (.string ⟨#[]⟩)),(6, .v (.bool false))] [] ?_)))))))
 refine xe (sx_next (sx_ret ?_))
 refine sx_done (v:=.tuple #[.string s, .string ⟨#[]⟩, .bool false]) (by kernel_rfl) (fun w' hE hΦ=>?_)
 exact ⟨rfl,hE⟩
set_option maxRecDepth 100000 in
theorem StrCut_yes (s x y:ByteArray) (p:Nat) (w:World) (h1:s.size≤100000) (hp:p=((bytes s).takeWhile notSlash).length) (hlt:p < s.size) (hx:s.extract 0 p=x) (hy:s.extract (p + 1) s.size=y) :
 Calls Tryz.prog 105 #[.string s, .string ⟨#[47]⟩] w (RetV w (.tuple #[.string x, .string y, .bool true])):=by
 refine sx_enter (Φ:=fun w=>True) Tryz.func105 rfl (by kernel_rfl) (fun w' hf=>trivial) ?_
 refine sx_seq (sx_region (xr 3 [(0, .v (.string s)),(1, .v (.string ⟨#[47]⟩)),(4, .v (.string ⟨#[]⟩)),(5, .v (.string ⟨#[]⟩)),(6, .v (.bool false))] [] ?_))
 refine xe (sx_next (sx_seq (sx_region (xr 2 [(4, .v (.string ⟨#[]⟩)),(5, .v (.string ⟨#[]⟩)),(6, .v (.bool false)),(7, .v (.string s)),(8, .v (.string ⟨#[47]⟩))] [] ?_))))
 refine xc 147 [.string s, .string ⟨#[47]⟩] 9 (fun _:Unit=>.tuple #[.string x, .string y, .bool true]) _ (fun w hE hΦ=>(CutSlash_yes s x y p _ h1 hp hlt hx hy).mono (fun _ _ h=>post_val h rfl)) (fun xx=>?_)
 refine xr 6 [(4, .v (.string x)),(5, .v (.string y)),(6, .v (.bool true))] [] ?_
 refine xe (sx_next (sx_ret ?_))
 refine sx_done (v:=.tuple #[.string x, .string y, .bool true]) (by kernel_rfl) (fun w' hE hΦ=>?_)
 exact ⟨rfl,hE⟩
set_option maxRecDepth 100000 in
theorem StrCut_no (s:ByteArray) (w:World) (hlt':¬ ((bytes s).takeWhile notSlash).length < (bytes s).length) :
 Calls Tryz.prog 105 #[.string s, .string ⟨#[47]⟩] w (RetV w (.tuple #[.string s, .string ⟨#[]⟩, .bool false])):=by
 refine sx_enter (Φ:=fun w=>True) Tryz.func105 rfl (by kernel_rfl) (fun w' hf=>trivial) ?_
 refine sx_seq (sx_region (xr 3 [(0, .v (.string s)),(1, .v (.string ⟨#[47]⟩)),(4, .v (.string ⟨#[]⟩)),(5, .v (.string ⟨#[]⟩)),(6, .v (.bool false))] [] ?_))
 refine xe (sx_next (sx_seq (sx_region (xr 2 [(4, .v (.string ⟨#[]⟩)),(5, .v (.string ⟨#[]⟩)),(6, .v (.bool false)),(7, .v (.string s)),(8, .v (.string ⟨#[47]⟩))] [] ?_))))
 refine xc 147 [.string s, .string ⟨#[47]⟩] 9 (fun _:Unit=>.tuple #[.string s, .string ⟨#[]⟩, .bool false]) _ (fun w hE hΦ=>(CutSlash_no s _ hlt').mono (fun _ _ h=>post_val h rfl)) (fun xx=>?_)
 refine xr 6 [(4, .v (.string s)),(5, .v (.string ⟨#[]⟩)),(6, .v (.bool false))] [] ?_
 refine xe (sx_next (sx_ret ?_))
 refine sx_done (v:=.tuple #[.string s, .string ⟨#[]⟩, .bool false]) (by kernel_rfl) (fun w' hE hΦ=>?_)
 exact ⟨rfl,hE⟩
set_option maxRecDepth 100000 in
theorem TParts_any (s:ByteArray) (w:World) (hg:Glob w) (hs:(bytes s).length≤570) :
 Calls Tryz.prog 45 #[.string s] w (RetV w (.tuple #[.string ⟨(Lib.itoa (valF (bytes s)).num).toArray⟩, .string ⟨(Lib.itoa ((valF (bytes s)).den:Int)).toArray⟩])):=by
 refine sx_enter (Φ:=fun w=>Glob w) Tryz.func45 rfl (by kernel_rfl) (fun w' hf=>hg.ext hf) ?_
 refine sx_seq (sx_region (xr 2 [(0, .v (.string s)),(2, .v (.string ⟨#[]⟩)),(3, .v (.string ⟨#[]⟩))] [] ?_))
 refine xe (sx_next (sx_seq (sx_seq (sx_region (xr 1 [(0, .v (.string s)),(2, .v (.string ⟨#[]⟩)),(3, .v (.string ⟨#[]⟩)),(7, .v (.string s))] [] ?_)))))
 by_cases hv:(readF (bytes s)).isSome=true
 ·obtain ⟨q,hq⟩:=Option.isSome_iff_exists.1 hv
  have hV:=valF_some hq
  refine xc 52 [.string s] 8 (fun _:Unit=>.bool true) _ (fun w hE hΦ=>(Valid_any s _ hΦ hs).mono (fun _ _ h=>post_val h (by rw [hv]))) (fun xx=>?_)
  refine xr 1 [(0, .v (.string s)),(2, .v (.string ⟨#[]⟩)),(3, .v (.string ⟨#[]⟩)),(9, .v (.bool false))] [] ?_
  refine xe (sx_next (xb (sx_skip (sx_next (sx_seq (sx_region (xr 1 [(2, .v (.string ⟨#[]⟩)),(3, .v (.string ⟨#[]⟩)),(11, .v (.string s))] [] ?_)))))))
  by_cases hd1:q.den=1
  ·refine xc 105 [.string s, .string ⟨#[47]⟩] 12 (fun _:Unit=>.tuple #[.string s, .string ⟨#[]⟩, .bool false]) _ (fun w hE hΦ=>(StrCut_no s _ (by have:=(parts_one hq hd1).2; omega)).mono (fun _ _ h=>post_val h rfl)) (fun xx=>?_)
   refine xr 7 [(2, .v (.string ⟨#[]⟩)),(3, .v (.string ⟨#[]⟩)),(4, .v (.string s)),(5, .v (.string ⟨#[]⟩)),(6, .v (.bool false))] [] ?_
   refine xe (sx_next (sx_seq (sx_seq (sx_region (xr 2 [(2, .v (.string ⟨#[]⟩)),(3, .v (.string ⟨#[]⟩)),(4, .v (.string s)),(5, .v (.string ⟨#[]⟩)),(17, .v (.bool true))] [] ?_)))))
   refine xe (sx_next (xa (sx_seq (sx_region (xr 3 [(2, .v (.string s)),(3, .v (.string ⟨#[49]⟩)),(4, .v (.string s)),(5, .v (.string ⟨#[]⟩))] [] ?_)))))
   refine xe (sx_next (sx_ret (sx_then_ret ?_)))
   refine sx_done (v:=.tuple #[.string s, .string ⟨#[49]⟩]) (by kernel_rfl) (fun w' hE hΦ=>?_)
   exact ⟨by rw [hV,hd1,← (parts_one hq hd1).1]; exact parts_whole s,hE⟩
  ·obtain ⟨e1,e2,e3⟩:=parts_two hq hd1
   obtain ⟨p,hp⟩:∃ p,p=((bytes s).takeWhile notSlash).length:=⟨_,rfl⟩
   rw [← hp] at e2 e3
   have hpl:p < s.size:=by rw [← bytes_length]; exact e3
   obtain ⟨x,hx⟩:∃ x,s.extract 0 p=x:=⟨_,rfl⟩
   obtain ⟨y,hy⟩:∃ y,s.extract (p + 1) s.size=y:=⟨_,rfl⟩
   have hX:x=⟨(Lib.itoa (q.num)).toArray⟩:=str_ext (by rw [← hx,(cut_at hp).1,e1,bytes_of])
   have hY:y=⟨(Lib.itoa (q.den:Int)).toArray⟩:=str_ext (by rw [← hy,(cut_at hp).2,e2,bytes_of])
   refine xc 105 [.string s, .string ⟨#[47]⟩] 12 (fun _:Unit=>.tuple #[.string x, .string y, .bool true]) _ (fun w hE hΦ=>(StrCut_yes s x y p _ (by rw [← bytes_length]; omega) hp hpl hx hy).mono (fun _ _ h=>post_val h rfl)) (fun xx=>?_)
   refine xr 7 [(2, .v (.string ⟨#[]⟩)),(3, .v (.string ⟨#[]⟩)),(4, .v (.string x)),(5, .v (.string y)),(6, .v (.bool true))] [] ?_
   refine xe (sx_next (sx_seq (sx_seq (sx_region (xr 2 [(2, .v (.string ⟨#[]⟩)),(3, .v (.string ⟨#[]⟩)),(4, .v (.string x)),(5, .v (.string y)),(17, .v (.bool false))] [] ?_)))))
   refine xe (sx_next (xb (sx_skip (sx_next (sx_seq (sx_region (xr 4 [(2, .v (.string x)),(3, .v (.string y))] [] ?_)))))))
   refine xe (sx_next (sx_ret ?_))
   refine sx_done (v:=.tuple #[.string x, .string y]) (by kernel_rfl) (fun w' hE hΦ=>?_)
   exact ⟨by rw [hV,hX,hY],hE⟩
 ·have hV:valF (bytes s)=0:=valF_none (by cases h:readF (bytes s) with | none=>rfl | some q=>rw [h] at hv; exact absurd rfl hv)
  refine xc 52 [.string s] 8 (fun _:Unit=>.bool false) _ (fun w hE hΦ=>(Valid_any s _ hΦ hs).mono (fun _ _ h=>post_val h (by rw [Bool.eq_false_iff.2 hv]))) (fun xx=>?_)
  refine xr 1 [(0, .v (.string s)),(2, .v (.string ⟨#[]⟩)),(3, .v (.string ⟨#[]⟩)),(9, .v (.bool true))] [] ?_
  refine xe (sx_next (xa (sx_seq (sx_region (xr 2 [(0, .v (.string s)),(2, .v (.string ⟨#[48]⟩)),(3, .v (.string ⟨#[49]⟩))] [] ?_)))))
  refine xe (sx_next (sx_ret (sx_then_ret ?_)))
  refine sx_done (v:=.tuple #[.string ⟨#[48]⟩, .string ⟨#[49]⟩]) (by kernel_rfl) (fun w' hE hΦ=>?_)
  exact ⟨by rw [hV]; exact parts_zero,hE⟩
set_option maxRecDepth 100000 in
theorem TNeg_any (s:ByteArray) (w:World) (hg:Glob w) (hs:(bytes s).length≤570) :
 Calls Tryz.prog 49 #[.string s] w (RetV w (.string ⟨(ratText (-(valF (bytes s)))).toArray⟩)):=by
 refine sx_enter (Φ:=fun w=>Glob w) Tryz.func49 rfl (by kernel_rfl) (fun w' hf=>hg.ext hf) ?_
 refine sx_seq (sx_region (xr 1 [(0, .v (.string s)),(2, .v (.string ⟨#[]⟩))] [] ?_))
 refine xe (sx_next (sx_seq (sx_block (sx_seq ?_))))
 by_cases h48:bytes s=[48]
 ·refine sx_region (xr 2 [(0, .v (.string s)),(2, .v (.string ⟨#[]⟩)),(5, .v (.bool ((s:ByteArray).toList == (⟨#[48]⟩:ByteArray).toList)))] [] ?_)
  rw [lit48_t h48]
  refine xr 6 [(0, .v (.string s)),(2, .v (.string ⟨#[]⟩)),(3, .v (.bool true))] [] ?_
  refine xe (sx_next (xa (sx_seq (sx_region (xr 1 [(0, .v (.string s)),(2, .v (.string ⟨#[48]⟩))] [] ?_)))))
  refine xe (sx_next (sx_ret (sx_in_ret (sx_then_ret ?_))))
  refine sx_done (v:=.string ⟨#[48]⟩) (by kernel_rfl) (fun w' hE hΦ=>?_)
  exact ⟨by rw [valF_of (show ratText 0=bytes s by rw [h48]; exact zt)]; exact neg_zero,hE⟩
 ·refine sx_region (xr 2 [(0, .v (.string s)),(2, .v (.string ⟨#[]⟩)),(5, .v (.bool ((s:ByteArray).toList == (⟨#[48]⟩:ByteArray).toList)))] [] ?_)
  rw [lit48_f h48]
  refine xr 2 [(0, .v (.string s)),(2, .v (.string ⟨#[]⟩)),(6, .v (.bool false)),(7, .v (.string s))] [] ?_
  by_cases hv:(readF (bytes s)).isSome=true
  ·obtain ⟨q,hq⟩:=Option.isSome_iff_exists.1 hv
   have hV:=valF_some hq
   obtain ⟨c0,h0,hc0⟩:=str_head' (s:=s) (fun e=>by rw [e,show readF []=none from rfl] at hq; cases hq)
   have hR:ratText q=bytes s:=text_of_read hq
   have hnz:q.num≠0:=fun e=>h48 (zero_txt hq e)
   refine xc 52 [.string s] 8 (fun _:Unit=>.bool true) _ (fun w hE hΦ=>(Valid_any s _ hΦ hs).mono (fun _ _ h=>post_val h (by rw [hv]))) (fun xx=>?_)
   refine xr 3 [(0, .v (.string s)),(2, .v (.string ⟨#[]⟩)),(3, .v (.bool false))] [] ?_
   refine xe (sx_next (xb (sx_seq ?_)))
   by_cases hm:c0=45
   ·have hneg:=(sgn_txt hq h0).1 hm
    have hT:bytes s=45 :: ratText (-q):=by rw [← hR]; exact neg_txt hneg
    obtain ⟨y,hy⟩:∃ y,s.extract 1 s.size=y:=⟨_,rfl⟩
    have hsz:1≤s.size:=by rw [← bytes_length,hT,List.length_cons]; omega
    refine sx_region (xr 1 [(0, .v (.string s)),(2, .v (.string ⟨#[]⟩)),(12, .v (.string s))] [] ?_)
    refine sx_look 13 (.int .u8 (c0.toNat:Int)) (by kernel_rfl) (by kernel_rfl) (by kernel_rfl) (by kernel_rfl) (by kernel_rfl) (by kernel_rfl) (fun w hE hΦ=>run_stridx' (t:=9) (x:=.tmp 12) (k:=0) (i:=.const (.int .i64 0)) (by kernel_rfl) (by kernel_rfl) (by kernel_rfl) (by rfl) hc0) ?_
    refine xr 1 [(0, .v (.string s)),(2, .v (.string ⟨#[]⟩)),(14, .v (.bool (((c0.toNat:Int):Int) == 45)))] [] ?_
    rw [(show ((c0.toNat:Int) == 45)=true from by rw [hm]; rfl)]
    refine xr 1 [(0, .v (.string s)),(2, .v (.string ⟨#[]⟩)),(11, .v (.bool true))] [] ?_
    refine xe (sx_next (xa (sx_seq (sx_region (xr 1 [(0, .v (.string s)),(2, .v (.string ⟨#[]⟩)),(15, .v (.string s))] [] ?_)))))
    refine sx_look 16 (.string y) (by kernel_rfl) (by kernel_rfl) (by kernel_rfl) (by kernel_rfl) (by kernel_rfl) (by kernel_rfl) (fun w hE hΦ=>run_strslice 1 _ (t:=9) (x:=(Operand.tmp 15)) (lo:=(some (Operand.const (Value.int IntKind.i64 1)))) (hi:=none) (by kernel_rfl) (by kernel_rfl) (by kernel_rfl) (Or.inr rfl) (Or.inl ⟨rfl,rfl⟩) hsz (Nat.le_refl _) hy) ?_
    refine xr 1 [(0, .v (.string s)),(2, .v (.string y))] [] ?_
    refine xe (sx_next (sx_ret (sx_in_ret (sx_then_ret ?_))))
    refine sx_done (v:=.string y) (by kernel_rfl) (fun w' hE hΦ=>?_)
    exact ⟨by rw [hV,show y=⟨(ratText (-q)).toArray⟩ from str_ext (by rw [← hy,bytes_rest,hT,bytes_of]; rfl)],hE⟩
   ·have hpos:0 < q.num:=by have:=(sgn_txt hq h0).2 hm; omega
    refine sx_region (xr 1 [(0, .v (.string s)),(2, .v (.string ⟨#[]⟩)),(12, .v (.string s))] [] ?_)
    refine sx_look 13 (.int .u8 (c0.toNat:Int)) (by kernel_rfl) (by kernel_rfl) (by kernel_rfl) (by kernel_rfl) (by kernel_rfl) (by kernel_rfl) (fun w hE hΦ=>run_stridx' (t:=9) (x:=.tmp 12) (k:=0) (i:=.const (.int .i64 0)) (by kernel_rfl) (by kernel_rfl) (by kernel_rfl) (by rfl) hc0) ?_
    refine xr 1 [(0, .v (.string s)),(2, .v (.string ⟨#[]⟩)),(14, .v (.bool (((c0.toNat:Int):Int) == 45)))] [] ?_
    rw [(show ((c0.toNat:Int) == 45)=false from u8_ne' (b:=45) hm)]
    refine xr 1 [(0, .v (.string s)),(2, .v (.string ⟨#[]⟩)),(11, .v (.bool false))] [] ?_
    refine xe (sx_next (xb (sx_skip (sx_out (sx_next (sx_seq (sx_region (xr 1 [(2, .v (.string ⟨#[]⟩)),(17, .v (.string s))] [] ?_))))))))
    refine sx_look 18 (.string (⟨#[45]⟩ ++ s)) (by kernel_rfl) (by kernel_rfl) (by kernel_rfl) (by kernel_rfl) (by kernel_rfl) (by kernel_rfl) (fun w hE hΦ=>run_stradd (x:=(Operand.const (Value.string { data:=#[45] }))) (y:=(Operand.tmp 17)) (t:=9) (k:=9) (by kernel_rfl) (by kernel_rfl) (by kernel_rfl) (show (⟨#[45]⟩:ByteArray).size + s.size≤1099511627776 by rw [← bytes_length s]; have:(⟨#[45]⟩:ByteArray).size=1:=rfl; omega) rfl) ?_
    refine xr 1 [(2, .v (.string (⟨#[45]⟩ ++ s)))] [] ?_
    refine xe (sx_next (sx_ret ?_))
    refine sx_done (v:=.string (⟨#[45]⟩ ++ s)) (by kernel_rfl) (fun w' hE hΦ=>?_)
    exact ⟨by rw [hV,show (⟨#[45]⟩ ++ s:ByteArray)=⟨(ratText (-q)).toArray⟩ from str_ext (by rw [bytes_cat,bytes_of,neg_neg_txt hpos,hR]; rfl)],hE⟩
  ·have hV:valF (bytes s)=0:=valF_none (by cases h:readF (bytes s) with | none=>rfl | some q=>rw [h] at hv; exact absurd rfl hv)
   refine xc 52 [.string s] 8 (fun _:Unit=>.bool false) _ (fun w hE hΦ=>(Valid_any s _ hΦ hs).mono (fun _ _ h=>post_val h (by rw [Bool.eq_false_iff.2 hv]))) (fun xx=>?_)
   refine xr 3 [(0, .v (.string s)),(2, .v (.string ⟨#[]⟩)),(3, .v (.bool true))] [] ?_
   refine xe (sx_next (xa (sx_seq (sx_region (xr 1 [(0, .v (.string s)),(2, .v (.string ⟨#[48]⟩))] [] ?_)))))
   refine xe (sx_next (sx_ret (sx_in_ret (sx_then_ret ?_))))
   refine sx_done (v:=.string ⟨#[48]⟩) (by kernel_rfl) (fun w' hE hΦ=>?_)
   exact ⟨by rw [hV]; exact neg_zero,hE⟩
set_option maxRecDepth 100000 in
theorem TAbs_any (s:ByteArray) (w:World) (hg:Glob w) (hs:(bytes s).length≤570) :
 Calls Tryz.prog 44 #[.string s] w (RetV w (.string ⟨(ratText (absQ (valF (bytes s)))).toArray⟩)):=by
 refine sx_enter (Φ:=fun w=>Glob w) Tryz.func44 rfl (by kernel_rfl) (fun w' hf=>hg.ext hf) ?_
 refine sx_seq (sx_region (xr 1 [(0, .v (.string s)),(2, .v (.string ⟨#[]⟩))] [] ?_))
 refine xe (sx_next (sx_seq (sx_seq (sx_region (xr 1 [(0, .v (.string s)),(2, .v (.string ⟨#[]⟩)),(3, .v (.string s))] [] ?_)))))
 by_cases hv:(readF (bytes s)).isSome=true
 ·obtain ⟨q,hq⟩:=Option.isSome_iff_exists.1 hv
  have hV:=valF_some hq
  refine xc 52 [.string s] 4 (fun _:Unit=>.bool true) _ (fun w hE hΦ=>(Valid_any s _ hΦ hs).mono (fun _ _ h=>post_val h (by rw [hv]))) (fun xx=>?_)
  refine xr 1 [(0, .v (.string s)),(2, .v (.string ⟨#[]⟩)),(5, .v (.bool false))] [] ?_
  refine xe (sx_next (xb (sx_skip (sx_next (sx_seq (sx_region (xr 1 [(2, .v (.string ⟨#[]⟩)),(6, .v (.string s))] [] ?_)))))))
  refine xc 104 [.string s, .string ⟨#[45]⟩] 7 (fun _:Unit=>.string ⟨(ratText (absQ q)).toArray⟩) _ (fun w hE hΦ=>(trim_ret s q _ (text_of_read hq)).mono (fun _ _ h=>post_val h rfl)) (fun xx=>?_)
  refine xr 1 [(2, .v (.string ⟨(ratText (absQ q)).toArray⟩))] [] ?_
  refine xe (sx_next (sx_ret ?_))
  refine sx_done (v:=.string ⟨(ratText (absQ q)).toArray⟩) (by kernel_rfl) (fun w' hE hΦ=>?_)
  exact ⟨by rw [hV],hE⟩
 ·have hV:valF (bytes s)=0:=valF_none (by cases h:readF (bytes s) with | none=>rfl | some q=>rw [h] at hv; exact absurd rfl hv)
  refine xc 52 [.string s] 4 (fun _:Unit=>.bool false) _ (fun w hE hΦ=>(Valid_any s _ hΦ hs).mono (fun _ _ h=>post_val h (by rw [Bool.eq_false_iff.2 hv]))) (fun xx=>?_)
  refine xr 1 [(0, .v (.string s)),(2, .v (.string ⟨#[]⟩)),(5, .v (.bool true))] [] ?_
  refine xe (sx_next (xa (sx_seq (sx_region (xr 1 [(0, .v (.string s)),(2, .v (.string ⟨#[48]⟩))] [] ?_)))))
  refine xe (sx_next (sx_ret (sx_then_ret ?_)))
  refine sx_done (v:=.string ⟨#[48]⟩) (by kernel_rfl) (fun w' hE hΦ=>?_)
  exact ⟨by rw [hV]; exact abs_zero,hE⟩
set_option maxRecDepth 100000 in
theorem RParts_any (s:ByteArray) (w:World) (hs:(bytes s).length≤200) :
 Calls Tryz.prog 46 #[.string s] w (RetV w (.tuple #[.string ⟨(Lib.itoa (valF (bytes s)).num).toArray⟩, .string ⟨(Lib.itoa ((valF (bytes s)).den:Int)).toArray⟩])):=by
 have HQ:=valF_dec hs (by decide)
 refine sx_enter (Φ:=fun w=>True) Tryz.func46 rfl (by kernel_rfl) (fun w' hf=>trivial) ?_
 refine sx_seq (sx_region (xr 2 [(0, .v (.string s)),(2, .v (.string ⟨#[]⟩)),(3, .v (.string ⟨#[]⟩))] [] ?_))
 refine xe (sx_next (sx_seq (sx_region (xr 1 [(2, .v (.string ⟨#[]⟩)),(3, .v (.string ⟨#[]⟩)),(5, .v (.string s))] [] ?_))))
 refine xc 18 [.string s] 6 shRat _ (fun w hE hΦ=>(NNum_any s _ (by rw [← bytes_length]; omega)).mono (fun _ _ h=>post_NRat h)) (fun xx=>?_)
 obtain ⟨s10,A10,l10,c10,t10,B10,m10,d10⟩:=xx
 refine xr 2 [(2, .v (.string ⟨#[]⟩)),(3, .v (.string ⟨#[]⟩)),(4, .p 4 0)] [bR4 4 35 s10 A10 l10 c10 t10 B10 m10 d10] ?_
 refine xe (sx_next (sx_seq ?_))
 refine sx_drawM 10 [0,1,3,7,0,31,63,127,255,511] (by kernel_rfl) (by kernel_rfl) follows_mixed' ?_
 refine xf 3 [(2, .v (.string ⟨#[]⟩)),(3, .v (.string ⟨#[]⟩)),(4, .p 4 0),eR4 9 s10 A10 l10 c10 false none 0 0] [bR4 4 35 s10 A10 l10 c10 t10 B10 m10 d10] ?_
 refine xd 21 [vR4 s10 A10 l10 c10 false none 0 0] 10 (fun _:Unit=>.string ⟨(Lib.itoa ((valF (bytes s)).num)).toArray⟩) _ (fun w hE hΦ=>(sText (k:=201) (NRatIs.whole hΦ.2.num) ⟨Nat.lt_of_lt_of_le (show ((valF (bytes s)).num).natAbs < 10 ^ 200 from HQ.1) (Nat.pow_le_pow_right (by omega) (by decide)),Nat.one_lt_pow (by decide) (by omega)⟩ (by decide)).mono (fun _ _ h=>post_val h (by rw [int_txt']))) (fun xx=>?_)
 refine xf 1 [(2, .v (.string ⟨#[]⟩)),(3, .v (.string ⟨#[]⟩)),(10, .v (.string ⟨(Lib.itoa ((valF (bytes s)).num)).toArray⟩)),eR4 11 s10 A10 l10 c10 t10 B10 m10 d10] [bR4 4 35 s10 A10 l10 c10 t10 B10 m10 d10] ?_
 refine xd 97 [vR4 s10 A10 l10 c10 t10 B10 m10 d10] 12 shInt _ (fun w hE hΦ=>(NDen_any _ (valF (bytes s)) _ hΦ.1.2).mono (fun _ _ h=>post_Num h)) (fun xx=>?_)
 obtain ⟨s11,A11,l11,c11⟩:=xx
 refine xf 1 [(2, .v (.string ⟨#[]⟩)),(3, .v (.string ⟨#[]⟩)),(10, .v (.string ⟨(Lib.itoa ((valF (bytes s)).num)).toArray⟩)),eR4 13 s11 A11 l11 c11 false none 0 0] [bR4 4 35 s10 A10 l10 c10 t10 B10 m10 d10] ?_
 refine xd 21 [vR4 s11 A11 l11 c11 false none 0 0] 14 (fun _:Unit=>.string ⟨(Lib.itoa (((valF (bytes s)).den:Int))).toArray⟩) _ (fun w hE hΦ=>(sText (k:=201) (NRatIs.whole hΦ.2) ⟨Nat.lt_of_lt_of_le (show (((valF (bytes s)).den:Int)).natAbs < 10 ^ 200 from (by rw [Int.natAbs_natCast]; exact HQ.2)) (Nat.pow_le_pow_right (by omega) (by decide)),Nat.one_lt_pow (by decide) (by omega)⟩ (by decide)).mono (fun _ _ h=>post_val h (by rw [int_txt']))) (fun xx=>?_)
 refine xf 2 [(2, .v (.string ⟨(Lib.itoa ((valF (bytes s)).num)).toArray⟩)),(3, .v (.string ⟨(Lib.itoa (((valF (bytes s)).den:Int))).toArray⟩))] [bR4 4 35 s10 A10 l10 c10 t10 B10 m10 d10] ?_
 refine xz (xe (sx_next (sx_ret ?_)))
 refine sx_done (v:=.tuple #[.string ⟨(Lib.itoa ((valF (bytes s)).num)).toArray⟩, .string ⟨(Lib.itoa (((valF (bytes s)).den:Int))).toArray⟩]) (by kernel_rfl) (fun w' hE hΦ=>?_)
 exact ⟨rfl,hE⟩
end Go.Proofs.YtibipjlohahekaaGreatDoor

namespace Go.Proofs.YtibipjlohahekaaGreatDoor
open Go.RowKit
theorem sgn_lt0 {x:Int} (h:x < 0):decide (x.sign < 0)=true:=by rw [Int.sign_eq_neg_one_of_neg h]; decide
theorem sgn_ge0 {x:Int} (h:¬ x < 0):decide (x.sign < 0)=false:=by
 rcases sign3 x with ⟨h1,_⟩ | ⟨_,h2⟩ | ⟨_,h2⟩
 ·exact absurd h1 h
 ·rw [h2]; decide
 ·rw [h2]; decide
set_option maxRecDepth 100000 in
theorem rationalParts_any (a b:ByteArray) (w:World) (hg:Glob w) :
 Calls Tryz.prog 11 #[.string a, .string b] w (RetV w (.bool true)):=by
 obtain ⟨r,hr⟩:∃ r,[a,b].all (fun s=>decide ((s.size:Int)≤200))=r:=⟨_,rfl⟩
 obtain ⟨A,hA⟩:∃ q,valF (bytes a)=q:=⟨_,rfl⟩
 obtain ⟨B,hB⟩:∃ q,valF (bytes b)=q:=⟨_,rfl⟩
 obtain ⟨k,hk⟩:∃ k,(A - B).num.sign=k:=⟨_,rfl⟩
 refine sx_enter (Φ:=fun w=>Glob w) Tryz.func11 rfl (by kernel_rfl) (fun w' hf=>hg.ext hf) ?_
 refine sx_seq (sx_region (xr 1 [(0, .v (.string a)),(1, .v (.string b)),(4, .v (.bool false))] [] ?_))
 refine xe (sx_next (sx_seq (sx_seq (sx_region (xr 2 [(0, .v (.string a)),(1, .v (.string b)),(4, .v (.bool false)),(12, .v (.string a)),(13, .v (.string b))] [] ?_)))))
 refine sx_does (d:=14) (fun zb:Nat=>.slice (some ⟨zb,0,none⟩) 2 2) (fun zb zw=>Blk 9 zw zb #[.string a, .string b]) (by kernel_rfl) (by kernel_rfl) (by kernel_rfl) (by kernel_rfl) (by kernel_rfl) (by kernel_rfl) (fun w hE hΦ=>does_bslice (t:=80) (e:=9) (n:=2) (sz:=1) (z:=.string ⟨#[]⟩) (parts:=#[(0,Operand.tmp 12),(1,Operand.tmp 13)]) (by kernel_rfl) (by kernel_rfl) (by kernel_rfl) (by kernel_rfl) (by kernel_rfl) (by kernel_rfl)) (fun b10=>?_)
 refine xr 0 [(0, .v (.string a)),(1, .v (.string b)),(4, .v (.bool false)),eS1 14 (some ⟨b10,0,none⟩) 2 2] [] ?_
 refine xc 17 [.int .i64 200, .slice (some ⟨b10,0,none⟩) 2 2] 15 (fun _:Unit=>.bool r) _ (fun w hE hΦ=>(short2 hΦ.2 hr).mono (fun _ _ h=>post_val h rfl)) (fun xx=>?_)
 rcases r with _ | _
 ·refine xr 1 [(0, .v (.string a)),(1, .v (.string b)),(4, .v (.bool false)),(16, .v (.bool true))] [] ?_
  refine xe (sx_next (xa (sx_seq (sx_region ?_))))
  refine xc 13 [] 17 (fun _:Unit=>.bool true) _ (fun w hE hΦ=>(awake1_any _ hΦ.1.1).mono (fun _ _ h=>post_val h rfl)) (fun xx=>?_)
  refine xr 1 [(0, .v (.string a)),(1, .v (.string b)),(4, .v (.bool true))] [] ?_
  refine xe (sx_next (sx_ret (sx_then_ret ?_)))
  refine sx_done (v:=.bool true) (by kernel_rfl) (fun w' hE hΦ=>?_)
  exact ⟨rfl,hE⟩
 ·have HL:=short_all2 hr
  have La:(bytes a).length≤200:=by have:=HL.1; omega
  have Lb:(bytes b).length≤200:=by have:=HL.2; omega
  have DA:=valF_dec La (by decide)
  have DB:=valF_dec Lb (by decide)
  rw [hA] at DA
  rw [hB] at DB
  have SA:StrIs a A:=⟨hA,Nat.le_trans La (by decide)⟩
  have SB:StrIs b B:=⟨hB,Nat.le_trans Lb (by decide)⟩
  refine xr 1 [(0, .v (.string a)),(1, .v (.string b)),(4, .v (.bool false)),(16, .v (.bool false))] [] ?_
  refine xe (sx_next (xb (sx_skip (sx_next (sx_seq (sx_region (xr 1 [(0, .v (.string a)),(1, .v (.string b)),(4, .v (.bool false)),(18, .v (.string a))] [] ?_)))))))
  refine xc 18 [.string a] 19 shRat _ (fun w hE hΦ=>(NNum_any a _ (by rw [← bytes_length]; omega)).mono (fun _ _ h=>post_NRat (by rw [hA] at h; exact h))) (fun xx=>?_)
  obtain ⟨s11,A11,l11,c11,t11,B11,m11,d11⟩:=xx
  refine xr 1 [(0, .v (.string a)),(1, .v (.string b)),(4, .v (.bool false)),eR4 19 s11 A11 l11 c11 t11 B11 m11 d11,(20, .v (.string b))] [] ?_
  refine xc 18 [.string b] 21 shRat _ (fun w hE hΦ=>(NNum_any b _ (by rw [← bytes_length]; omega)).mono (fun _ _ h=>post_NRat (by rw [hB] at h; exact h))) (fun xx=>?_)
  obtain ⟨s12,A12,l12,c12,t12,B12,m12,d12⟩:=xx
  refine xr 4 [(0, .v (.string a)),(1, .v (.string b)),(4, .v (.bool false)),(5, .p 5 0),(6, .p 6 0)] [bR4 6 35 s12 A12 l12 c12 t12 B12 m12 d12,bR4 5 35 s11 A11 l11 c11 t11 B11 m11 d11] ?_
  refine xe (sx_next (sx_seq (sx_region (xr 1 [(0, .v (.string a)),(1, .v (.string b)),(4, .v (.bool false)),(5, .p 5 0),(6, .p 6 0),(23, .v (.string a))] [bR4 6 35 s12 A12 l12 c12 t12 B12 m12 d12,bR4 5 35 s11 A11 l11 c11 t11 B11 m11 d11] ?_))))
  refine xc 45 [.string a] 24 (fun _:Unit=>.tuple #[.string ⟨(Lib.itoa (A).num).toArray⟩, .string ⟨(Lib.itoa ((A).den:Int)).toArray⟩]) _ (fun w hE hΦ=>(TParts_any a _ hΦ.1.1.1.1 (by omega)).mono (fun _ _ h=>post_val h (by rw [hA]))) (fun xx=>?_)
  refine xr 5 [(0, .v (.string a)),(1, .v (.string b)),(4, .v (.bool false)),(5, .p 5 0),(6, .p 6 0),(7, .v (.string ⟨(Lib.itoa (A).num).toArray⟩)),(8, .v (.string ⟨(Lib.itoa ((A).den:Int)).toArray⟩))] [bR4 6 35 s12 A12 l12 c12 t12 B12 m12 d12,bR4 5 35 s11 A11 l11 c11 t11 B11 m11 d11] ?_
  refine xe (sx_next (sx_seq (sx_region (xr 1 [(0, .v (.string a)),(1, .v (.string b)),(4, .v (.bool false)),(5, .p 5 0),(6, .p 6 0),(7, .v (.string ⟨(Lib.itoa (A).num).toArray⟩)),(8, .v (.string ⟨(Lib.itoa ((A).den:Int)).toArray⟩)),(28, .v (.string a))] [bR4 6 35 s12 A12 l12 c12 t12 B12 m12 d12,bR4 5 35 s11 A11 l11 c11 t11 B11 m11 d11] ?_))))
  refine xc 46 [.string a] 29 (fun _:Unit=>.tuple #[.string ⟨(Lib.itoa (A).num).toArray⟩, .string ⟨(Lib.itoa ((A).den:Int)).toArray⟩]) _ (fun w hE hΦ=>(RParts_any a _ (by omega)).mono (fun _ _ h=>post_val h (by rw [hA]))) (fun xx=>?_)
  refine xr 5 [(0, .v (.string a)),(1, .v (.string b)),(4, .v (.bool false)),(5, .p 5 0),(6, .p 6 0),(7, .v (.string ⟨(Lib.itoa (A).num).toArray⟩)),(8, .v (.string ⟨(Lib.itoa ((A).den:Int)).toArray⟩)),(9, .v (.string ⟨(Lib.itoa (A).num).toArray⟩)),(10, .v (.string ⟨(Lib.itoa ((A).den:Int)).toArray⟩))] [bR4 6 35 s12 A12 l12 c12 t12 B12 m12 d12,bR4 5 35 s11 A11 l11 c11 t11 B11 m11 d11] ?_
  refine xe (sx_next (sx_seq (sx_region (xr 3 [(0, .v (.string a)),(1, .v (.string b)),(4, .v (.bool false)),(5, .p 5 0),(6, .p 6 0),(7, .v (.string ⟨(Lib.itoa (A).num).toArray⟩)),(8, .v (.string ⟨(Lib.itoa ((A).den:Int)).toArray⟩)),(9, .v (.string ⟨(Lib.itoa (A).num).toArray⟩)),(10, .v (.string ⟨(Lib.itoa ((A).den:Int)).toArray⟩)),(11, .p 11 0)] [bR4 11 35 s11 A11 l11 c11 t11 B11 m11 d11,bR4 6 35 s12 A12 l12 c12 t12 B12 m12 d12,bR4 5 35 s11 A11 l11 c11 t11 B11 m11 d11] ?_))))
  refine xe (sx_next (sx_seq (sx_seq ?_)))
  by_cases hn:A.num < 0
  ·refine sx_region (xr 1 [(0, .v (.string a)),(1, .v (.string b)),(4, .v (.bool false)),(5, .p 5 0),(6, .p 6 0),(7, .v (.string ⟨(Lib.itoa (A).num).toArray⟩)),(8, .v (.string ⟨(Lib.itoa ((A).den:Int)).toArray⟩)),(9, .v (.string ⟨(Lib.itoa (A).num).toArray⟩)),(10, .v (.string ⟨(Lib.itoa ((A).den:Int)).toArray⟩)),(11, .p 11 0),eR4 33 s11 A11 l11 c11 t11 B11 m11 d11] [bR4 11 35 s11 A11 l11 c11 t11 B11 m11 d11,bR4 6 35 s12 A12 l12 c12 t12 B12 m12 d12,bR4 5 35 s11 A11 l11 c11 t11 B11 m11 d11] ?_)
   refine xc 20 [vR4 s11 A11 l11 c11 t11 B11 m11 d11] 34 (fun _:Unit=>.int .i64 (A).num.sign) _ (fun w hE hΦ=>(NRSign_any _ A _ hΦ.1.1.1.2).mono (fun _ _ h=>post_val h rfl)) (fun xx=>?_)
   refine xr 1 [(0, .v (.string a)),(1, .v (.string b)),(4, .v (.bool false)),(5, .p 5 0),(6, .p 6 0),(7, .v (.string ⟨(Lib.itoa (A).num).toArray⟩)),(8, .v (.string ⟨(Lib.itoa ((A).den:Int)).toArray⟩)),(9, .v (.string ⟨(Lib.itoa (A).num).toArray⟩)),(10, .v (.string ⟨(Lib.itoa ((A).den:Int)).toArray⟩)),(11, .p 11 0),(35, .v (.bool (decide ((A).num.sign < 0))))] [bR4 11 35 s11 A11 l11 c11 t11 B11 m11 d11,bR4 6 35 s12 A12 l12 c12 t12 B12 m12 d12,bR4 5 35 s11 A11 l11 c11 t11 B11 m11 d11] ?_
   rw [sgn_lt0 hn]
   refine xr 0 [(0, .v (.string a)),(1, .v (.string b)),(4, .v (.bool false)),(5, .p 5 0),(6, .p 6 0),(7, .v (.string ⟨(Lib.itoa (A).num).toArray⟩)),(8, .v (.string ⟨(Lib.itoa ((A).den:Int)).toArray⟩)),(9, .v (.string ⟨(Lib.itoa (A).num).toArray⟩)),(10, .v (.string ⟨(Lib.itoa ((A).den:Int)).toArray⟩)),(11, .p 11 0),(35, .v (.bool true))] [bR4 11 35 s11 A11 l11 c11 t11 B11 m11 d11,bR4 6 35 s12 A12 l12 c12 t12 B12 m12 d12,bR4 5 35 s11 A11 l11 c11 t11 B11 m11 d11] ?_
   refine xe (sx_next (xa (sx_region (xr 1 [(0, .v (.string a)),(1, .v (.string b)),(4, .v (.bool false)),(5, .p 5 0),(6, .p 6 0),(7, .v (.string ⟨(Lib.itoa (A).num).toArray⟩)),(8, .v (.string ⟨(Lib.itoa ((A).den:Int)).toArray⟩)),(9, .v (.string ⟨(Lib.itoa (A).num).toArray⟩)),(10, .v (.string ⟨(Lib.itoa ((A).den:Int)).toArray⟩)),(11, .p 11 0),eR4 36 s11 A11 l11 c11 t11 B11 m11 d11] [bR4 11 35 s11 A11 l11 c11 t11 B11 m11 d11,bR4 6 35 s12 A12 l12 c12 t12 B12 m12 d12,bR4 5 35 s11 A11 l11 c11 t11 B11 m11 d11] ?_))))
   refine xc 47 [vR4 s11 A11 l11 c11 t11 B11 m11 d11] 37 shRat _ (fun w hE hΦ=>(NRNeg_any _ A _ hΦ.1.1.1.1.2).mono (fun _ _ h=>post_NRat h)) (fun xx=>?_)
   obtain ⟨s13,A13,l13,c13,t13,B13,m13,d13⟩:=xx
   refine xr 1 [(0, .v (.string a)),(1, .v (.string b)),(4, .v (.bool false)),(5, .p 5 0),(6, .p 6 0),(7, .v (.string ⟨(Lib.itoa (A).num).toArray⟩)),(8, .v (.string ⟨(Lib.itoa ((A).den:Int)).toArray⟩)),(9, .v (.string ⟨(Lib.itoa (A).num).toArray⟩)),(10, .v (.string ⟨(Lib.itoa ((A).den:Int)).toArray⟩)),(11, .p 11 0)] [bR4 11 35 s13 A13 l13 c13 t13 B13 m13 d13,bR4 6 35 s12 A12 l12 c12 t12 B12 m12 d12,bR4 5 35 s11 A11 l11 c11 t11 B11 m11 d11] ?_
   refine xe (sx_next (sx_seq ?_))
   refine sx_drawM 43 [0,0,3,7,15,15,63,127,255,511,1023,511,4095,8191,16383,32767,65535,65535,262143,65535,65535,2097151,4194303,8388607,16777215,33554431,67108863,33554431,268435455,536870911,1073741823,2147483647,4294967295,8589934591,17179869183,8589934591,68719476735,137438953471,274877906943,549755813887,1099511627775,2199023255551,4398046511103] (by kernel_rfl) (by kernel_rfl) follows_mixed' ?_
   refine xf 3 [(0, .v (.string a)),(1, .v (.string b)),(4, .v (.bool false)),(5, .p 5 0),(6, .p 6 0),(8, .v (.string ⟨(Lib.itoa ((A).den:Int)).toArray⟩)),(10, .v (.string ⟨(Lib.itoa ((A).den:Int)).toArray⟩)),(11, .p 11 0),(40, .v (.bool ((⟨(Lib.itoa (A).num).toArray⟩:ByteArray).toList == (⟨(Lib.itoa (A).num).toArray⟩:ByteArray).toList)))] [bR4 11 35 s13 A13 l13 c13 t13 B13 m13 d13,bR4 6 35 s12 A12 l12 c12 t12 B12 m12 d12,bR4 5 35 s11 A11 l11 c11 t11 B11 m11 d11] ?_
   rw [str_self]
   refine xf 4 [(0, .v (.string a)),(1, .v (.string b)),(4, .v (.bool false)),(5, .p 5 0),(6, .p 6 0),(11, .p 11 0),(41, .v (.bool true)),(44, .v (.bool ((⟨(Lib.itoa ((A).den:Int)).toArray⟩:ByteArray).toList == (⟨(Lib.itoa ((A).den:Int)).toArray⟩:ByteArray).toList)))] [bR4 11 35 s13 A13 l13 c13 t13 B13 m13 d13,bR4 6 35 s12 A12 l12 c12 t12 B12 m12 d12,bR4 5 35 s11 A11 l11 c11 t11 B11 m11 d11] ?_
   rw [str_self]
   refine xf 3 [(0, .v (.string a)),(1, .v (.string b)),(4, .v (.bool false)),(5, .p 5 0),(6, .p 6 0),(11, .p 11 0),(46, .v (.bool true)),(47, .v (.string a))] [bR4 11 35 s13 A13 l13 c13 t13 B13 m13 d13,bR4 6 35 s12 A12 l12 c12 t12 B12 m12 d12,bR4 5 35 s11 A11 l11 c11 t11 B11 m11 d11] ?_
   refine xd 33 [.string a] 48 (fun _:Unit=>.int .i64 (A).num.sign) _ (fun w hE hΦ=>(TSign_any a _ hΦ.1.1.1.1.1.1.1.1 (by omega)).mono (fun _ _ h=>post_val h (by rw [hA]))) (fun xx=>?_)
   refine xf 1 [(0, .v (.string a)),(1, .v (.string b)),(4, .v (.bool false)),(5, .p 5 0),(6, .p 6 0),(11, .p 11 0),(46, .v (.bool true)),(48, .v (.int .i64 (A).num.sign)),eR4 49 s11 A11 l11 c11 t11 B11 m11 d11] [bR4 11 35 s13 A13 l13 c13 t13 B13 m13 d13,bR4 6 35 s12 A12 l12 c12 t12 B12 m12 d12,bR4 5 35 s11 A11 l11 c11 t11 B11 m11 d11] ?_
   refine xd 20 [vR4 s11 A11 l11 c11 t11 B11 m11 d11] 50 (fun _:Unit=>.int .i64 (A).num.sign) _ (fun w hE hΦ=>(NRSign_any _ A _ hΦ.1.1.1.1.1.1.2).mono (fun _ _ h=>post_val h rfl)) (fun xx=>?_)
   refine xf 1 [(0, .v (.string a)),(1, .v (.string b)),(4, .v (.bool false)),(5, .p 5 0),(6, .p 6 0),(11, .p 11 0),(46, .v (.bool true)),(51, .v (.bool (((A).num.sign:Int) == (A).num.sign)))] [bR4 11 35 s13 A13 l13 c13 t13 B13 m13 d13,bR4 6 35 s12 A12 l12 c12 t12 B12 m12 d12,bR4 5 35 s11 A11 l11 c11 t11 B11 m11 d11] ?_
   rw [int_self]
   refine xf 4 [(0, .v (.string a)),(4, .v (.bool false)),(5, .p 5 0),(6, .p 6 0),(11, .p 11 0),(53, .v (.bool true)),(54, .v (.string a)),(55, .v (.string b))] [bR4 11 35 s13 A13 l13 c13 t13 B13 m13 d13,bR4 6 35 s12 A12 l12 c12 t12 B12 m12 d12,bR4 5 35 s11 A11 l11 c11 t11 B11 m11 d11] ?_
   refine xd 29 [.string a, .string b] 56 (fun _:Unit=>.int .i64 k) _ (fun w hE hΦ=>(sCmp hΦ.1.1.1.1.1.1.1.1.1.1 SA SB hk).mono (fun _ _ h=>post_val h rfl)) (fun xx=>?_)
   refine xf 2 [(0, .v (.string a)),(4, .v (.bool false)),(5, .p 5 0),(11, .p 11 0),(53, .v (.bool true)),(56, .v (.int .i64 k)),eR4 57 s11 A11 l11 c11 t11 B11 m11 d11,eR4 58 s12 A12 l12 c12 t12 B12 m12 d12] [bR4 11 35 s13 A13 l13 c13 t13 B13 m13 d13,bR4 6 35 s12 A12 l12 c12 t12 B12 m12 d12,bR4 5 35 s11 A11 l11 c11 t11 B11 m11 d11] ?_
   refine xd 48 [vR4 s11 A11 l11 c11 t11 B11 m11 d11,vR4 s12 A12 l12 c12 t12 B12 m12 d12] 59 (fun _:Unit=>.int .i64 k) _ (fun w hE hΦ=>(NRCmp_any _ _ A B _ hΦ.1.1.1.1.1.1.1.1.2 hΦ.1.1.1.1.1.1.1.2 (small_fits DA (by decide)) (small_fits DB (by decide))).mono (fun _ _ h=>post_val h (by rw [hk]))) (fun xx=>?_)
   refine xf 1 [(0, .v (.string a)),(4, .v (.bool false)),(5, .p 5 0),(11, .p 11 0),(53, .v (.bool true)),(60, .v (.bool ((k:Int) == k)))] [bR4 11 35 s13 A13 l13 c13 t13 B13 m13 d13,bR4 6 35 s12 A12 l12 c12 t12 B12 m12 d12,bR4 5 35 s11 A11 l11 c11 t11 B11 m11 d11] ?_
   rw [int_self]
   refine xf 3 [(0, .v (.string a)),(4, .v (.bool false)),(5, .p 5 0),(11, .p 11 0),(62, .v (.bool true)),(63, .v (.string a))] [bR4 11 35 s13 A13 l13 c13 t13 B13 m13 d13,bR4 6 35 s12 A12 l12 c12 t12 B12 m12 d12,bR4 5 35 s11 A11 l11 c11 t11 B11 m11 d11] ?_
   refine xd 49 [.string a] 64 (fun _:Unit=>.string ⟨(ratText (-A)).toArray⟩) _ (fun w hE hΦ=>(TNeg_any a _ hΦ.1.1.1.1.1.1.1.1.1.1.1.1 (by omega)).mono (fun _ _ h=>post_val h (by rw [hA]))) (fun xx=>?_)
   refine xf 1 [(0, .v (.string a)),(4, .v (.bool false)),(11, .p 11 0),(62, .v (.bool true)),(64, .v (.string ⟨(ratText (-A)).toArray⟩)),eR4 65 s11 A11 l11 c11 t11 B11 m11 d11] [bR4 11 35 s13 A13 l13 c13 t13 B13 m13 d13,bR4 6 35 s12 A12 l12 c12 t12 B12 m12 d12,bR4 5 35 s11 A11 l11 c11 t11 B11 m11 d11] ?_
   refine xd 47 [vR4 s11 A11 l11 c11 t11 B11 m11 d11] 66 shRat _ (fun w hE hΦ=>(NRNeg_any _ A _ hΦ.1.1.1.1.1.1.1.1.1.1.2).mono (fun _ _ h=>post_NRat h)) (fun xx=>?_)
   obtain ⟨s14,A14,l14,c14,t14,B14,m14,d14⟩:=xx
   refine xf 0 [(0, .v (.string a)),(4, .v (.bool false)),(11, .p 11 0),(62, .v (.bool true)),(64, .v (.string ⟨(ratText (-A)).toArray⟩)),eR4 66 s14 A14 l14 c14 t14 B14 m14 d14] [bR4 11 35 s13 A13 l13 c13 t13 B13 m13 d13,bR4 6 35 s12 A12 l12 c12 t12 B12 m12 d12,bR4 5 35 s11 A11 l11 c11 t11 B11 m11 d11] ?_
   refine xd 21 [vR4 s14 A14 l14 c14 t14 B14 m14 d14] 67 (fun _:Unit=>.string ⟨(ratText (-A)).toArray⟩) _ (fun w hE hΦ=>(sText hΦ.2 (neg_small DA) (by decide)).mono (fun _ _ h=>post_val h rfl)) (fun xx=>?_)
   refine xf 1 [(0, .v (.string a)),(4, .v (.bool false)),(11, .p 11 0),(62, .v (.bool true)),(68, .v (.bool ((⟨(ratText (-A)).toArray⟩:ByteArray).toList == (⟨(ratText (-A)).toArray⟩:ByteArray).toList)))] [bR4 11 35 s13 A13 l13 c13 t13 B13 m13 d13,bR4 6 35 s12 A12 l12 c12 t12 B12 m12 d12,bR4 5 35 s11 A11 l11 c11 t11 B11 m11 d11] ?_
   rw [str_self]
   refine xf 3 [(4, .v (.bool false)),(11, .p 11 0),(70, .v (.bool true)),(71, .v (.string a))] [bR4 11 35 s13 A13 l13 c13 t13 B13 m13 d13,bR4 6 35 s12 A12 l12 c12 t12 B12 m12 d12,bR4 5 35 s11 A11 l11 c11 t11 B11 m11 d11] ?_
   refine xd 44 [.string a] 72 (fun _:Unit=>.string ⟨(ratText (-A)).toArray⟩) _ (fun w hE hΦ=>(TAbs_any a _ hΦ.1.1.1.1.1.1.1.1.1.1.1.1.1.1.1 (by omega)).mono (fun _ _ h=>post_val h (by rw [hA,show absQ A=(-A) from if_pos hn]))) (fun xx=>?_)
   refine xf 1 [(4, .v (.bool false)),(70, .v (.bool true)),(72, .v (.string ⟨(ratText (-A)).toArray⟩)),eR4 73 s13 A13 l13 c13 t13 B13 m13 d13] [bR4 11 35 s13 A13 l13 c13 t13 B13 m13 d13,bR4 6 35 s12 A12 l12 c12 t12 B12 m12 d12,bR4 5 35 s11 A11 l11 c11 t11 B11 m11 d11] ?_
   refine xd 21 [vR4 s13 A13 l13 c13 t13 B13 m13 d13] 74 (fun _:Unit=>.string ⟨(ratText (-A)).toArray⟩) _ (fun w hE hΦ=>(sText hΦ.1.1.1.1.1.1.1.1.2 (neg_small DA) (by decide)).mono (fun _ _ h=>post_val h rfl)) (fun xx=>?_)
   refine xf 1 [(4, .v (.bool false)),(70, .v (.bool true)),(75, .v (.bool ((⟨(ratText (-A)).toArray⟩:ByteArray).toList == (⟨(ratText (-A)).toArray⟩:ByteArray).toList)))] [bR4 11 35 s13 A13 l13 c13 t13 B13 m13 d13,bR4 6 35 s12 A12 l12 c12 t12 B12 m12 d12,bR4 5 35 s11 A11 l11 c11 t11 B11 m11 d11] ?_
   rw [str_self]
   refine xf 2 [(4, .v (.bool false)),(77, .v (.bool true))] [bR4 11 35 s13 A13 l13 c13 t13 B13 m13 d13,bR4 6 35 s12 A12 l12 c12 t12 B12 m12 d12,bR4 5 35 s11 A11 l11 c11 t11 B11 m11 d11] ?_
   refine xd 13 [] 78 (fun _:Unit=>.bool true) _ (fun w hE hΦ=>(awake1_any _ hΦ.1.1.1.1.1.1.1.1.1.1.1.1.1.1.1.1.1).mono (fun _ _ h=>post_val h rfl)) (fun xx=>?_)
   refine xf 2 [(4, .v (.bool true))] [bR4 11 35 s13 A13 l13 c13 t13 B13 m13 d13,bR4 6 35 s12 A12 l12 c12 t12 B12 m12 d12,bR4 5 35 s11 A11 l11 c11 t11 B11 m11 d11] ?_
   refine xz (xe (sx_next (sx_ret ?_)))
   refine sx_done (v:=.bool true) (by kernel_rfl) (fun w' hE hΦ=>?_)
   exact ⟨rfl,hE⟩
  ·refine sx_region (xr 1 [(0, .v (.string a)),(1, .v (.string b)),(4, .v (.bool false)),(5, .p 5 0),(6, .p 6 0),(7, .v (.string ⟨(Lib.itoa (A).num).toArray⟩)),(8, .v (.string ⟨(Lib.itoa ((A).den:Int)).toArray⟩)),(9, .v (.string ⟨(Lib.itoa (A).num).toArray⟩)),(10, .v (.string ⟨(Lib.itoa ((A).den:Int)).toArray⟩)),(11, .p 11 0),eR4 33 s11 A11 l11 c11 t11 B11 m11 d11] [bR4 11 35 s11 A11 l11 c11 t11 B11 m11 d11,bR4 6 35 s12 A12 l12 c12 t12 B12 m12 d12,bR4 5 35 s11 A11 l11 c11 t11 B11 m11 d11] ?_)
   refine xc 20 [vR4 s11 A11 l11 c11 t11 B11 m11 d11] 34 (fun _:Unit=>.int .i64 (A).num.sign) _ (fun w hE hΦ=>(NRSign_any _ A _ hΦ.1.1.1.2).mono (fun _ _ h=>post_val h rfl)) (fun xx=>?_)
   refine xr 1 [(0, .v (.string a)),(1, .v (.string b)),(4, .v (.bool false)),(5, .p 5 0),(6, .p 6 0),(7, .v (.string ⟨(Lib.itoa (A).num).toArray⟩)),(8, .v (.string ⟨(Lib.itoa ((A).den:Int)).toArray⟩)),(9, .v (.string ⟨(Lib.itoa (A).num).toArray⟩)),(10, .v (.string ⟨(Lib.itoa ((A).den:Int)).toArray⟩)),(11, .p 11 0),(35, .v (.bool (decide ((A).num.sign < 0))))] [bR4 11 35 s11 A11 l11 c11 t11 B11 m11 d11,bR4 6 35 s12 A12 l12 c12 t12 B12 m12 d12,bR4 5 35 s11 A11 l11 c11 t11 B11 m11 d11] ?_
   rw [sgn_ge0 hn]
   refine xr 0 [(0, .v (.string a)),(1, .v (.string b)),(4, .v (.bool false)),(5, .p 5 0),(6, .p 6 0),(7, .v (.string ⟨(Lib.itoa (A).num).toArray⟩)),(8, .v (.string ⟨(Lib.itoa ((A).den:Int)).toArray⟩)),(9, .v (.string ⟨(Lib.itoa (A).num).toArray⟩)),(10, .v (.string ⟨(Lib.itoa ((A).den:Int)).toArray⟩)),(11, .p 11 0),(35, .v (.bool false))] [bR4 11 35 s11 A11 l11 c11 t11 B11 m11 d11,bR4 6 35 s12 A12 l12 c12 t12 B12 m12 d12,bR4 5 35 s11 A11 l11 c11 t11 B11 m11 d11] ?_
   refine xe (sx_next (xb (sx_skip (sx_next (sx_seq ?_)))))
   refine sx_drawM 43 [0,0,3,7,15,15,63,127,255,511,1023,511,4095,8191,16383,32767,65535,65535,262143,65535,65535,2097151,4194303,8388607,16777215,33554431,67108863,33554431,268435455,536870911,1073741823,2147483647,4294967295,8589934591,17179869183,8589934591,68719476735,137438953471,274877906943,549755813887,1099511627775,2199023255551,4398046511103] (by kernel_rfl) (by kernel_rfl) follows_mixed' ?_
   refine xf 3 [(0, .v (.string a)),(1, .v (.string b)),(4, .v (.bool false)),(5, .p 5 0),(6, .p 6 0),(8, .v (.string ⟨(Lib.itoa ((A).den:Int)).toArray⟩)),(10, .v (.string ⟨(Lib.itoa ((A).den:Int)).toArray⟩)),(11, .p 11 0),(40, .v (.bool ((⟨(Lib.itoa (A).num).toArray⟩:ByteArray).toList == (⟨(Lib.itoa (A).num).toArray⟩:ByteArray).toList)))] [bR4 11 35 s11 A11 l11 c11 t11 B11 m11 d11,bR4 6 35 s12 A12 l12 c12 t12 B12 m12 d12,bR4 5 35 s11 A11 l11 c11 t11 B11 m11 d11] ?_
   rw [str_self]
   refine xf 4 [(0, .v (.string a)),(1, .v (.string b)),(4, .v (.bool false)),(5, .p 5 0),(6, .p 6 0),(11, .p 11 0),(41, .v (.bool true)),(44, .v (.bool ((⟨(Lib.itoa ((A).den:Int)).toArray⟩:ByteArray).toList == (⟨(Lib.itoa ((A).den:Int)).toArray⟩:ByteArray).toList)))] [bR4 11 35 s11 A11 l11 c11 t11 B11 m11 d11,bR4 6 35 s12 A12 l12 c12 t12 B12 m12 d12,bR4 5 35 s11 A11 l11 c11 t11 B11 m11 d11] ?_
   rw [str_self]
   refine xf 3 [(0, .v (.string a)),(1, .v (.string b)),(4, .v (.bool false)),(5, .p 5 0),(6, .p 6 0),(11, .p 11 0),(46, .v (.bool true)),(47, .v (.string a))] [bR4 11 35 s11 A11 l11 c11 t11 B11 m11 d11,bR4 6 35 s12 A12 l12 c12 t12 B12 m12 d12,bR4 5 35 s11 A11 l11 c11 t11 B11 m11 d11] ?_
   refine xd 33 [.string a] 48 (fun _:Unit=>.int .i64 (A).num.sign) _ (fun w hE hΦ=>(TSign_any a _ hΦ.1.1.1.1.1.1.1 (by omega)).mono (fun _ _ h=>post_val h (by rw [hA]))) (fun xx=>?_)
   refine xf 1 [(0, .v (.string a)),(1, .v (.string b)),(4, .v (.bool false)),(5, .p 5 0),(6, .p 6 0),(11, .p 11 0),(46, .v (.bool true)),(48, .v (.int .i64 (A).num.sign)),eR4 49 s11 A11 l11 c11 t11 B11 m11 d11] [bR4 11 35 s11 A11 l11 c11 t11 B11 m11 d11,bR4 6 35 s12 A12 l12 c12 t12 B12 m12 d12,bR4 5 35 s11 A11 l11 c11 t11 B11 m11 d11] ?_
   refine xd 20 [vR4 s11 A11 l11 c11 t11 B11 m11 d11] 50 (fun _:Unit=>.int .i64 (A).num.sign) _ (fun w hE hΦ=>(NRSign_any _ A _ hΦ.1.1.1.1.1.2).mono (fun _ _ h=>post_val h rfl)) (fun xx=>?_)
   refine xf 1 [(0, .v (.string a)),(1, .v (.string b)),(4, .v (.bool false)),(5, .p 5 0),(6, .p 6 0),(11, .p 11 0),(46, .v (.bool true)),(51, .v (.bool (((A).num.sign:Int) == (A).num.sign)))] [bR4 11 35 s11 A11 l11 c11 t11 B11 m11 d11,bR4 6 35 s12 A12 l12 c12 t12 B12 m12 d12,bR4 5 35 s11 A11 l11 c11 t11 B11 m11 d11] ?_
   rw [int_self]
   refine xf 4 [(0, .v (.string a)),(4, .v (.bool false)),(5, .p 5 0),(6, .p 6 0),(11, .p 11 0),(53, .v (.bool true)),(54, .v (.string a)),(55, .v (.string b))] [bR4 11 35 s11 A11 l11 c11 t11 B11 m11 d11,bR4 6 35 s12 A12 l12 c12 t12 B12 m12 d12,bR4 5 35 s11 A11 l11 c11 t11 B11 m11 d11] ?_
   refine xd 29 [.string a, .string b] 56 (fun _:Unit=>.int .i64 k) _ (fun w hE hΦ=>(sCmp hΦ.1.1.1.1.1.1.1.1.1 SA SB hk).mono (fun _ _ h=>post_val h rfl)) (fun xx=>?_)
   refine xf 2 [(0, .v (.string a)),(4, .v (.bool false)),(5, .p 5 0),(11, .p 11 0),(53, .v (.bool true)),(56, .v (.int .i64 k)),eR4 57 s11 A11 l11 c11 t11 B11 m11 d11,eR4 58 s12 A12 l12 c12 t12 B12 m12 d12] [bR4 11 35 s11 A11 l11 c11 t11 B11 m11 d11,bR4 6 35 s12 A12 l12 c12 t12 B12 m12 d12,bR4 5 35 s11 A11 l11 c11 t11 B11 m11 d11] ?_
   refine xd 48 [vR4 s11 A11 l11 c11 t11 B11 m11 d11,vR4 s12 A12 l12 c12 t12 B12 m12 d12] 59 (fun _:Unit=>.int .i64 k) _ (fun w hE hΦ=>(NRCmp_any _ _ A B _ hΦ.1.1.1.1.1.1.1.2 hΦ.1.1.1.1.1.1.2 (small_fits DA (by decide)) (small_fits DB (by decide))).mono (fun _ _ h=>post_val h (by rw [hk]))) (fun xx=>?_)
   refine xf 1 [(0, .v (.string a)),(4, .v (.bool false)),(5, .p 5 0),(11, .p 11 0),(53, .v (.bool true)),(60, .v (.bool ((k:Int) == k)))] [bR4 11 35 s11 A11 l11 c11 t11 B11 m11 d11,bR4 6 35 s12 A12 l12 c12 t12 B12 m12 d12,bR4 5 35 s11 A11 l11 c11 t11 B11 m11 d11] ?_
   rw [int_self]
   refine xf 3 [(0, .v (.string a)),(4, .v (.bool false)),(5, .p 5 0),(11, .p 11 0),(62, .v (.bool true)),(63, .v (.string a))] [bR4 11 35 s11 A11 l11 c11 t11 B11 m11 d11,bR4 6 35 s12 A12 l12 c12 t12 B12 m12 d12,bR4 5 35 s11 A11 l11 c11 t11 B11 m11 d11] ?_
   refine xd 49 [.string a] 64 (fun _:Unit=>.string ⟨(ratText (-A)).toArray⟩) _ (fun w hE hΦ=>(TNeg_any a _ hΦ.1.1.1.1.1.1.1.1.1.1.1 (by omega)).mono (fun _ _ h=>post_val h (by rw [hA]))) (fun xx=>?_)
   refine xf 1 [(0, .v (.string a)),(4, .v (.bool false)),(11, .p 11 0),(62, .v (.bool true)),(64, .v (.string ⟨(ratText (-A)).toArray⟩)),eR4 65 s11 A11 l11 c11 t11 B11 m11 d11] [bR4 11 35 s11 A11 l11 c11 t11 B11 m11 d11,bR4 6 35 s12 A12 l12 c12 t12 B12 m12 d12,bR4 5 35 s11 A11 l11 c11 t11 B11 m11 d11] ?_
   refine xd 47 [vR4 s11 A11 l11 c11 t11 B11 m11 d11] 66 shRat _ (fun w hE hΦ=>(NRNeg_any _ A _ hΦ.1.1.1.1.1.1.1.1.1.2).mono (fun _ _ h=>post_NRat h)) (fun xx=>?_)
   obtain ⟨s15,A15,l15,c15,t15,B15,m15,d15⟩:=xx
   refine xf 0 [(0, .v (.string a)),(4, .v (.bool false)),(11, .p 11 0),(62, .v (.bool true)),(64, .v (.string ⟨(ratText (-A)).toArray⟩)),eR4 66 s15 A15 l15 c15 t15 B15 m15 d15] [bR4 11 35 s11 A11 l11 c11 t11 B11 m11 d11,bR4 6 35 s12 A12 l12 c12 t12 B12 m12 d12,bR4 5 35 s11 A11 l11 c11 t11 B11 m11 d11] ?_
   refine xd 21 [vR4 s15 A15 l15 c15 t15 B15 m15 d15] 67 (fun _:Unit=>.string ⟨(ratText (-A)).toArray⟩) _ (fun w hE hΦ=>(sText hΦ.2 (neg_small DA) (by decide)).mono (fun _ _ h=>post_val h rfl)) (fun xx=>?_)
   refine xf 1 [(0, .v (.string a)),(4, .v (.bool false)),(11, .p 11 0),(62, .v (.bool true)),(68, .v (.bool ((⟨(ratText (-A)).toArray⟩:ByteArray).toList == (⟨(ratText (-A)).toArray⟩:ByteArray).toList)))] [bR4 11 35 s11 A11 l11 c11 t11 B11 m11 d11,bR4 6 35 s12 A12 l12 c12 t12 B12 m12 d12,bR4 5 35 s11 A11 l11 c11 t11 B11 m11 d11] ?_
   rw [str_self]
   refine xf 3 [(4, .v (.bool false)),(11, .p 11 0),(70, .v (.bool true)),(71, .v (.string a))] [bR4 11 35 s11 A11 l11 c11 t11 B11 m11 d11,bR4 6 35 s12 A12 l12 c12 t12 B12 m12 d12,bR4 5 35 s11 A11 l11 c11 t11 B11 m11 d11] ?_
   refine xd 44 [.string a] 72 (fun _:Unit=>.string ⟨(ratText A).toArray⟩) _ (fun w hE hΦ=>(TAbs_any a _ hΦ.1.1.1.1.1.1.1.1.1.1.1.1.1.1 (by omega)).mono (fun _ _ h=>post_val h (by rw [hA,show absQ A=A from if_neg hn]))) (fun xx=>?_)
   refine xf 1 [(4, .v (.bool false)),(70, .v (.bool true)),(72, .v (.string ⟨(ratText A).toArray⟩)),eR4 73 s11 A11 l11 c11 t11 B11 m11 d11] [bR4 11 35 s11 A11 l11 c11 t11 B11 m11 d11,bR4 6 35 s12 A12 l12 c12 t12 B12 m12 d12,bR4 5 35 s11 A11 l11 c11 t11 B11 m11 d11] ?_
   refine xd 21 [vR4 s11 A11 l11 c11 t11 B11 m11 d11] 74 (fun _:Unit=>.string ⟨(ratText A).toArray⟩) _ (fun w hE hΦ=>(sText hΦ.1.1.1.1.1.1.1.1.1.1.1.1.2 DA (by decide)).mono (fun _ _ h=>post_val h rfl)) (fun xx=>?_)
   refine xf 1 [(4, .v (.bool false)),(70, .v (.bool true)),(75, .v (.bool ((⟨(ratText A).toArray⟩:ByteArray).toList == (⟨(ratText A).toArray⟩:ByteArray).toList)))] [bR4 11 35 s11 A11 l11 c11 t11 B11 m11 d11,bR4 6 35 s12 A12 l12 c12 t12 B12 m12 d12,bR4 5 35 s11 A11 l11 c11 t11 B11 m11 d11] ?_
   rw [str_self]
   refine xf 2 [(4, .v (.bool false)),(77, .v (.bool true))] [bR4 11 35 s11 A11 l11 c11 t11 B11 m11 d11,bR4 6 35 s12 A12 l12 c12 t12 B12 m12 d12,bR4 5 35 s11 A11 l11 c11 t11 B11 m11 d11] ?_
   refine xd 13 [] 78 (fun _:Unit=>.bool true) _ (fun w hE hΦ=>(awake1_any _ hΦ.1.1.1.1.1.1.1.1.1.1.1.1.1.1.1.1).mono (fun _ _ h=>post_val h rfl)) (fun xx=>?_)
   refine xf 2 [(4, .v (.bool true))] [bR4 11 35 s11 A11 l11 c11 t11 B11 m11 d11,bR4 6 35 s12 A12 l12 c12 t12 B12 m12 d12,bR4 5 35 s11 A11 l11 c11 t11 B11 m11 d11] ?_
   refine xz (xe (sx_next (sx_ret ?_)))
   refine sx_done (v:=.bool true) (by kernel_rfl) (fun w' hE hΦ=>?_)
   exact ⟨rfl,hE⟩
end Go.Proofs.YtibipjlohahekaaGreatDoor
