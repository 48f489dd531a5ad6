/-
 My texts Nr, Nsh, Ng, Nf, Nt, Nd, Nrd, RdK, Rc, Awk, Len2, SdM, SdA, SdK, SdQ, Nm, Pt put together.
-/
import Derived.Test.YtbgkofgoeoiciaaGreatDoorT14
import Derived.Test.YtbgkofgoeoiciaaGreatDoorT22
import Derived.Test.YtbgkofgoeoiciaaGreatDoorT18
import Derived.Test.YtbgkofgoeoiciaaGreatDoorT19
import Derived.Test.YtbgkofgoeoiciaaGreatDoorT16
import Derived.Test.YtbgkofgoeoiciaaGreatDoorT12
import Derived.Test.YtbgkofgoeoiciaaGreatDoorT17
import Derived.Test.YtbgkofgoeoiciaaGreatDoorT02
namespace Go.Proofs.YtbgkofgoeoiciaaGreatDoor
open Go.RowKit
end Go.Proofs.YtbgkofgoeoiciaaGreatDoor

namespace Go.Proofs.YtbgkofgoeoiciaaGreatDoor
open Go.RowKit
end Go.Proofs.YtbgkofgoeoiciaaGreatDoor

namespace Go.Proofs.YtbgkofgoeoiciaaGreatDoor
open Go.RowKit
end Go.Proofs.YtbgkofgoeoiciaaGreatDoor

namespace Go.Proofs.YtbgkofgoeoiciaaGreatDoor
open Go.RowKit
end Go.Proofs.YtbgkofgoeoiciaaGreatDoor

namespace Go.Proofs.YtbgkofgoeoiciaaGreatDoor
open Go.RowKit
end Go.Proofs.YtbgkofgoeoiciaaGreatDoor

namespace Go.Proofs.YtbgkofgoeoiciaaGreatDoor
open Go.RowKit
theorem ml_ten {n k:Nat} (h:n < 10 ^ k):ml n≤k:=ml_le_iff.2 (Nat.lt_of_lt_of_le h (Nat.pow_le_pow_left (by rw [W32_eq]; omega) _))
end Go.Proofs.YtbgkofgoeoiciaaGreatDoor

namespace Go.Proofs.YtbgkofgoeoiciaaGreatDoor
open Go.RowKit
def notSlash (c:UInt8):Bool:=c != 47
theorem dig_notSlash {l:List UInt8} (h:l.all isDig=true):l.all notSlash=true:=by
 rw [List.all_eq_true] at *
 intro x hx
 have:=h x hx
 unfold notSlash
 simp
 rintro rfl
 exact absurd this (by decide)
theorem cut_at {t:ByteArray} {p:Nat} (hp:p=((bytes t).takeWhile notSlash).length):bytes (t.extract 0 p)=(bytes t).takeWhile notSlash∧bytes (t.extract (p + 1) t.size)=(bytes t).drop (p + 1):=by
 rw [bytes_extract,bytes_extract]
 refine ⟨?_,?_⟩
 ·rw [List.drop_zero,Nat.sub_zero,hp]
  have:=List.takeWhile_prefix notSlash (l:=bytes t)
  exact (List.prefix_iff_eq_take.1 this).symm
 ·rw [List.take_of_length_le (by rw [List.length_drop,bytes_length]; exact Nat.le_refl _)]
end Go.Proofs.YtbgkofgoeoiciaaGreatDoor

namespace Go.Proofs.YtbgkofgoeoiciaaGreatDoor
open Go.RowKit
theorem opt_two {α:Type} (o:Option α):o=none∨∃ x,o=some x:=by cases o; exact Or.inl rfl; exact Or.inr ⟨_,rfl⟩
section
variable {w w':World} {e:Ending} {l:List UInt8}
theorem post_Read_none (h:RetRead w l e w') (hr:readF l=none):PostC (fun x:ShQ=>.tuple #[shRat x, .bool false]) (fun x w=>RatIs w (shRat x) 0) w e w':=by
 obtain ⟨v,ok,rfl,hE,⟨rfl,q,h1,h2⟩ | ⟨rfl,h1,h2⟩⟩:=h
 ·rw [hr] at h1; cases h1
 ·obtain ⟨s,A,l,c,t,B,m,d,rfl⟩:=h2.shp
  exact ⟨(s,A,l,c,t,B,m,d),rfl,hE,boxn hE (fun S w'' hS hF=>h2.nrb hS hF)⟩
theorem post_Read_some {q:Rat} (h:RetRead w l e w') (hr:readF l=some q):PostC (fun x:ShQ=>.tuple #[shRat x, .bool true]) (fun x w=>RatIs w (shRat x) q) w e w':=by
 obtain ⟨v,ok,rfl,hE,⟨rfl,q,h1,h2⟩ | ⟨rfl,h1,h2⟩⟩:=h
 ·rw [hr] at h1; injection h1 with h1; subst h1
  obtain ⟨s,A,l,c,t,B,m,d,rfl⟩:=h2.shp
  exact ⟨(s,A,l,c,t,B,m,d),rfl,hE,boxn hE (fun S w'' hS hF=>h2.nrb hS hF)⟩
 ·rw [hr] at h1; cases h1
end
end Go.Proofs.YtbgkofgoeoiciaaGreatDoor

namespace Go.Proofs.YtbgkofgoeoiciaaGreatDoor
open Go.RowKit
section
variable {w w':World} {e:Ending} {l:List UInt8}
theorem post_Rec {v m:Int} (h:RetRec w v m e w'):PostC (fun x:ShQ × Rat × Bool=>.tuple #[shRat x.1, .bool x.2.2]) (fun x w=>RatIs w (shRat x.1) x.2.1∧RecIs v m x.2.1 x.2.2) w e w':=by
 obtain ⟨u,q,ok,rfl,h2,h3,hE⟩:=h
 obtain ⟨s,A,l,c,t,B,m,d,rfl⟩:=h2.shp
 exact ⟨((s,A,l,c,t,B,m,d),q,ok),rfl,hE,boxn hE (fun S w'' hS hF=>⟨h2.nrb hS hF,h3⟩)⟩
end
def RetRc (w:World) (la lb:List UInt8) (e:Ending) (w':World):Prop:=∃ s ok,e=.returned (.tuple #[.string ⟨s.toArray⟩, .bool ok])∧RcIs la lb s ok∧Ext w w'
theorem dec_fit {l:List UInt8} {q:Rat} (h:readF l=some q) (hl:l.length≤200):wl q.num.natAbs < 39∧wl q.den < 39∧ml q.num.natAbs≤200∧ml q.den≤200:=by
 obtain ⟨h1,h2⟩:=readF_dec h hl (by omega)
 have key:∀ n:Nat,n < 10 ^ 200→wl n < 39:=fun n hn=>by
  have:wl n≤38:=by
   rw [wl_le_iff,W64_eq]
   exact Nat.lt_of_lt_of_le hn (by decide)
  omega
 exact ⟨key _ h1,key _ h2,ml_ten h1,ml_ten h2⟩
theorem fit2 {z:Int} (h:wl z.natAbs < 39):Fits z:=by unfold Fits; omega
theorem prt_of {v m:Int} {q:Rat} (h:RecIs v m q true) (hm:2≤m) (hw:wl m.natAbs < 39):PrtOk q.num.natAbs∧PrtOk q.den:=by
 obtain ⟨h1,h2⟩:=h.size hm
 exact ⟨Nat.lt_of_le_of_lt (wl_mono h1) (by omega),Nat.lt_of_le_of_lt (wl_mono h2) (by omega)⟩
set_option maxRecDepth 100000 in
theorem MReconstruct_any (s1 s2:ByteArray) (w:World) (hg:Glob w) (h1:s1.size≤200) (h2:s2.size≤200) :
 Calls Tryz.prog 73 #[.string s1, .string s2] w (RetRc w (bytes s1) (bytes s2)):=by
 refine sx_enter (Φ:=fun w=>Glob w) Tryz.func73 rfl (by kernel_rfl) (fun w' hf=>hg.ext hf) ?_
 refine sx_seq ?_
 refine sx_region ?_
 refine sx_run 2 [(0, .v (.string s1)),(1, .v (.string s2)),(4, .v (.string ⟨#[]⟩)),(5, .v (.bool false))] [] (by kernel_rfl) (by kernel_rfl) ?_
 refine sx_end (by kernel_rfl) ?_
 refine sx_next ?_
 refine sx_seq ?_
 refine sx_region ?_
 refine sx_run 1 [(1, .v (.string s2)),(4, .v (.string ⟨#[]⟩)),(5, .v (.bool false)),(14, .v (.string s1))] [] (by kernel_rfl) (by kernel_rfl) ?_
 rcases opt_two (readF (bytes s1)) with hr1 | ⟨q1,hr1⟩
 ·refine sx_call 92 [.string s1] 15 (fun x:ShQ=>.tuple #[shRat x, .bool false]) _ (by kernel_rfl) (by kernel_rfl) (fun w hE hΦ=>(Read_any s1 _ hΦ (ReadOk.of_len (by rw [bytes_length]; omega))).mono (fun _ _ h=>post_Read_none h hr1)) (fun xx=>?_)
  obtain ⟨s10,A10,l10,c10,t10,B10,m10,d10⟩:=xx
  refine sx_run 6 [(1, .v (.string s2)),(4, .v (.string ⟨#[]⟩)),(5, .v (.bool false)),(6, .p 6 0),(7, .v (.bool false))] [(6,116,[.v (.bool s10), .v (.slice A10 l10 c10), .v (.bool t10), .v (.slice B10 m10 d10)])] (by kernel_rfl) (by kernel_rfl) ?_
  refine sx_end (by kernel_rfl) ?_
  refine sx_next ?_
  refine sx_seq ?_
  refine sx_region ?_
  refine sx_run 1 [(4, .v (.string ⟨#[]⟩)),(5, .v (.bool false)),(6, .p 6 0),(7, .v (.bool false)),(19, .v (.string s2))] [(6,116,[.v (.bool s10), .v (.slice A10 l10 c10), .v (.bool t10), .v (.slice B10 m10 d10)])] (by kernel_rfl) (by kernel_rfl) ?_
  rcases opt_two (readF (bytes s2)) with hr2 | ⟨q2,hr2⟩
  ·refine sx_call 92 [.string s2] 20 (fun x:ShQ=>.tuple #[shRat x, .bool false]) _ (by kernel_rfl) (by kernel_rfl) (fun w hE hΦ=>(Read_any s2 _ hΦ.1 (ReadOk.of_len (by rw [bytes_length]; omega))).mono (fun _ _ h=>post_Read_none h hr2)) (fun xx=>?_)
   obtain ⟨s11,A11,l11,c11,t11,B11,m11,d11⟩:=xx
   refine sx_run 6 [(4, .v (.string ⟨#[]⟩)),(5, .v (.bool false)),(6, .p 6 0),(7, .v (.bool false)),(8, .p 8 0),(9, .v (.bool false))] [(8,116,[.v (.bool s11), .v (.slice A11 l11 c11), .v (.bool t11), .v (.slice B11 m11 d11)]),(6,116,[.v (.bool s10), .v (.slice A10 l10 c10), .v (.bool t10), .v (.slice B10 m10 d10)])] (by kernel_rfl) (by kernel_rfl) ?_
   refine sx_end (by kernel_rfl) ?_
   refine sx_next ?_
   refine sx_seq ?_
   refine sx_seq ?_
   refine sx_region ?_
   refine sx_run 16 [(4, .v (.string ⟨#[]⟩)),(5, .v (.bool false)),(6, .p 6 0),(8, .p 8 0),(38, .v (.bool true))] [(8,116,[.v (.bool s11), .v (.slice A11 l11 c11), .v (.bool t11), .v (.slice B11 m11 d11)]),(6,116,[.v (.bool s10), .v (.slice A10 l10 c10), .v (.bool t10), .v (.slice B10 m10 d10)])] (by kernel_rfl) (by kernel_rfl) ?_
   refine sx_end (by kernel_rfl) ?_
   refine sx_next ?_
   refine sx_cond_t (by kernel_rfl) ?_
   refine sx_seq ?_
   refine sx_region ?_
   refine sx_run 2 [(4, .v (.string ⟨#[]⟩)),(5, .v (.bool false)),(6, .p 6 0),(8, .p 8 0)] [(8,116,[.v (.bool s11), .v (.slice A11 l11 c11), .v (.bool t11), .v (.slice B11 m11 d11)]),(6,116,[.v (.bool s10), .v (.slice A10 l10 c10), .v (.bool t10), .v (.slice B10 m10 d10)])] (by kernel_rfl) (by kernel_rfl) ?_
   refine sx_end (by kernel_rfl) ?_
   refine sx_next ?_
   refine sx_ret ?_
   refine sx_then_ret ?_
   refine sx_done (v:=.tuple #[.string ⟨#[]⟩, .bool false]) (by kernel_rfl) (fun w' hE hΦ=>?_)
   exact ⟨_,_,rfl,RcIs.none1 hr1,hE⟩
  ·refine sx_call 92 [.string s2] 20 (fun x:ShQ=>.tuple #[shRat x, .bool true]) _ (by kernel_rfl) (by kernel_rfl) (fun w hE hΦ=>(Read_any s2 _ hΦ.1 (ReadOk.of_len (by rw [bytes_length]; omega))).mono (fun _ _ h=>post_Read_some h hr2)) (fun xx=>?_)
   obtain ⟨s12,A12,l12,c12,t12,B12,m12,d12⟩:=xx
   refine sx_run 6 [(4, .v (.string ⟨#[]⟩)),(5, .v (.bool false)),(6, .p 6 0),(7, .v (.bool false)),(8, .p 8 0),(9, .v (.bool true))] [(8,116,[.v (.bool s12), .v (.slice A12 l12 c12), .v (.bool t12), .v (.slice B12 m12 d12)]),(6,116,[.v (.bool s10), .v (.slice A10 l10 c10), .v (.bool t10), .v (.slice B10 m10 d10)])] (by kernel_rfl) (by kernel_rfl) ?_
   refine sx_end (by kernel_rfl) ?_
   refine sx_next ?_
   refine sx_seq ?_
   refine sx_seq ?_
   refine sx_region ?_
   refine sx_run 16 [(4, .v (.string ⟨#[]⟩)),(5, .v (.bool false)),(6, .p 6 0),(8, .p 8 0),(38, .v (.bool true))] [(8,116,[.v (.bool s12), .v (.slice A12 l12 c12), .v (.bool t12), .v (.slice B12 m12 d12)]),(6,116,[.v (.bool s10), .v (.slice A10 l10 c10), .v (.bool t10), .v (.slice B10 m10 d10)])] (by kernel_rfl) (by kernel_rfl) ?_
   refine sx_end (by kernel_rfl) ?_
   refine sx_next ?_
   refine sx_cond_t (by kernel_rfl) ?_
   refine sx_seq ?_
   refine sx_region ?_
   refine sx_run 2 [(4, .v (.string ⟨#[]⟩)),(5, .v (.bool false)),(6, .p 6 0),(8, .p 8 0)] [(8,116,[.v (.bool s12), .v (.slice A12 l12 c12), .v (.bool t12), .v (.slice B12 m12 d12)]),(6,116,[.v (.bool s10), .v (.slice A10 l10 c10), .v (.bool t10), .v (.slice B10 m10 d10)])] (by kernel_rfl) (by kernel_rfl) ?_
   refine sx_end (by kernel_rfl) ?_
   refine sx_next ?_
   refine sx_ret ?_
   refine sx_then_ret ?_
   refine sx_done (v:=.tuple #[.string ⟨#[]⟩, .bool false]) (by kernel_rfl) (fun w' hE hΦ=>?_)
   exact ⟨_,_,rfl,RcIs.none1 hr1,hE⟩
 ·refine sx_call 92 [.string s1] 15 (fun x:ShQ=>.tuple #[shRat x, .bool true]) _ (by kernel_rfl) (by kernel_rfl) (fun w hE hΦ=>(Read_any s1 _ hΦ (ReadOk.of_len (by rw [bytes_length]; omega))).mono (fun _ _ h=>post_Read_some h hr1)) (fun xx=>?_)
  obtain ⟨s13,A13,l13,c13,t13,B13,m13,d13⟩:=xx
  refine sx_run 6 [(1, .v (.string s2)),(4, .v (.string ⟨#[]⟩)),(5, .v (.bool false)),(6, .p 6 0),(7, .v (.bool true))] [(6,116,[.v (.bool s13), .v (.slice A13 l13 c13), .v (.bool t13), .v (.slice B13 m13 d13)])] (by kernel_rfl) (by kernel_rfl) ?_
  refine sx_end (by kernel_rfl) ?_
  refine sx_next ?_
  refine sx_seq ?_
  refine sx_region ?_
  refine sx_run 1 [(4, .v (.string ⟨#[]⟩)),(5, .v (.bool false)),(6, .p 6 0),(7, .v (.bool true)),(19, .v (.string s2))] [(6,116,[.v (.bool s13), .v (.slice A13 l13 c13), .v (.bool t13), .v (.slice B13 m13 d13)])] (by kernel_rfl) (by kernel_rfl) ?_
  rcases opt_two (readF (bytes s2)) with hr2 | ⟨q2,hr2⟩
  ·refine sx_call 92 [.string s2] 20 (fun x:ShQ=>.tuple #[shRat x, .bool false]) _ (by kernel_rfl) (by kernel_rfl) (fun w hE hΦ=>(Read_any s2 _ hΦ.1 (ReadOk.of_len (by rw [bytes_length]; omega))).mono (fun _ _ h=>post_Read_none h hr2)) (fun xx=>?_)
   obtain ⟨s14,A14,l14,c14,t14,B14,m14,d14⟩:=xx
   refine sx_run 6 [(4, .v (.string ⟨#[]⟩)),(5, .v (.bool false)),(6, .p 6 0),(7, .v (.bool true)),(8, .p 8 0),(9, .v (.bool false))] [(8,116,[.v (.bool s14), .v (.slice A14 l14 c14), .v (.bool t14), .v (.slice B14 m14 d14)]),(6,116,[.v (.bool s13), .v (.slice A13 l13 c13), .v (.bool t13), .v (.slice B13 m13 d13)])] (by kernel_rfl) (by kernel_rfl) ?_
   refine sx_end (by kernel_rfl) ?_
   refine sx_next ?_
   refine sx_seq ?_
   refine sx_seq ?_
   refine sx_region ?_
   refine sx_run 16 [(4, .v (.string ⟨#[]⟩)),(5, .v (.bool false)),(6, .p 6 0),(8, .p 8 0),(38, .v (.bool true))] [(8,116,[.v (.bool s14), .v (.slice A14 l14 c14), .v (.bool t14), .v (.slice B14 m14 d14)]),(6,116,[.v (.bool s13), .v (.slice A13 l13 c13), .v (.bool t13), .v (.slice B13 m13 d13)])] (by kernel_rfl) (by kernel_rfl) ?_
   refine sx_end (by kernel_rfl) ?_
   refine sx_next ?_
   refine sx_cond_t (by kernel_rfl) ?_
   refine sx_seq ?_
   refine sx_region ?_
   refine sx_run 2 [(4, .v (.string ⟨#[]⟩)),(5, .v (.bool false)),(6, .p 6 0),(8, .p 8 0)] [(8,116,[.v (.bool s14), .v (.slice A14 l14 c14), .v (.bool t14), .v (.slice B14 m14 d14)]),(6,116,[.v (.bool s13), .v (.slice A13 l13 c13), .v (.bool t13), .v (.slice B13 m13 d13)])] (by kernel_rfl) (by kernel_rfl) ?_
   refine sx_end (by kernel_rfl) ?_
   refine sx_next ?_
   refine sx_ret ?_
   refine sx_then_ret ?_
   refine sx_done (v:=.tuple #[.string ⟨#[]⟩, .bool false]) (by kernel_rfl) (fun w' hE hΦ=>?_)
   exact ⟨_,_,rfl,RcIs.none2 hr2,hE⟩
  ·refine sx_call 92 [.string s2] 20 (fun x:ShQ=>.tuple #[shRat x, .bool true]) _ (by kernel_rfl) (by kernel_rfl) (fun w hE hΦ=>(Read_any s2 _ hΦ.1 (ReadOk.of_len (by rw [bytes_length]; omega))).mono (fun _ _ h=>post_Read_some h hr2)) (fun xx=>?_)
   obtain ⟨s15,A15,l15,c15,t15,B15,m15,d15⟩:=xx
   refine sx_run 6 [(4, .v (.string ⟨#[]⟩)),(5, .v (.bool false)),(6, .p 6 0),(7, .v (.bool true)),(8, .p 8 0),(9, .v (.bool true))] [(8,116,[.v (.bool s15), .v (.slice A15 l15 c15), .v (.bool t15), .v (.slice B15 m15 d15)]),(6,116,[.v (.bool s13), .v (.slice A13 l13 c13), .v (.bool t13), .v (.slice B13 m13 d13)])] (by kernel_rfl) (by kernel_rfl) ?_
   refine sx_end (by kernel_rfl) ?_
   refine sx_next ?_
   refine sx_seq ?_
   refine sx_seq ?_
   refine sx_region ?_
   refine sx_run 8 [(4, .v (.string ⟨#[]⟩)),(5, .v (.bool false)),(6, .p 6 0),(8, .p 8 0),(29, .v (.bool false)),(30, .v (.agg #[.bool s13, .slice A13 l13 c13, .bool t13, .slice B13 m13 d13]))] [(8,116,[.v (.bool s15), .v (.slice A15 l15 c15), .v (.bool t15), .v (.slice B15 m15 d15)]),(6,116,[.v (.bool s13), .v (.slice A13 l13 c13), .v (.bool t13), .v (.slice B13 m13 d13)])] (by kernel_rfl) (by kernel_rfl) ?_
   by_cases hd1:(q1).den=1
   ·refine sx_call 173 [.agg #[.bool s13, .slice A13 l13 c13, .bool t13, .slice B13 m13 d13]] 31 (fun _:Unit=>.bool true) _ (by kernel_rfl) (by kernel_rfl) (fun w hE hΦ=>(IsWhole_any _ (q1) _ hΦ.1.2).mono (fun _ _ h=>post_val h (by rw [decide_eq_true hd1]))) (fun xx=>?_)
    refine sx_run 4 [(4, .v (.string ⟨#[]⟩)),(5, .v (.bool false)),(6, .p 6 0),(8, .p 8 0),(34, .v (.bool false)),(35, .v (.agg #[.bool s15, .slice A15 l15 c15, .bool t15, .slice B15 m15 d15]))] [(8,116,[.v (.bool s15), .v (.slice A15 l15 c15), .v (.bool t15), .v (.slice B15 m15 d15)]),(6,116,[.v (.bool s13), .v (.slice A13 l13 c13), .v (.bool t13), .v (.slice B13 m13 d13)])] (by kernel_rfl) (by kernel_rfl) ?_
    by_cases hd2:(q2).den=1
    ·refine sx_call 173 [.agg #[.bool s15, .slice A15 l15 c15, .bool t15, .slice B15 m15 d15]] 36 (fun _:Unit=>.bool true) _ (by kernel_rfl) (by kernel_rfl) (fun w hE hΦ=>(IsWhole_any _ (q2) _ hΦ.1.2).mono (fun _ _ h=>post_val h (by rw [decide_eq_true hd2]))) (fun xx=>?_)
     refine sx_run 2 [(4, .v (.string ⟨#[]⟩)),(5, .v (.bool false)),(6, .p 6 0),(8, .p 8 0),(38, .v (.bool false))] [(8,116,[.v (.bool s15), .v (.slice A15 l15 c15), .v (.bool t15), .v (.slice B15 m15 d15)]),(6,116,[.v (.bool s13), .v (.slice A13 l13 c13), .v (.bool t13), .v (.slice B13 m13 d13)])] (by kernel_rfl) (by kernel_rfl) ?_
     refine sx_end (by kernel_rfl) ?_
     refine sx_next ?_
     refine sx_cond_f (by kernel_rfl) ?_
     refine sx_skip ?_
     refine sx_next ?_
     refine sx_seq ?_
     have HV:=dec_fit hr1 (by rw [bytes_length]; omega)
     have HW:=dec_fit hr2 (by rw [bytes_length]; omega)
     refine sx_region ?_
     refine sx_run 1 [(4, .v (.string ⟨#[]⟩)),(5, .v (.bool false)),(6, .p 6 0),(39, .v (.agg #[.bool s15, .slice A15 l15 c15, .bool t15, .slice B15 m15 d15]))] [(6,116,[.v (.bool s13), .v (.slice A13 l13 c13), .v (.bool t13), .v (.slice B13 m13 d13)])] (by kernel_rfl) (by kernel_rfl) ?_
     refine sx_call 167 [.agg #[.bool s15, .slice A15 l15 c15, .bool t15, .slice B15 m15 d15]] 40 shInt _ (by kernel_rfl) (by kernel_rfl) (fun w hE hΦ=>(Num_any _ (q2) _ hΦ.1.1.2).mono (fun _ _ h=>post_Int h)) (fun xx=>?_)
     obtain ⟨s16,A16,l16,c16⟩:=xx
     refine sx_run 2 [(4, .v (.string ⟨#[]⟩)),(5, .v (.bool false)),(6, .p 6 0),(10, .p 10 0)] [(10,114,[.v (.bool s16), .v (.slice A16 l16 c16)]),(6,116,[.v (.bool s13), .v (.slice A13 l13 c13), .v (.bool t13), .v (.slice B13 m13 d13)])] (by kernel_rfl) (by kernel_rfl) ?_
     refine sx_end (by kernel_rfl) ?_
     refine sx_next ?_
     refine sx_seq ?_
     refine sx_seq ?_
     refine sx_draw 4 (by kernel_rfl) (by kernel_rfl) follows_mixed' ?_
     refine st_flt 1 [(4, .v (.string ⟨#[]⟩)),(5, .v (.bool false)),(6, .p 6 0),(10, .p 10 0),(41, .v (.agg #[.bool s16, .slice A16 l16 c16]))] [(10,114,[.v (.bool s16), .v (.slice A16 l16 c16)]),(6,116,[.v (.bool s13), .v (.slice A13 l13 c13), .v (.bool t13), .v (.slice B13 m13 d13)])] (by kernel_rfl) (by kernel_rfl) ?_
     refine st_call 171 [.int .i64 2] 42 shInt _ (by kernel_rfl) (by kernel_rfl) (by kernel_rfl) (fun w hE hΦ=>(New_pos 2 _ (by rw [W64_eq]; omega) (by decide) (by decide)).mono (fun _ _ h=>post_Int h)) (fun xx=>?_)
     obtain ⟨s17,A17,l17,c17⟩:=xx
     refine st_flt 0 [(4, .v (.string ⟨#[]⟩)),(5, .v (.bool false)),(6, .p 6 0),(10, .p 10 0),(41, .v (.agg #[.bool s16, .slice A16 l16 c16])),(42, .v (.agg #[.bool s17, .slice A17 l17 c17]))] [(10,114,[.v (.bool s16), .v (.slice A16 l16 c16)]),(6,116,[.v (.bool s13), .v (.slice A13 l13 c13), .v (.bool t13), .v (.slice B13 m13 d13)])] (by kernel_rfl) (by kernel_rfl) ?_
     refine st_call 174 [.agg #[.bool s16, .slice A16 l16 c16], .agg #[.bool s17, .slice A17 l17 c17]] 43 (fun _:Unit=>.int .i64 (cmpI ((q2).num) (2))) _ (by kernel_rfl) (by kernel_rfl) (by kernel_rfl) (fun w hE hΦ=>(Compare_any _ _ ((q2).num) (2) _ hΦ.1.2 hΦ.2 (fit2 HW.1) (fit2 (z:=2) (by decide))).mono (fun _ _ h=>post_val h rfl)) (fun xx=>?_)
     refine st_flt 1 [(4, .v (.string ⟨#[]⟩)),(5, .v (.bool false)),(6, .p 6 0),(10, .p 10 0),(44, .v (.bool (decide ((cmpI ((q2).num) (2)) < 0))))] [(10,114,[.v (.bool s16), .v (.slice A16 l16 c16)]),(6,116,[.v (.bool s13), .v (.slice A13 l13 c13), .v (.bool t13), .v (.slice B13 m13 d13)])] (by kernel_rfl) (by kernel_rfl) ?_
     refine st_end (by kernel_rfl) ?_
     refine sx_end (by kernel_rfl) ?_
     refine sx_next ?_
     refine sx_cond ((decide ((cmpI ((q2).num) (2)) < 0))) (by kernel_rfl) (fun hb18=>?_) (fun hb18=>?_)
     ·have hm:q2.num < 2:=(cmpI_negI _ _).1 (of_decide_eq_true hb18)
      refine sx_seq ?_
      refine sx_region ?_
      refine sx_run 2 [(4, .v (.string ⟨#[]⟩)),(5, .v (.bool false)),(6, .p 6 0),(10, .p 10 0)] [(10,114,[.v (.bool s16), .v (.slice A16 l16 c16)]),(6,116,[.v (.bool s13), .v (.slice A13 l13 c13), .v (.bool t13), .v (.slice B13 m13 d13)])] (by kernel_rfl) (by kernel_rfl) ?_
      refine sx_end (by kernel_rfl) ?_
      refine sx_next ?_
      refine sx_ret ?_
      refine sx_then_ret ?_
      refine sx_done (v:=.tuple #[.string ⟨#[]⟩, .bool false]) (by kernel_rfl) (fun w' hE hΦ=>?_)
      exact ⟨_,_,rfl,RcIs.low hr2 hm,hE⟩
     ·have hm:¬ q2.num < 2:=fun h=>of_decide_eq_false hb18 ((cmpI_negI _ _).2 h)
      refine sx_skip ?_
      refine sx_next ?_
      refine sx_seq ?_
      refine sx_draw 10 (by kernel_rfl) (by kernel_rfl) follows_mixed' ?_
      refine st_flt 1 [(4, .v (.string ⟨#[]⟩)),(5, .v (.bool false)),(10, .p 10 0),(46, .v (.agg #[.bool s13, .slice A13 l13 c13, .bool t13, .slice B13 m13 d13]))] [(10,114,[.v (.bool s16), .v (.slice A16 l16 c16)]),(6,116,[.v (.bool s13), .v (.slice A13 l13 c13), .v (.bool t13), .v (.slice B13 m13 d13)])] (by kernel_rfl) (by kernel_rfl) ?_
      refine st_call 167 [.agg #[.bool s13, .slice A13 l13 c13, .bool t13, .slice B13 m13 d13]] 47 shInt _ (by kernel_rfl) (by kernel_rfl) (by kernel_rfl) (fun w hE hΦ=>(Num_any _ (q1) _ hΦ.1.1.1.1.1.1.2).mono (fun _ _ h=>post_Int h)) (fun xx=>?_)
      obtain ⟨s19,A19,l19,c19⟩:=xx
      refine st_flt 1 [(4, .v (.string ⟨#[]⟩)),(5, .v (.bool false)),(47, .v (.agg #[.bool s19, .slice A19 l19 c19])),(48, .v (.agg #[.bool s16, .slice A16 l16 c16]))] [(10,114,[.v (.bool s16), .v (.slice A16 l16 c16)]),(6,116,[.v (.bool s13), .v (.slice A13 l13 c13), .v (.bool t13), .v (.slice B13 m13 d13)])] (by kernel_rfl) (by kernel_rfl) ?_
      refine st_call 175 [.agg #[.bool s19, .slice A19 l19 c19], .agg #[.bool s16, .slice A16 l16 c16]] 49 (fun x:ShQ × Rat × Bool=>.tuple #[shRat x.1, .bool x.2.2]) _ (by kernel_rfl) (by kernel_rfl) (by kernel_rfl) (fun w hE hΦ=>(ReconstructRatio_any _ _ ((q1).num) ((q2).num) _ hΦ.1.1.1.1.1.1.1.1 hΦ.2 hΦ.1.1.1.2 (fit2 HV.1) HW.1 (by omega) (GcdAll.words HW.1)).mono (fun _ _ h=>post_Rec h)) (fun xx=>?_)
      obtain ⟨⟨s20,A20,l20,c20,t20,B20,m20,d20⟩,y21,ok21⟩:=xx
      rcases ok21 with _ | _
      ·refine st_flt 6 [(4, .v (.string ⟨#[]⟩)),(5, .v (.bool false)),(11, .p 11 0),(12, .v (.bool false))] [(11,116,[.v (.bool s20), .v (.slice A20 l20 c20), .v (.bool t20), .v (.slice B20 m20 d20)]),(11,116,[.v (.bool false), .v (.slice none 0 0), .v (.bool false), .v (.slice none 0 0)]),(10,114,[.v (.bool s16), .v (.slice A16 l16 c16)]),(6,116,[.v (.bool s13), .v (.slice A13 l13 c13), .v (.bool t13), .v (.slice B13 m13 d13)])] (by kernel_rfl) (by kernel_rfl) ?_
       refine st_end (by kernel_rfl) ?_
       refine sx_end (by kernel_rfl) ?_
       refine sx_next ?_
       refine sx_seq ?_
       refine sx_seq ?_
       refine sx_region ?_
       refine sx_run 2 [(4, .v (.string ⟨#[]⟩)),(5, .v (.bool false)),(11, .p 11 0),(53, .v (.bool true))] [(11,116,[.v (.bool s20), .v (.slice A20 l20 c20), .v (.bool t20), .v (.slice B20 m20 d20)])] (by kernel_rfl) (by kernel_rfl) ?_
       refine sx_end (by kernel_rfl) ?_
       refine sx_next ?_
       refine sx_cond_t (by kernel_rfl) ?_
       refine sx_seq ?_
       refine SXc.know (p:=RecIs q1.num q2.num y21 false) (fun w _ hΦ=>hΦ.2.2) (fun HK=>?_)
       refine sx_region ?_
       refine sx_run 2 [(4, .v (.string ⟨#[]⟩)),(5, .v (.bool false)),(11, .p 11 0)] [(11,116,[.v (.bool s20), .v (.slice A20 l20 c20), .v (.bool t20), .v (.slice B20 m20 d20)])] (by kernel_rfl) (by kernel_rfl) ?_
       refine sx_end (by kernel_rfl) ?_
       refine sx_next ?_
       refine sx_ret ?_
       refine sx_then_ret ?_
       refine sx_done (v:=.tuple #[.string ⟨#[]⟩, .bool false]) (by kernel_rfl) (fun w' hE hΦ=>?_)
       exact ⟨_,_,rfl,RcIs.not hr1 hr2 HK.ok,hE⟩
      ·refine st_flt 6 [(4, .v (.string ⟨#[]⟩)),(5, .v (.bool false)),(11, .p 11 0),(12, .v (.bool true))] [(11,116,[.v (.bool s20), .v (.slice A20 l20 c20), .v (.bool t20), .v (.slice B20 m20 d20)]),(11,116,[.v (.bool false), .v (.slice none 0 0), .v (.bool false), .v (.slice none 0 0)]),(10,114,[.v (.bool s16), .v (.slice A16 l16 c16)]),(6,116,[.v (.bool s13), .v (.slice A13 l13 c13), .v (.bool t13), .v (.slice B13 m13 d13)])] (by kernel_rfl) (by kernel_rfl) ?_
       refine st_end (by kernel_rfl) ?_
       refine sx_end (by kernel_rfl) ?_
       refine sx_next ?_
       refine sx_seq ?_
       refine sx_seq ?_
       refine sx_region ?_
       refine sx_run 2 [(4, .v (.string ⟨#[]⟩)),(5, .v (.bool false)),(11, .p 11 0),(53, .v (.bool false))] [(11,116,[.v (.bool s20), .v (.slice A20 l20 c20), .v (.bool t20), .v (.slice B20 m20 d20)])] (by kernel_rfl) (by kernel_rfl) ?_
       refine sx_end (by kernel_rfl) ?_
       refine sx_next ?_
       refine sx_cond_f (by kernel_rfl) ?_
       refine sx_skip ?_
       refine sx_next ?_
       refine sx_seq ?_
       refine SXc.know (p:=RecIs q1.num q2.num y21 true) (fun w _ hΦ=>hΦ.2.2) (fun HK=>?_)
       have HP:PrtOk (y21).num.natAbs∧PrtOk (y21).den:=prt_of HK (by omega) HW.1
       refine sx_region ?_
       refine sx_run 1 [(4, .v (.string ⟨#[]⟩)),(5, .v (.bool false)),(54, .v (.agg #[.bool s20, .slice A20 l20 c20, .bool t20, .slice B20 m20 d20]))] [] (by kernel_rfl) (by kernel_rfl) ?_
       refine sx_call 107 [.agg #[.bool s20, .slice A20 l20 c20, .bool t20, .slice B20 m20 d20]] 55 (fun _:Unit=>.string ⟨(ratText (y21)).toArray⟩) _ (by kernel_rfl) (by kernel_rfl) (fun w hE hΦ=>(RString_any _ (y21) _ hΦ.1.1.1.1.1.1.1.1.1 hΦ.2.1 HP.1 HP.2).mono (fun _ _ h=>post_val h rfl)) (fun xx=>?_)
       refine sx_run 2 [(4, .v (.string ⟨(ratText (y21)).toArray⟩)),(5, .v (.bool true))] [] (by kernel_rfl) (by kernel_rfl) ?_
       refine sx_end (by kernel_rfl) ?_
       refine sx_next ?_
       refine sx_ret ?_
       refine sx_done (v:=.tuple #[.string ⟨(ratText (y21)).toArray⟩, .bool true]) (by kernel_rfl) (fun w' hE hΦ=>?_)
       exact ⟨_,_,rfl,RcIs.got hr1 hr2 hd1 hd2 hm HK,hE⟩
    ·refine sx_call 173 [.agg #[.bool s15, .slice A15 l15 c15, .bool t15, .slice B15 m15 d15]] 36 (fun _:Unit=>.bool false) _ (by kernel_rfl) (by kernel_rfl) (fun w hE hΦ=>(IsWhole_any _ (q2) _ hΦ.1.2).mono (fun _ _ h=>post_val h (by rw [decide_eq_false hd2]))) (fun xx=>?_)
     refine sx_run 2 [(4, .v (.string ⟨#[]⟩)),(5, .v (.bool false)),(6, .p 6 0),(8, .p 8 0),(38, .v (.bool true))] [(8,116,[.v (.bool s15), .v (.slice A15 l15 c15), .v (.bool t15), .v (.slice B15 m15 d15)]),(6,116,[.v (.bool s13), .v (.slice A13 l13 c13), .v (.bool t13), .v (.slice B13 m13 d13)])] (by kernel_rfl) (by kernel_rfl) ?_
     refine sx_end (by kernel_rfl) ?_
     refine sx_next ?_
     refine sx_cond_t (by kernel_rfl) ?_
     refine sx_seq ?_
     refine sx_region ?_
     refine sx_run 2 [(4, .v (.string ⟨#[]⟩)),(5, .v (.bool false)),(6, .p 6 0),(8, .p 8 0)] [(8,116,[.v (.bool s15), .v (.slice A15 l15 c15), .v (.bool t15), .v (.slice B15 m15 d15)]),(6,116,[.v (.bool s13), .v (.slice A13 l13 c13), .v (.bool t13), .v (.slice B13 m13 d13)])] (by kernel_rfl) (by kernel_rfl) ?_
     refine sx_end (by kernel_rfl) ?_
     refine sx_next ?_
     refine sx_ret ?_
     refine sx_then_ret ?_
     refine sx_done (v:=.tuple #[.string ⟨#[]⟩, .bool false]) (by kernel_rfl) (fun w' hE hΦ=>?_)
     exact ⟨_,_,rfl,RcIs.frac2 hr2 hd2,hE⟩
   ·refine sx_call 173 [.agg #[.bool s13, .slice A13 l13 c13, .bool t13, .slice B13 m13 d13]] 31 (fun _:Unit=>.bool false) _ (by kernel_rfl) (by kernel_rfl) (fun w hE hΦ=>(IsWhole_any _ (q1) _ hΦ.1.2).mono (fun _ _ h=>post_val h (by rw [decide_eq_false hd1]))) (fun xx=>?_)
    refine sx_run 7 [(4, .v (.string ⟨#[]⟩)),(5, .v (.bool false)),(6, .p 6 0),(8, .p 8 0),(38, .v (.bool true))] [(8,116,[.v (.bool s15), .v (.slice A15 l15 c15), .v (.bool t15), .v (.slice B15 m15 d15)]),(6,116,[.v (.bool s13), .v (.slice A13 l13 c13), .v (.bool t13), .v (.slice B13 m13 d13)])] (by kernel_rfl) (by kernel_rfl) ?_
    refine sx_end (by kernel_rfl) ?_
    refine sx_next ?_
    refine sx_cond_t (by kernel_rfl) ?_
    refine sx_seq ?_
    refine sx_region ?_
    refine sx_run 2 [(4, .v (.string ⟨#[]⟩)),(5, .v (.bool false)),(6, .p 6 0),(8, .p 8 0)] [(8,116,[.v (.bool s15), .v (.slice A15 l15 c15), .v (.bool t15), .v (.slice B15 m15 d15)]),(6,116,[.v (.bool s13), .v (.slice A13 l13 c13), .v (.bool t13), .v (.slice B13 m13 d13)])] (by kernel_rfl) (by kernel_rfl) ?_
    refine sx_end (by kernel_rfl) ?_
    refine sx_next ?_
    refine sx_ret ?_
    refine sx_then_ret ?_
    refine sx_done (v:=.tuple #[.string ⟨#[]⟩, .bool false]) (by kernel_rfl) (fun w' hE hΦ=>?_)
    exact ⟨_,_,rfl,RcIs.frac1 hr1 hd1,hE⟩
end Go.Proofs.YtbgkofgoeoiciaaGreatDoor

namespace Go.Proofs.YtbgkofgoeoiciaaGreatDoor
open Go.RowKit
theorem itoa_one {n:Nat} (h:n < 10):Lib.itoa (n:Int)=[UInt8.ofNat (48 + n)]:=by
 unfold Lib.itoa
 rw [if_neg (by omega),Int.toNat_natCast,Lib.decDigits,dif_pos h]
theorem itoa_15:Lib.itoa 15=[49,53]:=by
 unfold Lib.itoa
 rw [if_neg (by omega),show (15:Int).toNat=15 from rfl,Lib.decDigits,dif_neg (by omega),Lib.decDigits,dif_pos (by omega)]
 rfl
theorem pr3:Pr 3:=Pr.of_noDiv (d:=2) (by omega) (by omega) (NoDiv.two 3) (by omega) (by omega)
theorem pr5:Pr 5:=Pr.of_noDiv (d:=3) (by omega) (by omega) (NoDiv.three (by omega)) (by omega) (by omega)
theorem crt_awake:crt (List.zip [2,3] [3,5])=(8,15):=by decide
theorem comb_awake {s t:List UInt8} {c:Int} (h:CombIs [2,3] [3,5] s t c):s=[56]∧t=[49,53]∧c=0:=by
 have hp:∀ p ∈ ([3,5]:List Int),Pr p:=by
  intro p hp
  simp at hp
  rcases hp with rfl | rfl
  ·exact pr3
  ·exact pr5
 have hn:([3,5]:List Int).Nodup:=by decide
 rcases h with h | h | h | h | h
 ·exact absurd rfl h.1
 ·have:=h.2.1; simp at this
 ·obtain ⟨p,hp1,hp2⟩:=h.2.2.1
  exact absurd (hp p hp1) hp2
 ·exact absurd hn h.2.2.2.1
 ·obtain ⟨_,_,_,_,h1,h2,h3⟩:=h
  rw [crt_awake] at h1 h2
  exact ⟨h1.trans (itoa_one (n:=8) (by omega)),h2.trans itoa_15,h3⟩
theorem split8:splitF [56]=(false,[56],[],true):=by decide
theorem split15:splitF [49,53]=(false,[49,53],[],true):=by decide
theorem read8:readF [56]=some ((8:Int):Rat):=by
 unfold readF
 rw [split8]
 rfl
theorem read15:readF [49,53]=some ((15:Int):Rat):=by
 unfold readF
 rw [split15]
 rfl
theorem run_awake:RecRun 15 15 (8 % 15) 0 1 1 2:=by
 refine RecRun.step (by decide) ?_
 refine RecRun.step (by decide) ?_
 exact RecRun.done (by decide)
theorem half_parts:(Rat.divInt 1 2).num=1∧(Rat.divInt 1 2).den=2:=by decide
theorem half_text:ratText (Rat.divInt 1 2)=[49,47,50]:=by
 unfold ratText
 rw [half_parts.1,half_parts.2,if_neg (by omega)]
 rw [show (1:Int)=((1:Nat):Int) from rfl,itoa_one (by omega),itoa_one (n:=2) (by omega)]
 rfl
theorem iShows_two {w:World} {g:Nat} {x y:Int} {t:TypeId} (h:Blk t w g #[.int .i64 x, .int .i64 y]):IShows w (some ⟨g,0,none⟩) [x,y]:=fun _=>by
 refine ⟨g,0,rfl,h.lt,fun i hi=>?_⟩
 rw [Nat.zero_add,h.cell]
 rcases i with _ | _ | i
 ·rfl
 ·rfl
 ·simp at hi; omega
theorem comb_post {rs ps:List Int} {s t:List UInt8} {c:Int} {w w':World} {e:Ending} (k:∀ s' t' c',CombIs rs ps s' t' c'→s'=s∧t'=t∧c'=c) (h:RetComb w rs ps e w'):RetV w (.tuple #[.string ⟨s.toArray⟩, .string ⟨t.toArray⟩, .int .i64 c]) e w':=by
 obtain ⟨s',t',c',rfl,hC,hE⟩:=h
 obtain ⟨rfl,rfl,rfl⟩:=k _ _ _ hC
 exact ⟨rfl,hE⟩
theorem rc_post {la lb s:List UInt8} {ok:Bool} {w w':World} {e:Ending} (k:RcIs la lb s ok) (h:RetRc w la lb e w'):RetV w (.tuple #[.string ⟨s.toArray⟩, .bool ok]) e w':=by
 obtain ⟨s',ok',rfl,hC,hE⟩:=h
 obtain ⟨rfl,rfl⟩:=hC.unique k
 exact ⟨rfl,hE⟩
theorem rc_awake:RcIs [56] [49,53] [49,47,50] true :=
 half_text ▸ RcIs.got read8 read15 rfl rfl (by decide) ⟨1,2,run_awake,Or.inl ⟨rfl,by decide,by decide,by decide,rfl⟩⟩
set_option maxRecDepth 100000 in
theorem awake2_any (w:World) (hg:Glob w) :
 Calls Tryz.prog 42 #[] w (RetV w (.bool true)):=by
 refine sx_enter (Φ:=fun w=>True) Tryz.func42 rfl (by kernel_rfl) (fun w' hf=>trivial) ?_
 refine sx_seq (sx_region (xr 1 [(0, .v (.bool false))] [] ?_))
 refine xe (sx_next (sx_seq (sx_region ?_)))
 refine sx_does (d:=7) (fun zb:Nat=>.slice (some ⟨zb,0,none⟩) 2 2) (fun zb zw=>Blk 3 zw zb #[.int .i64 2, .int .i64 3]) (by kernel_rfl) (by kernel_rfl) (by kernel_rfl) (by kernel_rfl) (by kernel_rfl) (by kernel_rfl) (fun w hE hΦ=>does_bslice (t:=57) (e:=3) (n:=2) (sz:=1) (z:=.int .i64 0) (parts:=#[(0,Operand.const (Value.int IntKind.i64 2)),(1,Operand.const (Value.int IntKind.i64 3))]) (by kernel_rfl) (by kernel_rfl) (by kernel_rfl) (by kernel_rfl) (by kernel_rfl) (by kernel_rfl)) (fun b10=>?_)
 refine xr 0 [(0, .v (.bool false)),eS1 7 (some ⟨b10,0,none⟩) 2 2] [] ?_
 refine sx_does (d:=8) (fun zb:Nat=>.slice (some ⟨zb,0,none⟩) 2 2) (fun zb zw=>Blk 3 zw zb #[.int .i64 3, .int .i64 5]) (by kernel_rfl) (by kernel_rfl) (by kernel_rfl) (by kernel_rfl) (by kernel_rfl) (by kernel_rfl) (fun w hE hΦ=>does_bslice (t:=57) (e:=3) (n:=2) (sz:=1) (z:=.int .i64 0) (parts:=#[(0,Operand.const (Value.int IntKind.i64 3)),(1,Operand.const (Value.int IntKind.i64 5))]) (by kernel_rfl) (by kernel_rfl) (by kernel_rfl) (by kernel_rfl) (by kernel_rfl) (by kernel_rfl)) (fun b11=>?_)
 refine xr 0 [(0, .v (.bool false)),eS1 7 (some ⟨b10,0,none⟩) 2 2,eS1 8 (some ⟨b11,0,none⟩) 2 2] [] ?_
 refine xc 72 [.slice (some ⟨b10,0,none⟩) 2 2, .slice (some ⟨b11,0,none⟩) 2 2] 9 (fun _:Unit=>.tuple #[.string ⟨#[56]⟩, .string ⟨#[49,53]⟩, .int .i64 0]) _ (fun w hE hΦ=>(Combine_any _ _ [2,3] [3,5] 2 2 2 2 _ (hg.ext hE) rfl rfl (iShows_two hΦ.1.2) (iShows_two hΦ.2) (by intro z hz; simp at hz; omega) (by intro z hz; simp at hz; omega) (by omega) (by omega) (by omega)).mono (fun _ _ h=>post_val (comb_post (fun _ _ _=>comb_awake) h) rfl)) (fun xx=>?_)
 refine xr 7 [(0, .v (.bool false)),(1, .v (.string ⟨#[56]⟩)),(2, .v (.string ⟨#[49,53]⟩)),(3, .v (.int .i64 0))] [] ?_
 refine xe (sx_next (sx_seq (sx_region ?_)))
 refine xc 73 [.string ⟨#[56]⟩, .string ⟨#[49,53]⟩] 14 (fun _:Unit=>.tuple #[.string ⟨#[49,47,50]⟩, .bool true]) _ (fun w hE hΦ=>(MReconstruct_any ⟨#[56]⟩ ⟨#[49,53]⟩ _ (hg.ext hE) (by decide) (by decide)).mono (fun _ _ h=>post_val (rc_post rc_awake h) rfl)) (fun xx=>?_)
 refine xr 5 [(0, .v (.bool false)),(1, .v (.string ⟨#[56]⟩)),(2, .v (.string ⟨#[49,53]⟩)),(3, .v (.int .i64 0)),(4, .v (.string ⟨#[49,47,50]⟩)),(5, .v (.bool true))] [] ?_
 refine xe (sx_next (sx_seq (sx_region (xr 2 [(0, .v (.bool false)),(2, .v (.string ⟨#[49,53]⟩)),(3, .v (.int .i64 0)),(4, .v (.string ⟨#[49,47,50]⟩)),(5, .v (.bool true)),(18, .v (.bool ((⟨#[56]⟩:ByteArray).toList == (⟨#[56]⟩:ByteArray).toList)))] [] ?_))))
 rw [str_self]
 refine xr 3 [(0, .v (.bool false)),(3, .v (.int .i64 0)),(4, .v (.string ⟨#[49,47,50]⟩)),(5, .v (.bool true)),(19, .v (.bool true)),(21, .v (.bool ((⟨#[49,53]⟩:ByteArray).toList == (⟨#[49,53]⟩:ByteArray).toList)))] [] ?_
 rw [str_self]
 refine xr 8 [(0, .v (.bool false)),(5, .v (.bool true)),(27, .v (.bool true)),(29, .v (.bool ((⟨#[49,47,50]⟩:ByteArray).toList == (⟨#[49,47,50]⟩:ByteArray).toList)))] [] ?_
 rw [str_self]
 refine xr 5 [(0, .v (.bool true))] [] ?_
 refine xe (sx_next (sx_ret ?_))
 refine sx_done (v:=.bool true) (by kernel_rfl) (fun w' hE hΦ=>?_)
 exact ⟨rfl,hE⟩
end Go.Proofs.YtbgkofgoeoiciaaGreatDoor

namespace Go.Proofs.YtbgkofgoeoiciaaGreatDoor
open Go.RowKit
end Go.Proofs.YtbgkofgoeoiciaaGreatDoor

namespace Go.Proofs.YtbgkofgoeoiciaaGreatDoor
open Go.RowKit
def Free (m:Nat):Prop:=∀ j,2≤j→¬ j * j ∣ m
structure SqF (d r m:Nat):Prop where
 mul:r * r * m=d
 pos:0 < d
 free:Free m
end Go.Proofs.YtbgkofgoeoiciaaGreatDoor

namespace Go.Proofs.YtbgkofgoeoiciaaGreatDoor
open Go.RowKit
structure Sd where
 a:Rat
 b:Rat
 d:Int
def nv (a b:Rat) (d:Int):Sd:=if b=0 then ⟨a,0,1⟩ else ⟨a,b,d⟩
namespace Sd
def neg (x:Sd):Sd:=⟨-x.a,-x.b,x.d⟩
def build (a b:Rat) (d:Int):Sd:=if d=1 then ⟨a + b,0,1⟩ else if b=0 then ⟨a,0,1⟩ else ⟨a,b,d⟩
end Sd
open Sd
structure Fld (D:Int):Prop where
 two:2≤D
 top:D≤1000000
 free:Free D.toNat
section
variable {D:Int} (h:Fld D) (a b a' b':Rat)
include h
end
end Go.Proofs.YtbgkofgoeoiciaaGreatDoor

namespace Go.Proofs.YtbgkofgoeoiciaaGreatDoor
open Go.RowKit
def Dq (q:Rat) (k:Nat):Prop:=q.num.natAbs < 10 ^ k∧q.den < 10 ^ k
structure Sz (x:Sd) (k:Nat):Prop where
 a:Dq x.a k
 b:Dq x.b k
 lo:1≤x.d
 hi:x.d≤1000000
section
variable {s t s' t':Bool} {A B A' B':Option Addr} {l c m d l' c' m' d':Nat} {w w':World} {e:Ending} {v:Value} {x:Sd} {a b:Rat} {k:Int}
end
-- reading
section
variable {w w':World} {e:Ending} {o:Option Sd}
end
-- a rational number's parts as one variable
end Go.Proofs.YtbgkofgoeoiciaaGreatDoor

namespace Go.Proofs.YtbgkofgoeoiciaaGreatDoor
open Go.RowKit
section
variable {N:Nat} {S0:Nat→Prop} {w0:World} {P:Program} {s:St} {Φ Φ0:World→Prop} {ops:Array Oper} {Q:Exit→Act→World→Prop}
theorem xl {i:Nat} (d:Nat) (y:Value) (hx:∀ w,Fr S0 w0 w→Φ w→(execOp s.rho (opAt ops i)).run P w=.ok (.value y) w) (K:SXi P N S0 w0 ops Q (i + 1) (s.put d (.v y)) Φ) (hi:Nat.blt i ops.size=true:=by kernel_rfl) (hs:noSel (opAt ops i).op=true:=by kernel_rfl)
 (hw:s.wantB ops (opAt ops i)=some true:=by kernel_rfl) (hv:(opAt ops i).op.operands.toList.all s.vB=true:=by kernel_rfl) (hd:(opAt ops i).dst=some d:=by kernel_rfl) (hN:Nat.blt d N=true:=by kernel_rfl):SXi P N S0 w0 ops Q i s Φ:=sx_look d y hi hs hw hv hd hN hx K
end
section
variable {w w':World} {e:Ending} {l:List UInt8} {o:Option Sd}
end
theorem wrap_sm {z:Int} (h1 : -9223372036854775808≤z) (h2:z≤9223372036854775807):IntKind.i64.wrap z=z:=by
 rw [IntKind.wrap_i64]; omega
section
variable {A B:List UInt8} {D:Int} {p q:Rat}
end
section
variable {o o':Option Sd} {f:Sd→Sd→Value} {g:Sd→Value} {z:Value} {x y:Sd}
end
section
variable {w w':World} {e:Ending} {o o':Option Sd} {x y:Sd}
end
section
variable {A B:List UInt8} {d:Int} {R M:Nat} {p q:Rat}
end
end Go.Proofs.YtbgkofgoeoiciaaGreatDoor

namespace Go.Proofs.YtbgkofgoeoiciaaGreatDoor
open Go.RowKit
end Go.Proofs.YtbgkofgoeoiciaaGreatDoor

namespace Go.Proofs.YtbgkofgoeoiciaaGreatDoor
open Go.RowKit
theorem index_slash:∀ l:List UInt8,Lib.indexByte l 47=if (l.takeWhile notSlash).length < l.length then ((l.takeWhile notSlash).length:Int) else -1
 | []=>by simp [Lib.indexByte]
 | b :: l=>by
   have ih:=index_slash l
   unfold Lib.indexByte
   by_cases hb:b=47
   ·subst hb; simp [notSlash]
   ·have h1:(b == (47:UInt8))=false:=by simpa using hb
    have h2:notSlash b=true:=by simp [notSlash,hb]
    rw [h1,ih]
    simp only [List.takeWhile_cons,h2,List.length_cons,if_true,Bool.false_eq_true,if_false]
    generalize (l.takeWhile notSlash).length=k
    generalize l.length=n
    by_cases h3:k < n
    ·have h4:k + 1 < n + 1:=by omega
     have h5:(((k:Nat):Int) == -1)=false:=by simp
     rw [if_pos h4,if_pos h3]
     simp only [h5,Bool.false_eq_true,if_false]
     omega
    ·have h4:¬ k + 1 < n + 1:=by omega
     rw [if_neg h4,if_neg h3]
     rfl
theorem idx_eq {s:ByteArray} (h:bytes s=[47]):(0:Int)=Lib.indexByte (bytes s) 47:=by rw [h]; rfl
theorem slash_t {s:ByteArray} (h:bytes s=[47]):((⟨#[47]⟩:ByteArray).toList == s.toList)=true:=by
 rw [Lib.toList_data,Lib.toList_data,show s.data.toList=[47] from h]; rfl
theorem slash_f {s:ByteArray} (h:¬ bytes s=[47]):((⟨#[47]⟩:ByteArray).toList == s.toList)=false:=by
 rw [Lib.toList_data,Lib.toList_data]; exact beq_eq_false_iff_ne.2 (fun e=>h e.symm)
theorem pt_wrap {p:Nat} (h:p≤1000000):IntKind.i64.wrap (((p:Nat):Int) + ((⟨#[47]⟩:ByteArray).size:Int))=((p + 1:Nat):Int):=by
 rw [show (((⟨#[47]⟩:ByteArray).size:Nat):Int)=1 from rfl,IntKind.wrap_i64]; omega
theorem itoa_ns (z:Int):(Lib.itoa z).all notSlash=true:=by
 rcases Int.lt_or_le z 0 with h | h
 ·rw [itoa_neg h,List.all_append,dig_notSlash (dec_all _)]; rfl
 ·rw [show z=((z.toNat:Nat):Int) by omega,itoa_den]; exact dig_notSlash (dec_all _)
theorem parts_one {l:List UInt8} {q:Rat} (h:readF l=some q) (h1:q.den=1):l=Lib.itoa q.num∧l.length≤(l.takeWhile notSlash).length:=by
 have ht:ratText q=l:=text_of_read h
 have e:l=Lib.itoa q.num:=by rw [← ht]; unfold ratText; rw [if_pos h1]
 refine ⟨e,?_⟩
 have:=itoa_ns q.num
 rw [← e] at this
 rw [(takeWhile_all this).1]
 exact Nat.le_refl _
theorem parts_two {l:List UInt8} {q:Rat} (h:readF l=some q) (h1:¬ q.den=1):l.takeWhile notSlash=Lib.itoa q.num∧l.drop ((l.takeWhile notSlash).length + 1)=Lib.itoa (q.den:Int)∧(l.takeWhile notSlash).length < l.length:=by
 have ht:ratText q=l:=text_of_read h
 have e:l=Lib.itoa q.num ++ 47 :: Lib.itoa (q.den:Int):=by rw [← ht]; unfold ratText; rw [if_neg h1]; simp
 obtain ⟨e1,e2⟩:=takeWhile_stop (p:=notSlash) (r:=Lib.itoa (q.den:Int)) (c:=47) (itoa_ns q.num) (by decide)
 rw [← e] at e1 e2
 refine ⟨e1,?_,?_⟩
 ·rw [e1,e,← List.drop_drop,List.drop_left]; rfl
 ·rw [e1,e]; simp
theorem parts_zero:Ending.returned (.tuple #[.string ⟨#[48]⟩, .string ⟨#[49]⟩])=Ending.returned (.tuple #[.string ⟨(Lib.itoa (0:Rat).num).toArray⟩, .string ⟨(Lib.itoa ((0:Rat).den:Int)).toArray⟩]):=by
 rw [show (0:Rat).num=((0:Nat):Int) from rfl,show ((0:Rat).den:Int)=((1:Nat):Int) from rfl,itoa_dig (by decide),itoa_dig (by decide)]; rfl
theorem parts_whole (s:ByteArray):Ending.returned (.tuple #[.string s, .string ⟨#[49]⟩])=Ending.returned (.tuple #[.string ⟨(bytes s).toArray⟩, .string ⟨(Lib.itoa ((1:Nat):Int)).toArray⟩]):=by
 rw [itoa_dig (by decide)]; rfl
theorem int_txt' (x:Int):ratText ((x:Int):Rat)=Lib.itoa x:=by unfold ratText; exact if_pos rfl
theorem index_ret (s:ByteArray) (w:World):Calls Tryz.prog 310 #[.string s, .int .u8 (((47:UInt8).toNat:Nat):Int)] w (RetV w (.int .i64 (Lib.indexByte (bytes s) 47))):=by
 refine (Tryz.stringslite_IndexByte s (((47:UInt8).toNat:Nat):Int) w).mono ?_
 rintro e w' ⟨rfl,rfl⟩
 exact ⟨rfl,Fr.refl _ _⟩
set_option maxRecDepth 100000 in
theorem IndexSlash_any (s:ByteArray) (w:World) :
 Calls Tryz.prog 275 #[.string s, .string ⟨#[47]⟩] w (RetV w (.int .i64 (Lib.indexByte (bytes s) 47))):=by
 refine sx_enter (Φ:=fun w=>True) Tryz.func275 rfl (by kernel_rfl) (fun w' hf=>trivial) ?_
 refine sx_seq (sx_region (xr 1 [(0, .v (.string s)),(1, .v (.string ⟨#[47]⟩)),(4, .v (.int .i64 0))] [] ?_))
 refine xe (sx_next (sx_seq (sx_region (xr 2 [(0, .v (.string s)),(1, .v (.string ⟨#[47]⟩)),(4, .v (.int .i64 0)),(15, .v (.int .i64 ((⟨#[47]⟩:ByteArray).size:Int)))] [] ?_))))
 rw [(show (((⟨#[47]⟩:ByteArray).size:Nat):Int)=1 from rfl)]
 refine xr 1 [(0, .v (.string s)),(1, .v (.string ⟨#[47]⟩)),(4, .v (.int .i64 0)),(5, .v (.int .i64 1))] [] ?_
 refine xe (sx_next (sx_seq (sx_block (sx_seq ?_))))
 by_cases h47:bytes s=[47]
 ·refine sx_region (xr 6 [(0, .v (.string s)),(1, .v (.string ⟨#[47]⟩)),(4, .v (.int .i64 0)),(5, .v (.int .i64 1)),(19, .v (.bool false)),(22, .v (.bool ((⟨#[47]⟩:ByteArray).toList == (s:ByteArray).toList)))] [] ?_)
  rw [slash_t h47]
  refine xr 2 [(0, .v (.string s)),(1, .v (.string ⟨#[47]⟩)),(4, .v (.int .i64 0)),(5, .v (.int .i64 1)),(16, .v (.bool true))] [] ?_
  refine xe (sx_next (xa (sx_seq (sx_region (xr 1 [(0, .v (.string s)),(1, .v (.string ⟨#[47]⟩)),(4, .v (.int .i64 0)),(5, .v (.int .i64 1))] [] ?_)))))
  refine xe (sx_next (sx_ret (sx_in_ret (sx_then_ret ?_))))
  refine sx_done (v:=.int .i64 0) (by kernel_rfl) (fun w' hE hΦ=>?_)
  exact ⟨by rw [← idx_eq h47],hE⟩
 ·refine sx_region (xr 6 [(0, .v (.string s)),(1, .v (.string ⟨#[47]⟩)),(4, .v (.int .i64 0)),(5, .v (.int .i64 1)),(19, .v (.bool false)),(22, .v (.bool ((⟨#[47]⟩:ByteArray).toList == (s:ByteArray).toList)))] [] ?_)
  rw [slash_f h47]
  refine xr 2 [(0, .v (.string s)),(1, .v (.string ⟨#[47]⟩)),(4, .v (.int .i64 0)),(5, .v (.int .i64 1)),(16, .v (.bool false))] [] ?_
  refine xe (sx_next (xb (sx_seq (sx_region (xr 3 [(0, .v (.string s)),(1, .v (.string ⟨#[47]⟩)),(4, .v (.int .i64 0)),(5, .v (.int .i64 1)),(24, .v (.bool true))] [] ?_)))))
  refine xe (sx_next (xa (sx_seq (sx_region (xr 2 [(0, .v (.string s)),(1, .v (.string ⟨#[47]⟩)),(4, .v (.int .i64 0)),(5, .v (.int .i64 1)),(27, .v (.string s)),(28, .v (.string ⟨#[47]⟩))] [] ?_)))))
  refine sx_look 29 (.int .u8 (((47:UInt8).toNat:Nat):Int)) (by kernel_rfl) (by kernel_rfl) (by kernel_rfl) (by kernel_rfl) (by kernel_rfl) (by kernel_rfl) (fun w hE hΦ=>run_stridx' (c:=47) (b:=⟨#[47]⟩) (t:=9) (x:=.tmp 28) (k:=0) (i:=.const (.int .i64 0)) (by kernel_rfl) (by kernel_rfl) (by kernel_rfl) (by rfl) (by rfl)) ?_
  refine xr 0 [(0, .v (.string s)),(1, .v (.string ⟨#[47]⟩)),(4, .v (.int .i64 0)),(5, .v (.int .i64 1)),(27, .v (.string s)),(29, .v (.int .u8 (((47:UInt8).toNat:Nat):Int)))] [] ?_
  refine xc 310 [.string s, .int .u8 (((47:UInt8).toNat:Nat):Int)] 30 (fun _:Unit=>.int .i64 (Lib.indexByte (bytes s) 47)) _ (fun w hE hΦ=>(index_ret s _).mono (fun _ _ h=>post_val h rfl)) (fun xx=>?_)
  refine xr 1 [(0, .v (.string s)),(1, .v (.string ⟨#[47]⟩)),(4, .v (.int .i64 (Lib.indexByte (bytes s) 47))),(5, .v (.int .i64 1))] [] ?_
  refine xe (sx_next (sx_ret (sx_in_ret (sx_then_ret ?_))))
  refine sx_done (v:=.int .i64 (Lib.indexByte (bytes s) 47)) (by kernel_rfl) (fun w' hE hΦ=>?_)
  exact ⟨rfl,hE⟩
set_option maxRecDepth 100000 in
theorem CutSlash_yes (s x y:ByteArray) (p:Nat) (w:World) (h1:s.size≤100000) (hp:p=((bytes s).takeWhile notSlash).length) (hlt:p < s.size) (hx:s.extract 0 p=x) (hy:s.extract (p + 1) s.size=y) :
 Calls Tryz.prog 228 #[.string s, .string ⟨#[47]⟩] w (RetV w (.tuple #[.string x, .string y, .bool true])):=by
 have hlt':((bytes s).takeWhile notSlash).length < (bytes s).length:=by rw [← hp,bytes_length]; exact hlt
 refine sx_enter (Φ:=fun w=>True) Tryz.func228 rfl (by kernel_rfl) (fun w' hf=>trivial) ?_
 refine sx_seq (sx_region (xr 3 [(0, .v (.string s)),(1, .v (.string ⟨#[47]⟩)),(4, .v (.string ⟨#[]⟩)),(5, .v (.string ⟨#[]⟩)),(6, .v (.bool false))] [] ?_))
 refine xe (sx_next (sx_seq (sx_seq (sx_region (xr 2 [(0, .v (.string s)),(1, .v (.string ⟨#[47]⟩)),(4, .v (.string ⟨#[]⟩)),(5, .v (.string ⟨#[]⟩)),(6, .v (.bool false)),(8, .v (.string s)),(9, .v (.string ⟨#[47]⟩))] [] ?_)))))
 refine xc 275 [.string s, .string ⟨#[47]⟩] 10 (fun _:Unit=>.int .i64 ((p:Nat):Int)) _ (fun w hE hΦ=>(IndexSlash_any s _).mono (fun _ _ h=>post_val h (by rw [index_slash,if_pos hlt',← hp]))) (fun xx=>?_)
 refine xr 1 [(0, .v (.string s)),(1, .v (.string ⟨#[47]⟩)),(4, .v (.string ⟨#[]⟩)),(5, .v (.string ⟨#[]⟩)),(6, .v (.bool false)),(7, .v (.int .i64 ((p:Nat):Int)))] [] ?_
 refine xe (sx_next (sx_seq (sx_region (xr 2 [(0, .v (.string s)),(1, .v (.string ⟨#[47]⟩)),(4, .v (.string ⟨#[]⟩)),(5, .v (.string ⟨#[]⟩)),(6, .v (.bool false)),(7, .v (.int .i64 ((p:Nat):Int))),(12, .v (.bool (decide (((p:Nat):Int) ≥ 0))))] [] ?_))))
 rw [(show decide (((p:Nat):Int) ≥ 0)=true from decide_eq_true (by omega))]
 refine xr 0 [(0, .v (.string s)),(1, .v (.string ⟨#[47]⟩)),(4, .v (.string ⟨#[]⟩)),(5, .v (.string ⟨#[]⟩)),(6, .v (.bool false)),(7, .v (.int .i64 ((p:Nat):Int))),(12, .v (.bool true))] [] ?_
 refine xe (sx_next (xa (sx_seq ?_)))
 refine sx_draw 12 (by kernel_rfl) (by kernel_rfl) follows_mixed' ?_
 refine xf 2 [(0, .v (.string s)),(1, .v (.string ⟨#[47]⟩)),(4, .v (.string ⟨#[]⟩)),(5, .v (.string ⟨#[]⟩)),(6, .v (.bool false)),(7, .v (.int .i64 ((p:Nat):Int))),(13, .v (.string s)),(14, .v (.int .i64 ((p:Nat):Int)))] [] ?_
 refine st_look 15 (.string x) (by kernel_rfl) (by kernel_rfl) (by kernel_rfl) (by kernel_rfl) (by kernel_rfl) (by kernel_rfl) (fun w hΦ=>run_strslice 0 p (t:=9) (x:=(Operand.tmp 13)) (lo:=none) (hi:=(some (Operand.tmp 14))) (by kernel_rfl) (by kernel_rfl) (by kernel_rfl) (Or.inl ⟨rfl,rfl⟩) (Or.inr (by kernel_rfl)) (by omega) (by omega) hx) ?_
 refine xf 5 [(0, .v (.string s)),(4, .v (.string ⟨#[]⟩)),(5, .v (.string ⟨#[]⟩)),(6, .v (.bool false)),(15, .v (.string x)),(16, .v (.string s)),(20, .v (.int .i64 (IntKind.i64.wrap (((p:Nat):Int) + ((⟨#[47]⟩:ByteArray).size:Int)))))] [] ?_
 rw [pt_wrap (p:=p) (by omega)]
 refine st_look 21 (.string y) (by kernel_rfl) (by kernel_rfl) (by kernel_rfl) (by kernel_rfl) (by kernel_rfl) (by kernel_rfl) (fun w hΦ=>run_strslice (p + 1) _ (t:=9) (x:=(Operand.tmp 16)) (lo:=(some (Operand.tmp 20))) (hi:=none) (by kernel_rfl) (by kernel_rfl) (by kernel_rfl) (Or.inr (by kernel_rfl)) (Or.inl ⟨rfl,rfl⟩) (by omega) (Nat.le_refl _) hy) ?_
 refine xf 3 [(0, .v (.string s)),(4, .v (.string x)),(5, .v (.string y)),(6, .v (.bool true))] [] ?_
 refine xz (xe (sx_next (sx_ret (sx_then_ret ?_))))
 refine sx_done (v:=.tuple #[.string x, .string y, .bool true]) (by kernel_rfl) (fun w' hE hΦ=>?_)
 exact ⟨rfl,hE⟩
set_option maxRecDepth 100000 in
theorem CutSlash_no (s:ByteArray) (w:World) (hlt':¬ ((bytes s).takeWhile notSlash).length < (bytes s).length) :
 Calls Tryz.prog 228 #[.string s, .string ⟨#[47]⟩] w (RetV w (.tuple #[.string s, .string ⟨#[]⟩, .bool false])):=by
 refine sx_enter (Φ:=fun w=>True) Tryz.func228 rfl (by kernel_rfl) (fun w' hf=>trivial) ?_
 refine sx_seq (sx_region (xr 3 [(0, .v (.string s)),(1, .v (.string ⟨#[47]⟩)),(4, .v (.string ⟨#[]⟩)),(5, .v (.string ⟨#[]⟩)),(6, .v (.bool false))] [] ?_))
 refine xe (sx_next (sx_seq (sx_seq (sx_region (xr 2 [(0, .v (.string s)),(1, .v (.string ⟨#[47]⟩)),(4, .v (.string ⟨#[]⟩)),(5, .v (.string ⟨#[]⟩)),(6, .v (.bool false)),(8, .v (.string s)),(9, .v (.string ⟨#[47]⟩))] [] ?_)))))
 refine xc 275 [.string s, .string ⟨#[47]⟩] 10 (fun _:Unit=>.int .i64 (-1)) _ (fun w hE hΦ=>(IndexSlash_any s _).mono (fun _ _ h=>post_val h (by rw [index_slash,if_neg hlt']))) (fun xx=>?_)
 refine xr 1 [(0, .v (.string s)),(1, .v (.string ⟨#[47]⟩)),(4, .v (.string ⟨#[]⟩)),(5, .v (.string ⟨#[]⟩)),(6, .v (.bool false)),(7, .v (.int .i64 (-1)))] [] ?_
 refine xe (sx_next (sx_seq (sx_region (xr 2 [(0, .v (.string s)),(1, .v (.string ⟨#[47]⟩)),(4, .v (.string ⟨#[]⟩)),(5, .v (.string ⟨#[]⟩)),(6, .v (.bool false)),(7, .v (.int .i64 (-1))),(12, .v (.bool false))] [] ?_))))
 refine xe (sx_next (xb (sx_skip (sx_next (sx_seq (sx_region (xr 4 [(4, .v (.string s)),(5, .v (.string ⟨#[]⟩)),(6, .v (.bool false))] [] ?_)))))))
 refine xe (sx_next (sx_ret ?_))
 refine sx_done (v:=.tuple #[.string s, .string ⟨#[]⟩, .bool false]) (by kernel_rfl) (fun w' hE hΦ=>?_)
 exact ⟨rfl,hE⟩
set_option maxRecDepth 100000 in
theorem StrCut_yes (s x y:ByteArray) (p:Nat) (w:World) (h1:s.size≤100000) (hp:p=((bytes s).takeWhile notSlash).length) (hlt:p < s.size) (hx:s.extract 0 p=x) (hy:s.extract (p + 1) s.size=y) :
 Calls Tryz.prog 162 #[.string s, .string ⟨#[47]⟩] w (RetV w (.tuple #[.string x, .string y, .bool true])):=by
 refine sx_enter (Φ:=fun w=>True) Tryz.func162 rfl (by kernel_rfl) (fun w' hf=>trivial) ?_
 refine sx_seq (sx_region (xr 3 [(0, .v (.string s)),(1, .v (.string ⟨#[47]⟩)),(4, .v (.string ⟨#[]⟩)),(5, .v (.string ⟨#[]⟩)),(6, .v (.bool false))] [] ?_))
 refine xe (sx_next (sx_seq (sx_region (xr 2 [(4, .v (.string ⟨#[]⟩)),(5, .v (.string ⟨#[]⟩)),(6, .v (.bool false)),(7, .v (.string s)),(8, .v (.string ⟨#[47]⟩))] [] ?_))))
 refine xc 228 [.string s, .string ⟨#[47]⟩] 9 (fun _:Unit=>.tuple #[.string x, .string y, .bool true]) _ (fun w hE hΦ=>(CutSlash_yes s x y p _ h1 hp hlt hx hy).mono (fun _ _ h=>post_val h rfl)) (fun xx=>?_)
 refine xr 6 [(4, .v (.string x)),(5, .v (.string y)),(6, .v (.bool true))] [] ?_
 refine xe (sx_next (sx_ret ?_))
 refine sx_done (v:=.tuple #[.string x, .string y, .bool true]) (by kernel_rfl) (fun w' hE hΦ=>?_)
 exact ⟨rfl,hE⟩
set_option maxRecDepth 100000 in
theorem StrCut_no (s:ByteArray) (w:World) (hlt':¬ ((bytes s).takeWhile notSlash).length < (bytes s).length) :
 Calls Tryz.prog 162 #[.string s, .string ⟨#[47]⟩] w (RetV w (.tuple #[.string s, .string ⟨#[]⟩, .bool false])):=by
 refine sx_enter (Φ:=fun w=>True) Tryz.func162 rfl (by kernel_rfl) (fun w' hf=>trivial) ?_
 refine sx_seq (sx_region (xr 3 [(0, .v (.string s)),(1, .v (.string ⟨#[47]⟩)),(4, .v (.string ⟨#[]⟩)),(5, .v (.string ⟨#[]⟩)),(6, .v (.bool false))] [] ?_))
 refine xe (sx_next (sx_seq (sx_region (xr 2 [(4, .v (.string ⟨#[]⟩)),(5, .v (.string ⟨#[]⟩)),(6, .v (.bool false)),(7, .v (.string s)),(8, .v (.string ⟨#[47]⟩))] [] ?_))))
 refine xc 228 [.string s, .string ⟨#[47]⟩] 9 (fun _:Unit=>.tuple #[.string s, .string ⟨#[]⟩, .bool false]) _ (fun w hE hΦ=>(CutSlash_no s _ hlt').mono (fun _ _ h=>post_val h rfl)) (fun xx=>?_)
 refine xr 6 [(4, .v (.string s)),(5, .v (.string ⟨#[]⟩)),(6, .v (.bool false))] [] ?_
 refine xe (sx_next (sx_ret ?_))
 refine sx_done (v:=.tuple #[.string s, .string ⟨#[]⟩, .bool false]) (by kernel_rfl) (fun w' hE hΦ=>?_)
 exact ⟨rfl,hE⟩
set_option maxRecDepth 100000 in
theorem TParts_any (s:ByteArray) (w:World) (hg:Glob w) (hs:(bytes s).length≤570) :
 Calls Tryz.prog 67 #[.string s] w (RetV w (.tuple #[.string ⟨(Lib.itoa (valF (bytes s)).num).toArray⟩, .string ⟨(Lib.itoa ((valF (bytes s)).den:Int)).toArray⟩])):=by
 refine sx_enter (Φ:=fun w=>Glob w) Tryz.func67 rfl (by kernel_rfl) (fun w' hf=>hg.ext hf) ?_
 refine sx_seq (sx_region (xr 2 [(0, .v (.string s)),(2, .v (.string ⟨#[]⟩)),(3, .v (.string ⟨#[]⟩))] [] ?_))
 refine xe (sx_next (sx_seq (sx_seq (sx_region (xr 1 [(0, .v (.string s)),(2, .v (.string ⟨#[]⟩)),(3, .v (.string ⟨#[]⟩)),(7, .v (.string s))] [] ?_)))))
 by_cases hv:(readF (bytes s)).isSome=true
 ·obtain ⟨q,hq⟩:=Option.isSome_iff_exists.1 hv
  have hV:=valF_some hq
  refine xc 66 [.string s] 8 (fun _:Unit=>.bool true) _ (fun w hE hΦ=>(Valid_any s _ hΦ hs).mono (fun _ _ h=>post_val h (by rw [hv]))) (fun xx=>?_)
  refine xr 1 [(0, .v (.string s)),(2, .v (.string ⟨#[]⟩)),(3, .v (.string ⟨#[]⟩)),(9, .v (.bool false))] [] ?_
  refine xe (sx_next (xb (sx_skip (sx_next (sx_seq (sx_region (xr 1 [(2, .v (.string ⟨#[]⟩)),(3, .v (.string ⟨#[]⟩)),(11, .v (.string s))] [] ?_)))))))
  by_cases hd1:q.den=1
  ·refine xc 162 [.string s, .string ⟨#[47]⟩] 12 (fun _:Unit=>.tuple #[.string s, .string ⟨#[]⟩, .bool false]) _ (fun w hE hΦ=>(StrCut_no s _ (by have:=(parts_one hq hd1).2; omega)).mono (fun _ _ h=>post_val h rfl)) (fun xx=>?_)
   refine xr 7 [(2, .v (.string ⟨#[]⟩)),(3, .v (.string ⟨#[]⟩)),(4, .v (.string s)),(5, .v (.string ⟨#[]⟩)),(6, .v (.bool false))] [] ?_
   refine xe (sx_next (sx_seq (sx_seq (sx_region (xr 2 [(2, .v (.string ⟨#[]⟩)),(3, .v (.string ⟨#[]⟩)),(4, .v (.string s)),(5, .v (.string ⟨#[]⟩)),(17, .v (.bool true))] [] ?_)))))
   refine xe (sx_next (xa (sx_seq (sx_region (xr 3 [(2, .v (.string s)),(3, .v (.string ⟨#[49]⟩)),(4, .v (.string s)),(5, .v (.string ⟨#[]⟩))] [] ?_)))))
   refine xe (sx_next (sx_ret (sx_then_ret ?_)))
   refine sx_done (v:=.tuple #[.string s, .string ⟨#[49]⟩]) (by kernel_rfl) (fun w' hE hΦ=>?_)
   exact ⟨by rw [hV,hd1,← (parts_one hq hd1).1]; exact parts_whole s,hE⟩
  ·obtain ⟨e1,e2,e3⟩:=parts_two hq hd1
   obtain ⟨p,hp⟩:∃ p,p=((bytes s).takeWhile notSlash).length:=⟨_,rfl⟩
   rw [← hp] at e2 e3
   have hpl:p < s.size:=by rw [← bytes_length]; exact e3
   obtain ⟨x,hx⟩:∃ x,s.extract 0 p=x:=⟨_,rfl⟩
   obtain ⟨y,hy⟩:∃ y,s.extract (p + 1) s.size=y:=⟨_,rfl⟩
   have hX:x=⟨(Lib.itoa (q.num)).toArray⟩:=str_ext (by rw [← hx,(cut_at hp).1,e1,bytes_of])
   have hY:y=⟨(Lib.itoa (q.den:Int)).toArray⟩:=str_ext (by rw [← hy,(cut_at hp).2,e2,bytes_of])
   refine xc 162 [.string s, .string ⟨#[47]⟩] 12 (fun _:Unit=>.tuple #[.string x, .string y, .bool true]) _ (fun w hE hΦ=>(StrCut_yes s x y p _ (by rw [← bytes_length]; omega) hp hpl hx hy).mono (fun _ _ h=>post_val h rfl)) (fun xx=>?_)
   refine xr 7 [(2, .v (.string ⟨#[]⟩)),(3, .v (.string ⟨#[]⟩)),(4, .v (.string x)),(5, .v (.string y)),(6, .v (.bool true))] [] ?_
   refine xe (sx_next (sx_seq (sx_seq (sx_region (xr 2 [(2, .v (.string ⟨#[]⟩)),(3, .v (.string ⟨#[]⟩)),(4, .v (.string x)),(5, .v (.string y)),(17, .v (.bool false))] [] ?_)))))
   refine xe (sx_next (xb (sx_skip (sx_next (sx_seq (sx_region (xr 4 [(2, .v (.string x)),(3, .v (.string y))] [] ?_)))))))
   refine xe (sx_next (sx_ret ?_))
   refine sx_done (v:=.tuple #[.string x, .string y]) (by kernel_rfl) (fun w' hE hΦ=>?_)
   exact ⟨by rw [hV,hX,hY],hE⟩
 ·have hV:valF (bytes s)=0:=valF_none (by cases h:readF (bytes s) with | none=>rfl | some q=>rw [h] at hv; exact absurd rfl hv)
  refine xc 66 [.string s] 8 (fun _:Unit=>.bool false) _ (fun w hE hΦ=>(Valid_any s _ hΦ hs).mono (fun _ _ h=>post_val h (by rw [Bool.eq_false_iff.2 hv]))) (fun xx=>?_)
  refine xr 1 [(0, .v (.string s)),(2, .v (.string ⟨#[]⟩)),(3, .v (.string ⟨#[]⟩)),(9, .v (.bool true))] [] ?_
  refine xe (sx_next (xa (sx_seq (sx_region (xr 2 [(0, .v (.string s)),(2, .v (.string ⟨#[48]⟩)),(3, .v (.string ⟨#[49]⟩))] [] ?_)))))
  refine xe (sx_next (sx_ret (sx_then_ret ?_)))
  refine sx_done (v:=.tuple #[.string ⟨#[48]⟩, .string ⟨#[49]⟩]) (by kernel_rfl) (fun w' hE hΦ=>?_)
  exact ⟨by rw [hV]; exact parts_zero,hE⟩
end Go.Proofs.YtbgkofgoeoiciaaGreatDoor
