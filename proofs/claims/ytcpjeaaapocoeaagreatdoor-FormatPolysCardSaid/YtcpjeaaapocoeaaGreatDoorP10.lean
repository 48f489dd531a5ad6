/-
 My texts GlobP7 put together.
-/
import Derived.Test.YtcpjeaaapocoeaaGreatDoorP09
import Derived.Stop.LaidErr
import Derived.Lay
set_option maxRecDepth 100000
namespace Go.Proofs.YtcpjeaaapocoeaaGreatDoor
open Go.ChangeShapes Go.WideShapes Go.ChangeAt Go.RowKit
abbrev ZfA : List (String × DataW Unit) := [("math/bits.deBruijn32tab", Rows.laid_math_bits_deBruijn32tab), ("math/bits.deBruijn64tab", Rows.laid_math_bits_deBruijn64tab), ("internal/strconv.uint64pow10", Rows.laid_internal_strconv_uint64pow10), ("unicode/utf8.acceptRanges", Rows.laid_unicode_utf8_acceptRanges), ("strconv.ErrRange", Rows.laid_strconv_ErrRange), ("strconv.ErrSyntax", Rows.laid_strconv_ErrSyntax), ("unicode/utf8.first", Rows.laid_unicode_utf8_first)]
theorem ZnW (os:Os) (args:Array Value):laidMetH Tryz.prog ZfA ((World.laidAll Tryz.prog os ZfA).forCall (fun _ _=>0) ⟨#[],args,[]⟩).memory:=by
 rw [MakeChecks.laidMetH_plain _ _ _ (by kernel_rfl)]; exact laidMet_laidAll _ (by kernel_rfl) (by kernel_rfl)
theorem Zkg {W:World} (h:laidMetH Tryz.prog ZfA W):Glob W:=by
 rw [MakeChecks.laidMetH_plain _ _ _ (by kernel_rfl)] at h
 obtain ⟨ps,⟨g0,t0,cs0,f0,p0,q0,hg0,ht0,hv0,hd0,⟨g1,t1,cs1,f1,p1,q1,hg1,ht1,hv1,hd1,⟨g2,t2,cs2,f2,p2,q2,hg2,ht2,hv2,hd2,_,_⟩,_⟩,_⟩,_,_⟩:=h
 obtain rfl:=Option.some.inj (gDb.symm.trans hg1)
 obtain rfl:=Option.some.inj (gPw.symm.trans hg2)
 obtain rfl:=Option.some.inj (tDb.symm.trans ht1)
 obtain rfl:=Option.some.inj (tPw.symm.trans ht2)
 have e1:(Rows.laid_math_bits_deBruijn64tab:DataW Unit)=Lib.tabData .u8 db64:=by rfl
 have e2:(Rows.laid_internal_strconv_uint64pow10:DataW Unit)=Lib.tabData .u64 Lib.pow10Tab:=by rfl
 rw [e1] at hd1
 rw [e2] at hd2
 constructor
 ·unfold Lib.TabIs
  rw [hv2,← Lib.cells_of_tab Tryz.underlying440 Tryz.underlying217 (by kernel_rfl) (by kernel_rfl) hd2]
 ·unfold Lib.TabIs
  rw [hv1,← Lib.cells_of_tab Tryz.underlying448 Tryz.underlying5 (by kernel_rfl) (by kernel_rfl) hd1]
end Go.Proofs.YtcpjeaaapocoeaaGreatDoor
