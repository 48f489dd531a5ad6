/-
 My texts GlobP put together.
-/
import Derived.Test.YtcpjeaaapocoeaaGreatDoorRows
import Derived.Test.YtcpjeaaapocoeaaGreatDoorP08
import Derived.ProofKit
import Derived.LaidMore
import Derived.OpenShut
import Derived.Stop.Joined
set_option maxRecDepth 100000
namespace Go.Proofs.YtcpjeaaapocoeaaGreatDoor
open Go.ChangeShapes Go.WideShapes Go.ChangeAt Go.RowKit
abbrev Zri : List (String × DataW Unit) := [("math/bits.deBruijn32tab", Rows.laid_math_bits_deBruijn32tab), ("math/bits.deBruijn64tab", Rows.laid_math_bits_deBruijn64tab), ("internal/strconv.uint64pow10", Rows.laid_internal_strconv_uint64pow10)]
theorem own:ownKnob Tryz.prog.godebug=none:=by kernel_rfl
theorem gDb : Tryz.prog.globalNamed "math/bits.deBruijn64tab" = some 1 := by kernel_rfl
theorem gPw : Tryz.prog.globalNamed "internal/strconv.uint64pow10" = some 0 := by kernel_rfl
theorem tDb:(Tryz.prog.globals[1]?).map (·.type)=some 448:=by kernel_rfl
theorem tPw:(Tryz.prog.globals[0]?).map (·.type)=some 440:=by kernel_rfl
theorem ZqV {W:World} (h:laidMetH Tryz.prog Zri W):Glob W:=by
 rw [MakeChecks.laidMetH_plain _ _ _ (by kernel_rfl)] at h
 obtain ⟨ps,⟨g0,t0,cs0,f0,p0,q0,hg0,ht0,hv0,hd0,⟨g1,t1,cs1,f1,p1,q1,hg1,ht1,hv1,hd1,⟨g2,t2,cs2,f2,p2,q2,hg2,ht2,hv2,hd2,_,_⟩,_⟩,_⟩,_,_⟩:=h
 obtain rfl:=Option.some.inj (gDb.symm.trans hg1)
 obtain rfl:=Option.some.inj (gPw.symm.trans hg2)
 obtain rfl:=Option.some.inj (tDb.symm.trans ht1)
 obtain rfl:=Option.some.inj (tPw.symm.trans ht2)
 have e1:(Rows.laid_math_bits_deBruijn64tab:DataW Unit)=Lib.tabData .u8 db64:=by rfl
 have e2:(Rows.laid_internal_strconv_uint64pow10:DataW Unit)=Lib.tabData .u64 Lib.pow10Tab:=by rfl
 rw [e1] at hd1
 rw [e2] at hd2
 constructor
 ·unfold Lib.TabIs
  rw [hv2,← Lib.cells_of_tab Tryz.underlying440 Tryz.underlying217 (by kernel_rfl) (by kernel_rfl) hd2]
 ·unfold Lib.TabIs
  rw [hv1,← Lib.cells_of_tab Tryz.underlying448 Tryz.underlying5 (by kernel_rfl) (by kernel_rfl) hd1]
end Go.Proofs.YtcpjeaaapocoeaaGreatDoor
