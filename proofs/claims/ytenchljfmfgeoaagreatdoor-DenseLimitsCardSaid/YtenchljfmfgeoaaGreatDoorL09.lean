/-
 My texts GlobP, GlobF put together.
-/
import Derived.Test.YtenchljfmfgeoaaGreatDoorRows
import Derived.Test.YtenchljfmfgeoaaGreatDoorL08
import Derived.ProofKit
import Derived.LaidMore
import Derived.OpenShut
import Derived.Stop.Joined
set_option maxRecDepth 100000
namespace Go.Proofs.YtenchljfmfgeoaaGreatDoor
open Go.ChangeShapes Go.WideShapes Go.ChangeAt Go.RowKit
theorem own:ownKnob Tryz.prog.godebug=none:=by kernel_rfl
theorem gDb : Tryz.prog.globalNamed "math/bits.deBruijn64tab" = some 2 := by kernel_rfl
theorem gPw : Tryz.prog.globalNamed "internal/strconv.uint64pow10" = some 3 := by kernel_rfl
theorem tDb:(Tryz.prog.globals[2]?).map (·.type)=some 266:=by kernel_rfl
theorem tPw:(Tryz.prog.globals[3]?).map (·.type)=some 268:=by kernel_rfl
end Go.Proofs.YtenchljfmfgeoaaGreatDoor

namespace Go.Proofs.YtenchljfmfgeoaaGreatDoor
open Go.ChangeShapes Go.WideShapes Go.ChangeAt Go.RowKit
abbrev ZiB : List (String × DataW Unit) := [("math/bits.deBruijn32tab", Rows.laid_math_bits_deBruijn32tab), ("math/bits.deBruijn64tab", Rows.laid_math_bits_deBruijn64tab), ("internal/strconv.uint64pow10", Rows.laid_internal_strconv_uint64pow10), ("strconv.ErrRange", Rows.laid_strconv_ErrRange), ("strconv.ErrSyntax", Rows.laid_strconv_ErrSyntax)]
theorem Zof (os:Os) (args:Array Value):laidMetH Tryz.prog ZiB ((World.doorLaid Tryz.prog 400 os).forCall (fun _ _=>0) ⟨#[],args,[]⟩).memory :=
 laidMetH_of_parts3 (fuel:=8) (laidMet_of_run' 8 (by kernel_rfl) (by kernel_rfl)) (by kernel_rfl) (by kernel_rfl)
theorem Zkk {W:World} (h:laidMetH Tryz.prog ZiB W):Glob W:=by
 rw [MakeChecks.laidMetH_plain _ _ _ (by kernel_rfl)] at h
 obtain ⟨ps,⟨g0,t0,cs0,f0,p0,q0,hg0,ht0,hv0,hd0,⟨g1,t1,cs1,f1,p1,q1,hg1,ht1,hv1,hd1,⟨g2,t2,cs2,f2,p2,q2,hg2,ht2,hv2,hd2,_,_⟩,_⟩,_⟩,_,_⟩:=h
 obtain rfl:=Option.some.inj (gDb.symm.trans hg1)
 obtain rfl:=Option.some.inj (gPw.symm.trans hg2)
 obtain rfl:=Option.some.inj (tDb.symm.trans ht1)
 obtain rfl:=Option.some.inj (tPw.symm.trans ht2)
 have e1:(Rows.laid_math_bits_deBruijn64tab:DataW Unit)=Lib.tabData .u8 db64:=by rfl
 have e2:(Rows.laid_internal_strconv_uint64pow10:DataW Unit)=Lib.tabData .u64 Lib.pow10Tab:=by rfl
 rw [e1] at hd1
 rw [e2] at hd2
 constructor
 ·unfold Lib.TabIs
  rw [hv2,← Lib.cells_of_tab Tryz.underlying268 Tryz.underlying141 (by kernel_rfl) (by kernel_rfl) hd2]
 ·unfold Lib.TabIs
  rw [hv1,← Lib.cells_of_tab Tryz.underlying266 Tryz.underlying5 (by kernel_rfl) (by kernel_rfl) hd1]
end Go.Proofs.YtenchljfmfgeoaaGreatDoor
