/-
 My texts GlobP put together.
-/
import Derived.Test.YtoanifijmlgcgaaGreatDoorRows
import Derived.Test.YtoanifijmlgcgaaGreatDoorD08
import Derived.ProofKit
import Derived.LaidMore
import Derived.OpenShut
import Derived.Stop.Joined
set_option maxRecDepth 100000
set_option maxHeartbeats 8000000
namespace Go.Proofs.YtoanifijmlgcgaaGreatDoor
open Go.ChangeShapes Go.WideShapes Go.ChangeAt Go.RowKit
abbrev ZdX : List (String × DataW Unit) := [("math/bits.deBruijn32tab", Rows.laid_math_bits_deBruijn32tab), ("math/bits.deBruijn64tab", Rows.laid_math_bits_deBruijn64tab), ("internal/strconv.uint64pow10", Rows.laid_internal_strconv_uint64pow10)]
theorem own:ownKnob Tryz.prog.godebug=none:=by kernel_rfl
theorem gDb : Tryz.prog.globalNamed "math/bits.deBruijn64tab" = some 6 := by kernel_rfl
theorem gPw : Tryz.prog.globalNamed "internal/strconv.uint64pow10" = some 0 := by kernel_rfl
theorem tDb:(Tryz.prog.globals[6]?).map (·.type)=some 430:=by kernel_rfl
theorem tPw:(Tryz.prog.globals[0]?).map (·.type)=some 400:=by kernel_rfl
theorem Zk2 (os:Os)(a:Array Value):laidMetH Tryz.prog ZdX ((World.doorLaid Tryz.prog 400 os).forCall (fun _ _=>0) ⟨#[],a,[]⟩).memory :=
 laidMetH_of_parts3 (fuel:=8) (laidMet_of_run' 8 (by kernel_rfl) (by kernel_rfl)) (by kernel_rfl) (by kernel_rfl)
theorem Zgt {W:World}(h:laidMetH Tryz.prog ZdX W):Glob W:=by
 rw[MakeChecks.laidMetH_plain _ _ _ (by kernel_rfl)] at h
 obtain⟨s,⟨t,u,j,v,w,x,k,l,m,n,⟨y,z,o,A,B,C,c,d,e,a,⟨D,E,p,F,G,H,f,g,i,b,_,_⟩,_⟩,_⟩,_,_⟩:=h
 obtain rfl:=sN (gDb.symm.trans c)
 obtain rfl:=sN (gPw.symm.trans f)
 obtain rfl:=sN (tDb.symm.trans d)
 obtain rfl:=sN (tPw.symm.trans g)
 have q:(Rows.laid_math_bits_deBruijn64tab:DataW Unit)=Lib.tabData .u8 db64:=by rfl
 have r:(Rows.laid_internal_strconv_uint64pow10:DataW Unit)=Lib.tabData .u64 Lib.pow10Tab:=by rfl
 rw[q] at a
 rw[r] at b
 constructor
 ·unfold Lib.TabIs
  rw[i,← Lib.cells_of_tab Tryz.underlying400 Tryz.underlying297 (by kernel_rfl) (by kernel_rfl) b]
 unfold Lib.TabIs
 rw[e,← Lib.cells_of_tab Tryz.underlying430 Tryz.underlying5 (by kernel_rfl) (by kernel_rfl) a]
end Go.Proofs.YtoanifijmlgcgaaGreatDoor
