/-
 My texts.
-/
import Derived.Test.YtmpffakfhcpjoaaGreatDoorRows
import Derived.Test.YtmpffakfhcpjoaaGreatDoorF08
import Derived.ProofKit
import Derived.LaidMore
import Derived.OpenShut
import Derived.Stop.Joined
set_option maxRecDepth 100000
set_option maxHeartbeats 8000000
namespace Go.Proofs.YtmpffakfhcpjoaaGreatDoor
open Go.ChangeShapes Go.WideShapes Go.ChangeAt Go.RowKit
theorem own:ownKnob Tryz.prog.godebug=none:=qK
theorem gDb : Tryz.prog.globalNamed "math/bits.deBruijn64tab" = some 2 := by kernel_rfl
theorem gPw : Tryz.prog.globalNamed "internal/strconv.uint64pow10" = some 3 := by kernel_rfl
theorem tDb:(Tryz.prog.globals[2]?).map (·.type)=some 235:=qK
theorem tPw:(Tryz.prog.globals[3]?).map (·.type)=some 237:=qK
end Go.Proofs.YtmpffakfhcpjoaaGreatDoor
namespace Go.Proofs.YtmpffakfhcpjoaaGreatDoor
open Go.ChangeShapes Go.WideShapes Go.ChangeAt Go.RowKit
abbrev Zgf : List (String × DataW Unit) := [("math/bits.deBruijn32tab", Rows.laid_math_bits_deBruijn32tab), ("math/bits.deBruijn64tab", Rows.laid_math_bits_deBruijn64tab), ("internal/strconv.uint64pow10", Rows.laid_internal_strconv_uint64pow10), ("strconv.ErrRange", Rows.laid_strconv_ErrRange), ("strconv.ErrSyntax", Rows.laid_strconv_ErrSyntax)]
theorem Zoa (os:Os)(args:Array Value):laidMetH Tryz.prog Zgf ((World.doorLaid Tryz.prog 400 os).forCall (fun _ _=>0) ⟨#[],args,[]⟩).memory :=
 laidMetH_of_parts3 (fuel:=8) (laidMet_of_run' 8 qK qK) qK qK
theorem ZiP {W:World}(h:laidMetH Tryz.prog Zgf W):Glob W:=by
 rw[MakeChecks.laidMetH_plain _ _ _ qK] at h
 obtain⟨s,⟨t,u,j,v,w,x,k,l,m,n,⟨y,t1,o,z,A,B,c,d,e,a,⟨C,D,p,E,p2,F,f,g,i,b,_,_⟩,_⟩,_⟩,_,_⟩:=h
 obtain rfl:=pR (gDb.symm.trans c)
 obtain rfl:=pR (gPw.symm.trans f)
 obtain rfl:=pR (tDb.symm.trans d)
 obtain rfl:=pR (tPw.symm.trans g)
 have q:(Rows.laid_math_bits_deBruijn64tab:DataW Unit)=Lib.tabData .u8 db64:=by rfl
 have r:(Rows.laid_internal_strconv_uint64pow10:DataW Unit)=Lib.tabData .u64 Lib.pow10Tab:=by rfl
 rw[q] at a
 rw[r] at b
 constructor
 ·unfold Lib.TabIs
  rw[i,← Lib.cells_of_tab Tryz.underlying237 Tryz.underlying84 qK qK b]
 unfold Lib.TabIs
 rw[e,← Lib.cells_of_tab Tryz.underlying235 Tryz.underlying5 qK qK a]
end Go.Proofs.YtmpffakfhcpjoaaGreatDoor
