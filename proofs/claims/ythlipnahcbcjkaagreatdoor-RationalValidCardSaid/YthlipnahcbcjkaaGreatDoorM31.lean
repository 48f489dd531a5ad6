/-
 My texts CprL, NumL put together.
-/
import Derived.Test.YthlipnahcbcjkaaGreatDoorM29
import Derived.Test.YthlipnahcbcjkaaGreatDoorM30
import Derived.Test.YthlipnahcbcjkaaGreatDoorM16
import Derived.Test.YthlipnahcbcjkaaGreatDoorM12
import Derived.Test.YthlipnahcbcjkaaGreatDoorM26
import Derived.Test.YthlipnahcbcjkaaGreatDoorM11
set_option maxRecDepth 100000
namespace Go.Proofs.YthlipnahcbcjkaaGreatDoor
open Go.RowKit
end Go.Proofs.YthlipnahcbcjkaaGreatDoor

namespace Go.Proofs.YthlipnahcbcjkaaGreatDoor
open Go.RowKit
def RetR (w:World) (z:Int) (e:Ending) (w':World):Prop:=∃ s A l c,e=.returned (.agg #[.bool s, .slice A l c, .bool false, .slice none 0 0])∧Zap w' (.agg #[.bool s, .slice A l c]) z∧Ext w w'
theorem Zas.other {t:TypeId} {w w':World} {r n:Nat} {u:Value} {cs:Array Value} (h:Zas w u n) (hB:Blk t w r cs) (hc:∀ (i:Nat) (k:Int),cs[i]? ≠ some (.int .u32 k)) (hF:Fr (fun i=>i=r) w w'):Zas w' u n:=by
 obtain ⟨B,xs,c,rfl,hc0,hX,hd,ht,hv⟩:=h
 refine ⟨B,xs,c,rfl,hc0,?_,hd,ht,hv⟩
 by_cases hne:xs=[]
 ·subst hne; exact Zar.nil
 ·obtain ⟨b,off,rfl,hb,hcs⟩:=hX hne
  refine hX.fr hF (fun a ha _ hs=>?_)
  injection ha with ha; subst ha
  have h0:=hcs 0 (List.length_pos_iff.2 hne)
  simp only at hs
  subst hs
  have h1:=hB.cell (off + 0)
  rw [h0] at h1
  exact hc _ _ h1.symm
set_option maxHeartbeats 1000000 in
theorem Zuv (z:Int) (w:World) (h1 : -9223372036854775808≤z) (h2:z≤9223372036854775807):Calls Tryz.prog 39 #[.int .i64 z] w (RetR w z):=by
 have H:=zh (fun W=>ZeN z W h1 h2)
 go_enter Tryz.func39,Tryz.ntmps39
 go_wp2_with fail
 generalize hwb:World.alloc w _=wb
 obtain ⟨hB0,hE0⟩:=Blk.one hwb
 clear hwb
 refine (H.out _).mono ?_
 rintro e w1 ⟨v,rfl,hI,hF1⟩
 obtain ⟨s,A,l,c,rfl,hM,hs,hs0⟩:=hI.open
 have HB:=zh (hB0.ext hF1)
 have HE:=zh (hE0.trans hF1)
 have HM:=zh hM
 have HS:=zh hs
 have HS0:=zh hs0
 obtain ⟨y0,y1,y2,y3,y4,y5,y6,y7⟩:=(hB0.ext hF1).cell4
 clear hB0 hE0 hF1 hI hM hs hs0
 generalize hr:w.heap.size=r at *
 have HR:=zh hr
 clear hr
 go_wp2
 have hB2:=HB.out.put4 (.bool s) (.slice A l c) (.bool false) (.slice none 0 0)
 have hF2:Fr (fun i=>i=r) w1 ((((w1.setCell ⟨r,0,none⟩ (.bool s)).setCell ⟨r,1,none⟩ (.slice A l c)).setCell ⟨r,2,none⟩ (.bool false)).setCell ⟨r,3,none⟩ (.slice none 0 0)):=Fr.set4 _ _ _ _
 obtain ⟨k0,k1,k2,k3,_⟩:=hB2.cell4
 refine bodyPost_ret (v:=.agg #[.bool s, .slice A l c, .bool false, .slice none 0 0]) (by simp [results,Tryz.results39,go_sem,k0,k1,k2,k3]) rfl ⟨s,A,l,c,rfl,Zap.of (HM.out.other HB.out (fun i k=>?_) hF2) HS.out HS0.out,Fr.local_ HE.out hF2 (by rw [HR.out]; exact Nat.le_refl _)⟩
 match i with
 | 0=>simp
 | 1=>simp
 | 2=>simp
 | 3=>simp
 | n + 4=>simp
end Go.Proofs.YthlipnahcbcjkaaGreatDoor
