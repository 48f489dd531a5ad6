/-
 My texts CprL, NumL put together.
-/
import Derived.Test.YthlipnahcbcjkaaGreatDoorQ20
import Derived.Test.YthlipnahcbcjkaaGreatDoorQ11
import Derived.Test.YthlipnahcbcjkaaGreatDoorQ16
import Derived.Test.YthlipnahcbcjkaaGreatDoorQ15
set_option maxRecDepth 100000
namespace Go.Proofs.YthlipnahcbcjkaaGreatDoor
open Go.RowKit
theorem NpIs.below {n p k:Int} {ok:Bool} (h:NpIs n p ok) (hk:Pr k) (hlt:n < k):ok=true∧Pr p∧n < p∧p≤k:=by
 rcases h with ⟨rfl,h1,h2,h3⟩ | ⟨rfl,rfl,h1⟩
 ·refine ⟨rfl,h1,h2,?_⟩
  rcases Int.lt_or_le k p with h4 | h4
  ·exact absurd hk (h3 k hlt h4)
  ·exact h4
 ·exact absurd hk (h1 k hlt)
end Go.Proofs.YthlipnahcbcjkaaGreatDoor

namespace Go.Proofs.YthlipnahcbcjkaaGreatDoor
open Go.RowKit
set_option maxHeartbeats 1000000 in
theorem ZmZ (n:Int) (w:World):Calls Tryz.prog 9 #[.int .i64 n] w fun e w'=>(∃ P:Nat,e=.returned (.int .i64 (P:Int))∧Hid (Pr (P:Int))∧P≤1000003)∧w=w':=by
 obtain ⟨m,hm⟩:∃ m,n % 100000=m:=⟨_,rfl⟩
 have h1:m < 1000003:=by omega
 have HM:=zh (ZgR n 100000 w (by omega) (by omega))
 rw [hm] at HM
 clear hm
 go_enter Tryz.func9,Tryz.ntmps9
 go_wp2_with fail
 refine HM.out.mono ?_
 rintro e w1 ⟨rfl,rfl⟩
 go_wp2_with fail
 refine (ZhI m _).mono ?_
 rintro e w1 ⟨p,ok,rfl,hN,rfl⟩
 obtain ⟨rfl,k1,k2,k3⟩:=hN.below (Zpc (i:=0) (by omega)) (show m < 1000003 by omega)
 obtain ⟨P,rfl⟩:=Int.eq_ofNat_of_zero_le (show 0≤p by have:=k1.1; omega)
 have HP:=zh k1
 have hPb:P≤1000003:=by
  have e:kp.getD 0 0=1000003:=rfl
  rw [e] at k3; omega
 clear hN k1 k2 k3
 go_wp2
 go_ret
 exact ⟨⟨P,rfl,HP,hPb⟩,rfl⟩
end Go.Proofs.YthlipnahcbcjkaaGreatDoor
