/-
  The law ModularCombine.
-/
import Derived.Test.YtndafmjcelgnbaaGreatDoorM13
import Derived.Test.YtndafmjcelgnbaaGreatDoorM16
namespace Go.Proofs.YtndafmjcelgnbaaGreatDoor
open Go.RowKit

set_option maxHeartbeats 1000000 in
set_option maxRecDepth 100000 in
theorem modularCombine_any (A A2 : Option Addr) (rs ps : List Int) (n m c c2 : Nat) (w : World) (hg : Glob w) (hn : rs.length = n) (hm : ps.length = m) (hR : IShows w A rs) (hP : IShows w A2 ps) (iR : Int64s rs) (iP : Int64s ps) (hc2 : m ≤ c2) :
    Calls Tryz.prog 3 #[.slice A n c, .slice A2 m c2] w (RetV w (.bool true)) := by
  by_cases h80 : n ≤ 80 ∧ m ≤ 80
  · obtain ⟨hn8, hm8⟩ := h80
    have H1 := Lib.hid (Combine_any A A2 rs ps n m c c2 w hg hn hm hR hP iR iP hc2 (by omega) (by omega))
    have H2 := Lib.hid (fun W (hW : Ext w W) => refCombine_any A A2 rs ps n m c c2 W hn hm (hR.ext hW) (hP.ext hW) iR (by omega) (by omega))
    have HG := Lib.hid hg
    have t1 : decide ((80 : Int) < (n : Int)) = false := by simp; omega
    have t2 : decide ((80 : Int) < (m : Int)) = false := by simp; omega
    clear hg hn hm hR hP iR iP
    go_enter Tryz.func3, Tryz.ntmps3
    go_wp2_with fail
    refine H1.out.mono ?_
    rintro e w1 ⟨s, t, e1, rfl, hC1, hF1⟩
    have HC1 := Lib.hid hC1
    have HF1 := Lib.hid hF1
    clear hC1 hF1 H1
    go_wp2_with fail
    refine (H2.out w1 HF1.out).mono ?_
    rintro e w2 ⟨s', t', e2, rfl, hC2, hF2⟩
    obtain ⟨rfl, rfl, rfl⟩ := HC1.out.unique hC2
    have HF2 := Lib.hid (HF1.out.trans hF2)
    clear hC2 hF2 H2 HC1
    go_wp2_with fail
    refine (awake_any _ (HG.out.ext HF2.out)).mono ?_
    rintro e w3 ⟨rfl, hF3⟩
    have HF3 := Lib.hid (HF2.out.trans hF3)
    clear hF3
    go_wp2
    go_ret
    exact ⟨rfl, HF3.out⟩
  · have HG := Lib.hid hg
    clear hg hn hm hR hP iR iP
    by_cases hn8 : 80 < n
    · clear h80
      go_enter Tryz.func3, Tryz.ntmps3
      go_wp2_with fail
      refine (awake_any _ HG.out).mono ?_
      rintro e w3 ⟨rfl, hF3⟩
      have HF3 := Lib.hid hF3
      clear hF3
      go_wp2
      go_ret
      exact ⟨rfl, HF3.out⟩
    · have hm8 : 80 < m := by omega
      have t1 : decide ((80 : Int) < (n : Int)) = false := by simp; omega
      clear h80
      go_enter Tryz.func3, Tryz.ntmps3
      go_wp2_with fail
      refine (awake_any _ HG.out).mono ?_
      rintro e w3 ⟨rfl, hF3⟩
      have HF3 := Lib.hid hF3
      clear hF3
      go_wp2
      go_ret
      exact ⟨rfl, HF3.out⟩
end Go.Proofs.YtndafmjcelgnbaaGreatDoor
