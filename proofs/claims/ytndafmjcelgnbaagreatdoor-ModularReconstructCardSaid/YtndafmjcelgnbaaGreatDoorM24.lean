/-
 My texts RcL put together.
-/
import Derived.Test.YtndafmjcelgnbaaGreatDoorM22
import Derived.Test.YtndafmjcelgnbaaGreatDoorM02
import Derived.Test.YtndafmjcelgnbaaGreatDoorM21
import Derived.Test.YtndafmjcelgnbaaGreatDoorM23
namespace Go.Proofs.YtndafmjcelgnbaaGreatDoor
open Go.RowKit
set_option maxHeartbeats 4000000 in
set_option maxRecDepth 100000 in
theorem modularReconstruct_any (a b : ByteArray) (w : World) (hg : Glob w) :
 Calls Tryz.prog 4 #[.string a, .string b] w (RetV w (.bool true)) := by
 have HG := zh hg
 obtain ⟨r,hr⟩ : ∃ r,[a,b].all (fun s => decide ((s.size : Int) ≤ 200)) = r := ⟨_,rfl⟩
 have HR := zh hr
 have HSh := zh (keepShort_any 200 w.heap.size 2 [a,b] (w.alloc (.cells #[.string a, .string b] 9)) rfl (by omega) (fun i hi => by
  have hB := (Blk.new w 9 #[.string a, .string b]).cell i
  rcases (by omega : i = 0 ∨ i = 1) with e | e <;> subst e <;> rw [hB] <;> rfl) r hr)
 have HE0 : Hid (Ext w (w.alloc (.cells #[.string a, .string b] 9))) := (Fr.refl _ _).alloc _
 clear hg hr
 go_enter Tryz.func4,Tryz.ntmps4
 go_wp2_with fail
 refine HSh.out.mono ?_
 rintro e w0 ⟨rfl,rfl⟩
 generalize w.alloc (.cells #[.string a, .string b] 9) = w0 at *
 clear HSh
 cases r with
 | false =>
   go_wp2_with fail
   refine (awake_any _ (HG.out.ext HE0.out)).mono ?_
   rintro e w1 ⟨rfl,hF⟩
   have HF := zh (HE0.out.trans hF)
   clear hF
   go_wp2
   go_ret
   exact ⟨rfl,HF.out⟩
 | true =>
   have HL : Hid (a.size ≤ 200 ∧ b.size ≤ 200) := by
    have := HR.out
    simp only [List.all_cons,List.all_nil,Bool.and_true,Bool.and_eq_true,decide_eq_true_eq] at this
    unfold Hid; omega
   clear HR
   go_wp2_with fail
   refine (MReconstruct_any a b _ (HG.out.ext HE0.out) HL.out.1 HL.out.2).mono ?_
   rintro e w1 ⟨s,ok,rfl,hs,hF⟩
   have HS := zh hs
   have HE1 := zh (HE0.out.trans hF)
   clear hs hF HE0
   go_wp2_with fail
   refine (RReconstruct_any a b _ HL.out.1 HL.out.2).mono ?_
   rintro e w2 ⟨t,is,rfl,ht,hF⟩
   obtain ⟨rfl,rfl⟩ := HS.out.unique ht
   have HE2 := zh (HE1.out.trans hF)
   clear ht hF HE1 HS
   generalize (⟨s.toArray⟩ : ByteArray) = x at *
   cases ok with
   | false =>
     go_wp2_with fail
     refine (awake_any _ (HG.out.ext HE2.out)).mono ?_
     rintro e w3 ⟨rfl,hF⟩
     have HF := zh (HE2.out.trans hF)
     clear hF
     go_wp2
     go_ret
     exact ⟨rfl,HF.out⟩
   | true =>
     go_wp2_with fail
     refine (awake_any _ (HG.out.ext HE2.out)).mono ?_
     rintro e w3 ⟨rfl,hF⟩
     have HF := zh (HE2.out.trans hF)
     clear hF
     go_wp2
     go_ret
     exact ⟨rfl,HF.out⟩
end Go.Proofs.YtndafmjcelgnbaaGreatDoor
