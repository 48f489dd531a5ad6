/-
  modular.isSmall.
-/
import Derived.Test.YtndafmjcelgnbaaGreatDoorOrd
import Derived.Test.YtndafmjcelgnbaaGreatDoorRat
import Derived.Outline
namespace Go.Proofs.YtndafmjcelgnbaaGreatDoor
open Go.RowKit

theorem follows_mixed : Tryz.prog.follows .mixedOrders = true := by kernel_rfl
/-- a load of an Int -/
theorem yields_int {ops : Array Oper} {S : World → Prop} {o : Oper} {a : Act} {p : Operand} {g : Nat} {x y : Value} (hg : o.guard = none) (ho : o.op = Op.load 67 p) (hp : a.eval p = .pointer (some ⟨g, 0, none⟩))
    (hc : ∀ w, S w → w.cell? ⟨g, 0, none⟩ = some x ∧ w.cell? ⟨g, 1, none⟩ = some y) : YieldsIf Tryz.prog ops S o (.agg #[x, y]) a :=
  Or.inl ⟨by unfold Region.wanted; rw [hg], fun w hS => by
    obtain ⟨h0, h1⟩ := hc w hS
    simp only [execOp, ho, hp]
    simp [go_sem, h0, h1]⟩

theorem cmpI_negI (a b : Int) : cmpI a b < 0 ↔ a < b := by
  unfold cmpI
  split
  · simp; omega
  · split
    · simp; omega
    · simp; omega
theorem keepI2 {t t' : TypeId} {w w' : World} {g g' : Nat} {x y x' y' : Value} (h : Blk t w g #[x, y]) (h' : Blk t' w g' #[x', y']) (hF : Ext w w') :
    (w'.cell? ⟨g, 0, none⟩ = some x ∧ w'.cell? ⟨g, 1, none⟩ = some y) ∧ (w'.cell? ⟨g', 0, none⟩ = some x' ∧ w'.cell? ⟨g', 1, none⟩ = some y') :=
  ⟨⟨(h.ext hF).cell 0, (h.ext hF).cell 1⟩, ⟨(h'.ext hF).cell 0, (h'.ext hF).cell 1⟩⟩

set_option maxHeartbeats 1000000 in
theorem isSmall_any (a b : Value) (x m : Int) (w : World) (ha : IntIs w a x) (hb : IntIs w b m) (hx : wl x.natAbs < 40) (hm : Fits m) : Calls Tryz.prog 121 #[a, b] w (RetV w (.bool (decide (x * x * 2 < m)))) := by
  obtain ⟨s, A, l, c, rfl⟩ := ha.shape
  obtain ⟨t, B, l', c', rfl⟩ := hb.shape
  have HA := Lib.hid ha
  have HB := Lib.hid hb
  have HX := Lib.hid hx
  have HM := Lib.hid hm
  have HXX : Hid (Fits (x * x)) := by
    have h1 := wl_mul x.natAbs x.natAbs
    unfold Hid Fits; rw [Int.natAbs_mul]; exact Nat.le_trans h1 (by omega)
  have HXY : Hid (Fits (x * x * ((2 ^ 1 : Nat) : Int))) := by
    have h1 := wl_mul (x * x).natAbs 2
    have h2 := wl_mul x.natAbs x.natAbs
    have h3 : wl 2 ≤ 1 := wl_one.2 (by rw [W64_eq]; omega)
    rw [← Int.natAbs_mul] at h2
    unfold Hid Fits; rw [Int.natAbs_mul, Int.natAbs_natCast]; exact Nat.le_trans h1 (by omega)
  clear ha hb hx hm
  go_enter Tryz.func121, Tryz.ntmps121
  go_wp2_with fail
  generalize hwb : World.alloc (World.alloc w _) _ = wb
  obtain ⟨hBx, hBy, hE⟩ := two_blocks hwb
  clear hwb
  refine wp_region_T 8 (fun w' => (w'.cell? ⟨w.heap.size, 0, none⟩ = some (.bool s) ∧ w'.cell? ⟨w.heap.size, 1, none⟩ = some (.slice A l c)) ∧ (w'.cell? ⟨w.heap.size + 1, 0, none⟩ = some (.bool t) ∧ w'.cell? ⟨w.heap.size + 1, 1, none⟩ = some (.slice B l' c'))) follows_mixed ?_
  refine wpT_take 0 rfl (by kernel_rfl) (fun _ _ _ h => h) ⟨⟨hBx.cell 0, hBx.cell 1⟩, ⟨hBy.cell 0, hBy.cell 1⟩⟩ (fun _ => yields_int rfl rfl rfl (fun _ h => h.1)) (fun hS => ?_)
  refine wpT_take 1 rfl (by kernel_rfl) (fun _ _ _ h => h) hS (fun _ => yields_int rfl rfl rfl (fun _ h => h.1)) (fun hS => ?_)
  refine wpT_take 4 rfl (by kernel_rfl) (fun _ _ _ h => h) hS (fun _ => yields_int rfl rfl rfl (fun _ h => h.2)) (fun hS => ?_)
  refine wpT_only 2 rfl (by kernel_rfl) rfl (fun K hK => ?_)
  go_simp
  refine (Mul_any _ _ x x _ (HA.out.ext hE.drew) (HA.out.ext hE.drew) (by have := HX.out; unfold Fits; omega) (by have := HX.out; unfold Fits; omega) (Or.inl HX.out)).mono ?_
  rintro e w1 ⟨u1, rfl, hI1, hF1⟩
  obtain ⟨s1, A1, l1, c1, rfl⟩ := hI1.shape
  replace hF1 := Fr.undrew hF1
  refine hK _ _ (keepI2 hBx hBy hF1) ?_
  refine wpT_only 3 rfl (by kernel_rfl) rfl (fun K hK => ?_)
  go_simp
  refine (Shift_any _ _ 1 _ hI1 HXX.out (by omega)).mono ?_
  rintro e w2 ⟨u2, rfl, hI2, hF2⟩
  obtain ⟨s2, A2, l2, c2, rfl⟩ := hI2.shape
  refine hK _ _ (keepI2 hBx hBy (hF1.trans hF2)) ?_
  refine wpT_only 5 rfl (by kernel_rfl) rfl (fun K hK => ?_)
  go_simp
  refine (Compare_any _ _ _ m _ hI2 (HB.out.ext ((hE.trans hF1).trans hF2)) HXY.out HM.out).mono ?_
  rintro e w3 ⟨rfl, hF3⟩
  refine hK _ _ (keepI2 hBx hBy ((hF1.trans hF2).trans hF3)) ?_
  have HE3 := Lib.hid (((hE.trans hF1).trans hF2).trans hF3)
  refine wpT_only 6 rfl (by kernel_rfl) rfl (fun K hK => ?_)
  go_simp
  refine hK _ _ (keepI2 hBx hBy ((hF1.trans hF2).trans hF3)) ?_
  refine wpT_only 7 rfl (by kernel_rfl) rfl (fun K hK => ?_)
  go_simp
  refine hK _ _ (keepI2 hBx hBy ((hF1.trans hF2).trans hF3)) ?_
  refine wpT_tail (l := []) 8 rfl (by kernel_rfl) ?_
  have HC : Hid (decide (cmpI (x * x * ((2 ^ 1 : Nat) : Int)) m < 0) = decide (x * x * 2 < m)) := by
    unfold Hid
    have := cmpI_negI (x * x * ((2 ^ 1 : Nat) : Int)) m
    have e : ((2 ^ 1 : Nat) : Int) = 2 := rfl
    rw [e] at this ⊢
    by_cases h : x * x * 2 < m
    · rw [decide_eq_true h, decide_eq_true (this.2 h)]
    · rw [decide_eq_false h, decide_eq_false (fun k => h (this.1 k))]
  go_wp2
  go_ret
  exact ⟨by rw [← HC.out]; rfl, HE3.out⟩
end Go.Proofs.YtndafmjcelgnbaaGreatDoor
