/-
  The type Int of package integer: its values, and its methods' contracts.
-/
import Derived.Test.YtndafmjcelgnbaaGreatDoorDivS
import Derived.Test.YtndafmjcelgnbaaGreatDoorBlk
import Derived.Deep.RegionHeld3
namespace Go.Proofs.YtndafmjcelgnbaaGreatDoor
open Go.RowKit

/-- The struct v holds the integer z. -/
def IntIs (w : World) (v : Value) (z : Int) : Prop :=
  ∃ (neg : Bool) (u : Value) (n : Nat), v = .agg #[.bool neg, u] ∧ NatIs w u n ∧ (n = 0 → neg = false) ∧ z = (if neg then -(n : Int) else (n : Int))
theorem IntIs.ext {w w' : World} {v : Value} {z : Int} (h : IntIs w v z) (hf : Ext w w') : IntIs w' v z := by
  obtain ⟨s, u, n, h1, h2, h3⟩ := h
  exact ⟨s, u, n, h1, h2.ext hf, h3⟩
def RetInt (w : World) (z : Int) (e : Ending) (w' : World) : Prop := ∃ v, e = .returned v ∧ IntIs w' v z ∧ Ext w w'

/-- signed returns the struct itself -/
def SignedRet (w : World) (neg : Bool) (u : Value) (n : Nat) (e : Ending) (w' : World) : Prop :=
  ∃ s, e = .returned (.agg #[.bool s, u]) ∧ Hid (s = (neg && decide (0 < n))) ∧ Ext w w'
/-- the integer with a sign and an absolute value -/
def sg (neg : Bool) (n : Nat) : Int := if neg then -(n : Int) else (n : Int)
theorem IntIs.signed {w : World} {neg s : Bool} {u : Value} {n : Nat} (hu : NatIs w u n) (hs : s = (neg && decide (0 < n))) : IntIs w (.agg #[.bool s, u]) (sg neg n) := by
  subst hs
  refine ⟨_, u, n, rfl, hu, ?_, ?_⟩
  · rintro rfl; simp
  · cases neg
    · simp [sg]
    · rcases Nat.eq_zero_or_pos n with rfl | h
      · simp [sg]
      · simp [sg, h]

theorem results_int {fn : Func} {t : Tmp} (h : fn.results = #[.cell t 67]) (tmps : Array Value) (w : World) (b : Nat) (x y : Value) (ht : tmps[t]? = some (.pointer (some ⟨b, 0, none⟩)))
    (hB : Blk 67 w b #[x, y]) : (results fn tmps).run Tryz.prog w = .ok (.agg #[x, y]) w := by
  have h0 : w.cell? ⟨b, 0, none⟩ = some x := hB.cell 0
  have h1 : w.cell? ⟨b, 1, none⟩ = some y := hB.cell 1
  simp [results, h, ht, go_sem, h0, h1]

set_option maxHeartbeats 1000000 in
set_option maxRecDepth 100000 in
theorem signed_any (neg : Bool) (u : Value) (n : Nat) (w : World) (hu : NatIs w u n) :
    Calls Tryz.prog 106 #[.bool neg, u] w (SignedRet w neg u n) := by
  obtain ⟨A, xs, c, rfl, hc, h1, h2, h3, h4⟩ := hu
  have hpos : Hid (decide (0 < n) = decide (0 < xs.length)) := by
    have := wl_len h2 h3
    rw [h4] at this
    rcases Nat.eq_zero_or_pos n with e | e
    · subst e; rw [wl_zero] at this; unfold Hid; simp [this]
    · have := wl_pos e; unfold Hid; rw [decide_eq_true e, decide_eq_true (by omega)]
  have H1 := Lib.hid h1
  have H2 := Lib.hid h2
  have H3 := Lib.hid h3
  clear h1 h2 h3 h4 hc
  cases neg with
  | false =>
    go_enter Tryz.func106, Tryz.ntmps106
    go_wp2
    refine bodyPost_ret (results_int rfl _ _ w.heap.size _ _ rfl (Blk.new w _ _)) rfl ⟨_, rfl, ?_, (Fr.refl _ _).alloc _⟩
    unfold Hid; simp
  | true =>
    go_enter Tryz.func106, Tryz.ntmps106
    go_wp2
    refine bodyPost_ret (results_int rfl _ _ w.heap.size _ _ rfl (Blk.new w _ _)) rfl ⟨_, rfl, ?_, (Fr.refl _ _).alloc _⟩
    unfold Hid; rw [hpos.out]; simp

theorem Blk.cell2 {t : TypeId} {w : World} {g : Nat} {x y : Value} (h : Blk t w g #[x, y]) : w.cell? ⟨g, 0, none⟩ = some x ∧ w.cell? ⟨g, 1, none⟩ = some y ∧ w.frozen? ⟨g, 0, none⟩ = false ∧ w.frozen? ⟨g, 1, none⟩ = false :=
  ⟨h.cell 0, h.cell 1, h.frozen 0, h.frozen 1⟩
theorem keep3 {t : TypeId} {w w' : World} {g g' : Nat} {x y x' y' : Value} (h : Blk t w g #[x, y]) (h' : Blk t w g' #[x', y']) (hF : Ext w w') :
    w'.cell? ⟨g, 0, none⟩ = some x ∧ w'.cell? ⟨g, 1, none⟩ = some y ∧ w'.cell? ⟨g', 1, none⟩ = some y' :=
  ⟨(h.ext hF).cell 0, (h.ext hF).cell 1, (h'.ext hF).cell 1⟩

theorem Fr.undrew {S : Nat → Prop} {w w' : World} (h : Fr S w.drew w') : Fr S w w' := ⟨h.os, h.tape, h.output, h.size, h.block⟩
theorem keep3s {t : TypeId} {w w' : World} {g g' r : Nat} {x y x' y' a b : Value} (h : Blk t w g #[x, y]) (h' : Blk t w g' #[x', y']) (hF : Ext w w') (hg : g ≠ r) (hg' : g' ≠ r) :
    ((w'.setCell ⟨r, 0, none⟩ a).setCell ⟨r, 1, none⟩ b).cell? ⟨g, 0, none⟩ = some x ∧ ((w'.setCell ⟨r, 0, none⟩ a).setCell ⟨r, 1, none⟩ b).cell? ⟨g, 1, none⟩ = some y ∧ ((w'.setCell ⟨r, 0, none⟩ a).setCell ⟨r, 1, none⟩ b).cell? ⟨g', 1, none⟩ = some y' :=
  ⟨(((h.ext hF).far (p := ⟨r, 0, none⟩) hg a).far (p := ⟨r, 1, none⟩) hg b).cell 0, (((h.ext hF).far (p := ⟨r, 0, none⟩) hg a).far (p := ⟨r, 1, none⟩) hg b).cell 1, (((h'.ext hF).far (p := ⟨r, 0, none⟩) hg' a).far (p := ⟨r, 1, none⟩) hg' b).cell 1⟩
theorem NatIs.slice {w : World} {v : Value} {n : Nat} (h : NatIs w v n) : ∃ A l c, v = .slice A l c := by
  obtain ⟨A, xs, c, h, _⟩ := h
  exact ⟨A, _, c, h⟩
theorem three_blocks {t : TypeId} {w wb : World} {x y z : Array Value} (h : ((w.alloc (.cells x t)).alloc (.cells y t)).alloc (.cells z t) = wb) :
    Blk t wb w.heap.size x ∧ Blk t wb (w.heap.size + 1) y ∧ Blk t wb (w.heap.size + 1 + 1) z ∧ Ext w wb := by
  subst h
  have e1 : (w.alloc (.cells x t)).heap.size = w.heap.size + 1 := by simp
  have e2 : ((w.alloc (.cells x t)).alloc (.cells y t)).heap.size = w.heap.size + 1 + 1 := by simp
  have h2 := Blk.new (w.alloc (.cells x t)) t y
  have h3 := Blk.new ((w.alloc (.cells x t)).alloc (.cells y t)) t z
  rw [e1] at h2
  rw [e2] at h3
  exact ⟨((Blk.new _ _ _).alloc _).alloc _, h2.alloc _, h3, (((Fr.refl _ _).alloc _).alloc _).alloc _⟩


theorem NatIs.store2 {t : TypeId} {w : World} {r n : Nat} {u a b : Value} {s : Bool} {A : Option Addr} {l c : Nat} (h : NatIs w u n) (hB : Blk t w r #[.bool s, .slice A l c]) : NatIs ((w.setCell ⟨r, 0, none⟩ a).setCell ⟨r, 1, none⟩ b) u n := by
  obtain ⟨A', xs, c', h1, h2, h3, h4⟩ := h
  refine ⟨A', xs, c', h1, h2, ?_, h4⟩
  have hF : Fr (fun i => i = r) w ((w.setCell ⟨r, 0, none⟩ a).setCell ⟨r, 1, none⟩ b) := ((Fr.refl (fun i => i = r) w).setCell (p := ⟨r, 0, none⟩) (Or.inl rfl) a).setCell (p := ⟨r, 1, none⟩) (Or.inl rfl) b
  cases xs with
  | nil => exact Shows.nil
  | cons x xs =>
    refine h3.fr hF (fun ad hA hlt e => ?_)
    obtain ⟨g, off, e', _, hc⟩ := h3.at (i := 0) (by simp)
    rw [e'] at hA
    injection hA with hA
    subst hA
    simp at e
    subst e
    rw [hB.cell] at hc
    rcases Nat.lt_or_ge off 2 with ho | ho
    · rcases (by omega : off = 0 ∨ off = 1) with rfl | rfl <;> simp at hc
    · simp at hc
      rw [List.getElem?_eq_none (by simp; omega)] at hc
      cases hc

/-- the end of a function whose result is an Int in block r -/
theorem fin_int {fn : Func} {t : Tmp} {tmps : Array Value} {w wb w2 : World} {r n : Nat} {s neg : Bool} {A : Option Addr} {l c : Nat} {z : Int}
    (hres : fn.results = #[.cell t 67]) (ht : tmps[t]? = some (.pointer (some ⟨r, 0, none⟩))) (hr : w.heap.size ≤ r)
    (HE : Ext w wb) (HB : Blk 67 wb r #[.bool false, .slice none 0 0]) (hF : Ext wb w2) (hN : NatIs w2 (.slice A l c) n) (hs : s = (neg && decide (0 < n))) (hz : z = sg neg n) :
    bodyPost Tryz.prog fn (RetInt w z) .ret ⟨tmps, []⟩ ((w2.setCell ⟨r, 0, none⟩ (.bool s)).setCell ⟨r, 1, none⟩ (.slice A l c)) := by
  have hB2 : Blk 67 ((w2.setCell ⟨r, 0, none⟩ (.bool s)).setCell ⟨r, 1, none⟩ (.slice A l c)) r #[.bool s, .slice A l c] := ((HB.ext hF).set_ 0 _).set_ 1 _
  refine bodyPost_ret (results_int hres _ _ r _ _ ht hB2) rfl ⟨_, rfl, ?_, ?_⟩
  · subst hz
    exact IntIs.signed (hN.store2 (HB.ext hF)) hs
  · exact ((HE.trans hF).setCell (Or.inr hr) _).setCell (Or.inr hr) _

theorem keep4 {t : TypeId} {w w' : World} {g g' : Nat} {x y x' y' : Value} (h : Blk t w g #[x, y]) (h' : Blk t w g' #[x', y']) (hF : Ext w w') :
    w'.cell? ⟨g, 0, none⟩ = some x ∧ w'.cell? ⟨g, 1, none⟩ = some y ∧ w'.cell? ⟨g', 0, none⟩ = some x' ∧ w'.cell? ⟨g', 1, none⟩ = some y' :=
  ⟨(h.ext hF).cell 0, (h.ext hF).cell 1, (h'.ext hF).cell 0, (h'.ext hF).cell 1⟩
theorem keep4s {t : TypeId} {w w' : World} {g g' r : Nat} {x y x' y' a b : Value} (h : Blk t w g #[x, y]) (h' : Blk t w g' #[x', y']) (hF : Ext w w') (hg : g ≠ r) (hg' : g' ≠ r) :
    ((w'.setCell ⟨r, 0, none⟩ a).setCell ⟨r, 1, none⟩ b).cell? ⟨g, 0, none⟩ = some x ∧ ((w'.setCell ⟨r, 0, none⟩ a).setCell ⟨r, 1, none⟩ b).cell? ⟨g, 1, none⟩ = some y ∧ ((w'.setCell ⟨r, 0, none⟩ a).setCell ⟨r, 1, none⟩ b).cell? ⟨g', 0, none⟩ = some x' ∧ ((w'.setCell ⟨r, 0, none⟩ a).setCell ⟨r, 1, none⟩ b).cell? ⟨g', 1, none⟩ = some y' :=
  ⟨(((h.ext hF).far (p := ⟨r, 0, none⟩) hg a).far (p := ⟨r, 1, none⟩) hg b).cell 0, (((h.ext hF).far (p := ⟨r, 0, none⟩) hg a).far (p := ⟨r, 1, none⟩) hg b).cell 1, (((h'.ext hF).far (p := ⟨r, 0, none⟩) hg' a).far (p := ⟨r, 1, none⟩) hg' b).cell 0, (((h'.ext hF).far (p := ⟨r, 0, none⟩) hg' a).far (p := ⟨r, 1, none⟩) hg' b).cell 1⟩
theorem cmpI_nonneg {a b : Nat} (h : b ≤ a) : 0 ≤ cmpI a b := by
  have := cmpI_neg (a := a) (b := b); omega
/-- compareWords, for numbers -/
theorem compare_nat (u v : Value) (m n : Nat) (w : World) (hu : NatIs w u m) (hv : NatIs w v n) (hm : wl m ≤ 4294967296) (hn : wl n ≤ 4294967296) :
    Calls Tryz.prog 108 #[u, v] w fun e w' => e = .returned (.int .i64 (cmpI m n)) ∧ ∃ n, w' = w.drewN n := by
  obtain ⟨A, xs, c, rfl, hc, h1, h2, h3, rfl⟩ := hu
  obtain ⟨A2, ys, c2, rfl, hc2, k1, k2, k3, rfl⟩ := hv
  rw [← wl_len h2 h3] at hm
  rw [← wl_len k2 k3] at hn
  exact compareWords_any A A2 xs ys _ _ c c2 w rfl rfl h1 k1 (by omega) (by omega) h2 k2 h3 k3

set_option maxHeartbeats 4000000 in
set_option maxRecDepth 100000 in
theorem Add_same_false (u v : Value) (m n k : Nat) (z : Int) (w : World) (hu : NatIs w u m) (hv : NatIs w v n) (hm : wl m ≤ 4294967296) (hn : wl n ≤ 4294967296) (hk : m + n = k) (hz : z = sg false k) :
    Calls Tryz.prog 52 #[.agg #[.bool false, u], .agg #[.bool false, v]] w (RetInt w z) := by
  have Hu := Lib.hid hu
  have Hv := Lib.hid hv
  have Hm := Lib.hid hm
  have Hn := Lib.hid hn
  have Hk := Lib.hid hk
  have Hz := Lib.hid hz
  clear hu hv hm hn hk hz
  go_enter Tryz.func52, Tryz.ntmps52
  go_wp2
  generalize hwb : World.alloc (World.alloc (World.alloc w _) _) _ = wb
  obtain ⟨hBx, hBy, hBr, hE⟩ := three_blocks hwb
  have HBx := Lib.hid hBx
  have HBy := Lib.hid hBy
  have HBr := Lib.hid hBr
  have HE := Lib.hid hE
  clear hwb hBx hBy hBr hE
  go_region_held3 (fun w' => w'.cell? ⟨w.heap.size, 0, none⟩ = some (.bool false) ∧ w'.cell? ⟨w.heap.size, 1, none⟩ = some (u) ∧ w'.cell? ⟨w.heap.size + 1, 1, none⟩ = some (v))
    (first | exact keep3 HBx.out HBy.out (Fr.refl _ _).drew | exact keep3 HBx.out HBy.out (Fr.undrew (by assumption)) | exact keep3s HBx.out HBy.out (Fr.undrew (by assumption)) (by omega) (by omega))
    (first
      | (go_at_call 107
         refine (addWords_any _ _ m n _ (Hu.out.ext HE.out.drew) (Hv.out.ext HE.out.drew) Hm.out Hn.out).mono ?_
         rintro e w1 ⟨u1, rfl, hN1, hF1⟩
         rw [Hk.out] at hN1
         obtain ⟨A1, l1, c1, rfl⟩ := hN1.slice)
      | (go_at_call 106
         refine (signed_any _ _ _ _ (by assumption)).mono ?_
         rintro e w2 ⟨s2, rfl, hs2, hF2⟩
         have hF3 : Ext wb.drew w2 := Fr.ext (by assumption) hF2
         obtain ⟨z0, z1, z2, z3⟩ := (HBr.out.ext (Fr.undrew hF3)).cell2))
  go_wp2
  exact fin_int rfl rfl (by omega) HE.out HBr.out (Fr.undrew hF3) (hN1.ext hF2) hs2.out Hz.out

set_option maxHeartbeats 4000000 in
set_option maxRecDepth 100000 in
theorem Add_same_true (u v : Value) (m n k : Nat) (z : Int) (w : World) (hu : NatIs w u m) (hv : NatIs w v n) (hm : wl m ≤ 4294967296) (hn : wl n ≤ 4294967296) (hk : m + n = k) (hz : z = sg true k) :
    Calls Tryz.prog 52 #[.agg #[.bool true, u], .agg #[.bool true, v]] w (RetInt w z) := by
  have Hu := Lib.hid hu
  have Hv := Lib.hid hv
  have Hm := Lib.hid hm
  have Hn := Lib.hid hn
  have Hk := Lib.hid hk
  have Hz := Lib.hid hz
  clear hu hv hm hn hk hz
  go_enter Tryz.func52, Tryz.ntmps52
  go_wp2
  generalize hwb : World.alloc (World.alloc (World.alloc w _) _) _ = wb
  obtain ⟨hBx, hBy, hBr, hE⟩ := three_blocks hwb
  have HBx := Lib.hid hBx
  have HBy := Lib.hid hBy
  have HBr := Lib.hid hBr
  have HE := Lib.hid hE
  clear hwb hBx hBy hBr hE
  go_region_held3 (fun w' => w'.cell? ⟨w.heap.size, 0, none⟩ = some (.bool true) ∧ w'.cell? ⟨w.heap.size, 1, none⟩ = some (u) ∧ w'.cell? ⟨w.heap.size + 1, 1, none⟩ = some (v))
    (first | exact keep3 HBx.out HBy.out (Fr.refl _ _).drew | exact keep3 HBx.out HBy.out (Fr.undrew (by assumption)) | exact keep3s HBx.out HBy.out (Fr.undrew (by assumption)) (by omega) (by omega))
    (first
      | (go_at_call 107
         refine (addWords_any _ _ m n _ (Hu.out.ext HE.out.drew) (Hv.out.ext HE.out.drew) Hm.out Hn.out).mono ?_
         rintro e w1 ⟨u1, rfl, hN1, hF1⟩
         rw [Hk.out] at hN1
         obtain ⟨A1, l1, c1, rfl⟩ := hN1.slice)
      | (go_at_call 106
         refine (signed_any _ _ _ _ (by assumption)).mono ?_
         rintro e w2 ⟨s2, rfl, hs2, hF2⟩
         have hF3 : Ext wb.drew w2 := Fr.ext (by assumption) hF2
         obtain ⟨z0, z1, z2, z3⟩ := (HBr.out.ext (Fr.undrew hF3)).cell2))
  go_wp2
  exact fin_int rfl rfl (by omega) HE.out HBr.out (Fr.undrew hF3) (hN1.ext hF2) hs2.out Hz.out

set_option maxHeartbeats 4000000 in
set_option maxRecDepth 100000 in
theorem Mul_false_false (u v : Value) (m n k : Nat) (z : Int) (w : World) (hu : NatIs w u m) (hv : NatIs w v n) (hm : wl m ≤ 4294967296) (hn : wl n ≤ 4294967296) (hmn : wl m < 40 ∨ wl n < 40) (hk : m * n = k) (hz : z = sg false k) :
    Calls Tryz.prog 53 #[.agg #[.bool false, u], .agg #[.bool false, v]] w (RetInt w z) := by
  have Hu := Lib.hid hu
  have Hv := Lib.hid hv
  have Hm := Lib.hid hm
  have Hn := Lib.hid hn
  have Hmn := Lib.hid hmn
  have Hk := Lib.hid hk
  have Hz := Lib.hid hz
  clear hu hv hm hn hmn hk hz
  go_enter Tryz.func53, Tryz.ntmps53
  go_wp2
  generalize hwb : World.alloc (World.alloc (World.alloc w _) _) _ = wb
  obtain ⟨hBx, hBy, hBr, hE⟩ := three_blocks hwb
  have HBx := Lib.hid hBx
  have HBy := Lib.hid hBy
  have HBr := Lib.hid hBr
  have HE := Lib.hid hE
  clear hwb hBx hBy hBr hE
  go_region_held3 (fun w' => w'.cell? ⟨w.heap.size, 0, none⟩ = some (.bool false) ∧ w'.cell? ⟨w.heap.size, 1, none⟩ = some (u) ∧ w'.cell? ⟨w.heap.size + 1, 0, none⟩ = some (.bool false) ∧ w'.cell? ⟨w.heap.size + 1, 1, none⟩ = some (v))
    (first | exact keep4 HBx.out HBy.out (Fr.refl _ _).drew | exact keep4 HBx.out HBy.out (Fr.undrew (by assumption)) | exact keep4s HBx.out HBy.out (Fr.undrew (by assumption)) (by omega) (by omega))
    (first
      | (go_at_call 110
         refine (multiplyWords_any _ _ m n _ (Hu.out.ext HE.out.drew) (Hv.out.ext HE.out.drew) Hm.out Hn.out Hmn.out).mono ?_
         rintro e w1 ⟨u1, rfl, hN1, hF1⟩
         rw [Hk.out] at hN1
         obtain ⟨A1, l1, c1, rfl⟩ := hN1.slice)
      | (go_at_call 106
         refine (signed_any _ _ _ _ (by assumption)).mono ?_
         rintro e w2 ⟨s2, rfl, hs2, hF2⟩
         have hF3 : Ext wb.drew w2 := Fr.ext (by assumption) hF2
         obtain ⟨z0, z1, z2, z3⟩ := (HBr.out.ext (Fr.undrew hF3)).cell2))
  go_wp2
  exact fin_int rfl rfl (by omega) HE.out HBr.out (Fr.undrew hF3) (hN1.ext hF2) hs2.out Hz.out

set_option maxHeartbeats 4000000 in
set_option maxRecDepth 100000 in
theorem Mul_false_true (u v : Value) (m n k : Nat) (z : Int) (w : World) (hu : NatIs w u m) (hv : NatIs w v n) (hm : wl m ≤ 4294967296) (hn : wl n ≤ 4294967296) (hmn : wl m < 40 ∨ wl n < 40) (hk : m * n = k) (hz : z = sg true k) :
    Calls Tryz.prog 53 #[.agg #[.bool false, u], .agg #[.bool true, v]] w (RetInt w z) := by
  have Hu := Lib.hid hu
  have Hv := Lib.hid hv
  have Hm := Lib.hid hm
  have Hn := Lib.hid hn
  have Hmn := Lib.hid hmn
  have Hk := Lib.hid hk
  have Hz := Lib.hid hz
  clear hu hv hm hn hmn hk hz
  go_enter Tryz.func53, Tryz.ntmps53
  go_wp2
  generalize hwb : World.alloc (World.alloc (World.alloc w _) _) _ = wb
  obtain ⟨hBx, hBy, hBr, hE⟩ := three_blocks hwb
  have HBx := Lib.hid hBx
  have HBy := Lib.hid hBy
  have HBr := Lib.hid hBr
  have HE := Lib.hid hE
  clear hwb hBx hBy hBr hE
  go_region_held3 (fun w' => w'.cell? ⟨w.heap.size, 0, none⟩ = some (.bool false) ∧ w'.cell? ⟨w.heap.size, 1, none⟩ = some (u) ∧ w'.cell? ⟨w.heap.size + 1, 0, none⟩ = some (.bool true) ∧ w'.cell? ⟨w.heap.size + 1, 1, none⟩ = some (v))
    (first | exact keep4 HBx.out HBy.out (Fr.refl _ _).drew | exact keep4 HBx.out HBy.out (Fr.undrew (by assumption)) | exact keep4s HBx.out HBy.out (Fr.undrew (by assumption)) (by omega) (by omega))
    (first
      | (go_at_call 110
         refine (multiplyWords_any _ _ m n _ (Hu.out.ext HE.out.drew) (Hv.out.ext HE.out.drew) Hm.out Hn.out Hmn.out).mono ?_
         rintro e w1 ⟨u1, rfl, hN1, hF1⟩
         rw [Hk.out] at hN1
         obtain ⟨A1, l1, c1, rfl⟩ := hN1.slice)
      | (go_at_call 106
         refine (signed_any _ _ _ _ (by assumption)).mono ?_
         rintro e w2 ⟨s2, rfl, hs2, hF2⟩
         have hF3 : Ext wb.drew w2 := Fr.ext (by assumption) hF2
         obtain ⟨z0, z1, z2, z3⟩ := (HBr.out.ext (Fr.undrew hF3)).cell2))
  go_wp2
  exact fin_int rfl rfl (by omega) HE.out HBr.out (Fr.undrew hF3) (hN1.ext hF2) hs2.out Hz.out

set_option maxHeartbeats 4000000 in
set_option maxRecDepth 100000 in
theorem Mul_true_false (u v : Value) (m n k : Nat) (z : Int) (w : World) (hu : NatIs w u m) (hv : NatIs w v n) (hm : wl m ≤ 4294967296) (hn : wl n ≤ 4294967296) (hmn : wl m < 40 ∨ wl n < 40) (hk : m * n = k) (hz : z = sg true k) :
    Calls Tryz.prog 53 #[.agg #[.bool true, u], .agg #[.bool false, v]] w (RetInt w z) := by
  have Hu := Lib.hid hu
  have Hv := Lib.hid hv
  have Hm := Lib.hid hm
  have Hn := Lib.hid hn
  have Hmn := Lib.hid hmn
  have Hk := Lib.hid hk
  have Hz := Lib.hid hz
  clear hu hv hm hn hmn hk hz
  go_enter Tryz.func53, Tryz.ntmps53
  go_wp2
  generalize hwb : World.alloc (World.alloc (World.alloc w _) _) _ = wb
  obtain ⟨hBx, hBy, hBr, hE⟩ := three_blocks hwb
  have HBx := Lib.hid hBx
  have HBy := Lib.hid hBy
  have HBr := Lib.hid hBr
  have HE := Lib.hid hE
  clear hwb hBx hBy hBr hE
  go_region_held3 (fun w' => w'.cell? ⟨w.heap.size, 0, none⟩ = some (.bool true) ∧ w'.cell? ⟨w.heap.size, 1, none⟩ = some (u) ∧ w'.cell? ⟨w.heap.size + 1, 0, none⟩ = some (.bool false) ∧ w'.cell? ⟨w.heap.size + 1, 1, none⟩ = some (v))
    (first | exact keep4 HBx.out HBy.out (Fr.refl _ _).drew | exact keep4 HBx.out HBy.out (Fr.undrew (by assumption)) | exact keep4s HBx.out HBy.out (Fr.undrew (by assumption)) (by omega) (by omega))
    (first
      | (go_at_call 110
         refine (multiplyWords_any _ _ m n _ (Hu.out.ext HE.out.drew) (Hv.out.ext HE.out.drew) Hm.out Hn.out Hmn.out).mono ?_
         rintro e w1 ⟨u1, rfl, hN1, hF1⟩
         rw [Hk.out] at hN1
         obtain ⟨A1, l1, c1, rfl⟩ := hN1.slice)
      | (go_at_call 106
         refine (signed_any _ _ _ _ (by assumption)).mono ?_
         rintro e w2 ⟨s2, rfl, hs2, hF2⟩
         have hF3 : Ext wb.drew w2 := Fr.ext (by assumption) hF2
         obtain ⟨z0, z1, z2, z3⟩ := (HBr.out.ext (Fr.undrew hF3)).cell2))
  go_wp2
  exact fin_int rfl rfl (by omega) HE.out HBr.out (Fr.undrew hF3) (hN1.ext hF2) hs2.out Hz.out

set_option maxHeartbeats 4000000 in
set_option maxRecDepth 100000 in
theorem Mul_true_true (u v : Value) (m n k : Nat) (z : Int) (w : World) (hu : NatIs w u m) (hv : NatIs w v n) (hm : wl m ≤ 4294967296) (hn : wl n ≤ 4294967296) (hmn : wl m < 40 ∨ wl n < 40) (hk : m * n = k) (hz : z = sg false k) :
    Calls Tryz.prog 53 #[.agg #[.bool true, u], .agg #[.bool true, v]] w (RetInt w z) := by
  have Hu := Lib.hid hu
  have Hv := Lib.hid hv
  have Hm := Lib.hid hm
  have Hn := Lib.hid hn
  have Hmn := Lib.hid hmn
  have Hk := Lib.hid hk
  have Hz := Lib.hid hz
  clear hu hv hm hn hmn hk hz
  go_enter Tryz.func53, Tryz.ntmps53
  go_wp2
  generalize hwb : World.alloc (World.alloc (World.alloc w _) _) _ = wb
  obtain ⟨hBx, hBy, hBr, hE⟩ := three_blocks hwb
  have HBx := Lib.hid hBx
  have HBy := Lib.hid hBy
  have HBr := Lib.hid hBr
  have HE := Lib.hid hE
  clear hwb hBx hBy hBr hE
  go_region_held3 (fun w' => w'.cell? ⟨w.heap.size, 0, none⟩ = some (.bool true) ∧ w'.cell? ⟨w.heap.size, 1, none⟩ = some (u) ∧ w'.cell? ⟨w.heap.size + 1, 0, none⟩ = some (.bool true) ∧ w'.cell? ⟨w.heap.size + 1, 1, none⟩ = some (v))
    (first | exact keep4 HBx.out HBy.out (Fr.refl _ _).drew | exact keep4 HBx.out HBy.out (Fr.undrew (by assumption)) | exact keep4s HBx.out HBy.out (Fr.undrew (by assumption)) (by omega) (by omega))
    (first
      | (go_at_call 110
         refine (multiplyWords_any _ _ m n _ (Hu.out.ext HE.out.drew) (Hv.out.ext HE.out.drew) Hm.out Hn.out Hmn.out).mono ?_
         rintro e w1 ⟨u1, rfl, hN1, hF1⟩
         rw [Hk.out] at hN1
         obtain ⟨A1, l1, c1, rfl⟩ := hN1.slice)
      | (go_at_call 106
         refine (signed_any _ _ _ _ (by assumption)).mono ?_
         rintro e w2 ⟨s2, rfl, hs2, hF2⟩
         have hF3 : Ext wb.drew w2 := Fr.ext (by assumption) hF2
         obtain ⟨z0, z1, z2, z3⟩ := (HBr.out.ext (Fr.undrew hF3)).cell2))
  go_wp2
  exact fin_int rfl rfl (by omega) HE.out HBr.out (Fr.undrew hF3) (hN1.ext hF2) hs2.out Hz.out

set_option maxHeartbeats 4000000 in
set_option maxRecDepth 100000 in
theorem Add_diff_false_ge (u v : Value) (m n k : Nat) (z : Int) (w : World) (hu : NatIs w u m) (hv : NatIs w v n) (hm : wl m ≤ 4294967296) (hn : wl n ≤ 4294967296) (hle : n ≤ m) (hk : m - n = k) (hz : z = sg false k) :
    Calls Tryz.prog 52 #[.agg #[.bool false, u], .agg #[.bool true, v]] w (RetInt w z) := by
  have Hu := Lib.hid hu
  have Hv := Lib.hid hv
  have Hm := Lib.hid hm
  have Hn := Lib.hid hn
  have Hle := Lib.hid hle
  have Hk := Lib.hid hk
  have Hz := Lib.hid hz
  clear hu hv hm hn hle hk hz
  go_enter Tryz.func52, Tryz.ntmps52
  go_wp2_with fail
  generalize hwb : World.alloc (World.alloc (World.alloc w _) _) _ = wb
  obtain ⟨hBx, hBy, hBr, hE⟩ := three_blocks hwb
  have HBx := Lib.hid hBx
  have HBy := Lib.hid hBy
  have HBr := Lib.hid hBr
  have HE := Lib.hid hE
  clear hwb hBx hBy hBr hE
  have cc1 := HBx.out.cell2.2.1
  have cc2 := HBy.out.cell2.2.1
  go_wp2_with fail
  clear cc1 cc2
  refine (compare_nat u v m n _ (Hu.out.ext HE.out) (Hv.out.ext HE.out) Hm.out Hn.out).mono ?_
  rintro e w' ⟨rfl, nd, hw'⟩
  obtain ⟨q, hq⟩ : ∃ q, cmpI m n = q := ⟨_, rfl⟩
  have hq0 : (0 : Int) ≤ q := by rw [← hq]; exact cmpI_nonneg Hle.out
  rw [hq]
  replace HBx := Lib.hid (show Blk _ w' _ _ from hw' ▸ HBx.out.drewN nd)
  replace HBy := Lib.hid (show Blk _ w' _ _ from hw' ▸ HBy.out.drewN nd)
  replace HBr := Lib.hid (show Blk _ w' _ _ from hw' ▸ HBr.out.drewN nd)
  replace HE := Lib.hid (show Ext w w' from hw' ▸ HE.out.drewN nd)
  clear hw' hq
  clear wb
  obtain ⟨wb, ewb⟩ : ∃ wb, w' = wb := ⟨_, rfl⟩
  subst ewb
  go_wp2_with fail
  go_region_held3 (fun w' => w'.cell? ⟨w.heap.size, 0, none⟩ = some (.bool false) ∧ w'.cell? ⟨w.heap.size, 1, none⟩ = some (u) ∧ w'.cell? ⟨w.heap.size + 1, 1, none⟩ = some (v))
    (first | exact keep3 HBx.out HBy.out (Fr.refl _ _).drew | exact keep3 HBx.out HBy.out (Fr.undrew (by assumption)) | exact keep3s HBx.out HBy.out (Fr.undrew (by assumption)) (by omega) (by omega))
    (first
      | (go_at_call 109
         refine (subtractWords_any _ _ m n _ (Hu.out.ext HE.out.drew) (Hv.out.ext HE.out.drew) Hm.out (by have := Hle.out; omega)).mono ?_
         rintro e w1 ⟨u1, rfl, hN1, hF1⟩
         rw [Hk.out] at hN1
         obtain ⟨A1, l1, c1, rfl⟩ := hN1.slice)
      | (go_at_call 106
         refine (signed_any _ _ _ _ (by assumption)).mono ?_
         rintro e w2 ⟨s2, rfl, hs2, hF2⟩
         have hF3 : Ext w'.drew w2 := Fr.ext (by assumption) hF2
         obtain ⟨z0, z1, z2, z3⟩ := (HBr.out.ext (Fr.undrew hF3)).cell2))
  go_wp2
  exact fin_int rfl rfl (by omega) HE.out HBr.out (Fr.undrew hF3) (hN1.ext hF2) hs2.out Hz.out

set_option maxHeartbeats 4000000 in
set_option maxRecDepth 100000 in
theorem Add_diff_false_lt (u v : Value) (m n k : Nat) (z : Int) (w : World) (hu : NatIs w u m) (hv : NatIs w v n) (hm : wl m ≤ 4294967296) (hn : wl n ≤ 4294967296) (hle : m < n) (hk : n - m = k) (hz : z = sg true k) :
    Calls Tryz.prog 52 #[.agg #[.bool false, u], .agg #[.bool true, v]] w (RetInt w z) := by
  have Hu := Lib.hid hu
  have Hv := Lib.hid hv
  have Hm := Lib.hid hm
  have Hn := Lib.hid hn
  have Hle := Lib.hid hle
  have Hk := Lib.hid hk
  have Hz := Lib.hid hz
  clear hu hv hm hn hle hk hz
  go_enter Tryz.func52, Tryz.ntmps52
  go_wp2_with fail
  generalize hwb : World.alloc (World.alloc (World.alloc w _) _) _ = wb
  obtain ⟨hBx, hBy, hBr, hE⟩ := three_blocks hwb
  have HBx := Lib.hid hBx
  have HBy := Lib.hid hBy
  have HBr := Lib.hid hBr
  have HE := Lib.hid hE
  clear hwb hBx hBy hBr hE
  have cc1 := HBx.out.cell2.2.1
  have cc2 := HBy.out.cell2.2.1
  go_wp2_with fail
  clear cc1 cc2
  refine (compare_nat u v m n _ (Hu.out.ext HE.out) (Hv.out.ext HE.out) Hm.out Hn.out).mono ?_
  rintro e w' ⟨rfl, nd, hw'⟩
  obtain ⟨q, hq⟩ : ∃ q, cmpI m n = q := ⟨_, rfl⟩
  have hq0 : q < 0 := by rw [← hq]; exact cmpI_neg.2 Hle.out
  rw [hq]
  replace HBx := Lib.hid (show Blk _ w' _ _ from hw' ▸ HBx.out.drewN nd)
  replace HBy := Lib.hid (show Blk _ w' _ _ from hw' ▸ HBy.out.drewN nd)
  replace HBr := Lib.hid (show Blk _ w' _ _ from hw' ▸ HBr.out.drewN nd)
  replace HE := Lib.hid (show Ext w w' from hw' ▸ HE.out.drewN nd)
  clear hw' hq
  clear wb
  obtain ⟨wb, ewb⟩ : ∃ wb, w' = wb := ⟨_, rfl⟩
  subst ewb
  go_wp2_with fail
  go_region_held3 (fun w' => w'.cell? ⟨w.heap.size + 1, 0, none⟩ = some (.bool true) ∧ w'.cell? ⟨w.heap.size + 1, 1, none⟩ = some (v) ∧ w'.cell? ⟨w.heap.size, 1, none⟩ = some (u))
    (first | exact keep3 HBy.out HBx.out (Fr.refl _ _).drew | exact keep3 HBy.out HBx.out (Fr.undrew (by assumption)) | exact keep3s HBy.out HBx.out (Fr.undrew (by assumption)) (by omega) (by omega))
    (first
      | (go_at_call 109
         refine (subtractWords_any _ _ n m _ (Hv.out.ext HE.out.drew) (Hu.out.ext HE.out.drew) Hn.out (by have := Hle.out; omega)).mono ?_
         rintro e w1 ⟨u1, rfl, hN1, hF1⟩
         rw [Hk.out] at hN1
         obtain ⟨A1, l1, c1, rfl⟩ := hN1.slice)
      | (go_at_call 106
         refine (signed_any _ _ _ _ (by assumption)).mono ?_
         rintro e w2 ⟨s2, rfl, hs2, hF2⟩
         have hF3 : Ext w'.drew w2 := Fr.ext (by assumption) hF2
         obtain ⟨z0, z1, z2, z3⟩ := (HBr.out.ext (Fr.undrew hF3)).cell2))
  go_wp2
  exact fin_int rfl rfl (by omega) HE.out HBr.out (Fr.undrew hF3) (hN1.ext hF2) hs2.out Hz.out

set_option maxHeartbeats 4000000 in
set_option maxRecDepth 100000 in
theorem Add_diff_true_ge (u v : Value) (m n k : Nat) (z : Int) (w : World) (hu : NatIs w u m) (hv : NatIs w v n) (hm : wl m ≤ 4294967296) (hn : wl n ≤ 4294967296) (hle : n ≤ m) (hk : m - n = k) (hz : z = sg true k) :
    Calls Tryz.prog 52 #[.agg #[.bool true, u], .agg #[.bool false, v]] w (RetInt w z) := by
  have Hu := Lib.hid hu
  have Hv := Lib.hid hv
  have Hm := Lib.hid hm
  have Hn := Lib.hid hn
  have Hle := Lib.hid hle
  have Hk := Lib.hid hk
  have Hz := Lib.hid hz
  clear hu hv hm hn hle hk hz
  go_enter Tryz.func52, Tryz.ntmps52
  go_wp2_with fail
  generalize hwb : World.alloc (World.alloc (World.alloc w _) _) _ = wb
  obtain ⟨hBx, hBy, hBr, hE⟩ := three_blocks hwb
  have HBx := Lib.hid hBx
  have HBy := Lib.hid hBy
  have HBr := Lib.hid hBr
  have HE := Lib.hid hE
  clear hwb hBx hBy hBr hE
  have cc1 := HBx.out.cell2.2.1
  have cc2 := HBy.out.cell2.2.1
  go_wp2_with fail
  clear cc1 cc2
  refine (compare_nat u v m n _ (Hu.out.ext HE.out) (Hv.out.ext HE.out) Hm.out Hn.out).mono ?_
  rintro e w' ⟨rfl, nd, hw'⟩
  obtain ⟨q, hq⟩ : ∃ q, cmpI m n = q := ⟨_, rfl⟩
  have hq0 : (0 : Int) ≤ q := by rw [← hq]; exact cmpI_nonneg Hle.out
  rw [hq]
  replace HBx := Lib.hid (show Blk _ w' _ _ from hw' ▸ HBx.out.drewN nd)
  replace HBy := Lib.hid (show Blk _ w' _ _ from hw' ▸ HBy.out.drewN nd)
  replace HBr := Lib.hid (show Blk _ w' _ _ from hw' ▸ HBr.out.drewN nd)
  replace HE := Lib.hid (show Ext w w' from hw' ▸ HE.out.drewN nd)
  clear hw' hq
  clear wb
  obtain ⟨wb, ewb⟩ : ∃ wb, w' = wb := ⟨_, rfl⟩
  subst ewb
  go_wp2_with fail
  go_region_held3 (fun w' => w'.cell? ⟨w.heap.size, 0, none⟩ = some (.bool true) ∧ w'.cell? ⟨w.heap.size, 1, none⟩ = some (u) ∧ w'.cell? ⟨w.heap.size + 1, 1, none⟩ = some (v))
    (first | exact keep3 HBx.out HBy.out (Fr.refl _ _).drew | exact keep3 HBx.out HBy.out (Fr.undrew (by assumption)) | exact keep3s HBx.out HBy.out (Fr.undrew (by assumption)) (by omega) (by omega))
    (first
      | (go_at_call 109
         refine (subtractWords_any _ _ m n _ (Hu.out.ext HE.out.drew) (Hv.out.ext HE.out.drew) Hm.out (by have := Hle.out; omega)).mono ?_
         rintro e w1 ⟨u1, rfl, hN1, hF1⟩
         rw [Hk.out] at hN1
         obtain ⟨A1, l1, c1, rfl⟩ := hN1.slice)
      | (go_at_call 106
         refine (signed_any _ _ _ _ (by assumption)).mono ?_
         rintro e w2 ⟨s2, rfl, hs2, hF2⟩
         have hF3 : Ext w'.drew w2 := Fr.ext (by assumption) hF2
         obtain ⟨z0, z1, z2, z3⟩ := (HBr.out.ext (Fr.undrew hF3)).cell2))
  go_wp2
  exact fin_int rfl rfl (by omega) HE.out HBr.out (Fr.undrew hF3) (hN1.ext hF2) hs2.out Hz.out

set_option maxHeartbeats 4000000 in
set_option maxRecDepth 100000 in
theorem Add_diff_true_lt (u v : Value) (m n k : Nat) (z : Int) (w : World) (hu : NatIs w u m) (hv : NatIs w v n) (hm : wl m ≤ 4294967296) (hn : wl n ≤ 4294967296) (hle : m < n) (hk : n - m = k) (hz : z = sg false k) :
    Calls Tryz.prog 52 #[.agg #[.bool true, u], .agg #[.bool false, v]] w (RetInt w z) := by
  have Hu := Lib.hid hu
  have Hv := Lib.hid hv
  have Hm := Lib.hid hm
  have Hn := Lib.hid hn
  have Hle := Lib.hid hle
  have Hk := Lib.hid hk
  have Hz := Lib.hid hz
  clear hu hv hm hn hle hk hz
  go_enter Tryz.func52, Tryz.ntmps52
  go_wp2_with fail
  generalize hwb : World.alloc (World.alloc (World.alloc w _) _) _ = wb
  obtain ⟨hBx, hBy, hBr, hE⟩ := three_blocks hwb
  have HBx := Lib.hid hBx
  have HBy := Lib.hid hBy
  have HBr := Lib.hid hBr
  have HE := Lib.hid hE
  clear hwb hBx hBy hBr hE
  have cc1 := HBx.out.cell2.2.1
  have cc2 := HBy.out.cell2.2.1
  go_wp2_with fail
  clear cc1 cc2
  refine (compare_nat u v m n _ (Hu.out.ext HE.out) (Hv.out.ext HE.out) Hm.out Hn.out).mono ?_
  rintro e w' ⟨rfl, nd, hw'⟩
  obtain ⟨q, hq⟩ : ∃ q, cmpI m n = q := ⟨_, rfl⟩
  have hq0 : q < 0 := by rw [← hq]; exact cmpI_neg.2 Hle.out
  rw [hq]
  replace HBx := Lib.hid (show Blk _ w' _ _ from hw' ▸ HBx.out.drewN nd)
  replace HBy := Lib.hid (show Blk _ w' _ _ from hw' ▸ HBy.out.drewN nd)
  replace HBr := Lib.hid (show Blk _ w' _ _ from hw' ▸ HBr.out.drewN nd)
  replace HE := Lib.hid (show Ext w w' from hw' ▸ HE.out.drewN nd)
  clear hw' hq
  clear wb
  obtain ⟨wb, ewb⟩ : ∃ wb, w' = wb := ⟨_, rfl⟩
  subst ewb
  go_wp2_with fail
  go_region_held3 (fun w' => w'.cell? ⟨w.heap.size + 1, 0, none⟩ = some (.bool false) ∧ w'.cell? ⟨w.heap.size + 1, 1, none⟩ = some (v) ∧ w'.cell? ⟨w.heap.size, 1, none⟩ = some (u))
    (first | exact keep3 HBy.out HBx.out (Fr.refl _ _).drew | exact keep3 HBy.out HBx.out (Fr.undrew (by assumption)) | exact keep3s HBy.out HBx.out (Fr.undrew (by assumption)) (by omega) (by omega))
    (first
      | (go_at_call 109
         refine (subtractWords_any _ _ n m _ (Hv.out.ext HE.out.drew) (Hu.out.ext HE.out.drew) Hn.out (by have := Hle.out; omega)).mono ?_
         rintro e w1 ⟨u1, rfl, hN1, hF1⟩
         rw [Hk.out] at hN1
         obtain ⟨A1, l1, c1, rfl⟩ := hN1.slice)
      | (go_at_call 106
         refine (signed_any _ _ _ _ (by assumption)).mono ?_
         rintro e w2 ⟨s2, rfl, hs2, hF2⟩
         have hF3 : Ext w'.drew w2 := Fr.ext (by assumption) hF2
         obtain ⟨z0, z1, z2, z3⟩ := (HBr.out.ext (Fr.undrew hF3)).cell2))
  go_wp2
  exact fin_int rfl rfl (by omega) HE.out HBr.out (Fr.undrew hF3) (hN1.ext hF2) hs2.out Hz.out

end Go.Proofs.YtndafmjcelgnbaaGreatDoor
