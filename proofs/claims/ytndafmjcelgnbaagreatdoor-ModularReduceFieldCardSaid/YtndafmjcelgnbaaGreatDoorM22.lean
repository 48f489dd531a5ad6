/-
  modular.Reconstruct, on the road where it succeeds with a number that is not whole.
  awake, and ModularPrimes.
-/
import Derived.Test.YtndafmjcelgnbaaGreatDoorM20
import Derived.Test.YtndafmjcelgnbaaGreatDoorM18
import Derived.Test.YtndafmjcelgnbaaGreatDoorM15
import Derived.Test.YtndafmjcelgnbaaGreatDoorM02
namespace Go.Proofs.YtndafmjcelgnbaaGreatDoor
open Go.RowKit

theorem yields_rat {ops : Array Oper} {S : World → Prop} {o : Oper} {a : Act} {p : Operand} {g : Nat} {x y z u : Value} (hg : o.guard = none) (ho : o.op = Op.load 80 p) (hp : a.eval p = .pointer (some ⟨g, 0, none⟩))
    (hc : ∀ w, S w → w.cell? ⟨g, 0, none⟩ = some x ∧ w.cell? ⟨g, 1, none⟩ = some y ∧ w.cell? ⟨g, 2, none⟩ = some z ∧ w.cell? ⟨g, 3, none⟩ = some u) : YieldsIf Tryz.prog ops S o (.agg #[x, y, z, u]) a :=
  Or.inl ⟨by unfold Region.wanted; rw [hg], fun w hS => by
    obtain ⟨h0, h1, h2, h3⟩ := hc w hS
    simp only [execOp, ho, hp]
    simp [go_sem, h0, h1, h2, h3]⟩
theorem keepRI {t t' : TypeId} {w w' : World} {g g' : Nat} {x y z u x' y' : Value} (h : Blk t w g #[x, y, z, u]) (h' : Blk t' w g' #[x', y']) (hF : Ext w w') :
    (w'.cell? ⟨g, 0, none⟩ = some x ∧ w'.cell? ⟨g, 1, none⟩ = some y ∧ w'.cell? ⟨g, 2, none⟩ = some z ∧ w'.cell? ⟨g, 3, none⟩ = some u) ∧ (w'.cell? ⟨g', 0, none⟩ = some x' ∧ w'.cell? ⟨g', 1, none⟩ = some y') :=
  ⟨⟨(h.ext hF).cell 0, (h.ext hF).cell 1, (h.ext hF).cell 2, (h.ext hF).cell 3⟩, ⟨(h'.ext hF).cell 0, (h'.ext hF).cell 1⟩⟩
/-- block g holds the rational number q -/
def RatAt (w : World) (g : Nat) (q : Rat) : Prop := ∃ s t A B l c l' c', Blk 80 w g #[.bool s, .slice A l c, .bool t, .slice B l' c'] ∧ IntIs w (.agg #[.bool s, .slice A l c]) q.num ∧ IntIs w (.agg #[.bool t, .slice B l' c']) (denF q)
def RatNew (wb wx : World) (g : Nat) (q : Rat) : Prop := RatAt wx g q ∧ Ext wb wx
section
variable {wb wr : World} {g : Nat} {q : Rat} {s t : Bool} {A B : Option Addr} {l c l' c' : Nat}
theorem rat_new (hX : Ext wb wr) (hn : IntIs wr (.agg #[.bool s, .slice A l c]) q.num) (hd : IntIs wr (.agg #[.bool t, .slice B l' c']) (denF q)) : RatNew wb (wr.alloc (.cells #[.bool s, .slice A l c, .bool t, .slice B l' c'] 80)) wr.heap.size q :=
  ⟨⟨_, _, _, _, _, _, _, _, Blk.new _ _ _, hn.ext ((Fr.refl _ _).alloc _), hd.ext ((Fr.refl _ _).alloc _)⟩, hX.alloc _⟩
theorem rat_put (hX : Ext wb wr) (hg : wb.heap.size ≤ g) (hb : Blk 80 wr g #[.bool false, .slice none 0 0, .bool false, .slice none 0 0]) (hn : IntIs wr (.agg #[.bool s, .slice A l c]) q.num) (hd : IntIs wr (.agg #[.bool t, .slice B l' c']) (denF q)) :
    RatNew wb ((((wr.setCell ⟨g, 0, none⟩ (.bool s)).setCell ⟨g, 1, none⟩ (.slice A l c)).setCell ⟨g, 2, none⟩ (.bool t)).setCell ⟨g, 3, none⟩ (.slice B l' c')) g q :=
  ⟨⟨_, _, _, _, _, _, _, _, hb.put4 _ _ _ _, hn.other hb noWords4 (Fr.set4 _ _ _ _), hd.other hb noWords4 (Fr.set4 _ _ _ _)⟩, Fr.local_ hX (Fr.set4 _ _ _ _) hg⟩
end

set_option maxHeartbeats 4000000 in
set_option maxRecDepth 100000 in
theorem Reconstruct_frac (s1 s2 : ByteArray) (v m : Int) (q : Rat) (w : World) (hg : Glob w) (hk1 : ReadOk (bytes s1)) (hk2 : ReadOk (bytes s2)) (hr1 : readF (bytes s1) = some (v : Rat)) (hr2 : readF (bytes s2) = some (m : Rat)) (hfv : Fits v) (hwm : wl m.natAbs < 39) (h2 : 2 ≤ m) (hga : GcdAll m)
    (hq : ∀ q' ok, RecIs v m q' ok → q' = q ∧ ok = true) (hpn : PrtOk q.num.natAbs) (hpd : PrtOk q.den) (hd1 : q.den ≠ 1) (hil : (Lib.itoa q.num).length ≤ 68719476736) :
    Calls Tryz.prog 17 #[.string s1, .string s2] w (RetV w (.tuple #[.string ⟨(ratText q).toArray⟩, .bool true])) := by
  have HG := Lib.hid hg
  have HK1 := Lib.hid hk1
  have HK2 := Lib.hid hk2
  have HR1 := Lib.hid hr1
  have HR2 := Lib.hid hr2
  have HFv : Hid (Fits (v : Rat).num) := hfv
  have HWm := Lib.hid hwm
  have HGA := Lib.hid hga
  have HQ : Hid (∀ q' ok, RecIs (v : Rat).num m q' ok → q' = q ∧ ok = true) := hq
  have HPn := Lib.hid hpn
  have HPd := Lib.hid hpd
  have HD1 := Lib.hid hd1
  have HIL := Lib.hid hil
  generalize hrt : ratText q = rt
  have HRT := Lib.hid hrt
  clear hg hk1 hk2 hr1 hr2 hfv hwm hga hq hpn hpd hd1 hil hrt
  go_enter Tryz.func17, Tryz.ntmps17
  go_wp2_with fail
  refine (Read_any s1 _ HG.out HK1.out).mono ?_
  rintro e w1 ⟨x1, ok1, rfl, hE1, h1⟩
  obtain ⟨rfl, q1, hq1, hx1⟩ : ok1 = true ∧ ∃ q, readF (bytes s1) = some q ∧ RatIs w1 x1 q := by
    rcases h1 with h | h
    · exact h
    · have := h.2.1; rw [HR1.out] at this; cases this
  obtain rfl : q1 = (v : Rat) := by rw [HR1.out] at hq1; injection hq1 with hq1; exact hq1.symm
  obtain ⟨sv, tv, Av, Bv, lv, cv, lv', cv', rfl, hvn, hvd⟩ := hx1
  have HVn := Lib.hid hvn
  have HVd := Lib.hid hvd
  have HE1 := Lib.hid hE1
  clear h1 hq1 hvn hvd hE1
  go_wp2_with fail
  generalize hwb : World.alloc w1 _ = w2
  obtain ⟨hBv, hE2⟩ := Blk.one hwb
  have HBv := Lib.hid hBv
  have HRv : Hid (RatIs w2 (.agg #[.bool sv, .slice Av lv cv, .bool tv, .slice Bv lv' cv']) (v : Rat)) := ⟨_, _, _, _, _, _, _, _, rfl, HVn.out.ext hE2, HVd.out.ext hE2⟩
  have HE2 := Lib.hid (HE1.out.trans hE2)
  generalize w1.heap.size = V at *
  clear hwb hBv hE2 HVn HVd HE1
  refine (Read_any s2 _ (HG.out.ext HE2.out) HK2.out).mono ?_
  rintro e w3 ⟨x3, ok3, rfl, hE3, h3⟩
  obtain ⟨rfl, q3, hq3, hx3⟩ : ok3 = true ∧ ∃ q, readF (bytes s2) = some q ∧ RatIs w3 x3 q := by
    rcases h3 with h | h
    · exact h
    · have := h.2.1; rw [HR2.out] at this; cases this
  obtain rfl : q3 = (m : Rat) := by rw [HR2.out] at hq3; injection hq3 with hq3; exact hq3.symm
  obtain ⟨sm, tm, Am, Bm, lm, cm, lm', cm', rfl, hmn, hmd⟩ := hx3
  have HMn := Lib.hid hmn
  have HMd := Lib.hid hmd
  replace HBv := Lib.hid (HBv.out.ext hE3)
  replace HRv := Lib.hid (HRv.out.ext hE3)
  have HE3 := Lib.hid (HE2.out.trans hE3)
  have hVlt := HBv.out.lt
  obtain ⟨p0, p1, p2, p3, _, _, _, _⟩ := HBv.out.cell4
  clear h3 hq3 hmn hmd hE3 HE2
  go_wp2_with fail
  generalize hwb : World.alloc w3 _ = w4
  obtain ⟨hBm, hE4⟩ := Blk.one hwb
  have HBm := Lib.hid hBm
  have HRm : Hid (RatIs w4 (.agg #[.bool sm, .slice Am lm cm, .bool tm, .slice Bm lm' cm']) (m : Rat)) := ⟨_, _, _, _, _, _, _, _, rfl, HMn.out.ext hE4, HMd.out.ext hE4⟩
  replace HBv := Lib.hid (HBv.out.ext hE4)
  replace HRv := Lib.hid (HRv.out.ext hE4)
  have HE4 := Lib.hid (HE3.out.trans hE4)
  generalize w3.heap.size = M at *
  clear hwb hBm hE4 HMn HMd HE3 p0 p1 p2 p3
  refine (IsWhole_any _ _ _ HRv.out).mono ?_
  rw [decide_eq_true (show ((v : Int) : Rat).den = 1 from rfl)]
  rintro e w5 ⟨rfl, hE5⟩
  replace HBv := Lib.hid (HBv.out.ext hE5)
  replace HBm := Lib.hid (HBm.out.ext hE5)
  replace HRv := Lib.hid (HRv.out.ext hE5)
  replace HRm := Lib.hid (HRm.out.ext hE5)
  have HE5 := Lib.hid (HE4.out.trans hE5)
  obtain ⟨p0, p1, p2, p3, _, _, _, _⟩ := HBm.out.cell4
  clear hE5 HE4
  go_wp2_with fail
  refine (IsWhole_any _ _ _ HRm.out).mono ?_
  rw [decide_eq_true (show ((m : Int) : Rat).den = 1 from rfl)]
  rintro e w6 ⟨rfl, hE6⟩
  replace HBv := Lib.hid (HBv.out.ext hE6)
  replace HBm := Lib.hid (HBm.out.ext hE6)
  replace HRv := Lib.hid (HRv.out.ext hE6)
  replace HRm := Lib.hid (HRm.out.ext hE6)
  have HE6 := Lib.hid (HE5.out.trans hE6)
  clear hE6 HE5 p0 p1 p2 p3
  obtain ⟨p0, p1, p2, p3, _, _, _, _⟩ := HBm.out.cell4
  go_wp2_with fail
  refine (Num_any _ _ _ HRm.out).mono ?_
  rintro e w7 ⟨u7, rfl, hI7, hE7⟩
  obtain ⟨sh, Ah, lh, ch, rfl⟩ := hI7.shape
  replace HBv := Lib.hid (HBv.out.ext hE7)
  replace HRv := Lib.hid (HRv.out.ext hE7)
  have HE7 := Lib.hid (HE6.out.trans hE7)
  have HIh : Hid (IntIs w7 (.agg #[.bool sh, .slice Ah lh ch]) m) := hI7
  have hVlt := HBv.out.lt
  clear hI7 hE7 HE6 p0 p1 p2 p3 HBm HRm
  go_wp2_with fail
  generalize hwb : World.alloc w7 _ = wc
  obtain ⟨hBh, hE8⟩ := Blk.one hwb
  have HBh := Lib.hid hBh
  replace HIh := Lib.hid (HIh.out.ext hE8)
  replace HBv := Lib.hid (HBv.out.ext hE8)
  replace HRv := Lib.hid (HRv.out.ext hE8)
  have HE := Lib.hid (HE7.out.trans hE8)
  generalize w7.heap.size = H at *
  clear hwb hBh hE8 HE7
  have HFm : Hid (Fits m) := by have := HWm.out; unfold Hid Fits; omega
  have HF2 : Hid (Fits ((2 : Nat) : Int)) := by
    have : wl 2 ≤ 1 := wl_one.2 (by rw [W64_eq]; omega)
    unfold Hid Fits; rw [Int.natAbs_natCast]; omega
  refine wp_region_T 4 (fun w' => w'.cell? ⟨H, 0, none⟩ = some (.bool sh) ∧ w'.cell? ⟨H, 1, none⟩ = some (.slice Ah lh ch)) follows_mixed ?_
  refine wpT_take 0 rfl (by kernel_rfl) (fun _ _ _ h => h) (keepI2 HBh.out HBh.out (Fr.refl _ _).drew).1 (fun _ => yields_int rfl rfl rfl (fun _ h => h)) (fun hS => ?_)
  refine wpT_only 1 rfl (by kernel_rfl) rfl (fun K hK => ?_)
  go_simp
  refine (New_pos 2 _ (by rw [W64_eq]; omega) rfl rfl).mono ?_
  rintro e w9 ⟨u9, rfl, hI9, hF9⟩
  obtain ⟨s9, A9, l9, c9, rfl⟩ := hI9.shape
  replace hF9 := Fr.undrew hF9
  refine hK _ _ (keepI2 HBh.out HBh.out hF9).1 ?_
  refine wpT_only 2 rfl (by kernel_rfl) rfl (fun K hK => ?_)
  go_simp
  refine (Compare_any _ _ m ((2 : Nat) : Int) _ (HIh.out.ext hF9) hI9 HFm.out HF2.out).mono ?_
  rintro e wb ⟨rfl, hFb⟩
  have hXb := hF9.trans hFb
  refine hK _ _ (keepI2 HBh.out HBh.out hXb).1 ?_
  have hcmp : decide (cmpI m ((2 : Nat) : Int) < 0) = false := by
    rw [decide_eq_false_iff_not]; intro h; rw [cmpI_negI] at h; omega
  have hcmp2 : 0 ≤ cmpI m 2 := by
    rcases Int.lt_or_le (cmpI m 2) 0 with h | h
    · rw [cmpI_negI] at h; omega
    · exact h
  refine wpT_only 3 rfl (by kernel_rfl) rfl (fun K hK => ?_)
  go_simp
  refine hK _ _ (keepI2 HBh.out HBh.out hXb).1 ?_
  refine wpT_tail (l := []) 4 rfl (by kernel_rfl) ?_
  replace HBv := Lib.hid (HBv.out.ext hXb)
  replace HRv := Lib.hid (HRv.out.ext hXb)
  replace HBh := Lib.hid (HBh.out.ext hXb)
  replace HIh := Lib.hid (HIh.out.ext hXb)
  replace HE := Lib.hid (HE.out.trans hXb)
  clear hK hS hI9 hF9 hFb hXb
  go_wp2_with fail
  go_cut [11, 12] (fun s11 s12 wx => ∃ g11 : Nat, s11 = .pointer (some ⟨g11, 0, none⟩) ∧ s12 = .bool true ∧ Hid (RatNew wb wx g11 q))
  case first =>
    refine wp_region_T 9 (fun w' => (w'.cell? ⟨V, 0, none⟩ = some (.bool sv) ∧ w'.cell? ⟨V, 1, none⟩ = some (.slice Av lv cv) ∧ w'.cell? ⟨V, 2, none⟩ = some (.bool tv) ∧ w'.cell? ⟨V, 3, none⟩ = some (.slice Bv lv' cv')) ∧ (w'.cell? ⟨H, 0, none⟩ = some (.bool sh) ∧ w'.cell? ⟨H, 1, none⟩ = some (.slice Ah lh ch))) follows_mixed ?_
    refine wpT_take 0 rfl (by kernel_rfl) (fun _ _ _ h => h) (keepRI HBv.out HBh.out ((Fr.refl _ _).drew)) (fun _ => yields_rat rfl rfl rfl (fun _ h => h.1)) (fun hS => ?_)
    refine wpT_take 2 rfl (by kernel_rfl) (fun _ _ _ h => h) hS (fun _ => yields_int rfl rfl rfl (fun _ h => h.2)) (fun hS => ?_)
    refine wpT_each (rs := [1, 7]) (by kernel_rfl) (forall_two ?_ ?_)
    · refine ⟨_, rfl, rfl, fun K hK => ?_⟩
      go_simp
      refine (Num_any _ _ _ (HRv.out.ext ((Fr.refl _ _).drew))).mono ?_
      rintro e wn ⟨un, rfl, hIn, hFn⟩
      obtain ⟨sn, An, ln, cn, rfl⟩ := hIn.shape
      have hXn : Ext wb wn := ((Fr.refl _ _).drew).trans hFn
      refine hK _ _ (keepRI HBv.out HBh.out (hXn)) ?_
      refine wpT_each (rs := [3, 7]) (by kernel_rfl) (forall_two ?_ ?_)
      · refine ⟨_, rfl, rfl, fun K hK => ?_⟩
        go_simp
        refine (ReconstructRatio_any _ _ (v : Rat).num m _ (HG.out.ext (HE.out.trans (hXn))) (hIn.ext (Fr.refl _ _)) (HIh.out.ext (hXn)) HFv.out HWm.out h2 HGA.out).mono ?_
        rintro e wr ⟨xr, qr, okr, rfl, hRr, hRi, hFr⟩
        have hXr : Ext wb wr := (hXn).trans hFr
        obtain ⟨rfl, rfl⟩ := HQ.out qr okr hRi
        obtain ⟨sr, tr, Ar, Br, lr, cr, lr', cr', rfl, hJn, hJd⟩ := hRr
        refine hK _ _ (keepRI HBv.out HBh.out (hXr)) ?_
        refine wpT_each (rs := [4, 7]) (by kernel_rfl) (forall_two ?_ ?_)
        · refine ⟨_, rfl, rfl, fun K hK => ?_⟩
          go_simp
          refine hK _ _ (keepRI HBv.out HBh.out (hXr)) ?_
          refine wpT_take 5 (v := .agg #[.bool sr, .slice Ar lr cr, .bool tr, .slice Br lr' cr']) rfl (by kernel_rfl) (fun _ _ _ h => h) (keepRI HBv.out HBh.out (hXr)) (fun _ => Or.inl ⟨rfl, fun w _ => by go_simp⟩) (fun hS => ?_)
          refine wpT_take 6 (v := .bool true) rfl (by kernel_rfl) (fun _ _ _ h => h) hS (fun _ => Or.inl ⟨rfl, fun w _ => by go_simp⟩) (fun hS => ?_)
          refine wpT_each (rs := [7]) (by kernel_rfl) (forall_one ?_)
          refine ⟨_, rfl, rfl, fun K hK => ?_⟩
          go_simp
          refine hK _ _ (keepRI HBv.out HBh.out (hXr.alloc _)) ?_
          refine wpT_each (rs := [8]) (by kernel_rfl) (forall_one ?_)
          refine ⟨_, rfl, rfl, fun K hK => ?_⟩
          go_simp
          refine hK _ _ (keepRI HBv.out HBh.out (hXr.alloc _)) ?_
          refine wpT_tail (l := [_]) 9 rfl (by kernel_rfl) ?_
          go_wp2_with fail
          go_meet
          exact ⟨_, rfl, rfl, rat_new hXr hJn hJd⟩
        · refine ⟨_, rfl, rfl, fun K hK => ?_⟩
          go_simp
          refine hK _ _ (keepRI HBv.out HBh.out (hXr.alloc _)) ?_
          refine wpT_each (rs := [4]) (by kernel_rfl) (forall_one ?_)
          refine ⟨_, rfl, rfl, fun K hK => ?_⟩
          go_simp
          refine hK _ _ (keepRI HBv.out HBh.out (hXr.alloc _)) ?_
          refine wpT_take 5 (v := .agg #[.bool sr, .slice Ar lr cr, .bool tr, .slice Br lr' cr']) rfl (by kernel_rfl) (fun _ _ _ h => h) (keepRI HBv.out HBh.out (hXr.alloc _)) (fun _ => Or.inl ⟨rfl, fun w _ => by go_simp⟩) (fun hS => ?_)
          refine wpT_take 6 (v := .bool true) rfl (by kernel_rfl) (fun _ _ _ h => h) hS (fun _ => Or.inl ⟨rfl, fun w _ => by go_simp⟩) (fun hS => ?_)
          refine wpT_each (rs := [8]) (by kernel_rfl) (forall_one ?_)
          refine ⟨_, rfl, rfl, fun K hK => ?_⟩
          go_simp
          refine hK _ _ (keepRI HBv.out HBh.out (hXr.alloc _)) ?_
          refine wpT_tail (l := [_]) 9 rfl (by kernel_rfl) ?_
          go_wp2_with fail
          go_meet
          exact ⟨_, rfl, rfl, rat_new hXr hJn hJd⟩
      · refine ⟨_, rfl, rfl, fun K hK => ?_⟩
        go_simp
        refine hK _ _ (keepRI HBv.out HBh.out (hXn.alloc _)) ?_
        refine wpT_each (rs := [3]) (by kernel_rfl) (forall_one ?_)
        refine ⟨_, rfl, rfl, fun K hK => ?_⟩
        go_simp
        refine (ReconstructRatio_any _ _ (v : Rat).num m _ (HG.out.ext (HE.out.trans (hXn.alloc _))) (hIn.ext (((Fr.refl _ _).alloc _))) (HIh.out.ext (hXn.alloc _)) HFv.out HWm.out h2 HGA.out).mono ?_
        rintro e wr ⟨xr, qr, okr, rfl, hRr, hRi, hFr⟩
        have hXr : Ext wb wr := (hXn.alloc _).trans hFr
        obtain ⟨rfl, rfl⟩ := HQ.out qr okr hRi
        obtain ⟨sr, tr, Ar, Br, lr, cr, lr', cr', rfl, hJn, hJd⟩ := hRr
        refine hK _ _ (keepRI HBv.out HBh.out (hXr)) ?_
        refine wpT_each (rs := [4]) (by kernel_rfl) (forall_one ?_)
        refine ⟨_, rfl, rfl, fun K hK => ?_⟩
        go_simp
        refine hK _ _ (keepRI HBv.out HBh.out (hXr)) ?_
        refine wpT_take 5 (v := .agg #[.bool sr, .slice Ar lr cr, .bool tr, .slice Br lr' cr']) rfl (by kernel_rfl) (fun _ _ _ h => h) (keepRI HBv.out HBh.out (hXr)) (fun _ => Or.inl ⟨rfl, fun w _ => by go_simp⟩) (fun hS => ?_)
        refine wpT_take 6 (v := .bool true) rfl (by kernel_rfl) (fun _ _ _ h => h) hS (fun _ => Or.inl ⟨rfl, fun w _ => by go_simp⟩) (fun hS => ?_)
        have hb := (Blk.new wn 80 #[.bool false, .slice none 0 0, .bool false, .slice none 0 0]).ext hFr
        obtain ⟨f0, f1, f2, f3, f4, f5, f6, f7⟩ := hb.cell4
        refine wpT_each (rs := [8]) (by kernel_rfl) (forall_one ?_)
        refine ⟨_, rfl, rfl, fun K hK => ?_⟩
        go_simp
        refine hK _ _ (keepRI HBv.out HBh.out ((rat_put hXr hXn.size hb hJn hJd).2)) ?_
        refine wpT_tail (l := [_]) 9 rfl (by kernel_rfl) ?_
        go_wp2_with fail
        go_meet
        exact ⟨_, rfl, rfl, rat_put hXr hXn.size hb hJn hJd⟩
    · refine ⟨_, rfl, rfl, fun K hK => ?_⟩
      go_simp
      refine hK _ _ (keepRI HBv.out HBh.out (((Fr.refl _ _).drew).alloc _)) ?_
      refine wpT_each (rs := [1]) (by kernel_rfl) (forall_one ?_)
      refine ⟨_, rfl, rfl, fun K hK => ?_⟩
      go_simp
      refine (Num_any _ _ _ (HRv.out.ext (((Fr.refl _ _).drew).alloc _))).mono ?_
      rintro e wn ⟨un, rfl, hIn, hFn⟩
      obtain ⟨sn, An, ln, cn, rfl⟩ := hIn.shape
      have hXn : Ext wb wn := (((Fr.refl _ _).drew).alloc _).trans hFn
      refine hK _ _ (keepRI HBv.out HBh.out (hXn)) ?_
      refine wpT_each (rs := [3]) (by kernel_rfl) (forall_one ?_)
      refine ⟨_, rfl, rfl, fun K hK => ?_⟩
      go_simp
      refine (ReconstructRatio_any _ _ (v : Rat).num m _ (HG.out.ext (HE.out.trans (hXn))) (hIn.ext (Fr.refl _ _)) (HIh.out.ext (hXn)) HFv.out HWm.out h2 HGA.out).mono ?_
      rintro e wr ⟨xr, qr, okr, rfl, hRr, hRi, hFr⟩
      have hXr : Ext wb wr := (hXn).trans hFr
      obtain ⟨rfl, rfl⟩ := HQ.out qr okr hRi
      obtain ⟨sr, tr, Ar, Br, lr, cr, lr', cr', rfl, hJn, hJd⟩ := hRr
      refine hK _ _ (keepRI HBv.out HBh.out (hXr)) ?_
      refine wpT_each (rs := [4]) (by kernel_rfl) (forall_one ?_)
      refine ⟨_, rfl, rfl, fun K hK => ?_⟩
      go_simp
      refine hK _ _ (keepRI HBv.out HBh.out (hXr)) ?_
      refine wpT_take 5 (v := .agg #[.bool sr, .slice Ar lr cr, .bool tr, .slice Br lr' cr']) rfl (by kernel_rfl) (fun _ _ _ h => h) (keepRI HBv.out HBh.out (hXr)) (fun _ => Or.inl ⟨rfl, fun w _ => by go_simp⟩) (fun hS => ?_)
      refine wpT_take 6 (v := .bool true) rfl (by kernel_rfl) (fun _ _ _ h => h) hS (fun _ => Or.inl ⟨rfl, fun w _ => by go_simp⟩) (fun hS => ?_)
      have hb := ((Blk.new wb 80 #[.bool false, .slice none 0 0, .bool false, .slice none 0 0]).ext (Fr.undrew hFn)).ext hFr
      obtain ⟨f0, f1, f2, f3, f4, f5, f6, f7⟩ := hb.cell4
      refine wpT_each (rs := [8]) (by kernel_rfl) (forall_one ?_)
      refine ⟨_, rfl, rfl, fun K hK => ?_⟩
      go_simp
      refine hK _ _ (keepRI HBv.out HBh.out ((rat_put hXr (Nat.le_refl _) hb hJn hJd).2)) ?_
      refine wpT_tail (l := [_]) 9 rfl (by kernel_rfl) ?_
      go_wp2_with fail
      go_meet
      exact ⟨_, rfl, rfl, rat_put hXr (Nat.le_refl _) hb hJn hJd⟩
  case rest =>
    obtain ⟨g11, rfl, rfl, hT⟩ := hcut
    obtain ⟨⟨s, t, A, B, l, c, l', c', hB11, hn11, hd11⟩, hEx⟩ := hT.out
    have HR11 : Hid (RatIs _ (.agg #[.bool s, .slice A l c, .bool t, .slice B l' c']) q) := ⟨_, _, _, _, _, _, _, _, rfl, hn11, hd11⟩
    have HEx := Lib.hid (HE.out.trans hEx)
    obtain ⟨p0, p1, p2, p3, _, _, _, _⟩ := hB11.cell4
    clear hT hB11 hn11 hd11 hEx
    go_wp2_with fail
    refine (RString_frac _ q _ (HG.out.ext HEx.out) HR11.out HPn.out HPd.out HD1.out HIL.out).mono ?_
    rw [HRT.out]
    rintro e wz ⟨rfl, hFz⟩
    have HFz := Lib.hid (HEx.out.trans hFz)
    clear hFz p0 p1 p2 p3
    go_wp2
    go_ret2
    exact ⟨rfl, HFz.out⟩
end Go.Proofs.YtndafmjcelgnbaaGreatDoor

namespace Go.Proofs.YtndafmjcelgnbaaGreatDoor
open Go.RowKit

theorem itoa_one {n : Nat} (h : n < 10) : Lib.itoa (n : Int) = [UInt8.ofNat (48 + n)] := by
  unfold Lib.itoa
  rw [if_neg (by omega), Int.toNat_natCast, Lib.decDigits, dif_pos h]
theorem itoa_15 : Lib.itoa 15 = [49, 53] := by
  unfold Lib.itoa
  rw [if_neg (by omega), show (15 : Int).toNat = 15 from rfl, Lib.decDigits, dif_neg (by omega), Lib.decDigits, dif_pos (by omega)]
  rfl
theorem pr3 : Pr 3 := Pr.of_noDiv (d := 2) (by omega) (by omega) (NoDiv.two 3) (by omega) (by omega)
theorem pr5 : Pr 5 := Pr.of_noDiv (d := 3) (by omega) (by omega) (NoDiv.three (by omega)) (by omega) (by omega)
theorem crt_awake : crt (List.zip [2, 3] [3, 5]) = (8, 15) := by decide
theorem comb_awake {s t : List UInt8} {c : Int} (h : CombIs [2, 3] [3, 5] s t c) : s = [56] ∧ t = [49, 53] ∧ c = 0 := by
  have hp : ∀ p ∈ ([3, 5] : List Int), Pr p := by
    intro p hp
    simp at hp
    rcases hp with rfl | rfl
    · exact pr3
    · exact pr5
  have hn : ([3, 5] : List Int).Nodup := by decide
  rcases h with h | h | h | h | h
  · exact absurd rfl h.1
  · have := h.2.1; simp at this
  · obtain ⟨p, hp1, hp2⟩ := h.2.2.1
    exact absurd (hp p hp1) hp2
  · exact absurd hn h.2.2.2.1
  · obtain ⟨_, _, _, _, h1, h2, h3⟩ := h
    rw [crt_awake] at h1 h2
    exact ⟨h1.trans (itoa_one (n := 8) (by omega)), h2.trans itoa_15, h3⟩
theorem split8 : splitF [56] = (false, [56], [], true) := by decide
theorem split15 : splitF [49, 53] = (false, [49, 53], [], true) := by decide
theorem read8 : readF [56] = some ((8 : Int) : Rat) := by
  unfold readF
  rw [split8]
  rfl
theorem read15 : readF [49, 53] = some ((15 : Int) : Rat) := by
  unfold readF
  rw [split15]
  rfl
theorem readOk8 : ReadOk [56] := ⟨by simp, fun neg num den h hd => by rw [split8] at h; injection h with _ h; injection h with _ h; injection h with h _; exact absurd h.symm hd⟩
theorem readOk15 : ReadOk [49, 53] := ⟨by simp, fun neg num den h hd => by rw [split15] at h; injection h with _ h; injection h with _ h; injection h with h _; exact absurd h.symm hd⟩
theorem run_awake : RecRun 15 15 (8 % 15) 0 1 1 2 := by
  refine RecRun.step (by decide) ?_
  refine RecRun.step (by decide) ?_
  exact RecRun.done (by decide)
theorem rec_awake (q : Rat) (ok : Bool) (h : RecIs 8 15 q ok) : q = Rat.divInt 1 2 ∧ ok = true := by
  obtain ⟨r, t, h1, h2⟩ := h
  obtain ⟨rfl, rfl⟩ := h1.unique run_awake
  rcases h2 with h2 | h2
  · exact ⟨h2.2.2.2.2, h2.1⟩
  · exact absurd ⟨by decide, by decide, by decide⟩ h2.2.1
theorem half_parts : (Rat.divInt 1 2).num = 1 ∧ (Rat.divInt 1 2).den = 2 := by decide
theorem half_text : ratText (Rat.divInt 1 2) = [49, 47, 50] := by
  unfold ratText
  rw [half_parts.1, half_parts.2, if_neg (by omega)]
  rw [show (1 : Int) = ((1 : Nat) : Int) from rfl, itoa_one (by omega), itoa_one (n := 2) (by omega)]
  rfl

theorem iShows_two {w : World} {g : Nat} {x y : Int} {t : TypeId} (h : Blk t w g #[.int .i64 x, .int .i64 y]) : IShows w (some ⟨g, 0, none⟩) [x, y] := fun _ => by
  refine ⟨g, 0, rfl, h.lt, fun i hi => ?_⟩
  rw [Nat.zero_add, h.cell]
  rcases i with _ | _ | i
  · rfl
  · rfl
  · simp at hi; omega

set_option maxHeartbeats 2000000 in
set_option maxRecDepth 100000 in
theorem awake_any (w : World) (hg : Glob w) : Calls Tryz.prog 13 #[] w (RetV w (.bool true)) := by
  have HG := Lib.hid hg
  clear hg
  go_enter Tryz.func13, Tryz.ntmps13
  go_wp2_with fail
  generalize hwb : World.alloc (World.alloc w _) _ = wb
  obtain ⟨hB0, hB1, hE⟩ := two_blocks hwb
  clear hwb
  refine (Combine_any _ _ [2, 3] [3, 5] 2 2 2 2 _ (HG.out.ext hE) rfl rfl (iShows_two hB0) (iShows_two hB1) ?_ ?_ (by omega) (by omega) (by omega)).mono ?_
  · intro z hz; simp at hz; omega
  · intro z hz; simp at hz; omega
  rintro e w1 ⟨s, t, c, rfl, hC, hF1⟩
  obtain ⟨rfl, rfl, rfl⟩ := comb_awake hC
  have HE1 := Lib.hid (hE.trans hF1)
  clear hB0 hB1 hE hC hF1
  go_wp2_with fail
  have hp := half_parts
  refine (Reconstruct_frac ⟨#[56]⟩ ⟨#[49, 53]⟩ 8 15 (Rat.divInt 1 2) _ (HG.out.ext HE1.out) readOk8 readOk15 read8 read15 ?_ ?_ (by omega) (GcdAll.small ?_) rec_awake ?_ ?_ ?_ ?_).mono ?_
  · have : wl 8 ≤ 1 := wl_one.2 (by rw [W64_eq]; omega)
    unfold Fits; show wl 8 ≤ _; omega
  · have : wl 15 ≤ 1 := wl_one.2 (by rw [W64_eq]; omega)
    show wl 15 < _; omega
  · rw [W64_eq]; decide
  · rw [hp.1]; exact PrtOk.one (by rw [W64_eq]; decide)
  · rw [hp.2]; exact PrtOk.one (by rw [W64_eq]; decide)
  · rw [hp.2]; omega
  · rw [hp.1, show (1 : Int) = ((1 : Nat) : Int) from rfl, itoa_one (by omega)]; simp
  rw [half_text]
  rintro e w2 ⟨rfl, hF2⟩
  have HE2 := Lib.hid (HE1.out.trans hF2)
  clear hF2 hp
  go_wp2
  go_ret
  exact ⟨by first | rfl | (simp [Lib.toList_data]), HE2.out⟩

end Go.Proofs.YtndafmjcelgnbaaGreatDoor
