/-
 My texts SxK, Ra, Reduce2, Ts, PaM, Sx8, Sx9, Pw, Vl, Fs, Cmp put together.
-/
import Derived.Test.YtibipjlohahekaaGreatDoorM16
import Derived.Test.YtibipjlohahekaaGreatDoorM15
import Derived.Test.YtibipjlohahekaaGreatDoorM13
import Derived.Test.YtibipjlohahekaaGreatDoorM01
import Derived.Deep.LoopGhost
import Derived.Test.YtibipjlohahekaaGreatDoorM06
import Derived.Test.YtibipjlohahekaaGreatDoorM10
import Derived.Test.YtibipjlohahekaaGreatDoorM03
import Derived.Test.YtibipjlohahekaaGreatDoorM11
namespace Go.Proofs.YtibipjlohahekaaGreatDoor
open Go.RowKit
section
variable {S : Nat → Prop} {w w' w0 : World} {k : IntKind} {A : Option Addr} {xs : List Nat}
theorem Shows.nrb (hk : k ≠ .i64) (h : Shows k w A xs) (hS : ∀ i,S i → NRB w i) (hF : Fr S w w') : Shows k w' A xs := by
 cases xs with
 | nil => exact Shows.nil
 | cons x xs =>
   refine h.fr hF (fun ad hA hlt hs => ?_)
   obtain ⟨g,off,e',_,hcl⟩ := h.at (i := 0) (by simp)
   rw [e'] at hA
   injection hA with hA
   subst hA
   obtain ⟨t,cs,hB,hc⟩ := hS _ hs
   rw [hB.cell] at hcl
   exact hk (hc _ _ _ hcl)
theorem NatIs.nrb {u : Value} {n : Nat} (h : NatIs w u n) (hS : ∀ i,S i → NRB w i) (hF : Fr S w w') : NatIs w' u n := by
 obtain ⟨A',xs,c',h1,h2,h3,h4⟩ := h
 exact ⟨A',xs,c',h1,h2,h3.nrb (by decide) hS hF,h4⟩
theorem IntIs.nrb {v : Value} {z : Int} (h : IntIs w v z) (hS : ∀ i,S i → NRB w i) (hF : Fr S w w') : IntIs w' v z := by
 obtain ⟨s',u,n,h1,h2,h3⟩ := h
 exact ⟨s',u,n,h1,h2.nrb hS hF,h3⟩
theorem RatIs.nrb {v : Value} {q : Rat} (h : RatIs w v q) (hS : ∀ i,S i → NRB w i) (hF : Fr S w w') : RatIs w' v q := by
 obtain ⟨s,t,A,B,l,c,l',c',h1,h2,h3⟩ := h
 exact ⟨s,t,A,B,l,c,l',c',h1,h2.nrb hS hF,h3.nrb hS hF⟩
theorem NRB.ext {i : Nat} (h : NRB w i) (he : Ext w w') : NRB w' i := by
 obtain ⟨t,cs,hB,hc⟩ := h
 exact ⟨t,cs,hB.ext he,hc⟩
theorem boxn {φ : World → Prop} (he : Ext w w') (h : ∀ S w'',(∀ i,S i → NRB w' i) → Fr S w' w'' → φ w'') : BoxN w w' φ := fun S hS w'' hf => h S w'' (fun i hi => (hS i hi).2.ext he) hf
end
abbrev ShI := Bool × Option Addr × Nat × Nat
abbrev ShQ := Bool × Option Addr × Nat × Nat × Bool × Option Addr × Nat × Nat
abbrev ShN := Option Addr × Nat × Nat
def shInt (x : ShI) : Value := .agg #[.bool x.1, .slice x.2.1 x.2.2.1 x.2.2.2]
def shRat (x : ShQ) : Value := .agg #[.bool x.1, .slice x.2.1 x.2.2.1 x.2.2.2.1, .bool x.2.2.2.2.1, .slice x.2.2.2.2.2.1 x.2.2.2.2.2.2.1 x.2.2.2.2.2.2.2]
def shNat (x : ShN) : Value := .slice x.1 x.2.1 x.2.2
section
variable {w w' : World} {e : Ending}
theorem post_Int {z : Int} (h : RetInt w z e w') : PostC shInt (fun x w => IntIs w (shInt x) z) w e w' := by
 obtain ⟨v,rfl,hI,hE⟩ := h
 obtain ⟨s,A,l,c,rfl⟩ := hI.shp
 exact ⟨(s,A,l,c),rfl,hE,boxn hE (fun S w'' hS hF => hI.nrb hS hF)⟩
theorem post_Rat {q : Rat} (h : RetRat w q e w') : PostC shRat (fun x w => RatIs w (shRat x) q) w e w' := by
 obtain ⟨v,rfl,hI,hE⟩ := h
 obtain ⟨s,A,l,c,t,B,m,d,rfl⟩ := hI.shp
 exact ⟨(s,A,l,c,t,B,m,d),rfl,hE,boxn hE (fun S w'' hS hF => hI.nrb hS hF)⟩
def RetInt2 (w : World) (x y : Int) (e : Ending) (w' : World) : Prop := ∃ u v,e = .returned (.tuple #[u,v]) ∧ IntIs w' u x ∧ IntIs w' v y ∧ Ext w w'
def shInt2 (x : ShI × ShI) : Value := .tuple #[shInt x.1,shInt x.2]
theorem post_Int2 {a b : Int} (h : RetInt2 w a b e w') : PostC shInt2 (fun x w => IntIs w (shInt x.1) a ∧ IntIs w (shInt x.2) b) w e w' := by
 obtain ⟨u,v,rfl,hI,hJ,hE⟩ := h
 obtain ⟨s,A,l,c,rfl⟩ := hI.shp
 obtain ⟨s',A',l',c',rfl⟩ := hJ.shp
 exact ⟨((s,A,l,c),(s',A',l',c')),rfl,hE,boxn hE (fun S w'' hS hF => ⟨hI.nrb hS hF,hJ.nrb hS hF⟩)⟩
theorem sign3 (x : Int) : (x < 0 ∧ x.sign = -1) ∨ (x = 0 ∧ x.sign = 0) ∨ (0 < x ∧ x.sign = 1) := by
 rcases Int.lt_trichotomy x 0 with h | h | h
 ·exact Or.inl ⟨h,Int.sign_eq_neg_one_of_neg h⟩
 ·exact Or.inr (Or.inl ⟨h,by rw [h]; rfl⟩)
 ·exact Or.inr (Or.inr ⟨h,Int.sign_eq_one_of_pos h⟩)
theorem post_val {v u : Value} (h : e = .returned v ∧ Ext w w') (hv : v = u) : PostC (fun _ : Unit => u) (fun _ _ => True) w e w' := by
 obtain ⟨rfl,hE⟩ := h
 subst hv
 exact ⟨(),rfl,hE,BoxN.pure trivial⟩
end
end Go.Proofs.YtibipjlohahekaaGreatDoor

namespace Go.Proofs.YtibipjlohahekaaGreatDoor
open Go.RowKit
def QFits (q : Rat) (k : Nat) : Prop := wl q.num.natAbs ≤ k ∧ wl q.den ≤ k
theorem wlm {x y : Int} {a b : Nat} (hx : wl x.natAbs ≤ a) (hy : wl y.natAbs ≤ b) : wl (x * y).natAbs ≤ a + b := by
 have h := wl_mul x.natAbs y.natAbs
 rw [← Int.natAbs_mul] at h
 omega
theorem wla {x y : Int} {a : Nat} (hx : wl x.natAbs ≤ a) (hy : wl y.natAbs ≤ a) : wl (x + y).natAbs ≤ a + 1 :=
 Nat.le_trans (wl_mono (Int.natAbs_add_le x y)) (wl_add hx hy)
theorem wlc {n k : Nat} (h : wl n ≤ k) : wl ((n : Int)).natAbs ≤ k := by rw [Int.natAbs_natCast]; exact h
theorem wlq {x y : Int} {k : Nat} (h : wl x.natAbs ≤ k) : wl (x.tdiv y).natAbs ≤ k := by
 rw [Int.natAbs_tdiv]; exact Nat.le_trans (wl_mono (Nat.div_le_self _ _)) h
theorem wld {n m k : Nat} (h : wl n ≤ k) : wl (n / m) ≤ k := Nat.le_trans (wl_mono (Nat.div_le_self _ _)) h
theorem wlg {x y : Int} {k : Nat} (h : wl y.natAbs ≤ k) (h0 : y ≠ 0) : wl (Int.gcd x y) ≤ k :=
 Nat.le_trans (wl_mono (Nat.gcd_le_right _ (by omega))) h
theorem fit {x : Int} {k : Nat} (h : wl x.natAbs ≤ k) (hk : k ≤ 1048576) : Fits x := Nat.le_trans h hk
theorem nat_tdiv (a b : Nat) : (a : Int).tdiv (b : Int) = ((a / b : Nat) : Int) := by
 rw [Int.tdiv_eq_ediv_of_nonneg (by omega)]; rfl
theorem radd_whole {p q : Rat} (h : p.den = 1) : (p + q).num = p.num * (q.den : Int) + q.num ∧ (p + q).den = q.den := by
 have := radd_one (p := p) (q := q) (by rw [h]; exact Nat.gcd_one_left _)
 rw [h] at this
 simpa using this
theorem denF_of {q : Rat} {n : Nat} (h : q.den = n) (h1 : n ≠ 1) : denF q = (n : Int) := by rw [denF_big (by rw [h]; exact h1),h]
theorem gcd_nz {x : Int} {y : Int} (h : y ≠ 0) : ((Int.gcd x y : Nat) : Int) ≠ 0 := fun e => h ((Int.gcd_eq_zero_iff.1 (Int.ofNat_eq_zero.1 e)).2)
theorem QFits.neg {q : Rat} {k : Nat} (h : QFits q k) : QFits (-q) k := ⟨by rw [rneg_num,Int.natAbs_neg]; exact h.1,h.2⟩
theorem QFits.inv {q : Rat} {k : Nat} (h : QFits q k) : QFits (q⁻¹) k := by
 obtain ⟨h1,h2⟩ := h
 rcases sign3' q.num with ⟨h,_⟩ | ⟨h,_⟩ | ⟨h,_⟩
 ·obtain ⟨e1,e2⟩ := rinv_neg h
  refine ⟨by rw [e1,Int.natAbs_neg,Int.natAbs_natCast]; exact h2,?_⟩
  have : (q⁻¹).den = q.num.natAbs := by omega
  rw [this]; exact h1
 ·rw [rinv_zero h]; exact ⟨by rw [show (0 : Rat).num.natAbs = 0 from rfl]; exact Nat.le_trans (wl_mono (Nat.zero_le _)) h1,Nat.le_trans (wl_mono (by have := q.den_nz; show 1 ≤ q.den; omega)) h2⟩
 ·obtain ⟨e1,e2⟩ := rinv_pos h
  refine ⟨by rw [e1,Int.natAbs_natCast]; exact h2,?_⟩
  have : (q⁻¹).den = q.num.natAbs := by omega
  rw [this]; exact h1
set_option maxRecDepth 100000 in
theorem QNeg_any (a : Value) (q : Rat) (w : World) (ha : RatIs w a q) :
 Calls Tryz.prog 131 #[a] w (RetRat w (-q)) := by
 obtain ⟨s0,A0,l0,c0,t0,B0,m0,d0,rfl⟩ := ha.shp
 refine sx_enter (Φ := fun w => RatIs w (.agg #[.bool s0, .slice A0 l0 c0, .bool t0, .slice B0 m0 d0]) (q)) Tryz.func131 rfl (by kernel_rfl) (fun w' hf => ha.ext hf) ?_
 refine sx_seq ?_
 refine sx_region ?_
 refine sx_run 2 [(1, .p 1 0),(2, .p 2 0)] [(2,70,[.v (.bool false), .v (.slice none 0 0), .v (.bool false), .v (.slice none 0 0)]),(1,70,[.v (.bool s0), .v (.slice A0 l0 c0), .v (.bool t0), .v (.slice B0 m0 d0)])] (by kernel_rfl) (by kernel_rfl) ?_
 refine sx_end (by kernel_rfl) ?_
 refine sx_next ?_
 refine sx_seq ?_
 refine sx_draw 7 (by kernel_rfl) (by kernel_rfl) follows_mixed' ?_
 refine st_flt 2 [(1, .p 1 0),(2, .p 2 0),(4, .v (.agg #[.bool s0, .slice A0 l0 c0]))] [(2,70,[.v (.bool false), .v (.slice none 0 0), .v (.bool false), .v (.slice none 0 0)]),(1,70,[.v (.bool s0), .v (.slice A0 l0 c0), .v (.bool t0), .v (.slice B0 m0 d0)])] (by kernel_rfl) (by kernel_rfl) ?_
 refine st_call 61 [.agg #[.bool s0, .slice A0 l0 c0]] 5 shInt _ (by kernel_rfl) (by kernel_rfl) (by kernel_rfl) (fun w hE hΦ => (Neg_any _ ((q).num) _ hΦ.num).mono (fun _ _ h => post_Int h)) (fun xx => ?_)
 obtain ⟨s10,A10,l10,c10⟩ := xx
 refine st_flt 4 [(2, .p 2 0)] [(2,70,[.v (.bool s10), .v (.slice A10 l10 c10), .v (.bool t0), .v (.slice B0 m0 d0)]),(2,70,[.v (.bool false), .v (.slice none 0 0), .v (.bool false), .v (.slice none 0 0)]),(1,70,[.v (.bool s0), .v (.slice A0 l0 c0), .v (.bool t0), .v (.slice B0 m0 d0)])] (by kernel_rfl) (by kernel_rfl) ?_
 refine st_end (by kernel_rfl) ?_
 refine sx_end (by kernel_rfl) ?_
 refine sx_next ?_
 refine sx_ret ?_
 refine sx_done (v := .agg #[.bool s10, .slice A10 l10 c10, .bool t0, .slice B0 m0 d0]) (by kernel_rfl) (fun w' hE hΦ => ?_)
 exact ⟨_,rfl,RatIs.of (by rw [rneg_num]; exact hΦ.2) (by rw [denF_neg]; exact hΦ.1.den),hE⟩
set_option maxRecDepth 100000 in
theorem QAdd_ww (a b : Value) (p q : Rat) (w : World) (ha : RatIs w a p) (hb : RatIs w b q) (hp : QFits p 38) (hq : QFits q 38) (h1 : p.den = 1) (h2 : q.den = 1) :
 Calls Tryz.prog 80 #[a,b] w (RetRat w (p + q)) := by
 obtain ⟨s0,A0,l0,c0,t0,B0,m0,d0,rfl⟩ := ha.shp
 obtain ⟨s1,A1,l1,c1,t1,B1,m1,d1,rfl⟩ := hb.shp
 have S1 : wl p.num.natAbs ≤ 38 := hp.1
 have S2 : wl q.num.natAbs ≤ 38 := hq.1
 have hp2 : wl p.den ≤ 38 := hp.2
 have hq2 : wl q.den ≤ 38 := hq.2
 have S3 : wl ((p.den : Nat) : Int).natAbs ≤ 38 := wlc hp2
 have S4 : wl ((q.den : Nat) : Int).natAbs ≤ 38 := wlc hq2
 have HW := rat_whole_add h1 h2
 refine sx_enter (Φ := fun w => (((RatIs w (.agg #[.bool s0, .slice A0 l0 c0, .bool t0, .slice B0 m0 d0]) (p) ∧ RatIs w (.agg #[.bool s1, .slice A1 l1 c1, .bool t1, .slice B1 m1 d1]) (q)) ∧ IntIs w (.agg #[.bool t0, .slice B0 m0 d0]) (0)) ∧ IntIs w (.agg #[.bool t1, .slice B1 m1 d1]) (0))) Tryz.func80 rfl (by kernel_rfl) (fun w' hf => ⟨⟨⟨ha.ext hf,hb.ext hf⟩,(by have h := ha.den; rw [denF_one h1] at h; exact h.ext hf)⟩,(by have h := hb.den; rw [denF_one h2] at h; exact h.ext hf)⟩) ?_
 refine sx_seq ?_
 refine sx_region ?_
 refine sx_run 3 [(2, .p 2 0),(3, .p 3 0),(4, .p 4 0)] [(4,70,[.v (.bool false), .v (.slice none 0 0), .v (.bool false), .v (.slice none 0 0)]),(3,70,[.v (.bool s1), .v (.slice A1 l1 c1), .v (.bool t1), .v (.slice B1 m1 d1)]),(2,70,[.v (.bool s0), .v (.slice A0 l0 c0), .v (.bool t0), .v (.slice B0 m0 d0)])] (by kernel_rfl) (by kernel_rfl) ?_
 refine sx_end (by kernel_rfl) ?_
 refine sx_next ?_
 refine sx_seq ?_
 refine sx_block ?_
 refine sx_seq ?_
 refine sx_region ?_
 refine sx_run 2 [(2, .p 2 0),(3, .p 3 0),(4, .p 4 0),(12, .v (.agg #[.bool t0, .slice B0 m0 d0]))] [(4,70,[.v (.bool false), .v (.slice none 0 0), .v (.bool false), .v (.slice none 0 0)]),(3,70,[.v (.bool s1), .v (.slice A1 l1 c1), .v (.bool t1), .v (.slice B1 m1 d1)]),(2,70,[.v (.bool s0), .v (.slice A0 l0 c0), .v (.bool t0), .v (.slice B0 m0 d0)])] (by kernel_rfl) (by kernel_rfl) ?_
 refine sx_call 60 [.agg #[.bool t0, .slice B0 m0 d0]] 13 (fun _ : Unit => .bool true) _ (by kernel_rfl) (by kernel_rfl) (fun w hE hΦ => (IsZero_any _ (0) _ hΦ.1.2).mono (fun _ _ h => post_val h (by rw [decide_eq_true (p := (0) = 0) rfl]))) (fun xx => ?_)
 refine sx_run 3 [(2, .p 2 0),(3, .p 3 0),(4, .p 4 0),(14, .v (.bool true)),(16, .v (.agg #[.bool t1, .slice B1 m1 d1]))] [(4,70,[.v (.bool false), .v (.slice none 0 0), .v (.bool false), .v (.slice none 0 0)]),(3,70,[.v (.bool s1), .v (.slice A1 l1 c1), .v (.bool t1), .v (.slice B1 m1 d1)]),(2,70,[.v (.bool s0), .v (.slice A0 l0 c0), .v (.bool t0), .v (.slice B0 m0 d0)])] (by kernel_rfl) (by kernel_rfl) ?_
 refine sx_call 60 [.agg #[.bool t1, .slice B1 m1 d1]] 17 (fun _ : Unit => .bool true) _ (by kernel_rfl) (by kernel_rfl) (fun w hE hΦ => (IsZero_any _ (0) _ hΦ.1.2).mono (fun _ _ h => post_val h (by rw [decide_eq_true (p := (0) = 0) rfl]))) (fun xx => ?_)
 refine sx_run 2 [(2, .p 2 0),(3, .p 3 0),(4, .p 4 0),(10, .v (.bool true))] [(4,70,[.v (.bool false), .v (.slice none 0 0), .v (.bool false), .v (.slice none 0 0)]),(3,70,[.v (.bool s1), .v (.slice A1 l1 c1), .v (.bool t1), .v (.slice B1 m1 d1)]),(2,70,[.v (.bool s0), .v (.slice A0 l0 c0), .v (.bool t0), .v (.slice B0 m0 d0)])] (by kernel_rfl) (by kernel_rfl) ?_
 refine sx_end (by kernel_rfl) ?_
 refine sx_next ?_
 refine sx_cond_t (by kernel_rfl) ?_
 refine sx_seq ?_
 refine sx_region ?_
 refine sx_run 4 [(2, .p 2 0),(3, .p 3 0),(4, .p 4 0),(20, .v (.agg #[.bool s0, .slice A0 l0 c0])),(22, .v (.agg #[.bool s1, .slice A1 l1 c1]))] [(4,70,[.v (.bool false), .v (.slice none 0 0), .v (.bool false), .v (.slice none 0 0)]),(3,70,[.v (.bool s1), .v (.slice A1 l1 c1), .v (.bool t1), .v (.slice B1 m1 d1)]),(2,70,[.v (.bool s0), .v (.slice A0 l0 c0), .v (.bool t0), .v (.slice B0 m0 d0)])] (by kernel_rfl) (by kernel_rfl) ?_
 refine sx_call 130 [.agg #[.bool s0, .slice A0 l0 c0], .agg #[.bool s1, .slice A1 l1 c1]] 23 shInt _ (by kernel_rfl) (by kernel_rfl) (fun w hE hΦ => (Add_any _ _ ((p).num) ((q).num) _ hΦ.1.1.1.1.1.num hΦ.1.1.1.1.2.num (fit S1 (by decide)) (fit S2 (by decide))).mono (fun _ _ h => post_Int h)) (fun xx => ?_)
 obtain ⟨s10,A10,l10,c10⟩ := xx
 refine sx_run 2 [(2, .p 2 0),(3, .p 3 0),(4, .p 4 0)] [(4,70,[.v (.bool s10), .v (.slice A10 l10 c10), .v (.bool false), .v (.slice none 0 0)]),(3,70,[.v (.bool s1), .v (.slice A1 l1 c1), .v (.bool t1), .v (.slice B1 m1 d1)]),(2,70,[.v (.bool s0), .v (.slice A0 l0 c0), .v (.bool t0), .v (.slice B0 m0 d0)])] (by kernel_rfl) (by kernel_rfl) ?_
 refine sx_end (by kernel_rfl) ?_
 refine sx_next ?_
 refine sx_ret ?_
 refine sx_in_ret ?_
 refine sx_then_ret ?_
 refine sx_done (v := .agg #[.bool s10, .slice A10 l10 c10, .bool false, .slice none 0 0]) (by kernel_rfl) (fun w' hE hΦ => ?_)
 exact ⟨_,rfl,RatIs.of (by rw [HW.1]; exact hΦ.2) (by rw [denF_one HW.2]; exact (IntIs.nil _)),hE⟩
set_option maxRecDepth 100000 in
theorem QAdd_wf (a b : Value) (p q : Rat) (w : World) (ha : RatIs w a p) (hb : RatIs w b q) (hp : QFits p 38) (hq : QFits q 38) (h1 : p.den = 1) (h2 : ¬ q.den = 1) :
 Calls Tryz.prog 80 #[a,b] w (RetRat w (p + q)) := by
 obtain ⟨s0,A0,l0,c0,t0,B0,m0,d0,rfl⟩ := ha.shp
 obtain ⟨s1,A1,l1,c1,t1,B1,m1,d1,rfl⟩ := hb.shp
 have S1 : wl p.num.natAbs ≤ 38 := hp.1
 have S2 : wl q.num.natAbs ≤ 38 := hq.1
 have hp2 : wl p.den ≤ 38 := hp.2
 have hq2 : wl q.den ≤ 38 := hq.2
 have S3 : wl ((p.den : Nat) : Int).natAbs ≤ 38 := wlc hp2
 have S4 : wl ((q.den : Nat) : Int).natAbs ≤ 38 := wlc hq2
 have HW := radd_whole (q := q) h1
 refine sx_enter (Φ := fun w => (((RatIs w (.agg #[.bool s0, .slice A0 l0 c0, .bool t0, .slice B0 m0 d0]) (p) ∧ RatIs w (.agg #[.bool s1, .slice A1 l1 c1, .bool t1, .slice B1 m1 d1]) (q)) ∧ IntIs w (.agg #[.bool t0, .slice B0 m0 d0]) (0)) ∧ IntIs w (.agg #[.bool t1, .slice B1 m1 d1]) ((q.den : Int)))) Tryz.func80 rfl (by kernel_rfl) (fun w' hf => ⟨⟨⟨ha.ext hf,hb.ext hf⟩,(by have h := ha.den; rw [denF_one h1] at h; exact h.ext hf)⟩,(by have h := hb.den; rw [denF_big h2] at h; exact h.ext hf)⟩) ?_
 refine sx_seq ?_
 refine sx_region ?_
 refine sx_run 3 [(2, .p 2 0),(3, .p 3 0),(4, .p 4 0)] [(4,70,[.v (.bool false), .v (.slice none 0 0), .v (.bool false), .v (.slice none 0 0)]),(3,70,[.v (.bool s1), .v (.slice A1 l1 c1), .v (.bool t1), .v (.slice B1 m1 d1)]),(2,70,[.v (.bool s0), .v (.slice A0 l0 c0), .v (.bool t0), .v (.slice B0 m0 d0)])] (by kernel_rfl) (by kernel_rfl) ?_
 refine sx_end (by kernel_rfl) ?_
 refine sx_next ?_
 refine sx_seq ?_
 refine sx_block ?_
 refine sx_seq ?_
 refine sx_region ?_
 refine sx_run 2 [(2, .p 2 0),(3, .p 3 0),(4, .p 4 0),(12, .v (.agg #[.bool t0, .slice B0 m0 d0]))] [(4,70,[.v (.bool false), .v (.slice none 0 0), .v (.bool false), .v (.slice none 0 0)]),(3,70,[.v (.bool s1), .v (.slice A1 l1 c1), .v (.bool t1), .v (.slice B1 m1 d1)]),(2,70,[.v (.bool s0), .v (.slice A0 l0 c0), .v (.bool t0), .v (.slice B0 m0 d0)])] (by kernel_rfl) (by kernel_rfl) ?_
 refine sx_call 60 [.agg #[.bool t0, .slice B0 m0 d0]] 13 (fun _ : Unit => .bool true) _ (by kernel_rfl) (by kernel_rfl) (fun w hE hΦ => (IsZero_any _ (0) _ hΦ.1.2).mono (fun _ _ h => post_val h (by rw [decide_eq_true (p := (0) = 0) rfl]))) (fun xx => ?_)
 refine sx_run 3 [(2, .p 2 0),(3, .p 3 0),(4, .p 4 0),(14, .v (.bool true)),(16, .v (.agg #[.bool t1, .slice B1 m1 d1]))] [(4,70,[.v (.bool false), .v (.slice none 0 0), .v (.bool false), .v (.slice none 0 0)]),(3,70,[.v (.bool s1), .v (.slice A1 l1 c1), .v (.bool t1), .v (.slice B1 m1 d1)]),(2,70,[.v (.bool s0), .v (.slice A0 l0 c0), .v (.bool t0), .v (.slice B0 m0 d0)])] (by kernel_rfl) (by kernel_rfl) ?_
 refine sx_call 60 [.agg #[.bool t1, .slice B1 m1 d1]] 17 (fun _ : Unit => .bool false) _ (by kernel_rfl) (by kernel_rfl) (fun w hE hΦ => (IsZero_any _ ((q.den : Int)) _ hΦ.1.2).mono (fun _ _ h => post_val h (by rw [decide_eq_false (p := ((q.den : Int)) = 0) (denI q)]))) (fun xx => ?_)
 refine sx_run 2 [(2, .p 2 0),(3, .p 3 0),(4, .p 4 0),(10, .v (.bool false))] [(4,70,[.v (.bool false), .v (.slice none 0 0), .v (.bool false), .v (.slice none 0 0)]),(3,70,[.v (.bool s1), .v (.slice A1 l1 c1), .v (.bool t1), .v (.slice B1 m1 d1)]),(2,70,[.v (.bool s0), .v (.slice A0 l0 c0), .v (.bool t0), .v (.slice B0 m0 d0)])] (by kernel_rfl) (by kernel_rfl) ?_
 refine sx_end (by kernel_rfl) ?_
 refine sx_next ?_
 refine sx_cond_f (by kernel_rfl) ?_
 refine sx_seq ?_
 refine sx_region ?_
 refine sx_run 2 [(2, .p 2 0),(3, .p 3 0),(4, .p 4 0),(27, .v (.agg #[.bool t0, .slice B0 m0 d0]))] [(4,70,[.v (.bool false), .v (.slice none 0 0), .v (.bool false), .v (.slice none 0 0)]),(3,70,[.v (.bool s1), .v (.slice A1 l1 c1), .v (.bool t1), .v (.slice B1 m1 d1)]),(2,70,[.v (.bool s0), .v (.slice A0 l0 c0), .v (.bool t0), .v (.slice B0 m0 d0)])] (by kernel_rfl) (by kernel_rfl) ?_
 refine sx_call 60 [.agg #[.bool t0, .slice B0 m0 d0]] 28 (fun _ : Unit => .bool true) _ (by kernel_rfl) (by kernel_rfl) (fun w hE hΦ => (IsZero_any _ (0) _ hΦ.1.1.1.2).mono (fun _ _ h => post_val h (by rw [decide_eq_true (p := (0) = 0) rfl]))) (fun xx => ?_)
 refine sx_run 1 [(2, .p 2 0),(3, .p 3 0),(4, .p 4 0),(25, .v (.bool true))] [(4,70,[.v (.bool false), .v (.slice none 0 0), .v (.bool false), .v (.slice none 0 0)]),(3,70,[.v (.bool s1), .v (.slice A1 l1 c1), .v (.bool t1), .v (.slice B1 m1 d1)]),(2,70,[.v (.bool s0), .v (.slice A0 l0 c0), .v (.bool t0), .v (.slice B0 m0 d0)])] (by kernel_rfl) (by kernel_rfl) ?_
 refine sx_end (by kernel_rfl) ?_
 refine sx_next ?_
 refine sx_cond_t (by kernel_rfl) ?_
 refine sx_seq ?_
 refine sx_draw 12 (by kernel_rfl) (by kernel_rfl) follows_mixed' ?_
 refine st_flt 4 [(2, .p 2 0),(3, .p 3 0),(4, .p 4 0),(30, .v (.agg #[.bool s0, .slice A0 l0 c0])),(32, .v (.agg #[.bool t1, .slice B1 m1 d1]))] [(4,70,[.v (.bool false), .v (.slice none 0 0), .v (.bool false), .v (.slice none 0 0)]),(3,70,[.v (.bool s1), .v (.slice A1 l1 c1), .v (.bool t1), .v (.slice B1 m1 d1)]),(2,70,[.v (.bool s0), .v (.slice A0 l0 c0), .v (.bool t0), .v (.slice B0 m0 d0)])] (by kernel_rfl) (by kernel_rfl) ?_
 refine st_call 88 [.agg #[.bool s0, .slice A0 l0 c0], .agg #[.bool t1, .slice B1 m1 d1]] 33 shInt _ (by kernel_rfl) (by kernel_rfl) (by kernel_rfl) (fun w hE hΦ => (Mul_any _ _ ((p).num) ((q.den : Int)) _ hΦ.1.1.1.1.1.1.num hΦ.1.1.1.2 (fit S1 (by decide)) (fit S4 (by decide)) (Or.inl (Nat.lt_of_le_of_lt S1 (by decide)))).mono (fun _ _ h => post_Int h)) (fun xx => ?_)
 obtain ⟨s10,A10,l10,c10⟩ := xx
 refine st_flt 2 [(2, .p 2 0),(3, .p 3 0),(4, .p 4 0),(33, .v (.agg #[.bool s10, .slice A10 l10 c10])),(35, .v (.agg #[.bool s1, .slice A1 l1 c1]))] [(4,70,[.v (.bool false), .v (.slice none 0 0), .v (.bool false), .v (.slice none 0 0)]),(3,70,[.v (.bool s1), .v (.slice A1 l1 c1), .v (.bool t1), .v (.slice B1 m1 d1)]),(2,70,[.v (.bool s0), .v (.slice A0 l0 c0), .v (.bool t0), .v (.slice B0 m0 d0)])] (by kernel_rfl) (by kernel_rfl) ?_
 refine st_call 130 [.agg #[.bool s10, .slice A10 l10 c10], .agg #[.bool s1, .slice A1 l1 c1]] 36 shInt _ (by kernel_rfl) (by kernel_rfl) (by kernel_rfl) (fun w hE hΦ => (Add_any _ _ (((p).num) * ((q.den : Int))) ((q).num) _ hΦ.2 hΦ.1.1.1.1.1.1.2.num (fit (wlm S1 S4) (by decide)) (fit S2 (by decide))).mono (fun _ _ h => post_Int h)) (fun xx => ?_)
 obtain ⟨s11,A11,l11,c11⟩ := xx
 refine st_flt 4 [(2, .p 2 0),(3, .p 3 0),(4, .p 4 0)] [(4,70,[.v (.bool s11), .v (.slice A11 l11 c11), .v (.bool t1), .v (.slice B1 m1 d1)]),(4,70,[.v (.bool false), .v (.slice none 0 0), .v (.bool false), .v (.slice none 0 0)]),(3,70,[.v (.bool s1), .v (.slice A1 l1 c1), .v (.bool t1), .v (.slice B1 m1 d1)]),(2,70,[.v (.bool s0), .v (.slice A0 l0 c0), .v (.bool t0), .v (.slice B0 m0 d0)])] (by kernel_rfl) (by kernel_rfl) ?_
 refine st_end (by kernel_rfl) ?_
 refine sx_end (by kernel_rfl) ?_
 refine sx_next ?_
 refine sx_ret ?_
 refine sx_in_ret ?_
 refine sx_then_ret ?_
 refine sx_done (v := .agg #[.bool s11, .slice A11 l11 c11, .bool t1, .slice B1 m1 d1]) (by kernel_rfl) (fun w' hE hΦ => ?_)
 exact ⟨_,rfl,RatIs.of (by rw [HW.1]; exact hΦ.2) (by rw [denF_of HW.2 h2]; exact hΦ.1.1.1.1.1.2),hE⟩
set_option maxRecDepth 100000 in
theorem QAdd_fw (a b : Value) (p q : Rat) (w : World) (ha : RatIs w a p) (hb : RatIs w b q) (hp : QFits p 38) (hq : QFits q 38) (h1 : ¬ p.den = 1) (h2 : q.den = 1) :
 Calls Tryz.prog 80 #[a,b] w (RetRat w (p + q)) := by
 obtain ⟨s0,A0,l0,c0,t0,B0,m0,d0,rfl⟩ := ha.shp
 obtain ⟨s1,A1,l1,c1,t1,B1,m1,d1,rfl⟩ := hb.shp
 have S1 : wl p.num.natAbs ≤ 38 := hp.1
 have S2 : wl q.num.natAbs ≤ 38 := hq.1
 have hp2 : wl p.den ≤ 38 := hp.2
 have hq2 : wl q.den ≤ 38 := hq.2
 have S3 : wl ((p.den : Nat) : Int).natAbs ≤ 38 := wlc hp2
 have S4 : wl ((q.den : Nat) : Int).natAbs ≤ 38 := wlc hq2
 have HW := (show (p + q).num = q.num * (p.den : Int) + p.num ∧ (p + q).den = p.den by rw [Rat.add_comm]; exact radd_whole h2)
 refine sx_enter (Φ := fun w => (((RatIs w (.agg #[.bool s0, .slice A0 l0 c0, .bool t0, .slice B0 m0 d0]) (p) ∧ RatIs w (.agg #[.bool s1, .slice A1 l1 c1, .bool t1, .slice B1 m1 d1]) (q)) ∧ IntIs w (.agg #[.bool t0, .slice B0 m0 d0]) ((p.den : Int))) ∧ IntIs w (.agg #[.bool t1, .slice B1 m1 d1]) (0))) Tryz.func80 rfl (by kernel_rfl) (fun w' hf => ⟨⟨⟨ha.ext hf,hb.ext hf⟩,(by have h := ha.den; rw [denF_big h1] at h; exact h.ext hf)⟩,(by have h := hb.den; rw [denF_one h2] at h; exact h.ext hf)⟩) ?_
 refine sx_seq ?_
 refine sx_region ?_
 refine sx_run 3 [(2, .p 2 0),(3, .p 3 0),(4, .p 4 0)] [(4,70,[.v (.bool false), .v (.slice none 0 0), .v (.bool false), .v (.slice none 0 0)]),(3,70,[.v (.bool s1), .v (.slice A1 l1 c1), .v (.bool t1), .v (.slice B1 m1 d1)]),(2,70,[.v (.bool s0), .v (.slice A0 l0 c0), .v (.bool t0), .v (.slice B0 m0 d0)])] (by kernel_rfl) (by kernel_rfl) ?_
 refine sx_end (by kernel_rfl) ?_
 refine sx_next ?_
 refine sx_seq ?_
 refine sx_block ?_
 refine sx_seq ?_
 refine sx_region ?_
 refine sx_run 2 [(2, .p 2 0),(3, .p 3 0),(4, .p 4 0),(12, .v (.agg #[.bool t0, .slice B0 m0 d0]))] [(4,70,[.v (.bool false), .v (.slice none 0 0), .v (.bool false), .v (.slice none 0 0)]),(3,70,[.v (.bool s1), .v (.slice A1 l1 c1), .v (.bool t1), .v (.slice B1 m1 d1)]),(2,70,[.v (.bool s0), .v (.slice A0 l0 c0), .v (.bool t0), .v (.slice B0 m0 d0)])] (by kernel_rfl) (by kernel_rfl) ?_
 refine sx_call 60 [.agg #[.bool t0, .slice B0 m0 d0]] 13 (fun _ : Unit => .bool false) _ (by kernel_rfl) (by kernel_rfl) (fun w hE hΦ => (IsZero_any _ ((p.den : Int)) _ hΦ.1.2).mono (fun _ _ h => post_val h (by rw [decide_eq_false (p := ((p.den : Int)) = 0) (denI p)]))) (fun xx => ?_)
 refine sx_run 6 [(2, .p 2 0),(3, .p 3 0),(4, .p 4 0),(10, .v (.bool false))] [(4,70,[.v (.bool false), .v (.slice none 0 0), .v (.bool false), .v (.slice none 0 0)]),(3,70,[.v (.bool s1), .v (.slice A1 l1 c1), .v (.bool t1), .v (.slice B1 m1 d1)]),(2,70,[.v (.bool s0), .v (.slice A0 l0 c0), .v (.bool t0), .v (.slice B0 m0 d0)])] (by kernel_rfl) (by kernel_rfl) ?_
 refine sx_end (by kernel_rfl) ?_
 refine sx_next ?_
 refine sx_cond_f (by kernel_rfl) ?_
 refine sx_seq ?_
 refine sx_region ?_
 refine sx_run 2 [(2, .p 2 0),(3, .p 3 0),(4, .p 4 0),(27, .v (.agg #[.bool t0, .slice B0 m0 d0]))] [(4,70,[.v (.bool false), .v (.slice none 0 0), .v (.bool false), .v (.slice none 0 0)]),(3,70,[.v (.bool s1), .v (.slice A1 l1 c1), .v (.bool t1), .v (.slice B1 m1 d1)]),(2,70,[.v (.bool s0), .v (.slice A0 l0 c0), .v (.bool t0), .v (.slice B0 m0 d0)])] (by kernel_rfl) (by kernel_rfl) ?_
 refine sx_call 60 [.agg #[.bool t0, .slice B0 m0 d0]] 28 (fun _ : Unit => .bool false) _ (by kernel_rfl) (by kernel_rfl) (fun w hE hΦ => (IsZero_any _ ((p.den : Int)) _ hΦ.1.1.2).mono (fun _ _ h => post_val h (by rw [decide_eq_false (p := ((p.den : Int)) = 0) (denI p)]))) (fun xx => ?_)
 refine sx_run 1 [(2, .p 2 0),(3, .p 3 0),(4, .p 4 0),(25, .v (.bool false))] [(4,70,[.v (.bool false), .v (.slice none 0 0), .v (.bool false), .v (.slice none 0 0)]),(3,70,[.v (.bool s1), .v (.slice A1 l1 c1), .v (.bool t1), .v (.slice B1 m1 d1)]),(2,70,[.v (.bool s0), .v (.slice A0 l0 c0), .v (.bool t0), .v (.slice B0 m0 d0)])] (by kernel_rfl) (by kernel_rfl) ?_
 refine sx_end (by kernel_rfl) ?_
 refine sx_next ?_
 refine sx_cond_f (by kernel_rfl) ?_
 refine sx_seq ?_
 refine sx_region ?_
 refine sx_run 2 [(2, .p 2 0),(3, .p 3 0),(4, .p 4 0),(42, .v (.agg #[.bool t1, .slice B1 m1 d1]))] [(4,70,[.v (.bool false), .v (.slice none 0 0), .v (.bool false), .v (.slice none 0 0)]),(3,70,[.v (.bool s1), .v (.slice A1 l1 c1), .v (.bool t1), .v (.slice B1 m1 d1)]),(2,70,[.v (.bool s0), .v (.slice A0 l0 c0), .v (.bool t0), .v (.slice B0 m0 d0)])] (by kernel_rfl) (by kernel_rfl) ?_
 refine sx_call 60 [.agg #[.bool t1, .slice B1 m1 d1]] 43 (fun _ : Unit => .bool true) _ (by kernel_rfl) (by kernel_rfl) (fun w hE hΦ => (IsZero_any _ (0) _ hΦ.1.1.2).mono (fun _ _ h => post_val h (by rw [decide_eq_true (p := (0) = 0) rfl]))) (fun xx => ?_)
 refine sx_run 1 [(2, .p 2 0),(3, .p 3 0),(4, .p 4 0),(40, .v (.bool true))] [(4,70,[.v (.bool false), .v (.slice none 0 0), .v (.bool false), .v (.slice none 0 0)]),(3,70,[.v (.bool s1), .v (.slice A1 l1 c1), .v (.bool t1), .v (.slice B1 m1 d1)]),(2,70,[.v (.bool s0), .v (.slice A0 l0 c0), .v (.bool t0), .v (.slice B0 m0 d0)])] (by kernel_rfl) (by kernel_rfl) ?_
 refine sx_end (by kernel_rfl) ?_
 refine sx_next ?_
 refine sx_cond_t (by kernel_rfl) ?_
 refine sx_seq ?_
 refine sx_draw 12 (by kernel_rfl) (by kernel_rfl) follows_mixed' ?_
 refine st_flt 4 [(2, .p 2 0),(3, .p 3 0),(4, .p 4 0),(45, .v (.agg #[.bool s1, .slice A1 l1 c1])),(47, .v (.agg #[.bool t0, .slice B0 m0 d0]))] [(4,70,[.v (.bool false), .v (.slice none 0 0), .v (.bool false), .v (.slice none 0 0)]),(3,70,[.v (.bool s1), .v (.slice A1 l1 c1), .v (.bool t1), .v (.slice B1 m1 d1)]),(2,70,[.v (.bool s0), .v (.slice A0 l0 c0), .v (.bool t0), .v (.slice B0 m0 d0)])] (by kernel_rfl) (by kernel_rfl) ?_
 refine st_call 88 [.agg #[.bool s1, .slice A1 l1 c1], .agg #[.bool t0, .slice B0 m0 d0]] 48 shInt _ (by kernel_rfl) (by kernel_rfl) (by kernel_rfl) (fun w hE hΦ => (Mul_any _ _ ((q).num) ((p.den : Int)) _ hΦ.1.1.1.1.1.2.num hΦ.1.1.1.1.2 (fit S2 (by decide)) (fit S3 (by decide)) (Or.inl (Nat.lt_of_le_of_lt S2 (by decide)))).mono (fun _ _ h => post_Int h)) (fun xx => ?_)
 obtain ⟨s10,A10,l10,c10⟩ := xx
 refine st_flt 2 [(2, .p 2 0),(3, .p 3 0),(4, .p 4 0),(48, .v (.agg #[.bool s10, .slice A10 l10 c10])),(50, .v (.agg #[.bool s0, .slice A0 l0 c0]))] [(4,70,[.v (.bool false), .v (.slice none 0 0), .v (.bool false), .v (.slice none 0 0)]),(3,70,[.v (.bool s1), .v (.slice A1 l1 c1), .v (.bool t1), .v (.slice B1 m1 d1)]),(2,70,[.v (.bool s0), .v (.slice A0 l0 c0), .v (.bool t0), .v (.slice B0 m0 d0)])] (by kernel_rfl) (by kernel_rfl) ?_
 refine st_call 130 [.agg #[.bool s10, .slice A10 l10 c10], .agg #[.bool s0, .slice A0 l0 c0]] 51 shInt _ (by kernel_rfl) (by kernel_rfl) (by kernel_rfl) (fun w hE hΦ => (Add_any _ _ (((q).num) * ((p.den : Int))) ((p).num) _ hΦ.2 hΦ.1.1.1.1.1.1.1.num (fit (wlm S2 S3) (by decide)) (fit S1 (by decide))).mono (fun _ _ h => post_Int h)) (fun xx => ?_)
 obtain ⟨s11,A11,l11,c11⟩ := xx
 refine st_flt 4 [(2, .p 2 0),(3, .p 3 0),(4, .p 4 0)] [(4,70,[.v (.bool s11), .v (.slice A11 l11 c11), .v (.bool t0), .v (.slice B0 m0 d0)]),(4,70,[.v (.bool false), .v (.slice none 0 0), .v (.bool false), .v (.slice none 0 0)]),(3,70,[.v (.bool s1), .v (.slice A1 l1 c1), .v (.bool t1), .v (.slice B1 m1 d1)]),(2,70,[.v (.bool s0), .v (.slice A0 l0 c0), .v (.bool t0), .v (.slice B0 m0 d0)])] (by kernel_rfl) (by kernel_rfl) ?_
 refine st_end (by kernel_rfl) ?_
 refine sx_end (by kernel_rfl) ?_
 refine sx_next ?_
 refine sx_ret ?_
 refine sx_in_ret ?_
 refine sx_then_ret ?_
 refine sx_done (v := .agg #[.bool s11, .slice A11 l11 c11, .bool t0, .slice B0 m0 d0]) (by kernel_rfl) (fun w' hE hΦ => ?_)
 exact ⟨_,rfl,RatIs.of (by rw [HW.1]; exact hΦ.2) (by rw [denF_of HW.2 h1]; exact hΦ.1.1.1.1.1.1.2),hE⟩
set_option maxRecDepth 100000 in
theorem QAdd_ff (a b : Value) (p q : Rat) (w : World) (hg : Glob w) (ha : RatIs w a p) (hb : RatIs w b q) (hp : QFits p 38) (hq : QFits q 38) (h1 : ¬ p.den = 1) (h2 : ¬ q.den = 1) :
 Calls Tryz.prog 80 #[a,b] w (RetRat w (p + q)) := by
 obtain ⟨s0,A0,l0,c0,t0,B0,m0,d0,rfl⟩ := ha.shp
 obtain ⟨s1,A1,l1,c1,t1,B1,m1,d1,rfl⟩ := hb.shp
 have S1 : wl p.num.natAbs ≤ 38 := hp.1
 have S2 : wl q.num.natAbs ≤ 38 := hq.1
 have hp2 : wl p.den ≤ 38 := hp.2
 have hq2 : wl q.den ≤ 38 := hq.2
 have S3 : wl ((p.den : Nat) : Int).natAbs ≤ 38 := wlc hp2
 have S4 : wl ((q.den : Nat) : Int).natAbs ≤ 38 := wlc hq2
 obtain ⟨c,ec⟩ : ∃ c,Nat.gcd p.den q.den = c := ⟨_,rfl⟩
 have hc0 : c ≠ 0 := by have := p.den_nz; rw [← ec]; exact fun e => this (Nat.gcd_eq_zero_iff.1 e).1
 have Sc : wl c ≤ 38 := by rw [← ec]; exact Nat.le_trans (wl_mono (Nat.gcd_le_right _ (Nat.pos_of_ne_zero q.den_nz))) hq.2
 obtain ⟨n,en⟩ : ∃ n,(p).num * ((q.den / c : Nat) : Int) + (q).num * ((p.den / c : Nat) : Int) = n := ⟨_,rfl⟩
 have Sn : wl n.natAbs ≤ 77 := by rw [← en]; exact wla (wlm S1 (wlc (wld hq2))) (wlm S2 (wlc (wld hp2)))
 have HA1 : c = 1 → (p + q).num = n ∧ (p + q).den = p.den * q.den := fun e => by have h := radd_one (p := p) (q := q) (by rw [ec]; exact e); rw [← en,e,Nat.div_one,Nat.div_one]; exact h
 have HA2 : c ≠ 1 → (p + q).num = n.tdiv (Int.gcd n c : Int) ∧ (p + q).den = p.den / c * (q.den / Int.gcd n c) := fun e => radd_big ec e en
 have HA0 : n = 0 → p + q = 0 := fun e => Rat.num_eq_zero.1 ((Decidable.em (c = 1)).elim (fun h => by rw [(HA1 h).1,e]) (fun h => by rw [(HA2 h).1,e,Int.zero_tdiv]))
 have hci : (c : Int) ≠ 0 := by omega
 refine sx_enter (Φ := fun w => ((((RatIs w (.agg #[.bool s0, .slice A0 l0 c0, .bool t0, .slice B0 m0 d0]) (p) ∧ RatIs w (.agg #[.bool s1, .slice A1 l1 c1, .bool t1, .slice B1 m1 d1]) (q)) ∧ Glob w) ∧ IntIs w (.agg #[.bool t0, .slice B0 m0 d0]) ((p.den : Int))) ∧ IntIs w (.agg #[.bool t1, .slice B1 m1 d1]) ((q.den : Int)))) Tryz.func80 rfl (by kernel_rfl) (fun w' hf => ⟨⟨⟨⟨ha.ext hf,hb.ext hf⟩,hg.ext hf⟩,(by have h := ha.den; rw [denF_big h1] at h; exact h.ext hf)⟩,(by have h := hb.den; rw [denF_big h2] at h; exact h.ext hf)⟩) ?_
 refine sx_seq ?_
 refine sx_region ?_
 refine sx_run 3 [(2, .p 2 0),(3, .p 3 0),(4, .p 4 0)] [(4,70,[.v (.bool false), .v (.slice none 0 0), .v (.bool false), .v (.slice none 0 0)]),(3,70,[.v (.bool s1), .v (.slice A1 l1 c1), .v (.bool t1), .v (.slice B1 m1 d1)]),(2,70,[.v (.bool s0), .v (.slice A0 l0 c0), .v (.bool t0), .v (.slice B0 m0 d0)])] (by kernel_rfl) (by kernel_rfl) ?_
 refine sx_end (by kernel_rfl) ?_
 refine sx_next ?_
 refine sx_seq ?_
 refine sx_block ?_
 refine sx_seq ?_
 refine sx_region ?_
 refine sx_run 2 [(2, .p 2 0),(3, .p 3 0),(4, .p 4 0),(12, .v (.agg #[.bool t0, .slice B0 m0 d0]))] [(4,70,[.v (.bool false), .v (.slice none 0 0), .v (.bool false), .v (.slice none 0 0)]),(3,70,[.v (.bool s1), .v (.slice A1 l1 c1), .v (.bool t1), .v (.slice B1 m1 d1)]),(2,70,[.v (.bool s0), .v (.slice A0 l0 c0), .v (.bool t0), .v (.slice B0 m0 d0)])] (by kernel_rfl) (by kernel_rfl) ?_
 refine sx_call 60 [.agg #[.bool t0, .slice B0 m0 d0]] 13 (fun _ : Unit => .bool false) _ (by kernel_rfl) (by kernel_rfl) (fun w hE hΦ => (IsZero_any _ ((p.den : Int)) _ hΦ.1.2).mono (fun _ _ h => post_val h (by rw [decide_eq_false (p := ((p.den : Int)) = 0) (denI p)]))) (fun xx => ?_)
 refine sx_run 6 [(2, .p 2 0),(3, .p 3 0),(4, .p 4 0),(10, .v (.bool false))] [(4,70,[.v (.bool false), .v (.slice none 0 0), .v (.bool false), .v (.slice none 0 0)]),(3,70,[.v (.bool s1), .v (.slice A1 l1 c1), .v (.bool t1), .v (.slice B1 m1 d1)]),(2,70,[.v (.bool s0), .v (.slice A0 l0 c0), .v (.bool t0), .v (.slice B0 m0 d0)])] (by kernel_rfl) (by kernel_rfl) ?_
 refine sx_end (by kernel_rfl) ?_
 refine sx_next ?_
 refine sx_cond_f (by kernel_rfl) ?_
 refine sx_seq ?_
 refine sx_region ?_
 refine sx_run 2 [(2, .p 2 0),(3, .p 3 0),(4, .p 4 0),(27, .v (.agg #[.bool t0, .slice B0 m0 d0]))] [(4,70,[.v (.bool false), .v (.slice none 0 0), .v (.bool false), .v (.slice none 0 0)]),(3,70,[.v (.bool s1), .v (.slice A1 l1 c1), .v (.bool t1), .v (.slice B1 m1 d1)]),(2,70,[.v (.bool s0), .v (.slice A0 l0 c0), .v (.bool t0), .v (.slice B0 m0 d0)])] (by kernel_rfl) (by kernel_rfl) ?_
 refine sx_call 60 [.agg #[.bool t0, .slice B0 m0 d0]] 28 (fun _ : Unit => .bool false) _ (by kernel_rfl) (by kernel_rfl) (fun w hE hΦ => (IsZero_any _ ((p.den : Int)) _ hΦ.1.1.2).mono (fun _ _ h => post_val h (by rw [decide_eq_false (p := ((p.den : Int)) = 0) (denI p)]))) (fun xx => ?_)
 refine sx_run 1 [(2, .p 2 0),(3, .p 3 0),(4, .p 4 0),(25, .v (.bool false))] [(4,70,[.v (.bool false), .v (.slice none 0 0), .v (.bool false), .v (.slice none 0 0)]),(3,70,[.v (.bool s1), .v (.slice A1 l1 c1), .v (.bool t1), .v (.slice B1 m1 d1)]),(2,70,[.v (.bool s0), .v (.slice A0 l0 c0), .v (.bool t0), .v (.slice B0 m0 d0)])] (by kernel_rfl) (by kernel_rfl) ?_
 refine sx_end (by kernel_rfl) ?_
 refine sx_next ?_
 refine sx_cond_f (by kernel_rfl) ?_
 refine sx_seq ?_
 refine sx_region ?_
 refine sx_run 2 [(2, .p 2 0),(3, .p 3 0),(4, .p 4 0),(42, .v (.agg #[.bool t1, .slice B1 m1 d1]))] [(4,70,[.v (.bool false), .v (.slice none 0 0), .v (.bool false), .v (.slice none 0 0)]),(3,70,[.v (.bool s1), .v (.slice A1 l1 c1), .v (.bool t1), .v (.slice B1 m1 d1)]),(2,70,[.v (.bool s0), .v (.slice A0 l0 c0), .v (.bool t0), .v (.slice B0 m0 d0)])] (by kernel_rfl) (by kernel_rfl) ?_
 refine sx_call 60 [.agg #[.bool t1, .slice B1 m1 d1]] 43 (fun _ : Unit => .bool false) _ (by kernel_rfl) (by kernel_rfl) (fun w hE hΦ => (IsZero_any _ ((q.den : Int)) _ hΦ.1.1.2).mono (fun _ _ h => post_val h (by rw [decide_eq_false (p := ((q.den : Int)) = 0) (denI q)]))) (fun xx => ?_)
 refine sx_run 1 [(2, .p 2 0),(3, .p 3 0),(4, .p 4 0),(40, .v (.bool false))] [(4,70,[.v (.bool false), .v (.slice none 0 0), .v (.bool false), .v (.slice none 0 0)]),(3,70,[.v (.bool s1), .v (.slice A1 l1 c1), .v (.bool t1), .v (.slice B1 m1 d1)]),(2,70,[.v (.bool s0), .v (.slice A0 l0 c0), .v (.bool t0), .v (.slice B0 m0 d0)])] (by kernel_rfl) (by kernel_rfl) ?_
 refine sx_end (by kernel_rfl) ?_
 refine sx_next ?_
 refine sx_cond_f (by kernel_rfl) ?_
 refine sx_skip ?_
 refine sx_out ?_
 refine sx_next ?_
 refine sx_seq ?_
 refine sx_region ?_
 refine sx_run 4 [(2, .p 2 0),(3, .p 3 0),(4, .p 4 0),(56, .v (.agg #[.bool t0, .slice B0 m0 d0])),(58, .v (.agg #[.bool t1, .slice B1 m1 d1]))] [(4,70,[.v (.bool false), .v (.slice none 0 0), .v (.bool false), .v (.slice none 0 0)]),(3,70,[.v (.bool s1), .v (.slice A1 l1 c1), .v (.bool t1), .v (.slice B1 m1 d1)]),(2,70,[.v (.bool s0), .v (.slice A0 l0 c0), .v (.bool t0), .v (.slice B0 m0 d0)])] (by kernel_rfl) (by kernel_rfl) ?_
 refine sx_call 90 [.agg #[.bool t0, .slice B0 m0 d0], .agg #[.bool t1, .slice B1 m1 d1]] 59 shInt _ (by kernel_rfl) (by kernel_rfl) (fun w hE hΦ => (GCD_any _ _ ((p.den : Int)) ((q.den : Int)) _ hΦ.1.1.1.1.1.2 hΦ.1.1.1.1.2 hΦ.1.1.1.2 (fit S3 (by decide)) (fit S4 (by decide)) (GcdOk.words (Nat.le_trans S3 (by decide)) (Nat.le_trans S4 (by decide)))).mono (fun _ _ h => post_Int (by rw [(show Int.gcd (p.den : Int) (q.den : Int) = c from ec)] at h; exact h))) (fun xx => ?_)
 obtain ⟨s10,A10,l10,c10⟩ := xx
 refine sx_run 2 [(2, .p 2 0),(3, .p 3 0),(4, .p 4 0),(5, .p 5 0)] [(5,63,[.v (.bool s10), .v (.slice A10 l10 c10)]),(4,70,[.v (.bool false), .v (.slice none 0 0), .v (.bool false), .v (.slice none 0 0)]),(3,70,[.v (.bool s1), .v (.slice A1 l1 c1), .v (.bool t1), .v (.slice B1 m1 d1)]),(2,70,[.v (.bool s0), .v (.slice A0 l0 c0), .v (.bool t0), .v (.slice B0 m0 d0)])] (by kernel_rfl) (by kernel_rfl) ?_
 refine sx_end (by kernel_rfl) ?_
 refine sx_next ?_
 refine sx_seq ?_
 refine sx_draw 12 (by kernel_rfl) (by kernel_rfl) follows_mixed' ?_
 refine st_flt 3 [(2, .p 2 0),(3, .p 3 0),(4, .p 4 0),(5, .p 5 0),(61, .v (.agg #[.bool t1, .slice B1 m1 d1])),(62, .v (.agg #[.bool s10, .slice A10 l10 c10]))] [(5,63,[.v (.bool s10), .v (.slice A10 l10 c10)]),(4,70,[.v (.bool false), .v (.slice none 0 0), .v (.bool false), .v (.slice none 0 0)]),(3,70,[.v (.bool s1), .v (.slice A1 l1 c1), .v (.bool t1), .v (.slice B1 m1 d1)]),(2,70,[.v (.bool s0), .v (.slice A0 l0 c0), .v (.bool t0), .v (.slice B0 m0 d0)])] (by kernel_rfl) (by kernel_rfl) ?_
 refine st_call 116 [.agg #[.bool t1, .slice B1 m1 d1], .agg #[.bool s10, .slice A10 l10 c10]] 63 shInt _ (by kernel_rfl) (by kernel_rfl) (by kernel_rfl) (fun w hE hΦ => (Quo_any _ _ ((q.den : Int)) ((c : Int)) _ hΦ.1.1.1.1.2 hΦ.2 (fit S4 (by decide)) (Nat.lt_of_le_of_lt (wlc Sc) (by decide)) hci).mono (fun _ _ h => post_Int (by rw [nat_tdiv] at h; exact h))) (fun xx => ?_)
 obtain ⟨s11,A11,l11,c11⟩ := xx
 refine st_flt 3 [(2, .p 2 0),(3, .p 3 0),(4, .p 4 0),(5, .p 5 0),(63, .v (.agg #[.bool s11, .slice A11 l11 c11])),(65, .v (.agg #[.bool t0, .slice B0 m0 d0])),(66, .v (.agg #[.bool s10, .slice A10 l10 c10]))] [(5,63,[.v (.bool s10), .v (.slice A10 l10 c10)]),(4,70,[.v (.bool false), .v (.slice none 0 0), .v (.bool false), .v (.slice none 0 0)]),(3,70,[.v (.bool s1), .v (.slice A1 l1 c1), .v (.bool t1), .v (.slice B1 m1 d1)]),(2,70,[.v (.bool s0), .v (.slice A0 l0 c0), .v (.bool t0), .v (.slice B0 m0 d0)])] (by kernel_rfl) (by kernel_rfl) ?_
 refine st_call 116 [.agg #[.bool t0, .slice B0 m0 d0], .agg #[.bool s10, .slice A10 l10 c10]] 67 shInt _ (by kernel_rfl) (by kernel_rfl) (by kernel_rfl) (fun w hE hΦ => (Quo_any _ _ ((p.den : Int)) ((c : Int)) _ hΦ.1.1.1.1.1.1.2 hΦ.1.2 (fit S3 (by decide)) (Nat.lt_of_le_of_lt (wlc Sc) (by decide)) hci).mono (fun _ _ h => post_Int (by rw [nat_tdiv] at h; exact h))) (fun xx => ?_)
 obtain ⟨s12,A12,l12,c12⟩ := xx
 refine st_flt 4 [(2, .p 2 0),(3, .p 3 0),(4, .p 4 0),(5, .p 5 0),(6, .p 6 0),(7, .p 7 0)] [(7,63,[.v (.bool s12), .v (.slice A12 l12 c12)]),(6,63,[.v (.bool s11), .v (.slice A11 l11 c11)]),(7,63,[.v (.bool false), .v (.slice none 0 0)]),(6,63,[.v (.bool false), .v (.slice none 0 0)]),(5,63,[.v (.bool s10), .v (.slice A10 l10 c10)]),(4,70,[.v (.bool false), .v (.slice none 0 0), .v (.bool false), .v (.slice none 0 0)]),(3,70,[.v (.bool s1), .v (.slice A1 l1 c1), .v (.bool t1), .v (.slice B1 m1 d1)]),(2,70,[.v (.bool s0), .v (.slice A0 l0 c0), .v (.bool t0), .v (.slice B0 m0 d0)])] (by kernel_rfl) (by kernel_rfl) ?_
 refine st_end (by kernel_rfl) ?_
 refine sx_end (by kernel_rfl) ?_
 refine sx_next ?_
 refine sx_seq ?_
 refine sx_draw 11 (by kernel_rfl) (by kernel_rfl) follows_mixed' ?_
 refine st_flt 3 [(2, .p 2 0),(3, .p 3 0),(4, .p 4 0),(5, .p 5 0),(7, .p 7 0),(69, .v (.agg #[.bool s0, .slice A0 l0 c0])),(70, .v (.agg #[.bool s11, .slice A11 l11 c11]))] [(7,63,[.v (.bool s12), .v (.slice A12 l12 c12)]),(6,63,[.v (.bool s11), .v (.slice A11 l11 c11)]),(7,63,[.v (.bool false), .v (.slice none 0 0)]),(6,63,[.v (.bool false), .v (.slice none 0 0)]),(5,63,[.v (.bool s10), .v (.slice A10 l10 c10)]),(4,70,[.v (.bool false), .v (.slice none 0 0), .v (.bool false), .v (.slice none 0 0)]),(3,70,[.v (.bool s1), .v (.slice A1 l1 c1), .v (.bool t1), .v (.slice B1 m1 d1)]),(2,70,[.v (.bool s0), .v (.slice A0 l0 c0), .v (.bool t0), .v (.slice B0 m0 d0)])] (by kernel_rfl) (by kernel_rfl) ?_
 refine st_call 88 [.agg #[.bool s0, .slice A0 l0 c0], .agg #[.bool s11, .slice A11 l11 c11]] 71 shInt _ (by kernel_rfl) (by kernel_rfl) (by kernel_rfl) (fun w hE hΦ => (Mul_any _ _ ((p).num) (((q.den / c : Nat) : Int)) _ hΦ.1.1.1.1.1.1.1.1.1.1.num hΦ.1.2 (fit S1 (by decide)) (fit (wlc (wld hq2)) (by decide)) (Or.inl (Nat.lt_of_le_of_lt S1 (by decide)))).mono (fun _ _ h => post_Int h)) (fun xx => ?_)
 obtain ⟨s13,A13,l13,c13⟩ := xx
 refine st_flt 3 [(2, .p 2 0),(3, .p 3 0),(4, .p 4 0),(5, .p 5 0),(7, .p 7 0),(71, .v (.agg #[.bool s13, .slice A13 l13 c13])),(73, .v (.agg #[.bool s1, .slice A1 l1 c1])),(74, .v (.agg #[.bool s12, .slice A12 l12 c12]))] [(7,63,[.v (.bool s12), .v (.slice A12 l12 c12)]),(6,63,[.v (.bool s11), .v (.slice A11 l11 c11)]),(7,63,[.v (.bool false), .v (.slice none 0 0)]),(6,63,[.v (.bool false), .v (.slice none 0 0)]),(5,63,[.v (.bool s10), .v (.slice A10 l10 c10)]),(4,70,[.v (.bool false), .v (.slice none 0 0), .v (.bool false), .v (.slice none 0 0)]),(3,70,[.v (.bool s1), .v (.slice A1 l1 c1), .v (.bool t1), .v (.slice B1 m1 d1)]),(2,70,[.v (.bool s0), .v (.slice A0 l0 c0), .v (.bool t0), .v (.slice B0 m0 d0)])] (by kernel_rfl) (by kernel_rfl) ?_
 refine st_call 88 [.agg #[.bool s1, .slice A1 l1 c1], .agg #[.bool s12, .slice A12 l12 c12]] 75 shInt _ (by kernel_rfl) (by kernel_rfl) (by kernel_rfl) (fun w hE hΦ => (Mul_any _ _ ((q).num) (((p.den / c : Nat) : Int)) _ hΦ.1.1.1.1.1.1.1.1.1.1.2.num hΦ.1.2 (fit S2 (by decide)) (fit (wlc (wld hp2)) (by decide)) (Or.inl (Nat.lt_of_le_of_lt S2 (by decide)))).mono (fun _ _ h => post_Int h)) (fun xx => ?_)
 obtain ⟨s14,A14,l14,c14⟩ := xx
 refine st_flt 0 [(2, .p 2 0),(3, .p 3 0),(4, .p 4 0),(5, .p 5 0),(7, .p 7 0),(71, .v (.agg #[.bool s13, .slice A13 l13 c13])),(75, .v (.agg #[.bool s14, .slice A14 l14 c14]))] [(7,63,[.v (.bool s12), .v (.slice A12 l12 c12)]),(6,63,[.v (.bool s11), .v (.slice A11 l11 c11)]),(7,63,[.v (.bool false), .v (.slice none 0 0)]),(6,63,[.v (.bool false), .v (.slice none 0 0)]),(5,63,[.v (.bool s10), .v (.slice A10 l10 c10)]),(4,70,[.v (.bool false), .v (.slice none 0 0), .v (.bool false), .v (.slice none 0 0)]),(3,70,[.v (.bool s1), .v (.slice A1 l1 c1), .v (.bool t1), .v (.slice B1 m1 d1)]),(2,70,[.v (.bool s0), .v (.slice A0 l0 c0), .v (.bool t0), .v (.slice B0 m0 d0)])] (by kernel_rfl) (by kernel_rfl) ?_
 refine st_call 130 [.agg #[.bool s13, .slice A13 l13 c13], .agg #[.bool s14, .slice A14 l14 c14]] 76 shInt _ (by kernel_rfl) (by kernel_rfl) (by kernel_rfl) (fun w hE hΦ => (Add_any _ _ (((p).num) * (((q.den / c : Nat) : Int))) (((q).num) * (((p.den / c : Nat) : Int))) _ hΦ.1.2 hΦ.2 (fit (wlm S1 (wlc (wld hq2))) (by decide)) (fit (wlm S2 (wlc (wld hp2))) (by decide))).mono (fun _ _ h => post_Int (by rw [en] at h; exact h))) (fun xx => ?_)
 obtain ⟨s15,A15,l15,c15⟩ := xx
 refine st_flt 2 [(2, .p 2 0),(3, .p 3 0),(4, .p 4 0),(5, .p 5 0),(7, .p 7 0),(8, .p 8 0)] [(8,63,[.v (.bool s15), .v (.slice A15 l15 c15)]),(8,63,[.v (.bool false), .v (.slice none 0 0)]),(7,63,[.v (.bool s12), .v (.slice A12 l12 c12)]),(6,63,[.v (.bool s11), .v (.slice A11 l11 c11)]),(7,63,[.v (.bool false), .v (.slice none 0 0)]),(6,63,[.v (.bool false), .v (.slice none 0 0)]),(5,63,[.v (.bool s10), .v (.slice A10 l10 c10)]),(4,70,[.v (.bool false), .v (.slice none 0 0), .v (.bool false), .v (.slice none 0 0)]),(3,70,[.v (.bool s1), .v (.slice A1 l1 c1), .v (.bool t1), .v (.slice B1 m1 d1)]),(2,70,[.v (.bool s0), .v (.slice A0 l0 c0), .v (.bool t0), .v (.slice B0 m0 d0)])] (by kernel_rfl) (by kernel_rfl) ?_
 refine st_end (by kernel_rfl) ?_
 refine sx_end (by kernel_rfl) ?_
 refine sx_next ?_
 refine sx_seq ?_
 refine sx_seq ?_
 refine sx_region ?_
 refine sx_run 1 [(2, .p 2 0),(3, .p 3 0),(4, .p 4 0),(5, .p 5 0),(7, .p 7 0),(8, .p 8 0),(77, .v (.agg #[.bool s15, .slice A15 l15 c15]))] [(8,63,[.v (.bool s15), .v (.slice A15 l15 c15)]),(7,63,[.v (.bool s12), .v (.slice A12 l12 c12)]),(5,63,[.v (.bool s10), .v (.slice A10 l10 c10)]),(4,70,[.v (.bool false), .v (.slice none 0 0), .v (.bool false), .v (.slice none 0 0)]),(3,70,[.v (.bool s1), .v (.slice A1 l1 c1), .v (.bool t1), .v (.slice B1 m1 d1)]),(2,70,[.v (.bool s0), .v (.slice A0 l0 c0), .v (.bool t0), .v (.slice B0 m0 d0)])] (by kernel_rfl) (by kernel_rfl) ?_
 by_cases hz16 : (n) = 0
 ·refine sx_call 60 [.agg #[.bool s15, .slice A15 l15 c15]] 78 (fun _ : Unit => .bool true) _ (by kernel_rfl) (by kernel_rfl) (fun w hE hΦ => (IsZero_any _ (n) _ hΦ.2).mono (fun _ _ h => post_val h (by rw [decide_eq_true (p := (n) = 0) hz16]))) (fun xx => ?_)
  refine sx_run 0 [(2, .p 2 0),(3, .p 3 0),(4, .p 4 0),(5, .p 5 0),(7, .p 7 0),(8, .p 8 0),(78, .v (.bool true))] [(8,63,[.v (.bool s15), .v (.slice A15 l15 c15)]),(7,63,[.v (.bool s12), .v (.slice A12 l12 c12)]),(5,63,[.v (.bool s10), .v (.slice A10 l10 c10)]),(4,70,[.v (.bool false), .v (.slice none 0 0), .v (.bool false), .v (.slice none 0 0)]),(3,70,[.v (.bool s1), .v (.slice A1 l1 c1), .v (.bool t1), .v (.slice B1 m1 d1)]),(2,70,[.v (.bool s0), .v (.slice A0 l0 c0), .v (.bool t0), .v (.slice B0 m0 d0)])] (by kernel_rfl) (by kernel_rfl) ?_
  refine sx_end (by kernel_rfl) ?_
  refine sx_next ?_
  refine sx_cond_t (by kernel_rfl) ?_
  refine sx_seq ?_
  refine sx_region ?_
  refine sx_run 2 [(2, .p 2 0),(3, .p 3 0),(4, .p 4 0),(5, .p 5 0),(7, .p 7 0),(8, .p 8 0)] [(8,63,[.v (.bool s15), .v (.slice A15 l15 c15)]),(7,63,[.v (.bool s12), .v (.slice A12 l12 c12)]),(5,63,[.v (.bool s10), .v (.slice A10 l10 c10)]),(4,70,[.v (.bool false), .v (.slice none 0 0), .v (.bool false), .v (.slice none 0 0)]),(3,70,[.v (.bool s1), .v (.slice A1 l1 c1), .v (.bool t1), .v (.slice B1 m1 d1)]),(2,70,[.v (.bool s0), .v (.slice A0 l0 c0), .v (.bool t0), .v (.slice B0 m0 d0)])] (by kernel_rfl) (by kernel_rfl) ?_
  refine sx_end (by kernel_rfl) ?_
  refine sx_next ?_
  refine sx_ret ?_
  refine sx_then_ret ?_
  refine sx_done (v := .agg #[.bool false, .slice none 0 0, .bool false, .slice none 0 0]) (by kernel_rfl) (fun w' hE hΦ => ?_)
  exact ⟨_,rfl,by rw [HA0 hz16]; exact (RatIs.nil _),hE⟩
 ·refine sx_call 60 [.agg #[.bool s15, .slice A15 l15 c15]] 78 (fun _ : Unit => .bool false) _ (by kernel_rfl) (by kernel_rfl) (fun w hE hΦ => (IsZero_any _ (n) _ hΦ.2).mono (fun _ _ h => post_val h (by rw [decide_eq_false (p := (n) = 0) hz16]))) (fun xx => ?_)
  refine sx_run 0 [(2, .p 2 0),(3, .p 3 0),(4, .p 4 0),(5, .p 5 0),(7, .p 7 0),(8, .p 8 0),(78, .v (.bool false))] [(8,63,[.v (.bool s15), .v (.slice A15 l15 c15)]),(7,63,[.v (.bool s12), .v (.slice A12 l12 c12)]),(5,63,[.v (.bool s10), .v (.slice A10 l10 c10)]),(4,70,[.v (.bool false), .v (.slice none 0 0), .v (.bool false), .v (.slice none 0 0)]),(3,70,[.v (.bool s1), .v (.slice A1 l1 c1), .v (.bool t1), .v (.slice B1 m1 d1)]),(2,70,[.v (.bool s0), .v (.slice A0 l0 c0), .v (.bool t0), .v (.slice B0 m0 d0)])] (by kernel_rfl) (by kernel_rfl) ?_
  refine sx_end (by kernel_rfl) ?_
  refine sx_next ?_
  refine sx_cond_f (by kernel_rfl) ?_
  refine sx_skip ?_
  refine sx_next ?_
  refine sx_seq ?_
  refine sx_seq ?_
  refine sx_region ?_
  refine sx_run 1 [(2, .p 2 0),(3, .p 3 0),(4, .p 4 0),(5, .p 5 0),(7, .p 7 0),(8, .p 8 0),(80, .v (.agg #[.bool s10, .slice A10 l10 c10]))] [(8,63,[.v (.bool s15), .v (.slice A15 l15 c15)]),(7,63,[.v (.bool s12), .v (.slice A12 l12 c12)]),(5,63,[.v (.bool s10), .v (.slice A10 l10 c10)]),(4,70,[.v (.bool false), .v (.slice none 0 0), .v (.bool false), .v (.slice none 0 0)]),(3,70,[.v (.bool s1), .v (.slice A1 l1 c1), .v (.bool t1), .v (.slice B1 m1 d1)]),(2,70,[.v (.bool s0), .v (.slice A0 l0 c0), .v (.bool t0), .v (.slice B0 m0 d0)])] (by kernel_rfl) (by kernel_rfl) ?_
  by_cases hz17 : ((c : Int)) = 1
  ·refine sx_call 109 [.agg #[.bool s10, .slice A10 l10 c10]] 81 (fun _ : Unit => .bool true) _ (by kernel_rfl) (by kernel_rfl) (fun w hE hΦ => (IsOne_any _ ((c : Int)) _ hΦ.1.1.1.1.1.1.2).mono (fun _ _ h => post_val h (by rw [decide_eq_true (p := ((c : Int)) = 1) hz17]))) (fun xx => ?_)
   refine sx_run 0 [(2, .p 2 0),(3, .p 3 0),(4, .p 4 0),(5, .p 5 0),(7, .p 7 0),(8, .p 8 0),(81, .v (.bool true))] [(8,63,[.v (.bool s15), .v (.slice A15 l15 c15)]),(7,63,[.v (.bool s12), .v (.slice A12 l12 c12)]),(5,63,[.v (.bool s10), .v (.slice A10 l10 c10)]),(4,70,[.v (.bool false), .v (.slice none 0 0), .v (.bool false), .v (.slice none 0 0)]),(3,70,[.v (.bool s1), .v (.slice A1 l1 c1), .v (.bool t1), .v (.slice B1 m1 d1)]),(2,70,[.v (.bool s0), .v (.slice A0 l0 c0), .v (.bool t0), .v (.slice B0 m0 d0)])] (by kernel_rfl) (by kernel_rfl) ?_
   refine sx_end (by kernel_rfl) ?_
   refine sx_next ?_
   refine sx_cond_t (by kernel_rfl) ?_
   refine sx_seq ?_
   refine sx_draw 8 (by kernel_rfl) (by kernel_rfl) follows_mixed' ?_
   refine st_flt 5 [(3, .p 3 0),(4, .p 4 0),(5, .p 5 0),(7, .p 7 0),(8, .p 8 0),(82, .v (.agg #[.bool s15, .slice A15 l15 c15])),(84, .v (.agg #[.bool t0, .slice B0 m0 d0])),(86, .v (.agg #[.bool t1, .slice B1 m1 d1]))] [(8,63,[.v (.bool s15), .v (.slice A15 l15 c15)]),(7,63,[.v (.bool s12), .v (.slice A12 l12 c12)]),(5,63,[.v (.bool s10), .v (.slice A10 l10 c10)]),(4,70,[.v (.bool false), .v (.slice none 0 0), .v (.bool false), .v (.slice none 0 0)]),(3,70,[.v (.bool s1), .v (.slice A1 l1 c1), .v (.bool t1), .v (.slice B1 m1 d1)]),(2,70,[.v (.bool s0), .v (.slice A0 l0 c0), .v (.bool t0), .v (.slice B0 m0 d0)])] (by kernel_rfl) (by kernel_rfl) ?_
   refine st_call 88 [.agg #[.bool t0, .slice B0 m0 d0], .agg #[.bool t1, .slice B1 m1 d1]] 87 shInt _ (by kernel_rfl) (by kernel_rfl) (by kernel_rfl) (fun w hE hΦ => (Mul_any _ _ ((p.den : Int)) ((q.den : Int)) _ hΦ.1.1.1.1.1.1.1.1.1.1.1.1.2 hΦ.1.1.1.1.1.1.1.1.1.1.1.2 (fit S3 (by decide)) (fit S4 (by decide)) (Or.inl (Nat.lt_of_le_of_lt S3 (by decide)))).mono (fun _ _ h => post_Int h)) (fun xx => ?_)
   obtain ⟨s18,A18,l18,c18⟩ := xx
   refine st_flt 0 [(3, .p 3 0),(4, .p 4 0),(5, .p 5 0),(7, .p 7 0),(8, .p 8 0),(82, .v (.agg #[.bool s15, .slice A15 l15 c15])),(87, .v (.agg #[.bool s18, .slice A18 l18 c18]))] [(8,63,[.v (.bool s15), .v (.slice A15 l15 c15)]),(7,63,[.v (.bool s12), .v (.slice A12 l12 c12)]),(5,63,[.v (.bool s10), .v (.slice A10 l10 c10)]),(4,70,[.v (.bool false), .v (.slice none 0 0), .v (.bool false), .v (.slice none 0 0)]),(3,70,[.v (.bool s1), .v (.slice A1 l1 c1), .v (.bool t1), .v (.slice B1 m1 d1)]),(2,70,[.v (.bool s0), .v (.slice A0 l0 c0), .v (.bool t0), .v (.slice B0 m0 d0)])] (by kernel_rfl) (by kernel_rfl) ?_
   refine st_call 95 [.agg #[.bool s15, .slice A15 l15 c15], .agg #[.bool s18, .slice A18 l18 c18]] 88 shRat _ (by kernel_rfl) (by kernel_rfl) (by kernel_rfl) (fun w hE hΦ => (lowest_any _ _ (n) (((p.den : Int)) * ((q.den : Int))) (p + q) _ hΦ.1.1.1.2 hΦ.2 (by obtain ⟨k1,k2⟩ := HA1 (by omega); exact ⟨k1,by rw [k2,Int.natCast_mul]⟩)).mono (fun _ _ h => post_Rat h)) (fun xx => ?_)
   obtain ⟨s19,A19,l19,c19,t19,B19,m19,d19⟩ := xx
   refine st_flt 1 [(3, .p 3 0),(4, .p 4 0),(5, .p 5 0),(7, .p 7 0),(8, .p 8 0)] [(4,70,[.v (.bool s19), .v (.slice A19 l19 c19), .v (.bool t19), .v (.slice B19 m19 d19)]),(8,63,[.v (.bool s15), .v (.slice A15 l15 c15)]),(7,63,[.v (.bool s12), .v (.slice A12 l12 c12)]),(5,63,[.v (.bool s10), .v (.slice A10 l10 c10)]),(4,70,[.v (.bool false), .v (.slice none 0 0), .v (.bool false), .v (.slice none 0 0)]),(3,70,[.v (.bool s1), .v (.slice A1 l1 c1), .v (.bool t1), .v (.slice B1 m1 d1)]),(2,70,[.v (.bool s0), .v (.slice A0 l0 c0), .v (.bool t0), .v (.slice B0 m0 d0)])] (by kernel_rfl) (by kernel_rfl) ?_
   refine st_end (by kernel_rfl) ?_
   refine sx_end (by kernel_rfl) ?_
   refine sx_next ?_
   refine sx_ret ?_
   refine sx_then_ret ?_
   refine sx_done (v := .agg #[.bool s19, .slice A19 l19 c19, .bool t19, .slice B19 m19 d19]) (by kernel_rfl) (fun w' hE hΦ => ?_)
   exact ⟨_,rfl,hΦ.2,hE⟩
  ·refine sx_call 109 [.agg #[.bool s10, .slice A10 l10 c10]] 81 (fun _ : Unit => .bool false) _ (by kernel_rfl) (by kernel_rfl) (fun w hE hΦ => (IsOne_any _ ((c : Int)) _ hΦ.1.1.1.1.1.1.2).mono (fun _ _ h => post_val h (by rw [decide_eq_false (p := ((c : Int)) = 1) hz17]))) (fun xx => ?_)
   refine sx_run 0 [(2, .p 2 0),(3, .p 3 0),(4, .p 4 0),(5, .p 5 0),(7, .p 7 0),(8, .p 8 0),(81, .v (.bool false))] [(8,63,[.v (.bool s15), .v (.slice A15 l15 c15)]),(7,63,[.v (.bool s12), .v (.slice A12 l12 c12)]),(5,63,[.v (.bool s10), .v (.slice A10 l10 c10)]),(4,70,[.v (.bool false), .v (.slice none 0 0), .v (.bool false), .v (.slice none 0 0)]),(3,70,[.v (.bool s1), .v (.slice A1 l1 c1), .v (.bool t1), .v (.slice B1 m1 d1)]),(2,70,[.v (.bool s0), .v (.slice A0 l0 c0), .v (.bool t0), .v (.slice B0 m0 d0)])] (by kernel_rfl) (by kernel_rfl) ?_
   refine sx_end (by kernel_rfl) ?_
   refine sx_next ?_
   refine sx_cond_f (by kernel_rfl) ?_
   refine sx_skip ?_
   refine sx_next ?_
   refine sx_seq ?_
   refine sx_region ?_
   refine sx_run 2 [(3, .p 3 0),(4, .p 4 0),(7, .p 7 0),(8, .p 8 0),(89, .v (.agg #[.bool s15, .slice A15 l15 c15])),(90, .v (.agg #[.bool s10, .slice A10 l10 c10]))] [(8,63,[.v (.bool s15), .v (.slice A15 l15 c15)]),(7,63,[.v (.bool s12), .v (.slice A12 l12 c12)]),(4,70,[.v (.bool false), .v (.slice none 0 0), .v (.bool false), .v (.slice none 0 0)]),(3,70,[.v (.bool s1), .v (.slice A1 l1 c1), .v (.bool t1), .v (.slice B1 m1 d1)])] (by kernel_rfl) (by kernel_rfl) ?_
   refine sx_call 90 [.agg #[.bool s15, .slice A15 l15 c15], .agg #[.bool s10, .slice A10 l10 c10]] 91 shInt _ (by kernel_rfl) (by kernel_rfl) (fun w hE hΦ => (GCD_any _ _ (n) ((c : Int)) _ hΦ.1.1.1.1.1.1.1.1.1.1.1.1.1.2 hΦ.1.1.2 hΦ.1.1.1.1.1.1.1.2 (fit Sn (by decide)) (fit (wlc Sc) (by decide)) (GcdOk.words (Nat.le_trans Sn (by decide)) (Nat.le_trans (wlc Sc) (by decide)))).mono (fun _ _ h => post_Int h)) (fun xx => ?_)
   obtain ⟨s20,A20,l20,c20⟩ := xx
   refine sx_run 2 [(3, .p 3 0),(4, .p 4 0),(7, .p 7 0),(8, .p 8 0),(9, .p 9 0)] [(9,63,[.v (.bool s20), .v (.slice A20 l20 c20)]),(8,63,[.v (.bool s15), .v (.slice A15 l15 c15)]),(7,63,[.v (.bool s12), .v (.slice A12 l12 c12)]),(4,70,[.v (.bool false), .v (.slice none 0 0), .v (.bool false), .v (.slice none 0 0)]),(3,70,[.v (.bool s1), .v (.slice A1 l1 c1), .v (.bool t1), .v (.slice B1 m1 d1)])] (by kernel_rfl) (by kernel_rfl) ?_
   refine sx_end (by kernel_rfl) ?_
   refine sx_next ?_
   refine sx_seq ?_
   refine sx_draw 11 (by kernel_rfl) (by kernel_rfl) follows_mixed' ?_
   refine st_flt 2 [(3, .p 3 0),(4, .p 4 0),(7, .p 7 0),(9, .p 9 0),(92, .v (.agg #[.bool s15, .slice A15 l15 c15])),(93, .v (.agg #[.bool s20, .slice A20 l20 c20]))] [(9,63,[.v (.bool s20), .v (.slice A20 l20 c20)]),(8,63,[.v (.bool s15), .v (.slice A15 l15 c15)]),(7,63,[.v (.bool s12), .v (.slice A12 l12 c12)]),(4,70,[.v (.bool false), .v (.slice none 0 0), .v (.bool false), .v (.slice none 0 0)]),(3,70,[.v (.bool s1), .v (.slice A1 l1 c1), .v (.bool t1), .v (.slice B1 m1 d1)])] (by kernel_rfl) (by kernel_rfl) ?_
   refine st_call 116 [.agg #[.bool s15, .slice A15 l15 c15], .agg #[.bool s20, .slice A20 l20 c20]] 94 shInt _ (by kernel_rfl) (by kernel_rfl) (by kernel_rfl) (fun w hE hΦ => (Quo_any _ _ (n) (((Int.gcd (n) ((c : Int)) : Nat) : Int)) _ hΦ.1.1.1.2 hΦ.2 (fit Sn (by decide)) (Nat.lt_of_le_of_lt (wlc (wlg (wlc Sc) hci)) (by decide)) (gcd_nz hci)).mono (fun _ _ h => post_Int h)) (fun xx => ?_)
   obtain ⟨s21,A21,l21,c21⟩ := xx
   refine st_flt 4 [(4, .p 4 0),(94, .v (.agg #[.bool s21, .slice A21 l21 c21])),(95, .v (.agg #[.bool s12, .slice A12 l12 c12])),(97, .v (.agg #[.bool t1, .slice B1 m1 d1])),(98, .v (.agg #[.bool s20, .slice A20 l20 c20]))] [(9,63,[.v (.bool s20), .v (.slice A20 l20 c20)]),(8,63,[.v (.bool s15), .v (.slice A15 l15 c15)]),(7,63,[.v (.bool s12), .v (.slice A12 l12 c12)]),(4,70,[.v (.bool false), .v (.slice none 0 0), .v (.bool false), .v (.slice none 0 0)]),(3,70,[.v (.bool s1), .v (.slice A1 l1 c1), .v (.bool t1), .v (.slice B1 m1 d1)])] (by kernel_rfl) (by kernel_rfl) ?_
   refine st_call 116 [.agg #[.bool t1, .slice B1 m1 d1], .agg #[.bool s20, .slice A20 l20 c20]] 99 shInt _ (by kernel_rfl) (by kernel_rfl) (by kernel_rfl) (fun w hE hΦ => (Quo_any _ _ ((q.den : Int)) (((Int.gcd (n) ((c : Int)) : Nat) : Int)) _ hΦ.1.1.1.1.1.1.1.1.1.1.1.1.1.2 hΦ.1.2 (fit S4 (by decide)) (Nat.lt_of_le_of_lt (wlc (wlg (wlc Sc) hci)) (by decide)) (gcd_nz hci)).mono (fun _ _ h => post_Int (by rw [nat_tdiv] at h; exact h))) (fun xx => ?_)
   obtain ⟨s22,A22,l22,c22⟩ := xx
   refine st_flt 0 [(4, .p 4 0),(94, .v (.agg #[.bool s21, .slice A21 l21 c21])),(95, .v (.agg #[.bool s12, .slice A12 l12 c12])),(99, .v (.agg #[.bool s22, .slice A22 l22 c22]))] [(9,63,[.v (.bool s20), .v (.slice A20 l20 c20)]),(8,63,[.v (.bool s15), .v (.slice A15 l15 c15)]),(7,63,[.v (.bool s12), .v (.slice A12 l12 c12)]),(4,70,[.v (.bool false), .v (.slice none 0 0), .v (.bool false), .v (.slice none 0 0)]),(3,70,[.v (.bool s1), .v (.slice A1 l1 c1), .v (.bool t1), .v (.slice B1 m1 d1)])] (by kernel_rfl) (by kernel_rfl) ?_
   refine st_call 88 [.agg #[.bool s12, .slice A12 l12 c12], .agg #[.bool s22, .slice A22 l22 c22]] 100 shInt _ (by kernel_rfl) (by kernel_rfl) (by kernel_rfl) (fun w hE hΦ => (Mul_any _ _ (((p.den / c : Nat) : Int)) (((q.den / Int.gcd (n) ((c : Int)) : Nat) : Int)) _ hΦ.1.1.1.1.1.1.1.1.2 hΦ.2 (fit (wlc (wld hp2)) (by decide)) (fit (wlc (wld hq2)) (by decide)) (Or.inl (Nat.lt_of_le_of_lt (wlc (wld hp2)) (by decide)))).mono (fun _ _ h => post_Int h)) (fun xx => ?_)
   obtain ⟨s23,A23,l23,c23⟩ := xx
   refine st_flt 0 [(4, .p 4 0),(94, .v (.agg #[.bool s21, .slice A21 l21 c21])),(100, .v (.agg #[.bool s23, .slice A23 l23 c23]))] [(9,63,[.v (.bool s20), .v (.slice A20 l20 c20)]),(8,63,[.v (.bool s15), .v (.slice A15 l15 c15)]),(7,63,[.v (.bool s12), .v (.slice A12 l12 c12)]),(4,70,[.v (.bool false), .v (.slice none 0 0), .v (.bool false), .v (.slice none 0 0)]),(3,70,[.v (.bool s1), .v (.slice A1 l1 c1), .v (.bool t1), .v (.slice B1 m1 d1)])] (by kernel_rfl) (by kernel_rfl) ?_
   refine st_call 95 [.agg #[.bool s21, .slice A21 l21 c21], .agg #[.bool s23, .slice A23 l23 c23]] 101 shRat _ (by kernel_rfl) (by kernel_rfl) (by kernel_rfl) (fun w hE hΦ => (lowest_any _ _ ((n).tdiv (((Int.gcd (n) ((c : Int)) : Nat) : Int))) ((((p.den / c : Nat) : Int)) * (((q.den / Int.gcd (n) ((c : Int)) : Nat) : Int))) (p + q) _ hΦ.1.1.2 hΦ.2 (by obtain ⟨k1,k2⟩ := HA2 (by omega); exact ⟨k1,by rw [k2,Int.natCast_mul]⟩)).mono (fun _ _ h => post_Rat h)) (fun xx => ?_)
   obtain ⟨s24,A24,l24,c24,t24,B24,m24,d24⟩ := xx
   refine st_flt 1 [(4, .p 4 0)] [(4,70,[.v (.bool s24), .v (.slice A24 l24 c24), .v (.bool t24), .v (.slice B24 m24 d24)]),(9,63,[.v (.bool s20), .v (.slice A20 l20 c20)]),(8,63,[.v (.bool s15), .v (.slice A15 l15 c15)]),(7,63,[.v (.bool s12), .v (.slice A12 l12 c12)]),(4,70,[.v (.bool false), .v (.slice none 0 0), .v (.bool false), .v (.slice none 0 0)]),(3,70,[.v (.bool s1), .v (.slice A1 l1 c1), .v (.bool t1), .v (.slice B1 m1 d1)])] (by kernel_rfl) (by kernel_rfl) ?_
   refine st_end (by kernel_rfl) ?_
   refine sx_end (by kernel_rfl) ?_
   refine sx_next ?_
   refine sx_ret ?_
   refine sx_done (v := .agg #[.bool s24, .slice A24 l24 c24, .bool t24, .slice B24 m24 d24]) (by kernel_rfl) (fun w' hE hΦ => ?_)
   exact ⟨_,rfl,hΦ.2,hE⟩
theorem QAdd_any (a b : Value) (p q : Rat) (w : World) (hg : Glob w) (ha : RatIs w a p) (hb : RatIs w b q) (hp : QFits p 38) (hq : QFits q 38) : Calls Tryz.prog 80 #[a,b] w (RetRat w (p + q)) := by
 by_cases h1 : p.den = 1
 ·by_cases h2 : q.den = 1
  ·exact QAdd_ww a b p q w ha hb hp hq h1 h2
  ·exact QAdd_wf a b p q w ha hb hp hq h1 h2
 ·by_cases h2 : q.den = 1
  ·exact QAdd_fw a b p q w ha hb hp hq h1 h2
  ·exact QAdd_ff a b p q w hg ha hb hp hq h1 h2
set_option maxRecDepth 100000 in
theorem QIsZero_any (a : Value) (q : Rat) (w : World) (ha : RatIs w a q) :
 Calls Tryz.prog 76 #[a] w (RetV w (.bool (decide (q.num = 0)))) := by
 obtain ⟨s0,A0,l0,c0,t0,B0,m0,d0,rfl⟩ := ha.shp
 refine sx_enter (Φ := fun w => RatIs w (.agg #[.bool s0, .slice A0 l0 c0, .bool t0, .slice B0 m0 d0]) (q)) Tryz.func76 rfl (by kernel_rfl) (fun w' hf => ha.ext hf) ?_
 refine sx_seq ?_
 refine sx_region ?_
 refine sx_run 2 [(1, .p 1 0),(2, .v (.bool false))] [(1,70,[.v (.bool s0), .v (.slice A0 l0 c0), .v (.bool t0), .v (.slice B0 m0 d0)])] (by kernel_rfl) (by kernel_rfl) ?_
 refine sx_end (by kernel_rfl) ?_
 refine sx_next ?_
 refine sx_seq ?_
 refine sx_region ?_
 refine sx_run 2 [(2, .v (.bool false)),(4, .v (.agg #[.bool s0, .slice A0 l0 c0]))] [] (by kernel_rfl) (by kernel_rfl) ?_
 refine sx_call 60 [.agg #[.bool s0, .slice A0 l0 c0]] 5 (fun _ : Unit => .bool (decide (q.num = 0))) _ (by kernel_rfl) (by kernel_rfl) (fun w hE hΦ => (IsZero_any _ (q.num) _ hΦ.num).mono (fun _ _ h => post_val h rfl)) (fun xx => ?_)
 refine sx_run 1 [(2, .v (.bool (decide (q.num = 0))))] [] (by kernel_rfl) (by kernel_rfl) ?_
 refine sx_end (by kernel_rfl) ?_
 refine sx_next ?_
 refine sx_ret ?_
 refine sx_done (v := .bool (decide (q.num = 0))) (by kernel_rfl) (fun w' hE hΦ => ?_)
 exact ⟨rfl,hE⟩
set_option maxRecDepth 100000 in
theorem QSign_any (a : Value) (q : Rat) (w : World) (ha : RatIs w a q) :
 Calls Tryz.prog 134 #[a] w (RetV w (.int .i64 q.num.sign)) := by
 obtain ⟨s0,A0,l0,c0,t0,B0,m0,d0,rfl⟩ := ha.shp
 refine sx_enter (Φ := fun w => RatIs w (.agg #[.bool s0, .slice A0 l0 c0, .bool t0, .slice B0 m0 d0]) (q)) Tryz.func134 rfl (by kernel_rfl) (fun w' hf => ha.ext hf) ?_
 refine sx_seq ?_
 refine sx_region ?_
 refine sx_run 2 [(1, .p 1 0),(2, .v (.int .i64 0))] [(1,70,[.v (.bool s0), .v (.slice A0 l0 c0), .v (.bool t0), .v (.slice B0 m0 d0)])] (by kernel_rfl) (by kernel_rfl) ?_
 refine sx_end (by kernel_rfl) ?_
 refine sx_next ?_
 refine sx_seq ?_
 refine sx_region ?_
 refine sx_run 2 [(2, .v (.int .i64 0)),(4, .v (.agg #[.bool s0, .slice A0 l0 c0]))] [] (by kernel_rfl) (by kernel_rfl) ?_
 refine sx_call 115 [.agg #[.bool s0, .slice A0 l0 c0]] 5 (fun _ : Unit => .int .i64 q.num.sign) _ (by kernel_rfl) (by kernel_rfl) (fun w hE hΦ => (Sign_any _ (q.num) _ hΦ.num).mono (fun _ _ h => post_val h rfl)) (fun xx => ?_)
 refine sx_run 1 [(2, .v (.int .i64 q.num.sign))] [] (by kernel_rfl) (by kernel_rfl) ?_
 refine sx_end (by kernel_rfl) ?_
 refine sx_next ?_
 refine sx_ret ?_
 refine sx_done (v := .int .i64 q.num.sign) (by kernel_rfl) (fun w' hE hΦ => ?_)
 exact ⟨rfl,hE⟩
set_option maxRecDepth 100000 in
theorem cancel_any (a b : Value) (x y : Int) (w : World) (hg : Glob w) (ha : IntIs w a x) (hb : IntIs w b y) (hx : wl x.natAbs ≤ 38) (hy : wl y.natAbs ≤ 38) (h0 : y ≠ 0) :
 Calls Tryz.prog 132 #[a,b] w (RetInt2 w (x.tdiv ((Int.gcd x y : Nat) : Int)) (y.tdiv ((Int.gcd x y : Nat) : Int))) := by
 obtain ⟨s0,A0,l0,c0,rfl⟩ := ha.shp
 obtain ⟨s1,A1,l1,c1,rfl⟩ := hb.shp
 refine sx_enter (Φ := fun w => ((IntIs w (.agg #[.bool s0, .slice A0 l0 c0]) (x) ∧ IntIs w (.agg #[.bool s1, .slice A1 l1 c1]) (y)) ∧ Glob w)) Tryz.func132 rfl (by kernel_rfl) (fun w' hf => ⟨⟨ha.ext hf,hb.ext hf⟩,hg.ext hf⟩) ?_
 refine sx_seq ?_
 refine sx_region ?_
 refine sx_run 4 [(2, .p 2 0),(3, .p 3 0),(4, .p 4 0),(5, .p 5 0)] [(5,63,[.v (.bool false), .v (.slice none 0 0)]),(4,63,[.v (.bool false), .v (.slice none 0 0)]),(3,63,[.v (.bool s1), .v (.slice A1 l1 c1)]),(2,63,[.v (.bool s0), .v (.slice A0 l0 c0)])] (by kernel_rfl) (by kernel_rfl) ?_
 refine sx_end (by kernel_rfl) ?_
 refine sx_next ?_
 refine sx_seq ?_
 refine sx_seq ?_
 refine sx_region ?_
 refine sx_run 1 [(2, .p 2 0),(3, .p 3 0),(4, .p 4 0),(5, .p 5 0),(7, .v (.agg #[.bool s1, .slice A1 l1 c1]))] [(5,63,[.v (.bool false), .v (.slice none 0 0)]),(4,63,[.v (.bool false), .v (.slice none 0 0)]),(3,63,[.v (.bool s1), .v (.slice A1 l1 c1)]),(2,63,[.v (.bool s0), .v (.slice A0 l0 c0)])] (by kernel_rfl) (by kernel_rfl) ?_
 by_cases hz10 : (y) = 1
 ·refine sx_call 109 [.agg #[.bool s1, .slice A1 l1 c1]] 8 (fun _ : Unit => .bool true) _ (by kernel_rfl) (by kernel_rfl) (fun w hE hΦ => (IsOne_any _ (y) _ hΦ.1.2).mono (fun _ _ h => post_val h (by rw [decide_eq_true (p := (y) = 1) hz10]))) (fun xx => ?_)
  refine sx_run 0 [(2, .p 2 0),(3, .p 3 0),(4, .p 4 0),(5, .p 5 0),(8, .v (.bool true))] [(5,63,[.v (.bool false), .v (.slice none 0 0)]),(4,63,[.v (.bool false), .v (.slice none 0 0)]),(3,63,[.v (.bool s1), .v (.slice A1 l1 c1)]),(2,63,[.v (.bool s0), .v (.slice A0 l0 c0)])] (by kernel_rfl) (by kernel_rfl) ?_
  refine sx_end (by kernel_rfl) ?_
  refine sx_next ?_
  refine sx_cond_t (by kernel_rfl) ?_
  refine sx_seq ?_
  refine sx_draw 4 (by kernel_rfl) (by kernel_rfl) follows_mixed' ?_
  refine st_flt 4 [(2, .p 2 0),(3, .p 3 0),(4, .p 4 0),(5, .p 5 0)] [(5,63,[.v (.bool s1), .v (.slice A1 l1 c1)]),(4,63,[.v (.bool s0), .v (.slice A0 l0 c0)]),(5,63,[.v (.bool false), .v (.slice none 0 0)]),(4,63,[.v (.bool false), .v (.slice none 0 0)]),(3,63,[.v (.bool s1), .v (.slice A1 l1 c1)]),(2,63,[.v (.bool s0), .v (.slice A0 l0 c0)])] (by kernel_rfl) (by kernel_rfl) ?_
  refine st_end (by kernel_rfl) ?_
  refine sx_end (by kernel_rfl) ?_
  refine sx_next ?_
  refine sx_ret ?_
  refine sx_then_ret ?_
  refine sx_done (v := .tuple #[.agg #[.bool s0, .slice A0 l0 c0], .agg #[.bool s1, .slice A1 l1 c1]]) (by kernel_rfl) (fun w' hE hΦ => ?_)
  exact ⟨_,_,rfl,by rw [hz10,Int.gcd_one_right]; simpa using hΦ.1.1.1,by rw [hz10,Int.gcd_one_right]; simpa [hz10] using hΦ.1.1.2,hE⟩
 ·refine sx_call 109 [.agg #[.bool s1, .slice A1 l1 c1]] 8 (fun _ : Unit => .bool false) _ (by kernel_rfl) (by kernel_rfl) (fun w hE hΦ => (IsOne_any _ (y) _ hΦ.1.2).mono (fun _ _ h => post_val h (by rw [decide_eq_false (p := (y) = 1) hz10]))) (fun xx => ?_)
  refine sx_run 0 [(2, .p 2 0),(3, .p 3 0),(4, .p 4 0),(5, .p 5 0),(8, .v (.bool false))] [(5,63,[.v (.bool false), .v (.slice none 0 0)]),(4,63,[.v (.bool false), .v (.slice none 0 0)]),(3,63,[.v (.bool s1), .v (.slice A1 l1 c1)]),(2,63,[.v (.bool s0), .v (.slice A0 l0 c0)])] (by kernel_rfl) (by kernel_rfl) ?_
  refine sx_end (by kernel_rfl) ?_
  refine sx_next ?_
  refine sx_cond_f (by kernel_rfl) ?_
  refine sx_skip ?_
  refine sx_next ?_
  refine sx_seq ?_
  refine sx_region ?_
  refine sx_run 2 [(2, .p 2 0),(3, .p 3 0),(4, .p 4 0),(5, .p 5 0),(11, .v (.agg #[.bool s0, .slice A0 l0 c0])),(12, .v (.agg #[.bool s1, .slice A1 l1 c1]))] [(5,63,[.v (.bool false), .v (.slice none 0 0)]),(4,63,[.v (.bool false), .v (.slice none 0 0)]),(3,63,[.v (.bool s1), .v (.slice A1 l1 c1)]),(2,63,[.v (.bool s0), .v (.slice A0 l0 c0)])] (by kernel_rfl) (by kernel_rfl) ?_
  refine sx_call 90 [.agg #[.bool s0, .slice A0 l0 c0], .agg #[.bool s1, .slice A1 l1 c1]] 13 shInt _ (by kernel_rfl) (by kernel_rfl) (fun w hE hΦ => (GCD_any _ _ (x) (y) _ hΦ.1.2 hΦ.1.1.1 hΦ.1.1.2 (fit hx (by decide)) (fit hy (by decide)) (GcdOk.words (Nat.le_trans hx (by decide)) (Nat.le_trans hy (by decide)))).mono (fun _ _ h => post_Int h)) (fun xx => ?_)
  obtain ⟨s11,A11,l11,c11⟩ := xx
  refine sx_run 2 [(2, .p 2 0),(3, .p 3 0),(4, .p 4 0),(5, .p 5 0),(6, .p 6 0)] [(6,63,[.v (.bool s11), .v (.slice A11 l11 c11)]),(5,63,[.v (.bool false), .v (.slice none 0 0)]),(4,63,[.v (.bool false), .v (.slice none 0 0)]),(3,63,[.v (.bool s1), .v (.slice A1 l1 c1)]),(2,63,[.v (.bool s0), .v (.slice A0 l0 c0)])] (by kernel_rfl) (by kernel_rfl) ?_
  refine sx_end (by kernel_rfl) ?_
  refine sx_next ?_
  refine sx_seq ?_
  refine sx_draw 8 (by kernel_rfl) (by kernel_rfl) follows_mixed' ?_
  refine st_flt 2 [(3, .p 3 0),(4, .p 4 0),(5, .p 5 0),(6, .p 6 0),(14, .v (.agg #[.bool s0, .slice A0 l0 c0])),(15, .v (.agg #[.bool s11, .slice A11 l11 c11]))] [(6,63,[.v (.bool s11), .v (.slice A11 l11 c11)]),(5,63,[.v (.bool false), .v (.slice none 0 0)]),(4,63,[.v (.bool false), .v (.slice none 0 0)]),(3,63,[.v (.bool s1), .v (.slice A1 l1 c1)]),(2,63,[.v (.bool s0), .v (.slice A0 l0 c0)])] (by kernel_rfl) (by kernel_rfl) ?_
  refine st_call 116 [.agg #[.bool s0, .slice A0 l0 c0], .agg #[.bool s11, .slice A11 l11 c11]] 16 shInt _ (by kernel_rfl) (by kernel_rfl) (by kernel_rfl) (fun w hE hΦ => (Quo_any _ _ (x) (((Int.gcd (x) (y) : Nat) : Int)) _ hΦ.1.1.1.1 hΦ.2 (fit hx (by decide)) (Nat.lt_of_le_of_lt (wlc (wlg hy h0)) (by decide)) (gcd_nz h0)).mono (fun _ _ h => post_Int h)) (fun xx => ?_)
  obtain ⟨s12,A12,l12,c12⟩ := xx
  refine st_flt 2 [(4, .p 4 0),(5, .p 5 0),(16, .v (.agg #[.bool s12, .slice A12 l12 c12])),(17, .v (.agg #[.bool s1, .slice A1 l1 c1])),(18, .v (.agg #[.bool s11, .slice A11 l11 c11]))] [(6,63,[.v (.bool s11), .v (.slice A11 l11 c11)]),(5,63,[.v (.bool false), .v (.slice none 0 0)]),(4,63,[.v (.bool false), .v (.slice none 0 0)]),(3,63,[.v (.bool s1), .v (.slice A1 l1 c1)]),(2,63,[.v (.bool s0), .v (.slice A0 l0 c0)])] (by kernel_rfl) (by kernel_rfl) ?_
  refine st_call 116 [.agg #[.bool s1, .slice A1 l1 c1], .agg #[.bool s11, .slice A11 l11 c11]] 19 shInt _ (by kernel_rfl) (by kernel_rfl) (by kernel_rfl) (fun w hE hΦ => (Quo_any _ _ (y) (((Int.gcd (x) (y) : Nat) : Int)) _ hΦ.1.1.1.1.2 hΦ.1.2 (fit hy (by decide)) (Nat.lt_of_le_of_lt (wlc (wlg hy h0)) (by decide)) (gcd_nz h0)).mono (fun _ _ h => post_Int h)) (fun xx => ?_)
  obtain ⟨s13,A13,l13,c13⟩ := xx
  refine st_flt 2 [(4, .p 4 0),(5, .p 5 0)] [(5,63,[.v (.bool s13), .v (.slice A13 l13 c13)]),(4,63,[.v (.bool s12), .v (.slice A12 l12 c12)]),(6,63,[.v (.bool s11), .v (.slice A11 l11 c11)]),(5,63,[.v (.bool false), .v (.slice none 0 0)]),(4,63,[.v (.bool false), .v (.slice none 0 0)]),(3,63,[.v (.bool s1), .v (.slice A1 l1 c1)]),(2,63,[.v (.bool s0), .v (.slice A0 l0 c0)])] (by kernel_rfl) (by kernel_rfl) ?_
  refine st_end (by kernel_rfl) ?_
  refine sx_end (by kernel_rfl) ?_
  refine sx_next ?_
  refine sx_ret ?_
  refine sx_done (v := .tuple #[.agg #[.bool s12, .slice A12 l12 c12], .agg #[.bool s13, .slice A13 l13 c13]]) (by kernel_rfl) (fun w' hE hΦ => ?_)
  exact ⟨_,_,rfl,hΦ.1.2,hΦ.2,hE⟩
set_option maxRecDepth 100000 in
theorem QMul_any (a b : Value) (p q : Rat) (w : World) (hg : Glob w) (ha : RatIs w a p) (hb : RatIs w b q) (hp : QFits p 38) (hq : QFits q 38) :
 Calls Tryz.prog 82 #[a,b] w (RetRat w (p * q)) := by
 obtain ⟨s0,A0,l0,c0,t0,B0,m0,d0,rfl⟩ := ha.shp
 obtain ⟨s1,A1,l1,c1,t1,B1,m1,d1,rfl⟩ := hb.shp
 have S1 : wl p.num.natAbs ≤ 38 := hp.1
 have S2 : wl q.num.natAbs ≤ 38 := hq.1
 have hp2 : wl p.den ≤ 38 := hp.2
 have hq2 : wl q.den ≤ 38 := hq.2
 have S3 : wl ((p.den : Nat) : Int).natAbs ≤ 38 := wlc hp2
 have S4 : wl ((q.den : Nat) : Int).natAbs ≤ 38 := wlc hq2
 refine sx_enter (Φ := fun w => ((RatIs w (.agg #[.bool s0, .slice A0 l0 c0, .bool t0, .slice B0 m0 d0]) (p) ∧ RatIs w (.agg #[.bool s1, .slice A1 l1 c1, .bool t1, .slice B1 m1 d1]) (q)) ∧ Glob w)) Tryz.func82 rfl (by kernel_rfl) (fun w' hf => ⟨⟨ha.ext hf,hb.ext hf⟩,hg.ext hf⟩) ?_
 refine sx_seq ?_
 refine sx_region ?_
 refine sx_run 3 [(2, .p 2 0),(3, .p 3 0),(4, .p 4 0)] [(4,70,[.v (.bool false), .v (.slice none 0 0), .v (.bool false), .v (.slice none 0 0)]),(3,70,[.v (.bool s1), .v (.slice A1 l1 c1), .v (.bool t1), .v (.slice B1 m1 d1)]),(2,70,[.v (.bool s0), .v (.slice A0 l0 c0), .v (.bool t0), .v (.slice B0 m0 d0)])] (by kernel_rfl) (by kernel_rfl) ?_
 refine sx_end (by kernel_rfl) ?_
 refine sx_next ?_
 refine sx_seq ?_
 refine sx_seq ?_
 refine sx_region ?_
 refine sx_run 2 [(2, .p 2 0),(3, .p 3 0),(4, .p 4 0),(10, .v (.agg #[.bool s0, .slice A0 l0 c0]))] [(4,70,[.v (.bool false), .v (.slice none 0 0), .v (.bool false), .v (.slice none 0 0)]),(3,70,[.v (.bool s1), .v (.slice A1 l1 c1), .v (.bool t1), .v (.slice B1 m1 d1)]),(2,70,[.v (.bool s0), .v (.slice A0 l0 c0), .v (.bool t0), .v (.slice B0 m0 d0)])] (by kernel_rfl) (by kernel_rfl) ?_
 by_cases hz10 : ((p).num) = 0
 ·refine sx_call 60 [.agg #[.bool s0, .slice A0 l0 c0]] 11 (fun _ : Unit => .bool true) _ (by kernel_rfl) (by kernel_rfl) (fun w hE hΦ => (IsZero_any _ ((p).num) _ hΦ.1.1.num).mono (fun _ _ h => post_val h (by rw [decide_eq_true (p := ((p).num) = 0) hz10]))) (fun xx => ?_)
  refine sx_run 5 [(2, .p 2 0),(3, .p 3 0),(4, .p 4 0),(16, .v (.bool true))] [(4,70,[.v (.bool false), .v (.slice none 0 0), .v (.bool false), .v (.slice none 0 0)]),(3,70,[.v (.bool s1), .v (.slice A1 l1 c1), .v (.bool t1), .v (.slice B1 m1 d1)]),(2,70,[.v (.bool s0), .v (.slice A0 l0 c0), .v (.bool t0), .v (.slice B0 m0 d0)])] (by kernel_rfl) (by kernel_rfl) ?_
  refine sx_end (by kernel_rfl) ?_
  refine sx_next ?_
  refine sx_cond_t (by kernel_rfl) ?_
  refine sx_seq ?_
  refine sx_region ?_
  refine sx_run 2 [(2, .p 2 0),(3, .p 3 0),(4, .p 4 0)] [(4,70,[.v (.bool false), .v (.slice none 0 0), .v (.bool false), .v (.slice none 0 0)]),(3,70,[.v (.bool s1), .v (.slice A1 l1 c1), .v (.bool t1), .v (.slice B1 m1 d1)]),(2,70,[.v (.bool s0), .v (.slice A0 l0 c0), .v (.bool t0), .v (.slice B0 m0 d0)])] (by kernel_rfl) (by kernel_rfl) ?_
  refine sx_end (by kernel_rfl) ?_
  refine sx_next ?_
  refine sx_ret ?_
  refine sx_then_ret ?_
  refine sx_done (v := .agg #[.bool false, .slice none 0 0, .bool false, .slice none 0 0]) (by kernel_rfl) (fun w' hE hΦ => ?_)
  exact ⟨_,rfl,by rw [rmul_zero_l hz10]; exact RatIs.nil _,hE⟩
 ·refine sx_call 60 [.agg #[.bool s0, .slice A0 l0 c0]] 11 (fun _ : Unit => .bool false) _ (by kernel_rfl) (by kernel_rfl) (fun w hE hΦ => (IsZero_any _ ((p).num) _ hΦ.1.1.num).mono (fun _ _ h => post_val h (by rw [decide_eq_false (p := ((p).num) = 0) hz10]))) (fun xx => ?_)
  refine sx_run 3 [(2, .p 2 0),(3, .p 3 0),(4, .p 4 0),(12, .v (.bool false)),(14, .v (.agg #[.bool s1, .slice A1 l1 c1]))] [(4,70,[.v (.bool false), .v (.slice none 0 0), .v (.bool false), .v (.slice none 0 0)]),(3,70,[.v (.bool s1), .v (.slice A1 l1 c1), .v (.bool t1), .v (.slice B1 m1 d1)]),(2,70,[.v (.bool s0), .v (.slice A0 l0 c0), .v (.bool t0), .v (.slice B0 m0 d0)])] (by kernel_rfl) (by kernel_rfl) ?_
  by_cases hz11 : ((q).num) = 0
  ·refine sx_call 60 [.agg #[.bool s1, .slice A1 l1 c1]] 15 (fun _ : Unit => .bool true) _ (by kernel_rfl) (by kernel_rfl) (fun w hE hΦ => (IsZero_any _ ((q).num) _ hΦ.1.1.2.num).mono (fun _ _ h => post_val h (by rw [decide_eq_true (p := ((q).num) = 0) hz11]))) (fun xx => ?_)
   refine sx_run 1 [(2, .p 2 0),(3, .p 3 0),(4, .p 4 0),(16, .v (.bool true))] [(4,70,[.v (.bool false), .v (.slice none 0 0), .v (.bool false), .v (.slice none 0 0)]),(3,70,[.v (.bool s1), .v (.slice A1 l1 c1), .v (.bool t1), .v (.slice B1 m1 d1)]),(2,70,[.v (.bool s0), .v (.slice A0 l0 c0), .v (.bool t0), .v (.slice B0 m0 d0)])] (by kernel_rfl) (by kernel_rfl) ?_
   refine sx_end (by kernel_rfl) ?_
   refine sx_next ?_
   refine sx_cond_t (by kernel_rfl) ?_
   refine sx_seq ?_
   refine sx_region ?_
   refine sx_run 2 [(2, .p 2 0),(3, .p 3 0),(4, .p 4 0)] [(4,70,[.v (.bool false), .v (.slice none 0 0), .v (.bool false), .v (.slice none 0 0)]),(3,70,[.v (.bool s1), .v (.slice A1 l1 c1), .v (.bool t1), .v (.slice B1 m1 d1)]),(2,70,[.v (.bool s0), .v (.slice A0 l0 c0), .v (.bool t0), .v (.slice B0 m0 d0)])] (by kernel_rfl) (by kernel_rfl) ?_
   refine sx_end (by kernel_rfl) ?_
   refine sx_next ?_
   refine sx_ret ?_
   refine sx_then_ret ?_
   refine sx_done (v := .agg #[.bool false, .slice none 0 0, .bool false, .slice none 0 0]) (by kernel_rfl) (fun w' hE hΦ => ?_)
   exact ⟨_,rfl,by rw [rmul_zero_r hz11]; exact RatIs.nil _,hE⟩
  ·refine sx_call 60 [.agg #[.bool s1, .slice A1 l1 c1]] 15 (fun _ : Unit => .bool false) _ (by kernel_rfl) (by kernel_rfl) (fun w hE hΦ => (IsZero_any _ ((q).num) _ hΦ.1.1.2.num).mono (fun _ _ h => post_val h (by rw [decide_eq_false (p := ((q).num) = 0) hz11]))) (fun xx => ?_)
   refine sx_run 1 [(2, .p 2 0),(3, .p 3 0),(4, .p 4 0),(16, .v (.bool false))] [(4,70,[.v (.bool false), .v (.slice none 0 0), .v (.bool false), .v (.slice none 0 0)]),(3,70,[.v (.bool s1), .v (.slice A1 l1 c1), .v (.bool t1), .v (.slice B1 m1 d1)]),(2,70,[.v (.bool s0), .v (.slice A0 l0 c0), .v (.bool t0), .v (.slice B0 m0 d0)])] (by kernel_rfl) (by kernel_rfl) ?_
   refine sx_end (by kernel_rfl) ?_
   refine sx_next ?_
   refine sx_cond_f (by kernel_rfl) ?_
   refine sx_skip ?_
   refine sx_next ?_
   refine sx_seq ?_
   refine sx_seq ?_
   refine sx_region ?_
   refine sx_run 2 [(2, .p 2 0),(3, .p 3 0),(4, .p 4 0),(19, .v (.agg #[.bool t0, .slice B0 m0 d0]))] [(4,70,[.v (.bool false), .v (.slice none 0 0), .v (.bool false), .v (.slice none 0 0)]),(3,70,[.v (.bool s1), .v (.slice A1 l1 c1), .v (.bool t1), .v (.slice B1 m1 d1)]),(2,70,[.v (.bool s0), .v (.slice A0 l0 c0), .v (.bool t0), .v (.slice B0 m0 d0)])] (by kernel_rfl) (by kernel_rfl) ?_
   by_cases hz12 : (denF (p)) = 0
   ·refine sx_call 60 [.agg #[.bool t0, .slice B0 m0 d0]] 20 (fun _ : Unit => .bool true) _ (by kernel_rfl) (by kernel_rfl) (fun w hE hΦ => (IsZero_any _ (denF (p)) _ hΦ.1.1.1.1.den).mono (fun _ _ h => post_val h (by rw [decide_eq_true (p := (denF (p)) = 0) hz12]))) (fun xx => ?_)
    refine sx_run 3 [(2, .p 2 0),(3, .p 3 0),(4, .p 4 0),(21, .v (.bool true)),(23, .v (.agg #[.bool t1, .slice B1 m1 d1]))] [(4,70,[.v (.bool false), .v (.slice none 0 0), .v (.bool false), .v (.slice none 0 0)]),(3,70,[.v (.bool s1), .v (.slice A1 l1 c1), .v (.bool t1), .v (.slice B1 m1 d1)]),(2,70,[.v (.bool s0), .v (.slice A0 l0 c0), .v (.bool t0), .v (.slice B0 m0 d0)])] (by kernel_rfl) (by kernel_rfl) ?_
    by_cases hz13 : (denF (q)) = 0
    ·refine sx_call 60 [.agg #[.bool t1, .slice B1 m1 d1]] 24 (fun _ : Unit => .bool true) _ (by kernel_rfl) (by kernel_rfl) (fun w hE hΦ => (IsZero_any _ (denF (q)) _ hΦ.1.1.1.1.2.den).mono (fun _ _ h => post_val h (by rw [decide_eq_true (p := (denF (q)) = 0) hz13]))) (fun xx => ?_)
     refine sx_run 1 [(2, .p 2 0),(3, .p 3 0),(4, .p 4 0),(25, .v (.bool true))] [(4,70,[.v (.bool false), .v (.slice none 0 0), .v (.bool false), .v (.slice none 0 0)]),(3,70,[.v (.bool s1), .v (.slice A1 l1 c1), .v (.bool t1), .v (.slice B1 m1 d1)]),(2,70,[.v (.bool s0), .v (.slice A0 l0 c0), .v (.bool t0), .v (.slice B0 m0 d0)])] (by kernel_rfl) (by kernel_rfl) ?_
     refine sx_end (by kernel_rfl) ?_
     refine sx_next ?_
     refine sx_cond_t (by kernel_rfl) ?_
     refine sx_seq ?_
     refine sx_region ?_
     refine sx_run 4 [(2, .p 2 0),(3, .p 3 0),(4, .p 4 0),(27, .v (.agg #[.bool s0, .slice A0 l0 c0])),(29, .v (.agg #[.bool s1, .slice A1 l1 c1]))] [(4,70,[.v (.bool false), .v (.slice none 0 0), .v (.bool false), .v (.slice none 0 0)]),(3,70,[.v (.bool s1), .v (.slice A1 l1 c1), .v (.bool t1), .v (.slice B1 m1 d1)]),(2,70,[.v (.bool s0), .v (.slice A0 l0 c0), .v (.bool t0), .v (.slice B0 m0 d0)])] (by kernel_rfl) (by kernel_rfl) ?_
     refine sx_call 88 [.agg #[.bool s0, .slice A0 l0 c0], .agg #[.bool s1, .slice A1 l1 c1]] 30 shInt _ (by kernel_rfl) (by kernel_rfl) (fun w hE hΦ => (Mul_any _ _ ((p).num) ((q).num) _ hΦ.1.1.1.1.1.1.num hΦ.1.1.1.1.1.2.num (fit S1 (by decide)) (fit S2 (by decide)) (Or.inl (Nat.lt_of_le_of_lt S1 (by decide)))).mono (fun _ _ h => post_Int h)) (fun xx => ?_)
     obtain ⟨s14,A14,l14,c14⟩ := xx
     refine sx_run 2 [(2, .p 2 0),(3, .p 3 0),(4, .p 4 0)] [(4,70,[.v (.bool s14), .v (.slice A14 l14 c14), .v (.bool false), .v (.slice none 0 0)]),(3,70,[.v (.bool s1), .v (.slice A1 l1 c1), .v (.bool t1), .v (.slice B1 m1 d1)]),(2,70,[.v (.bool s0), .v (.slice A0 l0 c0), .v (.bool t0), .v (.slice B0 m0 d0)])] (by kernel_rfl) (by kernel_rfl) ?_
     refine sx_end (by kernel_rfl) ?_
     refine sx_next ?_
     refine sx_ret ?_
     refine sx_then_ret ?_
     refine sx_done (v := .agg #[.bool s14, .slice A14 l14 c14, .bool false, .slice none 0 0]) (by kernel_rfl) (fun w' hE hΦ => ?_)
     have HW := rat_whole_mul (denF_iff.1 hz12) (denF_iff.1 hz13)
     exact ⟨_,rfl,RatIs.of (by rw [HW.1]; exact hΦ.2) (by rw [denF_one HW.2]; exact (IntIs.nil _)),hE⟩
    ·refine sx_call 60 [.agg #[.bool t1, .slice B1 m1 d1]] 24 (fun _ : Unit => .bool false) _ (by kernel_rfl) (by kernel_rfl) (fun w hE hΦ => (IsZero_any _ (denF (q)) _ hΦ.1.1.1.1.2.den).mono (fun _ _ h => post_val h (by rw [decide_eq_false (p := (denF (q)) = 0) hz13]))) (fun xx => ?_)
     refine sx_run 1 [(2, .p 2 0),(3, .p 3 0),(4, .p 4 0),(25, .v (.bool false))] [(4,70,[.v (.bool false), .v (.slice none 0 0), .v (.bool false), .v (.slice none 0 0)]),(3,70,[.v (.bool s1), .v (.slice A1 l1 c1), .v (.bool t1), .v (.slice B1 m1 d1)]),(2,70,[.v (.bool s0), .v (.slice A0 l0 c0), .v (.bool t0), .v (.slice B0 m0 d0)])] (by kernel_rfl) (by kernel_rfl) ?_
     refine sx_end (by kernel_rfl) ?_
     refine sx_next ?_
     refine sx_cond_f (by kernel_rfl) ?_
     refine sx_skip ?_
     refine sx_next ?_
     refine sx_seq ?_
     refine sx_draw 12 (by kernel_rfl) (by kernel_rfl) follows_mixed' ?_
     refine st_flt 3 [(2, .p 2 0),(3, .p 3 0),(4, .p 4 0),(34, .v (.agg #[.bool s0, .slice A0 l0 c0])),(35, .v (.agg #[.bool s1, .slice A1 l1 c1, .bool t1, .slice B1 m1 d1]))] [(4,70,[.v (.bool false), .v (.slice none 0 0), .v (.bool false), .v (.slice none 0 0)]),(3,70,[.v (.bool s1), .v (.slice A1 l1 c1), .v (.bool t1), .v (.slice B1 m1 d1)]),(2,70,[.v (.bool s0), .v (.slice A0 l0 c0), .v (.bool t0), .v (.slice B0 m0 d0)])] (by kernel_rfl) (by kernel_rfl) ?_
     refine st_call 89 [.agg #[.bool s1, .slice A1 l1 c1, .bool t1, .slice B1 m1 d1]] 36 shInt _ (by kernel_rfl) (by kernel_rfl) (by kernel_rfl) (fun w hE hΦ => (Den_any _ (q) _ hΦ.1.1.1.1.1.2).mono (fun _ _ h => post_Int h)) (fun xx => ?_)
     obtain ⟨s15,A15,l15,c15⟩ := xx
     refine st_flt 0 [(2, .p 2 0),(3, .p 3 0),(4, .p 4 0),(34, .v (.agg #[.bool s0, .slice A0 l0 c0])),(36, .v (.agg #[.bool s15, .slice A15 l15 c15]))] [(4,70,[.v (.bool false), .v (.slice none 0 0), .v (.bool false), .v (.slice none 0 0)]),(3,70,[.v (.bool s1), .v (.slice A1 l1 c1), .v (.bool t1), .v (.slice B1 m1 d1)]),(2,70,[.v (.bool s0), .v (.slice A0 l0 c0), .v (.bool t0), .v (.slice B0 m0 d0)])] (by kernel_rfl) (by kernel_rfl) ?_
     refine st_call 132 [.agg #[.bool s0, .slice A0 l0 c0], .agg #[.bool s15, .slice A15 l15 c15]] 37 shInt2 _ (by kernel_rfl) (by kernel_rfl) (by kernel_rfl) (fun w hE hΦ => (cancel_any _ _ ((p).num) (((q).den : Int)) _ hΦ.1.1.1.1.1.2 hΦ.1.1.1.1.1.1.1.num hΦ.2 S1 S4 (denI q)).mono (fun _ _ h => post_Int2 h)) (fun xx => ?_)
     obtain ⟨⟨s16,A16,l16,c16⟩,⟨s17,A17,l17,c17⟩⟩ := xx
     refine st_flt 7 [(2, .p 2 0),(3, .p 3 0),(4, .p 4 0),(5, .p 5 0),(6, .p 6 0)] [(6,63,[.v (.bool s17), .v (.slice A17 l17 c17)]),(5,63,[.v (.bool s16), .v (.slice A16 l16 c16)]),(6,63,[.v (.bool false), .v (.slice none 0 0)]),(5,63,[.v (.bool false), .v (.slice none 0 0)]),(4,70,[.v (.bool false), .v (.slice none 0 0), .v (.bool false), .v (.slice none 0 0)]),(3,70,[.v (.bool s1), .v (.slice A1 l1 c1), .v (.bool t1), .v (.slice B1 m1 d1)]),(2,70,[.v (.bool s0), .v (.slice A0 l0 c0), .v (.bool t0), .v (.slice B0 m0 d0)])] (by kernel_rfl) (by kernel_rfl) ?_
     refine st_end (by kernel_rfl) ?_
     refine sx_end (by kernel_rfl) ?_
     refine sx_next ?_
     refine sx_seq ?_
     refine sx_draw 12 (by kernel_rfl) (by kernel_rfl) follows_mixed' ?_
     refine st_flt 3 [(4, .p 4 0),(5, .p 5 0),(6, .p 6 0),(42, .v (.agg #[.bool s1, .slice A1 l1 c1])),(43, .v (.agg #[.bool s0, .slice A0 l0 c0, .bool t0, .slice B0 m0 d0]))] [(6,63,[.v (.bool s17), .v (.slice A17 l17 c17)]),(5,63,[.v (.bool s16), .v (.slice A16 l16 c16)]),(6,63,[.v (.bool false), .v (.slice none 0 0)]),(5,63,[.v (.bool false), .v (.slice none 0 0)]),(4,70,[.v (.bool false), .v (.slice none 0 0), .v (.bool false), .v (.slice none 0 0)]),(3,70,[.v (.bool s1), .v (.slice A1 l1 c1), .v (.bool t1), .v (.slice B1 m1 d1)]),(2,70,[.v (.bool s0), .v (.slice A0 l0 c0), .v (.bool t0), .v (.slice B0 m0 d0)])] (by kernel_rfl) (by kernel_rfl) ?_
     refine st_call 89 [.agg #[.bool s0, .slice A0 l0 c0, .bool t0, .slice B0 m0 d0]] 44 shInt _ (by kernel_rfl) (by kernel_rfl) (by kernel_rfl) (fun w hE hΦ => (Den_any _ (p) _ hΦ.1.1.1.1.1.1.1.1).mono (fun _ _ h => post_Int h)) (fun xx => ?_)
     obtain ⟨s18,A18,l18,c18⟩ := xx
     refine st_flt 0 [(4, .p 4 0),(5, .p 5 0),(6, .p 6 0),(42, .v (.agg #[.bool s1, .slice A1 l1 c1])),(44, .v (.agg #[.bool s18, .slice A18 l18 c18]))] [(6,63,[.v (.bool s17), .v (.slice A17 l17 c17)]),(5,63,[.v (.bool s16), .v (.slice A16 l16 c16)]),(6,63,[.v (.bool false), .v (.slice none 0 0)]),(5,63,[.v (.bool false), .v (.slice none 0 0)]),(4,70,[.v (.bool false), .v (.slice none 0 0), .v (.bool false), .v (.slice none 0 0)]),(3,70,[.v (.bool s1), .v (.slice A1 l1 c1), .v (.bool t1), .v (.slice B1 m1 d1)]),(2,70,[.v (.bool s0), .v (.slice A0 l0 c0), .v (.bool t0), .v (.slice B0 m0 d0)])] (by kernel_rfl) (by kernel_rfl) ?_
     refine st_call 132 [.agg #[.bool s1, .slice A1 l1 c1], .agg #[.bool s18, .slice A18 l18 c18]] 45 shInt2 _ (by kernel_rfl) (by kernel_rfl) (by kernel_rfl) (fun w hE hΦ => (cancel_any _ _ ((q).num) (((p).den : Int)) _ hΦ.1.1.1.1.1.1.1.2 hΦ.1.1.1.1.1.1.1.1.2.num hΦ.2 S2 S3 (denI p)).mono (fun _ _ h => post_Int2 h)) (fun xx => ?_)
     obtain ⟨⟨s19,A19,l19,c19⟩,⟨s20,A20,l20,c20⟩⟩ := xx
     refine st_flt 7 [(4, .p 4 0),(5, .p 5 0),(6, .p 6 0),(7, .p 7 0),(8, .p 8 0)] [(8,63,[.v (.bool s20), .v (.slice A20 l20 c20)]),(7,63,[.v (.bool s19), .v (.slice A19 l19 c19)]),(8,63,[.v (.bool false), .v (.slice none 0 0)]),(7,63,[.v (.bool false), .v (.slice none 0 0)]),(6,63,[.v (.bool s17), .v (.slice A17 l17 c17)]),(5,63,[.v (.bool s16), .v (.slice A16 l16 c16)]),(6,63,[.v (.bool false), .v (.slice none 0 0)]),(5,63,[.v (.bool false), .v (.slice none 0 0)]),(4,70,[.v (.bool false), .v (.slice none 0 0), .v (.bool false), .v (.slice none 0 0)]),(3,70,[.v (.bool s1), .v (.slice A1 l1 c1), .v (.bool t1), .v (.slice B1 m1 d1)]),(2,70,[.v (.bool s0), .v (.slice A0 l0 c0), .v (.bool t0), .v (.slice B0 m0 d0)])] (by kernel_rfl) (by kernel_rfl) ?_
     refine st_end (by kernel_rfl) ?_
     refine sx_end (by kernel_rfl) ?_
     refine sx_next ?_
     refine sx_seq ?_
     refine sx_draw 8 (by kernel_rfl) (by kernel_rfl) follows_mixed' ?_
     refine st_flt 2 [(4, .p 4 0),(6, .p 6 0),(8, .p 8 0),(48, .v (.agg #[.bool s16, .slice A16 l16 c16])),(49, .v (.agg #[.bool s19, .slice A19 l19 c19]))] [(8,63,[.v (.bool s20), .v (.slice A20 l20 c20)]),(7,63,[.v (.bool s19), .v (.slice A19 l19 c19)]),(8,63,[.v (.bool false), .v (.slice none 0 0)]),(7,63,[.v (.bool false), .v (.slice none 0 0)]),(6,63,[.v (.bool s17), .v (.slice A17 l17 c17)]),(5,63,[.v (.bool s16), .v (.slice A16 l16 c16)]),(6,63,[.v (.bool false), .v (.slice none 0 0)]),(5,63,[.v (.bool false), .v (.slice none 0 0)]),(4,70,[.v (.bool false), .v (.slice none 0 0), .v (.bool false), .v (.slice none 0 0)]),(3,70,[.v (.bool s1), .v (.slice A1 l1 c1), .v (.bool t1), .v (.slice B1 m1 d1)]),(2,70,[.v (.bool s0), .v (.slice A0 l0 c0), .v (.bool t0), .v (.slice B0 m0 d0)])] (by kernel_rfl) (by kernel_rfl) ?_
     refine st_call 88 [.agg #[.bool s16, .slice A16 l16 c16], .agg #[.bool s19, .slice A19 l19 c19]] 50 shInt _ (by kernel_rfl) (by kernel_rfl) (by kernel_rfl) (fun w hE hΦ => (Mul_any _ _ (((p).num).tdiv (((Int.gcd ((p).num) (((q).den : Int)) : Nat) : Int))) (((q).num).tdiv (((Int.gcd ((q).num) (((p).den : Int)) : Nat) : Int))) _ hΦ.1.1.2.1 hΦ.2.1 (fit (wlq S1) (by decide)) (fit (wlq S2) (by decide)) (Or.inl (Nat.lt_of_le_of_lt (wlq S1) (by decide)))).mono (fun _ _ h => post_Int h)) (fun xx => ?_)
     obtain ⟨s21,A21,l21,c21⟩ := xx
     refine st_flt 2 [(4, .p 4 0),(50, .v (.agg #[.bool s21, .slice A21 l21 c21])),(51, .v (.agg #[.bool s20, .slice A20 l20 c20])),(52, .v (.agg #[.bool s17, .slice A17 l17 c17]))] [(8,63,[.v (.bool s20), .v (.slice A20 l20 c20)]),(7,63,[.v (.bool s19), .v (.slice A19 l19 c19)]),(8,63,[.v (.bool false), .v (.slice none 0 0)]),(7,63,[.v (.bool false), .v (.slice none 0 0)]),(6,63,[.v (.bool s17), .v (.slice A17 l17 c17)]),(5,63,[.v (.bool s16), .v (.slice A16 l16 c16)]),(6,63,[.v (.bool false), .v (.slice none 0 0)]),(5,63,[.v (.bool false), .v (.slice none 0 0)]),(4,70,[.v (.bool false), .v (.slice none 0 0), .v (.bool false), .v (.slice none 0 0)]),(3,70,[.v (.bool s1), .v (.slice A1 l1 c1), .v (.bool t1), .v (.slice B1 m1 d1)]),(2,70,[.v (.bool s0), .v (.slice A0 l0 c0), .v (.bool t0), .v (.slice B0 m0 d0)])] (by kernel_rfl) (by kernel_rfl) ?_
     refine st_call 88 [.agg #[.bool s20, .slice A20 l20 c20], .agg #[.bool s17, .slice A17 l17 c17]] 53 shInt _ (by kernel_rfl) (by kernel_rfl) (by kernel_rfl) (fun w hE hΦ => (Mul_any _ _ ((((p).den : Int)).tdiv (((Int.gcd ((q).num) (((p).den : Int)) : Nat) : Int))) ((((q).den : Int)).tdiv (((Int.gcd ((p).num) (((q).den : Int)) : Nat) : Int))) _ hΦ.1.2.2 hΦ.1.1.1.2.2 (fit (wlq S3) (by decide)) (fit (wlq S4) (by decide)) (Or.inl (Nat.lt_of_le_of_lt (wlq S3) (by decide)))).mono (fun _ _ h => post_Int h)) (fun xx => ?_)
     obtain ⟨s22,A22,l22,c22⟩ := xx
     refine st_flt 0 [(4, .p 4 0),(50, .v (.agg #[.bool s21, .slice A21 l21 c21])),(53, .v (.agg #[.bool s22, .slice A22 l22 c22]))] [(8,63,[.v (.bool s20), .v (.slice A20 l20 c20)]),(7,63,[.v (.bool s19), .v (.slice A19 l19 c19)]),(8,63,[.v (.bool false), .v (.slice none 0 0)]),(7,63,[.v (.bool false), .v (.slice none 0 0)]),(6,63,[.v (.bool s17), .v (.slice A17 l17 c17)]),(5,63,[.v (.bool s16), .v (.slice A16 l16 c16)]),(6,63,[.v (.bool false), .v (.slice none 0 0)]),(5,63,[.v (.bool false), .v (.slice none 0 0)]),(4,70,[.v (.bool false), .v (.slice none 0 0), .v (.bool false), .v (.slice none 0 0)]),(3,70,[.v (.bool s1), .v (.slice A1 l1 c1), .v (.bool t1), .v (.slice B1 m1 d1)]),(2,70,[.v (.bool s0), .v (.slice A0 l0 c0), .v (.bool t0), .v (.slice B0 m0 d0)])] (by kernel_rfl) (by kernel_rfl) ?_
     refine st_call 95 [.agg #[.bool s21, .slice A21 l21 c21], .agg #[.bool s22, .slice A22 l22 c22]] 54 shRat _ (by kernel_rfl) (by kernel_rfl) (by kernel_rfl) (fun w hE hΦ => (lowest_any _ _ ((((p).num).tdiv (((Int.gcd ((p).num) (((q).den : Int)) : Nat) : Int))) * (((q).num).tdiv (((Int.gcd ((q).num) (((p).den : Int)) : Nat) : Int)))) (((((p).den : Int)).tdiv (((Int.gcd ((q).num) (((p).den : Int)) : Nat) : Int))) * ((((q).den : Int)).tdiv (((Int.gcd ((p).num) (((q).den : Int)) : Nat) : Int)))) (p * q) _ hΦ.1.2 hΦ.2 (by obtain ⟨k1,k2⟩ := rmul_parts p q; exact ⟨k1,by rw [k2,Int.natCast_mul,← nat_tdiv,← nat_tdiv]⟩)).mono (fun _ _ h => post_Rat h)) (fun xx => ?_)
     obtain ⟨s23,A23,l23,c23,t23,B23,m23,d23⟩ := xx
     refine st_flt 1 [(4, .p 4 0)] [(4,70,[.v (.bool s23), .v (.slice A23 l23 c23), .v (.bool t23), .v (.slice B23 m23 d23)]),(8,63,[.v (.bool s20), .v (.slice A20 l20 c20)]),(7,63,[.v (.bool s19), .v (.slice A19 l19 c19)]),(8,63,[.v (.bool false), .v (.slice none 0 0)]),(7,63,[.v (.bool false), .v (.slice none 0 0)]),(6,63,[.v (.bool s17), .v (.slice A17 l17 c17)]),(5,63,[.v (.bool s16), .v (.slice A16 l16 c16)]),(6,63,[.v (.bool false), .v (.slice none 0 0)]),(5,63,[.v (.bool false), .v (.slice none 0 0)]),(4,70,[.v (.bool false), .v (.slice none 0 0), .v (.bool false), .v (.slice none 0 0)]),(3,70,[.v (.bool s1), .v (.slice A1 l1 c1), .v (.bool t1), .v (.slice B1 m1 d1)]),(2,70,[.v (.bool s0), .v (.slice A0 l0 c0), .v (.bool t0), .v (.slice B0 m0 d0)])] (by kernel_rfl) (by kernel_rfl) ?_
     refine st_end (by kernel_rfl) ?_
     refine sx_end (by kernel_rfl) ?_
     refine sx_next ?_
     refine sx_ret ?_
     refine sx_done (v := .agg #[.bool s23, .slice A23 l23 c23, .bool t23, .slice B23 m23 d23]) (by kernel_rfl) (fun w' hE hΦ => ?_)
     exact ⟨_,rfl,hΦ.2,hE⟩
   ·refine sx_call 60 [.agg #[.bool t0, .slice B0 m0 d0]] 20 (fun _ : Unit => .bool false) _ (by kernel_rfl) (by kernel_rfl) (fun w hE hΦ => (IsZero_any _ (denF (p)) _ hΦ.1.1.1.1.den).mono (fun _ _ h => post_val h (by rw [decide_eq_false (p := (denF (p)) = 0) hz12]))) (fun xx => ?_)
    refine sx_run 5 [(2, .p 2 0),(3, .p 3 0),(4, .p 4 0),(25, .v (.bool false))] [(4,70,[.v (.bool false), .v (.slice none 0 0), .v (.bool false), .v (.slice none 0 0)]),(3,70,[.v (.bool s1), .v (.slice A1 l1 c1), .v (.bool t1), .v (.slice B1 m1 d1)]),(2,70,[.v (.bool s0), .v (.slice A0 l0 c0), .v (.bool t0), .v (.slice B0 m0 d0)])] (by kernel_rfl) (by kernel_rfl) ?_
    refine sx_end (by kernel_rfl) ?_
    refine sx_next ?_
    refine sx_cond_f (by kernel_rfl) ?_
    refine sx_skip ?_
    refine sx_next ?_
    refine sx_seq ?_
    refine sx_draw 12 (by kernel_rfl) (by kernel_rfl) follows_mixed' ?_
    refine st_flt 3 [(2, .p 2 0),(3, .p 3 0),(4, .p 4 0),(34, .v (.agg #[.bool s0, .slice A0 l0 c0])),(35, .v (.agg #[.bool s1, .slice A1 l1 c1, .bool t1, .slice B1 m1 d1]))] [(4,70,[.v (.bool false), .v (.slice none 0 0), .v (.bool false), .v (.slice none 0 0)]),(3,70,[.v (.bool s1), .v (.slice A1 l1 c1), .v (.bool t1), .v (.slice B1 m1 d1)]),(2,70,[.v (.bool s0), .v (.slice A0 l0 c0), .v (.bool t0), .v (.slice B0 m0 d0)])] (by kernel_rfl) (by kernel_rfl) ?_
    refine st_call 89 [.agg #[.bool s1, .slice A1 l1 c1, .bool t1, .slice B1 m1 d1]] 36 shInt _ (by kernel_rfl) (by kernel_rfl) (by kernel_rfl) (fun w hE hΦ => (Den_any _ (q) _ hΦ.1.1.1.1.2).mono (fun _ _ h => post_Int h)) (fun xx => ?_)
    obtain ⟨s24,A24,l24,c24⟩ := xx
    refine st_flt 0 [(2, .p 2 0),(3, .p 3 0),(4, .p 4 0),(34, .v (.agg #[.bool s0, .slice A0 l0 c0])),(36, .v (.agg #[.bool s24, .slice A24 l24 c24]))] [(4,70,[.v (.bool false), .v (.slice none 0 0), .v (.bool false), .v (.slice none 0 0)]),(3,70,[.v (.bool s1), .v (.slice A1 l1 c1), .v (.bool t1), .v (.slice B1 m1 d1)]),(2,70,[.v (.bool s0), .v (.slice A0 l0 c0), .v (.bool t0), .v (.slice B0 m0 d0)])] (by kernel_rfl) (by kernel_rfl) ?_
    refine st_call 132 [.agg #[.bool s0, .slice A0 l0 c0], .agg #[.bool s24, .slice A24 l24 c24]] 37 shInt2 _ (by kernel_rfl) (by kernel_rfl) (by kernel_rfl) (fun w hE hΦ => (cancel_any _ _ ((p).num) (((q).den : Int)) _ hΦ.1.1.1.1.2 hΦ.1.1.1.1.1.1.num hΦ.2 S1 S4 (denI q)).mono (fun _ _ h => post_Int2 h)) (fun xx => ?_)
    obtain ⟨⟨s25,A25,l25,c25⟩,⟨s26,A26,l26,c26⟩⟩ := xx
    refine st_flt 7 [(2, .p 2 0),(3, .p 3 0),(4, .p 4 0),(5, .p 5 0),(6, .p 6 0)] [(6,63,[.v (.bool s26), .v (.slice A26 l26 c26)]),(5,63,[.v (.bool s25), .v (.slice A25 l25 c25)]),(6,63,[.v (.bool false), .v (.slice none 0 0)]),(5,63,[.v (.bool false), .v (.slice none 0 0)]),(4,70,[.v (.bool false), .v (.slice none 0 0), .v (.bool false), .v (.slice none 0 0)]),(3,70,[.v (.bool s1), .v (.slice A1 l1 c1), .v (.bool t1), .v (.slice B1 m1 d1)]),(2,70,[.v (.bool s0), .v (.slice A0 l0 c0), .v (.bool t0), .v (.slice B0 m0 d0)])] (by kernel_rfl) (by kernel_rfl) ?_
    refine st_end (by kernel_rfl) ?_
    refine sx_end (by kernel_rfl) ?_
    refine sx_next ?_
    refine sx_seq ?_
    refine sx_draw 12 (by kernel_rfl) (by kernel_rfl) follows_mixed' ?_
    refine st_flt 3 [(4, .p 4 0),(5, .p 5 0),(6, .p 6 0),(42, .v (.agg #[.bool s1, .slice A1 l1 c1])),(43, .v (.agg #[.bool s0, .slice A0 l0 c0, .bool t0, .slice B0 m0 d0]))] [(6,63,[.v (.bool s26), .v (.slice A26 l26 c26)]),(5,63,[.v (.bool s25), .v (.slice A25 l25 c25)]),(6,63,[.v (.bool false), .v (.slice none 0 0)]),(5,63,[.v (.bool false), .v (.slice none 0 0)]),(4,70,[.v (.bool false), .v (.slice none 0 0), .v (.bool false), .v (.slice none 0 0)]),(3,70,[.v (.bool s1), .v (.slice A1 l1 c1), .v (.bool t1), .v (.slice B1 m1 d1)]),(2,70,[.v (.bool s0), .v (.slice A0 l0 c0), .v (.bool t0), .v (.slice B0 m0 d0)])] (by kernel_rfl) (by kernel_rfl) ?_
    refine st_call 89 [.agg #[.bool s0, .slice A0 l0 c0, .bool t0, .slice B0 m0 d0]] 44 shInt _ (by kernel_rfl) (by kernel_rfl) (by kernel_rfl) (fun w hE hΦ => (Den_any _ (p) _ hΦ.1.1.1.1.1.1.1).mono (fun _ _ h => post_Int h)) (fun xx => ?_)
    obtain ⟨s27,A27,l27,c27⟩ := xx
    refine st_flt 0 [(4, .p 4 0),(5, .p 5 0),(6, .p 6 0),(42, .v (.agg #[.bool s1, .slice A1 l1 c1])),(44, .v (.agg #[.bool s27, .slice A27 l27 c27]))] [(6,63,[.v (.bool s26), .v (.slice A26 l26 c26)]),(5,63,[.v (.bool s25), .v (.slice A25 l25 c25)]),(6,63,[.v (.bool false), .v (.slice none 0 0)]),(5,63,[.v (.bool false), .v (.slice none 0 0)]),(4,70,[.v (.bool false), .v (.slice none 0 0), .v (.bool false), .v (.slice none 0 0)]),(3,70,[.v (.bool s1), .v (.slice A1 l1 c1), .v (.bool t1), .v (.slice B1 m1 d1)]),(2,70,[.v (.bool s0), .v (.slice A0 l0 c0), .v (.bool t0), .v (.slice B0 m0 d0)])] (by kernel_rfl) (by kernel_rfl) ?_
    refine st_call 132 [.agg #[.bool s1, .slice A1 l1 c1], .agg #[.bool s27, .slice A27 l27 c27]] 45 shInt2 _ (by kernel_rfl) (by kernel_rfl) (by kernel_rfl) (fun w hE hΦ => (cancel_any _ _ ((q).num) (((p).den : Int)) _ hΦ.1.1.1.1.1.1.2 hΦ.1.1.1.1.1.1.1.2.num hΦ.2 S2 S3 (denI p)).mono (fun _ _ h => post_Int2 h)) (fun xx => ?_)
    obtain ⟨⟨s28,A28,l28,c28⟩,⟨s29,A29,l29,c29⟩⟩ := xx
    refine st_flt 7 [(4, .p 4 0),(5, .p 5 0),(6, .p 6 0),(7, .p 7 0),(8, .p 8 0)] [(8,63,[.v (.bool s29), .v (.slice A29 l29 c29)]),(7,63,[.v (.bool s28), .v (.slice A28 l28 c28)]),(8,63,[.v (.bool false), .v (.slice none 0 0)]),(7,63,[.v (.bool false), .v (.slice none 0 0)]),(6,63,[.v (.bool s26), .v (.slice A26 l26 c26)]),(5,63,[.v (.bool s25), .v (.slice A25 l25 c25)]),(6,63,[.v (.bool false), .v (.slice none 0 0)]),(5,63,[.v (.bool false), .v (.slice none 0 0)]),(4,70,[.v (.bool false), .v (.slice none 0 0), .v (.bool false), .v (.slice none 0 0)]),(3,70,[.v (.bool s1), .v (.slice A1 l1 c1), .v (.bool t1), .v (.slice B1 m1 d1)]),(2,70,[.v (.bool s0), .v (.slice A0 l0 c0), .v (.bool t0), .v (.slice B0 m0 d0)])] (by kernel_rfl) (by kernel_rfl) ?_
    refine st_end (by kernel_rfl) ?_
    refine sx_end (by kernel_rfl) ?_
    refine sx_next ?_
    refine sx_seq ?_
    refine sx_draw 8 (by kernel_rfl) (by kernel_rfl) follows_mixed' ?_
    refine st_flt 2 [(4, .p 4 0),(6, .p 6 0),(8, .p 8 0),(48, .v (.agg #[.bool s25, .slice A25 l25 c25])),(49, .v (.agg #[.bool s28, .slice A28 l28 c28]))] [(8,63,[.v (.bool s29), .v (.slice A29 l29 c29)]),(7,63,[.v (.bool s28), .v (.slice A28 l28 c28)]),(8,63,[.v (.bool false), .v (.slice none 0 0)]),(7,63,[.v (.bool false), .v (.slice none 0 0)]),(6,63,[.v (.bool s26), .v (.slice A26 l26 c26)]),(5,63,[.v (.bool s25), .v (.slice A25 l25 c25)]),(6,63,[.v (.bool false), .v (.slice none 0 0)]),(5,63,[.v (.bool false), .v (.slice none 0 0)]),(4,70,[.v (.bool false), .v (.slice none 0 0), .v (.bool false), .v (.slice none 0 0)]),(3,70,[.v (.bool s1), .v (.slice A1 l1 c1), .v (.bool t1), .v (.slice B1 m1 d1)]),(2,70,[.v (.bool s0), .v (.slice A0 l0 c0), .v (.bool t0), .v (.slice B0 m0 d0)])] (by kernel_rfl) (by kernel_rfl) ?_
    refine st_call 88 [.agg #[.bool s25, .slice A25 l25 c25], .agg #[.bool s28, .slice A28 l28 c28]] 50 shInt _ (by kernel_rfl) (by kernel_rfl) (by kernel_rfl) (fun w hE hΦ => (Mul_any _ _ (((p).num).tdiv (((Int.gcd ((p).num) (((q).den : Int)) : Nat) : Int))) (((q).num).tdiv (((Int.gcd ((q).num) (((p).den : Int)) : Nat) : Int))) _ hΦ.1.1.2.1 hΦ.2.1 (fit (wlq S1) (by decide)) (fit (wlq S2) (by decide)) (Or.inl (Nat.lt_of_le_of_lt (wlq S1) (by decide)))).mono (fun _ _ h => post_Int h)) (fun xx => ?_)
    obtain ⟨s30,A30,l30,c30⟩ := xx
    refine st_flt 2 [(4, .p 4 0),(50, .v (.agg #[.bool s30, .slice A30 l30 c30])),(51, .v (.agg #[.bool s29, .slice A29 l29 c29])),(52, .v (.agg #[.bool s26, .slice A26 l26 c26]))] [(8,63,[.v (.bool s29), .v (.slice A29 l29 c29)]),(7,63,[.v (.bool s28), .v (.slice A28 l28 c28)]),(8,63,[.v (.bool false), .v (.slice none 0 0)]),(7,63,[.v (.bool false), .v (.slice none 0 0)]),(6,63,[.v (.bool s26), .v (.slice A26 l26 c26)]),(5,63,[.v (.bool s25), .v (.slice A25 l25 c25)]),(6,63,[.v (.bool false), .v (.slice none 0 0)]),(5,63,[.v (.bool false), .v (.slice none 0 0)]),(4,70,[.v (.bool false), .v (.slice none 0 0), .v (.bool false), .v (.slice none 0 0)]),(3,70,[.v (.bool s1), .v (.slice A1 l1 c1), .v (.bool t1), .v (.slice B1 m1 d1)]),(2,70,[.v (.bool s0), .v (.slice A0 l0 c0), .v (.bool t0), .v (.slice B0 m0 d0)])] (by kernel_rfl) (by kernel_rfl) ?_
    refine st_call 88 [.agg #[.bool s29, .slice A29 l29 c29], .agg #[.bool s26, .slice A26 l26 c26]] 53 shInt _ (by kernel_rfl) (by kernel_rfl) (by kernel_rfl) (fun w hE hΦ => (Mul_any _ _ ((((p).den : Int)).tdiv (((Int.gcd ((q).num) (((p).den : Int)) : Nat) : Int))) ((((q).den : Int)).tdiv (((Int.gcd ((p).num) (((q).den : Int)) : Nat) : Int))) _ hΦ.1.2.2 hΦ.1.1.1.2.2 (fit (wlq S3) (by decide)) (fit (wlq S4) (by decide)) (Or.inl (Nat.lt_of_le_of_lt (wlq S3) (by decide)))).mono (fun _ _ h => post_Int h)) (fun xx => ?_)
    obtain ⟨s31,A31,l31,c31⟩ := xx
    refine st_flt 0 [(4, .p 4 0),(50, .v (.agg #[.bool s30, .slice A30 l30 c30])),(53, .v (.agg #[.bool s31, .slice A31 l31 c31]))] [(8,63,[.v (.bool s29), .v (.slice A29 l29 c29)]),(7,63,[.v (.bool s28), .v (.slice A28 l28 c28)]),(8,63,[.v (.bool false), .v (.slice none 0 0)]),(7,63,[.v (.bool false), .v (.slice none 0 0)]),(6,63,[.v (.bool s26), .v (.slice A26 l26 c26)]),(5,63,[.v (.bool s25), .v (.slice A25 l25 c25)]),(6,63,[.v (.bool false), .v (.slice none 0 0)]),(5,63,[.v (.bool false), .v (.slice none 0 0)]),(4,70,[.v (.bool false), .v (.slice none 0 0), .v (.bool false), .v (.slice none 0 0)]),(3,70,[.v (.bool s1), .v (.slice A1 l1 c1), .v (.bool t1), .v (.slice B1 m1 d1)]),(2,70,[.v (.bool s0), .v (.slice A0 l0 c0), .v (.bool t0), .v (.slice B0 m0 d0)])] (by kernel_rfl) (by kernel_rfl) ?_
    refine st_call 95 [.agg #[.bool s30, .slice A30 l30 c30], .agg #[.bool s31, .slice A31 l31 c31]] 54 shRat _ (by kernel_rfl) (by kernel_rfl) (by kernel_rfl) (fun w hE hΦ => (lowest_any _ _ ((((p).num).tdiv (((Int.gcd ((p).num) (((q).den : Int)) : Nat) : Int))) * (((q).num).tdiv (((Int.gcd ((q).num) (((p).den : Int)) : Nat) : Int)))) (((((p).den : Int)).tdiv (((Int.gcd ((q).num) (((p).den : Int)) : Nat) : Int))) * ((((q).den : Int)).tdiv (((Int.gcd ((p).num) (((q).den : Int)) : Nat) : Int)))) (p * q) _ hΦ.1.2 hΦ.2 (by obtain ⟨k1,k2⟩ := rmul_parts p q; exact ⟨k1,by rw [k2,Int.natCast_mul,← nat_tdiv,← nat_tdiv]⟩)).mono (fun _ _ h => post_Rat h)) (fun xx => ?_)
    obtain ⟨s32,A32,l32,c32,t32,B32,m32,d32⟩ := xx
    refine st_flt 1 [(4, .p 4 0)] [(4,70,[.v (.bool s32), .v (.slice A32 l32 c32), .v (.bool t32), .v (.slice B32 m32 d32)]),(8,63,[.v (.bool s29), .v (.slice A29 l29 c29)]),(7,63,[.v (.bool s28), .v (.slice A28 l28 c28)]),(8,63,[.v (.bool false), .v (.slice none 0 0)]),(7,63,[.v (.bool false), .v (.slice none 0 0)]),(6,63,[.v (.bool s26), .v (.slice A26 l26 c26)]),(5,63,[.v (.bool s25), .v (.slice A25 l25 c25)]),(6,63,[.v (.bool false), .v (.slice none 0 0)]),(5,63,[.v (.bool false), .v (.slice none 0 0)]),(4,70,[.v (.bool false), .v (.slice none 0 0), .v (.bool false), .v (.slice none 0 0)]),(3,70,[.v (.bool s1), .v (.slice A1 l1 c1), .v (.bool t1), .v (.slice B1 m1 d1)]),(2,70,[.v (.bool s0), .v (.slice A0 l0 c0), .v (.bool t0), .v (.slice B0 m0 d0)])] (by kernel_rfl) (by kernel_rfl) ?_
    refine st_end (by kernel_rfl) ?_
    refine sx_end (by kernel_rfl) ?_
    refine sx_next ?_
    refine sx_ret ?_
    refine sx_done (v := .agg #[.bool s32, .slice A32 l32 c32, .bool t32, .slice B32 m32 d32]) (by kernel_rfl) (fun w' hE hΦ => ?_)
    exact ⟨_,rfl,hΦ.2,hE⟩
set_option maxRecDepth 100000 in
theorem QInverse_any (a : Value) (q : Rat) (w : World) (ha : RatIs w a q) :
 Calls Tryz.prog 85 #[a] w (RetRat w (q⁻¹)) := by
 obtain ⟨s0,A0,l0,c0,t0,B0,m0,d0,rfl⟩ := ha.shp
 refine sx_enter (Φ := fun w => RatIs w (.agg #[.bool s0, .slice A0 l0 c0, .bool t0, .slice B0 m0 d0]) (q)) Tryz.func85 rfl (by kernel_rfl) (fun w' hf => ha.ext hf) ?_
 refine sx_seq ?_
 refine sx_region ?_
 refine sx_run 2 [(1, .p 1 0),(2, .p 2 0)] [(2,70,[.v (.bool false), .v (.slice none 0 0), .v (.bool false), .v (.slice none 0 0)]),(1,70,[.v (.bool s0), .v (.slice A0 l0 c0), .v (.bool t0), .v (.slice B0 m0 d0)])] (by kernel_rfl) (by kernel_rfl) ?_
 refine sx_end (by kernel_rfl) ?_
 refine sx_next ?_
 refine sx_seq ?_
 refine sx_seq ?_
 refine sx_region ?_
 refine sx_run 2 [(1, .p 1 0),(2, .p 2 0),(4, .v (.agg #[.bool s0, .slice A0 l0 c0]))] [(2,70,[.v (.bool false), .v (.slice none 0 0), .v (.bool false), .v (.slice none 0 0)]),(1,70,[.v (.bool s0), .v (.slice A0 l0 c0), .v (.bool t0), .v (.slice B0 m0 d0)])] (by kernel_rfl) (by kernel_rfl) ?_
 rcases sign3 ((q).num) with ⟨hz10,hs10⟩ | ⟨hz10,hs10⟩ | ⟨hz10,hs10⟩
 ·refine sx_call 115 [.agg #[.bool s0, .slice A0 l0 c0]] 5 (fun _ : Unit => .int .i64 (-1)) _ (by kernel_rfl) (by kernel_rfl) (fun w hE hΦ => (Sign_any _ _ _ hΦ.num).mono (fun _ _ h => post_val h (by rw [hs10]))) (fun xx => ?_)
  refine sx_run 0 [(1, .p 1 0),(2, .p 2 0),(5, .v (.int .i64 (-1)))] [(2,70,[.v (.bool false), .v (.slice none 0 0), .v (.bool false), .v (.slice none 0 0)]),(1,70,[.v (.bool s0), .v (.slice A0 l0 c0), .v (.bool t0), .v (.slice B0 m0 d0)])] (by kernel_rfl) (by kernel_rfl) ?_
  refine sx_end (by kernel_rfl) ?_
  refine sx_next ?_
  refine sx_block ?_
  refine sx_seq ?_
  refine sx_region ?_
  refine sx_run 2 [(1, .p 1 0),(2, .p 2 0),(5, .v (.int .i64 (-1))),(6, .v (.bool false))] [(2,70,[.v (.bool false), .v (.slice none 0 0), .v (.bool false), .v (.slice none 0 0)]),(1,70,[.v (.bool s0), .v (.slice A0 l0 c0), .v (.bool t0), .v (.slice B0 m0 d0)])] (by kernel_rfl) (by kernel_rfl) ?_
  refine sx_end (by kernel_rfl) ?_
  refine sx_next ?_
  refine sx_cond_f (by kernel_rfl) ?_
  refine sx_seq ?_
  refine sx_region ?_
  refine sx_run 2 [(1, .p 1 0),(2, .p 2 0),(9, .v (.bool true))] [(2,70,[.v (.bool false), .v (.slice none 0 0), .v (.bool false), .v (.slice none 0 0)]),(1,70,[.v (.bool s0), .v (.slice A0 l0 c0), .v (.bool t0), .v (.slice B0 m0 d0)])] (by kernel_rfl) (by kernel_rfl) ?_
  refine sx_end (by kernel_rfl) ?_
  refine sx_next ?_
  refine sx_cond_t (by kernel_rfl) ?_
  refine sx_seq ?_
  refine sx_draw 8 (by kernel_rfl) (by kernel_rfl) follows_mixed' ?_
  refine st_flt 1 [(1, .p 1 0),(2, .p 2 0),(11, .v (.agg #[.bool s0, .slice A0 l0 c0, .bool t0, .slice B0 m0 d0]))] [(2,70,[.v (.bool false), .v (.slice none 0 0), .v (.bool false), .v (.slice none 0 0)]),(1,70,[.v (.bool s0), .v (.slice A0 l0 c0), .v (.bool t0), .v (.slice B0 m0 d0)])] (by kernel_rfl) (by kernel_rfl) ?_
  refine st_call 89 [.agg #[.bool s0, .slice A0 l0 c0, .bool t0, .slice B0 m0 d0]] 12 shInt _ (by kernel_rfl) (by kernel_rfl) (by kernel_rfl) (fun w hE hΦ => (Den_any _ (q) _ hΦ.1).mono (fun _ _ h => post_Int h)) (fun xx => ?_)
  obtain ⟨s11,A11,l11,c11⟩ := xx
  refine st_flt 0 [(1, .p 1 0),(2, .p 2 0),(12, .v (.agg #[.bool s11, .slice A11 l11 c11]))] [(2,70,[.v (.bool false), .v (.slice none 0 0), .v (.bool false), .v (.slice none 0 0)]),(1,70,[.v (.bool s0), .v (.slice A0 l0 c0), .v (.bool t0), .v (.slice B0 m0 d0)])] (by kernel_rfl) (by kernel_rfl) ?_
  refine st_call 61 [.agg #[.bool s11, .slice A11 l11 c11]] 13 shInt _ (by kernel_rfl) (by kernel_rfl) (by kernel_rfl) (fun w hE hΦ => (Neg_any _ (((q).den : Int)) _ hΦ.2).mono (fun _ _ h => post_Int h)) (fun xx => ?_)
  obtain ⟨s12,A12,l12,c12⟩ := xx
  refine st_flt 2 [(1, .p 1 0),(2, .p 2 0),(13, .v (.agg #[.bool s12, .slice A12 l12 c12])),(15, .v (.agg #[.bool s0, .slice A0 l0 c0]))] [(2,70,[.v (.bool false), .v (.slice none 0 0), .v (.bool false), .v (.slice none 0 0)]),(1,70,[.v (.bool s0), .v (.slice A0 l0 c0), .v (.bool t0), .v (.slice B0 m0 d0)])] (by kernel_rfl) (by kernel_rfl) ?_
  refine st_call 61 [.agg #[.bool s0, .slice A0 l0 c0]] 16 shInt _ (by kernel_rfl) (by kernel_rfl) (by kernel_rfl) (fun w hE hΦ => (Neg_any _ ((q).num) _ hΦ.1.1.1.num).mono (fun _ _ h => post_Int h)) (fun xx => ?_)
  obtain ⟨s13,A13,l13,c13⟩ := xx
  refine st_flt 0 [(1, .p 1 0),(2, .p 2 0),(13, .v (.agg #[.bool s12, .slice A12 l12 c12])),(16, .v (.agg #[.bool s13, .slice A13 l13 c13]))] [(2,70,[.v (.bool false), .v (.slice none 0 0), .v (.bool false), .v (.slice none 0 0)]),(1,70,[.v (.bool s0), .v (.slice A0 l0 c0), .v (.bool t0), .v (.slice B0 m0 d0)])] (by kernel_rfl) (by kernel_rfl) ?_
  refine st_call 95 [.agg #[.bool s12, .slice A12 l12 c12], .agg #[.bool s13, .slice A13 l13 c13]] 17 shRat _ (by kernel_rfl) (by kernel_rfl) (by kernel_rfl) (fun w hE hΦ => (lowest_any _ _ (-(((q).den : Int))) (-((q).num)) (q⁻¹) _ hΦ.1.2 hΦ.2 (rinv_neg hz10)).mono (fun _ _ h => post_Rat h)) (fun xx => ?_)
  obtain ⟨s14,A14,l14,c14,t14,B14,m14,d14⟩ := xx
  refine st_flt 1 [(1, .p 1 0),(2, .p 2 0)] [(2,70,[.v (.bool s14), .v (.slice A14 l14 c14), .v (.bool t14), .v (.slice B14 m14 d14)]),(2,70,[.v (.bool false), .v (.slice none 0 0), .v (.bool false), .v (.slice none 0 0)]),(1,70,[.v (.bool s0), .v (.slice A0 l0 c0), .v (.bool t0), .v (.slice B0 m0 d0)])] (by kernel_rfl) (by kernel_rfl) ?_
  refine st_end (by kernel_rfl) ?_
  refine sx_end (by kernel_rfl) ?_
  refine sx_next ?_
  refine sx_ret ?_
  refine sx_in_ret ?_
  refine sx_then_ret ?_
  refine sx_done (v := .agg #[.bool s14, .slice A14 l14 c14, .bool t14, .slice B14 m14 d14]) (by kernel_rfl) (fun w' hE hΦ => ?_)
  exact ⟨_,rfl,hΦ.2,hE⟩
 ·refine sx_call 115 [.agg #[.bool s0, .slice A0 l0 c0]] 5 (fun _ : Unit => .int .i64 0) _ (by kernel_rfl) (by kernel_rfl) (fun w hE hΦ => (Sign_any _ _ _ hΦ.num).mono (fun _ _ h => post_val h (by rw [hs10]))) (fun xx => ?_)
  refine sx_run 0 [(1, .p 1 0),(2, .p 2 0),(5, .v (.int .i64 0))] [(2,70,[.v (.bool false), .v (.slice none 0 0), .v (.bool false), .v (.slice none 0 0)]),(1,70,[.v (.bool s0), .v (.slice A0 l0 c0), .v (.bool t0), .v (.slice B0 m0 d0)])] (by kernel_rfl) (by kernel_rfl) ?_
  refine sx_end (by kernel_rfl) ?_
  refine sx_next ?_
  refine sx_block ?_
  refine sx_seq ?_
  refine sx_region ?_
  refine sx_run 2 [(1, .p 1 0),(2, .p 2 0),(5, .v (.int .i64 0)),(6, .v (.bool true))] [(2,70,[.v (.bool false), .v (.slice none 0 0), .v (.bool false), .v (.slice none 0 0)]),(1,70,[.v (.bool s0), .v (.slice A0 l0 c0), .v (.bool t0), .v (.slice B0 m0 d0)])] (by kernel_rfl) (by kernel_rfl) ?_
  refine sx_end (by kernel_rfl) ?_
  refine sx_next ?_
  refine sx_cond_t (by kernel_rfl) ?_
  refine sx_seq ?_
  refine sx_region ?_
  refine sx_run 2 [(1, .p 1 0),(2, .p 2 0)] [(2,70,[.v (.bool false), .v (.slice none 0 0), .v (.bool false), .v (.slice none 0 0)]),(1,70,[.v (.bool s0), .v (.slice A0 l0 c0), .v (.bool t0), .v (.slice B0 m0 d0)])] (by kernel_rfl) (by kernel_rfl) ?_
  refine sx_end (by kernel_rfl) ?_
  refine sx_next ?_
  refine sx_ret ?_
  refine sx_in_ret ?_
  refine sx_then_ret ?_
  refine sx_done (v := .agg #[.bool false, .slice none 0 0, .bool false, .slice none 0 0]) (by kernel_rfl) (fun w' hE hΦ => ?_)
  exact ⟨_,rfl,by rw [rinv_zero hz10]; exact RatIs.nil _,hE⟩
 ·refine sx_call 115 [.agg #[.bool s0, .slice A0 l0 c0]] 5 (fun _ : Unit => .int .i64 1) _ (by kernel_rfl) (by kernel_rfl) (fun w hE hΦ => (Sign_any _ _ _ hΦ.num).mono (fun _ _ h => post_val h (by rw [hs10]))) (fun xx => ?_)
  refine sx_run 0 [(1, .p 1 0),(2, .p 2 0),(5, .v (.int .i64 1))] [(2,70,[.v (.bool false), .v (.slice none 0 0), .v (.bool false), .v (.slice none 0 0)]),(1,70,[.v (.bool s0), .v (.slice A0 l0 c0), .v (.bool t0), .v (.slice B0 m0 d0)])] (by kernel_rfl) (by kernel_rfl) ?_
  refine sx_end (by kernel_rfl) ?_
  refine sx_next ?_
  refine sx_block ?_
  refine sx_seq ?_
  refine sx_region ?_
  refine sx_run 2 [(1, .p 1 0),(2, .p 2 0),(5, .v (.int .i64 1)),(6, .v (.bool false))] [(2,70,[.v (.bool false), .v (.slice none 0 0), .v (.bool false), .v (.slice none 0 0)]),(1,70,[.v (.bool s0), .v (.slice A0 l0 c0), .v (.bool t0), .v (.slice B0 m0 d0)])] (by kernel_rfl) (by kernel_rfl) ?_
  refine sx_end (by kernel_rfl) ?_
  refine sx_next ?_
  refine sx_cond_f (by kernel_rfl) ?_
  refine sx_seq ?_
  refine sx_region ?_
  refine sx_run 2 [(1, .p 1 0),(2, .p 2 0),(9, .v (.bool false))] [(2,70,[.v (.bool false), .v (.slice none 0 0), .v (.bool false), .v (.slice none 0 0)]),(1,70,[.v (.bool s0), .v (.slice A0 l0 c0), .v (.bool t0), .v (.slice B0 m0 d0)])] (by kernel_rfl) (by kernel_rfl) ?_
  refine sx_end (by kernel_rfl) ?_
  refine sx_next ?_
  refine sx_cond_f (by kernel_rfl) ?_
  refine sx_skip ?_
  refine sx_out ?_
  refine sx_next ?_
  refine sx_seq ?_
  refine sx_draw 6 (by kernel_rfl) (by kernel_rfl) follows_mixed' ?_
  refine st_flt 1 [(1, .p 1 0),(2, .p 2 0),(18, .v (.agg #[.bool s0, .slice A0 l0 c0, .bool t0, .slice B0 m0 d0]))] [(2,70,[.v (.bool false), .v (.slice none 0 0), .v (.bool false), .v (.slice none 0 0)]),(1,70,[.v (.bool s0), .v (.slice A0 l0 c0), .v (.bool t0), .v (.slice B0 m0 d0)])] (by kernel_rfl) (by kernel_rfl) ?_
  refine st_call 89 [.agg #[.bool s0, .slice A0 l0 c0, .bool t0, .slice B0 m0 d0]] 19 shInt _ (by kernel_rfl) (by kernel_rfl) (by kernel_rfl) (fun w hE hΦ => (Den_any _ (q) _ hΦ.1).mono (fun _ _ h => post_Int h)) (fun xx => ?_)
  obtain ⟨s15,A15,l15,c15⟩ := xx
  refine st_flt 2 [(2, .p 2 0),(19, .v (.agg #[.bool s15, .slice A15 l15 c15])),(21, .v (.agg #[.bool s0, .slice A0 l0 c0]))] [(2,70,[.v (.bool false), .v (.slice none 0 0), .v (.bool false), .v (.slice none 0 0)]),(1,70,[.v (.bool s0), .v (.slice A0 l0 c0), .v (.bool t0), .v (.slice B0 m0 d0)])] (by kernel_rfl) (by kernel_rfl) ?_
  refine st_call 95 [.agg #[.bool s15, .slice A15 l15 c15], .agg #[.bool s0, .slice A0 l0 c0]] 22 shRat _ (by kernel_rfl) (by kernel_rfl) (by kernel_rfl) (fun w hE hΦ => (lowest_any _ _ (((q).den : Int)) ((q).num) (q⁻¹) _ hΦ.2 hΦ.1.1.num (rinv_pos hz10)).mono (fun _ _ h => post_Rat h)) (fun xx => ?_)
  obtain ⟨s16,A16,l16,c16,t16,B16,m16,d16⟩ := xx
  refine st_flt 1 [(2, .p 2 0)] [(2,70,[.v (.bool s16), .v (.slice A16 l16 c16), .v (.bool t16), .v (.slice B16 m16 d16)]),(2,70,[.v (.bool false), .v (.slice none 0 0), .v (.bool false), .v (.slice none 0 0)]),(1,70,[.v (.bool s0), .v (.slice A0 l0 c0), .v (.bool t0), .v (.slice B0 m0 d0)])] (by kernel_rfl) (by kernel_rfl) ?_
  refine st_end (by kernel_rfl) ?_
  refine sx_end (by kernel_rfl) ?_
  refine sx_next ?_
  refine sx_ret ?_
  refine sx_done (v := .agg #[.bool s16, .slice A16 l16 c16, .bool t16, .slice B16 m16 d16]) (by kernel_rfl) (fun w' hE hΦ => ?_)
  exact ⟨_,rfl,hΦ.2,hE⟩
set_option maxRecDepth 100000 in
theorem QDiv_any (a b : Value) (p q : Rat) (w : World) (hg : Glob w) (ha : RatIs w a p) (hb : RatIs w b q) (hp : QFits p 38) (hq : QFits q 38) :
 Calls Tryz.prog 77 #[a,b] w (RetRat w (p / q)) := by
 obtain ⟨s0,A0,l0,c0,t0,B0,m0,d0,rfl⟩ := ha.shp
 obtain ⟨s1,A1,l1,c1,t1,B1,m1,d1,rfl⟩ := hb.shp
 refine sx_enter (Φ := fun w => ((RatIs w (.agg #[.bool s0, .slice A0 l0 c0, .bool t0, .slice B0 m0 d0]) (p) ∧ RatIs w (.agg #[.bool s1, .slice A1 l1 c1, .bool t1, .slice B1 m1 d1]) (q)) ∧ Glob w)) Tryz.func77 rfl (by kernel_rfl) (fun w' hf => ⟨⟨ha.ext hf,hb.ext hf⟩,hg.ext hf⟩) ?_
 refine sx_seq ?_
 refine sx_region ?_
 refine sx_run 3 [(2, .p 2 0),(3, .p 3 0),(4, .p 4 0)] [(4,70,[.v (.bool false), .v (.slice none 0 0), .v (.bool false), .v (.slice none 0 0)]),(3,70,[.v (.bool s1), .v (.slice A1 l1 c1), .v (.bool t1), .v (.slice B1 m1 d1)]),(2,70,[.v (.bool s0), .v (.slice A0 l0 c0), .v (.bool t0), .v (.slice B0 m0 d0)])] (by kernel_rfl) (by kernel_rfl) ?_
 refine sx_end (by kernel_rfl) ?_
 refine sx_next ?_
 refine sx_seq ?_
 refine sx_draw 5 (by kernel_rfl) (by kernel_rfl) follows_mixed' ?_
 refine st_flt 2 [(4, .p 4 0),(5, .v (.agg #[.bool s0, .slice A0 l0 c0, .bool t0, .slice B0 m0 d0])),(6, .v (.agg #[.bool s1, .slice A1 l1 c1, .bool t1, .slice B1 m1 d1]))] [(4,70,[.v (.bool false), .v (.slice none 0 0), .v (.bool false), .v (.slice none 0 0)]),(3,70,[.v (.bool s1), .v (.slice A1 l1 c1), .v (.bool t1), .v (.slice B1 m1 d1)]),(2,70,[.v (.bool s0), .v (.slice A0 l0 c0), .v (.bool t0), .v (.slice B0 m0 d0)])] (by kernel_rfl) (by kernel_rfl) ?_
 refine st_call 85 [.agg #[.bool s1, .slice A1 l1 c1, .bool t1, .slice B1 m1 d1]] 7 shRat _ (by kernel_rfl) (by kernel_rfl) (by kernel_rfl) (fun w hE hΦ => (QInverse_any _ (q) _ hΦ.1.2).mono (fun _ _ h => post_Rat h)) (fun xx => ?_)
 obtain ⟨s10,A10,l10,c10,t10,B10,m10,d10⟩ := xx
 refine st_flt 0 [(4, .p 4 0),(5, .v (.agg #[.bool s0, .slice A0 l0 c0, .bool t0, .slice B0 m0 d0])),(7, .v (.agg #[.bool s10, .slice A10 l10 c10, .bool t10, .slice B10 m10 d10]))] [(4,70,[.v (.bool false), .v (.slice none 0 0), .v (.bool false), .v (.slice none 0 0)]),(3,70,[.v (.bool s1), .v (.slice A1 l1 c1), .v (.bool t1), .v (.slice B1 m1 d1)]),(2,70,[.v (.bool s0), .v (.slice A0 l0 c0), .v (.bool t0), .v (.slice B0 m0 d0)])] (by kernel_rfl) (by kernel_rfl) ?_
 refine st_call 82 [.agg #[.bool s0, .slice A0 l0 c0, .bool t0, .slice B0 m0 d0], .agg #[.bool s10, .slice A10 l10 c10, .bool t10, .slice B10 m10 d10]] 8 shRat _ (by kernel_rfl) (by kernel_rfl) (by kernel_rfl) (fun w hE hΦ => (QMul_any _ _ (p) ((q)⁻¹) _ hΦ.1.2 hΦ.1.1.1 hΦ.2 hp hq.inv).mono (fun _ _ h => post_Rat (by rw [← Rat.div_def] at h; exact h))) (fun xx => ?_)
 obtain ⟨s11,A11,l11,c11,t11,B11,m11,d11⟩ := xx
 refine st_flt 1 [(4, .p 4 0)] [(4,70,[.v (.bool s11), .v (.slice A11 l11 c11), .v (.bool t11), .v (.slice B11 m11 d11)]),(4,70,[.v (.bool false), .v (.slice none 0 0), .v (.bool false), .v (.slice none 0 0)]),(3,70,[.v (.bool s1), .v (.slice A1 l1 c1), .v (.bool t1), .v (.slice B1 m1 d1)]),(2,70,[.v (.bool s0), .v (.slice A0 l0 c0), .v (.bool t0), .v (.slice B0 m0 d0)])] (by kernel_rfl) (by kernel_rfl) ?_
 refine st_end (by kernel_rfl) ?_
 refine sx_end (by kernel_rfl) ?_
 refine sx_next ?_
 refine sx_ret ?_
 refine sx_done (v := .agg #[.bool s11, .slice A11 l11 c11, .bool t11, .slice B11 m11 d11]) (by kernel_rfl) (fun w' hE hΦ => ?_)
 exact ⟨_,rfl,hΦ.2,hE⟩
set_option maxRecDepth 100000 in
theorem QSub_any (a b : Value) (p q : Rat) (w : World) (hg : Glob w) (ha : RatIs w a p) (hb : RatIs w b q) (hp : QFits p 38) (hq : QFits q 38) :
 Calls Tryz.prog 81 #[a,b] w (RetRat w (p - q)) := by
 obtain ⟨s0,A0,l0,c0,t0,B0,m0,d0,rfl⟩ := ha.shp
 obtain ⟨s1,A1,l1,c1,t1,B1,m1,d1,rfl⟩ := hb.shp
 refine sx_enter (Φ := fun w => ((RatIs w (.agg #[.bool s0, .slice A0 l0 c0, .bool t0, .slice B0 m0 d0]) (p) ∧ RatIs w (.agg #[.bool s1, .slice A1 l1 c1, .bool t1, .slice B1 m1 d1]) (q)) ∧ Glob w)) Tryz.func81 rfl (by kernel_rfl) (fun w' hf => ⟨⟨ha.ext hf,hb.ext hf⟩,hg.ext hf⟩) ?_
 refine sx_seq ?_
 refine sx_region ?_
 refine sx_run 3 [(2, .p 2 0),(3, .p 3 0),(4, .p 4 0)] [(4,70,[.v (.bool false), .v (.slice none 0 0), .v (.bool false), .v (.slice none 0 0)]),(3,70,[.v (.bool s1), .v (.slice A1 l1 c1), .v (.bool t1), .v (.slice B1 m1 d1)]),(2,70,[.v (.bool s0), .v (.slice A0 l0 c0), .v (.bool t0), .v (.slice B0 m0 d0)])] (by kernel_rfl) (by kernel_rfl) ?_
 refine sx_end (by kernel_rfl) ?_
 refine sx_next ?_
 refine sx_seq ?_
 refine sx_draw 5 (by kernel_rfl) (by kernel_rfl) follows_mixed' ?_
 refine st_flt 2 [(4, .p 4 0),(5, .v (.agg #[.bool s0, .slice A0 l0 c0, .bool t0, .slice B0 m0 d0])),(6, .v (.agg #[.bool s1, .slice A1 l1 c1, .bool t1, .slice B1 m1 d1]))] [(4,70,[.v (.bool false), .v (.slice none 0 0), .v (.bool false), .v (.slice none 0 0)]),(3,70,[.v (.bool s1), .v (.slice A1 l1 c1), .v (.bool t1), .v (.slice B1 m1 d1)]),(2,70,[.v (.bool s0), .v (.slice A0 l0 c0), .v (.bool t0), .v (.slice B0 m0 d0)])] (by kernel_rfl) (by kernel_rfl) ?_
 refine st_call 131 [.agg #[.bool s1, .slice A1 l1 c1, .bool t1, .slice B1 m1 d1]] 7 shRat _ (by kernel_rfl) (by kernel_rfl) (by kernel_rfl) (fun w hE hΦ => (QNeg_any _ (q) _ hΦ.1.2).mono (fun _ _ h => post_Rat h)) (fun xx => ?_)
 obtain ⟨s10,A10,l10,c10,t10,B10,m10,d10⟩ := xx
 refine st_flt 0 [(4, .p 4 0),(5, .v (.agg #[.bool s0, .slice A0 l0 c0, .bool t0, .slice B0 m0 d0])),(7, .v (.agg #[.bool s10, .slice A10 l10 c10, .bool t10, .slice B10 m10 d10]))] [(4,70,[.v (.bool false), .v (.slice none 0 0), .v (.bool false), .v (.slice none 0 0)]),(3,70,[.v (.bool s1), .v (.slice A1 l1 c1), .v (.bool t1), .v (.slice B1 m1 d1)]),(2,70,[.v (.bool s0), .v (.slice A0 l0 c0), .v (.bool t0), .v (.slice B0 m0 d0)])] (by kernel_rfl) (by kernel_rfl) ?_
 refine st_call 80 [.agg #[.bool s0, .slice A0 l0 c0, .bool t0, .slice B0 m0 d0], .agg #[.bool s10, .slice A10 l10 c10, .bool t10, .slice B10 m10 d10]] 8 shRat _ (by kernel_rfl) (by kernel_rfl) (by kernel_rfl) (fun w hE hΦ => (QAdd_any _ _ (p) (-(q)) _ hΦ.1.2 hΦ.1.1.1 hΦ.2 hp hq.neg).mono (fun _ _ h => post_Rat (by rw [← Rat.sub_eq_add_neg] at h; exact h))) (fun xx => ?_)
 obtain ⟨s11,A11,l11,c11,t11,B11,m11,d11⟩ := xx
 refine st_flt 1 [(4, .p 4 0)] [(4,70,[.v (.bool s11), .v (.slice A11 l11 c11), .v (.bool t11), .v (.slice B11 m11 d11)]),(4,70,[.v (.bool false), .v (.slice none 0 0), .v (.bool false), .v (.slice none 0 0)]),(3,70,[.v (.bool s1), .v (.slice A1 l1 c1), .v (.bool t1), .v (.slice B1 m1 d1)]),(2,70,[.v (.bool s0), .v (.slice A0 l0 c0), .v (.bool t0), .v (.slice B0 m0 d0)])] (by kernel_rfl) (by kernel_rfl) ?_
 refine st_end (by kernel_rfl) ?_
 refine sx_end (by kernel_rfl) ?_
 refine sx_next ?_
 refine sx_ret ?_
 refine sx_done (v := .agg #[.bool s11, .slice A11 l11 c11, .bool t11, .slice B11 m11 d11]) (by kernel_rfl) (fun w' hE hΦ => ?_)
 exact ⟨_,rfl,hΦ.2,hE⟩
set_option maxRecDepth 100000 in
theorem QCompare_any (a b : Value) (p q : Rat) (w : World) (ha : RatIs w a p) (hb : RatIs w b q) (hp : QFits p 38) (hq : QFits q 38) :
 Calls Tryz.prog 84 #[a,b] w (RetV w (.int .i64 (p - q).num.sign)) := by
 obtain ⟨s0,A0,l0,c0,t0,B0,m0,d0,rfl⟩ := ha.shp
 obtain ⟨s1,A1,l1,c1,t1,B1,m1,d1,rfl⟩ := hb.shp
 have S1 : wl p.num.natAbs ≤ 38 := hp.1
 have S2 : wl q.num.natAbs ≤ 38 := hq.1
 have hp2 : wl p.den ≤ 38 := hp.2
 have hq2 : wl q.den ≤ 38 := hq.2
 have S3 : wl ((p.den : Nat) : Int).natAbs ≤ 38 := wlc hp2
 have S4 : wl ((q.den : Nat) : Int).natAbs ≤ 38 := wlc hq2
 refine sx_enter (Φ := fun w => (RatIs w (.agg #[.bool s0, .slice A0 l0 c0, .bool t0, .slice B0 m0 d0]) (p) ∧ RatIs w (.agg #[.bool s1, .slice A1 l1 c1, .bool t1, .slice B1 m1 d1]) (q))) Tryz.func84 rfl (by kernel_rfl) (fun w' hf => ⟨ha.ext hf,hb.ext hf⟩) ?_
 refine sx_seq ?_
 refine sx_region ?_
 refine sx_run 3 [(2, .p 2 0),(3, .p 3 0),(4, .v (.int .i64 0))] [(3,70,[.v (.bool s1), .v (.slice A1 l1 c1), .v (.bool t1), .v (.slice B1 m1 d1)]),(2,70,[.v (.bool s0), .v (.slice A0 l0 c0), .v (.bool t0), .v (.slice B0 m0 d0)])] (by kernel_rfl) (by kernel_rfl) ?_
 refine sx_end (by kernel_rfl) ?_
 refine sx_next ?_
 refine sx_seq ?_
 refine sx_seq ?_
 refine sx_draw 15 (by kernel_rfl) (by kernel_rfl) follows_mixed' ?_
 refine st_flt 2 [(2, .p 2 0),(3, .p 3 0),(4, .v (.int .i64 0)),(6, .v (.agg #[.bool t0, .slice B0 m0 d0]))] [(3,70,[.v (.bool s1), .v (.slice A1 l1 c1), .v (.bool t1), .v (.slice B1 m1 d1)]),(2,70,[.v (.bool s0), .v (.slice A0 l0 c0), .v (.bool t0), .v (.slice B0 m0 d0)])] (by kernel_rfl) (by kernel_rfl) ?_
 by_cases hz10 : (denF (p)) = 0
 ·refine st_call 60 [.agg #[.bool t0, .slice B0 m0 d0]] 7 (fun _ : Unit => .bool true) _ (by kernel_rfl) (by kernel_rfl) (by kernel_rfl) (fun w hE hΦ => (IsZero_any _ (denF (p)) _ hΦ.1.den).mono (fun _ _ h => post_val h (by rw [decide_eq_true (p := (denF (p)) = 0) hz10]))) (fun xx => ?_)
  refine st_flt 3 [(2, .p 2 0),(3, .p 3 0),(4, .v (.int .i64 0)),(8, .v (.bool true)),(10, .v (.agg #[.bool t1, .slice B1 m1 d1]))] [(3,70,[.v (.bool s1), .v (.slice A1 l1 c1), .v (.bool t1), .v (.slice B1 m1 d1)]),(2,70,[.v (.bool s0), .v (.slice A0 l0 c0), .v (.bool t0), .v (.slice B0 m0 d0)])] (by kernel_rfl) (by kernel_rfl) ?_
  by_cases hz11 : (denF (q)) = 0
  ·refine st_call 60 [.agg #[.bool t1, .slice B1 m1 d1]] 11 (fun _ : Unit => .bool true) _ (by kernel_rfl) (by kernel_rfl) (by kernel_rfl) (fun w hE hΦ => (IsZero_any _ (denF (q)) _ hΦ.1.2.den).mono (fun _ _ h => post_val h (by rw [decide_eq_true (p := (denF (q)) = 0) hz11]))) (fun xx => ?_)
   refine st_flt 8 [(2, .p 2 0),(3, .p 3 0),(4, .v (.int .i64 0)),(19, .v (.bool true))] [(3,70,[.v (.bool s1), .v (.slice A1 l1 c1), .v (.bool t1), .v (.slice B1 m1 d1)]),(2,70,[.v (.bool s0), .v (.slice A0 l0 c0), .v (.bool t0), .v (.slice B0 m0 d0)])] (by kernel_rfl) (by kernel_rfl) ?_
   refine st_end (by kernel_rfl) ?_
   refine sx_end (by kernel_rfl) ?_
   refine sx_next ?_
   refine sx_cond_t (by kernel_rfl) ?_
   refine sx_seq ?_
   refine sx_region ?_
   refine sx_run 4 [(2, .p 2 0),(3, .p 3 0),(4, .v (.int .i64 0)),(21, .v (.agg #[.bool s0, .slice A0 l0 c0])),(23, .v (.agg #[.bool s1, .slice A1 l1 c1]))] [(3,70,[.v (.bool s1), .v (.slice A1 l1 c1), .v (.bool t1), .v (.slice B1 m1 d1)]),(2,70,[.v (.bool s0), .v (.slice A0 l0 c0), .v (.bool t0), .v (.slice B0 m0 d0)])] (by kernel_rfl) (by kernel_rfl) ?_
   refine sx_call 135 [.agg #[.bool s0, .slice A0 l0 c0], .agg #[.bool s1, .slice A1 l1 c1]] 24 (fun _ : Unit => .int .i64 (p - q).num.sign) _ (by kernel_rfl) (by kernel_rfl) (fun w hE hΦ => (Compare_any _ _ ((p).num) ((q).num) _ hΦ.1.1.1.num hΦ.1.1.2.num (fit S1 (by decide)) (fit S2 (by decide))).mono (fun _ _ h => post_val h (by rw [cmp_whole (denF_iff.1 hz10) (denF_iff.1 hz11)]))) (fun xx => ?_)
   refine sx_run 1 [(2, .p 2 0),(3, .p 3 0),(4, .v (.int .i64 (p - q).num.sign))] [(3,70,[.v (.bool s1), .v (.slice A1 l1 c1), .v (.bool t1), .v (.slice B1 m1 d1)]),(2,70,[.v (.bool s0), .v (.slice A0 l0 c0), .v (.bool t0), .v (.slice B0 m0 d0)])] (by kernel_rfl) (by kernel_rfl) ?_
   refine sx_end (by kernel_rfl) ?_
   refine sx_next ?_
   refine sx_ret ?_
   refine sx_then_ret ?_
   refine sx_done (v := .int .i64 (p - q).num.sign) (by kernel_rfl) (fun w' hE hΦ => ?_)
   exact ⟨rfl,hE⟩
  ·refine st_call 60 [.agg #[.bool t1, .slice B1 m1 d1]] 11 (fun _ : Unit => .bool false) _ (by kernel_rfl) (by kernel_rfl) (by kernel_rfl) (fun w hE hΦ => (IsZero_any _ (denF (q)) _ hΦ.1.2.den).mono (fun _ _ h => post_val h (by rw [decide_eq_false (p := (denF (q)) = 0) hz11]))) (fun xx => ?_)
   refine st_flt 3 [(2, .p 2 0),(3, .p 3 0),(4, .v (.int .i64 0)),(13, .v (.bool false)),(14, .v (.agg #[.bool s0, .slice A0 l0 c0, .bool t0, .slice B0 m0 d0]))] [(3,70,[.v (.bool s1), .v (.slice A1 l1 c1), .v (.bool t1), .v (.slice B1 m1 d1)]),(2,70,[.v (.bool s0), .v (.slice A0 l0 c0), .v (.bool t0), .v (.slice B0 m0 d0)])] (by kernel_rfl) (by kernel_rfl) ?_
   rcases sign3 (p.num) with ⟨hz12,hs12⟩ | ⟨hz12,hs12⟩ | ⟨hz12,hs12⟩
   ·refine st_call 134 [.agg #[.bool s0, .slice A0 l0 c0, .bool t0, .slice B0 m0 d0]] 15 (fun _ : Unit => .int .i64 (-1)) _ (by kernel_rfl) (by kernel_rfl) (by kernel_rfl) (fun w hE hΦ => (QSign_any _ _ _ hΦ.1.1.1).mono (fun _ _ h => post_val h (by rw [hs12]))) (fun xx => ?_)
    refine st_flt 1 [(2, .p 2 0),(3, .p 3 0),(4, .v (.int .i64 0)),(13, .v (.bool false)),(15, .v (.int .i64 (-1))),(16, .v (.agg #[.bool s1, .slice A1 l1 c1, .bool t1, .slice B1 m1 d1]))] [(3,70,[.v (.bool s1), .v (.slice A1 l1 c1), .v (.bool t1), .v (.slice B1 m1 d1)]),(2,70,[.v (.bool s0), .v (.slice A0 l0 c0), .v (.bool t0), .v (.slice B0 m0 d0)])] (by kernel_rfl) (by kernel_rfl) ?_
    rcases sign3 (q.num) with ⟨hz13,hs13⟩ | ⟨hz13,hs13⟩ | ⟨hz13,hs13⟩
    ·refine st_call 134 [.agg #[.bool s1, .slice A1 l1 c1, .bool t1, .slice B1 m1 d1]] 17 (fun _ : Unit => .int .i64 (-1)) _ (by kernel_rfl) (by kernel_rfl) (by kernel_rfl) (fun w hE hΦ => (QSign_any _ _ _ hΦ.1.1.1.2).mono (fun _ _ h => post_val h (by rw [hs13]))) (fun xx => ?_)
     refine st_flt 2 [(2, .p 2 0),(3, .p 3 0),(4, .v (.int .i64 0)),(19, .v (.bool false))] [(3,70,[.v (.bool s1), .v (.slice A1 l1 c1), .v (.bool t1), .v (.slice B1 m1 d1)]),(2,70,[.v (.bool s0), .v (.slice A0 l0 c0), .v (.bool t0), .v (.slice B0 m0 d0)])] (by kernel_rfl) (by kernel_rfl) ?_
     refine st_end (by kernel_rfl) ?_
     refine sx_end (by kernel_rfl) ?_
     refine sx_next ?_
     refine sx_cond_f (by kernel_rfl) ?_
     refine sx_skip ?_
     refine sx_next ?_
     refine sx_seq ?_
     refine sx_draw 12 (by kernel_rfl) (by kernel_rfl) follows_mixed' ?_
     refine st_flt 3 [(2, .p 2 0),(3, .p 3 0),(4, .v (.int .i64 0)),(26, .v (.agg #[.bool s0, .slice A0 l0 c0])),(27, .v (.agg #[.bool s1, .slice A1 l1 c1, .bool t1, .slice B1 m1 d1]))] [(3,70,[.v (.bool s1), .v (.slice A1 l1 c1), .v (.bool t1), .v (.slice B1 m1 d1)]),(2,70,[.v (.bool s0), .v (.slice A0 l0 c0), .v (.bool t0), .v (.slice B0 m0 d0)])] (by kernel_rfl) (by kernel_rfl) ?_
     refine st_call 89 [.agg #[.bool s1, .slice A1 l1 c1, .bool t1, .slice B1 m1 d1]] 28 shInt _ (by kernel_rfl) (by kernel_rfl) (by kernel_rfl) (fun w hE hΦ => (Den_any _ (q) _ hΦ.1.1.1.1.2).mono (fun _ _ h => post_Int h)) (fun xx => ?_)
     obtain ⟨s14,A14,l14,c14⟩ := xx
     refine st_flt 0 [(2, .p 2 0),(3, .p 3 0),(4, .v (.int .i64 0)),(26, .v (.agg #[.bool s0, .slice A0 l0 c0])),(28, .v (.agg #[.bool s14, .slice A14 l14 c14]))] [(3,70,[.v (.bool s1), .v (.slice A1 l1 c1), .v (.bool t1), .v (.slice B1 m1 d1)]),(2,70,[.v (.bool s0), .v (.slice A0 l0 c0), .v (.bool t0), .v (.slice B0 m0 d0)])] (by kernel_rfl) (by kernel_rfl) ?_
     refine st_call 88 [.agg #[.bool s0, .slice A0 l0 c0], .agg #[.bool s14, .slice A14 l14 c14]] 29 shInt _ (by kernel_rfl) (by kernel_rfl) (by kernel_rfl) (fun w hE hΦ => (Mul_any _ _ ((p).num) (((q).den : Int)) _ hΦ.1.1.1.1.1.1.num hΦ.2 (fit S1 (by decide)) (fit S4 (by decide)) (Or.inl (Nat.lt_of_le_of_lt S1 (by decide)))).mono (fun _ _ h => post_Int h)) (fun xx => ?_)
     obtain ⟨s15,A15,l15,c15⟩ := xx
     refine st_flt 3 [(4, .v (.int .i64 0)),(29, .v (.agg #[.bool s15, .slice A15 l15 c15])),(31, .v (.agg #[.bool s1, .slice A1 l1 c1])),(32, .v (.agg #[.bool s0, .slice A0 l0 c0, .bool t0, .slice B0 m0 d0]))] [(3,70,[.v (.bool s1), .v (.slice A1 l1 c1), .v (.bool t1), .v (.slice B1 m1 d1)]),(2,70,[.v (.bool s0), .v (.slice A0 l0 c0), .v (.bool t0), .v (.slice B0 m0 d0)])] (by kernel_rfl) (by kernel_rfl) ?_
     refine st_call 89 [.agg #[.bool s0, .slice A0 l0 c0, .bool t0, .slice B0 m0 d0]] 33 shInt _ (by kernel_rfl) (by kernel_rfl) (by kernel_rfl) (fun w hE hΦ => (Den_any _ (p) _ hΦ.1.1.1.1.1.1.1).mono (fun _ _ h => post_Int h)) (fun xx => ?_)
     obtain ⟨s16,A16,l16,c16⟩ := xx
     refine st_flt 0 [(4, .v (.int .i64 0)),(29, .v (.agg #[.bool s15, .slice A15 l15 c15])),(31, .v (.agg #[.bool s1, .slice A1 l1 c1])),(33, .v (.agg #[.bool s16, .slice A16 l16 c16]))] [(3,70,[.v (.bool s1), .v (.slice A1 l1 c1), .v (.bool t1), .v (.slice B1 m1 d1)]),(2,70,[.v (.bool s0), .v (.slice A0 l0 c0), .v (.bool t0), .v (.slice B0 m0 d0)])] (by kernel_rfl) (by kernel_rfl) ?_
     refine st_call 88 [.agg #[.bool s1, .slice A1 l1 c1], .agg #[.bool s16, .slice A16 l16 c16]] 34 shInt _ (by kernel_rfl) (by kernel_rfl) (by kernel_rfl) (fun w hE hΦ => (Mul_any _ _ ((q).num) (((p).den : Int)) _ hΦ.1.1.1.1.1.1.1.2.num hΦ.2 (fit S2 (by decide)) (fit S3 (by decide)) (Or.inl (Nat.lt_of_le_of_lt S2 (by decide)))).mono (fun _ _ h => post_Int h)) (fun xx => ?_)
     obtain ⟨s17,A17,l17,c17⟩ := xx
     refine st_flt 0 [(4, .v (.int .i64 0)),(29, .v (.agg #[.bool s15, .slice A15 l15 c15])),(34, .v (.agg #[.bool s17, .slice A17 l17 c17]))] [(3,70,[.v (.bool s1), .v (.slice A1 l1 c1), .v (.bool t1), .v (.slice B1 m1 d1)]),(2,70,[.v (.bool s0), .v (.slice A0 l0 c0), .v (.bool t0), .v (.slice B0 m0 d0)])] (by kernel_rfl) (by kernel_rfl) ?_
     refine st_call 135 [.agg #[.bool s15, .slice A15 l15 c15], .agg #[.bool s17, .slice A17 l17 c17]] 35 (fun _ : Unit => .int .i64 (p - q).num.sign) _ (by kernel_rfl) (by kernel_rfl) (by kernel_rfl) (fun w hE hΦ => (Compare_any _ _ (((p).num) * (((q).den : Int))) (((q).num) * (((p).den : Int))) _ hΦ.1.1.2 hΦ.2 (fit (wlm S1 S4) (by decide)) (fit (wlm S2 S3) (by decide))).mono (fun _ _ h => post_val h (by rw [cmp_cross]))) (fun xx => ?_)
     refine st_flt 1 [(4, .v (.int .i64 (p - q).num.sign))] [(3,70,[.v (.bool s1), .v (.slice A1 l1 c1), .v (.bool t1), .v (.slice B1 m1 d1)]),(2,70,[.v (.bool s0), .v (.slice A0 l0 c0), .v (.bool t0), .v (.slice B0 m0 d0)])] (by kernel_rfl) (by kernel_rfl) ?_
     refine st_end (by kernel_rfl) ?_
     refine sx_end (by kernel_rfl) ?_
     refine sx_next ?_
     refine sx_ret ?_
     refine sx_done (v := .int .i64 (p - q).num.sign) (by kernel_rfl) (fun w' hE hΦ => ?_)
     exact ⟨rfl,hE⟩
    ·refine st_call 134 [.agg #[.bool s1, .slice A1 l1 c1, .bool t1, .slice B1 m1 d1]] 17 (fun _ : Unit => .int .i64 0) _ (by kernel_rfl) (by kernel_rfl) (by kernel_rfl) (fun w hE hΦ => (QSign_any _ _ _ hΦ.1.1.1.2).mono (fun _ _ h => post_val h (by rw [hs13]))) (fun xx => ?_)
     refine st_flt 2 [(2, .p 2 0),(3, .p 3 0),(4, .v (.int .i64 0)),(19, .v (.bool true))] [(3,70,[.v (.bool s1), .v (.slice A1 l1 c1), .v (.bool t1), .v (.slice B1 m1 d1)]),(2,70,[.v (.bool s0), .v (.slice A0 l0 c0), .v (.bool t0), .v (.slice B0 m0 d0)])] (by kernel_rfl) (by kernel_rfl) ?_
     refine st_end (by kernel_rfl) ?_
     refine sx_end (by kernel_rfl) ?_
     refine sx_next ?_
     refine sx_cond_t (by kernel_rfl) ?_
     refine sx_seq ?_
     refine sx_region ?_
     refine sx_run 4 [(2, .p 2 0),(3, .p 3 0),(4, .v (.int .i64 0)),(21, .v (.agg #[.bool s0, .slice A0 l0 c0])),(23, .v (.agg #[.bool s1, .slice A1 l1 c1]))] [(3,70,[.v (.bool s1), .v (.slice A1 l1 c1), .v (.bool t1), .v (.slice B1 m1 d1)]),(2,70,[.v (.bool s0), .v (.slice A0 l0 c0), .v (.bool t0), .v (.slice B0 m0 d0)])] (by kernel_rfl) (by kernel_rfl) ?_
     refine sx_call 135 [.agg #[.bool s0, .slice A0 l0 c0], .agg #[.bool s1, .slice A1 l1 c1]] 24 (fun _ : Unit => .int .i64 (p - q).num.sign) _ (by kernel_rfl) (by kernel_rfl) (fun w hE hΦ => (Compare_any _ _ ((p).num) ((q).num) _ hΦ.1.1.1.1.1.num hΦ.1.1.1.1.2.num (fit S1 (by decide)) (fit S2 (by decide))).mono (fun _ _ h => post_val h (by rw [cmp_signs (p := p) (q := q) (by rw [hs12,hs13]; decide)]))) (fun xx => ?_)
     refine sx_run 1 [(2, .p 2 0),(3, .p 3 0),(4, .v (.int .i64 (p - q).num.sign))] [(3,70,[.v (.bool s1), .v (.slice A1 l1 c1), .v (.bool t1), .v (.slice B1 m1 d1)]),(2,70,[.v (.bool s0), .v (.slice A0 l0 c0), .v (.bool t0), .v (.slice B0 m0 d0)])] (by kernel_rfl) (by kernel_rfl) ?_
     refine sx_end (by kernel_rfl) ?_
     refine sx_next ?_
     refine sx_ret ?_
     refine sx_then_ret ?_
     refine sx_done (v := .int .i64 (p - q).num.sign) (by kernel_rfl) (fun w' hE hΦ => ?_)
     exact ⟨rfl,hE⟩
    ·refine st_call 134 [.agg #[.bool s1, .slice A1 l1 c1, .bool t1, .slice B1 m1 d1]] 17 (fun _ : Unit => .int .i64 1) _ (by kernel_rfl) (by kernel_rfl) (by kernel_rfl) (fun w hE hΦ => (QSign_any _ _ _ hΦ.1.1.1.2).mono (fun _ _ h => post_val h (by rw [hs13]))) (fun xx => ?_)
     refine st_flt 2 [(2, .p 2 0),(3, .p 3 0),(4, .v (.int .i64 0)),(19, .v (.bool true))] [(3,70,[.v (.bool s1), .v (.slice A1 l1 c1), .v (.bool t1), .v (.slice B1 m1 d1)]),(2,70,[.v (.bool s0), .v (.slice A0 l0 c0), .v (.bool t0), .v (.slice B0 m0 d0)])] (by kernel_rfl) (by kernel_rfl) ?_
     refine st_end (by kernel_rfl) ?_
     refine sx_end (by kernel_rfl) ?_
     refine sx_next ?_
     refine sx_cond_t (by kernel_rfl) ?_
     refine sx_seq ?_
     refine sx_region ?_
     refine sx_run 4 [(2, .p 2 0),(3, .p 3 0),(4, .v (.int .i64 0)),(21, .v (.agg #[.bool s0, .slice A0 l0 c0])),(23, .v (.agg #[.bool s1, .slice A1 l1 c1]))] [(3,70,[.v (.bool s1), .v (.slice A1 l1 c1), .v (.bool t1), .v (.slice B1 m1 d1)]),(2,70,[.v (.bool s0), .v (.slice A0 l0 c0), .v (.bool t0), .v (.slice B0 m0 d0)])] (by kernel_rfl) (by kernel_rfl) ?_
     refine sx_call 135 [.agg #[.bool s0, .slice A0 l0 c0], .agg #[.bool s1, .slice A1 l1 c1]] 24 (fun _ : Unit => .int .i64 (p - q).num.sign) _ (by kernel_rfl) (by kernel_rfl) (fun w hE hΦ => (Compare_any _ _ ((p).num) ((q).num) _ hΦ.1.1.1.1.1.num hΦ.1.1.1.1.2.num (fit S1 (by decide)) (fit S2 (by decide))).mono (fun _ _ h => post_val h (by rw [cmp_signs (p := p) (q := q) (by rw [hs12,hs13]; decide)]))) (fun xx => ?_)
     refine sx_run 1 [(2, .p 2 0),(3, .p 3 0),(4, .v (.int .i64 (p - q).num.sign))] [(3,70,[.v (.bool s1), .v (.slice A1 l1 c1), .v (.bool t1), .v (.slice B1 m1 d1)]),(2,70,[.v (.bool s0), .v (.slice A0 l0 c0), .v (.bool t0), .v (.slice B0 m0 d0)])] (by kernel_rfl) (by kernel_rfl) ?_
     refine sx_end (by kernel_rfl) ?_
     refine sx_next ?_
     refine sx_ret ?_
     refine sx_then_ret ?_
     refine sx_done (v := .int .i64 (p - q).num.sign) (by kernel_rfl) (fun w' hE hΦ => ?_)
     exact ⟨rfl,hE⟩
   ·refine st_call 134 [.agg #[.bool s0, .slice A0 l0 c0, .bool t0, .slice B0 m0 d0]] 15 (fun _ : Unit => .int .i64 0) _ (by kernel_rfl) (by kernel_rfl) (by kernel_rfl) (fun w hE hΦ => (QSign_any _ _ _ hΦ.1.1.1).mono (fun _ _ h => post_val h (by rw [hs12]))) (fun xx => ?_)
    refine st_flt 1 [(2, .p 2 0),(3, .p 3 0),(4, .v (.int .i64 0)),(13, .v (.bool false)),(15, .v (.int .i64 0)),(16, .v (.agg #[.bool s1, .slice A1 l1 c1, .bool t1, .slice B1 m1 d1]))] [(3,70,[.v (.bool s1), .v (.slice A1 l1 c1), .v (.bool t1), .v (.slice B1 m1 d1)]),(2,70,[.v (.bool s0), .v (.slice A0 l0 c0), .v (.bool t0), .v (.slice B0 m0 d0)])] (by kernel_rfl) (by kernel_rfl) ?_
    rcases sign3 (q.num) with ⟨hz18,hs18⟩ | ⟨hz18,hs18⟩ | ⟨hz18,hs18⟩
    ·refine st_call 134 [.agg #[.bool s1, .slice A1 l1 c1, .bool t1, .slice B1 m1 d1]] 17 (fun _ : Unit => .int .i64 (-1)) _ (by kernel_rfl) (by kernel_rfl) (by kernel_rfl) (fun w hE hΦ => (QSign_any _ _ _ hΦ.1.1.1.2).mono (fun _ _ h => post_val h (by rw [hs18]))) (fun xx => ?_)
     refine st_flt 2 [(2, .p 2 0),(3, .p 3 0),(4, .v (.int .i64 0)),(19, .v (.bool true))] [(3,70,[.v (.bool s1), .v (.slice A1 l1 c1), .v (.bool t1), .v (.slice B1 m1 d1)]),(2,70,[.v (.bool s0), .v (.slice A0 l0 c0), .v (.bool t0), .v (.slice B0 m0 d0)])] (by kernel_rfl) (by kernel_rfl) ?_
     refine st_end (by kernel_rfl) ?_
     refine sx_end (by kernel_rfl) ?_
     refine sx_next ?_
     refine sx_cond_t (by kernel_rfl) ?_
     refine sx_seq ?_
     refine sx_region ?_
     refine sx_run 4 [(2, .p 2 0),(3, .p 3 0),(4, .v (.int .i64 0)),(21, .v (.agg #[.bool s0, .slice A0 l0 c0])),(23, .v (.agg #[.bool s1, .slice A1 l1 c1]))] [(3,70,[.v (.bool s1), .v (.slice A1 l1 c1), .v (.bool t1), .v (.slice B1 m1 d1)]),(2,70,[.v (.bool s0), .v (.slice A0 l0 c0), .v (.bool t0), .v (.slice B0 m0 d0)])] (by kernel_rfl) (by kernel_rfl) ?_
     refine sx_call 135 [.agg #[.bool s0, .slice A0 l0 c0], .agg #[.bool s1, .slice A1 l1 c1]] 24 (fun _ : Unit => .int .i64 (p - q).num.sign) _ (by kernel_rfl) (by kernel_rfl) (fun w hE hΦ => (Compare_any _ _ ((p).num) ((q).num) _ hΦ.1.1.1.1.1.num hΦ.1.1.1.1.2.num (fit S1 (by decide)) (fit S2 (by decide))).mono (fun _ _ h => post_val h (by rw [cmp_signs (p := p) (q := q) (by rw [hs12,hs18]; decide)]))) (fun xx => ?_)
     refine sx_run 1 [(2, .p 2 0),(3, .p 3 0),(4, .v (.int .i64 (p - q).num.sign))] [(3,70,[.v (.bool s1), .v (.slice A1 l1 c1), .v (.bool t1), .v (.slice B1 m1 d1)]),(2,70,[.v (.bool s0), .v (.slice A0 l0 c0), .v (.bool t0), .v (.slice B0 m0 d0)])] (by kernel_rfl) (by kernel_rfl) ?_
     refine sx_end (by kernel_rfl) ?_
     refine sx_next ?_
     refine sx_ret ?_
     refine sx_then_ret ?_
     refine sx_done (v := .int .i64 (p - q).num.sign) (by kernel_rfl) (fun w' hE hΦ => ?_)
     exact ⟨rfl,hE⟩
    ·refine st_call 134 [.agg #[.bool s1, .slice A1 l1 c1, .bool t1, .slice B1 m1 d1]] 17 (fun _ : Unit => .int .i64 0) _ (by kernel_rfl) (by kernel_rfl) (by kernel_rfl) (fun w hE hΦ => (QSign_any _ _ _ hΦ.1.1.1.2).mono (fun _ _ h => post_val h (by rw [hs18]))) (fun xx => ?_)
     refine st_flt 2 [(2, .p 2 0),(3, .p 3 0),(4, .v (.int .i64 0)),(19, .v (.bool false))] [(3,70,[.v (.bool s1), .v (.slice A1 l1 c1), .v (.bool t1), .v (.slice B1 m1 d1)]),(2,70,[.v (.bool s0), .v (.slice A0 l0 c0), .v (.bool t0), .v (.slice B0 m0 d0)])] (by kernel_rfl) (by kernel_rfl) ?_
     refine st_end (by kernel_rfl) ?_
     refine sx_end (by kernel_rfl) ?_
     refine sx_next ?_
     refine sx_cond_f (by kernel_rfl) ?_
     refine sx_skip ?_
     refine sx_next ?_
     refine sx_seq ?_
     refine sx_draw 12 (by kernel_rfl) (by kernel_rfl) follows_mixed' ?_
     refine st_flt 3 [(2, .p 2 0),(3, .p 3 0),(4, .v (.int .i64 0)),(26, .v (.agg #[.bool s0, .slice A0 l0 c0])),(27, .v (.agg #[.bool s1, .slice A1 l1 c1, .bool t1, .slice B1 m1 d1]))] [(3,70,[.v (.bool s1), .v (.slice A1 l1 c1), .v (.bool t1), .v (.slice B1 m1 d1)]),(2,70,[.v (.bool s0), .v (.slice A0 l0 c0), .v (.bool t0), .v (.slice B0 m0 d0)])] (by kernel_rfl) (by kernel_rfl) ?_
     refine st_call 89 [.agg #[.bool s1, .slice A1 l1 c1, .bool t1, .slice B1 m1 d1]] 28 shInt _ (by kernel_rfl) (by kernel_rfl) (by kernel_rfl) (fun w hE hΦ => (Den_any _ (q) _ hΦ.1.1.1.1.2).mono (fun _ _ h => post_Int h)) (fun xx => ?_)
     obtain ⟨s19,A19,l19,c19⟩ := xx
     refine st_flt 0 [(2, .p 2 0),(3, .p 3 0),(4, .v (.int .i64 0)),(26, .v (.agg #[.bool s0, .slice A0 l0 c0])),(28, .v (.agg #[.bool s19, .slice A19 l19 c19]))] [(3,70,[.v (.bool s1), .v (.slice A1 l1 c1), .v (.bool t1), .v (.slice B1 m1 d1)]),(2,70,[.v (.bool s0), .v (.slice A0 l0 c0), .v (.bool t0), .v (.slice B0 m0 d0)])] (by kernel_rfl) (by kernel_rfl) ?_
     refine st_call 88 [.agg #[.bool s0, .slice A0 l0 c0], .agg #[.bool s19, .slice A19 l19 c19]] 29 shInt _ (by kernel_rfl) (by kernel_rfl) (by kernel_rfl) (fun w hE hΦ => (Mul_any _ _ ((p).num) (((q).den : Int)) _ hΦ.1.1.1.1.1.1.num hΦ.2 (fit S1 (by decide)) (fit S4 (by decide)) (Or.inl (Nat.lt_of_le_of_lt S1 (by decide)))).mono (fun _ _ h => post_Int h)) (fun xx => ?_)
     obtain ⟨s20,A20,l20,c20⟩ := xx
     refine st_flt 3 [(4, .v (.int .i64 0)),(29, .v (.agg #[.bool s20, .slice A20 l20 c20])),(31, .v (.agg #[.bool s1, .slice A1 l1 c1])),(32, .v (.agg #[.bool s0, .slice A0 l0 c0, .bool t0, .slice B0 m0 d0]))] [(3,70,[.v (.bool s1), .v (.slice A1 l1 c1), .v (.bool t1), .v (.slice B1 m1 d1)]),(2,70,[.v (.bool s0), .v (.slice A0 l0 c0), .v (.bool t0), .v (.slice B0 m0 d0)])] (by kernel_rfl) (by kernel_rfl) ?_
     refine st_call 89 [.agg #[.bool s0, .slice A0 l0 c0, .bool t0, .slice B0 m0 d0]] 33 shInt _ (by kernel_rfl) (by kernel_rfl) (by kernel_rfl) (fun w hE hΦ => (Den_any _ (p) _ hΦ.1.1.1.1.1.1.1).mono (fun _ _ h => post_Int h)) (fun xx => ?_)
     obtain ⟨s21,A21,l21,c21⟩ := xx
     refine st_flt 0 [(4, .v (.int .i64 0)),(29, .v (.agg #[.bool s20, .slice A20 l20 c20])),(31, .v (.agg #[.bool s1, .slice A1 l1 c1])),(33, .v (.agg #[.bool s21, .slice A21 l21 c21]))] [(3,70,[.v (.bool s1), .v (.slice A1 l1 c1), .v (.bool t1), .v (.slice B1 m1 d1)]),(2,70,[.v (.bool s0), .v (.slice A0 l0 c0), .v (.bool t0), .v (.slice B0 m0 d0)])] (by kernel_rfl) (by kernel_rfl) ?_
     refine st_call 88 [.agg #[.bool s1, .slice A1 l1 c1], .agg #[.bool s21, .slice A21 l21 c21]] 34 shInt _ (by kernel_rfl) (by kernel_rfl) (by kernel_rfl) (fun w hE hΦ => (Mul_any _ _ ((q).num) (((p).den : Int)) _ hΦ.1.1.1.1.1.1.1.2.num hΦ.2 (fit S2 (by decide)) (fit S3 (by decide)) (Or.inl (Nat.lt_of_le_of_lt S2 (by decide)))).mono (fun _ _ h => post_Int h)) (fun xx => ?_)
     obtain ⟨s22,A22,l22,c22⟩ := xx
     refine st_flt 0 [(4, .v (.int .i64 0)),(29, .v (.agg #[.bool s20, .slice A20 l20 c20])),(34, .v (.agg #[.bool s22, .slice A22 l22 c22]))] [(3,70,[.v (.bool s1), .v (.slice A1 l1 c1), .v (.bool t1), .v (.slice B1 m1 d1)]),(2,70,[.v (.bool s0), .v (.slice A0 l0 c0), .v (.bool t0), .v (.slice B0 m0 d0)])] (by kernel_rfl) (by kernel_rfl) ?_
     refine st_call 135 [.agg #[.bool s20, .slice A20 l20 c20], .agg #[.bool s22, .slice A22 l22 c22]] 35 (fun _ : Unit => .int .i64 (p - q).num.sign) _ (by kernel_rfl) (by kernel_rfl) (by kernel_rfl) (fun w hE hΦ => (Compare_any _ _ (((p).num) * (((q).den : Int))) (((q).num) * (((p).den : Int))) _ hΦ.1.1.2 hΦ.2 (fit (wlm S1 S4) (by decide)) (fit (wlm S2 S3) (by decide))).mono (fun _ _ h => post_val h (by rw [cmp_cross]))) (fun xx => ?_)
     refine st_flt 1 [(4, .v (.int .i64 (p - q).num.sign))] [(3,70,[.v (.bool s1), .v (.slice A1 l1 c1), .v (.bool t1), .v (.slice B1 m1 d1)]),(2,70,[.v (.bool s0), .v (.slice A0 l0 c0), .v (.bool t0), .v (.slice B0 m0 d0)])] (by kernel_rfl) (by kernel_rfl) ?_
     refine st_end (by kernel_rfl) ?_
     refine sx_end (by kernel_rfl) ?_
     refine sx_next ?_
     refine sx_ret ?_
     refine sx_done (v := .int .i64 (p - q).num.sign) (by kernel_rfl) (fun w' hE hΦ => ?_)
     exact ⟨rfl,hE⟩
    ·refine st_call 134 [.agg #[.bool s1, .slice A1 l1 c1, .bool t1, .slice B1 m1 d1]] 17 (fun _ : Unit => .int .i64 1) _ (by kernel_rfl) (by kernel_rfl) (by kernel_rfl) (fun w hE hΦ => (QSign_any _ _ _ hΦ.1.1.1.2).mono (fun _ _ h => post_val h (by rw [hs18]))) (fun xx => ?_)
     refine st_flt 2 [(2, .p 2 0),(3, .p 3 0),(4, .v (.int .i64 0)),(19, .v (.bool true))] [(3,70,[.v (.bool s1), .v (.slice A1 l1 c1), .v (.bool t1), .v (.slice B1 m1 d1)]),(2,70,[.v (.bool s0), .v (.slice A0 l0 c0), .v (.bool t0), .v (.slice B0 m0 d0)])] (by kernel_rfl) (by kernel_rfl) ?_
     refine st_end (by kernel_rfl) ?_
     refine sx_end (by kernel_rfl) ?_
     refine sx_next ?_
     refine sx_cond_t (by kernel_rfl) ?_
     refine sx_seq ?_
     refine sx_region ?_
     refine sx_run 4 [(2, .p 2 0),(3, .p 3 0),(4, .v (.int .i64 0)),(21, .v (.agg #[.bool s0, .slice A0 l0 c0])),(23, .v (.agg #[.bool s1, .slice A1 l1 c1]))] [(3,70,[.v (.bool s1), .v (.slice A1 l1 c1), .v (.bool t1), .v (.slice B1 m1 d1)]),(2,70,[.v (.bool s0), .v (.slice A0 l0 c0), .v (.bool t0), .v (.slice B0 m0 d0)])] (by kernel_rfl) (by kernel_rfl) ?_
     refine sx_call 135 [.agg #[.bool s0, .slice A0 l0 c0], .agg #[.bool s1, .slice A1 l1 c1]] 24 (fun _ : Unit => .int .i64 (p - q).num.sign) _ (by kernel_rfl) (by kernel_rfl) (fun w hE hΦ => (Compare_any _ _ ((p).num) ((q).num) _ hΦ.1.1.1.1.1.num hΦ.1.1.1.1.2.num (fit S1 (by decide)) (fit S2 (by decide))).mono (fun _ _ h => post_val h (by rw [cmp_signs (p := p) (q := q) (by rw [hs12,hs18]; decide)]))) (fun xx => ?_)
     refine sx_run 1 [(2, .p 2 0),(3, .p 3 0),(4, .v (.int .i64 (p - q).num.sign))] [(3,70,[.v (.bool s1), .v (.slice A1 l1 c1), .v (.bool t1), .v (.slice B1 m1 d1)]),(2,70,[.v (.bool s0), .v (.slice A0 l0 c0), .v (.bool t0), .v (.slice B0 m0 d0)])] (by kernel_rfl) (by kernel_rfl) ?_
     refine sx_end (by kernel_rfl) ?_
     refine sx_next ?_
     refine sx_ret ?_
     refine sx_then_ret ?_
     refine sx_done (v := .int .i64 (p - q).num.sign) (by kernel_rfl) (fun w' hE hΦ => ?_)
     exact ⟨rfl,hE⟩
   ·refine st_call 134 [.agg #[.bool s0, .slice A0 l0 c0, .bool t0, .slice B0 m0 d0]] 15 (fun _ : Unit => .int .i64 1) _ (by kernel_rfl) (by kernel_rfl) (by kernel_rfl) (fun w hE hΦ => (QSign_any _ _ _ hΦ.1.1.1).mono (fun _ _ h => post_val h (by rw [hs12]))) (fun xx => ?_)
    refine st_flt 1 [(2, .p 2 0),(3, .p 3 0),(4, .v (.int .i64 0)),(13, .v (.bool false)),(15, .v (.int .i64 1)),(16, .v (.agg #[.bool s1, .slice A1 l1 c1, .bool t1, .slice B1 m1 d1]))] [(3,70,[.v (.bool s1), .v (.slice A1 l1 c1), .v (.bool t1), .v (.slice B1 m1 d1)]),(2,70,[.v (.bool s0), .v (.slice A0 l0 c0), .v (.bool t0), .v (.slice B0 m0 d0)])] (by kernel_rfl) (by kernel_rfl) ?_
    rcases sign3 (q.num) with ⟨hz23,hs23⟩ | ⟨hz23,hs23⟩ | ⟨hz23,hs23⟩
    ·refine st_call 134 [.agg #[.bool s1, .slice A1 l1 c1, .bool t1, .slice B1 m1 d1]] 17 (fun _ : Unit => .int .i64 (-1)) _ (by kernel_rfl) (by kernel_rfl) (by kernel_rfl) (fun w hE hΦ => (QSign_any _ _ _ hΦ.1.1.1.2).mono (fun _ _ h => post_val h (by rw [hs23]))) (fun xx => ?_)
     refine st_flt 2 [(2, .p 2 0),(3, .p 3 0),(4, .v (.int .i64 0)),(19, .v (.bool true))] [(3,70,[.v (.bool s1), .v (.slice A1 l1 c1), .v (.bool t1), .v (.slice B1 m1 d1)]),(2,70,[.v (.bool s0), .v (.slice A0 l0 c0), .v (.bool t0), .v (.slice B0 m0 d0)])] (by kernel_rfl) (by kernel_rfl) ?_
     refine st_end (by kernel_rfl) ?_
     refine sx_end (by kernel_rfl) ?_
     refine sx_next ?_
     refine sx_cond_t (by kernel_rfl) ?_
     refine sx_seq ?_
     refine sx_region ?_
     refine sx_run 4 [(2, .p 2 0),(3, .p 3 0),(4, .v (.int .i64 0)),(21, .v (.agg #[.bool s0, .slice A0 l0 c0])),(23, .v (.agg #[.bool s1, .slice A1 l1 c1]))] [(3,70,[.v (.bool s1), .v (.slice A1 l1 c1), .v (.bool t1), .v (.slice B1 m1 d1)]),(2,70,[.v (.bool s0), .v (.slice A0 l0 c0), .v (.bool t0), .v (.slice B0 m0 d0)])] (by kernel_rfl) (by kernel_rfl) ?_
     refine sx_call 135 [.agg #[.bool s0, .slice A0 l0 c0], .agg #[.bool s1, .slice A1 l1 c1]] 24 (fun _ : Unit => .int .i64 (p - q).num.sign) _ (by kernel_rfl) (by kernel_rfl) (fun w hE hΦ => (Compare_any _ _ ((p).num) ((q).num) _ hΦ.1.1.1.1.1.num hΦ.1.1.1.1.2.num (fit S1 (by decide)) (fit S2 (by decide))).mono (fun _ _ h => post_val h (by rw [cmp_signs (p := p) (q := q) (by rw [hs12,hs23]; decide)]))) (fun xx => ?_)
     refine sx_run 1 [(2, .p 2 0),(3, .p 3 0),(4, .v (.int .i64 (p - q).num.sign))] [(3,70,[.v (.bool s1), .v (.slice A1 l1 c1), .v (.bool t1), .v (.slice B1 m1 d1)]),(2,70,[.v (.bool s0), .v (.slice A0 l0 c0), .v (.bool t0), .v (.slice B0 m0 d0)])] (by kernel_rfl) (by kernel_rfl) ?_
     refine sx_end (by kernel_rfl) ?_
     refine sx_next ?_
     refine sx_ret ?_
     refine sx_then_ret ?_
     refine sx_done (v := .int .i64 (p - q).num.sign) (by kernel_rfl) (fun w' hE hΦ => ?_)
     exact ⟨rfl,hE⟩
    ·refine st_call 134 [.agg #[.bool s1, .slice A1 l1 c1, .bool t1, .slice B1 m1 d1]] 17 (fun _ : Unit => .int .i64 0) _ (by kernel_rfl) (by kernel_rfl) (by kernel_rfl) (fun w hE hΦ => (QSign_any _ _ _ hΦ.1.1.1.2).mono (fun _ _ h => post_val h (by rw [hs23]))) (fun xx => ?_)
     refine st_flt 2 [(2, .p 2 0),(3, .p 3 0),(4, .v (.int .i64 0)),(19, .v (.bool true))] [(3,70,[.v (.bool s1), .v (.slice A1 l1 c1), .v (.bool t1), .v (.slice B1 m1 d1)]),(2,70,[.v (.bool s0), .v (.slice A0 l0 c0), .v (.bool t0), .v (.slice B0 m0 d0)])] (by kernel_rfl) (by kernel_rfl) ?_
     refine st_end (by kernel_rfl) ?_
     refine sx_end (by kernel_rfl) ?_
     refine sx_next ?_
     refine sx_cond_t (by kernel_rfl) ?_
     refine sx_seq ?_
     refine sx_region ?_
     refine sx_run 4 [(2, .p 2 0),(3, .p 3 0),(4, .v (.int .i64 0)),(21, .v (.agg #[.bool s0, .slice A0 l0 c0])),(23, .v (.agg #[.bool s1, .slice A1 l1 c1]))] [(3,70,[.v (.bool s1), .v (.slice A1 l1 c1), .v (.bool t1), .v (.slice B1 m1 d1)]),(2,70,[.v (.bool s0), .v (.slice A0 l0 c0), .v (.bool t0), .v (.slice B0 m0 d0)])] (by kernel_rfl) (by kernel_rfl) ?_
     refine sx_call 135 [.agg #[.bool s0, .slice A0 l0 c0], .agg #[.bool s1, .slice A1 l1 c1]] 24 (fun _ : Unit => .int .i64 (p - q).num.sign) _ (by kernel_rfl) (by kernel_rfl) (fun w hE hΦ => (Compare_any _ _ ((p).num) ((q).num) _ hΦ.1.1.1.1.1.num hΦ.1.1.1.1.2.num (fit S1 (by decide)) (fit S2 (by decide))).mono (fun _ _ h => post_val h (by rw [cmp_signs (p := p) (q := q) (by rw [hs12,hs23]; decide)]))) (fun xx => ?_)
     refine sx_run 1 [(2, .p 2 0),(3, .p 3 0),(4, .v (.int .i64 (p - q).num.sign))] [(3,70,[.v (.bool s1), .v (.slice A1 l1 c1), .v (.bool t1), .v (.slice B1 m1 d1)]),(2,70,[.v (.bool s0), .v (.slice A0 l0 c0), .v (.bool t0), .v (.slice B0 m0 d0)])] (by kernel_rfl) (by kernel_rfl) ?_
     refine sx_end (by kernel_rfl) ?_
     refine sx_next ?_
     refine sx_ret ?_
     refine sx_then_ret ?_
     refine sx_done (v := .int .i64 (p - q).num.sign) (by kernel_rfl) (fun w' hE hΦ => ?_)
     exact ⟨rfl,hE⟩
    ·refine st_call 134 [.agg #[.bool s1, .slice A1 l1 c1, .bool t1, .slice B1 m1 d1]] 17 (fun _ : Unit => .int .i64 1) _ (by kernel_rfl) (by kernel_rfl) (by kernel_rfl) (fun w hE hΦ => (QSign_any _ _ _ hΦ.1.1.1.2).mono (fun _ _ h => post_val h (by rw [hs23]))) (fun xx => ?_)
     refine st_flt 2 [(2, .p 2 0),(3, .p 3 0),(4, .v (.int .i64 0)),(19, .v (.bool false))] [(3,70,[.v (.bool s1), .v (.slice A1 l1 c1), .v (.bool t1), .v (.slice B1 m1 d1)]),(2,70,[.v (.bool s0), .v (.slice A0 l0 c0), .v (.bool t0), .v (.slice B0 m0 d0)])] (by kernel_rfl) (by kernel_rfl) ?_
     refine st_end (by kernel_rfl) ?_
     refine sx_end (by kernel_rfl) ?_
     refine sx_next ?_
     refine sx_cond_f (by kernel_rfl) ?_
     refine sx_skip ?_
     refine sx_next ?_
     refine sx_seq ?_
     refine sx_draw 12 (by kernel_rfl) (by kernel_rfl) follows_mixed' ?_
     refine st_flt 3 [(2, .p 2 0),(3, .p 3 0),(4, .v (.int .i64 0)),(26, .v (.agg #[.bool s0, .slice A0 l0 c0])),(27, .v (.agg #[.bool s1, .slice A1 l1 c1, .bool t1, .slice B1 m1 d1]))] [(3,70,[.v (.bool s1), .v (.slice A1 l1 c1), .v (.bool t1), .v (.slice B1 m1 d1)]),(2,70,[.v (.bool s0), .v (.slice A0 l0 c0), .v (.bool t0), .v (.slice B0 m0 d0)])] (by kernel_rfl) (by kernel_rfl) ?_
     refine st_call 89 [.agg #[.bool s1, .slice A1 l1 c1, .bool t1, .slice B1 m1 d1]] 28 shInt _ (by kernel_rfl) (by kernel_rfl) (by kernel_rfl) (fun w hE hΦ => (Den_any _ (q) _ hΦ.1.1.1.1.2).mono (fun _ _ h => post_Int h)) (fun xx => ?_)
     obtain ⟨s24,A24,l24,c24⟩ := xx
     refine st_flt 0 [(2, .p 2 0),(3, .p 3 0),(4, .v (.int .i64 0)),(26, .v (.agg #[.bool s0, .slice A0 l0 c0])),(28, .v (.agg #[.bool s24, .slice A24 l24 c24]))] [(3,70,[.v (.bool s1), .v (.slice A1 l1 c1), .v (.bool t1), .v (.slice B1 m1 d1)]),(2,70,[.v (.bool s0), .v (.slice A0 l0 c0), .v (.bool t0), .v (.slice B0 m0 d0)])] (by kernel_rfl) (by kernel_rfl) ?_
     refine st_call 88 [.agg #[.bool s0, .slice A0 l0 c0], .agg #[.bool s24, .slice A24 l24 c24]] 29 shInt _ (by kernel_rfl) (by kernel_rfl) (by kernel_rfl) (fun w hE hΦ => (Mul_any _ _ ((p).num) (((q).den : Int)) _ hΦ.1.1.1.1.1.1.num hΦ.2 (fit S1 (by decide)) (fit S4 (by decide)) (Or.inl (Nat.lt_of_le_of_lt S1 (by decide)))).mono (fun _ _ h => post_Int h)) (fun xx => ?_)
     obtain ⟨s25,A25,l25,c25⟩ := xx
     refine st_flt 3 [(4, .v (.int .i64 0)),(29, .v (.agg #[.bool s25, .slice A25 l25 c25])),(31, .v (.agg #[.bool s1, .slice A1 l1 c1])),(32, .v (.agg #[.bool s0, .slice A0 l0 c0, .bool t0, .slice B0 m0 d0]))] [(3,70,[.v (.bool s1), .v (.slice A1 l1 c1), .v (.bool t1), .v (.slice B1 m1 d1)]),(2,70,[.v (.bool s0), .v (.slice A0 l0 c0), .v (.bool t0), .v (.slice B0 m0 d0)])] (by kernel_rfl) (by kernel_rfl) ?_
     refine st_call 89 [.agg #[.bool s0, .slice A0 l0 c0, .bool t0, .slice B0 m0 d0]] 33 shInt _ (by kernel_rfl) (by kernel_rfl) (by kernel_rfl) (fun w hE hΦ => (Den_any _ (p) _ hΦ.1.1.1.1.1.1.1).mono (fun _ _ h => post_Int h)) (fun xx => ?_)
     obtain ⟨s26,A26,l26,c26⟩ := xx
     refine st_flt 0 [(4, .v (.int .i64 0)),(29, .v (.agg #[.bool s25, .slice A25 l25 c25])),(31, .v (.agg #[.bool s1, .slice A1 l1 c1])),(33, .v (.agg #[.bool s26, .slice A26 l26 c26]))] [(3,70,[.v (.bool s1), .v (.slice A1 l1 c1), .v (.bool t1), .v (.slice B1 m1 d1)]),(2,70,[.v (.bool s0), .v (.slice A0 l0 c0), .v (.bool t0), .v (.slice B0 m0 d0)])] (by kernel_rfl) (by kernel_rfl) ?_
     refine st_call 88 [.agg #[.bool s1, .slice A1 l1 c1], .agg #[.bool s26, .slice A26 l26 c26]] 34 shInt _ (by kernel_rfl) (by kernel_rfl) (by kernel_rfl) (fun w hE hΦ => (Mul_any _ _ ((q).num) (((p).den : Int)) _ hΦ.1.1.1.1.1.1.1.2.num hΦ.2 (fit S2 (by decide)) (fit S3 (by decide)) (Or.inl (Nat.lt_of_le_of_lt S2 (by decide)))).mono (fun _ _ h => post_Int h)) (fun xx => ?_)
     obtain ⟨s27,A27,l27,c27⟩ := xx
     refine st_flt 0 [(4, .v (.int .i64 0)),(29, .v (.agg #[.bool s25, .slice A25 l25 c25])),(34, .v (.agg #[.bool s27, .slice A27 l27 c27]))] [(3,70,[.v (.bool s1), .v (.slice A1 l1 c1), .v (.bool t1), .v (.slice B1 m1 d1)]),(2,70,[.v (.bool s0), .v (.slice A0 l0 c0), .v (.bool t0), .v (.slice B0 m0 d0)])] (by kernel_rfl) (by kernel_rfl) ?_
     refine st_call 135 [.agg #[.bool s25, .slice A25 l25 c25], .agg #[.bool s27, .slice A27 l27 c27]] 35 (fun _ : Unit => .int .i64 (p - q).num.sign) _ (by kernel_rfl) (by kernel_rfl) (by kernel_rfl) (fun w hE hΦ => (Compare_any _ _ (((p).num) * (((q).den : Int))) (((q).num) * (((p).den : Int))) _ hΦ.1.1.2 hΦ.2 (fit (wlm S1 S4) (by decide)) (fit (wlm S2 S3) (by decide))).mono (fun _ _ h => post_val h (by rw [cmp_cross]))) (fun xx => ?_)
     refine st_flt 1 [(4, .v (.int .i64 (p - q).num.sign))] [(3,70,[.v (.bool s1), .v (.slice A1 l1 c1), .v (.bool t1), .v (.slice B1 m1 d1)]),(2,70,[.v (.bool s0), .v (.slice A0 l0 c0), .v (.bool t0), .v (.slice B0 m0 d0)])] (by kernel_rfl) (by kernel_rfl) ?_
     refine st_end (by kernel_rfl) ?_
     refine sx_end (by kernel_rfl) ?_
     refine sx_next ?_
     refine sx_ret ?_
     refine sx_done (v := .int .i64 (p - q).num.sign) (by kernel_rfl) (fun w' hE hΦ => ?_)
     exact ⟨rfl,hE⟩
 ·refine st_call 60 [.agg #[.bool t0, .slice B0 m0 d0]] 7 (fun _ : Unit => .bool false) _ (by kernel_rfl) (by kernel_rfl) (by kernel_rfl) (fun w hE hΦ => (IsZero_any _ (denF (p)) _ hΦ.1.den).mono (fun _ _ h => post_val h (by rw [decide_eq_false (p := (denF (p)) = 0) hz10]))) (fun xx => ?_)
  refine st_flt 7 [(2, .p 2 0),(3, .p 3 0),(4, .v (.int .i64 0)),(13, .v (.bool false)),(14, .v (.agg #[.bool s0, .slice A0 l0 c0, .bool t0, .slice B0 m0 d0]))] [(3,70,[.v (.bool s1), .v (.slice A1 l1 c1), .v (.bool t1), .v (.slice B1 m1 d1)]),(2,70,[.v (.bool s0), .v (.slice A0 l0 c0), .v (.bool t0), .v (.slice B0 m0 d0)])] (by kernel_rfl) (by kernel_rfl) ?_
  rcases sign3 (p.num) with ⟨hz28,hs28⟩ | ⟨hz28,hs28⟩ | ⟨hz28,hs28⟩
  ·refine st_call 134 [.agg #[.bool s0, .slice A0 l0 c0, .bool t0, .slice B0 m0 d0]] 15 (fun _ : Unit => .int .i64 (-1)) _ (by kernel_rfl) (by kernel_rfl) (by kernel_rfl) (fun w hE hΦ => (QSign_any _ _ _ hΦ.1.1).mono (fun _ _ h => post_val h (by rw [hs28]))) (fun xx => ?_)
   refine st_flt 1 [(2, .p 2 0),(3, .p 3 0),(4, .v (.int .i64 0)),(13, .v (.bool false)),(15, .v (.int .i64 (-1))),(16, .v (.agg #[.bool s1, .slice A1 l1 c1, .bool t1, .slice B1 m1 d1]))] [(3,70,[.v (.bool s1), .v (.slice A1 l1 c1), .v (.bool t1), .v (.slice B1 m1 d1)]),(2,70,[.v (.bool s0), .v (.slice A0 l0 c0), .v (.bool t0), .v (.slice B0 m0 d0)])] (by kernel_rfl) (by kernel_rfl) ?_
   rcases sign3 (q.num) with ⟨hz29,hs29⟩ | ⟨hz29,hs29⟩ | ⟨hz29,hs29⟩
   ·refine st_call 134 [.agg #[.bool s1, .slice A1 l1 c1, .bool t1, .slice B1 m1 d1]] 17 (fun _ : Unit => .int .i64 (-1)) _ (by kernel_rfl) (by kernel_rfl) (by kernel_rfl) (fun w hE hΦ => (QSign_any _ _ _ hΦ.1.1.2).mono (fun _ _ h => post_val h (by rw [hs29]))) (fun xx => ?_)
    refine st_flt 2 [(2, .p 2 0),(3, .p 3 0),(4, .v (.int .i64 0)),(19, .v (.bool false))] [(3,70,[.v (.bool s1), .v (.slice A1 l1 c1), .v (.bool t1), .v (.slice B1 m1 d1)]),(2,70,[.v (.bool s0), .v (.slice A0 l0 c0), .v (.bool t0), .v (.slice B0 m0 d0)])] (by kernel_rfl) (by kernel_rfl) ?_
    refine st_end (by kernel_rfl) ?_
    refine sx_end (by kernel_rfl) ?_
    refine sx_next ?_
    refine sx_cond_f (by kernel_rfl) ?_
    refine sx_skip ?_
    refine sx_next ?_
    refine sx_seq ?_
    refine sx_draw 12 (by kernel_rfl) (by kernel_rfl) follows_mixed' ?_
    refine st_flt 3 [(2, .p 2 0),(3, .p 3 0),(4, .v (.int .i64 0)),(26, .v (.agg #[.bool s0, .slice A0 l0 c0])),(27, .v (.agg #[.bool s1, .slice A1 l1 c1, .bool t1, .slice B1 m1 d1]))] [(3,70,[.v (.bool s1), .v (.slice A1 l1 c1), .v (.bool t1), .v (.slice B1 m1 d1)]),(2,70,[.v (.bool s0), .v (.slice A0 l0 c0), .v (.bool t0), .v (.slice B0 m0 d0)])] (by kernel_rfl) (by kernel_rfl) ?_
    refine st_call 89 [.agg #[.bool s1, .slice A1 l1 c1, .bool t1, .slice B1 m1 d1]] 28 shInt _ (by kernel_rfl) (by kernel_rfl) (by kernel_rfl) (fun w hE hΦ => (Den_any _ (q) _ hΦ.1.1.1.2).mono (fun _ _ h => post_Int h)) (fun xx => ?_)
    obtain ⟨s30,A30,l30,c30⟩ := xx
    refine st_flt 0 [(2, .p 2 0),(3, .p 3 0),(4, .v (.int .i64 0)),(26, .v (.agg #[.bool s0, .slice A0 l0 c0])),(28, .v (.agg #[.bool s30, .slice A30 l30 c30]))] [(3,70,[.v (.bool s1), .v (.slice A1 l1 c1), .v (.bool t1), .v (.slice B1 m1 d1)]),(2,70,[.v (.bool s0), .v (.slice A0 l0 c0), .v (.bool t0), .v (.slice B0 m0 d0)])] (by kernel_rfl) (by kernel_rfl) ?_
    refine st_call 88 [.agg #[.bool s0, .slice A0 l0 c0], .agg #[.bool s30, .slice A30 l30 c30]] 29 shInt _ (by kernel_rfl) (by kernel_rfl) (by kernel_rfl) (fun w hE hΦ => (Mul_any _ _ ((p).num) (((q).den : Int)) _ hΦ.1.1.1.1.1.num hΦ.2 (fit S1 (by decide)) (fit S4 (by decide)) (Or.inl (Nat.lt_of_le_of_lt S1 (by decide)))).mono (fun _ _ h => post_Int h)) (fun xx => ?_)
    obtain ⟨s31,A31,l31,c31⟩ := xx
    refine st_flt 3 [(4, .v (.int .i64 0)),(29, .v (.agg #[.bool s31, .slice A31 l31 c31])),(31, .v (.agg #[.bool s1, .slice A1 l1 c1])),(32, .v (.agg #[.bool s0, .slice A0 l0 c0, .bool t0, .slice B0 m0 d0]))] [(3,70,[.v (.bool s1), .v (.slice A1 l1 c1), .v (.bool t1), .v (.slice B1 m1 d1)]),(2,70,[.v (.bool s0), .v (.slice A0 l0 c0), .v (.bool t0), .v (.slice B0 m0 d0)])] (by kernel_rfl) (by kernel_rfl) ?_
    refine st_call 89 [.agg #[.bool s0, .slice A0 l0 c0, .bool t0, .slice B0 m0 d0]] 33 shInt _ (by kernel_rfl) (by kernel_rfl) (by kernel_rfl) (fun w hE hΦ => (Den_any _ (p) _ hΦ.1.1.1.1.1.1).mono (fun _ _ h => post_Int h)) (fun xx => ?_)
    obtain ⟨s32,A32,l32,c32⟩ := xx
    refine st_flt 0 [(4, .v (.int .i64 0)),(29, .v (.agg #[.bool s31, .slice A31 l31 c31])),(31, .v (.agg #[.bool s1, .slice A1 l1 c1])),(33, .v (.agg #[.bool s32, .slice A32 l32 c32]))] [(3,70,[.v (.bool s1), .v (.slice A1 l1 c1), .v (.bool t1), .v (.slice B1 m1 d1)]),(2,70,[.v (.bool s0), .v (.slice A0 l0 c0), .v (.bool t0), .v (.slice B0 m0 d0)])] (by kernel_rfl) (by kernel_rfl) ?_
    refine st_call 88 [.agg #[.bool s1, .slice A1 l1 c1], .agg #[.bool s32, .slice A32 l32 c32]] 34 shInt _ (by kernel_rfl) (by kernel_rfl) (by kernel_rfl) (fun w hE hΦ => (Mul_any _ _ ((q).num) (((p).den : Int)) _ hΦ.1.1.1.1.1.1.2.num hΦ.2 (fit S2 (by decide)) (fit S3 (by decide)) (Or.inl (Nat.lt_of_le_of_lt S2 (by decide)))).mono (fun _ _ h => post_Int h)) (fun xx => ?_)
    obtain ⟨s33,A33,l33,c33⟩ := xx
    refine st_flt 0 [(4, .v (.int .i64 0)),(29, .v (.agg #[.bool s31, .slice A31 l31 c31])),(34, .v (.agg #[.bool s33, .slice A33 l33 c33]))] [(3,70,[.v (.bool s1), .v (.slice A1 l1 c1), .v (.bool t1), .v (.slice B1 m1 d1)]),(2,70,[.v (.bool s0), .v (.slice A0 l0 c0), .v (.bool t0), .v (.slice B0 m0 d0)])] (by kernel_rfl) (by kernel_rfl) ?_
    refine st_call 135 [.agg #[.bool s31, .slice A31 l31 c31], .agg #[.bool s33, .slice A33 l33 c33]] 35 (fun _ : Unit => .int .i64 (p - q).num.sign) _ (by kernel_rfl) (by kernel_rfl) (by kernel_rfl) (fun w hE hΦ => (Compare_any _ _ (((p).num) * (((q).den : Int))) (((q).num) * (((p).den : Int))) _ hΦ.1.1.2 hΦ.2 (fit (wlm S1 S4) (by decide)) (fit (wlm S2 S3) (by decide))).mono (fun _ _ h => post_val h (by rw [cmp_cross]))) (fun xx => ?_)
    refine st_flt 1 [(4, .v (.int .i64 (p - q).num.sign))] [(3,70,[.v (.bool s1), .v (.slice A1 l1 c1), .v (.bool t1), .v (.slice B1 m1 d1)]),(2,70,[.v (.bool s0), .v (.slice A0 l0 c0), .v (.bool t0), .v (.slice B0 m0 d0)])] (by kernel_rfl) (by kernel_rfl) ?_
    refine st_end (by kernel_rfl) ?_
    refine sx_end (by kernel_rfl) ?_
    refine sx_next ?_
    refine sx_ret ?_
    refine sx_done (v := .int .i64 (p - q).num.sign) (by kernel_rfl) (fun w' hE hΦ => ?_)
    exact ⟨rfl,hE⟩
   ·refine st_call 134 [.agg #[.bool s1, .slice A1 l1 c1, .bool t1, .slice B1 m1 d1]] 17 (fun _ : Unit => .int .i64 0) _ (by kernel_rfl) (by kernel_rfl) (by kernel_rfl) (fun w hE hΦ => (QSign_any _ _ _ hΦ.1.1.2).mono (fun _ _ h => post_val h (by rw [hs29]))) (fun xx => ?_)
    refine st_flt 2 [(2, .p 2 0),(3, .p 3 0),(4, .v (.int .i64 0)),(19, .v (.bool true))] [(3,70,[.v (.bool s1), .v (.slice A1 l1 c1), .v (.bool t1), .v (.slice B1 m1 d1)]),(2,70,[.v (.bool s0), .v (.slice A0 l0 c0), .v (.bool t0), .v (.slice B0 m0 d0)])] (by kernel_rfl) (by kernel_rfl) ?_
    refine st_end (by kernel_rfl) ?_
    refine sx_end (by kernel_rfl) ?_
    refine sx_next ?_
    refine sx_cond_t (by kernel_rfl) ?_
    refine sx_seq ?_
    refine sx_region ?_
    refine sx_run 4 [(2, .p 2 0),(3, .p 3 0),(4, .v (.int .i64 0)),(21, .v (.agg #[.bool s0, .slice A0 l0 c0])),(23, .v (.agg #[.bool s1, .slice A1 l1 c1]))] [(3,70,[.v (.bool s1), .v (.slice A1 l1 c1), .v (.bool t1), .v (.slice B1 m1 d1)]),(2,70,[.v (.bool s0), .v (.slice A0 l0 c0), .v (.bool t0), .v (.slice B0 m0 d0)])] (by kernel_rfl) (by kernel_rfl) ?_
    refine sx_call 135 [.agg #[.bool s0, .slice A0 l0 c0], .agg #[.bool s1, .slice A1 l1 c1]] 24 (fun _ : Unit => .int .i64 (p - q).num.sign) _ (by kernel_rfl) (by kernel_rfl) (fun w hE hΦ => (Compare_any _ _ ((p).num) ((q).num) _ hΦ.1.1.1.1.num hΦ.1.1.1.2.num (fit S1 (by decide)) (fit S2 (by decide))).mono (fun _ _ h => post_val h (by rw [cmp_signs (p := p) (q := q) (by rw [hs28,hs29]; decide)]))) (fun xx => ?_)
    refine sx_run 1 [(2, .p 2 0),(3, .p 3 0),(4, .v (.int .i64 (p - q).num.sign))] [(3,70,[.v (.bool s1), .v (.slice A1 l1 c1), .v (.bool t1), .v (.slice B1 m1 d1)]),(2,70,[.v (.bool s0), .v (.slice A0 l0 c0), .v (.bool t0), .v (.slice B0 m0 d0)])] (by kernel_rfl) (by kernel_rfl) ?_
    refine sx_end (by kernel_rfl) ?_
    refine sx_next ?_
    refine sx_ret ?_
    refine sx_then_ret ?_
    refine sx_done (v := .int .i64 (p - q).num.sign) (by kernel_rfl) (fun w' hE hΦ => ?_)
    exact ⟨rfl,hE⟩
   ·refine st_call 134 [.agg #[.bool s1, .slice A1 l1 c1, .bool t1, .slice B1 m1 d1]] 17 (fun _ : Unit => .int .i64 1) _ (by kernel_rfl) (by kernel_rfl) (by kernel_rfl) (fun w hE hΦ => (QSign_any _ _ _ hΦ.1.1.2).mono (fun _ _ h => post_val h (by rw [hs29]))) (fun xx => ?_)
    refine st_flt 2 [(2, .p 2 0),(3, .p 3 0),(4, .v (.int .i64 0)),(19, .v (.bool true))] [(3,70,[.v (.bool s1), .v (.slice A1 l1 c1), .v (.bool t1), .v (.slice B1 m1 d1)]),(2,70,[.v (.bool s0), .v (.slice A0 l0 c0), .v (.bool t0), .v (.slice B0 m0 d0)])] (by kernel_rfl) (by kernel_rfl) ?_
    refine st_end (by kernel_rfl) ?_
    refine sx_end (by kernel_rfl) ?_
    refine sx_next ?_
    refine sx_cond_t (by kernel_rfl) ?_
    refine sx_seq ?_
    refine sx_region ?_
    refine sx_run 4 [(2, .p 2 0),(3, .p 3 0),(4, .v (.int .i64 0)),(21, .v (.agg #[.bool s0, .slice A0 l0 c0])),(23, .v (.agg #[.bool s1, .slice A1 l1 c1]))] [(3,70,[.v (.bool s1), .v (.slice A1 l1 c1), .v (.bool t1), .v (.slice B1 m1 d1)]),(2,70,[.v (.bool s0), .v (.slice A0 l0 c0), .v (.bool t0), .v (.slice B0 m0 d0)])] (by kernel_rfl) (by kernel_rfl) ?_
    refine sx_call 135 [.agg #[.bool s0, .slice A0 l0 c0], .agg #[.bool s1, .slice A1 l1 c1]] 24 (fun _ : Unit => .int .i64 (p - q).num.sign) _ (by kernel_rfl) (by kernel_rfl) (fun w hE hΦ => (Compare_any _ _ ((p).num) ((q).num) _ hΦ.1.1.1.1.num hΦ.1.1.1.2.num (fit S1 (by decide)) (fit S2 (by decide))).mono (fun _ _ h => post_val h (by rw [cmp_signs (p := p) (q := q) (by rw [hs28,hs29]; decide)]))) (fun xx => ?_)
    refine sx_run 1 [(2, .p 2 0),(3, .p 3 0),(4, .v (.int .i64 (p - q).num.sign))] [(3,70,[.v (.bool s1), .v (.slice A1 l1 c1), .v (.bool t1), .v (.slice B1 m1 d1)]),(2,70,[.v (.bool s0), .v (.slice A0 l0 c0), .v (.bool t0), .v (.slice B0 m0 d0)])] (by kernel_rfl) (by kernel_rfl) ?_
    refine sx_end (by kernel_rfl) ?_
    refine sx_next ?_
    refine sx_ret ?_
    refine sx_then_ret ?_
    refine sx_done (v := .int .i64 (p - q).num.sign) (by kernel_rfl) (fun w' hE hΦ => ?_)
    exact ⟨rfl,hE⟩
  ·refine st_call 134 [.agg #[.bool s0, .slice A0 l0 c0, .bool t0, .slice B0 m0 d0]] 15 (fun _ : Unit => .int .i64 0) _ (by kernel_rfl) (by kernel_rfl) (by kernel_rfl) (fun w hE hΦ => (QSign_any _ _ _ hΦ.1.1).mono (fun _ _ h => post_val h (by rw [hs28]))) (fun xx => ?_)
   refine st_flt 1 [(2, .p 2 0),(3, .p 3 0),(4, .v (.int .i64 0)),(13, .v (.bool false)),(15, .v (.int .i64 0)),(16, .v (.agg #[.bool s1, .slice A1 l1 c1, .bool t1, .slice B1 m1 d1]))] [(3,70,[.v (.bool s1), .v (.slice A1 l1 c1), .v (.bool t1), .v (.slice B1 m1 d1)]),(2,70,[.v (.bool s0), .v (.slice A0 l0 c0), .v (.bool t0), .v (.slice B0 m0 d0)])] (by kernel_rfl) (by kernel_rfl) ?_
   rcases sign3 (q.num) with ⟨hz34,hs34⟩ | ⟨hz34,hs34⟩ | ⟨hz34,hs34⟩
   ·refine st_call 134 [.agg #[.bool s1, .slice A1 l1 c1, .bool t1, .slice B1 m1 d1]] 17 (fun _ : Unit => .int .i64 (-1)) _ (by kernel_rfl) (by kernel_rfl) (by kernel_rfl) (fun w hE hΦ => (QSign_any _ _ _ hΦ.1.1.2).mono (fun _ _ h => post_val h (by rw [hs34]))) (fun xx => ?_)
    refine st_flt 2 [(2, .p 2 0),(3, .p 3 0),(4, .v (.int .i64 0)),(19, .v (.bool true))] [(3,70,[.v (.bool s1), .v (.slice A1 l1 c1), .v (.bool t1), .v (.slice B1 m1 d1)]),(2,70,[.v (.bool s0), .v (.slice A0 l0 c0), .v (.bool t0), .v (.slice B0 m0 d0)])] (by kernel_rfl) (by kernel_rfl) ?_
    refine st_end (by kernel_rfl) ?_
    refine sx_end (by kernel_rfl) ?_
    refine sx_next ?_
    refine sx_cond_t (by kernel_rfl) ?_
    refine sx_seq ?_
    refine sx_region ?_
    refine sx_run 4 [(2, .p 2 0),(3, .p 3 0),(4, .v (.int .i64 0)),(21, .v (.agg #[.bool s0, .slice A0 l0 c0])),(23, .v (.agg #[.bool s1, .slice A1 l1 c1]))] [(3,70,[.v (.bool s1), .v (.slice A1 l1 c1), .v (.bool t1), .v (.slice B1 m1 d1)]),(2,70,[.v (.bool s0), .v (.slice A0 l0 c0), .v (.bool t0), .v (.slice B0 m0 d0)])] (by kernel_rfl) (by kernel_rfl) ?_
    refine sx_call 135 [.agg #[.bool s0, .slice A0 l0 c0], .agg #[.bool s1, .slice A1 l1 c1]] 24 (fun _ : Unit => .int .i64 (p - q).num.sign) _ (by kernel_rfl) (by kernel_rfl) (fun w hE hΦ => (Compare_any _ _ ((p).num) ((q).num) _ hΦ.1.1.1.1.num hΦ.1.1.1.2.num (fit S1 (by decide)) (fit S2 (by decide))).mono (fun _ _ h => post_val h (by rw [cmp_signs (p := p) (q := q) (by rw [hs28,hs34]; decide)]))) (fun xx => ?_)
    refine sx_run 1 [(2, .p 2 0),(3, .p 3 0),(4, .v (.int .i64 (p - q).num.sign))] [(3,70,[.v (.bool s1), .v (.slice A1 l1 c1), .v (.bool t1), .v (.slice B1 m1 d1)]),(2,70,[.v (.bool s0), .v (.slice A0 l0 c0), .v (.bool t0), .v (.slice B0 m0 d0)])] (by kernel_rfl) (by kernel_rfl) ?_
    refine sx_end (by kernel_rfl) ?_
    refine sx_next ?_
    refine sx_ret ?_
    refine sx_then_ret ?_
    refine sx_done (v := .int .i64 (p - q).num.sign) (by kernel_rfl) (fun w' hE hΦ => ?_)
    exact ⟨rfl,hE⟩
   ·refine st_call 134 [.agg #[.bool s1, .slice A1 l1 c1, .bool t1, .slice B1 m1 d1]] 17 (fun _ : Unit => .int .i64 0) _ (by kernel_rfl) (by kernel_rfl) (by kernel_rfl) (fun w hE hΦ => (QSign_any _ _ _ hΦ.1.1.2).mono (fun _ _ h => post_val h (by rw [hs34]))) (fun xx => ?_)
    refine st_flt 2 [(2, .p 2 0),(3, .p 3 0),(4, .v (.int .i64 0)),(19, .v (.bool false))] [(3,70,[.v (.bool s1), .v (.slice A1 l1 c1), .v (.bool t1), .v (.slice B1 m1 d1)]),(2,70,[.v (.bool s0), .v (.slice A0 l0 c0), .v (.bool t0), .v (.slice B0 m0 d0)])] (by kernel_rfl) (by kernel_rfl) ?_
    refine st_end (by kernel_rfl) ?_
    refine sx_end (by kernel_rfl) ?_
    refine sx_next ?_
    refine sx_cond_f (by kernel_rfl) ?_
    refine sx_skip ?_
    refine sx_next ?_
    refine sx_seq ?_
    refine sx_draw 12 (by kernel_rfl) (by kernel_rfl) follows_mixed' ?_
    refine st_flt 3 [(2, .p 2 0),(3, .p 3 0),(4, .v (.int .i64 0)),(26, .v (.agg #[.bool s0, .slice A0 l0 c0])),(27, .v (.agg #[.bool s1, .slice A1 l1 c1, .bool t1, .slice B1 m1 d1]))] [(3,70,[.v (.bool s1), .v (.slice A1 l1 c1), .v (.bool t1), .v (.slice B1 m1 d1)]),(2,70,[.v (.bool s0), .v (.slice A0 l0 c0), .v (.bool t0), .v (.slice B0 m0 d0)])] (by kernel_rfl) (by kernel_rfl) ?_
    refine st_call 89 [.agg #[.bool s1, .slice A1 l1 c1, .bool t1, .slice B1 m1 d1]] 28 shInt _ (by kernel_rfl) (by kernel_rfl) (by kernel_rfl) (fun w hE hΦ => (Den_any _ (q) _ hΦ.1.1.1.2).mono (fun _ _ h => post_Int h)) (fun xx => ?_)
    obtain ⟨s35,A35,l35,c35⟩ := xx
    refine st_flt 0 [(2, .p 2 0),(3, .p 3 0),(4, .v (.int .i64 0)),(26, .v (.agg #[.bool s0, .slice A0 l0 c0])),(28, .v (.agg #[.bool s35, .slice A35 l35 c35]))] [(3,70,[.v (.bool s1), .v (.slice A1 l1 c1), .v (.bool t1), .v (.slice B1 m1 d1)]),(2,70,[.v (.bool s0), .v (.slice A0 l0 c0), .v (.bool t0), .v (.slice B0 m0 d0)])] (by kernel_rfl) (by kernel_rfl) ?_
    refine st_call 88 [.agg #[.bool s0, .slice A0 l0 c0], .agg #[.bool s35, .slice A35 l35 c35]] 29 shInt _ (by kernel_rfl) (by kernel_rfl) (by kernel_rfl) (fun w hE hΦ => (Mul_any _ _ ((p).num) (((q).den : Int)) _ hΦ.1.1.1.1.1.num hΦ.2 (fit S1 (by decide)) (fit S4 (by decide)) (Or.inl (Nat.lt_of_le_of_lt S1 (by decide)))).mono (fun _ _ h => post_Int h)) (fun xx => ?_)
    obtain ⟨s36,A36,l36,c36⟩ := xx
    refine st_flt 3 [(4, .v (.int .i64 0)),(29, .v (.agg #[.bool s36, .slice A36 l36 c36])),(31, .v (.agg #[.bool s1, .slice A1 l1 c1])),(32, .v (.agg #[.bool s0, .slice A0 l0 c0, .bool t0, .slice B0 m0 d0]))] [(3,70,[.v (.bool s1), .v (.slice A1 l1 c1), .v (.bool t1), .v (.slice B1 m1 d1)]),(2,70,[.v (.bool s0), .v (.slice A0 l0 c0), .v (.bool t0), .v (.slice B0 m0 d0)])] (by kernel_rfl) (by kernel_rfl) ?_
    refine st_call 89 [.agg #[.bool s0, .slice A0 l0 c0, .bool t0, .slice B0 m0 d0]] 33 shInt _ (by kernel_rfl) (by kernel_rfl) (by kernel_rfl) (fun w hE hΦ => (Den_any _ (p) _ hΦ.1.1.1.1.1.1).mono (fun _ _ h => post_Int h)) (fun xx => ?_)
    obtain ⟨s37,A37,l37,c37⟩ := xx
    refine st_flt 0 [(4, .v (.int .i64 0)),(29, .v (.agg #[.bool s36, .slice A36 l36 c36])),(31, .v (.agg #[.bool s1, .slice A1 l1 c1])),(33, .v (.agg #[.bool s37, .slice A37 l37 c37]))] [(3,70,[.v (.bool s1), .v (.slice A1 l1 c1), .v (.bool t1), .v (.slice B1 m1 d1)]),(2,70,[.v (.bool s0), .v (.slice A0 l0 c0), .v (.bool t0), .v (.slice B0 m0 d0)])] (by kernel_rfl) (by kernel_rfl) ?_
    refine st_call 88 [.agg #[.bool s1, .slice A1 l1 c1], .agg #[.bool s37, .slice A37 l37 c37]] 34 shInt _ (by kernel_rfl) (by kernel_rfl) (by kernel_rfl) (fun w hE hΦ => (Mul_any _ _ ((q).num) (((p).den : Int)) _ hΦ.1.1.1.1.1.1.2.num hΦ.2 (fit S2 (by decide)) (fit S3 (by decide)) (Or.inl (Nat.lt_of_le_of_lt S2 (by decide)))).mono (fun _ _ h => post_Int h)) (fun xx => ?_)
    obtain ⟨s38,A38,l38,c38⟩ := xx
    refine st_flt 0 [(4, .v (.int .i64 0)),(29, .v (.agg #[.bool s36, .slice A36 l36 c36])),(34, .v (.agg #[.bool s38, .slice A38 l38 c38]))] [(3,70,[.v (.bool s1), .v (.slice A1 l1 c1), .v (.bool t1), .v (.slice B1 m1 d1)]),(2,70,[.v (.bool s0), .v (.slice A0 l0 c0), .v (.bool t0), .v (.slice B0 m0 d0)])] (by kernel_rfl) (by kernel_rfl) ?_
    refine st_call 135 [.agg #[.bool s36, .slice A36 l36 c36], .agg #[.bool s38, .slice A38 l38 c38]] 35 (fun _ : Unit => .int .i64 (p - q).num.sign) _ (by kernel_rfl) (by kernel_rfl) (by kernel_rfl) (fun w hE hΦ => (Compare_any _ _ (((p).num) * (((q).den : Int))) (((q).num) * (((p).den : Int))) _ hΦ.1.1.2 hΦ.2 (fit (wlm S1 S4) (by decide)) (fit (wlm S2 S3) (by decide))).mono (fun _ _ h => post_val h (by rw [cmp_cross]))) (fun xx => ?_)
    refine st_flt 1 [(4, .v (.int .i64 (p - q).num.sign))] [(3,70,[.v (.bool s1), .v (.slice A1 l1 c1), .v (.bool t1), .v (.slice B1 m1 d1)]),(2,70,[.v (.bool s0), .v (.slice A0 l0 c0), .v (.bool t0), .v (.slice B0 m0 d0)])] (by kernel_rfl) (by kernel_rfl) ?_
    refine st_end (by kernel_rfl) ?_
    refine sx_end (by kernel_rfl) ?_
    refine sx_next ?_
    refine sx_ret ?_
    refine sx_done (v := .int .i64 (p - q).num.sign) (by kernel_rfl) (fun w' hE hΦ => ?_)
    exact ⟨rfl,hE⟩
   ·refine st_call 134 [.agg #[.bool s1, .slice A1 l1 c1, .bool t1, .slice B1 m1 d1]] 17 (fun _ : Unit => .int .i64 1) _ (by kernel_rfl) (by kernel_rfl) (by kernel_rfl) (fun w hE hΦ => (QSign_any _ _ _ hΦ.1.1.2).mono (fun _ _ h => post_val h (by rw [hs34]))) (fun xx => ?_)
    refine st_flt 2 [(2, .p 2 0),(3, .p 3 0),(4, .v (.int .i64 0)),(19, .v (.bool true))] [(3,70,[.v (.bool s1), .v (.slice A1 l1 c1), .v (.bool t1), .v (.slice B1 m1 d1)]),(2,70,[.v (.bool s0), .v (.slice A0 l0 c0), .v (.bool t0), .v (.slice B0 m0 d0)])] (by kernel_rfl) (by kernel_rfl) ?_
    refine st_end (by kernel_rfl) ?_
    refine sx_end (by kernel_rfl) ?_
    refine sx_next ?_
    refine sx_cond_t (by kernel_rfl) ?_
    refine sx_seq ?_
    refine sx_region ?_
    refine sx_run 4 [(2, .p 2 0),(3, .p 3 0),(4, .v (.int .i64 0)),(21, .v (.agg #[.bool s0, .slice A0 l0 c0])),(23, .v (.agg #[.bool s1, .slice A1 l1 c1]))] [(3,70,[.v (.bool s1), .v (.slice A1 l1 c1), .v (.bool t1), .v (.slice B1 m1 d1)]),(2,70,[.v (.bool s0), .v (.slice A0 l0 c0), .v (.bool t0), .v (.slice B0 m0 d0)])] (by kernel_rfl) (by kernel_rfl) ?_
    refine sx_call 135 [.agg #[.bool s0, .slice A0 l0 c0], .agg #[.bool s1, .slice A1 l1 c1]] 24 (fun _ : Unit => .int .i64 (p - q).num.sign) _ (by kernel_rfl) (by kernel_rfl) (fun w hE hΦ => (Compare_any _ _ ((p).num) ((q).num) _ hΦ.1.1.1.1.num hΦ.1.1.1.2.num (fit S1 (by decide)) (fit S2 (by decide))).mono (fun _ _ h => post_val h (by rw [cmp_signs (p := p) (q := q) (by rw [hs28,hs34]; decide)]))) (fun xx => ?_)
    refine sx_run 1 [(2, .p 2 0),(3, .p 3 0),(4, .v (.int .i64 (p - q).num.sign))] [(3,70,[.v (.bool s1), .v (.slice A1 l1 c1), .v (.bool t1), .v (.slice B1 m1 d1)]),(2,70,[.v (.bool s0), .v (.slice A0 l0 c0), .v (.bool t0), .v (.slice B0 m0 d0)])] (by kernel_rfl) (by kernel_rfl) ?_
    refine sx_end (by kernel_rfl) ?_
    refine sx_next ?_
    refine sx_ret ?_
    refine sx_then_ret ?_
    refine sx_done (v := .int .i64 (p - q).num.sign) (by kernel_rfl) (fun w' hE hΦ => ?_)
    exact ⟨rfl,hE⟩
  ·refine st_call 134 [.agg #[.bool s0, .slice A0 l0 c0, .bool t0, .slice B0 m0 d0]] 15 (fun _ : Unit => .int .i64 1) _ (by kernel_rfl) (by kernel_rfl) (by kernel_rfl) (fun w hE hΦ => (QSign_any _ _ _ hΦ.1.1).mono (fun _ _ h => post_val h (by rw [hs28]))) (fun xx => ?_)
   refine st_flt 1 [(2, .p 2 0),(3, .p 3 0),(4, .v (.int .i64 0)),(13, .v (.bool false)),(15, .v (.int .i64 1)),(16, .v (.agg #[.bool s1, .slice A1 l1 c1, .bool t1, .slice B1 m1 d1]))] [(3,70,[.v (.bool s1), .v (.slice A1 l1 c1), .v (.bool t1), .v (.slice B1 m1 d1)]),(2,70,[.v (.bool s0), .v (.slice A0 l0 c0), .v (.bool t0), .v (.slice B0 m0 d0)])] (by kernel_rfl) (by kernel_rfl) ?_
   rcases sign3 (q.num) with ⟨hz39,hs39⟩ | ⟨hz39,hs39⟩ | ⟨hz39,hs39⟩
   ·refine st_call 134 [.agg #[.bool s1, .slice A1 l1 c1, .bool t1, .slice B1 m1 d1]] 17 (fun _ : Unit => .int .i64 (-1)) _ (by kernel_rfl) (by kernel_rfl) (by kernel_rfl) (fun w hE hΦ => (QSign_any _ _ _ hΦ.1.1.2).mono (fun _ _ h => post_val h (by rw [hs39]))) (fun xx => ?_)
    refine st_flt 2 [(2, .p 2 0),(3, .p 3 0),(4, .v (.int .i64 0)),(19, .v (.bool true))] [(3,70,[.v (.bool s1), .v (.slice A1 l1 c1), .v (.bool t1), .v (.slice B1 m1 d1)]),(2,70,[.v (.bool s0), .v (.slice A0 l0 c0), .v (.bool t0), .v (.slice B0 m0 d0)])] (by kernel_rfl) (by kernel_rfl) ?_
    refine st_end (by kernel_rfl) ?_
    refine sx_end (by kernel_rfl) ?_
    refine sx_next ?_
    refine sx_cond_t (by kernel_rfl) ?_
    refine sx_seq ?_
    refine sx_region ?_
    refine sx_run 4 [(2, .p 2 0),(3, .p 3 0),(4, .v (.int .i64 0)),(21, .v (.agg #[.bool s0, .slice A0 l0 c0])),(23, .v (.agg #[.bool s1, .slice A1 l1 c1]))] [(3,70,[.v (.bool s1), .v (.slice A1 l1 c1), .v (.bool t1), .v (.slice B1 m1 d1)]),(2,70,[.v (.bool s0), .v (.slice A0 l0 c0), .v (.bool t0), .v (.slice B0 m0 d0)])] (by kernel_rfl) (by kernel_rfl) ?_
    refine sx_call 135 [.agg #[.bool s0, .slice A0 l0 c0], .agg #[.bool s1, .slice A1 l1 c1]] 24 (fun _ : Unit => .int .i64 (p - q).num.sign) _ (by kernel_rfl) (by kernel_rfl) (fun w hE hΦ => (Compare_any _ _ ((p).num) ((q).num) _ hΦ.1.1.1.1.num hΦ.1.1.1.2.num (fit S1 (by decide)) (fit S2 (by decide))).mono (fun _ _ h => post_val h (by rw [cmp_signs (p := p) (q := q) (by rw [hs28,hs39]; decide)]))) (fun xx => ?_)
    refine sx_run 1 [(2, .p 2 0),(3, .p 3 0),(4, .v (.int .i64 (p - q).num.sign))] [(3,70,[.v (.bool s1), .v (.slice A1 l1 c1), .v (.bool t1), .v (.slice B1 m1 d1)]),(2,70,[.v (.bool s0), .v (.slice A0 l0 c0), .v (.bool t0), .v (.slice B0 m0 d0)])] (by kernel_rfl) (by kernel_rfl) ?_
    refine sx_end (by kernel_rfl) ?_
    refine sx_next ?_
    refine sx_ret ?_
    refine sx_then_ret ?_
    refine sx_done (v := .int .i64 (p - q).num.sign) (by kernel_rfl) (fun w' hE hΦ => ?_)
    exact ⟨rfl,hE⟩
   ·refine st_call 134 [.agg #[.bool s1, .slice A1 l1 c1, .bool t1, .slice B1 m1 d1]] 17 (fun _ : Unit => .int .i64 0) _ (by kernel_rfl) (by kernel_rfl) (by kernel_rfl) (fun w hE hΦ => (QSign_any _ _ _ hΦ.1.1.2).mono (fun _ _ h => post_val h (by rw [hs39]))) (fun xx => ?_)
    refine st_flt 2 [(2, .p 2 0),(3, .p 3 0),(4, .v (.int .i64 0)),(19, .v (.bool true))] [(3,70,[.v (.bool s1), .v (.slice A1 l1 c1), .v (.bool t1), .v (.slice B1 m1 d1)]),(2,70,[.v (.bool s0), .v (.slice A0 l0 c0), .v (.bool t0), .v (.slice B0 m0 d0)])] (by kernel_rfl) (by kernel_rfl) ?_
    refine st_end (by kernel_rfl) ?_
    refine sx_end (by kernel_rfl) ?_
    refine sx_next ?_
    refine sx_cond_t (by kernel_rfl) ?_
    refine sx_seq ?_
    refine sx_region ?_
    refine sx_run 4 [(2, .p 2 0),(3, .p 3 0),(4, .v (.int .i64 0)),(21, .v (.agg #[.bool s0, .slice A0 l0 c0])),(23, .v (.agg #[.bool s1, .slice A1 l1 c1]))] [(3,70,[.v (.bool s1), .v (.slice A1 l1 c1), .v (.bool t1), .v (.slice B1 m1 d1)]),(2,70,[.v (.bool s0), .v (.slice A0 l0 c0), .v (.bool t0), .v (.slice B0 m0 d0)])] (by kernel_rfl) (by kernel_rfl) ?_
    refine sx_call 135 [.agg #[.bool s0, .slice A0 l0 c0], .agg #[.bool s1, .slice A1 l1 c1]] 24 (fun _ : Unit => .int .i64 (p - q).num.sign) _ (by kernel_rfl) (by kernel_rfl) (fun w hE hΦ => (Compare_any _ _ ((p).num) ((q).num) _ hΦ.1.1.1.1.num hΦ.1.1.1.2.num (fit S1 (by decide)) (fit S2 (by decide))).mono (fun _ _ h => post_val h (by rw [cmp_signs (p := p) (q := q) (by rw [hs28,hs39]; decide)]))) (fun xx => ?_)
    refine sx_run 1 [(2, .p 2 0),(3, .p 3 0),(4, .v (.int .i64 (p - q).num.sign))] [(3,70,[.v (.bool s1), .v (.slice A1 l1 c1), .v (.bool t1), .v (.slice B1 m1 d1)]),(2,70,[.v (.bool s0), .v (.slice A0 l0 c0), .v (.bool t0), .v (.slice B0 m0 d0)])] (by kernel_rfl) (by kernel_rfl) ?_
    refine sx_end (by kernel_rfl) ?_
    refine sx_next ?_
    refine sx_ret ?_
    refine sx_then_ret ?_
    refine sx_done (v := .int .i64 (p - q).num.sign) (by kernel_rfl) (fun w' hE hΦ => ?_)
    exact ⟨rfl,hE⟩
   ·refine st_call 134 [.agg #[.bool s1, .slice A1 l1 c1, .bool t1, .slice B1 m1 d1]] 17 (fun _ : Unit => .int .i64 1) _ (by kernel_rfl) (by kernel_rfl) (by kernel_rfl) (fun w hE hΦ => (QSign_any _ _ _ hΦ.1.1.2).mono (fun _ _ h => post_val h (by rw [hs39]))) (fun xx => ?_)
    refine st_flt 2 [(2, .p 2 0),(3, .p 3 0),(4, .v (.int .i64 0)),(19, .v (.bool false))] [(3,70,[.v (.bool s1), .v (.slice A1 l1 c1), .v (.bool t1), .v (.slice B1 m1 d1)]),(2,70,[.v (.bool s0), .v (.slice A0 l0 c0), .v (.bool t0), .v (.slice B0 m0 d0)])] (by kernel_rfl) (by kernel_rfl) ?_
    refine st_end (by kernel_rfl) ?_
    refine sx_end (by kernel_rfl) ?_
    refine sx_next ?_
    refine sx_cond_f (by kernel_rfl) ?_
    refine sx_skip ?_
    refine sx_next ?_
    refine sx_seq ?_
    refine sx_draw 12 (by kernel_rfl) (by kernel_rfl) follows_mixed' ?_
    refine st_flt 3 [(2, .p 2 0),(3, .p 3 0),(4, .v (.int .i64 0)),(26, .v (.agg #[.bool s0, .slice A0 l0 c0])),(27, .v (.agg #[.bool s1, .slice A1 l1 c1, .bool t1, .slice B1 m1 d1]))] [(3,70,[.v (.bool s1), .v (.slice A1 l1 c1), .v (.bool t1), .v (.slice B1 m1 d1)]),(2,70,[.v (.bool s0), .v (.slice A0 l0 c0), .v (.bool t0), .v (.slice B0 m0 d0)])] (by kernel_rfl) (by kernel_rfl) ?_
    refine st_call 89 [.agg #[.bool s1, .slice A1 l1 c1, .bool t1, .slice B1 m1 d1]] 28 shInt _ (by kernel_rfl) (by kernel_rfl) (by kernel_rfl) (fun w hE hΦ => (Den_any _ (q) _ hΦ.1.1.1.2).mono (fun _ _ h => post_Int h)) (fun xx => ?_)
    obtain ⟨s40,A40,l40,c40⟩ := xx
    refine st_flt 0 [(2, .p 2 0),(3, .p 3 0),(4, .v (.int .i64 0)),(26, .v (.agg #[.bool s0, .slice A0 l0 c0])),(28, .v (.agg #[.bool s40, .slice A40 l40 c40]))] [(3,70,[.v (.bool s1), .v (.slice A1 l1 c1), .v (.bool t1), .v (.slice B1 m1 d1)]),(2,70,[.v (.bool s0), .v (.slice A0 l0 c0), .v (.bool t0), .v (.slice B0 m0 d0)])] (by kernel_rfl) (by kernel_rfl) ?_
    refine st_call 88 [.agg #[.bool s0, .slice A0 l0 c0], .agg #[.bool s40, .slice A40 l40 c40]] 29 shInt _ (by kernel_rfl) (by kernel_rfl) (by kernel_rfl) (fun w hE hΦ => (Mul_any _ _ ((p).num) (((q).den : Int)) _ hΦ.1.1.1.1.1.num hΦ.2 (fit S1 (by decide)) (fit S4 (by decide)) (Or.inl (Nat.lt_of_le_of_lt S1 (by decide)))).mono (fun _ _ h => post_Int h)) (fun xx => ?_)
    obtain ⟨s41,A41,l41,c41⟩ := xx
    refine st_flt 3 [(4, .v (.int .i64 0)),(29, .v (.agg #[.bool s41, .slice A41 l41 c41])),(31, .v (.agg #[.bool s1, .slice A1 l1 c1])),(32, .v (.agg #[.bool s0, .slice A0 l0 c0, .bool t0, .slice B0 m0 d0]))] [(3,70,[.v (.bool s1), .v (.slice A1 l1 c1), .v (.bool t1), .v (.slice B1 m1 d1)]),(2,70,[.v (.bool s0), .v (.slice A0 l0 c0), .v (.bool t0), .v (.slice B0 m0 d0)])] (by kernel_rfl) (by kernel_rfl) ?_
    refine st_call 89 [.agg #[.bool s0, .slice A0 l0 c0, .bool t0, .slice B0 m0 d0]] 33 shInt _ (by kernel_rfl) (by kernel_rfl) (by kernel_rfl) (fun w hE hΦ => (Den_any _ (p) _ hΦ.1.1.1.1.1.1).mono (fun _ _ h => post_Int h)) (fun xx => ?_)
    obtain ⟨s42,A42,l42,c42⟩ := xx
    refine st_flt 0 [(4, .v (.int .i64 0)),(29, .v (.agg #[.bool s41, .slice A41 l41 c41])),(31, .v (.agg #[.bool s1, .slice A1 l1 c1])),(33, .v (.agg #[.bool s42, .slice A42 l42 c42]))] [(3,70,[.v (.bool s1), .v (.slice A1 l1 c1), .v (.bool t1), .v (.slice B1 m1 d1)]),(2,70,[.v (.bool s0), .v (.slice A0 l0 c0), .v (.bool t0), .v (.slice B0 m0 d0)])] (by kernel_rfl) (by kernel_rfl) ?_
    refine st_call 88 [.agg #[.bool s1, .slice A1 l1 c1], .agg #[.bool s42, .slice A42 l42 c42]] 34 shInt _ (by kernel_rfl) (by kernel_rfl) (by kernel_rfl) (fun w hE hΦ => (Mul_any _ _ ((q).num) (((p).den : Int)) _ hΦ.1.1.1.1.1.1.2.num hΦ.2 (fit S2 (by decide)) (fit S3 (by decide)) (Or.inl (Nat.lt_of_le_of_lt S2 (by decide)))).mono (fun _ _ h => post_Int h)) (fun xx => ?_)
    obtain ⟨s43,A43,l43,c43⟩ := xx
    refine st_flt 0 [(4, .v (.int .i64 0)),(29, .v (.agg #[.bool s41, .slice A41 l41 c41])),(34, .v (.agg #[.bool s43, .slice A43 l43 c43]))] [(3,70,[.v (.bool s1), .v (.slice A1 l1 c1), .v (.bool t1), .v (.slice B1 m1 d1)]),(2,70,[.v (.bool s0), .v (.slice A0 l0 c0), .v (.bool t0), .v (.slice B0 m0 d0)])] (by kernel_rfl) (by kernel_rfl) ?_
    refine st_call 135 [.agg #[.bool s41, .slice A41 l41 c41], .agg #[.bool s43, .slice A43 l43 c43]] 35 (fun _ : Unit => .int .i64 (p - q).num.sign) _ (by kernel_rfl) (by kernel_rfl) (by kernel_rfl) (fun w hE hΦ => (Compare_any _ _ (((p).num) * (((q).den : Int))) (((q).num) * (((p).den : Int))) _ hΦ.1.1.2 hΦ.2 (fit (wlm S1 S4) (by decide)) (fit (wlm S2 S3) (by decide))).mono (fun _ _ h => post_val h (by rw [cmp_cross]))) (fun xx => ?_)
    refine st_flt 1 [(4, .v (.int .i64 (p - q).num.sign))] [(3,70,[.v (.bool s1), .v (.slice A1 l1 c1), .v (.bool t1), .v (.slice B1 m1 d1)]),(2,70,[.v (.bool s0), .v (.slice A0 l0 c0), .v (.bool t0), .v (.slice B0 m0 d0)])] (by kernel_rfl) (by kernel_rfl) ?_
    refine st_end (by kernel_rfl) ?_
    refine sx_end (by kernel_rfl) ?_
    refine sx_next ?_
    refine sx_ret ?_
    refine sx_done (v := .int .i64 (p - q).num.sign) (by kernel_rfl) (fun w' hE hΦ => ?_)
    exact ⟨rfl,hE⟩
end Go.Proofs.YtibipjlohahekaaGreatDoor

namespace Go.Proofs.YtibipjlohahekaaGreatDoor
open Go.RowKit
theorem dec_wl {l : List UInt8} (hd : l.all isDig = true) (hl : l.length ≤ 570) : wl (decVal l) ≤ 30 := by
 rw [wl_le_iff]
 have h1 := decVal_lt l hd
 obtain ⟨k,hk⟩ : ∃ k,k = 30 := ⟨_,rfl⟩
 have h2 : 10 ^ l.length ≤ 10 ^ (19 * k) := Nat.pow_le_pow_right (by omega) (by omega)
 rw [← hk]
 rw [Nat.pow_mul] at h2
 have h3 : (10 ^ 19) ^ k ≤ W64 ^ k := Nat.pow_le_pow_left (by rw [W64_eq]; decide) k
 exact Nat.lt_of_lt_of_le h1 (Nat.le_trans h2 h3)
theorem ReadOk.of_len {l : List UInt8} (h : l.length ≤ 570) : ReadOk l := by
 refine ⟨h,fun neg num den hs _ => ?_⟩
 obtain ⟨d1,d2,d3⟩ := splitF_digits hs
 have w1 := dec_wl d1 (by omega)
 have w2 := dec_wl d2 (by omega)
 have hn : (sg neg (decVal num)).natAbs = decVal num := by unfold sg; split <;> omega
 exact GcdOk.words (by rw [hn]; omega) (by rw [Int.natAbs_natCast]; omega)
theorem readF_small {l : List UInt8} {q : Rat} (h : readF l = some q) (hl : l.length ≤ 570) : wl q.num.natAbs ≤ 30 ∧ wl q.den ≤ 30 := by
 unfold readF at h
 obtain ⟨⟨neg,num,den,ok⟩,hS⟩ : ∃ x,splitF l = x := ⟨_,rfl⟩
 rw [hS] at h
 cases ok with
 | false => cases h
 | true =>
   obtain ⟨d1,d2,d3⟩ := splitF_digits hS
   have hn : ∀ z,(sg neg z).natAbs = z := fun z => by unfold sg; split <;> omega
   have w1 := dec_wl d1 (by omega)
   have w2 := dec_wl d2 (by omega)
   simp only [] at h
   split at h
   ·injection h with h
    subst h
    refine ⟨?_,?_⟩
    ·show wl (sg neg (decVal num)).natAbs ≤ 30
     rw [hn]; exact w1
    ·show wl 1 ≤ 30
     have : wl 1 ≤ 1 := wl_one.2 W64_one
     omega
   ·split at h
    ·rename_i hne hg
     injection h with h
     subst h
     have h2 := (splitF_den hS).1 hne
     obtain ⟨e1,e2⟩ := mkRat_parts (z := sg neg (decVal num)) h2 (by rw [hn]; exact hg)
     refine ⟨by rw [e1,hn]; exact w1,?_⟩
     have e3 : (mkRat (sg neg (decVal num)) (decVal den)).den = decVal den := by
      unfold denF at e2
      split at e2 <;> omega
     rw [e3]; exact w2
    ·cases h
end Go.Proofs.YtibipjlohahekaaGreatDoor

namespace Go.Proofs.YtibipjlohahekaaGreatDoor
open Go.RowKit
theorem nDigits_le : ∀ (k u : Nat),1 ≤ k → u < 10 ^ k → Lib.nDigits u ≤ k
 | 0,_,h,_ => by omega
 | k + 1,u,_,h => by
   by_cases h0 : u < 10
   ·rw [Lib.nDigits_small h0]; omega
   ·rw [Lib.nDigits_big h0]
    have hk : 1 ≤ k := by
     rcases Nat.eq_zero_or_pos k with e | e
     ·subst e; simp at h; omega
     ·exact e
    have h1 : u / 10 < 10 ^ k := by
     rw [Nat.pow_succ] at h
     exact Nat.div_lt_of_lt_mul (by rw [Nat.mul_comm]; exact h)
    have := nDigits_le k (u / 10) hk h1
    omega
theorem itoa_le {z : Int} {k : Nat} (hk : 1 ≤ k) (h : z.natAbs < 10 ^ k) : (Lib.itoa z).length ≤ k + 1 := by
 have h1 := nDigits_le k z.natAbs hk h
 have e : 0 ≤ z → z.toNat = z.natAbs := fun h => by omega
 unfold Lib.itoa
 split
 ·simp only [List.length_cons,Lib.decDigits_length]
  omega
 ·rename_i hz
  rw [Lib.decDigits_length]
  first
   | omega
   | (rw [e (by omega)]; omega)
theorem pow_wl {n k : Nat} (h : wl n ≤ k) : n < 10 ^ (20 * k) := by
 have h1 : n < W64 ^ k := wl_le_iff.1 h
 have h2 : W64 ^ k ≤ (10 ^ 20) ^ k := Nat.pow_le_pow_left (by rw [W64_eq]; decide) k
 rw [← Nat.pow_mul] at h2
 omega
theorem RString_any (a : Value) (q : Rat) (w : World) (hg : Glob w) (ha : RatIs w a q) (hn : PrtOk q.num.natAbs) (hd : PrtOk q.den) : Calls Tryz.prog 63 #[a] w (RetV w (.string ⟨(ratText q).toArray⟩)) := by
 by_cases h : q.den = 1
 ·have := RString_whole a q w hg ha h hn
  unfold ratText
  rw [if_pos h]; exact this
 ·refine RString_frac a q w hg ha hn hd h ?_
  unfold PrtOk at hn
  have h1 := pow_wl (show wl q.num.natAbs ≤ 128 by omega)
  have h2 := itoa_le (z := q.num) (k := 20 * 128) (by decide) h1
  omega
theorem valF_none {l : List UInt8} (h : readF l = none) : valF l = 0 := by unfold valF; rw [h]; rfl
theorem valF_some {l : List UInt8} {q : Rat} (h : readF l = some q) : valF l = q := by unfold valF; rw [h]; rfl
theorem valF_fits {l : List UInt8} (hl : l.length ≤ 570) : QFits (valF l) 30 := by
 cases h : readF l with
 | none => rw [valF_none h]; exact ⟨by rw [show (0 : Rat).num.natAbs = 0 from rfl,wl_zero]; omega,Nat.le_trans (wl_one.2 (by rw [W64_eq]; decide)) (by decide)⟩
 | some q => rw [valF_some h]; exact readF_small h hl
theorem QFits.up {q : Rat} {k m : Nat} (h : QFits q k) (hk : k ≤ m) : QFits q m := ⟨Nat.le_trans h.1 hk,Nat.le_trans h.2 hk⟩
end Go.Proofs.YtibipjlohahekaaGreatDoor

namespace Go.Proofs.YtibipjlohahekaaGreatDoor
open Go.RowKit
noncomputable def parseF (l : List UInt8) : List UInt8 × Int :=
 let p := unsign l
 let a := p.2.takeWhile isDig
 match p.2.dropWhile isDig with
 | [] => if a = [] then ([],6) else (ratText (Rat.divInt (sg p.1 (decVal a)) 1),0)
 | c :: t =>
   if a = [] ∨ t.takeWhile isDig = [] ∨ t.dropWhile isDig ≠ [] then ([],6)
   else if c = 47 then (if decVal (t.takeWhile isDig) = 0 then ([],5) else (ratText (Rat.divInt (sg p.1 (decVal a)) (decVal (t.takeWhile isDig))),0))
   else if c = 46 then (ratText (Rat.divInt (sg p.1 (decVal (a ++ t.takeWhile isDig))) (10 ^ (t.takeWhile isDig).length : Nat)),0)
   else ([],6)
section
variable {l r a t b : List UInt8} {neg : Bool} {c : UInt8}
theorem parse_nil (h1 : unsign l = (neg,r)) (h2 : r.takeWhile isDig = a) (h3 : r.dropWhile isDig = []) (ha : a = []) : parseF l = ([],6) := by
 unfold parseF; rw [h1]; simp only [h2,h3,if_pos ha]
theorem parse_int (h1 : unsign l = (neg,r)) (h2 : r.takeWhile isDig = a) (h3 : r.dropWhile isDig = []) (ha : a ≠ []) : parseF l = (ratText (Rat.divInt (sg neg (decVal a)) 1),0) := by
 unfold parseF; rw [h1]; simp only [h2,h3,if_neg ha]
theorem parse_bad (h1 : unsign l = (neg,r)) (h2 : r.takeWhile isDig = a) (h3 : r.dropWhile isDig = c :: t) (hb : t.takeWhile isDig = b) (hc : a = [] ∨ b = [] ∨ t.dropWhile isDig ≠ []) : parseF l = ([],6) := by
 unfold parseF; rw [h1]; simp only [h2,h3,hb,if_pos hc]
theorem parse_zero (h1 : unsign l = (neg,r)) (h2 : r.takeWhile isDig = a) (h3 : r.dropWhile isDig = 47 :: t) (hb : t.takeWhile isDig = b) (hc : ¬ (a = [] ∨ b = [] ∨ t.dropWhile isDig ≠ [])) (h0 : decVal b = 0) : parseF l = ([],5) := by
 unfold parseF; rw [h1]; simp only [h2,h3,hb,if_neg hc,if_true,if_pos h0]
theorem parse_frac (h1 : unsign l = (neg,r)) (h2 : r.takeWhile isDig = a) (h3 : r.dropWhile isDig = 47 :: t) (hb : t.takeWhile isDig = b) (hc : ¬ (a = [] ∨ b = [] ∨ t.dropWhile isDig ≠ [])) (h0 : ¬ decVal b = 0) : parseF l = (ratText (Rat.divInt (sg neg (decVal a)) (decVal b)),0) := by
 unfold parseF; rw [h1]; simp only [h2,h3,hb,if_neg hc,if_true,if_neg h0]
theorem parse_point (h1 : unsign l = (neg,r)) (h2 : r.takeWhile isDig = a) (h3 : r.dropWhile isDig = 46 :: t) (hb : t.takeWhile isDig = b) (hc : ¬ (a = [] ∨ b = [] ∨ t.dropWhile isDig ≠ [])) : parseF l = (ratText (Rat.divInt (sg neg (decVal (a ++ b))) (10 ^ b.length : Nat)),0) := by
 unfold parseF; rw [h1]; simp only [h2,h3,hb,if_neg hc]; rfl
theorem parse_other (h1 : unsign l = (neg,r)) (h2 : r.takeWhile isDig = a) (h3 : r.dropWhile isDig = c :: t) (hb : t.takeWhile isDig = b) (h47 : c ≠ 47) (h46 : c ≠ 46) : parseF l = ([],6) := by
 unfold parseF; rw [h1]; simp only [h2,h3,hb]
 split <;> first | rfl | rw [if_neg h47,if_neg h46]
end
/-! ### texts of small numbers -/
theorem itoa_dig {n : Nat} (h : n < 10) : Lib.itoa (n : Int) = [UInt8.ofNat (48 + n)] := by
 unfold Lib.itoa
 rw [if_neg (by omega),Int.toNat_natCast,Lib.decDigits,dif_pos h]
theorem itoa_ndig {n : Nat} (h0 : 0 < n) (h : n < 10) : Lib.itoa (-(n : Int)) = [45,UInt8.ofNat (48 + n)] := by
 rw [itoa_neg (by omega),show (-(n : Int)).natAbs = n by omega,dec_one h]; rfl
theorem rt_whole {q : Rat} {n : Nat} (h : n < 10) (h1 : q.num = (n : Int)) (h2 : q.den = 1) : ratText q = [UInt8.ofNat (48 + n)] := by
 unfold ratText; rw [if_pos h2,h1,itoa_dig h]
theorem rt_nwhole {q : Rat} {n : Nat} (h0 : 0 < n) (h : n < 10) (h1 : q.num = -(n : Int)) (h2 : q.den = 1) : ratText q = [45,UInt8.ofNat (48 + n)] := by
 unfold ratText; rw [if_pos h2,h1,itoa_ndig h0 h]
theorem rt_frac {q : Rat} {n d : Nat} (h : n < 10) (hd : d < 10) (h1 : q.num = (n : Int)) (h2 : q.den = d) (h3 : d ≠ 1) : ratText q = [UInt8.ofNat (48 + n),47,UInt8.ofNat (48 + d)] := by
 unfold ratText; rw [h2,if_neg h3,h1,itoa_dig h,itoa_dig hd]; rfl
theorem rt_nfrac {q : Rat} {n d : Nat} (h0 : 0 < n) (h : n < 10) (hd : d < 10) (h1 : q.num = -(n : Int)) (h2 : q.den = d) (h3 : d ≠ 1) : ratText q = [45,UInt8.ofNat (48 + n),47,UInt8.ofNat (48 + d)] := by
 unfold ratText; rw [h2,if_neg h3,h1,itoa_ndig h0 h,itoa_dig hd]; rfl
theorem valF_of {l : List UInt8} {q : Rat} (h : ratText q = l) : valF l = q := valF_some (read_iff.2 h)
theorem t1 : ratText (mkRat 1 1) = [49] := rt_whole (n := 1) (by decide) (by decide) (by decide)
theorem t3 : ratText (mkRat 3 1) = [51] := rt_whole (n := 3) (by decide) (by decide) (by decide)
theorem tm2 : ratText (mkRat (-2) 1) = [45,50] := rt_nwhole (n := 2) (by decide) (by decide) (by decide) (by decide)
theorem t13 : ratText (mkRat 1 3) = [49,47,51] := rt_frac (n := 1) (d := 3) (by decide) (by decide) (by decide) (by decide) (by decide)
theorem t12 : ratText (mkRat 1 2) = [49,47,50] := rt_frac (n := 1) (d := 2) (by decide) (by decide) (by decide) (by decide) (by decide)
theorem t56 : ratText (mkRat 5 6) = [53,47,54] := rt_frac (n := 5) (d := 6) (by decide) (by decide) (by decide) (by decide) (by decide)
theorem tm23 : ratText (mkRat (-2) 3) = [45,50,47,51] := rt_nfrac (n := 2) (d := 3) (by decide) (by decide) (by decide) (by decide) (by decide) (by decide)
theorem tm32 : ratText (Rat.divInt (-6) 4) = [45,51,47,50] := rt_nfrac (n := 3) (d := 2) (by decide) (by decide) (by decide) (by decide) (by decide) (by decide)
theorem aw_parse : parseF [45,48,54,47,52] = ([45,51,47,50],0) := by
 rw [parse_frac (neg := true) (r := [48,54,47,52]) (a := [48,54]) (t := [52]) (b := [52]) (by decide) (by decide) (by decide) (by decide) (by decide) (by decide)]
 rw [show Rat.divInt (sg true (decVal [48,54])) (decVal [52] : Nat) = Rat.divInt (-6) 4 by decide,tm32]
theorem aw_div : ratText (valF [49] / valF [51]) = [49,47,51] := by
 rw [valF_of t1,valF_of t3,show mkRat 1 1 / mkRat 3 1 = mkRat 1 3 by decide +kernel,t13]
theorem aw_add : ratText (valF [49,47,50] + valF [49,47,51]) = [53,47,54] := by
 rw [valF_of t12,valF_of t13,show mkRat 1 2 + mkRat 1 3 = mkRat 5 6 by decide +kernel,t56]
theorem aw_mul : ratText (valF [45,50,47,51] * valF [51]) = [45,50] := by
 rw [valF_of tm23,valF_of t3,show mkRat (-2) 3 * mkRat 3 1 = mkRat (-2) 1 by decide +kernel,tm2]
theorem aw_cmp : (valF [49,47,51] - valF [49,47,50]).num.sign = -1 := by
 rw [valF_of t12,valF_of t13]; decide +kernel
theorem aw_nz : ¬ (valF [51]).num = 0 := by rw [valF_of t3]; decide
end Go.Proofs.YtibipjlohahekaaGreatDoor

namespace Go.Proofs.YtibipjlohahekaaGreatDoor
open Go.RowKit
section
variable {N : Nat} {S0 : Nat → Prop} {w0 : World} {s s' : St} {Φ Ψ Φ0 : World → Prop} {L : Nat → Nat} {a : Act} {w : World} {P : Program} {ops : Array Oper} {Q : Exit → Act → World → Prop} {o : Oper}
theorem SameL.of {sl : SlL} {bl : BlL} (h : (sl.map (fun q => s.sl q.1),bl.map (fun q => s.bl q.1)) = (sl.map (fun q => some q.2),bl.map (fun q => some q.2))) : SameL s sl bl := h
def Hands (N : Nat) (S0 : Nat → Prop) (w0 : World) (J : Nat → St → (World → Prop) → Prop) (n : Nat) (a : Act) (w : World) : Prop := ∃ n' s' Φ' L',n' < n ∧ J n' s' Φ' ∧ Inv N S0 w0 s' Φ' L' a w
theorem sx_loop {c : Code} (J : Nat → St → (World → Prop) → Prop) (n0 : Nat) (h0 : J n0 s Φ)
 (round : ∀ n s Φ,J n s Φ → SXc P N S0 w0 (Exit.then (Hands N S0 w0 J n) Q) c s Φ) : SXc P N S0 w0 Q (.loop c) s Φ := fun L a w hi => by
 refine wp_loop_ghost (fun n a w => ∃ s Φ L,J n s Φ ∧ Inv N S0 w0 s Φ L a w) n0 ⟨s,Φ,L,h0,hi⟩ ?_
 rintro n a w ⟨s,Φ,L,hJ,hi⟩
 refine wp_mono (round n s Φ hJ L a w hi) ?_
 intro e a' w' hq
 cases e with
 | normal =>
   obtain ⟨n',s',Φ',L',h1,h2,h3⟩ := hq
   exact ⟨n',h1,s',Φ',L',h2,h3⟩
 | exit id => exact hq
 | goto l => exact hq
 | ret => exact hq
 | panic ch => exact hq
 | outgrown => exact hq
theorem sx_round {J : Nat → St → (World → Prop) → Prop} {n : Nat} (n' : Nat) (hlt : n' < n) (h : J n' s Φ) : SXq N S0 w0 (Exit.then (Hands N S0 w0 J n) Q .normal) s Φ := fun _ _ _ hi => ⟨n',s,Φ,_,hlt,h,hi⟩
end
end Go.Proofs.YtibipjlohahekaaGreatDoor

namespace Go.Proofs.YtibipjlohahekaaGreatDoor
open Go.RowKit
theorem str_self (x : ByteArray) : (x.toList == x.toList) = true := by simp
theorem run_bslice {P : Program} {ρ : Operand → Value} {w : World} {t e : TypeId} {n sz : Nat} {z : Value} {parts : Array (Nat × Operand)} {cells : Array Value} (ht : P.underlying t = some (.slice e))
 (hinfo : (P.info? e).map (fun i => (i.zero,i.size)) = some (some z,sz)) (hn : Nat.ble (n * sz) 1000 = true) (hn0 : Nat.beq (n * sz) 0 = false)
 (hf : Instr.fill (fun i => some (i * sz,sz)) ((List.range (n * sz)).map (fun i => z.cells[i % z.cells.size]!)).toArray (parts.toList.map fun q => (q.1,ρ q.2)) = some cells) :
 (Instr.buildSlice t n (parts.map fun q : Nat × Operand => (q.1,ρ q.2))).run P w = .ok (.slice (some ⟨w.heap.size,0,none⟩) n n) (w.alloc (.cells cells e)) := by
 obtain ⟨i,hi,h1⟩ := Option.map_eq_some_iff.1 hinfo
 injection h1 with h1 h2
 have hn' := Nat.le_of_ble_eq_true hn
 have hn1 : ¬ n * sz = 0 := fun h => by rw [h] at hn0; cases hn0
 have hn2 : ¬ 2 ^ 24 < n * sz := by omega
 have e1 : (Array.range (n * sz)).map (fun i => z.cells[i % z.cells.size]!) = ((List.range (n * sz)).map (fun i => z.cells[i % z.cells.size]!)).toArray := by
  apply Array.ext'; simp
 have e2 : (parts.map fun q : Nat × Operand => (q.1,ρ q.2)).toList = parts.toList.map fun q => (q.1,ρ q.2) := by simp
 unfold Instr.buildSlice
 simp [underlying,ht,sizeOf,typeInfo,hi,h2,zeroValue,h1,hn1,hn2,e1,hf,newRow,newObj,Result.andThen]
 rfl
theorem does_bslice {P : Program} {o : Oper} {ρ : Operand → Value} {w : World} {t e : TypeId} {n sz : Nat} {z : Value} {parts : Array (Nat × Operand)} {cells : Array Value} (ho : o.op = Op.buildSlice t n parts) (ht : P.underlying t = some (.slice e))
 (hinfo : (P.info? e).map (fun i => (i.zero,i.size)) = some (some z,sz)) (hn : Nat.ble (n * sz) 1000 = true) (hn0 : Nat.beq (n * sz) 0 = false)
 (hf : Instr.fill (fun i => some (i * sz,sz)) ((List.range (n * sz)).map (fun i => z.cells[i % z.cells.size]!)).toArray (parts.toList.map fun q => (q.1,ρ q.2)) = some cells) :
 Does P o ρ w (DoR (fun b : Nat => .slice (some ⟨b,0,none⟩) n n) (fun b w => Blk e w b cells) w) := by
 have hrun := run_bslice (w := w) ht hinfo hn hn0 hf
 exact Or.inl ⟨_,_,by simp [execOp,ho,hrun,Result.andThen],w.heap.size,rfl,(Fr.refl _ w).alloc _,fun S hS w'' hF => (Blk.new w e cells).fr hF (fun h => by have := (hS _ h).1; omega)⟩
theorem run_strslice {P : Program} {o : Oper} {ρ : Operand → Value} {w : World} {t : TypeId} {x : Operand} {lo hi : Option Operand} {b r : ByteArray} (l h : Nat) (ho : o.op = Op.slice t x lo hi none) (ht : P.underlying t = some .string) (hx : ρ x = .string b)
 (hl : lo.map ρ = none ∧ l = 0 ∨ lo.map ρ = some (.int .i64 l)) (hh : hi.map ρ = none ∧ h = b.size ∨ hi.map ρ = some (.int .i64 h)) (h1 : l ≤ h) (h2 : h ≤ b.size) (hr : b.extract l h = r) : (execOp ρ o).run P w = .ok (.value (.string r)) w := by
 subst hr
 rcases hl with ⟨hl,rfl⟩ | hl <;> rcases hh with ⟨hh,rfl⟩ | hh <;>
  simp [execOp,ho,Instr.sliceAt,Instr.slice,Instr.sliceBounds,Instr.sliceBound,asIntOf,underlying,ht,hx,hl,hh,h1,h2,Result.andThen]
theorem run_stradd {P : Program} {o : Oper} {ρ : Operand → Value} {w : World} {t k : TypeId} {x y : Operand} {a b r : ByteArray} (ho : o.op = Op.binOp .add t x y k) (hx : ρ x = .string a) (hy : ρ y = .string b) (hs : a.size + b.size ≤ 1099511627776) (hr : a ++ b = r) : (execOp ρ o).run P w = .ok (.value (.string r)) w := by
 have h : ¬ ((a.size + b.size : Nat) : Int) > IntKind.i64.max := by
  have : IntKind.i64.max = 9223372036854775807 := by decide
  rw [this]; omega
 simp only [execOp,ho,hx,hy,eqGuard,binOp,Op.stringOp,if_neg h,hr]
 rfl
end Go.Proofs.YtibipjlohahekaaGreatDoor

namespace Go.Proofs.YtibipjlohahekaaGreatDoor
open Go.RowKit
theorem shift_bit (n k : Nat) : n >>> k = 2 * (n >>> (k + 1)) + (n >>> k) % 2 := by
 have : n >>> (k + 1) = (n >>> k) / 2 := by rw [Nat.shiftRight_succ]
 omega
theorem pow_shift {x n k : Nat} : x ^ (n >>> k) = (x ^ (n >>> (k + 1)) * x ^ (n >>> (k + 1))) * x ^ ((n >>> k) % 2) := by
 conv => lhs; rw [shift_bit n k,Nat.pow_add,Nat.two_mul,Nat.pow_add]
theorem pow_step1 {x n m : Nat} (h : (n >>> m) % 2 = 1) : x ^ (n >>> m) = (x ^ (n >>> (m + 1)) * x ^ (n >>> (m + 1))) * x := by
 rw [pow_shift (k := m),h,Nat.pow_one]
theorem pow_step0 {x n m : Nat} (h : ¬ (n >>> m) % 2 = 1) : x ^ (n >>> m) = (x ^ (n >>> (m + 1)) * x ^ (n >>> (m + 1))) := by
 rw [pow_shift (k := m),show (n >>> m) % 2 = 0 by omega,Nat.pow_zero,Nat.mul_one]
theorem wl_pow {x n m : Nat} (h : m ≤ n) (hw : wl (x ^ n) < 40) : wl (x ^ m) < 40 := by
 rcases Nat.eq_zero_or_pos x with rfl | hx
 ·rcases Nat.eq_zero_or_pos m with rfl | hm
  ·exact Nat.lt_of_le_of_lt (wl_one.2 (by rw [W64_eq]; decide)) (by decide)
  ·rw [Nat.zero_pow hm,wl_zero]; decide
 ·exact Nat.lt_of_le_of_lt (wl_mono (Nat.pow_le_pow_right hx h)) hw
theorem shr_le (n m : Nat) : n >>> m ≤ n := by rw [Nat.shiftRight_eq_div_pow]; exact Nat.div_le_self _ _
theorem pw_lt {x n m : Nat} (h40 : wl (x ^ n) < 40) : wl (x ^ (n >>> m)) < 40 := wl_pow (shr_le n m) h40
theorem pw_one {x n m : Nat} (h40 : wl (x ^ n) < 40) : wl (x ^ (n >>> m)) ≤ 4294967296 := Nat.le_trans (Nat.le_of_lt (pw_lt h40)) (by decide)
theorem pw_le {x n m : Nat} (h40 : wl (x ^ n) < 40) : wl (x ^ (n >>> m) * x ^ (n >>> m)) ≤ 4294967296 := by
 have h1 := wl_mul (x ^ (n >>> m)) (x ^ (n >>> m))
 have h2 := pw_lt (m := m) h40
 omega
theorem pw_wrap {k : Nat} (hk : k ≤ 64) : IntKind.i64.wrap ((k : Int) - 1) = (k : Int) - 1 := by rw [IntKind.wrap_i64]; omega
theorem pw_conv {m : Nat} (h : m + 1 ≤ 64) : IntKind.u64.wrap (((m + 1 : Nat) : Int) - 1) = (m : Int) := by rw [IntKind.wrap_u64]; omega
theorem pw_dec {m : Nat} (h : m + 1 ≤ 64) : IntKind.i64.wrap (((m + 1 : Nat) : Int) - 1 - 1) = (m : Int) - 1 := by rw [IntKind.wrap_i64]; omega
theorem pw_bit1 {b : Nat} (h : b = 1) : (((b : Nat) : Int) == 1) = true := by subst h; rfl
theorem pw_bit0 {b : Nat} (h : ¬ b = 1) : (((b : Nat) : Int) == 1) = false := by simp; omega
theorem pow_sg {x : Int} {n : Nat} (h0 : 0 ≤ x) : sg false (x.natAbs ^ n) = x ^ n := by
 obtain ⟨k,rfl⟩ := Int.eq_ofNat_of_zero_le h0
 show ((k ^ n : Nat) : Int) = _
 rw [Int.natCast_pow]
theorem int_pos {w : World} {a : Value} {x : Int} (ha : IntIs w a x) (h0 : 0 ≤ x) : ∃ A l c,a = .agg #[.bool false, .slice A l c] := by
 obtain ⟨s,A,l,c,rfl,hN,hz,h⟩ := ha.open
 cases s with
 | false => exact ⟨A,l,c,rfl⟩
 | true =>
   exfalso
   unfold sg at hz
   simp at hz h
   omega
theorem bitLenAux_spec : ∀ (f x : Nat),x < 2 ^ f → x >>> Lib.bitLenAux f x = 0 ∧ Lib.bitLenAux f x ≤ f
 | 0,x,h => by
   have : x = 0 := by simp at h; omega
   subst this; simp [Lib.bitLenAux]
 | f + 1,x,h => by
   unfold Lib.bitLenAux
   by_cases h0 : x = 0
   ·subst h0; simp
   ·rw [if_neg h0]
    obtain ⟨h1,h2⟩ := bitLenAux_spec f (x / 2) (by rw [Nat.pow_succ] at h; omega)
    refine ⟨?_,by omega⟩
    rw [Nat.shiftRight_add,Nat.shiftRight_succ,Nat.shiftRight_zero]
    exact h1
theorem bitlen_nat {n : Nat} (hn : n < 18446744073709551616) : ∃ k : Nat,Lib.bitLen n = k ∧ k ≤ 64 ∧ n >>> k = 0 := by
 obtain ⟨h1,h2⟩ := bitLenAux_spec 64 n (by omega)
 exact ⟨_,rfl,h2,h1⟩
theorem len_ret {n k : Nat} {w : World} (hk : Lib.bitLen n = k) (hn : n < 18446744073709551616) : Calls Tryz.prog 153 #[.int .u64 (n : Int)] w (RetV w (.int .i64 (k : Int))) := by
 refine (Tryz.bits_Len (n : Int) w (by omega) (by omega)).mono ?_
 rintro e w' ⟨rfl,rfl⟩
 exact ⟨by rw [Int.toNat_natCast,hk],Fr.refl _ _⟩
theorem does_one64 {P : Program} {o : Oper} {ρ : Operand → Value} {w : World} {t : TypeId} (ho : o.op = Op.buildSlice t 1 #[(0, .const (.int .u64 1))]) (ht : P.underlying t = some (.slice 113))
 (hinfo : (P.info? 113).map (fun i => (i.zero,i.size)) = some (some (.int .u64 0),1)) (hc : ρ (.const (.int .u64 1)) = .int .u64 1) : Does P o ρ w (DoR shNat (fun x w => NatIs w (shNat x) 1) w) := by
 have hrun := run_bslice (n := 1) (P := P) (ρ := ρ) (w := w) (z := .int .u64 0) (cells := #[.int .u64 ((1 : Nat) : Int)]) (parts := #[(0, .const (.int .u64 1))]) ht hinfo (by decide) (by decide) (by
  show Instr.fill _ _ [(0,ρ (.const (.int .u64 1)))] = _
  rw [hc]; rfl)
 have hE : Ext w (w.alloc (.cells #[.int .u64 ((1 : Nat) : Int)] 113)) := (Fr.refl _ w).alloc _
 have H : (execOp ρ o).run P w = .ok (.value (.slice (some ⟨w.heap.size,0,none⟩) 1 1)) (w.alloc (.cells #[.int .u64 ((1 : Nat) : Int)] 113)) := by
  revert hrun
  generalize (#[(0,Operand.const (Value.int .u64 1))] : Array (Nat × Operand)) = parts at ho ⊢
  intro hrun
  simp only [execOp,ho,Sem.run_bind,hrun,Result.andThen_ok,Sem.run_pure]
 refine Or.inl ⟨_,_,H,(some ⟨w.heap.size,0,none⟩,1,1),rfl,hE,boxn hE (fun S w'' hS hF => ?_)⟩
 exact (NatIs.one w (x := 1) (by omega) (by rw [W64_eq]; decide)).nrb hS hF
theorem shr_fdiv (a b : Nat) (hb : b < 64) : (a : Int).fdiv (2 ^ (min (b : Int).toNat 64)) = ((a >>> b : Nat) : Int) := by
 rw [Int.toNat_natCast,Nat.min_eq_left (by omega),Int.fdiv_eq_ediv_of_nonneg _ (by exact Int.le_of_lt (Int.pow_pos (by omega))),Nat.shiftRight_eq_div_pow,Int.natCast_ediv,Int.natCast_pow]; rfl
theorem and_one64 (a : Nat) : IntKind.u64.wrap (((BitVec.ofInt 64 (a : Int) &&& BitVec.ofInt 64 1).toNat : Nat) : Int) = ((a % 2 : Nat) : Int) := by
 rw [IntKind.wrap_u64]
 have e : (BitVec.ofInt 64 (a : Int) &&& BitVec.ofInt 64 1).toNat = a % 2 := by
  rw [BitVec.toNat_and,BitVec.ofInt_natCast,BitVec.toNat_ofNat,show (BitVec.ofInt 64 1).toNat = 2 ^ 1 - 1 from rfl,Nat.and_two_pow_sub_one_eq_mod]
  omega
 rw [e]; omega
theorem run_shr64 {P : Program} {o : Oper} {ρ : Operand → Value} {w : World} {t k : TypeId} {x y : Operand} {a b : Nat} (hb : b < 64) (ho : o.op = Op.binOp .shr t x y k) (hx : ρ x = .int .u64 (a : Int)) (hy : ρ y = .int .u64 (b : Int)) : (execOp ρ o).run P w = .ok (.value (.int .u64 ((a >>> b : Nat) : Int))) w := by
 have h := shr_fdiv a b hb
 have hn : ¬ (b : Int) < 0 := by omega
 simp only [execOp,ho,hx,hy,eqGuard,binOp,Op.shift,IntKind.bits,if_neg hn,h]
 rfl
theorem run_and64 {P : Program} {o : Oper} {ρ : Operand → Value} {w : World} {t k : TypeId} {x : Operand} {a : Nat} (ho : o.op = Op.binOp .and t x (.const (.int .u64 1)) k) (hx : ρ x = .int .u64 (a : Int)) (hc : ρ (.const (.int .u64 1)) = .int .u64 1) : (execOp ρ o).run P w = .ok (.value (.int .u64 ((a % 2 : Nat) : Int))) w := by
 have h := and_one64 a
 simp only [execOp,ho,hx,hc,eqGuard,binOp,Op.intBits,IntKind.bits,ne_eq,not_true,if_false]
 refine Eq.trans (b := Result.ok (Next.value (.int .u64 (IntKind.u64.wrap (((BitVec.ofInt 64 (a : Int) &&& BitVec.ofInt 64 1).toNat : Nat) : Int)))) w) rfl ?_
 rw [h]
theorem post_Nat {w w' : World} {e : Ending} {n : Nat} (h : RetNat w n e w') : PostC shNat (fun x w => NatIs w (shNat x) n) w e w' := by
 obtain ⟨v,rfl,h2,hE⟩ := h
 obtain ⟨A,l,c,rfl⟩ := h2.slice
 exact ⟨(A,l,c),rfl,hE,boxn hE (fun S w'' hS hF => h2.nrb hS hF)⟩
theorem IntIs.mag {w : World} {s : Bool} {A : Option Addr} {l c : Nat} {z : Int} (h : IntIs w (.agg #[.bool s, .slice A l c]) z) : NatIs w (.slice A l c) z.natAbs := by
 obtain ⟨s',u,n,e,hN,_,hz⟩ := h
 injection e with e
 have e1 := congrArg Array.toList e
 injection e1 with e2 e3
 injection e3 with e3 _
 subst e3
 have : z.natAbs = n := by rw [hz]; split <;> omega
 rw [this]; exact hN
theorem signed_ret (neg : Bool) (u : Value) (n : Nat) (w : World) (hu : NatIs w u n) : Calls Tryz.prog 113 #[.bool neg,u] w (RetInt w (sg neg n)) := by
 refine (signed_any neg u n w hu).mono ?_
 rintro e w' ⟨s,rfl,hs,hE⟩
 exact ⟨_,rfl,IntIs.signed (hu.ext hE) hs,hE⟩
set_option maxRecDepth 100000 in
theorem powerWords_any (a : Value) (x n : Nat) (w : World) (ha : NatIs w a x) (hn : n < 18446744073709551616) (h40 : wl (x ^ n) < 40) (hx : wl x < 40) :
 Calls Tryz.prog 114 #[a, .int .u64 (n : Int)] w (RetNat w (x ^ n)) := by
 obtain ⟨A0,l0,c0,rfl⟩ := ha.slice
 obtain ⟨k,hk,hk64,hk1⟩ := bitlen_nat hn
 have hk0 : x ^ (n >>> k) = 1 := by rw [hk1,Nat.pow_zero]
 refine sx_enter (Φ := fun w => NatIs w (.slice A0 l0 c0) (x)) Tryz.func114 rfl (by kernel_rfl) (fun w' hf => ha.ext hf) ?_
 refine sx_seq ?_
 refine sx_region ?_
 refine sx_run 1 [(0, .v (.slice A0 l0 c0)),(1, .v (.int .u64 (n : Int))),(4, .v (.slice none 0 0))] [] (by kernel_rfl) (by kernel_rfl) ?_
 refine sx_end (by kernel_rfl) ?_
 refine sx_next ?_
 refine sx_seq ?_
 refine sx_region ?_
 refine sx_does (d := 7) shNat (fun x w => NatIs w (shNat x) 1) (by kernel_rfl) (by kernel_rfl) (by kernel_rfl) (by kernel_rfl) (by kernel_rfl) (by kernel_rfl) (fun w hE hΦ => does_one64 (t := 61) (by kernel_rfl) (by kernel_rfl) (by kernel_rfl) (by kernel_rfl)) (fun xx => ?_)
 obtain ⟨A10,l10,c10⟩ := xx
 refine sx_run 1 [(0, .v (.slice A0 l0 c0)),(1, .v (.int .u64 (n : Int))),(4, .v (.slice none 0 0)),(5, .v (.slice A10 l10 c10))] [] (by kernel_rfl) (by kernel_rfl) ?_
 refine sx_end (by kernel_rfl) ?_
 refine sx_next ?_
 refine sx_seq ?_
 refine sx_seq ?_
 refine sx_region ?_
 refine sx_run 1 [(0, .v (.slice A0 l0 c0)),(1, .v (.int .u64 (n : Int))),(4, .v (.slice none 0 0)),(5, .v (.slice A10 l10 c10)),(8, .v (.int .u64 (n : Int)))] [] (by kernel_rfl) (by kernel_rfl) ?_
 refine sx_call 153 [.int .u64 (n : Int)] 9 (fun _ : Unit => .int .i64 (k : Int)) _ (by kernel_rfl) (by kernel_rfl) (fun w hE hΦ => (len_ret hk hn).mono (fun _ _ h => post_val h rfl)) (fun xx => ?_)
 refine sx_run 1 [(0, .v (.slice A0 l0 c0)),(1, .v (.int .u64 (n : Int))),(4, .v (.slice none 0 0)),(5, .v (.slice A10 l10 c10)),(10, .v (.int .i64 (IntKind.i64.wrap ((k : Int) - 1))))] [] (by kernel_rfl) (by kernel_rfl) ?_
 rw [pw_wrap hk64]
 refine sx_run 1 [(0, .v (.slice A0 l0 c0)),(1, .v (.int .u64 (n : Int))),(4, .v (.slice none 0 0)),(5, .v (.slice A10 l10 c10)),(6, .v (.int .i64 ((k : Int) - 1)))] [] (by kernel_rfl) (by kernel_rfl) ?_
 refine sx_end (by kernel_rfl) ?_
 refine sx_next ?_
 refine sx_block ?_
 refine SXc.weak [(0, .v (.slice A0 l0 c0)),(1, .v (.int .u64 (n : Int))),(5, .v (.slice A10 l10 c10)),(6, .v (.int .i64 (((k : Nat) : Int) - 1)))] [] (Ψ := fun w => (NatIs w (.slice A0 l0 c0) (x) ∧ NatIs w (.slice A10 l10 c10) (x ^ (n >>> k)))) (SameL.of (by kernel_rfl)) (by kernel_rfl) (fun w hΦ => ⟨hΦ.1.1,(by have h := hΦ.1.2; rw [← hk0] at h; exact h)⟩) ?_
 refine sx_loop (fun nn ss ff => ∃ (gA : Option Addr) (gl gc j : Nat),ss = ofL [(0, .v (.slice A0 l0 c0)),(1, .v (.int .u64 (n : Int))),(5, .v (.slice gA gl gc)),(6, .v (.int .i64 (((j : Nat) : Int) - 1)))] [] ∧ ff = (fun w => (NatIs w (.slice A0 l0 c0) (x) ∧ NatIs w (.slice gA gl gc) (x ^ (n >>> j)))) ∧ (j ≤ 64) ∧ nn = (1 + j)) ((1 + k)) ⟨A10,l10,c10,k,rfl,rfl,hk64,rfl⟩ ?_
 rintro nn ss ff ⟨gA,gl,gc,j,rfl,rfl,hj,rfl⟩
 refine sx_seq ?_
 refine sx_seq ?_
 refine sx_region ?_
 refine sx_run 2 [(0, .v (.slice A0 l0 c0)),(1, .v (.int .u64 (n : Int))),(5, .v (.slice gA gl gc)),(6, .v (.int .i64 (((j : Nat) : Int) - 1))),(12, .v (.bool (decide ((((j : Nat) : Int) - 1) ≥ 0))))] [] (by kernel_rfl) (by kernel_rfl) ?_
 refine sx_end (by kernel_rfl) ?_
 refine sx_next ?_
 refine sx_cond ((decide ((((j : Nat) : Int) - 1) ≥ 0))) (by kernel_rfl) (fun hb11 => ?_) (fun hb11 => ?_)
 ·obtain ⟨m,rfl⟩ : ∃ m,j = m + 1 := ⟨j - 1,by have := of_decide_eq_true hb11; omega⟩
  refine sx_skip ?_
  refine sx_next ?_
  refine sx_seq ?_
  refine sx_block ?_
  refine sx_seq ?_
  refine sx_region ?_
  refine sx_run 2 [(0, .v (.slice A0 l0 c0)),(1, .v (.int .u64 (n : Int))),(5, .v (.slice gA gl gc)),(6, .v (.int .i64 ((((m + 1) : Nat) : Int) - 1))),(15, .v (.slice gA gl gc)),(16, .v (.slice gA gl gc))] [] (by kernel_rfl) (by kernel_rfl) ?_
  refine sx_call 136 [.slice gA gl gc, .slice gA gl gc] 17 shNat _ (by kernel_rfl) (by kernel_rfl) (fun w hE hΦ => (multiplyWords_any _ _ (x ^ (n >>> (m + 1))) (x ^ (n >>> (m + 1))) _ hΦ.2 hΦ.2 (pw_one h40) (pw_one h40) (Or.inl (pw_lt h40))).mono (fun _ _ h => post_Nat h)) (fun xx => ?_)
  obtain ⟨A12,l12,c12⟩ := xx
  refine sx_run 1 [(0, .v (.slice A0 l0 c0)),(1, .v (.int .u64 (n : Int))),(5, .v (.slice A12 l12 c12)),(6, .v (.int .i64 ((((m + 1) : Nat) : Int) - 1)))] [] (by kernel_rfl) (by kernel_rfl) ?_
  refine sx_end (by kernel_rfl) ?_
  refine sx_next ?_
  refine sx_seq ?_
  by_cases hb : (n >>> m) % 2 = 1
  ·refine sx_region ?_
   refine sx_run 3 [(0, .v (.slice A0 l0 c0)),(1, .v (.int .u64 (n : Int))),(5, .v (.slice A12 l12 c12)),(6, .v (.int .i64 ((((m + 1) : Nat) : Int) - 1))),(18, .v (.int .u64 (n : Int))),(20, .v (.int .u64 (IntKind.u64.wrap (((((m + 1) : Nat) : Int) - 1)))))] [] (by kernel_rfl) (by kernel_rfl) ?_
   rw [pw_conv hj]
   refine sx_look 21 (.int .u64 ((n >>> m : Nat) : Int)) (by kernel_rfl) (by kernel_rfl) (by kernel_rfl) (by kernel_rfl) (by kernel_rfl) (by kernel_rfl) (fun w hE hΦ => run_shr64 (a := n) (b := m) (t := 67) (k := 67) (x := .tmp 18) (y := .tmp 20) (by omega) (by kernel_rfl) (by kernel_rfl) (by kernel_rfl)) ?_
   refine sx_run 0 [(0, .v (.slice A0 l0 c0)),(1, .v (.int .u64 (n : Int))),(5, .v (.slice A12 l12 c12)),(6, .v (.int .i64 ((((m + 1) : Nat) : Int) - 1))),(21, .v (.int .u64 ((n >>> m : Nat) : Int)))] [] (by kernel_rfl) (by kernel_rfl) ?_
   refine sx_look 22 (.int .u64 (((n >>> m) % 2 : Nat) : Int)) (by kernel_rfl) (by kernel_rfl) (by kernel_rfl) (by kernel_rfl) (by kernel_rfl) (by kernel_rfl) (fun w hE hΦ => run_and64 (a := n >>> m) (t := 67) (k := 67) (x := .tmp 21) (by kernel_rfl) (by kernel_rfl) (by kernel_rfl)) ?_
   refine sx_run 1 [(0, .v (.slice A0 l0 c0)),(1, .v (.int .u64 (n : Int))),(5, .v (.slice A12 l12 c12)),(6, .v (.int .i64 ((((m + 1) : Nat) : Int) - 1))),(23, .v (.bool (((((n >>> m) % 2 : Nat) : Int) : Int) == 1)))] [] (by kernel_rfl) (by kernel_rfl) ?_
   rw [pw_bit1 hb]
   refine sx_run 0 [(0, .v (.slice A0 l0 c0)),(1, .v (.int .u64 (n : Int))),(5, .v (.slice A12 l12 c12)),(6, .v (.int .i64 ((((m + 1) : Nat) : Int) - 1))),(23, .v (.bool true))] [] (by kernel_rfl) (by kernel_rfl) ?_
   refine sx_end (by kernel_rfl) ?_
   refine sx_next ?_
   refine sx_cond_t (by kernel_rfl) ?_
   refine sx_region ?_
   refine sx_run 2 [(0, .v (.slice A0 l0 c0)),(1, .v (.int .u64 (n : Int))),(5, .v (.slice A12 l12 c12)),(6, .v (.int .i64 ((((m + 1) : Nat) : Int) - 1))),(24, .v (.slice A12 l12 c12)),(25, .v (.slice A0 l0 c0))] [] (by kernel_rfl) (by kernel_rfl) ?_
   refine sx_call 136 [.slice A12 l12 c12, .slice A0 l0 c0] 26 shNat _ (by kernel_rfl) (by kernel_rfl) (fun w hE hΦ => (multiplyWords_any _ _ ((x ^ (n >>> (m + 1)) * x ^ (n >>> (m + 1)))) (x) _ hΦ.2 hΦ.1.1 (pw_le h40) (Nat.le_trans (Nat.le_of_lt hx) (by decide)) (Or.inr hx)).mono (fun _ _ h => post_Nat h)) (fun xx => ?_)
   obtain ⟨A13,l13,c13⟩ := xx
   refine sx_run 1 [(0, .v (.slice A0 l0 c0)),(1, .v (.int .u64 (n : Int))),(5, .v (.slice A13 l13 c13)),(6, .v (.int .i64 ((((m + 1) : Nat) : Int) - 1)))] [] (by kernel_rfl) (by kernel_rfl) ?_
   refine sx_end (by kernel_rfl) ?_
   refine sx_out ?_
   refine sx_next ?_
   refine sx_region ?_
   refine sx_run 2 [(0, .v (.slice A0 l0 c0)),(1, .v (.int .u64 (n : Int))),(5, .v (.slice A13 l13 c13)),(6, .v (.int .i64 ((((m + 1) : Nat) : Int) - 1))),(14, .v (.int .i64 (IntKind.i64.wrap (((((m + 1) : Nat) : Int) - 1) - 1))))] [] (by kernel_rfl) (by kernel_rfl) ?_
   rw [pw_dec hj]
   refine sx_run 1 [(0, .v (.slice A0 l0 c0)),(1, .v (.int .u64 (n : Int))),(5, .v (.slice A13 l13 c13)),(6, .v (.int .i64 ((m : Int) - 1)))] [] (by kernel_rfl) (by kernel_rfl) ?_
   refine sx_end (by kernel_rfl) ?_
   refine SXq.weak [(0, .v (.slice A0 l0 c0)),(1, .v (.int .u64 (n : Int))),(5, .v (.slice A13 l13 c13)),(6, .v (.int .i64 (((m : Nat) : Int) - 1)))] [] (Ψ := fun w => (NatIs w (.slice A0 l0 c0) (x) ∧ NatIs w (.slice A13 l13 c13) (x ^ (n >>> m)))) (SameL.of (by kernel_rfl)) (by kernel_rfl) (fun w hΦ => ⟨hΦ.1.1.1,(by have h := hΦ.2; rw [← pow_step1 hb] at h; exact h)⟩) ?_
   exact sx_round ((1 + m)) (by omega) ⟨A13,l13,c13,m,rfl,rfl,(by omega),rfl⟩
  ·refine sx_region ?_
   refine sx_run 3 [(0, .v (.slice A0 l0 c0)),(1, .v (.int .u64 (n : Int))),(5, .v (.slice A12 l12 c12)),(6, .v (.int .i64 ((((m + 1) : Nat) : Int) - 1))),(18, .v (.int .u64 (n : Int))),(20, .v (.int .u64 (IntKind.u64.wrap (((((m + 1) : Nat) : Int) - 1)))))] [] (by kernel_rfl) (by kernel_rfl) ?_
   rw [pw_conv hj]
   refine sx_look 21 (.int .u64 ((n >>> m : Nat) : Int)) (by kernel_rfl) (by kernel_rfl) (by kernel_rfl) (by kernel_rfl) (by kernel_rfl) (by kernel_rfl) (fun w hE hΦ => run_shr64 (a := n) (b := m) (t := 67) (k := 67) (x := .tmp 18) (y := .tmp 20) (by omega) (by kernel_rfl) (by kernel_rfl) (by kernel_rfl)) ?_
   refine sx_run 0 [(0, .v (.slice A0 l0 c0)),(1, .v (.int .u64 (n : Int))),(5, .v (.slice A12 l12 c12)),(6, .v (.int .i64 ((((m + 1) : Nat) : Int) - 1))),(21, .v (.int .u64 ((n >>> m : Nat) : Int)))] [] (by kernel_rfl) (by kernel_rfl) ?_
   refine sx_look 22 (.int .u64 (((n >>> m) % 2 : Nat) : Int)) (by kernel_rfl) (by kernel_rfl) (by kernel_rfl) (by kernel_rfl) (by kernel_rfl) (by kernel_rfl) (fun w hE hΦ => run_and64 (a := n >>> m) (t := 67) (k := 67) (x := .tmp 21) (by kernel_rfl) (by kernel_rfl) (by kernel_rfl)) ?_
   refine sx_run 1 [(0, .v (.slice A0 l0 c0)),(1, .v (.int .u64 (n : Int))),(5, .v (.slice A12 l12 c12)),(6, .v (.int .i64 ((((m + 1) : Nat) : Int) - 1))),(23, .v (.bool (((((n >>> m) % 2 : Nat) : Int) : Int) == 1)))] [] (by kernel_rfl) (by kernel_rfl) ?_
   rw [pw_bit0 hb]
   refine sx_run 0 [(0, .v (.slice A0 l0 c0)),(1, .v (.int .u64 (n : Int))),(5, .v (.slice A12 l12 c12)),(6, .v (.int .i64 ((((m + 1) : Nat) : Int) - 1))),(23, .v (.bool false))] [] (by kernel_rfl) (by kernel_rfl) ?_
   refine sx_end (by kernel_rfl) ?_
   refine sx_next ?_
   refine sx_cond_f (by kernel_rfl) ?_
   refine sx_skip ?_
   refine sx_out ?_
   refine sx_next ?_
   refine sx_region ?_
   refine sx_run 2 [(0, .v (.slice A0 l0 c0)),(1, .v (.int .u64 (n : Int))),(5, .v (.slice A12 l12 c12)),(6, .v (.int .i64 ((((m + 1) : Nat) : Int) - 1))),(14, .v (.int .i64 (IntKind.i64.wrap (((((m + 1) : Nat) : Int) - 1) - 1))))] [] (by kernel_rfl) (by kernel_rfl) ?_
   rw [pw_dec hj]
   refine sx_run 1 [(0, .v (.slice A0 l0 c0)),(1, .v (.int .u64 (n : Int))),(5, .v (.slice A12 l12 c12)),(6, .v (.int .i64 ((m : Int) - 1)))] [] (by kernel_rfl) (by kernel_rfl) ?_
   refine sx_end (by kernel_rfl) ?_
   refine SXq.weak [(0, .v (.slice A0 l0 c0)),(1, .v (.int .u64 (n : Int))),(5, .v (.slice A12 l12 c12)),(6, .v (.int .i64 (((m : Nat) : Int) - 1)))] [] (Ψ := fun w => (NatIs w (.slice A0 l0 c0) (x) ∧ NatIs w (.slice A12 l12 c12) (x ^ (n >>> m)))) (SameL.of (by kernel_rfl)) (by kernel_rfl) (fun w hΦ => ⟨hΦ.1.1,(by have h := hΦ.2; rw [← pow_step0 hb] at h; exact h)⟩) ?_
   exact sx_round ((1 + m)) (by omega) ⟨A12,l12,c12,m,rfl,rfl,(by omega),rfl⟩
 ·obtain rfl : j = 0 := by have := of_decide_eq_false hb11; omega
  refine sx_exit ?_
  refine sx_then_exit ?_
  refine sx_then_exit ?_
  refine sx_hit ?_
  refine sx_next ?_
  refine sx_seq ?_
  refine sx_region ?_
  refine sx_run 2 [(4, .v (.slice gA gl gc))] [] (by kernel_rfl) (by kernel_rfl) ?_
  refine sx_end (by kernel_rfl) ?_
  refine sx_next ?_
  refine sx_ret ?_
  refine sx_done (v := .slice gA gl gc) (by kernel_rfl) (fun w' hE hΦ => ?_)
  exact ⟨_,rfl,hΦ.2,hE⟩
set_option maxRecDepth 100000 in
theorem Pow_pos0 (a : Value) (x : Int) (n : Nat) (w : World) (ha : IntIs w a x) (h0 : 0 ≤ x) (hn : n < 18446744073709551616) (h40 : wl (x.natAbs ^ n) < 40) (hx : wl x.natAbs < 40) :
 Calls Tryz.prog 59 #[a, .int .u64 (n : Int)] w (RetInt w (x ^ n)) := by
 obtain ⟨A0,l0,c0,rfl⟩ := int_pos ha h0
 refine sx_enter (Φ := fun w => IntIs w (.agg #[.bool false, .slice A0 l0 c0]) (x)) Tryz.func59 rfl (by kernel_rfl) (fun w' hf => ha.ext hf) ?_
 refine sx_seq ?_
 refine sx_region ?_
 refine sx_run 2 [(1, .v (.int .u64 (n : Int))),(2, .p 2 0),(4, .p 4 0)] [(4,63,[.v (.bool false), .v (.slice none 0 0)]),(2,63,[.v (.bool false), .v (.slice A0 l0 c0)])] (by kernel_rfl) (by kernel_rfl) ?_
 refine sx_end (by kernel_rfl) ?_
 refine sx_next ?_
 refine sx_seq ?_
 refine sx_region ?_
 refine sx_run 10 [(4, .p 4 0),(11, .v (.bool false)),(13, .v (.slice A0 l0 c0)),(14, .v (.int .u64 (n : Int)))] [(4,63,[.v (.bool false), .v (.slice none 0 0)])] (by kernel_rfl) (by kernel_rfl) ?_
 refine sx_call 114 [.slice A0 l0 c0, .int .u64 (n : Int)] 15 shNat _ (by kernel_rfl) (by kernel_rfl) (fun w hE hΦ => (powerWords_any _ x.natAbs n _ hΦ.mag hn h40 hx).mono (fun _ _ h => post_Nat h)) (fun xx => ?_)
 obtain ⟨A10,l10,c10⟩ := xx
 refine sx_run 0 [(4, .p 4 0),(11, .v (.bool false)),(15, .v (.slice A10 l10 c10))] [(4,63,[.v (.bool false), .v (.slice none 0 0)])] (by kernel_rfl) (by kernel_rfl) ?_
 refine sx_call 113 [.bool false, .slice A10 l10 c10] 16 shInt _ (by kernel_rfl) (by kernel_rfl) (fun w hE hΦ => (signed_ret false _ (x.natAbs ^ n) _ hΦ.2).mono (fun _ _ h => post_Int (by rw [show sg false (x.natAbs ^ n) = x ^ n from pow_sg h0] at h; exact h))) (fun xx => ?_)
 obtain ⟨s11,A11,l11,c11⟩ := xx
 refine sx_run 1 [(4, .p 4 0)] [(4,63,[.v (.bool s11), .v (.slice A11 l11 c11)])] (by kernel_rfl) (by kernel_rfl) ?_
 refine sx_end (by kernel_rfl) ?_
 refine sx_next ?_
 refine sx_ret ?_
 refine sx_done (v := .agg #[.bool s11, .slice A11 l11 c11]) (by kernel_rfl) (fun w' hE hΦ => ?_)
 exact ⟨_,rfl,hΦ.2,hE⟩
theorem Pow_pos (a : Value) (x n : Nat) (w : World) (ha : IntIs w a (x : Int)) (h40 : wl (x ^ n) < 40) (hx : wl x < 40) (hn : n < 18446744073709551616) : Calls Tryz.prog 59 #[a, .int .u64 (n : Int)] w (RetInt w ((x ^ n : Nat) : Int)) := by
 have := Pow_pos0 a (x : Int) n w ha (by omega) hn (by rw [Int.natAbs_natCast]; exact h40) (by rw [Int.natAbs_natCast]; exact hx)
 rwa [← Int.natCast_pow] at this
end Go.Proofs.YtibipjlohahekaaGreatDoor

namespace Go.Proofs.YtibipjlohahekaaGreatDoor
open Go.RowKit
theorem str_nil {x : ByteArray} (h : bytes x = []) : (x.toList == (⟨#[]⟩ : ByteArray).toList) = true := by
 rw [Lib.toList_data,Lib.toList_data,show x.data.toList = [] from h]; rfl
theorem str_not {x : ByteArray} (h : ¬ bytes x = []) : (x.toList == (⟨#[]⟩ : ByteArray).toList) = false := by
 rw [Lib.toList_data,Lib.toList_data]
 exact beq_eq_false_iff_ne.2 h
end Go.Proofs.YtibipjlohahekaaGreatDoor

namespace Go.Proofs.YtibipjlohahekaaGreatDoor
open Go.RowKit Go.Sort
theorem zeros48_room {w wb : World} (h : w.alloc (.cells (Array.replicate 48 (.int .u8 0)) 130) = wb) : Room .u8 130 wb w.heap.size 48 (nats []) := by
 subst h
 refine ⟨⟨List.replicate 48 (.int .u8 0),fun v hv => ⟨0,List.eq_of_mem_replicate hv⟩,?_⟩,_,heap_alloc_new w _,by simp⟩
 rw [heap_alloc_new]; rfl
theorem Room.bytes {T : TypeId} {w : World} {b cap : Nat} {l : List UInt8} (h : Room .u8 T w b cap (nats l)) : ∀ j (hj : j < l.length),w.cell? ((⟨b,0,none⟩ : Addr).add j) = some (.int .u8 (l[j].toNat : Int)) := fun j hj => by
 have := h.1.cell (i := j) (by rw [nats_length]; exact hj)
 rw [Lib.add_plain,Nat.zero_add,this]
 simp [nats,hj]
theorem itoa18 {z : Int} (h : -4000000000000000000 ≤ z) (h1 : z ≤ 4000000000000000000) : (Lib.itoa z).length ≤ 20 := by
 have hn : ∀ u : Nat,u ≤ 4000000000000000000 → Lib.nDigits u ≤ 19 := fun u hu => by
  rcases Nat.eq_zero_or_pos u with e | e
  ·subst e; rw [Lib.nDigits_small (by omega)]; omega
  ·have h2 := Lib.lt_pow_nDigits u
   rcases Nat.lt_or_ge 19 (Lib.nDigits u) with hlt | hge
   ·exfalso
    have h3 := Lib.nDigits_unique 19 (10 ^ 19)
    have h4 := (Lib.numDigits_eq u e (by omega))
    have := h4.2
    have h5 := h4.1
    split at h5
    ·rename_i h6
     have h7 : Lib.l10 (Lib.bitLen u) = 19 := by omega
     rw [h7] at h6
     omega
    ·omega
   ·exact hge
 unfold Lib.itoa
 split
 ·simp only [List.length_cons,Lib.decDigits_length]
  have := hn z.natAbs (by omega)
  omega
 ·have e : z.toNat = z.natAbs := by omega
  rw [Lib.decDigits_length]
  have := hn z.natAbs (by omega)
  first | omega | (rw [e]; omega)
set_option maxHeartbeats 4000000 in
set_option maxRecDepth 100000 in
theorem formatShort_core (N n' : Int) (D M G d' : Nat) (w : World) (hg : Glob w) (hM : max N (-N) = (M : Int)) (hN : -4000000000000000000 ≤ N) (hN1 : N ≤ 4000000000000000000) (hD : 2 ≤ D) (hD1 : D ≤ 4000000000000000000) (hG : Nat.gcd M D = G) (hG0 : 1 ≤ G)
 (q1 : N.tdiv (G : Int) = n') (q2 : (D : Int).tdiv (G : Int) = (d' : Int)) (hn : -4000000000000000000 ≤ n') (hn1 : n' ≤ 4000000000000000000) (hd : 1 ≤ d') (hd1 : d' ≤ 4000000000000000000) (t : List UInt8) (ht : t = if d' = 1 then Lib.itoa n' else Lib.itoa n' ++ [47] ++ Lib.itoa (d' : Int)) :
 Calls Tryz.prog 74 #[.int .i64 N, .int .i64 (D : Int)] w (RetV w (.string ⟨t.toArray⟩)) := by
 have h1 : ¬ ((D : Int) < 0) := by omega
 have hMb : M ≤ 4000000000000000000 := by omega
 have h2 : ((D : Int) != 1) = true := by simp; omega
 have g0 : ((G : Int) == 0) = false := by simp; omega
 have g1 : ¬ (G : Int) = 0 := by omega
 have q3 : (D : Int) / (G : Int) = (d' : Int) := by rw [← q2,Int.tdiv_eq_ediv_of_nonneg (by omega)]
 have HF := zh (FormatInt_any n' · · (by omega) (by omega))
 have HG := zh hg
 have HGc := zh (gcd64_any M D · (by omega) (by omega))
 rw [hG] at HGc
 by_cases e1 : d' = 1
 ·have HT2 : Hid (t = Lib.itoa n') := by unfold Hid; rw [ht,if_pos e1]
  generalize Lib.itoa n' = t1 at *
  clear hg hG ht
  go_enter Tryz.func74,Tryz.ntmps74
  go_wp2_with (go_at_call 126; refine (HGc.out _).mono ?_; rintro e w1 ⟨rfl,n,rfl⟩)
  go_region
  go_wp2_with fail
  refine (HF.out _ (HG.out.ext ((Fr.refl _ _).drewN n).drew)).mono ?_
  rintro e w2 ⟨rfl,hF⟩
  have HE : Hid (Ext w w2) := ((Fr.refl _ w).drewN n).drew.trans hF
  clear hF
  go_wp2
  go_ret
  exact ⟨by rw [HT2.out]; rfl,HE.out⟩
 ·have e2 : ((d' : Int) == 1) = false := by simp; omega
  have e3 : ¬ (d' : Int) = 1 := by omega
  have HT2 : Hid (t = Lib.itoa n' ++ [47] ++ Lib.itoa (d' : Int)) := by unfold Hid; rw [ht,if_neg e1]
  have hl1 := itoa18 hn hn1
  have hl2 := itoa18 (z := (d' : Int)) (by omega) (by omega)
  have HA1 := zh (fun b W (hgW : ∀ w',Fr (· = b) W w' → Glob w') hB => AppendInt_room 130 b 48 0 n' [] W rfl hgW (by omega) (by omega) hB (by omega))
  have HA2 := zh (fun b n W l (hnl : l.length = n) (hgW : ∀ w',Fr (· = b) W w' → Glob w') hB (h27 : n ≤ 27) => AppendInt_room 130 b 48 n (d' : Int) l W hnl hgW (by omega) (by omega) hB (by omega))
  simp only [List.nil_append] at HA1
  generalize Lib.itoa n' = t1 at *
  generalize Lib.itoa (d' : Int) = t2 at *
  clear hg hG ht
  go_enter Tryz.func74,Tryz.ntmps74
  go_wp2_with (go_at_call 126; refine (HGc.out _).mono ?_; rintro e w1 ⟨rfl,n,rfl⟩)
  go_region
  have HEr : Hid (Ext w (w.drewN n).drew) := ((Fr.refl _ w).drewN n).drew
  generalize (w.drewN n).drew = wr at *
  have hal : Tryz.prog.arrayLen 130 = 48 := by simp [Program.arrayLen,Tryz.underlying130]
  have hsl : ∀ W,(Instr.sliceAt 130 (.pointer (some ⟨wr.heap.size,0,none⟩)) none (some (.int .i64 0)) none).run Tryz.prog W = .ok (.slice (some ⟨wr.heap.size,0,none⟩) 0 48) W := fun W => by
   rw [run_sliceAt_array_h W 130 ⟨wr.heap.size,0,none⟩ (by simp [Program.arrayLen,Program.elem,Tryz.underlying130]) .i64 0 (by omega) (by rw [hal]; omega)]
   go_simp
  go_wp2_with fail
  generalize hwb : World.alloc wr _ = wb
  have HR := zh (zeros48_room hwb)
  have HEb : Hid (Ext wr wb) := hwb ▸ (Fr.refl _ _).alloc _
  have HL : Hid (w.heap.size ≤ wr.heap.size) := HEr.out.size
  clear hwb hal hsl
  generalize wr.heap.size = g at *
  have HGl : Hid (∀ W,Fr (· = g) wb W → Glob W) := fun W hF => HG.out.ext (((HEr.out.trans HEb.out).mono (fun _ _ h => h.elim)).next hF (fun i hi e => by have := HL.out; omega))
  refine (HA1.out g wb HGl.out HR.out).mono ?_
  rintro e w3 ⟨rfl,hB3,hF3⟩
  have HB3 := zh hB3
  have HF3 := zh hF3
  obtain ⟨k,hk⟩ : ∃ k,t1.length = k := ⟨_,rfl⟩
  rw [hk] at hl1 ⊢
  have HK := zh hk
  clear hB3 hF3 hk
  have HS : Hid (Shows .u8 (w3.alloc (.cells #[.int .u8 47] 5)) (some ⟨w3.heap.size,0,none⟩) (nats [47])) := (Own.new w3 5 .u8 [47] []).shows0
  go_wp2_with (at_builtin; refine Hid.out ?_)
  refine zh ?_
  refine wpList_append_room rfl _ _ _ rfl _ 130 .u8 1 Tryz.underlying28 info8 g 48 k 1 1 (some ⟨w3.heap.size,0,none⟩) rfl rfl (nats t1) (nats [47]) (by rw [nats_length]; exact HK.out) rfl (by simp [nats]) (HB3.out.ext ((Fr.refl _ _).alloc _)) HS.out (by omega) ?_
  intro w4 hB4 hF4
  have HF4 : Hid (Fr (· = g) wb w4) := HF3.out.trans (((Fr.refl _ _).alloc _).trans hF4)
  have HB4 : Hid (Room .u8 130 w4 g 48 (nats (t1 ++ [47]))) := by unfold Hid; rw [nats_append]; exact hB4
  clear hB4 hF4
  go_wp2_with fail
  refine (HA2.out g (k + 1) w4 (t1 ++ [47]) (by rw [List.length_append,HK.out]; rfl) (fun W hF => HGl.out W (HF4.out.trans hF)) HB4.out (by omega)).mono ?_
  rw [← HT2.out]
  rintro e w5 ⟨rfl,hB5,hF5⟩
  have hc := Room.bytes hB5
  have hcv := run_convert_bytes_back (P := Tryz.prog) w5 28 9 5 ⟨g,0,none⟩ 48 t Tryz.underlying28 Tryz.underlying5 Tryz.underlying9 hc
  have HE : Hid (Ext w w5) := ((HEr.out.trans HEb.out)).next (HF4.out.trans hF5) (fun i hi e => by have := HL.out; omega)
  clear hB5 hF5 hc
  go_wp2
  go_ret
  exact ⟨rfl,HE.out⟩
set_option maxHeartbeats 4000000 in
set_option maxRecDepth 100000 in
theorem formatShort_coreN (N n' : Int) (D M G d' : Nat) (w : World) (hg : Glob w) (hM : max N (-N) = (M : Int)) (hN : -4000000000000000000 ≤ N) (hN1 : N ≤ 4000000000000000000) (hD : 2 ≤ D) (hD1 : D ≤ 4000000000000000000) (hG : Nat.gcd M D = G) (hG0 : 1 ≤ G)
 (q1 : N.tdiv (G : Int) = n') (q2 : (D : Int).tdiv (G : Int) = (d' : Int)) (hn : -4000000000000000000 ≤ n') (hn1 : n' ≤ 4000000000000000000) (hd : 1 ≤ d') (hd1 : d' ≤ 4000000000000000000) (t : List UInt8) (ht : t = if d' = 1 then Lib.itoa n' else Lib.itoa n' ++ [47] ++ Lib.itoa (d' : Int)) :
 Calls Tryz.prog 74 #[.int .i64 (-N), .int .i64 (-(D : Int))] w (RetV w (.string ⟨t.toArray⟩)) := by
 have h1 : -(D : Int) < 0 := by omega
 have hMb : M ≤ 4000000000000000000 := by omega
 have h2 : ((D : Int) != 1) = true := by simp; omega
 have g0 : ((G : Int) == 0) = false := by simp; omega
 have g1 : ¬ (G : Int) = 0 := by omega
 have q3 : (D : Int) / (G : Int) = (d' : Int) := by rw [← q2,Int.tdiv_eq_ediv_of_nonneg (by omega)]
 have HF := zh (FormatInt_any n' · · (by omega) (by omega))
 have HG := zh hg
 have HGc := zh (gcd64_any M D · (by omega) (by omega))
 rw [hG] at HGc
 by_cases e1 : d' = 1
 ·have HT2 : Hid (t = Lib.itoa n') := by unfold Hid; rw [ht,if_pos e1]
  generalize Lib.itoa n' = t1 at *
  clear hg hG ht
  go_enter Tryz.func74,Tryz.ntmps74
  go_wp2_with (go_at_call 126; refine (HGc.out _).mono ?_; rintro e w1 ⟨rfl,n,rfl⟩)
  go_region
  go_wp2_with fail
  refine (HF.out _ (HG.out.ext ((Fr.refl _ _).drewN n).drew)).mono ?_
  rintro e w2 ⟨rfl,hF⟩
  have HE : Hid (Ext w w2) := ((Fr.refl _ w).drewN n).drew.trans hF
  clear hF
  go_wp2
  go_ret
  exact ⟨by rw [HT2.out]; rfl,HE.out⟩
 ·have e2 : ((d' : Int) == 1) = false := by simp; omega
  have e3 : ¬ (d' : Int) = 1 := by omega
  have HT2 : Hid (t = Lib.itoa n' ++ [47] ++ Lib.itoa (d' : Int)) := by unfold Hid; rw [ht,if_neg e1]
  have hl1 := itoa18 hn hn1
  have hl2 := itoa18 (z := (d' : Int)) (by omega) (by omega)
  have HA1 := zh (fun b W (hgW : ∀ w',Fr (· = b) W w' → Glob w') hB => AppendInt_room 130 b 48 0 n' [] W rfl hgW (by omega) (by omega) hB (by omega))
  have HA2 := zh (fun b n W l (hnl : l.length = n) (hgW : ∀ w',Fr (· = b) W w' → Glob w') hB (h27 : n ≤ 27) => AppendInt_room 130 b 48 n (d' : Int) l W hnl hgW (by omega) (by omega) hB (by omega))
  simp only [List.nil_append] at HA1
  generalize Lib.itoa n' = t1 at *
  generalize Lib.itoa (d' : Int) = t2 at *
  clear hg hG ht
  go_enter Tryz.func74,Tryz.ntmps74
  go_wp2_with (go_at_call 126; refine (HGc.out _).mono ?_; rintro e w1 ⟨rfl,n,rfl⟩)
  go_region
  have HEr : Hid (Ext w (w.drewN n).drew) := ((Fr.refl _ w).drewN n).drew
  generalize (w.drewN n).drew = wr at *
  have hal : Tryz.prog.arrayLen 130 = 48 := by simp [Program.arrayLen,Tryz.underlying130]
  have hsl : ∀ W,(Instr.sliceAt 130 (.pointer (some ⟨wr.heap.size,0,none⟩)) none (some (.int .i64 0)) none).run Tryz.prog W = .ok (.slice (some ⟨wr.heap.size,0,none⟩) 0 48) W := fun W => by
   rw [run_sliceAt_array_h W 130 ⟨wr.heap.size,0,none⟩ (by simp [Program.arrayLen,Program.elem,Tryz.underlying130]) .i64 0 (by omega) (by rw [hal]; omega)]
   go_simp
  go_wp2_with fail
  generalize hwb : World.alloc wr _ = wb
  have HR := zh (zeros48_room hwb)
  have HEb : Hid (Ext wr wb) := hwb ▸ (Fr.refl _ _).alloc _
  have HL : Hid (w.heap.size ≤ wr.heap.size) := HEr.out.size
  clear hwb hal hsl
  generalize wr.heap.size = g at *
  have HGl : Hid (∀ W,Fr (· = g) wb W → Glob W) := fun W hF => HG.out.ext (((HEr.out.trans HEb.out).mono (fun _ _ h => h.elim)).next hF (fun i hi e => by have := HL.out; omega))
  refine (HA1.out g wb HGl.out HR.out).mono ?_
  rintro e w3 ⟨rfl,hB3,hF3⟩
  have HB3 := zh hB3
  have HF3 := zh hF3
  obtain ⟨k,hk⟩ : ∃ k,t1.length = k := ⟨_,rfl⟩
  rw [hk] at hl1 ⊢
  have HK := zh hk
  clear hB3 hF3 hk
  have HS : Hid (Shows .u8 (w3.alloc (.cells #[.int .u8 47] 5)) (some ⟨w3.heap.size,0,none⟩) (nats [47])) := (Own.new w3 5 .u8 [47] []).shows0
  go_wp2_with (at_builtin; refine Hid.out ?_)
  refine zh ?_
  refine wpList_append_room rfl _ _ _ rfl _ 130 .u8 1 Tryz.underlying28 info8 g 48 k 1 1 (some ⟨w3.heap.size,0,none⟩) rfl rfl (nats t1) (nats [47]) (by rw [nats_length]; exact HK.out) rfl (by simp [nats]) (HB3.out.ext ((Fr.refl _ _).alloc _)) HS.out (by omega) ?_
  intro w4 hB4 hF4
  have HF4 : Hid (Fr (· = g) wb w4) := HF3.out.trans (((Fr.refl _ _).alloc _).trans hF4)
  have HB4 : Hid (Room .u8 130 w4 g 48 (nats (t1 ++ [47]))) := by unfold Hid; rw [nats_append]; exact hB4
  clear hB4 hF4
  go_wp2_with fail
  refine (HA2.out g (k + 1) w4 (t1 ++ [47]) (by rw [List.length_append,HK.out]; rfl) (fun W hF => HGl.out W (HF4.out.trans hF)) HB4.out (by omega)).mono ?_
  rw [← HT2.out]
  rintro e w5 ⟨rfl,hB5,hF5⟩
  have hc := Room.bytes hB5
  have hcv := run_convert_bytes_back (P := Tryz.prog) w5 28 9 5 ⟨g,0,none⟩ 48 t Tryz.underlying28 Tryz.underlying5 Tryz.underlying9 hc
  have HE : Hid (Ext w w5) := ((HEr.out.trans HEb.out)).next (HF4.out.trans hF5) (fun i hi e => by have := HL.out; omega)
  clear hB5 hF5 hc
  go_wp2
  go_ret
  exact ⟨rfl,HE.out⟩
set_option maxHeartbeats 1000000 in
theorem formatShort_oneN (n : Int) (w : World) (hg : Glob w) (h0 : -9223372036854775807 ≤ n) (h1 : n ≤ 9223372036854775807) :
 Calls Tryz.prog 74 #[.int .i64 (-n), .int .i64 (-1)] w (RetV w (.string ⟨(Lib.itoa n).toArray⟩)) := by
 have H := zh (FormatInt_any n w hg (by omega) h1)
 generalize Lib.itoa n = t at *
 clear hg
 go_enter Tryz.func74,Tryz.ntmps74
 go_wp2_with fail
 refine H.out.mono ?_
 rintro e w1 ⟨rfl,hF⟩
 have HF := zh hF
 clear hF
 go_wp2
 go_ret
 exact ⟨rfl,HF.out⟩
theorem mkRat_parts' (N : Int) (D : Nat) (hD : D ≠ 0) : (mkRat N D).num = N.tdiv ((Nat.gcd N.natAbs D : Nat) : Int) ∧ (mkRat N D).den = D / Nat.gcd N.natAbs D := by
 rw [← Rat.normalize_eq_mkRat hD,Rat.normalize_eq]
 exact ⟨(Int.tdiv_eq_ediv_of_dvd (Int.ofNat_dvd_left.2 (Nat.gcd_dvd_left _ _))).symm,rfl⟩
theorem formatShort_parts (N : Int) (D : Nat) (q : Rat) (hN : N.natAbs ≤ 4000000000000000000) (hD : 2 ≤ D) (hD1 : D ≤ 4000000000000000000) (hq : mkRat N D = q) :
 ∃ (n' : Int) (M G d' : Nat),max N (-N) = (M : Int) ∧ Nat.gcd M D = G ∧ 1 ≤ G ∧ N.tdiv (G : Int) = n' ∧ (D : Int).tdiv (G : Int) = (d' : Int) ∧ -4000000000000000000 ≤ n' ∧ n' ≤ 4000000000000000000 ∧ 1 ≤ d' ∧ d' ≤ 4000000000000000000 ∧ ratText q = if d' = 1 then Lib.itoa n' else Lib.itoa n' ++ [47] ++ Lib.itoa (d' : Int) := by
 obtain ⟨e1,e2⟩ := mkRat_parts' N D (by omega)
 have hG : 1 ≤ Nat.gcd N.natAbs D := Nat.gcd_pos_of_pos_right _ (by omega)
 have hd : 1 ≤ D / Nat.gcd N.natAbs D := Nat.div_pos (Nat.le_of_dvd (by omega) (Nat.gcd_dvd_right _ _)) hG
 have hd2 : D / Nat.gcd N.natAbs D ≤ D := Nat.div_le_self _ _
 have hn : (N.tdiv ((Nat.gcd N.natAbs D : Nat) : Int)).natAbs ≤ N.natAbs := by rw [Int.natAbs_tdiv]; exact Nat.div_le_self _ _
 refine ⟨_,N.natAbs,_,D / Nat.gcd N.natAbs D,by omega,rfl,hG,rfl,?_,by omega,by omega,hd,by omega,?_⟩
 ·rw [Int.tdiv_eq_ediv_of_nonneg (by omega)]; rfl
 ·rw [← hq]
  unfold ratText
  rw [e1,e2]
theorem formatShort_any (N D : Int) (q : Rat) (w : World) (hg : Glob w) (hN : N.natAbs ≤ 4000000000000000000) (hD : D.natAbs ≤ 4000000000000000000) (h0 : D ≠ 0) (hq : Rat.divInt N D = q) :
 Calls Tryz.prog 74 #[.int .i64 N, .int .i64 D] w (RetV w (.string ⟨(ratText q).toArray⟩)) := by
 rcases (by omega : 0 < D ∨ D < 0) with hp | hp
 ·obtain ⟨d,rfl⟩ : ∃ d : Nat,D = (d : Int) := ⟨D.natAbs,by omega⟩
  have hm : mkRat N d = q := by rw [← hq]; rfl
  by_cases h1 : d = 1
  ·subst h1
   have e : ratText q = Lib.itoa N := by
    rw [← hm]
    unfold ratText
    have := mkRat_parts' N 1 (by decide)
    simp only [Nat.gcd_one_right] at this
    rw [this.1,this.2]
    simp
   rw [e]
   exact formatShort_one N w hg (by omega) (by omega)
  ·obtain ⟨n',M,G,d',k1,k2,k3,k4,k5,k6,k7,k8,k9,k10⟩ := formatShort_parts N d q hN (by omega) (by omega) hm
   exact formatShort_core N n' d M G d' w hg k1 (by omega) (by omega) (by omega) (by omega) k2 k3 k4 k5 k6 k7 k8 k9 _ k10
 ·obtain ⟨d,rfl⟩ : ∃ d : Nat,D = -(d : Int) := ⟨D.natAbs,by omega⟩
  obtain ⟨m,rfl⟩ : ∃ m : Int,N = -m := ⟨-N,by omega⟩
  have hm : mkRat m d = q := by rw [← hq,Rat.neg_divInt_neg]; rfl
  by_cases h1 : d = 1
  ·subst h1
   have e : ratText q = Lib.itoa m := by
    rw [← hm]
    unfold ratText
    have := mkRat_parts' m 1 (by decide)
    simp only [Nat.gcd_one_right] at this
    rw [this.1,this.2]
    simp
   rw [e]
   exact formatShort_oneN m w hg (by omega) (by omega)
  ·obtain ⟨n',M,G,d',k1,k2,k3,k4,k5,k6,k7,k8,k9,k10⟩ := formatShort_parts m d q (by omega) (by omega) (by omega) hm
   exact formatShort_coreN m n' d M G d' w hg k1 (by omega) (by omega) (by omega) (by omega) k2 k3 k4 k5 k6 k7 k8 k9 _ k10
end Go.Proofs.YtibipjlohahekaaGreatDoor

namespace Go.Proofs.YtibipjlohahekaaGreatDoor
open Go.RowKit
set_option maxHeartbeats 1000000 in
theorem compareInts_any (a b : Int) (w : World) : Calls Tryz.prog 83 #[.int .i64 a, .int .i64 b] w fun e w' => e = .returned (.int .i64 (cmpI a b)) ∧ w = w' := by
 rcases Int.lt_trichotomy a b with h | h | h
 ·have HC : Hid (cmpI a b = -1) := by unfold Hid cmpI; rw [if_pos h]
  go_enter Tryz.func83,Tryz.ntmps83
  go_wp2
  go_ret
  exact ⟨by rw [HC.out]; rfl,rfl⟩
 ·subst h
  have HC : Hid (cmpI a a = 0) := by unfold Hid cmpI; rw [if_neg (by omega),if_neg (by omega)]
  go_enter Tryz.func83,Tryz.ntmps83
  go_wp2
  go_ret
  exact ⟨by rw [HC.out]; rfl,rfl⟩
 ·have HC : Hid (cmpI a b = 1) := by unfold Hid cmpI; rw [if_neg (by omega),if_pos h]
  have h' : ¬ a < b := by omega
  go_enter Tryz.func83,Tryz.ntmps83
  go_wp2
  go_ret
  exact ⟨by rw [HC.out]; rfl,rfl⟩
end Go.Proofs.YtibipjlohahekaaGreatDoor
