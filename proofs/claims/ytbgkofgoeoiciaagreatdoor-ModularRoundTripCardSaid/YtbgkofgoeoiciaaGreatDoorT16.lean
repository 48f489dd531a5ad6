/-
 My texts SxK, Frac, Rec, Reduce, Reduce2, RStr put together.
-/
import Derived.Test.YtbgkofgoeoiciaaGreatDoorT15
import Derived.Test.YtbgkofgoeoiciaaGreatDoorT14
import Derived.Deep.DeepCutAuto
import Derived.Deep.LoopGhost
import Derived.Test.YtbgkofgoeoiciaaGreatDoorT13
import Derived.Test.YtbgkofgoeoiciaaGreatDoorT12
namespace Go.Proofs.YtbgkofgoeoiciaaGreatDoor
open Go.RowKit
section
variable {S:Nat→Prop} {w w' w0:World} {k:IntKind} {A:Option Addr} {xs:List Nat}
theorem Shows.nrb (hk:k≠.i64) (h:Shows k w A xs) (hS:∀ i,S i→NRB w i) (hF:Fr S w w'):Shows k w' A xs:=by
 cases xs with
 | nil=>exact Shows.nil
 | cons x xs =>
   refine h.fr hF (fun ad hA hlt hs=>?_)
   obtain ⟨g,off,e',_,hcl⟩:=h.at (i:=0) (by simp)
   rw [e'] at hA
   injection hA with hA
   subst hA
   obtain ⟨t,cs,hB,hc⟩:=hS _ hs
   rw [hB.cell] at hcl
   exact hk (hc _ _ _ hcl)
theorem NatIs.nrb {u:Value} {n:Nat} (h:NatIs w u n) (hS:∀ i,S i→NRB w i) (hF:Fr S w w'):NatIs w' u n:=by
 obtain ⟨A',xs,c',h1,h2,h3,h4⟩:=h
 exact ⟨A',xs,c',h1,h2,h3.nrb (by decide) hS hF,h4⟩
theorem IntIs.nrb {v:Value} {z:Int} (h:IntIs w v z) (hS:∀ i,S i→NRB w i) (hF:Fr S w w'):IntIs w' v z:=by
 obtain ⟨s',u,n,h1,h2,h3⟩:=h
 exact ⟨s',u,n,h1,h2.nrb hS hF,h3⟩
theorem RatIs.nrb {v:Value} {q:Rat} (h:RatIs w v q) (hS:∀ i,S i→NRB w i) (hF:Fr S w w'):RatIs w' v q:=by
 obtain ⟨s,t,A,B,l,c,l',c',h1,h2,h3⟩:=h
 exact ⟨s,t,A,B,l,c,l',c',h1,h2.nrb hS hF,h3.nrb hS hF⟩
theorem NRB.ext {i:Nat} (h:NRB w i) (he:Ext w w'):NRB w' i:=by
 obtain ⟨t,cs,hB,hc⟩:=h
 exact ⟨t,cs,hB.ext he,hc⟩
theorem boxn {φ:World→Prop} (he:Ext w w') (h:∀ S w'',(∀ i,S i→NRB w' i)→Fr S w' w''→φ w''):BoxN w w' φ:=fun S hS w'' hf=>h S w'' (fun i hi=>(hS i hi).2.ext he) hf
end
abbrev ShI:=Bool × Option Addr × Nat × Nat
abbrev ShQ:=Bool × Option Addr × Nat × Nat × Bool × Option Addr × Nat × Nat
def shInt (x:ShI):Value:=.agg #[.bool x.1, .slice x.2.1 x.2.2.1 x.2.2.2]
def shRat (x:ShQ):Value:=.agg #[.bool x.1, .slice x.2.1 x.2.2.1 x.2.2.2.1, .bool x.2.2.2.2.1, .slice x.2.2.2.2.2.1 x.2.2.2.2.2.2.1 x.2.2.2.2.2.2.2]
section
variable {w w':World} {e:Ending}
theorem post_Int {z:Int} (h:RetInt w z e w'):PostC shInt (fun x w=>IntIs w (shInt x) z) w e w':=by
 obtain ⟨v,rfl,hI,hE⟩:=h
 obtain ⟨s,A,l,c,rfl⟩:=hI.shp
 exact ⟨(s,A,l,c),rfl,hE,boxn hE (fun S w'' hS hF=>hI.nrb hS hF)⟩
theorem post_Rat {q:Rat} (h:RetRat w q e w'):PostC shRat (fun x w=>RatIs w (shRat x) q) w e w':=by
 obtain ⟨v,rfl,hI,hE⟩:=h
 obtain ⟨s,A,l,c,t,B,m,d,rfl⟩:=hI.shp
 exact ⟨(s,A,l,c,t,B,m,d),rfl,hE,boxn hE (fun S w'' hS hF=>hI.nrb hS hF)⟩
def RetInt2 (w:World) (x y:Int) (e:Ending) (w':World):Prop:=∃ u v,e=.returned (.tuple #[u,v])∧IntIs w' u x∧IntIs w' v y∧Ext w w'
def shInt2 (x:ShI × ShI):Value:=.tuple #[shInt x.1,shInt x.2]
theorem post_Int2 {a b:Int} (h:RetInt2 w a b e w'):PostC shInt2 (fun x w=>IntIs w (shInt x.1) a∧IntIs w (shInt x.2) b) w e w':=by
 obtain ⟨u,v,rfl,hI,hJ,hE⟩:=h
 obtain ⟨s,A,l,c,rfl⟩:=hI.shp
 obtain ⟨s',A',l',c',rfl⟩:=hJ.shp
 exact ⟨((s,A,l,c),(s',A',l',c')),rfl,hE,boxn hE (fun S w'' hS hF=>⟨hI.nrb hS hF,hJ.nrb hS hF⟩)⟩
theorem sign3 (x:Int):(x < 0∧x.sign = -1)∨(x=0∧x.sign=0)∨(0 < x∧x.sign=1):=by
 rcases Int.lt_trichotomy x 0 with h | h | h
 ·exact Or.inl ⟨h,Int.sign_eq_neg_one_of_neg h⟩
 ·exact Or.inr (Or.inl ⟨h,by rw [h]; rfl⟩)
 ·exact Or.inr (Or.inr ⟨h,Int.sign_eq_one_of_pos h⟩)
theorem post_val {v u:Value} (h:e=.returned v∧Ext w w') (hv:v=u):PostC (fun _:Unit=>u) (fun _ _=>True) w e w':=by
 obtain ⟨rfl,hE⟩:=h
 subst hv
 exact ⟨(),rfl,hE,BoxN.pure trivial⟩
end
end Go.Proofs.YtbgkofgoeoiciaaGreatDoor

namespace Go.Proofs.YtbgkofgoeoiciaaGreatDoor
open Go.RowKit
set_option maxHeartbeats 2000000 in
set_option maxRecDepth 100000 in
theorem Quo_any (a b:Value) (x y:Int) (w:World) (ha:IntIs w a x) (hb:IntIs w b y) (hx:Fits x) (hy:wl y.natAbs < 80) (h0:y≠0):Calls Tryz.prog 191 #[a,b] w (RetInt w (x.tdiv y)):=by
 obtain ⟨s,A,l,c,rfl⟩:=ha.shape
 obtain ⟨t,B,l',c',rfl⟩:=hb.shape
 have HA:=zh ha
 have HB:=zh hb
 have HX:=zh hx
 have HY:=zh hy
 have H0:=zh h0
 clear ha hb hx hy h0
 go_enter Tryz.func191,Tryz.ntmps191
 go_wp2_with fail
 generalize hwb:World.alloc (World.alloc (World.alloc w _) _) _=wb
 obtain ⟨hB0,hB1,hB2,hE⟩:=three_blocks hwb
 clear hwb
 refine (IsOne_any _ y _ (HB.out.ext hE)).mono ?_
 by_cases h1:y=1
 ·rw [decide_eq_true h1]
  rintro e w1 ⟨rfl,hF⟩
  have HE:=zh (hE.trans hF)
  have HB0:=zh (hB0.ext hF)
  have HB2:=zh (hB2.ext hF)
  have HQ:Hid (x.tdiv y=x):=by unfold Hid; rw [h1]; exact Int.tdiv_one x
  obtain ⟨x0,x1,_,_⟩:=HB0.out.cell2
  obtain ⟨y0,y1,y2,y3⟩:=HB2.out.cell2
  clear hE hF hB0 hB1 hB2 h1
  go_wp2
  refine fin_int2 rfl rfl (by omega) HE.out HB2.out (Fr.refl _ _) ?_
  rw [HQ.out]; exact HA.out.ext HE.out
 ·rw [decide_eq_false h1]
  rintro e w1 ⟨rfl,hF⟩
  have HE:=zh (hE.trans hF)
  have HB0:=zh (hB0.ext hF)
  have HB1:=zh (hB1.ext hF)
  have HB2:=zh (hB2.ext hF)
  obtain ⟨x0,x1,_,_⟩:=HB0.out.cell2
  obtain ⟨z0,z1,_,_⟩:=HB1.out.cell2
  clear hE hF hB0 hB1 hB2 h1
  go_wp2_with fail
  refine (QuoRem_any _ _ x y _ (HA.out.ext HE.out) (HB.out.ext HE.out) HX.out HY.out H0.out).mono ?_
  rintro e w2 ⟨u1,u2,rfl,hN1,hN2,hF1⟩
  obtain ⟨s1,A1,l1,c1,rfl⟩:=hN1.shape
  obtain ⟨s2,A2,l2,c2,rfl⟩:=hN2.shape
  have HN1:=zh hN1
  have HE2:=zh (HE.out.trans hF1)
  have HB2':=zh (HB2.out.ext hF1)
  obtain ⟨y0,y1,y2,y3⟩:=HB2'.out.cell2
  have hlt1:=HB2'.out.lt
  have hlt2:=Nat.lt_succ_of_lt hlt1
  clear hN1 hN2 hF1 x0 x1 z0 z1
  go_wp2
  have hB:=(HB2'.out.set_ 0 (.bool s1)).set_ 1 (.slice A1 l1 c1)
  refine bodyPost_ret (results_int rfl _ _ (w.heap.size + 1 + 1) _ _ rfl ((hB.alloc _).alloc _)) rfl ⟨_,rfl,?_,(((HE2.out.setCell (Or.inr (by simp; omega)) _).setCell (Or.inr (by simp; omega)) _).alloc _).alloc _⟩
  exact (HN1.out.store2 HB2'.out).ext (((Fr.refl _ _).alloc _).alloc _)
theorem gcd_ne {x y:Int} (hy:0 < y):((Int.gcd x y:Nat):Int)≠0:=by
 have:Int.gcd x y≠0:=fun h=>by rw [Int.gcd_eq_zero_iff] at h; omega
 omega
theorem gcd_wl {x y:Int} (hy:0 < y) (h:wl y.natAbs < 80):wl (((Int.gcd x y:Nat):Int)).natAbs < 80:=by
 have h1:Int.gcd x y≤y.natAbs:=Nat.gcd_le_right _ (by omega)
 have:=wl_mono h1
 rw [Int.natAbs_natCast]
 omega
theorem frac_gcd {x y:Int} (hy:0 < y):(Rat.divInt x y).num=x.tdiv (Int.gcd x y:Int)∧((Rat.divInt x y).den:Int)=y.tdiv (Int.gcd x y:Int):=by
 have hd1:(Int.gcd x y:Int) ∣ x:=Int.gcd_dvd_left _ _
 have hd2:(Int.gcd x y:Int) ∣ y:=Int.gcd_dvd_right _ _
 rw [Rat.num_divInt,Rat.den_divInt,if_neg (by omega),Int.sign_eq_one_of_pos hy,Int.one_mul,Int.gcd_comm y x,Int.tdiv_eq_ediv_of_dvd hd1,Int.tdiv_eq_ediv_of_dvd hd2]
 refine ⟨rfl,?_⟩
 rw [Int.natCast_ediv]
 congr 1
 omega
theorem frac_coprime {x y:Int} (hy:0 < y) (h:((Int.gcd x y:Nat):Int)=1):(Rat.divInt x y).num=x∧((Rat.divInt x y).den:Int)=y:=by
 have:=frac_gcd (x:=x) hy
 rwa [h,Int.tdiv_one,Int.tdiv_one] at this
theorem frac_one {x y:Int} (h:y=1):(Rat.divInt x y).num=x∧denF (Rat.divInt x y)=0:=by
 have h1:=frac_coprime (x:=x) (y:=y) (by omega) (by rw [h,Int.gcd_one]; rfl)
 refine ⟨h1.1,denF_zero.2 ?_⟩
 have:=h1.2
 omega
set_option maxRecDepth 100000 in
theorem Fraction_any (a b:Value) (x y:Int) (w:World) (hgl:Glob w) (ha:IntIs w a x) (hb:IntIs w b y) (hfx:Fits x) (hfy:Fits y) (hgk:GcdOk x y) (h80:wl y.natAbs < 80) (hy:y≠0) :
 Calls Tryz.prog 154 #[a,b] w (RetRat w (Rat.divInt x y)):=by
 obtain ⟨s0,A0,l0,c0,rfl⟩:=ha.shape
 obtain ⟨s1,A1,l1,c1,rfl⟩:=hb.shape
 refine sx_enter (Φ:=fun w=>((IntIs w (.agg #[.bool s0, .slice A0 l0 c0]) (x)∧IntIs w (.agg #[.bool s1, .slice A1 l1 c1]) (y))∧Glob w)) Tryz.func154 rfl (by kernel_rfl) (fun w' hf=>⟨⟨ha.ext hf,hb.ext hf⟩,hgl.ext hf⟩) ?_
 refine sx_seq (sx_region (xr 3 [(2, .p 2 0),(3, .p 3 0),(4, .p 4 0)] [bR4 4 116 false none 0 0 false none 0 0,bI2 3 114 s1 A1 l1 c1,bI2 2 114 s0 A0 l0 c0] ?_))
 refine xe (sx_next (sx_seq (sx_seq (sx_region (xr 1 [(2, .p 2 0),(3, .p 3 0),(4, .p 4 0),eI2 6 s1 A1 l1 c1] [bR4 4 116 false none 0 0 false none 0 0,bI2 3 114 s1 A1 l1 c1,bI2 2 114 s0 A0 l0 c0] ?_)))))
 refine xc 189 [vI2 s1 A1 l1 c1] 7 (fun _:Unit=>.bool false) _ (fun w hE hΦ=>(IsZero_any _ (y) _ hΦ.1.2).mono (fun _ _ h=>post_val h (by rw [decide_eq_false (p:=(y)=0) hy]))) (fun xx=>?_)
 refine xr 2 [(2, .p 2 0),(3, .p 3 0),(4, .p 4 0),(8, .v (.bool false)),eI2 9 s0 A0 l0 c0] [bR4 4 116 false none 0 0 false none 0 0,bI2 3 114 s1 A1 l1 c1,bI2 2 114 s0 A0 l0 c0] ?_
 by_cases hz10:(x)=0
 ·refine xc 189 [vI2 s0 A0 l0 c0] 10 (fun _:Unit=>.bool true) _ (fun w hE hΦ=>(IsZero_any _ (x) _ hΦ.1.1.1).mono (fun _ _ h=>post_val h (by rw [decide_eq_true (p:=(x)=0) hz10]))) (fun xx=>?_)
  refine xr 1 [(2, .p 2 0),(3, .p 3 0),(4, .p 4 0),(11, .v (.bool true))] [bR4 4 116 false none 0 0 false none 0 0,bI2 3 114 s1 A1 l1 c1,bI2 2 114 s0 A0 l0 c0] ?_
  refine xe (sx_next (xa (sx_seq (sx_region (xr 2 [(2, .p 2 0),(3, .p 3 0),(4, .p 4 0)] [bR4 4 116 false none 0 0 false none 0 0,bI2 3 114 s1 A1 l1 c1,bI2 2 114 s0 A0 l0 c0] ?_)))))
  refine xe (sx_next (sx_ret (sx_then_ret ?_)))
  refine sx_done (v:=.agg #[.bool false, .slice none 0 0, .bool false, .slice none 0 0]) (by kernel_rfl) (fun w' hE hΦ=>?_)
  exact ⟨_,rfl,by rw [hz10,Rat.zero_divInt]; exact RatIs.nil _,hE⟩
 ·refine xc 189 [vI2 s0 A0 l0 c0] 10 (fun _:Unit=>.bool false) _ (fun w hE hΦ=>(IsZero_any _ (x) _ hΦ.1.1.1).mono (fun _ _ h=>post_val h (by rw [decide_eq_false (p:=(x)=0) hz10]))) (fun xx=>?_)
  refine xr 1 [(2, .p 2 0),(3, .p 3 0),(4, .p 4 0),(11, .v (.bool false))] [bR4 4 116 false none 0 0 false none 0 0,bI2 3 114 s1 A1 l1 c1,bI2 2 114 s0 A0 l0 c0] ?_
  refine xe (sx_next (xb (sx_skip (sx_next (sx_seq (sx_seq (sx_region (xr 1 [(2, .p 2 0),(3, .p 3 0),(4, .p 4 0),eI2 13 s1 A1 l1 c1] [bR4 4 116 false none 0 0 false none 0 0,bI2 3 114 s1 A1 l1 c1,bI2 2 114 s0 A0 l0 c0] ?_))))))))
  by_cases hs:y < 0
  ·have Hq:Rat.divInt (-(x)) (-(y))=Rat.divInt x y:=Rat.neg_divInt_neg _ _
   have HY:0 < -(y):=by omega
   have hfx':Fits (-(x)):=by unfold Fits; rw [Int.natAbs_neg]; exact hfx
   have hfy':Fits (-(y)):=by unfold Fits; rw [Int.natAbs_neg]; exact hfy
   have hgk':GcdOk (-(x)) (-(y)):=by unfold GcdOk; rw [Int.natAbs_neg,Int.natAbs_neg]; exact hgk
   have h80':wl (-(y)).natAbs < 80:=by rw [Int.natAbs_neg]; exact h80
   refine xc 223 [vI2 s1 A1 l1 c1] 14 (fun _:Unit=>.int .i64 (-1)) _ (fun w hE hΦ=>(Sign_any _ (y) _ hΦ.1.1.1.2).mono (fun _ _ h=>post_val h (by rw [Int.sign_eq_neg_one_of_neg hs]))) (fun xx=>?_)
   refine xr 1 [(2, .p 2 0),(3, .p 3 0),(4, .p 4 0),(15, .v (.bool true))] [bR4 4 116 false none 0 0 false none 0 0,bI2 3 114 s1 A1 l1 c1,bI2 2 114 s0 A0 l0 c0] ?_
   refine xe (sx_next (xa ?_))
   refine sx_draw 6 (by kernel_rfl) (by kernel_rfl) follows_mixed' ?_
   refine xf 1 [(2, .p 2 0),(3, .p 3 0),(4, .p 4 0),eI2 16 s0 A0 l0 c0] [bR4 4 116 false none 0 0 false none 0 0,bI2 3 114 s1 A1 l1 c1,bI2 2 114 s0 A0 l0 c0] ?_
   refine xd 188 [vI2 s0 A0 l0 c0] 17 shInt _ (fun w hE hΦ=>(Neg_any _ (x) _ hΦ.1.1.1.1.1).mono (fun _ _ h=>post_Int h)) (fun xx=>?_)
   obtain ⟨s11,A11,l11,c11⟩:=xx
   refine xf 1 [(2, .p 2 0),(3, .p 3 0),(4, .p 4 0),eI2 17 s11 A11 l11 c11,eI2 18 s1 A1 l1 c1] [bR4 4 116 false none 0 0 false none 0 0,bI2 3 114 s1 A1 l1 c1,bI2 2 114 s0 A0 l0 c0] ?_
   refine xd 188 [vI2 s1 A1 l1 c1] 19 shInt _ (fun w hE hΦ=>(Neg_any _ (y) _ hΦ.1.1.1.1.1.2).mono (fun _ _ h=>post_Int h)) (fun xx=>?_)
   obtain ⟨s12,A12,l12,c12⟩:=xx
   refine xf 2 [(2, .p 2 0),(3, .p 3 0),(4, .p 4 0)] [bI2 3 114 s12 A12 l12 c12,bI2 2 114 s11 A11 l11 c11,bR4 4 116 false none 0 0 false none 0 0,bI2 3 114 s1 A1 l1 c1,bI2 2 114 s0 A0 l0 c0] ?_
   refine xz (xe (sx_next (sx_seq (sx_seq (sx_region (xr 1 [(2, .p 2 0),(3, .p 3 0),(4, .p 4 0),eI2 20 s12 A12 l12 c12] [bI2 3 114 s12 A12 l12 c12,bI2 2 114 s11 A11 l11 c11,bR4 4 116 false none 0 0 false none 0 0] ?_))))))
   by_cases hz13:(-(y))=1
   ·refine xc 161 [vI2 s12 A12 l12 c12] 21 (fun _:Unit=>.bool true) _ (fun w hE hΦ=>(IsOne_any _ (-(y)) _ hΦ.2).mono (fun _ _ h=>post_val h (by rw [decide_eq_true (p:=(-(y))=1) hz13]))) (fun xx=>?_)
    refine xr 0 [(2, .p 2 0),(3, .p 3 0),(4, .p 4 0),(21, .v (.bool true))] [bI2 3 114 s12 A12 l12 c12,bI2 2 114 s11 A11 l11 c11,bR4 4 116 false none 0 0 false none 0 0] ?_
    refine xe (sx_next (xa (sx_seq (sx_region (xr 3 [(2, .p 2 0),(3, .p 3 0),(4, .p 4 0)] [bI2 3 114 s12 A12 l12 c12,bI2 2 114 s11 A11 l11 c11,bR4 4 116 s11 A11 l11 c11 false none 0 0] ?_)))))
    refine xe (sx_next (sx_ret (sx_then_ret ?_)))
    refine sx_done (v:=.agg #[.bool s11, .slice A11 l11 c11, .bool false, .slice none 0 0]) (by kernel_rfl) (fun w' hE hΦ=>?_)
    exact ⟨_,rfl,RatIs.of (by rw [← Hq,(frac_one hz13).1]; exact hΦ.1.1.2) (by rw [← Hq,(frac_one hz13).2]; exact (IntIs.nil _)),hE⟩
   ·refine xc 161 [vI2 s12 A12 l12 c12] 21 (fun _:Unit=>.bool false) _ (fun w hE hΦ=>(IsOne_any _ (-(y)) _ hΦ.2).mono (fun _ _ h=>post_val h (by rw [decide_eq_false (p:=(-(y))=1) hz13]))) (fun xx=>?_)
    refine xr 0 [(2, .p 2 0),(3, .p 3 0),(4, .p 4 0),(21, .v (.bool false))] [bI2 3 114 s12 A12 l12 c12,bI2 2 114 s11 A11 l11 c11,bR4 4 116 false none 0 0 false none 0 0] ?_
    refine xe (sx_next (xb (sx_skip (sx_next (sx_seq (sx_seq (sx_region (xr 2 [(2, .p 2 0),(3, .p 3 0),(4, .p 4 0),eI2 24 s11 A11 l11 c11,eI2 25 s12 A12 l12 c12] [bI2 3 114 s12 A12 l12 c12,bI2 2 114 s11 A11 l11 c11,bR4 4 116 false none 0 0 false none 0 0] ?_))))))))
    refine xc 153 [vI2 s11 A11 l11 c11,vI2 s12 A12 l12 c12] 26 shInt _ (fun w hE hΦ=>(GCD_any _ _ (-(x)) (-(y)) _ hΦ.1.1.1.1.1.1.2 hΦ.1.1.2 hΦ.1.2 hfx' hfy' hgk').mono (fun _ _ h=>post_Int h)) (fun xx=>?_)
    obtain ⟨s14,A14,l14,c14⟩:=xx
    refine xr 2 [(2, .p 2 0),(3, .p 3 0),(4, .p 4 0),(5, .p 5 0)] [bI2 5 114 s14 A14 l14 c14,bI2 3 114 s12 A12 l12 c12,bI2 2 114 s11 A11 l11 c11,bR4 4 116 false none 0 0 false none 0 0] ?_
    refine xe (sx_next (sx_seq (sx_region (xr 1 [(2, .p 2 0),(3, .p 3 0),(4, .p 4 0),(5, .p 5 0),eI2 27 s14 A14 l14 c14] [bI2 5 114 s14 A14 l14 c14,bI2 3 114 s12 A12 l12 c12,bI2 2 114 s11 A11 l11 c11,bR4 4 116 false none 0 0 false none 0 0] ?_))))
    by_cases hz15:(((Int.gcd (-(x)) (-(y)):Nat):Int))=1
    ·refine xc 161 [vI2 s14 A14 l14 c14] 28 (fun _:Unit=>.bool true) _ (fun w hE hΦ=>(IsOne_any _ (((Int.gcd (-(x)) (-(y)):Nat):Int)) _ hΦ.2).mono (fun _ _ h=>post_val h (by rw [decide_eq_true (p:=(((Int.gcd (-(x)) (-(y)):Nat):Int))=1) hz15]))) (fun xx=>?_)
     refine xr 1 [(2, .p 2 0),(3, .p 3 0),(4, .p 4 0),(5, .p 5 0),(29, .v (.bool false))] [bI2 5 114 s14 A14 l14 c14,bI2 3 114 s12 A12 l12 c12,bI2 2 114 s11 A11 l11 c11,bR4 4 116 false none 0 0 false none 0 0] ?_
     refine xe (sx_next (xb (sx_skip (sx_next (sx_seq (sx_region (xr 2 [(4, .p 4 0),eI2 36 s11 A11 l11 c11,eI2 37 s12 A12 l12 c12] [bR4 4 116 false none 0 0 false none 0 0] ?_)))))))
     refine xc 141 [vI2 s11 A11 l11 c11,vI2 s12 A12 l12 c12] 38 shRat _ (fun w hE hΦ=>(lowest_any _ _ (-(x)) (-(y)) (Rat.divInt x y) _ hΦ.1.1.1.1.2 hΦ.1.1.1.2 (by rw [← Hq]; exact frac_coprime HY hz15)).mono (fun _ _ h=>post_Rat h)) (fun xx=>?_)
     obtain ⟨s16,A16,l16,c16,t16,B16,m16,d16⟩:=xx
     refine xr 1 [(4, .p 4 0)] [bR4 4 116 s16 A16 l16 c16 t16 B16 m16 d16] ?_
     refine xe (sx_next (sx_ret ?_))
     refine sx_done (v:=.agg #[.bool s16, .slice A16 l16 c16, .bool t16, .slice B16 m16 d16]) (by kernel_rfl) (fun w' hE hΦ=>?_)
     exact ⟨_,rfl,hΦ.2,hE⟩
    ·refine xc 161 [vI2 s14 A14 l14 c14] 28 (fun _:Unit=>.bool false) _ (fun w hE hΦ=>(IsOne_any _ (((Int.gcd (-(x)) (-(y)):Nat):Int)) _ hΦ.2).mono (fun _ _ h=>post_val h (by rw [decide_eq_false (p:=(((Int.gcd (-(x)) (-(y)):Nat):Int))=1) hz15]))) (fun xx=>?_)
     refine xr 1 [(2, .p 2 0),(3, .p 3 0),(4, .p 4 0),(5, .p 5 0),(29, .v (.bool true))] [bI2 5 114 s14 A14 l14 c14,bI2 3 114 s12 A12 l12 c12,bI2 2 114 s11 A11 l11 c11,bR4 4 116 false none 0 0 false none 0 0] ?_
     refine xe (sx_next (xa ?_))
     refine sx_draw 8 (by kernel_rfl) (by kernel_rfl) follows_mixed' ?_
     refine xf 2 [(2, .p 2 0),(3, .p 3 0),(4, .p 4 0),(5, .p 5 0),eI2 30 s11 A11 l11 c11,eI2 31 s14 A14 l14 c14] [bI2 5 114 s14 A14 l14 c14,bI2 3 114 s12 A12 l12 c12,bI2 2 114 s11 A11 l11 c11,bR4 4 116 false none 0 0 false none 0 0] ?_
     refine xd 191 [vI2 s11 A11 l11 c11,vI2 s14 A14 l14 c14] 32 shInt _ (fun w hE hΦ=>(Quo_any _ _ (-(x)) (((Int.gcd (-(x)) (-(y)):Nat):Int)) _ hΦ.1.1.1.1.2 hΦ.1.2 hfx' (gcd_wl HY h80') (gcd_ne HY)).mono (fun _ _ h=>post_Int h)) (fun xx=>?_)
     obtain ⟨s17,A17,l17,c17⟩:=xx
     refine xf 2 [(2, .p 2 0),(3, .p 3 0),(4, .p 4 0),eI2 32 s17 A17 l17 c17,eI2 33 s12 A12 l12 c12,eI2 34 s14 A14 l14 c14] [bI2 5 114 s14 A14 l14 c14,bI2 3 114 s12 A12 l12 c12,bI2 2 114 s11 A11 l11 c11,bR4 4 116 false none 0 0 false none 0 0] ?_
     refine xd 191 [vI2 s12 A12 l12 c12,vI2 s14 A14 l14 c14] 35 shInt _ (fun w hE hΦ=>(Quo_any _ _ (-(y)) (((Int.gcd (-(x)) (-(y)):Nat):Int)) _ hΦ.1.1.1.1.2 hΦ.1.1.2 hfy' (gcd_wl HY h80') (gcd_ne HY)).mono (fun _ _ h=>post_Int h)) (fun xx=>?_)
     obtain ⟨s18,A18,l18,c18⟩:=xx
     refine xf 2 [(2, .p 2 0),(3, .p 3 0),(4, .p 4 0)] [bI2 3 114 s18 A18 l18 c18,bI2 2 114 s17 A17 l17 c17,bI2 5 114 s14 A14 l14 c14,bI2 3 114 s12 A12 l12 c12,bI2 2 114 s11 A11 l11 c11,bR4 4 116 false none 0 0 false none 0 0] ?_
     refine xz (xe (sx_next (sx_seq (sx_region (xr 2 [(4, .p 4 0),eI2 36 s17 A17 l17 c17,eI2 37 s18 A18 l18 c18] [bR4 4 116 false none 0 0 false none 0 0] ?_)))))
     refine xc 141 [vI2 s17 A17 l17 c17,vI2 s18 A18 l18 c18] 38 shRat _ (fun w hE hΦ=>(lowest_any _ _ ((-(x)).tdiv (((Int.gcd (-(x)) (-(y)):Nat):Int))) ((-(y)).tdiv (((Int.gcd (-(x)) (-(y)):Nat):Int))) (Rat.divInt x y) _ hΦ.1.2 hΦ.2 (by rw [← Hq]; exact frac_gcd HY)).mono (fun _ _ h=>post_Rat h)) (fun xx=>?_)
     obtain ⟨s19,A19,l19,c19,t19,B19,m19,d19⟩:=xx
     refine xr 1 [(4, .p 4 0)] [bR4 4 116 s19 A19 l19 c19 t19 B19 m19 d19] ?_
     refine xe (sx_next (sx_ret ?_))
     refine sx_done (v:=.agg #[.bool s19, .slice A19 l19 c19, .bool t19, .slice B19 m19 d19]) (by kernel_rfl) (fun w' hE hΦ=>?_)
     exact ⟨_,rfl,hΦ.2,hE⟩
  ·have Hq:Rat.divInt (x) (y)=Rat.divInt x y:=rfl
   have HY:0 < y:=by omega
   have hfx':Fits (x):=hfx
   have hfy':Fits (y):=hfy
   have hgk':GcdOk (x) (y):=hgk
   have h80':wl (y).natAbs < 80:=h80
   refine xc 223 [vI2 s1 A1 l1 c1] 14 (fun _:Unit=>.int .i64 1) _ (fun w hE hΦ=>(Sign_any _ (y) _ hΦ.1.1.1.2).mono (fun _ _ h=>post_val h (by rw [Int.sign_eq_one_of_pos (by omega)]))) (fun xx=>?_)
   refine xr 1 [(2, .p 2 0),(3, .p 3 0),(4, .p 4 0),(15, .v (.bool false))] [bR4 4 116 false none 0 0 false none 0 0,bI2 3 114 s1 A1 l1 c1,bI2 2 114 s0 A0 l0 c0] ?_
   refine xe (sx_next (xb (sx_skip (sx_next (sx_seq (sx_seq (sx_region (xr 1 [(2, .p 2 0),(3, .p 3 0),(4, .p 4 0),eI2 20 s1 A1 l1 c1] [bR4 4 116 false none 0 0 false none 0 0,bI2 3 114 s1 A1 l1 c1,bI2 2 114 s0 A0 l0 c0] ?_))))))))
   by_cases hz20:(y)=1
   ·refine xc 161 [vI2 s1 A1 l1 c1] 21 (fun _:Unit=>.bool true) _ (fun w hE hΦ=>(IsOne_any _ (y) _ hΦ.1.1.1.1.2).mono (fun _ _ h=>post_val h (by rw [decide_eq_true (p:=(y)=1) hz20]))) (fun xx=>?_)
    refine xr 0 [(2, .p 2 0),(3, .p 3 0),(4, .p 4 0),(21, .v (.bool true))] [bR4 4 116 false none 0 0 false none 0 0,bI2 3 114 s1 A1 l1 c1,bI2 2 114 s0 A0 l0 c0] ?_
    refine xe (sx_next (xa (sx_seq (sx_region (xr 3 [(2, .p 2 0),(3, .p 3 0),(4, .p 4 0)] [bR4 4 116 s0 A0 l0 c0 false none 0 0,bI2 3 114 s1 A1 l1 c1,bI2 2 114 s0 A0 l0 c0] ?_)))))
    refine xe (sx_next (sx_ret (sx_then_ret ?_)))
    refine sx_done (v:=.agg #[.bool s0, .slice A0 l0 c0, .bool false, .slice none 0 0]) (by kernel_rfl) (fun w' hE hΦ=>?_)
    exact ⟨_,rfl,RatIs.of (by rw [← Hq,(frac_one hz20).1]; exact hΦ.1.1.1.1.1.1) (by rw [← Hq,(frac_one hz20).2]; exact (IntIs.nil _)),hE⟩
   ·refine xc 161 [vI2 s1 A1 l1 c1] 21 (fun _:Unit=>.bool false) _ (fun w hE hΦ=>(IsOne_any _ (y) _ hΦ.1.1.1.1.2).mono (fun _ _ h=>post_val h (by rw [decide_eq_false (p:=(y)=1) hz20]))) (fun xx=>?_)
    refine xr 0 [(2, .p 2 0),(3, .p 3 0),(4, .p 4 0),(21, .v (.bool false))] [bR4 4 116 false none 0 0 false none 0 0,bI2 3 114 s1 A1 l1 c1,bI2 2 114 s0 A0 l0 c0] ?_
    refine xe (sx_next (xb (sx_skip (sx_next (sx_seq (sx_seq (sx_region (xr 2 [(2, .p 2 0),(3, .p 3 0),(4, .p 4 0),eI2 24 s0 A0 l0 c0,eI2 25 s1 A1 l1 c1] [bR4 4 116 false none 0 0 false none 0 0,bI2 3 114 s1 A1 l1 c1,bI2 2 114 s0 A0 l0 c0] ?_))))))))
    refine xc 153 [vI2 s0 A0 l0 c0,vI2 s1 A1 l1 c1] 26 shInt _ (fun w hE hΦ=>(GCD_any _ _ (x) (y) _ hΦ.1.1.1.1.2 hΦ.1.1.1.1.1.1 hΦ.1.1.1.1.1.2 hfx' hfy' hgk').mono (fun _ _ h=>post_Int h)) (fun xx=>?_)
    obtain ⟨s21,A21,l21,c21⟩:=xx
    refine xr 2 [(2, .p 2 0),(3, .p 3 0),(4, .p 4 0),(5, .p 5 0)] [bI2 5 114 s21 A21 l21 c21,bR4 4 116 false none 0 0 false none 0 0,bI2 3 114 s1 A1 l1 c1,bI2 2 114 s0 A0 l0 c0] ?_
    refine xe (sx_next (sx_seq (sx_region (xr 1 [(2, .p 2 0),(3, .p 3 0),(4, .p 4 0),(5, .p 5 0),eI2 27 s21 A21 l21 c21] [bI2 5 114 s21 A21 l21 c21,bR4 4 116 false none 0 0 false none 0 0,bI2 3 114 s1 A1 l1 c1,bI2 2 114 s0 A0 l0 c0] ?_))))
    by_cases hz22:(((Int.gcd (x) (y):Nat):Int))=1
    ·refine xc 161 [vI2 s21 A21 l21 c21] 28 (fun _:Unit=>.bool true) _ (fun w hE hΦ=>(IsOne_any _ (((Int.gcd (x) (y):Nat):Int)) _ hΦ.2).mono (fun _ _ h=>post_val h (by rw [decide_eq_true (p:=(((Int.gcd (x) (y):Nat):Int))=1) hz22]))) (fun xx=>?_)
     refine xr 1 [(2, .p 2 0),(3, .p 3 0),(4, .p 4 0),(5, .p 5 0),(29, .v (.bool false))] [bI2 5 114 s21 A21 l21 c21,bR4 4 116 false none 0 0 false none 0 0,bI2 3 114 s1 A1 l1 c1,bI2 2 114 s0 A0 l0 c0] ?_
     refine xe (sx_next (xb (sx_skip (sx_next (sx_seq (sx_region (xr 2 [(4, .p 4 0),eI2 36 s0 A0 l0 c0,eI2 37 s1 A1 l1 c1] [bR4 4 116 false none 0 0 false none 0 0] ?_)))))))
     refine xc 141 [vI2 s0 A0 l0 c0,vI2 s1 A1 l1 c1] 38 shRat _ (fun w hE hΦ=>(lowest_any _ _ (x) (y) (Rat.divInt x y) _ hΦ.1.1.1.1.1.1.1.1 hΦ.1.1.1.1.1.1.1.2 (by rw [← Hq]; exact frac_coprime HY hz22)).mono (fun _ _ h=>post_Rat h)) (fun xx=>?_)
     obtain ⟨s23,A23,l23,c23,t23,B23,m23,d23⟩:=xx
     refine xr 1 [(4, .p 4 0)] [bR4 4 116 s23 A23 l23 c23 t23 B23 m23 d23] ?_
     refine xe (sx_next (sx_ret ?_))
     refine sx_done (v:=.agg #[.bool s23, .slice A23 l23 c23, .bool t23, .slice B23 m23 d23]) (by kernel_rfl) (fun w' hE hΦ=>?_)
     exact ⟨_,rfl,hΦ.2,hE⟩
    ·refine xc 161 [vI2 s21 A21 l21 c21] 28 (fun _:Unit=>.bool false) _ (fun w hE hΦ=>(IsOne_any _ (((Int.gcd (x) (y):Nat):Int)) _ hΦ.2).mono (fun _ _ h=>post_val h (by rw [decide_eq_false (p:=(((Int.gcd (x) (y):Nat):Int))=1) hz22]))) (fun xx=>?_)
     refine xr 1 [(2, .p 2 0),(3, .p 3 0),(4, .p 4 0),(5, .p 5 0),(29, .v (.bool true))] [bI2 5 114 s21 A21 l21 c21,bR4 4 116 false none 0 0 false none 0 0,bI2 3 114 s1 A1 l1 c1,bI2 2 114 s0 A0 l0 c0] ?_
     refine xe (sx_next (xa ?_))
     refine sx_draw 8 (by kernel_rfl) (by kernel_rfl) follows_mixed' ?_
     refine xf 2 [(2, .p 2 0),(3, .p 3 0),(4, .p 4 0),(5, .p 5 0),eI2 30 s0 A0 l0 c0,eI2 31 s21 A21 l21 c21] [bI2 5 114 s21 A21 l21 c21,bR4 4 116 false none 0 0 false none 0 0,bI2 3 114 s1 A1 l1 c1,bI2 2 114 s0 A0 l0 c0] ?_
     refine xd 191 [vI2 s0 A0 l0 c0,vI2 s21 A21 l21 c21] 32 shInt _ (fun w hE hΦ=>(Quo_any _ _ (x) (((Int.gcd (x) (y):Nat):Int)) _ hΦ.1.1.1.1.1.1.1.1 hΦ.1.2 hfx' (gcd_wl HY h80') (gcd_ne HY)).mono (fun _ _ h=>post_Int h)) (fun xx=>?_)
     obtain ⟨s24,A24,l24,c24⟩:=xx
     refine xf 2 [(2, .p 2 0),(3, .p 3 0),(4, .p 4 0),eI2 32 s24 A24 l24 c24,eI2 33 s1 A1 l1 c1,eI2 34 s21 A21 l21 c21] [bI2 5 114 s21 A21 l21 c21,bR4 4 116 false none 0 0 false none 0 0,bI2 3 114 s1 A1 l1 c1,bI2 2 114 s0 A0 l0 c0] ?_
     refine xd 191 [vI2 s1 A1 l1 c1,vI2 s21 A21 l21 c21] 35 shInt _ (fun w hE hΦ=>(Quo_any _ _ (y) (((Int.gcd (x) (y):Nat):Int)) _ hΦ.1.1.1.1.1.1.1.1.2 hΦ.1.1.2 hfy' (gcd_wl HY h80') (gcd_ne HY)).mono (fun _ _ h=>post_Int h)) (fun xx=>?_)
     obtain ⟨s25,A25,l25,c25⟩:=xx
     refine xf 2 [(2, .p 2 0),(3, .p 3 0),(4, .p 4 0)] [bI2 3 114 s25 A25 l25 c25,bI2 2 114 s24 A24 l24 c24,bI2 5 114 s21 A21 l21 c21,bR4 4 116 false none 0 0 false none 0 0,bI2 3 114 s1 A1 l1 c1,bI2 2 114 s0 A0 l0 c0] ?_
     refine xz (xe (sx_next (sx_seq (sx_region (xr 2 [(4, .p 4 0),eI2 36 s24 A24 l24 c24,eI2 37 s25 A25 l25 c25] [bR4 4 116 false none 0 0 false none 0 0] ?_)))))
     refine xc 141 [vI2 s24 A24 l24 c24,vI2 s25 A25 l25 c25] 38 shRat _ (fun w hE hΦ=>(lowest_any _ _ ((x).tdiv (((Int.gcd (x) (y):Nat):Int))) ((y).tdiv (((Int.gcd (x) (y):Nat):Int))) (Rat.divInt x y) _ hΦ.1.2 hΦ.2 (by rw [← Hq]; exact frac_gcd HY)).mono (fun _ _ h=>post_Rat h)) (fun xx=>?_)
     obtain ⟨s26,A26,l26,c26,t26,B26,m26,d26⟩:=xx
     refine xr 1 [(4, .p 4 0)] [bR4 4 116 s26 A26 l26 c26 t26 B26 m26 d26] ?_
     refine xe (sx_next (sx_ret ?_))
     refine sx_done (v:=.agg #[.bool s26, .slice A26 l26 c26, .bool t26, .slice B26 m26 d26]) (by kernel_rfl) (fun w' hE hΦ=>?_)
     exact ⟨_,rfl,hΦ.2,hE⟩
end Go.Proofs.YtbgkofgoeoiciaaGreatDoor

namespace Go.Proofs.YtbgkofgoeoiciaaGreatDoor
open Go.RowKit
inductive RecRun (m:Int):Int→Int→Int→Int→Int→Int→Prop
 | done {r0 r1 t0 t1:Int} (h:r1 * r1 * 2 < m):RecRun m r0 r1 t0 t1 r1 t1
 | step {r0 r1 t0 t1 r t:Int} (h:¬ r1 * r1 * 2 < m) (k:RecRun m r1 (r0.tmod r1) t1 (t0 - r0.tdiv r1 * t1) r t):RecRun m r0 r1 t0 t1 r t
theorem RecRun.unique {m r0 r1 t0 t1 r t r' t':Int} (h:RecRun m r0 r1 t0 t1 r t) (k:RecRun m r0 r1 t0 t1 r' t'):r=r'∧t=t':=by
 induction h with
 | done h =>
   cases k with
   | done=>exact ⟨rfl,rfl⟩
   | step h'=>exact absurd h h'
 | step h _ ih =>
   cases k with
   | done h'=>exact absurd h' h
   | step _ k=>exact ih k
structure RecInv (m r0 r1 t0 t1:Int):Prop where
 nonneg:0≤r1
 lt:r1 < r0
 le:r0≤m
 sum:(t1.natAbs:Int) * r0 + (t0.natAbs:Int) * r1=m
 alt:(0≤t0∧t1≤0)∨(t0≤0∧0≤t1)
theorem RecInv.start {m r:Int} (h0:0≤r) (hr:r < m):RecInv m m r 0 1:=⟨h0,hr,Int.le_refl _,by simp,Or.inr ⟨Int.le_refl _,by omega⟩⟩
theorem RecInv.next {m r0 r1 t0 t1:Int} (h:RecInv m r0 r1 t0 t1) (h1:0 < r1):RecInv m r1 (r0.tmod r1) t1 (t0 - r0.tdiv r1 * t1):=by
 obtain ⟨h2,h3,h4,h5,h6⟩:=h
 have e1:r0.tdiv r1=r0 / r1:=Int.tdiv_eq_ediv_of_nonneg (by omega)
 have e2:r0.tmod r1=r0 % r1:=Int.tmod_eq_emod_of_nonneg (by omega)
 rw [e1,e2]
 have hq:0≤r0 / r1:=Int.ediv_nonneg (by omega) h2
 have hd:=Int.mul_ediv_add_emod r0 r1
 have hm0:=Int.emod_nonneg r0 (show r1≠0 by omega)
 have hm1:=Int.emod_lt_of_pos r0 h1
 generalize r0 / r1=q at *
 generalize r0 % r1=r2 at *
 have habs:((t0 - q * t1).natAbs:Int)=(t0.natAbs:Int) + q * (t1.natAbs:Int):=by
  rcases h6 with ⟨a,b⟩ | ⟨a,b⟩
  ·have e3:(t1.natAbs:Int) = -t1:=by omega
   have e4:(t0.natAbs:Int)=t0:=by omega
   have hp:0≤q * -t1:=Int.mul_nonneg hq (by omega)
   rw [e3,e4,Int.mul_neg]
   rw [Int.mul_neg] at hp
   omega
  ·have e3:(t1.natAbs:Int)=t1:=by omega
   have e4:(t0.natAbs:Int) = -t0:=by omega
   have hp:0≤q * t1:=Int.mul_nonneg hq b
   rw [e3,e4]
   omega
 refine ⟨hm0,hm1,by omega,?_,?_⟩
 ·rw [habs,Int.add_mul]
  rw [← hd,Int.mul_add] at h5
  rw [← h5,Int.mul_right_comm q,Int.mul_assoc q,Int.mul_comm (t1.natAbs:Int) (r1 * q),Int.mul_right_comm r1 q,Int.mul_comm q,Int.mul_comm r1 (t1.natAbs:Int)]
  omega
 ·rcases h6 with ⟨a,b⟩ | ⟨a,b⟩
  ·right
   have hp:0≤q * -t1:=Int.mul_nonneg hq (by omega)
   rw [Int.mul_neg] at hp
   exact ⟨b,by omega⟩
  ·left
   have hp:0≤q * t1:=Int.mul_nonneg hq b
   exact ⟨b,by omega⟩
theorem RecInv.bound {m r0 r1 t0 t1:Int} (h:RecInv m r0 r1 t0 t1):t1.natAbs≤m.natAbs∧r0.natAbs≤m.natAbs∧r1.natAbs≤m.natAbs∧(0 < r1→t0.natAbs≤m.natAbs):=by
 obtain ⟨h2,h3,h4,h5,_⟩:=h
 have a1:0≤(t1.natAbs:Int) * r0:=Int.mul_nonneg (by omega) (by omega)
 have a2:0≤(t0.natAbs:Int) * r1:=Int.mul_nonneg (by omega) h2
 have a3:(t1.natAbs:Int) * 1≤(t1.natAbs:Int) * r0:=Int.mul_le_mul_of_nonneg_left (by omega) (by omega)
 refine ⟨by omega,by omega,by omega,fun h1=>?_⟩
 have a4:(t0.natAbs:Int) * 1≤(t0.natAbs:Int) * r1:=Int.mul_le_mul_of_nonneg_left (by omega) (by omega)
 omega
def TwoNew (wb wx:World) (g h:Nat) (x y:Int):Prop:=IntAt wx g x∧IntAt wx h y∧Ext wb wx∧g≠h∧wb.heap.size≤g∧wb.heap.size≤h
theorem IntAt.new {w:World} {z:Int} {s:Bool} {A:Option Addr} {l c:Nat} (hI:IntIs w (.agg #[.bool s, .slice A l c]) z):IntAt (w.alloc (.cells #[.bool s, .slice A l c] 114)) w.heap.size z :=
 ⟨s,A,l,c,Blk.new _ _ _,hI.ext ((Fr.refl _ _).alloc _)⟩
theorem blk_second (w:World) (t:TypeId) (x y:Array Value):Blk t ((w.alloc (.cells x t)).alloc (.cells y t)) (w.heap.size + 1) y:=by
 have e:(w.alloc (.cells x t)).heap.size=w.heap.size + 1:=by simp
 have h1:=Blk.new (w.alloc (.cells x t)) t y
 rwa [e] at h1
theorem intAt_zero {w:World} {g:Nat} (h:Blk 114 w g #[.bool false, .slice none 0 0]):IntAt w g 0:=⟨_,_,_,_,h,IntIs.zero w⟩
structure RecMem (w wr:World) (M R b r f g:Nat) (m r0 r1 t0 t1:Int):Prop where
 ext:Ext w wr
 mod:IntAt wr M m
 res:Blk 116 wr R #[.bool false, .slice none 0 0, .bool false, .slice none 0 0]
 rest0:IntAt wr b r0
 rest1:IntAt wr r r1
 fac0:IntAt wr f t0
 fac1:IntAt wr g t1
theorem RecMem.on {w wr wx:World} {M R b r f g:Nat} {m r0 r1 t0 t1:Int} (h:RecMem w wr M R b r f g m r0 r1 t0 t1) (hF:Ext wr wx):RecMem w wx M R b r f g m r0 r1 t0 t1 :=
 ⟨h.ext.trans hF,h.mod.ext hF,h.res.ext hF,h.rest0.ext hF,h.rest1.ext hF,h.fac0.ext hF,h.fac1.ext hF⟩
def RecNe (w:World) (M R b r f g:Nat):Prop:=w.heap.size≤M∧w.heap.size≤R∧M≠R∧M < b∧M < r∧R < b∧R < r∧b≠r∧b < f∧r < f∧b < g∧r < g∧f≠g
section
variable {w wr:World} {M R b r f g:Nat} {m r0 r1 t0 t1 z:Int} {s:Bool} {A:Option Addr} {l c:Nat}
theorem RecMem.put0 (h:RecMem w wr M R b r f g m r0 r1 t0 t1) (hd:RecNe w M R b r f g) (hI:IntIs wr (.agg #[.bool s, .slice A l c]) z):RecMem w ((wr.setCell ⟨b,0,none⟩ (.bool s)).setCell ⟨b,1,none⟩ (.slice A l c)) M R b r f g m z r1 t0 t1:=by
 unfold RecNe at hd
 exact ⟨Fr.local_ h.ext (Fr.set2 _ _) (by omega),h.mod.away h.rest0 (by omega),h.res.fr (Fr.set2 (r:=b) (i:=0) (j:=1) _ _) (by omega),h.rest0.put hI,h.rest1.away h.rest0 (by omega),h.fac0.away h.rest0 (by omega),h.fac1.away h.rest0 (by omega)⟩
theorem RecMem.put1 (h:RecMem w wr M R b r f g m r0 r1 t0 t1) (hd:RecNe w M R b r f g) (hI:IntIs wr (.agg #[.bool s, .slice A l c]) z):RecMem w ((wr.setCell ⟨r,0,none⟩ (.bool s)).setCell ⟨r,1,none⟩ (.slice A l c)) M R b r f g m r0 z t0 t1:=by
 unfold RecNe at hd
 exact ⟨Fr.local_ h.ext (Fr.set2 _ _) (by omega),h.mod.away h.rest1 (by omega),h.res.fr (Fr.set2 (r:=r) (i:=0) (j:=1) _ _) (by omega),h.rest0.away h.rest1 (by omega),h.rest1.put hI,h.fac0.away h.rest1 (by omega),h.fac1.away h.rest1 (by omega)⟩
theorem RecMem.put2 (h:RecMem w wr M R b r f g m r0 r1 t0 t1) (hd:RecNe w M R b r f g) (hI:IntIs wr (.agg #[.bool s, .slice A l c]) z):RecMem w ((wr.setCell ⟨f,0,none⟩ (.bool s)).setCell ⟨f,1,none⟩ (.slice A l c)) M R b r f g m r0 r1 z t1:=by
 unfold RecNe at hd
 exact ⟨Fr.local_ h.ext (Fr.set2 _ _) (by omega),h.mod.away h.fac0 (by omega),h.res.fr (Fr.set2 (r:=f) (i:=0) (j:=1) _ _) (by omega),h.rest0.away h.fac0 (by omega),h.rest1.away h.fac0 (by omega),h.fac0.put hI,h.fac1.away h.fac0 (by omega)⟩
theorem RecMem.put3 (h:RecMem w wr M R b r f g m r0 r1 t0 t1) (hd:RecNe w M R b r f g) (hI:IntIs wr (.agg #[.bool s, .slice A l c]) z):RecMem w ((wr.setCell ⟨g,0,none⟩ (.bool s)).setCell ⟨g,1,none⟩ (.slice A l c)) M R b r f g m r0 r1 t0 z:=by
 unfold RecNe at hd
 exact ⟨Fr.local_ h.ext (Fr.set2 _ _) (by omega),h.mod.away h.fac1 (by omega),h.res.fr (Fr.set2 (r:=g) (i:=0) (j:=1) _ _) (by omega),h.rest0.away h.fac1 (by omega),h.rest1.away h.fac1 (by omega),h.fac0.away h.fac1 (by omega),h.fac1.put hI⟩
end
def RecSt (w wr:World) (M R b r f g:Nat) (v m r0 r1 t0 t1:Int):Prop :=
 RecMem w wr M R b r f g m r0 r1 t0 t1∧RecInv m r0 r1 t0 t1∧∀ x y,RecRun m r0 r1 t0 t1 x y→RecRun m m (v % m) 0 1 x y
def GcdAll (m:Int):Prop:=∀ x y:Int,x.natAbs≤m.natAbs∧y.natAbs≤m.natAbs→GcdOk x y
theorem GcdAll.words {m:Int} (h:wl m.natAbs < 39):GcdAll m:=fun x y hxy=>GcdOk.words (by have:=wl_mono hxy.1; omega) (by have:=wl_mono hxy.2; omega)
def RecIs (v m:Int) (q:Rat) (ok:Bool):Prop:=∃ r t:Int,RecRun m m (v % m) 0 1 r t ∧
 ((ok=true∧t * t * 2 < m∧Int.gcd t m=1∧Int.gcd t r=1∧q=Rat.divInt r t)∨(ok=false∧¬ (t * t * 2 < m∧Int.gcd t m=1∧Int.gcd t r=1)∧q=0))
def RetRec (w:World) (v m:Int) (e:Ending) (w':World):Prop:=∃ x q ok,e=.returned (.tuple #[x, .bool ok])∧RatIs w' x q∧RecIs v m q ok∧Ext w w'
theorem frac_blocks {t u:TypeId} {w wb:World} {x y z:Array Value} (h:((w.alloc (.cells x t)).alloc (.cells y t)).alloc (.cells z u)=wb) :
 Blk t wb w.heap.size x∧Blk t wb (w.heap.size + 1) y∧Blk u wb (w.heap.size + 1 + 1) z∧Ext w wb:=by
 obtain ⟨h0,h1,h2⟩:=two_blocks (t:=t) (w:=w) (x:=x) (y:=y) rfl
 subst h
 have e2:((w.alloc (.cells x t)).alloc (.cells y t)).heap.size=w.heap.size + 1 + 1:=by simp
 have h3:=Blk.new ((w.alloc (.cells x t)).alloc (.cells y t)) u z
 rw [e2] at h3
 exact ⟨h0.alloc _,h1.alloc _,h3,h2.alloc _⟩
theorem keepI3 {t t' t'':TypeId} {w w':World} {g g' g'':Nat} {x y x' y' x'' y'':Value} (h:Blk t w g #[x,y]) (h':Blk t' w g' #[x',y']) (h'':Blk t'' w g'' #[x'',y'']) (hF:Ext w w') :
 (w'.cell? ⟨g,0,none⟩=some x∧w'.cell? ⟨g,1,none⟩=some y)∧(w'.cell? ⟨g',0,none⟩=some x'∧w'.cell? ⟨g',1,none⟩=some y')∧(w'.cell? ⟨g'',0,none⟩=some x''∧w'.cell? ⟨g'',1,none⟩=some y'') :=
 ⟨⟨(h.ext hF).cell 0,(h.ext hF).cell 1⟩,⟨(h'.ext hF).cell 0,(h'.ext hF).cell 1⟩,⟨(h''.ext hF).cell 0,(h''.ext hF).cell 1⟩⟩
theorem fin_rec {fn:Func} {tmps:Array Value} {w wz:World} {r:Nat} {ok:Bool} {s t:Bool} {A B:Option Addr} {l c l' c':Nat} {v m:Int} {q:Rat} (hres:fn.results=#[.cell 4 116, .tmp 5]) (ht:tmps[4]? = some (.pointer (some ⟨r,0,none⟩))) (h3:tmps[5]? = some (.bool ok))
 (hB:Blk 116 wz r #[.bool s, .slice A l c, .bool t, .slice B l' c']) (hE:Ext w wz) (hR:RatIs wz (.agg #[.bool s, .slice A l c, .bool t, .slice B l' c']) q) (hI:RecIs v m q ok) :
 bodyPost Tryz.prog fn (RetRec w v m) .ret ⟨tmps,[]⟩ wz:=by
 obtain ⟨h0,h1,h2,h4,_⟩:=hB.cell4
 exact bodyPost_ret (v:=.tuple #[.agg #[.bool s, .slice A l c, .bool t, .slice B l' c'], .bool ok]) (by simp [results,hres,ht,h3,go_sem,h0,h1,h2,h4]) rfl ⟨_,q,ok,rfl,hR,hI,hE⟩
theorem keepF2 {t t':TypeId} {w:World} {g g' r i j:Nat} {x y x' y' a b:Value} (h:Blk t w g #[x,y]) (h':Blk t' w g' #[x',y']) (hg:g≠r) (hg':g'≠r) :
 ((((w.setCell ⟨r,i,none⟩ a).setCell ⟨r,j,none⟩ b).drew.cell? ⟨g,0,none⟩=some x∧((w.setCell ⟨r,i,none⟩ a).setCell ⟨r,j,none⟩ b).drew.cell? ⟨g,1,none⟩=some y)∧(((w.setCell ⟨r,i,none⟩ a).setCell ⟨r,j,none⟩ b).drew.cell? ⟨g',0,none⟩=some x'∧((w.setCell ⟨r,i,none⟩ a).setCell ⟨r,j,none⟩ b).drew.cell? ⟨g',1,none⟩=some y')) :=
 ⟨⟨(h.fr (Fr.set2 a b) hg).cell 0,(h.fr (Fr.set2 a b) hg).cell 1⟩,⟨(h'.fr (Fr.set2 a b) hg').cell 0,(h'.fr (Fr.set2 a b) hg').cell 1⟩⟩
section
variable {wb w1:World} {x y:Int} {s s':Bool} {A A':Option Addr} {l c l' c':Nat}
abbrev bx (s:Bool) (A:Option Addr) (l c:Nat):Obj:=.cells #[.bool s, .slice A l c] 114
theorem two_new1 (hX:Ext wb w1) (hx:IntIs w1 (.agg #[.bool s, .slice A l c]) x) (hy:IntIs w1 (.agg #[.bool s', .slice A' l' c']) y):TwoNew wb ((w1.alloc (bx s A l c)).alloc (bx s' A' l' c')) w1.heap.size (w1.heap.size + 1) x y:=by
 refine ⟨(IntAt.new hx).ext ((Fr.refl _ _).alloc _),⟨_,_,_,_,blk_second _ _ _ _,hy.ext (((Fr.refl _ _).alloc _).alloc _)⟩,(hX.alloc _).alloc _,by omega,hX.size,by have:=hX.size; omega⟩
theorem two_new2 (hX:Ext wb w1) (hx:IntIs w1 (.agg #[.bool s, .slice A l c]) x) (hy:IntIs w1 (.agg #[.bool s', .slice A' l' c']) y):TwoNew wb ((w1.alloc (bx s' A' l' c')).alloc (bx s A l c)) (w1.heap.size + 1) w1.heap.size x y:=by
 obtain ⟨h1,h2,h3,h4,h5,h6⟩:=two_new1 hX hy hx
 exact ⟨h2,h1,h3,Ne.symm h4,h6,h5⟩
theorem two_new3 (hX:Ext wb w1) (hb:Blk 114 w1 wb.heap.size #[.bool false, .slice none 0 0]) (hx:IntIs w1 (.agg #[.bool s, .slice A l c]) x) (hy:IntIs w1 (.agg #[.bool s', .slice A' l' c']) y) :
 TwoNew wb (((w1.setCell ⟨wb.heap.size,0,none⟩ (.bool s)).setCell ⟨wb.heap.size,1,none⟩ (.slice A l c)).alloc (bx s' A' l' c')) wb.heap.size w1.heap.size x y:=by
 have h1:=(intAt_zero hb).put hx
 have h2:=IntIs.away (a:=.bool s) (b:=.slice A l c) hy (intAt_zero hb)
 have h3:=Fr.local_ hX (Fr.set2 (r:=wb.heap.size) (i:=0) (j:=1) (.bool s) (.slice A l c)) (Nat.le_refl _)
 have e:((w1.setCell ⟨wb.heap.size,0,none⟩ (.bool s)).setCell ⟨wb.heap.size,1,none⟩ (.slice A l c)).heap.size=w1.heap.size:=by simp [World.setCell]
 have h4:=IntAt.new h2
 rw [e] at h4
 exact ⟨h1.ext ((Fr.refl _ _).alloc _),h4,h3.alloc _,Nat.ne_of_lt hb.lt,Nat.le_refl _,hX.size⟩
theorem two_new4 (hX:Ext wb w1) (hb:Blk 114 w1 wb.heap.size #[.bool false, .slice none 0 0]) (hx:IntIs w1 (.agg #[.bool s, .slice A l c]) x) (hy:IntIs w1 (.agg #[.bool s', .slice A' l' c']) y) :
 TwoNew wb (((w1.setCell ⟨wb.heap.size,0,none⟩ (.bool s')).setCell ⟨wb.heap.size,1,none⟩ (.slice A' l' c')).alloc (bx s A l c)) w1.heap.size wb.heap.size x y:=by
 obtain ⟨h1,h2,h3,h4,h5,h6⟩:=two_new3 hX hb hy hx
 exact ⟨h2,h1,h3,Ne.symm h4,h6,h5⟩
theorem two_new5 (hX:Ext wb w1) (hb:Blk 114 w1 wb.heap.size #[.bool false, .slice none 0 0]) (hb2:Blk 114 w1 (wb.heap.size + 1) #[.bool false, .slice none 0 0]) (hx:IntIs w1 (.agg #[.bool s, .slice A l c]) x) (hy:IntIs w1 (.agg #[.bool s', .slice A' l' c']) y) :
 TwoNew wb ((((w1.setCell ⟨wb.heap.size,0,none⟩ (.bool s)).setCell ⟨wb.heap.size,1,none⟩ (.slice A l c)).setCell ⟨wb.heap.size + 1,0,none⟩ (.bool s')).setCell ⟨wb.heap.size + 1,1,none⟩ (.slice A' l' c')) wb.heap.size (wb.heap.size + 1) x y:=by
 have h1:=(intAt_zero hb).put hx
 have h2:=IntIs.away (a:=.bool s) (b:=.slice A l c) hy (intAt_zero hb)
 have h3:=Fr.local_ hX (Fr.set2 (r:=wb.heap.size) (i:=0) (j:=1) (.bool s) (.slice A l c)) (Nat.le_refl _)
 have h4:=IntAt.away (a:=.bool s) (b:=.slice A l c) (intAt_zero hb2) (intAt_zero hb) (by omega)
 have h5:=Fr.local_ h3 (Fr.set2 (r:=wb.heap.size + 1) (i:=0) (j:=1) (.bool s') (.slice A' l' c')) (by omega)
 exact ⟨h1.away h4 (by omega),h4.put h2,h5,by omega,Nat.le_refl _,by omega⟩
theorem two_new6 (hX:Ext wb w1) (hb:Blk 114 w1 wb.heap.size #[.bool false, .slice none 0 0]) (hb2:Blk 114 w1 (wb.heap.size + 1) #[.bool false, .slice none 0 0]) (hx:IntIs w1 (.agg #[.bool s, .slice A l c]) x) (hy:IntIs w1 (.agg #[.bool s', .slice A' l' c']) y) :
 TwoNew wb ((((w1.setCell ⟨wb.heap.size + 1,0,none⟩ (.bool s)).setCell ⟨wb.heap.size + 1,1,none⟩ (.slice A l c)).setCell ⟨wb.heap.size,0,none⟩ (.bool s')).setCell ⟨wb.heap.size,1,none⟩ (.slice A' l' c')) (wb.heap.size + 1) wb.heap.size x y:=by
 have h1:=(intAt_zero hb2).put hx
 have h2:=IntIs.away (a:=.bool s) (b:=.slice A l c) hy (intAt_zero hb2)
 have h3:=Fr.local_ hX (Fr.set2 (r:=wb.heap.size + 1) (i:=0) (j:=1) (.bool s) (.slice A l c)) (by omega)
 have h4:=IntAt.away (a:=.bool s) (b:=.slice A l c) (intAt_zero hb) (intAt_zero hb2) (by omega)
 have h5:=Fr.local_ h3 (Fr.set2 (r:=wb.heap.size) (i:=0) (j:=1) (.bool s') (.slice A' l' c')) (Nat.le_refl _)
 exact ⟨h1.away h4 (by omega),h4.put h2,h5,by omega,by omega,Nat.le_refl _⟩
end
set_option maxHeartbeats 4000000 in
set_option maxRecDepth 100000 in
theorem ReconstructRatio_any (a b:Value) (v m:Int) (w:World) (hgl:Glob w) (ha:IntIs w a v) (hb:IntIs w b m) (hv:Fits v) (hm:wl m.natAbs < 39) (h2:2≤m) (hga:GcdAll m):Calls Tryz.prog 175 #[a,b] w (RetRec w v m):=by
 obtain ⟨s,A,l,c,rfl⟩:=ha.shape
 obtain ⟨t,B,l',c',rfl⟩:=hb.shape
 have HA:=zh ha
 have HB:=zh hb
 have HGl:=zh hgl
 have HV:=zh hv
 have HM:=zh hm
 have HGA:=zh hga
 clear ha hb hgl hv hm hga
 go_enter Tryz.func175,Tryz.ntmps175
 go_wp2_with fail
 generalize hwb:World.alloc (World.alloc (World.alloc w _) _) _=wb
 obtain ⟨hB0,hB1,hB2,hE⟩:=frac_blocks hwb
 have HB0:=zh hB0
 have HB1:=zh hB1
 have HR:=zh hB2
 have HE:=zh hE
 clear hwb hB0 hB1 hB2 hE
 go_cut [6,7] (fun s6 s7 wx=>∃ g6 g7:Nat,s6=.pointer (some ⟨g6,0,none⟩)∧s7=.pointer (some ⟨g7,0,none⟩)∧Hid (TwoNew wb wx g6 g7 m (v % m)))
 case first =>
  refine wp_region_T 6 (fun w'=>(w'.cell? ⟨w.heap.size,0,none⟩=some (.bool s)∧w'.cell? ⟨w.heap.size,1,none⟩=some (.slice A l c))∧(w'.cell? ⟨w.heap.size + 1,0,none⟩=some (.bool t)∧w'.cell? ⟨w.heap.size + 1,1,none⟩=some (.slice B l' c'))) follows_mixed ?_
  refine wpT_take 0 rfl (by kernel_rfl) (fun _ _ _ h=>h) (keepI2 HB0.out HB1.out ((Fr.refl _ _).drew)) (fun _=>yields_int rfl rfl rfl (fun _ h=>h.2)) (fun hS=>?_)
  refine wpT_take 1 rfl (by kernel_rfl) (fun _ _ _ h=>h) hS (fun _=>yields_int rfl rfl rfl (fun _ h=>h.1)) (fun hS=>?_)
  refine wpT_take 2 rfl (by kernel_rfl) (fun _ _ _ h=>h) hS (fun _=>yields_int rfl rfl rfl (fun _ h=>h.2)) (fun hS=>?_)
  refine wpT_each (rs:=[3,4,5]) (by kernel_rfl) (forall_three ?_ ?_ ?_)
  ·refine ⟨_,rfl,rfl,fun K hK=>?_⟩
   go_simp
   refine (Mod_any _ _ v m _ (HA.out.ext (HE.out.trans ((Fr.refl _ _).drew))) (HB.out.ext (HE.out.trans ((Fr.refl _ _).drew))) HV.out (by have:=HM.out; omega) (by omega)).mono ?_
   rintro e w1 ⟨u1,rfl,hI1,hF1⟩
   obtain ⟨s1,A1,l1,c1,rfl⟩:=hI1.shape
   have hX:Ext wb w1:=((Fr.refl _ _).drew).trans hF1
   refine hK _ _ (keepI2 HB0.out HB1.out (hX)) ?_
   refine wpT_each (rs:=[4,5]) (by kernel_rfl) (forall_two ?_ ?_)
   ·refine ⟨_,rfl,rfl,fun K hK=>?_⟩
    go_simp
    refine hK _ _ (keepI2 HB0.out HB1.out (hX.alloc _)) ?_
    refine wpT_each (rs:=[5]) (by kernel_rfl) (forall_one ?_)
    refine ⟨_,rfl,rfl,fun K hK=>?_⟩
    go_simp
    refine hK _ _ (keepI2 HB0.out HB1.out ((hX.alloc _).alloc _)) ?_
    refine wpT_tail (l:=[_,_]) 6 rfl (by kernel_rfl) ?_
    go_wp2_with fail
    go_meet
    exact ⟨_,_,rfl,rfl,two_new1 hX (HB.out.ext (HE.out.trans hX)) hI1⟩
   ·refine ⟨_,rfl,rfl,fun K hK=>?_⟩
    go_simp
    refine hK _ _ (keepI2 HB0.out HB1.out (hX.alloc _)) ?_
    refine wpT_each (rs:=[4]) (by kernel_rfl) (forall_one ?_)
    refine ⟨_,rfl,rfl,fun K hK=>?_⟩
    go_simp
    refine hK _ _ (keepI2 HB0.out HB1.out ((hX.alloc _).alloc _)) ?_
    refine wpT_tail (l:=[_,_]) 6 rfl (by kernel_rfl) ?_
    go_wp2_with fail
    go_meet
    exact ⟨_,_,rfl,rfl,two_new2 hX (HB.out.ext (HE.out.trans hX)) hI1⟩
  ·refine ⟨_,rfl,rfl,fun K hK=>?_⟩
   go_simp
   refine hK _ _ (keepI2 HB0.out HB1.out (((Fr.refl _ _).drew).alloc _)) ?_
   refine wpT_each (rs:=[3,5]) (by kernel_rfl) (forall_two ?_ ?_)
   ·refine ⟨_,rfl,rfl,fun K hK=>?_⟩
    go_simp
    refine (Mod_any _ _ v m _ (HA.out.ext (HE.out.trans (((Fr.refl _ _).drew).alloc _))) (HB.out.ext (HE.out.trans (((Fr.refl _ _).drew).alloc _))) HV.out (by have:=HM.out; omega) (by omega)).mono ?_
    rintro e w1 ⟨u1,rfl,hI1,hF1⟩
    obtain ⟨s1,A1,l1,c1,rfl⟩:=hI1.shape
    have hX:Ext wb w1:=(((Fr.refl _ _).drew).alloc _).trans hF1
    refine hK _ _ (keepI2 HB0.out HB1.out (hX)) ?_
    refine wpT_each (rs:=[5]) (by kernel_rfl) (forall_one ?_)
    refine ⟨_,rfl,rfl,fun K hK=>?_⟩
    go_simp
    refine hK _ _ (keepI2 HB0.out HB1.out (hX.alloc _)) ?_
    have hb:=(Blk.new wb 114 #[.bool false, .slice none 0 0]).ext (Fr.undrew hF1)
    obtain ⟨f0,f1,f2,f3⟩:=hb.cell2
    have hlt:=hb.lt
    have hne:=Nat.ne_of_lt hlt
    refine wpT_tail (l:=[_,_]) 6 rfl (by kernel_rfl) ?_
    go_wp2_with fail
    go_meet
    exact ⟨_,_,rfl,rfl,two_new3 hX hb (HB.out.ext (HE.out.trans hX)) hI1⟩
   ·refine ⟨_,rfl,rfl,fun K hK=>?_⟩
    go_simp
    refine hK _ _ (keepI2 HB0.out HB1.out ((((Fr.refl _ _).drew).alloc _).alloc _)) ?_
    refine wpT_each (rs:=[3]) (by kernel_rfl) (forall_one ?_)
    refine ⟨_,rfl,rfl,fun K hK=>?_⟩
    go_simp
    refine (Mod_any _ _ v m _ (HA.out.ext (HE.out.trans ((((Fr.refl _ _).drew).alloc _).alloc _))) (HB.out.ext (HE.out.trans ((((Fr.refl _ _).drew).alloc _).alloc _))) HV.out (by have:=HM.out; omega) (by omega)).mono ?_
    rintro e w1 ⟨u1,rfl,hI1,hF1⟩
    obtain ⟨s1,A1,l1,c1,rfl⟩:=hI1.shape
    have hX:Ext wb w1:=((((Fr.refl _ _).drew).alloc _).alloc _).trans hF1
    refine hK _ _ (keepI2 HB0.out HB1.out (hX)) ?_
    have hb:=((Blk.new wb 114 #[.bool false, .slice none 0 0]).alloc (.cells #[.bool false, .slice none 0 0] 114)).ext (Fr.undrew hF1)
    have hb2:=(blk_second wb 114 #[.bool false, .slice none 0 0] #[.bool false, .slice none 0 0]).ext (Fr.undrew hF1)
    obtain ⟨f0,f1,f2,f3⟩:=hb.cell2
    obtain ⟨f4,f5,f6,f7⟩:=hb2.cell2
    refine wpT_tail (l:=[_,_]) 6 rfl (by kernel_rfl) ?_
    go_wp2_with fail
    go_meet
    exact ⟨_,_,rfl,rfl,two_new5 hX hb hb2 (HB.out.ext (HE.out.trans hX)) hI1⟩
  ·refine ⟨_,rfl,rfl,fun K hK=>?_⟩
   go_simp
   refine hK _ _ (keepI2 HB0.out HB1.out (((Fr.refl _ _).drew).alloc _)) ?_
   refine wpT_each (rs:=[3,4]) (by kernel_rfl) (forall_two ?_ ?_)
   ·refine ⟨_,rfl,rfl,fun K hK=>?_⟩
    go_simp
    refine (Mod_any _ _ v m _ (HA.out.ext (HE.out.trans (((Fr.refl _ _).drew).alloc _))) (HB.out.ext (HE.out.trans (((Fr.refl _ _).drew).alloc _))) HV.out (by have:=HM.out; omega) (by omega)).mono ?_
    rintro e w1 ⟨u1,rfl,hI1,hF1⟩
    obtain ⟨s1,A1,l1,c1,rfl⟩:=hI1.shape
    have hX:Ext wb w1:=(((Fr.refl _ _).drew).alloc _).trans hF1
    refine hK _ _ (keepI2 HB0.out HB1.out (hX)) ?_
    refine wpT_each (rs:=[4]) (by kernel_rfl) (forall_one ?_)
    refine ⟨_,rfl,rfl,fun K hK=>?_⟩
    go_simp
    refine hK _ _ (keepI2 HB0.out HB1.out (hX.alloc _)) ?_
    have hb:=(Blk.new wb 114 #[.bool false, .slice none 0 0]).ext (Fr.undrew hF1)
    obtain ⟨f0,f1,f2,f3⟩:=hb.cell2
    have hlt:=hb.lt
    have hne:=Nat.ne_of_lt hlt
    refine wpT_tail (l:=[_,_]) 6 rfl (by kernel_rfl) ?_
    go_wp2_with fail
    go_meet
    exact ⟨_,_,rfl,rfl,two_new4 hX hb (HB.out.ext (HE.out.trans hX)) hI1⟩
   ·refine ⟨_,rfl,rfl,fun K hK=>?_⟩
    go_simp
    refine hK _ _ (keepI2 HB0.out HB1.out ((((Fr.refl _ _).drew).alloc _).alloc _)) ?_
    refine wpT_each (rs:=[3]) (by kernel_rfl) (forall_one ?_)
    refine ⟨_,rfl,rfl,fun K hK=>?_⟩
    go_simp
    refine (Mod_any _ _ v m _ (HA.out.ext (HE.out.trans ((((Fr.refl _ _).drew).alloc _).alloc _))) (HB.out.ext (HE.out.trans ((((Fr.refl _ _).drew).alloc _).alloc _))) HV.out (by have:=HM.out; omega) (by omega)).mono ?_
    rintro e w1 ⟨u1,rfl,hI1,hF1⟩
    obtain ⟨s1,A1,l1,c1,rfl⟩:=hI1.shape
    have hX:Ext wb w1:=((((Fr.refl _ _).drew).alloc _).alloc _).trans hF1
    refine hK _ _ (keepI2 HB0.out HB1.out (hX)) ?_
    have hb:=((Blk.new wb 114 #[.bool false, .slice none 0 0]).alloc (.cells #[.bool false, .slice none 0 0] 114)).ext (Fr.undrew hF1)
    have hb2:=(blk_second wb 114 #[.bool false, .slice none 0 0] #[.bool false, .slice none 0 0]).ext (Fr.undrew hF1)
    obtain ⟨f0,f1,f2,f3⟩:=hb.cell2
    obtain ⟨f4,f5,f6,f7⟩:=hb2.cell2
    refine wpT_tail (l:=[_,_]) 6 rfl (by kernel_rfl) ?_
    go_wp2_with fail
    go_meet
    exact ⟨_,_,rfl,rfl,two_new6 hX hb hb2 (HB.out.ext (HE.out.trans hX)) hI1⟩
 case rest =>
  obtain ⟨g6,g7,rfl,rfl,hT⟩:=hcut
  obtain ⟨h6,h7,hEc,hne67,hl6,hl7⟩:=hT.out
  have hR1:=HR.out.ext hEc
  have hM1:IntAt wc (w.heap.size + 1) m:=⟨_,_,_,_,HB1.out.ext hEc,HB.out.ext (HE.out.trans hEc)⟩
  have hsz:w.heap.size + 1 + 1 < wb.heap.size:=HR.out.lt
  have hmod0:=Int.emod_nonneg v (show m≠0 by omega)
  have hmod1:=Int.emod_lt_of_pos v (show 0 < m by omega)
  have H6:=zh h6
  have H7:=zh h7
  have HEc:=zh (HE.out.trans hEc)
  have HR1:=zh hR1
  have HM1:=zh hM1
  have hc6:=h6.lt
  have hc7:=h7.lt
  clear h6 h7 hEc hT hR1 hM1 HB0 HB1 HR HE HA HV
  generalize hMM:w.heap.size + 1=M at *
  generalize hRR:M + 1=R at *
  have d1:w.heap.size≤M:=by omega
  have d2:w.heap.size≤R:=by omega
  have d3:M≠R:=by omega
  have d4:M < g6:=by omega
  have d5:M < g7:=by omega
  have d6:R < g6:=by omega
  have d7:R < g7:=by omega
  clear hMM hRR hsz hl6 hl7
  clear wb
  go_wp2_with fail
  refine (New_pos 0 _ W64_pos rfl rfl).mono ?_
  rintro e w1 ⟨u1,rfl,hI1,hF1⟩
  obtain ⟨s1,B1,l1,c1,rfl⟩:=hI1.shape
  go_wp2_with fail
  refine (New_pos 1 _ W64_one rfl rfl).mono ?_
  rintro e w2 ⟨u2,rfl,hI2,hF2⟩
  obtain ⟨s2,B2,l2,c2,rfl⟩:=hI2.shape
  have HTN:=zh (two_new1 (hF1.trans hF2) (hI1.ext hF2) hI2)
  have d8:g6 < w2.heap.size:=Nat.lt_of_lt_of_le hc6 (hF1.trans hF2).size
  have d9:g7 < w2.heap.size:=Nat.lt_of_lt_of_le hc7 (hF1.trans hF2).size
  clear hI1 hI2 hF1 hF2 hc6 hc7
  go_wp2
  generalize hwx:World.alloc (World.alloc w2 _) _=wx
  have HST:Hid (RecSt w wx M R g6 g7 w2.heap.size (w2.heap.size + 1) v m m (v % m) 0 1):=by
   have h:=HTN.out
   rw [show (w2.alloc (bx s1 B1 l1 c1)).alloc (bx s2 B2 l2 c2)=wx from hwx] at h
   obtain ⟨k1,k2,k3,_⟩:=h
   exact ⟨⟨HEc.out.trans k3,HM1.out.ext k3,HR1.out.ext k3,H6.out.ext k3,H7.out.ext k3,k1,k2⟩,RecInv.start hmod0 hmod1,fun _ _ h=>h⟩
  have hfg:w2.heap.size≠w2.heap.size + 1:=by omega
  have d10:g6 < w2.heap.size + 1:=by omega
  have d11:g7 < w2.heap.size + 1:=by omega
  generalize w2.heap.size + 1=g at *
  generalize w2.heap.size=f at *
  clear hwx HTN H6 H7 HEc HR1 HM1 hmod0 hmod1 w1 w2
  have HNE:Hid (RecNe w M R g6 g7 f g):=⟨d1,d2,d3,d4,d5,d6,d7,hne67,d8,d9,d10,d11,hfg⟩
  go_loopg [10] (v % m).toNat (fun k _ wr=>∃ r0 r1 t0 t1:Int,k=r1.toNat∧Hid (RecSt w wr M R g6 g7 f g v m r0 r1 t0 t1))
  case atStart=>exact ⟨m,v % m,0,1,rfl,HST.out⟩
  case round =>
   obtain ⟨r0,r1,t0,t1,hk,hST⟩:=hrel
   have HK:=zh hk
   clear hk HST
   obtain ⟨hMem,hInv,hRun⟩:=hST.out
   obtain ⟨b1,b2,b3,b4⟩:=hInv.bound
   have HInv:=zh hInv
   have HRun:=zh hRun
   have HMem:=zh hMem
   have HBt:=zh b1
   have W1:Hid (wl t1.natAbs < 39):=Nat.lt_of_le_of_lt (wl_mono b1) HM.out
   have W2:Hid (wl r0.natAbs < 39):=Nat.lt_of_le_of_lt (wl_mono b2) HM.out
   have W3:Hid (wl r1.natAbs < 39):=Nat.lt_of_le_of_lt (wl_mono b3) HM.out
   have W4:Hid (0 < r1→wl t0.natAbs < 39):=fun h=>Nat.lt_of_le_of_lt (wl_mono (b4 h)) HM.out
   have HB3:=zh b3
   have FM:Hid (Fits m):=by have:=HM.out; unfold Hid Fits; omega
   obtain ⟨sm,Am,lm,cm,hBm,hIm⟩:=hMem.mod
   obtain ⟨sr,Ar,lr,cr,hBr,hIr⟩:=hMem.rest1
   obtain ⟨m0,m1,_,_⟩:=hBm.cell2
   obtain ⟨n0,n1,_,_⟩:=hBr.cell2
   clear hST hMem hInv hRun b1 b2 b3 b4
   go_wp2_with fail
   refine (isSmall_any _ _ r1 m _ hIr hIm (by have:=W3.out; omega) FM.out).mono ?_
   by_cases hsm:r1 * r1 * 2 < m
   ·have HSM:=zh hsm
    rw [decide_eq_true hsm]
    rintro e w1 ⟨rfl,hF1⟩
    replace HMem:=zh (HMem.out.on hF1)
    clear hBm hIm hBr hIr m0 m1 n0 n1 hF1 hsm
    obtain ⟨sm,Am,lm,cm,hBm,hIm⟩:=HMem.out.mod
    obtain ⟨sg_,Ag,lg,cg,hBg,hIg⟩:=HMem.out.fac1
    obtain ⟨m0,m1,_,_⟩:=hBm.cell2
    obtain ⟨n0,n1,_,_⟩:=hBg.cell2
    go_wp2_with fail
    refine (isSmall_any _ _ t1 m _ hIg hIm (by have:=W1.out; omega) FM.out).mono ?_
    by_cases hst:t1 * t1 * 2 < m
    ·have HST:=zh hst
     rw [decide_eq_true hst]
     rintro e w2 ⟨rfl,hF1⟩
     replace HMem:=zh (HMem.out.on hF1)
     clear hBm hIm hBg hIg m0 m1 n0 n1 hF1 hst
     obtain ⟨sm,Am,lm,cm,hBm,hIm⟩:=HMem.out.mod
     obtain ⟨sg_,Ag,lg,cg,hBg,hIg⟩:=HMem.out.fac1
     obtain ⟨m0,m1,_,_⟩:=hBm.cell2
     obtain ⟨n0,n1,_,_⟩:=hBg.cell2
     go_wp2_with fail
     refine (GCD_any _ _ t1 m _ (HGl.out.ext HMem.out.ext) hIg hIm (by have:=W1.out; unfold Fits; omega) FM.out (HGA.out _ _ ⟨HBt.out,Nat.le_refl _⟩)).mono ?_
     rintro e w3 ⟨u3,rfl,hI3,hF1⟩
     obtain ⟨s3,A3,l3,c3,rfl⟩:=hI3.shape
     have HI3:=zh hI3
     replace HMem:=zh (HMem.out.on hF1)
     clear hBm hIm hBg hIg m0 m1 n0 n1 hF1 hI3
     go_wp2_with fail
     refine (IsOne_any _ _ _ HI3.out).mono ?_
     clear HI3
     by_cases hg1:((Int.gcd t1 m:Nat):Int)=1
     ·rw [decide_eq_true hg1]
      have HG1:Hid (Int.gcd t1 m=1):=by unfold Hid; omega
      rintro e w4 ⟨rfl,hF1⟩
      replace HMem:=zh (HMem.out.on hF1)
      clear hF1 hg1
      obtain ⟨sr,Ar,lr,cr,hBr,hIr⟩:=HMem.out.rest1
      obtain ⟨sg_,Ag,lg,cg,hBg,hIg⟩:=HMem.out.fac1
      obtain ⟨m0,m1,_,_⟩:=hBr.cell2
      obtain ⟨n0,n1,_,_⟩:=hBg.cell2
      go_wp2_with fail
      refine (GCD_any _ _ t1 r1 _ (HGl.out.ext HMem.out.ext) hIg hIr (by have:=W1.out; unfold Fits; omega) (by have:=W3.out; unfold Fits; omega) (HGA.out _ _ ⟨HBt.out,HB3.out⟩)).mono ?_
      rintro e w5 ⟨u5,rfl,hI5,hF1⟩
      obtain ⟨s5,A5,l5,c5,rfl⟩:=hI5.shape
      have HI5:=zh hI5
      replace HMem:=zh (HMem.out.on hF1)
      clear hBr hIr hBg hIg m0 m1 n0 n1 hF1 hI5
      go_wp2_with fail
      refine (IsOne_any _ _ _ HI5.out).mono ?_
      clear HI5
      by_cases hg2:((Int.gcd t1 r1:Nat):Int)=1
      ·rw [decide_eq_true hg2]
       have HG2:Hid (Int.gcd t1 r1=1):=by unfold Hid; omega
       have Ht0:Hid (t1≠0):=fun e0=>by
        have h1:=HG1.out
        rw [e0] at h1
        simp at h1
        omega
       rintro e w6 ⟨rfl,hF1⟩
       have HRi:Hid (RecIs v m (Rat.divInt r1 t1) true):=⟨r1,t1,HRun.out _ _ (RecRun.done HSM.out),Or.inl ⟨rfl,HST.out,HG1.out,HG2.out,rfl⟩⟩
       replace HMem:=zh (HMem.out.on hF1)
       clear hF1 hg2
       obtain ⟨sr,Ar,lr,cr,hBr,hIr⟩:=HMem.out.rest1
       obtain ⟨sg_,Ag,lg,cg,hBg,hIg⟩:=HMem.out.fac1
       obtain ⟨m0,m1,_,_⟩:=hBr.cell2
       obtain ⟨n0,n1,_,_⟩:=hBg.cell2
       go_wp2_with fail
       refine (Fraction_any _ _ r1 t1 _ (HGl.out.ext HMem.out.ext) hIr hIg (by have:=W3.out; unfold Fits; omega) (by have:=W1.out; unfold Fits; omega) (HGA.out _ _ ⟨HB3.out,HBt.out⟩) (by have:=W1.out; omega) Ht0.out).mono ?_
       rintro e w7 ⟨u7,rfl,hR7,hF1⟩
       obtain ⟨s,t,A,B,l,c,l',c',rfl,hIn,hId⟩:=hR7
       have HIn:=zh hIn
       have HId:=zh hId
       replace HMem:=zh (HMem.out.on hF1)
       clear hBr hIr hBg hIg m0 m1 n0 n1 hF1 hIn hId
       obtain ⟨z0,z1,z2,z3,z4,z5,z6,z7⟩:=HMem.out.res.cell4
       go_wp2
       exact fin_rec rfl rfl rfl (HMem.out.res.put4 _ _ _ _) (Fr.local_ HMem.out.ext (Fr.set4 _ _ _ _) d2) ⟨_,_,_,_,_,_,_,_,rfl,HIn.out.other HMem.out.res noWords4 (Fr.set4 _ _ _ _),HId.out.other HMem.out.res noWords4 (Fr.set4 _ _ _ _)⟩ HRi.out
      ·rw [decide_eq_false hg2]
       have HG2:Hid (¬ Int.gcd t1 r1=1):=by unfold Hid; omega
       clear hg2
       rintro e w6 ⟨rfl,hF⟩
       have HRi:Hid (RecIs v m 0 false):=⟨r1,t1,HRun.out _ _ (RecRun.done HSM.out),Or.inr ⟨rfl,fun hh=>HG2.out hh.2.2,rfl⟩⟩
       replace HMem:=zh (HMem.out.on hF)
       clear hF
       obtain ⟨z0,z1,z2,z3,z4,z5,z6,z7⟩:=HMem.out.res.cell4
       go_wp2
       exact fin_rec rfl rfl rfl (HMem.out.res.put4 _ _ _ _) (Fr.local_ HMem.out.ext (Fr.set4 _ _ _ _) d2) (RatIs.zero _) HRi.out
     ·rw [decide_eq_false hg1]
      have HG1:Hid (¬ Int.gcd t1 m=1):=by unfold Hid; omega
      clear hg1
      rintro e w4 ⟨rfl,hF⟩
      have HRi:Hid (RecIs v m 0 false):=⟨r1,t1,HRun.out _ _ (RecRun.done HSM.out),Or.inr ⟨rfl,fun hh=>HG1.out hh.2.1,rfl⟩⟩
      replace HMem:=zh (HMem.out.on hF)
      clear hF
      obtain ⟨z0,z1,z2,z3,z4,z5,z6,z7⟩:=HMem.out.res.cell4
      go_wp2
      exact fin_rec rfl rfl rfl (HMem.out.res.put4 _ _ _ _) (Fr.local_ HMem.out.ext (Fr.set4 _ _ _ _) d2) (RatIs.zero _) HRi.out
    ·rw [decide_eq_false hst]
     have HST:=zh hst
     clear hst hBm hIm hBg hIg m0 m1 n0 n1
     rintro e w2 ⟨rfl,hF⟩
     have HRi:Hid (RecIs v m 0 false):=⟨r1,t1,HRun.out _ _ (RecRun.done HSM.out),Or.inr ⟨rfl,fun hh=>HST.out hh.1,rfl⟩⟩
     replace HMem:=zh (HMem.out.on hF)
     clear hF
     obtain ⟨z0,z1,z2,z3,z4,z5,z6,z7⟩:=HMem.out.res.cell4
     go_wp2
     exact fin_rec rfl rfl rfl (HMem.out.res.put4 _ _ _ _) (Fr.local_ HMem.out.ext (Fr.set4 _ _ _ _) d2) (RatIs.zero _) HRi.out
   ·rw [decide_eq_false hsm]
    rintro e w1 ⟨rfl,hF1⟩
    have HSM:=zh hsm
    have hr1:0 < r1:=by
     have:=HInv.out.nonneg
     rcases Int.lt_or_le 0 r1 with h | h
     ·exact h
     ·exfalso; apply hsm; have e0:r1=0:=by omega
      rw [e0]; omega
    replace HMem:=zh (HMem.out.on hF1)
    clear hBm hIm hBr hIr m0 m1 n0 n1 hF1 hsm
    obtain ⟨s0,A0,l0,c0,hB0,hI0⟩:=HMem.out.rest0
    obtain ⟨s7,A7,l7,c7,hB7,hI7⟩:=HMem.out.rest1
    obtain ⟨m0,m1,_,_⟩:=hB0.cell2
    obtain ⟨n0,n1,_,_⟩:=hB7.cell2
    go_wp2_with fail
    refine (QuoRem_any _ _ r0 r1 _ hI0 hI7 (by have:=W2.out; unfold Fits; omega) (by have:=W3.out; omega) (by omega)).mono ?_
    rintro e w2 ⟨u1,u2,rfl,hN1,hN2,hF2⟩
    obtain ⟨sq,Aq,lq,cq,rfl⟩:=hN1.shape
    obtain ⟨sn,An,ln,cn,rfl⟩:=hN2.shape
    have HI7:=zh (hI7.ext hF2)
    have HTN:=zh (two_new1 (Fr.refl _ _) hN1 hN2)
    replace HMem:=zh (HMem.out.on hF2)
    have e10:g < w2.heap.size:=HMem.out.fac1.lt
    have e11:f < w2.heap.size:=HMem.out.fac0.lt
    have HWq:Hid (wl (r0.tdiv r1).natAbs < 39):=by
     have h1:(r0.tdiv r1).natAbs≤r0.natAbs:=by rw [Int.natAbs_tdiv]; exact Nat.div_le_self _ _
     exact Nat.lt_of_le_of_lt (wl_mono h1) W2.out
    have HNx:=zh (HInv.out.next hr1)
    have HRn:Hid (∀ x y,RecRun m r1 (r0.tmod r1) t1 (t0 - r0.tdiv r1 * t1) x y→RecRun m m (v % m) 0 1 x y):=fun x y h=>HRun.out x y (RecRun.step (Int.not_lt.2 HSM.out) h)
    have hmeas:Hid ((r0.tmod r1).toNat < gk):=by
     have h1:=HNx.out.lt
     have h2:=HNx.out.nonneg
     have:=HK.out
     unfold Hid; omega
    clear hN1 hN2 hF2 hB0 hI0 hB7 hI7 m0 m1 n0 n1 HSM HInv HRun
    go_wp2_with fail
    generalize hw3:World.alloc (World.alloc w2 _) _=w3
    have hTN:=HTN.out
    rw [show (w2.alloc (bx sq Aq lq cq)).alloc (bx sn An ln cn)=w3 from hw3] at hTN
    obtain ⟨h10,h11,hE3,hne10,_,_⟩:=hTN
    replace HMem:=zh (HMem.out.on hE3)
    replace HI7:=zh (HI7.out.ext hE3)
    have e12:g < w2.heap.size + 1:=by omega
    have e13:f < w2.heap.size + 1:=by omega
    have H10:=zh h10
    have H11:=zh h11
    generalize w2.heap.size + 1=G11 at *
    generalize w2.heap.size=G10 at *
    clear hw3 HTN hE3 h10 h11
    obtain ⟨s7',A7',l7',c7',hB7,hI7⟩:=HMem.out.rest1
    obtain ⟨s11,A11,l11,c11,hB11,hI11⟩:=H11.out
    obtain ⟨s6,A6,l6,c6,hB6,_⟩:=HMem.out.rest0
    obtain ⟨p0,p1,p2,p3⟩:=hB6.cell2
    have hD:=HNE.out
    unfold RecNe at hD
    refine wp_region_T 3 (fun w'=>(w'.cell? ⟨g7,0,none⟩=some (.bool s7')∧w'.cell? ⟨g7,1,none⟩=some (.slice A7' l7' c7'))∧(w'.cell? ⟨G11,0,none⟩=some (.bool s11)∧w'.cell? ⟨G11,1,none⟩=some (.slice A11 l11 c11))) follows_mixed ?_
    refine wpT_take 0 rfl (by kernel_rfl) (fun _ _ _ h=>h) (keepI2 hB7 hB11 (Fr.refl _ _).drew) (fun _=>yields_int rfl rfl rfl (fun _ h=>h.1)) (fun hS=>?_)
    refine wpT_take 1 rfl (by kernel_rfl) (fun _ _ _ h=>h) hS (fun _=>yields_int rfl rfl rfl (fun _ h=>h.2)) (fun hS=>?_)
    refine wpT_only 2 rfl (by kernel_rfl) rfl (fun K hK=>?_)
    go_simp
    refine hK _ _ (keepF2 hB7 hB11 (r:=g6) (i:=0) (j:=1) (by omega) (by omega)) ?_
    have kA:=(HMem.out.put0 HNE.out hI7).on (Fr.refl _ _).drew
    have kI:=(IntIs.away (a:=.bool s7') (b:=.slice A7' l7' c7') hI11 HMem.out.rest0).ext (Fr.refl _ _).drew
    have k10:=(IntAt.away (a:=.bool s7') (b:=.slice A7' l7' c7') H10.out HMem.out.rest0 (by omega)).ext (Fr.refl _ _).drew
    first
     | generalize World.drew (World.setCell (World.setCell w3 _ _) _ _)=wA at *
     | generalize World.setCell (World.setCell (World.drew w3) _ _) _ _=wA at *
    have HMA:=zh kA
    have HIA:=zh kI
    have H10A:=zh k10
    obtain ⟨s7'',A7'',l7'',c7'',hB7'',_⟩:=kA.rest1
    obtain ⟨q0,q1,q2,q3⟩:=hB7''.cell2
    clear kA kI k10 hK hS hB7 hI7 hB11 hI11 hB6 p0 p1 p2 p3 HI7 H10 H11 hB7'' HMem
    refine wpT_tail (l:=[_]) 3 rfl (by kernel_rfl) ?_
    go_wp2_with fail
    have kB:=HMA.out.put1 HNE.out HIA.out
    have k10:=IntAt.away (a:=.bool s11) (b:=.slice A11 l11 c11) H10A.out HMA.out.rest1 (by omega)
    generalize World.setCell (World.setCell wA _ _) _ _=wB at *
    have HMB:=zh kB
    have H10B:=zh k10
    clear kB k10 q0 q1 q2 q3 HMA HIA H10A
    obtain ⟨sf,Af,lf,cf,hBf,hIf⟩:=HMB.out.fac0
    obtain ⟨sg_,Ag,lg,cg,hBg,hIg⟩:=HMB.out.fac1
    obtain ⟨st,At,lt,ct,hBt,hIt⟩:=H10B.out
    refine wp_region_T 6 (fun w'=>(w'.cell? ⟨g,0,none⟩=some (.bool sg_)∧w'.cell? ⟨g,1,none⟩=some (.slice Ag lg cg))∧(w'.cell? ⟨f,0,none⟩=some (.bool sf)∧w'.cell? ⟨f,1,none⟩=some (.slice Af lf cf))∧(w'.cell? ⟨G10,0,none⟩=some (.bool st)∧w'.cell? ⟨G10,1,none⟩=some (.slice At lt ct))) follows_mixed ?_
    refine wpT_take 0 rfl (by kernel_rfl) (fun _ _ _ h=>h) (keepI3 hBg hBf hBt (Fr.refl _ _).drew) (fun _=>yields_int rfl rfl rfl (fun _ h=>h.1)) (fun hS=>?_)
    refine wpT_take 1 rfl (by kernel_rfl) (fun _ _ _ h=>h) hS (fun _=>yields_int rfl rfl rfl (fun _ h=>h.2.1)) (fun hS=>?_)
    refine wpT_take 2 rfl (by kernel_rfl) (fun _ _ _ h=>h) hS (fun _=>yields_int rfl rfl rfl (fun _ h=>h.2.2)) (fun hS=>?_)
    refine wpT_take 3 rfl (by kernel_rfl) (fun _ _ _ h=>h) hS (fun _=>yields_int rfl rfl rfl (fun _ h=>h.1)) (fun hS=>?_)
    refine wpT_only 4 rfl (by kernel_rfl) rfl (fun K hK=>?_)
    go_simp
    refine (Mul_any _ _ (r0.tdiv r1) t1 _ (hIt.ext (Fr.refl _ _).drew) (hIg.ext (Fr.refl _ _).drew) (by have:=HWq.out; unfold Fits; omega) (by have:=W1.out; unfold Fits; omega) (Or.inr (by have:=W1.out; omega))).mono ?_
    rintro e wM ⟨uM,rfl,hIM,hFM⟩
    obtain ⟨sM,AM,lM,cM,rfl⟩:=hIM.shape
    replace hFM:=Fr.undrew hFM
    refine hK _ _ (keepI3 hBg hBf hBt hFM) ?_
    refine wpT_only 5 rfl (by kernel_rfl) rfl (fun K hK=>?_)
    go_simp
    refine (Sub_any _ _ t0 (r0.tdiv r1 * t1) _ (hIf.ext hFM) hIM (by have:=W4.out hr1; unfold Fits; omega) (by have h1:=wl_mul (r0.tdiv r1).natAbs t1.natAbs; have:=HWq.out; have:=W1.out; unfold Fits; rw [Int.natAbs_mul]; omega)).mono ?_
    rintro e wS ⟨uS,rfl,hIS,hFS⟩
    obtain ⟨sS,AS,lS,cS,rfl⟩:=hIS.shape
    refine hK _ _ (keepI3 hBg hBf hBt (hFM.trans hFS)) ?_
    have HMC:=zh (HMB.out.on (hFM.trans hFS))
    have HIg:=zh (hIg.ext (hFM.trans hFS))
    have HIS:=zh hIS
    clear hK hS hBf hIf hBg hIg hBt hIt hIM hFM hIS hFS HMB H10B
    obtain ⟨sf',Af',lf',cf',hBf',_⟩:=HMC.out.fac0
    obtain ⟨sg',Ag',lg',cg',hBg',_⟩:=HMC.out.fac1
    obtain ⟨p0,p1,p2,p3⟩:=hBf'.cell2
    obtain ⟨q0,q1,q2,q3⟩:=hBg'.cell2
    clear hBf' hBg'
    refine wpT_tail (l:=[_,_]) 6 rfl (by kernel_rfl) ?_
    go_wp2
    have kC:=HMC.out.put2 HNE.out HIg.out
    have kI:=IntIs.away (a:=.bool sg_) (b:=.slice Ag lg cg) HIS.out HMC.out.fac0
    have kD:=kC.put3 HNE.out kI
    go_roundg (r0.tmod r1).toNat
    case measure=>exact hmeas.out
    case rel=>exact ⟨r1,r0.tmod r1,t1,t0 - r0.tdiv r1 * t1,rfl,kD,HNx.out,HRn.out⟩
end Go.Proofs.YtbgkofgoeoiciaaGreatDoor

namespace Go.Proofs.YtbgkofgoeoiciaaGreatDoor
open Go.RowKit
theorem denF_den {q:Rat} (h:q.den≠1):denF q=(q.den:Int):=by unfold denF; rw [if_neg h]
set_option maxHeartbeats 1000000 in
set_option maxRecDepth 100000 in
theorem Den_any (a:Value) (q:Rat) (w:World) (ha:RatIs w a q):Calls Tryz.prog 140 #[a] w (RetInt w (q.den:Int)):=by
 obtain ⟨s,t,A,B,l,c,l',c',rfl,hn,hd⟩:=ha
 have HD:=zh hd
 clear hn hd
 go_enter Tryz.func140,Tryz.ntmps140
 go_wp2_with fail
 generalize hwb:World.alloc (World.alloc w _) _=wb
 have hB0:Blk 116 wb w.heap.size #[.bool s, .slice A l c, .bool t, .slice B l' c']:=hwb ▸ (Blk.new _ _ _).alloc _
 have hB1:Blk 114 wb (w.heap.size + 1) #[.bool false, .slice none 0 0]:=by
  have h:=Blk.new (w.alloc (.cells #[.bool s, .slice A l c, .bool t, .slice B l' c'] 116)) 114 #[.bool false, .slice none 0 0]
  have e:(w.alloc (.cells #[.bool s, .slice A l c, .bool t, .slice B l' c'] 116)).heap.size=w.heap.size + 1:=by simp
  rw [e,hwb] at h
  exact h
 have hE:Ext w wb:=hwb ▸ ((Fr.refl _ _).alloc _).alloc _
 clear hwb
 by_cases h1:q.den=1
 ·have hz:=denF_zero.2 h1
  rw [hz] at HD
  refine (IsZero_any _ _ _ (HD.out.ext hE)).mono ?_
  rw [decide_eq_true rfl]
  rintro e w1 ⟨rfl,hF⟩
  have HB1:=zh (hB1.ext hF)
  have HE:=zh (hE.trans hF)
  have HQ:Hid ((q.den:Int)=1):=by unfold Hid; omega
  clear hB0 hB1 hE hF hz h1
  go_wp2_with fail
  refine (New_pos 1 _ W64_one rfl rfl).mono ?_
  rintro e w2 ⟨u2,rfl,hI2,hF2⟩
  obtain ⟨s2,B2,l2,c3,rfl⟩:=hI2.shape
  have hB2:=HB1.out.ext hF2
  obtain ⟨x0,x1,x2,x3⟩:=hB2.cell2
  have HB2:=zh hB2
  have HI2:=zh hI2
  have HE2:=zh (HE.out.trans hF2)
  clear hB2 hI2 hF2
  go_wp2
  refine fin_int0 rfl rfl ((HB2.out.set_ 0 _).set_ 1 _) (by rw [HQ.out]; exact HI2.out.store2 HB2.out) ((HE2.out.setCell (Or.inr (by show _≤w.heap.size + 1; omega)) _).setCell (Or.inr (by show _≤w.heap.size + 1; omega)) _)
 ·have hz:=denF_den h1
  have hne:denF q≠0:=by rw [hz]; have:=q.den_nz; omega
  refine (IsZero_any _ _ _ (HD.out.ext hE)).mono ?_
  rw [decide_eq_false hne]
  rintro e w1 ⟨rfl,hF⟩
  rw [hz] at HD
  have HI2:=zh (HD.out.ext (hE.trans hF))
  have HB1:=zh (hB1.ext hF)
  have HE:=zh (hE.trans hF)
  obtain ⟨y0,y1,y2,y3,y4⟩:=(hB0.ext hF).cell4
  obtain ⟨x0,x1,x2,x3⟩:=HB1.out.cell2
  clear hB0 hB1 hE hF hz h1 hne HD
  go_wp2
  exact fin_int0 rfl rfl ((HB1.out.set_ 0 _).set_ 1 _) (HI2.out.store2 HB1.out) ((HE.out.setCell (Or.inr (by show _≤w.heap.size + 1; omega)) _).setCell (Or.inr (by show _≤w.heap.size + 1; omega)) _)
noncomputable def valF (l:List UInt8):Rat:=(readF l).getD 0
set_option maxHeartbeats 1000000 in
set_option maxRecDepth 100000 in
theorem value_any (s:ByteArray) (w:World) (hg:Glob w) (hok:ReadOk (bytes s)):Calls Tryz.prog 135 #[.string s] w (RetRat w (valF (bytes s))):=by
 have HG:=zh hg
 have HO:=zh hok
 clear hg hok
 go_enter Tryz.func135,Tryz.ntmps135
 go_wp2_with fail
 generalize hwb:World.alloc w _=wb
 obtain ⟨hB0,hE0⟩:=Blk.one hwb
 clear hwb
 refine (Read_any s _ (HG.out.ext hE0) HO.out).mono ?_
 rintro e w1 ⟨v,ok,rfl,hF1,hR⟩
 have hq:RatIs w1 v (valF (bytes s)):=by
  unfold valF
  rcases hR with ⟨_,q,h1,h2⟩ | ⟨_,h1,h2⟩
  ·rw [h1]; exact h2
  ·rw [h1]; exact h2
 obtain ⟨a,b,A,B,l,c,l',c',rfl,hn,hd⟩:=hq
 have HB:=zh (hB0.ext hF1)
 have HE:=zh (hE0.trans hF1)
 have HN:=zh hn
 have HD:=zh hd
 have hlt:=(hB0.ext hF1).lt
 obtain ⟨y0,y1,y2,y3,y4,y5,y6,y7⟩:=(hB0.ext hF1).cell4
 clear hB0 hE0 hF1 hR hn hd
 generalize hr:w.heap.size=r at *
 have HR:=zh hr
 clear hr
 go_wp2
 have hB2:=HB.out.put4 (.bool a) (.slice A l c) (.bool b) (.slice B l' c')
 have hF2:Fr (fun i=>i=r) w1 ((((w1.setCell ⟨r,0,none⟩ (.bool a)).setCell ⟨r,1,none⟩ (.slice A l c)).setCell ⟨r,2,none⟩ (.bool b)).setCell ⟨r,3,none⟩ (.slice B l' c')):=Fr.set4 _ _ _ _
 refine fin_rat rfl rfl (hB2.alloc _) ((HN.out.other HB.out noWords4 hF2).ext ((Fr.refl _ _).alloc _)) ((HD.out.other HB.out noWords4 hF2).ext ((Fr.refl _ _).alloc _)) ((Fr.local_ HE.out hF2 (by rw [HR.out]; exact Nat.le_refl _)).alloc _)
end Go.Proofs.YtbgkofgoeoiciaaGreatDoor

namespace Go.Proofs.YtbgkofgoeoiciaaGreatDoor
open Go.RowKit
theorem dec_wl {l:List UInt8} (hd:l.all isDig=true) (hl:l.length≤570):wl (decVal l)≤30:=by
 rw [wl_le_iff]
 have h1:=decVal_lt l hd
 obtain ⟨k,hk⟩:∃ k,k=30:=⟨_,rfl⟩
 have h2:10 ^ l.length≤10 ^ (19 * k):=Nat.pow_le_pow_right (by omega) (by omega)
 rw [← hk]
 rw [Nat.pow_mul] at h2
 have h3:(10 ^ 19) ^ k≤W64 ^ k:=Nat.pow_le_pow_left (by rw [W64_eq]; decide) k
 exact Nat.lt_of_lt_of_le h1 (Nat.le_trans h2 h3)
theorem ReadOk.of_len {l:List UInt8} (h:l.length≤570):ReadOk l:=by
 refine ⟨h,fun neg num den hs _=>?_⟩
 obtain ⟨d1,d2,d3⟩:=splitF_digits hs
 have w1:=dec_wl d1 (by omega)
 have w2:=dec_wl d2 (by omega)
 have hn:(sg neg (decVal num)).natAbs=decVal num:=by unfold sg; split<;>omega
 exact GcdOk.words (by rw [hn]; omega) (by rw [Int.natAbs_natCast]; omega)
theorem readF_small {l:List UInt8} {q:Rat} (h:readF l=some q) (hl:l.length≤570):wl q.num.natAbs≤30∧wl q.den≤30:=by
 unfold readF at h
 obtain ⟨⟨neg,num,den,ok⟩,hS⟩:∃ x,splitF l=x:=⟨_,rfl⟩
 rw [hS] at h
 cases ok with
 | false=>cases h
 | true =>
   obtain ⟨d1,d2,d3⟩:=splitF_digits hS
   have hn:∀ z,(sg neg z).natAbs=z:=fun z=>by unfold sg; split<;>omega
   have w1:=dec_wl d1 (by omega)
   have w2:=dec_wl d2 (by omega)
   simp only [] at h
   split at h
   ·injection h with h
    subst h
    refine ⟨?_,?_⟩
    ·show wl (sg neg (decVal num)).natAbs≤30
     rw [hn]; exact w1
    ·show wl 1≤30
     have:wl 1≤1:=wl_one.2 W64_one
     omega
   ·split at h
    ·rename_i hne hg
     injection h with h
     subst h
     have h2:=(splitF_den hS).1 hne
     obtain ⟨e1,e2⟩:=mkRat_parts (z:=sg neg (decVal num)) h2 (by rw [hn]; exact hg)
     refine ⟨by rw [e1,hn]; exact w1,?_⟩
     have e3:(mkRat (sg neg (decVal num)) (decVal den)).den=decVal den:=by
      unfold denF at e2
      split at e2<;>omega
     rw [e3]; exact w2
    ·cases h
def RedIs (l:List UInt8) (p x:Int) (ok:Bool):Prop :=
 (ok=true∧Pr p∧∃ q:Rat,readF l=some q∧(q.den:Int) % p≠0∧x=(q.num % p) * (invN ((q.den:Int) % p).toNat p.toNat:Int) % p)∨(ok=false∧x=0∧(¬ Pr p∨readF l=none∨∃ q:Rat,readF l=some q∧(q.den:Int) % p=0))
def RetRed (w:World) (l:List UInt8) (p:Int) (e:Ending) (w':World):Prop:=∃ x ok,e=.returned (.tuple #[.int .i64 x, .bool ok])∧RedIs l p x ok∧Ext w w'
set_option maxHeartbeats 2000000 in
set_option maxRecDepth 100000 in
theorem Reduce_any (s:ByteArray) (p:Int) (w:World) (hg:Glob w) (hok:ReadOk (bytes s)):Calls Tryz.prog 70 #[.string s, .int .i64 p] w (RetRed w (bytes s) p):=by
 cases hp:prB p with
 | false =>
   have HP:=zh (prB_false.1 hp)
   have H1:=fun w=>isPrime_any p w
   rw [hp] at H1
   clear hp hg hok
   go_enter Tryz.func70,Tryz.ntmps70
   go_wp2_with (go_at_call 165; refine (H1 _).mono ?_; rintro e w' ⟨rfl,rfl⟩)
   go_ret2
   exact ⟨0,false,rfl,Or.inr ⟨rfl,rfl,Or.inl HP.out⟩,Fr.refl _ _⟩
 | true =>
   have hP:=prB_true.1 hp
   have HP:=zh hP
   have H1:=fun w=>isPrime_any p w
   rw [hp] at H1
   obtain ⟨P,rfl⟩:=Int.eq_ofNat_of_zero_le (show 0≤p by have:=hP.1; omega)
   have hP2:2≤P:=by have:=hP.1; omega
   have hPm:P≤2147483647:=by have:=hP.2.1; omega
   have HG:=zh hg
   have HO:=zh hok
   have q0:=wrapW P (by rw [W64_eq]; omega)
   clear hp hP hg hok
   go_enter Tryz.func70,Tryz.ntmps70
   go_wp2_with (go_at_call 165; refine (H1 _).mono ?_; rintro e w' ⟨rfl,rfl⟩)
   refine (Read_any s _ HG.out HO.out).mono ?_
   rintro e w1 ⟨v,ok,rfl,hF1,hR⟩
   have HF1:=zh hF1
   clear hF1
   rcases hR with ⟨rfl,q,hq,hI⟩ | ⟨rfl,hq,hI⟩
   ·have hsm:=readF_small hq HO.out.1
    obtain ⟨a,b,A,B,l,c,l',c',rfl,hn,hd⟩:=hI
    have HI:Hid (RatIs w1 (.agg #[.bool a, .slice A l c, .bool b, .slice B l' c']) q):=⟨_,_,_,_,_,_,_,_,rfl,hn,hd⟩
    have HQ:=zh hq
    have HSm:=zh hsm
    clear hq hsm hn hd
    go_wp2_with fail
    generalize hwb:World.alloc w1 _=wb
    obtain ⟨hB0,hE0⟩:=Blk.one hwb
    clear hwb
    obtain ⟨D,hD⟩:∃ D:Nat,((q.den:Nat):Int) % (P:Int)=(D:Int):=Int.eq_ofNat_of_zero_le (Int.emod_nonneg _ (by omega))
    have lD:D < P:=by have:=Int.emod_lt_of_pos (q.den:Int) (b:=(P:Int)) (by omega); omega
    obtain ⟨M,hM⟩:∃ M:Nat,q.num % (P:Int)=(M:Int):=Int.eq_ofNat_of_zero_le (Int.emod_nonneg _ (by omega))
    have lM:M < P:=by have:=Int.emod_lt_of_pos q.num (b:=(P:Int)) (by omega); omega
    refine (Den_any _ q _ (HI.out.ext hE0)).mono ?_
    rintro e w2 ⟨u2,rfl,hI2,hF2⟩
    obtain ⟨s2,B2,l2,c2,rfl⟩:=hI2.shape
    have HB:=zh (hB0.ext hF2)
    have HE:=zh (hE0.trans hF2)
    have HI2:=zh hI2
    clear hB0 hE0 hI2 hF2
    go_wp2_with fail
    refine (ModWord_any _ _ P _ HI2.out (by have:=HSm.out.2; unfold Fits; rw [Int.natAbs_natCast]; omega) (by omega) (by rw [W64_eq]; omega)).mono ?_
    rw [hD]
    rintro e w3 ⟨rfl,hF3⟩
    have HB3:=zh (HB.out.ext hF3)
    have HE3:=zh (HE.out.trans hF3)
    have HDm:=zh hD
    have HMm:=zh hM
    clear hF3 HB HE hD hM
    by_cases h0:D=0
    ·subst h0
     go_wp2
     go_ret2
     exact ⟨0,false,rfl,Or.inr ⟨rfl,rfl,Or.inr (Or.inr ⟨q,HQ.out,HDm.out⟩)⟩,HF1.out.trans HE3.out⟩
    ·have hD0:((D:Int) == 0)=false:=by simp; omega
     obtain ⟨y0,y1,y2,y3,y4⟩:=HB3.out.cell4
     go_wp2_with fail
     refine (Num_any _ q _ (HI.out.ext HE3.out)).mono ?_
     rintro e w4 ⟨u4,rfl,hI4,hF4⟩
     obtain ⟨s4,B4,l4,c4,rfl⟩:=hI4.shape
     have HI4:=zh hI4
     have HE4:=zh (HE3.out.trans hF4)
     clear hI4 hF4 HB3 HE3 y0 y1 y2 y3 y4
     go_wp2_with fail
     refine (ModWord_any _ _ P _ HI4.out (by have:=HSm.out.1; unfold Fits; omega) (by omega) (by rw [W64_eq]; omega)).mono ?_
     rw [HMm.out]
     rintro e w5 ⟨rfl,hF5⟩
     have HE5:=zh (HE4.out.trans hF5)
     have cinv:=fun w=>Invert_any D P w lD hP2 hPm
     obtain ⟨iv,hiv⟩:∃ iv,invN D P=iv:=⟨_,rfl⟩
     have liv:iv < P:=by rw [← hiv]; exact Nat.mod_lt _ (by omega)
     rw [hiv] at cinv
     obtain ⟨f,hf⟩:∃ f,M * iv % P=f:=⟨_,rfl⟩
     have lf:f < P:=by rw [← hf]; exact Nat.mod_lt _ (by omega)
     have e5:(IntKind.u64.wrap ((M:Int) * (iv:Int))).tmod (P:Int)=(f:Int):=by rw [mulmod_u64 lM liv hPm,hf]
     have f2:IntKind.i64.wrap (f:Int)=(f:Int):=IntWalk.i64_in _ (by omega)
     have hp0:((P:Int) == 0)=false:=by simp; omega
     have hp1:P≠0:=by omega
     have HFin:Hid (RedIs (bytes s) (P:Int) (f:Int) true):=Or.inl ⟨rfl,HP.out,q,HQ.out,by rw [HDm.out]; omega,by
      rw [HDm.out,HMm.out,show ((D:Int)).toNat=D by omega,show ((P:Int)).toNat=P by omega,hiv,← Int.natCast_mul,← Int.natCast_emod,hf]⟩
     clear hF5 hiv hf HE4
     go_wp2_with (go_at_call 168; refine (cinv _).mono ?_; rintro e w' ⟨rfl,rfl⟩)
     go_ret2
     exact ⟨f,true,rfl,HFin.out,HF1.out.trans HE5.out⟩
   ·obtain ⟨a,b,A,B,l,c,l',c',rfl,hn,hd⟩:=hI
    have HQ:=zh hq
    clear hq hn hd
    go_wp2
    go_ret2
    exact ⟨0,false,rfl,Or.inr ⟨rfl,rfl,Or.inr (Or.inl HQ.out)⟩,HF1.out.alloc _⟩
end Go.Proofs.YtbgkofgoeoiciaaGreatDoor

namespace Go.Proofs.YtbgkofgoeoiciaaGreatDoor
open Go.RowKit
def ratText (q:Rat):List UInt8:=if q.den=1 then Lib.itoa q.num else Lib.itoa q.num ++ [47] ++ Lib.itoa (q.den:Int)
set_option maxHeartbeats 2000000 in
set_option maxRecDepth 100000 in
theorem RString_frac (a:Value) (q:Rat) (w:World) (hg:Glob w) (ha:RatIs w a q) (hn:PrtOk q.num.natAbs) (hd:PrtOk q.den) (h1:q.den≠1) (hl:(Lib.itoa q.num).length≤68719476736):Calls Tryz.prog 107 #[a] w (RetV w (.string ⟨(ratText q).toArray⟩)):=by
 obtain ⟨s,t,A,B,l,c,l',c',rfl,hIn,hId⟩:=ha
 have hdf:denF q=(q.den:Int):=by unfold denF; rw [if_neg h1]
 have hd0:¬ denF q=0:=fun h=>h1 (denF_zero.1 h)
 have HM:Hid (ratText q=Lib.itoa q.num ++ [47] ++ Lib.itoa (q.den:Int)):=by unfold Hid ratText; rw [if_neg h1]
 rw [hdf] at hId
 have HIn:=zh hIn
 have HId:=zh hId
 have HG:=zh hg
 have HPn:=zh hn
 have HPd:Hid (PrtOk ((q.den:Int)).natAbs):=by unfold Hid; rw [Int.natAbs_natCast]; exact hd
 have hne:=itoa_ne (q.den:Int)
 rw [hdf] at hd0
 generalize hm:ratText q=m at *
 have hmne:m≠[]:=by rw [HM.out]; simp
 generalize q.num=x at *
 generalize (q.den:Int)=y at *
 clear hg hn hd h1 hIn hId hdf hm hne
 go_enter Tryz.func107,Tryz.ntmps107
 go_wp2_with fail
 generalize hwb:World.alloc w _=wb
 obtain ⟨hB0,hE0⟩:=Blk.one hwb
 clear hwb
 refine (IsZero_any _ y _ (HId.out.ext hE0)).mono ?_
 rw [decide_eq_false hd0]
 rintro e w1 ⟨rfl,hF1⟩
 have HB1:=zh (hB0.ext hF1)
 have HE1:=zh (hE0.trans hF1)
 obtain ⟨x0,x1,x2,x3,_,_,_,_⟩:=HB1.out.cell4
 clear hB0 hE0 hF1 hd0
 go_wp2_with fail
 refine (Append_any _ x none 0 0 [] w1 _ (Fr.refl _ _) (HG.out.ext HE1.out) (HIn.out.ext HE1.out) HPn.out rfl Buf.nil Newer.nil (by omega)).mono ?_
 rw [List.nil_append]
 rintro e w2 ⟨A2,cap2,rfl,hT2,hF2,hA2⟩
 have hN2:Newer w1 A2:=(Newer.nil (w0:=w1)).next (Fr.refl _ _) hA2
 have hE2:Ext w1 w2:=(Newer.nil (w0:=w1)).ext (Fr.refl _ _) hF2
 have HT2:=zh hT2
 have HN2:=zh hN2
 have HE2:=zh hE2
 clear hT2 hF2 hA2 hN2 hE2 x0 x1 x2 x3
 obtain ⟨n,hnl⟩:∃ n,(Lib.itoa x).length=n:=⟨_,rfl⟩
 rw [hnl] at hl ⊢
 have HNL:=zh hnl
 clear hnl
 have HS:Hid (Shows .u8 (w2.alloc (.cells #[.int .u8 47] 5)) (some ⟨w2.heap.size,0,none⟩) (nats [47])):=(Own.new w2 5 .u8 [47] []).shows0
 go_wp2_with (at_builtin; refine Hid.out ?_)
 refine zh ?_
 refine wpList_append_words rfl _ _ _ rfl _ .u8 1 Tryz.underlying223 info8 A2 (some ⟨w2.heap.size,0,none⟩) n 1 cap2 1 rfl rfl (nats (Lib.itoa x)) (nats [47]) (by rw [nats_length]; exact HNL.out) rfl (HT2.out.ext ((Fr.refl _ _).alloc _)) HS.out (by simp only [maxLen]; omega) (by omega) ?_
 intro A3 cap3 w3 hB3 hF3 hA3
 have hE3:Ext w1 w3:=HN2.out.ext (HE2.out.alloc _) hF3
 have hN3:Newer w1 A3:=HN2.out.next (w:=w2) HE2.out (fun b hb=>(hA3 b hb).imp id (fun h=>by simp at h; omega))
 have hT3:TBuf w3 A3 cap3 (Lib.itoa x ++ [47]):=by show Buf _ _ _ _ _ (nats (Lib.itoa x ++ [47])); rw [nats_append]; exact hB3
 have HT3:=zh hT3
 have HN3:=zh hN3
 have HE3:=zh hE3
 have HB3:=zh (HB1.out.ext hE3)
 obtain ⟨x0,x1,x2,x3,_,_,_,_⟩:=HB3.out.cell4
 clear hB3 hF3 hA3 hE3 hN3 hT3
 go_wp2_with fail
 refine (Append_any _ y A3 cap3 (n + 1) (Lib.itoa x ++ [47]) w1 _ HE3.out (HG.out.ext HE1.out) (HId.out.ext HE1.out) HPd.out (by rw [List.length_append,HNL.out]; rfl) HT3.out HN3.out (by omega)).mono ?_
 rw [← HM.out]
 rintro e w4 ⟨A4,cap4,rfl,hT4,hF4,hA4⟩
 have HE4:Hid (Ext w w4):=HE1.out.trans (HN3.out.ext HE3.out hF4)
 obtain ⟨b,rfl,hc⟩:=TBuf.bytes hT4 hmne
 have hcv:=run_convert_bytes_back (P:=Tryz.prog) w4 223 9 5 ⟨b,0,none⟩ cap4 m Tryz.underlying223 Tryz.underlying5 Tryz.underlying9 hc
 clear hT4 hF4 hA4 hc hmne x0 x1 x2 x3
 go_wp2
 go_ret
 exact ⟨rfl,HE4.out⟩
end Go.Proofs.YtbgkofgoeoiciaaGreatDoor
