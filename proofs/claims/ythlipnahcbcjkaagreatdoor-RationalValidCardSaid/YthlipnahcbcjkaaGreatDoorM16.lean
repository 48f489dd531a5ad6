/-
 My texts SxK, Frac, Rt, Reduce, Whole, Ra, Reduce2, Ts, PaM, Sx8, Sx9, Pw, Vl, Fs, Cmp, Tx, Dc, Len, Pa, Px put together.
-/
import Derived.Test.YthlipnahcbcjkaaGreatDoorM15
import Derived.Test.YthlipnahcbcjkaaGreatDoorM14
import Derived.Test.YthlipnahcbcjkaaGreatDoorM12
import Derived.Test.YthlipnahcbcjkaaGreatDoorM11
import Derived.Test.YthlipnahcbcjkaaGreatDoorM01
import Derived.Deep.LoopGhost
import Derived.Test.YthlipnahcbcjkaaGreatDoorM06
import Derived.Test.YthlipnahcbcjkaaGreatDoorM10
import Derived.Test.YthlipnahcbcjkaaGreatDoorM03
import Derived.Test.YthlipnahcbcjkaaGreatDoorM02
set_option maxRecDepth 100000
namespace Go.Proofs.YthlipnahcbcjkaaGreatDoor
open Go.RowKit
section
variable {S:Nat→Prop} {w w' w0:World} {k:IntKind} {A:Option Addr} {xs:List Nat}
theorem Zar.nrb (hk:k≠.i64) (h:Zar k w A xs) (hS:∀ i,S i→NRB w i) (hF:Fr S w w'):Zar k w' A xs:=by
 cases xs with
 | nil=>exact Zar.nil
 | cons x xs =>
   refine h.fr hF (fun ad hA hlt hs=>?_)
   obtain ⟨g,off,e',_,hcl⟩:=h.at (i:=0) (by simp)
   rw [e'] at hA
   injection hA with hA
   subst hA
   obtain ⟨t,cs,hB,hc⟩:=hS _ hs
   rw [hB.cell] at hcl
   exact hk (hc _ _ _ hcl)
theorem Zak.nrb {u:Value} {n:Nat} (h:Zak w u n) (hS:∀ i,S i→NRB w i) (hF:Fr S w w'):Zak w' u n:=by
 obtain ⟨A',xs,c',h1,h2,h3,h4⟩:=h
 exact ⟨A',xs,c',h1,h2,h3.nrb (by decide) hS hF,h4⟩
theorem Zav.nrb {v:Value} {z:Int} (h:Zav w v z) (hS:∀ i,S i→NRB w i) (hF:Fr S w w'):Zav w' v z:=by
 obtain ⟨s',u,n,h1,h2,h3⟩:=h
 exact ⟨s',u,n,h1,h2.nrb hS hF,h3⟩
theorem ZaC.nrb {v:Value} {q:Rat} (h:ZaC w v q) (hS:∀ i,S i→NRB w i) (hF:Fr S w w'):ZaC w' v q:=by
 obtain ⟨s,t,A,B,l,c,l',c',h1,h2,h3⟩:=h
 exact ⟨s,t,A,B,l,c,l',c',h1,h2.nrb hS hF,h3.nrb hS hF⟩
theorem Zas.nrb {u:Value} {n:Nat} (h:Zas w u n) (hS:∀ i,S i→NRB w i) (hF:Fr S w w'):Zas w' u n:=by
 obtain ⟨A',xs,c',h1,h2,h3,h4⟩:=h
 exact ⟨A',xs,c',h1,h2,h3.nrb (by decide) hS hF,h4⟩
theorem Zap.nrb {v:Value} {z:Int} (h:Zap w v z) (hS:∀ i,S i→NRB w i) (hF:Fr S w w'):Zap w' v z:=by
 obtain ⟨s',u,n,h1,h2,h3⟩:=h
 exact ⟨s',u,n,h1,h2.nrb hS hF,h3⟩
theorem Zaz.nrb {v:Value} {q:Rat} (h:Zaz w v q) (hS:∀ i,S i→NRB w i) (hF:Fr S w w'):Zaz w' v q:=by
 obtain ⟨s,t,A,B,l,c,l',c',h1,h2,h3⟩:=h
 exact ⟨s,t,A,B,l,c,l',c',h1,h2.nrb hS hF,h3.nrb hS hF⟩
theorem NRB.ext {i:Nat} (h:NRB w i) (he:Ext w w'):NRB w' i:=by
 obtain ⟨t,cs,hB,hc⟩:=h
 exact ⟨t,cs,hB.ext he,hc⟩
theorem boxn {φ:World→Prop} (he:Ext w w') (h:∀ S w'',(∀ i,S i→NRB w' i)→Fr S w' w''→φ w''):BoxN w w' φ:=fun S hS w'' hf=>h S w'' (fun i hi=>(hS i hi).2.ext he) hf
end
abbrev ShI:=Bool × Option Addr × Nat × Nat
abbrev ShQ:=Bool × Option Addr × Nat × Nat × Bool × Option Addr × Nat × Nat
abbrev ShN:=Option Addr × Nat × Nat
def Zam (x:ShI):Value:=.agg #[.bool x.1, .slice x.2.1 x.2.2.1 x.2.2.2]
def ZaJ (x:ShQ):Value:=.agg #[.bool x.1, .slice x.2.1 x.2.2.1 x.2.2.2.1, .bool x.2.2.2.2.1, .slice x.2.2.2.2.2.1 x.2.2.2.2.2.2.1 x.2.2.2.2.2.2.2]
def Zbz (x:ShN):Value:=.slice x.1 x.2.1 x.2.2
section
variable {w w':World} {e:Ending}
theorem Zaq {z:Int} (h:Zbp w z e w'):Zby Zam (fun x w=>Zav w (Zam x) z) w e w':=by
 obtain ⟨v,rfl,hI,Q⟩:=h
 obtain ⟨s,A,l,c,rfl⟩:=hI.shp
 exact ⟨(s,A,l,c),rfl,Q,boxn Q (fun S w'' hS hF=>hI.nrb hS hF)⟩
theorem ZaK {z:Int} (h:Za1 w z e w'):Zby Zam (fun x w=>Zap w (Zam x) z) w e w':=by
 obtain ⟨v,rfl,hI,Q⟩:=h
 obtain ⟨s,A,l,c,rfl⟩:=hI.shp
 exact ⟨(s,A,l,c),rfl,Q,boxn Q (fun S w'' hS hF=>hI.nrb hS hF)⟩
theorem ZaL {q:Rat} (h:Zc1 w q e w'):Zby ZaJ (fun x w=>ZaC w (ZaJ x) q) w e w':=by
 obtain ⟨v,rfl,hI,Q⟩:=h
 obtain ⟨s,A,l,c,t,B,m,d,rfl⟩:=hI.shp
 exact ⟨(s,A,l,c,t,B,m,d),rfl,Q,boxn Q (fun S w'' hS hF=>hI.nrb hS hF)⟩
theorem ZbE {q:Rat} (h:Zex w q e w'):Zby ZaJ (fun x w=>Zaz w (ZaJ x) q) w e w':=by
 obtain ⟨v,rfl,hI,Q⟩:=h
 obtain ⟨s,A,l,c,t,B,m,d,rfl⟩:=hI.shp
 exact ⟨(s,A,l,c,t,B,m,d),rfl,Q,boxn Q (fun S w'' hS hF=>hI.nrb hS hF)⟩
def ZoG (w:World) (x y:Int) (e:Ending) (w':World):Prop:=∃ u v,e=.returned (.tuple #[u,v])∧Zav w' u x∧Zav w' v y∧Ext w w'
def Zdp (x:ShI × ShI):Value:=.tuple #[Zam x.1,Zam x.2]
theorem Zfj {a b:Int} (h:ZoG w a b e w'):Zby Zdp (fun x w=>Zav w (Zam x.1) a∧Zav w (Zam x.2) b) w e w':=by
 obtain ⟨u,v,rfl,hI,hJ,Q⟩:=h
 obtain ⟨s,A,l,c,rfl⟩:=hI.shp
 obtain ⟨s',A',l',c',rfl⟩:=hJ.shp
 exact ⟨((s,A,l,c),(s',A',l',c')),rfl,Q,boxn Q (fun S w'' hS hF=>⟨hI.nrb hS hF,hJ.nrb hS hF⟩)⟩
theorem Zfc (x:Int):(x < 0∧x.sign = -1)∨(x=0∧x.sign=0)∨(0 < x∧x.sign=1):=by
 rcases Int.lt_trichotomy x 0 with h | h | h
 ·exact Or.inl ⟨h,Int.sign_eq_neg_one_of_neg h⟩
 ·exact Or.inr (Or.inl ⟨h,by rw [h]; rfl⟩)
 ·exact Or.inr (Or.inr ⟨h,Int.sign_eq_one_of_pos h⟩)
theorem Zae {v u:Value} (h:e=.returned v∧Ext w w') (hv:v=u):Zby (fun _:Unit=>u) (fun _ _=>True) w e w':=by
 obtain ⟨rfl,Q⟩:=h
 subst hv
 exact ⟨(),rfl,Q,BoxN.pure trivial⟩
end
end Go.Proofs.YthlipnahcbcjkaaGreatDoor

namespace Go.Proofs.YthlipnahcbcjkaaGreatDoor
open Go.RowKit
set_option maxHeartbeats 2000000 in
theorem ZdH (a b:Value) (x y:Int) (w:World) (ha:Zav w a x) (hb:Zav w b y) (hx:Fits x) (hy:wl y.natAbs < 80) (h0:y≠0):Calls Tryz.prog 169 #[a,b] w (Zbp w (x.tdiv y)):=by
 obtain ⟨s,A,l,c,rfl⟩:=ha.shape
 obtain ⟨t,B,l',c',rfl⟩:=hb.shape
 have HA:=zh ha
 have HB:=zh hb
 have HX:=zh hx
 have HY:=zh hy
 have H0:=zh h0
 clear ha hb hx hy h0
 go_enter Tryz.func169,Tryz.ntmps169
 go_wp2_with fail
 generalize hwb:World.alloc (World.alloc (World.alloc w _) _) _=wb
 obtain ⟨hB0,hB1,hB2,Q⟩:=ZaO hwb
 clear hwb
 refine (Zbq _ y _ (HB.out.ext Q)).mono ?_
 by_cases h1:y=1
 ·rw [decide_eq_true h1]
  rintro e w1 ⟨rfl,hF⟩
  have HE:=zh (Q.trans hF)
  have HB0:=zh (hB0.ext hF)
  have HB2:=zh (hB2.ext hF)
  have HQ:Hid (x.tdiv y=x):=by unfold Hid; rw [h1]; exact Int.tdiv_one x
  obtain ⟨x0,x1,_,_⟩:=HB0.out.cell2
  obtain ⟨y0,y1,y2,y3⟩:=HB2.out.cell2
  clear Q hF hB0 hB1 hB2 h1
  go_wp2
  refine ZmT rfl rfl (by omega) HE.out HB2.out (Fr.refl _ _) ?_
  rw [HQ.out]; exact HA.out.ext HE.out
 ·rw [decide_eq_false h1]
  rintro e w1 ⟨rfl,hF⟩
  have HE:=zh (Q.trans hF)
  have HB0:=zh (hB0.ext hF)
  have HB1:=zh (hB1.ext hF)
  have HB2:=zh (hB2.ext hF)
  obtain ⟨x0,x1,_,_⟩:=HB0.out.cell2
  obtain ⟨z0,z1,_,_⟩:=HB1.out.cell2
  clear Q hF hB0 hB1 hB2 h1
  go_wp2_with fail
  refine (Zkb _ _ x y _ (HA.out.ext HE.out) (HB.out.ext HE.out) HX.out HY.out H0.out).mono ?_
  rintro e w2 ⟨u1,u2,rfl,hN1,hN2,hF1⟩
  obtain ⟨s1,A1,l1,c1,rfl⟩:=hN1.shape
  obtain ⟨s2,A2,l2,c2,rfl⟩:=hN2.shape
  have HN1:=zh hN1
  have HE2:=zh (HE.out.trans hF1)
  have HB2':=zh (HB2.out.ext hF1)
  obtain ⟨y0,y1,y2,y3⟩:=HB2'.out.cell2
  have hlt1:=HB2'.out.lt
  have hlt2:=Nat.lt_succ_of_lt hlt1
  clear hN1 hN2 hF1 x0 x1 z0 z1
  go_wp2
  have hB:=(HB2'.out.set_ 0 (.bool s1)).set_ 1 (.slice A1 l1 c1)
  refine bodyPost_ret (ZdE rfl _ _ (w.heap.size + 1 + 1) _ _ rfl ((hB.alloc _).alloc _)) rfl ⟨_,rfl,?_,(((HE2.out.setCell (Or.inr (by simp; omega)) _).setCell (Or.inr (by simp; omega)) _).alloc _).alloc _⟩
  exact (HN1.out.store2 HB2'.out).ext (((Fr.refl _ _).alloc _).alloc _)
theorem Zky {x y:Int} (hy:0 < y):((Int.gcd x y:Nat):Int)≠0:=by
 have:Int.gcd x y≠0:=fun h=>by rw [Int.gcd_eq_zero_iff] at h; omega
 omega
theorem Zkz {x y:Int} (hy:0 < y) (h:wl y.natAbs < 80):wl (((Int.gcd x y:Nat):Int)).natAbs < 80:=by
 have h1:Int.gcd x y≤y.natAbs:=Nat.gcd_le_right _ (by omega)
 have:=Za0 h1
 rw [Int.natAbs_natCast]
 omega
theorem Zhh {x y:Int} (hy:0 < y):(Rat.divInt x y).num=x.tdiv (Int.gcd x y:Int)∧((Rat.divInt x y).den:Int)=y.tdiv (Int.gcd x y:Int):=by
 have hd1:(Int.gcd x y:Int) ∣ x:=Int.gcd_dvd_left _ _
 have hd2:(Int.gcd x y:Int) ∣ y:=Int.gcd_dvd_right _ _
 rw [Rat.num_divInt,Rat.den_divInt,if_neg (by omega),Int.sign_eq_one_of_pos hy,Int.one_mul,Int.gcd_comm y x,Int.tdiv_eq_ediv_of_dvd hd1,Int.tdiv_eq_ediv_of_dvd hd2]
 refine ⟨rfl,?_⟩
 rw [Int.natCast_ediv]
 congr 1
 omega
theorem ZdT {x y:Int} (hy:0 < y) (h:((Int.gcd x y:Nat):Int)=1):(Rat.divInt x y).num=x∧((Rat.divInt x y).den:Int)=y:=by
 have:=Zhh (x:=x) hy
 rwa [h,Int.tdiv_one,Int.tdiv_one] at this
theorem Zhi {x y:Int} (h:y=1):(Rat.divInt x y).num=x∧denF (Rat.divInt x y)=0:=by
 have h1:=ZdT (x:=x) (y:=y) (by omega) (by rw [h,Int.gcd_one]; rfl)
 refine ⟨h1.1,Zev.2 ?_⟩
 have:=h1.2
 omega
theorem Zid (a b:Value) (x y:Int) (w:World) (hgl:Glob w) (ha:Zav w a x) (hb:Zav w b y) (hfx:Fits x) (hfy:Fits y) (hgk:ZcR x y) (h80:wl y.natAbs < 80) (hy:y≠0) :
 Calls Tryz.prog 91 #[a,b] w (Zc1 w (Rat.divInt x y)):=by
 obtain ⟨s0,A0,l0,c0,rfl⟩:=ha.shape
 obtain ⟨s1,A1,l1,c1,rfl⟩:=hb.shape
 refine ZaB (Φ:=fun w=>((Zav w (.agg #[.bool s0, .slice A0 l0 c0]) (x)∧Zav w (.agg #[.bool s1, .slice A1 l1 c1]) (y))∧Glob w)) Tryz.func91 rfl (by kernel_rfl) (fun w' hf=>⟨⟨ha.ext hf,hb.ext hf⟩,hgl.ext hf⟩) ?_
 refine Zac (Zab (xr 3 [(2, .p 2 0),(3, .p 3 0),(4, .p 4 0)] [bR4 4 107 false none 0 0 false none 0 0,bI2 3 105 s1 A1 l1 c1,bI2 2 105 s0 A0 l0 c0] ?_))
 refine xe (Zaa (Zac (Zac (Zab (xr 1 [(2, .p 2 0),(3, .p 3 0),(4, .p 4 0),eI2 6 s1 A1 l1 c1] [bR4 4 107 false none 0 0 false none 0 0,bI2 3 105 s1 A1 l1 c1,bI2 2 105 s0 A0 l0 c0] ?_)))))
 refine xc 141 [vI2 s1 A1 l1 c1] 7 (fun _:Unit=>.bool false) _ (fun w R Q=>(ZaG _ (y) _ Q.1.2).mono (fun _ _ h=>Zae h (by rw [decide_eq_false (p:=(y)=0) hy]))) (fun xx=>?_)
 refine xr 2 [(2, .p 2 0),(3, .p 3 0),(4, .p 4 0),(8, .v (.bool false)),eI2 9 s0 A0 l0 c0] [bR4 4 107 false none 0 0 false none 0 0,bI2 3 105 s1 A1 l1 c1,bI2 2 105 s0 A0 l0 c0] ?_
 by_cases hz10:(x)=0
 ·refine xc 141 [vI2 s0 A0 l0 c0] 10 (fun _:Unit=>.bool true) _ (fun w R Q=>(ZaG _ (x) _ Q.1.1.1).mono (fun _ _ h=>Zae h (by rw [decide_eq_true (p:=(x)=0) hz10]))) (fun xx=>?_)
  refine xr 1 [(2, .p 2 0),(3, .p 3 0),(4, .p 4 0),(11, .v (.bool true))] [bR4 4 107 false none 0 0 false none 0 0,bI2 3 105 s1 A1 l1 c1,bI2 2 105 s0 A0 l0 c0] ?_
  refine xe (Zaa (xa (Zac (Zab (xr 2 [(2, .p 2 0),(3, .p 3 0),(4, .p 4 0)] [bR4 4 107 false none 0 0 false none 0 0,bI2 3 105 s1 A1 l1 c1,bI2 2 105 s0 A0 l0 c0] ?_)))))
  refine xe (Zaa (Zan (Zao ?_)))
  refine Zag (v:=.agg #[.bool false, .slice none 0 0, .bool false, .slice none 0 0]) (by kernel_rfl) (fun w' R Q=>?_)
  exact ⟨_,rfl,by rw [hz10,Rat.zero_divInt]; exact ZaC.nil _,R⟩
 ·refine xc 141 [vI2 s0 A0 l0 c0] 10 (fun _:Unit=>.bool false) _ (fun w R Q=>(ZaG _ (x) _ Q.1.1.1).mono (fun _ _ h=>Zae h (by rw [decide_eq_false (p:=(x)=0) hz10]))) (fun xx=>?_)
  refine xr 1 [(2, .p 2 0),(3, .p 3 0),(4, .p 4 0),(11, .v (.bool false))] [bR4 4 107 false none 0 0 false none 0 0,bI2 3 105 s1 A1 l1 c1,bI2 2 105 s0 A0 l0 c0] ?_
  refine xe (Zaa (xb (ZaA (Zaa (Zac (Zac (Zab (xr 1 [(2, .p 2 0),(3, .p 3 0),(4, .p 4 0),eI2 13 s1 A1 l1 c1] [bR4 4 107 false none 0 0 false none 0 0,bI2 3 105 s1 A1 l1 c1,bI2 2 105 s0 A0 l0 c0] ?_))))))))
  by_cases hs:y < 0
  ·have Hq:Rat.divInt (-(x)) (-(y))=Rat.divInt x y:=Rat.neg_divInt_neg _ _
   have HY:0 < -(y):=by omega
   have hfx':Fits (-(x)):=by unfold Fits; rw [Int.natAbs_neg]; exact hfx
   have hfy':Fits (-(y)):=by unfold Fits; rw [Int.natAbs_neg]; exact hfy
   have hgk':ZcR (-(x)) (-(y)):=by unfold ZcR; rw [Int.natAbs_neg,Int.natAbs_neg]; exact hgk
   have h80':wl (-(y)).natAbs < 80:=by rw [Int.natAbs_neg]; exact h80
   refine xc 168 [vI2 s1 A1 l1 c1] 14 (fun _:Unit=>.int .i64 (-1)) _ (fun w R Q=>(Zc9 _ (y) _ Q.1.1.1.2).mono (fun _ _ h=>Zae h (by rw [Int.sign_eq_neg_one_of_neg hs]))) (fun xx=>?_)
   refine xr 1 [(2, .p 2 0),(3, .p 3 0),(4, .p 4 0),(15, .v (.bool true))] [bR4 4 107 false none 0 0 false none 0 0,bI2 3 105 s1 A1 l1 c1,bI2 2 105 s0 A0 l0 c0] ?_
   refine xe (Zaa (xa ?_))
   refine ZaE 6 (by kernel_rfl) (by kernel_rfl) Zaj ?_
   refine xf 1 [(2, .p 2 0),(3, .p 3 0),(4, .p 4 0),eI2 16 s0 A0 l0 c0] [bR4 4 107 false none 0 0 false none 0 0,bI2 3 105 s1 A1 l1 c1,bI2 2 105 s0 A0 l0 c0] ?_
   refine xd 142 [vI2 s0 A0 l0 c0] 17 Zam _ (fun w R Q=>(ZdF _ (x) _ Q.1.1.1.1.1).mono (fun _ _=>Zaq)) (fun xx=>?_)
   obtain ⟨s11,A11,l11,c11⟩:=xx
   refine xf 1 [(2, .p 2 0),(3, .p 3 0),(4, .p 4 0),eI2 17 s11 A11 l11 c11,eI2 18 s1 A1 l1 c1] [bR4 4 107 false none 0 0 false none 0 0,bI2 3 105 s1 A1 l1 c1,bI2 2 105 s0 A0 l0 c0] ?_
   refine xd 142 [vI2 s1 A1 l1 c1] 19 Zam _ (fun w R Q=>(ZdF _ (y) _ Q.1.1.1.1.1.2).mono (fun _ _=>Zaq)) (fun xx=>?_)
   obtain ⟨s12,A12,l12,c12⟩:=xx
   refine xf 2 [(2, .p 2 0),(3, .p 3 0),(4, .p 4 0)] [bI2 3 105 s12 A12 l12 c12,bI2 2 105 s11 A11 l11 c11,bR4 4 107 false none 0 0 false none 0 0,bI2 3 105 s1 A1 l1 c1,bI2 2 105 s0 A0 l0 c0] ?_
   refine xz (xe (Zaa (Zac (Zac (Zab (xr 1 [(2, .p 2 0),(3, .p 3 0),(4, .p 4 0),eI2 20 s12 A12 l12 c12] [bI2 3 105 s12 A12 l12 c12,bI2 2 105 s11 A11 l11 c11,bR4 4 107 false none 0 0 false none 0 0] ?_))))))
   by_cases hz13:(-(y))=1
   ·refine xc 124 [vI2 s12 A12 l12 c12] 21 (fun _:Unit=>.bool true) _ (fun w R Q=>(Zbq _ (-(y)) _ Q.2).mono (fun _ _ h=>Zae h (by rw [decide_eq_true (p:=(-(y))=1) hz13]))) (fun xx=>?_)
    refine xr 0 [(2, .p 2 0),(3, .p 3 0),(4, .p 4 0),(21, .v (.bool true))] [bI2 3 105 s12 A12 l12 c12,bI2 2 105 s11 A11 l11 c11,bR4 4 107 false none 0 0 false none 0 0] ?_
    refine xe (Zaa (xa (Zac (Zab (xr 3 [(2, .p 2 0),(3, .p 3 0),(4, .p 4 0)] [bI2 3 105 s12 A12 l12 c12,bI2 2 105 s11 A11 l11 c11,bR4 4 107 s11 A11 l11 c11 false none 0 0] ?_)))))
    refine xe (Zaa (Zan (Zao ?_)))
    refine Zag (v:=.agg #[.bool s11, .slice A11 l11 c11, .bool false, .slice none 0 0]) (by kernel_rfl) (fun w' R Q=>?_)
    exact ⟨_,rfl,ZaC.of (by rw [← Hq,(Zhi hz13).1]; exact Q.1.1.2) (by rw [← Hq,(Zhi hz13).2]; exact (Zav.nil _)),R⟩
   ·refine xc 124 [vI2 s12 A12 l12 c12] 21 (fun _:Unit=>.bool false) _ (fun w R Q=>(Zbq _ (-(y)) _ Q.2).mono (fun _ _ h=>Zae h (by rw [decide_eq_false (p:=(-(y))=1) hz13]))) (fun xx=>?_)
    refine xr 0 [(2, .p 2 0),(3, .p 3 0),(4, .p 4 0),(21, .v (.bool false))] [bI2 3 105 s12 A12 l12 c12,bI2 2 105 s11 A11 l11 c11,bR4 4 107 false none 0 0 false none 0 0] ?_
    refine xe (Zaa (xb (ZaA (Zaa (Zac (Zac (Zab (xr 2 [(2, .p 2 0),(3, .p 3 0),(4, .p 4 0),eI2 24 s11 A11 l11 c11,eI2 25 s12 A12 l12 c12] [bI2 3 105 s12 A12 l12 c12,bI2 2 105 s11 A11 l11 c11,bR4 4 107 false none 0 0 false none 0 0] ?_))))))))
    refine xc 90 [vI2 s11 A11 l11 c11,vI2 s12 A12 l12 c12] 26 Zam _ (fun w R Q=>(ZdY _ _ (-(x)) (-(y)) _ Q.1.1.1.1.1.1.2 Q.1.1.2 Q.1.2 hfx' hfy' hgk').mono (fun _ _=>Zaq)) (fun xx=>?_)
    obtain ⟨s14,A14,l14,c14⟩:=xx
    refine xr 2 [(2, .p 2 0),(3, .p 3 0),(4, .p 4 0),(5, .p 5 0)] [bI2 5 105 s14 A14 l14 c14,bI2 3 105 s12 A12 l12 c12,bI2 2 105 s11 A11 l11 c11,bR4 4 107 false none 0 0 false none 0 0] ?_
    refine xe (Zaa (Zac (Zab (xr 1 [(2, .p 2 0),(3, .p 3 0),(4, .p 4 0),(5, .p 5 0),eI2 27 s14 A14 l14 c14] [bI2 5 105 s14 A14 l14 c14,bI2 3 105 s12 A12 l12 c12,bI2 2 105 s11 A11 l11 c11,bR4 4 107 false none 0 0 false none 0 0] ?_))))
    by_cases hz15:(((Int.gcd (-(x)) (-(y)):Nat):Int))=1
    ·refine xc 124 [vI2 s14 A14 l14 c14] 28 (fun _:Unit=>.bool true) _ (fun w R Q=>(Zbq _ (((Int.gcd (-(x)) (-(y)):Nat):Int)) _ Q.2).mono (fun _ _ h=>Zae h (by rw [decide_eq_true (p:=(((Int.gcd (-(x)) (-(y)):Nat):Int))=1) hz15]))) (fun xx=>?_)
     refine xr 1 [(2, .p 2 0),(3, .p 3 0),(4, .p 4 0),(5, .p 5 0),(29, .v (.bool false))] [bI2 5 105 s14 A14 l14 c14,bI2 3 105 s12 A12 l12 c12,bI2 2 105 s11 A11 l11 c11,bR4 4 107 false none 0 0 false none 0 0] ?_
     refine xe (Zaa (xb (ZaA (Zaa (Zac (Zab (xr 2 [(4, .p 4 0),eI2 36 s11 A11 l11 c11,eI2 37 s12 A12 l12 c12] [bR4 4 107 false none 0 0 false none 0 0] ?_)))))))
     refine xc 75 [vI2 s11 A11 l11 c11,vI2 s12 A12 l12 c12] 38 ZaJ _ (fun w R Q=>(Zb0 _ _ (-(x)) (-(y)) (Rat.divInt x y) _ Q.1.1.1.1.2 Q.1.1.1.2 (by rw [← Hq]; exact ZdT HY hz15)).mono (fun _ _=>ZaL)) (fun xx=>?_)
     obtain ⟨s16,A16,l16,c16,t16,B16,m16,d16⟩:=xx
     refine xr 1 [(4, .p 4 0)] [bR4 4 107 s16 A16 l16 c16 t16 B16 m16 d16] ?_
     refine xe (Zaa (Zan ?_))
     refine Zag (v:=.agg #[.bool s16, .slice A16 l16 c16, .bool t16, .slice B16 m16 d16]) (by kernel_rfl) (fun w' R Q=>?_)
     exact ⟨_,rfl,Q.2,R⟩
    ·refine xc 124 [vI2 s14 A14 l14 c14] 28 (fun _:Unit=>.bool false) _ (fun w R Q=>(Zbq _ (((Int.gcd (-(x)) (-(y)):Nat):Int)) _ Q.2).mono (fun _ _ h=>Zae h (by rw [decide_eq_false (p:=(((Int.gcd (-(x)) (-(y)):Nat):Int))=1) hz15]))) (fun xx=>?_)
     refine xr 1 [(2, .p 2 0),(3, .p 3 0),(4, .p 4 0),(5, .p 5 0),(29, .v (.bool true))] [bI2 5 105 s14 A14 l14 c14,bI2 3 105 s12 A12 l12 c12,bI2 2 105 s11 A11 l11 c11,bR4 4 107 false none 0 0 false none 0 0] ?_
     refine xe (Zaa (xa ?_))
     refine ZaE 8 (by kernel_rfl) (by kernel_rfl) Zaj ?_
     refine xf 2 [(2, .p 2 0),(3, .p 3 0),(4, .p 4 0),(5, .p 5 0),eI2 30 s11 A11 l11 c11,eI2 31 s14 A14 l14 c14] [bI2 5 105 s14 A14 l14 c14,bI2 3 105 s12 A12 l12 c12,bI2 2 105 s11 A11 l11 c11,bR4 4 107 false none 0 0 false none 0 0] ?_
     refine xd 169 [vI2 s11 A11 l11 c11,vI2 s14 A14 l14 c14] 32 Zam _ (fun w R Q=>(ZdH _ _ (-(x)) (((Int.gcd (-(x)) (-(y)):Nat):Int)) _ Q.1.1.1.1.2 Q.1.2 hfx' (Zkz HY h80') (Zky HY)).mono (fun _ _=>Zaq)) (fun xx=>?_)
     obtain ⟨s17,A17,l17,c17⟩:=xx
     refine xf 2 [(2, .p 2 0),(3, .p 3 0),(4, .p 4 0),eI2 32 s17 A17 l17 c17,eI2 33 s12 A12 l12 c12,eI2 34 s14 A14 l14 c14] [bI2 5 105 s14 A14 l14 c14,bI2 3 105 s12 A12 l12 c12,bI2 2 105 s11 A11 l11 c11,bR4 4 107 false none 0 0 false none 0 0] ?_
     refine xd 169 [vI2 s12 A12 l12 c12,vI2 s14 A14 l14 c14] 35 Zam _ (fun w R Q=>(ZdH _ _ (-(y)) (((Int.gcd (-(x)) (-(y)):Nat):Int)) _ Q.1.1.1.1.2 Q.1.1.2 hfy' (Zkz HY h80') (Zky HY)).mono (fun _ _=>Zaq)) (fun xx=>?_)
     obtain ⟨s18,A18,l18,c18⟩:=xx
     refine xf 2 [(2, .p 2 0),(3, .p 3 0),(4, .p 4 0)] [bI2 3 105 s18 A18 l18 c18,bI2 2 105 s17 A17 l17 c17,bI2 5 105 s14 A14 l14 c14,bI2 3 105 s12 A12 l12 c12,bI2 2 105 s11 A11 l11 c11,bR4 4 107 false none 0 0 false none 0 0] ?_
     refine xz (xe (Zaa (Zac (Zab (xr 2 [(4, .p 4 0),eI2 36 s17 A17 l17 c17,eI2 37 s18 A18 l18 c18] [bR4 4 107 false none 0 0 false none 0 0] ?_)))))
     refine xc 75 [vI2 s17 A17 l17 c17,vI2 s18 A18 l18 c18] 38 ZaJ _ (fun w R Q=>(Zb0 _ _ ((-(x)).tdiv (((Int.gcd (-(x)) (-(y)):Nat):Int))) ((-(y)).tdiv (((Int.gcd (-(x)) (-(y)):Nat):Int))) (Rat.divInt x y) _ Q.1.2 Q.2 (by rw [← Hq]; exact Zhh HY)).mono (fun _ _=>ZaL)) (fun xx=>?_)
     obtain ⟨s19,A19,l19,c19,t19,B19,m19,d19⟩:=xx
     refine xr 1 [(4, .p 4 0)] [bR4 4 107 s19 A19 l19 c19 t19 B19 m19 d19] ?_
     refine xe (Zaa (Zan ?_))
     refine Zag (v:=.agg #[.bool s19, .slice A19 l19 c19, .bool t19, .slice B19 m19 d19]) (by kernel_rfl) (fun w' R Q=>?_)
     exact ⟨_,rfl,Q.2,R⟩
  ·have Hq:Rat.divInt (x) (y)=Rat.divInt x y:=rfl
   have HY:0 < y:=by omega
   have hfx':Fits (x):=hfx
   have hfy':Fits (y):=hfy
   have hgk':ZcR (x) (y):=hgk
   have h80':wl (y).natAbs < 80:=h80
   refine xc 168 [vI2 s1 A1 l1 c1] 14 (fun _:Unit=>.int .i64 1) _ (fun w R Q=>(Zc9 _ (y) _ Q.1.1.1.2).mono (fun _ _ h=>Zae h (by rw [Int.sign_eq_one_of_pos (by omega)]))) (fun xx=>?_)
   refine xr 1 [(2, .p 2 0),(3, .p 3 0),(4, .p 4 0),(15, .v (.bool false))] [bR4 4 107 false none 0 0 false none 0 0,bI2 3 105 s1 A1 l1 c1,bI2 2 105 s0 A0 l0 c0] ?_
   refine xe (Zaa (xb (ZaA (Zaa (Zac (Zac (Zab (xr 1 [(2, .p 2 0),(3, .p 3 0),(4, .p 4 0),eI2 20 s1 A1 l1 c1] [bR4 4 107 false none 0 0 false none 0 0,bI2 3 105 s1 A1 l1 c1,bI2 2 105 s0 A0 l0 c0] ?_))))))))
   by_cases hz20:(y)=1
   ·refine xc 124 [vI2 s1 A1 l1 c1] 21 (fun _:Unit=>.bool true) _ (fun w R Q=>(Zbq _ (y) _ Q.1.1.1.1.2).mono (fun _ _ h=>Zae h (by rw [decide_eq_true (p:=(y)=1) hz20]))) (fun xx=>?_)
    refine xr 0 [(2, .p 2 0),(3, .p 3 0),(4, .p 4 0),(21, .v (.bool true))] [bR4 4 107 false none 0 0 false none 0 0,bI2 3 105 s1 A1 l1 c1,bI2 2 105 s0 A0 l0 c0] ?_
    refine xe (Zaa (xa (Zac (Zab (xr 3 [(2, .p 2 0),(3, .p 3 0),(4, .p 4 0)] [bR4 4 107 s0 A0 l0 c0 false none 0 0,bI2 3 105 s1 A1 l1 c1,bI2 2 105 s0 A0 l0 c0] ?_)))))
    refine xe (Zaa (Zan (Zao ?_)))
    refine Zag (v:=.agg #[.bool s0, .slice A0 l0 c0, .bool false, .slice none 0 0]) (by kernel_rfl) (fun w' R Q=>?_)
    exact ⟨_,rfl,ZaC.of (by rw [← Hq,(Zhi hz20).1]; exact Q.1.1.1.1.1.1) (by rw [← Hq,(Zhi hz20).2]; exact (Zav.nil _)),R⟩
   ·refine xc 124 [vI2 s1 A1 l1 c1] 21 (fun _:Unit=>.bool false) _ (fun w R Q=>(Zbq _ (y) _ Q.1.1.1.1.2).mono (fun _ _ h=>Zae h (by rw [decide_eq_false (p:=(y)=1) hz20]))) (fun xx=>?_)
    refine xr 0 [(2, .p 2 0),(3, .p 3 0),(4, .p 4 0),(21, .v (.bool false))] [bR4 4 107 false none 0 0 false none 0 0,bI2 3 105 s1 A1 l1 c1,bI2 2 105 s0 A0 l0 c0] ?_
    refine xe (Zaa (xb (ZaA (Zaa (Zac (Zac (Zab (xr 2 [(2, .p 2 0),(3, .p 3 0),(4, .p 4 0),eI2 24 s0 A0 l0 c0,eI2 25 s1 A1 l1 c1] [bR4 4 107 false none 0 0 false none 0 0,bI2 3 105 s1 A1 l1 c1,bI2 2 105 s0 A0 l0 c0] ?_))))))))
    refine xc 90 [vI2 s0 A0 l0 c0,vI2 s1 A1 l1 c1] 26 Zam _ (fun w R Q=>(ZdY _ _ (x) (y) _ Q.1.1.1.1.2 Q.1.1.1.1.1.1 Q.1.1.1.1.1.2 hfx' hfy' hgk').mono (fun _ _=>Zaq)) (fun xx=>?_)
    obtain ⟨s21,A21,l21,c21⟩:=xx
    refine xr 2 [(2, .p 2 0),(3, .p 3 0),(4, .p 4 0),(5, .p 5 0)] [bI2 5 105 s21 A21 l21 c21,bR4 4 107 false none 0 0 false none 0 0,bI2 3 105 s1 A1 l1 c1,bI2 2 105 s0 A0 l0 c0] ?_
    refine xe (Zaa (Zac (Zab (xr 1 [(2, .p 2 0),(3, .p 3 0),(4, .p 4 0),(5, .p 5 0),eI2 27 s21 A21 l21 c21] [bI2 5 105 s21 A21 l21 c21,bR4 4 107 false none 0 0 false none 0 0,bI2 3 105 s1 A1 l1 c1,bI2 2 105 s0 A0 l0 c0] ?_))))
    by_cases hz22:(((Int.gcd (x) (y):Nat):Int))=1
    ·refine xc 124 [vI2 s21 A21 l21 c21] 28 (fun _:Unit=>.bool true) _ (fun w R Q=>(Zbq _ (((Int.gcd (x) (y):Nat):Int)) _ Q.2).mono (fun _ _ h=>Zae h (by rw [decide_eq_true (p:=(((Int.gcd (x) (y):Nat):Int))=1) hz22]))) (fun xx=>?_)
     refine xr 1 [(2, .p 2 0),(3, .p 3 0),(4, .p 4 0),(5, .p 5 0),(29, .v (.bool false))] [bI2 5 105 s21 A21 l21 c21,bR4 4 107 false none 0 0 false none 0 0,bI2 3 105 s1 A1 l1 c1,bI2 2 105 s0 A0 l0 c0] ?_
     refine xe (Zaa (xb (ZaA (Zaa (Zac (Zab (xr 2 [(4, .p 4 0),eI2 36 s0 A0 l0 c0,eI2 37 s1 A1 l1 c1] [bR4 4 107 false none 0 0 false none 0 0] ?_)))))))
     refine xc 75 [vI2 s0 A0 l0 c0,vI2 s1 A1 l1 c1] 38 ZaJ _ (fun w R Q=>(Zb0 _ _ (x) (y) (Rat.divInt x y) _ Q.1.1.1.1.1.1.1.1 Q.1.1.1.1.1.1.1.2 (by rw [← Hq]; exact ZdT HY hz22)).mono (fun _ _=>ZaL)) (fun xx=>?_)
     obtain ⟨s23,A23,l23,c23,t23,B23,m23,d23⟩:=xx
     refine xr 1 [(4, .p 4 0)] [bR4 4 107 s23 A23 l23 c23 t23 B23 m23 d23] ?_
     refine xe (Zaa (Zan ?_))
     refine Zag (v:=.agg #[.bool s23, .slice A23 l23 c23, .bool t23, .slice B23 m23 d23]) (by kernel_rfl) (fun w' R Q=>?_)
     exact ⟨_,rfl,Q.2,R⟩
    ·refine xc 124 [vI2 s21 A21 l21 c21] 28 (fun _:Unit=>.bool false) _ (fun w R Q=>(Zbq _ (((Int.gcd (x) (y):Nat):Int)) _ Q.2).mono (fun _ _ h=>Zae h (by rw [decide_eq_false (p:=(((Int.gcd (x) (y):Nat):Int))=1) hz22]))) (fun xx=>?_)
     refine xr 1 [(2, .p 2 0),(3, .p 3 0),(4, .p 4 0),(5, .p 5 0),(29, .v (.bool true))] [bI2 5 105 s21 A21 l21 c21,bR4 4 107 false none 0 0 false none 0 0,bI2 3 105 s1 A1 l1 c1,bI2 2 105 s0 A0 l0 c0] ?_
     refine xe (Zaa (xa ?_))
     refine ZaE 8 (by kernel_rfl) (by kernel_rfl) Zaj ?_
     refine xf 2 [(2, .p 2 0),(3, .p 3 0),(4, .p 4 0),(5, .p 5 0),eI2 30 s0 A0 l0 c0,eI2 31 s21 A21 l21 c21] [bI2 5 105 s21 A21 l21 c21,bR4 4 107 false none 0 0 false none 0 0,bI2 3 105 s1 A1 l1 c1,bI2 2 105 s0 A0 l0 c0] ?_
     refine xd 169 [vI2 s0 A0 l0 c0,vI2 s21 A21 l21 c21] 32 Zam _ (fun w R Q=>(ZdH _ _ (x) (((Int.gcd (x) (y):Nat):Int)) _ Q.1.1.1.1.1.1.1.1 Q.1.2 hfx' (Zkz HY h80') (Zky HY)).mono (fun _ _=>Zaq)) (fun xx=>?_)
     obtain ⟨s24,A24,l24,c24⟩:=xx
     refine xf 2 [(2, .p 2 0),(3, .p 3 0),(4, .p 4 0),eI2 32 s24 A24 l24 c24,eI2 33 s1 A1 l1 c1,eI2 34 s21 A21 l21 c21] [bI2 5 105 s21 A21 l21 c21,bR4 4 107 false none 0 0 false none 0 0,bI2 3 105 s1 A1 l1 c1,bI2 2 105 s0 A0 l0 c0] ?_
     refine xd 169 [vI2 s1 A1 l1 c1,vI2 s21 A21 l21 c21] 35 Zam _ (fun w R Q=>(ZdH _ _ (y) (((Int.gcd (x) (y):Nat):Int)) _ Q.1.1.1.1.1.1.1.1.2 Q.1.1.2 hfy' (Zkz HY h80') (Zky HY)).mono (fun _ _=>Zaq)) (fun xx=>?_)
     obtain ⟨s25,A25,l25,c25⟩:=xx
     refine xf 2 [(2, .p 2 0),(3, .p 3 0),(4, .p 4 0)] [bI2 3 105 s25 A25 l25 c25,bI2 2 105 s24 A24 l24 c24,bI2 5 105 s21 A21 l21 c21,bR4 4 107 false none 0 0 false none 0 0,bI2 3 105 s1 A1 l1 c1,bI2 2 105 s0 A0 l0 c0] ?_
     refine xz (xe (Zaa (Zac (Zab (xr 2 [(4, .p 4 0),eI2 36 s24 A24 l24 c24,eI2 37 s25 A25 l25 c25] [bR4 4 107 false none 0 0 false none 0 0] ?_)))))
     refine xc 75 [vI2 s24 A24 l24 c24,vI2 s25 A25 l25 c25] 38 ZaJ _ (fun w R Q=>(Zb0 _ _ ((x).tdiv (((Int.gcd (x) (y):Nat):Int))) ((y).tdiv (((Int.gcd (x) (y):Nat):Int))) (Rat.divInt x y) _ Q.1.2 Q.2 (by rw [← Hq]; exact Zhh HY)).mono (fun _ _=>ZaL)) (fun xx=>?_)
     obtain ⟨s26,A26,l26,c26,t26,B26,m26,d26⟩:=xx
     refine xr 1 [(4, .p 4 0)] [bR4 4 107 s26 A26 l26 c26 t26 B26 m26 d26] ?_
     refine xe (Zaa (Zan ?_))
     refine Zag (v:=.agg #[.bool s26, .slice A26 l26 c26, .bool t26, .slice B26 m26 d26]) (by kernel_rfl) (fun w' R Q=>?_)
     exact ⟨_,rfl,Q.2,R⟩
end Go.Proofs.YthlipnahcbcjkaaGreatDoor

namespace Go.Proofs.YthlipnahcbcjkaaGreatDoor
open Go.RowKit
theorem ZkA {c:UInt8} (h:Zay c=true):UInt8.ofNat (48 + (c.toNat - 48))=c:=by
 have:=ZfW h
 apply UInt8.toNat.inj
 rw [UInt8.toNat_ofNat']
 have:=c.toNat_lt
 omega
theorem Zqr:∀ (k:Nat) (l:List UInt8),l.length=k→l.all Zay=true→l≠[]→l.head? ≠ some 48→Lib.decDigits (Zad l)=l:=by
 intro k
 induction k with
 | zero=>intro l hl _ h0; exact absurd (List.length_eq_zero_iff.1 hl) h0
 | succ k ih =>
   intro l hl hd h0 h48
   obtain ⟨l',c,rfl⟩:∃ l' c,l=l' ++ [c]:=by
    rcases List.eq_nil_or_concat l with h | ⟨l',c,h⟩
    ·exact absurd h h0
    ·exact ⟨l',c,by simpa using h⟩
   rw [List.all_append,Bool.and_eq_true] at hd
   have hc:Zay c=true:=by simpa using hd.2
   have hcb:=ZfW hc
   rw [Zeb]
   by_cases hl0:l'=[]
   ·subst hl0
    have e:Zad []=0:=rfl
    rw [e,Nat.mul_zero,Nat.zero_add,ZeY (by omega),ZkA hc]; rfl
   ·have hh:l'.head? ≠ some 48:=by
     rw [List.head?_append] at h48
     cases hx:l'.head? with
     | none=>exact absurd (List.head?_eq_none_iff.1 hx) hl0
     | some x=>rw [hx] at h48; exact h48
    have h1:=ih l' (by simp at hl; exact hl) hd.1 hl0 hh
    have hp:=(Zg4 hd.1 hl0 hh).1
    rw [Zg5 (by omega),show (10 * Zad l' + (c.toNat - 48)) / 10=Zad l' by omega,show (10 * Zad l' + (c.toNat - 48)) % 10=c.toNat - 48 by omega,h1,ZkA hc]
theorem Zog (n:Nat):(Lib.decDigits n).head? ≠ some 45:=by
 intro e
 cases h:Lib.decDigits n with
 | nil=>exact Zbm n h
 | cons x xs =>
   rw [h] at e
   simp only [List.head?_cons,Option.some.injEq] at e
   subst e
   have:=Zdn n
   rw [h] at this
   simp only [List.all_cons,Bool.and_eq_true] at this
   exact absurd this.1 (by decide)
theorem ZgL {p:UInt8→Bool} {l r:List UInt8} {c:UInt8} (h:l.all p=true) (hc:p c=false):(l ++ c :: r).takeWhile p=l∧(l ++ c :: r).dropWhile p=c :: r:=by
 induction l with
 | nil=>simp [hc]
 | cons x xs ih =>
   simp only [List.all_cons,Bool.and_eq_true] at h
   obtain ⟨h1,h2⟩:=ih h.2
   rw [List.cons_append,List.takeWhile_cons,List.dropWhile_cons,h.1]
   simp [h1,h2]
theorem Zgt (z:Int) (r:List UInt8):ZaF (Lib.itoa z ++ r)=(decide (z < 0),Lib.decDigits z.natAbs ++ r):=by
 by_cases h:z < 0
 ·rw [Zg6 h,decide_eq_true h]
  unfold ZaF
  rw [if_pos (by simp)]
  rfl
 ·rw [ZiF (by omega),decide_eq_false h]
  unfold ZaF
  rw [if_neg]
  intro e
  rw [List.head?_append] at e
  cases hx:(Lib.decDigits z.natAbs).head? with
  | none=>exact absurd (List.head?_eq_none_iff.1 hx) (Zbm _)
  | some c =>
    rw [hx] at e
    exact Zog _ (hx.trans e)
theorem Znh (z:Int):sg (decide (z < 0)) z.natAbs=z:=by
 unfold sg
 split
 ·rename_i h; have:=of_decide_eq_true h; omega
 ·rename_i h; have:¬ z < 0:=fun k=>h (decide_eq_true k); omega
theorem ZkB {q:Rat} (h:q.den=1):((q.num:Int):Rat)=q:=by
 apply Rat.ext<;>simp [h]
theorem ZtH {q:Rat} (h:q.den≠1):q.num≠0:=by
 intro e
 have:=q.reduced
 rw [e] at this
 simp [Nat.Coprime] at this
 exact h this
theorem Zhj (n:Nat):Lib.itoa (n:Int)=Lib.decDigits n:=by
 rw [ZiF (by omega),Int.natAbs_natCast]
theorem Zpn {q:Rat} (h:q.den≠1):ZaP (Zaf q)=(decide (q.num < 0),Lib.decDigits q.num.natAbs,Lib.decDigits q.den,true):=by
 have hn:=ZtH h
 have hd:=q.den_nz
 unfold Zaf
 rw [if_neg h,Zhj,List.append_assoc]
 unfold ZaP
 rw [Zgt]
 simp only []
 obtain ⟨h1,h2⟩:=ZgL (p:=Zay) (r:=Lib.decDigits q.den) (c:=47) (Zdn q.num.natAbs) (by decide)
 have e:Lib.decDigits q.num.natAbs ++ ([47] ++ Lib.decDigits q.den)=Lib.decDigits q.num.natAbs ++ 47 :: Lib.decDigits q.den:=rfl
 rw [e,h1,h2]
 have hh:=Ze0 q.num.natAbs (by omega)
 rw [if_neg (fun e=>hh (by rw [e]; rfl)),if_neg (fun e=>e.elim (Zbm _) hh),if_neg (by simp),if_neg (by simp)]
 simp only [List.tail_cons]
 obtain ⟨h3,h4⟩:=Zej (Zdn q.den)
 rw [h3,h4]
 have hh2:=Ze0 q.den (by omega)
 have h49:Lib.decDigits q.den≠[49]:=fun e=>by
  have:=ZeZ q.den
  rw [e] at this
  exact h (by rw [← this]; rfl)
 have hne:=Zbm q.den
 simp [hh2,h49,hne]
theorem ZlU (q:Rat):ZaI (Zaf q)=some q:=by
 by_cases h:q.den=1
 ·unfold Zaf
  rw [if_pos h,ZlJ,ZkB h]
 ·unfold ZaI
  rw [Zpn h]
  simp only []
  rw [if_neg (Zbm _),ZeZ,ZeZ,if_pos q.reduced,Znh,Rat.mkRat_self]
theorem ZlV {neg:Bool} {a:Nat} (h:a=0→neg=false):(sg neg a < 0 ↔ neg=true)∧(sg neg a).natAbs=a:=by
 cases neg with
 | false=>simp [sg]
 | true =>
   have:a≠0:=fun e=>by cases h e
   simp [sg]; omega
theorem ZoH {neg:Bool} {a:Nat} (h:a=0→neg=false):Lib.itoa (sg neg a)=(if neg then [45] else []) ++ Lib.decDigits a:=by
 obtain ⟨h1,h2⟩:=ZlV h
 cases neg with
 | false=>rw [ZiF (by simp [sg]),h2]; rfl
 | true=>rw [Zg6 (h1.2 rfl),h2]; rfl
theorem Zoh {l r:List UInt8} {neg:Bool} (h:ZaF l=(neg,r)):l=(if neg then [45] else []) ++ r:=by
 unfold ZaF at h
 split at h
 ·rename_i hh
  injection h with h1 h2
  subst h1 h2
  cases l with
  | nil=>cases hh
  | cons x xs=>simp at hh; subst hh; rfl
 ·injection h with h1 h2
  subst h1 h2
  rfl
theorem Zie {l:List UInt8} {q:Rat} (h:ZaI l=some q):Zaf q=l:=by
 unfold ZaI at h
 cases hs:ZaP l with
 | mk neg r =>
   obtain ⟨num,den,ok⟩:=r
   rw [hs] at h
   cases ok with
   | false=>cases h
   | true =>
     simp only [] at h
     have hdg:=ZbS hs
     obtain ⟨s1,s2⟩:=ZdZ hs
     cases hu:ZaF l with
     | mk neg' t =>
       have hl:=Zoh hu
       have htw:t.takeWhile Zay ++ t.dropWhile Zay=t:=List.takeWhile_append_dropWhile
       unfold ZaP at hs
       rw [hu] at hs
       simp only [] at hs
       split at hs
       ·-- zero
        rename_i h48
        injection hs with e1 hs; injection hs with e2 hs; injection hs with e3 e4
        subst e1 e2 e3
        simp at e4
        rw [if_pos rfl,h48] at h
        have hv:Zad [48]=0:=rfl
        rw [hv] at h
        injection h with h
        rw [e4.1] at h hl
        rw [← h,hl,← htw,h48,e4.2]
        simp only [sg]
        unfold Zaf
        rw [if_pos (by simp)]
        have:Lib.itoa ((0:Nat):Int)=[48]:=by rw [Zhj,ZeY (by omega)]; rfl
        simpa using this
       split at hs
       ·injection hs with _ hs; injection hs with _ hs; injection hs with _ hs; cases hs
       rename_i hn
       have hn1:t.takeWhile Zay≠[]:=fun e=>hn (Or.inl e)
       have hn2:(t.takeWhile Zay).head? ≠ some 48:=fun e=>hn (Or.inr e)
       have hdn:=Zqr _ _ rfl (Zb5 (p:=Zay) t) hn1 hn2
       split at hs
       ·rename_i hr
        injection hs with e1 hs; injection hs with e2 hs; injection hs with e3 _
        subst e1 e2 e3
        rw [if_pos rfl] at h
        injection h with h
        rw [← h]
        unfold Zaf
        rw [if_pos (by simp)]
        have hnum:(((sg neg' (Zad (t.takeWhile Zay)):Int)):Rat).num=sg neg' (Zad (t.takeWhile Zay)):=rfl
        rw [hnum,ZoH (fun e=>(s2 e).1),hdn,hl]
        rw [hr,List.append_nil] at htw
        rw [htw]
       split at hs
       ·injection hs with _ hs; injection hs with _ hs; injection hs with _ hs; cases hs
       ·rename_i hr h47
        injection hs with e1 hs; injection hs with e2 hs; injection hs with e3 e4
        subst e1 e2
        rw [e3] at e4
        simp at e4
        obtain ⟨⟨⟨k1,k2⟩,k3⟩,k4⟩:=e4
        rw [if_neg k2] at h
        split at h
        ·rename_i hg
         injection h with h
         have h2:=s1 k2
         have hq:q.num=sg neg' (Zad (t.takeWhile Zay))∧q.den=Zad den:=by
          have:=ZdT (x:=sg neg' (Zad (t.takeWhile Zay))) (y:=(Zad den:Int)) (by omega) (by
           unfold Int.gcd
           rw [(ZlV (fun e=>(s2 e).1)).2,Int.natAbs_natCast,hg]; rfl)
          rw [Rat.divInt_ofNat,h] at this
          exact ⟨this.1,by have:=this.2; omega⟩
         unfold Zaf
         rw [if_neg (by rw [hq.2]; omega),hq.1,hq.2,ZoH (fun e=>(s2 e).1),hdn,Zhj,Zqr _ _ rfl hdg.2.1 k2 k3,hl]
         have htail:t.dropWhile Zay=47 :: den:=by
          cases hx:t.dropWhile Zay with
          | nil=>exact absurd hx hr
          | cons c r =>
            rw [hx] at h47 k1 e3
            simp at h47 k1 e3
            subst h47
            have:=List.takeWhile_append_dropWhile (p:=Zay) (l:=r)
            rw [e3,k1,List.append_nil] at this
            rw [this]
         rw [htail] at htw
         rw [List.append_assoc,List.append_assoc]
         congr 1
        ·cases h
theorem ZrF {l:List UInt8} {q:Rat}:ZaI l=some q ↔ Zaf q=l :=
 ⟨Zie,fun h=>by rw [← h]; exact ZlU q⟩
end Go.Proofs.YthlipnahcbcjkaaGreatDoor

namespace Go.Proofs.YthlipnahcbcjkaaGreatDoor
open Go.RowKit
theorem ZrG {q:Rat} (h:q.den≠1):denF q=(q.den:Int):=by unfold denF; rw [if_neg h]
set_option maxHeartbeats 1000000 in
theorem Zbg (a:Value) (q:Rat) (w:World) (ha:ZaC w a q):Calls Tryz.prog 74 #[a] w (Zbp w (q.den:Int)):=by
 obtain ⟨s,t,A,B,l,c,l',c',rfl,hn,hd⟩:=ha
 have HD:=zh hd
 clear hn hd
 go_enter Tryz.func74,Tryz.ntmps74
 go_wp2_with fail
 generalize hwb:World.alloc (World.alloc w _) _=wb
 have hB0:Blk 107 wb w.heap.size #[.bool s, .slice A l c, .bool t, .slice B l' c']:=hwb ▸ (Blk.new _ _ _).alloc _
 have hB1:Blk 105 wb (w.heap.size + 1) #[.bool false, .slice none 0 0]:=by
  have h:=Blk.new (w.alloc (.cells #[.bool s, .slice A l c, .bool t, .slice B l' c'] 107)) 105 #[.bool false, .slice none 0 0]
  have e:(w.alloc (.cells #[.bool s, .slice A l c, .bool t, .slice B l' c'] 107)).heap.size=w.heap.size + 1:=by simp
  rw [e,hwb] at h
  exact h
 have Q:Ext w wb:=hwb ▸ ((Fr.refl _ _).alloc _).alloc _
 clear hwb
 by_cases h1:q.den=1
 ·have hz:=Zev.2 h1
  rw [hz] at HD
  refine (ZaG _ _ _ (HD.out.ext Q)).mono ?_
  rw [decide_eq_true rfl]
  rintro e w1 ⟨rfl,hF⟩
  have HB1:=zh (hB1.ext hF)
  have HE:=zh (Q.trans hF)
  have HQ:Hid ((q.den:Int)=1):=by unfold Hid; omega
  clear hB0 hB1 Q hF hz h1
  go_wp2_with fail
  refine (Zlb 1 _ Zeo rfl rfl).mono ?_
  rintro e w2 ⟨u2,rfl,hI2,hF2⟩
  obtain ⟨s2,B2,l2,c3,rfl⟩:=hI2.shape
  have hB2:=HB1.out.ext hF2
  obtain ⟨x0,x1,x2,x3⟩:=hB2.cell2
  have HB2:=zh hB2
  have HI2:=zh hI2
  have HE2:=zh (HE.out.trans hF2)
  clear hB2 hI2 hF2
  go_wp2
  refine ZmS rfl rfl ((HB2.out.set_ 0 _).set_ 1 _) (by rw [HQ.out]; exact HI2.out.store2 HB2.out) ((HE2.out.setCell (Or.inr (by show _≤w.heap.size + 1; omega)) _).setCell (Or.inr (by show _≤w.heap.size + 1; omega)) _)
 ·have hz:=ZrG h1
  have hne:denF q≠0:=by rw [hz]; have:=q.den_nz; omega
  refine (ZaG _ _ _ (HD.out.ext Q)).mono ?_
  rw [decide_eq_false hne]
  rintro e w1 ⟨rfl,hF⟩
  rw [hz] at HD
  have HI2:=zh (HD.out.ext (Q.trans hF))
  have HB1:=zh (hB1.ext hF)
  have HE:=zh (Q.trans hF)
  obtain ⟨y0,y1,y2,y3,y4⟩:=(hB0.ext hF).cell4
  obtain ⟨x0,x1,x2,x3⟩:=HB1.out.cell2
  clear hB0 hB1 Q hF hz h1 hne HD
  go_wp2
  exact ZmS rfl rfl ((HB1.out.set_ 0 _).set_ 1 _) (HI2.out.store2 HB1.out) ((HE.out.setCell (Or.inr (by show _≤w.heap.size + 1; omega)) _).setCell (Or.inr (by show _≤w.heap.size + 1; omega)) _)
noncomputable def valF (l:List UInt8):Rat:=(ZaI l).getD 0
set_option maxHeartbeats 1000000 in
theorem Zbj (s:ByteArray) (w:World) (hg:Glob w) (hok:ZbC (bytes s)):Calls Tryz.prog 72 #[.string s] w (Zc1 w (valF (bytes s))):=by
 have HG:=zh hg
 have HO:=zh hok
 clear hg hok
 go_enter Tryz.func72,Tryz.ntmps72
 go_wp2_with fail
 generalize hwb:World.alloc w _=wb
 obtain ⟨hB0,hE0⟩:=Blk.one hwb
 clear hwb
 refine (Zry s _ (HG.out.ext hE0) HO.out).mono ?_
 rintro e w1 ⟨v,ok,rfl,hF1,hR⟩
 have hq:ZaC w1 v (valF (bytes s)):=by
  unfold valF
  rcases hR with ⟨_,q,h1,h2⟩ | ⟨_,h1,h2⟩
  ·rw [h1]; exact h2
  ·rw [h1]; exact h2
 obtain ⟨a,b,A,B,l,c,l',c',rfl,hn,hd⟩:=hq
 have HB:=zh (hB0.ext hF1)
 have HE:=zh (hE0.trans hF1)
 have HN:=zh hn
 have HD:=zh hd
 have hlt:=(hB0.ext hF1).lt
 obtain ⟨y0,y1,y2,y3,y4,y5,y6,y7⟩:=(hB0.ext hF1).cell4
 clear hB0 hE0 hF1 hR hn hd
 generalize hr:w.heap.size=r at *
 have HR:=zh hr
 clear hr
 go_wp2
 have hB2:=HB.out.put4 (.bool a) (.slice A l c) (.bool b) (.slice B l' c')
 have hF2:Fr (fun i=>i=r) w1 ((((w1.setCell ⟨r,0,none⟩ (.bool a)).setCell ⟨r,1,none⟩ (.slice A l c)).setCell ⟨r,2,none⟩ (.bool b)).setCell ⟨r,3,none⟩ (.slice B l' c')):=Fr.set4 _ _ _ _
 refine Zli rfl rfl (hB2.alloc _) ((HN.out.other HB.out ZbB hF2).ext ((Fr.refl _ _).alloc _)) ((HD.out.other HB.out ZbB hF2).ext ((Fr.refl _ _).alloc _)) ((Fr.local_ HE.out hF2 (by rw [HR.out]; exact Nat.le_refl _)).alloc _)
end Go.Proofs.YthlipnahcbcjkaaGreatDoor

namespace Go.Proofs.YthlipnahcbcjkaaGreatDoor
open Go.RowKit
theorem ZdC (n:Int) (w:World) (hg:Glob w) (h0 : -9223372036854775808≤n) (h1:n≤9223372036854775807) :
 Calls Tryz.prog 121 #[.int .i64 n, .int .i64 10] w (RetV w (.string ⟨(Lib.itoa n).toArray⟩)) :=
 (Tryz.strconv_FormatInt_10 n h0 h1 w hg.1).mono (by
  rintro e w' ⟨rfl,k,os,rfl⟩
  exact ⟨rfl,Fr.ofBelow (Lib.below_grow _ w (Nat.le_refl _) k os)⟩)
set_option maxHeartbeats 1000000 in
theorem Zjd (n:Int) (w:World) (hg:Glob w) (h0 : -9223372036854775808≤n) (h1:n≤9223372036854775807) :
 Calls Tryz.prog 53 #[.int .i64 n] w (RetV w (.string ⟨(Lib.itoa n).toArray⟩)):=by
 have H:=zh (ZdC n w hg h0 h1)
 generalize Lib.itoa n=t at *
 clear hg
 go_enter Tryz.func53,Tryz.ntmps53
 go_wp2_with fail
 refine H.out.mono ?_
 rintro e w1 ⟨rfl,hF⟩
 have HF:=zh hF
 clear hF
 go_wp2
 go_ret
 exact ⟨rfl,HF.out⟩
set_option maxHeartbeats 1000000 in
theorem ZkC (n:Int) (w:World) (hg:Glob w) (h0 : -9223372036854775808≤n) (h1:n≤9223372036854775807) :
 Calls Tryz.prog 144 #[.int .i64 n, .int .i64 1] w (RetV w (.string ⟨(Lib.itoa n).toArray⟩)):=by
 have H:=zh (ZdC n w hg h0 h1)
 generalize Lib.itoa n=t at *
 clear hg
 go_enter Tryz.func144,Tryz.ntmps144
 go_wp2_with fail
 refine H.out.mono ?_
 rintro e w1 ⟨rfl,hF⟩
 have HF:=zh hF
 clear hF
 go_wp2
 go_ret
 exact ⟨rfl,HF.out⟩
def ZtI (w:World) (z:Int) (e:Ending) (w':World):Prop :=
 ∃ (z':Int) (ok:Bool),e=.returned (.tuple #[.int .i64 z', .bool ok])∧Hid (ok=true→z'=z ∧ -9223372036854775808≤z∧z≤9223372036854775807)∧Ext w w'
set_option maxHeartbeats 1000000 in
theorem Zqs (a:Value) (z:Int) (w:World) (ha:Zav w a z):Calls Tryz.prog 154 #[a] w (ZtI w z):=by
 obtain ⟨s,A,l,c,rfl,hN,hz,h0⟩:=ha.open
 obtain ⟨A',xs,c',he,hc,hX,hd,ht,hv⟩:=hN
 injection he with e1 e2 e3
 subst e1 e2 e3
 match xs,hX,hd,ht,hv with
 | [],hX,hd,ht,hv =>
   have hz0:z=0:=by simp at hv; omega
   have HZ:Hid ((0:Int)=z ∧ -9223372036854775808≤z∧z≤9223372036854775807):=by unfold Hid; omega
   clear hX hd ht hv hz h0 hc hz0
   go_enter Tryz.func154,Tryz.ntmps154
   go_wp2
   go_ret2
   exact ⟨0,true,rfl,(fun _=>HZ.out),(Fr.refl _ _).alloc _⟩
 | [x],hX,hd,ht,hv =>
   obtain ⟨b,off,rfl,hb,hc0⟩:=hX.at (i:=0) (by simp)
   simp at hc0
   have hne:=Nat.ne_of_lt hb
   have hxv:x=z.natAbs:=by simpa using hv
   have hxW:x < 18446744073709551616:=by have:=hd x (by simp); rwa [Zai] at this
   cases s with
   | false =>
     have hzz:z=(x:Int):=by simp [sg] at hz; omega
     by_cases hle:x≤9223372036854775807
     ·have HZ:Hid ((x:Int)=z ∧ -9223372036854775808≤z∧z≤9223372036854775807):=by unfold Hid; omega
      have f1:IntKind.i64.wrap (x:Int)=(x:Int):=IntWalk.i64_in _ (by omega)
      have t1:decide ((x:Int)≤9223372036854775807)=true:=by simp; omega
      clear hX hd ht hv hz h0 hc hxv hzz hle hxW
      go_enter Tryz.func154,Tryz.ntmps154
      go_wp2
      go_ret2
      exact ⟨x,true,rfl,(fun _=>HZ.out),(Fr.refl _ _).alloc _⟩
     ·have t1:decide ((x:Int)≤9223372036854775807)=false:=by simp; omega
      clear hX hd ht hv hz h0 hc hxv hzz hle hxW
      go_enter Tryz.func154,Tryz.ntmps154
      go_wp2
      go_ret2
      exact ⟨0,false,rfl,(fun h=>by cases h),(Fr.refl _ _).alloc _⟩
   | true =>
     have hzz:z = -(x:Int):=by simp [sg] at hz; omega
     by_cases hle:x≤9223372036854775808
     ·have HZ:Hid (-(x:Int)=z ∧ -9223372036854775808≤z∧z≤9223372036854775807):=by unfold Hid; omega
      have f1:IntKind.i64.wrap (IntKind.u64.wrap (-(x:Int))) = -(x:Int):=by
       rw [IntKind.wrap_u64,IntKind.wrap_i64]; omega
      have t1:decide ((x:Int)≤9223372036854775808)=true:=by simp; omega
      clear hX hd ht hv hz h0 hc hxv hzz hle hxW
      go_enter Tryz.func154,Tryz.ntmps154
      go_wp2
      go_ret2
      exact ⟨-(x:Int),true,rfl,(fun _=>HZ.out),(Fr.refl _ _).alloc _⟩
     ·have t1:decide ((x:Int)≤9223372036854775808)=false:=by simp; omega
      clear hX hd ht hv hz h0 hc hxv hzz hle hxW
      go_enter Tryz.func154,Tryz.ntmps154
      go_wp2
      go_ret2
      exact ⟨0,false,rfl,(fun h=>by cases h),(Fr.refl _ _).alloc _⟩
 | x :: y :: ys,hX,hd,ht,hv =>
   obtain ⟨b,off,rfl,hb,hc0⟩:=hX.at (i:=0) (by simp)
   simp at hc0
   have hne:=Nat.ne_of_lt hb
   obtain ⟨k,hk⟩:∃ k,(x :: y :: ys).length=k:=⟨_,rfl⟩
   have hk2:2≤k:=by simp at hk; omega
   rw [hk]
   have t0:((k:Int) == 0)=false:=by simp; omega
   clear hX hd ht hv hz h0 hc hk
   go_enter Tryz.func154,Tryz.ntmps154
   go_wp2
   go_ret2
   exact ⟨0,false,rfl,(fun h=>by cases h),(Fr.refl _ _).alloc _⟩
set_option maxHeartbeats 1000000 in
theorem Zml (a:Value) (q:Rat) (w:World) (hg:Glob w) (ha:ZaC w a q) (h1:q.den=1) (hp:Zbn q.num.natAbs) :
 Calls Tryz.prog 76 #[a] w (RetV w (.string ⟨(Lib.itoa q.num).toArray⟩)):=by
 obtain ⟨s,t,A,B,l,c,l',c',rfl,hn,hd⟩:=ha
 rw [Zev.2 h1] at hd
 generalize q.num=z at *
 have HN:=zh hn
 have HD:=zh hd
 have HG:=zh hg
 have HP:=zh hp
 clear hn hd h1 hg hp
 go_enter Tryz.func76,Tryz.ntmps76
 go_wp2_with fail
 generalize hwb:World.alloc w _=wb
 obtain ⟨hB0,hE0⟩:=Blk.one hwb
 clear hwb
 refine (ZaG _ 0 _ (HD.out.ext hE0)).mono ?_
 rw [decide_eq_true rfl]
 rintro e w1 ⟨rfl,hF1⟩
 have HB1:=zh (hB0.ext hF1)
 have HE1:=zh (hE0.trans hF1)
 obtain ⟨x0,x1,x2,x3,_⟩:=(hB0.ext hF1).cell4
 clear hB0 hE0 hF1
 go_wp2_with fail
 refine (Zqs _ z _ (HN.out.ext HE1.out)).mono ?_
 rintro e w2 ⟨z',ok,rfl,hR,hF2⟩
 have HB2:=zh (HB1.out.ext hF2)
 have HE2:=zh (HE1.out.trans hF2)
 obtain ⟨y0,y1,y2,y3,_⟩:=(HB1.out.ext hF2).cell4
 clear hF2 x0 x1 x2 x3 HB1 HE1
 cases ok with
 | true =>
   obtain ⟨rfl,r1,r2⟩:=hR.out rfl
   have HC:=zh (Zjd z' w2 (HG.out.ext HE2.out) r1 r2)
   generalize Lib.itoa z'=txt at *
   clear r1 r2
   go_wp2_with fail
   refine HC.out.mono ?_
   rintro e w3 ⟨rfl,hF3⟩
   have HE3:=zh (HE2.out.trans hF3)
   clear hF3
   go_wp2
   go_ret
   exact ⟨rfl,HE3.out⟩
 | false =>
   have HC:=zh (Zg3 _ z w2 (HG.out.ext HE2.out) (HN.out.ext HE2.out) HP.out)
   generalize Lib.itoa z=txt at *
   clear hR
   go_wp2_with fail
   refine HC.out.mono ?_
   rintro e w3 ⟨rfl,hF3⟩
   have HE3:=zh (HE2.out.trans hF3)
   clear hF3
   go_wp2
   go_ret
   exact ⟨rfl,HE3.out⟩
end Go.Proofs.YthlipnahcbcjkaaGreatDoor

namespace Go.Proofs.YthlipnahcbcjkaaGreatDoor
open Go.RowKit
def Zbb (q:Rat) (k:Nat):Prop:=wl q.num.natAbs≤k∧wl q.den≤k
theorem wlm {x y:Int} {a b:Nat} (hx:wl x.natAbs≤a) (hy:wl y.natAbs≤b):wl (x * y).natAbs≤a + b:=by
 have h:=Zj0 x.natAbs y.natAbs
 rw [← Int.natAbs_mul] at h
 omega
theorem wla {x y:Int} {a:Nat} (hx:wl x.natAbs≤a) (hy:wl y.natAbs≤a):wl (x + y).natAbs≤a + 1 :=
 Nat.le_trans (Za0 (Int.natAbs_add_le x y)) (Zj1 hx hy)
theorem wlc {n k:Nat} (h:wl n≤k):wl ((n:Int)).natAbs≤k:=by rw [Int.natAbs_natCast]; exact h
theorem wlq {x y:Int} {k:Nat} (h:wl x.natAbs≤k):wl (x.tdiv y).natAbs≤k:=by
 rw [Int.natAbs_tdiv]; exact Nat.le_trans (Za0 (Nat.div_le_self _ _)) h
theorem wld {n m k:Nat} (h:wl n≤k):wl (n / m)≤k:=Nat.le_trans (Za0 (Nat.div_le_self _ _)) h
theorem wlg {x y:Int} {k:Nat} (h:wl y.natAbs≤k) (h0:y≠0):wl (Int.gcd x y)≤k :=
 Nat.le_trans (Za0 (Nat.gcd_le_right _ (by omega))) h
theorem fit {x:Int} {k:Nat} (h:wl x.natAbs≤k) (hk:k≤1048576):Fits x:=Nat.le_trans h hk
theorem Zen (a b:Nat):(a:Int).tdiv (b:Int)=((a / b:Nat):Int):=by
 rw [Int.tdiv_eq_ediv_of_nonneg (by omega)]; rfl
theorem ZkD {p q:Rat} (h:p.den=1):(p + q).num=p.num * (q.den:Int) + q.num∧(p + q).den=q.den:=by
 have:=Zni (p:=p) (q:=q) (by rw [h]; exact Nat.gcd_one_left _)
 rw [h] at this
 simpa using this
theorem ZoI {q:Rat} {n:Nat} (h:q.den=n) (h1:n≠1):denF q=(n:Int):=by rw [ZbV (by rw [h]; exact h1),h]
theorem ZkE {x:Int} {y:Int} (h:y≠0):((Int.gcd x y:Nat):Int)≠0:=fun e=>h ((Int.gcd_eq_zero_iff.1 (Int.ofNat_eq_zero.1 e)).2)
theorem Zbb.neg {q:Rat} {k:Nat} (h:Zbb q k):Zbb (-q) k:=⟨by rw [Zf1,Int.natAbs_neg]; exact h.1,h.2⟩
theorem Zbb.inv {q:Rat} {k:Nat} (h:Zbb q k):Zbb (q⁻¹) k:=by
 obtain ⟨h1,h2⟩:=h
 rcases Zno q.num with ⟨h,_⟩ | ⟨h,_⟩ | ⟨h,_⟩
 ·obtain ⟨e1,e2⟩:=Znn h
  refine ⟨by rw [e1,Int.natAbs_neg,Int.natAbs_natCast]; exact h2,?_⟩
  have:(q⁻¹).den=q.num.natAbs:=by omega
  rw [this]; exact h1
 ·rw [ZlW h]; exact ⟨by rw [show (0:Rat).num.natAbs=0 from rfl]; exact Nat.le_trans (Za0 (Nat.zero_le _)) h1,Nat.le_trans (Za0 (by have:=q.den_nz; show 1≤q.den; omega)) h2⟩
 ·obtain ⟨e1,e2⟩:=Znm h
  refine ⟨by rw [e1,Int.natAbs_natCast]; exact h2,?_⟩
  have:(q⁻¹).den=q.num.natAbs:=by omega
  rw [this]; exact h1
theorem ZrI (a:Value) (q:Rat) (w:World) (ha:ZaC w a q) :
 Calls Tryz.prog 165 #[a] w (Zc1 w (-q)):=by
 obtain ⟨s0,A0,l0,c0,t0,B0,m0,d0,rfl⟩:=ha.shp
 refine ZaB (Φ:=fun w=>ZaC w (.agg #[.bool s0, .slice A0 l0 c0, .bool t0, .slice B0 m0 d0]) (q)) Tryz.func165 rfl (by kernel_rfl) (fun w' hf=>ha.ext hf) ?_
 refine Zac (Zab (xr 2 [(1, .p 1 0),(2, .p 2 0)] [bR4 2 107 false none 0 0 false none 0 0,bR4 1 107 s0 A0 l0 c0 t0 B0 m0 d0] ?_))
 refine xe (Zaa (Zac ?_))
 refine ZaE 7 (by kernel_rfl) (by kernel_rfl) Zaj ?_
 refine xf 2 [(1, .p 1 0),(2, .p 2 0),eI2 4 s0 A0 l0 c0] [bR4 2 107 false none 0 0 false none 0 0,bR4 1 107 s0 A0 l0 c0 t0 B0 m0 d0] ?_
 refine xd 142 [vI2 s0 A0 l0 c0] 5 Zam _ (fun w R Q=>(ZdF _ ((q).num) _ Q.num).mono (fun _ _=>Zaq)) (fun xx=>?_)
 obtain ⟨s10,A10,l10,c10⟩:=xx
 refine xf 4 [(2, .p 2 0)] [bR4 2 107 s10 A10 l10 c10 t0 B0 m0 d0,bR4 2 107 false none 0 0 false none 0 0,bR4 1 107 s0 A0 l0 c0 t0 B0 m0 d0] ?_
 refine xz (xe (Zaa (Zan ?_)))
 refine Zag (v:=.agg #[.bool s10, .slice A10 l10 c10, .bool t0, .slice B0 m0 d0]) (by kernel_rfl) (fun w' R Q=>?_)
 exact ⟨_,rfl,ZaC.of (by rw [Zf1]; exact Q.2) (by rw [Znl]; exact Q.1.den),R⟩
theorem ZsR (a b:Value) (p q:Rat) (w:World) (ha:ZaC w a p) (hb:ZaC w b q) (hp:Zbb p 38) (hq:Zbb q 38) (h1:p.den=1) (h2:q.den=1) :
 Calls Tryz.prog 147 #[a,b] w (Zc1 w (p + q)):=by
 obtain ⟨s0,A0,l0,c0,t0,B0,m0,d0,rfl⟩:=ha.shp
 obtain ⟨s1,A1,l1,c1,t1,B1,m1,d1,rfl⟩:=hb.shp
 have S1:wl p.num.natAbs≤38:=hp.1
 have S2:wl q.num.natAbs≤38:=hq.1
 have hp2:wl p.den≤38:=hp.2
 have hq2:wl q.den≤38:=hq.2
 have S3:wl ((p.den:Nat):Int).natAbs≤38:=wlc hp2
 have S4:wl ((q.den:Nat):Int).natAbs≤38:=wlc hq2
 have HW:=Zmm h1 h2
 refine ZaB (Φ:=fun w=>(((ZaC w (.agg #[.bool s0, .slice A0 l0 c0, .bool t0, .slice B0 m0 d0]) (p)∧ZaC w (.agg #[.bool s1, .slice A1 l1 c1, .bool t1, .slice B1 m1 d1]) (q))∧Zav w (.agg #[.bool t0, .slice B0 m0 d0]) (0))∧Zav w (.agg #[.bool t1, .slice B1 m1 d1]) (0))) Tryz.func147 rfl (by kernel_rfl) (fun w' hf=>⟨⟨⟨ha.ext hf,hb.ext hf⟩,(by have h:=ha.den; rw [ZbU h1] at h; exact h.ext hf)⟩,(by have h:=hb.den; rw [ZbU h2] at h; exact h.ext hf)⟩) ?_
 refine Zac (Zab (xr 3 [(2, .p 2 0),(3, .p 3 0),(4, .p 4 0)] [bR4 4 107 false none 0 0 false none 0 0,bR4 3 107 s1 A1 l1 c1 t1 B1 m1 d1,bR4 2 107 s0 A0 l0 c0 t0 B0 m0 d0] ?_))
 refine xe (Zaa (Zac (ZbD (Zac (Zab (xr 2 [(2, .p 2 0),(3, .p 3 0),(4, .p 4 0),eI2 12 t0 B0 m0 d0] [bR4 4 107 false none 0 0 false none 0 0,bR4 3 107 s1 A1 l1 c1 t1 B1 m1 d1,bR4 2 107 s0 A0 l0 c0 t0 B0 m0 d0] ?_))))))
 refine xc 141 [vI2 t0 B0 m0 d0] 13 (fun _:Unit=>.bool true) _ (fun w R Q=>(ZaG _ (0) _ Q.1.2).mono (fun _ _ h=>Zae h (by rw [decide_eq_true (p:=(0)=0) rfl]))) (fun xx=>?_)
 refine xr 3 [(2, .p 2 0),(3, .p 3 0),(4, .p 4 0),(14, .v (.bool true)),eI2 16 t1 B1 m1 d1] [bR4 4 107 false none 0 0 false none 0 0,bR4 3 107 s1 A1 l1 c1 t1 B1 m1 d1,bR4 2 107 s0 A0 l0 c0 t0 B0 m0 d0] ?_
 refine xc 141 [vI2 t1 B1 m1 d1] 17 (fun _:Unit=>.bool true) _ (fun w R Q=>(ZaG _ (0) _ Q.1.2).mono (fun _ _ h=>Zae h (by rw [decide_eq_true (p:=(0)=0) rfl]))) (fun xx=>?_)
 refine xr 2 [(2, .p 2 0),(3, .p 3 0),(4, .p 4 0),(10, .v (.bool true))] [bR4 4 107 false none 0 0 false none 0 0,bR4 3 107 s1 A1 l1 c1 t1 B1 m1 d1,bR4 2 107 s0 A0 l0 c0 t0 B0 m0 d0] ?_
 refine xe (Zaa (xa (Zac (Zab (xr 4 [(2, .p 2 0),(3, .p 3 0),(4, .p 4 0),eI2 20 s0 A0 l0 c0,eI2 22 s1 A1 l1 c1] [bR4 4 107 false none 0 0 false none 0 0,bR4 3 107 s1 A1 l1 c1 t1 B1 m1 d1,bR4 2 107 s0 A0 l0 c0 t0 B0 m0 d0] ?_)))))
 refine xc 131 [vI2 s0 A0 l0 c0,vI2 s1 A1 l1 c1] 23 Zam _ (fun w R Q=>(ZgC _ _ ((p).num) ((q).num) _ Q.1.1.1.1.1.num Q.1.1.1.1.2.num (fit S1 (by decide)) (fit S2 (by decide))).mono (fun _ _=>Zaq)) (fun xx=>?_)
 obtain ⟨s10,A10,l10,c10⟩:=xx
 refine xr 2 [(2, .p 2 0),(3, .p 3 0),(4, .p 4 0)] [bR4 4 107 s10 A10 l10 c10 false none 0 0,bR4 3 107 s1 A1 l1 c1 t1 B1 m1 d1,bR4 2 107 s0 A0 l0 c0 t0 B0 m0 d0] ?_
 refine xe (Zaa (Zan (Zcj (Zao ?_))))
 refine Zag (v:=.agg #[.bool s10, .slice A10 l10 c10, .bool false, .slice none 0 0]) (by kernel_rfl) (fun w' R Q=>?_)
 exact ⟨_,rfl,ZaC.of (by rw [HW.1]; exact Q.2) (by rw [ZbU HW.2]; exact (Zav.nil _)),R⟩
theorem ZsS (a b:Value) (p q:Rat) (w:World) (ha:ZaC w a p) (hb:ZaC w b q) (hp:Zbb p 38) (hq:Zbb q 38) (h1:p.den=1) (h2:¬ q.den=1) :
 Calls Tryz.prog 147 #[a,b] w (Zc1 w (p + q)):=by
 obtain ⟨s0,A0,l0,c0,t0,B0,m0,d0,rfl⟩:=ha.shp
 obtain ⟨s1,A1,l1,c1,t1,B1,m1,d1,rfl⟩:=hb.shp
 have S1:wl p.num.natAbs≤38:=hp.1
 have S2:wl q.num.natAbs≤38:=hq.1
 have hp2:wl p.den≤38:=hp.2
 have hq2:wl q.den≤38:=hq.2
 have S3:wl ((p.den:Nat):Int).natAbs≤38:=wlc hp2
 have S4:wl ((q.den:Nat):Int).natAbs≤38:=wlc hq2
 have HW:=ZkD (q:=q) h1
 refine ZaB (Φ:=fun w=>(((ZaC w (.agg #[.bool s0, .slice A0 l0 c0, .bool t0, .slice B0 m0 d0]) (p)∧ZaC w (.agg #[.bool s1, .slice A1 l1 c1, .bool t1, .slice B1 m1 d1]) (q))∧Zav w (.agg #[.bool t0, .slice B0 m0 d0]) (0))∧Zav w (.agg #[.bool t1, .slice B1 m1 d1]) ((q.den:Int)))) Tryz.func147 rfl (by kernel_rfl) (fun w' hf=>⟨⟨⟨ha.ext hf,hb.ext hf⟩,(by have h:=ha.den; rw [ZbU h1] at h; exact h.ext hf)⟩,(by have h:=hb.den; rw [ZbV h2] at h; exact h.ext hf)⟩) ?_
 refine Zac (Zab (xr 3 [(2, .p 2 0),(3, .p 3 0),(4, .p 4 0)] [bR4 4 107 false none 0 0 false none 0 0,bR4 3 107 s1 A1 l1 c1 t1 B1 m1 d1,bR4 2 107 s0 A0 l0 c0 t0 B0 m0 d0] ?_))
 refine xe (Zaa (Zac (ZbD (Zac (Zab (xr 2 [(2, .p 2 0),(3, .p 3 0),(4, .p 4 0),eI2 12 t0 B0 m0 d0] [bR4 4 107 false none 0 0 false none 0 0,bR4 3 107 s1 A1 l1 c1 t1 B1 m1 d1,bR4 2 107 s0 A0 l0 c0 t0 B0 m0 d0] ?_))))))
 refine xc 141 [vI2 t0 B0 m0 d0] 13 (fun _:Unit=>.bool true) _ (fun w R Q=>(ZaG _ (0) _ Q.1.2).mono (fun _ _ h=>Zae h (by rw [decide_eq_true (p:=(0)=0) rfl]))) (fun xx=>?_)
 refine xr 3 [(2, .p 2 0),(3, .p 3 0),(4, .p 4 0),(14, .v (.bool true)),eI2 16 t1 B1 m1 d1] [bR4 4 107 false none 0 0 false none 0 0,bR4 3 107 s1 A1 l1 c1 t1 B1 m1 d1,bR4 2 107 s0 A0 l0 c0 t0 B0 m0 d0] ?_
 refine xc 141 [vI2 t1 B1 m1 d1] 17 (fun _:Unit=>.bool false) _ (fun w R Q=>(ZaG _ ((q.den:Int)) _ Q.1.2).mono (fun _ _ h=>Zae h (by rw [decide_eq_false (p:=((q.den:Int))=0) (denI q)]))) (fun xx=>?_)
 refine xr 2 [(2, .p 2 0),(3, .p 3 0),(4, .p 4 0),(10, .v (.bool false))] [bR4 4 107 false none 0 0 false none 0 0,bR4 3 107 s1 A1 l1 c1 t1 B1 m1 d1,bR4 2 107 s0 A0 l0 c0 t0 B0 m0 d0] ?_
 refine xe (Zaa (xb (Zac (Zab (xr 2 [(2, .p 2 0),(3, .p 3 0),(4, .p 4 0),eI2 27 t0 B0 m0 d0] [bR4 4 107 false none 0 0 false none 0 0,bR4 3 107 s1 A1 l1 c1 t1 B1 m1 d1,bR4 2 107 s0 A0 l0 c0 t0 B0 m0 d0] ?_)))))
 refine xc 141 [vI2 t0 B0 m0 d0] 28 (fun _:Unit=>.bool true) _ (fun w R Q=>(ZaG _ (0) _ Q.1.1.1.2).mono (fun _ _ h=>Zae h (by rw [decide_eq_true (p:=(0)=0) rfl]))) (fun xx=>?_)
 refine xr 1 [(2, .p 2 0),(3, .p 3 0),(4, .p 4 0),(25, .v (.bool true))] [bR4 4 107 false none 0 0 false none 0 0,bR4 3 107 s1 A1 l1 c1 t1 B1 m1 d1,bR4 2 107 s0 A0 l0 c0 t0 B0 m0 d0] ?_
 refine xe (Zaa (xa (Zac ?_)))
 refine ZaE 12 (by kernel_rfl) (by kernel_rfl) Zaj ?_
 refine xf 4 [(2, .p 2 0),(3, .p 3 0),(4, .p 4 0),eI2 30 s0 A0 l0 c0,eI2 32 t1 B1 m1 d1] [bR4 4 107 false none 0 0 false none 0 0,bR4 3 107 s1 A1 l1 c1 t1 B1 m1 d1,bR4 2 107 s0 A0 l0 c0 t0 B0 m0 d0] ?_
 refine xd 89 [vI2 s0 A0 l0 c0,vI2 t1 B1 m1 d1] 33 Zam _ (fun w R Q=>(Zbe _ _ ((p).num) ((q.den:Int)) _ Q.1.1.1.1.1.1.num Q.1.1.1.2 (fit S1 (by decide)) (fit S4 (by decide)) (Or.inl (Nat.lt_of_le_of_lt S1 (by decide)))).mono (fun _ _=>Zaq)) (fun xx=>?_)
 obtain ⟨s10,A10,l10,c10⟩:=xx
 refine xf 2 [(2, .p 2 0),(3, .p 3 0),(4, .p 4 0),eI2 33 s10 A10 l10 c10,eI2 35 s1 A1 l1 c1] [bR4 4 107 false none 0 0 false none 0 0,bR4 3 107 s1 A1 l1 c1 t1 B1 m1 d1,bR4 2 107 s0 A0 l0 c0 t0 B0 m0 d0] ?_
 refine xd 131 [vI2 s10 A10 l10 c10,vI2 s1 A1 l1 c1] 36 Zam _ (fun w R Q=>(ZgC _ _ (((p).num) * ((q.den:Int))) ((q).num) _ Q.2 Q.1.1.1.1.1.1.2.num (fit (wlm S1 S4) (by decide)) (fit S2 (by decide))).mono (fun _ _=>Zaq)) (fun xx=>?_)
 obtain ⟨s11,A11,l11,c11⟩:=xx
 refine xf 4 [(2, .p 2 0),(3, .p 3 0),(4, .p 4 0)] [bR4 4 107 s11 A11 l11 c11 t1 B1 m1 d1,bR4 4 107 false none 0 0 false none 0 0,bR4 3 107 s1 A1 l1 c1 t1 B1 m1 d1,bR4 2 107 s0 A0 l0 c0 t0 B0 m0 d0] ?_
 refine xz (xe (Zaa (Zan (Zcj (Zao ?_)))))
 refine Zag (v:=.agg #[.bool s11, .slice A11 l11 c11, .bool t1, .slice B1 m1 d1]) (by kernel_rfl) (fun w' R Q=>?_)
 exact ⟨_,rfl,ZaC.of (by rw [HW.1]; exact Q.2) (by rw [ZoI HW.2 h2]; exact Q.1.1.1.1.1.2),R⟩
theorem ZsT (a b:Value) (p q:Rat) (w:World) (ha:ZaC w a p) (hb:ZaC w b q) (hp:Zbb p 38) (hq:Zbb q 38) (h1:¬ p.den=1) (h2:q.den=1) :
 Calls Tryz.prog 147 #[a,b] w (Zc1 w (p + q)):=by
 obtain ⟨s0,A0,l0,c0,t0,B0,m0,d0,rfl⟩:=ha.shp
 obtain ⟨s1,A1,l1,c1,t1,B1,m1,d1,rfl⟩:=hb.shp
 have S1:wl p.num.natAbs≤38:=hp.1
 have S2:wl q.num.natAbs≤38:=hq.1
 have hp2:wl p.den≤38:=hp.2
 have hq2:wl q.den≤38:=hq.2
 have S3:wl ((p.den:Nat):Int).natAbs≤38:=wlc hp2
 have S4:wl ((q.den:Nat):Int).natAbs≤38:=wlc hq2
 have HW:=(show (p + q).num=q.num * (p.den:Int) + p.num∧(p + q).den=p.den by rw [Rat.add_comm]; exact ZkD h2)
 refine ZaB (Φ:=fun w=>(((ZaC w (.agg #[.bool s0, .slice A0 l0 c0, .bool t0, .slice B0 m0 d0]) (p)∧ZaC w (.agg #[.bool s1, .slice A1 l1 c1, .bool t1, .slice B1 m1 d1]) (q))∧Zav w (.agg #[.bool t0, .slice B0 m0 d0]) ((p.den:Int)))∧Zav w (.agg #[.bool t1, .slice B1 m1 d1]) (0))) Tryz.func147 rfl (by kernel_rfl) (fun w' hf=>⟨⟨⟨ha.ext hf,hb.ext hf⟩,(by have h:=ha.den; rw [ZbV h1] at h; exact h.ext hf)⟩,(by have h:=hb.den; rw [ZbU h2] at h; exact h.ext hf)⟩) ?_
 refine Zac (Zab (xr 3 [(2, .p 2 0),(3, .p 3 0),(4, .p 4 0)] [bR4 4 107 false none 0 0 false none 0 0,bR4 3 107 s1 A1 l1 c1 t1 B1 m1 d1,bR4 2 107 s0 A0 l0 c0 t0 B0 m0 d0] ?_))
 refine xe (Zaa (Zac (ZbD (Zac (Zab (xr 2 [(2, .p 2 0),(3, .p 3 0),(4, .p 4 0),eI2 12 t0 B0 m0 d0] [bR4 4 107 false none 0 0 false none 0 0,bR4 3 107 s1 A1 l1 c1 t1 B1 m1 d1,bR4 2 107 s0 A0 l0 c0 t0 B0 m0 d0] ?_))))))
 refine xc 141 [vI2 t0 B0 m0 d0] 13 (fun _:Unit=>.bool false) _ (fun w R Q=>(ZaG _ ((p.den:Int)) _ Q.1.2).mono (fun _ _ h=>Zae h (by rw [decide_eq_false (p:=((p.den:Int))=0) (denI p)]))) (fun xx=>?_)
 refine xr 6 [(2, .p 2 0),(3, .p 3 0),(4, .p 4 0),(10, .v (.bool false))] [bR4 4 107 false none 0 0 false none 0 0,bR4 3 107 s1 A1 l1 c1 t1 B1 m1 d1,bR4 2 107 s0 A0 l0 c0 t0 B0 m0 d0] ?_
 refine xe (Zaa (xb (Zac (Zab (xr 2 [(2, .p 2 0),(3, .p 3 0),(4, .p 4 0),eI2 27 t0 B0 m0 d0] [bR4 4 107 false none 0 0 false none 0 0,bR4 3 107 s1 A1 l1 c1 t1 B1 m1 d1,bR4 2 107 s0 A0 l0 c0 t0 B0 m0 d0] ?_)))))
 refine xc 141 [vI2 t0 B0 m0 d0] 28 (fun _:Unit=>.bool false) _ (fun w R Q=>(ZaG _ ((p.den:Int)) _ Q.1.1.2).mono (fun _ _ h=>Zae h (by rw [decide_eq_false (p:=((p.den:Int))=0) (denI p)]))) (fun xx=>?_)
 refine xr 1 [(2, .p 2 0),(3, .p 3 0),(4, .p 4 0),(25, .v (.bool false))] [bR4 4 107 false none 0 0 false none 0 0,bR4 3 107 s1 A1 l1 c1 t1 B1 m1 d1,bR4 2 107 s0 A0 l0 c0 t0 B0 m0 d0] ?_
 refine xe (Zaa (xb (Zac (Zab (xr 2 [(2, .p 2 0),(3, .p 3 0),(4, .p 4 0),eI2 42 t1 B1 m1 d1] [bR4 4 107 false none 0 0 false none 0 0,bR4 3 107 s1 A1 l1 c1 t1 B1 m1 d1,bR4 2 107 s0 A0 l0 c0 t0 B0 m0 d0] ?_)))))
 refine xc 141 [vI2 t1 B1 m1 d1] 43 (fun _:Unit=>.bool true) _ (fun w R Q=>(ZaG _ (0) _ Q.1.1.2).mono (fun _ _ h=>Zae h (by rw [decide_eq_true (p:=(0)=0) rfl]))) (fun xx=>?_)
 refine xr 1 [(2, .p 2 0),(3, .p 3 0),(4, .p 4 0),(40, .v (.bool true))] [bR4 4 107 false none 0 0 false none 0 0,bR4 3 107 s1 A1 l1 c1 t1 B1 m1 d1,bR4 2 107 s0 A0 l0 c0 t0 B0 m0 d0] ?_
 refine xe (Zaa (xa (Zac ?_)))
 refine ZaE 12 (by kernel_rfl) (by kernel_rfl) Zaj ?_
 refine xf 4 [(2, .p 2 0),(3, .p 3 0),(4, .p 4 0),eI2 45 s1 A1 l1 c1,eI2 47 t0 B0 m0 d0] [bR4 4 107 false none 0 0 false none 0 0,bR4 3 107 s1 A1 l1 c1 t1 B1 m1 d1,bR4 2 107 s0 A0 l0 c0 t0 B0 m0 d0] ?_
 refine xd 89 [vI2 s1 A1 l1 c1,vI2 t0 B0 m0 d0] 48 Zam _ (fun w R Q=>(Zbe _ _ ((q).num) ((p.den:Int)) _ Q.1.1.1.1.1.2.num Q.1.1.1.1.2 (fit S2 (by decide)) (fit S3 (by decide)) (Or.inl (Nat.lt_of_le_of_lt S2 (by decide)))).mono (fun _ _=>Zaq)) (fun xx=>?_)
 obtain ⟨s10,A10,l10,c10⟩:=xx
 refine xf 2 [(2, .p 2 0),(3, .p 3 0),(4, .p 4 0),eI2 48 s10 A10 l10 c10,eI2 50 s0 A0 l0 c0] [bR4 4 107 false none 0 0 false none 0 0,bR4 3 107 s1 A1 l1 c1 t1 B1 m1 d1,bR4 2 107 s0 A0 l0 c0 t0 B0 m0 d0] ?_
 refine xd 131 [vI2 s10 A10 l10 c10,vI2 s0 A0 l0 c0] 51 Zam _ (fun w R Q=>(ZgC _ _ (((q).num) * ((p.den:Int))) ((p).num) _ Q.2 Q.1.1.1.1.1.1.1.num (fit (wlm S2 S3) (by decide)) (fit S1 (by decide))).mono (fun _ _=>Zaq)) (fun xx=>?_)
 obtain ⟨s11,A11,l11,c11⟩:=xx
 refine xf 4 [(2, .p 2 0),(3, .p 3 0),(4, .p 4 0)] [bR4 4 107 s11 A11 l11 c11 t0 B0 m0 d0,bR4 4 107 false none 0 0 false none 0 0,bR4 3 107 s1 A1 l1 c1 t1 B1 m1 d1,bR4 2 107 s0 A0 l0 c0 t0 B0 m0 d0] ?_
 refine xz (xe (Zaa (Zan (Zcj (Zao ?_)))))
 refine Zag (v:=.agg #[.bool s11, .slice A11 l11 c11, .bool t0, .slice B0 m0 d0]) (by kernel_rfl) (fun w' R Q=>?_)
 exact ⟨_,rfl,ZaC.of (by rw [HW.1]; exact Q.2) (by rw [ZoI HW.2 h1]; exact Q.1.1.1.1.1.1.2),R⟩
theorem ZsU (a b:Value) (p q:Rat) (w:World) (hg:Glob w) (ha:ZaC w a p) (hb:ZaC w b q) (hp:Zbb p 38) (hq:Zbb q 38) (h1:¬ p.den=1) (h2:¬ q.den=1) :
 Calls Tryz.prog 147 #[a,b] w (Zc1 w (p + q)):=by
 obtain ⟨s0,A0,l0,c0,t0,B0,m0,d0,rfl⟩:=ha.shp
 obtain ⟨s1,A1,l1,c1,t1,B1,m1,d1,rfl⟩:=hb.shp
 have S1:wl p.num.natAbs≤38:=hp.1
 have S2:wl q.num.natAbs≤38:=hq.1
 have hp2:wl p.den≤38:=hp.2
 have hq2:wl q.den≤38:=hq.2
 have S3:wl ((p.den:Nat):Int).natAbs≤38:=wlc hp2
 have S4:wl ((q.den:Nat):Int).natAbs≤38:=wlc hq2
 obtain ⟨c,ec⟩:∃ c,Nat.gcd p.den q.den=c:=⟨_,rfl⟩
 have hc0:c≠0:=by have:=p.den_nz; rw [← ec]; exact fun e=>this (Nat.gcd_eq_zero_iff.1 e).1
 have Sc:wl c≤38:=by rw [← ec]; exact Nat.le_trans (Za0 (Nat.gcd_le_right _ (Nat.pos_of_ne_zero q.den_nz))) hq.2
 obtain ⟨n,en⟩:∃ n,(p).num * ((q.den / c:Nat):Int) + (q).num * ((p.den / c:Nat):Int)=n:=⟨_,rfl⟩
 have Sn:wl n.natAbs≤77:=by rw [← en]; exact wla (wlm S1 (wlc (wld hq2))) (wlm S2 (wlc (wld hp2)))
 have HA1:c=1→(p + q).num=n∧(p + q).den=p.den * q.den:=fun e=>by have h:=Zni (p:=p) (q:=q) (by rw [ec]; exact e); rw [← en,e,Nat.div_one,Nat.div_one]; exact h
 have HA2:c≠1→(p + q).num=n.tdiv (Int.gcd n c:Int)∧(p + q).den=p.den / c * (q.den / Int.gcd n c):=fun e=>ZrH ec e en
 have HA0:n=0→p + q=0:=fun e=>Rat.num_eq_zero.1 ((Decidable.em (c=1)).elim (fun h=>by rw [(HA1 h).1,e]) (fun h=>by rw [(HA2 h).1,e,Int.zero_tdiv]))
 have hci:(c:Int)≠0:=by omega
 refine ZaB (Φ:=fun w=>((((ZaC w (.agg #[.bool s0, .slice A0 l0 c0, .bool t0, .slice B0 m0 d0]) (p)∧ZaC w (.agg #[.bool s1, .slice A1 l1 c1, .bool t1, .slice B1 m1 d1]) (q))∧Glob w)∧Zav w (.agg #[.bool t0, .slice B0 m0 d0]) ((p.den:Int)))∧Zav w (.agg #[.bool t1, .slice B1 m1 d1]) ((q.den:Int)))) Tryz.func147 rfl (by kernel_rfl) (fun w' hf=>⟨⟨⟨⟨ha.ext hf,hb.ext hf⟩,hg.ext hf⟩,(by have h:=ha.den; rw [ZbV h1] at h; exact h.ext hf)⟩,(by have h:=hb.den; rw [ZbV h2] at h; exact h.ext hf)⟩) ?_
 refine Zac (Zab (xr 3 [(2, .p 2 0),(3, .p 3 0),(4, .p 4 0)] [bR4 4 107 false none 0 0 false none 0 0,bR4 3 107 s1 A1 l1 c1 t1 B1 m1 d1,bR4 2 107 s0 A0 l0 c0 t0 B0 m0 d0] ?_))
 refine xe (Zaa (Zac (ZbD (Zac (Zab (xr 2 [(2, .p 2 0),(3, .p 3 0),(4, .p 4 0),eI2 12 t0 B0 m0 d0] [bR4 4 107 false none 0 0 false none 0 0,bR4 3 107 s1 A1 l1 c1 t1 B1 m1 d1,bR4 2 107 s0 A0 l0 c0 t0 B0 m0 d0] ?_))))))
 refine xc 141 [vI2 t0 B0 m0 d0] 13 (fun _:Unit=>.bool false) _ (fun w R Q=>(ZaG _ ((p.den:Int)) _ Q.1.2).mono (fun _ _ h=>Zae h (by rw [decide_eq_false (p:=((p.den:Int))=0) (denI p)]))) (fun xx=>?_)
 refine xr 6 [(2, .p 2 0),(3, .p 3 0),(4, .p 4 0),(10, .v (.bool false))] [bR4 4 107 false none 0 0 false none 0 0,bR4 3 107 s1 A1 l1 c1 t1 B1 m1 d1,bR4 2 107 s0 A0 l0 c0 t0 B0 m0 d0] ?_
 refine xe (Zaa (xb (Zac (Zab (xr 2 [(2, .p 2 0),(3, .p 3 0),(4, .p 4 0),eI2 27 t0 B0 m0 d0] [bR4 4 107 false none 0 0 false none 0 0,bR4 3 107 s1 A1 l1 c1 t1 B1 m1 d1,bR4 2 107 s0 A0 l0 c0 t0 B0 m0 d0] ?_)))))
 refine xc 141 [vI2 t0 B0 m0 d0] 28 (fun _:Unit=>.bool false) _ (fun w R Q=>(ZaG _ ((p.den:Int)) _ Q.1.1.2).mono (fun _ _ h=>Zae h (by rw [decide_eq_false (p:=((p.den:Int))=0) (denI p)]))) (fun xx=>?_)
 refine xr 1 [(2, .p 2 0),(3, .p 3 0),(4, .p 4 0),(25, .v (.bool false))] [bR4 4 107 false none 0 0 false none 0 0,bR4 3 107 s1 A1 l1 c1 t1 B1 m1 d1,bR4 2 107 s0 A0 l0 c0 t0 B0 m0 d0] ?_
 refine xe (Zaa (xb (Zac (Zab (xr 2 [(2, .p 2 0),(3, .p 3 0),(4, .p 4 0),eI2 42 t1 B1 m1 d1] [bR4 4 107 false none 0 0 false none 0 0,bR4 3 107 s1 A1 l1 c1 t1 B1 m1 d1,bR4 2 107 s0 A0 l0 c0 t0 B0 m0 d0] ?_)))))
 refine xc 141 [vI2 t1 B1 m1 d1] 43 (fun _:Unit=>.bool false) _ (fun w R Q=>(ZaG _ ((q.den:Int)) _ Q.1.1.2).mono (fun _ _ h=>Zae h (by rw [decide_eq_false (p:=((q.den:Int))=0) (denI q)]))) (fun xx=>?_)
 refine xr 1 [(2, .p 2 0),(3, .p 3 0),(4, .p 4 0),(40, .v (.bool false))] [bR4 4 107 false none 0 0 false none 0 0,bR4 3 107 s1 A1 l1 c1 t1 B1 m1 d1,bR4 2 107 s0 A0 l0 c0 t0 B0 m0 d0] ?_
 refine xe (Zaa (xb (ZaA (ZeM (Zaa (Zac (Zab (xr 4 [(2, .p 2 0),(3, .p 3 0),(4, .p 4 0),eI2 56 t0 B0 m0 d0,eI2 58 t1 B1 m1 d1] [bR4 4 107 false none 0 0 false none 0 0,bR4 3 107 s1 A1 l1 c1 t1 B1 m1 d1,bR4 2 107 s0 A0 l0 c0 t0 B0 m0 d0] ?_))))))))
 refine xc 90 [vI2 t0 B0 m0 d0,vI2 t1 B1 m1 d1] 59 Zam _ (fun w R Q=>(ZdY _ _ ((p.den:Int)) ((q.den:Int)) _ Q.1.1.1.1.1.2 Q.1.1.1.1.2 Q.1.1.1.2 (fit S3 (by decide)) (fit S4 (by decide)) (ZcR.words (Nat.le_trans S3 (by decide)) (Nat.le_trans S4 (by decide)))).mono (fun _ _ h=>Zaq (by rw [(show Int.gcd (p.den:Int) (q.den:Int)=c from ec)] at h; exact h))) (fun xx=>?_)
 obtain ⟨s10,A10,l10,c10⟩:=xx
 refine xr 2 [(2, .p 2 0),(3, .p 3 0),(4, .p 4 0),(5, .p 5 0)] [bI2 5 105 s10 A10 l10 c10,bR4 4 107 false none 0 0 false none 0 0,bR4 3 107 s1 A1 l1 c1 t1 B1 m1 d1,bR4 2 107 s0 A0 l0 c0 t0 B0 m0 d0] ?_
 refine xe (Zaa (Zac ?_))
 refine ZaE 12 (by kernel_rfl) (by kernel_rfl) Zaj ?_
 refine xf 3 [(2, .p 2 0),(3, .p 3 0),(4, .p 4 0),(5, .p 5 0),eI2 61 t1 B1 m1 d1,eI2 62 s10 A10 l10 c10] [bI2 5 105 s10 A10 l10 c10,bR4 4 107 false none 0 0 false none 0 0,bR4 3 107 s1 A1 l1 c1 t1 B1 m1 d1,bR4 2 107 s0 A0 l0 c0 t0 B0 m0 d0] ?_
 refine xd 169 [vI2 t1 B1 m1 d1,vI2 s10 A10 l10 c10] 63 Zam _ (fun w R Q=>(ZdH _ _ ((q.den:Int)) ((c:Int)) _ Q.1.1.1.1.2 Q.2 (fit S4 (by decide)) (Nat.lt_of_le_of_lt (wlc Sc) (by decide)) hci).mono (fun _ _ h=>Zaq (by rw [Zen] at h; exact h))) (fun xx=>?_)
 obtain ⟨s11,A11,l11,c11⟩:=xx
 refine xf 3 [(2, .p 2 0),(3, .p 3 0),(4, .p 4 0),(5, .p 5 0),eI2 63 s11 A11 l11 c11,eI2 65 t0 B0 m0 d0,eI2 66 s10 A10 l10 c10] [bI2 5 105 s10 A10 l10 c10,bR4 4 107 false none 0 0 false none 0 0,bR4 3 107 s1 A1 l1 c1 t1 B1 m1 d1,bR4 2 107 s0 A0 l0 c0 t0 B0 m0 d0] ?_
 refine xd 169 [vI2 t0 B0 m0 d0,vI2 s10 A10 l10 c10] 67 Zam _ (fun w R Q=>(ZdH _ _ ((p.den:Int)) ((c:Int)) _ Q.1.1.1.1.1.1.2 Q.1.2 (fit S3 (by decide)) (Nat.lt_of_le_of_lt (wlc Sc) (by decide)) hci).mono (fun _ _ h=>Zaq (by rw [Zen] at h; exact h))) (fun xx=>?_)
 obtain ⟨s12,A12,l12,c12⟩:=xx
 refine xf 4 [(2, .p 2 0),(3, .p 3 0),(4, .p 4 0),(5, .p 5 0),(6, .p 6 0),(7, .p 7 0)] [bI2 7 105 s12 A12 l12 c12,bI2 6 105 s11 A11 l11 c11,bI2 7 105 false none 0 0,bI2 6 105 false none 0 0,bI2 5 105 s10 A10 l10 c10,bR4 4 107 false none 0 0 false none 0 0,bR4 3 107 s1 A1 l1 c1 t1 B1 m1 d1,bR4 2 107 s0 A0 l0 c0 t0 B0 m0 d0] ?_
 refine xz (xe (Zaa (Zac ?_)))
 refine ZaE 11 (by kernel_rfl) (by kernel_rfl) Zaj ?_
 refine xf 3 [(2, .p 2 0),(3, .p 3 0),(4, .p 4 0),(5, .p 5 0),(7, .p 7 0),eI2 69 s0 A0 l0 c0,eI2 70 s11 A11 l11 c11] [bI2 7 105 s12 A12 l12 c12,bI2 6 105 s11 A11 l11 c11,bI2 7 105 false none 0 0,bI2 6 105 false none 0 0,bI2 5 105 s10 A10 l10 c10,bR4 4 107 false none 0 0 false none 0 0,bR4 3 107 s1 A1 l1 c1 t1 B1 m1 d1,bR4 2 107 s0 A0 l0 c0 t0 B0 m0 d0] ?_
 refine xd 89 [vI2 s0 A0 l0 c0,vI2 s11 A11 l11 c11] 71 Zam _ (fun w R Q=>(Zbe _ _ ((p).num) (((q.den / c:Nat):Int)) _ Q.1.1.1.1.1.1.1.1.1.1.num Q.1.2 (fit S1 (by decide)) (fit (wlc (wld hq2)) (by decide)) (Or.inl (Nat.lt_of_le_of_lt S1 (by decide)))).mono (fun _ _=>Zaq)) (fun xx=>?_)
 obtain ⟨s13,A13,l13,c13⟩:=xx
 refine xf 3 [(2, .p 2 0),(3, .p 3 0),(4, .p 4 0),(5, .p 5 0),(7, .p 7 0),eI2 71 s13 A13 l13 c13,eI2 73 s1 A1 l1 c1,eI2 74 s12 A12 l12 c12] [bI2 7 105 s12 A12 l12 c12,bI2 6 105 s11 A11 l11 c11,bI2 7 105 false none 0 0,bI2 6 105 false none 0 0,bI2 5 105 s10 A10 l10 c10,bR4 4 107 false none 0 0 false none 0 0,bR4 3 107 s1 A1 l1 c1 t1 B1 m1 d1,bR4 2 107 s0 A0 l0 c0 t0 B0 m0 d0] ?_
 refine xd 89 [vI2 s1 A1 l1 c1,vI2 s12 A12 l12 c12] 75 Zam _ (fun w R Q=>(Zbe _ _ ((q).num) (((p.den / c:Nat):Int)) _ Q.1.1.1.1.1.1.1.1.1.1.2.num Q.1.2 (fit S2 (by decide)) (fit (wlc (wld hp2)) (by decide)) (Or.inl (Nat.lt_of_le_of_lt S2 (by decide)))).mono (fun _ _=>Zaq)) (fun xx=>?_)
 obtain ⟨s14,A14,l14,c14⟩:=xx
 refine xf 0 [(2, .p 2 0),(3, .p 3 0),(4, .p 4 0),(5, .p 5 0),(7, .p 7 0),eI2 71 s13 A13 l13 c13,eI2 75 s14 A14 l14 c14] [bI2 7 105 s12 A12 l12 c12,bI2 6 105 s11 A11 l11 c11,bI2 7 105 false none 0 0,bI2 6 105 false none 0 0,bI2 5 105 s10 A10 l10 c10,bR4 4 107 false none 0 0 false none 0 0,bR4 3 107 s1 A1 l1 c1 t1 B1 m1 d1,bR4 2 107 s0 A0 l0 c0 t0 B0 m0 d0] ?_
 refine xd 131 [vI2 s13 A13 l13 c13,vI2 s14 A14 l14 c14] 76 Zam _ (fun w R Q=>(ZgC _ _ (((p).num) * (((q.den / c:Nat):Int))) (((q).num) * (((p.den / c:Nat):Int))) _ Q.1.2 Q.2 (fit (wlm S1 (wlc (wld hq2))) (by decide)) (fit (wlm S2 (wlc (wld hp2))) (by decide))).mono (fun _ _ h=>Zaq (by rw [en] at h; exact h))) (fun xx=>?_)
 obtain ⟨s15,A15,l15,c15⟩:=xx
 refine xf 2 [(2, .p 2 0),(3, .p 3 0),(4, .p 4 0),(5, .p 5 0),(7, .p 7 0),(8, .p 8 0)] [bI2 8 105 s15 A15 l15 c15,bI2 8 105 false none 0 0,bI2 7 105 s12 A12 l12 c12,bI2 6 105 s11 A11 l11 c11,bI2 7 105 false none 0 0,bI2 6 105 false none 0 0,bI2 5 105 s10 A10 l10 c10,bR4 4 107 false none 0 0 false none 0 0,bR4 3 107 s1 A1 l1 c1 t1 B1 m1 d1,bR4 2 107 s0 A0 l0 c0 t0 B0 m0 d0] ?_
 refine xz (xe (Zaa (Zac (Zac (Zab (xr 1 [(2, .p 2 0),(3, .p 3 0),(4, .p 4 0),(5, .p 5 0),(7, .p 7 0),(8, .p 8 0),eI2 77 s15 A15 l15 c15] [bI2 8 105 s15 A15 l15 c15,bI2 7 105 s12 A12 l12 c12,bI2 5 105 s10 A10 l10 c10,bR4 4 107 false none 0 0 false none 0 0,bR4 3 107 s1 A1 l1 c1 t1 B1 m1 d1,bR4 2 107 s0 A0 l0 c0 t0 B0 m0 d0] ?_))))))
 by_cases hz16:(n)=0
 ·refine xc 141 [vI2 s15 A15 l15 c15] 78 (fun _:Unit=>.bool true) _ (fun w R Q=>(ZaG _ (n) _ Q.2).mono (fun _ _ h=>Zae h (by rw [decide_eq_true (p:=(n)=0) hz16]))) (fun xx=>?_)
  refine xr 0 [(2, .p 2 0),(3, .p 3 0),(4, .p 4 0),(5, .p 5 0),(7, .p 7 0),(8, .p 8 0),(78, .v (.bool true))] [bI2 8 105 s15 A15 l15 c15,bI2 7 105 s12 A12 l12 c12,bI2 5 105 s10 A10 l10 c10,bR4 4 107 false none 0 0 false none 0 0,bR4 3 107 s1 A1 l1 c1 t1 B1 m1 d1,bR4 2 107 s0 A0 l0 c0 t0 B0 m0 d0] ?_
  refine xe (Zaa (xa (Zac (Zab (xr 2 [(2, .p 2 0),(3, .p 3 0),(4, .p 4 0),(5, .p 5 0),(7, .p 7 0),(8, .p 8 0)] [bI2 8 105 s15 A15 l15 c15,bI2 7 105 s12 A12 l12 c12,bI2 5 105 s10 A10 l10 c10,bR4 4 107 false none 0 0 false none 0 0,bR4 3 107 s1 A1 l1 c1 t1 B1 m1 d1,bR4 2 107 s0 A0 l0 c0 t0 B0 m0 d0] ?_)))))
  refine xe (Zaa (Zan (Zao ?_)))
  refine Zag (v:=.agg #[.bool false, .slice none 0 0, .bool false, .slice none 0 0]) (by kernel_rfl) (fun w' R Q=>?_)
  exact ⟨_,rfl,by rw [HA0 hz16]; exact (ZaC.nil _),R⟩
 ·refine xc 141 [vI2 s15 A15 l15 c15] 78 (fun _:Unit=>.bool false) _ (fun w R Q=>(ZaG _ (n) _ Q.2).mono (fun _ _ h=>Zae h (by rw [decide_eq_false (p:=(n)=0) hz16]))) (fun xx=>?_)
  refine xr 0 [(2, .p 2 0),(3, .p 3 0),(4, .p 4 0),(5, .p 5 0),(7, .p 7 0),(8, .p 8 0),(78, .v (.bool false))] [bI2 8 105 s15 A15 l15 c15,bI2 7 105 s12 A12 l12 c12,bI2 5 105 s10 A10 l10 c10,bR4 4 107 false none 0 0 false none 0 0,bR4 3 107 s1 A1 l1 c1 t1 B1 m1 d1,bR4 2 107 s0 A0 l0 c0 t0 B0 m0 d0] ?_
  refine xe (Zaa (xb (ZaA (Zaa (Zac (Zac (Zab (xr 1 [(2, .p 2 0),(3, .p 3 0),(4, .p 4 0),(5, .p 5 0),(7, .p 7 0),(8, .p 8 0),eI2 80 s10 A10 l10 c10] [bI2 8 105 s15 A15 l15 c15,bI2 7 105 s12 A12 l12 c12,bI2 5 105 s10 A10 l10 c10,bR4 4 107 false none 0 0 false none 0 0,bR4 3 107 s1 A1 l1 c1 t1 B1 m1 d1,bR4 2 107 s0 A0 l0 c0 t0 B0 m0 d0] ?_))))))))
  by_cases hz17:((c:Int))=1
  ·refine xc 124 [vI2 s10 A10 l10 c10] 81 (fun _:Unit=>.bool true) _ (fun w R Q=>(Zbq _ ((c:Int)) _ Q.1.1.1.1.1.1.2).mono (fun _ _ h=>Zae h (by rw [decide_eq_true (p:=((c:Int))=1) hz17]))) (fun xx=>?_)
   refine xr 0 [(2, .p 2 0),(3, .p 3 0),(4, .p 4 0),(5, .p 5 0),(7, .p 7 0),(8, .p 8 0),(81, .v (.bool true))] [bI2 8 105 s15 A15 l15 c15,bI2 7 105 s12 A12 l12 c12,bI2 5 105 s10 A10 l10 c10,bR4 4 107 false none 0 0 false none 0 0,bR4 3 107 s1 A1 l1 c1 t1 B1 m1 d1,bR4 2 107 s0 A0 l0 c0 t0 B0 m0 d0] ?_
   refine xe (Zaa (xa (Zac ?_)))
   refine ZaE 8 (by kernel_rfl) (by kernel_rfl) Zaj ?_
   refine xf 5 [(3, .p 3 0),(4, .p 4 0),(5, .p 5 0),(7, .p 7 0),(8, .p 8 0),eI2 82 s15 A15 l15 c15,eI2 84 t0 B0 m0 d0,eI2 86 t1 B1 m1 d1] [bI2 8 105 s15 A15 l15 c15,bI2 7 105 s12 A12 l12 c12,bI2 5 105 s10 A10 l10 c10,bR4 4 107 false none 0 0 false none 0 0,bR4 3 107 s1 A1 l1 c1 t1 B1 m1 d1,bR4 2 107 s0 A0 l0 c0 t0 B0 m0 d0] ?_
   refine xd 89 [vI2 t0 B0 m0 d0,vI2 t1 B1 m1 d1] 87 Zam _ (fun w R Q=>(Zbe _ _ ((p.den:Int)) ((q.den:Int)) _ Q.1.1.1.1.1.1.1.1.1.1.1.1.2 Q.1.1.1.1.1.1.1.1.1.1.1.2 (fit S3 (by decide)) (fit S4 (by decide)) (Or.inl (Nat.lt_of_le_of_lt S3 (by decide)))).mono (fun _ _=>Zaq)) (fun xx=>?_)
   obtain ⟨s18,A18,l18,c18⟩:=xx
   refine xf 0 [(3, .p 3 0),(4, .p 4 0),(5, .p 5 0),(7, .p 7 0),(8, .p 8 0),eI2 82 s15 A15 l15 c15,eI2 87 s18 A18 l18 c18] [bI2 8 105 s15 A15 l15 c15,bI2 7 105 s12 A12 l12 c12,bI2 5 105 s10 A10 l10 c10,bR4 4 107 false none 0 0 false none 0 0,bR4 3 107 s1 A1 l1 c1 t1 B1 m1 d1,bR4 2 107 s0 A0 l0 c0 t0 B0 m0 d0] ?_
   refine xd 75 [vI2 s15 A15 l15 c15,vI2 s18 A18 l18 c18] 88 ZaJ _ (fun w R Q=>(Zb0 _ _ (n) (((p.den:Int)) * ((q.den:Int))) (p + q) _ Q.1.1.1.2 Q.2 (by obtain ⟨k1,k2⟩:=HA1 (by omega); exact ⟨k1,by rw [k2,Int.natCast_mul]⟩)).mono (fun _ _=>ZaL)) (fun xx=>?_)
   obtain ⟨s19,A19,l19,c19,t19,B19,m19,d19⟩:=xx
   refine xf 1 [(3, .p 3 0),(4, .p 4 0),(5, .p 5 0),(7, .p 7 0),(8, .p 8 0)] [bR4 4 107 s19 A19 l19 c19 t19 B19 m19 d19,bI2 8 105 s15 A15 l15 c15,bI2 7 105 s12 A12 l12 c12,bI2 5 105 s10 A10 l10 c10,bR4 4 107 false none 0 0 false none 0 0,bR4 3 107 s1 A1 l1 c1 t1 B1 m1 d1,bR4 2 107 s0 A0 l0 c0 t0 B0 m0 d0] ?_
   refine xz (xe (Zaa (Zan (Zao ?_))))
   refine Zag (v:=.agg #[.bool s19, .slice A19 l19 c19, .bool t19, .slice B19 m19 d19]) (by kernel_rfl) (fun w' R Q=>?_)
   exact ⟨_,rfl,Q.2,R⟩
  ·refine xc 124 [vI2 s10 A10 l10 c10] 81 (fun _:Unit=>.bool false) _ (fun w R Q=>(Zbq _ ((c:Int)) _ Q.1.1.1.1.1.1.2).mono (fun _ _ h=>Zae h (by rw [decide_eq_false (p:=((c:Int))=1) hz17]))) (fun xx=>?_)
   refine xr 0 [(2, .p 2 0),(3, .p 3 0),(4, .p 4 0),(5, .p 5 0),(7, .p 7 0),(8, .p 8 0),(81, .v (.bool false))] [bI2 8 105 s15 A15 l15 c15,bI2 7 105 s12 A12 l12 c12,bI2 5 105 s10 A10 l10 c10,bR4 4 107 false none 0 0 false none 0 0,bR4 3 107 s1 A1 l1 c1 t1 B1 m1 d1,bR4 2 107 s0 A0 l0 c0 t0 B0 m0 d0] ?_
   refine xe (Zaa (xb (ZaA (Zaa (Zac (Zab (xr 2 [(3, .p 3 0),(4, .p 4 0),(7, .p 7 0),(8, .p 8 0),eI2 89 s15 A15 l15 c15,eI2 90 s10 A10 l10 c10] [bI2 8 105 s15 A15 l15 c15,bI2 7 105 s12 A12 l12 c12,bR4 4 107 false none 0 0 false none 0 0,bR4 3 107 s1 A1 l1 c1 t1 B1 m1 d1] ?_)))))))
   refine xc 90 [vI2 s15 A15 l15 c15,vI2 s10 A10 l10 c10] 91 Zam _ (fun w R Q=>(ZdY _ _ (n) ((c:Int)) _ Q.1.1.1.1.1.1.1.1.1.1.1.1.1.2 Q.1.1.2 Q.1.1.1.1.1.1.1.2 (fit Sn (by decide)) (fit (wlc Sc) (by decide)) (ZcR.words (Nat.le_trans Sn (by decide)) (Nat.le_trans (wlc Sc) (by decide)))).mono (fun _ _=>Zaq)) (fun xx=>?_)
   obtain ⟨s20,A20,l20,c20⟩:=xx
   refine xr 2 [(3, .p 3 0),(4, .p 4 0),(7, .p 7 0),(8, .p 8 0),(9, .p 9 0)] [bI2 9 105 s20 A20 l20 c20,bI2 8 105 s15 A15 l15 c15,bI2 7 105 s12 A12 l12 c12,bR4 4 107 false none 0 0 false none 0 0,bR4 3 107 s1 A1 l1 c1 t1 B1 m1 d1] ?_
   refine xe (Zaa (Zac ?_))
   refine ZaE 11 (by kernel_rfl) (by kernel_rfl) Zaj ?_
   refine xf 2 [(3, .p 3 0),(4, .p 4 0),(7, .p 7 0),(9, .p 9 0),eI2 92 s15 A15 l15 c15,eI2 93 s20 A20 l20 c20] [bI2 9 105 s20 A20 l20 c20,bI2 8 105 s15 A15 l15 c15,bI2 7 105 s12 A12 l12 c12,bR4 4 107 false none 0 0 false none 0 0,bR4 3 107 s1 A1 l1 c1 t1 B1 m1 d1] ?_
   refine xd 169 [vI2 s15 A15 l15 c15,vI2 s20 A20 l20 c20] 94 Zam _ (fun w R Q=>(ZdH _ _ (n) (((Int.gcd (n) ((c:Int)):Nat):Int)) _ Q.1.1.1.2 Q.2 (fit Sn (by decide)) (Nat.lt_of_le_of_lt (wlc (wlg (wlc Sc) hci)) (by decide)) (ZkE hci)).mono (fun _ _=>Zaq)) (fun xx=>?_)
   obtain ⟨s21,A21,l21,c21⟩:=xx
   refine xf 4 [(4, .p 4 0),eI2 94 s21 A21 l21 c21,eI2 95 s12 A12 l12 c12,eI2 97 t1 B1 m1 d1,eI2 98 s20 A20 l20 c20] [bI2 9 105 s20 A20 l20 c20,bI2 8 105 s15 A15 l15 c15,bI2 7 105 s12 A12 l12 c12,bR4 4 107 false none 0 0 false none 0 0,bR4 3 107 s1 A1 l1 c1 t1 B1 m1 d1] ?_
   refine xd 169 [vI2 t1 B1 m1 d1,vI2 s20 A20 l20 c20] 99 Zam _ (fun w R Q=>(ZdH _ _ ((q.den:Int)) (((Int.gcd (n) ((c:Int)):Nat):Int)) _ Q.1.1.1.1.1.1.1.1.1.1.1.1.1.2 Q.1.2 (fit S4 (by decide)) (Nat.lt_of_le_of_lt (wlc (wlg (wlc Sc) hci)) (by decide)) (ZkE hci)).mono (fun _ _ h=>Zaq (by rw [Zen] at h; exact h))) (fun xx=>?_)
   obtain ⟨s22,A22,l22,c22⟩:=xx
   refine xf 0 [(4, .p 4 0),eI2 94 s21 A21 l21 c21,eI2 95 s12 A12 l12 c12,eI2 99 s22 A22 l22 c22] [bI2 9 105 s20 A20 l20 c20,bI2 8 105 s15 A15 l15 c15,bI2 7 105 s12 A12 l12 c12,bR4 4 107 false none 0 0 false none 0 0,bR4 3 107 s1 A1 l1 c1 t1 B1 m1 d1] ?_
   refine xd 89 [vI2 s12 A12 l12 c12,vI2 s22 A22 l22 c22] 100 Zam _ (fun w R Q=>(Zbe _ _ (((p.den / c:Nat):Int)) (((q.den / Int.gcd (n) ((c:Int)):Nat):Int)) _ Q.1.1.1.1.1.1.1.1.2 Q.2 (fit (wlc (wld hp2)) (by decide)) (fit (wlc (wld hq2)) (by decide)) (Or.inl (Nat.lt_of_le_of_lt (wlc (wld hp2)) (by decide)))).mono (fun _ _=>Zaq)) (fun xx=>?_)
   obtain ⟨s23,A23,l23,c23⟩:=xx
   refine xf 0 [(4, .p 4 0),eI2 94 s21 A21 l21 c21,eI2 100 s23 A23 l23 c23] [bI2 9 105 s20 A20 l20 c20,bI2 8 105 s15 A15 l15 c15,bI2 7 105 s12 A12 l12 c12,bR4 4 107 false none 0 0 false none 0 0,bR4 3 107 s1 A1 l1 c1 t1 B1 m1 d1] ?_
   refine xd 75 [vI2 s21 A21 l21 c21,vI2 s23 A23 l23 c23] 101 ZaJ _ (fun w R Q=>(Zb0 _ _ ((n).tdiv (((Int.gcd (n) ((c:Int)):Nat):Int))) ((((p.den / c:Nat):Int)) * (((q.den / Int.gcd (n) ((c:Int)):Nat):Int))) (p + q) _ Q.1.1.2 Q.2 (by obtain ⟨k1,k2⟩:=HA2 (by omega); exact ⟨k1,by rw [k2,Int.natCast_mul]⟩)).mono (fun _ _=>ZaL)) (fun xx=>?_)
   obtain ⟨s24,A24,l24,c24,t24,B24,m24,d24⟩:=xx
   refine xf 1 [(4, .p 4 0)] [bR4 4 107 s24 A24 l24 c24 t24 B24 m24 d24,bI2 9 105 s20 A20 l20 c20,bI2 8 105 s15 A15 l15 c15,bI2 7 105 s12 A12 l12 c12,bR4 4 107 false none 0 0 false none 0 0,bR4 3 107 s1 A1 l1 c1 t1 B1 m1 d1] ?_
   refine xz (xe (Zaa (Zan ?_)))
   refine Zag (v:=.agg #[.bool s24, .slice A24 l24 c24, .bool t24, .slice B24 m24 d24]) (by kernel_rfl) (fun w' R Q=>?_)
   exact ⟨_,rfl,Q.2,R⟩
theorem ZrJ (a b:Value) (p q:Rat) (w:World) (hg:Glob w) (ha:ZaC w a p) (hb:ZaC w b q) (hp:Zbb p 38) (hq:Zbb q 38):Calls Tryz.prog 147 #[a,b] w (Zc1 w (p + q)):=by
 by_cases h1:p.den=1
 ·by_cases h2:q.den=1
  ·exact ZsR a b p q w ha hb hp hq h1 h2
  ·exact ZsS a b p q w ha hb hp hq h1 h2
 ·by_cases h2:q.den=1
  ·exact ZsT a b p q w ha hb hp hq h1 h2
  ·exact ZsU a b p q w hg ha hb hp hq h1 h2
theorem Zje (a:Value) (q:Rat) (w:World) (ha:ZaC w a q) :
 Calls Tryz.prog 145 #[a] w (RetV w (.bool (decide (q.num=0)))):=by
 obtain ⟨s0,A0,l0,c0,t0,B0,m0,d0,rfl⟩:=ha.shp
 refine ZaB (Φ:=fun w=>ZaC w (.agg #[.bool s0, .slice A0 l0 c0, .bool t0, .slice B0 m0 d0]) (q)) Tryz.func145 rfl (by kernel_rfl) (fun w' hf=>ha.ext hf) ?_
 refine Zac (Zab (xr 2 [(1, .p 1 0),(2, .v (.bool false))] [bR4 1 107 s0 A0 l0 c0 t0 B0 m0 d0] ?_))
 refine xe (Zaa (Zac (Zab (xr 2 [(2, .v (.bool false)),eI2 4 s0 A0 l0 c0] [] ?_))))
 refine xc 141 [vI2 s0 A0 l0 c0] 5 (fun _:Unit=>.bool (decide (q.num=0))) _ (fun w R Q=>(ZaG _ (q.num) _ Q.num).mono (fun _ _ h=>Zae h rfl)) (fun xx=>?_)
 refine xr 1 [(2, .v (.bool (decide (q.num=0))))] [] ?_
 refine xe (Zaa (Zan ?_))
 refine Zag (v:=.bool (decide (q.num=0))) (by kernel_rfl) (fun w' R Q=>?_)
 exact ⟨rfl,R⟩
theorem Za2 (a:Value) (q:Rat) (w:World) (ha:ZaC w a q) :
 Calls Tryz.prog 216 #[a] w (RetV w (.int .i64 q.num.sign)):=by
 obtain ⟨s0,A0,l0,c0,t0,B0,m0,d0,rfl⟩:=ha.shp
 refine ZaB (Φ:=fun w=>ZaC w (.agg #[.bool s0, .slice A0 l0 c0, .bool t0, .slice B0 m0 d0]) (q)) Tryz.func216 rfl (by kernel_rfl) (fun w' hf=>ha.ext hf) ?_
 refine Zac (Zab (xr 2 [(1, .p 1 0),(2, .v (.int .i64 0))] [bR4 1 107 s0 A0 l0 c0 t0 B0 m0 d0] ?_))
 refine xe (Zaa (Zac (Zab (xr 2 [(2, .v (.int .i64 0)),eI2 4 s0 A0 l0 c0] [] ?_))))
 refine xc 168 [vI2 s0 A0 l0 c0] 5 (fun _:Unit=>.int .i64 q.num.sign) _ (fun w R Q=>(Zc9 _ (q.num) _ Q.num).mono (fun _ _ h=>Zae h rfl)) (fun xx=>?_)
 refine xr 1 [(2, .v (.int .i64 q.num.sign))] [] ?_
 refine xe (Zaa (Zan ?_))
 refine Zag (v:=.int .i64 q.num.sign) (by kernel_rfl) (fun w' R Q=>?_)
 exact ⟨rfl,R⟩
theorem Zfv (a b:Value) (x y:Int) (w:World) (hg:Glob w) (ha:Zav w a x) (hb:Zav w b y) (hx:wl x.natAbs≤38) (hy:wl y.natAbs≤38) (h0:y≠0) :
 Calls Tryz.prog 214 #[a,b] w (ZoG w (x.tdiv ((Int.gcd x y:Nat):Int)) (y.tdiv ((Int.gcd x y:Nat):Int))):=by
 obtain ⟨s0,A0,l0,c0,rfl⟩:=ha.shp
 obtain ⟨s1,A1,l1,c1,rfl⟩:=hb.shp
 refine ZaB (Φ:=fun w=>((Zav w (.agg #[.bool s0, .slice A0 l0 c0]) (x)∧Zav w (.agg #[.bool s1, .slice A1 l1 c1]) (y))∧Glob w)) Tryz.func214 rfl (by kernel_rfl) (fun w' hf=>⟨⟨ha.ext hf,hb.ext hf⟩,hg.ext hf⟩) ?_
 refine Zac (Zab (xr 4 [(2, .p 2 0),(3, .p 3 0),(4, .p 4 0),(5, .p 5 0)] [bI2 5 105 false none 0 0,bI2 4 105 false none 0 0,bI2 3 105 s1 A1 l1 c1,bI2 2 105 s0 A0 l0 c0] ?_))
 refine xe (Zaa (Zac (Zac (Zab (xr 1 [(2, .p 2 0),(3, .p 3 0),(4, .p 4 0),(5, .p 5 0),eI2 7 s1 A1 l1 c1] [bI2 5 105 false none 0 0,bI2 4 105 false none 0 0,bI2 3 105 s1 A1 l1 c1,bI2 2 105 s0 A0 l0 c0] ?_)))))
 by_cases hz10:(y)=1
 ·refine xc 124 [vI2 s1 A1 l1 c1] 8 (fun _:Unit=>.bool true) _ (fun w R Q=>(Zbq _ (y) _ Q.1.2).mono (fun _ _ h=>Zae h (by rw [decide_eq_true (p:=(y)=1) hz10]))) (fun xx=>?_)
  refine xr 0 [(2, .p 2 0),(3, .p 3 0),(4, .p 4 0),(5, .p 5 0),(8, .v (.bool true))] [bI2 5 105 false none 0 0,bI2 4 105 false none 0 0,bI2 3 105 s1 A1 l1 c1,bI2 2 105 s0 A0 l0 c0] ?_
  refine xe (Zaa (xa (Zac ?_)))
  refine ZaE 4 (by kernel_rfl) (by kernel_rfl) Zaj ?_
  refine xf 4 [(2, .p 2 0),(3, .p 3 0),(4, .p 4 0),(5, .p 5 0)] [bI2 5 105 s1 A1 l1 c1,bI2 4 105 s0 A0 l0 c0,bI2 5 105 false none 0 0,bI2 4 105 false none 0 0,bI2 3 105 s1 A1 l1 c1,bI2 2 105 s0 A0 l0 c0] ?_
  refine xz (xe (Zaa (Zan (Zao ?_))))
  refine Zag (v:=.tuple #[.agg #[.bool s0, .slice A0 l0 c0], .agg #[.bool s1, .slice A1 l1 c1]]) (by kernel_rfl) (fun w' R Q=>?_)
  exact ⟨_,_,rfl,by rw [hz10,Int.gcd_one_right]; simpa using Q.1.1.1,by rw [hz10,Int.gcd_one_right]; simpa [hz10] using Q.1.1.2,R⟩
 ·refine xc 124 [vI2 s1 A1 l1 c1] 8 (fun _:Unit=>.bool false) _ (fun w R Q=>(Zbq _ (y) _ Q.1.2).mono (fun _ _ h=>Zae h (by rw [decide_eq_false (p:=(y)=1) hz10]))) (fun xx=>?_)
  refine xr 0 [(2, .p 2 0),(3, .p 3 0),(4, .p 4 0),(5, .p 5 0),(8, .v (.bool false))] [bI2 5 105 false none 0 0,bI2 4 105 false none 0 0,bI2 3 105 s1 A1 l1 c1,bI2 2 105 s0 A0 l0 c0] ?_
  refine xe (Zaa (xb (ZaA (Zaa (Zac (Zab (xr 2 [(2, .p 2 0),(3, .p 3 0),(4, .p 4 0),(5, .p 5 0),eI2 11 s0 A0 l0 c0,eI2 12 s1 A1 l1 c1] [bI2 5 105 false none 0 0,bI2 4 105 false none 0 0,bI2 3 105 s1 A1 l1 c1,bI2 2 105 s0 A0 l0 c0] ?_)))))))
  refine xc 90 [vI2 s0 A0 l0 c0,vI2 s1 A1 l1 c1] 13 Zam _ (fun w R Q=>(ZdY _ _ (x) (y) _ Q.1.2 Q.1.1.1 Q.1.1.2 (fit hx (by decide)) (fit hy (by decide)) (ZcR.words (Nat.le_trans hx (by decide)) (Nat.le_trans hy (by decide)))).mono (fun _ _=>Zaq)) (fun xx=>?_)
  obtain ⟨s11,A11,l11,c11⟩:=xx
  refine xr 2 [(2, .p 2 0),(3, .p 3 0),(4, .p 4 0),(5, .p 5 0),(6, .p 6 0)] [bI2 6 105 s11 A11 l11 c11,bI2 5 105 false none 0 0,bI2 4 105 false none 0 0,bI2 3 105 s1 A1 l1 c1,bI2 2 105 s0 A0 l0 c0] ?_
  refine xe (Zaa (Zac ?_))
  refine ZaE 8 (by kernel_rfl) (by kernel_rfl) Zaj ?_
  refine xf 2 [(3, .p 3 0),(4, .p 4 0),(5, .p 5 0),(6, .p 6 0),eI2 14 s0 A0 l0 c0,eI2 15 s11 A11 l11 c11] [bI2 6 105 s11 A11 l11 c11,bI2 5 105 false none 0 0,bI2 4 105 false none 0 0,bI2 3 105 s1 A1 l1 c1,bI2 2 105 s0 A0 l0 c0] ?_
  refine xd 169 [vI2 s0 A0 l0 c0,vI2 s11 A11 l11 c11] 16 Zam _ (fun w R Q=>(ZdH _ _ (x) (((Int.gcd (x) (y):Nat):Int)) _ Q.1.1.1.1 Q.2 (fit hx (by decide)) (Nat.lt_of_le_of_lt (wlc (wlg hy h0)) (by decide)) (ZkE h0)).mono (fun _ _=>Zaq)) (fun xx=>?_)
  obtain ⟨s12,A12,l12,c12⟩:=xx
  refine xf 2 [(4, .p 4 0),(5, .p 5 0),eI2 16 s12 A12 l12 c12,eI2 17 s1 A1 l1 c1,eI2 18 s11 A11 l11 c11] [bI2 6 105 s11 A11 l11 c11,bI2 5 105 false none 0 0,bI2 4 105 false none 0 0,bI2 3 105 s1 A1 l1 c1,bI2 2 105 s0 A0 l0 c0] ?_
  refine xd 169 [vI2 s1 A1 l1 c1,vI2 s11 A11 l11 c11] 19 Zam _ (fun w R Q=>(ZdH _ _ (y) (((Int.gcd (x) (y):Nat):Int)) _ Q.1.1.1.1.2 Q.1.2 (fit hy (by decide)) (Nat.lt_of_le_of_lt (wlc (wlg hy h0)) (by decide)) (ZkE h0)).mono (fun _ _=>Zaq)) (fun xx=>?_)
  obtain ⟨s13,A13,l13,c13⟩:=xx
  refine xf 2 [(4, .p 4 0),(5, .p 5 0)] [bI2 5 105 s13 A13 l13 c13,bI2 4 105 s12 A12 l12 c12,bI2 6 105 s11 A11 l11 c11,bI2 5 105 false none 0 0,bI2 4 105 false none 0 0,bI2 3 105 s1 A1 l1 c1,bI2 2 105 s0 A0 l0 c0] ?_
  refine xz (xe (Zaa (Zan ?_)))
  refine Zag (v:=.tuple #[.agg #[.bool s12, .slice A12 l12 c12], .agg #[.bool s13, .slice A13 l13 c13]]) (by kernel_rfl) (fun w' R Q=>?_)
  exact ⟨_,_,rfl,Q.1.2,Q.2,R⟩
theorem Znp (a b:Value) (p q:Rat) (w:World) (hg:Glob w) (ha:ZaC w a p) (hb:ZaC w b q) (hp:Zbb p 38) (hq:Zbb q 38) :
 Calls Tryz.prog 148 #[a,b] w (Zc1 w (p * q)):=by
 obtain ⟨s0,A0,l0,c0,t0,B0,m0,d0,rfl⟩:=ha.shp
 obtain ⟨s1,A1,l1,c1,t1,B1,m1,d1,rfl⟩:=hb.shp
 have S1:wl p.num.natAbs≤38:=hp.1
 have S2:wl q.num.natAbs≤38:=hq.1
 have hp2:wl p.den≤38:=hp.2
 have hq2:wl q.den≤38:=hq.2
 have S3:wl ((p.den:Nat):Int).natAbs≤38:=wlc hp2
 have S4:wl ((q.den:Nat):Int).natAbs≤38:=wlc hq2
 refine ZaB (Φ:=fun w=>((ZaC w (.agg #[.bool s0, .slice A0 l0 c0, .bool t0, .slice B0 m0 d0]) (p)∧ZaC w (.agg #[.bool s1, .slice A1 l1 c1, .bool t1, .slice B1 m1 d1]) (q))∧Glob w)) Tryz.func148 rfl (by kernel_rfl) (fun w' hf=>⟨⟨ha.ext hf,hb.ext hf⟩,hg.ext hf⟩) ?_
 refine Zac (Zab (xr 3 [(2, .p 2 0),(3, .p 3 0),(4, .p 4 0)] [bR4 4 107 false none 0 0 false none 0 0,bR4 3 107 s1 A1 l1 c1 t1 B1 m1 d1,bR4 2 107 s0 A0 l0 c0 t0 B0 m0 d0] ?_))
 refine xe (Zaa (Zac (Zac (Zab (xr 2 [(2, .p 2 0),(3, .p 3 0),(4, .p 4 0),eI2 10 s0 A0 l0 c0] [bR4 4 107 false none 0 0 false none 0 0,bR4 3 107 s1 A1 l1 c1 t1 B1 m1 d1,bR4 2 107 s0 A0 l0 c0 t0 B0 m0 d0] ?_)))))
 by_cases hz10:((p).num)=0
 ·refine xc 141 [vI2 s0 A0 l0 c0] 11 (fun _:Unit=>.bool true) _ (fun w R Q=>(ZaG _ ((p).num) _ Q.1.1.num).mono (fun _ _ h=>Zae h (by rw [decide_eq_true (p:=((p).num)=0) hz10]))) (fun xx=>?_)
  refine xr 5 [(2, .p 2 0),(3, .p 3 0),(4, .p 4 0),(16, .v (.bool true))] [bR4 4 107 false none 0 0 false none 0 0,bR4 3 107 s1 A1 l1 c1 t1 B1 m1 d1,bR4 2 107 s0 A0 l0 c0 t0 B0 m0 d0] ?_
  refine xe (Zaa (xa (Zac (Zab (xr 2 [(2, .p 2 0),(3, .p 3 0),(4, .p 4 0)] [bR4 4 107 false none 0 0 false none 0 0,bR4 3 107 s1 A1 l1 c1 t1 B1 m1 d1,bR4 2 107 s0 A0 l0 c0 t0 B0 m0 d0] ?_)))))
  refine xe (Zaa (Zan (Zao ?_)))
  refine Zag (v:=.agg #[.bool false, .slice none 0 0, .bool false, .slice none 0 0]) (by kernel_rfl) (fun w' R Q=>?_)
  exact ⟨_,rfl,by rw [Zoi hz10]; exact ZaC.nil _,R⟩
 ·refine xc 141 [vI2 s0 A0 l0 c0] 11 (fun _:Unit=>.bool false) _ (fun w R Q=>(ZaG _ ((p).num) _ Q.1.1.num).mono (fun _ _ h=>Zae h (by rw [decide_eq_false (p:=((p).num)=0) hz10]))) (fun xx=>?_)
  refine xr 3 [(2, .p 2 0),(3, .p 3 0),(4, .p 4 0),(12, .v (.bool false)),eI2 14 s1 A1 l1 c1] [bR4 4 107 false none 0 0 false none 0 0,bR4 3 107 s1 A1 l1 c1 t1 B1 m1 d1,bR4 2 107 s0 A0 l0 c0 t0 B0 m0 d0] ?_
  by_cases hz11:((q).num)=0
  ·refine xc 141 [vI2 s1 A1 l1 c1] 15 (fun _:Unit=>.bool true) _ (fun w R Q=>(ZaG _ ((q).num) _ Q.1.1.2.num).mono (fun _ _ h=>Zae h (by rw [decide_eq_true (p:=((q).num)=0) hz11]))) (fun xx=>?_)
   refine xr 1 [(2, .p 2 0),(3, .p 3 0),(4, .p 4 0),(16, .v (.bool true))] [bR4 4 107 false none 0 0 false none 0 0,bR4 3 107 s1 A1 l1 c1 t1 B1 m1 d1,bR4 2 107 s0 A0 l0 c0 t0 B0 m0 d0] ?_
   refine xe (Zaa (xa (Zac (Zab (xr 2 [(2, .p 2 0),(3, .p 3 0),(4, .p 4 0)] [bR4 4 107 false none 0 0 false none 0 0,bR4 3 107 s1 A1 l1 c1 t1 B1 m1 d1,bR4 2 107 s0 A0 l0 c0 t0 B0 m0 d0] ?_)))))
   refine xe (Zaa (Zan (Zao ?_)))
   refine Zag (v:=.agg #[.bool false, .slice none 0 0, .bool false, .slice none 0 0]) (by kernel_rfl) (fun w' R Q=>?_)
   exact ⟨_,rfl,by rw [Zoj hz11]; exact ZaC.nil _,R⟩
  ·refine xc 141 [vI2 s1 A1 l1 c1] 15 (fun _:Unit=>.bool false) _ (fun w R Q=>(ZaG _ ((q).num) _ Q.1.1.2.num).mono (fun _ _ h=>Zae h (by rw [decide_eq_false (p:=((q).num)=0) hz11]))) (fun xx=>?_)
   refine xr 1 [(2, .p 2 0),(3, .p 3 0),(4, .p 4 0),(16, .v (.bool false))] [bR4 4 107 false none 0 0 false none 0 0,bR4 3 107 s1 A1 l1 c1 t1 B1 m1 d1,bR4 2 107 s0 A0 l0 c0 t0 B0 m0 d0] ?_
   refine xe (Zaa (xb (ZaA (Zaa (Zac (Zac (Zab (xr 2 [(2, .p 2 0),(3, .p 3 0),(4, .p 4 0),eI2 19 t0 B0 m0 d0] [bR4 4 107 false none 0 0 false none 0 0,bR4 3 107 s1 A1 l1 c1 t1 B1 m1 d1,bR4 2 107 s0 A0 l0 c0 t0 B0 m0 d0] ?_))))))))
   by_cases hz12:(denF (p))=0
   ·refine xc 141 [vI2 t0 B0 m0 d0] 20 (fun _:Unit=>.bool true) _ (fun w R Q=>(ZaG _ (denF (p)) _ Q.1.1.1.1.den).mono (fun _ _ h=>Zae h (by rw [decide_eq_true (p:=(denF (p))=0) hz12]))) (fun xx=>?_)
    refine xr 3 [(2, .p 2 0),(3, .p 3 0),(4, .p 4 0),(21, .v (.bool true)),eI2 23 t1 B1 m1 d1] [bR4 4 107 false none 0 0 false none 0 0,bR4 3 107 s1 A1 l1 c1 t1 B1 m1 d1,bR4 2 107 s0 A0 l0 c0 t0 B0 m0 d0] ?_
    by_cases hz13:(denF (q))=0
    ·refine xc 141 [vI2 t1 B1 m1 d1] 24 (fun _:Unit=>.bool true) _ (fun w R Q=>(ZaG _ (denF (q)) _ Q.1.1.1.1.2.den).mono (fun _ _ h=>Zae h (by rw [decide_eq_true (p:=(denF (q))=0) hz13]))) (fun xx=>?_)
     refine xr 1 [(2, .p 2 0),(3, .p 3 0),(4, .p 4 0),(25, .v (.bool true))] [bR4 4 107 false none 0 0 false none 0 0,bR4 3 107 s1 A1 l1 c1 t1 B1 m1 d1,bR4 2 107 s0 A0 l0 c0 t0 B0 m0 d0] ?_
     refine xe (Zaa (xa (Zac (Zab (xr 4 [(2, .p 2 0),(3, .p 3 0),(4, .p 4 0),eI2 27 s0 A0 l0 c0,eI2 29 s1 A1 l1 c1] [bR4 4 107 false none 0 0 false none 0 0,bR4 3 107 s1 A1 l1 c1 t1 B1 m1 d1,bR4 2 107 s0 A0 l0 c0 t0 B0 m0 d0] ?_)))))
     refine xc 89 [vI2 s0 A0 l0 c0,vI2 s1 A1 l1 c1] 30 Zam _ (fun w R Q=>(Zbe _ _ ((p).num) ((q).num) _ Q.1.1.1.1.1.1.num Q.1.1.1.1.1.2.num (fit S1 (by decide)) (fit S2 (by decide)) (Or.inl (Nat.lt_of_le_of_lt S1 (by decide)))).mono (fun _ _=>Zaq)) (fun xx=>?_)
     obtain ⟨s14,A14,l14,c14⟩:=xx
     refine xr 2 [(2, .p 2 0),(3, .p 3 0),(4, .p 4 0)] [bR4 4 107 s14 A14 l14 c14 false none 0 0,bR4 3 107 s1 A1 l1 c1 t1 B1 m1 d1,bR4 2 107 s0 A0 l0 c0 t0 B0 m0 d0] ?_
     refine xe (Zaa (Zan (Zao ?_)))
     refine Zag (v:=.agg #[.bool s14, .slice A14 l14 c14, .bool false, .slice none 0 0]) (by kernel_rfl) (fun w' R Q=>?_)
     have HW:=Zmn (Zhl.1 hz12) (Zhl.1 hz13)
     exact ⟨_,rfl,ZaC.of (by rw [HW.1]; exact Q.2) (by rw [ZbU HW.2]; exact (Zav.nil _)),R⟩
    ·refine xc 141 [vI2 t1 B1 m1 d1] 24 (fun _:Unit=>.bool false) _ (fun w R Q=>(ZaG _ (denF (q)) _ Q.1.1.1.1.2.den).mono (fun _ _ h=>Zae h (by rw [decide_eq_false (p:=(denF (q))=0) hz13]))) (fun xx=>?_)
     refine xr 1 [(2, .p 2 0),(3, .p 3 0),(4, .p 4 0),(25, .v (.bool false))] [bR4 4 107 false none 0 0 false none 0 0,bR4 3 107 s1 A1 l1 c1 t1 B1 m1 d1,bR4 2 107 s0 A0 l0 c0 t0 B0 m0 d0] ?_
     refine xe (Zaa (xb (ZaA (Zaa (Zac ?_)))))
     refine ZaE 12 (by kernel_rfl) (by kernel_rfl) Zaj ?_
     refine xf 3 [(2, .p 2 0),(3, .p 3 0),(4, .p 4 0),eI2 34 s0 A0 l0 c0,eR4 35 s1 A1 l1 c1 t1 B1 m1 d1] [bR4 4 107 false none 0 0 false none 0 0,bR4 3 107 s1 A1 l1 c1 t1 B1 m1 d1,bR4 2 107 s0 A0 l0 c0 t0 B0 m0 d0] ?_
     refine xd 74 [vR4 s1 A1 l1 c1 t1 B1 m1 d1] 36 Zam _ (fun w R Q=>(Zbg _ (q) _ Q.1.1.1.1.1.2).mono (fun _ _=>Zaq)) (fun xx=>?_)
     obtain ⟨s15,A15,l15,c15⟩:=xx
     refine xf 0 [(2, .p 2 0),(3, .p 3 0),(4, .p 4 0),eI2 34 s0 A0 l0 c0,eI2 36 s15 A15 l15 c15] [bR4 4 107 false none 0 0 false none 0 0,bR4 3 107 s1 A1 l1 c1 t1 B1 m1 d1,bR4 2 107 s0 A0 l0 c0 t0 B0 m0 d0] ?_
     refine xd 214 [vI2 s0 A0 l0 c0,vI2 s15 A15 l15 c15] 37 Zdp _ (fun w R Q=>(Zfv _ _ ((p).num) (((q).den:Int)) _ Q.1.1.1.1.1.2 Q.1.1.1.1.1.1.1.num Q.2 S1 S4 (denI q)).mono (fun _ _=>Zfj)) (fun xx=>?_)
     obtain ⟨⟨s16,A16,l16,c16⟩,⟨s17,A17,l17,c17⟩⟩:=xx
     refine xf 7 [(2, .p 2 0),(3, .p 3 0),(4, .p 4 0),(5, .p 5 0),(6, .p 6 0)] [bI2 6 105 s17 A17 l17 c17,bI2 5 105 s16 A16 l16 c16,bI2 6 105 false none 0 0,bI2 5 105 false none 0 0,bR4 4 107 false none 0 0 false none 0 0,bR4 3 107 s1 A1 l1 c1 t1 B1 m1 d1,bR4 2 107 s0 A0 l0 c0 t0 B0 m0 d0] ?_
     refine xz (xe (Zaa (Zac ?_)))
     refine ZaE 12 (by kernel_rfl) (by kernel_rfl) Zaj ?_
     refine xf 3 [(4, .p 4 0),(5, .p 5 0),(6, .p 6 0),eI2 42 s1 A1 l1 c1,eR4 43 s0 A0 l0 c0 t0 B0 m0 d0] [bI2 6 105 s17 A17 l17 c17,bI2 5 105 s16 A16 l16 c16,bI2 6 105 false none 0 0,bI2 5 105 false none 0 0,bR4 4 107 false none 0 0 false none 0 0,bR4 3 107 s1 A1 l1 c1 t1 B1 m1 d1,bR4 2 107 s0 A0 l0 c0 t0 B0 m0 d0] ?_
     refine xd 74 [vR4 s0 A0 l0 c0 t0 B0 m0 d0] 44 Zam _ (fun w R Q=>(Zbg _ (p) _ Q.1.1.1.1.1.1.1.1).mono (fun _ _=>Zaq)) (fun xx=>?_)
     obtain ⟨s18,A18,l18,c18⟩:=xx
     refine xf 0 [(4, .p 4 0),(5, .p 5 0),(6, .p 6 0),eI2 42 s1 A1 l1 c1,eI2 44 s18 A18 l18 c18] [bI2 6 105 s17 A17 l17 c17,bI2 5 105 s16 A16 l16 c16,bI2 6 105 false none 0 0,bI2 5 105 false none 0 0,bR4 4 107 false none 0 0 false none 0 0,bR4 3 107 s1 A1 l1 c1 t1 B1 m1 d1,bR4 2 107 s0 A0 l0 c0 t0 B0 m0 d0] ?_
     refine xd 214 [vI2 s1 A1 l1 c1,vI2 s18 A18 l18 c18] 45 Zdp _ (fun w R Q=>(Zfv _ _ ((q).num) (((p).den:Int)) _ Q.1.1.1.1.1.1.1.2 Q.1.1.1.1.1.1.1.1.2.num Q.2 S2 S3 (denI p)).mono (fun _ _=>Zfj)) (fun xx=>?_)
     obtain ⟨⟨s19,A19,l19,c19⟩,⟨s20,A20,l20,c20⟩⟩:=xx
     refine xf 7 [(4, .p 4 0),(5, .p 5 0),(6, .p 6 0),(7, .p 7 0),(8, .p 8 0)] [bI2 8 105 s20 A20 l20 c20,bI2 7 105 s19 A19 l19 c19,bI2 8 105 false none 0 0,bI2 7 105 false none 0 0,bI2 6 105 s17 A17 l17 c17,bI2 5 105 s16 A16 l16 c16,bI2 6 105 false none 0 0,bI2 5 105 false none 0 0,bR4 4 107 false none 0 0 false none 0 0,bR4 3 107 s1 A1 l1 c1 t1 B1 m1 d1,bR4 2 107 s0 A0 l0 c0 t0 B0 m0 d0] ?_
     refine xz (xe (Zaa (Zac ?_)))
     refine ZaE 8 (by kernel_rfl) (by kernel_rfl) Zaj ?_
     refine xf 2 [(4, .p 4 0),(6, .p 6 0),(8, .p 8 0),eI2 48 s16 A16 l16 c16,eI2 49 s19 A19 l19 c19] [bI2 8 105 s20 A20 l20 c20,bI2 7 105 s19 A19 l19 c19,bI2 8 105 false none 0 0,bI2 7 105 false none 0 0,bI2 6 105 s17 A17 l17 c17,bI2 5 105 s16 A16 l16 c16,bI2 6 105 false none 0 0,bI2 5 105 false none 0 0,bR4 4 107 false none 0 0 false none 0 0,bR4 3 107 s1 A1 l1 c1 t1 B1 m1 d1,bR4 2 107 s0 A0 l0 c0 t0 B0 m0 d0] ?_
     refine xd 89 [vI2 s16 A16 l16 c16,vI2 s19 A19 l19 c19] 50 Zam _ (fun w R Q=>(Zbe _ _ (((p).num).tdiv (((Int.gcd ((p).num) (((q).den:Int)):Nat):Int))) (((q).num).tdiv (((Int.gcd ((q).num) (((p).den:Int)):Nat):Int))) _ Q.1.1.2.1 Q.2.1 (fit (wlq S1) (by decide)) (fit (wlq S2) (by decide)) (Or.inl (Nat.lt_of_le_of_lt (wlq S1) (by decide)))).mono (fun _ _=>Zaq)) (fun xx=>?_)
     obtain ⟨s21,A21,l21,c21⟩:=xx
     refine xf 2 [(4, .p 4 0),eI2 50 s21 A21 l21 c21,eI2 51 s20 A20 l20 c20,eI2 52 s17 A17 l17 c17] [bI2 8 105 s20 A20 l20 c20,bI2 7 105 s19 A19 l19 c19,bI2 8 105 false none 0 0,bI2 7 105 false none 0 0,bI2 6 105 s17 A17 l17 c17,bI2 5 105 s16 A16 l16 c16,bI2 6 105 false none 0 0,bI2 5 105 false none 0 0,bR4 4 107 false none 0 0 false none 0 0,bR4 3 107 s1 A1 l1 c1 t1 B1 m1 d1,bR4 2 107 s0 A0 l0 c0 t0 B0 m0 d0] ?_
     refine xd 89 [vI2 s20 A20 l20 c20,vI2 s17 A17 l17 c17] 53 Zam _ (fun w R Q=>(Zbe _ _ ((((p).den:Int)).tdiv (((Int.gcd ((q).num) (((p).den:Int)):Nat):Int))) ((((q).den:Int)).tdiv (((Int.gcd ((p).num) (((q).den:Int)):Nat):Int))) _ Q.1.2.2 Q.1.1.1.2.2 (fit (wlq S3) (by decide)) (fit (wlq S4) (by decide)) (Or.inl (Nat.lt_of_le_of_lt (wlq S3) (by decide)))).mono (fun _ _=>Zaq)) (fun xx=>?_)
     obtain ⟨s22,A22,l22,c22⟩:=xx
     refine xf 0 [(4, .p 4 0),eI2 50 s21 A21 l21 c21,eI2 53 s22 A22 l22 c22] [bI2 8 105 s20 A20 l20 c20,bI2 7 105 s19 A19 l19 c19,bI2 8 105 false none 0 0,bI2 7 105 false none 0 0,bI2 6 105 s17 A17 l17 c17,bI2 5 105 s16 A16 l16 c16,bI2 6 105 false none 0 0,bI2 5 105 false none 0 0,bR4 4 107 false none 0 0 false none 0 0,bR4 3 107 s1 A1 l1 c1 t1 B1 m1 d1,bR4 2 107 s0 A0 l0 c0 t0 B0 m0 d0] ?_
     refine xd 75 [vI2 s21 A21 l21 c21,vI2 s22 A22 l22 c22] 54 ZaJ _ (fun w R Q=>(Zb0 _ _ ((((p).num).tdiv (((Int.gcd ((p).num) (((q).den:Int)):Nat):Int))) * (((q).num).tdiv (((Int.gcd ((q).num) (((p).den:Int)):Nat):Int)))) (((((p).den:Int)).tdiv (((Int.gcd ((q).num) (((p).den:Int)):Nat):Int))) * ((((q).den:Int)).tdiv (((Int.gcd ((p).num) (((q).den:Int)):Nat):Int)))) (p * q) _ Q.1.2 Q.2 (by obtain ⟨k1,k2⟩:=Zhk p q; exact ⟨k1,by rw [k2,Int.natCast_mul,← Zen,← Zen]⟩)).mono (fun _ _=>ZaL)) (fun xx=>?_)
     obtain ⟨s23,A23,l23,c23,t23,B23,m23,d23⟩:=xx
     refine xf 1 [(4, .p 4 0)] [bR4 4 107 s23 A23 l23 c23 t23 B23 m23 d23,bI2 8 105 s20 A20 l20 c20,bI2 7 105 s19 A19 l19 c19,bI2 8 105 false none 0 0,bI2 7 105 false none 0 0,bI2 6 105 s17 A17 l17 c17,bI2 5 105 s16 A16 l16 c16,bI2 6 105 false none 0 0,bI2 5 105 false none 0 0,bR4 4 107 false none 0 0 false none 0 0,bR4 3 107 s1 A1 l1 c1 t1 B1 m1 d1,bR4 2 107 s0 A0 l0 c0 t0 B0 m0 d0] ?_
     refine xz (xe (Zaa (Zan ?_)))
     refine Zag (v:=.agg #[.bool s23, .slice A23 l23 c23, .bool t23, .slice B23 m23 d23]) (by kernel_rfl) (fun w' R Q=>?_)
     exact ⟨_,rfl,Q.2,R⟩
   ·refine xc 141 [vI2 t0 B0 m0 d0] 20 (fun _:Unit=>.bool false) _ (fun w R Q=>(ZaG _ (denF (p)) _ Q.1.1.1.1.den).mono (fun _ _ h=>Zae h (by rw [decide_eq_false (p:=(denF (p))=0) hz12]))) (fun xx=>?_)
    refine xr 5 [(2, .p 2 0),(3, .p 3 0),(4, .p 4 0),(25, .v (.bool false))] [bR4 4 107 false none 0 0 false none 0 0,bR4 3 107 s1 A1 l1 c1 t1 B1 m1 d1,bR4 2 107 s0 A0 l0 c0 t0 B0 m0 d0] ?_
    refine xe (Zaa (xb (ZaA (Zaa (Zac ?_)))))
    refine ZaE 12 (by kernel_rfl) (by kernel_rfl) Zaj ?_
    refine xf 3 [(2, .p 2 0),(3, .p 3 0),(4, .p 4 0),eI2 34 s0 A0 l0 c0,eR4 35 s1 A1 l1 c1 t1 B1 m1 d1] [bR4 4 107 false none 0 0 false none 0 0,bR4 3 107 s1 A1 l1 c1 t1 B1 m1 d1,bR4 2 107 s0 A0 l0 c0 t0 B0 m0 d0] ?_
    refine xd 74 [vR4 s1 A1 l1 c1 t1 B1 m1 d1] 36 Zam _ (fun w R Q=>(Zbg _ (q) _ Q.1.1.1.1.2).mono (fun _ _=>Zaq)) (fun xx=>?_)
    obtain ⟨s24,A24,l24,c24⟩:=xx
    refine xf 0 [(2, .p 2 0),(3, .p 3 0),(4, .p 4 0),eI2 34 s0 A0 l0 c0,eI2 36 s24 A24 l24 c24] [bR4 4 107 false none 0 0 false none 0 0,bR4 3 107 s1 A1 l1 c1 t1 B1 m1 d1,bR4 2 107 s0 A0 l0 c0 t0 B0 m0 d0] ?_
    refine xd 214 [vI2 s0 A0 l0 c0,vI2 s24 A24 l24 c24] 37 Zdp _ (fun w R Q=>(Zfv _ _ ((p).num) (((q).den:Int)) _ Q.1.1.1.1.2 Q.1.1.1.1.1.1.num Q.2 S1 S4 (denI q)).mono (fun _ _=>Zfj)) (fun xx=>?_)
    obtain ⟨⟨s25,A25,l25,c25⟩,⟨s26,A26,l26,c26⟩⟩:=xx
    refine xf 7 [(2, .p 2 0),(3, .p 3 0),(4, .p 4 0),(5, .p 5 0),(6, .p 6 0)] [bI2 6 105 s26 A26 l26 c26,bI2 5 105 s25 A25 l25 c25,bI2 6 105 false none 0 0,bI2 5 105 false none 0 0,bR4 4 107 false none 0 0 false none 0 0,bR4 3 107 s1 A1 l1 c1 t1 B1 m1 d1,bR4 2 107 s0 A0 l0 c0 t0 B0 m0 d0] ?_
    refine xz (xe (Zaa (Zac ?_)))
    refine ZaE 12 (by kernel_rfl) (by kernel_rfl) Zaj ?_
    refine xf 3 [(4, .p 4 0),(5, .p 5 0),(6, .p 6 0),eI2 42 s1 A1 l1 c1,eR4 43 s0 A0 l0 c0 t0 B0 m0 d0] [bI2 6 105 s26 A26 l26 c26,bI2 5 105 s25 A25 l25 c25,bI2 6 105 false none 0 0,bI2 5 105 false none 0 0,bR4 4 107 false none 0 0 false none 0 0,bR4 3 107 s1 A1 l1 c1 t1 B1 m1 d1,bR4 2 107 s0 A0 l0 c0 t0 B0 m0 d0] ?_
    refine xd 74 [vR4 s0 A0 l0 c0 t0 B0 m0 d0] 44 Zam _ (fun w R Q=>(Zbg _ (p) _ Q.1.1.1.1.1.1.1).mono (fun _ _=>Zaq)) (fun xx=>?_)
    obtain ⟨s27,A27,l27,c27⟩:=xx
    refine xf 0 [(4, .p 4 0),(5, .p 5 0),(6, .p 6 0),eI2 42 s1 A1 l1 c1,eI2 44 s27 A27 l27 c27] [bI2 6 105 s26 A26 l26 c26,bI2 5 105 s25 A25 l25 c25,bI2 6 105 false none 0 0,bI2 5 105 false none 0 0,bR4 4 107 false none 0 0 false none 0 0,bR4 3 107 s1 A1 l1 c1 t1 B1 m1 d1,bR4 2 107 s0 A0 l0 c0 t0 B0 m0 d0] ?_
    refine xd 214 [vI2 s1 A1 l1 c1,vI2 s27 A27 l27 c27] 45 Zdp _ (fun w R Q=>(Zfv _ _ ((q).num) (((p).den:Int)) _ Q.1.1.1.1.1.1.2 Q.1.1.1.1.1.1.1.2.num Q.2 S2 S3 (denI p)).mono (fun _ _=>Zfj)) (fun xx=>?_)
    obtain ⟨⟨s28,A28,l28,c28⟩,⟨s29,A29,l29,c29⟩⟩:=xx
    refine xf 7 [(4, .p 4 0),(5, .p 5 0),(6, .p 6 0),(7, .p 7 0),(8, .p 8 0)] [bI2 8 105 s29 A29 l29 c29,bI2 7 105 s28 A28 l28 c28,bI2 8 105 false none 0 0,bI2 7 105 false none 0 0,bI2 6 105 s26 A26 l26 c26,bI2 5 105 s25 A25 l25 c25,bI2 6 105 false none 0 0,bI2 5 105 false none 0 0,bR4 4 107 false none 0 0 false none 0 0,bR4 3 107 s1 A1 l1 c1 t1 B1 m1 d1,bR4 2 107 s0 A0 l0 c0 t0 B0 m0 d0] ?_
    refine xz (xe (Zaa (Zac ?_)))
    refine ZaE 8 (by kernel_rfl) (by kernel_rfl) Zaj ?_
    refine xf 2 [(4, .p 4 0),(6, .p 6 0),(8, .p 8 0),eI2 48 s25 A25 l25 c25,eI2 49 s28 A28 l28 c28] [bI2 8 105 s29 A29 l29 c29,bI2 7 105 s28 A28 l28 c28,bI2 8 105 false none 0 0,bI2 7 105 false none 0 0,bI2 6 105 s26 A26 l26 c26,bI2 5 105 s25 A25 l25 c25,bI2 6 105 false none 0 0,bI2 5 105 false none 0 0,bR4 4 107 false none 0 0 false none 0 0,bR4 3 107 s1 A1 l1 c1 t1 B1 m1 d1,bR4 2 107 s0 A0 l0 c0 t0 B0 m0 d0] ?_
    refine xd 89 [vI2 s25 A25 l25 c25,vI2 s28 A28 l28 c28] 50 Zam _ (fun w R Q=>(Zbe _ _ (((p).num).tdiv (((Int.gcd ((p).num) (((q).den:Int)):Nat):Int))) (((q).num).tdiv (((Int.gcd ((q).num) (((p).den:Int)):Nat):Int))) _ Q.1.1.2.1 Q.2.1 (fit (wlq S1) (by decide)) (fit (wlq S2) (by decide)) (Or.inl (Nat.lt_of_le_of_lt (wlq S1) (by decide)))).mono (fun _ _=>Zaq)) (fun xx=>?_)
    obtain ⟨s30,A30,l30,c30⟩:=xx
    refine xf 2 [(4, .p 4 0),eI2 50 s30 A30 l30 c30,eI2 51 s29 A29 l29 c29,eI2 52 s26 A26 l26 c26] [bI2 8 105 s29 A29 l29 c29,bI2 7 105 s28 A28 l28 c28,bI2 8 105 false none 0 0,bI2 7 105 false none 0 0,bI2 6 105 s26 A26 l26 c26,bI2 5 105 s25 A25 l25 c25,bI2 6 105 false none 0 0,bI2 5 105 false none 0 0,bR4 4 107 false none 0 0 false none 0 0,bR4 3 107 s1 A1 l1 c1 t1 B1 m1 d1,bR4 2 107 s0 A0 l0 c0 t0 B0 m0 d0] ?_
    refine xd 89 [vI2 s29 A29 l29 c29,vI2 s26 A26 l26 c26] 53 Zam _ (fun w R Q=>(Zbe _ _ ((((p).den:Int)).tdiv (((Int.gcd ((q).num) (((p).den:Int)):Nat):Int))) ((((q).den:Int)).tdiv (((Int.gcd ((p).num) (((q).den:Int)):Nat):Int))) _ Q.1.2.2 Q.1.1.1.2.2 (fit (wlq S3) (by decide)) (fit (wlq S4) (by decide)) (Or.inl (Nat.lt_of_le_of_lt (wlq S3) (by decide)))).mono (fun _ _=>Zaq)) (fun xx=>?_)
    obtain ⟨s31,A31,l31,c31⟩:=xx
    refine xf 0 [(4, .p 4 0),eI2 50 s30 A30 l30 c30,eI2 53 s31 A31 l31 c31] [bI2 8 105 s29 A29 l29 c29,bI2 7 105 s28 A28 l28 c28,bI2 8 105 false none 0 0,bI2 7 105 false none 0 0,bI2 6 105 s26 A26 l26 c26,bI2 5 105 s25 A25 l25 c25,bI2 6 105 false none 0 0,bI2 5 105 false none 0 0,bR4 4 107 false none 0 0 false none 0 0,bR4 3 107 s1 A1 l1 c1 t1 B1 m1 d1,bR4 2 107 s0 A0 l0 c0 t0 B0 m0 d0] ?_
    refine xd 75 [vI2 s30 A30 l30 c30,vI2 s31 A31 l31 c31] 54 ZaJ _ (fun w R Q=>(Zb0 _ _ ((((p).num).tdiv (((Int.gcd ((p).num) (((q).den:Int)):Nat):Int))) * (((q).num).tdiv (((Int.gcd ((q).num) (((p).den:Int)):Nat):Int)))) (((((p).den:Int)).tdiv (((Int.gcd ((q).num) (((p).den:Int)):Nat):Int))) * ((((q).den:Int)).tdiv (((Int.gcd ((p).num) (((q).den:Int)):Nat):Int)))) (p * q) _ Q.1.2 Q.2 (by obtain ⟨k1,k2⟩:=Zhk p q; exact ⟨k1,by rw [k2,Int.natCast_mul,← Zen,← Zen]⟩)).mono (fun _ _=>ZaL)) (fun xx=>?_)
    obtain ⟨s32,A32,l32,c32,t32,B32,m32,d32⟩:=xx
    refine xf 1 [(4, .p 4 0)] [bR4 4 107 s32 A32 l32 c32 t32 B32 m32 d32,bI2 8 105 s29 A29 l29 c29,bI2 7 105 s28 A28 l28 c28,bI2 8 105 false none 0 0,bI2 7 105 false none 0 0,bI2 6 105 s26 A26 l26 c26,bI2 5 105 s25 A25 l25 c25,bI2 6 105 false none 0 0,bI2 5 105 false none 0 0,bR4 4 107 false none 0 0 false none 0 0,bR4 3 107 s1 A1 l1 c1 t1 B1 m1 d1,bR4 2 107 s0 A0 l0 c0 t0 B0 m0 d0] ?_
    refine xz (xe (Zaa (Zan ?_)))
    refine Zag (v:=.agg #[.bool s32, .slice A32 l32 c32, .bool t32, .slice B32 m32 d32]) (by kernel_rfl) (fun w' R Q=>?_)
    exact ⟨_,rfl,Q.2,R⟩
theorem Znq (a:Value) (q:Rat) (w:World) (ha:ZaC w a q) :
 Calls Tryz.prog 213 #[a] w (Zc1 w (q⁻¹)):=by
 obtain ⟨s0,A0,l0,c0,t0,B0,m0,d0,rfl⟩:=ha.shp
 refine ZaB (Φ:=fun w=>ZaC w (.agg #[.bool s0, .slice A0 l0 c0, .bool t0, .slice B0 m0 d0]) (q)) Tryz.func213 rfl (by kernel_rfl) (fun w' hf=>ha.ext hf) ?_
 refine Zac (Zab (xr 2 [(1, .p 1 0),(2, .p 2 0)] [bR4 2 107 false none 0 0 false none 0 0,bR4 1 107 s0 A0 l0 c0 t0 B0 m0 d0] ?_))
 refine xe (Zaa (Zac (Zac (Zab (xr 2 [(1, .p 1 0),(2, .p 2 0),eI2 4 s0 A0 l0 c0] [bR4 2 107 false none 0 0 false none 0 0,bR4 1 107 s0 A0 l0 c0 t0 B0 m0 d0] ?_)))))
 rcases Zfc ((q).num) with ⟨hz10,hs10⟩ | ⟨hz10,hs10⟩ | ⟨hz10,hs10⟩
 ·refine xc 168 [vI2 s0 A0 l0 c0] 5 (fun _:Unit=>.int .i64 (-1)) _ (fun w R Q=>(Zc9 _ _ _ Q.num).mono (fun _ _ h=>Zae h (by rw [hs10]))) (fun xx=>?_)
  refine xr 0 [(1, .p 1 0),(2, .p 2 0),(5, .v (.int .i64 (-1)))] [bR4 2 107 false none 0 0 false none 0 0,bR4 1 107 s0 A0 l0 c0 t0 B0 m0 d0] ?_
  refine xe (Zaa (ZbD (Zac (Zab (xr 2 [(1, .p 1 0),(2, .p 2 0),(5, .v (.int .i64 (-1))),(6, .v (.bool false))] [bR4 2 107 false none 0 0 false none 0 0,bR4 1 107 s0 A0 l0 c0 t0 B0 m0 d0] ?_)))))
  refine xe (Zaa (xb (Zac (Zab (xr 2 [(1, .p 1 0),(2, .p 2 0),(9, .v (.bool true))] [bR4 2 107 false none 0 0 false none 0 0,bR4 1 107 s0 A0 l0 c0 t0 B0 m0 d0] ?_)))))
  refine xe (Zaa (xa (Zac ?_)))
  refine ZaE 8 (by kernel_rfl) (by kernel_rfl) Zaj ?_
  refine xf 1 [(1, .p 1 0),(2, .p 2 0),eR4 11 s0 A0 l0 c0 t0 B0 m0 d0] [bR4 2 107 false none 0 0 false none 0 0,bR4 1 107 s0 A0 l0 c0 t0 B0 m0 d0] ?_
  refine xd 74 [vR4 s0 A0 l0 c0 t0 B0 m0 d0] 12 Zam _ (fun w R Q=>(Zbg _ (q) _ Q.1).mono (fun _ _=>Zaq)) (fun xx=>?_)
  obtain ⟨s11,A11,l11,c11⟩:=xx
  refine xf 0 [(1, .p 1 0),(2, .p 2 0),eI2 12 s11 A11 l11 c11] [bR4 2 107 false none 0 0 false none 0 0,bR4 1 107 s0 A0 l0 c0 t0 B0 m0 d0] ?_
  refine xd 142 [vI2 s11 A11 l11 c11] 13 Zam _ (fun w R Q=>(ZdF _ (((q).den:Int)) _ Q.2).mono (fun _ _=>Zaq)) (fun xx=>?_)
  obtain ⟨s12,A12,l12,c12⟩:=xx
  refine xf 2 [(1, .p 1 0),(2, .p 2 0),eI2 13 s12 A12 l12 c12,eI2 15 s0 A0 l0 c0] [bR4 2 107 false none 0 0 false none 0 0,bR4 1 107 s0 A0 l0 c0 t0 B0 m0 d0] ?_
  refine xd 142 [vI2 s0 A0 l0 c0] 16 Zam _ (fun w R Q=>(ZdF _ ((q).num) _ Q.1.1.1.num).mono (fun _ _=>Zaq)) (fun xx=>?_)
  obtain ⟨s13,A13,l13,c13⟩:=xx
  refine xf 0 [(1, .p 1 0),(2, .p 2 0),eI2 13 s12 A12 l12 c12,eI2 16 s13 A13 l13 c13] [bR4 2 107 false none 0 0 false none 0 0,bR4 1 107 s0 A0 l0 c0 t0 B0 m0 d0] ?_
  refine xd 75 [vI2 s12 A12 l12 c12,vI2 s13 A13 l13 c13] 17 ZaJ _ (fun w R Q=>(Zb0 _ _ (-(((q).den:Int))) (-((q).num)) (q⁻¹) _ Q.1.2 Q.2 (Znn hz10)).mono (fun _ _=>ZaL)) (fun xx=>?_)
  obtain ⟨s14,A14,l14,c14,t14,B14,m14,d14⟩:=xx
  refine xf 1 [(1, .p 1 0),(2, .p 2 0)] [bR4 2 107 s14 A14 l14 c14 t14 B14 m14 d14,bR4 2 107 false none 0 0 false none 0 0,bR4 1 107 s0 A0 l0 c0 t0 B0 m0 d0] ?_
  refine xz (xe (Zaa (Zan (Zcj (Zao ?_)))))
  refine Zag (v:=.agg #[.bool s14, .slice A14 l14 c14, .bool t14, .slice B14 m14 d14]) (by kernel_rfl) (fun w' R Q=>?_)
  exact ⟨_,rfl,Q.2,R⟩
 ·refine xc 168 [vI2 s0 A0 l0 c0] 5 (fun _:Unit=>.int .i64 0) _ (fun w R Q=>(Zc9 _ _ _ Q.num).mono (fun _ _ h=>Zae h (by rw [hs10]))) (fun xx=>?_)
  refine xr 0 [(1, .p 1 0),(2, .p 2 0),(5, .v (.int .i64 0))] [bR4 2 107 false none 0 0 false none 0 0,bR4 1 107 s0 A0 l0 c0 t0 B0 m0 d0] ?_
  refine xe (Zaa (ZbD (Zac (Zab (xr 2 [(1, .p 1 0),(2, .p 2 0),(5, .v (.int .i64 0)),(6, .v (.bool true))] [bR4 2 107 false none 0 0 false none 0 0,bR4 1 107 s0 A0 l0 c0 t0 B0 m0 d0] ?_)))))
  refine xe (Zaa (xa (Zac (Zab (xr 2 [(1, .p 1 0),(2, .p 2 0)] [bR4 2 107 false none 0 0 false none 0 0,bR4 1 107 s0 A0 l0 c0 t0 B0 m0 d0] ?_)))))
  refine xe (Zaa (Zan (Zcj (Zao ?_))))
  refine Zag (v:=.agg #[.bool false, .slice none 0 0, .bool false, .slice none 0 0]) (by kernel_rfl) (fun w' R Q=>?_)
  exact ⟨_,rfl,by rw [ZlW hz10]; exact ZaC.nil _,R⟩
 ·refine xc 168 [vI2 s0 A0 l0 c0] 5 (fun _:Unit=>.int .i64 1) _ (fun w R Q=>(Zc9 _ _ _ Q.num).mono (fun _ _ h=>Zae h (by rw [hs10]))) (fun xx=>?_)
  refine xr 0 [(1, .p 1 0),(2, .p 2 0),(5, .v (.int .i64 1))] [bR4 2 107 false none 0 0 false none 0 0,bR4 1 107 s0 A0 l0 c0 t0 B0 m0 d0] ?_
  refine xe (Zaa (ZbD (Zac (Zab (xr 2 [(1, .p 1 0),(2, .p 2 0),(5, .v (.int .i64 1)),(6, .v (.bool false))] [bR4 2 107 false none 0 0 false none 0 0,bR4 1 107 s0 A0 l0 c0 t0 B0 m0 d0] ?_)))))
  refine xe (Zaa (xb (Zac (Zab (xr 2 [(1, .p 1 0),(2, .p 2 0),(9, .v (.bool false))] [bR4 2 107 false none 0 0 false none 0 0,bR4 1 107 s0 A0 l0 c0 t0 B0 m0 d0] ?_)))))
  refine xe (Zaa (xb (ZaA (ZeM (Zaa (Zac ?_))))))
  refine ZaE 6 (by kernel_rfl) (by kernel_rfl) Zaj ?_
  refine xf 1 [(1, .p 1 0),(2, .p 2 0),eR4 18 s0 A0 l0 c0 t0 B0 m0 d0] [bR4 2 107 false none 0 0 false none 0 0,bR4 1 107 s0 A0 l0 c0 t0 B0 m0 d0] ?_
  refine xd 74 [vR4 s0 A0 l0 c0 t0 B0 m0 d0] 19 Zam _ (fun w R Q=>(Zbg _ (q) _ Q.1).mono (fun _ _=>Zaq)) (fun xx=>?_)
  obtain ⟨s15,A15,l15,c15⟩:=xx
  refine xf 2 [(2, .p 2 0),eI2 19 s15 A15 l15 c15,eI2 21 s0 A0 l0 c0] [bR4 2 107 false none 0 0 false none 0 0,bR4 1 107 s0 A0 l0 c0 t0 B0 m0 d0] ?_
  refine xd 75 [vI2 s15 A15 l15 c15,vI2 s0 A0 l0 c0] 22 ZaJ _ (fun w R Q=>(Zb0 _ _ (((q).den:Int)) ((q).num) (q⁻¹) _ Q.2 Q.1.1.num (Znm hz10)).mono (fun _ _=>ZaL)) (fun xx=>?_)
  obtain ⟨s16,A16,l16,c16,t16,B16,m16,d16⟩:=xx
  refine xf 1 [(2, .p 2 0)] [bR4 2 107 s16 A16 l16 c16 t16 B16 m16 d16,bR4 2 107 false none 0 0 false none 0 0,bR4 1 107 s0 A0 l0 c0 t0 B0 m0 d0] ?_
  refine xz (xe (Zaa (Zan ?_)))
  refine Zag (v:=.agg #[.bool s16, .slice A16 l16 c16, .bool t16, .slice B16 m16 d16]) (by kernel_rfl) (fun w' R Q=>?_)
  exact ⟨_,rfl,Q.2,R⟩
theorem Znr (a b:Value) (p q:Rat) (w:World) (hg:Glob w) (ha:ZaC w a p) (hb:ZaC w b q) (hp:Zbb p 38) (hq:Zbb q 38) :
 Calls Tryz.prog 146 #[a,b] w (Zc1 w (p / q)):=by
 obtain ⟨s0,A0,l0,c0,t0,B0,m0,d0,rfl⟩:=ha.shp
 obtain ⟨s1,A1,l1,c1,t1,B1,m1,d1,rfl⟩:=hb.shp
 refine ZaB (Φ:=fun w=>((ZaC w (.agg #[.bool s0, .slice A0 l0 c0, .bool t0, .slice B0 m0 d0]) (p)∧ZaC w (.agg #[.bool s1, .slice A1 l1 c1, .bool t1, .slice B1 m1 d1]) (q))∧Glob w)) Tryz.func146 rfl (by kernel_rfl) (fun w' hf=>⟨⟨ha.ext hf,hb.ext hf⟩,hg.ext hf⟩) ?_
 refine Zac (Zab (xr 3 [(2, .p 2 0),(3, .p 3 0),(4, .p 4 0)] [bR4 4 107 false none 0 0 false none 0 0,bR4 3 107 s1 A1 l1 c1 t1 B1 m1 d1,bR4 2 107 s0 A0 l0 c0 t0 B0 m0 d0] ?_))
 refine xe (Zaa (Zac ?_))
 refine ZaE 5 (by kernel_rfl) (by kernel_rfl) Zaj ?_
 refine xf 2 [(4, .p 4 0),eR4 5 s0 A0 l0 c0 t0 B0 m0 d0,eR4 6 s1 A1 l1 c1 t1 B1 m1 d1] [bR4 4 107 false none 0 0 false none 0 0,bR4 3 107 s1 A1 l1 c1 t1 B1 m1 d1,bR4 2 107 s0 A0 l0 c0 t0 B0 m0 d0] ?_
 refine xd 213 [vR4 s1 A1 l1 c1 t1 B1 m1 d1] 7 ZaJ _ (fun w R Q=>(Znq _ (q) _ Q.1.2).mono (fun _ _=>ZaL)) (fun xx=>?_)
 obtain ⟨s10,A10,l10,c10,t10,B10,m10,d10⟩:=xx
 refine xf 0 [(4, .p 4 0),eR4 5 s0 A0 l0 c0 t0 B0 m0 d0,eR4 7 s10 A10 l10 c10 t10 B10 m10 d10] [bR4 4 107 false none 0 0 false none 0 0,bR4 3 107 s1 A1 l1 c1 t1 B1 m1 d1,bR4 2 107 s0 A0 l0 c0 t0 B0 m0 d0] ?_
 refine xd 148 [vR4 s0 A0 l0 c0 t0 B0 m0 d0,vR4 s10 A10 l10 c10 t10 B10 m10 d10] 8 ZaJ _ (fun w R Q=>(Znp _ _ (p) ((q)⁻¹) _ Q.1.2 Q.1.1.1 Q.2 hp hq.inv).mono (fun _ _ h=>ZaL (by rw [← Rat.div_def] at h; exact h))) (fun xx=>?_)
 obtain ⟨s11,A11,l11,c11,t11,B11,m11,d11⟩:=xx
 refine xf 1 [(4, .p 4 0)] [bR4 4 107 s11 A11 l11 c11 t11 B11 m11 d11,bR4 4 107 false none 0 0 false none 0 0,bR4 3 107 s1 A1 l1 c1 t1 B1 m1 d1,bR4 2 107 s0 A0 l0 c0 t0 B0 m0 d0] ?_
 refine xz (xe (Zaa (Zan ?_)))
 refine Zag (v:=.agg #[.bool s11, .slice A11 l11 c11, .bool t11, .slice B11 m11 d11]) (by kernel_rfl) (fun w' R Q=>?_)
 exact ⟨_,rfl,Q.2,R⟩
theorem Zns (a b:Value) (p q:Rat) (w:World) (ha:ZaC w a p) (hb:ZaC w b q) (hp:Zbb p 38) (hq:Zbb q 38) :
 Calls Tryz.prog 150 #[a,b] w (RetV w (.int .i64 (p - q).num.sign)):=by
 obtain ⟨s0,A0,l0,c0,t0,B0,m0,d0,rfl⟩:=ha.shp
 obtain ⟨s1,A1,l1,c1,t1,B1,m1,d1,rfl⟩:=hb.shp
 have S1:wl p.num.natAbs≤38:=hp.1
 have S2:wl q.num.natAbs≤38:=hq.1
 have hp2:wl p.den≤38:=hp.2
 have hq2:wl q.den≤38:=hq.2
 have S3:wl ((p.den:Nat):Int).natAbs≤38:=wlc hp2
 have S4:wl ((q.den:Nat):Int).natAbs≤38:=wlc hq2
 refine ZaB (Φ:=fun w=>(ZaC w (.agg #[.bool s0, .slice A0 l0 c0, .bool t0, .slice B0 m0 d0]) (p)∧ZaC w (.agg #[.bool s1, .slice A1 l1 c1, .bool t1, .slice B1 m1 d1]) (q))) Tryz.func150 rfl (by kernel_rfl) (fun w' hf=>⟨ha.ext hf,hb.ext hf⟩) ?_
 refine Zac (Zab (xr 3 [(2, .p 2 0),(3, .p 3 0),(4, .v (.int .i64 0))] [bR4 3 107 s1 A1 l1 c1 t1 B1 m1 d1,bR4 2 107 s0 A0 l0 c0 t0 B0 m0 d0] ?_))
 refine xe (Zaa (Zac (Zac ?_)))
 refine ZaE 15 (by kernel_rfl) (by kernel_rfl) Zaj ?_
 refine xf 2 [(2, .p 2 0),(3, .p 3 0),(4, .v (.int .i64 0)),eI2 6 t0 B0 m0 d0] [bR4 3 107 s1 A1 l1 c1 t1 B1 m1 d1,bR4 2 107 s0 A0 l0 c0 t0 B0 m0 d0] ?_
 by_cases hz10:(denF (p))=0
 ·refine xd 141 [vI2 t0 B0 m0 d0] 7 (fun _:Unit=>.bool true) _ (fun w R Q=>(ZaG _ (denF (p)) _ Q.1.den).mono (fun _ _ h=>Zae h (by rw [decide_eq_true (p:=(denF (p))=0) hz10]))) (fun xx=>?_)
  refine xf 3 [(2, .p 2 0),(3, .p 3 0),(4, .v (.int .i64 0)),(8, .v (.bool true)),eI2 10 t1 B1 m1 d1] [bR4 3 107 s1 A1 l1 c1 t1 B1 m1 d1,bR4 2 107 s0 A0 l0 c0 t0 B0 m0 d0] ?_
  by_cases hz11:(denF (q))=0
  ·refine xd 141 [vI2 t1 B1 m1 d1] 11 (fun _:Unit=>.bool true) _ (fun w R Q=>(ZaG _ (denF (q)) _ Q.1.2.den).mono (fun _ _ h=>Zae h (by rw [decide_eq_true (p:=(denF (q))=0) hz11]))) (fun xx=>?_)
   refine xf 8 [(2, .p 2 0),(3, .p 3 0),(4, .v (.int .i64 0)),(19, .v (.bool true))] [bR4 3 107 s1 A1 l1 c1 t1 B1 m1 d1,bR4 2 107 s0 A0 l0 c0 t0 B0 m0 d0] ?_
   refine xz (xe (Zaa (xa (Zac (Zab (xr 4 [(2, .p 2 0),(3, .p 3 0),(4, .v (.int .i64 0)),eI2 21 s0 A0 l0 c0,eI2 23 s1 A1 l1 c1] [bR4 3 107 s1 A1 l1 c1 t1 B1 m1 d1,bR4 2 107 s0 A0 l0 c0 t0 B0 m0 d0] ?_))))))
   refine xc 135 [vI2 s0 A0 l0 c0,vI2 s1 A1 l1 c1] 24 (fun _:Unit=>.int .i64 (p - q).num.sign) _ (fun w R Q=>(Za4 _ _ ((p).num) ((q).num) _ Q.1.1.1.num Q.1.1.2.num (fit S1 (by decide)) (fit S2 (by decide))).mono (fun _ _ h=>Zae h (by rw [Zqt (Zhl.1 hz10) (Zhl.1 hz11)]))) (fun xx=>?_)
   refine xr 1 [(2, .p 2 0),(3, .p 3 0),(4, .v (.int .i64 (p - q).num.sign))] [bR4 3 107 s1 A1 l1 c1 t1 B1 m1 d1,bR4 2 107 s0 A0 l0 c0 t0 B0 m0 d0] ?_
   refine xe (Zaa (Zan (Zao ?_)))
   refine Zag (v:=.int .i64 (p - q).num.sign) (by kernel_rfl) (fun w' R Q=>?_)
   exact ⟨rfl,R⟩
  ·refine xd 141 [vI2 t1 B1 m1 d1] 11 (fun _:Unit=>.bool false) _ (fun w R Q=>(ZaG _ (denF (q)) _ Q.1.2.den).mono (fun _ _ h=>Zae h (by rw [decide_eq_false (p:=(denF (q))=0) hz11]))) (fun xx=>?_)
   refine xf 3 [(2, .p 2 0),(3, .p 3 0),(4, .v (.int .i64 0)),(13, .v (.bool false)),eR4 14 s0 A0 l0 c0 t0 B0 m0 d0] [bR4 3 107 s1 A1 l1 c1 t1 B1 m1 d1,bR4 2 107 s0 A0 l0 c0 t0 B0 m0 d0] ?_
   rcases Zfc (p.num) with ⟨hz12,hs12⟩ | ⟨hz12,hs12⟩ | ⟨hz12,hs12⟩
   ·refine xd 216 [vR4 s0 A0 l0 c0 t0 B0 m0 d0] 15 (fun _:Unit=>.int .i64 (-1)) _ (fun w R Q=>(Za2 _ _ _ Q.1.1.1).mono (fun _ _ h=>Zae h (by rw [hs12]))) (fun xx=>?_)
    refine xf 1 [(2, .p 2 0),(3, .p 3 0),(4, .v (.int .i64 0)),(13, .v (.bool false)),(15, .v (.int .i64 (-1))),eR4 16 s1 A1 l1 c1 t1 B1 m1 d1] [bR4 3 107 s1 A1 l1 c1 t1 B1 m1 d1,bR4 2 107 s0 A0 l0 c0 t0 B0 m0 d0] ?_
    rcases Zfc (q.num) with ⟨hz13,hs13⟩ | ⟨hz13,hs13⟩ | ⟨hz13,hs13⟩
    ·refine xd 216 [vR4 s1 A1 l1 c1 t1 B1 m1 d1] 17 (fun _:Unit=>.int .i64 (-1)) _ (fun w R Q=>(Za2 _ _ _ Q.1.1.1.2).mono (fun _ _ h=>Zae h (by rw [hs13]))) (fun xx=>?_)
     refine xf 2 [(2, .p 2 0),(3, .p 3 0),(4, .v (.int .i64 0)),(19, .v (.bool false))] [bR4 3 107 s1 A1 l1 c1 t1 B1 m1 d1,bR4 2 107 s0 A0 l0 c0 t0 B0 m0 d0] ?_
     refine xz (xe (Zaa (xb (ZaA (Zaa (Zac ?_))))))
     refine ZaE 12 (by kernel_rfl) (by kernel_rfl) Zaj ?_
     refine xf 3 [(2, .p 2 0),(3, .p 3 0),(4, .v (.int .i64 0)),eI2 26 s0 A0 l0 c0,eR4 27 s1 A1 l1 c1 t1 B1 m1 d1] [bR4 3 107 s1 A1 l1 c1 t1 B1 m1 d1,bR4 2 107 s0 A0 l0 c0 t0 B0 m0 d0] ?_
     refine xd 74 [vR4 s1 A1 l1 c1 t1 B1 m1 d1] 28 Zam _ (fun w R Q=>(Zbg _ (q) _ Q.1.1.1.1.2).mono (fun _ _=>Zaq)) (fun xx=>?_)
     obtain ⟨s14,A14,l14,c14⟩:=xx
     refine xf 0 [(2, .p 2 0),(3, .p 3 0),(4, .v (.int .i64 0)),eI2 26 s0 A0 l0 c0,eI2 28 s14 A14 l14 c14] [bR4 3 107 s1 A1 l1 c1 t1 B1 m1 d1,bR4 2 107 s0 A0 l0 c0 t0 B0 m0 d0] ?_
     refine xd 89 [vI2 s0 A0 l0 c0,vI2 s14 A14 l14 c14] 29 Zam _ (fun w R Q=>(Zbe _ _ ((p).num) (((q).den:Int)) _ Q.1.1.1.1.1.1.num Q.2 (fit S1 (by decide)) (fit S4 (by decide)) (Or.inl (Nat.lt_of_le_of_lt S1 (by decide)))).mono (fun _ _=>Zaq)) (fun xx=>?_)
     obtain ⟨s15,A15,l15,c15⟩:=xx
     refine xf 3 [(4, .v (.int .i64 0)),eI2 29 s15 A15 l15 c15,eI2 31 s1 A1 l1 c1,eR4 32 s0 A0 l0 c0 t0 B0 m0 d0] [bR4 3 107 s1 A1 l1 c1 t1 B1 m1 d1,bR4 2 107 s0 A0 l0 c0 t0 B0 m0 d0] ?_
     refine xd 74 [vR4 s0 A0 l0 c0 t0 B0 m0 d0] 33 Zam _ (fun w R Q=>(Zbg _ (p) _ Q.1.1.1.1.1.1.1).mono (fun _ _=>Zaq)) (fun xx=>?_)
     obtain ⟨s16,A16,l16,c16⟩:=xx
     refine xf 0 [(4, .v (.int .i64 0)),eI2 29 s15 A15 l15 c15,eI2 31 s1 A1 l1 c1,eI2 33 s16 A16 l16 c16] [bR4 3 107 s1 A1 l1 c1 t1 B1 m1 d1,bR4 2 107 s0 A0 l0 c0 t0 B0 m0 d0] ?_
     refine xd 89 [vI2 s1 A1 l1 c1,vI2 s16 A16 l16 c16] 34 Zam _ (fun w R Q=>(Zbe _ _ ((q).num) (((p).den:Int)) _ Q.1.1.1.1.1.1.1.2.num Q.2 (fit S2 (by decide)) (fit S3 (by decide)) (Or.inl (Nat.lt_of_le_of_lt S2 (by decide)))).mono (fun _ _=>Zaq)) (fun xx=>?_)
     obtain ⟨s17,A17,l17,c17⟩:=xx
     refine xf 0 [(4, .v (.int .i64 0)),eI2 29 s15 A15 l15 c15,eI2 34 s17 A17 l17 c17] [bR4 3 107 s1 A1 l1 c1 t1 B1 m1 d1,bR4 2 107 s0 A0 l0 c0 t0 B0 m0 d0] ?_
     refine xd 135 [vI2 s15 A15 l15 c15,vI2 s17 A17 l17 c17] 35 (fun _:Unit=>.int .i64 (p - q).num.sign) _ (fun w R Q=>(Za4 _ _ (((p).num) * (((q).den:Int))) (((q).num) * (((p).den:Int))) _ Q.1.1.2 Q.2 (fit (wlm S1 S4) (by decide)) (fit (wlm S2 S3) (by decide))).mono (fun _ _ h=>Zae h (by rw [Zc3]))) (fun xx=>?_)
     refine xf 1 [(4, .v (.int .i64 (p - q).num.sign))] [bR4 3 107 s1 A1 l1 c1 t1 B1 m1 d1,bR4 2 107 s0 A0 l0 c0 t0 B0 m0 d0] ?_
     refine xz (xe (Zaa (Zan ?_)))
     refine Zag (v:=.int .i64 (p - q).num.sign) (by kernel_rfl) (fun w' R Q=>?_)
     exact ⟨rfl,R⟩
    ·refine xd 216 [vR4 s1 A1 l1 c1 t1 B1 m1 d1] 17 (fun _:Unit=>.int .i64 0) _ (fun w R Q=>(Za2 _ _ _ Q.1.1.1.2).mono (fun _ _ h=>Zae h (by rw [hs13]))) (fun xx=>?_)
     refine xf 2 [(2, .p 2 0),(3, .p 3 0),(4, .v (.int .i64 0)),(19, .v (.bool true))] [bR4 3 107 s1 A1 l1 c1 t1 B1 m1 d1,bR4 2 107 s0 A0 l0 c0 t0 B0 m0 d0] ?_
     refine xz (xe (Zaa (xa (Zac (Zab (xr 4 [(2, .p 2 0),(3, .p 3 0),(4, .v (.int .i64 0)),eI2 21 s0 A0 l0 c0,eI2 23 s1 A1 l1 c1] [bR4 3 107 s1 A1 l1 c1 t1 B1 m1 d1,bR4 2 107 s0 A0 l0 c0 t0 B0 m0 d0] ?_))))))
     refine xc 135 [vI2 s0 A0 l0 c0,vI2 s1 A1 l1 c1] 24 (fun _:Unit=>.int .i64 (p - q).num.sign) _ (fun w R Q=>(Za4 _ _ ((p).num) ((q).num) _ Q.1.1.1.1.1.num Q.1.1.1.1.2.num (fit S1 (by decide)) (fit S2 (by decide))).mono (fun _ _ h=>Zae h (by rw [Zb6 (p:=p) (q:=q) (by rw [hs12,hs13]; decide)]))) (fun xx=>?_)
     refine xr 1 [(2, .p 2 0),(3, .p 3 0),(4, .v (.int .i64 (p - q).num.sign))] [bR4 3 107 s1 A1 l1 c1 t1 B1 m1 d1,bR4 2 107 s0 A0 l0 c0 t0 B0 m0 d0] ?_
     refine xe (Zaa (Zan (Zao ?_)))
     refine Zag (v:=.int .i64 (p - q).num.sign) (by kernel_rfl) (fun w' R Q=>?_)
     exact ⟨rfl,R⟩
    ·refine xd 216 [vR4 s1 A1 l1 c1 t1 B1 m1 d1] 17 (fun _:Unit=>.int .i64 1) _ (fun w R Q=>(Za2 _ _ _ Q.1.1.1.2).mono (fun _ _ h=>Zae h (by rw [hs13]))) (fun xx=>?_)
     refine xf 2 [(2, .p 2 0),(3, .p 3 0),(4, .v (.int .i64 0)),(19, .v (.bool true))] [bR4 3 107 s1 A1 l1 c1 t1 B1 m1 d1,bR4 2 107 s0 A0 l0 c0 t0 B0 m0 d0] ?_
     refine xz (xe (Zaa (xa (Zac (Zab (xr 4 [(2, .p 2 0),(3, .p 3 0),(4, .v (.int .i64 0)),eI2 21 s0 A0 l0 c0,eI2 23 s1 A1 l1 c1] [bR4 3 107 s1 A1 l1 c1 t1 B1 m1 d1,bR4 2 107 s0 A0 l0 c0 t0 B0 m0 d0] ?_))))))
     refine xc 135 [vI2 s0 A0 l0 c0,vI2 s1 A1 l1 c1] 24 (fun _:Unit=>.int .i64 (p - q).num.sign) _ (fun w R Q=>(Za4 _ _ ((p).num) ((q).num) _ Q.1.1.1.1.1.num Q.1.1.1.1.2.num (fit S1 (by decide)) (fit S2 (by decide))).mono (fun _ _ h=>Zae h (by rw [Zb6 (p:=p) (q:=q) (by rw [hs12,hs13]; decide)]))) (fun xx=>?_)
     refine xr 1 [(2, .p 2 0),(3, .p 3 0),(4, .v (.int .i64 (p - q).num.sign))] [bR4 3 107 s1 A1 l1 c1 t1 B1 m1 d1,bR4 2 107 s0 A0 l0 c0 t0 B0 m0 d0] ?_
     refine xe (Zaa (Zan (Zao ?_)))
     refine Zag (v:=.int .i64 (p - q).num.sign) (by kernel_rfl) (fun w' R Q=>?_)
     exact ⟨rfl,R⟩
   ·refine xd 216 [vR4 s0 A0 l0 c0 t0 B0 m0 d0] 15 (fun _:Unit=>.int .i64 0) _ (fun w R Q=>(Za2 _ _ _ Q.1.1.1).mono (fun _ _ h=>Zae h (by rw [hs12]))) (fun xx=>?_)
    refine xf 1 [(2, .p 2 0),(3, .p 3 0),(4, .v (.int .i64 0)),(13, .v (.bool false)),(15, .v (.int .i64 0)),eR4 16 s1 A1 l1 c1 t1 B1 m1 d1] [bR4 3 107 s1 A1 l1 c1 t1 B1 m1 d1,bR4 2 107 s0 A0 l0 c0 t0 B0 m0 d0] ?_
    rcases Zfc (q.num) with ⟨hz18,hs18⟩ | ⟨hz18,hs18⟩ | ⟨hz18,hs18⟩
    ·refine xd 216 [vR4 s1 A1 l1 c1 t1 B1 m1 d1] 17 (fun _:Unit=>.int .i64 (-1)) _ (fun w R Q=>(Za2 _ _ _ Q.1.1.1.2).mono (fun _ _ h=>Zae h (by rw [hs18]))) (fun xx=>?_)
     refine xf 2 [(2, .p 2 0),(3, .p 3 0),(4, .v (.int .i64 0)),(19, .v (.bool true))] [bR4 3 107 s1 A1 l1 c1 t1 B1 m1 d1,bR4 2 107 s0 A0 l0 c0 t0 B0 m0 d0] ?_
     refine xz (xe (Zaa (xa (Zac (Zab (xr 4 [(2, .p 2 0),(3, .p 3 0),(4, .v (.int .i64 0)),eI2 21 s0 A0 l0 c0,eI2 23 s1 A1 l1 c1] [bR4 3 107 s1 A1 l1 c1 t1 B1 m1 d1,bR4 2 107 s0 A0 l0 c0 t0 B0 m0 d0] ?_))))))
     refine xc 135 [vI2 s0 A0 l0 c0,vI2 s1 A1 l1 c1] 24 (fun _:Unit=>.int .i64 (p - q).num.sign) _ (fun w R Q=>(Za4 _ _ ((p).num) ((q).num) _ Q.1.1.1.1.1.num Q.1.1.1.1.2.num (fit S1 (by decide)) (fit S2 (by decide))).mono (fun _ _ h=>Zae h (by rw [Zb6 (p:=p) (q:=q) (by rw [hs12,hs18]; decide)]))) (fun xx=>?_)
     refine xr 1 [(2, .p 2 0),(3, .p 3 0),(4, .v (.int .i64 (p - q).num.sign))] [bR4 3 107 s1 A1 l1 c1 t1 B1 m1 d1,bR4 2 107 s0 A0 l0 c0 t0 B0 m0 d0] ?_
     refine xe (Zaa (Zan (Zao ?_)))
     refine Zag (v:=.int .i64 (p - q).num.sign) (by kernel_rfl) (fun w' R Q=>?_)
     exact ⟨rfl,R⟩
    ·refine xd 216 [vR4 s1 A1 l1 c1 t1 B1 m1 d1] 17 (fun _:Unit=>.int .i64 0) _ (fun w R Q=>(Za2 _ _ _ Q.1.1.1.2).mono (fun _ _ h=>Zae h (by rw [hs18]))) (fun xx=>?_)
     refine xf 2 [(2, .p 2 0),(3, .p 3 0),(4, .v (.int .i64 0)),(19, .v (.bool false))] [bR4 3 107 s1 A1 l1 c1 t1 B1 m1 d1,bR4 2 107 s0 A0 l0 c0 t0 B0 m0 d0] ?_
     refine xz (xe (Zaa (xb (ZaA (Zaa (Zac ?_))))))
     refine ZaE 12 (by kernel_rfl) (by kernel_rfl) Zaj ?_
     refine xf 3 [(2, .p 2 0),(3, .p 3 0),(4, .v (.int .i64 0)),eI2 26 s0 A0 l0 c0,eR4 27 s1 A1 l1 c1 t1 B1 m1 d1] [bR4 3 107 s1 A1 l1 c1 t1 B1 m1 d1,bR4 2 107 s0 A0 l0 c0 t0 B0 m0 d0] ?_
     refine xd 74 [vR4 s1 A1 l1 c1 t1 B1 m1 d1] 28 Zam _ (fun w R Q=>(Zbg _ (q) _ Q.1.1.1.1.2).mono (fun _ _=>Zaq)) (fun xx=>?_)
     obtain ⟨s19,A19,l19,c19⟩:=xx
     refine xf 0 [(2, .p 2 0),(3, .p 3 0),(4, .v (.int .i64 0)),eI2 26 s0 A0 l0 c0,eI2 28 s19 A19 l19 c19] [bR4 3 107 s1 A1 l1 c1 t1 B1 m1 d1,bR4 2 107 s0 A0 l0 c0 t0 B0 m0 d0] ?_
     refine xd 89 [vI2 s0 A0 l0 c0,vI2 s19 A19 l19 c19] 29 Zam _ (fun w R Q=>(Zbe _ _ ((p).num) (((q).den:Int)) _ Q.1.1.1.1.1.1.num Q.2 (fit S1 (by decide)) (fit S4 (by decide)) (Or.inl (Nat.lt_of_le_of_lt S1 (by decide)))).mono (fun _ _=>Zaq)) (fun xx=>?_)
     obtain ⟨s20,A20,l20,c20⟩:=xx
     refine xf 3 [(4, .v (.int .i64 0)),eI2 29 s20 A20 l20 c20,eI2 31 s1 A1 l1 c1,eR4 32 s0 A0 l0 c0 t0 B0 m0 d0] [bR4 3 107 s1 A1 l1 c1 t1 B1 m1 d1,bR4 2 107 s0 A0 l0 c0 t0 B0 m0 d0] ?_
     refine xd 74 [vR4 s0 A0 l0 c0 t0 B0 m0 d0] 33 Zam _ (fun w R Q=>(Zbg _ (p) _ Q.1.1.1.1.1.1.1).mono (fun _ _=>Zaq)) (fun xx=>?_)
     obtain ⟨s21,A21,l21,c21⟩:=xx
     refine xf 0 [(4, .v (.int .i64 0)),eI2 29 s20 A20 l20 c20,eI2 31 s1 A1 l1 c1,eI2 33 s21 A21 l21 c21] [bR4 3 107 s1 A1 l1 c1 t1 B1 m1 d1,bR4 2 107 s0 A0 l0 c0 t0 B0 m0 d0] ?_
     refine xd 89 [vI2 s1 A1 l1 c1,vI2 s21 A21 l21 c21] 34 Zam _ (fun w R Q=>(Zbe _ _ ((q).num) (((p).den:Int)) _ Q.1.1.1.1.1.1.1.2.num Q.2 (fit S2 (by decide)) (fit S3 (by decide)) (Or.inl (Nat.lt_of_le_of_lt S2 (by decide)))).mono (fun _ _=>Zaq)) (fun xx=>?_)
     obtain ⟨s22,A22,l22,c22⟩:=xx
     refine xf 0 [(4, .v (.int .i64 0)),eI2 29 s20 A20 l20 c20,eI2 34 s22 A22 l22 c22] [bR4 3 107 s1 A1 l1 c1 t1 B1 m1 d1,bR4 2 107 s0 A0 l0 c0 t0 B0 m0 d0] ?_
     refine xd 135 [vI2 s20 A20 l20 c20,vI2 s22 A22 l22 c22] 35 (fun _:Unit=>.int .i64 (p - q).num.sign) _ (fun w R Q=>(Za4 _ _ (((p).num) * (((q).den:Int))) (((q).num) * (((p).den:Int))) _ Q.1.1.2 Q.2 (fit (wlm S1 S4) (by decide)) (fit (wlm S2 S3) (by decide))).mono (fun _ _ h=>Zae h (by rw [Zc3]))) (fun xx=>?_)
     refine xf 1 [(4, .v (.int .i64 (p - q).num.sign))] [bR4 3 107 s1 A1 l1 c1 t1 B1 m1 d1,bR4 2 107 s0 A0 l0 c0 t0 B0 m0 d0] ?_
     refine xz (xe (Zaa (Zan ?_)))
     refine Zag (v:=.int .i64 (p - q).num.sign) (by kernel_rfl) (fun w' R Q=>?_)
     exact ⟨rfl,R⟩
    ·refine xd 216 [vR4 s1 A1 l1 c1 t1 B1 m1 d1] 17 (fun _:Unit=>.int .i64 1) _ (fun w R Q=>(Za2 _ _ _ Q.1.1.1.2).mono (fun _ _ h=>Zae h (by rw [hs18]))) (fun xx=>?_)
     refine xf 2 [(2, .p 2 0),(3, .p 3 0),(4, .v (.int .i64 0)),(19, .v (.bool true))] [bR4 3 107 s1 A1 l1 c1 t1 B1 m1 d1,bR4 2 107 s0 A0 l0 c0 t0 B0 m0 d0] ?_
     refine xz (xe (Zaa (xa (Zac (Zab (xr 4 [(2, .p 2 0),(3, .p 3 0),(4, .v (.int .i64 0)),eI2 21 s0 A0 l0 c0,eI2 23 s1 A1 l1 c1] [bR4 3 107 s1 A1 l1 c1 t1 B1 m1 d1,bR4 2 107 s0 A0 l0 c0 t0 B0 m0 d0] ?_))))))
     refine xc 135 [vI2 s0 A0 l0 c0,vI2 s1 A1 l1 c1] 24 (fun _:Unit=>.int .i64 (p - q).num.sign) _ (fun w R Q=>(Za4 _ _ ((p).num) ((q).num) _ Q.1.1.1.1.1.num Q.1.1.1.1.2.num (fit S1 (by decide)) (fit S2 (by decide))).mono (fun _ _ h=>Zae h (by rw [Zb6 (p:=p) (q:=q) (by rw [hs12,hs18]; decide)]))) (fun xx=>?_)
     refine xr 1 [(2, .p 2 0),(3, .p 3 0),(4, .v (.int .i64 (p - q).num.sign))] [bR4 3 107 s1 A1 l1 c1 t1 B1 m1 d1,bR4 2 107 s0 A0 l0 c0 t0 B0 m0 d0] ?_
     refine xe (Zaa (Zan (Zao ?_)))
     refine Zag (v:=.int .i64 (p - q).num.sign) (by kernel_rfl) (fun w' R Q=>?_)
     exact ⟨rfl,R⟩
   ·refine xd 216 [vR4 s0 A0 l0 c0 t0 B0 m0 d0] 15 (fun _:Unit=>.int .i64 1) _ (fun w R Q=>(Za2 _ _ _ Q.1.1.1).mono (fun _ _ h=>Zae h (by rw [hs12]))) (fun xx=>?_)
    refine xf 1 [(2, .p 2 0),(3, .p 3 0),(4, .v (.int .i64 0)),(13, .v (.bool false)),(15, .v (.int .i64 1)),eR4 16 s1 A1 l1 c1 t1 B1 m1 d1] [bR4 3 107 s1 A1 l1 c1 t1 B1 m1 d1,bR4 2 107 s0 A0 l0 c0 t0 B0 m0 d0] ?_
    rcases Zfc (q.num) with ⟨hz23,hs23⟩ | ⟨hz23,hs23⟩ | ⟨hz23,hs23⟩
    ·refine xd 216 [vR4 s1 A1 l1 c1 t1 B1 m1 d1] 17 (fun _:Unit=>.int .i64 (-1)) _ (fun w R Q=>(Za2 _ _ _ Q.1.1.1.2).mono (fun _ _ h=>Zae h (by rw [hs23]))) (fun xx=>?_)
     refine xf 2 [(2, .p 2 0),(3, .p 3 0),(4, .v (.int .i64 0)),(19, .v (.bool true))] [bR4 3 107 s1 A1 l1 c1 t1 B1 m1 d1,bR4 2 107 s0 A0 l0 c0 t0 B0 m0 d0] ?_
     refine xz (xe (Zaa (xa (Zac (Zab (xr 4 [(2, .p 2 0),(3, .p 3 0),(4, .v (.int .i64 0)),eI2 21 s0 A0 l0 c0,eI2 23 s1 A1 l1 c1] [bR4 3 107 s1 A1 l1 c1 t1 B1 m1 d1,bR4 2 107 s0 A0 l0 c0 t0 B0 m0 d0] ?_))))))
     refine xc 135 [vI2 s0 A0 l0 c0,vI2 s1 A1 l1 c1] 24 (fun _:Unit=>.int .i64 (p - q).num.sign) _ (fun w R Q=>(Za4 _ _ ((p).num) ((q).num) _ Q.1.1.1.1.1.num Q.1.1.1.1.2.num (fit S1 (by decide)) (fit S2 (by decide))).mono (fun _ _ h=>Zae h (by rw [Zb6 (p:=p) (q:=q) (by rw [hs12,hs23]; decide)]))) (fun xx=>?_)
     refine xr 1 [(2, .p 2 0),(3, .p 3 0),(4, .v (.int .i64 (p - q).num.sign))] [bR4 3 107 s1 A1 l1 c1 t1 B1 m1 d1,bR4 2 107 s0 A0 l0 c0 t0 B0 m0 d0] ?_
     refine xe (Zaa (Zan (Zao ?_)))
     refine Zag (v:=.int .i64 (p - q).num.sign) (by kernel_rfl) (fun w' R Q=>?_)
     exact ⟨rfl,R⟩
    ·refine xd 216 [vR4 s1 A1 l1 c1 t1 B1 m1 d1] 17 (fun _:Unit=>.int .i64 0) _ (fun w R Q=>(Za2 _ _ _ Q.1.1.1.2).mono (fun _ _ h=>Zae h (by rw [hs23]))) (fun xx=>?_)
     refine xf 2 [(2, .p 2 0),(3, .p 3 0),(4, .v (.int .i64 0)),(19, .v (.bool true))] [bR4 3 107 s1 A1 l1 c1 t1 B1 m1 d1,bR4 2 107 s0 A0 l0 c0 t0 B0 m0 d0] ?_
     refine xz (xe (Zaa (xa (Zac (Zab (xr 4 [(2, .p 2 0),(3, .p 3 0),(4, .v (.int .i64 0)),eI2 21 s0 A0 l0 c0,eI2 23 s1 A1 l1 c1] [bR4 3 107 s1 A1 l1 c1 t1 B1 m1 d1,bR4 2 107 s0 A0 l0 c0 t0 B0 m0 d0] ?_))))))
     refine xc 135 [vI2 s0 A0 l0 c0,vI2 s1 A1 l1 c1] 24 (fun _:Unit=>.int .i64 (p - q).num.sign) _ (fun w R Q=>(Za4 _ _ ((p).num) ((q).num) _ Q.1.1.1.1.1.num Q.1.1.1.1.2.num (fit S1 (by decide)) (fit S2 (by decide))).mono (fun _ _ h=>Zae h (by rw [Zb6 (p:=p) (q:=q) (by rw [hs12,hs23]; decide)]))) (fun xx=>?_)
     refine xr 1 [(2, .p 2 0),(3, .p 3 0),(4, .v (.int .i64 (p - q).num.sign))] [bR4 3 107 s1 A1 l1 c1 t1 B1 m1 d1,bR4 2 107 s0 A0 l0 c0 t0 B0 m0 d0] ?_
     refine xe (Zaa (Zan (Zao ?_)))
     refine Zag (v:=.int .i64 (p - q).num.sign) (by kernel_rfl) (fun w' R Q=>?_)
     exact ⟨rfl,R⟩
    ·refine xd 216 [vR4 s1 A1 l1 c1 t1 B1 m1 d1] 17 (fun _:Unit=>.int .i64 1) _ (fun w R Q=>(Za2 _ _ _ Q.1.1.1.2).mono (fun _ _ h=>Zae h (by rw [hs23]))) (fun xx=>?_)
     refine xf 2 [(2, .p 2 0),(3, .p 3 0),(4, .v (.int .i64 0)),(19, .v (.bool false))] [bR4 3 107 s1 A1 l1 c1 t1 B1 m1 d1,bR4 2 107 s0 A0 l0 c0 t0 B0 m0 d0] ?_
     refine xz (xe (Zaa (xb (ZaA (Zaa (Zac ?_))))))
     refine ZaE 12 (by kernel_rfl) (by kernel_rfl) Zaj ?_
     refine xf 3 [(2, .p 2 0),(3, .p 3 0),(4, .v (.int .i64 0)),eI2 26 s0 A0 l0 c0,eR4 27 s1 A1 l1 c1 t1 B1 m1 d1] [bR4 3 107 s1 A1 l1 c1 t1 B1 m1 d1,bR4 2 107 s0 A0 l0 c0 t0 B0 m0 d0] ?_
     refine xd 74 [vR4 s1 A1 l1 c1 t1 B1 m1 d1] 28 Zam _ (fun w R Q=>(Zbg _ (q) _ Q.1.1.1.1.2).mono (fun _ _=>Zaq)) (fun xx=>?_)
     obtain ⟨s24,A24,l24,c24⟩:=xx
     refine xf 0 [(2, .p 2 0),(3, .p 3 0),(4, .v (.int .i64 0)),eI2 26 s0 A0 l0 c0,eI2 28 s24 A24 l24 c24] [bR4 3 107 s1 A1 l1 c1 t1 B1 m1 d1,bR4 2 107 s0 A0 l0 c0 t0 B0 m0 d0] ?_
     refine xd 89 [vI2 s0 A0 l0 c0,vI2 s24 A24 l24 c24] 29 Zam _ (fun w R Q=>(Zbe _ _ ((p).num) (((q).den:Int)) _ Q.1.1.1.1.1.1.num Q.2 (fit S1 (by decide)) (fit S4 (by decide)) (Or.inl (Nat.lt_of_le_of_lt S1 (by decide)))).mono (fun _ _=>Zaq)) (fun xx=>?_)
     obtain ⟨s25,A25,l25,c25⟩:=xx
     refine xf 3 [(4, .v (.int .i64 0)),eI2 29 s25 A25 l25 c25,eI2 31 s1 A1 l1 c1,eR4 32 s0 A0 l0 c0 t0 B0 m0 d0] [bR4 3 107 s1 A1 l1 c1 t1 B1 m1 d1,bR4 2 107 s0 A0 l0 c0 t0 B0 m0 d0] ?_
     refine xd 74 [vR4 s0 A0 l0 c0 t0 B0 m0 d0] 33 Zam _ (fun w R Q=>(Zbg _ (p) _ Q.1.1.1.1.1.1.1).mono (fun _ _=>Zaq)) (fun xx=>?_)
     obtain ⟨s26,A26,l26,c26⟩:=xx
     refine xf 0 [(4, .v (.int .i64 0)),eI2 29 s25 A25 l25 c25,eI2 31 s1 A1 l1 c1,eI2 33 s26 A26 l26 c26] [bR4 3 107 s1 A1 l1 c1 t1 B1 m1 d1,bR4 2 107 s0 A0 l0 c0 t0 B0 m0 d0] ?_
     refine xd 89 [vI2 s1 A1 l1 c1,vI2 s26 A26 l26 c26] 34 Zam _ (fun w R Q=>(Zbe _ _ ((q).num) (((p).den:Int)) _ Q.1.1.1.1.1.1.1.2.num Q.2 (fit S2 (by decide)) (fit S3 (by decide)) (Or.inl (Nat.lt_of_le_of_lt S2 (by decide)))).mono (fun _ _=>Zaq)) (fun xx=>?_)
     obtain ⟨s27,A27,l27,c27⟩:=xx
     refine xf 0 [(4, .v (.int .i64 0)),eI2 29 s25 A25 l25 c25,eI2 34 s27 A27 l27 c27] [bR4 3 107 s1 A1 l1 c1 t1 B1 m1 d1,bR4 2 107 s0 A0 l0 c0 t0 B0 m0 d0] ?_
     refine xd 135 [vI2 s25 A25 l25 c25,vI2 s27 A27 l27 c27] 35 (fun _:Unit=>.int .i64 (p - q).num.sign) _ (fun w R Q=>(Za4 _ _ (((p).num) * (((q).den:Int))) (((q).num) * (((p).den:Int))) _ Q.1.1.2 Q.2 (fit (wlm S1 S4) (by decide)) (fit (wlm S2 S3) (by decide))).mono (fun _ _ h=>Zae h (by rw [Zc3]))) (fun xx=>?_)
     refine xf 1 [(4, .v (.int .i64 (p - q).num.sign))] [bR4 3 107 s1 A1 l1 c1 t1 B1 m1 d1,bR4 2 107 s0 A0 l0 c0 t0 B0 m0 d0] ?_
     refine xz (xe (Zaa (Zan ?_)))
     refine Zag (v:=.int .i64 (p - q).num.sign) (by kernel_rfl) (fun w' R Q=>?_)
     exact ⟨rfl,R⟩
 ·refine xd 141 [vI2 t0 B0 m0 d0] 7 (fun _:Unit=>.bool false) _ (fun w R Q=>(ZaG _ (denF (p)) _ Q.1.den).mono (fun _ _ h=>Zae h (by rw [decide_eq_false (p:=(denF (p))=0) hz10]))) (fun xx=>?_)
  refine xf 7 [(2, .p 2 0),(3, .p 3 0),(4, .v (.int .i64 0)),(13, .v (.bool false)),eR4 14 s0 A0 l0 c0 t0 B0 m0 d0] [bR4 3 107 s1 A1 l1 c1 t1 B1 m1 d1,bR4 2 107 s0 A0 l0 c0 t0 B0 m0 d0] ?_
  rcases Zfc (p.num) with ⟨hz28,hs28⟩ | ⟨hz28,hs28⟩ | ⟨hz28,hs28⟩
  ·refine xd 216 [vR4 s0 A0 l0 c0 t0 B0 m0 d0] 15 (fun _:Unit=>.int .i64 (-1)) _ (fun w R Q=>(Za2 _ _ _ Q.1.1).mono (fun _ _ h=>Zae h (by rw [hs28]))) (fun xx=>?_)
   refine xf 1 [(2, .p 2 0),(3, .p 3 0),(4, .v (.int .i64 0)),(13, .v (.bool false)),(15, .v (.int .i64 (-1))),eR4 16 s1 A1 l1 c1 t1 B1 m1 d1] [bR4 3 107 s1 A1 l1 c1 t1 B1 m1 d1,bR4 2 107 s0 A0 l0 c0 t0 B0 m0 d0] ?_
   rcases Zfc (q.num) with ⟨hz29,hs29⟩ | ⟨hz29,hs29⟩ | ⟨hz29,hs29⟩
   ·refine xd 216 [vR4 s1 A1 l1 c1 t1 B1 m1 d1] 17 (fun _:Unit=>.int .i64 (-1)) _ (fun w R Q=>(Za2 _ _ _ Q.1.1.2).mono (fun _ _ h=>Zae h (by rw [hs29]))) (fun xx=>?_)
    refine xf 2 [(2, .p 2 0),(3, .p 3 0),(4, .v (.int .i64 0)),(19, .v (.bool false))] [bR4 3 107 s1 A1 l1 c1 t1 B1 m1 d1,bR4 2 107 s0 A0 l0 c0 t0 B0 m0 d0] ?_
    refine xz (xe (Zaa (xb (ZaA (Zaa (Zac ?_))))))
    refine ZaE 12 (by kernel_rfl) (by kernel_rfl) Zaj ?_
    refine xf 3 [(2, .p 2 0),(3, .p 3 0),(4, .v (.int .i64 0)),eI2 26 s0 A0 l0 c0,eR4 27 s1 A1 l1 c1 t1 B1 m1 d1] [bR4 3 107 s1 A1 l1 c1 t1 B1 m1 d1,bR4 2 107 s0 A0 l0 c0 t0 B0 m0 d0] ?_
    refine xd 74 [vR4 s1 A1 l1 c1 t1 B1 m1 d1] 28 Zam _ (fun w R Q=>(Zbg _ (q) _ Q.1.1.1.2).mono (fun _ _=>Zaq)) (fun xx=>?_)
    obtain ⟨s30,A30,l30,c30⟩:=xx
    refine xf 0 [(2, .p 2 0),(3, .p 3 0),(4, .v (.int .i64 0)),eI2 26 s0 A0 l0 c0,eI2 28 s30 A30 l30 c30] [bR4 3 107 s1 A1 l1 c1 t1 B1 m1 d1,bR4 2 107 s0 A0 l0 c0 t0 B0 m0 d0] ?_
    refine xd 89 [vI2 s0 A0 l0 c0,vI2 s30 A30 l30 c30] 29 Zam _ (fun w R Q=>(Zbe _ _ ((p).num) (((q).den:Int)) _ Q.1.1.1.1.1.num Q.2 (fit S1 (by decide)) (fit S4 (by decide)) (Or.inl (Nat.lt_of_le_of_lt S1 (by decide)))).mono (fun _ _=>Zaq)) (fun xx=>?_)
    obtain ⟨s31,A31,l31,c31⟩:=xx
    refine xf 3 [(4, .v (.int .i64 0)),eI2 29 s31 A31 l31 c31,eI2 31 s1 A1 l1 c1,eR4 32 s0 A0 l0 c0 t0 B0 m0 d0] [bR4 3 107 s1 A1 l1 c1 t1 B1 m1 d1,bR4 2 107 s0 A0 l0 c0 t0 B0 m0 d0] ?_
    refine xd 74 [vR4 s0 A0 l0 c0 t0 B0 m0 d0] 33 Zam _ (fun w R Q=>(Zbg _ (p) _ Q.1.1.1.1.1.1).mono (fun _ _=>Zaq)) (fun xx=>?_)
    obtain ⟨s32,A32,l32,c32⟩:=xx
    refine xf 0 [(4, .v (.int .i64 0)),eI2 29 s31 A31 l31 c31,eI2 31 s1 A1 l1 c1,eI2 33 s32 A32 l32 c32] [bR4 3 107 s1 A1 l1 c1 t1 B1 m1 d1,bR4 2 107 s0 A0 l0 c0 t0 B0 m0 d0] ?_
    refine xd 89 [vI2 s1 A1 l1 c1,vI2 s32 A32 l32 c32] 34 Zam _ (fun w R Q=>(Zbe _ _ ((q).num) (((p).den:Int)) _ Q.1.1.1.1.1.1.2.num Q.2 (fit S2 (by decide)) (fit S3 (by decide)) (Or.inl (Nat.lt_of_le_of_lt S2 (by decide)))).mono (fun _ _=>Zaq)) (fun xx=>?_)
    obtain ⟨s33,A33,l33,c33⟩:=xx
    refine xf 0 [(4, .v (.int .i64 0)),eI2 29 s31 A31 l31 c31,eI2 34 s33 A33 l33 c33] [bR4 3 107 s1 A1 l1 c1 t1 B1 m1 d1,bR4 2 107 s0 A0 l0 c0 t0 B0 m0 d0] ?_
    refine xd 135 [vI2 s31 A31 l31 c31,vI2 s33 A33 l33 c33] 35 (fun _:Unit=>.int .i64 (p - q).num.sign) _ (fun w R Q=>(Za4 _ _ (((p).num) * (((q).den:Int))) (((q).num) * (((p).den:Int))) _ Q.1.1.2 Q.2 (fit (wlm S1 S4) (by decide)) (fit (wlm S2 S3) (by decide))).mono (fun _ _ h=>Zae h (by rw [Zc3]))) (fun xx=>?_)
    refine xf 1 [(4, .v (.int .i64 (p - q).num.sign))] [bR4 3 107 s1 A1 l1 c1 t1 B1 m1 d1,bR4 2 107 s0 A0 l0 c0 t0 B0 m0 d0] ?_
    refine xz (xe (Zaa (Zan ?_)))
    refine Zag (v:=.int .i64 (p - q).num.sign) (by kernel_rfl) (fun w' R Q=>?_)
    exact ⟨rfl,R⟩
   ·refine xd 216 [vR4 s1 A1 l1 c1 t1 B1 m1 d1] 17 (fun _:Unit=>.int .i64 0) _ (fun w R Q=>(Za2 _ _ _ Q.1.1.2).mono (fun _ _ h=>Zae h (by rw [hs29]))) (fun xx=>?_)
    refine xf 2 [(2, .p 2 0),(3, .p 3 0),(4, .v (.int .i64 0)),(19, .v (.bool true))] [bR4 3 107 s1 A1 l1 c1 t1 B1 m1 d1,bR4 2 107 s0 A0 l0 c0 t0 B0 m0 d0] ?_
    refine xz (xe (Zaa (xa (Zac (Zab (xr 4 [(2, .p 2 0),(3, .p 3 0),(4, .v (.int .i64 0)),eI2 21 s0 A0 l0 c0,eI2 23 s1 A1 l1 c1] [bR4 3 107 s1 A1 l1 c1 t1 B1 m1 d1,bR4 2 107 s0 A0 l0 c0 t0 B0 m0 d0] ?_))))))
    refine xc 135 [vI2 s0 A0 l0 c0,vI2 s1 A1 l1 c1] 24 (fun _:Unit=>.int .i64 (p - q).num.sign) _ (fun w R Q=>(Za4 _ _ ((p).num) ((q).num) _ Q.1.1.1.1.num Q.1.1.1.2.num (fit S1 (by decide)) (fit S2 (by decide))).mono (fun _ _ h=>Zae h (by rw [Zb6 (p:=p) (q:=q) (by rw [hs28,hs29]; decide)]))) (fun xx=>?_)
    refine xr 1 [(2, .p 2 0),(3, .p 3 0),(4, .v (.int .i64 (p - q).num.sign))] [bR4 3 107 s1 A1 l1 c1 t1 B1 m1 d1,bR4 2 107 s0 A0 l0 c0 t0 B0 m0 d0] ?_
    refine xe (Zaa (Zan (Zao ?_)))
    refine Zag (v:=.int .i64 (p - q).num.sign) (by kernel_rfl) (fun w' R Q=>?_)
    exact ⟨rfl,R⟩
   ·refine xd 216 [vR4 s1 A1 l1 c1 t1 B1 m1 d1] 17 (fun _:Unit=>.int .i64 1) _ (fun w R Q=>(Za2 _ _ _ Q.1.1.2).mono (fun _ _ h=>Zae h (by rw [hs29]))) (fun xx=>?_)
    refine xf 2 [(2, .p 2 0),(3, .p 3 0),(4, .v (.int .i64 0)),(19, .v (.bool true))] [bR4 3 107 s1 A1 l1 c1 t1 B1 m1 d1,bR4 2 107 s0 A0 l0 c0 t0 B0 m0 d0] ?_
    refine xz (xe (Zaa (xa (Zac (Zab (xr 4 [(2, .p 2 0),(3, .p 3 0),(4, .v (.int .i64 0)),eI2 21 s0 A0 l0 c0,eI2 23 s1 A1 l1 c1] [bR4 3 107 s1 A1 l1 c1 t1 B1 m1 d1,bR4 2 107 s0 A0 l0 c0 t0 B0 m0 d0] ?_))))))
    refine xc 135 [vI2 s0 A0 l0 c0,vI2 s1 A1 l1 c1] 24 (fun _:Unit=>.int .i64 (p - q).num.sign) _ (fun w R Q=>(Za4 _ _ ((p).num) ((q).num) _ Q.1.1.1.1.num Q.1.1.1.2.num (fit S1 (by decide)) (fit S2 (by decide))).mono (fun _ _ h=>Zae h (by rw [Zb6 (p:=p) (q:=q) (by rw [hs28,hs29]; decide)]))) (fun xx=>?_)
    refine xr 1 [(2, .p 2 0),(3, .p 3 0),(4, .v (.int .i64 (p - q).num.sign))] [bR4 3 107 s1 A1 l1 c1 t1 B1 m1 d1,bR4 2 107 s0 A0 l0 c0 t0 B0 m0 d0] ?_
    refine xe (Zaa (Zan (Zao ?_)))
    refine Zag (v:=.int .i64 (p - q).num.sign) (by kernel_rfl) (fun w' R Q=>?_)
    exact ⟨rfl,R⟩
  ·refine xd 216 [vR4 s0 A0 l0 c0 t0 B0 m0 d0] 15 (fun _:Unit=>.int .i64 0) _ (fun w R Q=>(Za2 _ _ _ Q.1.1).mono (fun _ _ h=>Zae h (by rw [hs28]))) (fun xx=>?_)
   refine xf 1 [(2, .p 2 0),(3, .p 3 0),(4, .v (.int .i64 0)),(13, .v (.bool false)),(15, .v (.int .i64 0)),eR4 16 s1 A1 l1 c1 t1 B1 m1 d1] [bR4 3 107 s1 A1 l1 c1 t1 B1 m1 d1,bR4 2 107 s0 A0 l0 c0 t0 B0 m0 d0] ?_
   rcases Zfc (q.num) with ⟨hz34,hs34⟩ | ⟨hz34,hs34⟩ | ⟨hz34,hs34⟩
   ·refine xd 216 [vR4 s1 A1 l1 c1 t1 B1 m1 d1] 17 (fun _:Unit=>.int .i64 (-1)) _ (fun w R Q=>(Za2 _ _ _ Q.1.1.2).mono (fun _ _ h=>Zae h (by rw [hs34]))) (fun xx=>?_)
    refine xf 2 [(2, .p 2 0),(3, .p 3 0),(4, .v (.int .i64 0)),(19, .v (.bool true))] [bR4 3 107 s1 A1 l1 c1 t1 B1 m1 d1,bR4 2 107 s0 A0 l0 c0 t0 B0 m0 d0] ?_
    refine xz (xe (Zaa (xa (Zac (Zab (xr 4 [(2, .p 2 0),(3, .p 3 0),(4, .v (.int .i64 0)),eI2 21 s0 A0 l0 c0,eI2 23 s1 A1 l1 c1] [bR4 3 107 s1 A1 l1 c1 t1 B1 m1 d1,bR4 2 107 s0 A0 l0 c0 t0 B0 m0 d0] ?_))))))
    refine xc 135 [vI2 s0 A0 l0 c0,vI2 s1 A1 l1 c1] 24 (fun _:Unit=>.int .i64 (p - q).num.sign) _ (fun w R Q=>(Za4 _ _ ((p).num) ((q).num) _ Q.1.1.1.1.num Q.1.1.1.2.num (fit S1 (by decide)) (fit S2 (by decide))).mono (fun _ _ h=>Zae h (by rw [Zb6 (p:=p) (q:=q) (by rw [hs28,hs34]; decide)]))) (fun xx=>?_)
    refine xr 1 [(2, .p 2 0),(3, .p 3 0),(4, .v (.int .i64 (p - q).num.sign))] [bR4 3 107 s1 A1 l1 c1 t1 B1 m1 d1,bR4 2 107 s0 A0 l0 c0 t0 B0 m0 d0] ?_
    refine xe (Zaa (Zan (Zao ?_)))
    refine Zag (v:=.int .i64 (p - q).num.sign) (by kernel_rfl) (fun w' R Q=>?_)
    exact ⟨rfl,R⟩
   ·refine xd 216 [vR4 s1 A1 l1 c1 t1 B1 m1 d1] 17 (fun _:Unit=>.int .i64 0) _ (fun w R Q=>(Za2 _ _ _ Q.1.1.2).mono (fun _ _ h=>Zae h (by rw [hs34]))) (fun xx=>?_)
    refine xf 2 [(2, .p 2 0),(3, .p 3 0),(4, .v (.int .i64 0)),(19, .v (.bool false))] [bR4 3 107 s1 A1 l1 c1 t1 B1 m1 d1,bR4 2 107 s0 A0 l0 c0 t0 B0 m0 d0] ?_
    refine xz (xe (Zaa (xb (ZaA (Zaa (Zac ?_))))))
    refine ZaE 12 (by kernel_rfl) (by kernel_rfl) Zaj ?_
    refine xf 3 [(2, .p 2 0),(3, .p 3 0),(4, .v (.int .i64 0)),eI2 26 s0 A0 l0 c0,eR4 27 s1 A1 l1 c1 t1 B1 m1 d1] [bR4 3 107 s1 A1 l1 c1 t1 B1 m1 d1,bR4 2 107 s0 A0 l0 c0 t0 B0 m0 d0] ?_
    refine xd 74 [vR4 s1 A1 l1 c1 t1 B1 m1 d1] 28 Zam _ (fun w R Q=>(Zbg _ (q) _ Q.1.1.1.2).mono (fun _ _=>Zaq)) (fun xx=>?_)
    obtain ⟨s35,A35,l35,c35⟩:=xx
    refine xf 0 [(2, .p 2 0),(3, .p 3 0),(4, .v (.int .i64 0)),eI2 26 s0 A0 l0 c0,eI2 28 s35 A35 l35 c35] [bR4 3 107 s1 A1 l1 c1 t1 B1 m1 d1,bR4 2 107 s0 A0 l0 c0 t0 B0 m0 d0] ?_
    refine xd 89 [vI2 s0 A0 l0 c0,vI2 s35 A35 l35 c35] 29 Zam _ (fun w R Q=>(Zbe _ _ ((p).num) (((q).den:Int)) _ Q.1.1.1.1.1.num Q.2 (fit S1 (by decide)) (fit S4 (by decide)) (Or.inl (Nat.lt_of_le_of_lt S1 (by decide)))).mono (fun _ _=>Zaq)) (fun xx=>?_)
    obtain ⟨s36,A36,l36,c36⟩:=xx
    refine xf 3 [(4, .v (.int .i64 0)),eI2 29 s36 A36 l36 c36,eI2 31 s1 A1 l1 c1,eR4 32 s0 A0 l0 c0 t0 B0 m0 d0] [bR4 3 107 s1 A1 l1 c1 t1 B1 m1 d1,bR4 2 107 s0 A0 l0 c0 t0 B0 m0 d0] ?_
    refine xd 74 [vR4 s0 A0 l0 c0 t0 B0 m0 d0] 33 Zam _ (fun w R Q=>(Zbg _ (p) _ Q.1.1.1.1.1.1).mono (fun _ _=>Zaq)) (fun xx=>?_)
    obtain ⟨s37,A37,l37,c37⟩:=xx
    refine xf 0 [(4, .v (.int .i64 0)),eI2 29 s36 A36 l36 c36,eI2 31 s1 A1 l1 c1,eI2 33 s37 A37 l37 c37] [bR4 3 107 s1 A1 l1 c1 t1 B1 m1 d1,bR4 2 107 s0 A0 l0 c0 t0 B0 m0 d0] ?_
    refine xd 89 [vI2 s1 A1 l1 c1,vI2 s37 A37 l37 c37] 34 Zam _ (fun w R Q=>(Zbe _ _ ((q).num) (((p).den:Int)) _ Q.1.1.1.1.1.1.2.num Q.2 (fit S2 (by decide)) (fit S3 (by decide)) (Or.inl (Nat.lt_of_le_of_lt S2 (by decide)))).mono (fun _ _=>Zaq)) (fun xx=>?_)
    obtain ⟨s38,A38,l38,c38⟩:=xx
    refine xf 0 [(4, .v (.int .i64 0)),eI2 29 s36 A36 l36 c36,eI2 34 s38 A38 l38 c38] [bR4 3 107 s1 A1 l1 c1 t1 B1 m1 d1,bR4 2 107 s0 A0 l0 c0 t0 B0 m0 d0] ?_
    refine xd 135 [vI2 s36 A36 l36 c36,vI2 s38 A38 l38 c38] 35 (fun _:Unit=>.int .i64 (p - q).num.sign) _ (fun w R Q=>(Za4 _ _ (((p).num) * (((q).den:Int))) (((q).num) * (((p).den:Int))) _ Q.1.1.2 Q.2 (fit (wlm S1 S4) (by decide)) (fit (wlm S2 S3) (by decide))).mono (fun _ _ h=>Zae h (by rw [Zc3]))) (fun xx=>?_)
    refine xf 1 [(4, .v (.int .i64 (p - q).num.sign))] [bR4 3 107 s1 A1 l1 c1 t1 B1 m1 d1,bR4 2 107 s0 A0 l0 c0 t0 B0 m0 d0] ?_
    refine xz (xe (Zaa (Zan ?_)))
    refine Zag (v:=.int .i64 (p - q).num.sign) (by kernel_rfl) (fun w' R Q=>?_)
    exact ⟨rfl,R⟩
   ·refine xd 216 [vR4 s1 A1 l1 c1 t1 B1 m1 d1] 17 (fun _:Unit=>.int .i64 1) _ (fun w R Q=>(Za2 _ _ _ Q.1.1.2).mono (fun _ _ h=>Zae h (by rw [hs34]))) (fun xx=>?_)
    refine xf 2 [(2, .p 2 0),(3, .p 3 0),(4, .v (.int .i64 0)),(19, .v (.bool true))] [bR4 3 107 s1 A1 l1 c1 t1 B1 m1 d1,bR4 2 107 s0 A0 l0 c0 t0 B0 m0 d0] ?_
    refine xz (xe (Zaa (xa (Zac (Zab (xr 4 [(2, .p 2 0),(3, .p 3 0),(4, .v (.int .i64 0)),eI2 21 s0 A0 l0 c0,eI2 23 s1 A1 l1 c1] [bR4 3 107 s1 A1 l1 c1 t1 B1 m1 d1,bR4 2 107 s0 A0 l0 c0 t0 B0 m0 d0] ?_))))))
    refine xc 135 [vI2 s0 A0 l0 c0,vI2 s1 A1 l1 c1] 24 (fun _:Unit=>.int .i64 (p - q).num.sign) _ (fun w R Q=>(Za4 _ _ ((p).num) ((q).num) _ Q.1.1.1.1.num Q.1.1.1.2.num (fit S1 (by decide)) (fit S2 (by decide))).mono (fun _ _ h=>Zae h (by rw [Zb6 (p:=p) (q:=q) (by rw [hs28,hs34]; decide)]))) (fun xx=>?_)
    refine xr 1 [(2, .p 2 0),(3, .p 3 0),(4, .v (.int .i64 (p - q).num.sign))] [bR4 3 107 s1 A1 l1 c1 t1 B1 m1 d1,bR4 2 107 s0 A0 l0 c0 t0 B0 m0 d0] ?_
    refine xe (Zaa (Zan (Zao ?_)))
    refine Zag (v:=.int .i64 (p - q).num.sign) (by kernel_rfl) (fun w' R Q=>?_)
    exact ⟨rfl,R⟩
  ·refine xd 216 [vR4 s0 A0 l0 c0 t0 B0 m0 d0] 15 (fun _:Unit=>.int .i64 1) _ (fun w R Q=>(Za2 _ _ _ Q.1.1).mono (fun _ _ h=>Zae h (by rw [hs28]))) (fun xx=>?_)
   refine xf 1 [(2, .p 2 0),(3, .p 3 0),(4, .v (.int .i64 0)),(13, .v (.bool false)),(15, .v (.int .i64 1)),eR4 16 s1 A1 l1 c1 t1 B1 m1 d1] [bR4 3 107 s1 A1 l1 c1 t1 B1 m1 d1,bR4 2 107 s0 A0 l0 c0 t0 B0 m0 d0] ?_
   rcases Zfc (q.num) with ⟨hz39,hs39⟩ | ⟨hz39,hs39⟩ | ⟨hz39,hs39⟩
   ·refine xd 216 [vR4 s1 A1 l1 c1 t1 B1 m1 d1] 17 (fun _:Unit=>.int .i64 (-1)) _ (fun w R Q=>(Za2 _ _ _ Q.1.1.2).mono (fun _ _ h=>Zae h (by rw [hs39]))) (fun xx=>?_)
    refine xf 2 [(2, .p 2 0),(3, .p 3 0),(4, .v (.int .i64 0)),(19, .v (.bool true))] [bR4 3 107 s1 A1 l1 c1 t1 B1 m1 d1,bR4 2 107 s0 A0 l0 c0 t0 B0 m0 d0] ?_
    refine xz (xe (Zaa (xa (Zac (Zab (xr 4 [(2, .p 2 0),(3, .p 3 0),(4, .v (.int .i64 0)),eI2 21 s0 A0 l0 c0,eI2 23 s1 A1 l1 c1] [bR4 3 107 s1 A1 l1 c1 t1 B1 m1 d1,bR4 2 107 s0 A0 l0 c0 t0 B0 m0 d0] ?_))))))
    refine xc 135 [vI2 s0 A0 l0 c0,vI2 s1 A1 l1 c1] 24 (fun _:Unit=>.int .i64 (p - q).num.sign) _ (fun w R Q=>(Za4 _ _ ((p).num) ((q).num) _ Q.1.1.1.1.num Q.1.1.1.2.num (fit S1 (by decide)) (fit S2 (by decide))).mono (fun _ _ h=>Zae h (by rw [Zb6 (p:=p) (q:=q) (by rw [hs28,hs39]; decide)]))) (fun xx=>?_)
    refine xr 1 [(2, .p 2 0),(3, .p 3 0),(4, .v (.int .i64 (p - q).num.sign))] [bR4 3 107 s1 A1 l1 c1 t1 B1 m1 d1,bR4 2 107 s0 A0 l0 c0 t0 B0 m0 d0] ?_
    refine xe (Zaa (Zan (Zao ?_)))
    refine Zag (v:=.int .i64 (p - q).num.sign) (by kernel_rfl) (fun w' R Q=>?_)
    exact ⟨rfl,R⟩
   ·refine xd 216 [vR4 s1 A1 l1 c1 t1 B1 m1 d1] 17 (fun _:Unit=>.int .i64 0) _ (fun w R Q=>(Za2 _ _ _ Q.1.1.2).mono (fun _ _ h=>Zae h (by rw [hs39]))) (fun xx=>?_)
    refine xf 2 [(2, .p 2 0),(3, .p 3 0),(4, .v (.int .i64 0)),(19, .v (.bool true))] [bR4 3 107 s1 A1 l1 c1 t1 B1 m1 d1,bR4 2 107 s0 A0 l0 c0 t0 B0 m0 d0] ?_
    refine xz (xe (Zaa (xa (Zac (Zab (xr 4 [(2, .p 2 0),(3, .p 3 0),(4, .v (.int .i64 0)),eI2 21 s0 A0 l0 c0,eI2 23 s1 A1 l1 c1] [bR4 3 107 s1 A1 l1 c1 t1 B1 m1 d1,bR4 2 107 s0 A0 l0 c0 t0 B0 m0 d0] ?_))))))
    refine xc 135 [vI2 s0 A0 l0 c0,vI2 s1 A1 l1 c1] 24 (fun _:Unit=>.int .i64 (p - q).num.sign) _ (fun w R Q=>(Za4 _ _ ((p).num) ((q).num) _ Q.1.1.1.1.num Q.1.1.1.2.num (fit S1 (by decide)) (fit S2 (by decide))).mono (fun _ _ h=>Zae h (by rw [Zb6 (p:=p) (q:=q) (by rw [hs28,hs39]; decide)]))) (fun xx=>?_)
    refine xr 1 [(2, .p 2 0),(3, .p 3 0),(4, .v (.int .i64 (p - q).num.sign))] [bR4 3 107 s1 A1 l1 c1 t1 B1 m1 d1,bR4 2 107 s0 A0 l0 c0 t0 B0 m0 d0] ?_
    refine xe (Zaa (Zan (Zao ?_)))
    refine Zag (v:=.int .i64 (p - q).num.sign) (by kernel_rfl) (fun w' R Q=>?_)
    exact ⟨rfl,R⟩
   ·refine xd 216 [vR4 s1 A1 l1 c1 t1 B1 m1 d1] 17 (fun _:Unit=>.int .i64 1) _ (fun w R Q=>(Za2 _ _ _ Q.1.1.2).mono (fun _ _ h=>Zae h (by rw [hs39]))) (fun xx=>?_)
    refine xf 2 [(2, .p 2 0),(3, .p 3 0),(4, .v (.int .i64 0)),(19, .v (.bool false))] [bR4 3 107 s1 A1 l1 c1 t1 B1 m1 d1,bR4 2 107 s0 A0 l0 c0 t0 B0 m0 d0] ?_
    refine xz (xe (Zaa (xb (ZaA (Zaa (Zac ?_))))))
    refine ZaE 12 (by kernel_rfl) (by kernel_rfl) Zaj ?_
    refine xf 3 [(2, .p 2 0),(3, .p 3 0),(4, .v (.int .i64 0)),eI2 26 s0 A0 l0 c0,eR4 27 s1 A1 l1 c1 t1 B1 m1 d1] [bR4 3 107 s1 A1 l1 c1 t1 B1 m1 d1,bR4 2 107 s0 A0 l0 c0 t0 B0 m0 d0] ?_
    refine xd 74 [vR4 s1 A1 l1 c1 t1 B1 m1 d1] 28 Zam _ (fun w R Q=>(Zbg _ (q) _ Q.1.1.1.2).mono (fun _ _=>Zaq)) (fun xx=>?_)
    obtain ⟨s40,A40,l40,c40⟩:=xx
    refine xf 0 [(2, .p 2 0),(3, .p 3 0),(4, .v (.int .i64 0)),eI2 26 s0 A0 l0 c0,eI2 28 s40 A40 l40 c40] [bR4 3 107 s1 A1 l1 c1 t1 B1 m1 d1,bR4 2 107 s0 A0 l0 c0 t0 B0 m0 d0] ?_
    refine xd 89 [vI2 s0 A0 l0 c0,vI2 s40 A40 l40 c40] 29 Zam _ (fun w R Q=>(Zbe _ _ ((p).num) (((q).den:Int)) _ Q.1.1.1.1.1.num Q.2 (fit S1 (by decide)) (fit S4 (by decide)) (Or.inl (Nat.lt_of_le_of_lt S1 (by decide)))).mono (fun _ _=>Zaq)) (fun xx=>?_)
    obtain ⟨s41,A41,l41,c41⟩:=xx
    refine xf 3 [(4, .v (.int .i64 0)),eI2 29 s41 A41 l41 c41,eI2 31 s1 A1 l1 c1,eR4 32 s0 A0 l0 c0 t0 B0 m0 d0] [bR4 3 107 s1 A1 l1 c1 t1 B1 m1 d1,bR4 2 107 s0 A0 l0 c0 t0 B0 m0 d0] ?_
    refine xd 74 [vR4 s0 A0 l0 c0 t0 B0 m0 d0] 33 Zam _ (fun w R Q=>(Zbg _ (p) _ Q.1.1.1.1.1.1).mono (fun _ _=>Zaq)) (fun xx=>?_)
    obtain ⟨s42,A42,l42,c42⟩:=xx
    refine xf 0 [(4, .v (.int .i64 0)),eI2 29 s41 A41 l41 c41,eI2 31 s1 A1 l1 c1,eI2 33 s42 A42 l42 c42] [bR4 3 107 s1 A1 l1 c1 t1 B1 m1 d1,bR4 2 107 s0 A0 l0 c0 t0 B0 m0 d0] ?_
    refine xd 89 [vI2 s1 A1 l1 c1,vI2 s42 A42 l42 c42] 34 Zam _ (fun w R Q=>(Zbe _ _ ((q).num) (((p).den:Int)) _ Q.1.1.1.1.1.1.2.num Q.2 (fit S2 (by decide)) (fit S3 (by decide)) (Or.inl (Nat.lt_of_le_of_lt S2 (by decide)))).mono (fun _ _=>Zaq)) (fun xx=>?_)
    obtain ⟨s43,A43,l43,c43⟩:=xx
    refine xf 0 [(4, .v (.int .i64 0)),eI2 29 s41 A41 l41 c41,eI2 34 s43 A43 l43 c43] [bR4 3 107 s1 A1 l1 c1 t1 B1 m1 d1,bR4 2 107 s0 A0 l0 c0 t0 B0 m0 d0] ?_
    refine xd 135 [vI2 s41 A41 l41 c41,vI2 s43 A43 l43 c43] 35 (fun _:Unit=>.int .i64 (p - q).num.sign) _ (fun w R Q=>(Za4 _ _ (((p).num) * (((q).den:Int))) (((q).num) * (((p).den:Int))) _ Q.1.1.2 Q.2 (fit (wlm S1 S4) (by decide)) (fit (wlm S2 S3) (by decide))).mono (fun _ _ h=>Zae h (by rw [Zc3]))) (fun xx=>?_)
    refine xf 1 [(4, .v (.int .i64 (p - q).num.sign))] [bR4 3 107 s1 A1 l1 c1 t1 B1 m1 d1,bR4 2 107 s0 A0 l0 c0 t0 B0 m0 d0] ?_
    refine xz (xe (Zaa (Zan ?_)))
    refine Zag (v:=.int .i64 (p - q).num.sign) (by kernel_rfl) (fun w' R Q=>?_)
    exact ⟨rfl,R⟩
end Go.Proofs.YthlipnahcbcjkaaGreatDoor

namespace Go.Proofs.YthlipnahcbcjkaaGreatDoor
open Go.RowKit
theorem ZgM {l:List UInt8} (hd:l.all Zay=true) (hl:l.length≤570):wl (Zad l)≤30:=by
 rw [ZbA]
 have h1:=Zbw l hd
 obtain ⟨k,hk⟩:∃ k,k=30:=⟨_,rfl⟩
 have h2:10 ^ l.length≤10 ^ (19 * k):=Nat.pow_le_pow_right (by omega) (by omega)
 rw [← hk]
 rw [Nat.pow_mul] at h2
 have h3:(10 ^ 19) ^ k≤W64 ^ k:=Nat.pow_le_pow_left (by rw [Zai]; decide) k
 exact Nat.lt_of_lt_of_le h1 (Nat.le_trans h2 h3)
theorem ZbC.of_len {l:List UInt8} (h:l.length≤570):ZbC l:=by
 refine ⟨h,fun neg num den hs _=>?_⟩
 obtain ⟨d1,d2,d3⟩:=ZbS hs
 have w1:=ZgM d1 (by omega)
 have w2:=ZgM d2 (by omega)
 have hn:(sg neg (Zad num)).natAbs=Zad num:=by unfold sg; split<;>omega
 exact ZcR.words (by rw [hn]; omega) (by rw [Int.natAbs_natCast]; omega)
theorem Zok {l:List UInt8} {q:Rat} (h:ZaI l=some q) (hl:l.length≤570):wl q.num.natAbs≤30∧wl q.den≤30:=by
 unfold ZaI at h
 obtain ⟨⟨neg,num,den,ok⟩,hS⟩:∃ x,ZaP l=x:=⟨_,rfl⟩
 rw [hS] at h
 cases ok with
 | false=>cases h
 | true =>
   obtain ⟨d1,d2,d3⟩:=ZbS hS
   have hn:∀ z,(sg neg z).natAbs=z:=fun z=>by unfold sg; split<;>omega
   have w1:=ZgM d1 (by omega)
   have w2:=ZgM d2 (by omega)
   simp only [] at h
   split at h
   ·injection h with h
    subst h
    refine ⟨?_,?_⟩
    ·show wl (sg neg (Zad num)).natAbs≤30
     rw [hn]; exact w1
    ·show wl 1≤30
     have:wl 1≤1:=Zdh.2 Zeo
     omega
   ·split at h
    ·rename_i hne hg
     injection h with h
     subst h
     have h2:=(ZdZ hS).1 hne
     obtain ⟨e1,e2⟩:=Zed (z:=sg neg (Zad num)) h2 (by rw [hn]; exact hg)
     refine ⟨by rw [e1,hn]; exact w1,?_⟩
     have e3:(mkRat (sg neg (Zad num)) (Zad den)).den=Zad den:=by
      unfold denF at e2
      split at e2<;>omega
     rw [e3]; exact w2
    ·cases h
end Go.Proofs.YthlipnahcbcjkaaGreatDoor

namespace Go.Proofs.YthlipnahcbcjkaaGreatDoor
open Go.RowKit
theorem ZkF:∀ (k u:Nat),1≤k→u < 10 ^ k→Lib.nDigits u≤k
 | 0,_,h,_=>by omega
 | k + 1,u,_,h=>by
   by_cases h0:u < 10
   ·rw [Lib.nDigits_small h0]; omega
   ·rw [Lib.nDigits_big h0]
    have hk:1≤k:=by
     rcases Nat.eq_zero_or_pos k with e | e
     ·subst e; simp at h; omega
     ·exact e
    have h1:u / 10 < 10 ^ k:=by
     rw [Nat.pow_succ] at h
     exact Nat.div_lt_of_lt_mul (by rw [Nat.mul_comm]; exact h)
    have:=ZkF k (u / 10) hk h1
    omega
theorem ZoJ {z:Int} {k:Nat} (hk:1≤k) (h:z.natAbs < 10 ^ k):(Lib.itoa z).length≤k + 1:=by
 have h1:=ZkF k z.natAbs hk h
 have e:0≤z→z.toNat=z.natAbs:=fun h=>by omega
 unfold Lib.itoa
 split
 ·simp only [List.length_cons,Lib.decDigits_length]
  omega
 ·rename_i hz
  rw [Lib.decDigits_length]
  first
   | omega
   | (rw [e (by omega)]; omega)
theorem ZtJ {n k:Nat} (h:wl n≤k):n < 10 ^ (20 * k):=by
 have h1:n < W64 ^ k:=ZbA.1 h
 have h2:W64 ^ k≤(10 ^ 20) ^ k:=Nat.pow_le_pow_left (by rw [Zai]; decide) k
 rw [← Nat.pow_mul] at h2
 omega
theorem Zda (a:Value) (q:Rat) (w:World) (hg:Glob w) (ha:ZaC w a q) (hn:Zbn q.num.natAbs) (hd:Zbn q.den):Calls Tryz.prog 76 #[a] w (RetV w (.string ⟨(Zaf q).toArray⟩)):=by
 by_cases h:q.den=1
 ·have:=Zml a q w hg ha h hn
  unfold Zaf
  rw [if_pos h]; exact this
 ·refine Zm4 a q w hg ha hn hd h ?_
  unfold Zbn at hn
  have h1:=ZtJ (show wl q.num.natAbs≤128 by omega)
  have h2:=ZoJ (z:=q.num) (k:=20 * 128) (by decide) h1
  omega
theorem Zig {l:List UInt8} (h:ZaI l=none):valF l=0:=by unfold valF; rw [h]; rfl
theorem Zey {l:List UInt8} {q:Rat} (h:ZaI l=some q):valF l=q:=by unfold valF; rw [h]; rfl
theorem Zbr {l:List UInt8} (hl:l.length≤570):Zbb (valF l) 30:=by
 cases h:ZaI l with
 | none=>rw [Zig h]; exact ⟨by rw [show (0:Rat).num.natAbs=0 from rfl,Zep]; omega,Nat.le_trans (Zdh.2 (by rw [Zai]; decide)) (by decide)⟩
 | some q=>rw [Zey h]; exact Zok h hl
theorem Zbb.up {q:Rat} {k m:Nat} (h:Zbb q k) (hk:k≤m):Zbb q m:=⟨Nat.le_trans h.1 hk,Nat.le_trans h.2 hk⟩
end Go.Proofs.YthlipnahcbcjkaaGreatDoor

namespace Go.Proofs.YthlipnahcbcjkaaGreatDoor
open Go.RowKit
section
variable {l r a t b:List UInt8} {neg:Bool} {c:UInt8}
end
/-! ### texts of small numbers -/
theorem Zhm {n:Nat} (h:n < 10):Lib.itoa (n:Int)=[UInt8.ofNat (48 + n)]:=by
 unfold Lib.itoa
 rw [if_neg (by omega),Int.toNat_natCast,Lib.decDigits,dif_pos h]
theorem ZlX {n:Nat} (h0:0 < n) (h:n < 10):Lib.itoa (-(n:Int))=[45,UInt8.ofNat (48 + n)]:=by
 rw [Zg6 (by omega),show (-(n:Int)).natAbs=n by omega,ZeY h]; rfl
theorem ZjG {q:Rat} {n:Nat} (h:n < 10) (h1:q.num=(n:Int)) (h2:q.den=1):Zaf q=[UInt8.ofNat (48 + n)]:=by
 unfold Zaf; rw [if_pos h2,h1,Zhm h]
theorem Zqu {q:Rat} {n:Nat} (h0:0 < n) (h:n < 10) (h1:q.num = -(n:Int)) (h2:q.den=1):Zaf q=[45,UInt8.ofNat (48 + n)]:=by
 unfold Zaf; rw [if_pos h2,h1,ZlX h0 h]
theorem Zlr {q:Rat} {n d:Nat} (h:n < 10) (hd:d < 10) (h1:q.num=(n:Int)) (h2:q.den=d) (h3:d≠1):Zaf q=[UInt8.ofNat (48 + n),47,UInt8.ofNat (48 + d)]:=by
 unfold Zaf; rw [h2,if_neg h3,h1,Zhm h,Zhm hd]; rfl
theorem Znt {q:Rat} {n d:Nat} (h0:0 < n) (h:n < 10) (hd:d < 10) (h1:q.num = -(n:Int)) (h2:q.den=d) (h3:d≠1):Zaf q=[45,UInt8.ofNat (48 + n),47,UInt8.ofNat (48 + d)]:=by
 unfold Zaf; rw [h2,if_neg h3,h1,ZlX h0 h,Zhm hd]; rfl
theorem Zd2 {l:List UInt8} {q:Rat} (h:Zaf q=l):valF l=q:=Zey (ZrF.2 h)
theorem t1:Zaf (mkRat 1 1)=[49]:=ZjG (n:=1) (by decide) (by decide) (by decide)
theorem t3:Zaf (mkRat 3 1)=[51]:=ZjG (n:=3) (by decide) (by decide) (by decide)
theorem tm2:Zaf (mkRat (-2) 1)=[45,50]:=Zqu (n:=2) (by decide) (by decide) (by decide) (by decide)
theorem t13:Zaf (mkRat 1 3)=[49,47,51]:=Zlr (n:=1) (d:=3) (by decide) (by decide) (by decide) (by decide) (by decide)
theorem t12:Zaf (mkRat 1 2)=[49,47,50]:=Zlr (n:=1) (d:=2) (by decide) (by decide) (by decide) (by decide) (by decide)
theorem t56:Zaf (mkRat 5 6)=[53,47,54]:=Zlr (n:=5) (d:=6) (by decide) (by decide) (by decide) (by decide) (by decide)
theorem tm23:Zaf (mkRat (-2) 3)=[45,50,47,51]:=Znt (n:=2) (d:=3) (by decide) (by decide) (by decide) (by decide) (by decide) (by decide)
theorem tm32:Zaf (Rat.divInt (-6) 4)=[45,51,47,50]:=Znt (n:=3) (d:=2) (by decide) (by decide) (by decide) (by decide) (by decide) (by decide)
theorem ZtK:Zaf (valF [49] / valF [51])=[49,47,51]:=by
 rw [Zd2 t1,Zd2 t3,show mkRat 1 1 / mkRat 3 1=mkRat 1 3 by decide +kernel,t13]
theorem ZtL:Zaf (valF [49,47,50] + valF [49,47,51])=[53,47,54]:=by
 rw [Zd2 t12,Zd2 t13,show mkRat 1 2 + mkRat 1 3=mkRat 5 6 by decide +kernel,t56]
theorem ZtM:Zaf (valF [45,50,47,51] * valF [51])=[45,50]:=by
 rw [Zd2 tm23,Zd2 t3,show mkRat (-2) 3 * mkRat 3 1=mkRat (-2) 1 by decide +kernel,tm2]
theorem ZtN:(valF [49,47,51] - valF [49,47,50]).num.sign = -1:=by
 rw [Zd2 t12,Zd2 t13]; decide +kernel
theorem Zuf:¬ (valF [51]).num=0:=by rw [Zd2 t3]; decide
end Go.Proofs.YthlipnahcbcjkaaGreatDoor

namespace Go.Proofs.YthlipnahcbcjkaaGreatDoor
open Go.RowKit
section
variable {N:Nat} {S0:Nat→Prop} {w0:World} {s s':St} {Φ Ψ Φ0:World→Prop} {L:Nat→Nat} {a:Act} {w:World} {P:Program} {ops:Array Oper} {Q:Exit→Act→World→Prop} {o:Oper}
theorem Zb8.of {sl:SlL} {bl:BlL} (h:(sl.map (fun q=>s.sl q.1),bl.map (fun q=>s.bl q.1))=(sl.map (fun q=>some q.2),bl.map (fun q=>some q.2))):Zb8 s sl bl:=h
def Zsj (N:Nat) (S0:Nat→Prop) (w0:World) (J:Nat→St→(World→Prop)→Prop) (n:Nat) (a:Act) (w:World):Prop:=∃ n' s' Φ' L',n' < n∧J n' s' Φ'∧Inv N S0 w0 s' Φ' L' a w
theorem ZiH {c:Code} (J:Nat→St→(World→Prop)→Prop) (n0:Nat) (h0:J n0 s Φ)
 (round:∀ n s Φ,J n s Φ→SXc P N S0 w0 (Exit.then (Zsj N S0 w0 J n) Q) c s Φ):SXc P N S0 w0 Q (.loop c) s Φ:=fun L a w hi=>by
 refine wp_loop_ghost (fun n a w=>∃ s Φ L,J n s Φ∧Inv N S0 w0 s Φ L a w) n0 ⟨s,Φ,L,h0,hi⟩ ?_
 rintro n a w ⟨s,Φ,L,hJ,hi⟩
 refine wp_mono (round n s Φ hJ L a w hi) ?_
 intro e a' w' hq
 cases e with
 | normal =>
   obtain ⟨n',s',Φ',L',h1,h2,h3⟩:=hq
   exact ⟨n',h1,s',Φ',L',h2,h3⟩
 | exit id=>exact hq
 | goto l=>exact hq
 | ret=>exact hq
 | panic ch=>exact hq
 | outgrown=>exact hq
theorem Zhn {J:Nat→St→(World→Prop)→Prop} {n:Nat} (n':Nat) (hlt:n' < n) (h:J n' s Φ):SXq N S0 w0 (Exit.then (Zsj N S0 w0 J n) Q .normal) s Φ:=fun _ _ _ hi=>⟨n',s,Φ,_,hlt,h,hi⟩
theorem Znu {x y:Code} (J:St→(World→Prop)→Prop) (h1:SXc P N S0 w0 (Exit.then (fun a w=>∃ s' Φ' L',J s' Φ'∧Inv N S0 w0 s' Φ' L' a w) Q) x s Φ) (h2:∀ s Φ,J s Φ→SXc P N S0 w0 Q y s Φ):SXc P N S0 w0 Q (.seq x y) s Φ:=fun L a w hi=>by
 refine wp_seq (wp_mono (h1 L a w hi) ?_)
 intro e a' w' hq
 cases e with
 | normal =>
   obtain ⟨s',Φ',L',h2',h3⟩:=hq
   exact h2 s' Φ' h2' L' a' w' h3
 | exit id=>exact hq
 | goto l=>exact hq
 | ret=>exact hq
 | panic ch=>exact hq
 | outgrown=>exact hq
theorem Ze2 {J:St→(World→Prop)→Prop} (h:J s Φ):SXq N S0 w0 (Exit.then (fun a w=>∃ s' Φ' L',J s' Φ'∧Inv N S0 w0 s' Φ' L' a w) Q .normal) s Φ:=fun _ _ _ hi=>⟨s,Φ,_,h,hi⟩
theorem ZsV {n i:Nat} (d:Nat) {α:Type} [hα:Nonempty α] (sh:α→Value) (φ:α→World→Prop) (hi:Nat.blt i n=true) (hm:cls (opAt ops i).op=2)
 (hw:s.wantB ops (opAt ops i)=some true) (hn:ZcT (opAt ops i).op=true) (hv:(opAt ops i).op.operands.toList.all s.vB=true) (hd:(opAt ops i).dst=some d) (hN:Nat.blt d N=true)
 (hdo:∀ w,Fr S0 w0 w→Φ w→Does P (opAt ops i) s.rho w (DoR sh φ w)) (K:∀ x,StI P N S0 w0 ops Φ0 Q n (i + 1) (s.put d (.v (sh x))) (fun w=>Φ w∧φ x w)):StI P N S0 w0 ops Φ0 Q n i s Φ:=by
 have hi':i < n:=Nat.le_of_ble_eq_true hi
 unfold StI
 rw [show n - i=(n - (i + 1)) + 1 by omega,List.range'_succ]
 exact .does hα sh φ hm hw hn hv hd (Nat.le_of_ble_eq_true hN) hdo K
end
def Zdf (w:World) (v:Value) (xs:List Nat):Prop:=∃ A c,v=.slice A xs.length c∧xs.length≤c∧Zar .u32 w A xs
theorem Zdf.nrb {S:Nat→Prop} {w w':World} {v:Value} {xs:List Nat} (h:Zdf w v xs) (hS:∀ i,S i→NRB w i) (hF:Fr S w w'):Zdf w' v xs:=by
 obtain ⟨A,c,h1,h2,h3⟩:=h
 exact ⟨A,c,h1,h2,h3.nrb (by decide) hS hF⟩
theorem Zdf.shows {w:World} {A:Option Addr} {l c:Nat} {xs:List Nat} (h:Zdf w (.slice A l c) xs):xs.length=l∧xs.length≤c∧Zar .u32 w A xs:=by
 obtain ⟨A',c',h1,h2,h3⟩:=h
 injection h1 with e1 e2 e3
 subst e1; subst e3
 exact ⟨e2.symm,h2,h3⟩
theorem Zas.row {w:World} {v:Value} {n:Nat} (h:Zas w v n):∃ xs,Zdf w v xs∧Dig W32 xs∧Trim xs∧val W32 xs=n:=by
 obtain ⟨A,xs,c,h1,h2,h3,h4⟩:=h
 exact ⟨xs,⟨A,c,h1,h2,h3⟩,h4⟩
theorem Zls {P:Program} (w:World) (t ty e:TypeId) (k:IntKind) (bytes:Nat) (ht:P.underlying t=some (.slice e))
 (hinfo:(P.info? e).map (fun i=>(i.zero,i.size,i.bytes))=some (some (.int k 0),1,bytes)) (b a:Addr) (n m cap c:Nat) (xs news:List Nat) (hn:xs.length=n) (hm:news.length=m)
 (hB:Zar k w (some b) xs) (hX:Zar k w (some a) news) (hg:cap < n + m) (h63:n + m≤maxLen) (hbytes:(n + m) * bytes≤140737488355328) :
 ∃ g cap' w',(Builtin.append_ #[t,t] ty #[.slice (some b) n cap, .slice (some a) m c]).run P w=.ok (.slice (some ⟨g,0,none⟩) (n + m) cap') w'∧n + m≤cap'∧Own k e w' g (xs ++ news)∧Ext w w':=by
 obtain ⟨i,hi,hz,hs,hby⟩:=info_parts hinfo
 have cells:∀ (zs:List Nat) (d:Addr),Zar k w (some d) zs→∀ j u,(zs.map fun x:Nat=>Value.int k (x:Int))[j]? = some u→w.cell? (d.add j)=some u:=by
  intro zs d hZ j u hu
  rw [List.getElem?_map] at hu
  obtain ⟨x,hx,rfl⟩:=Option.map_eq_some_iff.1 hu
  have hj:j < zs.length:=(List.getElem?_eq_some_iff.1 hx).1
  obtain ⟨b',off,h,_,hc⟩:=hZ.at hj
  injection h with h
  subst h
  rw [hx] at hc
  by_cases e0:j=0
  ·subst e0; simpa [Addr.add] using hc
  ·simpa [Addr.add,e0] using hc
 have hr:=run_append_grow (P:=P) (w:=w) t ty e i (.int k 0) ht hi hz b n cap (xs.map fun x:Nat=>Value.int k (x:Int)) (by rw [hs]; simp [hn]) (cells _ _ hB) a m c (news.map fun x:Nat=>Value.int k (x:Int)) (by rw [hs]; simp [hm]) (cells _ _ hX) hg (by simp only [maxLen] at h63; omega) (growslice_fits (by omega) (by rw [hby]; exact hbytes))
 refine ⟨_,_,_,hr,?_,?_,((Fr.refl _ _).drew).alloc _⟩
 ·exact grownCap_ge _ _ _ _
 ·refine ⟨(Builtin.zeroCells (Value.int k 0).cells (grownCap w (n + m) cap e - (n + m))).toList,fun v hv=>?_,?_⟩
  ·rw [Array.mem_toList_iff] at hv
   simp only [Builtin.zeroCells] at hv
   obtain ⟨j,_,rfl⟩:=Array.mem_map.1 hv
   exact ⟨0,by simp [Value.cells,Nat.mod_one]⟩
  ·rw [show w.heap.size=w.drew.heap.size from rfl,heap_alloc_new]
   simp [Zbf]
theorem Own.row {e:TypeId} {w:World} {g c:Nat} {xs:List Nat} (h:Own .u32 e w g xs) (hc:xs.length≤c):Zdf w (.slice (some ⟨g,0,none⟩) xs.length c) xs:=⟨_,c,rfl,hc,h.shows0⟩
theorem Zmo {P:Program} {o:Oper} {ρ:Operand→Value} {w:World} {x y:Operand} {t e:TypeId} (ho:o.op=.call { callee:=.builtin .append,args:=#[x,y],argTypes:=#[t,t] }) (ht:P.underlying t=some (.slice e))
 (hinfo:(P.info? e).map (fun i=>(i.zero,i.size,i.bytes))=some (some (.int .u32 0),1,4)) {b:Addr} {A:Option Addr} {n m cap c:Nat} (hx:ρ x=.slice (some b) n cap) (hy:ρ y=.slice A m c) {xs news:List Nat}
 (hB:Zdf w (.slice (some b) n cap) xs) (hX:Zdf w (.slice A m c) news) (hg:cap < n + m) (h:n + m≤35184372088832):Does P o ρ w (DoR Zbz (fun z w=>Zdf w (Zbz z) (xs ++ news)) w):=by
 obtain ⟨b1,b2,b3⟩:=hB.shows
 obtain ⟨x1,x2,x3⟩:=hX.shows
 obtain ⟨a,rfl⟩:∃ a,A=some a:=by
  cases news with
  | nil=>simp at x1; omega
  | cons z zs=>obtain ⟨g,off,e,_⟩:=x3.at (i:=0) (by simp); exact ⟨_,e⟩
 obtain ⟨g,cap',w',hr,h1,h2,h3⟩:=Zls (P:=P) w t o.type e .u32 4 ht hinfo b a n m cap c xs news b1 x1 b3 x3 hg (by simp only [maxLen]; omega) (by omega)
 refine Or.inl ⟨.slice (some ⟨g,0,none⟩) (n + m) cap',w',?_,(some ⟨g,0,none⟩,n + m,cap'),rfl,h3,boxn h3 (fun S w'' hS hF=>?_)⟩
 ·simp only [execOp,ho,resolve,invoke,builtin,Sem.run_bind,Sem.run_pure,Result.andThen_ok,List.map_toArray,List.map_cons,List.map_nil,hx,hy,hr]
 ·have:=(h2.row (c:=cap') (by simp; omega)).nrb hS hF
  simpa [Zbz,b1,x1] using this
theorem Zol {P:Program} {o:Oper} {ρ:Operand→Value} {w:World} {l c:Operand} {t e:TypeId} (ho:o.op=Op.makeSlice t l c) (ht:P.underlying t=some (.slice e))
 (hinfo:(P.info? e).map (fun i=>(i.zero,i.size,i.bytes))=some (some (.int .u32 0),1,4)) {kl kc:IntKind} {n:Nat} (hl:ρ l=.int kl n) (hc:ρ c=.int kc n) (h:n≤35184372088832) :
 Does P o ρ w (DoR (fun b:Nat=>.slice (some ⟨b,0,none⟩) n n) (fun b w=>Zdf w (.slice (some ⟨b,0,none⟩) n n) (List.replicate n 0)) w):=by
 have hrun:=run_make_row' (P:=P) t e (.int .u32 0) 4 ht hinfo rfl kl kc n (by omega) (by omega) w
 rw [Zgx] at hrun
 have Q:Ext w (w.alloc (.cells (Zbf .u32 (List.replicate n 0) []) e)):=(Fr.refl _ w).alloc _
 refine Or.inl ⟨.slice (some ⟨w.heap.size,0,none⟩) n n,_,by simp [execOp,ho,hl,hc,hrun,Result.andThen],w.heap.size,rfl,Q,boxn Q (fun S w'' hS hF=>?_)⟩
 have:=((Own.new w e .u32 (List.replicate n 0) []).row (c:=n) (by simp)).nrb hS hF
 simpa using this
end Go.Proofs.YthlipnahcbcjkaaGreatDoor

namespace Go.Proofs.YthlipnahcbcjkaaGreatDoor
open Go.RowKit
theorem ZcP (x:ByteArray):(x.toList == x.toList)=true:=by simp
theorem ZjH (x:Int):(x == x)=true:=by simp
theorem ZkG {P:Program} {ρ:Operand→Value} {w:World} {t e:TypeId} {n sz:Nat} {z:Value} {parts:Array (Nat × Operand)} {cells:Array Value} (ht:P.underlying t=some (.slice e))
 (hinfo:(P.info? e).map (fun i=>(i.zero,i.size))=some (some z,sz)) (hn:Nat.ble (n * sz) 1000=true) (hn0:Nat.beq (n * sz) 0=false)
 (hf:Instr.fill (fun i=>some (i * sz,sz)) ((List.range (n * sz)).map (fun i=>z.cells[i % z.cells.size]!)).toArray (parts.toList.map fun q=>(q.1,ρ q.2))=some cells) :
 (Instr.buildSlice t n (parts.map fun q:Nat × Operand=>(q.1,ρ q.2))).run P w=.ok (.slice (some ⟨w.heap.size,0,none⟩) n n) (w.alloc (.cells cells e)):=by
 obtain ⟨i,hi,h1⟩:=Option.map_eq_some_iff.1 hinfo
 injection h1 with h1 h2
 have hn':=Nat.le_of_ble_eq_true hn
 have hn1:¬ n * sz=0:=fun h=>by rw [h] at hn0; cases hn0
 have hn2:¬ 2 ^ 24 < n * sz:=by omega
 have e1:(Array.range (n * sz)).map (fun i=>z.cells[i % z.cells.size]!)=((List.range (n * sz)).map (fun i=>z.cells[i % z.cells.size]!)).toArray:=by
  apply Array.ext'; simp
 have e2:(parts.map fun q:Nat × Operand=>(q.1,ρ q.2)).toList=parts.toList.map fun q=>(q.1,ρ q.2):=by simp
 unfold Instr.buildSlice
 simp [underlying,ht,sizeOf,typeInfo,hi,h2,zeroValue,h1,hn1,hn2,e1,hf,newRow,newObj,Result.andThen]
 rfl
theorem Zom {P:Program} {o:Oper} {ρ:Operand→Value} {w:World} {t e:TypeId} {n sz:Nat} {z:Value} {parts:Array (Nat × Operand)} {cells:Array Value} (ho:o.op=Op.buildSlice t n parts) (ht:P.underlying t=some (.slice e))
 (hinfo:(P.info? e).map (fun i=>(i.zero,i.size))=some (some z,sz)) (hn:Nat.ble (n * sz) 1000=true) (hn0:Nat.beq (n * sz) 0=false)
 (hf:Instr.fill (fun i=>some (i * sz,sz)) ((List.range (n * sz)).map (fun i=>z.cells[i % z.cells.size]!)).toArray (parts.toList.map fun q=>(q.1,ρ q.2))=some cells) :
 Does P o ρ w (DoR (fun b:Nat=>.slice (some ⟨b,0,none⟩) n n) (fun b w=>Blk e w b cells) w):=by
 have hrun:=ZkG (w:=w) ht hinfo hn hn0 hf
 exact Or.inl ⟨_,_,by simp [execOp,ho,hrun,Result.andThen],w.heap.size,rfl,(Fr.refl _ w).alloc _,fun S hS w'' hF=>(Blk.new w e cells).fr hF (fun h=>by have:=(hS _ h).1; omega)⟩
theorem ZcQ {P:Program} {o:Oper} {ρ:Operand→Value} {w:World} {t:TypeId} {x:Operand} {lo hi:Option Operand} {b r:ByteArray} (l h:Nat) (ho:o.op=Op.slice t x lo hi none) (ht:P.underlying t=some .string) (hx:ρ x=.string b)
 (hl:lo.map ρ=none∧l=0∨lo.map ρ=some (.int .i64 l)) (hh:hi.map ρ=none∧h=b.size∨hi.map ρ=some (.int .i64 h)) (h1:l≤h) (h2:h≤b.size) (hr:b.extract l h=r):(execOp ρ o).run P w=.ok (.value (.string r)) w:=by
 subst hr
 rcases hl with ⟨hl,rfl⟩ | hl<;>rcases hh with ⟨hh,rfl⟩ | hh <;>
  simp [execOp,ho,Instr.sliceAt,Instr.slice,Instr.sliceBounds,Instr.sliceBound,asIntOf,underlying,ht,hx,hl,hh,h1,h2,Result.andThen]
end Go.Proofs.YthlipnahcbcjkaaGreatDoor

namespace Go.Proofs.YthlipnahcbcjkaaGreatDoor
open Go.RowKit
theorem ZsW {w:World} {a:Value} {x:Int} (ha:Zav w a x) (h0:0≤x):∃ A l c,a=.agg #[.bool false, .slice A l c]:=by
 obtain ⟨s,A,l,c,rfl,hN,hz,h⟩:=ha.open
 cases s with
 | false=>exact ⟨A,l,c,rfl⟩
 | true =>
   exfalso
   unfold sg at hz
   simp at hz h
   omega
theorem ZgN:∀ (f x:Nat),x < 2 ^ f→x >>> Lib.bitLenAux f x=0∧Lib.bitLenAux f x≤f
 | 0,x,h=>by
   have:x=0:=by simp at h; omega
   subst this; simp [Lib.bitLenAux]
 | f + 1,x,h=>by
   unfold Lib.bitLenAux
   by_cases h0:x=0
   ·subst h0; simp
   ·rw [if_neg h0]
    obtain ⟨h1,h2⟩:=ZgN f (x / 2) (by rw [Nat.pow_succ] at h; omega)
    refine ⟨?_,by omega⟩
    rw [Nat.shiftRight_add,Nat.shiftRight_succ,Nat.shiftRight_zero]
    exact h1
theorem Zpo {n:Nat} (hn:n < 18446744073709551616):∃ k:Nat,Lib.bitLen n=k∧k≤64∧n >>> k=0:=by
 obtain ⟨h1,h2⟩:=ZgN 64 n (by omega)
 exact ⟨_,rfl,h2,h1⟩
theorem Zpp {P:Program} {o:Oper} {ρ:Operand→Value} {w:World} {t:TypeId} (ho:o.op=Op.buildSlice t 1 #[(0, .const (.int .u64 1))]) (ht:P.underlying t=some (.slice 88))
 (hinfo:(P.info? 88).map (fun i=>(i.zero,i.size))=some (some (.int .u64 0),1)) (hc:ρ (.const (.int .u64 1))=.int .u64 1):Does P o ρ w (DoR Zbz (fun x w=>Zak w (Zbz x) 1) w):=by
 have hrun:=ZkG (n:=1) (P:=P) (ρ:=ρ) (w:=w) (z:=.int .u64 0) (cells:=#[.int .u64 ((1:Nat):Int)]) (parts:=#[(0, .const (.int .u64 1))]) ht hinfo (by decide) (by decide) (by
  show Instr.fill _ _ [(0,ρ (.const (.int .u64 1)))]=_
  rw [hc]; rfl)
 have Q:Ext w (w.alloc (.cells #[.int .u64 ((1:Nat):Int)] 88)):=(Fr.refl _ w).alloc _
 have H:(execOp ρ o).run P w=.ok (.value (.slice (some ⟨w.heap.size,0,none⟩) 1 1)) (w.alloc (.cells #[.int .u64 ((1:Nat):Int)] 88)):=by
  revert hrun
  generalize (#[(0,Operand.const (Value.int .u64 1))]:Array (Nat × Operand))=parts at ho ⊢
  intro hrun
  simp only [execOp,ho,Sem.run_bind,hrun,Result.andThen_ok,Sem.run_pure]
 refine Or.inl ⟨_,_,H,(some ⟨w.heap.size,0,none⟩,1,1),rfl,Q,boxn Q (fun S w'' hS hF=>?_)⟩
 exact (Zak.one w (x:=1) (by omega) (by rw [Zai]; decide)).nrb hS hF
theorem Ze3 {w w':World} {e:Ending} {n:Nat} (h:Zbh w n e w'):Zby Zbz (fun x w=>Zak w (Zbz x) n) w e w':=by
 obtain ⟨v,rfl,h2,Q⟩:=h
 obtain ⟨A,l,c,rfl⟩:=h2.slice
 exact ⟨(A,l,c),rfl,Q,boxn Q (fun S w'' hS hF=>h2.nrb hS hF)⟩
theorem Zav.mag {w:World} {s:Bool} {A:Option Addr} {l c:Nat} {z:Int} (h:Zav w (.agg #[.bool s, .slice A l c]) z):Zak w (.slice A l c) z.natAbs:=by
 obtain ⟨s',u,n,e,hN,_,hz⟩:=h
 injection e with e
 have e1:=congrArg Array.toList e
 injection e1 with e2 e3
 injection e3 with e3 _
 subst e3
 have:z.natAbs=n:=by rw [hz]; split<;>omega
 rw [this]; exact hN
theorem ZsX {w:World} {a:Value} {x:Int} (ha:Zav w a x) (h0:x < 0):∃ A l c,a=.agg #[.bool true, .slice A l c]:=by
 obtain ⟨s,A,l,c,rfl,hN,hz,h⟩:=ha.open
 cases s with
 | true=>exact ⟨A,l,c,rfl⟩
 | false =>
   exfalso
   unfold sg at hz
   simp at hz
   omega
end Go.Proofs.YthlipnahcbcjkaaGreatDoor

namespace Go.Proofs.YthlipnahcbcjkaaGreatDoor
open Go.RowKit
theorem Zpr {w w':World} {e:Ending} {l:List UInt8} (h:ZjI w l e w'):Zby (fun x:Int × Int × Bool=>.tuple #[.agg #[.int .i64 x.1, .int .i64 x.2.1], .bool x.2.2]) (fun x _=>Zbk l x.1 x.2.1 x.2.2) w e w':=by
 obtain ⟨a,b,ok,rfl,hS,Q⟩:=h
 exact ⟨(a,b,ok),rfl,Q,BoxN.pure hS⟩
abbrev ShSp:=Bool × ByteArray × ByteArray × Bool
theorem ZkH {w w':World} {e:Ending} {s:ByteArray} (h:Zjy s w e w'):Zby (fun x:ShSp=>.tuple #[.agg #[.bool x.1, .string x.2.1, .string x.2.2.1], .bool x.2.2.2]) (fun x _=>ZaP (bytes s)=(x.1,bytes x.2.1,bytes x.2.2.1,x.2.2.2)) w e w':=by
 obtain ⟨neg,t,d,ok,rfl,hS,Q⟩:=h
 exact ⟨(neg,t,d,ok),rfl,Q,BoxN.pure hS⟩
theorem ZoK {x:ByteArray} (h:bytes x=[]):(x.toList == (⟨#[]⟩:ByteArray).toList)=true:=by
 rw [Lib.toList_data,Lib.toList_data,show x.data.toList=[] from h]; rfl
theorem ZoL {x:ByteArray} (h:¬ bytes x=[]):(x.toList == (⟨#[]⟩:ByteArray).toList)=false:=by
 rw [Lib.toList_data,Lib.toList_data]
 exact beq_eq_false_iff_ne.2 h
theorem ZlZ {l:List UInt8} {neg:Bool} {t d:List UInt8} (h:ZaP l=(neg,t,d,false)):ZaI l=none:=by unfold ZaI; rw [h]
theorem Zqv {l:List UInt8} {neg:Bool} {t d:List UInt8} (h:ZaP l=(neg,t,d,true)) (hd:d=[]):(ZaI l).isSome=true:=by unfold ZaI; rw [h]; simp [hd]
theorem Zqw {l:List UInt8} {neg:Bool} {t d:List UInt8} (h:ZaP l=(neg,t,d,true)) (hd:¬ d=[]):(ZaI l).isSome=decide (((Int.gcd (Zad t:Int) (Zad d:Int):Nat):Int)=1):=by
 unfold ZaI
 rw [h]
 have e:Int.gcd (Zad t:Int) (Zad d:Int)=Nat.gcd (Zad t) (Zad d):=rfl
 rw [e]
 simp only [if_neg hd]
 by_cases hg:Nat.gcd (Zad t) (Zad d)=1
 ·rw [if_pos hg,hg]; rfl
 ·rw [if_neg hg]; simp; omega
theorem Zps {l:List UInt8} {a b:Int} (h:Zbk l a b true):(ZaI l).isSome=true:=by
 rcases h with ⟨_,q,h,_⟩ | ⟨h,_⟩
 ·rw [h]; rfl
 ·cases h
theorem Zqx (s:ByteArray) (w:World) (hg:Glob w) (hs:(bytes s).length≤570) :
 Calls Tryz.prog 54 #[.string s] w (RetV w (.bool (ZaI (bytes s)).isSome)):=by
 have hs8:s.size≤1099511627776:=by rw [Zah] at hs; omega
 refine ZaB (Φ:=fun w=>Glob w) Tryz.func54 rfl (by kernel_rfl) (fun w' hf=>hg.ext hf) ?_
 refine Zac (Zab (xr 1 [(0, .v (.string s)),(2, .v (.bool false))] [] ?_))
 refine xe (Zaa (Zac (Zac (Zab (xr 1 [(0, .v (.string s)),(2, .v (.bool false)),(8, .v (.string s))] [] ?_)))))
 refine xc 122 [.string s] 9 (fun x:Int × Int × Bool=>.tuple #[.agg #[.int .i64 x.1, .int .i64 x.2.1], .bool x.2.2]) _ (fun w R Q=>(Zfo s _ hs8).mono (fun _ _=>Zpr)) (fun xx=>?_)
 obtain ⟨sa,sb,xok⟩:=xx
 rcases xok with _ | _
 ·refine xr 6 [(0, .v (.string s)),(2, .v (.bool false)),(4, .v (.bool false))] [] ?_
  refine xe (Zaa (Zac (Zab (xr 1 [(0, .v (.string s)),(2, .v (.bool false)),(12, .v (.bool false))] [] ?_))))
  refine xe (Zaa (xb (ZaA (Zaa (Zac (Zab (xr 1 [(2, .v (.bool false)),(14, .v (.string s))] [] ?_)))))))
  refine xc 119 [.string s] 15 (fun x:ShSp=>.tuple #[.agg #[.bool x.1, .string x.2.1, .string x.2.2.1], .bool x.2.2.2]) _ (fun w R Q=>(Zgf s _ hs8).mono (fun _ _=>ZkH)) (fun xx=>?_)
  obtain ⟨xneg,xt,sd,yok⟩:=xx
  rcases yok with _ | _
  ·refine xr 6 [(2, .v (.bool false)),(5, .p 5 0),(6, .v (.bool false))] [(5,158,[.v (.bool xneg), .v (.string xt), .v (.string sd)])] ?_
   refine xe (Zaa (Zac (Zac ?_)))
   refine SXc.know (p:=ZaP (bytes s)=(xneg,bytes xt,bytes sd,false)) (fun w _ Q=>Q.2) (fun HK=>?_)
   refine Zab (xr 7 [(2, .v (.bool false)),(5, .p 5 0),(6, .v (.bool false)),(24, .v (.bool true))] [(5,158,[.v (.bool xneg), .v (.string xt), .v (.string sd)])] ?_)
   refine xe (Zaa (xa (Zac (Zab (xr 2 [(2, .v (.bool false)),(5, .p 5 0)] [(5,158,[.v (.bool xneg), .v (.string xt), .v (.string sd)])] ?_)))))
   refine xe (Zaa (Zan (Zao ?_)))
   refine Zag (v:=.bool false) (by kernel_rfl) (fun w' R Q=>?_)
   exact ⟨by rw [ZlZ HK]; rfl,R⟩
  ·refine xr 6 [(2, .v (.bool false)),(5, .p 5 0),(6, .v (.bool true))] [(5,158,[.v (.bool xneg), .v (.string xt), .v (.string sd)])] ?_
   refine xe (Zaa (Zac (Zac ?_)))
   refine SXc.know (p:=ZaP (bytes s)=(xneg,bytes xt,bytes sd,true)) (fun w _ Q=>Q.2) (fun HK=>?_)
   by_cases hd:bytes sd=[]
   ·refine Zab (xr 6 [(2, .v (.bool false)),(5, .p 5 0),(6, .v (.bool true)),(20, .v (.bool false)),(23, .v (.bool ((sd:ByteArray).toList == (⟨#[]⟩:ByteArray).toList)))] [(5,158,[.v (.bool xneg), .v (.string xt), .v (.string sd)])] ?_)
    rw [ZoK hd]
    refine xr 1 [(2, .v (.bool false)),(5, .p 5 0),(6, .v (.bool true)),(24, .v (.bool true))] [(5,158,[.v (.bool xneg), .v (.string xt), .v (.string sd)])] ?_
    refine xe (Zaa (xa (Zac (Zab (xr 2 [(2, .v (.bool true)),(5, .p 5 0)] [(5,158,[.v (.bool xneg), .v (.string xt), .v (.string sd)])] ?_)))))
    refine xe (Zaa (Zan (Zao ?_)))
    refine Zag (v:=.bool true) (by kernel_rfl) (fun w' R Q=>?_)
    exact ⟨by rw [Zqv HK hd],R⟩
   ·refine Zab (xr 6 [(2, .v (.bool false)),(5, .p 5 0),(6, .v (.bool true)),(20, .v (.bool false)),(23, .v (.bool ((sd:ByteArray).toList == (⟨#[]⟩:ByteArray).toList)))] [(5,158,[.v (.bool xneg), .v (.string xt), .v (.string sd)])] ?_)
    rw [ZoL hd]
    refine xr 1 [(2, .v (.bool false)),(5, .p 5 0),(6, .v (.bool true)),(24, .v (.bool false))] [(5,158,[.v (.bool xneg), .v (.string xt), .v (.string sd)])] ?_
    refine xe (Zaa (xb (ZaA (Zaa (Zac ?_)))))
    obtain ⟨hdigxt,hdigsd,hll⟩:=ZbS HK
    have hprsxt:Zc0 xt.size:=by unfold Zc0; rw [← Zah]; omega
    have hprssd:Zc0 sd.size:=by unfold Zc0; rw [← Zah]; omega
    have hwt:wl ((Zad (bytes xt):Nat):Int).natAbs≤79:=by rw [Int.natAbs_natCast]; exact Nat.le_trans (ZgM hdigxt (by omega)) (by decide)
    have hwd:wl ((Zad (bytes sd):Nat):Int).natAbs≤79:=by rw [Int.natAbs_natCast]; exact Nat.le_trans (ZgM hdigsd (by omega)) (by decide)
    have hft:Fits ((Zad (bytes xt):Nat):Int):=by unfold Fits; omega
    have hfd:Fits ((Zad (bytes sd):Nat):Int):=by unfold Fits; omega
    refine ZaE 9 (by kernel_rfl) (by kernel_rfl) Zaj ?_
    refine xf 2 [(2, .v (.bool false)),(5, .p 5 0),(27, .v (.string xt))] [(5,158,[.v (.bool xneg), .v (.string xt), .v (.string sd)])] ?_
    refine xd 123 [.string xt] 28 Zam _ (fun w R Q=>(ZcO xt _ hdigxt hprsxt).mono (fun _ _=>Zaq)) (fun xx=>?_)
    obtain ⟨s10,A10,l10,c10⟩:=xx
    refine xf 2 [(2, .v (.bool false)),eI2 28 s10 A10 l10 c10,(30, .v (.string sd))] [(5,158,[.v (.bool xneg), .v (.string xt), .v (.string sd)])] ?_
    refine xd 123 [.string sd] 31 Zam _ (fun w R Q=>(ZcO sd _ hdigsd hprssd).mono (fun _ _=>Zaq)) (fun xx=>?_)
    obtain ⟨s11,A11,l11,c11⟩:=xx
    refine xf 0 [(2, .v (.bool false)),eI2 28 s10 A10 l10 c10,eI2 31 s11 A11 l11 c11] [(5,158,[.v (.bool xneg), .v (.string xt), .v (.string sd)])] ?_
    refine xd 90 [vI2 s10 A10 l10 c10,vI2 s11 A11 l11 c11] 32 Zam _ (fun w R Q=>(ZdY _ _ ((Zad (bytes xt):Int)) ((Zad (bytes sd):Int)) _ Q.1.1.1.1 Q.1.2 Q.2 hft hfd (ZcR.words hwt hwd)).mono (fun _ _=>Zaq)) (fun xx=>?_)
    obtain ⟨s12,A12,l12,c12⟩:=xx
    refine xf 0 [(2, .v (.bool false)),eI2 32 s12 A12 l12 c12] [(5,158,[.v (.bool xneg), .v (.string xt), .v (.string sd)])] ?_
    refine xd 124 [vI2 s12 A12 l12 c12] 33 (fun _:Unit=>.bool (decide ((((Int.gcd ((Zad (bytes xt):Int)) ((Zad (bytes sd):Int)):Nat):Int))=1))) _ (fun w R Q=>(Zbq _ (((Int.gcd ((Zad (bytes xt):Int)) ((Zad (bytes sd):Int)):Nat):Int)) _ Q.2).mono (fun _ _ h=>Zae h rfl)) (fun xx=>?_)
    refine xf 1 [(2, .v (.bool (decide ((((Int.gcd ((Zad (bytes xt):Int)) ((Zad (bytes sd):Int)):Nat):Int))=1))))] [(5,158,[.v (.bool xneg), .v (.string xt), .v (.string sd)])] ?_
    refine xz (xe (Zaa (Zan ?_)))
    refine Zag (v:=.bool (decide ((((Int.gcd ((Zad (bytes xt):Int)) ((Zad (bytes sd):Int)):Nat):Int))=1))) (by kernel_rfl) (fun w' R Q=>?_)
    exact ⟨by rw [Zqw HK hd],R⟩
 ·refine xr 6 [(0, .v (.string s)),(2, .v (.bool false)),(4, .v (.bool true))] [] ?_
  refine xe (Zaa (Zac (Zab (xr 1 [(0, .v (.string s)),(2, .v (.bool false)),(12, .v (.bool true))] [] ?_))))
  refine xe (Zaa (xa (Zac (Zab (xr 1 [(0, .v (.string s)),(2, .v (.bool true))] [] ?_)))))
  refine xe (Zaa (Zan (Zao ?_)))
  refine Zag (v:=.bool true) (by kernel_rfl) (fun w' R Q=>?_)
  exact ⟨by rw [Zps Q.2],R⟩
end Go.Proofs.YthlipnahcbcjkaaGreatDoor

namespace Go.Proofs.YthlipnahcbcjkaaGreatDoor
open Go.RowKit Go.Sort
theorem Zik {w wb:World} (h:w.alloc (.cells (Array.replicate 48 (.int .u8 0)) 246)=wb):Room .u8 246 wb w.heap.size 48 (nats []):=by
 subst h
 refine ⟨⟨List.replicate 48 (.int .u8 0),fun v hv=>⟨0,List.eq_of_mem_replicate hv⟩,?_⟩,_,heap_alloc_new w _,by simp⟩
 rw [heap_alloc_new]; rfl
theorem Room.bytes {T:TypeId} {w:World} {b cap:Nat} {l:List UInt8} (h:Room .u8 T w b cap (nats l)):∀ j (hj:j < l.length),w.cell? ((⟨b,0,none⟩:Addr).add j)=some (.int .u8 (l[j].toNat:Int)):=fun j hj=>by
 have:=h.1.cell (i:=j) (by rw [ZaM]; exact hj)
 rw [Lib.add_plain,Nat.zero_add,this]
 simp [nats,hj]
theorem ZkI {z:Int} (h : -4000000000000000000≤z) (h1:z≤4000000000000000000):(Lib.itoa z).length≤20:=by
 have hn:∀ u:Nat,u≤4000000000000000000→Lib.nDigits u≤19:=fun u hu=>by
  rcases Nat.eq_zero_or_pos u with e | e
  ·subst e; rw [Lib.nDigits_small (by omega)]; omega
  ·have h2:=Lib.lt_pow_nDigits u
   rcases Nat.lt_or_ge 19 (Lib.nDigits u) with hlt | hge
   ·exfalso
    have h3:=Lib.nDigits_unique 19 (10 ^ 19)
    have h4:=(Lib.numDigits_eq u e (by omega))
    have:=h4.2
    have h5:=h4.1
    split at h5
    ·rename_i h6
     have h7:Lib.l10 (Lib.bitLen u)=19:=by omega
     rw [h7] at h6
     omega
    ·omega
   ·exact hge
 unfold Lib.itoa
 split
 ·simp only [List.length_cons,Lib.decDigits_length]
  have:=hn z.natAbs (by omega)
  omega
 ·have e:z.toNat=z.natAbs:=by omega
  rw [Lib.decDigits_length]
  have:=hn z.natAbs (by omega)
  first | omega | (rw [e]; omega)
set_option maxHeartbeats 4000000 in
theorem ZjK (N n':Int) (D M G d':Nat) (w:World) (hg:Glob w) (hM:max N (-N)=(M:Int)) (hN : -4000000000000000000≤N) (hN1:N≤4000000000000000000) (hD:2≤D) (hD1:D≤4000000000000000000) (hG:Nat.gcd M D=G) (hG0:1≤G)
 (q1:N.tdiv (G:Int)=n') (q2:(D:Int).tdiv (G:Int)=(d':Int)) (hn : -4000000000000000000≤n') (hn1:n'≤4000000000000000000) (hd:1≤d') (hd1:d'≤4000000000000000000) (t:List UInt8) (ht:t=if d'=1 then Lib.itoa n' else Lib.itoa n' ++ [47] ++ Lib.itoa (d':Int)) :
 Calls Tryz.prog 144 #[.int .i64 N, .int .i64 (D:Int)] w (RetV w (.string ⟨t.toArray⟩)):=by
 have h1:¬ ((D:Int) < 0):=by omega
 have hMb:M≤4000000000000000000:=by omega
 have h2:((D:Int) != 1)=true:=by simp; omega
 have g0:((G:Int) == 0)=false:=by simp; omega
 have g1:¬ (G:Int)=0:=by omega
 have q3:(D:Int) / (G:Int)=(d':Int):=by rw [← q2,Int.tdiv_eq_ediv_of_nonneg (by omega)]
 have HF:=zh (ZdC n' · · (by omega) (by omega))
 have HG:=zh hg
 have HGc:=zh (Zii M D · (by omega) (by omega))
 rw [hG] at HGc
 by_cases e1:d'=1
 ·have HT2:Hid (t=Lib.itoa n'):=by unfold Hid; rw [ht,if_pos e1]
  generalize Lib.itoa n'=t1 at *
  clear hg hG ht
  go_enter Tryz.func144,Tryz.ntmps144
  go_wp2_with (go_at_call 197; refine (HGc.out _).mono ?_; rintro e w1 ⟨rfl,n,rfl⟩)
  go_region
  go_wp2_with fail
  refine (HF.out _ (HG.out.ext ((Fr.refl _ _).drewN n).drew)).mono ?_
  rintro e w2 ⟨rfl,hF⟩
  have HE:Hid (Ext w w2):=((Fr.refl _ w).drewN n).drew.trans hF
  clear hF
  go_wp2
  go_ret
  exact ⟨by rw [HT2.out]; rfl,HE.out⟩
 ·have e2:((d':Int) == 1)=false:=by simp; omega
  have e3:¬ (d':Int)=1:=by omega
  have HT2:Hid (t=Lib.itoa n' ++ [47] ++ Lib.itoa (d':Int)):=by unfold Hid; rw [ht,if_neg e1]
  have hl1:=ZkI hn hn1
  have hl2:=ZkI (z:=(d':Int)) (by omega) (by omega)
  have HA1:=zh (fun b W (hgW:∀ w',Fr (· = b) W w'→Glob w') hB=>Zd4 246 b 48 0 n' [] W rfl hgW (by omega) (by omega) hB (by omega))
  have HA2:=zh (fun b n W l (hnl:l.length=n) (hgW:∀ w',Fr (· = b) W w'→Glob w') hB (h27:n≤27)=>Zd4 246 b 48 n (d':Int) l W hnl hgW (by omega) (by omega) hB (by omega))
  simp only [List.nil_append] at HA1
  generalize Lib.itoa n'=t1 at *
  generalize Lib.itoa (d':Int)=t2 at *
  clear hg hG ht
  go_enter Tryz.func144,Tryz.ntmps144
  go_wp2_with (go_at_call 197; refine (HGc.out _).mono ?_; rintro e w1 ⟨rfl,n,rfl⟩)
  go_region
  have HEr:Hid (Ext w (w.drewN n).drew):=((Fr.refl _ w).drewN n).drew
  generalize (w.drewN n).drew=wr at *
  have hal:Tryz.prog.arrayLen 246=48:=by simp [Program.arrayLen,Tryz.underlying246]
  have hsl:∀ W,(Instr.sliceAt 246 (.pointer (some ⟨wr.heap.size,0,none⟩)) none (some (.int .i64 0)) none).run Tryz.prog W=.ok (.slice (some ⟨wr.heap.size,0,none⟩) 0 48) W:=fun W=>by
   rw [run_sliceAt_array_h W 246 ⟨wr.heap.size,0,none⟩ (by simp [Program.arrayLen,Program.elem,Tryz.underlying246]) .i64 0 (by omega) (by rw [hal]; omega)]
   go_simp
  go_wp2_with fail
  generalize hwb:World.alloc wr _=wb
  have HR:=zh (Zik hwb)
  have HEb:Hid (Ext wr wb):=hwb ▸ (Fr.refl _ _).alloc _
  have HL:Hid (w.heap.size≤wr.heap.size):=HEr.out.size
  clear hwb hal hsl
  generalize wr.heap.size=g at *
  have HGl:Hid (∀ W,Fr (· = g) wb W→Glob W):=fun W hF=>HG.out.ext (((HEr.out.trans HEb.out).mono (fun _ _ h=>h.elim)).next hF (fun i hi e=>by have:=HL.out; omega))
  refine (HA1.out g wb HGl.out HR.out).mono ?_
  rintro e w3 ⟨rfl,hB3,hF3⟩
  have HB3:=zh hB3
  have HF3:=zh hF3
  obtain ⟨k,hk⟩:∃ k,t1.length=k:=⟨_,rfl⟩
  rw [hk] at hl1 ⊢
  have HK:=zh hk
  clear hB3 hF3 hk
  have HS:Hid (Zar .u8 (w3.alloc (.cells #[.int .u8 47] 5)) (some ⟨w3.heap.size,0,none⟩) (nats [47])):=(Own.new w3 5 .u8 [47] []).shows0
  go_wp2_with (at_builtin; refine Hid.out ?_)
  refine zh ?_
  refine Zch rfl _ _ _ rfl _ 246 .u8 1 Tryz.underlying196 Zcz g 48 k 1 1 (some ⟨w3.heap.size,0,none⟩) rfl rfl (nats t1) (nats [47]) (by rw [ZaM]; exact HK.out) rfl (by simp [nats]) (HB3.out.ext ((Fr.refl _ _).alloc _)) HS.out (by omega) ?_
  intro w4 hB4 hF4
  have HF4:Hid (Fr (· = g) wb w4):=HF3.out.trans (((Fr.refl _ _).alloc _).trans hF4)
  have HB4:Hid (Room .u8 246 w4 g 48 (nats (t1 ++ [47]))):=by unfold Hid; rw [ZbF]; exact hB4
  clear hB4 hF4
  go_wp2_with fail
  refine (HA2.out g (k + 1) w4 (t1 ++ [47]) (by rw [List.length_append,HK.out]; rfl) (fun W hF=>HGl.out W (HF4.out.trans hF)) HB4.out (by omega)).mono ?_
  rw [← HT2.out]
  rintro e w5 ⟨rfl,hB5,hF5⟩
  have hc:=Room.bytes hB5
  have hcv:=run_convert_bytes_back (P:=Tryz.prog) w5 196 9 5 ⟨g,0,none⟩ 48 t Tryz.underlying196 Tryz.underlying5 Tryz.underlying9 hc
  have HE:Hid (Ext w w5):=((HEr.out.trans HEb.out)).next (HF4.out.trans hF5) (fun i hi e=>by have:=HL.out; omega)
  clear hB5 hF5 hc
  go_wp2
  go_ret
  exact ⟨rfl,HE.out⟩
set_option maxHeartbeats 4000000 in
theorem Zi0 (N n':Int) (D M G d':Nat) (w:World) (hg:Glob w) (hM:max N (-N)=(M:Int)) (hN : -4000000000000000000≤N) (hN1:N≤4000000000000000000) (hD:2≤D) (hD1:D≤4000000000000000000) (hG:Nat.gcd M D=G) (hG0:1≤G)
 (q1:N.tdiv (G:Int)=n') (q2:(D:Int).tdiv (G:Int)=(d':Int)) (hn : -4000000000000000000≤n') (hn1:n'≤4000000000000000000) (hd:1≤d') (hd1:d'≤4000000000000000000) (t:List UInt8) (ht:t=if d'=1 then Lib.itoa n' else Lib.itoa n' ++ [47] ++ Lib.itoa (d':Int)) :
 Calls Tryz.prog 144 #[.int .i64 (-N), .int .i64 (-(D:Int))] w (RetV w (.string ⟨t.toArray⟩)):=by
 have h1 : -(D:Int) < 0:=by omega
 have hMb:M≤4000000000000000000:=by omega
 have h2:((D:Int) != 1)=true:=by simp; omega
 have g0:((G:Int) == 0)=false:=by simp; omega
 have g1:¬ (G:Int)=0:=by omega
 have q3:(D:Int) / (G:Int)=(d':Int):=by rw [← q2,Int.tdiv_eq_ediv_of_nonneg (by omega)]
 have HF:=zh (ZdC n' · · (by omega) (by omega))
 have HG:=zh hg
 have HGc:=zh (Zii M D · (by omega) (by omega))
 rw [hG] at HGc
 by_cases e1:d'=1
 ·have HT2:Hid (t=Lib.itoa n'):=by unfold Hid; rw [ht,if_pos e1]
  generalize Lib.itoa n'=t1 at *
  clear hg hG ht
  go_enter Tryz.func144,Tryz.ntmps144
  go_wp2_with (go_at_call 197; refine (HGc.out _).mono ?_; rintro e w1 ⟨rfl,n,rfl⟩)
  go_region
  go_wp2_with fail
  refine (HF.out _ (HG.out.ext ((Fr.refl _ _).drewN n).drew)).mono ?_
  rintro e w2 ⟨rfl,hF⟩
  have HE:Hid (Ext w w2):=((Fr.refl _ w).drewN n).drew.trans hF
  clear hF
  go_wp2
  go_ret
  exact ⟨by rw [HT2.out]; rfl,HE.out⟩
 ·have e2:((d':Int) == 1)=false:=by simp; omega
  have e3:¬ (d':Int)=1:=by omega
  have HT2:Hid (t=Lib.itoa n' ++ [47] ++ Lib.itoa (d':Int)):=by unfold Hid; rw [ht,if_neg e1]
  have hl1:=ZkI hn hn1
  have hl2:=ZkI (z:=(d':Int)) (by omega) (by omega)
  have HA1:=zh (fun b W (hgW:∀ w',Fr (· = b) W w'→Glob w') hB=>Zd4 246 b 48 0 n' [] W rfl hgW (by omega) (by omega) hB (by omega))
  have HA2:=zh (fun b n W l (hnl:l.length=n) (hgW:∀ w',Fr (· = b) W w'→Glob w') hB (h27:n≤27)=>Zd4 246 b 48 n (d':Int) l W hnl hgW (by omega) (by omega) hB (by omega))
  simp only [List.nil_append] at HA1
  generalize Lib.itoa n'=t1 at *
  generalize Lib.itoa (d':Int)=t2 at *
  clear hg hG ht
  go_enter Tryz.func144,Tryz.ntmps144
  go_wp2_with (go_at_call 197; refine (HGc.out _).mono ?_; rintro e w1 ⟨rfl,n,rfl⟩)
  go_region
  have HEr:Hid (Ext w (w.drewN n).drew):=((Fr.refl _ w).drewN n).drew
  generalize (w.drewN n).drew=wr at *
  have hal:Tryz.prog.arrayLen 246=48:=by simp [Program.arrayLen,Tryz.underlying246]
  have hsl:∀ W,(Instr.sliceAt 246 (.pointer (some ⟨wr.heap.size,0,none⟩)) none (some (.int .i64 0)) none).run Tryz.prog W=.ok (.slice (some ⟨wr.heap.size,0,none⟩) 0 48) W:=fun W=>by
   rw [run_sliceAt_array_h W 246 ⟨wr.heap.size,0,none⟩ (by simp [Program.arrayLen,Program.elem,Tryz.underlying246]) .i64 0 (by omega) (by rw [hal]; omega)]
   go_simp
  go_wp2_with fail
  generalize hwb:World.alloc wr _=wb
  have HR:=zh (Zik hwb)
  have HEb:Hid (Ext wr wb):=hwb ▸ (Fr.refl _ _).alloc _
  have HL:Hid (w.heap.size≤wr.heap.size):=HEr.out.size
  clear hwb hal hsl
  generalize wr.heap.size=g at *
  have HGl:Hid (∀ W,Fr (· = g) wb W→Glob W):=fun W hF=>HG.out.ext (((HEr.out.trans HEb.out).mono (fun _ _ h=>h.elim)).next hF (fun i hi e=>by have:=HL.out; omega))
  refine (HA1.out g wb HGl.out HR.out).mono ?_
  rintro e w3 ⟨rfl,hB3,hF3⟩
  have HB3:=zh hB3
  have HF3:=zh hF3
  obtain ⟨k,hk⟩:∃ k,t1.length=k:=⟨_,rfl⟩
  rw [hk] at hl1 ⊢
  have HK:=zh hk
  clear hB3 hF3 hk
  have HS:Hid (Zar .u8 (w3.alloc (.cells #[.int .u8 47] 5)) (some ⟨w3.heap.size,0,none⟩) (nats [47])):=(Own.new w3 5 .u8 [47] []).shows0
  go_wp2_with (at_builtin; refine Hid.out ?_)
  refine zh ?_
  refine Zch rfl _ _ _ rfl _ 246 .u8 1 Tryz.underlying196 Zcz g 48 k 1 1 (some ⟨w3.heap.size,0,none⟩) rfl rfl (nats t1) (nats [47]) (by rw [ZaM]; exact HK.out) rfl (by simp [nats]) (HB3.out.ext ((Fr.refl _ _).alloc _)) HS.out (by omega) ?_
  intro w4 hB4 hF4
  have HF4:Hid (Fr (· = g) wb w4):=HF3.out.trans (((Fr.refl _ _).alloc _).trans hF4)
  have HB4:Hid (Room .u8 246 w4 g 48 (nats (t1 ++ [47]))):=by unfold Hid; rw [ZbF]; exact hB4
  clear hB4 hF4
  go_wp2_with fail
  refine (HA2.out g (k + 1) w4 (t1 ++ [47]) (by rw [List.length_append,HK.out]; rfl) (fun W hF=>HGl.out W (HF4.out.trans hF)) HB4.out (by omega)).mono ?_
  rw [← HT2.out]
  rintro e w5 ⟨rfl,hB5,hF5⟩
  have hc:=Room.bytes hB5
  have hcv:=run_convert_bytes_back (P:=Tryz.prog) w5 196 9 5 ⟨g,0,none⟩ 48 t Tryz.underlying196 Tryz.underlying5 Tryz.underlying9 hc
  have HE:Hid (Ext w w5):=((HEr.out.trans HEb.out)).next (HF4.out.trans hF5) (fun i hi e=>by have:=HL.out; omega)
  clear hB5 hF5 hc
  go_wp2
  go_ret
  exact ⟨rfl,HE.out⟩
set_option maxHeartbeats 1000000 in
theorem ZjL (n:Int) (w:World) (hg:Glob w) (h0 : -9223372036854775807≤n) (h1:n≤9223372036854775807) :
 Calls Tryz.prog 144 #[.int .i64 (-n), .int .i64 (-1)] w (RetV w (.string ⟨(Lib.itoa n).toArray⟩)):=by
 have H:=zh (ZdC n w hg (by omega) h1)
 generalize Lib.itoa n=t at *
 clear hg
 go_enter Tryz.func144,Tryz.ntmps144
 go_wp2_with fail
 refine H.out.mono ?_
 rintro e w1 ⟨rfl,hF⟩
 have HF:=zh hF
 clear hF
 go_wp2
 go_ret
 exact ⟨rfl,HF.out⟩
theorem ZdU (N:Int) (D:Nat) (hD:D≠0):(mkRat N D).num=N.tdiv ((Nat.gcd N.natAbs D:Nat):Int)∧(mkRat N D).den=D / Nat.gcd N.natAbs D:=by
 rw [← Rat.normalize_eq_mkRat hD,Rat.normalize_eq]
 exact ⟨(Int.tdiv_eq_ediv_of_dvd (Int.ofNat_dvd_left.2 (Nat.gcd_dvd_left _ _))).symm,rfl⟩
theorem Zfp (N:Int) (D:Nat) (q:Rat) (hN:N.natAbs≤4000000000000000000) (hD:2≤D) (hD1:D≤4000000000000000000) (hq:mkRat N D=q) :
 ∃ (n':Int) (M G d':Nat),max N (-N)=(M:Int)∧Nat.gcd M D=G∧1≤G∧N.tdiv (G:Int)=n'∧(D:Int).tdiv (G:Int)=(d':Int) ∧ -4000000000000000000≤n'∧n'≤4000000000000000000∧1≤d'∧d'≤4000000000000000000∧Zaf q=if d'=1 then Lib.itoa n' else Lib.itoa n' ++ [47] ++ Lib.itoa (d':Int):=by
 obtain ⟨e1,e2⟩:=ZdU N D (by omega)
 have hG:1≤Nat.gcd N.natAbs D:=Nat.gcd_pos_of_pos_right _ (by omega)
 have hd:1≤D / Nat.gcd N.natAbs D:=Nat.div_pos (Nat.le_of_dvd (by omega) (Nat.gcd_dvd_right _ _)) hG
 have hd2:D / Nat.gcd N.natAbs D≤D:=Nat.div_le_self _ _
 have hn:(N.tdiv ((Nat.gcd N.natAbs D:Nat):Int)).natAbs≤N.natAbs:=by rw [Int.natAbs_tdiv]; exact Nat.div_le_self _ _
 refine ⟨_,N.natAbs,_,D / Nat.gcd N.natAbs D,by omega,rfl,hG,rfl,?_,by omega,by omega,hd,by omega,?_⟩
 ·rw [Int.tdiv_eq_ediv_of_nonneg (by omega)]; rfl
 ·rw [← hq]
  unfold Zaf
  rw [e1,e2]
theorem ZeO (N D:Int) (q:Rat) (w:World) (hg:Glob w) (hN:N.natAbs≤4000000000000000000) (hD:D.natAbs≤4000000000000000000) (h0:D≠0) (hq:Rat.divInt N D=q) :
 Calls Tryz.prog 144 #[.int .i64 N, .int .i64 D] w (RetV w (.string ⟨(Zaf q).toArray⟩)):=by
 rcases (by omega:0 < D∨D < 0) with hp | hp
 ·obtain ⟨d,rfl⟩:∃ d:Nat,D=(d:Int):=⟨D.natAbs,by omega⟩
  have hm:mkRat N d=q:=by rw [← hq]; rfl
  by_cases h1:d=1
  ·subst h1
   have e:Zaf q=Lib.itoa N:=by
    rw [← hm]
    unfold Zaf
    have:=ZdU N 1 (by decide)
    simp only [Nat.gcd_one_right] at this
    rw [this.1,this.2]
    simp
   rw [e]
   exact ZkC N w hg (by omega) (by omega)
  ·obtain ⟨n',M,G,d',k1,k2,k3,k4,k5,k6,k7,k8,k9,k10⟩:=Zfp N d q hN (by omega) (by omega) hm
   exact ZjK N n' d M G d' w hg k1 (by omega) (by omega) (by omega) (by omega) k2 k3 k4 k5 k6 k7 k8 k9 _ k10
 ·obtain ⟨d,rfl⟩:∃ d:Nat,D = -(d:Int):=⟨D.natAbs,by omega⟩
  obtain ⟨m,rfl⟩:∃ m:Int,N = -m:=⟨-N,by omega⟩
  have hm:mkRat m d=q:=by rw [← hq,Rat.neg_divInt_neg]; rfl
  by_cases h1:d=1
  ·subst h1
   have e:Zaf q=Lib.itoa m:=by
    rw [← hm]
    unfold Zaf
    have:=ZdU m 1 (by decide)
    simp only [Nat.gcd_one_right] at this
    rw [this.1,this.2]
    simp
   rw [e]
   exact ZjL m w hg (by omega) (by omega)
  ·obtain ⟨n',M,G,d',k1,k2,k3,k4,k5,k6,k7,k8,k9,k10⟩:=Zfp m d q (by omega) (by omega) (by omega) hm
   exact Zi0 m n' d M G d' w hg k1 (by omega) (by omega) (by omega) (by omega) k2 k3 k4 k5 k6 k7 k8 k9 _ k10
end Go.Proofs.YthlipnahcbcjkaaGreatDoor

namespace Go.Proofs.YthlipnahcbcjkaaGreatDoor
open Go.RowKit
set_option maxHeartbeats 1000000 in
theorem ZkJ (a b:Int) (w:World):Calls Tryz.prog 149 #[.int .i64 a, .int .i64 b] w fun e w'=>e=.returned (.int .i64 (cmpI a b))∧w=w':=by
 rcases Int.lt_trichotomy a b with h | h | h
 ·have HC:Hid (cmpI a b = -1):=by unfold Hid cmpI; rw [if_pos h]
  go_enter Tryz.func149,Tryz.ntmps149
  go_wp2
  go_ret
  exact ⟨by rw [HC.out]; rfl,rfl⟩
 ·subst h
  have HC:Hid (cmpI a a=0):=by unfold Hid cmpI; rw [if_neg (by omega),if_neg (by omega)]
  go_enter Tryz.func149,Tryz.ntmps149
  go_wp2
  go_ret
  exact ⟨by rw [HC.out]; rfl,rfl⟩
 ·have HC:Hid (cmpI a b=1):=by unfold Hid cmpI; rw [if_neg (by omega),if_pos h]
  have h':¬ a < b:=by omega
  go_enter Tryz.func149,Tryz.ntmps149
  go_wp2
  go_ret
  exact ⟨by rw [HC.out]; rfl,rfl⟩
end Go.Proofs.YthlipnahcbcjkaaGreatDoor

namespace Go.Proofs.YthlipnahcbcjkaaGreatDoor
open Go.RowKit
abbrev Sh5:=Int × Int × Int × Int × Bool
def ZkK (x:Sh5):Value:=.tuple #[.agg #[.int .i64 x.1, .int .i64 x.2.1], .agg #[.int .i64 x.2.2.1, .int .i64 x.2.2.2.1], .bool x.2.2.2.2]
theorem Zhp {w w':World} {e:Ending} {l l':List UInt8} (h:Zgu w l l' e w'):Zby ZkK (fun x _=>x.2.2.2.2=true→Zbk l x.1 x.2.1 true∧Zbk l' x.2.2.1 x.2.2.2.1 true) w e w':=by
 obtain ⟨a,b,a',b',ok,rfl,hS,Q⟩:=h
 exact ⟨(a,b,a',b',ok),rfl,Q,BoxN.pure hS⟩
theorem Zgk {l l':List UInt8} {a b a' b':Int} (h:Zbk l a b true∧Zbk l' a' b' true) :
 ∃ p q:Rat,valF l=p∧valF l'=q∧p.num=a∧(p.den:Int)=b∧q.num=a'∧(q.den:Int)=b' ∧ -1000000000 < a∧a < 1000000000∧1≤b∧b < 1000000000 ∧ -1000000000 < a'∧a' < 1000000000∧1≤b'∧b' < 1000000000:=by
 obtain ⟨p,h1,h2,h3,h4,h5,h6,h7⟩:=h.1.ok
 obtain ⟨q,k1,k2,k3,k4,k5,k6,k7⟩:=h.2.ok
 exact ⟨p,q,Zey h1,Zey k1,h2,h3,k2,k3,h4,h5,h6,h7,k4,k5,k6,k7⟩
theorem Zc5 {a b:Int} (h1 : -1000000000 < a) (h2:a < 1000000000) (h3 : -1000000000 < b) (h4:b < 1000000000) : -1000000000000000000≤a * b∧a * b≤1000000000000000000:=by
 have ha:a.natAbs≤1000000000:=by omega
 have hb:b.natAbs≤1000000000:=by omega
 have h:=Nat.mul_le_mul ha hb
 rw [← Int.natAbs_mul] at h
 omega
theorem ZdI {x:Int} (h1 : -9223372036854775808≤x) (h2:x≤9223372036854775807):IntKind.i64.wrap x=x:=by
 rw [IntKind.wrap_i64]
 omega
theorem wAdd {l l':List UInt8} {a b a' b':Int} (h:Zbk l a b true∧Zbk l' a' b' true) :
 ∃ N D:Int,IntKind.i64.wrap (IntKind.i64.wrap (a * b') + IntKind.i64.wrap (a' * b))=N∧IntKind.i64.wrap (b * b')=D∧1≤D∧N.natAbs≤4000000000000000000∧D.natAbs≤4000000000000000000∧Rat.divInt N D=valF l + valF l':=by
 obtain ⟨p,q,rfl,rfl,e1,e2,e3,e4,b1,b2,b3,b4,b5,b6,b7,b8⟩:=Zgk h
 have m1:=Zc5 b1 b2 (show -1000000000 < b' by omega) b8
 have m2:=Zc5 b5 b6 (show -1000000000 < b by omega) b4
 have m3:=Zc5 (show -1000000000 < b by omega) b4 (show -1000000000 < b' by omega) b8
 have m4:1≤b * b':=Int.mul_pos (by omega) (by omega)
 refine ⟨_,_,rfl,rfl,?_⟩
 rw [ZdI (x:=a * b') (by omega) (by omega),ZdI (x:=a' * b) (by omega) (by omega),ZdI (x:=b * b') (by omega) (by omega),ZdI (by omega) (by omega)]
 refine ⟨m4,by omega,by omega,?_⟩
 rw [← e1,← e2,← e3,← e4]
 exact Zif _ _
theorem wMul {l l':List UInt8} {a b a' b':Int} (h:Zbk l a b true∧Zbk l' a' b' true) :
 ∃ N D:Int,IntKind.i64.wrap (a * a')=N∧IntKind.i64.wrap (b * b')=D∧1≤D∧N.natAbs≤4000000000000000000∧D.natAbs≤4000000000000000000∧Rat.divInt N D=valF l * valF l':=by
 obtain ⟨p,q,rfl,rfl,e1,e2,e3,e4,b1,b2,b3,b4,b5,b6,b7,b8⟩:=Zgk h
 have m1:=Zc5 b1 b2 b5 b6
 have m3:=Zc5 (show -1000000000 < b by omega) b4 (show -1000000000 < b' by omega) b8
 have m4:1≤b * b':=Int.mul_pos (by omega) (by omega)
 refine ⟨_,_,rfl,rfl,?_⟩
 rw [ZdI (x:=a * a') (by omega) (by omega),ZdI (x:=b * b') (by omega) (by omega)]
 refine ⟨m4,by omega,by omega,?_⟩
 rw [← e1,← e2,← e3,← e4]
 exact Znj _ _
theorem wDiv {l l':List UInt8} {a b a' b':Int} (h:Zbk l a b true∧Zbk l' a' b' true) (h0:a'≠0) :
 ∃ N D:Int,IntKind.i64.wrap (a * b')=N∧IntKind.i64.wrap (b * a')=D∧D≠0∧N.natAbs≤4000000000000000000∧D.natAbs≤4000000000000000000∧Rat.divInt N D=valF l / valF l':=by
 obtain ⟨p,q,rfl,rfl,e1,e2,e3,e4,b1,b2,b3,b4,b5,b6,b7,b8⟩:=Zgk h
 have m1:=Zc5 b1 b2 (show -1000000000 < b' by omega) b8
 have m3:=Zc5 (show -1000000000 < b by omega) b4 b5 b6
 have m4:b * a'≠0:=Int.mul_ne_zero (by omega) h0
 refine ⟨_,_,rfl,rfl,?_⟩
 rw [ZdI (x:=a * b') (by omega) (by omega),ZdI (x:=b * a') (by omega) (by omega)]
 refine ⟨m4,by omega,by omega,?_⟩
 rw [← e1,← e2,← e3,← e4]
 exact Znk _ _
theorem wCmp {l l':List UInt8} {a b a' b':Int} (h:Zbk l a b true∧Zbk l' a' b' true):cmpI (IntKind.i64.wrap (a * b')) (IntKind.i64.wrap (a' * b))=(valF l - valF l').num.sign:=by
 obtain ⟨p,q,rfl,rfl,e1,e2,e3,e4,b1,b2,b3,b4,b5,b6,b7,b8⟩:=Zgk h
 have m1:=Zc5 b1 b2 (show -1000000000 < b' by omega) b8
 have m2:=Zc5 b5 b6 (show -1000000000 < b by omega) b4
 rw [ZdI (x:=a * b') (by omega) (by omega),ZdI (x:=a' * b) (by omega) (by omega),← e1,← e2,← e3,← e4]
 exact Zc3 _ _
theorem ZsY {p q:Rat} (hp:Zbb p 30) (hq:Zbb q 30):Zbn (p + q).num.natAbs∧Zbn (p + q).den:=by
 have e:mkRat (p.num * q.den + q.num * p.den) (p.den * q.den)=p + q:=by rw [← Zif,← Int.natCast_mul]; rfl
 obtain ⟨k1,k2⟩:=ZdU (p.num * q.den + q.num * p.den) (p.den * q.den) (Nat.mul_ne_zero p.den_nz q.den_nz)
 rw [e] at k1 k2
 have h1:=wlq (y:=((Nat.gcd (p.num * q.den + q.num * p.den).natAbs (p.den * q.den):Nat):Int)) (wla (a:=60) (wlm hp.1 (wlc hq.2)) (wlm hq.1 (wlc hp.2)))
 have h2:=Zj0 p.den q.den
 have h3:wl (p.den * q.den)≤60:=by have:=hp.2; have:=hq.2; omega
 have h4:=wld (m:=Nat.gcd (p.num * q.den + q.num * p.den).natAbs (p.den * q.den)) h3
 unfold Zbn
 rw [k1,k2]
 omega
theorem ZoM {p q:Rat} (hp:Zbb p 30) (hq:Zbb q 30):Zbn (p * q).num.natAbs∧Zbn (p * q).den:=by
 obtain ⟨k1,k2⟩:=Zhk p q
 have h1:=wlm (wlq (y:=((Int.gcd p.num q.den:Nat):Int)) hp.1) (wlq (y:=((Int.gcd q.num p.den:Nat):Int)) hq.1)
 have h2:=Zj0 (p.den / Int.gcd q.num p.den) (q.den / Int.gcd p.num q.den)
 have h3:=wld (m:=Int.gcd q.num p.den) hp.2
 have h4:=wld (m:=Int.gcd p.num q.den) hq.2
 unfold Zbn
 rw [k1,k2]
 omega
theorem ZsZ {p q:Rat} (hp:Zbb p 30) (hq:Zbb q 30):Zbn (p / q).num.natAbs∧Zbn (p / q).den:=by
 rw [Rat.div_def]; exact ZoM hp hq.inv
theorem ZrK (s t:ByteArray) (w:World) (hg:Glob w) (hs:(bytes s).length≤570) (ht:(bytes t).length≤570) :
 Calls Tryz.prog 69 #[.string s, .string t] w (RetV w (.string ⟨(Zaf (valF (bytes s) + valF (bytes t))).toArray⟩)):=by
 have hs8:s.size≤1099511627776:=by rw [Zah] at hs; omega
 have ht8:t.size≤1099511627776:=by rw [Zah] at ht; omega
 have fa:=Zbr hs
 have fb:=Zbr ht
 have hP:=ZsY fa fb
 refine ZaB (Φ:=fun w=>Glob w) Tryz.func69 rfl (by kernel_rfl) (fun w' hf=>hg.ext hf) ?_
 refine Zac (Zab (xr 1 [(0, .v (.string s)),(1, .v (.string t)),(4, .v (.string ⟨#[]⟩))] [] ?_))
 refine xe (Zaa (Zac (Zac (Zab (xr 2 [(0, .v (.string s)),(1, .v (.string t)),(4, .v (.string ⟨#[]⟩)),(9, .v (.string s)),(10, .v (.string t))] [] ?_)))))
 refine xc 143 [.string s, .string t] 11 ZkK _ (fun w R Q=>(Zfd s t _ hs8 ht8).mono (fun _ _=>Zhp)) (fun xx=>?_)
 obtain ⟨x10,y10,u10,v10,ok10⟩:=xx
 cases ok10
 ·refine xr 9 [(0, .v (.string s)),(1, .v (.string t)),(4, .v (.string ⟨#[]⟩)),(5, .p 5 0),(6, .p 6 0),(7, .v (.bool false))] [(6,169,[.v (.int .i64 u10), .v (.int .i64 v10)]),(5,169,[.v (.int .i64 x10), .v (.int .i64 y10)])] ?_
  refine xe (Zaa (Zac (Zab (xr 1 [(0, .v (.string s)),(1, .v (.string t)),(4, .v (.string ⟨#[]⟩)),(5, .p 5 0),(6, .p 6 0),(15, .v (.bool false))] [(6,169,[.v (.int .i64 u10), .v (.int .i64 v10)]),(5,169,[.v (.int .i64 x10), .v (.int .i64 y10)])] ?_))))
  refine xe (Zaa (xb (ZaA (Zaa (Zac (Zab (xr 1 [(1, .v (.string t)),(4, .v (.string ⟨#[]⟩)),(33, .v (.string s))] [] ?_)))))))
  refine xc 72 [.string s] 34 ZaJ _ (fun w R Q=>(Zbj s _ Q.1 (ZbC.of_len hs)).mono (fun _ _=>ZaL)) (fun xx=>?_)
  obtain ⟨s11,A11,l11,c11,t11,B11,m11,d11⟩:=xx
  refine xr 1 [(4, .v (.string ⟨#[]⟩)),eR4 34 s11 A11 l11 c11 t11 B11 m11 d11,(35, .v (.string t))] [] ?_
  refine xc 72 [.string t] 36 ZaJ _ (fun w R Q=>(Zbj t _ Q.1.1 (ZbC.of_len ht)).mono (fun _ _=>ZaL)) (fun xx=>?_)
  obtain ⟨s12,A12,l12,c12,t12,B12,m12,d12⟩:=xx
  refine xr 0 [(4, .v (.string ⟨#[]⟩)),eR4 34 s11 A11 l11 c11 t11 B11 m11 d11,eR4 36 s12 A12 l12 c12 t12 B12 m12 d12] [] ?_
  refine xc 147 [vR4 s11 A11 l11 c11 t11 B11 m11 d11,vR4 s12 A12 l12 c12 t12 B12 m12 d12] 37 ZaJ _ (fun w R Q=>(ZrJ _ _ (valF (bytes s)) (valF (bytes t)) _ Q.1.1.1 Q.1.2 Q.2 (fa.up (by decide)) (fb.up (by decide))).mono (fun _ _=>ZaL)) (fun xx=>?_)
  obtain ⟨s13,A13,l13,c13,t13,B13,m13,d13⟩:=xx
  refine xr 0 [(4, .v (.string ⟨#[]⟩)),eR4 37 s13 A13 l13 c13 t13 B13 m13 d13] [] ?_
  refine xc 76 [vR4 s13 A13 l13 c13 t13 B13 m13 d13] 38 (fun _:Unit=>.string ⟨(Zaf (valF (bytes s) + valF (bytes t))).toArray⟩) _ (fun w R Q=>(Zda _ (valF (bytes s) + valF (bytes t)) _ Q.1.1.1.1 Q.2 hP.1 hP.2).mono (fun _ _ h=>Zae h rfl)) (fun xx=>?_)
  refine xr 1 [(4, .v (.string ⟨(Zaf (valF (bytes s) + valF (bytes t))).toArray⟩))] [] ?_
  refine xe (Zaa (Zan ?_))
  refine Zag (v:=.string ⟨(Zaf (valF (bytes s) + valF (bytes t))).toArray⟩) (by kernel_rfl) (fun w' R Q=>?_)
  exact ⟨rfl,R⟩
 ·refine xr 9 [(0, .v (.string s)),(1, .v (.string t)),(4, .v (.string ⟨#[]⟩)),(5, .p 5 0),(6, .p 6 0),(7, .v (.bool true))] [(6,169,[.v (.int .i64 u10), .v (.int .i64 v10)]),(5,169,[.v (.int .i64 x10), .v (.int .i64 y10)])] ?_
  refine xe (Zaa (Zac (Zab (xr 1 [(0, .v (.string s)),(1, .v (.string t)),(4, .v (.string ⟨#[]⟩)),(5, .p 5 0),(6, .p 6 0),(15, .v (.bool true))] [(6,169,[.v (.int .i64 u10), .v (.int .i64 v10)]),(5,169,[.v (.int .i64 x10), .v (.int .i64 y10)])] ?_))))
  refine xe (Zaa (xa (Zac (Zab (xr 16 [(0, .v (.string s)),(1, .v (.string t)),(4, .v (.string ⟨#[]⟩)),(26, .v (.int .i64 (IntKind.i64.wrap ((IntKind.i64.wrap (x10 * v10)) + (IntKind.i64.wrap (u10 * y10)))))),(31, .v (.int .i64 (IntKind.i64.wrap (y10 * v10))))] [] ?_)))))
  refine xc 144 [.int .i64 (IntKind.i64.wrap ((IntKind.i64.wrap (x10 * v10)) + (IntKind.i64.wrap (u10 * y10)))), .int .i64 (IntKind.i64.wrap (y10 * v10))] 32 (fun _:Unit=>.string ⟨(Zaf (valF (bytes s) + valF (bytes t))).toArray⟩) _ (fun w R Q=>by obtain ⟨N,D,e1,e2,d0,n1,n2,e3⟩:=wAdd (Q.2 rfl); rw [e1,e2]; exact (ZeO N D _ _ Q.1 n1 n2 (by omega) e3).mono (fun _ _ h=>Zae h rfl)) (fun xx=>?_)
  refine xr 1 [(0, .v (.string s)),(1, .v (.string t)),(4, .v (.string ⟨(Zaf (valF (bytes s) + valF (bytes t))).toArray⟩))] [] ?_
  refine xe (Zaa (Zan (Zao ?_)))
  refine Zag (v:=.string ⟨(Zaf (valF (bytes s) + valF (bytes t))).toArray⟩) (by kernel_rfl) (fun w' R Q=>?_)
  exact ⟨rfl,R⟩
theorem ZrL (s t:ByteArray) (w:World) (hg:Glob w) (hs:(bytes s).length≤570) (ht:(bytes t).length≤570) :
 Calls Tryz.prog 70 #[.string s, .string t] w (RetV w (.string ⟨(Zaf (valF (bytes s) * valF (bytes t))).toArray⟩)):=by
 have hs8:s.size≤1099511627776:=by rw [Zah] at hs; omega
 have ht8:t.size≤1099511627776:=by rw [Zah] at ht; omega
 have fa:=Zbr hs
 have fb:=Zbr ht
 have hP:=ZoM fa fb
 refine ZaB (Φ:=fun w=>Glob w) Tryz.func70 rfl (by kernel_rfl) (fun w' hf=>hg.ext hf) ?_
 refine Zac (Zab (xr 1 [(0, .v (.string s)),(1, .v (.string t)),(4, .v (.string ⟨#[]⟩))] [] ?_))
 refine xe (Zaa (Zac (Zac (Zab (xr 2 [(0, .v (.string s)),(1, .v (.string t)),(4, .v (.string ⟨#[]⟩)),(9, .v (.string s)),(10, .v (.string t))] [] ?_)))))
 refine xc 143 [.string s, .string t] 11 ZkK _ (fun w R Q=>(Zfd s t _ hs8 ht8).mono (fun _ _=>Zhp)) (fun xx=>?_)
 obtain ⟨x10,y10,u10,v10,ok10⟩:=xx
 cases ok10
 ·refine xr 9 [(0, .v (.string s)),(1, .v (.string t)),(4, .v (.string ⟨#[]⟩)),(5, .p 5 0),(6, .p 6 0),(7, .v (.bool false))] [(6,169,[.v (.int .i64 u10), .v (.int .i64 v10)]),(5,169,[.v (.int .i64 x10), .v (.int .i64 y10)])] ?_
  refine xe (Zaa (Zac (Zab (xr 1 [(0, .v (.string s)),(1, .v (.string t)),(4, .v (.string ⟨#[]⟩)),(5, .p 5 0),(6, .p 6 0),(15, .v (.bool false))] [(6,169,[.v (.int .i64 u10), .v (.int .i64 v10)]),(5,169,[.v (.int .i64 x10), .v (.int .i64 y10)])] ?_))))
  refine xe (Zaa (xb (ZaA (Zaa (Zac (Zab (xr 1 [(1, .v (.string t)),(4, .v (.string ⟨#[]⟩)),(27, .v (.string s))] [] ?_)))))))
  refine xc 72 [.string s] 28 ZaJ _ (fun w R Q=>(Zbj s _ Q.1 (ZbC.of_len hs)).mono (fun _ _=>ZaL)) (fun xx=>?_)
  obtain ⟨s11,A11,l11,c11,t11,B11,m11,d11⟩:=xx
  refine xr 1 [(4, .v (.string ⟨#[]⟩)),eR4 28 s11 A11 l11 c11 t11 B11 m11 d11,(29, .v (.string t))] [] ?_
  refine xc 72 [.string t] 30 ZaJ _ (fun w R Q=>(Zbj t _ Q.1.1 (ZbC.of_len ht)).mono (fun _ _=>ZaL)) (fun xx=>?_)
  obtain ⟨s12,A12,l12,c12,t12,B12,m12,d12⟩:=xx
  refine xr 0 [(4, .v (.string ⟨#[]⟩)),eR4 28 s11 A11 l11 c11 t11 B11 m11 d11,eR4 30 s12 A12 l12 c12 t12 B12 m12 d12] [] ?_
  refine xc 148 [vR4 s11 A11 l11 c11 t11 B11 m11 d11,vR4 s12 A12 l12 c12 t12 B12 m12 d12] 31 ZaJ _ (fun w R Q=>(Znp _ _ (valF (bytes s)) (valF (bytes t)) _ Q.1.1.1 Q.1.2 Q.2 (fa.up (by decide)) (fb.up (by decide))).mono (fun _ _=>ZaL)) (fun xx=>?_)
  obtain ⟨s13,A13,l13,c13,t13,B13,m13,d13⟩:=xx
  refine xr 0 [(4, .v (.string ⟨#[]⟩)),eR4 31 s13 A13 l13 c13 t13 B13 m13 d13] [] ?_
  refine xc 76 [vR4 s13 A13 l13 c13 t13 B13 m13 d13] 32 (fun _:Unit=>.string ⟨(Zaf (valF (bytes s) * valF (bytes t))).toArray⟩) _ (fun w R Q=>(Zda _ (valF (bytes s) * valF (bytes t)) _ Q.1.1.1.1 Q.2 hP.1 hP.2).mono (fun _ _ h=>Zae h rfl)) (fun xx=>?_)
  refine xr 1 [(4, .v (.string ⟨(Zaf (valF (bytes s) * valF (bytes t))).toArray⟩))] [] ?_
  refine xe (Zaa (Zan ?_))
  refine Zag (v:=.string ⟨(Zaf (valF (bytes s) * valF (bytes t))).toArray⟩) (by kernel_rfl) (fun w' R Q=>?_)
  exact ⟨rfl,R⟩
 ·refine xr 9 [(0, .v (.string s)),(1, .v (.string t)),(4, .v (.string ⟨#[]⟩)),(5, .p 5 0),(6, .p 6 0),(7, .v (.bool true))] [(6,169,[.v (.int .i64 u10), .v (.int .i64 v10)]),(5,169,[.v (.int .i64 x10), .v (.int .i64 y10)])] ?_
  refine xe (Zaa (Zac (Zab (xr 1 [(0, .v (.string s)),(1, .v (.string t)),(4, .v (.string ⟨#[]⟩)),(5, .p 5 0),(6, .p 6 0),(15, .v (.bool true))] [(6,169,[.v (.int .i64 u10), .v (.int .i64 v10)]),(5,169,[.v (.int .i64 x10), .v (.int .i64 y10)])] ?_))))
  refine xe (Zaa (xa (Zac (Zab (xr 10 [(0, .v (.string s)),(1, .v (.string t)),(4, .v (.string ⟨#[]⟩)),(20, .v (.int .i64 (IntKind.i64.wrap (x10 * u10)))),(25, .v (.int .i64 (IntKind.i64.wrap (y10 * v10))))] [] ?_)))))
  refine xc 144 [.int .i64 (IntKind.i64.wrap (x10 * u10)), .int .i64 (IntKind.i64.wrap (y10 * v10))] 26 (fun _:Unit=>.string ⟨(Zaf (valF (bytes s) * valF (bytes t))).toArray⟩) _ (fun w R Q=>by obtain ⟨N,D,e1,e2,d0,n1,n2,e3⟩:=wMul (Q.2 rfl); rw [e1,e2]; exact (ZeO N D _ _ Q.1 n1 n2 (by omega) e3).mono (fun _ _ h=>Zae h rfl)) (fun xx=>?_)
  refine xr 1 [(0, .v (.string s)),(1, .v (.string t)),(4, .v (.string ⟨(Zaf (valF (bytes s) * valF (bytes t))).toArray⟩))] [] ?_
  refine xe (Zaa (Zan (Zao ?_)))
  refine Zag (v:=.string ⟨(Zaf (valF (bytes s) * valF (bytes t))).toArray⟩) (by kernel_rfl) (fun w' R Q=>?_)
  exact ⟨rfl,R⟩
theorem Zs0 (s t:ByteArray) (w:World) (hg:Glob w) (hs:(bytes s).length≤570) (ht:(bytes t).length≤570) (h0:¬ (valF (bytes t)).num=0) :
 Calls Tryz.prog 68 #[.string s, .string t] w (RetV w (.tuple #[.string ⟨(Zaf (valF (bytes s) / valF (bytes t))).toArray⟩, .bool true])):=by
 have hs8:s.size≤1099511627776:=by rw [Zah] at hs; omega
 have ht8:t.size≤1099511627776:=by rw [Zah] at ht; omega
 have fa:=Zbr hs
 have fb:=Zbr ht
 have hP:=ZsZ fa fb
 refine ZaB (Φ:=fun w=>Glob w) Tryz.func68 rfl (by kernel_rfl) (fun w' hf=>hg.ext hf) ?_
 refine Zac (Zab (xr 2 [(0, .v (.string s)),(1, .v (.string t)),(4, .v (.string ⟨#[]⟩)),(5, .v (.bool false))] [] ?_))
 refine xe (Zaa (Zac (Zac (Zab (xr 2 [(0, .v (.string s)),(1, .v (.string t)),(4, .v (.string ⟨#[]⟩)),(5, .v (.bool false)),(11, .v (.string s)),(12, .v (.string t))] [] ?_)))))
 refine xc 143 [.string s, .string t] 13 ZkK _ (fun w R Q=>(Zfd s t _ hs8 ht8).mono (fun _ _=>Zhp)) (fun xx=>?_)
 obtain ⟨x10,y10,u10,v10,ok10⟩:=xx
 cases ok10
 ·refine xr 9 [(0, .v (.string s)),(1, .v (.string t)),(4, .v (.string ⟨#[]⟩)),(5, .v (.bool false)),(6, .p 6 0),(7, .p 7 0),(8, .v (.bool false))] [(7,169,[.v (.int .i64 u10), .v (.int .i64 v10)]),(6,169,[.v (.int .i64 x10), .v (.int .i64 y10)])] ?_
  refine xe (Zaa (Zac (Zab (xr 6 [(0, .v (.string s)),(1, .v (.string t)),(4, .v (.string ⟨#[]⟩)),(5, .v (.bool false)),(6, .p 6 0),(7, .p 7 0),(22, .v (.bool false))] [(7,169,[.v (.int .i64 u10), .v (.int .i64 v10)]),(6,169,[.v (.int .i64 x10), .v (.int .i64 y10)])] ?_))))
  refine xe (Zaa (xb (ZaA (Zaa (Zac (Zab (xr 1 [(0, .v (.string s)),(4, .v (.string ⟨#[]⟩)),(5, .v (.bool false)),(34, .v (.string t))] [] ?_)))))))
  refine xc 72 [.string t] 35 ZaJ _ (fun w R Q=>(Zbj t _ Q.1 (ZbC.of_len ht)).mono (fun _ _=>ZaL)) (fun xx=>?_)
  obtain ⟨s11,A11,l11,c11,t11,B11,m11,d11⟩:=xx
  refine xr 2 [(0, .v (.string s)),(4, .v (.string ⟨#[]⟩)),(5, .v (.bool false)),(9, .p 9 0)] [bR4 9 107 s11 A11 l11 c11 t11 B11 m11 d11] ?_
  refine xe (Zaa (Zac (Zac (Zab (xr 1 [(0, .v (.string s)),(4, .v (.string ⟨#[]⟩)),(5, .v (.bool false)),(9, .p 9 0),eR4 36 s11 A11 l11 c11 t11 B11 m11 d11] [bR4 9 107 s11 A11 l11 c11 t11 B11 m11 d11] ?_)))))
  refine xc 145 [vR4 s11 A11 l11 c11 t11 B11 m11 d11] 37 (fun _:Unit=>.bool false) _ (fun w R Q=>(Zje _ (valF (bytes t)) _ Q.2).mono (fun _ _ h=>Zae h (by rw [decide_eq_false h0]))) (fun xx=>?_)
  refine xr 0 [(0, .v (.string s)),(4, .v (.string ⟨#[]⟩)),(5, .v (.bool false)),(9, .p 9 0),(37, .v (.bool false))] [bR4 9 107 s11 A11 l11 c11 t11 B11 m11 d11] ?_
  refine xe (Zaa (xb (ZaA (Zaa (Zac ?_)))))
  refine ZaE 7 (by kernel_rfl) (by kernel_rfl) Zaj ?_
  refine xf 1 [(4, .v (.string ⟨#[]⟩)),(5, .v (.bool false)),(9, .p 9 0),(38, .v (.string s))] [bR4 9 107 s11 A11 l11 c11 t11 B11 m11 d11] ?_
  refine xd 72 [.string s] 39 ZaJ _ (fun w R Q=>(Zbj s _ Q.1.1.1 (ZbC.of_len hs)).mono (fun _ _=>ZaL)) (fun xx=>?_)
  obtain ⟨s12,A12,l12,c12,t12,B12,m12,d12⟩:=xx
  refine xf 1 [(4, .v (.string ⟨#[]⟩)),(5, .v (.bool false)),eR4 39 s12 A12 l12 c12 t12 B12 m12 d12,eR4 40 s11 A11 l11 c11 t11 B11 m11 d11] [bR4 9 107 s11 A11 l11 c11 t11 B11 m11 d11] ?_
  refine xd 146 [vR4 s12 A12 l12 c12 t12 B12 m12 d12,vR4 s11 A11 l11 c11 t11 B11 m11 d11] 41 ZaJ _ (fun w R Q=>(Znr _ _ (valF (bytes s)) (valF (bytes t)) _ Q.1.1.1.1 Q.2 Q.1.1.2 (fa.up (by decide)) (fb.up (by decide))).mono (fun _ _=>ZaL)) (fun xx=>?_)
  obtain ⟨s13,A13,l13,c13,t13,B13,m13,d13⟩:=xx
  refine xf 0 [(4, .v (.string ⟨#[]⟩)),(5, .v (.bool false)),eR4 41 s13 A13 l13 c13 t13 B13 m13 d13] [bR4 9 107 s11 A11 l11 c11 t11 B11 m11 d11] ?_
  refine xd 76 [vR4 s13 A13 l13 c13 t13 B13 m13 d13] 42 (fun _:Unit=>.string ⟨(Zaf (valF (bytes s) / valF (bytes t))).toArray⟩) _ (fun w R Q=>(Zda _ (valF (bytes s) / valF (bytes t)) _ Q.1.1.1.1.1 Q.2 hP.1 hP.2).mono (fun _ _ h=>Zae h rfl)) (fun xx=>?_)
  refine xf 2 [(4, .v (.string ⟨(Zaf (valF (bytes s) / valF (bytes t))).toArray⟩)),(5, .v (.bool true))] [bR4 9 107 s11 A11 l11 c11 t11 B11 m11 d11] ?_
  refine xz (xe (Zaa (Zan ?_)))
  refine Zag (v:=.tuple #[.string ⟨(Zaf (valF (bytes s) / valF (bytes t))).toArray⟩, .bool true]) (by kernel_rfl) (fun w' R Q=>?_)
  exact ⟨rfl,R⟩
 ·refine xr 9 [(0, .v (.string s)),(1, .v (.string t)),(4, .v (.string ⟨#[]⟩)),(5, .v (.bool false)),(6, .p 6 0),(7, .p 7 0),(8, .v (.bool true))] [(7,169,[.v (.int .i64 u10), .v (.int .i64 v10)]),(6,169,[.v (.int .i64 x10), .v (.int .i64 y10)])] ?_
  refine xe (Zaa (Zac (Zab (xr 6 [(0, .v (.string s)),(1, .v (.string t)),(4, .v (.string ⟨#[]⟩)),(5, .v (.bool false)),(6, .p 6 0),(7, .p 7 0),(22, .v (.bool ((u10:Int) != 0)))] [(7,169,[.v (.int .i64 u10), .v (.int .i64 v10)]),(6,169,[.v (.int .i64 x10), .v (.int .i64 y10)])] ?_))))
  refine xe (Zaa ?_)
  refine ZcF (((u10:Int) != 0)) (by kernel_rfl) (fun hb14=>?_) (fun hb14=>?_)
  ·refine Zac (Zab (xr 10 [(0, .v (.string s)),(1, .v (.string t)),(4, .v (.string ⟨#[]⟩)),(5, .v (.bool false)),(27, .v (.int .i64 (IntKind.i64.wrap (x10 * v10)))),(32, .v (.int .i64 (IntKind.i64.wrap (y10 * u10))))] [] ?_))
   refine xc 144 [.int .i64 (IntKind.i64.wrap (x10 * v10)), .int .i64 (IntKind.i64.wrap (y10 * u10))] 33 (fun _:Unit=>.string ⟨(Zaf (valF (bytes s) / valF (bytes t))).toArray⟩) _ (fun w R Q=>by obtain ⟨N,D,e1,e2,d0,n1,n2,e3⟩:=wDiv (Q.2 rfl) (by rw [bne_iff_ne] at hb14; exact hb14); rw [e1,e2]; exact (ZeO N D _ _ Q.1 n1 n2 d0 e3).mono (fun _ _ h=>Zae h rfl)) (fun xx=>?_)
   refine xr 2 [(0, .v (.string s)),(1, .v (.string t)),(4, .v (.string ⟨(Zaf (valF (bytes s) / valF (bytes t))).toArray⟩)),(5, .v (.bool true))] [] ?_
   refine xe (Zaa (Zan (Zao ?_)))
   refine Zag (v:=.tuple #[.string ⟨(Zaf (valF (bytes s) / valF (bytes t))).toArray⟩, .bool true]) (by kernel_rfl) (fun w' R Q=>?_)
   exact ⟨rfl,R⟩
  ·refine ZaA (Zaa (Zac (Zab (xr 1 [(0, .v (.string s)),(4, .v (.string ⟨#[]⟩)),(5, .v (.bool false)),(34, .v (.string t))] [] ?_))))
   refine xc 72 [.string t] 35 ZaJ _ (fun w R Q=>(Zbj t _ Q.1 (ZbC.of_len ht)).mono (fun _ _=>ZaL)) (fun xx=>?_)
   obtain ⟨s15,A15,l15,c15,t15,B15,m15,d15⟩:=xx
   refine xr 2 [(0, .v (.string s)),(4, .v (.string ⟨#[]⟩)),(5, .v (.bool false)),(9, .p 9 0)] [bR4 9 107 s15 A15 l15 c15 t15 B15 m15 d15] ?_
   refine xe (Zaa (Zac (Zac (Zab (xr 1 [(0, .v (.string s)),(4, .v (.string ⟨#[]⟩)),(5, .v (.bool false)),(9, .p 9 0),eR4 36 s15 A15 l15 c15 t15 B15 m15 d15] [bR4 9 107 s15 A15 l15 c15 t15 B15 m15 d15] ?_)))))
   refine xc 145 [vR4 s15 A15 l15 c15 t15 B15 m15 d15] 37 (fun _:Unit=>.bool false) _ (fun w R Q=>(Zje _ (valF (bytes t)) _ Q.2).mono (fun _ _ h=>Zae h (by rw [decide_eq_false h0]))) (fun xx=>?_)
   refine xr 0 [(0, .v (.string s)),(4, .v (.string ⟨#[]⟩)),(5, .v (.bool false)),(9, .p 9 0),(37, .v (.bool false))] [bR4 9 107 s15 A15 l15 c15 t15 B15 m15 d15] ?_
   refine xe (Zaa (xb (ZaA (Zaa (Zac ?_)))))
   refine ZaE 7 (by kernel_rfl) (by kernel_rfl) Zaj ?_
   refine xf 1 [(4, .v (.string ⟨#[]⟩)),(5, .v (.bool false)),(9, .p 9 0),(38, .v (.string s))] [bR4 9 107 s15 A15 l15 c15 t15 B15 m15 d15] ?_
   refine xd 72 [.string s] 39 ZaJ _ (fun w R Q=>(Zbj s _ Q.1.1.1 (ZbC.of_len hs)).mono (fun _ _=>ZaL)) (fun xx=>?_)
   obtain ⟨s16,A16,l16,c16,t16,B16,m16,d16⟩:=xx
   refine xf 1 [(4, .v (.string ⟨#[]⟩)),(5, .v (.bool false)),eR4 39 s16 A16 l16 c16 t16 B16 m16 d16,eR4 40 s15 A15 l15 c15 t15 B15 m15 d15] [bR4 9 107 s15 A15 l15 c15 t15 B15 m15 d15] ?_
   refine xd 146 [vR4 s16 A16 l16 c16 t16 B16 m16 d16,vR4 s15 A15 l15 c15 t15 B15 m15 d15] 41 ZaJ _ (fun w R Q=>(Znr _ _ (valF (bytes s)) (valF (bytes t)) _ Q.1.1.1.1 Q.2 Q.1.1.2 (fa.up (by decide)) (fb.up (by decide))).mono (fun _ _=>ZaL)) (fun xx=>?_)
   obtain ⟨s17,A17,l17,c17,t17,B17,m17,d17⟩:=xx
   refine xf 0 [(4, .v (.string ⟨#[]⟩)),(5, .v (.bool false)),eR4 41 s17 A17 l17 c17 t17 B17 m17 d17] [bR4 9 107 s15 A15 l15 c15 t15 B15 m15 d15] ?_
   refine xd 76 [vR4 s17 A17 l17 c17 t17 B17 m17 d17] 42 (fun _:Unit=>.string ⟨(Zaf (valF (bytes s) / valF (bytes t))).toArray⟩) _ (fun w R Q=>(Zda _ (valF (bytes s) / valF (bytes t)) _ Q.1.1.1.1.1 Q.2 hP.1 hP.2).mono (fun _ _ h=>Zae h rfl)) (fun xx=>?_)
   refine xf 2 [(4, .v (.string ⟨(Zaf (valF (bytes s) / valF (bytes t))).toArray⟩)),(5, .v (.bool true))] [bR4 9 107 s15 A15 l15 c15 t15 B15 m15 d15] ?_
   refine xz (xe (Zaa (Zan ?_)))
   refine Zag (v:=.tuple #[.string ⟨(Zaf (valF (bytes s) / valF (bytes t))).toArray⟩, .bool true]) (by kernel_rfl) (fun w' R Q=>?_)
   exact ⟨rfl,R⟩
theorem Znv (s t:ByteArray) (w:World) (hg:Glob w) (hs:(bytes s).length≤570) (ht:(bytes t).length≤570) :
 Calls Tryz.prog 71 #[.string s, .string t] w (RetV w (.int .i64 (valF (bytes s) - valF (bytes t)).num.sign)):=by
 have hs8:s.size≤1099511627776:=by rw [Zah] at hs; omega
 have ht8:t.size≤1099511627776:=by rw [Zah] at ht; omega
 have fa:=Zbr hs
 have fb:=Zbr ht
 refine ZaB (Φ:=fun w=>Glob w) Tryz.func71 rfl (by kernel_rfl) (fun w' hf=>hg.ext hf) ?_
 refine Zac (Zab (xr 1 [(0, .v (.string s)),(1, .v (.string t)),(4, .v (.int .i64 0))] [] ?_))
 refine xe (Zaa (Zac (Zac (Zab (xr 2 [(0, .v (.string s)),(1, .v (.string t)),(4, .v (.int .i64 0)),(9, .v (.string s)),(10, .v (.string t))] [] ?_)))))
 refine xc 143 [.string s, .string t] 11 ZkK _ (fun w R Q=>(Zfd s t _ hs8 ht8).mono (fun _ _=>Zhp)) (fun xx=>?_)
 obtain ⟨x10,y10,u10,v10,ok10⟩:=xx
 cases ok10
 ·refine xr 9 [(0, .v (.string s)),(1, .v (.string t)),(4, .v (.int .i64 0)),(5, .p 5 0),(6, .p 6 0),(7, .v (.bool false))] [(6,169,[.v (.int .i64 u10), .v (.int .i64 v10)]),(5,169,[.v (.int .i64 x10), .v (.int .i64 y10)])] ?_
  refine xe (Zaa (Zac (Zab (xr 1 [(0, .v (.string s)),(1, .v (.string t)),(4, .v (.int .i64 0)),(5, .p 5 0),(6, .p 6 0),(15, .v (.bool false))] [(6,169,[.v (.int .i64 u10), .v (.int .i64 v10)]),(5,169,[.v (.int .i64 x10), .v (.int .i64 y10)])] ?_))))
  refine xe (Zaa (xb (ZaA (Zaa (Zac (Zab (xr 1 [(1, .v (.string t)),(4, .v (.int .i64 0)),(27, .v (.string s))] [] ?_)))))))
  refine xc 72 [.string s] 28 ZaJ _ (fun w R Q=>(Zbj s _ Q.1 (ZbC.of_len hs)).mono (fun _ _=>ZaL)) (fun xx=>?_)
  obtain ⟨s11,A11,l11,c11,t11,B11,m11,d11⟩:=xx
  refine xr 1 [(4, .v (.int .i64 0)),eR4 28 s11 A11 l11 c11 t11 B11 m11 d11,(29, .v (.string t))] [] ?_
  refine xc 72 [.string t] 30 ZaJ _ (fun w R Q=>(Zbj t _ Q.1.1 (ZbC.of_len ht)).mono (fun _ _=>ZaL)) (fun xx=>?_)
  obtain ⟨s12,A12,l12,c12,t12,B12,m12,d12⟩:=xx
  refine xr 0 [(4, .v (.int .i64 0)),eR4 28 s11 A11 l11 c11 t11 B11 m11 d11,eR4 30 s12 A12 l12 c12 t12 B12 m12 d12] [] ?_
  refine xc 150 [vR4 s11 A11 l11 c11 t11 B11 m11 d11,vR4 s12 A12 l12 c12 t12 B12 m12 d12] 31 (fun _:Unit=>.int .i64 (valF (bytes s) - valF (bytes t)).num.sign) _ (fun w R Q=>(Zns _ _ (valF (bytes s)) (valF (bytes t)) _ Q.1.2 Q.2 (fa.up (by decide)) (fb.up (by decide))).mono (fun _ _ h=>Zae h rfl)) (fun xx=>?_)
  refine xr 1 [(4, .v (.int .i64 (valF (bytes s) - valF (bytes t)).num.sign))] [] ?_
  refine xe (Zaa (Zan ?_))
  refine Zag (v:=.int .i64 (valF (bytes s) - valF (bytes t)).num.sign) (by kernel_rfl) (fun w' R Q=>?_)
  exact ⟨rfl,R⟩
 ·refine xr 9 [(0, .v (.string s)),(1, .v (.string t)),(4, .v (.int .i64 0)),(5, .p 5 0),(6, .p 6 0),(7, .v (.bool true))] [(6,169,[.v (.int .i64 u10), .v (.int .i64 v10)]),(5,169,[.v (.int .i64 x10), .v (.int .i64 y10)])] ?_
  refine xe (Zaa (Zac (Zab (xr 1 [(0, .v (.string s)),(1, .v (.string t)),(4, .v (.int .i64 0)),(5, .p 5 0),(6, .p 6 0),(15, .v (.bool true))] [(6,169,[.v (.int .i64 u10), .v (.int .i64 v10)]),(5,169,[.v (.int .i64 x10), .v (.int .i64 y10)])] ?_))))
  refine xe (Zaa (xa (Zac (Zab (xr 10 [(0, .v (.string s)),(1, .v (.string t)),(4, .v (.int .i64 0)),(20, .v (.int .i64 (IntKind.i64.wrap (x10 * v10)))),(25, .v (.int .i64 (IntKind.i64.wrap (u10 * y10))))] [] ?_)))))
  refine xc 149 [.int .i64 (IntKind.i64.wrap (x10 * v10)), .int .i64 (IntKind.i64.wrap (u10 * y10))] 26 (fun _:Unit=>.int .i64 (valF (bytes s) - valF (bytes t)).num.sign) _ (fun w R Q=>by rw [← wCmp (Q.2 rfl)]; exact (ZkJ _ _ _).mono (fun _ _ h=>Zae (v:=_) ⟨h.1,h.2 ▸ Fr.refl _ _⟩ rfl)) (fun xx=>?_)
  refine xr 1 [(0, .v (.string s)),(1, .v (.string t)),(4, .v (.int .i64 (valF (bytes s) - valF (bytes t)).num.sign))] [] ?_
  refine xe (Zaa (Zan (Zao ?_)))
  refine Zag (v:=.int .i64 (valF (bytes s) - valF (bytes t)).num.sign) (by kernel_rfl) (fun w' R Q=>?_)
  exact ⟨rfl,R⟩
end Go.Proofs.YthlipnahcbcjkaaGreatDoor

namespace Go.Proofs.YthlipnahcbcjkaaGreatDoor
open Go.RowKit
theorem Zqy {l:List UInt8} {q:Rat} {k:Nat} (h:ZaI l=some q) (hl:l.length≤k) (hk:1≤k):q.num.natAbs < 10 ^ k∧q.den < 10 ^ k:=by
 unfold ZaI at h
 obtain ⟨⟨neg,num,den,ok⟩,hS⟩:∃ x,ZaP l=x:=⟨_,rfl⟩
 rw [hS] at h
 cases ok with
 | false=>cases h
 | true =>
   obtain ⟨d1,d2,d3⟩:=ZbS hS
   have hn:∀ z,(sg neg z).natAbs=z:=fun z=>by unfold sg; split<;>omega
   have w1:Zad num < 10 ^ k:=Nat.lt_of_lt_of_le (Zbw num d1) (Nat.pow_le_pow_right (by omega) (by omega))
   have w2:Zad den < 10 ^ k:=Nat.lt_of_lt_of_le (Zbw den d2) (Nat.pow_le_pow_right (by omega) (by omega))
   simp only [] at h
   split at h
   ·injection h with h
    subst h
    refine ⟨?_,?_⟩
    ·show (sg neg (Zad num)).natAbs < 10 ^ k
     rw [hn]; exact w1
    ·show 1 < 10 ^ k
     exact Nat.one_lt_pow (by omega) (by omega)
   ·split at h
    ·rename_i hne hg
     injection h with h
     subst h
     have h2:=(ZdZ hS).1 hne
     obtain ⟨e1,e2⟩:=Zed (z:=sg neg (Zad num)) h2 (by rw [hn]; exact hg)
     refine ⟨by rw [e1,hn]; exact w1,?_⟩
     have e3:(mkRat (sg neg (Zad num)) (Zad den)).den=Zad den:=by
      unfold denF at e2
      split at e2<;>omega
     rw [e3]; exact w2
    ·cases h
theorem Zpt {q:Rat} {n d:Int} (hd:d≠0) (h:Rat.divInt n d=q):q.num * d=n * q.den:=by
 have h1:=(Rat.divInt_eq_divInt_iff (denI q) hd (n₁:=q.num) (n₂:=n)).1 (by rw [Rat.num_divInt_den,h])
 exact h1
end Go.Proofs.YthlipnahcbcjkaaGreatDoor

namespace Go.Proofs.YthlipnahcbcjkaaGreatDoor
open Go.RowKit
theorem Zdb {l:List UInt8} {k:Nat} (hl:l.length≤k) (hk:1≤k):(valF l).num.natAbs < 10 ^ k∧(valF l).den < 10 ^ k:=by
 cases h:ZaI l with
 | none=>rw [Zig h]; exact ⟨Nat.pow_pos (by omega),Nat.one_lt_pow (by omega) (by omega)⟩
 | some q=>rw [Zey h]; exact Zqy h hl hk
theorem ZkL {q:Rat} {n d:Int} {k:Nat} (hd:d≠0) (h:Rat.divInt n d=q) (h1:n.natAbs < 10 ^ k) (h2:d.natAbs < 10 ^ k):q.num.natAbs < 10 ^ k∧q.den < 10 ^ k:=by
 have hc:=Zpt hd h
 have hn:q.num.natAbs * d.natAbs=n.natAbs * q.den:=by
  have:=congrArg Int.natAbs hc
  rwa [Int.natAbs_mul,Int.natAbs_mul,Int.natAbs_natCast] at this
 have hcop:=q.reduced
 have hd1:q.den ∣ d.natAbs:=(Nat.Coprime.symm hcop).dvd_of_dvd_mul_left ⟨n.natAbs,by rw [hn,Nat.mul_comm]⟩
 have hd0:0 < d.natAbs:=by omega
 have hde:=Nat.le_of_dvd hd0 hd1
 refine ⟨?_,by omega⟩
 have hn1:q.num.natAbs ∣ n.natAbs:=hcop.dvd_of_dvd_mul_right ⟨d.natAbs,hn.symm⟩
 rcases Nat.eq_zero_or_pos n.natAbs with e | e
 ·rw [e,Nat.zero_mul] at hn
  rcases Nat.mul_eq_zero.1 hn with e2 | e2
  ·rw [e2]; exact Nat.pow_pos (by omega)
  ·omega
 ·have:=Nat.le_of_dvd e hn1; omega
theorem Zl0 {b:Rat} {n:Nat} (hb:b.num.natAbs < n∧b.den < n):(-b).num.natAbs < n∧(-b).den < n:=by
 rw [Zf1,ZjF,Int.natAbs_neg]; exact hb
section
variable {s t:ByteArray} {p q r:Rat} {w:World}
end
theorem Zpu {n:Int} {a b:ByteArray} (h:[a,b].all (fun s=>decide ((s.size:Int)≤n))=true):((bytes a).length:Int)≤n∧((bytes b).length:Int)≤n:=by
 simp only [List.all_cons,List.all_nil,Bool.and_true,Bool.and_eq_true,decide_eq_true_eq] at h
 rw [Zah,Zah]; exact h
theorem ZtO {n:Int} {e:TypeId} {b:Nat} {x y:ByteArray} {w:World} (hB:Blk e w b #[.string x, .string y]) {r:Bool} (hr:[x,y].all (fun s=>decide ((s.size:Int)≤n))=r) :
 Calls Tryz.prog 20 #[.int .i64 n, .slice (some ⟨b,0,none⟩) 2 2] w (RetV w (.bool r)) :=
 (Zmp n b 2 [x,y] w rfl (by omega) (fun i hi=>by
  rcases (by omega:i=0∨i=1) with e | e<;>subst e<;>rw [hB.cell]<;>rfl) r hr).mono (fun _ _ h=>⟨h.1,h.2 ▸ Fr.refl _ _⟩)
end Go.Proofs.YthlipnahcbcjkaaGreatDoor

namespace Go.Proofs.YthlipnahcbcjkaaGreatDoor
open Go.RowKit
section
variable {w w':World} {e:Ending} {s:ByteArray}
theorem Zpv (h:Zm1 s w e w'):Zby (fun x:ByteArray × Bool=>.tuple #[.string x.1, .bool x.2]) (fun x _=>ZaF (bytes s)=(x.2,bytes x.1)) w e w':=by
 obtain ⟨r,neg,rfl,h,rfl⟩:=h
 exact ⟨(r,neg),rfl,Fr.refl _ _,BoxN.pure h⟩
theorem Znw (h:Zp5 s w e w'):Zby (fun x:ByteArray × ByteArray=>.tuple #[.string x.1, .string x.2]) (fun x _=>bytes x.1=(bytes s).takeWhile Zay∧bytes x.2=(bytes s).dropWhile Zay) w e w':=by
 obtain ⟨t,u,rfl,h1,h2,n,rfl⟩:=h
 exact ⟨(t,u),rfl,(Fr.refl _ _).drewN n,BoxN.pure ⟨h1,h2⟩⟩
end
theorem ZgO {a b:ByteArray} (h:bytes a=bytes b):a=b:=by
 cases a with | mk a=>cases b with | mk b=>simp only [bytes] at h; rw [Array.toList_inj.1 h]
def e4:Nat:=400
theorem ZmC {z:Int} (h:z.natAbs < 10 ^ e4):(-z).natAbs < 10 ^ e4:=by rw [Int.natAbs_neg]; exact h
theorem p4pw (k:Nat) (hk:k=400):10 ^ k≤W64 ^ 30:=by
 obtain ⟨a,rfl,ha⟩:∃ a,k=a + a∧a=200:=⟨200,by omega,rfl⟩
 have h1:10 ^ a≤W64 ^ 15:=by subst ha; rw [Zai]; decide
 rw [Nat.pow_add,show (30:Nat)=15 + 15 from rfl,Nat.pow_add]
 exact Nat.mul_le_mul h1 h1
theorem ZmD {n:Nat} (h:n < 10 ^ e4):wl n≤30:=ZbA.2 (Nat.lt_of_lt_of_le h (p4pw e4 rfl))
theorem p4w {z:Int} (h:z.natAbs < 10 ^ e4):wl z.natAbs≤79:=Nat.le_trans (ZmD h) (by decide)
theorem p4lt {z:Int} (h:z.natAbs < 10 ^ e4):wl z.natAbs < 80:=Nat.lt_of_le_of_lt (ZmD h) (by decide)
theorem Zsk {z:Int} (h:z.natAbs < 10 ^ e4):Fits z:=by have:=ZmD h; unfold Fits; omega
theorem Zsl {x:ByteArray} (h:(bytes x).length≤400):Zc0 x.size:=by unfold Zc0; rw [← Zah]; omega
theorem Zsm {x y:Int} (hy:¬ y=0) (hx:x.natAbs < 10 ^ e4) (h:y.natAbs < 10 ^ e4):Zbn (Rat.divInt x y).num.natAbs∧Zbn (Rat.divInt x y).den:=by
 have e:∀ n:Nat,n < 10 ^ e4→Zbn n:=fun n hn=>by have:=ZmD hn; unfold Zbn; omega
 obtain ⟨h1,h2⟩:=ZkL hy rfl hx h
 exact ⟨e _ h1,e _ h2⟩
end Go.Proofs.YthlipnahcbcjkaaGreatDoor

namespace Go.Proofs.YthlipnahcbcjkaaGreatDoor
open Go.RowKit
theorem Zil {a b:ByteArray} (h:bytes a≠bytes b):(a.toList == b.toList)=false:=by
 rw [Lib.toList_data,Lib.toList_data]; exact beq_eq_false_iff_ne.2 h
theorem ex6:(6:Int).natAbs < 10 ^ e4:=Nat.lt_of_lt_of_le (show 6 < 10 ^ 1 by decide) (Nat.pow_le_pow_right (by omega) (by decide))
theorem ex4:(4:Int).natAbs < 10 ^ e4:=Nat.lt_of_lt_of_le (show 4 < 10 ^ 1 by decide) (Nat.pow_le_pow_right (by omega) (by decide))
theorem ZrM (w:World) (hg:Glob w) :
 Calls Tryz.prog 67 #[.string ⟨#[45,48,54,47,52]⟩] w (RetV w (.tuple #[.string ⟨#[45,51,47,50]⟩, .int .i64 0])):=by
 refine ZaB (Φ:=fun w=>Glob w) Tryz.func67 rfl (by kernel_rfl) (fun w' hf=>hg.ext hf) ?_
 refine Zac (Zab (xr 2 [(0, .v (.string ⟨#[45,48,54,47,52]⟩)),(2, .v (.string ⟨#[]⟩)),(3, .v (.int .i64 0))] [] ?_))
 refine xe (Zaa (Zac (Zac (Zab (xr 3 [(0, .v (.string ⟨#[45,48,54,47,52]⟩)),(2, .v (.string ⟨#[]⟩)),(3, .v (.int .i64 0)),(13, .v (.bool (decide (((⟨#[45,48,54,47,52]⟩:ByteArray).size:Int) > 8192))))] [] ?_)))))
 rw [(show decide (((⟨#[45,48,54,47,52]⟩:ByteArray).size:Int) > 8192)=false from rfl)]
 refine xr 0 [(0, .v (.string ⟨#[45,48,54,47,52]⟩)),(2, .v (.string ⟨#[]⟩)),(3, .v (.int .i64 0)),(13, .v (.bool false))] [] ?_
 refine xe (Zaa (xb (ZaA (Zaa (Zac (Zab (xr 1 [(2, .v (.string ⟨#[]⟩)),(3, .v (.int .i64 0)),(15, .v (.string ⟨#[45,48,54,47,52]⟩))] [] ?_)))))))
 refine xc 138 [.string ⟨#[45,48,54,47,52]⟩, .string ⟨#[45]⟩] 16 (fun x:ByteArray × Bool=>.tuple #[.string x.1, .bool x.2]) _ (fun w R Q=>(Zh2 _ _).mono (fun _ _=>Zpv)) (fun xx=>?_)
 obtain ⟨r,neg⟩:=xx
 refine xr 5 [(2, .v (.string ⟨#[]⟩)),(3, .v (.int .i64 0)),(4, .v (.string r)),(5, .v (.bool neg))] [] ?_
 refine xe (Zaa (Zac ?_))
 refine SXc.know (p:=ZaF [45,48,54,47,52]=(neg,bytes r)) (fun w _ Q=>Q.2) (fun HM=>?_)
 rw [show ZaF [45,48,54,47,52]=(true,[48,54,47,52]) from rfl] at HM
 injection HM with hn hr
 subst hn
 obtain rfl:r=⟨#[48,54,47,52]⟩:=ZgO hr.symm
 refine Zab (xr 1 [(2, .v (.string ⟨#[]⟩)),(3, .v (.int .i64 0)),(4, .v (.string ⟨#[48,54,47,52]⟩)),(5, .v (.bool true)),(20, .v (.string ⟨#[48,54,47,52]⟩))] [] ?_)
 refine xc 139 [.string ⟨#[48,54,47,52]⟩] 21 (fun x:ByteArray × ByteArray=>.tuple #[.string x.1, .string x.2]) _ (fun w R Q=>(Zei ⟨#[48,54,47,52]⟩ _ (by decide)).mono (fun _ _=>Znw)) (fun xx=>?_)
 obtain ⟨t,u⟩:=xx
 refine xr 5 [(2, .v (.string ⟨#[]⟩)),(3, .v (.int .i64 0)),(4, .v (.string u)),(5, .v (.bool true)),(6, .v (.string t))] [] ?_
 refine xe (Zaa (Zac ?_))
 refine SXc.know (p:=bytes t=[48,54,47,52].takeWhile Zay∧bytes u=[48,54,47,52].dropWhile Zay) (fun w _ Q=>Q.2) (fun HC=>?_)
 obtain rfl:t=⟨#[48,54]⟩:=ZgO HC.1
 obtain rfl:u=⟨#[47,52]⟩:=ZgO HC.2
 refine Zab (xr 2 [(2, .v (.string ⟨#[]⟩)),(3, .v (.int .i64 0)),(4, .v (.string ⟨#[47,52]⟩)),(5, .v (.bool true)),(6, .v (.string ⟨#[48,54]⟩)),(7, .v (.string ⟨#[]⟩)),(8, .v (.string ⟨#[]⟩))] [] ?_)
 refine xe (Zaa (Zac (Zac (Zab (xr 2 [(2, .v (.string ⟨#[]⟩)),(3, .v (.int .i64 0)),(4, .v (.string ⟨#[47,52]⟩)),(5, .v (.bool true)),(6, .v (.string ⟨#[48,54]⟩)),(7, .v (.string ⟨#[]⟩)),(8, .v (.string ⟨#[]⟩)),(25, .v (.bool (!((⟨#[47,52]⟩:ByteArray).toList == (⟨#[]⟩:ByteArray).toList))))] [] ?_)))))
 rw [(show ((⟨#[47,52]⟩:ByteArray).toList == (⟨#[]⟩:ByteArray).toList)=false from Zil (by decide)),Bool.not_false]
 refine xr 0 [(2, .v (.string ⟨#[]⟩)),(3, .v (.int .i64 0)),(4, .v (.string ⟨#[47,52]⟩)),(5, .v (.bool true)),(6, .v (.string ⟨#[48,54]⟩)),(7, .v (.string ⟨#[]⟩)),(8, .v (.string ⟨#[]⟩)),(25, .v (.bool true))] [] ?_
 refine xe (Zaa (xa (Zac (Zab (xr 1 [(2, .v (.string ⟨#[]⟩)),(3, .v (.int .i64 0)),(4, .v (.string ⟨#[47,52]⟩)),(5, .v (.bool true)),(6, .v (.string ⟨#[48,54]⟩)),(7, .v (.string ⟨#[]⟩)),(8, .v (.string ⟨#[]⟩)),(26, .v (.string ⟨#[47,52]⟩))] [] ?_)))))
 refine Zb9 27 (.string ⟨#[47]⟩) (by kernel_rfl) (by kernel_rfl) (by kernel_rfl) (by kernel_rfl) (by kernel_rfl) (by kernel_rfl) (fun w R Q=>ZcQ 0 1 (t:=9) (x:=(Operand.tmp 26)) (lo:=none) (hi:=(some (Operand.const (Value.int IntKind.i64 1)))) (by kernel_rfl) (by kernel_rfl) (by kernel_rfl) (Or.inl ⟨rfl,rfl⟩) (Or.inr rfl) (by decide) (show 1≤(⟨#[47,52]⟩:ByteArray).size by decide) (show (⟨#[47,52]⟩:ByteArray).extract 0 1=⟨#[47]⟩ from rfl)) ?_
 refine xr 1 [(2, .v (.string ⟨#[]⟩)),(3, .v (.int .i64 0)),(4, .v (.string ⟨#[47,52]⟩)),(5, .v (.bool true)),(6, .v (.string ⟨#[48,54]⟩)),(7, .v (.string ⟨#[47]⟩)),(8, .v (.string ⟨#[]⟩))] [] ?_
 refine xe (Zaa (Zab (xr 1 [(2, .v (.string ⟨#[]⟩)),(3, .v (.int .i64 0)),(4, .v (.string ⟨#[47,52]⟩)),(5, .v (.bool true)),(6, .v (.string ⟨#[48,54]⟩)),(7, .v (.string ⟨#[47]⟩)),(8, .v (.string ⟨#[]⟩)),(29, .v (.string ⟨#[47,52]⟩))] [] ?_)))
 refine Zb9 30 (.string ⟨#[52]⟩) (by kernel_rfl) (by kernel_rfl) (by kernel_rfl) (by kernel_rfl) (by kernel_rfl) (by kernel_rfl) (fun w R Q=>ZcQ 1 _ (t:=9) (x:=(Operand.tmp 29)) (lo:=(some (Operand.const (Value.int IntKind.i64 1)))) (hi:=none) (by kernel_rfl) (by kernel_rfl) (by kernel_rfl) (Or.inr rfl) (Or.inl ⟨rfl,rfl⟩) (show 1≤(⟨#[47,52]⟩:ByteArray).size by decide) (Nat.le_refl _) (show (⟨#[47,52]⟩:ByteArray).extract 1 (⟨#[47,52]⟩:ByteArray).size=⟨#[52]⟩ from rfl)) ?_
 refine xr 0 [(2, .v (.string ⟨#[]⟩)),(3, .v (.int .i64 0)),(4, .v (.string ⟨#[47,52]⟩)),(5, .v (.bool true)),(6, .v (.string ⟨#[48,54]⟩)),(7, .v (.string ⟨#[47]⟩)),(8, .v (.string ⟨#[]⟩)),(30, .v (.string ⟨#[52]⟩))] [] ?_
 refine xc 139 [.string ⟨#[52]⟩] 31 (fun x:ByteArray × ByteArray=>.tuple #[.string x.1, .string x.2]) _ (fun w R Q=>(Zei ⟨#[52]⟩ _ (by decide)).mono (fun _ _=>Znw)) (fun xx=>?_)
 obtain ⟨t2,u2⟩:=xx
 refine xr 5 [(2, .v (.string ⟨#[]⟩)),(3, .v (.int .i64 0)),(4, .v (.string u2)),(5, .v (.bool true)),(6, .v (.string ⟨#[48,54]⟩)),(7, .v (.string ⟨#[47]⟩)),(8, .v (.string t2))] [] ?_
 refine xe (Zaa (Zac (Zac ?_)))
 refine SXc.know (p:=bytes t2=[52].takeWhile Zay∧bytes u2=[52].dropWhile Zay) (fun w _ Q=>Q.2) (fun HC=>?_)
 obtain rfl:t2=⟨#[52]⟩:=ZgO HC.1
 obtain rfl:u2=⟨#[]⟩:=ZgO HC.2
 refine Zab (xr 2 [(2, .v (.string ⟨#[]⟩)),(3, .v (.int .i64 0)),(4, .v (.string ⟨#[]⟩)),(5, .v (.bool true)),(6, .v (.string ⟨#[48,54]⟩)),(7, .v (.string ⟨#[47]⟩)),(8, .v (.string ⟨#[52]⟩)),(35, .v (.bool ((⟨#[48,54]⟩:ByteArray).toList == (⟨#[]⟩:ByteArray).toList)))] [] ?_)
 rw [(show ((⟨#[48,54]⟩:ByteArray).toList == (⟨#[]⟩:ByteArray).toList)=false from Zil (by decide))]
 refine xr 3 [(2, .v (.string ⟨#[]⟩)),(3, .v (.int .i64 0)),(5, .v (.bool true)),(6, .v (.string ⟨#[48,54]⟩)),(7, .v (.string ⟨#[47]⟩)),(8, .v (.string ⟨#[52]⟩)),(36, .v (.bool false)),(38, .v (.bool (!((⟨#[]⟩:ByteArray).toList == (⟨#[]⟩:ByteArray).toList))))] [] ?_
 rw [ZcP,Bool.not_true]
 refine xr 4 [(2, .v (.string ⟨#[]⟩)),(3, .v (.int .i64 0)),(5, .v (.bool true)),(6, .v (.string ⟨#[48,54]⟩)),(7, .v (.string ⟨#[47]⟩)),(8, .v (.string ⟨#[52]⟩)),(40, .v (.bool false)),(42, .v (.bool (!((⟨#[47]⟩:ByteArray).toList == (⟨#[]⟩:ByteArray).toList))))] [] ?_
 rw [(show ((⟨#[47]⟩:ByteArray).toList == (⟨#[]⟩:ByteArray).toList)=false from Zil (by decide)),Bool.not_false]
 refine xr 3 [(2, .v (.string ⟨#[]⟩)),(3, .v (.int .i64 0)),(5, .v (.bool true)),(6, .v (.string ⟨#[48,54]⟩)),(7, .v (.string ⟨#[47]⟩)),(8, .v (.string ⟨#[52]⟩)),(40, .v (.bool false)),(43, .v (.bool true)),(45, .v (.bool ((⟨#[52]⟩:ByteArray).toList == (⟨#[]⟩:ByteArray).toList)))] [] ?_
 rw [(show ((⟨#[52]⟩:ByteArray).toList == (⟨#[]⟩:ByteArray).toList)=false from Zil (by decide))]
 refine xr 2 [(2, .v (.string ⟨#[]⟩)),(3, .v (.int .i64 0)),(5, .v (.bool true)),(6, .v (.string ⟨#[48,54]⟩)),(7, .v (.string ⟨#[47]⟩)),(8, .v (.string ⟨#[52]⟩)),(47, .v (.bool false))] [] ?_
 refine xe (Zaa (xb (ZaA (Zaa (Zac (Zab (xr 1 [(2, .v (.string ⟨#[]⟩)),(3, .v (.int .i64 0)),(5, .v (.bool true)),(6, .v (.string ⟨#[48,54]⟩)),(7, .v (.string ⟨#[47]⟩)),(8, .v (.string ⟨#[52]⟩)),(48, .v (.string ⟨#[48,54]⟩))] [] ?_)))))))
 refine xc 123 [.string ⟨#[48,54]⟩] 49 Zam _ (fun w R Q=>(ZcO ⟨#[48,54]⟩ _ (by decide) (Zsl (by decide))).mono (fun _ _ h=>Zaq (by rw [show ((Zad (bytes ⟨#[48,54]⟩):Nat):Int)=6 from rfl] at h; exact h))) (fun xx=>?_)
 obtain ⟨s10,A10,l10,c10⟩:=xx
 refine xr 0 [(2, .v (.string ⟨#[]⟩)),(3, .v (.int .i64 0)),(5, .v (.bool true)),(6, .v (.string ⟨#[48,54]⟩)),(7, .v (.string ⟨#[47]⟩)),(8, .v (.string ⟨#[52]⟩)),eI2 49 s10 A10 l10 c10] [] ?_
 refine xc 128 [.int .i64 1] 50 Zam _ (fun w R Q=>(Zlb 1 _ (by rw [Zai]; omega) (by decide) (by decide)).mono (fun _ _=>Zaq)) (fun xx=>?_)
 obtain ⟨s11,A11,l11,c11⟩:=xx
 refine xr 4 [(2, .v (.string ⟨#[]⟩)),(3, .v (.int .i64 0)),(5, .v (.bool true)),(6, .v (.string ⟨#[48,54]⟩)),(7, .v (.string ⟨#[47]⟩)),(8, .v (.string ⟨#[52]⟩)),(9, .p 9 0),(10, .p 10 0)] [bI2 10 105 s11 A11 l11 c11,bI2 9 105 s10 A10 l10 c10] ?_
 refine xe (Zaa (Zac (Zac (Zab (xr 1 [(2, .v (.string ⟨#[]⟩)),(3, .v (.int .i64 0)),(5, .v (.bool true)),(6, .v (.string ⟨#[48,54]⟩)),(8, .v (.string ⟨#[52]⟩)),(9, .p 9 0),(10, .p 10 0),(51, .v (.string ⟨#[47]⟩))] [bI2 10 105 s11 A11 l11 c11,bI2 9 105 s10 A10 l10 c10] ?_)))))
 refine xe (Zaa (ZbD (Zac (Zab (xr 1 [(2, .v (.string ⟨#[]⟩)),(3, .v (.int .i64 0)),(5, .v (.bool true)),(6, .v (.string ⟨#[48,54]⟩)),(8, .v (.string ⟨#[52]⟩)),(9, .p 9 0),(10, .p 10 0),(51, .v (.string ⟨#[47]⟩)),(53, .v (.bool ((⟨#[47]⟩:ByteArray).toList == (⟨#[]⟩:ByteArray).toList)))] [bI2 10 105 s11 A11 l11 c11,bI2 9 105 s10 A10 l10 c10] ?_)))))
 rw [(show ((⟨#[47]⟩:ByteArray).toList == (⟨#[]⟩:ByteArray).toList)=false from Zil (by decide))]
 refine xr 1 [(2, .v (.string ⟨#[]⟩)),(3, .v (.int .i64 0)),(5, .v (.bool true)),(6, .v (.string ⟨#[48,54]⟩)),(8, .v (.string ⟨#[52]⟩)),(9, .p 9 0),(10, .p 10 0),(51, .v (.string ⟨#[47]⟩)),(52, .v (.bool false))] [bI2 10 105 s11 A11 l11 c11,bI2 9 105 s10 A10 l10 c10] ?_
 refine xe (Zaa (xb (Zac (Zab (xr 1 [(2, .v (.string ⟨#[]⟩)),(3, .v (.int .i64 0)),(5, .v (.bool true)),(6, .v (.string ⟨#[48,54]⟩)),(8, .v (.string ⟨#[52]⟩)),(9, .p 9 0),(10, .p 10 0),(51, .v (.string ⟨#[47]⟩)),(55, .v (.bool ((⟨#[47]⟩:ByteArray).toList == (⟨#[47]⟩:ByteArray).toList)))] [bI2 10 105 s11 A11 l11 c11,bI2 9 105 s10 A10 l10 c10] ?_)))))
 rw [ZcP]
 refine xr 1 [(2, .v (.string ⟨#[]⟩)),(3, .v (.int .i64 0)),(5, .v (.bool true)),(6, .v (.string ⟨#[48,54]⟩)),(8, .v (.string ⟨#[52]⟩)),(9, .p 9 0),(10, .p 10 0),(51, .v (.string ⟨#[47]⟩)),(54, .v (.bool true))] [bI2 10 105 s11 A11 l11 c11,bI2 9 105 s10 A10 l10 c10] ?_
 refine xe (Zaa (xa (Zab (xr 1 [(2, .v (.string ⟨#[]⟩)),(3, .v (.int .i64 0)),(5, .v (.bool true)),(9, .p 9 0),(10, .p 10 0),(56, .v (.string ⟨#[52]⟩))] [bI2 10 105 s11 A11 l11 c11,bI2 9 105 s10 A10 l10 c10] ?_))))
 refine xc 123 [.string ⟨#[52]⟩] 57 Zam _ (fun w R Q=>(ZcO ⟨#[52]⟩ _ (by decide) (Zsl (by decide))).mono (fun _ _ h=>Zaq (by rw [show ((Zad (bytes ⟨#[52]⟩):Nat):Int)=4 from rfl] at h; exact h))) (fun xx=>?_)
 obtain ⟨s12,A12,l12,c12⟩:=xx
 refine xr 1 [(2, .v (.string ⟨#[]⟩)),(3, .v (.int .i64 0)),(5, .v (.bool true)),(9, .p 9 0),(10, .p 10 0)] [bI2 10 105 s12 A12 l12 c12,bI2 9 105 s10 A10 l10 c10] ?_
 refine xe (ZeM (Zaa (Zac (Zac (Zab (xr 1 [(2, .v (.string ⟨#[]⟩)),(3, .v (.int .i64 0)),(5, .v (.bool true)),(9, .p 9 0),(10, .p 10 0),eI2 69 s12 A12 l12 c12] [bI2 10 105 s12 A12 l12 c12,bI2 9 105 s10 A10 l10 c10] ?_))))))
 refine xc 141 [vI2 s12 A12 l12 c12] 70 (fun _:Unit=>.bool false) _ (fun w R Q=>(ZaG _ (4) _ Q.2).mono (fun _ _ h=>Zae h (by rw [decide_eq_false (p:=(4)=0) (by decide)]))) (fun xx=>?_)
 refine xr 0 [(2, .v (.string ⟨#[]⟩)),(3, .v (.int .i64 0)),(5, .v (.bool true)),(9, .p 9 0),(10, .p 10 0),(70, .v (.bool false))] [bI2 10 105 s12 A12 l12 c12,bI2 9 105 s10 A10 l10 c10] ?_
 refine xe (Zaa (xb (ZaA (Zaa (Zac (Zac (Zab (xr 1 [(2, .v (.string ⟨#[]⟩)),(3, .v (.int .i64 0)),(9, .p 9 0),(10, .p 10 0),(71, .v (.bool true))] [bI2 10 105 s12 A12 l12 c12,bI2 9 105 s10 A10 l10 c10] ?_))))))))
 refine xe (Zaa (xa (Zab (xr 1 [(2, .v (.string ⟨#[]⟩)),(3, .v (.int .i64 0)),(9, .p 9 0),(10, .p 10 0),eI2 72 s10 A10 l10 c10] [bI2 10 105 s12 A12 l12 c12,bI2 9 105 s10 A10 l10 c10] ?_))))
 refine xc 142 [vI2 s10 A10 l10 c10] 73 Zam _ (fun w R Q=>(ZdF _ (6) _ Q.1.1.1.2).mono (fun _ _=>Zaq)) (fun xx=>?_)
 obtain ⟨s13,A13,l13,c13⟩:=xx
 refine xr 1 [(2, .v (.string ⟨#[]⟩)),(3, .v (.int .i64 0)),(9, .p 9 0),(10, .p 10 0)] [bI2 10 105 s12 A12 l12 c12,bI2 9 105 s13 A13 l13 c13] ?_
 refine xe (Zaa (Zac (Zab (xr 2 [(2, .v (.string ⟨#[]⟩)),(3, .v (.int .i64 0)),eI2 74 s13 A13 l13 c13,eI2 75 s12 A12 l12 c12] [] ?_))))
 refine xc 91 [vI2 s13 A13 l13 c13,vI2 s12 A12 l12 c12] 76 ZaJ _ (fun w R Q=>(Zid _ _ (-(6)) (4) _ Q.1.1.1.1.1.1.1.1 Q.2 Q.1.1.2 (Zsk (ZmC ex6)) (Zsk ex4) (ZcR.words (p4w (ZmC ex6)) (p4w ex4)) (p4lt ex4) (by decide)).mono (fun _ _=>ZaL)) (fun xx=>?_)
 obtain ⟨s14,A14,l14,c14,t14,B14,m14,d14⟩:=xx
 refine xr 0 [(2, .v (.string ⟨#[]⟩)),(3, .v (.int .i64 0)),eR4 76 s14 A14 l14 c14 t14 B14 m14 d14] [] ?_
 refine xc 76 [vR4 s14 A14 l14 c14 t14 B14 m14 d14] 77 (fun _:Unit=>.string ⟨#[45,51,47,50]⟩) _ (fun w R Q=>(Zda _ (Rat.divInt (-6) 4) _ Q.1.1.1.1.1.1.1.1.1 Q.2 (Zsm (by decide) (ZmC ex6) ex4).1 (Zsm (by decide) (ZmC ex6) ex4).2).mono (fun _ _ h=>Zae h (by rw [tm32]))) (fun xx=>?_)
 refine xr 2 [(2, .v (.string ⟨#[45,51,47,50]⟩)),(3, .v (.int .i64 0))] [] ?_
 refine xe (Zaa (Zan ?_))
 refine Zag (v:=.tuple #[.string ⟨#[45,51,47,50]⟩, .int .i64 0]) (by kernel_rfl) (fun w' R Q=>?_)
 exact ⟨rfl,R⟩
end Go.Proofs.YthlipnahcbcjkaaGreatDoor
