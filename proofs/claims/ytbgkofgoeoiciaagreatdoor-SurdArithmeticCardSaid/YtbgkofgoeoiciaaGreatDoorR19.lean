/-
 My texts SxK, Frac, Ra, Reduce2, Ts, Fs, Cmp, Tx, Rt, Dc, Len, Sx8, Sx9, PaM, Pw, Sx10, Vl, Pa, Px, Aw1, Gq, GqL put together.
-/
import Derived.Test.YtbgkofgoeoiciaaGreatDoorR18
import Derived.Test.YtbgkofgoeoiciaaGreatDoorR17
import Derived.Test.YtbgkofgoeoiciaaGreatDoorR14
import Derived.Test.YtbgkofgoeoiciaaGreatDoorR16
import Derived.Test.YtbgkofgoeoiciaaGreatDoorR12
import Derived.Test.YtbgkofgoeoiciaaGreatDoorR02
import Derived.Test.YtbgkofgoeoiciaaGreatDoorR01
import Derived.Deep.LoopGhost
import Derived.Test.YtbgkofgoeoiciaaGreatDoorR06
import Derived.Test.YtbgkofgoeoiciaaGreatDoorR11
import Derived.Test.YtbgkofgoeoiciaaGreatDoorR03
import Derived.Laws.StructEq
set_option maxRecDepth 100000
namespace Go.Proofs.YtbgkofgoeoiciaaGreatDoor
open Go.RowKit
section
variable {S:Nat→Prop} {w w' w0:World} {k:IntKind} {A:Option Addr} {xs:List Nat}
theorem Zar.nrb (hk:k≠.i64) (h:Zar k w A xs) (hS:∀ i,S i→NRB w i) (hF:Fr S w w'):Zar k w' A xs:=by
 cases xs with
 | nil=>exact Zar.nil
 | cons x xs =>
   refine h.fr hF (fun ad hA hlt hs=>?_)
   obtain ⟨g,off,e',_,hcl⟩:=h.at (i:=0) (by simp)
   rw [e'] at hA
   injection hA with hA
   subst hA
   obtain ⟨t,cs,hB,hc⟩:=hS _ hs
   rw [hB.cell] at hcl
   exact hk (hc _ _ _ hcl)
theorem Zaq.nrb {u:Value} {n:Nat} (h:Zaq w u n) (hS:∀ i,S i→NRB w i) (hF:Fr S w w'):Zaq w' u n:=by
 obtain ⟨A',xs,c',h1,h2,h3,h4⟩:=h
 exact ⟨A',xs,c',h1,h2,h3.nrb (by decide) hS hF,h4⟩
theorem ZaC.nrb {v:Value} {z:Int} (h:ZaC w v z) (hS:∀ i,S i→NRB w i) (hF:Fr S w w'):ZaC w' v z:=by
 obtain ⟨s',u,n,h1,h2,h3⟩:=h
 exact ⟨s',u,n,h1,h2.nrb hS hF,h3⟩
theorem Zap.nrb {v:Value} {q:Rat} (h:Zap w v q) (hS:∀ i,S i→NRB w i) (hF:Fr S w w'):Zap w' v q:=by
 obtain ⟨s,t,A,B,l,c,l',c',h1,h2,h3⟩:=h
 exact ⟨s,t,A,B,l,c,l',c',h1,h2.nrb hS hF,h3.nrb hS hF⟩
theorem Zas.nrb {u:Value} {n:Nat} (h:Zas w u n) (hS:∀ i,S i→NRB w i) (hF:Fr S w w'):Zas w' u n:=by
 obtain ⟨A',xs,c',h1,h2,h3,h4⟩:=h
 exact ⟨A',xs,c',h1,h2,h3.nrb (by decide) hS hF,h4⟩
theorem Zax.nrb {v:Value} {z:Int} (h:Zax w v z) (hS:∀ i,S i→NRB w i) (hF:Fr S w w'):Zax w' v z:=by
 obtain ⟨s',u,n,h1,h2,h3⟩:=h
 exact ⟨s',u,n,h1,h2.nrb hS hF,h3⟩
theorem Zai.nrb {v:Value} {q:Rat} (h:Zai w v q) (hS:∀ i,S i→NRB w i) (hF:Fr S w w'):Zai w' v q:=by
 obtain ⟨s,t,A,B,l,c,l',c',h1,h2,h3⟩:=h
 exact ⟨s,t,A,B,l,c,l',c',h1,h2.nrb hS hF,h3.nrb hS hF⟩
theorem NRB.ext {i:Nat} (h:NRB w i) (he:Ext w w'):NRB w' i:=by
 obtain ⟨t,cs,hB,hc⟩:=h
 exact ⟨t,cs,hB.ext he,hc⟩
theorem boxn {φ:World→Prop} (he:Ext w w') (h:∀ S w'',(∀ i,S i→NRB w' i)→Fr S w' w''→φ w''):BoxN w w' φ:=fun S hS w'' hf=>h S w'' (fun i hi=>(hS i hi).2.ext he) hf
end
abbrev ShI:=Bool × Option Addr × Nat × Nat
abbrev ShQ:=Bool × Option Addr × Nat × Nat × Bool × Option Addr × Nat × Nat
def ZaB (x:ShI):Value:=.agg #[.bool x.1, .slice x.2.1 x.2.2.1 x.2.2.2]
def Zak (x:ShQ):Value:=.agg #[.bool x.1, .slice x.2.1 x.2.2.1 x.2.2.2.1, .bool x.2.2.2.2.1, .slice x.2.2.2.2.2.1 x.2.2.2.2.2.2.1 x.2.2.2.2.2.2.2]
section
variable {w w':World} {e:Ending}
theorem ZaR {z:Int} (h:Zbv w z e w'):Zbn ZaB (fun x w=>ZaC w (ZaB x) z) w e w':=by
 obtain ⟨v,rfl,hI,Q⟩:=h
 obtain ⟨s,A,l,c,rfl⟩:=hI.shp
 exact ⟨(s,A,l,c),rfl,Q,boxn Q (fun S w'' hS hF=>hI.nrb hS hF)⟩
theorem ZaI {z:Int} (h:Zbt w z e w'):Zbn ZaB (fun x w=>Zax w (ZaB x) z) w e w':=by
 obtain ⟨v,rfl,hI,Q⟩:=h
 obtain ⟨s,A,l,c,rfl⟩:=hI.shp
 exact ⟨(s,A,l,c),rfl,Q,boxn Q (fun S w'' hS hF=>hI.nrb hS hF)⟩
theorem Za7 {q:Rat} (h:Zc3 w q e w'):Zbn Zak (fun x w=>Zap w (Zak x) q) w e w':=by
 obtain ⟨v,rfl,hI,Q⟩:=h
 obtain ⟨s,A,l,c,t,B,m,d,rfl⟩:=hI.shp
 exact ⟨(s,A,l,c,t,B,m,d),rfl,Q,boxn Q (fun S w'' hS hF=>hI.nrb hS hF)⟩
theorem ZaJ {q:Rat} (h:ZbF w q e w'):Zbn Zak (fun x w=>Zai w (Zak x) q) w e w':=by
 obtain ⟨v,rfl,hI,Q⟩:=h
 obtain ⟨s,A,l,c,t,B,m,d,rfl⟩:=hI.shp
 exact ⟨(s,A,l,c,t,B,m,d),rfl,Q,boxn Q (fun S w'' hS hF=>hI.nrb hS hF)⟩
def ZoL (w:World) (x y:Int) (e:Ending) (w':World):Prop:=∃ u v,e=.returned (.tuple #[u,v])∧ZaC w' u x∧ZaC w' v y∧Ext w w'
def ZdZ (x:ShI × ShI):Value:=.tuple #[ZaB x.1,ZaB x.2]
theorem Zf9 {a b:Int} (h:ZoL w a b e w'):Zbn ZdZ (fun x w=>ZaC w (ZaB x.1) a∧ZaC w (ZaB x.2) b) w e w':=by
 obtain ⟨u,v,rfl,hI,hJ,Q⟩:=h
 obtain ⟨s,A,l,c,rfl⟩:=hI.shp
 obtain ⟨s',A',l',c',rfl⟩:=hJ.shp
 exact ⟨((s,A,l,c),(s',A',l',c')),rfl,Q,boxn Q (fun S w'' hS hF=>⟨hI.nrb hS hF,hJ.nrb hS hF⟩)⟩
theorem Zkg (x:Int):(x < 0∧x.sign = -1)∨(x=0∧x.sign=0)∨(0 < x∧x.sign=1):=by
 rcases Int.lt_trichotomy x 0 with h | h | h
 ·exact Or.inl ⟨h,Int.sign_eq_neg_one_of_neg h⟩
 ·exact Or.inr (Or.inl ⟨h,by rw [h]; rfl⟩)
 ·exact Or.inr (Or.inr ⟨h,Int.sign_eq_one_of_pos h⟩)
theorem Zaf {v u:Value} (h:e=.returned v∧Ext w w') (hv:v=u):Zbn (fun _:Unit=>u) (fun _ _=>True) w e w':=by
 obtain ⟨rfl,Q⟩:=h
 subst hv
 exact ⟨(),rfl,Q,BoxN.pure trivial⟩
end
end Go.Proofs.YtbgkofgoeoiciaaGreatDoor

namespace Go.Proofs.YtbgkofgoeoiciaaGreatDoor
open Go.RowKit
set_option maxHeartbeats 2000000 in
theorem Zfn (a b:Value) (x y:Int) (w:World) (ha:ZaC w a x) (hb:ZaC w b y) (hx:Fits x) (hy:wl y.natAbs < 80) (h0:y≠0):Calls Tryz.prog 191 #[a,b] w (Zbv w (x.tdiv y)):=by
 obtain ⟨s,A,l,c,rfl⟩:=ha.shape
 obtain ⟨t,B,l',c',rfl⟩:=hb.shape
 have HA:=zh ha
 have HB:=zh hb
 have HX:=zh hx
 have HY:=zh hy
 have H0:=zh h0
 clear ha hb hx hy h0
 go_enter Tryz.func191,Tryz.ntmps191
 go_wp2_with fail
 generalize hwb:World.alloc (World.alloc (World.alloc w _) _) _=wb
 obtain ⟨hB0,hB1,hB2,Q⟩:=ZaO hwb
 clear hwb
 refine (Zc6 _ y _ (HB.out.ext Q)).mono ?_
 by_cases h1:y=1
 ·rw [decide_eq_true h1]
  rintro e w1 ⟨rfl,hF⟩
  have HE:=zh (Q.trans hF)
  have HB0:=zh (hB0.ext hF)
  have HB2:=zh (hB2.ext hF)
  have HQ:Hid (x.tdiv y=x):=by unfold Hid; rw [h1]; exact Int.tdiv_one x
  obtain ⟨x0,x1,_,_⟩:=HB0.out.cell2
  obtain ⟨y0,y1,y2,y3⟩:=HB2.out.cell2
  clear Q hF hB0 hB1 hB2 h1
  go_wp2
  refine Zru rfl rfl (by omega) HE.out HB2.out (Fr.refl _ _) ?_
  rw [HQ.out]; exact HA.out.ext HE.out
 ·rw [decide_eq_false h1]
  rintro e w1 ⟨rfl,hF⟩
  have HE:=zh (Q.trans hF)
  have HB0:=zh (hB0.ext hF)
  have HB1:=zh (hB1.ext hF)
  have HB2:=zh (hB2.ext hF)
  obtain ⟨x0,x1,_,_⟩:=HB0.out.cell2
  obtain ⟨z0,z1,_,_⟩:=HB1.out.cell2
  clear Q hF hB0 hB1 hB2 h1
  go_wp2_with fail
  refine (Zpj _ _ x y _ (HA.out.ext HE.out) (HB.out.ext HE.out) HX.out HY.out H0.out).mono ?_
  rintro e w2 ⟨u1,u2,rfl,hN1,hN2,hF1⟩
  obtain ⟨s1,A1,l1,c1,rfl⟩:=hN1.shape
  obtain ⟨s2,A2,l2,c2,rfl⟩:=hN2.shape
  have HN1:=zh hN1
  have HE2:=zh (HE.out.trans hF1)
  have HB2':=zh (HB2.out.ext hF1)
  obtain ⟨y0,y1,y2,y3⟩:=HB2'.out.cell2
  have hlt1:=HB2'.out.lt
  have hlt2:=Nat.lt_succ_of_lt hlt1
  clear hN1 hN2 hF1 x0 x1 z0 z1
  go_wp2
  have hB:=(HB2'.out.set_ 0 (.bool s1)).set_ 1 (.slice A1 l1 c1)
  refine bodyPost_ret (Zdo rfl _ _ (w.heap.size + 1 + 1) _ _ rfl ((hB.alloc _).alloc _)) rfl ⟨_,rfl,?_,(((HE2.out.setCell (Or.inr (by simp; omega)) _).setCell (Or.inr (by simp; omega)) _).alloc _).alloc _⟩
  exact (HN1.out.store2 HB2'.out).ext (((Fr.refl _ _).alloc _).alloc _)
theorem Znl {x y:Int} (hy:0 < y):(Rat.divInt x y).num=x.tdiv (Int.gcd x y:Int)∧((Rat.divInt x y).den:Int)=y.tdiv (Int.gcd x y:Int):=by
 have hd1:(Int.gcd x y:Int) ∣ x:=Int.gcd_dvd_left _ _
 have hd2:(Int.gcd x y:Int) ∣ y:=Int.gcd_dvd_right _ _
 rw [Rat.num_divInt,Rat.den_divInt,if_neg (by omega),Int.sign_eq_one_of_pos hy,Int.one_mul,Int.gcd_comm y x,Int.tdiv_eq_ediv_of_dvd hd1,Int.tdiv_eq_ediv_of_dvd hd2]
 refine ⟨rfl,?_⟩
 rw [Int.natCast_ediv]
 congr 1
 omega
theorem Zh5 {x y:Int} (hy:0 < y) (h:((Int.gcd x y:Nat):Int)=1):(Rat.divInt x y).num=x∧((Rat.divInt x y).den:Int)=y:=by
 have:=Znl (x:=x) hy
 rwa [h,Int.tdiv_one,Int.tdiv_one] at this
end Go.Proofs.YtbgkofgoeoiciaaGreatDoor

namespace Go.Proofs.YtbgkofgoeoiciaaGreatDoor
open Go.RowKit
def Zdx (q:Rat) (k:Nat):Prop:=wl q.num.natAbs≤k∧wl q.den≤k
theorem wlm {x y:Int} {a b:Nat} (hx:wl x.natAbs≤a) (hy:wl y.natAbs≤b):wl (x * y).natAbs≤a + b:=by
 have h:=ZpY x.natAbs y.natAbs
 rw [← Int.natAbs_mul] at h
 omega
theorem wla {x y:Int} {a:Nat} (hx:wl x.natAbs≤a) (hy:wl y.natAbs≤a):wl (x + y).natAbs≤a + 1 :=
 Nat.le_trans (Zb4 (Int.natAbs_add_le x y)) (Zti hx hy)
theorem wlc {n k:Nat} (h:wl n≤k):wl ((n:Int)).natAbs≤k:=by rw [Int.natAbs_natCast]; exact h
theorem wlq {x y:Int} {k:Nat} (h:wl x.natAbs≤k):wl (x.tdiv y).natAbs≤k:=by
 rw [Int.natAbs_tdiv]; exact Nat.le_trans (Zb4 (Nat.div_le_self _ _)) h
theorem wld {n m k:Nat} (h:wl n≤k):wl (n / m)≤k:=Nat.le_trans (Zb4 (Nat.div_le_self _ _)) h
theorem wlg {x y:Int} {k:Nat} (h:wl y.natAbs≤k) (h0:y≠0):wl (Int.gcd x y)≤k :=
 Nat.le_trans (Zb4 (Nat.gcd_le_right _ (by omega))) h
theorem fit {x:Int} {k:Nat} (h:wl x.natAbs≤k) (hk:k≤1048576):Fits x:=Nat.le_trans h hk
theorem ZdD (a b:Nat):(a:Int).tdiv (b:Int)=((a / b:Nat):Int):=by
 rw [Int.tdiv_eq_ediv_of_nonneg (by omega)]; rfl
theorem Zki {p q:Rat} (h:p.den=1):(p + q).num=p.num * (q.den:Int) + q.num∧(p + q).den=q.den:=by
 have:=Zng (p:=p) (q:=q) (by rw [h]; exact Nat.gcd_one_left _)
 rw [h] at this
 simpa using this
theorem ZoM {q:Rat} {n:Nat} (h:q.den=n) (h1:n≠1):denF q=(n:Int):=by rw [ZbN (by rw [h]; exact h1),h]
theorem Zkj {x:Int} {y:Int} (h:y≠0):((Int.gcd x y:Nat):Int)≠0:=fun e=>h ((Int.gcd_eq_zero_iff.1 (Int.ofNat_eq_zero.1 e)).2)
theorem Zjv (a:Value) (q:Rat) (w:World) (ha:Zap w a q) :
 Calls Tryz.prog 197 #[a] w (Zc3 w (-q)):=by
 obtain ⟨s0,A0,l0,c0,t0,B0,m0,d0,rfl⟩:=ha.shp
 refine Zan (Φ:=fun w=>Zap w (.agg #[.bool s0, .slice A0 l0 c0, .bool t0, .slice B0 m0 d0]) (q)) Tryz.func197 rfl (by kernel_rfl) (fun w' hf=>ha.ext hf) ?_
 refine Zac (Zab (xr 2 [(1, .p 1 0),(2, .p 2 0)] [bR4 2 116 false none 0 0 false none 0 0,bR4 1 116 s0 A0 l0 c0 t0 B0 m0 d0] ?_))
 refine xe (Zaa (Zac ?_))
 refine ZaE 7 (by kernel_rfl) (by kernel_rfl) Zal ?_
 refine xf 2 [(1, .p 1 0),(2, .p 2 0),eI2 4 s0 A0 l0 c0] [bR4 2 116 false none 0 0 false none 0 0,bR4 1 116 s0 A0 l0 c0 t0 B0 m0 d0] ?_
 refine xd 188 [vI2 s0 A0 l0 c0] 5 ZaB _ (fun w R Q=>(Zgr _ ((q).num) _ Q.num).mono (fun _ _=>ZaR)) (fun xx=>?_)
 obtain ⟨s10,A10,l10,c10⟩:=xx
 refine xf 4 [(2, .p 2 0)] [bR4 2 116 s10 A10 l10 c10 t0 B0 m0 d0,bR4 2 116 false none 0 0 false none 0 0,bR4 1 116 s0 A0 l0 c0 t0 B0 m0 d0] ?_
 refine xz (xe (Zaa (Zah ?_)))
 refine Zae (v:=.agg #[.bool s10, .slice A10 l10 c10, .bool t0, .slice B0 m0 d0]) (by kernel_rfl) (fun w' R Q=>?_)
 exact ⟨_,rfl,Zap.of (by rw [Zg7]; exact Q.2) (by rw [Zni]; exact Q.1.den),R⟩
theorem ZsS (a b:Value) (p q:Rat) (w:World) (ha:Zap w a p) (hb:Zap w b q) (hp:Zdx p 38) (hq:Zdx q 38) (h1:p.den=1) (h2:q.den=1) :
 Calls Tryz.prog 98 #[a,b] w (Zc3 w (p + q)):=by
 obtain ⟨s0,A0,l0,c0,t0,B0,m0,d0,rfl⟩:=ha.shp
 obtain ⟨s1,A1,l1,c1,t1,B1,m1,d1,rfl⟩:=hb.shp
 have S1:wl p.num.natAbs≤38:=hp.1
 have S2:wl q.num.natAbs≤38:=hq.1
 have hp2:wl p.den≤38:=hp.2
 have hq2:wl q.den≤38:=hq.2
 have S3:wl ((p.den:Nat):Int).natAbs≤38:=wlc hp2
 have S4:wl ((q.den:Nat):Int).natAbs≤38:=wlc hq2
 have HW:=Ze9 h1 h2
 refine Zan (Φ:=fun w=>(((Zap w (.agg #[.bool s0, .slice A0 l0 c0, .bool t0, .slice B0 m0 d0]) (p)∧Zap w (.agg #[.bool s1, .slice A1 l1 c1, .bool t1, .slice B1 m1 d1]) (q))∧ZaC w (.agg #[.bool t0, .slice B0 m0 d0]) (0))∧ZaC w (.agg #[.bool t1, .slice B1 m1 d1]) (0))) Tryz.func98 rfl (by kernel_rfl) (fun w' hf=>⟨⟨⟨ha.ext hf,hb.ext hf⟩,(by have h:=ha.den; rw [Zbd h1] at h; exact h.ext hf)⟩,(by have h:=hb.den; rw [Zbd h2] at h; exact h.ext hf)⟩) ?_
 refine Zac (Zab (xr 3 [(2, .p 2 0),(3, .p 3 0),(4, .p 4 0)] [bR4 4 116 false none 0 0 false none 0 0,bR4 3 116 s1 A1 l1 c1 t1 B1 m1 d1,bR4 2 116 s0 A0 l0 c0 t0 B0 m0 d0] ?_))
 refine xe (Zaa (Zac (ZaK (Zac (Zab (xr 2 [(2, .p 2 0),(3, .p 3 0),(4, .p 4 0),eI2 12 t0 B0 m0 d0] [bR4 4 116 false none 0 0 false none 0 0,bR4 3 116 s1 A1 l1 c1 t1 B1 m1 d1,bR4 2 116 s0 A0 l0 c0 t0 B0 m0 d0] ?_))))))
 refine xc 189 [vI2 t0 B0 m0 d0] 13 (fun _:Unit=>.bool true) _ (fun w R Q=>(ZaS _ (0) _ Q.1.2).mono (fun _ _ h=>Zaf h (by rw [decide_eq_true (p:=(0)=0) rfl]))) (fun xx=>?_)
 refine xr 3 [(2, .p 2 0),(3, .p 3 0),(4, .p 4 0),(14, .v (.bool true)),eI2 16 t1 B1 m1 d1] [bR4 4 116 false none 0 0 false none 0 0,bR4 3 116 s1 A1 l1 c1 t1 B1 m1 d1,bR4 2 116 s0 A0 l0 c0 t0 B0 m0 d0] ?_
 refine xc 189 [vI2 t1 B1 m1 d1] 17 (fun _:Unit=>.bool true) _ (fun w R Q=>(ZaS _ (0) _ Q.1.2).mono (fun _ _ h=>Zaf h (by rw [decide_eq_true (p:=(0)=0) rfl]))) (fun xx=>?_)
 refine xr 2 [(2, .p 2 0),(3, .p 3 0),(4, .p 4 0),(10, .v (.bool true))] [bR4 4 116 false none 0 0 false none 0 0,bR4 3 116 s1 A1 l1 c1 t1 B1 m1 d1,bR4 2 116 s0 A0 l0 c0 t0 B0 m0 d0] ?_
 refine xe (Zaa (xa (Zac (Zab (xr 4 [(2, .p 2 0),(3, .p 3 0),(4, .p 4 0),eI2 20 s0 A0 l0 c0,eI2 22 s1 A1 l1 c1] [bR4 4 116 false none 0 0 false none 0 0,bR4 3 116 s1 A1 l1 c1 t1 B1 m1 d1,bR4 2 116 s0 A0 l0 c0 t0 B0 m0 d0] ?_)))))
 refine xc 172 [vI2 s0 A0 l0 c0,vI2 s1 A1 l1 c1] 23 ZaB _ (fun w R Q=>(Ziq _ _ ((p).num) ((q).num) _ Q.1.1.1.1.1.num Q.1.1.1.1.2.num (fit S1 (by decide)) (fit S2 (by decide))).mono (fun _ _=>ZaR)) (fun xx=>?_)
 obtain ⟨s10,A10,l10,c10⟩:=xx
 refine xr 2 [(2, .p 2 0),(3, .p 3 0),(4, .p 4 0)] [bR4 4 116 s10 A10 l10 c10 false none 0 0,bR4 3 116 s1 A1 l1 c1 t1 B1 m1 d1,bR4 2 116 s0 A0 l0 c0 t0 B0 m0 d0] ?_
 refine xe (Zaa (Zah (ZaM (Zaj ?_))))
 refine Zae (v:=.agg #[.bool s10, .slice A10 l10 c10, .bool false, .slice none 0 0]) (by kernel_rfl) (fun w' R Q=>?_)
 exact ⟨_,rfl,Zap.of (by rw [HW.1]; exact Q.2) (by rw [Zbd HW.2]; exact (ZaC.nil _)),R⟩
theorem ZsT (a b:Value) (p q:Rat) (w:World) (ha:Zap w a p) (hb:Zap w b q) (hp:Zdx p 38) (hq:Zdx q 38) (h1:p.den=1) (h2:¬ q.den=1) :
 Calls Tryz.prog 98 #[a,b] w (Zc3 w (p + q)):=by
 obtain ⟨s0,A0,l0,c0,t0,B0,m0,d0,rfl⟩:=ha.shp
 obtain ⟨s1,A1,l1,c1,t1,B1,m1,d1,rfl⟩:=hb.shp
 have S1:wl p.num.natAbs≤38:=hp.1
 have S2:wl q.num.natAbs≤38:=hq.1
 have hp2:wl p.den≤38:=hp.2
 have hq2:wl q.den≤38:=hq.2
 have S3:wl ((p.den:Nat):Int).natAbs≤38:=wlc hp2
 have S4:wl ((q.den:Nat):Int).natAbs≤38:=wlc hq2
 have HW:=Zki (q:=q) h1
 refine Zan (Φ:=fun w=>(((Zap w (.agg #[.bool s0, .slice A0 l0 c0, .bool t0, .slice B0 m0 d0]) (p)∧Zap w (.agg #[.bool s1, .slice A1 l1 c1, .bool t1, .slice B1 m1 d1]) (q))∧ZaC w (.agg #[.bool t0, .slice B0 m0 d0]) (0))∧ZaC w (.agg #[.bool t1, .slice B1 m1 d1]) ((q.den:Int)))) Tryz.func98 rfl (by kernel_rfl) (fun w' hf=>⟨⟨⟨ha.ext hf,hb.ext hf⟩,(by have h:=ha.den; rw [Zbd h1] at h; exact h.ext hf)⟩,(by have h:=hb.den; rw [ZbN h2] at h; exact h.ext hf)⟩) ?_
 refine Zac (Zab (xr 3 [(2, .p 2 0),(3, .p 3 0),(4, .p 4 0)] [bR4 4 116 false none 0 0 false none 0 0,bR4 3 116 s1 A1 l1 c1 t1 B1 m1 d1,bR4 2 116 s0 A0 l0 c0 t0 B0 m0 d0] ?_))
 refine xe (Zaa (Zac (ZaK (Zac (Zab (xr 2 [(2, .p 2 0),(3, .p 3 0),(4, .p 4 0),eI2 12 t0 B0 m0 d0] [bR4 4 116 false none 0 0 false none 0 0,bR4 3 116 s1 A1 l1 c1 t1 B1 m1 d1,bR4 2 116 s0 A0 l0 c0 t0 B0 m0 d0] ?_))))))
 refine xc 189 [vI2 t0 B0 m0 d0] 13 (fun _:Unit=>.bool true) _ (fun w R Q=>(ZaS _ (0) _ Q.1.2).mono (fun _ _ h=>Zaf h (by rw [decide_eq_true (p:=(0)=0) rfl]))) (fun xx=>?_)
 refine xr 3 [(2, .p 2 0),(3, .p 3 0),(4, .p 4 0),(14, .v (.bool true)),eI2 16 t1 B1 m1 d1] [bR4 4 116 false none 0 0 false none 0 0,bR4 3 116 s1 A1 l1 c1 t1 B1 m1 d1,bR4 2 116 s0 A0 l0 c0 t0 B0 m0 d0] ?_
 refine xc 189 [vI2 t1 B1 m1 d1] 17 (fun _:Unit=>.bool false) _ (fun w R Q=>(ZaS _ ((q.den:Int)) _ Q.1.2).mono (fun _ _ h=>Zaf h (by rw [decide_eq_false (p:=((q.den:Int))=0) (denI q)]))) (fun xx=>?_)
 refine xr 2 [(2, .p 2 0),(3, .p 3 0),(4, .p 4 0),(10, .v (.bool false))] [bR4 4 116 false none 0 0 false none 0 0,bR4 3 116 s1 A1 l1 c1 t1 B1 m1 d1,bR4 2 116 s0 A0 l0 c0 t0 B0 m0 d0] ?_
 refine xe (Zaa (xb (Zac (Zab (xr 2 [(2, .p 2 0),(3, .p 3 0),(4, .p 4 0),eI2 27 t0 B0 m0 d0] [bR4 4 116 false none 0 0 false none 0 0,bR4 3 116 s1 A1 l1 c1 t1 B1 m1 d1,bR4 2 116 s0 A0 l0 c0 t0 B0 m0 d0] ?_)))))
 refine xc 189 [vI2 t0 B0 m0 d0] 28 (fun _:Unit=>.bool true) _ (fun w R Q=>(ZaS _ (0) _ Q.1.1.1.2).mono (fun _ _ h=>Zaf h (by rw [decide_eq_true (p:=(0)=0) rfl]))) (fun xx=>?_)
 refine xr 1 [(2, .p 2 0),(3, .p 3 0),(4, .p 4 0),(25, .v (.bool true))] [bR4 4 116 false none 0 0 false none 0 0,bR4 3 116 s1 A1 l1 c1 t1 B1 m1 d1,bR4 2 116 s0 A0 l0 c0 t0 B0 m0 d0] ?_
 refine xe (Zaa (xa (Zac ?_)))
 refine ZaE 12 (by kernel_rfl) (by kernel_rfl) Zal ?_
 refine xf 4 [(2, .p 2 0),(3, .p 3 0),(4, .p 4 0),eI2 30 s0 A0 l0 c0,eI2 32 t1 B1 m1 d1] [bR4 4 116 false none 0 0 false none 0 0,bR4 3 116 s1 A1 l1 c1 t1 B1 m1 d1,bR4 2 116 s0 A0 l0 c0 t0 B0 m0 d0] ?_
 refine xd 152 [vI2 s0 A0 l0 c0,vI2 t1 B1 m1 d1] 33 ZaB _ (fun w R Q=>(Zc2 _ _ ((p).num) ((q.den:Int)) _ Q.1.1.1.1.1.1.num Q.1.1.1.2 (fit S1 (by decide)) (fit S4 (by decide)) (Or.inl (Nat.lt_of_le_of_lt S1 (by decide)))).mono (fun _ _=>ZaR)) (fun xx=>?_)
 obtain ⟨s10,A10,l10,c10⟩:=xx
 refine xf 2 [(2, .p 2 0),(3, .p 3 0),(4, .p 4 0),eI2 33 s10 A10 l10 c10,eI2 35 s1 A1 l1 c1] [bR4 4 116 false none 0 0 false none 0 0,bR4 3 116 s1 A1 l1 c1 t1 B1 m1 d1,bR4 2 116 s0 A0 l0 c0 t0 B0 m0 d0] ?_
 refine xd 172 [vI2 s10 A10 l10 c10,vI2 s1 A1 l1 c1] 36 ZaB _ (fun w R Q=>(Ziq _ _ (((p).num) * ((q.den:Int))) ((q).num) _ Q.2 Q.1.1.1.1.1.1.2.num (fit (wlm S1 S4) (by decide)) (fit S2 (by decide))).mono (fun _ _=>ZaR)) (fun xx=>?_)
 obtain ⟨s11,A11,l11,c11⟩:=xx
 refine xf 4 [(2, .p 2 0),(3, .p 3 0),(4, .p 4 0)] [bR4 4 116 s11 A11 l11 c11 t1 B1 m1 d1,bR4 4 116 false none 0 0 false none 0 0,bR4 3 116 s1 A1 l1 c1 t1 B1 m1 d1,bR4 2 116 s0 A0 l0 c0 t0 B0 m0 d0] ?_
 refine xz (xe (Zaa (Zah (ZaM (Zaj ?_)))))
 refine Zae (v:=.agg #[.bool s11, .slice A11 l11 c11, .bool t1, .slice B1 m1 d1]) (by kernel_rfl) (fun w' R Q=>?_)
 exact ⟨_,rfl,Zap.of (by rw [HW.1]; exact Q.2) (by rw [ZoM HW.2 h2]; exact Q.1.1.1.1.1.2),R⟩
theorem ZsU (a b:Value) (p q:Rat) (w:World) (ha:Zap w a p) (hb:Zap w b q) (hp:Zdx p 38) (hq:Zdx q 38) (h1:¬ p.den=1) (h2:q.den=1) :
 Calls Tryz.prog 98 #[a,b] w (Zc3 w (p + q)):=by
 obtain ⟨s0,A0,l0,c0,t0,B0,m0,d0,rfl⟩:=ha.shp
 obtain ⟨s1,A1,l1,c1,t1,B1,m1,d1,rfl⟩:=hb.shp
 have S1:wl p.num.natAbs≤38:=hp.1
 have S2:wl q.num.natAbs≤38:=hq.1
 have hp2:wl p.den≤38:=hp.2
 have hq2:wl q.den≤38:=hq.2
 have S3:wl ((p.den:Nat):Int).natAbs≤38:=wlc hp2
 have S4:wl ((q.den:Nat):Int).natAbs≤38:=wlc hq2
 have HW:=(show (p + q).num=q.num * (p.den:Int) + p.num∧(p + q).den=p.den by rw [Rat.add_comm]; exact Zki h2)
 refine Zan (Φ:=fun w=>(((Zap w (.agg #[.bool s0, .slice A0 l0 c0, .bool t0, .slice B0 m0 d0]) (p)∧Zap w (.agg #[.bool s1, .slice A1 l1 c1, .bool t1, .slice B1 m1 d1]) (q))∧ZaC w (.agg #[.bool t0, .slice B0 m0 d0]) ((p.den:Int)))∧ZaC w (.agg #[.bool t1, .slice B1 m1 d1]) (0))) Tryz.func98 rfl (by kernel_rfl) (fun w' hf=>⟨⟨⟨ha.ext hf,hb.ext hf⟩,(by have h:=ha.den; rw [ZbN h1] at h; exact h.ext hf)⟩,(by have h:=hb.den; rw [Zbd h2] at h; exact h.ext hf)⟩) ?_
 refine Zac (Zab (xr 3 [(2, .p 2 0),(3, .p 3 0),(4, .p 4 0)] [bR4 4 116 false none 0 0 false none 0 0,bR4 3 116 s1 A1 l1 c1 t1 B1 m1 d1,bR4 2 116 s0 A0 l0 c0 t0 B0 m0 d0] ?_))
 refine xe (Zaa (Zac (ZaK (Zac (Zab (xr 2 [(2, .p 2 0),(3, .p 3 0),(4, .p 4 0),eI2 12 t0 B0 m0 d0] [bR4 4 116 false none 0 0 false none 0 0,bR4 3 116 s1 A1 l1 c1 t1 B1 m1 d1,bR4 2 116 s0 A0 l0 c0 t0 B0 m0 d0] ?_))))))
 refine xc 189 [vI2 t0 B0 m0 d0] 13 (fun _:Unit=>.bool false) _ (fun w R Q=>(ZaS _ ((p.den:Int)) _ Q.1.2).mono (fun _ _ h=>Zaf h (by rw [decide_eq_false (p:=((p.den:Int))=0) (denI p)]))) (fun xx=>?_)
 refine xr 6 [(2, .p 2 0),(3, .p 3 0),(4, .p 4 0),(10, .v (.bool false))] [bR4 4 116 false none 0 0 false none 0 0,bR4 3 116 s1 A1 l1 c1 t1 B1 m1 d1,bR4 2 116 s0 A0 l0 c0 t0 B0 m0 d0] ?_
 refine xe (Zaa (xb (Zac (Zab (xr 2 [(2, .p 2 0),(3, .p 3 0),(4, .p 4 0),eI2 27 t0 B0 m0 d0] [bR4 4 116 false none 0 0 false none 0 0,bR4 3 116 s1 A1 l1 c1 t1 B1 m1 d1,bR4 2 116 s0 A0 l0 c0 t0 B0 m0 d0] ?_)))))
 refine xc 189 [vI2 t0 B0 m0 d0] 28 (fun _:Unit=>.bool false) _ (fun w R Q=>(ZaS _ ((p.den:Int)) _ Q.1.1.2).mono (fun _ _ h=>Zaf h (by rw [decide_eq_false (p:=((p.den:Int))=0) (denI p)]))) (fun xx=>?_)
 refine xr 1 [(2, .p 2 0),(3, .p 3 0),(4, .p 4 0),(25, .v (.bool false))] [bR4 4 116 false none 0 0 false none 0 0,bR4 3 116 s1 A1 l1 c1 t1 B1 m1 d1,bR4 2 116 s0 A0 l0 c0 t0 B0 m0 d0] ?_
 refine xe (Zaa (xb (Zac (Zab (xr 2 [(2, .p 2 0),(3, .p 3 0),(4, .p 4 0),eI2 42 t1 B1 m1 d1] [bR4 4 116 false none 0 0 false none 0 0,bR4 3 116 s1 A1 l1 c1 t1 B1 m1 d1,bR4 2 116 s0 A0 l0 c0 t0 B0 m0 d0] ?_)))))
 refine xc 189 [vI2 t1 B1 m1 d1] 43 (fun _:Unit=>.bool true) _ (fun w R Q=>(ZaS _ (0) _ Q.1.1.2).mono (fun _ _ h=>Zaf h (by rw [decide_eq_true (p:=(0)=0) rfl]))) (fun xx=>?_)
 refine xr 1 [(2, .p 2 0),(3, .p 3 0),(4, .p 4 0),(40, .v (.bool true))] [bR4 4 116 false none 0 0 false none 0 0,bR4 3 116 s1 A1 l1 c1 t1 B1 m1 d1,bR4 2 116 s0 A0 l0 c0 t0 B0 m0 d0] ?_
 refine xe (Zaa (xa (Zac ?_)))
 refine ZaE 12 (by kernel_rfl) (by kernel_rfl) Zal ?_
 refine xf 4 [(2, .p 2 0),(3, .p 3 0),(4, .p 4 0),eI2 45 s1 A1 l1 c1,eI2 47 t0 B0 m0 d0] [bR4 4 116 false none 0 0 false none 0 0,bR4 3 116 s1 A1 l1 c1 t1 B1 m1 d1,bR4 2 116 s0 A0 l0 c0 t0 B0 m0 d0] ?_
 refine xd 152 [vI2 s1 A1 l1 c1,vI2 t0 B0 m0 d0] 48 ZaB _ (fun w R Q=>(Zc2 _ _ ((q).num) ((p.den:Int)) _ Q.1.1.1.1.1.2.num Q.1.1.1.1.2 (fit S2 (by decide)) (fit S3 (by decide)) (Or.inl (Nat.lt_of_le_of_lt S2 (by decide)))).mono (fun _ _=>ZaR)) (fun xx=>?_)
 obtain ⟨s10,A10,l10,c10⟩:=xx
 refine xf 2 [(2, .p 2 0),(3, .p 3 0),(4, .p 4 0),eI2 48 s10 A10 l10 c10,eI2 50 s0 A0 l0 c0] [bR4 4 116 false none 0 0 false none 0 0,bR4 3 116 s1 A1 l1 c1 t1 B1 m1 d1,bR4 2 116 s0 A0 l0 c0 t0 B0 m0 d0] ?_
 refine xd 172 [vI2 s10 A10 l10 c10,vI2 s0 A0 l0 c0] 51 ZaB _ (fun w R Q=>(Ziq _ _ (((q).num) * ((p.den:Int))) ((p).num) _ Q.2 Q.1.1.1.1.1.1.1.num (fit (wlm S2 S3) (by decide)) (fit S1 (by decide))).mono (fun _ _=>ZaR)) (fun xx=>?_)
 obtain ⟨s11,A11,l11,c11⟩:=xx
 refine xf 4 [(2, .p 2 0),(3, .p 3 0),(4, .p 4 0)] [bR4 4 116 s11 A11 l11 c11 t0 B0 m0 d0,bR4 4 116 false none 0 0 false none 0 0,bR4 3 116 s1 A1 l1 c1 t1 B1 m1 d1,bR4 2 116 s0 A0 l0 c0 t0 B0 m0 d0] ?_
 refine xz (xe (Zaa (Zah (ZaM (Zaj ?_)))))
 refine Zae (v:=.agg #[.bool s11, .slice A11 l11 c11, .bool t0, .slice B0 m0 d0]) (by kernel_rfl) (fun w' R Q=>?_)
 exact ⟨_,rfl,Zap.of (by rw [HW.1]; exact Q.2) (by rw [ZoM HW.2 h1]; exact Q.1.1.1.1.1.1.2),R⟩
theorem ZsV (a b:Value) (p q:Rat) (w:World) (hg:Glob w) (ha:Zap w a p) (hb:Zap w b q) (hp:Zdx p 38) (hq:Zdx q 38) (h1:¬ p.den=1) (h2:¬ q.den=1) :
 Calls Tryz.prog 98 #[a,b] w (Zc3 w (p + q)):=by
 obtain ⟨s0,A0,l0,c0,t0,B0,m0,d0,rfl⟩:=ha.shp
 obtain ⟨s1,A1,l1,c1,t1,B1,m1,d1,rfl⟩:=hb.shp
 have S1:wl p.num.natAbs≤38:=hp.1
 have S2:wl q.num.natAbs≤38:=hq.1
 have hp2:wl p.den≤38:=hp.2
 have hq2:wl q.den≤38:=hq.2
 have S3:wl ((p.den:Nat):Int).natAbs≤38:=wlc hp2
 have S4:wl ((q.den:Nat):Int).natAbs≤38:=wlc hq2
 obtain ⟨c,ec⟩:∃ c,Nat.gcd p.den q.den=c:=⟨_,rfl⟩
 have hc0:c≠0:=by have:=p.den_nz; rw [← ec]; exact fun e=>this (Nat.gcd_eq_zero_iff.1 e).1
 have Sc:wl c≤38:=by rw [← ec]; exact Nat.le_trans (Zb4 (Nat.gcd_le_right _ (Nat.pos_of_ne_zero q.den_nz))) hq.2
 obtain ⟨n,en⟩:∃ n,(p).num * ((q.den / c:Nat):Int) + (q).num * ((p.den / c:Nat):Int)=n:=⟨_,rfl⟩
 have Sn:wl n.natAbs≤77:=by rw [← en]; exact wla (wlm S1 (wlc (wld hq2))) (wlm S2 (wlc (wld hp2)))
 have HA1:c=1→(p + q).num=n∧(p + q).den=p.den * q.den:=fun e=>by have h:=Zng (p:=p) (q:=q) (by rw [ec]; exact e); rw [← en,e,Nat.div_one,Nat.div_one]; exact h
 have HA2:c≠1→(p + q).num=n.tdiv (Int.gcd n c:Int)∧(p + q).den=p.den / c * (q.den / Int.gcd n c):=fun e=>ZrK ec e en
 have HA0:n=0→p + q=0:=fun e=>Rat.num_eq_zero.1 ((Decidable.em (c=1)).elim (fun h=>by rw [(HA1 h).1,e]) (fun h=>by rw [(HA2 h).1,e,Int.zero_tdiv]))
 have hci:(c:Int)≠0:=by omega
 refine Zan (Φ:=fun w=>((((Zap w (.agg #[.bool s0, .slice A0 l0 c0, .bool t0, .slice B0 m0 d0]) (p)∧Zap w (.agg #[.bool s1, .slice A1 l1 c1, .bool t1, .slice B1 m1 d1]) (q))∧Glob w)∧ZaC w (.agg #[.bool t0, .slice B0 m0 d0]) ((p.den:Int)))∧ZaC w (.agg #[.bool t1, .slice B1 m1 d1]) ((q.den:Int)))) Tryz.func98 rfl (by kernel_rfl) (fun w' hf=>⟨⟨⟨⟨ha.ext hf,hb.ext hf⟩,hg.ext hf⟩,(by have h:=ha.den; rw [ZbN h1] at h; exact h.ext hf)⟩,(by have h:=hb.den; rw [ZbN h2] at h; exact h.ext hf)⟩) ?_
 refine Zac (Zab (xr 3 [(2, .p 2 0),(3, .p 3 0),(4, .p 4 0)] [bR4 4 116 false none 0 0 false none 0 0,bR4 3 116 s1 A1 l1 c1 t1 B1 m1 d1,bR4 2 116 s0 A0 l0 c0 t0 B0 m0 d0] ?_))
 refine xe (Zaa (Zac (ZaK (Zac (Zab (xr 2 [(2, .p 2 0),(3, .p 3 0),(4, .p 4 0),eI2 12 t0 B0 m0 d0] [bR4 4 116 false none 0 0 false none 0 0,bR4 3 116 s1 A1 l1 c1 t1 B1 m1 d1,bR4 2 116 s0 A0 l0 c0 t0 B0 m0 d0] ?_))))))
 refine xc 189 [vI2 t0 B0 m0 d0] 13 (fun _:Unit=>.bool false) _ (fun w R Q=>(ZaS _ ((p.den:Int)) _ Q.1.2).mono (fun _ _ h=>Zaf h (by rw [decide_eq_false (p:=((p.den:Int))=0) (denI p)]))) (fun xx=>?_)
 refine xr 6 [(2, .p 2 0),(3, .p 3 0),(4, .p 4 0),(10, .v (.bool false))] [bR4 4 116 false none 0 0 false none 0 0,bR4 3 116 s1 A1 l1 c1 t1 B1 m1 d1,bR4 2 116 s0 A0 l0 c0 t0 B0 m0 d0] ?_
 refine xe (Zaa (xb (Zac (Zab (xr 2 [(2, .p 2 0),(3, .p 3 0),(4, .p 4 0),eI2 27 t0 B0 m0 d0] [bR4 4 116 false none 0 0 false none 0 0,bR4 3 116 s1 A1 l1 c1 t1 B1 m1 d1,bR4 2 116 s0 A0 l0 c0 t0 B0 m0 d0] ?_)))))
 refine xc 189 [vI2 t0 B0 m0 d0] 28 (fun _:Unit=>.bool false) _ (fun w R Q=>(ZaS _ ((p.den:Int)) _ Q.1.1.2).mono (fun _ _ h=>Zaf h (by rw [decide_eq_false (p:=((p.den:Int))=0) (denI p)]))) (fun xx=>?_)
 refine xr 1 [(2, .p 2 0),(3, .p 3 0),(4, .p 4 0),(25, .v (.bool false))] [bR4 4 116 false none 0 0 false none 0 0,bR4 3 116 s1 A1 l1 c1 t1 B1 m1 d1,bR4 2 116 s0 A0 l0 c0 t0 B0 m0 d0] ?_
 refine xe (Zaa (xb (Zac (Zab (xr 2 [(2, .p 2 0),(3, .p 3 0),(4, .p 4 0),eI2 42 t1 B1 m1 d1] [bR4 4 116 false none 0 0 false none 0 0,bR4 3 116 s1 A1 l1 c1 t1 B1 m1 d1,bR4 2 116 s0 A0 l0 c0 t0 B0 m0 d0] ?_)))))
 refine xc 189 [vI2 t1 B1 m1 d1] 43 (fun _:Unit=>.bool false) _ (fun w R Q=>(ZaS _ ((q.den:Int)) _ Q.1.1.2).mono (fun _ _ h=>Zaf h (by rw [decide_eq_false (p:=((q.den:Int))=0) (denI q)]))) (fun xx=>?_)
 refine xr 1 [(2, .p 2 0),(3, .p 3 0),(4, .p 4 0),(40, .v (.bool false))] [bR4 4 116 false none 0 0 false none 0 0,bR4 3 116 s1 A1 l1 c1 t1 B1 m1 d1,bR4 2 116 s0 A0 l0 c0 t0 B0 m0 d0] ?_
 refine xe (Zaa (xb (ZaA (ZcB (Zaa (Zac (Zab (xr 4 [(2, .p 2 0),(3, .p 3 0),(4, .p 4 0),eI2 56 t0 B0 m0 d0,eI2 58 t1 B1 m1 d1] [bR4 4 116 false none 0 0 false none 0 0,bR4 3 116 s1 A1 l1 c1 t1 B1 m1 d1,bR4 2 116 s0 A0 l0 c0 t0 B0 m0 d0] ?_))))))))
 refine xc 153 [vI2 t0 B0 m0 d0,vI2 t1 B1 m1 d1] 59 ZaB _ (fun w R Q=>(Zgu _ _ ((p.den:Int)) ((q.den:Int)) _ Q.1.1.1.1.1.2 Q.1.1.1.1.2 Q.1.1.1.2 (fit S3 (by decide)) (fit S4 (by decide)) (ZeU.words (Nat.le_trans S3 (by decide)) (Nat.le_trans S4 (by decide)))).mono (fun _ _ h=>ZaR (by rw [(show Int.gcd (p.den:Int) (q.den:Int)=c from ec)] at h; exact h))) (fun xx=>?_)
 obtain ⟨s10,A10,l10,c10⟩:=xx
 refine xr 2 [(2, .p 2 0),(3, .p 3 0),(4, .p 4 0),(5, .p 5 0)] [bI2 5 114 s10 A10 l10 c10,bR4 4 116 false none 0 0 false none 0 0,bR4 3 116 s1 A1 l1 c1 t1 B1 m1 d1,bR4 2 116 s0 A0 l0 c0 t0 B0 m0 d0] ?_
 refine xe (Zaa (Zac ?_))
 refine ZaE 12 (by kernel_rfl) (by kernel_rfl) Zal ?_
 refine xf 3 [(2, .p 2 0),(3, .p 3 0),(4, .p 4 0),(5, .p 5 0),eI2 61 t1 B1 m1 d1,eI2 62 s10 A10 l10 c10] [bI2 5 114 s10 A10 l10 c10,bR4 4 116 false none 0 0 false none 0 0,bR4 3 116 s1 A1 l1 c1 t1 B1 m1 d1,bR4 2 116 s0 A0 l0 c0 t0 B0 m0 d0] ?_
 refine xd 191 [vI2 t1 B1 m1 d1,vI2 s10 A10 l10 c10] 63 ZaB _ (fun w R Q=>(Zfn _ _ ((q.den:Int)) ((c:Int)) _ Q.1.1.1.1.2 Q.2 (fit S4 (by decide)) (Nat.lt_of_le_of_lt (wlc Sc) (by decide)) hci).mono (fun _ _ h=>ZaR (by rw [ZdD] at h; exact h))) (fun xx=>?_)
 obtain ⟨s11,A11,l11,c11⟩:=xx
 refine xf 3 [(2, .p 2 0),(3, .p 3 0),(4, .p 4 0),(5, .p 5 0),eI2 63 s11 A11 l11 c11,eI2 65 t0 B0 m0 d0,eI2 66 s10 A10 l10 c10] [bI2 5 114 s10 A10 l10 c10,bR4 4 116 false none 0 0 false none 0 0,bR4 3 116 s1 A1 l1 c1 t1 B1 m1 d1,bR4 2 116 s0 A0 l0 c0 t0 B0 m0 d0] ?_
 refine xd 191 [vI2 t0 B0 m0 d0,vI2 s10 A10 l10 c10] 67 ZaB _ (fun w R Q=>(Zfn _ _ ((p.den:Int)) ((c:Int)) _ Q.1.1.1.1.1.1.2 Q.1.2 (fit S3 (by decide)) (Nat.lt_of_le_of_lt (wlc Sc) (by decide)) hci).mono (fun _ _ h=>ZaR (by rw [ZdD] at h; exact h))) (fun xx=>?_)
 obtain ⟨s12,A12,l12,c12⟩:=xx
 refine xf 4 [(2, .p 2 0),(3, .p 3 0),(4, .p 4 0),(5, .p 5 0),(6, .p 6 0),(7, .p 7 0)] [bI2 7 114 s12 A12 l12 c12,bI2 6 114 s11 A11 l11 c11,bI2 7 114 false none 0 0,bI2 6 114 false none 0 0,bI2 5 114 s10 A10 l10 c10,bR4 4 116 false none 0 0 false none 0 0,bR4 3 116 s1 A1 l1 c1 t1 B1 m1 d1,bR4 2 116 s0 A0 l0 c0 t0 B0 m0 d0] ?_
 refine xz (xe (Zaa (Zac ?_)))
 refine ZaE 11 (by kernel_rfl) (by kernel_rfl) Zal ?_
 refine xf 3 [(2, .p 2 0),(3, .p 3 0),(4, .p 4 0),(5, .p 5 0),(7, .p 7 0),eI2 69 s0 A0 l0 c0,eI2 70 s11 A11 l11 c11] [bI2 7 114 s12 A12 l12 c12,bI2 6 114 s11 A11 l11 c11,bI2 7 114 false none 0 0,bI2 6 114 false none 0 0,bI2 5 114 s10 A10 l10 c10,bR4 4 116 false none 0 0 false none 0 0,bR4 3 116 s1 A1 l1 c1 t1 B1 m1 d1,bR4 2 116 s0 A0 l0 c0 t0 B0 m0 d0] ?_
 refine xd 152 [vI2 s0 A0 l0 c0,vI2 s11 A11 l11 c11] 71 ZaB _ (fun w R Q=>(Zc2 _ _ ((p).num) (((q.den / c:Nat):Int)) _ Q.1.1.1.1.1.1.1.1.1.1.num Q.1.2 (fit S1 (by decide)) (fit (wlc (wld hq2)) (by decide)) (Or.inl (Nat.lt_of_le_of_lt S1 (by decide)))).mono (fun _ _=>ZaR)) (fun xx=>?_)
 obtain ⟨s13,A13,l13,c13⟩:=xx
 refine xf 3 [(2, .p 2 0),(3, .p 3 0),(4, .p 4 0),(5, .p 5 0),(7, .p 7 0),eI2 71 s13 A13 l13 c13,eI2 73 s1 A1 l1 c1,eI2 74 s12 A12 l12 c12] [bI2 7 114 s12 A12 l12 c12,bI2 6 114 s11 A11 l11 c11,bI2 7 114 false none 0 0,bI2 6 114 false none 0 0,bI2 5 114 s10 A10 l10 c10,bR4 4 116 false none 0 0 false none 0 0,bR4 3 116 s1 A1 l1 c1 t1 B1 m1 d1,bR4 2 116 s0 A0 l0 c0 t0 B0 m0 d0] ?_
 refine xd 152 [vI2 s1 A1 l1 c1,vI2 s12 A12 l12 c12] 75 ZaB _ (fun w R Q=>(Zc2 _ _ ((q).num) (((p.den / c:Nat):Int)) _ Q.1.1.1.1.1.1.1.1.1.1.2.num Q.1.2 (fit S2 (by decide)) (fit (wlc (wld hp2)) (by decide)) (Or.inl (Nat.lt_of_le_of_lt S2 (by decide)))).mono (fun _ _=>ZaR)) (fun xx=>?_)
 obtain ⟨s14,A14,l14,c14⟩:=xx
 refine xf 0 [(2, .p 2 0),(3, .p 3 0),(4, .p 4 0),(5, .p 5 0),(7, .p 7 0),eI2 71 s13 A13 l13 c13,eI2 75 s14 A14 l14 c14] [bI2 7 114 s12 A12 l12 c12,bI2 6 114 s11 A11 l11 c11,bI2 7 114 false none 0 0,bI2 6 114 false none 0 0,bI2 5 114 s10 A10 l10 c10,bR4 4 116 false none 0 0 false none 0 0,bR4 3 116 s1 A1 l1 c1 t1 B1 m1 d1,bR4 2 116 s0 A0 l0 c0 t0 B0 m0 d0] ?_
 refine xd 172 [vI2 s13 A13 l13 c13,vI2 s14 A14 l14 c14] 76 ZaB _ (fun w R Q=>(Ziq _ _ (((p).num) * (((q.den / c:Nat):Int))) (((q).num) * (((p.den / c:Nat):Int))) _ Q.1.2 Q.2 (fit (wlm S1 (wlc (wld hq2))) (by decide)) (fit (wlm S2 (wlc (wld hp2))) (by decide))).mono (fun _ _ h=>ZaR (by rw [en] at h; exact h))) (fun xx=>?_)
 obtain ⟨s15,A15,l15,c15⟩:=xx
 refine xf 2 [(2, .p 2 0),(3, .p 3 0),(4, .p 4 0),(5, .p 5 0),(7, .p 7 0),(8, .p 8 0)] [bI2 8 114 s15 A15 l15 c15,bI2 8 114 false none 0 0,bI2 7 114 s12 A12 l12 c12,bI2 6 114 s11 A11 l11 c11,bI2 7 114 false none 0 0,bI2 6 114 false none 0 0,bI2 5 114 s10 A10 l10 c10,bR4 4 116 false none 0 0 false none 0 0,bR4 3 116 s1 A1 l1 c1 t1 B1 m1 d1,bR4 2 116 s0 A0 l0 c0 t0 B0 m0 d0] ?_
 refine xz (xe (Zaa (Zac (Zac (Zab (xr 1 [(2, .p 2 0),(3, .p 3 0),(4, .p 4 0),(5, .p 5 0),(7, .p 7 0),(8, .p 8 0),eI2 77 s15 A15 l15 c15] [bI2 8 114 s15 A15 l15 c15,bI2 7 114 s12 A12 l12 c12,bI2 5 114 s10 A10 l10 c10,bR4 4 116 false none 0 0 false none 0 0,bR4 3 116 s1 A1 l1 c1 t1 B1 m1 d1,bR4 2 116 s0 A0 l0 c0 t0 B0 m0 d0] ?_))))))
 by_cases hz16:(n)=0
 ·refine xc 189 [vI2 s15 A15 l15 c15] 78 (fun _:Unit=>.bool true) _ (fun w R Q=>(ZaS _ (n) _ Q.2).mono (fun _ _ h=>Zaf h (by rw [decide_eq_true (p:=(n)=0) hz16]))) (fun xx=>?_)
  refine xr 0 [(2, .p 2 0),(3, .p 3 0),(4, .p 4 0),(5, .p 5 0),(7, .p 7 0),(8, .p 8 0),(78, .v (.bool true))] [bI2 8 114 s15 A15 l15 c15,bI2 7 114 s12 A12 l12 c12,bI2 5 114 s10 A10 l10 c10,bR4 4 116 false none 0 0 false none 0 0,bR4 3 116 s1 A1 l1 c1 t1 B1 m1 d1,bR4 2 116 s0 A0 l0 c0 t0 B0 m0 d0] ?_
  refine xe (Zaa (xa (Zac (Zab (xr 2 [(2, .p 2 0),(3, .p 3 0),(4, .p 4 0),(5, .p 5 0),(7, .p 7 0),(8, .p 8 0)] [bI2 8 114 s15 A15 l15 c15,bI2 7 114 s12 A12 l12 c12,bI2 5 114 s10 A10 l10 c10,bR4 4 116 false none 0 0 false none 0 0,bR4 3 116 s1 A1 l1 c1 t1 B1 m1 d1,bR4 2 116 s0 A0 l0 c0 t0 B0 m0 d0] ?_)))))
  refine xe (Zaa (Zah (Zaj ?_)))
  refine Zae (v:=.agg #[.bool false, .slice none 0 0, .bool false, .slice none 0 0]) (by kernel_rfl) (fun w' R Q=>?_)
  exact ⟨_,rfl,by rw [HA0 hz16]; exact (Zap.nil _),R⟩
 ·refine xc 189 [vI2 s15 A15 l15 c15] 78 (fun _:Unit=>.bool false) _ (fun w R Q=>(ZaS _ (n) _ Q.2).mono (fun _ _ h=>Zaf h (by rw [decide_eq_false (p:=(n)=0) hz16]))) (fun xx=>?_)
  refine xr 0 [(2, .p 2 0),(3, .p 3 0),(4, .p 4 0),(5, .p 5 0),(7, .p 7 0),(8, .p 8 0),(78, .v (.bool false))] [bI2 8 114 s15 A15 l15 c15,bI2 7 114 s12 A12 l12 c12,bI2 5 114 s10 A10 l10 c10,bR4 4 116 false none 0 0 false none 0 0,bR4 3 116 s1 A1 l1 c1 t1 B1 m1 d1,bR4 2 116 s0 A0 l0 c0 t0 B0 m0 d0] ?_
  refine xe (Zaa (xb (ZaA (Zaa (Zac (Zac (Zab (xr 1 [(2, .p 2 0),(3, .p 3 0),(4, .p 4 0),(5, .p 5 0),(7, .p 7 0),(8, .p 8 0),eI2 80 s10 A10 l10 c10] [bI2 8 114 s15 A15 l15 c15,bI2 7 114 s12 A12 l12 c12,bI2 5 114 s10 A10 l10 c10,bR4 4 116 false none 0 0 false none 0 0,bR4 3 116 s1 A1 l1 c1 t1 B1 m1 d1,bR4 2 116 s0 A0 l0 c0 t0 B0 m0 d0] ?_))))))))
  by_cases hz17:((c:Int))=1
  ·refine xc 161 [vI2 s10 A10 l10 c10] 81 (fun _:Unit=>.bool true) _ (fun w R Q=>(Zc6 _ ((c:Int)) _ Q.1.1.1.1.1.1.2).mono (fun _ _ h=>Zaf h (by rw [decide_eq_true (p:=((c:Int))=1) hz17]))) (fun xx=>?_)
   refine xr 0 [(2, .p 2 0),(3, .p 3 0),(4, .p 4 0),(5, .p 5 0),(7, .p 7 0),(8, .p 8 0),(81, .v (.bool true))] [bI2 8 114 s15 A15 l15 c15,bI2 7 114 s12 A12 l12 c12,bI2 5 114 s10 A10 l10 c10,bR4 4 116 false none 0 0 false none 0 0,bR4 3 116 s1 A1 l1 c1 t1 B1 m1 d1,bR4 2 116 s0 A0 l0 c0 t0 B0 m0 d0] ?_
   refine xe (Zaa (xa (Zac ?_)))
   refine ZaE 8 (by kernel_rfl) (by kernel_rfl) Zal ?_
   refine xf 5 [(3, .p 3 0),(4, .p 4 0),(5, .p 5 0),(7, .p 7 0),(8, .p 8 0),eI2 82 s15 A15 l15 c15,eI2 84 t0 B0 m0 d0,eI2 86 t1 B1 m1 d1] [bI2 8 114 s15 A15 l15 c15,bI2 7 114 s12 A12 l12 c12,bI2 5 114 s10 A10 l10 c10,bR4 4 116 false none 0 0 false none 0 0,bR4 3 116 s1 A1 l1 c1 t1 B1 m1 d1,bR4 2 116 s0 A0 l0 c0 t0 B0 m0 d0] ?_
   refine xd 152 [vI2 t0 B0 m0 d0,vI2 t1 B1 m1 d1] 87 ZaB _ (fun w R Q=>(Zc2 _ _ ((p.den:Int)) ((q.den:Int)) _ Q.1.1.1.1.1.1.1.1.1.1.1.1.2 Q.1.1.1.1.1.1.1.1.1.1.1.2 (fit S3 (by decide)) (fit S4 (by decide)) (Or.inl (Nat.lt_of_le_of_lt S3 (by decide)))).mono (fun _ _=>ZaR)) (fun xx=>?_)
   obtain ⟨s18,A18,l18,c18⟩:=xx
   refine xf 0 [(3, .p 3 0),(4, .p 4 0),(5, .p 5 0),(7, .p 7 0),(8, .p 8 0),eI2 82 s15 A15 l15 c15,eI2 87 s18 A18 l18 c18] [bI2 8 114 s15 A15 l15 c15,bI2 7 114 s12 A12 l12 c12,bI2 5 114 s10 A10 l10 c10,bR4 4 116 false none 0 0 false none 0 0,bR4 3 116 s1 A1 l1 c1 t1 B1 m1 d1,bR4 2 116 s0 A0 l0 c0 t0 B0 m0 d0] ?_
   refine xd 141 [vI2 s15 A15 l15 c15,vI2 s18 A18 l18 c18] 88 Zak _ (fun w R Q=>(ZdK _ _ (n) (((p.den:Int)) * ((q.den:Int))) (p + q) _ Q.1.1.1.2 Q.2 (by obtain ⟨k1,k2⟩:=HA1 (by omega); exact ⟨k1,by rw [k2,Int.natCast_mul]⟩)).mono (fun _ _=>Za7)) (fun xx=>?_)
   obtain ⟨s19,A19,l19,c19,t19,B19,m19,d19⟩:=xx
   refine xf 1 [(3, .p 3 0),(4, .p 4 0),(5, .p 5 0),(7, .p 7 0),(8, .p 8 0)] [bR4 4 116 s19 A19 l19 c19 t19 B19 m19 d19,bI2 8 114 s15 A15 l15 c15,bI2 7 114 s12 A12 l12 c12,bI2 5 114 s10 A10 l10 c10,bR4 4 116 false none 0 0 false none 0 0,bR4 3 116 s1 A1 l1 c1 t1 B1 m1 d1,bR4 2 116 s0 A0 l0 c0 t0 B0 m0 d0] ?_
   refine xz (xe (Zaa (Zah (Zaj ?_))))
   refine Zae (v:=.agg #[.bool s19, .slice A19 l19 c19, .bool t19, .slice B19 m19 d19]) (by kernel_rfl) (fun w' R Q=>?_)
   exact ⟨_,rfl,Q.2,R⟩
  ·refine xc 161 [vI2 s10 A10 l10 c10] 81 (fun _:Unit=>.bool false) _ (fun w R Q=>(Zc6 _ ((c:Int)) _ Q.1.1.1.1.1.1.2).mono (fun _ _ h=>Zaf h (by rw [decide_eq_false (p:=((c:Int))=1) hz17]))) (fun xx=>?_)
   refine xr 0 [(2, .p 2 0),(3, .p 3 0),(4, .p 4 0),(5, .p 5 0),(7, .p 7 0),(8, .p 8 0),(81, .v (.bool false))] [bI2 8 114 s15 A15 l15 c15,bI2 7 114 s12 A12 l12 c12,bI2 5 114 s10 A10 l10 c10,bR4 4 116 false none 0 0 false none 0 0,bR4 3 116 s1 A1 l1 c1 t1 B1 m1 d1,bR4 2 116 s0 A0 l0 c0 t0 B0 m0 d0] ?_
   refine xe (Zaa (xb (ZaA (Zaa (Zac (Zab (xr 2 [(3, .p 3 0),(4, .p 4 0),(7, .p 7 0),(8, .p 8 0),eI2 89 s15 A15 l15 c15,eI2 90 s10 A10 l10 c10] [bI2 8 114 s15 A15 l15 c15,bI2 7 114 s12 A12 l12 c12,bR4 4 116 false none 0 0 false none 0 0,bR4 3 116 s1 A1 l1 c1 t1 B1 m1 d1] ?_)))))))
   refine xc 153 [vI2 s15 A15 l15 c15,vI2 s10 A10 l10 c10] 91 ZaB _ (fun w R Q=>(Zgu _ _ (n) ((c:Int)) _ Q.1.1.1.1.1.1.1.1.1.1.1.1.1.2 Q.1.1.2 Q.1.1.1.1.1.1.1.2 (fit Sn (by decide)) (fit (wlc Sc) (by decide)) (ZeU.words (Nat.le_trans Sn (by decide)) (Nat.le_trans (wlc Sc) (by decide)))).mono (fun _ _=>ZaR)) (fun xx=>?_)
   obtain ⟨s20,A20,l20,c20⟩:=xx
   refine xr 2 [(3, .p 3 0),(4, .p 4 0),(7, .p 7 0),(8, .p 8 0),(9, .p 9 0)] [bI2 9 114 s20 A20 l20 c20,bI2 8 114 s15 A15 l15 c15,bI2 7 114 s12 A12 l12 c12,bR4 4 116 false none 0 0 false none 0 0,bR4 3 116 s1 A1 l1 c1 t1 B1 m1 d1] ?_
   refine xe (Zaa (Zac ?_))
   refine ZaE 11 (by kernel_rfl) (by kernel_rfl) Zal ?_
   refine xf 2 [(3, .p 3 0),(4, .p 4 0),(7, .p 7 0),(9, .p 9 0),eI2 92 s15 A15 l15 c15,eI2 93 s20 A20 l20 c20] [bI2 9 114 s20 A20 l20 c20,bI2 8 114 s15 A15 l15 c15,bI2 7 114 s12 A12 l12 c12,bR4 4 116 false none 0 0 false none 0 0,bR4 3 116 s1 A1 l1 c1 t1 B1 m1 d1] ?_
   refine xd 191 [vI2 s15 A15 l15 c15,vI2 s20 A20 l20 c20] 94 ZaB _ (fun w R Q=>(Zfn _ _ (n) (((Int.gcd (n) ((c:Int)):Nat):Int)) _ Q.1.1.1.2 Q.2 (fit Sn (by decide)) (Nat.lt_of_le_of_lt (wlc (wlg (wlc Sc) hci)) (by decide)) (Zkj hci)).mono (fun _ _=>ZaR)) (fun xx=>?_)
   obtain ⟨s21,A21,l21,c21⟩:=xx
   refine xf 4 [(4, .p 4 0),eI2 94 s21 A21 l21 c21,eI2 95 s12 A12 l12 c12,eI2 97 t1 B1 m1 d1,eI2 98 s20 A20 l20 c20] [bI2 9 114 s20 A20 l20 c20,bI2 8 114 s15 A15 l15 c15,bI2 7 114 s12 A12 l12 c12,bR4 4 116 false none 0 0 false none 0 0,bR4 3 116 s1 A1 l1 c1 t1 B1 m1 d1] ?_
   refine xd 191 [vI2 t1 B1 m1 d1,vI2 s20 A20 l20 c20] 99 ZaB _ (fun w R Q=>(Zfn _ _ ((q.den:Int)) (((Int.gcd (n) ((c:Int)):Nat):Int)) _ Q.1.1.1.1.1.1.1.1.1.1.1.1.1.2 Q.1.2 (fit S4 (by decide)) (Nat.lt_of_le_of_lt (wlc (wlg (wlc Sc) hci)) (by decide)) (Zkj hci)).mono (fun _ _ h=>ZaR (by rw [ZdD] at h; exact h))) (fun xx=>?_)
   obtain ⟨s22,A22,l22,c22⟩:=xx
   refine xf 0 [(4, .p 4 0),eI2 94 s21 A21 l21 c21,eI2 95 s12 A12 l12 c12,eI2 99 s22 A22 l22 c22] [bI2 9 114 s20 A20 l20 c20,bI2 8 114 s15 A15 l15 c15,bI2 7 114 s12 A12 l12 c12,bR4 4 116 false none 0 0 false none 0 0,bR4 3 116 s1 A1 l1 c1 t1 B1 m1 d1] ?_
   refine xd 152 [vI2 s12 A12 l12 c12,vI2 s22 A22 l22 c22] 100 ZaB _ (fun w R Q=>(Zc2 _ _ (((p.den / c:Nat):Int)) (((q.den / Int.gcd (n) ((c:Int)):Nat):Int)) _ Q.1.1.1.1.1.1.1.1.2 Q.2 (fit (wlc (wld hp2)) (by decide)) (fit (wlc (wld hq2)) (by decide)) (Or.inl (Nat.lt_of_le_of_lt (wlc (wld hp2)) (by decide)))).mono (fun _ _=>ZaR)) (fun xx=>?_)
   obtain ⟨s23,A23,l23,c23⟩:=xx
   refine xf 0 [(4, .p 4 0),eI2 94 s21 A21 l21 c21,eI2 100 s23 A23 l23 c23] [bI2 9 114 s20 A20 l20 c20,bI2 8 114 s15 A15 l15 c15,bI2 7 114 s12 A12 l12 c12,bR4 4 116 false none 0 0 false none 0 0,bR4 3 116 s1 A1 l1 c1 t1 B1 m1 d1] ?_
   refine xd 141 [vI2 s21 A21 l21 c21,vI2 s23 A23 l23 c23] 101 Zak _ (fun w R Q=>(ZdK _ _ ((n).tdiv (((Int.gcd (n) ((c:Int)):Nat):Int))) ((((p.den / c:Nat):Int)) * (((q.den / Int.gcd (n) ((c:Int)):Nat):Int))) (p + q) _ Q.1.1.2 Q.2 (by obtain ⟨k1,k2⟩:=HA2 (by omega); exact ⟨k1,by rw [k2,Int.natCast_mul]⟩)).mono (fun _ _=>Za7)) (fun xx=>?_)
   obtain ⟨s24,A24,l24,c24,t24,B24,m24,d24⟩:=xx
   refine xf 1 [(4, .p 4 0)] [bR4 4 116 s24 A24 l24 c24 t24 B24 m24 d24,bI2 9 114 s20 A20 l20 c20,bI2 8 114 s15 A15 l15 c15,bI2 7 114 s12 A12 l12 c12,bR4 4 116 false none 0 0 false none 0 0,bR4 3 116 s1 A1 l1 c1 t1 B1 m1 d1] ?_
   refine xz (xe (Zaa (Zah ?_)))
   refine Zae (v:=.agg #[.bool s24, .slice A24 l24 c24, .bool t24, .slice B24 m24 d24]) (by kernel_rfl) (fun w' R Q=>?_)
   exact ⟨_,rfl,Q.2,R⟩
theorem Zg8 (a b:Value) (p q:Rat) (w:World) (hg:Glob w) (ha:Zap w a p) (hb:Zap w b q) (hp:Zdx p 38) (hq:Zdx q 38):Calls Tryz.prog 98 #[a,b] w (Zc3 w (p + q)):=by
 by_cases h1:p.den=1
 ·by_cases h2:q.den=1
  ·exact ZsS a b p q w ha hb hp hq h1 h2
  ·exact ZsT a b p q w ha hb hp hq h1 h2
 ·by_cases h2:q.den=1
  ·exact ZsU a b p q w ha hb hp hq h1 h2
  ·exact ZsV a b p q w hg ha hb hp hq h1 h2
theorem ZcU (a:Value) (q:Rat) (w:World) (ha:Zap w a q) :
 Calls Tryz.prog 192 #[a] w (RetV w (.bool (decide (q.num=0)))):=by
 obtain ⟨s0,A0,l0,c0,t0,B0,m0,d0,rfl⟩:=ha.shp
 refine Zan (Φ:=fun w=>Zap w (.agg #[.bool s0, .slice A0 l0 c0, .bool t0, .slice B0 m0 d0]) (q)) Tryz.func192 rfl (by kernel_rfl) (fun w' hf=>ha.ext hf) ?_
 refine Zac (Zab (xr 2 [(1, .p 1 0),(2, .v (.bool false))] [bR4 1 116 s0 A0 l0 c0 t0 B0 m0 d0] ?_))
 refine xe (Zaa (Zac (Zab (xr 2 [(2, .v (.bool false)),eI2 4 s0 A0 l0 c0] [] ?_))))
 refine xc 189 [vI2 s0 A0 l0 c0] 5 (fun _:Unit=>.bool (decide (q.num=0))) _ (fun w R Q=>(ZaS _ (q.num) _ Q.num).mono (fun _ _ h=>Zaf h rfl)) (fun xx=>?_)
 refine xr 1 [(2, .v (.bool (decide (q.num=0))))] [] ?_
 refine xe (Zaa (Zah ?_))
 refine Zae (v:=.bool (decide (q.num=0))) (by kernel_rfl) (fun w' R Q=>?_)
 exact ⟨rfl,R⟩
theorem Zh6 (a:Value) (q:Rat) (w:World) (ha:Zap w a q) :
 Calls Tryz.prog 200 #[a] w (RetV w (.int .i64 q.num.sign)):=by
 obtain ⟨s0,A0,l0,c0,t0,B0,m0,d0,rfl⟩:=ha.shp
 refine Zan (Φ:=fun w=>Zap w (.agg #[.bool s0, .slice A0 l0 c0, .bool t0, .slice B0 m0 d0]) (q)) Tryz.func200 rfl (by kernel_rfl) (fun w' hf=>ha.ext hf) ?_
 refine Zac (Zab (xr 2 [(1, .p 1 0),(2, .v (.int .i64 0))] [bR4 1 116 s0 A0 l0 c0 t0 B0 m0 d0] ?_))
 refine xe (Zaa (Zac (Zab (xr 2 [(2, .v (.int .i64 0)),eI2 4 s0 A0 l0 c0] [] ?_))))
 refine xc 223 [vI2 s0 A0 l0 c0] 5 (fun _:Unit=>.int .i64 q.num.sign) _ (fun w R Q=>(ZgQ _ (q.num) _ Q.num).mono (fun _ _ h=>Zaf h rfl)) (fun xx=>?_)
 refine xr 1 [(2, .v (.int .i64 q.num.sign))] [] ?_
 refine xe (Zaa (Zah ?_))
 refine Zae (v:=.int .i64 q.num.sign) (by kernel_rfl) (fun w' R Q=>?_)
 exact ⟨rfl,R⟩
theorem Zfe (a b:Value) (x y:Int) (w:World) (hg:Glob w) (ha:ZaC w a x) (hb:ZaC w b y) (hx:wl x.natAbs≤38) (hy:wl y.natAbs≤38) (h0:y≠0) :
 Calls Tryz.prog 190 #[a,b] w (ZoL w (x.tdiv ((Int.gcd x y:Nat):Int)) (y.tdiv ((Int.gcd x y:Nat):Int))):=by
 obtain ⟨s0,A0,l0,c0,rfl⟩:=ha.shp
 obtain ⟨s1,A1,l1,c1,rfl⟩:=hb.shp
 refine Zan (Φ:=fun w=>((ZaC w (.agg #[.bool s0, .slice A0 l0 c0]) (x)∧ZaC w (.agg #[.bool s1, .slice A1 l1 c1]) (y))∧Glob w)) Tryz.func190 rfl (by kernel_rfl) (fun w' hf=>⟨⟨ha.ext hf,hb.ext hf⟩,hg.ext hf⟩) ?_
 refine Zac (Zab (xr 4 [(2, .p 2 0),(3, .p 3 0),(4, .p 4 0),(5, .p 5 0)] [bI2 5 114 false none 0 0,bI2 4 114 false none 0 0,bI2 3 114 s1 A1 l1 c1,bI2 2 114 s0 A0 l0 c0] ?_))
 refine xe (Zaa (Zac (Zac (Zab (xr 1 [(2, .p 2 0),(3, .p 3 0),(4, .p 4 0),(5, .p 5 0),eI2 7 s1 A1 l1 c1] [bI2 5 114 false none 0 0,bI2 4 114 false none 0 0,bI2 3 114 s1 A1 l1 c1,bI2 2 114 s0 A0 l0 c0] ?_)))))
 by_cases hz10:(y)=1
 ·refine xc 161 [vI2 s1 A1 l1 c1] 8 (fun _:Unit=>.bool true) _ (fun w R Q=>(Zc6 _ (y) _ Q.1.2).mono (fun _ _ h=>Zaf h (by rw [decide_eq_true (p:=(y)=1) hz10]))) (fun xx=>?_)
  refine xr 0 [(2, .p 2 0),(3, .p 3 0),(4, .p 4 0),(5, .p 5 0),(8, .v (.bool true))] [bI2 5 114 false none 0 0,bI2 4 114 false none 0 0,bI2 3 114 s1 A1 l1 c1,bI2 2 114 s0 A0 l0 c0] ?_
  refine xe (Zaa (xa (Zac ?_)))
  refine ZaE 4 (by kernel_rfl) (by kernel_rfl) Zal ?_
  refine xf 4 [(2, .p 2 0),(3, .p 3 0),(4, .p 4 0),(5, .p 5 0)] [bI2 5 114 s1 A1 l1 c1,bI2 4 114 s0 A0 l0 c0,bI2 5 114 false none 0 0,bI2 4 114 false none 0 0,bI2 3 114 s1 A1 l1 c1,bI2 2 114 s0 A0 l0 c0] ?_
  refine xz (xe (Zaa (Zah (Zaj ?_))))
  refine Zae (v:=.tuple #[.agg #[.bool s0, .slice A0 l0 c0], .agg #[.bool s1, .slice A1 l1 c1]]) (by kernel_rfl) (fun w' R Q=>?_)
  exact ⟨_,_,rfl,by rw [hz10,Int.gcd_one_right]; simpa using Q.1.1.1,by rw [hz10,Int.gcd_one_right]; simpa [hz10] using Q.1.1.2,R⟩
 ·refine xc 161 [vI2 s1 A1 l1 c1] 8 (fun _:Unit=>.bool false) _ (fun w R Q=>(Zc6 _ (y) _ Q.1.2).mono (fun _ _ h=>Zaf h (by rw [decide_eq_false (p:=(y)=1) hz10]))) (fun xx=>?_)
  refine xr 0 [(2, .p 2 0),(3, .p 3 0),(4, .p 4 0),(5, .p 5 0),(8, .v (.bool false))] [bI2 5 114 false none 0 0,bI2 4 114 false none 0 0,bI2 3 114 s1 A1 l1 c1,bI2 2 114 s0 A0 l0 c0] ?_
  refine xe (Zaa (xb (ZaA (Zaa (Zac (Zab (xr 2 [(2, .p 2 0),(3, .p 3 0),(4, .p 4 0),(5, .p 5 0),eI2 11 s0 A0 l0 c0,eI2 12 s1 A1 l1 c1] [bI2 5 114 false none 0 0,bI2 4 114 false none 0 0,bI2 3 114 s1 A1 l1 c1,bI2 2 114 s0 A0 l0 c0] ?_)))))))
  refine xc 153 [vI2 s0 A0 l0 c0,vI2 s1 A1 l1 c1] 13 ZaB _ (fun w R Q=>(Zgu _ _ (x) (y) _ Q.1.2 Q.1.1.1 Q.1.1.2 (fit hx (by decide)) (fit hy (by decide)) (ZeU.words (Nat.le_trans hx (by decide)) (Nat.le_trans hy (by decide)))).mono (fun _ _=>ZaR)) (fun xx=>?_)
  obtain ⟨s11,A11,l11,c11⟩:=xx
  refine xr 2 [(2, .p 2 0),(3, .p 3 0),(4, .p 4 0),(5, .p 5 0),(6, .p 6 0)] [bI2 6 114 s11 A11 l11 c11,bI2 5 114 false none 0 0,bI2 4 114 false none 0 0,bI2 3 114 s1 A1 l1 c1,bI2 2 114 s0 A0 l0 c0] ?_
  refine xe (Zaa (Zac ?_))
  refine ZaE 8 (by kernel_rfl) (by kernel_rfl) Zal ?_
  refine xf 2 [(3, .p 3 0),(4, .p 4 0),(5, .p 5 0),(6, .p 6 0),eI2 14 s0 A0 l0 c0,eI2 15 s11 A11 l11 c11] [bI2 6 114 s11 A11 l11 c11,bI2 5 114 false none 0 0,bI2 4 114 false none 0 0,bI2 3 114 s1 A1 l1 c1,bI2 2 114 s0 A0 l0 c0] ?_
  refine xd 191 [vI2 s0 A0 l0 c0,vI2 s11 A11 l11 c11] 16 ZaB _ (fun w R Q=>(Zfn _ _ (x) (((Int.gcd (x) (y):Nat):Int)) _ Q.1.1.1.1 Q.2 (fit hx (by decide)) (Nat.lt_of_le_of_lt (wlc (wlg hy h0)) (by decide)) (Zkj h0)).mono (fun _ _=>ZaR)) (fun xx=>?_)
  obtain ⟨s12,A12,l12,c12⟩:=xx
  refine xf 2 [(4, .p 4 0),(5, .p 5 0),eI2 16 s12 A12 l12 c12,eI2 17 s1 A1 l1 c1,eI2 18 s11 A11 l11 c11] [bI2 6 114 s11 A11 l11 c11,bI2 5 114 false none 0 0,bI2 4 114 false none 0 0,bI2 3 114 s1 A1 l1 c1,bI2 2 114 s0 A0 l0 c0] ?_
  refine xd 191 [vI2 s1 A1 l1 c1,vI2 s11 A11 l11 c11] 19 ZaB _ (fun w R Q=>(Zfn _ _ (y) (((Int.gcd (x) (y):Nat):Int)) _ Q.1.1.1.1.2 Q.1.2 (fit hy (by decide)) (Nat.lt_of_le_of_lt (wlc (wlg hy h0)) (by decide)) (Zkj h0)).mono (fun _ _=>ZaR)) (fun xx=>?_)
  obtain ⟨s13,A13,l13,c13⟩:=xx
  refine xf 2 [(4, .p 4 0),(5, .p 5 0)] [bI2 5 114 s13 A13 l13 c13,bI2 4 114 s12 A12 l12 c12,bI2 6 114 s11 A11 l11 c11,bI2 5 114 false none 0 0,bI2 4 114 false none 0 0,bI2 3 114 s1 A1 l1 c1,bI2 2 114 s0 A0 l0 c0] ?_
  refine xz (xe (Zaa (Zah ?_)))
  refine Zae (v:=.tuple #[.agg #[.bool s12, .slice A12 l12 c12], .agg #[.bool s13, .slice A13 l13 c13]]) (by kernel_rfl) (fun w' R Q=>?_)
  exact ⟨_,_,rfl,Q.1.2,Q.2,R⟩
theorem ZdE (a b:Value) (p q:Rat) (w:World) (hg:Glob w) (ha:Zap w a p) (hb:Zap w b q) (hp:Zdx p 38) (hq:Zdx q 38) :
 Calls Tryz.prog 96 #[a,b] w (Zc3 w (p * q)):=by
 obtain ⟨s0,A0,l0,c0,t0,B0,m0,d0,rfl⟩:=ha.shp
 obtain ⟨s1,A1,l1,c1,t1,B1,m1,d1,rfl⟩:=hb.shp
 have S1:wl p.num.natAbs≤38:=hp.1
 have S2:wl q.num.natAbs≤38:=hq.1
 have hp2:wl p.den≤38:=hp.2
 have hq2:wl q.den≤38:=hq.2
 have S3:wl ((p.den:Nat):Int).natAbs≤38:=wlc hp2
 have S4:wl ((q.den:Nat):Int).natAbs≤38:=wlc hq2
 refine Zan (Φ:=fun w=>((Zap w (.agg #[.bool s0, .slice A0 l0 c0, .bool t0, .slice B0 m0 d0]) (p)∧Zap w (.agg #[.bool s1, .slice A1 l1 c1, .bool t1, .slice B1 m1 d1]) (q))∧Glob w)) Tryz.func96 rfl (by kernel_rfl) (fun w' hf=>⟨⟨ha.ext hf,hb.ext hf⟩,hg.ext hf⟩) ?_
 refine Zac (Zab (xr 3 [(2, .p 2 0),(3, .p 3 0),(4, .p 4 0)] [bR4 4 116 false none 0 0 false none 0 0,bR4 3 116 s1 A1 l1 c1 t1 B1 m1 d1,bR4 2 116 s0 A0 l0 c0 t0 B0 m0 d0] ?_))
 refine xe (Zaa (Zac (Zac (Zab (xr 2 [(2, .p 2 0),(3, .p 3 0),(4, .p 4 0),eI2 10 s0 A0 l0 c0] [bR4 4 116 false none 0 0 false none 0 0,bR4 3 116 s1 A1 l1 c1 t1 B1 m1 d1,bR4 2 116 s0 A0 l0 c0 t0 B0 m0 d0] ?_)))))
 by_cases hz10:((p).num)=0
 ·refine xc 189 [vI2 s0 A0 l0 c0] 11 (fun _:Unit=>.bool true) _ (fun w R Q=>(ZaS _ ((p).num) _ Q.1.1.num).mono (fun _ _ h=>Zaf h (by rw [decide_eq_true (p:=((p).num)=0) hz10]))) (fun xx=>?_)
  refine xr 5 [(2, .p 2 0),(3, .p 3 0),(4, .p 4 0),(16, .v (.bool true))] [bR4 4 116 false none 0 0 false none 0 0,bR4 3 116 s1 A1 l1 c1 t1 B1 m1 d1,bR4 2 116 s0 A0 l0 c0 t0 B0 m0 d0] ?_
  refine xe (Zaa (xa (Zac (Zab (xr 2 [(2, .p 2 0),(3, .p 3 0),(4, .p 4 0)] [bR4 4 116 false none 0 0 false none 0 0,bR4 3 116 s1 A1 l1 c1 t1 B1 m1 d1,bR4 2 116 s0 A0 l0 c0 t0 B0 m0 d0] ?_)))))
  refine xe (Zaa (Zah (Zaj ?_)))
  refine Zae (v:=.agg #[.bool false, .slice none 0 0, .bool false, .slice none 0 0]) (by kernel_rfl) (fun w' R Q=>?_)
  exact ⟨_,rfl,by rw [Zod hz10]; exact Zap.nil _,R⟩
 ·refine xc 189 [vI2 s0 A0 l0 c0] 11 (fun _:Unit=>.bool false) _ (fun w R Q=>(ZaS _ ((p).num) _ Q.1.1.num).mono (fun _ _ h=>Zaf h (by rw [decide_eq_false (p:=((p).num)=0) hz10]))) (fun xx=>?_)
  refine xr 3 [(2, .p 2 0),(3, .p 3 0),(4, .p 4 0),(12, .v (.bool false)),eI2 14 s1 A1 l1 c1] [bR4 4 116 false none 0 0 false none 0 0,bR4 3 116 s1 A1 l1 c1 t1 B1 m1 d1,bR4 2 116 s0 A0 l0 c0 t0 B0 m0 d0] ?_
  by_cases hz11:((q).num)=0
  ·refine xc 189 [vI2 s1 A1 l1 c1] 15 (fun _:Unit=>.bool true) _ (fun w R Q=>(ZaS _ ((q).num) _ Q.1.1.2.num).mono (fun _ _ h=>Zaf h (by rw [decide_eq_true (p:=((q).num)=0) hz11]))) (fun xx=>?_)
   refine xr 1 [(2, .p 2 0),(3, .p 3 0),(4, .p 4 0),(16, .v (.bool true))] [bR4 4 116 false none 0 0 false none 0 0,bR4 3 116 s1 A1 l1 c1 t1 B1 m1 d1,bR4 2 116 s0 A0 l0 c0 t0 B0 m0 d0] ?_
   refine xe (Zaa (xa (Zac (Zab (xr 2 [(2, .p 2 0),(3, .p 3 0),(4, .p 4 0)] [bR4 4 116 false none 0 0 false none 0 0,bR4 3 116 s1 A1 l1 c1 t1 B1 m1 d1,bR4 2 116 s0 A0 l0 c0 t0 B0 m0 d0] ?_)))))
   refine xe (Zaa (Zah (Zaj ?_)))
   refine Zae (v:=.agg #[.bool false, .slice none 0 0, .bool false, .slice none 0 0]) (by kernel_rfl) (fun w' R Q=>?_)
   exact ⟨_,rfl,by rw [Zoe hz11]; exact Zap.nil _,R⟩
  ·refine xc 189 [vI2 s1 A1 l1 c1] 15 (fun _:Unit=>.bool false) _ (fun w R Q=>(ZaS _ ((q).num) _ Q.1.1.2.num).mono (fun _ _ h=>Zaf h (by rw [decide_eq_false (p:=((q).num)=0) hz11]))) (fun xx=>?_)
   refine xr 1 [(2, .p 2 0),(3, .p 3 0),(4, .p 4 0),(16, .v (.bool false))] [bR4 4 116 false none 0 0 false none 0 0,bR4 3 116 s1 A1 l1 c1 t1 B1 m1 d1,bR4 2 116 s0 A0 l0 c0 t0 B0 m0 d0] ?_
   refine xe (Zaa (xb (ZaA (Zaa (Zac (Zac (Zab (xr 2 [(2, .p 2 0),(3, .p 3 0),(4, .p 4 0),eI2 19 t0 B0 m0 d0] [bR4 4 116 false none 0 0 false none 0 0,bR4 3 116 s1 A1 l1 c1 t1 B1 m1 d1,bR4 2 116 s0 A0 l0 c0 t0 B0 m0 d0] ?_))))))))
   by_cases hz12:(denF (p))=0
   ·refine xc 189 [vI2 t0 B0 m0 d0] 20 (fun _:Unit=>.bool true) _ (fun w R Q=>(ZaS _ (denF (p)) _ Q.1.1.1.1.den).mono (fun _ _ h=>Zaf h (by rw [decide_eq_true (p:=(denF (p))=0) hz12]))) (fun xx=>?_)
    refine xr 3 [(2, .p 2 0),(3, .p 3 0),(4, .p 4 0),(21, .v (.bool true)),eI2 23 t1 B1 m1 d1] [bR4 4 116 false none 0 0 false none 0 0,bR4 3 116 s1 A1 l1 c1 t1 B1 m1 d1,bR4 2 116 s0 A0 l0 c0 t0 B0 m0 d0] ?_
    by_cases hz13:(denF (q))=0
    ·refine xc 189 [vI2 t1 B1 m1 d1] 24 (fun _:Unit=>.bool true) _ (fun w R Q=>(ZaS _ (denF (q)) _ Q.1.1.1.1.2.den).mono (fun _ _ h=>Zaf h (by rw [decide_eq_true (p:=(denF (q))=0) hz13]))) (fun xx=>?_)
     refine xr 1 [(2, .p 2 0),(3, .p 3 0),(4, .p 4 0),(25, .v (.bool true))] [bR4 4 116 false none 0 0 false none 0 0,bR4 3 116 s1 A1 l1 c1 t1 B1 m1 d1,bR4 2 116 s0 A0 l0 c0 t0 B0 m0 d0] ?_
     refine xe (Zaa (xa (Zac (Zab (xr 4 [(2, .p 2 0),(3, .p 3 0),(4, .p 4 0),eI2 27 s0 A0 l0 c0,eI2 29 s1 A1 l1 c1] [bR4 4 116 false none 0 0 false none 0 0,bR4 3 116 s1 A1 l1 c1 t1 B1 m1 d1,bR4 2 116 s0 A0 l0 c0 t0 B0 m0 d0] ?_)))))
     refine xc 152 [vI2 s0 A0 l0 c0,vI2 s1 A1 l1 c1] 30 ZaB _ (fun w R Q=>(Zc2 _ _ ((p).num) ((q).num) _ Q.1.1.1.1.1.1.num Q.1.1.1.1.1.2.num (fit S1 (by decide)) (fit S2 (by decide)) (Or.inl (Nat.lt_of_le_of_lt S1 (by decide)))).mono (fun _ _=>ZaR)) (fun xx=>?_)
     obtain ⟨s14,A14,l14,c14⟩:=xx
     refine xr 2 [(2, .p 2 0),(3, .p 3 0),(4, .p 4 0)] [bR4 4 116 s14 A14 l14 c14 false none 0 0,bR4 3 116 s1 A1 l1 c1 t1 B1 m1 d1,bR4 2 116 s0 A0 l0 c0 t0 B0 m0 d0] ?_
     refine xe (Zaa (Zah (Zaj ?_)))
     refine Zae (v:=.agg #[.bool s14, .slice A14 l14 c14, .bool false, .slice none 0 0]) (by kernel_rfl) (fun w' R Q=>?_)
     have HW:=Zfa (Znh.1 hz12) (Znh.1 hz13)
     exact ⟨_,rfl,Zap.of (by rw [HW.1]; exact Q.2) (by rw [Zbd HW.2]; exact (ZaC.nil _)),R⟩
    ·refine xc 189 [vI2 t1 B1 m1 d1] 24 (fun _:Unit=>.bool false) _ (fun w R Q=>(ZaS _ (denF (q)) _ Q.1.1.1.1.2.den).mono (fun _ _ h=>Zaf h (by rw [decide_eq_false (p:=(denF (q))=0) hz13]))) (fun xx=>?_)
     refine xr 1 [(2, .p 2 0),(3, .p 3 0),(4, .p 4 0),(25, .v (.bool false))] [bR4 4 116 false none 0 0 false none 0 0,bR4 3 116 s1 A1 l1 c1 t1 B1 m1 d1,bR4 2 116 s0 A0 l0 c0 t0 B0 m0 d0] ?_
     refine xe (Zaa (xb (ZaA (Zaa (Zac ?_)))))
     refine ZaE 12 (by kernel_rfl) (by kernel_rfl) Zal ?_
     refine xf 3 [(2, .p 2 0),(3, .p 3 0),(4, .p 4 0),eI2 34 s0 A0 l0 c0,eR4 35 s1 A1 l1 c1 t1 B1 m1 d1] [bR4 4 116 false none 0 0 false none 0 0,bR4 3 116 s1 A1 l1 c1 t1 B1 m1 d1,bR4 2 116 s0 A0 l0 c0 t0 B0 m0 d0] ?_
     refine xd 140 [vR4 s1 A1 l1 c1 t1 B1 m1 d1] 36 ZaB _ (fun w R Q=>(Zfj _ (q) _ Q.1.1.1.1.1.2).mono (fun _ _=>ZaR)) (fun xx=>?_)
     obtain ⟨s15,A15,l15,c15⟩:=xx
     refine xf 0 [(2, .p 2 0),(3, .p 3 0),(4, .p 4 0),eI2 34 s0 A0 l0 c0,eI2 36 s15 A15 l15 c15] [bR4 4 116 false none 0 0 false none 0 0,bR4 3 116 s1 A1 l1 c1 t1 B1 m1 d1,bR4 2 116 s0 A0 l0 c0 t0 B0 m0 d0] ?_
     refine xd 190 [vI2 s0 A0 l0 c0,vI2 s15 A15 l15 c15] 37 ZdZ _ (fun w R Q=>(Zfe _ _ ((p).num) (((q).den:Int)) _ Q.1.1.1.1.1.2 Q.1.1.1.1.1.1.1.num Q.2 S1 S4 (denI q)).mono (fun _ _=>Zf9)) (fun xx=>?_)
     obtain ⟨⟨s16,A16,l16,c16⟩,⟨s17,A17,l17,c17⟩⟩:=xx
     refine xf 7 [(2, .p 2 0),(3, .p 3 0),(4, .p 4 0),(5, .p 5 0),(6, .p 6 0)] [bI2 6 114 s17 A17 l17 c17,bI2 5 114 s16 A16 l16 c16,bI2 6 114 false none 0 0,bI2 5 114 false none 0 0,bR4 4 116 false none 0 0 false none 0 0,bR4 3 116 s1 A1 l1 c1 t1 B1 m1 d1,bR4 2 116 s0 A0 l0 c0 t0 B0 m0 d0] ?_
     refine xz (xe (Zaa (Zac ?_)))
     refine ZaE 12 (by kernel_rfl) (by kernel_rfl) Zal ?_
     refine xf 3 [(4, .p 4 0),(5, .p 5 0),(6, .p 6 0),eI2 42 s1 A1 l1 c1,eR4 43 s0 A0 l0 c0 t0 B0 m0 d0] [bI2 6 114 s17 A17 l17 c17,bI2 5 114 s16 A16 l16 c16,bI2 6 114 false none 0 0,bI2 5 114 false none 0 0,bR4 4 116 false none 0 0 false none 0 0,bR4 3 116 s1 A1 l1 c1 t1 B1 m1 d1,bR4 2 116 s0 A0 l0 c0 t0 B0 m0 d0] ?_
     refine xd 140 [vR4 s0 A0 l0 c0 t0 B0 m0 d0] 44 ZaB _ (fun w R Q=>(Zfj _ (p) _ Q.1.1.1.1.1.1.1.1).mono (fun _ _=>ZaR)) (fun xx=>?_)
     obtain ⟨s18,A18,l18,c18⟩:=xx
     refine xf 0 [(4, .p 4 0),(5, .p 5 0),(6, .p 6 0),eI2 42 s1 A1 l1 c1,eI2 44 s18 A18 l18 c18] [bI2 6 114 s17 A17 l17 c17,bI2 5 114 s16 A16 l16 c16,bI2 6 114 false none 0 0,bI2 5 114 false none 0 0,bR4 4 116 false none 0 0 false none 0 0,bR4 3 116 s1 A1 l1 c1 t1 B1 m1 d1,bR4 2 116 s0 A0 l0 c0 t0 B0 m0 d0] ?_
     refine xd 190 [vI2 s1 A1 l1 c1,vI2 s18 A18 l18 c18] 45 ZdZ _ (fun w R Q=>(Zfe _ _ ((q).num) (((p).den:Int)) _ Q.1.1.1.1.1.1.1.2 Q.1.1.1.1.1.1.1.1.2.num Q.2 S2 S3 (denI p)).mono (fun _ _=>Zf9)) (fun xx=>?_)
     obtain ⟨⟨s19,A19,l19,c19⟩,⟨s20,A20,l20,c20⟩⟩:=xx
     refine xf 7 [(4, .p 4 0),(5, .p 5 0),(6, .p 6 0),(7, .p 7 0),(8, .p 8 0)] [bI2 8 114 s20 A20 l20 c20,bI2 7 114 s19 A19 l19 c19,bI2 8 114 false none 0 0,bI2 7 114 false none 0 0,bI2 6 114 s17 A17 l17 c17,bI2 5 114 s16 A16 l16 c16,bI2 6 114 false none 0 0,bI2 5 114 false none 0 0,bR4 4 116 false none 0 0 false none 0 0,bR4 3 116 s1 A1 l1 c1 t1 B1 m1 d1,bR4 2 116 s0 A0 l0 c0 t0 B0 m0 d0] ?_
     refine xz (xe (Zaa (Zac ?_)))
     refine ZaE 8 (by kernel_rfl) (by kernel_rfl) Zal ?_
     refine xf 2 [(4, .p 4 0),(6, .p 6 0),(8, .p 8 0),eI2 48 s16 A16 l16 c16,eI2 49 s19 A19 l19 c19] [bI2 8 114 s20 A20 l20 c20,bI2 7 114 s19 A19 l19 c19,bI2 8 114 false none 0 0,bI2 7 114 false none 0 0,bI2 6 114 s17 A17 l17 c17,bI2 5 114 s16 A16 l16 c16,bI2 6 114 false none 0 0,bI2 5 114 false none 0 0,bR4 4 116 false none 0 0 false none 0 0,bR4 3 116 s1 A1 l1 c1 t1 B1 m1 d1,bR4 2 116 s0 A0 l0 c0 t0 B0 m0 d0] ?_
     refine xd 152 [vI2 s16 A16 l16 c16,vI2 s19 A19 l19 c19] 50 ZaB _ (fun w R Q=>(Zc2 _ _ (((p).num).tdiv (((Int.gcd ((p).num) (((q).den:Int)):Nat):Int))) (((q).num).tdiv (((Int.gcd ((q).num) (((p).den:Int)):Nat):Int))) _ Q.1.1.2.1 Q.2.1 (fit (wlq S1) (by decide)) (fit (wlq S2) (by decide)) (Or.inl (Nat.lt_of_le_of_lt (wlq S1) (by decide)))).mono (fun _ _=>ZaR)) (fun xx=>?_)
     obtain ⟨s21,A21,l21,c21⟩:=xx
     refine xf 2 [(4, .p 4 0),eI2 50 s21 A21 l21 c21,eI2 51 s20 A20 l20 c20,eI2 52 s17 A17 l17 c17] [bI2 8 114 s20 A20 l20 c20,bI2 7 114 s19 A19 l19 c19,bI2 8 114 false none 0 0,bI2 7 114 false none 0 0,bI2 6 114 s17 A17 l17 c17,bI2 5 114 s16 A16 l16 c16,bI2 6 114 false none 0 0,bI2 5 114 false none 0 0,bR4 4 116 false none 0 0 false none 0 0,bR4 3 116 s1 A1 l1 c1 t1 B1 m1 d1,bR4 2 116 s0 A0 l0 c0 t0 B0 m0 d0] ?_
     refine xd 152 [vI2 s20 A20 l20 c20,vI2 s17 A17 l17 c17] 53 ZaB _ (fun w R Q=>(Zc2 _ _ ((((p).den:Int)).tdiv (((Int.gcd ((q).num) (((p).den:Int)):Nat):Int))) ((((q).den:Int)).tdiv (((Int.gcd ((p).num) (((q).den:Int)):Nat):Int))) _ Q.1.2.2 Q.1.1.1.2.2 (fit (wlq S3) (by decide)) (fit (wlq S4) (by decide)) (Or.inl (Nat.lt_of_le_of_lt (wlq S3) (by decide)))).mono (fun _ _=>ZaR)) (fun xx=>?_)
     obtain ⟨s22,A22,l22,c22⟩:=xx
     refine xf 0 [(4, .p 4 0),eI2 50 s21 A21 l21 c21,eI2 53 s22 A22 l22 c22] [bI2 8 114 s20 A20 l20 c20,bI2 7 114 s19 A19 l19 c19,bI2 8 114 false none 0 0,bI2 7 114 false none 0 0,bI2 6 114 s17 A17 l17 c17,bI2 5 114 s16 A16 l16 c16,bI2 6 114 false none 0 0,bI2 5 114 false none 0 0,bR4 4 116 false none 0 0 false none 0 0,bR4 3 116 s1 A1 l1 c1 t1 B1 m1 d1,bR4 2 116 s0 A0 l0 c0 t0 B0 m0 d0] ?_
     refine xd 141 [vI2 s21 A21 l21 c21,vI2 s22 A22 l22 c22] 54 Zak _ (fun w R Q=>(ZdK _ _ ((((p).num).tdiv (((Int.gcd ((p).num) (((q).den:Int)):Nat):Int))) * (((q).num).tdiv (((Int.gcd ((q).num) (((p).den:Int)):Nat):Int)))) (((((p).den:Int)).tdiv (((Int.gcd ((q).num) (((p).den:Int)):Nat):Int))) * ((((q).den:Int)).tdiv (((Int.gcd ((p).num) (((q).den:Int)):Nat):Int)))) (p * q) _ Q.1.2 Q.2 (by obtain ⟨k1,k2⟩:=Zkh p q; exact ⟨k1,by rw [k2,Int.natCast_mul,← ZdD,← ZdD]⟩)).mono (fun _ _=>Za7)) (fun xx=>?_)
     obtain ⟨s23,A23,l23,c23,t23,B23,m23,d23⟩:=xx
     refine xf 1 [(4, .p 4 0)] [bR4 4 116 s23 A23 l23 c23 t23 B23 m23 d23,bI2 8 114 s20 A20 l20 c20,bI2 7 114 s19 A19 l19 c19,bI2 8 114 false none 0 0,bI2 7 114 false none 0 0,bI2 6 114 s17 A17 l17 c17,bI2 5 114 s16 A16 l16 c16,bI2 6 114 false none 0 0,bI2 5 114 false none 0 0,bR4 4 116 false none 0 0 false none 0 0,bR4 3 116 s1 A1 l1 c1 t1 B1 m1 d1,bR4 2 116 s0 A0 l0 c0 t0 B0 m0 d0] ?_
     refine xz (xe (Zaa (Zah ?_)))
     refine Zae (v:=.agg #[.bool s23, .slice A23 l23 c23, .bool t23, .slice B23 m23 d23]) (by kernel_rfl) (fun w' R Q=>?_)
     exact ⟨_,rfl,Q.2,R⟩
   ·refine xc 189 [vI2 t0 B0 m0 d0] 20 (fun _:Unit=>.bool false) _ (fun w R Q=>(ZaS _ (denF (p)) _ Q.1.1.1.1.den).mono (fun _ _ h=>Zaf h (by rw [decide_eq_false (p:=(denF (p))=0) hz12]))) (fun xx=>?_)
    refine xr 5 [(2, .p 2 0),(3, .p 3 0),(4, .p 4 0),(25, .v (.bool false))] [bR4 4 116 false none 0 0 false none 0 0,bR4 3 116 s1 A1 l1 c1 t1 B1 m1 d1,bR4 2 116 s0 A0 l0 c0 t0 B0 m0 d0] ?_
    refine xe (Zaa (xb (ZaA (Zaa (Zac ?_)))))
    refine ZaE 12 (by kernel_rfl) (by kernel_rfl) Zal ?_
    refine xf 3 [(2, .p 2 0),(3, .p 3 0),(4, .p 4 0),eI2 34 s0 A0 l0 c0,eR4 35 s1 A1 l1 c1 t1 B1 m1 d1] [bR4 4 116 false none 0 0 false none 0 0,bR4 3 116 s1 A1 l1 c1 t1 B1 m1 d1,bR4 2 116 s0 A0 l0 c0 t0 B0 m0 d0] ?_
    refine xd 140 [vR4 s1 A1 l1 c1 t1 B1 m1 d1] 36 ZaB _ (fun w R Q=>(Zfj _ (q) _ Q.1.1.1.1.2).mono (fun _ _=>ZaR)) (fun xx=>?_)
    obtain ⟨s24,A24,l24,c24⟩:=xx
    refine xf 0 [(2, .p 2 0),(3, .p 3 0),(4, .p 4 0),eI2 34 s0 A0 l0 c0,eI2 36 s24 A24 l24 c24] [bR4 4 116 false none 0 0 false none 0 0,bR4 3 116 s1 A1 l1 c1 t1 B1 m1 d1,bR4 2 116 s0 A0 l0 c0 t0 B0 m0 d0] ?_
    refine xd 190 [vI2 s0 A0 l0 c0,vI2 s24 A24 l24 c24] 37 ZdZ _ (fun w R Q=>(Zfe _ _ ((p).num) (((q).den:Int)) _ Q.1.1.1.1.2 Q.1.1.1.1.1.1.num Q.2 S1 S4 (denI q)).mono (fun _ _=>Zf9)) (fun xx=>?_)
    obtain ⟨⟨s25,A25,l25,c25⟩,⟨s26,A26,l26,c26⟩⟩:=xx
    refine xf 7 [(2, .p 2 0),(3, .p 3 0),(4, .p 4 0),(5, .p 5 0),(6, .p 6 0)] [bI2 6 114 s26 A26 l26 c26,bI2 5 114 s25 A25 l25 c25,bI2 6 114 false none 0 0,bI2 5 114 false none 0 0,bR4 4 116 false none 0 0 false none 0 0,bR4 3 116 s1 A1 l1 c1 t1 B1 m1 d1,bR4 2 116 s0 A0 l0 c0 t0 B0 m0 d0] ?_
    refine xz (xe (Zaa (Zac ?_)))
    refine ZaE 12 (by kernel_rfl) (by kernel_rfl) Zal ?_
    refine xf 3 [(4, .p 4 0),(5, .p 5 0),(6, .p 6 0),eI2 42 s1 A1 l1 c1,eR4 43 s0 A0 l0 c0 t0 B0 m0 d0] [bI2 6 114 s26 A26 l26 c26,bI2 5 114 s25 A25 l25 c25,bI2 6 114 false none 0 0,bI2 5 114 false none 0 0,bR4 4 116 false none 0 0 false none 0 0,bR4 3 116 s1 A1 l1 c1 t1 B1 m1 d1,bR4 2 116 s0 A0 l0 c0 t0 B0 m0 d0] ?_
    refine xd 140 [vR4 s0 A0 l0 c0 t0 B0 m0 d0] 44 ZaB _ (fun w R Q=>(Zfj _ (p) _ Q.1.1.1.1.1.1.1).mono (fun _ _=>ZaR)) (fun xx=>?_)
    obtain ⟨s27,A27,l27,c27⟩:=xx
    refine xf 0 [(4, .p 4 0),(5, .p 5 0),(6, .p 6 0),eI2 42 s1 A1 l1 c1,eI2 44 s27 A27 l27 c27] [bI2 6 114 s26 A26 l26 c26,bI2 5 114 s25 A25 l25 c25,bI2 6 114 false none 0 0,bI2 5 114 false none 0 0,bR4 4 116 false none 0 0 false none 0 0,bR4 3 116 s1 A1 l1 c1 t1 B1 m1 d1,bR4 2 116 s0 A0 l0 c0 t0 B0 m0 d0] ?_
    refine xd 190 [vI2 s1 A1 l1 c1,vI2 s27 A27 l27 c27] 45 ZdZ _ (fun w R Q=>(Zfe _ _ ((q).num) (((p).den:Int)) _ Q.1.1.1.1.1.1.2 Q.1.1.1.1.1.1.1.2.num Q.2 S2 S3 (denI p)).mono (fun _ _=>Zf9)) (fun xx=>?_)
    obtain ⟨⟨s28,A28,l28,c28⟩,⟨s29,A29,l29,c29⟩⟩:=xx
    refine xf 7 [(4, .p 4 0),(5, .p 5 0),(6, .p 6 0),(7, .p 7 0),(8, .p 8 0)] [bI2 8 114 s29 A29 l29 c29,bI2 7 114 s28 A28 l28 c28,bI2 8 114 false none 0 0,bI2 7 114 false none 0 0,bI2 6 114 s26 A26 l26 c26,bI2 5 114 s25 A25 l25 c25,bI2 6 114 false none 0 0,bI2 5 114 false none 0 0,bR4 4 116 false none 0 0 false none 0 0,bR4 3 116 s1 A1 l1 c1 t1 B1 m1 d1,bR4 2 116 s0 A0 l0 c0 t0 B0 m0 d0] ?_
    refine xz (xe (Zaa (Zac ?_)))
    refine ZaE 8 (by kernel_rfl) (by kernel_rfl) Zal ?_
    refine xf 2 [(4, .p 4 0),(6, .p 6 0),(8, .p 8 0),eI2 48 s25 A25 l25 c25,eI2 49 s28 A28 l28 c28] [bI2 8 114 s29 A29 l29 c29,bI2 7 114 s28 A28 l28 c28,bI2 8 114 false none 0 0,bI2 7 114 false none 0 0,bI2 6 114 s26 A26 l26 c26,bI2 5 114 s25 A25 l25 c25,bI2 6 114 false none 0 0,bI2 5 114 false none 0 0,bR4 4 116 false none 0 0 false none 0 0,bR4 3 116 s1 A1 l1 c1 t1 B1 m1 d1,bR4 2 116 s0 A0 l0 c0 t0 B0 m0 d0] ?_
    refine xd 152 [vI2 s25 A25 l25 c25,vI2 s28 A28 l28 c28] 50 ZaB _ (fun w R Q=>(Zc2 _ _ (((p).num).tdiv (((Int.gcd ((p).num) (((q).den:Int)):Nat):Int))) (((q).num).tdiv (((Int.gcd ((q).num) (((p).den:Int)):Nat):Int))) _ Q.1.1.2.1 Q.2.1 (fit (wlq S1) (by decide)) (fit (wlq S2) (by decide)) (Or.inl (Nat.lt_of_le_of_lt (wlq S1) (by decide)))).mono (fun _ _=>ZaR)) (fun xx=>?_)
    obtain ⟨s30,A30,l30,c30⟩:=xx
    refine xf 2 [(4, .p 4 0),eI2 50 s30 A30 l30 c30,eI2 51 s29 A29 l29 c29,eI2 52 s26 A26 l26 c26] [bI2 8 114 s29 A29 l29 c29,bI2 7 114 s28 A28 l28 c28,bI2 8 114 false none 0 0,bI2 7 114 false none 0 0,bI2 6 114 s26 A26 l26 c26,bI2 5 114 s25 A25 l25 c25,bI2 6 114 false none 0 0,bI2 5 114 false none 0 0,bR4 4 116 false none 0 0 false none 0 0,bR4 3 116 s1 A1 l1 c1 t1 B1 m1 d1,bR4 2 116 s0 A0 l0 c0 t0 B0 m0 d0] ?_
    refine xd 152 [vI2 s29 A29 l29 c29,vI2 s26 A26 l26 c26] 53 ZaB _ (fun w R Q=>(Zc2 _ _ ((((p).den:Int)).tdiv (((Int.gcd ((q).num) (((p).den:Int)):Nat):Int))) ((((q).den:Int)).tdiv (((Int.gcd ((p).num) (((q).den:Int)):Nat):Int))) _ Q.1.2.2 Q.1.1.1.2.2 (fit (wlq S3) (by decide)) (fit (wlq S4) (by decide)) (Or.inl (Nat.lt_of_le_of_lt (wlq S3) (by decide)))).mono (fun _ _=>ZaR)) (fun xx=>?_)
    obtain ⟨s31,A31,l31,c31⟩:=xx
    refine xf 0 [(4, .p 4 0),eI2 50 s30 A30 l30 c30,eI2 53 s31 A31 l31 c31] [bI2 8 114 s29 A29 l29 c29,bI2 7 114 s28 A28 l28 c28,bI2 8 114 false none 0 0,bI2 7 114 false none 0 0,bI2 6 114 s26 A26 l26 c26,bI2 5 114 s25 A25 l25 c25,bI2 6 114 false none 0 0,bI2 5 114 false none 0 0,bR4 4 116 false none 0 0 false none 0 0,bR4 3 116 s1 A1 l1 c1 t1 B1 m1 d1,bR4 2 116 s0 A0 l0 c0 t0 B0 m0 d0] ?_
    refine xd 141 [vI2 s30 A30 l30 c30,vI2 s31 A31 l31 c31] 54 Zak _ (fun w R Q=>(ZdK _ _ ((((p).num).tdiv (((Int.gcd ((p).num) (((q).den:Int)):Nat):Int))) * (((q).num).tdiv (((Int.gcd ((q).num) (((p).den:Int)):Nat):Int)))) (((((p).den:Int)).tdiv (((Int.gcd ((q).num) (((p).den:Int)):Nat):Int))) * ((((q).den:Int)).tdiv (((Int.gcd ((p).num) (((q).den:Int)):Nat):Int)))) (p * q) _ Q.1.2 Q.2 (by obtain ⟨k1,k2⟩:=Zkh p q; exact ⟨k1,by rw [k2,Int.natCast_mul,← ZdD,← ZdD]⟩)).mono (fun _ _=>Za7)) (fun xx=>?_)
    obtain ⟨s32,A32,l32,c32,t32,B32,m32,d32⟩:=xx
    refine xf 1 [(4, .p 4 0)] [bR4 4 116 s32 A32 l32 c32 t32 B32 m32 d32,bI2 8 114 s29 A29 l29 c29,bI2 7 114 s28 A28 l28 c28,bI2 8 114 false none 0 0,bI2 7 114 false none 0 0,bI2 6 114 s26 A26 l26 c26,bI2 5 114 s25 A25 l25 c25,bI2 6 114 false none 0 0,bI2 5 114 false none 0 0,bR4 4 116 false none 0 0 false none 0 0,bR4 3 116 s1 A1 l1 c1 t1 B1 m1 d1,bR4 2 116 s0 A0 l0 c0 t0 B0 m0 d0] ?_
    refine xz (xe (Zaa (Zah ?_)))
    refine Zae (v:=.agg #[.bool s32, .slice A32 l32 c32, .bool t32, .slice B32 m32 d32]) (by kernel_rfl) (fun w' R Q=>?_)
    exact ⟨_,rfl,Q.2,R⟩
theorem Znm (a:Value) (q:Rat) (w:World) (ha:Zap w a q) :
 Calls Tryz.prog 202 #[a] w (Zc3 w (q⁻¹)):=by
 obtain ⟨s0,A0,l0,c0,t0,B0,m0,d0,rfl⟩:=ha.shp
 refine Zan (Φ:=fun w=>Zap w (.agg #[.bool s0, .slice A0 l0 c0, .bool t0, .slice B0 m0 d0]) (q)) Tryz.func202 rfl (by kernel_rfl) (fun w' hf=>ha.ext hf) ?_
 refine Zac (Zab (xr 2 [(1, .p 1 0),(2, .p 2 0)] [bR4 2 116 false none 0 0 false none 0 0,bR4 1 116 s0 A0 l0 c0 t0 B0 m0 d0] ?_))
 refine xe (Zaa (Zac (Zac (Zab (xr 2 [(1, .p 1 0),(2, .p 2 0),eI2 4 s0 A0 l0 c0] [bR4 2 116 false none 0 0 false none 0 0,bR4 1 116 s0 A0 l0 c0 t0 B0 m0 d0] ?_)))))
 rcases Zkg ((q).num) with ⟨hz10,hs10⟩ | ⟨hz10,hs10⟩ | ⟨hz10,hs10⟩
 ·refine xc 223 [vI2 s0 A0 l0 c0] 5 (fun _:Unit=>.int .i64 (-1)) _ (fun w R Q=>(ZgQ _ _ _ Q.num).mono (fun _ _ h=>Zaf h (by rw [hs10]))) (fun xx=>?_)
  refine xr 0 [(1, .p 1 0),(2, .p 2 0),(5, .v (.int .i64 (-1)))] [bR4 2 116 false none 0 0 false none 0 0,bR4 1 116 s0 A0 l0 c0 t0 B0 m0 d0] ?_
  refine xe (Zaa (ZaK (Zac (Zab (xr 2 [(1, .p 1 0),(2, .p 2 0),(5, .v (.int .i64 (-1))),(6, .v (.bool false))] [bR4 2 116 false none 0 0 false none 0 0,bR4 1 116 s0 A0 l0 c0 t0 B0 m0 d0] ?_)))))
  refine xe (Zaa (xb (Zac (Zab (xr 2 [(1, .p 1 0),(2, .p 2 0),(9, .v (.bool true))] [bR4 2 116 false none 0 0 false none 0 0,bR4 1 116 s0 A0 l0 c0 t0 B0 m0 d0] ?_)))))
  refine xe (Zaa (xa (Zac ?_)))
  refine ZaE 8 (by kernel_rfl) (by kernel_rfl) Zal ?_
  refine xf 1 [(1, .p 1 0),(2, .p 2 0),eR4 11 s0 A0 l0 c0 t0 B0 m0 d0] [bR4 2 116 false none 0 0 false none 0 0,bR4 1 116 s0 A0 l0 c0 t0 B0 m0 d0] ?_
  refine xd 140 [vR4 s0 A0 l0 c0 t0 B0 m0 d0] 12 ZaB _ (fun w R Q=>(Zfj _ (q) _ Q.1).mono (fun _ _=>ZaR)) (fun xx=>?_)
  obtain ⟨s11,A11,l11,c11⟩:=xx
  refine xf 0 [(1, .p 1 0),(2, .p 2 0),eI2 12 s11 A11 l11 c11] [bR4 2 116 false none 0 0 false none 0 0,bR4 1 116 s0 A0 l0 c0 t0 B0 m0 d0] ?_
  refine xd 188 [vI2 s11 A11 l11 c11] 13 ZaB _ (fun w R Q=>(Zgr _ (((q).den:Int)) _ Q.2).mono (fun _ _=>ZaR)) (fun xx=>?_)
  obtain ⟨s12,A12,l12,c12⟩:=xx
  refine xf 2 [(1, .p 1 0),(2, .p 2 0),eI2 13 s12 A12 l12 c12,eI2 15 s0 A0 l0 c0] [bR4 2 116 false none 0 0 false none 0 0,bR4 1 116 s0 A0 l0 c0 t0 B0 m0 d0] ?_
  refine xd 188 [vI2 s0 A0 l0 c0] 16 ZaB _ (fun w R Q=>(Zgr _ ((q).num) _ Q.1.1.1.num).mono (fun _ _=>ZaR)) (fun xx=>?_)
  obtain ⟨s13,A13,l13,c13⟩:=xx
  refine xf 0 [(1, .p 1 0),(2, .p 2 0),eI2 13 s12 A12 l12 c12,eI2 16 s13 A13 l13 c13] [bR4 2 116 false none 0 0 false none 0 0,bR4 1 116 s0 A0 l0 c0 t0 B0 m0 d0] ?_
  refine xd 141 [vI2 s12 A12 l12 c12,vI2 s13 A13 l13 c13] 17 Zak _ (fun w R Q=>(ZdK _ _ (-(((q).den:Int))) (-((q).num)) (q⁻¹) _ Q.1.2 Q.2 (Znk hz10)).mono (fun _ _=>Za7)) (fun xx=>?_)
  obtain ⟨s14,A14,l14,c14,t14,B14,m14,d14⟩:=xx
  refine xf 1 [(1, .p 1 0),(2, .p 2 0)] [bR4 2 116 s14 A14 l14 c14 t14 B14 m14 d14,bR4 2 116 false none 0 0 false none 0 0,bR4 1 116 s0 A0 l0 c0 t0 B0 m0 d0] ?_
  refine xz (xe (Zaa (Zah (ZaM (Zaj ?_)))))
  refine Zae (v:=.agg #[.bool s14, .slice A14 l14 c14, .bool t14, .slice B14 m14 d14]) (by kernel_rfl) (fun w' R Q=>?_)
  exact ⟨_,rfl,Q.2,R⟩
 ·refine xc 223 [vI2 s0 A0 l0 c0] 5 (fun _:Unit=>.int .i64 0) _ (fun w R Q=>(ZgQ _ _ _ Q.num).mono (fun _ _ h=>Zaf h (by rw [hs10]))) (fun xx=>?_)
  refine xr 0 [(1, .p 1 0),(2, .p 2 0),(5, .v (.int .i64 0))] [bR4 2 116 false none 0 0 false none 0 0,bR4 1 116 s0 A0 l0 c0 t0 B0 m0 d0] ?_
  refine xe (Zaa (ZaK (Zac (Zab (xr 2 [(1, .p 1 0),(2, .p 2 0),(5, .v (.int .i64 0)),(6, .v (.bool true))] [bR4 2 116 false none 0 0 false none 0 0,bR4 1 116 s0 A0 l0 c0 t0 B0 m0 d0] ?_)))))
  refine xe (Zaa (xa (Zac (Zab (xr 2 [(1, .p 1 0),(2, .p 2 0)] [bR4 2 116 false none 0 0 false none 0 0,bR4 1 116 s0 A0 l0 c0 t0 B0 m0 d0] ?_)))))
  refine xe (Zaa (Zah (ZaM (Zaj ?_))))
  refine Zae (v:=.agg #[.bool false, .slice none 0 0, .bool false, .slice none 0 0]) (by kernel_rfl) (fun w' R Q=>?_)
  exact ⟨_,rfl,by rw [Zly hz10]; exact Zap.nil _,R⟩
 ·refine xc 223 [vI2 s0 A0 l0 c0] 5 (fun _:Unit=>.int .i64 1) _ (fun w R Q=>(ZgQ _ _ _ Q.num).mono (fun _ _ h=>Zaf h (by rw [hs10]))) (fun xx=>?_)
  refine xr 0 [(1, .p 1 0),(2, .p 2 0),(5, .v (.int .i64 1))] [bR4 2 116 false none 0 0 false none 0 0,bR4 1 116 s0 A0 l0 c0 t0 B0 m0 d0] ?_
  refine xe (Zaa (ZaK (Zac (Zab (xr 2 [(1, .p 1 0),(2, .p 2 0),(5, .v (.int .i64 1)),(6, .v (.bool false))] [bR4 2 116 false none 0 0 false none 0 0,bR4 1 116 s0 A0 l0 c0 t0 B0 m0 d0] ?_)))))
  refine xe (Zaa (xb (Zac (Zab (xr 2 [(1, .p 1 0),(2, .p 2 0),(9, .v (.bool false))] [bR4 2 116 false none 0 0 false none 0 0,bR4 1 116 s0 A0 l0 c0 t0 B0 m0 d0] ?_)))))
  refine xe (Zaa (xb (ZaA (ZcB (Zaa (Zac ?_))))))
  refine ZaE 6 (by kernel_rfl) (by kernel_rfl) Zal ?_
  refine xf 1 [(1, .p 1 0),(2, .p 2 0),eR4 18 s0 A0 l0 c0 t0 B0 m0 d0] [bR4 2 116 false none 0 0 false none 0 0,bR4 1 116 s0 A0 l0 c0 t0 B0 m0 d0] ?_
  refine xd 140 [vR4 s0 A0 l0 c0 t0 B0 m0 d0] 19 ZaB _ (fun w R Q=>(Zfj _ (q) _ Q.1).mono (fun _ _=>ZaR)) (fun xx=>?_)
  obtain ⟨s15,A15,l15,c15⟩:=xx
  refine xf 2 [(2, .p 2 0),eI2 19 s15 A15 l15 c15,eI2 21 s0 A0 l0 c0] [bR4 2 116 false none 0 0 false none 0 0,bR4 1 116 s0 A0 l0 c0 t0 B0 m0 d0] ?_
  refine xd 141 [vI2 s15 A15 l15 c15,vI2 s0 A0 l0 c0] 22 Zak _ (fun w R Q=>(ZdK _ _ (((q).den:Int)) ((q).num) (q⁻¹) _ Q.2 Q.1.1.num (Znj hz10)).mono (fun _ _=>Za7)) (fun xx=>?_)
  obtain ⟨s16,A16,l16,c16,t16,B16,m16,d16⟩:=xx
  refine xf 1 [(2, .p 2 0)] [bR4 2 116 s16 A16 l16 c16 t16 B16 m16 d16,bR4 2 116 false none 0 0 false none 0 0,bR4 1 116 s0 A0 l0 c0 t0 B0 m0 d0] ?_
  refine xz (xe (Zaa (Zah ?_)))
  refine Zae (v:=.agg #[.bool s16, .slice A16 l16 c16, .bool t16, .slice B16 m16 d16]) (by kernel_rfl) (fun w' R Q=>?_)
  exact ⟨_,rfl,Q.2,R⟩
end Go.Proofs.YtbgkofgoeoiciaaGreatDoor

namespace Go.Proofs.YtbgkofgoeoiciaaGreatDoor
open Go.RowKit
theorem Zqw {l:List UInt8} (hd:l.all Zaz=true) (hl:l.length≤570):wl (Zag l)≤30:=by
 rw [ZbO]
 have h1:=ZbD l hd
 obtain ⟨k,hk⟩:∃ k,k=30:=⟨_,rfl⟩
 have h2:10 ^ l.length≤10 ^ (19 * k):=Nat.pow_le_pow_right (by omega) (by omega)
 rw [← hk]
 rw [Nat.pow_mul] at h2
 have h3:(10 ^ 19) ^ k≤W64 ^ k:=Nat.pow_le_pow_left (by rw [Zao]; decide) k
 exact Nat.lt_of_lt_of_le h1 (Nat.le_trans h2 h3)
theorem ZdW.of_len {l:List UInt8} (h:l.length≤570):ZdW l:=by
 refine ⟨h,fun neg num den hs _=>?_⟩
 obtain ⟨d1,d2,d3⟩:=Zdk hs
 have w1:=Zqw d1 (by omega)
 have w2:=Zqw d2 (by omega)
 have hn:(sg neg (Zag num)).natAbs=Zag num:=by unfold sg; split<;>omega
 exact ZeU.words (by rw [hn]; omega) (by rw [Int.natAbs_natCast]; omega)
end Go.Proofs.YtbgkofgoeoiciaaGreatDoor

namespace Go.Proofs.YtbgkofgoeoiciaaGreatDoor
open Go.RowKit
theorem Zkk:∀ (k u:Nat),1≤k→u < 10 ^ k→Lib.nDigits u≤k
 | 0,_,h,_=>by omega
 | k + 1,u,_,h=>by
   by_cases h0:u < 10
   ·rw [Lib.nDigits_small h0]; omega
   ·rw [Lib.nDigits_big h0]
    have hk:1≤k:=by
     rcases Nat.eq_zero_or_pos k with e | e
     ·subst e; simp at h; omega
     ·exact e
    have h1:u / 10 < 10 ^ k:=by
     rw [Nat.pow_succ] at h
     exact Nat.div_lt_of_lt_mul (by rw [Nat.mul_comm]; exact h)
    have:=Zkk k (u / 10) hk h1
    omega
theorem Zk5 {z:Int} {k:Nat} (hk:1≤k) (h:z.natAbs < 10 ^ k):(Lib.itoa z).length≤k + 1:=by
 have h1:=Zkk k z.natAbs hk h
 have e:0≤z→z.toNat=z.natAbs:=fun h=>by omega
 unfold Lib.itoa
 split
 ·simp only [List.length_cons,Lib.decDigits_length]
  omega
 ·rename_i hz
  rw [Lib.decDigits_length]
  first
   | omega
   | (rw [e (by omega)]; omega)
theorem ZtA {n k:Nat} (h:wl n≤k):n < 10 ^ (20 * k):=by
 have h1:n < W64 ^ k:=ZbO.1 h
 have h2:W64 ^ k≤(10 ^ 20) ^ k:=Nat.pow_le_pow_left (by rw [Zao]; decide) k
 rw [← Nat.pow_mul] at h2
 omega
theorem Zi2 (a:Value) (q:Rat) (w:World) (hg:Glob w) (ha:Zap w a q) (hn:Zdf q.num.natAbs) (hd:Zdf q.den):Calls Tryz.prog 107 #[a] w (RetV w (.string ⟨(Zad q).toArray⟩)):=by
 by_cases h:q.den=1
 ·have:=Zmo a q w hg ha h hn
  unfold Zad
  rw [if_pos h]; exact this
 ·refine Zm4 a q w hg ha hn hd h ?_
  unfold Zdf at hn
  have h1:=ZtA (show wl q.num.natAbs≤128 by omega)
  have h2:=Zk5 (z:=q.num) (k:=20 * 128) (by decide) h1
  omega
theorem Zqx {l:List UInt8} (h:ZaH l=none):valF l=0:=by unfold valF; rw [h]; rfl
theorem Zlz {l:List UInt8} {q:Rat} (h:ZaH l=some q):valF l=q:=by unfold valF; rw [h]; rfl
end Go.Proofs.YtbgkofgoeoiciaaGreatDoor

namespace Go.Proofs.YtbgkofgoeoiciaaGreatDoor
open Go.RowKit Go.Sort
end Go.Proofs.YtbgkofgoeoiciaaGreatDoor

namespace Go.Proofs.YtbgkofgoeoiciaaGreatDoor
open Go.RowKit
end Go.Proofs.YtbgkofgoeoiciaaGreatDoor

namespace Go.Proofs.YtbgkofgoeoiciaaGreatDoor
open Go.RowKit
end Go.Proofs.YtbgkofgoeoiciaaGreatDoor

namespace Go.Proofs.YtbgkofgoeoiciaaGreatDoor
open Go.RowKit
theorem Zkl {c:UInt8} (h:Zaz c=true):UInt8.ofNat (48 + (c.toNat - 48))=c:=by
 have:=ZfA h
 apply UInt8.toNat.inj
 rw [UInt8.toNat_ofNat']
 have:=c.toNat_lt
 omega
theorem Zqy:∀ (k:Nat) (l:List UInt8),l.length=k→l.all Zaz=true→l≠[]→l.head? ≠ some 48→Lib.decDigits (Zag l)=l:=by
 intro k
 induction k with
 | zero=>intro l hl _ h0; exact absurd (List.length_eq_zero_iff.1 hl) h0
 | succ k ih =>
   intro l hl hd h0 h48
   obtain ⟨l',c,rfl⟩:∃ l' c,l=l' ++ [c]:=by
    rcases List.eq_nil_or_concat l with h | ⟨l',c,h⟩
    ·exact absurd h h0
    ·exact ⟨l',c,by simpa using h⟩
   rw [List.all_append,Bool.and_eq_true] at hd
   have hc:Zaz c=true:=by simpa using hd.2
   have hcb:=ZfA hc
   rw [ZeV]
   by_cases hl0:l'=[]
   ·subst hl0
    have e:Zag []=0:=rfl
    rw [e,Nat.mul_zero,Nat.zero_add,ZeM (by omega),Zkl hc]; rfl
   ·have hh:l'.head? ≠ some 48:=by
     rw [List.head?_append] at h48
     cases hx:l'.head? with
     | none=>exact absurd (List.head?_eq_none_iff.1 hx) hl0
     | some x=>rw [hx] at h48; exact h48
    have h1:=ih l' (by simp at hl; exact hl) hd.1 hl0 hh
    have hp:=(ZgS hd.1 hl0 hh).1
    rw [ZgY (by omega),show (10 * Zag l' + (c.toNat - 48)) / 10=Zag l' by omega,show (10 * Zag l' + (c.toNat - 48)) % 10=c.toNat - 48 by omega,h1,Zkl hc]
theorem Zof (n:Nat):(Lib.decDigits n).head? ≠ some 45:=by
 intro e
 cases h:Lib.decDigits n with
 | nil=>exact Zbi n h
 | cons x xs =>
   rw [h] at e
   simp only [List.head?_cons,Option.some.injEq] at e
   subst e
   have:=Zc4 n
   rw [h] at this
   simp only [List.all_cons,Bool.and_eq_true] at this
   exact absurd this.1 (by decide)
theorem ZgC {p:UInt8→Bool} {l r:List UInt8} {c:UInt8} (h:l.all p=true) (hc:p c=false):(l ++ c :: r).takeWhile p=l∧(l ++ c :: r).dropWhile p=c :: r:=by
 induction l with
 | nil=>simp [hc]
 | cons x xs ih =>
   simp only [List.all_cons,Bool.and_eq_true] at h
   obtain ⟨h1,h2⟩:=ih h.2
   rw [List.cons_append,List.takeWhile_cons,List.dropWhile_cons,h.1]
   simp [h1,h2]
theorem Zgn (z:Int) (r:List UInt8):ZaG (Lib.itoa z ++ r)=(decide (z < 0),Lib.decDigits z.natAbs ++ r):=by
 by_cases h:z < 0
 ·rw [ZgZ h,decide_eq_true h]
  unfold ZaG
  rw [if_pos (by simp)]
  rfl
 ·rw [Ziv (by omega),decide_eq_false h]
  unfold ZaG
  rw [if_neg]
  intro e
  rw [List.head?_append] at e
  cases hx:(Lib.decDigits z.natAbs).head? with
  | none=>exact absurd (List.head?_eq_none_iff.1 hx) (Zbi _)
  | some c =>
    rw [hx] at e
    exact Zof _ (hx.trans e)
theorem Zno (z:Int):sg (decide (z < 0)) z.natAbs=z:=by
 unfold sg
 split
 ·rename_i h; have:=of_decide_eq_true h; omega
 ·rename_i h; have:¬ z < 0:=fun k=>h (decide_eq_true k); omega
theorem Zkm {q:Rat} (h:q.den=1):((q.num:Int):Rat)=q:=by
 apply Rat.ext<;>simp [h]
theorem ZtB {q:Rat} (h:q.den≠1):q.num≠0:=by
 intro e
 have:=q.reduced
 rw [e] at this
 simp [Nat.Coprime] at this
 exact h this
theorem Zg9 (n:Nat):Lib.itoa (n:Int)=Lib.decDigits n:=by
 rw [Ziv (by omega),Int.natAbs_natCast]
theorem ZpC {q:Rat} (h:q.den≠1):Zbf (Zad q)=(decide (q.num < 0),Lib.decDigits q.num.natAbs,Lib.decDigits q.den,true):=by
 have hn:=ZtB h
 have hd:=q.den_nz
 unfold Zad
 rw [if_neg h,Zg9,List.append_assoc]
 unfold Zbf
 rw [Zgn]
 simp only []
 obtain ⟨h1,h2⟩:=ZgC (p:=Zaz) (r:=Lib.decDigits q.den) (c:=47) (Zc4 q.num.natAbs) (by decide)
 have e:Lib.decDigits q.num.natAbs ++ ([47] ++ Lib.decDigits q.den)=Lib.decDigits q.num.natAbs ++ 47 :: Lib.decDigits q.den:=rfl
 rw [e,h1,h2]
 have hh:=ZeO q.num.natAbs (by omega)
 rw [if_neg (fun e=>hh (by rw [e]; rfl)),if_neg (fun e=>e.elim (Zbi _) hh),if_neg (by simp),if_neg (by simp)]
 simp only [List.tail_cons]
 obtain ⟨h3,h4⟩:=Zd2 (Zc4 q.den)
 rw [h3,h4]
 have hh2:=ZeO q.den (by omega)
 have h49:Lib.decDigits q.den≠[49]:=fun e=>by
  have:=ZeN q.den
  rw [e] at this
  exact h (by rw [← this]; rfl)
 have hne:=Zbi q.den
 simp [hh2,h49,hne]
theorem Zgb (q:Rat):ZaH (Zad q)=some q:=by
 by_cases h:q.den=1
 ·unfold Zad
  rw [if_pos h,Zqg,Zkm h]
 ·unfold ZaH
  rw [ZpC h]
  simp only []
  rw [if_neg (Zbi _),ZeN,ZeN,if_pos q.reduced,Zno,Rat.mkRat_self]
theorem ZlA {neg:Bool} {a:Nat} (h:a=0→neg=false):(sg neg a < 0 ↔ neg=true)∧(sg neg a).natAbs=a:=by
 cases neg with
 | false=>simp [sg]
 | true =>
   have:a≠0:=fun e=>by cases h e
   simp [sg]; omega
theorem ZoN {neg:Bool} {a:Nat} (h:a=0→neg=false):Lib.itoa (sg neg a)=(if neg then [45] else []) ++ Lib.decDigits a:=by
 obtain ⟨h1,h2⟩:=ZlA h
 cases neg with
 | false=>rw [Ziv (by simp [sg]),h2]; rfl
 | true=>rw [ZgZ (h1.2 rfl),h2]; rfl
theorem Zog {l r:List UInt8} {neg:Bool} (h:ZaG l=(neg,r)):l=(if neg then [45] else []) ++ r:=by
 unfold ZaG at h
 split at h
 ·rename_i hh
  injection h with h1 h2
  subst h1 h2
  cases l with
  | nil=>cases hh
  | cons x xs=>simp at hh; subst hh; rfl
 ·injection h with h1 h2
  subst h1 h2
  rfl
theorem Zh7 {l:List UInt8} {q:Rat} (h:ZaH l=some q):Zad q=l:=by
 unfold ZaH at h
 cases hs:Zbf l with
 | mk neg r =>
   obtain ⟨num,den,ok⟩:=r
   rw [hs] at h
   cases ok with
   | false=>cases h
   | true =>
     simp only [] at h
     have hdg:=Zdk hs
     obtain ⟨s1,s2⟩:=ZgT hs
     cases hu:ZaG l with
     | mk neg' t =>
       have hl:=Zog hu
       have htw:t.takeWhile Zaz ++ t.dropWhile Zaz=t:=List.takeWhile_append_dropWhile
       unfold Zbf at hs
       rw [hu] at hs
       simp only [] at hs
       split at hs
       ·-- zero
        rename_i h48
        injection hs with e1 hs; injection hs with e2 hs; injection hs with e3 e4
        subst e1 e2 e3
        simp at e4
        rw [if_pos rfl,h48] at h
        have hv:Zag [48]=0:=rfl
        rw [hv] at h
        injection h with h
        rw [e4.1] at h hl
        rw [← h,hl,← htw,h48,e4.2]
        simp only [sg]
        unfold Zad
        rw [if_pos (by simp)]
        have:Lib.itoa ((0:Nat):Int)=[48]:=by rw [Zg9,ZeM (by omega)]; rfl
        simpa using this
       split at hs
       ·injection hs with _ hs; injection hs with _ hs; injection hs with _ hs; cases hs
       rename_i hn
       have hn1:t.takeWhile Zaz≠[]:=fun e=>hn (Or.inl e)
       have hn2:(t.takeWhile Zaz).head? ≠ some 48:=fun e=>hn (Or.inr e)
       have hdn:=Zqy _ _ rfl (Zb1 (p:=Zaz) t) hn1 hn2
       split at hs
       ·rename_i hr
        injection hs with e1 hs; injection hs with e2 hs; injection hs with e3 _
        subst e1 e2 e3
        rw [if_pos rfl] at h
        injection h with h
        rw [← h]
        unfold Zad
        rw [if_pos (by simp)]
        have hnum:(((sg neg' (Zag (t.takeWhile Zaz)):Int)):Rat).num=sg neg' (Zag (t.takeWhile Zaz)):=rfl
        rw [hnum,ZoN (fun e=>(s2 e).1),hdn,hl]
        rw [hr,List.append_nil] at htw
        rw [htw]
       split at hs
       ·injection hs with _ hs; injection hs with _ hs; injection hs with _ hs; cases hs
       ·rename_i hr h47
        injection hs with e1 hs; injection hs with e2 hs; injection hs with e3 e4
        subst e1 e2
        rw [e3] at e4
        simp at e4
        obtain ⟨⟨⟨k1,k2⟩,k3⟩,k4⟩:=e4
        rw [if_neg k2] at h
        split at h
        ·rename_i hg
         injection h with h
         have h2:=s1 k2
         have hq:q.num=sg neg' (Zag (t.takeWhile Zaz))∧q.den=Zag den:=by
          have:=Zh5 (x:=sg neg' (Zag (t.takeWhile Zaz))) (y:=(Zag den:Int)) (by omega) (by
           unfold Int.gcd
           rw [(ZlA (fun e=>(s2 e).1)).2,Int.natAbs_natCast,hg]; rfl)
          rw [Rat.divInt_ofNat,h] at this
          exact ⟨this.1,by have:=this.2; omega⟩
         unfold Zad
         rw [if_neg (by rw [hq.2]; omega),hq.1,hq.2,ZoN (fun e=>(s2 e).1),hdn,Zg9,Zqy _ _ rfl hdg.2.1 k2 k3,hl]
         have htail:t.dropWhile Zaz=47 :: den:=by
          cases hx:t.dropWhile Zaz with
          | nil=>exact absurd hx hr
          | cons c r =>
            rw [hx] at h47 k1 e3
            simp at h47 k1 e3
            subst h47
            have:=List.takeWhile_append_dropWhile (p:=Zaz) (l:=r)
            rw [e3,k1,List.append_nil] at this
            rw [this]
         rw [htail] at htw
         rw [List.append_assoc,List.append_assoc]
         congr 1
        ·cases h
theorem ZfM {l:List UInt8} {q:Rat}:ZaH l=some q ↔ Zad q=l :=
 ⟨Zh7,fun h=>by rw [← h]; exact Zgb q⟩
end Go.Proofs.YtbgkofgoeoiciaaGreatDoor

namespace Go.Proofs.YtbgkofgoeoiciaaGreatDoor
open Go.RowKit
theorem ZlB {l:List UInt8} {q:Rat} {k:Nat} (h:ZaH l=some q) (hl:l.length≤k) (hk:1≤k):q.num.natAbs < 10 ^ k∧q.den < 10 ^ k:=by
 unfold ZaH at h
 obtain ⟨⟨neg,num,den,ok⟩,hS⟩:∃ x,Zbf l=x:=⟨_,rfl⟩
 rw [hS] at h
 cases ok with
 | false=>cases h
 | true =>
   obtain ⟨d1,d2,d3⟩:=Zdk hS
   have hn:∀ z,(sg neg z).natAbs=z:=fun z=>by unfold sg; split<;>omega
   have w1:Zag num < 10 ^ k:=Nat.lt_of_lt_of_le (ZbD num d1) (Nat.pow_le_pow_right (by omega) (by omega))
   have w2:Zag den < 10 ^ k:=Nat.lt_of_lt_of_le (ZbD den d2) (Nat.pow_le_pow_right (by omega) (by omega))
   simp only [] at h
   split at h
   ·injection h with h
    subst h
    refine ⟨?_,?_⟩
    ·show (sg neg (Zag num)).natAbs < 10 ^ k
     rw [hn]; exact w1
    ·show 1 < 10 ^ k
     exact Nat.one_lt_pow (by omega) (by omega)
   ·split at h
    ·rename_i hne hg
     injection h with h
     subst h
     have h2:=(ZgT hS).1 hne
     obtain ⟨e1,e2⟩:=Zgl (z:=sg neg (Zag num)) h2 (by rw [hn]; exact hg)
     refine ⟨by rw [e1,hn]; exact w1,?_⟩
     have e3:(mkRat (sg neg (Zag num)) (Zag den)).den=Zag den:=by
      unfold denF at e2
      split at e2<;>omega
     rw [e3]; exact w2
    ·cases h
theorem ZpD {q:Rat} {n d:Int} (hd:d≠0) (h:Rat.divInt n d=q):q.num * d=n * q.den:=by
 have h1:=(Rat.divInt_eq_divInt_iff (denI q) hd (n₁:=q.num) (n₂:=n)).1 (by rw [Rat.num_divInt_den,h])
 exact h1
end Go.Proofs.YtbgkofgoeoiciaaGreatDoor

namespace Go.Proofs.YtbgkofgoeoiciaaGreatDoor
open Go.RowKit
theorem ZrL {q:Rat} {k:Nat} (hk:1≤k) (h1:q.num.natAbs < 10 ^ k) (h2:q.den < 10 ^ k):(Zad q).length≤2 * k + 3:=by
 have a1:=Zk5 hk h1
 have a2:=Zk5 (z:=(q.den:Int)) hk (by rw [Int.natAbs_natCast]; exact h2)
 unfold Zad
 split
 ·omega
 ·simp only [List.length_append,List.length_cons,List.length_nil]
  omega
theorem Zkn {q:Rat} {n d:Int} {k:Nat} (hd:d≠0) (h:Rat.divInt n d=q) (h1:n.natAbs < 10 ^ k) (h2:d.natAbs < 10 ^ k):q.num.natAbs < 10 ^ k∧q.den < 10 ^ k:=by
 have hc:=ZpD hd h
 have hn:q.num.natAbs * d.natAbs=n.natAbs * q.den:=by
  have:=congrArg Int.natAbs hc
  rwa [Int.natAbs_mul,Int.natAbs_mul,Int.natAbs_natCast] at this
 have hcop:=q.reduced
 have hd1:q.den ∣ d.natAbs:=(Nat.Coprime.symm hcop).dvd_of_dvd_mul_left ⟨n.natAbs,by rw [hn,Nat.mul_comm]⟩
 have hd0:0 < d.natAbs:=by omega
 have hde:=Nat.le_of_dvd hd0 hd1
 refine ⟨?_,by omega⟩
 have hn1:q.num.natAbs ∣ n.natAbs:=hcop.dvd_of_dvd_mul_right ⟨d.natAbs,hn.symm⟩
 rcases Nat.eq_zero_or_pos n.natAbs with e | e
 ·rw [e,Nat.zero_mul] at hn
  rcases Nat.mul_eq_zero.1 hn with e2 | e2
  ·rw [e2]; exact Nat.pow_pos (by omega)
  ·omega
 ·have:=Nat.le_of_dvd e hn1; omega
theorem Zqz {b:Rat} {n:Nat} (hb:b.num.natAbs < n∧b.den < n):(-b).num.natAbs < n∧(-b).den < n:=by
 rw [Zg7,Zju,Int.natAbs_neg]; exact hb
theorem ZlC {q:Rat} {k n:Nat} (hk:1≤k) (h:q.num.natAbs < 10 ^ k∧q.den < 10 ^ k) (hn:2 * k + 3≤n):(Zad q).length≤n:=Nat.le_trans (ZrL hk h.1 h.2) hn
section
variable {s t:ByteArray} {p q r:Rat} {w:World}
end
theorem ZtC {n:Int} {e:TypeId} {b:Nat} {x y:ByteArray} {w:World} (hB:Blk e w b #[.string x, .string y]) {r:Bool} (hr:[x,y].all (fun s=>decide ((s.size:Int)≤n))=r) :
 Calls Tryz.prog 16 #[.int .i64 n, .slice (some ⟨b,0,none⟩) 2 2] w (RetV w (.bool r)) :=
 (Zmr n b 2 [x,y] w rfl (by omega) (fun i hi=>by
  rcases (by omega:i=0∨i=1) with e | e<;>subst e<;>rw [hB.cell]<;>rfl) r hr).mono (fun _ _ h=>⟨h.1,h.2 ▸ Fr.refl _ _⟩)
end Go.Proofs.YtbgkofgoeoiciaaGreatDoor

namespace Go.Proofs.YtbgkofgoeoiciaaGreatDoor
open Go.RowKit
section
variable {N:Nat} {S0:Nat→Prop} {w0:World} {s s':St} {Φ Ψ Φ0:World→Prop} {L:Nat→Nat} {a:Act} {w:World} {P:Program} {ops:Array Oper} {Q:Exit→Act→World→Prop} {o:Oper}
theorem ZbT.of {sl:SlL} {bl:BlL} (h:(sl.map (fun q=>s.sl q.1),bl.map (fun q=>s.bl q.1))=(sl.map (fun q=>some q.2),bl.map (fun q=>some q.2))):ZbT s sl bl:=h
def Zso (N:Nat) (S0:Nat→Prop) (w0:World) (J:Nat→St→(World→Prop)→Prop) (n:Nat) (a:Act) (w:World):Prop:=∃ n' s' Φ' L',n' < n∧J n' s' Φ'∧Inv N S0 w0 s' Φ' L' a w
theorem ZgE {c:Code} (J:Nat→St→(World→Prop)→Prop) (n0:Nat) (h0:J n0 s Φ)
 (round:∀ n s Φ,J n s Φ→SXc P N S0 w0 (Exit.then (Zso N S0 w0 J n) Q) c s Φ):SXc P N S0 w0 Q (.loop c) s Φ:=fun L a w hi=>by
 refine wp_loop_ghost (fun n a w=>∃ s Φ L,J n s Φ∧Inv N S0 w0 s Φ L a w) n0 ⟨s,Φ,L,h0,hi⟩ ?_
 rintro n a w ⟨s,Φ,L,hJ,hi⟩
 refine wp_mono (round n s Φ hJ L a w hi) ?_
 intro e a' w' hq
 cases e with
 | normal =>
   obtain ⟨n',s',Φ',L',h1,h2,h3⟩:=hq
   exact ⟨n',h1,s',Φ',L',h2,h3⟩
 | exit id=>exact hq
 | goto l=>exact hq
 | ret=>exact hq
 | panic ch=>exact hq
 | outgrown=>exact hq
theorem ZfP {J:Nat→St→(World→Prop)→Prop} {n:Nat} (n':Nat) (hlt:n' < n) (h:J n' s Φ):SXq N S0 w0 (Exit.then (Zso N S0 w0 J n) Q .normal) s Φ:=fun _ _ _ hi=>⟨n',s,Φ,_,hlt,h,hi⟩
theorem Znx {x y:Code} (J:St→(World→Prop)→Prop) (h1:SXc P N S0 w0 (Exit.then (fun a w=>∃ s' Φ' L',J s' Φ'∧Inv N S0 w0 s' Φ' L' a w) Q) x s Φ) (h2:∀ s Φ,J s Φ→SXc P N S0 w0 Q y s Φ):SXc P N S0 w0 Q (.seq x y) s Φ:=fun L a w hi=>by
 refine wp_seq (wp_mono (h1 L a w hi) ?_)
 intro e a' w' hq
 cases e with
 | normal =>
   obtain ⟨s',Φ',L',h2',h3⟩:=hq
   exact h2 s' Φ' h2' L' a' w' h3
 | exit id=>exact hq
 | goto l=>exact hq
 | ret=>exact hq
 | panic ch=>exact hq
 | outgrown=>exact hq
theorem ZeQ {J:St→(World→Prop)→Prop} (h:J s Φ):SXq N S0 w0 (Exit.then (fun a w=>∃ s' Φ' L',J s' Φ'∧Inv N S0 w0 s' Φ' L' a w) Q .normal) s Φ:=fun _ _ _ hi=>⟨s,Φ,_,h,hi⟩
theorem Zs3 {n i:Nat} (d:Nat) {α:Type} [hα:Nonempty α] (sh:α→Value) (φ:α→World→Prop) (hi:Nat.blt i n=true) (hm:cls (opAt ops i).op=2)
 (hw:s.wantB ops (opAt ops i)=some true) (hn:Zcf (opAt ops i).op=true) (hv:(opAt ops i).op.operands.toList.all s.vB=true) (hd:(opAt ops i).dst=some d) (hN:Nat.blt d N=true)
 (hdo:∀ w,Fr S0 w0 w→Φ w→Does P (opAt ops i) s.rho w (DoR sh φ w)) (K:∀ x,StI P N S0 w0 ops Φ0 Q n (i + 1) (s.put d (.v (sh x))) (fun w=>Φ w∧φ x w)):StI P N S0 w0 ops Φ0 Q n i s Φ:=by
 have hi':i < n:=Nat.le_of_ble_eq_true hi
 unfold StI
 rw [show n - i=(n - (i + 1)) + 1 by omega,List.range'_succ]
 exact .does hα sh φ hm hw hn hv hd (Nat.le_of_ble_eq_true hN) hdo K
end
end Go.Proofs.YtbgkofgoeoiciaaGreatDoor

namespace Go.Proofs.YtbgkofgoeoiciaaGreatDoor
open Go.RowKit
theorem Zjz (x:Int):(x == x)=true:=by simp
theorem ZpJ {P:Program} {ρ:Operand→Value} {w:World} {t e:TypeId} {n sz:Nat} {z:Value} {parts:Array (Nat × Operand)} {cells:Array Value} (ht:P.underlying t=some (.slice e))
 (hinfo:(P.info? e).map (fun i=>(i.zero,i.size))=some (some z,sz)) (hn:Nat.ble (n * sz) 1000=true) (hn0:Nat.beq (n * sz) 0=false)
 (hf:Instr.fill (fun i=>some (i * sz,sz)) ((List.range (n * sz)).map (fun i=>z.cells[i % z.cells.size]!)).toArray (parts.toList.map fun q=>(q.1,ρ q.2))=some cells) :
 (Instr.buildSlice t n (parts.map fun q:Nat × Operand=>(q.1,ρ q.2))).run P w=.ok (.slice (some ⟨w.heap.size,0,none⟩) n n) (w.alloc (.cells cells e)):=by
 obtain ⟨i,hi,h1⟩:=Option.map_eq_some_iff.1 hinfo
 injection h1 with h1 h2
 have hn':=Nat.le_of_ble_eq_true hn
 have hn1:¬ n * sz=0:=fun h=>by rw [h] at hn0; cases hn0
 have hn2:¬ 2 ^ 24 < n * sz:=by omega
 have e1:(Array.range (n * sz)).map (fun i=>z.cells[i % z.cells.size]!)=((List.range (n * sz)).map (fun i=>z.cells[i % z.cells.size]!)).toArray:=by
  apply Array.ext'; simp
 have e2:(parts.map fun q:Nat × Operand=>(q.1,ρ q.2)).toList=parts.toList.map fun q=>(q.1,ρ q.2):=by simp
 unfold Instr.buildSlice
 simp [underlying,ht,sizeOf,typeInfo,hi,h2,zeroValue,h1,hn1,hn2,e1,hf,newRow,newObj,Result.andThen]
 rfl
theorem Zi5 {P:Program} {o:Oper} {ρ:Operand→Value} {w:World} {t e:TypeId} {n sz:Nat} {z:Value} {parts:Array (Nat × Operand)} {cells:Array Value} (ho:o.op=Op.buildSlice t n parts) (ht:P.underlying t=some (.slice e))
 (hinfo:(P.info? e).map (fun i=>(i.zero,i.size))=some (some z,sz)) (hn:Nat.ble (n * sz) 1000=true) (hn0:Nat.beq (n * sz) 0=false)
 (hf:Instr.fill (fun i=>some (i * sz,sz)) ((List.range (n * sz)).map (fun i=>z.cells[i % z.cells.size]!)).toArray (parts.toList.map fun q=>(q.1,ρ q.2))=some cells) :
 Does P o ρ w (DoR (fun b:Nat=>.slice (some ⟨b,0,none⟩) n n) (fun b w=>Blk e w b cells) w):=by
 have hrun:=ZpJ (w:=w) ht hinfo hn hn0 hf
 exact Or.inl ⟨_,_,by simp [execOp,ho,hrun,Result.andThen],w.heap.size,rfl,(Fr.refl _ w).alloc _,fun S hS w'' hF=>(Blk.new w e cells).fr hF (fun h=>by have:=(hS _ h).1; omega)⟩
theorem ZdG {P:Program} {o:Oper} {ρ:Operand→Value} {w:World} {t:TypeId} {x:Operand} {lo hi:Option Operand} {b r:ByteArray} (l h:Nat) (ho:o.op=Op.slice t x lo hi none) (ht:P.underlying t=some .string) (hx:ρ x=.string b)
 (hl:lo.map ρ=none∧l=0∨lo.map ρ=some (.int .i64 l)) (hh:hi.map ρ=none∧h=b.size∨hi.map ρ=some (.int .i64 h)) (h1:l≤h) (h2:h≤b.size) (hr:b.extract l h=r):(execOp ρ o).run P w=.ok (.value (.string r)) w:=by
 subst hr
 rcases hl with ⟨hl,rfl⟩ | hl<;>rcases hh with ⟨hh,rfl⟩ | hh <;>
  simp [execOp,ho,Instr.sliceAt,Instr.slice,Instr.sliceBounds,Instr.sliceBound,asIntOf,underlying,ht,hx,hl,hh,h1,h2,Result.andThen]
end Go.Proofs.YtbgkofgoeoiciaaGreatDoor

namespace Go.Proofs.YtbgkofgoeoiciaaGreatDoor
open Go.RowKit
section
variable {l r a t b:List UInt8} {neg:Bool} {c:UInt8}
end
/-! ### texts of small numbers -/
theorem ZjD {n:Nat} (h:n < 10):Lib.itoa (n:Int)=[UInt8.ofNat (48 + n)]:=by
 unfold Lib.itoa
 rw [if_neg (by omega),Int.toNat_natCast,Lib.decDigits,dif_pos h]
theorem Zq6 {n:Nat} (h0:0 < n) (h:n < 10):Lib.itoa (-(n:Int))=[45,UInt8.ofNat (48 + n)]:=by
 rw [ZgZ (by omega),show (-(n:Int)).natAbs=n by omega,ZeM h]; rfl
theorem ZcW {q:Rat} {n:Nat} (h:n < 10) (h1:q.num=(n:Int)) (h2:q.den=1):Zad q=[UInt8.ofNat (48 + n)]:=by
 unfold Zad; rw [if_pos h2,h1,ZjD h]
theorem ZlZ {q:Rat} {n:Nat} (h0:0 < n) (h:n < 10) (h1:q.num = -(n:Int)) (h2:q.den=1):Zad q=[45,UInt8.ofNat (48 + n)]:=by
 unfold Zad; rw [if_pos h2,h1,Zq6 h0 h]
theorem Zo9 {q:Rat} {n d:Nat} (h:n < 10) (hd:d < 10) (h1:q.num=(n:Int)) (h2:q.den=d) (h3:d≠1):Zad q=[UInt8.ofNat (48 + n),47,UInt8.ofNat (48 + d)]:=by
 unfold Zad; rw [h2,if_neg h3,h1,ZjD h,ZjD hd]; rfl
theorem Zpa {l:List UInt8} {q:Rat} (h:Zad q=l):valF l=q:=Zlz (ZfM.2 h)
theorem t1:Zad (mkRat 1 1)=[49]:=ZcW (n:=1) (by decide) (by decide) (by decide)
theorem t3:Zad (mkRat 3 1)=[51]:=ZcW (n:=3) (by decide) (by decide) (by decide)
theorem t13:Zad (mkRat 1 3)=[49,47,51]:=Zo9 (n:=1) (d:=3) (by decide) (by decide) (by decide) (by decide) (by decide)
theorem t12:Zad (mkRat 1 2)=[49,47,50]:=Zo9 (n:=1) (d:=2) (by decide) (by decide) (by decide) (by decide) (by decide)
end Go.Proofs.YtbgkofgoeoiciaaGreatDoor

namespace Go.Proofs.YtbgkofgoeoiciaaGreatDoor
open Go.RowKit
end Go.Proofs.YtbgkofgoeoiciaaGreatDoor

namespace Go.Proofs.YtbgkofgoeoiciaaGreatDoor
open Go.RowKit
theorem Zl6 {P:Program} {o:Oper} {ρ:Operand→Value} {w:World} {t e:TypeId} {sz:Nat} {x ix:Operand} {g len cap i:Nat} (ho:o.op=Op.indexAddr t x ix) (ht:P.underlying t=some (.slice e)) (hs:(P.info? e).map (fun i=>i.size)=some sz)
 (hx:ρ x=.slice (some ⟨g,0,none⟩) len cap) (hi:ρ ix=.int .i64 ((i:Nat):Int)) (h:i < len):(execOp ρ o).run P w=.ok (.value (.pointer (some ⟨g,i * sz,none⟩))) w:=by
 obtain ⟨inf,hinf,h1⟩:=Option.map_eq_some_iff.1 hs
 have h2:(0:Int)≤(i:Int)∧(i:Int) < (len:Int):=by omega
 simp [execOp,ho,Instr.indexAt,asIntOf,underlying,ht,hx,hi,h,sizeOf,typeInfo,hinf,h1,Addr.add,Result.andThen]
 exact fun e=>e.symm
theorem Zi6 {P:Program} {o:Oper} {ρ:Operand→Value} {w:World} {t:TypeId} {x:Operand} {g off:Nat} {c:Value} (ho:o.op=Op.load t x) (hx:ρ x=.pointer (some ⟨g,off,none⟩)) (ha:(teOf P t).map (fun e=>e.agg)=some false) (hc:w.cell? ⟨g,off,none⟩=some c) :
 (execOp ρ o).run P w=.ok (.value c) w:=by
 obtain ⟨e,he,h1⟩:=Option.map_eq_some_iff.1 ha
 have:=ZiZ (P:=P) (w:=w) he hc h1
 simp only [execOp,ho,hx,Sem.run_bind,this,Result.andThen_ok,Sem.run_pure]
theorem Zrg (a b a' b':ByteArray) (d d':Int) (w:World):(Op.equalIn 10000 23 (.agg #[.string a, .string b, .int .i64 d]) (.agg #[.string a', .string b', .int .i64 d'])).run Tryz.prog w =
 .ok ((a.toList == a'.toList) && ((b.toList == b'.toList) && (d == d'))) w:=by
 have hS:Tryz.prog.underlying 23=some (.struct (Tryz.prog.fieldsOf 23)):=by kernel_rfl
 have hp:Tryz.prog.stoodInHeld 23=false:=by kernel_rfl
 have u3:=Tryz.underlying3
 have a3:=Tryz.isAgg3
 have u9:=Tryz.underlying9
 have a9:=Tryz.isAgg9
 rw [show (10000:Nat)=9999 + 1 from rfl,run_equalIn_agg w 9999 _ _ _ hS hp]
 simp only [Program.fieldsOf,Tryz.underlying23]
 go_simp
 cases h1:(a.toList == a'.toList)<;>cases h2:(b.toList == b'.toList)<;>cases h3:(d == d')<;>simp_all
theorem Zte {o:Oper} {ρ:Operand→Value} {w:World} {x y:Operand} {k:TypeId} {a b a' b':ByteArray} {d d':Int} {r:Bool} (ho:o.op=Op.binOp .eql 23 x y k) (hx:ρ x=.agg #[.string a, .string b, .int .i64 d]) (hy:ρ y=.agg #[.string a', .string b', .int .i64 d'])
 (hr:((a.toList == a'.toList) && ((b.toList == b'.toList) && (d == d')))=r):(execOp ρ o).run Tryz.prog w=.ok (.value (.bool r)) w:=by
 have hm:Tryz.prog.eqGuardType Tryz.prog.depth 23=false:=by kernel_rfl
 subst hr
 simp only [execOp,ho,hx,hy,Sem.run_bind,run_eqGuard_agg w _ _ _ _ _ _ hm,Result.andThen_ok,run_eql_struct,Zrg,Sem.run_pure]
theorem Ztf {o:Oper} {ρ:Operand→Value} {w:World} {x y:Operand} {k:TypeId} {a b a' b':ByteArray} {d d':Int} {r:Bool} (ho:o.op=Op.binOp .neq 23 x y k) (hx:ρ x=.agg #[.string a, .string b, .int .i64 d]) (hy:ρ y=.agg #[.string a', .string b', .int .i64 d'])
 (hr:(!((a.toList == a'.toList) && ((b.toList == b'.toList) && (d == d'))))=r):(execOp ρ o).run Tryz.prog w=.ok (.value (.bool r)) w:=by
 have hm:Tryz.prog.eqGuardType Tryz.prog.depth 23=false:=by kernel_rfl
 subst hr
 simp only [execOp,ho,hx,hy,Sem.run_bind,run_eqGuard_agg w _ _ _ _ _ _ hm,Result.andThen_ok,run_neq_struct,Zrg,Sem.run_pure]
theorem Zt9 (a b:ByteArray) (d:Int):((a.toList == a.toList) && ((b.toList == b.toList) && (d == d)))=true:=by simp
theorem ZtS (a b:ByteArray) (d:Int):(!((a.toList == a.toList) && ((b.toList == b.toList) && (d == d))))=false:=by simp
theorem Zlc {o:Oper} {ρ:Operand→Value} {w:World} (x y:Operand) (k:TypeId) (a b:ByteArray) (d:Int) (ho:o.op=Op.binOp .eql 23 x y k:=by kernel_rfl) (hx:ρ x=.agg #[.string a, .string b, .int .i64 d]:=by kernel_rfl) (hy:ρ y=.agg #[.string a, .string b, .int .i64 d]:=by kernel_rfl) :
 (execOp ρ o).run Tryz.prog w=.ok (.value (.bool true)) w:=Zte ho hx hy (Zt9 a b d)
theorem ZiD {o:Oper} {ρ:Operand→Value} {w:World} (x y:Operand) (k:TypeId) (a b:ByteArray) (d:Int) (ho:o.op=Op.binOp .neq 23 x y k:=by kernel_rfl) (hx:ρ x=.agg #[.string a, .string b, .int .i64 d]:=by kernel_rfl) (hy:ρ y=.agg #[.string a, .string b, .int .i64 d]:=by kernel_rfl) :
 (execOp ρ o).run Tryz.prog w=.ok (.value (.bool false)) w:=Ztf ho hx hy (ZtS a b d)
end Go.Proofs.YtbgkofgoeoiciaaGreatDoor

namespace Go.Proofs.YtbgkofgoeoiciaaGreatDoor
open Go.RowKit
end Go.Proofs.YtbgkofgoeoiciaaGreatDoor

namespace Go.Proofs.YtbgkofgoeoiciaaGreatDoor
open Go.RowKit
section
variable {w w':World} {e:Ending} {s:ByteArray}
end
def e4:Nat:=400
end Go.Proofs.YtbgkofgoeoiciaaGreatDoor

namespace Go.Proofs.YtbgkofgoeoiciaaGreatDoor
open Go.RowKit
end Go.Proofs.YtbgkofgoeoiciaaGreatDoor

namespace Go.Proofs.YtbgkofgoeoiciaaGreatDoor
open Go.RowKit
end Go.Proofs.YtbgkofgoeoiciaaGreatDoor

namespace Go.Proofs.YtbgkofgoeoiciaaGreatDoor
open Go.RowKit
theorem zt:Zad 0=[48]:=ZcW (n:=0) (by decide) (by decide) (by decide)
end Go.Proofs.YtbgkofgoeoiciaaGreatDoor

namespace Go.Proofs.YtbgkofgoeoiciaaGreatDoor
open Go.RowKit
section
variable {s t:ByteArray} {p q r:Rat} {w:World}
end
end Go.Proofs.YtbgkofgoeoiciaaGreatDoor
