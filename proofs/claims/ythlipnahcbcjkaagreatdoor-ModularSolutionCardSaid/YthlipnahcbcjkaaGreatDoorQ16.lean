/-
 My texts Gen, Small, Rat2, SxK, Sx8, Sx9, Sx12, Sx13, Mt, El, Ms, Elw, Ma, Reduce, Reduce2, RStr, Frac, Rt, Dc, RfM, Whole, Ra, Ts, Rec, RcM, Cmp, Whole2, Whole3, Recon, Awake put together.
-/
import Derived.Test.YthlipnahcbcjkaaGreatDoorQ13
import Derived.Test.YthlipnahcbcjkaaGreatDoorQ10
import Derived.Test.YthlipnahcbcjkaaGreatDoorQ15
import Derived.Outline
import Derived.Test.YthlipnahcbcjkaaGreatDoorQ14
import Derived.Test.YthlipnahcbcjkaaGreatDoorQ01
import Derived.Deep.LoopGhost
import Derived.Test.YthlipnahcbcjkaaGreatDoorQ11
import Derived.Scope
import Derived.Test.YthlipnahcbcjkaaGreatDoorQ02
import Derived.Deep.DeepCutAuto
set_option maxRecDepth 100000
namespace Go.Proofs.YthlipnahcbcjkaaGreatDoor
open Go.RowKit
theorem Za6:Tryz.prog.follows .mixedOrders=true:=by kernel_rfl
theorem Zaf.shp {w:World} {v:Value} {z:Int} (h:Zaf w v z):∃ (s:Bool) (A:Option Addr) (l c:Nat),v=.agg #[.bool s, .slice A l c]:=h.shape
theorem Zaf.nil (w:World):Zaf w (.agg #[.bool false, .slice none 0 0]) 0:=Zaf.zero w
theorem ZaN.nil (w:World):ZaN w (.agg #[.bool false, .slice none 0 0, .bool false, .slice none 0 0]) 0:=ZaN.zero w
theorem ZaN.shp {w:World} {v:Value} {q:Rat} (h:ZaN w v q):∃ (s:Bool) (A:Option Addr) (l c:Nat) (t:Bool) (B:Option Addr) (l' c':Nat),v=.agg #[.bool s, .slice A l c, .bool t, .slice B l' c']:=by
 obtain ⟨s,t,A,B,l,c,l',c',h,_⟩:=h
 exact ⟨s,A,l,c,t,B,l',c',h⟩
theorem ZaN.of {w:World} {s t:Bool} {A B:Option Addr} {l c l' c':Nat} {q:Rat} (h1:Zaf w (.agg #[.bool s, .slice A l c]) q.num) (h2:Zaf w (.agg #[.bool t, .slice B l' c']) (denF q)):ZaN w (.agg #[.bool s, .slice A l c, .bool t, .slice B l' c']) q :=
 ⟨_,_,_,_,_,_,_,_,rfl,h1,h2⟩
section
variable {ops:Array Oper} {S:World→Prop} {o:Oper} {a:Act} {p:Operand} {g off:Nat} {x y z u v:Value}
end
end Go.Proofs.YthlipnahcbcjkaaGreatDoor

namespace Go.Proofs.YthlipnahcbcjkaaGreatDoor
open Go.RowKit
theorem Zdn:Tryz.prog.follows .mixedOrders=true:=by kernel_rfl
theorem Zbo {ops:Array Oper} {S:World→Prop} {o:Oper} {a:Act} {p:Operand} {g:Nat} {x y:Value} (hg:o.guard=none) (ho:o.op=Op.load 105 p) (hp:a.eval p=.pointer (some ⟨g,0,none⟩))
 (hc:∀ w,S w→w.cell? ⟨g,0,none⟩=some x∧w.cell? ⟨g,1,none⟩=some y):YieldsIf Tryz.prog ops S o (.agg #[x,y]) a :=
 Or.inl ⟨by unfold Region.wanted; rw [hg],fun w hS=>by
  obtain ⟨h0,h1⟩:=hc w hS
  simp only [execOp,ho,hp]
  simp [go_sem,h0,h1]⟩
theorem ZgE (a b:Int):cmpI a b < 0 ↔ a < b:=by
 unfold cmpI
 split
 ·simp; omega
 ·split
  ·simp; omega
  ·simp; omega
theorem Zbg {t t':TypeId} {w w':World} {g g':Nat} {x y x' y':Value} (h:Blk t w g #[x,y]) (h':Blk t' w g' #[x',y']) (hF:Ext w w') :
 (w'.cell? ⟨g,0,none⟩=some x∧w'.cell? ⟨g,1,none⟩=some y)∧(w'.cell? ⟨g',0,none⟩=some x'∧w'.cell? ⟨g',1,none⟩=some y') :=
 ⟨⟨(h.ext hF).cell 0,(h.ext hF).cell 1⟩,⟨(h'.ext hF).cell 0,(h'.ext hF).cell 1⟩⟩
set_option maxHeartbeats 1000000 in
theorem Zhy (a b:Value) (x m:Int) (w:World) (ha:Zaf w a x) (hb:Zaf w b m) (hx:wl x.natAbs < 40) (hm:Fits m):Calls Tryz.prog 206 #[a,b] w (RetV w (.bool (decide (x * x * 2 < m)))):=by
 obtain ⟨s,A,l,c,rfl⟩:=ha.shape
 obtain ⟨t,B,l',c',rfl⟩:=hb.shape
 have HA:=zh ha
 have HB:=zh hb
 have HX:=zh hx
 have HM:=zh hm
 have HXX:Hid (Fits (x * x)):=by
  have h1:=Zfq x.natAbs x.natAbs
  unfold Hid Fits; rw [Int.natAbs_mul]; exact Nat.le_trans h1 (by omega)
 have HXY:Hid (Fits (x * x * ((2 ^ 1:Nat):Int))):=by
  have h1:=Zfq (x * x).natAbs 2
  have h2:=Zfq x.natAbs x.natAbs
  have h3:wl 2≤1:=Zcn.2 (by rw [Zai]; omega)
  rw [← Int.natAbs_mul] at h2
  unfold Hid Fits; rw [Int.natAbs_mul,Int.natAbs_natCast]; exact Nat.le_trans h1 (by omega)
 clear ha hb hx hm
 go_enter Tryz.func206,Tryz.ntmps206
 go_wp2_with fail
 generalize hwb:World.alloc (World.alloc w _) _=wb
 obtain ⟨hBx,hBy,Q⟩:=Zce hwb
 clear hwb
 refine Zeb 8 (fun w'=>(w'.cell? ⟨w.heap.size,0,none⟩=some (.bool s)∧w'.cell? ⟨w.heap.size,1,none⟩=some (.slice A l c))∧(w'.cell? ⟨w.heap.size + 1,0,none⟩=some (.bool t)∧w'.cell? ⟨w.heap.size + 1,1,none⟩=some (.slice B l' c'))) Zdn ?_
 refine ZbT 0 rfl (by kernel_rfl) (fun _ _ _ h=>h) ⟨⟨hBx.cell 0,hBx.cell 1⟩,⟨hBy.cell 0,hBy.cell 1⟩⟩ (fun _=>Zbo rfl rfl rfl (fun _ h=>h.1)) (fun hS=>?_)
 refine ZbT 1 rfl (by kernel_rfl) (fun _ _ _ h=>h) hS (fun _=>Zbo rfl rfl rfl (fun _ h=>h.1)) (fun hS=>?_)
 refine ZbT 4 rfl (by kernel_rfl) (fun _ _ _ h=>h) hS (fun _=>Zbo rfl rfl rfl (fun _ h=>h.2)) (fun hS=>?_)
 refine ZcW 2 rfl (by kernel_rfl) rfl (fun K hK=>?_)
 go_simp
 refine (Zg1 _ _ x x _ (HA.out.ext Q.drew) (HA.out.ext Q.drew) (by have:=HX.out; unfold Fits; omega) (by have:=HX.out; unfold Fits; omega) (Or.inl HX.out)).mono ?_
 rintro e w1 ⟨u1,rfl,hI1,hF1⟩
 obtain ⟨s1,A1,l1,c1,rfl⟩:=hI1.shape
 replace hF1:=Fr.undrew hF1
 refine hK _ _ (Zbg hBx hBy hF1) ?_
 refine ZcW 3 rfl (by kernel_rfl) rfl (fun K hK=>?_)
 go_simp
 refine (Zmb _ _ 1 _ hI1 HXX.out (by omega)).mono ?_
 rintro e w2 ⟨u2,rfl,hI2,hF2⟩
 obtain ⟨s2,A2,l2,c2,rfl⟩:=hI2.shape
 refine hK _ _ (Zbg hBx hBy (hF1.trans hF2)) ?_
 refine ZcW 5 rfl (by kernel_rfl) rfl (fun K hK=>?_)
 go_simp
 refine (Zhq _ _ _ m _ hI2 (HB.out.ext ((Q.trans hF1).trans hF2)) HXY.out HM.out).mono ?_
 rintro e w3 ⟨rfl,hF3⟩
 refine hK _ _ (Zbg hBx hBy ((hF1.trans hF2).trans hF3)) ?_
 have HE3:=zh (((Q.trans hF1).trans hF2).trans hF3)
 refine ZcW 6 rfl (by kernel_rfl) rfl (fun K hK=>?_)
 go_simp
 refine hK _ _ (Zbg hBx hBy ((hF1.trans hF2).trans hF3)) ?_
 refine ZcW 7 rfl (by kernel_rfl) rfl (fun K hK=>?_)
 go_simp
 refine hK _ _ (Zbg hBx hBy ((hF1.trans hF2).trans hF3)) ?_
 refine Zcz (l:=[]) 8 rfl (by kernel_rfl) ?_
 have HC:Hid (decide (cmpI (x * x * ((2 ^ 1:Nat):Int)) m < 0)=decide (x * x * 2 < m)):=by
  unfold Hid
  have:=ZgE (x * x * ((2 ^ 1:Nat):Int)) m
  have e:((2 ^ 1:Nat):Int)=2:=rfl
  rw [e] at this ⊢
  by_cases h:x * x * 2 < m
  ·rw [decide_eq_true h,decide_eq_true (this.2 h)]
  ·rw [decide_eq_false h,decide_eq_false (fun k=>h (this.1 k))]
 go_wp2
 go_ret
 exact ⟨by rw [← HC.out]; rfl,HE3.out⟩
end Go.Proofs.YthlipnahcbcjkaaGreatDoor

namespace Go.Proofs.YthlipnahcbcjkaaGreatDoor
open Go.RowKit
def Za4 (w:World) (g:Nat) (z:Int):Prop:=∃ s A l c,Blk 105 w g #[.bool s, .slice A l c]∧Zaf w (.agg #[.bool s, .slice A l c]) z
theorem Za4.ext {w w':World} {g:Nat} {z:Int} (h:Za4 w g z) (hF:Ext w w'):Za4 w' g z:=by
 obtain ⟨s,A,l,c,h1,h2⟩:=h
 exact ⟨s,A,l,c,h1.ext hF,h2.ext hF⟩
theorem Za4.lt {w:World} {g:Nat} {z:Int} (h:Za4 w g z):g < w.heap.size:=by
 obtain ⟨_,_,_,_,h1,_⟩:=h
 exact h1.lt
theorem Za4.put {w:World} {g:Nat} {z z':Int} {s:Bool} {A:Option Addr} {l c:Nat} (h:Za4 w g z) (hI:Zaf w (.agg #[.bool s, .slice A l c]) z'):Za4 ((w.setCell ⟨g,0,none⟩ (.bool s)).setCell ⟨g,1,none⟩ (.slice A l c)) g z':=by
 obtain ⟨s0,A0,l0,c0,h1,_⟩:=h
 exact ⟨s,A,l,c,(h1.set_ 0 _).set_ 1 _,hI.other h1 ZhR (Fr.set2 _ _)⟩
theorem Za4.away {w:World} {g r:Nat} {z z0:Int} {a b:Value} (h:Za4 w g z) (hr:Za4 w r z0) (hne:g≠r):Za4 ((w.setCell ⟨r,0,none⟩ a).setCell ⟨r,1,none⟩ b) g z:=by
 obtain ⟨s,A,l,c,h1,h2⟩:=h
 obtain ⟨s0,A0,l0,c0,k1,_⟩:=hr
 exact ⟨s,A,l,c,h1.fr (Fr.set2 _ _) hne,h2.other k1 ZhR (Fr.set2 _ _)⟩
theorem Zaf.away {w:World} {r:Nat} {v:Value} {z z0:Int} {a b:Value} (h:Zaf w v z) (hr:Za4 w r z0):Zaf ((w.setCell ⟨r,0,none⟩ a).setCell ⟨r,1,none⟩ b) v z:=by
 obtain ⟨s0,A0,l0,c0,k1,_⟩:=hr
 exact h.other k1 ZhR (Fr.set2 _ _)
def Ziv (w:World) (q:Rat) (e:Ending) (w':World):Prop:=∃ v,e=.returned v∧ZaN w' v q∧Ext w w'
theorem Zlb {fn:Func} {t:Tmp} {tmps:Array Value} {w w':World} {r:Nat} {s s':Bool} {A B:Option Addr} {l c l' c':Nat} {q:Rat} (hres:fn.results=#[.cell t 107]) (ht:tmps[t]? = some (.pointer (some ⟨r,0,none⟩)))
 (hB:Blk 107 w' r #[.bool s, .slice A l c, .bool s', .slice B l' c']) (hI:Zaf w' (.agg #[.bool s, .slice A l c]) q.num) (hI':Zaf w' (.agg #[.bool s', .slice B l' c']) (denF q)) (Q:Ext w w') :
 bodyPost Tryz.prog fn (Ziv w q) .ret ⟨tmps,[]⟩ w':=by
 obtain ⟨h0,h1,h2,h4,_⟩:=hB.cell4
 exact bodyPost_ret (v:=.agg #[.bool s, .slice A l c, .bool s', .slice B l' c']) (by simp [results,hres,ht,go_sem,h0,h1,h2,h4]) rfl ⟨_,rfl,⟨_,_,_,_,_,_,_,_,rfl,hI,hI'⟩,Q⟩
theorem Zdy {q:Rat}:denF q=0 ↔ q.den=1:=by
 unfold denF
 have:=q.den_nz
 split<;>omega
set_option maxHeartbeats 1000000 in
theorem Zed (a:Value) (q:Rat) (w:World) (ha:ZaN w a q):Calls Tryz.prog 133 #[a] w (RetV w (.bool (decide (q.den=1)))):=by
 obtain ⟨s,t,A,B,l,c,l',c',rfl,hn,hd⟩:=ha
 have HD:=zh hd
 have hdc:Hid (decide (denF q=0)=decide (q.den=1)):=by
  unfold Hid
  by_cases h:q.den=1
  ·rw [decide_eq_true h,decide_eq_true (Zdy.2 h)]
  ·rw [decide_eq_false h,decide_eq_false (fun k=>h (Zdy.1 k))]
 clear hn hd
 go_enter Tryz.func133,Tryz.ntmps133
 go_wp2_with fail
 refine (Zc4 _ _ _ (HD.out.ext ((Fr.refl _ _).alloc _))).mono ?_
 rw [hdc.out]
 rintro e w1 ⟨rfl,hF⟩
 have HF:=zh (((Fr.refl _ _).alloc _).trans hF:Ext w w1)
 clear hF
 go_wp2
 go_ret
 exact ⟨rfl,HF.out⟩
set_option maxHeartbeats 1000000 in
theorem Zlc (a:Value) (q:Rat) (w:World) (ha:ZaN w a q):Calls Tryz.prog 134 #[a] w (ZaX w q.num):=by
 obtain ⟨s,t,A,B,l,c,l',c',rfl,hn,hd⟩:=ha
 have HN:=zh hn
 clear hn hd
 go_enter Tryz.func134,Tryz.ntmps134
 go_wp2
 have h1:=Blk.new (w.alloc (.cells #[.bool s, .slice A l c, .bool t, .slice B l' c'] 107)) 105 #[.bool s, .slice A l c]
 have e:(w.alloc (.cells #[.bool s, .slice A l c, .bool t, .slice B l' c'] 107)).heap.size=w.heap.size + 1:=by simp
 rw [e] at h1
 exact Zj2 rfl rfl h1 (HN.out.ext (((Fr.refl _ _).alloc _).alloc _)) (((Fr.refl _ _).alloc _).alloc _)
set_option maxHeartbeats 1000000 in
theorem Zer (a b:Value) (x y:Int) (q:Rat) (w:World) (ha:Zaf w a x) (hb:Zaf w b y) (hq:q.num=x∧(q.den:Int)=y):Calls Tryz.prog 75 #[a,b] w (Ziv w q):=by
 obtain ⟨s,A,l,c,rfl⟩:=ha.shape
 obtain ⟨t,B,l',c',rfl⟩:=hb.shape
 have HA:=zh ha
 have HB:=zh hb
 have HQ:=zh hq
 clear ha hb hq
 go_enter Tryz.func75,Tryz.ntmps75
 go_wp2_with fail
 generalize hwb:World.alloc (World.alloc (World.alloc w _) _) _=wb
 have Q:Ext w wb:=hwb ▸ (((Fr.refl _ _).alloc _).alloc _).alloc _
 have hB0:Blk 105 wb w.heap.size #[.bool s, .slice A l c]:=hwb ▸ ((Blk.new _ _ _).alloc _).alloc _
 have hB1:Blk 105 wb (w.heap.size + 1) #[.bool t, .slice B l' c']:=by
  have h:=(Blk.new (w.alloc (.cells #[.bool s, .slice A l c] 105)) 105 #[.bool t, .slice B l' c']).alloc (.cells #[.bool false, .slice none 0 0, .bool false, .slice none 0 0] 107)
  have e:(w.alloc (.cells #[.bool s, .slice A l c] 105)).heap.size=w.heap.size + 1:=by simp
  rw [e] at h
  exact hwb ▸ h
 have hB2:Blk 107 wb (w.heap.size + 1 + 1) #[.bool false, .slice none 0 0, .bool false, .slice none 0 0]:=by
  have h:=Blk.new ((w.alloc (.cells #[.bool s, .slice A l c] 105)).alloc (.cells #[.bool t, .slice B l' c'] 105)) 107 #[.bool false, .slice none 0 0, .bool false, .slice none 0 0]
  have e:((w.alloc (.cells #[.bool s, .slice A l c] 105)).alloc (.cells #[.bool t, .slice B l' c'] 105)).heap.size=w.heap.size + 1 + 1:=by simp
  rw [e] at h
  exact hwb ▸ h
 clear hwb
 refine (Zbj _ y _ (HB.out.ext Q)).mono ?_
 by_cases h1:y=1
 ·rw [decide_eq_true h1]
  rintro e w1 ⟨rfl,hF⟩
  have HE:=zh (Q.trans hF)
  have HB0:=zh (hB0.ext hF)
  have HB2:=zh (hB2.ext hF)
  have HD:Hid (denF q=0):=Zdy.2 (by have:=HQ.out.2; omega)
  obtain ⟨x0,x1,_,_⟩:=HB0.out.cell2
  obtain ⟨y0,y1,y2,y3,y4,y5,y6,y7⟩:=HB2.out.cell4
  clear Q hF hB0 hB1 hB2 h1
  go_wp2
  refine Zlb rfl rfl (HB2.out.put4 _ _ _ _) ?_ ?_ (Fr.local_ HE.out (Fr.set4 _ _ _ _) (by omega))
  ·rw [HQ.out.1]; exact (HA.out.ext HE.out).other HB2.out Zbb (Fr.set4 _ _ _ _)
  ·rw [HD.out]; exact Zaf.zero _
 ·rw [decide_eq_false h1]
  rintro e w1 ⟨rfl,hF⟩
  have HE:=zh (Q.trans hF)
  have HB0:=zh (hB0.ext hF)
  have HB1:=zh (hB1.ext hF)
  have HB2:=zh (hB2.ext hF)
  have HD:Hid (denF q=y):=by
   have:=HQ.out.2
   unfold Hid denF; rw [if_neg (by omega)]; exact this
  obtain ⟨x0,x1,_,_⟩:=HB0.out.cell2
  obtain ⟨z0,z1,_,_⟩:=HB1.out.cell2
  obtain ⟨y0,y1,y2,y3,y4,y5,y6,y7⟩:=HB2.out.cell4
  clear Q hF hB0 hB1 hB2 h1
  go_wp2
  refine Zlb rfl rfl (HB2.out.put4 _ _ _ _) ?_ ?_ (Fr.local_ HE.out (Fr.set4 _ _ _ _) (by omega))
  ·rw [HQ.out.1]; exact (HA.out.ext HE.out).other HB2.out Zbb (Fr.set4 _ _ _ _)
  ·rw [HD.out]; exact (HB.out.ext HE.out).other HB2.out Zbb (Fr.set4 _ _ _ _)
end Go.Proofs.YthlipnahcbcjkaaGreatDoor

namespace Go.Proofs.YthlipnahcbcjkaaGreatDoor
open Go.RowKit
section
variable {S:Nat→Prop} {w w' w0:World} {k:IntKind} {A:Option Addr} {xs:List Nat}
theorem Zak.nrb (hk:k≠.i64) (h:Zak k w A xs) (hS:∀ i,S i→NRB w i) (hF:Fr S w w'):Zak k w' A xs:=by
 cases xs with
 | nil=>exact Zak.nil
 | cons x xs =>
   refine h.fr hF (fun ad hA hlt hs=>?_)
   obtain ⟨g,off,e',_,hcl⟩:=h.at (i:=0) (by simp)
   rw [e'] at hA
   injection hA with hA
   subst hA
   obtain ⟨t,cs,hB,hc⟩:=hS _ hs
   rw [hB.cell] at hcl
   exact hk (hc _ _ _ hcl)
theorem Zae.nrb {u:Value} {n:Nat} (h:Zae w u n) (hS:∀ i,S i→NRB w i) (hF:Fr S w w'):Zae w' u n:=by
 obtain ⟨A',xs,c',h1,h2,h3,h4⟩:=h
 exact ⟨A',xs,c',h1,h2,h3.nrb (by decide) hS hF,h4⟩
theorem Zaf.nrb {v:Value} {z:Int} (h:Zaf w v z) (hS:∀ i,S i→NRB w i) (hF:Fr S w w'):Zaf w' v z:=by
 obtain ⟨s',u,n,h1,h2,h3⟩:=h
 exact ⟨s',u,n,h1,h2.nrb hS hF,h3⟩
theorem ZaN.nrb {v:Value} {q:Rat} (h:ZaN w v q) (hS:∀ i,S i→NRB w i) (hF:Fr S w w'):ZaN w' v q:=by
 obtain ⟨s,t,A,B,l,c,l',c',h1,h2,h3⟩:=h
 exact ⟨s,t,A,B,l,c,l',c',h1,h2.nrb hS hF,h3.nrb hS hF⟩
theorem NRB.ext {i:Nat} (h:NRB w i) (he:Ext w w'):NRB w' i:=by
 obtain ⟨t,cs,hB,hc⟩:=h
 exact ⟨t,cs,hB.ext he,hc⟩
theorem boxn {φ:World→Prop} (he:Ext w w') (h:∀ S w'',(∀ i,S i→NRB w' i)→Fr S w' w''→φ w''):BoxN w w' φ:=fun S hS w'' hf=>h S w'' (fun i hi=>(hS i hi).2.ext he) hf
end
abbrev ShI:=Bool × Option Addr × Nat × Nat
abbrev ShQ:=Bool × Option Addr × Nat × Nat × Bool × Option Addr × Nat × Nat
def Zc8 (x:ShI):Value:=.agg #[.bool x.1, .slice x.2.1 x.2.2.1 x.2.2.2]
def ZbY (x:ShQ):Value:=.agg #[.bool x.1, .slice x.2.1 x.2.2.1 x.2.2.2.1, .bool x.2.2.2.2.1, .slice x.2.2.2.2.2.1 x.2.2.2.2.2.2.1 x.2.2.2.2.2.2.2]
section
variable {w w':World} {e:Ending}
theorem Zb8 {z:Int} (h:ZaX w z e w'):ZcP Zc8 (fun x w=>Zaf w (Zc8 x) z) w e w':=by
 obtain ⟨v,rfl,hI,Q⟩:=h
 obtain ⟨s,A,l,c,rfl⟩:=hI.shp
 exact ⟨(s,A,l,c),rfl,Q,boxn Q (fun S w'' hS hF=>hI.nrb hS hF)⟩
theorem ZfW {q:Rat} (h:Ziv w q e w'):ZcP ZbY (fun x w=>ZaN w (ZbY x) q) w e w':=by
 obtain ⟨v,rfl,hI,Q⟩:=h
 obtain ⟨s,A,l,c,t,B,m,d,rfl⟩:=hI.shp
 exact ⟨(s,A,l,c,t,B,m,d),rfl,Q,boxn Q (fun S w'' hS hF=>hI.nrb hS hF)⟩
theorem Zau {v u:Value} (h:e=.returned v∧Ext w w') (hv:v=u):ZcP (fun _:Unit=>u) (fun _ _=>True) w e w':=by
 obtain ⟨rfl,Q⟩:=h
 subst hv
 exact ⟨(),rfl,Q,BoxN.pure trivial⟩
end
end Go.Proofs.YthlipnahcbcjkaaGreatDoor

namespace Go.Proofs.YthlipnahcbcjkaaGreatDoor
open Go.RowKit
section
variable {N:Nat} {S0:Nat→Prop} {w0:World} {s s':St} {Φ Ψ Φ0:World→Prop} {L:Nat→Nat} {a:Act} {w:World} {P:Program} {ops:Array Oper} {Q:Exit→Act→World→Prop} {o:Oper}
theorem ZaA.of {sl:SlL} {bl:BlL} (h:(sl.map (fun q=>s.sl q.1),bl.map (fun q=>s.bl q.1))=(sl.map (fun q=>some q.2),bl.map (fun q=>some q.2))):ZaA s sl bl:=h
def ZnW (N:Nat) (S0:Nat→Prop) (w0:World) (J:Nat→St→(World→Prop)→Prop) (n:Nat) (a:Act) (w:World):Prop:=∃ n' s' Φ' L',n' < n∧J n' s' Φ'∧Inv N S0 w0 s' Φ' L' a w
theorem Zbs {c:Code} (J:Nat→St→(World→Prop)→Prop) (n0:Nat) (h0:J n0 s Φ)
 (round:∀ n s Φ,J n s Φ→SXc P N S0 w0 (Exit.then (ZnW N S0 w0 J n) Q) c s Φ):SXc P N S0 w0 Q (.loop c) s Φ:=fun L a w hi=>by
 refine wp_loop_ghost (fun n a w=>∃ s Φ L,J n s Φ∧Inv N S0 w0 s Φ L a w) n0 ⟨s,Φ,L,h0,hi⟩ ?_
 rintro n a w ⟨s,Φ,L,hJ,hi⟩
 refine wp_mono (round n s Φ hJ L a w hi) ?_
 intro e a' w' hq
 cases e with
 | normal =>
   obtain ⟨n',s',Φ',L',h1,h2,h3⟩:=hq
   exact ⟨n',h1,s',Φ',L',h2,h3⟩
 | exit id=>exact hq
 | goto l=>exact hq
 | ret=>exact hq
 | panic ch=>exact hq
 | outgrown=>exact hq
theorem Za0 {J:Nat→St→(World→Prop)→Prop} {n:Nat} (n':Nat) (hlt:n' < n) (h:J n' s Φ):SXq N S0 w0 (Exit.then (ZnW N S0 w0 J n) Q .normal) s Φ:=fun _ _ _ hi=>⟨n',s,Φ,_,hlt,h,hi⟩
theorem ZoM {x y:Code} (J:St→(World→Prop)→Prop) (h1:SXc P N S0 w0 (Exit.then (fun a w=>∃ s' Φ' L',J s' Φ'∧Inv N S0 w0 s' Φ' L' a w) Q) x s Φ) (h2:∀ s Φ,J s Φ→SXc P N S0 w0 Q y s Φ):SXc P N S0 w0 Q (.seq x y) s Φ:=fun L a w hi=>by
 refine wp_seq (wp_mono (h1 L a w hi) ?_)
 intro e a' w' hq
 cases e with
 | normal =>
   obtain ⟨s',Φ',L',h2',h3⟩:=hq
   exact h2 s' Φ' h2' L' a' w' h3
 | exit id=>exact hq
 | goto l=>exact hq
 | ret=>exact hq
 | panic ch=>exact hq
 | outgrown=>exact hq
theorem Zld {J:St→(World→Prop)→Prop} (h:J s Φ):SXq N S0 w0 (Exit.then (fun a w=>∃ s' Φ' L',J s' Φ'∧Inv N S0 w0 s' Φ' L' a w) Q .normal) s Φ:=fun _ _ _ hi=>⟨s,Φ,_,h,hi⟩
theorem Zi1 {n i:Nat} (d:Nat) {α:Type} [hα:Nonempty α] (sh:α→Value) (φ:α→World→Prop) (hi:Nat.blt i n=true) (hm:cls (opAt ops i).op=2)
 (hw:s.wantB ops (opAt ops i)=some true) (hn:ZbB (opAt ops i).op=true) (hv:(opAt ops i).op.operands.toList.all s.vB=true) (hd:(opAt ops i).dst=some d) (hN:Nat.blt d N=true)
 (hdo:∀ w,Fr S0 w0 w→Φ w→Does P (opAt ops i) s.rho w (DoR sh φ w)) (K:∀ x,StI P N S0 w0 ops Φ0 Q n (i + 1) (s.put d (.v (sh x))) (fun w=>Φ w∧φ x w)):StI P N S0 w0 ops Φ0 Q n i s Φ:=by
 have hi':i < n:=Nat.le_of_ble_eq_true hi
 unfold StI
 rw [show n - i=(n - (i + 1)) + 1 by omega,List.range'_succ]
 exact .does hα sh φ hm hw hn hv hd (Nat.le_of_ble_eq_true hN) hdo K
end
end Go.Proofs.YthlipnahcbcjkaaGreatDoor

namespace Go.Proofs.YthlipnahcbcjkaaGreatDoor
open Go.RowKit
theorem ZhS (x:ByteArray):(x.toList == x.toList)=true:=by simp
theorem ZlF {P:Program} {ρ:Operand→Value} {w:World} {t e:TypeId} {n sz:Nat} {z:Value} {parts:Array (Nat × Operand)} {cells:Array Value} (ht:P.underlying t=some (.slice e))
 (hinfo:(P.info? e).map (fun i=>(i.zero,i.size))=some (some z,sz)) (hn:Nat.ble (n * sz) 1000=true) (hn0:Nat.beq (n * sz) 0=false)
 (hf:Instr.fill (fun i=>some (i * sz,sz)) ((List.range (n * sz)).map (fun i=>z.cells[i % z.cells.size]!)).toArray (parts.toList.map fun q=>(q.1,ρ q.2))=some cells) :
 (Instr.buildSlice t n (parts.map fun q:Nat × Operand=>(q.1,ρ q.2))).run P w=.ok (.slice (some ⟨w.heap.size,0,none⟩) n n) (w.alloc (.cells cells e)):=by
 obtain ⟨i,hi,h1⟩:=Option.map_eq_some_iff.1 hinfo
 injection h1 with h1 h2
 have hn':=Nat.le_of_ble_eq_true hn
 have hn1:¬ n * sz=0:=fun h=>by rw [h] at hn0; cases hn0
 have hn2:¬ 2 ^ 24 < n * sz:=by omega
 have e1:(Array.range (n * sz)).map (fun i=>z.cells[i % z.cells.size]!)=((List.range (n * sz)).map (fun i=>z.cells[i % z.cells.size]!)).toArray:=by
  apply Array.ext'; simp
 have e2:(parts.map fun q:Nat × Operand=>(q.1,ρ q.2)).toList=parts.toList.map fun q=>(q.1,ρ q.2):=by simp
 unfold Instr.buildSlice
 simp [underlying,ht,sizeOf,typeInfo,hi,h2,zeroValue,h1,hn1,hn2,e1,hf,newRow,newObj,Result.andThen]
 rfl
theorem Zdh {P:Program} {o:Oper} {ρ:Operand→Value} {w:World} {t e:TypeId} {n sz:Nat} {z:Value} {parts:Array (Nat × Operand)} {cells:Array Value} (ho:o.op=Op.buildSlice t n parts) (ht:P.underlying t=some (.slice e))
 (hinfo:(P.info? e).map (fun i=>(i.zero,i.size))=some (some z,sz)) (hn:Nat.ble (n * sz) 1000=true) (hn0:Nat.beq (n * sz) 0=false)
 (hf:Instr.fill (fun i=>some (i * sz,sz)) ((List.range (n * sz)).map (fun i=>z.cells[i % z.cells.size]!)).toArray (parts.toList.map fun q=>(q.1,ρ q.2))=some cells) :
 Does P o ρ w (DoR (fun b:Nat=>.slice (some ⟨b,0,none⟩) n n) (fun b w=>Blk e w b cells) w):=by
 have hrun:=ZlF (w:=w) ht hinfo hn hn0 hf
 exact Or.inl ⟨_,_,by simp [execOp,ho,hrun,Result.andThen],w.heap.size,rfl,(Fr.refl _ w).alloc _,fun S hS w'' hF=>(Blk.new w e cells).fr hF (fun h=>by have:=(hS _ h).1; omega)⟩
end Go.Proofs.YthlipnahcbcjkaaGreatDoor

namespace Go.Proofs.YthlipnahcbcjkaaGreatDoor
open Go.RowKit
theorem bl2 (b:Bool):b=true∨b=false:=by cases b<;>simp
section
variable {N:Nat} {S0:Nat→Prop} {w0:World} {s:St} {Φ Ψ:World→Prop} {L:Nat→Nat} {a:Act} {w:World} {P:Program} {ops:Array Oper} {Q:Exit→Act→World→Prop}
theorem ZfX {α:Type} (l:List α) (j:Nat) (c:α) (h:j < l.length):ZbD l j [c]=l.set j c:=by
 unfold ZbD
 rw [List.set_eq_take_append_cons_drop,if_pos h]
 simp
theorem Zkn {t e:TypeId} {k:IntKind} {b j:Nat} {xs:List Nat} (hs:(teOf P t).map (fun e=>e.size)=some 1) (hO:Own k e w b xs) (hj:j < xs.length) (v:Nat) :
 ∃ w',(Instr.storeAt t (.pointer (some ⟨b,j,none⟩)) (.int k (v:Int))).run P w=.ok () w'∧Own k e w' b (xs.set j v)∧Fr (fun i=>i=b) w w':=by
 obtain ⟨te,hte,h1⟩:=Option.map_eq_some_iff.1 hs
 obtain ⟨tail,ht,hO⟩:=hO
 obtain ⟨w',hr,hB,hF⟩:=Zd9 (P:=P) hte (g:=b) (bt:=e) (off:=j) (cur:=(xs.map fun x:Nat=>Value.int k (x:Int)) ++ tail) (v:=.int k (v:Int)) hO (by rw [h1]; rfl) (by simp [Value.cells]; omega) (fun c hc=>by simp [Value.cells] at hc; rw [hc]; rfl)
 refine ⟨w',hr,⟨tail,ht,?_⟩,hF⟩
 have e2:ZbD ((xs.map fun x:Nat=>Value.int k (x:Int)) ++ tail) j (Value.cells (.int k (v:Int))).toList=((xs.set j v).map fun x:Nat=>Value.int k (x:Int)) ++ tail:=by
  rw [show (Value.cells (.int k (v:Int))).toList=[.int k (v:Int)] from rfl,ZfX _ _ _ (by simp; omega),List.set_append_left _ _ (by simpa using hj),List.map_set]
 rw [e2] at hB
 exact hB
theorem xk {i:Nat} (d:Nat) (y:Value) (hx:∀ w,Fr S0 w0 w→Φ w→(execOp s.rho (opAt ops i)).run P w=.ok (.value y) w) (K:SXi P N S0 w0 ops Q (i + 1) (s.put d (.v y)) Φ)
 (hi:Nat.blt i ops.size=true:=by kernel_rfl) (hs:ZbB (opAt ops i).op=true:=by kernel_rfl) (hw:s.wantB ops (opAt ops i)=some true:=by kernel_rfl) (hv:(opAt ops i).op.operands.toList.all s.vB=true:=by kernel_rfl) (hd:(opAt ops i).dst=some d:=by kernel_rfl) (hN:Nat.blt d N=true:=by kernel_rfl):SXi P N S0 w0 ops Q i s Φ :=
 Zoo d y hi hs hw hv hd hN hx K
theorem xj {Φ0:World→Prop} {n i:Nat} (d:Nat) (y:Value) (hx:∀ w,Φ0 w→(execOp s.rho (opAt ops i)).run P w=.ok (.value y) w) (K:StI P N S0 w0 ops Φ0 Q n (i + 1) (s.put d (.v y)) Φ)
 (hi:Nat.blt i n=true:=by kernel_rfl) (hk:Zim (opAt ops i).op=true:=by kernel_rfl) (hw:s.wantB ops (opAt ops i)=some true:=by kernel_rfl) (hv:(opAt ops i).op.operands.toList.all s.vB=true:=by kernel_rfl) (hd:(opAt ops i).dst=some d:=by kernel_rfl) (hN:Nat.blt d N=true:=by kernel_rfl):StI P N S0 w0 ops Φ0 Q n i s Φ :=
 Zon d y hi hk hw hv hd hN hx K
end
def atA (A:Option Addr) (i:Nat):Value:=.pointer (A.map (·.add i))
section
variable {P:Program} {o:Oper} {ρ:Operand→Value} {w:World} {t e:TypeId} {x ix:Operand} {k:IntKind} {xs:List Nat}
theorem ZeO {A:Option Addr} {len cap i:Nat} (hA:A≠none) (h:i < len) (ho:o.op=Op.indexAddr t x ix:=by kernel_rfl) (ht:P.underlying t=some (.slice e):=by kernel_rfl) (hs:(P.info? e).map (fun i=>i.size)=some 1:=by kernel_rfl)
 (hx:ρ x=.slice A len cap:=by kernel_rfl) (hi:ρ ix=.int .i64 ((i:Nat):Int):=by kernel_rfl):(execOp ρ o).run P w=.ok (.value (atA A i)) w:=by
 obtain ⟨inf,hinf,h1⟩:=Option.map_eq_some_iff.1 hs
 obtain ⟨a,rfl⟩:∃ a,A=some a:=by cases A; exact absurd rfl hA; exact ⟨_,rfl⟩
 have h2:(0:Int)≤(i:Int)∧(i:Int) < (len:Int):=by omega
 simp [execOp,ho,Instr.indexAt,asIntOf,underlying,ht,hx,hi,h,sizeOf,typeInfo,hinf,h1,Result.andThen,atA]
theorem Znn {g off len cap i:Nat} (h:i < len) (ho:o.op=Op.indexAddr t x ix:=by kernel_rfl) (ht:P.underlying t=some (.slice e):=by kernel_rfl) (hs:(P.info? e).map (fun i=>i.size)=some 1:=by kernel_rfl)
 (hx:ρ x=.slice (some ⟨g,off,none⟩) len cap:=by kernel_rfl) (hi:ρ ix=.int .i64 ((i:Nat):Int):=by kernel_rfl):(execOp ρ o).run P w=.ok (.value (.pointer (some ⟨g,off + i,none⟩))) w:=by
 rw [ZeO (A:=some ⟨g,off,none⟩) (by simp) h ho ht hs hx hi,atA,Option.map_some,Zch]
theorem ZaH {g len cap i:Nat} (h:i < len) (ho:o.op=Op.indexAddr t x ix:=by kernel_rfl) (ht:P.underlying t=some (.slice e):=by kernel_rfl) (hs:(P.info? e).map (fun i=>i.size)=some 1:=by kernel_rfl)
 (hx:ρ x=.slice (some ⟨g,0,none⟩) len cap:=by kernel_rfl) (hi:ρ ix=.int .i64 ((i:Nat):Int):=by kernel_rfl):(execOp ρ o).run P w=.ok (.value (.pointer (some ⟨g,i,none⟩))) w:=by
 have:=Znn (w:=w) h ho ht hs hx hi
 rwa [Nat.zero_add] at this
theorem ZgF {g off:Nat} {c:Value} (hc:w.cell? ⟨g,off,none⟩=some c) (ho:o.op=Op.load t x:=by kernel_rfl) (hx:ρ x=.pointer (some ⟨g,off,none⟩):=by kernel_rfl) (ha:(teOf P t).map (fun e=>e.agg)=some false:=by kernel_rfl) :
 (execOp ρ o).run P w=.ok (.value c) w:=by
 obtain ⟨e,he,h1⟩:=Option.map_eq_some_iff.1 ha
 have:=Zhu (P:=P) (w:=w) he hc h1
 simp only [execOp,ho,hx,Sem.run_bind,this,Result.andThen_ok,Sem.run_pure]
theorem ZfE {b j:Nat} (hO:Own k e w b xs) (hj:j < xs.length) (ho:o.op=Op.load t x:=by kernel_rfl) (hx:ρ x=.pointer (some ⟨b,j,none⟩):=by kernel_rfl) (ha:(teOf P t).map (fun e=>e.agg)=some false:=by kernel_rfl) :
 (execOp ρ o).run P w=.ok (.value (.int k ((xs[j]?.getD 0:Nat):Int))) w:=ZgF (hO.cell hj) ho hx ha
theorem Zno {A:Option Addr} {len cap l:Nat} {lo:Operand} (hle:l≤len) (ho:o.op=Op.slice t x (some lo) none none:=by kernel_rfl) (ht:P.underlying t=some (.slice e):=by kernel_rfl) (hs:(P.info? e).map (fun i=>i.size)=some 1:=by kernel_rfl)
 (hx:ρ x=.slice A len cap:=by kernel_rfl) (hl:ρ lo=.int .i64 ((l:Nat):Int):=by kernel_rfl):(execOp ρ o).run P w=.ok (.value (.slice (if cap=l then A else A.map (·.add l)) (len - l) (cap - l))) w:=by
 obtain ⟨inf,hinf,h1⟩:=Option.map_eq_some_iff.1 hs
 simp [execOp,ho,Instr.sliceAt,Instr.slice,Instr.sliceBounds,Instr.sliceBound,asIntOf,underlying,ht,hx,hl,hle,sizeOf,typeInfo,hinf,h1,Result.andThen]
end
end Go.Proofs.YthlipnahcbcjkaaGreatDoor

namespace Go.Proofs.YthlipnahcbcjkaaGreatDoor
open Go.RowKit
section
variable {N:Nat} {S0:Nat→Prop} {w0:World} {sl:SlL} {bl:BlL} {Φ Φ0:World→Prop} {P:Program} {ops:Array Oper} {Q:Exit→Act→World→Prop}
end
end Go.Proofs.YthlipnahcbcjkaaGreatDoor

namespace Go.Proofs.YthlipnahcbcjkaaGreatDoor
open Go.RowKit
structure MR where
 A:Nat→Option Addr
 C:Nat→Nat
 X:Nat→List Nat
def MR.v (M:MR) (i:Nat):Value:=.slice (M.A i) (M.X i).length (M.C i)
def upF {α:Type} (f:Nat→α) (i:Nat) (x:α):Nat→α:=fun j=>if j=i then x else f j
theorem Zas {α:Type} (f:Nat→α) (i:Nat) (x:α):upF f i x i=x:=if_pos rfl
theorem ZaP {α:Type} {f:Nat→α} {i j:Nat} {x:α} (h:j≠i):upF f i x j=f j:=if_neg h
def MR.set (M:MR) (i j v:Nat):MR:=⟨M.A,M.C,upF M.X i ((M.X i).set j v)⟩
def MR.row (M:MR) (i:Nat) (A:Option Addr) (C:Nat) (xs:List Nat):MR:=⟨upF M.A i A,upF M.C i C,upF M.X i xs⟩
def swF (r k i:Nat):Nat:=if i=r then k else if i=k then r else i
def MR.swap (M:MR) (r k:Nat):MR:=⟨fun i=>M.A (swF r k i),fun i=>M.C (swF r k i),fun i=>M.X (swF r k i)⟩
theorem Zdi {n r k i:Nat} (hr:r < n) (hk:k < n) (hi:i < n):swF r k i < n:=by unfold swF; split<;>(try split)<;>omega
theorem Zoq {r k i j:Nat} (h:swF r k i=swF r k j):i=j:=by unfold swF at h; split at h<;>split at h<;>(try split at h)<;>(try split at h)<;>omega
theorem Zor {r k i:Nat}:swF r k (swF r k i)=i:=by unfold swF; split<;>(try split)<;>(try split)<;>(try split)<;>omega
def ZbN (tr:TypeId) (w:World) (b n:Nat) (f:Nat→Value):Prop:=∃ vs:List Value,Blk tr w b vs.toArray∧vs.length=n∧∀ i,i < n→vs[i]? = some (f i)
structure RowsO (k:IntKind) (te:TypeId) (w:World) (b n:Nat) (M:MR):Prop where
 row:∀ i,i < n→Buf k te w (M.A i) (M.C i) (M.X i)
 inj:∀ i j g,i < n→j < n→Zad (M.A i) g→Zad (M.A j) g→i=j
 ne:∀ i,i < n→¬ Zad (M.A i) b
def MatO (k:IntKind) (te tr:TypeId) (w:World) (b n:Nat) (M:MR):Prop:=ZbN tr w b n M.v∧RowsO k te w b n M
def MatB (b n:Nat) (M:MR) (g:Nat):Prop:=g=b∨∃ i,i < n∧Zad (M.A i) g
section
variable {k:IntKind} {te tr:TypeId} {w w':World} {b n:Nat} {M:MR} {f:Nat→Value} {S:Nat→Prop} {P:Program}
theorem ZbN.lt (h:ZbN tr w b n f):b < w.heap.size:=by obtain ⟨vs,h,_⟩:=h; exact h.lt
theorem ZbN.fr (h:ZbN tr w b n f) (hF:Fr S w w') (hs:¬ S b):ZbN tr w' b n f:=by
 obtain ⟨vs,h1,h2⟩:=h
 exact ⟨vs,(hF.block b h1.lt hs).trans h1,h2⟩
theorem ZbN.ext (h:ZbN tr w b n f) (hF:Ext w w'):ZbN tr w' b n f:=h.fr hF (fun e=>e)
theorem ZbN.congr {g:Nat→Value} (h:ZbN tr w b n f) (e:∀ i,i < n→f i=g i):ZbN tr w b n g:=by
 obtain ⟨vs,h1,h2,h3⟩:=h
 exact ⟨vs,h1,h2,fun i hi=>by rw [h3 i hi,e i hi]⟩
theorem ZbN.cell (h:ZbN tr w b n f) {i:Nat} (hi:i < n):w.cell? ⟨b,i,none⟩=some (f i):=by
 obtain ⟨vs,h1,h2,h3⟩:=h
 rw [h1.cell,← h3 i hi]; simp
theorem RowsO.fr (h:RowsO k te w b n M) (hF:Fr S w w') (hs:∀ i g,i < n→Zad (M.A i) g→¬ S g):RowsO k te w' b n M:=⟨fun i hi=>(h.row i hi).fr hF (fun g hg=>hs i g hi hg),h.inj,h.ne⟩
theorem RowsO.ext (h:RowsO k te w b n M) (hF:Ext w w'):RowsO k te w' b n M:=h.fr hF (fun _ _ _ _ e=>e)
theorem MatO.ext (h:MatO k te tr w b n M) (hF:Ext w w'):MatO k te tr w' b n M:=⟨h.1.ext hF,h.2.ext hF⟩
theorem MatO.fr (h:MatO k te tr w b n M) (hF:Fr S w w') (hs:∀ g,MatB b n M g→¬ S g):MatO k te tr w' b n M :=
 ⟨h.1.fr hF (hs b (Or.inl rfl)),h.2.fr hF (fun i g hi hg=>hs g (Or.inr ⟨i,hi,hg⟩))⟩
theorem Buf.own {A:Option Addr} {c:Nat} {xs:List Nat} {j:Nat} (h:Buf k te w A c xs) (hj:j < xs.length):∃ g,A=some ⟨g,0,none⟩∧Own k te w g xs∧Zbu te w g c∧xs.length≤c∧c≤maxLen:=by
 rcases h with ⟨_,rfl,_⟩ | ⟨g,rfl,h⟩
 ·exact absurd hj (by simp)
 ·exact ⟨g,rfl,h⟩
theorem MatO.ne0 (h:MatO k te tr w b n M) {i j:Nat} (hi:i < n) (hj:j < (M.X i).length):M.A i≠none:=by
 obtain ⟨g,e,_⟩:=(h.2.row i hi).own hj
 rw [e]; exact fun e=>by cases e
theorem MatO.top (h:MatO k te tr w b n M) {i:Nat} (hi:i < n):w.cell? ⟨b,i,none⟩=some (M.v i):=h.1.cell hi
theorem Zos {o:Oper} {ρ:Operand→Value} {t:TypeId} {x:Operand} {i j:Nat} (h:MatO k te tr w b n M) (hi:i < n) (hj:j < (M.X i).length) (ho:o.op=Op.load t x:=by kernel_rfl) (hx:ρ x=atA (M.A i) j:=by kernel_rfl) (ha:(teOf P t).map (fun e=>e.agg)=some false:=by kernel_rfl) :
 (execOp ρ o).run P w=.ok (.value (.int k (((M.X i)[j]?.getD 0:Nat):Int))) w:=by
 obtain ⟨g,e,hO,_⟩:=(h.2.row i hi).own hj
 exact ZgF (hO.cell hj) ho (by rw [hx,atA,e,Option.map_some,Zch,Nat.zero_add]) ha
theorem Zad.eq {g g' o:Nat} (h:Zad (some ⟨g,o,none⟩) g'):g'=g:=by obtain ⟨a,e,e2⟩:=h; injection e with e; rw [← e] at e2; exact e2.symm
theorem Zko {t:TypeId} {A:Option Addr} {c j:Nat} {xs:List Nat} (hs:(teOf P t).map (fun e=>e.size)=some 1) (h:Buf k te w A c xs) (hj:j < xs.length) (v:Nat) :
 ∃ w',(Instr.storeAt t (atA A j) (.int k (v:Int))).run P w=.ok () w'∧Buf k te w' A c (xs.set j v)∧Fr (Zad A) w w':=by
 obtain ⟨g,rfl,hO,hC,hl,hm⟩:=h.own hj
 obtain ⟨e,he,h1⟩:=Option.map_eq_some_iff.1 hs
 obtain ⟨tail,ht,hO⟩:=hO
 obtain ⟨cur,hc1,hc2⟩:=hC
 obtain ⟨w',hr,hB,hF⟩:=Zd9 (P:=P) he (g:=g) (bt:=te) (off:=j) (cur:=(xs.map fun x:Nat=>Value.int k (x:Int)) ++ tail) (v:=.int k (v:Int)) hO (by rw [h1]; rfl) (by simp [Value.cells]; omega) (fun c hc=>by simp [Value.cells] at hc; rw [hc]; rfl)
 have e2:ZbD ((xs.map fun x:Nat=>Value.int k (x:Int)) ++ tail) j (Value.cells (.int k (v:Int))).toList=((xs.set j v).map fun x:Nat=>Value.int k (x:Int)) ++ tail:=by
  rw [show (Value.cells (.int k (v:Int))).toList=[.int k (v:Int)] from rfl,ZfX _ _ _ (by simp; omega),List.set_append_left _ _ (by simpa using hj),List.map_set]
 rw [e2] at hB
 refine ⟨w',by rw [atA,Option.map_some,Zch,Nat.zero_add]; exact hr,Or.inr ⟨g,rfl,⟨tail,ht,hB⟩,⟨_,hB,?_⟩,by simpa using hl,hm⟩,hF.mono (fun i _ hi=>⟨_,rfl,hi.symm⟩)⟩
 rw [hO] at hc1
 injection hc1 with hc1
 injection hc1 with hc1
 rw [← hc2,← hc1]; simp [ZaE]
theorem MatO.setElem {t:TypeId} {i j:Nat} (hs:(teOf P t).map (fun e=>e.size)=some 1) (h:MatO k te tr w b n M) (hi:i < n) (hj:j < (M.X i).length) (v:Nat) :
 ∃ w',(Instr.storeAt t (atA (M.A i) j) (.int k (v:Int))).run P w=.ok () w'∧MatO k te tr w' b n (M.set i j v)∧Fr (Zad (M.A i)) w w':=by
 obtain ⟨w',hr,hB,hF⟩:=Zko (P:=P) hs (h.2.row i hi) hj v
 refine ⟨w',hr,⟨(h.1.fr hF (h.2.ne i hi)).congr (fun q _=>?_),fun q hq=>?_,h.2.inj,h.2.ne⟩,hF⟩
 ·unfold MR.v MR.set
  by_cases e:q=i
  ·subst e; simp only [Zas,List.length_set]
  ·simp only [ZaP e]
 ·show Buf k te w' (M.A q) (M.C q) (upF M.X i _ q)
  by_cases e:q=i
  ·subst e; rw [Zas]; exact hB
  ·rw [ZaP e]; exact (h.2.row q hq).fr hF (fun g hg h2=>e (h.2.inj q i g hq hi hg h2))
theorem ZbN.set {t:TypeId} {i:Nat} {A:Option Addr} {l c:Nat} (hs:(teOf P t).map (fun e=>e.size)=some 1) (h:ZbN tr w b n f) (hi:i < n) :
 ∃ w',(Instr.storeAt t (.pointer (some ⟨b,i,none⟩)) (.slice A l c)).run P w=.ok () w'∧ZbN tr w' b n (upF f i (.slice A l c))∧Fr (fun g=>g=b) w w':=by
 obtain ⟨e,he,h1⟩:=Option.map_eq_some_iff.1 hs
 obtain ⟨vs,hB,hl,hv⟩:=h
 obtain ⟨w',hr,hB2,hF⟩:=Zd9 (P:=P) he (g:=b) (bt:=tr) (off:=i) (cur:=vs) (v:=.slice A l c) hB (by rw [h1]; rfl) (by simp [Value.cells]; omega) (fun c hc=>by simp [Value.cells] at hc; rw [hc]; rfl)
 rw [show (Value.cells (.slice A l c)).toList=[.slice A l c] from rfl,ZfX _ _ _ (by omega)] at hB2
 refine ⟨w',hr,⟨_,hB2,by simpa using hl,fun q hq=>?_⟩,hF⟩
 by_cases e:q=i
 ·subst e; rw [Zas,List.getElem?_set_self (by omega)]
 ·rw [ZaP e,List.getElem?_set_ne (Ne.symm e)]; exact hv q hq
theorem MatO.setRow {t:TypeId} {i:Nat} {A:Option Addr} {c:Nat} {xs:List Nat} (hs:(teOf P t).map (fun e=>e.size)=some 1) (hT:ZbN tr w b n M.v) (hR:RowsO k te w b n (M.row i A c xs)) (hi:i < n) :
 ∃ w',(Instr.storeAt t (.pointer (some ⟨b,i,none⟩)) (.slice A xs.length c)).run P w=.ok () w'∧MatO k te tr w' b n (M.row i A c xs)∧Fr (fun g=>g=b) w w':=by
 obtain ⟨w',hr,hT2,hF⟩:=hT.set (P:=P) (A:=A) (l:=xs.length) (c:=c) hs hi
 refine ⟨w',hr,⟨hT2.congr (fun q _=>?_),hR.fr hF (fun q g hq hg e=>hR.ne q hq (by rw [← e]; exact hg))⟩,hF⟩
 unfold MR.v MR.row
 by_cases e:q=i
 ·subst e; simp only [Zas]
 ·simp only [ZaP e]
theorem RowsO.swap {r q:Nat} (h:RowsO k te w b n M) (hr:r < n) (hq:q < n):RowsO k te w b n (M.swap r q) :=
 ⟨fun _ hi=>h.row _ (Zdi hr hq hi),fun _ _ g hi hj h1 h2=>Zoq (h.inj _ _ g (Zdi hr hq hi) (Zdi hr hq hj) h1 h2),fun _ hi=>h.ne _ (Zdi hr hq hi)⟩
end
/-! ### steps that change the world -/
section
variable {N:Nat} {S0:Nat→Prop} {w0:World} {s:St} {Φ:World→Prop} {L:Nat→Nat} {a:Act} {w:World} {P:Program} {ops:Array Oper} {Q:Exit→Act→World→Prop}
theorem Inv.new0 (h:Inv N S0 w0 s Φ L a w) (hb:∀ b,s.bl b=none) {w':World} {Ψ:World→Prop} (hF:Fr S0 w0 w') (hΨ:∀ w'',Ext w' w''→Ψ w''):Inv N S0 w0 s Ψ L a w':=by
 refine ⟨h.size,h.df,h.sl,⟨fun b t cs e=>?_,h.mem.inj,fun b e=>?_,hF,h.mem.slp,h.mem.cel⟩,fun w'' hf=>hΨ w'' (hf.mono fun i _ hi=>?_)⟩
 ·rw [hb b] at e; cases e
 ·rw [hb b] at e; cases e
 ·obtain ⟨b,h1,_⟩:=hi
  rw [hb b] at h1; cases h1
theorem Zdj {i:Nat} (Ψ:World→Prop) (hdo:∀ w,Fr S0 w0 w→Φ w→∃ w',(execOp s.rho (opAt ops i)).run P w=.ok .skip w'∧Fr S0 w0 w'∧∀ w'',Ext w' w''→Ψ w'') (K:SXi P N S0 w0 ops Q (i + 1) s Ψ)
 (hsz:Nat.blt i ops.size=true:=by kernel_rfl) (hw:s.wantB ops (opAt ops i)=some true:=by kernel_rfl) (hn:ZbB (opAt ops i).op=true:=by kernel_rfl) (hv:(opAt ops i).op.operands.toList.all s.vB=true:=by kernel_rfl) (hd:(opAt ops i).dst=none:=by kernel_rfl) (hb:∀ b,s.bl b=none:=by exact fun _=>rfl):SXi P N S0 w0 ops Q i s Φ:=by
 unfold SXi
 rw [Ze9 hsz]
 intro L a w hi
 refine wpList_step (fun K' hK=>?_)
 rw [if_pos (hi.want hw)]
 unfold Oper.wp
 rw [hi.exec hn hv]
 obtain ⟨w',hr,R,hΨ⟩:=hdo w hi.mem.ext hi.box.self
 rw [hr,Oper.upon_skip,hd]
 exact hK _ _ (K L _ _ (hi.new0 hb R hΨ))
theorem Zd1 {i d:Nat} {α:Type} (sh:α→Value) (Ψ:α→World→Prop) (hdo:∀ w,Fr S0 w0 w→Φ w→∃ x w',(execOp s.rho (opAt ops i)).run P w=.ok (.value (sh x)) w'∧Fr S0 w0 w'∧∀ w'',Ext w' w''→Ψ x w'')
 (K:∀ x,SXi P N S0 w0 ops Q (i + 1) (s.put d (.v (sh x))) (Ψ x))
 (hsz:Nat.blt i ops.size=true:=by kernel_rfl) (hw:s.wantB ops (opAt ops i)=some true:=by kernel_rfl) (hn:ZbB (opAt ops i).op=true:=by kernel_rfl) (hv:(opAt ops i).op.operands.toList.all s.vB=true:=by kernel_rfl) (hd:(opAt ops i).dst=some d:=by kernel_rfl) (hN:Nat.blt d N=true:=by kernel_rfl) (hb:∀ b,s.bl b=none:=by exact fun _=>rfl):SXi P N S0 w0 ops Q i s Φ:=by
 unfold SXi
 rw [Ze9 hsz]
 intro L a w hi
 refine wpList_step (fun K' hK=>?_)
 rw [if_pos (hi.want hw)]
 unfold Oper.wp
 rw [hi.exec hn hv]
 obtain ⟨x,w',hr,R,hΨ⟩:=hdo w hi.mem.ext hi.box.self
 rw [hr,Oper.upon_value,hd]
 have h0:=hi.app0 (d:=d) (Nat.le_of_ble_eq_true hN) (al_v (s:=s) (sh x))
 exact hK _ _ (K x L _ _ (h0.new0 hb R (hΨ)))
theorem Zdt {i d:Nat} {α:Type} (f:FuncId) (args:List Value) (sh:α→Value) (Ψ:α→World→Prop) (hC:∀ w,Fr S0 w0 w→Φ w→Calls P f args.toArray w (fun en w'=>∃ x,en=.returned (sh x)∧Fr S0 w0 w'∧∀ w'',Ext w' w''→Ψ x w''))
 (K:∀ x,SXi P N S0 w0 ops Q (i + 1) (s.put d (.v (sh x))) (Ψ x)) (hb:∀ b,s.bl b=none:=by exact fun _=>rfl)
 (hsz:Nat.blt i ops.size=true:=by kernel_rfl) (h:ZdZ P N ops (opAt ops i) s=some (f,args,d):=by kernel_rfl):SXi P N S0 w0 ops Q i s Φ:=by
 obtain ⟨hw,hq,hd,hn,hv,hk,hN⟩:=ZeK h
 unfold SXi
 rw [Ze9 hsz]
 intro L a w hi
 refine wpList_step (fun K' hK=>?_)
 rw [if_pos (hi.want hw)]
 unfold Oper.wp
 rw [hi.exec hn hv,Zji hq hk,Oper.upon_enter]
 refine Calls.mono (hC w hi.mem.ext hi.box.self) fun en w' h'=>?_
 obtain ⟨x,rfl,R,hΨ⟩:=h'
 simp only [hd]
 have h0:=hi.app0 (d:=d) hN (al_v (s:=s) (sh x))
 exact hK _ _ (K x L _ _ (h0.new0 hb R hΨ))
theorem Znp {l:Nat} (h:SXq N S0 w0 (Q .normal) s Φ):SXc P N S0 w0 Q (.label l) s Φ:=fun L a w hi=>wp_label (h L a w hi)
end
end Go.Proofs.YthlipnahcbcjkaaGreatDoor

namespace Go.Proofs.YthlipnahcbcjkaaGreatDoor
open Go.RowKit
def mulP (c s p:Nat) (f:List Nat) (j:Nat):List Nat:=f.mapIdx (fun t x=>if c≤t∧t < j then x * s % p else x)
def addP (c q p:Nat) (f g:List Nat) (j:Nat):List Nat:=f.mapIdx (fun t x=>if c≤t∧t < j then (x + q * g[t]?.getD 0) % p else x)
section
variable {c s q p j:Nat} {f g:List Nat}
theorem Za1:(mulP c s p f j).length=f.length:=List.length_mapIdx
theorem ZaU:(addP c q p f g j).length=f.length:=List.length_mapIdx
theorem ZcK (t:Nat):(mulP c s p f j)[t]?.getD 0=if c≤t∧t < j∧t < f.length then f[t]?.getD 0 * s % p else f[t]?.getD 0:=by
 unfold mulP
 rw [List.getElem?_mapIdx]
 rcases Nat.lt_or_ge t f.length with h | h
 ·rw [List.getElem?_eq_getElem h]
  simp only [Option.map_some,Option.getD_some]
  by_cases h2:c≤t∧t < j
  ·rw [if_pos h2,if_pos ⟨h2.1,h2.2,h⟩]
  ·rw [if_neg h2,if_neg (fun e=>h2 ⟨e.1,e.2.1⟩)]
 ·rw [List.getElem?_eq_none h,if_neg (by omega)]; rfl
theorem Zca (t:Nat):(addP c q p f g j)[t]?.getD 0=if c≤t∧t < j∧t < f.length then (f[t]?.getD 0 + q * g[t]?.getD 0) % p else f[t]?.getD 0:=by
 unfold addP
 rw [List.getElem?_mapIdx]
 rcases Nat.lt_or_ge t f.length with h | h
 ·rw [List.getElem?_eq_getElem h]
  simp only [Option.map_some,Option.getD_some]
  by_cases h2:c≤t∧t < j
  ·rw [if_pos h2,if_pos ⟨h2.1,h2.2,h⟩]
  ·rw [if_neg h2,if_neg (fun e=>h2 ⟨e.1,e.2.1⟩)]
 ·rw [List.getElem?_eq_none h,if_neg (by omega)]; rfl
theorem Zdz {a b:List Nat} (hl:a.length=b.length) (h:∀ t,t < a.length→a[t]?.getD 0=b[t]?.getD 0):a=b:=by
 refine List.ext_getElem hl (fun t h1 h2=>?_)
 have:=h t h1
 rwa [List.getElem?_eq_getElem h1,List.getElem?_eq_getElem h2] at this
theorem Ziw {a:List Nat} {j v t:Nat} (hj:j < a.length):(a.set j v)[t]?.getD 0=if t=j then v else a[t]?.getD 0:=by
 by_cases e:t=j
 ·subst e; rw [if_pos rfl,List.getElem?_set_self hj]; rfl
 ·rw [if_neg e,List.getElem?_set_ne (Ne.symm e)]
theorem ZlG:mulP c s p f c=f:=Zdz Za1 (fun t _=>by rw [ZcK,if_neg (by omega)])
theorem Znq:(mulP c s p f j)[j]?.getD 0=f[j]?.getD 0:=by rw [ZcK,if_neg (by omega)]
theorem Zms (h:c≤j) (hj:j < f.length) {x:Nat} (hx:f[j]?.getD 0=x):(mulP c s p f j).set j (x * s % p)=mulP c s p f (j + 1):=by
 refine Zdz (by rw [List.length_set,Za1,Za1]) (fun t ht=>?_)
 rw [List.length_set,Za1] at ht
 rw [Ziw (by rw [Za1]; exact hj),ZcK,ZcK]
 by_cases e:t=j
 ·subst e; rw [if_pos rfl,if_pos ⟨h,by omega,hj⟩,hx]
 ·rw [if_neg e]
  by_cases e2:c≤t∧t < j∧t < f.length
  ·rw [if_pos e2,if_pos ⟨e2.1,by omega,e2.2.2⟩]
  ·rw [if_neg e2,if_neg (by omega)]
theorem ZlH:addP c q p f g c=f:=Zdz ZaU (fun t _=>by rw [Zca,if_neg (by omega)])
theorem Znr:(addP c q p f g j)[j]?.getD 0=f[j]?.getD 0:=by rw [Zca,if_neg (by omega)]
theorem Zmt (h:c≤j) (hj:j < f.length) {x y:Nat} (hx:f[j]?.getD 0=x) (hy:g[j]?.getD 0=y):(addP c q p f g j).set j ((x + q * y) % p)=addP c q p f g (j + 1):=by
 refine Zdz (by rw [List.length_set,ZaU,ZaU]) (fun t ht=>?_)
 rw [List.length_set,ZaU] at ht
 rw [Ziw (by rw [ZaU]; exact hj),Zca,Zca]
 by_cases e:t=j
 ·subst e; rw [if_pos rfl,if_pos ⟨h,by omega,hj⟩,hx,hy]
 ·rw [if_neg e]
  by_cases e2:c≤t∧t < j∧t < f.length
  ·rw [if_pos e2,if_pos ⟨e2.1,by omega,e2.2.2⟩]
  ·rw [if_neg e2,if_neg (by omega)]
theorem ZdO {a:List Nat} {t:Nat} (h:t < a.length):a[t]?.getD 0 ∈ a:=by rw [List.getElem?_eq_getElem h]; exact List.getElem_mem h
theorem Zjq (hf:∀ x ∈ f,x < p):addP c 0 p f g j=f:=Zdz ZaU (fun t ht=>by
 rw [ZaU] at ht
 rw [Zca]
 split
 ·rw [Nat.zero_mul,Nat.add_zero,Nat.mod_eq_of_lt (hf _ (ZdO ht))]
 ·rfl)
theorem Zkp {a:List Nat} {x:Nat} (h:x ∈ a):∃ t,t < a.length∧a[t]?.getD 0=x:=by
 obtain ⟨t,ht,e⟩:=List.mem_iff_getElem.1 h
 exact ⟨t,ht,by rw [List.getElem?_eq_getElem ht]; exact e⟩
theorem Zle (hp:0 < p) (hf:∀ x ∈ f,x < p):∀ x ∈ mulP c s p f j,x < p:=fun x hx=>by
 obtain ⟨t,ht,rfl⟩:=Zkp hx
 rw [Za1] at ht
 rw [ZcK]
 split
 ·exact Nat.mod_lt _ hp
 ·exact hf _ (ZdO ht)
theorem Zot (hp:0 < p) (hf:∀ x ∈ f,x < p):∀ x ∈ addP c q p f g j,x < p:=fun x hx=>by
 obtain ⟨t,ht,rfl⟩:=Zkp hx
 rw [ZaU] at ht
 rw [Zca]
 split
 ·exact Nat.mod_lt _ hp
 ·exact hf _ (ZdO ht)
theorem Zmu (h:f.length≤j) {i:Nat} (hi:f.length≤i):addP c q p f g j=addP c q p f g i:=Zdz (by rw [ZaU,ZaU]) (fun t ht=>by
 rw [ZaU] at ht
 rw [Zca,Zca]
 by_cases e:c≤t
 ·rw [if_pos ⟨e,by omega,ht⟩,if_pos ⟨e,by omega,ht⟩]
 ·rw [if_neg (fun z=>e z.1),if_neg (fun z=>e z.1)])
end
def addR (c p m r:Nat) (X1:Nat→List Nat) (F:List Nat) (q:Nat):Nat→List Nat:=fun i=>if r < i∧i < r + 1 + q then addP c ((p - (X1 i)[c]?.getD 0) % p) p (X1 i) F m else upF X1 r F i
inductive ElStep (p n m c:Nat) (X:Nat→List Nat) (r d:Nat):(Nat→List Nat)→Nat→Nat→Prop
 | none (hz:∀ i,r≤i→i < n→(X i)[c]?.getD 0=0):ElStep p n m c X r d X r d
 | some (k:Nat) (X1:Nat→List Nat) (d1 y:Nat) (F:List Nat) (hk:r≤k) (hkn:k < n) (hz:∀ i,r≤i→i < k→(X i)[c]?.getD 0=0) (hne:(X k)[c]?.getD 0≠0) (hX1:X1=fun i=>X (swF r k i)) (hd:d1=if k=r then d else (p - d) % p)
  (hy:(X1 r)[c]?.getD 0=y) (hF:F=mulP c (invN y p) p (X1 r) m):ElStep p n m c X r d (addR c p m r X1 F (n - (r + 1))) (r + 1) (d1 * y % p)
inductive ElRun (p n m:Nat) (X0:Nat→List Nat):Nat→(Nat→List Nat)→Nat→Nat→Prop
 | nil:ElRun p n m X0 0 X0 0 1
 | snoc {c r d r' d':Nat} {X X':Nat→List Nat} (h:ElRun p n m X0 c X r d) (hs:ElStep p n m c X r d X' r' d'):ElRun p n m X0 (c + 1) X' r' d'
structure ElB (p n m:Nat) (X:Nat→List Nat) (r d:Nat):Prop where
 len:∀ i,i < n→(X i).length=m
 lt:∀ i,i < n→∀ x ∈ X i,x < p
 rn:r≤n
 dp:d < p
section
variable {p n m c r d r' d':Nat} {X X':Nat→List Nat}
theorem ElB.get (h:ElB p n m X r d) {i t:Nat} (hi:i < n) (ht:t < m):(X i)[t]?.getD 0 < p:=h.lt i hi _ (ZdO (by rw [h.len i hi]; exact ht))
theorem ElB.sw (h:ElB p n m X r d) {k:Nat} (hk:k < n) (hr:r < n) {d1:Nat} (hd:d1 < p):ElB p n m (fun i=>X (swF r k i)) r d1 :=
 ⟨fun _ hi=>h.len _ (Zdi hr hk hi),fun _ hi=>h.lt _ (Zdi hr hk hi),h.rn,hd⟩
theorem ElStep.bd (hp:0 < p) (h:ElB p n m X r d) (hs:ElStep p n m c X r d X' r' d'):ElB p n m X' r' d':=by
 cases hs with
 | none hz=>exact h
 | some k X1 d1 y F hk hkn hz hne hX1 hd hy hF =>
   subst hX1
   have h1:ElB p n m (fun i=>X (swF r k i)) r 0:=h.sw hkn (by omega) hp
   refine ⟨fun i hi=>?_,fun i hi=>?_,by omega,Nat.mod_lt _ hp⟩
   ·unfold addR upF
    split
    ·rw [ZaU]; exact h1.len i hi
    ·split
     ·rw [hF,Za1]; exact h1.len r (by omega)
     ·exact h1.len i hi
   ·unfold addR upF
    split
    ·exact Zot hp (h1.lt i hi)
    ·split
     ·rw [hF]; exact Zle hp (h1.lt r (by omega))
     ·exact h1.lt i hi
theorem ZlI {X1:Nat→List Nat} {F:List Nat}:addR c p m r X1 F 0=upF X1 r F:=funext fun i=>by unfold addR; rw [if_neg (by omega)]
theorem Zns {X1:Nat→List Nat} {F:List Nat} {q i:Nat} (hi:i=r + 1 + q):addR c p m r X1 F q i=X1 i:=by
 unfold addR; rw [if_neg (by omega),ZaP (by omega)]
theorem Zkq {X1:Nat→List Nat} {F:List Nat} {q:Nat}:addR c p m r X1 F q r=F:=by unfold addR; rw [if_neg (by omega),Zas]
theorem Zjr {X1:Nat→List Nat} {F:List Nat} {q i x:Nat} (hi:i=r + 1 + q) (hx:(X1 i)[c]?.getD 0=x):upF (addR c p m r X1 F q) i (addP c ((p - x) % p) p (X1 i) F m)=addR c p m r X1 F (q + 1):=funext fun t=>by
 by_cases e:t=i
 ·subst e; rw [Zas]; unfold addR; rw [if_pos (by omega),hx]
 ·rw [ZaP e]
  unfold addR
  by_cases h2:r < t∧t < r + 1 + q
  ·rw [if_pos h2,if_pos (by omega)]
  ·rw [if_neg h2,if_neg (by omega)]
theorem Zlf {α:Type} {f:Nat→α} {i:Nat} {x y:α}:upF (upF f i x) i y=upF f i y:=funext fun t=>by
 by_cases e:t=i
 ·subst e; rw [Zas,Zas]
 ·rw [ZaP e,ZaP e,ZaP e]
theorem Zkr {α:Type} {f:Nat→α} {i:Nat}:upF f i (f i)=f:=funext fun t=>by
 by_cases e:t=i
 ·subst e; rw [Zas]
 ·rw [ZaP e]
theorem Znt {r i:Nat}:swF r r i=i:=by unfold swF; split<;>(try split)<;>omega
theorem Zo2 {r k:Nat}:swF r k r=k:=if_pos rfl
end
end Go.Proofs.YthlipnahcbcjkaaGreatDoor

namespace Go.Proofs.YthlipnahcbcjkaaGreatDoor
open Go.RowKit
section
variable {N:Nat} {S0:Nat→Prop} {w0:World} {s:St} {Φ Φ0:World→Prop} {L:Nat→Nat} {a:Act} {w:World} {P:Program} {ops:Array Oper} {Q:Exit→Act→World→Prop} {fin:St→(World→Prop)→Prop}
theorem ZlJ {s0:St} {n:Nat} {R:Nat→Nat→Bool} (hR:Zio ops R) (hu:Zec ops=true) (hn:n≤ops.size) (hback:Zfb ops=true) (hpair:Zg8 R ops s0 n=true) (hseq:Region.seqB .any ops (ops.size - n) n (ZcS ops n)=true) (hne:∃ w,Φ0 w)
 (hfin:∀ s Φ,fin s Φ→∀ L a w,Inv N S0 w0 s Φ L a w→wpList P ops Q (ops.toList.drop n) a w) :
 ∀ (k:Nat) (listed:Array Bool) (s:St) (Φ:World→Prop) (L:Nat→Nat) (a:Act) (w:World),(un n listed).length=k→listed.size=ops.size→(∀ i,n≤i→i < ops.size→listed.getD i true=false)→(∀ i,i ∈ un n listed→Zcf .any ops n i=true)→Zdf .any ops listed →
   BI ops s0 s→(∀ w,Φ w→Φ0 w)→Inv N S0 w0 s Φ L a w→Strat P N S0 w0 ops Φ0 fin (un n listed) s Φ→wpAny P .any ops Q (k + (ops.size - n)) listed a w:=by
 intro k
 induction k with
 | zero =>
   intro listed s Φ L a w hk hsz htl _ hcl hBI S hi hS
   have hnil:un n listed=[]:=List.length_eq_zero_iff.1 hk
   rw [hnil] at hS
   have hl:listed=ZcS ops n:=by
    refine Array.ext (by simp [ZcS,hsz]; omega) (fun i h1 h2=>?_)
    have hi':i < ops.size:=by rw [← hsz]; exact h1
    have e:listed.getD i true=listed[i]:=by simp [h1]
    rw [← e]
    by_cases hin:i < n
    ·have:listed.getD i true≠false:=fun h=>by
      have:=ZcE.2 ⟨hin,h⟩
      rw [hnil] at this
      cases this
     simp only [ZcS,List.getElem_toArray]
     rw [List.getElem_append_left (by simpa using hin),List.getElem_replicate]
     cases h:listed.getD i true with
     | true=>rfl
     | false=>exact absurd h this
    ·rw [htl i (by omega) hi']
     simp only [ZcS,List.getElem_toArray]
     rw [List.getElem_append_right (by simpa using hin),List.getElem_replicate]
   have hdl:(ops.toList.drop n).length=ops.size - n:=by simp
   cases hS with
   | done hf =>
     have:=wpAny_of_seq (md:=.any) (Q':=Q) (ops.toList.drop n) n listed a w (fun j=>by simp [List.getElem?_drop]) (by rw [hdl,hl]; exact hseq) (hfin _ _ hf L a w hi)
     rw [hdl] at this
     rw [Nat.zero_add]; exact this
 | succ k ih =>
   intro listed s Φ L a w hk hsz htl htail hcl hBI S hi hS
   rw [show k + 1 + (ops.size - n)=(k + (ops.size - n)) + 1 by omega]
   obtain ⟨x,R',hR'⟩:∃ x R,un n listed=x :: R:=by
    cases h:un n listed with
    | nil=>rw [h] at hk; cases hk
    | cons x R=>exact ⟨x,R,rfl⟩
   have hx:=ZcE.1 (by rw [hR']; exact List.mem_cons_self:x ∈ un n listed)
   have hmin:∀ i,i < x→listed.getD i true=true:=fun i hix=>by
    cases h:listed.getD i true with
    | true=>rfl
    | false =>
      have:=ZcE.2 ⟨(by omega:i < n),h⟩
      rw [hR'] at this
      have hs:=Zek n listed
      rw [hR'] at hs
      rcases List.mem_cons.1 this with e | e
      ·omega
      ·have:=(List.pairwise_cons.1 hs).1 i e; omega
   have hxr:x ∈ Region.ready .any ops listed:=by
    have hxs:x < ops.size:=by omega
    refine mem_ready.2 ⟨hx.2,opAt ops x,ZcY hxs,fun e he heb=>?_⟩
    have h1:=List.all_eq_true.1 hback x (List.mem_range.2 hxs)
    rw [ZcY hxs] at h1
    have h2':=Array.all_eq_true'.1 h1 e he
    rw [heb] at h2'
    have h2:=Nat.le_of_ble_eq_true h2'
    have h3:=hmin e.on h2
    have h4:e.on < listed.size:=by rw [hsz]; exact Nat.lt_trans h2 hxs
    simp [h4] at h3 ⊢; exact h3
   refine ⟨fun h=>(by rw [h] at hxr; cases hxr),fun j hj=>?_⟩
   have hjn:j < n:=ZhO (htail x (ZcE.2 hx)) hcl hx.2 hj
   obtain ⟨hjun,oj,hoj,hall⟩:=mem_ready.1 hj
   have hjm:j ∈ un n listed:=ZcE.2 ⟨hjn,hjun⟩
   obtain ⟨l1,l2,hl⟩:=List.append_of_mem hjm
   have hs:=Zek n listed
   rw [hl] at hs
   have hap:∀ y,y ∈ l1→y < ops.size∧(opAt ops y).apart ops (opAt ops j)=true∧(Zc7 (opAt ops y).op (opAt ops j).op=true∨(lsB (opAt ops y).op (opAt ops j).op=true∧farB ops s0 (opAt ops y) (opAt ops j)=true)):=fun y hy=>by
    have hyj:y < j:=(List.pairwise_append.1 hs).2.2 y hy j List.mem_cons_self
    have hyu:=(ZcE.1 (by rw [hl]; exact List.mem_append_left _ hy:y ∈ un n listed)).2
    have h1:=List.all_eq_true.1 (List.all_eq_true.1 hpair j (List.mem_range.2 hjn)) y (List.mem_range.2 hyj)
    rw [Bool.or_eq_true] at h1
    rcases h1 with h1 | h1
    ·have h2:=hR listed hcl j y h1 (fun o ho=>by
      have:o=oj:=Option.some.inj (ho.symm.trans hoj)
      subst this
      exact hall)
     rw [getD_both hyu] at h2
     cases h2
    ·simp only [Bool.and_eq_true,Bool.or_eq_true] at h1
     exact ⟨by omega,h1⟩
   rw [hl] at hS
   have hS':=Strat.front hu hne l1 l2 s Φ hi.wf hBI hap hS
   refine Strat.exec hu hBI (by omega) hi S hS' (fun s' Φ' L' a' w' hBI' hΦ' hi' K'=>?_)
   have hun':=Zmj hl
   refine ih (listed.setIfInBounds j true) s' Φ' L' a' w' ?_ (by simp [hsz]) (fun i h1 h2=>?_) (fun i h1=>htail i (by rw [hun'] at h1; rw [hl]; rcases List.mem_append.1 h1 with h2 | h2; exact List.mem_append_left _ h2; exact List.mem_append_right _ (List.mem_cons_of_mem _ h2))) (hcl.set hj) hBI' hΦ' hi' (by rw [hun']; exact K')
   ·rw [hun']
    rw [hl] at hk
    simp only [List.length_append,List.length_cons] at hk ⊢
    omega
   ·rw [getD_set_ne true (by omega)]; exact htl i h1 h2
theorem Zes {i d t:Nat} {v:Value} {fuel:Nat} {listed:Array Bool} (hi:Inv N S0 w0 s Φ L a w) (hsz:Nat.blt i ops.size=true) (hop:(opAt ops i).op=.move (.tmp t)) (hd:(opAt ops i).dst=some d) (hN:Nat.blt d N=true) (hw:s.wantB ops (opAt ops i)=some true) (hx:s.sl t=some (.v v))
 (hs:Region.noSelect ops=true) (hf:Region.free .any ops listed i=true) (hr:(Region.ready .any ops listed).contains i=true) (hQ:∀ c a w,Q (.panic c) (a.put (some d) v) w→Q (.panic c) a w)
 (h:∀ a',Inv N S0 w0 (s.put d (.v v)) Φ L a' w→wpAny P .any ops Q fuel (listed.setIfInBounds i true) a' w):wpAny P .any ops Q (fuel + 1) listed a w:=by
 have hlt:i < ops.size:=Nat.le_of_ble_eq_true hsz
 have he:a.eval (.tmp t)=v:=by have:=hi.eval (x:=.tmp t) (y:=.v v) hx; exact this
 refine wpAny_take (v:=v) (ZcY hlt) hs hf hr (by rw [hd]; exact hQ) (Or.inl ⟨hi.want hw,fun w=>?_⟩) (by rw [hd]; exact h _ (hi.app0 (Nat.le_of_ble_eq_true hN) (al_v (s:=s) v)))
 simp only [execOp,hop,he,Sem.run_pure]
def Zee (n:Nat):Array Bool:=((((Array.replicate n false).setIfInBounds 0 true).setIfInBounds 1 true).setIfInBounds 2 true).setIfInBounds 3 true
theorem Znu {n i:Nat} (h:4≤i) (hi:i < n):(Zee n).getD i true=false:=by
 unfold Zee
 rw [getD_set_ne true (by omega),getD_set_ne true (by omega),getD_set_ne true (by omega),getD_set_ne true (by omega)]
 simp [hi]
theorem ZfY {id:Nat} (n t0 d0 t1 d1 t2 d2 t3 d3:Nat) (v0 v1 v2 v3:Value) {sl:SlL} {bl:BlL}
 (h:StI P N S0 w0 ops Φ Q n 4 (((((ofL sl bl).put d0 (.v v0)).put d1 (.v v1)).put d2 (.v v2)).put d3 (.v v3)) Φ)
 (hI:Zg7 ops sl=true:=by kernel_rfl) (hm:P.follows .mixedOrders=true:=by exact Za6)
 (hB:(Nat.ble n ops.size && (Nat.ble 4 n && (Zec ops && Zfb ops && ((List.range' 4 (n - 4)).all (fun i=>Zcf .any ops n i) && (Zg8 (Zfa .any ops 4) ops (ofL sl bl) n && Region.seqB .any ops (ops.size - n) n (ZcS ops n))))))=true:=by kernel_rfl)
 (hun:un n (Zee ops.size)=List.range' 4 (n - 4):=by kernel_rfl) (hcl:ZiU .any ops (Zee ops.size)=true:=by kernel_rfl) (hs:Region.noSelect ops=true:=by kernel_rfl)
 (hf:(Region.free .any ops (Array.replicate ops.size false) 0 && Region.free .any ops ((Array.replicate ops.size false).setIfInBounds 0 true) 1 && Region.free .any ops (((Array.replicate ops.size false).setIfInBounds 0 true).setIfInBounds 1 true) 2 && Region.free .any ops ((((Array.replicate ops.size false).setIfInBounds 0 true).setIfInBounds 1 true).setIfInBounds 2 true) 3)=true:=by kernel_rfl)
 (hr:((Region.ready .any ops (Array.replicate ops.size false)).contains 0 && (Region.ready .any ops ((Array.replicate ops.size false).setIfInBounds 0 true)).contains 1 && (Region.ready .any ops (((Array.replicate ops.size false).setIfInBounds 0 true).setIfInBounds 1 true)).contains 2 && (Region.ready .any ops ((((Array.replicate ops.size false).setIfInBounds 0 true).setIfInBounds 1 true).setIfInBounds 2 true)).contains 3)=true:=by kernel_rfl)
 (o0:(opAt ops 0).op=.move (.tmp t0)∧(opAt ops 0).dst=some d0∧(opAt ops 0).guard=none:=by exact ⟨rfl,rfl,rfl⟩) (o1:(opAt ops 1).op=.move (.tmp t1)∧(opAt ops 1).dst=some d1∧(opAt ops 1).guard=none:=by exact ⟨rfl,rfl,rfl⟩)
 (o2:(opAt ops 2).op=.move (.tmp t2)∧(opAt ops 2).dst=some d2∧(opAt ops 2).guard=none:=by exact ⟨rfl,rfl,rfl⟩) (o3:(opAt ops 3).op=.move (.tmp t3)∧(opAt ops 3).dst=some d3∧(opAt ops 3).guard=none:=by exact ⟨rfl,rfl,rfl⟩)
 (hN:(Nat.blt d0 N && Nat.blt d1 N && Nat.blt d2 N && Nat.blt d3 N && Nat.ble 4 ops.size)=true:=by kernel_rfl)
 (x0:(ofL sl bl).sl t0=some (.v v0):=by kernel_rfl) (x1:((ofL sl bl).put d0 (.v v0)).sl t1=some (.v v1):=by kernel_rfl) (x2:(((ofL sl bl).put d0 (.v v0)).put d1 (.v v1)).sl t2=some (.v v2):=by kernel_rfl) (x3:((((ofL sl bl).put d0 (.v v0)).put d1 (.v v1)).put d2 (.v v2)).sl t3=some (.v v3):=by kernel_rfl)
 (hQ:∀ (c:_) (a:Act) (w:World) (d:Nat) (v:Value),Q (.panic c) (a.put (some d) v) w→Q (.panic c) a w:=by exact fun _ _ _ _ _ h=>h):SXc P N S0 w0 Q (.region id ops true) (ofL sl bl) Φ:=by
 simp only [Bool.and_eq_true] at hB hf hr hN
 obtain ⟨h1,h14,⟨h0,h2⟩,h3,h4,h5⟩:=hB
 have hn:=Nat.le_of_ble_eq_true h1
 have hn4:=Nat.le_of_ble_eq_true h14
 obtain ⟨⟨⟨⟨n0,n1⟩,n2⟩,n3⟩,n4⟩:=hN
 have n4:=Nat.le_of_ble_eq_true n4
 have want:∀ (s:St) (o:Oper),o.guard=none→s.wantB ops o=some true:=fun s o e=>by unfold St.wantB; rw [e]
 have lt:∀ k,k < 4→Nat.blt k ops.size=true:=fun k hk=>Nat.ble_eq_true_of_le (by omega)
 intro L a w hi
 refine wp_region_any hm ?_
 have hlen:ops.size=(un n (Zee ops.size)).length + (ops.size - n) + 1 + 1 + 1 + 1:=by rw [hun,List.length_range']; omega
 have key:∀ a' w',Inv N S0 w0 (((((ofL sl bl).put d0 (.v v0)).put d1 (.v v1)).put d2 (.v v2)).put d3 (.v v3)) Φ L a' w'→wpAny P .any ops Q ((un n (Zee ops.size)).length + (ops.size - n)) (Zee ops.size) a' w':=fun a' w' hi'=>by
  have hb:BI ops (ofL sl bl) (((((ofL sl bl).put d0 (.v v0)).put d1 (.v v1)).put d2 (.v v2)).put d3 (.v v3)):=by
   have q:∀ (i d:Nat) (v:Value) (s:St),BI ops (ofL sl bl) s→i < ops.size→(opAt ops i).dst=some d→BI ops (ofL sl bl) (s.put d (.v v)):=fun i d v s hB hi hd=>hB.app h0 hi hd (r:=(.v v,none)) (fun _ _ e=>by cases e) (fun _ _ e=>by cases e)
   exact q 3 d3 v3 _ (q 2 d2 v2 _ (q 1 d1 v1 _ (q 0 d0 v0 _ (BI.init hI) (by omega) o0.2.1) (by omega) o1.2.1) (by omega) o2.2.1) (by omega) o3.2.1
  refine ZlJ (Zhw ops) (Q:=Q) (fin:=fun s Φ=>SXi P N S0 w0 ops Q n s Φ) h0 hn h2 h4 h5 ⟨w',hi'.box.self⟩ (fun s Φ hf L a w hi'=>hf L a w hi') _ (Zee ops.size) _ Φ L a' w' rfl (by simp [Zee]) (fun i hi1 hi2=>Znu (by omega) hi2)
   (fun i hi1=>by rw [hun] at hi1; exact List.all_eq_true.1 h3 i hi1) (Zjk hcl) hb (fun _ h=>h) hi' (by rw [hun]; exact h)
 have H:wpAny P .any ops Q ((un n (Zee ops.size)).length + (ops.size - n) + 1 + 1 + 1 + 1) (Array.replicate ops.size false) a w.drew:=?_
 ·rw [← hlen] at H; exact H
 refine Zes hi.drew (lt 0 (by omega)) o0.1 o0.2.1 n0 (want _ _ o0.2.2) x0 hs hf.1.1.1 hr.1.1.1 (fun c a w h=>hQ c a w _ _ h) (fun a1 i1=>?_)
 refine Zes i1 (lt 1 (by omega)) o1.1 o1.2.1 n1 (want _ _ o1.2.2) x1 hs hf.1.1.2 hr.1.1.2 (fun c a w h=>hQ c a w _ _ h) (fun a2 i2=>?_)
 refine Zes i2 (lt 2 (by omega)) o2.1 o2.2.1 n2 (want _ _ o2.2.2) x2 hs hf.1.2 hr.1.2 (fun c a w h=>hQ c a w _ _ h) (fun a3 i3=>?_)
 refine Zes i3 (lt 3 (by omega)) o3.1 o3.2.1 n3 (want _ _ o3.2.2) x3 hs hf.2 hr.2 (fun c a w h=>hQ c a w _ _ h) (fun a4 i4=>?_)
 exact key a4 _ i4
end
end Go.Proofs.YthlipnahcbcjkaaGreatDoor

namespace Go.Proofs.YthlipnahcbcjkaaGreatDoor
open Go.RowKit
abbrev MU (w:World) (b n:Nat) (A:Nat→Option Addr) (C:Nat→Nat) (X:Nat→List Nat):Prop:=MatO .u64 88 93 w b n ⟨A,C,X⟩
section
variable {N:Nat} {S0:Nat→Prop} {w0:World} {s:St} {Φ:World→Prop} {P:Program} {Q:Exit→Act→World→Prop}
theorem Znv {c:Code} (h:SXc P N S0 w0 (Exit.noGoto Q) c s Φ):SXc P N S0 w0 Q (.scope c) s Φ:=fun L a w hi=>wp_scope_straight (h L a w hi)
theorem Zks (h:SXq N S0 w0 (Q .ret) s Φ):SXq N S0 w0 (Exit.noGoto Q .ret) s Φ:=h
end
section
variable {N:Nat} {S0:Nat→Prop} {w:World} {Φ:World→Prop} {P:Program}
theorem Zmv (S0:Nat→Prop) {fn:Func} {f:FuncId} {c:Code} {args:List Value} {R:Ending→World→Prop} (hf:P.funcs[f]? = some fn) (hb:fn.body=some c) (hl:Nat.ble args.length fn.ntmps=true) (Q:Box (fun _=>False) w Φ)
 (h:SXc P fn.ntmps S0 w (bodyPost P fn R) c (ofL (Zg5 0 args) []) Φ):Calls P f args.toArray w R:=by
 refine calls_of_wp hf hb (h (fun _=>0) _ w ⟨?_,rfl,fun i x hx=>?_,⟨fun b t cs e=>(by cases e),fun b c e=>(by cases e),fun b e=>(by cases e),Fr.refl _ _,fun i b off e=>?_,fun b t cs e=>(by cases e)⟩,?_⟩)
 ·have:=Nat.le_of_ble_eq_true hl
  simp; omega
 ·obtain ⟨_,v,hv,rfl⟩:=ZeL args 0 i x hx
  have hlt:i < args.length:=by
   rcases Nat.lt_or_ge i args.length with h' | h'
   ·exact h'
   ·rw [List.getElem?_eq_none (by omega)] at hv; cases hv
  simp only [AV.conc]
  rw [Array.getElem?_append_left (by simpa using hlt)]
  simpa using hv
 ·obtain ⟨_,v,hv,e'⟩:=ZeL args 0 i _ e
  cases e'
 ·intro w' hf'
  exact Q w' (hf'.mono (fun i _ h'=>by obtain ⟨b,e,_⟩:=h'; cases e))
end
section
variable {P:Program} {o:Oper} {ρ:Operand→Value} {w w0:World} {t e:TypeId} {x y ix:Operand} {S0:Nat→Prop} {k:IntKind} {te tr:TypeId} {b n m:Nat} {A:Nat→Option Addr} {C:Nat→Nat} {X X':Nat→List Nat} {i j v:Nat}
theorem Zem {k:IntKind} {k':TypeId} {a b:Nat} (hb:0 < b) (ho:o.op=Op.binOp .rem t x y k':=by kernel_rfl) (hx:ρ x=.int k ((a:Nat):Int):=by kernel_rfl) (hy:ρ y=.int k ((b:Nat):Int):=by kernel_rfl) :
 (execOp ρ o).run P w=.ok (.value (.int k ((a % b:Nat):Int))) w:=by
 have h:¬ ((b:Int)=0):=by omega
 have e:((a:Int).tmod (b:Int))=((a % b:Nat):Int):=by
  rw [Int.tmod_eq_emod_of_nonneg (by omega)]; rfl
 simp only [execOp,ho,hx,hy,eqGuard,binOp,Op.intDiv,if_neg h,e,ne_eq,not_true,if_false]
 rfl
theorem Zcb (h:MatO k te tr w b n ⟨A,C,X⟩) (hi:i < n) (hl:(X i).length=m) (ho:o.op=Op.load t x:=by kernel_rfl) (hx:ρ x=.pointer (some ⟨b,i,none⟩):=by kernel_rfl) (ha:(teOf P t).map (fun e=>e.agg)=some false:=by kernel_rfl) :
 (execOp ρ o).run P w=.ok (.value (.slice (A i) m (C i))) w:=by
 subst hl
 exact ZgF (h.top hi) ho hx ha
theorem Zb3 (h:MatO k te tr w b n ⟨A,C,X⟩) (hi:i < n) (hl:(X i).length=m) (hj:j < m) {cap:Nat} (ho:o.op=Op.indexAddr t x ix:=by kernel_rfl) (ht:P.underlying t=some (.slice e):=by kernel_rfl) (hs:(P.info? e).map (fun i=>i.size)=some 1:=by kernel_rfl)
 (hx:ρ x=.slice (A i) m cap:=by kernel_rfl) (hix:ρ ix=.int .i64 ((j:Nat):Int):=by kernel_rfl):(execOp ρ o).run P w=.ok (.value (atA (A i) j)) w :=
 ZeO (h.ne0 hi (by rw [← hl] at hj; exact hj)) hj ho ht hs hx hix
theorem Zcs (h:MatO k te tr w b n ⟨A,C,X⟩) (hi:i < n) (hl:(X i).length=m) (hj:j < m) (hv:(X i)[j]?.getD 0=v) (ho:o.op=Op.load t x:=by kernel_rfl) (hx:ρ x=atA (A i) j:=by kernel_rfl) (ha:(teOf P t).map (fun e=>e.agg)=some false:=by kernel_rfl) :
 (execOp ρ o).run P w=.ok (.value (.int k ((v:Nat):Int))) w:=by
 rw [← hv]
 exact Zos h hi (by rw [← hl] at hj; exact hj) ho hx ha
theorem stE (h:MatO k te tr w b n ⟨A,C,X⟩) (Q:Fr S0 w0 w) (hS:∀ i,i < n→∀ g,Zad (A i) g→S0 g∨w0.heap.size≤g) (hi:i < n) (hl:(X i).length=m) (hj:j < m) (hX:upF X i ((X i).set j v)=X')
 (ho:o.op=Op.store t x y:=by kernel_rfl) (hx:ρ x=atA (A i) j:=by kernel_rfl) (hy:ρ y=.int k ((v:Nat):Int):=by kernel_rfl) (hs:(teOf P t).map (fun e=>e.size)=some 1:=by kernel_rfl) :
 ∃ w',(execOp ρ o).run P w=.ok .skip w'∧Fr S0 w0 w'∧∀ w'',Ext w' w''→MatO k te tr w'' b n ⟨A,C,X'⟩:=by
 obtain ⟨w',hr,hM,hF⟩:=h.setElem (P:=P) (t:=t) hs hi (by rw [← hl] at hj; exact hj) v
 refine ⟨w',by simp only [execOp,ho,Sem.run_bind,hx,hy,hr,Result.andThen_ok,Sem.run_pure],Q.next hF (fun g hg hg2=>(hS i hi g hg2).elim id (fun h2=>absurd hg (by omega))),fun w'' hw=>?_⟩
 rw [← hX]; exact hM.ext hw
def ZlK (k:IntKind) (te tr:TypeId) (w:World) (b n:Nat) (M:MR) (r q:Nat):Prop:=ZbN tr w b n (upF M.v r (M.v q))∧RowsO k te w b n M
theorem stH1 {r q:Nat} (h:MatO k te tr w b n ⟨A,C,X⟩) (Q:Fr S0 w0 w) (hS:S0 b∨w0.heap.size≤b) (hi:r < n) (hl:(X q).length=m)
 (ho:o.op=Op.store t x y:=by kernel_rfl) (hx:ρ x=.pointer (some ⟨b,r,none⟩):=by kernel_rfl) (hy:ρ y=.slice (A q) m (C q):=by kernel_rfl) (hs:(teOf P t).map (fun e=>e.size)=some 1:=by kernel_rfl) :
 ∃ w',(execOp ρ o).run P w=.ok .skip w'∧Fr S0 w0 w'∧∀ w'',Ext w' w''→ZlK k te tr w'' b n ⟨A,C,X⟩ r q:=by
 subst hl
 obtain ⟨w',hr,hT,hF⟩:=h.1.set (P:=P) (t:=t) (A:=A q) (l:=(X q).length) (c:=C q) hs hi
 refine ⟨w',by simp only [execOp,ho,Sem.run_bind,hx,hy,hr,Result.andThen_ok,Sem.run_pure],Q.next hF (fun g hg hg2=>hS.elim (fun z=>by rw [hg2]; exact z) (fun h2=>absurd hg (by omega))),fun w'' hw=>⟨hT.ext hw,(h.2.fr hF (fun i g hi hg e=>h.2.ne i hi (by rw [← e]; exact hg))).ext hw⟩⟩
theorem stH2 {r q:Nat} (h:ZlK k te tr w b n ⟨A,C,X⟩ r q) (Q:Fr S0 w0 w) (hS:S0 b∨w0.heap.size≤b) (hi:r < n) (hq:q < n) (hrq:r≠q) (hl:(X r).length=m)
 (ho:o.op=Op.store t x y:=by kernel_rfl) (hx:ρ x=.pointer (some ⟨b,q,none⟩):=by kernel_rfl) (hy:ρ y=.slice (A r) m (C r):=by kernel_rfl) (hs:(teOf P t).map (fun e=>e.size)=some 1:=by kernel_rfl) :
 ∃ w',(execOp ρ o).run P w=.ok .skip w'∧Fr S0 w0 w'∧∀ w'',Ext w' w''→MatO k te tr w'' b n ⟨fun i=>A (swF r q i),fun i=>C (swF r q i),fun i=>X (swF r q i)⟩:=by
 subst hl
 obtain ⟨w',hr,hT,hF⟩:=h.1.set (P:=P) (t:=t) (A:=A r) (l:=(X r).length) (c:=C r) hs hq
 refine ⟨w',by simp only [execOp,ho,Sem.run_bind,hx,hy,hr,Result.andThen_ok,Sem.run_pure],Q.next hF (fun g hg hg2=>hS.elim (fun z=>by rw [hg2]; exact z) (fun h2=>absurd hg (by omega))),fun w'' hw=>⟨(hT.congr fun i _=>?_).ext hw,((h.2.fr hF (fun i g hi hg e=>h.2.ne i hi (by rw [← e]; exact hg))).swap hi hq).ext hw⟩⟩
 show upF (upF (MR.v ⟨A,C,X⟩) r (MR.v ⟨A,C,X⟩ q)) q (MR.v ⟨A,C,X⟩ r) i=MR.v ⟨A,C,X⟩ (swF r q i)
 unfold swF
 by_cases e:i=q
 ·subst e; rw [Zas,if_neg (Ne.symm hrq),if_pos rfl]
 ·rw [ZaP e]
  by_cases e2:i=r
  ·subst e2; rw [Zas,if_pos rfl]
  ·rw [ZaP e2,if_neg e2,if_neg e]
end
theorem ZlL (x p:Nat) (w:World) (hx:x < p) (hp:2≤p) (hm:p≤2147483647):Calls Tryz.prog 130 #[.int .u64 (x:Int), .int .u64 (p:Int)] w (RetV w (.int .u64 ((invN x p:Nat):Int))) :=
 (Zie x p w hx hp hm).mono (fun _ _ ⟨h1,h2⟩=>⟨h1,by rw [h2]; exact Fr.refl _ _⟩)
theorem Znw {x p:Nat} (hp:0 < p):invN x p < p:=Nat.mod_lt _ hp
theorem Zkt {x y p:Nat} (hx:x < p) (hy:y < p) (hp:p≤2147483647):IntKind.u64.wrap (((x:Nat):Int) * ((y:Nat):Int))=((x * y:Nat):Int):=by
 have h:=Nat.mul_lt_mul'' hx hy
 have h2:=Nat.mul_le_mul hp hp
 rw [← Int.natCast_mul,IntKind.wrap_u64]; omega
theorem Zmw {x p:Nat} (hx:x≤p) (hp:p≤2147483647):IntKind.u64.wrap (((p:Nat):Int) - ((x:Nat):Int))=((p - x:Nat):Int):=by rw [IntKind.wrap_u64]; omega
theorem ZoN {x y z p:Nat} (hz:z < p) (hx:x < p) (hy:y < p) (hp:p≤2147483647):IntKind.u64.wrap (((z:Nat):Int) + ((x * y:Nat):Int))=((z + x * y:Nat):Int):=by
 have h:=Nat.mul_lt_mul'' hx hy
 have h2:=Nat.mul_le_mul hp hp
 rw [IntKind.wrap_u64]; omega
theorem Zbh {k:Nat} (h:k≤100000):IntKind.i64.wrap (((k:Nat):Int) + 1)=((k + 1:Nat):Int):=by rw [IntKind.wrap_i64]; omega
theorem atB {B:Option Addr} {b l q i:Nat} (h:B=some ⟨b,l,none⟩) (hi:i=l + q):atA B q=.pointer (some ⟨b,i,none⟩):=by rw [h,atA,Option.map_some,Zch,hi]
theorem Zo3 {x:Nat} (h:(((x:Nat):Int) != 0)=true):x≠0:=fun e=>by subst e; cases h
theorem ZnX {x:Nat} (h:(((x:Nat):Int) != 0)=false):x=0:=by
 have:=beq_iff_eq.1 (by simpa using h:(((x:Nat):Int) == 0)=true); omega
theorem ZeP {x y:Nat} (h:(((x:Nat):Int) != ((y:Nat):Int))=true):x≠y:=fun e=>by subst e; simp at h
theorem ZeQ {x y:Nat} (h:(((x:Nat):Int) != ((y:Nat):Int))=false):x=y:=by
 have:=beq_iff_eq.1 (by simpa using h:(((x:Nat):Int) == ((y:Nat):Int))=true); omega
theorem stS {b n:Nat} {A A0:Nat→Option Addr} {C0:Nat→Nat} {X0:Nat→List Nat} {w0:World} (h:∀ i,i < n→∃ j,j < n∧A i=A0 j):∀ i,i < n→∀ g,Zad (A i) g→MatB b n ⟨A0,C0,X0⟩ g∨w0.heap.size≤g:=fun i hi g hg=>by
 obtain ⟨j,hj,e⟩:=h i hi
 exact Or.inl (Or.inr ⟨j,hj,by show Zad (A0 j) g; rw [← e]; exact hg⟩)
def ZnY (w:World) (b n m cols p:Nat) (A0:Nat→Option Addr) (C0:Nat→Nat) (X0:Nat→List Nat) (e:Ending) (w':World):Prop:=∃ r d A C X,e=.returned (.tuple #[.int .i64 ((r:Nat):Int), .int .u64 ((d:Nat):Int)])∧Fr (MatB b n ⟨A0,C0,X0⟩) w w' ∧
 ElRun p n m X0 cols X r d∧ElB p n m X r d∧(∀ i,i < n→∃ j,j < n∧A i=A0 j)∧MU w' b n A C X
theorem Zep (b n m cols p:Nat) (A0:Nat→Option Addr) (C0:Nat→Nat) (X0:Nat→List Nat) (w:World) (hM:MU w b n A0 C0 X0) (hn:n≤1000) (hm:m≤1000) (hc:cols≤m) (hp2:2≤p) (hp31:p≤2147483647) (hB0:ElB p n m X0 0 1) :
 Calls Tryz.prog 60 #[.slice (some ⟨b,0,none⟩) n n, .int .i64 ((cols:Nat):Int), .int .u64 ((p:Nat):Int)] w (ZnY w b n m cols p A0 C0 X0):=by
 refine Zmv (MatB b n ⟨A0,C0,X0⟩) (Φ:=fun w=>MU w b n (A0) (C0) (X0)) Tryz.func60 rfl (by kernel_rfl) (fun w' hf=>hM.ext hf) ?_
 refine Zac (Zab (xr 2 [eS1 0 (some ⟨b,0,none⟩) n n,(1, .v (.int .i64 ((cols:Nat):Int))),(2, .v (.int .u64 ((p:Nat):Int))),(6, .v (.int .i64 0)),(7, .v (.int .u64 0))] [] ?_))
 refine xe (Zaa ?_)
 refine Znv ?_
 refine Zac (Zab (xr 2 [eS1 0 (some ⟨b,0,none⟩) n n,(1, .v (.int .i64 ((cols:Nat):Int))),(2, .v (.int .u64 ((p:Nat):Int))),(6, .v (.int .i64 0)),(7, .v (.int .u64 0)),(8, .v (.int .i64 0)),(9, .v (.int .u64 1))] [] ?_))
 refine xe (Zaa (Zac ?_))
 refine Znp ?_
 refine Zaa (Zac (Zac (Zab (xr 2 [eS1 0 (some ⟨b,0,none⟩) n n,(2, .v (.int .u64 ((p:Nat):Int))),(6, .v (.int .i64 0)),(7, .v (.int .u64 0)),(8, .v (.int .i64 0)),(9, .v (.int .u64 1)),(19, .v (.int .i64 ((cols:Nat):Int))),(20, .v (.int .i64 0))] [] ?_))))
 refine xe (Zaa (Zar ?_))
 refine SXc.weak [(0, .v (.slice (some ⟨b,0,none⟩) n n)),(2, .v (.int .u64 ((p:Nat):Int))),(6, .v (.int .i64 0)),(7, .v (.int .u64 0)),(8, .v (.int .i64 ((0:Nat):Int))),(9, .v (.int .u64 ((1:Nat):Int))),(19, .v (.int .i64 ((cols:Nat):Int))),(20, .v (.int .i64 ((0:Nat):Int)))] [] (Ψ:=fun w=>MU w b n (A0) (C0) (X0)) (ZaA.of (by kernel_rfl)) (by kernel_rfl) (fun w Q=>Q) ?_
 refine Zbs (fun nn ss ff=>∃ (A:Nat→Option Addr) (C:Nat→Nat) (X:Nat→List Nat) (r d col:Nat),ss=ofL [(0, .v (.slice (some ⟨b,0,none⟩) n n)),(2, .v (.int .u64 ((p:Nat):Int))),(6, .v (.int .i64 0)),(7, .v (.int .u64 0)),(8, .v (.int .i64 ((r:Nat):Int))),(9, .v (.int .u64 ((d:Nat):Int))),(19, .v (.int .i64 ((cols:Nat):Int))),(20, .v (.int .i64 ((col:Nat):Int)))] []∧ff=(fun w=>MU w b n (A) (C) (X))∧(ElRun p n m X0 col X r d)∧(ElB p n m X r d)∧(∀ i,i < n→∃ j,j < n∧A i=A0 j)∧(col≤cols)∧nn=(cols - col)) ((cols - 0)) ⟨A0,C0,X0,0,1,0,rfl,rfl, .nil,hB0,fun i hi=>⟨i,hi,rfl⟩,Nat.zero_le _,rfl⟩ ?_
 rintro nn ss ff ⟨A,C,X,r,d,col,rfl,rfl,hR,hB,hA,hcc,rfl⟩
 refine Zac (Zab (xr 1 [eS1 0 (some ⟨b,0,none⟩) n n,(2, .v (.int .u64 ((p:Nat):Int))),(6, .v (.int .i64 0)),(7, .v (.int .u64 0)),(8, .v (.int .i64 ((r:Nat):Int))),(9, .v (.int .u64 ((d:Nat):Int))),(19, .v (.int .i64 ((cols:Nat):Int))),(20, .v (.int .i64 ((col:Nat):Int))),(21, .v (.bool (decide (((col:Nat):Int) < ((cols:Nat):Int)))))] [] ?_))
 refine xe (Zaa (Zac ?_))
 refine Zax ((decide (((col:Nat):Int) < ((cols:Nat):Int)))) (by kernel_rfl) (fun hb10=>?_) (fun hb10=>?_)
 ·have hcol:col < cols:=by have:=of_decide_eq_true hb10; omega
  refine Zap (Zaa (Zac (Zar (Zac (Zab (xr 2 [eS1 0 (some ⟨b,0,none⟩) n n,(2, .v (.int .u64 ((p:Nat):Int))),(6, .v (.int .i64 0)),(7, .v (.int .u64 0)),(8, .v (.int .i64 ((r:Nat):Int))),(9, .v (.int .u64 ((d:Nat):Int))),(10, .v (.int .i64 ((col:Nat):Int))),(19, .v (.int .i64 ((cols:Nat):Int))),(20, .v (.int .i64 ((col:Nat):Int)))] [] ?_))))))
  refine xe (Zaa (Zac (Zab (xr 2 [eS1 0 (some ⟨b,0,none⟩) n n,(2, .v (.int .u64 ((p:Nat):Int))),(6, .v (.int .i64 0)),(7, .v (.int .u64 0)),(8, .v (.int .i64 ((r:Nat):Int))),(9, .v (.int .u64 ((d:Nat):Int))),(10, .v (.int .i64 ((col:Nat):Int))),(11, .v (.int .i64 ((r:Nat):Int))),(19, .v (.int .i64 ((cols:Nat):Int))),(20, .v (.int .i64 ((col:Nat):Int)))] [] ?_))))
  refine xe (Zaa (Zac (Zar ?_)))
  refine SXc.weak [(0, .v (.slice (some ⟨b,0,none⟩) n n)),(2, .v (.int .u64 ((p:Nat):Int))),(6, .v (.int .i64 0)),(7, .v (.int .u64 0)),(8, .v (.int .i64 ((r:Nat):Int))),(9, .v (.int .u64 ((d:Nat):Int))),(10, .v (.int .i64 ((col:Nat):Int))),(11, .v (.int .i64 ((r:Nat):Int))),(19, .v (.int .i64 ((cols:Nat):Int))),(20, .v (.int .i64 ((col:Nat):Int)))] [] (Ψ:=fun w=>MU w b n (A) (C) (X)) (ZaA.of (by kernel_rfl)) (by kernel_rfl) (fun w Q=>Q) ?_
  refine Zbs (fun nn ss ff=>∃ (k:Nat),ss=ofL [(0, .v (.slice (some ⟨b,0,none⟩) n n)),(2, .v (.int .u64 ((p:Nat):Int))),(6, .v (.int .i64 0)),(7, .v (.int .u64 0)),(8, .v (.int .i64 ((r:Nat):Int))),(9, .v (.int .u64 ((d:Nat):Int))),(10, .v (.int .i64 ((col:Nat):Int))),(11, .v (.int .i64 ((k:Nat):Int))),(19, .v (.int .i64 ((cols:Nat):Int))),(20, .v (.int .i64 ((col:Nat):Int)))] []∧ff=(fun w=>MU w b n (A) (C) (X))∧(r≤k)∧(k≤n)∧(∀ i,r≤i→i < k→(X i)[col]?.getD 0=0)∧nn=(n - k)) ((n - r)) ⟨r,rfl,rfl,Nat.le_refl _,hB.rn,fun i h1 h2=>absurd h1 (by omega),rfl⟩ ?_
  rintro nn ss ff ⟨k,rfl,rfl,hk,hkn,hz,rfl⟩
  refine Zac (Zar (Zac (Zac (Zab (xr 4 [eS1 0 (some ⟨b,0,none⟩) n n,(2, .v (.int .u64 ((p:Nat):Int))),(6, .v (.int .i64 0)),(7, .v (.int .u64 0)),(8, .v (.int .i64 ((r:Nat):Int))),(9, .v (.int .u64 ((d:Nat):Int))),(10, .v (.int .i64 ((col:Nat):Int))),(11, .v (.int .i64 ((k:Nat):Int))),(19, .v (.int .i64 ((cols:Nat):Int))),(20, .v (.int .i64 ((col:Nat):Int))),(29, .v (.bool (decide (((k:Nat):Int) ≥ ((n:Nat):Int)))))] [] ?_)))))
  refine xe (Zaa ?_)
  refine Zax ((decide (((k:Nat):Int) ≥ ((n:Nat):Int)))) (by kernel_rfl) (fun hb11=>?_) (fun hb11=>?_)
  ·have hkk:n≤k:=by have:=of_decide_eq_true hb11; omega
   refine Zbf (Zaj ?_)
   refine ZiW (by kernel_rfl) ?_
   refine Zaj (Zaj ?_)
   refine ZiW (by kernel_rfl) ?_
   refine Zaj (Zbv (Zaa (Zab (xr 1 [eS1 0 (some ⟨b,0,none⟩) n n,(2, .v (.int .u64 ((p:Nat):Int))),(6, .v (.int .i64 0)),(7, .v (.int .u64 0)),(8, .v (.int .i64 ((r:Nat):Int))),(9, .v (.int .u64 ((d:Nat):Int))),(19, .v (.int .i64 ((cols:Nat):Int))),(20, .v (.int .i64 ((col:Nat):Int))),(143, .v (.int .i64 (IntKind.i64.wrap (((col:Nat):Int) + 1))))] [] ?_))))
   rw [Zbh (k:=col) (by omega)]
   refine xr 1 [eS1 0 (some ⟨b,0,none⟩) n n,(2, .v (.int .u64 ((p:Nat):Int))),(6, .v (.int .i64 0)),(7, .v (.int .u64 0)),(8, .v (.int .i64 ((r:Nat):Int))),(9, .v (.int .u64 ((d:Nat):Int))),(19, .v (.int .i64 ((cols:Nat):Int))),(20, .v (.int .i64 ((col + 1:Nat):Int)))] [] ?_
   refine xe ?_
   refine SXq.weak [(0, .v (.slice (some ⟨b,0,none⟩) n n)),(2, .v (.int .u64 ((p:Nat):Int))),(6, .v (.int .i64 0)),(7, .v (.int .u64 0)),(8, .v (.int .i64 ((r:Nat):Int))),(9, .v (.int .u64 ((d:Nat):Int))),(19, .v (.int .i64 ((cols:Nat):Int))),(20, .v (.int .i64 (((col + 1):Nat):Int)))] [] (Ψ:=fun w=>MU w b n (A) (C) (X)) (ZaA.of (by kernel_rfl)) (by kernel_rfl) (fun w Q=>Q) ?_
   exact Za0 ((cols - (col + 1))) (by omega) ⟨A,C,X,r,d,(col + 1),rfl,rfl,(hR.snoc (.none (fun i h1 h2=>hz i h1 (by omega)))),(ElStep.bd (by omega) hB (c:=col) (.none (fun i h1 h2=>hz i h1 (by omega)))),hA,(by omega),rfl⟩
  ·have hkk:k < n:=by have:=of_decide_eq_false hb11; omega
   refine Zap (Zaa (Zac ?_))
   obtain ⟨x,hx⟩:∃ x,(X k)[col]?.getD 0=x:=⟨_,rfl⟩
   refine Zab (xr 2 [eS1 0 (some ⟨b,0,none⟩) n n,(2, .v (.int .u64 ((p:Nat):Int))),(6, .v (.int .i64 0)),(7, .v (.int .u64 0)),(8, .v (.int .i64 ((r:Nat):Int))),(9, .v (.int .u64 ((d:Nat):Int))),(10, .v (.int .i64 ((col:Nat):Int))),(11, .v (.int .i64 ((k:Nat):Int))),(19, .v (.int .i64 ((cols:Nat):Int))),(20, .v (.int .i64 ((col:Nat):Int))),eS1 30 (some ⟨b,0,none⟩) n n,(31, .v (.int .i64 ((k:Nat):Int)))] [] ?_)
   refine xk 32 (.pointer (some ⟨b,k,none⟩)) (fun w hE' Q=>ZaH (g:=b) (len:=n) (cap:=n) (i:=k) (t:=91) (e:=93) (x:=.tmp 30) (ix:=.tmp 31) (by omega)) ?_
   refine xk 33 (.slice (A k) m (C k)) (fun w hE' Q=>Zcb (t:=93) (x:=.tmp 32) Q (show k < n by omega) (hB.len k (by omega))) ?_
   refine xr 1 [eS1 0 (some ⟨b,0,none⟩) n n,(2, .v (.int .u64 ((p:Nat):Int))),(6, .v (.int .i64 0)),(7, .v (.int .u64 0)),(8, .v (.int .i64 ((r:Nat):Int))),(9, .v (.int .u64 ((d:Nat):Int))),(10, .v (.int .i64 ((col:Nat):Int))),(11, .v (.int .i64 ((k:Nat):Int))),(19, .v (.int .i64 ((cols:Nat):Int))),(20, .v (.int .i64 ((col:Nat):Int))),eS1 33 (A k) m (C k),(34, .v (.int .i64 ((col:Nat):Int)))] [] ?_
   refine xk 35 (atA (A k) col) (fun w hE' Q=>Zb3 (t:=93) (e:=88) (x:=.tmp 33) (ix:=.tmp 34) (cap:=C k) Q (show k < n by omega) (hB.len k (by omega)) (show col < m by omega)) ?_
   refine xk 36 (.int .u64 ((x:Nat):Int)) (fun w hE' Q=>Zcs (t:=88) (x:=.tmp 35) (j:=col) Q (show k < n by omega) (hB.len k (by omega)) (show col < m by omega) hx) ?_
   refine xr 1 [eS1 0 (some ⟨b,0,none⟩) n n,(2, .v (.int .u64 ((p:Nat):Int))),(6, .v (.int .i64 0)),(7, .v (.int .u64 0)),(8, .v (.int .i64 ((r:Nat):Int))),(9, .v (.int .u64 ((d:Nat):Int))),(10, .v (.int .i64 ((col:Nat):Int))),(11, .v (.int .i64 ((k:Nat):Int))),(19, .v (.int .i64 ((cols:Nat):Int))),(20, .v (.int .i64 ((col:Nat):Int))),(37, .v (.bool ((((x:Nat):Int):Int) != 0)))] [] ?_
   refine xe (Zaa ?_)
   refine Zax (((((x:Nat):Int):Int) != 0)) (by kernel_rfl) (fun hb12=>?_) (fun hb12=>?_)
   ·have hne:(X k)[col]?.getD 0≠0:=by rw [hx]; exact Zo3 hb12
    refine Zbf ?_
    refine ZiW (by kernel_rfl) ?_
    refine Zaj (Zaj (Zbv (Zaa ?_)))
    refine ZoM (fun ss ff=>∃ (A1:Nat→Option Addr) (C1:Nat→Nat) (X1:Nat→List Nat) (d1:Nat),ss=ofL [(0, .v (.slice (some ⟨b,0,none⟩) n n)),(2, .v (.int .u64 ((p:Nat):Int))),(6, .v (.int .i64 0)),(7, .v (.int .u64 0)),(8, .v (.int .i64 ((r:Nat):Int))),(9, .v (.int .u64 ((d1:Nat):Int))),(10, .v (.int .i64 ((col:Nat):Int))),(19, .v (.int .i64 ((cols:Nat):Int))),(20, .v (.int .i64 ((col:Nat):Int)))] []∧ff=(fun w=>MU w b n (A1) (C1) (X1))∧(X1=fun i=>X (swF r k i))∧(d1=if k=r then d else (p - d) % p)∧(ElB p n m X1 r d1)∧(∀ i,i < n→∃ j,j < n∧A1 i=A0 j)) ?_ ?_
    ·refine Zac (Zab (xr 3 [eS1 0 (some ⟨b,0,none⟩) n n,(2, .v (.int .u64 ((p:Nat):Int))),(6, .v (.int .i64 0)),(7, .v (.int .u64 0)),(8, .v (.int .i64 ((r:Nat):Int))),(9, .v (.int .u64 ((d:Nat):Int))),(10, .v (.int .i64 ((col:Nat):Int))),(11, .v (.int .i64 ((k:Nat):Int))),(19, .v (.int .i64 ((cols:Nat):Int))),(20, .v (.int .i64 ((col:Nat):Int))),(40, .v (.bool ((((k:Nat):Int):Int) != ((r:Nat):Int))))] [] ?_))
     refine xe (Zaa ?_)
     refine Zax (((((k:Nat):Int):Int) != ((r:Nat):Int))) (by kernel_rfl) (fun hb13=>?_) (fun hb13=>?_)
     ·have hkr:=ZeP hb13
      refine Zac ?_
      refine ZfY 13 0 41 8 42 0 43 11 44 (.slice (some ⟨b,0,none⟩) n n) (.int .i64 ((r:Nat):Int)) (.slice (some ⟨b,0,none⟩) n n) (.int .i64 ((k:Nat):Int)) ?_
      refine xf 2 [eS1 0 (some ⟨b,0,none⟩) n n,(2, .v (.int .u64 ((p:Nat):Int))),(6, .v (.int .i64 0)),(7, .v (.int .u64 0)),(8, .v (.int .i64 ((r:Nat):Int))),(9, .v (.int .u64 ((d:Nat):Int))),(10, .v (.int .i64 ((col:Nat):Int))),(19, .v (.int .i64 ((cols:Nat):Int))),(20, .v (.int .i64 ((col:Nat):Int))),eS1 41 (some ⟨b,0,none⟩) n n,(42, .v (.int .i64 ((r:Nat):Int))),eS1 43 (some ⟨b,0,none⟩) n n,(44, .v (.int .i64 ((k:Nat):Int))),eS1 45 (some ⟨b,0,none⟩) n n,(46, .v (.int .i64 ((k:Nat):Int)))] [] ?_
      refine xj 47 (.pointer (some ⟨b,k,none⟩)) (fun w Q=>ZaH (g:=b) (len:=n) (cap:=n) (i:=k) (t:=91) (e:=93) (x:=.tmp 45) (ix:=.tmp 46) (by omega)) ?_
      refine xj 48 (.slice (A k) m (C k)) (fun w Q=>Zcb (t:=93) (x:=.tmp 47) Q (show k < n by omega) (hB.len k (by omega))) ?_
      refine xf 2 [eS1 0 (some ⟨b,0,none⟩) n n,(2, .v (.int .u64 ((p:Nat):Int))),(6, .v (.int .i64 0)),(7, .v (.int .u64 0)),(8, .v (.int .i64 ((r:Nat):Int))),(9, .v (.int .u64 ((d:Nat):Int))),(10, .v (.int .i64 ((col:Nat):Int))),(19, .v (.int .i64 ((cols:Nat):Int))),(20, .v (.int .i64 ((col:Nat):Int))),eS1 41 (some ⟨b,0,none⟩) n n,(42, .v (.int .i64 ((r:Nat):Int))),eS1 43 (some ⟨b,0,none⟩) n n,(44, .v (.int .i64 ((k:Nat):Int))),eS1 48 (A k) m (C k),eS1 49 (some ⟨b,0,none⟩) n n,(50, .v (.int .i64 ((r:Nat):Int)))] [] ?_
      refine xj 51 (.pointer (some ⟨b,r,none⟩)) (fun w Q=>ZaH (g:=b) (len:=n) (cap:=n) (i:=r) (t:=91) (e:=93) (x:=.tmp 49) (ix:=.tmp 50) (by omega)) ?_
      refine xj 52 (.slice (A r) m (C r)) (fun w Q=>Zcb (t:=93) (x:=.tmp 51) Q (show r < n by omega) (hB.len r (by omega))) ?_
      refine xj 53 (.pointer (some ⟨b,r,none⟩)) (fun w Q=>ZaH (g:=b) (len:=n) (cap:=n) (i:=r) (t:=91) (e:=93) (x:=.tmp 41) (ix:=.tmp 42) (by omega)) ?_
      refine xf 0 [eS1 0 (some ⟨b,0,none⟩) n n,(2, .v (.int .u64 ((p:Nat):Int))),(6, .v (.int .i64 0)),(7, .v (.int .u64 0)),(8, .v (.int .i64 ((r:Nat):Int))),(9, .v (.int .u64 ((d:Nat):Int))),(10, .v (.int .i64 ((col:Nat):Int))),(19, .v (.int .i64 ((cols:Nat):Int))),(20, .v (.int .i64 ((col:Nat):Int))),eS1 43 (some ⟨b,0,none⟩) n n,(44, .v (.int .i64 ((k:Nat):Int))),eS1 48 (A k) m (C k),eS1 52 (A r) m (C r),(53, .v (.pointer (some ⟨b,r,none⟩)))] [] ?_
      refine xz ?_
      refine Zdj (fun w=>ZlK .u64 88 93 w b n ⟨A,C,X⟩ r k) (fun w hE' Q=>stH1 (t:=93) (x:=.tmp 53) (y:=.tmp 48) (r:=r) (q:=k) Q hE' (Or.inl (Or.inl rfl)) (by omega) (hB.len k (by omega))) ?_
      refine xk 54 (.pointer (some ⟨b,k,none⟩)) (fun w hE' Q=>ZaH (g:=b) (len:=n) (cap:=n) (i:=k) (t:=91) (e:=93) (x:=.tmp 43) (ix:=.tmp 44) (by omega)) ?_
      refine Zdj (fun w=>MU w b n (fun i=>A (swF r k i)) (fun i=>C (swF r k i)) (fun i=>X (swF r k i))) (fun w hE' Q=>stH2 (t:=93) (x:=.tmp 54) (y:=.tmp 52) (r:=r) (q:=k) Q hE' (Or.inl (Or.inl rfl)) (by omega) hkk (Ne.symm hkr) (hB.len r (by omega))) ?_
      refine xr 0 [eS1 0 (some ⟨b,0,none⟩) n n,(2, .v (.int .u64 ((p:Nat):Int))),(6, .v (.int .i64 0)),(7, .v (.int .u64 0)),(8, .v (.int .i64 ((r:Nat):Int))),(9, .v (.int .u64 ((d:Nat):Int))),(10, .v (.int .i64 ((col:Nat):Int))),(19, .v (.int .i64 ((cols:Nat):Int))),(20, .v (.int .i64 ((col:Nat):Int)))] [] ?_
      refine xe (Zaa (Zab (xr 3 [eS1 0 (some ⟨b,0,none⟩) n n,(2, .v (.int .u64 ((p:Nat):Int))),(6, .v (.int .i64 0)),(7, .v (.int .u64 0)),(8, .v (.int .i64 ((r:Nat):Int))),(9, .v (.int .u64 ((d:Nat):Int))),(10, .v (.int .i64 ((col:Nat):Int))),(19, .v (.int .i64 ((cols:Nat):Int))),(20, .v (.int .i64 ((col:Nat):Int))),(57, .v (.int .u64 (IntKind.u64.wrap (((p:Nat):Int) - ((d:Nat):Int)))))] [] ?_)))
      rw [Zmw (Nat.le_of_lt hB.dp) hp31]
      refine xr 1 [eS1 0 (some ⟨b,0,none⟩) n n,(2, .v (.int .u64 ((p:Nat):Int))),(6, .v (.int .i64 0)),(7, .v (.int .u64 0)),(8, .v (.int .i64 ((r:Nat):Int))),(9, .v (.int .u64 ((d:Nat):Int))),(10, .v (.int .i64 ((col:Nat):Int))),(19, .v (.int .i64 ((cols:Nat):Int))),(20, .v (.int .i64 ((col:Nat):Int))),(57, .v (.int .u64 ((p - d:Nat):Int))),(58, .v (.int .u64 ((p:Nat):Int)))] [] ?_
      refine xk 59 (.int .u64 (((p - d) % p:Nat):Int)) (fun w hE' Q=>Zem (k:=.u64) (t:=88) (k':=88) (x:=.tmp 57) (y:=.tmp 58) (a:=(p - d)) (b:=p) (by omega)) ?_
      refine xr 1 [eS1 0 (some ⟨b,0,none⟩) n n,(2, .v (.int .u64 ((p:Nat):Int))),(6, .v (.int .i64 0)),(7, .v (.int .u64 0)),(8, .v (.int .i64 ((r:Nat):Int))),(9, .v (.int .u64 (((p - d) % p:Nat):Int))),(10, .v (.int .i64 ((col:Nat):Int))),(19, .v (.int .i64 ((cols:Nat):Int))),(20, .v (.int .i64 ((col:Nat):Int)))] [] ?_
      refine xe ?_
      refine SXq.weak [(0, .v (.slice (some ⟨b,0,none⟩) n n)),(2, .v (.int .u64 ((p:Nat):Int))),(6, .v (.int .i64 0)),(7, .v (.int .u64 0)),(8, .v (.int .i64 ((r:Nat):Int))),(9, .v (.int .u64 ((((p - d) % p):Nat):Int))),(10, .v (.int .i64 ((col:Nat):Int))),(19, .v (.int .i64 ((cols:Nat):Int))),(20, .v (.int .i64 ((col:Nat):Int)))] [] (Ψ:=fun w=>MU w b n ((fun i=>A (swF r k i))) ((fun i=>C (swF r k i))) ((fun i=>X (swF r k i)))) (ZaA.of (by kernel_rfl)) (by kernel_rfl) (fun w Q=>Q) ?_
      exact Zld ⟨(fun i=>A (swF r k i)),(fun i=>C (swF r k i)),(fun i=>X (swF r k i)),((p - d) % p),rfl,rfl,rfl,(if_neg (Ne.symm (Ne.symm hkr))).symm,(hB.sw hkk (by omega) (Nat.mod_lt _ (by omega))),(fun i hi=>hA _ (Zdi (by omega) hkk hi))⟩
     ·have hkr:=ZeQ hb13
      refine Zap ?_
      refine SXq.weak [(0, .v (.slice (some ⟨b,0,none⟩) n n)),(2, .v (.int .u64 ((p:Nat):Int))),(6, .v (.int .i64 0)),(7, .v (.int .u64 0)),(8, .v (.int .i64 ((r:Nat):Int))),(9, .v (.int .u64 ((d:Nat):Int))),(10, .v (.int .i64 ((col:Nat):Int))),(19, .v (.int .i64 ((cols:Nat):Int))),(20, .v (.int .i64 ((col:Nat):Int)))] [] (Ψ:=fun w=>MU w b n (A) (C) (X)) (ZaA.of (by kernel_rfl)) (by kernel_rfl) (fun w Q=>Q) ?_
      exact Zld ⟨A,C,X,d,rfl,rfl,(by rw [hkr]; exact funext fun i=>by rw [Znt]),(if_pos hkr).symm,hB,hA⟩
    ·rintro ss ff ⟨A1,C1,X1,d1,rfl,rfl,hX1,hd1,hB1,hA1⟩
     refine Zac ?_
     obtain ⟨y,hy⟩:∃ y,(X1 r)[col]?.getD 0=y:=⟨_,rfl⟩
     have hyp:y < p:=by rw [← hy]; exact hB1.get (by omega) (by omega)
     have hsp:invN y p < p:=Znw (by omega)
     obtain ⟨F,hF⟩:∃ F,F=mulP col (invN y p) p (X1 r) m:=⟨_,rfl⟩
     refine Zab (xr 2 [eS1 0 (some ⟨b,0,none⟩) n n,(2, .v (.int .u64 ((p:Nat):Int))),(6, .v (.int .i64 0)),(7, .v (.int .u64 0)),(8, .v (.int .i64 ((r:Nat):Int))),(9, .v (.int .u64 ((d1:Nat):Int))),(10, .v (.int .i64 ((col:Nat):Int))),(19, .v (.int .i64 ((cols:Nat):Int))),(20, .v (.int .i64 ((col:Nat):Int))),eS1 60 (some ⟨b,0,none⟩) n n,(61, .v (.int .i64 ((r:Nat):Int)))] [] ?_)
     refine xk 62 (.pointer (some ⟨b,r,none⟩)) (fun w hE' Q=>ZaH (g:=b) (len:=n) (cap:=n) (i:=r) (t:=91) (e:=93) (x:=.tmp 60) (ix:=.tmp 61) (by omega)) ?_
     refine xk 63 (.slice (A1 r) m (C1 r)) (fun w hE' Q=>Zcb (t:=93) (x:=.tmp 62) Q (show r < n by omega) (hB1.len r (by omega))) ?_
     refine xr 1 [eS1 0 (some ⟨b,0,none⟩) n n,(2, .v (.int .u64 ((p:Nat):Int))),(6, .v (.int .i64 0)),(7, .v (.int .u64 0)),(8, .v (.int .i64 ((r:Nat):Int))),(9, .v (.int .u64 ((d1:Nat):Int))),(10, .v (.int .i64 ((col:Nat):Int))),eS1 12 (A1 r) m (C1 r),(19, .v (.int .i64 ((cols:Nat):Int))),(20, .v (.int .i64 ((col:Nat):Int)))] [] ?_
     refine xe (Zaa (Zac (Zab (xr 3 [eS1 0 (some ⟨b,0,none⟩) n n,(2, .v (.int .u64 ((p:Nat):Int))),(6, .v (.int .i64 0)),(7, .v (.int .u64 0)),(8, .v (.int .i64 ((r:Nat):Int))),(9, .v (.int .u64 ((d1:Nat):Int))),(10, .v (.int .i64 ((col:Nat):Int))),eS1 12 (A1 r) m (C1 r),(19, .v (.int .i64 ((cols:Nat):Int))),(20, .v (.int .i64 ((col:Nat):Int))),(64, .v (.int .u64 ((d1:Nat):Int))),eS1 65 (A1 r) m (C1 r),(66, .v (.int .i64 ((col:Nat):Int)))] [] ?_))))
     refine xk 67 (atA (A1 r) col) (fun w hE' Q=>Zb3 (t:=93) (e:=88) (x:=.tmp 65) (ix:=.tmp 66) (cap:=C1 r) Q (show r < n by omega) (hB1.len r (by omega)) (show col < m by omega)) ?_
     refine xk 68 (.int .u64 ((y:Nat):Int)) (fun w hE' Q=>Zcs (t:=88) (x:=.tmp 67) (j:=col) Q (show r < n by omega) (hB1.len r (by omega)) (show col < m by omega) hy) ?_
     refine xr 1 [eS1 0 (some ⟨b,0,none⟩) n n,(2, .v (.int .u64 ((p:Nat):Int))),(6, .v (.int .i64 0)),(7, .v (.int .u64 0)),(8, .v (.int .i64 ((r:Nat):Int))),(9, .v (.int .u64 ((d1:Nat):Int))),(10, .v (.int .i64 ((col:Nat):Int))),eS1 12 (A1 r) m (C1 r),(19, .v (.int .i64 ((cols:Nat):Int))),(20, .v (.int .i64 ((col:Nat):Int))),(69, .v (.int .u64 (IntKind.u64.wrap (((d1:Nat):Int) * ((y:Nat):Int)))))] [] ?_
     rw [Zkt hB1.dp hyp hp31]
     refine xr 1 [eS1 0 (some ⟨b,0,none⟩) n n,(2, .v (.int .u64 ((p:Nat):Int))),(6, .v (.int .i64 0)),(7, .v (.int .u64 0)),(8, .v (.int .i64 ((r:Nat):Int))),(9, .v (.int .u64 ((d1:Nat):Int))),(10, .v (.int .i64 ((col:Nat):Int))),eS1 12 (A1 r) m (C1 r),(19, .v (.int .i64 ((cols:Nat):Int))),(20, .v (.int .i64 ((col:Nat):Int))),(69, .v (.int .u64 ((d1 * y:Nat):Int))),(70, .v (.int .u64 ((p:Nat):Int)))] [] ?_
     refine xk 71 (.int .u64 (((d1 * y) % p:Nat):Int)) (fun w hE' Q=>Zem (k:=.u64) (t:=88) (k':=88) (x:=.tmp 69) (y:=.tmp 70) (a:=(d1 * y)) (b:=p) (by omega)) ?_
     refine xr 1 [eS1 0 (some ⟨b,0,none⟩) n n,(2, .v (.int .u64 ((p:Nat):Int))),(6, .v (.int .i64 0)),(7, .v (.int .u64 0)),(8, .v (.int .i64 ((r:Nat):Int))),(9, .v (.int .u64 (((d1 * y) % p:Nat):Int))),(10, .v (.int .i64 ((col:Nat):Int))),eS1 12 (A1 r) m (C1 r),(19, .v (.int .i64 ((cols:Nat):Int))),(20, .v (.int .i64 ((col:Nat):Int)))] [] ?_
     refine xe (Zaa (Zac (Zab (xr 2 [eS1 0 (some ⟨b,0,none⟩) n n,(2, .v (.int .u64 ((p:Nat):Int))),(6, .v (.int .i64 0)),(7, .v (.int .u64 0)),(8, .v (.int .i64 ((r:Nat):Int))),(9, .v (.int .u64 (((d1 * y) % p:Nat):Int))),(10, .v (.int .i64 ((col:Nat):Int))),eS1 12 (A1 r) m (C1 r),(19, .v (.int .i64 ((cols:Nat):Int))),(20, .v (.int .i64 ((col:Nat):Int))),eS1 72 (A1 r) m (C1 r),(73, .v (.int .i64 ((col:Nat):Int)))] [] ?_))))
     refine xk 74 (atA (A1 r) col) (fun w hE' Q=>Zb3 (t:=93) (e:=88) (x:=.tmp 72) (ix:=.tmp 73) (cap:=C1 r) Q (show r < n by omega) (hB1.len r (by omega)) (show col < m by omega)) ?_
     refine xk 75 (.int .u64 ((y:Nat):Int)) (fun w hE' Q=>Zcs (t:=88) (x:=.tmp 74) (j:=col) Q (show r < n by omega) (hB1.len r (by omega)) (show col < m by omega) hy) ?_
     refine xr 1 [eS1 0 (some ⟨b,0,none⟩) n n,(2, .v (.int .u64 ((p:Nat):Int))),(6, .v (.int .i64 0)),(7, .v (.int .u64 0)),(8, .v (.int .i64 ((r:Nat):Int))),(9, .v (.int .u64 (((d1 * y) % p:Nat):Int))),(10, .v (.int .i64 ((col:Nat):Int))),eS1 12 (A1 r) m (C1 r),(19, .v (.int .i64 ((cols:Nat):Int))),(20, .v (.int .i64 ((col:Nat):Int))),(75, .v (.int .u64 ((y:Nat):Int))),(76, .v (.int .u64 ((p:Nat):Int)))] [] ?_
     refine xc 130 [.int .u64 ((y:Nat):Int), .int .u64 ((p:Nat):Int)] 77 (fun _:Unit=>.int .u64 ((invN y p:Nat):Int)) _ (fun w R Q=>(ZlL y p _ hyp (by omega) hp31).mono (fun _ _ h=>Zau h rfl)) (fun xx=>?_)
     refine xr 1 [eS1 0 (some ⟨b,0,none⟩) n n,(2, .v (.int .u64 ((p:Nat):Int))),(6, .v (.int .i64 0)),(7, .v (.int .u64 0)),(8, .v (.int .i64 ((r:Nat):Int))),(9, .v (.int .u64 (((d1 * y) % p:Nat):Int))),(10, .v (.int .i64 ((col:Nat):Int))),eS1 12 (A1 r) m (C1 r),(13, .v (.int .u64 ((invN y p:Nat):Int))),(19, .v (.int .i64 ((cols:Nat):Int))),(20, .v (.int .i64 ((col:Nat):Int)))] [] ?_
     refine xe (Zaa (Zac (Zac (Zab (xr 2 [eS1 0 (some ⟨b,0,none⟩) n n,(2, .v (.int .u64 ((p:Nat):Int))),(6, .v (.int .i64 0)),(7, .v (.int .u64 0)),(8, .v (.int .i64 ((r:Nat):Int))),(9, .v (.int .u64 (((d1 * y) % p:Nat):Int))),(10, .v (.int .i64 ((col:Nat):Int))),eS1 12 (A1 r) m (C1 r),(13, .v (.int .u64 ((invN y p:Nat):Int))),(14, .v (.int .i64 ((col:Nat):Int))),(19, .v (.int .i64 ((cols:Nat):Int))),(20, .v (.int .i64 ((col:Nat):Int)))] [] ?_)))))
     refine xe (Zaa (Zar ?_))
     refine SXc.weak [(0, .v (.slice (some ⟨b,0,none⟩) n n)),(2, .v (.int .u64 ((p:Nat):Int))),(6, .v (.int .i64 0)),(7, .v (.int .u64 0)),(8, .v (.int .i64 ((r:Nat):Int))),(9, .v (.int .u64 (((d1 * y) % p:Nat):Int))),(10, .v (.int .i64 ((col:Nat):Int))),(12, .v (.slice (A1 r) m (C1 r))),(13, .v (.int .u64 ((invN y p:Nat):Int))),(14, .v (.int .i64 ((col:Nat):Int))),(19, .v (.int .i64 ((cols:Nat):Int))),(20, .v (.int .i64 ((col:Nat):Int)))] [] (Ψ:=fun w=>MU w b n (A1) (C1) (upF X1 r (mulP col (invN y p) p (X1 r) col))) (ZaA.of (by kernel_rfl)) (by kernel_rfl) (fun w Q=>(by rw [ZlG,Zkr]; exact Q.1)) ?_
     refine Zbs (fun nn ss ff=>∃ (j:Nat),ss=ofL [(0, .v (.slice (some ⟨b,0,none⟩) n n)),(2, .v (.int .u64 ((p:Nat):Int))),(6, .v (.int .i64 0)),(7, .v (.int .u64 0)),(8, .v (.int .i64 ((r:Nat):Int))),(9, .v (.int .u64 (((d1 * y) % p:Nat):Int))),(10, .v (.int .i64 ((col:Nat):Int))),(12, .v (.slice (A1 r) m (C1 r))),(13, .v (.int .u64 ((invN y p:Nat):Int))),(14, .v (.int .i64 ((j:Nat):Int))),(19, .v (.int .i64 ((cols:Nat):Int))),(20, .v (.int .i64 ((col:Nat):Int)))] []∧ff=(fun w=>MU w b n (A1) (C1) (upF X1 r (mulP col (invN y p) p (X1 r) j)))∧(col≤j)∧(j≤m)∧nn=(m - j)) ((m - col)) ⟨col,rfl,rfl,Nat.le_refl _,(by omega),rfl⟩ ?_
     rintro nn ss ff ⟨j,rfl,rfl,hcj,hj2,rfl⟩
     refine Zac (Zac (Zab (xr 4 [eS1 0 (some ⟨b,0,none⟩) n n,(2, .v (.int .u64 ((p:Nat):Int))),(6, .v (.int .i64 0)),(7, .v (.int .u64 0)),(8, .v (.int .i64 ((r:Nat):Int))),(9, .v (.int .u64 (((d1 * y) % p:Nat):Int))),(10, .v (.int .i64 ((col:Nat):Int))),eS1 12 (A1 r) m (C1 r),(13, .v (.int .u64 ((invN y p:Nat):Int))),(14, .v (.int .i64 ((j:Nat):Int))),(19, .v (.int .i64 ((cols:Nat):Int))),(20, .v (.int .i64 ((col:Nat):Int))),(82, .v (.bool (decide (((j:Nat):Int) < ((m:Nat):Int)))))] [] ?_)))
     refine xe (Zaa ?_)
     refine Zax ((decide (((j:Nat):Int) < ((m:Nat):Int)))) (by kernel_rfl) (fun hb14=>?_) (fun hb14=>?_)
     ·have hjm:j < m:=by have:=of_decide_eq_true hb14; omega
      refine Zap (Zaa (Zac (Zar ?_)))
      obtain ⟨z,hz2⟩:∃ z,(X1 r)[j]?.getD 0=z:=⟨_,rfl⟩
      have hzp:z < p:=by rw [← hz2]; exact hB1.get (by omega) hjm
      refine Zab (xr 4 [eS1 0 (some ⟨b,0,none⟩) n n,(2, .v (.int .u64 ((p:Nat):Int))),(6, .v (.int .i64 0)),(7, .v (.int .u64 0)),(8, .v (.int .i64 ((r:Nat):Int))),(9, .v (.int .u64 (((d1 * y) % p:Nat):Int))),(10, .v (.int .i64 ((col:Nat):Int))),eS1 12 (A1 r) m (C1 r),(13, .v (.int .u64 ((invN y p:Nat):Int))),(14, .v (.int .i64 ((j:Nat):Int))),(19, .v (.int .i64 ((cols:Nat):Int))),(20, .v (.int .i64 ((col:Nat):Int))),eS1 85 (A1 r) m (C1 r),(86, .v (.int .i64 ((j:Nat):Int))),eS1 87 (A1 r) m (C1 r),(88, .v (.int .i64 ((j:Nat):Int)))] [] ?_)
      refine xk 89 (atA (A1 r) j) (fun w hE' Q=>Zb3 (t:=93) (e:=88) (x:=.tmp 87) (ix:=.tmp 88) (cap:=C1 r) Q (show r < n by omega) (by rw [Zas,Za1]; exact hB1.len r (by omega)) hjm) ?_
      refine xk 90 (.int .u64 ((z:Nat):Int)) (fun w hE' Q=>Zcs (t:=88) (x:=.tmp 89) (j:=j) Q (show r < n by omega) (by rw [Zas,Za1]; exact hB1.len r (by omega)) hjm (by rw [Zas,Znq]; exact hz2)) ?_
      refine xr 2 [eS1 0 (some ⟨b,0,none⟩) n n,(2, .v (.int .u64 ((p:Nat):Int))),(6, .v (.int .i64 0)),(7, .v (.int .u64 0)),(8, .v (.int .i64 ((r:Nat):Int))),(9, .v (.int .u64 (((d1 * y) % p:Nat):Int))),(10, .v (.int .i64 ((col:Nat):Int))),eS1 12 (A1 r) m (C1 r),(13, .v (.int .u64 ((invN y p:Nat):Int))),(14, .v (.int .i64 ((j:Nat):Int))),(19, .v (.int .i64 ((cols:Nat):Int))),(20, .v (.int .i64 ((col:Nat):Int))),eS1 85 (A1 r) m (C1 r),(86, .v (.int .i64 ((j:Nat):Int))),(92, .v (.int .u64 (IntKind.u64.wrap (((z:Nat):Int) * ((invN y p:Nat):Int)))))] [] ?_
      rw [Zkt hzp hsp hp31]
      refine xr 1 [eS1 0 (some ⟨b,0,none⟩) n n,(2, .v (.int .u64 ((p:Nat):Int))),(6, .v (.int .i64 0)),(7, .v (.int .u64 0)),(8, .v (.int .i64 ((r:Nat):Int))),(9, .v (.int .u64 (((d1 * y) % p:Nat):Int))),(10, .v (.int .i64 ((col:Nat):Int))),eS1 12 (A1 r) m (C1 r),(13, .v (.int .u64 ((invN y p:Nat):Int))),(14, .v (.int .i64 ((j:Nat):Int))),(19, .v (.int .i64 ((cols:Nat):Int))),(20, .v (.int .i64 ((col:Nat):Int))),eS1 85 (A1 r) m (C1 r),(86, .v (.int .i64 ((j:Nat):Int))),(92, .v (.int .u64 ((z * invN y p:Nat):Int))),(93, .v (.int .u64 ((p:Nat):Int)))] [] ?_
      refine xk 94 (.int .u64 (((z * invN y p) % p:Nat):Int)) (fun w hE' Q=>Zem (k:=.u64) (t:=88) (k':=88) (x:=.tmp 92) (y:=.tmp 93) (a:=(z * invN y p)) (b:=p) (by omega)) ?_
      refine xk 95 (atA (A1 r) j) (fun w hE' Q=>Zb3 (t:=93) (e:=88) (x:=.tmp 85) (ix:=.tmp 86) (cap:=C1 r) Q (show r < n by omega) (by rw [Zas,Za1]; exact hB1.len r (by omega)) hjm) ?_
      refine Zdj (fun w=>MU w b n (A1) (C1) (upF X1 r (mulP col (invN y p) p (X1 r) (j + 1)))) (fun w hE' Q=>stE (t:=88) (x:=.tmp 95) (y:=.tmp 94) (i:=r) (j:=j) (v:=z * invN y p % p) Q hE' (stS hA1) (by omega) (by rw [Zas,Za1]; exact hB1.len r (by omega)) hjm (by rw [Zlf,Zas,Zms hcj (by rw [hB1.len r (by omega)]; exact hjm) hz2])) ?_
      refine xr 0 [eS1 0 (some ⟨b,0,none⟩) n n,(2, .v (.int .u64 ((p:Nat):Int))),(6, .v (.int .i64 0)),(7, .v (.int .u64 0)),(8, .v (.int .i64 ((r:Nat):Int))),(9, .v (.int .u64 (((d1 * y) % p:Nat):Int))),(10, .v (.int .i64 ((col:Nat):Int))),eS1 12 (A1 r) m (C1 r),(13, .v (.int .u64 ((invN y p:Nat):Int))),(14, .v (.int .i64 ((j:Nat):Int))),(19, .v (.int .i64 ((cols:Nat):Int))),(20, .v (.int .i64 ((col:Nat):Int)))] [] ?_
      refine xe (Zbr (Zaa (Zab (xr 2 [eS1 0 (some ⟨b,0,none⟩) n n,(2, .v (.int .u64 ((p:Nat):Int))),(6, .v (.int .i64 0)),(7, .v (.int .u64 0)),(8, .v (.int .i64 ((r:Nat):Int))),(9, .v (.int .u64 (((d1 * y) % p:Nat):Int))),(10, .v (.int .i64 ((col:Nat):Int))),eS1 12 (A1 r) m (C1 r),(13, .v (.int .u64 ((invN y p:Nat):Int))),(14, .v (.int .i64 ((j:Nat):Int))),(19, .v (.int .i64 ((cols:Nat):Int))),(20, .v (.int .i64 ((col:Nat):Int))),(84, .v (.int .i64 (IntKind.i64.wrap (((j:Nat):Int) + 1))))] [] ?_))))
      rw [Zbh (k:=j) (by omega)]
      refine xr 1 [eS1 0 (some ⟨b,0,none⟩) n n,(2, .v (.int .u64 ((p:Nat):Int))),(6, .v (.int .i64 0)),(7, .v (.int .u64 0)),(8, .v (.int .i64 ((r:Nat):Int))),(9, .v (.int .u64 (((d1 * y) % p:Nat):Int))),(10, .v (.int .i64 ((col:Nat):Int))),eS1 12 (A1 r) m (C1 r),(13, .v (.int .u64 ((invN y p:Nat):Int))),(14, .v (.int .i64 ((j + 1:Nat):Int))),(19, .v (.int .i64 ((cols:Nat):Int))),(20, .v (.int .i64 ((col:Nat):Int)))] [] ?_
      refine xe ?_
      refine SXq.weak [(0, .v (.slice (some ⟨b,0,none⟩) n n)),(2, .v (.int .u64 ((p:Nat):Int))),(6, .v (.int .i64 0)),(7, .v (.int .u64 0)),(8, .v (.int .i64 ((r:Nat):Int))),(9, .v (.int .u64 (((d1 * y) % p:Nat):Int))),(10, .v (.int .i64 ((col:Nat):Int))),(12, .v (.slice (A1 r) m (C1 r))),(13, .v (.int .u64 ((invN y p:Nat):Int))),(14, .v (.int .i64 (((j + 1):Nat):Int))),(19, .v (.int .i64 ((cols:Nat):Int))),(20, .v (.int .i64 ((col:Nat):Int)))] [] (Ψ:=fun w=>MU w b n (A1) (C1) (upF X1 r (mulP col (invN y p) p (X1 r) (j + 1)))) (ZaA.of (by kernel_rfl)) (by kernel_rfl) (fun w Q=>Q) ?_
      exact Za0 ((m - (j + 1))) (by omega) ⟨(j + 1),rfl,rfl,(by omega),(by omega),rfl⟩
     ·have hjm:m≤j:=by have:=of_decide_eq_false hb14; omega
      refine Zbf (Zaj (Zaj (Zbv (Zaa (Zac (Zac ?_))))))
      obtain ⟨B,hBB⟩:∃ B,(if n=r + 1 then some (⟨b,0,none⟩:Addr) else (some (⟨b,0,none⟩:Addr)).map (·.add (r + 1)))=B:=⟨_,rfl⟩
      refine Zab (xr 3 [eS1 0 (some ⟨b,0,none⟩) n n,(2, .v (.int .u64 ((p:Nat):Int))),(6, .v (.int .i64 0)),(7, .v (.int .u64 0)),(8, .v (.int .i64 ((r:Nat):Int))),(9, .v (.int .u64 (((d1 * y) % p:Nat):Int))),(10, .v (.int .i64 ((col:Nat):Int))),eS1 12 (A1 r) m (C1 r),(19, .v (.int .i64 ((cols:Nat):Int))),(20, .v (.int .i64 ((col:Nat):Int))),eS1 96 (some ⟨b,0,none⟩) n n,(98, .v (.int .i64 (IntKind.i64.wrap (((r:Nat):Int) + 1))))] [] ?_)
      rw [Zbh (k:=r) (by omega)]
      refine xk 99 (.slice B (n - (r + 1)) (n - (r + 1))) (fun w hE' Q=>by rw [← hBB]; exact Zno (A:=some ⟨b,0,none⟩) (len:=n) (cap:=n) (l:=r + 1) (t:=91) (e:=93) (x:=.tmp 96) (lo:=.tmp 98) (by omega)) ?_
      refine xr 2 [eS1 0 (some ⟨b,0,none⟩) n n,(2, .v (.int .u64 ((p:Nat):Int))),(6, .v (.int .i64 0)),(7, .v (.int .u64 0)),(8, .v (.int .i64 ((r:Nat):Int))),(9, .v (.int .u64 (((d1 * y) % p:Nat):Int))),(10, .v (.int .i64 ((col:Nat):Int))),eS1 12 (A1 r) m (C1 r),(19, .v (.int .i64 ((cols:Nat):Int))),(20, .v (.int .i64 ((col:Nat):Int))),(99, .v (.slice B (n - (r + 1)) (n - (r + 1)))),(100, .v (.int .i64 ((n - (r + 1):Nat):Int))),(101, .v (.int .i64 0))] [] ?_
      refine xe (Zaa (Zar ?_))
      refine SXc.weak [(0, .v (.slice (some ⟨b,0,none⟩) n n)),(2, .v (.int .u64 ((p:Nat):Int))),(6, .v (.int .i64 0)),(7, .v (.int .u64 0)),(8, .v (.int .i64 ((r:Nat):Int))),(9, .v (.int .u64 (((d1 * y) % p:Nat):Int))),(10, .v (.int .i64 ((col:Nat):Int))),(12, .v (.slice (A1 r) m (C1 r))),(19, .v (.int .i64 ((cols:Nat):Int))),(20, .v (.int .i64 ((col:Nat):Int))),(99, .v (.slice B (n - (r + 1)) (n - (r + 1)))),(100, .v (.int .i64 ((n - (r + 1):Nat):Int))),(101, .v (.int .i64 ((0:Nat):Int)))] [] (Ψ:=fun w=>MU w b n (A1) (C1) (addR col p m r X1 F 0)) (ZaA.of (by kernel_rfl)) (by kernel_rfl) (fun w Q=>(by rw [ZlI,hF,(show m=j by omega)]; exact Q)) ?_
      refine Zbs (fun nn ss ff=>∃ (q:Nat),ss=ofL [(0, .v (.slice (some ⟨b,0,none⟩) n n)),(2, .v (.int .u64 ((p:Nat):Int))),(6, .v (.int .i64 0)),(7, .v (.int .u64 0)),(8, .v (.int .i64 ((r:Nat):Int))),(9, .v (.int .u64 (((d1 * y) % p:Nat):Int))),(10, .v (.int .i64 ((col:Nat):Int))),(12, .v (.slice (A1 r) m (C1 r))),(19, .v (.int .i64 ((cols:Nat):Int))),(20, .v (.int .i64 ((col:Nat):Int))),(99, .v (.slice B (n - (r + 1)) (n - (r + 1)))),(100, .v (.int .i64 ((n - (r + 1):Nat):Int))),(101, .v (.int .i64 ((q:Nat):Int)))] []∧ff=(fun w=>MU w b n (A1) (C1) (addR col p m r X1 F q))∧(q≤n - (r + 1))∧nn=(n - (r + 1) - q)) ((n - (r + 1) - 0)) ⟨0,rfl,rfl,Nat.zero_le _,rfl⟩ ?_
      rintro nn ss ff ⟨q,rfl,rfl,hq2,rfl⟩
      refine Zac (Zab (xr 1 [eS1 0 (some ⟨b,0,none⟩) n n,(2, .v (.int .u64 ((p:Nat):Int))),(6, .v (.int .i64 0)),(7, .v (.int .u64 0)),(8, .v (.int .i64 ((r:Nat):Int))),(9, .v (.int .u64 (((d1 * y) % p:Nat):Int))),(10, .v (.int .i64 ((col:Nat):Int))),eS1 12 (A1 r) m (C1 r),(19, .v (.int .i64 ((cols:Nat):Int))),(20, .v (.int .i64 ((col:Nat):Int))),(99, .v (.slice B (n - (r + 1)) (n - (r + 1)))),(100, .v (.int .i64 ((n - (r + 1):Nat):Int))),(101, .v (.int .i64 ((q:Nat):Int))),(102, .v (.bool (decide (((q:Nat):Int) < ((n - (r + 1):Nat):Int)))))] [] ?_))
      refine xe (Zaa (Zac ?_))
      refine Zax ((decide (((q:Nat):Int) < ((n - (r + 1):Nat):Int)))) (by kernel_rfl) (fun hb15=>?_) (fun hb15=>?_)
      ·have hqn:q < n - (r + 1):=by have:=of_decide_eq_true hb15; omega
       refine Zap (Zaa (Zac (Zar (Zac ?_))))
       have hBe:B=some ⟨b,r + 1,none⟩:=by rw [← hBB,if_neg (by omega),Option.map_some,Zch,Nat.zero_add]
       obtain ⟨i,hi⟩:∃ i,i=r + 1 + q:=⟨_,rfl⟩
       have hin:i < n:=by omega
       obtain ⟨u,hu⟩:∃ u,(X1 i)[col]?.getD 0=u:=⟨_,rfl⟩
       have hup:u < p:=by rw [← hu]; exact hB1.get hin (by omega)
       obtain ⟨f,hf⟩:∃ f,(p - u) % p=f:=⟨_,rfl⟩
       have hfp:f < p:=by rw [← hf]; exact Nat.mod_lt _ (by omega)
       have hXi:addR col p m r X1 F q i=X1 i:=Zns hi
       refine Zab ?_
       refine xk 103 (atA B q) (fun w hE' Q=>ZeO (len:=n - (r + 1)) (cap:=n - (r + 1)) (i:=q) (t:=91) (e:=93) (x:=.tmp 99) (ix:=.tmp 101) (by rw [hBe]; exact fun e=>by cases e) (by omega)) ?_
       refine xk 104 (.slice (A1 i) m (C1 i)) (fun w hE' Q=>Zcb (t:=93) (x:=.tmp 103) Q hin (by rw [hXi]; exact hB1.len i hin) (hx:=atB hBe hi)) ?_
       refine xr 1 [eS1 0 (some ⟨b,0,none⟩) n n,(2, .v (.int .u64 ((p:Nat):Int))),(6, .v (.int .i64 0)),(7, .v (.int .u64 0)),(8, .v (.int .i64 ((r:Nat):Int))),(9, .v (.int .u64 (((d1 * y) % p:Nat):Int))),(10, .v (.int .i64 ((col:Nat):Int))),eS1 12 (A1 r) m (C1 r),eS1 16 (A1 i) m (C1 i),(19, .v (.int .i64 ((cols:Nat):Int))),(20, .v (.int .i64 ((col:Nat):Int))),(99, .v (.slice B (n - (r + 1)) (n - (r + 1)))),(100, .v (.int .i64 ((n - (r + 1):Nat):Int))),(101, .v (.int .i64 ((q:Nat):Int)))] [] ?_
       refine xe (Zaa (Zac (Zab (xr 3 [eS1 0 (some ⟨b,0,none⟩) n n,(2, .v (.int .u64 ((p:Nat):Int))),(6, .v (.int .i64 0)),(7, .v (.int .u64 0)),(8, .v (.int .i64 ((r:Nat):Int))),(9, .v (.int .u64 (((d1 * y) % p:Nat):Int))),(10, .v (.int .i64 ((col:Nat):Int))),eS1 12 (A1 r) m (C1 r),eS1 16 (A1 i) m (C1 i),(19, .v (.int .i64 ((cols:Nat):Int))),(20, .v (.int .i64 ((col:Nat):Int))),(99, .v (.slice B (n - (r + 1)) (n - (r + 1)))),(100, .v (.int .i64 ((n - (r + 1):Nat):Int))),(101, .v (.int .i64 ((q:Nat):Int))),(105, .v (.int .u64 ((p:Nat):Int))),eS1 106 (A1 i) m (C1 i),(107, .v (.int .i64 ((col:Nat):Int)))] [] ?_))))
       refine xk 108 (atA (A1 i) col) (fun w hE' Q=>Zb3 (t:=93) (e:=88) (x:=.tmp 106) (ix:=.tmp 107) (cap:=C1 i) Q hin (by rw [hXi]; exact hB1.len i hin) (show col < m by omega)) ?_
       refine xk 109 (.int .u64 ((u:Nat):Int)) (fun w hE' Q=>Zcs (t:=88) (x:=.tmp 108) (j:=col) Q hin (by rw [hXi]; exact hB1.len i hin) (show col < m by omega) (by rw [hXi]; exact hu)) ?_
       refine xr 1 [eS1 0 (some ⟨b,0,none⟩) n n,(2, .v (.int .u64 ((p:Nat):Int))),(6, .v (.int .i64 0)),(7, .v (.int .u64 0)),(8, .v (.int .i64 ((r:Nat):Int))),(9, .v (.int .u64 (((d1 * y) % p:Nat):Int))),(10, .v (.int .i64 ((col:Nat):Int))),eS1 12 (A1 r) m (C1 r),eS1 16 (A1 i) m (C1 i),(19, .v (.int .i64 ((cols:Nat):Int))),(20, .v (.int .i64 ((col:Nat):Int))),(99, .v (.slice B (n - (r + 1)) (n - (r + 1)))),(100, .v (.int .i64 ((n - (r + 1):Nat):Int))),(101, .v (.int .i64 ((q:Nat):Int))),(110, .v (.int .u64 (IntKind.u64.wrap (((p:Nat):Int) - ((u:Nat):Int)))))] [] ?_
       rw [Zmw (Nat.le_of_lt hup) hp31]
       refine xr 1 [eS1 0 (some ⟨b,0,none⟩) n n,(2, .v (.int .u64 ((p:Nat):Int))),(6, .v (.int .i64 0)),(7, .v (.int .u64 0)),(8, .v (.int .i64 ((r:Nat):Int))),(9, .v (.int .u64 (((d1 * y) % p:Nat):Int))),(10, .v (.int .i64 ((col:Nat):Int))),eS1 12 (A1 r) m (C1 r),eS1 16 (A1 i) m (C1 i),(19, .v (.int .i64 ((cols:Nat):Int))),(20, .v (.int .i64 ((col:Nat):Int))),(99, .v (.slice B (n - (r + 1)) (n - (r + 1)))),(100, .v (.int .i64 ((n - (r + 1):Nat):Int))),(101, .v (.int .i64 ((q:Nat):Int))),(110, .v (.int .u64 ((p - u:Nat):Int))),(111, .v (.int .u64 ((p:Nat):Int)))] [] ?_
       refine xk 112 (.int .u64 ((f:Nat):Int)) (fun w hE' Q=>by rw [← hf]; exact Zem (k:=.u64) (t:=88) (k':=88) (x:=.tmp 110) (y:=.tmp 111) (a:=p - u) (b:=p) (by omega)) ?_
       refine xr 1 [eS1 0 (some ⟨b,0,none⟩) n n,(2, .v (.int .u64 ((p:Nat):Int))),(6, .v (.int .i64 0)),(7, .v (.int .u64 0)),(8, .v (.int .i64 ((r:Nat):Int))),(9, .v (.int .u64 (((d1 * y) % p:Nat):Int))),(10, .v (.int .i64 ((col:Nat):Int))),eS1 12 (A1 r) m (C1 r),eS1 16 (A1 i) m (C1 i),(17, .v (.int .u64 ((f:Nat):Int))),(19, .v (.int .i64 ((cols:Nat):Int))),(20, .v (.int .i64 ((col:Nat):Int))),(99, .v (.slice B (n - (r + 1)) (n - (r + 1)))),(100, .v (.int .i64 ((n - (r + 1):Nat):Int))),(101, .v (.int .i64 ((q:Nat):Int)))] [] ?_
       refine xe (Zaa (Zac (Zab (xr 2 [eS1 0 (some ⟨b,0,none⟩) n n,(2, .v (.int .u64 ((p:Nat):Int))),(6, .v (.int .i64 0)),(7, .v (.int .u64 0)),(8, .v (.int .i64 ((r:Nat):Int))),(9, .v (.int .u64 (((d1 * y) % p:Nat):Int))),(10, .v (.int .i64 ((col:Nat):Int))),eS1 12 (A1 r) m (C1 r),eS1 16 (A1 i) m (C1 i),(17, .v (.int .u64 ((f:Nat):Int))),(18, .v (.int .i64 ((col:Nat):Int))),(19, .v (.int .i64 ((cols:Nat):Int))),(20, .v (.int .i64 ((col:Nat):Int))),(99, .v (.slice B (n - (r + 1)) (n - (r + 1)))),(100, .v (.int .i64 ((n - (r + 1):Nat):Int))),(101, .v (.int .i64 ((q:Nat):Int)))] [] ?_))))
       refine xe (Zaa (Zar ?_))
       refine SXc.weak [(0, .v (.slice (some ⟨b,0,none⟩) n n)),(2, .v (.int .u64 ((p:Nat):Int))),(6, .v (.int .i64 0)),(7, .v (.int .u64 0)),(8, .v (.int .i64 ((r:Nat):Int))),(9, .v (.int .u64 (((d1 * y) % p:Nat):Int))),(10, .v (.int .i64 ((col:Nat):Int))),(12, .v (.slice (A1 r) m (C1 r))),(16, .v (.slice (A1 i) m (C1 i))),(17, .v (.int .u64 ((f:Nat):Int))),(18, .v (.int .i64 ((col:Nat):Int))),(19, .v (.int .i64 ((cols:Nat):Int))),(20, .v (.int .i64 ((col:Nat):Int))),(99, .v (.slice B (n - (r + 1)) (n - (r + 1)))),(100, .v (.int .i64 ((n - (r + 1):Nat):Int))),(101, .v (.int .i64 ((q:Nat):Int)))] [] (Ψ:=fun w=>MU w b n (A1) (C1) (upF (addR col p m r X1 F q) i (addP col f p (X1 i) F col))) (ZaA.of (by kernel_rfl)) (by kernel_rfl) (fun w Q=>(by rw [ZlH,← hXi,Zkr]; exact Q)) ?_
       refine Zbs (fun nn ss ff=>∃ (e:Nat),ss=ofL [(0, .v (.slice (some ⟨b,0,none⟩) n n)),(2, .v (.int .u64 ((p:Nat):Int))),(6, .v (.int .i64 0)),(7, .v (.int .u64 0)),(8, .v (.int .i64 ((r:Nat):Int))),(9, .v (.int .u64 (((d1 * y) % p:Nat):Int))),(10, .v (.int .i64 ((col:Nat):Int))),(12, .v (.slice (A1 r) m (C1 r))),(16, .v (.slice (A1 i) m (C1 i))),(17, .v (.int .u64 ((f:Nat):Int))),(18, .v (.int .i64 ((e:Nat):Int))),(19, .v (.int .i64 ((cols:Nat):Int))),(20, .v (.int .i64 ((col:Nat):Int))),(99, .v (.slice B (n - (r + 1)) (n - (r + 1)))),(100, .v (.int .i64 ((n - (r + 1):Nat):Int))),(101, .v (.int .i64 ((q:Nat):Int)))] []∧ff=(fun w=>MU w b n (A1) (C1) (upF (addR col p m r X1 F q) i (addP col f p (X1 i) F e)))∧(col≤e)∧(e≤m)∧nn=(m - e)) ((m - col)) ⟨col,rfl,rfl,Nat.le_refl _,(by omega),rfl⟩ ?_
       rintro nn ss ff ⟨e,rfl,rfl,hce,he2,rfl⟩
       refine Zac (Zac (Zab (xr 5 [eS1 0 (some ⟨b,0,none⟩) n n,(2, .v (.int .u64 ((p:Nat):Int))),(6, .v (.int .i64 0)),(7, .v (.int .u64 0)),(8, .v (.int .i64 ((r:Nat):Int))),(9, .v (.int .u64 (((d1 * y) % p:Nat):Int))),(10, .v (.int .i64 ((col:Nat):Int))),eS1 12 (A1 r) m (C1 r),eS1 16 (A1 i) m (C1 i),(17, .v (.int .u64 ((f:Nat):Int))),(18, .v (.int .i64 ((e:Nat):Int))),(19, .v (.int .i64 ((cols:Nat):Int))),(20, .v (.int .i64 ((col:Nat):Int))),(99, .v (.slice B (n - (r + 1)) (n - (r + 1)))),(100, .v (.int .i64 ((n - (r + 1):Nat):Int))),(101, .v (.int .i64 ((q:Nat):Int))),(118, .v (.bool (decide (((e:Nat):Int) < ((m:Nat):Int)))))] [] ?_)))
       rcases bl2 ((decide (((e:Nat):Int) < ((m:Nat):Int)))) with hb16 | hb16
       ·rw [hb16]
        have hem:e < m:=by have:=of_decide_eq_true hb16; omega
        refine xr 3 [eS1 0 (some ⟨b,0,none⟩) n n,(2, .v (.int .u64 ((p:Nat):Int))),(6, .v (.int .i64 0)),(7, .v (.int .u64 0)),(8, .v (.int .i64 ((r:Nat):Int))),(9, .v (.int .u64 (((d1 * y) % p:Nat):Int))),(10, .v (.int .i64 ((col:Nat):Int))),eS1 12 (A1 r) m (C1 r),eS1 16 (A1 i) m (C1 i),(17, .v (.int .u64 ((f:Nat):Int))),(18, .v (.int .i64 ((e:Nat):Int))),(19, .v (.int .i64 ((cols:Nat):Int))),(20, .v (.int .i64 ((col:Nat):Int))),(99, .v (.slice B (n - (r + 1)) (n - (r + 1)))),(100, .v (.int .i64 ((n - (r + 1):Nat):Int))),(101, .v (.int .i64 ((q:Nat):Int))),(121, .v (.bool ((((f:Nat):Int):Int) != 0)))] [] ?_
        refine xe (Zaa ?_)
        refine Zax (((((f:Nat):Int):Int) != 0)) (by kernel_rfl) (fun hb17=>?_) (fun hb17=>?_)
        ·refine Zap (Zaa (Zac (Zar ?_)))
         obtain ⟨z,hz2⟩:∃ z,(X1 i)[e]?.getD 0=z:=⟨_,rfl⟩
         have hzp:z < p:=by rw [← hz2]; exact hB1.get hin hem
         obtain ⟨v,hv⟩:∃ v,F[e]?.getD 0=v:=⟨_,rfl⟩
         have hvp:v < p:=by rw [← hv,hF]; exact Zle (by omega) (hB1.lt r (by omega)) _ (ZdO (by rw [Za1,hB1.len r (by omega)]; exact hem))
         refine ZfV 16 [0,0,0,0,12,28,0,0,0,384,896,1984,4092,0,16380,32767] (by kernel_rfl) (by kernel_rfl) Za6 ?_
         refine xf 4 [eS1 0 (some ⟨b,0,none⟩) n n,(2, .v (.int .u64 ((p:Nat):Int))),(6, .v (.int .i64 0)),(7, .v (.int .u64 0)),(8, .v (.int .i64 ((r:Nat):Int))),(9, .v (.int .u64 (((d1 * y) % p:Nat):Int))),(10, .v (.int .i64 ((col:Nat):Int))),eS1 12 (A1 r) m (C1 r),eS1 16 (A1 i) m (C1 i),(17, .v (.int .u64 ((f:Nat):Int))),(18, .v (.int .i64 ((e:Nat):Int))),(19, .v (.int .i64 ((cols:Nat):Int))),(20, .v (.int .i64 ((col:Nat):Int))),(99, .v (.slice B (n - (r + 1)) (n - (r + 1)))),(100, .v (.int .i64 ((n - (r + 1):Nat):Int))),(101, .v (.int .i64 ((q:Nat):Int))),eS1 124 (A1 i) m (C1 i),(125, .v (.int .i64 ((e:Nat):Int))),eS1 126 (A1 i) m (C1 i),(127, .v (.int .i64 ((e:Nat):Int)))] [] ?_
         refine xj 128 (atA (A1 i) e) (fun w Q=>Zb3 (t:=93) (e:=88) (x:=.tmp 126) (ix:=.tmp 127) (cap:=C1 i) Q hin (by rw [Zas,ZaU]; exact hB1.len i hin) hem) ?_
         refine xj 129 (.int .u64 ((z:Nat):Int)) (fun w Q=>Zcs (t:=88) (x:=.tmp 128) (j:=e) Q hin (by rw [Zas,ZaU]; exact hB1.len i hin) hem (by rw [Zas,Znr]; exact hz2)) ?_
         refine xf 3 [eS1 0 (some ⟨b,0,none⟩) n n,(2, .v (.int .u64 ((p:Nat):Int))),(6, .v (.int .i64 0)),(7, .v (.int .u64 0)),(8, .v (.int .i64 ((r:Nat):Int))),(9, .v (.int .u64 (((d1 * y) % p:Nat):Int))),(10, .v (.int .i64 ((col:Nat):Int))),eS1 12 (A1 r) m (C1 r),eS1 16 (A1 i) m (C1 i),(17, .v (.int .u64 ((f:Nat):Int))),(18, .v (.int .i64 ((e:Nat):Int))),(19, .v (.int .i64 ((cols:Nat):Int))),(20, .v (.int .i64 ((col:Nat):Int))),(99, .v (.slice B (n - (r + 1)) (n - (r + 1)))),(100, .v (.int .i64 ((n - (r + 1):Nat):Int))),(101, .v (.int .i64 ((q:Nat):Int))),eS1 124 (A1 i) m (C1 i),(125, .v (.int .i64 ((e:Nat):Int))),(129, .v (.int .u64 ((z:Nat):Int))),(130, .v (.int .u64 ((f:Nat):Int))),eS1 131 (A1 r) m (C1 r),(132, .v (.int .i64 ((e:Nat):Int)))] [] ?_
         refine xj 133 (atA (A1 r) e) (fun w Q=>Zb3 (t:=93) (e:=88) (x:=.tmp 131) (ix:=.tmp 132) (cap:=C1 r) Q (show r < n by omega) (by rw [ZaP (by omega),Zkq,hF,Za1]; exact hB1.len r (by omega)) hem) ?_
         refine xj 134 (.int .u64 ((v:Nat):Int)) (fun w Q=>Zcs (t:=88) (x:=.tmp 133) (j:=e) Q (show r < n by omega) (by rw [ZaP (by omega),Zkq,hF,Za1]; exact hB1.len r (by omega)) hem (by rw [ZaP (by omega),Zkq]; exact hv)) ?_
         refine xf 1 [eS1 0 (some ⟨b,0,none⟩) n n,(2, .v (.int .u64 ((p:Nat):Int))),(6, .v (.int .i64 0)),(7, .v (.int .u64 0)),(8, .v (.int .i64 ((r:Nat):Int))),(9, .v (.int .u64 (((d1 * y) % p:Nat):Int))),(10, .v (.int .i64 ((col:Nat):Int))),eS1 12 (A1 r) m (C1 r),eS1 16 (A1 i) m (C1 i),(17, .v (.int .u64 ((f:Nat):Int))),(18, .v (.int .i64 ((e:Nat):Int))),(19, .v (.int .i64 ((cols:Nat):Int))),(20, .v (.int .i64 ((col:Nat):Int))),(99, .v (.slice B (n - (r + 1)) (n - (r + 1)))),(100, .v (.int .i64 ((n - (r + 1):Nat):Int))),(101, .v (.int .i64 ((q:Nat):Int))),eS1 124 (A1 i) m (C1 i),(125, .v (.int .i64 ((e:Nat):Int))),(129, .v (.int .u64 ((z:Nat):Int))),(135, .v (.int .u64 (IntKind.u64.wrap (((f:Nat):Int) * ((v:Nat):Int)))))] [] ?_
         rw [Zkt hfp hvp hp31]
         refine xf 1 [eS1 0 (some ⟨b,0,none⟩) n n,(2, .v (.int .u64 ((p:Nat):Int))),(6, .v (.int .i64 0)),(7, .v (.int .u64 0)),(8, .v (.int .i64 ((r:Nat):Int))),(9, .v (.int .u64 (((d1 * y) % p:Nat):Int))),(10, .v (.int .i64 ((col:Nat):Int))),eS1 12 (A1 r) m (C1 r),eS1 16 (A1 i) m (C1 i),(17, .v (.int .u64 ((f:Nat):Int))),(18, .v (.int .i64 ((e:Nat):Int))),(19, .v (.int .i64 ((cols:Nat):Int))),(20, .v (.int .i64 ((col:Nat):Int))),(99, .v (.slice B (n - (r + 1)) (n - (r + 1)))),(100, .v (.int .i64 ((n - (r + 1):Nat):Int))),(101, .v (.int .i64 ((q:Nat):Int))),eS1 124 (A1 i) m (C1 i),(125, .v (.int .i64 ((e:Nat):Int))),(136, .v (.int .u64 (IntKind.u64.wrap (((z:Nat):Int) + ((f * v:Nat):Int)))))] [] ?_
         rw [ZoN hzp hfp hvp hp31]
         refine xf 1 [eS1 0 (some ⟨b,0,none⟩) n n,(2, .v (.int .u64 ((p:Nat):Int))),(6, .v (.int .i64 0)),(7, .v (.int .u64 0)),(8, .v (.int .i64 ((r:Nat):Int))),(9, .v (.int .u64 (((d1 * y) % p:Nat):Int))),(10, .v (.int .i64 ((col:Nat):Int))),eS1 12 (A1 r) m (C1 r),eS1 16 (A1 i) m (C1 i),(17, .v (.int .u64 ((f:Nat):Int))),(18, .v (.int .i64 ((e:Nat):Int))),(19, .v (.int .i64 ((cols:Nat):Int))),(20, .v (.int .i64 ((col:Nat):Int))),(99, .v (.slice B (n - (r + 1)) (n - (r + 1)))),(100, .v (.int .i64 ((n - (r + 1):Nat):Int))),(101, .v (.int .i64 ((q:Nat):Int))),eS1 124 (A1 i) m (C1 i),(125, .v (.int .i64 ((e:Nat):Int))),(136, .v (.int .u64 ((z + f * v:Nat):Int))),(137, .v (.int .u64 ((p:Nat):Int)))] [] ?_
         refine xj 138 (.int .u64 (((z + f * v) % p:Nat):Int)) (fun w Q=>Zem (k:=.u64) (t:=88) (k':=88) (x:=.tmp 136) (y:=.tmp 137) (a:=(z + f * v)) (b:=p) (by omega)) ?_
         refine xj 139 (atA (A1 i) e) (fun w Q=>Zb3 (t:=93) (e:=88) (x:=.tmp 124) (ix:=.tmp 125) (cap:=C1 i) Q hin (by rw [Zas,ZaU]; exact hB1.len i hin) hem) ?_
         refine xf 0 [eS1 0 (some ⟨b,0,none⟩) n n,(2, .v (.int .u64 ((p:Nat):Int))),(6, .v (.int .i64 0)),(7, .v (.int .u64 0)),(8, .v (.int .i64 ((r:Nat):Int))),(9, .v (.int .u64 (((d1 * y) % p:Nat):Int))),(10, .v (.int .i64 ((col:Nat):Int))),eS1 12 (A1 r) m (C1 r),eS1 16 (A1 i) m (C1 i),(17, .v (.int .u64 ((f:Nat):Int))),(18, .v (.int .i64 ((e:Nat):Int))),(19, .v (.int .i64 ((cols:Nat):Int))),(20, .v (.int .i64 ((col:Nat):Int))),(99, .v (.slice B (n - (r + 1)) (n - (r + 1)))),(100, .v (.int .i64 ((n - (r + 1):Nat):Int))),(101, .v (.int .i64 ((q:Nat):Int))),(138, .v (.int .u64 (((z + f * v) % p:Nat):Int))),(139, .v (atA (A1 i) e))] [] ?_
         refine xz ?_
         refine Zdj (fun w=>MU w b n (A1) (C1) (upF (addR col p m r X1 F q) i (addP col f p (X1 i) F (e + 1)))) (fun w hE' Q=>stE (t:=88) (x:=.tmp 139) (y:=.tmp 138) (i:=i) (j:=e) (v:=(z + f * v) % p) Q hE' (stS hA1) hin (by rw [Zas,ZaU]; exact hB1.len i hin) hem (by rw [Zlf,Zas,Zmt hce (by rw [hB1.len i hin]; exact hem) hz2 hv])) ?_
         refine xr 0 [eS1 0 (some ⟨b,0,none⟩) n n,(2, .v (.int .u64 ((p:Nat):Int))),(6, .v (.int .i64 0)),(7, .v (.int .u64 0)),(8, .v (.int .i64 ((r:Nat):Int))),(9, .v (.int .u64 (((d1 * y) % p:Nat):Int))),(10, .v (.int .i64 ((col:Nat):Int))),eS1 12 (A1 r) m (C1 r),eS1 16 (A1 i) m (C1 i),(17, .v (.int .u64 ((f:Nat):Int))),(18, .v (.int .i64 ((e:Nat):Int))),(19, .v (.int .i64 ((cols:Nat):Int))),(20, .v (.int .i64 ((col:Nat):Int))),(99, .v (.slice B (n - (r + 1)) (n - (r + 1)))),(100, .v (.int .i64 ((n - (r + 1):Nat):Int))),(101, .v (.int .i64 ((q:Nat):Int)))] [] ?_
         refine xe (Zbr (Zaa (Zab (xr 2 [eS1 0 (some ⟨b,0,none⟩) n n,(2, .v (.int .u64 ((p:Nat):Int))),(6, .v (.int .i64 0)),(7, .v (.int .u64 0)),(8, .v (.int .i64 ((r:Nat):Int))),(9, .v (.int .u64 (((d1 * y) % p:Nat):Int))),(10, .v (.int .i64 ((col:Nat):Int))),eS1 12 (A1 r) m (C1 r),eS1 16 (A1 i) m (C1 i),(17, .v (.int .u64 ((f:Nat):Int))),(18, .v (.int .i64 ((e:Nat):Int))),(19, .v (.int .i64 ((cols:Nat):Int))),(20, .v (.int .i64 ((col:Nat):Int))),(99, .v (.slice B (n - (r + 1)) (n - (r + 1)))),(100, .v (.int .i64 ((n - (r + 1):Nat):Int))),(101, .v (.int .i64 ((q:Nat):Int))),(123, .v (.int .i64 (IntKind.i64.wrap (((e:Nat):Int) + 1))))] [] ?_))))
         rw [Zbh (k:=e) (by omega)]
         refine xr 1 [eS1 0 (some ⟨b,0,none⟩) n n,(2, .v (.int .u64 ((p:Nat):Int))),(6, .v (.int .i64 0)),(7, .v (.int .u64 0)),(8, .v (.int .i64 ((r:Nat):Int))),(9, .v (.int .u64 (((d1 * y) % p:Nat):Int))),(10, .v (.int .i64 ((col:Nat):Int))),eS1 12 (A1 r) m (C1 r),eS1 16 (A1 i) m (C1 i),(17, .v (.int .u64 ((f:Nat):Int))),(18, .v (.int .i64 ((e + 1:Nat):Int))),(19, .v (.int .i64 ((cols:Nat):Int))),(20, .v (.int .i64 ((col:Nat):Int))),(99, .v (.slice B (n - (r + 1)) (n - (r + 1)))),(100, .v (.int .i64 ((n - (r + 1):Nat):Int))),(101, .v (.int .i64 ((q:Nat):Int)))] [] ?_
         refine xe ?_
         refine SXq.weak [(0, .v (.slice (some ⟨b,0,none⟩) n n)),(2, .v (.int .u64 ((p:Nat):Int))),(6, .v (.int .i64 0)),(7, .v (.int .u64 0)),(8, .v (.int .i64 ((r:Nat):Int))),(9, .v (.int .u64 (((d1 * y) % p:Nat):Int))),(10, .v (.int .i64 ((col:Nat):Int))),(12, .v (.slice (A1 r) m (C1 r))),(16, .v (.slice (A1 i) m (C1 i))),(17, .v (.int .u64 ((f:Nat):Int))),(18, .v (.int .i64 (((e + 1):Nat):Int))),(19, .v (.int .i64 ((cols:Nat):Int))),(20, .v (.int .i64 ((col:Nat):Int))),(99, .v (.slice B (n - (r + 1)) (n - (r + 1)))),(100, .v (.int .i64 ((n - (r + 1):Nat):Int))),(101, .v (.int .i64 ((q:Nat):Int)))] [] (Ψ:=fun w=>MU w b n (A1) (C1) (upF (addR col p m r X1 F q) i (addP col f p (X1 i) F (e + 1)))) (ZaA.of (by kernel_rfl)) (by kernel_rfl) (fun w Q=>Q) ?_
         exact Za0 ((m - (e + 1))) (by omega) ⟨(e + 1),rfl,rfl,(by omega),(by omega),rfl⟩
        ·have hf0:=ZnX hb17
         refine Zbf (Zaj (Zaj (Zbv (Zbr (Zaa ?_)))))
         have hrow:addP col f p (X1 i) F e=addP col f p (X1 i) F m:=(by rw [hf0,Zjq (hB1.lt i hin),Zjq (hB1.lt i hin)])
         refine Zab (xr 1 [eS1 0 (some ⟨b,0,none⟩) n n,(2, .v (.int .u64 ((p:Nat):Int))),(6, .v (.int .i64 0)),(7, .v (.int .u64 0)),(8, .v (.int .i64 ((r:Nat):Int))),(9, .v (.int .u64 (((d1 * y) % p:Nat):Int))),(10, .v (.int .i64 ((col:Nat):Int))),eS1 12 (A1 r) m (C1 r),(19, .v (.int .i64 ((cols:Nat):Int))),(20, .v (.int .i64 ((col:Nat):Int))),(99, .v (.slice B (n - (r + 1)) (n - (r + 1)))),(100, .v (.int .i64 ((n - (r + 1):Nat):Int))),(101, .v (.int .i64 ((q:Nat):Int))),(140, .v (.int .i64 (IntKind.i64.wrap (((q:Nat):Int) + 1))))] [] ?_)
         rw [Zbh (k:=q) (by omega)]
         refine xr 1 [eS1 0 (some ⟨b,0,none⟩) n n,(2, .v (.int .u64 ((p:Nat):Int))),(6, .v (.int .i64 0)),(7, .v (.int .u64 0)),(8, .v (.int .i64 ((r:Nat):Int))),(9, .v (.int .u64 (((d1 * y) % p:Nat):Int))),(10, .v (.int .i64 ((col:Nat):Int))),eS1 12 (A1 r) m (C1 r),(19, .v (.int .i64 ((cols:Nat):Int))),(20, .v (.int .i64 ((col:Nat):Int))),(99, .v (.slice B (n - (r + 1)) (n - (r + 1)))),(100, .v (.int .i64 ((n - (r + 1):Nat):Int))),(101, .v (.int .i64 ((q + 1:Nat):Int)))] [] ?_
         refine xe ?_
         refine SXq.weak [(0, .v (.slice (some ⟨b,0,none⟩) n n)),(2, .v (.int .u64 ((p:Nat):Int))),(6, .v (.int .i64 0)),(7, .v (.int .u64 0)),(8, .v (.int .i64 ((r:Nat):Int))),(9, .v (.int .u64 (((d1 * y) % p:Nat):Int))),(10, .v (.int .i64 ((col:Nat):Int))),(12, .v (.slice (A1 r) m (C1 r))),(19, .v (.int .i64 ((cols:Nat):Int))),(20, .v (.int .i64 ((col:Nat):Int))),(99, .v (.slice B (n - (r + 1)) (n - (r + 1)))),(100, .v (.int .i64 ((n - (r + 1):Nat):Int))),(101, .v (.int .i64 (((q + 1):Nat):Int)))] [] (Ψ:=fun w=>MU w b n (A1) (C1) (addR col p m r X1 F (q + 1))) (ZaA.of (by kernel_rfl)) (by kernel_rfl) (fun w Q=>(by rw [← Zjr hi hu,hf,← hrow]; exact Q)) ?_
         exact Za0 ((n - (r + 1) - (q + 1))) (by omega) ⟨(q + 1),rfl,rfl,(by omega),rfl⟩
       ·rw [hb16]
        have hem:m≤e:=by have:=of_decide_eq_false hb16; omega
        refine xr 3 [eS1 0 (some ⟨b,0,none⟩) n n,(2, .v (.int .u64 ((p:Nat):Int))),(6, .v (.int .i64 0)),(7, .v (.int .u64 0)),(8, .v (.int .i64 ((r:Nat):Int))),(9, .v (.int .u64 (((d1 * y) % p:Nat):Int))),(10, .v (.int .i64 ((col:Nat):Int))),eS1 12 (A1 r) m (C1 r),eS1 16 (A1 i) m (C1 i),(17, .v (.int .u64 ((f:Nat):Int))),(18, .v (.int .i64 ((e:Nat):Int))),(19, .v (.int .i64 ((cols:Nat):Int))),(20, .v (.int .i64 ((col:Nat):Int))),(99, .v (.slice B (n - (r + 1)) (n - (r + 1)))),(100, .v (.int .i64 ((n - (r + 1):Nat):Int))),(101, .v (.int .i64 ((q:Nat):Int))),(121, .v (.bool false))] [] ?_
        refine xe (Zaa (xb (Zbf (Zaj (Zaj (Zbv (Zbr (Zaa ?_))))))))
        have hrow:addP col f p (X1 i) F e=addP col f p (X1 i) F m:=(by rw [Zmu (j:=e) (i:=m) (by rw [hB1.len i hin]; exact hem) (by rw [hB1.len i hin]; exact Nat.le_refl _)])
        refine Zab (xr 1 [eS1 0 (some ⟨b,0,none⟩) n n,(2, .v (.int .u64 ((p:Nat):Int))),(6, .v (.int .i64 0)),(7, .v (.int .u64 0)),(8, .v (.int .i64 ((r:Nat):Int))),(9, .v (.int .u64 (((d1 * y) % p:Nat):Int))),(10, .v (.int .i64 ((col:Nat):Int))),eS1 12 (A1 r) m (C1 r),(19, .v (.int .i64 ((cols:Nat):Int))),(20, .v (.int .i64 ((col:Nat):Int))),(99, .v (.slice B (n - (r + 1)) (n - (r + 1)))),(100, .v (.int .i64 ((n - (r + 1):Nat):Int))),(101, .v (.int .i64 ((q:Nat):Int))),(140, .v (.int .i64 (IntKind.i64.wrap (((q:Nat):Int) + 1))))] [] ?_)
        rw [Zbh (k:=q) (by omega)]
        refine xr 1 [eS1 0 (some ⟨b,0,none⟩) n n,(2, .v (.int .u64 ((p:Nat):Int))),(6, .v (.int .i64 0)),(7, .v (.int .u64 0)),(8, .v (.int .i64 ((r:Nat):Int))),(9, .v (.int .u64 (((d1 * y) % p:Nat):Int))),(10, .v (.int .i64 ((col:Nat):Int))),eS1 12 (A1 r) m (C1 r),(19, .v (.int .i64 ((cols:Nat):Int))),(20, .v (.int .i64 ((col:Nat):Int))),(99, .v (.slice B (n - (r + 1)) (n - (r + 1)))),(100, .v (.int .i64 ((n - (r + 1):Nat):Int))),(101, .v (.int .i64 ((q + 1:Nat):Int)))] [] ?_
        refine xe ?_
        refine SXq.weak [(0, .v (.slice (some ⟨b,0,none⟩) n n)),(2, .v (.int .u64 ((p:Nat):Int))),(6, .v (.int .i64 0)),(7, .v (.int .u64 0)),(8, .v (.int .i64 ((r:Nat):Int))),(9, .v (.int .u64 (((d1 * y) % p:Nat):Int))),(10, .v (.int .i64 ((col:Nat):Int))),(12, .v (.slice (A1 r) m (C1 r))),(19, .v (.int .i64 ((cols:Nat):Int))),(20, .v (.int .i64 ((col:Nat):Int))),(99, .v (.slice B (n - (r + 1)) (n - (r + 1)))),(100, .v (.int .i64 ((n - (r + 1):Nat):Int))),(101, .v (.int .i64 (((q + 1):Nat):Int)))] [] (Ψ:=fun w=>MU w b n (A1) (C1) (addR col p m r X1 F (q + 1))) (ZaA.of (by kernel_rfl)) (by kernel_rfl) (fun w Q=>(by rw [← Zjr hi hu,hf,← hrow]; exact Q)) ?_
        exact Za0 ((n - (r + 1) - (q + 1))) (by omega) ⟨(q + 1),rfl,rfl,(by omega),rfl⟩
      ·have hqn:n - (r + 1)≤q:=by have:=of_decide_eq_false hb15; omega
       refine Zbf (Zaj (Zaj (Zbv (Zaa (Zab (xr 2 [eS1 0 (some ⟨b,0,none⟩) n n,(2, .v (.int .u64 ((p:Nat):Int))),(6, .v (.int .i64 0)),(7, .v (.int .u64 0)),(8, .v (.int .i64 ((r:Nat):Int))),(9, .v (.int .u64 (((d1 * y) % p:Nat):Int))),(19, .v (.int .i64 ((cols:Nat):Int))),(20, .v (.int .i64 ((col:Nat):Int))),(142, .v (.int .i64 (IntKind.i64.wrap (((r:Nat):Int) + 1))))] [] ?_))))))
       rw [Zbh (k:=r) (by omega)]
       refine xr 1 [eS1 0 (some ⟨b,0,none⟩) n n,(2, .v (.int .u64 ((p:Nat):Int))),(6, .v (.int .i64 0)),(7, .v (.int .u64 0)),(8, .v (.int .i64 ((r + 1:Nat):Int))),(9, .v (.int .u64 (((d1 * y) % p:Nat):Int))),(19, .v (.int .i64 ((cols:Nat):Int))),(20, .v (.int .i64 ((col:Nat):Int)))] [] ?_
       refine xe (Zbr (Zaa (Zab (xr 1 [eS1 0 (some ⟨b,0,none⟩) n n,(2, .v (.int .u64 ((p:Nat):Int))),(6, .v (.int .i64 0)),(7, .v (.int .u64 0)),(8, .v (.int .i64 ((r + 1:Nat):Int))),(9, .v (.int .u64 (((d1 * y) % p:Nat):Int))),(19, .v (.int .i64 ((cols:Nat):Int))),(20, .v (.int .i64 ((col:Nat):Int))),(143, .v (.int .i64 (IntKind.i64.wrap (((col:Nat):Int) + 1))))] [] ?_))))
       rw [Zbh (k:=col) (by omega)]
       refine xr 1 [eS1 0 (some ⟨b,0,none⟩) n n,(2, .v (.int .u64 ((p:Nat):Int))),(6, .v (.int .i64 0)),(7, .v (.int .u64 0)),(8, .v (.int .i64 ((r + 1:Nat):Int))),(9, .v (.int .u64 (((d1 * y) % p:Nat):Int))),(19, .v (.int .i64 ((cols:Nat):Int))),(20, .v (.int .i64 ((col + 1:Nat):Int)))] [] ?_
       refine xe ?_
       refine SXq.weak [(0, .v (.slice (some ⟨b,0,none⟩) n n)),(2, .v (.int .u64 ((p:Nat):Int))),(6, .v (.int .i64 0)),(7, .v (.int .u64 0)),(8, .v (.int .i64 (((r + 1):Nat):Int))),(9, .v (.int .u64 (((d1 * y % p):Nat):Int))),(19, .v (.int .i64 ((cols:Nat):Int))),(20, .v (.int .i64 (((col + 1):Nat):Int)))] [] (Ψ:=fun w=>MU w b n (A1) (C1) ((addR col p m r X1 F (n - (r + 1))))) (ZaA.of (by kernel_rfl)) (by kernel_rfl) (fun w Q=>(by rw [(show n - (r + 1)=q by omega)]; exact Q)) ?_
       exact Za0 ((cols - (col + 1))) (by omega) ⟨A1,C1,(addR col p m r X1 F (n - (r + 1))),(r + 1),(d1 * y % p),(col + 1),rfl,rfl,(hR.snoc (.some k X1 d1 y F hk hkk hz hne hX1 hd1 hy hF)),(ElStep.bd (by omega) hB (c:=col) (.some k X1 d1 y F hk hkk hz hne hX1 hd1 hy hF)),hA1,(by omega),rfl⟩
   ·refine Zap (Zbr (Zaa (Zab (xr 2 [eS1 0 (some ⟨b,0,none⟩) n n,(2, .v (.int .u64 ((p:Nat):Int))),(6, .v (.int .i64 0)),(7, .v (.int .u64 0)),(8, .v (.int .i64 ((r:Nat):Int))),(9, .v (.int .u64 ((d:Nat):Int))),(10, .v (.int .i64 ((col:Nat):Int))),(11, .v (.int .i64 ((k:Nat):Int))),(19, .v (.int .i64 ((cols:Nat):Int))),(20, .v (.int .i64 ((col:Nat):Int))),(25, .v (.int .i64 (IntKind.i64.wrap (((k:Nat):Int) + 1))))] [] ?_))))
    rw [Zbh (k:=k) (by omega)]
    refine xr 1 [eS1 0 (some ⟨b,0,none⟩) n n,(2, .v (.int .u64 ((p:Nat):Int))),(6, .v (.int .i64 0)),(7, .v (.int .u64 0)),(8, .v (.int .i64 ((r:Nat):Int))),(9, .v (.int .u64 ((d:Nat):Int))),(10, .v (.int .i64 ((col:Nat):Int))),(11, .v (.int .i64 ((k + 1:Nat):Int))),(19, .v (.int .i64 ((cols:Nat):Int))),(20, .v (.int .i64 ((col:Nat):Int)))] [] ?_
    refine xe ?_
    refine SXq.weak [(0, .v (.slice (some ⟨b,0,none⟩) n n)),(2, .v (.int .u64 ((p:Nat):Int))),(6, .v (.int .i64 0)),(7, .v (.int .u64 0)),(8, .v (.int .i64 ((r:Nat):Int))),(9, .v (.int .u64 ((d:Nat):Int))),(10, .v (.int .i64 ((col:Nat):Int))),(11, .v (.int .i64 (((k + 1):Nat):Int))),(19, .v (.int .i64 ((cols:Nat):Int))),(20, .v (.int .i64 ((col:Nat):Int)))] [] (Ψ:=fun w=>MU w b n (A) (C) (X)) (ZaA.of (by kernel_rfl)) (by kernel_rfl) (fun w Q=>Q) ?_
    exact Za0 ((n - (k + 1))) (by omega) ⟨(k + 1),rfl,rfl,(by omega),(by omega),(fun i h1 h2=>by rcases Nat.lt_or_ge i k with h3 | h3; exact hz i h1 h3; obtain rfl:i=k:=(by omega); rw [hx]; exact ZnX hb12),rfl⟩
 ·have hcol:cols≤col:=by have:=of_decide_eq_false hb10; omega
  refine Zbf (Zaj (Zaj (Zbv (Zaa (Zac (Zab (xr 4 [(6, .v (.int .i64 ((r:Nat):Int))),(7, .v (.int .u64 ((d:Nat):Int)))] [] ?_)))))))
  refine xe (Zaa (Zaw ?_))
  refine Zks ?_
  refine Zaq (v:=.tuple #[.int .i64 ((r:Nat):Int), .int .u64 ((d:Nat):Int)]) (by kernel_rfl) (fun w' R Q=>?_)
  exact ⟨r,d,A,C,X,rfl,R,(by obtain rfl:col=cols:=(by omega); exact hR),hB,hA,Q⟩
end Go.Proofs.YthlipnahcbcjkaaGreatDoor

namespace Go.Proofs.YthlipnahcbcjkaaGreatDoor
open Go.RowKit
structure ArgI (w:World) (A0:Option Addr) (n:Nat) (R:Nat→Option Addr) (C:Nat→Nat) (Z:Nat→List Int):Prop where
 top:0 < n→∃ b off,A0=some ⟨b,off,none⟩∧b < w.heap.size∧∀ i,i < n→w.cell? ⟨b,off + i,none⟩=some (.slice (R i) (Z i).length (C i))
 row:∀ i,i < n→Zan w (R i) (Z i)
 i64:∀ i,i < n→Zen (Z i)
section
variable {P:Program} {o:Oper} {ρ:Operand→Value} {w w':World} {t e:TypeId} {x ix:Operand} {A0:Option Addr} {n l cap i j:Nat} {R:Nat→Option Addr} {C:Nat→Nat} {Z:Nat→List Int}
theorem ArgI.ext (h:ArgI w A0 n R C Z) (hf:Ext w w'):ArgI w' A0 n R C Z :=
 ⟨fun hn=>by
  obtain ⟨b,off,h1,hb,hc⟩:=h.top hn
  exact ⟨b,off,h1,Nat.lt_of_lt_of_le hb hf.size,fun i hi=>(hf.cell (p:=⟨b,off + i,none⟩) hb (fun f=>f)).trans (hc i hi)⟩,fun i hi=>(h.row i hi).ext hf,h.i64⟩
theorem ZeT (h:ArgI w A0 n R C Z) (hi:i < n) (ho:o.op=Op.indexAddr t x ix:=by kernel_rfl) (ht:P.underlying t=some (.slice e):=by kernel_rfl) (hs:(P.info? e).map (fun i=>i.size)=some 1:=by kernel_rfl)
 (hx:ρ x=.slice A0 n cap:=by kernel_rfl) (hix:ρ ix=.int .i64 ((i:Nat):Int):=by kernel_rfl):(execOp ρ o).run P w=.ok (.value (atA A0 i)) w:=by
 obtain ⟨b,off,h1,_⟩:=h.top (by omega)
 exact ZeO (by rw [h1]; exact fun e=>by cases e) hi ho ht hs hx hix
theorem ZeU (h:ArgI w A0 n R C Z) (hi:i < n) (hl:(Z i).length=l) (ho:o.op=Op.load t x:=by kernel_rfl) (hx:ρ x=atA A0 i:=by kernel_rfl) (ha:(teOf P t).map (fun e=>e.agg)=some false:=by kernel_rfl) :
 (execOp ρ o).run P w=.ok (.value (.slice (R i) l (C i))) w:=by
 obtain ⟨b,off,h1,_,h2⟩:=h.top (by omega)
 subst hl
 exact ZgF (h2 i hi) ho (by rw [hx,h1,atA,Option.map_some,Zch]) ha
theorem ZfF {A:Option Addr} {zs:List Int} (h:Zan w A zs) (hl:zs.length=l) (hj:j < l) (ho:o.op=Op.indexAddr t x ix:=by kernel_rfl) (ht:P.underlying t=some (.slice e):=by kernel_rfl) (hs:(P.info? e).map (fun i=>i.size)=some 1:=by kernel_rfl)
 (hx:ρ x=.slice A l cap:=by kernel_rfl) (hix:ρ ix=.int .i64 ((j:Nat):Int):=by kernel_rfl):(execOp ρ o).run P w=.ok (.value (atA A j)) w:=by
 obtain ⟨b,off,h1,_⟩:=h (fun e=>by rw [e] at hl; simp at hl; omega)
 exact ZeO (by rw [h1]; exact fun e=>by cases e) hj ho ht hs hx hix
theorem ZfG {A:Option Addr} {zs:List Int} {z:Int} (h:Zan w A zs) (hj:j < zs.length) (hz:zs.getD j 0=z) (ho:o.op=Op.load t x:=by kernel_rfl) (hx:ρ x=atA A j:=by kernel_rfl) (ha:(teOf P t).map (fun e=>e.agg)=some false:=by kernel_rfl) :
 (execOp ρ o).run P w=.ok (.value (.int .i64 z)) w:=by
 obtain ⟨b,off,h1,_,h2⟩:=h (fun e=>by rw [e] at hj; simp at hj)
 rw [← hz]
 exact ZgF (h2 j hj) ho (by rw [hx,h1,atA,Option.map_some,Zch]) ha
end
theorem Zk1 (p:Int) (w:World) {b:Bool} (h:prB p=b):Calls Tryz.prog 126 #[.int .i64 p] w (RetV w (.bool b)):=by
 rw [← h]; exact (Zfg p w).mono (fun _ _ ⟨h1,h2⟩=>⟨h1,by rw [h2]; exact Fr.refl _ _⟩)
inductive ChkIs (n:Nat) (Z:Nat→List Int) (p:Int) (sq:Bool):Int→Prop
 | bad (h:prB p=false):ChkIs n Z p sq 1
 | empty (h:prB p=true) (hn:n=0):ChkIs n Z p sq 4
 | zero (h:prB p=true) (hn:0 < n) (hz:(Z 0).length=0):ChkIs n Z p sq 4
 | nosq (h:prB p=true) (hn:0 < n) (hz:(Z 0).length≠0) (hs:sq=true) (hs2:(Z 0).length≠n):ChkIs n Z p sq 4
 | uneven (i:Nat) (h:prB p=true) (hn:0 < n) (hz:(Z 0).length≠0) (hs:sq=true→(Z 0).length=n) (hi:i < n) (hne:(Z i).length≠(Z 0).length):ChkIs n Z p sq 4
 | limit (h:prB p=true) (hn:0 < n) (hz:(Z 0).length≠0) (hs:sq=true→(Z 0).length=n) (he:∀ i,i < n→(Z i).length=(Z 0).length) (hl:64 < n∨64 < (Z 0).length):ChkIs n Z p sq 2
 | ok (h:prB p=true) (hn:0 < n) (hz:(Z 0).length≠0) (hs:sq=true→(Z 0).length=n) (he:∀ i,i < n→(Z i).length=(Z 0).length) (hl:n≤64) (hl2:(Z 0).length≤64):ChkIs n Z p sq 0
def ZmC (w:World) (n:Nat) (Z:Nat→List Int) (p:Int) (sq:Bool) (e:Ending) (w':World):Prop:=∃ c:Int,e=.returned (.int .i64 c)∧ChkIs n Z p sq c∧Ext w w'
theorem Zkz {w w':World} {n:Nat} {Z:Nat→List Int} {p:Int} {sq:Bool} {e:Ending} (h:ZmC w n Z p sq e w'):ZcP (fun c:{c:Int // ChkIs n Z p sq c}=>.int .i64 c.1) (fun _ _=>True) w e w':=by
 obtain ⟨c,rfl,h1,Q⟩:=h
 exact ⟨⟨c,h1⟩,rfl,Q,BoxN.pure trivial⟩
theorem z_eq {n:Nat} (h:(((n:Nat):Int) == 0)=true):n=0:=by have:=eq_of_beq h; omega
theorem z_ne {n:Nat} (h:(((n:Nat):Int) == 0)=false):n≠0:=fun e=>by subst e; simp at h
theorem ZkA (A0:Option Addr) (n c0:Nat) (R:Nat→Option Addr) (C:Nat→Nat) (Z:Nat→List Int) (p:Int) (w:World) (ha:ArgI w A0 n R C Z) (hn1:n≤100000) :
 Calls Tryz.prog 59 #[.slice A0 n c0, .int .i64 p, .bool true] w (ZmC w n Z p true):=by
 obtain ⟨pb,hpb⟩:∃ b,prB p=b:=⟨_,rfl⟩
 refine Zc0 (Φ:=fun w=>ArgI w A0 n R C Z) Tryz.func59 rfl (by kernel_rfl) (fun w' hf=>ha.ext hf) ?_
 refine Zac (Zab (xr 1 [eS1 0 A0 n c0,(1, .v (.int .i64 p)),(2, .v (.bool true)),(6, .v (.int .i64 0))] [] ?_))
 refine xe (Zaa (Zac (Zac (Zab (xr 1 [eS1 0 A0 n c0,(2, .v (.bool true)),(6, .v (.int .i64 0)),(10, .v (.int .i64 p))] [] ?_)))))
 refine xc 126 [.int .i64 p] 11 (fun _:Unit=>.bool pb) _ (fun w S Q=>(Zk1 p _ hpb).mono (fun _ _ h=>Zau h rfl)) (fun xx=>?_)
 rcases pb with _ | _
 ·refine xr 1 [eS1 0 A0 n c0,(2, .v (.bool true)),(6, .v (.int .i64 0)),(12, .v (.bool true))] [] ?_
  refine xe (Zaa (xa (Zac (Zab (xr 1 [eS1 0 A0 n c0,(2, .v (.bool true)),(6, .v (.int .i64 1))] [] ?_)))))
  refine xe (Zaa (Zaw (Zam ?_)))
  refine Zaq (v:=.int .i64 1) (by kernel_rfl) (fun w' S Q=>?_)
  exact ⟨_,rfl, .bad hpb,S⟩
 ·refine xr 1 [eS1 0 A0 n c0,(2, .v (.bool true)),(6, .v (.int .i64 0)),(12, .v (.bool false))] [] ?_
  refine xe (Zaa (xb (Zap (Zaa (Zac (Zac (Zab (xr 3 [eS1 0 A0 n c0,(2, .v (.bool true)),(6, .v (.int .i64 0)),(15, .v (.bool ((((n:Nat):Int):Int) == 0)))] [] ?_))))))))
  refine xe (Zaa ?_)
  refine Zax (((((n:Nat):Int):Int) == 0)) (by kernel_rfl) (fun hb10=>?_) (fun hb10=>?_)
  ·have hn:n=0:=z_eq hb10
   refine Zac (Zab (xr 1 [eS1 0 A0 n c0,(2, .v (.bool true)),(6, .v (.int .i64 4))] [] ?_))
   refine xe (Zaa (Zaw (Zam ?_)))
   refine Zaq (v:=.int .i64 4) (by kernel_rfl) (fun w' S Q=>?_)
   exact ⟨_,rfl, .empty hpb hn,S⟩
  ·have hn:n≠0:=z_ne hb10
   refine Zap (Zaa (Zac (Zab (xr 1 [eS1 0 A0 n c0,(2, .v (.bool true)),(6, .v (.int .i64 0)),eS1 16 A0 n c0] [] ?_))))
   refine xk 17 (atA A0 0) (fun w hE' Q=>ZeT (t:=22) (e:=23) (x:=.tmp 16) (ix:=(.const (.int .i64 0))) (i:=0) (cap:=c0) Q.1 (by omega)) ?_
   refine xk 18 (.slice (R 0) (Z 0).length (C 0)) (fun w hE' Q=>ZeU (t:=23) (x:=.tmp 17) (i:=0) Q.1 (by omega) rfl) ?_
   refine xr 2 [eS1 0 A0 n c0,(2, .v (.bool true)),(6, .v (.int .i64 0)),(7, .v (.int .i64 (((Z 0).length:Nat):Int)))] [] ?_
   refine xe (Zaa (Zac (Zac (Zab (xr 3 [eS1 0 A0 n c0,(2, .v (.bool true)),(6, .v (.int .i64 0)),(7, .v (.int .i64 (((Z 0).length:Nat):Int))),(22, .v (.bool (((((Z 0).length:Nat):Int):Int) == 0)))] [] ?_)))))
   rcases bl2 ((((((Z 0).length:Nat):Int):Int) == 0)) with hb11 | hb11
   ·rw [hb11]
    have hz:(Z 0).length=0:=z_eq hb11
    refine xr 8 [eS1 0 A0 n c0,(6, .v (.int .i64 0)),(7, .v (.int .i64 (((Z 0).length:Nat):Int))),(30, .v (.bool true))] [] ?_
    refine xe (Zaa (xa (Zac (Zab (xr 1 [eS1 0 A0 n c0,(6, .v (.int .i64 4)),(7, .v (.int .i64 (((Z 0).length:Nat):Int)))] [] ?_)))))
    refine xe (Zaa (Zaw (Zam ?_)))
    refine Zaq (v:=.int .i64 4) (by kernel_rfl) (fun w' S Q=>?_)
    exact ⟨_,rfl, .zero hpb (by omega) hz,S⟩
   ·rw [hb11]
    have hz:(Z 0).length≠0:=z_ne hb11
    refine xr 8 [eS1 0 A0 n c0,(6, .v (.int .i64 0)),(7, .v (.int .i64 (((Z 0).length:Nat):Int))),(30, .v (.bool (((((Z 0).length:Nat):Int):Int) != ((n:Nat):Int))))] [] ?_
    refine xe (Zaa ?_)
    refine Zax ((((((Z 0).length:Nat):Int):Int) != ((n:Nat):Int))) (by kernel_rfl) (fun hb12=>?_) (fun hb12=>?_)
    ·have hs2:=ZeP hb12
     refine Zac (Zab (xr 1 [eS1 0 A0 n c0,(6, .v (.int .i64 4)),(7, .v (.int .i64 (((Z 0).length:Nat):Int)))] [] ?_))
     refine xe (Zaa (Zaw (Zam ?_)))
     refine Zaq (v:=.int .i64 4) (by kernel_rfl) (fun w' S Q=>?_)
     exact ⟨_,rfl, .nosq hpb (by omega) hz rfl hs2,S⟩
    ·have hs2:=ZeQ hb12
     refine Zap (Zaa (Zac (Zac (Zab (xr 3 [eS1 0 A0 n c0,(6, .v (.int .i64 0)),(7, .v (.int .i64 (((Z 0).length:Nat):Int))),eS1 31 A0 n c0,(32, .v (.int .i64 ((n:Nat):Int))),(33, .v (.int .i64 0))] [] ?_)))))
     refine xe (Zaa (Zar ?_))
     refine SXc.weak [(0, .v (.slice A0 n c0)),(6, .v (.int .i64 0)),(7, .v (.int .i64 (((Z 0).length:Nat):Int))),(31, .v (.slice A0 n c0)),(32, .v (.int .i64 ((n:Nat):Int))),(33, .v (.int .i64 ((0:Nat):Int)))] [] (Ψ:=fun w=>ArgI w A0 n R C Z) (ZaA.of (by kernel_rfl)) (by kernel_rfl) (fun w Q=>Q.1) ?_
     refine Zbs (fun nn ss ff=>∃ (k:Nat),ss=ofL [(0, .v (.slice A0 n c0)),(6, .v (.int .i64 0)),(7, .v (.int .i64 (((Z 0).length:Nat):Int))),(31, .v (.slice A0 n c0)),(32, .v (.int .i64 ((n:Nat):Int))),(33, .v (.int .i64 ((k:Nat):Int)))] []∧ff=(fun w=>ArgI w A0 n R C Z)∧(k≤n)∧(∀ i,i < k→(Z i).length=(Z 0).length)∧nn=(n - k)) ((n - 0)) ⟨0,rfl,rfl,Nat.zero_le _,fun i hi=>absurd hi (by omega),rfl⟩ ?_
     rintro nn ss ff ⟨k,rfl,rfl,hk,hev,rfl⟩
     refine Zac (Zab (xr 1 [eS1 0 A0 n c0,(6, .v (.int .i64 0)),(7, .v (.int .i64 (((Z 0).length:Nat):Int))),eS1 31 A0 n c0,(32, .v (.int .i64 ((n:Nat):Int))),(33, .v (.int .i64 ((k:Nat):Int))),(34, .v (.bool (decide (((k:Nat):Int) < ((n:Nat):Int)))))] [] ?_))
     refine xe (Zaa (Zac ?_))
     refine Zax ((decide (((k:Nat):Int) < ((n:Nat):Int)))) (by kernel_rfl) (fun hb13=>?_) (fun hb13=>?_)
     ·have hkn:k < n:=by have:=of_decide_eq_true hb13; omega
      refine Zap (Zaa (Zac (Zar (Zac (Zab ?_)))))
      refine xk 35 (atA A0 k) (fun w hE' Q=>ZeT (t:=22) (e:=23) (x:=.tmp 31) (ix:=(.tmp 33)) (i:=k) (cap:=c0) Q (by omega)) ?_
      refine xk 36 (.slice (R k) (Z k).length (C k)) (fun w hE' Q=>ZeU (t:=23) (x:=.tmp 35) (i:=k) Q (by omega) rfl) ?_
      refine xr 1 [eS1 0 A0 n c0,(6, .v (.int .i64 0)),(7, .v (.int .i64 (((Z 0).length:Nat):Int))),(9, .v (.slice (R k) (Z k).length (C k))),eS1 31 A0 n c0,(32, .v (.int .i64 ((n:Nat):Int))),(33, .v (.int .i64 ((k:Nat):Int)))] [] ?_
      refine xe (Zaa (Zac (Zab (xr 4 [eS1 0 A0 n c0,(6, .v (.int .i64 0)),(7, .v (.int .i64 (((Z 0).length:Nat):Int))),eS1 31 A0 n c0,(32, .v (.int .i64 ((n:Nat):Int))),(33, .v (.int .i64 ((k:Nat):Int))),(40, .v (.bool (((((Z k).length:Nat):Int):Int) != (((Z 0).length:Nat):Int))))] [] ?_))))
      refine xe (Zaa ?_)
      refine Zax ((((((Z k).length:Nat):Int):Int) != (((Z 0).length:Nat):Int))) (by kernel_rfl) (fun hb14=>?_) (fun hb14=>?_)
      ·have hk2:=ZeP hb14
       refine Zac (Zab (xr 1 [eS1 0 A0 n c0,(6, .v (.int .i64 4)),(7, .v (.int .i64 (((Z 0).length:Nat):Int))),eS1 31 A0 n c0,(32, .v (.int .i64 ((n:Nat):Int))),(33, .v (.int .i64 ((k:Nat):Int)))] [] ?_))
       refine xe (Zaa (Zaw (Zct (Zam (Zam (Zct (Zam ?_)))))))
       refine Zaq (v:=.int .i64 4) (by kernel_rfl) (fun w' S Q=>?_)
       exact ⟨_,rfl, .uneven k hpb (by omega) hz (fun _=>hs2) hkn hk2,S⟩
      ·have hk2:=ZeQ hb14
       refine Zap (Zbr (Zaa (Zab (xr 1 [eS1 0 A0 n c0,(6, .v (.int .i64 0)),(7, .v (.int .i64 (((Z 0).length:Nat):Int))),eS1 31 A0 n c0,(32, .v (.int .i64 ((n:Nat):Int))),(33, .v (.int .i64 ((k:Nat):Int))),(41, .v (.int .i64 (IntKind.i64.wrap (((k:Nat):Int) + 1))))] [] ?_))))
       rw [Zbh (k:=k) (by omega)]
       refine xr 1 [eS1 0 A0 n c0,(6, .v (.int .i64 0)),(7, .v (.int .i64 (((Z 0).length:Nat):Int))),eS1 31 A0 n c0,(32, .v (.int .i64 ((n:Nat):Int))),(33, .v (.int .i64 ((k + 1:Nat):Int)))] [] ?_
       refine xe ?_
       refine SXq.weak [(0, .v (.slice A0 n c0)),(6, .v (.int .i64 0)),(7, .v (.int .i64 (((Z 0).length:Nat):Int))),(31, .v (.slice A0 n c0)),(32, .v (.int .i64 ((n:Nat):Int))),(33, .v (.int .i64 (((k + 1):Nat):Int)))] [] (Ψ:=fun w=>ArgI w A0 n R C Z) (ZaA.of (by kernel_rfl)) (by kernel_rfl) (fun w Q=>Q) ?_
       exact Za0 ((n - (k + 1))) (by omega) ⟨(k + 1),rfl,rfl,(by omega),(fun i hi=>by rcases Nat.lt_or_ge i k with h3 | h3; exact hev i h3; obtain rfl:i=k:=(by omega); exact hk2),rfl⟩
     ·have hkn:n≤k:=by have:=of_decide_eq_false hb13; omega
      refine Zbf (Zaj (Zaj (Zbv (Zaa (Zac (Zac (Zab (xr 4 [(6, .v (.int .i64 0)),(7, .v (.int .i64 (((Z 0).length:Nat):Int))),(45, .v (.bool (decide (((n:Nat):Int) > 64))))] [] ?_))))))))
      rcases bl2 ((decide (((n:Nat):Int) > 64))) with hb15 | hb15
      ·rw [hb15]
       have hl1:64 < n:=by have:=of_decide_eq_true hb15; omega
       refine xr 3 [(6, .v (.int .i64 0)),(48, .v (.bool true))] [] ?_
       refine xe (Zaa (xa (Zac (Zab (xr 1 [(6, .v (.int .i64 2))] [] ?_)))))
       refine xe (Zaa (Zaw (Zam ?_)))
       refine Zaq (v:=.int .i64 2) (by kernel_rfl) (fun w' S Q=>?_)
       exact ⟨_,rfl, .limit hpb (by omega) hz (fun _=>hs2) (fun i hi=>hev i (by omega)) (Or.inl hl1),S⟩
      ·rw [hb15]
       have hl1:n≤64:=by have:=of_decide_eq_false hb15; omega
       refine xr 3 [(6, .v (.int .i64 0)),(48, .v (.bool (decide ((((Z 0).length:Nat):Int) > 64))))] [] ?_
       refine xe (Zaa ?_)
       refine Zax ((decide ((((Z 0).length:Nat):Int) > 64))) (by kernel_rfl) (fun hb16=>?_) (fun hb16=>?_)
       ·have hl2:64 < (Z 0).length:=by have:=of_decide_eq_true hb16; omega
        refine Zac (Zab (xr 1 [(6, .v (.int .i64 2))] [] ?_))
        refine xe (Zaa (Zaw (Zam ?_)))
        refine Zaq (v:=.int .i64 2) (by kernel_rfl) (fun w' S Q=>?_)
        exact ⟨_,rfl, .limit hpb (by omega) hz (fun _=>hs2) (fun i hi=>hev i (by omega)) (Or.inr hl2),S⟩
       ·have hl2:(Z 0).length≤64:=by have:=of_decide_eq_false hb16; omega
        refine Zap (Zaa (Zac (Zab (xr 1 [(6, .v (.int .i64 0))] [] ?_))))
        refine xe (Zaa (Zaw ?_))
        refine Zaq (v:=.int .i64 0) (by kernel_rfl) (fun w' S Q=>?_)
        exact ⟨_,rfl, .ok hpb (by omega) hz (fun _=>hs2) (fun i hi=>hev i (by omega)) hl1 hl2,S⟩
end Go.Proofs.YthlipnahcbcjkaaGreatDoor

namespace Go.Proofs.YthlipnahcbcjkaaGreatDoor
open Go.RowKit
end Go.Proofs.YthlipnahcbcjkaaGreatDoor

namespace Go.Proofs.YthlipnahcbcjkaaGreatDoor
open Go.RowKit
theorem ZmL {l:List UInt8} (hd:l.all ZaD=true) (hl:l.length≤570):wl (Zah l)≤30:=by
 rw [Zbq]
 have h1:=Zb1 l hd
 obtain ⟨k,hk⟩:∃ k,k=30:=⟨_,rfl⟩
 have h2:10 ^ l.length≤10 ^ (19 * k):=Nat.pow_le_pow_right (by omega) (by omega)
 rw [← hk]
 rw [Nat.pow_mul] at h2
 have h3:(10 ^ 19) ^ k≤W64 ^ k:=Nat.pow_le_pow_left (by rw [Zai]; decide) k
 exact Nat.lt_of_lt_of_le h1 (Nat.le_trans h2 h3)
theorem ZdN.of_len {l:List UInt8} (h:l.length≤570):ZdN l:=by
 refine ⟨h,fun neg num den hs _=>?_⟩
 obtain ⟨d1,d2,d3⟩:=Zdm hs
 have w1:=ZmL d1 (by omega)
 have w2:=ZmL d2 (by omega)
 have hn:(sg neg (Zah num)).natAbs=Zah num:=by unfold sg; split<;>omega
 exact Zc5.words (by rw [hn]; omega) (by rw [Int.natAbs_natCast]; omega)
end Go.Proofs.YthlipnahcbcjkaaGreatDoor

namespace Go.Proofs.YthlipnahcbcjkaaGreatDoor
open Go.RowKit
def ZbF (q:Rat):List UInt8:=if q.den=1 then Lib.itoa q.num else Lib.itoa q.num ++ [47] ++ Lib.itoa (q.den:Int)
set_option maxHeartbeats 2000000 in
theorem ZkD (a:Value) (q:Rat) (w:World) (hg:Glob w) (ha:ZaN w a q) (hn:ZbP q.num.natAbs) (hd:ZbP q.den) (h1:q.den≠1) (hl:(Lib.itoa q.num).length≤68719476736):Calls Tryz.prog 76 #[a] w (RetV w (.string ⟨(ZbF q).toArray⟩)):=by
 obtain ⟨s,t,A,B,l,c,l',c',rfl,hIn,hId⟩:=ha
 have hdf:denF q=(q.den:Int):=by unfold denF; rw [if_neg h1]
 have hd0:¬ denF q=0:=fun h=>h1 (Zdy.1 h)
 have HM:Hid (ZbF q=Lib.itoa q.num ++ [47] ++ Lib.itoa (q.den:Int)):=by unfold Hid ZbF; rw [if_neg h1]
 rw [hdf] at hId
 have HIn:=zh hIn
 have HId:=zh hId
 have HG:=zh hg
 have HPn:=zh hn
 have HPd:Hid (ZbP ((q.den:Int)).natAbs):=by unfold Hid; rw [Int.natAbs_natCast]; exact hd
 have hne:=Zlh (q.den:Int)
 rw [hdf] at hd0
 generalize hm:ZbF q=m at *
 have hmne:m≠[]:=by rw [HM.out]; simp
 generalize q.num=x at *
 generalize (q.den:Int)=y at *
 clear hg hn hd h1 hIn hId hdf hm hne
 go_enter Tryz.func76,Tryz.ntmps76
 go_wp2_with fail
 generalize hwb:World.alloc w _=wb
 obtain ⟨hB0,hE0⟩:=Blk.one hwb
 clear hwb
 refine (Zc4 _ y _ (HId.out.ext hE0)).mono ?_
 rw [decide_eq_false hd0]
 rintro e w1 ⟨rfl,hF1⟩
 have HB1:=zh (hB0.ext hF1)
 have HE1:=zh (hE0.trans hF1)
 obtain ⟨x0,x1,x2,x3,_,_,_,_⟩:=HB1.out.cell4
 clear hB0 hE0 hF1 hd0
 go_wp2_with fail
 refine (Zf2 _ x none 0 0 [] w1 _ (Fr.refl _ _) (HG.out.ext HE1.out) (HIn.out.ext HE1.out) HPn.out rfl Buf.nil ZbZ.nil (by omega)).mono ?_
 rw [List.nil_append]
 rintro e w2 ⟨A2,cap2,rfl,hT2,hF2,hA2⟩
 have hN2:ZbZ w1 A2:=(ZbZ.nil (w0:=w1)).next (Fr.refl _ _) hA2
 have hE2:Ext w1 w2:=(ZbZ.nil (w0:=w1)).ext (Fr.refl _ _) hF2
 have HT2:=zh hT2
 have HN2:=zh hN2
 have HE2:=zh hE2
 clear hT2 hF2 hA2 hN2 hE2 x0 x1 x2 x3
 obtain ⟨n,hnl⟩:∃ n,(Lib.itoa x).length=n:=⟨_,rfl⟩
 rw [hnl] at hl ⊢
 have HNL:=zh hnl
 clear hnl
 have HS:Hid (Zak .u8 (w2.alloc (.cells #[.int .u8 47] 5)) (some ⟨w2.heap.size,0,none⟩) (nats [47])):=(Own.new w2 5 .u8 [47] []).shows0
 go_wp2_with (at_builtin; refine Hid.out ?_)
 refine zh ?_
 refine Zat rfl _ _ _ rfl _ .u8 1 Tryz.underlying196 Zdo A2 (some ⟨w2.heap.size,0,none⟩) n 1 cap2 1 rfl rfl (nats (Lib.itoa x)) (nats [47]) (by rw [ZaJ]; exact HNL.out) rfl (HT2.out.ext ((Fr.refl _ _).alloc _)) HS.out (by simp only [maxLen]; omega) (by omega) ?_
 intro A3 cap3 w3 hB3 hF3 hA3
 have hE3:Ext w1 w3:=HN2.out.ext (HE2.out.alloc _) hF3
 have hN3:ZbZ w1 A3:=HN2.out.next (w:=w2) HE2.out (fun b hb=>(hA3 b hb).imp id (fun h=>by simp at h; omega))
 have hT3:TBuf w3 A3 cap3 (Lib.itoa x ++ [47]):=by show Buf _ _ _ _ _ (nats (Lib.itoa x ++ [47])); rw [ZcL]; exact hB3
 have HT3:=zh hT3
 have HN3:=zh hN3
 have HE3:=zh hE3
 have HB3:=zh (HB1.out.ext hE3)
 obtain ⟨x0,x1,x2,x3,_,_,_,_⟩:=HB3.out.cell4
 clear hB3 hF3 hA3 hE3 hN3 hT3
 go_wp2_with fail
 refine (Zf2 _ y A3 cap3 (n + 1) (Lib.itoa x ++ [47]) w1 _ HE3.out (HG.out.ext HE1.out) (HId.out.ext HE1.out) HPd.out (by rw [List.length_append,HNL.out]; rfl) HT3.out HN3.out (by omega)).mono ?_
 rw [← HM.out]
 rintro e w4 ⟨A4,cap4,rfl,hT4,hF4,hA4⟩
 have HE4:Hid (Ext w w4):=HE1.out.trans (HN3.out.ext HE3.out hF4)
 obtain ⟨b,rfl,hc⟩:=TBuf.bytes hT4 hmne
 have hcv:=run_convert_bytes_back (P:=Tryz.prog) w4 196 9 5 ⟨b,0,none⟩ cap4 m Tryz.underlying196 Tryz.underlying5 Tryz.underlying9 hc
 clear hT4 hF4 hA4 hc hmne x0 x1 x2 x3
 go_wp2
 go_ret
 exact ⟨rfl,HE4.out⟩
end Go.Proofs.YthlipnahcbcjkaaGreatDoor

namespace Go.Proofs.YthlipnahcbcjkaaGreatDoor
open Go.RowKit
set_option maxHeartbeats 2000000 in
theorem Zhe (a b:Value) (x y:Int) (w:World) (ha:Zaf w a x) (hb:Zaf w b y) (hx:Fits x) (hy:wl y.natAbs < 80) (h0:y≠0):Calls Tryz.prog 169 #[a,b] w (ZaX w (x.tdiv y)):=by
 obtain ⟨s,A,l,c,rfl⟩:=ha.shape
 obtain ⟨t,B,l',c',rfl⟩:=hb.shape
 have HA:=zh ha
 have HB:=zh hb
 have HX:=zh hx
 have HY:=zh hy
 have H0:=zh h0
 clear ha hb hx hy h0
 go_enter Tryz.func169,Tryz.ntmps169
 go_wp2_with fail
 generalize hwb:World.alloc (World.alloc (World.alloc w _) _) _=wb
 obtain ⟨hB0,hB1,hB2,Q⟩:=ZaL hwb
 clear hwb
 refine (Zbj _ y _ (HB.out.ext Q)).mono ?_
 by_cases h1:y=1
 ·rw [decide_eq_true h1]
  rintro e w1 ⟨rfl,hF⟩
  have HE:=zh (Q.trans hF)
  have HB0:=zh (hB0.ext hF)
  have HB2:=zh (hB2.ext hF)
  have HQ:Hid (x.tdiv y=x):=by unfold Hid; rw [h1]; exact Int.tdiv_one x
  obtain ⟨x0,x1,_,_⟩:=HB0.out.cell2
  obtain ⟨y0,y1,y2,y3⟩:=HB2.out.cell2
  clear Q hF hB0 hB1 hB2 h1
  go_wp2
  refine ZhN rfl rfl (by omega) HE.out HB2.out (Fr.refl _ _) ?_
  rw [HQ.out]; exact HA.out.ext HE.out
 ·rw [decide_eq_false h1]
  rintro e w1 ⟨rfl,hF⟩
  have HE:=zh (Q.trans hF)
  have HB0:=zh (hB0.ext hF)
  have HB1:=zh (hB1.ext hF)
  have HB2:=zh (hB2.ext hF)
  obtain ⟨x0,x1,_,_⟩:=HB0.out.cell2
  obtain ⟨z0,z1,_,_⟩:=HB1.out.cell2
  clear Q hF hB0 hB1 hB2 h1
  go_wp2_with fail
  refine (ZfO _ _ x y _ (HA.out.ext HE.out) (HB.out.ext HE.out) HX.out HY.out H0.out).mono ?_
  rintro e w2 ⟨u1,u2,rfl,hN1,hN2,hF1⟩
  obtain ⟨s1,A1,l1,c1,rfl⟩:=hN1.shape
  obtain ⟨s2,A2,l2,c2,rfl⟩:=hN2.shape
  have HN1:=zh hN1
  have HE2:=zh (HE.out.trans hF1)
  have HB2':=zh (HB2.out.ext hF1)
  obtain ⟨y0,y1,y2,y3⟩:=HB2'.out.cell2
  have hlt1:=HB2'.out.lt
  have hlt2:=Nat.lt_succ_of_lt hlt1
  clear hN1 hN2 hF1 x0 x1 z0 z1
  go_wp2
  have hB:=(HB2'.out.set_ 0 (.bool s1)).set_ 1 (.slice A1 l1 c1)
  refine bodyPost_ret (Zcg rfl _ _ (w.heap.size + 1 + 1) _ _ rfl ((hB.alloc _).alloc _)) rfl ⟨_,rfl,?_,(((HE2.out.setCell (Or.inr (by simp; omega)) _).setCell (Or.inr (by simp; omega)) _).alloc _).alloc _⟩
  exact (HN1.out.store2 HB2'.out).ext (((Fr.refl _ _).alloc _).alloc _)
theorem ZiF {x y:Int} (hy:0 < y):((Int.gcd x y:Nat):Int)≠0:=by
 have:Int.gcd x y≠0:=fun h=>by rw [Int.gcd_eq_zero_iff] at h; omega
 omega
theorem ZiG {x y:Int} (hy:0 < y) (h:wl y.natAbs < 80):wl (((Int.gcd x y:Nat):Int)).natAbs < 80:=by
 have h1:Int.gcd x y≤y.natAbs:=Nat.gcd_le_right _ (by omega)
 have:=ZaT h1
 rw [Int.natAbs_natCast]
 omega
theorem ZhY {x y:Int} (hy:0 < y):(Rat.divInt x y).num=x.tdiv (Int.gcd x y:Int)∧((Rat.divInt x y).den:Int)=y.tdiv (Int.gcd x y:Int):=by
 have hd1:(Int.gcd x y:Int) ∣ x:=Int.gcd_dvd_left _ _
 have hd2:(Int.gcd x y:Int) ∣ y:=Int.gcd_dvd_right _ _
 rw [Rat.num_divInt,Rat.den_divInt,if_neg (by omega),Int.sign_eq_one_of_pos hy,Int.one_mul,Int.gcd_comm y x,Int.tdiv_eq_ediv_of_dvd hd1,Int.tdiv_eq_ediv_of_dvd hd2]
 refine ⟨rfl,?_⟩
 rw [Int.natCast_ediv]
 congr 1
 omega
theorem ZeX {x y:Int} (hy:0 < y) (h:((Int.gcd x y:Nat):Int)=1):(Rat.divInt x y).num=x∧((Rat.divInt x y).den:Int)=y:=by
 have:=ZhY (x:=x) hy
 rwa [h,Int.tdiv_one,Int.tdiv_one] at this
theorem Zf8 {x y:Int} (h:y=1):(Rat.divInt x y).num=x∧denF (Rat.divInt x y)=0:=by
 have h1:=ZeX (x:=x) (y:=y) (by omega) (by rw [h,Int.gcd_one]; rfl)
 refine ⟨h1.1,Zdy.2 ?_⟩
 have:=h1.2
 omega
theorem ZkE (a b:Value) (x y:Int) (w:World) (hgl:Glob w) (ha:Zaf w a x) (hb:Zaf w b y) (hfx:Fits x) (hfy:Fits y) (hgk:Zc5 x y) (h80:wl y.natAbs < 80) (hy:y≠0) :
 Calls Tryz.prog 91 #[a,b] w (Ziv w (Rat.divInt x y)):=by
 obtain ⟨s0,A0,l0,c0,rfl⟩:=ha.shape
 obtain ⟨s1,A1,l1,c1,rfl⟩:=hb.shape
 refine Zc0 (Φ:=fun w=>((Zaf w (.agg #[.bool s0, .slice A0 l0 c0]) (x)∧Zaf w (.agg #[.bool s1, .slice A1 l1 c1]) (y))∧Glob w)) Tryz.func91 rfl (by kernel_rfl) (fun w' hf=>⟨⟨ha.ext hf,hb.ext hf⟩,hgl.ext hf⟩) ?_
 refine Zac (Zab (xr 3 [(2, .p 2 0),(3, .p 3 0),(4, .p 4 0)] [bR4 4 107 false none 0 0 false none 0 0,bI2 3 105 s1 A1 l1 c1,bI2 2 105 s0 A0 l0 c0] ?_))
 refine xe (Zaa (Zac (Zac (Zab (xr 1 [(2, .p 2 0),(3, .p 3 0),(4, .p 4 0),eI2 6 s1 A1 l1 c1] [bR4 4 107 false none 0 0 false none 0 0,bI2 3 105 s1 A1 l1 c1,bI2 2 105 s0 A0 l0 c0] ?_)))))
 refine xc 141 [vI2 s1 A1 l1 c1] 7 (fun _:Unit=>.bool false) _ (fun w R Q=>(Zc4 _ (y) _ Q.1.2).mono (fun _ _ h=>Zau h (by rw [decide_eq_false (p:=(y)=0) hy]))) (fun xx=>?_)
 refine xr 2 [(2, .p 2 0),(3, .p 3 0),(4, .p 4 0),(8, .v (.bool false)),eI2 9 s0 A0 l0 c0] [bR4 4 107 false none 0 0 false none 0 0,bI2 3 105 s1 A1 l1 c1,bI2 2 105 s0 A0 l0 c0] ?_
 by_cases hz10:(x)=0
 ·refine xc 141 [vI2 s0 A0 l0 c0] 10 (fun _:Unit=>.bool true) _ (fun w R Q=>(Zc4 _ (x) _ Q.1.1.1).mono (fun _ _ h=>Zau h (by rw [decide_eq_true (p:=(x)=0) hz10]))) (fun xx=>?_)
  refine xr 1 [(2, .p 2 0),(3, .p 3 0),(4, .p 4 0),(11, .v (.bool true))] [bR4 4 107 false none 0 0 false none 0 0,bI2 3 105 s1 A1 l1 c1,bI2 2 105 s0 A0 l0 c0] ?_
  refine xe (Zaa (xa (Zac (Zab (xr 2 [(2, .p 2 0),(3, .p 3 0),(4, .p 4 0)] [bR4 4 107 false none 0 0 false none 0 0,bI2 3 105 s1 A1 l1 c1,bI2 2 105 s0 A0 l0 c0] ?_)))))
  refine xe (Zaa (Zaw (Zam ?_)))
  refine Zaq (v:=.agg #[.bool false, .slice none 0 0, .bool false, .slice none 0 0]) (by kernel_rfl) (fun w' R Q=>?_)
  exact ⟨_,rfl,by rw [hz10,Rat.zero_divInt]; exact ZaN.nil _,R⟩
 ·refine xc 141 [vI2 s0 A0 l0 c0] 10 (fun _:Unit=>.bool false) _ (fun w R Q=>(Zc4 _ (x) _ Q.1.1.1).mono (fun _ _ h=>Zau h (by rw [decide_eq_false (p:=(x)=0) hz10]))) (fun xx=>?_)
  refine xr 1 [(2, .p 2 0),(3, .p 3 0),(4, .p 4 0),(11, .v (.bool false))] [bR4 4 107 false none 0 0 false none 0 0,bI2 3 105 s1 A1 l1 c1,bI2 2 105 s0 A0 l0 c0] ?_
  refine xe (Zaa (xb (Zap (Zaa (Zac (Zac (Zab (xr 1 [(2, .p 2 0),(3, .p 3 0),(4, .p 4 0),eI2 13 s1 A1 l1 c1] [bR4 4 107 false none 0 0 false none 0 0,bI2 3 105 s1 A1 l1 c1,bI2 2 105 s0 A0 l0 c0] ?_))))))))
  by_cases hs:y < 0
  ·have Hq:Rat.divInt (-(x)) (-(y))=Rat.divInt x y:=Rat.neg_divInt_neg _ _
   have HY:0 < -(y):=by omega
   have hfx':Fits (-(x)):=by unfold Fits; rw [Int.natAbs_neg]; exact hfx
   have hfy':Fits (-(y)):=by unfold Fits; rw [Int.natAbs_neg]; exact hfy
   have hgk':Zc5 (-(x)) (-(y)):=by unfold Zc5; rw [Int.natAbs_neg,Int.natAbs_neg]; exact hgk
   have h80':wl (-(y)).natAbs < 80:=by rw [Int.natAbs_neg]; exact h80
   refine xc 168 [vI2 s1 A1 l1 c1] 14 (fun _:Unit=>.int .i64 (-1)) _ (fun w R Q=>(Zj3 _ (y) _ Q.1.1.1.2).mono (fun _ _ h=>Zau h (by rw [Int.sign_eq_neg_one_of_neg hs]))) (fun xx=>?_)
   refine xr 1 [(2, .p 2 0),(3, .p 3 0),(4, .p 4 0),(15, .v (.bool true))] [bR4 4 107 false none 0 0 false none 0 0,bI2 3 105 s1 A1 l1 c1,bI2 2 105 s0 A0 l0 c0] ?_
   refine xe (Zaa (xa ?_))
   refine ZfC 6 (by kernel_rfl) (by kernel_rfl) Za6 ?_
   refine xf 1 [(2, .p 2 0),(3, .p 3 0),(4, .p 4 0),eI2 16 s0 A0 l0 c0] [bR4 4 107 false none 0 0 false none 0 0,bI2 3 105 s1 A1 l1 c1,bI2 2 105 s0 A0 l0 c0] ?_
   refine xd 142 [vI2 s0 A0 l0 c0] 17 Zc8 _ (fun w R Q=>(Zfu _ (x) _ Q.1.1.1.1.1).mono (fun _ _=>Zb8)) (fun xx=>?_)
   obtain ⟨s11,A11,l11,c11⟩:=xx
   refine xf 1 [(2, .p 2 0),(3, .p 3 0),(4, .p 4 0),eI2 17 s11 A11 l11 c11,eI2 18 s1 A1 l1 c1] [bR4 4 107 false none 0 0 false none 0 0,bI2 3 105 s1 A1 l1 c1,bI2 2 105 s0 A0 l0 c0] ?_
   refine xd 142 [vI2 s1 A1 l1 c1] 19 Zc8 _ (fun w R Q=>(Zfu _ (y) _ Q.1.1.1.1.1.2).mono (fun _ _=>Zb8)) (fun xx=>?_)
   obtain ⟨s12,A12,l12,c12⟩:=xx
   refine xf 2 [(2, .p 2 0),(3, .p 3 0),(4, .p 4 0)] [bI2 3 105 s12 A12 l12 c12,bI2 2 105 s11 A11 l11 c11,bR4 4 107 false none 0 0 false none 0 0,bI2 3 105 s1 A1 l1 c1,bI2 2 105 s0 A0 l0 c0] ?_
   refine xz (xe (Zaa (Zac (Zac (Zab (xr 1 [(2, .p 2 0),(3, .p 3 0),(4, .p 4 0),eI2 20 s12 A12 l12 c12] [bI2 3 105 s12 A12 l12 c12,bI2 2 105 s11 A11 l11 c11,bR4 4 107 false none 0 0 false none 0 0] ?_))))))
   by_cases hz13:(-(y))=1
   ·refine xc 124 [vI2 s12 A12 l12 c12] 21 (fun _:Unit=>.bool true) _ (fun w R Q=>(Zbj _ (-(y)) _ Q.2).mono (fun _ _ h=>Zau h (by rw [decide_eq_true (p:=(-(y))=1) hz13]))) (fun xx=>?_)
    refine xr 0 [(2, .p 2 0),(3, .p 3 0),(4, .p 4 0),(21, .v (.bool true))] [bI2 3 105 s12 A12 l12 c12,bI2 2 105 s11 A11 l11 c11,bR4 4 107 false none 0 0 false none 0 0] ?_
    refine xe (Zaa (xa (Zac (Zab (xr 3 [(2, .p 2 0),(3, .p 3 0),(4, .p 4 0)] [bI2 3 105 s12 A12 l12 c12,bI2 2 105 s11 A11 l11 c11,bR4 4 107 s11 A11 l11 c11 false none 0 0] ?_)))))
    refine xe (Zaa (Zaw (Zam ?_)))
    refine Zaq (v:=.agg #[.bool s11, .slice A11 l11 c11, .bool false, .slice none 0 0]) (by kernel_rfl) (fun w' R Q=>?_)
    exact ⟨_,rfl,ZaN.of (by rw [← Hq,(Zf8 hz13).1]; exact Q.1.1.2) (by rw [← Hq,(Zf8 hz13).2]; exact (Zaf.nil _)),R⟩
   ·refine xc 124 [vI2 s12 A12 l12 c12] 21 (fun _:Unit=>.bool false) _ (fun w R Q=>(Zbj _ (-(y)) _ Q.2).mono (fun _ _ h=>Zau h (by rw [decide_eq_false (p:=(-(y))=1) hz13]))) (fun xx=>?_)
    refine xr 0 [(2, .p 2 0),(3, .p 3 0),(4, .p 4 0),(21, .v (.bool false))] [bI2 3 105 s12 A12 l12 c12,bI2 2 105 s11 A11 l11 c11,bR4 4 107 false none 0 0 false none 0 0] ?_
    refine xe (Zaa (xb (Zap (Zaa (Zac (Zac (Zab (xr 2 [(2, .p 2 0),(3, .p 3 0),(4, .p 4 0),eI2 24 s11 A11 l11 c11,eI2 25 s12 A12 l12 c12] [bI2 3 105 s12 A12 l12 c12,bI2 2 105 s11 A11 l11 c11,bR4 4 107 false none 0 0 false none 0 0] ?_))))))))
    refine xc 90 [vI2 s11 A11 l11 c11,vI2 s12 A12 l12 c12] 26 Zc8 _ (fun w R Q=>(Zev _ _ (-(x)) (-(y)) _ Q.1.1.1.1.1.1.2 Q.1.1.2 Q.1.2 hfx' hfy' hgk').mono (fun _ _=>Zb8)) (fun xx=>?_)
    obtain ⟨s14,A14,l14,c14⟩:=xx
    refine xr 2 [(2, .p 2 0),(3, .p 3 0),(4, .p 4 0),(5, .p 5 0)] [bI2 5 105 s14 A14 l14 c14,bI2 3 105 s12 A12 l12 c12,bI2 2 105 s11 A11 l11 c11,bR4 4 107 false none 0 0 false none 0 0] ?_
    refine xe (Zaa (Zac (Zab (xr 1 [(2, .p 2 0),(3, .p 3 0),(4, .p 4 0),(5, .p 5 0),eI2 27 s14 A14 l14 c14] [bI2 5 105 s14 A14 l14 c14,bI2 3 105 s12 A12 l12 c12,bI2 2 105 s11 A11 l11 c11,bR4 4 107 false none 0 0 false none 0 0] ?_))))
    by_cases hz15:(((Int.gcd (-(x)) (-(y)):Nat):Int))=1
    ·refine xc 124 [vI2 s14 A14 l14 c14] 28 (fun _:Unit=>.bool true) _ (fun w R Q=>(Zbj _ (((Int.gcd (-(x)) (-(y)):Nat):Int)) _ Q.2).mono (fun _ _ h=>Zau h (by rw [decide_eq_true (p:=(((Int.gcd (-(x)) (-(y)):Nat):Int))=1) hz15]))) (fun xx=>?_)
     refine xr 1 [(2, .p 2 0),(3, .p 3 0),(4, .p 4 0),(5, .p 5 0),(29, .v (.bool false))] [bI2 5 105 s14 A14 l14 c14,bI2 3 105 s12 A12 l12 c12,bI2 2 105 s11 A11 l11 c11,bR4 4 107 false none 0 0 false none 0 0] ?_
     refine xe (Zaa (xb (Zap (Zaa (Zac (Zab (xr 2 [(4, .p 4 0),eI2 36 s11 A11 l11 c11,eI2 37 s12 A12 l12 c12] [bR4 4 107 false none 0 0 false none 0 0] ?_)))))))
     refine xc 75 [vI2 s11 A11 l11 c11,vI2 s12 A12 l12 c12] 38 ZbY _ (fun w R Q=>(Zer _ _ (-(x)) (-(y)) (Rat.divInt x y) _ Q.1.1.1.1.2 Q.1.1.1.2 (by rw [← Hq]; exact ZeX HY hz15)).mono (fun _ _=>ZfW)) (fun xx=>?_)
     obtain ⟨s16,A16,l16,c16,t16,B16,m16,d16⟩:=xx
     refine xr 1 [(4, .p 4 0)] [bR4 4 107 s16 A16 l16 c16 t16 B16 m16 d16] ?_
     refine xe (Zaa (Zaw ?_))
     refine Zaq (v:=.agg #[.bool s16, .slice A16 l16 c16, .bool t16, .slice B16 m16 d16]) (by kernel_rfl) (fun w' R Q=>?_)
     exact ⟨_,rfl,Q.2,R⟩
    ·refine xc 124 [vI2 s14 A14 l14 c14] 28 (fun _:Unit=>.bool false) _ (fun w R Q=>(Zbj _ (((Int.gcd (-(x)) (-(y)):Nat):Int)) _ Q.2).mono (fun _ _ h=>Zau h (by rw [decide_eq_false (p:=(((Int.gcd (-(x)) (-(y)):Nat):Int))=1) hz15]))) (fun xx=>?_)
     refine xr 1 [(2, .p 2 0),(3, .p 3 0),(4, .p 4 0),(5, .p 5 0),(29, .v (.bool true))] [bI2 5 105 s14 A14 l14 c14,bI2 3 105 s12 A12 l12 c12,bI2 2 105 s11 A11 l11 c11,bR4 4 107 false none 0 0 false none 0 0] ?_
     refine xe (Zaa (xa ?_))
     refine ZfC 8 (by kernel_rfl) (by kernel_rfl) Za6 ?_
     refine xf 2 [(2, .p 2 0),(3, .p 3 0),(4, .p 4 0),(5, .p 5 0),eI2 30 s11 A11 l11 c11,eI2 31 s14 A14 l14 c14] [bI2 5 105 s14 A14 l14 c14,bI2 3 105 s12 A12 l12 c12,bI2 2 105 s11 A11 l11 c11,bR4 4 107 false none 0 0 false none 0 0] ?_
     refine xd 169 [vI2 s11 A11 l11 c11,vI2 s14 A14 l14 c14] 32 Zc8 _ (fun w R Q=>(Zhe _ _ (-(x)) (((Int.gcd (-(x)) (-(y)):Nat):Int)) _ Q.1.1.1.1.2 Q.1.2 hfx' (ZiG HY h80') (ZiF HY)).mono (fun _ _=>Zb8)) (fun xx=>?_)
     obtain ⟨s17,A17,l17,c17⟩:=xx
     refine xf 2 [(2, .p 2 0),(3, .p 3 0),(4, .p 4 0),eI2 32 s17 A17 l17 c17,eI2 33 s12 A12 l12 c12,eI2 34 s14 A14 l14 c14] [bI2 5 105 s14 A14 l14 c14,bI2 3 105 s12 A12 l12 c12,bI2 2 105 s11 A11 l11 c11,bR4 4 107 false none 0 0 false none 0 0] ?_
     refine xd 169 [vI2 s12 A12 l12 c12,vI2 s14 A14 l14 c14] 35 Zc8 _ (fun w R Q=>(Zhe _ _ (-(y)) (((Int.gcd (-(x)) (-(y)):Nat):Int)) _ Q.1.1.1.1.2 Q.1.1.2 hfy' (ZiG HY h80') (ZiF HY)).mono (fun _ _=>Zb8)) (fun xx=>?_)
     obtain ⟨s18,A18,l18,c18⟩:=xx
     refine xf 2 [(2, .p 2 0),(3, .p 3 0),(4, .p 4 0)] [bI2 3 105 s18 A18 l18 c18,bI2 2 105 s17 A17 l17 c17,bI2 5 105 s14 A14 l14 c14,bI2 3 105 s12 A12 l12 c12,bI2 2 105 s11 A11 l11 c11,bR4 4 107 false none 0 0 false none 0 0] ?_
     refine xz (xe (Zaa (Zac (Zab (xr 2 [(4, .p 4 0),eI2 36 s17 A17 l17 c17,eI2 37 s18 A18 l18 c18] [bR4 4 107 false none 0 0 false none 0 0] ?_)))))
     refine xc 75 [vI2 s17 A17 l17 c17,vI2 s18 A18 l18 c18] 38 ZbY _ (fun w R Q=>(Zer _ _ ((-(x)).tdiv (((Int.gcd (-(x)) (-(y)):Nat):Int))) ((-(y)).tdiv (((Int.gcd (-(x)) (-(y)):Nat):Int))) (Rat.divInt x y) _ Q.1.2 Q.2 (by rw [← Hq]; exact ZhY HY)).mono (fun _ _=>ZfW)) (fun xx=>?_)
     obtain ⟨s19,A19,l19,c19,t19,B19,m19,d19⟩:=xx
     refine xr 1 [(4, .p 4 0)] [bR4 4 107 s19 A19 l19 c19 t19 B19 m19 d19] ?_
     refine xe (Zaa (Zaw ?_))
     refine Zaq (v:=.agg #[.bool s19, .slice A19 l19 c19, .bool t19, .slice B19 m19 d19]) (by kernel_rfl) (fun w' R Q=>?_)
     exact ⟨_,rfl,Q.2,R⟩
  ·have Hq:Rat.divInt (x) (y)=Rat.divInt x y:=rfl
   have HY:0 < y:=by omega
   have hfx':Fits (x):=hfx
   have hfy':Fits (y):=hfy
   have hgk':Zc5 (x) (y):=hgk
   have h80':wl (y).natAbs < 80:=h80
   refine xc 168 [vI2 s1 A1 l1 c1] 14 (fun _:Unit=>.int .i64 1) _ (fun w R Q=>(Zj3 _ (y) _ Q.1.1.1.2).mono (fun _ _ h=>Zau h (by rw [Int.sign_eq_one_of_pos (by omega)]))) (fun xx=>?_)
   refine xr 1 [(2, .p 2 0),(3, .p 3 0),(4, .p 4 0),(15, .v (.bool false))] [bR4 4 107 false none 0 0 false none 0 0,bI2 3 105 s1 A1 l1 c1,bI2 2 105 s0 A0 l0 c0] ?_
   refine xe (Zaa (xb (Zap (Zaa (Zac (Zac (Zab (xr 1 [(2, .p 2 0),(3, .p 3 0),(4, .p 4 0),eI2 20 s1 A1 l1 c1] [bR4 4 107 false none 0 0 false none 0 0,bI2 3 105 s1 A1 l1 c1,bI2 2 105 s0 A0 l0 c0] ?_))))))))
   by_cases hz20:(y)=1
   ·refine xc 124 [vI2 s1 A1 l1 c1] 21 (fun _:Unit=>.bool true) _ (fun w R Q=>(Zbj _ (y) _ Q.1.1.1.1.2).mono (fun _ _ h=>Zau h (by rw [decide_eq_true (p:=(y)=1) hz20]))) (fun xx=>?_)
    refine xr 0 [(2, .p 2 0),(3, .p 3 0),(4, .p 4 0),(21, .v (.bool true))] [bR4 4 107 false none 0 0 false none 0 0,bI2 3 105 s1 A1 l1 c1,bI2 2 105 s0 A0 l0 c0] ?_
    refine xe (Zaa (xa (Zac (Zab (xr 3 [(2, .p 2 0),(3, .p 3 0),(4, .p 4 0)] [bR4 4 107 s0 A0 l0 c0 false none 0 0,bI2 3 105 s1 A1 l1 c1,bI2 2 105 s0 A0 l0 c0] ?_)))))
    refine xe (Zaa (Zaw (Zam ?_)))
    refine Zaq (v:=.agg #[.bool s0, .slice A0 l0 c0, .bool false, .slice none 0 0]) (by kernel_rfl) (fun w' R Q=>?_)
    exact ⟨_,rfl,ZaN.of (by rw [← Hq,(Zf8 hz20).1]; exact Q.1.1.1.1.1.1) (by rw [← Hq,(Zf8 hz20).2]; exact (Zaf.nil _)),R⟩
   ·refine xc 124 [vI2 s1 A1 l1 c1] 21 (fun _:Unit=>.bool false) _ (fun w R Q=>(Zbj _ (y) _ Q.1.1.1.1.2).mono (fun _ _ h=>Zau h (by rw [decide_eq_false (p:=(y)=1) hz20]))) (fun xx=>?_)
    refine xr 0 [(2, .p 2 0),(3, .p 3 0),(4, .p 4 0),(21, .v (.bool false))] [bR4 4 107 false none 0 0 false none 0 0,bI2 3 105 s1 A1 l1 c1,bI2 2 105 s0 A0 l0 c0] ?_
    refine xe (Zaa (xb (Zap (Zaa (Zac (Zac (Zab (xr 2 [(2, .p 2 0),(3, .p 3 0),(4, .p 4 0),eI2 24 s0 A0 l0 c0,eI2 25 s1 A1 l1 c1] [bR4 4 107 false none 0 0 false none 0 0,bI2 3 105 s1 A1 l1 c1,bI2 2 105 s0 A0 l0 c0] ?_))))))))
    refine xc 90 [vI2 s0 A0 l0 c0,vI2 s1 A1 l1 c1] 26 Zc8 _ (fun w R Q=>(Zev _ _ (x) (y) _ Q.1.1.1.1.2 Q.1.1.1.1.1.1 Q.1.1.1.1.1.2 hfx' hfy' hgk').mono (fun _ _=>Zb8)) (fun xx=>?_)
    obtain ⟨s21,A21,l21,c21⟩:=xx
    refine xr 2 [(2, .p 2 0),(3, .p 3 0),(4, .p 4 0),(5, .p 5 0)] [bI2 5 105 s21 A21 l21 c21,bR4 4 107 false none 0 0 false none 0 0,bI2 3 105 s1 A1 l1 c1,bI2 2 105 s0 A0 l0 c0] ?_
    refine xe (Zaa (Zac (Zab (xr 1 [(2, .p 2 0),(3, .p 3 0),(4, .p 4 0),(5, .p 5 0),eI2 27 s21 A21 l21 c21] [bI2 5 105 s21 A21 l21 c21,bR4 4 107 false none 0 0 false none 0 0,bI2 3 105 s1 A1 l1 c1,bI2 2 105 s0 A0 l0 c0] ?_))))
    by_cases hz22:(((Int.gcd (x) (y):Nat):Int))=1
    ·refine xc 124 [vI2 s21 A21 l21 c21] 28 (fun _:Unit=>.bool true) _ (fun w R Q=>(Zbj _ (((Int.gcd (x) (y):Nat):Int)) _ Q.2).mono (fun _ _ h=>Zau h (by rw [decide_eq_true (p:=(((Int.gcd (x) (y):Nat):Int))=1) hz22]))) (fun xx=>?_)
     refine xr 1 [(2, .p 2 0),(3, .p 3 0),(4, .p 4 0),(5, .p 5 0),(29, .v (.bool false))] [bI2 5 105 s21 A21 l21 c21,bR4 4 107 false none 0 0 false none 0 0,bI2 3 105 s1 A1 l1 c1,bI2 2 105 s0 A0 l0 c0] ?_
     refine xe (Zaa (xb (Zap (Zaa (Zac (Zab (xr 2 [(4, .p 4 0),eI2 36 s0 A0 l0 c0,eI2 37 s1 A1 l1 c1] [bR4 4 107 false none 0 0 false none 0 0] ?_)))))))
     refine xc 75 [vI2 s0 A0 l0 c0,vI2 s1 A1 l1 c1] 38 ZbY _ (fun w R Q=>(Zer _ _ (x) (y) (Rat.divInt x y) _ Q.1.1.1.1.1.1.1.1 Q.1.1.1.1.1.1.1.2 (by rw [← Hq]; exact ZeX HY hz22)).mono (fun _ _=>ZfW)) (fun xx=>?_)
     obtain ⟨s23,A23,l23,c23,t23,B23,m23,d23⟩:=xx
     refine xr 1 [(4, .p 4 0)] [bR4 4 107 s23 A23 l23 c23 t23 B23 m23 d23] ?_
     refine xe (Zaa (Zaw ?_))
     refine Zaq (v:=.agg #[.bool s23, .slice A23 l23 c23, .bool t23, .slice B23 m23 d23]) (by kernel_rfl) (fun w' R Q=>?_)
     exact ⟨_,rfl,Q.2,R⟩
    ·refine xc 124 [vI2 s21 A21 l21 c21] 28 (fun _:Unit=>.bool false) _ (fun w R Q=>(Zbj _ (((Int.gcd (x) (y):Nat):Int)) _ Q.2).mono (fun _ _ h=>Zau h (by rw [decide_eq_false (p:=(((Int.gcd (x) (y):Nat):Int))=1) hz22]))) (fun xx=>?_)
     refine xr 1 [(2, .p 2 0),(3, .p 3 0),(4, .p 4 0),(5, .p 5 0),(29, .v (.bool true))] [bI2 5 105 s21 A21 l21 c21,bR4 4 107 false none 0 0 false none 0 0,bI2 3 105 s1 A1 l1 c1,bI2 2 105 s0 A0 l0 c0] ?_
     refine xe (Zaa (xa ?_))
     refine ZfC 8 (by kernel_rfl) (by kernel_rfl) Za6 ?_
     refine xf 2 [(2, .p 2 0),(3, .p 3 0),(4, .p 4 0),(5, .p 5 0),eI2 30 s0 A0 l0 c0,eI2 31 s21 A21 l21 c21] [bI2 5 105 s21 A21 l21 c21,bR4 4 107 false none 0 0 false none 0 0,bI2 3 105 s1 A1 l1 c1,bI2 2 105 s0 A0 l0 c0] ?_
     refine xd 169 [vI2 s0 A0 l0 c0,vI2 s21 A21 l21 c21] 32 Zc8 _ (fun w R Q=>(Zhe _ _ (x) (((Int.gcd (x) (y):Nat):Int)) _ Q.1.1.1.1.1.1.1.1 Q.1.2 hfx' (ZiG HY h80') (ZiF HY)).mono (fun _ _=>Zb8)) (fun xx=>?_)
     obtain ⟨s24,A24,l24,c24⟩:=xx
     refine xf 2 [(2, .p 2 0),(3, .p 3 0),(4, .p 4 0),eI2 32 s24 A24 l24 c24,eI2 33 s1 A1 l1 c1,eI2 34 s21 A21 l21 c21] [bI2 5 105 s21 A21 l21 c21,bR4 4 107 false none 0 0 false none 0 0,bI2 3 105 s1 A1 l1 c1,bI2 2 105 s0 A0 l0 c0] ?_
     refine xd 169 [vI2 s1 A1 l1 c1,vI2 s21 A21 l21 c21] 35 Zc8 _ (fun w R Q=>(Zhe _ _ (y) (((Int.gcd (x) (y):Nat):Int)) _ Q.1.1.1.1.1.1.1.1.2 Q.1.1.2 hfy' (ZiG HY h80') (ZiF HY)).mono (fun _ _=>Zb8)) (fun xx=>?_)
     obtain ⟨s25,A25,l25,c25⟩:=xx
     refine xf 2 [(2, .p 2 0),(3, .p 3 0),(4, .p 4 0)] [bI2 3 105 s25 A25 l25 c25,bI2 2 105 s24 A24 l24 c24,bI2 5 105 s21 A21 l21 c21,bR4 4 107 false none 0 0 false none 0 0,bI2 3 105 s1 A1 l1 c1,bI2 2 105 s0 A0 l0 c0] ?_
     refine xz (xe (Zaa (Zac (Zab (xr 2 [(4, .p 4 0),eI2 36 s24 A24 l24 c24,eI2 37 s25 A25 l25 c25] [bR4 4 107 false none 0 0 false none 0 0] ?_)))))
     refine xc 75 [vI2 s24 A24 l24 c24,vI2 s25 A25 l25 c25] 38 ZbY _ (fun w R Q=>(Zer _ _ ((x).tdiv (((Int.gcd (x) (y):Nat):Int))) ((y).tdiv (((Int.gcd (x) (y):Nat):Int))) (Rat.divInt x y) _ Q.1.2 Q.2 (by rw [← Hq]; exact ZhY HY)).mono (fun _ _=>ZfW)) (fun xx=>?_)
     obtain ⟨s26,A26,l26,c26,t26,B26,m26,d26⟩:=xx
     refine xr 1 [(4, .p 4 0)] [bR4 4 107 s26 A26 l26 c26 t26 B26 m26 d26] ?_
     refine xe (Zaa (Zaw ?_))
     refine Zaq (v:=.agg #[.bool s26, .slice A26 l26 c26, .bool t26, .slice B26 m26 d26]) (by kernel_rfl) (fun w' R Q=>?_)
     exact ⟨_,rfl,Q.2,R⟩
end Go.Proofs.YthlipnahcbcjkaaGreatDoor

namespace Go.Proofs.YthlipnahcbcjkaaGreatDoor
open Go.RowKit
end Go.Proofs.YthlipnahcbcjkaaGreatDoor

namespace Go.Proofs.YthlipnahcbcjkaaGreatDoor
open Go.RowKit
theorem ZmN {l:List UInt8} {q:Rat} {k:Nat} (h:Zaz l=some q) (hl:l.length≤k) (hk:1≤k):q.num.natAbs < 10 ^ k∧q.den < 10 ^ k:=by
 unfold Zaz at h
 obtain ⟨⟨neg,num,den,ok⟩,hS⟩:∃ x,Zba l=x:=⟨_,rfl⟩
 rw [hS] at h
 cases ok with
 | false=>cases h
 | true =>
   obtain ⟨d1,d2,d3⟩:=Zdm hS
   have hn:∀ z,(sg neg z).natAbs=z:=fun z=>by unfold sg; split<;>omega
   have w1:Zah num < 10 ^ k:=Nat.lt_of_lt_of_le (Zb1 num d1) (Nat.pow_le_pow_right (by omega) (by omega))
   have w2:Zah den < 10 ^ k:=Nat.lt_of_lt_of_le (Zb1 den d2) (Nat.pow_le_pow_right (by omega) (by omega))
   simp only [] at h
   split at h
   ·injection h with h
    subst h
    refine ⟨?_,?_⟩
    ·show (sg neg (Zah num)).natAbs < 10 ^ k
     rw [hn]; exact w1
    ·show 1 < 10 ^ k
     exact Nat.one_lt_pow (by omega) (by omega)
   ·split at h
    ·rename_i hne hg
     injection h with h
     subst h
     have h2:=(Ziu hS).1 hne
     obtain ⟨e1,e2⟩:=Zfi (z:=sg neg (Zah num)) h2 (by rw [hn]; exact hg)
     refine ⟨by rw [e1,hn]; exact w1,?_⟩
     have e3:(mkRat (sg neg (Zah num)) (Zah den)).den=Zah den:=by
      unfold denF at e2
      split at e2<;>omega
     rw [e3]; exact w2
    ·cases h
end Go.Proofs.YthlipnahcbcjkaaGreatDoor

namespace Go.Proofs.YthlipnahcbcjkaaGreatDoor
open Go.RowKit
theorem ZoP {p b:Int} (hP:Pr p) (hb:b % p≠0):∃ v k,b * v=1 + p * k:=by
 have h2:=hP.1
 obtain ⟨P,rfl⟩:=Int.eq_ofNat_of_zero_le (show 0≤p by omega)
 have h0:=Int.emod_nonneg b (b:=(P:Int)) (by omega)
 have h1:=Int.emod_lt_of_pos b (b:=(P:Int)) (by omega)
 obtain ⟨c,hc⟩:=Int.eq_ofNat_of_zero_le h0
 have hcp:c < P:=by omega
 have hcm:c % P≠0:=by rw [Nat.mod_eq_of_lt hcp]; omega
 have h3:=ZkC hP hcm
 have h4:=Nat.div_add_mod (c * invN c P) P
 rw [h3] at h4
 have h5:=Int.mul_ediv_add_emod b P
 rw [hc] at h5
 refine ⟨(invN c P:Int),((c * invN c P / P:Nat):Int) + b / P * (invN c P:Int),?_⟩
 have h6:(P:Int) * ((c * invN c P / P:Nat):Int) + 1=(c:Int) * (invN c P:Int):=by exact_mod_cast h4
 generalize ((c * invN c P / P:Nat):Int)=m at *
 generalize (invN c P:Int)=v at *
 generalize b / (P:Int)=t at *
 grind
theorem ZmO {p a b:Int} (hP:Pr p) (hb:b % p≠0) (h:∃ m,a * b=p * m):∃ k,a=p * k:=by
 obtain ⟨v,k,hv⟩:=ZoP hP hb
 obtain ⟨m,hm⟩:=h
 exact ⟨m * v - a * k,by grind⟩
theorem ZoQ {p a k:Int} (h:a=p * k):a % p=0:=by rw [h]; exact Int.mul_emod_right _ _
theorem ZoR {p a:Int} (h:a % p=0):∃ k,a=p * k:=⟨a / p,by have:=Int.mul_ediv_add_emod a p; omega⟩
theorem ZmP {p a b:Int} (hP:Pr p) (ha:a % p≠0) (hb:b % p≠0):a * b % p≠0:=fun h=>by
 obtain ⟨k,hk⟩:=ZmO hP hb (ZoR h)
 exact ha (ZoQ hk)
end Go.Proofs.YthlipnahcbcjkaaGreatDoor

namespace Go.Proofs.YthlipnahcbcjkaaGreatDoor
open Go.RowKit
theorem ZjK (n:Int) (w:World) (hg:Glob w) (h0 : -9223372036854775808≤n) (h1:n≤9223372036854775807) :
 Calls Tryz.prog 121 #[.int .i64 n, .int .i64 10] w (RetV w (.string ⟨(Lib.itoa n).toArray⟩)) :=
 (Tryz.strconv_FormatInt_10 n h0 h1 w hg.1).mono (by
  rintro e w' ⟨rfl,k,os,rfl⟩
  exact ⟨rfl,Fr.ofBelow (Lib.below_grow _ w (Nat.le_refl _) k os)⟩)
set_option maxHeartbeats 1000000 in
theorem Zk2 (n:Int) (w:World) (hg:Glob w) (h0 : -9223372036854775808≤n) (h1:n≤9223372036854775807) :
 Calls Tryz.prog 53 #[.int .i64 n] w (RetV w (.string ⟨(Lib.itoa n).toArray⟩)):=by
 have H:=zh (ZjK n w hg h0 h1)
 generalize Lib.itoa n=t at *
 clear hg
 go_enter Tryz.func53,Tryz.ntmps53
 go_wp2_with fail
 refine H.out.mono ?_
 rintro e w1 ⟨rfl,hF⟩
 have HF:=zh hF
 clear hF
 go_wp2
 go_ret
 exact ⟨rfl,HF.out⟩
def ZoT (w:World) (z:Int) (e:Ending) (w':World):Prop :=
 ∃ (z':Int) (ok:Bool),e=.returned (.tuple #[.int .i64 z', .bool ok])∧Hid (ok=true→z'=z ∧ -9223372036854775808≤z∧z≤9223372036854775807)∧Ext w w'
set_option maxHeartbeats 1000000 in
theorem ZmX (a:Value) (z:Int) (w:World) (ha:Zaf w a z):Calls Tryz.prog 154 #[a] w (ZoT w z):=by
 obtain ⟨s,A,l,c,rfl,hN,hz,h0⟩:=ha.open
 obtain ⟨A',xs,c',he,hc,hX,hd,ht,hv⟩:=hN
 injection he with e1 e2 e3
 subst e1 e2 e3
 match xs,hX,hd,ht,hv with
 | [],hX,hd,ht,hv =>
   have hz0:z=0:=by simp at hv; omega
   have HZ:Hid ((0:Int)=z ∧ -9223372036854775808≤z∧z≤9223372036854775807):=by unfold Hid; omega
   clear hX hd ht hv hz h0 hc hz0
   go_enter Tryz.func154,Tryz.ntmps154
   go_wp2
   go_ret2
   exact ⟨0,true,rfl,(fun _=>HZ.out),(Fr.refl _ _).alloc _⟩
 | [x],hX,hd,ht,hv =>
   obtain ⟨b,off,rfl,hb,hc0⟩:=hX.at (i:=0) (by simp)
   simp at hc0
   have hne:=Nat.ne_of_lt hb
   have hxv:x=z.natAbs:=by simpa using hv
   have hxW:x < 18446744073709551616:=by have:=hd x (by simp); rwa [Zai] at this
   cases s with
   | false =>
     have hzz:z=(x:Int):=by simp [sg] at hz; omega
     by_cases hle:x≤9223372036854775807
     ·have HZ:Hid ((x:Int)=z ∧ -9223372036854775808≤z∧z≤9223372036854775807):=by unfold Hid; omega
      have f1:IntKind.i64.wrap (x:Int)=(x:Int):=IntWalk.i64_in _ (by omega)
      have t1:decide ((x:Int)≤9223372036854775807)=true:=by simp; omega
      clear hX hd ht hv hz h0 hc hxv hzz hle hxW
      go_enter Tryz.func154,Tryz.ntmps154
      go_wp2
      go_ret2
      exact ⟨x,true,rfl,(fun _=>HZ.out),(Fr.refl _ _).alloc _⟩
     ·have t1:decide ((x:Int)≤9223372036854775807)=false:=by simp; omega
      clear hX hd ht hv hz h0 hc hxv hzz hle hxW
      go_enter Tryz.func154,Tryz.ntmps154
      go_wp2
      go_ret2
      exact ⟨0,false,rfl,(fun h=>by cases h),(Fr.refl _ _).alloc _⟩
   | true =>
     have hzz:z = -(x:Int):=by simp [sg] at hz; omega
     by_cases hle:x≤9223372036854775808
     ·have HZ:Hid (-(x:Int)=z ∧ -9223372036854775808≤z∧z≤9223372036854775807):=by unfold Hid; omega
      have f1:IntKind.i64.wrap (IntKind.u64.wrap (-(x:Int))) = -(x:Int):=by
       rw [IntKind.wrap_u64,IntKind.wrap_i64]; omega
      have t1:decide ((x:Int)≤9223372036854775808)=true:=by simp; omega
      clear hX hd ht hv hz h0 hc hxv hzz hle hxW
      go_enter Tryz.func154,Tryz.ntmps154
      go_wp2
      go_ret2
      exact ⟨-(x:Int),true,rfl,(fun _=>HZ.out),(Fr.refl _ _).alloc _⟩
     ·have t1:decide ((x:Int)≤9223372036854775808)=false:=by simp; omega
      clear hX hd ht hv hz h0 hc hxv hzz hle hxW
      go_enter Tryz.func154,Tryz.ntmps154
      go_wp2
      go_ret2
      exact ⟨0,false,rfl,(fun h=>by cases h),(Fr.refl _ _).alloc _⟩
 | x :: y :: ys,hX,hd,ht,hv =>
   obtain ⟨b,off,rfl,hb,hc0⟩:=hX.at (i:=0) (by simp)
   simp at hc0
   have hne:=Nat.ne_of_lt hb
   obtain ⟨k,hk⟩:∃ k,(x :: y :: ys).length=k:=⟨_,rfl⟩
   have hk2:2≤k:=by simp at hk; omega
   rw [hk]
   have t0:((k:Int) == 0)=false:=by simp; omega
   clear hX hd ht hv hz h0 hc hk
   go_enter Tryz.func154,Tryz.ntmps154
   go_wp2
   go_ret2
   exact ⟨0,false,rfl,(fun h=>by cases h),(Fr.refl _ _).alloc _⟩
set_option maxHeartbeats 1000000 in
theorem ZjL (a:Value) (q:Rat) (w:World) (hg:Glob w) (ha:ZaN w a q) (h1:q.den=1) (hp:ZbP q.num.natAbs) :
 Calls Tryz.prog 76 #[a] w (RetV w (.string ⟨(Lib.itoa q.num).toArray⟩)):=by
 obtain ⟨s,t,A,B,l,c,l',c',rfl,hn,hd⟩:=ha
 rw [Zdy.2 h1] at hd
 generalize q.num=z at *
 have HN:=zh hn
 have HD:=zh hd
 have HG:=zh hg
 have HP:=zh hp
 clear hn hd h1 hg hp
 go_enter Tryz.func76,Tryz.ntmps76
 go_wp2_with fail
 generalize hwb:World.alloc w _=wb
 obtain ⟨hB0,hE0⟩:=Blk.one hwb
 clear hwb
 refine (Zc4 _ 0 _ (HD.out.ext hE0)).mono ?_
 rw [decide_eq_true rfl]
 rintro e w1 ⟨rfl,hF1⟩
 have HB1:=zh (hB0.ext hF1)
 have HE1:=zh (hE0.trans hF1)
 obtain ⟨x0,x1,x2,x3,_⟩:=(hB0.ext hF1).cell4
 clear hB0 hE0 hF1
 go_wp2_with fail
 refine (ZmX _ z _ (HN.out.ext HE1.out)).mono ?_
 rintro e w2 ⟨z',ok,rfl,hR,hF2⟩
 have HB2:=zh (HB1.out.ext hF2)
 have HE2:=zh (HE1.out.trans hF2)
 obtain ⟨y0,y1,y2,y3,_⟩:=(HB1.out.ext hF2).cell4
 clear hF2 x0 x1 x2 x3 HB1 HE1
 cases ok with
 | true =>
   obtain ⟨rfl,r1,r2⟩:=hR.out rfl
   have HC:=zh (Zk2 z' w2 (HG.out.ext HE2.out) r1 r2)
   generalize Lib.itoa z'=txt at *
   clear r1 r2
   go_wp2_with fail
   refine HC.out.mono ?_
   rintro e w3 ⟨rfl,hF3⟩
   have HE3:=zh (HE2.out.trans hF3)
   clear hF3
   go_wp2
   go_ret
   exact ⟨rfl,HE3.out⟩
 | false =>
   have HC:=zh (Zf3 _ z w2 (HG.out.ext HE2.out) (HN.out.ext HE2.out) HP.out)
   generalize Lib.itoa z=txt at *
   clear hR
   go_wp2_with fail
   refine HC.out.mono ?_
   rintro e w3 ⟨rfl,hF3⟩
   have HE3:=zh (HE2.out.trans hF3)
   clear hF3
   go_wp2
   go_ret
   exact ⟨rfl,HE3.out⟩
end Go.Proofs.YthlipnahcbcjkaaGreatDoor

namespace Go.Proofs.YthlipnahcbcjkaaGreatDoor
open Go.RowKit
end Go.Proofs.YthlipnahcbcjkaaGreatDoor

namespace Go.Proofs.YthlipnahcbcjkaaGreatDoor
open Go.RowKit
theorem ZiH:∀ (k u:Nat),1≤k→u < 10 ^ k→Lib.nDigits u≤k
 | 0,_,h,_=>by omega
 | k + 1,u,_,h=>by
   by_cases h0:u < 10
   ·rw [Lib.nDigits_small h0]; omega
   ·rw [Lib.nDigits_big h0]
    have hk:1≤k:=by
     rcases Nat.eq_zero_or_pos k with e | e
     ·subst e; simp at h; omega
     ·exact e
    have h1:u / 10 < 10 ^ k:=by
     rw [Nat.pow_succ] at h
     exact Nat.div_lt_of_lt_mul (by rw [Nat.mul_comm]; exact h)
    have:=ZiH k (u / 10) hk h1
    omega
theorem Zoz {z:Int} {k:Nat} (hk:1≤k) (h:z.natAbs < 10 ^ k):(Lib.itoa z).length≤k + 1:=by
 have h1:=ZiH k z.natAbs hk h
 have e:0≤z→z.toNat=z.natAbs:=fun h=>by omega
 unfold Lib.itoa
 split
 ·simp only [List.length_cons,Lib.decDigits_length]
  omega
 ·rename_i hz
  rw [Lib.decDigits_length]
  first
   | omega
   | (rw [e (by omega)]; omega)
theorem ZoU {n k:Nat} (h:wl n≤k):n < 10 ^ (20 * k):=by
 have h1:n < W64 ^ k:=Zbq.1 h
 have h2:W64 ^ k≤(10 ^ 20) ^ k:=Nat.pow_le_pow_left (by rw [Zai]; decide) k
 rw [← Nat.pow_mul] at h2
 omega
theorem Zk3 (a:Value) (q:Rat) (w:World) (hg:Glob w) (ha:ZaN w a q) (hn:ZbP q.num.natAbs) (hd:ZbP q.den):Calls Tryz.prog 76 #[a] w (RetV w (.string ⟨(ZbF q).toArray⟩)):=by
 by_cases h:q.den=1
 ·have:=ZjL a q w hg ha h hn
  unfold ZbF
  rw [if_pos h]; exact this
 ·refine ZkD a q w hg ha hn hd h ?_
  unfold ZbP at hn
  have h1:=ZoU (show wl q.num.natAbs≤128 by omega)
  have h2:=Zoz (z:=q.num) (k:=20 * 128) (by decide) h1
  omega
end Go.Proofs.YthlipnahcbcjkaaGreatDoor

namespace Go.Proofs.YthlipnahcbcjkaaGreatDoor
open Go.RowKit
inductive RecRun (m:Int):Int→Int→Int→Int→Int→Int→Prop
 | done {r0 r1 t0 t1:Int} (h:r1 * r1 * 2 < m):RecRun m r0 r1 t0 t1 r1 t1
 | step {r0 r1 t0 t1 r t:Int} (h:¬ r1 * r1 * 2 < m) (k:RecRun m r1 (r0.tmod r1) t1 (t0 - r0.tdiv r1 * t1) r t):RecRun m r0 r1 t0 t1 r t
theorem RecRun.unique {m r0 r1 t0 t1 r t r' t':Int} (h:RecRun m r0 r1 t0 t1 r t) (k:RecRun m r0 r1 t0 t1 r' t'):r=r'∧t=t':=by
 induction h with
 | done h =>
   cases k with
   | done=>exact ⟨rfl,rfl⟩
   | step h'=>exact absurd h h'
 | step h _ ih =>
   cases k with
   | done h'=>exact absurd h' h
   | step _ k=>exact ih k
structure RecInv (m r0 r1 t0 t1:Int):Prop where
 nonneg:0≤r1
 lt:r1 < r0
 le:r0≤m
 sum:(t1.natAbs:Int) * r0 + (t0.natAbs:Int) * r1=m
 alt:(0≤t0∧t1≤0)∨(t0≤0∧0≤t1)
theorem RecInv.start {m r:Int} (h0:0≤r) (hr:r < m):RecInv m m r 0 1:=⟨h0,hr,Int.le_refl _,by simp,Or.inr ⟨Int.le_refl _,by omega⟩⟩
theorem RecInv.next {m r0 r1 t0 t1:Int} (h:RecInv m r0 r1 t0 t1) (h1:0 < r1):RecInv m r1 (r0.tmod r1) t1 (t0 - r0.tdiv r1 * t1):=by
 obtain ⟨h2,h3,h4,h5,h6⟩:=h
 have e1:r0.tdiv r1=r0 / r1:=Int.tdiv_eq_ediv_of_nonneg (by omega)
 have e2:r0.tmod r1=r0 % r1:=Int.tmod_eq_emod_of_nonneg (by omega)
 rw [e1,e2]
 have hq:0≤r0 / r1:=Int.ediv_nonneg (by omega) h2
 have hd:=Int.mul_ediv_add_emod r0 r1
 have hm0:=Int.emod_nonneg r0 (show r1≠0 by omega)
 have hm1:=Int.emod_lt_of_pos r0 h1
 generalize r0 / r1=q at *
 generalize r0 % r1=r2 at *
 have habs:((t0 - q * t1).natAbs:Int)=(t0.natAbs:Int) + q * (t1.natAbs:Int):=by
  rcases h6 with ⟨a,b⟩ | ⟨a,b⟩
  ·have e3:(t1.natAbs:Int) = -t1:=by omega
   have e4:(t0.natAbs:Int)=t0:=by omega
   have hp:0≤q * -t1:=Int.mul_nonneg hq (by omega)
   rw [e3,e4,Int.mul_neg]
   rw [Int.mul_neg] at hp
   omega
  ·have e3:(t1.natAbs:Int)=t1:=by omega
   have e4:(t0.natAbs:Int) = -t0:=by omega
   have hp:0≤q * t1:=Int.mul_nonneg hq b
   rw [e3,e4]
   omega
 refine ⟨hm0,hm1,by omega,?_,?_⟩
 ·rw [habs,Int.add_mul]
  rw [← hd,Int.mul_add] at h5
  rw [← h5,Int.mul_right_comm q,Int.mul_assoc q,Int.mul_comm (t1.natAbs:Int) (r1 * q),Int.mul_right_comm r1 q,Int.mul_comm q,Int.mul_comm r1 (t1.natAbs:Int)]
  omega
 ·rcases h6 with ⟨a,b⟩ | ⟨a,b⟩
  ·right
   have hp:0≤q * -t1:=Int.mul_nonneg hq (by omega)
   rw [Int.mul_neg] at hp
   exact ⟨b,by omega⟩
  ·left
   have hp:0≤q * t1:=Int.mul_nonneg hq b
   exact ⟨b,by omega⟩
theorem RecInv.bound {m r0 r1 t0 t1:Int} (h:RecInv m r0 r1 t0 t1):t1.natAbs≤m.natAbs∧r0.natAbs≤m.natAbs∧r1.natAbs≤m.natAbs∧(0 < r1→t0.natAbs≤m.natAbs):=by
 obtain ⟨h2,h3,h4,h5,_⟩:=h
 have a1:0≤(t1.natAbs:Int) * r0:=Int.mul_nonneg (by omega) (by omega)
 have a2:0≤(t0.natAbs:Int) * r1:=Int.mul_nonneg (by omega) h2
 have a3:(t1.natAbs:Int) * 1≤(t1.natAbs:Int) * r0:=Int.mul_le_mul_of_nonneg_left (by omega) (by omega)
 refine ⟨by omega,by omega,by omega,fun h1=>?_⟩
 have a4:(t0.natAbs:Int) * 1≤(t0.natAbs:Int) * r1:=Int.mul_le_mul_of_nonneg_left (by omega) (by omega)
 omega
def ZeY (wb wx:World) (g h:Nat) (x y:Int):Prop:=Za4 wx g x∧Za4 wx h y∧Ext wb wx∧g≠h∧wb.heap.size≤g∧wb.heap.size≤h
theorem Za4.new {w:World} {z:Int} {s:Bool} {A:Option Addr} {l c:Nat} (hI:Zaf w (.agg #[.bool s, .slice A l c]) z):Za4 (w.alloc (.cells #[.bool s, .slice A l c] 105)) w.heap.size z :=
 ⟨s,A,l,c,Blk.new _ _ _,hI.ext ((Fr.refl _ _).alloc _)⟩
theorem Zf9 (w:World) (t:TypeId) (x y:Array Value):Blk t ((w.alloc (.cells x t)).alloc (.cells y t)) (w.heap.size + 1) y:=by
 have e:(w.alloc (.cells x t)).heap.size=w.heap.size + 1:=by simp
 have h1:=Blk.new (w.alloc (.cells x t)) t y
 rwa [e] at h1
theorem ZbI {w:World} {g:Nat} (h:Blk 105 w g #[.bool false, .slice none 0 0]):Za4 w g 0:=⟨_,_,_,_,h,Zaf.zero w⟩
structure RecMem (w wr:World) (M R b r f g:Nat) (m r0 r1 t0 t1:Int):Prop where
 ext:Ext w wr
 mod:Za4 wr M m
 res:Blk 107 wr R #[.bool false, .slice none 0 0, .bool false, .slice none 0 0]
 rest0:Za4 wr b r0
 rest1:Za4 wr r r1
 fac0:Za4 wr f t0
 fac1:Za4 wr g t1
theorem RecMem.on {w wr wx:World} {M R b r f g:Nat} {m r0 r1 t0 t1:Int} (h:RecMem w wr M R b r f g m r0 r1 t0 t1) (hF:Ext wr wx):RecMem w wx M R b r f g m r0 r1 t0 t1 :=
 ⟨h.ext.trans hF,h.mod.ext hF,h.res.ext hF,h.rest0.ext hF,h.rest1.ext hF,h.fac0.ext hF,h.fac1.ext hF⟩
def Zeg (w:World) (M R b r f g:Nat):Prop:=w.heap.size≤M∧w.heap.size≤R∧M≠R∧M < b∧M < r∧R < b∧R < r∧b≠r∧b < f∧r < f∧b < g∧r < g∧f≠g
section
variable {w wr:World} {M R b r f g:Nat} {m r0 r1 t0 t1 z:Int} {s:Bool} {A:Option Addr} {l c:Nat}
theorem RecMem.put0 (h:RecMem w wr M R b r f g m r0 r1 t0 t1) (hd:Zeg w M R b r f g) (hI:Zaf wr (.agg #[.bool s, .slice A l c]) z):RecMem w ((wr.setCell ⟨b,0,none⟩ (.bool s)).setCell ⟨b,1,none⟩ (.slice A l c)) M R b r f g m z r1 t0 t1:=by
 unfold Zeg at hd
 exact ⟨Fr.local_ h.ext (Fr.set2 _ _) (by omega),h.mod.away h.rest0 (by omega),h.res.fr (Fr.set2 (r:=b) (i:=0) (j:=1) _ _) (by omega),h.rest0.put hI,h.rest1.away h.rest0 (by omega),h.fac0.away h.rest0 (by omega),h.fac1.away h.rest0 (by omega)⟩
theorem RecMem.put1 (h:RecMem w wr M R b r f g m r0 r1 t0 t1) (hd:Zeg w M R b r f g) (hI:Zaf wr (.agg #[.bool s, .slice A l c]) z):RecMem w ((wr.setCell ⟨r,0,none⟩ (.bool s)).setCell ⟨r,1,none⟩ (.slice A l c)) M R b r f g m r0 z t0 t1:=by
 unfold Zeg at hd
 exact ⟨Fr.local_ h.ext (Fr.set2 _ _) (by omega),h.mod.away h.rest1 (by omega),h.res.fr (Fr.set2 (r:=r) (i:=0) (j:=1) _ _) (by omega),h.rest0.away h.rest1 (by omega),h.rest1.put hI,h.fac0.away h.rest1 (by omega),h.fac1.away h.rest1 (by omega)⟩
theorem RecMem.put2 (h:RecMem w wr M R b r f g m r0 r1 t0 t1) (hd:Zeg w M R b r f g) (hI:Zaf wr (.agg #[.bool s, .slice A l c]) z):RecMem w ((wr.setCell ⟨f,0,none⟩ (.bool s)).setCell ⟨f,1,none⟩ (.slice A l c)) M R b r f g m r0 r1 z t1:=by
 unfold Zeg at hd
 exact ⟨Fr.local_ h.ext (Fr.set2 _ _) (by omega),h.mod.away h.fac0 (by omega),h.res.fr (Fr.set2 (r:=f) (i:=0) (j:=1) _ _) (by omega),h.rest0.away h.fac0 (by omega),h.rest1.away h.fac0 (by omega),h.fac0.put hI,h.fac1.away h.fac0 (by omega)⟩
theorem RecMem.put3 (h:RecMem w wr M R b r f g m r0 r1 t0 t1) (hd:Zeg w M R b r f g) (hI:Zaf wr (.agg #[.bool s, .slice A l c]) z):RecMem w ((wr.setCell ⟨g,0,none⟩ (.bool s)).setCell ⟨g,1,none⟩ (.slice A l c)) M R b r f g m r0 r1 t0 z:=by
 unfold Zeg at hd
 exact ⟨Fr.local_ h.ext (Fr.set2 _ _) (by omega),h.mod.away h.fac1 (by omega),h.res.fr (Fr.set2 (r:=g) (i:=0) (j:=1) _ _) (by omega),h.rest0.away h.fac1 (by omega),h.rest1.away h.fac1 (by omega),h.fac0.away h.fac1 (by omega),h.fac1.put hI⟩
end
def Zn3 (w wr:World) (M R b r f g:Nat) (v m r0 r1 t0 t1:Int):Prop :=
 RecMem w wr M R b r f g m r0 r1 t0 t1∧RecInv m r0 r1 t0 t1∧∀ x y,RecRun m r0 r1 t0 t1 x y→RecRun m m (v % m) 0 1 x y
def ZiI (m:Int):Prop:=∀ x y:Int,x.natAbs≤m.natAbs∧y.natAbs≤m.natAbs→Zc5 x y
theorem ZiI.words {m:Int} (h:wl m.natAbs < 39):ZiI m:=fun x y hxy=>Zc5.words (by have:=ZaT hxy.1; omega) (by have:=ZaT hxy.2; omega)
def ZbC (v m:Int) (q:Rat) (ok:Bool):Prop:=∃ r t:Int,RecRun m m (v % m) 0 1 r t ∧
 ((ok=true∧t * t * 2 < m∧Int.gcd t m=1∧Int.gcd t r=1∧q=Rat.divInt r t)∨(ok=false∧¬ (t * t * 2 < m∧Int.gcd t m=1∧Int.gcd t r=1)∧q=0))
def ZkG (w:World) (v m:Int) (e:Ending) (w':World):Prop:=∃ x q ok,e=.returned (.tuple #[x, .bool ok])∧ZaN w' x q∧ZbC v m q ok∧Ext w w'
theorem Zk4 {t u:TypeId} {w wb:World} {x y z:Array Value} (h:((w.alloc (.cells x t)).alloc (.cells y t)).alloc (.cells z u)=wb) :
 Blk t wb w.heap.size x∧Blk t wb (w.heap.size + 1) y∧Blk u wb (w.heap.size + 1 + 1) z∧Ext w wb:=by
 obtain ⟨h0,h1,h2⟩:=Zce (t:=t) (w:=w) (x:=x) (y:=y) rfl
 subst h
 have e2:((w.alloc (.cells x t)).alloc (.cells y t)).heap.size=w.heap.size + 1 + 1:=by simp
 have h3:=Blk.new ((w.alloc (.cells x t)).alloc (.cells y t)) u z
 rw [e2] at h3
 exact ⟨h0.alloc _,h1.alloc _,h3,h2.alloc _⟩
theorem ZkH {t t' t'':TypeId} {w w':World} {g g' g'':Nat} {x y x' y' x'' y'':Value} (h:Blk t w g #[x,y]) (h':Blk t' w g' #[x',y']) (h'':Blk t'' w g'' #[x'',y'']) (hF:Ext w w') :
 (w'.cell? ⟨g,0,none⟩=some x∧w'.cell? ⟨g,1,none⟩=some y)∧(w'.cell? ⟨g',0,none⟩=some x'∧w'.cell? ⟨g',1,none⟩=some y')∧(w'.cell? ⟨g'',0,none⟩=some x''∧w'.cell? ⟨g'',1,none⟩=some y'') :=
 ⟨⟨(h.ext hF).cell 0,(h.ext hF).cell 1⟩,⟨(h'.ext hF).cell 0,(h'.ext hF).cell 1⟩,⟨(h''.ext hF).cell 0,(h''.ext hF).cell 1⟩⟩
theorem Zhg {fn:Func} {tmps:Array Value} {w wz:World} {r:Nat} {ok:Bool} {s t:Bool} {A B:Option Addr} {l c l' c':Nat} {v m:Int} {q:Rat} (hres:fn.results=#[.cell 4 107, .tmp 5]) (ht:tmps[4]? = some (.pointer (some ⟨r,0,none⟩))) (h3:tmps[5]? = some (.bool ok))
 (hB:Blk 107 wz r #[.bool s, .slice A l c, .bool t, .slice B l' c']) (Q:Ext w wz) (hR:ZaN wz (.agg #[.bool s, .slice A l c, .bool t, .slice B l' c']) q) (hI:ZbC v m q ok) :
 bodyPost Tryz.prog fn (ZkG w v m) .ret ⟨tmps,[]⟩ wz:=by
 obtain ⟨h0,h1,h2,h4,_⟩:=hB.cell4
 exact bodyPost_ret (v:=.tuple #[.agg #[.bool s, .slice A l c, .bool t, .slice B l' c'], .bool ok]) (by simp [results,hres,ht,h3,go_sem,h0,h1,h2,h4]) rfl ⟨_,q,ok,rfl,hR,hI,Q⟩
theorem ZoV {t t':TypeId} {w:World} {g g' r i j:Nat} {x y x' y' a b:Value} (h:Blk t w g #[x,y]) (h':Blk t' w g' #[x',y']) (hg:g≠r) (hg':g'≠r) :
 ((((w.setCell ⟨r,i,none⟩ a).setCell ⟨r,j,none⟩ b).drew.cell? ⟨g,0,none⟩=some x∧((w.setCell ⟨r,i,none⟩ a).setCell ⟨r,j,none⟩ b).drew.cell? ⟨g,1,none⟩=some y)∧(((w.setCell ⟨r,i,none⟩ a).setCell ⟨r,j,none⟩ b).drew.cell? ⟨g',0,none⟩=some x'∧((w.setCell ⟨r,i,none⟩ a).setCell ⟨r,j,none⟩ b).drew.cell? ⟨g',1,none⟩=some y')) :=
 ⟨⟨(h.fr (Fr.set2 a b) hg).cell 0,(h.fr (Fr.set2 a b) hg).cell 1⟩,⟨(h'.fr (Fr.set2 a b) hg').cell 0,(h'.fr (Fr.set2 a b) hg').cell 1⟩⟩
section
variable {wb w1:World} {x y:Int} {s s':Bool} {A A':Option Addr} {l c l' c':Nat}
abbrev bx (s:Bool) (A:Option Addr) (l c:Nat):Obj:=.cells #[.bool s, .slice A l c] 105
theorem Zga (hX:Ext wb w1) (hx:Zaf w1 (.agg #[.bool s, .slice A l c]) x) (hy:Zaf w1 (.agg #[.bool s', .slice A' l' c']) y):ZeY wb ((w1.alloc (bx s A l c)).alloc (bx s' A' l' c')) w1.heap.size (w1.heap.size + 1) x y:=by
 refine ⟨(Za4.new hx).ext ((Fr.refl _ _).alloc _),⟨_,_,_,_,Zf9 _ _ _ _,hy.ext (((Fr.refl _ _).alloc _).alloc _)⟩,(hX.alloc _).alloc _,by omega,hX.size,by have:=hX.size; omega⟩
theorem ZnH (hX:Ext wb w1) (hx:Zaf w1 (.agg #[.bool s, .slice A l c]) x) (hy:Zaf w1 (.agg #[.bool s', .slice A' l' c']) y):ZeY wb ((w1.alloc (bx s' A' l' c')).alloc (bx s A l c)) (w1.heap.size + 1) w1.heap.size x y:=by
 obtain ⟨h1,h2,h3,h4,h5,h6⟩:=Zga hX hy hx
 exact ⟨h2,h1,h3,Ne.symm h4,h6,h5⟩
theorem ZkI (hX:Ext wb w1) (hb:Blk 105 w1 wb.heap.size #[.bool false, .slice none 0 0]) (hx:Zaf w1 (.agg #[.bool s, .slice A l c]) x) (hy:Zaf w1 (.agg #[.bool s', .slice A' l' c']) y) :
 ZeY wb (((w1.setCell ⟨wb.heap.size,0,none⟩ (.bool s)).setCell ⟨wb.heap.size,1,none⟩ (.slice A l c)).alloc (bx s' A' l' c')) wb.heap.size w1.heap.size x y:=by
 have h1:=(ZbI hb).put hx
 have h2:=Zaf.away (a:=.bool s) (b:=.slice A l c) hy (ZbI hb)
 have h3:=Fr.local_ hX (Fr.set2 (r:=wb.heap.size) (i:=0) (j:=1) (.bool s) (.slice A l c)) (Nat.le_refl _)
 have e:((w1.setCell ⟨wb.heap.size,0,none⟩ (.bool s)).setCell ⟨wb.heap.size,1,none⟩ (.slice A l c)).heap.size=w1.heap.size:=by simp [World.setCell]
 have h4:=Za4.new h2
 rw [e] at h4
 exact ⟨h1.ext ((Fr.refl _ _).alloc _),h4,h3.alloc _,Nat.ne_of_lt hb.lt,Nat.le_refl _,hX.size⟩
theorem ZnI (hX:Ext wb w1) (hb:Blk 105 w1 wb.heap.size #[.bool false, .slice none 0 0]) (hx:Zaf w1 (.agg #[.bool s, .slice A l c]) x) (hy:Zaf w1 (.agg #[.bool s', .slice A' l' c']) y) :
 ZeY wb (((w1.setCell ⟨wb.heap.size,0,none⟩ (.bool s')).setCell ⟨wb.heap.size,1,none⟩ (.slice A' l' c')).alloc (bx s A l c)) w1.heap.size wb.heap.size x y:=by
 obtain ⟨h1,h2,h3,h4,h5,h6⟩:=ZkI hX hb hy hx
 exact ⟨h2,h1,h3,Ne.symm h4,h6,h5⟩
theorem ZnJ (hX:Ext wb w1) (hb:Blk 105 w1 wb.heap.size #[.bool false, .slice none 0 0]) (hb2:Blk 105 w1 (wb.heap.size + 1) #[.bool false, .slice none 0 0]) (hx:Zaf w1 (.agg #[.bool s, .slice A l c]) x) (hy:Zaf w1 (.agg #[.bool s', .slice A' l' c']) y) :
 ZeY wb ((((w1.setCell ⟨wb.heap.size,0,none⟩ (.bool s)).setCell ⟨wb.heap.size,1,none⟩ (.slice A l c)).setCell ⟨wb.heap.size + 1,0,none⟩ (.bool s')).setCell ⟨wb.heap.size + 1,1,none⟩ (.slice A' l' c')) wb.heap.size (wb.heap.size + 1) x y:=by
 have h1:=(ZbI hb).put hx
 have h2:=Zaf.away (a:=.bool s) (b:=.slice A l c) hy (ZbI hb)
 have h3:=Fr.local_ hX (Fr.set2 (r:=wb.heap.size) (i:=0) (j:=1) (.bool s) (.slice A l c)) (Nat.le_refl _)
 have h4:=Za4.away (a:=.bool s) (b:=.slice A l c) (ZbI hb2) (ZbI hb) (by omega)
 have h5:=Fr.local_ h3 (Fr.set2 (r:=wb.heap.size + 1) (i:=0) (j:=1) (.bool s') (.slice A' l' c')) (by omega)
 exact ⟨h1.away h4 (by omega),h4.put h2,h5,by omega,Nat.le_refl _,by omega⟩
theorem ZnK (hX:Ext wb w1) (hb:Blk 105 w1 wb.heap.size #[.bool false, .slice none 0 0]) (hb2:Blk 105 w1 (wb.heap.size + 1) #[.bool false, .slice none 0 0]) (hx:Zaf w1 (.agg #[.bool s, .slice A l c]) x) (hy:Zaf w1 (.agg #[.bool s', .slice A' l' c']) y) :
 ZeY wb ((((w1.setCell ⟨wb.heap.size + 1,0,none⟩ (.bool s)).setCell ⟨wb.heap.size + 1,1,none⟩ (.slice A l c)).setCell ⟨wb.heap.size,0,none⟩ (.bool s')).setCell ⟨wb.heap.size,1,none⟩ (.slice A' l' c')) (wb.heap.size + 1) wb.heap.size x y:=by
 have h1:=(ZbI hb2).put hx
 have h2:=Zaf.away (a:=.bool s) (b:=.slice A l c) hy (ZbI hb2)
 have h3:=Fr.local_ hX (Fr.set2 (r:=wb.heap.size + 1) (i:=0) (j:=1) (.bool s) (.slice A l c)) (by omega)
 have h4:=Za4.away (a:=.bool s) (b:=.slice A l c) (ZbI hb) (ZbI hb2) (by omega)
 have h5:=Fr.local_ h3 (Fr.set2 (r:=wb.heap.size) (i:=0) (j:=1) (.bool s') (.slice A' l' c')) (Nat.le_refl _)
 exact ⟨h1.away h4 (by omega),h4.put h2,h5,by omega,by omega,Nat.le_refl _⟩
end
set_option maxHeartbeats 4000000 in
theorem Zgb (a b:Value) (v m:Int) (w:World) (hgl:Glob w) (ha:Zaf w a v) (hb:Zaf w b m) (hv:Fits v) (hm:wl m.natAbs < 39) (h2:2≤m) (hga:ZiI m):Calls Tryz.prog 136 #[a,b] w (ZkG w v m):=by
 obtain ⟨s,A,l,c,rfl⟩:=ha.shape
 obtain ⟨t,B,l',c',rfl⟩:=hb.shape
 have HA:=zh ha
 have HB:=zh hb
 have HGl:=zh hgl
 have HV:=zh hv
 have HM:=zh hm
 have HGA:=zh hga
 clear ha hb hgl hv hm hga
 go_enter Tryz.func136,Tryz.ntmps136
 go_wp2_with fail
 generalize hwb:World.alloc (World.alloc (World.alloc w _) _) _=wb
 obtain ⟨hB0,hB1,hB2,Q⟩:=Zk4 hwb
 have HB0:=zh hB0
 have HB1:=zh hB1
 have HR:=zh hB2
 have HE:=zh Q
 clear hwb hB0 hB1 hB2 Q
 go_cut [6,7] (fun s6 s7 wx=>∃ g6 g7:Nat,s6=.pointer (some ⟨g6,0,none⟩)∧s7=.pointer (some ⟨g7,0,none⟩)∧Hid (ZeY wb wx g6 g7 m (v % m)))
 case first =>
  refine Zeb 6 (fun w'=>(w'.cell? ⟨w.heap.size,0,none⟩=some (.bool s)∧w'.cell? ⟨w.heap.size,1,none⟩=some (.slice A l c))∧(w'.cell? ⟨w.heap.size + 1,0,none⟩=some (.bool t)∧w'.cell? ⟨w.heap.size + 1,1,none⟩=some (.slice B l' c'))) Zdn ?_
  refine ZbT 0 rfl (by kernel_rfl) (fun _ _ _ h=>h) (Zbg HB0.out HB1.out ((Fr.refl _ _).drew)) (fun _=>Zbo rfl rfl rfl (fun _ h=>h.2)) (fun hS=>?_)
  refine ZbT 1 rfl (by kernel_rfl) (fun _ _ _ h=>h) hS (fun _=>Zbo rfl rfl rfl (fun _ h=>h.1)) (fun hS=>?_)
  refine ZbT 2 rfl (by kernel_rfl) (fun _ _ _ h=>h) hS (fun _=>Zbo rfl rfl rfl (fun _ h=>h.2)) (fun hS=>?_)
  refine Zci (rs:=[3,4,5]) (by kernel_rfl) (Zkg ?_ ?_ ?_)
  ·refine ⟨_,rfl,rfl,fun K hK=>?_⟩
   go_simp
   refine (Zfx _ _ v m _ (HA.out.ext (HE.out.trans ((Fr.refl _ _).drew))) (HB.out.ext (HE.out.trans ((Fr.refl _ _).drew))) HV.out (by have:=HM.out; omega) (by omega)).mono ?_
   rintro e w1 ⟨u1,rfl,hI1,hF1⟩
   obtain ⟨s1,A1,l1,c1,rfl⟩:=hI1.shape
   have hX:Ext wb w1:=((Fr.refl _ _).drew).trans hF1
   refine hK _ _ (Zbg HB0.out HB1.out (hX)) ?_
   refine Zci (rs:=[4,5]) (by kernel_rfl) (ZfT ?_ ?_)
   ·refine ⟨_,rfl,rfl,fun K hK=>?_⟩
    go_simp
    refine hK _ _ (Zbg HB0.out HB1.out (hX.alloc _)) ?_
    refine Zci (rs:=[5]) (by kernel_rfl) (Zc6 ?_)
    refine ⟨_,rfl,rfl,fun K hK=>?_⟩
    go_simp
    refine hK _ _ (Zbg HB0.out HB1.out ((hX.alloc _).alloc _)) ?_
    refine Zcz (l:=[_,_]) 6 rfl (by kernel_rfl) ?_
    go_wp2_with fail
    go_meet
    exact ⟨_,_,rfl,rfl,Zga hX (HB.out.ext (HE.out.trans hX)) hI1⟩
   ·refine ⟨_,rfl,rfl,fun K hK=>?_⟩
    go_simp
    refine hK _ _ (Zbg HB0.out HB1.out (hX.alloc _)) ?_
    refine Zci (rs:=[4]) (by kernel_rfl) (Zc6 ?_)
    refine ⟨_,rfl,rfl,fun K hK=>?_⟩
    go_simp
    refine hK _ _ (Zbg HB0.out HB1.out ((hX.alloc _).alloc _)) ?_
    refine Zcz (l:=[_,_]) 6 rfl (by kernel_rfl) ?_
    go_wp2_with fail
    go_meet
    exact ⟨_,_,rfl,rfl,ZnH hX (HB.out.ext (HE.out.trans hX)) hI1⟩
  ·refine ⟨_,rfl,rfl,fun K hK=>?_⟩
   go_simp
   refine hK _ _ (Zbg HB0.out HB1.out (((Fr.refl _ _).drew).alloc _)) ?_
   refine Zci (rs:=[3,5]) (by kernel_rfl) (ZfT ?_ ?_)
   ·refine ⟨_,rfl,rfl,fun K hK=>?_⟩
    go_simp
    refine (Zfx _ _ v m _ (HA.out.ext (HE.out.trans (((Fr.refl _ _).drew).alloc _))) (HB.out.ext (HE.out.trans (((Fr.refl _ _).drew).alloc _))) HV.out (by have:=HM.out; omega) (by omega)).mono ?_
    rintro e w1 ⟨u1,rfl,hI1,hF1⟩
    obtain ⟨s1,A1,l1,c1,rfl⟩:=hI1.shape
    have hX:Ext wb w1:=(((Fr.refl _ _).drew).alloc _).trans hF1
    refine hK _ _ (Zbg HB0.out HB1.out (hX)) ?_
    refine Zci (rs:=[5]) (by kernel_rfl) (Zc6 ?_)
    refine ⟨_,rfl,rfl,fun K hK=>?_⟩
    go_simp
    refine hK _ _ (Zbg HB0.out HB1.out (hX.alloc _)) ?_
    have hb:=(Blk.new wb 105 #[.bool false, .slice none 0 0]).ext (Fr.undrew hF1)
    obtain ⟨f0,f1,f2,f3⟩:=hb.cell2
    have hlt:=hb.lt
    have hne:=Nat.ne_of_lt hlt
    refine Zcz (l:=[_,_]) 6 rfl (by kernel_rfl) ?_
    go_wp2_with fail
    go_meet
    exact ⟨_,_,rfl,rfl,ZkI hX hb (HB.out.ext (HE.out.trans hX)) hI1⟩
   ·refine ⟨_,rfl,rfl,fun K hK=>?_⟩
    go_simp
    refine hK _ _ (Zbg HB0.out HB1.out ((((Fr.refl _ _).drew).alloc _).alloc _)) ?_
    refine Zci (rs:=[3]) (by kernel_rfl) (Zc6 ?_)
    refine ⟨_,rfl,rfl,fun K hK=>?_⟩
    go_simp
    refine (Zfx _ _ v m _ (HA.out.ext (HE.out.trans ((((Fr.refl _ _).drew).alloc _).alloc _))) (HB.out.ext (HE.out.trans ((((Fr.refl _ _).drew).alloc _).alloc _))) HV.out (by have:=HM.out; omega) (by omega)).mono ?_
    rintro e w1 ⟨u1,rfl,hI1,hF1⟩
    obtain ⟨s1,A1,l1,c1,rfl⟩:=hI1.shape
    have hX:Ext wb w1:=((((Fr.refl _ _).drew).alloc _).alloc _).trans hF1
    refine hK _ _ (Zbg HB0.out HB1.out (hX)) ?_
    have hb:=((Blk.new wb 105 #[.bool false, .slice none 0 0]).alloc (.cells #[.bool false, .slice none 0 0] 105)).ext (Fr.undrew hF1)
    have hb2:=(Zf9 wb 105 #[.bool false, .slice none 0 0] #[.bool false, .slice none 0 0]).ext (Fr.undrew hF1)
    obtain ⟨f0,f1,f2,f3⟩:=hb.cell2
    obtain ⟨f4,f5,f6,f7⟩:=hb2.cell2
    refine Zcz (l:=[_,_]) 6 rfl (by kernel_rfl) ?_
    go_wp2_with fail
    go_meet
    exact ⟨_,_,rfl,rfl,ZnJ hX hb hb2 (HB.out.ext (HE.out.trans hX)) hI1⟩
  ·refine ⟨_,rfl,rfl,fun K hK=>?_⟩
   go_simp
   refine hK _ _ (Zbg HB0.out HB1.out (((Fr.refl _ _).drew).alloc _)) ?_
   refine Zci (rs:=[3,4]) (by kernel_rfl) (ZfT ?_ ?_)
   ·refine ⟨_,rfl,rfl,fun K hK=>?_⟩
    go_simp
    refine (Zfx _ _ v m _ (HA.out.ext (HE.out.trans (((Fr.refl _ _).drew).alloc _))) (HB.out.ext (HE.out.trans (((Fr.refl _ _).drew).alloc _))) HV.out (by have:=HM.out; omega) (by omega)).mono ?_
    rintro e w1 ⟨u1,rfl,hI1,hF1⟩
    obtain ⟨s1,A1,l1,c1,rfl⟩:=hI1.shape
    have hX:Ext wb w1:=(((Fr.refl _ _).drew).alloc _).trans hF1
    refine hK _ _ (Zbg HB0.out HB1.out (hX)) ?_
    refine Zci (rs:=[4]) (by kernel_rfl) (Zc6 ?_)
    refine ⟨_,rfl,rfl,fun K hK=>?_⟩
    go_simp
    refine hK _ _ (Zbg HB0.out HB1.out (hX.alloc _)) ?_
    have hb:=(Blk.new wb 105 #[.bool false, .slice none 0 0]).ext (Fr.undrew hF1)
    obtain ⟨f0,f1,f2,f3⟩:=hb.cell2
    have hlt:=hb.lt
    have hne:=Nat.ne_of_lt hlt
    refine Zcz (l:=[_,_]) 6 rfl (by kernel_rfl) ?_
    go_wp2_with fail
    go_meet
    exact ⟨_,_,rfl,rfl,ZnI hX hb (HB.out.ext (HE.out.trans hX)) hI1⟩
   ·refine ⟨_,rfl,rfl,fun K hK=>?_⟩
    go_simp
    refine hK _ _ (Zbg HB0.out HB1.out ((((Fr.refl _ _).drew).alloc _).alloc _)) ?_
    refine Zci (rs:=[3]) (by kernel_rfl) (Zc6 ?_)
    refine ⟨_,rfl,rfl,fun K hK=>?_⟩
    go_simp
    refine (Zfx _ _ v m _ (HA.out.ext (HE.out.trans ((((Fr.refl _ _).drew).alloc _).alloc _))) (HB.out.ext (HE.out.trans ((((Fr.refl _ _).drew).alloc _).alloc _))) HV.out (by have:=HM.out; omega) (by omega)).mono ?_
    rintro e w1 ⟨u1,rfl,hI1,hF1⟩
    obtain ⟨s1,A1,l1,c1,rfl⟩:=hI1.shape
    have hX:Ext wb w1:=((((Fr.refl _ _).drew).alloc _).alloc _).trans hF1
    refine hK _ _ (Zbg HB0.out HB1.out (hX)) ?_
    have hb:=((Blk.new wb 105 #[.bool false, .slice none 0 0]).alloc (.cells #[.bool false, .slice none 0 0] 105)).ext (Fr.undrew hF1)
    have hb2:=(Zf9 wb 105 #[.bool false, .slice none 0 0] #[.bool false, .slice none 0 0]).ext (Fr.undrew hF1)
    obtain ⟨f0,f1,f2,f3⟩:=hb.cell2
    obtain ⟨f4,f5,f6,f7⟩:=hb2.cell2
    refine Zcz (l:=[_,_]) 6 rfl (by kernel_rfl) ?_
    go_wp2_with fail
    go_meet
    exact ⟨_,_,rfl,rfl,ZnK hX hb hb2 (HB.out.ext (HE.out.trans hX)) hI1⟩
 case rest =>
  obtain ⟨g6,g7,rfl,rfl,hT⟩:=hcut
  obtain ⟨h6,h7,hEc,hne67,hl6,hl7⟩:=hT.out
  have hR1:=HR.out.ext hEc
  have hM1:Za4 wc (w.heap.size + 1) m:=⟨_,_,_,_,HB1.out.ext hEc,HB.out.ext (HE.out.trans hEc)⟩
  have hsz:w.heap.size + 1 + 1 < wb.heap.size:=HR.out.lt
  have hmod0:=Int.emod_nonneg v (show m≠0 by omega)
  have hmod1:=Int.emod_lt_of_pos v (show 0 < m by omega)
  have H6:=zh h6
  have H7:=zh h7
  have HEc:=zh (HE.out.trans hEc)
  have HR1:=zh hR1
  have HM1:=zh hM1
  have hc6:=h6.lt
  have hc7:=h7.lt
  clear h6 h7 hEc hT hR1 hM1 HB0 HB1 HR HE HA HV
  generalize hMM:w.heap.size + 1=M at *
  generalize hRR:M + 1=R at *
  have d1:w.heap.size≤M:=by omega
  have d2:w.heap.size≤R:=by omega
  have d3:M≠R:=by omega
  have d4:M < g6:=by omega
  have d5:M < g7:=by omega
  have d6:R < g6:=by omega
  have d7:R < g7:=by omega
  clear hMM hRR hsz hl6 hl7
  clear wb
  go_wp2_with fail
  refine (ZdY 0 _ Zag rfl rfl).mono ?_
  rintro e w1 ⟨u1,rfl,hI1,hF1⟩
  obtain ⟨s1,B1,l1,c1,rfl⟩:=hI1.shape
  go_wp2_with fail
  refine (ZdY 1 _ Zdu rfl rfl).mono ?_
  rintro e w2 ⟨u2,rfl,hI2,hF2⟩
  obtain ⟨s2,B2,l2,c2,rfl⟩:=hI2.shape
  have HTN:=zh (Zga (hF1.trans hF2) (hI1.ext hF2) hI2)
  have d8:g6 < w2.heap.size:=Nat.lt_of_lt_of_le hc6 (hF1.trans hF2).size
  have d9:g7 < w2.heap.size:=Nat.lt_of_lt_of_le hc7 (hF1.trans hF2).size
  clear hI1 hI2 hF1 hF2 hc6 hc7
  go_wp2
  generalize hwx:World.alloc (World.alloc w2 _) _=wx
  have HST:Hid (Zn3 w wx M R g6 g7 w2.heap.size (w2.heap.size + 1) v m m (v % m) 0 1):=by
   have h:=HTN.out
   rw [show (w2.alloc (bx s1 B1 l1 c1)).alloc (bx s2 B2 l2 c2)=wx from hwx] at h
   obtain ⟨k1,k2,k3,_⟩:=h
   exact ⟨⟨HEc.out.trans k3,HM1.out.ext k3,HR1.out.ext k3,H6.out.ext k3,H7.out.ext k3,k1,k2⟩,RecInv.start hmod0 hmod1,fun _ _ h=>h⟩
  have hfg:w2.heap.size≠w2.heap.size + 1:=by omega
  have d10:g6 < w2.heap.size + 1:=by omega
  have d11:g7 < w2.heap.size + 1:=by omega
  generalize w2.heap.size + 1=g at *
  generalize w2.heap.size=f at *
  clear hwx HTN H6 H7 HEc HR1 HM1 hmod0 hmod1 w1 w2
  have HNE:Hid (Zeg w M R g6 g7 f g):=⟨d1,d2,d3,d4,d5,d6,d7,hne67,d8,d9,d10,d11,hfg⟩
  go_loopg [10] (v % m).toNat (fun k _ wr=>∃ r0 r1 t0 t1:Int,k=r1.toNat∧Hid (Zn3 w wr M R g6 g7 f g v m r0 r1 t0 t1))
  case atStart=>exact ⟨m,v % m,0,1,rfl,HST.out⟩
  case round =>
   obtain ⟨r0,r1,t0,t1,hk,hST⟩:=hrel
   have HK:=zh hk
   clear hk HST
   obtain ⟨hMem,hInv,hRun⟩:=hST.out
   obtain ⟨b1,b2,b3,b4⟩:=hInv.bound
   have HInv:=zh hInv
   have HRun:=zh hRun
   have HMem:=zh hMem
   have HBt:=zh b1
   have W1:Hid (wl t1.natAbs < 39):=Nat.lt_of_le_of_lt (ZaT b1) HM.out
   have W2:Hid (wl r0.natAbs < 39):=Nat.lt_of_le_of_lt (ZaT b2) HM.out
   have W3:Hid (wl r1.natAbs < 39):=Nat.lt_of_le_of_lt (ZaT b3) HM.out
   have W4:Hid (0 < r1→wl t0.natAbs < 39):=fun h=>Nat.lt_of_le_of_lt (ZaT (b4 h)) HM.out
   have HB3:=zh b3
   have FM:Hid (Fits m):=by have:=HM.out; unfold Hid Fits; omega
   obtain ⟨sm,Am,lm,cm,hBm,hIm⟩:=hMem.mod
   obtain ⟨sr,Ar,lr,cr,hBr,hIr⟩:=hMem.rest1
   obtain ⟨m0,m1,_,_⟩:=hBm.cell2
   obtain ⟨n0,n1,_,_⟩:=hBr.cell2
   clear hST hMem hInv hRun b1 b2 b3 b4
   go_wp2_with fail
   refine (Zhy _ _ r1 m _ hIr hIm (by have:=W3.out; omega) FM.out).mono ?_
   by_cases hsm:r1 * r1 * 2 < m
   ·have HSM:=zh hsm
    rw [decide_eq_true hsm]
    rintro e w1 ⟨rfl,hF1⟩
    replace HMem:=zh (HMem.out.on hF1)
    clear hBm hIm hBr hIr m0 m1 n0 n1 hF1 hsm
    obtain ⟨sm,Am,lm,cm,hBm,hIm⟩:=HMem.out.mod
    obtain ⟨sg_,Ag,lg,cg,hBg,hIg⟩:=HMem.out.fac1
    obtain ⟨m0,m1,_,_⟩:=hBm.cell2
    obtain ⟨n0,n1,_,_⟩:=hBg.cell2
    go_wp2_with fail
    refine (Zhy _ _ t1 m _ hIg hIm (by have:=W1.out; omega) FM.out).mono ?_
    by_cases hst:t1 * t1 * 2 < m
    ·have HST:=zh hst
     rw [decide_eq_true hst]
     rintro e w2 ⟨rfl,hF1⟩
     replace HMem:=zh (HMem.out.on hF1)
     clear hBm hIm hBg hIg m0 m1 n0 n1 hF1 hst
     obtain ⟨sm,Am,lm,cm,hBm,hIm⟩:=HMem.out.mod
     obtain ⟨sg_,Ag,lg,cg,hBg,hIg⟩:=HMem.out.fac1
     obtain ⟨m0,m1,_,_⟩:=hBm.cell2
     obtain ⟨n0,n1,_,_⟩:=hBg.cell2
     go_wp2_with fail
     refine (Zev _ _ t1 m _ (HGl.out.ext HMem.out.ext) hIg hIm (by have:=W1.out; unfold Fits; omega) FM.out (HGA.out _ _ ⟨HBt.out,Nat.le_refl _⟩)).mono ?_
     rintro e w3 ⟨u3,rfl,hI3,hF1⟩
     obtain ⟨s3,A3,l3,c3,rfl⟩:=hI3.shape
     have HI3:=zh hI3
     replace HMem:=zh (HMem.out.on hF1)
     clear hBm hIm hBg hIg m0 m1 n0 n1 hF1 hI3
     go_wp2_with fail
     refine (Zbj _ _ _ HI3.out).mono ?_
     clear HI3
     by_cases hg1:((Int.gcd t1 m:Nat):Int)=1
     ·rw [decide_eq_true hg1]
      have HG1:Hid (Int.gcd t1 m=1):=by unfold Hid; omega
      rintro e w4 ⟨rfl,hF1⟩
      replace HMem:=zh (HMem.out.on hF1)
      clear hF1 hg1
      obtain ⟨sr,Ar,lr,cr,hBr,hIr⟩:=HMem.out.rest1
      obtain ⟨sg_,Ag,lg,cg,hBg,hIg⟩:=HMem.out.fac1
      obtain ⟨m0,m1,_,_⟩:=hBr.cell2
      obtain ⟨n0,n1,_,_⟩:=hBg.cell2
      go_wp2_with fail
      refine (Zev _ _ t1 r1 _ (HGl.out.ext HMem.out.ext) hIg hIr (by have:=W1.out; unfold Fits; omega) (by have:=W3.out; unfold Fits; omega) (HGA.out _ _ ⟨HBt.out,HB3.out⟩)).mono ?_
      rintro e w5 ⟨u5,rfl,hI5,hF1⟩
      obtain ⟨s5,A5,l5,c5,rfl⟩:=hI5.shape
      have HI5:=zh hI5
      replace HMem:=zh (HMem.out.on hF1)
      clear hBr hIr hBg hIg m0 m1 n0 n1 hF1 hI5
      go_wp2_with fail
      refine (Zbj _ _ _ HI5.out).mono ?_
      clear HI5
      by_cases hg2:((Int.gcd t1 r1:Nat):Int)=1
      ·rw [decide_eq_true hg2]
       have HG2:Hid (Int.gcd t1 r1=1):=by unfold Hid; omega
       have Ht0:Hid (t1≠0):=fun e0=>by
        have h1:=HG1.out
        rw [e0] at h1
        simp at h1
        omega
       rintro e w6 ⟨rfl,hF1⟩
       have HRi:Hid (ZbC v m (Rat.divInt r1 t1) true):=⟨r1,t1,HRun.out _ _ (RecRun.done HSM.out),Or.inl ⟨rfl,HST.out,HG1.out,HG2.out,rfl⟩⟩
       replace HMem:=zh (HMem.out.on hF1)
       clear hF1 hg2
       obtain ⟨sr,Ar,lr,cr,hBr,hIr⟩:=HMem.out.rest1
       obtain ⟨sg_,Ag,lg,cg,hBg,hIg⟩:=HMem.out.fac1
       obtain ⟨m0,m1,_,_⟩:=hBr.cell2
       obtain ⟨n0,n1,_,_⟩:=hBg.cell2
       go_wp2_with fail
       refine (ZkE _ _ r1 t1 _ (HGl.out.ext HMem.out.ext) hIr hIg (by have:=W3.out; unfold Fits; omega) (by have:=W1.out; unfold Fits; omega) (HGA.out _ _ ⟨HB3.out,HBt.out⟩) (by have:=W1.out; omega) Ht0.out).mono ?_
       rintro e w7 ⟨u7,rfl,hR7,hF1⟩
       obtain ⟨s,t,A,B,l,c,l',c',rfl,hIn,hId⟩:=hR7
       have HIn:=zh hIn
       have HId:=zh hId
       replace HMem:=zh (HMem.out.on hF1)
       clear hBr hIr hBg hIg m0 m1 n0 n1 hF1 hIn hId
       obtain ⟨z0,z1,z2,z3,z4,z5,z6,z7⟩:=HMem.out.res.cell4
       go_wp2
       exact Zhg rfl rfl rfl (HMem.out.res.put4 _ _ _ _) (Fr.local_ HMem.out.ext (Fr.set4 _ _ _ _) d2) ⟨_,_,_,_,_,_,_,_,rfl,HIn.out.other HMem.out.res Zbb (Fr.set4 _ _ _ _),HId.out.other HMem.out.res Zbb (Fr.set4 _ _ _ _)⟩ HRi.out
      ·rw [decide_eq_false hg2]
       have HG2:Hid (¬ Int.gcd t1 r1=1):=by unfold Hid; omega
       clear hg2
       rintro e w6 ⟨rfl,hF⟩
       have HRi:Hid (ZbC v m 0 false):=⟨r1,t1,HRun.out _ _ (RecRun.done HSM.out),Or.inr ⟨rfl,fun hh=>HG2.out hh.2.2,rfl⟩⟩
       replace HMem:=zh (HMem.out.on hF)
       clear hF
       obtain ⟨z0,z1,z2,z3,z4,z5,z6,z7⟩:=HMem.out.res.cell4
       go_wp2
       exact Zhg rfl rfl rfl (HMem.out.res.put4 _ _ _ _) (Fr.local_ HMem.out.ext (Fr.set4 _ _ _ _) d2) (ZaN.zero _) HRi.out
     ·rw [decide_eq_false hg1]
      have HG1:Hid (¬ Int.gcd t1 m=1):=by unfold Hid; omega
      clear hg1
      rintro e w4 ⟨rfl,hF⟩
      have HRi:Hid (ZbC v m 0 false):=⟨r1,t1,HRun.out _ _ (RecRun.done HSM.out),Or.inr ⟨rfl,fun hh=>HG1.out hh.2.1,rfl⟩⟩
      replace HMem:=zh (HMem.out.on hF)
      clear hF
      obtain ⟨z0,z1,z2,z3,z4,z5,z6,z7⟩:=HMem.out.res.cell4
      go_wp2
      exact Zhg rfl rfl rfl (HMem.out.res.put4 _ _ _ _) (Fr.local_ HMem.out.ext (Fr.set4 _ _ _ _) d2) (ZaN.zero _) HRi.out
    ·rw [decide_eq_false hst]
     have HST:=zh hst
     clear hst hBm hIm hBg hIg m0 m1 n0 n1
     rintro e w2 ⟨rfl,hF⟩
     have HRi:Hid (ZbC v m 0 false):=⟨r1,t1,HRun.out _ _ (RecRun.done HSM.out),Or.inr ⟨rfl,fun hh=>HST.out hh.1,rfl⟩⟩
     replace HMem:=zh (HMem.out.on hF)
     clear hF
     obtain ⟨z0,z1,z2,z3,z4,z5,z6,z7⟩:=HMem.out.res.cell4
     go_wp2
     exact Zhg rfl rfl rfl (HMem.out.res.put4 _ _ _ _) (Fr.local_ HMem.out.ext (Fr.set4 _ _ _ _) d2) (ZaN.zero _) HRi.out
   ·rw [decide_eq_false hsm]
    rintro e w1 ⟨rfl,hF1⟩
    have HSM:=zh hsm
    have hr1:0 < r1:=by
     have:=HInv.out.nonneg
     rcases Int.lt_or_le 0 r1 with h | h
     ·exact h
     ·exfalso; apply hsm; have e0:r1=0:=by omega
      rw [e0]; omega
    replace HMem:=zh (HMem.out.on hF1)
    clear hBm hIm hBr hIr m0 m1 n0 n1 hF1 hsm
    obtain ⟨s0,A0,l0,c0,hB0,hI0⟩:=HMem.out.rest0
    obtain ⟨s7,A7,l7,c7,hB7,hI7⟩:=HMem.out.rest1
    obtain ⟨m0,m1,_,_⟩:=hB0.cell2
    obtain ⟨n0,n1,_,_⟩:=hB7.cell2
    go_wp2_with fail
    refine (ZfO _ _ r0 r1 _ hI0 hI7 (by have:=W2.out; unfold Fits; omega) (by have:=W3.out; omega) (by omega)).mono ?_
    rintro e w2 ⟨u1,u2,rfl,hN1,hN2,hF2⟩
    obtain ⟨sq,Aq,lq,cq,rfl⟩:=hN1.shape
    obtain ⟨sn,An,ln,cn,rfl⟩:=hN2.shape
    have HI7:=zh (hI7.ext hF2)
    have HTN:=zh (Zga (Fr.refl _ _) hN1 hN2)
    replace HMem:=zh (HMem.out.on hF2)
    have e10:g < w2.heap.size:=HMem.out.fac1.lt
    have e11:f < w2.heap.size:=HMem.out.fac0.lt
    have HWq:Hid (wl (r0.tdiv r1).natAbs < 39):=by
     have h1:(r0.tdiv r1).natAbs≤r0.natAbs:=by rw [Int.natAbs_tdiv]; exact Nat.div_le_self _ _
     exact Nat.lt_of_le_of_lt (ZaT h1) W2.out
    have HNx:=zh (HInv.out.next hr1)
    have HRn:Hid (∀ x y,RecRun m r1 (r0.tmod r1) t1 (t0 - r0.tdiv r1 * t1) x y→RecRun m m (v % m) 0 1 x y):=fun x y h=>HRun.out x y (RecRun.step (Int.not_lt.2 HSM.out) h)
    have hmeas:Hid ((r0.tmod r1).toNat < gk):=by
     have h1:=HNx.out.lt
     have h2:=HNx.out.nonneg
     have:=HK.out
     unfold Hid; omega
    clear hN1 hN2 hF2 hB0 hI0 hB7 hI7 m0 m1 n0 n1 HSM HInv HRun
    go_wp2_with fail
    generalize hw3:World.alloc (World.alloc w2 _) _=w3
    have hTN:=HTN.out
    rw [show (w2.alloc (bx sq Aq lq cq)).alloc (bx sn An ln cn)=w3 from hw3] at hTN
    obtain ⟨h10,h11,hE3,hne10,_,_⟩:=hTN
    replace HMem:=zh (HMem.out.on hE3)
    replace HI7:=zh (HI7.out.ext hE3)
    have e12:g < w2.heap.size + 1:=by omega
    have e13:f < w2.heap.size + 1:=by omega
    have H10:=zh h10
    have H11:=zh h11
    generalize w2.heap.size + 1=G11 at *
    generalize w2.heap.size=G10 at *
    clear hw3 HTN hE3 h10 h11
    obtain ⟨s7',A7',l7',c7',hB7,hI7⟩:=HMem.out.rest1
    obtain ⟨s11,A11,l11,c11,hB11,hI11⟩:=H11.out
    obtain ⟨s6,A6,l6,c6,hB6,_⟩:=HMem.out.rest0
    obtain ⟨p0,p1,p2,p3⟩:=hB6.cell2
    have hD:=HNE.out
    unfold Zeg at hD
    refine Zeb 3 (fun w'=>(w'.cell? ⟨g7,0,none⟩=some (.bool s7')∧w'.cell? ⟨g7,1,none⟩=some (.slice A7' l7' c7'))∧(w'.cell? ⟨G11,0,none⟩=some (.bool s11)∧w'.cell? ⟨G11,1,none⟩=some (.slice A11 l11 c11))) Zdn ?_
    refine ZbT 0 rfl (by kernel_rfl) (fun _ _ _ h=>h) (Zbg hB7 hB11 (Fr.refl _ _).drew) (fun _=>Zbo rfl rfl rfl (fun _ h=>h.1)) (fun hS=>?_)
    refine ZbT 1 rfl (by kernel_rfl) (fun _ _ _ h=>h) hS (fun _=>Zbo rfl rfl rfl (fun _ h=>h.2)) (fun hS=>?_)
    refine ZcW 2 rfl (by kernel_rfl) rfl (fun K hK=>?_)
    go_simp
    refine hK _ _ (ZoV hB7 hB11 (r:=g6) (i:=0) (j:=1) (by omega) (by omega)) ?_
    have kA:=(HMem.out.put0 HNE.out hI7).on (Fr.refl _ _).drew
    have kI:=(Zaf.away (a:=.bool s7') (b:=.slice A7' l7' c7') hI11 HMem.out.rest0).ext (Fr.refl _ _).drew
    have k10:=(Za4.away (a:=.bool s7') (b:=.slice A7' l7' c7') H10.out HMem.out.rest0 (by omega)).ext (Fr.refl _ _).drew
    first
     | generalize World.drew (World.setCell (World.setCell w3 _ _) _ _)=wA at *
     | generalize World.setCell (World.setCell (World.drew w3) _ _) _ _=wA at *
    have HMA:=zh kA
    have HIA:=zh kI
    have H10A:=zh k10
    obtain ⟨s7'',A7'',l7'',c7'',hB7'',_⟩:=kA.rest1
    obtain ⟨q0,q1,q2,q3⟩:=hB7''.cell2
    clear kA kI k10 hK hS hB7 hI7 hB11 hI11 hB6 p0 p1 p2 p3 HI7 H10 H11 hB7'' HMem
    refine Zcz (l:=[_]) 3 rfl (by kernel_rfl) ?_
    go_wp2_with fail
    have kB:=HMA.out.put1 HNE.out HIA.out
    have k10:=Za4.away (a:=.bool s11) (b:=.slice A11 l11 c11) H10A.out HMA.out.rest1 (by omega)
    generalize World.setCell (World.setCell wA _ _) _ _=wB at *
    have HMB:=zh kB
    have H10B:=zh k10
    clear kB k10 q0 q1 q2 q3 HMA HIA H10A
    obtain ⟨sf,Af,lf,cf,hBf,hIf⟩:=HMB.out.fac0
    obtain ⟨sg_,Ag,lg,cg,hBg,hIg⟩:=HMB.out.fac1
    obtain ⟨st,At,lt,ct,hBt,hIt⟩:=H10B.out
    refine Zeb 6 (fun w'=>(w'.cell? ⟨g,0,none⟩=some (.bool sg_)∧w'.cell? ⟨g,1,none⟩=some (.slice Ag lg cg))∧(w'.cell? ⟨f,0,none⟩=some (.bool sf)∧w'.cell? ⟨f,1,none⟩=some (.slice Af lf cf))∧(w'.cell? ⟨G10,0,none⟩=some (.bool st)∧w'.cell? ⟨G10,1,none⟩=some (.slice At lt ct))) Zdn ?_
    refine ZbT 0 rfl (by kernel_rfl) (fun _ _ _ h=>h) (ZkH hBg hBf hBt (Fr.refl _ _).drew) (fun _=>Zbo rfl rfl rfl (fun _ h=>h.1)) (fun hS=>?_)
    refine ZbT 1 rfl (by kernel_rfl) (fun _ _ _ h=>h) hS (fun _=>Zbo rfl rfl rfl (fun _ h=>h.2.1)) (fun hS=>?_)
    refine ZbT 2 rfl (by kernel_rfl) (fun _ _ _ h=>h) hS (fun _=>Zbo rfl rfl rfl (fun _ h=>h.2.2)) (fun hS=>?_)
    refine ZbT 3 rfl (by kernel_rfl) (fun _ _ _ h=>h) hS (fun _=>Zbo rfl rfl rfl (fun _ h=>h.1)) (fun hS=>?_)
    refine ZcW 4 rfl (by kernel_rfl) rfl (fun K hK=>?_)
    go_simp
    refine (Zg1 _ _ (r0.tdiv r1) t1 _ (hIt.ext (Fr.refl _ _).drew) (hIg.ext (Fr.refl _ _).drew) (by have:=HWq.out; unfold Fits; omega) (by have:=W1.out; unfold Fits; omega) (Or.inr (by have:=W1.out; omega))).mono ?_
    rintro e wM ⟨uM,rfl,hIM,hFM⟩
    obtain ⟨sM,AM,lM,cM,rfl⟩:=hIM.shape
    replace hFM:=Fr.undrew hFM
    refine hK _ _ (ZkH hBg hBf hBt hFM) ?_
    refine ZcW 5 rfl (by kernel_rfl) rfl (fun K hK=>?_)
    go_simp
    refine (Zog _ _ t0 (r0.tdiv r1 * t1) _ (hIf.ext hFM) hIM (by have:=W4.out hr1; unfold Fits; omega) (by have h1:=Zfq (r0.tdiv r1).natAbs t1.natAbs; have:=HWq.out; have:=W1.out; unfold Fits; rw [Int.natAbs_mul]; omega)).mono ?_
    rintro e wS ⟨uS,rfl,hIS,hFS⟩
    obtain ⟨sS,AS,lS,cS,rfl⟩:=hIS.shape
    refine hK _ _ (ZkH hBg hBf hBt (hFM.trans hFS)) ?_
    have HMC:=zh (HMB.out.on (hFM.trans hFS))
    have HIg:=zh (hIg.ext (hFM.trans hFS))
    have HIS:=zh hIS
    clear hK hS hBf hIf hBg hIg hBt hIt hIM hFM hIS hFS HMB H10B
    obtain ⟨sf',Af',lf',cf',hBf',_⟩:=HMC.out.fac0
    obtain ⟨sg',Ag',lg',cg',hBg',_⟩:=HMC.out.fac1
    obtain ⟨p0,p1,p2,p3⟩:=hBf'.cell2
    obtain ⟨q0,q1,q2,q3⟩:=hBg'.cell2
    clear hBf' hBg'
    refine Zcz (l:=[_,_]) 6 rfl (by kernel_rfl) ?_
    go_wp2
    have kC:=HMC.out.put2 HNE.out HIg.out
    have kI:=Zaf.away (a:=.bool sg_) (b:=.slice Ag lg cg) HIS.out HMC.out.fac0
    have kD:=kC.put3 HNE.out kI
    go_roundg (r0.tmod r1).toNat
    case measure=>exact hmeas.out
    case rel=>exact ⟨r1,r0.tmod r1,t1,t0 - r0.tdiv r1 * t1,rfl,kD,HNx.out,HRn.out⟩
end Go.Proofs.YthlipnahcbcjkaaGreatDoor

namespace Go.Proofs.YthlipnahcbcjkaaGreatDoor
open Go.RowKit
def RcIs (la lb s:List UInt8) (ok:Bool):Prop :=
 (ok=true∧∃ v m:Int,Zaz la=some (v:Rat)∧Zaz lb=some (m:Rat)∧2≤m∧∃ q,ZbC v m q true∧s=ZbF q) ∨
 (ok=false∧s=[]∧∀ v m:Int,Zaz la=some (v:Rat)→Zaz lb=some (m:Rat)→2≤m→∀ q,¬ ZbC v m q true)
theorem ZbC.one {v m:Int} {q q':Rat} (h:ZbC v m q true) (k:ZbC v m q' true):q=q':=by
 obtain ⟨r,t,h1,h2⟩:=h
 obtain ⟨r',t',k1,k2⟩:=k
 obtain ⟨rfl,rfl⟩:=h1.unique k1
 rcases h2 with ⟨_,_,_,_,e⟩ | ⟨e,_⟩
 ·rcases k2 with ⟨_,_,_,_,e'⟩ | ⟨e',_⟩
  ·rw [e,e']
  ·cases e'
 ·cases e
theorem RcIs.unique {la lb s s':List UInt8} {ok ok':Bool} (h:RcIs la lb s ok) (k:RcIs la lb s' ok'):s=s'∧ok=ok':=by
 rcases h with ⟨rfl,v,m,h1,h2,h3,q,h4,rfl⟩ | ⟨rfl,rfl,h⟩
 ·rcases k with ⟨rfl,v',m',k1,k2,k3,q',k4,rfl⟩ | ⟨rfl,rfl,k⟩
  ·rw [h1] at k1; rw [h2] at k2
   injection k1 with k1; injection k2 with k2
   obtain rfl:=Rat.intCast_inj.1 k1
   obtain rfl:=Rat.intCast_inj.1 k2
   exact ⟨by rw [h4.one k4],rfl⟩
  ·exact absurd h4 (k v m h1 h2 h3 q)
 ·rcases k with ⟨rfl,v',m',k1,k2,k3,q',k4,rfl⟩ | ⟨rfl,rfl,k⟩
  ·exact absurd k4 (h v' m' k1 k2 k3 q')
  ·exact ⟨rfl,rfl⟩
theorem RecRun.small {m r0 r1 t0 t1 r t:Int} (h:RecRun m r0 r1 t0 t1 r t):r * r * 2 < m:=by
 induction h with
 | done h=>exact h
 | step _ _ ih=>exact ih
theorem ZkJ {r m:Int} (h:r * r * 2 < m):r.natAbs≤m.natAbs:=by
 have h1:((r.natAbs * r.natAbs:Nat):Int)=r * r:=Int.natAbs_mul_self
 rcases Nat.eq_zero_or_pos r.natAbs with e | e
 ·omega
 ·have h2:r.natAbs * 1≤r.natAbs * r.natAbs:=Nat.mul_le_mul_left _ e
  omega
theorem ZoA {q:Rat} {n d:Int} (hd:d≠0) (h:Rat.divInt n d=q):q.num.natAbs≤n.natAbs∧q.den≤d.natAbs:=by
 have hc:q.num * d=n * q.den:=by
  have h1:=Rat.num_divInt_den q
  rw [← h1] at h
  exact ((Rat.divInt_eq_divInt_iff hd (denI q)).1 h).symm
 have hn:q.num.natAbs * d.natAbs=n.natAbs * q.den:=by
  have:=congrArg Int.natAbs hc
  rwa [Int.natAbs_mul,Int.natAbs_mul,Int.natAbs_natCast] at this
 have hcop:=q.reduced
 have hd1:q.den ∣ d.natAbs:=(Nat.Coprime.symm hcop).dvd_of_dvd_mul_left ⟨n.natAbs,by rw [hn,Nat.mul_comm]⟩
 have hd0:0 < d.natAbs:=by omega
 have hde:=Nat.le_of_dvd hd0 hd1
 refine ⟨?_,hde⟩
 have hn1:q.num.natAbs ∣ n.natAbs:=hcop.dvd_of_dvd_mul_right ⟨d.natAbs,hn.symm⟩
 rcases Nat.eq_zero_or_pos n.natAbs with e | e
 ·rw [e,Nat.zero_mul] at hn
  rcases Nat.mul_eq_zero.1 hn with e2 | e2
  ·omega
  ·omega
 ·exact Nat.le_of_dvd e hn1
theorem ZbC.size {v m:Int} {q:Rat} (h:ZbC v m q true) (hm:2≤m):q.num.natAbs≤m.natAbs∧q.den≤m.natAbs:=by
 obtain ⟨r,t,h1,h2⟩:=h
 rcases h2 with ⟨_,h3,h4,_,rfl⟩ | ⟨e,_⟩
 ·have ht:t≠0:=fun e=>by
   rw [e] at h4
   simp at h4; omega
  obtain ⟨f1,f2⟩:=ZoA (n:=r) ht rfl
  have:=ZkJ h1.small
  have:=ZkJ h3
  omega
 ·cases e
theorem ZbC.ok {v m:Int} {q:Rat} (h:ZbC v m q false):∀ q',¬ ZbC v m q' true:=fun q' k=>by
 obtain ⟨r,t,h1,h2⟩:=h
 obtain ⟨r',t',k1,k2⟩:=k
 obtain ⟨rfl,rfl⟩:=h1.unique k1
 rcases h2 with ⟨e,_⟩ | ⟨_,h2,_⟩
 ·cases e
 ·rcases k2 with ⟨_,a,b,c,_⟩ | ⟨e,_⟩
  ·exact h2 ⟨a,b,c⟩
  ·cases e
theorem RcIs.none1 {la lb:List UInt8} (h:Zaz la=none):RcIs la lb [] false:=Or.inr ⟨rfl,rfl,fun v m h1=>by rw [h] at h1; cases h1⟩
theorem RcIs.none2 {la lb:List UInt8} (h:Zaz lb=none):RcIs la lb [] false:=Or.inr ⟨rfl,rfl,fun v m _ h1=>by rw [h] at h1; cases h1⟩
theorem RcIs.frac1 {la lb:List UInt8} {q:Rat} (h:Zaz la=some q) (hd:¬ q.den=1):RcIs la lb [] false:=Or.inr ⟨rfl,rfl,fun v m h1=>by rw [h] at h1; injection h1 with h1; exact absurd (by rw [h1]; rfl) hd⟩
theorem RcIs.frac2 {la lb:List UInt8} {q:Rat} (h:Zaz lb=some q) (hd:¬ q.den=1):RcIs la lb [] false:=Or.inr ⟨rfl,rfl,fun v m _ h1=>by rw [h] at h1; injection h1 with h1; exact absurd (by rw [h1]; rfl) hd⟩
theorem RcIs.low {la lb:List UInt8} {q:Rat} (h:Zaz lb=some q) (hd:q.num < 2):RcIs la lb [] false:=Or.inr ⟨rfl,rfl,fun v m _ h1 h2=>by rw [h] at h1; injection h1 with h1; rw [h1] at hd; exact absurd hd (by simp; omega)⟩
theorem RcIs.got {la lb:List UInt8} {p q x:Rat} (h1:Zaz la=some p) (h2:Zaz lb=some q) (d1:p.den=1) (d2:q.den=1) (hm:¬ q.num < 2) (h:ZbC p.num q.num x true):RcIs la lb (ZbF x) true :=
 Or.inl ⟨rfl,p.num,q.num,by rw [h1,← Zjx d1],by rw [h2,← Zjx d2],by omega,x,h,rfl⟩
theorem RcIs.not {la lb:List UInt8} {p q:Rat} (h1:Zaz la=some p) (h2:Zaz lb=some q) (h:∀ x,¬ ZbC p.num q.num x true):RcIs la lb [] false :=
 Or.inr ⟨rfl,rfl,fun v m k1 k2 _ x=>by
  rw [h1] at k1; rw [h2] at k2
  injection k1 with k1; injection k2 with k2
  rw [k1,k2] at h
  exact h x⟩
end Go.Proofs.YthlipnahcbcjkaaGreatDoor

namespace Go.Proofs.YthlipnahcbcjkaaGreatDoor
open Go.RowKit
end Go.Proofs.YthlipnahcbcjkaaGreatDoor

namespace Go.Proofs.YthlipnahcbcjkaaGreatDoor
open Go.RowKit
end Go.Proofs.YthlipnahcbcjkaaGreatDoor

namespace Go.Proofs.YthlipnahcbcjkaaGreatDoor
open Go.RowKit
end Go.Proofs.YthlipnahcbcjkaaGreatDoor

namespace Go.Proofs.YthlipnahcbcjkaaGreatDoor
open Go.RowKit
section
variable {wb wr:World} {g:Nat} {q:Rat} {s t:Bool} {A B:Option Addr} {l c l' c':Nat}
end
end Go.Proofs.YthlipnahcbcjkaaGreatDoor

namespace Go.Proofs.YthlipnahcbcjkaaGreatDoor
open Go.RowKit
theorem itoa_one {n:Nat} (h:n < 10):Lib.itoa (n:Int)=[UInt8.ofNat (48 + n)]:=by
 unfold Lib.itoa
 rw [if_neg (by omega),Int.toNat_natCast,Lib.decDigits,dif_pos h]
theorem itoa_15:Lib.itoa 15=[49,53]:=by
 unfold Lib.itoa
 rw [if_neg (by omega),show (15:Int).toNat=15 from rfl,Lib.decDigits,dif_neg (by omega),Lib.decDigits,dif_pos (by omega)]
 rfl
theorem pr3:Pr 3:=Pr.of_noDiv (d:=2) (by omega) (by omega) (ZbM.two 3) (by omega) (by omega)
theorem pr5:Pr 5:=Pr.of_noDiv (d:=3) (by omega) (by omega) (ZbM.three (by omega)) (by omega) (by omega)
theorem crt_awake:crt (List.zip [2,3] [3,5])=(8,15):=by decide
theorem comb_awake {s t:List UInt8} {c:Int} (h:ZgM [2,3] [3,5] s t c):s=[56]∧t=[49,53]∧c=0:=by
 have hp:∀ p ∈ ([3,5]:List Int),Pr p:=by
  intro p hp
  simp at hp
  rcases hp with rfl | rfl
  ·exact pr3
  ·exact pr5
 have hn:([3,5]:List Int).Nodup:=by decide
 rcases h with h | h | h | h | h
 ·exact absurd rfl h.1
 ·have:=h.2.1; simp at this
 ·obtain ⟨p,hp1,hp2⟩:=h.2.2.1
  exact absurd (hp p hp1) hp2
 ·exact absurd hn h.2.2.2.1
 ·obtain ⟨_,_,_,_,h1,h2,h3⟩:=h
  rw [crt_awake] at h1 h2
  exact ⟨h1.trans (itoa_one (n:=8) (by omega)),h2.trans itoa_15,h3⟩
theorem split8:Zba [56]=(false,[56],[],true):=by decide
theorem split15:Zba [49,53]=(false,[49,53],[],true):=by decide
theorem read8:Zaz [56]=some ((8:Int):Rat):=by
 unfold Zaz
 rw [split8]
 rfl
theorem read15:Zaz [49,53]=some ((15:Int):Rat):=by
 unfold Zaz
 rw [split15]
 rfl
theorem run_awake:RecRun 15 15 (8 % 15) 0 1 1 2:=by
 refine RecRun.step (by decide) ?_
 refine RecRun.step (by decide) ?_
 exact RecRun.done (by decide)
theorem half_parts:(Rat.divInt 1 2).num=1∧(Rat.divInt 1 2).den=2:=by decide
theorem half_text:ZbF (Rat.divInt 1 2)=[49,47,50]:=by
 unfold ZbF
 rw [half_parts.1,half_parts.2,if_neg (by omega)]
 rw [show (1:Int)=((1:Nat):Int) from rfl,itoa_one (by omega),itoa_one (n:=2) (by omega)]
 rfl
theorem iShows_two {w:World} {g:Nat} {x y:Int} {t:TypeId} (h:Blk t w g #[.int .i64 x, .int .i64 y]):Zan w (some ⟨g,0,none⟩) [x,y]:=fun _=>by
 refine ⟨g,0,rfl,h.lt,fun i hi=>?_⟩
 rw [Nat.zero_add,h.cell]
 rcases i with _ | _ | i
 ·rfl
 ·rfl
 ·simp at hi; omega
end Go.Proofs.YthlipnahcbcjkaaGreatDoor
