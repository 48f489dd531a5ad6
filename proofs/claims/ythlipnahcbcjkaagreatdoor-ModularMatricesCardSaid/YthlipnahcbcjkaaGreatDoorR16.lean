/-
 My texts Gen, Small, Rat2, SxK, Sx8, Sx9, Sx12, Sx13, Mt, El, Ms0, Ms, Elw, Re, Ma, Reduce, Reduce2, RStr, Frac, Rt, Dc, RfM put together.
-/
import Derived.Test.YthlipnahcbcjkaaGreatDoorR13
import Derived.Test.YthlipnahcbcjkaaGreatDoorR10
import Derived.Test.YthlipnahcbcjkaaGreatDoorR15
import Derived.Outline
import Derived.Test.YthlipnahcbcjkaaGreatDoorR14
import Derived.Test.YthlipnahcbcjkaaGreatDoorR01
import Derived.Deep.LoopGhost
import Derived.Test.YthlipnahcbcjkaaGreatDoorR11
import Derived.Scope
import Derived.Test.YthlipnahcbcjkaaGreatDoorR02
set_option maxRecDepth 100000
namespace Go.Proofs.YthlipnahcbcjkaaGreatDoor
open Go.RowKit
theorem ZaE:Tryz.prog.follows .mixedOrders=true:=by kernel_rfl
theorem Zah.shp {w:World} {v:Value} {z:Int} (h:Zah w v z):∃ (s:Bool) (A:Option Addr) (l c:Nat),v=.agg #[.bool s, .slice A l c]:=h.shape
theorem Zah.nil (w:World):Zah w (.agg #[.bool false, .slice none 0 0]) 0:=Zah.zero w
theorem ZaX.nil (w:World):ZaX w (.agg #[.bool false, .slice none 0 0, .bool false, .slice none 0 0]) 0:=ZaX.zero w
theorem ZaX.shp {w:World} {v:Value} {q:Rat} (h:ZaX w v q):∃ (s:Bool) (A:Option Addr) (l c:Nat) (t:Bool) (B:Option Addr) (l' c':Nat),v=.agg #[.bool s, .slice A l c, .bool t, .slice B l' c']:=by
 obtain ⟨s,t,A,B,l,c,l',c',h,_⟩:=h
 exact ⟨s,A,l,c,t,B,l',c',h⟩
theorem ZaX.of {w:World} {s t:Bool} {A B:Option Addr} {l c l' c':Nat} {q:Rat} (h1:Zah w (.agg #[.bool s, .slice A l c]) q.num) (h2:Zah w (.agg #[.bool t, .slice B l' c']) (denF q)):ZaX w (.agg #[.bool s, .slice A l c, .bool t, .slice B l' c']) q :=
 ⟨_,_,_,_,_,_,_,_,rfl,h1,h2⟩
section
variable {ops:Array Oper} {S:World→Prop} {o:Oper} {a:Act} {p:Operand} {g off:Nat} {x y z u v:Value}
end
end Go.Proofs.YthlipnahcbcjkaaGreatDoor

namespace Go.Proofs.YthlipnahcbcjkaaGreatDoor
open Go.RowKit
theorem ZdB:Tryz.prog.follows .mixedOrders=true:=by kernel_rfl
theorem Zbz {ops:Array Oper} {S:World→Prop} {o:Oper} {a:Act} {p:Operand} {g:Nat} {x y:Value} (hg:o.guard=none) (ho:o.op=Op.load 105 p) (hp:a.eval p=.pointer (some ⟨g,0,none⟩))
 (hc:∀ w,S w→w.cell? ⟨g,0,none⟩=some x∧w.cell? ⟨g,1,none⟩=some y):YieldsIf Tryz.prog ops S o (.agg #[x,y]) a :=
 Or.inl ⟨by unfold Region.wanted; rw [hg],fun w hS=>by
  obtain ⟨h0,h1⟩:=hc w hS
  simp only [execOp,ho,hp]
  simp [go_sem,h0,h1]⟩
theorem Zg1 (a b:Int):cmpI a b < 0 ↔ a < b:=by
 unfold cmpI
 split
 ·simp; omega
 ·split
  ·simp; omega
  ·simp; omega
theorem Zbp {t t':TypeId} {w w':World} {g g':Nat} {x y x' y':Value} (h:Blk t w g #[x,y]) (h':Blk t' w g' #[x',y']) (hF:Ext w w') :
 (w'.cell? ⟨g,0,none⟩=some x∧w'.cell? ⟨g,1,none⟩=some y)∧(w'.cell? ⟨g',0,none⟩=some x'∧w'.cell? ⟨g',1,none⟩=some y') :=
 ⟨⟨(h.ext hF).cell 0,(h.ext hF).cell 1⟩,⟨(h'.ext hF).cell 0,(h'.ext hF).cell 1⟩⟩
set_option maxHeartbeats 1000000 in
theorem ZhW (a b:Value) (x m:Int) (w:World) (ha:Zah w a x) (hb:Zah w b m) (hx:wl x.natAbs < 40) (hm:Fits m):Calls Tryz.prog 206 #[a,b] w (RetV w (.bool (decide (x * x * 2 < m)))):=by
 obtain ⟨s,A,l,c,rfl⟩:=ha.shape
 obtain ⟨t,B,l',c',rfl⟩:=hb.shape
 have HA:=zh ha
 have HB:=zh hb
 have HX:=zh hx
 have HM:=zh hm
 have HXX:Hid (Fits (x * x)):=by
  have h1:=ZfK x.natAbs x.natAbs
  unfold Hid Fits; rw [Int.natAbs_mul]; exact Nat.le_trans h1 (by omega)
 have HXY:Hid (Fits (x * x * ((2 ^ 1:Nat):Int))):=by
  have h1:=ZfK (x * x).natAbs 2
  have h2:=ZfK x.natAbs x.natAbs
  have h3:wl 2≤1:=ZcB.2 (by rw [Zal]; omega)
  rw [← Int.natAbs_mul] at h2
  unfold Hid Fits; rw [Int.natAbs_mul,Int.natAbs_natCast]; exact Nat.le_trans h1 (by omega)
 clear ha hb hx hm
 go_enter Tryz.func206,Tryz.ntmps206
 go_wp2_with fail
 generalize hwb:World.alloc (World.alloc w _) _=wb
 obtain ⟨hBx,hBy,Q⟩:=Zcr hwb
 clear hwb
 refine Zey 8 (fun w'=>(w'.cell? ⟨w.heap.size,0,none⟩=some (.bool s)∧w'.cell? ⟨w.heap.size,1,none⟩=some (.slice A l c))∧(w'.cell? ⟨w.heap.size + 1,0,none⟩=some (.bool t)∧w'.cell? ⟨w.heap.size + 1,1,none⟩=some (.slice B l' c'))) ZdB ?_
 refine Zb4 0 rfl (by kernel_rfl) (fun _ _ _ h=>h) ⟨⟨hBx.cell 0,hBx.cell 1⟩,⟨hBy.cell 0,hBy.cell 1⟩⟩ (fun _=>Zbz rfl rfl rfl (fun _ h=>h.1)) (fun hS=>?_)
 refine Zb4 1 rfl (by kernel_rfl) (fun _ _ _ h=>h) hS (fun _=>Zbz rfl rfl rfl (fun _ h=>h.1)) (fun hS=>?_)
 refine Zb4 4 rfl (by kernel_rfl) (fun _ _ _ h=>h) hS (fun _=>Zbz rfl rfl rfl (fun _ h=>h.2)) (fun hS=>?_)
 refine Zdg 2 rfl (by kernel_rfl) rfl (fun K hK=>?_)
 go_simp
 refine (Zhp _ _ x x _ (HA.out.ext Q.drew) (HA.out.ext Q.drew) (by have:=HX.out; unfold Fits; omega) (by have:=HX.out; unfold Fits; omega) (Or.inl HX.out)).mono ?_
 rintro e w1 ⟨u1,rfl,hI1,hF1⟩
 obtain ⟨s1,A1,l1,c1,rfl⟩:=hI1.shape
 replace hF1:=Fr.undrew hF1
 refine hK _ _ (Zbp hBx hBy hF1) ?_
 refine Zdg 3 rfl (by kernel_rfl) rfl (fun K hK=>?_)
 go_simp
 refine (Zm7 _ _ 1 _ hI1 HXX.out (by omega)).mono ?_
 rintro e w2 ⟨u2,rfl,hI2,hF2⟩
 obtain ⟨s2,A2,l2,c2,rfl⟩:=hI2.shape
 refine hK _ _ (Zbp hBx hBy (hF1.trans hF2)) ?_
 refine Zdg 5 rfl (by kernel_rfl) rfl (fun K hK=>?_)
 go_simp
 refine (ZhP _ _ _ m _ hI2 (HB.out.ext ((Q.trans hF1).trans hF2)) HXY.out HM.out).mono ?_
 rintro e w3 ⟨rfl,hF3⟩
 refine hK _ _ (Zbp hBx hBy ((hF1.trans hF2).trans hF3)) ?_
 have HE3:=zh (((Q.trans hF1).trans hF2).trans hF3)
 refine Zdg 6 rfl (by kernel_rfl) rfl (fun K hK=>?_)
 go_simp
 refine hK _ _ (Zbp hBx hBy ((hF1.trans hF2).trans hF3)) ?_
 refine Zdg 7 rfl (by kernel_rfl) rfl (fun K hK=>?_)
 go_simp
 refine hK _ _ (Zbp hBx hBy ((hF1.trans hF2).trans hF3)) ?_
 refine ZcP (l:=[]) 8 rfl (by kernel_rfl) ?_
 have HC:Hid (decide (cmpI (x * x * ((2 ^ 1:Nat):Int)) m < 0)=decide (x * x * 2 < m)):=by
  unfold Hid
  have:=Zg1 (x * x * ((2 ^ 1:Nat):Int)) m
  have e:((2 ^ 1:Nat):Int)=2:=rfl
  rw [e] at this ⊢
  by_cases h:x * x * 2 < m
  ·rw [decide_eq_true h,decide_eq_true (this.2 h)]
  ·rw [decide_eq_false h,decide_eq_false (fun k=>h (this.1 k))]
 go_wp2
 go_ret
 exact ⟨by rw [← HC.out]; rfl,HE3.out⟩
end Go.Proofs.YthlipnahcbcjkaaGreatDoor

namespace Go.Proofs.YthlipnahcbcjkaaGreatDoor
open Go.RowKit
def Zbc (w:World) (g:Nat) (z:Int):Prop:=∃ s A l c,Blk 105 w g #[.bool s, .slice A l c]∧Zah w (.agg #[.bool s, .slice A l c]) z
theorem Zbc.ext {w w':World} {g:Nat} {z:Int} (h:Zbc w g z) (hF:Ext w w'):Zbc w' g z:=by
 obtain ⟨s,A,l,c,h1,h2⟩:=h
 exact ⟨s,A,l,c,h1.ext hF,h2.ext hF⟩
theorem Zbc.lt {w:World} {g:Nat} {z:Int} (h:Zbc w g z):g < w.heap.size:=by
 obtain ⟨_,_,_,_,h1,_⟩:=h
 exact h1.lt
theorem Zbc.put {w:World} {g:Nat} {z z':Int} {s:Bool} {A:Option Addr} {l c:Nat} (h:Zbc w g z) (hI:Zah w (.agg #[.bool s, .slice A l c]) z'):Zbc ((w.setCell ⟨g,0,none⟩ (.bool s)).setCell ⟨g,1,none⟩ (.slice A l c)) g z':=by
 obtain ⟨s0,A0,l0,c0,h1,_⟩:=h
 exact ⟨s,A,l,c,(h1.set_ 0 _).set_ 1 _,hI.other h1 Zig (Fr.set2 _ _)⟩
theorem Zbc.away {w:World} {g r:Nat} {z z0:Int} {a b:Value} (h:Zbc w g z) (hr:Zbc w r z0) (hne:g≠r):Zbc ((w.setCell ⟨r,0,none⟩ a).setCell ⟨r,1,none⟩ b) g z:=by
 obtain ⟨s,A,l,c,h1,h2⟩:=h
 obtain ⟨s0,A0,l0,c0,k1,_⟩:=hr
 exact ⟨s,A,l,c,h1.fr (Fr.set2 _ _) hne,h2.other k1 Zig (Fr.set2 _ _)⟩
theorem Zah.away {w:World} {r:Nat} {v:Value} {z z0:Int} {a b:Value} (h:Zah w v z) (hr:Zbc w r z0):Zah ((w.setCell ⟨r,0,none⟩ a).setCell ⟨r,1,none⟩ b) v z:=by
 obtain ⟨s0,A0,l0,c0,k1,_⟩:=hr
 exact h.other k1 Zig (Fr.set2 _ _)
def ZiW (w:World) (q:Rat) (e:Ending) (w':World):Prop:=∃ v,e=.returned v∧ZaX w' v q∧Ext w w'
theorem Zl3 {fn:Func} {t:Tmp} {tmps:Array Value} {w w':World} {r:Nat} {s s':Bool} {A B:Option Addr} {l c l' c':Nat} {q:Rat} (hres:fn.results=#[.cell t 107]) (ht:tmps[t]? = some (.pointer (some ⟨r,0,none⟩)))
 (hB:Blk 107 w' r #[.bool s, .slice A l c, .bool s', .slice B l' c']) (hI:Zah w' (.agg #[.bool s, .slice A l c]) q.num) (hI':Zah w' (.agg #[.bool s', .slice B l' c']) (denF q)) (Q:Ext w w') :
 bodyPost Tryz.prog fn (ZiW w q) .ret ⟨tmps,[]⟩ w':=by
 obtain ⟨h0,h1,h2,h4,_⟩:=hB.cell4
 exact bodyPost_ret (v:=.agg #[.bool s, .slice A l c, .bool s', .slice B l' c']) (by simp [results,hres,ht,go_sem,h0,h1,h2,h4]) rfl ⟨_,rfl,⟨_,_,_,_,_,_,_,_,rfl,hI,hI'⟩,Q⟩
theorem ZdQ {q:Rat}:denF q=0 ↔ q.den=1:=by
 unfold denF
 have:=q.den_nz
 split<;>omega
set_option maxHeartbeats 1000000 in
theorem ZeA (a:Value) (q:Rat) (w:World) (ha:ZaX w a q):Calls Tryz.prog 133 #[a] w (RetV w (.bool (decide (q.den=1)))):=by
 obtain ⟨s,t,A,B,l,c,l',c',rfl,hn,hd⟩:=ha
 have HD:=zh hd
 have hdc:Hid (decide (denF q=0)=decide (q.den=1)):=by
  unfold Hid
  by_cases h:q.den=1
  ·rw [decide_eq_true h,decide_eq_true (ZdQ.2 h)]
  ·rw [decide_eq_false h,decide_eq_false (fun k=>h (ZdQ.1 k))]
 clear hn hd
 go_enter Tryz.func133,Tryz.ntmps133
 go_wp2_with fail
 refine (Zdm _ _ _ (HD.out.ext ((Fr.refl _ _).alloc _))).mono ?_
 rw [hdc.out]
 rintro e w1 ⟨rfl,hF⟩
 have HF:=zh (((Fr.refl _ _).alloc _).trans hF:Ext w w1)
 clear hF
 go_wp2
 go_ret
 exact ⟨rfl,HF.out⟩
set_option maxHeartbeats 1000000 in
theorem Zl4 (a:Value) (q:Rat) (w:World) (ha:ZaX w a q):Calls Tryz.prog 134 #[a] w (Za7 w q.num):=by
 obtain ⟨s,t,A,B,l,c,l',c',rfl,hn,hd⟩:=ha
 have HN:=zh hn
 clear hn hd
 go_enter Tryz.func134,Tryz.ntmps134
 go_wp2
 have h1:=Blk.new (w.alloc (.cells #[.bool s, .slice A l c, .bool t, .slice B l' c'] 107)) 105 #[.bool s, .slice A l c]
 have e:(w.alloc (.cells #[.bool s, .slice A l c, .bool t, .slice B l' c'] 107)).heap.size=w.heap.size + 1:=by simp
 rw [e] at h1
 exact ZkM rfl rfl h1 (HN.out.ext (((Fr.refl _ _).alloc _).alloc _)) (((Fr.refl _ _).alloc _).alloc _)
set_option maxHeartbeats 1000000 in
theorem ZeL (a b:Value) (x y:Int) (q:Rat) (w:World) (ha:Zah w a x) (hb:Zah w b y) (hq:q.num=x∧(q.den:Int)=y):Calls Tryz.prog 75 #[a,b] w (ZiW w q):=by
 obtain ⟨s,A,l,c,rfl⟩:=ha.shape
 obtain ⟨t,B,l',c',rfl⟩:=hb.shape
 have HA:=zh ha
 have HB:=zh hb
 have HQ:=zh hq
 clear ha hb hq
 go_enter Tryz.func75,Tryz.ntmps75
 go_wp2_with fail
 generalize hwb:World.alloc (World.alloc (World.alloc w _) _) _=wb
 have Q:Ext w wb:=hwb ▸ (((Fr.refl _ _).alloc _).alloc _).alloc _
 have hB0:Blk 105 wb w.heap.size #[.bool s, .slice A l c]:=hwb ▸ ((Blk.new _ _ _).alloc _).alloc _
 have hB1:Blk 105 wb (w.heap.size + 1) #[.bool t, .slice B l' c']:=by
  have h:=(Blk.new (w.alloc (.cells #[.bool s, .slice A l c] 105)) 105 #[.bool t, .slice B l' c']).alloc (.cells #[.bool false, .slice none 0 0, .bool false, .slice none 0 0] 107)
  have e:(w.alloc (.cells #[.bool s, .slice A l c] 105)).heap.size=w.heap.size + 1:=by simp
  rw [e] at h
  exact hwb ▸ h
 have hB2:Blk 107 wb (w.heap.size + 1 + 1) #[.bool false, .slice none 0 0, .bool false, .slice none 0 0]:=by
  have h:=Blk.new ((w.alloc (.cells #[.bool s, .slice A l c] 105)).alloc (.cells #[.bool t, .slice B l' c'] 105)) 107 #[.bool false, .slice none 0 0, .bool false, .slice none 0 0]
  have e:((w.alloc (.cells #[.bool s, .slice A l c] 105)).alloc (.cells #[.bool t, .slice B l' c'] 105)).heap.size=w.heap.size + 1 + 1:=by simp
  rw [e] at h
  exact hwb ▸ h
 clear hwb
 refine (Zbt _ y _ (HB.out.ext Q)).mono ?_
 by_cases h1:y=1
 ·rw [decide_eq_true h1]
  rintro e w1 ⟨rfl,hF⟩
  have HE:=zh (Q.trans hF)
  have HB0:=zh (hB0.ext hF)
  have HB2:=zh (hB2.ext hF)
  have HD:Hid (denF q=0):=ZdQ.2 (by have:=HQ.out.2; omega)
  obtain ⟨x0,x1,_,_⟩:=HB0.out.cell2
  obtain ⟨y0,y1,y2,y3,y4,y5,y6,y7⟩:=HB2.out.cell4
  clear Q hF hB0 hB1 hB2 h1
  go_wp2
  refine Zl3 rfl rfl (HB2.out.put4 _ _ _ _) ?_ ?_ (Fr.local_ HE.out (Fr.set4 _ _ _ _) (by omega))
  ·rw [HQ.out.1]; exact (HA.out.ext HE.out).other HB2.out Zbj (Fr.set4 _ _ _ _)
  ·rw [HD.out]; exact Zah.zero _
 ·rw [decide_eq_false h1]
  rintro e w1 ⟨rfl,hF⟩
  have HE:=zh (Q.trans hF)
  have HB0:=zh (hB0.ext hF)
  have HB1:=zh (hB1.ext hF)
  have HB2:=zh (hB2.ext hF)
  have HD:Hid (denF q=y):=by
   have:=HQ.out.2
   unfold Hid denF; rw [if_neg (by omega)]; exact this
  obtain ⟨x0,x1,_,_⟩:=HB0.out.cell2
  obtain ⟨z0,z1,_,_⟩:=HB1.out.cell2
  obtain ⟨y0,y1,y2,y3,y4,y5,y6,y7⟩:=HB2.out.cell4
  clear Q hF hB0 hB1 hB2 h1
  go_wp2
  refine Zl3 rfl rfl (HB2.out.put4 _ _ _ _) ?_ ?_ (Fr.local_ HE.out (Fr.set4 _ _ _ _) (by omega))
  ·rw [HQ.out.1]; exact (HA.out.ext HE.out).other HB2.out Zbj (Fr.set4 _ _ _ _)
  ·rw [HD.out]; exact (HB.out.ext HE.out).other HB2.out Zbj (Fr.set4 _ _ _ _)
end Go.Proofs.YthlipnahcbcjkaaGreatDoor

namespace Go.Proofs.YthlipnahcbcjkaaGreatDoor
open Go.RowKit
section
variable {S:Nat→Prop} {w w' w0:World} {k:IntKind} {A:Option Addr} {xs:List Nat}
theorem Zan.nrb (hk:k≠.i64) (h:Zan k w A xs) (hS:∀ i,S i→NRB w i) (hF:Fr S w w'):Zan k w' A xs:=by
 cases xs with
 | nil=>exact Zan.nil
 | cons x xs =>
   refine h.fr hF (fun ad hA hlt hs=>?_)
   obtain ⟨g,off,e',_,hcl⟩:=h.at (i:=0) (by simp)
   rw [e'] at hA
   injection hA with hA
   subst hA
   obtain ⟨t,cs,hB,hc⟩:=hS _ hs
   rw [hB.cell] at hcl
   exact hk (hc _ _ _ hcl)
theorem Zaf.nrb {u:Value} {n:Nat} (h:Zaf w u n) (hS:∀ i,S i→NRB w i) (hF:Fr S w w'):Zaf w' u n:=by
 obtain ⟨A',xs,c',h1,h2,h3,h4⟩:=h
 exact ⟨A',xs,c',h1,h2,h3.nrb (by decide) hS hF,h4⟩
theorem Zah.nrb {v:Value} {z:Int} (h:Zah w v z) (hS:∀ i,S i→NRB w i) (hF:Fr S w w'):Zah w' v z:=by
 obtain ⟨s',u,n,h1,h2,h3⟩:=h
 exact ⟨s',u,n,h1,h2.nrb hS hF,h3⟩
theorem ZaX.nrb {v:Value} {q:Rat} (h:ZaX w v q) (hS:∀ i,S i→NRB w i) (hF:Fr S w w'):ZaX w' v q:=by
 obtain ⟨s,t,A,B,l,c,l',c',h1,h2,h3⟩:=h
 exact ⟨s,t,A,B,l,c,l',c',h1,h2.nrb hS hF,h3.nrb hS hF⟩
theorem NRB.ext {i:Nat} (h:NRB w i) (he:Ext w w'):NRB w' i:=by
 obtain ⟨t,cs,hB,hc⟩:=h
 exact ⟨t,cs,hB.ext he,hc⟩
theorem boxn {φ:World→Prop} (he:Ext w w') (h:∀ S w'',(∀ i,S i→NRB w' i)→Fr S w' w''→φ w''):BoxN w w' φ:=fun S hS w'' hf=>h S w'' (fun i hi=>(hS i hi).2.ext he) hf
end
abbrev ShI:=Bool × Option Addr × Nat × Nat
abbrev ShQ:=Bool × Option Addr × Nat × Nat × Bool × Option Addr × Nat × Nat
def Zdq (x:ShI):Value:=.agg #[.bool x.1, .slice x.2.1 x.2.2.1 x.2.2.2]
def Zca (x:ShQ):Value:=.agg #[.bool x.1, .slice x.2.1 x.2.2.1 x.2.2.2.1, .bool x.2.2.2.2.1, .slice x.2.2.2.2.2.1 x.2.2.2.2.2.2.1 x.2.2.2.2.2.2.2]
section
variable {w w':World} {e:Ending}
theorem Zcl {z:Int} (h:Za7 w z e w'):Zcy Zdq (fun x w=>Zah w (Zdq x) z) w e w':=by
 obtain ⟨v,rfl,hI,Q⟩:=h
 obtain ⟨s,A,l,c,rfl⟩:=hI.shp
 exact ⟨(s,A,l,c),rfl,Q,boxn Q (fun S w'' hS hF=>hI.nrb hS hF)⟩
theorem Zgf {q:Rat} (h:ZiW w q e w'):Zcy Zca (fun x w=>ZaX w (Zca x) q) w e w':=by
 obtain ⟨v,rfl,hI,Q⟩:=h
 obtain ⟨s,A,l,c,t,B,m,d,rfl⟩:=hI.shp
 exact ⟨(s,A,l,c,t,B,m,d),rfl,Q,boxn Q (fun S w'' hS hF=>hI.nrb hS hF)⟩
theorem Zau {v u:Value} (h:e=.returned v∧Ext w w') (hv:v=u):Zcy (fun _:Unit=>u) (fun _ _=>True) w e w':=by
 obtain ⟨rfl,Q⟩:=h
 subst hv
 exact ⟨(),rfl,Q,BoxN.pure trivial⟩
end
end Go.Proofs.YthlipnahcbcjkaaGreatDoor

namespace Go.Proofs.YthlipnahcbcjkaaGreatDoor
open Go.RowKit
section
variable {N:Nat} {S0:Nat→Prop} {w0:World} {s s':St} {Φ Ψ Φ0:World→Prop} {L:Nat→Nat} {a:Act} {w:World} {P:Program} {ops:Array Oper} {Q:Exit→Act→World→Prop} {o:Oper}
theorem Zaw.of {sl:SlL} {bl:BlL} (h:(sl.map (fun q=>s.sl q.1),bl.map (fun q=>s.bl q.1))=(sl.map (fun q=>some q.2),bl.map (fun q=>some q.2))):Zaw s sl bl:=h
def ZoN (N:Nat) (S0:Nat→Prop) (w0:World) (J:Nat→St→(World→Prop)→Prop) (n:Nat) (a:Act) (w:World):Prop:=∃ n' s' Φ' L',n' < n∧J n' s' Φ'∧Inv N S0 w0 s' Φ' L' a w
theorem ZaU {c:Code} (J:Nat→St→(World→Prop)→Prop) (n0:Nat) (h0:J n0 s Φ)
 (round:∀ n s Φ,J n s Φ→SXc P N S0 w0 (Exit.then (ZoN N S0 w0 J n) Q) c s Φ):SXc P N S0 w0 Q (.loop c) s Φ:=fun L a w hi=>by
 refine wp_loop_ghost (fun n a w=>∃ s Φ L,J n s Φ∧Inv N S0 w0 s Φ L a w) n0 ⟨s,Φ,L,h0,hi⟩ ?_
 rintro n a w ⟨s,Φ,L,hJ,hi⟩
 refine wp_mono (round n s Φ hJ L a w hi) ?_
 intro e a' w' hq
 cases e with
 | normal =>
   obtain ⟨n',s',Φ',L',h1,h2,h3⟩:=hq
   exact ⟨n',h1,s',Φ',L',h2,h3⟩
 | exit id=>exact hq
 | goto l=>exact hq
 | ret=>exact hq
 | panic ch=>exact hq
 | outgrown=>exact hq
theorem ZaB {J:Nat→St→(World→Prop)→Prop} {n:Nat} (n':Nat) (hlt:n' < n) (h:J n' s Φ):SXq N S0 w0 (Exit.then (ZoN N S0 w0 J n) Q .normal) s Φ:=fun _ _ _ hi=>⟨n',s,Φ,_,hlt,h,hi⟩
theorem Zno {x y:Code} (J:St→(World→Prop)→Prop) (h1:SXc P N S0 w0 (Exit.then (fun a w=>∃ s' Φ' L',J s' Φ'∧Inv N S0 w0 s' Φ' L' a w) Q) x s Φ) (h2:∀ s Φ,J s Φ→SXc P N S0 w0 Q y s Φ):SXc P N S0 w0 Q (.seq x y) s Φ:=fun L a w hi=>by
 refine wp_seq (wp_mono (h1 L a w hi) ?_)
 intro e a' w' hq
 cases e with
 | normal =>
   obtain ⟨s',Φ',L',h2',h3⟩:=hq
   exact h2 s' Φ' h2' L' a' w' h3
 | exit id=>exact hq
 | goto l=>exact hq
 | ret=>exact hq
 | panic ch=>exact hq
 | outgrown=>exact hq
theorem Zhx {J:St→(World→Prop)→Prop} (h:J s Φ):SXq N S0 w0 (Exit.then (fun a w=>∃ s' Φ' L',J s' Φ'∧Inv N S0 w0 s' Φ' L' a w) Q .normal) s Φ:=fun _ _ _ hi=>⟨s,Φ,_,h,hi⟩
theorem ZfY {n i:Nat} (d:Nat) {α:Type} [hα:Nonempty α] (sh:α→Value) (φ:α→World→Prop) (hi:Nat.blt i n=true) (hm:cls (opAt ops i).op=2)
 (hw:s.wantB ops (opAt ops i)=some true) (hn:ZbJ (opAt ops i).op=true) (hv:(opAt ops i).op.operands.toList.all s.vB=true) (hd:(opAt ops i).dst=some d) (hN:Nat.blt d N=true)
 (hdo:∀ w,Fr S0 w0 w→Φ w→Does P (opAt ops i) s.rho w (DoR sh φ w)) (K:∀ x,StI P N S0 w0 ops Φ0 Q n (i + 1) (s.put d (.v (sh x))) (fun w=>Φ w∧φ x w)):StI P N S0 w0 ops Φ0 Q n i s Φ:=by
 have hi':i < n:=Nat.le_of_ble_eq_true hi
 unfold StI
 rw [show n - i=(n - (i + 1)) + 1 by omega,List.range'_succ]
 exact .does hα sh φ hm hw hn hv hd (Nat.le_of_ble_eq_true hN) hdo K
end
end Go.Proofs.YthlipnahcbcjkaaGreatDoor

namespace Go.Proofs.YthlipnahcbcjkaaGreatDoor
open Go.RowKit
theorem Zih (x:ByteArray):(x.toList == x.toList)=true:=by simp
theorem ZmA {P:Program} {ρ:Operand→Value} {w:World} {t e:TypeId} {n sz:Nat} {z:Value} {parts:Array (Nat × Operand)} {cells:Array Value} (ht:P.underlying t=some (.slice e))
 (hinfo:(P.info? e).map (fun i=>(i.zero,i.size))=some (some z,sz)) (hn:Nat.ble (n * sz) 1000=true) (hn0:Nat.beq (n * sz) 0=false)
 (hf:Instr.fill (fun i=>some (i * sz,sz)) ((List.range (n * sz)).map (fun i=>z.cells[i % z.cells.size]!)).toArray (parts.toList.map fun q=>(q.1,ρ q.2))=some cells) :
 (Instr.buildSlice t n (parts.map fun q:Nat × Operand=>(q.1,ρ q.2))).run P w=.ok (.slice (some ⟨w.heap.size,0,none⟩) n n) (w.alloc (.cells cells e)):=by
 obtain ⟨i,hi,h1⟩:=Option.map_eq_some_iff.1 hinfo
 injection h1 with h1 h2
 have hn':=Nat.le_of_ble_eq_true hn
 have hn1:¬ n * sz=0:=fun h=>by rw [h] at hn0; cases hn0
 have hn2:¬ 2 ^ 24 < n * sz:=by omega
 have e1:(Array.range (n * sz)).map (fun i=>z.cells[i % z.cells.size]!)=((List.range (n * sz)).map (fun i=>z.cells[i % z.cells.size]!)).toArray:=by
  apply Array.ext'; simp
 have e2:(parts.map fun q:Nat × Operand=>(q.1,ρ q.2)).toList=parts.toList.map fun q=>(q.1,ρ q.2):=by simp
 unfold Instr.buildSlice
 simp [underlying,ht,sizeOf,typeInfo,hi,h2,zeroValue,h1,hn1,hn2,e1,hf,newRow,newObj,Result.andThen]
 rfl
theorem Zce {P:Program} {o:Oper} {ρ:Operand→Value} {w:World} {t e:TypeId} {n sz:Nat} {z:Value} {parts:Array (Nat × Operand)} {cells:Array Value} (ho:o.op=Op.buildSlice t n parts) (ht:P.underlying t=some (.slice e))
 (hinfo:(P.info? e).map (fun i=>(i.zero,i.size))=some (some z,sz)) (hn:Nat.ble (n * sz) 1000=true) (hn0:Nat.beq (n * sz) 0=false)
 (hf:Instr.fill (fun i=>some (i * sz,sz)) ((List.range (n * sz)).map (fun i=>z.cells[i % z.cells.size]!)).toArray (parts.toList.map fun q=>(q.1,ρ q.2))=some cells) :
 Does P o ρ w (DoR (fun b:Nat=>.slice (some ⟨b,0,none⟩) n n) (fun b w=>Blk e w b cells) w):=by
 have hrun:=ZmA (w:=w) ht hinfo hn hn0 hf
 exact Or.inl ⟨_,_,by simp [execOp,ho,hrun,Result.andThen],w.heap.size,rfl,(Fr.refl _ w).alloc _,fun S hS w'' hF=>(Blk.new w e cells).fr hF (fun h=>by have:=(hS _ h).1; omega)⟩
end Go.Proofs.YthlipnahcbcjkaaGreatDoor

namespace Go.Proofs.YthlipnahcbcjkaaGreatDoor
open Go.RowKit
theorem bl2 (b:Bool):b=true∨b=false:=by cases b<;>simp
section
variable {N:Nat} {S0:Nat→Prop} {w0:World} {s:St} {Φ Ψ:World→Prop} {L:Nat→Nat} {a:Act} {w:World} {P:Program} {ops:Array Oper} {Q:Exit→Act→World→Prop}
theorem Zgg {α:Type} (l:List α) (j:Nat) (c:α) (h:j < l.length):ZbL l j [c]=l.set j c:=by
 unfold ZbL
 rw [List.set_eq_take_append_cons_drop,if_pos h]
 simp
theorem Zk9 {t e:TypeId} {k:IntKind} {b j:Nat} {xs:List Nat} (hs:(teOf P t).map (fun e=>e.size)=some 1) (hO:Own k e w b xs) (hj:j < xs.length) (v:Nat) :
 ∃ w',(Instr.storeAt t (.pointer (some ⟨b,j,none⟩)) (.int k (v:Int))).run P w=.ok () w'∧Own k e w' b (xs.set j v)∧Fr (fun i=>i=b) w w':=by
 obtain ⟨te,hte,h1⟩:=Option.map_eq_some_iff.1 hs
 obtain ⟨tail,ht,hO⟩:=hO
 obtain ⟨w',hr,hB,hF⟩:=Zew (P:=P) hte (g:=b) (bt:=e) (off:=j) (cur:=(xs.map fun x:Nat=>Value.int k (x:Int)) ++ tail) (v:=.int k (v:Int)) hO (by rw [h1]; rfl) (by simp [Value.cells]; omega) (fun c hc=>by simp [Value.cells] at hc; rw [hc]; rfl)
 refine ⟨w',hr,⟨tail,ht,?_⟩,hF⟩
 have e2:ZbL ((xs.map fun x:Nat=>Value.int k (x:Int)) ++ tail) j (Value.cells (.int k (v:Int))).toList=((xs.set j v).map fun x:Nat=>Value.int k (x:Int)) ++ tail:=by
  rw [show (Value.cells (.int k (v:Int))).toList=[.int k (v:Int)] from rfl,Zgg _ _ _ (by simp; omega),List.set_append_left _ _ (by simpa using hj),List.map_set]
 rw [e2] at hB
 exact hB
theorem xk {i:Nat} (d:Nat) (y:Value) (hx:∀ w,Fr S0 w0 w→Φ w→(execOp s.rho (opAt ops i)).run P w=.ok (.value y) w) (K:SXi P N S0 w0 ops Q (i + 1) (s.put d (.v y)) Φ)
 (hi:Nat.blt i ops.size=true:=by kernel_rfl) (hs:ZbJ (opAt ops i).op=true:=by kernel_rfl) (hw:s.wantB ops (opAt ops i)=some true:=by kernel_rfl) (hv:(opAt ops i).op.operands.toList.all s.vB=true:=by kernel_rfl) (hd:(opAt ops i).dst=some d:=by kernel_rfl) (hN:Nat.blt d N=true:=by kernel_rfl):SXi P N S0 w0 ops Q i s Φ :=
 Zpg d y hi hs hw hv hd hN hx K
theorem xj {Φ0:World→Prop} {n i:Nat} (d:Nat) (y:Value) (hx:∀ w,Φ0 w→(execOp s.rho (opAt ops i)).run P w=.ok (.value y) w) (K:StI P N S0 w0 ops Φ0 Q n (i + 1) (s.put d (.v y)) Φ)
 (hi:Nat.blt i n=true:=by kernel_rfl) (hk:ZiO (opAt ops i).op=true:=by kernel_rfl) (hw:s.wantB ops (opAt ops i)=some true:=by kernel_rfl) (hv:(opAt ops i).op.operands.toList.all s.vB=true:=by kernel_rfl) (hd:(opAt ops i).dst=some d:=by kernel_rfl) (hN:Nat.blt d N=true:=by kernel_rfl):StI P N S0 w0 ops Φ0 Q n i s Φ :=
 Zpf d y hi hk hw hv hd hN hx K
end
def atA (A:Option Addr) (i:Nat):Value:=.pointer (A.map (·.add i))
section
variable {P:Program} {o:Oper} {ρ:Operand→Value} {w:World} {t e:TypeId} {x ix:Operand} {k:IntKind} {xs:List Nat}
theorem Zfb {A:Option Addr} {len cap i:Nat} (hA:A≠none) (h:i < len) (ho:o.op=Op.indexAddr t x ix:=by kernel_rfl) (ht:P.underlying t=some (.slice e):=by kernel_rfl) (hs:(P.info? e).map (fun i=>i.size)=some 1:=by kernel_rfl)
 (hx:ρ x=.slice A len cap:=by kernel_rfl) (hi:ρ ix=.int .i64 ((i:Nat):Int):=by kernel_rfl):(execOp ρ o).run P w=.ok (.value (atA A i)) w:=by
 obtain ⟨inf,hinf,h1⟩:=Option.map_eq_some_iff.1 hs
 obtain ⟨a,rfl⟩:∃ a,A=some a:=by cases A; exact absurd rfl hA; exact ⟨_,rfl⟩
 have h2:(0:Int)≤(i:Int)∧(i:Int) < (len:Int):=by omega
 simp [execOp,ho,Instr.indexAt,asIntOf,underlying,ht,hx,hi,h,sizeOf,typeInfo,hinf,h1,Result.andThen,atA]
theorem Zoj {g off len cap i:Nat} (h:i < len) (ho:o.op=Op.indexAddr t x ix:=by kernel_rfl) (ht:P.underlying t=some (.slice e):=by kernel_rfl) (hs:(P.info? e).map (fun i=>i.size)=some 1:=by kernel_rfl)
 (hx:ρ x=.slice (some ⟨g,off,none⟩) len cap:=by kernel_rfl) (hi:ρ ix=.int .i64 ((i:Nat):Int):=by kernel_rfl):(execOp ρ o).run P w=.ok (.value (.pointer (some ⟨g,off + i,none⟩))) w:=by
 rw [Zfb (A:=some ⟨g,off,none⟩) (by simp) h ho ht hs hx hi,atA,Option.map_some,Zct]
theorem Zax {g len cap i:Nat} (h:i < len) (ho:o.op=Op.indexAddr t x ix:=by kernel_rfl) (ht:P.underlying t=some (.slice e):=by kernel_rfl) (hs:(P.info? e).map (fun i=>i.size)=some 1:=by kernel_rfl)
 (hx:ρ x=.slice (some ⟨g,0,none⟩) len cap:=by kernel_rfl) (hi:ρ ix=.int .i64 ((i:Nat):Int):=by kernel_rfl):(execOp ρ o).run P w=.ok (.value (.pointer (some ⟨g,i,none⟩))) w:=by
 have:=Zoj (w:=w) h ho ht hs hx hi
 rwa [Nat.zero_add] at this
theorem Zg2 {g off:Nat} {c:Value} (hc:w.cell? ⟨g,off,none⟩=some c) (ho:o.op=Op.load t x:=by kernel_rfl) (hx:ρ x=.pointer (some ⟨g,off,none⟩):=by kernel_rfl) (ha:(teOf P t).map (fun e=>e.agg)=some false:=by kernel_rfl) :
 (execOp ρ o).run P w=.ok (.value c) w:=by
 obtain ⟨e,he,h1⟩:=Option.map_eq_some_iff.1 ha
 have:=ZhT (P:=P) (w:=w) he hc h1
 simp only [execOp,ho,hx,Sem.run_bind,this,Result.andThen_ok,Sem.run_pure]
theorem Zl5 {b j:Nat} (hO:Own k e w b xs) (hj:j < xs.length) (ho:o.op=Op.load t x:=by kernel_rfl) (hx:ρ x=.pointer (some ⟨b,j,none⟩):=by kernel_rfl) (ha:(teOf P t).map (fun e=>e.agg)=some false:=by kernel_rfl) :
 (execOp ρ o).run P w=.ok (.value (.int k ((xs[j]?.getD 0:Nat):Int))) w:=Zg2 (hO.cell hj) ho hx ha
theorem Zok {A:Option Addr} {len cap l:Nat} {lo:Operand} (hle:l≤len) (ho:o.op=Op.slice t x (some lo) none none:=by kernel_rfl) (ht:P.underlying t=some (.slice e):=by kernel_rfl) (hs:(P.info? e).map (fun i=>i.size)=some 1:=by kernel_rfl)
 (hx:ρ x=.slice A len cap:=by kernel_rfl) (hl:ρ lo=.int .i64 ((l:Nat):Int):=by kernel_rfl):(execOp ρ o).run P w=.ok (.value (.slice (if cap=l then A else A.map (·.add l)) (len - l) (cap - l))) w:=by
 obtain ⟨inf,hinf,h1⟩:=Option.map_eq_some_iff.1 hs
 simp [execOp,ho,Instr.sliceAt,Instr.slice,Instr.sliceBounds,Instr.sliceBound,asIntOf,underlying,ht,hx,hl,hle,sizeOf,typeInfo,hinf,h1,Result.andThen]
end
end Go.Proofs.YthlipnahcbcjkaaGreatDoor

namespace Go.Proofs.YthlipnahcbcjkaaGreatDoor
open Go.RowKit
section
variable {N:Nat} {S0:Nat→Prop} {w0:World} {sl:SlL} {bl:BlL} {Φ Φ0:World→Prop} {P:Program} {ops:Array Oper} {Q:Exit→Act→World→Prop}
end
end Go.Proofs.YthlipnahcbcjkaaGreatDoor

namespace Go.Proofs.YthlipnahcbcjkaaGreatDoor
open Go.RowKit
structure MR where
 A:Nat→Option Addr
 C:Nat→Nat
 X:Nat→List Nat
def MR.v (M:MR) (i:Nat):Value:=.slice (M.A i) (M.X i).length (M.C i)
def upF {α:Type} (f:Nat→α) (i:Nat) (x:α):Nat→α:=fun j=>if j=i then x else f j
theorem Zas {α:Type} (f:Nat→α) (i:Nat) (x:α):upF f i x i=x:=if_pos rfl
theorem ZaP {α:Type} {f:Nat→α} {i j:Nat} {x:α} (h:j≠i):upF f i x j=f j:=if_neg h
def MR.set (M:MR) (i j v:Nat):MR:=⟨M.A,M.C,upF M.X i ((M.X i).set j v)⟩
def MR.row (M:MR) (i:Nat) (A:Option Addr) (C:Nat) (xs:List Nat):MR:=⟨upF M.A i A,upF M.C i C,upF M.X i xs⟩
def swF (r k i:Nat):Nat:=if i=r then k else if i=k then r else i
def MR.swap (M:MR) (r k:Nat):MR:=⟨fun i=>M.A (swF r k i),fun i=>M.C (swF r k i),fun i=>M.X (swF r k i)⟩
theorem ZbM {n r k i:Nat} (hr:r < n) (hk:k < n) (hi:i < n):swF r k i < n:=by unfold swF; split<;>(try split)<;>omega
theorem Zpi {r k i j:Nat} (h:swF r k i=swF r k j):i=j:=by unfold swF at h; split at h<;>split at h<;>(try split at h)<;>(try split at h)<;>omega
theorem Zpj {r k i:Nat}:swF r k (swF r k i)=i:=by unfold swF; split<;>(try split)<;>(try split)<;>(try split)<;>omega
def ZbX (tr:TypeId) (w:World) (b n:Nat) (f:Nat→Value):Prop:=∃ vs:List Value,Blk tr w b vs.toArray∧vs.length=n∧∀ i,i < n→vs[i]? = some (f i)
structure RowsO (k:IntKind) (te:TypeId) (w:World) (b n:Nat) (M:MR):Prop where
 row:∀ i,i < n→Buf k te w (M.A i) (M.C i) (M.X i)
 inj:∀ i j g,i < n→j < n→Zad (M.A i) g→Zad (M.A j) g→i=j
 ne:∀ i,i < n→¬ Zad (M.A i) b
def MatO (k:IntKind) (te tr:TypeId) (w:World) (b n:Nat) (M:MR):Prop:=ZbX tr w b n M.v∧RowsO k te w b n M
def MatB (b n:Nat) (M:MR) (g:Nat):Prop:=g=b∨∃ i,i < n∧Zad (M.A i) g
section
variable {k:IntKind} {te tr:TypeId} {w w':World} {b n:Nat} {M:MR} {f:Nat→Value} {S:Nat→Prop} {P:Program}
theorem ZbX.lt (h:ZbX tr w b n f):b < w.heap.size:=by obtain ⟨vs,h,_⟩:=h; exact h.lt
theorem ZbX.fr (h:ZbX tr w b n f) (hF:Fr S w w') (hs:¬ S b):ZbX tr w' b n f:=by
 obtain ⟨vs,h1,h2⟩:=h
 exact ⟨vs,(hF.block b h1.lt hs).trans h1,h2⟩
theorem ZbX.ext (h:ZbX tr w b n f) (hF:Ext w w'):ZbX tr w' b n f:=h.fr hF (fun e=>e)
theorem ZbX.congr {g:Nat→Value} (h:ZbX tr w b n f) (e:∀ i,i < n→f i=g i):ZbX tr w b n g:=by
 obtain ⟨vs,h1,h2,h3⟩:=h
 exact ⟨vs,h1,h2,fun i hi=>by rw [h3 i hi,e i hi]⟩
theorem ZbX.cell (h:ZbX tr w b n f) {i:Nat} (hi:i < n):w.cell? ⟨b,i,none⟩=some (f i):=by
 obtain ⟨vs,h1,h2,h3⟩:=h
 rw [h1.cell,← h3 i hi]; simp
theorem RowsO.fr (h:RowsO k te w b n M) (hF:Fr S w w') (hs:∀ i g,i < n→Zad (M.A i) g→¬ S g):RowsO k te w' b n M:=⟨fun i hi=>(h.row i hi).fr hF (fun g hg=>hs i g hi hg),h.inj,h.ne⟩
theorem RowsO.ext (h:RowsO k te w b n M) (hF:Ext w w'):RowsO k te w' b n M:=h.fr hF (fun _ _ _ _ e=>e)
theorem MatO.ext (h:MatO k te tr w b n M) (hF:Ext w w'):MatO k te tr w' b n M:=⟨h.1.ext hF,h.2.ext hF⟩
theorem MatO.fr (h:MatO k te tr w b n M) (hF:Fr S w w') (hs:∀ g,MatB b n M g→¬ S g):MatO k te tr w' b n M :=
 ⟨h.1.fr hF (hs b (Or.inl rfl)),h.2.fr hF (fun i g hi hg=>hs g (Or.inr ⟨i,hi,hg⟩))⟩
theorem Buf.own {A:Option Addr} {c:Nat} {xs:List Nat} {j:Nat} (h:Buf k te w A c xs) (hj:j < xs.length):∃ g,A=some ⟨g,0,none⟩∧Own k te w g xs∧ZbD te w g c∧xs.length≤c∧c≤maxLen:=by
 rcases h with ⟨_,rfl,_⟩ | ⟨g,rfl,h⟩
 ·exact absurd hj (by simp)
 ·exact ⟨g,rfl,h⟩
theorem MatO.ne0 (h:MatO k te tr w b n M) {i j:Nat} (hi:i < n) (hj:j < (M.X i).length):M.A i≠none:=by
 obtain ⟨g,e,_⟩:=(h.2.row i hi).own hj
 rw [e]; exact fun e=>by cases e
theorem MatO.top (h:MatO k te tr w b n M) {i:Nat} (hi:i < n):w.cell? ⟨b,i,none⟩=some (M.v i):=h.1.cell hi
theorem Zpk {o:Oper} {ρ:Operand→Value} {t:TypeId} {x:Operand} {i j:Nat} (h:MatO k te tr w b n M) (hi:i < n) (hj:j < (M.X i).length) (ho:o.op=Op.load t x:=by kernel_rfl) (hx:ρ x=atA (M.A i) j:=by kernel_rfl) (ha:(teOf P t).map (fun e=>e.agg)=some false:=by kernel_rfl) :
 (execOp ρ o).run P w=.ok (.value (.int k (((M.X i)[j]?.getD 0:Nat):Int))) w:=by
 obtain ⟨g,e,hO,_⟩:=(h.2.row i hi).own hj
 exact Zg2 (hO.cell hj) ho (by rw [hx,atA,e,Option.map_some,Zct,Nat.zero_add]) ha
theorem Zad.eq {g g' o:Nat} (h:Zad (some ⟨g,o,none⟩) g'):g'=g:=by obtain ⟨a,e,e2⟩:=h; injection e with e; rw [← e] at e2; exact e2.symm
theorem Zla {t:TypeId} {A:Option Addr} {c j:Nat} {xs:List Nat} (hs:(teOf P t).map (fun e=>e.size)=some 1) (h:Buf k te w A c xs) (hj:j < xs.length) (v:Nat) :
 ∃ w',(Instr.storeAt t (atA A j) (.int k (v:Int))).run P w=.ok () w'∧Buf k te w' A c (xs.set j v)∧Fr (Zad A) w w':=by
 obtain ⟨g,rfl,hO,hC,hl,hm⟩:=h.own hj
 obtain ⟨e,he,h1⟩:=Option.map_eq_some_iff.1 hs
 obtain ⟨tail,ht,hO⟩:=hO
 obtain ⟨cur,hc1,hc2⟩:=hC
 obtain ⟨w',hr,hB,hF⟩:=Zew (P:=P) he (g:=g) (bt:=te) (off:=j) (cur:=(xs.map fun x:Nat=>Value.int k (x:Int)) ++ tail) (v:=.int k (v:Int)) hO (by rw [h1]; rfl) (by simp [Value.cells]; omega) (fun c hc=>by simp [Value.cells] at hc; rw [hc]; rfl)
 have e2:ZbL ((xs.map fun x:Nat=>Value.int k (x:Int)) ++ tail) j (Value.cells (.int k (v:Int))).toList=((xs.set j v).map fun x:Nat=>Value.int k (x:Int)) ++ tail:=by
  rw [show (Value.cells (.int k (v:Int))).toList=[.int k (v:Int)] from rfl,Zgg _ _ _ (by simp; omega),List.set_append_left _ _ (by simpa using hj),List.map_set]
 rw [e2] at hB
 refine ⟨w',by rw [atA,Option.map_some,Zct,Nat.zero_add]; exact hr,Or.inr ⟨g,rfl,⟨tail,ht,hB⟩,⟨_,hB,?_⟩,by simpa using hl,hm⟩,hF.mono (fun i _ hi=>⟨_,rfl,hi.symm⟩)⟩
 rw [hO] at hc1
 injection hc1 with hc1
 injection hc1 with hc1
 rw [← hc2,← hc1]; simp [ZaK]
theorem MatO.setElem {t:TypeId} {i j:Nat} (hs:(teOf P t).map (fun e=>e.size)=some 1) (h:MatO k te tr w b n M) (hi:i < n) (hj:j < (M.X i).length) (v:Nat) :
 ∃ w',(Instr.storeAt t (atA (M.A i) j) (.int k (v:Int))).run P w=.ok () w'∧MatO k te tr w' b n (M.set i j v)∧Fr (Zad (M.A i)) w w':=by
 obtain ⟨w',hr,hB,hF⟩:=Zla (P:=P) hs (h.2.row i hi) hj v
 refine ⟨w',hr,⟨(h.1.fr hF (h.2.ne i hi)).congr (fun q _=>?_),fun q hq=>?_,h.2.inj,h.2.ne⟩,hF⟩
 ·unfold MR.v MR.set
  by_cases e:q=i
  ·subst e; simp only [Zas,List.length_set]
  ·simp only [ZaP e]
 ·show Buf k te w' (M.A q) (M.C q) (upF M.X i _ q)
  by_cases e:q=i
  ·subst e; rw [Zas]; exact hB
  ·rw [ZaP e]; exact (h.2.row q hq).fr hF (fun g hg h2=>e (h.2.inj q i g hq hi hg h2))
theorem ZbX.set {t:TypeId} {i:Nat} {A:Option Addr} {l c:Nat} (hs:(teOf P t).map (fun e=>e.size)=some 1) (h:ZbX tr w b n f) (hi:i < n) :
 ∃ w',(Instr.storeAt t (.pointer (some ⟨b,i,none⟩)) (.slice A l c)).run P w=.ok () w'∧ZbX tr w' b n (upF f i (.slice A l c))∧Fr (fun g=>g=b) w w':=by
 obtain ⟨e,he,h1⟩:=Option.map_eq_some_iff.1 hs
 obtain ⟨vs,hB,hl,hv⟩:=h
 obtain ⟨w',hr,hB2,hF⟩:=Zew (P:=P) he (g:=b) (bt:=tr) (off:=i) (cur:=vs) (v:=.slice A l c) hB (by rw [h1]; rfl) (by simp [Value.cells]; omega) (fun c hc=>by simp [Value.cells] at hc; rw [hc]; rfl)
 rw [show (Value.cells (.slice A l c)).toList=[.slice A l c] from rfl,Zgg _ _ _ (by omega)] at hB2
 refine ⟨w',hr,⟨_,hB2,by simpa using hl,fun q hq=>?_⟩,hF⟩
 by_cases e:q=i
 ·subst e; rw [Zas,List.getElem?_set_self (by omega)]
 ·rw [ZaP e,List.getElem?_set_ne (Ne.symm e)]; exact hv q hq
theorem MatO.setRow {t:TypeId} {i:Nat} {A:Option Addr} {c:Nat} {xs:List Nat} (hs:(teOf P t).map (fun e=>e.size)=some 1) (hT:ZbX tr w b n M.v) (hR:RowsO k te w b n (M.row i A c xs)) (hi:i < n) :
 ∃ w',(Instr.storeAt t (.pointer (some ⟨b,i,none⟩)) (.slice A xs.length c)).run P w=.ok () w'∧MatO k te tr w' b n (M.row i A c xs)∧Fr (fun g=>g=b) w w':=by
 obtain ⟨w',hr,hT2,hF⟩:=hT.set (P:=P) (A:=A) (l:=xs.length) (c:=c) hs hi
 refine ⟨w',hr,⟨hT2.congr (fun q _=>?_),hR.fr hF (fun q g hq hg e=>hR.ne q hq (by rw [← e]; exact hg))⟩,hF⟩
 unfold MR.v MR.row
 by_cases e:q=i
 ·subst e; simp only [Zas]
 ·simp only [ZaP e]
theorem RowsO.swap {r q:Nat} (h:RowsO k te w b n M) (hr:r < n) (hq:q < n):RowsO k te w b n (M.swap r q) :=
 ⟨fun _ hi=>h.row _ (ZbM hr hq hi),fun _ _ g hi hj h1 h2=>Zpi (h.inj _ _ g (ZbM hr hq hi) (ZbM hr hq hj) h1 h2),fun _ hi=>h.ne _ (ZbM hr hq hi)⟩
end
/-! ### steps that change the world -/
section
variable {N:Nat} {S0:Nat→Prop} {w0:World} {s:St} {Φ:World→Prop} {L:Nat→Nat} {a:Act} {w:World} {P:Program} {ops:Array Oper} {Q:Exit→Act→World→Prop}
theorem Inv.new0 (h:Inv N S0 w0 s Φ L a w) (hb:∀ b,s.bl b=none) {w':World} {Ψ:World→Prop} (hF:Fr S0 w0 w') (hΨ:∀ w'',Ext w' w''→Ψ w''):Inv N S0 w0 s Ψ L a w':=by
 refine ⟨h.size,h.df,h.sl,⟨fun b t cs e=>?_,h.mem.inj,fun b e=>?_,hF,h.mem.slp,h.mem.cel⟩,fun w'' hf=>hΨ w'' (hf.mono fun i _ hi=>?_)⟩
 ·rw [hb b] at e; cases e
 ·rw [hb b] at e; cases e
 ·obtain ⟨b,h1,_⟩:=hi
  rw [hb b] at h1; cases h1
theorem Zb8 {i:Nat} (Ψ:World→Prop) (hdo:∀ w,Fr S0 w0 w→Φ w→∃ w',(execOp s.rho (opAt ops i)).run P w=.ok .skip w'∧Fr S0 w0 w'∧∀ w'',Ext w' w''→Ψ w'') (K:SXi P N S0 w0 ops Q (i + 1) s Ψ)
 (hsz:Nat.blt i ops.size=true:=by kernel_rfl) (hw:s.wantB ops (opAt ops i)=some true:=by kernel_rfl) (hn:ZbJ (opAt ops i).op=true:=by kernel_rfl) (hv:(opAt ops i).op.operands.toList.all s.vB=true:=by kernel_rfl) (hd:(opAt ops i).dst=none:=by kernel_rfl) (hb:∀ b,s.bl b=none:=by exact fun _=>rfl):SXi P N S0 w0 ops Q i s Φ:=by
 unfold SXi
 rw [Zfu hsz]
 intro L a w hi
 refine wpList_step (fun K' hK=>?_)
 rw [if_pos (hi.want hw)]
 unfold Oper.wp
 rw [hi.exec hn hv]
 obtain ⟨w',hr,R,hΨ⟩:=hdo w hi.mem.ext hi.box.self
 rw [hr,Oper.upon_skip,hd]
 exact hK _ _ (K L _ _ (hi.new0 hb R hΨ))
theorem ZcG {i d:Nat} {α:Type} (sh:α→Value) (Ψ:α→World→Prop) (hdo:∀ w,Fr S0 w0 w→Φ w→∃ x w',(execOp s.rho (opAt ops i)).run P w=.ok (.value (sh x)) w'∧Fr S0 w0 w'∧∀ w'',Ext w' w''→Ψ x w'')
 (K:∀ x,SXi P N S0 w0 ops Q (i + 1) (s.put d (.v (sh x))) (Ψ x))
 (hsz:Nat.blt i ops.size=true:=by kernel_rfl) (hw:s.wantB ops (opAt ops i)=some true:=by kernel_rfl) (hn:ZbJ (opAt ops i).op=true:=by kernel_rfl) (hv:(opAt ops i).op.operands.toList.all s.vB=true:=by kernel_rfl) (hd:(opAt ops i).dst=some d:=by kernel_rfl) (hN:Nat.blt d N=true:=by kernel_rfl) (hb:∀ b,s.bl b=none:=by exact fun _=>rfl):SXi P N S0 w0 ops Q i s Φ:=by
 unfold SXi
 rw [Zfu hsz]
 intro L a w hi
 refine wpList_step (fun K' hK=>?_)
 rw [if_pos (hi.want hw)]
 unfold Oper.wp
 rw [hi.exec hn hv]
 obtain ⟨x,w',hr,R,hΨ⟩:=hdo w hi.mem.ext hi.box.self
 rw [hr,Oper.upon_value,hd]
 have h0:=hi.app0 (d:=d) (Nat.le_of_ble_eq_true hN) (al_v (s:=s) (sh x))
 exact hK _ _ (K x L _ _ (h0.new0 hb R (hΨ)))
theorem Zbk {i d:Nat} {α:Type} (f:FuncId) (args:List Value) (sh:α→Value) (Ψ:α→World→Prop) (hC:∀ w,Fr S0 w0 w→Φ w→Calls P f args.toArray w (fun en w'=>∃ x,en=.returned (sh x)∧Fr S0 w0 w'∧∀ w'',Ext w' w''→Ψ x w''))
 (K:∀ x,SXi P N S0 w0 ops Q (i + 1) (s.put d (.v (sh x))) (Ψ x)) (hb:∀ b,s.bl b=none:=by exact fun _=>rfl)
 (hsz:Nat.blt i ops.size=true:=by kernel_rfl) (h:Zei P N ops (opAt ops i) s=some (f,args,d):=by kernel_rfl):SXi P N S0 w0 ops Q i s Φ:=by
 obtain ⟨hw,hq,hd,hn,hv,hk,hN⟩:=Ze5 h
 unfold SXi
 rw [Zfu hsz]
 intro L a w hi
 refine wpList_step (fun K' hK=>?_)
 rw [if_pos (hi.want hw)]
 unfold Oper.wp
 rw [hi.exec hn hv,ZjR hq hk,Oper.upon_enter]
 refine Calls.mono (hC w hi.mem.ext hi.box.self) fun en w' h'=>?_
 obtain ⟨x,rfl,R,hΨ⟩:=h'
 simp only [hd]
 have h0:=hi.app0 (d:=d) hN (al_v (s:=s) (sh x))
 exact hK _ _ (K x L _ _ (h0.new0 hb R hΨ))
theorem Zol {l:Nat} (h:SXq N S0 w0 (Q .normal) s Φ):SXc P N S0 w0 Q (.label l) s Φ:=fun L a w hi=>wp_label (h L a w hi)
end
end Go.Proofs.YthlipnahcbcjkaaGreatDoor

namespace Go.Proofs.YthlipnahcbcjkaaGreatDoor
open Go.RowKit
def mulP (c s p:Nat) (f:List Nat) (j:Nat):List Nat:=f.mapIdx (fun t x=>if c≤t∧t < j then x * s % p else x)
def addP (c q p:Nat) (f g:List Nat) (j:Nat):List Nat:=f.mapIdx (fun t x=>if c≤t∧t < j then (x + q * g[t]?.getD 0) % p else x)
section
variable {c s q p j:Nat} {f g:List Nat}
theorem ZaD:(mulP c s p f j).length=f.length:=List.length_mapIdx
theorem Zbe:(addP c q p f g j).length=f.length:=List.length_mapIdx
theorem ZbY (t:Nat):(mulP c s p f j)[t]?.getD 0=if c≤t∧t < j∧t < f.length then f[t]?.getD 0 * s % p else f[t]?.getD 0:=by
 unfold mulP
 rw [List.getElem?_mapIdx]
 rcases Nat.lt_or_ge t f.length with h | h
 ·rw [List.getElem?_eq_getElem h]
  simp only [Option.map_some,Option.getD_some]
  by_cases h2:c≤t∧t < j
  ·rw [if_pos h2,if_pos ⟨h2.1,h2.2,h⟩]
  ·rw [if_neg h2,if_neg (fun e=>h2 ⟨e.1,e.2.1⟩)]
 ·rw [List.getElem?_eq_none h,if_neg (by omega)]; rfl
theorem Zco (t:Nat):(addP c q p f g j)[t]?.getD 0=if c≤t∧t < j∧t < f.length then (f[t]?.getD 0 + q * g[t]?.getD 0) % p else f[t]?.getD 0:=by
 unfold addP
 rw [List.getElem?_mapIdx]
 rcases Nat.lt_or_ge t f.length with h | h
 ·rw [List.getElem?_eq_getElem h]
  simp only [Option.map_some,Option.getD_some]
  by_cases h2:c≤t∧t < j
  ·rw [if_pos h2,if_pos ⟨h2.1,h2.2,h⟩]
  ·rw [if_neg h2,if_neg (fun e=>h2 ⟨e.1,e.2.1⟩)]
 ·rw [List.getElem?_eq_none h,if_neg (by omega)]; rfl
theorem Zcp {a b:List Nat} (hl:a.length=b.length) (h:∀ t,t < a.length→a[t]?.getD 0=b[t]?.getD 0):a=b:=by
 refine List.ext_getElem hl (fun t h1 h2=>?_)
 have:=h t h1
 rwa [List.getElem?_eq_getElem h1,List.getElem?_eq_getElem h2] at this
theorem Zg3 {a:List Nat} {j v t:Nat} (hj:j < a.length):(a.set j v)[t]?.getD 0=if t=j then v else a[t]?.getD 0:=by
 by_cases e:t=j
 ·subst e; rw [if_pos rfl,List.getElem?_set_self hj]; rfl
 ·rw [if_neg e,List.getElem?_set_ne (Ne.symm e)]
theorem ZiX:mulP c s p f c=f:=Zcp ZaD (fun t _=>by rw [ZbY,if_neg (by omega)])
theorem Zlb:(mulP c s p f j)[j]?.getD 0=f[j]?.getD 0:=by rw [ZbY,if_neg (by omega)]
theorem ZjZ (h:c≤j) (hj:j < f.length) {x:Nat} (hx:f[j]?.getD 0=x):(mulP c s p f j).set j (x * s % p)=mulP c s p f (j + 1):=by
 refine Zcp (by rw [List.length_set,ZaD,ZaD]) (fun t ht=>?_)
 rw [List.length_set,ZaD] at ht
 rw [Zg3 (by rw [ZaD]; exact hj),ZbY,ZbY]
 by_cases e:t=j
 ·subst e; rw [if_pos rfl,if_pos ⟨h,by omega,hj⟩,hx]
 ·rw [if_neg e]
  by_cases e2:c≤t∧t < j∧t < f.length
  ·rw [if_pos e2,if_pos ⟨e2.1,by omega,e2.2.2⟩]
  ·rw [if_neg e2,if_neg (by omega)]
theorem ZmB:addP c q p f g c=f:=Zcp Zbe (fun t _=>by rw [Zco,if_neg (by omega)])
theorem Zom:(addP c q p f g j)[j]?.getD 0=f[j]?.getD 0:=by rw [Zco,if_neg (by omega)]
theorem Znp (h:c≤j) (hj:j < f.length) {x y:Nat} (hx:f[j]?.getD 0=x) (hy:g[j]?.getD 0=y):(addP c q p f g j).set j ((x + q * y) % p)=addP c q p f g (j + 1):=by
 refine Zcp (by rw [List.length_set,Zbe,Zbe]) (fun t ht=>?_)
 rw [List.length_set,Zbe] at ht
 rw [Zg3 (by rw [Zbe]; exact hj),Zco,Zco]
 by_cases e:t=j
 ·subst e; rw [if_pos rfl,if_pos ⟨h,by omega,hj⟩,hx,hy]
 ·rw [if_neg e]
  by_cases e2:c≤t∧t < j∧t < f.length
  ·rw [if_pos e2,if_pos ⟨e2.1,by omega,e2.2.2⟩]
  ·rw [if_neg e2,if_neg (by omega)]
theorem ZcH {a:List Nat} {t:Nat} (h:t < a.length):a[t]?.getD 0 ∈ a:=by rw [List.getElem?_eq_getElem h]; exact List.getElem_mem h
theorem Zj0 (hf:∀ x ∈ f,x < p):addP c 0 p f g j=f:=Zcp Zbe (fun t ht=>by
 rw [Zbe] at ht
 rw [Zco]
 split
 ·rw [Nat.zero_mul,Nat.add_zero,Nat.mod_eq_of_lt (hf _ (ZcH ht))]
 ·rfl)
theorem Zii {a:List Nat} {x:Nat} (h:x ∈ a):∃ t,t < a.length∧a[t]?.getD 0=x:=by
 obtain ⟨t,ht,e⟩:=List.mem_iff_getElem.1 h
 exact ⟨t,ht,by rw [List.getElem?_eq_getElem ht]; exact e⟩
theorem ZfZ (hp:0 < p) (hf:∀ x ∈ f,x < p):∀ x ∈ mulP c s p f j,x < p:=fun x hx=>by
 obtain ⟨t,ht,rfl⟩:=Zii hx
 rw [ZaD] at ht
 rw [ZbY]
 split
 ·exact Nat.mod_lt _ hp
 ·exact hf _ (ZcH ht)
theorem Zpl (hp:0 < p) (hf:∀ x ∈ f,x < p):∀ x ∈ addP c q p f g j,x < p:=fun x hx=>by
 obtain ⟨t,ht,rfl⟩:=Zii hx
 rw [Zbe] at ht
 rw [Zco]
 split
 ·exact Nat.mod_lt _ hp
 ·exact hf _ (ZcH ht)
theorem Znq (h:f.length≤j) {i:Nat} (hi:f.length≤i):addP c q p f g j=addP c q p f g i:=Zcp (by rw [Zbe,Zbe]) (fun t ht=>by
 rw [Zbe] at ht
 rw [Zco,Zco]
 by_cases e:c≤t
 ·rw [if_pos ⟨e,by omega,ht⟩,if_pos ⟨e,by omega,ht⟩]
 ·rw [if_neg (fun z=>e z.1),if_neg (fun z=>e z.1)])
end
def addR (c p m r:Nat) (X1:Nat→List Nat) (F:List Nat) (q:Nat):Nat→List Nat:=fun i=>if r < i∧i < r + 1 + q then addP c ((p - (X1 i)[c]?.getD 0) % p) p (X1 i) F m else upF X1 r F i
inductive ElStep (p n m c:Nat) (X:Nat→List Nat) (r d:Nat):(Nat→List Nat)→Nat→Nat→Prop
 | none (hz:∀ i,r≤i→i < n→(X i)[c]?.getD 0=0):ElStep p n m c X r d X r d
 | some (k:Nat) (X1:Nat→List Nat) (d1 y:Nat) (F:List Nat) (hk:r≤k) (hkn:k < n) (hz:∀ i,r≤i→i < k→(X i)[c]?.getD 0=0) (hne:(X k)[c]?.getD 0≠0) (hX1:X1=fun i=>X (swF r k i)) (hd:d1=if k=r then d else (p - d) % p)
  (hy:(X1 r)[c]?.getD 0=y) (hF:F=mulP c (invN y p) p (X1 r) m):ElStep p n m c X r d (addR c p m r X1 F (n - (r + 1))) (r + 1) (d1 * y % p)
inductive ElRun (p n m:Nat) (X0:Nat→List Nat):Nat→(Nat→List Nat)→Nat→Nat→Prop
 | nil:ElRun p n m X0 0 X0 0 1
 | snoc {c r d r' d':Nat} {X X':Nat→List Nat} (h:ElRun p n m X0 c X r d) (hs:ElStep p n m c X r d X' r' d'):ElRun p n m X0 (c + 1) X' r' d'
structure ElB (p n m:Nat) (X:Nat→List Nat) (r d:Nat):Prop where
 len:∀ i,i < n→(X i).length=m
 lt:∀ i,i < n→∀ x ∈ X i,x < p
 rn:r≤n
 dp:d < p
section
variable {p n m c r d r' d':Nat} {X X':Nat→List Nat}
theorem ElB.get (h:ElB p n m X r d) {i t:Nat} (hi:i < n) (ht:t < m):(X i)[t]?.getD 0 < p:=h.lt i hi _ (ZcH (by rw [h.len i hi]; exact ht))
theorem ElB.sw (h:ElB p n m X r d) {k:Nat} (hk:k < n) (hr:r < n) {d1:Nat} (hd:d1 < p):ElB p n m (fun i=>X (swF r k i)) r d1 :=
 ⟨fun _ hi=>h.len _ (ZbM hr hk hi),fun _ hi=>h.lt _ (ZbM hr hk hi),h.rn,hd⟩
theorem ElStep.bd (hp:0 < p) (h:ElB p n m X r d) (hs:ElStep p n m c X r d X' r' d'):ElB p n m X' r' d':=by
 cases hs with
 | none hz=>exact h
 | some k X1 d1 y F hk hkn hz hne hX1 hd hy hF =>
   subst hX1
   have h1:ElB p n m (fun i=>X (swF r k i)) r 0:=h.sw hkn (by omega) hp
   refine ⟨fun i hi=>?_,fun i hi=>?_,by omega,Nat.mod_lt _ hp⟩
   ·unfold addR upF
    split
    ·rw [Zbe]; exact h1.len i hi
    ·split
     ·rw [hF,ZaD]; exact h1.len r (by omega)
     ·exact h1.len i hi
   ·unfold addR upF
    split
    ·exact Zpl hp (h1.lt i hi)
    ·split
     ·rw [hF]; exact ZfZ hp (h1.lt r (by omega))
     ·exact h1.lt i hi
theorem ZmC {X1:Nat→List Nat} {F:List Nat}:addR c p m r X1 F 0=upF X1 r F:=funext fun i=>by unfold addR; rw [if_neg (by omega)]
theorem Zon {X1:Nat→List Nat} {F:List Nat} {q i:Nat} (hi:i=r + 1 + q):addR c p m r X1 F q i=X1 i:=by
 unfold addR; rw [if_neg (by omega),ZaP (by omega)]
theorem Zlc {X1:Nat→List Nat} {F:List Nat} {q:Nat}:addR c p m r X1 F q r=F:=by unfold addR; rw [if_neg (by omega),Zas]
theorem Zj1 {X1:Nat→List Nat} {F:List Nat} {q i x:Nat} (hi:i=r + 1 + q) (hx:(X1 i)[c]?.getD 0=x):upF (addR c p m r X1 F q) i (addP c ((p - x) % p) p (X1 i) F m)=addR c p m r X1 F (q + 1):=funext fun t=>by
 by_cases e:t=i
 ·subst e; rw [Zas]; unfold addR; rw [if_pos (by omega),hx]
 ·rw [ZaP e]
  unfold addR
  by_cases h2:r < t∧t < r + 1 + q
  ·rw [if_pos h2,if_pos (by omega)]
  ·rw [if_neg h2,if_neg (by omega)]
theorem ZjA {α:Type} {f:Nat→α} {i:Nat} {x y:α}:upF (upF f i x) i y=upF f i y:=funext fun t=>by
 by_cases e:t=i
 ·subst e; rw [Zas,Zas]
 ·rw [ZaP e,ZaP e,ZaP e]
theorem Zij {α:Type} {f:Nat→α} {i:Nat}:upF f i (f i)=f:=funext fun t=>by
 by_cases e:t=i
 ·subst e; rw [Zas]
 ·rw [ZaP e]
theorem Zld {r i:Nat}:swF r r i=i:=by unfold swF; split<;>(try split)<;>omega
theorem ZmD {r k:Nat}:swF r k r=k:=if_pos rfl
end
end Go.Proofs.YthlipnahcbcjkaaGreatDoor

namespace Go.Proofs.YthlipnahcbcjkaaGreatDoor
open Go.RowKit
section
variable {P:Program} {ops:Array Oper} {Q:Exit→Act→World→Prop} {a:Act} {w:World} {l:List Oper} {o:Oper}
def mvB (o:Oper):Bool:=match o.op with
 | .move _ | .assign _ | .extract _ _=>o.dst.isSome
 | _=>false
theorem Znr (hm:mvB o=true) (h:wpList P ops Q (o :: l) a w):∃ v,Yields P ops o v a∧wpList P ops Q l (a.put o.dst v) w:=by
 unfold wpList at h
 by_cases hw:Region.wanted o (yielded ops a.tmps)=true
 ·rw [if_pos hw] at h
  unfold mvB at hm
  cases ho:o.op<;>rw [ho] at hm<;>first | (cases hm; done) | skip
  ·rename_i x
   refine ⟨a.eval x,Or.inl ⟨hw,fun w=>by simp [execOp,ho]⟩,?_⟩
   rcases h with h | ⟨⟨h,_⟩,_⟩
   ·simpa [Oper.wp,Oper.upon,execOp,ho] using h
   ·simp only [execOp,ho] at h
    exact absurd (show noRoomEvent ∈ (#[]:Array Event) from h) (by simp)
  ·rename_i x
   refine ⟨a.eval x,Or.inl ⟨hw,fun w=>by simp [execOp,ho]⟩,?_⟩
   rcases h with h | ⟨⟨h,_⟩,_⟩
   ·simpa [Oper.wp,Oper.upon,execOp,ho] using h
   ·simp only [execOp,ho] at h
    exact absurd (show noRoomEvent ∈ (#[]:Array Event) from h) (by simp)
  ·rename_i x ix
   have key:(∃ v,Instr.extract (a.eval x) ix=pure v)∨∃ m,Instr.extract (a.eval x) ix=stuck m:=by
    unfold Instr.extract
    split
    ·split
     ·exact Or.inl ⟨_,rfl⟩
     ·exact Or.inr ⟨_,rfl⟩
    ·exact Or.inr ⟨_,rfl⟩
   rcases key with ⟨v,hv⟩ | ⟨m,hv⟩
   ·refine ⟨v,Or.inl ⟨hw,fun w=>by simp [execOp,ho,hv]⟩,?_⟩
    rcases h with h | ⟨⟨h,_⟩,_⟩
    ·simpa [Oper.wp,Oper.upon,execOp,ho,hv] using h
    ·simp only [execOp,ho,hv] at h
     exact absurd (show noRoomEvent ∈ (#[]:Array Event) from h) (by simp)
   ·rcases h with h | ⟨⟨h,_⟩,_⟩
    ·simp only [Oper.wp,execOp,ho,hv] at h
     exact absurd (show False from h) (fun e=>e)
    ·simp only [execOp,ho,hv] at h
     exact absurd (show noRoomEvent ∈ (#[]:Array Event) from h) (by simp)
 ·rw [if_neg hw] at h
  exact ⟨undef,Or.inr ⟨by simpa using hw,rfl⟩,h⟩
def seqA (ops:Array Oper):Nat→Nat→Array Bool→Bool
 | 0,_,listed=>(Region.ready .any ops listed).isEmpty
 | g + 1,k,listed=>(decide (Region.ready .any ops listed=[k]) || (mvB (opAt ops k) && (Region.free .any ops listed k && (Region.ready .any ops listed).contains k))) && seqA ops g (k + 1) (listed.setIfInBounds k true)
theorem ZeJ (hs:Region.noSelect ops=true) (hQ:∀ (c:_) (a:Act) (w:World) (d:Nat) (v:Value),Q (.panic c) (a.put (some d) v) w→Q (.panic c) a w):∀ (l:List Oper) (k:Nat) (listed:Array Bool) (a:Act) (w:World),(∀ j,l[j]? = ops[k + j]?) →
 seqA ops l.length k listed=true→wpList P ops Q l a w→wpAny P .any ops Q l.length listed a w
 | [],_,_,_,_,_,hB,h=>⟨by simpa [seqA] using hB,h⟩
 | o :: l,k,listed,a,w,hl,hB,h=>by
   have h0:ops[k]? = some o:=by simpa using (hl 0).symm
   have hl':∀ j,l[j]? = ops[k + 1 + j]? := fun j=>by have:=hl (j + 1); simpa [Nat.add_assoc,Nat.add_comm 1 j] using this
   simp only [List.length_cons,seqA,Bool.and_eq_true,Bool.or_eq_true,decide_eq_true_eq] at hB
   obtain ⟨h1 | ⟨h1,h2,h3⟩,hB⟩:=hB
   ·refine ⟨fun h2=>(by rw [h1] at h2; cases h2),fun i hi=>?_⟩
    rw [h1] at hi
    have hik:i=k:=by simpa using hi
    subst hik
    have hw:wpOp P ops Q i (wpList P ops Q l) a w:=by unfold wpOp; simp only [h0]; exact h
    exact wpOp_mono (fun a' w' h'=>ZeJ hs hQ l (i + 1) _ a' w' hl' hB h') hw
   ·have hop:opAt ops k=o:=Option.some.inj ((ZcQ (Array.getElem?_eq_some_iff.1 h0).1).symm.trans h0)
    rw [hop] at h1
    obtain ⟨v,hy,hw⟩:=Znr h1 h
    obtain ⟨d,hd⟩:∃ d,o.dst=some d:=by
     unfold mvB at h1
     cases hd:o.dst with
     | some d=>exact ⟨d,rfl⟩
     | none=>rw [hd] at h1; split at h1<;>cases h1
    exact wpAny_take h0 hs h2 h3 (fun c a w h=>by rw [hd] at h; exact hQ c a w d v h) hy (ZeJ hs hQ l (k + 1) _ _ w hl' hB hw)
end
end Go.Proofs.YthlipnahcbcjkaaGreatDoor

namespace Go.Proofs.YthlipnahcbcjkaaGreatDoor
open Go.RowKit
section
variable {N:Nat} {S0:Nat→Prop} {w0:World} {s:St} {Φ Φ0:World→Prop} {L:Nat→Nat} {a:Act} {w:World} {P:Program} {ops:Array Oper} {Q:Exit→Act→World→Prop} {fin:St→(World→Prop)→Prop}
def ZiY (R:Nat→Nat→Bool) (ops:Array Oper) (n i:Nat):Bool:=(List.range ops.size).all fun t=>decide (t < n) || R t i
theorem Zg4 (K:Nat) (ops:Array Oper):Zge ops (Zda .any ops K):=fun _ hc j _ h hall=>Ze6 hc K j h hall
theorem Zns {R:Nat→Nat→Bool} {n i j:Nat} {listed:Array Bool} (hR:Zge ops R) (ht:ZiY R ops n i=true) (hc:Zde .any ops listed) (hi:listed.getD i true=false) (hj:j ∈ Region.ready .any ops listed):j < n:=by
 obtain ⟨_,oj,hoj,hall⟩:=mem_ready.1 hj
 have h1:=List.all_eq_true.1 ht j (List.mem_range.2 (Array.getElem?_eq_some_iff.1 hoj).1)
 simp only [Bool.or_eq_true,decide_eq_true_eq] at h1
 rcases h1 with h1 | h1
 ·exact h1
 ·have h2:=hR listed hc j i h1 (fun o ho=>by
   have:o=oj:=Option.some.inj (ho.symm.trans hoj)
   subst this
   exact hall)
  rw [getD_both hi] at h2
  cases h2
theorem ZiZ {s0:St} {n:Nat} {R:Nat→Nat→Bool} (hR:Zge ops R) (hu:Zdz ops=true) (hn:n≤ops.size) (hback:Zez ops=true) (hnos:Region.noSelect ops=true) (hQ:∀ (c:_) (a:Act) (w:World) (d:Nat) (v:Value),Q (.panic c) (a.put (some d) v) w→Q (.panic c) a w) (hpair:Zfw R ops s0 n=true) (hseq:seqA ops (ops.size - n) n (Zcz ops n)=true) (hne:∃ w,Φ0 w)
 (hfin:∀ s Φ,fin s Φ→∀ L a w,Inv N S0 w0 s Φ L a w→wpList P ops Q (ops.toList.drop n) a w) :
 ∀ (k:Nat) (listed:Array Bool) (s:St) (Φ:World→Prop) (L:Nat→Nat) (a:Act) (w:World),(un n listed).length=k→listed.size=ops.size→(∀ i,n≤i→i < ops.size→listed.getD i true=false)→(∀ i,i ∈ un n listed→ZiY R ops n i=true)→Zde .any ops listed →
   BI ops s0 s→(∀ w,Φ w→Φ0 w)→Inv N S0 w0 s Φ L a w→Strat P N S0 w0 ops Φ0 fin (un n listed) s Φ→wpAny P .any ops Q (k + (ops.size - n)) listed a w:=by
 intro k
 induction k with
 | zero =>
   intro listed s Φ L a w hk hsz htl _ hcl hBI S hi hS
   have hnil:un n listed=[]:=List.length_eq_zero_iff.1 hk
   rw [hnil] at hS
   have hl:listed=Zcz ops n:=by
    refine Array.ext (by simp [Zcz,hsz]; omega) (fun i h1 h2=>?_)
    have hi':i < ops.size:=by rw [← hsz]; exact h1
    have e:listed.getD i true=listed[i]:=by simp [h1]
    rw [← e]
    by_cases hin:i < n
    ·have:listed.getD i true≠false:=fun h=>by
      have:=ZcW.2 ⟨hin,h⟩
      rw [hnil] at this
      cases this
     simp only [Zcz,List.getElem_toArray]
     rw [List.getElem_append_left (by simpa using hin),List.getElem_replicate]
     cases h:listed.getD i true with
     | true=>rfl
     | false=>exact absurd h this
    ·rw [htl i (by omega) hi']
     simp only [Zcz,List.getElem_toArray]
     rw [List.getElem_append_right (by simpa using hin),List.getElem_replicate]
   have hdl:(ops.toList.drop n).length=ops.size - n:=by simp
   cases hS with
   | done hf =>
     have:=ZeJ hnos hQ (ops.toList.drop n) n listed a w (fun j=>by simp [List.getElem?_drop]) (by rw [hdl,hl]; exact hseq) (hfin _ _ hf L a w hi)
     rw [hdl] at this
     rw [Nat.zero_add]; exact this
 | succ k ih =>
   intro listed s Φ L a w hk hsz htl htail hcl hBI S hi hS
   rw [show k + 1 + (ops.size - n)=(k + (ops.size - n)) + 1 by omega]
   obtain ⟨x,R',hR'⟩:∃ x R,un n listed=x :: R:=by
    cases h:un n listed with
    | nil=>rw [h] at hk; cases hk
    | cons x R=>exact ⟨x,R,rfl⟩
   have hx:=ZcW.1 (by rw [hR']; exact List.mem_cons_self:x ∈ un n listed)
   have hmin:∀ i,i < x→listed.getD i true=true:=fun i hix=>by
    cases h:listed.getD i true with
    | true=>rfl
    | false =>
      have:=ZcW.2 ⟨(by omega:i < n),h⟩
      rw [hR'] at this
      have hs:=ZeF n listed
      rw [hR'] at hs
      rcases List.mem_cons.1 this with e | e
      ·omega
      ·have:=(List.pairwise_cons.1 hs).1 i e; omega
   have hxr:x ∈ Region.ready .any ops listed:=by
    have hxs:x < ops.size:=by omega
    refine mem_ready.2 ⟨hx.2,opAt ops x,ZcQ hxs,fun e he heb=>?_⟩
    have h1:=List.all_eq_true.1 hback x (List.mem_range.2 hxs)
    rw [ZcQ hxs] at h1
    have h2':=Array.all_eq_true'.1 h1 e he
    rw [heb] at h2'
    have h2:=Nat.le_of_ble_eq_true h2'
    have h3:=hmin e.on h2
    have h4:e.on < listed.size:=by rw [hsz]; exact Nat.lt_trans h2 hxs
    simp [h4] at h3 ⊢; exact h3
   refine ⟨fun h=>(by rw [h] at hxr; cases hxr),fun j hj=>?_⟩
   have hjn:j < n:=Zns hR (htail x (ZcW.2 hx)) hcl hx.2 hj
   obtain ⟨hjun,oj,hoj,hall⟩:=mem_ready.1 hj
   have hjm:j ∈ un n listed:=ZcW.2 ⟨hjn,hjun⟩
   obtain ⟨l1,l2,hl⟩:=List.append_of_mem hjm
   have hs:=ZeF n listed
   rw [hl] at hs
   have hap:∀ y,y ∈ l1→y < ops.size∧(opAt ops y).apart ops (opAt ops j)=true∧(Zdp (opAt ops y).op (opAt ops j).op=true∨(lsB (opAt ops y).op (opAt ops j).op=true∧farB ops s0 (opAt ops y) (opAt ops j)=true)):=fun y hy=>by
    have hyj:y < j:=(List.pairwise_append.1 hs).2.2 y hy j List.mem_cons_self
    have hyu:=(ZcW.1 (by rw [hl]; exact List.mem_append_left _ hy:y ∈ un n listed)).2
    have h1:=List.all_eq_true.1 (List.all_eq_true.1 hpair j (List.mem_range.2 hjn)) y (List.mem_range.2 hyj)
    rw [Bool.or_eq_true] at h1
    rcases h1 with h1 | h1
    ·have h2:=hR listed hcl j y h1 (fun o ho=>by
      have:o=oj:=Option.some.inj (ho.symm.trans hoj)
      subst this
      exact hall)
     rw [getD_both hyu] at h2
     cases h2
    ·simp only [Bool.and_eq_true,Bool.or_eq_true] at h1
     exact ⟨by omega,h1⟩
   rw [hl] at hS
   have hS':=Strat.front hu hne l1 l2 s Φ hi.wf hBI hap hS
   refine Strat.exec hu hBI (by omega) hi S hS' (fun s' Φ' L' a' w' hBI' hΦ' hi' K'=>?_)
   have hun':=Znf hl
   refine ih (listed.setIfInBounds j true) s' Φ' L' a' w' ?_ (by simp [hsz]) (fun i h1 h2=>?_) (fun i h1=>htail i (by rw [hun'] at h1; rw [hl]; rcases List.mem_append.1 h1 with h2 | h2; exact List.mem_append_left _ h2; exact List.mem_append_right _ (List.mem_cons_of_mem _ h2))) (hcl.set hj) hBI' hΦ' hi' (by rw [hun']; exact K')
   ·rw [hun']
    rw [hl] at hk
    simp only [List.length_append,List.length_cons] at hk ⊢
    omega
   ·rw [getD_set_ne true (by omega)]; exact htl i h1 h2
theorem ZeM {i d t:Nat} {v:Value} {fuel:Nat} {listed:Array Bool} (hi:Inv N S0 w0 s Φ L a w) (hsz:Nat.blt i ops.size=true) (hop:(opAt ops i).op=.move (.tmp t)) (hd:(opAt ops i).dst=some d) (hN:Nat.blt d N=true) (hw:s.wantB ops (opAt ops i)=some true) (hx:s.sl t=some (.v v))
 (hs:Region.noSelect ops=true) (hf:Region.free .any ops listed i=true) (hr:(Region.ready .any ops listed).contains i=true) (hQ:∀ c a w,Q (.panic c) (a.put (some d) v) w→Q (.panic c) a w)
 (h:∀ a',Inv N S0 w0 (s.put d (.v v)) Φ L a' w→wpAny P .any ops Q fuel (listed.setIfInBounds i true) a' w):wpAny P .any ops Q (fuel + 1) listed a w:=by
 have hlt:i < ops.size:=Nat.le_of_ble_eq_true hsz
 have he:a.eval (.tmp t)=v:=by have:=hi.eval (x:=.tmp t) (y:=.v v) hx; exact this
 refine wpAny_take (v:=v) (ZcQ hlt) hs hf hr (by rw [hd]; exact hQ) (Or.inl ⟨hi.want hw,fun w=>?_⟩) (by rw [hd]; exact h _ (hi.app0 (Nat.le_of_ble_eq_true hN) (al_v (s:=s) v)))
 simp only [execOp,hop,he,Sem.run_pure]
def ZdC (n:Nat):Array Bool:=((((Array.replicate n false).setIfInBounds 0 true).setIfInBounds 1 true).setIfInBounds 2 true).setIfInBounds 3 true
theorem Zoo {n i:Nat} (h:4≤i) (hi:i < n):(ZdC n).getD i true=false:=by
 unfold ZdC
 rw [getD_set_ne true (by omega),getD_set_ne true (by omega),getD_set_ne true (by omega),getD_set_ne true (by omega)]
 simp [hi]
theorem Zg5 {id:Nat} (K n t0 d0 t1 d1 t2 d2 t3 d3:Nat) (v0 v1 v2 v3:Value) {sl:SlL} {bl:BlL}
 (h:StI P N S0 w0 ops Φ Q n 4 (((((ofL sl bl).put d0 (.v v0)).put d1 (.v v1)).put d2 (.v v2)).put d3 (.v v3)) Φ)
 (hI:Zfv ops sl=true:=by kernel_rfl) (hm:P.follows .mixedOrders=true:=by exact ZaE)
 (hB:(Nat.ble n ops.size && (Nat.ble 4 n && (Zdz ops && Zez ops && ((List.range' 4 (n - 4)).all (fun i=>ZiY (Zda .any ops K) ops n i) && (Zfw (Zda .any ops K) ops (ofL sl bl) n && seqA ops (ops.size - n) n (Zcz ops n))))))=true:=by kernel_rfl)
 (hun:un n (ZdC ops.size)=List.range' 4 (n - 4):=by kernel_rfl) (hcl:Zhu .any ops (ZdC ops.size)=true:=by kernel_rfl) (hs:Region.noSelect ops=true:=by kernel_rfl)
 (hf:(Region.free .any ops (Array.replicate ops.size false) 0 && Region.free .any ops ((Array.replicate ops.size false).setIfInBounds 0 true) 1 && Region.free .any ops (((Array.replicate ops.size false).setIfInBounds 0 true).setIfInBounds 1 true) 2 && Region.free .any ops ((((Array.replicate ops.size false).setIfInBounds 0 true).setIfInBounds 1 true).setIfInBounds 2 true) 3)=true:=by kernel_rfl)
 (hr:((Region.ready .any ops (Array.replicate ops.size false)).contains 0 && (Region.ready .any ops ((Array.replicate ops.size false).setIfInBounds 0 true)).contains 1 && (Region.ready .any ops (((Array.replicate ops.size false).setIfInBounds 0 true).setIfInBounds 1 true)).contains 2 && (Region.ready .any ops ((((Array.replicate ops.size false).setIfInBounds 0 true).setIfInBounds 1 true).setIfInBounds 2 true)).contains 3)=true:=by kernel_rfl)
 (o0:(opAt ops 0).op=.move (.tmp t0)∧(opAt ops 0).dst=some d0∧(opAt ops 0).guard=none:=by exact ⟨rfl,rfl,rfl⟩) (o1:(opAt ops 1).op=.move (.tmp t1)∧(opAt ops 1).dst=some d1∧(opAt ops 1).guard=none:=by exact ⟨rfl,rfl,rfl⟩)
 (o2:(opAt ops 2).op=.move (.tmp t2)∧(opAt ops 2).dst=some d2∧(opAt ops 2).guard=none:=by exact ⟨rfl,rfl,rfl⟩) (o3:(opAt ops 3).op=.move (.tmp t3)∧(opAt ops 3).dst=some d3∧(opAt ops 3).guard=none:=by exact ⟨rfl,rfl,rfl⟩)
 (hN:(Nat.blt d0 N && Nat.blt d1 N && Nat.blt d2 N && Nat.blt d3 N && Nat.ble 4 ops.size)=true:=by kernel_rfl)
 (x0:(ofL sl bl).sl t0=some (.v v0):=by kernel_rfl) (x1:((ofL sl bl).put d0 (.v v0)).sl t1=some (.v v1):=by kernel_rfl) (x2:(((ofL sl bl).put d0 (.v v0)).put d1 (.v v1)).sl t2=some (.v v2):=by kernel_rfl) (x3:((((ofL sl bl).put d0 (.v v0)).put d1 (.v v1)).put d2 (.v v2)).sl t3=some (.v v3):=by kernel_rfl)
 (hQ:∀ (c:_) (a:Act) (w:World) (d:Nat) (v:Value),Q (.panic c) (a.put (some d) v) w→Q (.panic c) a w:=by exact fun _ _ _ _ _ h=>h):SXc P N S0 w0 Q (.region id ops true) (ofL sl bl) Φ:=by
 simp only [Bool.and_eq_true] at hB hf hr hN
 obtain ⟨h1,h14,⟨h0,h2⟩,h3,h4,h5⟩:=hB
 have hn:=Nat.le_of_ble_eq_true h1
 have hn4:=Nat.le_of_ble_eq_true h14
 obtain ⟨⟨⟨⟨n0,n1⟩,n2⟩,n3⟩,n4⟩:=hN
 have n4:=Nat.le_of_ble_eq_true n4
 have want:∀ (s:St) (o:Oper),o.guard=none→s.wantB ops o=some true:=fun s o e=>by unfold St.wantB; rw [e]
 have lt:∀ k,k < 4→Nat.blt k ops.size=true:=fun k hk=>Nat.ble_eq_true_of_le (by omega)
 intro L a w hi
 refine wp_region_any hm ?_
 have hlen:ops.size=(un n (ZdC ops.size)).length + (ops.size - n) + 1 + 1 + 1 + 1:=by rw [hun,List.length_range']; omega
 have key:∀ a' w',Inv N S0 w0 (((((ofL sl bl).put d0 (.v v0)).put d1 (.v v1)).put d2 (.v v2)).put d3 (.v v3)) Φ L a' w'→wpAny P .any ops Q ((un n (ZdC ops.size)).length + (ops.size - n)) (ZdC ops.size) a' w':=fun a' w' hi'=>by
  have hb:BI ops (ofL sl bl) (((((ofL sl bl).put d0 (.v v0)).put d1 (.v v1)).put d2 (.v v2)).put d3 (.v v3)):=by
   have q:∀ (i d:Nat) (v:Value) (s:St),BI ops (ofL sl bl) s→i < ops.size→(opAt ops i).dst=some d→BI ops (ofL sl bl) (s.put d (.v v)):=fun i d v s hB hi hd=>hB.app h0 hi hd (r:=(.v v,none)) (fun _ _ e=>by cases e) (fun _ _ e=>by cases e)
   exact q 3 d3 v3 _ (q 2 d2 v2 _ (q 1 d1 v1 _ (q 0 d0 v0 _ (BI.init hI) (by omega) o0.2.1) (by omega) o1.2.1) (by omega) o2.2.1) (by omega) o3.2.1
  refine ZiZ (Zg4 K ops) (Q:=Q) (fin:=fun s Φ=>SXi P N S0 w0 ops Q n s Φ) h0 hn h2 hs hQ h4 h5 ⟨w',hi'.box.self⟩ (fun s Φ hf L a w hi'=>hf L a w hi') _ (ZdC ops.size) _ Φ L a' w' rfl (by simp [ZdC]) (fun i hi1 hi2=>Zoo (by omega) hi2)
   (fun i hi1=>by rw [hun] at hi1; exact List.all_eq_true.1 h3 i hi1) (ZjT hcl) hb (fun _ h=>h) hi' (by rw [hun]; exact h)
 have H:wpAny P .any ops Q ((un n (ZdC ops.size)).length + (ops.size - n) + 1 + 1 + 1 + 1) (Array.replicate ops.size false) a w.drew:=?_
 ·rw [← hlen] at H; exact H
 refine ZeM hi.drew (lt 0 (by omega)) o0.1 o0.2.1 n0 (want _ _ o0.2.2) x0 hs hf.1.1.1 hr.1.1.1 (fun c a w h=>hQ c a w _ _ h) (fun a1 i1=>?_)
 refine ZeM i1 (lt 1 (by omega)) o1.1 o1.2.1 n1 (want _ _ o1.2.2) x1 hs hf.1.1.2 hr.1.1.2 (fun c a w h=>hQ c a w _ _ h) (fun a2 i2=>?_)
 refine ZeM i2 (lt 2 (by omega)) o2.1 o2.2.1 n2 (want _ _ o2.2.2) x2 hs hf.1.2 hr.1.2 (fun c a w h=>hQ c a w _ _ h) (fun a3 i3=>?_)
 refine ZeM i3 (lt 3 (by omega)) o3.1 o3.2.1 n3 (want _ _ o3.2.2) x3 hs hf.2 hr.2 (fun c a w h=>hQ c a w _ _ h) (fun a4 i4=>?_)
 exact key a4 _ i4
theorem Zfc {id:Nat} (n t0 d0 t1 d1 t2 d2 t3 d3:Nat) (v0 v1 v2 v3:Value) {sl:SlL} {bl:BlL}
 (h:StI P N S0 w0 ops Φ Q n 4 (((((ofL sl bl).put d0 (.v v0)).put d1 (.v v1)).put d2 (.v v2)).put d3 (.v v3)) Φ)
 (hI:Zfv ops sl=true:=by kernel_rfl) (hm:P.follows .mixedOrders=true:=by exact ZaE)
 (hB:(Nat.ble n ops.size && (Nat.ble 4 n && (Zdz ops && Zez ops && ((List.range' 4 (n - 4)).all (fun i=>ZiY (Zda .any ops 4) ops n i) && (Zfw (Zda .any ops 4) ops (ofL sl bl) n && seqA ops (ops.size - n) n (Zcz ops n))))))=true:=by kernel_rfl)
 (hun:un n (ZdC ops.size)=List.range' 4 (n - 4):=by kernel_rfl) (hcl:Zhu .any ops (ZdC ops.size)=true:=by kernel_rfl) (hs:Region.noSelect ops=true:=by kernel_rfl)
 (hf:(Region.free .any ops (Array.replicate ops.size false) 0 && Region.free .any ops ((Array.replicate ops.size false).setIfInBounds 0 true) 1 && Region.free .any ops (((Array.replicate ops.size false).setIfInBounds 0 true).setIfInBounds 1 true) 2 && Region.free .any ops ((((Array.replicate ops.size false).setIfInBounds 0 true).setIfInBounds 1 true).setIfInBounds 2 true) 3)=true:=by kernel_rfl)
 (hr:((Region.ready .any ops (Array.replicate ops.size false)).contains 0 && (Region.ready .any ops ((Array.replicate ops.size false).setIfInBounds 0 true)).contains 1 && (Region.ready .any ops (((Array.replicate ops.size false).setIfInBounds 0 true).setIfInBounds 1 true)).contains 2 && (Region.ready .any ops ((((Array.replicate ops.size false).setIfInBounds 0 true).setIfInBounds 1 true).setIfInBounds 2 true)).contains 3)=true:=by kernel_rfl)
 (o0:(opAt ops 0).op=.move (.tmp t0)∧(opAt ops 0).dst=some d0∧(opAt ops 0).guard=none:=by exact ⟨rfl,rfl,rfl⟩) (o1:(opAt ops 1).op=.move (.tmp t1)∧(opAt ops 1).dst=some d1∧(opAt ops 1).guard=none:=by exact ⟨rfl,rfl,rfl⟩)
 (o2:(opAt ops 2).op=.move (.tmp t2)∧(opAt ops 2).dst=some d2∧(opAt ops 2).guard=none:=by exact ⟨rfl,rfl,rfl⟩) (o3:(opAt ops 3).op=.move (.tmp t3)∧(opAt ops 3).dst=some d3∧(opAt ops 3).guard=none:=by exact ⟨rfl,rfl,rfl⟩)
 (hN:(Nat.blt d0 N && Nat.blt d1 N && Nat.blt d2 N && Nat.blt d3 N && Nat.ble 4 ops.size)=true:=by kernel_rfl)
 (x0:(ofL sl bl).sl t0=some (.v v0):=by kernel_rfl) (x1:((ofL sl bl).put d0 (.v v0)).sl t1=some (.v v1):=by kernel_rfl) (x2:(((ofL sl bl).put d0 (.v v0)).put d1 (.v v1)).sl t2=some (.v v2):=by kernel_rfl) (x3:((((ofL sl bl).put d0 (.v v0)).put d1 (.v v1)).put d2 (.v v2)).sl t3=some (.v v3):=by kernel_rfl)
 (hQ:∀ (c:_) (a:Act) (w:World) (d:Nat) (v:Value),Q (.panic c) (a.put (some d) v) w→Q (.panic c) a w:=by exact fun _ _ _ _ _ h=>h):SXc P N S0 w0 Q (.region id ops true) (ofL sl bl) Φ:=Zg5 4 n t0 d0 t1 d1 t2 d2 t3 d3 v0 v1 v2 v3 h hI hm hB hun hcl hs hf hr o0 o1 o2 o3 hN x0 x1 x2 x3 hQ
theorem Zop {id:Nat} (K n:Nat) {sl:SlL} {bl:BlL} (h:StI P N S0 w0 ops Φ Q n 0 (ofL sl bl) Φ)
 (hI:Zfv ops sl=true:=by kernel_rfl) (hm:P.follows .mixedOrders=true:=by exact ZaE)
 (hB:(Nat.ble n ops.size && (Zdz ops && Zez ops && ((List.range n).all (fun i=>ZiY (Zda .any ops K) ops n i) && (Zfw (Zda .any ops K) ops (ofL sl bl) n && seqA ops (ops.size - n) n (Zcz ops n)))))=true:=by kernel_rfl)
 (hs:Region.noSelect ops=true:=by kernel_rfl)
 (hQ:∀ (c:_) (a:Act) (w:World) (d:Nat) (v:Value),Q (.panic c) (a.put (some d) v) w→Q (.panic c) a w:=by exact fun _ _ _ _ _ h=>h):SXc P N S0 w0 Q (.region id ops true) (ofL sl bl) Φ:=by
 simp only [Bool.and_eq_true] at hB
 obtain ⟨h1,⟨h0,h2⟩,h3,h4,h5⟩:=hB
 have hn:=Nat.le_of_ble_eq_true h1
 intro L a w hi
 refine wp_region_any hm ?_
 have hun:un n (Array.replicate ops.size false)=List.range n:=by
  unfold un
  refine List.filter_eq_self.2 (fun i hi'=>?_)
  have:=List.mem_range.1 hi'
  simp [show i < ops.size by omega]
 have:=ZiZ (Zg4 K ops) (Q:=Q) (fin:=fun s Φ=>SXi P N S0 w0 ops Q n s Φ) h0 hn h2 hs hQ h4 h5 ⟨w,hi.box.self⟩ (fun s Φ hf L a w hi'=>hf L a w hi') (un n (Array.replicate ops.size false)).length (Array.replicate ops.size false) _ Φ L a w.drew rfl (by simp)
  (fun i _ h'=>by simp [h']) (fun i hi'=>by rw [hun] at hi'; exact List.all_eq_true.1 h3 i hi') (fun j oj _ hl=>by rw [getD_replicate_false] at hl; cases hl) (BI.init hI) (fun _ h=>h) hi.drew (by rw [hun,List.range_eq_range']; exact h)
 rw [hun,List.length_range,show n + (ops.size - n)=ops.size by omega] at this
 exact this
end
end Go.Proofs.YthlipnahcbcjkaaGreatDoor

namespace Go.Proofs.YthlipnahcbcjkaaGreatDoor
open Go.RowKit
abbrev MU (w:World) (b n:Nat) (A:Nat→Option Addr) (C:Nat→Nat) (X:Nat→List Nat):Prop:=MatO .u64 88 93 w b n ⟨A,C,X⟩
section
variable {N:Nat} {S0:Nat→Prop} {w0:World} {s:St} {Φ:World→Prop} {P:Program} {Q:Exit→Act→World→Prop}
theorem Zoq {c:Code} (h:SXc P N S0 w0 (Exit.noGoto Q) c s Φ):SXc P N S0 w0 Q (.scope c) s Φ:=fun L a w hi=>wp_scope_straight (h L a w hi)
theorem Zle (h:SXq N S0 w0 (Q .ret) s Φ):SXq N S0 w0 (Exit.noGoto Q .ret) s Φ:=h
end
section
variable {N:Nat} {S0:Nat→Prop} {w:World} {Φ:World→Prop} {P:Program}
theorem Zj2 (S0:Nat→Prop) {fn:Func} {f:FuncId} {c:Code} {args:List Value} {R:Ending→World→Prop} (hf:P.funcs[f]? = some fn) (hb:fn.body=some c) (hl:Nat.ble args.length fn.ntmps=true) (Q:Box (fun _=>False) w Φ)
 (h:SXc P fn.ntmps S0 w (bodyPost P fn R) c (ofL (Zht 0 args) []) Φ):Calls P f args.toArray w R:=by
 refine calls_of_wp hf hb (h (fun _=>0) _ w ⟨?_,rfl,fun i x hx=>?_,⟨fun b t cs e=>(by cases e),fun b c e=>(by cases e),fun b e=>(by cases e),Fr.refl _ _,fun i b off e=>?_,fun b t cs e=>(by cases e)⟩,?_⟩)
 ·have:=Nat.le_of_ble_eq_true hl
  simp; omega
 ·obtain ⟨_,v,hv,rfl⟩:=Ze8 args 0 i x hx
  have hlt:i < args.length:=by
   rcases Nat.lt_or_ge i args.length with h' | h'
   ·exact h'
   ·rw [List.getElem?_eq_none (by omega)] at hv; cases hv
  simp only [AV.conc]
  rw [Array.getElem?_append_left (by simpa using hlt)]
  simpa using hv
 ·obtain ⟨_,v,hv,e'⟩:=Ze8 args 0 i _ e
  cases e'
 ·intro w' hf'
  exact Q w' (hf'.mono (fun i _ h'=>by obtain ⟨b,e,_⟩:=h'; cases e))
end
section
variable {P:Program} {o:Oper} {ρ:Operand→Value} {w w0:World} {t e:TypeId} {x y ix:Operand} {S0:Nat→Prop} {k:IntKind} {te tr:TypeId} {b n m:Nat} {A:Nat→Option Addr} {C:Nat→Nat} {X X':Nat→List Nat} {i j v:Nat}
theorem Zdj {k:IntKind} {k':TypeId} {a b:Nat} (hb:0 < b) (ho:o.op=Op.binOp .rem t x y k':=by kernel_rfl) (hx:ρ x=.int k ((a:Nat):Int):=by kernel_rfl) (hy:ρ y=.int k ((b:Nat):Int):=by kernel_rfl) :
 (execOp ρ o).run P w=.ok (.value (.int k ((a % b:Nat):Int))) w:=by
 have h:¬ ((b:Int)=0):=by omega
 have e:((a:Int).tmod (b:Int))=((a % b:Nat):Int):=by
  rw [Int.tmod_eq_emod_of_nonneg (by omega)]; rfl
 simp only [execOp,ho,hx,hy,eqGuard,binOp,Op.intDiv,if_neg h,e,ne_eq,not_true,if_false]
 rfl
theorem ZaQ (h:MatO k te tr w b n ⟨A,C,X⟩) (hi:i < n) (hl:(X i).length=m) (ho:o.op=Op.load t x:=by kernel_rfl) (hx:ρ x=.pointer (some ⟨b,i,none⟩):=by kernel_rfl) (ha:(teOf P t).map (fun e=>e.agg)=some false:=by kernel_rfl) :
 (execOp ρ o).run P w=.ok (.value (.slice (A i) m (C i))) w:=by
 subst hl
 exact Zg2 (h.top hi) ho hx ha
theorem Za4 (h:MatO k te tr w b n ⟨A,C,X⟩) (hi:i < n) (hl:(X i).length=m) (hj:j < m) {cap:Nat} (ho:o.op=Op.indexAddr t x ix:=by kernel_rfl) (ht:P.underlying t=some (.slice e):=by kernel_rfl) (hs:(P.info? e).map (fun i=>i.size)=some 1:=by kernel_rfl)
 (hx:ρ x=.slice (A i) m cap:=by kernel_rfl) (hix:ρ ix=.int .i64 ((j:Nat):Int):=by kernel_rfl):(execOp ρ o).run P w=.ok (.value (atA (A i) j)) w :=
 Zfb (h.ne0 hi (by rw [← hl] at hj; exact hj)) hj ho ht hs hx hix
theorem Zbo (h:MatO k te tr w b n ⟨A,C,X⟩) (hi:i < n) (hl:(X i).length=m) (hj:j < m) (hv:(X i)[j]?.getD 0=v) (ho:o.op=Op.load t x:=by kernel_rfl) (hx:ρ x=atA (A i) j:=by kernel_rfl) (ha:(teOf P t).map (fun e=>e.agg)=some false:=by kernel_rfl) :
 (execOp ρ o).run P w=.ok (.value (.int k ((v:Nat):Int))) w:=by
 rw [← hv]
 exact Zpk h hi (by rw [← hl] at hj; exact hj) ho hx ha
theorem stE (h:MatO k te tr w b n ⟨A,C,X⟩) (Q:Fr S0 w0 w) (hS:∀ i,i < n→∀ g,Zad (A i) g→S0 g∨w0.heap.size≤g) (hi:i < n) (hl:(X i).length=m) (hj:j < m) (hX:upF X i ((X i).set j v)=X')
 (ho:o.op=Op.store t x y:=by kernel_rfl) (hx:ρ x=atA (A i) j:=by kernel_rfl) (hy:ρ y=.int k ((v:Nat):Int):=by kernel_rfl) (hs:(teOf P t).map (fun e=>e.size)=some 1:=by kernel_rfl) :
 ∃ w',(execOp ρ o).run P w=.ok .skip w'∧Fr S0 w0 w'∧∀ w'',Ext w' w''→MatO k te tr w'' b n ⟨A,C,X'⟩:=by
 obtain ⟨w',hr,hM,hF⟩:=h.setElem (P:=P) (t:=t) hs hi (by rw [← hl] at hj; exact hj) v
 refine ⟨w',by simp only [execOp,ho,Sem.run_bind,hx,hy,hr,Result.andThen_ok,Sem.run_pure],Q.next hF (fun g hg hg2=>(hS i hi g hg2).elim id (fun h2=>absurd hg (by omega))),fun w'' hw=>?_⟩
 rw [← hX]; exact hM.ext hw
def Zku (k:IntKind) (te tr:TypeId) (w:World) (b n:Nat) (M:MR) (r q:Nat):Prop:=ZbX tr w b n (upF M.v r (M.v q))∧RowsO k te w b n M
theorem stH1 {r q:Nat} (h:MatO k te tr w b n ⟨A,C,X⟩) (Q:Fr S0 w0 w) (hS:S0 b∨w0.heap.size≤b) (hi:r < n) (hl:(X q).length=m)
 (ho:o.op=Op.store t x y:=by kernel_rfl) (hx:ρ x=.pointer (some ⟨b,r,none⟩):=by kernel_rfl) (hy:ρ y=.slice (A q) m (C q):=by kernel_rfl) (hs:(teOf P t).map (fun e=>e.size)=some 1:=by kernel_rfl) :
 ∃ w',(execOp ρ o).run P w=.ok .skip w'∧Fr S0 w0 w'∧∀ w'',Ext w' w''→Zku k te tr w'' b n ⟨A,C,X⟩ r q:=by
 subst hl
 obtain ⟨w',hr,hT,hF⟩:=h.1.set (P:=P) (t:=t) (A:=A q) (l:=(X q).length) (c:=C q) hs hi
 refine ⟨w',by simp only [execOp,ho,Sem.run_bind,hx,hy,hr,Result.andThen_ok,Sem.run_pure],Q.next hF (fun g hg hg2=>hS.elim (fun z=>by rw [hg2]; exact z) (fun h2=>absurd hg (by omega))),fun w'' hw=>⟨hT.ext hw,(h.2.fr hF (fun i g hi hg e=>h.2.ne i hi (by rw [← e]; exact hg))).ext hw⟩⟩
theorem stH2 {r q:Nat} (h:Zku k te tr w b n ⟨A,C,X⟩ r q) (Q:Fr S0 w0 w) (hS:S0 b∨w0.heap.size≤b) (hi:r < n) (hq:q < n) (hrq:r≠q) (hl:(X r).length=m)
 (ho:o.op=Op.store t x y:=by kernel_rfl) (hx:ρ x=.pointer (some ⟨b,q,none⟩):=by kernel_rfl) (hy:ρ y=.slice (A r) m (C r):=by kernel_rfl) (hs:(teOf P t).map (fun e=>e.size)=some 1:=by kernel_rfl) :
 ∃ w',(execOp ρ o).run P w=.ok .skip w'∧Fr S0 w0 w'∧∀ w'',Ext w' w''→MatO k te tr w'' b n ⟨fun i=>A (swF r q i),fun i=>C (swF r q i),fun i=>X (swF r q i)⟩:=by
 subst hl
 obtain ⟨w',hr,hT,hF⟩:=h.1.set (P:=P) (t:=t) (A:=A r) (l:=(X r).length) (c:=C r) hs hq
 refine ⟨w',by simp only [execOp,ho,Sem.run_bind,hx,hy,hr,Result.andThen_ok,Sem.run_pure],Q.next hF (fun g hg hg2=>hS.elim (fun z=>by rw [hg2]; exact z) (fun h2=>absurd hg (by omega))),fun w'' hw=>⟨(hT.congr fun i _=>?_).ext hw,((h.2.fr hF (fun i g hi hg e=>h.2.ne i hi (by rw [← e]; exact hg))).swap hi hq).ext hw⟩⟩
 show upF (upF (MR.v ⟨A,C,X⟩) r (MR.v ⟨A,C,X⟩ q)) q (MR.v ⟨A,C,X⟩ r) i=MR.v ⟨A,C,X⟩ (swF r q i)
 unfold swF
 by_cases e:i=q
 ·subst e; rw [Zas,if_neg (Ne.symm hrq),if_pos rfl]
 ·rw [ZaP e]
  by_cases e2:i=r
  ·subst e2; rw [Zas,if_pos rfl]
  ·rw [ZaP e2,if_neg e2,if_neg e]
end
theorem ZmE (x p:Nat) (w:World) (hx:x < p) (hp:2≤p) (hm:p≤2147483647):Calls Tryz.prog 130 #[.int .u64 (x:Int), .int .u64 (p:Int)] w (RetV w (.int .u64 ((invN x p:Nat):Int))) :=
 (ZiG x p w hx hp hm).mono (fun _ _ ⟨h1,h2⟩=>⟨h1,by rw [h2]; exact Fr.refl _ _⟩)
theorem Zlf {x p:Nat} (hp:0 < p):invN x p < p:=Nat.mod_lt _ hp
theorem Zlg {x y p:Nat} (hx:x < p) (hy:y < p) (hp:p≤2147483647):IntKind.u64.wrap (((x:Nat):Int) * ((y:Nat):Int))=((x * y:Nat):Int):=by
 have h:=Nat.mul_lt_mul'' hx hy
 have h2:=Nat.mul_le_mul hp hp
 rw [← Int.natCast_mul,IntKind.wrap_u64]; omega
theorem Znt {x p:Nat} (hx:x≤p) (hp:p≤2147483647):IntKind.u64.wrap (((p:Nat):Int) - ((x:Nat):Int))=((p - x:Nat):Int):=by rw [IntKind.wrap_u64]; omega
theorem ZpJ {x y z p:Nat} (hz:z < p) (hx:x < p) (hy:y < p) (hp:p≤2147483647):IntKind.u64.wrap (((z:Nat):Int) + ((x * y:Nat):Int))=((z + x * y:Nat):Int):=by
 have h:=Nat.mul_lt_mul'' hx hy
 have h2:=Nat.mul_le_mul hp hp
 rw [IntKind.wrap_u64]; omega
theorem ZaI {k:Nat} (h:k≤100000):IntKind.i64.wrap (((k:Nat):Int) + 1)=((k + 1:Nat):Int):=by rw [IntKind.wrap_i64]; omega
theorem atB {B:Option Addr} {b l q i:Nat} (h:B=some ⟨b,l,none⟩) (hi:i=l + q):atA B q=.pointer (some ⟨b,i,none⟩):=by rw [h,atA,Option.map_some,Zct,hi]
theorem Zp0 {x:Nat} (h:(((x:Nat):Int) != 0)=true):x≠0:=fun e=>by subst e; cases h
theorem ZoO {x:Nat} (h:(((x:Nat):Int) != 0)=false):x=0:=by
 have:=beq_iff_eq.1 (by simpa using h:(((x:Nat):Int) == 0)=true); omega
theorem ZcY {x y:Nat} (h:(((x:Nat):Int) != ((y:Nat):Int))=true):x≠y:=fun e=>by subst e; simp at h
theorem ZcZ {x y:Nat} (h:(((x:Nat):Int) != ((y:Nat):Int))=false):x=y:=by
 have:=beq_iff_eq.1 (by simpa using h:(((x:Nat):Int) == ((y:Nat):Int))=true); omega
theorem stS {b n:Nat} {A A0:Nat→Option Addr} {C0:Nat→Nat} {X0:Nat→List Nat} {w0:World} (h:∀ i,i < n→∃ j,j < n∧A i=A0 j):∀ i,i < n→∀ g,Zad (A i) g→MatB b n ⟨A0,C0,X0⟩ g∨w0.heap.size≤g:=fun i hi g hg=>by
 obtain ⟨j,hj,e⟩:=h i hi
 exact Or.inl (Or.inr ⟨j,hj,by show Zad (A0 j) g; rw [← e]; exact hg⟩)
def ZoP (w:World) (b n m cols p:Nat) (A0:Nat→Option Addr) (C0:Nat→Nat) (X0:Nat→List Nat) (e:Ending) (w':World):Prop:=∃ r d A C X,e=.returned (.tuple #[.int .i64 ((r:Nat):Int), .int .u64 ((d:Nat):Int)])∧Fr (MatB b n ⟨A0,C0,X0⟩) w w' ∧
 ElRun p n m X0 cols X r d∧ElB p n m X r d∧(∀ i,i < n→∃ j,j < n∧A i=A0 j)∧MU w' b n A C X
theorem ZdD (b n m cols p:Nat) (A0:Nat→Option Addr) (C0:Nat→Nat) (X0:Nat→List Nat) (w:World) (hM:MU w b n A0 C0 X0) (hn:n≤1000) (hm:m≤1000) (hc:cols≤m) (hp2:2≤p) (hp31:p≤2147483647) (hB0:ElB p n m X0 0 1) :
 Calls Tryz.prog 60 #[.slice (some ⟨b,0,none⟩) n n, .int .i64 ((cols:Nat):Int), .int .u64 ((p:Nat):Int)] w (ZoP w b n m cols p A0 C0 X0):=by
 refine Zj2 (MatB b n ⟨A0,C0,X0⟩) (Φ:=fun w=>MU w b n (A0) (C0) (X0)) Tryz.func60 rfl (by kernel_rfl) (fun w' hf=>hM.ext hf) ?_
 refine Zac (Zab (xr 2 [eS1 0 (some ⟨b,0,none⟩) n n,(1, .v (.int .i64 ((cols:Nat):Int))),(2, .v (.int .u64 ((p:Nat):Int))),(6, .v (.int .i64 0)),(7, .v (.int .u64 0))] [] ?_))
 refine xe (Zaa ?_)
 refine Zoq ?_
 refine Zac (Zab (xr 2 [eS1 0 (some ⟨b,0,none⟩) n n,(1, .v (.int .i64 ((cols:Nat):Int))),(2, .v (.int .u64 ((p:Nat):Int))),(6, .v (.int .i64 0)),(7, .v (.int .u64 0)),(8, .v (.int .i64 0)),(9, .v (.int .u64 1))] [] ?_))
 refine xe (Zaa (Zac ?_))
 refine Zol ?_
 refine Zaa (Zac (Zac (Zab (xr 2 [eS1 0 (some ⟨b,0,none⟩) n n,(2, .v (.int .u64 ((p:Nat):Int))),(6, .v (.int .i64 0)),(7, .v (.int .u64 0)),(8, .v (.int .i64 0)),(9, .v (.int .u64 1)),(19, .v (.int .i64 ((cols:Nat):Int))),(20, .v (.int .i64 0))] [] ?_))))
 refine xe (Zaa (Zap ?_))
 refine SXc.weak [(0, .v (.slice (some ⟨b,0,none⟩) n n)),(2, .v (.int .u64 ((p:Nat):Int))),(6, .v (.int .i64 0)),(7, .v (.int .u64 0)),(8, .v (.int .i64 ((0:Nat):Int))),(9, .v (.int .u64 ((1:Nat):Int))),(19, .v (.int .i64 ((cols:Nat):Int))),(20, .v (.int .i64 ((0:Nat):Int)))] [] (Ψ:=fun w=>MU w b n (A0) (C0) (X0)) (Zaw.of (by kernel_rfl)) (by kernel_rfl) (fun w Q=>Q) ?_
 refine ZaU (fun nn ss ff=>∃ (A:Nat→Option Addr) (C:Nat→Nat) (X:Nat→List Nat) (r d col:Nat),ss=ofL [(0, .v (.slice (some ⟨b,0,none⟩) n n)),(2, .v (.int .u64 ((p:Nat):Int))),(6, .v (.int .i64 0)),(7, .v (.int .u64 0)),(8, .v (.int .i64 ((r:Nat):Int))),(9, .v (.int .u64 ((d:Nat):Int))),(19, .v (.int .i64 ((cols:Nat):Int))),(20, .v (.int .i64 ((col:Nat):Int)))] []∧ff=(fun w=>MU w b n (A) (C) (X))∧(ElRun p n m X0 col X r d)∧(ElB p n m X r d)∧(∀ i,i < n→∃ j,j < n∧A i=A0 j)∧(col≤cols)∧nn=(cols - col)) ((cols - 0)) ⟨A0,C0,X0,0,1,0,rfl,rfl, .nil,hB0,fun i hi=>⟨i,hi,rfl⟩,Nat.zero_le _,rfl⟩ ?_
 rintro nn ss ff ⟨A,C,X,r,d,col,rfl,rfl,hR,hB,hA,hcc,rfl⟩
 refine Zac (Zab (xr 1 [eS1 0 (some ⟨b,0,none⟩) n n,(2, .v (.int .u64 ((p:Nat):Int))),(6, .v (.int .i64 0)),(7, .v (.int .u64 0)),(8, .v (.int .i64 ((r:Nat):Int))),(9, .v (.int .u64 ((d:Nat):Int))),(19, .v (.int .i64 ((cols:Nat):Int))),(20, .v (.int .i64 ((col:Nat):Int))),(21, .v (.bool (decide (((col:Nat):Int) < ((cols:Nat):Int)))))] [] ?_))
 refine xe (Zaa (Zac ?_))
 refine Zar ((decide (((col:Nat):Int) < ((cols:Nat):Int)))) (by kernel_rfl) (fun hb10=>?_) (fun hb10=>?_)
 ·have hcol:col < cols:=by have:=of_decide_eq_true hb10; omega
  refine Zam (Zaa (Zac (Zap (Zac (Zab (xr 2 [eS1 0 (some ⟨b,0,none⟩) n n,(2, .v (.int .u64 ((p:Nat):Int))),(6, .v (.int .i64 0)),(7, .v (.int .u64 0)),(8, .v (.int .i64 ((r:Nat):Int))),(9, .v (.int .u64 ((d:Nat):Int))),(10, .v (.int .i64 ((col:Nat):Int))),(19, .v (.int .i64 ((cols:Nat):Int))),(20, .v (.int .i64 ((col:Nat):Int)))] [] ?_))))))
  refine xe (Zaa (Zac (Zab (xr 2 [eS1 0 (some ⟨b,0,none⟩) n n,(2, .v (.int .u64 ((p:Nat):Int))),(6, .v (.int .i64 0)),(7, .v (.int .u64 0)),(8, .v (.int .i64 ((r:Nat):Int))),(9, .v (.int .u64 ((d:Nat):Int))),(10, .v (.int .i64 ((col:Nat):Int))),(11, .v (.int .i64 ((r:Nat):Int))),(19, .v (.int .i64 ((cols:Nat):Int))),(20, .v (.int .i64 ((col:Nat):Int)))] [] ?_))))
  refine xe (Zaa (Zac (Zap ?_)))
  refine SXc.weak [(0, .v (.slice (some ⟨b,0,none⟩) n n)),(2, .v (.int .u64 ((p:Nat):Int))),(6, .v (.int .i64 0)),(7, .v (.int .u64 0)),(8, .v (.int .i64 ((r:Nat):Int))),(9, .v (.int .u64 ((d:Nat):Int))),(10, .v (.int .i64 ((col:Nat):Int))),(11, .v (.int .i64 ((r:Nat):Int))),(19, .v (.int .i64 ((cols:Nat):Int))),(20, .v (.int .i64 ((col:Nat):Int)))] [] (Ψ:=fun w=>MU w b n (A) (C) (X)) (Zaw.of (by kernel_rfl)) (by kernel_rfl) (fun w Q=>Q) ?_
  refine ZaU (fun nn ss ff=>∃ (k:Nat),ss=ofL [(0, .v (.slice (some ⟨b,0,none⟩) n n)),(2, .v (.int .u64 ((p:Nat):Int))),(6, .v (.int .i64 0)),(7, .v (.int .u64 0)),(8, .v (.int .i64 ((r:Nat):Int))),(9, .v (.int .u64 ((d:Nat):Int))),(10, .v (.int .i64 ((col:Nat):Int))),(11, .v (.int .i64 ((k:Nat):Int))),(19, .v (.int .i64 ((cols:Nat):Int))),(20, .v (.int .i64 ((col:Nat):Int)))] []∧ff=(fun w=>MU w b n (A) (C) (X))∧(r≤k)∧(k≤n)∧(∀ i,r≤i→i < k→(X i)[col]?.getD 0=0)∧nn=(n - k)) ((n - r)) ⟨r,rfl,rfl,Nat.le_refl _,hB.rn,fun i h1 h2=>absurd h1 (by omega),rfl⟩ ?_
  rintro nn ss ff ⟨k,rfl,rfl,hk,hkn,hz,rfl⟩
  refine Zac (Zap (Zac (Zac (Zab (xr 4 [eS1 0 (some ⟨b,0,none⟩) n n,(2, .v (.int .u64 ((p:Nat):Int))),(6, .v (.int .i64 0)),(7, .v (.int .u64 0)),(8, .v (.int .i64 ((r:Nat):Int))),(9, .v (.int .u64 ((d:Nat):Int))),(10, .v (.int .i64 ((col:Nat):Int))),(11, .v (.int .i64 ((k:Nat):Int))),(19, .v (.int .i64 ((cols:Nat):Int))),(20, .v (.int .i64 ((col:Nat):Int))),(29, .v (.bool (decide (((k:Nat):Int) ≥ ((n:Nat):Int)))))] [] ?_)))))
  refine xe (Zaa ?_)
  refine Zar ((decide (((k:Nat):Int) ≥ ((n:Nat):Int)))) (by kernel_rfl) (fun hb11=>?_) (fun hb11=>?_)
  ·have hkk:n≤k:=by have:=of_decide_eq_true hb11; omega
   refine ZaC (Zae ?_)
   refine Zjv (by kernel_rfl) ?_
   refine Zae (Zae ?_)
   refine Zjv (by kernel_rfl) ?_
   refine Zae (ZaO (Zaa (Zab (xr 1 [eS1 0 (some ⟨b,0,none⟩) n n,(2, .v (.int .u64 ((p:Nat):Int))),(6, .v (.int .i64 0)),(7, .v (.int .u64 0)),(8, .v (.int .i64 ((r:Nat):Int))),(9, .v (.int .u64 ((d:Nat):Int))),(19, .v (.int .i64 ((cols:Nat):Int))),(20, .v (.int .i64 ((col:Nat):Int))),(143, .v (.int .i64 (IntKind.i64.wrap (((col:Nat):Int) + 1))))] [] ?_))))
   rw [ZaI (k:=col) (by omega)]
   refine xr 1 [eS1 0 (some ⟨b,0,none⟩) n n,(2, .v (.int .u64 ((p:Nat):Int))),(6, .v (.int .i64 0)),(7, .v (.int .u64 0)),(8, .v (.int .i64 ((r:Nat):Int))),(9, .v (.int .u64 ((d:Nat):Int))),(19, .v (.int .i64 ((cols:Nat):Int))),(20, .v (.int .i64 ((col + 1:Nat):Int)))] [] ?_
   refine xe ?_
   refine SXq.weak [(0, .v (.slice (some ⟨b,0,none⟩) n n)),(2, .v (.int .u64 ((p:Nat):Int))),(6, .v (.int .i64 0)),(7, .v (.int .u64 0)),(8, .v (.int .i64 ((r:Nat):Int))),(9, .v (.int .u64 ((d:Nat):Int))),(19, .v (.int .i64 ((cols:Nat):Int))),(20, .v (.int .i64 (((col + 1):Nat):Int)))] [] (Ψ:=fun w=>MU w b n (A) (C) (X)) (Zaw.of (by kernel_rfl)) (by kernel_rfl) (fun w Q=>Q) ?_
   exact ZaB ((cols - (col + 1))) (by omega) ⟨A,C,X,r,d,(col + 1),rfl,rfl,(hR.snoc (.none (fun i h1 h2=>hz i h1 (by omega)))),(ElStep.bd (by omega) hB (c:=col) (.none (fun i h1 h2=>hz i h1 (by omega)))),hA,(by omega),rfl⟩
  ·have hkk:k < n:=by have:=of_decide_eq_false hb11; omega
   refine Zam (Zaa (Zac ?_))
   obtain ⟨x,hx⟩:∃ x,(X k)[col]?.getD 0=x:=⟨_,rfl⟩
   refine Zab (xr 2 [eS1 0 (some ⟨b,0,none⟩) n n,(2, .v (.int .u64 ((p:Nat):Int))),(6, .v (.int .i64 0)),(7, .v (.int .u64 0)),(8, .v (.int .i64 ((r:Nat):Int))),(9, .v (.int .u64 ((d:Nat):Int))),(10, .v (.int .i64 ((col:Nat):Int))),(11, .v (.int .i64 ((k:Nat):Int))),(19, .v (.int .i64 ((cols:Nat):Int))),(20, .v (.int .i64 ((col:Nat):Int))),eS1 30 (some ⟨b,0,none⟩) n n,(31, .v (.int .i64 ((k:Nat):Int)))] [] ?_)
   refine xk 32 (.pointer (some ⟨b,k,none⟩)) (fun w hE' Q=>Zax (g:=b) (len:=n) (cap:=n) (i:=k) (t:=91) (e:=93) (x:=.tmp 30) (ix:=.tmp 31) (by omega)) ?_
   refine xk 33 (.slice (A k) m (C k)) (fun w hE' Q=>ZaQ (t:=93) (x:=.tmp 32) Q (show k < n by omega) (hB.len k (by omega))) ?_
   refine xr 1 [eS1 0 (some ⟨b,0,none⟩) n n,(2, .v (.int .u64 ((p:Nat):Int))),(6, .v (.int .i64 0)),(7, .v (.int .u64 0)),(8, .v (.int .i64 ((r:Nat):Int))),(9, .v (.int .u64 ((d:Nat):Int))),(10, .v (.int .i64 ((col:Nat):Int))),(11, .v (.int .i64 ((k:Nat):Int))),(19, .v (.int .i64 ((cols:Nat):Int))),(20, .v (.int .i64 ((col:Nat):Int))),eS1 33 (A k) m (C k),(34, .v (.int .i64 ((col:Nat):Int)))] [] ?_
   refine xk 35 (atA (A k) col) (fun w hE' Q=>Za4 (t:=93) (e:=88) (x:=.tmp 33) (ix:=.tmp 34) (cap:=C k) Q (show k < n by omega) (hB.len k (by omega)) (show col < m by omega)) ?_
   refine xk 36 (.int .u64 ((x:Nat):Int)) (fun w hE' Q=>Zbo (t:=88) (x:=.tmp 35) (j:=col) Q (show k < n by omega) (hB.len k (by omega)) (show col < m by omega) hx) ?_
   refine xr 1 [eS1 0 (some ⟨b,0,none⟩) n n,(2, .v (.int .u64 ((p:Nat):Int))),(6, .v (.int .i64 0)),(7, .v (.int .u64 0)),(8, .v (.int .i64 ((r:Nat):Int))),(9, .v (.int .u64 ((d:Nat):Int))),(10, .v (.int .i64 ((col:Nat):Int))),(11, .v (.int .i64 ((k:Nat):Int))),(19, .v (.int .i64 ((cols:Nat):Int))),(20, .v (.int .i64 ((col:Nat):Int))),(37, .v (.bool ((((x:Nat):Int):Int) != 0)))] [] ?_
   refine xe (Zaa ?_)
   refine Zar (((((x:Nat):Int):Int) != 0)) (by kernel_rfl) (fun hb12=>?_) (fun hb12=>?_)
   ·have hne:(X k)[col]?.getD 0≠0:=by rw [hx]; exact Zp0 hb12
    refine ZaC ?_
    refine Zjv (by kernel_rfl) ?_
    refine Zae (Zae (ZaO (Zaa ?_)))
    refine Zno (fun ss ff=>∃ (A1:Nat→Option Addr) (C1:Nat→Nat) (X1:Nat→List Nat) (d1:Nat),ss=ofL [(0, .v (.slice (some ⟨b,0,none⟩) n n)),(2, .v (.int .u64 ((p:Nat):Int))),(6, .v (.int .i64 0)),(7, .v (.int .u64 0)),(8, .v (.int .i64 ((r:Nat):Int))),(9, .v (.int .u64 ((d1:Nat):Int))),(10, .v (.int .i64 ((col:Nat):Int))),(19, .v (.int .i64 ((cols:Nat):Int))),(20, .v (.int .i64 ((col:Nat):Int)))] []∧ff=(fun w=>MU w b n (A1) (C1) (X1))∧(X1=fun i=>X (swF r k i))∧(d1=if k=r then d else (p - d) % p)∧(ElB p n m X1 r d1)∧(∀ i,i < n→∃ j,j < n∧A1 i=A0 j)) ?_ ?_
    ·refine Zac (Zab (xr 3 [eS1 0 (some ⟨b,0,none⟩) n n,(2, .v (.int .u64 ((p:Nat):Int))),(6, .v (.int .i64 0)),(7, .v (.int .u64 0)),(8, .v (.int .i64 ((r:Nat):Int))),(9, .v (.int .u64 ((d:Nat):Int))),(10, .v (.int .i64 ((col:Nat):Int))),(11, .v (.int .i64 ((k:Nat):Int))),(19, .v (.int .i64 ((cols:Nat):Int))),(20, .v (.int .i64 ((col:Nat):Int))),(40, .v (.bool ((((k:Nat):Int):Int) != ((r:Nat):Int))))] [] ?_))
     refine xe (Zaa ?_)
     refine Zar (((((k:Nat):Int):Int) != ((r:Nat):Int))) (by kernel_rfl) (fun hb13=>?_) (fun hb13=>?_)
     ·have hkr:=ZcY hb13
      refine Zac ?_
      refine Zfc 13 0 41 8 42 0 43 11 44 (.slice (some ⟨b,0,none⟩) n n) (.int .i64 ((r:Nat):Int)) (.slice (some ⟨b,0,none⟩) n n) (.int .i64 ((k:Nat):Int)) ?_
      refine xf 2 [eS1 0 (some ⟨b,0,none⟩) n n,(2, .v (.int .u64 ((p:Nat):Int))),(6, .v (.int .i64 0)),(7, .v (.int .u64 0)),(8, .v (.int .i64 ((r:Nat):Int))),(9, .v (.int .u64 ((d:Nat):Int))),(10, .v (.int .i64 ((col:Nat):Int))),(19, .v (.int .i64 ((cols:Nat):Int))),(20, .v (.int .i64 ((col:Nat):Int))),eS1 41 (some ⟨b,0,none⟩) n n,(42, .v (.int .i64 ((r:Nat):Int))),eS1 43 (some ⟨b,0,none⟩) n n,(44, .v (.int .i64 ((k:Nat):Int))),eS1 45 (some ⟨b,0,none⟩) n n,(46, .v (.int .i64 ((k:Nat):Int)))] [] ?_
      refine xj 47 (.pointer (some ⟨b,k,none⟩)) (fun w Q=>Zax (g:=b) (len:=n) (cap:=n) (i:=k) (t:=91) (e:=93) (x:=.tmp 45) (ix:=.tmp 46) (by omega)) ?_
      refine xj 48 (.slice (A k) m (C k)) (fun w Q=>ZaQ (t:=93) (x:=.tmp 47) Q (show k < n by omega) (hB.len k (by omega))) ?_
      refine xf 2 [eS1 0 (some ⟨b,0,none⟩) n n,(2, .v (.int .u64 ((p:Nat):Int))),(6, .v (.int .i64 0)),(7, .v (.int .u64 0)),(8, .v (.int .i64 ((r:Nat):Int))),(9, .v (.int .u64 ((d:Nat):Int))),(10, .v (.int .i64 ((col:Nat):Int))),(19, .v (.int .i64 ((cols:Nat):Int))),(20, .v (.int .i64 ((col:Nat):Int))),eS1 41 (some ⟨b,0,none⟩) n n,(42, .v (.int .i64 ((r:Nat):Int))),eS1 43 (some ⟨b,0,none⟩) n n,(44, .v (.int .i64 ((k:Nat):Int))),eS1 48 (A k) m (C k),eS1 49 (some ⟨b,0,none⟩) n n,(50, .v (.int .i64 ((r:Nat):Int)))] [] ?_
      refine xj 51 (.pointer (some ⟨b,r,none⟩)) (fun w Q=>Zax (g:=b) (len:=n) (cap:=n) (i:=r) (t:=91) (e:=93) (x:=.tmp 49) (ix:=.tmp 50) (by omega)) ?_
      refine xj 52 (.slice (A r) m (C r)) (fun w Q=>ZaQ (t:=93) (x:=.tmp 51) Q (show r < n by omega) (hB.len r (by omega))) ?_
      refine xj 53 (.pointer (some ⟨b,r,none⟩)) (fun w Q=>Zax (g:=b) (len:=n) (cap:=n) (i:=r) (t:=91) (e:=93) (x:=.tmp 41) (ix:=.tmp 42) (by omega)) ?_
      refine xf 0 [eS1 0 (some ⟨b,0,none⟩) n n,(2, .v (.int .u64 ((p:Nat):Int))),(6, .v (.int .i64 0)),(7, .v (.int .u64 0)),(8, .v (.int .i64 ((r:Nat):Int))),(9, .v (.int .u64 ((d:Nat):Int))),(10, .v (.int .i64 ((col:Nat):Int))),(19, .v (.int .i64 ((cols:Nat):Int))),(20, .v (.int .i64 ((col:Nat):Int))),eS1 43 (some ⟨b,0,none⟩) n n,(44, .v (.int .i64 ((k:Nat):Int))),eS1 48 (A k) m (C k),eS1 52 (A r) m (C r),(53, .v (.pointer (some ⟨b,r,none⟩)))] [] ?_
      refine xz ?_
      refine Zb8 (fun w=>Zku .u64 88 93 w b n ⟨A,C,X⟩ r k) (fun w hE' Q=>stH1 (t:=93) (x:=.tmp 53) (y:=.tmp 48) (r:=r) (q:=k) Q hE' (Or.inl (Or.inl rfl)) (by omega) (hB.len k (by omega))) ?_
      refine xk 54 (.pointer (some ⟨b,k,none⟩)) (fun w hE' Q=>Zax (g:=b) (len:=n) (cap:=n) (i:=k) (t:=91) (e:=93) (x:=.tmp 43) (ix:=.tmp 44) (by omega)) ?_
      refine Zb8 (fun w=>MU w b n (fun i=>A (swF r k i)) (fun i=>C (swF r k i)) (fun i=>X (swF r k i))) (fun w hE' Q=>stH2 (t:=93) (x:=.tmp 54) (y:=.tmp 52) (r:=r) (q:=k) Q hE' (Or.inl (Or.inl rfl)) (by omega) hkk (Ne.symm hkr) (hB.len r (by omega))) ?_
      refine xr 0 [eS1 0 (some ⟨b,0,none⟩) n n,(2, .v (.int .u64 ((p:Nat):Int))),(6, .v (.int .i64 0)),(7, .v (.int .u64 0)),(8, .v (.int .i64 ((r:Nat):Int))),(9, .v (.int .u64 ((d:Nat):Int))),(10, .v (.int .i64 ((col:Nat):Int))),(19, .v (.int .i64 ((cols:Nat):Int))),(20, .v (.int .i64 ((col:Nat):Int)))] [] ?_
      refine xe (Zaa (Zab (xr 3 [eS1 0 (some ⟨b,0,none⟩) n n,(2, .v (.int .u64 ((p:Nat):Int))),(6, .v (.int .i64 0)),(7, .v (.int .u64 0)),(8, .v (.int .i64 ((r:Nat):Int))),(9, .v (.int .u64 ((d:Nat):Int))),(10, .v (.int .i64 ((col:Nat):Int))),(19, .v (.int .i64 ((cols:Nat):Int))),(20, .v (.int .i64 ((col:Nat):Int))),(57, .v (.int .u64 (IntKind.u64.wrap (((p:Nat):Int) - ((d:Nat):Int)))))] [] ?_)))
      rw [Znt (Nat.le_of_lt hB.dp) hp31]
      refine xr 1 [eS1 0 (some ⟨b,0,none⟩) n n,(2, .v (.int .u64 ((p:Nat):Int))),(6, .v (.int .i64 0)),(7, .v (.int .u64 0)),(8, .v (.int .i64 ((r:Nat):Int))),(9, .v (.int .u64 ((d:Nat):Int))),(10, .v (.int .i64 ((col:Nat):Int))),(19, .v (.int .i64 ((cols:Nat):Int))),(20, .v (.int .i64 ((col:Nat):Int))),(57, .v (.int .u64 ((p - d:Nat):Int))),(58, .v (.int .u64 ((p:Nat):Int)))] [] ?_
      refine xk 59 (.int .u64 (((p - d) % p:Nat):Int)) (fun w hE' Q=>Zdj (k:=.u64) (t:=88) (k':=88) (x:=.tmp 57) (y:=.tmp 58) (a:=(p - d)) (b:=p) (by omega)) ?_
      refine xr 1 [eS1 0 (some ⟨b,0,none⟩) n n,(2, .v (.int .u64 ((p:Nat):Int))),(6, .v (.int .i64 0)),(7, .v (.int .u64 0)),(8, .v (.int .i64 ((r:Nat):Int))),(9, .v (.int .u64 (((p - d) % p:Nat):Int))),(10, .v (.int .i64 ((col:Nat):Int))),(19, .v (.int .i64 ((cols:Nat):Int))),(20, .v (.int .i64 ((col:Nat):Int)))] [] ?_
      refine xe ?_
      refine SXq.weak [(0, .v (.slice (some ⟨b,0,none⟩) n n)),(2, .v (.int .u64 ((p:Nat):Int))),(6, .v (.int .i64 0)),(7, .v (.int .u64 0)),(8, .v (.int .i64 ((r:Nat):Int))),(9, .v (.int .u64 ((((p - d) % p):Nat):Int))),(10, .v (.int .i64 ((col:Nat):Int))),(19, .v (.int .i64 ((cols:Nat):Int))),(20, .v (.int .i64 ((col:Nat):Int)))] [] (Ψ:=fun w=>MU w b n ((fun i=>A (swF r k i))) ((fun i=>C (swF r k i))) ((fun i=>X (swF r k i)))) (Zaw.of (by kernel_rfl)) (by kernel_rfl) (fun w Q=>Q) ?_
      exact Zhx ⟨(fun i=>A (swF r k i)),(fun i=>C (swF r k i)),(fun i=>X (swF r k i)),((p - d) % p),rfl,rfl,rfl,(if_neg (Ne.symm (Ne.symm hkr))).symm,(hB.sw hkk (by omega) (Nat.mod_lt _ (by omega))),(fun i hi=>hA _ (ZbM (by omega) hkk hi))⟩
     ·have hkr:=ZcZ hb13
      refine Zam ?_
      refine SXq.weak [(0, .v (.slice (some ⟨b,0,none⟩) n n)),(2, .v (.int .u64 ((p:Nat):Int))),(6, .v (.int .i64 0)),(7, .v (.int .u64 0)),(8, .v (.int .i64 ((r:Nat):Int))),(9, .v (.int .u64 ((d:Nat):Int))),(10, .v (.int .i64 ((col:Nat):Int))),(19, .v (.int .i64 ((cols:Nat):Int))),(20, .v (.int .i64 ((col:Nat):Int)))] [] (Ψ:=fun w=>MU w b n (A) (C) (X)) (Zaw.of (by kernel_rfl)) (by kernel_rfl) (fun w Q=>Q) ?_
      exact Zhx ⟨A,C,X,d,rfl,rfl,(by rw [hkr]; exact funext fun i=>by rw [Zld]),(if_pos hkr).symm,hB,hA⟩
    ·rintro ss ff ⟨A1,C1,X1,d1,rfl,rfl,hX1,hd1,hB1,hA1⟩
     refine Zac ?_
     obtain ⟨y,hy⟩:∃ y,(X1 r)[col]?.getD 0=y:=⟨_,rfl⟩
     have hyp:y < p:=by rw [← hy]; exact hB1.get (by omega) (by omega)
     have hsp:invN y p < p:=Zlf (by omega)
     obtain ⟨F,hF⟩:∃ F,F=mulP col (invN y p) p (X1 r) m:=⟨_,rfl⟩
     refine Zab (xr 2 [eS1 0 (some ⟨b,0,none⟩) n n,(2, .v (.int .u64 ((p:Nat):Int))),(6, .v (.int .i64 0)),(7, .v (.int .u64 0)),(8, .v (.int .i64 ((r:Nat):Int))),(9, .v (.int .u64 ((d1:Nat):Int))),(10, .v (.int .i64 ((col:Nat):Int))),(19, .v (.int .i64 ((cols:Nat):Int))),(20, .v (.int .i64 ((col:Nat):Int))),eS1 60 (some ⟨b,0,none⟩) n n,(61, .v (.int .i64 ((r:Nat):Int)))] [] ?_)
     refine xk 62 (.pointer (some ⟨b,r,none⟩)) (fun w hE' Q=>Zax (g:=b) (len:=n) (cap:=n) (i:=r) (t:=91) (e:=93) (x:=.tmp 60) (ix:=.tmp 61) (by omega)) ?_
     refine xk 63 (.slice (A1 r) m (C1 r)) (fun w hE' Q=>ZaQ (t:=93) (x:=.tmp 62) Q (show r < n by omega) (hB1.len r (by omega))) ?_
     refine xr 1 [eS1 0 (some ⟨b,0,none⟩) n n,(2, .v (.int .u64 ((p:Nat):Int))),(6, .v (.int .i64 0)),(7, .v (.int .u64 0)),(8, .v (.int .i64 ((r:Nat):Int))),(9, .v (.int .u64 ((d1:Nat):Int))),(10, .v (.int .i64 ((col:Nat):Int))),eS1 12 (A1 r) m (C1 r),(19, .v (.int .i64 ((cols:Nat):Int))),(20, .v (.int .i64 ((col:Nat):Int)))] [] ?_
     refine xe (Zaa (Zac (Zab (xr 3 [eS1 0 (some ⟨b,0,none⟩) n n,(2, .v (.int .u64 ((p:Nat):Int))),(6, .v (.int .i64 0)),(7, .v (.int .u64 0)),(8, .v (.int .i64 ((r:Nat):Int))),(9, .v (.int .u64 ((d1:Nat):Int))),(10, .v (.int .i64 ((col:Nat):Int))),eS1 12 (A1 r) m (C1 r),(19, .v (.int .i64 ((cols:Nat):Int))),(20, .v (.int .i64 ((col:Nat):Int))),(64, .v (.int .u64 ((d1:Nat):Int))),eS1 65 (A1 r) m (C1 r),(66, .v (.int .i64 ((col:Nat):Int)))] [] ?_))))
     refine xk 67 (atA (A1 r) col) (fun w hE' Q=>Za4 (t:=93) (e:=88) (x:=.tmp 65) (ix:=.tmp 66) (cap:=C1 r) Q (show r < n by omega) (hB1.len r (by omega)) (show col < m by omega)) ?_
     refine xk 68 (.int .u64 ((y:Nat):Int)) (fun w hE' Q=>Zbo (t:=88) (x:=.tmp 67) (j:=col) Q (show r < n by omega) (hB1.len r (by omega)) (show col < m by omega) hy) ?_
     refine xr 1 [eS1 0 (some ⟨b,0,none⟩) n n,(2, .v (.int .u64 ((p:Nat):Int))),(6, .v (.int .i64 0)),(7, .v (.int .u64 0)),(8, .v (.int .i64 ((r:Nat):Int))),(9, .v (.int .u64 ((d1:Nat):Int))),(10, .v (.int .i64 ((col:Nat):Int))),eS1 12 (A1 r) m (C1 r),(19, .v (.int .i64 ((cols:Nat):Int))),(20, .v (.int .i64 ((col:Nat):Int))),(69, .v (.int .u64 (IntKind.u64.wrap (((d1:Nat):Int) * ((y:Nat):Int)))))] [] ?_
     rw [Zlg hB1.dp hyp hp31]
     refine xr 1 [eS1 0 (some ⟨b,0,none⟩) n n,(2, .v (.int .u64 ((p:Nat):Int))),(6, .v (.int .i64 0)),(7, .v (.int .u64 0)),(8, .v (.int .i64 ((r:Nat):Int))),(9, .v (.int .u64 ((d1:Nat):Int))),(10, .v (.int .i64 ((col:Nat):Int))),eS1 12 (A1 r) m (C1 r),(19, .v (.int .i64 ((cols:Nat):Int))),(20, .v (.int .i64 ((col:Nat):Int))),(69, .v (.int .u64 ((d1 * y:Nat):Int))),(70, .v (.int .u64 ((p:Nat):Int)))] [] ?_
     refine xk 71 (.int .u64 (((d1 * y) % p:Nat):Int)) (fun w hE' Q=>Zdj (k:=.u64) (t:=88) (k':=88) (x:=.tmp 69) (y:=.tmp 70) (a:=(d1 * y)) (b:=p) (by omega)) ?_
     refine xr 1 [eS1 0 (some ⟨b,0,none⟩) n n,(2, .v (.int .u64 ((p:Nat):Int))),(6, .v (.int .i64 0)),(7, .v (.int .u64 0)),(8, .v (.int .i64 ((r:Nat):Int))),(9, .v (.int .u64 (((d1 * y) % p:Nat):Int))),(10, .v (.int .i64 ((col:Nat):Int))),eS1 12 (A1 r) m (C1 r),(19, .v (.int .i64 ((cols:Nat):Int))),(20, .v (.int .i64 ((col:Nat):Int)))] [] ?_
     refine xe (Zaa (Zac (Zab (xr 2 [eS1 0 (some ⟨b,0,none⟩) n n,(2, .v (.int .u64 ((p:Nat):Int))),(6, .v (.int .i64 0)),(7, .v (.int .u64 0)),(8, .v (.int .i64 ((r:Nat):Int))),(9, .v (.int .u64 (((d1 * y) % p:Nat):Int))),(10, .v (.int .i64 ((col:Nat):Int))),eS1 12 (A1 r) m (C1 r),(19, .v (.int .i64 ((cols:Nat):Int))),(20, .v (.int .i64 ((col:Nat):Int))),eS1 72 (A1 r) m (C1 r),(73, .v (.int .i64 ((col:Nat):Int)))] [] ?_))))
     refine xk 74 (atA (A1 r) col) (fun w hE' Q=>Za4 (t:=93) (e:=88) (x:=.tmp 72) (ix:=.tmp 73) (cap:=C1 r) Q (show r < n by omega) (hB1.len r (by omega)) (show col < m by omega)) ?_
     refine xk 75 (.int .u64 ((y:Nat):Int)) (fun w hE' Q=>Zbo (t:=88) (x:=.tmp 74) (j:=col) Q (show r < n by omega) (hB1.len r (by omega)) (show col < m by omega) hy) ?_
     refine xr 1 [eS1 0 (some ⟨b,0,none⟩) n n,(2, .v (.int .u64 ((p:Nat):Int))),(6, .v (.int .i64 0)),(7, .v (.int .u64 0)),(8, .v (.int .i64 ((r:Nat):Int))),(9, .v (.int .u64 (((d1 * y) % p:Nat):Int))),(10, .v (.int .i64 ((col:Nat):Int))),eS1 12 (A1 r) m (C1 r),(19, .v (.int .i64 ((cols:Nat):Int))),(20, .v (.int .i64 ((col:Nat):Int))),(75, .v (.int .u64 ((y:Nat):Int))),(76, .v (.int .u64 ((p:Nat):Int)))] [] ?_
     refine xc 130 [.int .u64 ((y:Nat):Int), .int .u64 ((p:Nat):Int)] 77 (fun _:Unit=>.int .u64 ((invN y p:Nat):Int)) _ (fun w R Q=>(ZmE y p _ hyp (by omega) hp31).mono (fun _ _ h=>Zau h rfl)) (fun xx=>?_)
     refine xr 1 [eS1 0 (some ⟨b,0,none⟩) n n,(2, .v (.int .u64 ((p:Nat):Int))),(6, .v (.int .i64 0)),(7, .v (.int .u64 0)),(8, .v (.int .i64 ((r:Nat):Int))),(9, .v (.int .u64 (((d1 * y) % p:Nat):Int))),(10, .v (.int .i64 ((col:Nat):Int))),eS1 12 (A1 r) m (C1 r),(13, .v (.int .u64 ((invN y p:Nat):Int))),(19, .v (.int .i64 ((cols:Nat):Int))),(20, .v (.int .i64 ((col:Nat):Int)))] [] ?_
     refine xe (Zaa (Zac (Zac (Zab (xr 2 [eS1 0 (some ⟨b,0,none⟩) n n,(2, .v (.int .u64 ((p:Nat):Int))),(6, .v (.int .i64 0)),(7, .v (.int .u64 0)),(8, .v (.int .i64 ((r:Nat):Int))),(9, .v (.int .u64 (((d1 * y) % p:Nat):Int))),(10, .v (.int .i64 ((col:Nat):Int))),eS1 12 (A1 r) m (C1 r),(13, .v (.int .u64 ((invN y p:Nat):Int))),(14, .v (.int .i64 ((col:Nat):Int))),(19, .v (.int .i64 ((cols:Nat):Int))),(20, .v (.int .i64 ((col:Nat):Int)))] [] ?_)))))
     refine xe (Zaa (Zap ?_))
     refine SXc.weak [(0, .v (.slice (some ⟨b,0,none⟩) n n)),(2, .v (.int .u64 ((p:Nat):Int))),(6, .v (.int .i64 0)),(7, .v (.int .u64 0)),(8, .v (.int .i64 ((r:Nat):Int))),(9, .v (.int .u64 (((d1 * y) % p:Nat):Int))),(10, .v (.int .i64 ((col:Nat):Int))),(12, .v (.slice (A1 r) m (C1 r))),(13, .v (.int .u64 ((invN y p:Nat):Int))),(14, .v (.int .i64 ((col:Nat):Int))),(19, .v (.int .i64 ((cols:Nat):Int))),(20, .v (.int .i64 ((col:Nat):Int)))] [] (Ψ:=fun w=>MU w b n (A1) (C1) (upF X1 r (mulP col (invN y p) p (X1 r) col))) (Zaw.of (by kernel_rfl)) (by kernel_rfl) (fun w Q=>(by rw [ZiX,Zij]; exact Q.1)) ?_
     refine ZaU (fun nn ss ff=>∃ (j:Nat),ss=ofL [(0, .v (.slice (some ⟨b,0,none⟩) n n)),(2, .v (.int .u64 ((p:Nat):Int))),(6, .v (.int .i64 0)),(7, .v (.int .u64 0)),(8, .v (.int .i64 ((r:Nat):Int))),(9, .v (.int .u64 (((d1 * y) % p:Nat):Int))),(10, .v (.int .i64 ((col:Nat):Int))),(12, .v (.slice (A1 r) m (C1 r))),(13, .v (.int .u64 ((invN y p:Nat):Int))),(14, .v (.int .i64 ((j:Nat):Int))),(19, .v (.int .i64 ((cols:Nat):Int))),(20, .v (.int .i64 ((col:Nat):Int)))] []∧ff=(fun w=>MU w b n (A1) (C1) (upF X1 r (mulP col (invN y p) p (X1 r) j)))∧(col≤j)∧(j≤m)∧nn=(m - j)) ((m - col)) ⟨col,rfl,rfl,Nat.le_refl _,(by omega),rfl⟩ ?_
     rintro nn ss ff ⟨j,rfl,rfl,hcj,hj2,rfl⟩
     refine Zac (Zac (Zab (xr 4 [eS1 0 (some ⟨b,0,none⟩) n n,(2, .v (.int .u64 ((p:Nat):Int))),(6, .v (.int .i64 0)),(7, .v (.int .u64 0)),(8, .v (.int .i64 ((r:Nat):Int))),(9, .v (.int .u64 (((d1 * y) % p:Nat):Int))),(10, .v (.int .i64 ((col:Nat):Int))),eS1 12 (A1 r) m (C1 r),(13, .v (.int .u64 ((invN y p:Nat):Int))),(14, .v (.int .i64 ((j:Nat):Int))),(19, .v (.int .i64 ((cols:Nat):Int))),(20, .v (.int .i64 ((col:Nat):Int))),(82, .v (.bool (decide (((j:Nat):Int) < ((m:Nat):Int)))))] [] ?_)))
     refine xe (Zaa ?_)
     refine Zar ((decide (((j:Nat):Int) < ((m:Nat):Int)))) (by kernel_rfl) (fun hb14=>?_) (fun hb14=>?_)
     ·have hjm:j < m:=by have:=of_decide_eq_true hb14; omega
      refine Zam (Zaa (Zac (Zap ?_)))
      obtain ⟨z,hz2⟩:∃ z,(X1 r)[j]?.getD 0=z:=⟨_,rfl⟩
      have hzp:z < p:=by rw [← hz2]; exact hB1.get (by omega) hjm
      refine Zab (xr 4 [eS1 0 (some ⟨b,0,none⟩) n n,(2, .v (.int .u64 ((p:Nat):Int))),(6, .v (.int .i64 0)),(7, .v (.int .u64 0)),(8, .v (.int .i64 ((r:Nat):Int))),(9, .v (.int .u64 (((d1 * y) % p:Nat):Int))),(10, .v (.int .i64 ((col:Nat):Int))),eS1 12 (A1 r) m (C1 r),(13, .v (.int .u64 ((invN y p:Nat):Int))),(14, .v (.int .i64 ((j:Nat):Int))),(19, .v (.int .i64 ((cols:Nat):Int))),(20, .v (.int .i64 ((col:Nat):Int))),eS1 85 (A1 r) m (C1 r),(86, .v (.int .i64 ((j:Nat):Int))),eS1 87 (A1 r) m (C1 r),(88, .v (.int .i64 ((j:Nat):Int)))] [] ?_)
      refine xk 89 (atA (A1 r) j) (fun w hE' Q=>Za4 (t:=93) (e:=88) (x:=.tmp 87) (ix:=.tmp 88) (cap:=C1 r) Q (show r < n by omega) (by rw [Zas,ZaD]; exact hB1.len r (by omega)) hjm) ?_
      refine xk 90 (.int .u64 ((z:Nat):Int)) (fun w hE' Q=>Zbo (t:=88) (x:=.tmp 89) (j:=j) Q (show r < n by omega) (by rw [Zas,ZaD]; exact hB1.len r (by omega)) hjm (by rw [Zas,Zlb]; exact hz2)) ?_
      refine xr 2 [eS1 0 (some ⟨b,0,none⟩) n n,(2, .v (.int .u64 ((p:Nat):Int))),(6, .v (.int .i64 0)),(7, .v (.int .u64 0)),(8, .v (.int .i64 ((r:Nat):Int))),(9, .v (.int .u64 (((d1 * y) % p:Nat):Int))),(10, .v (.int .i64 ((col:Nat):Int))),eS1 12 (A1 r) m (C1 r),(13, .v (.int .u64 ((invN y p:Nat):Int))),(14, .v (.int .i64 ((j:Nat):Int))),(19, .v (.int .i64 ((cols:Nat):Int))),(20, .v (.int .i64 ((col:Nat):Int))),eS1 85 (A1 r) m (C1 r),(86, .v (.int .i64 ((j:Nat):Int))),(92, .v (.int .u64 (IntKind.u64.wrap (((z:Nat):Int) * ((invN y p:Nat):Int)))))] [] ?_
      rw [Zlg hzp hsp hp31]
      refine xr 1 [eS1 0 (some ⟨b,0,none⟩) n n,(2, .v (.int .u64 ((p:Nat):Int))),(6, .v (.int .i64 0)),(7, .v (.int .u64 0)),(8, .v (.int .i64 ((r:Nat):Int))),(9, .v (.int .u64 (((d1 * y) % p:Nat):Int))),(10, .v (.int .i64 ((col:Nat):Int))),eS1 12 (A1 r) m (C1 r),(13, .v (.int .u64 ((invN y p:Nat):Int))),(14, .v (.int .i64 ((j:Nat):Int))),(19, .v (.int .i64 ((cols:Nat):Int))),(20, .v (.int .i64 ((col:Nat):Int))),eS1 85 (A1 r) m (C1 r),(86, .v (.int .i64 ((j:Nat):Int))),(92, .v (.int .u64 ((z * invN y p:Nat):Int))),(93, .v (.int .u64 ((p:Nat):Int)))] [] ?_
      refine xk 94 (.int .u64 (((z * invN y p) % p:Nat):Int)) (fun w hE' Q=>Zdj (k:=.u64) (t:=88) (k':=88) (x:=.tmp 92) (y:=.tmp 93) (a:=(z * invN y p)) (b:=p) (by omega)) ?_
      refine xk 95 (atA (A1 r) j) (fun w hE' Q=>Za4 (t:=93) (e:=88) (x:=.tmp 85) (ix:=.tmp 86) (cap:=C1 r) Q (show r < n by omega) (by rw [Zas,ZaD]; exact hB1.len r (by omega)) hjm) ?_
      refine Zb8 (fun w=>MU w b n (A1) (C1) (upF X1 r (mulP col (invN y p) p (X1 r) (j + 1)))) (fun w hE' Q=>stE (t:=88) (x:=.tmp 95) (y:=.tmp 94) (i:=r) (j:=j) (v:=z * invN y p % p) Q hE' (stS hA1) (by omega) (by rw [Zas,ZaD]; exact hB1.len r (by omega)) hjm (by rw [ZjA,Zas,ZjZ hcj (by rw [hB1.len r (by omega)]; exact hjm) hz2])) ?_
      refine xr 0 [eS1 0 (some ⟨b,0,none⟩) n n,(2, .v (.int .u64 ((p:Nat):Int))),(6, .v (.int .i64 0)),(7, .v (.int .u64 0)),(8, .v (.int .i64 ((r:Nat):Int))),(9, .v (.int .u64 (((d1 * y) % p:Nat):Int))),(10, .v (.int .i64 ((col:Nat):Int))),eS1 12 (A1 r) m (C1 r),(13, .v (.int .u64 ((invN y p:Nat):Int))),(14, .v (.int .i64 ((j:Nat):Int))),(19, .v (.int .i64 ((cols:Nat):Int))),(20, .v (.int .i64 ((col:Nat):Int)))] [] ?_
      refine xe (ZaN (Zaa (Zab (xr 2 [eS1 0 (some ⟨b,0,none⟩) n n,(2, .v (.int .u64 ((p:Nat):Int))),(6, .v (.int .i64 0)),(7, .v (.int .u64 0)),(8, .v (.int .i64 ((r:Nat):Int))),(9, .v (.int .u64 (((d1 * y) % p:Nat):Int))),(10, .v (.int .i64 ((col:Nat):Int))),eS1 12 (A1 r) m (C1 r),(13, .v (.int .u64 ((invN y p:Nat):Int))),(14, .v (.int .i64 ((j:Nat):Int))),(19, .v (.int .i64 ((cols:Nat):Int))),(20, .v (.int .i64 ((col:Nat):Int))),(84, .v (.int .i64 (IntKind.i64.wrap (((j:Nat):Int) + 1))))] [] ?_))))
      rw [ZaI (k:=j) (by omega)]
      refine xr 1 [eS1 0 (some ⟨b,0,none⟩) n n,(2, .v (.int .u64 ((p:Nat):Int))),(6, .v (.int .i64 0)),(7, .v (.int .u64 0)),(8, .v (.int .i64 ((r:Nat):Int))),(9, .v (.int .u64 (((d1 * y) % p:Nat):Int))),(10, .v (.int .i64 ((col:Nat):Int))),eS1 12 (A1 r) m (C1 r),(13, .v (.int .u64 ((invN y p:Nat):Int))),(14, .v (.int .i64 ((j + 1:Nat):Int))),(19, .v (.int .i64 ((cols:Nat):Int))),(20, .v (.int .i64 ((col:Nat):Int)))] [] ?_
      refine xe ?_
      refine SXq.weak [(0, .v (.slice (some ⟨b,0,none⟩) n n)),(2, .v (.int .u64 ((p:Nat):Int))),(6, .v (.int .i64 0)),(7, .v (.int .u64 0)),(8, .v (.int .i64 ((r:Nat):Int))),(9, .v (.int .u64 (((d1 * y) % p:Nat):Int))),(10, .v (.int .i64 ((col:Nat):Int))),(12, .v (.slice (A1 r) m (C1 r))),(13, .v (.int .u64 ((invN y p:Nat):Int))),(14, .v (.int .i64 (((j + 1):Nat):Int))),(19, .v (.int .i64 ((cols:Nat):Int))),(20, .v (.int .i64 ((col:Nat):Int)))] [] (Ψ:=fun w=>MU w b n (A1) (C1) (upF X1 r (mulP col (invN y p) p (X1 r) (j + 1)))) (Zaw.of (by kernel_rfl)) (by kernel_rfl) (fun w Q=>Q) ?_
      exact ZaB ((m - (j + 1))) (by omega) ⟨(j + 1),rfl,rfl,(by omega),(by omega),rfl⟩
     ·have hjm:m≤j:=by have:=of_decide_eq_false hb14; omega
      refine ZaC (Zae (Zae (ZaO (Zaa (Zac (Zac ?_))))))
      obtain ⟨B,hBB⟩:∃ B,(if n=r + 1 then some (⟨b,0,none⟩:Addr) else (some (⟨b,0,none⟩:Addr)).map (·.add (r + 1)))=B:=⟨_,rfl⟩
      refine Zab (xr 3 [eS1 0 (some ⟨b,0,none⟩) n n,(2, .v (.int .u64 ((p:Nat):Int))),(6, .v (.int .i64 0)),(7, .v (.int .u64 0)),(8, .v (.int .i64 ((r:Nat):Int))),(9, .v (.int .u64 (((d1 * y) % p:Nat):Int))),(10, .v (.int .i64 ((col:Nat):Int))),eS1 12 (A1 r) m (C1 r),(19, .v (.int .i64 ((cols:Nat):Int))),(20, .v (.int .i64 ((col:Nat):Int))),eS1 96 (some ⟨b,0,none⟩) n n,(98, .v (.int .i64 (IntKind.i64.wrap (((r:Nat):Int) + 1))))] [] ?_)
      rw [ZaI (k:=r) (by omega)]
      refine xk 99 (.slice B (n - (r + 1)) (n - (r + 1))) (fun w hE' Q=>by rw [← hBB]; exact Zok (A:=some ⟨b,0,none⟩) (len:=n) (cap:=n) (l:=r + 1) (t:=91) (e:=93) (x:=.tmp 96) (lo:=.tmp 98) (by omega)) ?_
      refine xr 2 [eS1 0 (some ⟨b,0,none⟩) n n,(2, .v (.int .u64 ((p:Nat):Int))),(6, .v (.int .i64 0)),(7, .v (.int .u64 0)),(8, .v (.int .i64 ((r:Nat):Int))),(9, .v (.int .u64 (((d1 * y) % p:Nat):Int))),(10, .v (.int .i64 ((col:Nat):Int))),eS1 12 (A1 r) m (C1 r),(19, .v (.int .i64 ((cols:Nat):Int))),(20, .v (.int .i64 ((col:Nat):Int))),(99, .v (.slice B (n - (r + 1)) (n - (r + 1)))),(100, .v (.int .i64 ((n - (r + 1):Nat):Int))),(101, .v (.int .i64 0))] [] ?_
      refine xe (Zaa (Zap ?_))
      refine SXc.weak [(0, .v (.slice (some ⟨b,0,none⟩) n n)),(2, .v (.int .u64 ((p:Nat):Int))),(6, .v (.int .i64 0)),(7, .v (.int .u64 0)),(8, .v (.int .i64 ((r:Nat):Int))),(9, .v (.int .u64 (((d1 * y) % p:Nat):Int))),(10, .v (.int .i64 ((col:Nat):Int))),(12, .v (.slice (A1 r) m (C1 r))),(19, .v (.int .i64 ((cols:Nat):Int))),(20, .v (.int .i64 ((col:Nat):Int))),(99, .v (.slice B (n - (r + 1)) (n - (r + 1)))),(100, .v (.int .i64 ((n - (r + 1):Nat):Int))),(101, .v (.int .i64 ((0:Nat):Int)))] [] (Ψ:=fun w=>MU w b n (A1) (C1) (addR col p m r X1 F 0)) (Zaw.of (by kernel_rfl)) (by kernel_rfl) (fun w Q=>(by rw [ZmC,hF,(show m=j by omega)]; exact Q)) ?_
      refine ZaU (fun nn ss ff=>∃ (q:Nat),ss=ofL [(0, .v (.slice (some ⟨b,0,none⟩) n n)),(2, .v (.int .u64 ((p:Nat):Int))),(6, .v (.int .i64 0)),(7, .v (.int .u64 0)),(8, .v (.int .i64 ((r:Nat):Int))),(9, .v (.int .u64 (((d1 * y) % p:Nat):Int))),(10, .v (.int .i64 ((col:Nat):Int))),(12, .v (.slice (A1 r) m (C1 r))),(19, .v (.int .i64 ((cols:Nat):Int))),(20, .v (.int .i64 ((col:Nat):Int))),(99, .v (.slice B (n - (r + 1)) (n - (r + 1)))),(100, .v (.int .i64 ((n - (r + 1):Nat):Int))),(101, .v (.int .i64 ((q:Nat):Int)))] []∧ff=(fun w=>MU w b n (A1) (C1) (addR col p m r X1 F q))∧(q≤n - (r + 1))∧nn=(n - (r + 1) - q)) ((n - (r + 1) - 0)) ⟨0,rfl,rfl,Nat.zero_le _,rfl⟩ ?_
      rintro nn ss ff ⟨q,rfl,rfl,hq2,rfl⟩
      refine Zac (Zab (xr 1 [eS1 0 (some ⟨b,0,none⟩) n n,(2, .v (.int .u64 ((p:Nat):Int))),(6, .v (.int .i64 0)),(7, .v (.int .u64 0)),(8, .v (.int .i64 ((r:Nat):Int))),(9, .v (.int .u64 (((d1 * y) % p:Nat):Int))),(10, .v (.int .i64 ((col:Nat):Int))),eS1 12 (A1 r) m (C1 r),(19, .v (.int .i64 ((cols:Nat):Int))),(20, .v (.int .i64 ((col:Nat):Int))),(99, .v (.slice B (n - (r + 1)) (n - (r + 1)))),(100, .v (.int .i64 ((n - (r + 1):Nat):Int))),(101, .v (.int .i64 ((q:Nat):Int))),(102, .v (.bool (decide (((q:Nat):Int) < ((n - (r + 1):Nat):Int)))))] [] ?_))
      refine xe (Zaa (Zac ?_))
      refine Zar ((decide (((q:Nat):Int) < ((n - (r + 1):Nat):Int)))) (by kernel_rfl) (fun hb15=>?_) (fun hb15=>?_)
      ·have hqn:q < n - (r + 1):=by have:=of_decide_eq_true hb15; omega
       refine Zam (Zaa (Zac (Zap (Zac ?_))))
       have hBe:B=some ⟨b,r + 1,none⟩:=by rw [← hBB,if_neg (by omega),Option.map_some,Zct,Nat.zero_add]
       obtain ⟨i,hi⟩:∃ i,i=r + 1 + q:=⟨_,rfl⟩
       have hin:i < n:=by omega
       obtain ⟨u,hu⟩:∃ u,(X1 i)[col]?.getD 0=u:=⟨_,rfl⟩
       have hup:u < p:=by rw [← hu]; exact hB1.get hin (by omega)
       obtain ⟨f,hf⟩:∃ f,(p - u) % p=f:=⟨_,rfl⟩
       have hfp:f < p:=by rw [← hf]; exact Nat.mod_lt _ (by omega)
       have hXi:addR col p m r X1 F q i=X1 i:=Zon hi
       refine Zab ?_
       refine xk 103 (atA B q) (fun w hE' Q=>Zfb (len:=n - (r + 1)) (cap:=n - (r + 1)) (i:=q) (t:=91) (e:=93) (x:=.tmp 99) (ix:=.tmp 101) (by rw [hBe]; exact fun e=>by cases e) (by omega)) ?_
       refine xk 104 (.slice (A1 i) m (C1 i)) (fun w hE' Q=>ZaQ (t:=93) (x:=.tmp 103) Q hin (by rw [hXi]; exact hB1.len i hin) (hx:=atB hBe hi)) ?_
       refine xr 1 [eS1 0 (some ⟨b,0,none⟩) n n,(2, .v (.int .u64 ((p:Nat):Int))),(6, .v (.int .i64 0)),(7, .v (.int .u64 0)),(8, .v (.int .i64 ((r:Nat):Int))),(9, .v (.int .u64 (((d1 * y) % p:Nat):Int))),(10, .v (.int .i64 ((col:Nat):Int))),eS1 12 (A1 r) m (C1 r),eS1 16 (A1 i) m (C1 i),(19, .v (.int .i64 ((cols:Nat):Int))),(20, .v (.int .i64 ((col:Nat):Int))),(99, .v (.slice B (n - (r + 1)) (n - (r + 1)))),(100, .v (.int .i64 ((n - (r + 1):Nat):Int))),(101, .v (.int .i64 ((q:Nat):Int)))] [] ?_
       refine xe (Zaa (Zac (Zab (xr 3 [eS1 0 (some ⟨b,0,none⟩) n n,(2, .v (.int .u64 ((p:Nat):Int))),(6, .v (.int .i64 0)),(7, .v (.int .u64 0)),(8, .v (.int .i64 ((r:Nat):Int))),(9, .v (.int .u64 (((d1 * y) % p:Nat):Int))),(10, .v (.int .i64 ((col:Nat):Int))),eS1 12 (A1 r) m (C1 r),eS1 16 (A1 i) m (C1 i),(19, .v (.int .i64 ((cols:Nat):Int))),(20, .v (.int .i64 ((col:Nat):Int))),(99, .v (.slice B (n - (r + 1)) (n - (r + 1)))),(100, .v (.int .i64 ((n - (r + 1):Nat):Int))),(101, .v (.int .i64 ((q:Nat):Int))),(105, .v (.int .u64 ((p:Nat):Int))),eS1 106 (A1 i) m (C1 i),(107, .v (.int .i64 ((col:Nat):Int)))] [] ?_))))
       refine xk 108 (atA (A1 i) col) (fun w hE' Q=>Za4 (t:=93) (e:=88) (x:=.tmp 106) (ix:=.tmp 107) (cap:=C1 i) Q hin (by rw [hXi]; exact hB1.len i hin) (show col < m by omega)) ?_
       refine xk 109 (.int .u64 ((u:Nat):Int)) (fun w hE' Q=>Zbo (t:=88) (x:=.tmp 108) (j:=col) Q hin (by rw [hXi]; exact hB1.len i hin) (show col < m by omega) (by rw [hXi]; exact hu)) ?_
       refine xr 1 [eS1 0 (some ⟨b,0,none⟩) n n,(2, .v (.int .u64 ((p:Nat):Int))),(6, .v (.int .i64 0)),(7, .v (.int .u64 0)),(8, .v (.int .i64 ((r:Nat):Int))),(9, .v (.int .u64 (((d1 * y) % p:Nat):Int))),(10, .v (.int .i64 ((col:Nat):Int))),eS1 12 (A1 r) m (C1 r),eS1 16 (A1 i) m (C1 i),(19, .v (.int .i64 ((cols:Nat):Int))),(20, .v (.int .i64 ((col:Nat):Int))),(99, .v (.slice B (n - (r + 1)) (n - (r + 1)))),(100, .v (.int .i64 ((n - (r + 1):Nat):Int))),(101, .v (.int .i64 ((q:Nat):Int))),(110, .v (.int .u64 (IntKind.u64.wrap (((p:Nat):Int) - ((u:Nat):Int)))))] [] ?_
       rw [Znt (Nat.le_of_lt hup) hp31]
       refine xr 1 [eS1 0 (some ⟨b,0,none⟩) n n,(2, .v (.int .u64 ((p:Nat):Int))),(6, .v (.int .i64 0)),(7, .v (.int .u64 0)),(8, .v (.int .i64 ((r:Nat):Int))),(9, .v (.int .u64 (((d1 * y) % p:Nat):Int))),(10, .v (.int .i64 ((col:Nat):Int))),eS1 12 (A1 r) m (C1 r),eS1 16 (A1 i) m (C1 i),(19, .v (.int .i64 ((cols:Nat):Int))),(20, .v (.int .i64 ((col:Nat):Int))),(99, .v (.slice B (n - (r + 1)) (n - (r + 1)))),(100, .v (.int .i64 ((n - (r + 1):Nat):Int))),(101, .v (.int .i64 ((q:Nat):Int))),(110, .v (.int .u64 ((p - u:Nat):Int))),(111, .v (.int .u64 ((p:Nat):Int)))] [] ?_
       refine xk 112 (.int .u64 ((f:Nat):Int)) (fun w hE' Q=>by rw [← hf]; exact Zdj (k:=.u64) (t:=88) (k':=88) (x:=.tmp 110) (y:=.tmp 111) (a:=p - u) (b:=p) (by omega)) ?_
       refine xr 1 [eS1 0 (some ⟨b,0,none⟩) n n,(2, .v (.int .u64 ((p:Nat):Int))),(6, .v (.int .i64 0)),(7, .v (.int .u64 0)),(8, .v (.int .i64 ((r:Nat):Int))),(9, .v (.int .u64 (((d1 * y) % p:Nat):Int))),(10, .v (.int .i64 ((col:Nat):Int))),eS1 12 (A1 r) m (C1 r),eS1 16 (A1 i) m (C1 i),(17, .v (.int .u64 ((f:Nat):Int))),(19, .v (.int .i64 ((cols:Nat):Int))),(20, .v (.int .i64 ((col:Nat):Int))),(99, .v (.slice B (n - (r + 1)) (n - (r + 1)))),(100, .v (.int .i64 ((n - (r + 1):Nat):Int))),(101, .v (.int .i64 ((q:Nat):Int)))] [] ?_
       refine xe (Zaa (Zac (Zab (xr 2 [eS1 0 (some ⟨b,0,none⟩) n n,(2, .v (.int .u64 ((p:Nat):Int))),(6, .v (.int .i64 0)),(7, .v (.int .u64 0)),(8, .v (.int .i64 ((r:Nat):Int))),(9, .v (.int .u64 (((d1 * y) % p:Nat):Int))),(10, .v (.int .i64 ((col:Nat):Int))),eS1 12 (A1 r) m (C1 r),eS1 16 (A1 i) m (C1 i),(17, .v (.int .u64 ((f:Nat):Int))),(18, .v (.int .i64 ((col:Nat):Int))),(19, .v (.int .i64 ((cols:Nat):Int))),(20, .v (.int .i64 ((col:Nat):Int))),(99, .v (.slice B (n - (r + 1)) (n - (r + 1)))),(100, .v (.int .i64 ((n - (r + 1):Nat):Int))),(101, .v (.int .i64 ((q:Nat):Int)))] [] ?_))))
       refine xe (Zaa (Zap ?_))
       refine SXc.weak [(0, .v (.slice (some ⟨b,0,none⟩) n n)),(2, .v (.int .u64 ((p:Nat):Int))),(6, .v (.int .i64 0)),(7, .v (.int .u64 0)),(8, .v (.int .i64 ((r:Nat):Int))),(9, .v (.int .u64 (((d1 * y) % p:Nat):Int))),(10, .v (.int .i64 ((col:Nat):Int))),(12, .v (.slice (A1 r) m (C1 r))),(16, .v (.slice (A1 i) m (C1 i))),(17, .v (.int .u64 ((f:Nat):Int))),(18, .v (.int .i64 ((col:Nat):Int))),(19, .v (.int .i64 ((cols:Nat):Int))),(20, .v (.int .i64 ((col:Nat):Int))),(99, .v (.slice B (n - (r + 1)) (n - (r + 1)))),(100, .v (.int .i64 ((n - (r + 1):Nat):Int))),(101, .v (.int .i64 ((q:Nat):Int)))] [] (Ψ:=fun w=>MU w b n (A1) (C1) (upF (addR col p m r X1 F q) i (addP col f p (X1 i) F col))) (Zaw.of (by kernel_rfl)) (by kernel_rfl) (fun w Q=>(by rw [ZmB,← hXi,Zij]; exact Q)) ?_
       refine ZaU (fun nn ss ff=>∃ (e:Nat),ss=ofL [(0, .v (.slice (some ⟨b,0,none⟩) n n)),(2, .v (.int .u64 ((p:Nat):Int))),(6, .v (.int .i64 0)),(7, .v (.int .u64 0)),(8, .v (.int .i64 ((r:Nat):Int))),(9, .v (.int .u64 (((d1 * y) % p:Nat):Int))),(10, .v (.int .i64 ((col:Nat):Int))),(12, .v (.slice (A1 r) m (C1 r))),(16, .v (.slice (A1 i) m (C1 i))),(17, .v (.int .u64 ((f:Nat):Int))),(18, .v (.int .i64 ((e:Nat):Int))),(19, .v (.int .i64 ((cols:Nat):Int))),(20, .v (.int .i64 ((col:Nat):Int))),(99, .v (.slice B (n - (r + 1)) (n - (r + 1)))),(100, .v (.int .i64 ((n - (r + 1):Nat):Int))),(101, .v (.int .i64 ((q:Nat):Int)))] []∧ff=(fun w=>MU w b n (A1) (C1) (upF (addR col p m r X1 F q) i (addP col f p (X1 i) F e)))∧(col≤e)∧(e≤m)∧nn=(m - e)) ((m - col)) ⟨col,rfl,rfl,Nat.le_refl _,(by omega),rfl⟩ ?_
       rintro nn ss ff ⟨e,rfl,rfl,hce,he2,rfl⟩
       refine Zac (Zac (Zab (xr 5 [eS1 0 (some ⟨b,0,none⟩) n n,(2, .v (.int .u64 ((p:Nat):Int))),(6, .v (.int .i64 0)),(7, .v (.int .u64 0)),(8, .v (.int .i64 ((r:Nat):Int))),(9, .v (.int .u64 (((d1 * y) % p:Nat):Int))),(10, .v (.int .i64 ((col:Nat):Int))),eS1 12 (A1 r) m (C1 r),eS1 16 (A1 i) m (C1 i),(17, .v (.int .u64 ((f:Nat):Int))),(18, .v (.int .i64 ((e:Nat):Int))),(19, .v (.int .i64 ((cols:Nat):Int))),(20, .v (.int .i64 ((col:Nat):Int))),(99, .v (.slice B (n - (r + 1)) (n - (r + 1)))),(100, .v (.int .i64 ((n - (r + 1):Nat):Int))),(101, .v (.int .i64 ((q:Nat):Int))),(118, .v (.bool (decide (((e:Nat):Int) < ((m:Nat):Int)))))] [] ?_)))
       rcases bl2 ((decide (((e:Nat):Int) < ((m:Nat):Int)))) with hb16 | hb16
       ·rw [hb16]
        have hem:e < m:=by have:=of_decide_eq_true hb16; omega
        refine xr 3 [eS1 0 (some ⟨b,0,none⟩) n n,(2, .v (.int .u64 ((p:Nat):Int))),(6, .v (.int .i64 0)),(7, .v (.int .u64 0)),(8, .v (.int .i64 ((r:Nat):Int))),(9, .v (.int .u64 (((d1 * y) % p:Nat):Int))),(10, .v (.int .i64 ((col:Nat):Int))),eS1 12 (A1 r) m (C1 r),eS1 16 (A1 i) m (C1 i),(17, .v (.int .u64 ((f:Nat):Int))),(18, .v (.int .i64 ((e:Nat):Int))),(19, .v (.int .i64 ((cols:Nat):Int))),(20, .v (.int .i64 ((col:Nat):Int))),(99, .v (.slice B (n - (r + 1)) (n - (r + 1)))),(100, .v (.int .i64 ((n - (r + 1):Nat):Int))),(101, .v (.int .i64 ((q:Nat):Int))),(121, .v (.bool ((((f:Nat):Int):Int) != 0)))] [] ?_
        refine xe (Zaa ?_)
        refine Zar (((((f:Nat):Int):Int) != 0)) (by kernel_rfl) (fun hb17=>?_) (fun hb17=>?_)
        ·refine Zam (Zaa (Zac (Zap ?_)))
         obtain ⟨z,hz2⟩:∃ z,(X1 i)[e]?.getD 0=z:=⟨_,rfl⟩
         have hzp:z < p:=by rw [← hz2]; exact hB1.get hin hem
         obtain ⟨v,hv⟩:∃ v,F[e]?.getD 0=v:=⟨_,rfl⟩
         have hvp:v < p:=by rw [← hv,hF]; exact ZfZ (by omega) (hB1.lt r (by omega)) _ (ZcH (by rw [ZaD,hB1.len r (by omega)]; exact hem))
         refine Ze7 16 [0,0,0,0,12,28,0,0,0,384,896,1984,4092,0,16380,32767] (by kernel_rfl) (by kernel_rfl) ZaE ?_
         refine xf 4 [eS1 0 (some ⟨b,0,none⟩) n n,(2, .v (.int .u64 ((p:Nat):Int))),(6, .v (.int .i64 0)),(7, .v (.int .u64 0)),(8, .v (.int .i64 ((r:Nat):Int))),(9, .v (.int .u64 (((d1 * y) % p:Nat):Int))),(10, .v (.int .i64 ((col:Nat):Int))),eS1 12 (A1 r) m (C1 r),eS1 16 (A1 i) m (C1 i),(17, .v (.int .u64 ((f:Nat):Int))),(18, .v (.int .i64 ((e:Nat):Int))),(19, .v (.int .i64 ((cols:Nat):Int))),(20, .v (.int .i64 ((col:Nat):Int))),(99, .v (.slice B (n - (r + 1)) (n - (r + 1)))),(100, .v (.int .i64 ((n - (r + 1):Nat):Int))),(101, .v (.int .i64 ((q:Nat):Int))),eS1 124 (A1 i) m (C1 i),(125, .v (.int .i64 ((e:Nat):Int))),eS1 126 (A1 i) m (C1 i),(127, .v (.int .i64 ((e:Nat):Int)))] [] ?_
         refine xj 128 (atA (A1 i) e) (fun w Q=>Za4 (t:=93) (e:=88) (x:=.tmp 126) (ix:=.tmp 127) (cap:=C1 i) Q hin (by rw [Zas,Zbe]; exact hB1.len i hin) hem) ?_
         refine xj 129 (.int .u64 ((z:Nat):Int)) (fun w Q=>Zbo (t:=88) (x:=.tmp 128) (j:=e) Q hin (by rw [Zas,Zbe]; exact hB1.len i hin) hem (by rw [Zas,Zom]; exact hz2)) ?_
         refine xf 3 [eS1 0 (some ⟨b,0,none⟩) n n,(2, .v (.int .u64 ((p:Nat):Int))),(6, .v (.int .i64 0)),(7, .v (.int .u64 0)),(8, .v (.int .i64 ((r:Nat):Int))),(9, .v (.int .u64 (((d1 * y) % p:Nat):Int))),(10, .v (.int .i64 ((col:Nat):Int))),eS1 12 (A1 r) m (C1 r),eS1 16 (A1 i) m (C1 i),(17, .v (.int .u64 ((f:Nat):Int))),(18, .v (.int .i64 ((e:Nat):Int))),(19, .v (.int .i64 ((cols:Nat):Int))),(20, .v (.int .i64 ((col:Nat):Int))),(99, .v (.slice B (n - (r + 1)) (n - (r + 1)))),(100, .v (.int .i64 ((n - (r + 1):Nat):Int))),(101, .v (.int .i64 ((q:Nat):Int))),eS1 124 (A1 i) m (C1 i),(125, .v (.int .i64 ((e:Nat):Int))),(129, .v (.int .u64 ((z:Nat):Int))),(130, .v (.int .u64 ((f:Nat):Int))),eS1 131 (A1 r) m (C1 r),(132, .v (.int .i64 ((e:Nat):Int)))] [] ?_
         refine xj 133 (atA (A1 r) e) (fun w Q=>Za4 (t:=93) (e:=88) (x:=.tmp 131) (ix:=.tmp 132) (cap:=C1 r) Q (show r < n by omega) (by rw [ZaP (by omega),Zlc,hF,ZaD]; exact hB1.len r (by omega)) hem) ?_
         refine xj 134 (.int .u64 ((v:Nat):Int)) (fun w Q=>Zbo (t:=88) (x:=.tmp 133) (j:=e) Q (show r < n by omega) (by rw [ZaP (by omega),Zlc,hF,ZaD]; exact hB1.len r (by omega)) hem (by rw [ZaP (by omega),Zlc]; exact hv)) ?_
         refine xf 1 [eS1 0 (some ⟨b,0,none⟩) n n,(2, .v (.int .u64 ((p:Nat):Int))),(6, .v (.int .i64 0)),(7, .v (.int .u64 0)),(8, .v (.int .i64 ((r:Nat):Int))),(9, .v (.int .u64 (((d1 * y) % p:Nat):Int))),(10, .v (.int .i64 ((col:Nat):Int))),eS1 12 (A1 r) m (C1 r),eS1 16 (A1 i) m (C1 i),(17, .v (.int .u64 ((f:Nat):Int))),(18, .v (.int .i64 ((e:Nat):Int))),(19, .v (.int .i64 ((cols:Nat):Int))),(20, .v (.int .i64 ((col:Nat):Int))),(99, .v (.slice B (n - (r + 1)) (n - (r + 1)))),(100, .v (.int .i64 ((n - (r + 1):Nat):Int))),(101, .v (.int .i64 ((q:Nat):Int))),eS1 124 (A1 i) m (C1 i),(125, .v (.int .i64 ((e:Nat):Int))),(129, .v (.int .u64 ((z:Nat):Int))),(135, .v (.int .u64 (IntKind.u64.wrap (((f:Nat):Int) * ((v:Nat):Int)))))] [] ?_
         rw [Zlg hfp hvp hp31]
         refine xf 1 [eS1 0 (some ⟨b,0,none⟩) n n,(2, .v (.int .u64 ((p:Nat):Int))),(6, .v (.int .i64 0)),(7, .v (.int .u64 0)),(8, .v (.int .i64 ((r:Nat):Int))),(9, .v (.int .u64 (((d1 * y) % p:Nat):Int))),(10, .v (.int .i64 ((col:Nat):Int))),eS1 12 (A1 r) m (C1 r),eS1 16 (A1 i) m (C1 i),(17, .v (.int .u64 ((f:Nat):Int))),(18, .v (.int .i64 ((e:Nat):Int))),(19, .v (.int .i64 ((cols:Nat):Int))),(20, .v (.int .i64 ((col:Nat):Int))),(99, .v (.slice B (n - (r + 1)) (n - (r + 1)))),(100, .v (.int .i64 ((n - (r + 1):Nat):Int))),(101, .v (.int .i64 ((q:Nat):Int))),eS1 124 (A1 i) m (C1 i),(125, .v (.int .i64 ((e:Nat):Int))),(136, .v (.int .u64 (IntKind.u64.wrap (((z:Nat):Int) + ((f * v:Nat):Int)))))] [] ?_
         rw [ZpJ hzp hfp hvp hp31]
         refine xf 1 [eS1 0 (some ⟨b,0,none⟩) n n,(2, .v (.int .u64 ((p:Nat):Int))),(6, .v (.int .i64 0)),(7, .v (.int .u64 0)),(8, .v (.int .i64 ((r:Nat):Int))),(9, .v (.int .u64 (((d1 * y) % p:Nat):Int))),(10, .v (.int .i64 ((col:Nat):Int))),eS1 12 (A1 r) m (C1 r),eS1 16 (A1 i) m (C1 i),(17, .v (.int .u64 ((f:Nat):Int))),(18, .v (.int .i64 ((e:Nat):Int))),(19, .v (.int .i64 ((cols:Nat):Int))),(20, .v (.int .i64 ((col:Nat):Int))),(99, .v (.slice B (n - (r + 1)) (n - (r + 1)))),(100, .v (.int .i64 ((n - (r + 1):Nat):Int))),(101, .v (.int .i64 ((q:Nat):Int))),eS1 124 (A1 i) m (C1 i),(125, .v (.int .i64 ((e:Nat):Int))),(136, .v (.int .u64 ((z + f * v:Nat):Int))),(137, .v (.int .u64 ((p:Nat):Int)))] [] ?_
         refine xj 138 (.int .u64 (((z + f * v) % p:Nat):Int)) (fun w Q=>Zdj (k:=.u64) (t:=88) (k':=88) (x:=.tmp 136) (y:=.tmp 137) (a:=(z + f * v)) (b:=p) (by omega)) ?_
         refine xj 139 (atA (A1 i) e) (fun w Q=>Za4 (t:=93) (e:=88) (x:=.tmp 124) (ix:=.tmp 125) (cap:=C1 i) Q hin (by rw [Zas,Zbe]; exact hB1.len i hin) hem) ?_
         refine xf 0 [eS1 0 (some ⟨b,0,none⟩) n n,(2, .v (.int .u64 ((p:Nat):Int))),(6, .v (.int .i64 0)),(7, .v (.int .u64 0)),(8, .v (.int .i64 ((r:Nat):Int))),(9, .v (.int .u64 (((d1 * y) % p:Nat):Int))),(10, .v (.int .i64 ((col:Nat):Int))),eS1 12 (A1 r) m (C1 r),eS1 16 (A1 i) m (C1 i),(17, .v (.int .u64 ((f:Nat):Int))),(18, .v (.int .i64 ((e:Nat):Int))),(19, .v (.int .i64 ((cols:Nat):Int))),(20, .v (.int .i64 ((col:Nat):Int))),(99, .v (.slice B (n - (r + 1)) (n - (r + 1)))),(100, .v (.int .i64 ((n - (r + 1):Nat):Int))),(101, .v (.int .i64 ((q:Nat):Int))),(138, .v (.int .u64 (((z + f * v) % p:Nat):Int))),(139, .v (atA (A1 i) e))] [] ?_
         refine xz ?_
         refine Zb8 (fun w=>MU w b n (A1) (C1) (upF (addR col p m r X1 F q) i (addP col f p (X1 i) F (e + 1)))) (fun w hE' Q=>stE (t:=88) (x:=.tmp 139) (y:=.tmp 138) (i:=i) (j:=e) (v:=(z + f * v) % p) Q hE' (stS hA1) hin (by rw [Zas,Zbe]; exact hB1.len i hin) hem (by rw [ZjA,Zas,Znp hce (by rw [hB1.len i hin]; exact hem) hz2 hv])) ?_
         refine xr 0 [eS1 0 (some ⟨b,0,none⟩) n n,(2, .v (.int .u64 ((p:Nat):Int))),(6, .v (.int .i64 0)),(7, .v (.int .u64 0)),(8, .v (.int .i64 ((r:Nat):Int))),(9, .v (.int .u64 (((d1 * y) % p:Nat):Int))),(10, .v (.int .i64 ((col:Nat):Int))),eS1 12 (A1 r) m (C1 r),eS1 16 (A1 i) m (C1 i),(17, .v (.int .u64 ((f:Nat):Int))),(18, .v (.int .i64 ((e:Nat):Int))),(19, .v (.int .i64 ((cols:Nat):Int))),(20, .v (.int .i64 ((col:Nat):Int))),(99, .v (.slice B (n - (r + 1)) (n - (r + 1)))),(100, .v (.int .i64 ((n - (r + 1):Nat):Int))),(101, .v (.int .i64 ((q:Nat):Int)))] [] ?_
         refine xe (ZaN (Zaa (Zab (xr 2 [eS1 0 (some ⟨b,0,none⟩) n n,(2, .v (.int .u64 ((p:Nat):Int))),(6, .v (.int .i64 0)),(7, .v (.int .u64 0)),(8, .v (.int .i64 ((r:Nat):Int))),(9, .v (.int .u64 (((d1 * y) % p:Nat):Int))),(10, .v (.int .i64 ((col:Nat):Int))),eS1 12 (A1 r) m (C1 r),eS1 16 (A1 i) m (C1 i),(17, .v (.int .u64 ((f:Nat):Int))),(18, .v (.int .i64 ((e:Nat):Int))),(19, .v (.int .i64 ((cols:Nat):Int))),(20, .v (.int .i64 ((col:Nat):Int))),(99, .v (.slice B (n - (r + 1)) (n - (r + 1)))),(100, .v (.int .i64 ((n - (r + 1):Nat):Int))),(101, .v (.int .i64 ((q:Nat):Int))),(123, .v (.int .i64 (IntKind.i64.wrap (((e:Nat):Int) + 1))))] [] ?_))))
         rw [ZaI (k:=e) (by omega)]
         refine xr 1 [eS1 0 (some ⟨b,0,none⟩) n n,(2, .v (.int .u64 ((p:Nat):Int))),(6, .v (.int .i64 0)),(7, .v (.int .u64 0)),(8, .v (.int .i64 ((r:Nat):Int))),(9, .v (.int .u64 (((d1 * y) % p:Nat):Int))),(10, .v (.int .i64 ((col:Nat):Int))),eS1 12 (A1 r) m (C1 r),eS1 16 (A1 i) m (C1 i),(17, .v (.int .u64 ((f:Nat):Int))),(18, .v (.int .i64 ((e + 1:Nat):Int))),(19, .v (.int .i64 ((cols:Nat):Int))),(20, .v (.int .i64 ((col:Nat):Int))),(99, .v (.slice B (n - (r + 1)) (n - (r + 1)))),(100, .v (.int .i64 ((n - (r + 1):Nat):Int))),(101, .v (.int .i64 ((q:Nat):Int)))] [] ?_
         refine xe ?_
         refine SXq.weak [(0, .v (.slice (some ⟨b,0,none⟩) n n)),(2, .v (.int .u64 ((p:Nat):Int))),(6, .v (.int .i64 0)),(7, .v (.int .u64 0)),(8, .v (.int .i64 ((r:Nat):Int))),(9, .v (.int .u64 (((d1 * y) % p:Nat):Int))),(10, .v (.int .i64 ((col:Nat):Int))),(12, .v (.slice (A1 r) m (C1 r))),(16, .v (.slice (A1 i) m (C1 i))),(17, .v (.int .u64 ((f:Nat):Int))),(18, .v (.int .i64 (((e + 1):Nat):Int))),(19, .v (.int .i64 ((cols:Nat):Int))),(20, .v (.int .i64 ((col:Nat):Int))),(99, .v (.slice B (n - (r + 1)) (n - (r + 1)))),(100, .v (.int .i64 ((n - (r + 1):Nat):Int))),(101, .v (.int .i64 ((q:Nat):Int)))] [] (Ψ:=fun w=>MU w b n (A1) (C1) (upF (addR col p m r X1 F q) i (addP col f p (X1 i) F (e + 1)))) (Zaw.of (by kernel_rfl)) (by kernel_rfl) (fun w Q=>Q) ?_
         exact ZaB ((m - (e + 1))) (by omega) ⟨(e + 1),rfl,rfl,(by omega),(by omega),rfl⟩
        ·have hf0:=ZoO hb17
         refine ZaC (Zae (Zae (ZaO (ZaN (Zaa ?_)))))
         have hrow:addP col f p (X1 i) F e=addP col f p (X1 i) F m:=(by rw [hf0,Zj0 (hB1.lt i hin),Zj0 (hB1.lt i hin)])
         refine Zab (xr 1 [eS1 0 (some ⟨b,0,none⟩) n n,(2, .v (.int .u64 ((p:Nat):Int))),(6, .v (.int .i64 0)),(7, .v (.int .u64 0)),(8, .v (.int .i64 ((r:Nat):Int))),(9, .v (.int .u64 (((d1 * y) % p:Nat):Int))),(10, .v (.int .i64 ((col:Nat):Int))),eS1 12 (A1 r) m (C1 r),(19, .v (.int .i64 ((cols:Nat):Int))),(20, .v (.int .i64 ((col:Nat):Int))),(99, .v (.slice B (n - (r + 1)) (n - (r + 1)))),(100, .v (.int .i64 ((n - (r + 1):Nat):Int))),(101, .v (.int .i64 ((q:Nat):Int))),(140, .v (.int .i64 (IntKind.i64.wrap (((q:Nat):Int) + 1))))] [] ?_)
         rw [ZaI (k:=q) (by omega)]
         refine xr 1 [eS1 0 (some ⟨b,0,none⟩) n n,(2, .v (.int .u64 ((p:Nat):Int))),(6, .v (.int .i64 0)),(7, .v (.int .u64 0)),(8, .v (.int .i64 ((r:Nat):Int))),(9, .v (.int .u64 (((d1 * y) % p:Nat):Int))),(10, .v (.int .i64 ((col:Nat):Int))),eS1 12 (A1 r) m (C1 r),(19, .v (.int .i64 ((cols:Nat):Int))),(20, .v (.int .i64 ((col:Nat):Int))),(99, .v (.slice B (n - (r + 1)) (n - (r + 1)))),(100, .v (.int .i64 ((n - (r + 1):Nat):Int))),(101, .v (.int .i64 ((q + 1:Nat):Int)))] [] ?_
         refine xe ?_
         refine SXq.weak [(0, .v (.slice (some ⟨b,0,none⟩) n n)),(2, .v (.int .u64 ((p:Nat):Int))),(6, .v (.int .i64 0)),(7, .v (.int .u64 0)),(8, .v (.int .i64 ((r:Nat):Int))),(9, .v (.int .u64 (((d1 * y) % p:Nat):Int))),(10, .v (.int .i64 ((col:Nat):Int))),(12, .v (.slice (A1 r) m (C1 r))),(19, .v (.int .i64 ((cols:Nat):Int))),(20, .v (.int .i64 ((col:Nat):Int))),(99, .v (.slice B (n - (r + 1)) (n - (r + 1)))),(100, .v (.int .i64 ((n - (r + 1):Nat):Int))),(101, .v (.int .i64 (((q + 1):Nat):Int)))] [] (Ψ:=fun w=>MU w b n (A1) (C1) (addR col p m r X1 F (q + 1))) (Zaw.of (by kernel_rfl)) (by kernel_rfl) (fun w Q=>(by rw [← Zj1 hi hu,hf,← hrow]; exact Q)) ?_
         exact ZaB ((n - (r + 1) - (q + 1))) (by omega) ⟨(q + 1),rfl,rfl,(by omega),rfl⟩
       ·rw [hb16]
        have hem:m≤e:=by have:=of_decide_eq_false hb16; omega
        refine xr 3 [eS1 0 (some ⟨b,0,none⟩) n n,(2, .v (.int .u64 ((p:Nat):Int))),(6, .v (.int .i64 0)),(7, .v (.int .u64 0)),(8, .v (.int .i64 ((r:Nat):Int))),(9, .v (.int .u64 (((d1 * y) % p:Nat):Int))),(10, .v (.int .i64 ((col:Nat):Int))),eS1 12 (A1 r) m (C1 r),eS1 16 (A1 i) m (C1 i),(17, .v (.int .u64 ((f:Nat):Int))),(18, .v (.int .i64 ((e:Nat):Int))),(19, .v (.int .i64 ((cols:Nat):Int))),(20, .v (.int .i64 ((col:Nat):Int))),(99, .v (.slice B (n - (r + 1)) (n - (r + 1)))),(100, .v (.int .i64 ((n - (r + 1):Nat):Int))),(101, .v (.int .i64 ((q:Nat):Int))),(121, .v (.bool false))] [] ?_
        refine xe (Zaa (xb (ZaC (Zae (Zae (ZaO (ZaN (Zaa ?_))))))))
        have hrow:addP col f p (X1 i) F e=addP col f p (X1 i) F m:=(by rw [Znq (j:=e) (i:=m) (by rw [hB1.len i hin]; exact hem) (by rw [hB1.len i hin]; exact Nat.le_refl _)])
        refine Zab (xr 1 [eS1 0 (some ⟨b,0,none⟩) n n,(2, .v (.int .u64 ((p:Nat):Int))),(6, .v (.int .i64 0)),(7, .v (.int .u64 0)),(8, .v (.int .i64 ((r:Nat):Int))),(9, .v (.int .u64 (((d1 * y) % p:Nat):Int))),(10, .v (.int .i64 ((col:Nat):Int))),eS1 12 (A1 r) m (C1 r),(19, .v (.int .i64 ((cols:Nat):Int))),(20, .v (.int .i64 ((col:Nat):Int))),(99, .v (.slice B (n - (r + 1)) (n - (r + 1)))),(100, .v (.int .i64 ((n - (r + 1):Nat):Int))),(101, .v (.int .i64 ((q:Nat):Int))),(140, .v (.int .i64 (IntKind.i64.wrap (((q:Nat):Int) + 1))))] [] ?_)
        rw [ZaI (k:=q) (by omega)]
        refine xr 1 [eS1 0 (some ⟨b,0,none⟩) n n,(2, .v (.int .u64 ((p:Nat):Int))),(6, .v (.int .i64 0)),(7, .v (.int .u64 0)),(8, .v (.int .i64 ((r:Nat):Int))),(9, .v (.int .u64 (((d1 * y) % p:Nat):Int))),(10, .v (.int .i64 ((col:Nat):Int))),eS1 12 (A1 r) m (C1 r),(19, .v (.int .i64 ((cols:Nat):Int))),(20, .v (.int .i64 ((col:Nat):Int))),(99, .v (.slice B (n - (r + 1)) (n - (r + 1)))),(100, .v (.int .i64 ((n - (r + 1):Nat):Int))),(101, .v (.int .i64 ((q + 1:Nat):Int)))] [] ?_
        refine xe ?_
        refine SXq.weak [(0, .v (.slice (some ⟨b,0,none⟩) n n)),(2, .v (.int .u64 ((p:Nat):Int))),(6, .v (.int .i64 0)),(7, .v (.int .u64 0)),(8, .v (.int .i64 ((r:Nat):Int))),(9, .v (.int .u64 (((d1 * y) % p:Nat):Int))),(10, .v (.int .i64 ((col:Nat):Int))),(12, .v (.slice (A1 r) m (C1 r))),(19, .v (.int .i64 ((cols:Nat):Int))),(20, .v (.int .i64 ((col:Nat):Int))),(99, .v (.slice B (n - (r + 1)) (n - (r + 1)))),(100, .v (.int .i64 ((n - (r + 1):Nat):Int))),(101, .v (.int .i64 (((q + 1):Nat):Int)))] [] (Ψ:=fun w=>MU w b n (A1) (C1) (addR col p m r X1 F (q + 1))) (Zaw.of (by kernel_rfl)) (by kernel_rfl) (fun w Q=>(by rw [← Zj1 hi hu,hf,← hrow]; exact Q)) ?_
        exact ZaB ((n - (r + 1) - (q + 1))) (by omega) ⟨(q + 1),rfl,rfl,(by omega),rfl⟩
      ·have hqn:n - (r + 1)≤q:=by have:=of_decide_eq_false hb15; omega
       refine ZaC (Zae (Zae (ZaO (Zaa (Zab (xr 2 [eS1 0 (some ⟨b,0,none⟩) n n,(2, .v (.int .u64 ((p:Nat):Int))),(6, .v (.int .i64 0)),(7, .v (.int .u64 0)),(8, .v (.int .i64 ((r:Nat):Int))),(9, .v (.int .u64 (((d1 * y) % p:Nat):Int))),(19, .v (.int .i64 ((cols:Nat):Int))),(20, .v (.int .i64 ((col:Nat):Int))),(142, .v (.int .i64 (IntKind.i64.wrap (((r:Nat):Int) + 1))))] [] ?_))))))
       rw [ZaI (k:=r) (by omega)]
       refine xr 1 [eS1 0 (some ⟨b,0,none⟩) n n,(2, .v (.int .u64 ((p:Nat):Int))),(6, .v (.int .i64 0)),(7, .v (.int .u64 0)),(8, .v (.int .i64 ((r + 1:Nat):Int))),(9, .v (.int .u64 (((d1 * y) % p:Nat):Int))),(19, .v (.int .i64 ((cols:Nat):Int))),(20, .v (.int .i64 ((col:Nat):Int)))] [] ?_
       refine xe (ZaN (Zaa (Zab (xr 1 [eS1 0 (some ⟨b,0,none⟩) n n,(2, .v (.int .u64 ((p:Nat):Int))),(6, .v (.int .i64 0)),(7, .v (.int .u64 0)),(8, .v (.int .i64 ((r + 1:Nat):Int))),(9, .v (.int .u64 (((d1 * y) % p:Nat):Int))),(19, .v (.int .i64 ((cols:Nat):Int))),(20, .v (.int .i64 ((col:Nat):Int))),(143, .v (.int .i64 (IntKind.i64.wrap (((col:Nat):Int) + 1))))] [] ?_))))
       rw [ZaI (k:=col) (by omega)]
       refine xr 1 [eS1 0 (some ⟨b,0,none⟩) n n,(2, .v (.int .u64 ((p:Nat):Int))),(6, .v (.int .i64 0)),(7, .v (.int .u64 0)),(8, .v (.int .i64 ((r + 1:Nat):Int))),(9, .v (.int .u64 (((d1 * y) % p:Nat):Int))),(19, .v (.int .i64 ((cols:Nat):Int))),(20, .v (.int .i64 ((col + 1:Nat):Int)))] [] ?_
       refine xe ?_
       refine SXq.weak [(0, .v (.slice (some ⟨b,0,none⟩) n n)),(2, .v (.int .u64 ((p:Nat):Int))),(6, .v (.int .i64 0)),(7, .v (.int .u64 0)),(8, .v (.int .i64 (((r + 1):Nat):Int))),(9, .v (.int .u64 (((d1 * y % p):Nat):Int))),(19, .v (.int .i64 ((cols:Nat):Int))),(20, .v (.int .i64 (((col + 1):Nat):Int)))] [] (Ψ:=fun w=>MU w b n (A1) (C1) ((addR col p m r X1 F (n - (r + 1))))) (Zaw.of (by kernel_rfl)) (by kernel_rfl) (fun w Q=>(by rw [(show n - (r + 1)=q by omega)]; exact Q)) ?_
       exact ZaB ((cols - (col + 1))) (by omega) ⟨A1,C1,(addR col p m r X1 F (n - (r + 1))),(r + 1),(d1 * y % p),(col + 1),rfl,rfl,(hR.snoc (.some k X1 d1 y F hk hkk hz hne hX1 hd1 hy hF)),(ElStep.bd (by omega) hB (c:=col) (.some k X1 d1 y F hk hkk hz hne hX1 hd1 hy hF)),hA1,(by omega),rfl⟩
   ·refine Zam (ZaN (Zaa (Zab (xr 2 [eS1 0 (some ⟨b,0,none⟩) n n,(2, .v (.int .u64 ((p:Nat):Int))),(6, .v (.int .i64 0)),(7, .v (.int .u64 0)),(8, .v (.int .i64 ((r:Nat):Int))),(9, .v (.int .u64 ((d:Nat):Int))),(10, .v (.int .i64 ((col:Nat):Int))),(11, .v (.int .i64 ((k:Nat):Int))),(19, .v (.int .i64 ((cols:Nat):Int))),(20, .v (.int .i64 ((col:Nat):Int))),(25, .v (.int .i64 (IntKind.i64.wrap (((k:Nat):Int) + 1))))] [] ?_))))
    rw [ZaI (k:=k) (by omega)]
    refine xr 1 [eS1 0 (some ⟨b,0,none⟩) n n,(2, .v (.int .u64 ((p:Nat):Int))),(6, .v (.int .i64 0)),(7, .v (.int .u64 0)),(8, .v (.int .i64 ((r:Nat):Int))),(9, .v (.int .u64 ((d:Nat):Int))),(10, .v (.int .i64 ((col:Nat):Int))),(11, .v (.int .i64 ((k + 1:Nat):Int))),(19, .v (.int .i64 ((cols:Nat):Int))),(20, .v (.int .i64 ((col:Nat):Int)))] [] ?_
    refine xe ?_
    refine SXq.weak [(0, .v (.slice (some ⟨b,0,none⟩) n n)),(2, .v (.int .u64 ((p:Nat):Int))),(6, .v (.int .i64 0)),(7, .v (.int .u64 0)),(8, .v (.int .i64 ((r:Nat):Int))),(9, .v (.int .u64 ((d:Nat):Int))),(10, .v (.int .i64 ((col:Nat):Int))),(11, .v (.int .i64 (((k + 1):Nat):Int))),(19, .v (.int .i64 ((cols:Nat):Int))),(20, .v (.int .i64 ((col:Nat):Int)))] [] (Ψ:=fun w=>MU w b n (A) (C) (X)) (Zaw.of (by kernel_rfl)) (by kernel_rfl) (fun w Q=>Q) ?_
    exact ZaB ((n - (k + 1))) (by omega) ⟨(k + 1),rfl,rfl,(by omega),(by omega),(fun i h1 h2=>by rcases Nat.lt_or_ge i k with h3 | h3; exact hz i h1 h3; obtain rfl:i=k:=(by omega); rw [hx]; exact ZoO hb12),rfl⟩
 ·have hcol:cols≤col:=by have:=of_decide_eq_false hb10; omega
  refine ZaC (Zae (Zae (ZaO (Zaa (Zac (Zab (xr 4 [(6, .v (.int .i64 ((r:Nat):Int))),(7, .v (.int .u64 ((d:Nat):Int)))] [] ?_)))))))
  refine xe (Zaa (Zao ?_))
  refine Zle ?_
  refine Zak (v:=.tuple #[.int .i64 ((r:Nat):Int), .int .u64 ((d:Nat):Int)]) (by kernel_rfl) (fun w' R Q=>?_)
  exact ⟨r,d,A,C,X,rfl,R,(by obtain rfl:col=cols:=(by omega); exact hR),hB,hA,Q⟩
end Go.Proofs.YthlipnahcbcjkaaGreatDoor

namespace Go.Proofs.YthlipnahcbcjkaaGreatDoor
open Go.RowKit
def subP (u p:Nat) (f g:List Nat) (j:Nat):List Nat:=f.mapIdx (fun t x=>if t < j then (x + p - u * g[t]?.getD 0 % p) % p else x)
section
variable {u p j:Nat} {f g:List Nat}
theorem ZbP:(subP u p f g j).length=f.length:=List.length_mapIdx
theorem Zc4 (t:Nat):(subP u p f g j)[t]?.getD 0=if t < j∧t < f.length then (f[t]?.getD 0 + p - u * g[t]?.getD 0 % p) % p else f[t]?.getD 0:=by
 unfold subP
 rw [List.getElem?_mapIdx]
 rcases Nat.lt_or_ge t f.length with h | h
 ·rw [List.getElem?_eq_getElem h]
  simp only [Option.map_some,Option.getD_some]
  by_cases h2:t < j
  ·rw [if_pos h2,if_pos ⟨h2,h⟩]
  ·rw [if_neg h2,if_neg (fun e=>h2 e.1)]
 ·rw [List.getElem?_eq_none h,if_neg (by omega)]; rfl
theorem ZmF:subP u p f g 0=f:=Zcp ZbP (fun t _=>by rw [Zc4,if_neg (by omega)])
theorem Zor:(subP u p f g j)[j]?.getD 0=f[j]?.getD 0:=by rw [Zc4,if_neg (by omega)]
theorem Znu (hj:j < f.length) {x y:Nat} (hx:f[j]?.getD 0=x) (hy:g[j]?.getD 0=y):(subP u p f g j).set j ((x + p - u * y % p) % p)=subP u p f g (j + 1):=by
 refine Zcp (by rw [List.length_set,ZbP,ZbP]) (fun t ht=>?_)
 rw [List.length_set,ZbP] at ht
 rw [Zg3 (by rw [ZbP]; exact hj),Zc4,Zc4]
 by_cases e:t=j
 ·subst e; rw [if_pos rfl,if_pos ⟨by omega,hj⟩,hx,hy]
 ·rw [if_neg e]
  by_cases e2:t < j∧t < f.length
  ·rw [if_pos e2,if_pos ⟨by omega,e2.2⟩]
  ·rw [if_neg e2,if_neg (by omega)]
theorem Zl6 (hp:0 < p) (hf:∀ x ∈ f,x < p):∀ x ∈ subP u p f g j,x < p:=fun x hx=>by
 obtain ⟨t,ht,rfl⟩:=Zii hx
 rw [ZbP] at ht
 rw [Zc4]
 split
 ·exact Nat.mod_lt _ hp
 ·exact hf _ (ZcH ht)
theorem Znv (h:f.length≤j) {i:Nat} (hi:f.length≤i):subP u p f g j=subP u p f g i:=Zcp (by rw [ZbP,ZbP]) (fun t ht=>by
 rw [ZbP] at ht
 rw [Zc4,Zc4,if_pos ⟨by omega,ht⟩,if_pos ⟨by omega,ht⟩])
end
def subR (c p m r:Nat) (X1:Nat→List Nat) (F:List Nat) (q:Nat):Nat→List Nat:=fun i=>if i≠r∧i < q then subP ((X1 i)[c]?.getD 0) p (X1 i) F m else upF X1 r F i
inductive RStep (p n m c:Nat) (X:Nat→List Nat) (r d:Nat):(Nat→List Nat)→Nat→Nat→Prop
 | none (hz:∀ i,r≤i→i < n→(X i)[c]?.getD 0=0):RStep p n m c X r d X r 0
 | some (k:Nat) (X1:Nat→List Nat) (d1 y:Nat) (F:List Nat) (hk:r≤k) (hkn:k < n) (hz:∀ i,r≤i→i < k→(X i)[c]?.getD 0=0) (hne:(X k)[c]?.getD 0≠0) (hX1:X1=fun i=>X (swF k r i)) (hd:d1=if k=r then d else (p - d) % p)
  (hy:(X1 r)[c]?.getD 0=y) (hF:F=mulP 0 (invN y p) p (X1 r) m):RStep p n m c X r d (subR c p m r X1 F n) (r + 1) (d1 * y % p)
inductive RRun (p n m:Nat) (X0:Nat→List Nat):Nat→(Nat→List Nat)→Nat→Nat→Prop
 | nil:RRun p n m X0 0 X0 0 1
 | snoc {c r d r' d':Nat} {X X':Nat→List Nat} (h:RRun p n m X0 c X r d) (hs:RStep p n m c X r d X' r' d'):RRun p n m X0 (c + 1) X' r' d'
section
variable {p n m c r d r' d' q:Nat} {X X' X1:Nat→List Nat} {F:List Nat}
theorem RStep.bd (hp:0 < p) (h:ElB p n m X r d) (hs:RStep p n m c X r d X' r' d'):ElB p n m X' r' d':=by
 cases hs with
 | none hz=>exact ⟨h.len,h.lt,h.rn,hp⟩
 | some k X1 d1 y F hk hkn hz hne hX1 hd hy hF =>
   subst hX1
   have h1:ElB p n m (fun i=>X (swF k r i)) r 0:=⟨fun _ hi=>h.len _ (ZbM hkn (by omega) hi),fun _ hi=>h.lt _ (ZbM hkn (by omega) hi),h.rn,hp⟩
   refine ⟨fun i hi=>?_,fun i hi=>?_,by omega,Nat.mod_lt _ hp⟩
   ·unfold subR upF
    split
    ·rw [ZbP]; exact h1.len i hi
    ·split
     ·rw [hF,ZaD]; exact h1.len r (by omega)
     ·exact h1.len i hi
   ·unfold subR upF
    split
    ·exact Zl6 hp (h1.lt i hi)
    ·split
     ·rw [hF]; exact ZfZ hp (h1.lt r (by omega))
     ·exact h1.lt i hi
theorem ZmG:subR c p m r X1 F 0=upF X1 r F:=funext fun i=>by unfold subR; rw [if_neg (by omega)]
theorem Zlh (h:q≠r):subR c p m r X1 F q q=X1 q:=by unfold subR; rw [if_neg (by omega),ZaP h]
theorem ZpK:subR c p m r X1 F q r=F:=by unfold subR; rw [if_neg (by omega),Zas]
theorem Zj3:subR c p m r X1 F r=subR c p m r X1 F (r + 1):=funext fun i=>by
 unfold subR
 by_cases h:i≠r∧i < r
 ·rw [if_pos h,if_pos (by omega)]
 ·rw [if_neg h,if_neg (by omega)]
theorem Znw {x:Nat} (hq:q≠r) (hx:(X1 q)[c]?.getD 0=x):upF (subR c p m r X1 F q) q (subP x p (X1 q) F m)=subR c p m r X1 F (q + 1):=funext fun t=>by
 by_cases e:t=q
 ·subst e; rw [Zas]; unfold subR; rw [if_pos ⟨hq,by omega⟩,hx]
 ·rw [ZaP e]
  unfold subR
  by_cases h2:t≠r∧t < q
  ·rw [if_pos h2,if_pos (by omega)]
  ·rw [if_neg h2,if_neg (by omega)]
end
abbrev MI (w:World) (b n:Nat) (A:Nat→Option Addr) (C:Nat→Nat) (X:Nat→List Nat):Prop:=MatO .i64 3 23 w b n ⟨A,C,X⟩
end Go.Proofs.YthlipnahcbcjkaaGreatDoor

namespace Go.Proofs.YthlipnahcbcjkaaGreatDoor
open Go.RowKit
structure ArgI (w:World) (A0:Option Addr) (n:Nat) (R:Nat→Option Addr) (C:Nat→Nat) (Z:Nat→List Int):Prop where
 top:0 < n→∃ b off,A0=some ⟨b,off,none⟩∧b < w.heap.size∧∀ i,i < n→w.cell? ⟨b,off + i,none⟩=some (.slice (R i) (Z i).length (C i))
 row:∀ i,i < n→Zaq w (R i) (Z i)
 i64:∀ i,i < n→ZeH (Z i)
section
variable {P:Program} {o:Oper} {ρ:Operand→Value} {w w':World} {t e:TypeId} {x ix:Operand} {A0:Option Addr} {n l cap i j:Nat} {R:Nat→Option Addr} {C:Nat→Nat} {Z:Nat→List Int}
theorem ArgI.ext (h:ArgI w A0 n R C Z) (hf:Ext w w'):ArgI w' A0 n R C Z :=
 ⟨fun hn=>by
  obtain ⟨b,off,h1,hb,hc⟩:=h.top hn
  exact ⟨b,off,h1,Nat.lt_of_lt_of_le hb hf.size,fun i hi=>(hf.cell (p:=⟨b,off + i,none⟩) hb (fun f=>f)).trans (hc i hi)⟩,fun i hi=>(h.row i hi).ext hf,h.i64⟩
theorem Zbr (h:ArgI w A0 n R C Z) (hi:i < n) (ho:o.op=Op.indexAddr t x ix:=by kernel_rfl) (ht:P.underlying t=some (.slice e):=by kernel_rfl) (hs:(P.info? e).map (fun i=>i.size)=some 1:=by kernel_rfl)
 (hx:ρ x=.slice A0 n cap:=by kernel_rfl) (hix:ρ ix=.int .i64 ((i:Nat):Int):=by kernel_rfl):(execOp ρ o).run P w=.ok (.value (atA A0 i)) w:=by
 obtain ⟨b,off,h1,_⟩:=h.top (by omega)
 exact Zfb (by rw [h1]; exact fun e=>by cases e) hi ho ht hs hx hix
theorem Zbs (h:ArgI w A0 n R C Z) (hi:i < n) (hl:(Z i).length=l) (ho:o.op=Op.load t x:=by kernel_rfl) (hx:ρ x=atA A0 i:=by kernel_rfl) (ha:(teOf P t).map (fun e=>e.agg)=some false:=by kernel_rfl) :
 (execOp ρ o).run P w=.ok (.value (.slice (R i) l (C i))) w:=by
 obtain ⟨b,off,h1,_,h2⟩:=h.top (by omega)
 subst hl
 exact Zg2 (h2 i hi) ho (by rw [hx,h1,atA,Option.map_some,Zct]) ha
theorem Zem {A:Option Addr} {zs:List Int} (h:Zaq w A zs) (hl:zs.length=l) (hj:j < l) (ho:o.op=Op.indexAddr t x ix:=by kernel_rfl) (ht:P.underlying t=some (.slice e):=by kernel_rfl) (hs:(P.info? e).map (fun i=>i.size)=some 1:=by kernel_rfl)
 (hx:ρ x=.slice A l cap:=by kernel_rfl) (hix:ρ ix=.int .i64 ((j:Nat):Int):=by kernel_rfl):(execOp ρ o).run P w=.ok (.value (atA A j)) w:=by
 obtain ⟨b,off,h1,_⟩:=h (fun e=>by rw [e] at hl; simp at hl; omega)
 exact Zfb (by rw [h1]; exact fun e=>by cases e) hj ho ht hs hx hix
theorem Zen {A:Option Addr} {zs:List Int} {z:Int} (h:Zaq w A zs) (hj:j < zs.length) (hz:zs.getD j 0=z) (ho:o.op=Op.load t x:=by kernel_rfl) (hx:ρ x=atA A j:=by kernel_rfl) (ha:(teOf P t).map (fun e=>e.agg)=some false:=by kernel_rfl) :
 (execOp ρ o).run P w=.ok (.value (.int .i64 z)) w:=by
 obtain ⟨b,off,h1,_,h2⟩:=h (fun e=>by rw [e] at hj; simp at hj)
 rw [← hz]
 exact Zg2 (h2 j hj) ho (by rw [hx,h1,atA,Option.map_some,Zct]) ha
end
theorem ZhZ (p:Int) (w:World) {b:Bool} (h:prB p=b):Calls Tryz.prog 126 #[.int .i64 p] w (RetV w (.bool b)):=by
 rw [← h]; exact (ZfA p w).mono (fun _ _ ⟨h1,h2⟩=>⟨h1,by rw [h2]; exact Fr.refl _ _⟩)
theorem ZjH (p:Int) (w:World) {b:Bool} (h:prB p=b):Calls Tryz.prog 125 #[.int .i64 p] w (RetV w (.bool b)):=by
 rw [← h]; exact (ZfN p w).mono (fun _ _ ⟨h1,h2⟩=>⟨h1,by rw [h2]; exact Fr.refl _ _⟩)
inductive ChkIs (n:Nat) (Z:Nat→List Int) (p:Int) (sq:Bool):Int→Prop
 | bad (h:prB p=false):ChkIs n Z p sq 1
 | empty (h:prB p=true) (hn:n=0):ChkIs n Z p sq 4
 | zero (h:prB p=true) (hn:0 < n) (hz:(Z 0).length=0):ChkIs n Z p sq 4
 | nosq (h:prB p=true) (hn:0 < n) (hz:(Z 0).length≠0) (hs:sq=true) (hs2:(Z 0).length≠n):ChkIs n Z p sq 4
 | uneven (i:Nat) (h:prB p=true) (hn:0 < n) (hz:(Z 0).length≠0) (hs:sq=true→(Z 0).length=n) (hi:i < n) (hne:(Z i).length≠(Z 0).length):ChkIs n Z p sq 4
 | limit (h:prB p=true) (hn:0 < n) (hz:(Z 0).length≠0) (hs:sq=true→(Z 0).length=n) (he:∀ i,i < n→(Z i).length=(Z 0).length) (hl:64 < n∨64 < (Z 0).length):ChkIs n Z p sq 2
 | ok (h:prB p=true) (hn:0 < n) (hz:(Z 0).length≠0) (hs:sq=true→(Z 0).length=n) (he:∀ i,i < n→(Z i).length=(Z 0).length) (hl:n≤64) (hl2:(Z 0).length≤64):ChkIs n Z p sq 0
def Zln (w:World) (n:Nat) (Z:Nat→List Int) (p:Int) (sq:Bool) (e:Ending) (w':World):Prop:=∃ c:Int,e=.returned (.int .i64 c)∧ChkIs n Z p sq c∧Ext w w'
theorem Zin {w w':World} {n:Nat} {Z:Nat→List Int} {p:Int} {sq:Bool} {e:Ending} (h:Zln w n Z p sq e w'):Zcy (fun c:{c:Int // ChkIs n Z p sq c}=>.int .i64 c.1) (fun _ _=>True) w e w':=by
 obtain ⟨c,rfl,h1,Q⟩:=h
 exact ⟨⟨c,h1⟩,rfl,Q,BoxN.pure trivial⟩
theorem z_eq {n:Nat} (h:(((n:Nat):Int) == 0)=true):n=0:=by have:=eq_of_beq h; omega
theorem z_ne {n:Nat} (h:(((n:Nat):Int) == 0)=false):n≠0:=fun e=>by subst e; simp at h
theorem Zlo (A0:Option Addr) (n c0:Nat) (R:Nat→Option Addr) (C:Nat→Nat) (Z:Nat→List Int) (p:Int) (w:World) (ha:ArgI w A0 n R C Z) (hn1:n≤100000) :
 Calls Tryz.prog 59 #[.slice A0 n c0, .int .i64 p, .bool true] w (Zln w n Z p true):=by
 obtain ⟨pb,hpb⟩:∃ b,prB p=b:=⟨_,rfl⟩
 refine Zbi (Φ:=fun w=>ArgI w A0 n R C Z) Tryz.func59 rfl (by kernel_rfl) (fun w' hf=>ha.ext hf) ?_
 refine Zac (Zab (xr 1 [eS1 0 A0 n c0,(1, .v (.int .i64 p)),(2, .v (.bool true)),(6, .v (.int .i64 0))] [] ?_))
 refine xe (Zaa (Zac (Zac (Zab (xr 1 [eS1 0 A0 n c0,(2, .v (.bool true)),(6, .v (.int .i64 0)),(10, .v (.int .i64 p))] [] ?_)))))
 refine xc 126 [.int .i64 p] 11 (fun _:Unit=>.bool pb) _ (fun w S Q=>(ZhZ p _ hpb).mono (fun _ _ h=>Zau h rfl)) (fun xx=>?_)
 rcases pb with _ | _
 ·refine xr 1 [eS1 0 A0 n c0,(2, .v (.bool true)),(6, .v (.int .i64 0)),(12, .v (.bool true))] [] ?_
  refine xe (Zaa (xa (Zac (Zab (xr 1 [eS1 0 A0 n c0,(2, .v (.bool true)),(6, .v (.int .i64 1))] [] ?_)))))
  refine xe (Zaa (Zao (Zag ?_)))
  refine Zak (v:=.int .i64 1) (by kernel_rfl) (fun w' S Q=>?_)
  exact ⟨_,rfl, .bad hpb,S⟩
 ·refine xr 1 [eS1 0 A0 n c0,(2, .v (.bool true)),(6, .v (.int .i64 0)),(12, .v (.bool false))] [] ?_
  refine xe (Zaa (xb (Zam (Zaa (Zac (Zac (Zab (xr 3 [eS1 0 A0 n c0,(2, .v (.bool true)),(6, .v (.int .i64 0)),(15, .v (.bool ((((n:Nat):Int):Int) == 0)))] [] ?_))))))))
  refine xe (Zaa ?_)
  refine Zar (((((n:Nat):Int):Int) == 0)) (by kernel_rfl) (fun hb10=>?_) (fun hb10=>?_)
  ·have hn:n=0:=z_eq hb10
   refine Zac (Zab (xr 1 [eS1 0 A0 n c0,(2, .v (.bool true)),(6, .v (.int .i64 4))] [] ?_))
   refine xe (Zaa (Zao (Zag ?_)))
   refine Zak (v:=.int .i64 4) (by kernel_rfl) (fun w' S Q=>?_)
   exact ⟨_,rfl, .empty hpb hn,S⟩
  ·have hn:n≠0:=z_ne hb10
   refine Zam (Zaa (Zac (Zab (xr 1 [eS1 0 A0 n c0,(2, .v (.bool true)),(6, .v (.int .i64 0)),eS1 16 A0 n c0] [] ?_))))
   refine xk 17 (atA A0 0) (fun w hE' Q=>Zbr (t:=22) (e:=23) (x:=.tmp 16) (ix:=(.const (.int .i64 0))) (i:=0) (cap:=c0) Q.1 (by omega)) ?_
   refine xk 18 (.slice (R 0) (Z 0).length (C 0)) (fun w hE' Q=>Zbs (t:=23) (x:=.tmp 17) (i:=0) Q.1 (by omega) rfl) ?_
   refine xr 2 [eS1 0 A0 n c0,(2, .v (.bool true)),(6, .v (.int .i64 0)),(7, .v (.int .i64 (((Z 0).length:Nat):Int)))] [] ?_
   refine xe (Zaa (Zac (Zac (Zab (xr 3 [eS1 0 A0 n c0,(2, .v (.bool true)),(6, .v (.int .i64 0)),(7, .v (.int .i64 (((Z 0).length:Nat):Int))),(22, .v (.bool (((((Z 0).length:Nat):Int):Int) == 0)))] [] ?_)))))
   rcases bl2 ((((((Z 0).length:Nat):Int):Int) == 0)) with hb11 | hb11
   ·rw [hb11]
    have hz:(Z 0).length=0:=z_eq hb11
    refine xr 8 [eS1 0 A0 n c0,(6, .v (.int .i64 0)),(7, .v (.int .i64 (((Z 0).length:Nat):Int))),(30, .v (.bool true))] [] ?_
    refine xe (Zaa (xa (Zac (Zab (xr 1 [eS1 0 A0 n c0,(6, .v (.int .i64 4)),(7, .v (.int .i64 (((Z 0).length:Nat):Int)))] [] ?_)))))
    refine xe (Zaa (Zao (Zag ?_)))
    refine Zak (v:=.int .i64 4) (by kernel_rfl) (fun w' S Q=>?_)
    exact ⟨_,rfl, .zero hpb (by omega) hz,S⟩
   ·rw [hb11]
    have hz:(Z 0).length≠0:=z_ne hb11
    refine xr 8 [eS1 0 A0 n c0,(6, .v (.int .i64 0)),(7, .v (.int .i64 (((Z 0).length:Nat):Int))),(30, .v (.bool (((((Z 0).length:Nat):Int):Int) != ((n:Nat):Int))))] [] ?_
    refine xe (Zaa ?_)
    refine Zar ((((((Z 0).length:Nat):Int):Int) != ((n:Nat):Int))) (by kernel_rfl) (fun hb12=>?_) (fun hb12=>?_)
    ·have hs2:=ZcY hb12
     refine Zac (Zab (xr 1 [eS1 0 A0 n c0,(6, .v (.int .i64 4)),(7, .v (.int .i64 (((Z 0).length:Nat):Int)))] [] ?_))
     refine xe (Zaa (Zao (Zag ?_)))
     refine Zak (v:=.int .i64 4) (by kernel_rfl) (fun w' S Q=>?_)
     exact ⟨_,rfl, .nosq hpb (by omega) hz rfl hs2,S⟩
    ·have hs2:=ZcZ hb12
     refine Zam (Zaa (Zac (Zac (Zab (xr 3 [eS1 0 A0 n c0,(6, .v (.int .i64 0)),(7, .v (.int .i64 (((Z 0).length:Nat):Int))),eS1 31 A0 n c0,(32, .v (.int .i64 ((n:Nat):Int))),(33, .v (.int .i64 0))] [] ?_)))))
     refine xe (Zaa (Zap ?_))
     refine SXc.weak [(0, .v (.slice A0 n c0)),(6, .v (.int .i64 0)),(7, .v (.int .i64 (((Z 0).length:Nat):Int))),(31, .v (.slice A0 n c0)),(32, .v (.int .i64 ((n:Nat):Int))),(33, .v (.int .i64 ((0:Nat):Int)))] [] (Ψ:=fun w=>ArgI w A0 n R C Z) (Zaw.of (by kernel_rfl)) (by kernel_rfl) (fun w Q=>Q.1) ?_
     refine ZaU (fun nn ss ff=>∃ (k:Nat),ss=ofL [(0, .v (.slice A0 n c0)),(6, .v (.int .i64 0)),(7, .v (.int .i64 (((Z 0).length:Nat):Int))),(31, .v (.slice A0 n c0)),(32, .v (.int .i64 ((n:Nat):Int))),(33, .v (.int .i64 ((k:Nat):Int)))] []∧ff=(fun w=>ArgI w A0 n R C Z)∧(k≤n)∧(∀ i,i < k→(Z i).length=(Z 0).length)∧nn=(n - k)) ((n - 0)) ⟨0,rfl,rfl,Nat.zero_le _,fun i hi=>absurd hi (by omega),rfl⟩ ?_
     rintro nn ss ff ⟨k,rfl,rfl,hk,hev,rfl⟩
     refine Zac (Zab (xr 1 [eS1 0 A0 n c0,(6, .v (.int .i64 0)),(7, .v (.int .i64 (((Z 0).length:Nat):Int))),eS1 31 A0 n c0,(32, .v (.int .i64 ((n:Nat):Int))),(33, .v (.int .i64 ((k:Nat):Int))),(34, .v (.bool (decide (((k:Nat):Int) < ((n:Nat):Int)))))] [] ?_))
     refine xe (Zaa (Zac ?_))
     refine Zar ((decide (((k:Nat):Int) < ((n:Nat):Int)))) (by kernel_rfl) (fun hb13=>?_) (fun hb13=>?_)
     ·have hkn:k < n:=by have:=of_decide_eq_true hb13; omega
      refine Zam (Zaa (Zac (Zap (Zac (Zab ?_)))))
      refine xk 35 (atA A0 k) (fun w hE' Q=>Zbr (t:=22) (e:=23) (x:=.tmp 31) (ix:=(.tmp 33)) (i:=k) (cap:=c0) Q (by omega)) ?_
      refine xk 36 (.slice (R k) (Z k).length (C k)) (fun w hE' Q=>Zbs (t:=23) (x:=.tmp 35) (i:=k) Q (by omega) rfl) ?_
      refine xr 1 [eS1 0 A0 n c0,(6, .v (.int .i64 0)),(7, .v (.int .i64 (((Z 0).length:Nat):Int))),(9, .v (.slice (R k) (Z k).length (C k))),eS1 31 A0 n c0,(32, .v (.int .i64 ((n:Nat):Int))),(33, .v (.int .i64 ((k:Nat):Int)))] [] ?_
      refine xe (Zaa (Zac (Zab (xr 4 [eS1 0 A0 n c0,(6, .v (.int .i64 0)),(7, .v (.int .i64 (((Z 0).length:Nat):Int))),eS1 31 A0 n c0,(32, .v (.int .i64 ((n:Nat):Int))),(33, .v (.int .i64 ((k:Nat):Int))),(40, .v (.bool (((((Z k).length:Nat):Int):Int) != (((Z 0).length:Nat):Int))))] [] ?_))))
      refine xe (Zaa ?_)
      refine Zar ((((((Z k).length:Nat):Int):Int) != (((Z 0).length:Nat):Int))) (by kernel_rfl) (fun hb14=>?_) (fun hb14=>?_)
      ·have hk2:=ZcY hb14
       refine Zac (Zab (xr 1 [eS1 0 A0 n c0,(6, .v (.int .i64 4)),(7, .v (.int .i64 (((Z 0).length:Nat):Int))),eS1 31 A0 n c0,(32, .v (.int .i64 ((n:Nat):Int))),(33, .v (.int .i64 ((k:Nat):Int)))] [] ?_))
       refine xe (Zaa (Zao (ZaZ (Zag (Zag (ZaZ (Zag ?_)))))))
       refine Zak (v:=.int .i64 4) (by kernel_rfl) (fun w' S Q=>?_)
       exact ⟨_,rfl, .uneven k hpb (by omega) hz (fun _=>hs2) hkn hk2,S⟩
      ·have hk2:=ZcZ hb14
       refine Zam (ZaN (Zaa (Zab (xr 1 [eS1 0 A0 n c0,(6, .v (.int .i64 0)),(7, .v (.int .i64 (((Z 0).length:Nat):Int))),eS1 31 A0 n c0,(32, .v (.int .i64 ((n:Nat):Int))),(33, .v (.int .i64 ((k:Nat):Int))),(41, .v (.int .i64 (IntKind.i64.wrap (((k:Nat):Int) + 1))))] [] ?_))))
       rw [ZaI (k:=k) (by omega)]
       refine xr 1 [eS1 0 A0 n c0,(6, .v (.int .i64 0)),(7, .v (.int .i64 (((Z 0).length:Nat):Int))),eS1 31 A0 n c0,(32, .v (.int .i64 ((n:Nat):Int))),(33, .v (.int .i64 ((k + 1:Nat):Int)))] [] ?_
       refine xe ?_
       refine SXq.weak [(0, .v (.slice A0 n c0)),(6, .v (.int .i64 0)),(7, .v (.int .i64 (((Z 0).length:Nat):Int))),(31, .v (.slice A0 n c0)),(32, .v (.int .i64 ((n:Nat):Int))),(33, .v (.int .i64 (((k + 1):Nat):Int)))] [] (Ψ:=fun w=>ArgI w A0 n R C Z) (Zaw.of (by kernel_rfl)) (by kernel_rfl) (fun w Q=>Q) ?_
       exact ZaB ((n - (k + 1))) (by omega) ⟨(k + 1),rfl,rfl,(by omega),(fun i hi=>by rcases Nat.lt_or_ge i k with h3 | h3; exact hev i h3; obtain rfl:i=k:=(by omega); exact hk2),rfl⟩
     ·have hkn:n≤k:=by have:=of_decide_eq_false hb13; omega
      refine ZaC (Zae (Zae (ZaO (Zaa (Zac (Zac (Zab (xr 4 [(6, .v (.int .i64 0)),(7, .v (.int .i64 (((Z 0).length:Nat):Int))),(45, .v (.bool (decide (((n:Nat):Int) > 64))))] [] ?_))))))))
      rcases bl2 ((decide (((n:Nat):Int) > 64))) with hb15 | hb15
      ·rw [hb15]
       have hl1:64 < n:=by have:=of_decide_eq_true hb15; omega
       refine xr 3 [(6, .v (.int .i64 0)),(48, .v (.bool true))] [] ?_
       refine xe (Zaa (xa (Zac (Zab (xr 1 [(6, .v (.int .i64 2))] [] ?_)))))
       refine xe (Zaa (Zao (Zag ?_)))
       refine Zak (v:=.int .i64 2) (by kernel_rfl) (fun w' S Q=>?_)
       exact ⟨_,rfl, .limit hpb (by omega) hz (fun _=>hs2) (fun i hi=>hev i (by omega)) (Or.inl hl1),S⟩
      ·rw [hb15]
       have hl1:n≤64:=by have:=of_decide_eq_false hb15; omega
       refine xr 3 [(6, .v (.int .i64 0)),(48, .v (.bool (decide ((((Z 0).length:Nat):Int) > 64))))] [] ?_
       refine xe (Zaa ?_)
       refine Zar ((decide ((((Z 0).length:Nat):Int) > 64))) (by kernel_rfl) (fun hb16=>?_) (fun hb16=>?_)
       ·have hl2:64 < (Z 0).length:=by have:=of_decide_eq_true hb16; omega
        refine Zac (Zab (xr 1 [(6, .v (.int .i64 2))] [] ?_))
        refine xe (Zaa (Zao (Zag ?_)))
        refine Zak (v:=.int .i64 2) (by kernel_rfl) (fun w' S Q=>?_)
        exact ⟨_,rfl, .limit hpb (by omega) hz (fun _=>hs2) (fun i hi=>hev i (by omega)) (Or.inr hl2),S⟩
       ·have hl2:(Z 0).length≤64:=by have:=of_decide_eq_false hb16; omega
        refine Zam (Zaa (Zac (Zab (xr 1 [(6, .v (.int .i64 0))] [] ?_))))
        refine xe (Zaa (Zao ?_))
        refine Zak (v:=.int .i64 0) (by kernel_rfl) (fun w' S Q=>?_)
        exact ⟨_,rfl, .ok hpb (by omega) hz (fun _=>hs2) (fun i hi=>hev i (by omega)) hl1 hl2,S⟩
theorem ZnC (A0:Option Addr) (n c0:Nat) (R:Nat→Option Addr) (C:Nat→Nat) (Z:Nat→List Int) (p:Int) (w:World) (ha:ArgI w A0 n R C Z) (hn1:n≤100000) :
 Calls Tryz.prog 59 #[.slice A0 n c0, .int .i64 p, .bool false] w (Zln w n Z p false):=by
 obtain ⟨pb,hpb⟩:∃ b,prB p=b:=⟨_,rfl⟩
 refine Zbi (Φ:=fun w=>ArgI w A0 n R C Z) Tryz.func59 rfl (by kernel_rfl) (fun w' hf=>ha.ext hf) ?_
 refine Zac (Zab (xr 1 [eS1 0 A0 n c0,(1, .v (.int .i64 p)),(2, .v (.bool false)),(6, .v (.int .i64 0))] [] ?_))
 refine xe (Zaa (Zac (Zac (Zab (xr 1 [eS1 0 A0 n c0,(2, .v (.bool false)),(6, .v (.int .i64 0)),(10, .v (.int .i64 p))] [] ?_)))))
 refine xc 126 [.int .i64 p] 11 (fun _:Unit=>.bool pb) _ (fun w S Q=>(ZhZ p _ hpb).mono (fun _ _ h=>Zau h rfl)) (fun xx=>?_)
 rcases pb with _ | _
 ·refine xr 1 [eS1 0 A0 n c0,(2, .v (.bool false)),(6, .v (.int .i64 0)),(12, .v (.bool true))] [] ?_
  refine xe (Zaa (xa (Zac (Zab (xr 1 [eS1 0 A0 n c0,(2, .v (.bool false)),(6, .v (.int .i64 1))] [] ?_)))))
  refine xe (Zaa (Zao (Zag ?_)))
  refine Zak (v:=.int .i64 1) (by kernel_rfl) (fun w' S Q=>?_)
  exact ⟨_,rfl, .bad hpb,S⟩
 ·refine xr 1 [eS1 0 A0 n c0,(2, .v (.bool false)),(6, .v (.int .i64 0)),(12, .v (.bool false))] [] ?_
  refine xe (Zaa (xb (Zam (Zaa (Zac (Zac (Zab (xr 3 [eS1 0 A0 n c0,(2, .v (.bool false)),(6, .v (.int .i64 0)),(15, .v (.bool ((((n:Nat):Int):Int) == 0)))] [] ?_))))))))
  refine xe (Zaa ?_)
  refine Zar (((((n:Nat):Int):Int) == 0)) (by kernel_rfl) (fun hb10=>?_) (fun hb10=>?_)
  ·have hn:n=0:=z_eq hb10
   refine Zac (Zab (xr 1 [eS1 0 A0 n c0,(2, .v (.bool false)),(6, .v (.int .i64 4))] [] ?_))
   refine xe (Zaa (Zao (Zag ?_)))
   refine Zak (v:=.int .i64 4) (by kernel_rfl) (fun w' S Q=>?_)
   exact ⟨_,rfl, .empty hpb hn,S⟩
  ·have hn:n≠0:=z_ne hb10
   refine Zam (Zaa (Zac (Zab (xr 1 [eS1 0 A0 n c0,(2, .v (.bool false)),(6, .v (.int .i64 0)),eS1 16 A0 n c0] [] ?_))))
   refine xk 17 (atA A0 0) (fun w hE' Q=>Zbr (t:=22) (e:=23) (x:=.tmp 16) (ix:=(.const (.int .i64 0))) (i:=0) (cap:=c0) Q.1 (by omega)) ?_
   refine xk 18 (.slice (R 0) (Z 0).length (C 0)) (fun w hE' Q=>Zbs (t:=23) (x:=.tmp 17) (i:=0) Q.1 (by omega) rfl) ?_
   refine xr 2 [eS1 0 A0 n c0,(2, .v (.bool false)),(6, .v (.int .i64 0)),(7, .v (.int .i64 (((Z 0).length:Nat):Int)))] [] ?_
   refine xe (Zaa (Zac (Zac (Zab (xr 3 [eS1 0 A0 n c0,(2, .v (.bool false)),(6, .v (.int .i64 0)),(7, .v (.int .i64 (((Z 0).length:Nat):Int))),(22, .v (.bool (((((Z 0).length:Nat):Int):Int) == 0)))] [] ?_)))))
   rcases bl2 ((((((Z 0).length:Nat):Int):Int) == 0)) with hb11 | hb11
   ·rw [hb11]
    have hz:(Z 0).length=0:=z_eq hb11
    refine xr 8 [eS1 0 A0 n c0,(6, .v (.int .i64 0)),(7, .v (.int .i64 (((Z 0).length:Nat):Int))),(30, .v (.bool true))] [] ?_
    refine xe (Zaa (xa (Zac (Zab (xr 1 [eS1 0 A0 n c0,(6, .v (.int .i64 4)),(7, .v (.int .i64 (((Z 0).length:Nat):Int)))] [] ?_)))))
    refine xe (Zaa (Zao (Zag ?_)))
    refine Zak (v:=.int .i64 4) (by kernel_rfl) (fun w' S Q=>?_)
    exact ⟨_,rfl, .zero hpb (by omega) hz,S⟩
   ·rw [hb11]
    have hz:(Z 0).length≠0:=z_ne hb11
    refine xr 8 [eS1 0 A0 n c0,(6, .v (.int .i64 0)),(7, .v (.int .i64 (((Z 0).length:Nat):Int))),(30, .v (.bool false))] [] ?_
    refine xe (Zaa (xb (Zam (Zaa (Zac (Zac (Zab (xr 3 [eS1 0 A0 n c0,(6, .v (.int .i64 0)),(7, .v (.int .i64 (((Z 0).length:Nat):Int))),eS1 31 A0 n c0,(32, .v (.int .i64 ((n:Nat):Int))),(33, .v (.int .i64 0))] [] ?_))))))))
    refine xe (Zaa (Zap ?_))
    refine SXc.weak [(0, .v (.slice A0 n c0)),(6, .v (.int .i64 0)),(7, .v (.int .i64 (((Z 0).length:Nat):Int))),(31, .v (.slice A0 n c0)),(32, .v (.int .i64 ((n:Nat):Int))),(33, .v (.int .i64 ((0:Nat):Int)))] [] (Ψ:=fun w=>ArgI w A0 n R C Z) (Zaw.of (by kernel_rfl)) (by kernel_rfl) (fun w Q=>Q.1) ?_
    refine ZaU (fun nn ss ff=>∃ (k:Nat),ss=ofL [(0, .v (.slice A0 n c0)),(6, .v (.int .i64 0)),(7, .v (.int .i64 (((Z 0).length:Nat):Int))),(31, .v (.slice A0 n c0)),(32, .v (.int .i64 ((n:Nat):Int))),(33, .v (.int .i64 ((k:Nat):Int)))] []∧ff=(fun w=>ArgI w A0 n R C Z)∧(k≤n)∧(∀ i,i < k→(Z i).length=(Z 0).length)∧nn=(n - k)) ((n - 0)) ⟨0,rfl,rfl,Nat.zero_le _,fun i hi=>absurd hi (by omega),rfl⟩ ?_
    rintro nn ss ff ⟨k,rfl,rfl,hk,hev,rfl⟩
    refine Zac (Zab (xr 1 [eS1 0 A0 n c0,(6, .v (.int .i64 0)),(7, .v (.int .i64 (((Z 0).length:Nat):Int))),eS1 31 A0 n c0,(32, .v (.int .i64 ((n:Nat):Int))),(33, .v (.int .i64 ((k:Nat):Int))),(34, .v (.bool (decide (((k:Nat):Int) < ((n:Nat):Int)))))] [] ?_))
    refine xe (Zaa (Zac ?_))
    refine Zar ((decide (((k:Nat):Int) < ((n:Nat):Int)))) (by kernel_rfl) (fun hb12=>?_) (fun hb12=>?_)
    ·have hkn:k < n:=by have:=of_decide_eq_true hb12; omega
     refine Zam (Zaa (Zac (Zap (Zac (Zab ?_)))))
     refine xk 35 (atA A0 k) (fun w hE' Q=>Zbr (t:=22) (e:=23) (x:=.tmp 31) (ix:=(.tmp 33)) (i:=k) (cap:=c0) Q (by omega)) ?_
     refine xk 36 (.slice (R k) (Z k).length (C k)) (fun w hE' Q=>Zbs (t:=23) (x:=.tmp 35) (i:=k) Q (by omega) rfl) ?_
     refine xr 1 [eS1 0 A0 n c0,(6, .v (.int .i64 0)),(7, .v (.int .i64 (((Z 0).length:Nat):Int))),(9, .v (.slice (R k) (Z k).length (C k))),eS1 31 A0 n c0,(32, .v (.int .i64 ((n:Nat):Int))),(33, .v (.int .i64 ((k:Nat):Int)))] [] ?_
     refine xe (Zaa (Zac (Zab (xr 4 [eS1 0 A0 n c0,(6, .v (.int .i64 0)),(7, .v (.int .i64 (((Z 0).length:Nat):Int))),eS1 31 A0 n c0,(32, .v (.int .i64 ((n:Nat):Int))),(33, .v (.int .i64 ((k:Nat):Int))),(40, .v (.bool (((((Z k).length:Nat):Int):Int) != (((Z 0).length:Nat):Int))))] [] ?_))))
     refine xe (Zaa ?_)
     refine Zar ((((((Z k).length:Nat):Int):Int) != (((Z 0).length:Nat):Int))) (by kernel_rfl) (fun hb13=>?_) (fun hb13=>?_)
     ·have hk2:=ZcY hb13
      refine Zac (Zab (xr 1 [eS1 0 A0 n c0,(6, .v (.int .i64 4)),(7, .v (.int .i64 (((Z 0).length:Nat):Int))),eS1 31 A0 n c0,(32, .v (.int .i64 ((n:Nat):Int))),(33, .v (.int .i64 ((k:Nat):Int)))] [] ?_))
      refine xe (Zaa (Zao (ZaZ (Zag (Zag (ZaZ (Zag ?_)))))))
      refine Zak (v:=.int .i64 4) (by kernel_rfl) (fun w' S Q=>?_)
      exact ⟨_,rfl, .uneven k hpb (by omega) hz (fun e=>by cases e) hkn hk2,S⟩
     ·have hk2:=ZcZ hb13
      refine Zam (ZaN (Zaa (Zab (xr 1 [eS1 0 A0 n c0,(6, .v (.int .i64 0)),(7, .v (.int .i64 (((Z 0).length:Nat):Int))),eS1 31 A0 n c0,(32, .v (.int .i64 ((n:Nat):Int))),(33, .v (.int .i64 ((k:Nat):Int))),(41, .v (.int .i64 (IntKind.i64.wrap (((k:Nat):Int) + 1))))] [] ?_))))
      rw [ZaI (k:=k) (by omega)]
      refine xr 1 [eS1 0 A0 n c0,(6, .v (.int .i64 0)),(7, .v (.int .i64 (((Z 0).length:Nat):Int))),eS1 31 A0 n c0,(32, .v (.int .i64 ((n:Nat):Int))),(33, .v (.int .i64 ((k + 1:Nat):Int)))] [] ?_
      refine xe ?_
      refine SXq.weak [(0, .v (.slice A0 n c0)),(6, .v (.int .i64 0)),(7, .v (.int .i64 (((Z 0).length:Nat):Int))),(31, .v (.slice A0 n c0)),(32, .v (.int .i64 ((n:Nat):Int))),(33, .v (.int .i64 (((k + 1):Nat):Int)))] [] (Ψ:=fun w=>ArgI w A0 n R C Z) (Zaw.of (by kernel_rfl)) (by kernel_rfl) (fun w Q=>Q) ?_
      exact ZaB ((n - (k + 1))) (by omega) ⟨(k + 1),rfl,rfl,(by omega),(fun i hi=>by rcases Nat.lt_or_ge i k with h3 | h3; exact hev i h3; obtain rfl:i=k:=(by omega); exact hk2),rfl⟩
    ·have hkn:n≤k:=by have:=of_decide_eq_false hb12; omega
     refine ZaC (Zae (Zae (ZaO (Zaa (Zac (Zac (Zab (xr 4 [(6, .v (.int .i64 0)),(7, .v (.int .i64 (((Z 0).length:Nat):Int))),(45, .v (.bool (decide (((n:Nat):Int) > 64))))] [] ?_))))))))
     rcases bl2 ((decide (((n:Nat):Int) > 64))) with hb14 | hb14
     ·rw [hb14]
      have hl1:64 < n:=by have:=of_decide_eq_true hb14; omega
      refine xr 3 [(6, .v (.int .i64 0)),(48, .v (.bool true))] [] ?_
      refine xe (Zaa (xa (Zac (Zab (xr 1 [(6, .v (.int .i64 2))] [] ?_)))))
      refine xe (Zaa (Zao (Zag ?_)))
      refine Zak (v:=.int .i64 2) (by kernel_rfl) (fun w' S Q=>?_)
      exact ⟨_,rfl, .limit hpb (by omega) hz (fun e=>by cases e) (fun i hi=>hev i (by omega)) (Or.inl hl1),S⟩
     ·rw [hb14]
      have hl1:n≤64:=by have:=of_decide_eq_false hb14; omega
      refine xr 3 [(6, .v (.int .i64 0)),(48, .v (.bool (decide ((((Z 0).length:Nat):Int) > 64))))] [] ?_
      refine xe (Zaa ?_)
      refine Zar ((decide ((((Z 0).length:Nat):Int) > 64))) (by kernel_rfl) (fun hb15=>?_) (fun hb15=>?_)
      ·have hl2:64 < (Z 0).length:=by have:=of_decide_eq_true hb15; omega
       refine Zac (Zab (xr 1 [(6, .v (.int .i64 2))] [] ?_))
       refine xe (Zaa (Zao (Zag ?_)))
       refine Zak (v:=.int .i64 2) (by kernel_rfl) (fun w' S Q=>?_)
       exact ⟨_,rfl, .limit hpb (by omega) hz (fun e=>by cases e) (fun i hi=>hev i (by omega)) (Or.inr hl2),S⟩
      ·have hl2:(Z 0).length≤64:=by have:=of_decide_eq_false hb15; omega
       refine Zam (Zaa (Zac (Zab (xr 1 [(6, .v (.int .i64 0))] [] ?_))))
       refine xe (Zaa (Zao ?_))
       refine Zak (v:=.int .i64 0) (by kernel_rfl) (fun w' S Q=>?_)
       exact ⟨_,rfl, .ok hpb (by omega) hz (fun e=>by cases e) (fun i hi=>hev i (by omega)) hl1 hl2,S⟩
end Go.Proofs.YthlipnahcbcjkaaGreatDoor

namespace Go.Proofs.YthlipnahcbcjkaaGreatDoor
open Go.RowKit
end Go.Proofs.YthlipnahcbcjkaaGreatDoor

namespace Go.Proofs.YthlipnahcbcjkaaGreatDoor
open Go.RowKit
theorem ZnI {l:List UInt8} (hd:l.all ZaJ=true) (hl:l.length≤570):wl (Zaj l)≤30:=by
 rw [ZbB]
 have h1:=Zcd l hd
 obtain ⟨k,hk⟩:∃ k,k=30:=⟨_,rfl⟩
 have h2:10 ^ l.length≤10 ^ (19 * k):=Nat.pow_le_pow_right (by omega) (by omega)
 rw [← hk]
 rw [Nat.pow_mul] at h2
 have h3:(10 ^ 19) ^ k≤W64 ^ k:=Nat.pow_le_pow_left (by rw [Zal]; decide) k
 exact Nat.lt_of_lt_of_le h1 (Nat.le_trans h2 h3)
theorem Zd5.of_len {l:List UInt8} (h:l.length≤570):Zd5 l:=by
 refine ⟨h,fun neg num den hs _=>?_⟩
 obtain ⟨d1,d2,d3⟩:=ZdA hs
 have w1:=ZnI d1 (by omega)
 have w2:=ZnI d2 (by omega)
 have hn:(sg neg (Zaj num)).natAbs=Zaj num:=by unfold sg; split<;>omega
 exact Zdn.words (by rw [hn]; omega) (by rw [Int.natAbs_natCast]; omega)
end Go.Proofs.YthlipnahcbcjkaaGreatDoor

namespace Go.Proofs.YthlipnahcbcjkaaGreatDoor
open Go.RowKit
def Zcg (q:Rat):List UInt8:=if q.den=1 then Lib.itoa q.num else Lib.itoa q.num ++ [47] ++ Lib.itoa (q.den:Int)
set_option maxHeartbeats 2000000 in
theorem Zlr (a:Value) (q:Rat) (w:World) (hg:Glob w) (ha:ZaX w a q) (hn:Zb0 q.num.natAbs) (hd:Zb0 q.den) (h1:q.den≠1) (hl:(Lib.itoa q.num).length≤68719476736):Calls Tryz.prog 76 #[a] w (RetV w (.string ⟨(Zcg q).toArray⟩)):=by
 obtain ⟨s,t,A,B,l,c,l',c',rfl,hIn,hId⟩:=ha
 have hdf:denF q=(q.den:Int):=by unfold denF; rw [if_neg h1]
 have hd0:¬ denF q=0:=fun h=>h1 (ZdQ.1 h)
 have HM:Hid (Zcg q=Lib.itoa q.num ++ [47] ++ Lib.itoa (q.den:Int)):=by unfold Hid Zcg; rw [if_neg h1]
 rw [hdf] at hId
 have HIn:=zh hIn
 have HId:=zh hId
 have HG:=zh hg
 have HPn:=zh hn
 have HPd:Hid (Zb0 ((q.den:Int)).natAbs):=by unfold Hid; rw [Int.natAbs_natCast]; exact hd
 have hne:=Zl8 (q.den:Int)
 rw [hdf] at hd0
 generalize hm:Zcg q=m at *
 have hmne:m≠[]:=by rw [HM.out]; simp
 generalize q.num=x at *
 generalize (q.den:Int)=y at *
 clear hg hn hd h1 hIn hId hdf hm hne
 go_enter Tryz.func76,Tryz.ntmps76
 go_wp2_with fail
 generalize hwb:World.alloc w _=wb
 obtain ⟨hB0,hE0⟩:=Blk.one hwb
 clear hwb
 refine (Zdm _ y _ (HId.out.ext hE0)).mono ?_
 rw [decide_eq_false hd0]
 rintro e w1 ⟨rfl,hF1⟩
 have HB1:=zh (hB0.ext hF1)
 have HE1:=zh (hE0.trans hF1)
 obtain ⟨x0,x1,x2,x3,_,_,_,_⟩:=HB1.out.cell4
 clear hB0 hE0 hF1 hd0
 go_wp2_with fail
 refine (Zgk _ x none 0 0 [] w1 _ (Fr.refl _ _) (HG.out.ext HE1.out) (HIn.out.ext HE1.out) HPn.out rfl Buf.nil Zcb.nil (by omega)).mono ?_
 rw [List.nil_append]
 rintro e w2 ⟨A2,cap2,rfl,hT2,hF2,hA2⟩
 have hN2:Zcb w1 A2:=(Zcb.nil (w0:=w1)).next (Fr.refl _ _) hA2
 have hE2:Ext w1 w2:=(Zcb.nil (w0:=w1)).ext (Fr.refl _ _) hF2
 have HT2:=zh hT2
 have HN2:=zh hN2
 have HE2:=zh hE2
 clear hT2 hF2 hA2 hN2 hE2 x0 x1 x2 x3
 obtain ⟨n,hnl⟩:∃ n,(Lib.itoa x).length=n:=⟨_,rfl⟩
 rw [hnl] at hl ⊢
 have HNL:=zh hnl
 clear hnl
 have HS:Hid (Zan .u8 (w2.alloc (.cells #[.int .u8 47] 5)) (some ⟨w2.heap.size,0,none⟩) (nats [47])):=(Own.new w2 5 .u8 [47] []).shows0
 go_wp2_with (at_builtin; refine Hid.out ?_)
 refine zh ?_
 refine Zay rfl _ _ _ rfl _ .u8 1 Tryz.underlying196 ZdE A2 (some ⟨w2.heap.size,0,none⟩) n 1 cap2 1 rfl rfl (nats (Lib.itoa x)) (nats [47]) (by rw [ZaS]; exact HNL.out) rfl (HT2.out.ext ((Fr.refl _ _).alloc _)) HS.out (by simp only [maxLen]; omega) (by omega) ?_
 intro A3 cap3 w3 hB3 hF3 hA3
 have hE3:Ext w1 w3:=HN2.out.ext (HE2.out.alloc _) hF3
 have hN3:Zcb w1 A3:=HN2.out.next (w:=w2) HE2.out (fun b hb=>(hA3 b hb).imp id (fun h=>by simp at h; omega))
 have hT3:TBuf w3 A3 cap3 (Lib.itoa x ++ [47]):=by show Buf _ _ _ _ _ (nats (Lib.itoa x ++ [47])); rw [Zc5]; exact hB3
 have HT3:=zh hT3
 have HN3:=zh hN3
 have HE3:=zh hE3
 have HB3:=zh (HB1.out.ext hE3)
 obtain ⟨x0,x1,x2,x3,_,_,_,_⟩:=HB3.out.cell4
 clear hB3 hF3 hA3 hE3 hN3 hT3
 go_wp2_with fail
 refine (Zgk _ y A3 cap3 (n + 1) (Lib.itoa x ++ [47]) w1 _ HE3.out (HG.out.ext HE1.out) (HId.out.ext HE1.out) HPd.out (by rw [List.length_append,HNL.out]; rfl) HT3.out HN3.out (by omega)).mono ?_
 rw [← HM.out]
 rintro e w4 ⟨A4,cap4,rfl,hT4,hF4,hA4⟩
 have HE4:Hid (Ext w w4):=HE1.out.trans (HN3.out.ext HE3.out hF4)
 obtain ⟨b,rfl,hc⟩:=TBuf.bytes hT4 hmne
 have hcv:=run_convert_bytes_back (P:=Tryz.prog) w4 196 9 5 ⟨b,0,none⟩ cap4 m Tryz.underlying196 Tryz.underlying5 Tryz.underlying9 hc
 clear hT4 hF4 hA4 hc hmne x0 x1 x2 x3
 go_wp2
 go_ret
 exact ⟨rfl,HE4.out⟩
end Go.Proofs.YthlipnahcbcjkaaGreatDoor

namespace Go.Proofs.YthlipnahcbcjkaaGreatDoor
open Go.RowKit
set_option maxHeartbeats 2000000 in
theorem ZhB (a b:Value) (x y:Int) (w:World) (ha:Zah w a x) (hb:Zah w b y) (hx:Fits x) (hy:wl y.natAbs < 80) (h0:y≠0):Calls Tryz.prog 169 #[a,b] w (Za7 w (x.tdiv y)):=by
 obtain ⟨s,A,l,c,rfl⟩:=ha.shape
 obtain ⟨t,B,l',c',rfl⟩:=hb.shape
 have HA:=zh ha
 have HB:=zh hb
 have HX:=zh hx
 have HY:=zh hy
 have H0:=zh h0
 clear ha hb hx hy h0
 go_enter Tryz.func169,Tryz.ntmps169
 go_wp2_with fail
 generalize hwb:World.alloc (World.alloc (World.alloc w _) _) _=wb
 obtain ⟨hB0,hB1,hB2,Q⟩:=ZaV hwb
 clear hwb
 refine (Zbt _ y _ (HB.out.ext Q)).mono ?_
 by_cases h1:y=1
 ·rw [decide_eq_true h1]
  rintro e w1 ⟨rfl,hF⟩
  have HE:=zh (Q.trans hF)
  have HB0:=zh (hB0.ext hF)
  have HB2:=zh (hB2.ext hF)
  have HQ:Hid (x.tdiv y=x):=by unfold Hid; rw [h1]; exact Int.tdiv_one x
  obtain ⟨x0,x1,_,_⟩:=HB0.out.cell2
  obtain ⟨y0,y1,y2,y3⟩:=HB2.out.cell2
  clear Q hF hB0 hB1 hB2 h1
  go_wp2
  refine Zid rfl rfl (by omega) HE.out HB2.out (Fr.refl _ _) ?_
  rw [HQ.out]; exact HA.out.ext HE.out
 ·rw [decide_eq_false h1]
  rintro e w1 ⟨rfl,hF⟩
  have HE:=zh (Q.trans hF)
  have HB0:=zh (hB0.ext hF)
  have HB1:=zh (hB1.ext hF)
  have HB2:=zh (hB2.ext hF)
  obtain ⟨x0,x1,_,_⟩:=HB0.out.cell2
  obtain ⟨z0,z1,_,_⟩:=HB1.out.cell2
  clear Q hF hB0 hB1 hB2 h1
  go_wp2_with fail
  refine (Zf7 _ _ x y _ (HA.out.ext HE.out) (HB.out.ext HE.out) HX.out HY.out H0.out).mono ?_
  rintro e w2 ⟨u1,u2,rfl,hN1,hN2,hF1⟩
  obtain ⟨s1,A1,l1,c1,rfl⟩:=hN1.shape
  obtain ⟨s2,A2,l2,c2,rfl⟩:=hN2.shape
  have HN1:=zh hN1
  have HE2:=zh (HE.out.trans hF1)
  have HB2':=zh (HB2.out.ext hF1)
  obtain ⟨y0,y1,y2,y3⟩:=HB2'.out.cell2
  have hlt1:=HB2'.out.lt
  have hlt2:=Nat.lt_succ_of_lt hlt1
  clear hN1 hN2 hF1 x0 x1 z0 z1
  go_wp2
  have hB:=(HB2'.out.set_ 0 (.bool s1)).set_ 1 (.slice A1 l1 c1)
  refine bodyPost_ret (Zcs rfl _ _ (w.heap.size + 1 + 1) _ _ rfl ((hB.alloc _).alloc _)) rfl ⟨_,rfl,?_,(((HE2.out.setCell (Or.inr (by simp; omega)) _).setCell (Or.inr (by simp; omega)) _).alloc _).alloc _⟩
  exact (HN1.out.store2 HB2'.out).ext (((Fr.refl _ _).alloc _).alloc _)
theorem Zi9 {x y:Int} (hy:0 < y):((Int.gcd x y:Nat):Int)≠0:=by
 have:Int.gcd x y≠0:=fun h=>by rw [Int.gcd_eq_zero_iff] at h; omega
 omega
theorem Zja {x y:Int} (hy:0 < y) (h:wl y.natAbs < 80):wl (((Int.gcd x y:Nat):Int)).natAbs < 80:=by
 have h1:Int.gcd x y≤y.natAbs:=Nat.gcd_le_right _ (by omega)
 have:=Za3 h1
 rw [Int.natAbs_natCast]
 omega
theorem Zio {x y:Int} (hy:0 < y):(Rat.divInt x y).num=x.tdiv (Int.gcd x y:Int)∧((Rat.divInt x y).den:Int)=y.tdiv (Int.gcd x y:Int):=by
 have hd1:(Int.gcd x y:Int) ∣ x:=Int.gcd_dvd_left _ _
 have hd2:(Int.gcd x y:Int) ∣ y:=Int.gcd_dvd_right _ _
 rw [Rat.num_divInt,Rat.den_divInt,if_neg (by omega),Int.sign_eq_one_of_pos hy,Int.one_mul,Int.gcd_comm y x,Int.tdiv_eq_ediv_of_dvd hd1,Int.tdiv_eq_ediv_of_dvd hd2]
 refine ⟨rfl,?_⟩
 rw [Int.natCast_ediv]
 congr 1
 omega
theorem Zfi {x y:Int} (hy:0 < y) (h:((Int.gcd x y:Nat):Int)=1):(Rat.divInt x y).num=x∧((Rat.divInt x y).den:Int)=y:=by
 have:=Zio (x:=x) hy
 rwa [h,Int.tdiv_one,Int.tdiv_one] at this
theorem Zgt {x y:Int} (h:y=1):(Rat.divInt x y).num=x∧denF (Rat.divInt x y)=0:=by
 have h1:=Zfi (x:=x) (y:=y) (by omega) (by rw [h,Int.gcd_one]; rfl)
 refine ⟨h1.1,ZdQ.2 ?_⟩
 have:=h1.2
 omega
theorem Zls (a b:Value) (x y:Int) (w:World) (hgl:Glob w) (ha:Zah w a x) (hb:Zah w b y) (hfx:Fits x) (hfy:Fits y) (hgk:Zdn x y) (h80:wl y.natAbs < 80) (hy:y≠0) :
 Calls Tryz.prog 91 #[a,b] w (ZiW w (Rat.divInt x y)):=by
 obtain ⟨s0,A0,l0,c0,rfl⟩:=ha.shape
 obtain ⟨s1,A1,l1,c1,rfl⟩:=hb.shape
 refine Zbi (Φ:=fun w=>((Zah w (.agg #[.bool s0, .slice A0 l0 c0]) (x)∧Zah w (.agg #[.bool s1, .slice A1 l1 c1]) (y))∧Glob w)) Tryz.func91 rfl (by kernel_rfl) (fun w' hf=>⟨⟨ha.ext hf,hb.ext hf⟩,hgl.ext hf⟩) ?_
 refine Zac (Zab (xr 3 [(2, .p 2 0),(3, .p 3 0),(4, .p 4 0)] [bR4 4 107 false none 0 0 false none 0 0,bI2 3 105 s1 A1 l1 c1,bI2 2 105 s0 A0 l0 c0] ?_))
 refine xe (Zaa (Zac (Zac (Zab (xr 1 [(2, .p 2 0),(3, .p 3 0),(4, .p 4 0),eI2 6 s1 A1 l1 c1] [bR4 4 107 false none 0 0 false none 0 0,bI2 3 105 s1 A1 l1 c1,bI2 2 105 s0 A0 l0 c0] ?_)))))
 refine xc 141 [vI2 s1 A1 l1 c1] 7 (fun _:Unit=>.bool false) _ (fun w R Q=>(Zdm _ (y) _ Q.1.2).mono (fun _ _ h=>Zau h (by rw [decide_eq_false (p:=(y)=0) hy]))) (fun xx=>?_)
 refine xr 2 [(2, .p 2 0),(3, .p 3 0),(4, .p 4 0),(8, .v (.bool false)),eI2 9 s0 A0 l0 c0] [bR4 4 107 false none 0 0 false none 0 0,bI2 3 105 s1 A1 l1 c1,bI2 2 105 s0 A0 l0 c0] ?_
 by_cases hz10:(x)=0
 ·refine xc 141 [vI2 s0 A0 l0 c0] 10 (fun _:Unit=>.bool true) _ (fun w R Q=>(Zdm _ (x) _ Q.1.1.1).mono (fun _ _ h=>Zau h (by rw [decide_eq_true (p:=(x)=0) hz10]))) (fun xx=>?_)
  refine xr 1 [(2, .p 2 0),(3, .p 3 0),(4, .p 4 0),(11, .v (.bool true))] [bR4 4 107 false none 0 0 false none 0 0,bI2 3 105 s1 A1 l1 c1,bI2 2 105 s0 A0 l0 c0] ?_
  refine xe (Zaa (xa (Zac (Zab (xr 2 [(2, .p 2 0),(3, .p 3 0),(4, .p 4 0)] [bR4 4 107 false none 0 0 false none 0 0,bI2 3 105 s1 A1 l1 c1,bI2 2 105 s0 A0 l0 c0] ?_)))))
  refine xe (Zaa (Zao (Zag ?_)))
  refine Zak (v:=.agg #[.bool false, .slice none 0 0, .bool false, .slice none 0 0]) (by kernel_rfl) (fun w' R Q=>?_)
  exact ⟨_,rfl,by rw [hz10,Rat.zero_divInt]; exact ZaX.nil _,R⟩
 ·refine xc 141 [vI2 s0 A0 l0 c0] 10 (fun _:Unit=>.bool false) _ (fun w R Q=>(Zdm _ (x) _ Q.1.1.1).mono (fun _ _ h=>Zau h (by rw [decide_eq_false (p:=(x)=0) hz10]))) (fun xx=>?_)
  refine xr 1 [(2, .p 2 0),(3, .p 3 0),(4, .p 4 0),(11, .v (.bool false))] [bR4 4 107 false none 0 0 false none 0 0,bI2 3 105 s1 A1 l1 c1,bI2 2 105 s0 A0 l0 c0] ?_
  refine xe (Zaa (xb (Zam (Zaa (Zac (Zac (Zab (xr 1 [(2, .p 2 0),(3, .p 3 0),(4, .p 4 0),eI2 13 s1 A1 l1 c1] [bR4 4 107 false none 0 0 false none 0 0,bI2 3 105 s1 A1 l1 c1,bI2 2 105 s0 A0 l0 c0] ?_))))))))
  by_cases hs:y < 0
  ·have Hq:Rat.divInt (-(x)) (-(y))=Rat.divInt x y:=Rat.neg_divInt_neg _ _
   have HY:0 < -(y):=by omega
   have hfx':Fits (-(x)):=by unfold Fits; rw [Int.natAbs_neg]; exact hfx
   have hfy':Fits (-(y)):=by unfold Fits; rw [Int.natAbs_neg]; exact hfy
   have hgk':Zdn (-(x)) (-(y)):=by unfold Zdn; rw [Int.natAbs_neg,Int.natAbs_neg]; exact hgk
   have h80':wl (-(y)).natAbs < 80:=by rw [Int.natAbs_neg]; exact h80
   refine xc 168 [vI2 s1 A1 l1 c1] 14 (fun _:Unit=>.int .i64 (-1)) _ (fun w R Q=>(ZkN _ (y) _ Q.1.1.1.2).mono (fun _ _ h=>Zau h (by rw [Int.sign_eq_neg_one_of_neg hs]))) (fun xx=>?_)
   refine xr 1 [(2, .p 2 0),(3, .p 3 0),(4, .p 4 0),(15, .v (.bool true))] [bR4 4 107 false none 0 0 false none 0 0,bI2 3 105 s1 A1 l1 c1,bI2 2 105 s0 A0 l0 c0] ?_
   refine xe (Zaa (xa ?_))
   refine Zej 6 (by kernel_rfl) (by kernel_rfl) ZaE ?_
   refine xf 1 [(2, .p 2 0),(3, .p 3 0),(4, .p 4 0),eI2 16 s0 A0 l0 c0] [bR4 4 107 false none 0 0 false none 0 0,bI2 3 105 s1 A1 l1 c1,bI2 2 105 s0 A0 l0 c0] ?_
   refine xd 142 [vI2 s0 A0 l0 c0] 17 Zdq _ (fun w R Q=>(ZfO _ (x) _ Q.1.1.1.1.1).mono (fun _ _=>Zcl)) (fun xx=>?_)
   obtain ⟨s11,A11,l11,c11⟩:=xx
   refine xf 1 [(2, .p 2 0),(3, .p 3 0),(4, .p 4 0),eI2 17 s11 A11 l11 c11,eI2 18 s1 A1 l1 c1] [bR4 4 107 false none 0 0 false none 0 0,bI2 3 105 s1 A1 l1 c1,bI2 2 105 s0 A0 l0 c0] ?_
   refine xd 142 [vI2 s1 A1 l1 c1] 19 Zdq _ (fun w R Q=>(ZfO _ (y) _ Q.1.1.1.1.1.2).mono (fun _ _=>Zcl)) (fun xx=>?_)
   obtain ⟨s12,A12,l12,c12⟩:=xx
   refine xf 2 [(2, .p 2 0),(3, .p 3 0),(4, .p 4 0)] [bI2 3 105 s12 A12 l12 c12,bI2 2 105 s11 A11 l11 c11,bR4 4 107 false none 0 0 false none 0 0,bI2 3 105 s1 A1 l1 c1,bI2 2 105 s0 A0 l0 c0] ?_
   refine xz (xe (Zaa (Zac (Zac (Zab (xr 1 [(2, .p 2 0),(3, .p 3 0),(4, .p 4 0),eI2 20 s12 A12 l12 c12] [bI2 3 105 s12 A12 l12 c12,bI2 2 105 s11 A11 l11 c11,bR4 4 107 false none 0 0 false none 0 0] ?_))))))
   by_cases hz13:(-(y))=1
   ·refine xc 124 [vI2 s12 A12 l12 c12] 21 (fun _:Unit=>.bool true) _ (fun w R Q=>(Zbt _ (-(y)) _ Q.2).mono (fun _ _ h=>Zau h (by rw [decide_eq_true (p:=(-(y))=1) hz13]))) (fun xx=>?_)
    refine xr 0 [(2, .p 2 0),(3, .p 3 0),(4, .p 4 0),(21, .v (.bool true))] [bI2 3 105 s12 A12 l12 c12,bI2 2 105 s11 A11 l11 c11,bR4 4 107 false none 0 0 false none 0 0] ?_
    refine xe (Zaa (xa (Zac (Zab (xr 3 [(2, .p 2 0),(3, .p 3 0),(4, .p 4 0)] [bI2 3 105 s12 A12 l12 c12,bI2 2 105 s11 A11 l11 c11,bR4 4 107 s11 A11 l11 c11 false none 0 0] ?_)))))
    refine xe (Zaa (Zao (Zag ?_)))
    refine Zak (v:=.agg #[.bool s11, .slice A11 l11 c11, .bool false, .slice none 0 0]) (by kernel_rfl) (fun w' R Q=>?_)
    exact ⟨_,rfl,ZaX.of (by rw [← Hq,(Zgt hz13).1]; exact Q.1.1.2) (by rw [← Hq,(Zgt hz13).2]; exact (Zah.nil _)),R⟩
   ·refine xc 124 [vI2 s12 A12 l12 c12] 21 (fun _:Unit=>.bool false) _ (fun w R Q=>(Zbt _ (-(y)) _ Q.2).mono (fun _ _ h=>Zau h (by rw [decide_eq_false (p:=(-(y))=1) hz13]))) (fun xx=>?_)
    refine xr 0 [(2, .p 2 0),(3, .p 3 0),(4, .p 4 0),(21, .v (.bool false))] [bI2 3 105 s12 A12 l12 c12,bI2 2 105 s11 A11 l11 c11,bR4 4 107 false none 0 0 false none 0 0] ?_
    refine xe (Zaa (xb (Zam (Zaa (Zac (Zac (Zab (xr 2 [(2, .p 2 0),(3, .p 3 0),(4, .p 4 0),eI2 24 s11 A11 l11 c11,eI2 25 s12 A12 l12 c12] [bI2 3 105 s12 A12 l12 c12,bI2 2 105 s11 A11 l11 c11,bR4 4 107 false none 0 0 false none 0 0] ?_))))))))
    refine xc 90 [vI2 s11 A11 l11 c11,vI2 s12 A12 l12 c12] 26 Zdq _ (fun w R Q=>(ZeP _ _ (-(x)) (-(y)) _ Q.1.1.1.1.1.1.2 Q.1.1.2 Q.1.2 hfx' hfy' hgk').mono (fun _ _=>Zcl)) (fun xx=>?_)
    obtain ⟨s14,A14,l14,c14⟩:=xx
    refine xr 2 [(2, .p 2 0),(3, .p 3 0),(4, .p 4 0),(5, .p 5 0)] [bI2 5 105 s14 A14 l14 c14,bI2 3 105 s12 A12 l12 c12,bI2 2 105 s11 A11 l11 c11,bR4 4 107 false none 0 0 false none 0 0] ?_
    refine xe (Zaa (Zac (Zab (xr 1 [(2, .p 2 0),(3, .p 3 0),(4, .p 4 0),(5, .p 5 0),eI2 27 s14 A14 l14 c14] [bI2 5 105 s14 A14 l14 c14,bI2 3 105 s12 A12 l12 c12,bI2 2 105 s11 A11 l11 c11,bR4 4 107 false none 0 0 false none 0 0] ?_))))
    by_cases hz15:(((Int.gcd (-(x)) (-(y)):Nat):Int))=1
    ·refine xc 124 [vI2 s14 A14 l14 c14] 28 (fun _:Unit=>.bool true) _ (fun w R Q=>(Zbt _ (((Int.gcd (-(x)) (-(y)):Nat):Int)) _ Q.2).mono (fun _ _ h=>Zau h (by rw [decide_eq_true (p:=(((Int.gcd (-(x)) (-(y)):Nat):Int))=1) hz15]))) (fun xx=>?_)
     refine xr 1 [(2, .p 2 0),(3, .p 3 0),(4, .p 4 0),(5, .p 5 0),(29, .v (.bool false))] [bI2 5 105 s14 A14 l14 c14,bI2 3 105 s12 A12 l12 c12,bI2 2 105 s11 A11 l11 c11,bR4 4 107 false none 0 0 false none 0 0] ?_
     refine xe (Zaa (xb (Zam (Zaa (Zac (Zab (xr 2 [(4, .p 4 0),eI2 36 s11 A11 l11 c11,eI2 37 s12 A12 l12 c12] [bR4 4 107 false none 0 0 false none 0 0] ?_)))))))
     refine xc 75 [vI2 s11 A11 l11 c11,vI2 s12 A12 l12 c12] 38 Zca _ (fun w R Q=>(ZeL _ _ (-(x)) (-(y)) (Rat.divInt x y) _ Q.1.1.1.1.2 Q.1.1.1.2 (by rw [← Hq]; exact Zfi HY hz15)).mono (fun _ _=>Zgf)) (fun xx=>?_)
     obtain ⟨s16,A16,l16,c16,t16,B16,m16,d16⟩:=xx
     refine xr 1 [(4, .p 4 0)] [bR4 4 107 s16 A16 l16 c16 t16 B16 m16 d16] ?_
     refine xe (Zaa (Zao ?_))
     refine Zak (v:=.agg #[.bool s16, .slice A16 l16 c16, .bool t16, .slice B16 m16 d16]) (by kernel_rfl) (fun w' R Q=>?_)
     exact ⟨_,rfl,Q.2,R⟩
    ·refine xc 124 [vI2 s14 A14 l14 c14] 28 (fun _:Unit=>.bool false) _ (fun w R Q=>(Zbt _ (((Int.gcd (-(x)) (-(y)):Nat):Int)) _ Q.2).mono (fun _ _ h=>Zau h (by rw [decide_eq_false (p:=(((Int.gcd (-(x)) (-(y)):Nat):Int))=1) hz15]))) (fun xx=>?_)
     refine xr 1 [(2, .p 2 0),(3, .p 3 0),(4, .p 4 0),(5, .p 5 0),(29, .v (.bool true))] [bI2 5 105 s14 A14 l14 c14,bI2 3 105 s12 A12 l12 c12,bI2 2 105 s11 A11 l11 c11,bR4 4 107 false none 0 0 false none 0 0] ?_
     refine xe (Zaa (xa ?_))
     refine Zej 8 (by kernel_rfl) (by kernel_rfl) ZaE ?_
     refine xf 2 [(2, .p 2 0),(3, .p 3 0),(4, .p 4 0),(5, .p 5 0),eI2 30 s11 A11 l11 c11,eI2 31 s14 A14 l14 c14] [bI2 5 105 s14 A14 l14 c14,bI2 3 105 s12 A12 l12 c12,bI2 2 105 s11 A11 l11 c11,bR4 4 107 false none 0 0 false none 0 0] ?_
     refine xd 169 [vI2 s11 A11 l11 c11,vI2 s14 A14 l14 c14] 32 Zdq _ (fun w R Q=>(ZhB _ _ (-(x)) (((Int.gcd (-(x)) (-(y)):Nat):Int)) _ Q.1.1.1.1.2 Q.1.2 hfx' (Zja HY h80') (Zi9 HY)).mono (fun _ _=>Zcl)) (fun xx=>?_)
     obtain ⟨s17,A17,l17,c17⟩:=xx
     refine xf 2 [(2, .p 2 0),(3, .p 3 0),(4, .p 4 0),eI2 32 s17 A17 l17 c17,eI2 33 s12 A12 l12 c12,eI2 34 s14 A14 l14 c14] [bI2 5 105 s14 A14 l14 c14,bI2 3 105 s12 A12 l12 c12,bI2 2 105 s11 A11 l11 c11,bR4 4 107 false none 0 0 false none 0 0] ?_
     refine xd 169 [vI2 s12 A12 l12 c12,vI2 s14 A14 l14 c14] 35 Zdq _ (fun w R Q=>(ZhB _ _ (-(y)) (((Int.gcd (-(x)) (-(y)):Nat):Int)) _ Q.1.1.1.1.2 Q.1.1.2 hfy' (Zja HY h80') (Zi9 HY)).mono (fun _ _=>Zcl)) (fun xx=>?_)
     obtain ⟨s18,A18,l18,c18⟩:=xx
     refine xf 2 [(2, .p 2 0),(3, .p 3 0),(4, .p 4 0)] [bI2 3 105 s18 A18 l18 c18,bI2 2 105 s17 A17 l17 c17,bI2 5 105 s14 A14 l14 c14,bI2 3 105 s12 A12 l12 c12,bI2 2 105 s11 A11 l11 c11,bR4 4 107 false none 0 0 false none 0 0] ?_
     refine xz (xe (Zaa (Zac (Zab (xr 2 [(4, .p 4 0),eI2 36 s17 A17 l17 c17,eI2 37 s18 A18 l18 c18] [bR4 4 107 false none 0 0 false none 0 0] ?_)))))
     refine xc 75 [vI2 s17 A17 l17 c17,vI2 s18 A18 l18 c18] 38 Zca _ (fun w R Q=>(ZeL _ _ ((-(x)).tdiv (((Int.gcd (-(x)) (-(y)):Nat):Int))) ((-(y)).tdiv (((Int.gcd (-(x)) (-(y)):Nat):Int))) (Rat.divInt x y) _ Q.1.2 Q.2 (by rw [← Hq]; exact Zio HY)).mono (fun _ _=>Zgf)) (fun xx=>?_)
     obtain ⟨s19,A19,l19,c19,t19,B19,m19,d19⟩:=xx
     refine xr 1 [(4, .p 4 0)] [bR4 4 107 s19 A19 l19 c19 t19 B19 m19 d19] ?_
     refine xe (Zaa (Zao ?_))
     refine Zak (v:=.agg #[.bool s19, .slice A19 l19 c19, .bool t19, .slice B19 m19 d19]) (by kernel_rfl) (fun w' R Q=>?_)
     exact ⟨_,rfl,Q.2,R⟩
  ·have Hq:Rat.divInt (x) (y)=Rat.divInt x y:=rfl
   have HY:0 < y:=by omega
   have hfx':Fits (x):=hfx
   have hfy':Fits (y):=hfy
   have hgk':Zdn (x) (y):=hgk
   have h80':wl (y).natAbs < 80:=h80
   refine xc 168 [vI2 s1 A1 l1 c1] 14 (fun _:Unit=>.int .i64 1) _ (fun w R Q=>(ZkN _ (y) _ Q.1.1.1.2).mono (fun _ _ h=>Zau h (by rw [Int.sign_eq_one_of_pos (by omega)]))) (fun xx=>?_)
   refine xr 1 [(2, .p 2 0),(3, .p 3 0),(4, .p 4 0),(15, .v (.bool false))] [bR4 4 107 false none 0 0 false none 0 0,bI2 3 105 s1 A1 l1 c1,bI2 2 105 s0 A0 l0 c0] ?_
   refine xe (Zaa (xb (Zam (Zaa (Zac (Zac (Zab (xr 1 [(2, .p 2 0),(3, .p 3 0),(4, .p 4 0),eI2 20 s1 A1 l1 c1] [bR4 4 107 false none 0 0 false none 0 0,bI2 3 105 s1 A1 l1 c1,bI2 2 105 s0 A0 l0 c0] ?_))))))))
   by_cases hz20:(y)=1
   ·refine xc 124 [vI2 s1 A1 l1 c1] 21 (fun _:Unit=>.bool true) _ (fun w R Q=>(Zbt _ (y) _ Q.1.1.1.1.2).mono (fun _ _ h=>Zau h (by rw [decide_eq_true (p:=(y)=1) hz20]))) (fun xx=>?_)
    refine xr 0 [(2, .p 2 0),(3, .p 3 0),(4, .p 4 0),(21, .v (.bool true))] [bR4 4 107 false none 0 0 false none 0 0,bI2 3 105 s1 A1 l1 c1,bI2 2 105 s0 A0 l0 c0] ?_
    refine xe (Zaa (xa (Zac (Zab (xr 3 [(2, .p 2 0),(3, .p 3 0),(4, .p 4 0)] [bR4 4 107 s0 A0 l0 c0 false none 0 0,bI2 3 105 s1 A1 l1 c1,bI2 2 105 s0 A0 l0 c0] ?_)))))
    refine xe (Zaa (Zao (Zag ?_)))
    refine Zak (v:=.agg #[.bool s0, .slice A0 l0 c0, .bool false, .slice none 0 0]) (by kernel_rfl) (fun w' R Q=>?_)
    exact ⟨_,rfl,ZaX.of (by rw [← Hq,(Zgt hz20).1]; exact Q.1.1.1.1.1.1) (by rw [← Hq,(Zgt hz20).2]; exact (Zah.nil _)),R⟩
   ·refine xc 124 [vI2 s1 A1 l1 c1] 21 (fun _:Unit=>.bool false) _ (fun w R Q=>(Zbt _ (y) _ Q.1.1.1.1.2).mono (fun _ _ h=>Zau h (by rw [decide_eq_false (p:=(y)=1) hz20]))) (fun xx=>?_)
    refine xr 0 [(2, .p 2 0),(3, .p 3 0),(4, .p 4 0),(21, .v (.bool false))] [bR4 4 107 false none 0 0 false none 0 0,bI2 3 105 s1 A1 l1 c1,bI2 2 105 s0 A0 l0 c0] ?_
    refine xe (Zaa (xb (Zam (Zaa (Zac (Zac (Zab (xr 2 [(2, .p 2 0),(3, .p 3 0),(4, .p 4 0),eI2 24 s0 A0 l0 c0,eI2 25 s1 A1 l1 c1] [bR4 4 107 false none 0 0 false none 0 0,bI2 3 105 s1 A1 l1 c1,bI2 2 105 s0 A0 l0 c0] ?_))))))))
    refine xc 90 [vI2 s0 A0 l0 c0,vI2 s1 A1 l1 c1] 26 Zdq _ (fun w R Q=>(ZeP _ _ (x) (y) _ Q.1.1.1.1.2 Q.1.1.1.1.1.1 Q.1.1.1.1.1.2 hfx' hfy' hgk').mono (fun _ _=>Zcl)) (fun xx=>?_)
    obtain ⟨s21,A21,l21,c21⟩:=xx
    refine xr 2 [(2, .p 2 0),(3, .p 3 0),(4, .p 4 0),(5, .p 5 0)] [bI2 5 105 s21 A21 l21 c21,bR4 4 107 false none 0 0 false none 0 0,bI2 3 105 s1 A1 l1 c1,bI2 2 105 s0 A0 l0 c0] ?_
    refine xe (Zaa (Zac (Zab (xr 1 [(2, .p 2 0),(3, .p 3 0),(4, .p 4 0),(5, .p 5 0),eI2 27 s21 A21 l21 c21] [bI2 5 105 s21 A21 l21 c21,bR4 4 107 false none 0 0 false none 0 0,bI2 3 105 s1 A1 l1 c1,bI2 2 105 s0 A0 l0 c0] ?_))))
    by_cases hz22:(((Int.gcd (x) (y):Nat):Int))=1
    ·refine xc 124 [vI2 s21 A21 l21 c21] 28 (fun _:Unit=>.bool true) _ (fun w R Q=>(Zbt _ (((Int.gcd (x) (y):Nat):Int)) _ Q.2).mono (fun _ _ h=>Zau h (by rw [decide_eq_true (p:=(((Int.gcd (x) (y):Nat):Int))=1) hz22]))) (fun xx=>?_)
     refine xr 1 [(2, .p 2 0),(3, .p 3 0),(4, .p 4 0),(5, .p 5 0),(29, .v (.bool false))] [bI2 5 105 s21 A21 l21 c21,bR4 4 107 false none 0 0 false none 0 0,bI2 3 105 s1 A1 l1 c1,bI2 2 105 s0 A0 l0 c0] ?_
     refine xe (Zaa (xb (Zam (Zaa (Zac (Zab (xr 2 [(4, .p 4 0),eI2 36 s0 A0 l0 c0,eI2 37 s1 A1 l1 c1] [bR4 4 107 false none 0 0 false none 0 0] ?_)))))))
     refine xc 75 [vI2 s0 A0 l0 c0,vI2 s1 A1 l1 c1] 38 Zca _ (fun w R Q=>(ZeL _ _ (x) (y) (Rat.divInt x y) _ Q.1.1.1.1.1.1.1.1 Q.1.1.1.1.1.1.1.2 (by rw [← Hq]; exact Zfi HY hz22)).mono (fun _ _=>Zgf)) (fun xx=>?_)
     obtain ⟨s23,A23,l23,c23,t23,B23,m23,d23⟩:=xx
     refine xr 1 [(4, .p 4 0)] [bR4 4 107 s23 A23 l23 c23 t23 B23 m23 d23] ?_
     refine xe (Zaa (Zao ?_))
     refine Zak (v:=.agg #[.bool s23, .slice A23 l23 c23, .bool t23, .slice B23 m23 d23]) (by kernel_rfl) (fun w' R Q=>?_)
     exact ⟨_,rfl,Q.2,R⟩
    ·refine xc 124 [vI2 s21 A21 l21 c21] 28 (fun _:Unit=>.bool false) _ (fun w R Q=>(Zbt _ (((Int.gcd (x) (y):Nat):Int)) _ Q.2).mono (fun _ _ h=>Zau h (by rw [decide_eq_false (p:=(((Int.gcd (x) (y):Nat):Int))=1) hz22]))) (fun xx=>?_)
     refine xr 1 [(2, .p 2 0),(3, .p 3 0),(4, .p 4 0),(5, .p 5 0),(29, .v (.bool true))] [bI2 5 105 s21 A21 l21 c21,bR4 4 107 false none 0 0 false none 0 0,bI2 3 105 s1 A1 l1 c1,bI2 2 105 s0 A0 l0 c0] ?_
     refine xe (Zaa (xa ?_))
     refine Zej 8 (by kernel_rfl) (by kernel_rfl) ZaE ?_
     refine xf 2 [(2, .p 2 0),(3, .p 3 0),(4, .p 4 0),(5, .p 5 0),eI2 30 s0 A0 l0 c0,eI2 31 s21 A21 l21 c21] [bI2 5 105 s21 A21 l21 c21,bR4 4 107 false none 0 0 false none 0 0,bI2 3 105 s1 A1 l1 c1,bI2 2 105 s0 A0 l0 c0] ?_
     refine xd 169 [vI2 s0 A0 l0 c0,vI2 s21 A21 l21 c21] 32 Zdq _ (fun w R Q=>(ZhB _ _ (x) (((Int.gcd (x) (y):Nat):Int)) _ Q.1.1.1.1.1.1.1.1 Q.1.2 hfx' (Zja HY h80') (Zi9 HY)).mono (fun _ _=>Zcl)) (fun xx=>?_)
     obtain ⟨s24,A24,l24,c24⟩:=xx
     refine xf 2 [(2, .p 2 0),(3, .p 3 0),(4, .p 4 0),eI2 32 s24 A24 l24 c24,eI2 33 s1 A1 l1 c1,eI2 34 s21 A21 l21 c21] [bI2 5 105 s21 A21 l21 c21,bR4 4 107 false none 0 0 false none 0 0,bI2 3 105 s1 A1 l1 c1,bI2 2 105 s0 A0 l0 c0] ?_
     refine xd 169 [vI2 s1 A1 l1 c1,vI2 s21 A21 l21 c21] 35 Zdq _ (fun w R Q=>(ZhB _ _ (y) (((Int.gcd (x) (y):Nat):Int)) _ Q.1.1.1.1.1.1.1.1.2 Q.1.1.2 hfy' (Zja HY h80') (Zi9 HY)).mono (fun _ _=>Zcl)) (fun xx=>?_)
     obtain ⟨s25,A25,l25,c25⟩:=xx
     refine xf 2 [(2, .p 2 0),(3, .p 3 0),(4, .p 4 0)] [bI2 3 105 s25 A25 l25 c25,bI2 2 105 s24 A24 l24 c24,bI2 5 105 s21 A21 l21 c21,bR4 4 107 false none 0 0 false none 0 0,bI2 3 105 s1 A1 l1 c1,bI2 2 105 s0 A0 l0 c0] ?_
     refine xz (xe (Zaa (Zac (Zab (xr 2 [(4, .p 4 0),eI2 36 s24 A24 l24 c24,eI2 37 s25 A25 l25 c25] [bR4 4 107 false none 0 0 false none 0 0] ?_)))))
     refine xc 75 [vI2 s24 A24 l24 c24,vI2 s25 A25 l25 c25] 38 Zca _ (fun w R Q=>(ZeL _ _ ((x).tdiv (((Int.gcd (x) (y):Nat):Int))) ((y).tdiv (((Int.gcd (x) (y):Nat):Int))) (Rat.divInt x y) _ Q.1.2 Q.2 (by rw [← Hq]; exact Zio HY)).mono (fun _ _=>Zgf)) (fun xx=>?_)
     obtain ⟨s26,A26,l26,c26,t26,B26,m26,d26⟩:=xx
     refine xr 1 [(4, .p 4 0)] [bR4 4 107 s26 A26 l26 c26 t26 B26 m26 d26] ?_
     refine xe (Zaa (Zao ?_))
     refine Zak (v:=.agg #[.bool s26, .slice A26 l26 c26, .bool t26, .slice B26 m26 d26]) (by kernel_rfl) (fun w' R Q=>?_)
     exact ⟨_,rfl,Q.2,R⟩
end Go.Proofs.YthlipnahcbcjkaaGreatDoor

namespace Go.Proofs.YthlipnahcbcjkaaGreatDoor
open Go.RowKit
end Go.Proofs.YthlipnahcbcjkaaGreatDoor

namespace Go.Proofs.YthlipnahcbcjkaaGreatDoor
open Go.RowKit
theorem ZnK {l:List UInt8} {q:Rat} {k:Nat} (h:ZaG l=some q) (hl:l.length≤k) (hk:1≤k):q.num.natAbs < 10 ^ k∧q.den < 10 ^ k:=by
 unfold ZaG at h
 obtain ⟨⟨neg,num,den,ok⟩,hS⟩:∃ x,Zbw l=x:=⟨_,rfl⟩
 rw [hS] at h
 cases ok with
 | false=>cases h
 | true =>
   obtain ⟨d1,d2,d3⟩:=ZdA hS
   have hn:∀ z,(sg neg z).natAbs=z:=fun z=>by unfold sg; split<;>omega
   have w1:Zaj num < 10 ^ k:=Nat.lt_of_lt_of_le (Zcd num d1) (Nat.pow_le_pow_right (by omega) (by omega))
   have w2:Zaj den < 10 ^ k:=Nat.lt_of_lt_of_le (Zcd den d2) (Nat.pow_le_pow_right (by omega) (by omega))
   simp only [] at h
   split at h
   ·injection h with h
    subst h
    refine ⟨?_,?_⟩
    ·show (sg neg (Zaj num)).natAbs < 10 ^ k
     rw [hn]; exact w1
    ·show 1 < 10 ^ k
     exact Nat.one_lt_pow (by omega) (by omega)
   ·split at h
    ·rename_i hne hg
     injection h with h
     subst h
     have h2:=(ZiV hS).1 hne
     obtain ⟨e1,e2⟩:=ZfC (z:=sg neg (Zaj num)) h2 (by rw [hn]; exact hg)
     refine ⟨by rw [e1,hn]; exact w1,?_⟩
     have e3:(mkRat (sg neg (Zaj num)) (Zaj den)).den=Zaj den:=by
      unfold denF at e2
      split at e2<;>omega
     rw [e3]; exact w2
    ·cases h
end Go.Proofs.YthlipnahcbcjkaaGreatDoor

namespace Go.Proofs.YthlipnahcbcjkaaGreatDoor
open Go.RowKit
theorem ZpN {p b:Int} (hP:Pr p) (hb:b % p≠0):∃ v k,b * v=1 + p * k:=by
 have h2:=hP.1
 obtain ⟨P,rfl⟩:=Int.eq_ofNat_of_zero_le (show 0≤p by omega)
 have h0:=Int.emod_nonneg b (b:=(P:Int)) (by omega)
 have h1:=Int.emod_lt_of_pos b (b:=(P:Int)) (by omega)
 obtain ⟨c,hc⟩:=Int.eq_ofNat_of_zero_le h0
 have hcp:c < P:=by omega
 have hcm:c % P≠0:=by rw [Nat.mod_eq_of_lt hcp]; omega
 have h3:=Zgs hP hcm
 have h4:=Nat.div_add_mod (c * invN c P) P
 rw [h3] at h4
 have h5:=Int.mul_ediv_add_emod b P
 rw [hc] at h5
 refine ⟨(invN c P:Int),((c * invN c P / P:Nat):Int) + b / P * (invN c P:Int),?_⟩
 have h6:(P:Int) * ((c * invN c P / P:Nat):Int) + 1=(c:Int) * (invN c P:Int):=by exact_mod_cast h4
 generalize ((c * invN c P / P:Nat):Int)=m at *
 generalize (invN c P:Int)=v at *
 generalize b / (P:Int)=t at *
 grind
theorem ZnL {p a b:Int} (hP:Pr p) (hb:b % p≠0) (h:∃ m,a * b=p * m):∃ k,a=p * k:=by
 obtain ⟨v,k,hv⟩:=ZpN hP hb
 obtain ⟨m,hm⟩:=h
 exact ⟨m * v - a * k,by grind⟩
theorem ZpO {p a k:Int} (h:a=p * k):a % p=0:=by rw [h]; exact Int.mul_emod_right _ _
theorem ZpP {p a:Int} (h:a % p=0):∃ k,a=p * k:=⟨a / p,by have:=Int.mul_ediv_add_emod a p; omega⟩
theorem ZnM {p a b:Int} (hP:Pr p) (ha:a % p≠0) (hb:b % p≠0):a * b % p≠0:=fun h=>by
 obtain ⟨k,hk⟩:=ZnL hP hb (ZpP h)
 exact ha (ZpO hk)
end Go.Proofs.YthlipnahcbcjkaaGreatDoor
