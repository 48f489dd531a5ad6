/-
 My texts Small, Rat2, Gen put together.
-/
import Derived.Test.YtbgkofgoeoiciaaGreatDoorT10
import Derived.Test.YtbgkofgoeoiciaaGreatDoorT13
import Derived.Outline
import Derived.Test.YtbgkofgoeoiciaaGreatDoorT11
namespace Go.Proofs.YtbgkofgoeoiciaaGreatDoor
open Go.RowKit
theorem follows_mixed:Tryz.prog.follows .mixedOrders=true:=by kernel_rfl
theorem yields_int {ops:Array Oper} {S:World→Prop} {o:Oper} {a:Act} {p:Operand} {g:Nat} {x y:Value} (hg:o.guard=none) (ho:o.op=Op.load 114 p) (hp:a.eval p=.pointer (some ⟨g,0,none⟩))
 (hc:∀ w,S w→w.cell? ⟨g,0,none⟩=some x∧w.cell? ⟨g,1,none⟩=some y):YieldsIf Tryz.prog ops S o (.agg #[x,y]) a :=
 Or.inl ⟨by unfold Region.wanted; rw [hg],fun w hS=>by
  obtain ⟨h0,h1⟩:=hc w hS
  simp only [execOp,ho,hp]
  simp [go_sem,h0,h1]⟩
theorem cmpI_negI (a b:Int):cmpI a b < 0 ↔ a < b:=by
 unfold cmpI
 split
 ·simp; omega
 ·split
  ·simp; omega
  ·simp; omega
theorem keepI2 {t t':TypeId} {w w':World} {g g':Nat} {x y x' y':Value} (h:Blk t w g #[x,y]) (h':Blk t' w g' #[x',y']) (hF:Ext w w') :
 (w'.cell? ⟨g,0,none⟩=some x∧w'.cell? ⟨g,1,none⟩=some y)∧(w'.cell? ⟨g',0,none⟩=some x'∧w'.cell? ⟨g',1,none⟩=some y') :=
 ⟨⟨(h.ext hF).cell 0,(h.ext hF).cell 1⟩,⟨(h'.ext hF).cell 0,(h'.ext hF).cell 1⟩⟩
set_option maxHeartbeats 1000000 in
theorem isSmall_any (a b:Value) (x m:Int) (w:World) (ha:IntIs w a x) (hb:IntIs w b m) (hx:wl x.natAbs < 40) (hm:Fits m):Calls Tryz.prog 238 #[a,b] w (RetV w (.bool (decide (x * x * 2 < m)))):=by
 obtain ⟨s,A,l,c,rfl⟩:=ha.shape
 obtain ⟨t,B,l',c',rfl⟩:=hb.shape
 have HA:=zh ha
 have HB:=zh hb
 have HX:=zh hx
 have HM:=zh hm
 have HXX:Hid (Fits (x * x)):=by
  have h1:=wl_mul x.natAbs x.natAbs
  unfold Hid Fits; rw [Int.natAbs_mul]; exact Nat.le_trans h1 (by omega)
 have HXY:Hid (Fits (x * x * ((2 ^ 1:Nat):Int))):=by
  have h1:=wl_mul (x * x).natAbs 2
  have h2:=wl_mul x.natAbs x.natAbs
  have h3:wl 2≤1:=wl_one.2 (by rw [W64_eq]; omega)
  rw [← Int.natAbs_mul] at h2
  unfold Hid Fits; rw [Int.natAbs_mul,Int.natAbs_natCast]; exact Nat.le_trans h1 (by omega)
 clear ha hb hx hm
 go_enter Tryz.func238,Tryz.ntmps238
 go_wp2_with fail
 generalize hwb:World.alloc (World.alloc w _) _=wb
 obtain ⟨hBx,hBy,hE⟩:=two_blocks hwb
 clear hwb
 refine wp_region_T 8 (fun w'=>(w'.cell? ⟨w.heap.size,0,none⟩=some (.bool s)∧w'.cell? ⟨w.heap.size,1,none⟩=some (.slice A l c))∧(w'.cell? ⟨w.heap.size + 1,0,none⟩=some (.bool t)∧w'.cell? ⟨w.heap.size + 1,1,none⟩=some (.slice B l' c'))) follows_mixed ?_
 refine wpT_take 0 rfl (by kernel_rfl) (fun _ _ _ h=>h) ⟨⟨hBx.cell 0,hBx.cell 1⟩,⟨hBy.cell 0,hBy.cell 1⟩⟩ (fun _=>yields_int rfl rfl rfl (fun _ h=>h.1)) (fun hS=>?_)
 refine wpT_take 1 rfl (by kernel_rfl) (fun _ _ _ h=>h) hS (fun _=>yields_int rfl rfl rfl (fun _ h=>h.1)) (fun hS=>?_)
 refine wpT_take 4 rfl (by kernel_rfl) (fun _ _ _ h=>h) hS (fun _=>yields_int rfl rfl rfl (fun _ h=>h.2)) (fun hS=>?_)
 refine wpT_only 2 rfl (by kernel_rfl) rfl (fun K hK=>?_)
 go_simp
 refine (Mul_any _ _ x x _ (HA.out.ext hE.drew) (HA.out.ext hE.drew) (by have:=HX.out; unfold Fits; omega) (by have:=HX.out; unfold Fits; omega) (Or.inl HX.out)).mono ?_
 rintro e w1 ⟨u1,rfl,hI1,hF1⟩
 obtain ⟨s1,A1,l1,c1,rfl⟩:=hI1.shape
 replace hF1:=Fr.undrew hF1
 refine hK _ _ (keepI2 hBx hBy hF1) ?_
 refine wpT_only 3 rfl (by kernel_rfl) rfl (fun K hK=>?_)
 go_simp
 refine (Shift_any _ _ 1 _ hI1 HXX.out (by omega)).mono ?_
 rintro e w2 ⟨u2,rfl,hI2,hF2⟩
 obtain ⟨s2,A2,l2,c2,rfl⟩:=hI2.shape
 refine hK _ _ (keepI2 hBx hBy (hF1.trans hF2)) ?_
 refine wpT_only 5 rfl (by kernel_rfl) rfl (fun K hK=>?_)
 go_simp
 refine (Compare_any _ _ _ m _ hI2 (HB.out.ext ((hE.trans hF1).trans hF2)) HXY.out HM.out).mono ?_
 rintro e w3 ⟨rfl,hF3⟩
 refine hK _ _ (keepI2 hBx hBy ((hF1.trans hF2).trans hF3)) ?_
 have HE3:=zh (((hE.trans hF1).trans hF2).trans hF3)
 refine wpT_only 6 rfl (by kernel_rfl) rfl (fun K hK=>?_)
 go_simp
 refine hK _ _ (keepI2 hBx hBy ((hF1.trans hF2).trans hF3)) ?_
 refine wpT_only 7 rfl (by kernel_rfl) rfl (fun K hK=>?_)
 go_simp
 refine hK _ _ (keepI2 hBx hBy ((hF1.trans hF2).trans hF3)) ?_
 refine wpT_tail (l:=[]) 8 rfl (by kernel_rfl) ?_
 have HC:Hid (decide (cmpI (x * x * ((2 ^ 1:Nat):Int)) m < 0)=decide (x * x * 2 < m)):=by
  unfold Hid
  have:=cmpI_negI (x * x * ((2 ^ 1:Nat):Int)) m
  have e:((2 ^ 1:Nat):Int)=2:=rfl
  rw [e] at this ⊢
  by_cases h:x * x * 2 < m
  ·rw [decide_eq_true h,decide_eq_true (this.2 h)]
  ·rw [decide_eq_false h,decide_eq_false (fun k=>h (this.1 k))]
 go_wp2
 go_ret
 exact ⟨by rw [← HC.out]; rfl,HE3.out⟩
end Go.Proofs.YtbgkofgoeoiciaaGreatDoor

namespace Go.Proofs.YtbgkofgoeoiciaaGreatDoor
open Go.RowKit
def IntAt (w:World) (g:Nat) (z:Int):Prop:=∃ s A l c,Blk 114 w g #[.bool s, .slice A l c]∧IntIs w (.agg #[.bool s, .slice A l c]) z
theorem IntAt.ext {w w':World} {g:Nat} {z:Int} (h:IntAt w g z) (hF:Ext w w'):IntAt w' g z:=by
 obtain ⟨s,A,l,c,h1,h2⟩:=h
 exact ⟨s,A,l,c,h1.ext hF,h2.ext hF⟩
theorem IntAt.lt {w:World} {g:Nat} {z:Int} (h:IntAt w g z):g < w.heap.size:=by
 obtain ⟨_,_,_,_,h1,_⟩:=h
 exact h1.lt
theorem IntAt.put {w:World} {g:Nat} {z z':Int} {s:Bool} {A:Option Addr} {l c:Nat} (h:IntAt w g z) (hI:IntIs w (.agg #[.bool s, .slice A l c]) z'):IntAt ((w.setCell ⟨g,0,none⟩ (.bool s)).setCell ⟨g,1,none⟩ (.slice A l c)) g z':=by
 obtain ⟨s0,A0,l0,c0,h1,_⟩:=h
 exact ⟨s,A,l,c,(h1.set_ 0 _).set_ 1 _,hI.other h1 noWords2 (Fr.set2 _ _)⟩
theorem IntAt.away {w:World} {g r:Nat} {z z0:Int} {a b:Value} (h:IntAt w g z) (hr:IntAt w r z0) (hne:g≠r):IntAt ((w.setCell ⟨r,0,none⟩ a).setCell ⟨r,1,none⟩ b) g z:=by
 obtain ⟨s,A,l,c,h1,h2⟩:=h
 obtain ⟨s0,A0,l0,c0,k1,_⟩:=hr
 exact ⟨s,A,l,c,h1.fr (Fr.set2 _ _) hne,h2.other k1 noWords2 (Fr.set2 _ _)⟩
theorem IntIs.away {w:World} {r:Nat} {v:Value} {z z0:Int} {a b:Value} (h:IntIs w v z) (hr:IntAt w r z0):IntIs ((w.setCell ⟨r,0,none⟩ a).setCell ⟨r,1,none⟩ b) v z:=by
 obtain ⟨s0,A0,l0,c0,k1,_⟩:=hr
 exact h.other k1 noWords2 (Fr.set2 _ _)
def RetRat (w:World) (q:Rat) (e:Ending) (w':World):Prop:=∃ v,e=.returned v∧RatIs w' v q∧Ext w w'
theorem fin_rat {fn:Func} {t:Tmp} {tmps:Array Value} {w w':World} {r:Nat} {s s':Bool} {A B:Option Addr} {l c l' c':Nat} {q:Rat} (hres:fn.results=#[.cell t 116]) (ht:tmps[t]? = some (.pointer (some ⟨r,0,none⟩)))
 (hB:Blk 116 w' r #[.bool s, .slice A l c, .bool s', .slice B l' c']) (hI:IntIs w' (.agg #[.bool s, .slice A l c]) q.num) (hI':IntIs w' (.agg #[.bool s', .slice B l' c']) (denF q)) (hE:Ext w w') :
 bodyPost Tryz.prog fn (RetRat w q) .ret ⟨tmps,[]⟩ w':=by
 obtain ⟨h0,h1,h2,h4,_⟩:=hB.cell4
 exact bodyPost_ret (v:=.agg #[.bool s, .slice A l c, .bool s', .slice B l' c']) (by simp [results,hres,ht,go_sem,h0,h1,h2,h4]) rfl ⟨_,rfl,⟨_,_,_,_,_,_,_,_,rfl,hI,hI'⟩,hE⟩
theorem denF_zero {q:Rat}:denF q=0 ↔ q.den=1:=by
 unfold denF
 have:=q.den_nz
 split<;>omega
set_option maxHeartbeats 1000000 in
theorem IsWhole_any (a:Value) (q:Rat) (w:World) (ha:RatIs w a q):Calls Tryz.prog 173 #[a] w (RetV w (.bool (decide (q.den=1)))):=by
 obtain ⟨s,t,A,B,l,c,l',c',rfl,hn,hd⟩:=ha
 have HD:=zh hd
 have hdc:Hid (decide (denF q=0)=decide (q.den=1)):=by
  unfold Hid
  by_cases h:q.den=1
  ·rw [decide_eq_true h,decide_eq_true (denF_zero.2 h)]
  ·rw [decide_eq_false h,decide_eq_false (fun k=>h (denF_zero.1 k))]
 clear hn hd
 go_enter Tryz.func173,Tryz.ntmps173
 go_wp2_with fail
 refine (IsZero_any _ _ _ (HD.out.ext ((Fr.refl _ _).alloc _))).mono ?_
 rw [hdc.out]
 rintro e w1 ⟨rfl,hF⟩
 have HF:=zh (((Fr.refl _ _).alloc _).trans hF:Ext w w1)
 clear hF
 go_wp2
 go_ret
 exact ⟨rfl,HF.out⟩
set_option maxHeartbeats 1000000 in
theorem Num_any (a:Value) (q:Rat) (w:World) (ha:RatIs w a q):Calls Tryz.prog 167 #[a] w (RetInt w q.num):=by
 obtain ⟨s,t,A,B,l,c,l',c',rfl,hn,hd⟩:=ha
 have HN:=zh hn
 clear hn hd
 go_enter Tryz.func167,Tryz.ntmps167
 go_wp2
 have h1:=Blk.new (w.alloc (.cells #[.bool s, .slice A l c, .bool t, .slice B l' c'] 116)) 114 #[.bool s, .slice A l c]
 have e:(w.alloc (.cells #[.bool s, .slice A l c, .bool t, .slice B l' c'] 116)).heap.size=w.heap.size + 1:=by simp
 rw [e] at h1
 exact fin_int0 rfl rfl h1 (HN.out.ext (((Fr.refl _ _).alloc _).alloc _)) (((Fr.refl _ _).alloc _).alloc _)
set_option maxHeartbeats 1000000 in
set_option maxRecDepth 100000 in
theorem lowest_any (a b:Value) (x y:Int) (q:Rat) (w:World) (ha:IntIs w a x) (hb:IntIs w b y) (hq:q.num=x∧(q.den:Int)=y):Calls Tryz.prog 141 #[a,b] w (RetRat w q):=by
 obtain ⟨s,A,l,c,rfl⟩:=ha.shape
 obtain ⟨t,B,l',c',rfl⟩:=hb.shape
 have HA:=zh ha
 have HB:=zh hb
 have HQ:=zh hq
 clear ha hb hq
 go_enter Tryz.func141,Tryz.ntmps141
 go_wp2_with fail
 generalize hwb:World.alloc (World.alloc (World.alloc w _) _) _=wb
 have hE:Ext w wb:=hwb ▸ (((Fr.refl _ _).alloc _).alloc _).alloc _
 have hB0:Blk 114 wb w.heap.size #[.bool s, .slice A l c]:=hwb ▸ ((Blk.new _ _ _).alloc _).alloc _
 have hB1:Blk 114 wb (w.heap.size + 1) #[.bool t, .slice B l' c']:=by
  have h:=(Blk.new (w.alloc (.cells #[.bool s, .slice A l c] 114)) 114 #[.bool t, .slice B l' c']).alloc (.cells #[.bool false, .slice none 0 0, .bool false, .slice none 0 0] 116)
  have e:(w.alloc (.cells #[.bool s, .slice A l c] 114)).heap.size=w.heap.size + 1:=by simp
  rw [e] at h
  exact hwb ▸ h
 have hB2:Blk 116 wb (w.heap.size + 1 + 1) #[.bool false, .slice none 0 0, .bool false, .slice none 0 0]:=by
  have h:=Blk.new ((w.alloc (.cells #[.bool s, .slice A l c] 114)).alloc (.cells #[.bool t, .slice B l' c'] 114)) 116 #[.bool false, .slice none 0 0, .bool false, .slice none 0 0]
  have e:((w.alloc (.cells #[.bool s, .slice A l c] 114)).alloc (.cells #[.bool t, .slice B l' c'] 114)).heap.size=w.heap.size + 1 + 1:=by simp
  rw [e] at h
  exact hwb ▸ h
 clear hwb
 refine (IsOne_any _ y _ (HB.out.ext hE)).mono ?_
 by_cases h1:y=1
 ·rw [decide_eq_true h1]
  rintro e w1 ⟨rfl,hF⟩
  have HE:=zh (hE.trans hF)
  have HB0:=zh (hB0.ext hF)
  have HB2:=zh (hB2.ext hF)
  have HD:Hid (denF q=0):=denF_zero.2 (by have:=HQ.out.2; omega)
  obtain ⟨x0,x1,_,_⟩:=HB0.out.cell2
  obtain ⟨y0,y1,y2,y3,y4,y5,y6,y7⟩:=HB2.out.cell4
  clear hE hF hB0 hB1 hB2 h1
  go_wp2
  refine fin_rat rfl rfl (HB2.out.put4 _ _ _ _) ?_ ?_ (Fr.local_ HE.out (Fr.set4 _ _ _ _) (by omega))
  ·rw [HQ.out.1]; exact (HA.out.ext HE.out).other HB2.out noWords4 (Fr.set4 _ _ _ _)
  ·rw [HD.out]; exact IntIs.zero _
 ·rw [decide_eq_false h1]
  rintro e w1 ⟨rfl,hF⟩
  have HE:=zh (hE.trans hF)
  have HB0:=zh (hB0.ext hF)
  have HB1:=zh (hB1.ext hF)
  have HB2:=zh (hB2.ext hF)
  have HD:Hid (denF q=y):=by
   have:=HQ.out.2
   unfold Hid denF; rw [if_neg (by omega)]; exact this
  obtain ⟨x0,x1,_,_⟩:=HB0.out.cell2
  obtain ⟨z0,z1,_,_⟩:=HB1.out.cell2
  obtain ⟨y0,y1,y2,y3,y4,y5,y6,y7⟩:=HB2.out.cell4
  clear hE hF hB0 hB1 hB2 h1
  go_wp2
  refine fin_rat rfl rfl (HB2.out.put4 _ _ _ _) ?_ ?_ (Fr.local_ HE.out (Fr.set4 _ _ _ _) (by omega))
  ·rw [HQ.out.1]; exact (HA.out.ext HE.out).other HB2.out noWords4 (Fr.set4 _ _ _ _)
  ·rw [HD.out]; exact (HB.out.ext HE.out).other HB2.out noWords4 (Fr.set4 _ _ _ _)
end Go.Proofs.YtbgkofgoeoiciaaGreatDoor

namespace Go.Proofs.YtbgkofgoeoiciaaGreatDoor
open Go.RowKit
theorem follows_mixed':Tryz.prog.follows .mixedOrders=true:=by kernel_rfl
theorem IntIs.shp {w:World} {v:Value} {z:Int} (h:IntIs w v z):∃ (s:Bool) (A:Option Addr) (l c:Nat),v=.agg #[.bool s, .slice A l c]:=h.shape
theorem IntIs.nil (w:World):IntIs w (.agg #[.bool false, .slice none 0 0]) 0:=IntIs.zero w
theorem RatIs.nil (w:World):RatIs w (.agg #[.bool false, .slice none 0 0, .bool false, .slice none 0 0]) 0:=RatIs.zero w
theorem RatIs.shp {w:World} {v:Value} {q:Rat} (h:RatIs w v q):∃ (s:Bool) (A:Option Addr) (l c:Nat) (t:Bool) (B:Option Addr) (l' c':Nat),v=.agg #[.bool s, .slice A l c, .bool t, .slice B l' c']:=by
 obtain ⟨s,t,A,B,l,c,l',c',h,_⟩:=h
 exact ⟨s,A,l,c,t,B,l',c',h⟩
theorem agg4_inj {a b c d a' b' c' d':Value} (h:Value.agg #[a,b,c,d]=.agg #[a',b',c',d']):a=a'∧b=b'∧c=c'∧d=d':=by
 injection h with h
 simpa using h
theorem RatIs.num {w:World} {a b c d:Value} {q:Rat} (h:RatIs w (.agg #[a,b,c,d]) q):IntIs w (.agg #[a,b]) q.num:=by
 obtain ⟨s,t,A,B,l,c,l',c',h,h1,h2⟩:=h
 obtain ⟨rfl,rfl,rfl,rfl⟩:=agg4_inj h
 exact h1
theorem RatIs.den {w:World} {a b c d:Value} {q:Rat} (h:RatIs w (.agg #[a,b,c,d]) q):IntIs w (.agg #[c,d]) (denF q):=by
 obtain ⟨s,t,A,B,l,c,l',c',h,h1,h2⟩:=h
 obtain ⟨rfl,rfl,rfl,rfl⟩:=agg4_inj h
 exact h2
theorem RatIs.of {w:World} {s t:Bool} {A B:Option Addr} {l c l' c':Nat} {q:Rat} (h1:IntIs w (.agg #[.bool s, .slice A l c]) q.num) (h2:IntIs w (.agg #[.bool t, .slice B l' c']) (denF q)):RatIs w (.agg #[.bool s, .slice A l c, .bool t, .slice B l' c']) q :=
 ⟨_,_,_,_,_,_,_,_,rfl,h1,h2⟩
section
variable {ops:Array Oper} {S:World→Prop} {o:Oper} {a:Act} {p:Operand} {g off:Nat} {x y z u v:Value}
end
end Go.Proofs.YtbgkofgoeoiciaaGreatDoor
