/-
 My texts Small, Rat2, Reduce put together.
-/
import Derived.Test.YtbgkofgoeoiciaaGreatDoorR10
import Derived.Test.YtbgkofgoeoiciaaGreatDoorR13
import Derived.Outline
import Derived.Test.YtbgkofgoeoiciaaGreatDoorR12
set_option maxRecDepth 100000
namespace Go.Proofs.YtbgkofgoeoiciaaGreatDoor
open Go.RowKit
end Go.Proofs.YtbgkofgoeoiciaaGreatDoor

namespace Go.Proofs.YtbgkofgoeoiciaaGreatDoor
open Go.RowKit
def Zc3 (w:World) (q:Rat) (e:Ending) (w':World):Prop:=∃ v,e=.returned v∧Zap w' v q∧Ext w w'
theorem ZoF {fn:Func} {t:Tmp} {tmps:Array Value} {w w':World} {r:Nat} {s s':Bool} {A B:Option Addr} {l c l' c':Nat} {q:Rat} (hres:fn.results=#[.cell t 116]) (ht:tmps[t]? = some (.pointer (some ⟨r,0,none⟩)))
 (hB:Blk 116 w' r #[.bool s, .slice A l c, .bool s', .slice B l' c']) (hI:ZaC w' (.agg #[.bool s, .slice A l c]) q.num) (hI':ZaC w' (.agg #[.bool s', .slice B l' c']) (denF q)) (Q:Ext w w') :
 bodyPost Tryz.prog fn (Zc3 w q) .ret ⟨tmps,[]⟩ w':=by
 obtain ⟨h0,h1,h2,h4,_⟩:=hB.cell4
 exact bodyPost_ret (v:=.agg #[.bool s, .slice A l c, .bool s', .slice B l' c']) (by simp [results,hres,ht,go_sem,h0,h1,h2,h4]) rfl ⟨_,rfl,⟨_,_,_,_,_,_,_,_,rfl,hI,hI'⟩,Q⟩
theorem Zf4 {q:Rat}:denF q=0 ↔ q.den=1:=by
 unfold denF
 have:=q.den_nz
 split<;>omega
set_option maxHeartbeats 1000000 in
theorem ZdK (a b:Value) (x y:Int) (q:Rat) (w:World) (ha:ZaC w a x) (hb:ZaC w b y) (hq:q.num=x∧(q.den:Int)=y):Calls Tryz.prog 141 #[a,b] w (Zc3 w q):=by
 obtain ⟨s,A,l,c,rfl⟩:=ha.shape
 obtain ⟨t,B,l',c',rfl⟩:=hb.shape
 have HA:=zh ha
 have HB:=zh hb
 have HQ:=zh hq
 clear ha hb hq
 go_enter Tryz.func141,Tryz.ntmps141
 go_wp2_with fail
 generalize hwb:World.alloc (World.alloc (World.alloc w _) _) _=wb
 have Q:Ext w wb:=hwb ▸ (((Fr.refl _ _).alloc _).alloc _).alloc _
 have hB0:Blk 114 wb w.heap.size #[.bool s, .slice A l c]:=hwb ▸ ((Blk.new _ _ _).alloc _).alloc _
 have hB1:Blk 114 wb (w.heap.size + 1) #[.bool t, .slice B l' c']:=by
  have h:=(Blk.new (w.alloc (.cells #[.bool s, .slice A l c] 114)) 114 #[.bool t, .slice B l' c']).alloc (.cells #[.bool false, .slice none 0 0, .bool false, .slice none 0 0] 116)
  have e:(w.alloc (.cells #[.bool s, .slice A l c] 114)).heap.size=w.heap.size + 1:=by simp
  rw [e] at h
  exact hwb ▸ h
 have hB2:Blk 116 wb (w.heap.size + 1 + 1) #[.bool false, .slice none 0 0, .bool false, .slice none 0 0]:=by
  have h:=Blk.new ((w.alloc (.cells #[.bool s, .slice A l c] 114)).alloc (.cells #[.bool t, .slice B l' c'] 114)) 116 #[.bool false, .slice none 0 0, .bool false, .slice none 0 0]
  have e:((w.alloc (.cells #[.bool s, .slice A l c] 114)).alloc (.cells #[.bool t, .slice B l' c'] 114)).heap.size=w.heap.size + 1 + 1:=by simp
  rw [e] at h
  exact hwb ▸ h
 clear hwb
 refine (Zc6 _ y _ (HB.out.ext Q)).mono ?_
 by_cases h1:y=1
 ·rw [decide_eq_true h1]
  rintro e w1 ⟨rfl,hF⟩
  have HE:=zh (Q.trans hF)
  have HB0:=zh (hB0.ext hF)
  have HB2:=zh (hB2.ext hF)
  have HD:Hid (denF q=0):=Zf4.2 (by have:=HQ.out.2; omega)
  obtain ⟨x0,x1,_,_⟩:=HB0.out.cell2
  obtain ⟨y0,y1,y2,y3,y4,y5,y6,y7⟩:=HB2.out.cell4
  clear Q hF hB0 hB1 hB2 h1
  go_wp2
  refine ZoF rfl rfl (HB2.out.put4 _ _ _ _) ?_ ?_ (Fr.local_ HE.out (Fr.set4 _ _ _ _) (by omega))
  ·rw [HQ.out.1]; exact (HA.out.ext HE.out).other HB2.out ZbL (Fr.set4 _ _ _ _)
  ·rw [HD.out]; exact ZaC.zero _
 ·rw [decide_eq_false h1]
  rintro e w1 ⟨rfl,hF⟩
  have HE:=zh (Q.trans hF)
  have HB0:=zh (hB0.ext hF)
  have HB1:=zh (hB1.ext hF)
  have HB2:=zh (hB2.ext hF)
  have HD:Hid (denF q=y):=by
   have:=HQ.out.2
   unfold Hid denF; rw [if_neg (by omega)]; exact this
  obtain ⟨x0,x1,_,_⟩:=HB0.out.cell2
  obtain ⟨z0,z1,_,_⟩:=HB1.out.cell2
  obtain ⟨y0,y1,y2,y3,y4,y5,y6,y7⟩:=HB2.out.cell4
  clear Q hF hB0 hB1 hB2 h1
  go_wp2
  refine ZoF rfl rfl (HB2.out.put4 _ _ _ _) ?_ ?_ (Fr.local_ HE.out (Fr.set4 _ _ _ _) (by omega))
  ·rw [HQ.out.1]; exact (HA.out.ext HE.out).other HB2.out ZbL (Fr.set4 _ _ _ _)
  ·rw [HD.out]; exact (HB.out.ext HE.out).other HB2.out ZbL (Fr.set4 _ _ _ _)
end Go.Proofs.YtbgkofgoeoiciaaGreatDoor

namespace Go.Proofs.YtbgkofgoeoiciaaGreatDoor
open Go.RowKit
theorem Zrz {q:Rat} (h:q.den≠1):denF q=(q.den:Int):=by unfold denF; rw [if_neg h]
set_option maxHeartbeats 1000000 in
theorem Zfj (a:Value) (q:Rat) (w:World) (ha:Zap w a q):Calls Tryz.prog 140 #[a] w (Zbv w (q.den:Int)):=by
 obtain ⟨s,t,A,B,l,c,l',c',rfl,hn,hd⟩:=ha
 have HD:=zh hd
 clear hn hd
 go_enter Tryz.func140,Tryz.ntmps140
 go_wp2_with fail
 generalize hwb:World.alloc (World.alloc w _) _=wb
 have hB0:Blk 116 wb w.heap.size #[.bool s, .slice A l c, .bool t, .slice B l' c']:=hwb ▸ (Blk.new _ _ _).alloc _
 have hB1:Blk 114 wb (w.heap.size + 1) #[.bool false, .slice none 0 0]:=by
  have h:=Blk.new (w.alloc (.cells #[.bool s, .slice A l c, .bool t, .slice B l' c'] 116)) 114 #[.bool false, .slice none 0 0]
  have e:(w.alloc (.cells #[.bool s, .slice A l c, .bool t, .slice B l' c'] 116)).heap.size=w.heap.size + 1:=by simp
  rw [e,hwb] at h
  exact h
 have Q:Ext w wb:=hwb ▸ ((Fr.refl _ _).alloc _).alloc _
 clear hwb
 by_cases h1:q.den=1
 ·have hz:=Zf4.2 h1
  rw [hz] at HD
  refine (ZaS _ _ _ (HD.out.ext Q)).mono ?_
  rw [decide_eq_true rfl]
  rintro e w1 ⟨rfl,hF⟩
  have HB1:=zh (hB1.ext hF)
  have HE:=zh (Q.trans hF)
  have HQ:Hid ((q.den:Int)=1):=by unfold Hid; omega
  clear hB0 hB1 Q hF hz h1
  go_wp2_with fail
  refine (ZoE 1 _ ZeG rfl rfl).mono ?_
  rintro e w2 ⟨u2,rfl,hI2,hF2⟩
  obtain ⟨s2,B2,l2,c3,rfl⟩:=hI2.shape
  have hB2:=HB1.out.ext hF2
  obtain ⟨x0,x1,x2,x3⟩:=hB2.cell2
  have HB2:=zh hB2
  have HI2:=zh hI2
  have HE2:=zh (HE.out.trans hF2)
  clear hB2 hI2 hF2
  go_wp2
  refine ZmR rfl rfl ((HB2.out.set_ 0 _).set_ 1 _) (by rw [HQ.out]; exact HI2.out.store2 HB2.out) ((HE2.out.setCell (Or.inr (by show _≤w.heap.size + 1; omega)) _).setCell (Or.inr (by show _≤w.heap.size + 1; omega)) _)
 ·have hz:=Zrz h1
  have hne:denF q≠0:=by rw [hz]; have:=q.den_nz; omega
  refine (ZaS _ _ _ (HD.out.ext Q)).mono ?_
  rw [decide_eq_false hne]
  rintro e w1 ⟨rfl,hF⟩
  rw [hz] at HD
  have HI2:=zh (HD.out.ext (Q.trans hF))
  have HB1:=zh (hB1.ext hF)
  have HE:=zh (Q.trans hF)
  obtain ⟨y0,y1,y2,y3,y4⟩:=(hB0.ext hF).cell4
  obtain ⟨x0,x1,x2,x3⟩:=HB1.out.cell2
  clear hB0 hB1 Q hF hz h1 hne HD
  go_wp2
  exact ZmR rfl rfl ((HB1.out.set_ 0 _).set_ 1 _) (HI2.out.store2 HB1.out) ((HE.out.setCell (Or.inr (by show _≤w.heap.size + 1; omega)) _).setCell (Or.inr (by show _≤w.heap.size + 1; omega)) _)
noncomputable def valF (l:List UInt8):Rat:=(ZaH l).getD 0
end Go.Proofs.YtbgkofgoeoiciaaGreatDoor
