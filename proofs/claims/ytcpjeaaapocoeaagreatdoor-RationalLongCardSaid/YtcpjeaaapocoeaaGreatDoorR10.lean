/-
 My texts Int, Int2, Int3, Num4, Num5 put together.
-/
import Derived.Test.YtcpjeaaapocoeaaGreatDoorR07
import Derived.Test.YtcpjeaaapocoeaaGreatDoorR01
import Derived.Deep.RegionHeld3
set_option maxRecDepth 100000
namespace Go.Proofs.YtcpjeaaapocoeaaGreatDoor
open Go.RowKit
def Zap (w:World) (v:Value) (z:Int):Prop :=
 ∃ (neg:Bool) (u:Value) (n:Nat),v=.agg #[.bool neg,u]∧Zad w u n∧(n=0→neg=false)∧z=(if neg then -(n:Int) else (n:Int))
theorem Zap.ext {w w':World} {v:Value} {z:Int} (h:Zap w v z) (hf:Ext w w'):Zap w' v z:=by
 obtain ⟨s,u,n,h1,h2,h3⟩:=h
 exact ⟨s,u,n,h1,h2.ext hf,h3⟩
def Zbk (w:World) (z:Int) (e:Ending) (w':World):Prop:=∃ v,e=.returned v∧Zap w' v z∧Ext w w'
def Zm0 (w:World) (neg:Bool) (u:Value) (n:Nat) (e:Ending) (w':World):Prop :=
 ∃ s,e=.returned (.agg #[.bool s,u])∧Hid (s=(neg && decide (0 < n)))∧Ext w w'
def sg (neg:Bool) (n:Nat):Int:=if neg then -(n:Int) else (n:Int)
theorem Zap.signed {w:World} {neg s:Bool} {u:Value} {n:Nat} (hu:Zad w u n) (hs:s=(neg && decide (0 < n))):Zap w (.agg #[.bool s,u]) (sg neg n):=by
 subst hs
 refine ⟨_,u,n,rfl,hu,?_,?_⟩
 ·rintro rfl; simp
 ·cases neg
  ·simp [sg]
  ·rcases Nat.eq_zero_or_pos n with rfl | h
   ·simp [sg]
   ·simp [sg,h]
theorem ZcU {fn:Func} {t:Tmp} (h:fn.results=#[.cell t 135]) (tmps:Array Value) (w:World) (b:Nat) (x y:Value) (ht:tmps[t]? = some (.pointer (some ⟨b,0,none⟩)))
 (hB:Blk 135 w b #[x,y]):(results fn tmps).run Tryz.prog w=.ok (.agg #[x,y]) w:=by
 have h0:w.cell? ⟨b,0,none⟩=some x:=hB.cell 0
 have h1:w.cell? ⟨b,1,none⟩=some y:=hB.cell 1
 simp [results,h,ht,go_sem,h0,h1]
set_option maxHeartbeats 1000000 in
theorem Zbp (neg:Bool) (u:Value) (n:Nat) (w:World) (hu:Zad w u n) :
 Calls Tryz.prog 117 #[.bool neg,u] w (Zm0 w neg u n):=by
 obtain ⟨A,xs,c,rfl,hc,h1,h2,h3,h4⟩:=hu
 have hpos:Hid (decide (0 < n)=decide (0 < xs.length)):=by
  have:=ZaE h2 h3
  rw [h4] at this
  rcases Nat.eq_zero_or_pos n with e | e
  ·subst e; rw [Zcl] at this; unfold Hid; simp [this]
  ·have:=Zeq e; unfold Hid; rw [decide_eq_true e,decide_eq_true (by omega)]
 have H1:=zh h1
 have H2:=zh h2
 have H3:=zh h3
 clear h1 h2 h3 h4 hc
 cases neg with
 | false =>
   go_enter Tryz.func117,Tryz.ntmps117
   go_wp2
   refine bodyPost_ret (ZcU rfl _ _ w.heap.size _ _ rfl (Blk.new w _ _)) rfl ⟨_,rfl,?_,(Fr.refl _ _).alloc _⟩
   unfold Hid; simp
 | true =>
   go_enter Tryz.func117,Tryz.ntmps117
   go_wp2
   refine bodyPost_ret (ZcU rfl _ _ w.heap.size _ _ rfl (Blk.new w _ _)) rfl ⟨_,rfl,?_,(Fr.refl _ _).alloc _⟩
   unfold Hid; rw [hpos.out]; simp
theorem Blk.cell2 {t:TypeId} {w:World} {g:Nat} {x y:Value} (h:Blk t w g #[x,y]):w.cell? ⟨g,0,none⟩=some x∧w.cell? ⟨g,1,none⟩=some y∧w.frozen? ⟨g,0,none⟩=false∧w.frozen? ⟨g,1,none⟩=false :=
 ⟨h.cell 0,h.cell 1,h.frozen 0,h.frozen 1⟩
theorem Zds {t:TypeId} {w w':World} {g g':Nat} {x y x' y':Value} (h:Blk t w g #[x,y]) (h':Blk t w g' #[x',y']) (hF:Ext w w') :
 w'.cell? ⟨g,0,none⟩=some x∧w'.cell? ⟨g,1,none⟩=some y∧w'.cell? ⟨g',1,none⟩=some y' :=
 ⟨(h.ext hF).cell 0,(h.ext hF).cell 1,(h'.ext hF).cell 1⟩
theorem Fr.undrew {S:Nat→Prop} {w w':World} (h:Fr S w.drew w'):Fr S w w':=⟨h.os,h.tape,h.output,h.size,h.block⟩
theorem ZfC {t:TypeId} {w w':World} {g g' r:Nat} {x y x' y' a b:Value} (h:Blk t w g #[x,y]) (h':Blk t w g' #[x',y']) (hF:Ext w w') (hg:g≠r) (hg':g'≠r) :
 ((w'.setCell ⟨r,0,none⟩ a).setCell ⟨r,1,none⟩ b).cell? ⟨g,0,none⟩=some x∧((w'.setCell ⟨r,0,none⟩ a).setCell ⟨r,1,none⟩ b).cell? ⟨g,1,none⟩=some y∧((w'.setCell ⟨r,0,none⟩ a).setCell ⟨r,1,none⟩ b).cell? ⟨g',1,none⟩=some y' :=
 ⟨(((h.ext hF).far (p:=⟨r,0,none⟩) hg a).far (p:=⟨r,1,none⟩) hg b).cell 0,(((h.ext hF).far (p:=⟨r,0,none⟩) hg a).far (p:=⟨r,1,none⟩) hg b).cell 1,(((h'.ext hF).far (p:=⟨r,0,none⟩) hg' a).far (p:=⟨r,1,none⟩) hg' b).cell 1⟩
theorem Zad.slice {w:World} {v:Value} {n:Nat} (h:Zad w v n):∃ A l c,v=.slice A l c:=by
 obtain ⟨A,xs,c,h,_⟩:=h
 exact ⟨A,_,c,h⟩
theorem Za6 {t:TypeId} {w wb:World} {x y z:Array Value} (h:((w.alloc (.cells x t)).alloc (.cells y t)).alloc (.cells z t)=wb) :
 Blk t wb w.heap.size x∧Blk t wb (w.heap.size + 1) y∧Blk t wb (w.heap.size + 1 + 1) z∧Ext w wb:=by
 subst h
 have e1:(w.alloc (.cells x t)).heap.size=w.heap.size + 1:=by simp
 have e2:((w.alloc (.cells x t)).alloc (.cells y t)).heap.size=w.heap.size + 1 + 1:=by simp
 have h2:=Blk.new (w.alloc (.cells x t)) t y
 have h3:=Blk.new ((w.alloc (.cells x t)).alloc (.cells y t)) t z
 rw [e1] at h2
 rw [e2] at h3
 exact ⟨((Blk.new _ _ _).alloc _).alloc _,h2.alloc _,h3,(((Fr.refl _ _).alloc _).alloc _).alloc _⟩
theorem Zad.store2 {t:TypeId} {w:World} {r n:Nat} {u a b:Value} {s:Bool} {A:Option Addr} {l c:Nat} (h:Zad w u n) (hB:Blk t w r #[.bool s, .slice A l c]):Zad ((w.setCell ⟨r,0,none⟩ a).setCell ⟨r,1,none⟩ b) u n:=by
 obtain ⟨A',xs,c',h1,h2,h3,h4⟩:=h
 refine ⟨A',xs,c',h1,h2,?_,h4⟩
 have hF:Fr (fun i=>i=r) w ((w.setCell ⟨r,0,none⟩ a).setCell ⟨r,1,none⟩ b):=((Fr.refl (fun i=>i=r) w).setCell (p:=⟨r,0,none⟩) (Or.inl rfl) a).setCell (p:=⟨r,1,none⟩) (Or.inl rfl) b
 cases xs with
 | nil=>exact Zai.nil
 | cons x xs =>
   refine h3.fr hF (fun ad hA hlt e=>?_)
   obtain ⟨g,off,e',_,hc⟩:=h3.at (i:=0) (by simp)
   rw [e'] at hA
   injection hA with hA
   subst hA
   simp at e
   subst e
   rw [hB.cell] at hc
   rcases Nat.lt_or_ge off 2 with ho | ho
   ·rcases (by omega:off=0∨off=1) with rfl | rfl<;>simp at hc
   ·simp at hc
    rw [List.getElem?_eq_none (by simp; omega)] at hc
    cases hc
theorem ZbL {fn:Func} {t:Tmp} {tmps:Array Value} {w wb w2:World} {r n:Nat} {s neg:Bool} {A:Option Addr} {l c:Nat} {z:Int}
 (hres:fn.results=#[.cell t 135]) (ht:tmps[t]? = some (.pointer (some ⟨r,0,none⟩))) (hr:w.heap.size≤r)
 (HE:Ext w wb) (HB:Blk 135 wb r #[.bool false, .slice none 0 0]) (hF:Ext wb w2) (hN:Zad w2 (.slice A l c) n) (hs:s=(neg && decide (0 < n))) (hz:z=sg neg n) :
 bodyPost Tryz.prog fn (Zbk w z) .ret ⟨tmps,[]⟩ ((w2.setCell ⟨r,0,none⟩ (.bool s)).setCell ⟨r,1,none⟩ (.slice A l c)):=by
 have hB2:Blk 135 ((w2.setCell ⟨r,0,none⟩ (.bool s)).setCell ⟨r,1,none⟩ (.slice A l c)) r #[.bool s, .slice A l c]:=((HB.ext hF).set_ 0 _).set_ 1 _
 refine bodyPost_ret (ZcU hres _ _ r _ _ ht hB2) rfl ⟨_,rfl,?_,?_⟩
 ·subst hz
  exact Zap.signed (hN.store2 (HB.ext hF)) hs
 ·exact ((HE.trans hF).setCell (Or.inr hr) _).setCell (Or.inr hr) _
theorem Zef {t:TypeId} {w w':World} {g g':Nat} {x y x' y':Value} (h:Blk t w g #[x,y]) (h':Blk t w g' #[x',y']) (hF:Ext w w') :
 w'.cell? ⟨g,0,none⟩=some x∧w'.cell? ⟨g,1,none⟩=some y∧w'.cell? ⟨g',0,none⟩=some x'∧w'.cell? ⟨g',1,none⟩=some y' :=
 ⟨(h.ext hF).cell 0,(h.ext hF).cell 1,(h'.ext hF).cell 0,(h'.ext hF).cell 1⟩
theorem ZgG {t:TypeId} {w w':World} {g g' r:Nat} {x y x' y' a b:Value} (h:Blk t w g #[x,y]) (h':Blk t w g' #[x',y']) (hF:Ext w w') (hg:g≠r) (hg':g'≠r) :
 ((w'.setCell ⟨r,0,none⟩ a).setCell ⟨r,1,none⟩ b).cell? ⟨g,0,none⟩=some x∧((w'.setCell ⟨r,0,none⟩ a).setCell ⟨r,1,none⟩ b).cell? ⟨g,1,none⟩=some y∧((w'.setCell ⟨r,0,none⟩ a).setCell ⟨r,1,none⟩ b).cell? ⟨g',0,none⟩=some x'∧((w'.setCell ⟨r,0,none⟩ a).setCell ⟨r,1,none⟩ b).cell? ⟨g',1,none⟩=some y' :=
 ⟨(((h.ext hF).far (p:=⟨r,0,none⟩) hg a).far (p:=⟨r,1,none⟩) hg b).cell 0,(((h.ext hF).far (p:=⟨r,0,none⟩) hg a).far (p:=⟨r,1,none⟩) hg b).cell 1,(((h'.ext hF).far (p:=⟨r,0,none⟩) hg' a).far (p:=⟨r,1,none⟩) hg' b).cell 0,(((h'.ext hF).far (p:=⟨r,0,none⟩) hg' a).far (p:=⟨r,1,none⟩) hg' b).cell 1⟩
theorem Zdo {a b:Nat} (h:b≤a):0≤cmpI a b:=by
 have:=ZcK (a:=a) (b:=b); omega
theorem Zbn (u v:Value) (m n:Nat) (w:World) (hu:Zad w u m) (hv:Zad w v n) (hm:wl m≤4294967296) (hn:wl n≤4294967296) :
 Calls Tryz.prog 306 #[u,v] w fun e w'=>e=.returned (.int .i64 (cmpI m n))∧∃ n,w'=w.drewN n:=by
 obtain ⟨A,xs,c,rfl,hc,h1,h2,h3,rfl⟩:=hu
 obtain ⟨A2,ys,c2,rfl,hc2,k1,k2,k3,rfl⟩:=hv
 rw [← ZaE h2 h3] at hm
 rw [← ZaE k2 k3] at hn
 exact Zcg A A2 xs ys _ _ c c2 w rfl rfl h1 k1 (by omega) (by omega) h2 k2 h3 k3
set_option maxHeartbeats 4000000 in
theorem Zji (u v:Value) (m n k:Nat) (z:Int) (w:World) (hu:Zad w u m) (hv:Zad w v n) (hm:wl m≤4294967296) (hn:wl n≤4294967296) (hk:m + n=k) (hz:z=sg false k) :
 Calls Tryz.prog 238 #[.agg #[.bool false,u], .agg #[.bool false,v]] w (Zbk w z):=by
 have Hu:=zh hu
 have Hv:=zh hv
 have Hm:=zh hm
 have Hn:=zh hn
 have Hk:=zh hk
 have Hz:=zh hz
 clear hu hv hm hn hk hz
 go_enter Tryz.func238,Tryz.ntmps238
 go_wp2
 generalize hwb:World.alloc (World.alloc (World.alloc w _) _) _=wb
 obtain ⟨hBx,hBy,hBr,Q⟩:=Za6 hwb
 have HBx:=zh hBx
 have HBy:=zh hBy
 have HBr:=zh hBr
 have HE:=zh Q
 clear hwb hBx hBy hBr Q
 go_region_held3 (fun w'=>w'.cell? ⟨w.heap.size,0,none⟩=some (.bool false)∧w'.cell? ⟨w.heap.size,1,none⟩=some (u)∧w'.cell? ⟨w.heap.size + 1,1,none⟩=some (v))
  (first | exact Zds HBx.out HBy.out (Fr.refl _ _).drew | exact Zds HBx.out HBy.out (Fr.undrew (by assumption)) | exact ZfC HBx.out HBy.out (Fr.undrew (by assumption)) (by omega) (by omega))
  (first
   | (go_at_call 300
      refine (Zch _ _ m n _ (Hu.out.ext HE.out.drew) (Hv.out.ext HE.out.drew) Hm.out Hn.out).mono ?_
      rintro e w1 ⟨u1,rfl,hN1,hF1⟩
      rw [Hk.out] at hN1
      obtain ⟨A1,l1,c1,rfl⟩:=hN1.slice)
   | (go_at_call 117
      refine (Zbp _ _ _ _ (by assumption)).mono ?_
      rintro e w2 ⟨s2,rfl,hs2,hF2⟩
      have hF3:Ext wb.drew w2:=Fr.ext (by assumption) hF2
      obtain ⟨z0,z1,z2,z3⟩:=(HBr.out.ext (Fr.undrew hF3)).cell2))
 go_wp2
 exact ZbL rfl rfl (by omega) HE.out HBr.out (Fr.undrew hF3) (hN1.ext hF2) hs2.out Hz.out
set_option maxHeartbeats 4000000 in
theorem Zj3 (u v:Value) (m n k:Nat) (z:Int) (w:World) (hu:Zad w u m) (hv:Zad w v n) (hm:wl m≤4294967296) (hn:wl n≤4294967296) (hk:m + n=k) (hz:z=sg true k) :
 Calls Tryz.prog 238 #[.agg #[.bool true,u], .agg #[.bool true,v]] w (Zbk w z):=by
 have Hu:=zh hu
 have Hv:=zh hv
 have Hm:=zh hm
 have Hn:=zh hn
 have Hk:=zh hk
 have Hz:=zh hz
 clear hu hv hm hn hk hz
 go_enter Tryz.func238,Tryz.ntmps238
 go_wp2
 generalize hwb:World.alloc (World.alloc (World.alloc w _) _) _=wb
 obtain ⟨hBx,hBy,hBr,Q⟩:=Za6 hwb
 have HBx:=zh hBx
 have HBy:=zh hBy
 have HBr:=zh hBr
 have HE:=zh Q
 clear hwb hBx hBy hBr Q
 go_region_held3 (fun w'=>w'.cell? ⟨w.heap.size,0,none⟩=some (.bool true)∧w'.cell? ⟨w.heap.size,1,none⟩=some (u)∧w'.cell? ⟨w.heap.size + 1,1,none⟩=some (v))
  (first | exact Zds HBx.out HBy.out (Fr.refl _ _).drew | exact Zds HBx.out HBy.out (Fr.undrew (by assumption)) | exact ZfC HBx.out HBy.out (Fr.undrew (by assumption)) (by omega) (by omega))
  (first
   | (go_at_call 300
      refine (Zch _ _ m n _ (Hu.out.ext HE.out.drew) (Hv.out.ext HE.out.drew) Hm.out Hn.out).mono ?_
      rintro e w1 ⟨u1,rfl,hN1,hF1⟩
      rw [Hk.out] at hN1
      obtain ⟨A1,l1,c1,rfl⟩:=hN1.slice)
   | (go_at_call 117
      refine (Zbp _ _ _ _ (by assumption)).mono ?_
      rintro e w2 ⟨s2,rfl,hs2,hF2⟩
      have hF3:Ext wb.drew w2:=Fr.ext (by assumption) hF2
      obtain ⟨z0,z1,z2,z3⟩:=(HBr.out.ext (Fr.undrew hF3)).cell2))
 go_wp2
 exact ZbL rfl rfl (by omega) HE.out HBr.out (Fr.undrew hF3) (hN1.ext hF2) hs2.out Hz.out
set_option maxHeartbeats 4000000 in
theorem Ziz (u v:Value) (m n k:Nat) (z:Int) (w:World) (hu:Zad w u m) (hv:Zad w v n) (hm:wl m≤4294967296) (hn:wl n≤4294967296) (hmn:wl m < 40∨wl n < 40) (hk:m * n=k) (hz:z=sg false k) :
 Calls Tryz.prog 239 #[.agg #[.bool false,u], .agg #[.bool false,v]] w (Zbk w z):=by
 have Hu:=zh hu
 have Hv:=zh hv
 have Hm:=zh hm
 have Hn:=zh hn
 have Hmn:=zh hmn
 have Hk:=zh hk
 have Hz:=zh hz
 clear hu hv hm hn hmn hk hz
 go_enter Tryz.func239,Tryz.ntmps239
 go_wp2
 generalize hwb:World.alloc (World.alloc (World.alloc w _) _) _=wb
 obtain ⟨hBx,hBy,hBr,Q⟩:=Za6 hwb
 have HBx:=zh hBx
 have HBy:=zh hBy
 have HBr:=zh hBr
 have HE:=zh Q
 clear hwb hBx hBy hBr Q
 go_region_held3 (fun w'=>w'.cell? ⟨w.heap.size,0,none⟩=some (.bool false)∧w'.cell? ⟨w.heap.size,1,none⟩=some (u)∧w'.cell? ⟨w.heap.size + 1,0,none⟩=some (.bool false)∧w'.cell? ⟨w.heap.size + 1,1,none⟩=some (v))
  (first | exact Zef HBx.out HBy.out (Fr.refl _ _).drew | exact Zef HBx.out HBy.out (Fr.undrew (by assumption)) | exact ZgG HBx.out HBy.out (Fr.undrew (by assumption)) (by omega) (by omega))
  (first
   | (go_at_call 226
      refine (Zcz _ _ m n _ (Hu.out.ext HE.out.drew) (Hv.out.ext HE.out.drew) Hm.out Hn.out Hmn.out).mono ?_
      rintro e w1 ⟨u1,rfl,hN1,hF1⟩
      rw [Hk.out] at hN1
      obtain ⟨A1,l1,c1,rfl⟩:=hN1.slice)
   | (go_at_call 117
      refine (Zbp _ _ _ _ (by assumption)).mono ?_
      rintro e w2 ⟨s2,rfl,hs2,hF2⟩
      have hF3:Ext wb.drew w2:=Fr.ext (by assumption) hF2
      obtain ⟨z0,z1,z2,z3⟩:=(HBr.out.ext (Fr.undrew hF3)).cell2))
 go_wp2
 exact ZbL rfl rfl (by omega) HE.out HBr.out (Fr.undrew hF3) (hN1.ext hF2) hs2.out Hz.out
set_option maxHeartbeats 4000000 in
theorem Zjj (u v:Value) (m n k:Nat) (z:Int) (w:World) (hu:Zad w u m) (hv:Zad w v n) (hm:wl m≤4294967296) (hn:wl n≤4294967296) (hmn:wl m < 40∨wl n < 40) (hk:m * n=k) (hz:z=sg true k) :
 Calls Tryz.prog 239 #[.agg #[.bool false,u], .agg #[.bool true,v]] w (Zbk w z):=by
 have Hu:=zh hu
 have Hv:=zh hv
 have Hm:=zh hm
 have Hn:=zh hn
 have Hmn:=zh hmn
 have Hk:=zh hk
 have Hz:=zh hz
 clear hu hv hm hn hmn hk hz
 go_enter Tryz.func239,Tryz.ntmps239
 go_wp2
 generalize hwb:World.alloc (World.alloc (World.alloc w _) _) _=wb
 obtain ⟨hBx,hBy,hBr,Q⟩:=Za6 hwb
 have HBx:=zh hBx
 have HBy:=zh hBy
 have HBr:=zh hBr
 have HE:=zh Q
 clear hwb hBx hBy hBr Q
 go_region_held3 (fun w'=>w'.cell? ⟨w.heap.size,0,none⟩=some (.bool false)∧w'.cell? ⟨w.heap.size,1,none⟩=some (u)∧w'.cell? ⟨w.heap.size + 1,0,none⟩=some (.bool true)∧w'.cell? ⟨w.heap.size + 1,1,none⟩=some (v))
  (first | exact Zef HBx.out HBy.out (Fr.refl _ _).drew | exact Zef HBx.out HBy.out (Fr.undrew (by assumption)) | exact ZgG HBx.out HBy.out (Fr.undrew (by assumption)) (by omega) (by omega))
  (first
   | (go_at_call 226
      refine (Zcz _ _ m n _ (Hu.out.ext HE.out.drew) (Hv.out.ext HE.out.drew) Hm.out Hn.out Hmn.out).mono ?_
      rintro e w1 ⟨u1,rfl,hN1,hF1⟩
      rw [Hk.out] at hN1
      obtain ⟨A1,l1,c1,rfl⟩:=hN1.slice)
   | (go_at_call 117
      refine (Zbp _ _ _ _ (by assumption)).mono ?_
      rintro e w2 ⟨s2,rfl,hs2,hF2⟩
      have hF3:Ext wb.drew w2:=Fr.ext (by assumption) hF2
      obtain ⟨z0,z1,z2,z3⟩:=(HBr.out.ext (Fr.undrew hF3)).cell2))
 go_wp2
 exact ZbL rfl rfl (by omega) HE.out HBr.out (Fr.undrew hF3) (hN1.ext hF2) hs2.out Hz.out
set_option maxHeartbeats 4000000 in
theorem Zjk (u v:Value) (m n k:Nat) (z:Int) (w:World) (hu:Zad w u m) (hv:Zad w v n) (hm:wl m≤4294967296) (hn:wl n≤4294967296) (hmn:wl m < 40∨wl n < 40) (hk:m * n=k) (hz:z=sg true k) :
 Calls Tryz.prog 239 #[.agg #[.bool true,u], .agg #[.bool false,v]] w (Zbk w z):=by
 have Hu:=zh hu
 have Hv:=zh hv
 have Hm:=zh hm
 have Hn:=zh hn
 have Hmn:=zh hmn
 have Hk:=zh hk
 have Hz:=zh hz
 clear hu hv hm hn hmn hk hz
 go_enter Tryz.func239,Tryz.ntmps239
 go_wp2
 generalize hwb:World.alloc (World.alloc (World.alloc w _) _) _=wb
 obtain ⟨hBx,hBy,hBr,Q⟩:=Za6 hwb
 have HBx:=zh hBx
 have HBy:=zh hBy
 have HBr:=zh hBr
 have HE:=zh Q
 clear hwb hBx hBy hBr Q
 go_region_held3 (fun w'=>w'.cell? ⟨w.heap.size,0,none⟩=some (.bool true)∧w'.cell? ⟨w.heap.size,1,none⟩=some (u)∧w'.cell? ⟨w.heap.size + 1,0,none⟩=some (.bool false)∧w'.cell? ⟨w.heap.size + 1,1,none⟩=some (v))
  (first | exact Zef HBx.out HBy.out (Fr.refl _ _).drew | exact Zef HBx.out HBy.out (Fr.undrew (by assumption)) | exact ZgG HBx.out HBy.out (Fr.undrew (by assumption)) (by omega) (by omega))
  (first
   | (go_at_call 226
      refine (Zcz _ _ m n _ (Hu.out.ext HE.out.drew) (Hv.out.ext HE.out.drew) Hm.out Hn.out Hmn.out).mono ?_
      rintro e w1 ⟨u1,rfl,hN1,hF1⟩
      rw [Hk.out] at hN1
      obtain ⟨A1,l1,c1,rfl⟩:=hN1.slice)
   | (go_at_call 117
      refine (Zbp _ _ _ _ (by assumption)).mono ?_
      rintro e w2 ⟨s2,rfl,hs2,hF2⟩
      have hF3:Ext wb.drew w2:=Fr.ext (by assumption) hF2
      obtain ⟨z0,z1,z2,z3⟩:=(HBr.out.ext (Fr.undrew hF3)).cell2))
 go_wp2
 exact ZbL rfl rfl (by omega) HE.out HBr.out (Fr.undrew hF3) (hN1.ext hF2) hs2.out Hz.out
set_option maxHeartbeats 4000000 in
theorem Zj4 (u v:Value) (m n k:Nat) (z:Int) (w:World) (hu:Zad w u m) (hv:Zad w v n) (hm:wl m≤4294967296) (hn:wl n≤4294967296) (hmn:wl m < 40∨wl n < 40) (hk:m * n=k) (hz:z=sg false k) :
 Calls Tryz.prog 239 #[.agg #[.bool true,u], .agg #[.bool true,v]] w (Zbk w z):=by
 have Hu:=zh hu
 have Hv:=zh hv
 have Hm:=zh hm
 have Hn:=zh hn
 have Hmn:=zh hmn
 have Hk:=zh hk
 have Hz:=zh hz
 clear hu hv hm hn hmn hk hz
 go_enter Tryz.func239,Tryz.ntmps239
 go_wp2
 generalize hwb:World.alloc (World.alloc (World.alloc w _) _) _=wb
 obtain ⟨hBx,hBy,hBr,Q⟩:=Za6 hwb
 have HBx:=zh hBx
 have HBy:=zh hBy
 have HBr:=zh hBr
 have HE:=zh Q
 clear hwb hBx hBy hBr Q
 go_region_held3 (fun w'=>w'.cell? ⟨w.heap.size,0,none⟩=some (.bool true)∧w'.cell? ⟨w.heap.size,1,none⟩=some (u)∧w'.cell? ⟨w.heap.size + 1,0,none⟩=some (.bool true)∧w'.cell? ⟨w.heap.size + 1,1,none⟩=some (v))
  (first | exact Zef HBx.out HBy.out (Fr.refl _ _).drew | exact Zef HBx.out HBy.out (Fr.undrew (by assumption)) | exact ZgG HBx.out HBy.out (Fr.undrew (by assumption)) (by omega) (by omega))
  (first
   | (go_at_call 226
      refine (Zcz _ _ m n _ (Hu.out.ext HE.out.drew) (Hv.out.ext HE.out.drew) Hm.out Hn.out Hmn.out).mono ?_
      rintro e w1 ⟨u1,rfl,hN1,hF1⟩
      rw [Hk.out] at hN1
      obtain ⟨A1,l1,c1,rfl⟩:=hN1.slice)
   | (go_at_call 117
      refine (Zbp _ _ _ _ (by assumption)).mono ?_
      rintro e w2 ⟨s2,rfl,hs2,hF2⟩
      have hF3:Ext wb.drew w2:=Fr.ext (by assumption) hF2
      obtain ⟨z0,z1,z2,z3⟩:=(HBr.out.ext (Fr.undrew hF3)).cell2))
 go_wp2
 exact ZbL rfl rfl (by omega) HE.out HBr.out (Fr.undrew hF3) (hN1.ext hF2) hs2.out Hz.out
set_option maxHeartbeats 4000000 in
theorem Zhx (u v:Value) (m n k:Nat) (z:Int) (w:World) (hu:Zad w u m) (hv:Zad w v n) (hm:wl m≤4294967296) (hn:wl n≤4294967296) (hle:n≤m) (hk:m - n=k) (hz:z=sg false k) :
 Calls Tryz.prog 238 #[.agg #[.bool false,u], .agg #[.bool true,v]] w (Zbk w z):=by
 have Hu:=zh hu
 have Hv:=zh hv
 have Hm:=zh hm
 have Hn:=zh hn
 have Hle:=zh hle
 have Hk:=zh hk
 have Hz:=zh hz
 clear hu hv hm hn hle hk hz
 go_enter Tryz.func238,Tryz.ntmps238
 go_wp2_with fail
 generalize hwb:World.alloc (World.alloc (World.alloc w _) _) _=wb
 obtain ⟨hBx,hBy,hBr,Q⟩:=Za6 hwb
 have HBx:=zh hBx
 have HBy:=zh hBy
 have HBr:=zh hBr
 have HE:=zh Q
 clear hwb hBx hBy hBr Q
 have cc1:=HBx.out.cell2.2.1
 have cc2:=HBy.out.cell2.2.1
 go_wp2_with fail
 clear cc1 cc2
 refine (Zbn u v m n _ (Hu.out.ext HE.out) (Hv.out.ext HE.out) Hm.out Hn.out).mono ?_
 rintro e w' ⟨rfl,nd,hw'⟩
 obtain ⟨q,hq⟩:∃ q,cmpI m n=q:=⟨_,rfl⟩
 have hq0:(0:Int)≤q:=by rw [← hq]; exact Zdo Hle.out
 rw [hq]
 replace HBx:=zh (show Blk _ w' _ _ from hw' ▸ HBx.out.drewN nd)
 replace HBy:=zh (show Blk _ w' _ _ from hw' ▸ HBy.out.drewN nd)
 replace HBr:=zh (show Blk _ w' _ _ from hw' ▸ HBr.out.drewN nd)
 replace HE:=zh (show Ext w w' from hw' ▸ HE.out.drewN nd)
 clear hw' hq
 clear wb
 obtain ⟨wb,ewb⟩:∃ wb,w'=wb:=⟨_,rfl⟩
 subst ewb
 go_wp2_with fail
 go_region_held3 (fun w'=>w'.cell? ⟨w.heap.size,0,none⟩=some (.bool false)∧w'.cell? ⟨w.heap.size,1,none⟩=some (u)∧w'.cell? ⟨w.heap.size + 1,1,none⟩=some (v))
  (first | exact Zds HBx.out HBy.out (Fr.refl _ _).drew | exact Zds HBx.out HBy.out (Fr.undrew (by assumption)) | exact ZfC HBx.out HBy.out (Fr.undrew (by assumption)) (by omega) (by omega))
  (first
   | (go_at_call 301
      refine (Zbh _ _ m n _ (Hu.out.ext HE.out.drew) (Hv.out.ext HE.out.drew) Hm.out (by have:=Hle.out; omega)).mono ?_
      rintro e w1 ⟨u1,rfl,hN1,hF1⟩
      rw [Hk.out] at hN1
      obtain ⟨A1,l1,c1,rfl⟩:=hN1.slice)
   | (go_at_call 117
      refine (Zbp _ _ _ _ (by assumption)).mono ?_
      rintro e w2 ⟨s2,rfl,hs2,hF2⟩
      have hF3:Ext w'.drew w2:=Fr.ext (by assumption) hF2
      obtain ⟨z0,z1,z2,z3⟩:=(HBr.out.ext (Fr.undrew hF3)).cell2))
 go_wp2
 exact ZbL rfl rfl (by omega) HE.out HBr.out (Fr.undrew hF3) (hN1.ext hF2) hs2.out Hz.out
set_option maxHeartbeats 4000000 in
theorem Zhy (u v:Value) (m n k:Nat) (z:Int) (w:World) (hu:Zad w u m) (hv:Zad w v n) (hm:wl m≤4294967296) (hn:wl n≤4294967296) (hle:m < n) (hk:n - m=k) (hz:z=sg true k) :
 Calls Tryz.prog 238 #[.agg #[.bool false,u], .agg #[.bool true,v]] w (Zbk w z):=by
 have Hu:=zh hu
 have Hv:=zh hv
 have Hm:=zh hm
 have Hn:=zh hn
 have Hle:=zh hle
 have Hk:=zh hk
 have Hz:=zh hz
 clear hu hv hm hn hle hk hz
 go_enter Tryz.func238,Tryz.ntmps238
 go_wp2_with fail
 generalize hwb:World.alloc (World.alloc (World.alloc w _) _) _=wb
 obtain ⟨hBx,hBy,hBr,Q⟩:=Za6 hwb
 have HBx:=zh hBx
 have HBy:=zh hBy
 have HBr:=zh hBr
 have HE:=zh Q
 clear hwb hBx hBy hBr Q
 have cc1:=HBx.out.cell2.2.1
 have cc2:=HBy.out.cell2.2.1
 go_wp2_with fail
 clear cc1 cc2
 refine (Zbn u v m n _ (Hu.out.ext HE.out) (Hv.out.ext HE.out) Hm.out Hn.out).mono ?_
 rintro e w' ⟨rfl,nd,hw'⟩
 obtain ⟨q,hq⟩:∃ q,cmpI m n=q:=⟨_,rfl⟩
 have hq0:q < 0:=by rw [← hq]; exact ZcK.2 Hle.out
 rw [hq]
 replace HBx:=zh (show Blk _ w' _ _ from hw' ▸ HBx.out.drewN nd)
 replace HBy:=zh (show Blk _ w' _ _ from hw' ▸ HBy.out.drewN nd)
 replace HBr:=zh (show Blk _ w' _ _ from hw' ▸ HBr.out.drewN nd)
 replace HE:=zh (show Ext w w' from hw' ▸ HE.out.drewN nd)
 clear hw' hq
 clear wb
 obtain ⟨wb,ewb⟩:∃ wb,w'=wb:=⟨_,rfl⟩
 subst ewb
 go_wp2_with fail
 go_region_held3 (fun w'=>w'.cell? ⟨w.heap.size + 1,0,none⟩=some (.bool true)∧w'.cell? ⟨w.heap.size + 1,1,none⟩=some (v)∧w'.cell? ⟨w.heap.size,1,none⟩=some (u))
  (first | exact Zds HBy.out HBx.out (Fr.refl _ _).drew | exact Zds HBy.out HBx.out (Fr.undrew (by assumption)) | exact ZfC HBy.out HBx.out (Fr.undrew (by assumption)) (by omega) (by omega))
  (first
   | (go_at_call 301
      refine (Zbh _ _ n m _ (Hv.out.ext HE.out.drew) (Hu.out.ext HE.out.drew) Hn.out (by have:=Hle.out; omega)).mono ?_
      rintro e w1 ⟨u1,rfl,hN1,hF1⟩
      rw [Hk.out] at hN1
      obtain ⟨A1,l1,c1,rfl⟩:=hN1.slice)
   | (go_at_call 117
      refine (Zbp _ _ _ _ (by assumption)).mono ?_
      rintro e w2 ⟨s2,rfl,hs2,hF2⟩
      have hF3:Ext w'.drew w2:=Fr.ext (by assumption) hF2
      obtain ⟨z0,z1,z2,z3⟩:=(HBr.out.ext (Fr.undrew hF3)).cell2))
 go_wp2
 exact ZbL rfl rfl (by omega) HE.out HBr.out (Fr.undrew hF3) (hN1.ext hF2) hs2.out Hz.out
set_option maxHeartbeats 4000000 in
theorem Zh0 (u v:Value) (m n k:Nat) (z:Int) (w:World) (hu:Zad w u m) (hv:Zad w v n) (hm:wl m≤4294967296) (hn:wl n≤4294967296) (hle:n≤m) (hk:m - n=k) (hz:z=sg true k) :
 Calls Tryz.prog 238 #[.agg #[.bool true,u], .agg #[.bool false,v]] w (Zbk w z):=by
 have Hu:=zh hu
 have Hv:=zh hv
 have Hm:=zh hm
 have Hn:=zh hn
 have Hle:=zh hle
 have Hk:=zh hk
 have Hz:=zh hz
 clear hu hv hm hn hle hk hz
 go_enter Tryz.func238,Tryz.ntmps238
 go_wp2_with fail
 generalize hwb:World.alloc (World.alloc (World.alloc w _) _) _=wb
 obtain ⟨hBx,hBy,hBr,Q⟩:=Za6 hwb
 have HBx:=zh hBx
 have HBy:=zh hBy
 have HBr:=zh hBr
 have HE:=zh Q
 clear hwb hBx hBy hBr Q
 have cc1:=HBx.out.cell2.2.1
 have cc2:=HBy.out.cell2.2.1
 go_wp2_with fail
 clear cc1 cc2
 refine (Zbn u v m n _ (Hu.out.ext HE.out) (Hv.out.ext HE.out) Hm.out Hn.out).mono ?_
 rintro e w' ⟨rfl,nd,hw'⟩
 obtain ⟨q,hq⟩:∃ q,cmpI m n=q:=⟨_,rfl⟩
 have hq0:(0:Int)≤q:=by rw [← hq]; exact Zdo Hle.out
 rw [hq]
 replace HBx:=zh (show Blk _ w' _ _ from hw' ▸ HBx.out.drewN nd)
 replace HBy:=zh (show Blk _ w' _ _ from hw' ▸ HBy.out.drewN nd)
 replace HBr:=zh (show Blk _ w' _ _ from hw' ▸ HBr.out.drewN nd)
 replace HE:=zh (show Ext w w' from hw' ▸ HE.out.drewN nd)
 clear hw' hq
 clear wb
 obtain ⟨wb,ewb⟩:∃ wb,w'=wb:=⟨_,rfl⟩
 subst ewb
 go_wp2_with fail
 go_region_held3 (fun w'=>w'.cell? ⟨w.heap.size,0,none⟩=some (.bool true)∧w'.cell? ⟨w.heap.size,1,none⟩=some (u)∧w'.cell? ⟨w.heap.size + 1,1,none⟩=some (v))
  (first | exact Zds HBx.out HBy.out (Fr.refl _ _).drew | exact Zds HBx.out HBy.out (Fr.undrew (by assumption)) | exact ZfC HBx.out HBy.out (Fr.undrew (by assumption)) (by omega) (by omega))
  (first
   | (go_at_call 301
      refine (Zbh _ _ m n _ (Hu.out.ext HE.out.drew) (Hv.out.ext HE.out.drew) Hm.out (by have:=Hle.out; omega)).mono ?_
      rintro e w1 ⟨u1,rfl,hN1,hF1⟩
      rw [Hk.out] at hN1
      obtain ⟨A1,l1,c1,rfl⟩:=hN1.slice)
   | (go_at_call 117
      refine (Zbp _ _ _ _ (by assumption)).mono ?_
      rintro e w2 ⟨s2,rfl,hs2,hF2⟩
      have hF3:Ext w'.drew w2:=Fr.ext (by assumption) hF2
      obtain ⟨z0,z1,z2,z3⟩:=(HBr.out.ext (Fr.undrew hF3)).cell2))
 go_wp2
 exact ZbL rfl rfl (by omega) HE.out HBr.out (Fr.undrew hF3) (hN1.ext hF2) hs2.out Hz.out
set_option maxHeartbeats 4000000 in
theorem Zh1 (u v:Value) (m n k:Nat) (z:Int) (w:World) (hu:Zad w u m) (hv:Zad w v n) (hm:wl m≤4294967296) (hn:wl n≤4294967296) (hle:m < n) (hk:n - m=k) (hz:z=sg false k) :
 Calls Tryz.prog 238 #[.agg #[.bool true,u], .agg #[.bool false,v]] w (Zbk w z):=by
 have Hu:=zh hu
 have Hv:=zh hv
 have Hm:=zh hm
 have Hn:=zh hn
 have Hle:=zh hle
 have Hk:=zh hk
 have Hz:=zh hz
 clear hu hv hm hn hle hk hz
 go_enter Tryz.func238,Tryz.ntmps238
 go_wp2_with fail
 generalize hwb:World.alloc (World.alloc (World.alloc w _) _) _=wb
 obtain ⟨hBx,hBy,hBr,Q⟩:=Za6 hwb
 have HBx:=zh hBx
 have HBy:=zh hBy
 have HBr:=zh hBr
 have HE:=zh Q
 clear hwb hBx hBy hBr Q
 have cc1:=HBx.out.cell2.2.1
 have cc2:=HBy.out.cell2.2.1
 go_wp2_with fail
 clear cc1 cc2
 refine (Zbn u v m n _ (Hu.out.ext HE.out) (Hv.out.ext HE.out) Hm.out Hn.out).mono ?_
 rintro e w' ⟨rfl,nd,hw'⟩
 obtain ⟨q,hq⟩:∃ q,cmpI m n=q:=⟨_,rfl⟩
 have hq0:q < 0:=by rw [← hq]; exact ZcK.2 Hle.out
 rw [hq]
 replace HBx:=zh (show Blk _ w' _ _ from hw' ▸ HBx.out.drewN nd)
 replace HBy:=zh (show Blk _ w' _ _ from hw' ▸ HBy.out.drewN nd)
 replace HBr:=zh (show Blk _ w' _ _ from hw' ▸ HBr.out.drewN nd)
 replace HE:=zh (show Ext w w' from hw' ▸ HE.out.drewN nd)
 clear hw' hq
 clear wb
 obtain ⟨wb,ewb⟩:∃ wb,w'=wb:=⟨_,rfl⟩
 subst ewb
 go_wp2_with fail
 go_region_held3 (fun w'=>w'.cell? ⟨w.heap.size + 1,0,none⟩=some (.bool false)∧w'.cell? ⟨w.heap.size + 1,1,none⟩=some (v)∧w'.cell? ⟨w.heap.size,1,none⟩=some (u))
  (first | exact Zds HBy.out HBx.out (Fr.refl _ _).drew | exact Zds HBy.out HBx.out (Fr.undrew (by assumption)) | exact ZfC HBy.out HBx.out (Fr.undrew (by assumption)) (by omega) (by omega))
  (first
   | (go_at_call 301
      refine (Zbh _ _ n m _ (Hv.out.ext HE.out.drew) (Hu.out.ext HE.out.drew) Hn.out (by have:=Hle.out; omega)).mono ?_
      rintro e w1 ⟨u1,rfl,hN1,hF1⟩
      rw [Hk.out] at hN1
      obtain ⟨A1,l1,c1,rfl⟩:=hN1.slice)
   | (go_at_call 117
      refine (Zbp _ _ _ _ (by assumption)).mono ?_
      rintro e w2 ⟨s2,rfl,hs2,hF2⟩
      have hF3:Ext w'.drew w2:=Fr.ext (by assumption) hF2
      obtain ⟨z0,z1,z2,z3⟩:=(HBr.out.ext (Fr.undrew hF3)).cell2))
 go_wp2
 exact ZbL rfl rfl (by omega) HE.out HBr.out (Fr.undrew hF3) (hN1.ext hF2) hs2.out Hz.out
end Go.Proofs.YtcpjeaaapocoeaaGreatDoor

namespace Go.Proofs.YtcpjeaaapocoeaaGreatDoor
open Go.RowKit
theorem Zap.open {w:World} {v:Value} {z:Int} (h:Zap w v z):∃ (s:Bool) (A:Option Addr) (l c:Nat),v=.agg #[.bool s, .slice A l c]∧Zad w (.slice A l c) z.natAbs∧z=sg s z.natAbs∧(z=0→s=false):=by
 obtain ⟨s,u,n,h1,h2,h3,h4⟩:=h
 obtain ⟨A,l,c,rfl⟩:=h2.slice
 have hn:z.natAbs=n:=by cases s<;>simp at h4<;>omega
 refine ⟨s,A,l,c,h1,hn ▸ h2,?_,?_⟩
 ·rw [hn]; exact h4
 ·intro hz; exact h3 (by omega)
def Fits (z:Int):Prop:=wl z.natAbs≤1048576
theorem Zhi (a b:Value) (x y:Int) (w:World) (ha:Zap w a x) (hb:Zap w b y) (hx:Fits x) (hy:Fits y):Calls Tryz.prog 238 #[a,b] w (Zbk w (x + y)):=by
 obtain ⟨s,A,l,c,rfl,hN,hz,h0⟩:=ha.open
 obtain ⟨t,A',l',c',rfl,hN',hz',h0'⟩:=hb.open
 unfold Fits at hx hy
 cases s<;>cases t<;>simp only [sg,if_true,if_false,Bool.false_eq_true] at hz hz'
 ·exact Zji _ _ _ _ _ _ w hN hN' (by omega) (by omega) rfl (by simp [sg]; omega)
 ·rcases Nat.lt_or_ge x.natAbs y.natAbs with h | h
  ·exact Zhy _ _ _ _ _ _ w hN hN' (by omega) (by omega) h rfl (by simp [sg]; omega)
  ·exact Zhx _ _ _ _ _ _ w hN hN' (by omega) (by omega) h rfl (by simp [sg]; omega)
 ·rcases Nat.lt_or_ge x.natAbs y.natAbs with h | h
  ·exact Zh1 _ _ _ _ _ _ w hN hN' (by omega) (by omega) h rfl (by simp [sg]; omega)
  ·exact Zh0 _ _ _ _ _ _ w hN hN' (by omega) (by omega) h rfl (by simp [sg]; omega)
 ·exact Zj3 _ _ _ _ _ _ w hN hN' (by omega) (by omega) rfl (by simp [sg]; omega)
theorem Za7 (a b:Value) (x y:Int) (w:World) (ha:Zap w a x) (hb:Zap w b y) (hx:Fits x) (hy:Fits y) (h40:wl x.natAbs < 40∨wl y.natAbs < 40):Calls Tryz.prog 239 #[a,b] w (Zbk w (x * y)):=by
 obtain ⟨s,A,l,c,rfl,hN,hz,h0⟩:=ha.open
 obtain ⟨t,A',l',c',rfl,hN',hz',h0'⟩:=hb.open
 unfold Fits at hx hy
 generalize x.natAbs=m at *
 generalize y.natAbs=n at *
 subst hz hz'
 cases s<;>cases t
 ·exact Ziz _ _ _ _ _ _ w hN hN' (by omega) (by omega) h40 rfl (by simp [sg])
 ·exact Zjj _ _ _ _ _ _ w hN hN' (by omega) (by omega) h40 rfl (by simp [sg,Int.mul_neg])
 ·exact Zjk _ _ _ _ _ _ w hN hN' (by omega) (by omega) h40 rfl (by simp [sg,Int.neg_mul])
 ·exact Zj4 _ _ _ _ _ _ w hN hN' (by omega) (by omega) h40 rfl (by simp [sg,Int.neg_mul,Int.mul_neg])
theorem ZfU {t:TypeId} {w wb:World} {x y:Array Value} (h:(w.alloc (.cells x t)).alloc (.cells y t)=wb):Blk t wb w.heap.size x∧Blk t wb (w.heap.size + 1) y∧Ext w wb:=by
 subst h
 have e1:(w.alloc (.cells x t)).heap.size=w.heap.size + 1:=by simp
 have h2:=Blk.new (w.alloc (.cells x t)) t y
 rw [e1] at h2
 exact ⟨(Blk.new _ _ _).alloc _,h2,((Fr.refl _ _).alloc _).alloc _⟩
theorem ZkC {fn:Func} {t:Tmp} {tmps:Array Value} {w w':World} {r:Nat} {s:Bool} {u:Value} {z:Int}
 (hres:fn.results=#[.cell t 135]) (ht:tmps[t]? = some (.pointer (some ⟨r,0,none⟩))) (hB:Blk 135 w' r #[.bool s,u]) (hI:Zap w' (.agg #[.bool s,u]) z) (Q:Ext w w') :
 bodyPost Tryz.prog fn (Zbk w z) .ret ⟨tmps,[]⟩ w' :=
 bodyPost_ret (ZcU hres _ _ r _ _ ht hB) rfl ⟨_,rfl,hI,Q⟩
set_option maxHeartbeats 1000000 in
theorem Zd2 (a:Value) (x:Int) (w:World) (ha:Zap w a x):Calls Tryz.prog 56 #[a] w (Zbk w (-x)):=by
 obtain ⟨s,A,l,c,rfl,hN,hz,h0⟩:=ha.open
 have HN:=zh hN
 have Hz:=zh hz
 have H0:=zh h0
 clear hN hz h0 ha
 go_enter Tryz.func56,Tryz.ntmps56
 go_wp2_with fail
 generalize hwb:World.alloc (World.alloc w _) _=wb
 obtain ⟨hBx,hBr,Q⟩:=ZfU hwb
 have HBr:=zh hBr
 have HE:=zh Q
 clear hwb hBx hBr Q
 refine (Zbp _ _ _ _ (HN.out.ext HE.out)).mono ?_
 rintro e w2 ⟨s2,rfl,hs2,hF2⟩
 obtain ⟨z0,z1,z2,z3⟩:=(HBr.out.ext hF2).cell2
 have HF2:=zh hF2
 clear hF2
 go_wp2
 refine ZbL rfl rfl (by omega) HE.out HBr.out HF2.out (HN.out.ext (HE.out.trans HF2.out)) hs2.out ?_
 have:=Hz.out
 cases s<;>simp [sg] at this ⊢<;>omega
def RetV (w:World) (v:Value) (e:Ending) (w':World):Prop:=e=.returned v∧Ext w w'
theorem Zad.len0 {w:World} {A:Option Addr} {l c n:Nat} (h:Zad w (.slice A l c) n):l=wl n:=by
 obtain ⟨A',xs,c',e,hc,h1,h2,h3,rfl⟩:=h
 injection e with e1 e2 e3
 rw [e2]; exact ZaE h2 h3
theorem Zft {n:Nat}:wl n=0 ↔ n=0:=by
 constructor
 ·intro h; rcases Nat.eq_zero_or_pos n with e | e
  ·exact e
  ·have:=Zeq e; omega
 ·rintro rfl; rfl
set_option maxHeartbeats 1000000 in
theorem Zau (a:Value) (x:Int) (w:World) (ha:Zap w a x):Calls Tryz.prog 55 #[a] w (RetV w (.bool (decide (x=0)))):=by
 obtain ⟨s,A,l,c,rfl,hN,hz,h0⟩:=ha.open
 have hl:=hN.len0
 have hd:Hid (decide (x=0)=((l:Int) == 0)):=by
  unfold Hid
  rw [Bool.eq_iff_iff]
  simp
  rw [hl,Zft]
  omega
 clear hN hz h0 ha hl
 go_enter Tryz.func55,Tryz.ntmps55
 go_wp2
 go_ret
 exact ⟨by rw [hd.out]; rfl,(Fr.refl _ _).alloc _⟩
set_option maxHeartbeats 1000000 in
theorem Zdx (a:Value) (x:Int) (w:World) (ha:Zap w a x):Calls Tryz.prog 119 #[a] w (RetV w (.int .i64 x.sign)):=by
 obtain ⟨s,A,l,c,rfl,hN,hz,h0⟩:=ha.open
 have hl:=hN.len0
 by_cases hx:x=0
 ·subst hx
  obtain rfl:l=0:=by rw [hl]; rfl
  clear hN hz h0 ha hl
  go_enter Tryz.func119,Tryz.ntmps119
  go_wp2
  go_ret
  exact ⟨rfl,(Fr.refl _ _).alloc _⟩
 ·have hl0:((l:Int) == 0)=false:=by
   have:l≠0:=by rw [hl]; intro e; rw [Zft] at e; omega
   simp; exact this
  have hs:Hid (x.sign=if s then -1 else 1):=by
   unfold Hid
   cases s<;>simp only [sg,if_true,if_false,Bool.false_eq_true] at hz ⊢
   ·have h:0 < x:=by omega
    exact Int.sign_eq_one_of_pos h
   ·have h:x < 0:=by omega
    exact Int.sign_eq_neg_one_of_neg h
  clear hN hz h0 ha hl hx
  cases s
  all_goals
   go_enter Tryz.func119,Tryz.ntmps119
   go_wp2
   go_ret
   exact ⟨by rw [hs.out]; rfl,(Fr.refl _ _).alloc _⟩
set_option maxHeartbeats 1000000 in
theorem Za9 (a:Value) (x:Int) (w:World) (ha:Zap w a x):Calls Tryz.prog 120 #[a] w (RetV w (.bool (decide (x=1)))):=by
 obtain ⟨s,A,l,c,rfl,hN,hz,h0⟩:=ha.open
 have hl:=hN.len0
 cases s with
 | true =>
   have hx:Hid (decide (x=1)=false):=by unfold Hid; simp [sg] at hz; simp; omega
   clear hN hz h0 ha hl
   go_enter Tryz.func120,Tryz.ntmps120
   go_wp2
   go_ret
   exact ⟨by rw [hx.out]; rfl,(Fr.refl _ _).alloc _⟩
 | false =>
   by_cases h1:l=1
   ·subst h1
    obtain ⟨A',xs,c',e,hc,g1,g2,g3,g4⟩:=hN
    injection e with e1 e2 e3
    subst e1 e3
    obtain ⟨x0,rfl⟩:∃ x0,xs=[x0]:=by match xs,e2 with | [y],_=>exact ⟨y,rfl⟩
    simp at g4
    obtain ⟨b,off,rfl,hb,hc0⟩:=g1.at (i:=0) (by simp)
    simp at hc0
    have hne:=Nat.ne_of_lt hb
    have hx:Hid (decide (x=1)=((x0:Int) == 1)):=by
     unfold Hid; rw [Bool.eq_iff_iff]; simp; simp [sg] at hz; omega
    clear hz h0 ha hl g1 g2 g3 g4 e2 hc
    go_enter Tryz.func120,Tryz.ntmps120
    go_wp2
    go_ret
    exact ⟨by rw [hx.out]; rfl,(Fr.refl _ _).alloc _⟩
   ·have hl1:((l:Int) == 1)=false:=by simp; omega
    have hx:Hid (decide (x=1)=false):=by
     unfold Hid
     rw [decide_eq_false_iff_not]
     rintro rfl
     apply h1
     rw [hl]
     rfl
    clear hN hz h0 ha hl h1
    go_enter Tryz.func120,Tryz.ntmps120
    go_wp2
    go_ret
    exact ⟨by rw [hx.out]; rfl,(Fr.refl _ _).alloc _⟩
theorem Zm1 (a b:Nat):cmpI (-(b:Int)) (-(a:Int))=cmpI a b:=by
 unfold cmpI; congr 1
 ·simp
 ·congr 1; simp
set_option maxHeartbeats 2000000 in
theorem ZaP (a b:Value) (x y:Int) (w:World) (ha:Zap w a x) (hb:Zap w b y) (hx:Fits x) (hy:Fits y):Calls Tryz.prog 244 #[a,b] w (RetV w (.int .i64 (cmpI x y))):=by
 obtain ⟨s,A,l,c,rfl,hN,hz,h0⟩:=ha.open
 obtain ⟨t,A',l',c',rfl,hN',hz',h0'⟩:=hb.open
 unfold Fits at hx hy
 have HN:=zh hN
 have HN':=zh hN'
 have Hx:=zh hx
 have Hy:=zh hy
 cases s<;>cases t<;>simp only [sg,if_true,if_false,Bool.false_eq_true] at hz hz'
 ·have hr:Hid (cmpI x y=cmpI (x.natAbs:Int) (y.natAbs:Int)):=by unfold Hid; rw [← hz,← hz']
  clear hN hN' hz hz' h0 h0' ha hb hx hy
  go_enter Tryz.func244,Tryz.ntmps244
  go_wp2_with fail
  refine (Zbn _ _ x.natAbs y.natAbs _ (HN.out.ext (((Fr.refl _ _).alloc _).alloc _)) (HN'.out.ext (((Fr.refl _ _).alloc _).alloc _)) (by have:=Hx.out; omega) (by have:=Hy.out; omega)).mono ?_
  rintro e w' ⟨rfl,nd,rfl⟩
  go_wp2
  go_ret
  exact ⟨by rw [hr.out]; rfl,(((Fr.refl _ _).alloc _).alloc _).drewN _⟩
 ·have hr:Hid (cmpI x y=1):=Zfz (by have:y≠0:=(fun e=>by simp [e] at h0'); omega)
  clear hN hN' hz hz' h0 h0' ha hb hx hy
  go_enter Tryz.func244,Tryz.ntmps244
  go_wp2
  go_ret
  exact ⟨by rw [hr.out]; rfl,(((Fr.refl _ _).alloc _).alloc _)⟩
 ·have hr:Hid (cmpI x y = -1):=ZeI (by have:x≠0:=(fun e=>by simp [e] at h0); omega)
  clear hN hN' hz hz' h0 h0' ha hb hx hy
  go_enter Tryz.func244,Tryz.ntmps244
  go_wp2
  go_ret
  exact ⟨by rw [hr.out]; rfl,(((Fr.refl _ _).alloc _).alloc _)⟩
 ·have hr:Hid (cmpI x y=cmpI (y.natAbs:Int) (x.natAbs:Int)):=by unfold Hid; rw [← Zm1,← hz,← hz']
  clear hN hN' hz hz' h0 h0' ha hb hx hy
  go_enter Tryz.func244,Tryz.ntmps244
  go_wp2_with fail
  refine (Zbn _ _ y.natAbs x.natAbs _ (HN'.out.ext (((Fr.refl _ _).alloc _).alloc _)) (HN.out.ext (((Fr.refl _ _).alloc _).alloc _)) (by have:=Hy.out; omega) (by have:=Hx.out; omega)).mono ?_
  rintro e w' ⟨rfl,nd,rfl⟩
  go_wp2
  go_ret
  exact ⟨by rw [hr.out]; rfl,(((Fr.refl _ _).alloc _).alloc _).drewN _⟩
end Go.Proofs.YtcpjeaaapocoeaaGreatDoor

namespace Go.Proofs.YtcpjeaaapocoeaaGreatDoor
open Go.RowKit
theorem Zap.shape {w:World} {v:Value} {z:Int} (h:Zap w v z):∃ (s:Bool) (A:Option Addr) (l c:Nat),v=.agg #[.bool s, .slice A l c]:=by
 obtain ⟨s,A,l,c,h,_⟩:=h.open
 exact ⟨s,A,l,c,h⟩
theorem Zap.store2 {t:TypeId} {w:World} {r:Nat} {v a b:Value} {z:Int} {s:Bool} {A:Option Addr} {l c:Nat} (h:Zap w v z) (hB:Blk t w r #[.bool s, .slice A l c]):Zap ((w.setCell ⟨r,0,none⟩ a).setCell ⟨r,1,none⟩ b) v z:=by
 obtain ⟨s',u,n,h1,h2,h3⟩:=h
 exact ⟨s',u,n,h1,h2.store2 hB,h3⟩
theorem ZnO {fn:Func} {t:Tmp} {tmps:Array Value} {w wb w2:World} {r:Nat} {s s0:Bool} {A A0:Option Addr} {l c l0 c0:Nat} {z:Int}
 (hres:fn.results=#[.cell t 135]) (ht:tmps[t]? = some (.pointer (some ⟨r,0,none⟩))) (hr:w.heap.size≤r)
 (HE:Ext w wb) (HB:Blk 135 wb r #[.bool s0, .slice A0 l0 c0]) (hF:Ext wb w2) (hI:Zap w2 (.agg #[.bool s, .slice A l c]) z) :
 bodyPost Tryz.prog fn (Zbk w z) .ret ⟨tmps,[]⟩ ((w2.setCell ⟨r,0,none⟩ (.bool s)).setCell ⟨r,1,none⟩ (.slice A l c)):=by
 have hB2:Blk 135 ((w2.setCell ⟨r,0,none⟩ (.bool s)).setCell ⟨r,1,none⟩ (.slice A l c)) r #[.bool s, .slice A l c]:=((HB.ext hF).set_ 0 _).set_ 1 _
 exact bodyPost_ret (ZcU hres _ _ r _ _ ht hB2) rfl ⟨_,rfl,hI.store2 (HB.ext hF),((HE.trans hF).setCell (Or.inr hr) _).setCell (Or.inr hr) _⟩
def ZlN (w:World) (p q:Int) (e:Ending) (w':World):Prop:=∃ u v,e=.returned (.tuple #[u,v])∧Zap w' u p∧Zap w' v q∧Ext w w'
theorem ZkD {fn:Func} {t t':Tmp} (h:fn.results=#[.cell t 135, .cell t' 135]) (tmps:Array Value) (w:World) (b b':Nat) (x y x' y':Value) (ht:tmps[t]? = some (.pointer (some ⟨b,0,none⟩))) (ht':tmps[t']? = some (.pointer (some ⟨b',0,none⟩)))
 (hB:Blk 135 w b #[x,y]) (hB':Blk 135 w b' #[x',y']):(results fn tmps).run Tryz.prog w=.ok (.tuple #[.agg #[x,y], .agg #[x',y']]) w:=by
 have h0:w.cell? ⟨b,0,none⟩=some x:=hB.cell 0
 have h1:w.cell? ⟨b,1,none⟩=some y:=hB.cell 1
 have h0':w.cell? ⟨b',0,none⟩=some x':=hB'.cell 0
 have h1':w.cell? ⟨b',1,none⟩=some y':=hB'.cell 1
 simp [results,h,ht,ht',go_sem,h0,h1,h0',h1']
theorem Zlr {t:TypeId} {w wb:World} {x y z u:Array Value} (h:(((w.alloc (.cells x t)).alloc (.cells y t)).alloc (.cells z t)).alloc (.cells u t)=wb) :
 Blk t wb w.heap.size x∧Blk t wb (w.heap.size + 1) y∧Blk t wb (w.heap.size + 1 + 1) z∧Blk t wb (w.heap.size + 1 + 1 + 1) u∧Ext w wb:=by
 obtain ⟨h1,h2,h3,h4⟩:=Za6 (t:=t) (w:=w) (x:=x) (y:=y) (z:=z) rfl
 subst h
 have e2:(((w.alloc (.cells x t)).alloc (.cells y t)).alloc (.cells z t)).heap.size=w.heap.size + 1 + 1 + 1:=by simp
 have h5:=Blk.new (((w.alloc (.cells x t)).alloc (.cells y t)).alloc (.cells z t)) t u
 rw [e2] at h5
 exact ⟨h1.alloc _,h2.alloc _,h3.alloc _,h5,h4.alloc _⟩
theorem ZoJ (s t:Bool) (m n:Nat):(sg s m).tdiv (sg t n)=sg (s != t) (m / n):=by
 cases s<;>cases t<;>simp [sg,Int.neg_tdiv,Int.tdiv_neg]
theorem ZoK (s t:Bool) (m n:Nat):(sg s m).tmod (sg t n)=sg s (m % n):=by
 cases s<;>cases t<;>simp [sg,Int.neg_tmod,Int.tmod_neg,Int.tmod_eq_emod_of_nonneg]
theorem ZoL {t:TypeId} {w w':World} {g g' r q:Nat} {x y x' y' a b a' b':Value} (h:Blk t w g #[x,y]) (h':Blk t w g' #[x',y']) (hF:Ext w w') (hg:g≠r) (hg':g'≠r) (kg:g≠q) (kg':g'≠q) :
 ((((w'.setCell ⟨r,0,none⟩ a).setCell ⟨r,1,none⟩ b).setCell ⟨q,0,none⟩ a').setCell ⟨q,1,none⟩ b').cell? ⟨g,0,none⟩=some x∧((((w'.setCell ⟨r,0,none⟩ a).setCell ⟨r,1,none⟩ b).setCell ⟨q,0,none⟩ a').setCell ⟨q,1,none⟩ b').cell? ⟨g,1,none⟩=some y∧((((w'.setCell ⟨r,0,none⟩ a).setCell ⟨r,1,none⟩ b).setCell ⟨q,0,none⟩ a').setCell ⟨q,1,none⟩ b').cell? ⟨g',0,none⟩=some x'∧((((w'.setCell ⟨r,0,none⟩ a).setCell ⟨r,1,none⟩ b).setCell ⟨q,0,none⟩ a').setCell ⟨q,1,none⟩ b').cell? ⟨g',1,none⟩=some y':=by
 have h1:=((((h.ext hF).far (p:=⟨r,0,none⟩) hg a).far (p:=⟨r,1,none⟩) hg b).far (p:=⟨q,0,none⟩) kg a').far (p:=⟨q,1,none⟩) kg b'
 have h2:=((((h'.ext hF).far (p:=⟨r,0,none⟩) hg' a).far (p:=⟨r,1,none⟩) hg' b).far (p:=⟨q,0,none⟩) kg' a').far (p:=⟨q,1,none⟩) kg' b'
 exact ⟨h1.cell 0,h1.cell 1,h2.cell 0,h2.cell 1⟩
theorem ZnP {fn:Func} {t t':Tmp} {tmps:Array Value} {w wb w2:World} {r q m n:Nat} {s s' neg neg':Bool} {A A':Option Addr} {l c l' c':Nat} {z z':Int}
 (hres:fn.results=#[.cell t 135, .cell t' 135]) (ht:tmps[t]? = some (.pointer (some ⟨r,0,none⟩))) (ht':tmps[t']? = some (.pointer (some ⟨q,0,none⟩))) (hr:w.heap.size≤r) (hq:w.heap.size≤q) (hne:r≠q)
 (HE:Ext w wb) (HB:Blk 135 wb r #[.bool false, .slice none 0 0]) (HB':Blk 135 wb q #[.bool false, .slice none 0 0]) (hF:Ext wb w2) (hN:Zad w2 (.slice A l c) m) (hN':Zad w2 (.slice A' l' c') n)
 (hs:s=(neg && decide (0 < m))) (hs':s'=(neg' && decide (0 < n))) (hz:z=sg neg m) (hz':z'=sg neg' n) :
 bodyPost Tryz.prog fn (ZlN w z z') .ret ⟨tmps,[]⟩ ((((w2.setCell ⟨r,0,none⟩ (.bool s)).setCell ⟨r,1,none⟩ (.slice A l c)).setCell ⟨q,0,none⟩ (.bool s')).setCell ⟨q,1,none⟩ (.slice A' l' c')):=by
 have hB2:=((((HB.ext hF).set_ 0 (.bool s)).set_ 1 (.slice A l c)).far (p:=⟨q,0,none⟩) hne (.bool s')).far (p:=⟨q,1,none⟩) hne (.slice A' l' c')
 have hB1:=((HB'.ext hF).far (p:=⟨r,0,none⟩) (Ne.symm hne) (.bool s)).far (p:=⟨r,1,none⟩) (Ne.symm hne) (.slice A l c)
 have hB3:=(hB1.set_ 0 (.bool s')).set_ 1 (.slice A' l' c')
 refine bodyPost_ret (ZkD hres _ _ r q _ _ _ _ ht ht' hB2 hB3) rfl ⟨_,_,rfl,?_,?_,?_⟩
 ·subst hz
  exact Zap.signed ((hN.store2 (HB.ext hF)).store2 hB1) hs
 ·subst hz'
  exact Zap.signed ((hN'.store2 (HB.ext hF)).store2 hB1) hs'
 ·exact ((((HE.trans hF).setCell (Or.inr hr) _).setCell (Or.inr hr) _).setCell (Or.inr hq) _).setCell (Or.inr hq) _
set_option maxHeartbeats 4000000 in
theorem Zmc (a b:Value) (x y:Int) (w:World) (ha:Zap w a x) (hb:Zap w b y) (hx:Fits x) (hy:wl y.natAbs < 80) (h0:y≠0):Calls Tryz.prog 230 #[a,b] w (ZlN w (x.tdiv y) (x.tmod y)):=by
 obtain ⟨s,A,l,c,rfl,hN,hz,z0⟩:=ha.open
 obtain ⟨t,A',l',c',rfl,hN',hz',z0'⟩:=hb.open
 have hl:=hN'.len0
 have HN:=zh hN
 have HN':=zh hN'
 have Hx:Hid (wl x.natAbs≤4294967296):=by unfold Fits at hx; unfold Hid; omega
 have Hy:=zh hy
 have H0:Hid (0 < y.natAbs):=by unfold Hid; omega
 have hl0:((l':Int) == 0)=false:=by
  have:l'≠0:=by rw [hl]; intro e; rw [Zft] at e; omega
  simp; exact this
 have HQ:Hid (x.tdiv y=sg (s != t) (x.natAbs / y.natAbs)∧x.tmod y=sg s (x.natAbs % y.natAbs)):=by
  unfold Hid
  constructor
  ·conv=>lhs; rw [hz,hz']
   exact ZoJ _ _ _ _
  ·conv=>lhs; rw [hz,hz']
   exact ZoK _ _ _ _
 obtain ⟨p,ep⟩:∃ p,x.tdiv y=p:=⟨_,rfl⟩
 obtain ⟨q,eq⟩:∃ q,x.tmod y=q:=⟨_,rfl⟩
 obtain ⟨d,ed⟩:∃ d,x.natAbs / y.natAbs=d:=⟨_,rfl⟩
 obtain ⟨r,er⟩:∃ r,x.natAbs % y.natAbs=r:=⟨_,rfl⟩
 rw [ep,eq,ed,er] at HQ
 rw [ep,eq]
 have Ed:=zh ed
 have Er:=zh er
 clear ha hb hx hy hN hN' hz hz' z0 z0' hl h0 ep eq ed er
 go_enter Tryz.func230,Tryz.ntmps230
 go_wp2_with fail
 generalize hwb:World.alloc (World.alloc (World.alloc (World.alloc w _) _) _) _=wb
 obtain ⟨hBx,hBy,hBr,hBq,Q⟩:=Zlr hwb
 have HBx:=zh hBx
 have HBy:=zh hBy
 have HBr:=zh hBr
 have HBq:=zh hBq
 have HE:=zh Q
 clear hwb hBx hBy hBr hBq Q
 refine (ZdO _ _ _ _ _ (HN.out.ext HE.out) (HN'.out.ext HE.out) Hx.out Hy.out H0.out).mono ?_
 rintro e w1 ⟨u1,u2,rfl,hN1,hN2,hF1⟩
 rw [Ed.out] at hN1
 rw [Er.out] at hN2
 obtain ⟨A1,l1,c1,rfl⟩:=hN1.slice
 obtain ⟨A2,l2,c2,rfl⟩:=hN2.slice
 replace HBx:=zh (HBx.out.ext hF1)
 replace HBy:=zh (HBy.out.ext hF1)
 replace HBr:=zh (HBr.out.ext hF1)
 replace HBq:=zh (HBq.out.ext hF1)
 replace HE:=zh (HE.out.trans hF1)
 have HN1:=zh hN1
 have HN2:=zh hN2
 clear hN1 hN2 hF1
 go_wp2_with fail
 go_region_held3 (fun w'=>w'.cell? ⟨w.heap.size,0,none⟩=some (.bool s)∧w'.cell? ⟨w.heap.size,1,none⟩=some (.slice A l c)∧w'.cell? ⟨w.heap.size + 1,0,none⟩=some (.bool t)∧w'.cell? ⟨w.heap.size + 1,1,none⟩=some (.slice A' l' c'))
  (first | exact Zef HBx.out HBy.out (Fr.refl _ _).drew | exact Zef HBx.out HBy.out (Fr.undrew hF3) | exact ZgG HBx.out HBy.out (Fr.undrew hF3) (by omega) (by omega) | exact ZoL HBx.out HBy.out (Fr.undrew hF3) (by omega) (by omega) (by omega) (by omega))
  (first
   | (go_at_call 117
      refine (Zbp _ _ d _ (by first | exact HN1.out | exact HN1.out.ext (Fr.undrew (by assumption)))).mono ?_
      rintro e w2 ⟨s2,rfl,hs2,hF2⟩
      have hF3:Ext w1.drew w2:=by first | exact hF2 | exact Fr.ext (by assumption) hF2
      obtain ⟨z0,z1,z2,z3⟩:=(HBr.out.ext (Fr.undrew hF3)).cell2
      obtain ⟨y0,y1,y2,y3⟩:=(HBq.out.ext (Fr.undrew hF3)).cell2)
   | (go_at_call 117
      refine (Zbp _ _ r _ (by first | exact HN2.out | exact HN2.out.ext (Fr.undrew (by assumption)))).mono ?_
      rintro e w2' ⟨s2',rfl,hs2',hF2'⟩
      have hF3:Ext w1.drew w2':=by first | exact hF2' | exact Fr.ext (by assumption) hF2'
      obtain ⟨z0,z1,z2,z3⟩:=(HBr.out.ext (Fr.undrew hF3)).cell2
      obtain ⟨y0,y1,y2,y3⟩:=(HBq.out.ext (Fr.undrew hF3)).cell2))
 go_wp2
 refine ZnP rfl rfl rfl (by omega) (by omega) (by omega) HE.out HBr.out HBq.out (Fr.undrew hF3) (HN1.out.ext (Fr.undrew hF3)) (HN2.out.ext (Fr.undrew hF3)) ?_ hs2'.out HQ.out.1 HQ.out.2
 rw [hs2.out]; cases s<;>cases t<;>rfl
end Go.Proofs.YtcpjeaaapocoeaaGreatDoor

namespace Go.Proofs.YtcpjeaaapocoeaaGreatDoor
open Go.RowKit
end Go.Proofs.YtcpjeaaapocoeaaGreatDoor

namespace Go.Proofs.YtcpjeaaapocoeaaGreatDoor
open Go.RowKit
end Go.Proofs.YtcpjeaaapocoeaaGreatDoor
