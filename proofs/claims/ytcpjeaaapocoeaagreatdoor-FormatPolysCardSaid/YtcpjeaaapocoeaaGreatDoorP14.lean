/-
 My texts Int, Int2, Num4, Num5, Int3 put together.
-/
import Derived.Test.YtcpjeaaapocoeaaGreatDoorP07
import Derived.Test.YtcpjeaaapocoeaaGreatDoorP01
import Derived.Deep.RegionHeld3
set_option maxRecDepth 100000
namespace Go.Proofs.YtcpjeaaapocoeaaGreatDoor
open Go.RowKit
def Za4 (w:World) (v:Value) (z:Int):Prop :=
 ∃ (neg:Bool) (u:Value) (n:Nat),v=.agg #[.bool neg,u]∧Zaq w u n∧(n=0→neg=false)∧z=(if neg then -(n:Int) else (n:Int))
theorem Za4.ext {w w':World} {v:Value} {z:Int} (h:Za4 w v z) (hf:Ext w w'):Za4 w' v z:=by
 obtain ⟨s,u,n,h1,h2,h3⟩:=h
 exact ⟨s,u,n,h1,h2.ext hf,h3⟩
def Zgq (w:World) (z:Int) (e:Ending) (w':World):Prop:=∃ v,e=.returned v∧Za4 w' v z∧Ext w w'
def Zog (w:World) (neg:Bool) (u:Value) (n:Nat) (e:Ending) (w':World):Prop :=
 ∃ s,e=.returned (.agg #[.bool s,u])∧Hid (s=(neg && decide (0 < n)))∧Ext w w'
def sg (neg:Bool) (n:Nat):Int:=if neg then -(n:Int) else (n:Int)
theorem Za4.signed {w:World} {neg s:Bool} {u:Value} {n:Nat} (hu:Zaq w u n) (hs:s=(neg && decide (0 < n))):Za4 w (.agg #[.bool s,u]) (sg neg n):=by
 subst hs
 refine ⟨_,u,n,rfl,hu,?_,?_⟩
 ·rintro rfl; simp
 ·cases neg
  ·simp [sg]
  ·rcases Nat.eq_zero_or_pos n with rfl | h
   ·simp [sg]
   ·simp [sg,h]
theorem Zfb {fn:Func} {t:Tmp} (h:fn.results=#[.cell t 135]) (tmps:Array Value) (w:World) (b:Nat) (x y:Value) (ht:tmps[t]? = some (.pointer (some ⟨b,0,none⟩)))
 (hB:Blk 135 w b #[x,y]):(results fn tmps).run Tryz.prog w=.ok (.agg #[x,y]) w:=by
 have h0:w.cell? ⟨b,0,none⟩=some x:=hB.cell 0
 have h1:w.cell? ⟨b,1,none⟩=some y:=hB.cell 1
 simp [results,h,ht,go_sem,h0,h1]
set_option maxHeartbeats 1000000 in
theorem Zne (neg:Bool) (u:Value) (n:Nat) (w:World) (hu:Zaq w u n) :
 Calls Tryz.prog 117 #[.bool neg,u] w (Zog w neg u n):=by
 obtain ⟨A,xs,c,rfl,hc,h1,h2,h3,h4⟩:=hu
 have hpos:Hid (decide (0 < n)=decide (0 < xs.length)):=by
  have:=Za0 h2 h3
  rw [h4] at this
  rcases Nat.eq_zero_or_pos n with e | e
  ·subst e; rw [Zi5] at this; unfold Hid; simp [this]
  ·have:=Zgg e; unfold Hid; rw [decide_eq_true e,decide_eq_true (by omega)]
 have H1:=zh h1
 have H2:=zh h2
 have H3:=zh h3
 clear h1 h2 h3 h4 hc
 cases neg with
 | false =>
   go_enter Tryz.func117,Tryz.ntmps117
   go_wp2
   refine bodyPost_ret (Zfb rfl _ _ w.heap.size _ _ rfl (Blk.new w _ _)) rfl ⟨_,rfl,?_,(Fr.refl _ _).alloc _⟩
   unfold Hid; simp
 | true =>
   go_enter Tryz.func117,Tryz.ntmps117
   go_wp2
   refine bodyPost_ret (Zfb rfl _ _ w.heap.size _ _ rfl (Blk.new w _ _)) rfl ⟨_,rfl,?_,(Fr.refl _ _).alloc _⟩
   unfold Hid; rw [hpos.out]; simp
theorem Blk.cell2 {t:TypeId} {w:World} {g:Nat} {x y:Value} (h:Blk t w g #[x,y]):w.cell? ⟨g,0,none⟩=some x∧w.cell? ⟨g,1,none⟩=some y∧w.frozen? ⟨g,0,none⟩=false∧w.frozen? ⟨g,1,none⟩=false :=
 ⟨h.cell 0,h.cell 1,h.frozen 0,h.frozen 1⟩
theorem Fr.undrew {S:Nat→Prop} {w w':World} (h:Fr S w.drew w'):Fr S w w':=⟨h.os,h.tape,h.output,h.size,h.block⟩
theorem Zaq.slice {w:World} {v:Value} {n:Nat} (h:Zaq w v n):∃ A l c,v=.slice A l c:=by
 obtain ⟨A,xs,c,h,_⟩:=h
 exact ⟨A,_,c,h⟩
theorem ZkV {t:TypeId} {w wb:World} {x y z:Array Value} (h:((w.alloc (.cells x t)).alloc (.cells y t)).alloc (.cells z t)=wb) :
 Blk t wb w.heap.size x∧Blk t wb (w.heap.size + 1) y∧Blk t wb (w.heap.size + 1 + 1) z∧Ext w wb:=by
 subst h
 have e1:(w.alloc (.cells x t)).heap.size=w.heap.size + 1:=by simp
 have e2:((w.alloc (.cells x t)).alloc (.cells y t)).heap.size=w.heap.size + 1 + 1:=by simp
 have h2:=Blk.new (w.alloc (.cells x t)) t y
 have h3:=Blk.new ((w.alloc (.cells x t)).alloc (.cells y t)) t z
 rw [e1] at h2
 rw [e2] at h3
 exact ⟨((Blk.new _ _ _).alloc _).alloc _,h2.alloc _,h3,(((Fr.refl _ _).alloc _).alloc _).alloc _⟩
theorem Zaq.store2 {t:TypeId} {w:World} {r n:Nat} {u a b:Value} {s:Bool} {A:Option Addr} {l c:Nat} (h:Zaq w u n) (hB:Blk t w r #[.bool s, .slice A l c]):Zaq ((w.setCell ⟨r,0,none⟩ a).setCell ⟨r,1,none⟩ b) u n:=by
 obtain ⟨A',xs,c',h1,h2,h3,h4⟩:=h
 refine ⟨A',xs,c',h1,h2,?_,h4⟩
 have hF:Fr (fun i=>i=r) w ((w.setCell ⟨r,0,none⟩ a).setCell ⟨r,1,none⟩ b):=((Fr.refl (fun i=>i=r) w).setCell (p:=⟨r,0,none⟩) (Or.inl rfl) a).setCell (p:=⟨r,1,none⟩) (Or.inl rfl) b
 cases xs with
 | nil=>exact Zan.nil
 | cons x xs =>
   refine h3.fr hF (fun ad hA hlt e=>?_)
   obtain ⟨g,off,e',_,hc⟩:=h3.at (i:=0) (by simp)
   rw [e'] at hA
   injection hA with hA
   subst hA
   simp at e
   subst e
   rw [hB.cell] at hc
   rcases Nat.lt_or_ge off 2 with ho | ho
   ·rcases (by omega:off=0∨off=1) with rfl | rfl<;>simp at hc
   ·simp at hc
    rw [List.getElem?_eq_none (by simp; omega)] at hc
    cases hc
theorem Zjd {fn:Func} {t:Tmp} {tmps:Array Value} {w wb w2:World} {r n:Nat} {s neg:Bool} {A:Option Addr} {l c:Nat} {z:Int}
 (hres:fn.results=#[.cell t 135]) (ht:tmps[t]? = some (.pointer (some ⟨r,0,none⟩))) (hr:w.heap.size≤r)
 (HE:Ext w wb) (HB:Blk 135 wb r #[.bool false, .slice none 0 0]) (hF:Ext wb w2) (hN:Zaq w2 (.slice A l c) n) (hs:s=(neg && decide (0 < n))) (hz:z=sg neg n) :
 bodyPost Tryz.prog fn (Zgq w z) .ret ⟨tmps,[]⟩ ((w2.setCell ⟨r,0,none⟩ (.bool s)).setCell ⟨r,1,none⟩ (.slice A l c)):=by
 have hB2:Blk 135 ((w2.setCell ⟨r,0,none⟩ (.bool s)).setCell ⟨r,1,none⟩ (.slice A l c)) r #[.bool s, .slice A l c]:=((HB.ext hF).set_ 0 _).set_ 1 _
 refine bodyPost_ret (Zfb hres _ _ r _ _ ht hB2) rfl ⟨_,rfl,?_,?_⟩
 ·subst hz
  exact Za4.signed (hN.store2 (HB.ext hF)) hs
 ·exact ((HE.trans hF).setCell (Or.inr hr) _).setCell (Or.inr hr) _
theorem Zfc {a b:Nat} (h:b≤a):0≤cmpI a b:=by
 have:=ZeH (a:=a) (b:=b); omega
theorem ZcX (u v:Value) (m n:Nat) (w:World) (hu:Zaq w u m) (hv:Zaq w v n) (hm:wl m≤4294967296) (hn:wl n≤4294967296) :
 Calls Tryz.prog 306 #[u,v] w fun e w'=>e=.returned (.int .i64 (cmpI m n))∧∃ n,w'=w.drewN n:=by
 obtain ⟨A,xs,c,rfl,hc,h1,h2,h3,rfl⟩:=hu
 obtain ⟨A2,ys,c2,rfl,hc2,k1,k2,k3,rfl⟩:=hv
 rw [← Za0 h2 h3] at hm
 rw [← Za0 k2 k3] at hn
 exact ZcG A A2 xs ys _ _ c c2 w rfl rfl h1 k1 (by omega) (by omega) h2 k2 h3 k3
end Go.Proofs.YtcpjeaaapocoeaaGreatDoor

namespace Go.Proofs.YtcpjeaaapocoeaaGreatDoor
open Go.RowKit
theorem Za4.open {w:World} {v:Value} {z:Int} (h:Za4 w v z):∃ (s:Bool) (A:Option Addr) (l c:Nat),v=.agg #[.bool s, .slice A l c]∧Zaq w (.slice A l c) z.natAbs∧z=sg s z.natAbs∧(z=0→s=false):=by
 obtain ⟨s,u,n,h1,h2,h3,h4⟩:=h
 obtain ⟨A,l,c,rfl⟩:=h2.slice
 have hn:z.natAbs=n:=by cases s<;>simp at h4<;>omega
 refine ⟨s,A,l,c,h1,hn ▸ h2,?_,?_⟩
 ·rw [hn]; exact h4
 ·intro hz; exact h3 (by omega)
def Fits (z:Int):Prop:=wl z.natAbs≤1048576
theorem ZiD {t:TypeId} {w wb:World} {x y:Array Value} (h:(w.alloc (.cells x t)).alloc (.cells y t)=wb):Blk t wb w.heap.size x∧Blk t wb (w.heap.size + 1) y∧Ext w wb:=by
 subst h
 have e1:(w.alloc (.cells x t)).heap.size=w.heap.size + 1:=by simp
 have h2:=Blk.new (w.alloc (.cells x t)) t y
 rw [e1] at h2
 exact ⟨(Blk.new _ _ _).alloc _,h2,((Fr.refl _ _).alloc _).alloc _⟩
set_option maxHeartbeats 1000000 in
theorem Zmt (a:Value) (x:Int) (w:World) (ha:Za4 w a x):Calls Tryz.prog 56 #[a] w (Zgq w (-x)):=by
 obtain ⟨s,A,l,c,rfl,hN,hz,h0⟩:=ha.open
 have HN:=zh hN
 have Hz:=zh hz
 have H0:=zh h0
 clear hN hz h0 ha
 go_enter Tryz.func56,Tryz.ntmps56
 go_wp2_with fail
 generalize hwb:World.alloc (World.alloc w _) _=wb
 obtain ⟨hBx,hBr,Q⟩:=ZiD hwb
 have HBr:=zh hBr
 have HE:=zh Q
 clear hwb hBx hBr Q
 refine (Zne _ _ _ _ (HN.out.ext HE.out)).mono ?_
 rintro e w2 ⟨s2,rfl,hs2,hF2⟩
 obtain ⟨z0,z1,z2,z3⟩:=(HBr.out.ext hF2).cell2
 have HF2:=zh hF2
 clear hF2
 go_wp2
 refine Zjd rfl rfl (by omega) HE.out HBr.out HF2.out (HN.out.ext (HE.out.trans HF2.out)) hs2.out ?_
 have:=Hz.out
 cases s<;>simp [sg] at this ⊢<;>omega
def RetV (w:World) (v:Value) (e:Ending) (w':World):Prop:=e=.returned v∧Ext w w'
theorem Zaq.len0 {w:World} {A:Option Addr} {l c n:Nat} (h:Zaq w (.slice A l c) n):l=wl n:=by
 obtain ⟨A',xs,c',e,hc,h1,h2,h3,rfl⟩:=h
 injection e with e1 e2 e3
 rw [e2]; exact Za0 h2 h3
theorem ZlU {n:Nat}:wl n=0 ↔ n=0:=by
 constructor
 ·intro h; rcases Nat.eq_zero_or_pos n with e | e
  ·exact e
  ·have:=Zgg e; omega
 ·rintro rfl; rfl
set_option maxHeartbeats 1000000 in
theorem Znf (a:Value) (x:Int) (w:World) (ha:Za4 w a x):Calls Tryz.prog 55 #[a] w (RetV w (.bool (decide (x=0)))):=by
 obtain ⟨s,A,l,c,rfl,hN,hz,h0⟩:=ha.open
 have hl:=hN.len0
 have hd:Hid (decide (x=0)=((l:Int) == 0)):=by
  unfold Hid
  rw [Bool.eq_iff_iff]
  simp
  rw [hl,ZlU]
  omega
 clear hN hz h0 ha hl
 go_enter Tryz.func55,Tryz.ntmps55
 go_wp2
 go_ret
 exact ⟨by rw [hd.out]; rfl,(Fr.refl _ _).alloc _⟩
set_option maxHeartbeats 1000000 in
theorem Zgr (a:Value) (x:Int) (w:World) (ha:Za4 w a x):Calls Tryz.prog 120 #[a] w (RetV w (.bool (decide (x=1)))):=by
 obtain ⟨s,A,l,c,rfl,hN,hz,h0⟩:=ha.open
 have hl:=hN.len0
 cases s with
 | true =>
   have hx:Hid (decide (x=1)=false):=by unfold Hid; simp [sg] at hz; simp; omega
   clear hN hz h0 ha hl
   go_enter Tryz.func120,Tryz.ntmps120
   go_wp2
   go_ret
   exact ⟨by rw [hx.out]; rfl,(Fr.refl _ _).alloc _⟩
 | false =>
   by_cases h1:l=1
   ·subst h1
    obtain ⟨A',xs,c',e,hc,g1,g2,g3,g4⟩:=hN
    injection e with e1 e2 e3
    subst e1 e3
    obtain ⟨x0,rfl⟩:∃ x0,xs=[x0]:=by match xs,e2 with | [y],_=>exact ⟨y,rfl⟩
    simp at g4
    obtain ⟨b,off,rfl,hb,hc0⟩:=g1.at (i:=0) (by simp)
    simp at hc0
    have hne:=Nat.ne_of_lt hb
    have hx:Hid (decide (x=1)=((x0:Int) == 1)):=by
     unfold Hid; rw [Bool.eq_iff_iff]; simp; simp [sg] at hz; omega
    clear hz h0 ha hl g1 g2 g3 g4 e2 hc
    go_enter Tryz.func120,Tryz.ntmps120
    go_wp2
    go_ret
    exact ⟨by rw [hx.out]; rfl,(Fr.refl _ _).alloc _⟩
   ·have hl1:((l:Int) == 1)=false:=by simp; omega
    have hx:Hid (decide (x=1)=false):=by
     unfold Hid
     rw [decide_eq_false_iff_not]
     rintro rfl
     apply h1
     rw [hl]
     rfl
    clear hN hz h0 ha hl h1
    go_enter Tryz.func120,Tryz.ntmps120
    go_wp2
    go_ret
    exact ⟨by rw [hx.out]; rfl,(Fr.refl _ _).alloc _⟩
end Go.Proofs.YtcpjeaaapocoeaaGreatDoor

namespace Go.Proofs.YtcpjeaaapocoeaaGreatDoor
open Go.RowKit
def Zak (w:World) (v:Value) (z:Int):Prop :=
 ∃ (neg:Bool) (u:Value) (n:Nat),v=.agg #[.bool neg,u]∧Zam w u n∧(n=0→neg=false)∧z=(if neg then -(n:Int) else (n:Int))
theorem Zak.ext {w w':World} {v:Value} {z:Int} (h:Zak w v z) (hf:Ext w w'):Zak w' v z:=by
 obtain ⟨s,u,n,h1,h2,h3⟩:=h
 exact ⟨s,u,n,h1,h2.ext hf,h3⟩
def Zgs (w:World) (z:Int) (e:Ending) (w':World):Prop:=∃ v,e=.returned v∧Zak w' v z∧Ext w w'
def Zqq (w:World) (neg:Bool) (u:Value) (n:Nat) (e:Ending) (w':World):Prop :=
 ∃ s,e=.returned (.agg #[.bool s,u])∧Hid (s=(neg && decide (0 < n)))∧Ext w w'
theorem Zak.signed {w:World} {neg s:Bool} {u:Value} {n:Nat} (hu:Zam w u n) (hs:s=(neg && decide (0 < n))):Zak w (.agg #[.bool s,u]) (sg neg n):=by
 subst hs
 refine ⟨_,u,n,rfl,hu,?_,?_⟩
 ·rintro rfl; simp
 ·cases neg
  ·simp [sg]
  ·rcases Nat.eq_zero_or_pos n with rfl | h
   ·simp [sg]
   ·simp [sg,h]
theorem Zfd {fn:Func} {t:Tmp} (h:fn.results=#[.cell t 155]) (tmps:Array Value) (w:World) (b:Nat) (x y:Value) (ht:tmps[t]? = some (.pointer (some ⟨b,0,none⟩)))
 (hB:Blk 155 w b #[x,y]):(results fn tmps).run Tryz.prog w=.ok (.agg #[x,y]) w:=by
 have h0:w.cell? ⟨b,0,none⟩=some x:=hB.cell 0
 have h1:w.cell? ⟨b,1,none⟩=some y:=hB.cell 1
 simp [results,h,ht,go_sem,h0,h1]
set_option maxHeartbeats 1000000 in
theorem Zoh (neg:Bool) (u:Value) (n:Nat) (w:World) (hu:Zam w u n) :
 Calls Tryz.prog 275 #[.bool neg,u] w (Zqq w neg u n):=by
 obtain ⟨A,xs,c,rfl,hc,h1,h2,h3,h4⟩:=hu
 have hpos:Hid (decide (0 < n)=decide (0 < xs.length)):=by
  have:=ZbI h2 h3
  rw [h4] at this
  rcases Nat.eq_zero_or_pos n with e | e
  ·subst e; rw [Zjb] at this; unfold Hid; simp [this]
  ·have:=Zix e; unfold Hid; rw [decide_eq_true e,decide_eq_true (by omega)]
 have H1:=zh h1
 have H2:=zh h2
 have H3:=zh h3
 clear h1 h2 h3 h4 hc
 cases neg with
 | false =>
   go_enter Tryz.func275,Tryz.ntmps275
   go_wp2
   refine bodyPost_ret (Zfd rfl _ _ w.heap.size _ _ rfl (Blk.new w _ _)) rfl ⟨_,rfl,?_,(Fr.refl _ _).alloc _⟩
   unfold Hid; simp
 | true =>
   go_enter Tryz.func275,Tryz.ntmps275
   go_wp2
   refine bodyPost_ret (Zfd rfl _ _ w.heap.size _ _ rfl (Blk.new w _ _)) rfl ⟨_,rfl,?_,(Fr.refl _ _).alloc _⟩
   unfold Hid; rw [hpos.out]; simp
theorem Zam.slice {w:World} {v:Value} {n:Nat} (h:Zam w v n):∃ A l c,v=.slice A l c:=by
 obtain ⟨A,xs,c,h,_⟩:=h
 exact ⟨A,_,c,h⟩
theorem Zak.open {w:World} {v:Value} {z:Int} (h:Zak w v z):∃ (s:Bool) (A:Option Addr) (l c:Nat),v=.agg #[.bool s, .slice A l c]∧Zam w (.slice A l c) z.natAbs∧z=sg s z.natAbs∧(z=0→s=false):=by
 obtain ⟨s,u,n,h1,h2,h3,h4⟩:=h
 obtain ⟨A,l,c,rfl⟩:=h2.slice
 have hn:z.natAbs=n:=by cases s<;>simp at h4<;>omega
 refine ⟨s,A,l,c,h1,hn ▸ h2,?_,?_⟩
 ·rw [hn]; exact h4
 ·intro hz; exact h3 (by omega)
def ZaZ (z:Int):Prop:=ml z.natAbs≤17592186044416
end Go.Proofs.YtcpjeaaapocoeaaGreatDoor

namespace Go.Proofs.YtcpjeaaapocoeaaGreatDoor
open Go.RowKit
end Go.Proofs.YtcpjeaaapocoeaaGreatDoor

namespace Go.Proofs.YtcpjeaaapocoeaaGreatDoor
open Go.RowKit
theorem Za4.shape {w:World} {v:Value} {z:Int} (h:Za4 w v z):∃ (s:Bool) (A:Option Addr) (l c:Nat),v=.agg #[.bool s, .slice A l c]:=by
 obtain ⟨s,A,l,c,h,_⟩:=h.open
 exact ⟨s,A,l,c,h⟩
end Go.Proofs.YtcpjeaaapocoeaaGreatDoor
