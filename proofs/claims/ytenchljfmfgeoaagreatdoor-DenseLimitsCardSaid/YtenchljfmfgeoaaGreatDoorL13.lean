/-
 My texts Int, Int2, Num4, Num5, Int3 put together.
-/
import Derived.Test.YtenchljfmfgeoaaGreatDoorL07
import Derived.Test.YtenchljfmfgeoaaGreatDoorL01
import Derived.Deep.RegionHeld3
set_option maxRecDepth 100000
namespace Go.Proofs.YtenchljfmfgeoaaGreatDoor
open Go.RowKit
def Zcz (w:World) (v:Value) (z:Int):Prop :=
 ∃ (neg:Bool) (u:Value) (n:Nat),v=.agg #[.bool neg,u]∧Zad w u n∧(n=0→neg=false)∧z=(if neg then -(n:Int) else (n:Int))
def ZiP (w:World) (z:Int) (e:Ending) (w':World):Prop:=∃ v,e=.returned v∧Zcz w' v z∧Ext w w'
def sg (neg:Bool) (n:Nat):Int:=if neg then -(n:Int) else (n:Int)
theorem Zcz.signed {w:World} {neg s:Bool} {u:Value} {n:Nat} (hu:Zad w u n) (hs:s=(neg && decide (0 < n))):Zcz w (.agg #[.bool s,u]) (sg neg n):=by
 subst hs
 refine ⟨_,u,n,rfl,hu,?_,?_⟩
 ·rintro rfl; simp
 ·cases neg
  ·simp [sg]
  ·rcases Nat.eq_zero_or_pos n with rfl | h
   ·simp [sg]
   ·simp [sg,h]
theorem ZlX {fn:Func} {t:Tmp} (h:fn.results=#[.cell t 160]) (tmps:Array Value) (w:World) (b:Nat) (x y:Value) (ht:tmps[t]? = some (.pointer (some ⟨b,0,none⟩)))
 (hB:Blk 160 w b #[x,y]):(results fn tmps).run Tryz.prog w=.ok (.agg #[x,y]) w:=by
 have h0:w.cell? ⟨b,0,none⟩=some x:=hB.cell 0
 have h1:w.cell? ⟨b,1,none⟩=some y:=hB.cell 1
 simp [results,h,ht,go_sem,h0,h1]
theorem Blk.cell2 {t:TypeId} {w:World} {g:Nat} {x y:Value} (h:Blk t w g #[x,y]):w.cell? ⟨g,0,none⟩=some x∧w.cell? ⟨g,1,none⟩=some y∧w.frozen? ⟨g,0,none⟩=false∧w.frozen? ⟨g,1,none⟩=false :=
 ⟨h.cell 0,h.cell 1,h.frozen 0,h.frozen 1⟩
theorem Fr.undrew {S:Nat→Prop} {w w':World} (h:Fr S w.drew w'):Fr S w w':=⟨h.os,h.tape,h.output,h.size,h.block⟩
theorem Zad.slice {w:World} {v:Value} {n:Nat} (h:Zad w v n):∃ A l c,v=.slice A l c:=by
 obtain ⟨A,xs,c,h,_⟩:=h
 exact ⟨A,_,c,h⟩
theorem Zk0 {t:TypeId} {w wb:World} {x y z:Array Value} (h:((w.alloc (.cells x t)).alloc (.cells y t)).alloc (.cells z t)=wb) :
 Blk t wb w.heap.size x∧Blk t wb (w.heap.size + 1) y∧Blk t wb (w.heap.size + 1 + 1) z∧Ext w wb:=by
 subst h
 have e1:(w.alloc (.cells x t)).heap.size=w.heap.size + 1:=by simp
 have e2:((w.alloc (.cells x t)).alloc (.cells y t)).heap.size=w.heap.size + 1 + 1:=by simp
 have h2:=Blk.new (w.alloc (.cells x t)) t y
 have h3:=Blk.new ((w.alloc (.cells x t)).alloc (.cells y t)) t z
 rw [e1] at h2
 rw [e2] at h3
 exact ⟨((Blk.new _ _ _).alloc _).alloc _,h2.alloc _,h3,(((Fr.refl _ _).alloc _).alloc _).alloc _⟩
theorem Zad.store2 {t:TypeId} {w:World} {r n:Nat} {u a b:Value} {s:Bool} {A:Option Addr} {l c:Nat} (h:Zad w u n) (hB:Blk t w r #[.bool s, .slice A l c]):Zad ((w.setCell ⟨r,0,none⟩ a).setCell ⟨r,1,none⟩ b) u n:=by
 obtain ⟨A',xs,c',h1,h2,h3,h4⟩:=h
 refine ⟨A',xs,c',h1,h2,?_,h4⟩
 have hF:Fr (fun i=>i=r) w ((w.setCell ⟨r,0,none⟩ a).setCell ⟨r,1,none⟩ b):=((Fr.refl (fun i=>i=r) w).setCell (p:=⟨r,0,none⟩) (Or.inl rfl) a).setCell (p:=⟨r,1,none⟩) (Or.inl rfl) b
 cases xs with
 | nil=>exact Zae.nil
 | cons x xs =>
   refine h3.fr hF (fun ad hA hlt e=>?_)
   obtain ⟨g,off,e',_,hc⟩:=h3.at (i:=0) (by simp)
   rw [e'] at hA
   injection hA with hA
   subst hA
   simp at e
   subst e
   rw [hB.cell] at hc
   rcases Nat.lt_or_ge off 2 with ho | ho
   ·rcases (by omega:off=0∨off=1) with rfl | rfl<;>simp at hc
   ·simp at hc
    rw [List.getElem?_eq_none (by simp; omega)] at hc
    cases hc
theorem Zmq {fn:Func} {t:Tmp} {tmps:Array Value} {w wb w2:World} {r n:Nat} {s neg:Bool} {A:Option Addr} {l c:Nat} {z:Int}
 (hres:fn.results=#[.cell t 160]) (ht:tmps[t]? = some (.pointer (some ⟨r,0,none⟩))) (hr:w.heap.size≤r)
 (HE:Ext w wb) (HB:Blk 160 wb r #[.bool false, .slice none 0 0]) (hF:Ext wb w2) (hN:Zad w2 (.slice A l c) n) (hs:s=(neg && decide (0 < n))) (hz:z=sg neg n) :
 bodyPost Tryz.prog fn (ZiP w z) .ret ⟨tmps,[]⟩ ((w2.setCell ⟨r,0,none⟩ (.bool s)).setCell ⟨r,1,none⟩ (.slice A l c)):=by
 have hB2:Blk 160 ((w2.setCell ⟨r,0,none⟩ (.bool s)).setCell ⟨r,1,none⟩ (.slice A l c)) r #[.bool s, .slice A l c]:=((HB.ext hF).set_ 0 _).set_ 1 _
 refine bodyPost_ret (ZlX hres _ _ r _ _ ht hB2) rfl ⟨_,rfl,?_,?_⟩
 ·subst hz
  exact Zcz.signed (hN.store2 (HB.ext hF)) hs
 ·exact ((HE.trans hF).setCell (Or.inr hr) _).setCell (Or.inr hr) _
theorem ZfF {a b:Nat} (h:b≤a):0≤cmpI a b:=by
 have:=Zdm (a:=a) (b:=b); omega
theorem Zc7 (u v:Value) (m n:Nat) (w:World) (hu:Zad w u m) (hv:Zad w v n) (hm:wl m≤4294967296) (hn:wl n≤4294967296) :
 Calls Tryz.prog 184 #[u,v] w fun e w'=>e=.returned (.int .i64 (cmpI m n))∧∃ n,w'=w.drewN n:=by
 obtain ⟨A,xs,c,rfl,hc,h1,h2,h3,rfl⟩:=hu
 obtain ⟨A2,ys,c2,rfl,hc2,k1,k2,k3,rfl⟩:=hv
 rw [← ZaE h2 h3] at hm
 rw [← ZaE k2 k3] at hn
 exact ZcX A A2 xs ys _ _ c c2 w rfl rfl h1 k1 (by omega) (by omega) h2 k2 h3 k3
end Go.Proofs.YtenchljfmfgeoaaGreatDoor

namespace Go.Proofs.YtenchljfmfgeoaaGreatDoor
open Go.RowKit
theorem Zcz.open {w:World} {v:Value} {z:Int} (h:Zcz w v z):∃ (s:Bool) (A:Option Addr) (l c:Nat),v=.agg #[.bool s, .slice A l c]∧Zad w (.slice A l c) z.natAbs∧z=sg s z.natAbs∧(z=0→s=false):=by
 obtain ⟨s,u,n,h1,h2,h3,h4⟩:=h
 obtain ⟨A,l,c,rfl⟩:=h2.slice
 have hn:z.natAbs=n:=by cases s<;>simp at h4<;>omega
 refine ⟨s,A,l,c,h1,hn ▸ h2,?_,?_⟩
 ·rw [hn]; exact h4
 ·intro hz; exact h3 (by omega)
def Fits (z:Int):Prop:=wl z.natAbs≤1048576
theorem Znk {t:TypeId} {w wb:World} {x y:Array Value} (h:(w.alloc (.cells x t)).alloc (.cells y t)=wb):Blk t wb w.heap.size x∧Blk t wb (w.heap.size + 1) y∧Ext w wb:=by
 subst h
 have e1:(w.alloc (.cells x t)).heap.size=w.heap.size + 1:=by simp
 have h2:=Blk.new (w.alloc (.cells x t)) t y
 rw [e1] at h2
 exact ⟨(Blk.new _ _ _).alloc _,h2,((Fr.refl _ _).alloc _).alloc _⟩
def RetV (w:World) (v:Value) (e:Ending) (w':World):Prop:=e=.returned v∧Ext w w'
theorem Zad.len0 {w:World} {A:Option Addr} {l c n:Nat} (h:Zad w (.slice A l c) n):l=wl n:=by
 obtain ⟨A',xs,c',e,hc,h1,h2,h3,rfl⟩:=h
 injection e with e1 e2 e3
 rw [e2]; exact ZaE h2 h3
theorem Zbk {n:Nat}:wl n=0 ↔ n=0:=by
 constructor
 ·intro h; rcases Nat.eq_zero_or_pos n with e | e
  ·exact e
  ·have:=ZgX e; omega
 ·rintro rfl; rfl
set_option maxHeartbeats 1000000 in
theorem Zoy (a:Value) (x:Int) (w:World) (ha:Zcz w a x):Calls Tryz.prog 107 #[a] w (RetV w (.bool (decide (x=1)))):=by
 obtain ⟨s,A,l,c,rfl,hN,hz,h0⟩:=ha.open
 have hl:=hN.len0
 cases s with
 | true =>
   have hx:Hid (decide (x=1)=false):=by unfold Hid; simp [sg] at hz; simp; omega
   clear hN hz h0 ha hl
   go_enter Tryz.func107,Tryz.ntmps107
   go_wp2
   go_ret
   exact ⟨by rw [hx.out]; rfl,(Fr.refl _ _).alloc _⟩
 | false =>
   by_cases h1:l=1
   ·subst h1
    obtain ⟨A',xs,c',e,hc,g1,g2,g3,g4⟩:=hN
    injection e with e1 e2 e3
    subst e1 e3
    obtain ⟨x0,rfl⟩:∃ x0,xs=[x0]:=by match xs,e2 with | [y],_=>exact ⟨y,rfl⟩
    simp at g4
    obtain ⟨b,off,rfl,hb,hc0⟩:=g1.at (i:=0) (by simp)
    simp at hc0
    have hne:=Nat.ne_of_lt hb
    have hx:Hid (decide (x=1)=((x0:Int) == 1)):=by
     unfold Hid; rw [Bool.eq_iff_iff]; simp; simp [sg] at hz; omega
    clear hz h0 ha hl g1 g2 g3 g4 e2 hc
    go_enter Tryz.func107,Tryz.ntmps107
    go_wp2
    go_ret
    exact ⟨by rw [hx.out]; rfl,(Fr.refl _ _).alloc _⟩
   ·have hl1:((l:Int) == 1)=false:=by simp; omega
    have hx:Hid (decide (x=1)=false):=by
     unfold Hid
     rw [decide_eq_false_iff_not]
     rintro rfl
     apply h1
     rw [hl]
     rfl
    clear hN hz h0 ha hl h1
    go_enter Tryz.func107,Tryz.ntmps107
    go_wp2
    go_ret
    exact ⟨by rw [hx.out]; rfl,(Fr.refl _ _).alloc _⟩
end Go.Proofs.YtenchljfmfgeoaaGreatDoor

namespace Go.Proofs.YtenchljfmfgeoaaGreatDoor
open Go.RowKit
def Zbo (w:World) (v:Value) (z:Int):Prop :=
 ∃ (neg:Bool) (u:Value) (n:Nat),v=.agg #[.bool neg,u]∧Zbg w u n∧(n=0→neg=false)∧z=(if neg then -(n:Int) else (n:Int))
theorem Zbo.ext {w w':World} {v:Value} {z:Int} (h:Zbo w v z) (hf:Ext w w'):Zbo w' v z:=by
 obtain ⟨s,u,n,h1,h2,h3⟩:=h
 exact ⟨s,u,n,h1,h2.ext hf,h3⟩
theorem Zbg.slice {w:World} {v:Value} {n:Nat} (h:Zbg w v n):∃ A l c,v=.slice A l c:=by
 obtain ⟨A,xs,c,h,_⟩:=h
 exact ⟨A,_,c,h⟩
theorem Zbo.open {w:World} {v:Value} {z:Int} (h:Zbo w v z):∃ (s:Bool) (A:Option Addr) (l c:Nat),v=.agg #[.bool s, .slice A l c]∧Zbg w (.slice A l c) z.natAbs∧z=sg s z.natAbs∧(z=0→s=false):=by
 obtain ⟨s,u,n,h1,h2,h3,h4⟩:=h
 obtain ⟨A,l,c,rfl⟩:=h2.slice
 have hn:z.natAbs=n:=by cases s<;>simp at h4<;>omega
 refine ⟨s,A,l,c,h1,hn ▸ h2,?_,?_⟩
 ·rw [hn]; exact h4
 ·intro hz; exact h3 (by omega)
end Go.Proofs.YtenchljfmfgeoaaGreatDoor

namespace Go.Proofs.YtenchljfmfgeoaaGreatDoor
open Go.RowKit
end Go.Proofs.YtenchljfmfgeoaaGreatDoor

namespace Go.Proofs.YtenchljfmfgeoaaGreatDoor
open Go.RowKit
theorem Zcz.shape {w:World} {v:Value} {z:Int} (h:Zcz w v z):∃ (s:Bool) (A:Option Addr) (l c:Nat),v=.agg #[.bool s, .slice A l c]:=by
 obtain ⟨s,A,l,c,h,_⟩:=h.open
 exact ⟨s,A,l,c,h⟩
end Go.Proofs.YtenchljfmfgeoaaGreatDoor
