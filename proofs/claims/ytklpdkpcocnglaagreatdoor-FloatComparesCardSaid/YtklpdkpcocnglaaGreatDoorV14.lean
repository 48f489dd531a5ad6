/-
 My texts Int, Int2, Num4, Num5, Int3 put together.
-/
import Derived.Test.YtklpdkpcocnglaaGreatDoorV07
import Derived.Test.YtklpdkpcocnglaaGreatDoorV01
import Derived.Deep.RegionHeld3
set_option maxRecDepth 100000
namespace Go.Proofs.YtklpdkpcocnglaaGreatDoor
open Go.RowKit
def ZcS (w:World) (v:Value) (z:Int):Prop :=
 ∃ (neg:Bool) (u:Value) (n:Nat),v=.agg #[.bool neg,u]∧Zal w u n∧(n=0→neg=false)∧z=(if neg then -(n:Int) else (n:Int))
def Zkk (w:World) (z:Int) (e:Ending) (w':World):Prop:=∃ v,e=.returned v∧ZcS w' v z∧Ext w w'
def sg (neg:Bool) (n:Nat):Int:=if neg then -(n:Int) else (n:Int)
theorem ZcS.signed {w:World} {neg s:Bool} {u:Value} {n:Nat} (hu:Zal w u n) (hs:s=(neg && decide (0 < n))):ZcS w (.agg #[.bool s,u]) (sg neg n):=by
 subst hs
 refine ⟨_,u,n,rfl,hu,?_,?_⟩
 ·rintro rfl; simp
 ·cases neg
  ·simp [sg]
  ·rcases Nat.eq_zero_or_pos n with rfl | h
   ·simp [sg]
   ·simp [sg,h]
theorem Zoi {fn:Func} {t:Tmp} (h:fn.results=#[.cell t 127]) (tmps:Array Value) (w:World) (b:Nat) (x y:Value) (ht:tmps[t]? = some (.pointer (some ⟨b,0,none⟩)))
 (hB:Blk 127 w b #[x,y]):(results fn tmps).run Tryz.prog w=.ok (.agg #[x,y]) w:=by
 have h0:w.cell? ⟨b,0,none⟩=some x:=hB.cell 0
 have h1:w.cell? ⟨b,1,none⟩=some y:=hB.cell 1
 simp [results,h,ht,go_sem,h0,h1]
theorem Blk.cell2 {t:TypeId} {w:World} {g:Nat} {x y:Value} (h:Blk t w g #[x,y]):w.cell? ⟨g,0,none⟩=some x∧w.cell? ⟨g,1,none⟩=some y∧w.frozen? ⟨g,0,none⟩=false∧w.frozen? ⟨g,1,none⟩=false :=
 ⟨h.cell 0,h.cell 1,h.frozen 0,h.frozen 1⟩
theorem Zei {t:TypeId} {w w':World} {g g':Nat} {x y x' y':Value} (h:Blk t w g #[x,y]) (h':Blk t w g' #[x',y']) (hF:Ext w w') :
 w'.cell? ⟨g,0,none⟩=some x∧w'.cell? ⟨g,1,none⟩=some y∧w'.cell? ⟨g',1,none⟩=some y' :=
 ⟨(h.ext hF).cell 0,(h.ext hF).cell 1,(h'.ext hF).cell 1⟩
theorem Fr.undrew {S:Nat→Prop} {w w':World} (h:Fr S w.drew w'):Fr S w w':=⟨h.os,h.tape,h.output,h.size,h.block⟩
theorem ZgL {t:TypeId} {w w':World} {g g' r:Nat} {x y x' y' a b:Value} (h:Blk t w g #[x,y]) (h':Blk t w g' #[x',y']) (hF:Ext w w') (hg:g≠r) (hg':g'≠r) :
 ((w'.setCell ⟨r,0,none⟩ a).setCell ⟨r,1,none⟩ b).cell? ⟨g,0,none⟩=some x∧((w'.setCell ⟨r,0,none⟩ a).setCell ⟨r,1,none⟩ b).cell? ⟨g,1,none⟩=some y∧((w'.setCell ⟨r,0,none⟩ a).setCell ⟨r,1,none⟩ b).cell? ⟨g',1,none⟩=some y' :=
 ⟨(((h.ext hF).far (p:=⟨r,0,none⟩) hg a).far (p:=⟨r,1,none⟩) hg b).cell 0,(((h.ext hF).far (p:=⟨r,0,none⟩) hg a).far (p:=⟨r,1,none⟩) hg b).cell 1,(((h'.ext hF).far (p:=⟨r,0,none⟩) hg' a).far (p:=⟨r,1,none⟩) hg' b).cell 1⟩
theorem Zal.slice {w:World} {v:Value} {n:Nat} (h:Zal w v n):∃ A l c,v=.slice A l c:=by
 obtain ⟨A,xs,c,h,_⟩:=h
 exact ⟨A,_,c,h⟩
theorem ZbB {t:TypeId} {w wb:World} {x y z:Array Value} (h:((w.alloc (.cells x t)).alloc (.cells y t)).alloc (.cells z t)=wb) :
 Blk t wb w.heap.size x∧Blk t wb (w.heap.size + 1) y∧Blk t wb (w.heap.size + 1 + 1) z∧Ext w wb:=by
 subst h
 have e1:(w.alloc (.cells x t)).heap.size=w.heap.size + 1:=by simp
 have e2:((w.alloc (.cells x t)).alloc (.cells y t)).heap.size=w.heap.size + 1 + 1:=by simp
 have h2:=Blk.new (w.alloc (.cells x t)) t y
 have h3:=Blk.new ((w.alloc (.cells x t)).alloc (.cells y t)) t z
 rw [e1] at h2
 rw [e2] at h3
 exact ⟨((Blk.new _ _ _).alloc _).alloc _,h2.alloc _,h3,(((Fr.refl _ _).alloc _).alloc _).alloc _⟩
theorem Zal.store2 {t:TypeId} {w:World} {r n:Nat} {u a b:Value} {s:Bool} {A:Option Addr} {l c:Nat} (h:Zal w u n) (hB:Blk t w r #[.bool s, .slice A l c]):Zal ((w.setCell ⟨r,0,none⟩ a).setCell ⟨r,1,none⟩ b) u n:=by
 obtain ⟨A',xs,c',h1,h2,h3,h4⟩:=h
 refine ⟨A',xs,c',h1,h2,?_,h4⟩
 have hF:Fr (fun i=>i=r) w ((w.setCell ⟨r,0,none⟩ a).setCell ⟨r,1,none⟩ b):=((Fr.refl (fun i=>i=r) w).setCell (p:=⟨r,0,none⟩) (Or.inl rfl) a).setCell (p:=⟨r,1,none⟩) (Or.inl rfl) b
 cases xs with
 | nil=>exact Zae.nil
 | cons x xs =>
   refine h3.fr hF (fun ad hA hlt e=>?_)
   obtain ⟨g,off,e',_,hc⟩:=h3.at (i:=0) (by simp)
   rw [e'] at hA
   injection hA with hA
   subst hA
   simp at e
   subst e
   rw [hB.cell] at hc
   rcases Nat.lt_or_ge off 2 with ho | ho
   ·rcases (by omega:off=0∨off=1) with rfl | rfl<;>simp at hc
   ·simp at hc
    rw [List.getElem?_eq_none (by simp; omega)] at hc
    cases hc
theorem ZoU {fn:Func} {t:Tmp} {tmps:Array Value} {w wb w2:World} {r n:Nat} {s neg:Bool} {A:Option Addr} {l c:Nat} {z:Int}
 (hres:fn.results=#[.cell t 127]) (ht:tmps[t]? = some (.pointer (some ⟨r,0,none⟩))) (hr:w.heap.size≤r)
 (HE:Ext w wb) (HB:Blk 127 wb r #[.bool false, .slice none 0 0]) (hF:Ext wb w2) (hN:Zal w2 (.slice A l c) n) (hs:s=(neg && decide (0 < n))) (hz:z=sg neg n) :
 bodyPost Tryz.prog fn (Zkk w z) .ret ⟨tmps,[]⟩ ((w2.setCell ⟨r,0,none⟩ (.bool s)).setCell ⟨r,1,none⟩ (.slice A l c)):=by
 have hB2:Blk 127 ((w2.setCell ⟨r,0,none⟩ (.bool s)).setCell ⟨r,1,none⟩ (.slice A l c)) r #[.bool s, .slice A l c]:=((HB.ext hF).set_ 0 _).set_ 1 _
 refine bodyPost_ret (Zoi hres _ _ r _ _ ht hB2) rfl ⟨_,rfl,?_,?_⟩
 ·subst hz
  exact ZcS.signed (hN.store2 (HB.ext hF)) hs
 ·exact ((HE.trans hF).setCell (Or.inr hr) _).setCell (Or.inr hr) _
theorem Zgl {t:TypeId} {w w':World} {g g':Nat} {x y x' y':Value} (h:Blk t w g #[x,y]) (h':Blk t w g' #[x',y']) (hF:Ext w w') :
 w'.cell? ⟨g,0,none⟩=some x∧w'.cell? ⟨g,1,none⟩=some y∧w'.cell? ⟨g',0,none⟩=some x'∧w'.cell? ⟨g',1,none⟩=some y' :=
 ⟨(h.ext hF).cell 0,(h.ext hF).cell 1,(h'.ext hF).cell 0,(h'.ext hF).cell 1⟩
theorem Zkl {t:TypeId} {w w':World} {g g' r:Nat} {x y x' y' a b:Value} (h:Blk t w g #[x,y]) (h':Blk t w g' #[x',y']) (hF:Ext w w') (hg:g≠r) (hg':g'≠r) :
 ((w'.setCell ⟨r,0,none⟩ a).setCell ⟨r,1,none⟩ b).cell? ⟨g,0,none⟩=some x∧((w'.setCell ⟨r,0,none⟩ a).setCell ⟨r,1,none⟩ b).cell? ⟨g,1,none⟩=some y∧((w'.setCell ⟨r,0,none⟩ a).setCell ⟨r,1,none⟩ b).cell? ⟨g',0,none⟩=some x'∧((w'.setCell ⟨r,0,none⟩ a).setCell ⟨r,1,none⟩ b).cell? ⟨g',1,none⟩=some y' :=
 ⟨(((h.ext hF).far (p:=⟨r,0,none⟩) hg a).far (p:=⟨r,1,none⟩) hg b).cell 0,(((h.ext hF).far (p:=⟨r,0,none⟩) hg a).far (p:=⟨r,1,none⟩) hg b).cell 1,(((h'.ext hF).far (p:=⟨r,0,none⟩) hg' a).far (p:=⟨r,1,none⟩) hg' b).cell 0,(((h'.ext hF).far (p:=⟨r,0,none⟩) hg' a).far (p:=⟨r,1,none⟩) hg' b).cell 1⟩
theorem Zee {a b:Nat} (h:b≤a):0≤cmpI a b:=by
 have:=Zdh (a:=a) (b:=b); omega
theorem Zdw (u v:Value) (m n:Nat) (w:World) (hu:Zal w u m) (hv:Zal w v n) (hm:wl m≤4294967296) (hn:wl n≤4294967296) :
 Calls Tryz.prog 164 #[u,v] w fun e w'=>e=.returned (.int .i64 (cmpI m n))∧∃ n,w'=w.drewN n:=by
 obtain ⟨A,xs,c,rfl,hc,h1,h2,h3,rfl⟩:=hu
 obtain ⟨A2,ys,c2,rfl,hc2,k1,k2,k3,rfl⟩:=hv
 rw [← ZaN h2 h3] at hm
 rw [← ZaN k2 k3] at hn
 exact Zdg A A2 xs ys _ _ c c2 w rfl rfl h1 k1 (by omega) (by omega) h2 k2 h3 k3
end Go.Proofs.YtklpdkpcocnglaaGreatDoor

namespace Go.Proofs.YtklpdkpcocnglaaGreatDoor
open Go.RowKit
theorem ZcS.open {w:World} {v:Value} {z:Int} (h:ZcS w v z):∃ (s:Bool) (A:Option Addr) (l c:Nat),v=.agg #[.bool s, .slice A l c]∧Zal w (.slice A l c) z.natAbs∧z=sg s z.natAbs∧(z=0→s=false):=by
 obtain ⟨s,u,n,h1,h2,h3,h4⟩:=h
 obtain ⟨A,l,c,rfl⟩:=h2.slice
 have hn:z.natAbs=n:=by cases s<;>simp at h4<;>omega
 refine ⟨s,A,l,c,h1,hn ▸ h2,?_,?_⟩
 ·rw [hn]; exact h4
 ·intro hz; exact h3 (by omega)
def Fits (z:Int):Prop:=wl z.natAbs≤1048576
theorem ZpU {t:TypeId} {w wb:World} {x y:Array Value} (h:(w.alloc (.cells x t)).alloc (.cells y t)=wb):Blk t wb w.heap.size x∧Blk t wb (w.heap.size + 1) y∧Ext w wb:=by
 subst h
 have e1:(w.alloc (.cells x t)).heap.size=w.heap.size + 1:=by simp
 have h2:=Blk.new (w.alloc (.cells x t)) t y
 rw [e1] at h2
 exact ⟨(Blk.new _ _ _).alloc _,h2,((Fr.refl _ _).alloc _).alloc _⟩
def RetV (w:World) (v:Value) (e:Ending) (w':World):Prop:=e=.returned v∧Ext w w'
theorem Zal.len0 {w:World} {A:Option Addr} {l c n:Nat} (h:Zal w (.slice A l c) n):l=wl n:=by
 obtain ⟨A',xs,c',e,hc,h1,h2,h3,rfl⟩:=h
 injection e with e1 e2 e3
 rw [e2]; exact ZaN h2 h3
theorem Zgz {n:Nat}:wl n=0 ↔ n=0:=by
 constructor
 ·intro h; rcases Nat.eq_zero_or_pos n with e | e
  ·exact e
  ·have:=ZhM e; omega
 ·rintro rfl; rfl
set_option maxHeartbeats 1000000 in
theorem Zq7 (a:Value) (x:Int) (w:World) (ha:ZcS w a x):Calls Tryz.prog 96 #[a] w (RetV w (.bool (decide (x=1)))):=by
 obtain ⟨s,A,l,c,rfl,hN,hz,h0⟩:=ha.open
 have hl:=hN.len0
 cases s with
 | true =>
   have hx:Hid (decide (x=1)=false):=by unfold Hid; simp [sg] at hz; simp; omega
   clear hN hz h0 ha hl
   go_enter Tryz.func96,Tryz.ntmps96
   go_wp2
   go_ret
   exact ⟨by rw [hx.out]; rfl,(Fr.refl _ _).alloc _⟩
 | false =>
   by_cases h1:l=1
   ·subst h1
    obtain ⟨A',xs,c',e,hc,g1,g2,g3,g4⟩:=hN
    injection e with e1 e2 e3
    subst e1 e3
    obtain ⟨x0,rfl⟩:∃ x0,xs=[x0]:=by match xs,e2 with | [y],_=>exact ⟨y,rfl⟩
    simp at g4
    obtain ⟨b,off,rfl,hb,hc0⟩:=g1.at (i:=0) (by simp)
    simp at hc0
    have hne:=Nat.ne_of_lt hb
    have hx:Hid (decide (x=1)=((x0:Int) == 1)):=by
     unfold Hid; rw [Bool.eq_iff_iff]; simp; simp [sg] at hz; omega
    clear hz h0 ha hl g1 g2 g3 g4 e2 hc
    go_enter Tryz.func96,Tryz.ntmps96
    go_wp2
    go_ret
    exact ⟨by rw [hx.out]; rfl,(Fr.refl _ _).alloc _⟩
   ·have hl1:((l:Int) == 1)=false:=by simp; omega
    have hx:Hid (decide (x=1)=false):=by
     unfold Hid
     rw [decide_eq_false_iff_not]
     rintro rfl
     apply h1
     rw [hl]
     rfl
    clear hN hz h0 ha hl h1
    go_enter Tryz.func96,Tryz.ntmps96
    go_wp2
    go_ret
    exact ⟨by rw [hx.out]; rfl,(Fr.refl _ _).alloc _⟩
end Go.Proofs.YtklpdkpcocnglaaGreatDoor

namespace Go.Proofs.YtklpdkpcocnglaaGreatDoor
open Go.RowKit
def Zai (w:World) (v:Value) (z:Int):Prop :=
 ∃ (neg:Bool) (u:Value) (n:Nat),v=.agg #[.bool neg,u]∧Zar w u n∧(n=0→neg=false)∧z=(if neg then -(n:Int) else (n:Int))
theorem Zai.ext {w w':World} {v:Value} {z:Int} (h:Zai w v z) (hf:Ext w w'):Zai w' v z:=by
 obtain ⟨s,u,n,h1,h2,h3⟩:=h
 exact ⟨s,u,n,h1,h2.ext hf,h3⟩
def Zba (w:World) (z:Int) (e:Ending) (w':World):Prop:=∃ v,e=.returned v∧Zai w' v z∧Ext w w'
def Ztm (w:World) (neg:Bool) (u:Value) (n:Nat) (e:Ending) (w':World):Prop :=
 ∃ s,e=.returned (.agg #[.bool s,u])∧Hid (s=(neg && decide (0 < n)))∧Ext w w'
theorem Zai.signed {w:World} {neg s:Bool} {u:Value} {n:Nat} (hu:Zar w u n) (hs:s=(neg && decide (0 < n))):Zai w (.agg #[.bool s,u]) (sg neg n):=by
 subst hs
 refine ⟨_,u,n,rfl,hu,?_,?_⟩
 ·rintro rfl; simp
 ·cases neg
  ·simp [sg]
  ·rcases Nat.eq_zero_or_pos n with rfl | h
   ·simp [sg]
   ·simp [sg,h]
theorem Ze7 {fn:Func} {t:Tmp} (h:fn.results=#[.cell t 32]) (tmps:Array Value) (w:World) (b:Nat) (x y:Value) (ht:tmps[t]? = some (.pointer (some ⟨b,0,none⟩)))
 (hB:Blk 32 w b #[x,y]):(results fn tmps).run Tryz.prog w=.ok (.agg #[x,y]) w:=by
 have h0:w.cell? ⟨b,0,none⟩=some x:=hB.cell 0
 have h1:w.cell? ⟨b,1,none⟩=some y:=hB.cell 1
 simp [results,h,ht,go_sem,h0,h1]
set_option maxHeartbeats 1000000 in
theorem ZbQ (neg:Bool) (u:Value) (n:Nat) (w:World) (hu:Zar w u n) :
 Calls Tryz.prog 61 #[.bool neg,u] w (Ztm w neg u n):=by
 obtain ⟨A,xs,c,rfl,hc,h1,h2,h3,h4⟩:=hu
 have hpos:Hid (decide (0 < n)=decide (0 < xs.length)):=by
  have:=Zby h2 h3
  rw [h4] at this
  rcases Nat.eq_zero_or_pos n with e | e
  ·subst e; rw [ZkZ] at this; unfold Hid; simp [this]
  ·have:=Zkh e; unfold Hid; rw [decide_eq_true e,decide_eq_true (by omega)]
 have H1:=zh h1
 have H2:=zh h2
 have H3:=zh h3
 clear h1 h2 h3 h4 hc
 cases neg with
 | false =>
   go_enter Tryz.func61,Tryz.ntmps61
   go_wp2
   refine bodyPost_ret (Ze7 rfl _ _ w.heap.size _ _ rfl (Blk.new w _ _)) rfl ⟨_,rfl,?_,(Fr.refl _ _).alloc _⟩
   unfold Hid; simp
 | true =>
   go_enter Tryz.func61,Tryz.ntmps61
   go_wp2
   refine bodyPost_ret (Ze7 rfl _ _ w.heap.size _ _ rfl (Blk.new w _ _)) rfl ⟨_,rfl,?_,(Fr.refl _ _).alloc _⟩
   unfold Hid; rw [hpos.out]; simp
theorem Zar.slice {w:World} {v:Value} {n:Nat} (h:Zar w v n):∃ A l c,v=.slice A l c:=by
 obtain ⟨A,xs,c,h,_⟩:=h
 exact ⟨A,_,c,h⟩
theorem Zar.store2 {t:TypeId} {w:World} {r n:Nat} {u a b:Value} {s:Bool} {A:Option Addr} {l c:Nat} (h:Zar w u n) (hB:Blk t w r #[.bool s, .slice A l c]):Zar ((w.setCell ⟨r,0,none⟩ a).setCell ⟨r,1,none⟩ b) u n:=by
 obtain ⟨A',xs,c',h1,h2,h3,h4⟩:=h
 refine ⟨A',xs,c',h1,h2,?_,h4⟩
 have hF:Fr (fun i=>i=r) w ((w.setCell ⟨r,0,none⟩ a).setCell ⟨r,1,none⟩ b):=((Fr.refl (fun i=>i=r) w).setCell (p:=⟨r,0,none⟩) (Or.inl rfl) a).setCell (p:=⟨r,1,none⟩) (Or.inl rfl) b
 cases xs with
 | nil=>exact Zae.nil
 | cons x xs =>
   refine h3.fr hF (fun ad hA hlt e=>?_)
   obtain ⟨g,off,e',_,hc⟩:=h3.at (i:=0) (by simp)
   rw [e'] at hA
   injection hA with hA
   subst hA
   simp at e
   subst e
   rw [hB.cell] at hc
   rcases Nat.lt_or_ge off 2 with ho | ho
   ·rcases (by omega:off=0∨off=1) with rfl | rfl<;>simp at hc
   ·simp at hc
    rw [List.getElem?_eq_none (by simp; omega)] at hc
    cases hc
theorem ZcP {fn:Func} {t:Tmp} {tmps:Array Value} {w wb w2:World} {r n:Nat} {s neg:Bool} {A:Option Addr} {l c:Nat} {z:Int}
 (hres:fn.results=#[.cell t 32]) (ht:tmps[t]? = some (.pointer (some ⟨r,0,none⟩))) (hr:w.heap.size≤r)
 (HE:Ext w wb) (HB:Blk 32 wb r #[.bool false, .slice none 0 0]) (hF:Ext wb w2) (hN:Zar w2 (.slice A l c) n) (hs:s=(neg && decide (0 < n))) (hz:z=sg neg n) :
 bodyPost Tryz.prog fn (Zba w z) .ret ⟨tmps,[]⟩ ((w2.setCell ⟨r,0,none⟩ (.bool s)).setCell ⟨r,1,none⟩ (.slice A l c)):=by
 have hB2:Blk 32 ((w2.setCell ⟨r,0,none⟩ (.bool s)).setCell ⟨r,1,none⟩ (.slice A l c)) r #[.bool s, .slice A l c]:=((HB.ext hF).set_ 0 _).set_ 1 _
 refine bodyPost_ret (Ze7 hres _ _ r _ _ ht hB2) rfl ⟨_,rfl,?_,?_⟩
 ·subst hz
  exact Zai.signed (hN.store2 (HB.ext hF)) hs
 ·exact ((HE.trans hF).setCell (Or.inr hr) _).setCell (Or.inr hr) _
set_option maxHeartbeats 4000000 in
theorem Zkm (u v:Value) (m n k:Nat) (z:Int) (w:World) (hu:Zar w u m) (hv:Zar w v n) (hm:ml m≤1048576) (hn:ml n≤1048576) (hk:m + n=k) (hz:z=sg false k) :
 Calls Tryz.prog 77 #[.agg #[.bool false,u], .agg #[.bool false,v]] w (Zba w z):=by
 have Hu:=zh hu
 have Hv:=zh hv
 have Hm:=zh hm
 have Hn:=zh hn
 have Hk:=zh hk
 have Hz:=zh hz
 clear hu hv hm hn hk hz
 go_enter Tryz.func77,Tryz.ntmps77
 go_wp2
 generalize hwb:World.alloc (World.alloc (World.alloc w _) _) _=wb
 obtain ⟨hBx,hBy,hBr,Q⟩:=ZbB hwb
 have HBx:=zh hBx
 have HBy:=zh hBy
 have HBr:=zh hBr
 have HE:=zh Q
 clear hwb hBx hBy hBr Q
 go_region_held3 (fun w'=>w'.cell? ⟨w.heap.size,0,none⟩=some (.bool false)∧w'.cell? ⟨w.heap.size,1,none⟩=some (u)∧w'.cell? ⟨w.heap.size + 1,1,none⟩=some (v))
  (first | exact Zei HBx.out HBy.out (Fr.refl _ _).drew | exact Zei HBx.out HBy.out (Fr.undrew (by assumption)) | exact ZgL HBx.out HBy.out (Fr.undrew (by assumption)) (by omega) (by omega))
  (first
   | (go_at_call 102
      refine (Zfu _ _ m n _ (Hu.out.ext HE.out.drew) (Hv.out.ext HE.out.drew) Hm.out Hn.out).mono ?_
      rintro e w1 ⟨u1,rfl,hN1,hF1⟩
      rw [Hk.out] at hN1
      obtain ⟨A1,l1,c1,rfl⟩:=hN1.slice)
   | (go_at_call 61
      refine (ZbQ _ _ _ _ (by assumption)).mono ?_
      rintro e w2 ⟨s2,rfl,hs2,hF2⟩
      have hF3:Ext wb.drew w2:=Fr.ext (by assumption) hF2
      obtain ⟨z0,z1,z2,z3⟩:=(HBr.out.ext (Fr.undrew hF3)).cell2))
 go_wp2
 exact ZcP rfl rfl (by omega) HE.out HBr.out (Fr.undrew hF3) (hN1.ext hF2) hs2.out Hz.out
set_option maxHeartbeats 4000000 in
theorem Zk2 (u v:Value) (m n k:Nat) (z:Int) (w:World) (hu:Zar w u m) (hv:Zar w v n) (hm:ml m≤1048576) (hn:ml n≤1048576) (hk:m + n=k) (hz:z=sg true k) :
 Calls Tryz.prog 77 #[.agg #[.bool true,u], .agg #[.bool true,v]] w (Zba w z):=by
 have Hu:=zh hu
 have Hv:=zh hv
 have Hm:=zh hm
 have Hn:=zh hn
 have Hk:=zh hk
 have Hz:=zh hz
 clear hu hv hm hn hk hz
 go_enter Tryz.func77,Tryz.ntmps77
 go_wp2
 generalize hwb:World.alloc (World.alloc (World.alloc w _) _) _=wb
 obtain ⟨hBx,hBy,hBr,Q⟩:=ZbB hwb
 have HBx:=zh hBx
 have HBy:=zh hBy
 have HBr:=zh hBr
 have HE:=zh Q
 clear hwb hBx hBy hBr Q
 go_region_held3 (fun w'=>w'.cell? ⟨w.heap.size,0,none⟩=some (.bool true)∧w'.cell? ⟨w.heap.size,1,none⟩=some (u)∧w'.cell? ⟨w.heap.size + 1,1,none⟩=some (v))
  (first | exact Zei HBx.out HBy.out (Fr.refl _ _).drew | exact Zei HBx.out HBy.out (Fr.undrew (by assumption)) | exact ZgL HBx.out HBy.out (Fr.undrew (by assumption)) (by omega) (by omega))
  (first
   | (go_at_call 102
      refine (Zfu _ _ m n _ (Hu.out.ext HE.out.drew) (Hv.out.ext HE.out.drew) Hm.out Hn.out).mono ?_
      rintro e w1 ⟨u1,rfl,hN1,hF1⟩
      rw [Hk.out] at hN1
      obtain ⟨A1,l1,c1,rfl⟩:=hN1.slice)
   | (go_at_call 61
      refine (ZbQ _ _ _ _ (by assumption)).mono ?_
      rintro e w2 ⟨s2,rfl,hs2,hF2⟩
      have hF3:Ext wb.drew w2:=Fr.ext (by assumption) hF2
      obtain ⟨z0,z1,z2,z3⟩:=(HBr.out.ext (Fr.undrew hF3)).cell2))
 go_wp2
 exact ZcP rfl rfl (by omega) HE.out HBr.out (Fr.undrew hF3) (hN1.ext hF2) hs2.out Hz.out
set_option maxHeartbeats 4000000 in
theorem ZjB (u v:Value) (m n k:Nat) (z:Int) (w:World) (hu:Zar w u m) (hv:Zar w v n) (hm:ml m≤1048576) (hn:ml n≤1048576) (hk:m * n=k) (hz:z=sg false k) :
 Calls Tryz.prog 74 #[.agg #[.bool false,u], .agg #[.bool false,v]] w (Zba w z):=by
 have Hu:=zh hu
 have Hv:=zh hv
 have Hm:=zh hm
 have Hn:=zh hn
 have Hk:=zh hk
 have Hz:=zh hz
 clear hu hv hm hn hk hz
 go_enter Tryz.func74,Tryz.ntmps74
 go_wp2
 generalize hwb:World.alloc (World.alloc (World.alloc w _) _) _=wb
 obtain ⟨hBx,hBy,hBr,Q⟩:=ZbB hwb
 have HBx:=zh hBx
 have HBy:=zh hBy
 have HBr:=zh hBr
 have HE:=zh Q
 clear hwb hBx hBy hBr Q
 go_region_held3 (fun w'=>w'.cell? ⟨w.heap.size,0,none⟩=some (.bool false)∧w'.cell? ⟨w.heap.size,1,none⟩=some (u)∧w'.cell? ⟨w.heap.size + 1,0,none⟩=some (.bool false)∧w'.cell? ⟨w.heap.size + 1,1,none⟩=some (v))
  (first | exact Zgl HBx.out HBy.out (Fr.refl _ _).drew | exact Zgl HBx.out HBy.out (Fr.undrew (by assumption)) | exact Zkl HBx.out HBy.out (Fr.undrew (by assumption)) (by omega) (by omega))
  (first
   | (go_at_call 103
      refine (Zd5 _ _ m n _ (Hu.out.ext HE.out.drew) (Hv.out.ext HE.out.drew) Hm.out Hn.out).mono ?_
      rintro e w1 ⟨u1,rfl,hN1,hF1⟩
      rw [Hk.out] at hN1
      obtain ⟨A1,l1,c1,rfl⟩:=hN1.slice)
   | (go_at_call 61
      refine (ZbQ _ _ _ _ (by assumption)).mono ?_
      rintro e w2 ⟨s2,rfl,hs2,hF2⟩
      have hF3:Ext wb.drew w2:=Fr.ext (by assumption) hF2
      obtain ⟨z0,z1,z2,z3⟩:=(HBr.out.ext (Fr.undrew hF3)).cell2))
 go_wp2
 exact ZcP rfl rfl (by omega) HE.out HBr.out (Fr.undrew hF3) (hN1.ext hF2) hs2.out Hz.out
set_option maxHeartbeats 4000000 in
theorem Zkn (u v:Value) (m n k:Nat) (z:Int) (w:World) (hu:Zar w u m) (hv:Zar w v n) (hm:ml m≤1048576) (hn:ml n≤1048576) (hk:m * n=k) (hz:z=sg true k) :
 Calls Tryz.prog 74 #[.agg #[.bool false,u], .agg #[.bool true,v]] w (Zba w z):=by
 have Hu:=zh hu
 have Hv:=zh hv
 have Hm:=zh hm
 have Hn:=zh hn
 have Hk:=zh hk
 have Hz:=zh hz
 clear hu hv hm hn hk hz
 go_enter Tryz.func74,Tryz.ntmps74
 go_wp2
 generalize hwb:World.alloc (World.alloc (World.alloc w _) _) _=wb
 obtain ⟨hBx,hBy,hBr,Q⟩:=ZbB hwb
 have HBx:=zh hBx
 have HBy:=zh hBy
 have HBr:=zh hBr
 have HE:=zh Q
 clear hwb hBx hBy hBr Q
 go_region_held3 (fun w'=>w'.cell? ⟨w.heap.size,0,none⟩=some (.bool false)∧w'.cell? ⟨w.heap.size,1,none⟩=some (u)∧w'.cell? ⟨w.heap.size + 1,0,none⟩=some (.bool true)∧w'.cell? ⟨w.heap.size + 1,1,none⟩=some (v))
  (first | exact Zgl HBx.out HBy.out (Fr.refl _ _).drew | exact Zgl HBx.out HBy.out (Fr.undrew (by assumption)) | exact Zkl HBx.out HBy.out (Fr.undrew (by assumption)) (by omega) (by omega))
  (first
   | (go_at_call 103
      refine (Zd5 _ _ m n _ (Hu.out.ext HE.out.drew) (Hv.out.ext HE.out.drew) Hm.out Hn.out).mono ?_
      rintro e w1 ⟨u1,rfl,hN1,hF1⟩
      rw [Hk.out] at hN1
      obtain ⟨A1,l1,c1,rfl⟩:=hN1.slice)
   | (go_at_call 61
      refine (ZbQ _ _ _ _ (by assumption)).mono ?_
      rintro e w2 ⟨s2,rfl,hs2,hF2⟩
      have hF3:Ext wb.drew w2:=Fr.ext (by assumption) hF2
      obtain ⟨z0,z1,z2,z3⟩:=(HBr.out.ext (Fr.undrew hF3)).cell2))
 go_wp2
 exact ZcP rfl rfl (by omega) HE.out HBr.out (Fr.undrew hF3) (hN1.ext hF2) hs2.out Hz.out
set_option maxHeartbeats 4000000 in
theorem Zko (u v:Value) (m n k:Nat) (z:Int) (w:World) (hu:Zar w u m) (hv:Zar w v n) (hm:ml m≤1048576) (hn:ml n≤1048576) (hk:m * n=k) (hz:z=sg true k) :
 Calls Tryz.prog 74 #[.agg #[.bool true,u], .agg #[.bool false,v]] w (Zba w z):=by
 have Hu:=zh hu
 have Hv:=zh hv
 have Hm:=zh hm
 have Hn:=zh hn
 have Hk:=zh hk
 have Hz:=zh hz
 clear hu hv hm hn hk hz
 go_enter Tryz.func74,Tryz.ntmps74
 go_wp2
 generalize hwb:World.alloc (World.alloc (World.alloc w _) _) _=wb
 obtain ⟨hBx,hBy,hBr,Q⟩:=ZbB hwb
 have HBx:=zh hBx
 have HBy:=zh hBy
 have HBr:=zh hBr
 have HE:=zh Q
 clear hwb hBx hBy hBr Q
 go_region_held3 (fun w'=>w'.cell? ⟨w.heap.size,0,none⟩=some (.bool true)∧w'.cell? ⟨w.heap.size,1,none⟩=some (u)∧w'.cell? ⟨w.heap.size + 1,0,none⟩=some (.bool false)∧w'.cell? ⟨w.heap.size + 1,1,none⟩=some (v))
  (first | exact Zgl HBx.out HBy.out (Fr.refl _ _).drew | exact Zgl HBx.out HBy.out (Fr.undrew (by assumption)) | exact Zkl HBx.out HBy.out (Fr.undrew (by assumption)) (by omega) (by omega))
  (first
   | (go_at_call 103
      refine (Zd5 _ _ m n _ (Hu.out.ext HE.out.drew) (Hv.out.ext HE.out.drew) Hm.out Hn.out).mono ?_
      rintro e w1 ⟨u1,rfl,hN1,hF1⟩
      rw [Hk.out] at hN1
      obtain ⟨A1,l1,c1,rfl⟩:=hN1.slice)
   | (go_at_call 61
      refine (ZbQ _ _ _ _ (by assumption)).mono ?_
      rintro e w2 ⟨s2,rfl,hs2,hF2⟩
      have hF3:Ext wb.drew w2:=Fr.ext (by assumption) hF2
      obtain ⟨z0,z1,z2,z3⟩:=(HBr.out.ext (Fr.undrew hF3)).cell2))
 go_wp2
 exact ZcP rfl rfl (by omega) HE.out HBr.out (Fr.undrew hF3) (hN1.ext hF2) hs2.out Hz.out
set_option maxHeartbeats 4000000 in
theorem Zk3 (u v:Value) (m n k:Nat) (z:Int) (w:World) (hu:Zar w u m) (hv:Zar w v n) (hm:ml m≤1048576) (hn:ml n≤1048576) (hk:m * n=k) (hz:z=sg false k) :
 Calls Tryz.prog 74 #[.agg #[.bool true,u], .agg #[.bool true,v]] w (Zba w z):=by
 have Hu:=zh hu
 have Hv:=zh hv
 have Hm:=zh hm
 have Hn:=zh hn
 have Hk:=zh hk
 have Hz:=zh hz
 clear hu hv hm hn hk hz
 go_enter Tryz.func74,Tryz.ntmps74
 go_wp2
 generalize hwb:World.alloc (World.alloc (World.alloc w _) _) _=wb
 obtain ⟨hBx,hBy,hBr,Q⟩:=ZbB hwb
 have HBx:=zh hBx
 have HBy:=zh hBy
 have HBr:=zh hBr
 have HE:=zh Q
 clear hwb hBx hBy hBr Q
 go_region_held3 (fun w'=>w'.cell? ⟨w.heap.size,0,none⟩=some (.bool true)∧w'.cell? ⟨w.heap.size,1,none⟩=some (u)∧w'.cell? ⟨w.heap.size + 1,0,none⟩=some (.bool true)∧w'.cell? ⟨w.heap.size + 1,1,none⟩=some (v))
  (first | exact Zgl HBx.out HBy.out (Fr.refl _ _).drew | exact Zgl HBx.out HBy.out (Fr.undrew (by assumption)) | exact Zkl HBx.out HBy.out (Fr.undrew (by assumption)) (by omega) (by omega))
  (first
   | (go_at_call 103
      refine (Zd5 _ _ m n _ (Hu.out.ext HE.out.drew) (Hv.out.ext HE.out.drew) Hm.out Hn.out).mono ?_
      rintro e w1 ⟨u1,rfl,hN1,hF1⟩
      rw [Hk.out] at hN1
      obtain ⟨A1,l1,c1,rfl⟩:=hN1.slice)
   | (go_at_call 61
      refine (ZbQ _ _ _ _ (by assumption)).mono ?_
      rintro e w2 ⟨s2,rfl,hs2,hF2⟩
      have hF3:Ext wb.drew w2:=Fr.ext (by assumption) hF2
      obtain ⟨z0,z1,z2,z3⟩:=(HBr.out.ext (Fr.undrew hF3)).cell2))
 go_wp2
 exact ZcP rfl rfl (by omega) HE.out HBr.out (Fr.undrew hF3) (hN1.ext hF2) hs2.out Hz.out
set_option maxHeartbeats 4000000 in
theorem ZhW (u v:Value) (m n k:Nat) (z:Int) (w:World) (hu:Zar w u m) (hv:Zar w v n) (hm:ml m≤1048576) (hn:ml n≤1048576) (hle:n≤m) (hk:m - n=k) (hz:z=sg false k) :
 Calls Tryz.prog 77 #[.agg #[.bool false,u], .agg #[.bool true,v]] w (Zba w z):=by
 have Hu:=zh hu
 have Hv:=zh hv
 have Hm:=zh hm
 have Hn:=zh hn
 have Hle:=zh hle
 have Hk:=zh hk
 have Hz:=zh hz
 clear hu hv hm hn hle hk hz
 go_enter Tryz.func77,Tryz.ntmps77
 go_wp2_with fail
 generalize hwb:World.alloc (World.alloc (World.alloc w _) _) _=wb
 obtain ⟨hBx,hBy,hBr,Q⟩:=ZbB hwb
 have HBx:=zh hBx
 have HBy:=zh hBy
 have HBr:=zh hBr
 have HE:=zh Q
 clear hwb hBx hBy hBr Q
 have cc1:=HBx.out.cell2.2.1
 have cc2:=HBy.out.cell2.2.1
 go_wp2_with fail
 clear cc1 cc2
 refine (Zd6 u v m n _ (Hu.out.ext HE.out) (Hv.out.ext HE.out) Hm.out Hn.out).mono ?_
 rintro e w' ⟨rfl,nd,hw'⟩
 obtain ⟨q,hq⟩:∃ q,cmpI m n=q:=⟨_,rfl⟩
 have hq0:(0:Int)≤q:=by rw [← hq]; exact Zee Hle.out
 rw [hq]
 replace HBx:=zh (show Blk _ w' _ _ from hw' ▸ HBx.out.drewN nd)
 replace HBy:=zh (show Blk _ w' _ _ from hw' ▸ HBy.out.drewN nd)
 replace HBr:=zh (show Blk _ w' _ _ from hw' ▸ HBr.out.drewN nd)
 replace HE:=zh (show Ext w w' from hw' ▸ HE.out.drewN nd)
 clear hw' hq
 clear wb
 obtain ⟨wb,ewb⟩:∃ wb,w'=wb:=⟨_,rfl⟩
 subst ewb
 go_wp2_with fail
 go_region_held3 (fun w'=>w'.cell? ⟨w.heap.size,0,none⟩=some (.bool false)∧w'.cell? ⟨w.heap.size,1,none⟩=some (u)∧w'.cell? ⟨w.heap.size + 1,1,none⟩=some (v))
  (first | exact Zei HBx.out HBy.out (Fr.refl _ _).drew | exact Zei HBx.out HBy.out (Fr.undrew (by assumption)) | exact ZgL HBx.out HBy.out (Fr.undrew (by assumption)) (by omega) (by omega))
  (first
   | (go_at_call 117
      refine (Zfv _ _ m n _ (Hu.out.ext HE.out.drew) (Hv.out.ext HE.out.drew) Hm.out (by have:=Hle.out; omega)).mono ?_
      rintro e w1 ⟨u1,rfl,hN1,hF1⟩
      rw [Hk.out] at hN1
      obtain ⟨A1,l1,c1,rfl⟩:=hN1.slice)
   | (go_at_call 61
      refine (ZbQ _ _ _ _ (by assumption)).mono ?_
      rintro e w2 ⟨s2,rfl,hs2,hF2⟩
      have hF3:Ext w'.drew w2:=Fr.ext (by assumption) hF2
      obtain ⟨z0,z1,z2,z3⟩:=(HBr.out.ext (Fr.undrew hF3)).cell2))
 go_wp2
 exact ZcP rfl rfl (by omega) HE.out HBr.out (Fr.undrew hF3) (hN1.ext hF2) hs2.out Hz.out
set_option maxHeartbeats 4000000 in
theorem ZhX (u v:Value) (m n k:Nat) (z:Int) (w:World) (hu:Zar w u m) (hv:Zar w v n) (hm:ml m≤1048576) (hn:ml n≤1048576) (hle:m < n) (hk:n - m=k) (hz:z=sg true k) :
 Calls Tryz.prog 77 #[.agg #[.bool false,u], .agg #[.bool true,v]] w (Zba w z):=by
 have Hu:=zh hu
 have Hv:=zh hv
 have Hm:=zh hm
 have Hn:=zh hn
 have Hle:=zh hle
 have Hk:=zh hk
 have Hz:=zh hz
 clear hu hv hm hn hle hk hz
 go_enter Tryz.func77,Tryz.ntmps77
 go_wp2_with fail
 generalize hwb:World.alloc (World.alloc (World.alloc w _) _) _=wb
 obtain ⟨hBx,hBy,hBr,Q⟩:=ZbB hwb
 have HBx:=zh hBx
 have HBy:=zh hBy
 have HBr:=zh hBr
 have HE:=zh Q
 clear hwb hBx hBy hBr Q
 have cc1:=HBx.out.cell2.2.1
 have cc2:=HBy.out.cell2.2.1
 go_wp2_with fail
 clear cc1 cc2
 refine (Zd6 u v m n _ (Hu.out.ext HE.out) (Hv.out.ext HE.out) Hm.out Hn.out).mono ?_
 rintro e w' ⟨rfl,nd,hw'⟩
 obtain ⟨q,hq⟩:∃ q,cmpI m n=q:=⟨_,rfl⟩
 have hq0:q < 0:=by rw [← hq]; exact Zdh.2 Hle.out
 rw [hq]
 replace HBx:=zh (show Blk _ w' _ _ from hw' ▸ HBx.out.drewN nd)
 replace HBy:=zh (show Blk _ w' _ _ from hw' ▸ HBy.out.drewN nd)
 replace HBr:=zh (show Blk _ w' _ _ from hw' ▸ HBr.out.drewN nd)
 replace HE:=zh (show Ext w w' from hw' ▸ HE.out.drewN nd)
 clear hw' hq
 clear wb
 obtain ⟨wb,ewb⟩:∃ wb,w'=wb:=⟨_,rfl⟩
 subst ewb
 go_wp2_with fail
 go_region_held3 (fun w'=>w'.cell? ⟨w.heap.size + 1,0,none⟩=some (.bool true)∧w'.cell? ⟨w.heap.size + 1,1,none⟩=some (v)∧w'.cell? ⟨w.heap.size,1,none⟩=some (u))
  (first | exact Zei HBy.out HBx.out (Fr.refl _ _).drew | exact Zei HBy.out HBx.out (Fr.undrew (by assumption)) | exact ZgL HBy.out HBx.out (Fr.undrew (by assumption)) (by omega) (by omega))
  (first
   | (go_at_call 117
      refine (Zfv _ _ n m _ (Hv.out.ext HE.out.drew) (Hu.out.ext HE.out.drew) Hn.out (by have:=Hle.out; omega)).mono ?_
      rintro e w1 ⟨u1,rfl,hN1,hF1⟩
      rw [Hk.out] at hN1
      obtain ⟨A1,l1,c1,rfl⟩:=hN1.slice)
   | (go_at_call 61
      refine (ZbQ _ _ _ _ (by assumption)).mono ?_
      rintro e w2 ⟨s2,rfl,hs2,hF2⟩
      have hF3:Ext w'.drew w2:=Fr.ext (by assumption) hF2
      obtain ⟨z0,z1,z2,z3⟩:=(HBr.out.ext (Fr.undrew hF3)).cell2))
 go_wp2
 exact ZcP rfl rfl (by omega) HE.out HBr.out (Fr.undrew hF3) (hN1.ext hF2) hs2.out Hz.out
set_option maxHeartbeats 4000000 in
theorem Zi1 (u v:Value) (m n k:Nat) (z:Int) (w:World) (hu:Zar w u m) (hv:Zar w v n) (hm:ml m≤1048576) (hn:ml n≤1048576) (hle:n≤m) (hk:m - n=k) (hz:z=sg true k) :
 Calls Tryz.prog 77 #[.agg #[.bool true,u], .agg #[.bool false,v]] w (Zba w z):=by
 have Hu:=zh hu
 have Hv:=zh hv
 have Hm:=zh hm
 have Hn:=zh hn
 have Hle:=zh hle
 have Hk:=zh hk
 have Hz:=zh hz
 clear hu hv hm hn hle hk hz
 go_enter Tryz.func77,Tryz.ntmps77
 go_wp2_with fail
 generalize hwb:World.alloc (World.alloc (World.alloc w _) _) _=wb
 obtain ⟨hBx,hBy,hBr,Q⟩:=ZbB hwb
 have HBx:=zh hBx
 have HBy:=zh hBy
 have HBr:=zh hBr
 have HE:=zh Q
 clear hwb hBx hBy hBr Q
 have cc1:=HBx.out.cell2.2.1
 have cc2:=HBy.out.cell2.2.1
 go_wp2_with fail
 clear cc1 cc2
 refine (Zd6 u v m n _ (Hu.out.ext HE.out) (Hv.out.ext HE.out) Hm.out Hn.out).mono ?_
 rintro e w' ⟨rfl,nd,hw'⟩
 obtain ⟨q,hq⟩:∃ q,cmpI m n=q:=⟨_,rfl⟩
 have hq0:(0:Int)≤q:=by rw [← hq]; exact Zee Hle.out
 rw [hq]
 replace HBx:=zh (show Blk _ w' _ _ from hw' ▸ HBx.out.drewN nd)
 replace HBy:=zh (show Blk _ w' _ _ from hw' ▸ HBy.out.drewN nd)
 replace HBr:=zh (show Blk _ w' _ _ from hw' ▸ HBr.out.drewN nd)
 replace HE:=zh (show Ext w w' from hw' ▸ HE.out.drewN nd)
 clear hw' hq
 clear wb
 obtain ⟨wb,ewb⟩:∃ wb,w'=wb:=⟨_,rfl⟩
 subst ewb
 go_wp2_with fail
 go_region_held3 (fun w'=>w'.cell? ⟨w.heap.size,0,none⟩=some (.bool true)∧w'.cell? ⟨w.heap.size,1,none⟩=some (u)∧w'.cell? ⟨w.heap.size + 1,1,none⟩=some (v))
  (first | exact Zei HBx.out HBy.out (Fr.refl _ _).drew | exact Zei HBx.out HBy.out (Fr.undrew (by assumption)) | exact ZgL HBx.out HBy.out (Fr.undrew (by assumption)) (by omega) (by omega))
  (first
   | (go_at_call 117
      refine (Zfv _ _ m n _ (Hu.out.ext HE.out.drew) (Hv.out.ext HE.out.drew) Hm.out (by have:=Hle.out; omega)).mono ?_
      rintro e w1 ⟨u1,rfl,hN1,hF1⟩
      rw [Hk.out] at hN1
      obtain ⟨A1,l1,c1,rfl⟩:=hN1.slice)
   | (go_at_call 61
      refine (ZbQ _ _ _ _ (by assumption)).mono ?_
      rintro e w2 ⟨s2,rfl,hs2,hF2⟩
      have hF3:Ext w'.drew w2:=Fr.ext (by assumption) hF2
      obtain ⟨z0,z1,z2,z3⟩:=(HBr.out.ext (Fr.undrew hF3)).cell2))
 go_wp2
 exact ZcP rfl rfl (by omega) HE.out HBr.out (Fr.undrew hF3) (hN1.ext hF2) hs2.out Hz.out
set_option maxHeartbeats 4000000 in
theorem Zi2 (u v:Value) (m n k:Nat) (z:Int) (w:World) (hu:Zar w u m) (hv:Zar w v n) (hm:ml m≤1048576) (hn:ml n≤1048576) (hle:m < n) (hk:n - m=k) (hz:z=sg false k) :
 Calls Tryz.prog 77 #[.agg #[.bool true,u], .agg #[.bool false,v]] w (Zba w z):=by
 have Hu:=zh hu
 have Hv:=zh hv
 have Hm:=zh hm
 have Hn:=zh hn
 have Hle:=zh hle
 have Hk:=zh hk
 have Hz:=zh hz
 clear hu hv hm hn hle hk hz
 go_enter Tryz.func77,Tryz.ntmps77
 go_wp2_with fail
 generalize hwb:World.alloc (World.alloc (World.alloc w _) _) _=wb
 obtain ⟨hBx,hBy,hBr,Q⟩:=ZbB hwb
 have HBx:=zh hBx
 have HBy:=zh hBy
 have HBr:=zh hBr
 have HE:=zh Q
 clear hwb hBx hBy hBr Q
 have cc1:=HBx.out.cell2.2.1
 have cc2:=HBy.out.cell2.2.1
 go_wp2_with fail
 clear cc1 cc2
 refine (Zd6 u v m n _ (Hu.out.ext HE.out) (Hv.out.ext HE.out) Hm.out Hn.out).mono ?_
 rintro e w' ⟨rfl,nd,hw'⟩
 obtain ⟨q,hq⟩:∃ q,cmpI m n=q:=⟨_,rfl⟩
 have hq0:q < 0:=by rw [← hq]; exact Zdh.2 Hle.out
 rw [hq]
 replace HBx:=zh (show Blk _ w' _ _ from hw' ▸ HBx.out.drewN nd)
 replace HBy:=zh (show Blk _ w' _ _ from hw' ▸ HBy.out.drewN nd)
 replace HBr:=zh (show Blk _ w' _ _ from hw' ▸ HBr.out.drewN nd)
 replace HE:=zh (show Ext w w' from hw' ▸ HE.out.drewN nd)
 clear hw' hq
 clear wb
 obtain ⟨wb,ewb⟩:∃ wb,w'=wb:=⟨_,rfl⟩
 subst ewb
 go_wp2_with fail
 go_region_held3 (fun w'=>w'.cell? ⟨w.heap.size + 1,0,none⟩=some (.bool false)∧w'.cell? ⟨w.heap.size + 1,1,none⟩=some (v)∧w'.cell? ⟨w.heap.size,1,none⟩=some (u))
  (first | exact Zei HBy.out HBx.out (Fr.refl _ _).drew | exact Zei HBy.out HBx.out (Fr.undrew (by assumption)) | exact ZgL HBy.out HBx.out (Fr.undrew (by assumption)) (by omega) (by omega))
  (first
   | (go_at_call 117
      refine (Zfv _ _ n m _ (Hv.out.ext HE.out.drew) (Hu.out.ext HE.out.drew) Hn.out (by have:=Hle.out; omega)).mono ?_
      rintro e w1 ⟨u1,rfl,hN1,hF1⟩
      rw [Hk.out] at hN1
      obtain ⟨A1,l1,c1,rfl⟩:=hN1.slice)
   | (go_at_call 61
      refine (ZbQ _ _ _ _ (by assumption)).mono ?_
      rintro e w2 ⟨s2,rfl,hs2,hF2⟩
      have hF3:Ext w'.drew w2:=Fr.ext (by assumption) hF2
      obtain ⟨z0,z1,z2,z3⟩:=(HBr.out.ext (Fr.undrew hF3)).cell2))
 go_wp2
 exact ZcP rfl rfl (by omega) HE.out HBr.out (Fr.undrew hF3) (hN1.ext hF2) hs2.out Hz.out
theorem Zai.open {w:World} {v:Value} {z:Int} (h:Zai w v z):∃ (s:Bool) (A:Option Addr) (l c:Nat),v=.agg #[.bool s, .slice A l c]∧Zar w (.slice A l c) z.natAbs∧z=sg s z.natAbs∧(z=0→s=false):=by
 obtain ⟨s,u,n,h1,h2,h3,h4⟩:=h
 obtain ⟨A,l,c,rfl⟩:=h2.slice
 have hn:z.natAbs=n:=by cases s<;>simp at h4<;>omega
 refine ⟨s,A,l,c,h1,hn ▸ h2,?_,?_⟩
 ·rw [hn]; exact h4
 ·intro hz; exact h3 (by omega)
def ZaM (z:Int):Prop:=ml z.natAbs≤1048576
theorem ZfZ (a b:Value) (x y:Int) (w:World) (ha:Zai w a x) (hb:Zai w b y) (hx:ZaM x) (hy:ZaM y):Calls Tryz.prog 77 #[a,b] w (Zba w (x + y)):=by
 obtain ⟨s,A,l,c,rfl,hN,hz,h0⟩:=ha.open
 obtain ⟨t,A',l',c',rfl,hN',hz',h0'⟩:=hb.open
 unfold ZaM at hx hy
 cases s<;>cases t<;>simp only [sg,if_true,if_false,Bool.false_eq_true] at hz hz'
 ·exact Zkm _ _ _ _ _ _ w hN hN' (by omega) (by omega) rfl (by simp [sg]; omega)
 ·rcases Nat.lt_or_ge x.natAbs y.natAbs with h | h
  ·exact ZhX _ _ _ _ _ _ w hN hN' (by omega) (by omega) h rfl (by simp [sg]; omega)
  ·exact ZhW _ _ _ _ _ _ w hN hN' (by omega) (by omega) h rfl (by simp [sg]; omega)
 ·rcases Nat.lt_or_ge x.natAbs y.natAbs with h | h
  ·exact Zi2 _ _ _ _ _ _ w hN hN' (by omega) (by omega) h rfl (by simp [sg]; omega)
  ·exact Zi1 _ _ _ _ _ _ w hN hN' (by omega) (by omega) h rfl (by simp [sg]; omega)
 ·exact Zk2 _ _ _ _ _ _ w hN hN' (by omega) (by omega) rfl (by simp [sg]; omega)
theorem ZeT (a b:Value) (x y:Int) (w:World) (ha:Zai w a x) (hb:Zai w b y) (hx:ZaM x) (hy:ZaM y):Calls Tryz.prog 74 #[a,b] w (Zba w (x * y)):=by
 obtain ⟨s,A,l,c,rfl,hN,hz,h0⟩:=ha.open
 obtain ⟨t,A',l',c',rfl,hN',hz',h0'⟩:=hb.open
 unfold ZaM at hx hy
 generalize x.natAbs=m at *
 generalize y.natAbs=n at *
 subst hz hz'
 cases s<;>cases t
 ·exact ZjB _ _ _ _ _ _ w hN hN' (by omega) (by omega) rfl (by simp [sg])
 ·exact Zkn _ _ _ _ _ _ w hN hN' (by omega) (by omega) rfl (by simp [sg,Int.mul_neg])
 ·exact Zko _ _ _ _ _ _ w hN hN' (by omega) (by omega) rfl (by simp [sg,Int.neg_mul])
 ·exact Zk3 _ _ _ _ _ _ w hN hN' (by omega) (by omega) rfl (by simp [sg,Int.neg_mul,Int.mul_neg])
end Go.Proofs.YtklpdkpcocnglaaGreatDoor

namespace Go.Proofs.YtklpdkpcocnglaaGreatDoor
open Go.RowKit
theorem Ztn (w:World) (lo hi:Nat):Own .u32 102 (w.alloc (.cells #[.int .u32 (lo:Int), .int .u32 (hi:Int)] 102)) w.heap.size [lo,hi]:=by
 have:=Own.new w 102 .u32 [lo,hi] []
 exact this
theorem Zkp {w wb:World} {lo hi:Nat} {x y:Value} (h:(w.alloc (.cells #[x,y] 32)).alloc (.cells #[.int .u32 (lo:Int), .int .u32 (hi:Int)] 102)=wb) :
 Hid (Blk 32 wb w.heap.size #[x,y])∧Hid (Own .u32 102 wb (w.heap.size + 1) [lo,hi])∧Hid (Ext w wb):=by
 subst h
 have e1:(w.alloc (.cells #[x,y] 32)).heap.size=w.heap.size + 1:=by simp
 have h2:=Ztn (w.alloc (.cells #[x,y] 32)) lo hi
 rw [e1] at h2
 exact ⟨(Blk.new _ _ _).alloc _,h2,((Fr.refl _ _).alloc _).alloc _⟩
theorem ZoV (m:Nat):val W32 [m % W32,m / W32]=m:=by
 simp only [Zcr,Zdt,Nat.mul_zero,Nat.add_zero]
 exact Nat.mod_add_div m W32
theorem ZoW {m:Nat} (h:m < W64):Dig W32 [m % W32,m / W32]:=by
 refine Dig.nil.cons ?_ |>.cons (Nat.mod_lt _ Zau)
 exact Nat.div_lt_of_lt_mul (by rw [Zed]; exact h)
set_option maxHeartbeats 1000000 in
theorem Zm2 (m:Nat) (w:World) (hm:m≤9223372036854775807):Calls Tryz.prog 24 #[.int .i64 (m:Int)] w (Zba w (m:Int)):=by
 have hW:m < W64:=by rw [Zam]; omega
 have HV:=zh (ZoV m)
 have HD:=zh (ZoW hW)
 have q0:=ZaS m hW
 have q1:=ZbX m
 have q2:=hi32 m
 have hh:m / W32 < W32:=Nat.div_lt_of_lt_mul (by rw [Zed]; exact hW)
 have q3:=ZbX (m / W32)
 rw [Nat.mod_eq_of_lt hh] at q3
 have hn:¬ ((m:Int) < 0):=by omega
 obtain ⟨lo,elo⟩:∃ lo,m % W32=lo:=⟨_,rfl⟩
 obtain ⟨hi,ehi⟩:∃ hi,m / W32=hi:=⟨_,rfl⟩
 rw [elo] at q1 HV HD
 rw [ehi] at q2 q3 HV HD
 clear hh elo ehi hW
 go_enter Tryz.func24,Tryz.ntmps24
 go_wp2_with fail
 generalize hwb:World.alloc (World.alloc w _) _=wb
 obtain ⟨HBr,HO,HE⟩:=Zkp hwb
 clear hwb
 refine (Zbs _ [lo,hi] _ _ wb rfl HO.out.shows0 (by simp) (by simp)).mono ?_
 rintro e w' ⟨rfl,rfl⟩
 have HN:=zh (Zar.of_own (c:=2) HO.out HD.out (by simp))
 rw [HV.out] at HN
 obtain ⟨l,el⟩:∃ l,ZaZ [lo,hi] [lo,hi].length=l:=⟨_,rfl⟩
 rw [el] at HN ⊢
 clear el
 go_wp2_with fail
 refine (ZbQ _ _ _ _ HN.out).mono ?_
 rintro e w2 ⟨s2,rfl,hs2,hF2⟩
 obtain ⟨z0,z1,z2,z3⟩:=(HBr.out.ext hF2).cell2
 have HF2:=zh hF2
 clear hF2
 go_wp2
 exact ZcP rfl rfl (by omega) HE.out HBr.out HF2.out (HN.out.ext HF2.out) hs2.out (by simp [sg])
set_option maxHeartbeats 1000000 in
theorem Zm3 (m:Nat) (w:World) (hm:m≤9223372036854775808) (h1:1≤m):Calls Tryz.prog 24 #[.int .i64 (-(m:Int))] w (Zba w (-(m:Int))):=by
 have hW:m < W64:=by rw [Zam]; omega
 have HV:=zh (ZoV m)
 have HD:=zh (ZoW hW)
 have q0:IntKind.u64.wrap (-IntKind.u64.wrap (-(m:Int)))=(m:Int):=by
  rw [Zam] at hW
  rw [IntKind.wrap_u64,IntKind.wrap_u64]; omega
 have q1:=ZbX m
 have q2:=hi32 m
 have hh:m / W32 < W32:=Nat.div_lt_of_lt_mul (by rw [Zed]; exact hW)
 have q3:=ZbX (m / W32)
 rw [Nat.mod_eq_of_lt hh] at q3
 have hn:(-(m:Int)) < 0:=by omega
 obtain ⟨lo,elo⟩:∃ lo,m % W32=lo:=⟨_,rfl⟩
 obtain ⟨hi,ehi⟩:∃ hi,m / W32=hi:=⟨_,rfl⟩
 rw [elo] at q1 HV HD
 rw [ehi] at q2 q3 HV HD
 clear hh elo ehi hW
 go_enter Tryz.func24,Tryz.ntmps24
 go_wp2_with fail
 generalize hwb:World.alloc (World.alloc w _) _=wb
 obtain ⟨HBr,HO,HE⟩:=Zkp hwb
 clear hwb
 refine (Zbs _ [lo,hi] _ _ wb rfl HO.out.shows0 (by simp) (by simp)).mono ?_
 rintro e w' ⟨rfl,rfl⟩
 have HN:=zh (Zar.of_own (c:=2) HO.out HD.out (by simp))
 rw [HV.out] at HN
 obtain ⟨l,el⟩:∃ l,ZaZ [lo,hi] [lo,hi].length=l:=⟨_,rfl⟩
 rw [el] at HN ⊢
 clear el
 go_wp2_with fail
 refine (ZbQ _ _ _ _ HN.out).mono ?_
 rintro e w2 ⟨s2,rfl,hs2,hF2⟩
 obtain ⟨z0,z1,z2,z3⟩:=(HBr.out.ext hF2).cell2
 have HF2:=zh hF2
 clear hF2
 go_wp2
 exact ZcP rfl rfl (by omega) HE.out HBr.out HF2.out (HN.out.ext HF2.out) hs2.out (by simp [sg])
theorem ZeH (z:Int) (w:World) (h1 : -9223372036854775808≤z) (h2:z≤9223372036854775807):Calls Tryz.prog 24 #[.int .i64 z] w (Zba w z):=by
 by_cases h:0≤z
 ·obtain ⟨m,rfl⟩:=Int.eq_ofNat_of_zero_le h
  exact Zm2 m w (by omega)
 ·obtain ⟨m,hm⟩:=Int.eq_ofNat_of_zero_le (a := -z) (by omega)
  obtain rfl:z = -(m:Int):=by omega
  exact Zm3 m w (by omega) (by omega)
end Go.Proofs.YtklpdkpcocnglaaGreatDoor

namespace Go.Proofs.YtklpdkpcocnglaaGreatDoor
open Go.RowKit
theorem ZcS.shape {w:World} {v:Value} {z:Int} (h:ZcS w v z):∃ (s:Bool) (A:Option Addr) (l c:Nat),v=.agg #[.bool s, .slice A l c]:=by
 obtain ⟨s,A,l,c,h,_⟩:=h.open
 exact ⟨s,A,l,c,h⟩
end Go.Proofs.YtklpdkpcocnglaaGreatDoor
