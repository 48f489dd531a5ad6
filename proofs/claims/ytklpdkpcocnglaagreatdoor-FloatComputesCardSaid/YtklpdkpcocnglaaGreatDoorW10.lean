/-
 My texts Int, Int2, Int3, Num4, Num5 put together.
-/
import Derived.Test.YtklpdkpcocnglaaGreatDoorW07
import Derived.Test.YtklpdkpcocnglaaGreatDoorW01
import Derived.Deep.RegionHeld3
set_option maxRecDepth 100000
set_option maxHeartbeats 8000000
namespace Go.Proofs.YtklpdkpcocnglaaGreatDoor
open Go.RowKit
def fE (w:World) (v:Value) (z:Int):Prop :=
 ∃ (neg:Bool) (u:Value) (n:Nat),v=.agg #[.bool neg,u]∧zJ w u n∧(n=0→neg=false)∧z=(if neg then -(n:Int) else (n:Int))
def Zfg (w:World) (z:Int) (e:Ending) (w':World):Prop:=∃ v,e=.returned v∧fE w' v z∧Ext w w'
def sg (neg:Bool) (n:Nat):Int:=if neg then -(n:Int) else (n:Int)
theorem fE.signed {w:World}{neg s:Bool}{u:Value}{n:Nat}(a:zJ w u n)(b:s=(neg && decide (0<n))):fE w (.agg #[.bool s,u]) (sg neg n):=by
 subst b
 refine⟨_,u,n,rfl,a,?_,?_⟩
 ·rintro rfl;simp
 cases neg
 ·simp[sg]
 rcases uH n with rfl|h
 ·simp[sg]
 simp[sg,h]
theorem Zje {fn:Func}{t:Tmp}(h:fn.results=#[.cell t 127])(a:Array Value)(w:World)(b:Nat)(x y:Value)(d:a[t]? = some (.pointer (some ⟨b,0,none⟩)))(c:Blk 127 w b #[x,y]):(results fn a).run Tryz.prog w=.ok (.agg #[x,y]) w:=by
 have e:w.cell? ⟨b,0,none⟩=some x:=c.cell 0
 have f:w.cell? ⟨b,1,none⟩=some y:=c.cell 1
 simp[results,h,d,go_sem,e,f]
theorem Blk.cell2 {t:TypeId}{w:World}{g:Nat}{x y:Value}(h:Blk t w g #[x,y]):w.cell? ⟨g,0,none⟩=some x∧w.cell? ⟨g,1,none⟩=some y∧w.frozen? ⟨g,0,none⟩=false∧w.frozen? ⟨g,1,none⟩=false :=
 ⟨h.cell 0,h.cell 1,h.frozen 0,h.frozen 1⟩
theorem bG {t:TypeId}{w w':World}{g b:Nat}{x y c y':Value}(h:Blk t w g #[x,y])(d:Blk t w b #[c,y'])(a:Ext w w') :
 w'.cell? ⟨g,0,none⟩=some x∧w'.cell? ⟨g,1,none⟩=some y∧w'.cell? ⟨b,1,none⟩=some y' :=
 ⟨(h.ext a).cell 0,(h.ext a).cell 1,(d.ext a).cell 1⟩
theorem Fr.undrew {S:Nat→Prop}{w w':World}(h:Fr S w.drew w'):Fr S w w':=⟨h.os,h.tape,h.output,h.size,h.block⟩
theorem ZbW {t:TypeId}{w w':World}{g e r:Nat}{x y i y' a b:Value}(h:Blk t w g #[x,y])(j:Blk t w e #[i,y'])(f:Ext w w')(d:g≠r)(c:e≠r) :
 ((w'.setCell ⟨r,0,none⟩ a).setCell ⟨r,1,none⟩ b).cell? ⟨g,0,none⟩=some x∧((w'.setCell ⟨r,0,none⟩ a).setCell ⟨r,1,none⟩ b).cell? ⟨g,1,none⟩=some y∧((w'.setCell ⟨r,0,none⟩ a).setCell ⟨r,1,none⟩ b).cell? ⟨e,1,none⟩=some y' :=
 ⟨(((h.ext f).far (p:=⟨r,0,none⟩) d a).far (p:=⟨r,1,none⟩) d b).cell 0,(((h.ext f).far (p:=⟨r,0,none⟩) d a).far (p:=⟨r,1,none⟩) d b).cell 1,(((j.ext f).far (p:=⟨r,0,none⟩) c a).far (p:=⟨r,1,none⟩) c b).cell 1⟩
theorem zJ.slice {w:World}{v:Value}{n:Nat}(h:zJ w v n):∃ A l c,v=.slice A l c:=by
 obtain⟨A,a,c,h,_⟩:=h
 exact⟨A,_,c,h⟩
theorem kQ {t:TypeId}{w wb:World}{x y z:Array Value}(h:((w.alloc (.cells x t)).alloc (.cells y t)).alloc (.cells z t)=wb) :
 Blk t wb w.heap.size x∧Blk t wb (w.heap.size+1) y∧Blk t wb (w.heap.size+1+1) z∧Ext w wb:=by
 subst h
 have c:(w.alloc (.cells x t)).heap.size=w.heap.size+1:=by simp
 have d:((w.alloc (.cells x t)).alloc (.cells y t)).heap.size=w.heap.size+1+1:=by simp
 have a:=Blk.new (w.alloc (.cells x t)) t y
 have b:=Blk.new ((w.alloc (.cells x t)).alloc (.cells y t)) t z
 rw[c] at a
 rw[d] at b
 exact⟨((Blk.new _ _ _).alloc _).alloc _,a.alloc _,b,(((Fr.refl _ _).alloc _).alloc _).alloc _⟩
theorem zJ.store2 {t:TypeId}{w:World}{r n:Nat}{u a b:Value}{s:Bool}{A:Option Addr}{l c:Nat}(h:zJ w u n)(k:Blk t w r #[.bool s,.slice A l c]):zJ ((w.setCell ⟨r,0,none⟩ a).setCell ⟨r,1,none⟩ b) u n:=by
 obtain⟨m,xs,o,q,v,j,y⟩:=h
 refine⟨m,xs,o,q,v,?_,y⟩
 have z:Fr (fun i=>i=r) w ((w.setCell ⟨r,0,none⟩ a).setCell ⟨r,1,none⟩ b):=((Fr.refl (fun i=>i=r) w).setCell (p:=⟨r,0,none⟩) (Or.inl rfl) a).setCell (p:=⟨r,1,none⟩) (Or.inl rfl) b
 cases xs with
 | nil=>exact zH.nil
 | cons x xs =>
  refine j.fr z (fun E f B e=>?_)
  obtain⟨g,d,C,_,hc⟩:=j.at (i:=0) (by simp)
  rw[C] at f
  injection f with f
  subst f
  simp at e
  subst e
  rw[k.cell] at hc
  rcases vJ d 2 with D|D
  ·rcases (by omega:d=0∨d=1) with rfl|rfl<;>simp at hc
  simp at hc
  rw[List.getElem?_eq_none (by simp;omega)] at hc
  cases hc
theorem ZjR {fn:Func}{t:Tmp}{a:Array Value}{w e d:World}{r n:Nat}{s neg:Bool}{A:Option Addr}{l c:Nat}{z:Int}(b:fn.results=#[.cell t 127])(j:a[t]? = some (.pointer (some ⟨r,0,none⟩)))(h:w.heap.size≤r)(k:Ext w e)(i:Blk 127 e r #[.bool false,.slice none 0 0])(f:Ext e d)(m:zJ d (.slice A l c) n)(o:s=(neg && decide (0<n)))(p:z=sg neg n) :
 bodyPost Tryz.prog fn (Zfg w z) .ret ⟨a,[]⟩ ((d.setCell ⟨r,0,none⟩ (.bool s)).setCell ⟨r,1,none⟩ (.slice A l c)):=by
 have g:Blk 127 ((d.setCell ⟨r,0,none⟩ (.bool s)).setCell ⟨r,1,none⟩ (.slice A l c)) r #[.bool s,.slice A l c]:=((i.ext f).set_ 0 _).set_ 1 _
 refine bodyPost_ret (Zje b _ _ r _ _ j g) rfl ⟨_,rfl,?_,?_⟩
 ·subst p
  exact fE.signed (m.store2 (i.ext f)) o
 exact ((k.trans f).setCell (Or.inr h) _).setCell (Or.inr h) _
theorem Zbt {t:TypeId}{w w':World}{g b:Nat}{x y c y':Value}(h:Blk t w g #[x,y])(d:Blk t w b #[c,y'])(a:Ext w w') :
 w'.cell? ⟨g,0,none⟩=some x∧w'.cell? ⟨g,1,none⟩=some y∧w'.cell? ⟨b,0,none⟩=some c∧w'.cell? ⟨b,1,none⟩=some y' :=
 ⟨(h.ext a).cell 0,(h.ext a).cell 1,(d.ext a).cell 0,(d.ext a).cell 1⟩
theorem Zfh {t:TypeId}{w w':World}{g d r:Nat}{x y i y' a b:Value}(h:Blk t w g #[x,y])(j:Blk t w d #[i,y'])(e:Ext w w')(f:g≠r)(c:d≠r) :
 ((w'.setCell ⟨r,0,none⟩ a).setCell ⟨r,1,none⟩ b).cell? ⟨g,0,none⟩=some x∧((w'.setCell ⟨r,0,none⟩ a).setCell ⟨r,1,none⟩ b).cell? ⟨g,1,none⟩=some y∧((w'.setCell ⟨r,0,none⟩ a).setCell ⟨r,1,none⟩ b).cell? ⟨d,0,none⟩=some i∧((w'.setCell ⟨r,0,none⟩ a).setCell ⟨r,1,none⟩ b).cell? ⟨d,1,none⟩=some y' :=
 ⟨(((h.ext e).far (p:=⟨r,0,none⟩) f a).far (p:=⟨r,1,none⟩) f b).cell 0,(((h.ext e).far (p:=⟨r,0,none⟩) f a).far (p:=⟨r,1,none⟩) f b).cell 1,(((j.ext e).far (p:=⟨r,0,none⟩) c a).far (p:=⟨r,1,none⟩) c b).cell 0,(((j.ext e).far (p:=⟨r,0,none⟩) c a).far (p:=⟨r,1,none⟩) c b).cell 1⟩
theorem cX {a b:Nat}(h:b≤a):0≤cmpI a b:=by
 have:=fM (a:=a) (b:=b);omega
theorem eZ (u v:Value)(m n:Nat)(w:World)(g:zJ w u m)(h:zJ w v n)(i:wl m≤4294967296)(j:wl n≤4294967296) :
 yA 164 #[u,v] w fun e w'=>e=.returned (.int .i64 (cmpI m n))∧∃ n,w'=w.drewN n:=by
 obtain⟨A,k,c,rfl,t,l,a,b,rfl⟩:=g
 obtain⟨o,p,q,rfl,r,s,d,f,rfl⟩:=h
 rw[←xQ a b] at i
 rw[←xQ d f] at j
 exact eF A o k p _ _ c q w rfl rfl l s (by omega) (by omega) a d b f
theorem fE.open {w:World}{v:Value}{z:Int}(h:fE w v z):∃ (s:Bool) (A:Option Addr) (l c:Nat),v=.agg #[.bool s,.slice A l c]∧zJ w (.slice A l c) z.natAbs∧z=sg s z.natAbs∧(z=0→s=false):=by
 obtain⟨s,u,n,d,a,e,h4⟩:=h
 obtain⟨A,l,c,rfl⟩:=a.slice
 have b:z.natAbs=n:=by cases s<;>simp at h4<;>omega
 refine⟨s,A,l,c,d,b ▸ a,?_,?_⟩
 ·rw[b];exact h4
 intro f;exact e (by omega)
def Fits (z:Int):Prop:=wl z.natAbs≤1048576
theorem Zfi {t:TypeId}{w wb:World}{x y:Array Value}(h:(w.alloc (.cells x t)).alloc (.cells y t)=wb):Blk t wb w.heap.size x∧Blk t wb (w.heap.size+1) y∧Ext w wb:=by
 subst h
 have b:(w.alloc (.cells x t)).heap.size=w.heap.size+1:=by simp
 have a:=Blk.new (w.alloc (.cells x t)) t y
 rw[b] at a
 exact⟨(Blk.new _ _ _).alloc _,a,((Fr.refl _ _).alloc _).alloc _⟩
def RetV (w:World) (v:Value) (e:Ending) (w':World):Prop:=e=.returned v∧Ext w w'
theorem zJ.len0 {w:World}{A:Option Addr}{l c n:Nat}(h:zJ w (.slice A l c) n):l=wl n:=by
 obtain⟨d,f,g,e,i,j,a,b,rfl⟩:=h
 injection e with e1 e2 e3
 rw[e2];exact xQ a b
theorem jA {n:Nat}:wl n=0↔n=0:=by
 constructor
 ·intro h;rcases uH n with e|e
  ·exact e
  have:=Zc5 e;omega
 rintro rfl;rfl
theorem Zl5 (a:Value)(x:Int)(w:World)(ha:fE w a x):yA 96 #[a] w (RetV w (.bool (decide (x=1)))):=by
 obtain⟨s,A,l,c,rfl,g,d,j⟩:=ha.open
 have h:=g.len0
 cases s with
 | true =>
  have f:Hid (decide (x=1)=false):=by unfold Hid;simp[sg] at d;simp;omega
  clear g d j ha h
  go_enter Tryz.func96,Tryz.ntmps96
  go_wp2
  go_ret
  exact⟨by rw[f.out];rfl,(Fr.refl _ _).alloc _⟩
 | false =>
  by_cases k:l=1
  ·subst k
   obtain⟨D,o,E,e,r,p,t,u,q⟩:=g
   injection e with e1 e2 e3
   subst e1 e3
   obtain⟨m,rfl⟩:∃ m,o=[m]:=by match o,e2 with | [y],_=>exact⟨y,rfl⟩
   simp at q
   obtain⟨b,v,rfl,z,n⟩:=p.at (i:=0) (by simp)
   simp at n
   have B:=Nat.ne_of_lt z
   have f:Hid (decide (x=1)=((m:Int) == 1)):=by
    unfold Hid;rw[Bool.eq_iff_iff];simp;simp[sg] at d;omega
   clear d j ha h p t u q e2 r
   go_enter Tryz.func96,Tryz.ntmps96
   go_wp2
   go_ret
   exact⟨by rw[f.out];rfl,(Fr.refl _ _).alloc _⟩
  have C:((l:Int) == 1)=false:=by simp;omega
  have f:Hid (decide (x=1)=false):=by
   unfold Hid
   rw[uZ]
   rintro rfl
   apply k
   rw[h]
   rfl
  clear g d j ha h k
  go_enter Tryz.func96,Tryz.ntmps96
  go_wp2
  go_ret
  exact⟨by rw[f.out];rfl,(Fr.refl _ _).alloc _⟩
theorem fE.shape {w:World}{v:Value}{z:Int}(h:fE w v z):∃ (s:Bool) (A:Option Addr) (l c:Nat),v=.agg #[.bool s,.slice A l c]:=by
 obtain⟨s,A,l,c,h,_⟩:=h.open
 exact⟨s,A,l,c,h⟩
def zI (w:World) (v:Value) (z:Int):Prop :=
 ∃ (neg:Bool) (u:Value) (n:Nat),v=.agg #[.bool neg,u]∧zS w u n∧(n=0→neg=false)∧z=(if neg then -(n:Int) else (n:Int))
theorem zI.ext {w w':World}{v:Value}{z:Int}(h:zI w v z)(a:Ext w w'):zI w' v z:=by
 obtain⟨s,u,n,b,c,d⟩:=h
 exact⟨s,u,n,b,c.ext a,d⟩
def wN (w:World) (z:Int) (e:Ending) (w':World):Prop:=∃ v,e=.returned v∧zI w' v z∧Ext w w'
def Zpa (w:World) (neg:Bool) (u:Value) (n:Nat) (e:Ending) (w':World):Prop :=
 ∃ s,e=.returned (.agg #[.bool s,u])∧Hid (s=(neg && decide (0<n)))∧Ext w w'
theorem zI.signed {w:World}{neg s:Bool}{u:Value}{n:Nat}(a:zS w u n)(b:s=(neg && decide (0<n))):zI w (.agg #[.bool s,u]) (sg neg n):=by
 subst b
 refine⟨_,u,n,rfl,a,?_,?_⟩
 ·rintro rfl;simp
 cases neg
 ·simp[sg]
 rcases uH n with rfl|h
 ·simp[sg]
 simp[sg,h]
theorem Zaj {fn:Func}{t:Tmp}(h:fn.results=#[.cell t 32])(a:Array Value)(w:World)(b:Nat)(x y:Value)(d:a[t]? = some (.pointer (some ⟨b,0,none⟩)))(c:Blk 32 w b #[x,y]):(results fn a).run Tryz.prog w=.ok (.agg #[x,y]) w:=by
 have e:w.cell? ⟨b,0,none⟩=some x:=c.cell 0
 have f:w.cell? ⟨b,1,none⟩=some y:=c.cell 1
 simp[results,h,d,go_sem,e,f]
theorem kX (neg:Bool)(u:Value)(n:Nat)(w:World)(h:zS w u n) :
 yA 61 #[.bool neg,u] w (Zpa w neg u n):=by
 obtain⟨A,i,c,rfl,j,f,b,d,g⟩:=h
 have a:Hid (decide (0<n)=decide (0<i.length)):=by
  have:=kH b d
  rw[g] at this
  rcases uH n with e|e
  ·subst e;rw[Zgb] at this;unfold Hid;simp[this]
  have:=Zdh e;unfold Hid;rw[uQ e,uQ (by omega)]
 have k:=zh f
 have l:=zh b
 have m:=zh d
 clear f b d g j
 cases neg with
 | false =>
  go_enter Tryz.func61,Tryz.ntmps61
  go_wp2
  refine bodyPost_ret (Zaj rfl _ _ w.heap.size _ _ rfl (Blk.new w _ _)) rfl ⟨_,rfl,?_,(Fr.refl _ _).alloc _⟩
  unfold Hid;simp
 | true =>
  go_enter Tryz.func61,Tryz.ntmps61
  go_wp2
  refine bodyPost_ret (Zaj rfl _ _ w.heap.size _ _ rfl (Blk.new w _ _)) rfl ⟨_,rfl,?_,(Fr.refl _ _).alloc _⟩
  unfold Hid;rw[a.out];simp
theorem zS.slice {w:World}{v:Value}{n:Nat}(h:zS w v n):∃ A l c,v=.slice A l c:=by
 obtain⟨A,a,c,h,_⟩:=h
 exact⟨A,_,c,h⟩
theorem zS.store2 {t:TypeId}{w:World}{r n:Nat}{u a b:Value}{s:Bool}{A:Option Addr}{l c:Nat}(h:zS w u n)(k:Blk t w r #[.bool s,.slice A l c]):zS ((w.setCell ⟨r,0,none⟩ a).setCell ⟨r,1,none⟩ b) u n:=by
 obtain⟨m,xs,o,q,v,j,y⟩:=h
 refine⟨m,xs,o,q,v,?_,y⟩
 have z:Fr (fun i=>i=r) w ((w.setCell ⟨r,0,none⟩ a).setCell ⟨r,1,none⟩ b):=((Fr.refl (fun i=>i=r) w).setCell (p:=⟨r,0,none⟩) (Or.inl rfl) a).setCell (p:=⟨r,1,none⟩) (Or.inl rfl) b
 cases xs with
 | nil=>exact zH.nil
 | cons x xs =>
  refine j.fr z (fun E f B e=>?_)
  obtain⟨g,d,C,_,hc⟩:=j.at (i:=0) (by simp)
  rw[C] at f
  injection f with f
  subst f
  simp at e
  subst e
  rw[k.cell] at hc
  rcases vJ d 2 with D|D
  ·rcases (by omega:d=0∨d=1) with rfl|rfl<;>simp at hc
  simp at hc
  rw[List.getElem?_eq_none (by simp;omega)] at hc
  cases hc
theorem gP {fn:Func}{t:Tmp}{a:Array Value}{w e d:World}{r n:Nat}{s neg:Bool}{A:Option Addr}{l c:Nat}{z:Int}(b:fn.results=#[.cell t 32])(j:a[t]? = some (.pointer (some ⟨r,0,none⟩)))(h:w.heap.size≤r)(k:Ext w e)(i:Blk 32 e r #[.bool false,.slice none 0 0])(f:Ext e d)(m:zS d (.slice A l c) n)(o:s=(neg && decide (0<n)))(p:z=sg neg n) :
 bodyPost Tryz.prog fn (wN w z) .ret ⟨a,[]⟩ ((d.setCell ⟨r,0,none⟩ (.bool s)).setCell ⟨r,1,none⟩ (.slice A l c)):=by
 have g:Blk 32 ((d.setCell ⟨r,0,none⟩ (.bool s)).setCell ⟨r,1,none⟩ (.slice A l c)) r #[.bool s,.slice A l c]:=((i.ext f).set_ 0 _).set_ 1 _
 refine bodyPost_ret (Zaj b _ _ r _ _ j g) rfl ⟨_,rfl,?_,?_⟩
 ·subst p
  exact zI.signed (m.store2 (i.ext f)) o
 exact ((k.trans f).setCell (Or.inr h) _).setCell (Or.inr h) _
theorem Zfw (u v:Value)(m n k:Nat)(z:Int)(w:World)(q:zS w u m)(r:zS w v n)(s:ml m≤17592186044416)(t:ml n≤17592186044416)(x:m+n=k)(y:z=sg false k) :
 yA 77 #[.agg #[.bool false,u],.agg #[.bool false,v]] w (wN w z):=by
 have A:=zh q
 have B:=zh r
 have C:=zh s
 have D:=zh t
 have E:=zh x
 have F:=zh y
 clear q r s t x y
 go_enter Tryz.func77,Tryz.ntmps77
 go_wp2
 generalize d:World.alloc (World.alloc (World.alloc w _) _) _=wb
 obtain⟨f,g,h,Q⟩:=kQ d
 have a:=zh f
 have b:=zh g
 have i:=zh h
 have o:=zh Q
 clear d f g h Q
 go_region_held3 (fun w'=>w'.cell? ⟨w.heap.size,0,none⟩=some (.bool false)∧w'.cell? ⟨w.heap.size,1,none⟩=some (u)∧w'.cell? ⟨w.heap.size+1,1,none⟩=some (v))
  (first|exact bG a.out b.out (Fr.refl _ _).drew|exact bG a.out b.out (Fr.undrew (by assumption))|exact ZbW a.out b.out (Fr.undrew (by assumption)) (by omega) (by omega))
  (first
   | (
    go_at_call 102
    refine (ZaI _ _ m n _ (A.out.ext o.out.drew) (B.out.ext o.out.drew) C.out D.out).mono ?_
    rintro e H ⟨I,rfl,c,G⟩
    rw[E.out] at c
    obtain⟨J,K,L,rfl⟩:=c.slice)
   | (
    go_at_call 61
    refine (kX _ _ _ _ (by assumption)).mono ?_
    rintro e w2 ⟨M,rfl,p,j⟩
    have l:Ext wb.drew w2:=Fr.ext (by assumption) j
    obtain⟨N,O,P,R⟩:=(i.out.ext (Fr.undrew l)).cell2))
 go_wp2
 exact gP rfl rfl (by omega) o.out i.out (Fr.undrew l) (c.ext j) p.out F.out
theorem Zgd (u v:Value)(m n k:Nat)(z:Int)(w:World)(q:zS w u m)(r:zS w v n)(s:ml m≤17592186044416)(t:ml n≤17592186044416)(x:m+n=k)(y:z=sg true k) :
 yA 77 #[.agg #[.bool true,u],.agg #[.bool true,v]] w (wN w z):=by
 have A:=zh q
 have B:=zh r
 have C:=zh s
 have D:=zh t
 have E:=zh x
 have F:=zh y
 clear q r s t x y
 go_enter Tryz.func77,Tryz.ntmps77
 go_wp2
 generalize d:World.alloc (World.alloc (World.alloc w _) _) _=wb
 obtain⟨f,g,h,Q⟩:=kQ d
 have a:=zh f
 have b:=zh g
 have i:=zh h
 have o:=zh Q
 clear d f g h Q
 go_region_held3 (fun w'=>w'.cell? ⟨w.heap.size,0,none⟩=some (.bool true)∧w'.cell? ⟨w.heap.size,1,none⟩=some (u)∧w'.cell? ⟨w.heap.size+1,1,none⟩=some (v))
  (first|exact bG a.out b.out (Fr.refl _ _).drew|exact bG a.out b.out (Fr.undrew (by assumption))|exact ZbW a.out b.out (Fr.undrew (by assumption)) (by omega) (by omega))
  (first
   | (
    go_at_call 102
    refine (ZaI _ _ m n _ (A.out.ext o.out.drew) (B.out.ext o.out.drew) C.out D.out).mono ?_
    rintro e H ⟨I,rfl,c,G⟩
    rw[E.out] at c
    obtain⟨J,K,L,rfl⟩:=c.slice)
   | (
    go_at_call 61
    refine (kX _ _ _ _ (by assumption)).mono ?_
    rintro e w2 ⟨M,rfl,p,j⟩
    have l:Ext wb.drew w2:=Fr.ext (by assumption) j
    obtain⟨N,O,P,R⟩:=(i.out.ext (Fr.undrew l)).cell2))
 go_wp2
 exact gP rfl rfl (by omega) o.out i.out (Fr.undrew l) (c.ext j) p.out F.out
theorem ZeK (u v:Value)(m n k:Nat)(z:Int)(w:World)(q:zS w u m)(r:zS w v n)(s:ml m≤17592186044416)(t:ml n≤17592186044416)(x:m*n=k)(y:z=sg false k) :
 yA 74 #[.agg #[.bool false,u],.agg #[.bool false,v]] w (wN w z):=by
 have A:=zh q
 have B:=zh r
 have C:=zh s
 have D:=zh t
 have E:=zh x
 have F:=zh y
 clear q r s t x y
 go_enter Tryz.func74,Tryz.ntmps74
 go_wp2
 generalize d:World.alloc (World.alloc (World.alloc w _) _) _=wb
 obtain⟨f,g,h,Q⟩:=kQ d
 have a:=zh f
 have b:=zh g
 have i:=zh h
 have o:=zh Q
 clear d f g h Q
 go_region_held3 (fun w'=>w'.cell? ⟨w.heap.size,0,none⟩=some (.bool false)∧w'.cell? ⟨w.heap.size,1,none⟩=some (u)∧w'.cell? ⟨w.heap.size+1,0,none⟩=some (.bool false)∧w'.cell? ⟨w.heap.size+1,1,none⟩=some (v))
  (first|exact Zbt a.out b.out (Fr.refl _ _).drew|exact Zbt a.out b.out (Fr.undrew (by assumption))|exact Zfh a.out b.out (Fr.undrew (by assumption)) (by omega) (by omega))
  (first
   | (
    go_at_call 103
    refine (cJ _ _ m n _ (A.out.ext o.out.drew) (B.out.ext o.out.drew) C.out D.out).mono ?_
    rintro e H ⟨I,rfl,c,G⟩
    rw[E.out] at c
    obtain⟨J,K,L,rfl⟩:=c.slice)
   | (
    go_at_call 61
    refine (kX _ _ _ _ (by assumption)).mono ?_
    rintro e w2 ⟨M,rfl,p,j⟩
    have l:Ext wb.drew w2:=Fr.ext (by assumption) j
    obtain⟨N,O,P,R⟩:=(i.out.ext (Fr.undrew l)).cell2))
 go_wp2
 exact gP rfl rfl (by omega) o.out i.out (Fr.undrew l) (c.ext j) p.out F.out
theorem Zfx (u v:Value)(m n k:Nat)(z:Int)(w:World)(q:zS w u m)(r:zS w v n)(s:ml m≤17592186044416)(t:ml n≤17592186044416)(x:m*n=k)(y:z=sg true k) :
 yA 74 #[.agg #[.bool false,u],.agg #[.bool true,v]] w (wN w z):=by
 have A:=zh q
 have B:=zh r
 have C:=zh s
 have D:=zh t
 have E:=zh x
 have F:=zh y
 clear q r s t x y
 go_enter Tryz.func74,Tryz.ntmps74
 go_wp2
 generalize d:World.alloc (World.alloc (World.alloc w _) _) _=wb
 obtain⟨f,g,h,Q⟩:=kQ d
 have a:=zh f
 have b:=zh g
 have i:=zh h
 have o:=zh Q
 clear d f g h Q
 go_region_held3 (fun w'=>w'.cell? ⟨w.heap.size,0,none⟩=some (.bool false)∧w'.cell? ⟨w.heap.size,1,none⟩=some (u)∧w'.cell? ⟨w.heap.size+1,0,none⟩=some (.bool true)∧w'.cell? ⟨w.heap.size+1,1,none⟩=some (v))
  (first|exact Zbt a.out b.out (Fr.refl _ _).drew|exact Zbt a.out b.out (Fr.undrew (by assumption))|exact Zfh a.out b.out (Fr.undrew (by assumption)) (by omega) (by omega))
  (first
   | (
    go_at_call 103
    refine (cJ _ _ m n _ (A.out.ext o.out.drew) (B.out.ext o.out.drew) C.out D.out).mono ?_
    rintro e H ⟨I,rfl,c,G⟩
    rw[E.out] at c
    obtain⟨J,K,L,rfl⟩:=c.slice)
   | (
    go_at_call 61
    refine (kX _ _ _ _ (by assumption)).mono ?_
    rintro e w2 ⟨M,rfl,p,j⟩
    have l:Ext wb.drew w2:=Fr.ext (by assumption) j
    obtain⟨N,O,P,R⟩:=(i.out.ext (Fr.undrew l)).cell2))
 go_wp2
 exact gP rfl rfl (by omega) o.out i.out (Fr.undrew l) (c.ext j) p.out F.out
theorem Zfy (u v:Value)(m n k:Nat)(z:Int)(w:World)(q:zS w u m)(r:zS w v n)(s:ml m≤17592186044416)(t:ml n≤17592186044416)(x:m*n=k)(y:z=sg true k) :
 yA 74 #[.agg #[.bool true,u],.agg #[.bool false,v]] w (wN w z):=by
 have A:=zh q
 have B:=zh r
 have C:=zh s
 have D:=zh t
 have E:=zh x
 have F:=zh y
 clear q r s t x y
 go_enter Tryz.func74,Tryz.ntmps74
 go_wp2
 generalize d:World.alloc (World.alloc (World.alloc w _) _) _=wb
 obtain⟨f,g,h,Q⟩:=kQ d
 have a:=zh f
 have b:=zh g
 have i:=zh h
 have o:=zh Q
 clear d f g h Q
 go_region_held3 (fun w'=>w'.cell? ⟨w.heap.size,0,none⟩=some (.bool true)∧w'.cell? ⟨w.heap.size,1,none⟩=some (u)∧w'.cell? ⟨w.heap.size+1,0,none⟩=some (.bool false)∧w'.cell? ⟨w.heap.size+1,1,none⟩=some (v))
  (first|exact Zbt a.out b.out (Fr.refl _ _).drew|exact Zbt a.out b.out (Fr.undrew (by assumption))|exact Zfh a.out b.out (Fr.undrew (by assumption)) (by omega) (by omega))
  (first
   | (
    go_at_call 103
    refine (cJ _ _ m n _ (A.out.ext o.out.drew) (B.out.ext o.out.drew) C.out D.out).mono ?_
    rintro e H ⟨I,rfl,c,G⟩
    rw[E.out] at c
    obtain⟨J,K,L,rfl⟩:=c.slice)
   | (
    go_at_call 61
    refine (kX _ _ _ _ (by assumption)).mono ?_
    rintro e w2 ⟨M,rfl,p,j⟩
    have l:Ext wb.drew w2:=Fr.ext (by assumption) j
    obtain⟨N,O,P,R⟩:=(i.out.ext (Fr.undrew l)).cell2))
 go_wp2
 exact gP rfl rfl (by omega) o.out i.out (Fr.undrew l) (c.ext j) p.out F.out
theorem Zge (u v:Value)(m n k:Nat)(z:Int)(w:World)(q:zS w u m)(r:zS w v n)(s:ml m≤17592186044416)(t:ml n≤17592186044416)(x:m*n=k)(y:z=sg false k) :
 yA 74 #[.agg #[.bool true,u],.agg #[.bool true,v]] w (wN w z):=by
 have A:=zh q
 have B:=zh r
 have C:=zh s
 have D:=zh t
 have E:=zh x
 have F:=zh y
 clear q r s t x y
 go_enter Tryz.func74,Tryz.ntmps74
 go_wp2
 generalize d:World.alloc (World.alloc (World.alloc w _) _) _=wb
 obtain⟨f,g,h,Q⟩:=kQ d
 have a:=zh f
 have b:=zh g
 have i:=zh h
 have o:=zh Q
 clear d f g h Q
 go_region_held3 (fun w'=>w'.cell? ⟨w.heap.size,0,none⟩=some (.bool true)∧w'.cell? ⟨w.heap.size,1,none⟩=some (u)∧w'.cell? ⟨w.heap.size+1,0,none⟩=some (.bool true)∧w'.cell? ⟨w.heap.size+1,1,none⟩=some (v))
  (first|exact Zbt a.out b.out (Fr.refl _ _).drew|exact Zbt a.out b.out (Fr.undrew (by assumption))|exact Zfh a.out b.out (Fr.undrew (by assumption)) (by omega) (by omega))
  (first
   | (
    go_at_call 103
    refine (cJ _ _ m n _ (A.out.ext o.out.drew) (B.out.ext o.out.drew) C.out D.out).mono ?_
    rintro e H ⟨I,rfl,c,G⟩
    rw[E.out] at c
    obtain⟨J,K,L,rfl⟩:=c.slice)
   | (
    go_at_call 61
    refine (kX _ _ _ _ (by assumption)).mono ?_
    rintro e w2 ⟨M,rfl,p,j⟩
    have l:Ext wb.drew w2:=Fr.ext (by assumption) j
    obtain⟨N,O,P,R⟩:=(i.out.ext (Fr.undrew l)).cell2))
 go_wp2
 exact gP rfl rfl (by omega) o.out i.out (Fr.undrew l) (c.ext j) p.out F.out
theorem Zdj (u v:Value)(m n k:Nat)(z:Int)(w:World)(y:zS w u m)(A:zS w v n)(B:ml m≤17592186044416)(C:ml n≤17592186044416)(c:n≤m)(D:m-n=k)(E:z=sg false k) :
 yA 77 #[.agg #[.bool false,u],.agg #[.bool true,v]] w (wN w z):=by
 have F:=zh y
 have G:=zh A
 have H:=zh B
 have I:=zh C
 have d:=zh c
 have J:=zh D
 have K:=zh E
 clear y A B C c D E
 go_enter Tryz.func77,Tryz.ntmps77
 go_wp2_with fail
 generalize f:World.alloc (World.alloc (World.alloc w _) _) _=wb
 obtain⟨g,h,i,Q⟩:=kQ f
 have HBx:=zh g
 have HBy:=zh h
 have HBr:=zh i
 have HE:=zh Q
 clear f g h i Q
 have p:=HBx.out.cell2.2.1
 have r:=HBy.out.cell2.2.1
 go_wp2_with fail
 clear p r
 refine (cK u v m n _ (F.out.ext HE.out) (G.out.ext HE.out) H.out I.out).mono ?_
 rintro e w' ⟨rfl,o,a⟩
 obtain⟨q,s⟩:=yE (cmpI m n)
 have L:(0:Int)≤q:=by rw[←s];exact cX d.out
 rw[s]
 replace HBx:=zh (show Blk _ w' _ _ from a ▸ HBx.out.drewN o)
 replace HBy:=zh (show Blk _ w' _ _ from a ▸ HBy.out.drewN o)
 replace HBr:=zh (show Blk _ w' _ _ from a ▸ HBr.out.drewN o)
 replace HE:=zh (show Ext w w' from a ▸ HE.out.drewN o)
 clear a s
 clear wb
 obtain⟨wb,t⟩:=yE w'
 subst t
 go_wp2_with fail
 go_region_held3 (fun w'=>w'.cell? ⟨w.heap.size,0,none⟩=some (.bool false)∧w'.cell? ⟨w.heap.size,1,none⟩=some (u)∧w'.cell? ⟨w.heap.size+1,1,none⟩=some (v))
  (first|exact bG HBx.out HBy.out (Fr.refl _ _).drew|exact bG HBx.out HBy.out (Fr.undrew (by assumption))|exact ZbW HBx.out HBy.out (Fr.undrew (by assumption)) (by omega) (by omega))
  (first
   | (
    go_at_call 117
    refine (ZaJ _ _ m n _ (F.out.ext HE.out.drew) (G.out.ext HE.out.drew) H.out (by have:=d.out;omega)).mono ?_
    rintro e N ⟨O,rfl,b,M⟩
    rw[J.out] at b
    obtain⟨P,R,S,rfl⟩:=b.slice)
   | (
    go_at_call 61
    refine (kX _ _ _ _ (by assumption)).mono ?_
    rintro e w2 ⟨T,rfl,x,j⟩
    have l:Ext w'.drew w2:=Fr.ext (by assumption) j
    obtain⟨U,V,W,X⟩:=(HBr.out.ext (Fr.undrew l)).cell2))
 go_wp2
 exact gP rfl rfl (by omega) HE.out HBr.out (Fr.undrew l) (b.ext j) x.out K.out
theorem Zdk (u v:Value)(m n k:Nat)(z:Int)(w:World)(y:zS w u m)(A:zS w v n)(B:ml m≤17592186044416)(C:ml n≤17592186044416)(c:m<n)(D:n-m=k)(E:z=sg true k) :
 yA 77 #[.agg #[.bool false,u],.agg #[.bool true,v]] w (wN w z):=by
 have F:=zh y
 have G:=zh A
 have I:=zh B
 have H:=zh C
 have d:=zh c
 have J:=zh D
 have K:=zh E
 clear y A B C c D E
 go_enter Tryz.func77,Tryz.ntmps77
 go_wp2_with fail
 generalize f:World.alloc (World.alloc (World.alloc w _) _) _=wb
 obtain⟨g,h,i,Q⟩:=kQ f
 have HBx:=zh g
 have HBy:=zh h
 have HBr:=zh i
 have HE:=zh Q
 clear f g h i Q
 have p:=HBx.out.cell2.2.1
 have r:=HBy.out.cell2.2.1
 go_wp2_with fail
 clear p r
 refine (cK u v m n _ (F.out.ext HE.out) (G.out.ext HE.out) I.out H.out).mono ?_
 rintro e w' ⟨rfl,o,a⟩
 obtain⟨q,s⟩:=yE (cmpI m n)
 have L:q<0:=by rw[←s];exact fM.2 d.out
 rw[s]
 replace HBx:=zh (show Blk _ w' _ _ from a ▸ HBx.out.drewN o)
 replace HBy:=zh (show Blk _ w' _ _ from a ▸ HBy.out.drewN o)
 replace HBr:=zh (show Blk _ w' _ _ from a ▸ HBr.out.drewN o)
 replace HE:=zh (show Ext w w' from a ▸ HE.out.drewN o)
 clear a s
 clear wb
 obtain⟨wb,t⟩:=yE w'
 subst t
 go_wp2_with fail
 go_region_held3 (fun w'=>w'.cell? ⟨w.heap.size+1,0,none⟩=some (.bool true)∧w'.cell? ⟨w.heap.size+1,1,none⟩=some (v)∧w'.cell? ⟨w.heap.size,1,none⟩=some (u))
  (first|exact bG HBy.out HBx.out (Fr.refl _ _).drew|exact bG HBy.out HBx.out (Fr.undrew (by assumption))|exact ZbW HBy.out HBx.out (Fr.undrew (by assumption)) (by omega) (by omega))
  (first
   | (
    go_at_call 117
    refine (ZaJ _ _ n m _ (G.out.ext HE.out.drew) (F.out.ext HE.out.drew) H.out (by have:=d.out;omega)).mono ?_
    rintro e N ⟨O,rfl,b,M⟩
    rw[J.out] at b
    obtain⟨P,R,S,rfl⟩:=b.slice)
   | (
    go_at_call 61
    refine (kX _ _ _ _ (by assumption)).mono ?_
    rintro e w2 ⟨T,rfl,x,j⟩
    have l:Ext w'.drew w2:=Fr.ext (by assumption) j
    obtain⟨U,V,W,X⟩:=(HBr.out.ext (Fr.undrew l)).cell2))
 go_wp2
 exact gP rfl rfl (by omega) HE.out HBr.out (Fr.undrew l) (b.ext j) x.out K.out
theorem Zeg (u v:Value)(m n k:Nat)(z:Int)(w:World)(y:zS w u m)(A:zS w v n)(B:ml m≤17592186044416)(C:ml n≤17592186044416)(c:n≤m)(D:m-n=k)(E:z=sg true k) :
 yA 77 #[.agg #[.bool true,u],.agg #[.bool false,v]] w (wN w z):=by
 have F:=zh y
 have G:=zh A
 have H:=zh B
 have I:=zh C
 have d:=zh c
 have J:=zh D
 have K:=zh E
 clear y A B C c D E
 go_enter Tryz.func77,Tryz.ntmps77
 go_wp2_with fail
 generalize f:World.alloc (World.alloc (World.alloc w _) _) _=wb
 obtain⟨g,h,i,Q⟩:=kQ f
 have HBx:=zh g
 have HBy:=zh h
 have HBr:=zh i
 have HE:=zh Q
 clear f g h i Q
 have p:=HBx.out.cell2.2.1
 have r:=HBy.out.cell2.2.1
 go_wp2_with fail
 clear p r
 refine (cK u v m n _ (F.out.ext HE.out) (G.out.ext HE.out) H.out I.out).mono ?_
 rintro e w' ⟨rfl,o,a⟩
 obtain⟨q,s⟩:=yE (cmpI m n)
 have L:(0:Int)≤q:=by rw[←s];exact cX d.out
 rw[s]
 replace HBx:=zh (show Blk _ w' _ _ from a ▸ HBx.out.drewN o)
 replace HBy:=zh (show Blk _ w' _ _ from a ▸ HBy.out.drewN o)
 replace HBr:=zh (show Blk _ w' _ _ from a ▸ HBr.out.drewN o)
 replace HE:=zh (show Ext w w' from a ▸ HE.out.drewN o)
 clear a s
 clear wb
 obtain⟨wb,t⟩:=yE w'
 subst t
 go_wp2_with fail
 go_region_held3 (fun w'=>w'.cell? ⟨w.heap.size,0,none⟩=some (.bool true)∧w'.cell? ⟨w.heap.size,1,none⟩=some (u)∧w'.cell? ⟨w.heap.size+1,1,none⟩=some (v))
  (first|exact bG HBx.out HBy.out (Fr.refl _ _).drew|exact bG HBx.out HBy.out (Fr.undrew (by assumption))|exact ZbW HBx.out HBy.out (Fr.undrew (by assumption)) (by omega) (by omega))
  (first
   | (
    go_at_call 117
    refine (ZaJ _ _ m n _ (F.out.ext HE.out.drew) (G.out.ext HE.out.drew) H.out (by have:=d.out;omega)).mono ?_
    rintro e N ⟨O,rfl,b,M⟩
    rw[J.out] at b
    obtain⟨P,R,S,rfl⟩:=b.slice)
   | (
    go_at_call 61
    refine (kX _ _ _ _ (by assumption)).mono ?_
    rintro e w2 ⟨T,rfl,x,j⟩
    have l:Ext w'.drew w2:=Fr.ext (by assumption) j
    obtain⟨U,V,W,X⟩:=(HBr.out.ext (Fr.undrew l)).cell2))
 go_wp2
 exact gP rfl rfl (by omega) HE.out HBr.out (Fr.undrew l) (b.ext j) x.out K.out
theorem Zeh (u v:Value)(m n k:Nat)(z:Int)(w:World)(y:zS w u m)(A:zS w v n)(B:ml m≤17592186044416)(C:ml n≤17592186044416)(c:m<n)(D:n-m=k)(E:z=sg false k) :
 yA 77 #[.agg #[.bool true,u],.agg #[.bool false,v]] w (wN w z):=by
 have F:=zh y
 have G:=zh A
 have I:=zh B
 have H:=zh C
 have d:=zh c
 have J:=zh D
 have K:=zh E
 clear y A B C c D E
 go_enter Tryz.func77,Tryz.ntmps77
 go_wp2_with fail
 generalize f:World.alloc (World.alloc (World.alloc w _) _) _=wb
 obtain⟨g,h,i,Q⟩:=kQ f
 have HBx:=zh g
 have HBy:=zh h
 have HBr:=zh i
 have HE:=zh Q
 clear f g h i Q
 have p:=HBx.out.cell2.2.1
 have r:=HBy.out.cell2.2.1
 go_wp2_with fail
 clear p r
 refine (cK u v m n _ (F.out.ext HE.out) (G.out.ext HE.out) I.out H.out).mono ?_
 rintro e w' ⟨rfl,o,a⟩
 obtain⟨q,s⟩:=yE (cmpI m n)
 have L:q<0:=by rw[←s];exact fM.2 d.out
 rw[s]
 replace HBx:=zh (show Blk _ w' _ _ from a ▸ HBx.out.drewN o)
 replace HBy:=zh (show Blk _ w' _ _ from a ▸ HBy.out.drewN o)
 replace HBr:=zh (show Blk _ w' _ _ from a ▸ HBr.out.drewN o)
 replace HE:=zh (show Ext w w' from a ▸ HE.out.drewN o)
 clear a s
 clear wb
 obtain⟨wb,t⟩:=yE w'
 subst t
 go_wp2_with fail
 go_region_held3 (fun w'=>w'.cell? ⟨w.heap.size+1,0,none⟩=some (.bool false)∧w'.cell? ⟨w.heap.size+1,1,none⟩=some (v)∧w'.cell? ⟨w.heap.size,1,none⟩=some (u))
  (first|exact bG HBy.out HBx.out (Fr.refl _ _).drew|exact bG HBy.out HBx.out (Fr.undrew (by assumption))|exact ZbW HBy.out HBx.out (Fr.undrew (by assumption)) (by omega) (by omega))
  (first
   | (
    go_at_call 117
    refine (ZaJ _ _ n m _ (G.out.ext HE.out.drew) (F.out.ext HE.out.drew) H.out (by have:=d.out;omega)).mono ?_
    rintro e N ⟨O,rfl,b,M⟩
    rw[J.out] at b
    obtain⟨P,R,S,rfl⟩:=b.slice)
   | (
    go_at_call 61
    refine (kX _ _ _ _ (by assumption)).mono ?_
    rintro e w2 ⟨T,rfl,x,j⟩
    have l:Ext w'.drew w2:=Fr.ext (by assumption) j
    obtain⟨U,V,W,X⟩:=(HBr.out.ext (Fr.undrew l)).cell2))
 go_wp2
 exact gP rfl rfl (by omega) HE.out HBr.out (Fr.undrew l) (b.ext j) x.out K.out
theorem zI.open {w:World}{v:Value}{z:Int}(h:zI w v z):∃ (s:Bool) (A:Option Addr) (l c:Nat),v=.agg #[.bool s,.slice A l c]∧zS w (.slice A l c) z.natAbs∧z=sg s z.natAbs∧(z=0→s=false):=by
 obtain⟨s,u,n,d,a,e,h4⟩:=h
 obtain⟨A,l,c,rfl⟩:=a.slice
 have b:z.natAbs=n:=by cases s<;>simp at h4<;>omega
 refine⟨s,A,l,c,d,b ▸ a,?_,?_⟩
 ·rw[b];exact h4
 intro f;exact e (by omega)
def xT (z:Int):Prop:=ml z.natAbs≤17592186044416
theorem Zcr (a b:Value)(x y:Int)(w:World)(ha:zI w a x)(f:zI w b y)(g:xT x)(i:xT y):yA 77 #[a,b] w (wN w (x+y)):=by
 obtain⟨s,A,l,c,rfl,e,hz,k⟩:=ha.open
 obtain⟨t,m,n,o,rfl,d,hz',j⟩:=f.open
 unfold xT at g i
 cases s<;>cases t<;>simp only[sg,if_true,pI,rG] at hz hz'
 ·exact Zfw _ _ _ _ _ _ w e d (by omega) (by omega) rfl (by simp[sg];omega)
 ·rcases vJ x.natAbs y.natAbs with h|h
  ·exact Zdk _ _ _ _ _ _ w e d (by omega) (by omega) h rfl (by simp[sg];omega)
  exact Zdj _ _ _ _ _ _ w e d (by omega) (by omega) h rfl (by simp[sg];omega)
 ·rcases vJ x.natAbs y.natAbs with h|h
  ·exact Zeh _ _ _ _ _ _ w e d (by omega) (by omega) h rfl (by simp[sg];omega)
  exact Zeg _ _ _ _ _ _ w e d (by omega) (by omega) h rfl (by simp[sg];omega)
 exact Zgd _ _ _ _ _ _ w e d (by omega) (by omega) rfl (by simp[sg];omega)
theorem Zh7 (a b:Value)(x y:Int)(w:World)(ha:zI w a x)(g:zI w b y)(h:xT x)(i:xT y):yA 74 #[a,b] w (wN w (x*y)):=by
 obtain⟨s,A,l,c,rfl,e,j,o⟩:=ha.open
 obtain⟨t,p,q,r,rfl,d,f,k⟩:=g.open
 unfold xT at h i
 generalize x.natAbs=m at *
 generalize y.natAbs=n at *
 subst j f
 cases s<;>cases t
 ·exact ZeK _ _ _ _ _ _ w e d (by omega) (by omega) rfl (by simp[sg])
 ·exact Zfx _ _ _ _ _ _ w e d (by omega) (by omega) rfl (by simp[sg,Int.mul_neg])
 ·exact Zfy _ _ _ _ _ _ w e d (by omega) (by omega) rfl (by simp[sg,Int.neg_mul])
 exact Zge _ _ _ _ _ _ w e d (by omega) (by omega) rfl (by simp[sg,Int.neg_mul,Int.mul_neg])
theorem Zpb (w:World)(lo hi:Nat):Own .u32 102 (w.alloc (.cells #[.int .u32 (lo:Int),.int .u32 (hi:Int)] 102)) w.heap.size [lo,hi]:=by
 have:=Own.new w 102 .u32 [lo,hi] []
 exact this
theorem Zfz {w a:World}{lo hi:Nat}{x y:Value}(h:(w.alloc (.cells #[x,y] 32)).alloc (.cells #[.int .u32 (lo:Int),.int .u32 (hi:Int)] 102)=a) :
 Hid (Blk 32 a w.heap.size #[x,y])∧Hid (Own .u32 102 a (w.heap.size+1) [lo,hi])∧Hid (Ext w a):=by
 subst h
 have c:(w.alloc (.cells #[x,y] 32)).heap.size=w.heap.size+1:=by simp
 have b:=Zpb (w.alloc (.cells #[x,y] 32)) lo hi
 rw[c] at b
 exact⟨(Blk.new _ _ _).alloc _,b,((Fr.refl _ _).alloc _).alloc _⟩
theorem ZjW (m:Nat):val W32 [m%W32,m/W32]=m:=by
 simp only[iY,eW,tL,vV]
 exact tS m W32
theorem ZjX {m:Nat}(h:m<W64):Dig W32 [m%W32,m/W32]:=by
 refine Dig.nil.cons ?_ |>.cons (uM _ zU)
 exact sU (by rw[bD];exact h)
theorem Zh8 (m:Nat)(w:World)(z:m≤9223372036854775807):yA 24 #[.int .i64 (m:Int)] w (wN w (m:Int)):=by
 have i:m<W64:=by rw[zO];omega
 have k:=zh (ZjW m)
 have n:=zh (ZjX i)
 have A:=wC m i
 have v:=jJ m
 have x:=hi32 m
 have r:m/W32<W32:=sU (by rw[bD];exact i)
 have s:=jJ (m/W32)
 rw[vC r] at s
 have B:¬ ((m:Int)<0):=by omega
 obtain⟨o,b⟩:=yE (m%W32)
 obtain⟨p,d⟩:=yE (m/W32)
 rw[b] at v k n
 rw[d] at x s k n
 clear r b d i
 go_enter Tryz.func24,Tryz.ntmps24
 go_wp2_with fail
 generalize f:World.alloc (World.alloc w _) _=wb
 obtain⟨g,t,y⟩:=Zfz f
 clear f
 refine (lT _ [o,p] _ _ wb rfl t.out.shows0 (by simp) (by simp)).mono ?_
 rintro e w' ⟨rfl,rfl⟩
 have j:=zh (zS.of_own (c:=2) t.out n.out (by simp))
 rw[k.out] at j
 obtain⟨l,u⟩:=yE (wI [o,p] [o,p].length)
 rw[u] at j ⊢
 clear u
 go_wp2_with fail
 refine (kX _ _ _ _ j.out).mono ?_
 rintro e C ⟨D,rfl,q,a⟩
 obtain⟨E,F,G,H⟩:=(g.out.ext a).cell2
 have h:=zh a
 clear a
 go_wp2
 exact gP rfl rfl (by omega) y.out g.out h.out (j.out.ext h.out) q.out (by simp[sg])
theorem Zh9 (m:Nat)(w:World)(z:m≤9223372036854775808)(A:1≤m):yA 24 #[.int .i64 (-(m:Int))] w (wN w (-(m:Int))):=by
 have i:m<W64:=by rw[zO];omega
 have k:=zh (ZjW m)
 have n:=zh (ZjX i)
 have B:IntKind.u64.wrap (-IntKind.u64.wrap (-(m:Int)))=(m:Int):=by
  rw[zO] at i
  rw[IntKind.wrap_u64,IntKind.wrap_u64];omega
 have v:=jJ m
 have x:=hi32 m
 have r:m/W32<W32:=sU (by rw[bD];exact i)
 have s:=jJ (m/W32)
 rw[vC r] at s
 have C:(-(m:Int))<0:=by omega
 obtain⟨o,b⟩:=yE (m%W32)
 obtain⟨p,d⟩:=yE (m/W32)
 rw[b] at v k n
 rw[d] at x s k n
 clear r b d i
 go_enter Tryz.func24,Tryz.ntmps24
 go_wp2_with fail
 generalize f:World.alloc (World.alloc w _) _=wb
 obtain⟨g,t,y⟩:=Zfz f
 clear f
 refine (lT _ [o,p] _ _ wb rfl t.out.shows0 (by simp) (by simp)).mono ?_
 rintro e w' ⟨rfl,rfl⟩
 have j:=zh (zS.of_own (c:=2) t.out n.out (by simp))
 rw[k.out] at j
 obtain⟨l,u⟩:=yE (wI [o,p] [o,p].length)
 rw[u] at j ⊢
 clear u
 go_wp2_with fail
 refine (kX _ _ _ _ j.out).mono ?_
 rintro e D ⟨E,rfl,q,a⟩
 obtain⟨F,G,H,I⟩:=(g.out.ext a).cell2
 have h:=zh a
 clear a
 go_wp2
 exact gP rfl rfl (by omega) y.out g.out h.out (j.out.ext h.out) q.out (by simp[sg])
theorem lH (z:Int)(w:World)(b : -9223372036854775808≤z)(c:z≤9223372036854775807):yA 24 #[.int .i64 z] w (wN w z):=by
 by_cases h:0≤z
 ·obtain⟨m,rfl⟩:=uW h
  exact Zh8 m w (by omega)
 obtain⟨m,d⟩:=uW (a := -z) (by omega)
 obtain rfl:z = -(m:Int):=by omega
 exact Zh9 m w (by omega) (by omega)
end Go.Proofs.YtklpdkpcocnglaaGreatDoor
