/-
 My texts Int, Int2, Int3, Num4, Num5 put together.
-/
import Derived.Test.YtklpdkpcocnglaaGreatDoorX07
import Derived.Test.YtklpdkpcocnglaaGreatDoorX01
import Derived.Deep.RegionHeld3
set_option maxRecDepth 100000
set_option maxHeartbeats 8000000
namespace Go.Proofs.YtklpdkpcocnglaaGreatDoor
open Go.RowKit
def fJ (w:World) (v:Value) (z:Int):Prop :=
 ∃ (neg:Bool) (u:Value) (n:Nat),v=.agg #[.bool neg,u]∧zK w u n∧(n=0→neg=false)∧z=(if neg then -(n:Int) else (n:Int))
def Zf8 (w:World) (z:Int) (e:Ending) (w':World):Prop:=∃ v,e=.returned v∧fJ w' v z∧Ext w w'
def sg (neg:Bool) (n:Nat):Int:=if neg then -(n:Int) else (n:Int)
theorem fJ.signed {w:World}{neg s:Bool}{u:Value}{n:Nat}(a:zK w u n)(b:s=(neg && decide (0<n))):fJ w (.agg #[.bool s,u]) (sg neg n):=by
 subst b
 refine⟨_,u,n,rfl,a,?_,?_⟩
 ·rintro rfl;simp
 cases neg
 ·simp[sg]
 rcases uI n with rfl|h
 ·simp[sg]
 simp[sg,h]
theorem ZkD {fn:Func}{t:Tmp}(h:fn.results=#[.cell t 127])(a:Array Value)(w:World)(b:Nat)(x y:Value)(d:a[t]? = some (.pointer (some ⟨b,0,none⟩)))(c:Blk 127 w b #[x,y]):(results fn a).run Tryz.prog w=.ok (.agg #[x,y]) w:=by
 have e:w.cell? ⟨b,0,none⟩=some x:=c.cell 0
 have f:w.cell? ⟨b,1,none⟩=some y:=c.cell 1
 simp[results,h,d,go_sem,e,f]
theorem Blk.cell2 {t:TypeId}{w:World}{g:Nat}{x y:Value}(h:Blk t w g #[x,y]):w.cell? ⟨g,0,none⟩=some x∧w.cell? ⟨g,1,none⟩=some y∧w.frozen? ⟨g,0,none⟩=false∧w.frozen? ⟨g,1,none⟩=false :=
 ⟨h.cell 0,h.cell 1,h.frozen 0,h.frozen 1⟩
theorem bX {t:TypeId}{w w':World}{g b:Nat}{x y c y':Value}(h:Blk t w g #[x,y])(d:Blk t w b #[c,y'])(a:Ext w w') :
 w'.cell? ⟨g,0,none⟩=some x∧w'.cell? ⟨g,1,none⟩=some y∧w'.cell? ⟨b,1,none⟩=some y' :=
 ⟨(h.ext a).cell 0,(h.ext a).cell 1,(d.ext a).cell 1⟩
theorem Fr.undrew {S:Nat→Prop}{w w':World}(h:Fr S w.drew w'):Fr S w w':=⟨h.os,h.tape,h.output,h.size,h.block⟩
theorem Zcx {t:TypeId}{w w':World}{g e r:Nat}{x y i y' a b:Value}(h:Blk t w g #[x,y])(j:Blk t w e #[i,y'])(f:Ext w w')(d:g≠r)(c:e≠r) :
 ((w'.setCell ⟨r,0,none⟩ a).setCell ⟨r,1,none⟩ b).cell? ⟨g,0,none⟩=some x∧((w'.setCell ⟨r,0,none⟩ a).setCell ⟨r,1,none⟩ b).cell? ⟨g,1,none⟩=some y∧((w'.setCell ⟨r,0,none⟩ a).setCell ⟨r,1,none⟩ b).cell? ⟨e,1,none⟩=some y' :=
 ⟨(((h.ext f).far (p:=⟨r,0,none⟩) d a).far (p:=⟨r,1,none⟩) d b).cell 0,(((h.ext f).far (p:=⟨r,0,none⟩) d a).far (p:=⟨r,1,none⟩) d b).cell 1,(((j.ext f).far (p:=⟨r,0,none⟩) c a).far (p:=⟨r,1,none⟩) c b).cell 1⟩
theorem zK.slice {w:World}{v:Value}{n:Nat}(h:zK w v n):∃ A l c,v=.slice A l c:=by
 obtain⟨A,a,c,h,_⟩:=h
 exact⟨A,_,c,h⟩
theorem kN {t:TypeId}{w wb:World}{x y z:Array Value}(h:((w.alloc (.cells x t)).alloc (.cells y t)).alloc (.cells z t)=wb) :
 Blk t wb w.heap.size x∧Blk t wb (w.heap.size+1) y∧Blk t wb (w.heap.size+1+1) z∧Ext w wb:=by
 subst h
 have c:(w.alloc (.cells x t)).heap.size=w.heap.size+1:=by simp
 have d:((w.alloc (.cells x t)).alloc (.cells y t)).heap.size=w.heap.size+1+1:=by simp
 have a:=Blk.new (w.alloc (.cells x t)) t y
 have b:=Blk.new ((w.alloc (.cells x t)).alloc (.cells y t)) t z
 rw[c] at a
 rw[d] at b
 exact⟨((Blk.new _ _ _).alloc _).alloc _,a.alloc _,b,(((Fr.refl _ _).alloc _).alloc _).alloc _⟩
theorem zK.store2 {t:TypeId}{w:World}{r n:Nat}{u a b:Value}{s:Bool}{A:Option Addr}{l c:Nat}(h:zK w u n)(k:Blk t w r #[.bool s,.slice A l c]):zK ((w.setCell ⟨r,0,none⟩ a).setCell ⟨r,1,none⟩ b) u n:=by
 obtain⟨m,xs,o,q,v,j,y⟩:=h
 refine⟨m,xs,o,q,v,?_,y⟩
 have z:Fr (fun i=>i=r) w ((w.setCell ⟨r,0,none⟩ a).setCell ⟨r,1,none⟩ b):=((Fr.refl (fun i=>i=r) w).setCell (p:=⟨r,0,none⟩) (Or.inl rfl) a).setCell (p:=⟨r,1,none⟩) (Or.inl rfl) b
 cases xs with
 | nil=>exact zF.nil
 | cons x xs =>
  refine j.fr z (fun E f B e=>?_)
  obtain⟨g,d,C,_,hc⟩:=j.at (i:=0) (by simp)
  rw[C] at f
  injection f with f
  subst f
  simp at e
  subst e
  rw[k.cell] at hc
  rcases vJ d 2 with D|D
  ·rcases (by omega:d=0∨d=1) with rfl|rfl<;>simp at hc
  simp at hc
  rw[List.getElem?_eq_none (by simp;omega)] at hc
  cases hc
theorem Zln {fn:Func}{t:Tmp}{a:Array Value}{w d w2:World}{r n:Nat}{s neg:Bool}{A:Option Addr}{l c:Nat}{z:Int}(b:fn.results=#[.cell t 127])(i:a[t]? = some (.pointer (some ⟨r,0,none⟩)))(g:w.heap.size≤r)(j:Ext w d)(h:Blk 127 d r #[.bool false,.slice none 0 0])(e:Ext d w2)(k:zK w2 (.slice A l c) n)(m:s=(neg && decide (0<n)))(o:z=sg neg n) :
 bodyPost Tryz.prog fn (Zf8 w z) .ret ⟨a,[]⟩ ((w2.setCell ⟨r,0,none⟩ (.bool s)).setCell ⟨r,1,none⟩ (.slice A l c)):=by
 have f:Blk 127 ((w2.setCell ⟨r,0,none⟩ (.bool s)).setCell ⟨r,1,none⟩ (.slice A l c)) r #[.bool s,.slice A l c]:=((h.ext e).set_ 0 _).set_ 1 _
 refine bodyPost_ret (ZkD b _ _ r _ _ i f) rfl ⟨_,rfl,?_,?_⟩
 ·subst o
  exact fJ.signed (k.store2 (h.ext e)) m
 exact ((j.trans e).setCell (Or.inr g) _).setCell (Or.inr g) _
theorem Zb7 {t:TypeId}{w w':World}{g b:Nat}{x y c y':Value}(h:Blk t w g #[x,y])(d:Blk t w b #[c,y'])(a:Ext w w') :
 w'.cell? ⟨g,0,none⟩=some x∧w'.cell? ⟨g,1,none⟩=some y∧w'.cell? ⟨b,0,none⟩=some c∧w'.cell? ⟨b,1,none⟩=some y' :=
 ⟨(h.ext a).cell 0,(h.ext a).cell 1,(d.ext a).cell 0,(d.ext a).cell 1⟩
theorem Zf9 {t:TypeId}{w w':World}{g d r:Nat}{x y i y' a b:Value}(h:Blk t w g #[x,y])(j:Blk t w d #[i,y'])(e:Ext w w')(f:g≠r)(c:d≠r) :
 ((w'.setCell ⟨r,0,none⟩ a).setCell ⟨r,1,none⟩ b).cell? ⟨g,0,none⟩=some x∧((w'.setCell ⟨r,0,none⟩ a).setCell ⟨r,1,none⟩ b).cell? ⟨g,1,none⟩=some y∧((w'.setCell ⟨r,0,none⟩ a).setCell ⟨r,1,none⟩ b).cell? ⟨d,0,none⟩=some i∧((w'.setCell ⟨r,0,none⟩ a).setCell ⟨r,1,none⟩ b).cell? ⟨d,1,none⟩=some y' :=
 ⟨(((h.ext e).far (p:=⟨r,0,none⟩) f a).far (p:=⟨r,1,none⟩) f b).cell 0,(((h.ext e).far (p:=⟨r,0,none⟩) f a).far (p:=⟨r,1,none⟩) f b).cell 1,(((j.ext e).far (p:=⟨r,0,none⟩) c a).far (p:=⟨r,1,none⟩) c b).cell 0,(((j.ext e).far (p:=⟨r,0,none⟩) c a).far (p:=⟨r,1,none⟩) c b).cell 1⟩
theorem bO {a b:Nat}(h:b≤a):0≤cmpI a b:=by
 have:=fT (a:=a) (b:=b);omega
theorem dJ (u v:Value)(m n:Nat)(w:World)(g:zK w u m)(h:zK w v n)(i:wl m≤4294967296)(j:wl n≤4294967296) :
 yA 164 #[u,v] w fun e w'=>e=.returned (.int .i64 (cmpI m n))∧∃ n,w'=w.drewN n:=by
 obtain⟨A,k,c,rfl,t,l,a,b,rfl⟩:=g
 obtain⟨o,p,q,rfl,r,s,d,f,rfl⟩:=h
 rw[←xR a b] at i
 rw[←xR d f] at j
 exact eP A o k p _ _ c q w rfl rfl l s (by omega) (by omega) a d b f
theorem fJ.open {w:World}{v:Value}{z:Int}(h:fJ w v z):∃ (s:Bool) (A:Option Addr) (l c:Nat),v=.agg #[.bool s,.slice A l c]∧zK w (.slice A l c) z.natAbs∧z=sg s z.natAbs∧(z=0→s=false):=by
 obtain⟨s,u,n,d,a,e,h4⟩:=h
 obtain⟨A,l,c,rfl⟩:=a.slice
 have b:z.natAbs=n:=by cases s<;>simp at h4<;>omega
 refine⟨s,A,l,c,d,b ▸ a,?_,?_⟩
 ·rw[b];exact h4
 intro f;exact e (by omega)
def Fits (z:Int):Prop:=wl z.natAbs≤1048576
theorem Zmh {t:TypeId}{w wb:World}{x y:Array Value}(h:(w.alloc (.cells x t)).alloc (.cells y t)=wb):Blk t wb w.heap.size x∧Blk t wb (w.heap.size+1) y∧Ext w wb:=by
 subst h
 have b:(w.alloc (.cells x t)).heap.size=w.heap.size+1:=by simp
 have a:=Blk.new (w.alloc (.cells x t)) t y
 rw[b] at a
 exact⟨(Blk.new _ _ _).alloc _,a,((Fr.refl _ _).alloc _).alloc _⟩
def RetV (w:World) (v:Value) (e:Ending) (w':World):Prop:=e=.returned v∧Ext w w'
theorem zK.len0 {w:World}{A:Option Addr}{l c n:Nat}(h:zK w (.slice A l c) n):l=wl n:=by
 obtain⟨d,f,g,e,i,j,a,b,rfl⟩:=h
 injection e with e1 e2 e3
 rw[e2];exact xR a b
theorem kT {n:Nat}:wl n=0↔n=0:=by
 constructor
 ·intro h;rcases uI n with e|e
  ·exact e
  have:=ZdT e;omega
 rintro rfl;rfl
theorem Znm (a:Value)(x:Int)(w:World)(ha:fJ w a x):yA 96 #[a] w (RetV w (.bool (decide (x=1)))):=by
 obtain⟨s,A,l,c,rfl,g,d,j⟩:=ha.open
 have h:=g.len0
 cases s with
 | true =>
  have f:Hid (decide (x=1)=false):=by unfold Hid;simp[sg] at d;simp;omega
  clear g d j ha h
  go_enter Tryz.func96,Tryz.ntmps96
  go_wp2
  go_ret
  exact⟨by rw[f.out];rfl,(Fr.refl _ _).alloc _⟩
 | false =>
  by_cases k:l=1
  ·subst k
   obtain⟨D,o,E,e,r,p,t,u,q⟩:=g
   injection e with e1 e2 e3
   subst e1 e3
   obtain⟨m,rfl⟩:∃ m,o=[m]:=by match o,e2 with | [y],_=>exact⟨y,rfl⟩
   simp at q
   obtain⟨b,v,rfl,z,n⟩:=p.at (i:=0) (by simp)
   simp at n
   have B:=Nat.ne_of_lt z
   have f:Hid (decide (x=1)=((m:Int) == 1)):=by
    unfold Hid;rw[Bool.eq_iff_iff];simp;simp[sg] at d;omega
   clear d j ha h p t u q e2 r
   go_enter Tryz.func96,Tryz.ntmps96
   go_wp2
   go_ret
   exact⟨by rw[f.out];rfl,(Fr.refl _ _).alloc _⟩
  have C:((l:Int) == 1)=false:=by simp;omega
  have f:Hid (decide (x=1)=false):=by
   unfold Hid
   rw[vA]
   rintro rfl
   apply k
   rw[h]
   rfl
  clear g d j ha h k
  go_enter Tryz.func96,Tryz.ntmps96
  go_wp2
  go_ret
  exact⟨by rw[f.out];rfl,(Fr.refl _ _).alloc _⟩
theorem fJ.shape {w:World}{v:Value}{z:Int}(h:fJ w v z):∃ (s:Bool) (A:Option Addr) (l c:Nat),v=.agg #[.bool s,.slice A l c]:=by
 obtain⟨s,A,l,c,h,_⟩:=h.open
 exact⟨s,A,l,c,h⟩
def zZ (w:World) (v:Value) (z:Int):Prop :=
 ∃ (neg:Bool) (u:Value) (n:Nat),v=.agg #[.bool neg,u]∧zS w u n∧(n=0→neg=false)∧z=(if neg then -(n:Int) else (n:Int))
theorem zZ.ext {w w':World}{v:Value}{z:Int}(h:zZ w v z)(a:Ext w w'):zZ w' v z:=by
 obtain⟨s,u,n,b,c,d⟩:=h
 exact⟨s,u,n,b,c.ext a,d⟩
def lW (w:World) (z:Int) (e:Ending) (w':World):Prop:=∃ v,e=.returned v∧zZ w' v z∧Ext w w'
def Zqm (w:World) (neg:Bool) (u:Value) (n:Nat) (e:Ending) (w':World):Prop :=
 ∃ s,e=.returned (.agg #[.bool s,u])∧Hid (s=(neg && decide (0<n)))∧Ext w w'
theorem zZ.signed {w:World}{neg s:Bool}{u:Value}{n:Nat}(a:zS w u n)(b:s=(neg && decide (0<n))):zZ w (.agg #[.bool s,u]) (sg neg n):=by
 subst b
 refine⟨_,u,n,rfl,a,?_,?_⟩
 ·rintro rfl;simp
 cases neg
 ·simp[sg]
 rcases uI n with rfl|h
 ·simp[sg]
 simp[sg,h]
theorem ZaD {fn:Func}{t:Tmp}(h:fn.results=#[.cell t 32])(a:Array Value)(w:World)(b:Nat)(x y:Value)(d:a[t]? = some (.pointer (some ⟨b,0,none⟩)))(c:Blk 32 w b #[x,y]):(results fn a).run Tryz.prog w=.ok (.agg #[x,y]) w:=by
 have e:w.cell? ⟨b,0,none⟩=some x:=c.cell 0
 have f:w.cell? ⟨b,1,none⟩=some y:=c.cell 1
 simp[results,h,d,go_sem,e,f]
theorem jH (neg:Bool)(u:Value)(n:Nat)(w:World)(h:zS w u n) :
 yA 61 #[.bool neg,u] w (Zqm w neg u n):=by
 obtain⟨A,i,c,rfl,j,f,b,d,g⟩:=h
 have a:Hid (decide (0<n)=decide (0<i.length)):=by
  have:=kX b d
  rw[g] at this
  rcases uI n with e|e
  ·subst e;rw[Zhg] at this;unfold Hid;simp[this]
  have:=Zgd e;unfold Hid;rw[uW e,uW (by omega)]
 have k:=zh f
 have l:=zh b
 have m:=zh d
 clear f b d g j
 cases neg with
 | false =>
  go_enter Tryz.func61,Tryz.ntmps61
  go_wp2
  refine bodyPost_ret (ZaD rfl _ _ w.heap.size _ _ rfl (Blk.new w _ _)) rfl ⟨_,rfl,?_,(Fr.refl _ _).alloc _⟩
  unfold Hid;simp
 | true =>
  go_enter Tryz.func61,Tryz.ntmps61
  go_wp2
  refine bodyPost_ret (ZaD rfl _ _ w.heap.size _ _ rfl (Blk.new w _ _)) rfl ⟨_,rfl,?_,(Fr.refl _ _).alloc _⟩
  unfold Hid;rw[a.out];simp
theorem zS.slice {w:World}{v:Value}{n:Nat}(h:zS w v n):∃ A l c,v=.slice A l c:=by
 obtain⟨A,a,c,h,_⟩:=h
 exact⟨A,_,c,h⟩
theorem zS.store2 {t:TypeId}{w:World}{r n:Nat}{u a b:Value}{s:Bool}{A:Option Addr}{l c:Nat}(h:zS w u n)(k:Blk t w r #[.bool s,.slice A l c]):zS ((w.setCell ⟨r,0,none⟩ a).setCell ⟨r,1,none⟩ b) u n:=by
 obtain⟨m,xs,o,q,v,j,y⟩:=h
 refine⟨m,xs,o,q,v,?_,y⟩
 have z:Fr (fun i=>i=r) w ((w.setCell ⟨r,0,none⟩ a).setCell ⟨r,1,none⟩ b):=((Fr.refl (fun i=>i=r) w).setCell (p:=⟨r,0,none⟩) (Or.inl rfl) a).setCell (p:=⟨r,1,none⟩) (Or.inl rfl) b
 cases xs with
 | nil=>exact zF.nil
 | cons x xs =>
  refine j.fr z (fun E f B e=>?_)
  obtain⟨g,d,C,_,hc⟩:=j.at (i:=0) (by simp)
  rw[C] at f
  injection f with f
  subst f
  simp at e
  subst e
  rw[k.cell] at hc
  rcases vJ d 2 with D|D
  ·rcases (by omega:d=0∨d=1) with rfl|rfl<;>simp at hc
  simp at hc
  rw[List.getElem?_eq_none (by simp;omega)] at hc
  cases hc
theorem fB {fn:Func}{t:Tmp}{a:Array Value}{w d w2:World}{r n:Nat}{s neg:Bool}{A:Option Addr}{l c:Nat}{z:Int}(b:fn.results=#[.cell t 32])(i:a[t]? = some (.pointer (some ⟨r,0,none⟩)))(g:w.heap.size≤r)(j:Ext w d)(h:Blk 32 d r #[.bool false,.slice none 0 0])(e:Ext d w2)(k:zS w2 (.slice A l c) n)(m:s=(neg && decide (0<n)))(o:z=sg neg n) :
 bodyPost Tryz.prog fn (lW w z) .ret ⟨a,[]⟩ ((w2.setCell ⟨r,0,none⟩ (.bool s)).setCell ⟨r,1,none⟩ (.slice A l c)):=by
 have f:Blk 32 ((w2.setCell ⟨r,0,none⟩ (.bool s)).setCell ⟨r,1,none⟩ (.slice A l c)) r #[.bool s,.slice A l c]:=((h.ext e).set_ 0 _).set_ 1 _
 refine bodyPost_ret (ZaD b _ _ r _ _ i f) rfl ⟨_,rfl,?_,?_⟩
 ·subst o
  exact zZ.signed (k.store2 (h.ext e)) m
 exact ((j.trans e).setCell (Or.inr g) _).setCell (Or.inr g) _
theorem Zge (u v:Value)(m n k:Nat)(z:Int)(w:World)(q:zS w u m)(r:zS w v n)(s:ml m≤17592186044416)(t:ml n≤17592186044416)(x:m+n=k)(y:z=sg false k) :
 yA 77 #[.agg #[.bool false,u],.agg #[.bool false,v]] w (lW w z):=by
 have A:=zh q
 have B:=zh r
 have C:=zh s
 have D:=zh t
 have E:=zh x
 have F:=zh y
 clear q r s t x y
 go_enter Tryz.func77,Tryz.ntmps77
 go_wp2
 generalize d:World.alloc (World.alloc (World.alloc w _) _) _=wb
 obtain⟨f,g,h,Q⟩:=kN d
 have a:=zh f
 have b:=zh g
 have i:=zh h
 have o:=zh Q
 clear d f g h Q
 go_region_held3 (fun w'=>w'.cell? ⟨w.heap.size,0,none⟩=some (.bool false)∧w'.cell? ⟨w.heap.size,1,none⟩=some (u)∧w'.cell? ⟨w.heap.size+1,1,none⟩=some (v))
  (first|exact bX a.out b.out (Fr.refl _ _).drew|exact bX a.out b.out (Fr.undrew (by assumption))|exact Zcx a.out b.out (Fr.undrew (by assumption)) (by omega) (by omega))
  (first
   | (
    go_at_call 102
    refine (Za8 _ _ m n _ (A.out.ext o.out.drew) (B.out.ext o.out.drew) C.out D.out).mono ?_
    rintro e H ⟨I,rfl,c,G⟩
    rw[E.out] at c
    obtain⟨J,K,L,rfl⟩:=c.slice)
   | (
    go_at_call 61
    refine (jH _ _ _ _ (by assumption)).mono ?_
    rintro e w2 ⟨M,rfl,p,j⟩
    have l:Ext wb.drew w2:=Fr.ext (by assumption) j
    obtain⟨N,O,P,R⟩:=(i.out.ext (Fr.undrew l)).cell2))
 go_wp2
 exact fB rfl rfl (by omega) o.out i.out (Fr.undrew l) (c.ext j) p.out F.out
theorem Zhi (u v:Value)(m n k:Nat)(z:Int)(w:World)(q:zS w u m)(r:zS w v n)(s:ml m≤17592186044416)(t:ml n≤17592186044416)(x:m+n=k)(y:z=sg true k) :
 yA 77 #[.agg #[.bool true,u],.agg #[.bool true,v]] w (lW w z):=by
 have A:=zh q
 have B:=zh r
 have C:=zh s
 have D:=zh t
 have E:=zh x
 have F:=zh y
 clear q r s t x y
 go_enter Tryz.func77,Tryz.ntmps77
 go_wp2
 generalize d:World.alloc (World.alloc (World.alloc w _) _) _=wb
 obtain⟨f,g,h,Q⟩:=kN d
 have a:=zh f
 have b:=zh g
 have i:=zh h
 have o:=zh Q
 clear d f g h Q
 go_region_held3 (fun w'=>w'.cell? ⟨w.heap.size,0,none⟩=some (.bool true)∧w'.cell? ⟨w.heap.size,1,none⟩=some (u)∧w'.cell? ⟨w.heap.size+1,1,none⟩=some (v))
  (first|exact bX a.out b.out (Fr.refl _ _).drew|exact bX a.out b.out (Fr.undrew (by assumption))|exact Zcx a.out b.out (Fr.undrew (by assumption)) (by omega) (by omega))
  (first
   | (
    go_at_call 102
    refine (Za8 _ _ m n _ (A.out.ext o.out.drew) (B.out.ext o.out.drew) C.out D.out).mono ?_
    rintro e H ⟨I,rfl,c,G⟩
    rw[E.out] at c
    obtain⟨J,K,L,rfl⟩:=c.slice)
   | (
    go_at_call 61
    refine (jH _ _ _ _ (by assumption)).mono ?_
    rintro e w2 ⟨M,rfl,p,j⟩
    have l:Ext wb.drew w2:=Fr.ext (by assumption) j
    obtain⟨N,O,P,R⟩:=(i.out.ext (Fr.undrew l)).cell2))
 go_wp2
 exact fB rfl rfl (by omega) o.out i.out (Fr.undrew l) (c.ext j) p.out F.out
theorem Zfz (u v:Value)(m n k:Nat)(z:Int)(w:World)(q:zS w u m)(r:zS w v n)(s:ml m≤17592186044416)(t:ml n≤17592186044416)(x:m*n=k)(y:z=sg false k) :
 yA 74 #[.agg #[.bool false,u],.agg #[.bool false,v]] w (lW w z):=by
 have A:=zh q
 have B:=zh r
 have C:=zh s
 have D:=zh t
 have E:=zh x
 have F:=zh y
 clear q r s t x y
 go_enter Tryz.func74,Tryz.ntmps74
 go_wp2
 generalize d:World.alloc (World.alloc (World.alloc w _) _) _=wb
 obtain⟨f,g,h,Q⟩:=kN d
 have a:=zh f
 have b:=zh g
 have i:=zh h
 have o:=zh Q
 clear d f g h Q
 go_region_held3 (fun w'=>w'.cell? ⟨w.heap.size,0,none⟩=some (.bool false)∧w'.cell? ⟨w.heap.size,1,none⟩=some (u)∧w'.cell? ⟨w.heap.size+1,0,none⟩=some (.bool false)∧w'.cell? ⟨w.heap.size+1,1,none⟩=some (v))
  (first|exact Zb7 a.out b.out (Fr.refl _ _).drew|exact Zb7 a.out b.out (Fr.undrew (by assumption))|exact Zf9 a.out b.out (Fr.undrew (by assumption)) (by omega) (by omega))
  (first
   | (
    go_at_call 103
    refine (bF _ _ m n _ (A.out.ext o.out.drew) (B.out.ext o.out.drew) C.out D.out).mono ?_
    rintro e H ⟨I,rfl,c,G⟩
    rw[E.out] at c
    obtain⟨J,K,L,rfl⟩:=c.slice)
   | (
    go_at_call 61
    refine (jH _ _ _ _ (by assumption)).mono ?_
    rintro e w2 ⟨M,rfl,p,j⟩
    have l:Ext wb.drew w2:=Fr.ext (by assumption) j
    obtain⟨N,O,P,R⟩:=(i.out.ext (Fr.undrew l)).cell2))
 go_wp2
 exact fB rfl rfl (by omega) o.out i.out (Fr.undrew l) (c.ext j) p.out F.out
theorem Zgf (u v:Value)(m n k:Nat)(z:Int)(w:World)(q:zS w u m)(r:zS w v n)(s:ml m≤17592186044416)(t:ml n≤17592186044416)(x:m*n=k)(y:z=sg true k) :
 yA 74 #[.agg #[.bool false,u],.agg #[.bool true,v]] w (lW w z):=by
 have A:=zh q
 have B:=zh r
 have C:=zh s
 have D:=zh t
 have E:=zh x
 have F:=zh y
 clear q r s t x y
 go_enter Tryz.func74,Tryz.ntmps74
 go_wp2
 generalize d:World.alloc (World.alloc (World.alloc w _) _) _=wb
 obtain⟨f,g,h,Q⟩:=kN d
 have a:=zh f
 have b:=zh g
 have i:=zh h
 have o:=zh Q
 clear d f g h Q
 go_region_held3 (fun w'=>w'.cell? ⟨w.heap.size,0,none⟩=some (.bool false)∧w'.cell? ⟨w.heap.size,1,none⟩=some (u)∧w'.cell? ⟨w.heap.size+1,0,none⟩=some (.bool true)∧w'.cell? ⟨w.heap.size+1,1,none⟩=some (v))
  (first|exact Zb7 a.out b.out (Fr.refl _ _).drew|exact Zb7 a.out b.out (Fr.undrew (by assumption))|exact Zf9 a.out b.out (Fr.undrew (by assumption)) (by omega) (by omega))
  (first
   | (
    go_at_call 103
    refine (bF _ _ m n _ (A.out.ext o.out.drew) (B.out.ext o.out.drew) C.out D.out).mono ?_
    rintro e H ⟨I,rfl,c,G⟩
    rw[E.out] at c
    obtain⟨J,K,L,rfl⟩:=c.slice)
   | (
    go_at_call 61
    refine (jH _ _ _ _ (by assumption)).mono ?_
    rintro e w2 ⟨M,rfl,p,j⟩
    have l:Ext wb.drew w2:=Fr.ext (by assumption) j
    obtain⟨N,O,P,R⟩:=(i.out.ext (Fr.undrew l)).cell2))
 go_wp2
 exact fB rfl rfl (by omega) o.out i.out (Fr.undrew l) (c.ext j) p.out F.out
theorem Zgg (u v:Value)(m n k:Nat)(z:Int)(w:World)(q:zS w u m)(r:zS w v n)(s:ml m≤17592186044416)(t:ml n≤17592186044416)(x:m*n=k)(y:z=sg true k) :
 yA 74 #[.agg #[.bool true,u],.agg #[.bool false,v]] w (lW w z):=by
 have A:=zh q
 have B:=zh r
 have C:=zh s
 have D:=zh t
 have E:=zh x
 have F:=zh y
 clear q r s t x y
 go_enter Tryz.func74,Tryz.ntmps74
 go_wp2
 generalize d:World.alloc (World.alloc (World.alloc w _) _) _=wb
 obtain⟨f,g,h,Q⟩:=kN d
 have a:=zh f
 have b:=zh g
 have i:=zh h
 have o:=zh Q
 clear d f g h Q
 go_region_held3 (fun w'=>w'.cell? ⟨w.heap.size,0,none⟩=some (.bool true)∧w'.cell? ⟨w.heap.size,1,none⟩=some (u)∧w'.cell? ⟨w.heap.size+1,0,none⟩=some (.bool false)∧w'.cell? ⟨w.heap.size+1,1,none⟩=some (v))
  (first|exact Zb7 a.out b.out (Fr.refl _ _).drew|exact Zb7 a.out b.out (Fr.undrew (by assumption))|exact Zf9 a.out b.out (Fr.undrew (by assumption)) (by omega) (by omega))
  (first
   | (
    go_at_call 103
    refine (bF _ _ m n _ (A.out.ext o.out.drew) (B.out.ext o.out.drew) C.out D.out).mono ?_
    rintro e H ⟨I,rfl,c,G⟩
    rw[E.out] at c
    obtain⟨J,K,L,rfl⟩:=c.slice)
   | (
    go_at_call 61
    refine (jH _ _ _ _ (by assumption)).mono ?_
    rintro e w2 ⟨M,rfl,p,j⟩
    have l:Ext wb.drew w2:=Fr.ext (by assumption) j
    obtain⟨N,O,P,R⟩:=(i.out.ext (Fr.undrew l)).cell2))
 go_wp2
 exact fB rfl rfl (by omega) o.out i.out (Fr.undrew l) (c.ext j) p.out F.out
theorem Zhj (u v:Value)(m n k:Nat)(z:Int)(w:World)(q:zS w u m)(r:zS w v n)(s:ml m≤17592186044416)(t:ml n≤17592186044416)(x:m*n=k)(y:z=sg false k) :
 yA 74 #[.agg #[.bool true,u],.agg #[.bool true,v]] w (lW w z):=by
 have A:=zh q
 have B:=zh r
 have C:=zh s
 have D:=zh t
 have E:=zh x
 have F:=zh y
 clear q r s t x y
 go_enter Tryz.func74,Tryz.ntmps74
 go_wp2
 generalize d:World.alloc (World.alloc (World.alloc w _) _) _=wb
 obtain⟨f,g,h,Q⟩:=kN d
 have a:=zh f
 have b:=zh g
 have i:=zh h
 have o:=zh Q
 clear d f g h Q
 go_region_held3 (fun w'=>w'.cell? ⟨w.heap.size,0,none⟩=some (.bool true)∧w'.cell? ⟨w.heap.size,1,none⟩=some (u)∧w'.cell? ⟨w.heap.size+1,0,none⟩=some (.bool true)∧w'.cell? ⟨w.heap.size+1,1,none⟩=some (v))
  (first|exact Zb7 a.out b.out (Fr.refl _ _).drew|exact Zb7 a.out b.out (Fr.undrew (by assumption))|exact Zf9 a.out b.out (Fr.undrew (by assumption)) (by omega) (by omega))
  (first
   | (
    go_at_call 103
    refine (bF _ _ m n _ (A.out.ext o.out.drew) (B.out.ext o.out.drew) C.out D.out).mono ?_
    rintro e H ⟨I,rfl,c,G⟩
    rw[E.out] at c
    obtain⟨J,K,L,rfl⟩:=c.slice)
   | (
    go_at_call 61
    refine (jH _ _ _ _ (by assumption)).mono ?_
    rintro e w2 ⟨M,rfl,p,j⟩
    have l:Ext wb.drew w2:=Fr.ext (by assumption) j
    obtain⟨N,O,P,R⟩:=(i.out.ext (Fr.undrew l)).cell2))
 go_wp2
 exact fB rfl rfl (by omega) o.out i.out (Fr.undrew l) (c.ext j) p.out F.out
theorem Zd1 (u v:Value)(m n k:Nat)(z:Int)(w:World)(y:zS w u m)(A:zS w v n)(B:ml m≤17592186044416)(C:ml n≤17592186044416)(c:n≤m)(D:m-n=k)(E:z=sg false k) :
 yA 77 #[.agg #[.bool false,u],.agg #[.bool true,v]] w (lW w z):=by
 have F:=zh y
 have G:=zh A
 have H:=zh B
 have I:=zh C
 have d:=zh c
 have J:=zh D
 have K:=zh E
 clear y A B C c D E
 go_enter Tryz.func77,Tryz.ntmps77
 go_wp2_with fail
 generalize f:World.alloc (World.alloc (World.alloc w _) _) _=wb
 obtain⟨g,h,i,Q⟩:=kN f
 have HBx:=zh g
 have HBy:=zh h
 have HBr:=zh i
 have HE:=zh Q
 clear f g h i Q
 have p:=HBx.out.cell2.2.1
 have r:=HBy.out.cell2.2.1
 go_wp2_with fail
 clear p r
 refine (bG u v m n _ (F.out.ext HE.out) (G.out.ext HE.out) H.out I.out).mono ?_
 rintro e w' ⟨rfl,o,a⟩
 obtain⟨q,s⟩:=yE (cmpI m n)
 have L:(0:Int)≤q:=by rw[←s];exact bO d.out
 rw[s]
 replace HBx:=zh (show Blk _ w' _ _ from a ▸ HBx.out.drewN o)
 replace HBy:=zh (show Blk _ w' _ _ from a ▸ HBy.out.drewN o)
 replace HBr:=zh (show Blk _ w' _ _ from a ▸ HBr.out.drewN o)
 replace HE:=zh (show Ext w w' from a ▸ HE.out.drewN o)
 clear a s
 clear wb
 obtain⟨wb,t⟩:=yE w'
 subst t
 go_wp2_with fail
 go_region_held3 (fun w'=>w'.cell? ⟨w.heap.size,0,none⟩=some (.bool false)∧w'.cell? ⟨w.heap.size,1,none⟩=some (u)∧w'.cell? ⟨w.heap.size+1,1,none⟩=some (v))
  (first|exact bX HBx.out HBy.out (Fr.refl _ _).drew|exact bX HBx.out HBy.out (Fr.undrew (by assumption))|exact Zcx HBx.out HBy.out (Fr.undrew (by assumption)) (by omega) (by omega))
  (first
   | (
    go_at_call 117
    refine (Za9 _ _ m n _ (F.out.ext HE.out.drew) (G.out.ext HE.out.drew) H.out (by have:=d.out;omega)).mono ?_
    rintro e N ⟨O,rfl,b,M⟩
    rw[J.out] at b
    obtain⟨P,R,S,rfl⟩:=b.slice)
   | (
    go_at_call 61
    refine (jH _ _ _ _ (by assumption)).mono ?_
    rintro e w2 ⟨T,rfl,x,j⟩
    have l:Ext w'.drew w2:=Fr.ext (by assumption) j
    obtain⟨U,V,W,X⟩:=(HBr.out.ext (Fr.undrew l)).cell2))
 go_wp2
 exact fB rfl rfl (by omega) HE.out HBr.out (Fr.undrew l) (b.ext j) x.out K.out
theorem Zd2 (u v:Value)(m n k:Nat)(z:Int)(w:World)(y:zS w u m)(A:zS w v n)(B:ml m≤17592186044416)(C:ml n≤17592186044416)(c:m<n)(D:n-m=k)(E:z=sg true k) :
 yA 77 #[.agg #[.bool false,u],.agg #[.bool true,v]] w (lW w z):=by
 have F:=zh y
 have G:=zh A
 have I:=zh B
 have H:=zh C
 have d:=zh c
 have J:=zh D
 have K:=zh E
 clear y A B C c D E
 go_enter Tryz.func77,Tryz.ntmps77
 go_wp2_with fail
 generalize f:World.alloc (World.alloc (World.alloc w _) _) _=wb
 obtain⟨g,h,i,Q⟩:=kN f
 have HBx:=zh g
 have HBy:=zh h
 have HBr:=zh i
 have HE:=zh Q
 clear f g h i Q
 have p:=HBx.out.cell2.2.1
 have r:=HBy.out.cell2.2.1
 go_wp2_with fail
 clear p r
 refine (bG u v m n _ (F.out.ext HE.out) (G.out.ext HE.out) I.out H.out).mono ?_
 rintro e w' ⟨rfl,o,a⟩
 obtain⟨q,s⟩:=yE (cmpI m n)
 have L:q<0:=by rw[←s];exact fT.2 d.out
 rw[s]
 replace HBx:=zh (show Blk _ w' _ _ from a ▸ HBx.out.drewN o)
 replace HBy:=zh (show Blk _ w' _ _ from a ▸ HBy.out.drewN o)
 replace HBr:=zh (show Blk _ w' _ _ from a ▸ HBr.out.drewN o)
 replace HE:=zh (show Ext w w' from a ▸ HE.out.drewN o)
 clear a s
 clear wb
 obtain⟨wb,t⟩:=yE w'
 subst t
 go_wp2_with fail
 go_region_held3 (fun w'=>w'.cell? ⟨w.heap.size+1,0,none⟩=some (.bool true)∧w'.cell? ⟨w.heap.size+1,1,none⟩=some (v)∧w'.cell? ⟨w.heap.size,1,none⟩=some (u))
  (first|exact bX HBy.out HBx.out (Fr.refl _ _).drew|exact bX HBy.out HBx.out (Fr.undrew (by assumption))|exact Zcx HBy.out HBx.out (Fr.undrew (by assumption)) (by omega) (by omega))
  (first
   | (
    go_at_call 117
    refine (Za9 _ _ n m _ (G.out.ext HE.out.drew) (F.out.ext HE.out.drew) H.out (by have:=d.out;omega)).mono ?_
    rintro e N ⟨O,rfl,b,M⟩
    rw[J.out] at b
    obtain⟨P,R,S,rfl⟩:=b.slice)
   | (
    go_at_call 61
    refine (jH _ _ _ _ (by assumption)).mono ?_
    rintro e w2 ⟨T,rfl,x,j⟩
    have l:Ext w'.drew w2:=Fr.ext (by assumption) j
    obtain⟨U,V,W,X⟩:=(HBr.out.ext (Fr.undrew l)).cell2))
 go_wp2
 exact fB rfl rfl (by omega) HE.out HBr.out (Fr.undrew l) (b.ext j) x.out K.out
theorem ZeZ (u v:Value)(m n k:Nat)(z:Int)(w:World)(y:zS w u m)(A:zS w v n)(B:ml m≤17592186044416)(C:ml n≤17592186044416)(c:n≤m)(D:m-n=k)(E:z=sg true k) :
 yA 77 #[.agg #[.bool true,u],.agg #[.bool false,v]] w (lW w z):=by
 have F:=zh y
 have G:=zh A
 have H:=zh B
 have I:=zh C
 have d:=zh c
 have J:=zh D
 have K:=zh E
 clear y A B C c D E
 go_enter Tryz.func77,Tryz.ntmps77
 go_wp2_with fail
 generalize f:World.alloc (World.alloc (World.alloc w _) _) _=wb
 obtain⟨g,h,i,Q⟩:=kN f
 have HBx:=zh g
 have HBy:=zh h
 have HBr:=zh i
 have HE:=zh Q
 clear f g h i Q
 have p:=HBx.out.cell2.2.1
 have r:=HBy.out.cell2.2.1
 go_wp2_with fail
 clear p r
 refine (bG u v m n _ (F.out.ext HE.out) (G.out.ext HE.out) H.out I.out).mono ?_
 rintro e w' ⟨rfl,o,a⟩
 obtain⟨q,s⟩:=yE (cmpI m n)
 have L:(0:Int)≤q:=by rw[←s];exact bO d.out
 rw[s]
 replace HBx:=zh (show Blk _ w' _ _ from a ▸ HBx.out.drewN o)
 replace HBy:=zh (show Blk _ w' _ _ from a ▸ HBy.out.drewN o)
 replace HBr:=zh (show Blk _ w' _ _ from a ▸ HBr.out.drewN o)
 replace HE:=zh (show Ext w w' from a ▸ HE.out.drewN o)
 clear a s
 clear wb
 obtain⟨wb,t⟩:=yE w'
 subst t
 go_wp2_with fail
 go_region_held3 (fun w'=>w'.cell? ⟨w.heap.size,0,none⟩=some (.bool true)∧w'.cell? ⟨w.heap.size,1,none⟩=some (u)∧w'.cell? ⟨w.heap.size+1,1,none⟩=some (v))
  (first|exact bX HBx.out HBy.out (Fr.refl _ _).drew|exact bX HBx.out HBy.out (Fr.undrew (by assumption))|exact Zcx HBx.out HBy.out (Fr.undrew (by assumption)) (by omega) (by omega))
  (first
   | (
    go_at_call 117
    refine (Za9 _ _ m n _ (F.out.ext HE.out.drew) (G.out.ext HE.out.drew) H.out (by have:=d.out;omega)).mono ?_
    rintro e N ⟨O,rfl,b,M⟩
    rw[J.out] at b
    obtain⟨P,R,S,rfl⟩:=b.slice)
   | (
    go_at_call 61
    refine (jH _ _ _ _ (by assumption)).mono ?_
    rintro e w2 ⟨T,rfl,x,j⟩
    have l:Ext w'.drew w2:=Fr.ext (by assumption) j
    obtain⟨U,V,W,X⟩:=(HBr.out.ext (Fr.undrew l)).cell2))
 go_wp2
 exact fB rfl rfl (by omega) HE.out HBr.out (Fr.undrew l) (b.ext j) x.out K.out
theorem Ze0 (u v:Value)(m n k:Nat)(z:Int)(w:World)(y:zS w u m)(A:zS w v n)(B:ml m≤17592186044416)(C:ml n≤17592186044416)(c:m<n)(D:n-m=k)(E:z=sg false k) :
 yA 77 #[.agg #[.bool true,u],.agg #[.bool false,v]] w (lW w z):=by
 have F:=zh y
 have G:=zh A
 have I:=zh B
 have H:=zh C
 have d:=zh c
 have J:=zh D
 have K:=zh E
 clear y A B C c D E
 go_enter Tryz.func77,Tryz.ntmps77
 go_wp2_with fail
 generalize f:World.alloc (World.alloc (World.alloc w _) _) _=wb
 obtain⟨g,h,i,Q⟩:=kN f
 have HBx:=zh g
 have HBy:=zh h
 have HBr:=zh i
 have HE:=zh Q
 clear f g h i Q
 have p:=HBx.out.cell2.2.1
 have r:=HBy.out.cell2.2.1
 go_wp2_with fail
 clear p r
 refine (bG u v m n _ (F.out.ext HE.out) (G.out.ext HE.out) I.out H.out).mono ?_
 rintro e w' ⟨rfl,o,a⟩
 obtain⟨q,s⟩:=yE (cmpI m n)
 have L:q<0:=by rw[←s];exact fT.2 d.out
 rw[s]
 replace HBx:=zh (show Blk _ w' _ _ from a ▸ HBx.out.drewN o)
 replace HBy:=zh (show Blk _ w' _ _ from a ▸ HBy.out.drewN o)
 replace HBr:=zh (show Blk _ w' _ _ from a ▸ HBr.out.drewN o)
 replace HE:=zh (show Ext w w' from a ▸ HE.out.drewN o)
 clear a s
 clear wb
 obtain⟨wb,t⟩:=yE w'
 subst t
 go_wp2_with fail
 go_region_held3 (fun w'=>w'.cell? ⟨w.heap.size+1,0,none⟩=some (.bool false)∧w'.cell? ⟨w.heap.size+1,1,none⟩=some (v)∧w'.cell? ⟨w.heap.size,1,none⟩=some (u))
  (first|exact bX HBy.out HBx.out (Fr.refl _ _).drew|exact bX HBy.out HBx.out (Fr.undrew (by assumption))|exact Zcx HBy.out HBx.out (Fr.undrew (by assumption)) (by omega) (by omega))
  (first
   | (
    go_at_call 117
    refine (Za9 _ _ n m _ (G.out.ext HE.out.drew) (F.out.ext HE.out.drew) H.out (by have:=d.out;omega)).mono ?_
    rintro e N ⟨O,rfl,b,M⟩
    rw[J.out] at b
    obtain⟨P,R,S,rfl⟩:=b.slice)
   | (
    go_at_call 61
    refine (jH _ _ _ _ (by assumption)).mono ?_
    rintro e w2 ⟨T,rfl,x,j⟩
    have l:Ext w'.drew w2:=Fr.ext (by assumption) j
    obtain⟨U,V,W,X⟩:=(HBr.out.ext (Fr.undrew l)).cell2))
 go_wp2
 exact fB rfl rfl (by omega) HE.out HBr.out (Fr.undrew l) (b.ext j) x.out K.out
theorem zZ.open {w:World}{v:Value}{z:Int}(h:zZ w v z):∃ (s:Bool) (A:Option Addr) (l c:Nat),v=.agg #[.bool s,.slice A l c]∧zS w (.slice A l c) z.natAbs∧z=sg s z.natAbs∧(z=0→s=false):=by
 obtain⟨s,u,n,d,a,e,h4⟩:=h
 obtain⟨A,l,c,rfl⟩:=a.slice
 have b:z.natAbs=n:=by cases s<;>simp at h4<;>omega
 refine⟨s,A,l,c,d,b ▸ a,?_,?_⟩
 ·rw[b];exact h4
 intro f;exact e (by omega)
def wG (z:Int):Prop:=ml z.natAbs≤17592186044416
theorem ZfA (a b:Value)(x y:Int)(w:World)(ha:zZ w a x)(f:zZ w b y)(g:wG x)(i:wG y):yA 77 #[a,b] w (lW w (x+y)):=by
 obtain⟨s,A,l,c,rfl,e,hz,k⟩:=ha.open
 obtain⟨t,m,n,o,rfl,d,hz',j⟩:=f.open
 unfold wG at g i
 cases s<;>cases t<;>simp only[sg,pS,qU,tT] at hz hz'
 ·exact Zge _ _ _ _ _ _ w e d (by omega) (by omega) rfl (by simp[sg];omega)
 ·rcases vJ x.natAbs y.natAbs with h|h
  ·exact Zd2 _ _ _ _ _ _ w e d (by omega) (by omega) h rfl (by simp[sg];omega)
  exact Zd1 _ _ _ _ _ _ w e d (by omega) (by omega) h rfl (by simp[sg];omega)
 ·rcases vJ x.natAbs y.natAbs with h|h
  ·exact Ze0 _ _ _ _ _ _ w e d (by omega) (by omega) h rfl (by simp[sg];omega)
  exact ZeZ _ _ _ _ _ _ w e d (by omega) (by omega) h rfl (by simp[sg];omega)
 exact Zhi _ _ _ _ _ _ w e d (by omega) (by omega) rfl (by simp[sg];omega)
theorem gS (a b:Value)(x y:Int)(w:World)(ha:zZ w a x)(g:zZ w b y)(h:wG x)(i:wG y):yA 74 #[a,b] w (lW w (x*y)):=by
 obtain⟨s,A,l,c,rfl,e,j,o⟩:=ha.open
 obtain⟨t,p,q,r,rfl,d,f,k⟩:=g.open
 unfold wG at h i
 generalize x.natAbs=m at *
 generalize y.natAbs=n at *
 subst j f
 cases s<;>cases t
 ·exact Zfz _ _ _ _ _ _ w e d (by omega) (by omega) rfl (by simp[sg])
 ·exact Zgf _ _ _ _ _ _ w e d (by omega) (by omega) rfl (by simp[sg,Int.mul_neg])
 ·exact Zgg _ _ _ _ _ _ w e d (by omega) (by omega) rfl (by simp[sg,pL])
 exact Zhj _ _ _ _ _ _ w e d (by omega) (by omega) rfl (by simp[sg,pL,Int.mul_neg])
theorem Zqn (w:World)(lo hi:Nat):Own .u32 102 (w.alloc (.cells #[.int .u32 (lo:Int),.int .u32 (hi:Int)] 102)) w.heap.size [lo,hi]:=by
 have:=Own.new w 102 .u32 [lo,hi] []
 exact this
theorem Zgh {w a:World}{lo hi:Nat}{x y:Value}(h:(w.alloc (.cells #[x,y] 32)).alloc (.cells #[.int .u32 (lo:Int),.int .u32 (hi:Int)] 102)=a) :
 Hid (Blk 32 a w.heap.size #[x,y])∧Hid (Own .u32 102 a (w.heap.size+1) [lo,hi])∧Hid (Ext w a):=by
 subst h
 have c:(w.alloc (.cells #[x,y] 32)).heap.size=w.heap.size+1:=by simp
 have b:=Zqn (w.alloc (.cells #[x,y] 32)) lo hi
 rw[c] at b
 exact⟨(Blk.new _ _ _).alloc _,b,((Fr.refl _ _).alloc _).alloc _⟩
theorem Zlq (m:Nat):val W32 [m%W32,m/W32]=m:=by
 simp only[gO,dH,tK,tA]
 exact tR m W32
theorem Zlr {m:Nat}(h:m<W64):Dig W32 [m%W32,m/W32]:=by
 refine Dig.nil.cons ?_ |>.cons (uP _ zY)
 exact rA (by rw[bQ];exact h)
theorem Zjq (m:Nat)(w:World)(z:m≤9223372036854775807):yA 24 #[.int .i64 (m:Int)] w (lW w (m:Int)):=by
 have i:m<W64:=by rw[zO];omega
 have k:=zh (Zlq m)
 have n:=zh (Zlr i)
 have A:=wE m i
 have v:=jP m
 have x:=hi32 m
 have r:m/W32<W32:=rA (by rw[bQ];exact i)
 have s:=jP (m/W32)
 rw[vC r] at s
 have B:¬ ((m:Int)<0):=by omega
 obtain⟨o,b⟩:=yE (m%W32)
 obtain⟨p,d⟩:=yE (m/W32)
 rw[b] at v k n
 rw[d] at x s k n
 clear r b d i
 go_enter Tryz.func24,Tryz.ntmps24
 go_wp2_with fail
 generalize f:World.alloc (World.alloc w _) _=wb
 obtain⟨g,t,y⟩:=Zgh f
 clear f
 refine (lU _ [o,p] _ _ wb rfl t.out.shows0 (by simp) (by simp)).mono ?_
 rintro e w' ⟨rfl,rfl⟩
 have j:=zh (zS.of_own (c:=2) t.out n.out (by simp))
 rw[k.out] at j
 obtain⟨l,u⟩:=yE (wK [o,p] [o,p].length)
 rw[u] at j ⊢
 clear u
 go_wp2_with fail
 refine (jH _ _ _ _ j.out).mono ?_
 rintro e C ⟨D,rfl,q,a⟩
 obtain⟨E,F,G,H⟩:=(g.out.ext a).cell2
 have h:=zh a
 clear a
 go_wp2
 exact fB rfl rfl (by omega) y.out g.out h.out (j.out.ext h.out) q.out (by simp[sg])
theorem Zjr (m:Nat)(w:World)(z:m≤9223372036854775808)(A:1≤m):yA 24 #[.int .i64 (-(m:Int))] w (lW w (-(m:Int))):=by
 have i:m<W64:=by rw[zO];omega
 have k:=zh (Zlq m)
 have n:=zh (Zlr i)
 have B:IntKind.u64.wrap (-IntKind.u64.wrap (-(m:Int)))=(m:Int):=by
  rw[zO] at i
  rw[IntKind.wrap_u64,IntKind.wrap_u64];omega
 have v:=jP m
 have x:=hi32 m
 have r:m/W32<W32:=rA (by rw[bQ];exact i)
 have s:=jP (m/W32)
 rw[vC r] at s
 have C:(-(m:Int))<0:=by omega
 obtain⟨o,b⟩:=yE (m%W32)
 obtain⟨p,d⟩:=yE (m/W32)
 rw[b] at v k n
 rw[d] at x s k n
 clear r b d i
 go_enter Tryz.func24,Tryz.ntmps24
 go_wp2_with fail
 generalize f:World.alloc (World.alloc w _) _=wb
 obtain⟨g,t,y⟩:=Zgh f
 clear f
 refine (lU _ [o,p] _ _ wb rfl t.out.shows0 (by simp) (by simp)).mono ?_
 rintro e w' ⟨rfl,rfl⟩
 have j:=zh (zS.of_own (c:=2) t.out n.out (by simp))
 rw[k.out] at j
 obtain⟨l,u⟩:=yE (wK [o,p] [o,p].length)
 rw[u] at j ⊢
 clear u
 go_wp2_with fail
 refine (jH _ _ _ _ j.out).mono ?_
 rintro e D ⟨E,rfl,q,a⟩
 obtain⟨F,G,H,I⟩:=(g.out.ext a).cell2
 have h:=zh a
 clear a
 go_wp2
 exact fB rfl rfl (by omega) y.out g.out h.out (j.out.ext h.out) q.out (by simp[sg])
theorem eE (z:Int)(w:World)(b : -9223372036854775808≤z)(c:z≤9223372036854775807):yA 24 #[.int .i64 z] w (lW w z):=by
 by_cases h:0≤z
 ·obtain⟨m,rfl⟩:=uB h
  exact Zjq m w (by omega)
 obtain⟨m,d⟩:=uB (a := -z) (by omega)
 obtain rfl:z = -(m:Int):=by omega
 exact Zjr m w (by omega) (by omega)
end Go.Proofs.YtklpdkpcocnglaaGreatDoor
