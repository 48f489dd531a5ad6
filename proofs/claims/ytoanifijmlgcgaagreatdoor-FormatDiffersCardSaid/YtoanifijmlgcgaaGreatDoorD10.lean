/-
 My texts Int, Int2, Int3, Num4, Num5 put together.
-/
import Derived.Test.YtoanifijmlgcgaaGreatDoorD07
import Derived.Test.YtoanifijmlgcgaaGreatDoorD01
import Derived.Deep.RegionHeld3
set_option maxRecDepth 100000
set_option maxHeartbeats 8000000
namespace Go.Proofs.YtoanifijmlgcgaaGreatDoor
open Go.RowKit
def lB (w:World) (v:Value) (z:Int):Prop :=
 ∃ (neg:Bool) (u:Value) (n:Nat),v=.agg #[.bool neg,u]∧zY w u n∧(n=0→neg=false)∧z=(if neg then -(n:Int) else (n:Int))
theorem lB.ext {w w':World}{v:Value}{z:Int}(h:lB w v z)(a:Ext w w'):lB w' v z:=by
 obtain⟨s,u,n,b,c,d⟩:=h
 exact⟨s,u,n,b,c.ext a,d⟩
def Zd0 (w:World) (z:Int) (e:Ending) (w':World):Prop:=∃ v,e=.returned v∧lB w' v z∧Ext w w'
def ZjP (w:World) (neg:Bool) (u:Value) (n:Nat) (e:Ending) (w':World):Prop :=
 ∃ s,e=.returned (.agg #[.bool s,u])∧Hid (s=(neg && decide (0<n)))∧Ext w w'
def sg (neg:Bool) (n:Nat):Int:=if neg then -(n:Int) else (n:Int)
theorem lB.signed {w:World}{neg s:Bool}{u:Value}{n:Nat}(a:zY w u n)(b:s=(neg && decide (0<n))):lB w (.agg #[.bool s,u]) (sg neg n):=by
 subst b
 refine⟨_,u,n,rfl,a,?_,?_⟩
 ·rintro rfl;simp
 cases neg
 ·simp[sg]
 rcases uJ n with rfl|h
 ·simp[sg]
 simp[sg,h]
theorem ZaV {fn:Func}{t:Tmp}(h:fn.results=#[.cell t 257])(a:Array Value)(w:World)(b:Nat)(x y:Value)(d:a[t]? = some (.pointer (some ⟨b,0,none⟩)))(c:Blk 257 w b #[x,y]):(results fn a).run Tryz.prog w=.ok (.agg #[x,y]) w:=by
 have e:w.cell? ⟨b,0,none⟩=some x:=c.cell 0
 have f:w.cell? ⟨b,1,none⟩=some y:=c.cell 1
 simp[results,h,d,go_sem,e,f]
theorem ZiX (neg:Bool)(u:Value)(n:Nat)(w:World)(h:zY w u n) :
 yA 309 #[.bool neg,u] w (ZjP w neg u n):=by
 obtain⟨A,i,c,rfl,j,f,b,d,g⟩:=h
 have a:Hid (decide (0<n)=decide (0<i.length)):=by
  have:=wK b d
  rw[g] at this
  rcases uJ n with e|e
  ·subst e;rw[ZeP] at this;unfold Hid;simp[this]
  have:=ZbX e;unfold Hid;rw[uI e,uI (by omega)]
 have k:=zh f
 have l:=zh b
 have m:=zh d
 clear f b d g j
 cases neg with
 | false =>
  go_enter Tryz.func309,Tryz.ntmps309
  go_wp2
  refine bodyPost_ret (ZaV rfl _ _ w.heap.size _ _ rfl (Blk.new w _ _)) rfl ⟨_,rfl,?_,(Fr.refl _ _).alloc _⟩
  unfold Hid;simp
 | true =>
  go_enter Tryz.func309,Tryz.ntmps309
  go_wp2
  refine bodyPost_ret (ZaV rfl _ _ w.heap.size _ _ rfl (Blk.new w _ _)) rfl ⟨_,rfl,?_,(Fr.refl _ _).alloc _⟩
  unfold Hid;rw[a.out];simp
theorem Blk.cell2 {t:TypeId}{w:World}{g:Nat}{x y:Value}(h:Blk t w g #[x,y]):w.cell? ⟨g,0,none⟩=some x∧w.cell? ⟨g,1,none⟩=some y∧w.frozen? ⟨g,0,none⟩=false∧w.frozen? ⟨g,1,none⟩=false :=
 ⟨h.cell 0,h.cell 1,h.frozen 0,h.frozen 1⟩
theorem eC {t:TypeId}{w w':World}{g b:Nat}{x y c y':Value}(h:Blk t w g #[x,y])(d:Blk t w b #[c,y'])(a:Ext w w') :
 w'.cell? ⟨g,0,none⟩=some x∧w'.cell? ⟨g,1,none⟩=some y∧w'.cell? ⟨b,1,none⟩=some y' :=
 ⟨(h.ext a).cell 0,(h.ext a).cell 1,(d.ext a).cell 1⟩
theorem Fr.undrew {S:Nat→Prop}{w w':World}(h:Fr S w.drew w'):Fr S w w':=⟨h.os,h.tape,h.output,h.size,h.block⟩
theorem Za1 {t:TypeId}{w w':World}{g e r:Nat}{x y i y' a b:Value}(h:Blk t w g #[x,y])(j:Blk t w e #[i,y'])(f:Ext w w')(d:g≠r)(c:e≠r) :
 ((w'.setCell ⟨r,0,none⟩ a).setCell ⟨r,1,none⟩ b).cell? ⟨g,0,none⟩=some x∧((w'.setCell ⟨r,0,none⟩ a).setCell ⟨r,1,none⟩ b).cell? ⟨g,1,none⟩=some y∧((w'.setCell ⟨r,0,none⟩ a).setCell ⟨r,1,none⟩ b).cell? ⟨e,1,none⟩=some y' :=
 ⟨(((h.ext f).far (p:=⟨r,0,none⟩) d a).far (p:=⟨r,1,none⟩) d b).cell 0,(((h.ext f).far (p:=⟨r,0,none⟩) d a).far (p:=⟨r,1,none⟩) d b).cell 1,(((j.ext f).far (p:=⟨r,0,none⟩) c a).far (p:=⟨r,1,none⟩) c b).cell 1⟩
theorem zY.slice {w:World}{v:Value}{n:Nat}(h:zY w v n):∃ A l c,v=.slice A l c:=by
 obtain⟨A,a,c,h,_⟩:=h
 exact⟨A,_,c,h⟩
theorem lO {t:TypeId}{w wb:World}{x y z:Array Value}(h:((w.alloc (.cells x t)).alloc (.cells y t)).alloc (.cells z t)=wb) :
 Blk t wb w.heap.size x∧Blk t wb (w.heap.size+1) y∧Blk t wb (w.heap.size+1+1) z∧Ext w wb:=by
 subst h
 have c:(w.alloc (.cells x t)).heap.size=w.heap.size+1:=by simp
 have d:((w.alloc (.cells x t)).alloc (.cells y t)).heap.size=w.heap.size+1+1:=by simp
 have a:=Blk.new (w.alloc (.cells x t)) t y
 have b:=Blk.new ((w.alloc (.cells x t)).alloc (.cells y t)) t z
 rw[c] at a
 rw[d] at b
 exact⟨((Blk.new _ _ _).alloc _).alloc _,a.alloc _,b,(((Fr.refl _ _).alloc _).alloc _).alloc _⟩
theorem zY.store2 {t:TypeId}{w:World}{r n:Nat}{u a b:Value}{s:Bool}{A:Option Addr}{l c:Nat}(h:zY w u n)(k:Blk t w r #[.bool s,.slice A l c]):zY ((w.setCell ⟨r,0,none⟩ a).setCell ⟨r,1,none⟩ b) u n:=by
 obtain⟨m,xs,o,q,v,j,y⟩:=h
 refine⟨m,xs,o,q,v,?_,y⟩
 have z:Fr (fun i=>i=r) w ((w.setCell ⟨r,0,none⟩ a).setCell ⟨r,1,none⟩ b):=((Fr.refl (fun i=>i=r) w).setCell (p:=⟨r,0,none⟩) (Or.inl rfl) a).setCell (p:=⟨r,1,none⟩) (Or.inl rfl) b
 cases xs with
 | nil=>exact zV.nil
 | cons x xs =>
  refine j.fr z (fun E f B e=>?_)
  obtain⟨g,d,C,_,hc⟩:=j.at (i:=0) (by simp)
  rw[C] at f
  injection f with f
  subst f
  simp at e
  subst e
  rw[k.cell] at hc
  rcases uZ d 2 with D|D
  ·rcases (by omega:d=0∨d=1) with rfl|rfl<;>simp at hc
  simp at hc
  rw[List.getElem?_eq_none (by simp;omega)] at hc
  cases hc
theorem ZeU {fn:Func}{t:Tmp}{a:Array Value}{w e d:World}{r n:Nat}{s neg:Bool}{A:Option Addr}{l c:Nat}{z:Int}(b:fn.results=#[.cell t 257])(j:a[t]? = some (.pointer (some ⟨r,0,none⟩)))(h:w.heap.size≤r)(k:Ext w e)(i:Blk 257 e r #[.bool false,.slice none 0 0])(f:Ext e d)(m:zY d (.slice A l c) n)(o:s=(neg && decide (0<n)))(p:z=sg neg n) :
 bodyPost Tryz.prog fn (Zd0 w z) .ret ⟨a,[]⟩ ((d.setCell ⟨r,0,none⟩ (.bool s)).setCell ⟨r,1,none⟩ (.slice A l c)):=by
 have g:Blk 257 ((d.setCell ⟨r,0,none⟩ (.bool s)).setCell ⟨r,1,none⟩ (.slice A l c)) r #[.bool s,.slice A l c]:=((i.ext f).set_ 0 _).set_ 1 _
 refine bodyPost_ret (ZaV b _ _ r _ _ j g) rfl ⟨_,rfl,?_,?_⟩
 ·subst p
  exact lB.signed (m.store2 (i.ext f)) o
 exact ((k.trans f).setCell (Or.inr h) _).setCell (Or.inr h) _
theorem ZaD {t:TypeId}{w w':World}{g b:Nat}{x y c y':Value}(h:Blk t w g #[x,y])(d:Blk t w b #[c,y'])(a:Ext w w') :
 w'.cell? ⟨g,0,none⟩=some x∧w'.cell? ⟨g,1,none⟩=some y∧w'.cell? ⟨b,0,none⟩=some c∧w'.cell? ⟨b,1,none⟩=some y' :=
 ⟨(h.ext a).cell 0,(h.ext a).cell 1,(d.ext a).cell 0,(d.ext a).cell 1⟩
theorem Zd1 {t:TypeId}{w w':World}{g d r:Nat}{x y i y' a b:Value}(h:Blk t w g #[x,y])(j:Blk t w d #[i,y'])(e:Ext w w')(f:g≠r)(c:d≠r) :
 ((w'.setCell ⟨r,0,none⟩ a).setCell ⟨r,1,none⟩ b).cell? ⟨g,0,none⟩=some x∧((w'.setCell ⟨r,0,none⟩ a).setCell ⟨r,1,none⟩ b).cell? ⟨g,1,none⟩=some y∧((w'.setCell ⟨r,0,none⟩ a).setCell ⟨r,1,none⟩ b).cell? ⟨d,0,none⟩=some i∧((w'.setCell ⟨r,0,none⟩ a).setCell ⟨r,1,none⟩ b).cell? ⟨d,1,none⟩=some y' :=
 ⟨(((h.ext e).far (p:=⟨r,0,none⟩) f a).far (p:=⟨r,1,none⟩) f b).cell 0,(((h.ext e).far (p:=⟨r,0,none⟩) f a).far (p:=⟨r,1,none⟩) f b).cell 1,(((j.ext e).far (p:=⟨r,0,none⟩) c a).far (p:=⟨r,1,none⟩) c b).cell 0,(((j.ext e).far (p:=⟨r,0,none⟩) c a).far (p:=⟨r,1,none⟩) c b).cell 1⟩
theorem fU {a b:Nat}(h:b≤a):0≤cmpI a b:=by
 have:=eG (a:=a) (b:=b);omega
theorem gW (u v:Value)(m n:Nat)(w:World)(g:zY w u m)(h:zY w v n)(i:wl m≤4294967296)(j:wl n≤4294967296) :
 yA 292 #[u,v] w fun e w'=>e=.returned (.int .i64 (cmpI m n))∧∃ n,w'=w.drewN n:=by
 obtain⟨A,k,c,rfl,t,l,a,b,rfl⟩:=g
 obtain⟨o,p,q,rfl,r,s,d,f,rfl⟩:=h
 rw[←wK a b] at i
 rw[←wK d f] at j
 exact gK A o k p _ _ c q w rfl rfl l s (by omega) (by omega) a d b f
theorem lB.open {w:World}{v:Value}{z:Int}(h:lB w v z):∃ (s:Bool) (A:Option Addr) (l c:Nat),v=.agg #[.bool s,.slice A l c]∧zY w (.slice A l c) z.natAbs∧z=sg s z.natAbs∧(z=0→s=false):=by
 obtain⟨s,u,n,d,a,e,h4⟩:=h
 obtain⟨A,l,c,rfl⟩:=a.slice
 have b:z.natAbs=n:=by cases s<;>simp at h4<;>omega
 refine⟨s,A,l,c,d,b ▸ a,?_,?_⟩
 ·rw[b];exact h4
 intro f;exact e (by omega)
def Fits (z:Int):Prop:=wl z.natAbs≤1048576
theorem Zd2 {t:TypeId}{w wb:World}{x y:Array Value}(h:(w.alloc (.cells x t)).alloc (.cells y t)=wb):Blk t wb w.heap.size x∧Blk t wb (w.heap.size+1) y∧Ext w wb:=by
 subst h
 have b:(w.alloc (.cells x t)).heap.size=w.heap.size+1:=by simp
 have a:=Blk.new (w.alloc (.cells x t)) t y
 rw[b] at a
 exact⟨(Blk.new _ _ _).alloc _,a,((Fr.refl _ _).alloc _).alloc _⟩
theorem Zh4 (a:Value)(x:Int)(w:World)(m:lB w a x):yA 272 #[a] w (Zd0 w (-x)):=by
 obtain⟨s,A,l,c,rfl,n,o,p⟩:=m.open
 have q:=zh n
 have r:=zh o
 have t:=zh p
 clear n o p m
 go_enter Tryz.func272,Tryz.ntmps272
 go_wp2_with fail
 generalize d:World.alloc (World.alloc w _) _=wb
 obtain⟨i,f,Q⟩:=Zd2 d
 have g:=zh f
 have j:=zh Q
 clear d i f Q
 refine (ZiX _ _ _ _ (q.out.ext j.out)).mono ?_
 rintro e u ⟨v,rfl,k,b⟩
 obtain⟨y,z,B,C⟩:=(g.out.ext b).cell2
 have h:=zh b
 clear b
 go_wp2
 refine ZeU rfl rfl (by omega) j.out g.out h.out (q.out.ext (j.out.trans h.out)) k.out ?_
 have:=r.out
 cases s<;>simp[sg] at this ⊢<;>omega
def RetV (w:World) (v:Value) (e:Ending) (w':World):Prop:=e=.returned v∧Ext w w'
theorem zY.len0 {w:World}{A:Option Addr}{l c n:Nat}(h:zY w (.slice A l c) n):l=wl n:=by
 obtain⟨d,f,g,e,i,j,a,b,rfl⟩:=h
 injection e with e1 e2 e3
 rw[e2];exact wK a b
theorem Zhr {n:Nat}:wl n=0↔n=0:=by
 constructor
 ·intro h;rcases uJ n with e|e
  ·exact e
  have:=ZbX e;omega
 rintro rfl;rfl
theorem ZiY (a:Value)(x:Int)(w:World)(b:lB w a x):yA 273 #[a] w (RetV w (.bool (decide (x=0)))):=by
 obtain⟨s,A,l,c,rfl,d,f,g⟩:=b.open
 have e:=d.len0
 have h:Hid (decide (x=0)=((l:Int) == 0)):=by
  unfold Hid
  rw[qV]
  simp
  rw[e,Zhr]
  omega
 clear d f g b e
 go_enter Tryz.func273,Tryz.ntmps273
 go_wp2
 go_ret
 exact⟨by rw[h.out];rfl,(Fr.refl _ _).alloc _⟩
theorem Zfs (a:Value)(x:Int)(w:World)(g:lB w a x):yA 214 #[a] w (RetV w (.bool (decide (x=1)))):=by
 obtain⟨s,A,l,c,rfl,h,d,k⟩:=g.open
 have j:=h.len0
 cases s with
 | true =>
  have f:Hid (decide (x=1)=false):=by unfold Hid;simp[sg] at d;simp;omega
  clear h d k g j
  go_enter Tryz.func214,Tryz.ntmps214
  go_wp2
  go_ret
  exact⟨by rw[f.out];rfl,(Fr.refl _ _).alloc _⟩
 | false =>
  by_cases m:l=1
  ·subst m
   obtain⟨E,p,F,e,t,q,u,v,r⟩:=h
   injection e with e1 e2 e3
   subst e1 e3
   obtain⟨n,rfl⟩:∃ n,p=[n]:=by match p,e2 with | [y],_=>exact⟨y,rfl⟩
   simp at r
   obtain⟨b,z,rfl,B,o⟩:=q.at (i:=0) (by simp)
   simp at o
   have C:=Nat.ne_of_lt B
   have f:Hid (decide (x=1)=((n:Int) == 1)):=by
    unfold Hid;rw[qV];simp;simp[sg] at d;omega
   clear d k g j q u v r e2 t
   go_enter Tryz.func214,Tryz.ntmps214
   go_wp2
   go_ret
   exact⟨by rw[f.out];rfl,(Fr.refl _ _).alloc _⟩
  have D:((l:Int) == 1)=false:=by simp;omega
  have f:Hid (decide (x=1)=false):=by
   unfold Hid
   rw[vA]
   rintro rfl
   apply m
   rw[j]
   rfl
  clear h d k g j m
  go_enter Tryz.func214,Tryz.ntmps214
  go_wp2
  go_ret
  exact⟨by rw[f.out];rfl,(Fr.refl _ _).alloc _⟩
theorem lB.shape {w:World}{v:Value}{z:Int}(h:lB w v z):∃ (s:Bool) (A:Option Addr) (l c:Nat),v=.agg #[.bool s,.slice A l c]:=by
 obtain⟨s,A,l,c,h,_⟩:=h.open
 exact⟨s,A,l,c,h⟩
def zR (w:World) (v:Value) (z:Int):Prop :=
 ∃ (neg:Bool) (u:Value) (n:Nat),v=.agg #[.bool neg,u]∧zP w u n∧(n=0→neg=false)∧z=(if neg then -(n:Int) else (n:Int))
theorem zR.ext {w w':World}{v:Value}{z:Int}(h:zR w v z)(a:Ext w w'):zR w' v z:=by
 obtain⟨s,u,n,b,c,d⟩:=h
 exact⟨s,u,n,b,c.ext a,d⟩
def lL (w:World) (z:Int) (e:Ending) (w':World):Prop:=∃ v,e=.returned v∧zR w' v z∧Ext w w'
def Zmp (w:World) (neg:Bool) (u:Value) (n:Nat) (e:Ending) (w':World):Prop :=
 ∃ s,e=.returned (.agg #[.bool s,u])∧Hid (s=(neg && decide (0<n)))∧Ext w w'
theorem zR.signed {w:World}{neg s:Bool}{u:Value}{n:Nat}(a:zP w u n)(b:s=(neg && decide (0<n))):zR w (.agg #[.bool s,u]) (sg neg n):=by
 subst b
 refine⟨_,u,n,rfl,a,?_,?_⟩
 ·rintro rfl;simp
 cases neg
 ·simp[sg]
 rcases uJ n with rfl|h
 ·simp[sg]
 simp[sg,h]
theorem cW {fn:Func}{t:Tmp}(h:fn.results=#[.cell t 125])(a:Array Value)(w:World)(b:Nat)(x y:Value)(d:a[t]? = some (.pointer (some ⟨b,0,none⟩)))(c:Blk 125 w b #[x,y]):(results fn a).run Tryz.prog w=.ok (.agg #[x,y]) w:=by
 have e:w.cell? ⟨b,0,none⟩=some x:=c.cell 0
 have f:w.cell? ⟨b,1,none⟩=some y:=c.cell 1
 simp[results,h,d,go_sem,e,f]
theorem kH (neg:Bool)(u:Value)(n:Nat)(w:World)(h:zP w u n) :
 yA 203 #[.bool neg,u] w (Zmp w neg u n):=by
 obtain⟨A,i,c,rfl,j,f,b,d,g⟩:=h
 have a:Hid (decide (0<n)=decide (0<i.length)):=by
  have:=kG b d
  rw[g] at this
  rcases uJ n with e|e
  ·subst e;rw[ZeY] at this;unfold Hid;simp[this]
  have:=Zef e;unfold Hid;rw[uI e,uI (by omega)]
 have k:=zh f
 have l:=zh b
 have m:=zh d
 clear f b d g j
 cases neg with
 | false =>
  go_enter Tryz.func203,Tryz.ntmps203
  go_wp2
  refine bodyPost_ret (cW rfl _ _ w.heap.size _ _ rfl (Blk.new w _ _)) rfl ⟨_,rfl,?_,(Fr.refl _ _).alloc _⟩
  unfold Hid;simp
 | true =>
  go_enter Tryz.func203,Tryz.ntmps203
  go_wp2
  refine bodyPost_ret (cW rfl _ _ w.heap.size _ _ rfl (Blk.new w _ _)) rfl ⟨_,rfl,?_,(Fr.refl _ _).alloc _⟩
  unfold Hid;rw[a.out];simp
theorem zP.slice {w:World}{v:Value}{n:Nat}(h:zP w v n):∃ A l c,v=.slice A l c:=by
 obtain⟨A,a,c,h,_⟩:=h
 exact⟨A,_,c,h⟩
theorem zP.store2 {t:TypeId}{w:World}{r n:Nat}{u a b:Value}{s:Bool}{A:Option Addr}{l c:Nat}(h:zP w u n)(k:Blk t w r #[.bool s,.slice A l c]):zP ((w.setCell ⟨r,0,none⟩ a).setCell ⟨r,1,none⟩ b) u n:=by
 obtain⟨m,xs,o,q,v,j,y⟩:=h
 refine⟨m,xs,o,q,v,?_,y⟩
 have z:Fr (fun i=>i=r) w ((w.setCell ⟨r,0,none⟩ a).setCell ⟨r,1,none⟩ b):=((Fr.refl (fun i=>i=r) w).setCell (p:=⟨r,0,none⟩) (Or.inl rfl) a).setCell (p:=⟨r,1,none⟩) (Or.inl rfl) b
 cases xs with
 | nil=>exact zV.nil
 | cons x xs =>
  refine j.fr z (fun E f B e=>?_)
  obtain⟨g,d,C,_,hc⟩:=j.at (i:=0) (by simp)
  rw[C] at f
  injection f with f
  subst f
  simp at e
  subst e
  rw[k.cell] at hc
  rcases uZ d 2 with D|D
  ·rcases (by omega:d=0∨d=1) with rfl|rfl<;>simp at hc
  simp at hc
  rw[List.getElem?_eq_none (by simp;omega)] at hc
  cases hc
theorem iM {fn:Func}{t:Tmp}{a:Array Value}{w e d:World}{r n:Nat}{s neg:Bool}{A:Option Addr}{l c:Nat}{z:Int}(b:fn.results=#[.cell t 125])(j:a[t]? = some (.pointer (some ⟨r,0,none⟩)))(h:w.heap.size≤r)(k:Ext w e)(i:Blk 125 e r #[.bool false,.slice none 0 0])(f:Ext e d)(m:zP d (.slice A l c) n)(o:s=(neg && decide (0<n)))(p:z=sg neg n) :
 bodyPost Tryz.prog fn (lL w z) .ret ⟨a,[]⟩ ((d.setCell ⟨r,0,none⟩ (.bool s)).setCell ⟨r,1,none⟩ (.slice A l c)):=by
 have g:Blk 125 ((d.setCell ⟨r,0,none⟩ (.bool s)).setCell ⟨r,1,none⟩ (.slice A l c)) r #[.bool s,.slice A l c]:=((i.ext f).set_ 0 _).set_ 1 _
 refine bodyPost_ret (cW b _ _ r _ _ j g) rfl ⟨_,rfl,?_,?_⟩
 ·subst p
  exact zR.signed (m.store2 (i.ext f)) o
 exact ((k.trans f).setCell (Or.inr h) _).setCell (Or.inr h) _
theorem Zeh (u v:Value)(m n k:Nat)(z:Int)(w:World)(q:zP w u m)(r:zP w v n)(s:ml m≤17592186044416)(t:ml n≤17592186044416)(x:m+n=k)(y:z=sg false k) :
 yA 186 #[.agg #[.bool false,u],.agg #[.bool false,v]] w (lL w z):=by
 have A:=zh q
 have B:=zh r
 have C:=zh s
 have D:=zh t
 have E:=zh x
 have F:=zh y
 clear q r s t x y
 go_enter Tryz.func186,Tryz.ntmps186
 go_wp2
 generalize d:World.alloc (World.alloc (World.alloc w _) _) _=wb
 obtain⟨f,g,h,Q⟩:=lO d
 have a:=zh f
 have b:=zh g
 have i:=zh h
 have o:=zh Q
 clear d f g h Q
 go_region_held3 (fun w'=>w'.cell? ⟨w.heap.size,0,none⟩=some (.bool false)∧w'.cell? ⟨w.heap.size,1,none⟩=some (u)∧w'.cell? ⟨w.heap.size+1,1,none⟩=some (v))
  (first|exact eC a.out b.out (Fr.refl _ _).drew|exact eC a.out b.out (Fr.undrew (by assumption))|exact Za1 a.out b.out (Fr.undrew (by assumption)) (by omega) (by omega))
  (first
   | (
    go_at_call 241
    refine (Zeg _ _ m n _ (A.out.ext o.out.drew) (B.out.ext o.out.drew) C.out D.out).mono ?_
    rintro e H ⟨I,rfl,c,G⟩
    rw[E.out] at c
    obtain⟨J,K,L,rfl⟩:=c.slice)
   | (
    go_at_call 203
    refine (kH _ _ _ _ (by assumption)).mono ?_
    rintro e w2 ⟨M,rfl,p,j⟩
    have l:Ext wb.drew w2:=Fr.ext (by assumption) j
    obtain⟨N,O,P,R⟩:=(i.out.ext (Fr.undrew l)).cell2))
 go_wp2
 exact iM rfl rfl (by omega) o.out i.out (Fr.undrew l) (c.ext j) p.out F.out
theorem Ze0 (u v:Value)(m n k:Nat)(z:Int)(w:World)(q:zP w u m)(r:zP w v n)(s:ml m≤17592186044416)(t:ml n≤17592186044416)(x:m+n=k)(y:z=sg true k) :
 yA 186 #[.agg #[.bool true,u],.agg #[.bool true,v]] w (lL w z):=by
 have A:=zh q
 have B:=zh r
 have C:=zh s
 have D:=zh t
 have E:=zh x
 have F:=zh y
 clear q r s t x y
 go_enter Tryz.func186,Tryz.ntmps186
 go_wp2
 generalize d:World.alloc (World.alloc (World.alloc w _) _) _=wb
 obtain⟨f,g,h,Q⟩:=lO d
 have a:=zh f
 have b:=zh g
 have i:=zh h
 have o:=zh Q
 clear d f g h Q
 go_region_held3 (fun w'=>w'.cell? ⟨w.heap.size,0,none⟩=some (.bool true)∧w'.cell? ⟨w.heap.size,1,none⟩=some (u)∧w'.cell? ⟨w.heap.size+1,1,none⟩=some (v))
  (first|exact eC a.out b.out (Fr.refl _ _).drew|exact eC a.out b.out (Fr.undrew (by assumption))|exact Za1 a.out b.out (Fr.undrew (by assumption)) (by omega) (by omega))
  (first
   | (
    go_at_call 241
    refine (Zeg _ _ m n _ (A.out.ext o.out.drew) (B.out.ext o.out.drew) C.out D.out).mono ?_
    rintro e H ⟨I,rfl,c,G⟩
    rw[E.out] at c
    obtain⟨J,K,L,rfl⟩:=c.slice)
   | (
    go_at_call 203
    refine (kH _ _ _ _ (by assumption)).mono ?_
    rintro e w2 ⟨M,rfl,p,j⟩
    have l:Ext wb.drew w2:=Fr.ext (by assumption) j
    obtain⟨N,O,P,R⟩:=(i.out.ext (Fr.undrew l)).cell2))
 go_wp2
 exact iM rfl rfl (by omega) o.out i.out (Fr.undrew l) (c.ext j) p.out F.out
theorem Zdu (u v:Value)(m n k:Nat)(z:Int)(w:World)(q:zP w u m)(r:zP w v n)(s:ml m≤17592186044416)(t:ml n≤17592186044416)(x:m*n=k)(y:z=sg false k) :
 yA 187 #[.agg #[.bool false,u],.agg #[.bool false,v]] w (lL w z):=by
 have A:=zh q
 have B:=zh r
 have C:=zh s
 have D:=zh t
 have E:=zh x
 have F:=zh y
 clear q r s t x y
 go_enter Tryz.func187,Tryz.ntmps187
 go_wp2
 generalize d:World.alloc (World.alloc (World.alloc w _) _) _=wb
 obtain⟨f,g,h,Q⟩:=lO d
 have a:=zh f
 have b:=zh g
 have i:=zh h
 have o:=zh Q
 clear d f g h Q
 go_region_held3 (fun w'=>w'.cell? ⟨w.heap.size,0,none⟩=some (.bool false)∧w'.cell? ⟨w.heap.size,1,none⟩=some (u)∧w'.cell? ⟨w.heap.size+1,0,none⟩=some (.bool false)∧w'.cell? ⟨w.heap.size+1,1,none⟩=some (v))
  (first|exact ZaD a.out b.out (Fr.refl _ _).drew|exact ZaD a.out b.out (Fr.undrew (by assumption))|exact Zd1 a.out b.out (Fr.undrew (by assumption)) (by omega) (by omega))
  (first
   | (
    go_at_call 244
    refine (aE _ _ m n _ (A.out.ext o.out.drew) (B.out.ext o.out.drew) C.out D.out).mono ?_
    rintro e H ⟨I,rfl,c,G⟩
    rw[E.out] at c
    obtain⟨J,K,L,rfl⟩:=c.slice)
   | (
    go_at_call 203
    refine (kH _ _ _ _ (by assumption)).mono ?_
    rintro e w2 ⟨M,rfl,p,j⟩
    have l:Ext wb.drew w2:=Fr.ext (by assumption) j
    obtain⟨N,O,P,R⟩:=(i.out.ext (Fr.undrew l)).cell2))
 go_wp2
 exact iM rfl rfl (by omega) o.out i.out (Fr.undrew l) (c.ext j) p.out F.out
theorem Zei (u v:Value)(m n k:Nat)(z:Int)(w:World)(q:zP w u m)(r:zP w v n)(s:ml m≤17592186044416)(t:ml n≤17592186044416)(x:m*n=k)(y:z=sg true k) :
 yA 187 #[.agg #[.bool false,u],.agg #[.bool true,v]] w (lL w z):=by
 have A:=zh q
 have B:=zh r
 have C:=zh s
 have D:=zh t
 have E:=zh x
 have F:=zh y
 clear q r s t x y
 go_enter Tryz.func187,Tryz.ntmps187
 go_wp2
 generalize d:World.alloc (World.alloc (World.alloc w _) _) _=wb
 obtain⟨f,g,h,Q⟩:=lO d
 have a:=zh f
 have b:=zh g
 have i:=zh h
 have o:=zh Q
 clear d f g h Q
 go_region_held3 (fun w'=>w'.cell? ⟨w.heap.size,0,none⟩=some (.bool false)∧w'.cell? ⟨w.heap.size,1,none⟩=some (u)∧w'.cell? ⟨w.heap.size+1,0,none⟩=some (.bool true)∧w'.cell? ⟨w.heap.size+1,1,none⟩=some (v))
  (first|exact ZaD a.out b.out (Fr.refl _ _).drew|exact ZaD a.out b.out (Fr.undrew (by assumption))|exact Zd1 a.out b.out (Fr.undrew (by assumption)) (by omega) (by omega))
  (first
   | (
    go_at_call 244
    refine (aE _ _ m n _ (A.out.ext o.out.drew) (B.out.ext o.out.drew) C.out D.out).mono ?_
    rintro e H ⟨I,rfl,c,G⟩
    rw[E.out] at c
    obtain⟨J,K,L,rfl⟩:=c.slice)
   | (
    go_at_call 203
    refine (kH _ _ _ _ (by assumption)).mono ?_
    rintro e w2 ⟨M,rfl,p,j⟩
    have l:Ext wb.drew w2:=Fr.ext (by assumption) j
    obtain⟨N,O,P,R⟩:=(i.out.ext (Fr.undrew l)).cell2))
 go_wp2
 exact iM rfl rfl (by omega) o.out i.out (Fr.undrew l) (c.ext j) p.out F.out
theorem Zej (u v:Value)(m n k:Nat)(z:Int)(w:World)(q:zP w u m)(r:zP w v n)(s:ml m≤17592186044416)(t:ml n≤17592186044416)(x:m*n=k)(y:z=sg true k) :
 yA 187 #[.agg #[.bool true,u],.agg #[.bool false,v]] w (lL w z):=by
 have A:=zh q
 have B:=zh r
 have C:=zh s
 have D:=zh t
 have E:=zh x
 have F:=zh y
 clear q r s t x y
 go_enter Tryz.func187,Tryz.ntmps187
 go_wp2
 generalize d:World.alloc (World.alloc (World.alloc w _) _) _=wb
 obtain⟨f,g,h,Q⟩:=lO d
 have a:=zh f
 have b:=zh g
 have i:=zh h
 have o:=zh Q
 clear d f g h Q
 go_region_held3 (fun w'=>w'.cell? ⟨w.heap.size,0,none⟩=some (.bool true)∧w'.cell? ⟨w.heap.size,1,none⟩=some (u)∧w'.cell? ⟨w.heap.size+1,0,none⟩=some (.bool false)∧w'.cell? ⟨w.heap.size+1,1,none⟩=some (v))
  (first|exact ZaD a.out b.out (Fr.refl _ _).drew|exact ZaD a.out b.out (Fr.undrew (by assumption))|exact Zd1 a.out b.out (Fr.undrew (by assumption)) (by omega) (by omega))
  (first
   | (
    go_at_call 244
    refine (aE _ _ m n _ (A.out.ext o.out.drew) (B.out.ext o.out.drew) C.out D.out).mono ?_
    rintro e H ⟨I,rfl,c,G⟩
    rw[E.out] at c
    obtain⟨J,K,L,rfl⟩:=c.slice)
   | (
    go_at_call 203
    refine (kH _ _ _ _ (by assumption)).mono ?_
    rintro e w2 ⟨M,rfl,p,j⟩
    have l:Ext wb.drew w2:=Fr.ext (by assumption) j
    obtain⟨N,O,P,R⟩:=(i.out.ext (Fr.undrew l)).cell2))
 go_wp2
 exact iM rfl rfl (by omega) o.out i.out (Fr.undrew l) (c.ext j) p.out F.out
theorem Ze1 (u v:Value)(m n k:Nat)(z:Int)(w:World)(q:zP w u m)(r:zP w v n)(s:ml m≤17592186044416)(t:ml n≤17592186044416)(x:m*n=k)(y:z=sg false k) :
 yA 187 #[.agg #[.bool true,u],.agg #[.bool true,v]] w (lL w z):=by
 have A:=zh q
 have B:=zh r
 have C:=zh s
 have D:=zh t
 have E:=zh x
 have F:=zh y
 clear q r s t x y
 go_enter Tryz.func187,Tryz.ntmps187
 go_wp2
 generalize d:World.alloc (World.alloc (World.alloc w _) _) _=wb
 obtain⟨f,g,h,Q⟩:=lO d
 have a:=zh f
 have b:=zh g
 have i:=zh h
 have o:=zh Q
 clear d f g h Q
 go_region_held3 (fun w'=>w'.cell? ⟨w.heap.size,0,none⟩=some (.bool true)∧w'.cell? ⟨w.heap.size,1,none⟩=some (u)∧w'.cell? ⟨w.heap.size+1,0,none⟩=some (.bool true)∧w'.cell? ⟨w.heap.size+1,1,none⟩=some (v))
  (first|exact ZaD a.out b.out (Fr.refl _ _).drew|exact ZaD a.out b.out (Fr.undrew (by assumption))|exact Zd1 a.out b.out (Fr.undrew (by assumption)) (by omega) (by omega))
  (first
   | (
    go_at_call 244
    refine (aE _ _ m n _ (A.out.ext o.out.drew) (B.out.ext o.out.drew) C.out D.out).mono ?_
    rintro e H ⟨I,rfl,c,G⟩
    rw[E.out] at c
    obtain⟨J,K,L,rfl⟩:=c.slice)
   | (
    go_at_call 203
    refine (kH _ _ _ _ (by assumption)).mono ?_
    rintro e w2 ⟨M,rfl,p,j⟩
    have l:Ext wb.drew w2:=Fr.ext (by assumption) j
    obtain⟨N,O,P,R⟩:=(i.out.ext (Fr.undrew l)).cell2))
 go_wp2
 exact iM rfl rfl (by omega) o.out i.out (Fr.undrew l) (c.ext j) p.out F.out
theorem Zca (u v:Value)(m n k:Nat)(z:Int)(w:World)(y:zP w u m)(A:zP w v n)(B:ml m≤17592186044416)(C:ml n≤17592186044416)(c:n≤m)(D:m-n=k)(E:z=sg false k) :
 yA 186 #[.agg #[.bool false,u],.agg #[.bool true,v]] w (lL w z):=by
 have F:=zh y
 have G:=zh A
 have H:=zh B
 have I:=zh C
 have d:=zh c
 have J:=zh D
 have K:=zh E
 clear y A B C c D E
 go_enter Tryz.func186,Tryz.ntmps186
 go_wp2_with fail
 generalize f:World.alloc (World.alloc (World.alloc w _) _) _=wb
 obtain⟨g,h,i,Q⟩:=lO f
 have HBx:=zh g
 have HBy:=zh h
 have HBr:=zh i
 have HE:=zh Q
 clear f g h i Q
 have p:=HBx.out.cell2.2.1
 have r:=HBy.out.cell2.2.1
 go_wp2_with fail
 clear p r
 refine (fQ u v m n _ (F.out.ext HE.out) (G.out.ext HE.out) H.out I.out).mono ?_
 rintro e w' ⟨rfl,o,a⟩
 obtain⟨q,s⟩:=yE (cmpI m n)
 have L:(0:Int)≤q:=by rw[←s];exact fU d.out
 rw[s]
 replace HBx:=zh (show Blk _ w' _ _ from a ▸ HBx.out.drewN o)
 replace HBy:=zh (show Blk _ w' _ _ from a ▸ HBy.out.drewN o)
 replace HBr:=zh (show Blk _ w' _ _ from a ▸ HBr.out.drewN o)
 replace HE:=zh (show Ext w w' from a ▸ HE.out.drewN o)
 clear a s
 clear wb
 obtain⟨wb,t⟩:=yE w'
 subst t
 go_wp2_with fail
 go_region_held3 (fun w'=>w'.cell? ⟨w.heap.size,0,none⟩=some (.bool false)∧w'.cell? ⟨w.heap.size,1,none⟩=some (u)∧w'.cell? ⟨w.heap.size+1,1,none⟩=some (v))
  (first|exact eC HBx.out HBy.out (Fr.refl _ _).drew|exact eC HBx.out HBy.out (Fr.undrew (by assumption))|exact Za1 HBx.out HBy.out (Fr.undrew (by assumption)) (by omega) (by omega))
  (first
   | (
    go_at_call 243
    refine (aF _ _ m n _ (F.out.ext HE.out.drew) (G.out.ext HE.out.drew) H.out (by have:=d.out;omega)).mono ?_
    rintro e N ⟨O,rfl,b,M⟩
    rw[J.out] at b
    obtain⟨P,R,S,rfl⟩:=b.slice)
   | (
    go_at_call 203
    refine (kH _ _ _ _ (by assumption)).mono ?_
    rintro e w2 ⟨T,rfl,x,j⟩
    have l:Ext w'.drew w2:=Fr.ext (by assumption) j
    obtain⟨U,V,W,X⟩:=(HBr.out.ext (Fr.undrew l)).cell2))
 go_wp2
 exact iM rfl rfl (by omega) HE.out HBr.out (Fr.undrew l) (b.ext j) x.out K.out
theorem Zcb (u v:Value)(m n k:Nat)(z:Int)(w:World)(y:zP w u m)(A:zP w v n)(B:ml m≤17592186044416)(C:ml n≤17592186044416)(c:m<n)(D:n-m=k)(E:z=sg true k) :
 yA 186 #[.agg #[.bool false,u],.agg #[.bool true,v]] w (lL w z):=by
 have F:=zh y
 have G:=zh A
 have I:=zh B
 have H:=zh C
 have d:=zh c
 have J:=zh D
 have K:=zh E
 clear y A B C c D E
 go_enter Tryz.func186,Tryz.ntmps186
 go_wp2_with fail
 generalize f:World.alloc (World.alloc (World.alloc w _) _) _=wb
 obtain⟨g,h,i,Q⟩:=lO f
 have HBx:=zh g
 have HBy:=zh h
 have HBr:=zh i
 have HE:=zh Q
 clear f g h i Q
 have p:=HBx.out.cell2.2.1
 have r:=HBy.out.cell2.2.1
 go_wp2_with fail
 clear p r
 refine (fQ u v m n _ (F.out.ext HE.out) (G.out.ext HE.out) I.out H.out).mono ?_
 rintro e w' ⟨rfl,o,a⟩
 obtain⟨q,s⟩:=yE (cmpI m n)
 have L:q<0:=by rw[←s];exact eG.2 d.out
 rw[s]
 replace HBx:=zh (show Blk _ w' _ _ from a ▸ HBx.out.drewN o)
 replace HBy:=zh (show Blk _ w' _ _ from a ▸ HBy.out.drewN o)
 replace HBr:=zh (show Blk _ w' _ _ from a ▸ HBr.out.drewN o)
 replace HE:=zh (show Ext w w' from a ▸ HE.out.drewN o)
 clear a s
 clear wb
 obtain⟨wb,t⟩:=yE w'
 subst t
 go_wp2_with fail
 go_region_held3 (fun w'=>w'.cell? ⟨w.heap.size+1,0,none⟩=some (.bool true)∧w'.cell? ⟨w.heap.size+1,1,none⟩=some (v)∧w'.cell? ⟨w.heap.size,1,none⟩=some (u))
  (first|exact eC HBy.out HBx.out (Fr.refl _ _).drew|exact eC HBy.out HBx.out (Fr.undrew (by assumption))|exact Za1 HBy.out HBx.out (Fr.undrew (by assumption)) (by omega) (by omega))
  (first
   | (
    go_at_call 243
    refine (aF _ _ n m _ (G.out.ext HE.out.drew) (F.out.ext HE.out.drew) H.out (by have:=d.out;omega)).mono ?_
    rintro e N ⟨O,rfl,b,M⟩
    rw[J.out] at b
    obtain⟨P,R,S,rfl⟩:=b.slice)
   | (
    go_at_call 203
    refine (kH _ _ _ _ (by assumption)).mono ?_
    rintro e w2 ⟨T,rfl,x,j⟩
    have l:Ext w'.drew w2:=Fr.ext (by assumption) j
    obtain⟨U,V,W,X⟩:=(HBr.out.ext (Fr.undrew l)).cell2))
 go_wp2
 exact iM rfl rfl (by omega) HE.out HBr.out (Fr.undrew l) (b.ext j) x.out K.out
theorem ZcW (u v:Value)(m n k:Nat)(z:Int)(w:World)(y:zP w u m)(A:zP w v n)(B:ml m≤17592186044416)(C:ml n≤17592186044416)(c:n≤m)(D:m-n=k)(E:z=sg true k) :
 yA 186 #[.agg #[.bool true,u],.agg #[.bool false,v]] w (lL w z):=by
 have F:=zh y
 have G:=zh A
 have H:=zh B
 have I:=zh C
 have d:=zh c
 have J:=zh D
 have K:=zh E
 clear y A B C c D E
 go_enter Tryz.func186,Tryz.ntmps186
 go_wp2_with fail
 generalize f:World.alloc (World.alloc (World.alloc w _) _) _=wb
 obtain⟨g,h,i,Q⟩:=lO f
 have HBx:=zh g
 have HBy:=zh h
 have HBr:=zh i
 have HE:=zh Q
 clear f g h i Q
 have p:=HBx.out.cell2.2.1
 have r:=HBy.out.cell2.2.1
 go_wp2_with fail
 clear p r
 refine (fQ u v m n _ (F.out.ext HE.out) (G.out.ext HE.out) H.out I.out).mono ?_
 rintro e w' ⟨rfl,o,a⟩
 obtain⟨q,s⟩:=yE (cmpI m n)
 have L:(0:Int)≤q:=by rw[←s];exact fU d.out
 rw[s]
 replace HBx:=zh (show Blk _ w' _ _ from a ▸ HBx.out.drewN o)
 replace HBy:=zh (show Blk _ w' _ _ from a ▸ HBy.out.drewN o)
 replace HBr:=zh (show Blk _ w' _ _ from a ▸ HBr.out.drewN o)
 replace HE:=zh (show Ext w w' from a ▸ HE.out.drewN o)
 clear a s
 clear wb
 obtain⟨wb,t⟩:=yE w'
 subst t
 go_wp2_with fail
 go_region_held3 (fun w'=>w'.cell? ⟨w.heap.size,0,none⟩=some (.bool true)∧w'.cell? ⟨w.heap.size,1,none⟩=some (u)∧w'.cell? ⟨w.heap.size+1,1,none⟩=some (v))
  (first|exact eC HBx.out HBy.out (Fr.refl _ _).drew|exact eC HBx.out HBy.out (Fr.undrew (by assumption))|exact Za1 HBx.out HBy.out (Fr.undrew (by assumption)) (by omega) (by omega))
  (first
   | (
    go_at_call 243
    refine (aF _ _ m n _ (F.out.ext HE.out.drew) (G.out.ext HE.out.drew) H.out (by have:=d.out;omega)).mono ?_
    rintro e N ⟨O,rfl,b,M⟩
    rw[J.out] at b
    obtain⟨P,R,S,rfl⟩:=b.slice)
   | (
    go_at_call 203
    refine (kH _ _ _ _ (by assumption)).mono ?_
    rintro e w2 ⟨T,rfl,x,j⟩
    have l:Ext w'.drew w2:=Fr.ext (by assumption) j
    obtain⟨U,V,W,X⟩:=(HBr.out.ext (Fr.undrew l)).cell2))
 go_wp2
 exact iM rfl rfl (by omega) HE.out HBr.out (Fr.undrew l) (b.ext j) x.out K.out
theorem ZcX (u v:Value)(m n k:Nat)(z:Int)(w:World)(y:zP w u m)(A:zP w v n)(B:ml m≤17592186044416)(C:ml n≤17592186044416)(c:m<n)(D:n-m=k)(E:z=sg false k) :
 yA 186 #[.agg #[.bool true,u],.agg #[.bool false,v]] w (lL w z):=by
 have F:=zh y
 have G:=zh A
 have I:=zh B
 have H:=zh C
 have d:=zh c
 have J:=zh D
 have K:=zh E
 clear y A B C c D E
 go_enter Tryz.func186,Tryz.ntmps186
 go_wp2_with fail
 generalize f:World.alloc (World.alloc (World.alloc w _) _) _=wb
 obtain⟨g,h,i,Q⟩:=lO f
 have HBx:=zh g
 have HBy:=zh h
 have HBr:=zh i
 have HE:=zh Q
 clear f g h i Q
 have p:=HBx.out.cell2.2.1
 have r:=HBy.out.cell2.2.1
 go_wp2_with fail
 clear p r
 refine (fQ u v m n _ (F.out.ext HE.out) (G.out.ext HE.out) I.out H.out).mono ?_
 rintro e w' ⟨rfl,o,a⟩
 obtain⟨q,s⟩:=yE (cmpI m n)
 have L:q<0:=by rw[←s];exact eG.2 d.out
 rw[s]
 replace HBx:=zh (show Blk _ w' _ _ from a ▸ HBx.out.drewN o)
 replace HBy:=zh (show Blk _ w' _ _ from a ▸ HBy.out.drewN o)
 replace HBr:=zh (show Blk _ w' _ _ from a ▸ HBr.out.drewN o)
 replace HE:=zh (show Ext w w' from a ▸ HE.out.drewN o)
 clear a s
 clear wb
 obtain⟨wb,t⟩:=yE w'
 subst t
 go_wp2_with fail
 go_region_held3 (fun w'=>w'.cell? ⟨w.heap.size+1,0,none⟩=some (.bool false)∧w'.cell? ⟨w.heap.size+1,1,none⟩=some (v)∧w'.cell? ⟨w.heap.size,1,none⟩=some (u))
  (first|exact eC HBy.out HBx.out (Fr.refl _ _).drew|exact eC HBy.out HBx.out (Fr.undrew (by assumption))|exact Za1 HBy.out HBx.out (Fr.undrew (by assumption)) (by omega) (by omega))
  (first
   | (
    go_at_call 243
    refine (aF _ _ n m _ (G.out.ext HE.out.drew) (F.out.ext HE.out.drew) H.out (by have:=d.out;omega)).mono ?_
    rintro e N ⟨O,rfl,b,M⟩
    rw[J.out] at b
    obtain⟨P,R,S,rfl⟩:=b.slice)
   | (
    go_at_call 203
    refine (kH _ _ _ _ (by assumption)).mono ?_
    rintro e w2 ⟨T,rfl,x,j⟩
    have l:Ext w'.drew w2:=Fr.ext (by assumption) j
    obtain⟨U,V,W,X⟩:=(HBr.out.ext (Fr.undrew l)).cell2))
 go_wp2
 exact iM rfl rfl (by omega) HE.out HBr.out (Fr.undrew l) (b.ext j) x.out K.out
theorem zR.open {w:World}{v:Value}{z:Int}(h:zR w v z):∃ (s:Bool) (A:Option Addr) (l c:Nat),v=.agg #[.bool s,.slice A l c]∧zP w (.slice A l c) z.natAbs∧z=sg s z.natAbs∧(z=0→s=false):=by
 obtain⟨s,u,n,d,a,e,h4⟩:=h
 obtain⟨A,l,c,rfl⟩:=a.slice
 have b:z.natAbs=n:=by cases s<;>simp at h4<;>omega
 refine⟨s,A,l,c,d,b ▸ a,?_,?_⟩
 ·rw[b];exact h4
 intro f;exact e (by omega)
def xY (z:Int):Prop:=ml z.natAbs≤17592186044416
theorem Zdv (a b:Value)(x y:Int)(w:World)(f:zR w a x)(g:zR w b y)(i:xY x)(j:xY y):yA 186 #[a,b] w (lL w (x+y)):=by
 obtain⟨s,A,l,c,rfl,e,hz,m⟩:=f.open
 obtain⟨t,n,o,p,rfl,d,hz',k⟩:=g.open
 unfold xY at i j
 cases s<;>cases t<;>simp only[sg,if_true,if_false,Bool.false_eq_true] at hz hz'
 ·exact Zeh _ _ _ _ _ _ w e d (by omega) (by omega) rfl (by simp[sg];omega)
 ·rcases uZ x.natAbs y.natAbs with h|h
  ·exact Zcb _ _ _ _ _ _ w e d (by omega) (by omega) h rfl (by simp[sg];omega)
  exact Zca _ _ _ _ _ _ w e d (by omega) (by omega) h rfl (by simp[sg];omega)
 ·rcases uZ x.natAbs y.natAbs with h|h
  ·exact ZcX _ _ _ _ _ _ w e d (by omega) (by omega) h rfl (by simp[sg];omega)
  exact ZcW _ _ _ _ _ _ w e d (by omega) (by omega) h rfl (by simp[sg];omega)
 exact Ze0 _ _ _ _ _ _ w e d (by omega) (by omega) rfl (by simp[sg];omega)
theorem iF (a b:Value)(x y:Int)(w:World)(g:zR w a x)(h:zR w b y)(i:xY x)(j:xY y):yA 187 #[a,b] w (lL w (x*y)):=by
 obtain⟨s,A,l,c,rfl,e,k,p⟩:=g.open
 obtain⟨t,q,r,u,rfl,d,f,o⟩:=h.open
 unfold xY at i j
 generalize x.natAbs=m at *
 generalize y.natAbs=n at *
 subst k f
 cases s<;>cases t
 ·exact Zdu _ _ _ _ _ _ w e d (by omega) (by omega) rfl (by simp[sg])
 ·exact Zei _ _ _ _ _ _ w e d (by omega) (by omega) rfl (by simp[sg,Int.mul_neg])
 ·exact Zej _ _ _ _ _ _ w e d (by omega) (by omega) rfl (by simp[sg,Int.neg_mul])
 exact Ze1 _ _ _ _ _ _ w e d (by omega) (by omega) rfl (by simp[sg,Int.neg_mul,Int.mul_neg])
theorem Zmq (w:World)(lo hi:Nat):Own .u32 292 (w.alloc (.cells #[.int .u32 (lo:Int),.int .u32 (hi:Int)] 292)) w.heap.size [lo,hi]:=by
 have:=Own.new w 292 .u32 [lo,hi] []
 exact this
theorem Zek {w a:World}{lo hi:Nat}{x y:Value}(h:(w.alloc (.cells #[x,y] 125)).alloc (.cells #[.int .u32 (lo:Int),.int .u32 (hi:Int)] 292)=a) :
 Hid (Blk 125 a w.heap.size #[x,y])∧Hid (Own .u32 292 a (w.heap.size+1) [lo,hi])∧Hid (Ext w a):=by
 subst h
 have c:(w.alloc (.cells #[x,y] 125)).heap.size=w.heap.size+1:=by simp
 have b:=Zmq (w.alloc (.cells #[x,y] 125)) lo hi
 rw[c] at b
 exact⟨(Blk.new _ _ _).alloc _,b,((Fr.refl _ _).alloc _).alloc _⟩
theorem Zid (m:Nat):val W32 [m%W32,m/W32]=m:=by
 simp only[gH,eM,sS,tK]
 exact sG m W32
theorem Zie {m:Nat}(h:m<W64):Dig W32 [m%W32,m/W32]:=by
 refine Dig.nil.cons ?_ |>.cons (uP _ zQ)
 exact sF (by rw[fX];exact h)
theorem ZgQ (m:Nat)(w:World)(z:m≤9223372036854775807):yA 114 #[.int .i64 (m:Int)] w (lL w (m:Int)):=by
 have i:m<W64:=by rw[zM];omega
 have k:=zh (Zid m)
 have n:=zh (Zie i)
 have A:=xV m i
 have v:=kO m
 have x:=hi32 m
 have r:m/W32<W32:=sF (by rw[fX];exact i)
 have s:=kO (m/W32)
 rw[vI r] at s
 have B:¬ ((m:Int)<0):=by omega
 obtain⟨o,b⟩:=yE (m%W32)
 obtain⟨p,d⟩:=yE (m/W32)
 rw[b] at v k n
 rw[d] at x s k n
 clear r b d i
 go_enter Tryz.func114,Tryz.ntmps114
 go_wp2_with fail
 generalize f:World.alloc (World.alloc w _) _=wb
 obtain⟨g,t,y⟩:=Zek f
 clear f
 refine (kD _ [o,p] _ _ wb rfl t.out.shows0 (by simp) (by simp)).mono ?_
 rintro e w' ⟨rfl,rfl⟩
 have j:=zh (zP.of_own (c:=2) t.out n.out (by simp))
 rw[k.out] at j
 obtain⟨l,u⟩:=yE (wU [o,p] [o,p].length)
 rw[u] at j ⊢
 clear u
 go_wp2_with fail
 refine (kH _ _ _ _ j.out).mono ?_
 rintro e C ⟨D,rfl,q,a⟩
 obtain⟨E,F,G,H⟩:=(g.out.ext a).cell2
 have h:=zh a
 clear a
 go_wp2
 exact iM rfl rfl (by omega) y.out g.out h.out (j.out.ext h.out) q.out (by simp[sg])
theorem ZgR (m:Nat)(w:World)(z:m≤9223372036854775808)(A:1≤m):yA 114 #[.int .i64 (-(m:Int))] w (lL w (-(m:Int))):=by
 have i:m<W64:=by rw[zM];omega
 have k:=zh (Zid m)
 have n:=zh (Zie i)
 have B:IntKind.u64.wrap (-IntKind.u64.wrap (-(m:Int)))=(m:Int):=by
  rw[zM] at i
  rw[IntKind.wrap_u64,IntKind.wrap_u64];omega
 have v:=kO m
 have x:=hi32 m
 have r:m/W32<W32:=sF (by rw[fX];exact i)
 have s:=kO (m/W32)
 rw[vI r] at s
 have C:(-(m:Int))<0:=by omega
 obtain⟨o,b⟩:=yE (m%W32)
 obtain⟨p,d⟩:=yE (m/W32)
 rw[b] at v k n
 rw[d] at x s k n
 clear r b d i
 go_enter Tryz.func114,Tryz.ntmps114
 go_wp2_with fail
 generalize f:World.alloc (World.alloc w _) _=wb
 obtain⟨g,t,y⟩:=Zek f
 clear f
 refine (kD _ [o,p] _ _ wb rfl t.out.shows0 (by simp) (by simp)).mono ?_
 rintro e w' ⟨rfl,rfl⟩
 have j:=zh (zP.of_own (c:=2) t.out n.out (by simp))
 rw[k.out] at j
 obtain⟨l,u⟩:=yE (wU [o,p] [o,p].length)
 rw[u] at j ⊢
 clear u
 go_wp2_with fail
 refine (kH _ _ _ _ j.out).mono ?_
 rintro e D ⟨E,rfl,q,a⟩
 obtain⟨F,G,H,I⟩:=(g.out.ext a).cell2
 have h:=zh a
 clear a
 go_wp2
 exact iM rfl rfl (by omega) y.out g.out h.out (j.out.ext h.out) q.out (by simp[sg])
theorem dR (z:Int)(w:World)(b : -9223372036854775808≤z)(c:z≤9223372036854775807):yA 114 #[.int .i64 z] w (lL w z):=by
 by_cases h:0≤z
 ·obtain⟨m,rfl⟩:=rP h
  exact ZgQ m w (by omega)
 obtain⟨m,d⟩:=rP (a := -z) (by omega)
 obtain rfl:z = -(m:Int):=by omega
 exact ZgR m w (by omega) (by omega)
end Go.Proofs.YtoanifijmlgcgaaGreatDoor
