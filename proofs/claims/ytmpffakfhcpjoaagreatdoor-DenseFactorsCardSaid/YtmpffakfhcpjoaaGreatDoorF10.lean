/-
 My texts.
-/
import Derived.Test.YtmpffakfhcpjoaaGreatDoorF07
import Derived.Deep.RegionHeld3
set_option maxRecDepth 100000
set_option maxHeartbeats 8000000
namespace Go.Proofs.YtmpffakfhcpjoaaGreatDoor
open Go.RowKit Tryz
def fS (w:World) (v:Value) (z:Int):Prop :=
 ∃ (neg:Bool) (u:Value) (n:Nat),v=.agg #[.bool neg,u]∧zF w u n∧(n=0→neg=false)∧z=(if neg then -(n:Int) else (n:Int))
def Zgi (w:World) (z:Int) (e:Ending) (w':World):Prop:=∃ v,e=.returned v∧fS w' v z∧Ext w w'
def sg (neg:Bool) (n:Nat):Int:=if neg then -(n:Int) else (n:Int)
theorem fS.signed {w:World}{neg s:Bool}{u:Value}{n:Nat}(a:zF w u n)(b:s=(neg && decide (0<n))):fS w (.agg #[.bool s,u]) (sg neg n):=by
 subst b
 refine⟨_,u,n,rfl,a,?_,?_⟩
 ·rintro rfl;simp
 cases neg
 ·simp[sg]
 rcases uJ n with rfl|h
 ·simp[sg]
 simp[sg,h]
theorem ZkT {fn:Func}{t:Tmp}(h:fn.results=#[.cell t 137])(a:Array Value)(w:World)(b:Nat)(x y:Value)(d:a[t]? = some (.pointer (some ⟨b,0,none⟩)))(c:Blk 137 w b #[x,y]):(results fn a).run prog w=.ok (.agg #[x,y]) w:=by
 have e:w.cell? ⟨b,0,none⟩=some x:=c.cell 0
 have f:w.cell? ⟨b,1,none⟩=some y:=c.cell 1
 simp[results,h,d,go_sem,e,f]
theorem Blk.cell2 {t:TypeId}{w:World}{g:Nat}{x y:Value}(h:Blk t w g #[x,y]):w.cell? ⟨g,0,none⟩=some x∧w.cell? ⟨g,1,none⟩=some y∧w.frozen? ⟨g,0,none⟩=false∧w.frozen? ⟨g,1,none⟩=false :=
 ⟨h.cell 0,h.cell 1,h.frozen 0,h.frozen 1⟩
theorem bZ {t:TypeId}{w w':World}{g b:Nat}{x y c y':Value}(h:Blk t w g #[x,y])(d:Blk t w b #[c,y'])(a:Ext w w') :
 w'.cell? ⟨g,0,none⟩=some x∧w'.cell? ⟨g,1,none⟩=some y∧w'.cell? ⟨b,1,none⟩=some y' :=
 ⟨(h.ext a).cell 0,(h.ext a).cell 1,(d.ext a).cell 1⟩
theorem Fr.undrew {S:Nat→Prop}{w w':World}(h:Fr S w.drew w'):Fr S w w':=⟨h.os,h.tape,h.output,h.size,h.block⟩
theorem ZcF {t:TypeId}{w w':World}{g e r:Nat}{x y i y' a b:Value}(h:Blk t w g #[x,y])(j:Blk t w e #[i,y'])(f:Ext w w')(d:g≠r)(c:e≠r) :
 ((w'.setCell ⟨r,0,none⟩ a).setCell ⟨r,1,none⟩ b).cell? ⟨g,0,none⟩=some x∧((w'.setCell ⟨r,0,none⟩ a).setCell ⟨r,1,none⟩ b).cell? ⟨g,1,none⟩=some y∧((w'.setCell ⟨r,0,none⟩ a).setCell ⟨r,1,none⟩ b).cell? ⟨e,1,none⟩=some y' :=
 ⟨(((h.ext f).far (p:=⟨r,0,none⟩) d a).far (p:=⟨r,1,none⟩) d b).cell 0,(((h.ext f).far (p:=⟨r,0,none⟩) d a).far (p:=⟨r,1,none⟩) d b).cell 1,(((j.ext f).far (p:=⟨r,0,none⟩) c a).far (p:=⟨r,1,none⟩) c b).cell 1⟩
theorem zF.slice {w:World}{v:Value}{n:Nat}(h:zF w v n):∃ A l c,v=.slice A l c:=by
 obtain⟨A,a,c,h,_⟩:=h
 exact⟨A,_,c,h⟩
theorem kR {t:TypeId}{w wb:World}{x y z:Array Value}(h:((w.alloc (.cells x t)).alloc (.cells y t)).alloc (.cells z t)=wb) :
 Blk t wb w.heap.size x∧Blk t wb (w.heap.size+1) y∧Blk t wb (w.heap.size+1+1) z∧Ext w wb:=by
 subst h
 have c:(w.alloc (.cells x t)).heap.size=w.heap.size+1:=qS
 have d:((w.alloc (.cells x t)).alloc (.cells y t)).heap.size=w.heap.size+1+1:=qS
 have a:=Blk.new (w.alloc (.cells x t)) t y
 have b:=Blk.new ((w.alloc (.cells x t)).alloc (.cells y t)) t z
 rw[c] at a
 rw[d] at b
 exact⟨((Blk.new _ _ _).alloc _).alloc _,a.alloc _,b,(((Fr.refl _ _).alloc _).alloc _).alloc _⟩
theorem zF.store2 {t:TypeId}{w:World}{r n:Nat}{u a b:Value}{s:Bool}{A:qA}{l c:Nat}(h:zF w u n)(k:Blk t w r #[.bool s,.slice A l c]):zF ((w.setCell ⟨r,0,none⟩ a).setCell ⟨r,1,none⟩ b) u n:=by
 obtain⟨m,xs,o,q,v,j,y⟩:=h
 refine⟨m,xs,o,q,v,?_,y⟩
 have z:Fr (fun i=>i=r) w ((w.setCell ⟨r,0,none⟩ a).setCell ⟨r,1,none⟩ b):=((Fr.refl (fun i=>i=r) w).setCell (p:=⟨r,0,none⟩) (Or.inl rfl) a).setCell (p:=⟨r,1,none⟩) (Or.inl rfl) b
 cases xs with
 | nil=>exact zI.nil
 | cons x xs =>
  refine j.fr z (fun E f B e=>?_)
  obtain⟨g,d,C,_,hc⟩:=j.at (i:=0) qS
  rw[C] at f
  injection f with f
  subst f
  simp at e
  subst e
  rw[k.cell] at hc
  rcases vO d 2 with D|D
  ·rcases (by omega:d=0∨d=1) with rfl|rfl<;>simp at hc
  simp at hc
  rw[vU (by simp;omega)] at hc
  cases hc
theorem ZlG {fn:Func}{t:Tmp}{a:Array Value}{w e d:World}{r n:Nat}{s neg:Bool}{A:qA}{l c:Nat}{z:Int}(b:fn.results=#[.cell t 137])(j:a[t]? = some (.pointer (some ⟨r,0,none⟩)))(h:w.heap.size≤r)(k:Ext w e)(i:Blk 137 e r #[.bool false,.slice none 0 0])(f:Ext e d)(m:zF d (.slice A l c) n)(o:s=(neg && decide (0<n)))(p:z=sg neg n) :
 bodyPost prog fn (Zgi w z) .ret ⟨a,[]⟩ ((d.setCell ⟨r,0,none⟩ (.bool s)).setCell ⟨r,1,none⟩ (.slice A l c)):=by
 have g:Blk 137 ((d.setCell ⟨r,0,none⟩ (.bool s)).setCell ⟨r,1,none⟩ (.slice A l c)) r #[.bool s,.slice A l c]:=((i.ext f).set_ 0 _).set_ 1 _
 refine bodyPost_ret (ZkT b _ _ r _ _ j g) rfl ⟨_,rfl,?_,?_⟩
 ·subst p
  exact fS.signed (m.store2 (i.ext f)) o
 exact ((k.trans f).setCell (Or.inr h) _).setCell (Or.inr h) _
theorem Zb6 {t:TypeId}{w w':World}{g b:Nat}{x y c y':Value}(h:Blk t w g #[x,y])(d:Blk t w b #[c,y'])(a:Ext w w') :
 w'.cell? ⟨g,0,none⟩=some x∧w'.cell? ⟨g,1,none⟩=some y∧w'.cell? ⟨b,0,none⟩=some c∧w'.cell? ⟨b,1,none⟩=some y' :=
 ⟨(h.ext a).cell 0,(h.ext a).cell 1,(d.ext a).cell 0,(d.ext a).cell 1⟩
theorem Zgj {t:TypeId}{w w':World}{g d r:Nat}{x y i y' a b:Value}(h:Blk t w g #[x,y])(j:Blk t w d #[i,y'])(e:Ext w w')(f:g≠r)(c:d≠r) :
 ((w'.setCell ⟨r,0,none⟩ a).setCell ⟨r,1,none⟩ b).cell? ⟨g,0,none⟩=some x∧((w'.setCell ⟨r,0,none⟩ a).setCell ⟨r,1,none⟩ b).cell? ⟨g,1,none⟩=some y∧((w'.setCell ⟨r,0,none⟩ a).setCell ⟨r,1,none⟩ b).cell? ⟨d,0,none⟩=some i∧((w'.setCell ⟨r,0,none⟩ a).setCell ⟨r,1,none⟩ b).cell? ⟨d,1,none⟩=some y' :=
 ⟨(((h.ext e).far (p:=⟨r,0,none⟩) f a).far (p:=⟨r,1,none⟩) f b).cell 0,(((h.ext e).far (p:=⟨r,0,none⟩) f a).far (p:=⟨r,1,none⟩) f b).cell 1,(((j.ext e).far (p:=⟨r,0,none⟩) c a).far (p:=⟨r,1,none⟩) c b).cell 0,(((j.ext e).far (p:=⟨r,0,none⟩) c a).far (p:=⟨r,1,none⟩) c b).cell 1⟩
theorem bQ {a b:Nat}(h:b≤a):0≤cmpI a b:=by
 have:=eB (a:=a) (b:=b);omega
theorem dY (u v:Value)(m n:Nat)(w:World)(g:zF w u m)(h:zF w v n)(i:wl m≤4294967296)(j:wl n≤4294967296) :
 Ζ 139 #[u,v] w fun e w'=>e=.returned (.int .i64 (cmpI m n))∧∃ n,w'=w.drewN n:=by
 obtain⟨A,k,c,rfl,t,l,a,b,rfl⟩:=g
 obtain⟨o,p,q,rfl,r,s,d,f,rfl⟩:=h
 rw[←xT a b] at i
 rw[←xT d f] at j
 exact dH A o k p _ _ c q w rfl rfl l s qO qO a d b f
theorem fS.open {w:World}{v:Value}{z:Int}(h:fS w v z):∃ (s:Bool) (A:Option Addr) (l c:Nat),v=.agg #[.bool s,.slice A l c]∧zF w (.slice A l c) z.natAbs∧z=sg s z.natAbs∧(z=0→s=false):=by
 obtain⟨s,u,n,d,a,e,h4⟩:=h
 obtain⟨A,l,c,rfl⟩:=a.slice
 have b:z.natAbs=n:=by cases s<;>simp at h4<;>omega
 refine⟨s,A,l,c,d,b ▸ a,?_,?_⟩
 ·rw[b];exact h4
 intro f;exact e qO
def Fits (z:Int):Prop:=wl z.natAbs≤1048576
theorem Zm1 {t:TypeId}{w wb:World}{x y:Array Value}(h:(w.alloc (.cells x t)).alloc (.cells y t)=wb):Blk t wb w.heap.size x∧Blk t wb (w.heap.size+1) y∧Ext w wb:=by
 subst h
 have b:(w.alloc (.cells x t)).heap.size=w.heap.size+1:=qS
 have a:=Blk.new (w.alloc (.cells x t)) t y
 rw[b] at a
 exact⟨(Blk.new _ _ _).alloc _,a,((Fr.refl _ _).alloc _).alloc _⟩
def RetV (w:World) (v:Value) (e:Ending) (w':World):Prop:=e=.returned v∧Ext w w'
theorem zF.len0 {w:World}{A:qA}{l c n:Nat}(h:zF w (.slice A l c) n):l=wl n:=by
 obtain⟨d,f,g,e,i,j,a,b,rfl⟩:=h
 injection e with e1 e2 e3
 rw[e2];exact xT a b
theorem lR {n:Nat}:wl n=0↔n=0:=by
 constructor
 ·intro h;rcases uJ n with e|e
  ·exact e
  have:=Zd4 e;omega
 rintro rfl;rfl
theorem Zog (a:Value)(x:Int)(w:World)(ha:fS w a x):Ζ 78 #[a] w (RetV w (.bool (decide (x=1)))):=by
 obtain⟨s,A,l,c,rfl,g,d,j⟩:=ha.open
 have h:=g.len0
 cases s with
 | true =>
  have f:Hid (decide (x=1)=false):=by unfold Hid;simp[sg] at d;simp;omega
  clear g d j ha h
  go_enter func78,ntmps78
  go_wp2
  go_ret
  exact⟨by rw[f.out];rfl,(Fr.refl _ _).alloc _⟩
 | false =>
  by_cases k:l=1
  ·subst k
   obtain⟨D,o,E,e,r,p,t,u,q⟩:=g
   injection e with e1 e2 e3
   subst e1 e3
   obtain⟨m,rfl⟩:∃ m,o=[m]:=by match o,e2 with | [y],_=>exact⟨y,rfl⟩
   simp at q
   obtain⟨b,v,rfl,z,n⟩:=p.at (i:=0) qS
   simp at n
   have B:=Nat.ne_of_lt z
   have f:Hid (decide (x=1)=((m:Int) == 1)):=by
    unfold Hid;rw[Bool.eq_iff_iff];simp;simp[sg] at d;omega
   clear d j ha h p t u q e2 r
   go_enter func78,ntmps78
   go_wp2
   go_ret
   exact⟨by rw[f.out];rfl,(Fr.refl _ _).alloc _⟩
  have C:((l:Int) == 1)=false:=by simp;omega
  have f:Hid (decide (x=1)=false):=by
   unfold Hid
   rw[vH]
   rintro rfl
   apply k
   rw[h]
   rfl
  clear g d j ha h k
  go_enter func78,ntmps78
  go_wp2
  go_ret
  exact⟨by rw[f.out];rfl,(Fr.refl _ _).alloc _⟩
theorem fS.shape {w:World}{v:Value}{z:Int}(h:fS w v z):∃ (s:Bool) (A:Option Addr) (l c:Nat),v=.agg #[.bool s,.slice A l c]:=by
 obtain⟨s,A,l,c,h,_⟩:=h.open
 exact⟨s,A,l,c,h⟩
def xB (w:World) (v:Value) (z:Int):Prop :=
 ∃ (neg:Bool) (u:Value) (n:Nat),v=.agg #[.bool neg,u]∧zW w u n∧(n=0→neg=false)∧z=(if neg then -(n:Int) else (n:Int))
theorem xB.ext {w w':World}{v:Value}{z:Int}(h:xB w v z)(a:Ext w w'):xB w' v z:=by
 obtain⟨s,u,n,b,c,d⟩:=h
 exact⟨s,u,n,b,c.ext a,d⟩
def kH (w:World) (z:Int) (e:Ending) (w':World):Prop:=∃ v,e=.returned v∧xB w' v z∧Ext w w'
def Zsl (w:World) (neg:Bool) (u:Value) (n:Nat) (e:Ending) (w':World):Prop :=
 ∃ s,e=.returned (.agg #[.bool s,u])∧Hid (s=(neg && decide (0<n)))∧Ext w w'
theorem xB.signed {w:World}{neg s:Bool}{u:Value}{n:Nat}(a:zW w u n)(b:s=(neg && decide (0<n))):xB w (.agg #[.bool s,u]) (sg neg n):=by
 subst b
 refine⟨_,u,n,rfl,a,?_,?_⟩
 ·rintro rfl;simp
 cases neg
 ·simp[sg]
 rcases uJ n with rfl|h
 ·simp[sg]
 simp[sg,h]
theorem ZaI {fn:Func}{t:Tmp}(h:fn.results=#[.cell t 30])(a:Array Value)(w:World)(b:Nat)(x y:Value)(d:a[t]? = some (.pointer (some ⟨b,0,none⟩)))(c:Blk 30 w b #[x,y]):(results fn a).run prog w=.ok (.agg #[x,y]) w:=by
 have e:w.cell? ⟨b,0,none⟩=some x:=c.cell 0
 have f:w.cell? ⟨b,1,none⟩=some y:=c.cell 1
 simp[results,h,d,go_sem,e,f]
theorem jM (neg:Bool)(u:Value)(n:Nat)(w:World)(h:zW w u n) :
 Ζ 41 #[.bool neg,u] w (Zsl w neg u n):=by
 obtain⟨A,i,c,rfl,j,f,b,d,g⟩:=h
 have a:Hid (decide (0<n)=decide (0<i.length)):=by
  have:=jA b d
  rw[g] at this
  rcases uJ n with e|e
  ·subst e;rw[ZhA] at this;unfold Hid;simp[this]
  have:=Zgy e;unfold Hid;rw[vQ e,vQ qO]
 have k:=zh f
 have l:=zh b
 have m:=zh d
 clear f b d g j
 cases neg with
 | false =>
  go_enter func41,ntmps41
  go_wp2
  refine bodyPost_ret (ZaI rfl _ _ w.heap.size _ _ rfl (Blk.new w _ _)) rfl ⟨_,rfl,?_,(Fr.refl _ _).alloc _⟩
  unfold Hid;simp
 | true =>
  go_enter func41,ntmps41
  go_wp2
  refine bodyPost_ret (ZaI rfl _ _ w.heap.size _ _ rfl (Blk.new w _ _)) rfl ⟨_,rfl,?_,(Fr.refl _ _).alloc _⟩
  unfold Hid;rw[a.out];simp
theorem zW.slice {w:World}{v:Value}{n:Nat}(h:zW w v n):∃ A l c,v=.slice A l c:=by
 obtain⟨A,a,c,h,_⟩:=h
 exact⟨A,_,c,h⟩
theorem zW.store2 {t:TypeId}{w:World}{r n:Nat}{u a b:Value}{s:Bool}{A:qA}{l c:Nat}(h:zW w u n)(k:Blk t w r #[.bool s,.slice A l c]):zW ((w.setCell ⟨r,0,none⟩ a).setCell ⟨r,1,none⟩ b) u n:=by
 obtain⟨m,xs,o,q,v,j,y⟩:=h
 refine⟨m,xs,o,q,v,?_,y⟩
 have z:Fr (fun i=>i=r) w ((w.setCell ⟨r,0,none⟩ a).setCell ⟨r,1,none⟩ b):=((Fr.refl (fun i=>i=r) w).setCell (p:=⟨r,0,none⟩) (Or.inl rfl) a).setCell (p:=⟨r,1,none⟩) (Or.inl rfl) b
 cases xs with
 | nil=>exact zI.nil
 | cons x xs =>
  refine j.fr z (fun E f B e=>?_)
  obtain⟨g,d,C,_,hc⟩:=j.at (i:=0) qS
  rw[C] at f
  injection f with f
  subst f
  simp at e
  subst e
  rw[k.cell] at hc
  rcases vO d 2 with D|D
  ·rcases (by omega:d=0∨d=1) with rfl|rfl<;>simp at hc
  simp at hc
  rw[vU (by simp;omega)] at hc
  cases hc
theorem fM {fn:Func}{t:Tmp}{a:Array Value}{w e d:World}{r n:Nat}{s neg:Bool}{A:qA}{l c:Nat}{z:Int}(b:fn.results=#[.cell t 30])(j:a[t]? = some (.pointer (some ⟨r,0,none⟩)))(h:w.heap.size≤r)(k:Ext w e)(i:Blk 30 e r #[.bool false,.slice none 0 0])(f:Ext e d)(m:zW d (.slice A l c) n)(o:s=(neg && decide (0<n)))(p:z=sg neg n) :
 bodyPost prog fn (kH w z) .ret ⟨a,[]⟩ ((d.setCell ⟨r,0,none⟩ (.bool s)).setCell ⟨r,1,none⟩ (.slice A l c)):=by
 have g:Blk 30 ((d.setCell ⟨r,0,none⟩ (.bool s)).setCell ⟨r,1,none⟩ (.slice A l c)) r #[.bool s,.slice A l c]:=((i.ext f).set_ 0 _).set_ 1 _
 refine bodyPost_ret (ZaI b _ _ r _ _ j g) rfl ⟨_,rfl,?_,?_⟩
 ·subst p
  exact xB.signed (m.store2 (i.ext f)) o
 exact ((k.trans f).setCell (Or.inr h) _).setCell (Or.inr h) _
theorem Zgz (u v:Value)(m n k:Nat)(z:Int)(w:World)(q:zW w u m)(r:zW w v n)(s:ml m≤17592186044416)(t:ml n≤17592186044416)(x:m+n=k)(y:z=sg false k) :
 Ζ 26 #[.agg #[.bool false,u],.agg #[.bool false,v]] w (kH w z):=by
 have A:=zh q
 have B:=zh r
 have C:=zh s
 have D:=zh t
 have E:=zh x
 have F:=zh y
 clear q r s t x y
 go_enter func26,ntmps26
 go_wp2
 generalize d:World.alloc (World.alloc (World.alloc w _) _) _=wb
 obtain⟨f,g,h,Q⟩:=kR d
 have a:=zh f
 have b:=zh g
 have i:=zh h
 have o:=zh Q
 clear d f g h Q
 go_region_held3 (fun w'=>w'.cell? ⟨w.heap.size,0,none⟩=some (.bool false)∧w'.cell? ⟨w.heap.size,1,none⟩=some (u)∧w'.cell? ⟨w.heap.size+1,1,none⟩=some (v))
  (first|exact bZ a.out b.out (Fr.refl _ _).drew|exact bZ a.out b.out (Fr.undrew (by assumption))|exact ZcF a.out b.out (Fr.undrew (by assumption)) qO qO)
  (first
   | (
    go_at_call 46
    refine (Zbc _ _ m n _ (A.out.ext o.out.drew) (B.out.ext o.out.drew) C.out D.out).mono ?_
    rintro e H ⟨I,rfl,c,G⟩
    rw[E.out] at c
    obtain⟨J,K,L,rfl⟩:=c.slice)
   | (
    go_at_call 41
    refine (jM _ _ _ _ (by assumption)).mono ?_
    rintro e w2 ⟨M,rfl,p,j⟩
    have l:Ext wb.drew w2:=Fr.ext (by assumption) j
    obtain⟨N,O,P,R⟩:=(i.out.ext (Fr.undrew l)).cell2))
 go_wp2
 exact fM rfl rfl qO o.out i.out (Fr.undrew l) (c.ext j) p.out F.out
theorem ZhC (u v:Value)(m n k:Nat)(z:Int)(w:World)(q:zW w u m)(r:zW w v n)(s:ml m≤17592186044416)(t:ml n≤17592186044416)(x:m+n=k)(y:z=sg true k) :
 Ζ 26 #[.agg #[.bool true,u],.agg #[.bool true,v]] w (kH w z):=by
 have A:=zh q
 have B:=zh r
 have C:=zh s
 have D:=zh t
 have E:=zh x
 have F:=zh y
 clear q r s t x y
 go_enter func26,ntmps26
 go_wp2
 generalize d:World.alloc (World.alloc (World.alloc w _) _) _=wb
 obtain⟨f,g,h,Q⟩:=kR d
 have a:=zh f
 have b:=zh g
 have i:=zh h
 have o:=zh Q
 clear d f g h Q
 go_region_held3 (fun w'=>w'.cell? ⟨w.heap.size,0,none⟩=some (.bool true)∧w'.cell? ⟨w.heap.size,1,none⟩=some (u)∧w'.cell? ⟨w.heap.size+1,1,none⟩=some (v))
  (first|exact bZ a.out b.out (Fr.refl _ _).drew|exact bZ a.out b.out (Fr.undrew (by assumption))|exact ZcF a.out b.out (Fr.undrew (by assumption)) qO qO)
  (first
   | (
    go_at_call 46
    refine (Zbc _ _ m n _ (A.out.ext o.out.drew) (B.out.ext o.out.drew) C.out D.out).mono ?_
    rintro e H ⟨I,rfl,c,G⟩
    rw[E.out] at c
    obtain⟨J,K,L,rfl⟩:=c.slice)
   | (
    go_at_call 41
    refine (jM _ _ _ _ (by assumption)).mono ?_
    rintro e w2 ⟨M,rfl,p,j⟩
    have l:Ext wb.drew w2:=Fr.ext (by assumption) j
    obtain⟨N,O,P,R⟩:=(i.out.ext (Fr.undrew l)).cell2))
 go_wp2
 exact fM rfl rfl qO o.out i.out (Fr.undrew l) (c.ext j) p.out F.out
theorem ZfL (u v:Value)(m n k:Nat)(z:Int)(w:World)(q:zW w u m)(r:zW w v n)(s:ml m≤17592186044416)(t:ml n≤17592186044416)(x:m*n=k)(y:z=sg false k) :
 Ζ 27 #[.agg #[.bool false,u],.agg #[.bool false,v]] w (kH w z):=by
 have A:=zh q
 have B:=zh r
 have C:=zh s
 have D:=zh t
 have E:=zh x
 have F:=zh y
 clear q r s t x y
 go_enter func27,ntmps27
 go_wp2
 generalize d:World.alloc (World.alloc (World.alloc w _) _) _=wb
 obtain⟨f,g,h,Q⟩:=kR d
 have a:=zh f
 have b:=zh g
 have i:=zh h
 have o:=zh Q
 clear d f g h Q
 go_region_held3 (fun w'=>w'.cell? ⟨w.heap.size,0,none⟩=some (.bool false)∧w'.cell? ⟨w.heap.size,1,none⟩=some (u)∧w'.cell? ⟨w.heap.size+1,0,none⟩=some (.bool false)∧w'.cell? ⟨w.heap.size+1,1,none⟩=some (v))
  (first|exact Zb6 a.out b.out (Fr.refl _ _).drew|exact Zb6 a.out b.out (Fr.undrew (by assumption))|exact Zgj a.out b.out (Fr.undrew (by assumption)) qO qO)
  (first
   | (
    go_at_call 49
    refine (bK _ _ m n _ (A.out.ext o.out.drew) (B.out.ext o.out.drew) C.out D.out).mono ?_
    rintro e H ⟨I,rfl,c,G⟩
    rw[E.out] at c
    obtain⟨J,K,L,rfl⟩:=c.slice)
   | (
    go_at_call 41
    refine (jM _ _ _ _ (by assumption)).mono ?_
    rintro e w2 ⟨M,rfl,p,j⟩
    have l:Ext wb.drew w2:=Fr.ext (by assumption) j
    obtain⟨N,O,P,R⟩:=(i.out.ext (Fr.undrew l)).cell2))
 go_wp2
 exact fM rfl rfl qO o.out i.out (Fr.undrew l) (c.ext j) p.out F.out
theorem ZgA (u v:Value)(m n k:Nat)(z:Int)(w:World)(q:zW w u m)(r:zW w v n)(s:ml m≤17592186044416)(t:ml n≤17592186044416)(x:m*n=k)(y:z=sg true k) :
 Ζ 27 #[.agg #[.bool false,u],.agg #[.bool true,v]] w (kH w z):=by
 have A:=zh q
 have B:=zh r
 have C:=zh s
 have D:=zh t
 have E:=zh x
 have F:=zh y
 clear q r s t x y
 go_enter func27,ntmps27
 go_wp2
 generalize d:World.alloc (World.alloc (World.alloc w _) _) _=wb
 obtain⟨f,g,h,Q⟩:=kR d
 have a:=zh f
 have b:=zh g
 have i:=zh h
 have o:=zh Q
 clear d f g h Q
 go_region_held3 (fun w'=>w'.cell? ⟨w.heap.size,0,none⟩=some (.bool false)∧w'.cell? ⟨w.heap.size,1,none⟩=some (u)∧w'.cell? ⟨w.heap.size+1,0,none⟩=some (.bool true)∧w'.cell? ⟨w.heap.size+1,1,none⟩=some (v))
  (first|exact Zb6 a.out b.out (Fr.refl _ _).drew|exact Zb6 a.out b.out (Fr.undrew (by assumption))|exact Zgj a.out b.out (Fr.undrew (by assumption)) qO qO)
  (first
   | (
    go_at_call 49
    refine (bK _ _ m n _ (A.out.ext o.out.drew) (B.out.ext o.out.drew) C.out D.out).mono ?_
    rintro e H ⟨I,rfl,c,G⟩
    rw[E.out] at c
    obtain⟨J,K,L,rfl⟩:=c.slice)
   | (
    go_at_call 41
    refine (jM _ _ _ _ (by assumption)).mono ?_
    rintro e w2 ⟨M,rfl,p,j⟩
    have l:Ext wb.drew w2:=Fr.ext (by assumption) j
    obtain⟨N,O,P,R⟩:=(i.out.ext (Fr.undrew l)).cell2))
 go_wp2
 exact fM rfl rfl qO o.out i.out (Fr.undrew l) (c.ext j) p.out F.out
theorem ZgB (u v:Value)(m n k:Nat)(z:Int)(w:World)(q:zW w u m)(r:zW w v n)(s:ml m≤17592186044416)(t:ml n≤17592186044416)(x:m*n=k)(y:z=sg true k) :
 Ζ 27 #[.agg #[.bool true,u],.agg #[.bool false,v]] w (kH w z):=by
 have A:=zh q
 have B:=zh r
 have C:=zh s
 have D:=zh t
 have E:=zh x
 have F:=zh y
 clear q r s t x y
 go_enter func27,ntmps27
 go_wp2
 generalize d:World.alloc (World.alloc (World.alloc w _) _) _=wb
 obtain⟨f,g,h,Q⟩:=kR d
 have a:=zh f
 have b:=zh g
 have i:=zh h
 have o:=zh Q
 clear d f g h Q
 go_region_held3 (fun w'=>w'.cell? ⟨w.heap.size,0,none⟩=some (.bool true)∧w'.cell? ⟨w.heap.size,1,none⟩=some (u)∧w'.cell? ⟨w.heap.size+1,0,none⟩=some (.bool false)∧w'.cell? ⟨w.heap.size+1,1,none⟩=some (v))
  (first|exact Zb6 a.out b.out (Fr.refl _ _).drew|exact Zb6 a.out b.out (Fr.undrew (by assumption))|exact Zgj a.out b.out (Fr.undrew (by assumption)) qO qO)
  (first
   | (
    go_at_call 49
    refine (bK _ _ m n _ (A.out.ext o.out.drew) (B.out.ext o.out.drew) C.out D.out).mono ?_
    rintro e H ⟨I,rfl,c,G⟩
    rw[E.out] at c
    obtain⟨J,K,L,rfl⟩:=c.slice)
   | (
    go_at_call 41
    refine (jM _ _ _ _ (by assumption)).mono ?_
    rintro e w2 ⟨M,rfl,p,j⟩
    have l:Ext wb.drew w2:=Fr.ext (by assumption) j
    obtain⟨N,O,P,R⟩:=(i.out.ext (Fr.undrew l)).cell2))
 go_wp2
 exact fM rfl rfl qO o.out i.out (Fr.undrew l) (c.ext j) p.out F.out
theorem ZhD (u v:Value)(m n k:Nat)(z:Int)(w:World)(q:zW w u m)(r:zW w v n)(s:ml m≤17592186044416)(t:ml n≤17592186044416)(x:m*n=k)(y:z=sg false k) :
 Ζ 27 #[.agg #[.bool true,u],.agg #[.bool true,v]] w (kH w z):=by
 have A:=zh q
 have B:=zh r
 have C:=zh s
 have D:=zh t
 have E:=zh x
 have F:=zh y
 clear q r s t x y
 go_enter func27,ntmps27
 go_wp2
 generalize d:World.alloc (World.alloc (World.alloc w _) _) _=wb
 obtain⟨f,g,h,Q⟩:=kR d
 have a:=zh f
 have b:=zh g
 have i:=zh h
 have o:=zh Q
 clear d f g h Q
 go_region_held3 (fun w'=>w'.cell? ⟨w.heap.size,0,none⟩=some (.bool true)∧w'.cell? ⟨w.heap.size,1,none⟩=some (u)∧w'.cell? ⟨w.heap.size+1,0,none⟩=some (.bool true)∧w'.cell? ⟨w.heap.size+1,1,none⟩=some (v))
  (first|exact Zb6 a.out b.out (Fr.refl _ _).drew|exact Zb6 a.out b.out (Fr.undrew (by assumption))|exact Zgj a.out b.out (Fr.undrew (by assumption)) qO qO)
  (first
   | (
    go_at_call 49
    refine (bK _ _ m n _ (A.out.ext o.out.drew) (B.out.ext o.out.drew) C.out D.out).mono ?_
    rintro e H ⟨I,rfl,c,G⟩
    rw[E.out] at c
    obtain⟨J,K,L,rfl⟩:=c.slice)
   | (
    go_at_call 41
    refine (jM _ _ _ _ (by assumption)).mono ?_
    rintro e w2 ⟨M,rfl,p,j⟩
    have l:Ext wb.drew w2:=Fr.ext (by assumption) j
    obtain⟨N,O,P,R⟩:=(i.out.ext (Fr.undrew l)).cell2))
 go_wp2
 exact fM rfl rfl qO o.out i.out (Fr.undrew l) (c.ext j) p.out F.out
theorem Zeg (u v:Value)(m n k:Nat)(z:Int)(w:World)(y:zW w u m)(A:zW w v n)(B:ml m≤17592186044416)(C:ml n≤17592186044416)(c:n≤m)(D:m-n=k)(E:z=sg false k) :
 Ζ 26 #[.agg #[.bool false,u],.agg #[.bool true,v]] w (kH w z):=by
 have F:=zh y
 have G:=zh A
 have H:=zh B
 have I:=zh C
 have d:=zh c
 have J:=zh D
 have K:=zh E
 clear y A B C c D E
 go_enter func26,ntmps26
 go_wp2_with fail
 generalize f:World.alloc (World.alloc (World.alloc w _) _) _=wb
 obtain⟨g,h,i,Q⟩:=kR f
 have HBx:=zh g
 have HBy:=zh h
 have HBr:=zh i
 have HE:=zh Q
 clear f g h i Q
 have p:=HBx.out.cell2.2.1
 have r:=HBy.out.cell2.2.1
 go_wp2_with fail
 clear p r
 refine (bL u v m n _ (F.out.ext HE.out) (G.out.ext HE.out) H.out I.out).mono ?_
 rintro e w' ⟨rfl,o,a⟩
 obtain⟨q,s⟩:=yE (cmpI m n)
 have L:(0:Int)≤q:=by rw[←s];exact bQ d.out
 rw[s]
 replace HBx:=zh (show Blk _ w' _ _ from a ▸ HBx.out.drewN o)
 replace HBy:=zh (show Blk _ w' _ _ from a ▸ HBy.out.drewN o)
 replace HBr:=zh (show Blk _ w' _ _ from a ▸ HBr.out.drewN o)
 replace HE:=zh (show Ext w w' from a ▸ HE.out.drewN o)
 clear a s
 clear wb
 obtain⟨wb,t⟩:=yE w'
 subst t
 go_wp2_with fail
 go_region_held3 (fun w'=>w'.cell? ⟨w.heap.size,0,none⟩=some (.bool false)∧w'.cell? ⟨w.heap.size,1,none⟩=some (u)∧w'.cell? ⟨w.heap.size+1,1,none⟩=some (v))
  (first|exact bZ HBx.out HBy.out (Fr.refl _ _).drew|exact bZ HBx.out HBy.out (Fr.undrew (by assumption))|exact ZcF HBx.out HBy.out (Fr.undrew (by assumption)) qO qO)
  (first
   | (
    go_at_call 48
    refine (Zbd _ _ m n _ (F.out.ext HE.out.drew) (G.out.ext HE.out.drew) H.out (by have:=d.out;omega)).mono ?_
    rintro e N ⟨O,rfl,b,M⟩
    rw[J.out] at b
    obtain⟨P,R,S,rfl⟩:=b.slice)
   | (
    go_at_call 41
    refine (jM _ _ _ _ (by assumption)).mono ?_
    rintro e w2 ⟨T,rfl,x,j⟩
    have l:Ext w'.drew w2:=Fr.ext (by assumption) j
    obtain⟨U,V,W,X⟩:=(HBr.out.ext (Fr.undrew l)).cell2))
 go_wp2
 exact fM rfl rfl qO HE.out HBr.out (Fr.undrew l) (b.ext j) x.out K.out
theorem Zeh (u v:Value)(m n k:Nat)(z:Int)(w:World)(y:zW w u m)(A:zW w v n)(B:ml m≤17592186044416)(C:ml n≤17592186044416)(c:m<n)(D:n-m=k)(E:z=sg true k) :
 Ζ 26 #[.agg #[.bool false,u],.agg #[.bool true,v]] w (kH w z):=by
 have F:=zh y
 have G:=zh A
 have I:=zh B
 have H:=zh C
 have d:=zh c
 have J:=zh D
 have K:=zh E
 clear y A B C c D E
 go_enter func26,ntmps26
 go_wp2_with fail
 generalize f:World.alloc (World.alloc (World.alloc w _) _) _=wb
 obtain⟨g,h,i,Q⟩:=kR f
 have HBx:=zh g
 have HBy:=zh h
 have HBr:=zh i
 have HE:=zh Q
 clear f g h i Q
 have p:=HBx.out.cell2.2.1
 have r:=HBy.out.cell2.2.1
 go_wp2_with fail
 clear p r
 refine (bL u v m n _ (F.out.ext HE.out) (G.out.ext HE.out) I.out H.out).mono ?_
 rintro e w' ⟨rfl,o,a⟩
 obtain⟨q,s⟩:=yE (cmpI m n)
 have L:q<0:=by rw[←s];exact eB.2 d.out
 rw[s]
 replace HBx:=zh (show Blk _ w' _ _ from a ▸ HBx.out.drewN o)
 replace HBy:=zh (show Blk _ w' _ _ from a ▸ HBy.out.drewN o)
 replace HBr:=zh (show Blk _ w' _ _ from a ▸ HBr.out.drewN o)
 replace HE:=zh (show Ext w w' from a ▸ HE.out.drewN o)
 clear a s
 clear wb
 obtain⟨wb,t⟩:=yE w'
 subst t
 go_wp2_with fail
 go_region_held3 (fun w'=>w'.cell? ⟨w.heap.size+1,0,none⟩=some (.bool true)∧w'.cell? ⟨w.heap.size+1,1,none⟩=some (v)∧w'.cell? ⟨w.heap.size,1,none⟩=some (u))
  (first|exact bZ HBy.out HBx.out (Fr.refl _ _).drew|exact bZ HBy.out HBx.out (Fr.undrew (by assumption))|exact ZcF HBy.out HBx.out (Fr.undrew (by assumption)) qO qO)
  (first
   | (
    go_at_call 48
    refine (Zbd _ _ n m _ (G.out.ext HE.out.drew) (F.out.ext HE.out.drew) H.out (by have:=d.out;omega)).mono ?_
    rintro e N ⟨O,rfl,b,M⟩
    rw[J.out] at b
    obtain⟨P,R,S,rfl⟩:=b.slice)
   | (
    go_at_call 41
    refine (jM _ _ _ _ (by assumption)).mono ?_
    rintro e w2 ⟨T,rfl,x,j⟩
    have l:Ext w'.drew w2:=Fr.ext (by assumption) j
    obtain⟨U,V,W,X⟩:=(HBr.out.ext (Fr.undrew l)).cell2))
 go_wp2
 exact fM rfl rfl qO HE.out HBr.out (Fr.undrew l) (b.ext j) x.out K.out
theorem Zff (u v:Value)(m n k:Nat)(z:Int)(w:World)(y:zW w u m)(A:zW w v n)(B:ml m≤17592186044416)(C:ml n≤17592186044416)(c:n≤m)(D:m-n=k)(E:z=sg true k) :
 Ζ 26 #[.agg #[.bool true,u],.agg #[.bool false,v]] w (kH w z):=by
 have F:=zh y
 have G:=zh A
 have H:=zh B
 have I:=zh C
 have d:=zh c
 have J:=zh D
 have K:=zh E
 clear y A B C c D E
 go_enter func26,ntmps26
 go_wp2_with fail
 generalize f:World.alloc (World.alloc (World.alloc w _) _) _=wb
 obtain⟨g,h,i,Q⟩:=kR f
 have HBx:=zh g
 have HBy:=zh h
 have HBr:=zh i
 have HE:=zh Q
 clear f g h i Q
 have p:=HBx.out.cell2.2.1
 have r:=HBy.out.cell2.2.1
 go_wp2_with fail
 clear p r
 refine (bL u v m n _ (F.out.ext HE.out) (G.out.ext HE.out) H.out I.out).mono ?_
 rintro e w' ⟨rfl,o,a⟩
 obtain⟨q,s⟩:=yE (cmpI m n)
 have L:(0:Int)≤q:=by rw[←s];exact bQ d.out
 rw[s]
 replace HBx:=zh (show Blk _ w' _ _ from a ▸ HBx.out.drewN o)
 replace HBy:=zh (show Blk _ w' _ _ from a ▸ HBy.out.drewN o)
 replace HBr:=zh (show Blk _ w' _ _ from a ▸ HBr.out.drewN o)
 replace HE:=zh (show Ext w w' from a ▸ HE.out.drewN o)
 clear a s
 clear wb
 obtain⟨wb,t⟩:=yE w'
 subst t
 go_wp2_with fail
 go_region_held3 (fun w'=>w'.cell? ⟨w.heap.size,0,none⟩=some (.bool true)∧w'.cell? ⟨w.heap.size,1,none⟩=some (u)∧w'.cell? ⟨w.heap.size+1,1,none⟩=some (v))
  (first|exact bZ HBx.out HBy.out (Fr.refl _ _).drew|exact bZ HBx.out HBy.out (Fr.undrew (by assumption))|exact ZcF HBx.out HBy.out (Fr.undrew (by assumption)) qO qO)
  (first
   | (
    go_at_call 48
    refine (Zbd _ _ m n _ (F.out.ext HE.out.drew) (G.out.ext HE.out.drew) H.out (by have:=d.out;omega)).mono ?_
    rintro e N ⟨O,rfl,b,M⟩
    rw[J.out] at b
    obtain⟨P,R,S,rfl⟩:=b.slice)
   | (
    go_at_call 41
    refine (jM _ _ _ _ (by assumption)).mono ?_
    rintro e w2 ⟨T,rfl,x,j⟩
    have l:Ext w'.drew w2:=Fr.ext (by assumption) j
    obtain⟨U,V,W,X⟩:=(HBr.out.ext (Fr.undrew l)).cell2))
 go_wp2
 exact fM rfl rfl qO HE.out HBr.out (Fr.undrew l) (b.ext j) x.out K.out
theorem Zfg (u v:Value)(m n k:Nat)(z:Int)(w:World)(y:zW w u m)(A:zW w v n)(B:ml m≤17592186044416)(C:ml n≤17592186044416)(c:m<n)(D:n-m=k)(E:z=sg false k) :
 Ζ 26 #[.agg #[.bool true,u],.agg #[.bool false,v]] w (kH w z):=by
 have F:=zh y
 have G:=zh A
 have I:=zh B
 have H:=zh C
 have d:=zh c
 have J:=zh D
 have K:=zh E
 clear y A B C c D E
 go_enter func26,ntmps26
 go_wp2_with fail
 generalize f:World.alloc (World.alloc (World.alloc w _) _) _=wb
 obtain⟨g,h,i,Q⟩:=kR f
 have HBx:=zh g
 have HBy:=zh h
 have HBr:=zh i
 have HE:=zh Q
 clear f g h i Q
 have p:=HBx.out.cell2.2.1
 have r:=HBy.out.cell2.2.1
 go_wp2_with fail
 clear p r
 refine (bL u v m n _ (F.out.ext HE.out) (G.out.ext HE.out) I.out H.out).mono ?_
 rintro e w' ⟨rfl,o,a⟩
 obtain⟨q,s⟩:=yE (cmpI m n)
 have L:q<0:=by rw[←s];exact eB.2 d.out
 rw[s]
 replace HBx:=zh (show Blk _ w' _ _ from a ▸ HBx.out.drewN o)
 replace HBy:=zh (show Blk _ w' _ _ from a ▸ HBy.out.drewN o)
 replace HBr:=zh (show Blk _ w' _ _ from a ▸ HBr.out.drewN o)
 replace HE:=zh (show Ext w w' from a ▸ HE.out.drewN o)
 clear a s
 clear wb
 obtain⟨wb,t⟩:=yE w'
 subst t
 go_wp2_with fail
 go_region_held3 (fun w'=>w'.cell? ⟨w.heap.size+1,0,none⟩=some (.bool false)∧w'.cell? ⟨w.heap.size+1,1,none⟩=some (v)∧w'.cell? ⟨w.heap.size,1,none⟩=some (u))
  (first|exact bZ HBy.out HBx.out (Fr.refl _ _).drew|exact bZ HBy.out HBx.out (Fr.undrew (by assumption))|exact ZcF HBy.out HBx.out (Fr.undrew (by assumption)) qO qO)
  (first
   | (
    go_at_call 48
    refine (Zbd _ _ n m _ (G.out.ext HE.out.drew) (F.out.ext HE.out.drew) H.out (by have:=d.out;omega)).mono ?_
    rintro e N ⟨O,rfl,b,M⟩
    rw[J.out] at b
    obtain⟨P,R,S,rfl⟩:=b.slice)
   | (
    go_at_call 41
    refine (jM _ _ _ _ (by assumption)).mono ?_
    rintro e w2 ⟨T,rfl,x,j⟩
    have l:Ext w'.drew w2:=Fr.ext (by assumption) j
    obtain⟨U,V,W,X⟩:=(HBr.out.ext (Fr.undrew l)).cell2))
 go_wp2
 exact fM rfl rfl qO HE.out HBr.out (Fr.undrew l) (b.ext j) x.out K.out
theorem xB.open {w:World}{v:Value}{z:Int}(h:xB w v z):∃ (s:Bool) (A:Option Addr) (l c:Nat),v=.agg #[.bool s,.slice A l c]∧zW w (.slice A l c) z.natAbs∧z=sg s z.natAbs∧(z=0→s=false):=by
 obtain⟨s,u,n,d,a,e,h4⟩:=h
 obtain⟨A,l,c,rfl⟩:=a.slice
 have b:z.natAbs=n:=by cases s<;>simp at h4<;>omega
 refine⟨s,A,l,c,d,b ▸ a,?_,?_⟩
 ·rw[b];exact h4
 intro f;exact e qO
def wI (z:Int):Prop:=ml z.natAbs≤17592186044416
theorem ZfM (a b:Value)(x y:Int)(w:World)(ha:xB w a x)(f:xB w b y)(g:wI x)(i:wI y):Ζ 26 #[a,b] w (kH w (x+y)):=by
 obtain⟨s,A,l,c,rfl,e,hz,k⟩:=ha.open
 obtain⟨t,m,n,o,rfl,d,hz',j⟩:=f.open
 unfold wI at g i
 cases s<;>cases t<;>simp only[sg,mR,oK,pM] at hz hz'
 ·exact Zgz _ _ _ _ _ _ w e d qO qO rfl (by simp[sg];omega)
 ·rcases vO x.natAbs y.natAbs with h|h
  ·exact Zeh _ _ _ _ _ _ w e d qO qO h rfl (by simp[sg];omega)
  exact Zeg _ _ _ _ _ _ w e d qO qO h rfl (by simp[sg];omega)
 ·rcases vO x.natAbs y.natAbs with h|h
  ·exact Zfg _ _ _ _ _ _ w e d qO qO h rfl (by simp[sg];omega)
  exact Zff _ _ _ _ _ _ w e d qO qO h rfl (by simp[sg];omega)
 exact ZhC _ _ _ _ _ _ w e d qO qO rfl (by simp[sg];omega)
theorem fD (a b:Value)(x y:Int)(w:World)(ha:xB w a x)(g:xB w b y)(h:wI x)(i:wI y):Ζ 27 #[a,b] w (kH w (x*y)):=by
 obtain⟨s,A,l,c,rfl,e,j,o⟩:=ha.open
 obtain⟨t,p,q,r,rfl,d,f,k⟩:=g.open
 unfold wI at h i
 generalize x.natAbs=m at *
 generalize y.natAbs=n at *
 subst j f
 cases s<;>cases t
 ·exact ZfL _ _ _ _ _ _ w e d qO qO rfl (by simp[sg])
 ·exact ZgA _ _ _ _ _ _ w e d qO qO rfl (by simp[sg,Int.mul_neg])
 ·exact ZgB _ _ _ _ _ _ w e d qO qO rfl (by simp[sg,mL])
 exact ZhD _ _ _ _ _ _ w e d qO qO rfl (by simp[sg,mL,Int.mul_neg])
theorem Zsm (w:World)(lo hi:Nat):Own .u32 87 (w.alloc (.cells #[.int .u32 (lo:Int),.int .u32 (hi:Int)] 87)) w.heap.size [lo,hi]:=by
 have:=Own.new w 87 .u32 [lo,hi] []
 exact this
theorem ZgC {w a:World}{lo hi:Nat}{x y:Value}(h:(w.alloc (.cells #[x,y] 30)).alloc (.cells #[.int .u32 (lo:Int),.int .u32 (hi:Int)] 87)=a) :
 Hid (Blk 30 a w.heap.size #[x,y])∧Hid (Own .u32 87 a (w.heap.size+1) [lo,hi])∧Hid (Ext w a):=by
 subst h
 have c:(w.alloc (.cells #[x,y] 30)).heap.size=w.heap.size+1:=qS
 have b:=Zsm (w.alloc (.cells #[x,y] 30)) lo hi
 rw[c] at b
 exact⟨(Blk.new _ _ _).alloc _,b,((Fr.refl _ _).alloc _).alloc _⟩
theorem ZlL (m:Nat):val W32 [m%W32,m/W32]=m:=by
 simp only[gZ,dW,tX,tP]
 exact sM m W32
theorem ZlM {m:Nat}(h:m<W64):Dig W32 [m%W32,m/W32]:=by
 refine Dig.nil.cons ?_ |>.cons (uP _ xA)
 exact sW (by rw[bU];exact h)
theorem ZjF (m:Nat)(w:World)(x:m≤9223372036854775807):Ζ 17 #[.int .i64 (m:Int)] w (kH w (m:Int)):=by
 have i:m<W64:=by rw[zN];omega
 have k:=zh (ZlL m)
 have n:=zh (ZlM i)
 have y:=wK m i
 have t:=jS m
 have u:=hi32 m
 have p:m/W32<W32:=sW (by rw[bU];exact i)
 have q:=jS (m/W32)
 rw[vL p] at q
 have z:¬ ((m:Int)<0):=qO
 obtain⟨lo,b⟩:=yE (m%W32)
 obtain⟨hi,d⟩:=yE (m/W32)
 rw[b] at t k n
 rw[d] at u q k n
 clear p b d i
 go_enter func17,ntmps17
 go_wp2_with fail
 generalize f:World.alloc (World.alloc w _) _=wb
 obtain⟨g,r,v⟩:=ZgC f
 clear f
 refine (kE _ [lo,hi] _ _ wb rfl r.out.shows0 qS qS).mono ?_
 rintro e w' ⟨rfl,rfl⟩
 have j:=zh (zW.of_own (c:=2) r.out n.out qS)
 rw[k.out] at j
 obtain⟨l,s⟩:=yE (wU [lo,hi] [lo,hi].length)
 rw[s] at j ⊢
 clear s
 go_wp2_with fail
 refine (jM _ _ _ _ j.out).mono ?_
 rintro e A ⟨B,rfl,o,a⟩
 obtain⟨C,D,E,F⟩:=(g.out.ext a).cell2
 have h:=zh a
 clear a
 go_wp2
 exact fM rfl rfl qO v.out g.out h.out (j.out.ext h.out) o.out (by simp[sg])
theorem ZjG (m:Nat)(w:World)(x:m≤9223372036854775808)(y:1≤m):Ζ 17 #[.int .i64 (-(m:Int))] w (kH w (-(m:Int))):=by
 have i:m<W64:=by rw[zN];omega
 have k:=zh (ZlL m)
 have n:=zh (ZlM i)
 have z:IntKind.u64.wrap (-IntKind.u64.wrap (-(m:Int)))=(m:Int):=by
  rw[zN] at i
  rw[IntKind.wrap_u64,IntKind.wrap_u64];omega
 have t:=jS m
 have u:=hi32 m
 have p:m/W32<W32:=sW (by rw[bU];exact i)
 have q:=jS (m/W32)
 rw[vL p] at q
 have A:(-(m:Int))<0:=qO
 obtain⟨lo,b⟩:=yE (m%W32)
 obtain⟨hi,d⟩:=yE (m/W32)
 rw[b] at t k n
 rw[d] at u q k n
 clear p b d i
 go_enter func17,ntmps17
 go_wp2_with fail
 generalize f:World.alloc (World.alloc w _) _=wb
 obtain⟨g,r,v⟩:=ZgC f
 clear f
 refine (kE _ [lo,hi] _ _ wb rfl r.out.shows0 qS qS).mono ?_
 rintro e w' ⟨rfl,rfl⟩
 have j:=zh (zW.of_own (c:=2) r.out n.out qS)
 rw[k.out] at j
 obtain⟨l,s⟩:=yE (wU [lo,hi] [lo,hi].length)
 rw[s] at j ⊢
 clear s
 go_wp2_with fail
 refine (jM _ _ _ _ j.out).mono ?_
 rintro e B ⟨C,rfl,o,a⟩
 obtain⟨D,E,F,G⟩:=(g.out.ext a).cell2
 have h:=zh a
 clear a
 go_wp2
 exact fM rfl rfl qO v.out g.out h.out (j.out.ext h.out) o.out (by simp[sg])
theorem Zab (z:Int)(w:World)(b : -9223372036854775808≤z)(c:z≤9223372036854775807):Ζ 17 #[.int .i64 z] w (kH w z):=by
 by_cases h:0≤z
 ·obtain⟨m,rfl⟩:=uS h
  exact ZjF m w qO
 obtain⟨m,d⟩:=uS (a := -z) qO
 obtain rfl:z = -(m:Int):=qO
 exact ZjG m w qO qO
end Go.Proofs.YtmpffakfhcpjoaaGreatDoor
