/-
 My texts Int, Int2, Int3, Num4, Num5 put together.
-/
import Derived.Test.YtenchljfmfgeoaaGreatDoorT07
import Derived.Test.YtenchljfmfgeoaaGreatDoorT01
import Derived.Deep.RegionHeld3
set_option maxRecDepth 100000
set_option maxHeartbeats 8000000
namespace Go.Proofs.YtenchljfmfgeoaaGreatDoor
open Go.RowKit Tryz
def iP (w:World) (v:Value) (z:Int):Prop :=
 ∃ (neg:Bool) (u:Value) (n:Nat),v=.agg #[.bool neg,u]∧zD w u n∧(n=0→neg=false)∧z=(if neg then -(n:Int) else (n:Int))
def ZdT (w:World) (z:Int) (e:Ending) (w':World):Prop:=∃ v,e=.returned v∧iP w' v z∧Ext w w'
def sg (neg:Bool) (n:Nat):Int:=if neg then -(n:Int) else (n:Int)
theorem iP.signed {w:World}{neg s:Bool}{u:Value}{n:Nat}(a:zD w u n)(b:s=(neg && decide (0<n))):iP w (.agg #[.bool s,u]) (sg neg n):=by
 subst b
 refine⟨_,u,n,rfl,a,?_,?_⟩
 ·rintro rfl;simp
 cases neg
 ·simp[sg]
 rcases uJ n with rfl|h
 ·simp[sg]
 simp[sg,h]
theorem Zhx {fn:Func}{t:Tmp}(h:fn.results=#[.cell t 160])(a:Array Value)(w:World)(b:Nat)(x y:Value)(d:a[t]? = some (.pointer (some ⟨b,0,none⟩)))(c:Blk 160 w b #[x,y]):(results fn a).run prog w=.ok (.agg #[x,y]) w:=by
 have e:w.cell? ⟨b,0,none⟩=some x:=c.cell 0
 have f:w.cell? ⟨b,1,none⟩=some y:=c.cell 1
 simp[results,h,d,go_sem,e,f]
theorem Blk.cell2 {t:TypeId}{w:World}{g:Nat}{x y:Value}(h:Blk t w g #[x,y]):w.cell? ⟨g,0,none⟩=some x∧w.cell? ⟨g,1,none⟩=some y∧w.frozen? ⟨g,0,none⟩=false∧w.frozen? ⟨g,1,none⟩=false :=
 ⟨h.cell 0,h.cell 1,h.frozen 0,h.frozen 1⟩
theorem Fr.undrew {S:Nat→Prop}{w w':World}(h:Fr S w.drew w'):Fr S w w':=⟨h.os,h.tape,h.output,h.size,h.block⟩
theorem zD.slice {w:World}{v:Value}{n:Nat}(h:zD w v n):∃ A l c,v=.slice A l c:=by
 obtain⟨A,a,c,h,_⟩:=h
 exact⟨A,_,c,h⟩
theorem Zgj {t:TypeId}{w wb:World}{x y z:Array Value}(h:((w.alloc (.cells x t)).alloc (.cells y t)).alloc (.cells z t)=wb) :
 Blk t wb w.heap.size x∧Blk t wb (w.heap.size+1) y∧Blk t wb (w.heap.size+1+1) z∧Ext w wb:=by
 subst h
 have c:(w.alloc (.cells x t)).heap.size=w.heap.size+1:=qS
 have d:((w.alloc (.cells x t)).alloc (.cells y t)).heap.size=w.heap.size+1+1:=qS
 have a:=Blk.new (w.alloc (.cells x t)) t y
 have b:=Blk.new ((w.alloc (.cells x t)).alloc (.cells y t)) t z
 rw[c] at a
 rw[d] at b
 exact⟨((Blk.new _ _ _).alloc _).alloc _,a.alloc _,b,(((Fr.refl _ _).alloc _).alloc _).alloc _⟩
theorem zD.store2 {t:TypeId}{w:World}{r n:Nat}{u a b:Value}{s:Bool}{A:qA}{l c:Nat}(h:zD w u n)(k:Blk t w r #[.bool s,.slice A l c]):zD ((w.setCell ⟨r,0,none⟩ a).setCell ⟨r,1,none⟩ b) u n:=by
 obtain⟨m,xs,o,q,v,j,y⟩:=h
 refine⟨m,xs,o,q,v,?_,y⟩
 have z:Fr (fun i=>i=r) w ((w.setCell ⟨r,0,none⟩ a).setCell ⟨r,1,none⟩ b):=((Fr.refl (fun i=>i=r) w).setCell (p:=⟨r,0,none⟩) (Or.inl rfl) a).setCell (p:=⟨r,1,none⟩) (Or.inl rfl) b
 cases xs with
 | nil=>exact zF.nil
 | cons x xs =>
  refine j.fr z (fun E f B e=>?_)
  obtain⟨g,d,C,_,hc⟩:=j.at (i:=0) qS
  rw[C] at f
  injection f with f
  subst f
  simp at e
  subst e
  rw[k.cell] at hc
  rcases vM d 2 with D|D
  ·rcases (by omega:d=0∨d=1) with rfl|rfl<;>simp at hc
  simp at hc
  rw[vI (by simp;omega)] at hc
  cases hc
theorem Zh0 {fn:Func}{t:Tmp}{a:Array Value}{w e d:World}{r n:Nat}{s neg:Bool}{A:qA}{l c:Nat}{z:Int}(b:fn.results=#[.cell t 160])(j:a[t]? = some (.pointer (some ⟨r,0,none⟩)))(h:w.heap.size≤r)(k:Ext w e)(i:Blk 160 e r #[.bool false,.slice none 0 0])(f:Ext e d)(m:zD d (.slice A l c) n)(o:s=(neg && decide (0<n)))(p:z=sg neg n) :
 bodyPost prog fn (ZdT w z) .ret ⟨a,[]⟩ ((d.setCell ⟨r,0,none⟩ (.bool s)).setCell ⟨r,1,none⟩ (.slice A l c)):=by
 have g:Blk 160 ((d.setCell ⟨r,0,none⟩ (.bool s)).setCell ⟨r,1,none⟩ (.slice A l c)) r #[.bool s,.slice A l c]:=((i.ext f).set_ 0 _).set_ 1 _
 refine bodyPost_ret (Zhx b _ _ r _ _ j g) rfl ⟨_,rfl,?_,?_⟩
 ·subst p
  exact iP.signed (m.store2 (i.ext f)) o
 exact ((k.trans f).setCell (Or.inr h) _).setCell (Or.inr h) _
theorem ZaK {a b:Nat}(h:b≤a):0≤cmpI a b:=by
 have:=fI (a:=a) (b:=b);omega
theorem gX (u v:Value)(m n:Nat)(w:World)(g:zD w u m)(h:zD w v n)(i:wl m≤4294967296)(j:wl n≤4294967296) :
 yA 184 #[u,v] w fun e w'=>e=.returned (.int .i64 (cmpI m n))∧∃ n,w'=w.drewN n:=by
 obtain⟨A,k,c,rfl,t,l,a,b,rfl⟩:=g
 obtain⟨o,p,q,rfl,r,s,d,f,rfl⟩:=h
 rw[←xH a b] at i
 rw[←xH d f] at j
 exact gN A o k p _ _ c q w rfl rfl l s qO qO a d b f
theorem iP.open {w:World}{v:Value}{z:Int}(h:iP w v z):∃ (s:Bool) (A:Option Addr) (l c:Nat),v=.agg #[.bool s,.slice A l c]∧zD w (.slice A l c) z.natAbs∧z=sg s z.natAbs∧(z=0→s=false):=by
 obtain⟨s,u,n,d,a,e,h4⟩:=h
 obtain⟨A,l,c,rfl⟩:=a.slice
 have b:z.natAbs=n:=by cases s<;>simp at h4<;>omega
 refine⟨s,A,l,c,d,b ▸ a,?_,?_⟩
 ·rw[b];exact h4
 intro f;exact e qO
def Fits (z:Int):Prop:=wl z.natAbs≤1048576
theorem Zi5 {t:TypeId}{w wb:World}{x y:Array Value}(h:(w.alloc (.cells x t)).alloc (.cells y t)=wb):Blk t wb w.heap.size x∧Blk t wb (w.heap.size+1) y∧Ext w wb:=by
 subst h
 have b:(w.alloc (.cells x t)).heap.size=w.heap.size+1:=qS
 have a:=Blk.new (w.alloc (.cells x t)) t y
 rw[b] at a
 exact⟨(Blk.new _ _ _).alloc _,a,((Fr.refl _ _).alloc _).alloc _⟩
def RetV (w:World) (v:Value) (e:Ending) (w':World):Prop:=e=.returned v∧Ext w w'
theorem zD.len0 {w:World}{A:qA}{l c n:Nat}(h:zD w (.slice A l c) n):l=wl n:=by
 obtain⟨d,f,g,e,i,j,a,b,rfl⟩:=h
 injection e with e1 e2 e3
 rw[e2];exact xH a b
theorem wX {n:Nat}:wl n=0↔n=0:=by
 constructor
 ·intro h;rcases uJ n with e|e
  ·exact e
  have:=Zb8 e;omega
 rintro rfl;rfl
theorem Zkg (a:Value)(x:Int)(w:World)(ha:iP w a x):yA 107 #[a] w (RetV w (.bool (decide (x=1)))):=by
 obtain⟨s,A,l,c,rfl,g,d,j⟩:=ha.open
 have h:=g.len0
 cases s with
 | true =>
  have f:Hid (decide (x=1)=false):=by unfold Hid;simp[sg] at d;simp;omega
  clear g d j ha h
  go_enter func107,ntmps107
  go_wp2
  go_ret
  exact⟨by rw[f.out];rfl,(Fr.refl _ _).alloc _⟩
 | false =>
  by_cases k:l=1
  ·subst k
   obtain⟨D,o,E,e,r,p,t,u,q⟩:=g
   injection e with e1 e2 e3
   subst e1 e3
   obtain⟨m,rfl⟩:∃ m,o=[m]:=by match o,e2 with | [y],_=>exact⟨y,rfl⟩
   simp at q
   obtain⟨b,v,rfl,z,n⟩:=p.at (i:=0) qS
   simp at n
   have B:=Nat.ne_of_lt z
   have f:Hid (decide (x=1)=((m:Int) == 1)):=by
    unfold Hid;rw[Bool.eq_iff_iff];simp;simp[sg] at d;omega
   clear d j ha h p t u q e2 r
   go_enter func107,ntmps107
   go_wp2
   go_ret
   exact⟨by rw[f.out];rfl,(Fr.refl _ _).alloc _⟩
  have C:((l:Int) == 1)=false:=by simp;omega
  have f:Hid (decide (x=1)=false):=by
   unfold Hid
   rw[tW]
   rintro rfl
   apply k
   rw[h]
   rfl
  clear g d j ha h k
  go_enter func107,ntmps107
  go_wp2
  go_ret
  exact⟨by rw[f.out];rfl,(Fr.refl _ _).alloc _⟩
theorem iP.shape {w:World}{v:Value}{z:Int}(h:iP w v z):∃ (s:Bool) (A:Option Addr) (l c:Nat),v=.agg #[.bool s,.slice A l c]:=by
 obtain⟨s,A,l,c,h,_⟩:=h.open
 exact⟨s,A,l,c,h⟩
def wG (w:World) (v:Value) (z:Int):Prop :=
 ∃ (neg:Bool) (u:Value) (n:Nat),v=.agg #[.bool neg,u]∧wC w u n∧(n=0→neg=false)∧z=(if neg then -(n:Int) else (n:Int))
theorem wG.ext {w w':World}{v:Value}{z:Int}(h:wG w v z)(a:Ext w w'):wG w' v z:=by
 obtain⟨s,u,n,b,c,d⟩:=h
 exact⟨s,u,n,b,c.ext a,d⟩
def Zcj (w:World) (z:Int) (e:Ending) (w':World):Prop:=∃ v,e=.returned v∧wG w' v z∧Ext w w'
def Znr (w:World) (neg:Bool) (u:Value) (n:Nat) (e:Ending) (w':World):Prop :=
 ∃ s,e=.returned (.agg #[.bool s,u])∧Hid (s=(neg && decide (0<n)))∧Ext w w'
theorem wG.signed {w:World}{neg s:Bool}{u:Value}{n:Nat}(a:wC w u n)(b:s=(neg && decide (0<n))):wG w (.agg #[.bool s,u]) (sg neg n):=by
 subst b
 refine⟨_,u,n,rfl,a,?_,?_⟩
 ·rintro rfl;simp
 cases neg
 ·simp[sg]
 rcases uJ n with rfl|h
 ·simp[sg]
 simp[sg,h]
theorem ZaN {fn:Func}{t:Tmp}(h:fn.results=#[.cell t 57])(a:Array Value)(w:World)(b:Nat)(x y:Value)(d:a[t]? = some (.pointer (some ⟨b,0,none⟩)))(c:Blk 57 w b #[x,y]):(results fn a).run prog w=.ok (.agg #[x,y]) w:=by
 have e:w.cell? ⟨b,0,none⟩=some x:=c.cell 0
 have f:w.cell? ⟨b,1,none⟩=some y:=c.cell 1
 simp[results,h,d,go_sem,e,f]
theorem Zfi (neg:Bool)(u:Value)(n:Nat)(w:World)(h:wC w u n) :
 yA 93 #[.bool neg,u] w (Znr w neg u n):=by
 obtain⟨A,i,c,rfl,j,f,b,d,g⟩:=h
 have a:Hid (decide (0<n)=decide (0<i.length)):=by
  have:=Zd7 b d
  rw[g] at this
  rcases uJ n with e|e
  ·subst e;rw[Zh5] at this;unfold Hid;simp[this]
  have:=Zgy e;unfold Hid;rw[vR e,vR qO]
 have k:=zh f
 have l:=zh b
 have m:=zh d
 clear f b d g j
 cases neg with
 | false =>
  go_enter func93,ntmps93
  go_wp2
  refine bodyPost_ret (ZaN rfl _ _ w.heap.size _ _ rfl (Blk.new w _ _)) rfl ⟨_,rfl,?_,(Fr.refl _ _).alloc _⟩
  unfold Hid;simp
 | true =>
  go_enter func93,ntmps93
  go_wp2
  refine bodyPost_ret (ZaN rfl _ _ w.heap.size _ _ rfl (Blk.new w _ _)) rfl ⟨_,rfl,?_,(Fr.refl _ _).alloc _⟩
  unfold Hid;rw[a.out];simp
theorem wC.slice {w:World}{v:Value}{n:Nat}(h:wC w v n):∃ A l c,v=.slice A l c:=by
 obtain⟨A,a,c,h,_⟩:=h
 exact⟨A,_,c,h⟩
theorem wC.store2 {t:TypeId}{w:World}{r n:Nat}{u a b:Value}{s:Bool}{A:qA}{l c:Nat}(h:wC w u n)(k:Blk t w r #[.bool s,.slice A l c]):wC ((w.setCell ⟨r,0,none⟩ a).setCell ⟨r,1,none⟩ b) u n:=by
 obtain⟨m,xs,o,q,v,j,y⟩:=h
 refine⟨m,xs,o,q,v,?_,y⟩
 have z:Fr (fun i=>i=r) w ((w.setCell ⟨r,0,none⟩ a).setCell ⟨r,1,none⟩ b):=((Fr.refl (fun i=>i=r) w).setCell (p:=⟨r,0,none⟩) (Or.inl rfl) a).setCell (p:=⟨r,1,none⟩) (Or.inl rfl) b
 cases xs with
 | nil=>exact zF.nil
 | cons x xs =>
  refine j.fr z (fun E f B e=>?_)
  obtain⟨g,d,C,_,hc⟩:=j.at (i:=0) qS
  rw[C] at f
  injection f with f
  subst f
  simp at e
  subst e
  rw[k.cell] at hc
  rcases vM d 2 with D|D
  ·rcases (by omega:d=0∨d=1) with rfl|rfl<;>simp at hc
  simp at hc
  rw[vI (by simp;omega)] at hc
  cases hc
theorem Zh6 {fn:Func}{t:Tmp}{a:Array Value}{w e d:World}{r n:Nat}{s neg:Bool}{A:qA}{l c:Nat}{z:Int}(b:fn.results=#[.cell t 57])(j:a[t]? = some (.pointer (some ⟨r,0,none⟩)))(h:w.heap.size≤r)(k:Ext w e)(i:Blk 57 e r #[.bool false,.slice none 0 0])(f:Ext e d)(m:wC d (.slice A l c) n)(o:s=(neg && decide (0<n)))(p:z=sg neg n) :
 bodyPost prog fn (Zcj w z) .ret ⟨a,[]⟩ ((d.setCell ⟨r,0,none⟩ (.bool s)).setCell ⟨r,1,none⟩ (.slice A l c)):=by
 have g:Blk 57 ((d.setCell ⟨r,0,none⟩ (.bool s)).setCell ⟨r,1,none⟩ (.slice A l c)) r #[.bool s,.slice A l c]:=((i.ext f).set_ 0 _).set_ 1 _
 refine bodyPost_ret (ZaN b _ _ r _ _ j g) rfl ⟨_,rfl,?_,?_⟩
 ·subst p
  exact wG.signed (m.store2 (i.ext f)) o
 exact ((k.trans f).setCell (Or.inr h) _).setCell (Or.inr h) _
theorem wG.open {w:World}{v:Value}{z:Int}(h:wG w v z):∃ (s:Bool) (A:Option Addr) (l c:Nat),v=.agg #[.bool s,.slice A l c]∧wC w (.slice A l c) z.natAbs∧z=sg s z.natAbs∧(z=0→s=false):=by
 obtain⟨s,u,n,d,a,e,h4⟩:=h
 obtain⟨A,l,c,rfl⟩:=a.slice
 have b:z.natAbs=n:=by cases s<;>simp at h4<;>omega
 refine⟨s,A,l,c,d,b ▸ a,?_,?_⟩
 ·rw[b];exact h4
 intro f;exact e qO
theorem Zns (w:World)(lo hi:Nat):Own .u32 143 (w.alloc (.cells #[.int .u32 (lo:Int),.int .u32 (hi:Int)] 143)) w.heap.size [lo,hi]:=by
 have:=Own.new w 143 .u32 [lo,hi] []
 exact this
theorem Zd8 {w a:World}{lo hi:Nat}{x y:Value}(h:(w.alloc (.cells #[x,y] 57)).alloc (.cells #[.int .u32 (lo:Int),.int .u32 (hi:Int)] 143)=a) :
 Hid (Blk 57 a w.heap.size #[x,y])∧Hid (Own .u32 143 a (w.heap.size+1) [lo,hi])∧Hid (Ext w a):=by
 subst h
 have c:(w.alloc (.cells #[x,y] 57)).heap.size=w.heap.size+1:=qS
 have b:=Zns (w.alloc (.cells #[x,y] 57)) lo hi
 rw[c] at b
 exact⟨(Blk.new _ _ _).alloc _,b,((Fr.refl _ _).alloc _).alloc _⟩
theorem Zh7 (m:Nat):val W32 [m%W32,m/W32]=m:=by
 simp only[iT,gV,tD,tB]
 exact rD m W32
theorem Zh8 {m:Nat}(h:m<W64):Dig W32 [m%W32,m/W32]:=by
 refine Dig.nil.cons ?_ |>.cons (uP _ aE)
 exact sJ (by rw[Zd6];exact h)
theorem ZgA (m:Nat)(w:World)(x:m≤9223372036854775807):yA 56 #[.int .i64 (m:Int)] w (Zcj w (m:Int)):=by
 have i:m<W64:=by rw[zR];omega
 have k:=zh (Zh7 m)
 have n:=zh (Zh8 i)
 have y:=lW m i
 have t:=ZcS m
 have u:=hi32 m
 have p:m/W32<W32:=sJ (by rw[Zd6];exact i)
 have q:=ZcS (m/W32)
 rw[vL p] at q
 have z:¬ ((m:Int)<0):=qO
 obtain⟨lo,b⟩:=yE (m%W32)
 obtain⟨hi,d⟩:=yE (m/W32)
 rw[b] at t k n
 rw[d] at u q k n
 clear p b d i
 go_enter func56,ntmps56
 go_wp2_with fail
 generalize f:World.alloc (World.alloc w _) _=wb
 obtain⟨g,r,v⟩:=Zd8 f
 clear f
 refine (Zbq _ [lo,hi] _ _ wb rfl r.out.shows0 qS qS).mono ?_
 rintro e w' ⟨rfl,rfl⟩
 have j:=zh (wC.of_own (c:=2) r.out n.out qS)
 rw[k.out] at j
 obtain⟨l,s⟩:=yE (xZ [lo,hi] [lo,hi].length)
 rw[s] at j ⊢
 clear s
 go_wp2_with fail
 refine (Zfi _ _ _ _ j.out).mono ?_
 rintro e A ⟨B,rfl,o,a⟩
 obtain⟨C,D,E,F⟩:=(g.out.ext a).cell2
 have h:=zh a
 clear a
 go_wp2
 exact Zh6 rfl rfl qO v.out g.out h.out (j.out.ext h.out) o.out (by simp[sg])
theorem ZgB (m:Nat)(w:World)(x:m≤9223372036854775808)(y:1≤m):yA 56 #[.int .i64 (-(m:Int))] w (Zcj w (-(m:Int))):=by
 have i:m<W64:=by rw[zR];omega
 have k:=zh (Zh7 m)
 have n:=zh (Zh8 i)
 have z:IntKind.u64.wrap (-IntKind.u64.wrap (-(m:Int)))=(m:Int):=by
  rw[zR] at i
  rw[IntKind.wrap_u64,IntKind.wrap_u64];omega
 have t:=ZcS m
 have u:=hi32 m
 have p:m/W32<W32:=sJ (by rw[Zd6];exact i)
 have q:=ZcS (m/W32)
 rw[vL p] at q
 have A:(-(m:Int))<0:=qO
 obtain⟨lo,b⟩:=yE (m%W32)
 obtain⟨hi,d⟩:=yE (m/W32)
 rw[b] at t k n
 rw[d] at u q k n
 clear p b d i
 go_enter func56,ntmps56
 go_wp2_with fail
 generalize f:World.alloc (World.alloc w _) _=wb
 obtain⟨g,r,v⟩:=Zd8 f
 clear f
 refine (Zbq _ [lo,hi] _ _ wb rfl r.out.shows0 qS qS).mono ?_
 rintro e w' ⟨rfl,rfl⟩
 have j:=zh (wC.of_own (c:=2) r.out n.out qS)
 rw[k.out] at j
 obtain⟨l,s⟩:=yE (xZ [lo,hi] [lo,hi].length)
 rw[s] at j ⊢
 clear s
 go_wp2_with fail
 refine (Zfi _ _ _ _ j.out).mono ?_
 rintro e B ⟨C,rfl,o,a⟩
 obtain⟨D,E,F,G⟩:=(g.out.ext a).cell2
 have h:=zh a
 clear a
 go_wp2
 exact Zh6 rfl rfl qO v.out g.out h.out (j.out.ext h.out) o.out (by simp[sg])
theorem ZgC (z:Int)(w:World)(b : -9223372036854775808≤z)(c:z≤9223372036854775807):yA 56 #[.int .i64 z] w (Zcj w z):=by
 by_cases h:0≤z
 ·obtain⟨m,rfl⟩:=uV h
  exact ZgA m w qO
 obtain⟨m,d⟩:=uV (a := -z) qO
 obtain rfl:z = -(m:Int):=qO
 exact ZgB m w qO qO
end Go.Proofs.YtenchljfmfgeoaaGreatDoor
