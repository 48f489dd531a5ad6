/-
 My texts Gen, Small, Rat2, SxK, Sx8, Sx9, Sx12, Sx13, Sx17, Pw, Kar, Dvb, Dvc, Spl, Spl2, Print, Comb, Sx14, Sx15, Sx16, Sx18, Mo, Sx19, Sx20, Bu, Wl, In, Sx21, Ms0, Ms, Sx22, Sx23, Sx24, Bv, Sx25, Ty, Fm0 put together.
-/
import Derived.Test.YtoanifijmlgcgaaGreatDoorD13
import Derived.Test.YtoanifijmlgcgaaGreatDoorD10
import Derived.Test.YtoanifijmlgcgaaGreatDoorD15
import Derived.Outline
import Derived.Test.YtoanifijmlgcgaaGreatDoorD14
import Derived.Test.YtoanifijmlgcgaaGreatDoorD01
import Derived.Deep.LoopGhost
import Derived.Test.YtoanifijmlgcgaaGreatDoorD06
import Derived.Test.YtoanifijmlgcgaaGreatDoorD03
import Derived.Test.YtoanifijmlgcgaaGreatDoorD07
import Derived.Deep.RegionLaw
import Derived.Test.YtoanifijmlgcgaaGreatDoorD11
import Derived.Laws.IdiomStrings
import Derived.Deep.QuietTactic
import Derived.BigQuiet
import Derived.Deep.RegionWith
import Derived.Deep.DeepCutAuto
import Derived.Test.YtoanifijmlgcgaaGreatDoorD08
import Derived.Deep.RegionHeld3
import Derived.Laws.CopyOwn
import Derived.Maps.AppendAt
import Derived.Laws.MakeOwn
import Derived.Lib.Builder
import Derived.Shelf.Strings.Builder1
import Derived.Lib.Split
import Derived.Recover
import Derived.Defers
set_option maxRecDepth 100000
set_option maxHeartbeats 8000000
namespace Go.Proofs.YtoanifijmlgcgaaGreatDoor
open Go.RowKit
theorem zK:Tryz.prog.follows .mixedOrders=true:=by kernel_rfl
def Zeo (cs:Array Value):Prop:=∀ (i:Nat) (k:IntKind) (z:Int),cs[i]? = some (.int k z)→k=.i64
theorem lU {s:Bool}{A:Option Addr}{l c:Nat}:Zeo #[.bool s,.slice A l c]:=by
 intro i k z;rcases i with _|_|i<;>simp
theorem zV.other {k:IntKind}{t:TypeId}{w w':World}{r:Nat}{A:Option Addr}{xs:List Nat}{cs:Array Value}(h:zV k w A xs)(d:k≠.i64)(f:Blk t w r cs)(j:Zeo cs)(l:Fr (fun i=>i=r) w w'):zV k w' A xs:=by
 cases xs with
 | nil=>exact zV.nil
 | cons x xs =>
  refine h.fr l (fun q c m e=>?_)
  obtain⟨g,off,n,_,b⟩:=h.at (i:=0) (by simp)
  rw[n] at c
  injection c with c
  subst c
  simp at e
  subst e
  rw[f.cell] at b
  exact d (j _ _ _ b)
theorem zP.oth {t:TypeId}{w w':World}{r n:Nat}{u:Value}{cs:Array Value}(h:zP w u n)(b:Blk t w r cs)(c:Zeo cs)(d:Fr (fun i=>i=r) w w'):zP w' u n:=by
 obtain⟨e,f,j,k,l,m,q⟩:=h
 exact⟨e,f,j,k,l,m.other (by decide) b c d,q⟩
theorem zR.oth {t:TypeId}{w w':World}{r:Nat}{v:Value}{z:Int}{cs:Array Value}(h:zR w v z)(b:Blk t w r cs)(c:Zeo cs)(d:Fr (fun i=>i=r) w w'):zR w' v z:=by
 obtain⟨e,u,n,f,j,k⟩:=h
 exact⟨e,u,n,f,j.oth b c d,k⟩
theorem zR.shp {w:World}{v:Value}{z:Int}(h:zR w v z):∃ (s:Bool) (A:Option Addr) (l c:Nat),v=.agg #[.bool s,.slice A l c]:=by
 obtain⟨s,A,l,c,h,_⟩:=h.open
 exact⟨s,A,l,c,h⟩
theorem zR.nil (w:World):zR w (.agg #[.bool false,.slice none 0 0]) 0:=⟨false,_,0,rfl,zP.zero w,fun _=>rfl,rfl⟩
theorem xO.nil (w:World):xO w (.agg #[.bool false,.slice none 0 0,.bool false,.slice none 0 0]) 0:=xO.zero w
theorem xO.shp {w:World}{v:Value}{q:Rat}(h:xO w v q):∃ (s:Bool) (A:Option Addr) (l c:Nat) (t:Bool) (B:Option Addr) (b d:Nat),v=.agg #[.bool s,.slice A l c,.bool t,.slice B b d]:=by
 obtain⟨s,t,A,B,l,c,b,d,h,_⟩:=h
 exact⟨s,A,l,c,t,B,b,d,h⟩
theorem Zdw {a b c d a' b' e d':Value}(h:Value.agg #[a,b,c,d]=.agg #[a',b',e,d']):a=a'∧b=b'∧c=e∧d=d':=by
 injection h with h
 simpa using h
theorem xO.num {w:World}{a b c d:Value}{q:Rat}(h:xO w (.agg #[a,b,c,d]) q):lB w (.agg #[a,b]) q.num:=by
 obtain⟨s,t,A,B,l,c,f,i,h,e,j⟩:=h
 obtain⟨rfl,rfl,rfl,rfl⟩:=Zdw h
 exact e
def zF (w:World) (v:Value) (q:Rat):Prop:=∃ (s t:Bool) (A B:Option Addr) (l c l' c':Nat),v=.agg #[.bool s,.slice A l c,.bool t,.slice B l' c']∧zR w (.agg #[.bool s,.slice A l c]) q.num∧zR w (.agg #[.bool t,.slice B l' c']) (denF q)
theorem zF.ext {w w':World}{v:Value}{q:Rat}(h:zF w v q)(b:Ext w w'):zF w' v q:=by
 obtain⟨s,t,A,B,l,c,d,e,f,i,j⟩:=h
 exact⟨s,t,A,B,l,c,d,e,f,i.ext b,j.ext b⟩
theorem zF.oth {t:TypeId}{w w':World}{r:Nat}{v:Value}{q:Rat}{cs:Array Value}(h:zF w v q)(b:Blk t w r cs)(d:Zeo cs)(e:Fr (fun i=>i=r) w w'):zF w' v q:=by
 obtain⟨s,t,A,B,l,c,f,j,k,m,n⟩:=h
 exact⟨s,t,A,B,l,c,f,j,k,m.oth b d e,n.oth b d e⟩
theorem zF.shp {w:World}{v:Value}{q:Rat}(h:zF w v q):∃ (s:Bool) (A:Option Addr) (l c:Nat) (t:Bool) (B:Option Addr) (b d:Nat),v=.agg #[.bool s,.slice A l c,.bool t,.slice B b d]:=by
 obtain⟨s,t,A,B,l,c,b,d,h,_⟩:=h
 exact⟨s,A,l,c,t,B,b,d,h⟩
theorem zF.num {w:World}{a b c d:Value}{q:Rat}(h:zF w (.agg #[a,b,c,d]) q):zR w (.agg #[a,b]) q.num:=by
 obtain⟨s,t,A,B,l,c,f,i,h,e,j⟩:=h
 obtain⟨rfl,rfl,rfl,rfl⟩:=Zdw h
 exact e
theorem zF.den {w:World}{a b c d:Value}{q:Rat}(h:zF w (.agg #[a,b,c,d]) q):zR w (.agg #[c,d]) (denF q):=by
 obtain⟨s,t,A,B,l,c,f,i,h,j,e⟩:=h
 obtain⟨rfl,rfl,rfl,rfl⟩:=Zdw h
 exact e
theorem zF.of {w:World}{s t:Bool}{A B:Option Addr}{l c l' b:Nat}{q:Rat}(d:zR w (.agg #[.bool s,.slice A l c]) q.num)(e:zR w (.agg #[.bool t,.slice B l' b]) (denF q)):zF w (.agg #[.bool s,.slice A l c,.bool t,.slice B l' b]) q :=
 ⟨_,_,_,_,_,_,_,_,rfl,d,e⟩
def kY (w:World) (q:Rat) (e:Ending) (w':World):Prop:=∃ v,e=.returned v∧zF w' v q∧Ext w w'
theorem zF.nil (w:World):zF w (.agg #[.bool false,.slice none 0 0,.bool false,.slice none 0 0]) 0:=⟨_,_,_,_,_,_,_,_,rfl,zR.nil w,zR.nil w⟩
theorem gB {t0:TypeId}{w wb:World}{c0:Array Value}(h:w.alloc (.cells c0 t0)=wb):Blk t0 wb w.heap.size c0∧Ext w wb:=by
 subst h;exact⟨Blk.new _ _ _,(Fr.refl _ _).alloc _⟩
theorem ZcL {t0 t1:TypeId}{w wb:World}{c0 c1:Array Value}(h:(w.alloc (.cells c0 t0)).alloc (.cells c1 t1)=wb):Blk t0 wb w.heap.size c0∧Blk t1 wb (w.heap.size+1) c1∧Ext w wb:=by
 obtain⟨d,f⟩:=gB (w:=w) (c0:=c0) (t0:=t0) rfl
 have e:(w.alloc (.cells c0 t0)).heap.size=w.heap.size+1:=by simp
 obtain⟨b,c⟩:=gB h
 rw[e] at b
 exact⟨d.ext c,b,f.trans c⟩
theorem Zif {t0 t1 t2:TypeId}{w wb:World}{c0 c1 c2:Array Value}(h:((w.alloc (.cells c0 t0)).alloc (.cells c1 t1)).alloc (.cells c2 t2)=wb):Blk t0 wb w.heap.size c0∧Blk t1 wb (w.heap.size+1) c1∧Blk t2 wb (w.heap.size+1+1) c2∧Ext w wb:=by
 obtain⟨d,f,i⟩:=ZcL (w:=w) (c0:=c0) (t0:=t0) (c1:=c1) (t1:=t1) rfl
 have e:((w.alloc (.cells c0 t0)).alloc (.cells c1 t1)).heap.size=w.heap.size+1+1:=by simp
 obtain⟨c,b⟩:=gB h
 rw[e] at c
 exact⟨d.ext b,f.ext b,c,i.trans b⟩
theorem Zmr {t0 t1 t2 c:TypeId}{w wb:World}{c0 c1 c2 d:Array Value}(h:(((w.alloc (.cells c0 t0)).alloc (.cells c1 t1)).alloc (.cells c2 t2)).alloc (.cells d c)=wb):Blk t0 wb w.heap.size c0∧Blk t1 wb (w.heap.size+1) c1∧Blk t2 wb (w.heap.size+1+1) c2∧Blk c wb (w.heap.size+1+1+1) d∧Ext w wb:=by
 obtain⟨i,j,k,l⟩:=Zif (w:=w) (c0:=c0) (t0:=t0) (c1:=c1) (t1:=t1) (c2:=c2) (t2:=t2) rfl
 have e:(((w.alloc (.cells c0 t0)).alloc (.cells c1 t1)).alloc (.cells c2 t2)).heap.size=w.heap.size+1+1+1:=by simp
 obtain⟨f,b⟩:=gB h
 rw[e] at f
 exact⟨i.ext b,j.ext b,k.ext b,f,l.trans b⟩
theorem Blk.one' {t:TypeId}{w:World}{g:Nat}{cs:Array Value}{x:Value}(h:Blk t w g cs)(o:Nat)(b:cs[o]? = some x):w.cell? ⟨g,o,none⟩=some x:=(h.cell o).trans b
section
variable {ops:Array Oper} {S:World→Prop} {o:Oper} {a:Act} {p:Operand} {g off:Nat} {x y z u v:Value}
theorem ym (b:Region.wanted o (yielded ops a.tmps)=true)(c:o.op=Op.move p)(d:a.eval p=v):YieldsIf Tryz.prog ops S o v a :=
 Or.inl ⟨b,fun w _=>by simp only[execOp,c,d];simp[go_sem]⟩
theorem Ze7 (b:Region.wanted o (yielded ops a.tmps)=true)(c:o.op=Op.load 4 p)(d:a.eval p=.pointer (some ⟨g,off,none⟩))(e:∀ w,S w→w.cell? ⟨g,off,none⟩=some x):YieldsIf Tryz.prog ops S o x a :=
 Or.inl ⟨b,fun w f=>by
  have h:=e w f
  simp only[execOp,c,d]
  simp[go_sem,h]⟩
theorem Zbm (b:Region.wanted o (yielded ops a.tmps)=true)(c:o.op=Op.fieldAddr 125 p 0)(d:a.eval p=.pointer (some ⟨g,off,none⟩)):YieldsIf Tryz.prog ops S o (.pointer (some ⟨g,off,none⟩)) a :=
 Or.inl ⟨b,fun w _=>by simp only[execOp,c,d];simp[go_sem]⟩
theorem Zlf {b c:Bool}{q:Operand}(d:Region.wanted o (yielded ops a.tmps)=true)(e:o.op=Op.binOp .neq 4 p q 4)(f:a.eval p=.bool b)(h:a.eval q=.bool c):YieldsIf Tryz.prog ops S o (.bool (b != c)) a :=
 Or.inl ⟨d,fun w _=>by simp only[execOp,e,f,h];simp[go_sem];cases b<;>cases c<;>rfl⟩
end
section
variable {S:Nat→Prop} {w w' w0:World} {k:IntKind} {A:Option Addr} {xs:List Nat}
theorem zV.nrb (c:k≠.i64)(h:zV k w A xs)(d:∀ i,S i→NRB w i)(f:Fr S w w'):zV k w' A xs:=by
 cases xs with
 | nil=>exact zV.nil
 | cons x xs =>
  refine h.fr f (fun q b j l=>?_)
  obtain⟨g,m,n,_,a⟩:=h.at (i:=0) (by simp)
  rw[n] at b
  injection b with b
  subst b
  obtain⟨t,r,o,p⟩:=d _ l
  rw[o.cell] at a
  exact c (p _ _ _ a)
theorem zY.nrb {u:Value}{n:Nat}(h:zY w u n)(a:∀ i,S i→NRB w i)(b:Fr S w w'):zY w' u n:=by
 obtain⟨c,xs,d,f,g,j,l⟩:=h
 exact⟨c,xs,d,f,g,j.nrb (by decide) a b,l⟩
theorem lB.nrb {v:Value}{z:Int}(h:lB w v z)(a:∀ i,S i→NRB w i)(b:Fr S w w'):lB w' v z:=by
 obtain⟨c,u,n,d,f,g⟩:=h
 exact⟨c,u,n,d,f.nrb a b,g⟩
theorem xO.nrb {v:Value}{q:Rat}(h:xO w v q)(a:∀ i,S i→NRB w i)(b:Fr S w w'):xO w' v q:=by
 obtain⟨s,t,A,B,l,c,d,f,g,j,m⟩:=h
 exact⟨s,t,A,B,l,c,d,f,g,j.nrb a b,m.nrb a b⟩
theorem zP.nrb {u:Value}{n:Nat}(h:zP w u n)(a:∀ i,S i→NRB w i)(b:Fr S w w'):zP w' u n:=by
 obtain⟨c,xs,d,f,g,j,l⟩:=h
 exact⟨c,xs,d,f,g,j.nrb (by decide) a b,l⟩
theorem zR.nrb {v:Value}{z:Int}(h:zR w v z)(a:∀ i,S i→NRB w i)(b:Fr S w w'):zR w' v z:=by
 obtain⟨c,u,n,d,f,g⟩:=h
 exact⟨c,u,n,d,f.nrb a b,g⟩
theorem zF.nrb {v:Value}{q:Rat}(h:zF w v q)(a:∀ i,S i→NRB w i)(b:Fr S w w'):zF w' v q:=by
 obtain⟨s,t,A,B,l,c,d,f,g,j,m⟩:=h
 exact⟨s,t,A,B,l,c,d,f,g,j.nrb a b,m.nrb a b⟩
theorem NRB.ext {i:Nat}(h:NRB w i)(a:Ext w w'):NRB w' i:=by
 obtain⟨t,b,c,d⟩:=h
 exact⟨t,b,c.ext a,d⟩
theorem boxn {φ:World→Prop}(a:Ext w w')(h:∀ S w'',(∀ i,S i→NRB w' i)→Fr S w' w''→φ w''):BoxN w w' φ:=fun S b w'' c=>h S w'' (fun i d=>(b i d).2.ext a) c
end
abbrev ShI:=Bool×Option Addr×Nat × Nat
abbrev ShQ:=Bool×Option Addr×Nat × Nat × Bool×Option Addr×Nat × Nat
abbrev ShN:=Option Addr×Nat × Nat
def wI (x:ShI):Value:=.agg #[.bool x.1,.slice x.2.1 x.2.2.1 x.2.2.2]
def xC (x:ShQ):Value:=.agg #[.bool x.1,.slice x.2.1 x.2.2.1 x.2.2.2.1,.bool x.2.2.2.2.1,.slice x.2.2.2.2.2.1 x.2.2.2.2.2.2.1 x.2.2.2.2.2.2.2]
section
variable {w w':World} {e:Ending}
theorem xL {z:Int}(h:lL w z e w'):wS wI (fun x w=>zR w (wI x) z) w e w':=by
 obtain⟨v,rfl,a,Q⟩:=h
 obtain⟨s,A,l,c,rfl⟩:=a.shp
 exact⟨(s,A,l,c),rfl,Q,boxn Q (fun S b d f=>a.nrb d f)⟩
theorem wW {q:Rat}(h:kY w q e w'):wS xC (fun x w=>zF w (xC x) q) w e w':=by
 obtain⟨v,rfl,a,Q⟩:=h
 obtain⟨s,A,l,c,t,B,m,d,rfl⟩:=a.shp
 exact⟨(s,A,l,c,t,B,m,d),rfl,Q,boxn Q (fun S b f g=>a.nrb f g)⟩
def Zce (x:ShI×ShI):Value:=.tuple #[wI x.1,wI x.2]
theorem zS {v u:Value}(h:e=.returned v∧Ext w w')(a:v=u):wS (fun _:Unit=>u) (fun _ _=>True) w e w':=by
 obtain⟨rfl,Q⟩:=h
 subst a
 exact⟨(),rfl,Q,BoxN.pure trivial⟩
end
theorem yN {P:Program}{f:FuncId}{a:Array Value}{w:World}{u v:Value}(h:Calls P f a w (fun e w'=>e=.returned v ∧ Ext w w'))(b:v=u:=by rfl):Calls P f a w (wS (fun _:Unit=>u) (fun _ _=>True) w):=h.mono (fun _ _ h=>zS h b)
section
variable {N:Nat} {S0:Nat→Prop} {w0:World} {s s':St} {Φ Ψ Φ0:World→Prop} {L:Nat→Nat} {a:Act} {w:World} {P:Program} {ops:Array Oper} {Q:Exit→Act→World→Prop} {o:Oper}
theorem zX.of {b:SlL}{bl:BlL}(h:(b.map (fun q=>s.sl q.1),bl.map (fun q=>s.bl q.1))=(b.map (fun q=>some q.2),bl.map (fun q=>some q.2))):zX s b bl:=h
def Zl4 (N:Nat) (S0:Nat→Prop) (w0:World) (J:Nat→St→(World→Prop)→Prop) (n:Nat) (a:Act) (w:World):Prop:=∃ n' s' Φ' L',n'<n∧J n' s' Φ'∧Inv N S0 w0 s' Φ' L' a w
theorem xS {c:Code}(J:Nat→St→(World→Prop)→Prop)(g:Nat)(h:J g s Φ)(b:∀ n s Φ,J n s Φ→SXc P N S0 w0 (Exit.then (Zl4 N S0 w0 J n) Q) c s Φ):SXc P N S0 w0 Q (.loop c) s Φ:=fun L a w f=>by
 refine wp_loop_ghost (fun n a w=>∃ s Φ L,J n s Φ∧Inv N S0 w0 s Φ L a w) g ⟨s,Φ,L,h,f⟩ ?_
 rintro n a w ⟨s,Φ,L,i,f⟩
 refine wp_mono (b n s Φ i L a w f) ?_
 intro e r w' d
 cases e with
 | normal =>
  obtain⟨j,s',Φ',k,m,p,q⟩:=d
  exact⟨j,m,s',Φ',k,p,q⟩
 | exit id=>exact d
 | goto l=>exact d
 | ret=>exact d
 | panic ch=>exact d
 | outgrown=>exact d
theorem xE {J:Nat→St→(World→Prop)→Prop}{n:Nat}(b:Nat)(c:b<n)(h:J b s Φ):SXq N S0 w0 (Exit.then (Zl4 N S0 w0 J n) Q .normal) s Φ:=fun _ _ _ d=>⟨b,s,Φ,_,c,h,d⟩
theorem gC {n i:Nat}(d:Nat){α:Type}[e:Nonempty α](b:α→Value)(φ:α→World→Prop)(hi:Nat.blt i n=true)(f:cls (opAt ops i).op=2)(g:s.wantB ops (opAt ops i)=some true)(h:lF (opAt ops i).op=true)(j:(opAt ops i).op.operands.toList.all s.vB=true)(k:(opAt ops i).dst=some d)(l:Nat.blt d N=true)(c:∀ w,Fr S0 w0 w→Φ w→Does P (opAt ops i) s.rho w (DoR b φ w))(K:∀ x,StI P N S0 w0 ops Φ0 Q n (i+1) (s.put d (.v (b x))) (fun w=>Φ w∧φ x w)):StI P N S0 w0 ops Φ0 Q n i s Φ:=by
 have m:i<n:=vK hi
 unfold StI
 rw[show n-i=(n-(i+1))+1 by omega,List.range'_succ]
 exact .does e b φ f g h j k (vK l) c K
end
section
variable {N:Nat} {S0:Nat→Prop} {w0:World} {s:St} {Φ:World→Prop} {P:Program} {ops:Array Oper} {Q:Exit→Act→World→Prop}
theorem yD {i:Nat}{α:Type}{d:Nat}(b:α→Value)(φ:α→World→Prop)(c:∀ w,Fr S0 w0 w→Φ w→Does P (opAt ops i) s.rho w (DoR b φ w))(K:∀ x,SXi P N S0 w0 ops Q (i+1) (s.put d (.v (b x))) (fun w=>Φ w ∧ φ x w))(hi:Nat.blt i ops.size=true:=by kernel_rfl)(e:s.wantB ops (opAt ops i)=some true:=by kernel_rfl)(f:lF (opAt ops i).op=true:=by kernel_rfl)(g:(opAt ops i).op.operands.toList.all s.vB=true:=by kernel_rfl)(h:(opAt ops i).dst=some d:=by kernel_rfl)(j:Nat.blt d N=true:=by kernel_rfl):SXi P N S0 w0 ops Q i s Φ:=wO b φ hi e f g h j c K
theorem yK {i:Nat}(d:Nat)(y:Value)(b:∀ w,Fr S0 w0 w→Φ w→(execOp s.rho (opAt ops i)).run P w=.ok (.value y) w)(K:SXi P N S0 w0 ops Q (i+1) (s.put d (.v y)) Φ)(hi:Nat.blt i ops.size=true:=by kernel_rfl)(c:lF (opAt ops i).op=true:=by kernel_rfl)(e:s.wantB ops (opAt ops i)=some true:=by kernel_rfl)(f:(opAt ops i).op.operands.toList.all s.vB=true:=by kernel_rfl)(g:(opAt ops i).dst=some d:=by kernel_rfl)(h:Nat.blt d N=true:=by kernel_rfl):SXi P N S0 w0 ops Q i s Φ:=Zib d y hi c e f g h b K
theorem yR {fn:Func}{R:Ending→World→Prop}(v:Value)(b:∀ w,Fr S0 w0 w→Φ w→R (.returned v) w)(h:Zgi P fn s=some v:=by kernel_rfl):SXq N S0 w0 (bodyPost P fn R .ret) s Φ:=zG h b
theorem yQ {c:Operand}{x y:Code}(b:Bool)(d:b=true→SXc P N S0 w0 Q x s Φ)(e:b=false→SXc P N S0 w0 Q y s Φ)(f:s.eval c=some (.v (.bool b)):=by kernel_rfl):SXc P N S0 w0 Q (.cond c x y) s Φ:=zW b f d e
theorem yO {id:Nat}(n:Nat){b:SlL}{c:BlL}(d:P.follows .mixedOrders=true)(h:StI P N S0 w0 ops Φ Q n 0 (ofL b c) Φ)(e:Zl2 ops (ofL b c) n=true:=by kernel_rfl)(f:aD ops b=true:=by kernel_rfl):SXc P N S0 w0 Q (.region id ops true) (ofL b c) Φ:=wF n e f d h
theorem yP {q:Act→World→Prop}(b:SlL)(c:BlL)(Ψ:World→Prop)(Q:∀ w,Φ w→Ψ w)(h:SXq N S0 w0 q (ofL b c) Ψ)(d:(b.map (fun q=>s.sl q.1),c.map (fun q=>s.bl q.1))=(b.map (fun q=>some q.2),c.map (fun q=>some q.2)):=by kernel_rfl)(e:wfB b c=true:=by kernel_rfl):SXq N S0 w0 q s Φ:=SXq.weak b c (zX.of d) e Q h
theorem yC {c:Code}(b:SlL)(d:BlL)(Ψ:World→Prop)(R:∀ w,Φ w→Ψ w)(h:SXc P N S0 w0 Q c (ofL b d) Ψ)(e:(b.map (fun q=>s.sl q.1),d.map (fun q=>s.bl q.1))=(b.map (fun q=>some q.2),d.map (fun q=>some q.2)):=by kernel_rfl)(f:wfB b d=true:=by kernel_rfl):SXc P N S0 w0 Q c s Φ:=SXc.weak b d (zX.of e) f R h
theorem yM {f:FuncId}{b:Array Value}{w:World}{R T:Ending→World→Prop}(p:∀ {e w'},R e w'→T e w')(h:Calls P f b w R):Calls P f b w T:=h.mono (fun _ _=>p)
end
theorem Zlg (x:ByteArray):(x.toList == x.toList)=true:=by simp
theorem Zep {P:Program}{ρ:Operand→Value}{w:World}{t e:TypeId}{n sz:Nat}{z:Value}{parts:Array (Nat × Operand)}{cells:Array Value}(f:P.underlying t=some (.slice e))(a:(P.info? e).map (fun i=>(i.zero,i.size))=some (some z,sz))(g:Nat.ble (n*sz) 1000=true)(hn0:Nat.beq (n*sz) 0=false)(j:Instr.fill (fun i=>some (i*sz,sz)) ((List.range (n*sz)).map (fun i=>z.cells[i%z.cells.size]!)).toArray (parts.toList.map fun q=>(q.1,ρ q.2))=some cells) :
 (Instr.buildSlice t n (parts.map fun q:Nat × Operand=>(q.1,ρ q.2))).run P w=.ok (.slice (some ⟨w.heap.size,0,none⟩) n n) (w.alloc (.cells cells e)):=by
 obtain⟨i,k,b⟩:=uV.1 a
 injection b with b h2
 have l:=vK g
 have c:¬ n*sz=0:=fun h=>by rw[h] at hn0;cases hn0
 have d:¬ 2^24<n*sz:=by omega
 have m:(Array.range (n*sz)).map (fun i=>z.cells[i%z.cells.size]!)=((List.range (n*sz)).map (fun i=>z.cells[i%z.cells.size]!)).toArray:=by
  apply Array.ext';simp
 have o:(parts.map fun q:Nat × Operand=>(q.1,ρ q.2)).toList=parts.toList.map fun q=>(q.1,ρ q.2):=by simp
 unfold Instr.buildSlice
 simp[underlying,f,sizeOf,typeInfo,k,h2,zeroValue,b,c,d,m,j,newRow,newObj,Result.andThen]
 rfl
theorem gX {P:Program}{o:Oper}{ρ:Operand→Value}{w:World}{t e:TypeId}{n sz:Nat}{z:Value}{parts:Array (Nat × Operand)}{cells:Array Value}(f:o.op=Op.buildSlice t n parts)(g:P.underlying t=some (.slice e))(a:(P.info? e).map (fun i=>(i.zero,i.size))=some (some z,sz))(j:Nat.ble (n*sz) 1000=true)(d:Nat.beq (n*sz) 0=false)(k:Instr.fill (fun i=>some (i*sz,sz)) ((List.range (n*sz)).map (fun i=>z.cells[i%z.cells.size]!)).toArray (parts.toList.map fun q=>(q.1,ρ q.2))=some cells) :
 Does P o ρ w (DoR (fun b:Nat=>.slice (some ⟨b,0,none⟩) n n) (fun b w=>Blk e w b cells) w):=by
 have c:=Zep (w:=w) g a j d k
 exact Or.inl ⟨_,_,by simp[execOp,f,c,Result.andThen],w.heap.size,rfl,(Fr.refl _ w).alloc _,fun S l m p=>(Blk.new w e cells).fr p (fun h=>by have:=(l _ h).1;omega)⟩
open Classical in
theorem Fr.split {A B:Nat→Prop}{w w2:World}(h:Fr (fun i=>A i∨B i) w w2):∃ m,Fr A w m∧Fr B m w2:=by
 have n:∀ i,i<w2.heap.size→(w2.heap.mapIdx fun i o=>if A i∨w.heap.size≤i then o else (w.heap[i]?).getD o)[i]? = if A i∨w.heap.size≤i then w2.heap[i]? else w.heap[i]? := by
  intro i g
  rw[Array.getElem?_mapIdx,Array.getElem?_eq_getElem g]
  by_cases b:A i∨w.heap.size≤i
  ·simp[b]
  have d:i<w.heap.size:=by
   rcases uZ i w.heap.size with c|c
   ·exact c
   exact absurd (Or.inr c) b
  simp only[b,sH,if_false,Array.getElem?_eq_getElem d,qC]
 refine⟨{ w2 with heap:=w2.heap.mapIdx fun i o=>if A i∨w.heap.size≤i then o else (w.heap[i]?).getD o },⟨h.os,h.tape,h.output,?_,fun i g j=>?_⟩,⟨rfl,rfl,rfl,?_,fun i g p=>?_⟩⟩
 ·simpa using h.size
 ·have f:=n i (uX g h.size)
  rw[vP (fun b=>b.elim j (fun c=>by omega))] at f
  exact f
 ·simp
 have l:i<w2.heap.size:=by simpa using g
 have f:=n i l
 by_cases b:A i∨w.heap.size≤i
 ·rw[tA b] at f;exact f.symm
 rw[vP b] at f
 have d:i<w.heap.size:=by
  rcases uZ i w.heap.size with c|c
  ·exact c
  exact absurd (Or.inr c) b
 exact (h.block i d (fun c=>c.elim (fun j=>b (Or.inl j)) p)).trans f.symm
theorem bl2 (b:Bool):b=true∨b=false:=by cases b<;>simp
section
variable {N:Nat} {S0:Nat→Prop} {w0:World} {s:St} {Φ Ψ:World→Prop} {L:Nat→Nat} {a:Act} {w:World} {P:Program} {ops:Array Oper} {Q:Exit→Act→World→Prop}
theorem Inv.notOwn (h:Inv N S0 w0 s Φ L a w){r j:Nat}{c:Value}(f:∀ w,Φ w→w.cell? ⟨r,j,none⟩=some c):¬ s.own L r:=fun g=>by
 have i:=f w h.box.self
 have b:∀ u:Value,u≠c→False:=fun u l=>by
  have d:=f (w.setCell ⟨r,j,none⟩ u) (h.box _ ((Fr.refl _ _).setCell (p:=⟨r,j,none⟩) (Or.inl g) u))
  rw[World.cell?_setCell_same _ _ _ i] at d
  injection d with d
  exact l d
 by_cases e:c=.bool true
 ·exact b (.bool false) (by rw[e];intro h;cases h)
 exact b (.bool true) (fun h=>e h.symm)
theorem Inv.eff (h:Inv N S0 w0 s Φ L a w){w':World}{r:Nat}(d:Fr (fun i=>i=r) w w')(g:¬ s.own L r)(c:w0.heap.size≤r∨S0 r)(f:r<w.heap.size)(m:∀ w1 w2,Φ w1→Fr (fun i=>i=r) w1 w2→w2.heap[r]? = w'.heap[r]? → Ψ w2):Inv N S0 w0 s Ψ L a w':=by
 refine⟨h.size,h.df,h.sl,⟨fun b t n e=>(h.mem.blk b t n e).fr d (fun p=>g ⟨b,by rw[e];rfl,p⟩),h.mem.inj,h.mem.old,h.mem.ext.next d (fun i y e=>?_),h.mem.slp,h.mem.cel⟩,fun w2 j=>?_⟩
 ·rcases c with l|l
  ·omega
  rw[e];exact l
 have q:Fr (fun i=>s.own L i∨i=r) w w2:=(d.mono (fun i _ e=>Or.inr e)).trans (j.mono (fun i _ e=>Or.inl e))
 obtain⟨w1,u,v⟩:=q.split
 exact m w1 w2 (h.box w1 u) v (j.block r (uX f d.size) g)
theorem Zi7 {α:Type}(l:List α)(j:Nat)(c:α)(h:j<l.length):jO l j [c]=l.set j c:=by
 unfold jO
 rw[List.set_eq_take_append_cons_drop,tA h]
 simp
end
def atA (A:Option Addr) (i:Nat):Value:=.pointer (A.map (·.add i))
section
variable {P:Program} {o:Oper} {ρ:Operand→Value} {w:World} {t e:TypeId} {x ix:Operand} {k:IntKind} {xs:List Nat}
theorem Zlh {A:Option Addr}{len cap i:Nat}(hA:A≠none)(h:i<len)(c:o.op=Op.indexAddr t x ix:=by kernel_rfl)(d:P.underlying t=some (.slice e):=by kernel_rfl)(f:(P.info? e).map (fun i=>i.size)=some 1:=by kernel_rfl)(g:ρ x=.slice A len cap:=by kernel_rfl)(hi:ρ ix=.int .i64 (i:Int):=by kernel_rfl):(execOp ρ o).run P w=.ok (.value (atA A i)) w:=by
 obtain⟨j,b,l⟩:=uV.1 f
 obtain⟨a,rfl⟩:∃ a,A=some a:=by cases A;exact absurd rfl hA;exact⟨_,rfl⟩
 have m:(0:Int)≤(i:Int)∧(i:Int)<(len:Int):=by omega
 simp[execOp,c,Instr.indexAt,asIntOf,underlying,d,g,hi,h,sizeOf,typeInfo,b,l,Result.andThen,atA]
theorem gT {g off:Nat}{c:Value}(b:w.cell? ⟨g,off,none⟩=some c)(d:o.op=Op.load t x:=by kernel_rfl)(f:ρ x=.pointer (some ⟨g,off,none⟩):=by kernel_rfl)(h:(teOf P t).map (fun e=>e.agg)=some false:=by kernel_rfl) :
 (execOp ρ o).run P w=.ok (.value c) w:=by
 obtain⟨e,i,j⟩:=uV.1 h
 have:=Zc5 (P:=P) (w:=w) i b j
 simp only[execOp,d,f,Sem.run_bind,this,Result.andThen_ok,Sem.run_pure]
end
def cX (ops:Array Oper) (i k:Nat):List Nat:=((ops.toList.drop i).take k).filterMap (fun o=>o.dst)
def fR (l:List Nat) (sl:SlL):SlL:=sl.filter (fun q => !(l.any (Nat.beq q.1)))
def Zgj (nb:BlL) (bl:BlL):BlL:=bl.filter (fun q => !(nb.any (fun p=>Nat.beq p.1 q.1)))
section
variable {N:Nat} {S0:Nat→Prop} {w0:World} {sl:SlL} {bl:BlL} {Φ Φ0:World→Prop} {P:Program} {ops:Array Oper} {Q:Exit→Act→World→Prop}
theorem xq {i:Nat}(k:Nat)(b:SlL)(a:BlL)(K:SXi P N S0 w0 ops Q (i+k) (ofL (b ++ fR (cX ops i k) sl) (a ++ Zgj a bl)) Φ)(h:Zd9 P N ops i k (ofL sl bl) (b ++ fR (cX ops i k) sl) (a ++ Zgj a bl)=some ((b ++ fR (cX ops i k) sl).map (fun q=>some q.2),(a ++ Zgj a bl).map (fun q=>some q.2)):=by kernel_rfl)(c:wfB (b ++ fR (cX ops i k) sl) (a ++ Zgj a bl)=true:=by kernel_rfl):SXi P N S0 w0 ops Q i (ofL sl bl) Φ:=ZjU k _ _ h c K
theorem xqf {n i:Nat}(k:Nat)(b:SlL)(a:BlL)(K:StI P N S0 w0 ops Φ0 Q n (i+k) (ofL (b ++ fR (cX ops i k) sl) a) Φ)(h:Za8 P N ops k i (ofL sl bl) (b ++ fR (cX ops i k) sl)=some ((b ++ fR (cX ops i k) sl).map (fun q=>some q.2),iJ a):=by kernel_rfl)(c:Nat.ble (i+k) n=true:=by kernel_rfl):StI P N S0 w0 ops Φ0 Q n i (ofL sl bl) Φ:=ZgN k _ _ h c K
theorem xqg {n i:Nat}(k:Nat)(a:SlL)(K:StI P N S0 w0 ops Φ0 Q n (i+k) (ofL (a ++ fR (cX ops i k) sl) bl) Φ)(h:Za8 P N ops k i (ofL sl bl) (a ++ fR (cX ops i k) sl)=some ((a ++ fR (cX ops i k) sl).map (fun q=>some q.2),iJ bl):=by kernel_rfl)(b:Nat.ble (i+k) n=true:=by kernel_rfl):StI P N S0 w0 ops Φ0 Q n i (ofL sl bl) Φ:=ZgN k _ _ h b K
theorem xqc {i:Nat}(f:FuncId)(a:List Value)(d:Nat){α:Type}(b:α→Value)(φ:α→World→Prop)(e:∀ w,Fr S0 w0 w→Φ w→Calls P f a.toArray w (wS b φ w))(K:∀ x,SXi P N S0 w0 ops Q (i+1) (ofL ((d,.v (b x)) :: sl) bl) (fun w=>Φ w∧φ x w))(c:Nat.blt i ops.size=true:=by kernel_rfl)(h:kX P N ops (opAt ops i) (ofL sl bl)=some (f,a,d):=by kernel_rfl):SXi P N S0 w0 ops Q i (ofL sl bl) Φ:=Zh7 f a d b φ c h e K
theorem xqd {n i:Nat}(f:FuncId)(a:List Value)(d:Nat){α:Type}[g:Nonempty α](b:α→Value)(φ:α→World→Prop)(c:∀ w,Fr S0 w0 w→Φ w→Calls P f a.toArray w (wS b φ w))(K:∀ x,StI P N S0 w0 ops Φ0 Q n (i+1) (ofL ((d,.v (b x)) :: sl) bl) (fun w=>Φ w∧φ x w))(hi:Nat.blt i n=true:=by kernel_rfl)(e:cls (opAt ops i).op=2:=by kernel_rfl)(h:kX P N ops (opAt ops i) (ofL sl bl)=some (f,a,d):=by kernel_rfl):StI P N S0 w0 ops Φ0 Q n i (ofL sl bl) Φ:=Zh9 f a d b φ hi e h c K
theorem xqk {i:Nat}(d:Nat)(y:Value)(a:∀ w,Fr S0 w0 w→Φ w→(execOp (ofL sl bl).rho (opAt ops i)).run P w=.ok (.value y) w)(K:SXi P N S0 w0 ops Q (i+1) (ofL ((d,.v y) :: sl) bl) Φ)(hi:Nat.blt i ops.size=true:=by kernel_rfl)(b:lF (opAt ops i).op=true:=by kernel_rfl)(c:(ofL sl bl).wantB ops (opAt ops i)=some true:=by kernel_rfl)(e:(opAt ops i).op.operands.toList.all (ofL sl bl).vB=true:=by kernel_rfl)(f:(opAt ops i).dst=some d:=by kernel_rfl)(g:Nat.blt d N=true:=by kernel_rfl):SXi P N S0 w0 ops Q i (ofL sl bl) Φ :=
 Zib d y hi b c e f g a K
theorem xqj {n i:Nat}(d:Nat)(y:Value)(a:∀ w,Φ0 w→(execOp (ofL sl bl).rho (opAt ops i)).run P w=.ok (.value y) w)(K:StI P N S0 w0 ops Φ0 Q n (i+1) (ofL ((d,.v y) :: sl) bl) Φ)(hi:Nat.blt i n=true:=by kernel_rfl)(b:aZ (opAt ops i).op=true:=by kernel_rfl)(c:(ofL sl bl).wantB ops (opAt ops i)=some true:=by kernel_rfl)(e:(opAt ops i).op.operands.toList.all (ofL sl bl).vB=true:=by kernel_rfl)(f:(opAt ops i).dst=some d:=by kernel_rfl)(g:Nat.blt d N=true:=by kernel_rfl):StI P N S0 w0 ops Φ0 Q n i (ofL sl bl) Φ :=
 Zia d y hi b c e f g a K
end
section
variable {P:Program} {N:Nat} {S0:Nat→Prop} {w0:World} {ops:Array Oper} {Q:Exit→Act→World→Prop} {s:St} {Φ:World→Prop}
end
section
variable {P:Program} {o:Oper} {ρ:Operand→Value} {w:World} {t e:TypeId} {x:Operand}
end
/-! ### adding a number to a row from a place on -/
instance {b:Nat} {A A2:Option Addr}:Nonempty {q:ShN // ∀ a,q.1=some a→b<a.block∨q.1=A∨q.1=A2}:=⟨⟨(none,0,0),fun a h=>by cases h⟩⟩
section
variable {P:Program} {o:Oper} {ρ:Operand→Value} {w:World}
end
section
variable {P:Program} {N:Nat} {S0:Nat→Prop} {w0:World} {ops:Array Oper} {Q:Exit→Act→World→Prop} {s:St} {Φ:World→Prop}
end
end Go.Proofs.YtoanifijmlgcgaaGreatDoor
namespace Go.Proofs.YtoanifijmlgcgaaGreatDoor
open Go.RowKit Go.Sort
end Go.Proofs.YtoanifijmlgcgaaGreatDoor
namespace Go.Proofs.YtoanifijmlgcgaaGreatDoor
open Go.RowKit Go.Sort
end Go.Proofs.YtoanifijmlgcgaaGreatDoor
namespace Go.Proofs.YtoanifijmlgcgaaGreatDoor
open Go.RowKit Go.Sort
theorem TBuf.bytes {w:World}{A:Option Addr}{cap:Nat}{l:List UInt8}(h:TBuf w A cap l)(c:l≠[]):∃ b,A=some ⟨b,0,none⟩∧∀ j (a:j<l.length),w.cell? ((⟨b,0,none⟩:Addr).add j)=some (.int .u8 (l[j].toNat:Int)):=by
 rcases h with ⟨_,h,_⟩|⟨b,rfl,d,_⟩
 ·simp[nats] at h;exact absurd h c
 refine⟨b,rfl,fun j a=>?_⟩
 have:=d.cell (i:=j) (by rw[ZaU];exact a)
 rw[Lib.add_plain,vO,this]
 simp[nats,a]
end Go.Proofs.YtoanifijmlgcgaaGreatDoor
namespace Go.Proofs.YtoanifijmlgcgaaGreatDoor
open Go.RowKit
def lZ (w:World) (A:Option Addr) (zs:List Int):Prop :=
 zs≠[]→∃ b off,A=some ⟨b,off,none⟩∧b<w.heap.size∧∀ i,i<zs.length→w.cell? ⟨b,off+i,none⟩=some (.int .i64 (zs.getD i 0))
theorem lZ.ext {w w':World}{A:Option Addr}{zs:List Int}(h:lZ w A zs)(d:Ext w w'):lZ w' A zs:=fun c=>by
 obtain⟨b,a,rfl,e,g⟩:=h c
 exact⟨b,a,rfl,uX e d.size,fun i j=>(d.cell (p:=⟨b,a+i,none⟩) e (fun f=>f)).trans (g i j)⟩
def Zns (zs:List Int):Prop:=∀ z∈zs,-9223372036854775808≤z∧z≤9223372036854775807
section
variable {N:Nat} {S0:Nat→Prop} {w0:World} {s:St} {Φ Ψ:World→Prop} {L:Nat→Nat} {a:Act} {w:World} {P:Program} {ops:Array Oper} {Q:Exit→Act→World→Prop}
end
def frz (b g:Nat):AV→AV
 | .v x=>.v x
 | .p b' off=>bif Nat.beq b' b then .v (.pointer (some ⟨g,off,none⟩)) else .p b' off
theorem Zli (L:Nat→Nat)(b:Nat)(x:AV):(frz b (L b) x).conc L=x.conc L:=by
 cases x with
 | v x=>rfl
 | p b' off =>
  show (bif Nat.beq b' b then AV.v (.pointer (some ⟨L b,off,none⟩)) else .p b' off).conc L=_
  cases h:Nat.beq b' b with
  | true =>
   have e:=Nat.eq_of_beq_eq_true h
   subst e
   rfl
  | false=>rfl
section
variable {N:Nat} {S0:Nat→Prop} {w0:World} {s:St} {Φ:World→Prop} {P:Program} {Q:Exit→Act→World→Prop}
end
section
variable {N:Nat} {S0:Nat→Prop} {w0:World} {s:St} {Φ Ψ:World→Prop} {L:Nat→Nat} {a:Act} {w:World} {P:Program} {ops:Array Oper} {Q:Exit→Act→World→Prop}
theorem Zms {i:Nat}{t bt:TypeId}{x y:Operand}{cs:List Value}(b off:Nat)(v:Value)(Ψ:World→Prop)(q:∀ w,Φ w→Blk bt w b cs.toArray)(m:off<cs.length)(f:w0.heap.size≤b∨S0 b)(u:v.oneCell'=true)(l:v.cells.toList=[v])(z:∀ w w',Φ w→Fr (fun i=>i=b) w w'→Ψ w')(K:SXi P N S0 w0 ops Q (i+1) s (fun w=>Ψ w∧Blk bt w b (cs.set off v).toArray))(n:Nat.blt i ops.size=true:=by kernel_rfl)(A:s.wantB ops (opAt ops i)=some true:=by kernel_rfl)(B:(opAt ops i).op=.store t x y:=by kernel_rfl)(C:(opAt ops i).dst=none:=by kernel_rfl)(D:(teOf P t).map (fun e=>e.size)=some 1:=by kernel_rfl)(E:s.eval x=some (.v (.pointer (some ⟨b,off,none⟩))):=by kernel_rfl)(F:s.eval y=some (.v v):=by kernel_rfl):SXi P N S0 w0 ops Q i s Φ:=by
 unfold SXi
 rw[jS n]
 intro L a w d
 refine wpList_step fun X G=>?_
 rw[tA (d.want A)]
 obtain⟨Y,o,H⟩:=uV.1 D
 have r:=q w d.box.self
 obtain⟨w',I,h,J⟩:=Zc6 (P:=P) o (g:=b) (bt:=bt) (off:=off) (cur:=cs) (v:=v) r (by rw[l];exact H.symm) (by rw[l];simp;omega) (fun c p=>by rw[l] at p;simp at p;rw[p];exact u)
 rw[l,Zi7 _ _ _ m] at h
 unfold Oper.wp
 have M:=d.eval E
 have O:=d.eval F
 have k:(execOp a.eval (opAt ops i)).run P w=.ok .skip w':=by simp only[execOp,B,Sem.run_bind,M,O,AV.conc,I,Result.andThen_ok,Sem.run_pure]
 rw[k,Oper.upon_skip,C]
 refine G _ _ (K L _ _ (d.eff J (d.notOwn (c:=cs[off]'m) (j:=off) (fun w R=>by have:=(q w R).cell off;rw[this];simp[m])) f r.lt (fun S T U V W=>⟨z S T U V,W.trans h⟩)))
end
section
variable {N:Nat} {S0:Nat→Prop} {w0:World} {s:St} {Φ Ψ:World→Prop} {L:Nat→Nat} {a:Act} {w:World} {P:Program} {ops:Array Oper} {Q:Exit→Act→World→Prop}
end
abbrev nth (zs:List Int) (i:Nat):Int:=zs[i]?.getD 0
def IRow (w:World) (A:Option Addr) (zs:List Int):Prop:=∀ i,i<zs.length→∃ b off,A=some ⟨b,off,none⟩∧b<w.heap.size∧w.cell? ⟨b,off+i,none⟩=some (.int .i64 (nth zs i))
theorem IRow.ext {w w':World}{A:Option Addr}{zs:List Int}(h:IRow w A zs)(c:Ext w w'):IRow w' A zs:=fun i g=>by
 obtain⟨b,a,e,d,j⟩:=h i g
 exact⟨b,a,e,uX d c.size,(c.cell (p:=⟨b,a+i,none⟩) d (fun f=>f)).trans j⟩
def sumT (zs:List Int):Nat→Int
 | 0=>0
 | k+1=>sumT zs k+nth zs k
def cY (zs:List Int):Prop:=zs.length≤6∧∀ i,0≤nth zs i∧nth zs i≤1048576
theorem Ze8 {zs:List Int}(h:∀ i,0≤nth zs i∧nth zs i≤1048576)(k:Nat):0≤sumT zs k∧sumT zs k≤1048576*k:=by
 induction k with
 | zero=>simp[sumT]
 | succ k ih=>have:=h k;unfold sumT;omega
def cmpF (a b:Int):Int:=if a<b then -1 else if b<a then 1 else 0
def ordL (zs ys:List Int):Nat→Int
 | 0=>0
 | k+1=>if nth zs k=nth ys k then ordL zs ys k else cmpF (nth ys k) (nth zs k)
def ordF (zs ys:List Int):Int:=if sumT zs zs.length=sumT ys ys.length then ordL zs ys zs.length else cmpF (sumT zs zs.length) (sumT ys ys.length)
def degT (zs:List Int):Nat→Int
 | 0=>0
 | k+1=>if degT zs k<0 then -1 else if nth zs k<0∨24-degT zs k<nth zs k then -1 else degT zs k+nth zs k
def degF (zs:List Int):Int:=if 6<zs.length then -1 else degT zs zs.length
theorem Zj7 (a:Int)(w:World):yA 341 #[.int .i64 a] w fun e w'=>e=.returned (.bool false)∧w'=w:=by
 go_enter Tryz.func341,Tryz.ntmps341
 go_wp2
 go_ret
 exact⟨by simp,rfl⟩
theorem ZaX (a b:Int)(w:World):yA 315 #[.int .i64 a,.int .i64 b] w fun e w'=>e=.returned (.int .i64 (cmpF a b))∧w'=w:=by
 obtain⟨r,c⟩:=yE (cmpF a b)
 rw[c]
 have d:=zh c
 clear c
 go_enter Tryz.func315,Tryz.ntmps315
 go_wp2_with (go_at_call 341;refine (Zj7 _ _).mono ?_;rintro e w' ⟨rfl,rfl⟩)
 all_goals
  go_ret
  have h:=d.out
  unfold cmpF at h
  (repeat' split at h)<;>first | (subst h;exact⟨rfl,rfl⟩)|omega
theorem Zi8 (A:Option Addr)(c:Nat)(zs:List Int)(w:World)(x:IRow w A zs)(L:zs.length≤9223372036854775807):yA 281 #[.slice A zs.length c] w fun e w'=>e=.returned (.int .i64 (degF zs))∧w'=w:=by
 obtain⟨n,y⟩:=yE zs.length
 unfold degF
 have D:=zh x
 have E:=zh y
 rw[y]
 clear x
 go_enter Tryz.func281,Tryz.ntmps281
 by_cases B:6<n
 ·rw[tA B]
  have i:(6:Int)<(n:Int):=by omega
  go_wp2
  go_ret
  exact⟨rfl,rfl⟩
 rw[vP B]
 have i:(n:Int)≤6:=by omega
 go_wp2
 go_loop [3,11] (fun F j=>∃ (k:Nat),k≤n∧j=.int .i64 (k:Int)∧F=.int .i64 (degT zs k)∧0≤degT zs k∧degT zs k≤24) (fun _ v=>n-(intOf v).toNat)
 case atStart=>exact⟨0,by omega,rfl,rfl,by simp[degT],by simp[degT]⟩
 case round =>
  obtain⟨k,M,rfl,rfl,G,l⟩:=hrel
  obtain⟨d,o⟩:=yE (degT zs k)
  rw[o] at G l ⊢
  by_cases p:k<n
  ·obtain⟨b,H,rfl,_,I⟩:=D.out k (by rw[E.out];exact p)
   obtain⟨z,q⟩:=yE (nth zs k)
   rw[q] at I
   have a:Hid (degT zs (k+1)=if d<0 then -1 else if z<0∨24-d<z then -1 else d+z):=by
    unfold Hid;rw[←o,← q];rfl
   have g:¬ d<0:=by omega
   have J:(0:Int)≤(k:Int):=by omega
   have K:(k:Int)<(n:Int):=by omega
   have N:IntKind.i64.wrap (24-d)=24-d:=IntWalk.i64_in _ (by omega)
   by_cases f:z<0∨24-d<z
   ·have C:Hid (degT zs n = -1):=by
     have h:=a.out
     rw[vP g,tA f] at h
     have r:∀ m,degT zs (k+1+m) = -1:=fun m=>by
      induction m with
      | zero=>exact h
      | succ m ih=>show (if degT zs (k+1+m)<0 then _ else _)=_;rw[ih];rfl
     have:=r (n-(k+1))
     rwa [show k+1+(n-(k+1))=n by omega] at this
    by_cases s:z<0
    ·go_wp2
     go_ret
     exact⟨by rw[C.out];rfl,rfl⟩
    have t:24-d<z:=by omega
    go_wp2
    go_ret
    exact⟨by rw[C.out];rfl,rfl⟩
   have O:IntKind.i64.wrap (d+z)=d+z:=IntWalk.i64_in _ (by omega)
   have s:¬ z<0:=by omega
   have t:¬ 24-d<z:=by omega
   have u:Hid (degT zs (k+1)=d+z):=by
    have h:=a.out
    rwa [vP g,vP f] at h
   clear o q a f
   go_wp2
   go_round
   case rel=>exact⟨k+1,by omega,by go_num,by rw[u.out],by rw[u.out];omega,by rw[u.out];omega⟩
   case measure=>simp[intOf];omega
  obtain rfl:k=n:=by omega
  go_wp2
  go_ret
  exact⟨rfl,rfl⟩
theorem Zeq (A:Option Addr)(c:Nat)(zs:List Int)(w:World)(a:IRow w A zs)(b:zs.length≤9223372036854775807):yA 238 #[.slice A zs.length c] w fun e w'=>e=.returned (.bool (decide (0≤degF zs)))∧w'=w:=by
 have H:=zh (Zi8 A c zs w a b)
 clear a
 go_enter Tryz.func238,Tryz.ntmps238
 go_wp2_with fail
 refine H.out.mono ?_
 rintro e d ⟨rfl,rfl⟩
 go_wp2
 go_ret
 exact⟨rfl,rfl⟩
theorem ZfF (A B:Option Addr)(c c2:Nat)(zs a:List Int)(w:World)(Y:IRow w A zs)(Z:IRow w B a)(S:zs.length=a.length)(u:cY zs)(x:cY a) :
 yA 280 #[.slice A zs.length c,.slice B a.length c2] w fun e w'=>e=.returned (.int .i64 (ordF zs a))∧Ext w w':=by
 obtain⟨n,H⟩:=yE zs.length
 have h6:=u.1
 have HA:=zh Y
 have HB:=zh Z
 have T:=zh H
 have HL:=zh S
 have HZ:=zh u
 have HY:=zh x
 obtain⟨r,U⟩:=yE (ordF zs a)
 have E:Hid (r=if sumT zs n=sumT a n then ordL zs a n else cmpF (sumT zs n) (sumT a n)):=by
  unfold Hid;rw[←U];unfold ordF;rw[←S,H]
 rw[U,← S,H]
 rw[H] at h6
 clear U
 clear Y Z H S u x
 go_enter Tryz.func280,Tryz.ntmps280
 go_wp2
 go_loop [5,6,12] (fun v5 v6 V=>∃ (k:Nat),k≤n∧V=.int .i64 (k:Int)∧v5=.int .i64 (sumT zs k)∧v6=.int .i64 (sumT a k)) (fun _ _ v=>n-(intOf v).toNat)
 case atStart=>exact⟨0,by omega,rfl,rfl,rfl⟩
 case round =>
  obtain⟨k,hk,rfl,h5,I⟩:=hrel
  obtain⟨s,J⟩:=yE (sumT zs k)
  obtain⟨t,K⟩:=yE (sumT a k)
  have s1:=Ze8 HZ.out.2 k
  have t1:=Ze8 HY.out.2 k
  rw[J] at s1 h5
  rw[K] at t1 I
  subst h5 I
  by_cases L:k<n
  ·obtain⟨b,l,rfl,_,o⟩:=HA.out k (by rw[T.out];exact L)
   obtain⟨M,f,rfl,_,d⟩:=HB.out k (by rw[←HL.out,T.out];exact L)
   have z1:=HZ.out.2 k
   have y1:=HY.out.2 k
   have HS:Hid (sumT zs (k+1)=s+nth zs k):=by unfold Hid;rw[←J];rfl
   have HT:Hid (sumT a (k+1)=t+nth a k):=by unfold Hid;rw[←K];rfl
   obtain⟨z,u⟩:=yE (nth zs k)
   obtain⟨y,x⟩:=yE (nth a k)
   rw[u] at o z1 HS
   rw[x] at d y1 HT
   have a0:(0:Int)≤(k:Int):=by omega
   have b0:(k:Int)<(n:Int):=by omega
   have w1:IntKind.i64.wrap (s+z)=s+z:=IntWalk.i64_in _ (by omega)
   have w2:IntKind.i64.wrap (t+y)=t+y:=IntWalk.i64_in _ (by omega)
   clear J K u x
   go_wp2
   go_round
   case rel=>exact⟨k+1,by omega,by go_num,by rw[HS.out],by rw[HT.out]⟩
   case measure=>simp[intOf];omega
  obtain rfl:k=n:=by omega
  have g:Hid (sumT zs k=s∧sumT a k=t):=⟨J,K⟩
  clear J K
  by_cases p:s=t
  ·have N:(s != t)=false:=by simp;exact p
   have c0:(k:Int)≤6:=by omega
   go_wp2
   go_loopw [9] (fun v9 wr=>∃ (m:Nat),m≤k∧v9=.int .i64 ((m:Int)-1)∧Hid (ordL zs a k=ordL zs a m)∧Hid (Ext w wr)) (fun v _=>(intOf v+1).toNat)
   case atStart=>exact⟨k,uR _,rfl,rfl,Fr.refl _ _⟩
   case round =>
    obtain⟨m,hm,rfl,G,Q⟩:=hrel
    rcases m with _|j
    ·rw[show ((0:Nat):Int)-1 = -1 from rfl]
     have O:Hid (r=0):=by
      unfold Hid
      rw[E.out,tA (by rw[g.out.1,g.out.2];exact p),G.out];rfl
     clear hm G
     go_wp2
     go_ret
     exact⟨by rw[O.out];rfl,Q.out⟩
    rw[show ((j+1:Nat):Int)-1=(j:Int) by omega]
    obtain⟨b,l,rfl,hb,o⟩:=HA.out.ext Q.out j (by rw[T.out];omega)
    obtain⟨M,f,rfl,P,d⟩:=HB.out.ext Q.out j (by rw[←HL.out,T.out];omega)
    have i:Hid (ordL zs a (j+1)=if nth zs j=nth a j then ordL zs a j else cmpF (nth a j) (nth zs j)):=rfl
    obtain⟨z,u⟩:=yE (nth zs j)
    obtain⟨y,x⟩:=yE (nth a j)
    rw[u] at o i
    rw[x] at d i
    have d0:(0:Int)≤(j:Int):=by omega
    have e0:(j:Int)<(k:Int):=by omega
    clear u x
    by_cases q:z=y
    ·have C:(z != y)=false:=by simp;exact q
     have W:Hid (ordL zs a k=ordL zs a j):=by
      unfold Hid;rw[G.out,i.out,tA q]
     clear G i
     go_wp2
     go_region_held3 (fun w'=>w'.cell? ⟨b,l+j,none⟩=some (.int .i64 z)∧w'.cell? ⟨M,f+j,none⟩=some (.int .i64 y))
      (first|exact⟨o,d⟩)
      (first | (exact fun h=>h))
     have F:Hid (Ext w wr.drew):=Q.out.drew
     generalize wr.drew=wd at *
     clear o d hb P Q q C
     go_wp2
     go_roundw
     case rel=>exact⟨j,by omega,by go_num,W.out,F.out⟩
     case measure=>simp[intOf]
    have C:(z != y)=true:=by simp;exact q
    have O:Hid (r=cmpF y z):=by
     unfold Hid
     rw[E.out,tA (by rw[g.out.1,g.out.2];exact p),G.out,i.out,vP q]
    clear G i
    go_wp2
    go_region_held3 (fun w'=>w'.cell? ⟨b,l+j,none⟩=some (.int .i64 z)∧w'.cell? ⟨M,f+j,none⟩=some (.int .i64 y))
     (first|exact⟨o,d⟩)
     (first | (go_at_call 315;refine (ZaX _ _ _).mono ?_;rintro e w' ⟨rfl,rfl⟩))
    have R:wr.drew.cell? ⟨b,l+j,none⟩=some (.int .i64 z):=o
    have D:wr.drew.cell? ⟨M,f+j,none⟩=some (.int .i64 y):=d
    have F:Hid (Ext w wr.drew):=Q.out.drew
    generalize wr.drew=wd at *
    clear o d hb P Q
    have o:=R
    have d:=D
    clear R D
    go_wp2
    go_region_held3 (fun w'=>w'.cell? ⟨b,l+j,none⟩=some (.int .i64 z)∧w'.cell? ⟨M,f+j,none⟩=some (.int .i64 y))
     (first|exact⟨o,d⟩)
     (first | (go_at_call 315;refine (ZaX _ _ _).mono ?_;rintro e w' ⟨rfl,rfl⟩))
    have X:Hid (Ext w wd.drew):=F.out.drew
    generalize wd.drew=we at *
    clear o d
    go_wp2
    go_ret
    exact⟨by rw[O.out];rfl,X.out⟩
  have N:(s != t)=true:=by simp;exact p
  have O:Hid (r=cmpF s t):=by
   unfold Hid
   rw[E.out,vP (by rw[g.out.1,g.out.2];exact p),g.out.1,g.out.2]
  go_wp2_with (go_at_call 315;refine (ZaX _ _ _).mono ?_;rintro e w' ⟨rfl,rfl⟩)
  go_ret
  exact⟨by rw[O.out];rfl,Fr.refl _ _⟩
section
variable {N:Nat} {S0:Nat→Prop} {w0:World} {s:St} {Φ Ψ:World→Prop} {L:Nat→Nat} {a:Act} {w:World} {P:Program} {ops:Array Oper} {Q:Exit→Act→World→Prop}
theorem SXc.freezeN {c:Code}(b:Nat)(t:TypeId)(cs:List Value)(k:Nat→SlL)(j:BlL)(u:s.bl b=some (t,cs.map .v))(F:∀ g,(k g).map (fun q=>(s.sl q.1).map (frz b g))=(k g).map (fun q=>some q.2))(G:j.map (fun q=>s.bl q.1)=j.map (fun q=>some q.2))(H:j.all (fun q => !(Nat.beq q.1 b))=true)(I:∀ g,wfB (k g) j=true)(h:∀ g,(w0.heap.size≤g∨S0 g)→SXc P N S0 w0 Q c (ofL (k g) j) (fun w=>Φ w∧Blk t w g cs.toArray)):SXc P N S0 w0 Q c s Φ:=by
 intro L a w m
 refine h (L b) (m.mem.old b (by rw[u];rfl)) L a w ?_
 have n:=I (L b)
 unfold wfB at n
 rw[vG] at n
 have z:∀ i x,(ofL (k (L b)) j).bl i=some x→s.bl i=some x:=fun i x p=>gL (f:=fun q:Nat × TypeId×List AV=>s.bl q.1) (g:=fun q=>some q.2) G (lP p)
 have B:∀ i x,(ofL (k (L b)) j).bl i=some x→i≠b:=fun i x p e=>by
  have:=vC.1 H _ (lP p)
  simp[e] at this
 have l:∀ i,((ofL (k (L b)) j).bl i).isSome=true→(s.bl i).isSome=true∧i≠b:=fun i A=>by
  obtain⟨q,e⟩:=tS.1 A
  exact⟨by rw[z i q e];rfl,B i q e⟩
 have o:(s.bl b).isSome=true:=by rw[u];rfl
 have J:=m.mem.blk b t _ u
 refine⟨m.size,m.df,fun i x p=>?_,⟨fun c t cs e=>m.mem.blk c t cs (z c _ e),fun c d r K=>m.mem.inj c d (l c r).1 (l d K).1,fun c r=>m.mem.old c (l c r).1,m.mem.ext,fun i c C e=>?_,fun c t cs e x p=>⟨(m.mem.cel c t cs (z c _ e) x p).1,fun d C M=>?_⟩⟩,fun w' D=>⟨m.box w' (D.mono (fun i _ A=>?_)),?_⟩⟩
 ·have E:=gL (f:=fun q:Nat × AV=>(s.sl q.1).map (frz b (L b))) (g:=fun q=>some q.2) (F (L b)) (lP p)
  simp only at E
  obtain⟨y,O,e⟩:=uV.1 E
  have:=m.sl i y O
  rw[this,← e,Zli]
 ·exact vC.1 n.1 _ (lP e)
 ·have:=vC.1 (vC.1 n.2 _ (lP e)) x p
  rw[M] at this
  exact this
 ·obtain⟨c,r,e⟩:=A
  exact⟨c,(l c r).1,e⟩
 have:Blk t w (L b) cs.toArray:=by simpa [List.map_map,Function.comp_def,AV.conc] using J
 refine this.fr D fun⟨c,r,e⟩=>?_
 exact (l c r).2 (m.mem.inj c b (l c r).1 o e)
theorem Fr.row {w:World}{b:Nat}(cs:Array Value):Fr (fun i=>i=b) w (w.setRow b cs):=Fr.setRow (S:=fun i=>i=b) (Fr.refl _ w) (Or.inl rfl) cs
theorem Zlj {i d:Nat}{dT sT e bt:TypeId}{dx sx:Operand}{H:Option Addr}{n m dc sc:Nat}{cs:List Value}{zs:List Int}(b:Nat)(Ψ:World→Prop)(I:zs.length=m)(A:m≤n)(hn:n≤cs.length)(k:0<cs.length)(J:∀ w,Φ w→Blk bt w b cs.toArray)(Z:∀ w,Φ w→IRow w H zs)(l:w0.heap.size≤b∨S0 b)(hΨ:∀ w w',Φ w→Fr (fun i=>i=b) w w'→Blk bt w' b (zs.map (Value.int .i64) ++ cs.drop m).toArray→Ψ w')(K:SXi P N S0 w0 ops Q (i+1) s Ψ)(B:Nat.blt i ops.size=true:=by kernel_rfl)(M:(opAt ops i).guard=none:=by kernel_rfl)(O:(opAt ops i).op=.call { callee:=.builtin .copy,args:=#[dx,sx],argTypes:=#[dT,sT] }:=by kernel_rfl)(C:(opAt ops i).dst=some d:=by kernel_rfl)(hf:(s.sl d).isNone=true:=by kernel_rfl)(S:P.underlying dT=some (.slice e):=by kernel_rfl)(T:(P.info? e).map (·.size)=some 1:=by kernel_rfl)(hx:s.eval dx=some (.v (.slice (some ⟨b,0,none⟩) n dc)):=by kernel_rfl)(hy:s.eval sx=some (.v (.slice H m sc)):=by kernel_rfl):SXi P N S0 w0 ops Q i s Φ:=by
 unfold SXi
 rw[jS B]
 intro L a w g
 have U:=g.eval hx
 have V:=g.eval hy
 have u:=J w g.box.self
 have W:=Z w g.box.self
 have o:0<cs.length:=k
 have p:¬ s.own L b:=g.notOwn (c:=cs[0]'o) (j:=0) (fun w R=>by have:=(J w R).cell 0;rw[this];simp[o])
 have hsl:s.sl d=none:=by simpa using hf
 have fin:∀ (w':World) (z:Value),Fr (fun i=>i=b) w w'→Blk bt w' b (zs.map (Value.int .i64) ++ cs.drop m).toArray→wpList P ops Q ((ops.toList).drop (i+1)) (a.put (opAt ops i).dst z) w':=by
  intro w' z hF D
  have f:=g.eff hF p l u.lt (fun w1 w2 f y h3=>hΨ w1 w2 f y (h3.trans D))
  refine K L _ _ ⟨by rw[C];simp[Act.put,f.size],by rw[C];exact f.df,fun j x q=>?_,f.mem,f.box⟩
  have E:d≠j:=fun e=>by rw[e,q] at hsl;cases hsl
  have:=f.sl j x q
  rw[C]
  simp[Act.put,Array.getElem?_setIfInBounds_ne E,this]
 by_cases X:m=0
 ·have F:zs=[]:=sJ (by omega)
  refine wpList_copy_nothing M dx sx dT sT O e S T _ _ n dc m sc U V (by rw[X];exact Nat.zero_min _) ?_
  refine fin _ _ (Fr.refl _ _) ?_
  rw[F,X];exact u
 obtain⟨b2,r,rfl,_,_⟩:=W 0 (by omega)
 refine wpList_copy_own M dx sx dT sT O e S T b 0 n dc ⟨b2,r,none⟩ m sc U V cs.toArray bt u (zs.map (Value.int .i64)) (by rw[rW,I];exact (uY A).symm) (fun j v q=>?_) (by simp;omega) (fun v hv=>by
  obtain⟨z,_,rfl⟩:=rH.1 hv;rfl) ?_
 ·rw[List.getElem?_map] at q
  obtain⟨z,hz,rfl⟩:=uV.1 q
  have G:j<zs.length:=by
   rcases uZ j zs.length with h|h
   ·exact h
   rw[List.getElem?_eq_none h] at hz;cases hz
  obtain⟨b3,Y,t,_,hc⟩:=W j G
  injection t with t;injection t with t e4;subst t;subst e4
  rw[Lib.add_plain,hc,show nth zs j=z by rw[nth,hz];rfl]
 refine fin _ _ (Fr.row _) ?_
 have y:=setRow_heap w b cs.toArray ((cs.toArray.toList.take 0 ++ (zs.map (Value.int .i64) ++ cs.toArray.toList.drop (0+(zs.map (Value.int .i64)).length))).toArray) bt (0,0) u
 have e2:cs.toArray.toList.take 0 ++ (zs.map (Value.int .i64) ++ cs.toArray.toList.drop (0+(zs.map (Value.int .i64)).length))=zs.map (Value.int .i64) ++ cs.drop m:=by simp[I]
 rw[e2] at y ⊢
 exact y
theorem Zlk {zs:List Int}{m:Nat}(i:zs.length=m)(j:m≤6)(r:List Value):∃ k n o p q t:Int,zs.map (Value.int .i64) ++ ([Value.int .i64 0,.int .i64 0,.int .i64 0,.int .i64 0,.int .i64 0,.int .i64 0] ++ r).drop m=[.int .i64 k,.int .i64 n,.int .i64 o,.int .i64 p,.int .i64 q,.int .i64 t] ++ r:=by
 subst i
 match zs,j with
 | [],_=>exact⟨0,0,0,0,0,0,rfl⟩
 | [a],_=>exact⟨a,0,0,0,0,0,rfl⟩
 | [a,b],_=>exact⟨a,b,0,0,0,0,rfl⟩
 | [a,b,c],_=>exact⟨a,b,c,0,0,0,rfl⟩
 | [a,b,c,d],_=>exact⟨a,b,c,d,0,0,rfl⟩
 | [a,b,c,d,e],_=>exact⟨a,b,c,d,e,0,rfl⟩
 | [a,b,c,d,e,f],_=>exact⟨a,b,c,d,e,f,rfl⟩
 | a :: b :: c :: d :: e :: f :: g :: l,h=>exact absurd h (by simp)
end
section
variable {N:Nat} {S0:Nat→Prop} {w0:World} {s:St} {Φ Ψ:World→Prop} {L:Nat→Nat} {a:Act} {w:World} {P:Program} {ops:Array Oper} {Q:Exit→Act→World→Prop}
theorem Zmt {w:World}{base:Nat}{e:TypeId}{k n cap b:Nat}{cur:List Value}(f:Blk e w b cur.toArray)(g:base≤b)(c:cur.length=cap*k)(d:n≤cap)(h:cap≤maxLen):w.ownsRow base e k (.slice (some ⟨b,0,none⟩) n cap) n (cur.take (n*k)):=by
 have i:n*k≤cap*k:=uC k d
 exact⟨by rw[uL,c];omega,Or.inr ⟨b,cap,cur.toArray,rfl,g,f,d,h,by simpa using c,by simp⟩⟩
theorem Inv.eff2 (h:Inv N S0 w0 s Φ L a w){w':World}{r:Nat}(g:Fr (fun i=>i=r) w w')(n:¬ s.own L r)(d:w0.heap.size≤r∨S0 r)(o:∀ w1 w2,Fr S0 w0 w2→Φ w1→Fr (fun i=>i=r) w1 w2→(∀ j,j<w'.heap.size→¬ s.own L j→w2.heap[j]? = w'.heap[j]?)→Ψ w2):Inv N S0 w0 s Ψ L a w':=by
 refine⟨h.size,h.df,h.sl,⟨fun b t p e=>(h.mem.blk b t p e).fr g (fun q=>n ⟨b,by rw[e];rfl,q⟩),h.mem.inj,h.mem.old,h.mem.ext.next g (fun i u e=>?_),h.mem.slp,h.mem.cel⟩,fun w2 l=>?_⟩
 ·rcases d with f|f
  ·omega
  rw[e];exact f
 have m:Fr (fun i=>s.own L i∨i=r) w w2:=(g.mono (fun i _ e=>Or.inr e)).trans (l.mono (fun i _ e=>Or.inl e))
 obtain⟨w1,v,x⟩:=m.split
 refine o w1 w2 (h.mem.ext.next m (fun i u y=>?_)) (h.box w1 v) x (fun j z k=>l.block j z k)
 rcases y with ⟨c,A,e⟩|e
 ·rcases h.mem.old c A with f|f
  ·omega
  rw[←e];exact f
 rcases d with f|f
 ·omega
 rw[e];exact f
theorem Zj8 {i d k n m cap bytes:Nat}{t e:TypeId}{s0 x:Operand}{cur news:List Value}{z:Value}(b M c2:Nat)(Ψ:World→Prop)(hO:∀ w,Φ w→Blk e w b cur.toArray)(hX:∀ w,Φ w→Blk e w M news.toArray)(hl:news.length=m*k)(hk:0<k)(hz:z.cells.size=k)(A:cur.length=cap*k)(hn:n≤cap)(B:cap≤maxLen)(l:0<cur.length)(e0:0<n+m)(hb:w0.heap.size≤b)(h1:∀ u∈news,u.oneCell'=true)(O:n+m≤maxLen)(f:(n+m)*bytes≤140737488355328)(hΨ:∀ w w',Fr S0 w0 w'→Φ w→Fr (fun i=>i=b) w w'→Ψ w')(K:∀ (b' cap':Nat) (cur':List Value),w0.heap.size≤b'→cur'.length=cap'*k→n+m≤cap'→cap'≤maxLen→cur'.take ((n+m)*k)=cur.take (n*k) ++ news→0<cur'.length→SXi P N S0 w0 ops Q (i+1) (s.put d (.v (.slice (some ⟨b',0,none⟩) (n+m) cap'))) (fun w=>Ψ w∧Blk e w b' cur'.toArray))(S:Nat.blt i ops.size=true:=by kernel_rfl)(hw:s.wantB ops (opAt ops i)=some true:=by kernel_rfl)(hv:(opAt ops i).op.operands.toList.all s.vB=true:=by kernel_rfl)(ho:(opAt ops i).op=.call { callee:=.builtin .append,args:=#[s0,x],argTypes:=#[t,t] }:=by kernel_rfl)(hd:(opAt ops i).dst=some d:=by kernel_rfl)(hN:Nat.blt d N=true:=by kernel_rfl)(ht:P.underlying t=some (.slice e):=by kernel_rfl)(r:(P.info? e).map (fun i=>(i.zero,i.size,i.bytes))=some (some z,k,bytes):=by kernel_rfl)(hs:s.rho s0=.slice (some ⟨b,0,none⟩) n cap:=by kernel_rfl)(hx:s.rho x=.slice (some ⟨M,0,none⟩) m c2:=by kernel_rfl):SXi P N S0 w0 ops Q i s Φ:=by
 unfold SXi
 rw[jS S]
 intro L a w g
 refine wpList_step fun K' hK=>?_
 rw[tA (g.want hw)]
 unfold Oper.wp
 have T:lF (opAt ops i).op=true:=by rw[ho];rfl
 rw[g.exec T hv]
 obtain⟨U,C,D⟩:=uV.1 r
 injection D with hz0 D
 injection D with hsize hby
 have hB:=hO w g.box.self
 have V:=hX w g.box.self
 have o:¬ s.own L b:=g.notOwn (c:=cur[0]'l) (j:=0) (fun w R=>by have:=(hO w R).cell 0;rw[this];simp[l])
 obtain⟨v',w',E,W,hg,d0,p⟩:=run_append_own_at (P:=P) (w:=w) w0.heap.size t (opAt ops i).type e U z k bytes ht C hz0 hsize hby hz hk (.slice (some ⟨b,0,none⟩) n cap) n (cur.take (n*k)) (Zmt hB hb A hn B) ⟨M,0,none⟩ m c2 news hl
  (fun j u hj=>by rw[Lib.add_plain,vO,V.cell];simpa using hj) h1 O f g.mem.ext.size
 have y:(execOp s.rho (opAt ops i)).run P w=.ok (.value v') w':=by simp[execOp,ho,resolve,invoke,builtin,hs,hx,E,Result.andThen]
 rw[y,Oper.upon_value,hd]
 obtain⟨F,W⟩:=W
 rcases W with ⟨rfl,h0⟩|⟨b',cap',cur',rfl,X,hh,Y,Z,a0,G⟩
 ·omega
 have H:Fr (fun i=>i=b) w w':=(Fr.ofGrown hg).mono (fun i _ h=>by
  simp only[Value.ownBlock,sC] at h;exact h.symm)
 have I:Blk e w' b' cur'.toList.toArray:=by rw[Array.toArray_toList];exact hh
 have b0:=K b' cap' cur'.toList X (by simpa using a0) Y Z (by simpa using G) (by
  have h3:0<(n+m)*k:=rQ (by omega) hk
  have h4:(cur'.toList.take ((n+m)*k)).length=(n+m)*k:=by rw[G];exact F
  rw[uL] at h4
  omega)
 have h0:=g.app0 (d:=d) (vK hN) (al_v (s:=s) (.slice (some ⟨b',0,none⟩) (n+m) cap'))
 have f0:Fr S0 w0 w':=g.mem.ext.next H (fun i g0 e=>by omega)
 simp only[Value.ownBlock,sC] at p
 have c0:¬ s.own L b':=by
  rcases p with rfl|rfl
  ·exact o
  rintro⟨c,hc,e⟩
  obtain⟨q,eq⟩:=tS.1 hc
  have:=(g.mem.blk c q.1 q.2 eq).lt
  omega
 have J:b'<w'.heap.size:=I.lt
 exact hK _ _ (b0 L _ _ (h0.eff2 H o (Or.inl hb) (fun w1 w2 D h3 h4 h5=>⟨hΨ w1 w2 D h3 h4,(h5 b' J c0).trans I⟩)))
theorem Znt {i d k cap bytes:Nat}{t e:TypeId}{kl kc:IntKind}{l c:Operand}{z:Value}(n:cap≤maxLen)(f:bytes*cap≤281474976710656)(K:∀ (b:Nat) (cur:List Value),w0.heap.size≤b→cur.length=cap*k→SXi P N S0 w0 ops Q (i+1) (s.put d (.v (.slice (some ⟨b,0,none⟩) 0 cap))) (fun w=>Φ w∧Blk e w b cur.toArray))(u:Nat.blt i ops.size=true:=by kernel_rfl)(I:s.wantB ops (opAt ops i)=some true:=by kernel_rfl)(J:(opAt ops i).op.operands.toList.all s.vB=true:=by kernel_rfl)(E:(opAt ops i).op=Op.makeSlice t l c:=by kernel_rfl)(M:(opAt ops i).dst=some d:=by kernel_rfl)(O:Nat.blt d N=true:=by kernel_rfl)(S:P.underlying t=some (.slice e):=by kernel_rfl)(j:(P.info? e).map (fun i=>(i.zero,i.size,i.bytes))=some (some z,k,bytes):=by kernel_rfl)(T:s.rho l=.int kl 0:=by kernel_rfl)(U:s.rho c=.int kc cap:=by kernel_rfl):SXi P N S0 w0 ops Q i s Φ:=by
 unfold SXi
 rw[jS u]
 intro L a w o
 refine wpList_step fun K' V=>?_
 rw[tA (o.want I)]
 unfold Oper.wp
 have x:lF (opAt ops i).op=true:=by rw[E];rfl
 rw[o.exec x J]
 obtain⟨y,p,A⟩:=uV.1 j
 injection A with hz0 A
 injection A with hsize hby
 obtain⟨w',r,B,W⟩:=run_make_own (P:=P) (w:=w) w.heap.size t e y z k S p hz0 hsize kl kc cap (by rw[hby];exact f) n (uR _)
 have m:(execOp s.rho (opAt ops i)).run P w=.ok (.value (.slice (some ⟨w.heap.size,0,none⟩) 0 cap)) w':=by simp[execOp,E,T,U,r,Result.andThen]
 rw[m,Oper.upon_value,M]
 obtain⟨F,B⟩:=B
 rcases B with ⟨h0,_⟩|⟨b',G,g,X,Y,Z,a0,b0,C,c0⟩
 ·cases h0
 injection X with e1 _ e3
 injection e1 with e1
 injection e1 with e1
 subst e1 e3
 have R:Ext w w':=(Fr.ofGrown W).mono (fun i _ h=>by cases h)
 have D:Blk e w' w.heap.size g.toList.toArray:=by rw[Array.toArray_toList];exact Z
 have h0:=o.app0 (d:=d) (vK O) (al_v (s:=s) (.slice (some ⟨w.heap.size,0,none⟩) 0 cap))
 refine V _ _ (K w.heap.size g.toList o.mem.ext.size (by simpa using C) L _ _ ⟨h0.size,h0.df,h0.sl,⟨fun b t cs e=>(h0.mem.blk b t cs e).ext R,h0.mem.inj,h0.mem.old,h0.mem.ext.ext R,h0.mem.slp,h0.mem.cel⟩,fun w2 H=>⟨h0.box.ext R w2 H,?_⟩⟩)
 refine D.fr H fun⟨b,hb,eb⟩=>?_
 obtain⟨q,eq⟩:=tS.1 hb
 have:=(o.mem.blk b q.1 q.2 eq).lt
 omega
end
end Go.Proofs.YtoanifijmlgcgaaGreatDoor
namespace Go.Proofs.YtoanifijmlgcgaaGreatDoor
open Go.RowKit Go.Lib
abbrev WrAt (lo b:Nat) (p:Value) (bs:List Value) (w:World):Prop:=Lib.BuilderAt 103 5 lo b p bs w
def WrIs (lo b:Nat) (l:List UInt8) (w:World):Prop:=∃ p,(p=.pointer none∨p=.pointer (some ⟨b,0,none⟩))∧WrAt lo b p (Lib.byteCells l) w
def IsU8 (w:World) (i:Nat):Prop:=∃ cs f,w.heap[i]? = some (.cells cs 5 f)
def WrFr (lo b:Nat) (w w':World):Prop:=Fr (fun i=>i=b∨(lo≤i∧IsU8 w i)) w w'
theorem WrFr.refl (lo b:Nat)(w:World):WrFr lo b w w:=Fr.refl _ _
theorem WrFr.back {lo b:Nat}{w w':World}(h:WrFr lo b w w'){i:Nat}(hi:i<w.heap.size)(a:lo≤i)(d:IsU8 w' i):i=b∨(lo≤i∧IsU8 w i):=by
 by_cases c:i=b∨(lo≤i∧IsU8 w i)
 ·exact c
 obtain⟨e,f,g⟩:=d
 exact Or.inr ⟨a,e,f,(h.block i hi c).symm.trans g⟩
theorem WrFr.trans {lo b:Nat}{w w' w'':World}(h:WrFr lo b w w')(k:WrFr lo b w' w''):WrFr lo b w w'' :=
 Fr.next h k (fun _ c d=>d.elim Or.inl (fun a=>h.back c a.1 a.2))
theorem WrFr.old {b:Nat}{a w w':World}(Q:Ext a w)(d:a.heap.size≤b)(h:WrFr a.heap.size b w w'):Ext a w' :=
 Fr.next Q h (fun i f c=>by rcases c with e|⟨e,_⟩<;>omega)
theorem Ze9 (b:Nat)(w:World)(d:w.cell? ⟨b,0,none⟩=some (.pointer (some ⟨b,0,none⟩))) :
 yA 235 #[.pointer (some ⟨b,0,none⟩)] w fun e w'=>e=.returned (.tuple #[])∧w'=w:=by
 obtain⟨j,a,c⟩:=uV.1 (show (Tryz.prog.info? 101).map (·.size)=some 2 by kernel_rfl)
 go_enter Tryz.func235,Tryz.ntmps235
 go_wp2
 rw[Lib.run_neq_ptr_same w _ Tryz.underlying98 a]
 go_wp2
 go_end0
 exact⟨rfl,rfl⟩
theorem Zer (b:Nat)(w:World)(g:w.cell? ⟨b,0,none⟩=some (.pointer none))(a:w.shape? b=some (103,2))(f:w.frozen? ⟨b,0,none⟩=false) :
 yA 235 #[.pointer (some ⟨b,0,none⟩)] w fun e w'=>e=.returned (.tuple #[])∧w'=w.setCell ⟨b,0,none⟩ (.pointer (some ⟨b,0,none⟩)):=by
 obtain⟨j,d,c⟩:=uV.1 (show (Tryz.prog.info? 101).map (·.size)=some 2 by kernel_rfl)
 go_enter Tryz.func235,Tryz.ntmps235
 go_wp2
 rw[Lib.run_to_unsafe w ⟨b,0,none⟩ Tryz.underlying98 Tryz.underlying361 d (by rw[c];decide) a (Nat.zero_lt_succ 1)]
 simp only[Result.andThen]
 rw[Oper.upon_value]
 go_wp2
 rw[run_callFunc_extern Tryz.func274 (by kernel_rfl) (by kernel_rfl) (by kernel_rfl) (e:=Extern.AbiNoEscape.same) (by kernel_rfl)]
 rw[Lib.run_noEscape]
 simp only[Result.andThen]
 rw[Oper.upon_value]
 go_wp2
 rw[Lib.run_from_unsafe w ⟨b,0,none⟩ Tryz.underlying361 Tryz.underlying98 d a (by kernel_rfl)]
 simp only[Result.andThen]
 rw[Oper.upon_value]
 go_wp2
 go_end0
 exact⟨rfl,rfl⟩
theorem WrFr.setB {lo b:Nat}{w w':World}(h:WrFr lo b w w')(o:Nat)(u:Value):WrFr lo b w (w'.setCell ⟨b,o,none⟩ u):=Fr.setCell h (Or.inl (Or.inl rfl)) u
theorem ZbJ (lo b:Nat)(l:List UInt8)(w:World)(h:WrIs lo b l w) :
 yA 235 #[.pointer (some ⟨b,0,none⟩)] w fun e w'=>e=.returned (.tuple #[])∧WrAt lo b (.pointer (some ⟨b,0,none⟩)) (Lib.byteCells l) w'∧WrFr lo b w w':=by
 obtain⟨p,rfl|rfl,h⟩:=h
 ·refine (Zer b w h.cell0 h.shape h.frozen0).mono ?_
  rintro e w' ⟨rfl,rfl⟩
  exact⟨rfl,h.used _,(WrFr.refl lo b w).setB 0 _⟩
 refine (Ze9 b w h.cell0).mono ?_
 rintro e w' ⟨rfl,rfl⟩
 exact⟨rfl,h,WrFr.refl lo b w'⟩
theorem Zai (a b:List UInt8):Lib.byteCells (a ++ b)=Lib.byteCells a ++ Lib.byteCells b:=by simp[Lib.byteCells]
theorem WrFr.alloc {lo b:Nat}{w w':World}(h:WrFr lo b w w')(o:Obj):WrFr lo b w (w'.alloc o):=Fr.alloc h o
theorem neB5:(103:TypeId)≠5:=by decide
theorem WrFr.grown {lo b:Nat}{w a w2:World}{v:Value}{f:List Value}(h:WrFr lo b w a)(c:∃ n,a.ownsRow lo 5 1 v n f)(j:a.grownBy w2 v.ownBlock):WrFr lo b w w2:=by
 obtain⟨n,_,c⟩:=c
 refine Fr.next h (Fr.ofGrown j) (fun i k ei=>?_)
 rcases c with ⟨rfl,_⟩|⟨g,l,d,rfl,e,m,_⟩
 ·cases ei
 simp only[Value.ownBlock,sC] at ei
 subst ei
 exact h.back k e ⟨d,_,m⟩
theorem ZaG (lo b:Nat)(l:List UInt8)(s:ByteArray)(w:World)(h:WrIs lo b l w)(z:l.length+s.size≤140737488355328) :
 yA 175 #[.pointer (some ⟨b,0,none⟩),.string s] w fun e w'=>e=.returned (.tuple #[.int .i64 s.size,.nilIface])∧WrIs lo b (l ++ bytes s) w'∧WrFr lo b w w':=by
 obtain⟨D,E,p,q,r⟩:=info_parts (show (Tryz.prog.info? 5).map (fun i=>(i.zero,i.size,i.bytes))=some (some (.int .u8 0),1,1) by kernel_rfl)
 have A:∀ j w,(callFunc 235 j).run Tryz.prog w=.ok (.enter 235 j) w:=enters_of Tryz.func235 (by kernel_rfl) rfl
 go_enter Tryz.func175,Tryz.ntmps175
 go_wp2_with (go_at_call 235;refine (ZbJ lo b l _ h).mono ?_)
 rintro e n ⟨rfl,F,t⟩
 obtain⟨G,v,a,k,u⟩:=F
 have L:n.cell? ⟨b,0,none⟩=some (.pointer (some ⟨b,0,none⟩)):=by rw[Lib.cell_of_heap a];rfl
 have M:n.cell? ⟨b,1,none⟩=some v:=by rw[Lib.cell_of_heap a];rfl
 have H:(Lib.byteCells l).length=l.length:=Lib.byteCells_length l
 go_wp2_with (at_builtin;refine Lib.wpList_append_own_string _ rfl _ _ 99 9 rfl lo 5 D Tryz.underlying99 Tryz.underlying9 E p q r _ _ _ rfl k s rfl ?c3 ?c4 ?c5 ?_)
 case c3=>unfold maxLen;omega
 case c4=>omega
 case c5 =>
  have m:b<n.heap.size:=by
   rcases uZ b n.heap.size with m|m
   ·exact m
   simp[Array.getElem?_eq_none m] at a
  first|omega | (simp;omega)
 intro I o c d _
 have x:b<n.heap.size:=by
  rcases uZ b n.heap.size with m|m
  ·exact m
  simp[Array.getElem?_eq_none m] at a
 have f:o.heap[b]? = some (.cells #[.pointer (some ⟨b,0,none⟩),v] 103 (0,0)):=by
  rw[d.block b x (fun e=>u e.symm)]
  exact a
 have N:o.cell? ⟨b,0,none⟩=some (.pointer (some ⟨b,0,none⟩)):=by rw[Lib.cell_of_heap f];rfl
 have O:o.cell? ⟨b,1,none⟩=some v:=by rw[Lib.cell_of_heap f];rfl
 have P:o.frozen? ⟨b,1,none⟩=false:=Lib.frozen_of_heap f 1
 obtain⟨B,C,cap,rfl⟩:∃ B C cap,I=.slice B C cap:=by
  rcases c.2 with ⟨y,_⟩|⟨g,cap,J,y,_⟩
  ·exact⟨_,_,_,y⟩
  exact⟨_,_,_,y⟩
 have K:=zh (t.grown ⟨_,k⟩ d)
 go_wp2
 go_ret2
 refine⟨rfl,⟨_,Or.inr rfl,?_⟩,K.out.setB 1 _⟩
 have:=Lib.BuilderAt.put (T:=103) (e:=5) G f (bs':=Lib.byteCells l ++ Lib.strCells s) (by rw[uA,Lib.strCells_length,Lib.byteCells_length];exact c) neB5
 rw[Zai]
 exact this
theorem ZbK (lo b:Nat)(l:List UInt8)(c:UInt8)(w:World)(h:WrIs lo b l w)(D:l.length+1≤140737488355328) :
 yA 176 #[.pointer (some ⟨b,0,none⟩),.int .u8 (c.toNat:Int)] w fun e w'=>e=.returned .nilIface∧WrIs lo b (l ++ [c]) w'∧WrFr lo b w w':=by
 obtain⟨H,I,t,x,y⟩:=info_parts (show (Tryz.prog.info? 5).map (fun i=>(i.zero,i.size,i.bytes))=some (some (.int .u8 0),1,1) by kernel_rfl)
 have E:∀ m w,(callFunc 235 m).run Tryz.prog w=.ok (.enter 235 m) w:=enters_of Tryz.func235 (by kernel_rfl) rfl
 obtain⟨F,q⟩:=yE (c.toNat:Int)
 have z:=zh q
 rw[q]
 clear q
 go_enter Tryz.func176,Tryz.ntmps176
 go_wp2_with (go_at_call 235;refine (ZbJ lo b l _ h).mono ?_)
 rintro e n ⟨rfl,J,A⟩
 obtain⟨K,v,a,o,B⟩:=J
 have Q:n.cell? ⟨b,0,none⟩=some (.pointer (some ⟨b,0,none⟩)):=by rw[Lib.cell_of_heap a];rfl
 have c1:n.cell? ⟨b,1,none⟩=some v:=by rw[Lib.cell_of_heap a];rfl
 have L:(Lib.byteCells l).length=l.length:=Lib.byteCells_length l
 go_wp2_with (at_builtin;refine wpList_append_own _ rfl _ _ 99 rfl lo 5 H (.int .u8 0) 1 1 Tryz.underlying99 I t x y rfl (by decide) _ _ _ rfl (o.alloc _) ⟨n.heap.size,0,none⟩ 1 1 [.int .u8 F] rfl rfl ?c1 ?c2 ?c3 ?c4 ?c5 ?_)
 case c1 =>
  intro j u r
  match j,r with
  | 0,r=>simp at r;subst r;simp[Addr.add]
 case c2=>intro u G;simp at G;subst G;rfl
 case c3=>unfold maxLen;omega
 case c4=>omega
 case c5 =>
  have p:b<n.heap.size:=by
   rcases uZ b n.heap.size with p|p
   ·exact p
   simp[Array.getElem?_eq_none p] at a
  first|omega | (simp;omega)
 intro M s d f _
 have C:b<n.heap.size:=by
  rcases uZ b n.heap.size with p|p
  ·exact p
  simp[Array.getElem?_eq_none p] at a
 have k:s.heap[b]? = some (.cells #[.pointer (some ⟨b,0,none⟩),v] 103 (0,0)):=by
  rw[f.block b (by simp;omega) (fun e=>B e.symm),Lib.alloc_old n _ b C]
  exact a
 have R:s.cell? ⟨b,0,none⟩=some (.pointer (some ⟨b,0,none⟩)):=by rw[Lib.cell_of_heap k];rfl
 have S:s.cell? ⟨b,1,none⟩=some v:=by rw[Lib.cell_of_heap k];rfl
 have U:s.frozen? ⟨b,1,none⟩=false:=Lib.frozen_of_heap k 1
 obtain⟨g,cap,rfl⟩:∃ g cap,M=.slice (some ⟨g,0,none⟩) (l.length+1) cap:=by
  rcases d.2 with ⟨_,V⟩|⟨g,cap,N,O,_⟩
  ·omega
  exact⟨g,cap,O⟩
 have P:=zh ((A.alloc _).grown ⟨_,o.alloc _⟩ f)
 go_wp2
 go_ret
 refine⟨rfl,⟨_,Or.inr rfl,?_⟩,P.out.setB 1 _⟩
 have:=Lib.BuilderAt.put (T:=103) (e:=5) K k (bs':=Lib.byteCells l ++ [.int .u8 F]) (by rw[uA,Lib.byteCells_length];exact d) neB5
 rw[Zai]
 show WrAt lo b _ (Lib.byteCells l ++ [.int .u8 (c.toNat:Int)]) _
 rw[z.out]
 exact this
theorem Zig (lo b:Nat)(l:List UInt8)(w:World)(h:WrIs lo b l w) :
 yA 87 #[.pointer (some ⟨b,0,none⟩)] w fun e w'=>e=.returned (.int .i64 (l.length:Int))∧w'=w:=by
 obtain⟨p,_,m,v,c,a,d⟩:=h
 obtain⟨f,cap,rfl⟩:∃ f cap,v=.slice f l.length cap:=by
  rw[Lib.byteCells_length] at a
  rcases a.2 with ⟨i,j⟩|⟨g,cap,k,i,_⟩
  ·exact⟨none,0,by rw[i,j]⟩
  exact⟨_,_,i⟩
 have n:w.cell? ⟨b,1,none⟩=some (.slice f l.length cap):=by rw[Lib.cell_of_heap c];rfl
 clear a d c
 go_enter Tryz.func87,Tryz.ntmps87
 go_wp2
 go_ret
 exact⟨rfl,rfl⟩
theorem Zj9 (lo b:Nat)(l:List UInt8)(w:World)(h:WrIs lo b l w)(y:l≠[]) :
 yA 88 #[.pointer (some ⟨b,0,none⟩)] w fun e w'=>e=.returned (.string ⟨l.toArray⟩)∧WrFr lo b w w':=by
 obtain⟨p,_,I,v,k,d,o⟩:=h
 have m:l.length≠0:=by simpa using y
 rw[Lib.byteCells_length] at d
 obtain⟨g,a,c,rfl,q,s,z,t,A,f⟩:∃ g a c,v=.slice (some ⟨g,0,none⟩) l.length a∧lo≤g∧w.heap[g]? = some (.cells c 5 (0,0))∧l.length≤a∧a≤maxLen∧c.size=a*1∧c.toList.take (l.length*1)=Lib.byteCells l:=by
  rcases d.2 with ⟨_,B⟩|⟨g,a,c,C,r⟩
  ·exact absurd B m
  exact⟨g,a,c,C,r⟩
 have J:w.drew.cell? ⟨b,1,none⟩=some (.slice (some ⟨g,0,none⟩) l.length a):=by
  have:w.drew.heap[b]? = some (.cells #[p,.slice (some ⟨g,0,none⟩) l.length a] 103 (0,0)):=k
  rw[Lib.cell_of_heap this];rfl
 have D:(Builtin.unsafeSliceData_ #[99] 270 #[.slice (some ⟨g,0,none⟩) l.length a]).run Tryz.prog w.drew=.ok (.pointer (some ⟨g,0,none⟩)) w.drew :=
  Lib.run_unsafeSliceData_row _ _ _ _ _ _ (by omega)
 have E:(Builtin.unsafeString_ #[270,3] 9 #[.pointer (some ⟨g,0,none⟩),.int .i64 l.length]).run Tryz.prog w.drew=.ok (.string ⟨l.toArray⟩) (w.drew.freeze ⟨g,0,none⟩ l.length):=by
  refine Lib.run_unsafeString_row w.drew 270 3 9 5 Tryz.underlying270 (by kernel_rfl) g c.size (by have u:w.drew.heap[g]? = some (.cells c 5 (0,0)):=s;simp[World.shape?,u]) l y (by omega) (by unfold maxLen at t;omega) ?_
  intro j x F
  have:=d.cells (g:=g) rfl j (.int .u8 x.toNat) (by simp[Lib.byteCells,F])
  exact this
 have G:Hid (WrFr lo b w (w.drew.freeze ⟨g,0,none⟩ l.length)):=by
  unfold Hid World.freeze
  rw[vP m]
  refine⟨rfl,rfl,rfl,by simp,fun i K H=>?_⟩
  have n:g≠i:=by
   rintro rfl
   exact H (Or.inr ⟨q,c,_,s⟩)
  simp only[Array.getElem?_modify]
  rw[vP n]
  rfl
 clear d o k s f
 go_enter Tryz.func88,Tryz.ntmps88
 go_wp2
 go_region
 all_goals (go_wp2;go_ret;exact⟨rfl,G.out⟩)
end Go.Proofs.YtoanifijmlgcgaaGreatDoor
namespace Go.Proofs.YtoanifijmlgcgaaGreatDoor
open Go.RowKit
def SRow (w:World) (A:Option Addr) (ss:List ByteArray):Prop:=ss≠[]→∃ b off cs f,A=some ⟨b,off,none⟩∧w.heap[b]? = some (.cells cs 9 f)∧∀ i,i<ss.length→cs[off+i]? = some (.string (ss[i]?.getD ⟨#[]⟩))
theorem WrIs.blk {lo g:Nat}{l:List UInt8}{w:World}(h:WrIs lo g l w):∃ b,w.heap[g]? = some (.cells b 103 (0,0)):=by
 obtain⟨p,_,_,v,a,_⟩:=h
 exact⟨_,a⟩
theorem SRow.wr {w w':World}{A:Option Addr}{ss:List ByteArray}{lo g:Nat}{l:List UInt8}(h:SRow w A ss)(j:WrIs lo g l w)(k:WrFr lo g w w'):SRow w' A ss:=fun m=>by
 obtain⟨b,d,n,f,e,hb,o⟩:=h m
 obtain⟨q,a⟩:=j.blk
 have i:b<w.heap.size:=by
  rcases uZ b w.heap.size with h|h
  ·exact h
  rw[Array.getElem?_eq_none h] at hb;cases hb
 refine⟨b,d,n,f,e,(k.block b i (fun p=>?_)).trans hb,o⟩
 rcases p with e|⟨_,r,s,c⟩
 ·subst e
  rw[hb] at a
  injection a with a
  injection a with _ e _
  exact absurd e (by decide)
 rw[hb] at c
 injection c with c
 injection c with _ e _
 exact absurd e (by decide)
theorem SRow.at_ {w:World}{A:Option Addr}{ss:List ByteArray}(h:SRow w A ss){i:Nat}(hi:i<ss.length):∃ b a,A=some ⟨b,a,none⟩∧w.cell? ⟨b,a+i,none⟩=some (.string (ss[i]?.getD ⟨#[]⟩)):=by
 obtain⟨b,a,c,f,e,d,g⟩:=h (fun e=>by rw[e] at hi;simp at hi)
 exact⟨b,a,e,by rw[cell_of_row w b (a+i) c _ f d];exact g i hi⟩
def wX (ss:List ByteArray):List UInt8:=ss.flatMap (fun s=>32 :: bytes s)
def wY (k:ByteArray) (ss:List ByteArray):List UInt8:=bytes k ++ wX ss ++ [10]
theorem ZaY {ss:List ByteArray}{j:Nat}(h:j<ss.length):wX (ss.take (j+1))=wX (ss.take j) ++ [32] ++ bytes (ss[j]?.getD ⟨#[]⟩):=by
 unfold wX
 rw[vE h,tI,List.getElem?_eq_getElem h]
 simp
theorem Zcf {ss:List ByteArray}(j:Nat):(wX (ss.take j)).length≤(wX ss).length:=by
 conv=>rhs;rw[←tT j ss]
 unfold wX
 rw[tI,uA]
 omega
theorem Zaj (lo g:Nat)(l:List UInt8)(k:ByteArray)(A:Option Addr)(cap:Nat)(ss:List ByteArray)(w:World)(h:WrIs lo g l w)(X:SRow w A ss)(hl:l.length≤1048576)(Y:(wY k ss).length≤70368744177664)(b0:ss.length≤9223372036854775807) :
 yA 83 #[.pointer (some ⟨g,0,none⟩),.string k,.slice A ss.length cap] w fun e w'=>e=.returned (.tuple #[])∧WrIs lo g (l ++ wY k ss) w'∧WrFr lo g w w':=by
 obtain⟨n,Z⟩:=yE ss.length
 rw[Z]
 have y:(wY k ss).length=(bytes k).length+(wX ss).length+1:=by unfold wY;rw[uA,uA];rfl
 have z:(bytes k).length=k.size:=xG k
 have HS:=zh X
 have J:=zh h
 have B:=zh Z
 have C:=zh Y
 have c:=zh y
 have K:=zh z
 have c0:(l.length:Int)≤1048576:=by omega
 clear X h Y y z
 go_enter Tryz.func83,Tryz.ntmps83
 go_wp2_with (go_at_call 87;refine (Zig lo g l _ J.out).mono ?_;rintro e w' ⟨rfl,rfl⟩)
 refine (ZaG lo g l k _ J.out (by have:=c.out;have:=C.out;have:=K.out;omega)).mono ?_
 rintro e w1 ⟨rfl,D,q⟩
 have L:=zh D
 have M:=zh q
 have N:=zh (HS.out.wr J.out q)
 clear D q
 go_wp2_with fail
 go_loopw [20] (fun v wr=>∃ j:Nat,j≤n∧v=.int .i64 (j:Int)∧Hid (WrIs lo g (l ++ bytes k ++ wX (ss.take j)) wr)∧Hid (WrFr lo g w' wr)∧Hid (SRow wr A ss)) (fun v _=>n-(intOf v).toNat)
 case atStart=>exact⟨0,by omega,rfl,by unfold Hid;rw[qA,show wX []=[] from rfl,tP];exact L.out,M,N⟩
 case round =>
  obtain⟨j,hj,rfl,m,E,F⟩:=hrel
  have G:(l ++ bytes k ++ wX (ss.take j)).length≤140737488355000:=by
   have:=c.out;have:=C.out;have:=Zcf (ss:=ss) j
   rw[uA,uA];omega
  by_cases o:j<n
  ·obtain⟨b,d0,rfl,hc⟩:=F.out.at_ (i:=j) (by rw[B.out];exact o)
   obtain⟨s,H⟩:=yE (ss[j]?.getD ⟨#[]⟩)
   rw[H] at hc
   have r:Hid (l ++ bytes k ++ wX (ss.take (j+1))=l ++ bytes k ++ wX (ss.take j) ++ [32] ++ bytes s):=by
    unfold Hid;rw[ZaY (by rw[B.out];exact o),H];simp only[uO]
   have t:(bytes s).length≤70368744177664:=by
    have O:=Zcf (ss:=ss) (j+1)
    rw[ZaY (by rw[B.out];exact o),H,uA] at O
    have:=c.out;have:=C.out
    omega
   have e0:(0:Int)≤(j:Int):=by omega
   have f0:(j:Int)<(n:Int):=by omega
   have a0:s.size≤70368744177664:=by rw[xG] at t;exact t
   have d:l.length+(bytes k).length+(wX (ss.take j)).length+(bytes s).length≤140737488355000:=by
    have O:=Zcf (ss:=ss) (j+1)
    rw[ZaY (by rw[B.out];exact o),H,uA,uA] at O
    have:=c.out;have:=C.out
    omega
   have P:=zh d
   clear H t d
   go_wp2_with (go_at_call 176;refine (ZbK lo g _ 32 _ m.out (by omega)).mono ?_)
   rintro e Q ⟨rfl,f,a⟩
   have p:=zh f
   have u:=zh a
   have R:=zh (F.out.wr m.out a)
   clear f a
   go_wp2_with (go_at_call 175;refine (ZaG lo g _ s _ p.out (by
    have:=P.out;rw[xG s] at this
    simp only[uA,vM,sO];omega)).mono ?_)
   rintro e w3 ⟨rfl,I,x⟩
   have S:Hid (WrIs lo g (l ++ bytes k ++ wX (ss.take (j+1))) w3):=by unfold Hid;rw[r.out];exact I
   have T:Hid (WrFr lo g w' w3):=(E.out.trans u.out).trans x
   have U:=zh (R.out.wr p.out x)
   clear I x
   go_wp2
   go_roundw
   case rel=>exact⟨j+1,by omega,by go_num,S.out,T.out,U.out⟩
   case measure=>simp[intOf];omega
  obtain rfl:j=n:=by omega
  have V:Hid (WrIs lo g (l ++ bytes k ++ wX ss) wr):=by
   have h:=m.out
   rw[uB (by rw[B.out];exact uR _)] at h
   exact h
  have W:(l ++ bytes k ++ wX ss).length+1≤140737488355328:=by
   have:=c.out;have:=C.out
   rw[uA,uA];omega
  clear m G
  go_wp2_with (go_at_call 176;refine (ZbK lo g _ 10 _ V.out W).mono ?_)
  rintro e Q ⟨rfl,f,a⟩
  have p:Hid (WrIs lo g (l ++ wY k ss) Q):=by
   unfold Hid wY
   rw[show l ++ (bytes k ++ wX ss ++ [10])=l ++ bytes k ++ wX ss ++ [10] by simp only[uO]]
   exact f
  have u:Hid (WrFr lo g w' Q):=E.out.trans a
  clear f a
  go_wp2
  go_end0
  exact⟨rfl,p.out,u.out⟩
def wA (z:Int):Prop := -9223372036854775808≤z∧z≤9223372036854775807
def zO (z:Int):ByteArray:=⟨(Lib.itoa z).toArray⟩
theorem dZ (A:Option Addr)(c:Nat)(zs:List Int)(w:World)(D:Glob w)(E:IRow w A zs)(q:∀ i,i<zs.length→wA (nth zs i))(Y:zs.length≤1000000) :
 yA 84 #[.slice A zs.length c] w fun e w'=>∃ b,e=.returned (.slice (some ⟨b,0,none⟩) zs.length zs.length)∧w.heap.size≤b∧Blk 9 w' b (Lib.cellsOf (zs.map zO) zs.length)∧Ext w w':=by
 obtain⟨n,F⟩:=yE zs.length
 rw[F]
 have L:=zh D
 have M:=zh E
 have O:=zh q
 have o:=zh F
 have t:=run_make_row' (P:=Tryz.prog) 41 9 (.string ByteArray.empty) 16 Tryz.underlying41 (by kernel_rfl) rfl .i64 .i64 n (by omega) (by omega)
 clear D E q
 go_enter Tryz.func84,Tryz.ntmps84
 go_wp2
 generalize k:World.alloc w _=wb
 obtain⟨b,u⟩:=yE w.heap.size
 rw[u]
 have R:Hid (Blk 9 wb b (Lib.cellsOf [] n)):=by
  unfold Hid;rw[←k,← u,Lib.cellsOf_nil];exact Blk.new _ _ _
 have S:Hid (Ext w wb):=k ▸ (Fr.refl _ _).alloc _
 have G:=zh u
 clear t k
 go_loopw [11] (fun v wr=>∃ j:Nat,j≤n∧v=.int .i64 (j:Int)∧Hid (Blk 9 wr b (Lib.cellsOf ((zs.take j).map zO) n))∧Hid (Ext w wr)) (fun v _=>n-(intOf v).toNat)
 case atStart=>exact⟨0,by omega,rfl,R,S⟩
 case round =>
  obtain⟨j,Z,rfl,x,Q⟩:=hrel
  by_cases a:j<n
  ·obtain⟨bA,T,rfl,_,H⟩:=M.out.ext Q.out j (by rw[o.out];exact a)
   have l:=O.out j (by rw[o.out];exact a)
   have U:(0:Int)≤(j:Int):=by omega
   have V:(j:Int)<(n:Int):=by omega
   have d:Hid ((zs.take (j+1)).map zO=(zs.take j).map zO ++ [zO (nth zs j)]):=by
    unfold Hid nth
    rw[vE (by rw[o.out];exact a),qG,List.getElem?_eq_getElem (by rw[o.out];exact a)]
    rfl
   have f:Hid (((zs.take j).map zO).length=j):=by
    unfold Hid;rw[rW,uL,o.out];omega
   obtain⟨z,q⟩:=yE (nth zs j)
   rw[q] at H l d
   clear q
   go_wp2_with fail
   refine (Tryz.strconv_Itoa z l.1 l.2 _ (L.out.ext Q.out).1).mono ?_
   rintro e w2 ⟨rfl,W,X,I⟩
   have m:Ext wr w2:=by rw[I];exact Fr.ofBelow (Lib.below_grow _ wr (uR _) W X)
   have g:=x.out.ext m
   have y:w2.cell? ⟨b,j,none⟩=some (.string ByteArray.empty):=by
    rw[g.cell]
    have:=Lib.cellsOf_next (done:=(zs.take j).map zO) (N:=n) (by rw[f.out];exact a)
    rwa [f.out] at this
   have J:=g.frozen j
   have r:Hid (Blk 9 (w2.setCell ⟨b,j,none⟩ (.string (zO z))) b (Lib.cellsOf ((zs.take (j+1)).map zO) n)):=by
    have h:=g.set_ j (.string (zO z))
    have K:=Lib.cellsOf_set (done:=(zs.take j).map zO) (N:=n) (by rw[f.out];exact a) (zO z)
    rw[f.out] at K
    rw[K,← d.out] at h
    exact h
   have s:Hid (Ext w (w2.setCell ⟨b,j,none⟩ (.string (zO z)))):=(Q.out.trans m).setCell (p:=⟨b,j,none⟩) (Or.inr (by rw[G.out];exact uR _)) _
   change Hid (Blk 9 (w2.setCell ⟨b,j,none⟩ (.string ⟨(Lib.itoa z).toArray⟩)) b _) at r
   change Hid (Ext w (w2.setCell ⟨b,j,none⟩ (.string ⟨(Lib.itoa z).toArray⟩))) at s
   clear m g I x Q H
   go_wp2
   go_roundw
   case rel=>exact⟨j+1,by omega,by go_num,r.out,s.out⟩
   case measure=>simp[intOf];omega
  obtain rfl:j=n:=by omega
  have B:Hid (Blk 9 wr b (Lib.cellsOf (zs.map zO) j)):=by
   have h:=x.out
   rw[uB (by rw[o.out];exact uR _)] at h
   exact h
  have C:w.heap.size≤b:=by rw[G.out];exact uR _
  go_wp2
  go_ret
  exact⟨b,rfl,C,B.out,Q.out⟩
section
variable {N:Nat} {S0:Nat→Prop} {w0:World} {s:St} {Φ Ψ:World→Prop} {L:Nat→Nat} {a:Act} {w:World} {P:Program} {ops:Array Oper} {Q:Exit→Act→World→Prop}
def SWr (lo g:Nat) (w0:World) (i:Nat):Prop:=i=g∨(lo≤i∧IsU8 w0 i)
theorem WrFr.s0 {lo g:Nat}{w0 w w':World}(Q:Fr (SWr lo g w0) w0 w)(h:WrFr lo g w w'):Fr (SWr lo g w0) w0 w':=WrFr.trans Q h
theorem lT {lo g:Nat}{wl w0 w:World}(c:Ext wl w0)(b:wl.heap.size=lo)(f:lo≤g)(Q:Fr (SWr lo g w0) w0 w):Ext wl w:=by
 subst b
 exact Fr.next c Q (fun i h d=>by rcases d with e|⟨e,_⟩<;>omega)
theorem WrIs.fr {lo g:Nat}{l:List UInt8}{S:Nat→Prop}{w w':World}(h:WrIs lo g l w)(q:Fr S w w')(t:¬ S g)(u:∀ i,IsU8 w i→¬ S i):WrIs lo g l w':=by
 have c:g<w.heap.size:=by
  obtain⟨B,hc⟩:=h.blk
  rcases uZ g w.heap.size with h|h
  ·exact h
  rw[Array.getElem?_eq_none h] at hc;cases hc
 obtain⟨p,x,y,v,d,b,f⟩:=h
 refine⟨p,x,y,v,(q.block g c t).trans d,?_,f⟩
 obtain⟨z,j⟩:=b
 refine⟨z,?_⟩
 rcases j with j|⟨k,m,n,e,A,hh,r⟩
 ·exact Or.inl j
 have o:k<w.heap.size:=by
  rcases uZ k w.heap.size with h|h
  ·exact h
  rw[Array.getElem?_eq_none h] at hh;cases hh
 exact Or.inr ⟨k,m,n,e,A,(q.block k o (u k ⟨_,_,hh⟩)).trans hh,r⟩
def noWr (bl:BlL):Bool:=bl.all (fun q => !(Nat.beq q.2.1 103) && !(Nat.beq q.2.1 5))
theorem Zak {i d lo g:Nat}{u:SlL}{r:BlL}{l:List UInt8}{v:Value}(Ψ:World→Prop)(f:FuncId)(n:List Value)(A:∀ w w',Fr S0 w0 w→WrFr lo g w w'→Fr S0 w0 w')(x:noWr r=true)(H:∀ w,Fr S0 w0 w→Φ w→Calls P f n.toArray w (fun en w'=>en=.returned v∧Ψ w'∧WrFr lo g w w'))(R:∀ w,Φ w→WrIs lo g l w)(I:∀ (S:Nat→Prop) (w w':World),Ψ w→Fr S w w'→¬ S g→(∀ i,IsU8 w i→¬ S i)→Ψ w')(K:SXi P N S0 w0 ops Q (i+1) ((ofL u r).put d (.v v)) Ψ)(B:Nat.blt i ops.size=true:=by kernel_rfl)(h:kX P N ops (opAt ops i) (ofL u r)=some (f,n,d):=by kernel_rfl):SXi P N S0 w0 ops Q i (ofL u r) Φ:=by
 obtain⟨J,o,M,O,T,U,V⟩:=jB h
 unfold SXi
 rw[jS B]
 intro L a w p
 refine wpList_step fun K' W=>?_
 rw[tA (p.want J)]
 unfold Oper.wp
 rw[p.exec O T,bL o U,Oper.upon_enter]
 refine Calls.mono (H w p.mem.ext p.box.self) fun en w' X=>?_
 obtain⟨rfl,Y,C⟩:=X
 simp only[M]
 have k:=p.app0 (d:=d) V (al_v (s:=ofL u r) v)
 obtain⟨cg,D⟩:=(R w p.box.self).blk
 have j:∀ b t c,(ofL u r).bl b=some (t,c)→¬ (L b=g∨(lo≤L b∧IsU8 w (L b))):=fun b t c e Z=>by
  have q:w.heap[L b]? = some (.cells _ t (0,0)):=p.mem.blk b t c e
  have o:=vC.1 x _ (lP e)
  simp only[vG,Bool.not_eq_true'] at o
  rcases Z with e|⟨_,c2,f2,y⟩
  ·rw[e,D] at q
   injection q with q
   injection q with _ e2 _
   subst e2
   exact absurd o.1 (by decide)
  rw[y] at q
  injection q with q
  injection q with _ e2 _
  subst e2
  exact absurd o.2 (by decide)
 refine W _ _ (K L _ _ ⟨k.size,k.df,k.sl,⟨fun b t c e=>(k.mem.blk b t c e).fr C (j b t c e),k.mem.inj,k.mem.old,?_,k.mem.slp,k.mem.cel⟩,fun w2 hf=>?_⟩)
 ·exact A _ _ p.mem.ext C
 have E:∀ b t c,(ofL u r).bl b=some (t,c)→∃ G,w'.heap[L b]? = some (.cells G t (0,0)):=fun b t c e=>⟨_,(k.mem.blk b t c e).fr C (j b t c e)⟩
 refine I _ _ _ Y hf (fun⟨b,F,e⟩=>?_) fun i y ⟨b,F,e⟩=>?_
 ·obtain⟨⟨t,c⟩,z⟩:=tS.1 F
  exact j b t c z (Or.inl e)
 obtain⟨⟨t,c⟩,z⟩:=tS.1 F
 obtain⟨G,m⟩:=E b t c z
 obtain⟨c2,f2,y⟩:=y
 have o:=vC.1 x _ (lP z)
 simp only[vG,Bool.not_eq_true'] at o
 rw[e,y] at m
 injection m with m
 injection m with _ e2 _
 subst e2
 exact absurd o.2 (by decide)
theorem iS {i d lo g:Nat}{e:SlL}{c:BlL}{l l':List UInt8}{v:Value}(f:FuncId)(b:List Value)(j:∀ w w',Fr S0 w0 w→WrFr lo g w w'→Fr S0 w0 w')(k:noWr c=true)(n:∀ w,Fr S0 w0 w→Φ w→Calls P f b.toArray w (fun en w'=>en=.returned v∧WrIs lo g l' w'∧WrFr lo g w w'))(R:∀ w,Φ w→WrIs lo g l w)(K:SXi P N S0 w0 ops Q (i+1) ((ofL e c).put d (.v v)) (fun w=>WrIs lo g l' w))(m:Nat.blt i ops.size=true:=by kernel_rfl)(h:kX P N ops (opAt ops i) (ofL e c)=some (f,b,d):=by kernel_rfl):SXi P N S0 w0 ops Q i (ofL e c) Φ :=
 Zak (l:=l) (WrIs lo g l') f b j k n R (fun _ _ _ o p q r=>o.fr p q r) K m h
end
theorem xF {m0:Nat}{P:Program}{o:Oper}{ρ:Operand→Value}{w:World}{t e:TypeId}{n sz:Nat}{z:Value}{parts:Array (Nat × Operand)}{cells:Array Value}(g:m0≤w.heap.size)(j:o.op=Op.buildSlice t n parts)(k:P.underlying t=some (.slice e))(c:(P.info? e).map (fun i=>(i.zero,i.size))=some (some z,sz))(l:Nat.ble (n*sz) 1000=true)(f:Nat.beq (n*sz) 0=false)(m:Instr.fill (fun i=>some (i*sz,sz)) ((List.range (n*sz)).map (fun i=>z.cells[i%z.cells.size]!)).toArray (parts.toList.map fun q=>(q.1,ρ q.2))=some cells) :
 Does P o ρ w (DoR (fun b:{b:Nat // m0≤b}=>.slice (some ⟨b.1,0,none⟩) n n) (fun b w=>Blk e w b.1 cells) w):=by
 have d:=Zep (w:=w) k c l f m
 exact Or.inl ⟨_,_,by simp[execOp,j,d,Result.andThen],⟨w.heap.size,g⟩,rfl,(Fr.refl _ w).alloc _,fun S p r u=>(Blk.new w e cells).fr u (fun h=>by have:=(p _ h).1;omega)⟩
theorem eY {w w':World}{d:Ending}{zs:List Int}(h:∃ b,d=.returned (.slice (some ⟨b,0,none⟩) zs.length zs.length)∧w.heap.size≤b∧Blk 9 w' b (Lib.cellsOf (zs.map zO) zs.length)∧Ext w w') :
 wS (fun b:Nat=>.slice (some ⟨b,0,none⟩) zs.length zs.length) (fun b w=>Blk 9 w b ((zs.map zO).map Value.string).toArray) w d w':=by
 obtain⟨b,rfl,k,f,Q⟩:=h
 have c:Blk 9 w' b ((zs.map zO).map Value.string).toArray:=by
  have e:Lib.cellsOf (zs.map zO) zs.length=((zs.map zO).map Value.string).toArray:=by
   have:=Lib.cellsOf_full (zs.map zO)
   rwa [rW] at this
  rw[e] at f;exact f
 exact⟨b,rfl,Q,fun S g i j=>c.fr j (fun h=>by have:=(g _ h).1;omega)⟩
theorem SRow.ofStr {w:World}{b:Nat}{ss:List ByteArray}{cur:List Value}(h:Blk 9 w b cur.toArray)(e:cur.take ss.length=ss.map Value.string):SRow w (some ⟨b,0,none⟩) ss:=fun _=>by
 refine⟨b,0,_,_,rfl,h,fun i c=>?_⟩
 rw[vO]
 have d:(cur.take ss.length)[i]? = (ss.map Value.string)[i]? := by rw[e]
 rw[List.getElem?_take_of_lt c,List.getElem?_map,List.getElem?_eq_getElem c] at d
 simpa [List.getElem?_eq_getElem c] using d
section
variable {P:Program} {ops:Array Oper} {Q:Exit→Act→World→Prop} {a:Act} {w:World} {l:List Oper} {o:Oper}
def mvB (o:Oper):Bool:=match o.op with
 | .move _ | .assign _ | .extract _ _=>o.dst.isSome
 | _=>false
theorem Zka (hm:mvB o=true)(h:wpList P ops Q (o :: l) a w):∃ v,Yields P ops o v a∧wpList P ops Q l (a.put o.dst v) w:=by
 unfold wpList at h
 by_cases b:Region.wanted o (yielded ops a.tmps)=true
 ·rw[tA b] at h
  unfold mvB at hm
  cases ho:o.op<;>rw[ho] at hm<;>first | (cases hm;done)|skip
  ·rename_i x
   refine⟨a.eval x,Or.inl ⟨b,fun w=>by simp[execOp,ho]⟩,?_⟩
   rcases h with h|⟨⟨h,_⟩,_⟩
   ·simpa [Oper.wp,Oper.upon,execOp,ho] using h
   simp only[execOp,ho] at h
   exact absurd (show noRoomEvent∈(#[]:Array Event) from h) (by simp)
  ·rename_i x
   refine⟨a.eval x,Or.inl ⟨b,fun w=>by simp[execOp,ho]⟩,?_⟩
   rcases h with h|⟨⟨h,_⟩,_⟩
   ·simpa [Oper.wp,Oper.upon,execOp,ho] using h
   simp only[execOp,ho] at h
   exact absurd (show noRoomEvent∈(#[]:Array Event) from h) (by simp)
  rename_i x f
  have d:(∃ v,Instr.extract (a.eval x) f=pure v)∨∃ m,Instr.extract (a.eval x) f=stuck m:=by
   unfold Instr.extract
   split
   ·split
    ·exact Or.inl ⟨_,rfl⟩
    exact Or.inr ⟨_,rfl⟩
   exact Or.inr ⟨_,rfl⟩
  rcases d with ⟨v,c⟩|⟨m,c⟩
  ·refine⟨v,Or.inl ⟨b,fun w=>by simp[execOp,ho,c]⟩,?_⟩
   rcases h with h|⟨⟨h,_⟩,_⟩
   ·simpa [Oper.wp,Oper.upon,execOp,ho,c] using h
   simp only[execOp,ho,c] at h
   exact absurd (show noRoomEvent∈(#[]:Array Event) from h) (by simp)
  rcases h with h|⟨⟨h,_⟩,_⟩
  ·simp only[Oper.wp,execOp,ho,c] at h
   exact absurd (show False from h) (fun e=>e)
  simp only[execOp,ho,c] at h
  exact absurd (show noRoomEvent∈(#[]:Array Event) from h) (by simp)
 rw[vP b] at h
 exact⟨undef,Or.inr ⟨by simpa using b,rfl⟩,h⟩
def seqA (ops:Array Oper):Nat→Nat→Array Bool→Bool
 | 0,_,listed=>(Region.ready .any ops listed).isEmpty
 | g+1,k,listed=>(decide (Region.ready .any ops listed=[k]) || (mvB (opAt ops k) && (Region.free .any ops listed k && (Region.ready .any ops listed).contains k))) && seqA ops g (k+1) (listed.setIfInBounds k true)
theorem bZ (g:Region.noSelect ops=true)(m:∀ (c:_) (a:Act) (w:World) (d:Nat) (v:Value),Q (.panic c) (a.put (some d) v) w→Q (.panic c) a w):∀ (l:List Oper) (k:Nat) (b:Array Bool) (a:Act) (w:World),(∀ j,l[j]? = ops[k+j]?) →
 seqA ops l.length k b=true→wpList P ops Q l a w→wpAny P .any ops Q l.length b a w
 | [],_,_,_,_,_,hB,h=>⟨by simpa [seqA] using hB,h⟩
 | o :: l,k,b,a,w,hl,hB,h=>by
  have f:ops[k]? = some o:=by simpa using (hl 0).symm
  have e:∀ j,l[j]? = ops[k+1+j]? := fun j=>by have:=hl (j+1);simpa [tR,vR 1 j] using this
  simp only[vM,seqA,vG,rG,vF] at hB
  obtain⟨h1|⟨h1,h2,r⟩,hB⟩:=hB
  ·refine⟨fun h2=>(by rw[h1] at h2;cases h2),fun i hi=>?_⟩
   rw[h1] at hi
   have n:i=k:=by simpa using hi
   subst n
   have p:wpOp P ops Q i (wpList P ops Q l) a w:=by unfold wpOp;simp only[f];exact h
   exact wpOp_mono (fun s w' t=>bZ g m l (i+1) _ s w' e hB t) p
  have q:opAt ops k=o:=sN ((iR (Array.getElem?_eq_some_iff.1 f).1).symm.trans f)
  rw[q] at h1
  obtain⟨v,u,p⟩:=Zka h1 h
  obtain⟨d,hd⟩:∃ d,o.dst=some d:=by
   unfold mvB at h1
   cases hd:o.dst with
   | some d=>exact⟨d,rfl⟩
   | none=>rw[hd] at h1;split at h1<;>cases h1
  exact wpAny_take f g h2 r (fun c a w h=>by rw[hd] at h;exact m c a w d v h) u (bZ g m l (k+1) _ _ w e hB p)
end
section
variable {N:Nat} {S0:Nat→Prop} {w0:World} {s:St} {Φ Φ0:World→Prop} {L:Nat→Nat} {a:Act} {w:World} {P:Program} {ops:Array Oper} {Q:Exit→Act→World→Prop} {fin:St→(World→Prop)→Prop}
def Zbn (R:Nat→Nat→Bool) (ops:Array Oper) (n i:Nat):Bool:=(List.range ops.size).all fun t=>decide (t<n) || R t i
theorem Zcg (K:Nat)(ops:Array Oper):dP ops (fA .any ops K):=fun _ c j _ h b=>aY c K j h b
theorem Zch {R:Nat→Nat→Bool}{n i j:Nat}{b:Array Bool}(f:dP ops R)(g:Zbn R ops n i=true)(h:iD .any ops b)(hi:b.getD i true=false)(k:j∈Region.ready .any ops b):j<n:=by
 obtain⟨_,l,d,e⟩:=mem_ready.1 k
 have c:=vC.1 g j (rA.2 (Array.getElem?_eq_some_iff.1 d).1)
 simp only[rG,vF] at c
 rcases c with c|c
 ·exact c
 have h2:=f b h j i c (fun o m=>by
  have:o=l:=sN (m.symm.trans d)
  subst this
  exact e)
 rw[getD_both hi] at h2
 cases h2
theorem Zi9 {s0:St}{n:Nat}{R:Nat→Nat→Bool}(hR:dP ops R)(hu:fC ops=true)(hn:n≤ops.size)(t:fP ops=true)(E:Region.noSelect ops=true)(hQ:∀ (c:_) (a:Act) (w:World) (d:Nat) (v:Value),Q (.panic c) (a.put (some d) v) w→Q (.panic c) a w)(u:ZcJ R ops s0 n=true)(F:seqA ops (ops.size-n) n (kV ops n)=true)(W:∃ w,Φ0 w)(G:∀ s Φ,fin s Φ→∀ L a w,Inv N S0 w0 s Φ L a w→wpList P ops Q (ops.toList.drop n) a w) :
 ∀ (k:Nat) (listed:Array Bool) (s:St) (Φ:World→Prop) (L:Nat→Nat) (a:Act) (w:World),(un n listed).length=k→listed.size=ops.size→(∀ i,n≤i→i<ops.size→listed.getD i true=false)→(∀ i,i∈un n listed→Zbn R ops n i=true)→iD .any ops listed →
 BI ops s0 s→(∀ w,Φ w→Φ0 w)→Inv N S0 w0 s Φ L a w→Strat P N S0 w0 ops Φ0 fin (un n listed) s Φ→wpAny P .any ops Q (k+(ops.size-n)) listed a w:=by
 intro k
 induction k with
 | zero =>
  intro listed s Φ L a w hk f z _ m A S V hS
  have q:un n listed=[]:=vZ.1 hk
  rw[q] at hS
  have r:listed=kV ops n:=by
   refine Array.ext (by simp[kV,f];omega) fun i b h2=>?_
   have B:i<ops.size:=by rw[←f];exact b
   have e:listed.getD i true=listed[i]:=by simp[b]
   rw[←e]
   by_cases C:i<n
   ·have:listed.getD i true≠false:=fun h=>by
     have:=iE.2 ⟨C,h⟩
     rw[q] at this
     cases this
    simp only[kV,qB]
    rw[List.getElem_append_left (by simpa using C),rS]
    cases h:listed.getD i true with
    | true=>rfl
    | false=>exact absurd h this
   rw[z i (by omega) B]
   simp only[kV,qB]
   rw[List.getElem_append_right (by simpa using C),rS]
  have H:(ops.toList.drop n).length=ops.size-n:=by simp
  cases hS with
  | done hf =>
   have:=bZ E hQ (ops.toList.drop n) n listed a w (fun j=>by simp[List.getElem?_drop]) (by rw[H,r];exact F) (G _ _ hf L a w V)
   rw[H] at this
   rw[vO];exact this
 | succ k ih =>
  intro listed s Φ L a w hk f z g m A S V hS
  rw[show k+1+(ops.size-n)=(k+(ops.size-n))+1 by omega]
  obtain⟨x,R',D⟩:∃ x R,un n listed=x :: R:=by
   cases h:un n listed with
   | nil=>rw[h] at hk;cases hk
   | cons x R=>exact⟨x,R,rfl⟩
  have X:=iE.1 (by rw[D];exact tB:x∈un n listed)
  have I:∀ i,i<x→listed.getD i true=true:=fun i g0=>by
   cases h:listed.getD i true with
   | true=>rfl
   | false =>
    have:=iE.2 ⟨(by omega:i<n),h⟩
    rw[D] at this
    have J:=eS n listed
    rw[D] at J
    rcases tX.1 this with e|e
    ·omega
    have:=(List.pairwise_cons.1 J).1 i e;omega
  have hxr:x∈Region.ready .any ops listed:=by
   have p:x<ops.size:=by omega
   refine mem_ready.2 ⟨X.2,opAt ops x,iR p,fun e he Y=>?_⟩
   have b:=vC.1 t x (rA.2 p)
   rw[iR p] at b
   have K:=Array.all_eq_true'.1 b e he
   rw[Y] at K
   have h2:=vK K
   have h3:=I e.on h2
   have h4:e.on<listed.size:=by rw[f];exact rR h2 p
   simp[h4] at h3 ⊢;exact h3
  refine⟨fun h=>(by rw[h] at hxr;cases hxr),fun j hj=>?_⟩
  have M:j<n:=Zch hR (g x (iE.2 X)) m X.2 hj
  obtain⟨O,oj,Z,T⟩:=mem_ready.1 hj
  have a0:j∈un n listed:=iE.2 ⟨M,O⟩
  obtain⟨l1,l2,r⟩:=List.append_of_mem a0
  have J:=eS n listed
  rw[r] at J
  have b0:∀ y,y∈l1→y<ops.size∧(opAt ops y).apart ops (opAt ops j)=true∧(kK (opAt ops y).op (opAt ops j).op=true∨(lsB (opAt ops y).op (opAt ops j).op=true∧farB ops s0 (opAt ops y) (opAt ops j)=true)):=fun y hy=>by
   have c0:y<j:=(sR.1 J).2.2 y hy j tB
   have d0:=(iE.1 (by rw[r];exact rI _ hy:y∈un n listed)).2
   have b:=vC.1 (vC.1 u j (rA.2 M)) y (rA.2 c0)
   rw[rG] at b
   rcases b with b|b
   ·have h2:=hR listed m j y b (fun o ho=>by
     have:o=oj:=sN (ho.symm.trans Z)
     subst this
     exact T)
    rw[getD_both d0] at h2
    cases h2
   simp only[vG,rG] at b
   exact⟨by omega,b⟩
  rw[r] at hS
  have e0:=Strat.front hu W l1 l2 s Φ V.wf A b0 hS
  refine Strat.exec hu A (by omega) V S e0 fun s' Φ' L' a' w' U f0 B K'=>?_
  have l:=ZjY r
  refine ih (listed.setIfInBounds j true) s' Φ' L' a' w' ?_ (by simp[f]) (fun i b h2=>?_) (fun i b=>g i (by rw[l] at b;rw[r];rcases vL.1 b with h2|h2;exact rI _ h2;exact List.mem_append_right _ (tD _ h2))) (m.set hj) U f0 B (by rw[l];exact K')
  ·rw[l]
   rw[r] at hk
   simp only[uA,vM] at hk ⊢
   omega
  rw[getD_set_ne true (by omega)];exact z i b h2
theorem Zal {id:Nat}(K n:Nat){f:SlL}{g:BlL}(h:StI P N S0 w0 ops Φ Q n 0 (ofL f g) Φ)(hI:aD ops f=true:=by kernel_rfl)(m:P.follows .mixedOrders=true:=by exact zK)(k:(Nat.ble n ops.size && (fC ops && fP ops && ((List.range n).all (fun i=>Zbn (fA .any ops K) ops n i) && (ZcJ (fA .any ops K) ops (ofL f g) n && seqA ops (ops.size-n) n (kV ops n)))))=true:=by kernel_rfl)(o:Region.noSelect ops=true:=by kernel_rfl)(p:∀ (c:_) (a:Act) (w:World) (d:Nat) (v:Value),Q (.panic c) (a.put (some d) v) w→Q (.panic c) a w:=by exact fun _ _ _ _ _ h=>h):SXc P N S0 w0 Q (.region id ops true) (ofL f g) Φ:=by
 simp only[vG] at k
 obtain⟨q,⟨r,t⟩,u,x,y⟩:=k
 have z:=vK q
 intro L a w l
 refine wp_region_any m ?_
 have e:un n (Array.replicate ops.size false)=List.range n:=by
  unfold un
  refine List.filter_eq_self.2 fun i b=>?_
  have:=rA.1 b
  simp[show i<ops.size by omega]
 have:=Zi9 (Zcg K ops) (Q:=Q) (fin:=fun s Φ=>SXi P N S0 w0 ops Q n s Φ) r z t o p x y ⟨w,l.box.self⟩ (fun s Φ A L a w b=>A L a w b) (un n (Array.replicate ops.size false)).length (Array.replicate ops.size false) _ Φ L a w.drew rfl (by simp)
  (fun i _ B=>by simp[B]) (fun i b=>by rw[e] at b;exact vC.1 u i b) (fun j C _ hl=>by rw[getD_replicate_false] at hl;cases hl) (BI.init hI) (fun _ h=>h) l.drew (by rw[e,List.range_eq_range'];exact h)
 rw[e,List.length_range,show n+(ops.size-n)=ops.size by omega] at this
 exact this
end
section
variable {N:Nat} {S0:Nat→Prop} {w0:World} {s:St} {Φ Φ0:World→Prop} {P:Program} {ops:Array Oper} {Q:Exit→Act→World→Prop}
theorem Strat.append {fin:St→(World→Prop)→Prop}{l2:List Nat}:∀ (l:List Nat) (s:St) (Φ:World→Prop),Strat P N S0 w0 ops Φ0 (fun s Φ=>Strat P N S0 w0 ops Φ0 fin l2 s Φ) l s Φ→Strat P N S0 w0 ops Φ0 fin (l ++ l2) s Φ:=by
 intro l s Φ h
 generalize a:(fun s Φ=>Strat P N S0 w0 ops Φ0 fin l2 s Φ)=f at h
 induction h with
 | done h=>subst a;exact h
 | flt h hd hN _ ih=>exact .flt h hd hN ih
 | does hα sh φ hm hw hn hv hd hN hdo _ ih=>exact .does hα sh φ hm hw hn hv hd hN hdo ih
 | gen hα sh E Ψ hm hw hn hv hd hN hdo Q h0 _ ih=>exact .gen hα sh E Ψ hm hw hn hv hd hN hdo Q h0 ih
 | sto hm h hd _ ih=>exact .sto hm h hd ih
theorem Strat.fin {f g:St→(World→Prop)→Prop}(a:∀ s Φ,f s Φ→g s Φ){l:List Nat}{s:St}{Φ:World→Prop}(h:Strat P N S0 w0 ops Φ0 f l s Φ):Strat P N S0 w0 ops Φ0 g l s Φ:=by
 induction h with
 | done h=>exact .done (a _ _ h)
 | flt h hd hN _ ih=>exact .flt h hd hN ih
 | does hα sh φ hm hw hn hv hd hN hdo _ ih=>exact .does hα sh φ hm hw hn hv hd hN hdo ih
 | gen hα sh E Ψ hm hw hn hv hd hN hdo Q h0 _ ih=>exact .gen hα sh E Ψ hm hw hn hv hd hN hdo Q h0 ih
 | sto hm h hd _ ih=>exact .sto hm h hd ih
def okP (R:Nat→Nat→Bool) (ops:Array Oper) (s0:St) (y j:Nat):Bool:=R j y || ((opAt ops y).apart ops (opAt ops j) && (kK (opAt ops y).op (opAt ops j).op || (lsB (opAt ops y).op (opAt ops j).op && farB ops s0 (opAt ops y) (opAt ops j))))
theorem Zdx {R:Nat→Nat→Bool}{s0:St}{y j:Nat}{c:Oper}{a:Array Bool}(k:dP ops R)(d:iD .any ops a)(f:ops[j]? = some c)(b:∀ e∈c.after,Region.binds .any e=true→a.getD e.on false=true)(g:a.getD y true=false)(h:okP R ops s0 y j=true):(opAt ops y).apart ops (opAt ops j)=true∧(kK (opAt ops y).op (opAt ops j).op=true∨(lsB (opAt ops y).op (opAt ops j).op=true∧farB ops s0 (opAt ops y) (opAt ops j)=true)):=by
 unfold okP at h
 rw[rG] at h
 rcases h with i|i
 ·have h2:=k a d j y i (fun o l=>by
   have:o=c:=sN (l.symm.trans f)
   subst this
   exact b)
  rw[getD_both g] at h2
  cases h2
 simpa only[vG,rG] using i
theorem Zes {n:Nat}{listed:Array Bool}(v:n≤ops.size)(b:fP ops=true)(g:listed.size=ops.size)(h:∃ i,i<n∧listed.getD i true=false):Region.ready .any ops listed≠[]:=by
 obtain⟨x,w,c⟩:∃ x R,un n listed=x :: R:=by
  cases e:un n listed with
  | nil=>obtain⟨i,p⟩:=h;have:=iE.2 p;rw[e] at this;cases this
  | cons x R=>exact⟨x,R,rfl⟩
 have q:=iE.1 (by rw[c];exact tB:x∈un n listed)
 have d:∀ i,i<x→listed.getD i true=true:=fun i r=>by
  cases h:listed.getD i true with
  | true=>rfl
  | false =>
   have:=iE.2 ⟨(by omega:i<n),h⟩
   rw[c] at this
   have k:=eS n listed
   rw[c] at k
   rcases tX.1 this with e|e
   ·omega
   have:=(List.pairwise_cons.1 k).1 i e;omega
 have hxr:x∈Region.ready .any ops listed:=by
  have a:x<ops.size:=by omega
  refine mem_ready.2 ⟨q.2,opAt ops x,iR a,fun e t j=>?_⟩
  have l:=vC.1 b x (rA.2 a)
  rw[iR a] at l
  have f:=Array.all_eq_true'.1 l e t
  rw[j] at f
  have m:=vK f
  have o:=d e.on m
  have u:e.on<listed.size:=by rw[g];exact rR m a
  simp[u] at o ⊢;exact o
 intro h
 rw[h] at hxr;cases hxr
theorem Zdy {l1 l2:List Nat}{j n:Nat}{a:Array Bool}(b:(l1 ++ j :: l2).Nodup)(c:j<a.size)(d:∀ i,i∈l1 ++ j :: l2↔i<n∧a.getD i true=false):∀ i,i∈l1 ++ l2↔i<n∧(a.setIfInBounds j true).getD i true=false:=fun i=>by
 have f:j ∉ l1 ++ l2:=fun h=>by
  rw[List.nodup_append] at b
  obtain⟨_,g,k⟩:=b
  rcases vL.1 h with h|h
  ·exact k j h j tB rfl
  exact (List.nodup_cons.1 g).1 h
 by_cases e:i=j
 ·subst e
  have:(a.setIfInBounds i true).getD i true=true:=by simp[c]
  rw[this]
  simp[f]
 rw[getD_set_ne true (Ne.symm e),← d i]
 simp[e]
theorem Zja {fin:St→(World→Prop)→Prop}{s0:St}{n:Nat}{R:Nat→Nat→Bool}(hR:dP ops R)(hu:fC ops=true)(hn:n≤ops.size)(g:fP ops=true)(m:∀ i,i<n→Zbn R ops n i=true)(z:Region.seqB .any ops (ops.size-n) n (kV ops n)=true)(J:∃ w,Φ0 w)(A:∀ s Φ,fin s Φ→∀ L a w,Inv N S0 w0 s Φ L a w→wpList P ops Q (ops.toList.drop n) a w) :
 ∀ (k:Nat) (listed:Array Bool) (LL:List Nat) (s:St) (Φ:World→Prop) (L:Nat→Nat) (a:Act) (w:World),LL.length=k→listed.size=ops.size→(∀ i,i∈LL↔i<n∧listed.getD i true=false)→LL.Nodup→LL.Pairwise (fun y j=>okP R ops s0 y j=true)→(∀ i,n≤i→i<ops.size→listed.getD i true=false)→iD .any ops listed →
 BI ops s0 s→(∀ w,Φ w→Φ0 w)→Inv N S0 w0 s Φ L a w→Strat P N S0 w0 ops Φ0 fin LL s Φ→wpAny P .any ops Q (k+(ops.size-n)) listed a w:=by
 intro k
 induction k with
 | zero =>
  intro listed LL s Φ L a w hk c b o p q d r S H hS
  obtain rfl:LL=[]:=vZ.1 hk
  have hl:listed=kV ops n:=by
   refine Array.ext (by simp[kV,c];omega) fun i I h2=>?_
   have t:i<ops.size:=by rw[←c];exact I
   have e:listed.getD i true=listed[i]:=by simp[I]
   rw[←e]
   by_cases u:i<n
   ·have:listed.getD i true≠false:=fun h=>by
     have:=(b i).2 ⟨u,h⟩
     cases this
    simp only[kV,qB]
    rw[List.getElem_append_left (by simpa using u),rS]
    cases h:listed.getD i true with
    | true=>rfl
    | false=>exact absurd h this
   rw[q i (by omega) t]
   simp only[kV,qB]
   rw[List.getElem_append_right (by simpa using u),rS]
  have B:(ops.toList.drop n).length=ops.size-n:=by simp
  cases hS with
  | done hf =>
   have:=wpAny_of_seq (md:=.any) (Q':=Q) (ops.toList.drop n) n listed a w (fun j=>by simp[List.getElem?_drop]) (by rw[B,hl];exact z) (A _ _ hf L a w H)
   rw[B] at this
   rw[vO];exact this
 | succ k ih =>
  intro listed LL s Φ L a w hk c b o p q d r S H hS
  rw[show k+1+(ops.size-n)=(k+(ops.size-n))+1 by omega]
  have C:∃ i,i<n∧listed.getD i true=false:=by
   cases LL with
   | nil=>cases hk
   | cons x l=>exact⟨x,(b x).1 tB⟩
  refine⟨fun h=>absurd h (Zes hn g c C),fun j K=>?_⟩
  obtain⟨i0,M,O⟩:=C
  have T:j<n:=Zch hR (m i0 M) d O K
  obtain⟨D,oj,U,E⟩:=mem_ready.1 K
  have V:j∈LL:=(b j).2 ⟨T,D⟩
  obtain⟨v,F,rfl⟩:=List.append_of_mem V
  have W:∀ y,y∈v→y<ops.size∧(opAt ops y).apart ops (opAt ops j)=true∧(kK (opAt ops y).op (opAt ops j).op=true∨(lsB (opAt ops y).op (opAt ops j).op=true∧farB ops s0 (opAt ops y) (opAt ops j)=true)):=fun y hy=>by
   have X:=(b y).1 (rI _ hy)
   exact⟨by omega,Zdx hR d U E X.2 ((sR.1 p).2.2 y hy j tB)⟩
  have Y:=Strat.front hu J v F s Φ H.wf r W hS
  refine Strat.exec hu r (by omega) H S Y fun s' Φ' L' a' w' G Z t K'=>?_
  have f:(v ++ F).Sublist (v ++ j :: F):=rJ (rT j F) v
  refine ih (listed.setIfInBounds j true) (v ++ F) s' Φ' L' a' w' ?_ (by simp[c]) (Zdy o (by omega) b) (o.sublist f) (p.sublist f) (fun i I h2=>?_) (d.set K) G Z t K'
  ·simp only[uA,vM] at hk ⊢
   omega
  rw[getD_set_ne true (by omega)];exact q i I h2
theorem Zet {fin:St→(World→Prop)→Prop}{s0:St}{n j:Nat}{R:Nat→Nat→Bool}(E:dP ops R)(r:fC ops=true)(I:n≤ops.size)(d:fP ops=true)(e:∀ i,i<n→Zbn R ops n i=true)(f:Region.seqB .any ops (ops.size-n) n (kV ops n)=true)(g:∃ w,Φ0 w)(h:∀ s Φ,fin s Φ→∀ L a w,Inv N S0 w0 s Φ L a w→wpList P ops Q (ops.toList.drop n) a w){b:Array Bool}{l1 l2:List Nat}{s:St}{Φ:World→Prop}{L:Nat→Nat}{a:Act}{w:World}(t:b.size=ops.size)(c:∀ i,i∈l1 ++ j :: l2↔i<n∧b.getD i true=false)(k:(l1 ++ j :: l2).Nodup)(J:∀ y,y∈l1→okP R ops s0 y j=true)(u:(l1 ++ l2).Pairwise (fun y j=>okP R ops s0 y j=true))(v:∀ i,n≤i→i<ops.size→b.getD i true=false)(l:iD .any ops b)(m:BI ops s0 s)(S:∀ w,Φ w→Φ0 w)(hi:Inv N S0 w0 s Φ L a w)(F:j∈Region.ready .any ops b)(K:Strat P N S0 w0 ops Φ0 fin (l1 ++ j :: l2) s Φ):wpOp P ops Q j (fun a w=>wpAny P .any ops Q ((l1 ++ l2).length+(ops.size-n)) (b.setIfInBounds j true) a w) a w:=by
 obtain⟨G,Y,x,o⟩:=mem_ready.1 F
 have M:=((c j).1 (by simp)).1
 have z:∀ y,y∈l1→y<ops.size∧(opAt ops y).apart ops (opAt ops j)=true∧(kK (opAt ops y).op (opAt ops j).op=true∨(lsB (opAt ops y).op (opAt ops j).op=true∧farB ops s0 (opAt ops y) (opAt ops j)=true)):=fun y H=>by
  have A:=(c y).1 (rI _ H)
  exact⟨by omega,Zdx E l x o A.2 (J y H)⟩
 have B:=Strat.front r g l1 l2 s Φ hi.wf m z K
 have p:(l1 ++ l2).Sublist (l1 ++ j :: l2):=rJ (rT j l2) l1
 exact Strat.exec r m (by omega) hi S B (fun O Φ' T U w' q C D V=>Zja E r I d e f g h _ (b.setIfInBounds j true) (l1 ++ l2) O Φ' T U w' rfl (by simp[t]) (Zdy k (by omega) c) (k.sublist p) u (fun i W X=>by rw[getD_set_ne true (by omega)];exact v i W X) (l.set F) q C D V)
theorem Zjb {fin:St→(World→Prop)→Prop}{s0:St}{n d l:Nat}{RR:List Nat}{R:Nat→Nat→Bool}(E:dP ops R)(T:fC ops=true)(V:n≤ops.size)(e:fP ops=true)(f:∀ i,i<n→Zbn R ops n i=true)(u:Region.seqB .any ops (ops.size-n) n (kV ops n)=true)(A:∃ w,Φ0 w)(W:∀ r,r∈RR→R r d=true)(v:∀ s Φ,fin s Φ→∀ L a w,Inv N S0 w0 s Φ L a w→wpList P ops Q (ops.toList.drop n) a w) :
 ∀ (k:Nat) (b:Array Bool) (LL:List Nat) (s:St) (Φ:World→Prop) (L:Nat→Nat) (a:Act) (w:World),LL.length=k→b.size=ops.size→(∀ i,i∈LL ++ d :: l :: RR↔i<n∧b.getD i true=false)→(LL ++ d :: l :: RR).Nodup→(LL ++ d :: RR).Pairwise (fun y j=>okP R ops s0 y j=true)→(LL ++ l :: RR).Pairwise (fun y j=>okP R ops s0 y j=true)→(∀ i,n≤i→i<ops.size→b.getD i true=false)→iD .any ops b →
 BI ops s0 s→(∀ w,Φ w→Φ0 w)→Inv N S0 w0 s Φ L a w→Strat P N S0 w0 ops Φ0 (fun s Φ=>Strat P N S0 w0 ops Φ0 fin (d :: l :: RR) s Φ∧Strat P N S0 w0 ops Φ0 fin (l :: d :: RR) s Φ) LL s Φ→wpAny P .any ops Q (k+2+RR.length+(ops.size-n)) b a w:=by
 intro k
 induction k using Nat.strongRecOn with
 | _ k ih =>
  intro b LL s Φ L a w X p c m B C D g q S U Y
  have hA:Strat P N S0 w0 ops Φ0 fin (LL ++ d :: l :: RR) s Φ:=Strat.append LL s Φ (Y.fin (fun _ _ h=>h.1))
  have hB:Strat P N S0 w0 ops Φ0 fin (LL ++ l :: d :: RR) s Φ:=Strat.append LL s Φ (Y.fin (fun _ _ h=>h.2))
  rw[show k+2+RR.length+(ops.size-n)=(k+1+RR.length+(ops.size-n))+1 by omega]
  have F:∃ i,i<n∧b.getD i true=false:=⟨d,(c d).1 (by simp)⟩
  refine⟨fun h=>absurd h (Zes V e p F),fun j G=>?_⟩
  obtain⟨i0,Z,a0⟩:=F
  have b0:j<n:=Zch E (f i0 Z) g a0 G
  obtain⟨H,oj,I,x⟩:=mem_ready.1 G
  have c0:j∈LL ++ d :: l :: RR:=(c j).2 ⟨b0,H⟩
  have J:=sR.1 B
  have d0:=sR.1 C
  by_cases hx:j=d
  ·subst hx
   have:=Zet E T V e f u A v (l1:=LL) (l2:=l :: RR) (s0:=s0) p c m (fun y t=>J.2.2 y t j (by simp)) C D g q S U G hA
   rw[uA,X,vM,show k+(RR.length+1)=k+1+RR.length by omega] at this
   exact this
  by_cases t:j=l
  ·subst t
   have K:(LL ++ j :: d :: RR).Nodup:=by
    refine (List.Perm.nodup_iff (List.Perm.append_left LL (List.Perm.swap j d RR))).1 m
   have:=Zet E T V e f u A v (l1:=LL) (l2:=d :: RR) (s0:=s0) p (fun i=>by rw[←c i];simp[or_left_comm]) K (fun y t=>d0.2.2 y t j (by simp)) B D g q S U G hB
   rw[uA,X,vM,show k+(RR.length+1)=k+1+RR.length by omega] at this
   exact this
  have e0:j∈LL:=by
   have h3:j∈LL∨j∈RR:=by simpa [hx,t] using c0
   refine h3.elim id fun h=>?_
   have h2:=E b g j d (W j h) (fun o ho=>by
    have:o=oj:=sN (ho.symm.trans I)
    subst this
    exact x)
   rw[getD_both ((c d).1 (by simp)).2] at h2
   cases h2
  obtain⟨l1,l2,rfl⟩:=List.append_of_mem e0
  rw[uO,List.cons_append] at c m
  have f0:∀ y,y∈l1→y<ops.size∧(opAt ops y).apart ops (opAt ops j)=true∧(kK (opAt ops y).op (opAt ops j).op=true∨(lsB (opAt ops y).op (opAt ops j).op=true∧farB ops s0 (opAt ops y) (opAt ops j)=true)):=fun y t=>by
   have g0:=(c y).1 (rI _ t)
   exact⟨by omega,Zdx E g I x g0.2 ((sR.1 J.1).2.2 y t j tB)⟩
  have h0:=Strat.front T A l1 l2 s Φ U.wf q f0 Y
  have z:(l1 ++ l2).Sublist (l1 ++ j :: l2):=rJ (rT j l2) l1
  have M:(l1 ++ l2 ++ d :: l :: RR).Nodup:=by
   refine m.sublist ?_
   rw[uO]
   exact rJ (rT j _) l1
  have l0:(l1 ++ l2).length+1=k:=by simp only[uA,vM] at X ⊢;omega
  refine Strat.exec T q (by omega) U S h0 fun s' Φ' L' a' w' O j0 k0 K'=>?_
  have:=ih (l1 ++ l2).length (by omega) (b.setIfInBounds j true) (l1 ++ l2) s' Φ' L' a' w' rfl (by simp[p]) (by rw[uO];exact Zdy m (by omega) c) M (B.sublist (List.Sublist.append_right z _)) (C.sublist (List.Sublist.append_right z _)) (fun i h1 h2=>by rw[getD_set_ne true (by omega)];exact D i h1 h2) (g.set G) O j0 k0 K'
  rwa [show (l1 ++ l2).length+2+RR.length+(ops.size-n)=k+1+RR.length+(ops.size-n) by omega] at this
def pwB (f:Nat→Nat→Bool):List Nat→Bool
 | []=>true
 | y :: l=>l.all (fun j=>f y j) && pwB f l
theorem Zbo {f:Nat→Nat→Bool}:∀ {l:List Nat},pwB f l=true→l.Pairwise (fun y j=>f y j=true)
 | [],_=>.nil
 | y :: l,h=>by
  obtain⟨a,b⟩:=(vG _ _).mp h
  exact .cons (fun j c=>vC.1 a j c) (Zbo b)
def Zjc (n:Nat) (l:List Nat):Bool:=pwB (fun a b => !(Nat.beq a b)) l && (l.all (fun i=>Nat.blt i n) && (List.range n).all (fun i=>l.any (fun j=>Nat.beq i j)))
theorem Zdb {n:Nat}{l:List Nat}(h:Zjc n l=true):l.Nodup :=
 (Zbo ((vG _ _).mp h).1).imp (fun h e=>by subst e;simp at h)
theorem ZfG {n:Nat}{l:List Nat}(h:Zjc n l=true)(i:Nat):i∈l↔i<n:=by
 obtain⟨b,c⟩:=(vG _ _).mp ((vG _ _).mp h).2
 refine⟨fun a=>vK (vC.1 b i a),fun a=>?_⟩
 obtain⟨j,d,e⟩:=List.any_eq_true.1 (vC.1 c i (rA.2 a))
 rw[Nat.eq_of_beq_eq_true e];exact d
def Zeu (K:Nat) (ops:Array Oper) (s0:St) (n x0 y0:Nat) (LL RR:List Nat):Bool :=
 Nat.ble n ops.size && (fC ops && fP ops && ((List.range n).all (fun i=>Zbn (fA .any ops K) ops n i) && (Region.seqB .any ops (ops.size-n) n (kV ops n) && (pwB (okP (fA .any ops K) ops s0) (LL ++ x0 :: RR) && (pwB (okP (fA .any ops K) ops s0) (LL ++ y0 :: RR) && (Zjc n (LL ++ x0 :: y0 :: RR) && RR.all (fun r=>fA .any ops K r x0)))))))
theorem ZgU {id:Nat}(K n f g:Nat)(c e:List Nat){k:SlL}{m:BlL}(o:Zeu K ops (ofL k m) n f g c e=true)(hI:aD ops k=true)(q:P.follows .mixedOrders=true)(h:Strat P N S0 w0 ops Φ (fun s Φ'=>Strat P N S0 w0 ops Φ (fun s Φ=>SXi P N S0 w0 ops Q n s Φ) (f :: g :: e) s Φ'∧Strat P N S0 w0 ops Φ (fun s Φ=>SXi P N S0 w0 ops Q n s Φ) (g :: f :: e) s Φ') c (ofL k m) Φ):SXc P N S0 w0 Q (.region id ops true) (ofL k m) Φ:=by
 unfold Zeu at o
 simp only[vG] at o
 obtain⟨t,⟨u,v⟩,x,y,z,A,l,B⟩:=o
 have C:=vK t
 intro L a w p
 refine wp_region_any q ?_
 have b:(c ++ f :: g :: e).length=n:=by
  have D:(c ++ f :: g :: e).Perm (List.range n):=(List.perm_ext_iff_of_nodup (Zdb l) List.nodup_range).2 (fun i=>by rw[ZfG l i,rA])
  rw[D.length_eq,List.length_range]
 rw[uA] at b
 have:=Zjb (Zcg K ops) (Q:=Q) (fin:=fun s Φ=>SXi P N S0 w0 ops Q n s Φ) u C v (fun i d=>vC.1 x i (rA.2 d)) y ⟨w,p.box.self⟩ (fun r E=>vC.1 B r E) (fun s Φ F L a w d=>F L a w d) c.length (Array.replicate ops.size false) c _ Φ L a w.drew rfl (by simp)
  (fun i=>by
   rw[ZfG l i]
   refine⟨fun h=>⟨h,?_⟩,fun h=>h.1⟩
   simp[show i<ops.size by omega]) (Zdb l) (Zbo z) (Zbo A) (fun i _ G=>by simp[G]) (fun j H _ hl=>by rw[getD_replicate_false] at hl;cases hl) (BI.init hI) (fun _ h=>h) p.drew h
 rw[show c.length+2+e.length+(ops.size-n)=ops.size by simp only[vM] at b;omega] at this
 exact this
def ZaH (P:Program) (N:Nat) (ops:Array Oper):List Nat→St→Option St
 | [],s=>some s
 | i :: l,s=>match stpF P N ops (opAt ops i) s with
   | some s'=>ZaH P N ops l s'
   | none=>none
theorem Zdc {fin:St→(World→Prop)→Prop}:∀ (l:List Nat) (s a:St),ZaH P N ops l s=some a→fin a Φ→Strat P N S0 w0 ops Φ0 fin l s Φ
 | [],s,a,h,K=>by simp only[ZaH,sC] at h;subst h;exact .done K
 | i :: l,s,a,h,K=>by
  unfold ZaH at h
  split at h
  ·rename_i c b
   exact Zbj b (Zdc l _ a h K)
  cases h
def cC (P:Program) (N:Nat) (ops:Array Oper) (l:List Nat) (s:St) (sl:SlL):Option (List (Option AV)×(Nat→Option (TypeId×List AV))) :=
 match ZaH P N ops l s with
 | some s'=>some (sl.map (fun q=>s'.sl q.1),s'.bl)
 | none=>none
theorem Zkb {id:Nat}(n c d:Nat)(e i:List Nat){j:SlL}{l:BlL}(b:SlL)(k:BlL)(u:Zeu 4 ops (ofL j l) n c d e i=true)(v:aD ops j=true)(w:P.follows .mixedOrders=true)(hr:cC P N ops e (ofL j l) b=some (b.map (fun q=>some q.2),iJ k))(m:Strat P N S0 w0 ops Φ (fun s Φ=>SXi P N S0 w0 ops Q n s Φ) (c :: d :: i) (ofL b k) Φ)(y:Strat P N S0 w0 ops Φ (fun s Φ=>SXi P N S0 w0 ops Q n s Φ) (d :: c :: i) (ofL b k) Φ):SXc P N S0 w0 Q (.region id ops true) (ofL j l) Φ:=by
 refine ZgU 4 n c d e i u v w ?_
 unfold cC at hr
 split at hr
 ·rename_i r z
  injection hr with h
  injection h with h2 h3
  have a:∀ t x,(ofL b k).sl t=some x→r.sl t=some x:=fun t x m=>gL (f:=fun q:Nat × AV=>r.sl q.1) (g:=fun q=>some q.2) h2 (lP m)
  exact Zdc e _ _ z ⟨Strat.weak m h3 a (fun s o Φ h p a=>Zab s o Φ h p a),Strat.weak y h3 a (fun s o Φ h p a=>Zab s o Φ h p a)⟩
 cases hr
theorem ZgV {fin:St→(World→Prop)→Prop}{i:Nat}{l:List Nat}(f:FuncId)(a:List Value)(d:Nat){α:Type}[c:Nonempty α](b:α→Value)(φ:α→World→Prop)(e:∀ w,Fr S0 w0 w→Φ w→Calls P f a.toArray w (wS b φ w))(K:∀ x,Strat P N S0 w0 ops Φ0 fin l (s.put d (.v (b x))) (fun w=>Φ w∧φ x w))(g:cls (opAt ops i).op=2:=by kernel_rfl)(h:kX P N ops (opAt ops i) s=some (f,a,d):=by kernel_rfl):Strat P N S0 w0 ops Φ0 fin (i :: l) s Φ:=by
 obtain⟨j,k,m,n,o,p,q⟩:=jB h
 exact .does c b φ g j n o m q (fun w r Q=>ZaF k p (e w r Q)) K
theorem Zam {fin:St→(World→Prop)→Prop}{i:Nat}{l:List Nat}(d:Nat){α:Type}[c:Nonempty α](a:α→Value)(φ:α→World→Prop)(b:∀ w,Fr S0 w0 w→Φ w→Does P (opAt ops i) s.rho w (DoR a φ w))(K:∀ x,Strat P N S0 w0 ops Φ0 fin l (s.put d (.v (a x))) (fun w=>Φ w∧φ x w))(e:cls (opAt ops i).op=2:=by kernel_rfl)(f:s.wantB ops (opAt ops i)=some true:=by kernel_rfl)(g:lF (opAt ops i).op=true:=by kernel_rfl)(h:(opAt ops i).op.operands.toList.all s.vB=true:=by kernel_rfl)(j:(opAt ops i).dst=some d:=by kernel_rfl)(k:Nat.blt d N=true:=by kernel_rfl):Strat P N S0 w0 ops Φ0 fin (i :: l) s Φ :=
 .does c a φ e f g h j (vK k) b K
theorem SXi.weak {i:Nat}{Ψ:World→Prop}(b:SlL)(c:BlL)(R:∀ w,Φ w→Ψ w)(h:SXi P N S0 w0 ops Q i (ofL b c) Ψ)(d:zX s b c)(e:wfB b c=true:=by kernel_rfl):SXi P N S0 w0 ops Q i s Φ:=fun L a w f=>h L a w (f.weak d e R)
end
section
variable {N:Nat} {S0:Nat→Prop} {w0:World} {s:St} {Φ Ψ:World→Prop} {L:Nat→Nat} {a:Act} {w:World} {P:Program} {ops:Array Oper} {Q:Exit→Act→World→Prop}
theorem Inv.eff3 (h:Inv N S0 w0 s Φ L a w){w':World}{r:Nat}(g:Fr (fun i=>i=r) w w')(l:¬ s.own L r)(d:w0.heap.size≤r∨S0 r)(m:∀ w1 w2,Fr S0 w0 w2→Φ w1→Fr (fun i=>i=r) w1 w2→Fr (s.own L) w' w2→Ψ w2):Inv N S0 w0 s Ψ L a w':=by
 refine⟨h.size,h.df,h.sl,⟨fun b t n e=>(h.mem.blk b t n e).fr g (fun o=>l ⟨b,by rw[e];rfl,o⟩),h.mem.inj,h.mem.old,h.mem.ext.next g (fun i p e=>?_),h.mem.slp,h.mem.cel⟩,fun w2 j=>?_⟩
 ·rcases d with f|f
  ·omega
  rw[e];exact f
 have k:Fr (fun i=>s.own L i∨i=r) w w2:=(g.mono (fun i _ e=>Or.inr e)).trans (j.mono (fun i _ e=>Or.inl e))
 obtain⟨w1,q,u⟩:=k.split
 refine m w1 w2 (h.mem.ext.next k (fun i p v=>?_)) (h.box w1 q) u j
 rcases v with ⟨c,x,e⟩|e
 ·rcases h.mem.old c x with f|f
  ·omega
  rw[←e];exact f
 rcases d with f|f
 ·omega
 rw[e];exact f
end
section
variable {N:Nat} {S0:Nat→Prop} {w0:World} {s:St} {Φ Ψ:World→Prop} {L:Nat→Nat} {a:Act} {w:World} {P:Program} {ops:Array Oper} {Q:Exit→Act→World→Prop}
theorem Inv.eff4 (h:Inv N S0 w0 s Φ L a w){w':World}{T:Nat→Prop}(f:Fr T w w')(g:∀ i,T i→¬ s.own L i∧(w0.heap.size≤i∨S0 i))(l:∀ w1 w2,Fr S0 w0 w2→Φ w1→Fr T w1 w2→Fr (s.own L) w' w2→Ψ w2):Inv N S0 w0 s Ψ L a w':=by
 refine⟨h.size,h.df,h.sl,⟨fun b t m e=>(h.mem.blk b t m e).fr f (fun n=>(g _ n).1 ⟨b,by rw[e];rfl,rfl⟩),h.mem.inj,h.mem.old,h.mem.ext.next f (fun i o e=>?_),h.mem.slp,h.mem.cel⟩,fun w2 j=>?_⟩
 ·rcases (g i e).2 with d|d
  ·omega
  exact d
 have k:Fr (fun i=>s.own L i∨T i) w w2:=(f.mono (fun i _ e=>Or.inr e)).trans (j.mono (fun i _ e=>Or.inl e))
 obtain⟨w1,p,q⟩:=k.split
 refine l w1 w2 (h.mem.ext.next k (fun i o r=>?_)) (h.box w1 p) q j
 rcases r with ⟨c,u,e⟩|e
 ·rcases h.mem.old c u with d|d
  ·omega
  rw[←e];exact d
 rcases (g i e).2 with d|d
 ·omega
 exact d
end
end Go.Proofs.YtoanifijmlgcgaaGreatDoor
namespace Go.Proofs.YtoanifijmlgcgaaGreatDoor
open Go.RowKit Go.Lib
end Go.Proofs.YtoanifijmlgcgaaGreatDoor
namespace Go.Proofs.YtoanifijmlgcgaaGreatDoor
open Go.RowKit
section
variable {N:Nat} {S0:Nat→Prop} {w0:World} {s:St} {Φ Ψ:World→Prop} {L:Nat→Nat} {a:Act} {w:World} {P:Program} {ops:Array Oper} {Q:Exit→Act→World→Prop}
end
def OwnD (w:World) (m:Nat) (e:TypeId) (k:Nat) (A:Option Addr) (c n:Nat) (xs:List Value):Prop :=
 xs.length=n*k∧((A=none∧c=0∧n=0)∨∃ g cur,A=some ⟨g,0,none⟩∧m≤g∧Blk e w g cur∧wG cur∧n≤c∧c≤maxLen∧cur.size=c*k∧cur.toList.take (n*k)=xs)
section
variable {w w':World} {m n c k:Nat} {e:TypeId} {A:Option Addr} {xs:List Value}
theorem OwnD.nil (w:World)(m:Nat)(e:TypeId)(k:Nat):OwnD w m e k none 0 0 []:=⟨by simp,Or.inl ⟨rfl,rfl,rfl⟩⟩
theorem OwnD.own (h:OwnD w m e k A c n xs):w.ownsRow m e k (.slice A n c) n xs:=by
 obtain⟨d,f⟩:=h
 refine⟨d,?_⟩
 rcases f with ⟨rfl,rfl,rfl⟩|⟨g,b,rfl,i,j,_,l⟩
 ·exact Or.inl ⟨rfl,rfl⟩
 exact Or.inr ⟨g,c,b,rfl,i,j,l⟩
theorem OwnD.mono {f:Nat}(h:OwnD w m e k A c n xs)(l:f≤m):OwnD w f e k A c n xs:=by
 obtain⟨i,b⟩:=h
 refine⟨i,?_⟩
 rcases b with b|⟨g,d,rfl,o,j⟩
 ·exact Or.inl b
 exact Or.inr ⟨g,d,rfl,by omega,j⟩
theorem OwnD.fr {S:Nat→Prop}(h:OwnD w m e k A c n xs)(f:Fr S w w')(j:∀ i,A=some ⟨i,0,none⟩→¬ S i):OwnD w' m e k A c n xs:=by
 obtain⟨l,b⟩:=h
 refine⟨l,?_⟩
 rcases b with b|⟨g,d,rfl,o,p,q⟩
 ·exact Or.inl b
 exact Or.inr ⟨g,d,rfl,o,p.fr f (j g rfl),q⟩
theorem OwnD.blk (h:OwnD w m e k A c n xs){i:Nat}(hi:A=some ⟨i,0,none⟩):m≤i∧∃ cur,Blk e w i cur∧wG cur:=by
 rcases h.2 with ⟨h3,_⟩|⟨b,cur,h3,d,f,g,_⟩
 ·rw[hi] at h3;cases h3
 rw[hi] at h3
 injection h3 with h3
 injection h3 with h3
 subst h3
 exact⟨d,cur,f,g⟩
theorem wG.list {l:List Value}(h:∀ (k:IntKind) (z:Int),Value.int k z∈l→k=.i64):wG l.toArray:=fun i k z e=>by
 rw[List.getElem?_toArray] at e
 exact h k z (List.mem_of_getElem? e)
theorem wG.mem {cs:Array Value}(h:wG cs){k:IntKind}{z:Int}(b:Value.int k z∈cs.toList):k=.i64:=by
 obtain⟨i,d,e⟩:=rO b
 exact h i k z (by rw[←Array.getElem?_toList,List.getElem?_eq_getElem d,e])
theorem Zdz {z:Array Value}{n:Nat}{v:Value}(h:v∈(Builtin.zeroCells z n).toList):v∈z.toList:=by
 simp[Builtin.zeroCells] at h
 obtain⟨j,d,b⟩:=h
 have f:0<z.size:=rU (fun e=>by rw[e] at d;omega)
 rw[getElem!_pos z (j%z.size) (uP _ f)] at b
 rw[←b]
 simp
theorem ZgW {P:Program}(w:World)(m:Nat)(t I e:TypeId)(i:TypeInfo)(z:Value)(k bytes:Nat)(K:P.underlying t=some (.slice e))(hi:P.info? e=some i)(hz:i.zero=some z)(M:i.size=k)(O:i.bytes=bytes)(R:z.cells.size=k)(b0:0<k)(S:wG z.cells)(A:Option Addr)(c n:Nat)(xs:List Value)(hO:OwnD w m e k A c n xs)(a:Addr)(d c2:Nat)(news:List Value)(C:news.length=d*k)(T:0<d)(b:∀ j u,news[j]? = some u→w.cell? (a.add j)=some u)(h1:∀ u∈news,u.oneCell'=true)(D:∀ (k:IntKind) (z:Int),Value.int k z∈news→k=.i64)(E:n+d≤maxLen)(o:(n+d)*bytes≤140737488355328)(hm:m≤w.heap.size) :
 ∃ J c' w',(Builtin.append_ #[t,t] I #[.slice A n c,.slice (some a) d c2]).run P w=.ok (.slice J (n+d) c') w'∧OwnD w' m e k J c' (n+d) (xs ++ news)∧Fr (fun i=>A=some ⟨i,0,none⟩) w w'∧(∀ i,J=some ⟨i,0,none⟩→A=some ⟨i,0,none⟩∨i=w.heap.size)∧J≠none:=by
 subst M O
 have p:(xs ++ news).length=(n+d)*i.size:=by rw[uA,hO.1,C,uT]
 have a0:n+d≤9223372036854775807:=by simp only[maxLen] at E;omega
 obtain⟨v,h2⟩:=hO
 have grown:∀ (old:Nat),wG xs.toArray→OwnD (w.drew.alloc (.cells (xs.toArray ++ news.toArray ++ Builtin.zeroCells z.cells (grownCap w (n+d) old e-(n+d))) e)) m e i.size (some ⟨w.heap.size,0,none⟩) (grownCap w (n+d) old e) (n+d) (xs ++ news):=fun old hx=>by
  have U:=grownCap_ge w (n+d) old e
  refine⟨p,Or.inr ⟨w.heap.size,_,rfl,hm,heap_alloc_new w.drew _,fun j q y hj=>?_,U,grownCap_le_maxLen w (n+d) old e E,?_,?_⟩⟩
  ·have h3:=List.mem_of_getElem? (by rw[←Array.getElem?_toList] at hj;exact hj)
   rw[tZ,tZ] at h3
   rcases vL.1 h3 with h3|h3
   ·rcases vL.1 h3 with h3|h3
    ·exact hx.mem h3
    exact D q y (by simpa using h3)
   exact S.mem (Zdz h3)
  ·simp only[Array.size_append,qO,size_zeroCells,R,v,C,← uT]
   congr 1
   omega
  simp only[tZ,uO]
  rw[←uO,← p]
  exact List.take_left
 rcases h2 with ⟨rfl,rfl,rfl⟩|⟨g,r,rfl,V,W,x,c0,X,Y,f⟩
 ·obtain rfl:xs=[]:=sJ (by simpa using v)
  have F:=run_append_nil (P:=P) w t I e i z K hi hz a d c2 news C b T (by omega) (by have hb:=o;simp only[vO] at hb;omega)
  have G:=grown 0 (fun i k z h=>by simp at h)
  simp only[vO,qW,Array.empty_append] at G ⊢
  exact⟨_,_,_,F,G,((Fr.refl _ w).drewN 1).alloc _,fun j e=>by injection e with e;injection e with e;exact Or.inr e.symm,by simp⟩
 have Z:wG xs.toArray:=wG.list (fun k z h=>x.mem (sD (f ▸ h)))
 by_cases l:n+d≤c
 ·have H:n*i.size+news.length≤r.size:=by rw[C,Y,← uT];exact uC _ l
  have F:=run_append_room (P:=P) w t I e i K hi g n c r W a d c2 news C b h1 l H
  refine⟨_,_,_,F,⟨p,Or.inr ⟨g,_,rfl,V,setRow_heap w g r _ e _ W,wG.list (fun k z h=>?_),l,X,?_,?_⟩⟩,⟨rfl,rfl,rfl,by simp,fun k _ M=>setRow_other w g k _ (fun e=>M (by rw[e]))⟩,fun j e=>Or.inl e,by simp⟩
  ·rcases vL.1 h with h|h
   ·rcases vL.1 h with h|h
    ·exact x.mem (sD h)
    exact D k z h
   exact x.mem (sP h)
  ·simp only[qO,uA,uL,vJ,Array.length_toList]
   omega
  rw[f,← p]
  exact List.take_left
 have B:∀ j u,xs[j]? = some u→w.cell? ((⟨g,0,none⟩:Addr).add j)=some u:=fun j u hu=>by
  have h3:(r.toList.take (n*i.size))[j]? = some u:=by rw[f];exact hu
  rw[Lib.add_plain,vO,Blk.cell W]
  rw[List.getElem?_take] at h3
  split at h3
  ·simpa using h3
  cases h3
 have F:=run_append_grow (P:=P) w t I e i z K hi hz ⟨g,0,none⟩ n c xs v B a d c2 news C b (by omega) (by omega) (growslice_fits (by omega) o)
 exact⟨_,_,_,F,grown c Z,((Fr.refl _ w).drewN 1).alloc _,fun j e=>by injection e with e;injection e with e;exact Or.inr e.symm,by simp⟩
end
section
variable {N:Nat} {S0:Nat→Prop} {w0:World} {s:St} {Φ Ψ:World→Prop} {L:Nat→Nat} {a:Act} {w:World} {P:Program} {ops:Array Oper} {Q:Exit→Act→World→Prop}
theorem lJ {i d k n m cap bytes:Nat}{t e:TypeId}{s0 x:Operand}{xs news:List Value}{z:Value}(base:Nat)(A:Option Addr)(p:∀ j,A=some ⟨j,0,none⟩→base≤j→w0.heap.size≤j∨S0 j)(G c2:Nat)(Ψ:World→Prop)(hb:∀ w,Fr S0 w0 w→Φ w→base≤w.heap.size)(Z:∀ w,Φ w→OwnD w base e k A cap n xs)(hX:∀ w,Φ w→∀ j u,news[j]? = some u→w.cell? ⟨G,j,none⟩=some u)(hl:news.length=m*k)(hk:0<k)(hz:z.cells.size=k)(H:wG z.cells)(I:0<m)(h1:∀ u∈news,u.oneCell'=true)(J:∀ (k:IntKind) (z:Int),Value.int k z∈news→k=.i64)(M:n+m≤maxLen)(f:(n+m)*bytes≤140737488355328)(O:n=0→A=none)(hΨ:∀ w w',Fr S0 w0 w'→Φ w→Fr (fun i=>A=some ⟨i,0,none⟩) w w'→Ψ w')(K:∀ (A':Option Addr) (cap':Nat),A'≠none∧(∀ j,A'=some ⟨j,0,none⟩→A=some ⟨j,0,none⟩∨w0.heap.size≤j)→SXi P N S0 w0 ops Q (i+1) (s.put d (.v (.slice A' (n+m) cap'))) (fun w=>Ψ w∧OwnD w base e k A' cap' (n+m) (xs ++ news)))(S:Nat.blt i ops.size=true:=by kernel_rfl)(hw:s.wantB ops (opAt ops i)=some true:=by kernel_rfl)(hv:(opAt ops i).op.operands.toList.all s.vB=true:=by kernel_rfl)(ho:(opAt ops i).op=.call { callee:=.builtin .append,args:=#[s0,x],argTypes:=#[t,t] }:=by kernel_rfl)(hd:(opAt ops i).dst=some d:=by kernel_rfl)(hN:Nat.blt d N=true:=by kernel_rfl)(ht:P.underlying t=some (.slice e):=by kernel_rfl)(r:(P.info? e).map (fun i=>(i.zero,i.size,i.bytes))=some (some z,k,bytes):=by kernel_rfl)(hs:s.rho s0=.slice A n cap:=by kernel_rfl)(hx:s.rho x=.slice (some ⟨G,0,none⟩) m c2:=by kernel_rfl):SXi P N S0 w0 ops Q i s Φ:=by
 unfold SXi
 rw[jS S]
 intro L a w b
 refine wpList_step fun K' hK=>?_
 rw[tA (b.want hw)]
 unfold Oper.wp
 have T:lF (opAt ops i).op=true:=by rw[ho];rfl
 rw[b.exec T hv]
 obtain⟨U,D,E⟩:=uV.1 r
 injection E with hz0 E
 injection E with hsize hby
 have y:=Z w b.box.self
 have V:=hX w b.box.self
 have hT:∀ j,A=some ⟨j,0,none⟩→¬ s.own L j∧(w0.heap.size≤j∨S0 j):=fun j hj=>by
  have a0:n≠0:=fun h=>by rw[O h] at hj;cases hj
  have l:0<xs.length:=by rw[y.1];exact rQ (by omega) hk
  refine⟨b.notOwn (c:=xs[0]'l) (j:=0) (fun w R=>?_),?_⟩
  ·have C:=(Z w R).own.cells (g:=j) (by rw[hj];rfl) 0 (xs[0]'l) (by simp)
   rw[Lib.add_plain] at C
   exact C
  exact p j hj (y.blk hj).1
 obtain⟨A',cap',w',F,hr,W,o,X⟩:=ZgW (P:=P) w base t (opAt ops i).type e U z k bytes ht D hz0 hsize hby hz hk H A cap n xs y ⟨G,0,none⟩ m c2 news hl I
  (fun j u hj=>by rw[Lib.add_plain,vO];exact V j u hj) h1 J M f (hb w b.mem.ext b.box.self)
 have B:(execOp s.rho (opAt ops i)).run P w=.ok (.value (.slice A' (n+m) cap')) w':=by simp[execOp,ho,resolve,invoke,builtin,hs,hx,F,Result.andThen]
 rw[B,Oper.upon_value,hd]
 have h0:=b.app0 (d:=d) (vK hN) (al_v (s:=s) (.slice A' (n+m) cap'))
 have Y:∀ b',A'=some ⟨b',0,none⟩→¬ s.own L b':=fun b' e1=>by
  rcases o b' e1 with C|rfl
  ·exact (hT b' C).1
  rintro⟨c,hc,e⟩
  obtain⟨q,eq⟩:=tS.1 hc
  have:=(b.mem.blk c q.1 q.2 eq).lt
  omega
 exact hK _ _ (K A' cap' ⟨X,fun j hj=>(o j hj).elim Or.inl (fun (e:j=w.heap.size)=>Or.inr (by rw[e];exact b.mem.ext.size))⟩ L _ _ (h0.eff4 W hT (fun w1 w2 E C h4 h5=>⟨hΨ w1 w2 E C h4,hr.fr h5 Y⟩)))
theorem Zmu {i d k m b0 bytes:Nat}{t e:TypeId}{s0 x:Operand}{news:List Value}{z:Value}(base:Nat)(I c2:Nat)(J:∀ w,Fr S0 w0 w→Φ w→base≤w.heap.size)(hX:∀ w,Φ w→∀ j u,news[j]? = some u→w.cell? ⟨I,j,none⟩=some u)(F:news.length=m*k)(hz:z.cells.size=k)(M:wG z.cells)(a0:0<m)(O:∀ (k:IntKind) (z:Int),Value.int k z∈news→k=.i64)(C:m≤maxLen)(l:m*bytes≤140737488355328)(K:∀ (A':Option Addr) (cap':Nat),A'≠none→SXi P N S0 w0 ops Q (i+1) (s.put d (.v (.slice A' m cap'))) (fun w=>Φ w∧OwnD w base e k A' cap' m news))(S:Nat.blt i ops.size=true:=by kernel_rfl)(hw:s.wantB ops (opAt ops i)=some true:=by kernel_rfl)(hv:(opAt ops i).op.operands.toList.all s.vB=true:=by kernel_rfl)(Y:(opAt ops i).op=.call { callee:=.builtin .append,args:=#[s0,x],argTypes:=#[t,t] }:=by kernel_rfl)(hd:(opAt ops i).dst=some d:=by kernel_rfl)(hN:Nat.blt d N=true:=by kernel_rfl)(ht:P.underlying t=some (.slice e):=by kernel_rfl)(p:(P.info? e).map (fun i=>(i.zero,i.size,i.bytes))=some (some z,k,bytes):=by kernel_rfl)(T:s.rho s0=.slice (some ⟨b0,0,none⟩) 0 0:=by kernel_rfl)(hx:s.rho x=.slice (some ⟨I,0,none⟩) m c2:=by kernel_rfl):SXi P N S0 w0 ops Q i s Φ:=by
 unfold SXi
 rw[jS S]
 intro L a w r
 refine wpList_step fun K' hK=>?_
 rw[tA (r.want hw)]
 unfold Oper.wp
 have U:lF (opAt ops i).op=true:=by rw[Y];rfl
 rw[r.exec U hv]
 obtain⟨D,E,V⟩:=uV.1 p
 injection V with hz0 V
 injection V with hsize hby
 subst hsize hby
 have W:=hX w r.box.self
 have Z:m≤9223372036854775807:=by simp only[maxLen] at C;omega
 have o:=run_append_grow (P:=P) w t (opAt ops i).type e D z ht E hz0 ⟨b0,0,none⟩ 0 0 [] (by simp) (fun j v h=>by simp at h) ⟨I,0,none⟩ m c2 news F (fun j u G=>by rw[Lib.add_plain,vO];exact W j u G) (by omega) (by omega) (growslice_fits (by omega) (by rw[vO];exact l))
 rw[vO] at o
 have B:(execOp s.rho (opAt ops i)).run P w=.ok (.value (.slice (some ⟨w.heap.size,0,none⟩) m (grownCap w m 0 e))) (w.drew.alloc (.cells (([]:List Value).toArray ++ news.toArray ++ Builtin.zeroCells z.cells (grownCap w m 0 e-m)) e)):=by simp[execOp,Y,resolve,invoke,builtin,T,hx,o,Result.andThen]
 rw[B,Oper.upon_value,hd]
 have f:=r.app0 (d:=d) (vK hN) (al_v (s:=s) (.slice (some ⟨w.heap.size,0,none⟩) m (grownCap w m 0 e)))
 have R:Ext w (w.drew.alloc (.cells (([]:List Value).toArray ++ news.toArray ++ Builtin.zeroCells z.cells (grownCap w m 0 e-m)) e)):=((Fr.refl _ w).drewN 1).alloc _
 have X:=grownCap_ge w m 0 e
 have hO:OwnD (w.drew.alloc (.cells (([]:List Value).toArray ++ news.toArray ++ Builtin.zeroCells z.cells (grownCap w m 0 e-m)) e)) base e D.size (some ⟨w.heap.size,0,none⟩) (grownCap w m 0 e) m news:=by
  refine⟨F,Or.inr ⟨w.heap.size,_,rfl,J w r.mem.ext r.box.self,heap_alloc_new w.drew _,fun j q y G=>?_,X,grownCap_le_maxLen w m 0 e C,?_,?_⟩⟩
  ·have g:=List.mem_of_getElem? (by rw[←Array.getElem?_toList] at G;exact G)
   rw[tZ,tZ] at g
   rcases vL.1 g with g|g
   ·rcases vL.1 g with g|g
    ·simp at g
    exact O q y (by simpa using g)
   exact M.mem (Zdz g)
  ·simp only[Array.size_append,qO,size_zeroCells,hz,F,← uT,sO,vO]
   congr 1
   omega
  simp only[tZ,qW]
  rw[←F]
  exact List.take_left
 refine hK _ _ (K _ _ (by simp) L _ _ ⟨f.size,f.df,f.sl,⟨fun b t cs e=>(f.mem.blk b t cs e).ext R,f.mem.inj,f.mem.old,f.mem.ext.ext R,f.mem.slp,f.mem.cel⟩,fun w2 hf=>⟨f.box.ext R w2 hf,hO.fr hf (fun j H T=>?_)⟩⟩)
 injection H with H
 injection H with H
 obtain⟨b,J,eb⟩:=T
 obtain⟨q,eq⟩:=tS.1 J
 have:=(r.mem.blk b q.1 q.2 eq).lt
 omega
theorem Zan {m0:Nat}{P:Program}{o:Oper}{ρ:Operand→Value}{w:World}{t e:TypeId}{sz:Nat}(g:m0≤w.heap.size)(j:o.op=Op.buildSlice t 0 #[])(l:P.underlying t=some (.slice e))(d:(P.info? e).map (fun i=>i.size)=some sz) :
 Does P o ρ w (DoR (fun b:{b:Nat // m0≤b}=>.slice (some ⟨b.1,0,none⟩) 0 0) (fun b w=>Blk e w b.1 #[]) w):=by
 obtain⟨i,p,x⟩:=uV.1 d
 have f:(Instr.buildSlice t 0 #[]).run P w=.ok (.slice (some ⟨w.heap.size,0,none⟩) 0 0) (w.alloc (.cells #[] e)):=by
  unfold Instr.buildSlice
  have q:Array.range 0=#[]:=Array.eq_empty_of_size_eq_zero (by simp)
  simp[underlying,l,sizeOf,typeInfo,p,newRow,newObj,Result.andThen,Instr.fill,q]
  rfl
 exact Or.inl ⟨_,_,by simp[execOp,j,f,Result.andThen],⟨w.heap.size,g⟩,rfl,(Fr.refl _ w).alloc _,fun S r u v=>(Blk.new w e #[]).fr v (fun h=>by have:=(r _ h).1;omega)⟩
theorem SXc.size {c:Code}{Q:Exit→Act→World→Prop}(p:Nat→Prop)(f:∀ w,Fr S0 w0 w→Φ w→p w.heap.size)(K:∀ m1,p m1→SXc P N S0 w0 Q c s (fun w=>Φ w∧m1≤w.heap.size)):SXc P N S0 w0 Q c s Φ:=fun L a w b =>
 K w.heap.size (f w b.mem.ext b.box.self) L a w ⟨b.size,b.df,b.sl,b.mem,fun g d=>⟨b.box g d,d.size⟩⟩
theorem Blk.news {e:TypeId}{b:Nat}{news:List Value}(h:Blk e w b news.toArray):∀ j u,news[j]? = some u→w.cell? ⟨b,j,none⟩=some u:=fun j u d=>by rw[h.cell];simpa using d
theorem OwnD.news {m k c n b:Nat}{e:TypeId}{news:List Value}(h:OwnD w m e k (some ⟨b,0,none⟩) c n news):∀ j u,news[j]? = some u→w.cell? ⟨b,j,none⟩=some u:=fun j u hj=>by
 rcases h.2 with ⟨h3,_⟩|⟨g,d,h3,_,f,_,_,_,_,i⟩
 ·cases h3
 injection h3 with h3
 injection h3 with h3
 subst h3
 rw[f.cell]
 rw[←i,List.getElem?_take] at hj
 split at hj
 ·simpa using hj
 cases hj
theorem OwnD.ofBlk {m k n b:Nat}{e:TypeId}{xs:List Value}(h:Blk e w b xs.toArray)(f:m≤b)(d:xs.length=n*k)(g:n≤maxLen)(i:∀ (k:IntKind) (z:Int),Value.int k z∈xs→k=.i64):OwnD w m e k (some ⟨b,0,none⟩) n n xs :=
 ⟨d,Or.inr ⟨b,_,rfl,f,h,wG.list i,uR _,g,by simpa using d,by rw[List.toList_toArray,← d,qT]⟩⟩
theorem OwnD.blkSome {m k n c:Nat}{e:TypeId}{A:Option Addr}{xs:List Value}(h:OwnD w m e k A c n xs)(j:0<n):∃ b,A=some ⟨b,0,none⟩∧m≤b:=by
 rcases h.2 with ⟨_,_,d⟩|⟨g,f,d,i,_⟩
 ·omega
 exact⟨g,d,i⟩
def BoxT (b:Nat) (w w':World) (φ:World→Prop):Prop:=∀ (S:Nat→Prop) (w'':World),(∀ i,S i→i<w.heap.size∧i≠b∧NRB w i)→Fr S w' w''→φ w''
theorem BoxT.and {b:Nat}{w w':World}{φ ψ:World→Prop}(h:BoxT b w w' φ)(k:BoxT b w w' ψ):BoxT b w w' (fun w=>φ w∧ψ w):=fun S d f g=>⟨h S d f g,k S d f g⟩
theorem wJ {i d b:Nat}{α:Type}(f:FuncId)(g:List Value)(q:α→Value)(Ψ:World→Prop)(φ:α→World→Prop){c:Value}{j:Nat}(B:∀ w,Φ w→w.cell? ⟨b,j,none⟩=some c)(p:w0.heap.size≤b∨S0 b)(C:∀ w,Fr S0 w0 w→Φ w→Calls P f g.toArray w (fun en w'=>∃ x,en=.returned (q x)∧Fr (fun i=>i=b) w w'∧BoxT b w w' (φ x)))(D:∀ w w',Fr S0 w0 w'→Φ w→Fr (fun i=>i=b) w w'→Ψ w')(K:∀ x,SXi P N S0 w0 ops Q (i+1) (s.put d (.v (q x))) (fun w=>Ψ w∧φ x w))(t:Nat.blt i ops.size=true:=by kernel_rfl)(h:kX P N ops (opAt ops i) s=some (f,g,d):=by kernel_rfl):SXi P N S0 w0 ops Q i s Φ:=by
 obtain⟨E,F,G,H,I,J,M⟩:=jB h
 unfold SXi
 rw[jS t]
 intro L a w l
 refine wpList_step fun K' O=>?_
 rw[tA (l.want E)]
 unfold Oper.wp
 rw[l.exec H I,bL F J,Oper.upon_enter]
 refine Calls.mono (C w l.mem.ext l.box.self) fun en w' R=>?_
 obtain⟨x,rfl,S,T⟩:=R
 simp only[G]
 have U:=l.app0 (d:=d) M (al_v (s:=s) (q x))
 have o:¬ s.own L b:=l.notOwn (c:=c) (j:=j) B
 have u:∀ r,s.own L r→r<w.heap.size∧r≠b∧NRB w r:=fun r y=>⟨(l.own_nrb y).1,fun e=>o (e ▸ y),(l.own_nrb y).2⟩
 exact O _ _ (K x L _ _ (U.eff3 S o p (fun V z W X Y Z=>⟨D V z W X Y,T _ z u Z⟩)))
def BoxU (T:Nat→Prop) (w w':World) (φ:World→Prop):Prop:=∀ (S:Nat→Prop) (w'':World),(∀ i,S i→i<w.heap.size∧¬ T i∧NRB w i)→Fr S w' w''→φ w''
theorem Zll {i d:Nat}{α:Type}(T:Nat→Prop)(f:FuncId)(b:List Value)(o:α→Value)(Ψ:World→Prop)(φ:α→World→Prop)(p:∀ i,T i→∃ c j,∀ w,Φ w→w.cell? ⟨i,j,none⟩=some c)(l:∀ i,T i→w0.heap.size≤i∨S0 i)(C:∀ w,Fr S0 w0 w→Φ w→Calls P f b.toArray w (fun en w'=>∃ x,en=.returned (o x)∧Fr T w w'∧BoxU T w w' (φ x)))(D:∀ w w',Fr S0 w0 w'→Φ w→Fr T w w'→Ψ w')(K:∀ x,SXi P N S0 w0 ops Q (i+1) (s.put d (.v (o x))) (fun w=>Ψ w∧φ x w))(q:Nat.blt i ops.size=true:=by kernel_rfl)(h:kX P N ops (opAt ops i) s=some (f,b,d):=by kernel_rfl):SXi P N S0 w0 ops Q i s Φ:=by
 obtain⟨E,F,G,H,I,J,M⟩:=jB h
 unfold SXi
 rw[jS q]
 intro L a w g
 refine wpList_step fun K' O=>?_
 rw[tA (g.want E)]
 unfold Oper.wp
 rw[g.exec H I,bL F J,Oper.upon_enter]
 refine Calls.mono (C w g.mem.ext g.box.self) fun en w' R=>?_
 obtain⟨x,rfl,S,U⟩:=R
 simp only[G]
 have V:=g.app0 (d:=d) M (al_v (s:=s) (o x))
 have y:∀ j,T j→¬ s.own L j∧(w0.heap.size≤j∨S0 j):=fun j z=>by
  obtain⟨c,k,W⟩:=p j z
  exact⟨g.notOwn (c:=c) (j:=k) W,l j z⟩
 have t:∀ r,s.own L r→r<w.heap.size∧¬ T r∧NRB w r:=fun r u=>⟨(g.own_nrb u).1,fun e=>(y r e).1 u,(g.own_nrb u).2⟩
 exact O _ _ (K x L _ _ (V.eff4 S y (fun X B Y Z h4 h5=>⟨D X B Y Z h4,U _ B t h5⟩)))
end
end Go.Proofs.YtoanifijmlgcgaaGreatDoor
