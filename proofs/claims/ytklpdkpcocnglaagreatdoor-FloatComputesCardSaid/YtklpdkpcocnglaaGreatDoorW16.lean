/-
 My texts Gen, Small, Rat2, SxK, Sx8, Sx9, Sx12, Sx13, Pw, Fna, Nr, Ng, FlM, FlS, FlN, Rn0, Nsh put together.
-/
import Derived.Test.YtklpdkpcocnglaaGreatDoorW14
import Derived.Test.YtklpdkpcocnglaaGreatDoorW10
import Derived.Test.YtklpdkpcocnglaaGreatDoorW11
import Derived.Outline
import Derived.Test.YtklpdkpcocnglaaGreatDoorW15
import Derived.Test.YtklpdkpcocnglaaGreatDoorW01
import Derived.Deep.LoopGhost
import Derived.Test.YtklpdkpcocnglaaGreatDoorW06
import Derived.Test.YtklpdkpcocnglaaGreatDoorW03
import Derived.Test.YtklpdkpcocnglaaGreatDoorW07
set_option maxRecDepth 100000
set_option maxHeartbeats 8000000
namespace Go.Proofs.YtklpdkpcocnglaaGreatDoor
open Go.RowKit
theorem zM:Tryz.prog.follows .mixedOrders=true:=by kernel_rfl
def Zd2 (cs:Array Value):Prop:=∀ (i:Nat) (k:IntKind) (z:Int),cs[i]? = some (.int k z)→k=.i64
theorem lO {s:Bool}{A:Option Addr}{l c:Nat}:Zd2 #[.bool s,.slice A l c]:=by
 intro i k z;rcases i with _|_|i<;>simp
theorem zH.other {k:IntKind}{t:TypeId}{w w':World}{r:Nat}{A:Option Addr}{xs:List Nat}{cs:Array Value}(h:zH k w A xs)(d:k≠.i64)(f:Blk t w r cs)(j:Zd2 cs)(l:Fr (fun i=>i=r) w w'):zH k w' A xs:=by
 cases xs with
 | nil=>exact zH.nil
 | cons x xs =>
  refine h.fr l (fun q c m e=>?_)
  obtain⟨g,off,n,_,b⟩:=h.at (i:=0) (by simp)
  rw[n] at c
  injection c with c
  subst c
  simp at e
  subst e
  rw[f.cell] at b
  exact d (j _ _ _ b)
theorem zS.oth {t:TypeId}{w w':World}{r n:Nat}{u:Value}{cs:Array Value}(h:zS w u n)(b:Blk t w r cs)(c:Zd2 cs)(d:Fr (fun i=>i=r) w w'):zS w' u n:=by
 obtain⟨e,f,j,k,l,m,q⟩:=h
 exact⟨e,f,j,k,l,m.other (by decide) b c d,q⟩
theorem zI.oth {t:TypeId}{w w':World}{r:Nat}{v:Value}{z:Int}{cs:Array Value}(h:zI w v z)(b:Blk t w r cs)(c:Zd2 cs)(d:Fr (fun i=>i=r) w w'):zI w' v z:=by
 obtain⟨e,u,n,f,j,k⟩:=h
 exact⟨e,u,n,f,j.oth b c d,k⟩
theorem zI.shp {w:World}{v:Value}{z:Int}(h:zI w v z):∃ (s:Bool) (A:Option Addr) (l c:Nat),v=.agg #[.bool s,.slice A l c]:=by
 obtain⟨s,A,l,c,h,_⟩:=h.open
 exact⟨s,A,l,c,h⟩
theorem fE.shp {w:World}{v:Value}{z:Int}(h:fE w v z):∃ (s:Bool) (A:Option Addr) (l c:Nat),v=.agg #[.bool s,.slice A l c]:=h.shape
theorem zI.nil (w:World):zI w (.agg #[.bool false,.slice none 0 0]) 0:=⟨false,_,0,rfl,zS.zero w,fun _=>rfl,rfl⟩
theorem Zib {a b c d e f i j:Value}(h:Value.agg #[a,b,c,d]=.agg #[e,f,i,j]):a=e∧b=f∧c=i∧d=j:=by
 injection h with h
 simpa using h
def xN (w:World) (v:Value) (q:Rat):Prop:=∃ (s t:Bool) (A B:Option Addr) (l c l' c':Nat),v=.agg #[.bool s,.slice A l c,.bool t,.slice B l' c']∧zI w (.agg #[.bool s,.slice A l c]) q.num∧zI w (.agg #[.bool t,.slice B l' c']) (denF q)
theorem xN.ext {w w':World}{v:Value}{q:Rat}(h:xN w v q)(b:Ext w w'):xN w' v q:=by
 obtain⟨s,t,A,B,l,c,d,e,f,i,j⟩:=h
 exact⟨s,t,A,B,l,c,d,e,f,i.ext b,j.ext b⟩
theorem xN.oth {t:TypeId}{w w':World}{r:Nat}{v:Value}{q:Rat}{cs:Array Value}(h:xN w v q)(b:Blk t w r cs)(d:Zd2 cs)(e:Fr (fun i=>i=r) w w'):xN w' v q:=by
 obtain⟨s,t,A,B,l,c,f,j,k,m,n⟩:=h
 exact⟨s,t,A,B,l,c,f,j,k,m.oth b d e,n.oth b d e⟩
theorem xN.shp {w:World}{v:Value}{q:Rat}(h:xN w v q):∃ (s:Bool) (A:Option Addr) (l c:Nat) (t:Bool) (B:Option Addr) (b d:Nat),v=.agg #[.bool s,.slice A l c,.bool t,.slice B b d]:=by
 obtain⟨s,t,A,B,l,c,b,d,h,_⟩:=h
 exact⟨s,A,l,c,t,B,b,d,h⟩
theorem xN.num {w:World}{a b c d:Value}{q:Rat}(h:xN w (.agg #[a,b,c,d]) q):zI w (.agg #[a,b]) q.num:=by
 obtain⟨s,t,A,B,l,c,f,i,h,e,j⟩:=h
 obtain⟨rfl,rfl,rfl,rfl⟩:=Zib h
 exact e
theorem xN.den {w:World}{a b c d:Value}{q:Rat}(h:xN w (.agg #[a,b,c,d]) q):zI w (.agg #[c,d]) (denF q):=by
 obtain⟨s,t,A,B,l,c,f,i,h,j,e⟩:=h
 obtain⟨rfl,rfl,rfl,rfl⟩:=Zib h
 exact e
theorem xN.of {w:World}{s t:Bool}{A B:Option Addr}{l c b d:Nat}{q:Rat}(e:zI w (.agg #[.bool s,.slice A l c]) q.num)(f:zI w (.agg #[.bool t,.slice B b d]) (denF q)):xN w (.agg #[.bool s,.slice A l c,.bool t,.slice B b d]) q :=
 ⟨_,_,_,_,_,_,_,_,rfl,e,f⟩
def Zb6 (w:World) (q:Rat) (e:Ending) (w':World):Prop:=∃ v,e=.returned v∧xN w' v q∧Ext w w'
theorem xN.nil (w:World):xN w (.agg #[.bool false,.slice none 0 0,.bool false,.slice none 0 0]) 0:=⟨_,_,_,_,_,_,_,_,rfl,zI.nil w,zI.nil w⟩
theorem fA {t0:TypeId}{w wb:World}{c0:Array Value}(h:w.alloc (.cells c0 t0)=wb):Blk t0 wb w.heap.size c0∧Ext w wb:=by
 subst h;exact⟨Blk.new _ _ _,(Fr.refl _ _).alloc _⟩
theorem ZaW {t0 t1:TypeId}{w wb:World}{c0 c1:Array Value}(h:(w.alloc (.cells c0 t0)).alloc (.cells c1 t1)=wb):Blk t0 wb w.heap.size c0∧Blk t1 wb (w.heap.size+1) c1∧Ext w wb:=by
 obtain⟨d,f⟩:=fA (w:=w) (c0:=c0) (t0:=t0) rfl
 have e:(w.alloc (.cells c0 t0)).heap.size=w.heap.size+1:=by simp
 obtain⟨b,c⟩:=fA h
 rw[e] at b
 exact⟨d.ext c,b,f.trans c⟩
theorem Zgj {t0 t1 t2:TypeId}{w wb:World}{c0 c1 c2:Array Value}(h:((w.alloc (.cells c0 t0)).alloc (.cells c1 t1)).alloc (.cells c2 t2)=wb):Blk t0 wb w.heap.size c0∧Blk t1 wb (w.heap.size+1) c1∧Blk t2 wb (w.heap.size+1+1) c2∧Ext w wb:=by
 obtain⟨d,f,i⟩:=ZaW (w:=w) (c0:=c0) (t0:=t0) (c1:=c1) (t1:=t1) rfl
 have e:((w.alloc (.cells c0 t0)).alloc (.cells c1 t1)).heap.size=w.heap.size+1+1:=by simp
 obtain⟨c,b⟩:=fA h
 rw[e] at c
 exact⟨d.ext b,f.ext b,c,i.trans b⟩
theorem Zpc {t0 t1 t2 t3:TypeId}{w wb:World}{c0 c1 c2 c:Array Value}(h:(((w.alloc (.cells c0 t0)).alloc (.cells c1 t1)).alloc (.cells c2 t2)).alloc (.cells c t3)=wb):Blk t0 wb w.heap.size c0∧Blk t1 wb (w.heap.size+1) c1∧Blk t2 wb (w.heap.size+1+1) c2∧Blk t3 wb (w.heap.size+1+1+1) c∧Ext w wb:=by
 obtain⟨f,i,j,k⟩:=Zgj (w:=w) (c0:=c0) (t0:=t0) (c1:=c1) (t1:=t1) (c2:=c2) (t2:=t2) rfl
 have e:(((w.alloc (.cells c0 t0)).alloc (.cells c1 t1)).alloc (.cells c2 t2)).heap.size=w.heap.size+1+1+1:=by simp
 obtain⟨d,b⟩:=fA h
 rw[e] at d
 exact⟨f.ext b,i.ext b,j.ext b,d,k.trans b⟩
theorem Blk.two {t:TypeId}{w:World}{g:Nat}{cs:Array Value}{x y:Value}(h:Blk t w g cs)(o:Nat)(b:cs[o]? = some x)(c:cs[o+1]? = some y):w.cell? ⟨g,o,none⟩=some x∧w.cell? ⟨g,o+1,none⟩=some y :=
 ⟨(h.cell o).trans b,(h.cell (o+1)).trans c⟩
theorem Blk.one' {t:TypeId}{w:World}{g:Nat}{cs:Array Value}{x:Value}(h:Blk t w g cs)(o:Nat)(b:cs[o]? = some x):w.cell? ⟨g,o,none⟩=some x:=(h.cell o).trans b
section
variable {ops:Array Oper} {S:World→Prop} {o:Oper} {a:Act} {p:Operand} {g off:Nat} {x y z u v:Value}
theorem ym (b:Region.wanted o (yielded ops a.tmps)=true)(c:o.op=Op.move p)(d:a.eval p=v):YieldsIf Tryz.prog ops S o v a :=
 Or.inl ⟨b,fun w _=>by simp only[execOp,c,d];simp[go_sem]⟩
theorem ZgN (b:Region.wanted o (yielded ops a.tmps)=true)(c:o.op=Op.load 32 p)(d:a.eval p=.pointer (some ⟨g,off,none⟩))(e:∀ w,S w→w.cell? ⟨g,off,none⟩=some x∧w.cell? ⟨g,off+1,none⟩=some y):YieldsIf Tryz.prog ops S o (.agg #[x,y]) a :=
 Or.inl ⟨b,fun w f=>by
  obtain⟨h,i⟩:=e w f
  simp only[execOp,c,d]
  simp[go_sem,h,i]⟩
theorem Zd3 (b:Region.wanted o (yielded ops a.tmps)=true)(c:o.op=Op.load 4 p)(d:a.eval p=.pointer (some ⟨g,off,none⟩))(e:∀ w,S w→w.cell? ⟨g,off,none⟩=some x):YieldsIf Tryz.prog ops S o x a :=
 Or.inl ⟨b,fun w f=>by
  have h:=e w f
  simp only[execOp,c,d]
  simp[go_sem,h]⟩
theorem ZaK (b:Region.wanted o (yielded ops a.tmps)=true)(c:o.op=Op.fieldAddr 32 p 0)(d:a.eval p=.pointer (some ⟨g,off,none⟩)):YieldsIf Tryz.prog ops S o (.pointer (some ⟨g,off,none⟩)) a :=
 Or.inl ⟨b,fun w _=>by simp only[execOp,c,d];simp[go_sem]⟩
theorem ZnP {b c:Bool}{q:Operand}(d:Region.wanted o (yielded ops a.tmps)=true)(e:o.op=Op.binOp .neq 4 p q 4)(f:a.eval p=.bool b)(h:a.eval q=.bool c):YieldsIf Tryz.prog ops S o (.bool (b != c)) a :=
 Or.inl ⟨d,fun w _=>by simp only[execOp,e,f,h];simp[go_sem];cases b<;>cases c<;>rfl⟩
end
section
variable {S:Nat→Prop} {w w' w0:World} {k:IntKind} {A:Option Addr} {xs:List Nat}
theorem zH.nrb (c:k≠.i64)(h:zH k w A xs)(d:∀ i,S i→NRB w i)(f:Fr S w w'):zH k w' A xs:=by
 cases xs with
 | nil=>exact zH.nil
 | cons x xs =>
  refine h.fr f (fun q b j l=>?_)
  obtain⟨g,m,n,_,a⟩:=h.at (i:=0) (by simp)
  rw[n] at b
  injection b with b
  subst b
  obtain⟨t,r,o,p⟩:=d _ l
  rw[o.cell] at a
  exact c (p _ _ _ a)
theorem zJ.nrb {u:Value}{n:Nat}(h:zJ w u n)(a:∀ i,S i→NRB w i)(b:Fr S w w'):zJ w' u n:=by
 obtain⟨c,xs,d,f,g,j,l⟩:=h
 exact⟨c,xs,d,f,g,j.nrb (by decide) a b,l⟩
theorem fE.nrb {v:Value}{z:Int}(h:fE w v z)(a:∀ i,S i→NRB w i)(b:Fr S w w'):fE w' v z:=by
 obtain⟨c,u,n,d,f,g⟩:=h
 exact⟨c,u,n,d,f.nrb a b,g⟩
theorem zS.nrb {u:Value}{n:Nat}(h:zS w u n)(a:∀ i,S i→NRB w i)(b:Fr S w w'):zS w' u n:=by
 obtain⟨c,xs,d,f,g,j,l⟩:=h
 exact⟨c,xs,d,f,g,j.nrb (by decide) a b,l⟩
theorem zI.nrb {v:Value}{z:Int}(h:zI w v z)(a:∀ i,S i→NRB w i)(b:Fr S w w'):zI w' v z:=by
 obtain⟨c,u,n,d,f,g⟩:=h
 exact⟨c,u,n,d,f.nrb a b,g⟩
theorem xN.nrb {v:Value}{q:Rat}(h:xN w v q)(a:∀ i,S i→NRB w i)(b:Fr S w w'):xN w' v q:=by
 obtain⟨s,t,A,B,l,c,d,f,g,j,m⟩:=h
 exact⟨s,t,A,B,l,c,d,f,g,j.nrb a b,m.nrb a b⟩
theorem NRB.ext {i:Nat}(h:NRB w i)(a:Ext w w'):NRB w' i:=by
 obtain⟨t,b,c,d⟩:=h
 exact⟨t,b,c.ext a,d⟩
theorem boxn {φ:World→Prop}(a:Ext w w')(h:∀ S w'',(∀ i,S i→NRB w' i)→Fr S w' w''→φ w''):BoxN w w' φ:=fun S b w'' c=>h S w'' (fun i d=>(b i d).2.ext a) c
end
abbrev ShI:=Bool×Option Addr×Nat × Nat
abbrev ShQ:=Bool×Option Addr×Nat × Nat × Bool×Option Addr×Nat × Nat
abbrev ShN:=Option Addr×Nat × Nat
def zZ (x:ShI):Value:=.agg #[.bool x.1,.slice x.2.1 x.2.2.1 x.2.2.2]
def cL (x:ShQ):Value:=.agg #[.bool x.1,.slice x.2.1 x.2.2.1 x.2.2.2.1,.bool x.2.2.2.2.1,.slice x.2.2.2.2.2.1 x.2.2.2.2.2.2.1 x.2.2.2.2.2.2.2]
def xJ (x:ShN):Value:=.slice x.1 x.2.1 x.2.2
section
variable {w w':World} {e:Ending}
theorem ZeM {z:Int}(h:Zfg w z e w'):kF zZ (fun x w=>fE w (zZ x) z) w e w':=by
 obtain⟨v,rfl,a,Q⟩:=h
 obtain⟨s,A,l,c,rfl⟩:=a.shp
 exact⟨(s,A,l,c),rfl,Q,boxn Q (fun S b d f=>a.nrb d f)⟩
theorem xC {z:Int}(h:wN w z e w'):kF zZ (fun x w=>zI w (zZ x) z) w e w':=by
 obtain⟨v,rfl,a,Q⟩:=h
 obtain⟨s,A,l,c,rfl⟩:=a.shp
 exact⟨(s,A,l,c),rfl,Q,boxn Q (fun S b d f=>a.nrb d f)⟩
theorem Zdn {q:Rat}(h:Zb6 w q e w'):kF cL (fun x w=>xN w (cL x) q) w e w':=by
 obtain⟨v,rfl,a,Q⟩:=h
 obtain⟨s,A,l,c,t,B,m,d,rfl⟩:=a.shp
 exact⟨(s,A,l,c,t,B,m,d),rfl,Q,boxn Q (fun S b f g=>a.nrb f g)⟩
def aG (x:ShI×ShI):Value:=.tuple #[zZ x.1,zZ x.2]
theorem zG {v u:Value}(h:e=.returned v∧Ext w w')(a:v=u):kF (fun _:Unit=>u) (fun _ _=>True) w e w':=by
 obtain⟨rfl,Q⟩:=h
 subst a
 exact⟨(),rfl,Q,BoxN.pure trivial⟩
end
theorem yN {P:Program}{f:FuncId}{a:Array Value}{w:World}{u v:Value}(h:Calls P f a w (fun e w'=>e=.returned v ∧ Ext w w'))(b:v=u:=by rfl):Calls P f a w (kF (fun _:Unit=>u) (fun _ _=>True) w):=h.mono (fun _ _ h=>zG h b)
section
variable {N:Nat} {S0:Nat→Prop} {w0:World} {s s':St} {Φ Ψ Φ0:World→Prop} {L:Nat→Nat} {a:Act} {w:World} {P:Program} {ops:Array Oper} {Q:Exit→Act→World→Prop} {o:Oper}
theorem xF.of {b:SlL}{bl:BlL}(h:(b.map (fun q=>s.sl q.1),bl.map (fun q=>s.bl q.1))=(b.map (fun q=>some q.2),bl.map (fun q=>some q.2))):xF s b bl:=h
def ZoK (N:Nat) (S0:Nat→Prop) (w0:World) (J:Nat→St→(World→Prop)→Prop) (n:Nat) (a:Act) (w:World):Prop:=∃ n' s' Φ' L',n'<n∧J n' s' Φ'∧Inv N S0 w0 s' Φ' L' a w
theorem lW {c:Code}(J:Nat→St→(World→Prop)→Prop)(n0:Nat)(g:J n0 s Φ)(b:∀ n s Φ,J n s Φ→SXc P N S0 w0 (Exit.then (ZoK N S0 w0 J n) Q) c s Φ):SXc P N S0 w0 Q (.loop c) s Φ:=fun L a w f=>by
 refine wp_loop_ghost (fun n a w=>∃ s Φ L,J n s Φ∧Inv N S0 w0 s Φ L a w) n0 ⟨s,Φ,L,g,f⟩ ?_
 rintro n a w ⟨s,Φ,L,h,f⟩
 refine wp_mono (b n s Φ h L a w f) ?_
 intro e q w' d
 cases e with
 | normal =>
  obtain⟨i,s',Φ',j,k,m,p⟩:=d
  exact⟨i,k,s',Φ',j,m,p⟩
 | exit id=>exact d
 | goto l=>exact d
 | ret=>exact d
 | panic ch=>exact d
 | outgrown=>exact d
theorem wG {J:Nat→St→(World→Prop)→Prop}{n:Nat}(b:Nat)(c:b<n)(h:J b s Φ):SXq N S0 w0 (Exit.then (ZoK N S0 w0 J n) Q .normal) s Φ:=fun _ _ _ d=>⟨b,s,Φ,_,c,h,d⟩
theorem Zbg {x y:Code}(J:St→(World→Prop)→Prop)(d:SXc P N S0 w0 (Exit.then (fun a w=>∃ s' Φ' L',J s' Φ'∧Inv N S0 w0 s' Φ' L' a w) Q) x s Φ)(f:∀ s Φ,J s Φ→SXc P N S0 w0 Q y s Φ):SXc P N S0 w0 Q (.seq x y) s Φ:=fun L a w g=>by
 refine wp_seq (wp_mono (d L a w g) ?_)
 intro e h w' b
 cases e with
 | normal =>
  obtain⟨s',Φ',L',c,i⟩:=b
  exact f s' Φ' c L' h w' i
 | exit id=>exact b
 | goto l=>exact b
 | ret=>exact b
 | panic ch=>exact b
 | outgrown=>exact b
theorem kW {J:St→(World→Prop)→Prop}(h:J s Φ):SXq N S0 w0 (Exit.then (fun a w=>∃ s' Φ' b,J s' Φ'∧Inv N S0 w0 s' Φ' b a w) Q .normal) s Φ:=fun _ _ _ c=>⟨s,Φ,_,h,c⟩
theorem Zpd {n i:Nat}(d:Nat){α:Type}[e:Nonempty α](b:α→Value)(φ:α→World→Prop)(hi:Nat.blt i n=true)(f:cls (opAt ops i).op=2)(g:s.wantB ops (opAt ops i)=some true)(h:iJ (opAt ops i).op=true)(j:(opAt ops i).op.operands.toList.all s.vB=true)(k:(opAt ops i).dst=some d)(l:Nat.blt d N=true)(c:∀ w,Fr S0 w0 w→Φ w→Does P (opAt ops i) s.rho w (DoR b φ w))(K:∀ x,StI P N S0 w0 ops Φ0 Q n (i+1) (s.put d (.v (b x))) (fun w=>Φ w∧φ x w)):StI P N S0 w0 ops Φ0 Q n i s Φ:=by
 have m:i<n:=sF hi
 unfold StI
 rw[show n-i=(n-(i+1))+1 by omega,List.range'_succ]
 exact .does e b φ f g h j k (sF l) c K
end
def fQ (w:World) (v:Value) (xs:List Nat):Prop:=∃ A c,v=.slice A xs.length c∧xs.length≤c∧zH .u32 w A xs
theorem fQ.nrb {S:Nat→Prop}{w w':World}{v:Value}{xs:List Nat}(h:fQ w v xs)(b:∀ i,S i→NRB w i)(d:Fr S w w'):fQ w' v xs:=by
 obtain⟨A,c,e,f,g⟩:=h
 exact⟨A,c,e,f,g.nrb (by decide) b d⟩
theorem fQ.shows {w:World}{A:Option Addr}{l c:Nat}{xs:List Nat}(h:fQ w (.slice A l c) xs):xs.length=l∧xs.length≤c∧zH .u32 w A xs:=by
 obtain⟨f,g,b,d,e⟩:=h
 injection b with e1 e2 e3
 subst e1;subst e3
 exact⟨e2.symm,d,e⟩
theorem zS.row {w:World}{v:Value}{n:Nat}(h:zS w v n):∃ b,fQ w v b∧Dig W32 b∧Trim b∧val W32 b=n:=by
 obtain⟨A,b,c,d,e,f,g⟩:=h
 exact⟨b,⟨A,c,d,e,f⟩,g⟩
theorem Zgk {P:Program}(w:World)(t D e:TypeId)(k:IntKind)(bytes:Nat)(I:P.underlying t=some (.slice e))(r:(P.info? e).map (fun i=>(i.zero,i.size,i.bytes))=some (some (.int k 0),1,bytes))(b a:Addr)(n m cap c:Nat)(xs f:List Nat)(J:xs.length=n)(K:f.length=m)(M:zH k w (some b) xs)(O:zH k w (some a) f)(R:cap<n+m)(z:n+m≤maxLen)(p:(n+m)*bytes≤140737488355328) :
 ∃ g q w',(Builtin.append_ #[t,t] D #[.slice (some b) n cap,.slice (some a) m c]).run P w=.ok (.slice (some ⟨g,0,none⟩) (n+m) q) w'∧n+m≤q∧Own k e w' g (xs ++ f)∧Ext w w':=by
 obtain⟨i,S,T,E,A⟩:=info_parts r
 have l:∀ (y:List Nat) (d:Addr),zH k w (some d) y→∀ j u,(y.map fun x:Nat=>Value.int k (x:Int))[j]? = some u→w.cell? (d.add j)=some u:=by
  intro y d U j u F
  rw[List.getElem?_map] at F
  obtain⟨x,G,rfl⟩:=tP.1 F
  have V:j<y.length:=(List.getElem?_eq_some_iff.1 G).1
  obtain⟨Y,W,h,_,B⟩:=U.at V
  injection h with h
  subst h
  rw[G] at B
  by_cases H:j=0
  ·subst H;simpa [Addr.add] using B
  simpa [Addr.add,H] using B
 have X:=run_append_grow (P:=P) (w:=w) t D e i (.int k 0) I S T b n cap (xs.map fun x:Nat=>Value.int k (x:Int)) (by rw[E];simp[J]) (l _ _ M) a m c (f.map fun x:Nat=>Value.int k (x:Int)) (by rw[E];simp[K]) (l _ _ O) R (by simp only[maxLen] at z;omega) (growslice_fits (by omega) (by rw[A];exact p))
 refine⟨_,_,_,X,?_,?_,((Fr.refl _ _).drew).alloc _⟩
 ·exact grownCap_ge _ _ _ _
 refine⟨(Builtin.zeroCells (Value.int k 0).cells (grownCap w (n+m) cap e-(n+m))).toList,fun v C=>?_,?_⟩
 ·rw[Array.mem_toList_iff] at C
  simp only[Builtin.zeroCells] at C
  obtain⟨j,_,rfl⟩:=Array.mem_map.1 C
  exact⟨0,by simp[Value.cells,Nat.mod_one]⟩
 rw[show w.heap.size=w.drew.heap.size from rfl,heap_alloc_new]
 simp[lL]
theorem Own.row {e:TypeId}{w:World}{g c:Nat}{xs:List Nat}(h:Own .u32 e w g xs)(b:xs.length≤c):fQ w (.slice (some ⟨g,0,none⟩) xs.length c) xs:=⟨_,c,rfl,b,h.shows0⟩
theorem Zhn {P:Program}{o:Oper}{ρ:Operand→Value}{w:World}{x y:Operand}{t e:TypeId}(q:o.op=.call { callee:=.builtin .append,args:=#[x,y],argTypes:=#[t,t] })(r:P.underlying t=some (.slice e))(f:(P.info? e).map (fun i=>(i.zero,i.size,i.bytes))=some (some (.int .u32 0),1,4)){b:Addr}{A:Option Addr}{n m cap c:Nat}(u:ρ x=.slice (some b) n cap)(v:ρ y=.slice A m c){xs news:List Nat}(B:fQ w (.slice (some b) n cap) xs)(C:fQ w (.slice A m c) news)(D:cap<n+m)(h:n+m≤35184372088832):Does P o ρ w (DoR xJ (fun z w=>fQ w (xJ z) (xs ++ news)) w):=by
 obtain⟨k,M,E⟩:=B.shows
 obtain⟨j,O,l⟩:=C.shows
 obtain⟨a,rfl⟩:∃ a,A=some a:=by
  cases news with
  | nil=>simp at j;omega
  | cons z zs=>obtain⟨g,F,e,_⟩:=l.at (i:=0) (by simp);exact⟨_,e⟩
 obtain⟨g,d,w',G,R,H,p⟩:=Zgk (P:=P) w t o.type e .u32 4 r f b a n m cap c xs news k j E l D (by simp only[maxLen];omega) (by omega)
 refine Or.inl ⟨.slice (some ⟨g,0,none⟩) (n+m) d,w',?_,(some ⟨g,0,none⟩,n+m,d),rfl,p,boxn p (fun S I J K=>?_)⟩
 ·simp only[execOp,q,resolve,invoke,builtin,Sem.run_bind,Sem.run_pure,Result.andThen_ok,List.map_toArray,List.map_cons,List.map_nil,u,v,G]
 have:=(H.row (c:=d) (by simp;omega)).nrb J K
 simpa [xJ,k,j] using this
theorem Zjt {P:Program}{o:Oper}{ρ:Operand→Value}{w:World}{l c:Operand}{t e:TypeId}(g:o.op=Op.makeSlice t l c)(j:P.underlying t=some (.slice e))(f:(P.info? e).map (fun i=>(i.zero,i.size,i.bytes))=some (some (.int .u32 0),1,4)){kl kc:IntKind}{n:Nat}(k:ρ l=.int kl n)(m:ρ c=.int kc n)(h:n≤35184372088832) :
 Does P o ρ w (DoR (fun b:Nat=>.slice (some ⟨b,0,none⟩) n n) (fun b w=>fQ w (.slice (some ⟨b,0,none⟩) n n) (List.replicate n 0)) w):=by
 have d:=run_make_row' (P:=P) t e (.int .u32 0) 4 j f rfl kl kc n (by omega) (by omega) w
 rw[aR] at d
 have Q:Ext w (w.alloc (.cells (lL .u32 (List.replicate n 0) []) e)):=(Fr.refl _ w).alloc _
 refine Or.inl ⟨.slice (some ⟨w.heap.size,0,none⟩) n n,_,by simp[execOp,g,k,m,d,Result.andThen],w.heap.size,rfl,Q,boxn Q (fun S p q r=>?_)⟩
 have:=((Own.new w e .u32 (List.replicate n 0) []).row (c:=n) (by simp)).nrb q r
 simpa using this
section
variable {N:Nat} {S0:Nat→Prop} {w0:World} {s:St} {Φ:World→Prop} {P:Program} {ops:Array Oper} {Q:Exit→Act→World→Prop}
theorem yD {i:Nat}{α:Type}{d:Nat}(b:α→Value)(φ:α→World→Prop)(c:∀ w,Fr S0 w0 w→Φ w→Does P (opAt ops i) s.rho w (DoR b φ w))(K:∀ x,SXi P N S0 w0 ops Q (i+1) (s.put d (.v (b x))) (fun w=>Φ w ∧ φ x w))(hi:Nat.blt i ops.size=true:=by kernel_rfl)(e:s.wantB ops (opAt ops i)=some true:=by kernel_rfl)(f:iJ (opAt ops i).op=true:=by kernel_rfl)(g:(opAt ops i).op.operands.toList.all s.vB=true:=by kernel_rfl)(h:(opAt ops i).dst=some d:=by kernel_rfl)(j:Nat.blt d N=true:=by kernel_rfl):SXi P N S0 w0 ops Q i s Φ:=lK b φ hi e f g h j c K
theorem yK {i:Nat}(d:Nat)(y:Value)(b:∀ w,Fr S0 w0 w→Φ w→(execOp s.rho (opAt ops i)).run P w=.ok (.value y) w)(K:SXi P N S0 w0 ops Q (i+1) (s.put d (.v y)) Φ)(hi:Nat.blt i ops.size=true:=by kernel_rfl)(c:iJ (opAt ops i).op=true:=by kernel_rfl)(e:s.wantB ops (opAt ops i)=some true:=by kernel_rfl)(f:(opAt ops i).op.operands.toList.all s.vB=true:=by kernel_rfl)(g:(opAt ops i).dst=some d:=by kernel_rfl)(h:Nat.blt d N=true:=by kernel_rfl):SXi P N S0 w0 ops Q i s Φ:=gZ d y hi c e f g h b K
theorem yR {fn:Func}{R:Ending→World→Prop}(v:Value)(b:∀ w,Fr S0 w0 w→Φ w→R (.returned v) w)(h:ZkT P fn s=some v:=by kernel_rfl):SXq N S0 w0 (bodyPost P fn R .ret) s Φ:=zD h b
theorem yQ {c:Operand}{x y:Code}(b:Bool)(d:b=true→SXc P N S0 w0 Q x s Φ)(e:b=false→SXc P N S0 w0 Q y s Φ)(f:s.eval c=some (.v (.bool b)):=by kernel_rfl):SXc P N S0 w0 Q (.cond c x y) s Φ:=zT b f d e
theorem yO {id:Nat}(n:Nat){b:SlL}{c:BlL}(d:P.follows .mixedOrders=true)(h:StI P N S0 w0 ops Φ Q n 0 (ofL b c) Φ)(e:ZoH ops (ofL b c) n=true:=by kernel_rfl)(f:Zft ops b=true:=by kernel_rfl):SXc P N S0 w0 Q (.region id ops true) (ofL b c) Φ:=xG n e f d h
theorem yP {q:Act→World→Prop}(b:SlL)(c:BlL)(Ψ:World→Prop)(Q:∀ w,Φ w→Ψ w)(h:SXq N S0 w0 q (ofL b c) Ψ)(d:(b.map (fun q=>s.sl q.1),c.map (fun q=>s.bl q.1))=(b.map (fun q=>some q.2),c.map (fun q=>some q.2)):=by kernel_rfl)(e:wfB b c=true:=by kernel_rfl):SXq N S0 w0 q s Φ:=SXq.weak b c (xF.of d) e Q h
theorem yC {c:Code}(b:SlL)(d:BlL)(Ψ:World→Prop)(R:∀ w,Φ w→Ψ w)(h:SXc P N S0 w0 Q c (ofL b d) Ψ)(e:(b.map (fun q=>s.sl q.1),d.map (fun q=>s.bl q.1))=(b.map (fun q=>some q.2),d.map (fun q=>some q.2)):=by kernel_rfl)(f:wfB b d=true:=by kernel_rfl):SXc P N S0 w0 Q c s Φ:=SXc.weak b d (xF.of e) f R h
theorem yM {f:FuncId}{b:Array Value}{w:World}{R T:Ending→World→Prop}(p:∀ {e w'},R e w'→T e w')(h:Calls P f b w R):Calls P f b w T:=h.mono (fun _ _=>p)
end
theorem ZnQ (x:Int):(x == x)=true:=by simp
theorem Zk2 {P:Program}{ρ:Operand→Value}{w:World}{t e:TypeId}{n sz:Nat}{z:Value}{parts:Array (Nat × Operand)}{a:Array Value}(g:P.underlying t=some (.slice e))(b:(P.info? e).map (fun i=>(i.zero,i.size))=some (some z,sz))(j:Nat.ble (n*sz) 1000=true)(hn0:Nat.beq (n*sz) 0=false)(k:Instr.fill (fun i=>some (i*sz,sz)) ((List.range (n*sz)).map (fun i=>z.cells[i%z.cells.size]!)).toArray (parts.toList.map fun q=>(q.1,ρ q.2))=some a) :
 (Instr.buildSlice t n (parts.map fun q:Nat × Operand=>(q.1,ρ q.2))).run P w=.ok (.slice (some ⟨w.heap.size,0,none⟩) n n) (w.alloc (.cells a e)):=by
 obtain⟨i,l,c⟩:=tP.1 b
 injection c with c h2
 have m:=sF j
 have d:¬ n*sz=0:=fun h=>by rw[h] at hn0;cases hn0
 have f:¬ 2^24<n*sz:=by omega
 have o:(Array.range (n*sz)).map (fun i=>z.cells[i%z.cells.size]!)=((List.range (n*sz)).map (fun i=>z.cells[i%z.cells.size]!)).toArray:=by
  apply Array.ext';simp
 have p:(parts.map fun q:Nat × Operand=>(q.1,ρ q.2)).toList=parts.toList.map fun q=>(q.1,ρ q.2):=by simp
 unfold Instr.buildSlice
 simp[underlying,g,sizeOf,typeInfo,l,h2,zeroValue,c,d,f,o,k,newRow,newObj,Result.andThen]
 rfl
theorem xZ {P:Program}{o:Oper}{ρ:Operand→Value}{w:World}{t e:TypeId}{n sz:Nat}{z:Value}{parts:Array (Nat × Operand)}{a:Array Value}(g:o.op=Op.buildSlice t n parts)(j:P.underlying t=some (.slice e))(c:(P.info? e).map (fun i=>(i.zero,i.size))=some (some z,sz))(k:Nat.ble (n*sz) 1000=true)(f:Nat.beq (n*sz) 0=false)(l:Instr.fill (fun i=>some (i*sz,sz)) ((List.range (n*sz)).map (fun i=>z.cells[i%z.cells.size]!)).toArray (parts.toList.map fun q=>(q.1,ρ q.2))=some a) :
 Does P o ρ w (DoR (fun b:Nat=>.slice (some ⟨b,0,none⟩) n n) (fun b w=>Blk e w b a) w):=by
 have d:=Zk2 (w:=w) j c k f l
 exact Or.inl ⟨_,_,by simp[execOp,g,d,Result.andThen],w.heap.size,rfl,(Fr.refl _ w).alloc _,fun S m p r=>(Blk.new w e a).fr r (fun h=>by have:=(m _ h).1;omega)⟩
theorem gW {P:Program}{o:Oper}{ρ:Operand→Value}{w:World}{t:TypeId}{x:Operand}{lo hi:Option Operand}{b r:ByteArray}(l h:Nat)(d:o.op=Op.slice t x lo hi none)(e:P.underlying t=some .string)(f:ρ x=.string b)(a:lo.map ρ=none∧l=0∨lo.map ρ=some (.int .i64 l))(c:hi.map ρ=none∧h=b.size∨hi.map ρ=some (.int .i64 h))(g:l≤h)(i:h≤b.size)(j:b.extract l h=r):(execOp ρ o).run P w=.ok (.value (.string r)) w:=by
 subst j
 rcases a with ⟨a,rfl⟩|a<;>rcases c with ⟨c,rfl⟩|c <;>
  simp[execOp,d,Instr.sliceAt,Instr.slice,Instr.sliceBounds,Instr.sliceBound,asIntOf,underlying,e,f,a,c,g,i,Result.andThen]
theorem Zk3 {P:Program}{o:Oper}{ρ:Operand→Value}{w:World}{t k:TypeId}{x y:Operand}{a b r:ByteArray}(c:o.op=Op.binOp .add t x y k)(d:ρ x=.string a)(e:ρ y=.string b)(g:a.size+b.size≤1099511627776)(f:a ++ b=r):(execOp ρ o).run P w=.ok (.value (.string r)) w:=by
 have h:¬ ((a.size+b.size:Nat):Int)>IntKind.i64.max:=by
  have:IntKind.i64.max=9223372036854775807:=by decide
  rw[this];omega
 simp only[execOp,c,d,e,eqGuard,binOp,Op.stringOp,uN h,f]
 rfl
open Classical in
theorem Fr.split {A B:Nat→Prop}{w w2:World}(h:Fr (fun i=>A i∨B i) w w2):∃ m,Fr A w m∧Fr B m w2:=by
 have n:∀ i,i<w2.heap.size→(w2.heap.mapIdx fun i o=>if A i∨w.heap.size≤i then o else (w.heap[i]?).getD o)[i]? = if A i∨w.heap.size≤i then w2.heap[i]? else w.heap[i]? := by
  intro i g
  rw[Array.getElem?_mapIdx,Array.getElem?_eq_getElem g]
  by_cases b:A i∨w.heap.size≤i
  ·simp[b]
  have d:i<w.heap.size:=by
   rcases vJ i w.heap.size with c|c
   ·exact c
   exact absurd (Or.inr c) b
  simp only[b,pE,pI,Array.getElem?_eq_getElem d,sR]
 refine⟨{ w2 with heap:=w2.heap.mapIdx fun i o=>if A i∨w.heap.size≤i then o else (w.heap[i]?).getD o },⟨h.os,h.tape,h.output,?_,fun i g j=>?_⟩,⟨rfl,rfl,rfl,?_,fun i g p=>?_⟩⟩
 ·simpa using h.size
 ·have f:=n i (uU g h.size)
  rw[uN (fun b=>b.elim j (fun c=>by omega))] at f
  exact f
 ·simp
 have l:i<w2.heap.size:=by simpa using g
 have f:=n i l
 by_cases b:A i∨w.heap.size≤i
 ·rw[uP b] at f;exact f.symm
 rw[uN b] at f
 have d:i<w.heap.size:=by
  rcases vJ i w.heap.size with c|c
  ·exact c
  exact absurd (Or.inr c) b
 exact (h.block i d (fun c=>c.elim (fun j=>b (Or.inl j)) p)).trans f.symm
theorem bl2 (b:Bool):b=true∨b=false:=by cases b<;>simp
theorem Own.same {k:IntKind}{t:TypeId}{w w':World}{b:Nat}{xs:List Nat}(h:Own k t w b xs)(e:w'.heap[b]? = w.heap[b]?):Own k t w' b xs:=by
 obtain⟨tail,c,d⟩:=h
 exact⟨tail,c,e.trans d⟩
section
variable {N:Nat} {S0:Nat→Prop} {w0:World} {s:St} {Φ Ψ:World→Prop} {L:Nat→Nat} {a:Act} {w:World} {P:Program} {ops:Array Oper} {Q:Exit→Act→World→Prop}
theorem Inv.notOwn (h:Inv N S0 w0 s Φ L a w){r j:Nat}{c:Value}(f:∀ w,Φ w→w.cell? ⟨r,j,none⟩=some c):¬ s.own L r:=fun g=>by
 have i:=f w h.box.self
 have b:∀ u:Value,u≠c→False:=fun u l=>by
  have d:=f (w.setCell ⟨r,j,none⟩ u) (h.box _ ((Fr.refl _ _).setCell (p:=⟨r,j,none⟩) (Or.inl g) u))
  rw[World.cell?_setCell_same _ _ _ i] at d
  injection d with d
  exact l d
 by_cases e:c=.bool true
 ·exact b (.bool false) (by rw[e];intro h;cases h)
 exact b (.bool true) (fun h=>e h.symm)
theorem Inv.eff (h:Inv N S0 w0 s Φ L a w){w':World}{r:Nat}(d:Fr (fun i=>i=r) w w')(g:¬ s.own L r)(c:w0.heap.size≤r∨S0 r)(f:r<w.heap.size)(m:∀ w1 w2,Φ w1→Fr (fun i=>i=r) w1 w2→w2.heap[r]? = w'.heap[r]? → Ψ w2):Inv N S0 w0 s Ψ L a w':=by
 refine⟨h.size,h.df,h.sl,⟨fun b t n e=>(h.mem.blk b t n e).fr d (fun p=>g ⟨b,by rw[e];rfl,p⟩),h.mem.inj,h.mem.old,h.mem.ext.next d (fun i y e=>?_),h.mem.slp,h.mem.cel⟩,fun w2 j=>?_⟩
 ·rcases c with l|l
  ·omega
  rw[e];exact l
 have q:Fr (fun i=>s.own L i∨i=r) w w2:=(d.mono (fun i _ e=>Or.inr e)).trans (j.mono (fun i _ e=>Or.inl e))
 obtain⟨w1,u,v⟩:=q.split
 exact m w1 w2 (h.box w1 u) v (j.block r (uU f d.size) g)
theorem ZfD {α:Type}(l:List α)(j:Nat)(c:α)(h:j<l.length):iS l j [c]=l.set j c:=by
 unfold iS
 rw[List.set_eq_take_append_cons_drop,uP h]
 simp
theorem Zic {t e:TypeId}{k:IntKind}{b j:Nat}{xs:List Nat}(m:(teOf P t).map (fun e=>e.size)=some 1)(d:Own k e w b xs)(n:j<xs.length)(v:Nat) :
 ∃ w',(Instr.storeAt t (.pointer (some ⟨b,j,none⟩)) (.int k (v:Int))).run P w=.ok () w'∧Own k e w' b (xs.set j v)∧Fr (fun i=>i=b) w w':=by
 obtain⟨z,f,p⟩:=tP.1 m
 obtain⟨tail,q,d⟩:=d
 obtain⟨w',r,h,u⟩:=ZbP (P:=P) f (g:=b) (bt:=e) (off:=j) (cur:=(xs.map fun x:Nat=>Value.int k (x:Int)) ++ tail) (v:=.int k (v:Int)) d (by rw[p];rfl) (by simp[Value.cells];omega) (fun c l=>by simp[Value.cells] at l;rw[l];rfl)
 refine⟨w',r,⟨tail,q,?_⟩,u⟩
 have y:iS ((xs.map fun x:Nat=>Value.int k (x:Int)) ++ tail) j (Value.cells (.int k (v:Int))).toList=((xs.set j v).map fun x:Nat=>Value.int k (x:Int)) ++ tail:=by
  rw[show (Value.cells (.int k (v:Int))).toList=[.int k (v:Int)] from rfl,ZfD _ _ _ (by simp;omega),List.set_append_left _ _ (by simpa using n),List.map_set]
 rw[y] at h
 exact h
theorem jN {i:Nat}{t e:TypeId}{k:IntKind}{x y:Operand}{xs:List Nat}(b j v:Nat)(Ψ:World→Prop)(m:∀ w,Φ w→Own k e w b xs)(n:j<xs.length)(d:w0.heap.size≤b∨S0 b)(p:∀ w w',Φ w→Fr (fun i=>i=b) w w'→Own k e w' b (xs.set j v)→Ψ w')(K:SXi P N S0 w0 ops Q (i+1) s Ψ)(h:Nat.blt i ops.size=true:=by kernel_rfl)(q:s.wantB ops (opAt ops i)=some true:=by kernel_rfl)(r:(opAt ops i).op=.store t x y:=by kernel_rfl)(u:(opAt ops i).dst=none:=by kernel_rfl)(z:(teOf P t).map (fun e=>e.size)=some 1:=by kernel_rfl)(A:s.eval x=some (.v (.pointer (some ⟨b,j,none⟩))):=by kernel_rfl)(B:s.eval y=some (.v (.int k (v:Int))):=by kernel_rfl):SXi P N S0 w0 ops Q i s Φ:=by
 unfold SXi
 rw[fF h]
 intro L a w c
 refine wpList_step fun S C=>?_
 rw[uP (c.want q)]
 have f:=m w c.box.self
 obtain⟨w',D,l,E⟩:=Zic (P:=P) z f n v
 unfold Oper.wp
 have F:=c.eval A
 have G:=c.eval B
 have g:(execOp a.eval (opAt ops i)).run P w=.ok .skip w':=by simp only[execOp,r,Sem.run_bind,F,G,AV.conc,D,Result.andThen_ok,Sem.run_pure]
 rw[g,Oper.upon_skip,u]
 refine C _ _ (K L _ _ (c.eff E (c.notOwn (fun w R=>(m w R).cell n)) d f.lt (fun H I J M O=>p H I J M (l.same O))))
theorem Zcv {i d:Nat}{e:TypeId}{k:IntKind}{xs:List Nat}{α:Type}(f:FuncId)(args:List Value)(j:α→Value)(p:α→Prop)(n:α→List Nat)(b:Nat)(Ψ:α→World→Prop)(q:∀ w,Φ w→Own k e w b xs)(u:0<xs.length)(g:w0.heap.size≤b∨S0 b)(y:∀ w,Fr S0 w0 w→Φ w→Calls P f args.toArray w (fun en w'=>∃ x,en=.returned (j x)∧p x∧Fr (fun i=>i=b) w w'∧Own k e w' b (n x)))(z:∀ x w w',p x→Φ w→Fr (fun i=>i=b) w w'→Own k e w' b (n x)→Ψ x w')(K:∀ x,p x→SXi P N S0 w0 ops Q (i+1) (s.put d (.v (j x))) (Ψ x))(l:Nat.blt i ops.size=true:=by kernel_rfl)(h:fV P N ops (opAt ops i) s=some (f,args,d):=by kernel_rfl):SXi P N S0 w0 ops Q i s Φ:=by
 obtain⟨A,B,C,D,E,F,G⟩:=dU h
 unfold SXi
 rw[fF l]
 intro L a w c
 refine wpList_step fun W H=>?_
 rw[uP (c.want A)]
 unfold Oper.wp
 rw[c.exec D E,Zbv B F,Oper.upon_enter]
 refine Calls.mono (y w c.mem.ext c.box.self) fun en w' I=>?_
 obtain⟨x,rfl,r,J,m⟩:=I
 simp only[C]
 have M:=c.app0 (d:=d) G (al_v (s:=s) (j x))
 exact H _ _ (K x r L _ _ (M.eff J (c.notOwn (fun w R=>(q w R).cell u)) g (q w c.box.self).lt (fun O S T U V=>z x O S r T U (m.same V))))
theorem Zby {i d:Nat}{t e:TypeId}{k kl kc:IntKind}{l c:Operand}(n bytes:Nat)(hn:n≤35184372088832)(B:bytes≤8)(K:∀ b,w0.heap.size≤b→(∀ r,(∀ w,Φ w→r<w.heap.size)→r<b)→SXi P N S0 w0 ops Q (i+1) (s.put d (.v (.slice (some ⟨b,0,none⟩) n n))) (fun w=>Box (fun j=>b≤j) w Φ∧Own k e w b (List.replicate n 0)))(C:Nat.blt i ops.size=true:=by kernel_rfl)(H:s.wantB ops (opAt ops i)=some true:=by kernel_rfl)(I:(opAt ops i).op.operands.toList.all s.vB=true:=by kernel_rfl)(G:(opAt ops i).op=Op.makeSlice t l c:=by kernel_rfl)(J:(opAt ops i).dst=some d:=by kernel_rfl)(M:Nat.blt d N=true:=by kernel_rfl)(O:P.underlying t=some (.slice e):=by kernel_rfl)(u:(P.info? e).map (fun i=>(i.zero,i.size,i.bytes))=some (some (.int k 0),1,bytes):=by kernel_rfl)(S:s.rho l=.int kl n:=by kernel_rfl)(T:s.rho c=.int kc n:=by kernel_rfl):SXi P N S0 w0 ops Q i s Φ:=by
 unfold SXi
 rw[fF C]
 intro L a w y
 refine wpList_step fun K' U=>?_
 rw[uP (y.want H)]
 unfold Oper.wp
 have D:iJ (opAt ops i).op=true:=by rw[G];rfl
 have V:bytes*n≤8*n:=uE n B
 rw[y.exec D I]
 have p:=run_make_row' (P:=P) t e (.int k 0) bytes O u rfl kl kc n (by omega) (by omega) w
 rw[aR] at p
 have z:(execOp s.rho (opAt ops i)).run P w=.ok (.value (.slice (some ⟨w.heap.size,0,none⟩) n n)) (w.alloc (.cells (lL k (List.replicate n 0) []) e)):=by simp[execOp,G,S,T,p,Result.andThen]
 rw[z,Oper.upon_value,J]
 have R:Ext w (w.alloc (.cells (lL k (List.replicate n 0) []) e)):=(Fr.refl _ w).alloc _
 have m:=y.app0 (d:=d) (sF M) (al_v (s:=s) (.slice (some ⟨w.heap.size,0,none⟩) n n))
 have W:=Own.new w e k (List.replicate n 0) []
 refine U _ _ (K w.heap.size y.mem.ext.size (fun r h=>h w y.box.self) L _ _ ⟨m.size,m.df,m.sl,⟨fun b t X e=>(m.mem.blk b t X e).ext R,m.mem.inj,m.mem.old,m.mem.ext.ext R,m.mem.slp,m.mem.cel⟩,fun w2 A=>⟨fun Y g=>?_,?_⟩⟩)
 ·refine y.box Y ⟨g.os.trans (A.os.trans R.os),g.tape.trans (A.tape.trans R.tape),g.output.trans (A.output.trans R.output),uA R.size (uA A.size g.size),fun j E F=>?_⟩
  have Z:=R.block j E (fun f=>f)
  have h2:=A.block j (uU E R.size) F
  have h3:=g.block j (uU E (uA R.size A.size)) (by omega)
  exact h3.trans (h2.trans Z)
 refine W.fr A fun⟨b,hb,eb⟩=>?_
 obtain⟨q,eq⟩:=sN.1 hb
 have:=(y.mem.blk b q.1 q.2 eq).lt
 omega
theorem SXi.know {i:Nat}{p:Prop}(h:∀ w,Fr S0 w0 w→Φ w→p)(K:p→SXi P N S0 w0 ops Q i s Φ):SXi P N S0 w0 ops Q i s Φ:=fun L a w b=>K (h w b.mem.ext b.box.self) L a w b
theorem ZnR {i d:Nat}{e:TypeId}{k:IntKind}(f:FuncId)(args:List Value)(xs:List Nat)(B:∀ w,Fr S0 w0 w→Φ w→Calls P f args.toArray w (fun en w'=>∃ b c,en=.returned (.slice (some ⟨b,0,none⟩) xs.length c)∧w.heap.size≤b∧xs.length≤c∧Ext w w'∧Own k e w' b xs))(K:∀ b c,w0.heap.size≤b→xs.length≤c→(∀ r,(∀ w,Φ w→r<w.heap.size)→r<b)→SXi P N S0 w0 ops Q (i+1) (s.put d (.v (.slice (some ⟨b,0,none⟩) xs.length c))) (fun w=>Box (fun j=>b≤j) w Φ∧Own k e w b xs))(p:Nat.blt i ops.size=true:=by kernel_rfl)(h:fV P N ops (opAt ops i) s=some (f,args,d):=by kernel_rfl):SXi P N S0 w0 ops Q i s Φ:=by
 obtain⟨C,D,E,F,G,H,I⟩:=dU h
 unfold SXi
 rw[fF p]
 intro L a w l
 refine wpList_step fun K' J=>?_
 rw[uP (l.want C)]
 unfold Oper.wp
 rw[l.exec F G,Zbv D H,Oper.upon_enter]
 refine Calls.mono (B w l.mem.ext l.box.self) fun en w' M=>?_
 obtain⟨b,c,rfl,A,O,R,S⟩:=M
 simp only[E]
 have m:=l.app0 (d:=d) I (al_v (s:=s) (.slice (some ⟨b,0,none⟩) xs.length c))
 refine J _ _ (K b c (uA l.mem.ext.size A) O (fun r h=>uU (h w l.box.self) A) L _ _ ⟨m.size,m.df,m.sl,⟨fun b t T e=>(m.mem.blk b t T e).ext R,m.mem.inj,m.mem.old,m.mem.ext.ext R,m.mem.slp,m.mem.cel⟩,fun w2 n=>⟨fun U g=>?_,?_⟩⟩)
 ·refine l.box U ⟨g.os.trans (n.os.trans R.os),g.tape.trans (n.tape.trans R.tape),g.output.trans (n.output.trans R.output),uA R.size (uA n.size g.size),fun j u y=>?_⟩
  have V:=R.block j u (fun f=>f)
  have W:=n.block j (uU u R.size) y
  have X:=g.block j (uU u (uA R.size n.size)) (by omega)
  exact X.trans (W.trans V)
 refine S.fr n fun Y=>?_
 obtain⟨Z,z,eb⟩:=Y
 obtain⟨q,eq⟩:=sN.1 z
 have:=(l.mem.blk Z q.1 q.2 eq).lt
 omega
theorem Zpe {i d:Nat}{dT sT e:TypeId}{k:IntKind}{dx sx:Operand}{sp:Option Addr}{n m dc sc:Nat}{mid ys:List Nat}(b:Nat)(Ψ:World→Prop)(C:mid.length=n)(D:ys.length=m)(g:0<mid.length)(A:∀ w,Φ w→Own k e w b mid)(E:∀ w,Φ w→zH k w sp ys)(h:w0.heap.size≤b∨S0 b)(F:∀ w w',Φ w→Fr (fun i=>i=b) w w'→Own k e w' b (ys.take mid.length ++ mid.drop ys.length)→Ψ w')(K:SXi P N S0 w0 ops Q (i+1) s Ψ)(p:Nat.blt i ops.size=true:=by kernel_rfl)(G:(opAt ops i).guard=none:=by kernel_rfl)(H:(opAt ops i).op=.call { callee:=.builtin .copy,args:=#[dx,sx],argTypes:=#[dT,sT] }:=by kernel_rfl)(q:(opAt ops i).dst=some d:=by kernel_rfl)(I:(s.sl d).isNone=true:=by kernel_rfl)(J:P.underlying dT=some (.slice e):=by kernel_rfl)(M:(P.info? e).map (·.size)=some 1:=by kernel_rfl)(O:s.eval dx=some (.v (.slice (some ⟨b,0,none⟩) n dc)):=by kernel_rfl)(S:s.eval sx=some (.v (.slice sp m sc)):=by kernel_rfl):SXi P N S0 w0 ops Q i s Φ:=by
 unfold SXi
 rw[fF p]
 intro L a w f
 have T:=f.eval O
 have U:=f.eval S
 have l:=A w f.box.self
 refine ZaG G dx sx dT sT H e k J M (some ⟨b,0,none⟩) sp n m dc sc T U b [] mid [] ys C D (by simpa using l) (E w f.box.self) (fun _=>rfl) ?_
 intro w' z r _ V _
 have u:Own k e w' b (ys.take mid.length ++ mid.drop ys.length):=by simpa using r
 have c:=f.eff V (f.notOwn (fun w R=>(A w R).cell g)) h l.lt (fun W X c Y Z=>F W X c Y (u.same Z))
 have hsl:s.sl d=none:=by simpa using I
 refine K L _ _ ⟨by rw[q];simp[Act.put,c.size],by rw[q];exact c.df,fun j x B=>?_,c.mem,c.box⟩
 have y:d≠j:=fun e=>by rw[e,B] at hsl;cases hsl
 have:=c.sl j x B
 rw[q]
 simp[Act.put,Array.getElem?_setIfInBounds_ne y,this]
theorem xj {b:World→Prop}{n i:Nat}(d:Nat)(y:Value)(c:∀ w,b w→(execOp s.rho (opAt ops i)).run P w=.ok (.value y) w)(K:StI P N S0 w0 ops b Q n (i+1) (s.put d (.v y)) Φ)(hi:Nat.blt i n=true:=by kernel_rfl)(f:Zde (opAt ops i).op=true:=by kernel_rfl)(g:s.wantB ops (opAt ops i)=some true:=by kernel_rfl)(h:(opAt ops i).op.operands.toList.all s.vB=true:=by kernel_rfl)(j:(opAt ops i).dst=some d:=by kernel_rfl)(l:Nat.blt d N=true:=by kernel_rfl):StI P N S0 w0 ops b Q n i s Φ :=
 Zd0 d y hi f g h j l c K
end
def atA (A:Option Addr) (i:Nat):Value:=.pointer (A.map (·.add i))
section
variable {P:Program} {o:Oper} {ρ:Operand→Value} {w:World} {t e:TypeId} {x ix:Operand} {k:IntKind} {xs:List Nat}
theorem xO {A:Option Addr}{len cap i:Nat}(hA:A≠none)(h:i<len)(c:o.op=Op.indexAddr t x ix:=by kernel_rfl)(d:P.underlying t=some (.slice e):=by kernel_rfl)(f:(P.info? e).map (fun i=>i.size)=some 1:=by kernel_rfl)(g:ρ x=.slice A len cap:=by kernel_rfl)(hi:ρ ix=.int .i64 (i:Int):=by kernel_rfl):(execOp ρ o).run P w=.ok (.value (atA A i)) w:=by
 obtain⟨j,b,l⟩:=tP.1 f
 obtain⟨a,rfl⟩:∃ a,A=some a:=by cases A;exact absurd rfl hA;exact⟨_,rfl⟩
 have m:(0:Int)≤(i:Int)∧(i:Int)<(len:Int):=by omega
 simp[execOp,c,Instr.indexAt,asIntOf,underlying,d,g,hi,h,sizeOf,typeInfo,b,l,Result.andThen,atA]
theorem iE {g off len cap i:Nat}(h:i<len)(b:o.op=Op.indexAddr t x ix:=by kernel_rfl)(c:P.underlying t=some (.slice e):=by kernel_rfl)(d:(P.info? e).map (fun i=>i.size)=some 1:=by kernel_rfl)(f:ρ x=.slice (some ⟨g,off,none⟩) len cap:=by kernel_rfl)(hi:ρ ix=.int .i64 (i:Int):=by kernel_rfl):(execOp ρ o).run P w=.ok (.value (.pointer (some ⟨g,off+i,none⟩))) w:=by
 rw[xO (A:=some ⟨g,off,none⟩) (by simp) h b c d f hi,atA,pE,bM]
theorem lX {g len cap i:Nat}(h:i<len)(b:o.op=Op.indexAddr t x ix:=by kernel_rfl)(c:P.underlying t=some (.slice e):=by kernel_rfl)(d:(P.info? e).map (fun i=>i.size)=some 1:=by kernel_rfl)(f:ρ x=.slice (some ⟨g,0,none⟩) len cap:=by kernel_rfl)(hi:ρ ix=.int .i64 (i:Int):=by kernel_rfl):(execOp ρ o).run P w=.ok (.value (.pointer (some ⟨g,i,none⟩))) w:=by
 have:=iE (w:=w) h b c d f hi
 rwa [tU] at this
theorem lP {g off:Nat}{c:Value}(b:w.cell? ⟨g,off,none⟩=some c)(d:o.op=Op.load t x:=by kernel_rfl)(f:ρ x=.pointer (some ⟨g,off,none⟩):=by kernel_rfl)(ha:(teOf P t).map (fun e=>e.agg)=some false:=by kernel_rfl) :
 (execOp ρ o).run P w=.ok (.value c) w:=by
 obtain⟨e,h,i⟩:=tP.1 ha
 have:=Zeo (P:=P) (w:=w) h b i
 simp only[execOp,d,f,Sem.run_bind,this,Result.andThen_ok,Sem.run_pure]
theorem gQ {b j:Nat}(c:Own k e w b xs)(d:j<xs.length)(f:o.op=Op.load t x:=by kernel_rfl)(g:ρ x=.pointer (some ⟨b,j,none⟩):=by kernel_rfl)(ha:(teOf P t).map (fun e=>e.agg)=some false:=by kernel_rfl) :
 (execOp ρ o).run P w=.ok (.value (.int k ((xs[j]?.getD 0:Nat):Int))) w:=lP (c.cell d) f g ha
theorem xW {A:Option Addr}{j:Nat}(b:zH k w A xs)(c:j<xs.length)(d:o.op=Op.load t x:=by kernel_rfl)(f:ρ x=atA A j:=by kernel_rfl)(ha:(teOf P t).map (fun e=>e.agg)=some false:=by kernel_rfl) :
 (execOp ρ o).run P w=.ok (.value (.int k ((xs[j]?.getD 0:Nat):Int))) w:=by
 obtain⟨g,h,rfl,_,i⟩:=b.at c
 exact lP i d (by rw[f,atA,pE,bM]) ha
theorem Zqd {A:Option Addr}{len cap h:Nat}{hi:Operand}(c:h≤cap)(d:o.op=Op.slice t x none (some hi) none:=by kernel_rfl)(f:P.underlying t=some (.slice e):=by kernel_rfl)(g:(P.info? e).map (fun i=>i.size)=some 1:=by kernel_rfl)(j:ρ x=.slice A len cap:=by kernel_rfl)(l:ρ hi=.int .i64 (h:Int):=by kernel_rfl):(execOp ρ o).run P w=.ok (.value (.slice A h cap)) w:=by
 obtain⟨m,b,_⟩:=tP.1 g
 have n:A.map (fun a=>a.add 0)=A:=by cases A with
  | none=>rfl
  | some a=>simp[Addr.add]
 simp[execOp,d,Instr.sliceAt,Instr.slice,Instr.sliceBounds,Instr.sliceBound,asIntOf,underlying,f,j,l,c,sizeOf,typeInfo,b,Result.andThen,n]
theorem ZnS {A:Option Addr}{len cap l:Nat}{lo:Operand}(c:l≤len)(d:o.op=Op.slice t x (some lo) none none:=by kernel_rfl)(f:P.underlying t=some (.slice e):=by kernel_rfl)(g:(P.info? e).map (fun i=>i.size)=some 1:=by kernel_rfl)(h:ρ x=.slice A len cap:=by kernel_rfl)(j:ρ lo=.int .i64 (l:Int):=by kernel_rfl):(execOp ρ o).run P w=.ok (.value (.slice (if cap=l then A else A.map (·.add l)) (len-l) (cap-l))) w:=by
 obtain⟨m,b,n⟩:=tP.1 g
 simp[execOp,d,Instr.sliceAt,Instr.slice,Instr.sliceBounds,Instr.sliceBound,asIntOf,underlying,f,h,j,c,sizeOf,typeInfo,b,n,Result.andThen]
theorem Zpf {g len cap off l h n m:Nat}{lo hi:Operand}(d:l≤h)(b:h≤cap)(j:l<cap)(p:h-l=n)(q:cap-l=m)(r:o.op=Op.slice t x (some lo) (some hi) none:=by kernel_rfl)(u:P.underlying t=some (.slice e):=by kernel_rfl)(v:(P.info? e).map (fun i=>i.size)=some 1:=by kernel_rfl)(y:ρ x=.slice (some ⟨g,off,none⟩) len cap:=by kernel_rfl)(z:ρ lo=.int .i64 (l:Int):=by kernel_rfl)(A:ρ hi=.int .i64 (h:Int):=by kernel_rfl):(execOp ρ o).run P w=.ok (.value (.slice (some ⟨g,off+l,none⟩) n m)) w:=by
 subst p q
 obtain⟨B,c,C⟩:=tP.1 v
 have f:¬ cap=l:=by omega
 simp[execOp,r,Instr.sliceAt,Instr.slice,Instr.sliceBounds,Instr.sliceBound,asIntOf,underlying,u,y,z,A,d,b,sizeOf,typeInfo,c,C,Result.andThen,f,bM]
theorem ZnT {g len cap l h n m:Nat}{lo hi:Operand}(c:l≤h)(b:h≤cap)(d:l<cap)(f:h-l=n)(j:cap-l=m)(p:o.op=Op.slice t x (some lo) (some hi) none:=by kernel_rfl)(q:P.underlying t=some (.slice e):=by kernel_rfl)(r:(P.info? e).map (fun i=>i.size)=some 1:=by kernel_rfl)(u:ρ x=.slice (some ⟨g,0,none⟩) len cap:=by kernel_rfl)(v:ρ lo=.int .i64 (l:Int):=by kernel_rfl)(y:ρ hi=.int .i64 (h:Int):=by kernel_rfl):(execOp ρ o).run P w=.ok (.value (.slice (some ⟨g,l,none⟩) n m)) w:=by
 have:=Zpf (w:=w) c b d f j p q r u v y
 rwa [tU] at this
theorem zH.ne {A:Option Addr}(b:zH k w A xs){j:Nat}(c:j<xs.length):A≠none:=by
 obtain⟨g,d,rfl,_⟩:=b.at c
 intro h;cases h
end
def Zak (ops:Array Oper) (i k:Nat):List Nat:=((ops.toList.drop i).take k).filterMap (fun o=>o.dst)
def Zal (l:List Nat) (sl:SlL):SlL:=sl.filter (fun q => !(l.any (Nat.beq q.1)))
def ZhD (nb:BlL) (bl:BlL):BlL:=bl.filter (fun q => !(nb.any (fun p=>Nat.beq p.1 q.1)))
section
variable {N:Nat} {S0:Nat→Prop} {w0:World} {sl:SlL} {bl:BlL} {Φ Φ0:World→Prop} {P:Program} {ops:Array Oper} {Q:Exit→Act→World→Prop}
theorem xq {i:Nat}(k:Nat)(b:SlL)(a:BlL)(K:SXi P N S0 w0 ops Q (i+k) (ofL (b ++ Zal (Zak ops i k) sl) (a ++ ZhD a bl)) Φ)(h:Zfp P N ops i k (ofL sl bl) (b ++ Zal (Zak ops i k) sl) (a ++ ZhD a bl)=some ((b ++ Zal (Zak ops i k) sl).map (fun q=>some q.2),(a ++ ZhD a bl).map (fun q=>some q.2)):=by kernel_rfl)(c:wfB (b ++ Zal (Zak ops i k) sl) (a ++ ZhD a bl)=true:=by kernel_rfl):SXi P N S0 w0 ops Q i (ofL sl bl) Φ:=Zma k _ _ h c K
theorem xqf {n i:Nat}(k:Nat)(b:SlL)(a:BlL)(K:StI P N S0 w0 ops Φ0 Q n (i+k) (ofL (b ++ Zal (Zak ops i k) sl) a) Φ)(h:Zb4 P N ops k i (ofL sl bl) (b ++ Zal (Zak ops i k) sl)=some ((b ++ Zal (Zak ops i k) sl).map (fun q=>some q.2),dH a):=by kernel_rfl)(c:Nat.ble (i+k) n=true:=by kernel_rfl):StI P N S0 w0 ops Φ0 Q n i (ofL sl bl) Φ:=Zh4 k _ _ h c K
theorem xqg {n i:Nat}(k:Nat)(a:SlL)(K:StI P N S0 w0 ops Φ0 Q n (i+k) (ofL (a ++ Zal (Zak ops i k) sl) bl) Φ)(h:Zb4 P N ops k i (ofL sl bl) (a ++ Zal (Zak ops i k) sl)=some ((a ++ Zal (Zak ops i k) sl).map (fun q=>some q.2),dH bl):=by kernel_rfl)(b:Nat.ble (i+k) n=true:=by kernel_rfl):StI P N S0 w0 ops Φ0 Q n i (ofL sl bl) Φ:=Zh4 k _ _ h b K
theorem xqc {i:Nat}(f:FuncId)(args:List Value)(d:Nat){α:Type}(a:α→Value)(φ:α→World→Prop)(c:∀ w,Fr S0 w0 w→Φ w→Calls P f args.toArray w (kF a φ w))(K:∀ x,SXi P N S0 w0 ops Q (i+1) (ofL ((d,.v (a x)) :: sl) bl) (fun w=>Φ w∧φ x w))(b:Nat.blt i ops.size=true:=by kernel_rfl)(h:fV P N ops (opAt ops i) (ofL sl bl)=some (f,args,d):=by kernel_rfl):SXi P N S0 w0 ops Q i (ofL sl bl) Φ:=ZjT f args d a φ b h c K
theorem xqd {n i:Nat}(f:FuncId)(args:List Value)(d:Nat){α:Type}[e:Nonempty α](a:α→Value)(φ:α→World→Prop)(b:∀ w,Fr S0 w0 w→Φ w→Calls P f args.toArray w (kF a φ w))(K:∀ x,StI P N S0 w0 ops Φ0 Q n (i+1) (ofL ((d,.v (a x)) :: sl) bl) (fun w=>Φ w∧φ x w))(hi:Nat.blt i n=true:=by kernel_rfl)(c:cls (opAt ops i).op=2:=by kernel_rfl)(h:fV P N ops (opAt ops i) (ofL sl bl)=some (f,args,d):=by kernel_rfl):StI P N S0 w0 ops Φ0 Q n i (ofL sl bl) Φ:=ZjV f args d a φ hi c h b K
theorem xqk {i:Nat}(d:Nat)(y:Value)(a:∀ w,Fr S0 w0 w→Φ w→(execOp (ofL sl bl).rho (opAt ops i)).run P w=.ok (.value y) w)(K:SXi P N S0 w0 ops Q (i+1) (ofL ((d,.v y) :: sl) bl) Φ)(hi:Nat.blt i ops.size=true:=by kernel_rfl)(b:iJ (opAt ops i).op=true:=by kernel_rfl)(c:(ofL sl bl).wantB ops (opAt ops i)=some true:=by kernel_rfl)(e:(opAt ops i).op.operands.toList.all (ofL sl bl).vB=true:=by kernel_rfl)(f:(opAt ops i).dst=some d:=by kernel_rfl)(g:Nat.blt d N=true:=by kernel_rfl):SXi P N S0 w0 ops Q i (ofL sl bl) Φ :=
 gZ d y hi b c e f g a K
theorem xqj {n i:Nat}(d:Nat)(y:Value)(a:∀ w,Φ0 w→(execOp (ofL sl bl).rho (opAt ops i)).run P w=.ok (.value y) w)(K:StI P N S0 w0 ops Φ0 Q n (i+1) (ofL ((d,.v y) :: sl) bl) Φ)(hi:Nat.blt i n=true:=by kernel_rfl)(b:Zde (opAt ops i).op=true:=by kernel_rfl)(c:(ofL sl bl).wantB ops (opAt ops i)=some true:=by kernel_rfl)(e:(opAt ops i).op.operands.toList.all (ofL sl bl).vB=true:=by kernel_rfl)(f:(opAt ops i).dst=some d:=by kernel_rfl)(g:Nat.blt d N=true:=by kernel_rfl):StI P N S0 w0 ops Φ0 Q n i (ofL sl bl) Φ :=
 Zd0 d y hi b c e f g a K
end
theorem xE {w w':World}{e:Ending}{n:Nat}(h:lC w n e w'):kF xJ (fun x w=>zJ w (xJ x) n) w e w':=by
 obtain⟨v,rfl,a,Q⟩:=h
 obtain⟨A,l,c,rfl⟩:=a.slice
 exact⟨(A,l,c),rfl,Q,boxn Q (fun S b d f=>a.nrb d f)⟩
theorem fW {P:Program}{o:Oper}{ρ:Operand→Value}{w:World}{y:Value}{f:FuncId}{args:List Operand}{ts:Array TypeId}{a:List Value}(h:(callFunc f a.toArray).run P w=.ok (.value y) w)(b:o.op=.call { callee:=.value (.func f),args:=args.toArray,argTypes:=ts }:=by kernel_rfl)(c:args.map ρ=a:=by kernel_rfl)(d:ρ (.func f)=.func (.func f) #[] #[]:=by kernel_rfl):(execOp ρ o).run P w=.ok (.value y) w:=by
 subst c
 have e:(#[] ++ args.toArray.map ρ ++ #[]:Array Value)=(args.map ρ).toArray:=by simp
 simp only[execOp,b,resolve,d,Deferred.ofValue,Sem.run_bind,Sem.run_pure,Result.andThen_ok,invoke,e,h]
theorem tdq (a c:Nat)(h:a<9223372036854775808):IntKind.i64.wrap (((a:Nat):Int).tdiv (c:Int))=((a/c:Nat):Int):=by
 rw[←Int.ofNat_tdiv,IntKind.wrap_i64]
 have:=uO a c
 generalize a/c=q at *
 omega
theorem tdr (a c:Nat):(((a:Nat):Int).tmod (c:Int))=((a%c:Nat):Int):=(Int.ofNat_tmod a c).symm
theorem lB {a b:Int}(h:((a:Int) == b)=false):a≠b:=by simpa using h
theorem gK {a b:Int}(h:((a:Int) != b)=true):a≠b:=by simpa using h
theorem gL {a b:Int}(h:((a:Int) != b)=false):a=b:=by simpa using h
section
variable {P:Program} {o:Oper} {ρ:Operand→Value} {w:World} {x y:Operand} {t k:TypeId}
theorem Zid {a n:Nat}(h:n≤64)(b:o.op=Op.binOp .shr t x y k:=by kernel_rfl)(c:ρ x=.int .u64 (a:Int):=by kernel_rfl){ky:IntKind}(d:ρ y=.int ky (n:Int):=by kernel_rfl):(execOp ρ o).run P w=.ok (.value (.int .u64 ((a/2^n:Nat):Int))) w:=by
 have e:¬ ((n:Int)<0):=by omega
 have f:min ((n:Int)).toNat IntKind.u64.bits=n:=by show min ((n:Int)).toNat 64=n;omega
 have g:((a:Int)).fdiv (2^n)=((a/2^n:Nat):Int):=by
  rw[qM _ (by rw[show ((2:Int)^n)=((2^n:Nat):Int) by rw[vT];rfl];exact rQ _)]
  exact aB a n
 simp only[execOp,b,c,d,eqGuard,binOp,Op.shift,uN e,f,g]
 rfl
theorem Zie {a n:Nat}(g:n≤64)(b:o.op=Op.binOp .shl t x y k:=by kernel_rfl)(c:ρ x=.int .u64 (a:Int):=by kernel_rfl){ky:IntKind}(d:ρ y=.int ky (n:Int):=by kernel_rfl):(execOp ρ o).run P w=.ok (.value (.int .u64 ((a*2^n%W64:Nat):Int))) w:=by
 have e:¬ ((n:Int)<0):=by omega
 have f:min ((n:Int)).toNat IntKind.u64.bits=n:=by show min ((n:Int)).toNat 64=n;omega
 simp only[execOp,b,c,d,eqGuard,binOp,Op.shift,uN e,f,aV]
 rfl
theorem ZoL {a b r:Nat}(ha:a<W64)(c:b<W64)(h:a ||| b=r)(d:o.op=Op.binOp .or t x y k:=by kernel_rfl)(e:ρ x=.int .u64 (a:Int):=by kernel_rfl)(f:ρ y=.int .u64 (b:Int):=by kernel_rfl):(execOp ρ o).run P w=.ok (.value (.int .u64 (r:Int))) w:=by
 have:=cW ha c
 rw[h] at this
 rw[←this]
 simp only[execOp,d,e,f,eqGuard,binOp]
 rfl
end
theorem lM {B:Nat}{xs:List Nat}(k:Nat):val B (xs.take (k+1))=val B (xs.take k)+B^k*(xs[k]?.getD 0):=by
 rcases vJ k xs.length with h|h
 ·exact zR k h
 rw[uB (by omega),uB h,List.getElem?_eq_none h];simp
/-! ### plus,minus -/
def ZaL (xs ys:List Nat) (k:Nat) (zs:List Nat) (c:Nat):Prop :=
 zs.length=xs.length+1∧Dig W64 zs∧c≤1∧val W64 (zs.take k)+W64^k*c=val W64 (xs.take k)+val W64 (ys.take k)
theorem ZaL.start (xs ys:List Nat):ZaL xs ys 0 (List.replicate (xs.length+1) 0) 0:=⟨by simp,Dig.replicate zN _,by omega,by simp⟩
theorem ZaL.step {xs ys a:List Nat}{k c x y:Nat}(h:ZaL xs ys k a c)(m:k<xs.length)(b:xs[k]?.getD 0=x)(d:ys[k]?.getD 0=y)(e:Dig W64 xs)(f:Dig W64 ys):ZaL xs ys (k+1) (a.set k (xI x y c)) (xM x y c):=by
 obtain⟨g,i,j,l⟩:=h
 refine⟨by simpa using g,i.set k (dM _ _ _),Zcg (b ▸ e.getD zN k) (d ▸ f.getD zN k) j,?_⟩
 rw[xL _ _ _ _ (by omega),lM k,lM k,b,d,uR]
 exact Za2 _ _ _ _ _ _ _ _ _ _ l (fK x y c)
theorem ZaL.done {xs ys a:List Nat}{c:Nat}(h:ZaL xs ys xs.length a c)(b:ys.length≤xs.length):(a.set xs.length c).length=xs.length+1∧Dig W64 (a.set xs.length c)∧val W64 (a.set xs.length c)=val W64 xs+val W64 ys:=by
 obtain⟨d,f,j,g⟩:=h
 have e:(a.set xs.length c).length=xs.length+1:=by simpa using d
 refine⟨e,f.set _ (by have:=fS;omega),?_⟩
 rw[←uB (l:=a.set xs.length c) (i:=xs.length+1) (by omega),xL _ _ _ _ (by omega),g,uB (uK _),uB b]
def MinR (xs ys:List Nat) (k:Nat) (zs:List Nat) (c:Nat):Prop :=
 zs.length=xs.length∧Dig W64 zs∧c≤1∧val W64 (zs.take k)+val W64 (ys.take k)=val W64 (xs.take k)+W64^k*c
theorem MinR.start (xs ys:List Nat):MinR xs ys 0 (List.replicate xs.length 0) 0:=⟨by simp,Dig.replicate zN _,by omega,by simp⟩
theorem MinR.step {xs ys a:List Nat}{k c x y:Nat}(h:MinR xs ys k a c)(n:k<xs.length)(b:xs[k]?.getD 0=x)(d:ys[k]?.getD 0=y)(e:Dig W64 xs)(f:Dig W64 ys):MinR xs ys (k+1) (a.set k (lQ x y c)) (lR x y c):=by
 obtain⟨g,i,j,l⟩:=h
 have m:=Za3 (b ▸ e.getD zN k) (d ▸ f.getD zN k) j
 refine⟨by simpa using g,i.set k (aS _ _ _),Zch _ _ _,?_⟩
 rw[xL _ _ _ _ (by omega),lM k,lM k,b,d,uR]
 exact ZeB _ _ _ _ _ _ _ _ _ _ l m
theorem MinR.done {xs ys d:List Nat}{c:Nat}(h:MinR xs ys xs.length d c)(e:ys.length≤xs.length)(f:val W64 ys≤val W64 xs):val W64 d=val W64 xs-val W64 ys:=by
 obtain⟨g,i,j,a⟩:=h
 rw[uB (by omega),uB e,uB (uK _)] at a
 have b:=xV i
 rw[g] at b
 rcases (by omega:c=0∨c=1) with rfl|rfl
 ·rw[tL] at a;omega
 rw[tW] at a;omega
/-! ### times -/
noncomputable def tmD (z x y c:Nat):Nat:=xI (xI (xB x y) z 0) c 0
noncomputable def tmC (z x y c:Nat):Nat:=wL x y+xM (xB x y) z 0+xM (xI (xB x y) z 0) c 0
theorem ZjZ (z x y c:Nat):tmD z x y c+W64*tmC z x y c=z+x*y+c:=by
 have a:=dN x y
 have b:=fK (xB x y) z 0
 have d:=fK (xI (xB x y) z 0) c 0
 unfold tmD tmC
 rw[uL,uL]
 omega
theorem Zif {z x y c:Nat}(d:z<W64)(a:x<W64)(b:y<W64)(e:c<W64):tmC z x y c<W64:=by
 have f:=ZjZ z x y c
 have g:=Zci a b
 exact bZ _ (by omega)
theorem ZfE {a b:Nat}(h:a+b<W64):IntKind.u64.wrap ((a:Int)+(b:Int))=((a+b:Nat):Int):=by rw[←sO];exact wC _ h
theorem ZqU {z x y c:Nat}(a:z<W64)(b:x<W64)(d:y<W64)(e:c<W64):wL x y+xM (xB x y) z 0<W64:=by have:=Zif a b d e;unfold tmC at this;omega
theorem Zdo (x y:Nat)(w:World)(a:x<W64)(b:y<W64):yA 145 #[.int .u64 (x:Int),.int .u64 (y:Int)] w (RetV w (.tuple #[.int .u64 ((wL x y:Nat):Int),.int .u64 ((xB x y:Nat):Int)])):=by
 refine (Zau x y a b w).mono ?_
 rintro e w' ⟨rfl,rfl⟩
 exact⟨rfl,Fr.refl _ _⟩
def TimI (zs0 ys:List Nat) (x i k:Nat) (zs:List Nat) (c:Nat):Prop :=
 zs.length=zs0.length∧Dig W64 zs∧c<W64∧zs.drop (i+k)=zs0.drop (i+k)∧val W64 (zs.take (i+k))+W64^(i+k)*c=val W64 (zs0.take (i+k))+W64^i*(x*val W64 (ys.take k))
theorem TimI.start {a:List Nat}(ys:List Nat)(x i:Nat)(h:Dig W64 a):TimI a ys x i 0 a 0:=⟨rfl,h,zN,rfl,by simp⟩
theorem TimI.at {a ys b:List Nat}{x i k c:Nat}(h:TimI a ys x i k b c):b[i+k]?.getD 0=a[i+k]?.getD 0:=by
 have:=vG (fun l=>l[0]?.getD 0) h.2.2.2.1
 simpa [List.getElem?_drop] using this
theorem TimI.step {a ys b:List Nat}{x i k c z y:Nat}(h:TimI a ys x i k b c)(j:i+k<a.length)(d:b[i+k]?.getD 0=z)(f:ys[k]?.getD 0=y)(l:Dig W64 ys)(m:x<W64):TimI a ys x i (k+1) (b.set (i+k) (tmD z x y c)) (tmC z x y c):=by
 have n:a[i+k]?.getD 0=z:=h.at.symm.trans d
 obtain⟨p,g,q,r,u⟩:=h
 refine⟨by simpa using p,g.set _ (dM _ _ _),Zif (d ▸ g.getD zN _) m (f ▸ l.getD zN k) q,?_,?_⟩
 ·have e:=vG (List.drop 1) r
  rw[vN,vN] at e
  rw[vY (by omega),show i+(k+1)=i+k+1 by omega];exact e
 rw[show i+(k+1)=(i+k)+1 by omega,xL _ _ _ _ (by omega),zR (i+k) j,lM k,n,f,uR]
 have e:=vG (W64^(i+k) * ·) (ZjZ z x y c)
 have s:W64^i*(x*(val W64 (ys.take k)+W64^k*y))=W64^i*(x*val W64 (ys.take k))+W64^(i+k)*(x*y):=by
  rw[uL x,uL (W64^i),uT,vW x (W64^k) y,uF (W64^i)]
 simp only[uL] at e
 rw[s,uF (W64^(i+k)) W64]
 omega
def TimR (xs ys:List Nat) (i:Nat) (zs:List Nat):Prop :=
 zs.length=xs.length+ys.length∧Dig W64 zs∧(∀ j,i+ys.length≤j→zs[j]?.getD 0=0)∧val W64 (zs.take (i+ys.length))=val W64 (xs.take i)*val W64 ys
theorem Zgl (n j:Nat):(List.replicate n 0)[j]?.getD 0=0:=by rw[List.getElem?_replicate];split<;>rfl
theorem TimR.start (xs ys:List Nat):TimR xs ys 0 (List.replicate (xs.length+ys.length) 0):=⟨by simp,Dig.replicate zN _,fun j _=>Zgl _ _,by rw[List.take_replicate,kS];simp⟩
theorem TimR.step {xs ys a b:List Nat}{i c x:Nat}(h:TimR xs ys i a)(d:i<xs.length)(f:xs[i]?.getD 0=x)(k:TimI a ys x i ys.length b c):TimR xs ys (i+1) (b.set (i+ys.length) c):=by
 obtain⟨s,u,g,m⟩:=h
 obtain⟨v,n,p,q,r⟩:=k
 refine⟨by simp;omega,n.set _ p,fun j z=>?_,?_⟩
 ·rw[List.getElem?_set_ne (by omega)]
  have e:=vG (fun l=>l[j-(i+ys.length)]?.getD 0) q
  simp only[List.getElem?_drop] at e
  rw[show i+ys.length+(j-(i+ys.length))=j by omega] at e
  rw[e];exact g j (by omega)
 rw[show i+1+ys.length=(i+ys.length)+1 by omega,xL _ _ _ _ (by omega),r,m,uB (uK ys.length),zR i d,f,vF,uF]
theorem TimR.done {xs ys a:List Nat}(h:TimR xs ys xs.length a):val W64 a=val W64 xs*val W64 ys:=by
 obtain⟨c,d,e,b⟩:=h
 rwa [uB (by omega),uB (uK _)] at b
theorem Zdp (A:Option Addr)(xs:List Nat)(c:Nat)(w:World)(s:zH .u64 w A xs)(z:xs.length≤1099511627776)(B:xs.length≤c) :
 yA 106 #[.slice A xs.length c] w (RetV w (.slice A (wI xs xs.length) c)):=by
 refine zX (Φ:=fun w=>zH .u64 w A xs) Tryz.func106 rfl (by kernel_rfl) (fun w' u=>s.ext u) ?_
 refine zC (zB (xq 1 [eS1 2 none 0 0] [] ?_))
 refine xe (zA (zC (xH ?_)))
 refine yC [eS1 0 A (xs.length) c] [] (fun w=>zH .u64 w A (xs)) (fun w Q=>Q) ?_
 refine lW (fun p q r=>∃ (k:Nat),q=ofL [eS1 0 A k c] []∧r=(fun w=>zH .u64 w A (xs))∧(wI xs xs.length=wI xs k)∧(k≤xs.length)∧p=(1+k)) ((1+(xs.length))) ⟨(xs.length),rfl,rfl,rfl,uK _,rfl⟩ ?_
 rintro p q r ⟨k,rfl,rfl,n,C,rfl⟩
 refine zC (zC (zB (xq 4 [yB 6 (decide ((k:Int)>0))] [] ?_)))
 rcases bl2 ((decide ((k:Int)>0))) with a|a
 ·rw[a]
  have f:=uC a
  refine xq 4 [eS1 7 A k c,yJ 10 (IntKind.i64.wrap ((k:Int)-1))] [] ?_
  rw[yW ((k:Int)-1) (((k-1:Nat):Int)) (by omega)]
  refine xqk 11 (atA A (k-1)) (fun w R Q=>xO (t:=77) (e:=94) (x:=.tmp 7) (ix:=.tmp 10) (len:=k) (cap:=c) (i:=k-1) ((Q).ne (j:=k-1) (by omega)) (by omega)) ?_
  obtain⟨g,b⟩:=yE (xs[k-1]?.getD 0)
  refine xqk 12 (.int .u64 (g:Int)) (fun w R Q=>by rw[←b];exact xW (t:=94) (x:=.tmp 11) (Q) (j:=k-1) (by omega)) ?_
  refine xq 2 [yB 14 (((g:Int):Int) == 0)] [] ?_
  refine xe (zA ?_)
  refine yQ ((((g:Int):Int) == 0)) (fun d=>?_) fun d=>?_
  ·have l:=tA.1 d
   refine zK (zA (xH (zB (xq 4 [eS1 15 A k c,yJ 18 (IntKind.i64.wrap ((k:Int)-1))] [] ?_))))
   rw[yW ((k:Int)-1) (((k-1:Nat):Int)) (by omega)]
   refine xqk 19 (.slice A (k-1) c) (fun w R Q=>Zqd (t:=77) (e:=94) (x:=.tmp 15) (len:=k) (cap:=c) (h:=k-1) (hi:=.tmp 18) (by omega)) ?_
   refine xq 1 [eS1 0 A (k-1) c] [] ?_
   refine xe (wX ?_)
   refine yP [eS1 0 A ((k-1)) c] [] (fun w=>zH .u64 w A (xs)) (fun w Q=>Q) ?_
   have v:wI xs xs.length=wI xs (k-1):=by obtain⟨m,rfl⟩:∃ m,k=m+1:=⟨k-1,by omega⟩;rw[n,wI,uP (by rw[tE] at b;omega),tE]
   exact wG ((1+((k-1)))) (by omega) ⟨((k-1)),rfl,rfl,v,by omega,rfl⟩
  have l:=lB d
  refine lG (zW (zW (lV (zA (zC (zB (xq 2 [eS1 2 A k c] [] ?_)))))))
  refine xe (zA (zF ?_))
  refine yR (.slice A k c) fun w' R Q=>?_
  exact⟨by obtain⟨m,rfl⟩:∃ m,k=m+1:=⟨k-1,by omega⟩;rw[n,wI,uN (by rw[tE] at b;omega)],R⟩
 rw[a]
 have f:=uD a
 refine xq 8 [yB 14 false] [] ?_
 refine xe (zA (xb (lG (zW (zW (lV (zA (zC (zB (xq 2 [eS1 2 A k c] [] ?_))))))))))
 refine xe (zA (zF ?_))
 refine yR (.slice A k c) fun w' R Q=>?_
 obtain rfl:k=0:=by omega
 exact⟨by rw[n];rfl,R⟩
theorem Zaz {b n v:Nat}{xs:List Nat}{w:World}(a:Own .u64 94 w b xs)(c:Dig W64 xs)(d:xs.length=n)(f:val W64 xs=v)(g:n≤1099511627776):yA 106 #[.slice (some ⟨b,0,none⟩) n n] w (lC w v):=by
 subst d f
 refine (Zdp _ xs _ w a.shows0 g (uK _)).mono ?_
 rintro e w' ⟨rfl,Q⟩
 exact⟨_,rfl,(zJ.of_own a c (uK _)).ext Q,Q⟩
theorem Zk4 (A m:Option Addr)(xs ys:List Nat)(c c2:Nat)(w:World)(T:zH .u64 w A xs)(U:zH .u64 w m ys)(Z:xs.length≤4294967296)(V:ys.length≤4294967296)(K:Dig W64 xs)(L:Dig W64 ys)(W:ys.length≤xs.length)(G:val W64 ys≤val W64 xs) :
 yA 127 #[.slice A xs.length c,.slice m ys.length c2] w (lC w (val W64 xs-val W64 ys)):=by
 refine zX (Φ:=fun w=>(zH .u64 w A xs∧zH .u64 w m ys)) Tryz.func127 rfl (by kernel_rfl) (fun w' M=>⟨T.ext M,U.ext M⟩) ?_
 refine zC (zB (xq 1 [eS1 4 none 0 0] [] ?_))
 refine xe (zA (zC (zB (xq 2 [yJ 10 ((xs.length:Nat):Int)] [] ?_))))
 refine Zby (d:=11) (t:=77) (e:=94) (k:=.u64) (kl:=.i64) (kc:=.i64) (l:=.tmp 10) (c:=.tmp 10) (xs.length) 8 (by omega) (by decide) fun a r _=>?_
 refine xr 1 [eS1 0 A xs.length c,eS1 1 m ys.length c2,eS1 4 none 0 0,eS1 5 (some ⟨a,0,none⟩) (xs.length) (xs.length)] [] ?_
 refine xe (zA (zC (zB (xq 1 [yU 6 0] [] ?_))))
 refine xe (zA (zC (zC (zB (xq 3 [yJ 13 ((xs.length:Nat):Int),yJ 14 0] [] ?_)))))
 refine xe (zA (xH ?_))
 refine yC [eS1 0 A xs.length c,eS1 1 m ys.length c2,eS1 4 none 0 0,eS1 5 (some ⟨a,0,none⟩) (xs.length) (xs.length),yU 6 ((0:Nat):Int),yJ 13 ((xs.length:Nat):Int),yJ 14 ((0:Nat):Int)] [] (fun w=>(Box (fun j=>a≤j) w (fun w=>(zH .u64 w A (xs)∧zH .u64 w m (ys)))∧Own .u64 94 w a ((List.replicate (xs.length) 0)))) (fun w Q=>⟨Q.1,Q.2⟩) ?_
 refine lW (fun N O S=>∃ (f k:Nat) (q:List Nat),O=ofL [eS1 0 A xs.length c,eS1 1 m ys.length c2,eS1 4 none 0 0,eS1 5 (some ⟨a,0,none⟩) (xs.length) (xs.length),yU 6 (f:Int),yJ 13 ((xs.length:Nat):Int),yJ 14 (k:Int)] []∧S=(fun w=>(Box (fun j=>a≤j) w (fun w=>(zH .u64 w A (xs)∧zH .u64 w m (ys)))∧Own .u64 94 w a (q)))∧(MinR xs ys k q f)∧(k≤xs.length)∧N=(xs.length-k)) ((xs.length-0)) ⟨0,0,(List.replicate (xs.length) 0),rfl,rfl,MinR.start xs ys,by omega,rfl⟩ ?_
 rintro N O S ⟨f,k,q,rfl,rfl,z,hk,rfl⟩
 refine zC (zB (xq 1 [yB 15 (decide ((k:Int)<((xs.length:Nat):Int)))] [] ?_))
 refine xe (zA (zC ?_))
 refine yQ ((decide ((k:Int)<((xs.length:Nat):Int)))) (fun n=>?_) fun n=>?_
 ·have B:=uC n
  have X:=z.1
  have Y:=z.2.2.1
  refine zK (zA (zC (xH (zC (zB (xq 2 [yJ 7 (k:Int)] [] ?_))))))
  refine xe (zA (zC (zB (xq 1 [yU 8 0] [] ?_))))
  refine xe (zA (zC (zC (zB (xq 4 [yB 20 (decide ((k:Int)<((ys.length:Nat):Int)))] [] ?_)))))
  refine xe (zA ?_)
  refine yQ ((decide ((k:Int)<((ys.length:Nat):Int)))) (fun p=>?_) fun p=>?_
  ·have C:=uC p
   refine zB (xq 2 [eS1 21 m ys.length c2,yJ 22 (k:Int)] [] ?_)
   refine xqk 23 (atA m k) (fun w R Q=>xO (t:=77) (e:=94) (x:=.tmp 21) (ix:=.tmp 22) (len:=ys.length) (cap:=c2) (i:=k) (((Q.1).self.2).ne (j:=k) (by omega)) (by omega)) ?_
   obtain⟨b,s⟩:=yE (ys[k]?.getD 0)
   refine xqk 24 (.int .u64 (b:Int)) (fun w R Q=>by rw[←s];exact xW (t:=94) (x:=.tmp 23) ((Q.1).self.2) (j:=k) (by omega)) ?_
   refine xq 1 [yU 8 (b:Int)] [] ?_
   refine xe (zA (zB (xq 4 [eS1 26 (some ⟨a,0,none⟩) (xs.length) (xs.length),yJ 27 (k:Int),eS1 28 A xs.length c,yJ 29 (k:Int)] [] ?_)))
   refine xqk 30 (atA A k) (fun w R Q=>xO (t:=77) (e:=94) (x:=.tmp 28) (ix:=.tmp 29) (len:=xs.length) (cap:=c) (i:=k) (((Q.1).self.1).ne (j:=k) (by omega)) (by omega)) ?_
   obtain⟨g,u⟩:=yE (xs[k]?.getD 0)
   refine xqk 31 (.int .u64 (g:Int)) (fun w R Q=>by rw[←u];exact xW (t:=94) (x:=.tmp 30) ((Q.1).self.1) (j:=k) (by omega)) ?_
   refine xq 2 [yU 32 (b:Int),yU 33 (f:Int)] [] ?_
   refine xqk 34 (.tuple #[.int .u64 ((lQ g b f:Nat):Int),.int .u64 ((lR g b f:Nat):Int)]) (fun w R Q=>fW (args:=[Operand.tmp 31,Operand.tmp 32,Operand.tmp 33]) (ts:=#[94,94,94]) (fD g b f (by omega) w)) ?_
   refine xq 3 [yU 35 ((lQ g b f:Nat):Int),yU 36 ((lR g b f:Nat):Int)] [] ?_
   refine xqk 37 (.pointer (some ⟨a,k,none⟩)) (fun w R Q=>lX (t:=77) (e:=94) (x:=.tmp 26) (ix:=.tmp 27) (len:=(xs.length)) (cap:=(xs.length)) (i:=k) (by omega)) ?_
   refine jN (t:=94) (x:=.tmp 37) (y:=.tmp 35) a (k) (lQ g b f) (fun w=>(Box (fun j=>a≤j) w (fun w=>(zH .u64 w A (xs)∧zH .u64 w m (ys)))∧Own .u64 94 w a ((q).set (k) (lQ g b f)))) (fun w Q=>Q.2) (by omega) (Or.inl r) (fun w w' Q H I=>⟨((Q.1).fr (H.mono (fun _ _ e=>by rw[e];exact uK _))),I⟩) ?_
   refine xq 1 [yU 6 ((lR g b f:Nat):Int)] [] ?_
   refine xe (wX (zA (zB (xq 1 [yJ 38 (IntKind.i64.wrap ((k:Int)+1))] [] ?_))))
   rw[yW ((k:Int)+1) (((k+1:Nat):Int)) (by omega)]
   refine xq 1 [yJ 14 ((k+1:Nat):Int)] [] ?_
   refine xe ?_
   refine yP [eS1 0 A xs.length c,eS1 1 m ys.length c2,eS1 4 none 0 0,eS1 5 (some ⟨a,0,none⟩) (xs.length) (xs.length),yU 6 (((lR g b f):Nat):Int),yJ 13 ((xs.length:Nat):Int),yJ 14 (((k+1):Nat):Int)] [] (fun w=>(Box (fun j=>a≤j) w (fun w=>(zH .u64 w A (xs)∧zH .u64 w m (ys)))∧Own .u64 94 w a (((q).set (k) (lQ g b f))))) (fun w Q=>⟨Q.1,Q.2⟩) ?_
   have J:=z.step (k:=k) (by omega) u (y:=b) s K L
   exact wG ((xs.length-(k+1))) (by omega) ⟨(lR g b f),(k+1),((q).set (k) (lQ g b f)),rfl,rfl,J,by omega,rfl⟩
  have C:=uD p
  refine zK (zA (zB (xq 4 [eS1 26 (some ⟨a,0,none⟩) (xs.length) (xs.length),yJ 27 (k:Int),eS1 28 A xs.length c,yJ 29 (k:Int)] [] ?_)))
  refine xqk 30 (atA A k) (fun w R Q=>xO (t:=77) (e:=94) (x:=.tmp 28) (ix:=.tmp 29) (len:=xs.length) (cap:=c) (i:=k) (((Q.1).self.1).ne (j:=k) (by omega)) (by omega)) ?_
  obtain⟨h,v⟩:=yE (xs[k]?.getD 0)
  refine xqk 31 (.int .u64 (h:Int)) (fun w R Q=>by rw[←v];exact xW (t:=94) (x:=.tmp 30) ((Q.1).self.1) (j:=k) (by omega)) ?_
  refine xq 2 [yU 32 0,yU 33 (f:Int)] [] ?_
  refine xqk 34 (.tuple #[.int .u64 ((lQ h 0 f:Nat):Int),.int .u64 ((lR h 0 f:Nat):Int)]) (fun w R Q=>fW (args:=[Operand.tmp 31,Operand.tmp 32,Operand.tmp 33]) (ts:=#[94,94,94]) (fD h 0 f (by omega) w)) ?_
  refine xq 3 [yU 35 ((lQ h 0 f:Nat):Int),yU 36 ((lR h 0 f:Nat):Int)] [] ?_
  refine xqk 37 (.pointer (some ⟨a,k,none⟩)) (fun w R Q=>lX (t:=77) (e:=94) (x:=.tmp 26) (ix:=.tmp 27) (len:=(xs.length)) (cap:=(xs.length)) (i:=k) (by omega)) ?_
  refine jN (t:=94) (x:=.tmp 37) (y:=.tmp 35) a (k) (lQ h 0 f) (fun w=>(Box (fun j=>a≤j) w (fun w=>(zH .u64 w A (xs)∧zH .u64 w m (ys)))∧Own .u64 94 w a ((q).set (k) (lQ h 0 f)))) (fun w Q=>Q.2) (by omega) (Or.inl r) (fun w w' Q H I=>⟨((Q.1).fr (H.mono (fun _ _ e=>by rw[e];exact uK _))),I⟩) ?_
  refine xq 1 [yU 6 ((lR h 0 f:Nat):Int)] [] ?_
  refine xe (wX (zA (zB (xq 1 [yJ 38 (IntKind.i64.wrap ((k:Int)+1))] [] ?_))))
  rw[yW ((k:Int)+1) (((k+1:Nat):Int)) (by omega)]
  refine xq 1 [yJ 14 ((k+1:Nat):Int)] [] ?_
  refine xe ?_
  refine yP [eS1 0 A xs.length c,eS1 1 m ys.length c2,eS1 4 none 0 0,eS1 5 (some ⟨a,0,none⟩) (xs.length) (xs.length),yU 6 (((lR h 0 f):Nat):Int),yJ 13 ((xs.length:Nat):Int),yJ 14 (((k+1):Nat):Int)] [] (fun w=>(Box (fun j=>a≤j) w (fun w=>(zH .u64 w A (xs)∧zH .u64 w m (ys)))∧Own .u64 94 w a (((q).set (k) (lQ h 0 f))))) (fun w Q=>⟨Q.1,Q.2⟩) ?_
  have J:=z.step (k:=k) (by omega) v (y:=0) (by rw[List.getElem?_eq_none (by omega)];rfl) K L
  exact wG ((xs.length-(k+1))) (by omega) ⟨(lR h 0 f),(k+1),((q).set (k) (lQ h 0 f)),rfl,rfl,J,by omega,rfl⟩
 have B:=uD n
 obtain rfl:k=xs.length:=by omega
 refine lG (zW (zW (lV (zA (zC (zB (xq 1 [eS1 39 (some ⟨a,0,none⟩) (xs.length) (xs.length)] [] ?_)))))))
 refine xqc 106 [.slice (some ⟨a,0,none⟩) (xs.length) (xs.length)] 40 xJ _ (fun w R Q=>yM xE (Zaz Q.2 z.2.1 z.1 (z.done W G) (by omega))) fun⟨D,E,F⟩=>?_
 refine xq 1 [eS1 4 D E F] [] ?_
 refine xe (zA (zF ?_))
 refine yR (.slice D E F) fun w' R Q=>?_
 exact⟨_,rfl,Q.2,R⟩
theorem Zmk (A B:Option Addr)(xs ys:List Nat)(c c2:Nat)(w:World)(hX:zH .u64 w A xs)(hY:zH .u64 w B ys)(hl:xs.length≤4294967296)(W:ys.length≤4294967296)(hx:Dig W64 xs)(hy:Dig W64 ys) :
 yA 126 #[.slice A xs.length c,.slice B ys.length c2] w (lC w (val W64 xs+val W64 ys)):=by
 refine zX (Φ:=fun w=>(zH .u64 w A xs∧zH .u64 w B ys)) Tryz.func126 rfl (by kernel_rfl) (fun w' hf=>⟨hX.ext hf,hY.ext hf⟩) ?_
 refine zC (zB (xq 1 [eS1 4 none 0 0] [] ?_))
 refine xe (zA ?_)
 refine Zbg (fun L M=>∃ (p q:Option Addr) (a n:List Nat) (r D:Nat),L=ofL [eS1 0 p a.length r,eS1 1 q n.length D,eS1 4 none 0 0] []∧M=(fun w=>(zH .u64 w p (a)∧zH .u64 w q (n)))∧(n.length≤a.length)∧(Dig W64 a)∧(Dig W64 n)∧(a.length≤4294967296)∧(val W64 a+val W64 n=val W64 xs+val W64 ys)) ?_ ?_
 ·refine zC (zB (xq 5 [yB 13 (decide (((xs.length:Nat):Int)<((ys.length:Nat):Int)))] [] ?_))
  refine xe (zA ?_)
  refine yQ ((decide (((xs.length:Nat):Int)<((ys.length:Nat):Int)))) (fun s=>?_) fun s=>?_
  ·have H:=uC s
   refine zB (xq 4 [eS1 0 B ys.length c2,eS1 1 A xs.length c] [] ?_)
   refine xe ?_
   refine yP [eS1 0 B ys.length c2,eS1 1 A xs.length c,eS1 4 none 0 0] [] (fun w=>(zH .u64 w B (ys)∧zH .u64 w A (xs))) (fun w Q=>⟨Q.2,Q.1⟩) ?_
   exact kW ⟨B,A,ys,xs,c2,c,rfl,rfl,(by omega),hy,hx,W,vL _ _⟩
  have H:=uD s
  refine zK ?_
  refine yP [eS1 0 A xs.length c,eS1 1 B ys.length c2,eS1 4 none 0 0] [] (fun w=>(zH .u64 w A (xs)∧zH .u64 w B (ys))) (fun w Q=>⟨Q.1,Q.2⟩) ?_
  exact kW ⟨A,B,xs,ys,c,c2,rfl,rfl,(by omega),hx,hy,hl,rfl⟩
 rintro L M ⟨p,q,a,n,r,D,rfl,rfl,h1,hu,hv,a0,N⟩
 refine zC (zB (xq 3 [yJ 18 (IntKind.i64.wrap (((a.length:Nat):Int)+1))] [] ?_))
 rw[yW (((a.length:Nat):Int)+1) (((a.length+1:Nat):Int)) (by omega)]
 refine Zby (d:=19) (t:=77) (e:=94) (k:=.u64) (kl:=.i64) (kc:=.i64) (l:=.tmp 18) (c:=.tmp 18) (a.length+1) 8 (by omega) (by decide) fun b u _=>?_
 refine xr 1 [eS1 0 p a.length r,eS1 1 q n.length D,eS1 4 none 0 0,eS1 5 (some ⟨b,0,none⟩) (a.length+1) (a.length+1)] [] ?_
 refine xe (zA (zC (zB (xq 1 [yU 6 0] [] ?_))))
 refine xe (zA (zC (zC (zB (xq 3 [yJ 21 ((a.length:Nat):Int),yJ 22 0] [] ?_)))))
 refine xe (zA (xH ?_))
 refine yC [eS1 0 p a.length r,eS1 1 q n.length D,eS1 4 none 0 0,eS1 5 (some ⟨b,0,none⟩) (a.length+1) (a.length+1),yU 6 ((0:Nat):Int),yJ 21 ((a.length:Nat):Int),yJ 22 ((0:Nat):Int)] [] (fun w=>(Box (fun j=>b≤j) w (fun w=>(zH .u64 w p (a)∧zH .u64 w q (n)))∧Own .u64 94 w b ((List.replicate (a.length+1) 0)))) (fun w Q=>⟨Q.1,Q.2⟩) ?_
 refine lW (fun nn L M=>∃ (g k:Nat) (C:List Nat),L=ofL [eS1 0 p a.length r,eS1 1 q n.length D,eS1 4 none 0 0,eS1 5 (some ⟨b,0,none⟩) (a.length+1) (a.length+1),yU 6 (g:Int),yJ 21 ((a.length:Nat):Int),yJ 22 (k:Int)] []∧M=(fun w=>(Box (fun j=>b≤j) w (fun w=>(zH .u64 w p (a)∧zH .u64 w q (n)))∧Own .u64 94 w b (C)))∧(ZaL a n k C g)∧(k≤a.length)∧nn=(a.length-k)) ((a.length-0)) ⟨0,0,(List.replicate (a.length+1) 0),rfl,rfl,ZaL.start a n,by omega,rfl⟩ ?_
 rintro nn L M ⟨g,k,C,rfl,rfl,K,hk,rfl⟩
 refine zC (zB (xq 1 [yB 23 (decide ((k:Int)<((a.length:Nat):Int)))] [] ?_))
 refine xe (zA (zC ?_))
 refine yQ ((decide ((k:Int)<((a.length:Nat):Int)))) (fun v=>?_) fun v=>?_
 ·have I:=uC v
  have X:=K.1
  have b0:=K.2.2.1
  refine zK (zA (zC (xH (zC (zB (xq 2 [yJ 7 (k:Int)] [] ?_))))))
  refine xe (zA (zC (zB (xq 1 [yU 8 0] [] ?_))))
  refine xe (zA (zC (zC (zB (xq 4 [yB 28 (decide ((k:Int)<((n.length:Nat):Int)))] [] ?_)))))
  refine xe (zA ?_)
  refine yQ ((decide ((k:Int)<((n.length:Nat):Int)))) (fun z=>?_) fun z=>?_
  ·have J:=uC z
   refine zB (xq 2 [eS1 29 q n.length D,yJ 30 (k:Int)] [] ?_)
   refine xqk 31 (atA q k) (fun w R Q=>xO (t:=77) (e:=94) (x:=.tmp 29) (ix:=.tmp 30) (len:=n.length) (cap:=D) (i:=k) (((Q.1).self.2).ne (j:=k) (by omega)) (by omega)) ?_
   obtain⟨f,E⟩:=yE (n[k]?.getD 0)
   refine xqk 32 (.int .u64 (f:Int)) (fun w R Q=>by rw[←E];exact xW (t:=94) (x:=.tmp 31) ((Q.1).self.2) (j:=k) (by omega)) ?_
   refine xq 1 [yU 8 (f:Int)] [] ?_
   refine xe (zA (zB (xq 4 [eS1 34 (some ⟨b,0,none⟩) (a.length+1) (a.length+1),yJ 35 (k:Int),eS1 36 p a.length r,yJ 37 (k:Int)] [] ?_)))
   refine xqk 38 (atA p k) (fun w R Q=>xO (t:=77) (e:=94) (x:=.tmp 36) (ix:=.tmp 37) (len:=a.length) (cap:=r) (i:=k) (((Q.1).self.1).ne (j:=k) (by omega)) (by omega)) ?_
   obtain⟨h,F⟩:=yE (a[k]?.getD 0)
   refine xqk 39 (.int .u64 (h:Int)) (fun w R Q=>by rw[←F];exact xW (t:=94) (x:=.tmp 38) ((Q.1).self.1) (j:=k) (by omega)) ?_
   refine xq 2 [yU 40 (f:Int),yU 41 (g:Int)] [] ?_
   refine xqk 42 (.tuple #[.int .u64 ((xI h f g:Nat):Int),.int .u64 ((xM h f g:Nat):Int)]) (fun w R Q=>fW (args:=[Operand.tmp 39,Operand.tmp 40,Operand.tmp 41]) (ts:=#[94,94,94]) (fC h f g (by omega) w)) ?_
   refine xq 3 [yU 43 ((xI h f g:Nat):Int),yU 44 ((xM h f g:Nat):Int)] [] ?_
   refine xqk 45 (.pointer (some ⟨b,k,none⟩)) (fun w R Q=>lX (t:=77) (e:=94) (x:=.tmp 34) (ix:=.tmp 35) (len:=(a.length+1)) (cap:=(a.length+1)) (i:=k) (by omega)) ?_
   refine jN (t:=94) (x:=.tmp 45) (y:=.tmp 43) b (k) (xI h f g) (fun w=>(Box (fun j=>b≤j) w (fun w=>(zH .u64 w p (a)∧zH .u64 w q (n)))∧Own .u64 94 w b ((C).set (k) (xI h f g)))) (fun w Q=>Q.2) (by omega) (Or.inl u) (fun w w' Q O S=>⟨((Q.1).fr (O.mono (fun _ _ e=>by rw[e];exact uK _))),S⟩) ?_
   refine xq 1 [yU 6 ((xM h f g:Nat):Int)] [] ?_
   refine xe (wX (zA (zB (xq 1 [yJ 46 (IntKind.i64.wrap ((k:Int)+1))] [] ?_))))
   rw[yW ((k:Int)+1) (((k+1:Nat):Int)) (by omega)]
   refine xq 1 [yJ 22 ((k+1:Nat):Int)] [] ?_
   refine xe ?_
   refine yP [eS1 0 p a.length r,eS1 1 q n.length D,eS1 4 none 0 0,eS1 5 (some ⟨b,0,none⟩) (a.length+1) (a.length+1),yU 6 (((xM h f g):Nat):Int),yJ 21 ((a.length:Nat):Int),yJ 22 (((k+1):Nat):Int)] [] (fun w=>(Box (fun j=>b≤j) w (fun w=>(zH .u64 w p (a)∧zH .u64 w q (n)))∧Own .u64 94 w b (((C).set (k) (xI h f g))))) (fun w Q=>⟨Q.1,Q.2⟩) ?_
   have Y:=K.step (k:=k) (by omega) F (y:=f) E hu hv
   exact wG ((a.length-(k+1))) (by omega) ⟨(xM h f g),(k+1),((C).set (k) (xI h f g)),rfl,rfl,Y,by omega,rfl⟩
  have J:=uD z
  refine zK (zA (zB (xq 4 [eS1 34 (some ⟨b,0,none⟩) (a.length+1) (a.length+1),yJ 35 (k:Int),eS1 36 p a.length r,yJ 37 (k:Int)] [] ?_)))
  refine xqk 38 (atA p k) (fun w R Q=>xO (t:=77) (e:=94) (x:=.tmp 36) (ix:=.tmp 37) (len:=a.length) (cap:=r) (i:=k) (((Q.1).self.1).ne (j:=k) (by omega)) (by omega)) ?_
  obtain⟨m,G⟩:=yE (a[k]?.getD 0)
  refine xqk 39 (.int .u64 (m:Int)) (fun w R Q=>by rw[←G];exact xW (t:=94) (x:=.tmp 38) ((Q.1).self.1) (j:=k) (by omega)) ?_
  refine xq 2 [yU 40 0,yU 41 (g:Int)] [] ?_
  refine xqk 42 (.tuple #[.int .u64 ((xI m 0 g:Nat):Int),.int .u64 ((xM m 0 g:Nat):Int)]) (fun w R Q=>fW (args:=[Operand.tmp 39,Operand.tmp 40,Operand.tmp 41]) (ts:=#[94,94,94]) (fC m 0 g (by omega) w)) ?_
  refine xq 3 [yU 43 ((xI m 0 g:Nat):Int),yU 44 ((xM m 0 g:Nat):Int)] [] ?_
  refine xqk 45 (.pointer (some ⟨b,k,none⟩)) (fun w R Q=>lX (t:=77) (e:=94) (x:=.tmp 34) (ix:=.tmp 35) (len:=(a.length+1)) (cap:=(a.length+1)) (i:=k) (by omega)) ?_
  refine jN (t:=94) (x:=.tmp 45) (y:=.tmp 43) b (k) (xI m 0 g) (fun w=>(Box (fun j=>b≤j) w (fun w=>(zH .u64 w p (a)∧zH .u64 w q (n)))∧Own .u64 94 w b ((C).set (k) (xI m 0 g)))) (fun w Q=>Q.2) (by omega) (Or.inl u) (fun w w' Q O S=>⟨((Q.1).fr (O.mono (fun _ _ e=>by rw[e];exact uK _))),S⟩) ?_
  refine xq 1 [yU 6 ((xM m 0 g:Nat):Int)] [] ?_
  refine xe (wX (zA (zB (xq 1 [yJ 46 (IntKind.i64.wrap ((k:Int)+1))] [] ?_))))
  rw[yW ((k:Int)+1) (((k+1:Nat):Int)) (by omega)]
  refine xq 1 [yJ 22 ((k+1:Nat):Int)] [] ?_
  refine xe ?_
  refine yP [eS1 0 p a.length r,eS1 1 q n.length D,eS1 4 none 0 0,eS1 5 (some ⟨b,0,none⟩) (a.length+1) (a.length+1),yU 6 (((xM m 0 g):Nat):Int),yJ 21 ((a.length:Nat):Int),yJ 22 (((k+1):Nat):Int)] [] (fun w=>(Box (fun j=>b≤j) w (fun w=>(zH .u64 w p (a)∧zH .u64 w q (n)))∧Own .u64 94 w b (((C).set (k) (xI m 0 g))))) (fun w Q=>⟨Q.1,Q.2⟩) ?_
  have Y:=K.step (k:=k) (by omega) G (y:=0) (by rw[List.getElem?_eq_none (by omega)];rfl) hu hv
  exact wG ((a.length-(k+1))) (by omega) ⟨(xM m 0 g),(k+1),((C).set (k) (xI m 0 g)),rfl,rfl,Y,by omega,rfl⟩
 have I:=uD v
 obtain rfl:k=a.length:=by omega
 have X:=K.1
 have Z:=K.done h1
 refine lG (zW (zW (lV (zA (zC (zB (xq 4 [eS1 47 (some ⟨b,0,none⟩) (a.length+1) (a.length+1),yJ 49 ((a.length:Nat):Int),yU 50 (g:Int)] [] ?_)))))))
 refine xqk 51 (.pointer (some ⟨b,a.length,none⟩)) (fun w R Q=>lX (t:=77) (e:=94) (x:=.tmp 47) (ix:=.tmp 49) (len:=(a.length+1)) (cap:=(a.length+1)) (i:=a.length) (by omega)) ?_
 refine jN (t:=94) (x:=.tmp 51) (y:=.tmp 50) b (a.length) (g) (fun w=>(Box (fun j=>b≤j) w (fun w=>(zH .u64 w p (a)∧zH .u64 w q (n)))∧Own .u64 94 w b ((C).set (a.length) (g)))) (fun w Q=>Q.2) (by omega) (Or.inl u) (fun w w' Q O S=>⟨((Q.1).fr (O.mono (fun _ _ e=>by rw[e];exact uK _))),S⟩) ?_
 refine xe (zA (zC (zB (xq 1 [eS1 52 (some ⟨b,0,none⟩) (a.length+1) (a.length+1)] [] ?_))))
 refine xqc 106 [.slice (some ⟨b,0,none⟩) (a.length+1) (a.length+1)] 53 xJ _ (fun w R Q=>yM xE (Zaz Q.2 Z.2.1 Z.1 (Z.2.2.trans N) (by omega))) fun⟨T,U,V⟩=>?_
 refine xq 1 [eS1 4 T U V] [] ?_
 refine xe (zA (zF ?_))
 refine yR (.slice T U V) fun w' R Q=>?_
 exact⟨_,rfl,Q.2,R⟩
theorem Zk5 (A n:Option Addr)(xs ys:List Nat)(c c2:Nat)(w:World)(hX:zH .u64 w A xs)(hY:zH .u64 w n ys)(hl:xs.length≤4294967296)(a0:ys.length≤4294967296)(S:Dig W64 xs)(T:Dig W64 ys) :
 yA 124 #[.slice A xs.length c,.slice n ys.length c2] w (lC w (val W64 xs*val W64 ys)):=by
 refine zX (Φ:=fun w=>(zH .u64 w A xs∧zH .u64 w n ys)) Tryz.func124 rfl (by kernel_rfl) (fun w' Z=>⟨hX.ext Z,hY.ext Z⟩) ?_
 refine zC (zB (xq 1 [eS1 4 none 0 0] [] ?_))
 refine xe (zA (zC (zB (xq 5 [yJ 18 (IntKind.i64.wrap (((xs.length:Nat):Int)+((ys.length:Nat):Int)))] [] ?_))))
 rw[yW (((xs.length:Nat):Int)+((ys.length:Nat):Int)) (((xs.length+(ys.length):Nat):Int)) (by omega)]
 refine Zby (d:=19) (t:=77) (e:=94) (k:=.u64) (kl:=.i64) (kc:=.i64) (l:=.tmp 18) (c:=.tmp 18) (xs.length+(ys.length)) 8 (by omega) (by decide) fun h C _=>?_
 refine xr 1 [eS1 0 A xs.length c,eS1 1 n ys.length c2,eS1 4 none 0 0,eS1 5 (some ⟨h,0,none⟩) (xs.length+(ys.length)) (xs.length+(ys.length))] [] ?_
 refine xe (zA (zC (zC (zB (xq 3 [eS1 20 A xs.length c,yJ 21 ((xs.length:Nat):Int),yJ 22 0] [] ?_)))))
 refine xe (zA (xH ?_))
 refine yC [eS1 1 n ys.length c2,eS1 4 none 0 0,eS1 5 (some ⟨h,0,none⟩) (xs.length+(ys.length)) (xs.length+(ys.length)),eS1 20 A xs.length c,yJ 21 ((xs.length:Nat):Int),yJ 22 ((0:Nat):Int)] [] (fun w=>(Box (fun j=>h≤j) w (fun w=>(zH .u64 w A (xs)∧zH .u64 w n (ys)))∧Own .u64 94 w h ((List.replicate (xs.length+(ys.length)) 0)))) (fun w Q=>⟨Q.1,Q.2⟩) ?_
 refine lW (fun J K L=>∃ (i:Nat) (I:List Nat),K=ofL [eS1 1 n ys.length c2,eS1 4 none 0 0,eS1 5 (some ⟨h,0,none⟩) (xs.length+(ys.length)) (xs.length+(ys.length)),eS1 20 A xs.length c,yJ 21 ((xs.length:Nat):Int),yJ 22 (i:Int)] []∧L=(fun w=>(Box (fun j=>h≤j) w (fun w=>(zH .u64 w A (xs)∧zH .u64 w n (ys)))∧Own .u64 94 w h (I)))∧(TimR xs ys i I)∧(i≤xs.length)∧J=(xs.length-i)) ((xs.length-0)) ⟨0,(List.replicate (xs.length+(ys.length)) 0),rfl,rfl,TimR.start xs ys,by omega,rfl⟩ ?_
 rintro J K L ⟨i,I,rfl,rfl,E,hi,rfl⟩
 refine zC (zB (xq 1 [yB 23 (decide ((i:Int)<((xs.length:Nat):Int)))] [] ?_))
 refine xe (zA (zC ?_))
 refine yQ ((decide ((i:Int)<((xs.length:Nat):Int)))) (fun u=>?_) fun u=>?_
 ·have F:=uC u
  have U:=E.1
  refine zK (zA (zC (xH (zC (zB (xq 1 [yJ 24 (i:Int)] [] ?_))))))
  refine xqk 25 (atA A i) (fun w R Q=>xO (t:=77) (e:=94) (x:=.tmp 20) (ix:=.tmp 22) (len:=xs.length) (cap:=c) (i:=i) (((Q.1).self.1).ne (j:=i) (by omega)) (by omega)) ?_
  obtain⟨f,q⟩:=yE (xs[i]?.getD 0)
  refine xqk 26 (.int .u64 (f:Int)) (fun w R Q=>by rw[←q];exact xW (t:=94) (x:=.tmp 25) ((Q.1).self.1) (j:=i) (by omega)) ?_
  refine xq 2 [yJ 6 (i:Int),yU 7 (f:Int)] [] ?_
  refine xe (zA (zC (zB (xq 1 [yU 8 0] [] ?_))))
  refine xe (zA (zC (zC (zB (xq 3 [eS1 27 n ys.length c2,yJ 28 ((ys.length:Nat):Int),yJ 29 0] [] ?_)))))
  refine xe (zA (xH ?_))
  refine yC [eS1 1 n ys.length c2,eS1 4 none 0 0,eS1 5 (some ⟨h,0,none⟩) (xs.length+(ys.length)) (xs.length+(ys.length)),yJ 6 (i:Int),yU 7 (f:Int),yU 8 ((0:Nat):Int),eS1 20 A xs.length c,yJ 21 ((xs.length:Nat):Int),yJ 22 (i:Int),eS1 27 n ys.length c2,yJ 28 ((ys.length:Nat):Int),yJ 29 ((0:Nat):Int)] [] (fun w=>(Box (fun j=>h≤j) w (fun w=>(zH .u64 w A (xs)∧zH .u64 w n (ys)))∧Own .u64 94 w h (I))) (fun w Q=>⟨Q.1,Q.2⟩) ?_
  refine lW (fun J K L=>∃ (p k:Nat) (B:List Nat),K=ofL [eS1 1 n ys.length c2,eS1 4 none 0 0,eS1 5 (some ⟨h,0,none⟩) (xs.length+(ys.length)) (xs.length+(ys.length)),yJ 6 (i:Int),yU 7 (f:Int),yU 8 (p:Int),eS1 20 A xs.length c,yJ 21 ((xs.length:Nat):Int),yJ 22 (i:Int),eS1 27 n ys.length c2,yJ 28 ((ys.length:Nat):Int),yJ 29 (k:Int)] []∧L=(fun w=>(Box (fun j=>h≤j) w (fun w=>(zH .u64 w A (xs)∧zH .u64 w n (ys)))∧Own .u64 94 w h (B)))∧(TimI I ys f i k B p)∧(k≤ys.length)∧J=(ys.length-k)) ((ys.length-0)) ⟨0,0,I,rfl,rfl,TimI.start ys f i E.2.1,by omega,rfl⟩ ?_
  rintro J K L ⟨p,k,B,rfl,rfl,D,hk,rfl⟩
  refine zC (zB (xq 1 [yB 30 (decide ((k:Int)<((ys.length:Nat):Int)))] [] ?_))
  refine xe (zA (zC ?_))
  refine yQ ((decide ((k:Int)<((ys.length:Nat):Int)))) (fun z=>?_) fun z=>?_
  ·have G:=uC z
   have V:=D.1
   have H:=D.2.2.1
   refine zK (zA (zC (xH (zC (zB (xq 1 [yJ 31 (k:Int)] [] ?_))))))
   refine xqk 32 (atA n k) (fun w R Q=>xO (t:=77) (e:=94) (x:=.tmp 27) (ix:=.tmp 29) (len:=ys.length) (cap:=c2) (i:=k) (((Q.1).self.2).ne (j:=k) (by omega)) (by omega)) ?_
   obtain⟨g,r⟩:=yE (ys[k]?.getD 0)
   refine xqk 33 (.int .u64 (g:Int)) (fun w R Q=>by rw[←r];exact xW (t:=94) (x:=.tmp 32) ((Q.1).self.2) (j:=k) (by omega)) ?_
   refine xq 2 [yJ 9 (k:Int),yU 10 (g:Int)] [] ?_
   refine xe (zA (zC (zB (xq 2 [yU 35 (f:Int),yU 36 (g:Int)] [] ?_))))
   refine xqc 145 [.int .u64 (f:Int),.int .u64 (g:Int)] 37 (fun _:Unit=>.tuple #[.int .u64 ((wL f g:Nat):Int),.int .u64 ((xB f g:Nat):Int)]) _ (fun w R Q=>yN (Zdo f g _ (by rw[←q];exact S.getD zN _) (by rw[←r];exact T.getD zN _))) fun xx=>?_
   refine xq 5 [yU 11 ((wL f g:Nat):Int),yU 12 ((xB f g:Nat):Int)] [] ?_
   refine xe (zA (zC (zB (xq 5 [yU 41 ((xB f g:Nat):Int),eS1 42 (some ⟨h,0,none⟩) (xs.length+(ys.length)) (xs.length+(ys.length)),yJ 45 (IntKind.i64.wrap ((i:Int)+(k:Int)))] [] ?_))))
   rw[yW ((i:Int)+(k:Int)) (((i+k:Nat):Int)) (by omega)]
   refine xqk 46 (.pointer (some ⟨h,i+k,none⟩)) (fun w R Q=>lX (t:=77) (e:=94) (x:=.tmp 42) (ix:=.tmp 45) (len:=(xs.length+(ys.length))) (cap:=(xs.length+(ys.length))) (i:=i+k) (by omega)) ?_
   obtain⟨m,s⟩:=yE (B[i+k]?.getD 0)
   refine xqk 47 (.int .u64 (m:Int)) (fun w R Q=>by rw[←s];exact gQ (t:=94) (x:=.tmp 46) (Q.1.2) (j:=i+k) (by omega)) ?_
   refine xqk 48 (.tuple #[.int .u64 ((xI (xB f g) m 0:Nat):Int),.int .u64 ((xM (xB f g) m 0:Nat):Int)]) (fun w R Q=>fW (args:=[Operand.tmp 41,Operand.tmp 47,Operand.const (Value.int IntKind.u64 0)]) (ts:=#[94,94,94]) (fC (xB f g) m 0 (by omega) w)) ?_
   refine xq 5 [yU 12 ((xI (xB f g) m 0:Nat):Int),yU 13 ((xM (xB f g) m 0:Nat):Int)] [] ?_
   refine xe (zA (zC (zB (xq 3 [(53,.v (.int .u64 (IntKind.u64.wrap (((wL f g:Nat):Int)+((xM (xB f g) m 0:Nat):Int)))))] [] ?_))))
   rw[ZfE (a:=wL f g) (b:=xM (xB f g) m 0) (ZqU (by rw[←s];exact D.2.1.getD zN _) (by rw[←q];exact S.getD zN _) (by rw[←r];exact T.getD zN _) H)]
   refine xq 1 [yU 11 ((wL f g+xM (xB f g) m 0:Nat):Int)] [] ?_
   refine xe (zA (zC (zB (xq 4 [eS1 55 (some ⟨h,0,none⟩) (xs.length+(ys.length)) (xs.length+(ys.length)),yJ 58 (IntKind.i64.wrap ((i:Int)+(k:Int)))] [] ?_))))
   rw[yW ((i:Int)+(k:Int)) (((i+k:Nat):Int)) (by omega)]
   refine xq 2 [yU 59 ((xI (xB f g) m 0:Nat):Int),yU 60 (p:Int)] [] ?_
   refine xqk 61 (.tuple #[.int .u64 ((xI (xI (xB f g) m 0) p 0:Nat):Int),.int .u64 ((xM (xI (xB f g) m 0) p 0:Nat):Int)]) (fun w R Q=>fW (args:=[Operand.tmp 59,Operand.tmp 60,Operand.const (Value.int IntKind.u64 0)]) (ts:=#[94,94,94]) (fC (xI (xB f g) m 0) p 0 (by omega) w)) ?_
   refine xq 3 [yU 62 ((xI (xI (xB f g) m 0) p 0:Nat):Int),yU 63 ((xM (xI (xB f g) m 0) p 0:Nat):Int)] [] ?_
   refine xqk 64 (.pointer (some ⟨h,i+k,none⟩)) (fun w R Q=>lX (t:=77) (e:=94) (x:=.tmp 55) (ix:=.tmp 58) (len:=(xs.length+(ys.length))) (cap:=(xs.length+(ys.length))) (i:=i+k) (by omega)) ?_
   refine jN (t:=94) (x:=.tmp 64) (y:=.tmp 62) h (i+k) (xI (xI (xB f g) m 0) p 0) (fun w=>((Box (fun j=>h≤j) w (fun w=>(zH .u64 w A (xs)∧zH .u64 w n (ys)))∧Own .u64 94 w h ((B).set (i+k) (xI (xI (xB f g) m 0) p 0)))∧True)) (fun w Q=>Q.1.2) (by omega) (Or.inl C) (fun w w' Q W X=>⟨⟨((Q.1.1).fr (W.mono (fun _ _ e=>by rw[e];exact uK _))),X⟩,trivial⟩) ?_
   refine xr 1 [eS1 1 n ys.length c2,eS1 4 none 0 0,eS1 5 (some ⟨h,0,none⟩) (xs.length+(ys.length)) (xs.length+(ys.length)),yJ 6 (i:Int),yU 7 (f:Int),yU 8 (p:Int),yU 11 ((wL f g+xM (xB f g) m 0:Nat):Int),yU 13 ((xM (xI (xB f g) m 0) p 0:Nat):Int),eS1 20 A xs.length c,yJ 21 ((xs.length:Nat):Int),yJ 22 (i:Int),eS1 27 n ys.length c2,yJ 28 ((ys.length:Nat):Int),yJ 29 (k:Int)] [] ?_
   refine xe (zA (zB (xq 3 [(67,.v (.int .u64 (IntKind.u64.wrap (((wL f g+xM (xB f g) m 0:Nat):Int)+((xM (xI (xB f g) m 0) p 0:Nat):Int)))))] [] ?_)))
   rw[ZfE (a:=wL f g+xM (xB f g) m 0) (b:=xM (xI (xB f g) m 0) p 0) (Zif (by rw[←s];exact D.2.1.getD zN _) (by rw[←q];exact S.getD zN _) (by rw[←r];exact T.getD zN _) H)]
   refine xq 1 [yU 8 ((wL f g+xM (xB f g) m 0+xM (xI (xB f g) m 0) p 0:Nat):Int)] [] ?_
   refine xe (wX (zA (zB (xq 1 [yJ 68 (IntKind.i64.wrap ((k:Int)+1))] [] ?_))))
   rw[yW ((k:Int)+1) (((k+1:Nat):Int)) (by omega)]
   refine xq 1 [yJ 29 ((k+1:Nat):Int)] [] ?_
   refine xe ?_
   refine yP [eS1 1 n ys.length c2,eS1 4 none 0 0,eS1 5 (some ⟨h,0,none⟩) (xs.length+(ys.length)) (xs.length+(ys.length)),yJ 6 (i:Int),yU 7 (f:Int),(8,.v (.int .u64 (((wL f g+xM (xB f g) m 0+xM (xI (xB f g) m 0) p 0):Nat):Int))),eS1 20 A xs.length c,yJ 21 ((xs.length:Nat):Int),yJ 22 (i:Int),eS1 27 n ys.length c2,yJ 28 ((ys.length:Nat):Int),yJ 29 (((k+1):Nat):Int)] [] (fun w=>(Box (fun j=>h≤j) w (fun w=>(zH .u64 w A (xs)∧zH .u64 w n (ys)))∧Own .u64 94 w h (((B).set (i+k) (xI (xI (xB f g) m 0) p 0))))) (fun w Q=>⟨Q.1.1,Q.1.2⟩) ?_
   have Y:=D.step (k:=k) (by omega) s r T (by rw[←q];exact S.getD zN _)
   exact wG ((ys.length-(k+1))) (by omega) ⟨(wL f g+xM (xB f g) m 0+xM (xI (xB f g) m 0) p 0),(k+1),((B).set (i+k) (xI (xI (xB f g) m 0) p 0)),rfl,rfl,Y,by omega,rfl⟩
  have G:=uD z
  have V:=D.1
  have H:=D.2.2.1
  obtain rfl:k=ys.length:=by omega
  refine lG (zW (zW (lV (zA (zB (xq 5 [eS1 69 (some ⟨h,0,none⟩) (xs.length+(ys.length)) (xs.length+(ys.length)),yJ 73 (IntKind.i64.wrap ((i:Int)+((ys.length:Nat):Int)))] [] ?_))))))
  rw[yW ((i:Int)+((ys.length:Nat):Int)) (((i+(ys.length):Nat):Int)) (by omega)]
  refine xq 1 [yU 74 (p:Int)] [] ?_
  refine xqk 75 (.pointer (some ⟨h,i+(ys.length),none⟩)) (fun w R Q=>lX (t:=77) (e:=94) (x:=.tmp 69) (ix:=.tmp 73) (len:=(xs.length+(ys.length))) (cap:=(xs.length+(ys.length))) (i:=i+(ys.length)) (by omega)) ?_
  refine jN (t:=94) (x:=.tmp 75) (y:=.tmp 74) h (i+(ys.length)) (p) (fun w=>(Box (fun j=>h≤j) w (fun w=>(zH .u64 w A (xs)∧zH .u64 w n (ys)))∧Own .u64 94 w h ((B).set (i+(ys.length)) (p)))) (fun w Q=>Q.2) (by omega) (Or.inl C) (fun w w' Q W X=>⟨((Q.1).fr (W.mono (fun _ _ e=>by rw[e];exact uK _))),X⟩) ?_
  refine xe (wX (zA (zB (xq 1 [yJ 76 (IntKind.i64.wrap ((i:Int)+1))] [] ?_))))
  rw[yW ((i:Int)+1) (((i+1:Nat):Int)) (by omega)]
  refine xq 1 [yJ 22 ((i+1:Nat):Int)] [] ?_
  refine xe ?_
  refine yP [eS1 1 n ys.length c2,eS1 4 none 0 0,eS1 5 (some ⟨h,0,none⟩) (xs.length+(ys.length)) (xs.length+(ys.length)),eS1 20 A xs.length c,yJ 21 ((xs.length:Nat):Int),yJ 22 (((i+1):Nat):Int)] [] (fun w=>(Box (fun j=>h≤j) w (fun w=>(zH .u64 w A (xs)∧zH .u64 w n (ys)))∧Own .u64 94 w h (((B).set (i+(ys.length)) (p))))) (fun w Q=>⟨Q.1,Q.2⟩) ?_
  have Y:=E.step (i:=i) (by omega) q D
  exact wG ((xs.length-(i+1))) (by omega) ⟨(i+1),((B).set (i+(ys.length)) (p)),rfl,rfl,Y,by omega,rfl⟩
 have F:=uD u
 have U:=E.1
 obtain rfl:i=xs.length:=by omega
 refine lG (zW (zW (lV (zA (zC (zB (xq 1 [eS1 77 (some ⟨h,0,none⟩) (xs.length+(ys.length)) (xs.length+(ys.length))] [] ?_)))))))
 refine xqc 106 [.slice (some ⟨h,0,none⟩) (xs.length+(ys.length)) (xs.length+(ys.length))] 78 xJ _ (fun w R Q=>yM xE (Zaz Q.2 E.2.1 E.1 E.done (by omega))) fun⟨M,N,O⟩=>?_
 refine xq 1 [eS1 4 M N O] [] ?_
 refine xe (zA (zF ?_))
 refine yR (.slice M N O) fun w' R Q=>?_
 exact⟨_,rfl,Q.2,R⟩
theorem Zpg (A:Option Addr)(xs:List Nat)(c k:Nat)(w:World)(T:zJ w (.slice A xs.length c) (val W64 xs))(U:zH .u64 w A xs)(X:xs.length≤4294967296)(V:Dig W64 xs)(Y:k≤274877906944) :
 yA 66 #[.slice A xs.length c,.int .i64 ((k:Nat):Int)] w (lC w (val W64 xs*2^k)):=by
 refine zX (Φ:=fun w=>(zJ w (.slice A xs.length c) (val W64 xs)∧zH .u64 w A xs)) Tryz.func66 rfl (by kernel_rfl) (fun w' L=>⟨T.ext L,U.ext L⟩) ?_
 refine zC (zB (xq 1 [eS1 4 none 0 0] [] ?_))
 refine xe (zA (zC (zC (zB (xq 4 [yB 13 ((((xs.length:Nat):Int):Int) == 0)] [] ?_)))))
 rcases bl2 (((((xs.length:Nat):Int):Int) == 0)) with h|h
 ·rw[h]
  have C:=tA.1 h
  refine xq 3 [yB 16 true] [] ?_
  refine xe (zA (xa (zC (zB (xq 2 [eS1 4 A xs.length c] [] ?_)))))
  refine xe (zA (zF (zE ?_)))
  refine yR (.slice A xs.length c) fun w' R Q=>?_
  exact⟨_,rfl,(by obtain rfl:xs=[]:=tH.1 (by omega);rw[eW,sI];exact Q.1),R⟩
 rw[h]
 have C:=lB h
 refine xq 3 [yB 16 (((k:Int):Int) == 0)] [] ?_
 refine xe (zA ?_)
 refine yQ ((((k:Int):Int) == 0)) (fun q=>?_) fun q=>?_
 ·have D:=tA.1 q
  refine zC (zB (xq 2 [eS1 4 A xs.length c] [] ?_))
  refine xe (zA (zF (zE ?_)))
  refine yR (.slice A xs.length c) fun w' R Q=>?_
  exact⟨_,rfl,(by obtain rfl:k=0:=(by omega);rw[vQ,tW];exact Q.1),R⟩
 have D:=lB q
 refine zK (zA (zC (zB (xq 2 [(19,.v (.int .i64 (IntKind.i64.wrap (((k:Int)).tdiv 64))))] [] ?_))))
 rw[show IntKind.i64.wrap ((((k:Int)).tdiv 64))=((k/64:Nat):Int) from tdq (k) 64 (by omega)]
 refine xq 2 [yJ 21 (((k:Int)).tmod 64)] [] ?_
 rw[show ((k:Int)).tmod 64=((k%64:Nat):Int) from tdr (k) 64]
 refine xq 1 [yU 22 (IntKind.u64.wrap (((k%64:Nat):Int)))] [] ?_
 rw[show IntKind.u64.wrap (((k%64:Nat):Int))=((k%64:Nat):Int) by rw[IntKind.wrap_u64];omega]
 refine xq 2 [yJ 5 ((k/64:Nat):Int),yU 6 ((k%64:Nat):Int)] [] ?_
 refine xe (zA (zC (zB (xq 4 [yJ 26 (IntKind.i64.wrap (((xs.length:Nat):Int)+((k/64:Nat):Int)))] [] ?_))))
 rw[yW (((xs.length:Nat):Int)+((k/64:Nat):Int)) (((xs.length+(k/64):Nat):Int)) (by omega)]
 refine xq 1 [(27,.v (.int .i64 (IntKind.i64.wrap (((xs.length+(k/64):Nat):Int)+1))))] [] ?_
 rw[show IntKind.i64.wrap ((((xs.length+(k/64):Nat):Int)+1))=((xs.length+(k/64)+1:Nat):Int) by rw[IntKind.wrap_i64];omega]
 refine Zby (d:=28) (t:=77) (e:=94) (k:=.u64) (kl:=.i64) (kc:=.i64) (l:=.tmp 27) (c:=.tmp 27) (xs.length+(k/64)+1) 8 (by omega) (by decide) fun f u _=>?_
 refine xr 1 [eS1 0 A xs.length c,eS1 4 none 0 0,yJ 5 ((k/64:Nat):Int),yU 6 ((k%64:Nat):Int),eS1 7 (some ⟨f,0,none⟩) (xs.length+(k/64)+1) (xs.length+(k/64)+1)] [] ?_
 refine xe (zA (zC (zC (zB (xq 3 [eS1 29 A xs.length c,yJ 30 ((xs.length:Nat):Int),yJ 31 0] [] ?_)))))
 refine xe (zA (xH ?_))
 refine yC [eS1 4 none 0 0,yJ 5 ((k/64:Nat):Int),yU 6 ((k%64:Nat):Int),eS1 7 (some ⟨f,0,none⟩) (xs.length+(k/64)+1) (xs.length+(k/64)+1),eS1 29 A xs.length c,yJ 30 ((xs.length:Nat):Int),yJ 31 ((0:Nat):Int)] [] (fun w=>(Box (fun j=>f≤j) w (fun w=>(zJ w (.slice A xs.length c) (val W64 xs)∧zH .u64 w A (xs)))∧Own .u64 94 w f ((List.replicate (xs.length+(k/64)+1) 0)))) (fun w Q=>⟨Q.1,Q.2⟩) ?_
 refine lW (fun M N O=>∃ (i:Nat) (z:List Nat),N=ofL [eS1 4 none 0 0,yJ 5 ((k/64:Nat):Int),yU 6 ((k%64:Nat):Int),eS1 7 (some ⟨f,0,none⟩) (xs.length+(k/64)+1) (xs.length+(k/64)+1),eS1 29 A xs.length c,yJ 30 ((xs.length:Nat):Int),yJ 31 (i:Int)] []∧O=(fun w=>(Box (fun j=>f≤j) w (fun w=>(zJ w (.slice A xs.length c) (val W64 xs)∧zH .u64 w A (xs)))∧Own .u64 94 w f (z)))∧(dQ xs (k/64) (k%64) i z)∧(i≤xs.length)∧M=(xs.length-i)) ((xs.length-0)) ⟨0,(List.replicate (xs.length+(k/64)+1) 0),rfl,rfl,dQ.start xs (k/64) (k%64),by omega,rfl⟩ ?_
 rintro M N O ⟨i,z,rfl,rfl,B,Z,rfl⟩
 refine zC (zB (xq 1 [yB 32 (decide ((i:Int)<((xs.length:Nat):Int)))] [] ?_))
 refine xe (zA (zC ?_))
 refine yQ ((decide ((i:Int)<((xs.length:Nat):Int)))) (fun r=>?_) fun r=>?_
 ·have E:=uC r
  have I:=B.1
  refine zK (zA (zC (xH (zC (zB (xq 1 [yJ 33 (i:Int)] [] ?_))))))
  refine xqk 34 (atA A i) (fun w R Q=>xO (t:=77) (e:=94) (x:=.tmp 29) (ix:=.tmp 31) (len:=xs.length) (cap:=c) (i:=i) (((Q.1).self.2).ne (j:=i) (by omega)) (by omega)) ?_
  obtain⟨g,s⟩:=yE (xs[i]?.getD 0)
  refine xqk 35 (.int .u64 (g:Int)) (fun w R Q=>by rw[←s];exact xW (t:=94) (x:=.tmp 34) ((Q.1).self.2) (j:=i) (by omega)) ?_
  refine xq 2 [yJ 8 (i:Int),yU 9 (g:Int)] [] ?_
  refine xe (zA (zC (zB (xq 4 [eS1 36 (some ⟨f,0,none⟩) (xs.length+(k/64)+1) (xs.length+(k/64)+1),yJ 39 (IntKind.i64.wrap ((i:Int)+((k/64:Nat):Int)))] [] ?_))))
  rw[yW ((i:Int)+((k/64:Nat):Int)) (((i+(k/64):Nat):Int)) (by omega)]
  refine xqk 40 (.pointer (some ⟨f,i+(k/64),none⟩)) (fun w R Q=>lX (t:=77) (e:=94) (x:=.tmp 36) (ix:=.tmp 39) (len:=(xs.length+(k/64)+1)) (cap:=(xs.length+(k/64)+1)) (i:=i+(k/64)) (by omega)) ?_
  obtain⟨m,p⟩:=yE (z[i+(k/64)]?.getD 0)
  refine xqk 41 (.int .u64 (m:Int)) (fun w R Q=>by rw[←p];exact gQ (t:=94) (x:=.tmp 40) (Q.2) (j:=i+(k/64)) (by omega)) ?_
  refine xq 2 [yU 42 (g:Int),yU 43 ((k%64:Nat):Int)] [] ?_
  refine xqk 44 (.int .u64 ((g*2^(k%64)%W64:Nat):Int)) (fun w R Q=>Zie (t:=94) (x:=.tmp 42) (y:=.tmp 43) (k:=103) (ky:=.u64) (a:=g) (n:=(k%64)) (by omega)) ?_
  have W:=B.step (k:=i) (by omega) (by omega) p s (by rw[←s];exact V.getD zN _)
  refine xqk 45 (.int .u64 ((m+g*2^(k%64)%W64:Nat):Int)) (fun w R Q=>ZoL (t:=94) (x:=.tmp 41) (y:=.tmp 44) (k:=94) (a:=m) (b:=(g*2^(k%64)%W64)) (by rw[←p];exact B.2.1.getD zN _) (uM _ zN) (ZlW (by rw[←p];exact B.2.2.2) (by omega))) ?_
  refine xqk 46 (.pointer (some ⟨f,i+(k/64),none⟩)) (fun w R Q=>lX (t:=77) (e:=94) (x:=.tmp 36) (ix:=.tmp 39) (len:=(xs.length+(k/64)+1)) (cap:=(xs.length+(k/64)+1)) (i:=i+(k/64)) (by omega)) ?_
  refine jN (t:=94) (x:=.tmp 46) (y:=.tmp 45) f (i+(k/64)) (m+g*2^(k%64)%W64) (fun w=>(Box (fun j=>f≤j) w (fun w=>(zJ w (.slice A xs.length c) (val W64 xs)∧zH .u64 w A (xs)))∧Own .u64 94 w f ((z).set (i+(k/64)) (m+g*2^(k%64)%W64)))) (fun w Q=>Q.2) (by omega) (Or.inl u) (fun w w' Q J K=>⟨((Q.1).fr (J.mono (fun _ _ e=>by rw[e];exact uK _))),K⟩) ?_
  refine xe (zA (zB (xq 4 [eS1 47 (some ⟨f,0,none⟩) (xs.length+(k/64)+1) (xs.length+(k/64)+1),yJ 50 (IntKind.i64.wrap ((i:Int)+((k/64:Nat):Int)))] [] ?_)))
  rw[yW ((i:Int)+((k/64:Nat):Int)) (((i+(k/64):Nat):Int)) (by omega)]
  refine xq 1 [(51,.v (.int .i64 (IntKind.i64.wrap (((i+(k/64):Nat):Int)+1))))] [] ?_
  rw[show IntKind.i64.wrap ((((i+(k/64):Nat):Int)+1))=((i+(k/64)+1:Nat):Int) by rw[IntKind.wrap_i64];omega]
  refine xq 3 [yU 52 (g:Int),yU 54 (IntKind.u64.wrap (64-((k%64:Nat):Int)))] [] ?_
  rw[show IntKind.u64.wrap ((64-((k%64:Nat):Int)))=((64-(k%64):Nat):Int) by rw[IntKind.wrap_u64];have:=zO;omega]
  refine xqk 55 (.int .u64 ((g/2^(64-(k%64)):Nat):Int)) (fun w R Q=>Zid (t:=94) (x:=.tmp 52) (y:=.tmp 54) (k:=103) (ky:=.u64) (a:=g) (n:=(64-(k%64))) (by omega)) ?_
  refine xqk 56 (.pointer (some ⟨f,i+(k/64)+1,none⟩)) (fun w R Q=>lX (t:=77) (e:=94) (x:=.tmp 47) (ix:=.tmp 51) (len:=(xs.length+(k/64)+1)) (cap:=(xs.length+(k/64)+1)) (i:=i+(k/64)+1) (by omega)) ?_
  refine jN (t:=94) (x:=.tmp 56) (y:=.tmp 55) f (i+(k/64)+1) (g/2^(64-(k%64))) (fun w=>(Box (fun j=>f≤j) w (fun w=>(zJ w (.slice A xs.length c) (val W64 xs)∧zH .u64 w A (xs)))∧Own .u64 94 w f (((z).set (i+(k/64)) (m+g*2^(k%64)%W64)).set (i+(k/64)+1) (g/2^(64-(k%64)))))) (fun w Q=>Q.2) (by simp only[qU];omega) (Or.inl u) (fun w w' Q J K=>⟨((Q.1).fr (J.mono (fun _ _ e=>by rw[e];exact uK _))),K⟩) ?_
  refine xe (wX (zA (zB (xq 1 [yJ 57 (IntKind.i64.wrap ((i:Int)+1))] [] ?_))))
  rw[yW ((i:Int)+1) (((i+1:Nat):Int)) (by omega)]
  refine xq 1 [yJ 31 ((i+1:Nat):Int)] [] ?_
  refine xe ?_
  refine yP [eS1 4 none 0 0,yJ 5 ((k/64:Nat):Int),yU 6 ((k%64:Nat):Int),eS1 7 (some ⟨f,0,none⟩) (xs.length+(k/64)+1) (xs.length+(k/64)+1),eS1 29 A xs.length c,yJ 30 ((xs.length:Nat):Int),yJ 31 (((i+1):Nat):Int)] [] (fun w=>(Box (fun j=>f≤j) w (fun w=>(zJ w (.slice A xs.length c) (val W64 xs)∧zH .u64 w A (xs)))∧Own .u64 94 w f ((((z).set (i+(k/64)) (m+g*2^(k%64)%W64)).set (i+(k/64)+1) (g/2^(64-(k%64))))))) (fun w Q=>⟨Q.1,Q.2⟩) ?_
  exact wG ((xs.length-(i+1))) (by omega) ⟨(i+1),(((z).set (i+(k/64)) (m+g*2^(k%64)%W64)).set (i+(k/64)+1) (g/2^(64-(k%64)))),rfl,rfl,W.1,by omega,rfl⟩
 have E:=uD r
 have I:=B.1
 obtain rfl:i=xs.length:=by omega
 have S:=B.done
 rw[show 64*(k/64)+k%64=k by omega] at S
 refine lG (zW (zW (lV (zA (zC (zB (xq 1 [eS1 58 (some ⟨f,0,none⟩) (xs.length+(k/64)+1) (xs.length+(k/64)+1)] [] ?_)))))))
 refine xqc 106 [.slice (some ⟨f,0,none⟩) (xs.length+(k/64)+1) (xs.length+(k/64)+1)] 59 xJ _ (fun w R Q=>yM xE (Zaz Q.2 B.2.1 B.1 S (by omega))) fun⟨F,G,H⟩=>?_
 refine xq 1 [eS1 4 F G H] [] ?_
 refine xe (zA (zF ?_))
 refine yR (.slice F G H) fun w' R Q=>?_
 exact⟨_,rfl,Q.2,R⟩
theorem Zml (A:Option Addr)(xs:List Nat)(c k:Nat)(w:World)(Y:zJ w (.slice A xs.length c) (val W64 xs))(Z:zH .u64 w A xs)(hl:xs.length≤4294967296)(H:Dig W64 xs)(hk:k≤274877906944) :
 yA 128 #[.slice A xs.length c,.int .i64 ((k:Nat):Int)] w (lC w (val W64 xs/2^k)):=by
 refine zX (Φ:=fun w=>(zJ w (.slice A xs.length c) (val W64 xs)∧zH .u64 w A xs)) Tryz.func128 rfl (by kernel_rfl) (fun w' U=>⟨Y.ext U,Z.ext U⟩) ?_
 refine zC (zB (xq 1 [eS1 4 none 0 0] [] ?_))
 refine xe (zA (zC (zB (xq 2 [(10,.v (.int .i64 (IntKind.i64.wrap (((k:Int)).tdiv 64))))] [] ?_))))
 rw[show IntKind.i64.wrap ((((k:Int)).tdiv 64))=((k/64:Nat):Int) from tdq (k) 64 (by omega)]
 refine xq 2 [yJ 12 (((k:Int)).tmod 64)] [] ?_
 rw[show ((k:Int)).tmod 64=((k%64:Nat):Int) from tdr (k) 64]
 refine xq 1 [yU 13 (IntKind.u64.wrap (((k%64:Nat):Int)))] [] ?_
 rw[show IntKind.u64.wrap (((k%64:Nat):Int))=((k%64:Nat):Int) by rw[IntKind.wrap_u64];omega]
 refine xq 2 [yJ 5 ((k/64:Nat):Int),yU 6 ((k%64:Nat):Int)] [] ?_
 refine xe (zA (zC (zC (zB (xq 4 [yB 17 (decide (((k/64:Nat):Int)≥((xs.length:Nat):Int)))] [] ?_)))))
 refine xe (zA ?_)
 refine yQ ((decide (((k/64:Nat):Int)≥((xs.length:Nat):Int)))) (fun q=>?_) fun q=>?_
 ·have D:=uC q
  refine zC (zB (xq 1 [eS1 4 none 0 0] [] ?_))
  refine xe (zA (zF (zE ?_)))
  refine yR (.slice none 0 0) fun w' R Q=>?_
  exact⟨_,rfl,by rw[ZeE H (by omega)];exact zJ.zero _,R⟩
 have D:=uD q
 refine zK (zA (zC (zC (zB (xq 2 [yB 19 (((k:Int):Int) == 0)] [] ?_)))))
 refine xe (zA ?_)
 refine yQ ((((k:Int):Int) == 0)) (fun r=>?_) fun r=>?_
 ·have E:=tA.1 r
  refine zC (zB (xq 2 [eS1 4 A xs.length c] [] ?_))
  refine xe (zA (zF (zE ?_)))
  refine yR (.slice A xs.length c) fun w' R Q=>?_
  exact⟨_,rfl,by obtain rfl:k=0:=(by omega);rw[vQ,sL];exact Q.1,R⟩
 have E:=lB r
 refine zK (zA (zC (zB (xq 4 [yJ 24 (IntKind.i64.wrap (((xs.length:Nat):Int)-((k/64:Nat):Int)))] [] ?_))))
 rw[yW (((xs.length:Nat):Int)-((k/64:Nat):Int)) (((xs.length-(k/64):Nat):Int)) (by omega)]
 refine Zby (d:=25) (t:=77) (e:=94) (k:=.u64) (kl:=.i64) (kc:=.i64) (l:=.tmp 24) (c:=.tmp 24) (xs.length-(k/64)) 8 (by omega) (by decide) fun f z _=>?_
 refine xr 1 [eS1 0 A xs.length c,eS1 4 none 0 0,yJ 5 ((k/64:Nat):Int),yU 6 ((k%64:Nat):Int),eS1 7 (some ⟨f,0,none⟩) (xs.length-(k/64)) (xs.length-(k/64))] [] ?_
 refine xe (zA (zC (zC (zB (xq 3 [yJ 27 ((xs.length-(k/64):Nat):Int),yJ 28 0] [] ?_)))))
 refine xe (zA (xH ?_))
 refine yC [eS1 0 A xs.length c,eS1 4 none 0 0,yJ 5 ((k/64:Nat):Int),yU 6 ((k%64:Nat):Int),eS1 7 (some ⟨f,0,none⟩) (xs.length-(k/64)) (xs.length-(k/64)),yJ 27 ((xs.length-(k/64):Nat):Int),yJ 28 ((0:Nat):Int)] [] (fun w=>(Box (fun j=>f≤j) w (fun w=>(zJ w (.slice A xs.length c) (val W64 xs)∧zH .u64 w A (xs)))∧Own .u64 94 w f ((List.replicate (xs.length-(k/64)) 0)))) (fun w Q=>⟨Q.1,Q.2⟩) ?_
 refine lW (fun V W X=>∃ (i:Nat) (p:List Nat),W=ofL [eS1 0 A xs.length c,eS1 4 none 0 0,yJ 5 ((k/64:Nat):Int),yU 6 ((k%64:Nat):Int),eS1 7 (some ⟨f,0,none⟩) (xs.length-(k/64)) (xs.length-(k/64)),yJ 27 ((xs.length-(k/64):Nat):Int),yJ 28 (i:Int)] []∧X=(fun w=>(Box (fun j=>f≤j) w (fun w=>(zJ w (.slice A xs.length c) (val W64 xs)∧zH .u64 w A (xs)))∧Own .u64 94 w f (p)))∧(dR (xs.drop (k/64)) (k%64) i p)∧(i≤xs.length-k/64)∧V=(xs.length-k/64-i)) ((xs.length-k/64-0)) ⟨0,(List.replicate (xs.length-(k/64)) 0),rfl,rfl,(by have:=dR.start (xs.drop (k/64)) (k%64);rwa [vX] at this),by omega,rfl⟩ ?_
 rintro V W X ⟨i,p,rfl,rfl,I,hi,rfl⟩
 refine zC (zB (xq 1 [(29,.v (.bool (decide ((i:Int)<((xs.length-(k/64):Nat):Int)))))] [] ?_))
 refine xe (zA (zC ?_))
 refine yQ ((decide ((i:Int)<((xs.length-(k/64):Nat):Int)))) (fun s=>?_) fun s=>?_
 ·have F:=uC s
  have J:p.length=xs.length-k/64:=by rw[I.1,vX]
  refine zK (zA (zC (xH (zC (zB (xq 2 [yJ 8 (i:Int)] [] ?_))))))
  refine xe (zA (zC (zB (xq 6 [eS1 31 (some ⟨f,0,none⟩) (xs.length-(k/64)) (xs.length-(k/64)),yJ 32 (i:Int),eS1 33 A xs.length c,yJ 36 (IntKind.i64.wrap ((i:Int)+((k/64:Nat):Int)))] [] ?_))))
  rw[yW ((i:Int)+((k/64:Nat):Int)) (((i+(k/64):Nat):Int)) (by omega)]
  refine xqk 37 (atA A (i+(k/64))) (fun w R Q=>xO (t:=77) (e:=94) (x:=.tmp 33) (ix:=.tmp 36) (len:=xs.length) (cap:=c) (i:=i+(k/64)) (((Q.1).self.2).ne (j:=i+(k/64)) (by omega)) (by omega)) ?_
  obtain⟨g,h⟩:=yE (xs[i+(k/64)]?.getD 0)
  refine xqk 38 (.int .u64 (g:Int)) (fun w R Q=>by rw[←h];exact xW (t:=94) (x:=.tmp 37) ((Q.1).self.2) (j:=i+(k/64)) (by omega)) ?_
  refine xq 1 [yU 39 ((k%64:Nat):Int)] [] ?_
  refine xqk 40 (.int .u64 ((g/2^(k%64):Nat):Int)) (fun w R Q=>Zid (t:=94) (x:=.tmp 38) (y:=.tmp 39) (k:=103) (ky:=.u64) (a:=g) (n:=(k%64)) (by omega)) ?_
  refine xqk 41 (.pointer (some ⟨f,i,none⟩)) (fun w R Q=>lX (t:=77) (e:=94) (x:=.tmp 31) (ix:=.tmp 32) (len:=(xs.length-(k/64))) (cap:=(xs.length-(k/64))) (i:=i) (by omega)) ?_
  refine jN (t:=94) (x:=.tmp 41) (y:=.tmp 40) f (i) (g/2^(k%64)) (fun w=>(Box (fun j=>f≤j) w (fun w=>(zJ w (.slice A xs.length c) (val W64 xs)∧zH .u64 w A (xs)))∧Own .u64 94 w f ((p).set (i) (g/2^(k%64))))) (fun w Q=>Q.2) (by omega) (Or.inl z) (fun w w' Q S T=>⟨((Q.1).fr (S.mono (fun _ _ e=>by rw[e];exact uK _))),T⟩) ?_
  refine xe (zA (zC (zB (xq 3 [yJ 44 (IntKind.i64.wrap ((i:Int)+((k/64:Nat):Int)))] [] ?_))))
  rw[yW ((i:Int)+((k/64:Nat):Int)) (((i+(k/64):Nat):Int)) (by omega)]
  refine xq 1 [(45,.v (.int .i64 (IntKind.i64.wrap (((i+(k/64):Nat):Int)+1))))] [] ?_
  rw[show IntKind.i64.wrap ((((i+(k/64):Nat):Int)+1))=((i+(k/64)+1:Nat):Int) by rw[IntKind.wrap_i64];omega]
  refine xq 3 [(48,.v (.bool (decide (((i+(k/64)+1:Nat):Int)<((xs.length:Nat):Int)))))] [] ?_
  refine xe (zA ?_)
  refine yQ ((decide (((i+(k/64)+1:Nat):Int)<((xs.length:Nat):Int)))) (fun u=>?_) fun u=>?_
  ·have G:=uC u
   refine bN 16 [0,0,3,7,0,0,0,96,224,496,1008,0,2048,8176,16383,32767] (by kernel_rfl) (by kernel_rfl) zM ?_
   refine xqf 2 [eS1 49 (some ⟨f,0,none⟩) (xs.length-(k/64)) (xs.length-(k/64)),yJ 50 (i:Int)] [] ?_
   refine xqj 51 (.pointer (some ⟨f,i,none⟩)) (fun w Q=>lX (t:=77) (e:=94) (x:=.tmp 49) (ix:=.tmp 50) (len:=(xs.length-(k/64))) (cap:=(xs.length-(k/64))) (i:=i) (by omega)) ?_
   obtain⟨K,B⟩:=yE (((p).set (i) (g/2^(k%64)))[i]?.getD 0)
   refine xqj 52 (.int .u64 (K:Int)) (fun w Q=>by rw[←B];exact gQ (t:=94) (x:=.tmp 51) (Q.2) (j:=i) (by simp only[qU];omega)) ?_
   obtain rfl:K=g/2^(k%64):=by rw[←B,List.getElem?_set_self (by omega)];rfl
   refine xqf 4 [eS1 53 A xs.length c,yJ 56 (IntKind.i64.wrap ((i:Int)+((k/64:Nat):Int)))] [] ?_
   rw[yW ((i:Int)+((k/64:Nat):Int)) (((i+(k/64):Nat):Int)) (by omega)]
   refine xqf 1 [(57,.v (.int .i64 (IntKind.i64.wrap (((i+(k/64):Nat):Int)+1))))] [] ?_
   rw[show IntKind.i64.wrap ((((i+(k/64):Nat):Int)+1))=((i+(k/64)+1:Nat):Int) by rw[IntKind.wrap_i64];omega]
   refine xqj 58 (atA A (i+(k/64)+1)) (fun w Q=>xO (t:=77) (e:=94) (x:=.tmp 53) (ix:=.tmp 57) (len:=xs.length) (cap:=c) (i:=i+(k/64)+1) (((Q.1).self.2).ne (j:=i+(k/64)+1) (by omega)) (by omega)) ?_
   obtain⟨m,C⟩:=yE (xs[i+(k/64)+1]?.getD 0)
   refine xqj 59 (.int .u64 (m:Int)) (fun w Q=>by rw[←C];exact xW (t:=94) (x:=.tmp 58) ((Q.1).self.2) (j:=i+(k/64)+1) (by omega)) ?_
   refine xqf 2 [yU 61 (IntKind.u64.wrap (64-((k%64:Nat):Int)))] [] ?_
   rw[show IntKind.u64.wrap ((64-((k%64:Nat):Int)))=((64-(k%64):Nat):Int) by rw[IntKind.wrap_u64];have:=zO;omega]
   refine xqj 62 (.int .u64 ((m*2^(64-(k%64))%W64:Nat):Int)) (fun w Q=>Zie (t:=94) (x:=.tmp 59) (y:=.tmp 61) (k:=103) (ky:=.u64) (a:=m) (n:=(64-(k%64))) (by omega)) ?_
   have O:=I.step (k:=i) (x:=g) (y:=m) (by omega) (by rw[vX];omega) (by rw[List.getElem?_drop,vL];exact h) (by rw[List.getElem?_drop,show k/64+(i+1)=i+k/64+1 by omega];exact C) (by rw[←h];exact H.getD zN _)
   refine xqj 63 (.int .u64 ((g/2^(k%64)+m%2^(k%64)*2^(64-k%64):Nat):Int)) (fun w Q=>ZoL (t:=94) (x:=.tmp 52) (y:=.tmp 62) (k:=94) (a:=((g/2^(k%64)))) (b:=(m*2^(64-(k%64))%W64)) (vI (uO _ _) (by rw[←h];exact H.getD zN _)) (uM _ zN) (ZlX (by omega) (by rw[←h];exact H.getD zN _))) ?_
   refine xqj 64 (.pointer (some ⟨f,i,none⟩)) (fun w Q=>lX (t:=77) (e:=94) (x:=.tmp 49) (ix:=.tmp 50) (len:=(xs.length-(k/64))) (cap:=(xs.length-(k/64))) (i:=i) (by omega)) ?_
   refine xz ?_
   refine jN (t:=94) (x:=.tmp 64) (y:=.tmp 63) f (i) (g/2^(k%64)+m%2^(k%64)*2^(64-k%64)) (fun w=>(Box (fun j=>f≤j) w (fun w=>(zJ w (.slice A xs.length c) (val W64 xs)∧zH .u64 w A (xs)))∧Own .u64 94 w f (((p).set (i) (g/2^(k%64))).set (i) (g/2^(k%64)+m%2^(k%64)*2^(64-k%64))))) (fun w Q=>Q.2) (by simp only[qU];omega) (Or.inl z) (fun w w' Q S T=>⟨((Q.1).fr (S.mono (fun _ _ e=>by rw[e];exact uK _))),T⟩) ?_
   refine xe (wX (zA (zB (xq 1 [yJ 65 (IntKind.i64.wrap ((i:Int)+1))] [] ?_))))
   rw[yW ((i:Int)+1) (((i+1:Nat):Int)) (by omega)]
   refine xr 1 [eS1 0 A xs.length c,eS1 4 none 0 0,yJ 5 ((k/64:Nat):Int),yU 6 ((k%64:Nat):Int),eS1 7 (some ⟨f,0,none⟩) (xs.length-(k/64)) (xs.length-(k/64)),yJ 27 ((xs.length-(k/64):Nat):Int),yJ 28 ((i+1:Nat):Int)] [] ?_
   refine xe ?_
   refine yP [eS1 0 A xs.length c,eS1 4 none 0 0,yJ 5 ((k/64:Nat):Int),yU 6 ((k%64:Nat):Int),eS1 7 (some ⟨f,0,none⟩) (xs.length-(k/64)) (xs.length-(k/64)),yJ 27 ((xs.length-(k/64):Nat):Int),yJ 28 (((i+1):Nat):Int)] [] (fun w=>(Box (fun j=>f≤j) w (fun w=>(zJ w (.slice A xs.length c) (val W64 xs)∧zH .u64 w A (xs)))∧Own .u64 94 w f ((((p).set (i) (g/2^(k%64))).set (i) (g/2^(k%64)+m%2^(k%64)*2^(64-k%64)))))) (fun w Q=>⟨Q.1,Q.2⟩) ?_
   exact wG ((xs.length-k/64-(i+1))) (by omega) ⟨(i+1),(((p).set (i) (g/2^(k%64))).set (i) (g/2^(k%64)+m%2^(k%64)*2^(64-k%64))),rfl,rfl,(by rw[pG];exact O),by omega,rfl⟩
  have G:=uD u
  have O:=I.step (k:=i) (x:=g) (y:=0) (by omega) (by rw[vX];omega) (by rw[List.getElem?_drop,vL];exact h) (by rw[List.getElem?_drop,List.getElem?_eq_none (by omega)];rfl) (by rw[←h];exact H.getD zN _)
  rw[pF,sI,vV] at O
  refine zK (wX (zA (zB (xq 1 [yJ 65 (IntKind.i64.wrap ((i:Int)+1))] [] ?_))))
  rw[yW ((i:Int)+1) (((i+1:Nat):Int)) (by omega)]
  refine xq 1 [yJ 28 ((i+1:Nat):Int)] [] ?_
  refine xe ?_
  refine yP [eS1 0 A xs.length c,eS1 4 none 0 0,yJ 5 ((k/64:Nat):Int),yU 6 ((k%64:Nat):Int),eS1 7 (some ⟨f,0,none⟩) (xs.length-(k/64)) (xs.length-(k/64)),yJ 27 ((xs.length-(k/64):Nat):Int),yJ 28 (((i+1):Nat):Int)] [] (fun w=>(Box (fun j=>f≤j) w (fun w=>(zJ w (.slice A xs.length c) (val W64 xs)∧zH .u64 w A (xs)))∧Own .u64 94 w f (((p).set (i) (g/2^(k%64)))))) (fun w Q=>⟨Q.1,Q.2⟩) ?_
  exact wG ((xs.length-k/64-(i+1))) (by omega) ⟨(i+1),((p).set (i) (g/2^(k%64))),rfl,rfl,O,by omega,rfl⟩
 have F:=uD s
 have J:p.length=xs.length-k/64:=by rw[I.1,vX]
 obtain rfl:i=xs.length-k/64:=by omega
 have HD:=I
 rw[←vX] at HD
 replace HD:=HD.done
 rw[Zf4 xs (k/64) (k%64) H (by omega),show 64*(k/64)+k%64=k by omega] at HD
 refine lG (zW (zW (lV (zA (zC (zB (xq 1 [eS1 66 (some ⟨f,0,none⟩) (xs.length-(k/64)) (xs.length-(k/64))] [] ?_)))))))
 refine xqc 106 [.slice (some ⟨f,0,none⟩) (xs.length-(k/64)) (xs.length-(k/64))] 67 xJ _ (fun w R Q=>yM xE (Zaz Q.2 I.2.1 J HD (by omega))) fun⟨L,M,N⟩=>?_
 refine xq 1 [eS1 4 L M N] [] ?_
 refine xe (zA (zF ?_))
 refine yR (.slice L M N) fun w' R Q=>?_
 exact⟨_,rfl,Q.2,R⟩
theorem eB (neg:Bool)(u:Value)(n:Nat)(w:World)(a:zS w u n):yA 61 #[.bool neg,u] w (wN w (sg neg n)):=by
 refine (kX neg u n w a).mono ?_
 rintro e d ⟨s,rfl,c,b⟩
 exact⟨_,rfl,zI.signed (a.ext b) c.out,b⟩
theorem zI.opn {w:World}{s:Bool}{A:Option Addr}{l c:Nat}{z:Int}(h:zI w (.agg #[.bool s,.slice A l c]) z):zS w (.slice A l c) z.natAbs∧z=sg s z.natAbs∧(z=0→s=false):=by
 obtain⟨f,g,i,j,a,b,d,e⟩:=h.open
 injection a with a
 simp at a
 obtain⟨rfl,rfl,rfl,rfl⟩:=a
 exact⟨b,d,e⟩
theorem zI.mag {w:World}{s:Bool}{A:Option Addr}{l c:Nat}{z:Int}(h:zI w (.agg #[.bool s,.slice A l c]) z):zS w (.slice A l c) z.natAbs:=h.opn.1
theorem Zqg {w:World}{s:Bool}{A:Option Addr}{l c:Nat}{z:Int}(h:zI w (.agg #[.bool s,.slice A l c]) z):sg (!s) z.natAbs = -z:=by
 obtain⟨_,a,b⟩:=h.opn
 cases s<;>simp[sg] at *<;>omega
theorem xT.neg {x:Int}(h:xT x):xT (-x):=by
 unfold xT at *;rw[qA];exact h
theorem ZaX {fn:Func}{t:Tmp}{a:Array Value}{w w':World}{r:Nat}{x y:Value}{z:Int}(b:fn.results=#[.cell t 32])(c:a[t]? = some (.pointer (some ⟨r,0,none⟩)))(d:Blk 32 w' r #[x,y])(e:zI w' (.agg #[x,y]) z)(Q:Ext w w'):bodyPost Tryz.prog fn (wN w z) .ret ⟨a,[]⟩ w' :=
 bodyPost_ret (Zaj b _ _ r _ _ c d) rfl ⟨_,rfl,e,Q⟩
theorem zI.sneg {w:World}{s:Bool}{A:Option Addr}{l c:Nat}{z:Int}(h:zI w (.agg #[.bool s,.slice A l c]) z)(b:z<0):s=true:=by
 obtain⟨_,a,d⟩:=h.opn
 cases s with
 | true=>rfl
 | false=>simp[sg] at a;omega
theorem zI.spos {w:World}{s:Bool}{A:Option Addr}{l c:Nat}{z:Int}(h:zI w (.agg #[.bool s,.slice A l c]) z)(d:0≤z):s=false:=by
 obtain⟨_,a,b⟩:=h.opn
 cases s with
 | false=>rfl
 | true=>simp[sg] at a;exact b (by omega)
theorem zI.len0 {w:World}{s:Bool}{A:Option Addr}{l c:Nat}{z:Int}(h:zI w (.agg #[.bool s,.slice A l c]) z)(d:z=0):l=0:=by
 obtain⟨e,_,_⟩:=h.opn
 obtain⟨g,i,j,a,_,_,k,f,b⟩:=e
 injection a with _ a
 rw[d] at b
 have:=Zhe f zU b
 rw[this] at a
 simpa using a
theorem zI.lenp {w:World}{s:Bool}{A:Option Addr}{l c:Nat}{z:Int}(h:zI w (.agg #[.bool s,.slice A l c]) z)(g:z≠0):0<l:=by
 obtain⟨d,_,_⟩:=h.opn
 obtain⟨i,f,j,a,_,_,k,m,b⟩:=d
 injection a with _ a
 rcases uH l with e|e
 ·rw[e] at a
  have:f=[]:=tH.1 a.symm
  rw[this] at b
  simp at b
  omega
 exact e
theorem zI.quo {w:World}{s t:Bool}{A B:Option Addr}{l c a b:Nat}{x y:Int}(h:zI w (.agg #[.bool s,.slice A l c]) x)(k:zI w (.agg #[.bool t,.slice B a b]) y):sg (s != t) (x.natAbs/y.natAbs)=x.tdiv y∧sg s (x.natAbs%y.natAbs)=x.tmod y:=by
 obtain⟨_,d,f⟩:=h.opn
 obtain⟨_,e,g⟩:=k.opn
 generalize x.natAbs=m at *
 generalize y.natAbs=n at *
 subst d e
 cases s<;>cases t<;>simp[sg,Int.neg_tdiv,Int.tdiv_neg,Int.neg_tmod,Int.tmod_neg]<;>exact (tN (by omega)).symm
def Zd4 (w:World) (q r:Int) (e:Ending) (w':World):Prop:=∃ u v,e=.returned (.tuple #[u,v])∧zI w' u q∧zI w' v r∧Ext w w'
theorem ZnY {fn:Func}{t h:Tmp}{a:Array Value}{w w':World}{r i:Nat}{x y c d:Value}{z j:Int}(b:fn.results=#[.cell t 32,.cell h 32])(k:a[t]? = some (.pointer (some ⟨r,0,none⟩)))(e:a[h]? = some (.pointer (some ⟨i,0,none⟩)))(l:Blk 32 w' r #[x,y])(f:Blk 32 w' i #[c,d])(m:zI w' (.agg #[x,y]) z)(g:zI w' (.agg #[c,d]) j)(Q:Ext w w'):bodyPost Tryz.prog fn (Zd4 w z j) .ret ⟨a,[]⟩ w':=by
 obtain⟨n,o,_⟩:=l.cell2
 obtain⟨p,q,_⟩:=f.cell2
 exact bodyPost_ret (v:=.tuple #[.agg #[x,y],.agg #[c,d]]) (by simp[results,b,k,e,go_sem,n,o,p,q]) rfl ⟨_,_,rfl,m,g,Q⟩
theorem Zgm {q:Rat}(h:¬ q.den=1):denF q≠0:=by rw[fN h];have:=q.den_nz;omega
theorem aZ (a:Value)(x:Int)(w:World)(ha:zI w a x) :
 yA 68 #[a] w (wN w (-x)):=by
 obtain⟨A,C,D,E,rfl⟩:=ha.shp
 have F2:Hid (zI w (.agg #[.bool A,.slice C D E]) (x)):=ha
 clear ha
 have F:=zh (Zqg F2.out)
 go_enter Tryz.func68,Tryz.ntmps68
 go_wp2_with fail
 generalize s:World.alloc (World.alloc w _) _=w5
 obtain⟨d,f,g⟩:=ZaW s
 clear s
 have B3:=zh d
 have B4:=zh f
 clear d f
 replace F2:=zh (F2.out.ext g)
 have HE:=zh g
 clear g
 have F6:Hid (zS w5 (.slice C D E) ((x).natAbs)):=F2.out.mag
 refine (eB ((!A)) _ _ _ F6.out).mono ?_
 rintro e t ⟨_,rfl,B,r⟩
 obtain⟨u,v,y,z,rfl⟩:=B.shp
 replace B3:=zh (B3.out.ext r)
 replace B4:=zh (B4.out.ext r)
 replace F2:=zh (F2.out.ext r)
 replace F6:=zh (F6.out.ext r)
 replace HE:=zh (HE.out.trans r)
 have F9:Hid (zI t (.agg #[.bool u,.slice v y z]) (sg ((!A)) ((x).natAbs))):=B
 clear r B
 obtain⟨h,j,k,l⟩:=B3.out.cell2
 obtain⟨m,n,o,q⟩:=B4.out.cell2
 go_wp2
 clear h j k l m n o q
 have b:Fr (fun i=>i=(w.heap.size+1)) t ((t.setCell ⟨(w.heap.size+1),0,none⟩ (.bool u)).setCell ⟨(w.heap.size+1),1,none⟩ (.slice v y z)):=(((Fr.refl (fun i=>i=(w.heap.size+1)) _).setCell (p:=⟨(w.heap.size+1),0,none⟩) (Or.inl rfl) _).setCell (p:=⟨(w.heap.size+1),1,none⟩) (Or.inl rfl) _)
 replace F2:=zh (F2.out.oth B4.out lO b)
 replace F6:=zh (F6.out.oth B4.out lO b)
 replace F9:=zh (F9.out.oth B4.out lO b)
 replace B3:=zh (B3.out.fr b (by first|omega | (have:=B3.out.lt;have:=B4.out.lt;omega)))
 replace HE:=zh (HE.out.next b (fun i G e=>by first|omega | (have:=HE.out.size;have:=B4.out.lt;omega)))
 have c:Blk 32 ((t.setCell ⟨(w.heap.size+1),0,none⟩ (.bool u)).setCell ⟨(w.heap.size+1),1,none⟩ (.slice v y z)) (w.heap.size+1) #[.bool u,.slice v y z]:=((B4.out.set_ 0 _).set_ 1 _)
 generalize ((t.setCell ⟨(w.heap.size+1),0,none⟩ (.bool u)).setCell ⟨(w.heap.size+1),1,none⟩ (.slice v y z))=w12 at *
 replace B4:=zh c;clear c b
 exact ZaX rfl rfl B4.out (by have:=F9.out;rw[F.out] at this;exact this) HE.out
theorem ZnZ (a b:Value)(x y:Int)(w:World)(ha:zI w a x)(Z:zI w b y)(hx:xT x)(hy:xT y) :
 yA 160 #[a,b] w (wN w (x-y)):=by
 obtain⟨N,O,P,Q,rfl⟩:=ha.shp
 have F2:Hid (zI w (.agg #[.bool N,.slice O P Q]) (x)):=ha
 clear ha
 obtain⟨R,S,T,U,rfl⟩:=Z.shp
 have F4:Hid (zI w (.agg #[.bool R,.slice S T U]) (y)):=Z
 clear Z
 have Hx:=zh hx
 have Y:=zh hy
 clear hx hy
 go_enter Tryz.func160,Tryz.ntmps160
 go_wp2_with fail
 generalize V:World.alloc (World.alloc (World.alloc w _) _) _=w8
 obtain⟨t,u,v,s⟩:=Zgj V
 clear V
 have B5:=zh t
 have B6:=zh u
 have B7:=zh v
 clear t u v
 replace F2:=zh (F2.out.ext s)
 replace F4:=zh (F4.out.ext s)
 have HE:=zh s
 clear s
 refine ZbQ 4 (fun f=>Blk 32 f w.heap.size #[.bool N,.slice O P Q]∧Blk 32 f (w.heap.size+1) #[.bool R,.slice S T U]∧Blk 32 f (w.heap.size+1+1) #[.bool false,.slice none 0 0]) zM ?_
 replace B5:=zh (B5.out.ext (Fr.refl _ _).drew)
 replace B6:=zh (B6.out.ext (Fr.refl _ _).drew)
 replace B7:=zh (B7.out.ext (Fr.refl _ _).drew)
 replace F2:=zh (F2.out.ext (Fr.refl _ _).drew)
 replace F4:=zh (F4.out.ext (Fr.refl _ _).drew)
 replace HE:=zh (HE.out.trans (Fr.refl _ _).drew)
 generalize w8.drew=w9 at *
 have k:=(⟨B5.out,B6.out,B7.out⟩:(fun f=>Blk 32 f w.heap.size #[.bool N,.slice O P Q]∧Blk 32 f (w.heap.size+1) #[.bool R,.slice S T U]∧Blk 32 f (w.heap.size+1+1) #[.bool false,.slice none 0 0]) w9)
 refine jM 0 rfl (by kernel_rfl) (fun _ _ _ h=>h) k (fun _=>ZgN (g:=w.heap.size) (off:=0) (x:=.bool N) (y:=.slice O P Q) rfl rfl (by kernel_rfl) (fun _ h=>Blk.two (h.1) 0 rfl rfl)) (fun k=>?_)
 refine jM 1 rfl (by kernel_rfl) (fun _ _ _ h=>h) k (fun _=>ZgN (g:=(w.heap.size+1)) (off:=0) (x:=.bool R) (y:=.slice S T U) rfl rfl (by kernel_rfl) (fun _ h=>Blk.two (h.2.1) 0 rfl rfl)) (fun k=>?_)
 refine aX 2 rfl (by kernel_rfl) rfl (fun K W=>?_)
 go_simp
 clear k
 refine (aZ _ (y) _ F4.out).mono ?_
 rintro e X ⟨_,rfl,z,d⟩
 obtain⟨a0,b0,c0,d0,rfl⟩:=z.shp
 replace B5:=zh (B5.out.ext d)
 replace B6:=zh (B6.out.ext d)
 replace B7:=zh (B7.out.ext d)
 replace F2:=zh (F2.out.ext d)
 replace F4:=zh (F4.out.ext d)
 replace HE:=zh (HE.out.trans d)
 have F12:Hid (zI X (.agg #[.bool a0,.slice b0 c0 d0]) (-(y))):=z
 clear d z
 have k:=(⟨B5.out,B6.out,B7.out⟩:(fun f=>Blk 32 f w.heap.size #[.bool N,.slice O P Q]∧Blk 32 f (w.heap.size+1) #[.bool R,.slice S T U]∧Blk 32 f (w.heap.size+1+1) #[.bool false,.slice none 0 0]) X)
 refine W _ _ k ?_
 clear W
 refine aX 3 rfl (by kernel_rfl) rfl (fun K W=>?_)
 go_simp
 clear k
 refine (Zcr _ _ (x) (-(y)) _ F2.out F12.out (by first|exact Hx.out|exact Y.out|exact xT.neg Y.out|exact Hx'.out|exact Hy'.out) (by first|exact Hx.out|exact Y.out|exact xT.neg Y.out|exact Hx'.out|exact Hy'.out)).mono ?_
 rintro e j ⟨_,rfl,z,d⟩
 obtain⟨m,n,o,q,rfl⟩:=z.shp
 replace B5:=zh (B5.out.ext d)
 replace B6:=zh (B6.out.ext d)
 replace B7:=zh (B7.out.ext d)
 replace F2:=zh (F2.out.ext d)
 replace F4:=zh (F4.out.ext d)
 replace F12:=zh (F12.out.ext d)
 replace HE:=zh (HE.out.trans d)
 have F15:Hid (zI j (.agg #[.bool m,.slice n o q]) ((x)+(-(y)))):=z
 clear d z
 have k:=(⟨B5.out,B6.out,B7.out⟩:(fun f=>Blk 32 f w.heap.size #[.bool N,.slice O P Q]∧Blk 32 f (w.heap.size+1) #[.bool R,.slice S T U]∧Blk 32 f (w.heap.size+1+1) #[.bool false,.slice none 0 0]) j)
 refine W _ _ k ?_
 clear W
 refine ZeH (l:=[_]) 4 rfl (by kernel_rfl) ?_
 clear k
 obtain⟨A,B,C,D⟩:=B5.out.cell2
 obtain⟨E,F,G,H⟩:=B6.out.cell2
 obtain⟨I,J,L,M⟩:=B7.out.cell2
 go_wp2
 clear A B C D E F G H I J L M
 have c:Fr (fun i=>i=(w.heap.size+1+1)) j ((j.setCell ⟨(w.heap.size+1+1),0,none⟩ (.bool m)).setCell ⟨(w.heap.size+1+1),1,none⟩ (.slice n o q)):=(((Fr.refl (fun i=>i=(w.heap.size+1+1)) _).setCell (p:=⟨(w.heap.size+1+1),0,none⟩) (Or.inl rfl) _).setCell (p:=⟨(w.heap.size+1+1),1,none⟩) (Or.inl rfl) _)
 replace F2:=zh (F2.out.oth B7.out lO c)
 replace F4:=zh (F4.out.oth B7.out lO c)
 replace F12:=zh (F12.out.oth B7.out lO c)
 replace F15:=zh (F15.out.oth B7.out lO c)
 replace B5:=zh (B5.out.fr c (by first|omega | (have:=B5.out.lt;have:=B7.out.lt;omega)))
 replace B6:=zh (B6.out.fr c (by first|omega | (have:=B6.out.lt;have:=B7.out.lt;omega)))
 replace HE:=zh (HE.out.next c (fun i hi e=>by first|omega | (have:=HE.out.size;have:=B7.out.lt;omega)))
 have r:Blk 32 ((j.setCell ⟨(w.heap.size+1+1),0,none⟩ (.bool m)).setCell ⟨(w.heap.size+1+1),1,none⟩ (.slice n o q)) (w.heap.size+1+1) #[.bool m,.slice n o q]:=((B7.out.set_ 0 _).set_ 1 _)
 generalize ((j.setCell ⟨(w.heap.size+1+1),0,none⟩ (.bool m)).setCell ⟨(w.heap.size+1+1),1,none⟩ (.slice n o q))=w19 at *
 replace B7:=zh r;clear r c
 exact ZaX rfl rfl B7.out (by rw[Int.sub_eq_add_neg];exact F15.out) HE.out
theorem Zmp (a:Value)(x:Int)(w:World)(ha:zI w a x)(e:x<0) :
 yA 62 #[a] w (RetV w (.int .i64 (-1))):=by
 obtain⟨f,g,h,i,rfl⟩:=ha.shp
 have F2:Hid (zI w (.agg #[.bool f,.slice g h i]) (x)):=ha
 clear ha
 obtain rfl:f=true:=F2.out.sneg e
 clear e
 go_enter Tryz.func62,Tryz.ntmps62
 go_wp2
 generalize d:World.alloc w _=w4
 obtain⟨b,c⟩:=fA d
 clear d
 have k:=zh b
 clear b
 replace F2:=zh (F2.out.ext c)
 have j:=zh c
 clear c
 go_ret
 exact⟨rfl,j.out⟩
theorem Zk8 (a:Value)(x:Int)(w:World)(ha:zI w a x)(e:x=0) :
 yA 62 #[a] w (RetV w (.int .i64 (0))):=by
 obtain⟨f,h,g,i,rfl⟩:=ha.shp
 have F2:Hid (zI w (.agg #[.bool f,.slice h g i]) (x)):=ha
 clear ha
 obtain rfl:f=false:=F2.out.spos (by omega)
 obtain rfl:g=0:=F2.out.len0 e
 clear e
 go_enter Tryz.func62,Tryz.ntmps62
 go_wp2
 generalize d:World.alloc w _=w4
 obtain⟨b,c⟩:=fA d
 clear d
 have k:=zh b
 clear b
 replace F2:=zh (F2.out.ext c)
 have j:=zh c
 clear c
 go_ret
 exact⟨rfl,j.out⟩
theorem Zmq (a:Value)(x:Int)(w:World)(ha:zI w a x)(g:0<x) :
 yA 62 #[a] w (RetV w (.int .i64 (1))):=by
 obtain⟨e,h,f,i,rfl⟩:=ha.shp
 have F2:Hid (zI w (.agg #[.bool e,.slice h f i]) (x)):=ha
 clear ha
 obtain rfl:e=false:=F2.out.spos (by omega)
 have k:((f:Int) == 0)=false:=by have:=F2.out.lenp (by omega);simp;omega
 clear g
 go_enter Tryz.func62,Tryz.ntmps62
 go_wp2
 generalize d:World.alloc w _=w4
 obtain⟨b,c⟩:=fA d
 clear d
 have l:=zh b
 clear b
 replace F2:=zh (F2.out.ext c)
 have j:=zh c
 clear c
 go_ret
 exact⟨rfl,j.out⟩
theorem wU (a:Value)(x:Int)(w:World)(ha:zI w a x):yA 62 #[a] w (RetV w (.int .i64 x.sign)):=by
 rcases Int.lt_trichotomy x 0 with h|h|h
 ·rw[rR h];exact Zmp a x w ha h
 ·rw[h,Int.sign_zero];exact Zk8 a x w ha h
 rw[rN h];exact Zmq a x w ha h
theorem Zih (a b:Value)(x y:Int)(w:World)(ha:zI w a x)(F:zI w b y)(I:xT x)(J:xT y) :
 yA 133 #[a,b] w (RetV w (.int .i64 (x-y).sign)):=by
 obtain⟨M,N,O,P,rfl⟩:=ha.shp
 have F2:Hid (zI w (.agg #[.bool M,.slice N O P]) (x)):=ha
 clear ha
 obtain⟨Q,R,S,T,rfl⟩:=F.shp
 have F4:Hid (zI w (.agg #[.bool Q,.slice R S T]) (y)):=F
 clear F
 have K:=zh I
 have E:=zh J
 clear I J
 obtain⟨r,G⟩:=yE ((x-y).sign)
 rw[G]
 have U:=zh G
 clear G
 go_enter Tryz.func133,Tryz.ntmps133
 go_wp2_with fail
 generalize D:World.alloc (World.alloc w _) _=w7
 obtain⟨g,h,f⟩:=ZaW D
 clear D
 have B5:=zh g
 have B6:=zh h
 clear g h
 replace F2:=zh (F2.out.ext f)
 replace F4:=zh (F4.out.ext f)
 have HE:=zh f
 clear f
 refine (ZnZ _ _ (x) (y) _ F2.out F4.out (by first|exact K.out|exact E.out|exact xT.neg E.out|exact Hx'.out|exact Hy'.out) (by first|exact K.out|exact E.out|exact xT.neg E.out|exact Hx'.out|exact Hy'.out)).mono ?_
 rintro e V ⟨_,rfl,H,d⟩
 obtain⟨W,X,Y,Z,rfl⟩:=H.shp
 replace B5:=zh (B5.out.ext d)
 replace B6:=zh (B6.out.ext d)
 replace F2:=zh (F2.out.ext d)
 replace F4:=zh (F4.out.ext d)
 replace HE:=zh (HE.out.trans d)
 have F10:Hid (zI V (.agg #[.bool W,.slice X Y Z]) ((x)-(y))):=H
 clear d H
 obtain⟨i,j,k,l⟩:=B5.out.cell2
 obtain⟨m,n,o,p⟩:=B6.out.cell2
 go_wp2_with fail
 clear i j k l m n o p
 refine (wU _ ((x)-(y)) _ F10.out).mono ?_
 obtain⟨L,c⟩:=yE (((x)-(y)).sign)
 rw[c];have q:=zh c;clear c
 rintro e a0 ⟨rfl,d⟩
 replace B5:=zh (B5.out.ext d)
 replace B6:=zh (B6.out.ext d)
 replace F2:=zh (F2.out.ext d)
 replace F4:=zh (F4.out.ext d)
 replace F10:=zh (F10.out.ext d)
 replace HE:=zh (HE.out.trans d)
 clear d
 obtain⟨s,t,u,v⟩:=B5.out.cell2
 obtain⟨z,A,B,C⟩:=B6.out.cell2
 go_wp2
 clear s t u v z A B C
 go_ret
 exact⟨by rw[←U.out,← q.out];rfl,HE.out⟩
theorem bE (a b:Value)(x y:Int)(w:World)(ha:zI w a x)(hb:zI w b y)(hx:xT x)(hy:xT y)(h0:y≠0) :
 yA 70 #[a,b] w (Zd4 w (x.tdiv y) (x.tmod y)):=by
 obtain⟨o,A1,l1,c1,rfl⟩:=ha.shp
 have F2:Hid (zI w (.agg #[.bool o,.slice A1 l1 c1]) (x)):=ha
 clear ha
 obtain⟨C,A3,l3,c3,rfl⟩:=hb.shp
 have F4:Hid (zI w (.agg #[.bool C,.slice A3 l3 c3]) (y)):=hb
 clear hb
 have Hx:Hid (ml x.natAbs≤17592186044416):=hx
 have Hy:Hid (ml y.natAbs≤17592186044416):=hy
 have H0:Hid (0<y.natAbs):=by unfold Hid;omega
 have HQ:=zh (F2.out.quo F4.out)
 clear hx hy h0
 go_enter Tryz.func70,Tryz.ntmps70
 go_wp2_with fail
 generalize x0:World.alloc (World.alloc (World.alloc (World.alloc w _) _) _) _=w9
 obtain⟨E,F,G,H,D⟩:=Zpc x0
 clear x0
 have B5:=zh E
 have B6:=zh F
 have B7:=zh G
 have B8:=zh H
 clear E F G H
 replace F2:=zh (F2.out.ext D)
 replace F4:=zh (F4.out.ext D)
 have HE:=zh D
 clear D
 have F10:Hid (zS w9 (.slice A1 l1 c1) ((x).natAbs)):=F2.out.mag
 have F11:Hid (zS w9 (.slice A3 l3 c3) ((y).natAbs)):=F4.out.mag
 refine (ZfG _ _ ((x).natAbs) ((y).natAbs) _ F10.out F11.out Hx.out Hy.out H0.out).mono ?_
 rintro e P ⟨_,_,rfl,hq,hr,f⟩
 obtain⟨I,J,L,rfl⟩:=hq.slice
 obtain⟨M,N,O,rfl⟩:=hr.slice
 replace B5:=zh (B5.out.ext f)
 replace B6:=zh (B6.out.ext f)
 replace B7:=zh (B7.out.ext f)
 replace B8:=zh (B8.out.ext f)
 replace F2:=zh (F2.out.ext f)
 replace F4:=zh (F4.out.ext f)
 replace F10:=zh (F10.out.ext f)
 replace F11:=zh (F11.out.ext f)
 replace HE:=zh (HE.out.trans f)
 have F14:Hid (zS P (.slice I J L) (((x).natAbs)/((y).natAbs))):=hq
 have F15:Hid (zS P (.slice M N O) (((x).natAbs)%((y).natAbs))):=hr
 clear f hq hr
 obtain⟨Q,R,S,T⟩:=B5.out.cell2
 obtain⟨U,V,W,X⟩:=B6.out.cell2
 obtain⟨Y,Z,a0,b0⟩:=B7.out.cell2
 obtain⟨c0,d0,e0,f0⟩:=B8.out.cell2
 go_wp2_with fail
 clear Q R S T U V W X Y Z a0 b0 c0 d0 e0 f0
 refine ZbQ 11 (fun m=>Blk 32 m w.heap.size #[.bool o,.slice A1 l1 c1]∧Blk 32 m (w.heap.size+1) #[.bool C,.slice A3 l3 c3]∧Blk 32 m (w.heap.size+1+1) #[.bool false,.slice none 0 0]∧Blk 32 m (w.heap.size+1+1+1) #[.bool false,.slice none 0 0]) zM ?_
 replace B5:=zh (B5.out.ext (Fr.refl _ _).drew)
 replace B6:=zh (B6.out.ext (Fr.refl _ _).drew)
 replace B7:=zh (B7.out.ext (Fr.refl _ _).drew)
 replace B8:=zh (B8.out.ext (Fr.refl _ _).drew)
 replace F2:=zh (F2.out.ext (Fr.refl _ _).drew)
 replace F4:=zh (F4.out.ext (Fr.refl _ _).drew)
 replace F10:=zh (F10.out.ext (Fr.refl _ _).drew)
 replace F11:=zh (F11.out.ext (Fr.refl _ _).drew)
 replace F14:=zh (F14.out.ext (Fr.refl _ _).drew)
 replace F15:=zh (F15.out.ext (Fr.refl _ _).drew)
 replace HE:=zh (HE.out.trans (Fr.refl _ _).drew)
 generalize P.drew=w20 at *
 have j:=(⟨B5.out,B6.out,B7.out,B8.out⟩:(fun m=>Blk 32 m w.heap.size #[.bool o,.slice A1 l1 c1]∧Blk 32 m (w.heap.size+1) #[.bool C,.slice A3 l3 c3]∧Blk 32 m (w.heap.size+1+1) #[.bool false,.slice none 0 0]∧Blk 32 m (w.heap.size+1+1+1) #[.bool false,.slice none 0 0]) w20)
 refine jM 0 rfl (by kernel_rfl) (fun _ _ _ h=>h) j (fun _=>ZaK (g:=w.heap.size) (off:=0) rfl rfl (by kernel_rfl)) (fun j=>?_)
 refine jM 1 rfl (by kernel_rfl) (fun _ _ _ h=>h) j (fun _=>Zd3 (g:=w.heap.size) (off:=0) (x:=.bool o) rfl rfl (by kernel_rfl) (fun _ h=>Blk.one' (h.1) 0 rfl)) (fun j=>?_)
 refine jM 2 rfl (by kernel_rfl) (fun _ _ _ h=>h) j (fun _=>ZaK (g:=(w.heap.size+1)) (off:=0) rfl rfl (by kernel_rfl)) (fun j=>?_)
 refine jM 3 rfl (by kernel_rfl) (fun _ _ _ h=>h) j (fun _=>Zd3 (g:=(w.heap.size+1)) (off:=0) (x:=.bool C) rfl rfl (by kernel_rfl) (fun _ h=>Blk.one' (h.2.1) 0 rfl)) (fun j=>?_)
 refine jM 4 rfl (by kernel_rfl) (fun _ _ _ h=>h) j (fun _=>ZnP (b:=o) (c:=C) rfl rfl (by kernel_rfl) (by kernel_rfl)) (fun j=>?_)
 refine jM 5 rfl (by kernel_rfl) (fun _ _ _ h=>h) j (fun _=>ym (v:=.slice I J L) rfl rfl (by kernel_rfl)) (fun j=>?_)
 refine jM 7 rfl (by kernel_rfl) (fun _ _ _ h=>h) j (fun _=>ZaK (g:=w.heap.size) (off:=0) rfl rfl (by kernel_rfl)) (fun j=>?_)
 refine jM 8 rfl (by kernel_rfl) (fun _ _ _ h=>h) j (fun _=>Zd3 (g:=w.heap.size) (off:=0) (x:=.bool o) rfl rfl (by kernel_rfl) (fun _ h=>Blk.one' (h.1) 0 rfl)) (fun j=>?_)
 refine jM 9 rfl (by kernel_rfl) (fun _ _ _ h=>h) j (fun _=>ym (v:=.slice M N O) rfl rfl (by kernel_rfl)) (fun j=>?_)
 refine aX 6 rfl (by kernel_rfl) rfl (fun K hK=>?_)
 go_simp
 clear j
 refine (eB ((o != C)) _ _ _ F14.out).mono ?_
 rintro e y0 ⟨_,rfl,hI,f⟩
 obtain⟨q,r,s,t,rfl⟩:=hI.shp
 replace B5:=zh (B5.out.ext f)
 replace B6:=zh (B6.out.ext f)
 replace B7:=zh (B7.out.ext f)
 replace B8:=zh (B8.out.ext f)
 replace F2:=zh (F2.out.ext f)
 replace F4:=zh (F4.out.ext f)
 replace F10:=zh (F10.out.ext f)
 replace F11:=zh (F11.out.ext f)
 replace F14:=zh (F14.out.ext f)
 replace F15:=zh (F15.out.ext f)
 replace HE:=zh (HE.out.trans f)
 have F23:Hid (zI y0 (.agg #[.bool q,.slice r s t]) (sg ((o != C)) (((x).natAbs)/((y).natAbs)))):=hI
 clear f hI
 have j:=(⟨B5.out,B6.out,B7.out,B8.out⟩:(fun m=>Blk 32 m w.heap.size #[.bool o,.slice A1 l1 c1]∧Blk 32 m (w.heap.size+1) #[.bool C,.slice A3 l3 c3]∧Blk 32 m (w.heap.size+1+1) #[.bool false,.slice none 0 0]∧Blk 32 m (w.heap.size+1+1+1) #[.bool false,.slice none 0 0]) y0)
 refine hK _ _ j ?_
 clear hK
 refine aX 10 rfl (by kernel_rfl) rfl (fun K hK=>?_)
 go_simp
 clear j
 refine (eB (o) _ _ _ F15.out).mono ?_
 rintro e n ⟨_,rfl,hI,f⟩
 obtain⟨u,z,A,B,rfl⟩:=hI.shp
 replace B5:=zh (B5.out.ext f)
 replace B6:=zh (B6.out.ext f)
 replace B7:=zh (B7.out.ext f)
 replace B8:=zh (B8.out.ext f)
 replace F2:=zh (F2.out.ext f)
 replace F4:=zh (F4.out.ext f)
 replace F10:=zh (F10.out.ext f)
 replace F11:=zh (F11.out.ext f)
 replace F14:=zh (F14.out.ext f)
 replace F15:=zh (F15.out.ext f)
 replace F23:=zh (F23.out.ext f)
 replace HE:=zh (HE.out.trans f)
 have F26:Hid (zI n (.agg #[.bool u,.slice z A B]) (sg (o) (((x).natAbs)%((y).natAbs)))):=hI
 clear f hI
 have j:=(⟨B5.out,B6.out,B7.out,B8.out⟩:(fun m=>Blk 32 m w.heap.size #[.bool o,.slice A1 l1 c1]∧Blk 32 m (w.heap.size+1) #[.bool C,.slice A3 l3 c3]∧Blk 32 m (w.heap.size+1+1) #[.bool false,.slice none 0 0]∧Blk 32 m (w.heap.size+1+1+1) #[.bool false,.slice none 0 0]) n)
 refine hK _ _ j ?_
 clear hK
 refine ZeH (l:=[_,_]) 11 rfl (by kernel_rfl) ?_
 clear j
 obtain⟨g0,i0,j0,k0⟩:=B5.out.cell2
 obtain⟨l0,m0,n0,o0⟩:=B6.out.cell2
 obtain⟨p0,q0,r0,s0⟩:=B7.out.cell2
 obtain⟨t0,u0,v0,w0⟩:=B8.out.cell2
 go_wp2
 clear g0 i0 j0 k0 l0 m0 n0 o0 p0 q0 r0 s0 t0 u0 v0 w0
 have d:Fr (fun i=>i=(w.heap.size+1+1)) n ((n.setCell ⟨(w.heap.size+1+1),0,none⟩ (.bool q)).setCell ⟨(w.heap.size+1+1),1,none⟩ (.slice r s t)):=(((Fr.refl (fun i=>i=(w.heap.size+1+1)) _).setCell (p:=⟨(w.heap.size+1+1),0,none⟩) (Or.inl rfl) _).setCell (p:=⟨(w.heap.size+1+1),1,none⟩) (Or.inl rfl) _)
 replace F2:=zh (F2.out.oth B7.out lO d)
 replace F4:=zh (F4.out.oth B7.out lO d)
 replace F10:=zh (F10.out.oth B7.out lO d)
 replace F11:=zh (F11.out.oth B7.out lO d)
 replace F14:=zh (F14.out.oth B7.out lO d)
 replace F15:=zh (F15.out.oth B7.out lO d)
 replace F23:=zh (F23.out.oth B7.out lO d)
 replace F26:=zh (F26.out.oth B7.out lO d)
 replace B5:=zh (B5.out.fr d (by first|omega | (have:=B5.out.lt;have:=B7.out.lt;omega)))
 replace B6:=zh (B6.out.fr d (by first|omega | (have:=B6.out.lt;have:=B7.out.lt;omega)))
 replace B8:=zh (B8.out.fr d (by first|omega | (have:=B8.out.lt;have:=B7.out.lt;omega)))
 replace HE:=zh (HE.out.next d (fun i hi e=>by first|omega | (have:=HE.out.size;have:=B7.out.lt;omega)))
 have k:Blk 32 ((n.setCell ⟨(w.heap.size+1+1),0,none⟩ (.bool q)).setCell ⟨(w.heap.size+1+1),1,none⟩ (.slice r s t)) (w.heap.size+1+1) #[.bool q,.slice r s t]:=((B7.out.set_ 0 _).set_ 1 _)
 generalize ((n.setCell ⟨(w.heap.size+1+1),0,none⟩ (.bool q)).setCell ⟨(w.heap.size+1+1),1,none⟩ (.slice r s t))=w31 at *
 replace B7:=zh k;clear k d
 have d:Fr (fun i=>i=(w.heap.size+1+1+1)) w31 ((w31.setCell ⟨(w.heap.size+1+1+1),0,none⟩ (.bool u)).setCell ⟨(w.heap.size+1+1+1),1,none⟩ (.slice z A B)):=(((Fr.refl (fun i=>i=(w.heap.size+1+1+1)) _).setCell (p:=⟨(w.heap.size+1+1+1),0,none⟩) (Or.inl rfl) _).setCell (p:=⟨(w.heap.size+1+1+1),1,none⟩) (Or.inl rfl) _)
 replace F2:=zh (F2.out.oth B8.out lO d)
 replace F4:=zh (F4.out.oth B8.out lO d)
 replace F10:=zh (F10.out.oth B8.out lO d)
 replace F11:=zh (F11.out.oth B8.out lO d)
 replace F14:=zh (F14.out.oth B8.out lO d)
 replace F15:=zh (F15.out.oth B8.out lO d)
 replace F23:=zh (F23.out.oth B8.out lO d)
 replace F26:=zh (F26.out.oth B8.out lO d)
 replace B5:=zh (B5.out.fr d (by first|omega | (have:=B5.out.lt;have:=B8.out.lt;omega)))
 replace B6:=zh (B6.out.fr d (by first|omega | (have:=B6.out.lt;have:=B8.out.lt;omega)))
 replace B7:=zh (B7.out.fr d (by first|omega | (have:=B7.out.lt;have:=B8.out.lt;omega)))
 replace HE:=zh (HE.out.next d (fun i hi e=>by first|omega | (have:=HE.out.size;have:=B8.out.lt;omega)))
 have k:Blk 32 ((w31.setCell ⟨(w.heap.size+1+1+1),0,none⟩ (.bool u)).setCell ⟨(w.heap.size+1+1+1),1,none⟩ (.slice z A B)) (w.heap.size+1+1+1) #[.bool u,.slice z A B]:=((B8.out.set_ 0 _).set_ 1 _)
 generalize ((w31.setCell ⟨(w.heap.size+1+1+1),0,none⟩ (.bool u)).setCell ⟨(w.heap.size+1+1+1),1,none⟩ (.slice z A B))=w32 at *
 replace B8:=zh k;clear k d
 exact ZnY rfl rfl rfl B7.out B8.out (by rw[←HQ.out.1];exact F23.out) (by rw[←HQ.out.2];exact F26.out) HE.out
theorem Zn0 (a:Value)(q:Rat)(w:World)(ha:xN w a q)(F:q.den=1) :
 yA 75 #[a] w (wN w (q.den:Int)):=by
 obtain⟨I,J,K,L,t1,M,G,N,rfl⟩:=ha.shp
 have F2:Hid (xN w (.agg #[.bool I,.slice J K L,.bool t1,.slice M G N]) (q)):=ha
 clear ha
 have H:=F2.out.den
 obtain rfl:G=0:=H.len0 (dZ F)
 have O:Hid ((q.den:Int)=1):=by unfold Hid;omega
 clear H F
 go_enter Tryz.func75,Tryz.ntmps75
 go_wp2_with fail
 generalize m:World.alloc (World.alloc w _) _=w5
 obtain⟨d,f,g⟩:=ZaW m
 clear m
 have B3:=zh d
 have B4:=zh f
 clear d f
 replace F2:=zh (F2.out.ext g)
 have HE:=zh g
 clear g
 refine (lH 1 _ (by omega) (by omega)).mono ?_
 rintro e n ⟨_,rfl,E,o⟩
 obtain⟨r,s,t,u,rfl⟩:=E.shp
 replace B3:=zh (B3.out.ext o)
 replace B4:=zh (B4.out.ext o)
 replace F2:=zh (F2.out.ext o)
 replace HE:=zh (HE.out.trans o)
 have F8:Hid (zI n (.agg #[.bool r,.slice s t u]) (1)):=E
 clear o E
 obtain⟨v,x,y,z,A,B,C,D⟩:=B3.out.cell4
 obtain⟨h,j,k,l⟩:=B4.out.cell2
 go_wp2
 clear v x y z A B C D h j k l
 have b:Fr (fun i=>i=(w.heap.size+1)) n ((n.setCell ⟨(w.heap.size+1),0,none⟩ (.bool r)).setCell ⟨(w.heap.size+1),1,none⟩ (.slice s t u)):=(((Fr.refl (fun i=>i=(w.heap.size+1)) _).setCell (p:=⟨(w.heap.size+1),0,none⟩) (Or.inl rfl) _).setCell (p:=⟨(w.heap.size+1),1,none⟩) (Or.inl rfl) _)
 replace F2:=zh (F2.out.oth B4.out lO b)
 replace F8:=zh (F8.out.oth B4.out lO b)
 replace B3:=zh (B3.out.fr b (by first|omega | (have:=B3.out.lt;have:=B4.out.lt;omega)))
 replace HE:=zh (HE.out.next b (fun i P e=>by first|omega | (have:=HE.out.size;have:=B4.out.lt;omega)))
 have c:Blk 32 ((n.setCell ⟨(w.heap.size+1),0,none⟩ (.bool r)).setCell ⟨(w.heap.size+1),1,none⟩ (.slice s t u)) (w.heap.size+1) #[.bool r,.slice s t u]:=((B4.out.set_ 0 _).set_ 1 _)
 generalize ((n.setCell ⟨(w.heap.size+1),0,none⟩ (.bool r)).setCell ⟨(w.heap.size+1),1,none⟩ (.slice s t u))=w11 at *
 replace B4:=zh c;clear c b
 exact ZaX rfl rfl B4.out (by rw[O.out];exact F8.out) HE.out
theorem Zn1 (a:Value)(q:Rat)(w:World)(ha:xN w a q)(f:¬ q.den=1) :
 yA 75 #[a] w (wN w (q.den:Int)):=by
 obtain⟨k,l,m,n,t1,h,g,i,rfl⟩:=ha.shp
 have F2:Hid (xN w (.agg #[.bool k,.slice l m n,.bool t1,.slice h g i]) (q)):=ha
 clear ha
 have j:=F2.out.den
 have t:((g:Int) == 0)=false:=by have:=j.lenp (Zgm f);simp;omega
 have o:=zh (fN f)
 clear j f
 go_enter Tryz.func75,Tryz.ntmps75
 go_wp2
 generalize e:World.alloc (World.alloc w _) _=w5
 obtain⟨b,c,d⟩:=ZaW e
 clear e
 have u:=zh b
 have p:=zh c
 clear b c
 replace F2:=zh (F2.out.ext d)
 have r:=zh d
 clear d
 have s:Hid (zI w5 (.agg #[.bool t1,.slice h g i]) (denF (q))):=F2.out.den
 exact ZaX rfl rfl p.out (by rw[←o.out];exact s.out) r.out
theorem Zn2 (a:Value)(q:Rat)(w:World)(ha:xN w a q):yA 75 #[a] w (wN w (q.den:Int)):=by
 by_cases h:q.den=1
 ·exact Zn0 a q w ha h
 exact Zn1 a q w ha h
theorem ZeO (a:Value)(q:Rat)(w:World)(ha:xN w a q) :
 yA 79 #[a] w (wN w (q.den:Int)):=by
 obtain⟨F,G,H,I,t1,J,K,L,rfl⟩:=ha.shp
 have F2:Hid (xN w (.agg #[.bool F,.slice G H I,.bool t1,.slice J K L]) (q)):=ha
 clear ha
 go_enter Tryz.func79,Tryz.ntmps79
 go_wp2_with fail
 generalize m:World.alloc (World.alloc w _) _=w5
 obtain⟨d,f,g⟩:=ZaW m
 clear m
 have B3:=zh d
 have B4:=zh f
 clear d f
 replace F2:=zh (F2.out.ext g)
 have HE:=zh g
 clear g
 refine (Zn2 _ (q) _ F2.out).mono ?_
 rintro e n ⟨_,rfl,E,o⟩
 obtain⟨r,s,t,u,rfl⟩:=E.shp
 replace B3:=zh (B3.out.ext o)
 replace B4:=zh (B4.out.ext o)
 replace F2:=zh (F2.out.ext o)
 replace HE:=zh (HE.out.trans o)
 have F8:Hid (zI n (.agg #[.bool r,.slice s t u]) (((q).den:Int))):=E
 clear o E
 obtain⟨v,x,y,z,A,B,C,D⟩:=B3.out.cell4
 obtain⟨h,j,k,l⟩:=B4.out.cell2
 go_wp2
 clear v x y z A B C D h j k l
 have b:Fr (fun i=>i=(w.heap.size+1)) n ((n.setCell ⟨(w.heap.size+1),0,none⟩ (.bool r)).setCell ⟨(w.heap.size+1),1,none⟩ (.slice s t u)):=(((Fr.refl (fun i=>i=(w.heap.size+1)) _).setCell (p:=⟨(w.heap.size+1),0,none⟩) (Or.inl rfl) _).setCell (p:=⟨(w.heap.size+1),1,none⟩) (Or.inl rfl) _)
 replace F2:=zh (F2.out.oth B4.out lO b)
 replace F8:=zh (F8.out.oth B4.out lO b)
 replace B3:=zh (B3.out.fr b (by first|omega | (have:=B3.out.lt;have:=B4.out.lt;omega)))
 replace HE:=zh (HE.out.next b (fun i M e=>by first|omega | (have:=HE.out.size;have:=B4.out.lt;omega)))
 have c:Blk 32 ((n.setCell ⟨(w.heap.size+1),0,none⟩ (.bool r)).setCell ⟨(w.heap.size+1),1,none⟩ (.slice s t u)) (w.heap.size+1) #[.bool r,.slice s t u]:=((B4.out.set_ 0 _).set_ 1 _)
 generalize ((n.setCell ⟨(w.heap.size+1),0,none⟩ (.bool r)).setCell ⟨(w.heap.size+1),1,none⟩ (.slice s t u))=w11 at *
 replace B4:=zh c;clear c b
 exact ZaX rfl rfl B4.out (by exact F8.out) HE.out
def blen (n:Nat):Nat:=if n=0 then 0 else n.log2+1
theorem fG:blen 0=0:=rfl
theorem iF (n:Nat):n<2^blen n:=by
 unfold blen
 split
 ·rename_i h;subst h;decide
 rename_i h;exact (Nat.log2_lt h).1 (pB _)
theorem wT {n k:Nat}:blen n≤k↔n<2^k:=by
 unfold blen
 split
 ·rename_i h;subst h;simp[uV]
 rename_i h;rw[←Nat.log2_lt h];omega
theorem ZaA {n:Nat}(h:0<n):blen n=blen (n/2)+1:=by
 have d:blen (n/2)+1≤blen n:=by
  have:blen (n/2)≤blen n-1:=wT.2 (by
   have a:=iF n
   have b:0<blen n:=by unfold blen;rw[uN (by omega)];omega
   obtain⟨k,c⟩:∃ k,blen n=k+1:=⟨blen n-1,by omega⟩
   rw[c] at a ⊢
   rw[uR] at a
   show n/2<2^(k+1-1)
   rw[tE]
   omega)
  have b:0<blen n:=by unfold blen;rw[uN (by omega)];omega
  omega
 have a:blen n≤blen (n/2)+1:=wT.2 (by
  have:=iF (n/2)
  rw[uR]
  omega)
 omega
theorem Zii:blen 1=1:=by decide
theorem iL {n:Nat}:blen n=1↔n=1:=by
 constructor
 ·intro h
  have a:=iF n
  rw[h] at a
  rcases uH n with e|e
  ·subst e;rw[fG] at h;omega
  omega
 rintro rfl;decide
theorem Zam {n:Nat}:1<blen n↔1<n:=by
 rcases vJ 1 n with h|h
 ·have:¬ blen n≤1:=fun k=>by have:=wT.1 k;omega
  omega
 have:blen n≤1:=wT.2 (by omega)
 omega
theorem Zij {B k t a:Nat}(g:a<2^(B*k))(b:0<t):blen (a+2^(B*k)*t)=B*k+blen t:=by
 have c:=iF t
 have i:blen (a+2^(B*k)*t)≤B*k+blen t:=wT.2 (by
  rw[uT]
  have:2^(B*k)*(t+1)≤2^(B*k)*2^blen t:=uI _ c
  rw[uL] at this
  omega)
 have l:¬ blen (a+2^(B*k)*t)≤B*k+blen t-1:=fun h=>by
  have d:=wT.1 h
  obtain⟨j,e⟩:∃ j,blen t=j+1:=⟨blen t-1,by have:=ZaA b;omega⟩
  rw[e,show B*k+(j+1)-1=B*k+j by omega,uT] at d
  have f:2^j≤t:=by
   rcases vJ t (2^j) with h|h
   ·have:=wT.2 h;omega
   exact h
  have:2^(B*k)*2^j≤2^(B*k)*t:=uI _ f
  omega
 have:0<blen t:=by have:=ZaA b;omega
 omega
theorem kR (a:Value)(x:Int)(w:World)(ha:zI w a x)(F:xT x):yA 37 #[a] w (RetV w (.int .i64 (blen x.natAbs:Int))):=by
 obtain⟨s,A,l,c,rfl⟩:=ha.shp
 have f:=ha.mag
 have L:=ha.len0
 obtain⟨V,xs,W,M,N,G,j,o,p⟩:=f
 injection M with e1 e2 e3
 subst e1 e2 e3
 unfold xT at F
 rw[←p,← kH j o] at F
 rw[←p]
 clear ha L p
 rcases uH xs.length with q|q
 ·obtain rfl:xs=[]:=tH.1 q
  go_enter Tryz.func37,Tryz.ntmps37
  go_wp2
  go_ret
  exact⟨rfl,(Fr.refl _ _).alloc _⟩
 obtain⟨k,H⟩:∃ k,xs.length=k+1:=⟨xs.length-1,by omega⟩
 obtain⟨b,O,rfl,P,u⟩:=G.at (i:=k) (by omega)
 obtain⟨t,m⟩:=yE (xs[k]?.getD 0)
 rw[m] at u
 have v:0<t:=by have:=o k H;omega
 have I:val W32 xs=val W32 (xs.take k)+W32^k*t:=by
  have:=zR (B:=W32) (xs:=xs) k (by omega)
  rw[uB (by omega),m] at this
  exact this
 have d:=xV (j.take k)
 rw[vE,uX (by omega),cI] at d
 have y:Hid (blen (val W32 xs)=32*k+blen t):=by
  unfold Hid
  rw[I,cI]
  exact Zij d v
 have g:t<W32:=m ▸ j.getD zU k
 have Q:blen t≤32:=wT.2 (by rw[zP] at g;exact g)
 obtain⟨r,J⟩:=yE (blen (val W32 xs))
 rw[J] at y ⊢
 have R:b≠w.heap.size:=Nat.ne_of_lt P
 rw[H]
 clear G j o I d m J g N q
 have X:(((k:Int)+1) == 0)=false:=by simp;omega
 go_enter Tryz.func37,Tryz.ntmps37
 go_wp2
 go_loop [3,4] (fun S z=>∃ n t':Nat,S=.int .i64 (n:Int)∧z=.int .u32 (t':Int)∧Hid (n+blen t'=r)∧n≤32*k+32) (fun _ z=>(intOf z).toNat)
 case atStart=>exact⟨32*k,t,by go_num,rfl,by have:=y.out;unfold Hid;omega,by omega⟩
 case round =>
  obtain⟨n,t',rfl,rfl,C,Y⟩:=hrel
  by_cases K:0<t'
  ·have e:Hid (n+1+blen (t'/2)=r):=by have f:=C.out;rw[ZaA K] at f;unfold Hid;omega
   have D:n+1≤32*k+32:=by
    have f:=C.out;have Z:=y.out;rw[ZaA K] at f;omega
   have T:(t':Int)/2=((t'/2:Nat):Int):=rfl
   have E:t'/2<t':=by omega
   obtain⟨U,h⟩:=yE (t'/2)
   rw[h] at e T E
   clear h
   go_wp2
   go_round
   case rel=>exact⟨n+1,U,by go_num,rfl,e,D⟩
   case measure=>simp[intOf];omega
  obtain rfl:t'=0:=by omega
  have e:Hid (n=r):=by have f:=C.out;rw[fG] at f;exact f
  go_wp2
  go_ret
  exact⟨by rw[e.out];rfl,(Fr.refl _ _).alloc _⟩
theorem zS.inj {w:World}{v:Value}{m n:Nat}(h:zS w v m)(k:zS w v n):m=n:=by
 obtain⟨A,g,c,rfl,_,j,_,_,rfl⟩:=h
 obtain⟨s,l,t,p,_,q,_,_,rfl⟩:=k
 injection p with e1 e2 e3
 subst e1
 have:g=l:=by
  apply List.ext_getElem e2
  intro i e f
  obtain⟨b,o,rfl,_,r⟩:=j.at e
  obtain⟨u,x,d,_,a⟩:=q.at f
  injection d with d
  injection d with e3 e4
  subst e3 e4
  rw[r] at a
  injection a with a
  injection a with _ a
  rw[List.getElem?_eq_getElem e,List.getElem?_eq_getElem f] at a
  simp only[sR] at a
  omega
 rw[this]
open Classical in
noncomputable def Zds (w:World) (v:Value):Nat:=if h:∃ n,zS w v n then Classical.choose h else 0
theorem ZgR {w:World}{v:Value}{n:Nat}(h:zS w v n):Zds w v=n:=by
 have a:∃ n,zS w v n:=⟨n,h⟩
 unfold Zds
 rw[dif_pos a]
 exact (qI a).inj h
theorem zS.len_zero {w:World}{A:Option Addr}{l c n:Nat}(h:zS w (.slice A l c) n):(n=0↔l=0)∧l=ml n:=by
 obtain⟨j,f,k,a,_,_,g,i,b⟩:=h
 injection a with _ a
 have d:=kH g i
 rw[b] at d
 refine⟨⟨fun e=>?_,fun e=>?_⟩,by omega⟩
 ·rw[e,Zgb] at d;omega
 rw[e] at a
 have:f=[]:=tH.1 a.symm
 rw[this] at b
 simpa using b.symm
theorem Zik (a b:Value)(x y:Int)(w:World)(ha:zI w a x)(I:zI w b y)(hx:xT x)(hy:xT y):yA 69 #[a,b] w (wN w (Int.gcd x y:Int)):=by
 obtain⟨s,A,l,c,rfl⟩:=ha.shp
 obtain⟨t,B,m,d,rfl⟩:=I.shp
 have HM:=zh ha.mag
 have HN:=zh I.mag
 have HX:Hid (ml x.natAbs≤17592186044416):=hx
 have HY:Hid (ml y.natAbs≤17592186044416):=hy
 obtain⟨r,J⟩:=yE (Int.gcd x y)
 have HR:Hid (Nat.gcd x.natAbs y.natAbs=r):=J
 rw[J]
 clear ha I hx hy J
 go_enter Tryz.func69,Tryz.ntmps69
 go_wp2_with fail
 generalize k:World.alloc (World.alloc (World.alloc w _) _) _=w1
 obtain⟨b0,b1,b2,h⟩:=Zgj k
 clear k
 have K:=zh b2
 have HE:=zh h
 replace HM:=zh (HM.out.ext h)
 replace HN:=zh (HN.out.ext h)
 obtain⟨c0,c1,f0,f1⟩:=b0.cell2
 obtain⟨q,L,f2,f3⟩:=b1.cell2
 clear b0 b1 b2 h
 go_quiet (fail)
 clear c0 c1 f0 f1 q L f2 f3
 go_wp2_with fail
 go_loopw [5,6,7,8] (fun xv M _ _ wr=>∃ (u v:Nat) (N z:Option Addr) (O P m' C:Nat),xv=.slice N O P∧M=.slice z m' C∧Hid (zS wr (.slice N O P) u)∧Hid (zS wr (.slice z m' C) v)∧Hid (ml u≤17592186044416)∧Hid (ml v≤17592186044416)∧Hid (Nat.gcd u v=r)∧Hid (Ext w1 wr)) (fun _ M _ _ wr=>Zds wr M)
 case atStart=>exact⟨_,_,_,_,_,_,_,_,rfl,rfl,HM.out.ext ((Fr.refl _ _).drewN _),HN.out.ext ((Fr.refl _ _).drewN _),HX,HY,HR,(Fr.refl _ _).drewN _⟩
 case round =>
  obtain⟨u,v,N,z,O,P,m',C,rfl,rfl,hU,D,hu,E,Q,R⟩:=hrel
  obtain⟨F,z2⟩:=D.out.len_zero
  have g0:m'≤17592186044416:=by have:=E.out;omega
  by_cases S:m'=0
  ·subst S
   have f:v=0:=F.2 rfl
   have T:Hid (u=r):=by have:=Q.out;rw[f,rF] at this;exact this
   have HB:=zh (K.out.ext R.out)
   have U:=zh (HE.out.trans R.out)
   clear F z2 f
   go_wp2_with fail
   refine (eB false _ u _ hU.out).mono ?_
   rintro e G ⟨_,rfl,V,g⟩
   obtain⟨s2,A2,l2,q,rfl⟩:=V.shp
   have HI:=zh V
   have j:=zh (HB.out.ext g)
   have W:=zh (U.out.trans g)
   obtain⟨k0,k1,k2,k3⟩:=j.out.cell2
   clear V g
   go_wp2
   have n:Fr (fun i=>i=(w.heap.size+1+1)) G ((G.setCell ⟨w.heap.size+1+1,0,none⟩ (.bool s2)).setCell ⟨w.heap.size+1+1,1,none⟩ (.slice A2 l2 q)):=((Fr.refl (fun i=>i=(w.heap.size+1+1)) _).setCell (p:=⟨w.heap.size+1+1,0,none⟩) (Or.inl rfl) _).setCell (p:=⟨w.heap.size+1+1,1,none⟩) (Or.inl rfl) _
   exact ZaX rfl rfl ((j.out.set_ 0 _).set_ 1 _) (by rw[←T.out];exact HI.out.oth j.out lO n) (W.out.next n (fun i hi e=>by omega))
  have h0:0<m':=by omega
  have f:0<v:=by
   rcases uH v with e|e;· exact absurd (F.1 e) S
   ·exact e
  have T:Hid (Nat.gcd v (u%v)=r):=by have:=Q.out;rw[tV,qL,tV] at this;exact this
  have X:=zh (uA (wK (rM (uM u f))) E.out)
  have Y:=zh (uM u f)
  have HC:=zh (ZfG _ _ u v wr hU.out D.out hu.out E.out f)
  clear F z2 f S Q
  go_wp2_with fail
  refine HC.out.mono ?_
  rintro e G ⟨_,_,rfl,hq,H,g⟩
  obtain⟨A2,l2,q,rfl⟩:=hq.slice
  obtain⟨A3,l3,L,rfl⟩:=H.slice
  have Z:=zh H
  have a0:=zh (D.out.ext g)
  have d0:=zh (R.out.trans g)
  have e0:Hid (Zds wr (.slice z m' C)=v):=ZgR D.out
  have o:Hid (Zds G (.slice A3 l3 L)=u%v):=ZgR H
  clear hq H g HC
  go_wp2
  go_roundw
  case rel=>exact⟨v,u%v,_,_,_,_,_,_,rfl,rfl,a0,Z,E,X,T,d0⟩
  case measure=>rw[e0.out,o.out];exact Y.out
end Go.Proofs.YtklpdkpcocnglaaGreatDoor
namespace Go.Proofs.YtklpdkpcocnglaaGreatDoor
theorem fB {n k:Nat}:k<blen n↔2^k≤n:=by have:=@wT n k;omega
theorem bO {n:Nat}(h:0<n):0<blen n:=fB.2 (by rw[vQ];exact h)
theorem Zd5 {n k:Nat}(a:2^k≤n)(b:n<2^(k+1)):blen n=k+1:=by
 have:=fB.2 a;have:=wT.2 b;omega
theorem Zcx {n:Nat}(h:0<n):2^(blen n-1)≤n:=fB.1 (by have:=bO h;omega)
theorem p2 (k:Nat):0<2^k:=uV (by decide)
theorem ZaB {n:Nat}(h:0<n)(j:Nat):blen (n*2^j)=blen n+j:=by
 have a:=Zcx h
 have b:=iF n
 obtain⟨k,c⟩:∃ k,blen n=k+1:=⟨blen n-1,by have:=bO h;omega⟩
 rw[c] at a b ⊢
 rw[show k+1+j=k+j+1 by omega]
 refine Zd5 ?_ ?_
 ·rw[uT];exact uE _ (by simpa using a)
 rw[show k+j+1=k+1+j by omega,uT];exact (rW (p2 j)).2 b
theorem bS (n j:Nat):blen (n/2^j)=blen n-j:=by
 rcases vJ j (blen n) with h|h
 ·have c:0<n:=by
   rcases uH n with e|e;· subst e;rw[fG] at h;omega
   ·exact e
  have a:=Zcx c
  have b:=iF n
  obtain⟨k,d⟩:∃ k,blen n=j+(k+1):=⟨blen n-j-1,by omega⟩
  rw[d] at a b ⊢
  rw[show j+(k+1)-j=k+1 by omega]
  refine Zd5 ?_ ?_
  ·rw[rT (p2 j),← uT];rw[show j+(k+1)-1=k+j by omega] at a;exact a
  rw[vH (p2 j),← uT,vL];exact b
 rw[vZ (wT.1 h),fG];omega
def kY (a b:Nat):Nat:=if b<2*(a%b)∨(2*(a%b)=b∧a/b%2=1) then a/b+1 else a/b
theorem Zk9 {a b c:Nat}(d:0<c):kY (a*c) (b*c)=kY a b:=by
 unfold kY
 rw[sE,rC _ _ d,← uF]
 have e:b*c<2*(a%b)*c↔b<2*(a%b):=rW d
 have f:2*(a%b)*c=b*c↔2*(a%b)=b:=⟨fun h=>Nat.eq_of_mul_eq_mul_right d h,fun h=>by rw[h]⟩
 simp only[e,f]
theorem Zn3 (a:Nat):kY a 1=a:=by unfold kY;rw[Nat.mod_one,sL,uN (by omega)]
def iA (q j:Nat) (m:Bool):Nat:=if q/2^j%2=1∧(q%2^j≠0∨q/2^(j+1)%2=1∨m=true) then q/2^(j+1)+1 else q/2^(j+1)
theorem Zla {a b j:Nat}(k:0<b):kY a (b*2^(j+1))=iA (a/b) j (decide (a%b≠0)):=by
 unfold kY iA
 have l:a/(b*2^(j+1))=a/b/2^(j+1):=(tO _ _ _).symm
 have m:=vS a b
 have G:=uM a k
 rw[l]
 generalize a/b=q at *
 generalize a%b=r at *
 obtain⟨h,f⟩:∃ h,h=2^j:=⟨_,rfl⟩
 have n:0<h:=by rw[f];exact p2 j
 have o:2^(j+1)=h*2:=by rw[uR,f]
 have t:=vS q h
 have H:=uM q n
 rw[o,← f,← tO]
 generalize q/h=p at *
 generalize q%h=z at *
 have v:=vS p 2
 have I:=uM p (show 0<2 by decide)
 generalize p/2=u at *
 generalize p%2=s at *
 have w:a%(b*(h*2))=b*(h*s+z)+r:=by
  have e:a=b*(h*2)*u+(b*(h*s+z)+r):=by
   rw[←m,← t,← v]
   simp only[uL,uF,tQ]
  have g:b*(h*s+z)+r<b*(h*2):=by
   have x:h*s+z+1≤h*2:=by
    have:h*s≤h*1:=uI _ (by omega)
    omega
   have y:=uI b x
   rw[uL,tW] at y
   omega
  rw[e,rK,vC g]
 rw[w]
 have J:b*z+b≤b*h:=by
  have:=uI b (show z+1≤h by omega)
  rwa [uL,tW] at this
 have i:b*(h*2)=2*(b*h):=by rw[←uF,uG]
 have d:z=0∨b≤b*z:=by
  rcases uH z with e|e
  ·exact Or.inl e
  exact Or.inr (by have:=uI b e;simpa using this)
 rcases (by omega:s=0∨s=1) with rfl|rfl
 ·rw[uN,uN (by omega)]
  rw[tL,tU,i]
  omega
 rw[tW,uL b h z,i]
 have A:(2*(b*h)<2*(b*h+b*z+r))↔(z≠0∨r≠0):=by
  constructor
  ·intro c
   rcases uH z with e|e
   ·subst e;right;intro B;subst B;simp at c
   left;omega
  intro c
  rcases d with e|e
  ·subst e;rcases c with c|c;· exact absurd rfl c
   ·simp;omega
  omega
 have C:(2*(b*h+b*z+r)=2*(b*h))↔(z=0∧r=0):=by
  constructor
  ·intro c
   rcases d with e|e
   ·subst e;refine⟨rfl,?_⟩;rw[tL] at c;omega
   omega
  rintro⟨rfl,rfl⟩;simp
 simp only[A,C]
 by_cases D:z=0<;>by_cases E:r=0<;>by_cases F:u%2=1<;>simp[D,E,F]
def fa (n:Nat) (k:Int):Nat:=n*2^(-k).toNat
def fb (d:Nat) (k:Int):Nat:=d*2^k.toNat
def fq (n d:Nat) (k:Int):Nat:=fa n k/fb d k
theorem Zmr {d:Nat}(h:0<d)(k:Int):0<fb d k:=sG h (p2 _)
theorem Zj4 (n d:Nat)(k:Int)(j:Nat):∃ c,0<c∧fa n k=fa n (k+j)*c∧fb d k*2^j=fb d (k+j)*c:=by
 unfold fa fb
 rcases Int.le_total 0 k with h|h
 ·obtain⟨m,rfl⟩:=uW h
  refine⟨1,by decide,?_,?_⟩
  ·rw[show (-(m:Int)).toNat=0 by omega,show (-((m:Int)+j)).toNat=0 by omega];simp
  rw[show ((m:Int)).toNat=m by omega,show ((m:Int)+j).toNat=m+j by omega,uF,← uT,tW]
 obtain⟨m,b⟩:=uW (show 0 ≤ -k by omega)
 obtain rfl:k = -(m:Int):=by omega
 rcases Nat.le_total j m with a|a
 ·refine⟨2^j,p2 j,?_,?_⟩
  ·rw[show (- -(m:Int)).toNat=m by omega,show (-(-(m:Int)+j)).toNat=m-j by omega,uF,← uT,qF a]
  rw[show (-(m:Int)).toNat=0 by omega,show (-(m:Int)+j).toNat=0 by omega]
 refine⟨2^m,p2 m,?_,?_⟩
 ·rw[show (- -(m:Int)).toNat=m by omega,show (-(-(m:Int)+j)).toNat=0 by omega];simp
 rw[show (-(m:Int)).toNat=0 by omega,show (-(m:Int)+j).toNat=j-m by omega,uF,uF,← uT,← uT,qF a,tU]
theorem ZaC (n d:Nat)(k:Int)(j:Nat):fq n d (k+j)=fq n d k/2^j:=by
 obtain⟨c,a,b,e⟩:=Zj4 n d k j
 unfold fq
 rw[tO,b,e,rC _ _ a]
theorem Zn4 {n d:Nat}(k:Int)(j:Nat)(a:0<d):kY (fa n (k+(j+1:Nat))) (fb d (k+(j+1:Nat)))=iA (fq n d k) j (decide (fa n k%fb d k≠0)):=by
 obtain⟨c,b,e,f⟩:=Zj4 n d k (j+1)
 unfold fq
 rw[←Zla (Zmr a k),f,e,Zk9 b]
def rk0 (n d bits:Nat):Int:=(blen n:Int)-blen d-bits
theorem ZeP {n d bits:Nat}(o:0<n)(i:0<d)(t:0<bits):bits≤blen (fq n d (rk0 n d bits))∧blen (fq n d (rk0 n d bits))≤bits+1:=by
 have f:=Zcx o
 have j:=iF n
 have g:=Zcx i
 have k:=iF d
 obtain⟨p,r⟩:∃ p,blen n=p+1:=⟨blen n-1,by have:=bO o;omega⟩
 obtain⟨q,s⟩:∃ q,blen d=q+1:=⟨blen d-1,by have:=bO i;omega⟩
 obtain⟨b,rfl⟩:∃ b,bits=b+1:=⟨bits-1,by omega⟩
 have c:fb d (rk0 n d (b+1))*2^b≤fa n (rk0 n d (b+1))∧fa n (rk0 n d (b+1))<fb d (rk0 n d (b+1))*2^(b+2):=by
  unfold fa fb rk0
  rw[r] at f j ⊢
  rw[s] at g k ⊢
  rw[tE] at f g
  rcases Int.le_total 0 ((p+1:Nat)-(q+1:Nat)-(b+1:Nat):Int) with h|h
  ·obtain⟨m,l⟩:=uW h
   have a:p=q+m+b+1:=by omega
   subst a
   rw[l,show ((m:Nat):Int).toNat=m by omega,show (-((m:Nat):Int)).toNat=0 by omega]
   simp only[vQ,tW]
   constructor
   ·refine uA ?_ f
    rw[show q+m+b+1=(q+1)+(m+b) by omega,uT,uF,← uT]
    exact uE _ (rM k)
   refine uU j ?_
   rw[show q+m+b+1+1=q+(m+(b+2)) by omega,uT 2 q,uF,← uT 2 m]
   exact uE _ g
  obtain⟨m,l⟩:=uW (show 0 ≤ -((p+1:Nat)-(q+1:Nat)-(b+1:Nat):Int) by omega)
  have a:p+m=q+b+1:=by omega
  rw[l,show ((m:Nat):Int).toNat=m by omega,show ((p+1:Nat)-(q+1:Nat)-(b+1:Nat):Int).toNat=0 by omega]
  simp only[vQ,tW]
  constructor
  ·refine uA ?_ (uE _ f)
   rw[←uT,a,show q+b+1=(q+1)+b by omega,uT]
   exact uE _ (rM k)
  refine uU ((rW (p2 m)).2 j) ?_
  rw[←uT,show p+1+m=q+(b+2) by omega,uT]
  exact uE _ g
 have e:=Zmr i (rk0 n d (b+1))
 constructor
 ·have:2^b≤fq n d (rk0 n d (b+1)):=by
   unfold fq
   rw[rT e,uG];exact c.1
  have:=fB.2 this
  omega
 refine wT.2 ?_
 unfold fq
 rw[vH e,uG];exact c.2
def rndK (n d bits:Nat):Int:=if blen (fq n d (rk0 n d bits))=bits then rk0 n d bits else rk0 n d bits+1
theorem ZaD {n d bits:Nat}(a:0<n)(b:0<d)(c:0<bits):blen (fq n d (rndK n d bits))=bits:=by
 obtain⟨e,f⟩:=ZeP a b c
 unfold rndK
 split
 ·assumption
 have:=ZaC n d (rk0 n d bits) 1
 rw[show (rk0 n d bits+1:Int)=rk0 n d bits+(1:Nat) by simp,this,bS]
 omega
theorem Zgn {n d bits:Nat}(c:0<n)(e:0<d)(f:0<bits){k:Int}(h:blen (fq n d k)=bits):rndK n d bits=k:=by
 have b:=ZaD c e f
 rcases Int.lt_trichotomy (rndK n d bits) k with a|a|a
 ·obtain⟨j,g⟩:=uW (show 0≤k-rndK n d bits by omega)
  have:=ZaC n d (rndK n d bits) j
  rw[show rndK n d bits+(j:Int)=k by omega] at this
  rw[this,bS,b] at h
  omega
 ·exact a
 obtain⟨j,g⟩:=uW (show 0≤rndK n d bits-k by omega)
 have:=ZaC n d k j
 rw[show k+(j:Int)=rndK n d bits by omega] at this
 rw[this,bS,h] at b
 omega
def rndM (n d bits:Nat):Nat:=kY (fa n (rndK n d bits)) (fb d (rndK n d bits))
theorem Zd6 (a b:Nat):a/b≤kY a b∧kY a b≤a/b+1:=by unfold kY;split<;>omega
theorem Zil {n d bits:Nat}(a:0<n)(b:0<d)(c:0<bits):0<rndM n d bits:=by
 have h:=ZaD a b c
 have:=(Zd6 (fa n (rndK n d bits)) (fb d (rndK n d bits))).1
 have f:0<fq n d (rndK n d bits):=by
  rcases uH (fq n d (rndK n d bits)) with e|e
  ·rw[e,fG] at h;omega
  exact e
 unfold rndM
 unfold fq at f
 omega
theorem Zdt {n d bits:Nat}(c:0<n)(a:0<d)(e:0<bits)(k:Int)(j:Nat)(h:blen (fq n d k)=bits+(j+1)) :
 rndK n d bits=k+(j+1:Nat)∧rndM n d bits=iA (fq n d k) j (decide (fa n k%fb d k≠0)):=by
 have b:rndK n d bits=k+(j+1:Nat):=Zgn c a e (by rw[ZaC,bS,h];omega)
 refine⟨b,?_⟩
 unfold rndM
 rw[b,Zn4 k j a]
theorem Zpk {n bits:Nat}(a:0<n)(c:0<bits)(h:blen n≤bits):rndK n 1 bits=(blen n:Int)-bits∧rndM n 1 bits=n*2^(bits-blen n):=by
 have b:rndK n 1 bits=(blen n:Int)-bits:=Zgn a (by decide) c (by
  unfold fq fa fb
  rw[show (-((blen n:Int)-bits)).toNat=bits-blen n by omega,show ((blen n:Int)-bits).toNat=0 by omega]
  simp only[vQ,tW,sL]
  rw[ZaB a];omega)
 refine⟨b,?_⟩
 unfold rndM
 rw[b]
 unfold fa fb
 rw[show (-((blen n:Int)-bits)).toNat=bits-blen n by omega,show ((blen n:Int)-bits).toNat=0 by omega]
 simp only[vQ,tW,Zn3]
theorem Zpl {a s r bits:Nat}(g:0<bits)(ha:bits+1≤blen a)(h:0<r)(c:r<2^s) :
 rndK (a*2^s+r) 1 bits=(s:Int)+(blen a:Int)-bits∧rndM (a*2^s+r) 1 bits=iA a (blen a-bits-1) true:=by
 have i:0<a*2^s+r:=by omega
 obtain⟨j,b⟩:∃ j,blen a=bits+(j+1):=⟨blen a-bits-1,by omega⟩
 have e:fq (a*2^s+r) 1 (s:Int)=a:=by
  unfold fq fa fb
  rw[show (-(s:Int)).toNat=0 by omega,show ((s:Int)).toNat=s by omega]
  simp only[vQ,tW,sZ]
  rw[uG,sB (p2 s),vZ c,vV]
 have k:fa (a*2^s+r) (s:Int)%fb 1 (s:Int)=r:=by
  unfold fa fb
  rw[show (-(s:Int)).toNat=0 by omega,show ((s:Int)).toNat=s by omega]
  simp only[vQ,tW,sZ]
  rw[uG,rK,vC c]
 obtain⟨l,f⟩:=Zdt (n:=a*2^s+r) i (d:=1) (by decide) g (s:Int) j (by rw[e];exact b)
 rw[e,k] at f
 refine⟨by rw[l,b];omega,?_⟩
 rw[f,b,show bits+(j+1)-bits-1=j by omega,show decide (r≠0)=true from uQ (by omega)]
def tzn (n:Nat):Nat:=if h:n=0∨n%2=1 then 0 else tzn (n/2)+1
termination_by n
decreasing_by omega
theorem Zb7 {n:Nat}(h:n%2=1):tzn n=0:=by rw[tzn,dif_pos (Or.inr h)]
theorem Zj5 {n:Nat}(h:0<n):tzn (n*2)=tzn n+1:=by
 rw[tzn,dif_neg (by omega),rS _ (by decide)]
theorem Zb8 {n:Nat}(h:0<n):∀ j,tzn (n*2^j)=tzn n+j
 | 0=>by simp
 | j+1=>by rw[uR,← uF,Zj5 (sG h (p2 j)),Zb8 h j];omega
theorem Zms:∀ n:Nat,0<n→∃ o,o%2=1∧n=o*2^tzn n:=by
 intro n
 induction n using Nat.strongRecOn with
 | ind n ih =>
  intro h
  by_cases a:n%2=1
  ·exact⟨n,a,by rw[Zb7 a];simp⟩
  obtain⟨m,rfl⟩:∃ m,n=m*2:=⟨n/2,by omega⟩
  obtain⟨o,b,c⟩:=ih m (by omega) (by omega)
  exact⟨o,b,by rw[Zj5 (by omega),uR,← uF,← c]⟩
theorem ZfH {o:Nat}(h:o%2=1)(j:Nat):tzn (o*2^j)=j:=by rw[Zb8 (by omega),Zb7 h];omega
def oddM (n:Nat):Nat:=n/2^tzn n
theorem Zgo {o:Nat}(h:o%2=1)(j:Nat):oddM (o*2^j)=o:=by unfold oddM;rw[ZfH h,rS _ (p2 j)]
theorem fO {n:Nat}(h:0<n):oddM n%2=1∧n=oddM n*2^tzn n:=by
 obtain⟨o,a,b⟩:=Zms n h
 have:oddM n=o:=by rw[b];exact Zgo a _
 rw[this];exact⟨a,b⟩
theorem Zn5 {n:Nat}(h:0<n)(j:Nat):oddM (n*2^j)=oddM n:=by
 obtain⟨a,b⟩:=fO h
 have:n*2^j=oddM n*2^(tzn n+j):=by rw[uT,← uF,← b]
 rw[this,Zgo a]
theorem Zmt {n:Nat}(h:0<n)(j:Nat):tzn n<j↔n%2^j≠0:=by
 obtain⟨i,f⟩:=fO h
 constructor
 ·intro g e
  obtain⟨d,b⟩:∃ d,j=tzn n+(d+1):=⟨j-tzn n-1,by omega⟩
  have a:=Nat.dvd_of_mod_eq_zero e
  rw[b,uT,uG] at a
  rw[f] at a
  rw[ZfH i] at a
  have:=Nat.dvd_of_mul_dvd_mul_right (p2 _) a
  rw[uR] at this
  have:2∣oddM n:=Nat.dvd_trans ⟨_,uG _ _⟩ this
  omega
 intro c
 refine rO fun g=>c ?_
 obtain⟨d,b⟩:=qW g
 rw[f,b,uT,← uF,uG (oddM n),uF,Nat.mul_mod_right]
end Go.Proofs.YtklpdkpcocnglaaGreatDoor
namespace Go.Proofs.YtklpdkpcocnglaaGreatDoor
def isq (n:Nat):Nat:=if h:n=0 then 0 else let r:=2*isq (n/4);if (r+1)*(r+1)≤n then r+1 else r
termination_by n
decreasing_by omega
theorem eI:∀ n,isq n*isq n≤n∧n<(isq n+1)*(isq n+1):=by
 intro n
 induction n using Nat.strongRecOn with
 | ind n ih =>
  by_cases h:n=0
  ·subst h;rw[isq];simp
  obtain⟨d,e⟩:=ih (n/4) (by omega)
  rw[isq,dif_neg h]
  generalize isq (n/4)=r at *
  simp only
  have b:2*r*(2*r)=4*(r*r):=by rw[rI]
  have c:(2*r+1+1)*(2*r+1+1)=4*((r+1)*(r+1)):=by
   rw[show 2*r+1+1=2*(r+1) by omega,rI]
  split
  ·rename_i a
   refine⟨a,?_⟩
   rw[c];omega
  rename_i a
  refine⟨?_,by omega⟩
  rw[b];omega
theorem Zim {n r:Nat}(a:r*r≤n)(b:n<(r+1)*(r+1)):isq n=r:=by
 obtain⟨c,d⟩:=eI n
 rcases qK (isq n) r with h|h|h
 ·have:=tJ (show isq n+1≤r by omega) (show isq n+1≤r by omega);omega
 ·exact h
 have:=tJ (show r+1≤isq n by omega) (show r+1≤isq n by omega);omega
theorem pow4 (j:Nat):2^(2*j)=2^j*2^j:=by rw[←uT];congr 1;omega
theorem Zj6 (n j:Nat):isq (n/2^(2*j))=isq n/2^j:=by
 obtain⟨a,b⟩:=eI n
 generalize isq n=r at *
 have c:=vS r (2^j)
 have d:=uM r (p2 j)
 refine Zim ?_ ?_
 ·rw[rT (p2 _),pow4,rI]
  have:r/2^j*2^j≤r:=rY _ _
  exact uA (tJ this this) a
 rw[vH (p2 _),pow4,rI]
 have:r+1≤(r/2^j+1)*2^j:=by rw[vF,sZ,uG];omega
 exact uU b (tJ this this)
theorem Zn6 {n b:Nat}(d:2*b+2≤blen n)(c:blen n≤2*b+3):b+1≤blen (isq n)∧blen (isq n)≤b+2:=by
 obtain⟨e,f⟩:=eI n
 have l:=fB.1 (show 2*b+1<blen n by omega)
 have u:=wT.1 c
 generalize isq n=r at *
 have g:b<blen r:=by
  refine rO fun h=>?_
  have:=wT.1 h
  have a:=tJ (show r+1≤2^b by omega) (show r+1≤2^b by omega)
  rw[←pow4] at a
  have:2^(2*b)≤2^(2*b+1):=uY (by decide) (by omega)
  omega
 refine⟨by omega,wT.2 (rO fun h=>?_)⟩
 have a:=tJ h h
 rw[←pow4] at a
 have:2^(2*b+3)≤2^(2*(b+2)):=uY (by decide) (by omega)
 omega
theorem Zmu (q j:Nat)(m:Bool):iA q j m=iA (q/2^j) 0 (decide (q%2^j≠0∨m=true)):=by
 unfold iA
 simp only[vQ,sL,Nat.mod_one,tU,qV,ne_eq,not_true_eq_false,false_or,vO]
 rw[tO,← uR]
 have e:(¬ q%2^j=0∨q/2^(j+1)%2=1∨m=true)↔(q/2^(j+1)%2=1∨¬ q%2^j=0∨m=true):=by
  constructor
  ·rintro (h|h|h);exact Or.inr (Or.inl h);exact Or.inl h;exact Or.inr (Or.inr h)
  rintro (h|h|h);exact Or.inr (Or.inl h);exact Or.inl h;exact Or.inr (Or.inr h)
 simp only[qS,e]
def jB (M:Nat) (s:Int):Bool:=decide (s<0∨isq (fq M 1 (-s))*isq (fq M 1 (-s))≠fq M 1 (-s))
theorem ZaY (M:Nat)(s:Nat):fq M 1 (-(s:Int))=M*2^s:=by
 unfold fq fa fb
 rw[show (- -(s:Int)).toNat=s by omega,show (-(s:Int)).toNat=0 by omega];simp
theorem Zlb {M:Nat}(i:M%2=1)(s:Int)(j:Nat):jB M (s-2*j)=decide (isq (fq M 1 (-s))%2^j≠0∨jB M s=true):=by
 unfold jB
 have k:fq M 1 (-(s-2*j))=fq M 1 (-s)/2^(2*j):=by rw[←ZaC];congr 1;omega
 rw[k,Zj6]
 simp only[vO]
 rw[rP]
 constructor
 ·intro h
  refine sA fun a=>?_
  have l:isq (fq M 1 (-s))%2^j=0:=sA fun h=>a (Or.inl h)
  have d:0≤s:=sA fun h=>a (Or.inr (Or.inl (by omega)))
  have b:isq (fq M 1 (-s))*isq (fq M 1 (-s))=fq M 1 (-s):=sA fun h=>a (Or.inr (Or.inr h))
  obtain⟨t,rfl⟩:=uW d
  rw[ZaY] at *
  generalize isq (M*2^t)=r at *
  obtain⟨q,rfl⟩:=Nat.dvd_of_mod_eq_zero l
  rw[rZ _ (p2 j)] at h
  have e:M*2^t=(q*q)*2^(2*j):=by rw[←b,pow4];simp only[uF,uG,vW]
  rcases h with h|h
  ·have c:0<q:=by
    rcases uH q with f|f
    ·subst f
     have:0<M*2^t:=sG (by omega) (p2 t)
     simp at b;omega
    exact f
   have m:=ZfH i t
   rw[e,Zb8 (sG c c)] at m
   omega
  rw[e,rS _ (p2 _)] at h
  exact h rfl
 intro h
 refine sA fun a=>?_
 have d:0≤s-2*j:=sA fun h=>a (Or.inl (by omega))
 have b:isq (fq M 1 (-s))/2^j*(isq (fq M 1 (-s))/2^j)=fq M 1 (-s)/2^(2*j):=sA fun h=>a (Or.inr h)
 obtain⟨t,p⟩:=uW d
 obtain rfl:s=((t+2*j:Nat):Int):=by omega
 rw[ZaY] at *
 have n:M*2^(t+2*j)/2^(2*j)=M*2^t:=by rw[uT,← uF,rS _ (p2 _)]
 rw[n] at b
 obtain⟨q,c⟩:=yE (isq (M*2^(t+2*j))/2^j)
 rw[c] at b
 have g:M*2^(t+2*j)=q*2^j*(q*2^j):=by
  rw[rI,b,← pow4,uT,uF]
 have o:isq (M*2^(t+2*j))=q*2^j:=Zim (by rw[←g];exact uK _) (by
  rw[g];have:=qQ (pB (q*2^j)) (pB (q*2^j));exact this)
 rw[o] at h
 rcases h with h|h|h
 ·exact h (Nat.mul_mod_left _ _)
 ·omega
 exact h g.symm
def sqK (M:Nat) (E:Int) (bits:Nat):Int:=((blen M:Int)+E-1)/2-((bits:Int)-1)
def sqM (M:Nat) (E:Int) (bits:Nat):Nat:=iA (isq (fq M 1 (-(E-2*sqK M E bits+2)))) 0 (jB M (E-2*sqK M E bits+2))
theorem Zbh {M:Nat}(h:0<M)(s:Int)(c:0≤(blen M:Int)+s):(blen (fq M 1 (-s)):Int)=blen M+s:=by
 rcases Int.le_total 0 s with a|a
 ·obtain⟨t,rfl⟩:=uW a
  rw[ZaY,ZaB h];omega
 obtain⟨t,b⟩:=uW (show 0 ≤ -s by omega)
 have:=ZaC M 1 0 t
 rw[Int.zero_add] at this
 rw[b,this,bS]
 have e:fq M 1 0=M:=by unfold fq fa fb;simp
 rw[e];omega
theorem Zn7 {M:Nat}(k:M%2=1)(E:Int){bits:Nat}(u:0<bits)(s:Int)(v:(E-s)%2=0)(w:(2*bits+2:Int)≤blen M+s)(x:(blen M:Int)+s≤2*bits+3) :
 let r:=isq (fq M 1 (-s));let j:=blen r-bits-1
 blen r=bits+(j+1)∧(E-s)/2+(j+1:Nat)=sqK M E bits∧sqM M E bits=iA r j (jB M s):=by
 intro r j
 have d:0<M:=by omega
 have e:=Zbh d s (by omega)
 obtain⟨y,z⟩:=Zn6 (b:=bits) (n:=fq M 1 (-s)) (by omega) (by omega)
 have l:blen r=bits+(j+1):=by show blen (isq (fq M 1 (-s)))=bits+(blen (isq (fq M 1 (-s)))-bits-1+1);omega
 have f:j≤1:=by show blen (isq (fq M 1 (-s)))-bits-1≤1;omega
 -- the exponent
 obtain⟨g,h⟩:=eI (fq M 1 (-s))
 have m:isq (fq M 1 (-s))=r:=rfl
 rw[m] at g h
 have a:=fB.1 (show bits+j<blen r by omega)
 have c:=wT.1 (show blen r≤bits+j+1 by omega)
 have o:2^(2*(bits+j))≤fq M 1 (-s):=by rw[pow4];exact uA (tJ a a) g
 have p:fq M 1 (-s)<2^(2*(bits+j+1)):=by rw[pow4];exact uU h (tJ c c)
 have A:=fB.2 o
 have B:=wT.2 p
 have i:(E-s)/2+(j+1:Nat)=sqK M E bits:=by unfold sqK;omega
 refine⟨l,i,?_⟩
 unfold sqM
 have q:E-2*sqK M E bits+2=s-2*(j:Int):=by rw[←i];omega
 have t:fq M 1 (-(s-2*(j:Int)))=fq M 1 (-s)/2^(2*j):=by rw[←ZaC];congr 1;omega
 rw[q,t,Zj6,Zmu r j,Zlb k]
end Go.Proofs.YtklpdkpcocnglaaGreatDoor
namespace Go.Proofs.YtklpdkpcocnglaaGreatDoor
structure FR where
 s:Bool
 m:Nat
 e:Int
 err:Int
def Zd7:FR:=⟨false,0,0,0⟩
def errR (k:Int):FR:=⟨false,0,0,k⟩
def okE (e:Int):Prop := -1048576≤e∧e≤1048576
instance (e:Int):Decidable (okE e):=inferInstanceAs (Decidable (_∧_))
def wV (s:Bool) (n:Nat) (e:Int):FR:=if n=0 then Zd7 else if okE (e+tzn n) then ⟨s,oddM n,e+tzn n,0⟩ else errR 2
theorem Zmv {n:Nat}(s:Bool)(h:0<n)(j:Nat)(e:Int):wV s (n*2^j) e=wV s n (e+j):=by
 unfold wV
 have a:=sG h (p2 j)
 rw[uN (show ¬ n*2^j=0 by omega),uN (show ¬ n=0 by omega),Zb8 h,Zn5 h]
 have:e+((tzn n+j:Nat):Int)=e+j+tzn n:=by omega
 rw[this]
def lI (s:Bool) (n:Nat) (e:Int) (bits:Nat) (more:Bool):FR :=
 if blen n≤bits then wV s n e else wV s (iA n (blen n-bits-1) more) (e+(blen n-bits:Nat))
def xK (s:Bool) (n d:Nat) (e:Int) (bits:Nat):FR:=if n=0 then Zd7 else wV s (rndM n d bits) (e+rndK n d bits)
theorem Zet (s:Bool)(e:Int)(bits:Nat)(more:Bool):lI s 0 e bits more=Zd7:=by
 unfold lI;rw[uP (by rw[fG];omega)];rfl
theorem jO (s:Bool)(d:Nat)(e:Int)(bits:Nat):xK s 0 d e bits=Zd7:=rfl
theorem jP (s:Bool)(n:Nat)(e:Int){bits:Nat}(f:0<bits):lI s n e bits false=xK s n 1 e bits:=by
 rcases uH n with rfl|b
 ·rw[Zet,jO]
 unfold lI xK
 rw[uN (show ¬ n=0 by omega)]
 split
 ·rename_i h
  obtain⟨c,a⟩:=Zpk b f h
  rw[c,a,Zmv s b]
  congr 1;omega
 rename_i h
 obtain⟨j,g⟩:∃ j,blen n=bits+(j+1):=⟨blen n-bits-1,by omega⟩
 have i:fq n 1 0=n:=by unfold fq fa fb;simp
 have k:fa n 0%fb 1 0=0:=by unfold fb;simp[Nat.mod_one]
 obtain⟨c,a⟩:=Zdt b (d:=1) (by decide) f 0 j (by rw[i];exact g)
 rw[i,k] at a
 rw[c,a,g,show bits+(j+1)-bits-1=j by omega,show bits+(j+1)-bits=j+1 by omega,Int.zero_add]
 rfl
theorem Zjx (s:Bool){n d:Nat}(e:Int){bits:Nat}(a:0<n)(b:0<d)(c:0<bits) :
 lI s (fq n d (rk0 n d bits-1)) (e+(rk0 n d bits-1)) bits (decide (fa n (rk0 n d bits-1)%fb d (rk0 n d bits-1)≠0))=xK s n d e bits:=by
 obtain⟨h,i⟩:=ZeP a b c
 have f:=ZaC n d (rk0 n d bits-1) 1
 rw[show rk0 n d bits-1+(1:Nat)=rk0 n d bits by omega] at f
 rw[f,bS] at h i
 generalize o:rk0 n d bits-1=k at *
 obtain⟨j,g⟩:∃ j,blen (fq n d k)=bits+(j+1):=⟨blen (fq n d k)-bits-1,by omega⟩
 obtain⟨l,m⟩:=Zdt a b c k j g
 unfold lI xK
 rw[uN (by omega),uN (by omega),l,m,g,show bits+(j+1)-bits-1=j by omega,show bits+(j+1)-bits=j+1 by omega,Int.add_assoc]
def addR (sx:Bool) (xm:Nat) (xe:Int) (sy:Bool) (ym:Nat) (ye:Int) (bits:Nat):FR :=
 xK (decide (sg sx (xm*2^(xe-min xe ye).toNat)+sg sy (ym*2^(ye-min xe ye).toNat)<0)) (sg sx (xm*2^(xe-min xe ye).toNat)+sg sy (ym*2^(ye-min xe ye).toNat)).natAbs 1 (min xe ye) bits
theorem Zmw (sx:Bool)(b:Nat)(xe:Int)(c:Bool)(ym:Nat)(a:Int)(bits:Nat):addR sx b xe c ym a bits=addR c ym a sx b xe bits:=by
 unfold addR;rw[Int.min_comm a xe,Int.add_comm]
theorem ZgS {a s r:Nat}(c:Bool)(e:Int){bits:Nat}(d:0<bits)(ha:bits+1≤blen a)(b:0<r)(f:r<2^s) :
 xK c (a*2^s+r) 1 e bits=wV c (iA a (blen a-bits-1) true) (e+s+(blen a:Int)-bits):=by
 obtain⟨g,h⟩:=Zpl d ha b f
 unfold xK
 rw[uN (by omega),g,h]
 congr 1;omega
theorem Zmx {s t:Bool}{a b:Nat}(h:b<a):decide (sg s a+sg t b<0)=s∧(sg s a+sg t b).natAbs=(if s=t then a+b else a-b):=by
 cases s<;>cases t<;>simp[sg]<;>omega
theorem Zlc (sx:Bool){a:Nat}(xe:Int)(b:Bool){ym:Nat}(c:Int){bits:Nat}(k:0<bits)(m:0<a)(l:0<ym){f:Int}(C:f≤xe)(D:f≤blen a+xe-bits-2)(F:blen ym+c≤f) :
 addR sx a xe b ym c bits=addR sx a xe b 1 (f-1) bits:=by
 have n:=bO l
 have d:∀ (s r:Nat) (E:Int),E=f-s→0<r→r<2^s→xK (decide (sg sx (a*2^(xe-E).toNat)+sg b r<0)) (sg sx (a*2^(xe-E).toNat)+sg b r).natAbs 1 E bits =
  wV sx (iA (if sx=b then a*2^(xe-f).toNat else a*2^(xe-f).toNat-1) (blen (if sx=b then a*2^(xe-f).toNat else a*2^(xe-f).toNat-1)-bits-1) true) (f+(blen (if sx=b then a*2^(xe-f).toNat else a*2^(xe-f).toNat-1):Int)-bits):=by
  intro s r E Q h o
  have i:a*2^(xe-E).toNat=a*2^(xe-f).toNat*2^s:=by
   rw[uF,← uT];congr 2;omega
  have G:bits+2≤blen (a*2^(xe-f).toNat):=by rw[ZaB m];omega
  rw[i]
  generalize a*2^(xe-f).toNat=X at *
  have p:=fB.1 (show bits+1<blen X by omega)
  have H:2^bits*2=2^(bits+1):=(uR ..).symm
  have q:=p2 bits
  have u:=p2 s
  have j:1≤X:=by omega
  have v:2^s≤X*2^s:=by have:=uE (2^s) j;omega
  obtain⟨w,x⟩:=Zmx (s:=sx) (t:=b) (show r<X*2^s by omega)
  rw[w,x]
  by_cases e:sx=b
  ·rw[uP e,uP e,ZgS sx E k (by omega) h o]
   congr 1;omega
  rw[uN e,uN e]
  have y:X*2^s-r=(X-1)*2^s+(2^s-r):=by rw[Nat.sub_mul,sZ];omega
  have g:bits+1≤blen (X-1):=fB.2 (by omega)
  rw[y,ZgS sx E k g (by omega) (by omega)]
  congr 1;omega
 have z:c<f:=by omega
 obtain⟨s,e⟩:=uW (show 0≤f-c by omega)
 have A:=d s ym c (by omega) l (uU (iF ym) (uY (by decide) (by omega)))
 have B:=d 1 1 (f-1) (by omega) (by decide) (by decide)
 unfold addR
 rw[show min xe c=c by omega,show min xe (f-1)=f-1 by omega,show (c-c).toNat=0 by omega,show (f-1-(f-1)).toNat=0 by omega]
 simp only[vQ,tW]
 rw[A,B]
def fH (m:Nat) (e:Int) (bits:Nat):FR:=wV false (sqM m e bits) (sqK m e bits)
theorem Zan {m:Nat}(a:m%2=1)(e:Int){bits:Nat}(b:0<bits)(s:Int)(c:(e-s)%2=0)(d:(2*bits+2:Int)≤blen m+s)(f:(blen m:Int)+s≤2*bits+3) :
 lI false (isq (fq m 1 (-s))) ((e-s)/2) bits (jB m s)=fH m e bits:=by
 obtain⟨i,g,h⟩:=Zn7 a e b s c d f
 unfold lI fH
 rw[uN (by omega),h,← g]
 congr 1;omega
end Go.Proofs.YtklpdkpcocnglaaGreatDoor
namespace Go.Proofs.YtklpdkpcocnglaaGreatDoor
open Go.RowKit
theorem ZgT {xs:List Nat}{i x:Nat}(b:Dig W32 xs)(c:i/32<xs.length)(d:xs[i/32]?.getD 0=x):x/2^(i%32)%2=val W32 xs/2^i%2:=by
 have a:=ZgO xs (i/32) (i%32) b (by omega)
 rw[show 32*(i/32)+i%32=i by omega] at a
 rw[←a,xS _ c,d]
 have g:i%32<32:=uM _ (by decide)
 generalize i%32=t at *
 generalize val W32 (xs.drop (i/32+1))=r
 have e:W32*r=2^t*(2^(32-t)*r):=by rw[←uF,← uT,show t+(32-t)=32 by omega,zP]
 have f:2^(32-t)=2*2^(31-t):=by rw[show 32-t=(31-t)+1 by omega,uR,uG]
 rw[e,Nat.add_mul_div_left _ _ (p2 t),f,uF,tZ]
theorem Zmy {n k:Nat}(a:0<n)(b:k≤tzn n):n/2^k=oddM n*2^(tzn n-k):=by
 obtain⟨d,c⟩:=fO a
 have e:n=oddM n*2^(tzn n-k)*2^k:=by rw[uF,← uT,qF b];exact c
 have:=vG (· / 2^k) e
 simp only[rS _ (p2 k)] at this
 exact this
theorem Zpm {n k:Nat}(a:0<n)(b:k≤tzn n)(h:n/2^k%2=0):k+1≤tzn n:=by
 rcases vJ k (tzn n) with c|c
 ·omega
 have:=fO a
 rw[Zmy a b,show tzn n-k=0 by omega,vQ,tW] at h
 omega
theorem Zpn {n k:Nat}(a:0<n)(b:k≤tzn n)(h:n/2^k%2≠0):k=tzn n:=by
 rcases vJ k (tzn n) with c|c
 ·rw[Zmy a b,show tzn n-k=(tzn n-k-1)+1 by omega,uR,← uF] at h
  omega
 omega
theorem Zmz {xs:List Nat}(a:Dig W32 xs)(b:0<val W32 xs){k:Nat}(c:k≤tzn (val W32 xs)):k/32<xs.length:=by
 obtain⟨d,e⟩:=fO b
 have f:=xV a
 refine rO fun g=>?_
 have h:2^(32*xs.length)≤2^tzn (val W32 xs):=uY (by decide) (by omega)
 have i:1*2^tzn (val W32 xs)≤oddM (val W32 xs)*2^tzn (val W32 xs):=uE _ (by omega)
 have j:W32^xs.length=2^(32*xs.length):=by rw[show W32=2^32 by rw[zP],← sS]
 omega
/-! ### the search for the exponent -/
theorem Zj7 (n d bits:Nat):rndK n d bits=rk0 n d bits∨rndK n d bits=rk0 n d bits+1:=by
 unfold rndK;split
 ·exact Or.inl rfl
 exact Or.inr rfl
theorem Zj8 {n d bits:Nat}(b:0<n)(c:0<d)(f:0<bits){k:Int}(g:k=rk0 n d bits∨k=rndK n d bits)(h:bits<blen (fq n d k)):k+1=rndK n d bits∧(rndK n d bits-k).toNat=1:=by
 have i:=ZaD b c f
 have a:k≠rndK n d bits:=fun e=>by rw[e,i] at h;omega
 have j:k=rk0 n d bits:=g.resolve_right a
 rcases Zj7 n d bits with e|e
 ·exact absurd (j.trans e.symm) a
 omega
theorem Zj9 {n d bits:Nat}(a:0<n)(b:0<d)(c:0<bits){k:Int}(f:k=rk0 n d bits∨k=rndK n d bits)(h:¬ bits<blen (fq n d k)):k=rndK n d bits:=by
 rcases f with e|e
 ·have g:=(ZeP a b c).1
  unfold rndK
  rw[e] at h
  rw[uP (by omega)];exact e
 exact e
theorem Zpo {n d bits:Nat}{k:Int}(a:k=rk0 n d bits∨k=rndK n d bits):(blen n:Int)-blen d-bits≤k∧k≤(blen n:Int)-blen d-bits+1:=by
 have h:=Zj7 n d bits
 unfold rk0 at *
 omega
theorem Zqh {n:Nat}{k:Int}(h:0≤k):fa n k=n:=by unfold fa;rw[show (-k).toNat=0 by omega];simp
theorem Zqi {d:Nat}{k:Int}(h:¬ 0≤k):fb d k=d:=by unfold fb;rw[show k.toNat=0 by omega];simp
/-! ### the nearest integer -/
theorem Zka {a b:Nat}(h:0<((2*(a%b):Nat):Int)-(b:Int)∨((2*(a%b):Nat):Int)-(b:Int)=0∧a/b%2=1):kY a b=a/b+1:=uP (by omega)
theorem Zgp {a b:Nat}(h:¬ (0<((2*(a%b):Nat):Int)-(b:Int)∨((2*(a%b):Nat):Int)-(b:Int)=0∧a/b%2=1)):kY a b=a/b:=uN (by omega)
/-! ### roots -/
theorem ZeQ {r:Nat}{m:Bool}(a:r%2=1)(b:r/2%2=1∨m=true):iA r 0 m=r/2+1:=by
 unfold iA
 rw[uP ⟨by rw[vQ,sL];exact a,Or.inr (by rw[tU,qV];exact b)⟩]
theorem Zcy {r:Nat}{m:Bool}(h:¬ (r%2=1∧(r/2%2=1∨m=true))):iA r 0 m=r/2:=by
 unfold iA
 have c:¬ (r/2^0%2=1∧(r%2^0≠0∨r/2^(0+1)%2=1∨m=true)):=by
  rintro⟨a,b⟩
  rw[vQ,sL] at a
  rw[vQ,Nat.mod_one,tU,qV] at b
  exact h ⟨a,b.resolve_left (fun h=>h rfl)⟩
 rw[uN c]
def RowD (w:World) (v:Value) (m:Nat):Prop:=∃ xs,fQ w v xs∧Dig W32 xs∧val W32 xs=m
theorem RowD.nrb {S:Nat→Prop}{w w':World}{v:Value}{m:Nat}(h:RowD w v m)(a:∀ i,S i→NRB w i)(b:Fr S w w'):RowD w' v m:=by
 obtain⟨c,d,e⟩:=h
 exact⟨c,d.nrb a b,e⟩
theorem Zin {w w':World}{e:Ending}{m:Nat}(h:dX w m e w'):kF xJ (fun x w=>zS w (xJ x) m) w e w':=by
 obtain⟨v,rfl,b,Q⟩:=h
 obtain⟨A,a,c,rfl,h⟩:=b
 exact⟨(A,a.length,c),rfl,Q,boxn Q (fun S d f g=>zS.nrb (u:=.slice A a.length c) ⟨A,a,c,rfl,h⟩ f g)⟩
theorem ZmA {A:Option Addr}{l c m s:Nat}(w:World)(h:zS w (.slice A l c) m)(x:l≤17592186044416)(a:s≤31) :
 yA 72 #[.slice A l c,.int .u64 (s:Int)] w (kF (fun b:Nat=>.slice (some ⟨b,0,none⟩) (l+1) (l+1)) (fun b w=>RowD w (.slice (some ⟨b,0,none⟩) (l+1) (l+1)) (m*2^s)) w):=by
 obtain⟨d,f,g,_,i⟩:=h.row
 obtain⟨j,y,k⟩:=f.shows
 refine (Zdr A d l c s w j k (by omega) g a).mono ?_
 rintro e w' ⟨n,rfl,o,p,q,r,Q⟩
 refine⟨w.heap.size,rfl,Q,boxn Q (fun S t u v=>RowD.nrb ⟨n,?_,q,by rw[r,i]⟩ u v)⟩
 have:=p.row (c:=l+1) (by omega)
 rw[o] at this;exact this
theorem ZeR {P:Program}{o:Oper}{ρ:Operand→Value}{w:World}{x y:Operand}{t e:TypeId}(u:o.op=.call { callee:=.builtin .append,args:=#[x,y],argTypes:=#[t,t] })(B:P.underlying t=some (.slice e))(a:(P.info? e).map (fun i=>(i.zero,i.size,i.bytes))=some (some (.int .u32 0),1,4)){b:Addr}{A:Option Addr}{n k cap c m:Nat}(C:ρ x=.slice (some b) n cap)(D:ρ y=.slice A k c)(E:fQ w (.slice (some b) n cap) (List.replicate n 0))(F:RowD w (.slice A k c) m)(G:cap<n+k)(h:n+k≤35184372088832) :
 Does P o ρ w (DoR (fun z:Option Addr×Nat=>.slice z.1 (n+k) z.2) (fun z w=>RowD w (.slice z.1 (n+k) z.2) (W32^n*m)) w):=by
 obtain⟨r,s,H,I⟩:=F
 have g:∀ {w:World} {z:ShN},z.2.1=n+k→fQ w (xJ z) (List.replicate n 0 ++ r)→RowD w (.slice z.1 (n+k) z.2.2) (W32^n*m):=fun {w z} e hR =>
  ⟨_,by rw[←e];exact hR,(Dig.replicate zU n).append H,by rw[kN,kS,rU,I,tU]⟩
 have len:∀ {w:World} {z:ShN},fQ w (xJ z) (List.replicate n 0 ++ r)→z.2.1=n+k:=fun {w z} hR=>by
  have J:=hR.shows.1
  have M:=s.shows.1
  simp at J;omega
 rcases Zhn u B a C D E s G h with ⟨v,w',l,z,rfl,Q,j⟩|⟨f,args,K,l,L⟩
 ·have e:=len (j (fun _=>False) (fun _ f=>f.elim) w' (Fr.refl _ _))
  exact Or.inl ⟨_,w',l,(z.1,z.2.2),by simp[xJ,e],Q,fun S p d q=>g e (j S p d q)⟩
 exact Or.inr ⟨f,args,K,l,L.mono (fun N w' h=>by
  obtain⟨v,rfl,z,rfl,Q,j⟩:=h
  have e:=len (j (fun _=>False) (fun _ f=>f.elim) w' (Fr.refl _ _))
  exact⟨_,rfl,(z.1,z.2.2),by simp[xJ,e],Q,fun S p d q=>g e (j S p d q)⟩)⟩
theorem ZgU {A:Option Addr}{l c m:Nat}(w:World)(h:RowD w (.slice A l c) m)(k:l≤70368744177664):yA 71 #[.slice A l c] w (dX w m):=by
 obtain⟨a,f,g,i⟩:=h
 obtain⟨j,b,d⟩:=f.shows
 refine (lT A a l c w j d b (by omega)).mono ?_
 rintro e w' ⟨rfl,rfl⟩
 exact⟨_,rfl,⟨A,wF a,c,by rw[wJ],by rw[wJ];exact uA (gF _ _) b,d.take _,iI g,iQ a,by rw[lE,i]⟩,Fr.refl _ _⟩
theorem Zn8 {w:World}{s:Bool}{A:Option Addr}{l c k:Nat}{z:Int}(h:zI w (.agg #[.bool s,.slice A l c]) z):sg s (W32^(k/32)*(z.natAbs*2^(k%32)))=z*2^k:=by
 obtain⟨_,h2,_⟩:=h.opn
 have e:W32^(k/32)*(z.natAbs*2^(k%32))=z.natAbs*2^k:=by
  rw[zP,show (4294967296:Nat)=2^32 from rfl,← sS,vW,← uT,vS]
 rw[e]
 have b:(z.natAbs:Int)=z∧s=false∨(z.natAbs:Int) = -z∧s=true:=by
  cases s<;>simp[sg] at h2 ⊢<;>omega
 rcases b with ⟨a,rfl⟩|⟨a,rfl⟩
 ·simp only[sg,pI,rG,tD,a,vT];rfl
 simp only[sg,if_true,tD,a,vT];rw[Int.neg_mul,Int.neg_neg];rfl
theorem ZqV {k:Nat}(a:k≤1099511627776):IntKind.i64.wrap ((k:Int).tdiv 32)=((k/32:Nat):Int):=by
 rw[tF (by omega),IntWalk.i64_in _ (by omega)];omega
theorem ZqW {k:Nat}:(k:Int).tmod 32=((k%32:Nat):Int):=by
 rw[tN (by omega)];omega
theorem Zqj {k:Nat}:IntKind.u64.wrap ((k%32:Nat):Int)=((k%32:Nat):Int):=by
 rw[IntKind.wrap_u64];omega
theorem gM (a:Value)(x:Int)(k:Nat)(w:World)(ha:zI w a x)(D:xT x)(E:k≤1099511627776) :
 yA 25 #[a,.int .i64 (k:Int)] w (wN w (x*2^k)):=by
 obtain⟨f,g,e,i,rfl⟩:=ha.shp
 have F:e≤17592186044416:=by obtain⟨M,G,H,I,J⟩:=ha.mag.row;have N:=G.shows.1;have K:=kH H I;rw[J] at K;unfold xT at D;omega
 have B:decide ((k:Int)≥0)=true:=uQ (by omega)
 refine zX (Φ:=fun w=>zI w (.agg #[.bool f,.slice g e i]) (x)) Tryz.func25 rfl (by kernel_rfl) (fun w' L=>ha.ext L) ?_
 refine zC (zB (xr 2 [yJ 1 (k:Int),(2,.p 2 0),(4,.p 4 0)] [bI2 4 32 false none 0 0,bI2 2 32 f g e i] ?_))
 refine xe (zA (zC (zC (zB (xr 2 [yJ 1 (k:Int),(2,.p 2 0),(4,.p 4 0),yB 11 (decide ((k:Int)≥0))] [bI2 4 32 false none 0 0,bI2 2 32 f g e i] ?_)))))
 rw[B]
 refine xr 0 [yJ 1 (k:Int),(2,.p 2 0),(4,.p 4 0),yB 11 true] [bI2 4 32 false none 0 0,bI2 2 32 f g e i] ?_
 refine xe (zA (xa (zC (zB (xr 2 [yJ 1 (k:Int),(2,.p 2 0),(4,.p 4 0),yJ 13 (IntKind.i64.wrap (((k:Int)).tdiv 32))] [bI2 4 32 false none 0 0,bI2 2 32 f g e i] ?_)))))
 rw[ZqV E]
 refine yD (d:=14) (fun b:Nat=>.slice (some ⟨b,0,none⟩) (k/32) (k/32)) (fun b w=>fQ w (.slice (some ⟨b,0,none⟩) (k/32) (k/32)) (List.replicate (k/32) 0)) (fun w R Q=>Zjt (l:=.tmp 13) (c:=.tmp 13) (kl:=.i64) (kc:=.i64) (by kernel_rfl) Tryz.underlying30 eQ (by kernel_rfl) (by kernel_rfl) (by omega)) fun j=>?_
 refine xr 1 [yJ 1 (k:Int),(2,.p 2 0),(4,.p 4 0),eS1 5 (some ⟨j,0,none⟩) (k/32) (k/32)] [bI2 4 32 false none 0 0,bI2 2 32 f g e i] ?_
 refine xe (zA (zC ?_))
 refine yO 13 zM ?_
 refine xf 7 [yJ 1 (k:Int),(2,.p 2 0),(4,.p 4 0),yB 16 f,eS1 17 (some ⟨j,0,none⟩) (k/32) (k/32),eS1 19 g e i,yJ 21 (((k:Int)).tmod 32)] [bI2 4 32 false none 0 0,bI2 2 32 f g e i] ?_
 rw[ZqW]
 refine xf 1 [yJ 1 (k:Int),(2,.p 2 0),(4,.p 4 0),yB 16 f,eS1 17 (some ⟨j,0,none⟩) (k/32) (k/32),eS1 19 g e i,yU 22 (IntKind.u64.wrap (((k%32:Nat):Int)))] [bI2 4 32 false none 0 0,bI2 2 32 f g e i] ?_
 rw[Zqj]
 refine xd 72 [.slice g e i,.int .u64 ((k%32:Nat):Int)] 23 (fun b:Nat=>.slice (some ⟨b,0,none⟩) (e+1) (e+1)) _ (fun w R Q=>ZmA (s:=k%32) _ Q.1.mag F (by omega)) fun C=>?_
 refine xf 0 [yJ 1 (k:Int),(2,.p 2 0),(4,.p 4 0),yB 16 f,eS1 17 (some ⟨j,0,none⟩) (k/32) (k/32),eS1 23 (some ⟨C,0,none⟩) (e+1) (e+1)] [bI2 4 32 false none 0 0,bI2 2 32 f g e i] ?_
 refine Zpd 24 (fun z:Option Addr×Nat=>.slice z.1 (k/32+(e+1)) z.2) (fun z w=>RowD w (.slice z.1 (k/32+(e+1)) z.2) (W32^(k/32)*((x).natAbs*2^(k%32)))) (by kernel_rfl) (by kernel_rfl) (by kernel_rfl) (by kernel_rfl) (by kernel_rfl) (by kernel_rfl) (by kernel_rfl) (fun w R Q=>ZeR (x:=.tmp 17) (y:=.tmp 23) (by kernel_rfl) Tryz.underlying30 eQ (by kernel_rfl) (by kernel_rfl) Q.1.2 Q.2 (by omega) (by omega)) fun⟨m,n⟩=>?_
 refine xf 0 [yJ 1 (k:Int),(2,.p 2 0),(4,.p 4 0),yB 16 f,eS1 24 m (k/32+(e+1)) n] [bI2 4 32 false none 0 0,bI2 2 32 f g e i] ?_
 refine xd 71 [.slice m (k/32+(e+1)) n] 25 xJ _ (fun w R Q=>yM Zin (ZgU _ Q.2 (by omega))) fun⟨o,q,r⟩=>?_
 refine xf 0 [yJ 1 (k:Int),(2,.p 2 0),(4,.p 4 0),yB 16 f,eS1 25 o q r] [bI2 4 32 false none 0 0,bI2 2 32 f g e i] ?_
 refine xd 61 [.bool f,.slice o q r] 26 zZ _ (fun w R Q=>(eB _ _ (W32^(k/32)*((x).natAbs*2^(k%32))) _ Q.2).mono (fun _ _ h=>xC (by rw[Zn8 Q.1.1.1.1] at h;exact h))) fun⟨t,u,v,A⟩=>?_
 refine xf 1 [yJ 1 (k:Int),(2,.p 2 0),(4,.p 4 0)] [bI2 4 32 t u v A,bI2 4 32 false none 0 0,bI2 2 32 f g e i] ?_
 refine xz (xe (zA (zF (zE ?_))))
 refine yR (.agg #[.bool t,.slice u v A]) fun w' R Q=>?_
 exact⟨_,rfl,Q.2,R⟩
end Go.Proofs.YtklpdkpcocnglaaGreatDoor
