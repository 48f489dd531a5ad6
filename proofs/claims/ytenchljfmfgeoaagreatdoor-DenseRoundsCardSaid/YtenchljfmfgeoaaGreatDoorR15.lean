/-
 My texts Gen, Small, Rat2, SxK, Sx8, Sx9, Sx12, Sx13, Sx14, Sx15, Sx16, Sx18, Mo, Sx19, Sx20, Bu, Wl, Ms0, Ms, Bv, Pd, Pw, Fna, Nr, Ng, FlM put together.
-/
import Derived.Test.YtenchljfmfgeoaaGreatDoorR11
import Derived.Test.YtenchljfmfgeoaaGreatDoorR13
import Derived.Test.YtenchljfmfgeoaaGreatDoorR14
import Derived.Outline
import Derived.Test.YtenchljfmfgeoaaGreatDoorR12
import Derived.Test.YtenchljfmfgeoaaGreatDoorR01
import Derived.Deep.LoopGhost
import Derived.Test.YtenchljfmfgeoaaGreatDoorR08
import Derived.Deep.DeepCutAuto
import Derived.Deep.RegionHeld3
import Derived.Laws.CopyOwn
import Derived.Maps.AppendAt
import Derived.Laws.MakeOwn
import Derived.Lib.Builder
import Derived.Shelf.Strings.Builder1
import Derived.Test.YtenchljfmfgeoaaGreatDoorR06
import Derived.Test.YtenchljfmfgeoaaGreatDoorR03
import Derived.Test.YtenchljfmfgeoaaGreatDoorR07
set_option maxRecDepth 100000
set_option maxHeartbeats 8000000
namespace Go.Proofs.YtenchljfmfgeoaaGreatDoor
open Go.RowKit Tryz
theorem zP:prog.follows .mixedOrders=true:=qK
def ZfG (cs:Array Value):Prop:=∀ (i:Nat) (k:IntKind) (z:Int),cs[i]? = some (.int k z)→k=.i64
theorem lJ {s:Bool}{A:qA}{l c:Nat}:ZfG #[.bool s,.slice A l c]:=by
 intro i k z;rcases i with _|_|i<;>simp
theorem zE.other {k:IntKind}{t:TypeId}{w w':World}{r:Nat}{A:qA}{xs:qN}{cs:Array Value}(h:zE k w A xs)(d:k≠.i64)(f:Blk t w r cs)(j:ZfG cs)(l:Fr (fun i=>i=r) w w'):zE k w' A xs:=by
 cases xs with
 | nil=>exact zE.nil
 | cons x xs =>
  refine h.fr l (fun q c m e=>?_)
  obtain⟨g,off,n,_,b⟩:=h.at (i:=0) qS
  rw[n] at c
  injection c with c
  subst c
  simp at e
  subst e
  rw[f.cell] at b
  exact d (j _ _ _ b)
theorem zZ.oth {t:TypeId}{w w':World}{r n:Nat}{u:Value}{cs:Array Value}(h:zZ w u n)(b:Blk t w r cs)(c:ZfG cs)(d:Fr (fun i=>i=r) w w'):zZ w' u n:=by
 obtain⟨e,f,j,k,l,m,q⟩:=h
 exact⟨e,f,j,k,l,m.other qD b c d,q⟩
theorem zN.oth {t:TypeId}{w w':World}{r:Nat}{v:Value}{z:Int}{cs:Array Value}(h:zN w v z)(b:Blk t w r cs)(c:ZfG cs)(d:Fr (fun i=>i=r) w w'):zN w' v z:=by
 obtain⟨e,u,n,f,j,k⟩:=h
 exact⟨e,u,n,f,j.oth b c d,k⟩
theorem zN.shp {w:World}{v:Value}{z:Int}(h:zN w v z):∃ (s:Bool) (A:Option Addr) (l c:Nat),v=.agg #[.bool s,.slice A l c]:=by
 obtain⟨s,A,l,c,h,_⟩:=h.open
 exact⟨s,A,l,c,h⟩
theorem gY.shp {w:World}{v:Value}{z:Int}(h:gY w v z):∃ (s:Bool) (A:Option Addr) (l c:Nat),v=.agg #[.bool s,.slice A l c]:=h.shape
theorem zN.nil (w:World):zN w (.agg #[.bool false,.slice none 0 0]) 0:=⟨false,_,0,rfl,zZ.zero w,fun _=>rfl,rfl⟩
theorem Zis {a b c d e f i j:Value}(h:Value.agg #[a,b,c,d]=.agg #[e,f,i,j]):a=e∧b=f∧c=i∧d=j:=by
 injection h with h
 simpa using h
def xF (w:World) (v:Value) (q:Rat):Prop:=∃ (s t:Bool) (A B:Option Addr) (l c l' c':Nat),v=.agg #[.bool s,.slice A l c,.bool t,.slice B l' c']∧zN w (.agg #[.bool s,.slice A l c]) q.num∧zN w (.agg #[.bool t,.slice B l' c']) (denF q)
theorem xF.ext {w w':World}{v:Value}{q:Rat}(h:xF w v q)(b:Ext w w'):xF w' v q:=by
 obtain⟨s,t,A,B,l,c,d,e,f,i,j⟩:=h
 exact⟨s,t,A,B,l,c,d,e,f,i.ext b,j.ext b⟩
theorem xF.oth {t:TypeId}{w w':World}{r:Nat}{v:Value}{q:Rat}{cs:Array Value}(h:xF w v q)(b:Blk t w r cs)(d:ZfG cs)(e:Fr (fun i=>i=r) w w'):xF w' v q:=by
 obtain⟨s,t,A,B,l,c,f,j,k,m,n⟩:=h
 exact⟨s,t,A,B,l,c,f,j,k,m.oth b d e,n.oth b d e⟩
theorem xF.shp {w:World}{v:Value}{q:Rat}(h:xF w v q):∃ (s:Bool) (A:Option Addr) (l c:Nat) (t:Bool) (B:Option Addr) (b d:Nat),v=.agg #[.bool s,.slice A l c,.bool t,.slice B b d]:=by
 obtain⟨s,t,A,B,l,c,b,d,h,_⟩:=h
 exact⟨s,A,l,c,t,B,b,d,h⟩
theorem xF.num {w:World}{a b c d:Value}{q:Rat}(h:xF w (.agg #[a,b,c,d]) q):zN w (.agg #[a,b]) q.num:=by
 obtain⟨s,t,A,B,l,c,f,i,h,e,j⟩:=h
 obtain⟨rfl,rfl,rfl,rfl⟩:=Zis h
 exact e
theorem xF.den {w:World}{a b c d:Value}{q:Rat}(h:xF w (.agg #[a,b,c,d]) q):zN w (.agg #[c,d]) (denF q):=by
 obtain⟨s,t,A,B,l,c,f,i,h,j,e⟩:=h
 obtain⟨rfl,rfl,rfl,rfl⟩:=Zis h
 exact e
theorem xF.of {w:World}{s t:Bool}{A B:qA}{l c b d:Nat}{q:Rat}(e:zN w (.agg #[.bool s,.slice A l c]) q.num)(f:zN w (.agg #[.bool t,.slice B b d]) (denF q)):xF w (.agg #[.bool s,.slice A l c,.bool t,.slice B b d]) q :=
 ⟨_,_,_,_,_,_,_,_,rfl,e,f⟩
def Zd5 (w:World) (q:Rat) (e:Ending) (w':World):Prop:=∃ v,e=.returned v∧xF w' v q∧Ext w w'
theorem xF.nil (w:World):xF w (.agg #[.bool false,.slice none 0 0,.bool false,.slice none 0 0]) 0:=⟨_,_,_,_,_,_,_,_,rfl,zN.nil w,zN.nil w⟩
theorem gT {t0:TypeId}{w wb:World}{c0:Array Value}(h:w.alloc (.cells c0 t0)=wb):Blk t0 wb w.heap.size c0∧Ext w wb:=by
 subst h;exact⟨Blk.new _ _ _,(Fr.refl _ _).alloc _⟩
theorem aI {t0 t1:TypeId}{w wb:World}{c0 c1:Array Value}(h:(w.alloc (.cells c0 t0)).alloc (.cells c1 t1)=wb):Blk t0 wb w.heap.size c0∧Blk t1 wb (w.heap.size+1) c1∧Ext w wb:=by
 obtain⟨d,f⟩:=gT (w:=w) (c0:=c0) (t0:=t0) rfl
 have e:(w.alloc (.cells c0 t0)).heap.size=w.heap.size+1:=qS
 obtain⟨b,c⟩:=gT h
 rw[e] at b
 exact⟨d.ext c,b,f.trans c⟩
theorem Zgv {t0 t1 t2:TypeId}{w wb:World}{c0 c1 c2:Array Value}(h:((w.alloc (.cells c0 t0)).alloc (.cells c1 t1)).alloc (.cells c2 t2)=wb):Blk t0 wb w.heap.size c0∧Blk t1 wb (w.heap.size+1) c1∧Blk t2 wb (w.heap.size+1+1) c2∧Ext w wb:=by
 obtain⟨d,f,i⟩:=aI (w:=w) (c0:=c0) (t0:=t0) (c1:=c1) (t1:=t1) rfl
 have e:((w.alloc (.cells c0 t0)).alloc (.cells c1 t1)).heap.size=w.heap.size+1+1:=qS
 obtain⟨c,b⟩:=gT h
 rw[e] at c
 exact⟨d.ext b,f.ext b,c,i.trans b⟩
theorem Zqr {t0 t1 t2 t3:TypeId}{w wb:World}{c0 c1 c2 c:Array Value}(h:(((w.alloc (.cells c0 t0)).alloc (.cells c1 t1)).alloc (.cells c2 t2)).alloc (.cells c t3)=wb):Blk t0 wb w.heap.size c0∧Blk t1 wb (w.heap.size+1) c1∧Blk t2 wb (w.heap.size+1+1) c2∧Blk t3 wb (w.heap.size+1+1+1) c∧Ext w wb:=by
 obtain⟨f,i,j,k⟩:=Zgv (w:=w) (c0:=c0) (t0:=t0) (c1:=c1) (t1:=t1) (c2:=c2) (t2:=t2) rfl
 have e:(((w.alloc (.cells c0 t0)).alloc (.cells c1 t1)).alloc (.cells c2 t2)).heap.size=w.heap.size+1+1+1:=qS
 obtain⟨d,b⟩:=gT h
 rw[e] at d
 exact⟨f.ext b,i.ext b,j.ext b,d,k.trans b⟩
theorem Blk.two {t:TypeId}{w:World}{g:Nat}{cs:Array Value}{x y:Value}(h:Blk t w g cs)(o:Nat)(b:cs[o]? = some x)(c:cs[o+1]? = some y):w.cell? ⟨g,o,none⟩=some x∧w.cell? ⟨g,o+1,none⟩=some y :=
 ⟨(h.cell o).trans b,(h.cell (o+1)).trans c⟩
theorem Blk.one' {t:TypeId}{w:World}{g:Nat}{cs:Array Value}{x:Value}(h:Blk t w g cs)(o:Nat)(b:cs[o]? = some x):w.cell? ⟨g,o,none⟩=some x:=(h.cell o).trans b
section
variable {ops:Array Oper} {S:World→Prop} {o:Oper} {a:Act} {p:Operand} {g off:Nat} {x y z u v:Value}
theorem ym (b:Region.wanted o (yielded ops a.tmps)=true)(c:o.op=Op.move p)(d:a.eval p=v):YieldsIf prog ops S o v a :=
 Or.inl ⟨b,fun w _=>by simp only[execOp,c,d];simp[go_sem]⟩
theorem Zg7 (b:Region.wanted o (yielded ops a.tmps)=true)(c:o.op=Op.load 57 p)(d:a.eval p=.pointer (some ⟨g,off,none⟩))(e:∀ w,S w→w.cell? ⟨g,off,none⟩=some x∧w.cell? ⟨g,off+1,none⟩=some y):YieldsIf prog ops S o (.agg #[x,y]) a :=
 Or.inl ⟨b,fun w f=>by
  obtain⟨h,i⟩:=e w f
  simp only[execOp,c,d]
  simp[go_sem,h,i]⟩
theorem Zgw (b:Region.wanted o (yielded ops a.tmps)=true)(c:o.op=Op.load 4 p)(d:a.eval p=.pointer (some ⟨g,off,none⟩))(e:∀ w,S w→w.cell? ⟨g,off,none⟩=some x):YieldsIf prog ops S o x a :=
 Or.inl ⟨b,fun w f=>by
  have h:=e w f
  simp only[execOp,c,d]
  simp[go_sem,h]⟩
theorem Zcz (b:Region.wanted o (yielded ops a.tmps)=true)(c:o.op=Op.fieldAddr 57 p 0)(d:a.eval p=.pointer (some ⟨g,off,none⟩)):YieldsIf prog ops S o (.pointer (some ⟨g,off,none⟩)) a :=
 Or.inl ⟨b,fun w _=>by simp only[execOp,c,d];simp[go_sem]⟩
theorem ZoK {b c:Bool}{q:Operand}(d:Region.wanted o (yielded ops a.tmps)=true)(e:o.op=Op.binOp .neq 4 p q 4)(f:a.eval p=.bool b)(h:a.eval q=.bool c):YieldsIf prog ops S o (.bool (b != c)) a :=
 Or.inl ⟨d,fun w _=>by simp only[execOp,e,f,h];simp[go_sem];cases b<;>cases c<;>rfl⟩
end
section
variable {S:Nat→Prop} {w w' w0:World} {k:IntKind} {A:Option Addr} {xs:List Nat}
theorem zE.nrb (c:k≠.i64)(h:zE k w A xs)(d:∀ i,S i→NRB w i)(f:Fr S w w'):zE k w' A xs:=by
 cases xs with
 | nil=>exact zE.nil
 | cons x xs =>
  refine h.fr f (fun q b j l=>?_)
  obtain⟨g,m,n,_,a⟩:=h.at (i:=0) qS
  rw[n] at b
  injection b with b
  subst b
  obtain⟨t,r,o,p⟩:=d _ l
  rw[o.cell] at a
  exact c (p _ _ _ a)
theorem zF.nrb {u:Value}{n:Nat}(h:zF w u n)(a:∀ i,S i→NRB w i)(b:Fr S w w'):zF w' u n:=by
 obtain⟨c,xs,d,f,g,j,l⟩:=h
 exact⟨c,xs,d,f,g,j.nrb qD a b,l⟩
theorem gY.nrb {v:Value}{z:Int}(h:gY w v z)(a:∀ i,S i→NRB w i)(b:Fr S w w'):gY w' v z:=by
 obtain⟨c,u,n,d,f,g⟩:=h
 exact⟨c,u,n,d,f.nrb a b,g⟩
theorem zZ.nrb {u:Value}{n:Nat}(h:zZ w u n)(a:∀ i,S i→NRB w i)(b:Fr S w w'):zZ w' u n:=by
 obtain⟨c,xs,d,f,g,j,l⟩:=h
 exact⟨c,xs,d,f,g,j.nrb qD a b,l⟩
theorem zN.nrb {v:Value}{z:Int}(h:zN w v z)(a:∀ i,S i→NRB w i)(b:Fr S w w'):zN w' v z:=by
 obtain⟨c,u,n,d,f,g⟩:=h
 exact⟨c,u,n,d,f.nrb a b,g⟩
theorem xF.nrb {v:Value}{q:Rat}(h:xF w v q)(a:∀ i,S i→NRB w i)(b:Fr S w w'):xF w' v q:=by
 obtain⟨s,t,A,B,l,c,d,f,g,j,m⟩:=h
 exact⟨s,t,A,B,l,c,d,f,g,j.nrb a b,m.nrb a b⟩
theorem NRB.ext {i:Nat}(h:NRB w i)(a:Ext w w'):NRB w' i:=by
 obtain⟨t,b,c,d⟩:=h
 exact⟨t,b,c.ext a,d⟩
theorem boxn {φ:World→Prop}(a:Ext w w')(h:∀ S w'',(∀ i,S i→NRB w' i)→Fr S w' w''→φ w''):BoxN w w' φ:=fun S b w'' c=>h S w'' (fun i hi=>(b i hi).2.ext a) c
end
abbrev ShI:=Bool×Option Addr×Nat × Nat
abbrev ShQ:=Bool×Option Addr×Nat × Nat × Bool×Option Addr×Nat × Nat
abbrev ShN:=Option Addr×Nat × Nat
def wO (x:ShI):Value:=.agg #[.bool x.1,.slice x.2.1 x.2.2.1 x.2.2.2]
def fZ (x:ShQ):Value:=.agg #[.bool x.1,.slice x.2.1 x.2.2.1 x.2.2.2.1,.bool x.2.2.2.2.1,.slice x.2.2.2.2.2.1 x.2.2.2.2.2.2.1 x.2.2.2.2.2.2.2]
def xH (x:ShN):Value:=.slice x.1 x.2.1 x.2.2
section
variable {w w':World} {e:Ending}
theorem ZeS {z:Int}(h:Zfz w z e w'):wV wO (fun x w=>gY w (wO x) z) w e w':=by
 obtain⟨v,rfl,a,Q⟩:=h
 obtain⟨s,A,l,c,rfl⟩:=a.shp
 exact⟨(s,A,l,c),rfl,Q,boxn Q (fun S b d f=>a.nrb d f)⟩
theorem kE {z:Int}(h:lW w z e w'):wV wO (fun x w=>zN w (wO x) z) w e w':=by
 obtain⟨v,rfl,a,Q⟩:=h
 obtain⟨s,A,l,c,rfl⟩:=a.shp
 exact⟨(s,A,l,c),rfl,Q,boxn Q (fun S b d f=>a.nrb d f)⟩
theorem Zm5 {q:Rat}(h:Zd5 w q e w'):wV fZ (fun x w=>xF w (fZ x) q) w e w':=by
 obtain⟨v,rfl,a,Q⟩:=h
 obtain⟨s,A,l,c,t,B,m,d,rfl⟩:=a.shp
 exact⟨(s,A,l,c,t,B,m,d),rfl,Q,boxn Q (fun S b f g=>a.nrb f g)⟩
def Zao (x:ShI×ShI):Value:=.tuple #[wO x.1,wO x.2]
theorem zL {v u:Value}(h:e=.returned v∧Ext w w')(a:v=u):wV (fun _:Unit=>u) (fun _ _=>True) w e w':=by
 obtain⟨rfl,Q⟩:=h
 subst a
 exact⟨(),rfl,Q,BoxN.pure trivial⟩
end
theorem yN {P:Program}{f:FuncId}{a:Array Value}{w:World}{u v:Value}(h:Calls P f a w (fun e w'=>e=.returned v ∧ Ext w w'))(b:v=u:=by rfl):Calls P f a w (wV (fun _:Unit=>u) (fun _ _=>True) w):=h.mono (fun _ _ h=>zL h b)
section
variable {N:Nat} {S0:Nat→Prop} {w0:World} {s s':St} {Φ Ψ Φ0:World→Prop} {L:Nat→Nat} {a:Act} {w:World} {P:Program} {ops:Array Oper} {Q:Exit→Act→World→Prop} {o:Oper}
theorem zY.of {sl:SlL}{bl:BlL}(h:(sl.map (fun q=>s.sl q.1),bl.map (fun q=>s.bl q.1))=(sl.map (fun q=>some q.2),bl.map (fun q=>some q.2))):zY s sl bl:=h
def ZpU (N:Nat) (S0:Nat→Prop) (w0:World) (J:Nat→St→(World→Prop)→Prop) (n:Nat) (a:Act) (w:World):Prop:=∃ n' s' Φ' L',n'<n∧J n' s' Φ'∧Inv N S0 w0 s' Φ' L' a w
theorem xR {c:Code}(J:Nat→St→(World→Prop)→Prop)(f:Nat)(g:J f s Φ)(b:∀ n s Φ,J n s Φ→SXc P N S0 w0 (Exit.then (ZpU N S0 w0 J n) Q) c s Φ):SXc P N S0 w0 Q (.loop c) s Φ:=fun L a w hi=>by
 refine wp_loop_ghost (fun n a w=>∃ s Φ L,J n s Φ∧Inv N S0 w0 s Φ L a w) f ⟨s,Φ,L,g,hi⟩ ?_
 rintro n a w ⟨s,Φ,L,h,hi⟩
 refine wp_mono (b n s Φ h L a w hi) ?_
 intro e q w' d
 cases e with
 | normal =>
  obtain⟨i,s',Φ',j,k,m,p⟩:=d
  exact⟨i,k,s',Φ',j,m,p⟩
 | exit id=>exact d
 | goto l=>exact d
 | ret=>exact d
 | panic ch=>exact d
 | outgrown=>exact d
theorem xI {J:Nat→St→(World→Prop)→Prop}{n:Nat}(b:Nat)(c:b<n)(h:J b s Φ):SXq N S0 w0 (Exit.then (ZpU N S0 w0 J n) Q .normal) s Φ:=fun _ _ _ hi=>⟨b,s,Φ,_,c,h,hi⟩
theorem Zb9 {x y:Code}(J:St→(World→Prop)→Prop)(d:SXc P N S0 w0 (Exit.then (fun a w=>∃ s' Φ' L',J s' Φ'∧Inv N S0 w0 s' Φ' L' a w) Q) x s Φ)(f:∀ s Φ,J s Φ→SXc P N S0 w0 Q y s Φ):SXc P N S0 w0 Q (.seq x y) s Φ:=fun L a w hi=>by
 refine wp_seq (wp_mono (d L a w hi) ?_)
 intro e g w' b
 cases e with
 | normal =>
  obtain⟨s',Φ',L',c,h⟩:=b
  exact f s' Φ' c L' g w' h
 | exit id=>exact b
 | goto l=>exact b
 | ret=>exact b
 | panic ch=>exact b
 | outgrown=>exact b
theorem jJ {J:St→(World→Prop)→Prop}(h:J s Φ):SXq N S0 w0 (Exit.then (fun a w=>∃ s' Φ' b,J s' Φ'∧Inv N S0 w0 s' Φ' b a w) Q .normal) s Φ:=fun _ _ _ hi=>⟨s,Φ,_,h,hi⟩
theorem ZaK {n i:Nat}(d:Nat){α:Type}[c:Nonempty α](sh:α→Value)(φ:α→World→Prop)(hi:Nat.blt i n=true)(e:cls (opAt ops i).op=2)(f:s.wantB ops (opAt ops i)=some true)(g:kM (opAt ops i).op=true)(h:(opAt ops i).op.operands.toList.all s.vB=true)(j:(opAt ops i).dst=some d)(k:Nat.blt d N=true)(b:∀ w,Fr S0 w0 w→Φ w→Does P (opAt ops i) s.rho w (DoR sh φ w))(K:∀ x,StI P N S0 w0 ops Φ0 Q n (i+1) (s.put d (.v (sh x))) (fun w=>Φ w∧φ x w)):StI P N S0 w0 ops Φ0 Q n i s Φ:=by
 have l:i<n:=vQ hi
 unfold StI
 rw[show n-i=(n-(i+1))+1 by omega,List.range'_succ]
 exact .does c sh φ e f g h j (vQ k) b K
end
def fK (w:World) (v:Value) (xs:List Nat):Prop:=∃ A c,v=.slice A xs.length c∧xs.length≤c∧zE .u32 w A xs
theorem fK.nrb {S:Nat→Prop}{w w':World}{v:Value}{xs:qN}(h:fK w v xs)(b:∀ i,S i→NRB w i)(d:Fr S w w'):fK w' v xs:=by
 obtain⟨A,c,e,f,g⟩:=h
 exact⟨A,c,e,f,g.nrb qD b d⟩
theorem fK.shows {w:World}{A:qA}{l c:Nat}{xs:qN}(h:fK w (.slice A l c) xs):xs.length=l∧xs.length≤c∧zE .u32 w A xs:=by
 obtain⟨f,g,b,d,e⟩:=h
 injection b with e1 e2 e3
 subst e1;subst e3
 exact⟨e2.symm,d,e⟩
theorem zZ.row {w:World}{v:Value}{n:Nat}(h:zZ w v n):∃ b,fK w v b∧Dig W32 b∧Trim b∧val W32 b=n:=by
 obtain⟨A,b,c,d,e,f,g⟩:=h
 exact⟨b,⟨A,c,d,e,f⟩,g⟩
theorem Zgx {P:Program}(w:World)(t C e:TypeId)(k:IntKind)(bytes:Nat)(H:P.underlying t=some (.slice e))(q:(P.info? e).map (fun i=>(i.zero,i.size,i.bytes))=some (some (.int k 0),1,bytes))(b a:Addr)(n m cap c:Nat)(xs news:qN)(I:xs.length=n)(J:news.length=m)(K:zE k w (some b) xs)(M:zE k w (some a) news)(O:cap<n+m)(y:n+m≤maxLen)(l:(n+m)*bytes≤140737488355328) :
 ∃ g p w',(Builtin.append_ #[t,t] C #[.slice (some b) n cap,.slice (some a) m c]).run P w=.ok (.slice (some ⟨g,0,none⟩) (n+m) p) w'∧n+m≤p∧Own k e w' g (xs ++ news)∧Ext w w':=by
 obtain⟨i,hi,R,D,z⟩:=info_parts q
 have f:∀ (r:List Nat) (d:Addr),zE k w (some d) r→∀ j u,(r.map fun x:Nat=>Value.int k (x:Int))[j]? = some u→w.cell? (d.add j)=some u:=by
  intro r d S j u E
  rw[List.getElem?_map] at E
  obtain⟨x,F,rfl⟩:=vJ.1 E
  have T:j<r.length:=(List.getElem?_eq_some_iff.1 F).1
  obtain⟨W,U,h,_,A⟩:=S.at T
  injection h with h
  subst h
  rw[F] at A
  by_cases G:j=0
  ·subst G;simpa [Addr.add] using A
  simpa [Addr.add,G] using A
 have V:=run_append_grow (P:=P) (w:=w) t C e i (.int k 0) H hi R b n cap (xs.map fun x:Nat=>Value.int k (x:Int)) (by rw[D];simp[I]) (f _ _ K) a m c (news.map fun x:Nat=>Value.int k (x:Int)) (by rw[D];simp[J]) (f _ _ M) O (by simp only[maxLen] at y;omega) (growslice_fits qO (by rw[z];exact l))
 refine⟨_,_,_,V,?_,?_,((Fr.refl _ _).drew).alloc _⟩
 ·exact grownCap_ge _ _ _ _
 refine⟨(Builtin.zeroCells (Value.int k 0).cells (grownCap w (n+m) cap e-(n+m))).toList,fun v B=>?_,?_⟩
 ·rw[Array.mem_toList_iff] at B
  simp only[Builtin.zeroCells] at B
  obtain⟨j,_,rfl⟩:=Array.mem_map.1 B
  exact⟨0,by simp[Value.cells,Nat.mod_one]⟩
 rw[show w.heap.size=w.drew.heap.size from rfl,heap_alloc_new]
 simp[cellsOf]
theorem Own.row {e:TypeId}{w:World}{g c:Nat}{xs:qN}(h:Own .u32 e w g xs)(b:xs.length≤c):fK w (.slice (some ⟨g,0,none⟩) xs.length c) xs:=⟨_,c,rfl,b,h.shows0⟩
theorem ZhL {P:Program}{o:Oper}{ρ:Operand→Value}{w:World}{x y:Operand}{t e:TypeId}(q:o.op=.call { callee:=.builtin .append,args:=#[x,y],argTypes:=#[t,t] })(r:P.underlying t=some (.slice e))(f:(P.info? e).map (fun i=>(i.zero,i.size,i.bytes))=some (some (.int .u32 0),1,4)){b:Addr}{A:qA}{n m cap c:Nat}(u:ρ x=.slice (some b) n cap)(v:ρ y=.slice A m c){xs news:qN}(B:fK w (.slice (some b) n cap) xs)(C:fK w (.slice A m c) news)(D:cap<n+m)(h:n+m≤35184372088832):Does P o ρ w (DoR xH (fun z w=>fK w (xH z) (xs ++ news)) w):=by
 obtain⟨k,M,E⟩:=B.shows
 obtain⟨j,O,l⟩:=C.shows
 obtain⟨a,rfl⟩:∃ a,A=some a:=by
  cases news with
  | nil=>simp at j;omega
  | cons z zs=>obtain⟨g,F,e,_⟩:=l.at (i:=0) qS;exact⟨_,e⟩
 obtain⟨g,d,w',G,R,H,p⟩:=Zgx (P:=P) w t o.type e .u32 4 r f b a n m cap c xs news k j E l D (by simp only[maxLen];omega) qO
 refine Or.inl ⟨.slice (some ⟨g,0,none⟩) (n+m) d,w',?_,(some ⟨g,0,none⟩,n+m,d),rfl,p,boxn p (fun S I J K=>?_)⟩
 ·simp only[execOp,q,resolve,invoke,builtin,Sem.run_bind,Sem.run_pure,Result.andThen_ok,List.map_toArray,pT,pM,u,v,G]
 have:=(H.row (c:=d) (by simp;omega)).nrb J K
 simpa [xH,k,j] using this
theorem ZjR {P:Program}{o:Oper}{ρ:Operand→Value}{w:World}{l c:Operand}{t e:TypeId}(g:o.op=Op.makeSlice t l c)(j:P.underlying t=some (.slice e))(f:(P.info? e).map (fun i=>(i.zero,i.size,i.bytes))=some (some (.int .u32 0),1,4)){kl kc:IntKind}{n:Nat}(k:ρ l=.int kl n)(m:ρ c=.int kc n)(h:n≤35184372088832) :
 Does P o ρ w (DoR (fun b:Nat=>.slice (some ⟨b,0,none⟩) n n) (fun b w=>fK w (.slice (some ⟨b,0,none⟩) n n) (List.replicate n 0)) w):=by
 have d:=run_make_row' (P:=P) t e (.int .u32 0) 4 j f rfl kl kc n qO qO w
 rw[aA] at d
 have Q:Ext w (w.alloc (.cells (cellsOf .u32 (List.replicate n 0) []) e)):=(Fr.refl _ w).alloc _
 refine Or.inl ⟨.slice (some ⟨w.heap.size,0,none⟩) n n,_,by simp[execOp,g,k,m,d,Result.andThen],w.heap.size,rfl,Q,boxn Q (fun S p q r=>?_)⟩
 have:=((Own.new w e .u32 (List.replicate n 0) []).row (c:=n) qS).nrb q r
 simpa using this
section
variable {N:Nat} {S0:Nat→Prop} {w0:World} {s:St} {Φ:World→Prop} {P:Program} {ops:Array Oper} {Q:Exit→Act→World→Prop}
theorem yD {i:Nat}{α:Type}{d:Nat}(sh:α→Value)(φ:α→World→Prop)(b:∀ w,Fr S0 w0 w→Φ w→Does P (opAt ops i) s.rho w (DoR sh φ w))(K:∀ x,SXi P N S0 w0 ops Q (i+1) (s.put d (.v (sh x))) (fun w=>Φ w ∧ φ x w))(hi:Nat.blt i ops.size=true:=by kernel_rfl)(c:s.wantB ops (opAt ops i)=some true:=by kernel_rfl)(e:kM (opAt ops i).op=true:=by kernel_rfl)(f:(opAt ops i).op.operands.toList.all s.vB=true:=by kernel_rfl)(g:(opAt ops i).dst=some d:=by kernel_rfl)(h:Nat.blt d N=true:=by kernel_rfl):SXi P N S0 w0 ops Q i s Φ:=lQ sh φ hi c e f g h b K
theorem yK {i:Nat}(d:Nat)(y:Value)(b:∀ w,Fr S0 w0 w→Φ w→(execOp s.rho (opAt ops i)).run P w=.ok (.value y) w)(K:SXi P N S0 w0 ops Q (i+1) (s.put d (.v y)) Φ)(hi:Nat.blt i ops.size=true:=by kernel_rfl)(c:kM (opAt ops i).op=true:=by kernel_rfl)(e:s.wantB ops (opAt ops i)=some true:=by kernel_rfl)(f:(opAt ops i).op.operands.toList.all s.vB=true:=by kernel_rfl)(g:(opAt ops i).dst=some d:=by kernel_rfl)(h:Nat.blt d N=true:=by kernel_rfl):SXi P N S0 w0 ops Q i s Φ:=gG d y hi c e f g h b K
theorem yR {fn:Func}{R:Ending→World→Prop}(v:Value)(b:∀ w,Fr S0 w0 w→Φ w→R (.returned v) w)(h:ZhV P fn s=some v:=by kernel_rfl):SXq N S0 w0 (bodyPost P fn R .ret) s Φ:=zD h b
theorem yQ {c:Operand}{x y:Code}(b:Bool)(d:b=true→SXc P N S0 w0 Q x s Φ)(e:b=false→SXc P N S0 w0 Q y s Φ)(f:s.eval c=some (.v (.bool b)):=by kernel_rfl):SXc P N S0 w0 Q (.cond c x y) s Φ:=zR b f d e
theorem yO {id:Nat}(n:Nat){sl:SlL}{b:BlL}(c:P.follows .mixedOrders=true)(h:StI P N S0 w0 ops Φ Q n 0 (ofL sl b) Φ)(d:ZpR ops (ofL sl b) n=true:=by kernel_rfl)(e:Zct ops sl=true:=by kernel_rfl):SXc P N S0 w0 Q (.region id ops true) (ofL sl b) Φ:=xK n d e c h
theorem yP {q:Act→World→Prop}(sl:SlL)(b:BlL)(Ψ:World→Prop)(Q:∀ w,Φ w→Ψ w)(h:SXq N S0 w0 q (ofL sl b) Ψ)(c:(sl.map (fun q=>s.sl q.1),b.map (fun q=>s.bl q.1))=(sl.map (fun q=>some q.2),b.map (fun q=>some q.2)):=by kernel_rfl)(d:wfB sl b=true:=by kernel_rfl):SXq N S0 w0 q s Φ:=SXq.weak sl b (zY.of c) d Q h
theorem yC {c:Code}(sl:SlL)(b:BlL)(Ψ:World→Prop)(R:∀ w,Φ w→Ψ w)(h:SXc P N S0 w0 Q c (ofL sl b) Ψ)(d:(sl.map (fun q=>s.sl q.1),b.map (fun q=>s.bl q.1))=(sl.map (fun q=>some q.2),b.map (fun q=>some q.2)):=by kernel_rfl)(e:wfB sl b=true:=by kernel_rfl):SXc P N S0 w0 Q c s Φ:=SXc.weak sl b (zY.of d) e R h
theorem yZ {i:Nat}{y:Code}(K:SXc P N S0 w0 Q y s Φ)(h:Nat.ble ops.size i=true:=by kernel_rfl):SXi P N S0 w0 ops (Exit.then (y.wp P Q) Q) i s Φ:=ZrE h (zA K)
theorem yY {id:Nat}{y:Code}(K:SXi P N S0 w0 ops (Exit.then (y.wp P Q) Q) 0 s Φ):SXc P N S0 w0 Q (.seq (.region id ops false) y) s Φ:=zC (zB K)
theorem yM {f:FuncId}{b:Array Value}{w:World}{R T:Ending→World→Prop}(p:∀ {e w'},R e w'→T e w')(h:Calls P f b w R):Calls P f b w T:=h.mono (fun _ _=>p)
end
theorem ZcA (x:ByteArray):(x.toList == x.toList)=true:=qS
theorem ZfH {P:Program}{ρ:Operand→Value}{w:World}{t e:TypeId}{n sz:Nat}{z:Value}{parts:Array (Nat × Operand)}{cells:Array Value}(f:P.underlying t=some (.slice e))(a:(P.info? e).map (fun i=>(i.zero,i.size))=some (some z,sz))(g:Nat.ble (n*sz) 1000=true)(hn0:Nat.beq (n*sz) 0=false)(j:Instr.fill (fun i=>some (i*sz,sz)) ((List.range (n*sz)).map (fun i=>z.cells[i%z.cells.size]!)).toArray (parts.toList.map fun q=>(q.1,ρ q.2))=some cells) :
 (Instr.buildSlice t n (parts.map fun q:Nat × Operand=>(q.1,ρ q.2))).run P w=.ok (.slice (some ⟨w.heap.size,0,none⟩) n n) (w.alloc (.cells cells e)):=by
 obtain⟨i,hi,b⟩:=vJ.1 a
 injection b with b h2
 have k:=vQ g
 have c:¬ n*sz=0:=fun h=>by rw[h] at hn0;cases hn0
 have d:¬ 2^24<n*sz:=qO
 have l:(Array.range (n*sz)).map (fun i=>z.cells[i%z.cells.size]!)=((List.range (n*sz)).map (fun i=>z.cells[i%z.cells.size]!)).toArray:=by
  apply Array.ext';simp
 have m:(parts.map fun q:Nat × Operand=>(q.1,ρ q.2)).toList=parts.toList.map fun q=>(q.1,ρ q.2):=qS
 unfold Instr.buildSlice
 simp[underlying,f,sizeOf,typeInfo,hi,h2,zeroValue,b,c,d,l,j,newRow,newObj,Result.andThen]
 rfl
theorem kC {P:Program}{o:Oper}{ρ:Operand→Value}{w:World}{t e:TypeId}{n sz:Nat}{z:Value}{parts:Array (Nat × Operand)}{cells:Array Value}(f:o.op=Op.buildSlice t n parts)(g:P.underlying t=some (.slice e))(a:(P.info? e).map (fun i=>(i.zero,i.size))=some (some z,sz))(j:Nat.ble (n*sz) 1000=true)(d:Nat.beq (n*sz) 0=false)(k:Instr.fill (fun i=>some (i*sz,sz)) ((List.range (n*sz)).map (fun i=>z.cells[i%z.cells.size]!)).toArray (parts.toList.map fun q=>(q.1,ρ q.2))=some cells) :
 Does P o ρ w (DoR (fun b:Nat=>.slice (some ⟨b,0,none⟩) n n) (fun b w=>Blk e w b cells) w):=by
 have c:=ZfH (w:=w) g a j d k
 exact Or.inl ⟨_,_,by simp[execOp,f,c,Result.andThen],w.heap.size,rfl,(Fr.refl _ w).alloc _,fun S l m p=>(Blk.new w e cells).fr p (fun h=>by have:=(l _ h).1;omega)⟩
theorem gN {P:Program}{o:Oper}{ρ:Operand→Value}{w:World}{t:TypeId}{x:Operand}{lo hi:Option Operand}{b r:ByteArray}(l h:Nat)(d:o.op=Op.slice t x lo hi none)(e:P.underlying t=some .string)(f:ρ x=.string b)(a:lo.map ρ=none∧l=0∨lo.map ρ=some (.int .i64 l))(c:hi.map ρ=none∧h=b.size∨hi.map ρ=some (.int .i64 h))(g:l≤h)(i:h≤b.size)(j:b.extract l h=r):(execOp ρ o).run P w=.ok (.value (.string r)) w:=by
 subst j
 rcases a with ⟨a,rfl⟩|a<;>rcases c with ⟨c,rfl⟩|c <;>
  simp[execOp,d,Instr.sliceAt,Instr.slice,Instr.sliceBounds,Instr.sliceBound,asIntOf,underlying,e,f,a,c,g,i,Result.andThen]
theorem ZaA {P:Program}{o:Oper}{ρ:Operand→Value}{w:World}{t k:TypeId}{x y:Operand}{a b r:ByteArray}(c:o.op=Op.binOp .add t x y k)(d:ρ x=.string a)(e:ρ y=.string b)(g:a.size+b.size≤1099511627776)(f:a ++ b=r):(execOp ρ o).run P w=.ok (.value (.string r)) w:=by
 have h:¬ ((a.size+b.size:Nat):Int)>IntKind.i64.max:=by
  have:IntKind.i64.max=9223372036854775807:=qD
  rw[this];omega
 simp only[execOp,c,d,e,eqGuard,binOp,Op.stringOp,uO h,f]
 rfl
open Classical in
theorem Fr.split {A B:Nat→Prop}{w w2:World}(h:Fr (fun i=>A i∨B i) w w2):∃ l,Fr A w l∧Fr B l w2:=by
 have m:∀ i,i<w2.heap.size→(w2.heap.mapIdx fun i o=>if A i∨w.heap.size≤i then o else (w.heap[i]?).getD o)[i]? = if A i∨w.heap.size≤i then w2.heap[i]? else w.heap[i]? := by
  intro i hi
  rw[Array.getElem?_mapIdx,Array.getElem?_eq_getElem hi]
  by_cases b:A i∨w.heap.size≤i
  ·simp[b]
  have d:i<w.heap.size:=by
   rcases vL i w.heap.size with c|c
   ·exact c
   exact absurd (Or.inr c) b
  simp only[b,rL,if_false,Array.getElem?_eq_getElem d,qG]
 refine⟨{ w2 with heap:=w2.heap.mapIdx fun i o=>if A i∨w.heap.size≤i then o else (w.heap[i]?).getD o },⟨h.os,h.tape,h.output,?_,fun i hi g=>?_⟩,⟨rfl,rfl,rfl,?_,fun i hi n=>?_⟩⟩
 ·simpa using h.size
 ·have f:=m i (uS hi h.size)
  rw[uO (fun b=>b.elim g (fun c=>qO))] at f
  exact f
 ·simp
 have j:i<w2.heap.size:=by simpa using hi
 have f:=m i j
 by_cases b:A i∨w.heap.size≤i
 ·rw[vC b] at f;exact f.symm
 rw[uO b] at f
 have d:i<w.heap.size:=by
  rcases vL i w.heap.size with c|c
  ·exact c
  exact absurd (Or.inr c) b
 exact (h.block i d (fun c=>c.elim (fun g=>b (Or.inl g)) n)).trans f.symm
theorem bl2 (b:Bool):b=true∨b=false:=by cases b<;>simp
theorem Own.same {k:IntKind}{t:TypeId}{w w':World}{b:Nat}{xs:qN}(h:Own k t w b xs)(e:w'.heap[b]? = w.heap[b]?):Own k t w' b xs:=by
 obtain⟨tail,c,d⟩:=h
 exact⟨tail,c,e.trans d⟩
section
variable {N:Nat} {S0:Nat→Prop} {w0:World} {s:St} {Φ Ψ:World→Prop} {L:Nat→Nat} {a:Act} {w:World} {P:Program} {ops:Array Oper} {Q:Exit→Act→World→Prop}
theorem Inv.notOwn (h:Inv N S0 w0 s Φ L a w){r j:Nat}{c:Value}(f:∀ w,Φ w→w.cell? ⟨r,j,none⟩=some c):¬ s.own L r:=fun g=>by
 have i:=f w h.box.self
 have b:∀ u:Value,u≠c→False:=fun u l=>by
  have d:=f (w.setCell ⟨r,j,none⟩ u) (h.box _ ((Fr.refl _ _).setCell (p:=⟨r,j,none⟩) (Or.inl g) u))
  rw[World.cell?_setCell_same _ _ _ i] at d
  injection d with d
  exact l d
 by_cases e:c=.bool true
 ·exact b (.bool false) (by rw[e];intro h;cases h)
 exact b (.bool true) (fun h=>e h.symm)
theorem Inv.eff (h:Inv N S0 w0 s Φ L a w){w':World}{r:Nat}(d:Fr (fun i=>i=r) w w')(g:¬ s.own L r)(c:w0.heap.size≤r∨S0 r)(f:r<w.heap.size)(m:∀ w1 w2,Φ w1→Fr (fun i=>i=r) w1 w2→w2.heap[r]? = w'.heap[r]? → Ψ w2):Inv N S0 w0 s Ψ L a w':=by
 refine⟨h.size,h.df,h.sl,⟨fun b t n e=>(h.mem.blk b t n e).fr d (fun p=>g ⟨b,by rw[e];rfl,p⟩),h.mem.inj,h.mem.old,h.mem.ext.next d (fun i hi e=>?_),h.mem.slp,h.mem.cel⟩,fun w2 j=>?_⟩
 ·rcases c with l|l
  ·omega
  rw[e];exact l
 have q:Fr (fun i=>s.own L i∨i=r) w w2:=(d.mono (fun i _ e=>Or.inr e)).trans (j.mono (fun i _ e=>Or.inl e))
 obtain⟨w1,u,v⟩:=q.split
 exact m w1 w2 (h.box w1 u) v (j.block r (uS f d.size) g)
theorem ZlC {α:Type}(l:List α)(j:Nat)(c:α)(h:j<l.length):lH l j [c]=l.set j c:=by
 unfold lH
 rw[List.set_eq_take_append_cons_drop,vC h]
 simp
theorem Zit {t e:TypeId}{k:IntKind}{b j:Nat}{xs:qN}(m:(teOf P t).map (fun e=>e.size)=some 1)(d:Own k e w b xs)(n:j<xs.length)(v:Nat) :
 ∃ w',(Instr.storeAt t (.pointer (some ⟨b,j,none⟩)) (.int k (v:Int))).run P w=.ok () w'∧Own k e w' b (xs.set j v)∧Fr (fun i=>i=b) w w':=by
 obtain⟨z,f,p⟩:=vJ.1 m
 obtain⟨tail,q,d⟩:=d
 obtain⟨w',r,h,u⟩:=ZbP (P:=P) f (g:=b) (bt:=e) (off:=j) (cur:=(xs.map fun x:Nat=>Value.int k (x:Int)) ++ tail) (v:=.int k (v:Int)) d (by rw[p];rfl) (by simp[Value.cells];omega) (fun c l=>by simp[Value.cells] at l;rw[l];rfl)
 refine⟨w',r,⟨tail,q,?_⟩,u⟩
 have y:lH ((xs.map fun x:Nat=>Value.int k (x:Int)) ++ tail) j (Value.cells (.int k (v:Int))).toList=((xs.set j v).map fun x:Nat=>Value.int k (x:Int)) ++ tail:=by
  rw[show (Value.cells (.int k (v:Int))).toList=[.int k (v:Int)] from rfl,ZlC _ _ _ (by simp;omega),List.set_append_left _ _ (by simpa using n),List.map_set]
 rw[y] at h
 exact h
theorem jE {i:Nat}{t e:TypeId}{k:IntKind}{x y:Operand}{xs:qN}(b j v:Nat)(Ψ:World→Prop)(l:∀ w,Φ w→Own k e w b xs)(m:j<xs.length)(c:w0.heap.size≤b∨S0 b)(n:∀ w w',Φ w→Fr (fun i=>i=b) w w'→Own k e w' b (xs.set j v)→Ψ w')(K:SXi P N S0 w0 ops Q (i+1) s Ψ)(g:Nat.blt i ops.size=true:=by kernel_rfl)(p:s.wantB ops (opAt ops i)=some true:=by kernel_rfl)(q:(opAt ops i).op=.store t x y:=by kernel_rfl)(r:(opAt ops i).dst=none:=by kernel_rfl)(u:(teOf P t).map (fun e=>e.size)=some 1:=by kernel_rfl)(z:s.eval x=some (.v (.pointer (some ⟨b,j,none⟩))):=by kernel_rfl)(A:s.eval y=some (.v (.int k (v:Int))):=by kernel_rfl):SXi P N S0 w0 ops Q i s Φ:=by
 unfold SXi
 rw[iX g]
 intro L a w hi
 refine wpList_step fun O B=>?_
 rw[vC (hi.want p)]
 have d:=l w hi.box.self
 obtain⟨w',C,h,D⟩:=Zit (P:=P) u d m v
 unfold Oper.wp
 have E:=hi.eval z
 have F:=hi.eval A
 have f:(execOp a.eval (opAt ops i)).run P w=.ok .skip w':=by simp only[execOp,q,Sem.run_bind,E,F,AV.conc,C,Result.andThen_ok,Sem.run_pure]
 rw[f,Oper.upon_skip,r]
 refine B _ _ (K L _ _ (hi.eff D (hi.notOwn (fun w R=>(l w R).cell m)) c d.lt (fun G H I J M=>n G H I J (h.same M))))
theorem ZcB {i d:Nat}{e:TypeId}{k:IntKind}{xs:qN}{α:Type}(f:FuncId)(args:List Value)(sh:α→Value)(p:α→Prop)(zs:α→List Nat)(b:Nat)(Ψ:α→World→Prop)(l:∀ w,Φ w→Own k e w b xs)(n:0<xs.length)(c:w0.heap.size≤b∨S0 b)(q:∀ w,Fr S0 w0 w→Φ w→Calls P f args.toArray w (fun en w'=>∃ x,en=.returned (sh x)∧p x∧Fr (fun i=>i=b) w w'∧Own k e w' b (zs x)))(r:∀ x w w',p x→Φ w→Fr (fun i=>i=b) w w'→Own k e w' b (zs x)→Ψ x w')(K:∀ x,p x→SXi P N S0 w0 ops Q (i+1) (s.put d (.v (sh x))) (Ψ x))(g:Nat.blt i ops.size=true:=by kernel_rfl)(h:gF P N ops (opAt ops i) s=some (f,args,d):=by kernel_rfl):SXi P N S0 w0 ops Q i s Φ:=by
 obtain⟨u,y,z,A,B,C,D⟩:=gK h
 unfold SXi
 rw[iX g]
 intro L a w hi
 refine wpList_step fun T E=>?_
 rw[vC (hi.want u)]
 unfold Oper.wp
 rw[hi.exec A B,Zal y C,Oper.upon_enter]
 refine Calls.mono (q w hi.mem.ext hi.box.self) fun en w' F=>?_
 obtain⟨x,rfl,m,G,j⟩:=F
 simp only[z]
 have H:=hi.app0 (d:=d) D (al_v (s:=s) (sh x))
 exact E _ _ (K x m L _ _ (H.eff G (hi.notOwn (fun w R=>(l w R).cell n)) c (l w hi.box.self).lt (fun I J M O S=>r x I J m M O (j.same S))))
theorem Zbr {i d:Nat}{t e:TypeId}{k kl kc:IntKind}{l c:Operand}(n bytes:Nat)(hn:n≤35184372088832)(A:bytes≤8)(K:∀ b,w0.heap.size≤b→(∀ r,(∀ w,Φ w→r<w.heap.size)→r<b)→SXi P N S0 w0 ops Q (i+1) (s.put d (.v (.slice (some ⟨b,0,none⟩) n n))) (fun w=>Box (fun j=>b≤j) w Φ∧Own k e w b (List.replicate n 0)))(B:Nat.blt i ops.size=true:=by kernel_rfl)(G:s.wantB ops (opAt ops i)=some true:=by kernel_rfl)(H:(opAt ops i).op.operands.toList.all s.vB=true:=by kernel_rfl)(F:(opAt ops i).op=Op.makeSlice t l c:=by kernel_rfl)(I:(opAt ops i).dst=some d:=by kernel_rfl)(J:Nat.blt d N=true:=by kernel_rfl)(M:P.underlying t=some (.slice e):=by kernel_rfl)(u:(P.info? e).map (fun i=>(i.zero,i.size,i.bytes))=some (some (.int k 0),1,bytes):=by kernel_rfl)(O:s.rho l=.int kl n:=by kernel_rfl)(S:s.rho c=.int kc n:=by kernel_rfl):SXi P N S0 w0 ops Q i s Φ:=by
 unfold SXi
 rw[iX B]
 intro L a w hi
 refine wpList_step fun K' T=>?_
 rw[vC (hi.want G)]
 unfold Oper.wp
 have C:kM (opAt ops i).op=true:=by rw[F];rfl
 have U:bytes*n≤8*n:=uE n A
 rw[hi.exec C H]
 have p:=run_make_row' (P:=P) t e (.int k 0) bytes M u rfl kl kc n qO qO w
 rw[aA] at p
 have y:(execOp s.rho (opAt ops i)).run P w=.ok (.value (.slice (some ⟨w.heap.size,0,none⟩) n n)) (w.alloc (.cells (cellsOf k (List.replicate n 0) []) e)):=by simp[execOp,F,O,S,p,Result.andThen]
 rw[y,Oper.upon_value,I]
 have R:Ext w (w.alloc (.cells (cellsOf k (List.replicate n 0) []) e)):=(Fr.refl _ w).alloc _
 have m:=hi.app0 (d:=d) (vQ J) (al_v (s:=s) (.slice (some ⟨w.heap.size,0,none⟩) n n))
 have V:=Own.new w e k (List.replicate n 0) []
 refine T _ _ (K w.heap.size hi.mem.ext.size (fun r h=>h w hi.box.self) L _ _ ⟨m.size,m.df,m.sl,⟨fun b t W e=>(m.mem.blk b t W e).ext R,m.mem.inj,m.mem.old,m.mem.ext.ext R,m.mem.slp,m.mem.cel⟩,fun w2 z=>⟨fun X g=>?_,?_⟩⟩)
 ·refine hi.box X ⟨g.os.trans (z.os.trans R.os),g.tape.trans (z.tape.trans R.tape),g.output.trans (z.output.trans R.output),uD R.size (uD z.size g.size),fun j D E=>?_⟩
  have Y:=R.block j D (fun f=>f)
  have Z:=z.block j (uS D R.size) E
  have h3:=g.block j (uS D (uD R.size z.size)) qO
  exact h3.trans (Z.trans Y)
 refine V.fr z fun⟨b,hb,eb⟩=>?_
 obtain⟨q,eq⟩:=sC.1 hb
 have:=(hi.mem.blk b q.1 q.2 eq).lt
 omega
theorem SXi.know {i:Nat}{p:Prop}(h:∀ w,Fr S0 w0 w→Φ w→p)(K:p→SXi P N S0 w0 ops Q i s Φ):SXi P N S0 w0 ops Q i s Φ:=fun L a w hi=>K (h w hi.mem.ext hi.box.self) L a w hi
theorem ZoL {i d:Nat}{e:TypeId}{k:IntKind}(f:FuncId)(args:List Value)(xs:qN)(A:∀ w,Fr S0 w0 w→Φ w→Calls P f args.toArray w (fun en w'=>∃ b c,en=.returned (.slice (some ⟨b,0,none⟩) xs.length c)∧w.heap.size≤b∧xs.length≤c∧Ext w w'∧Own k e w' b xs))(K:∀ b c,w0.heap.size≤b→xs.length≤c→(∀ r,(∀ w,Φ w→r<w.heap.size)→r<b)→SXi P N S0 w0 ops Q (i+1) (s.put d (.v (.slice (some ⟨b,0,none⟩) xs.length c))) (fun w=>Box (fun j=>b≤j) w Φ∧Own k e w b xs))(n:Nat.blt i ops.size=true:=by kernel_rfl)(h:gF P N ops (opAt ops i) s=some (f,args,d):=by kernel_rfl):SXi P N S0 w0 ops Q i s Φ:=by
 obtain⟨B,C,D,E,F,G,H⟩:=gK h
 unfold SXi
 rw[iX n]
 intro L a w hi
 refine wpList_step fun K' I=>?_
 rw[vC (hi.want B)]
 unfold Oper.wp
 rw[hi.exec E F,Zal C G,Oper.upon_enter]
 refine Calls.mono (A w hi.mem.ext hi.box.self) fun en w' J=>?_
 obtain⟨b,c,rfl,z,M,R,O⟩:=J
 simp only[D]
 have l:=hi.app0 (d:=d) H (al_v (s:=s) (.slice (some ⟨b,0,none⟩) xs.length c))
 refine I _ _ (K b c (uD hi.mem.ext.size z) M (fun r h=>uS (h w hi.box.self) z) L _ _ ⟨l.size,l.df,l.sl,⟨fun b t S e=>(l.mem.blk b t S e).ext R,l.mem.inj,l.mem.old,l.mem.ext.ext R,l.mem.slp,l.mem.cel⟩,fun w2 m=>⟨fun T g=>?_,?_⟩⟩)
 ·refine hi.box T ⟨g.os.trans (m.os.trans R.os),g.tape.trans (m.tape.trans R.tape),g.output.trans (m.output.trans R.output),uD R.size (uD m.size g.size),fun j p u=>?_⟩
  have U:=R.block j p (fun f=>f)
  have V:=m.block j (uS p R.size) u
  have W:=g.block j (uS p (uD R.size m.size)) qO
  exact W.trans (V.trans U)
 refine O.fr m fun X=>?_
 obtain⟨Y,y,eb⟩:=X
 obtain⟨q,Z⟩:=sC.1 y
 have:=(hi.mem.blk Y q.1 q.2 Z).lt
 omega
theorem Zqs {i d:Nat}{dT sT e:TypeId}{k:IntKind}{dx sx:Operand}{sp:qA}{n m dc sc:Nat}{mid ys:qN}(b:Nat)(Ψ:World→Prop)(B:mid.length=n)(C:ys.length=m)(f:0<mid.length)(y:∀ w,Φ w→Own k e w b mid)(D:∀ w,Φ w→zE k w sp ys)(g:w0.heap.size≤b∨S0 b)(E:∀ w w',Φ w→Fr (fun i=>i=b) w w'→Own k e w' b (ys.take mid.length ++ mid.drop ys.length)→Ψ w')(K:SXi P N S0 w0 ops Q (i+1) s Ψ)(l:Nat.blt i ops.size=true:=by kernel_rfl)(F:(opAt ops i).guard=none:=by kernel_rfl)(G:(opAt ops i).op=.call { callee:=.builtin .copy,args:=#[dx,sx],argTypes:=#[dT,sT] }:=by kernel_rfl)(p:(opAt ops i).dst=some d:=by kernel_rfl)(H:(s.sl d).isNone=true:=by kernel_rfl)(I:P.underlying dT=some (.slice e):=by kernel_rfl)(J:(P.info? e).map (·.size)=some 1:=by kernel_rfl)(M:s.eval dx=some (.v (.slice (some ⟨b,0,none⟩) n dc)):=by kernel_rfl)(O:s.eval sx=some (.v (.slice sp m sc)):=by kernel_rfl):SXi P N S0 w0 ops Q i s Φ:=by
 unfold SXi
 rw[iX l]
 intro L a w hi
 have S:=hi.eval M
 have T:=hi.eval O
 have h:=y w hi.box.self
 refine Zav F dx sx dT sT G e k I J (some ⟨b,0,none⟩) sp n m dc sc S T b [] mid [] ys B C (by simpa using h) (D w hi.box.self) (fun _=>rfl) ?_
 intro w' z q _ U _
 have r:Own k e w' b (ys.take mid.length ++ mid.drop ys.length):=by simpa using q
 have c:=hi.eff U (hi.notOwn (fun w R=>(y w R).cell f)) g h.lt (fun V W c X Y=>E V W c X (r.same Y))
 have hsl:s.sl d=none:=by simpa using H
 refine K L _ _ ⟨by rw[p];simp[Act.put,c.size],by rw[p];exact c.df,fun j x A=>?_,c.mem,c.box⟩
 have u:d≠j:=fun e=>by rw[e,A] at hsl;cases hsl
 have:=c.sl j x A
 rw[p]
 simp[Act.put,Array.getElem?_setIfInBounds_ne u,this]
theorem xj {b:World→Prop}{n i:Nat}(d:Nat)(y:Value)(c:∀ w,b w→(execOp s.rho (opAt ops i)).run P w=.ok (.value y) w)(K:StI P N S0 w0 ops b Q n (i+1) (s.put d (.v y)) Φ)(hi:Nat.blt i n=true:=by kernel_rfl)(f:Zdo (opAt ops i).op=true:=by kernel_rfl)(g:s.wantB ops (opAt ops i)=some true:=by kernel_rfl)(h:(opAt ops i).op.operands.toList.all s.vB=true:=by kernel_rfl)(j:(opAt ops i).dst=some d:=by kernel_rfl)(l:Nat.blt d N=true:=by kernel_rfl):StI P N S0 w0 ops b Q n i s Φ :=
 ZaJ d y hi f g h j l c K
end
def atA (A:Option Addr) (i:Nat):Value:=.pointer (A.map (·.add i))
section
variable {P:Program} {o:Oper} {ρ:Operand→Value} {w:World} {t e:TypeId} {x ix:Operand} {k:IntKind} {xs:List Nat}
theorem wE {A:qA}{len cap i:Nat}(hA:A≠none)(h:i<len)(c:o.op=Op.indexAddr t x ix:=by kernel_rfl)(d:P.underlying t=some (.slice e):=by kernel_rfl)(f:(P.info? e).map (fun i=>i.size)=some 1:=by kernel_rfl)(g:ρ x=.slice A len cap:=by kernel_rfl)(hi:ρ ix=.int .i64 (i:Int):=by kernel_rfl):(execOp ρ o).run P w=.ok (.value (atA A i)) w:=by
 obtain⟨j,b,l⟩:=vJ.1 f
 obtain⟨a,rfl⟩:∃ a,A=some a:=by cases A;exact absurd rfl hA;exact⟨_,rfl⟩
 have m:(0:Int)≤(i:Int)∧(i:Int)<(len:Int):=qO
 simp[execOp,c,Instr.indexAt,asIntOf,underlying,d,g,hi,h,sizeOf,typeInfo,b,l,Result.andThen,atA]
theorem jU {g off len cap i:Nat}(h:i<len)(b:o.op=Op.indexAddr t x ix:=by kernel_rfl)(c:P.underlying t=some (.slice e):=by kernel_rfl)(d:(P.info? e).map (fun i=>i.size)=some 1:=by kernel_rfl)(f:ρ x=.slice (some ⟨g,off,none⟩) len cap:=by kernel_rfl)(hi:ρ ix=.int .i64 (i:Int):=by kernel_rfl):(execOp ρ o).run P w=.ok (.value (.pointer (some ⟨g,off+i,none⟩))) w:=by
 rw[wE (A:=some ⟨g,off,none⟩) qS h b c d f hi,atA,rL,jS]
theorem lS {g len cap i:Nat}(h:i<len)(b:o.op=Op.indexAddr t x ix:=by kernel_rfl)(c:P.underlying t=some (.slice e):=by kernel_rfl)(d:(P.info? e).map (fun i=>i.size)=some 1:=by kernel_rfl)(f:ρ x=.slice (some ⟨g,0,none⟩) len cap:=by kernel_rfl)(hi:ρ ix=.int .i64 (i:Int):=by kernel_rfl):(execOp ρ o).run P w=.ok (.value (.pointer (some ⟨g,i,none⟩))) w:=by
 have:=jU (w:=w) h b c d f hi
 rwa [vW] at this
theorem wU {g off:Nat}{c:Value}(b:w.cell? ⟨g,off,none⟩=some c)(d:o.op=Op.load t x:=by kernel_rfl)(f:ρ x=.pointer (some ⟨g,off,none⟩):=by kernel_rfl)(ha:(teOf P t).map (fun e=>e.agg)=some false:=by kernel_rfl) :
 (execOp ρ o).run P w=.ok (.value c) w:=by
 obtain⟨e,h,i⟩:=vJ.1 ha
 have:=ZbO (P:=P) (w:=w) h b i
 simp only[execOp,d,f,Sem.run_bind,this,Result.andThen_ok,Sem.run_pure]
theorem gH {b j:Nat}(c:Own k e w b xs)(d:j<xs.length)(f:o.op=Op.load t x:=by kernel_rfl)(g:ρ x=.pointer (some ⟨b,j,none⟩):=by kernel_rfl)(ha:(teOf P t).map (fun e=>e.agg)=some false:=by kernel_rfl) :
 (execOp ρ o).run P w=.ok (.value (.int k ((xs[j]?.getD 0:Nat):Int))) w:=wU (c.cell d) f g ha
theorem wP {A:qA}{j:Nat}(b:zE k w A xs)(c:j<xs.length)(d:o.op=Op.load t x:=by kernel_rfl)(f:ρ x=atA A j:=by kernel_rfl)(ha:(teOf P t).map (fun e=>e.agg)=some false:=by kernel_rfl) :
 (execOp ρ o).run P w=.ok (.value (.int k ((xs[j]?.getD 0:Nat):Int))) w:=by
 obtain⟨g,h,rfl,_,i⟩:=b.at c
 exact wU i d (by rw[f,atA,rL,jS]) ha
theorem ZrL {A:qA}{len cap h:Nat}{hi:Operand}(c:h≤cap)(d:o.op=Op.slice t x none (some hi) none:=by kernel_rfl)(f:P.underlying t=some (.slice e):=by kernel_rfl)(g:(P.info? e).map (fun i=>i.size)=some 1:=by kernel_rfl)(j:ρ x=.slice A len cap:=by kernel_rfl)(l:ρ hi=.int .i64 (h:Int):=by kernel_rfl):(execOp ρ o).run P w=.ok (.value (.slice A h cap)) w:=by
 obtain⟨m,b,_⟩:=vJ.1 g
 have n:A.map (fun a=>a.add 0)=A:=by cases A with
  | none=>rfl
  | some a=>simp[Addr.add]
 simp[execOp,d,Instr.sliceAt,Instr.slice,Instr.sliceBounds,Instr.sliceBound,asIntOf,underlying,f,j,l,c,sizeOf,typeInfo,b,Result.andThen,n]
theorem ZoM {A:qA}{len cap l:Nat}{lo:Operand}(c:l≤len)(d:o.op=Op.slice t x (some lo) none none:=by kernel_rfl)(f:P.underlying t=some (.slice e):=by kernel_rfl)(g:(P.info? e).map (fun i=>i.size)=some 1:=by kernel_rfl)(h:ρ x=.slice A len cap:=by kernel_rfl)(j:ρ lo=.int .i64 (l:Int):=by kernel_rfl):(execOp ρ o).run P w=.ok (.value (.slice (if cap=l then A else A.map (·.add l)) (len-l) (cap-l))) w:=by
 obtain⟨m,b,n⟩:=vJ.1 g
 simp[execOp,d,Instr.sliceAt,Instr.slice,Instr.sliceBounds,Instr.sliceBound,asIntOf,underlying,f,h,j,c,sizeOf,typeInfo,b,n,Result.andThen]
theorem Zqt {g len cap off l h n m:Nat}{lo hi:Operand}(d:l≤h)(b:h≤cap)(j:l<cap)(p:h-l=n)(q:cap-l=m)(r:o.op=Op.slice t x (some lo) (some hi) none:=by kernel_rfl)(u:P.underlying t=some (.slice e):=by kernel_rfl)(v:(P.info? e).map (fun i=>i.size)=some 1:=by kernel_rfl)(y:ρ x=.slice (some ⟨g,off,none⟩) len cap:=by kernel_rfl)(z:ρ lo=.int .i64 (l:Int):=by kernel_rfl)(A:ρ hi=.int .i64 (h:Int):=by kernel_rfl):(execOp ρ o).run P w=.ok (.value (.slice (some ⟨g,off+l,none⟩) n m)) w:=by
 subst p q
 obtain⟨B,c,C⟩:=vJ.1 v
 have f:¬ cap=l:=qO
 simp[execOp,r,Instr.sliceAt,Instr.slice,Instr.sliceBounds,Instr.sliceBound,asIntOf,underlying,u,y,z,A,d,b,sizeOf,typeInfo,c,C,Result.andThen,f,jS]
theorem ZoN {g len cap l h n m:Nat}{lo hi:Operand}(c:l≤h)(b:h≤cap)(d:l<cap)(f:h-l=n)(j:cap-l=m)(p:o.op=Op.slice t x (some lo) (some hi) none:=by kernel_rfl)(q:P.underlying t=some (.slice e):=by kernel_rfl)(r:(P.info? e).map (fun i=>i.size)=some 1:=by kernel_rfl)(u:ρ x=.slice (some ⟨g,0,none⟩) len cap:=by kernel_rfl)(v:ρ lo=.int .i64 (l:Int):=by kernel_rfl)(y:ρ hi=.int .i64 (h:Int):=by kernel_rfl):(execOp ρ o).run P w=.ok (.value (.slice (some ⟨g,l,none⟩) n m)) w:=by
 have:=Zqt (w:=w) c b d f j p q r u v y
 rwa [vW] at this
theorem zE.ne {A:qA}(b:zE k w A xs){j:Nat}(c:j<xs.length):A≠none:=by
 obtain⟨g,d,rfl,_⟩:=b.at c
 intro h;cases h
end
def Zab (ops:Array Oper) (i k:Nat):List Nat:=((ops.toList.drop i).take k).filterMap (fun o=>o.dst)
def Zac (l:List Nat) (sl:SlL):SlL:=sl.filter (fun q => !(l.any (Nat.beq q.1)))
def ZhX (nb:BlL) (bl:BlL):BlL:=bl.filter (fun q => !(nb.any (fun p=>Nat.beq p.1 q.1)))
section
variable {N:Nat} {S0:Nat→Prop} {w0:World} {sl:SlL} {bl:BlL} {Φ Φ0:World→Prop} {P:Program} {ops:Array Oper} {Q:Exit→Act→World→Prop}
theorem xq {i:Nat}(k:Nat)(b:SlL)(a:BlL)(K:SXi P N S0 w0 ops Q (i+k) (ofL (b ++ Zac (Zab ops i k) sl) (a ++ ZhX a bl)) Φ)(h:Zfo P N ops i k (ofL sl bl) (b ++ Zac (Zab ops i k) sl) (a ++ ZhX a bl)=some ((b ++ Zac (Zab ops i k) sl).map (fun q=>some q.2),(a ++ ZhX a bl).map (fun q=>some q.2)):=by kernel_rfl)(c:wfB (b ++ Zac (Zab ops i k) sl) (a ++ ZhX a bl)=true:=by kernel_rfl):SXi P N S0 w0 ops Q i (ofL sl bl) Φ:=ZmR k _ _ h c K
theorem xqf {n i:Nat}(k:Nat)(b:SlL)(a:BlL)(K:StI P N S0 w0 ops Φ0 Q n (i+k) (ofL (b ++ Zac (Zab ops i k) sl) a) Φ)(h:Zb1 P N ops k i (ofL sl bl) (b ++ Zac (Zab ops i k) sl)=some ((b ++ Zac (Zab ops i k) sl).map (fun q=>some q.2),eW a):=by kernel_rfl)(c:Nat.ble (i+k) n=true:=by kernel_rfl):StI P N S0 w0 ops Φ0 Q n i (ofL sl bl) Φ:=Zie k _ _ h c K
theorem xqg {n i:Nat}(k:Nat)(a:SlL)(K:StI P N S0 w0 ops Φ0 Q n (i+k) (ofL (a ++ Zac (Zab ops i k) sl) bl) Φ)(h:Zb1 P N ops k i (ofL sl bl) (a ++ Zac (Zab ops i k) sl)=some ((a ++ Zac (Zab ops i k) sl).map (fun q=>some q.2),eW bl):=by kernel_rfl)(b:Nat.ble (i+k) n=true:=by kernel_rfl):StI P N S0 w0 ops Φ0 Q n i (ofL sl bl) Φ:=Zie k _ _ h b K
theorem xqc {i:Nat}(f:FuncId)(args:List Value)(d:Nat){α:Type}(sh:α→Value)(φ:α→World→Prop)(b:∀ w,Fr S0 w0 w→Φ w→Calls P f args.toArray w (wV sh φ w))(K:∀ x,SXi P N S0 w0 ops Q (i+1) (ofL ((d,.v (sh x)) :: sl) bl) (fun w=>Φ w∧φ x w))(a:Nat.blt i ops.size=true:=by kernel_rfl)(h:gF P N ops (opAt ops i) (ofL sl bl)=some (f,args,d):=by kernel_rfl):SXi P N S0 w0 ops Q i (ofL sl bl) Φ:=Zkk f args d sh φ a h b K
theorem xqd {n i:Nat}(f:FuncId)(args:List Value)(d:Nat){α:Type}[c:Nonempty α](sh:α→Value)(φ:α→World→Prop)(a:∀ w,Fr S0 w0 w→Φ w→Calls P f args.toArray w (wV sh φ w))(K:∀ x,StI P N S0 w0 ops Φ0 Q n (i+1) (ofL ((d,.v (sh x)) :: sl) bl) (fun w=>Φ w∧φ x w))(hi:Nat.blt i n=true:=by kernel_rfl)(b:cls (opAt ops i).op=2:=by kernel_rfl)(h:gF P N ops (opAt ops i) (ofL sl bl)=some (f,args,d):=by kernel_rfl):StI P N S0 w0 ops Φ0 Q n i (ofL sl bl) Φ:=Zkl f args d sh φ hi b h a K
theorem xqk {i:Nat}(d:Nat)(y:Value)(a:∀ w,Fr S0 w0 w→Φ w→(execOp (ofL sl bl).rho (opAt ops i)).run P w=.ok (.value y) w)(K:SXi P N S0 w0 ops Q (i+1) (ofL ((d,.v y) :: sl) bl) Φ)(hi:Nat.blt i ops.size=true:=by kernel_rfl)(b:kM (opAt ops i).op=true:=by kernel_rfl)(c:(ofL sl bl).wantB ops (opAt ops i)=some true:=by kernel_rfl)(e:(opAt ops i).op.operands.toList.all (ofL sl bl).vB=true:=by kernel_rfl)(f:(opAt ops i).dst=some d:=by kernel_rfl)(g:Nat.blt d N=true:=by kernel_rfl):SXi P N S0 w0 ops Q i (ofL sl bl) Φ :=
 gG d y hi b c e f g a K
theorem xqj {n i:Nat}(d:Nat)(y:Value)(a:∀ w,Φ0 w→(execOp (ofL sl bl).rho (opAt ops i)).run P w=.ok (.value y) w)(K:StI P N S0 w0 ops Φ0 Q n (i+1) (ofL ((d,.v y) :: sl) bl) Φ)(hi:Nat.blt i n=true:=by kernel_rfl)(b:Zdo (opAt ops i).op=true:=by kernel_rfl)(c:(ofL sl bl).wantB ops (opAt ops i)=some true:=by kernel_rfl)(e:(opAt ops i).op.operands.toList.all (ofL sl bl).vB=true:=by kernel_rfl)(f:(opAt ops i).dst=some d:=by kernel_rfl)(g:Nat.blt d N=true:=by kernel_rfl):StI P N S0 w0 ops Φ0 Q n i (ofL sl bl) Φ :=
 ZaJ d y hi b c e f g a K
end
section
variable {N:Nat} {S0:Nat→Prop} {w0:World} {s:St} {Φ Ψ:World→Prop} {L:Nat→Nat} {a:Act} {w:World} {P:Program} {ops:Array Oper} {Q:Exit→Act→World→Prop}
theorem Za8 {i d b:Nat}{t:TypeId}{cs:Array Value}{α:Type}(f:FuncId)(args:List Value)(sh:α→Value)(e:α→Array Value)(φ:α→World→Prop)(Ψ:World→Prop)(o:∀ w,Φ w→Blk t w b cs)(p:0<cs.size)(g:w0.heap.size≤b∨S0 b)(q:∀ w,Fr S0 w0 w→Φ w→Calls P f args.toArray w (fun en w'=>∃ x,en=.returned (sh x)∧Fr (fun i=>i=b) w w'∧Blk t w' b (e x)∧BoxN w w' (φ x)))(r:∀ w w',Φ w→Fr (fun i=>i=b) w w'→Ψ w')(K:∀ x,SXi P N S0 w0 ops Q (i+1) (s.put d (.v (sh x))) (fun w=>(Ψ w∧Blk t w b (e x))∧φ x w))(l:Nat.blt i ops.size=true:=by kernel_rfl)(h:gF P N ops (opAt ops i) s=some (f,args,d):=by kernel_rfl):SXi P N S0 w0 ops Q i s Φ:=by
 obtain⟨u,y,z,A,B,C,D⟩:=gK h
 unfold SXi
 rw[iX l]
 intro L a w hi
 refine wpList_step fun T E=>?_
 rw[vC (hi.want u)]
 unfold Oper.wp
 rw[hi.exec A B,Zal y C,Oper.upon_enter]
 refine Calls.mono (q w hi.mem.ext hi.box.self) fun en w' F=>?_
 obtain⟨x,rfl,G,m,n⟩:=F
 simp only[z]
 have H:=hi.app0 (d:=d) D (al_v (s:=s) (sh x))
 have k:=H.eff (Ψ:=fun w=>Ψ w∧Blk t w b (e x)) G (hi.notOwn (c:=cs[0]'p) (j:=0) (fun w R=>by have:=(o w R).cell 0;rw[this];simp[p])) g (o w hi.box.self).lt (fun I J M O S=>⟨r I J M O,S.trans m⟩)
 exact E _ _ (K x L _ _ ⟨k.size,k.df,k.sl,k.mem,k.box.and (n _ (fun i h=>hi.own_nrb h))⟩)
end
def frz (b g:Nat):AV→AV
 | .v x=>.v x
 | .p b' off=>bif Nat.beq b' b then .v (.pointer (some ⟨g,off,none⟩)) else .p b' off
theorem Ziu (L:Nat→Nat)(b:Nat)(x:AV):(frz b (L b) x).conc L=x.conc L:=by
 cases x with
 | v x=>rfl
 | p b' off =>
  show (bif Nat.beq b' b then AV.v (.pointer (some ⟨L b,off,none⟩)) else .p b' off).conc L=_
  cases h:Nat.beq b' b with
  | true =>
   have e:=pB h
   subst e
   rfl
  | false=>rfl
section
variable {N:Nat} {S0:Nat→Prop} {w0:World} {s:St} {Φ:World→Prop} {P:Program} {Q:Exit→Act→World→Prop}
theorem SXc.freeze {c:Code}(b:Nat)(t:TypeId)(cs:List Value)(k:Nat→SlL)(j:BlL)(z:s.bl b=some (t,cs.map .v))(E:∀ g,(k g).map (fun q=>(s.sl q.1).map (frz b g))=(k g).map (fun q=>some q.2))(F:j.map (fun q=>s.bl q.1)=j.map (fun q=>some q.2))(G:j.all (fun q => !(Nat.beq q.1 b))=true)(H:∀ g,wfB (k g) j=true)(h:∀ g,SXc P N S0 w0 Q c (ofL (k g) j) (fun w=>Φ w∧Blk t w g cs.toArray)):SXc P N S0 w0 Q c s Φ:=by
 intro L a w hi
 refine h (L b) L a w ?_
 have m:=H (L b)
 unfold wfB at m
 rw[tD] at m
 have r:∀ i x,(ofL (k (L b)) j).bl i=some x→s.bl i=some x:=fun i x o=>iS (f:=fun q:Nat × TypeId×List AV=>s.bl q.1) (g:=fun q=>some q.2) F (lR o)
 have A:∀ i x,(ofL (k (L b)) j).bl i=some x→i≠b:=fun i x o e=>by
  have:=uZ.1 G _ (lR o)
  simp[e] at this
 have l:∀ i,((ofL (k (L b)) j).bl i).isSome=true→(s.bl i).isSome=true∧i≠b:=fun i u=>by
  obtain⟨q,e⟩:=sC.1 u
  exact⟨by rw[r i q e];rfl,A i q e⟩
 have n:(s.bl b).isSome=true:=by rw[z];rfl
 have I:=hi.mem.blk b t _ z
 refine⟨hi.size,hi.df,fun i x o=>?_,⟨fun c t cs e=>hi.mem.blk c t cs (r c _ e),fun c d p J=>hi.mem.inj c d (l c p).1 (l d J).1,fun c p=>hi.mem.old c (l c p).1,hi.mem.ext,fun i c B e=>?_,fun c t cs e x o=>⟨(hi.mem.cel c t cs (r c _ e) x o).1,fun d B K=>?_⟩⟩,fun w' C=>⟨hi.box w' (C.mono (fun i _ u=>?_)),?_⟩⟩
 ·have D:=iS (f:=fun q:Nat × AV=>(s.sl q.1).map (frz b (L b))) (g:=fun q=>some q.2) (E (L b)) (lR o)
  simp only at D
  obtain⟨y,M,e⟩:=vJ.1 D
  have:=hi.sl i y M
  rw[this,← e,Ziu]
 ·exact uZ.1 m.1 _ (lR e)
 ·have:=uZ.1 (uZ.1 m.2 _ (lR e)) x o
  rw[K] at this
  exact this
 ·obtain⟨c,p,e⟩:=u
  exact⟨c,(l c p).1,e⟩
 have:Blk t w (L b) cs.toArray:=by simpa [qL,Function.comp_def,AV.conc] using I
 refine this.fr C fun⟨c,p,e⟩=>?_
 exact (l c p).2 (hi.mem.inj c b (l c p).1 n e)
end
section
variable {N:Nat} {S0:Nat→Prop} {w0:World} {s:St} {Φ Ψ:World→Prop} {L:Nat→Nat} {a:Act} {w:World} {P:Program} {ops:Array Oper} {Q:Exit→Act→World→Prop}
end
section
variable {N:Nat} {S0:Nat→Prop} {w0:World} {s:St} {Φ Ψ:World→Prop} {L:Nat→Nat} {a:Act} {w:World} {P:Program} {ops:Array Oper} {Q:Exit→Act→World→Prop}
theorem ZrM {c:Code}{sl:SlL}{tmps:Array Value}(m:tmps.size=N)(k:sl.map (fun q=>tmps[q.1]?.map AV.v)=sl.map (fun q=>some q.2))(R:Box (fun _=>False) w Φ)(h:SXc P N S0 w Q c (ofL sl []) Φ):c.wp P Q { tmps:=tmps,defers:=[] } w:=by
 refine h (fun _=>0) _ w ⟨m,rfl,fun i x n=>?_,⟨fun b t o e=>(by cases e),fun b c e=>(by cases e),fun b e=>(by cases e),Fr.refl _ _,fun i b off e=>?_,fun b t o e=>(by cases e)⟩,?_⟩
 ·have d:=iS (f:=fun q:Nat × AV=>tmps[q.1]?.map AV.v) (g:=fun q=>some q.2) k (lR n)
  obtain⟨v,l,rfl⟩:=vJ.1 d
  exact l
 ·have d:=iS (f:=fun q:Nat × AV=>tmps[q.1]?.map AV.v) (g:=fun q=>some q.2) k (lR e)
  obtain⟨v,l,e'⟩:=vJ.1 d
  cases e'
 intro w' j
 exact R w' (j.mono (fun i _ p=>by obtain⟨b,e,_⟩:=p;cases e))
end
section
variable {N:Nat} {S0:Nat→Prop} {w0:World} {s:St} {Φ Ψ:World→Prop} {L:Nat→Nat} {a:Act} {w:World} {P:Program} {ops:Array Oper} {Q:Exit→Act→World→Prop}
theorem SXc.freezeN {c:Code}(b:Nat)(t:TypeId)(cs:List Value)(k:Nat→SlL)(j:BlL)(r:s.bl b=some (t,cs.map .v))(E:∀ g,(k g).map (fun q=>(s.sl q.1).map (frz b g))=(k g).map (fun q=>some q.2))(F:j.map (fun q=>s.bl q.1)=j.map (fun q=>some q.2))(G:j.all (fun q => !(Nat.beq q.1 b))=true)(H:∀ g,wfB (k g) j=true)(h:∀ g,(w0.heap.size≤g∨S0 g)→SXc P N S0 w0 Q c (ofL (k g) j) (fun w=>Φ w∧Blk t w g cs.toArray)):SXc P N S0 w0 Q c s Φ:=by
 intro L a w hi
 refine h (L b) (hi.mem.old b (by rw[r];rfl)) L a w ?_
 have m:=H (L b)
 unfold wfB at m
 rw[tD] at m
 have u:∀ i x,(ofL (k (L b)) j).bl i=some x→s.bl i=some x:=fun i x o=>iS (f:=fun q:Nat × TypeId×List AV=>s.bl q.1) (g:=fun q=>some q.2) F (lR o)
 have A:∀ i x,(ofL (k (L b)) j).bl i=some x→i≠b:=fun i x o e=>by
  have:=uZ.1 G _ (lR o)
  simp[e] at this
 have l:∀ i,((ofL (k (L b)) j).bl i).isSome=true→(s.bl i).isSome=true∧i≠b:=fun i z=>by
  obtain⟨q,e⟩:=sC.1 z
  exact⟨by rw[u i q e];rfl,A i q e⟩
 have n:(s.bl b).isSome=true:=by rw[r];rfl
 have I:=hi.mem.blk b t _ r
 refine⟨hi.size,hi.df,fun i x o=>?_,⟨fun c t cs e=>hi.mem.blk c t cs (u c _ e),fun c d p J=>hi.mem.inj c d (l c p).1 (l d J).1,fun c p=>hi.mem.old c (l c p).1,hi.mem.ext,fun i c B e=>?_,fun c t cs e x o=>⟨(hi.mem.cel c t cs (u c _ e) x o).1,fun d B K=>?_⟩⟩,fun w' C=>⟨hi.box w' (C.mono (fun i _ z=>?_)),?_⟩⟩
 ·have D:=iS (f:=fun q:Nat × AV=>(s.sl q.1).map (frz b (L b))) (g:=fun q=>some q.2) (E (L b)) (lR o)
  simp only at D
  obtain⟨y,M,e⟩:=vJ.1 D
  have:=hi.sl i y M
  rw[this,← e,Ziu]
 ·exact uZ.1 m.1 _ (lR e)
 ·have:=uZ.1 (uZ.1 m.2 _ (lR e)) x o
  rw[K] at this
  exact this
 ·obtain⟨c,p,e⟩:=z
  exact⟨c,(l c p).1,e⟩
 have:Blk t w (L b) cs.toArray:=by simpa [qL,Function.comp_def,AV.conc] using I
 refine this.fr C fun⟨c,p,e⟩=>?_
 exact (l c p).2 (hi.mem.inj c b (l c p).1 n e)
end
section
variable {N:Nat} {S0:Nat→Prop} {w0:World} {s:St} {Φ Ψ:World→Prop} {L:Nat→Nat} {a:Act} {w:World} {P:Program} {ops:Array Oper} {Q:Exit→Act→World→Prop}
end
section
variable {P:Program} {ops:Array Oper} {Q:Exit→Act→World→Prop} {a:Act} {w:World} {l:List Oper} {o:Oper}
def mvB (o:Oper):Bool:=match o.op with
 | .move _ | .assign _ | .extract _ _=>o.dst.isSome
 | _=>false
theorem Zm6 (hm:mvB o=true)(h:wpList P ops Q (o :: l) a w):∃ v,Yields P ops o v a∧wpList P ops Q l (a.put o.dst v) w:=by
 unfold wpList at h
 by_cases b:Region.wanted o (yielded ops a.tmps)=true
 ·rw[vC b] at h
  unfold mvB at hm
  cases ho:o.op<;>rw[ho] at hm<;>first | (cases hm;done)|skip
  ·rename_i x
   refine⟨a.eval x,Or.inl ⟨b,fun w=>by simp[execOp,ho]⟩,?_⟩
   rcases h with h|⟨⟨h,_⟩,_⟩
   ·simpa [Oper.wp,Oper.upon,execOp,ho] using h
   simp only[execOp,ho] at h
   exact absurd (show noRoomEvent∈(#[]:Array Event) from h) qS
  ·rename_i x
   refine⟨a.eval x,Or.inl ⟨b,fun w=>by simp[execOp,ho]⟩,?_⟩
   rcases h with h|⟨⟨h,_⟩,_⟩
   ·simpa [Oper.wp,Oper.upon,execOp,ho] using h
   simp only[execOp,ho] at h
   exact absurd (show noRoomEvent∈(#[]:Array Event) from h) qS
  rename_i x f
  have d:(∃ v,Instr.extract (a.eval x) f=pure v)∨∃ m,Instr.extract (a.eval x) f=stuck m:=by
   unfold Instr.extract
   split
   ·split
    ·exact Or.inl ⟨_,rfl⟩
    exact Or.inr ⟨_,rfl⟩
   exact Or.inr ⟨_,rfl⟩
  rcases d with ⟨v,c⟩|⟨m,c⟩
  ·refine⟨v,Or.inl ⟨b,fun w=>by simp[execOp,ho,c]⟩,?_⟩
   rcases h with h|⟨⟨h,_⟩,_⟩
   ·simpa [Oper.wp,Oper.upon,execOp,ho,c] using h
   simp only[execOp,ho,c] at h
   exact absurd (show noRoomEvent∈(#[]:Array Event) from h) qS
  rcases h with h|⟨⟨h,_⟩,_⟩
  ·simp only[Oper.wp,execOp,ho,c] at h
   exact absurd (show False from h) (fun e=>e)
  simp only[execOp,ho,c] at h
  exact absurd (show noRoomEvent∈(#[]:Array Event) from h) qS
 rw[uO b] at h
 exact⟨undef,Or.inr ⟨by simpa using b,rfl⟩,h⟩
def seqA (ops:Array Oper):Nat→Nat→Array Bool→Bool
 | 0,_,listed=>(Region.ready .any ops listed).isEmpty
 | g+1,k,listed=>(decide (Region.ready .any ops listed=[k]) || (mvB (opAt ops k) && (Region.free .any ops listed k && (Region.ready .any ops listed).contains k))) && seqA ops g (k+1) (listed.setIfInBounds k true)
theorem Zat (g:Region.noSelect ops=true)(m:∀ (c:_) (a:Act) (w:World) (d:Nat) (v:Value),Q (.panic c) (a.put (some d) v) w→Q (.panic c) a w):∀ (l:List Oper) (k:Nat) (b:Array Bool) (a:Act) (w:World),(∀ j,l[j]? = ops[k+j]?) →
 seqA ops l.length k b=true→wpList P ops Q l a w→wpAny P .any ops Q l.length b a w
 | [],_,_,_,_,_,hB,h=>⟨by simpa [seqA] using hB,h⟩
 | o :: l,k,b,a,w,hl,hB,h=>by
  have f:ops[k]? = some o:=by simpa using (hl 0).symm
  have e:∀ j,l[j]? = ops[k+1+j]? := fun j=>by have:=hl (j+1);simpa [tS,vP 1 j] using this
  simp only[sE,seqA,tD,qT,vR] at hB
  obtain⟨h1|⟨h1,h2,r⟩,hB⟩:=hB
  ·refine⟨fun h2=>(by rw[h1] at h2;cases h2),fun i hi=>?_⟩
   rw[h1] at hi
   have n:i=k:=by simpa using hi
   subst n
   have p:wpOp P ops Q i (wpList P ops Q l) a w:=by unfold wpOp;simp only[f];exact h
   exact wpOp_mono (fun s w' t=>Zat g m l (i+1) _ s w' e hB t) p
  have q:opAt ops k=o:=rK ((kY (rU.1 f).1).symm.trans f)
  rw[q] at h1
  obtain⟨v,u,p⟩:=Zm6 h1 h
  obtain⟨d,hd⟩:∃ d,o.dst=some d:=by
   unfold mvB at h1
   cases hd:o.dst with
   | some d=>exact⟨d,rfl⟩
   | none=>rw[hd] at h1;split at h1<;>cases h1
  exact wpAny_take f g h2 r (fun c a w h=>by rw[hd] at h;exact m c a w d v h) u (Zat g m l (k+1) _ _ w e hB p)
end
section
variable {N:Nat} {S0:Nat→Prop} {w0:World} {s:St} {Φ Φ0:World→Prop} {L:Nat→Nat} {a:Act} {w:World} {P:Program} {ops:Array Oper} {Q:Exit→Act→World→Prop} {fin:St→(World→Prop)→Prop}
def ZlD (R:Nat→Nat→Bool) (ops:Array Oper) (n i:Nat):Bool:=(List.range ops.size).all fun t=>decide (t<n) || R t i
theorem Ziw (K:Nat)(ops:Array Oper):Zbo ops (bU .any ops K):=fun _ c j _ h b=>Za0 c K j h b
theorem Zm7 {R:Nat→Nat→Bool}{n i j:Nat}{b:Array Bool}(f:Zbo ops R)(g:ZlD R ops n i=true)(h:eI .any ops b)(hi:b.getD i true=false)(k:j∈Region.ready .any ops b):j<n:=by
 obtain⟨_,l,d,e⟩:=mem_ready.1 k
 have c:=uZ.1 g j (sV.2 (rU.1 d).1)
 simp only[qT,vR] at c
 rcases c with c|c
 ·exact c
 have h2:=f b h j i c (fun o m=>by
  have:o=l:=rK (m.symm.trans d)
  subst this
  exact e)
 rw[getD_both hi] at h2
 cases h2
theorem ZlE {s0:St}{n:Nat}{R:Nat→Nat→Bool}(hR:Zbo ops R)(hu:cH ops=true)(hn:n≤ops.size)(t:aY ops=true)(E:Region.noSelect ops=true)(hQ:∀ (c:_) (a:Act) (w:World) (d:Nat) (v:Value),Q (.panic c) (a.put (some d) v) w→Q (.panic c) a w)(u:Zbn R ops s0 n=true)(F:seqA ops (ops.size-n) n (iG ops n)=true)(V:∃ w,Φ0 w)(G:∀ s Φ,fin s Φ→∀ L a w,Inv N S0 w0 s Φ L a w→wpList P ops Q (ops.toList.drop n) a w) :
 ∀ (k:Nat) (listed:Array Bool) (s:St) (Φ:World→Prop) (L:Nat→Nat) (a:Act) (w:World),(un n listed).length=k→listed.size=ops.size→(∀ i,n≤i→i<ops.size→listed.getD i true=false)→(∀ i,i∈un n listed→ZlD R ops n i=true)→eI .any ops listed →
 BI ops s0 s→(∀ w,Φ w→Φ0 w)→Inv N S0 w0 s Φ L a w→Strat P N S0 w0 ops Φ0 fin (un n listed) s Φ→wpAny P .any ops Q (k+(ops.size-n)) listed a w:=by
 intro k
 induction k with
 | zero =>
  intro listed s Φ L a w hk f z _ m A S hi hS
  have q:un n listed=[]:=vZ.1 hk
  rw[q] at hS
  have r:listed=iG ops n:=by
   refine Array.ext (by simp[iG,f];omega) fun i b h2=>?_
   have B:i<ops.size:=by rw[←f];exact b
   have e:listed.getD i true=listed[i]:=by simp[b]
   rw[←e]
   by_cases C:i<n
   ·have:listed.getD i true≠false:=fun h=>by
     have:=jC.2 ⟨C,h⟩
     rw[q] at this
     cases this
    simp only[iG,oC]
    rw[List.getElem_append_left (by simpa using C),qV]
    cases h:listed.getD i true with
    | true=>rfl
    | false=>exact absurd h this
   rw[z i qO B]
   simp only[iG,oC]
   rw[List.getElem_append_right (by simpa using C),qV]
  have H:(ops.toList.drop n).length=ops.size-n:=qS
  cases hS with
  | done hf =>
   have:=Zat E hQ (ops.toList.drop n) n listed a w (fun j=>qS) (by rw[H,r];exact F) (G _ _ hf L a w hi)
   rw[H] at this
   rw[vW];exact this
 | succ k ih =>
  intro listed s Φ L a w hk f z g m A S hi hS
  rw[show k+1+(ops.size-n)=(k+(ops.size-n))+1 by omega]
  obtain⟨x,R',D⟩:∃ x R,un n listed=x :: R:=by
   cases h:un n listed with
   | nil=>rw[h] at hk;cases hk
   | cons x R=>exact⟨x,R,rfl⟩
  have W:=jC.1 (by rw[D];exact rM:x∈un n listed)
  have I:∀ i,i<x→listed.getD i true=true:=fun i f0=>by
   cases h:listed.getD i true with
   | true=>rfl
   | false =>
    have:=jC.2 ⟨(by omega:i<n),h⟩
    rw[D] at this
    have J:=fV n listed
    rw[D] at J
    rcases pG.1 this with e|e
    ·omega
    have:=(List.pairwise_cons.1 J).1 i e;omega
  have hxr:x∈Region.ready .any ops listed:=by
   have p:x<ops.size:=qO
   refine mem_ready.2 ⟨W.2,opAt ops x,kY p,fun e he X=>?_⟩
   have b:=uZ.1 t x (sV.2 p)
   rw[kY p] at b
   have K:=Array.all_eq_true'.1 b e he
   rw[X] at K
   have h2:=vQ K
   have h3:=I e.on h2
   have h4:e.on<listed.size:=by rw[f];exact qJ h2 p
   simp[h4] at h3 ⊢;exact h3
  refine⟨fun h=>(by rw[h] at hxr;cases hxr),fun j hj=>?_⟩
  have M:j<n:=Zm7 hR (g x (jC.2 W)) m W.2 hj
  obtain⟨O,oj,Y,T⟩:=mem_ready.1 hj
  have Z:j∈un n listed:=jC.2 ⟨M,O⟩
  obtain⟨l1,l2,r⟩:=List.append_of_mem Z
  have J:=fV n listed
  rw[r] at J
  have a0:∀ y,y∈l1→y<ops.size∧(opAt ops y).apart ops (opAt ops j)=true∧(iF (opAt ops y).op (opAt ops j).op=true∨(lsB (opAt ops y).op (opAt ops j).op=true∧farB ops s0 (opAt ops y) (opAt ops j)=true)):=fun y hy=>by
   have b0:y<j:=(List.pairwise_append.1 J).2.2 y hy j rM
   have c0:=(jC.1 (by rw[r];exact List.mem_append_left _ hy:y∈un n listed)).2
   have b:=uZ.1 (uZ.1 u j (sV.2 M)) y (sV.2 b0)
   rw[qT] at b
   rcases b with b|b
   ·have h2:=hR listed m j y b (fun o ho=>by
     have:o=oj:=rK (ho.symm.trans Y)
     subst this
     exact T)
    rw[getD_both c0] at h2
    cases h2
   simp only[tD,qT] at b
   exact⟨qO,b⟩
  rw[r] at hS
  have d0:=Strat.front hu V l1 l2 s Φ hi.wf A a0 hS
  refine Strat.exec hu A qO hi S d0 fun s' Φ' L' a' w' U e0 B K'=>?_
  have l:=Zfs r
  refine ih (listed.setIfInBounds j true) s' Φ' L' a' w' ?_ (by simp[f]) (fun i b h2=>?_) (fun i b=>g i (by rw[l] at b;rw[r];rcases sN.1 b with h2|h2;exact List.mem_append_left _ h2;exact List.mem_append_right _ (List.mem_cons_of_mem _ h2))) (m.set hj) U e0 B (by rw[l];exact K')
  ·rw[l]
   rw[r] at hk
   simp only[vA,sE] at hk ⊢
   omega
  rw[getD_set_ne true qO];exact z i b h2
theorem ZoO {id:Nat}(K n:Nat){sl:SlL}{f:BlL}(h:StI P N S0 w0 ops Φ Q n 0 (ofL sl f) Φ)(hI:Zct ops sl=true:=by kernel_rfl)(k:P.follows .mixedOrders=true:=by exact zP)(g:(Nat.ble n ops.size && (cH ops && aY ops && ((List.range n).all (fun i=>ZlD (bU .any ops K) ops n i) && (Zbn (bU .any ops K) ops (ofL sl f) n && seqA ops (ops.size-n) n (iG ops n)))))=true:=by kernel_rfl)(l:Region.noSelect ops=true:=by kernel_rfl)(m:∀ (c:_) (a:Act) (w:World) (d:Nat) (v:Value),Q (.panic c) (a.put (some d) v) w→Q (.panic c) a w:=by exact fun _ _ _ _ _ h=>h):SXc P N S0 w0 Q (.region id ops true) (ofL sl f) Φ:=by
 simp only[tD] at g
 obtain⟨o,⟨p,q⟩,r,t,u⟩:=g
 have x:=vQ o
 intro L a w hi
 refine wp_region_any k ?_
 have e:un n (Array.replicate ops.size false)=List.range n:=by
  unfold un
  refine List.filter_eq_self.2 fun i b=>?_
  have:=sV.1 b
  simp[show i<ops.size by omega]
 have:=ZlE (Ziw K ops) (Q:=Q) (fin:=fun s Φ=>SXi P N S0 w0 ops Q n s Φ) p x q l m t u ⟨w,hi.box.self⟩ (fun s Φ y L a w b=>y L a w b) (un n (Array.replicate ops.size false)).length (Array.replicate ops.size false) _ Φ L a w.drew rfl qS
  (fun i _ z=>by simp[z]) (fun i b=>by rw[e] at b;exact uZ.1 r i b) (fun j A _ hl=>by rw[getD_replicate_false] at hl;cases hl) (BI.init hI) (fun _ h=>h) hi.drew (by rw[e,List.range_eq_range'];exact h)
 rw[e,List.length_range,show n+(ops.size-n)=ops.size by omega] at this
 exact this
end
structure TermR where
 coef:ByteArray
 A:Option Addr
 cap:Nat
 exps:List Int
instance:Inhabited TermR:=⟨⟨⟨#[]⟩,none,0,[]⟩⟩
section
variable {P:Program} {o:Oper} {ρ:Operand→Value} {w:World} {t e:TypeId} {x ix:Operand}
theorem wY {A:qA}{len cap i sz:Nat}(hA:A≠none)(h:i<len)(c:o.op=Op.indexAddr t x ix:=by kernel_rfl)(d:P.underlying t=some (.slice e):=by kernel_rfl)(f:(P.info? e).map (fun i=>i.size)=some sz:=by kernel_rfl)(g:ρ x=.slice A len cap:=by kernel_rfl)(hi:ρ ix=.int .i64 (i:Int):=by kernel_rfl):(execOp ρ o).run P w=.ok (.value (atA A (i*sz))) w:=by
 obtain⟨j,b,k⟩:=vJ.1 f
 obtain⟨a,rfl⟩:∃ a,A=some a:=by cases A;exact absurd rfl hA;exact⟨_,rfl⟩
 have l:(0:Int)≤(i:Int)∧(i:Int)<(len:Int):=qO
 simp[execOp,c,Instr.indexAt,asIntOf,underlying,d,g,hi,h,sizeOf,typeInfo,b,k,Result.andThen,atA]
theorem Zks {bt:TypeId}{g:Nat}{cs:List Value}(b:Blk bt w g cs.toArray)(c:o.op=Op.load t x:=by kernel_rfl)(d:ρ x=.pointer (some ⟨g,0,none⟩):=by kernel_rfl)(ha:(teOf P t).map (fun e=>(e.agg,e.size))=some (true,cs.length):=by kernel_rfl) :
 (execOp ρ o).run P w=.ok (.value (.agg cs.toArray)) w:=by
 obtain⟨f,a,h⟩:=vJ.1 ha
 injection h with ha hn
 have:=bT (P:=P) (w:=w) a (g:=g) (off:=0) (cs:=cs) hn.symm (fun i hi=>by rw[vW,b.cell];simp[hi]) ha
 simp only[execOp,c,d,Sem.run_bind,this,Result.andThen_ok,Sem.run_pure]
end
theorem xD {w w':World}{e:Ending}{n:Nat}(h:lB w n e w'):wV xH (fun x w=>zF w (xH x) n) w e w':=by
 obtain⟨v,rfl,a,Q⟩:=h
 obtain⟨A,l,c,rfl⟩:=a.slice
 exact⟨(A,l,c),rfl,Q,boxn Q (fun S b d f=>a.nrb d f)⟩
theorem fQ {P:Program}{o:Oper}{ρ:Operand→Value}{w:World}{y:Value}{f:FuncId}{args:List Operand}{ts:Array TypeId}{a:List Value}(h:(callFunc f a.toArray).run P w=.ok (.value y) w)(b:o.op=.call { callee:=.value (.func f),args:=args.toArray,argTypes:=ts }:=by kernel_rfl)(c:args.map ρ=a:=by kernel_rfl)(d:ρ (.func f)=.func (.func f) #[] #[]:=by kernel_rfl):(execOp ρ o).run P w=.ok (.value y) w:=by
 subst c
 have e:(#[] ++ args.toArray.map ρ ++ #[]:Array Value)=(args.map ρ).toArray:=qS
 simp only[execOp,b,resolve,d,Deferred.ofValue,Sem.run_bind,Sem.run_pure,Result.andThen_ok,invoke,e,h]
theorem tdq (a c:Nat)(h:a<9223372036854775808):IntKind.i64.wrap (((a:Nat):Int).tdiv (c:Int))=((a/c:Nat):Int):=by
 rw[←Int.ofNat_tdiv,IntKind.wrap_i64]
 have:=uY a c
 generalize a/c=q at *
 omega
theorem tdr (a c:Nat):(((a:Nat):Int).tmod (c:Int))=((a%c:Nat):Int):=(Int.ofNat_tmod a c).symm
theorem lG {a b:Int}(h:((a:Int) == b)=false):a≠b:=by simpa using h
theorem Zbs {a b:Int}(h:((a:Int) != b)=true):a≠b:=by simpa using h
theorem Zbt {a b:Int}(h:((a:Int) != b)=false):a=b:=by simpa using h
section
variable {P:Program} {o:Oper} {ρ:Operand→Value} {w:World} {x y:Operand} {t k:TypeId}
theorem Ziz {a n:Nat}(h:n≤64)(b:o.op=Op.binOp .shr t x y k:=by kernel_rfl)(c:ρ x=.int .u64 (a:Int):=by kernel_rfl){ky:IntKind}(d:ρ y=.int ky (n:Int):=by kernel_rfl):(execOp ρ o).run P w=.ok (.value (.int .u64 ((a/2^n:Nat):Int))) w:=by
 have e:¬ ((n:Int)<0):=qO
 have f:min ((n:Int)).toNat IntKind.u64.bits=n:=by show min ((n:Int)).toNat 64=n;omega
 have g:((a:Int)).fdiv (2^n)=((a/2^n:Nat):Int):=by
  rw[Int.fdiv_eq_ediv_of_nonneg _ (by rw[show ((2:Int)^n)=((2^n:Nat):Int) by rw[tE];rfl];exact pN _)]
  exact ZaY a n
 simp only[execOp,b,c,d,eqGuard,binOp,Op.shift,uO e,f,g]
 rfl
theorem ZiA {a n:Nat}(g:n≤64)(b:o.op=Op.binOp .shl t x y k:=by kernel_rfl)(c:ρ x=.int .u64 (a:Int):=by kernel_rfl){ky:IntKind}(d:ρ y=.int ky (n:Int):=by kernel_rfl):(execOp ρ o).run P w=.ok (.value (.int .u64 ((a*2^n%W64:Nat):Int))) w:=by
 have e:¬ ((n:Int)<0):=qO
 have f:min ((n:Int)).toNat IntKind.u64.bits=n:=by show min ((n:Int)).toNat 64=n;omega
 simp only[execOp,b,c,d,eqGuard,binOp,Op.shift,uO e,f,aE]
 rfl
theorem ZpW {a b r:Nat}(ha:a<W64)(c:b<W64)(h:a ||| b=r)(d:o.op=Op.binOp .or t x y k:=by kernel_rfl)(e:ρ x=.int .u64 (a:Int):=by kernel_rfl)(f:ρ y=.int .u64 (b:Int):=by kernel_rfl):(execOp ρ o).run P w=.ok (.value (.int .u64 (r:Int))) w:=by
 have:=dX ha c
 rw[h] at this
 rw[←this]
 simp only[execOp,d,e,f,eqGuard,binOp]
 rfl
end
theorem lI {B:Nat}{xs:qN}(k:Nat):val B (xs.take (k+1))=val B (xs.take k)+B^k*(xs[k]?.getD 0):=by
 rcases vL k xs.length with h|h
 ·exact zU k h
 rw[uC qO,uC h,vN h];simp
/-! ### plus,minus -/
def ZaB (xs ys:List Nat) (k:Nat) (zs:List Nat) (c:Nat):Prop :=
 zs.length=xs.length+1∧Dig W64 zs∧c≤1∧val W64 (zs.take k)+W64^k*c=val W64 (xs.take k)+val W64 (ys.take k)
theorem ZaB.start (xs ys:qN):ZaB xs ys 0 (List.replicate (xs.length+1) 0) 0:=⟨qS,Dig.replicate zM _,qO,qS⟩
theorem ZaB.step {xs ys zs:qN}{k c x y:Nat}(h:ZaB xs ys k zs c)(l:k<xs.length)(a:xs[k]?.getD 0=x)(b:ys[k]?.getD 0=y)(d:Dig W64 xs)(e:Dig W64 ys):ZaB xs ys (k+1) (zs.set k (xG x y c)) (xL x y c):=by
 obtain⟨f,g,i,j⟩:=h
 refine⟨by simpa using f,g.set k (dB _ _ _),Zcj (a ▸ d.getD zM k) (b ▸ e.getD zM k) i,?_⟩
 rw[xJ _ _ _ _ qO,lI k,lI k,a,b,uN]
 exact ZaT _ _ _ _ _ _ _ _ _ _ j (fF x y c)
theorem ZaB.done {xs ys zs:qN}{c:Nat}(h:ZaB xs ys xs.length zs c)(a:ys.length≤xs.length):(zs.set xs.length c).length=xs.length+1∧Dig W64 (zs.set xs.length c)∧val W64 (zs.set xs.length c)=val W64 xs+val W64 ys:=by
 obtain⟨b,d,g,f⟩:=h
 have e:(zs.set xs.length c).length=xs.length+1:=by simpa using b
 refine⟨e,d.set _ (by have:=fM;omega),?_⟩
 rw[←uC (l:=zs.set xs.length c) (i:=xs.length+1) qO,xJ _ _ _ _ qO,f,uC (uF _),uC a]
def MinR (xs ys:List Nat) (k:Nat) (zs:List Nat) (c:Nat):Prop :=
 zs.length=xs.length∧Dig W64 zs∧c≤1∧val W64 (zs.take k)+val W64 (ys.take k)=val W64 (xs.take k)+W64^k*c
theorem MinR.start (xs ys:qN):MinR xs ys 0 (List.replicate xs.length 0) 0:=⟨qS,Dig.replicate zM _,qO,qS⟩
theorem MinR.step {xs ys zs:qN}{k c x y:Nat}(h:MinR xs ys k zs c)(m:k<xs.length)(a:xs[k]?.getD 0=x)(b:ys[k]?.getD 0=y)(d:Dig W64 xs)(e:Dig W64 ys):MinR xs ys (k+1) (zs.set k (lN x y c)) (lO x y c):=by
 obtain⟨f,g,i,j⟩:=h
 have l:=ZaU (a ▸ d.getD zM k) (b ▸ e.getD zM k) i
 refine⟨by simpa using f,g.set k (aB _ _ _),Zck _ _ _,?_⟩
 rw[xJ _ _ _ _ qO,lI k,lI k,a,b,uN]
 exact ZeH _ _ _ _ _ _ _ _ _ _ j l
theorem MinR.done {xs ys zs:qN}{c:Nat}(h:MinR xs ys xs.length zs c)(d:ys.length≤xs.length)(e:val W64 ys≤val W64 xs):val W64 zs=val W64 xs-val W64 ys:=by
 obtain⟨f,g,i,a⟩:=h
 rw[uC qO,uC d,uC (uF _)] at a
 have b:=xW g
 rw[f] at b
 rcases (by omega:c=0∨c=1) with rfl|rfl
 ·rw[tT] at a;omega
 rw[sB] at a;omega
/-! ### times -/
noncomputable def tmD (z x y c:Nat):Nat:=xG (xG (xC x y) z 0) c 0
noncomputable def tmC (z x y c:Nat):Nat:=wK x y+xL (xC x y) z 0+xL (xG (xC x y) z 0) c 0
theorem Zkt (z x y c:Nat):tmD z x y c+W64*tmC z x y c=z+x*y+c:=by
 have a:=dC x y
 have b:=fF (xC x y) z 0
 have d:=fF (xG (xC x y) z 0) c 0
 unfold tmD tmC
 rw[uK,uK]
 omega
theorem ZiB {z x y c:Nat}(d:z<W64)(a:x<W64)(b:y<W64)(e:c<W64):tmC z x y c<W64:=by
 have f:=Zkt z x y c
 have g:=Zcl a b
 exact bQ _ qO
theorem ZfJ {a b:Nat}(h:a+b<W64):IntKind.u64.wrap ((a:Int)+(b:Int))=((a+b:Nat):Int):=by rw[←rH];exact wG _ h
theorem ZsE {z x y c:Nat}(a:z<W64)(b:x<W64)(d:y<W64)(e:c<W64):wK x y+xL (xC x y) z 0<W64:=by have:=ZiB a b d e;unfold tmC at this;omega
theorem Zdw (x y:Nat)(w:World)(a:x<W64)(b:y<W64):yA 161 #[.int .u64 (x:Int),.int .u64 (y:Int)] w (RetV w (.tuple #[.int .u64 ((wK x y:Nat):Int),.int .u64 ((xC x y:Nat):Int)])):=by
 refine (Zaj x y a b w).mono ?_
 rintro e w' ⟨rfl,rfl⟩
 exact⟨rfl,Fr.refl _ _⟩
def TimI (zs0 ys:List Nat) (x i k:Nat) (zs:List Nat) (c:Nat):Prop :=
 zs.length=zs0.length∧Dig W64 zs∧c<W64∧zs.drop (i+k)=zs0.drop (i+k)∧val W64 (zs.take (i+k))+W64^(i+k)*c=val W64 (zs0.take (i+k))+W64^i*(x*val W64 (ys.take k))
theorem TimI.start {a:qN}(ys:qN)(x i:Nat)(h:Dig W64 a):TimI a ys x i 0 a 0:=⟨rfl,h,zM,rfl,qS⟩
theorem TimI.at {a ys zs:qN}{x i k c:Nat}(h:TimI a ys x i k zs c):zs[i+k]?.getD 0=a[i+k]?.getD 0:=by
 have:=vI (fun l=>l[0]?.getD 0) h.2.2.2.1
 simpa [vK] using this
theorem TimI.step {a ys zs:qN}{x i k c z y:Nat}(h:TimI a ys x i k zs c)(g:i+k<a.length)(b:zs[i+k]?.getD 0=z)(d:ys[k]?.getD 0=y)(j:Dig W64 ys)(l:x<W64):TimI a ys x i (k+1) (zs.set (i+k) (tmD z x y c)) (tmC z x y c):=by
 have m:a[i+k]?.getD 0=z:=h.at.symm.trans b
 obtain⟨n,f,p,q,s⟩:=h
 refine⟨by simpa using n,f.set _ (dB _ _ _),ZiB (b ▸ f.getD zM _) l (d ▸ j.getD zM k) p,?_,?_⟩
 ·have e:=vI (List.drop 1) q
  rw[vV,vV] at e
  rw[tJ qO,show i+(k+1)=i+k+1 by omega];exact e
 rw[show i+(k+1)=(i+k)+1 by omega,xJ _ _ _ _ qO,zU (i+k) g,lI k,m,d,uN]
 have e:=vI (W64^(i+k) * ·) (Zkt z x y c)
 have r:W64^i*(x*(val W64 (ys.take k)+W64^k*y))=W64^i*(x*val W64 (ys.take k))+W64^(i+k)*(x*y):=by
  rw[uK x,uK (W64^i),uQ,tF x (W64^k) y,uG (W64^i)]
 simp only[uK] at e
 rw[r,uG (W64^(i+k)) W64]
 omega
def TimR (xs ys:List Nat) (i:Nat) (zs:List Nat):Prop :=
 zs.length=xs.length+ys.length∧Dig W64 zs∧(∀ j,i+ys.length≤j→zs[j]?.getD 0=0)∧val W64 (zs.take (i+ys.length))=val W64 (xs.take i)*val W64 ys
theorem Zgy (n j:Nat):(List.replicate n 0)[j]?.getD 0=0:=by rw[pJ];split<;>rfl
theorem TimR.start (xs ys:qN):TimR xs ys 0 (List.replicate (xs.length+ys.length) 0):=⟨qS,Dig.replicate zM _,fun j _=>Zgy _ _,by rw[List.take_replicate,kO];simp⟩
theorem TimR.step {xs ys a zs:qN}{i c x:Nat}(h:TimR xs ys i a)(b:i<xs.length)(d:xs[i]?.getD 0=x)(k:TimI a ys x i ys.length zs c):TimR xs ys (i+1) (zs.set (i+ys.length) c):=by
 obtain⟨r,s,f,g⟩:=h
 obtain⟨u,m,n,p,q⟩:=k
 refine⟨by simp;omega,m.set _ n,fun j v=>?_,?_⟩
 ·rw[List.getElem?_set_ne qO]
  have e:=vI (fun l=>l[j-(i+ys.length)]?.getD 0) p
  simp only[vK] at e
  rw[show i+ys.length+(j-(i+ys.length))=j by omega] at e
  rw[e];exact f j qO
 rw[show i+1+ys.length=(i+ys.length)+1 by omega,xJ _ _ _ _ qO,q,g,uC (uF ys.length),zU i b,d,uX,uG]
theorem TimR.done {xs ys zs:qN}(h:TimR xs ys xs.length zs):val W64 zs=val W64 xs*val W64 ys:=by
 obtain⟨b,c,d,a⟩:=h
 rwa [uC qO,uC (uF _)] at a
theorem Zdx (A:qA)(xs:qN)(c:Nat)(w:World)(s:zE .u64 w A xs)(z:xs.length≤1099511627776)(B:xs.length≤c) :
 yA 144 #[.slice A xs.length c] w (RetV w (.slice A (wM xs xs.length) c)):=by
 refine zT (Φ:=fun w=>zE .u64 w A xs) func144 rfl qK (fun w' u=>s.ext u) ?_
 refine yY (xq 1 [eS1 2 none 0 0] [] ?_)
 refine yZ (zC (zS ?_))
 refine yC [eS1 0 A (xs.length) c] [] (fun w=>zE .u64 w A (xs)) (fun w Q=>Q) ?_
 refine xR (fun p q r=>∃ (k:Nat),q=ofL [eS1 0 A k c] []∧r=(fun w=>zE .u64 w A (xs))∧(wM xs xs.length=wM xs k)∧(k≤xs.length)∧p=(1+k)) ((1+(xs.length))) ⟨(xs.length),rfl,rfl,rfl,uF _,rfl⟩ ?_
 rintro p q r ⟨k,rfl,rfl,n,C,rfl⟩
 refine zC (yY (xq 4 [yB 6 (decide ((k:Int)>0))] [] ?_))
 rcases bl2 ((decide ((k:Int)>0))) with a|a
 ·rw[a]
  have f:=uA a
  refine xq 4 [eS1 7 A k c,yJ 10 (IntKind.i64.wrap ((k:Int)-1))] [] ?_
  rw[yW ((k:Int)-1) (((k-1:Nat):Int)) qO]
  refine xqk 11 (atA A (k-1)) (fun w R Q=>wE (t:=107) (e:=141) (x:=.tmp 7) (ix:=.tmp 10) (len:=k) (cap:=c) (i:=k-1) ((Q).ne (j:=k-1) qO) qO) ?_
  obtain⟨g,b⟩:=yE (xs[k-1]?.getD 0)
  refine xqk 12 (yX (g:Int)) (fun w R Q=>by rw[←b];exact wP (t:=141) (x:=.tmp 11) (Q) (j:=k-1) qO) ?_
  refine xq 2 [yB 14 (((g:Int):Int) == 0)] [] ?_
  refine xe (zA ?_)
  refine yQ ((((g:Int):Int) == 0)) (fun d=>?_) fun d=>?_
  ·have l:=tV.1 d
   refine zJ (zA (zS (zB (xq 4 [eS1 15 A k c,yJ 18 (IntKind.i64.wrap ((k:Int)-1))] [] ?_))))
   rw[yW ((k:Int)-1) (((k-1:Nat):Int)) qO]
   refine xqk 19 (.slice A (k-1) c) (fun w R Q=>ZrL (t:=107) (e:=141) (x:=.tmp 15) (len:=k) (cap:=c) (h:=k-1) (hi:=.tmp 18) qO) ?_
   refine xq 1 [eS1 0 A (k-1) c] [] ?_
   refine xe (xS ?_)
   refine yP [eS1 0 A ((k-1)) c] [] (fun w=>zE .u64 w A (xs)) (fun w Q=>Q) ?_
   have v:wM xs xs.length=wM xs (k-1):=by obtain⟨m,rfl⟩:∃ m,k=m+1:=⟨k-1,qO⟩;rw[n,wM,vC (by rw[tM] at b;omega),tM]
   exact xI ((1+((k-1)))) qO ⟨((k-1)),rfl,rfl,v,qO,rfl⟩
  have l:=lG d
  refine xN (zK (zK (xV (zA (yY (xq 2 [eS1 2 A k c] [] ?_))))))
  refine yZ (zG ?_)
  refine yR (.slice A k c) fun w' R Q=>?_
  exact⟨by obtain⟨m,rfl⟩:∃ m,k=m+1:=⟨k-1,qO⟩;rw[n,wM,uO (by rw[tM] at b;omega)],R⟩
 rw[a]
 have f:=uB a
 refine xq 8 [yB 14 false] [] ?_
 refine yZ (xb (xN (zK (zK (xV (zA (yY (xq 2 [eS1 2 A k c] [] ?_))))))))
 refine yZ (zG ?_)
 refine yR (.slice A k c) fun w' R Q=>?_
 obtain rfl:k=0:=qO
 exact⟨by rw[n];rfl,R⟩
theorem Zap {b n v:Nat}{xs:qN}{w:World}(a:Own .u64 141 w b xs)(c:Dig W64 xs)(d:xs.length=n)(f:val W64 xs=v)(g:n≤1099511627776):yA 144 #[.slice (some ⟨b,0,none⟩) n n] w (lB w v):=by
 subst d f
 refine (Zdx _ xs _ w a.shows0 g (uF _)).mono ?_
 rintro e w' ⟨rfl,Q⟩
 exact⟨_,rfl,(zF.of_own a c (uF _)).ext Q,Q⟩
theorem ZlG (A m:qA)(xs ys:qN)(c c2:Nat)(w:World)(T:zE .u64 w A xs)(U:zE .u64 w m ys)(Z:xs.length≤4294967296)(V:ys.length≤4294967296)(K:Dig W64 xs)(L:Dig W64 ys)(W:ys.length≤xs.length)(G:val W64 ys≤val W64 xs) :
 yA 137 #[.slice A xs.length c,.slice m ys.length c2] w (lB w (val W64 xs-val W64 ys)):=by
 refine zT (Φ:=fun w=>(zE .u64 w A xs∧zE .u64 w m ys)) func137 rfl qK (fun w' M=>⟨T.ext M,U.ext M⟩) ?_
 refine yY (xq 1 [eS1 4 none 0 0] [] ?_)
 refine yZ (yY (xq 2 [yJ 10 ((xs.length:Nat):Int)] [] ?_))
 refine Zbr (d:=11) (t:=107) (e:=141) (k:=.u64) (kl:=.i64) (kc:=.i64) (l:=.tmp 10) (c:=.tmp 10) (xs.length) 8 qO qD fun a r _=>?_
 refine xr 1 [eS1 0 A xs.length c,eS1 1 m ys.length c2,eS1 4 none 0 0,eS1 5 (yL a) (xs.length) (xs.length)] [] ?_
 refine yZ (yY (xq 1 [yU 6 0] [] ?_))
 refine yZ (zC (yY (xq 3 [yJ 13 ((xs.length:Nat):Int),yJ 14 0] [] ?_)))
 refine yZ (zS ?_)
 refine yC [eS1 0 A xs.length c,eS1 1 m ys.length c2,eS1 4 none 0 0,eS1 5 (yL a) (xs.length) (xs.length),yU 6 ((0:Nat):Int),yJ 13 ((xs.length:Nat):Int),yJ 14 ((0:Nat):Int)] [] (fun w=>(Box (fun j=>a≤j) w (fun w=>(zE .u64 w A (xs)∧zE .u64 w m (ys)))∧Own .u64 141 w a ((List.replicate (xs.length) 0)))) (fun w Q=>⟨Q.1,Q.2⟩) ?_
 refine xR (fun N O S=>∃ (f k:Nat) (q:List Nat),O=ofL [eS1 0 A xs.length c,eS1 1 m ys.length c2,eS1 4 none 0 0,eS1 5 (yL a) (xs.length) (xs.length),yU 6 (f:Int),yJ 13 ((xs.length:Nat):Int),yJ 14 (k:Int)] []∧S=(fun w=>(Box (fun j=>a≤j) w (fun w=>(zE .u64 w A (xs)∧zE .u64 w m (ys)))∧Own .u64 141 w a (q)))∧(MinR xs ys k q f)∧(k≤xs.length)∧N=(xs.length-k)) ((xs.length-0)) ⟨0,0,(List.replicate (xs.length) 0),rfl,rfl,MinR.start xs ys,qO,rfl⟩ ?_
 rintro N O S ⟨f,k,q,rfl,rfl,z,hk,rfl⟩
 refine yY (xq 1 [yB 15 (decide ((k:Int)<((xs.length:Nat):Int)))] [] ?_)
 refine yZ (zC ?_)
 refine yQ ((decide ((k:Int)<((xs.length:Nat):Int)))) (fun n=>?_) fun n=>?_
 ·have B:=uA n
  have X:=z.1
  have Y:=z.2.2.1
  refine zJ (zA (zC (zS (yY (xq 2 [yJ 7 (k:Int)] [] ?_)))))
  refine yZ (yY (xq 1 [yU 8 0] [] ?_))
  refine yZ (zC (yY (xq 4 [yB 20 (decide ((k:Int)<((ys.length:Nat):Int)))] [] ?_)))
  refine xe (zA ?_)
  refine yQ ((decide ((k:Int)<((ys.length:Nat):Int)))) (fun p=>?_) fun p=>?_
  ·have C:=uA p
   refine zB (xq 2 [eS1 21 m ys.length c2,yJ 22 (k:Int)] [] ?_)
   refine xqk 23 (atA m k) (fun w R Q=>wE (t:=107) (e:=141) (x:=.tmp 21) (ix:=.tmp 22) (len:=ys.length) (cap:=c2) (i:=k) (((Q.1).self.2).ne (j:=k) qO) qO) ?_
   obtain⟨b,s⟩:=yE (ys[k]?.getD 0)
   refine xqk 24 (yX (b:Int)) (fun w R Q=>by rw[←s];exact wP (t:=141) (x:=.tmp 23) ((Q.1).self.2) (j:=k) qO) ?_
   refine xq 1 [yU 8 (b:Int)] [] ?_
   refine yZ (zB (xq 4 [eS1 26 (yL a) (xs.length) (xs.length),yJ 27 (k:Int),eS1 28 A xs.length c,yJ 29 (k:Int)] [] ?_))
   refine xqk 30 (atA A k) (fun w R Q=>wE (t:=107) (e:=141) (x:=.tmp 28) (ix:=.tmp 29) (len:=xs.length) (cap:=c) (i:=k) (((Q.1).self.1).ne (j:=k) qO) qO) ?_
   obtain⟨g,u⟩:=yE (xs[k]?.getD 0)
   refine xqk 31 (yX (g:Int)) (fun w R Q=>by rw[←u];exact wP (t:=141) (x:=.tmp 30) ((Q.1).self.1) (j:=k) qO) ?_
   refine xq 2 [yU 32 (b:Int),yU 33 (f:Int)] [] ?_
   refine xqk 34 (.tuple #[yX ((lN g b f:Nat):Int), yX ((lO g b f:Nat):Int)]) (fun w R Q=>fQ (args:=[Operand.tmp 31,Operand.tmp 32,Operand.tmp 33]) (ts:=#[141,141,141]) (gX g b f qO w)) ?_
   refine xq 3 [yU 35 ((lN g b f:Nat):Int),yU 36 ((lO g b f:Nat):Int)] [] ?_
   refine xqk 37 (.pointer (some ⟨a,k,none⟩)) (fun w R Q=>lS (t:=107) (e:=141) (x:=.tmp 26) (ix:=.tmp 27) (len:=(xs.length)) (cap:=(xs.length)) (i:=k) qO) ?_
   refine jE (t:=141) (x:=.tmp 37) (y:=.tmp 35) a (k) (lN g b f) (fun w=>(Box (fun j=>a≤j) w (fun w=>(zE .u64 w A (xs)∧zE .u64 w m (ys)))∧Own .u64 141 w a ((q).set (k) (lN g b f)))) (fun w Q=>Q.2) qO (Or.inl r) (fun w w' Q H I=>⟨((Q.1).fr (H.mono (fun _ _ e=>by rw[e];exact uF _))),I⟩) ?_
   refine xq 1 [yU 6 ((lO g b f:Nat):Int)] [] ?_
   refine xe (xS (zA (zB (xq 1 [yJ 38 (IntKind.i64.wrap ((k:Int)+1))] [] ?_))))
   rw[yW ((k:Int)+1) (((k+1:Nat):Int)) qO]
   refine xq 1 [yJ 14 ((k+1:Nat):Int)] [] ?_
   refine xe ?_
   refine yP [eS1 0 A xs.length c,eS1 1 m ys.length c2,eS1 4 none 0 0,eS1 5 (yL a) (xs.length) (xs.length),yU 6 (((lO g b f):Nat):Int),yJ 13 ((xs.length:Nat):Int),yJ 14 (((k+1):Nat):Int)] [] (fun w=>(Box (fun j=>a≤j) w (fun w=>(zE .u64 w A (xs)∧zE .u64 w m (ys)))∧Own .u64 141 w a (((q).set (k) (lN g b f))))) (fun w Q=>⟨Q.1,Q.2⟩) ?_
   have J:=z.step (k:=k) qO u (y:=b) s K L
   exact xI ((xs.length-(k+1))) qO ⟨(lO g b f),(k+1),((q).set (k) (lN g b f)),rfl,rfl,J,qO,rfl⟩
  have C:=uB p
  refine zJ (zA (zB (xq 4 [eS1 26 (yL a) (xs.length) (xs.length),yJ 27 (k:Int),eS1 28 A xs.length c,yJ 29 (k:Int)] [] ?_)))
  refine xqk 30 (atA A k) (fun w R Q=>wE (t:=107) (e:=141) (x:=.tmp 28) (ix:=.tmp 29) (len:=xs.length) (cap:=c) (i:=k) (((Q.1).self.1).ne (j:=k) qO) qO) ?_
  obtain⟨h,v⟩:=yE (xs[k]?.getD 0)
  refine xqk 31 (yX (h:Int)) (fun w R Q=>by rw[←v];exact wP (t:=141) (x:=.tmp 30) ((Q.1).self.1) (j:=k) qO) ?_
  refine xq 2 [yU 32 0,yU 33 (f:Int)] [] ?_
  refine xqk 34 (.tuple #[yX ((lN h 0 f:Nat):Int), yX ((lO h 0 f:Nat):Int)]) (fun w R Q=>fQ (args:=[Operand.tmp 31,Operand.tmp 32,Operand.tmp 33]) (ts:=#[141,141,141]) (gX h 0 f qO w)) ?_
  refine xq 3 [yU 35 ((lN h 0 f:Nat):Int),yU 36 ((lO h 0 f:Nat):Int)] [] ?_
  refine xqk 37 (.pointer (some ⟨a,k,none⟩)) (fun w R Q=>lS (t:=107) (e:=141) (x:=.tmp 26) (ix:=.tmp 27) (len:=(xs.length)) (cap:=(xs.length)) (i:=k) qO) ?_
  refine jE (t:=141) (x:=.tmp 37) (y:=.tmp 35) a (k) (lN h 0 f) (fun w=>(Box (fun j=>a≤j) w (fun w=>(zE .u64 w A (xs)∧zE .u64 w m (ys)))∧Own .u64 141 w a ((q).set (k) (lN h 0 f)))) (fun w Q=>Q.2) qO (Or.inl r) (fun w w' Q H I=>⟨((Q.1).fr (H.mono (fun _ _ e=>by rw[e];exact uF _))),I⟩) ?_
  refine xq 1 [yU 6 ((lO h 0 f:Nat):Int)] [] ?_
  refine xe (xS (zA (zB (xq 1 [yJ 38 (IntKind.i64.wrap ((k:Int)+1))] [] ?_))))
  rw[yW ((k:Int)+1) (((k+1:Nat):Int)) qO]
  refine xq 1 [yJ 14 ((k+1:Nat):Int)] [] ?_
  refine xe ?_
  refine yP [eS1 0 A xs.length c,eS1 1 m ys.length c2,eS1 4 none 0 0,eS1 5 (yL a) (xs.length) (xs.length),yU 6 (((lO h 0 f):Nat):Int),yJ 13 ((xs.length:Nat):Int),yJ 14 (((k+1):Nat):Int)] [] (fun w=>(Box (fun j=>a≤j) w (fun w=>(zE .u64 w A (xs)∧zE .u64 w m (ys)))∧Own .u64 141 w a (((q).set (k) (lN h 0 f))))) (fun w Q=>⟨Q.1,Q.2⟩) ?_
  have J:=z.step (k:=k) qO v (y:=0) (by rw[vN qO];rfl) K L
  exact xI ((xs.length-(k+1))) qO ⟨(lO h 0 f),(k+1),((q).set (k) (lN h 0 f)),rfl,rfl,J,qO,rfl⟩
 have B:=uB n
 obtain rfl:k=xs.length:=qO
 refine xN (zK (zK (xV (zA (yY (xq 1 [eS1 39 (yL a) (xs.length) (xs.length)] [] ?_))))))
 refine xqc 144 [.slice (yL a) (xs.length) (xs.length)] 40 xH _ (fun w R Q=>yM xD (Zap Q.2 z.2.1 z.1 (z.done W G) qO)) fun⟨D,E,F⟩=>?_
 refine xq 1 [eS1 4 D E F] [] ?_
 refine yZ (zG ?_)
 refine yR (.slice D E F) fun w' R Q=>?_
 exact⟨_,rfl,Q.2,R⟩
theorem Zna (A B:qA)(xs ys:qN)(c c2:Nat)(w:World)(hX:zE .u64 w A xs)(hY:zE .u64 w B ys)(hl:xs.length≤4294967296)(W:ys.length≤4294967296)(hx:Dig W64 xs)(hy:Dig W64 ys) :
 yA 135 #[.slice A xs.length c,.slice B ys.length c2] w (lB w (val W64 xs+val W64 ys)):=by
 refine zT (Φ:=fun w=>(zE .u64 w A xs∧zE .u64 w B ys)) func135 rfl qK (fun w' hf=>⟨hX.ext hf,hY.ext hf⟩) ?_
 refine yY (xq 1 [eS1 4 none 0 0] [] ?_)
 refine xe (zA ?_)
 refine Zb9 (fun L M=>∃ (p q:Option Addr) (a n:List Nat) (r D:Nat),L=ofL [eS1 0 p a.length r,eS1 1 q n.length D,eS1 4 none 0 0] []∧M=(fun w=>(zE .u64 w p (a)∧zE .u64 w q (n)))∧(n.length≤a.length)∧(Dig W64 a)∧(Dig W64 n)∧(a.length≤4294967296)∧(val W64 a+val W64 n=val W64 xs+val W64 ys)) ?_ ?_
 ·refine yY (xq 5 [yB 13 (decide (((xs.length:Nat):Int)<((ys.length:Nat):Int)))] [] ?_)
  refine xe (zA ?_)
  refine yQ ((decide (((xs.length:Nat):Int)<((ys.length:Nat):Int)))) (fun s=>?_) fun s=>?_
  ·have H:=uA s
   refine zB (xq 4 [eS1 0 B ys.length c2,eS1 1 A xs.length c] [] ?_)
   refine xe ?_
   refine yP [eS1 0 B ys.length c2,eS1 1 A xs.length c,eS1 4 none 0 0] [] (fun w=>(zE .u64 w B (ys)∧zE .u64 w A (xs))) (fun w Q=>⟨Q.2,Q.1⟩) ?_
   exact jJ ⟨B,A,ys,xs,c2,c,rfl,rfl,qO,hy,hx,W,vP _ _⟩
  have H:=uB s
  refine zJ ?_
  refine yP [eS1 0 A xs.length c,eS1 1 B ys.length c2,eS1 4 none 0 0] [] (fun w=>(zE .u64 w A (xs)∧zE .u64 w B (ys))) (fun w Q=>⟨Q.1,Q.2⟩) ?_
  exact jJ ⟨A,B,xs,ys,c,c2,rfl,rfl,qO,hx,hy,hl,rfl⟩
 rintro L M ⟨p,q,a,n,r,D,rfl,rfl,h1,hu,hv,a0,N⟩
 refine yY (xq 3 [yJ 18 (IntKind.i64.wrap (((a.length:Nat):Int)+1))] [] ?_)
 rw[yW (((a.length:Nat):Int)+1) (((a.length+1:Nat):Int)) qO]
 refine Zbr (d:=19) (t:=107) (e:=141) (k:=.u64) (kl:=.i64) (kc:=.i64) (l:=.tmp 18) (c:=.tmp 18) (a.length+1) 8 qO qD fun b u _=>?_
 refine xr 1 [eS1 0 p a.length r,eS1 1 q n.length D,eS1 4 none 0 0,eS1 5 (yL b) (a.length+1) (a.length+1)] [] ?_
 refine yZ (yY (xq 1 [yU 6 0] [] ?_))
 refine yZ (zC (yY (xq 3 [yJ 21 ((a.length:Nat):Int),yJ 22 0] [] ?_)))
 refine yZ (zS ?_)
 refine yC [eS1 0 p a.length r,eS1 1 q n.length D,eS1 4 none 0 0,eS1 5 (yL b) (a.length+1) (a.length+1),yU 6 ((0:Nat):Int),yJ 21 ((a.length:Nat):Int),yJ 22 ((0:Nat):Int)] [] (fun w=>(Box (fun j=>b≤j) w (fun w=>(zE .u64 w p (a)∧zE .u64 w q (n)))∧Own .u64 141 w b ((List.replicate (a.length+1) 0)))) (fun w Q=>⟨Q.1,Q.2⟩) ?_
 refine xR (fun nn L M=>∃ (g k:Nat) (C:List Nat),L=ofL [eS1 0 p a.length r,eS1 1 q n.length D,eS1 4 none 0 0,eS1 5 (yL b) (a.length+1) (a.length+1),yU 6 (g:Int),yJ 21 ((a.length:Nat):Int),yJ 22 (k:Int)] []∧M=(fun w=>(Box (fun j=>b≤j) w (fun w=>(zE .u64 w p (a)∧zE .u64 w q (n)))∧Own .u64 141 w b (C)))∧(ZaB a n k C g)∧(k≤a.length)∧nn=(a.length-k)) ((a.length-0)) ⟨0,0,(List.replicate (a.length+1) 0),rfl,rfl,ZaB.start a n,qO,rfl⟩ ?_
 rintro nn L M ⟨g,k,C,rfl,rfl,K,hk,rfl⟩
 refine yY (xq 1 [yB 23 (decide ((k:Int)<((a.length:Nat):Int)))] [] ?_)
 refine yZ (zC ?_)
 refine yQ ((decide ((k:Int)<((a.length:Nat):Int)))) (fun v=>?_) fun v=>?_
 ·have I:=uA v
  have X:=K.1
  have b0:=K.2.2.1
  refine zJ (zA (zC (zS (yY (xq 2 [yJ 7 (k:Int)] [] ?_)))))
  refine yZ (yY (xq 1 [yU 8 0] [] ?_))
  refine yZ (zC (yY (xq 4 [yB 28 (decide ((k:Int)<((n.length:Nat):Int)))] [] ?_)))
  refine xe (zA ?_)
  refine yQ ((decide ((k:Int)<((n.length:Nat):Int)))) (fun z=>?_) fun z=>?_
  ·have J:=uA z
   refine zB (xq 2 [eS1 29 q n.length D,yJ 30 (k:Int)] [] ?_)
   refine xqk 31 (atA q k) (fun w R Q=>wE (t:=107) (e:=141) (x:=.tmp 29) (ix:=.tmp 30) (len:=n.length) (cap:=D) (i:=k) (((Q.1).self.2).ne (j:=k) qO) qO) ?_
   obtain⟨f,E⟩:=yE (n[k]?.getD 0)
   refine xqk 32 (yX (f:Int)) (fun w R Q=>by rw[←E];exact wP (t:=141) (x:=.tmp 31) ((Q.1).self.2) (j:=k) qO) ?_
   refine xq 1 [yU 8 (f:Int)] [] ?_
   refine yZ (zB (xq 4 [eS1 34 (yL b) (a.length+1) (a.length+1),yJ 35 (k:Int),eS1 36 p a.length r,yJ 37 (k:Int)] [] ?_))
   refine xqk 38 (atA p k) (fun w R Q=>wE (t:=107) (e:=141) (x:=.tmp 36) (ix:=.tmp 37) (len:=a.length) (cap:=r) (i:=k) (((Q.1).self.1).ne (j:=k) qO) qO) ?_
   obtain⟨h,F⟩:=yE (a[k]?.getD 0)
   refine xqk 39 (yX (h:Int)) (fun w R Q=>by rw[←F];exact wP (t:=141) (x:=.tmp 38) ((Q.1).self.1) (j:=k) qO) ?_
   refine xq 2 [yU 40 (f:Int),yU 41 (g:Int)] [] ?_
   refine xqk 42 (.tuple #[yX ((xG h f g:Nat):Int), yX ((xL h f g:Nat):Int)]) (fun w R Q=>fQ (args:=[Operand.tmp 39,Operand.tmp 40,Operand.tmp 41]) (ts:=#[141,141,141]) (gW h f g qO w)) ?_
   refine xq 3 [yU 43 ((xG h f g:Nat):Int),yU 44 ((xL h f g:Nat):Int)] [] ?_
   refine xqk 45 (.pointer (some ⟨b,k,none⟩)) (fun w R Q=>lS (t:=107) (e:=141) (x:=.tmp 34) (ix:=.tmp 35) (len:=(a.length+1)) (cap:=(a.length+1)) (i:=k) qO) ?_
   refine jE (t:=141) (x:=.tmp 45) (y:=.tmp 43) b (k) (xG h f g) (fun w=>(Box (fun j=>b≤j) w (fun w=>(zE .u64 w p (a)∧zE .u64 w q (n)))∧Own .u64 141 w b ((C).set (k) (xG h f g)))) (fun w Q=>Q.2) qO (Or.inl u) (fun w w' Q O S=>⟨((Q.1).fr (O.mono (fun _ _ e=>by rw[e];exact uF _))),S⟩) ?_
   refine xq 1 [yU 6 ((xL h f g:Nat):Int)] [] ?_
   refine xe (xS (zA (zB (xq 1 [yJ 46 (IntKind.i64.wrap ((k:Int)+1))] [] ?_))))
   rw[yW ((k:Int)+1) (((k+1:Nat):Int)) qO]
   refine xq 1 [yJ 22 ((k+1:Nat):Int)] [] ?_
   refine xe ?_
   refine yP [eS1 0 p a.length r,eS1 1 q n.length D,eS1 4 none 0 0,eS1 5 (yL b) (a.length+1) (a.length+1),yU 6 (((xL h f g):Nat):Int),yJ 21 ((a.length:Nat):Int),yJ 22 (((k+1):Nat):Int)] [] (fun w=>(Box (fun j=>b≤j) w (fun w=>(zE .u64 w p (a)∧zE .u64 w q (n)))∧Own .u64 141 w b (((C).set (k) (xG h f g))))) (fun w Q=>⟨Q.1,Q.2⟩) ?_
   have Y:=K.step (k:=k) qO F (y:=f) E hu hv
   exact xI ((a.length-(k+1))) qO ⟨(xL h f g),(k+1),((C).set (k) (xG h f g)),rfl,rfl,Y,qO,rfl⟩
  have J:=uB z
  refine zJ (zA (zB (xq 4 [eS1 34 (yL b) (a.length+1) (a.length+1),yJ 35 (k:Int),eS1 36 p a.length r,yJ 37 (k:Int)] [] ?_)))
  refine xqk 38 (atA p k) (fun w R Q=>wE (t:=107) (e:=141) (x:=.tmp 36) (ix:=.tmp 37) (len:=a.length) (cap:=r) (i:=k) (((Q.1).self.1).ne (j:=k) qO) qO) ?_
  obtain⟨m,G⟩:=yE (a[k]?.getD 0)
  refine xqk 39 (yX (m:Int)) (fun w R Q=>by rw[←G];exact wP (t:=141) (x:=.tmp 38) ((Q.1).self.1) (j:=k) qO) ?_
  refine xq 2 [yU 40 0,yU 41 (g:Int)] [] ?_
  refine xqk 42 (.tuple #[yX ((xG m 0 g:Nat):Int), yX ((xL m 0 g:Nat):Int)]) (fun w R Q=>fQ (args:=[Operand.tmp 39,Operand.tmp 40,Operand.tmp 41]) (ts:=#[141,141,141]) (gW m 0 g qO w)) ?_
  refine xq 3 [yU 43 ((xG m 0 g:Nat):Int),yU 44 ((xL m 0 g:Nat):Int)] [] ?_
  refine xqk 45 (.pointer (some ⟨b,k,none⟩)) (fun w R Q=>lS (t:=107) (e:=141) (x:=.tmp 34) (ix:=.tmp 35) (len:=(a.length+1)) (cap:=(a.length+1)) (i:=k) qO) ?_
  refine jE (t:=141) (x:=.tmp 45) (y:=.tmp 43) b (k) (xG m 0 g) (fun w=>(Box (fun j=>b≤j) w (fun w=>(zE .u64 w p (a)∧zE .u64 w q (n)))∧Own .u64 141 w b ((C).set (k) (xG m 0 g)))) (fun w Q=>Q.2) qO (Or.inl u) (fun w w' Q O S=>⟨((Q.1).fr (O.mono (fun _ _ e=>by rw[e];exact uF _))),S⟩) ?_
  refine xq 1 [yU 6 ((xL m 0 g:Nat):Int)] [] ?_
  refine xe (xS (zA (zB (xq 1 [yJ 46 (IntKind.i64.wrap ((k:Int)+1))] [] ?_))))
  rw[yW ((k:Int)+1) (((k+1:Nat):Int)) qO]
  refine xq 1 [yJ 22 ((k+1:Nat):Int)] [] ?_
  refine xe ?_
  refine yP [eS1 0 p a.length r,eS1 1 q n.length D,eS1 4 none 0 0,eS1 5 (yL b) (a.length+1) (a.length+1),yU 6 (((xL m 0 g):Nat):Int),yJ 21 ((a.length:Nat):Int),yJ 22 (((k+1):Nat):Int)] [] (fun w=>(Box (fun j=>b≤j) w (fun w=>(zE .u64 w p (a)∧zE .u64 w q (n)))∧Own .u64 141 w b (((C).set (k) (xG m 0 g))))) (fun w Q=>⟨Q.1,Q.2⟩) ?_
  have Y:=K.step (k:=k) qO G (y:=0) (by rw[vN qO];rfl) hu hv
  exact xI ((a.length-(k+1))) qO ⟨(xL m 0 g),(k+1),((C).set (k) (xG m 0 g)),rfl,rfl,Y,qO,rfl⟩
 have I:=uB v
 obtain rfl:k=a.length:=qO
 have X:=K.1
 have Z:=K.done h1
 refine xN (zK (zK (xV (zA (yY (xq 4 [eS1 47 (yL b) (a.length+1) (a.length+1),yJ 49 ((a.length:Nat):Int),yU 50 (g:Int)] [] ?_))))))
 refine xqk 51 (.pointer (some ⟨b,a.length,none⟩)) (fun w R Q=>lS (t:=107) (e:=141) (x:=.tmp 47) (ix:=.tmp 49) (len:=(a.length+1)) (cap:=(a.length+1)) (i:=a.length) qO) ?_
 refine jE (t:=141) (x:=.tmp 51) (y:=.tmp 50) b (a.length) (g) (fun w=>(Box (fun j=>b≤j) w (fun w=>(zE .u64 w p (a)∧zE .u64 w q (n)))∧Own .u64 141 w b ((C).set (a.length) (g)))) (fun w Q=>Q.2) qO (Or.inl u) (fun w w' Q O S=>⟨((Q.1).fr (O.mono (fun _ _ e=>by rw[e];exact uF _))),S⟩) ?_
 refine yZ (yY (xq 1 [eS1 52 (yL b) (a.length+1) (a.length+1)] [] ?_))
 refine xqc 144 [.slice (yL b) (a.length+1) (a.length+1)] 53 xH _ (fun w R Q=>yM xD (Zap Q.2 Z.2.1 Z.1 (Z.2.2.trans N) qO)) fun⟨T,U,V⟩=>?_
 refine xq 1 [eS1 4 T U V] [] ?_
 refine yZ (zG ?_)
 refine yR (.slice T U V) fun w' R Q=>?_
 exact⟨_,rfl,Q.2,R⟩
theorem ZlH (A n:qA)(xs ys:qN)(c c2:Nat)(w:World)(hX:zE .u64 w A xs)(hY:zE .u64 w n ys)(hl:xs.length≤4294967296)(a0:ys.length≤4294967296)(S:Dig W64 xs)(T:Dig W64 ys) :
 yA 143 #[.slice A xs.length c,.slice n ys.length c2] w (lB w (val W64 xs*val W64 ys)):=by
 refine zT (Φ:=fun w=>(zE .u64 w A xs∧zE .u64 w n ys)) func143 rfl qK (fun w' Z=>⟨hX.ext Z,hY.ext Z⟩) ?_
 refine yY (xq 1 [eS1 4 none 0 0] [] ?_)
 refine yZ (yY (xq 5 [yJ 18 (IntKind.i64.wrap (((xs.length:Nat):Int)+((ys.length:Nat):Int)))] [] ?_))
 rw[yW (((xs.length:Nat):Int)+((ys.length:Nat):Int)) (((xs.length+(ys.length):Nat):Int)) qO]
 refine Zbr (d:=19) (t:=107) (e:=141) (k:=.u64) (kl:=.i64) (kc:=.i64) (l:=.tmp 18) (c:=.tmp 18) (xs.length+(ys.length)) 8 qO qD fun h C _=>?_
 refine xr 1 [eS1 0 A xs.length c,eS1 1 n ys.length c2,eS1 4 none 0 0,eS1 5 (yL h) (xs.length+(ys.length)) (xs.length+(ys.length))] [] ?_
 refine yZ (zC (yY (xq 3 [eS1 20 A xs.length c,yJ 21 ((xs.length:Nat):Int),yJ 22 0] [] ?_)))
 refine yZ (zS ?_)
 refine yC [eS1 1 n ys.length c2,eS1 4 none 0 0,eS1 5 (yL h) (xs.length+(ys.length)) (xs.length+(ys.length)),eS1 20 A xs.length c,yJ 21 ((xs.length:Nat):Int),yJ 22 ((0:Nat):Int)] [] (fun w=>(Box (fun j=>h≤j) w (fun w=>(zE .u64 w A (xs)∧zE .u64 w n (ys)))∧Own .u64 141 w h ((List.replicate (xs.length+(ys.length)) 0)))) (fun w Q=>⟨Q.1,Q.2⟩) ?_
 refine xR (fun J K L=>∃ (i:Nat) (I:List Nat),K=ofL [eS1 1 n ys.length c2,eS1 4 none 0 0,eS1 5 (yL h) (xs.length+(ys.length)) (xs.length+(ys.length)),eS1 20 A xs.length c,yJ 21 ((xs.length:Nat):Int),yJ 22 (i:Int)] []∧L=(fun w=>(Box (fun j=>h≤j) w (fun w=>(zE .u64 w A (xs)∧zE .u64 w n (ys)))∧Own .u64 141 w h (I)))∧(TimR xs ys i I)∧(i≤xs.length)∧J=(xs.length-i)) ((xs.length-0)) ⟨0,(List.replicate (xs.length+(ys.length)) 0),rfl,rfl,TimR.start xs ys,qO,rfl⟩ ?_
 rintro J K L ⟨i,I,rfl,rfl,E,hi,rfl⟩
 refine yY (xq 1 [yB 23 (decide ((i:Int)<((xs.length:Nat):Int)))] [] ?_)
 refine yZ (zC ?_)
 refine yQ ((decide ((i:Int)<((xs.length:Nat):Int)))) (fun u=>?_) fun u=>?_
 ·have F:=uA u
  have U:=E.1
  refine zJ (zA (zC (zS (yY (xq 1 [yJ 24 (i:Int)] [] ?_)))))
  refine xqk 25 (atA A i) (fun w R Q=>wE (t:=107) (e:=141) (x:=.tmp 20) (ix:=.tmp 22) (len:=xs.length) (cap:=c) (i:=i) (((Q.1).self.1).ne (j:=i) qO) qO) ?_
  obtain⟨f,q⟩:=yE (xs[i]?.getD 0)
  refine xqk 26 (yX (f:Int)) (fun w R Q=>by rw[←q];exact wP (t:=141) (x:=.tmp 25) ((Q.1).self.1) (j:=i) qO) ?_
  refine xq 2 [yJ 6 (i:Int),yU 7 (f:Int)] [] ?_
  refine yZ (yY (xq 1 [yU 8 0] [] ?_))
  refine yZ (zC (yY (xq 3 [eS1 27 n ys.length c2,yJ 28 ((ys.length:Nat):Int),yJ 29 0] [] ?_)))
  refine yZ (zS ?_)
  refine yC [eS1 1 n ys.length c2,eS1 4 none 0 0,eS1 5 (yL h) (xs.length+(ys.length)) (xs.length+(ys.length)),yJ 6 (i:Int),yU 7 (f:Int),yU 8 ((0:Nat):Int),eS1 20 A xs.length c,yJ 21 ((xs.length:Nat):Int),yJ 22 (i:Int),eS1 27 n ys.length c2,yJ 28 ((ys.length:Nat):Int),yJ 29 ((0:Nat):Int)] [] (fun w=>(Box (fun j=>h≤j) w (fun w=>(zE .u64 w A (xs)∧zE .u64 w n (ys)))∧Own .u64 141 w h (I))) (fun w Q=>⟨Q.1,Q.2⟩) ?_
  refine xR (fun J K L=>∃ (p k:Nat) (B:List Nat),K=ofL [eS1 1 n ys.length c2,eS1 4 none 0 0,eS1 5 (yL h) (xs.length+(ys.length)) (xs.length+(ys.length)),yJ 6 (i:Int),yU 7 (f:Int),yU 8 (p:Int),eS1 20 A xs.length c,yJ 21 ((xs.length:Nat):Int),yJ 22 (i:Int),eS1 27 n ys.length c2,yJ 28 ((ys.length:Nat):Int),yJ 29 (k:Int)] []∧L=(fun w=>(Box (fun j=>h≤j) w (fun w=>(zE .u64 w A (xs)∧zE .u64 w n (ys)))∧Own .u64 141 w h (B)))∧(TimI I ys f i k B p)∧(k≤ys.length)∧J=(ys.length-k)) ((ys.length-0)) ⟨0,0,I,rfl,rfl,TimI.start ys f i E.2.1,qO,rfl⟩ ?_
  rintro J K L ⟨p,k,B,rfl,rfl,D,hk,rfl⟩
  refine yY (xq 1 [yB 30 (decide ((k:Int)<((ys.length:Nat):Int)))] [] ?_)
  refine yZ (zC ?_)
  refine yQ ((decide ((k:Int)<((ys.length:Nat):Int)))) (fun z=>?_) fun z=>?_
  ·have G:=uA z
   have V:=D.1
   have H:=D.2.2.1
   refine zJ (zA (zC (zS (yY (xq 1 [yJ 31 (k:Int)] [] ?_)))))
   refine xqk 32 (atA n k) (fun w R Q=>wE (t:=107) (e:=141) (x:=.tmp 27) (ix:=.tmp 29) (len:=ys.length) (cap:=c2) (i:=k) (((Q.1).self.2).ne (j:=k) qO) qO) ?_
   obtain⟨g,r⟩:=yE (ys[k]?.getD 0)
   refine xqk 33 (yX (g:Int)) (fun w R Q=>by rw[←r];exact wP (t:=141) (x:=.tmp 32) ((Q.1).self.2) (j:=k) qO) ?_
   refine xq 2 [yJ 9 (k:Int),yU 10 (g:Int)] [] ?_
   refine yZ (yY (xq 2 [yU 35 (f:Int),yU 36 (g:Int)] [] ?_))
   refine xqc 161 [yX (f:Int), yX (g:Int)] 37 (fun _:Unit=>.tuple #[yX ((wK f g:Nat):Int), yX ((xC f g:Nat):Int)]) _ (fun w R Q=>yN (Zdw f g _ (by rw[←q];exact S.getD zM _) (by rw[←r];exact T.getD zM _))) fun xx=>?_
   refine xq 5 [yU 11 ((wK f g:Nat):Int),yU 12 ((xC f g:Nat):Int)] [] ?_
   refine yZ (yY (xq 5 [yU 41 ((xC f g:Nat):Int),eS1 42 (yL h) (xs.length+(ys.length)) (xs.length+(ys.length)),yJ 45 (IntKind.i64.wrap ((i:Int)+(k:Int)))] [] ?_))
   rw[yW ((i:Int)+(k:Int)) (((i+k:Nat):Int)) qO]
   refine xqk 46 (.pointer (some ⟨h,i+k,none⟩)) (fun w R Q=>lS (t:=107) (e:=141) (x:=.tmp 42) (ix:=.tmp 45) (len:=(xs.length+(ys.length))) (cap:=(xs.length+(ys.length))) (i:=i+k) qO) ?_
   obtain⟨m,s⟩:=yE (B[i+k]?.getD 0)
   refine xqk 47 (yX (m:Int)) (fun w R Q=>by rw[←s];exact gH (t:=141) (x:=.tmp 46) (Q.1.2) (j:=i+k) qO) ?_
   refine xqk 48 (.tuple #[yX ((xG (xC f g) m 0:Nat):Int), yX ((xL (xC f g) m 0:Nat):Int)]) (fun w R Q=>fQ (args:=[Operand.tmp 41,Operand.tmp 47,Operand.const (Value.int IntKind.u64 0)]) (ts:=#[141,141,141]) (gW (xC f g) m 0 qO w)) ?_
   refine xq 5 [yU 12 ((xG (xC f g) m 0:Nat):Int),yU 13 ((xL (xC f g) m 0:Nat):Int)] [] ?_
   refine yZ (yY (xq 3 [(53,.v (yX (IntKind.u64.wrap (((wK f g:Nat):Int)+((xL (xC f g) m 0:Nat):Int)))))] [] ?_))
   rw[ZfJ (a:=wK f g) (b:=xL (xC f g) m 0) (ZsE (by rw[←s];exact D.2.1.getD zM _) (by rw[←q];exact S.getD zM _) (by rw[←r];exact T.getD zM _) H)]
   refine xq 1 [yU 11 ((wK f g+xL (xC f g) m 0:Nat):Int)] [] ?_
   refine yZ (yY (xq 4 [eS1 55 (yL h) (xs.length+(ys.length)) (xs.length+(ys.length)),yJ 58 (IntKind.i64.wrap ((i:Int)+(k:Int)))] [] ?_))
   rw[yW ((i:Int)+(k:Int)) (((i+k:Nat):Int)) qO]
   refine xq 2 [yU 59 ((xG (xC f g) m 0:Nat):Int),yU 60 (p:Int)] [] ?_
   refine xqk 61 (.tuple #[yX ((xG (xG (xC f g) m 0) p 0:Nat):Int), yX ((xL (xG (xC f g) m 0) p 0:Nat):Int)]) (fun w R Q=>fQ (args:=[Operand.tmp 59,Operand.tmp 60,Operand.const (Value.int IntKind.u64 0)]) (ts:=#[141,141,141]) (gW (xG (xC f g) m 0) p 0 qO w)) ?_
   refine xq 3 [yU 62 ((xG (xG (xC f g) m 0) p 0:Nat):Int),yU 63 ((xL (xG (xC f g) m 0) p 0:Nat):Int)] [] ?_
   refine xqk 64 (.pointer (some ⟨h,i+k,none⟩)) (fun w R Q=>lS (t:=107) (e:=141) (x:=.tmp 55) (ix:=.tmp 58) (len:=(xs.length+(ys.length))) (cap:=(xs.length+(ys.length))) (i:=i+k) qO) ?_
   refine jE (t:=141) (x:=.tmp 64) (y:=.tmp 62) h (i+k) (xG (xG (xC f g) m 0) p 0) (fun w=>((Box (fun j=>h≤j) w (fun w=>(zE .u64 w A (xs)∧zE .u64 w n (ys)))∧Own .u64 141 w h ((B).set (i+k) (xG (xG (xC f g) m 0) p 0)))∧True)) (fun w Q=>Q.1.2) qO (Or.inl C) (fun w w' Q W X=>⟨⟨((Q.1.1).fr (W.mono (fun _ _ e=>by rw[e];exact uF _))),X⟩,trivial⟩) ?_
   refine xr 1 [eS1 1 n ys.length c2,eS1 4 none 0 0,eS1 5 (yL h) (xs.length+(ys.length)) (xs.length+(ys.length)),yJ 6 (i:Int),yU 7 (f:Int),yU 8 (p:Int),yU 11 ((wK f g+xL (xC f g) m 0:Nat):Int),yU 13 ((xL (xG (xC f g) m 0) p 0:Nat):Int),eS1 20 A xs.length c,yJ 21 ((xs.length:Nat):Int),yJ 22 (i:Int),eS1 27 n ys.length c2,yJ 28 ((ys.length:Nat):Int),yJ 29 (k:Int)] [] ?_
   refine yZ (zB (xq 3 [(67,.v (yX (IntKind.u64.wrap (((wK f g+xL (xC f g) m 0:Nat):Int)+((xL (xG (xC f g) m 0) p 0:Nat):Int)))))] [] ?_))
   rw[ZfJ (a:=wK f g+xL (xC f g) m 0) (b:=xL (xG (xC f g) m 0) p 0) (ZiB (by rw[←s];exact D.2.1.getD zM _) (by rw[←q];exact S.getD zM _) (by rw[←r];exact T.getD zM _) H)]
   refine xq 1 [yU 8 ((wK f g+xL (xC f g) m 0+xL (xG (xC f g) m 0) p 0:Nat):Int)] [] ?_
   refine xe (xS (zA (zB (xq 1 [yJ 68 (IntKind.i64.wrap ((k:Int)+1))] [] ?_))))
   rw[yW ((k:Int)+1) (((k+1:Nat):Int)) qO]
   refine xq 1 [yJ 29 ((k+1:Nat):Int)] [] ?_
   refine xe ?_
   refine yP [eS1 1 n ys.length c2,eS1 4 none 0 0,eS1 5 (yL h) (xs.length+(ys.length)) (xs.length+(ys.length)),yJ 6 (i:Int),yU 7 (f:Int),(8,.v (yX (((wK f g+xL (xC f g) m 0+xL (xG (xC f g) m 0) p 0):Nat):Int))),eS1 20 A xs.length c,yJ 21 ((xs.length:Nat):Int),yJ 22 (i:Int),eS1 27 n ys.length c2,yJ 28 ((ys.length:Nat):Int),yJ 29 (((k+1):Nat):Int)] [] (fun w=>(Box (fun j=>h≤j) w (fun w=>(zE .u64 w A (xs)∧zE .u64 w n (ys)))∧Own .u64 141 w h (((B).set (i+k) (xG (xG (xC f g) m 0) p 0))))) (fun w Q=>⟨Q.1.1,Q.1.2⟩) ?_
   have Y:=D.step (k:=k) qO s r T (by rw[←q];exact S.getD zM _)
   exact xI ((ys.length-(k+1))) qO ⟨(wK f g+xL (xC f g) m 0+xL (xG (xC f g) m 0) p 0),(k+1),((B).set (i+k) (xG (xG (xC f g) m 0) p 0)),rfl,rfl,Y,qO,rfl⟩
  have G:=uB z
  have V:=D.1
  have H:=D.2.2.1
  obtain rfl:k=ys.length:=qO
  refine xN (zK (zK (xV (zA (zB (xq 5 [eS1 69 (yL h) (xs.length+(ys.length)) (xs.length+(ys.length)),yJ 73 (IntKind.i64.wrap ((i:Int)+((ys.length:Nat):Int)))] [] ?_))))))
  rw[yW ((i:Int)+((ys.length:Nat):Int)) (((i+(ys.length):Nat):Int)) qO]
  refine xq 1 [yU 74 (p:Int)] [] ?_
  refine xqk 75 (.pointer (some ⟨h,i+(ys.length),none⟩)) (fun w R Q=>lS (t:=107) (e:=141) (x:=.tmp 69) (ix:=.tmp 73) (len:=(xs.length+(ys.length))) (cap:=(xs.length+(ys.length))) (i:=i+(ys.length)) qO) ?_
  refine jE (t:=141) (x:=.tmp 75) (y:=.tmp 74) h (i+(ys.length)) (p) (fun w=>(Box (fun j=>h≤j) w (fun w=>(zE .u64 w A (xs)∧zE .u64 w n (ys)))∧Own .u64 141 w h ((B).set (i+(ys.length)) (p)))) (fun w Q=>Q.2) qO (Or.inl C) (fun w w' Q W X=>⟨((Q.1).fr (W.mono (fun _ _ e=>by rw[e];exact uF _))),X⟩) ?_
  refine xe (xS (zA (zB (xq 1 [yJ 76 (IntKind.i64.wrap ((i:Int)+1))] [] ?_))))
  rw[yW ((i:Int)+1) (((i+1:Nat):Int)) qO]
  refine xq 1 [yJ 22 ((i+1:Nat):Int)] [] ?_
  refine xe ?_
  refine yP [eS1 1 n ys.length c2,eS1 4 none 0 0,eS1 5 (yL h) (xs.length+(ys.length)) (xs.length+(ys.length)),eS1 20 A xs.length c,yJ 21 ((xs.length:Nat):Int),yJ 22 (((i+1):Nat):Int)] [] (fun w=>(Box (fun j=>h≤j) w (fun w=>(zE .u64 w A (xs)∧zE .u64 w n (ys)))∧Own .u64 141 w h (((B).set (i+(ys.length)) (p))))) (fun w Q=>⟨Q.1,Q.2⟩) ?_
  have Y:=E.step (i:=i) qO q D
  exact xI ((xs.length-(i+1))) qO ⟨(i+1),((B).set (i+(ys.length)) (p)),rfl,rfl,Y,qO,rfl⟩
 have F:=uB u
 have U:=E.1
 obtain rfl:i=xs.length:=qO
 refine xN (zK (zK (xV (zA (yY (xq 1 [eS1 77 (yL h) (xs.length+(ys.length)) (xs.length+(ys.length))] [] ?_))))))
 refine xqc 144 [.slice (yL h) (xs.length+(ys.length)) (xs.length+(ys.length))] 78 xH _ (fun w R Q=>yM xD (Zap Q.2 E.2.1 E.1 E.done qO)) fun⟨M,N,O⟩=>?_
 refine xq 1 [eS1 4 M N O] [] ?_
 refine yZ (zG ?_)
 refine yR (.slice M N O) fun w' R Q=>?_
 exact⟨_,rfl,Q.2,R⟩
theorem Zqv (A:qA)(xs:qN)(c k:Nat)(w:World)(T:zF w (.slice A xs.length c) (val W64 xs))(U:zE .u64 w A xs)(X:xs.length≤4294967296)(V:Dig W64 xs)(Y:k≤274877906944) :
 yA 101 #[.slice A xs.length c,.int .i64 ((k:Nat):Int)] w (lB w (val W64 xs*2^k)):=by
 refine zT (Φ:=fun w=>(zF w (.slice A xs.length c) (val W64 xs)∧zE .u64 w A xs)) func101 rfl qK (fun w' L=>⟨T.ext L,U.ext L⟩) ?_
 refine yY (xq 1 [eS1 4 none 0 0] [] ?_)
 refine yZ (zC (yY (xq 4 [yB 13 ((((xs.length:Nat):Int):Int) == 0)] [] ?_)))
 rcases bl2 (((((xs.length:Nat):Int):Int) == 0)) with h|h
 ·rw[h]
  have C:=tV.1 h
  refine xq 3 [yB 16 true] [] ?_
  refine yZ (xa (yY (xq 2 [eS1 4 A xs.length c] [] ?_)))
  refine yZ (zG (zH ?_))
  refine yR (.slice A xs.length c) fun w' R Q=>?_
  exact⟨_,rfl,(by obtain rfl:xs=[]:=vZ.1 qO;rw[eL,sM];exact Q.1),R⟩
 rw[h]
 have C:=lG h
 refine xq 3 [yB 16 (((k:Int):Int) == 0)] [] ?_
 refine xe (zA ?_)
 refine yQ ((((k:Int):Int) == 0)) (fun q=>?_) fun q=>?_
 ·have D:=tV.1 q
  refine yY (xq 2 [eS1 4 A xs.length c] [] ?_)
  refine yZ (zG (zH ?_))
  refine yR (.slice A xs.length c) fun w' R Q=>?_
  exact⟨_,rfl,(by obtain rfl:k=0:=qO;rw[tC,sB];exact Q.1),R⟩
 have D:=lG q
 refine zJ (zA (yY (xq 2 [(19,.v (yI (IntKind.i64.wrap (((k:Int)).tdiv 64))))] [] ?_)))
 rw[show IntKind.i64.wrap ((((k:Int)).tdiv 64))=((k/64:Nat):Int) from tdq (k) 64 qO]
 refine xq 2 [yJ 21 (((k:Int)).tmod 64)] [] ?_
 rw[show ((k:Int)).tmod 64=((k%64:Nat):Int) from tdr (k) 64]
 refine xq 1 [yU 22 (IntKind.u64.wrap (((k%64:Nat):Int)))] [] ?_
 rw[show IntKind.u64.wrap (((k%64:Nat):Int))=((k%64:Nat):Int) by rw[IntKind.wrap_u64];omega]
 refine xq 2 [yJ 5 ((k/64:Nat):Int),yU 6 ((k%64:Nat):Int)] [] ?_
 refine yZ (yY (xq 4 [yJ 26 (IntKind.i64.wrap (((xs.length:Nat):Int)+((k/64:Nat):Int)))] [] ?_))
 rw[yW (((xs.length:Nat):Int)+((k/64:Nat):Int)) (((xs.length+(k/64):Nat):Int)) qO]
 refine xq 1 [(27,.v (yI (IntKind.i64.wrap (((xs.length+(k/64):Nat):Int)+1))))] [] ?_
 rw[show IntKind.i64.wrap ((((xs.length+(k/64):Nat):Int)+1))=((xs.length+(k/64)+1:Nat):Int) by rw[IntKind.wrap_i64];omega]
 refine Zbr (d:=28) (t:=107) (e:=141) (k:=.u64) (kl:=.i64) (kc:=.i64) (l:=.tmp 27) (c:=.tmp 27) (xs.length+(k/64)+1) 8 qO qD fun f u _=>?_
 refine xr 1 [eS1 0 A xs.length c,eS1 4 none 0 0,yJ 5 ((k/64:Nat):Int),yU 6 ((k%64:Nat):Int),eS1 7 (yL f) (xs.length+(k/64)+1) (xs.length+(k/64)+1)] [] ?_
 refine yZ (zC (yY (xq 3 [eS1 29 A xs.length c,yJ 30 ((xs.length:Nat):Int),yJ 31 0] [] ?_)))
 refine yZ (zS ?_)
 refine yC [eS1 4 none 0 0,yJ 5 ((k/64:Nat):Int),yU 6 ((k%64:Nat):Int),eS1 7 (yL f) (xs.length+(k/64)+1) (xs.length+(k/64)+1),eS1 29 A xs.length c,yJ 30 ((xs.length:Nat):Int),yJ 31 ((0:Nat):Int)] [] (fun w=>(Box (fun j=>f≤j) w (fun w=>(zF w (.slice A xs.length c) (val W64 xs)∧zE .u64 w A (xs)))∧Own .u64 141 w f ((List.replicate (xs.length+(k/64)+1) 0)))) (fun w Q=>⟨Q.1,Q.2⟩) ?_
 refine xR (fun M N O=>∃ (i:Nat) (z:List Nat),N=ofL [eS1 4 none 0 0,yJ 5 ((k/64:Nat):Int),yU 6 ((k%64:Nat):Int),eS1 7 (yL f) (xs.length+(k/64)+1) (xs.length+(k/64)+1),eS1 29 A xs.length c,yJ 30 ((xs.length:Nat):Int),yJ 31 (i:Int)] []∧O=(fun w=>(Box (fun j=>f≤j) w (fun w=>(zF w (.slice A xs.length c) (val W64 xs)∧zE .u64 w A (xs)))∧Own .u64 141 w f (z)))∧(dE xs (k/64) (k%64) i z)∧(i≤xs.length)∧M=(xs.length-i)) ((xs.length-0)) ⟨0,(List.replicate (xs.length+(k/64)+1) 0),rfl,rfl,dE.start xs (k/64) (k%64),qO,rfl⟩ ?_
 rintro M N O ⟨i,z,rfl,rfl,B,hi,rfl⟩
 refine yY (xq 1 [yB 32 (decide ((i:Int)<((xs.length:Nat):Int)))] [] ?_)
 refine yZ (zC ?_)
 refine yQ ((decide ((i:Int)<((xs.length:Nat):Int)))) (fun r=>?_) fun r=>?_
 ·have E:=uA r
  have I:=B.1
  refine zJ (zA (zC (zS (yY (xq 1 [yJ 33 (i:Int)] [] ?_)))))
  refine xqk 34 (atA A i) (fun w R Q=>wE (t:=107) (e:=141) (x:=.tmp 29) (ix:=.tmp 31) (len:=xs.length) (cap:=c) (i:=i) (((Q.1).self.2).ne (j:=i) qO) qO) ?_
  obtain⟨g,s⟩:=yE (xs[i]?.getD 0)
  refine xqk 35 (yX (g:Int)) (fun w R Q=>by rw[←s];exact wP (t:=141) (x:=.tmp 34) ((Q.1).self.2) (j:=i) qO) ?_
  refine xq 2 [yJ 8 (i:Int),yU 9 (g:Int)] [] ?_
  refine yZ (yY (xq 4 [eS1 36 (yL f) (xs.length+(k/64)+1) (xs.length+(k/64)+1),yJ 39 (IntKind.i64.wrap ((i:Int)+((k/64:Nat):Int)))] [] ?_))
  rw[yW ((i:Int)+((k/64:Nat):Int)) (((i+(k/64):Nat):Int)) qO]
  refine xqk 40 (.pointer (some ⟨f,i+(k/64),none⟩)) (fun w R Q=>lS (t:=107) (e:=141) (x:=.tmp 36) (ix:=.tmp 39) (len:=(xs.length+(k/64)+1)) (cap:=(xs.length+(k/64)+1)) (i:=i+(k/64)) qO) ?_
  obtain⟨m,p⟩:=yE (z[i+(k/64)]?.getD 0)
  refine xqk 41 (yX (m:Int)) (fun w R Q=>by rw[←p];exact gH (t:=141) (x:=.tmp 40) (Q.2) (j:=i+(k/64)) qO) ?_
  refine xq 2 [yU 42 (g:Int),yU 43 ((k%64:Nat):Int)] [] ?_
  refine xqk 44 (yX ((g*2^(k%64)%W64:Nat):Int)) (fun w R Q=>ZiA (t:=141) (x:=.tmp 42) (y:=.tmp 43) (k:=135) (ky:=.u64) (a:=g) (n:=(k%64)) qO) ?_
  have W:=B.step (k:=i) qO qO p s (by rw[←s];exact V.getD zM _)
  refine xqk 45 (yX ((m+g*2^(k%64)%W64:Nat):Int)) (fun w R Q=>ZpW (t:=141) (x:=.tmp 41) (y:=.tmp 44) (k:=141) (a:=m) (b:=(g*2^(k%64)%W64)) (by rw[←p];exact B.2.1.getD zM _) (uM _ zM) (ZmJ (by rw[←p];exact B.2.2.2) qO)) ?_
  refine xqk 46 (.pointer (some ⟨f,i+(k/64),none⟩)) (fun w R Q=>lS (t:=107) (e:=141) (x:=.tmp 36) (ix:=.tmp 39) (len:=(xs.length+(k/64)+1)) (cap:=(xs.length+(k/64)+1)) (i:=i+(k/64)) qO) ?_
  refine jE (t:=141) (x:=.tmp 46) (y:=.tmp 45) f (i+(k/64)) (m+g*2^(k%64)%W64) (fun w=>(Box (fun j=>f≤j) w (fun w=>(zF w (.slice A xs.length c) (val W64 xs)∧zE .u64 w A (xs)))∧Own .u64 141 w f ((z).set (i+(k/64)) (m+g*2^(k%64)%W64)))) (fun w Q=>Q.2) qO (Or.inl u) (fun w w' Q J K=>⟨((Q.1).fr (J.mono (fun _ _ e=>by rw[e];exact uF _))),K⟩) ?_
  refine yZ (zB (xq 4 [eS1 47 (yL f) (xs.length+(k/64)+1) (xs.length+(k/64)+1),yJ 50 (IntKind.i64.wrap ((i:Int)+((k/64:Nat):Int)))] [] ?_))
  rw[yW ((i:Int)+((k/64:Nat):Int)) (((i+(k/64):Nat):Int)) qO]
  refine xq 1 [(51,.v (yI (IntKind.i64.wrap (((i+(k/64):Nat):Int)+1))))] [] ?_
  rw[show IntKind.i64.wrap ((((i+(k/64):Nat):Int)+1))=((i+(k/64)+1:Nat):Int) by rw[IntKind.wrap_i64];omega]
  refine xq 3 [yU 52 (g:Int),yU 54 (IntKind.u64.wrap (64-((k%64:Nat):Int)))] [] ?_
  rw[show IntKind.u64.wrap ((64-((k%64:Nat):Int)))=((64-(k%64):Nat):Int) by rw[IntKind.wrap_u64];have:=zO;omega]
  refine xqk 55 (yX ((g/2^(64-(k%64)):Nat):Int)) (fun w R Q=>Ziz (t:=141) (x:=.tmp 52) (y:=.tmp 54) (k:=135) (ky:=.u64) (a:=g) (n:=(64-(k%64))) qO) ?_
  refine xqk 56 (.pointer (some ⟨f,i+(k/64)+1,none⟩)) (fun w R Q=>lS (t:=107) (e:=141) (x:=.tmp 47) (ix:=.tmp 51) (len:=(xs.length+(k/64)+1)) (cap:=(xs.length+(k/64)+1)) (i:=i+(k/64)+1) qO) ?_
  refine jE (t:=141) (x:=.tmp 56) (y:=.tmp 55) f (i+(k/64)+1) (g/2^(64-(k%64))) (fun w=>(Box (fun j=>f≤j) w (fun w=>(zF w (.slice A xs.length c) (val W64 xs)∧zE .u64 w A (xs)))∧Own .u64 141 w f (((z).set (i+(k/64)) (m+g*2^(k%64)%W64)).set (i+(k/64)+1) (g/2^(64-(k%64)))))) (fun w Q=>Q.2) (by simp only[tR];omega) (Or.inl u) (fun w w' Q J K=>⟨((Q.1).fr (J.mono (fun _ _ e=>by rw[e];exact uF _))),K⟩) ?_
  refine xe (xS (zA (zB (xq 1 [yJ 57 (IntKind.i64.wrap ((i:Int)+1))] [] ?_))))
  rw[yW ((i:Int)+1) (((i+1:Nat):Int)) qO]
  refine xq 1 [yJ 31 ((i+1:Nat):Int)] [] ?_
  refine xe ?_
  refine yP [eS1 4 none 0 0,yJ 5 ((k/64:Nat):Int),yU 6 ((k%64:Nat):Int),eS1 7 (yL f) (xs.length+(k/64)+1) (xs.length+(k/64)+1),eS1 29 A xs.length c,yJ 30 ((xs.length:Nat):Int),yJ 31 (((i+1):Nat):Int)] [] (fun w=>(Box (fun j=>f≤j) w (fun w=>(zF w (.slice A xs.length c) (val W64 xs)∧zE .u64 w A (xs)))∧Own .u64 141 w f ((((z).set (i+(k/64)) (m+g*2^(k%64)%W64)).set (i+(k/64)+1) (g/2^(64-(k%64))))))) (fun w Q=>⟨Q.1,Q.2⟩) ?_
  exact xI ((xs.length-(i+1))) qO ⟨(i+1),(((z).set (i+(k/64)) (m+g*2^(k%64)%W64)).set (i+(k/64)+1) (g/2^(64-(k%64)))),rfl,rfl,W.1,qO,rfl⟩
 have E:=uB r
 have I:=B.1
 obtain rfl:i=xs.length:=qO
 have S:=B.done
 rw[show 64*(k/64)+k%64=k by omega] at S
 refine xN (zK (zK (xV (zA (yY (xq 1 [eS1 58 (yL f) (xs.length+(k/64)+1) (xs.length+(k/64)+1)] [] ?_))))))
 refine xqc 144 [.slice (yL f) (xs.length+(k/64)+1) (xs.length+(k/64)+1)] 59 xH _ (fun w R Q=>yM xD (Zap Q.2 B.2.1 B.1 S qO)) fun⟨F,G,H⟩=>?_
 refine xq 1 [eS1 4 F G H] [] ?_
 refine yZ (zG ?_)
 refine yR (.slice F G H) fun w' R Q=>?_
 exact⟨_,rfl,Q.2,R⟩
theorem Znb (A:qA)(xs:qN)(c k:Nat)(w:World)(Y:zF w (.slice A xs.length c) (val W64 xs))(Z:zE .u64 w A xs)(hl:xs.length≤4294967296)(H:Dig W64 xs)(hk:k≤274877906944) :
 yA 140 #[.slice A xs.length c,.int .i64 ((k:Nat):Int)] w (lB w (val W64 xs/2^k)):=by
 refine zT (Φ:=fun w=>(zF w (.slice A xs.length c) (val W64 xs)∧zE .u64 w A xs)) func140 rfl qK (fun w' U=>⟨Y.ext U,Z.ext U⟩) ?_
 refine yY (xq 1 [eS1 4 none 0 0] [] ?_)
 refine yZ (yY (xq 2 [(10,.v (yI (IntKind.i64.wrap (((k:Int)).tdiv 64))))] [] ?_))
 rw[show IntKind.i64.wrap ((((k:Int)).tdiv 64))=((k/64:Nat):Int) from tdq (k) 64 qO]
 refine xq 2 [yJ 12 (((k:Int)).tmod 64)] [] ?_
 rw[show ((k:Int)).tmod 64=((k%64:Nat):Int) from tdr (k) 64]
 refine xq 1 [yU 13 (IntKind.u64.wrap (((k%64:Nat):Int)))] [] ?_
 rw[show IntKind.u64.wrap (((k%64:Nat):Int))=((k%64:Nat):Int) by rw[IntKind.wrap_u64];omega]
 refine xq 2 [yJ 5 ((k/64:Nat):Int),yU 6 ((k%64:Nat):Int)] [] ?_
 refine yZ (zC (yY (xq 4 [yB 17 (decide (((k/64:Nat):Int)≥((xs.length:Nat):Int)))] [] ?_)))
 refine xe (zA ?_)
 refine yQ ((decide (((k/64:Nat):Int)≥((xs.length:Nat):Int)))) (fun q=>?_) fun q=>?_
 ·have D:=uA q
  refine yY (xq 1 [eS1 4 none 0 0] [] ?_)
  refine yZ (zG (zH ?_))
  refine yR (.slice none 0 0) fun w' R Q=>?_
  exact⟨_,rfl,by rw[ZeK H qO];exact zF.zero _,R⟩
 have D:=uB q
 refine zJ (zA (zC (yY (xq 2 [yB 19 (((k:Int):Int) == 0)] [] ?_))))
 refine xe (zA ?_)
 refine yQ ((((k:Int):Int) == 0)) (fun r=>?_) fun r=>?_
 ·have E:=tV.1 r
  refine yY (xq 2 [eS1 4 A xs.length c] [] ?_)
  refine yZ (zG (zH ?_))
  refine yR (.slice A xs.length c) fun w' R Q=>?_
  exact⟨_,rfl,by obtain rfl:k=0:=qO;rw[tC,rR];exact Q.1,R⟩
 have E:=lG r
 refine zJ (zA (yY (xq 4 [yJ 24 (IntKind.i64.wrap (((xs.length:Nat):Int)-((k/64:Nat):Int)))] [] ?_)))
 rw[yW (((xs.length:Nat):Int)-((k/64:Nat):Int)) (((xs.length-(k/64):Nat):Int)) qO]
 refine Zbr (d:=25) (t:=107) (e:=141) (k:=.u64) (kl:=.i64) (kc:=.i64) (l:=.tmp 24) (c:=.tmp 24) (xs.length-(k/64)) 8 qO qD fun f z _=>?_
 refine xr 1 [eS1 0 A xs.length c,eS1 4 none 0 0,yJ 5 ((k/64:Nat):Int),yU 6 ((k%64:Nat):Int),eS1 7 (yL f) (xs.length-(k/64)) (xs.length-(k/64))] [] ?_
 refine yZ (zC (yY (xq 3 [yJ 27 ((xs.length-(k/64):Nat):Int),yJ 28 0] [] ?_)))
 refine yZ (zS ?_)
 refine yC [eS1 0 A xs.length c,eS1 4 none 0 0,yJ 5 ((k/64:Nat):Int),yU 6 ((k%64:Nat):Int),eS1 7 (yL f) (xs.length-(k/64)) (xs.length-(k/64)),yJ 27 ((xs.length-(k/64):Nat):Int),yJ 28 ((0:Nat):Int)] [] (fun w=>(Box (fun j=>f≤j) w (fun w=>(zF w (.slice A xs.length c) (val W64 xs)∧zE .u64 w A (xs)))∧Own .u64 141 w f ((List.replicate (xs.length-(k/64)) 0)))) (fun w Q=>⟨Q.1,Q.2⟩) ?_
 refine xR (fun V W X=>∃ (i:Nat) (p:List Nat),W=ofL [eS1 0 A xs.length c,eS1 4 none 0 0,yJ 5 ((k/64:Nat):Int),yU 6 ((k%64:Nat):Int),eS1 7 (yL f) (xs.length-(k/64)) (xs.length-(k/64)),yJ 27 ((xs.length-(k/64):Nat):Int),yJ 28 (i:Int)] []∧X=(fun w=>(Box (fun j=>f≤j) w (fun w=>(zF w (.slice A xs.length c) (val W64 xs)∧zE .u64 w A (xs)))∧Own .u64 141 w f (p)))∧(dF (xs.drop (k/64)) (k%64) i p)∧(i≤xs.length-k/64)∧V=(xs.length-k/64-i)) ((xs.length-k/64-0)) ⟨0,(List.replicate (xs.length-(k/64)) 0),rfl,rfl,(by have:=dF.start (xs.drop (k/64)) (k%64);rwa [vT] at this),qO,rfl⟩ ?_
 rintro V W X ⟨i,p,rfl,rfl,I,hi,rfl⟩
 refine yY (xq 1 [(29,.v (.bool (decide ((i:Int)<((xs.length-(k/64):Nat):Int)))))] [] ?_)
 refine yZ (zC ?_)
 refine yQ ((decide ((i:Int)<((xs.length-(k/64):Nat):Int)))) (fun s=>?_) fun s=>?_
 ·have F:=uA s
  have J:p.length=xs.length-k/64:=by rw[I.1,vT]
  refine zJ (zA (zC (zS (yY (xq 2 [yJ 8 (i:Int)] [] ?_)))))
  refine yZ (yY (xq 6 [eS1 31 (yL f) (xs.length-(k/64)) (xs.length-(k/64)),yJ 32 (i:Int),eS1 33 A xs.length c,yJ 36 (IntKind.i64.wrap ((i:Int)+((k/64:Nat):Int)))] [] ?_))
  rw[yW ((i:Int)+((k/64:Nat):Int)) (((i+(k/64):Nat):Int)) qO]
  refine xqk 37 (atA A (i+(k/64))) (fun w R Q=>wE (t:=107) (e:=141) (x:=.tmp 33) (ix:=.tmp 36) (len:=xs.length) (cap:=c) (i:=i+(k/64)) (((Q.1).self.2).ne (j:=i+(k/64)) qO) qO) ?_
  obtain⟨g,h⟩:=yE (xs[i+(k/64)]?.getD 0)
  refine xqk 38 (yX (g:Int)) (fun w R Q=>by rw[←h];exact wP (t:=141) (x:=.tmp 37) ((Q.1).self.2) (j:=i+(k/64)) qO) ?_
  refine xq 1 [yU 39 ((k%64:Nat):Int)] [] ?_
  refine xqk 40 (yX ((g/2^(k%64):Nat):Int)) (fun w R Q=>Ziz (t:=141) (x:=.tmp 38) (y:=.tmp 39) (k:=135) (ky:=.u64) (a:=g) (n:=(k%64)) qO) ?_
  refine xqk 41 (.pointer (some ⟨f,i,none⟩)) (fun w R Q=>lS (t:=107) (e:=141) (x:=.tmp 31) (ix:=.tmp 32) (len:=(xs.length-(k/64))) (cap:=(xs.length-(k/64))) (i:=i) qO) ?_
  refine jE (t:=141) (x:=.tmp 41) (y:=.tmp 40) f (i) (g/2^(k%64)) (fun w=>(Box (fun j=>f≤j) w (fun w=>(zF w (.slice A xs.length c) (val W64 xs)∧zE .u64 w A (xs)))∧Own .u64 141 w f ((p).set (i) (g/2^(k%64))))) (fun w Q=>Q.2) qO (Or.inl z) (fun w w' Q S T=>⟨((Q.1).fr (S.mono (fun _ _ e=>by rw[e];exact uF _))),T⟩) ?_
  refine yZ (yY (xq 3 [yJ 44 (IntKind.i64.wrap ((i:Int)+((k/64:Nat):Int)))] [] ?_))
  rw[yW ((i:Int)+((k/64:Nat):Int)) (((i+(k/64):Nat):Int)) qO]
  refine xq 1 [(45,.v (yI (IntKind.i64.wrap (((i+(k/64):Nat):Int)+1))))] [] ?_
  rw[show IntKind.i64.wrap ((((i+(k/64):Nat):Int)+1))=((i+(k/64)+1:Nat):Int) by rw[IntKind.wrap_i64];omega]
  refine xq 3 [(48,.v (.bool (decide (((i+(k/64)+1:Nat):Int)<((xs.length:Nat):Int)))))] [] ?_
  refine xe (zA ?_)
  refine yQ ((decide (((i+(k/64)+1:Nat):Int)<((xs.length:Nat):Int)))) (fun u=>?_) fun u=>?_
  ·have G:=uA u
   refine Za2 16 [0,0,3,7,0,0,0,96,224,496,1008,0,2048,8176,16383,32767] qK qK zP ?_
   refine xqf 2 [eS1 49 (yL f) (xs.length-(k/64)) (xs.length-(k/64)),yJ 50 (i:Int)] [] ?_
   refine xqj 51 (.pointer (some ⟨f,i,none⟩)) (fun w Q=>lS (t:=107) (e:=141) (x:=.tmp 49) (ix:=.tmp 50) (len:=(xs.length-(k/64))) (cap:=(xs.length-(k/64))) (i:=i) qO) ?_
   obtain⟨K,B⟩:=yE (((p).set (i) (g/2^(k%64)))[i]?.getD 0)
   refine xqj 52 (yX (K:Int)) (fun w Q=>by rw[←B];exact gH (t:=141) (x:=.tmp 51) (Q.2) (j:=i) (by simp only[tR];omega)) ?_
   obtain rfl:K=g/2^(k%64):=by rw[←B,tU qO];rfl
   refine xqf 4 [eS1 53 A xs.length c,yJ 56 (IntKind.i64.wrap ((i:Int)+((k/64:Nat):Int)))] [] ?_
   rw[yW ((i:Int)+((k/64:Nat):Int)) (((i+(k/64):Nat):Int)) qO]
   refine xqf 1 [(57,.v (yI (IntKind.i64.wrap (((i+(k/64):Nat):Int)+1))))] [] ?_
   rw[show IntKind.i64.wrap ((((i+(k/64):Nat):Int)+1))=((i+(k/64)+1:Nat):Int) by rw[IntKind.wrap_i64];omega]
   refine xqj 58 (atA A (i+(k/64)+1)) (fun w Q=>wE (t:=107) (e:=141) (x:=.tmp 53) (ix:=.tmp 57) (len:=xs.length) (cap:=c) (i:=i+(k/64)+1) (((Q.1).self.2).ne (j:=i+(k/64)+1) qO) qO) ?_
   obtain⟨m,C⟩:=yE (xs[i+(k/64)+1]?.getD 0)
   refine xqj 59 (yX (m:Int)) (fun w Q=>by rw[←C];exact wP (t:=141) (x:=.tmp 58) ((Q.1).self.2) (j:=i+(k/64)+1) qO) ?_
   refine xqf 2 [yU 61 (IntKind.u64.wrap (64-((k%64:Nat):Int)))] [] ?_
   rw[show IntKind.u64.wrap ((64-((k%64:Nat):Int)))=((64-(k%64):Nat):Int) by rw[IntKind.wrap_u64];have:=zO;omega]
   refine xqj 62 (yX ((m*2^(64-(k%64))%W64:Nat):Int)) (fun w Q=>ZiA (t:=141) (x:=.tmp 59) (y:=.tmp 61) (k:=135) (ky:=.u64) (a:=m) (n:=(64-(k%64))) qO) ?_
   have O:=I.step (k:=i) (x:=g) (y:=m) qO (by rw[vT];omega) (by rw[vK,vP];exact h) (by rw[vK,show k/64+(i+1)=i+k/64+1 by omega];exact C) (by rw[←h];exact H.getD zM _)
   refine xqj 63 (yX ((g/2^(k%64)+m%2^(k%64)*2^(64-k%64):Nat):Int)) (fun w Q=>ZpW (t:=141) (x:=.tmp 52) (y:=.tmp 62) (k:=141) (a:=((g/2^(k%64)))) (b:=(m*2^(64-(k%64))%W64)) (vS (uY _ _) (by rw[←h];exact H.getD zM _)) (uM _ zM) (ZmK qO (by rw[←h];exact H.getD zM _))) ?_
   refine xqj 64 (.pointer (some ⟨f,i,none⟩)) (fun w Q=>lS (t:=107) (e:=141) (x:=.tmp 49) (ix:=.tmp 50) (len:=(xs.length-(k/64))) (cap:=(xs.length-(k/64))) (i:=i) qO) ?_
   refine xz ?_
   refine jE (t:=141) (x:=.tmp 64) (y:=.tmp 63) f (i) (g/2^(k%64)+m%2^(k%64)*2^(64-k%64)) (fun w=>(Box (fun j=>f≤j) w (fun w=>(zF w (.slice A xs.length c) (val W64 xs)∧zE .u64 w A (xs)))∧Own .u64 141 w f (((p).set (i) (g/2^(k%64))).set (i) (g/2^(k%64)+m%2^(k%64)*2^(64-k%64))))) (fun w Q=>Q.2) (by simp only[tR];omega) (Or.inl z) (fun w w' Q S T=>⟨((Q.1).fr (S.mono (fun _ _ e=>by rw[e];exact uF _))),T⟩) ?_
   refine xe (xS (zA (zB (xq 1 [yJ 65 (IntKind.i64.wrap ((i:Int)+1))] [] ?_))))
   rw[yW ((i:Int)+1) (((i+1:Nat):Int)) qO]
   refine xr 1 [eS1 0 A xs.length c,eS1 4 none 0 0,yJ 5 ((k/64:Nat):Int),yU 6 ((k%64:Nat):Int),eS1 7 (yL f) (xs.length-(k/64)) (xs.length-(k/64)),yJ 27 ((xs.length-(k/64):Nat):Int),yJ 28 ((i+1:Nat):Int)] [] ?_
   refine xe ?_
   refine yP [eS1 0 A xs.length c,eS1 4 none 0 0,yJ 5 ((k/64:Nat):Int),yU 6 ((k%64:Nat):Int),eS1 7 (yL f) (xs.length-(k/64)) (xs.length-(k/64)),yJ 27 ((xs.length-(k/64):Nat):Int),yJ 28 (((i+1):Nat):Int)] [] (fun w=>(Box (fun j=>f≤j) w (fun w=>(zF w (.slice A xs.length c) (val W64 xs)∧zE .u64 w A (xs)))∧Own .u64 141 w f ((((p).set (i) (g/2^(k%64))).set (i) (g/2^(k%64)+m%2^(k%64)*2^(64-k%64)))))) (fun w Q=>⟨Q.1,Q.2⟩) ?_
   exact xI ((xs.length-k/64-(i+1))) qO ⟨(i+1),(((p).set (i) (g/2^(k%64))).set (i) (g/2^(k%64)+m%2^(k%64)*2^(64-k%64))),rfl,rfl,(by rw[List.set_set];exact O),qO,rfl⟩
  have G:=uB u
  have O:=I.step (k:=i) (x:=g) (y:=0) qO (by rw[vT];omega) (by rw[vK,vP];exact h) (by rw[vK,vN qO];rfl) (by rw[←h];exact H.getD zM _)
  rw[nE,sM,tG] at O
  refine zJ (xS (zA (zB (xq 1 [yJ 65 (IntKind.i64.wrap ((i:Int)+1))] [] ?_))))
  rw[yW ((i:Int)+1) (((i+1:Nat):Int)) qO]
  refine xq 1 [yJ 28 ((i+1:Nat):Int)] [] ?_
  refine xe ?_
  refine yP [eS1 0 A xs.length c,eS1 4 none 0 0,yJ 5 ((k/64:Nat):Int),yU 6 ((k%64:Nat):Int),eS1 7 (yL f) (xs.length-(k/64)) (xs.length-(k/64)),yJ 27 ((xs.length-(k/64):Nat):Int),yJ 28 (((i+1):Nat):Int)] [] (fun w=>(Box (fun j=>f≤j) w (fun w=>(zF w (.slice A xs.length c) (val W64 xs)∧zE .u64 w A (xs)))∧Own .u64 141 w f (((p).set (i) (g/2^(k%64)))))) (fun w Q=>⟨Q.1,Q.2⟩) ?_
  exact xI ((xs.length-k/64-(i+1))) qO ⟨(i+1),((p).set (i) (g/2^(k%64))),rfl,rfl,O,qO,rfl⟩
 have F:=uB s
 have J:p.length=xs.length-k/64:=by rw[I.1,vT]
 obtain rfl:i=xs.length-k/64:=qO
 have HD:=I
 rw[←vT] at HD
 replace HD:=HD.done
 rw[Zgi xs (k/64) (k%64) H qO,show 64*(k/64)+k%64=k by omega] at HD
 refine xN (zK (zK (xV (zA (yY (xq 1 [eS1 66 (yL f) (xs.length-(k/64)) (xs.length-(k/64))] [] ?_))))))
 refine xqc 144 [.slice (yL f) (xs.length-(k/64)) (xs.length-(k/64))] 67 xH _ (fun w R Q=>yM xD (Zap Q.2 I.2.1 J HD qO)) fun⟨L,M,N⟩=>?_
 refine xq 1 [eS1 4 L M N] [] ?_
 refine yZ (zG ?_)
 refine yR (.slice L M N) fun w' R Q=>?_
 exact⟨_,rfl,Q.2,R⟩
theorem fW (neg:Bool)(u:Value)(n:Nat)(w:World)(a:zZ w u n):yA 93 #[.bool neg,u] w (lW w (sg neg n)):=by
 refine (gZ neg u n w a).mono ?_
 rintro e d ⟨s,rfl,c,b⟩
 exact⟨_,rfl,zN.signed (a.ext b) c.out,b⟩
theorem zN.opn {w:World}{s:Bool}{A:qA}{l c:Nat}{z:Int}(h:zN w (.agg #[.bool s,.slice A l c]) z):zZ w (.slice A l c) z.natAbs∧z=sg s z.natAbs∧(z=0→s=false):=by
 obtain⟨f,g,i,j,a,b,d,e⟩:=h.open
 injection a with a
 simp at a
 obtain⟨rfl,rfl,rfl,rfl⟩:=a
 exact⟨b,d,e⟩
theorem zN.mag {w:World}{s:Bool}{A:qA}{l c:Nat}{z:Int}(h:zN w (.agg #[.bool s,.slice A l c]) z):zZ w (.slice A l c) z.natAbs:=h.opn.1
theorem ZrP {w:World}{s:Bool}{A:qA}{l c:Nat}{z:Int}(h:zN w (.agg #[.bool s,.slice A l c]) z):sg (!s) z.natAbs = -z:=by
 obtain⟨_,a,b⟩:=h.opn
 cases s<;>simp[sg] at *<;>omega
theorem xZ.neg {x:Int}(h:xZ x):xZ (-x):=by
 unfold xZ at *;rw[Int.natAbs_neg];exact h
theorem ZaL {fn:Func}{t:Tmp}{a:Array Value}{w w':World}{r:Nat}{x y:Value}{z:Int}(b:fn.results=#[.cell t 57])(c:a[t]? = some (.pointer (some ⟨r,0,none⟩)))(d:Blk 57 w' r #[x,y])(e:zN w' (.agg #[x,y]) z)(Q:Ext w w'):bodyPost prog fn (lW w z) .ret ⟨a,[]⟩ w' :=
 bodyPost_ret (Zaa b _ _ r _ _ c d) rfl ⟨_,rfl,e,Q⟩
theorem zN.sneg {w:World}{s:Bool}{A:qA}{l c:Nat}{z:Int}(h:zN w (.agg #[.bool s,.slice A l c]) z)(b:z<0):s=true:=by
 obtain⟨_,a,d⟩:=h.opn
 cases s with
 | true=>rfl
 | false=>simp[sg] at a;omega
theorem zN.spos {w:World}{s:Bool}{A:qA}{l c:Nat}{z:Int}(h:zN w (.agg #[.bool s,.slice A l c]) z)(d:0≤z):s=false:=by
 obtain⟨_,a,b⟩:=h.opn
 cases s with
 | false=>rfl
 | true=>simp[sg] at a;exact b qO
theorem zN.len0 {w:World}{s:Bool}{A:qA}{l c:Nat}{z:Int}(h:zN w (.agg #[.bool s,.slice A l c]) z)(d:z=0):l=0:=by
 obtain⟨e,_,_⟩:=h.opn
 obtain⟨g,i,j,a,_,_,k,f,b⟩:=e
 injection a with _ a
 rw[d] at b
 have:=ZhC f zX b
 rw[this] at a
 simpa using a
theorem zN.lenp {w:World}{s:Bool}{A:qA}{l c:Nat}{z:Int}(h:zN w (.agg #[.bool s,.slice A l c]) z)(g:z≠0):0<l:=by
 obtain⟨d,_,_⟩:=h.opn
 obtain⟨i,f,j,a,_,_,k,m,b⟩:=d
 injection a with _ a
 rcases uJ l with e|e
 ·rw[e] at a
  have:f=[]:=vZ.1 a.symm
  rw[this] at b
  simp at b
  omega
 exact e
theorem zN.quo {w:World}{s t:Bool}{A B:qA}{l c a b:Nat}{x y:Int}(h:zN w (.agg #[.bool s,.slice A l c]) x)(k:zN w (.agg #[.bool t,.slice B a b]) y):sg (s != t) (x.natAbs/y.natAbs)=x.tdiv y∧sg s (x.natAbs%y.natAbs)=x.tmod y:=by
 obtain⟨_,d,f⟩:=h.opn
 obtain⟨_,e,g⟩:=k.opn
 generalize x.natAbs=m at *
 generalize y.natAbs=n at *
 subst d e
 cases s<;>cases t<;>simp[sg,Int.neg_tdiv,Int.tdiv_neg,Int.neg_tmod,Int.tmod_neg]<;>exact (sG qO).symm
def Zd6 (w:World) (q r:Int) (e:Ending) (w':World):Prop:=∃ u v,e=.returned (.tuple #[u,v])∧zN w' u q∧zN w' v r∧Ext w w'
theorem ZoU {fn:Func}{t h:Tmp}{a:Array Value}{w w':World}{r i:Nat}{x y c d:Value}{z j:Int}(b:fn.results=#[.cell t 57,.cell h 57])(k:a[t]? = some (.pointer (some ⟨r,0,none⟩)))(e:a[h]? = some (.pointer (some ⟨i,0,none⟩)))(l:Blk 57 w' r #[x,y])(f:Blk 57 w' i #[c,d])(m:zN w' (.agg #[x,y]) z)(g:zN w' (.agg #[c,d]) j)(Q:Ext w w'):bodyPost prog fn (Zd6 w z j) .ret ⟨a,[]⟩ w':=by
 obtain⟨n,o,_⟩:=l.cell2
 obtain⟨p,q,_⟩:=f.cell2
 exact bodyPost_ret (v:=.tuple #[.agg #[x,y],.agg #[c,d]]) (by simp[results,b,k,e,go_sem,n,o,p,q]) rfl ⟨_,_,rfl,m,g,Q⟩
theorem Zgz {q:Rat}(h:¬ q.den=1):denF q≠0:=by rw[fI h];have:=q.den_nz;omega
theorem ZeT (a:Value)(x:Int)(w:World)(ha:zN w a x) :
 yA 55 #[a] w (lW w (-x)):=by
 obtain⟨A,C,D,E,rfl⟩:=ha.shp
 have F2:Hid (zN w (.agg #[.bool A,.slice C D E]) (x)):=ha
 clear ha
 have F:=zh (ZrP F2.out)
 go_enter func55,ntmps55
 go_wp2_with fail
 generalize s:World.alloc (World.alloc w _) _=w5
 obtain⟨d,f,g⟩:=aI s
 clear s
 have B3:=zh d
 have B4:=zh f
 clear d f
 replace F2:=zh (F2.out.ext g)
 have HE:=zh g
 clear g
 have F6:Hid (zZ w5 (.slice C D E) ((x).natAbs)):=F2.out.mag
 refine (fW ((!A)) _ _ _ F6.out).mono ?_
 rintro e t ⟨_,rfl,B,r⟩
 obtain⟨u,v,y,z,rfl⟩:=B.shp
 replace B3:=zh (B3.out.ext r)
 replace B4:=zh (B4.out.ext r)
 replace F2:=zh (F2.out.ext r)
 replace F6:=zh (F6.out.ext r)
 replace HE:=zh (HE.out.trans r)
 have F9:Hid (zN t (.agg #[.bool u,.slice v y z]) (sg ((!A)) ((x).natAbs))):=B
 clear r B
 obtain⟨h,j,k,l⟩:=B3.out.cell2
 obtain⟨m,n,o,q⟩:=B4.out.cell2
 go_wp2
 clear h j k l m n o q
 have b:Fr (fun i=>i=(w.heap.size+1)) t ((t.setCell ⟨(w.heap.size+1),0,none⟩ (.bool u)).setCell ⟨(w.heap.size+1),1,none⟩ (.slice v y z)):=(((Fr.refl (fun i=>i=(w.heap.size+1)) _).setCell (p:=⟨(w.heap.size+1),0,none⟩) (Or.inl rfl) _).setCell (p:=⟨(w.heap.size+1),1,none⟩) (Or.inl rfl) _)
 replace F2:=zh (F2.out.oth B4.out lJ b)
 replace F6:=zh (F6.out.oth B4.out lJ b)
 replace F9:=zh (F9.out.oth B4.out lJ b)
 replace B3:=zh (B3.out.fr b (by first|omega | (have:=B3.out.lt;have:=B4.out.lt;omega)))
 replace HE:=zh (HE.out.next b (fun i hi e=>by first|omega | (have:=HE.out.size;have:=B4.out.lt;omega)))
 have c:Blk 57 ((t.setCell ⟨(w.heap.size+1),0,none⟩ (.bool u)).setCell ⟨(w.heap.size+1),1,none⟩ (.slice v y z)) (w.heap.size+1) #[.bool u,.slice v y z]:=((B4.out.set_ 0 _).set_ 1 _)
 generalize ((t.setCell ⟨(w.heap.size+1),0,none⟩ (.bool u)).setCell ⟨(w.heap.size+1),1,none⟩ (.slice v y z))=w12 at *
 replace B4:=zh c;clear c b
 exact ZaL rfl rfl B4.out (by have:=F9.out;rw[F.out] at this;exact this) HE.out
theorem ZoV (a b:Value)(x y:Int)(w:World)(ha:zN w a x)(Z:zN w b y)(hx:xZ x)(hy:xZ y) :
 yA 198 #[a,b] w (lW w (x-y)):=by
 obtain⟨N,O,P,Q,rfl⟩:=ha.shp
 have F2:Hid (zN w (.agg #[.bool N,.slice O P Q]) (x)):=ha
 clear ha
 obtain⟨R,S,T,U,rfl⟩:=Z.shp
 have F4:Hid (zN w (.agg #[.bool R,.slice S T U]) (y)):=Z
 clear Z
 have Hx:=zh hx
 have Y:=zh hy
 clear hx hy
 go_enter func198,ntmps198
 go_wp2_with fail
 generalize V:World.alloc (World.alloc (World.alloc w _) _) _=w8
 obtain⟨t,u,v,s⟩:=Zgv V
 clear V
 have B5:=zh t
 have B6:=zh u
 have B7:=zh v
 clear t u v
 replace F2:=zh (F2.out.ext s)
 replace F4:=zh (F4.out.ext s)
 have HE:=zh s
 clear s
 refine ZbQ 4 (fun f=>Blk 57 f w.heap.size #[.bool N,.slice O P Q]∧Blk 57 f (w.heap.size+1) #[.bool R,.slice S T U]∧Blk 57 f (w.heap.size+1+1) #[.bool false,.slice none 0 0]) zP ?_
 replace B5:=zh (B5.out.ext (Fr.refl _ _).drew)
 replace B6:=zh (B6.out.ext (Fr.refl _ _).drew)
 replace B7:=zh (B7.out.ext (Fr.refl _ _).drew)
 replace F2:=zh (F2.out.ext (Fr.refl _ _).drew)
 replace F4:=zh (F4.out.ext (Fr.refl _ _).drew)
 replace HE:=zh (HE.out.trans (Fr.refl _ _).drew)
 generalize w8.drew=w9 at *
 have k:=(⟨B5.out,B6.out,B7.out⟩:(fun f=>Blk 57 f w.heap.size #[.bool N,.slice O P Q]∧Blk 57 f (w.heap.size+1) #[.bool R,.slice S T U]∧Blk 57 f (w.heap.size+1+1) #[.bool false,.slice none 0 0]) w9)
 refine jT 0 rfl qK (fun _ _ _ h=>h) k (fun _=>Zg7 (g:=w.heap.size) (off:=0) (x:=.bool N) (y:=.slice O P Q) rfl rfl qK (fun _ h=>Blk.two (h.1) 0 rfl rfl)) (fun k=>?_)
 refine jT 1 rfl qK (fun _ _ _ h=>h) k (fun _=>Zg7 (g:=(w.heap.size+1)) (off:=0) (x:=.bool R) (y:=.slice S T U) rfl rfl qK (fun _ h=>Blk.two (h.2.1) 0 rfl rfl)) (fun k=>?_)
 refine Zcr 2 rfl qK rfl (fun K W=>?_)
 go_simp
 clear k
 refine (ZeT _ (y) _ F4.out).mono ?_
 rintro e X ⟨_,rfl,z,d⟩
 obtain⟨a0,b0,c0,d0,rfl⟩:=z.shp
 replace B5:=zh (B5.out.ext d)
 replace B6:=zh (B6.out.ext d)
 replace B7:=zh (B7.out.ext d)
 replace F2:=zh (F2.out.ext d)
 replace F4:=zh (F4.out.ext d)
 replace HE:=zh (HE.out.trans d)
 have F12:Hid (zN X (.agg #[.bool a0,.slice b0 c0 d0]) (-(y))):=z
 clear d z
 have k:=(⟨B5.out,B6.out,B7.out⟩:(fun f=>Blk 57 f w.heap.size #[.bool N,.slice O P Q]∧Blk 57 f (w.heap.size+1) #[.bool R,.slice S T U]∧Blk 57 f (w.heap.size+1+1) #[.bool false,.slice none 0 0]) X)
 refine W _ _ k ?_
 clear W
 refine Zcr 3 rfl qK rfl (fun K W=>?_)
 go_simp
 clear k
 refine (Zik _ _ (x) (-(y)) _ F2.out F12.out (by first|exact Hx.out|exact Y.out|exact xZ.neg Y.out|exact Hx'.out|exact Hy'.out) (by first|exact Hx.out|exact Y.out|exact xZ.neg Y.out|exact Hx'.out|exact Hy'.out)).mono ?_
 rintro e j ⟨_,rfl,z,d⟩
 obtain⟨m,n,o,q,rfl⟩:=z.shp
 replace B5:=zh (B5.out.ext d)
 replace B6:=zh (B6.out.ext d)
 replace B7:=zh (B7.out.ext d)
 replace F2:=zh (F2.out.ext d)
 replace F4:=zh (F4.out.ext d)
 replace F12:=zh (F12.out.ext d)
 replace HE:=zh (HE.out.trans d)
 have F15:Hid (zN j (.agg #[.bool m,.slice n o q]) ((x)+(-(y)))):=z
 clear d z
 have k:=(⟨B5.out,B6.out,B7.out⟩:(fun f=>Blk 57 f w.heap.size #[.bool N,.slice O P Q]∧Blk 57 f (w.heap.size+1) #[.bool R,.slice S T U]∧Blk 57 f (w.heap.size+1+1) #[.bool false,.slice none 0 0]) j)
 refine W _ _ k ?_
 clear W
 refine ZeN (l:=[_]) 4 rfl qK ?_
 clear k
 obtain⟨A,B,C,D⟩:=B5.out.cell2
 obtain⟨E,F,G,H⟩:=B6.out.cell2
 obtain⟨I,J,L,M⟩:=B7.out.cell2
 go_wp2
 clear A B C D E F G H I J L M
 have c:Fr (fun i=>i=(w.heap.size+1+1)) j ((j.setCell ⟨(w.heap.size+1+1),0,none⟩ (.bool m)).setCell ⟨(w.heap.size+1+1),1,none⟩ (.slice n o q)):=(((Fr.refl (fun i=>i=(w.heap.size+1+1)) _).setCell (p:=⟨(w.heap.size+1+1),0,none⟩) (Or.inl rfl) _).setCell (p:=⟨(w.heap.size+1+1),1,none⟩) (Or.inl rfl) _)
 replace F2:=zh (F2.out.oth B7.out lJ c)
 replace F4:=zh (F4.out.oth B7.out lJ c)
 replace F12:=zh (F12.out.oth B7.out lJ c)
 replace F15:=zh (F15.out.oth B7.out lJ c)
 replace B5:=zh (B5.out.fr c (by first|omega | (have:=B5.out.lt;have:=B7.out.lt;omega)))
 replace B6:=zh (B6.out.fr c (by first|omega | (have:=B6.out.lt;have:=B7.out.lt;omega)))
 replace HE:=zh (HE.out.next c (fun i hi e=>by first|omega | (have:=HE.out.size;have:=B7.out.lt;omega)))
 have r:Blk 57 ((j.setCell ⟨(w.heap.size+1+1),0,none⟩ (.bool m)).setCell ⟨(w.heap.size+1+1),1,none⟩ (.slice n o q)) (w.heap.size+1+1) #[.bool m,.slice n o q]:=((B7.out.set_ 0 _).set_ 1 _)
 generalize ((j.setCell ⟨(w.heap.size+1+1),0,none⟩ (.bool m)).setCell ⟨(w.heap.size+1+1),1,none⟩ (.slice n o q))=w19 at *
 replace B7:=zh r;clear r c
 exact ZaL rfl rfl B7.out (by rw[Int.sub_eq_add_neg];exact F15.out) HE.out
theorem Znf (a:Value)(x:Int)(w:World)(ha:zN w a x)(e:x<0) :
 yA 71 #[a] w (RetV w (.int .i64 (-1))):=by
 obtain⟨f,g,h,i,rfl⟩:=ha.shp
 have F2:Hid (zN w (.agg #[.bool f,.slice g h i]) (x)):=ha
 clear ha
 obtain rfl:f=true:=F2.out.sneg e
 clear e
 go_enter func71,ntmps71
 go_wp2
 generalize d:World.alloc w _=w4
 obtain⟨b,c⟩:=gT d
 clear d
 have k:=zh b
 clear b
 replace F2:=zh (F2.out.ext c)
 have j:=zh c
 clear c
 go_ret
 exact⟨rfl,j.out⟩
theorem ZlK (a:Value)(x:Int)(w:World)(ha:zN w a x)(e:x=0) :
 yA 71 #[a] w (RetV w (.int .i64 (0))):=by
 obtain⟨f,h,g,i,rfl⟩:=ha.shp
 have F2:Hid (zN w (.agg #[.bool f,.slice h g i]) (x)):=ha
 clear ha
 obtain rfl:f=false:=F2.out.spos qO
 obtain rfl:g=0:=F2.out.len0 e
 clear e
 go_enter func71,ntmps71
 go_wp2
 generalize d:World.alloc w _=w4
 obtain⟨b,c⟩:=gT d
 clear d
 have k:=zh b
 clear b
 replace F2:=zh (F2.out.ext c)
 have j:=zh c
 clear c
 go_ret
 exact⟨rfl,j.out⟩
theorem Zng (a:Value)(x:Int)(w:World)(ha:zN w a x)(g:0<x) :
 yA 71 #[a] w (RetV w (.int .i64 (1))):=by
 obtain⟨e,h,f,i,rfl⟩:=ha.shp
 have F2:Hid (zN w (.agg #[.bool e,.slice h f i]) (x)):=ha
 clear ha
 obtain rfl:e=false:=F2.out.spos qO
 have k:((f:Int) == 0)=false:=by have:=F2.out.lenp qO;simp;omega
 clear g
 go_enter func71,ntmps71
 go_wp2
 generalize d:World.alloc w _=w4
 obtain⟨b,c⟩:=gT d
 clear d
 have l:=zh b
 clear b
 replace F2:=zh (F2.out.ext c)
 have j:=zh c
 clear c
 go_ret
 exact⟨rfl,j.out⟩
theorem bG (a:Value)(x:Int)(w:World)(ha:zN w a x):yA 71 #[a] w (RetV w (.int .i64 x.sign)):=by
 rcases Int.lt_trichotomy x 0 with h|h|h
 ·rw[Int.sign_eq_neg_one_of_neg h];exact Znf a x w ha h
 ·rw[h,Int.sign_zero];exact ZlK a x w ha h
 rw[pO h];exact Zng a x w ha h
theorem ZoW (a b:Value)(x y:Int)(w:World)(ha:zN w a x)(F:zN w b y)(I:xZ x)(J:xZ y) :
 yA 166 #[a,b] w (RetV w (.int .i64 (x-y).sign)):=by
 obtain⟨M,N,O,P,rfl⟩:=ha.shp
 have F2:Hid (zN w (.agg #[.bool M,.slice N O P]) (x)):=ha
 clear ha
 obtain⟨Q,R,S,T,rfl⟩:=F.shp
 have F4:Hid (zN w (.agg #[.bool Q,.slice R S T]) (y)):=F
 clear F
 have K:=zh I
 have E:=zh J
 clear I J
 obtain⟨r,G⟩:=yE ((x-y).sign)
 rw[G]
 have U:=zh G
 clear G
 go_enter func166,ntmps166
 go_wp2_with fail
 generalize D:World.alloc (World.alloc w _) _=w7
 obtain⟨g,h,f⟩:=aI D
 clear D
 have B5:=zh g
 have B6:=zh h
 clear g h
 replace F2:=zh (F2.out.ext f)
 replace F4:=zh (F4.out.ext f)
 have HE:=zh f
 clear f
 refine (ZoV _ _ (x) (y) _ F2.out F4.out (by first|exact K.out|exact E.out|exact xZ.neg E.out|exact Hx'.out|exact Hy'.out) (by first|exact K.out|exact E.out|exact xZ.neg E.out|exact Hx'.out|exact Hy'.out)).mono ?_
 rintro e V ⟨_,rfl,H,d⟩
 obtain⟨W,X,Y,Z,rfl⟩:=H.shp
 replace B5:=zh (B5.out.ext d)
 replace B6:=zh (B6.out.ext d)
 replace F2:=zh (F2.out.ext d)
 replace F4:=zh (F4.out.ext d)
 replace HE:=zh (HE.out.trans d)
 have F10:Hid (zN V (.agg #[.bool W,.slice X Y Z]) ((x)-(y))):=H
 clear d H
 obtain⟨i,j,k,l⟩:=B5.out.cell2
 obtain⟨m,n,o,p⟩:=B6.out.cell2
 go_wp2_with fail
 clear i j k l m n o p
 refine (bG _ ((x)-(y)) _ F10.out).mono ?_
 obtain⟨L,c⟩:=yE (((x)-(y)).sign)
 rw[c];have q:=zh c;clear c
 rintro e a0 ⟨rfl,d⟩
 replace B5:=zh (B5.out.ext d)
 replace B6:=zh (B6.out.ext d)
 replace F2:=zh (F2.out.ext d)
 replace F4:=zh (F4.out.ext d)
 replace F10:=zh (F10.out.ext d)
 replace HE:=zh (HE.out.trans d)
 clear d
 obtain⟨s,t,u,v⟩:=B5.out.cell2
 obtain⟨z,A,B,C⟩:=B6.out.cell2
 go_wp2
 clear s t u v z A B C
 go_ret
 exact⟨by rw[←U.out,← q.out];rfl,HE.out⟩
theorem cE (a b:Value)(x y:Int)(w:World)(ha:zN w a x)(hb:zN w b y)(hx:xZ x)(hy:xZ y)(h0:y≠0) :
 yA 116 #[a,b] w (Zd6 w (x.tdiv y) (x.tmod y)):=by
 obtain⟨o,A1,l1,c1,rfl⟩:=ha.shp
 have F2:Hid (zN w (.agg #[.bool o,.slice A1 l1 c1]) (x)):=ha
 clear ha
 obtain⟨C,A3,l3,c3,rfl⟩:=hb.shp
 have F4:Hid (zN w (.agg #[.bool C,.slice A3 l3 c3]) (y)):=hb
 clear hb
 have Hx:Hid (ml x.natAbs≤17592186044416):=hx
 have Hy:Hid (ml y.natAbs≤17592186044416):=hy
 have H0:Hid (0<y.natAbs):=by unfold Hid;omega
 have HQ:=zh (F2.out.quo F4.out)
 clear hx hy h0
 go_enter func116,ntmps116
 go_wp2_with fail
 generalize x0:World.alloc (World.alloc (World.alloc (World.alloc w _) _) _) _=w9
 obtain⟨E,F,G,H,D⟩:=Zqr x0
 clear x0
 have B5:=zh E
 have B6:=zh F
 have B7:=zh G
 have B8:=zh H
 clear E F G H
 replace F2:=zh (F2.out.ext D)
 replace F4:=zh (F4.out.ext D)
 have HE:=zh D
 clear D
 have F10:Hid (zZ w9 (.slice A1 l1 c1) ((x).natAbs)):=F2.out.mag
 have F11:Hid (zZ w9 (.slice A3 l3 c3) ((y).natAbs)):=F4.out.mag
 refine (ZfK _ _ ((x).natAbs) ((y).natAbs) _ F10.out F11.out Hx.out Hy.out H0.out).mono ?_
 rintro e P ⟨_,_,rfl,hq,hr,f⟩
 obtain⟨I,J,L,rfl⟩:=hq.slice
 obtain⟨M,N,O,rfl⟩:=hr.slice
 replace B5:=zh (B5.out.ext f)
 replace B6:=zh (B6.out.ext f)
 replace B7:=zh (B7.out.ext f)
 replace B8:=zh (B8.out.ext f)
 replace F2:=zh (F2.out.ext f)
 replace F4:=zh (F4.out.ext f)
 replace F10:=zh (F10.out.ext f)
 replace F11:=zh (F11.out.ext f)
 replace HE:=zh (HE.out.trans f)
 have F14:Hid (zZ P (.slice I J L) (((x).natAbs)/((y).natAbs))):=hq
 have F15:Hid (zZ P (.slice M N O) (((x).natAbs)%((y).natAbs))):=hr
 clear f hq hr
 obtain⟨Q,R,S,T⟩:=B5.out.cell2
 obtain⟨U,V,W,X⟩:=B6.out.cell2
 obtain⟨Y,Z,a0,b0⟩:=B7.out.cell2
 obtain⟨c0,d0,e0,f0⟩:=B8.out.cell2
 go_wp2_with fail
 clear Q R S T U V W X Y Z a0 b0 c0 d0 e0 f0
 refine ZbQ 11 (fun m=>Blk 57 m w.heap.size #[.bool o,.slice A1 l1 c1]∧Blk 57 m (w.heap.size+1) #[.bool C,.slice A3 l3 c3]∧Blk 57 m (w.heap.size+1+1) #[.bool false,.slice none 0 0]∧Blk 57 m (w.heap.size+1+1+1) #[.bool false,.slice none 0 0]) zP ?_
 replace B5:=zh (B5.out.ext (Fr.refl _ _).drew)
 replace B6:=zh (B6.out.ext (Fr.refl _ _).drew)
 replace B7:=zh (B7.out.ext (Fr.refl _ _).drew)
 replace B8:=zh (B8.out.ext (Fr.refl _ _).drew)
 replace F2:=zh (F2.out.ext (Fr.refl _ _).drew)
 replace F4:=zh (F4.out.ext (Fr.refl _ _).drew)
 replace F10:=zh (F10.out.ext (Fr.refl _ _).drew)
 replace F11:=zh (F11.out.ext (Fr.refl _ _).drew)
 replace F14:=zh (F14.out.ext (Fr.refl _ _).drew)
 replace F15:=zh (F15.out.ext (Fr.refl _ _).drew)
 replace HE:=zh (HE.out.trans (Fr.refl _ _).drew)
 generalize P.drew=w20 at *
 have j:=(⟨B5.out,B6.out,B7.out,B8.out⟩:(fun m=>Blk 57 m w.heap.size #[.bool o,.slice A1 l1 c1]∧Blk 57 m (w.heap.size+1) #[.bool C,.slice A3 l3 c3]∧Blk 57 m (w.heap.size+1+1) #[.bool false,.slice none 0 0]∧Blk 57 m (w.heap.size+1+1+1) #[.bool false,.slice none 0 0]) w20)
 refine jT 0 rfl qK (fun _ _ _ h=>h) j (fun _=>Zcz (g:=w.heap.size) (off:=0) rfl rfl qK) (fun j=>?_)
 refine jT 1 rfl qK (fun _ _ _ h=>h) j (fun _=>Zgw (g:=w.heap.size) (off:=0) (x:=.bool o) rfl rfl qK (fun _ h=>Blk.one' (h.1) 0 rfl)) (fun j=>?_)
 refine jT 2 rfl qK (fun _ _ _ h=>h) j (fun _=>Zcz (g:=(w.heap.size+1)) (off:=0) rfl rfl qK) (fun j=>?_)
 refine jT 3 rfl qK (fun _ _ _ h=>h) j (fun _=>Zgw (g:=(w.heap.size+1)) (off:=0) (x:=.bool C) rfl rfl qK (fun _ h=>Blk.one' (h.2.1) 0 rfl)) (fun j=>?_)
 refine jT 4 rfl qK (fun _ _ _ h=>h) j (fun _=>ZoK (b:=o) (c:=C) rfl rfl qK qK) (fun j=>?_)
 refine jT 5 rfl qK (fun _ _ _ h=>h) j (fun _=>ym (v:=.slice I J L) rfl rfl qK) (fun j=>?_)
 refine jT 7 rfl qK (fun _ _ _ h=>h) j (fun _=>Zcz (g:=w.heap.size) (off:=0) rfl rfl qK) (fun j=>?_)
 refine jT 8 rfl qK (fun _ _ _ h=>h) j (fun _=>Zgw (g:=w.heap.size) (off:=0) (x:=.bool o) rfl rfl qK (fun _ h=>Blk.one' (h.1) 0 rfl)) (fun j=>?_)
 refine jT 9 rfl qK (fun _ _ _ h=>h) j (fun _=>ym (v:=.slice M N O) rfl rfl qK) (fun j=>?_)
 refine Zcr 6 rfl qK rfl (fun K hK=>?_)
 go_simp
 clear j
 refine (fW ((o != C)) _ _ _ F14.out).mono ?_
 rintro e y0 ⟨_,rfl,hI,f⟩
 obtain⟨q,r,s,t,rfl⟩:=hI.shp
 replace B5:=zh (B5.out.ext f)
 replace B6:=zh (B6.out.ext f)
 replace B7:=zh (B7.out.ext f)
 replace B8:=zh (B8.out.ext f)
 replace F2:=zh (F2.out.ext f)
 replace F4:=zh (F4.out.ext f)
 replace F10:=zh (F10.out.ext f)
 replace F11:=zh (F11.out.ext f)
 replace F14:=zh (F14.out.ext f)
 replace F15:=zh (F15.out.ext f)
 replace HE:=zh (HE.out.trans f)
 have F23:Hid (zN y0 (.agg #[.bool q,.slice r s t]) (sg ((o != C)) (((x).natAbs)/((y).natAbs)))):=hI
 clear f hI
 have j:=(⟨B5.out,B6.out,B7.out,B8.out⟩:(fun m=>Blk 57 m w.heap.size #[.bool o,.slice A1 l1 c1]∧Blk 57 m (w.heap.size+1) #[.bool C,.slice A3 l3 c3]∧Blk 57 m (w.heap.size+1+1) #[.bool false,.slice none 0 0]∧Blk 57 m (w.heap.size+1+1+1) #[.bool false,.slice none 0 0]) y0)
 refine hK _ _ j ?_
 clear hK
 refine Zcr 10 rfl qK rfl (fun K hK=>?_)
 go_simp
 clear j
 refine (fW (o) _ _ _ F15.out).mono ?_
 rintro e n ⟨_,rfl,hI,f⟩
 obtain⟨u,z,A,B,rfl⟩:=hI.shp
 replace B5:=zh (B5.out.ext f)
 replace B6:=zh (B6.out.ext f)
 replace B7:=zh (B7.out.ext f)
 replace B8:=zh (B8.out.ext f)
 replace F2:=zh (F2.out.ext f)
 replace F4:=zh (F4.out.ext f)
 replace F10:=zh (F10.out.ext f)
 replace F11:=zh (F11.out.ext f)
 replace F14:=zh (F14.out.ext f)
 replace F15:=zh (F15.out.ext f)
 replace F23:=zh (F23.out.ext f)
 replace HE:=zh (HE.out.trans f)
 have F26:Hid (zN n (.agg #[.bool u,.slice z A B]) (sg (o) (((x).natAbs)%((y).natAbs)))):=hI
 clear f hI
 have j:=(⟨B5.out,B6.out,B7.out,B8.out⟩:(fun m=>Blk 57 m w.heap.size #[.bool o,.slice A1 l1 c1]∧Blk 57 m (w.heap.size+1) #[.bool C,.slice A3 l3 c3]∧Blk 57 m (w.heap.size+1+1) #[.bool false,.slice none 0 0]∧Blk 57 m (w.heap.size+1+1+1) #[.bool false,.slice none 0 0]) n)
 refine hK _ _ j ?_
 clear hK
 refine ZeN (l:=[_,_]) 11 rfl qK ?_
 clear j
 obtain⟨g0,i0,j0,k0⟩:=B5.out.cell2
 obtain⟨l0,m0,n0,o0⟩:=B6.out.cell2
 obtain⟨p0,q0,r0,s0⟩:=B7.out.cell2
 obtain⟨t0,u0,v0,w0⟩:=B8.out.cell2
 go_wp2
 clear g0 i0 j0 k0 l0 m0 n0 o0 p0 q0 r0 s0 t0 u0 v0 w0
 have d:Fr (fun i=>i=(w.heap.size+1+1)) n ((n.setCell ⟨(w.heap.size+1+1),0,none⟩ (.bool q)).setCell ⟨(w.heap.size+1+1),1,none⟩ (.slice r s t)):=(((Fr.refl (fun i=>i=(w.heap.size+1+1)) _).setCell (p:=⟨(w.heap.size+1+1),0,none⟩) (Or.inl rfl) _).setCell (p:=⟨(w.heap.size+1+1),1,none⟩) (Or.inl rfl) _)
 replace F2:=zh (F2.out.oth B7.out lJ d)
 replace F4:=zh (F4.out.oth B7.out lJ d)
 replace F10:=zh (F10.out.oth B7.out lJ d)
 replace F11:=zh (F11.out.oth B7.out lJ d)
 replace F14:=zh (F14.out.oth B7.out lJ d)
 replace F15:=zh (F15.out.oth B7.out lJ d)
 replace F23:=zh (F23.out.oth B7.out lJ d)
 replace F26:=zh (F26.out.oth B7.out lJ d)
 replace B5:=zh (B5.out.fr d (by first|omega | (have:=B5.out.lt;have:=B7.out.lt;omega)))
 replace B6:=zh (B6.out.fr d (by first|omega | (have:=B6.out.lt;have:=B7.out.lt;omega)))
 replace B8:=zh (B8.out.fr d (by first|omega | (have:=B8.out.lt;have:=B7.out.lt;omega)))
 replace HE:=zh (HE.out.next d (fun i hi e=>by first|omega | (have:=HE.out.size;have:=B7.out.lt;omega)))
 have k:Blk 57 ((n.setCell ⟨(w.heap.size+1+1),0,none⟩ (.bool q)).setCell ⟨(w.heap.size+1+1),1,none⟩ (.slice r s t)) (w.heap.size+1+1) #[.bool q,.slice r s t]:=((B7.out.set_ 0 _).set_ 1 _)
 generalize ((n.setCell ⟨(w.heap.size+1+1),0,none⟩ (.bool q)).setCell ⟨(w.heap.size+1+1),1,none⟩ (.slice r s t))=w31 at *
 replace B7:=zh k;clear k d
 have d:Fr (fun i=>i=(w.heap.size+1+1+1)) w31 ((w31.setCell ⟨(w.heap.size+1+1+1),0,none⟩ (.bool u)).setCell ⟨(w.heap.size+1+1+1),1,none⟩ (.slice z A B)):=(((Fr.refl (fun i=>i=(w.heap.size+1+1+1)) _).setCell (p:=⟨(w.heap.size+1+1+1),0,none⟩) (Or.inl rfl) _).setCell (p:=⟨(w.heap.size+1+1+1),1,none⟩) (Or.inl rfl) _)
 replace F2:=zh (F2.out.oth B8.out lJ d)
 replace F4:=zh (F4.out.oth B8.out lJ d)
 replace F10:=zh (F10.out.oth B8.out lJ d)
 replace F11:=zh (F11.out.oth B8.out lJ d)
 replace F14:=zh (F14.out.oth B8.out lJ d)
 replace F15:=zh (F15.out.oth B8.out lJ d)
 replace F23:=zh (F23.out.oth B8.out lJ d)
 replace F26:=zh (F26.out.oth B8.out lJ d)
 replace B5:=zh (B5.out.fr d (by first|omega | (have:=B5.out.lt;have:=B8.out.lt;omega)))
 replace B6:=zh (B6.out.fr d (by first|omega | (have:=B6.out.lt;have:=B8.out.lt;omega)))
 replace B7:=zh (B7.out.fr d (by first|omega | (have:=B7.out.lt;have:=B8.out.lt;omega)))
 replace HE:=zh (HE.out.next d (fun i hi e=>by first|omega | (have:=HE.out.size;have:=B8.out.lt;omega)))
 have k:Blk 57 ((w31.setCell ⟨(w.heap.size+1+1+1),0,none⟩ (.bool u)).setCell ⟨(w.heap.size+1+1+1),1,none⟩ (.slice z A B)) (w.heap.size+1+1+1) #[.bool u,.slice z A B]:=((B8.out.set_ 0 _).set_ 1 _)
 generalize ((w31.setCell ⟨(w.heap.size+1+1+1),0,none⟩ (.bool u)).setCell ⟨(w.heap.size+1+1+1),1,none⟩ (.slice z A B))=w32 at *
 replace B8:=zh k;clear k d
 exact ZoU rfl rfl rfl B7.out B8.out (by rw[←HQ.out.1];exact F23.out) (by rw[←HQ.out.2];exact F26.out) HE.out
theorem ZoX (a:Value)(q:Rat)(w:World)(ha:xF w a q)(F:q.den=1) :
 yA 75 #[a] w (lW w (q.den:Int)):=by
 obtain⟨I,J,K,L,t1,M,G,N,rfl⟩:=ha.shp
 have F2:Hid (xF w (.agg #[.bool I,.slice J K L,.bool t1,.slice M G N]) (q)):=ha
 clear ha
 have H:=F2.out.den
 obtain rfl:G=0:=H.len0 (dL F)
 have O:Hid ((q.den:Int)=1):=by unfold Hid;omega
 clear H F
 go_enter func75,ntmps75
 go_wp2_with fail
 generalize m:World.alloc (World.alloc w _) _=w5
 obtain⟨d,f,g⟩:=aI m
 clear m
 have B3:=zh d
 have B4:=zh f
 clear d f
 replace F2:=zh (F2.out.ext g)
 have HE:=zh g
 clear g
 refine (Za5 1 _ qO qO).mono ?_
 rintro e n ⟨_,rfl,E,o⟩
 obtain⟨r,s,t,u,rfl⟩:=E.shp
 replace B3:=zh (B3.out.ext o)
 replace B4:=zh (B4.out.ext o)
 replace F2:=zh (F2.out.ext o)
 replace HE:=zh (HE.out.trans o)
 have F8:Hid (zN n (.agg #[.bool r,.slice s t u]) (1)):=E
 clear o E
 obtain⟨v,x,y,z,A,B,C,D⟩:=B3.out.cell4
 obtain⟨h,j,k,l⟩:=B4.out.cell2
 go_wp2
 clear v x y z A B C D h j k l
 have b:Fr (fun i=>i=(w.heap.size+1)) n ((n.setCell ⟨(w.heap.size+1),0,none⟩ (.bool r)).setCell ⟨(w.heap.size+1),1,none⟩ (.slice s t u)):=(((Fr.refl (fun i=>i=(w.heap.size+1)) _).setCell (p:=⟨(w.heap.size+1),0,none⟩) (Or.inl rfl) _).setCell (p:=⟨(w.heap.size+1),1,none⟩) (Or.inl rfl) _)
 replace F2:=zh (F2.out.oth B4.out lJ b)
 replace F8:=zh (F8.out.oth B4.out lJ b)
 replace B3:=zh (B3.out.fr b (by first|omega | (have:=B3.out.lt;have:=B4.out.lt;omega)))
 replace HE:=zh (HE.out.next b (fun i hi e=>by first|omega | (have:=HE.out.size;have:=B4.out.lt;omega)))
 have c:Blk 57 ((n.setCell ⟨(w.heap.size+1),0,none⟩ (.bool r)).setCell ⟨(w.heap.size+1),1,none⟩ (.slice s t u)) (w.heap.size+1) #[.bool r,.slice s t u]:=((B4.out.set_ 0 _).set_ 1 _)
 generalize ((n.setCell ⟨(w.heap.size+1),0,none⟩ (.bool r)).setCell ⟨(w.heap.size+1),1,none⟩ (.slice s t u))=w11 at *
 replace B4:=zh c;clear c b
 exact ZaL rfl rfl B4.out (by rw[O.out];exact F8.out) HE.out
theorem ZoY (a:Value)(q:Rat)(w:World)(ha:xF w a q)(f:¬ q.den=1) :
 yA 75 #[a] w (lW w (q.den:Int)):=by
 obtain⟨k,l,m,n,t1,h,g,i,rfl⟩:=ha.shp
 have F2:Hid (xF w (.agg #[.bool k,.slice l m n,.bool t1,.slice h g i]) (q)):=ha
 clear ha
 have j:=F2.out.den
 have t:((g:Int) == 0)=false:=by have:=j.lenp (Zgz f);simp;omega
 have o:=zh (fI f)
 clear j f
 go_enter func75,ntmps75
 go_wp2
 generalize e:World.alloc (World.alloc w _) _=w5
 obtain⟨b,c,d⟩:=aI e
 clear e
 have u:=zh b
 have p:=zh c
 clear b c
 replace F2:=zh (F2.out.ext d)
 have r:=zh d
 clear d
 have s:Hid (zN w5 (.agg #[.bool t1,.slice h g i]) (denF (q))):=F2.out.den
 exact ZaL rfl rfl p.out (by rw[←o.out];exact s.out) r.out
theorem ZoZ (a:Value)(q:Rat)(w:World)(ha:xF w a q):yA 75 #[a] w (lW w (q.den:Int)):=by
 by_cases h:q.den=1
 ·exact ZoX a q w ha h
 exact ZoY a q w ha h
theorem Zo0 (a:Value)(q:Rat)(w:World)(ha:xF w a q) :
 yA 68 #[a] w (lW w (q.den:Int)):=by
 obtain⟨F,G,H,I,t1,J,K,L,rfl⟩:=ha.shp
 have F2:Hid (xF w (.agg #[.bool F,.slice G H I,.bool t1,.slice J K L]) (q)):=ha
 clear ha
 go_enter func68,ntmps68
 go_wp2_with fail
 generalize m:World.alloc (World.alloc w _) _=w5
 obtain⟨d,f,g⟩:=aI m
 clear m
 have B3:=zh d
 have B4:=zh f
 clear d f
 replace F2:=zh (F2.out.ext g)
 have HE:=zh g
 clear g
 refine (ZoZ _ (q) _ F2.out).mono ?_
 rintro e n ⟨_,rfl,E,o⟩
 obtain⟨r,s,t,u,rfl⟩:=E.shp
 replace B3:=zh (B3.out.ext o)
 replace B4:=zh (B4.out.ext o)
 replace F2:=zh (F2.out.ext o)
 replace HE:=zh (HE.out.trans o)
 have F8:Hid (zN n (.agg #[.bool r,.slice s t u]) (((q).den:Int))):=E
 clear o E
 obtain⟨v,x,y,z,A,B,C,D⟩:=B3.out.cell4
 obtain⟨h,j,k,l⟩:=B4.out.cell2
 go_wp2
 clear v x y z A B C D h j k l
 have b:Fr (fun i=>i=(w.heap.size+1)) n ((n.setCell ⟨(w.heap.size+1),0,none⟩ (.bool r)).setCell ⟨(w.heap.size+1),1,none⟩ (.slice s t u)):=(((Fr.refl (fun i=>i=(w.heap.size+1)) _).setCell (p:=⟨(w.heap.size+1),0,none⟩) (Or.inl rfl) _).setCell (p:=⟨(w.heap.size+1),1,none⟩) (Or.inl rfl) _)
 replace F2:=zh (F2.out.oth B4.out lJ b)
 replace F8:=zh (F8.out.oth B4.out lJ b)
 replace B3:=zh (B3.out.fr b (by first|omega | (have:=B3.out.lt;have:=B4.out.lt;omega)))
 replace HE:=zh (HE.out.next b (fun i hi e=>by first|omega | (have:=HE.out.size;have:=B4.out.lt;omega)))
 have c:Blk 57 ((n.setCell ⟨(w.heap.size+1),0,none⟩ (.bool r)).setCell ⟨(w.heap.size+1),1,none⟩ (.slice s t u)) (w.heap.size+1) #[.bool r,.slice s t u]:=((B4.out.set_ 0 _).set_ 1 _)
 generalize ((n.setCell ⟨(w.heap.size+1),0,none⟩ (.bool r)).setCell ⟨(w.heap.size+1),1,none⟩ (.slice s t u))=w11 at *
 replace B4:=zh c;clear c b
 exact ZaL rfl rfl B4.out (by exact F8.out) HE.out
def blen (n:Nat):Nat:=if n=0 then 0 else n.log2+1
theorem fA:blen 0=0:=rfl
theorem iI (n:Nat):n<2^blen n:=by
 unfold blen
 split
 ·rename_i h;subst h;decide
 rename_i h;exact (Nat.log2_lt h).1 (Nat.lt_succ_self _)
theorem wZ {n k:Nat}:blen n≤k↔n<2^k:=by
 unfold blen
 split
 ·rename_i h;subst h;simp[uU]
 rename_i h;rw[←Nat.log2_lt h];omega
theorem Zbw {n:Nat}(h:0<n):blen n=blen (n/2)+1:=by
 have d:blen (n/2)+1≤blen n:=by
  have:blen (n/2)≤blen n-1:=wZ.2 (by
   have a:=iI n
   have b:0<blen n:=by unfold blen;rw[uO qO];omega
   obtain⟨k,c⟩:∃ k,blen n=k+1:=⟨blen n-1,qO⟩
   rw[c] at a ⊢
   rw[uN] at a
   show n/2<2^(k+1-1)
   rw[tM]
   omega)
  have b:0<blen n:=by unfold blen;rw[uO qO];omega
  omega
 have a:blen n≤blen (n/2)+1:=wZ.2 (by
  have:=iI (n/2)
  rw[uN]
  omega)
 omega
theorem iZ {n:Nat}:blen n=1↔n=1:=by
 constructor
 ·intro h
  have a:=iI n
  rw[h] at a
  rcases uJ n with e|e
  ·subst e;rw[fA] at h;omega
  omega
 rintro rfl;decide
theorem Zad {n:Nat}:1<blen n↔1<n:=by
 rcases vL 1 n with h|h
 ·have:¬ blen n≤1:=fun k=>by have:=wZ.1 k;omega
  omega
 have:blen n≤1:=wZ.2 qO
 omega
theorem ZiF {B k t a:Nat}(g:a<2^(B*k))(b:0<t):blen (a+2^(B*k)*t)=B*k+blen t:=by
 have c:=iI t
 have i:blen (a+2^(B*k)*t)≤B*k+blen t:=wZ.2 (by
  rw[uQ]
  have:2^(B*k)*(t+1)≤2^(B*k)*2^blen t:=uI _ c
  rw[uK] at this
  omega)
 have l:¬ blen (a+2^(B*k)*t)≤B*k+blen t-1:=fun h=>by
  have d:=wZ.1 h
  obtain⟨j,e⟩:∃ j,blen t=j+1:=⟨blen t-1,by have:=Zbw b;omega⟩
  rw[e,show B*k+(j+1)-1=B*k+j by omega,uQ] at d
  have f:2^j≤t:=by
   rcases vL t (2^j) with h|h
   ·have:=wZ.2 h;omega
   exact h
  have:2^(B*k)*2^j≤2^(B*k)*t:=uI _ f
  omega
 have:0<blen t:=by have:=Zbw b;omega
 omega
theorem gB (a:Value)(x:Int)(w:World)(ha:zN w a x)(F:xZ x):yA 114 #[a] w (RetV w (.int .i64 (blen x.natAbs:Int))):=by
 obtain⟨s,A,l,c,rfl⟩:=ha.shp
 have f:=ha.mag
 have L:=ha.len0
 obtain⟨V,xs,W,M,N,G,j,o,p⟩:=f
 injection M with e1 e2 e3
 subst e1 e2 e3
 unfold xZ at F
 rw[←p,← kJ j o] at F
 rw[←p]
 clear ha L p
 rcases uJ xs.length with q|q
 ·obtain rfl:xs=[]:=vZ.1 q
  go_enter func114,ntmps114
  go_wp2
  go_ret
  exact⟨rfl,(Fr.refl _ _).alloc _⟩
 obtain⟨k,H⟩:∃ k,xs.length=k+1:=⟨xs.length-1,qO⟩
 obtain⟨b,O,rfl,P,u⟩:=G.at (i:=k) qO
 obtain⟨t,m⟩:=yE (xs[k]?.getD 0)
 rw[m] at u
 have v:0<t:=by have:=o k H;omega
 have I:val W32 xs=val W32 (xs.take k)+W32^k*t:=by
  have:=zU (B:=W32) (xs:=xs) k qO
  rw[uC qO,m] at this
  exact this
 have d:=xW (j.take k)
 rw[uL,uT qO,aF] at d
 have y:Hid (blen (val W32 xs)=32*k+blen t):=by
  unfold Hid
  rw[I,aF]
  exact ZiF d v
 have g:t<W32:=m ▸ j.getD zX k
 have Q:blen t≤32:=wZ.2 (by rw[zV] at g;exact g)
 obtain⟨r,J⟩:=yE (blen (val W32 xs))
 rw[J] at y ⊢
 have R:b≠w.heap.size:=Nat.ne_of_lt P
 rw[H]
 clear G j o I d m J g N q
 have X:(((k:Int)+1) == 0)=false:=by simp;omega
 go_enter func114,ntmps114
 go_wp2
 go_loop [3,4] (fun S z=>∃ n t':Nat,S=.int .i64 (n:Int)∧z=.int .u32 (t':Int)∧Hid (n+blen t'=r)∧n≤32*k+32) (fun _ z=>(intOf z).toNat)
 case atStart=>exact⟨32*k,t,by go_num,rfl,by have:=y.out;unfold Hid;omega,qO⟩
 case round =>
  obtain⟨n,t',rfl,rfl,C,Y⟩:=hrel
  by_cases K:0<t'
  ·have e:Hid (n+1+blen (t'/2)=r):=by have f:=C.out;rw[Zbw K] at f;unfold Hid;omega
   have D:n+1≤32*k+32:=by
    have f:=C.out;have Z:=y.out;rw[Zbw K] at f;omega
   have T:(t':Int)/2=((t'/2:Nat):Int):=rfl
   have E:t'/2<t':=qO
   obtain⟨U,h⟩:=yE (t'/2)
   rw[h] at e T E
   clear h
   go_wp2
   go_round
   case rel=>exact⟨n+1,U,by go_num,rfl,e,D⟩
   case measure=>simp[intOf];omega
  obtain rfl:t'=0:=qO
  have e:Hid (n=r):=by have f:=C.out;rw[fA] at f;exact f
  go_wp2
  go_ret
  exact⟨by rw[e.out];rfl,(Fr.refl _ _).alloc _⟩
theorem zZ.inj {w:World}{v:Value}{m n:Nat}(h:zZ w v m)(k:zZ w v n):m=n:=by
 obtain⟨A,g,c,rfl,_,j,_,_,rfl⟩:=h
 obtain⟨s,l,t,p,_,q,_,_,rfl⟩:=k
 injection p with e1 e2 e3
 subst e1
 have:g=l:=by
  apply oX e2
  intro i e f
  obtain⟨b,o,rfl,_,r⟩:=j.at e
  obtain⟨u,x,d,_,a⟩:=q.at f
  injection d with d
  injection d with e3 e4
  subst e3 e4
  rw[r] at a
  injection a with a
  injection a with _ a
  rw[uP e,uP f] at a
  simp only[qG] at a
  omega
 rw[this]
open Classical in
noncomputable def Zdz (w:World) (v:Value):Nat:=if h:∃ n,zZ w v n then Classical.choose h else 0
theorem Zhc {w:World}{v:Value}{n:Nat}(h:zZ w v n):Zdz w v=n:=by
 have a:∃ n,zZ w v n:=⟨n,h⟩
 unfold Zdz
 rw[dif_pos a]
 exact (pU a).inj h
theorem zZ.len_zero {w:World}{A:qA}{l c n:Nat}(h:zZ w (.slice A l c) n):(n=0↔l=0)∧l=ml n:=by
 obtain⟨j,f,k,a,_,_,g,i,b⟩:=h
 injection a with _ a
 have d:=kJ g i
 rw[b] at d
 refine⟨⟨fun e=>?_,fun e=>?_⟩,qO⟩
 ·rw[e,Zgl] at d;omega
 rw[e] at a
 have:f=[]:=vZ.1 a.symm
 rw[this] at b
 simpa using b.symm
theorem ZiG (a b:Value)(x y:Int)(w:World)(ha:zN w a x)(I:zN w b y)(hx:xZ x)(hy:xZ y):yA 124 #[a,b] w (lW w (Int.gcd x y:Int)):=by
 obtain⟨s,A,l,c,rfl⟩:=ha.shp
 obtain⟨t,B,m,d,rfl⟩:=I.shp
 have HM:=zh ha.mag
 have HN:=zh I.mag
 have HX:Hid (ml x.natAbs≤17592186044416):=hx
 have HY:Hid (ml y.natAbs≤17592186044416):=hy
 obtain⟨r,J⟩:=yE (Int.gcd x y)
 have HR:Hid (Nat.gcd x.natAbs y.natAbs=r):=J
 rw[J]
 clear ha I hx hy J
 go_enter func124,ntmps124
 go_wp2_with fail
 generalize k:World.alloc (World.alloc (World.alloc w _) _) _=w1
 obtain⟨b0,b1,b2,h⟩:=Zgv k
 clear k
 have K:=zh b2
 have HE:=zh h
 replace HM:=zh (HM.out.ext h)
 replace HN:=zh (HN.out.ext h)
 obtain⟨c0,c1,f0,f1⟩:=b0.cell2
 obtain⟨q,L,f2,f3⟩:=b1.cell2
 clear b0 b1 b2 h
 go_quiet (fail)
 clear c0 c1 f0 f1 q L f2 f3
 go_wp2_with fail
 go_loopw [5,6,7,8] (fun xv M _ _ wr=>∃ (u v:Nat) (N z:Option Addr) (O P m' C:Nat),xv=.slice N O P∧M=.slice z m' C∧Hid (zZ wr (.slice N O P) u)∧Hid (zZ wr (.slice z m' C) v)∧Hid (ml u≤17592186044416)∧Hid (ml v≤17592186044416)∧Hid (Nat.gcd u v=r)∧Hid (Ext w1 wr)) (fun _ M _ _ wr=>Zdz wr M)
 case atStart=>exact⟨_,_,_,_,_,_,_,_,rfl,rfl,HM.out.ext ((Fr.refl _ _).drewN _),HN.out.ext ((Fr.refl _ _).drewN _),HX,HY,HR,(Fr.refl _ _).drewN _⟩
 case round =>
  obtain⟨u,v,N,z,O,P,m',C,rfl,rfl,hU,D,hu,E,Q,R⟩:=hrel
  obtain⟨F,z2⟩:=D.out.len_zero
  have g0:m'≤17592186044416:=by have:=E.out;omega
  by_cases S:m'=0
  ·subst S
   have f:v=0:=F.2 rfl
   have T:Hid (u=r):=by have:=Q.out;rw[f,qH] at this;exact this
   have HB:=zh (K.out.ext R.out)
   have U:=zh (HE.out.trans R.out)
   clear F z2 f
   go_wp2_with fail
   refine (fW false _ u _ hU.out).mono ?_
   rintro e G ⟨_,rfl,V,g⟩
   obtain⟨s2,A2,l2,q,rfl⟩:=V.shp
   have HI:=zh V
   have j:=zh (HB.out.ext g)
   have W:=zh (U.out.trans g)
   obtain⟨k0,k1,k2,k3⟩:=j.out.cell2
   clear V g
   go_wp2
   have n:Fr (fun i=>i=(w.heap.size+1+1)) G ((G.setCell ⟨w.heap.size+1+1,0,none⟩ (.bool s2)).setCell ⟨w.heap.size+1+1,1,none⟩ (.slice A2 l2 q)):=((Fr.refl (fun i=>i=(w.heap.size+1+1)) _).setCell (p:=⟨w.heap.size+1+1,0,none⟩) (Or.inl rfl) _).setCell (p:=⟨w.heap.size+1+1,1,none⟩) (Or.inl rfl) _
   exact ZaL rfl rfl ((j.out.set_ 0 _).set_ 1 _) (by rw[←T.out];exact HI.out.oth j.out lJ n) (W.out.next n (fun i hi e=>qO))
  have h0:0<m':=qO
  have f:0<v:=by
   rcases uJ v with e|e;· exact absurd (F.1 e) S
   ·exact e
  have T:Hid (Nat.gcd v (u%v)=r):=by have:=Q.out;rw[sH,pY,sH] at this;exact this
  have X:=zh (uD (jI (qU (uM u f))) E.out)
  have Y:=zh (uM u f)
  have HC:=zh (ZfK _ _ u v wr hU.out D.out hu.out E.out f)
  clear F z2 f S Q
  go_wp2_with fail
  refine HC.out.mono ?_
  rintro e G ⟨_,_,rfl,hq,H,g⟩
  obtain⟨A2,l2,q,rfl⟩:=hq.slice
  obtain⟨A3,l3,L,rfl⟩:=H.slice
  have Z:=zh H
  have a0:=zh (D.out.ext g)
  have d0:=zh (R.out.trans g)
  have e0:Hid (Zdz wr (.slice z m' C)=v):=Zhc D.out
  have o:Hid (Zdz G (.slice A3 l3 L)=u%v):=Zhc H
  clear hq H g HC
  go_wp2
  go_roundw
  case rel=>exact⟨v,u%v,_,_,_,_,_,_,rfl,rfl,a0,Z,E,X,T,d0⟩
  case measure=>rw[e0.out,o.out];exact Y.out
end Go.Proofs.YtenchljfmfgeoaaGreatDoor
namespace Go.Proofs.YtenchljfmfgeoaaGreatDoor
theorem gU {n k:Nat}:k<blen n↔2^k≤n:=by have:=@wZ n k;omega
theorem cS {n:Nat}(h:0<n):0<blen n:=gU.2 (by rw[tC];exact h)
theorem Zd7 {n k:Nat}(a:2^k≤n)(b:n<2^(k+1)):blen n=k+1:=by
 have:=gU.2 a;have:=wZ.2 b;omega
theorem ZcE {n:Nat}(h:0<n):2^(blen n-1)≤n:=gU.1 (by have:=cS h;omega)
theorem p2 (k:Nat):0<2^k:=uU qD
theorem Zaq {n:Nat}(h:0<n)(j:Nat):blen (n*2^j)=blen n+j:=by
 have a:=ZcE h
 have b:=iI n
 obtain⟨k,c⟩:∃ k,blen n=k+1:=⟨blen n-1,by have:=cS h;omega⟩
 rw[c] at a b ⊢
 rw[show k+1+j=k+j+1 by omega]
 refine Zd7 ?_ ?_
 ·rw[uQ];exact uE _ (by simpa using a)
 rw[show k+j+1=k+1+j by omega,uQ];exact (pE (p2 j)).2 b
theorem bH (n j:Nat):blen (n/2^j)=blen n-j:=by
 rcases vL j (blen n) with h|h
 ·have c:0<n:=by
   rcases uJ n with e|e;· subst e;rw[fA] at h;omega
   ·exact e
  have a:=ZcE c
  have b:=iI n
  obtain⟨k,d⟩:∃ k,blen n=j+(k+1):=⟨blen n-j-1,qO⟩
  rw[d] at a b ⊢
  rw[show j+(k+1)-j=k+1 by omega]
  refine Zd7 ?_ ?_
  ·rw[pC (p2 j),← uQ];rw[show j+(k+1)-1=k+j by omega] at a;exact a
  rw[vO (p2 j),← uQ,vP];exact b
 rw[tK (wZ.1 h),fA];omega
def kR (a b:Nat):Nat:=if b<2*(a%b)∨(2*(a%b)=b∧a/b%2=1) then a/b+1 else a/b
theorem ZlL {a b c:Nat}(d:0<c):kR (a*c) (b*c)=kR a b:=by
 unfold kR
 rw[sY,qE _ _ d,← uG]
 have e:b*c<2*(a%b)*c↔b<2*(a%b):=pE d
 have f:2*(a%b)*c=b*c↔2*(a%b)=b:=⟨fun h=>Nat.eq_of_mul_eq_mul_right d h,fun h=>by rw[h]⟩
 simp only[e,f]
theorem Zo1 (a:Nat):kR a 1=a:=by unfold kR;rw[Nat.mod_one,rR,uO qO]
def fB (q j:Nat) (m:Bool):Nat:=if q/2^j%2=1∧(q%2^j≠0∨q/2^(j+1)%2=1∨m=true) then q/2^(j+1)+1 else q/2^(j+1)
theorem ZlM {a b j:Nat}(k:0<b):kR a (b*2^(j+1))=fB (a/b) j (decide (a%b≠0)):=by
 unfold kR fB
 have l:a/(b*2^(j+1))=a/b/2^(j+1):=(tY _ _ _).symm
 have m:=vX a b
 have G:=uM a k
 rw[l]
 generalize a/b=q at *
 generalize a%b=r at *
 obtain⟨h,f⟩:∃ h,h=2^j:=⟨_,rfl⟩
 have n:0<h:=by rw[f];exact p2 j
 have o:2^(j+1)=h*2:=by rw[uN,f]
 have t:=vX q h
 have H:=uM q n
 rw[o,← f,← tY]
 generalize q/h=p at *
 generalize q%h=z at *
 have v:=vX p 2
 have I:=uM p (show 0<2 by decide)
 generalize p/2=u at *
 generalize p%2=s at *
 have w:a%(b*(h*2))=b*(h*s+z)+r:=by
  have e:a=b*(h*2)*u+(b*(h*s+z)+r):=by
   rw[←m,← t,← v]
   simp only[uK,uG,tS]
  have g:b*(h*s+z)+r<b*(h*2):=by
   have x:h*s+z+1≤h*2:=by
    have:h*s≤h*1:=uI _ qO
    omega
   have y:=uI b x
   rw[uK,sB] at y
   omega
  rw[e,qQ,vH g]
 rw[w]
 have J:b*z+b≤b*h:=by
  have:=uI b (show z+1≤h by omega)
  rwa [uK,sB] at this
 have i:b*(h*2)=2*(b*h):=by rw[←uG,uH]
 have d:z=0∨b≤b*z:=by
  rcases uJ z with e|e
  ·exact Or.inl e
  exact Or.inr (by have:=uI b e;simpa using this)
 rcases (by omega:s=0∨s=1) with rfl|rfl
 ·rw[uO,uO qO]
  rw[tT,vW,i]
  omega
 rw[sB,uK b h z,i]
 have A:(2*(b*h)<2*(b*h+b*z+r))↔(z≠0∨r≠0):=by
  constructor
  ·intro c
   rcases uJ z with e|e
   ·subst e;right;intro B;subst B;simp at c
   left;omega
  intro c
  rcases d with e|e
  ·subst e;rcases c with c|c;· exact absurd rfl c
   ·simp;omega
  omega
 have C:(2*(b*h+b*z+r)=2*(b*h))↔(z=0∧r=0):=by
  constructor
  ·intro c
   rcases d with e|e
   ·subst e;refine⟨rfl,?_⟩;rw[tT] at c;omega
   omega
  rintro⟨rfl,rfl⟩;simp
 simp only[A,C]
 by_cases D:z=0<;>by_cases E:r=0<;>by_cases F:u%2=1<;>simp[D,E,F]
def fa (n:Nat) (k:Int):Nat:=n*2^(-k).toNat
def fb (d:Nat) (k:Int):Nat:=d*2^k.toNat
def fq (n d:Nat) (k:Int):Nat:=fa n k/fb d k
theorem Znh {d:Nat}(h:0<d)(k:Int):0<fb d k:=sL h (p2 _)
theorem Zky (n d:Nat)(k:Int)(j:Nat):∃ c,0<c∧fa n k=fa n (k+j)*c∧fb d k*2^j=fb d (k+j)*c:=by
 unfold fa fb
 rcases Int.le_total 0 k with h|h
 ·obtain⟨m,rfl⟩:=vG h
  refine⟨1,qD,?_,?_⟩
  ·rw[show (-(m:Int)).toNat=0 by omega,show (-((m:Int)+j)).toNat=0 by omega];simp
  rw[show ((m:Int)).toNat=m by omega,show ((m:Int)+j).toNat=m+j by omega,uG,← uQ,sB]
 obtain⟨m,b⟩:=vG (show 0 ≤ -k by omega)
 obtain rfl:k = -(m:Int):=qO
 rcases Nat.le_total j m with a|a
 ·refine⟨2^j,p2 j,?_,?_⟩
  ·rw[show (- -(m:Int)).toNat=m by omega,show (-(-(m:Int)+j)).toNat=m-j by omega,uG,← uQ,pP a]
  rw[show (-(m:Int)).toNat=0 by omega,show (-(m:Int)+j).toNat=0 by omega]
 refine⟨2^m,p2 m,?_,?_⟩
 ·rw[show (- -(m:Int)).toNat=m by omega,show (-(-(m:Int)+j)).toNat=0 by omega];simp
 rw[show (-(m:Int)).toNat=0 by omega,show (-(m:Int)+j).toNat=j-m by omega,uG,uG,← uQ,← uQ,pP a,vW]
theorem Zar (n d:Nat)(k:Int)(j:Nat):fq n d (k+j)=fq n d k/2^j:=by
 obtain⟨c,a,b,e⟩:=Zky n d k j
 unfold fq
 rw[tY,b,e,qE _ _ a]
theorem Zo2 {n d:Nat}(k:Int)(j:Nat)(a:0<d):kR (fa n (k+(j+1:Nat))) (fb d (k+(j+1:Nat)))=fB (fq n d k) j (decide (fa n k%fb d k≠0)):=by
 obtain⟨c,b,e,f⟩:=Zky n d k (j+1)
 unfold fq
 rw[←ZlM (Znh a k),f,e,ZlL b]
def rk0 (n d bits:Nat):Int:=(blen n:Int)-blen d-bits
theorem ZeU {n d bits:Nat}(o:0<n)(i:0<d)(t:0<bits):bits≤blen (fq n d (rk0 n d bits))∧blen (fq n d (rk0 n d bits))≤bits+1:=by
 have f:=ZcE o
 have j:=iI n
 have g:=ZcE i
 have k:=iI d
 obtain⟨p,r⟩:∃ p,blen n=p+1:=⟨blen n-1,by have:=cS o;omega⟩
 obtain⟨q,s⟩:∃ q,blen d=q+1:=⟨blen d-1,by have:=cS i;omega⟩
 obtain⟨b,rfl⟩:∃ b,bits=b+1:=⟨bits-1,qO⟩
 have c:fb d (rk0 n d (b+1))*2^b≤fa n (rk0 n d (b+1))∧fa n (rk0 n d (b+1))<fb d (rk0 n d (b+1))*2^(b+2):=by
  unfold fa fb rk0
  rw[r] at f j ⊢
  rw[s] at g k ⊢
  rw[tM] at f g
  rcases Int.le_total 0 ((p+1:Nat)-(q+1:Nat)-(b+1:Nat):Int) with h|h
  ·obtain⟨m,l⟩:=vG h
   have a:p=q+m+b+1:=qO
   subst a
   rw[l,show ((m:Nat):Int).toNat=m by omega,show (-((m:Nat):Int)).toNat=0 by omega]
   simp only[tC,sB]
   constructor
   ·refine uD ?_ f
    rw[show q+m+b+1=(q+1)+(m+b) by omega,uQ,uG,← uQ]
    exact uE _ (qU k)
   refine uS j ?_
   rw[show q+m+b+1+1=q+(m+(b+2)) by omega,uQ 2 q,uG,← uQ 2 m]
   exact uE _ g
  obtain⟨m,l⟩:=vG (show 0 ≤ -((p+1:Nat)-(q+1:Nat)-(b+1:Nat):Int) by omega)
  have a:p+m=q+b+1:=qO
  rw[l,show ((m:Nat):Int).toNat=m by omega,show ((p+1:Nat)-(q+1:Nat)-(b+1:Nat):Int).toNat=0 by omega]
  simp only[tC,sB]
  constructor
  ·refine uD ?_ (uE _ f)
   rw[←uQ,a,show q+b+1=(q+1)+b by omega,uQ]
   exact uE _ (qU k)
  refine uS ((pE (p2 m)).2 j) ?_
  rw[←uQ,show p+1+m=q+(b+2) by omega,uQ]
  exact uE _ g
 have e:=Znh i (rk0 n d (b+1))
 constructor
 ·have:2^b≤fq n d (rk0 n d (b+1)):=by
   unfold fq
   rw[pC e,uH];exact c.1
  have:=gU.2 this
  omega
 refine wZ.2 ?_
 unfold fq
 rw[vO e,uH];exact c.2
def rndK (n d bits:Nat):Int:=if blen (fq n d (rk0 n d bits))=bits then rk0 n d bits else rk0 n d bits+1
theorem bI {n d bits:Nat}(a:0<n)(b:0<d)(c:0<bits):blen (fq n d (rndK n d bits))=bits:=by
 obtain⟨e,f⟩:=ZeU a b c
 unfold rndK
 split
 ·assumption
 have:=Zar n d (rk0 n d bits) 1
 rw[show (rk0 n d bits+1:Int)=rk0 n d bits+(1:Nat) by simp,this,bH]
 omega
theorem Zkz {n d bits:Nat}(c:0<n)(e:0<d)(f:0<bits){k:Int}(h:blen (fq n d k)=bits):rndK n d bits=k:=by
 have b:=bI c e f
 rcases Int.lt_trichotomy (rndK n d bits) k with a|a|a
 ·obtain⟨j,g⟩:=vG (show 0≤k-rndK n d bits by omega)
  have:=Zar n d (rndK n d bits) j
  rw[show rndK n d bits+(j:Int)=k by omega] at this
  rw[this,bH,b] at h
  omega
 ·exact a
 obtain⟨j,g⟩:=vG (show 0≤rndK n d bits-k by omega)
 have:=Zar n d k j
 rw[show k+(j:Int)=rndK n d bits by omega] at this
 rw[this,bH,h] at b
 omega
def rndM (n d bits:Nat):Nat:=kR (fa n (rndK n d bits)) (fb d (rndK n d bits))
theorem Zca (a b:Nat):a/b≤kR a b∧kR a b≤a/b+1:=by unfold kR;split<;>omega
theorem ZeV {n d bits:Nat}(a:0<n)(b:0<d)(c:0<bits):0<rndM n d bits:=by
 have h:=bI a b c
 have:=(Zca (fa n (rndK n d bits)) (fb d (rndK n d bits))).1
 have f:0<fq n d (rndK n d bits):=by
  rcases uJ (fq n d (rndK n d bits)) with e|e
  ·rw[e,fA] at h;omega
  exact e
 unfold rndM
 unfold fq at f
 omega
theorem ZdA {n d bits:Nat}(c:0<n)(a:0<d)(e:0<bits)(k:Int)(j:Nat)(h:blen (fq n d k)=bits+(j+1)) :
 rndK n d bits=k+(j+1:Nat)∧rndM n d bits=fB (fq n d k) j (decide (fa n k%fb d k≠0)):=by
 have b:rndK n d bits=k+(j+1:Nat):=Zkz c a e (by rw[Zar,bH,h];omega)
 refine⟨b,?_⟩
 unfold rndM
 rw[b,Zo2 k j a]
theorem Zqz {n bits:Nat}(a:0<n)(c:0<bits)(h:blen n≤bits):rndK n 1 bits=(blen n:Int)-bits∧rndM n 1 bits=n*2^(bits-blen n):=by
 have b:rndK n 1 bits=(blen n:Int)-bits:=Zkz a qD c (by
  unfold fq fa fb
  rw[show (-((blen n:Int)-bits)).toNat=bits-blen n by omega,show ((blen n:Int)-bits).toNat=0 by omega]
  simp only[tC,sB,rR]
  rw[Zaq a];omega)
 refine⟨b,?_⟩
 unfold rndM
 rw[b]
 unfold fa fb
 rw[show (-((blen n:Int)-bits)).toNat=bits-blen n by omega,show ((blen n:Int)-bits).toNat=0 by omega]
 simp only[tC,sB,Zo1]
theorem ZqA {a s r bits:Nat}(g:0<bits)(ha:bits+1≤blen a)(h:0<r)(c:r<2^s) :
 rndK (a*2^s+r) 1 bits=(s:Int)+(blen a:Int)-bits∧rndM (a*2^s+r) 1 bits=fB a (blen a-bits-1) true:=by
 have i:0<a*2^s+r:=qO
 obtain⟨j,b⟩:∃ j,blen a=bits+(j+1):=⟨blen a-bits-1,qO⟩
 have e:fq (a*2^s+r) 1 (s:Int)=a:=by
  unfold fq fa fb
  rw[show (-(s:Int)).toNat=0 by omega,show ((s:Int)).toNat=s by omega]
  simp only[tC,sB,rZ]
  rw[uH,sU (p2 s),tK c,tG]
 have k:fa (a*2^s+r) (s:Int)%fb 1 (s:Int)=r:=by
  unfold fa fb
  rw[show (-(s:Int)).toNat=0 by omega,show ((s:Int)).toNat=s by omega]
  simp only[tC,sB,rZ]
  rw[uH,qQ,vH c]
 obtain⟨l,f⟩:=ZdA (n:=a*2^s+r) i (d:=1) qD g (s:Int) j (by rw[e];exact b)
 rw[e,k] at f
 refine⟨by rw[l,b];omega,?_⟩
 rw[f,b,show bits+(j+1)-bits-1=j by omega,show decide (r≠0)=true from vM qO]
def tzn (n:Nat):Nat:=if h:n=0∨n%2=1 then 0 else tzn (n/2)+1
termination_by n
decreasing_by omega
theorem ZkA {n:Nat}(h:n%2=1):tzn n=0:=by rw[tzn,dif_pos (Or.inr h)]
theorem ZkB {n:Nat}(h:0<n):tzn (n*2)=tzn n+1:=by
 rw[tzn,dif_neg qO,qZ _ qD]
theorem Zcb {n:Nat}(h:0<n):∀ j,tzn (n*2^j)=tzn n+j
 | 0=>qS
 | j+1=>by rw[uN,← uG,ZkB (sL h (p2 j)),Zcb h j];omega
theorem Zni:∀ n:Nat,0<n→∃ o,o%2=1∧n=o*2^tzn n:=by
 intro n
 induction n using Nat.strongRecOn with
 | ind n ih =>
  intro h
  by_cases a:n%2=1
  ·exact⟨n,a,by rw[ZkA a];simp⟩
  obtain⟨m,rfl⟩:∃ m,n=m*2:=⟨n/2,qO⟩
  obtain⟨o,b,c⟩:=ih m qO qO
  exact⟨o,b,by rw[ZkB qO,uN,← uG,← c]⟩
theorem Zcc {o:Nat}(h:o%2=1)(j:Nat):tzn (o*2^j)=j:=by rw[Zcb qO,ZkA h];omega
def oddM (n:Nat):Nat:=n/2^tzn n
theorem Zd8 {o:Nat}(h:o%2=1)(j:Nat):oddM (o*2^j)=o:=by unfold oddM;rw[Zcc h,qZ _ (p2 j)]
theorem jV {n:Nat}(h:0<n):oddM n%2=1∧n=oddM n*2^tzn n:=by
 obtain⟨o,a,b⟩:=Zni n h
 have:oddM n=o:=by rw[b];exact Zd8 a _
 rw[this];exact⟨a,b⟩
theorem Zo3 {n:Nat}(h:0<n)(j:Nat):oddM (n*2^j)=oddM n:=by
 obtain⟨a,b⟩:=jV h
 have:n*2^j=oddM n*2^(tzn n+j):=by rw[uQ,← uG,← b]
 rw[this,Zd8 a]
theorem Znj {n:Nat}(h:0<n)(j:Nat):tzn n<j↔n%2^j≠0:=by
 obtain⟨i,f⟩:=jV h
 constructor
 ·intro g e
  obtain⟨d,b⟩:∃ d,j=tzn n+(d+1):=⟨j-tzn n-1,qO⟩
  have a:=Nat.dvd_of_mod_eq_zero e
  rw[b,uQ,uH] at a
  rw[f] at a
  rw[Zcc i] at a
  have:=Nat.dvd_of_mul_dvd_mul_right (p2 _) a
  rw[uN] at this
  have:2∣oddM n:=Nat.dvd_trans ⟨_,uH _ _⟩ this
  omega
 intro c
 refine qI fun g=>c ?_
 obtain⟨d,b⟩:=oR g
 rw[f,b,uQ,← uG,uH (oddM n),uG,Nat.mul_mod_right]
end Go.Proofs.YtenchljfmfgeoaaGreatDoor
