/-
 My texts.
-/
import Derived.Test.YtenchljfmfgeoaaGreatDoorW11
import Derived.Test.YtenchljfmfgeoaaGreatDoorW14
set_option maxRecDepth 100000
set_option maxHeartbeats 8000000
namespace Go.Proofs.YtenchljfmfgeoaaGreatDoor
open Go.RowKit Tryz
theorem zO:prog.follows .mixedOrders=true:=qK
def ZfV (cs:Array Value):Prop:=∀ (i:Nat) (k:IntKind) (z:Int),cs[i]? = some (.int k z)→k=.i64
theorem kQ {s:Bool}{A:qA}{l c:Nat}:ZfV #[.bool s,.slice A l c]:=by
 intro i k z;rcases i with _|_|i<;>simp
theorem zD.other {k:IntKind}{t:TypeId}{w w':World}{r:Nat}{A:qA}{xs:qN}{cs:Array Value}(h:zD k w A xs)(d:k≠.i64)(f:Blk t w r cs)(j:ZfV cs)(l:Fr (fun i=>i=r) w w'):zD k w' A xs:=by
 cases xs with
 | nil=>exact zD.nil
 | cons x xs =>
  refine h.fr l (fun q c m e=>?_)
  obtain⟨g,off,n,_,b⟩:=h.at (i:=0) qS
  rw[n] at c
  injection c with c
  subst c
  simp at e
  subst e
  rw[f.cell] at b
  exact d (j _ _ _ b)
theorem zV.oth {t:TypeId}{w w':World}{r n:Nat}{u:Value}{cs:Array Value}(h:zV w u n)(b:Blk t w r cs)(c:ZfV cs)(d:Fr (fun i=>i=r) w w'):zV w' u n:=by
 obtain⟨e,f,j,k,l,m,q⟩:=h
 exact⟨e,f,j,k,l,m.other qD b c d,q⟩
theorem zZ.oth {t:TypeId}{w w':World}{r:Nat}{v:Value}{z:Int}{cs:Array Value}(h:zZ w v z)(b:Blk t w r cs)(c:ZfV cs)(d:Fr (fun i=>i=r) w w'):zZ w' v z:=by
 obtain⟨e,u,n,f,j,k⟩:=h
 exact⟨e,u,n,f,j.oth b c d,k⟩
theorem zZ.shp {w:World}{v:Value}{z:Int}(h:zZ w v z):∃ (s:Bool) (A:Option Addr) (l c:Nat),v=.agg #[.bool s,.slice A l c]:=by
 obtain⟨s,A,l,c,h,_⟩:=h.open
 exact⟨s,A,l,c,h⟩
theorem gW.shp {w:World}{v:Value}{z:Int}(h:gW w v z):∃ (s:Bool) (A:Option Addr) (l c:Nat),v=.agg #[.bool s,.slice A l c]:=h.shape
theorem zZ.nil (w:World):zZ w (.agg #[.bool false,.slice none 0 0]) 0:=⟨false,_,0,rfl,zV.zero w,fun _=>rfl,rfl⟩
theorem Ziu {a b c d e f i j:Value}(h:Value.agg #[a,b,c,d]=.agg #[e,f,i,j]):a=e∧b=f∧c=i∧d=j:=by
 injection h with h
 simpa using h
def zU (w:World) (v:Value) (q:Rat):Prop:=∃ (s t:Bool) (A B:Option Addr) (l c l' c':Nat),v=.agg #[.bool s,.slice A l c,.bool t,.slice B l' c']∧zZ w (.agg #[.bool s,.slice A l c]) q.num∧zZ w (.agg #[.bool t,.slice B l' c']) (denF q)
theorem zU.ext {w w':World}{v:Value}{q:Rat}(h:zU w v q)(b:Ext w w'):zU w' v q:=by
 obtain⟨s,t,A,B,l,c,d,e,f,i,j⟩:=h
 exact⟨s,t,A,B,l,c,d,e,f,i.ext b,j.ext b⟩
theorem zU.oth {t:TypeId}{w w':World}{r:Nat}{v:Value}{q:Rat}{cs:Array Value}(h:zU w v q)(b:Blk t w r cs)(d:ZfV cs)(e:Fr (fun i=>i=r) w w'):zU w' v q:=by
 obtain⟨s,t,A,B,l,c,f,j,k,m,n⟩:=h
 exact⟨s,t,A,B,l,c,f,j,k,m.oth b d e,n.oth b d e⟩
theorem zU.shp {w:World}{v:Value}{q:Rat}(h:zU w v q):∃ (s:Bool) (A:Option Addr) (l c:Nat) (t:Bool) (B:Option Addr) (b d:Nat),v=.agg #[.bool s,.slice A l c,.bool t,.slice B b d]:=by
 obtain⟨s,t,A,B,l,c,b,d,h,_⟩:=h
 exact⟨s,A,l,c,t,B,b,d,h⟩
theorem zU.num {w:World}{a b c d:Value}{q:Rat}(h:zU w (.agg #[a,b,c,d]) q):zZ w (.agg #[a,b]) q.num:=by
 obtain⟨s,t,A,B,l,c,f,i,h,e,j⟩:=h
 obtain⟨rfl,rfl,rfl,rfl⟩:=Ziu h
 exact e
theorem zU.den {w:World}{a b c d:Value}{q:Rat}(h:zU w (.agg #[a,b,c,d]) q):zZ w (.agg #[c,d]) (denF q):=by
 obtain⟨s,t,A,B,l,c,f,i,h,j,e⟩:=h
 obtain⟨rfl,rfl,rfl,rfl⟩:=Ziu h
 exact e
theorem zU.of {w:World}{s t:Bool}{A B:qA}{l c b d:Nat}{q:Rat}(e:zZ w (.agg #[.bool s,.slice A l c]) q.num)(f:zZ w (.agg #[.bool t,.slice B b d]) (denF q)):zU w (.agg #[.bool s,.slice A l c,.bool t,.slice B b d]) q :=
 ⟨_,_,_,_,_,_,_,_,rfl,e,f⟩
def jE (w:World) (q:Rat) (e:Ending) (w':World):Prop:=∃ v,e=.returned v∧zU w' v q∧Ext w w'
theorem zU.nil (w:World):zU w (.agg #[.bool false,.slice none 0 0,.bool false,.slice none 0 0]) 0:=⟨_,_,_,_,_,_,_,_,rfl,zZ.nil w,zZ.nil w⟩
theorem fP {t0:TypeId}{w wb:World}{c0:Array Value}(h:w.alloc (.cells c0 t0)=wb):Blk t0 wb w.heap.size c0∧Ext w wb:=by
 subst h;exact⟨Blk.new _ _ _,(Fr.refl _ _).alloc _⟩
theorem ZaJ {t0 t1:TypeId}{w wb:World}{c0 c1:Array Value}(h:(w.alloc (.cells c0 t0)).alloc (.cells c1 t1)=wb):Blk t0 wb w.heap.size c0∧Blk t1 wb (w.heap.size+1) c1∧Ext w wb:=by
 obtain⟨d,f⟩:=fP (w:=w) (c0:=c0) (t0:=t0) rfl
 have e:(w.alloc (.cells c0 t0)).heap.size=w.heap.size+1:=qS
 obtain⟨b,c⟩:=fP h
 rw[e] at b
 exact⟨d.ext c,b,f.trans c⟩
theorem Zkl {t0 t1 t2:TypeId}{w wb:World}{c0 c1 c2:Array Value}(h:((w.alloc (.cells c0 t0)).alloc (.cells c1 t1)).alloc (.cells c2 t2)=wb):Blk t0 wb w.heap.size c0∧Blk t1 wb (w.heap.size+1) c1∧Blk t2 wb (w.heap.size+1+1) c2∧Ext w wb:=by
 obtain⟨d,f,i⟩:=ZaJ (w:=w) (c0:=c0) (t0:=t0) (c1:=c1) (t1:=t1) rfl
 have e:((w.alloc (.cells c0 t0)).alloc (.cells c1 t1)).heap.size=w.heap.size+1+1:=qS
 obtain⟨c,b⟩:=fP h
 rw[e] at c
 exact⟨d.ext b,f.ext b,c,i.trans b⟩
theorem Zp0 {t0 t1 t2 t3:TypeId}{w wb:World}{c0 c1 c2 c:Array Value}(h:(((w.alloc (.cells c0 t0)).alloc (.cells c1 t1)).alloc (.cells c2 t2)).alloc (.cells c t3)=wb):Blk t0 wb w.heap.size c0∧Blk t1 wb (w.heap.size+1) c1∧Blk t2 wb (w.heap.size+1+1) c2∧Blk t3 wb (w.heap.size+1+1+1) c∧Ext w wb:=by
 obtain⟨f,i,j,k⟩:=Zkl (w:=w) (c0:=c0) (t0:=t0) (c1:=c1) (t1:=t1) (c2:=c2) (t2:=t2) rfl
 have e:(((w.alloc (.cells c0 t0)).alloc (.cells c1 t1)).alloc (.cells c2 t2)).heap.size=w.heap.size+1+1+1:=qS
 obtain⟨d,b⟩:=fP h
 rw[e] at d
 exact⟨f.ext b,i.ext b,j.ext b,d,k.trans b⟩
theorem Blk.one' {t:TypeId}{w:World}{g:Nat}{cs:Array Value}{x:Value}(h:Blk t w g cs)(o:Nat)(b:cs[o]? = some x):w.cell? ⟨g,o,none⟩=some x:=(h.cell o).trans b
section
variable {ops:Array Oper} {S:World→Prop} {o:Oper} {a:Act} {p:Operand} {g off:Nat} {x y z u v:Value}
theorem ym (b:Region.wanted o (yielded ops a.tmps)=true)(c:o.op=Op.move p)(d:a.eval p=v):YieldsIf prog ops S o v a :=
 Or.inl ⟨b,fun w _=>by simp only[execOp,c,d];simp[go_sem]⟩
theorem ZgE (b:Region.wanted o (yielded ops a.tmps)=true)(c:o.op=Op.load 4 p)(d:a.eval p=.pointer (some ⟨g,off,none⟩))(e:∀ w,S w→w.cell? ⟨g,off,none⟩=some x):YieldsIf prog ops S o x a :=
 Or.inl ⟨b,fun w f=>by
  have h:=e w f
  simp only[execOp,c,d]
  simp[go_sem,h]⟩
theorem ZcA (b:Region.wanted o (yielded ops a.tmps)=true)(c:o.op=Op.fieldAddr 57 p 0)(d:a.eval p=.pointer (some ⟨g,off,none⟩)):YieldsIf prog ops S o (.pointer (some ⟨g,off,none⟩)) a :=
 Or.inl ⟨b,fun w _=>by simp only[execOp,c,d];simp[go_sem]⟩
theorem Zom {b c:Bool}{q:Operand}(d:Region.wanted o (yielded ops a.tmps)=true)(e:o.op=Op.binOp .neq 4 p q 4)(f:a.eval p=.bool b)(h:a.eval q=.bool c):YieldsIf prog ops S o (.bool (b != c)) a :=
 Or.inl ⟨d,fun w _=>by simp only[execOp,e,f,h];simp[go_sem];cases b<;>cases c<;>rfl⟩
end
section
variable {S:Nat→Prop} {w w' w0:World} {k:IntKind} {A:Option Addr} {xs:List Nat}
theorem zD.nrb (c:k≠.i64)(h:zD k w A xs)(d:∀ i,S i→NRB w i)(f:Fr S w w'):zD k w' A xs:=by
 cases xs with
 | nil=>exact zD.nil
 | cons x xs =>
  refine h.fr f (fun q b j l=>?_)
  obtain⟨g,m,n,_,a⟩:=h.at (i:=0) qS
  rw[n] at b
  injection b with b
  subst b
  obtain⟨t,r,o,p⟩:=d _ l
  rw[o.cell] at a
  exact c (p _ _ _ a)
theorem zF.nrb {u:Value}{n:Nat}(h:zF w u n)(a:∀ i,S i→NRB w i)(b:Fr S w w'):zF w' u n:=by
 obtain⟨c,xs,d,f,g,j,l⟩:=h
 exact⟨c,xs,d,f,g,j.nrb qD a b,l⟩
theorem gW.nrb {v:Value}{z:Int}(h:gW w v z)(a:∀ i,S i→NRB w i)(b:Fr S w w'):gW w' v z:=by
 obtain⟨c,u,n,d,f,g⟩:=h
 exact⟨c,u,n,d,f.nrb a b,g⟩
theorem zV.nrb {u:Value}{n:Nat}(h:zV w u n)(a:∀ i,S i→NRB w i)(b:Fr S w w'):zV w' u n:=by
 obtain⟨c,xs,d,f,g,j,l⟩:=h
 exact⟨c,xs,d,f,g,j.nrb qD a b,l⟩
theorem zZ.nrb {v:Value}{z:Int}(h:zZ w v z)(a:∀ i,S i→NRB w i)(b:Fr S w w'):zZ w' v z:=by
 obtain⟨c,u,n,d,f,g⟩:=h
 exact⟨c,u,n,d,f.nrb a b,g⟩
theorem zU.nrb {v:Value}{q:Rat}(h:zU w v q)(a:∀ i,S i→NRB w i)(b:Fr S w w'):zU w' v q:=by
 obtain⟨s,t,A,B,l,c,d,f,g,j,m⟩:=h
 exact⟨s,t,A,B,l,c,d,f,g,j.nrb a b,m.nrb a b⟩
theorem NRB.ext {i:Nat}(h:NRB w i)(a:Ext w w'):NRB w' i:=by
 obtain⟨t,b,c,d⟩:=h
 exact⟨t,b,c.ext a,d⟩
theorem boxn {φ:World→Prop}(a:Ext w w')(h:∀ S w'',(∀ i,S i→NRB w' i)→Fr S w' w''→φ w''):BoxN w w' φ:=fun S b w'' c=>h S w'' (fun i hi=>(b i hi).2.ext a) c
end
abbrev ShI:=Bool×Option Addr×Nat × Nat
abbrev ShQ:=Bool×Option Addr×Nat × Nat × Bool×Option Addr×Nat × Nat
abbrev ShN:=Option Addr×Nat × Nat
def wR (x:ShI):Value:=.agg #[.bool x.1,.slice x.2.1 x.2.2.1 x.2.2.2]
def iO (x:ShQ):Value:=.agg #[.bool x.1,.slice x.2.1 x.2.2.1 x.2.2.2.1,.bool x.2.2.2.2.1,.slice x.2.2.2.2.2.1 x.2.2.2.2.2.2.1 x.2.2.2.2.2.2.2]
def xI (x:ShN):Value:=.slice x.1 x.2.1 x.2.2
section
variable {w w':World} {e:Ending}
theorem Zfa {z:Int}(h:Zfw w z e w'):lQ wR (fun x w=>gW w (wR x) z) w e w':=by
 obtain⟨v,rfl,a,Q⟩:=h
 obtain⟨s,A,l,c,rfl⟩:=a.shp
 exact⟨(s,A,l,c),rfl,Q,boxn Q (fun S b d f=>a.nrb d f)⟩
theorem wE {z:Int}(h:kC w z e w'):lQ wR (fun x w=>zZ w (wR x) z) w e w':=by
 obtain⟨v,rfl,a,Q⟩:=h
 obtain⟨s,A,l,c,rfl⟩:=a.shp
 exact⟨(s,A,l,c),rfl,Q,boxn Q (fun S b d f=>a.nrb d f)⟩
theorem gY {q:Rat}(h:jE w q e w'):lQ iO (fun x w=>zU w (iO x) q) w e w':=by
 obtain⟨v,rfl,a,Q⟩:=h
 obtain⟨s,A,l,c,t,B,m,d,rfl⟩:=a.shp
 exact⟨(s,A,l,c,t,B,m,d),rfl,Q,boxn Q (fun S b f g=>a.nrb f g)⟩
def ZdJ (x:ShI×ShI):Value:=.tuple #[wR x.1,wR x.2]
theorem zK {v u:Value}(h:e=.returned v∧Ext w w')(a:v=u):lQ (fun _:Unit=>u) (fun _ _=>True) w e w':=by
 obtain⟨rfl,Q⟩:=h
 subst a
 exact⟨(),rfl,Q,BoxN.pure trivial⟩
end
theorem yN {P:Program}{f:FuncId}{a:Array Value}{w:World}{u v:Value}(h:Calls P f a w (fun e w'=>e=.returned v ∧ Ext w w'))(b:v=u:=by rfl):Calls P f a w (lQ (fun _:Unit=>u) (fun _ _=>True) w):=h.mono (fun _ _ h=>zK h b)
section
variable {N:Nat} {S0:Nat→Prop} {w0:World} {s s':St} {Φ Ψ Φ0:World→Prop} {L:Nat→Nat} {a:Act} {w:World} {P:Program} {ops:Array Oper} {Q:Exit→Act→World→Prop} {o:Oper}
theorem zY.of {sl:SlL}{bl:BlL}(h:(sl.map (fun q=>s.sl q.1),bl.map (fun q=>s.bl q.1))=(sl.map (fun q=>some q.2),bl.map (fun q=>some q.2))):zY s sl bl:=h
def Zpv (N:Nat) (S0:Nat→Prop) (w0:World) (J:Nat→St→(World→Prop)→Prop) (n:Nat) (a:Act) (w:World):Prop:=∃ n' s' Φ' L',n'<n∧J n' s' Φ'∧Inv N S0 w0 s' Φ' L' a w
theorem xU {c:Code}(J:Nat→St→(World→Prop)→Prop)(f:Nat)(g:J f s Φ)(b:∀ n s Φ,J n s Φ→SXc P N S0 w0 (Exit.then (Zpv N S0 w0 J n) Q) c s Φ):SXc P N S0 w0 Q (.loop c) s Φ:=fun L a w hi=>by
 refine wp_loop_ghost (fun n a w=>∃ s Φ L,J n s Φ∧Inv N S0 w0 s Φ L a w) f ⟨s,Φ,L,g,hi⟩ ?_
 rintro n a w ⟨s,Φ,L,h,hi⟩
 refine wp_mono (b n s Φ h L a w hi) ?_
 intro e q w' d
 cases e with
 | normal =>
  obtain⟨i,s',Φ',j,k,m,p⟩:=d
  exact⟨i,k,s',Φ',j,m,p⟩
 | exit id=>exact d
 | goto l=>exact d
 | ret=>exact d
 | panic ch=>exact d
 | outgrown=>exact d
theorem xG {J:Nat→St→(World→Prop)→Prop}{n:Nat}(b:Nat)(c:b<n)(h:J b s Φ):SXq N S0 w0 (Exit.then (Zpv N S0 w0 J n) Q .normal) s Φ:=fun _ _ _ hi=>⟨b,s,Φ,_,c,h,hi⟩
theorem Ziv {x y:Code}(J:St→(World→Prop)→Prop)(d:SXc P N S0 w0 (Exit.then (fun a w=>∃ s' Φ' L',J s' Φ'∧Inv N S0 w0 s' Φ' L' a w) Q) x s Φ)(f:∀ s Φ,J s Φ→SXc P N S0 w0 Q y s Φ):SXc P N S0 w0 Q (.seq x y) s Φ:=fun L a w hi=>by
 refine wp_seq (wp_mono (d L a w hi) ?_)
 intro e g w' b
 cases e with
 | normal =>
  obtain⟨s',Φ',L',c,h⟩:=b
  exact f s' Φ' c L' g w' h
 | exit id=>exact b
 | goto l=>exact b
 | ret=>exact b
 | panic ch=>exact b
 | outgrown=>exact b
theorem dK {J:St→(World→Prop)→Prop}(h:J s Φ):SXq N S0 w0 (Exit.then (fun a w=>∃ s' Φ' b,J s' Φ'∧Inv N S0 w0 s' Φ' b a w) Q .normal) s Φ:=fun _ _ _ hi=>⟨s,Φ,_,h,hi⟩
theorem Zes {n i:Nat}(d:Nat){α:Type}[c:Nonempty α](sh:α→Value)(φ:α→World→Prop)(hi:Nat.blt i n=true)(e:cls (opAt ops i).op=2)(f:s.wantB ops (opAt ops i)=some true)(g:kP (opAt ops i).op=true)(h:(opAt ops i).op.operands.toList.all s.vB=true)(j:(opAt ops i).dst=some d)(k:Nat.blt d N=true)(b:∀ w,Fr S0 w0 w→Φ w→Does P (opAt ops i) s.rho w (DoR sh φ w))(K:∀ x,StI P N S0 w0 ops Φ0 Q n (i+1) (s.put d (.v (sh x))) (fun w=>Φ w∧φ x w)):StI P N S0 w0 ops Φ0 Q n i s Φ:=by
 have l:i<n:=tJ hi
 unfold StI
 rw[show n-i=(n-(i+1))+1 by omega,List.range'_succ]
 exact .does c sh φ e f g h j (tJ k) b K
end
section
variable {N:Nat} {S0:Nat→Prop} {w0:World} {s:St} {Φ:World→Prop} {P:Program} {ops:Array Oper} {Q:Exit→Act→World→Prop}
theorem yD {i:Nat}{α:Type}{d:Nat}(sh:α→Value)(φ:α→World→Prop)(b:∀ w,Fr S0 w0 w→Φ w→Does P (opAt ops i) s.rho w (DoR sh φ w))(K:∀ x,SXi P N S0 w0 ops Q (i+1) (s.put d (.v (sh x))) (fun w=>Φ w ∧ φ x w))(hi:Nat.blt i ops.size=true:=by kernel_rfl)(c:s.wantB ops (opAt ops i)=some true:=by kernel_rfl)(e:kP (opAt ops i).op=true:=by kernel_rfl)(f:(opAt ops i).op.operands.toList.all s.vB=true:=by kernel_rfl)(g:(opAt ops i).dst=some d:=by kernel_rfl)(h:Nat.blt d N=true:=by kernel_rfl):SXi P N S0 w0 ops Q i s Φ:=lT sh φ hi c e f g h b K
theorem yK {i:Nat}(d:Nat)(y:Value)(b:∀ w,Fr S0 w0 w→Φ w→(execOp s.rho (opAt ops i)).run P w=.ok (.value y) w)(K:SXi P N S0 w0 ops Q (i+1) (s.put d (.v y)) Φ)(hi:Nat.blt i ops.size=true:=by kernel_rfl)(c:kP (opAt ops i).op=true:=by kernel_rfl)(e:s.wantB ops (opAt ops i)=some true:=by kernel_rfl)(f:(opAt ops i).op.operands.toList.all s.vB=true:=by kernel_rfl)(g:(opAt ops i).dst=some d:=by kernel_rfl)(h:Nat.blt d N=true:=by kernel_rfl):SXi P N S0 w0 ops Q i s Φ:=Zep d y hi c e f g h b K
theorem yR {fn:Func}{R:Ending→World→Prop}(v:Value)(b:∀ w,Fr S0 w0 w→Φ w→R (.returned v) w)(h:ZhT P fn s=some v:=by kernel_rfl):SXq N S0 w0 (bodyPost P fn R .ret) s Φ:=zE h b
theorem yQ {c:Operand}{x y:Code}(b:Bool)(d:b=true→SXc P N S0 w0 Q x s Φ)(e:b=false→SXc P N S0 w0 Q y s Φ)(f:s.eval c=some (.v (.bool b)):=by kernel_rfl):SXc P N S0 w0 Q (.cond c x y) s Φ:=zR b f d e
theorem yO {id:Nat}(n:Nat){sl:SlL}{b:BlL}(c:P.follows .mixedOrders=true)(h:StI P N S0 w0 ops Φ Q n 0 (ofL sl b) Φ)(d:Zps ops (ofL sl b) n=true:=by kernel_rfl)(e:Zen ops sl=true:=by kernel_rfl):SXc P N S0 w0 Q (.region id ops true) (ofL sl b) Φ:=xN n d e c h
theorem yP {q:Act→World→Prop}(sl:SlL)(b:BlL)(Ψ:World→Prop)(Q:∀ w,Φ w→Ψ w)(h:SXq N S0 w0 q (ofL sl b) Ψ)(c:(sl.map (fun q=>s.sl q.1),b.map (fun q=>s.bl q.1))=(sl.map (fun q=>some q.2),b.map (fun q=>some q.2)):=by kernel_rfl)(d:wfB sl b=true:=by kernel_rfl):SXq N S0 w0 q s Φ:=SXq.weak sl b (zY.of c) d Q h
theorem yC {c:Code}(sl:SlL)(b:BlL)(Ψ:World→Prop)(R:∀ w,Φ w→Ψ w)(h:SXc P N S0 w0 Q c (ofL sl b) Ψ)(d:(sl.map (fun q=>s.sl q.1),b.map (fun q=>s.bl q.1))=(sl.map (fun q=>some q.2),b.map (fun q=>some q.2)):=by kernel_rfl)(e:wfB sl b=true:=by kernel_rfl):SXc P N S0 w0 Q c s Φ:=SXc.weak sl b (zY.of d) e R h
theorem yZ {i:Nat}{y:Code}(K:SXc P N S0 w0 Q y s Φ)(h:Nat.ble ops.size i=true:=by kernel_rfl):SXi P N S0 w0 ops (Exit.then (y.wp P Q) Q) i s Φ:=Zq6 h (zA K)
theorem yY {id:Nat}{y:Code}(K:SXi P N S0 w0 ops (Exit.then (y.wp P Q) Q) 0 s Φ):SXc P N S0 w0 Q (.seq (.region id ops false) y) s Φ:=zC (zB K)
theorem yM {f:FuncId}{b:Array Value}{w:World}{R T:Ending→World→Prop}(p:∀ {e w'},R e w'→T e w')(h:Calls P f b w R):Calls P f b w T:=h.mono (fun _ _=>p)
end
theorem ZcB (x:ByteArray):(x.toList == x.toList)=true:=qS
theorem ZfW {P:Program}{ρ:Operand→Value}{w:World}{t e:TypeId}{n sz:Nat}{z:Value}{parts:Array (Nat × Operand)}{a:Array Value}(g:P.underlying t=some (.slice e))(b:(P.info? e).map (fun i=>(i.zero,i.size))=some (some z,sz))(j:Nat.ble (n*sz) 1000=true)(hn0:Nat.beq (n*sz) 0=false)(k:Instr.fill (fun i=>some (i*sz,sz)) ((List.range (n*sz)).map (fun i=>z.cells[i%z.cells.size]!)).toArray (parts.toList.map fun q=>(q.1,ρ q.2))=some a) :
 (Instr.buildSlice t n (parts.map fun q:Nat × Operand=>(q.1,ρ q.2))).run P w=.ok (.slice (some ⟨w.heap.size,0,none⟩) n n) (w.alloc (.cells a e)):=by
 obtain⟨i,hi,c⟩:=vI.1 b
 injection c with c h2
 have l:=tJ j
 have d:¬ n*sz=0:=fun h=>by rw[h] at hn0;cases hn0
 have f:¬ 2^24<n*sz:=qO
 have m:(Array.range (n*sz)).map (fun i=>z.cells[i%z.cells.size]!)=((List.range (n*sz)).map (fun i=>z.cells[i%z.cells.size]!)).toArray:=by
  apply Array.ext';simp
 have o:(parts.map fun q:Nat × Operand=>(q.1,ρ q.2)).toList=parts.toList.map fun q=>(q.1,ρ q.2):=qS
 unfold Instr.buildSlice
 simp[underlying,g,sizeOf,typeInfo,hi,h2,zeroValue,c,d,f,m,k,newRow,newObj,Result.andThen]
 rfl
theorem lX {P:Program}{o:Oper}{ρ:Operand→Value}{w:World}{t e:TypeId}{n sz:Nat}{z:Value}{parts:Array (Nat × Operand)}{a:Array Value}(g:o.op=Op.buildSlice t n parts)(j:P.underlying t=some (.slice e))(c:(P.info? e).map (fun i=>(i.zero,i.size))=some (some z,sz))(k:Nat.ble (n*sz) 1000=true)(f:Nat.beq (n*sz) 0=false)(l:Instr.fill (fun i=>some (i*sz,sz)) ((List.range (n*sz)).map (fun i=>z.cells[i%z.cells.size]!)).toArray (parts.toList.map fun q=>(q.1,ρ q.2))=some a) :
 Does P o ρ w (DoR (fun b:Nat=>.slice (some ⟨b,0,none⟩) n n) (fun b w=>Blk e w b a) w):=by
 have d:=ZfW (w:=w) j c k f l
 exact Or.inl ⟨_,_,by simp[execOp,g,d,Result.andThen],w.heap.size,rfl,(Fr.refl _ w).alloc _,fun S m p r=>(Blk.new w e a).fr r (fun h=>by have:=(m _ h).1;omega)⟩
theorem ZdK {P:Program}{o:Oper}{ρ:Operand→Value}{w:World}{t:TypeId}{x:Operand}{lo hi:Option Operand}{b r:ByteArray}(l h:Nat)(d:o.op=Op.slice t x lo hi none)(e:P.underlying t=some .string)(f:ρ x=.string b)(a:lo.map ρ=none∧l=0∨lo.map ρ=some (.int .i64 l))(c:hi.map ρ=none∧h=b.size∨hi.map ρ=some (.int .i64 h))(g:l≤h)(i:h≤b.size)(j:b.extract l h=r):(execOp ρ o).run P w=.ok (.value (.string r)) w:=by
 subst j
 rcases a with ⟨a,rfl⟩|a<;>rcases c with ⟨c,rfl⟩|c <;>
  simp[execOp,d,Instr.sliceAt,Instr.slice,Instr.sliceBounds,Instr.sliceBound,asIntOf,underlying,e,f,a,c,g,i,Result.andThen]
theorem Zaw {P:Program}{o:Oper}{ρ:Operand→Value}{w:World}{t k:TypeId}{x y:Operand}{a b r:ByteArray}(c:o.op=Op.binOp .add t x y k)(d:ρ x=.string a)(e:ρ y=.string b)(g:a.size+b.size≤1099511627776)(f:a ++ b=r):(execOp ρ o).run P w=.ok (.value (.string r)) w:=by
 have h:¬ ((a.size+b.size:Nat):Int)>IntKind.i64.max:=by
  have:IntKind.i64.max=9223372036854775807:=qD
  rw[this];omega
 simp only[execOp,c,d,e,eqGuard,binOp,Op.stringOp,uL h,f]
 rfl
open Classical in
theorem Fr.split {A B:Nat→Prop}{w w2:World}(h:Fr (fun i=>A i∨B i) w w2):∃ l,Fr A w l∧Fr B l w2:=by
 have m:∀ i,i<w2.heap.size→(w2.heap.mapIdx fun i o=>if A i∨w.heap.size≤i then o else (w.heap[i]?).getD o)[i]? = if A i∨w.heap.size≤i then w2.heap[i]? else w.heap[i]? := by
  intro i hi
  rw[Array.getElem?_mapIdx,Array.getElem?_eq_getElem hi]
  by_cases b:A i∨w.heap.size≤i
  ·simp[b]
  have d:i<w.heap.size:=by
   rcases vL i w.heap.size with c|c
   ·exact c
   exact absurd (Or.inr c) b
  simp only[b,sU,if_false,Array.getElem?_eq_getElem d,rT]
 refine⟨{ w2 with heap:=w2.heap.mapIdx fun i o=>if A i∨w.heap.size≤i then o else (w.heap[i]?).getD o },⟨h.os,h.tape,h.output,?_,fun i hi g=>?_⟩,⟨rfl,rfl,rfl,?_,fun i hi n=>?_⟩⟩
 ·simpa using h.size
 ·have f:=m i (uS hi h.size)
  rw[uL (fun b=>b.elim g (fun c=>qO))] at f
  exact f
 ·simp
 have j:i<w2.heap.size:=by simpa using hi
 have f:=m i j
 by_cases b:A i∨w.heap.size≤i
 ·rw[uQ b] at f;exact f.symm
 rw[uL b] at f
 have d:i<w.heap.size:=by
  rcases vL i w.heap.size with c|c
  ·exact c
  exact absurd (Or.inr c) b
 exact (h.block i d (fun c=>c.elim (fun g=>b (Or.inl g)) n)).trans f.symm
theorem bl2 (b:Bool):b=true∨b=false:=by cases b<;>simp
theorem Own.same {k:IntKind}{t:TypeId}{w w':World}{b:Nat}{xs:qN}(h:Own k t w b xs)(e:w'.heap[b]? = w.heap[b]?):Own k t w' b xs:=by
 obtain⟨tail,c,d⟩:=h
 exact⟨tail,c,e.trans d⟩
section
variable {N:Nat} {S0:Nat→Prop} {w0:World} {s:St} {Φ Ψ:World→Prop} {L:Nat→Nat} {a:Act} {w:World} {P:Program} {ops:Array Oper} {Q:Exit→Act→World→Prop}
theorem Inv.notOwn (h:Inv N S0 w0 s Φ L a w){r j:Nat}{c:Value}(f:∀ w,Φ w→w.cell? ⟨r,j,none⟩=some c):¬ s.own L r:=fun g=>by
 have i:=f w h.box.self
 have b:∀ u:Value,u≠c→False:=fun u l=>by
  have d:=f (w.setCell ⟨r,j,none⟩ u) (h.box _ ((Fr.refl _ _).setCell (p:=⟨r,j,none⟩) (Or.inl g) u))
  rw[World.cell?_setCell_same _ _ _ i] at d
  injection d with d
  exact l d
 by_cases e:c=.bool true
 ·exact b (.bool false) (by rw[e];intro h;cases h)
 exact b (.bool true) (fun h=>e h.symm)
theorem Inv.eff (h:Inv N S0 w0 s Φ L a w){w':World}{r:Nat}(d:Fr (fun i=>i=r) w w')(g:¬ s.own L r)(c:w0.heap.size≤r∨S0 r)(f:r<w.heap.size)(m:∀ w1 w2,Φ w1→Fr (fun i=>i=r) w1 w2→w2.heap[r]? = w'.heap[r]? → Ψ w2):Inv N S0 w0 s Ψ L a w':=by
 refine⟨h.size,h.df,h.sl,⟨fun b t n e=>(h.mem.blk b t n e).fr d (fun p=>g ⟨b,by rw[e];rfl,p⟩),h.mem.inj,h.mem.old,h.mem.ext.next d (fun i hi e=>?_),h.mem.slp,h.mem.cel⟩,fun w2 j=>?_⟩
 ·rcases c with l|l
  ·omega
  rw[e];exact l
 have q:Fr (fun i=>s.own L i∨i=r) w w2:=(d.mono (fun i _ e=>Or.inr e)).trans (j.mono (fun i _ e=>Or.inl e))
 obtain⟨w1,u,v⟩:=q.split
 exact m w1 w2 (h.box w1 u) v (j.block r (uS f d.size) g)
theorem ZfX {α:Type}(l:List α)(j:Nat)(c:α)(h:j<l.length):lE l j [c]=l.set j c:=by
 unfold lE
 rw[List.set_eq_take_append_cons_drop,uQ h]
 simp
theorem Ziw {t e:TypeId}{k:IntKind}{b j:Nat}{xs:qN}(m:(teOf P t).map (fun e=>e.size)=some 1)(d:Own k e w b xs)(n:j<xs.length)(v:Nat) :
 ∃ w',(Instr.storeAt t (.pointer (some ⟨b,j,none⟩)) (.int k (v:Int))).run P w=.ok () w'∧Own k e w' b (xs.set j v)∧Fr (fun i=>i=b) w w':=by
 obtain⟨z,f,p⟩:=vI.1 m
 obtain⟨tail,q,d⟩:=d
 obtain⟨w',r,h,u⟩:=dS (P:=P) f (g:=b) (bt:=e) (off:=j) (cur:=(xs.map fun x:Nat=>Value.int k (x:Int)) ++ tail) (v:=.int k (v:Int)) d (by rw[p];rfl) (by simp[Value.cells];omega) (fun c l=>by simp[Value.cells] at l;rw[l];rfl)
 refine⟨w',r,⟨tail,q,?_⟩,u⟩
 have y:lE ((xs.map fun x:Nat=>Value.int k (x:Int)) ++ tail) j (Value.cells (.int k (v:Int))).toList=((xs.set j v).map fun x:Nat=>Value.int k (x:Int)) ++ tail:=by
  rw[show (Value.cells (.int k (v:Int))).toList=[.int k (v:Int)] from rfl,ZfX _ _ _ (by simp;omega),List.set_append_left _ _ (by simpa using n),nG]
 rw[y] at h
 exact h
theorem jX {i:Nat}{t e:TypeId}{k:IntKind}{x y:Operand}{xs:qN}(b j v:Nat)(Ψ:World→Prop)(l:∀ w,Φ w→Own k e w b xs)(m:j<xs.length)(c:w0.heap.size≤b∨S0 b)(n:∀ w w',Φ w→Fr (fun i=>i=b) w w'→Own k e w' b (xs.set j v)→Ψ w')(K:SXi P N S0 w0 ops Q (i+1) s Ψ)(g:Nat.blt i ops.size=true:=by kernel_rfl)(p:s.wantB ops (opAt ops i)=some true:=by kernel_rfl)(q:(opAt ops i).op=.store t x y:=by kernel_rfl)(r:(opAt ops i).dst=none:=by kernel_rfl)(u:(teOf P t).map (fun e=>e.size)=some 1:=by kernel_rfl)(z:s.eval x=some (.v (.pointer (some ⟨b,j,none⟩))):=by kernel_rfl)(A:s.eval y=some (.v (.int k (v:Int))):=by kernel_rfl):SXi P N S0 w0 ops Q i s Φ:=by
 unfold SXi
 rw[jN g]
 intro L a w hi
 refine wpList_step fun O B=>?_
 rw[uQ (hi.want p)]
 have d:=l w hi.box.self
 obtain⟨w',C,h,D⟩:=Ziw (P:=P) u d m v
 unfold Oper.wp
 have E:=hi.eval z
 have F:=hi.eval A
 have f:(execOp a.eval (opAt ops i)).run P w=.ok .skip w':=by simp only[execOp,q,Sem.run_bind,E,F,AV.conc,C,Result.andThen_ok,Sem.run_pure]
 rw[f,Oper.upon_skip,r]
 refine B _ _ (K L _ _ (hi.eff D (hi.notOwn (fun w R=>(l w R).cell m)) c d.lt (fun G H I J M=>n G H I J (h.same M))))
theorem ZcC {i d:Nat}{e:TypeId}{k:IntKind}{xs:qN}{α:Type}(f:FuncId)(args:List Value)(sh:α→Value)(p:α→Prop)(zs:α→List Nat)(b:Nat)(Ψ:α→World→Prop)(l:∀ w,Φ w→Own k e w b xs)(n:0<xs.length)(c:w0.heap.size≤b∨S0 b)(q:∀ w,Fr S0 w0 w→Φ w→Calls P f args.toArray w (fun en w'=>∃ x,en=.returned (sh x)∧p x∧Fr (fun i=>i=b) w w'∧Own k e w' b (zs x)))(r:∀ x w w',p x→Φ w→Fr (fun i=>i=b) w w'→Own k e w' b (zs x)→Ψ x w')(K:∀ x,p x→SXi P N S0 w0 ops Q (i+1) (s.put d (.v (sh x))) (Ψ x))(g:Nat.blt i ops.size=true:=by kernel_rfl)(h:gN P N ops (opAt ops i) s=some (f,args,d):=by kernel_rfl):SXi P N S0 w0 ops Q i s Φ:=by
 obtain⟨u,y,z,A,B,C,D⟩:=fN h
 unfold SXi
 rw[jN g]
 intro L a w hi
 refine wpList_step fun T E=>?_
 rw[uQ (hi.want u)]
 unfold Oper.wp
 rw[hi.exec A B,Zai y C,Oper.upon_enter]
 refine Calls.mono (q w hi.mem.ext hi.box.self) fun en w' F=>?_
 obtain⟨x,rfl,m,G,j⟩:=F
 simp only[z]
 have H:=hi.app0 (d:=d) D (al_v (s:=s) (sh x))
 exact E _ _ (K x m L _ _ (H.eff G (hi.notOwn (fun w R=>(l w R).cell n)) c (l w hi.box.self).lt (fun I J M O S=>r x I J m M O (j.same S))))
theorem ZcD {i d:Nat}{t e:TypeId}{k kl kc:IntKind}{l c:Operand}(n bytes:Nat)(hn:n≤35184372088832)(A:bytes≤8)(K:∀ b,w0.heap.size≤b→(∀ r,(∀ w,Φ w→r<w.heap.size)→r<b)→SXi P N S0 w0 ops Q (i+1) (s.put d (.v (.slice (some ⟨b,0,none⟩) n n))) (fun w=>Box (fun j=>b≤j) w Φ∧Own k e w b (List.replicate n 0)))(B:Nat.blt i ops.size=true:=by kernel_rfl)(G:s.wantB ops (opAt ops i)=some true:=by kernel_rfl)(H:(opAt ops i).op.operands.toList.all s.vB=true:=by kernel_rfl)(F:(opAt ops i).op=Op.makeSlice t l c:=by kernel_rfl)(I:(opAt ops i).dst=some d:=by kernel_rfl)(J:Nat.blt d N=true:=by kernel_rfl)(M:P.underlying t=some (.slice e):=by kernel_rfl)(u:(P.info? e).map (fun i=>(i.zero,i.size,i.bytes))=some (some (.int k 0),1,bytes):=by kernel_rfl)(O:s.rho l=.int kl n:=by kernel_rfl)(S:s.rho c=.int kc n:=by kernel_rfl):SXi P N S0 w0 ops Q i s Φ:=by
 unfold SXi
 rw[jN B]
 intro L a w hi
 refine wpList_step fun K' T=>?_
 rw[uQ (hi.want G)]
 unfold Oper.wp
 have C:kP (opAt ops i).op=true:=by rw[F];rfl
 have U:bytes*n≤8*n:=uE n A
 rw[hi.exec C H]
 have p:=run_make_row' (P:=P) t e (.int k 0) bytes M u rfl kl kc n qO qO w
 rw[ZbT] at p
 have y:(execOp s.rho (opAt ops i)).run P w=.ok (.value (.slice (some ⟨w.heap.size,0,none⟩) n n)) (w.alloc (.cells (lR k (List.replicate n 0) []) e)):=by simp[execOp,F,O,S,p,Result.andThen]
 rw[y,Oper.upon_value,I]
 have R:Ext w (w.alloc (.cells (lR k (List.replicate n 0) []) e)):=(Fr.refl _ w).alloc _
 have m:=hi.app0 (d:=d) (tJ J) (al_v (s:=s) (.slice (some ⟨w.heap.size,0,none⟩) n n))
 have V:=Own.new w e k (List.replicate n 0) []
 refine T _ _ (K w.heap.size hi.mem.ext.size (fun r h=>h w hi.box.self) L _ _ ⟨m.size,m.df,m.sl,⟨fun b t W e=>(m.mem.blk b t W e).ext R,m.mem.inj,m.mem.old,m.mem.ext.ext R,m.mem.slp,m.mem.cel⟩,fun w2 z=>⟨fun X g=>?_,?_⟩⟩)
 ·refine hi.box X ⟨g.os.trans (z.os.trans R.os),g.tape.trans (z.tape.trans R.tape),g.output.trans (z.output.trans R.output),uC R.size (uC z.size g.size),fun j D E=>?_⟩
  have Y:=R.block j D (fun f=>f)
  have Z:=z.block j (uS D R.size) E
  have h3:=g.block j (uS D (uC R.size z.size)) qO
  exact h3.trans (Z.trans Y)
 refine V.fr z fun⟨b,hb,eb⟩=>?_
 obtain⟨q,eq⟩:=sV.1 hb
 have:=(hi.mem.blk b q.1 q.2 eq).lt
 omega
theorem SXi.know {i:Nat}{p:Prop}(h:∀ w,Fr S0 w0 w→Φ w→p)(K:p→SXi P N S0 w0 ops Q i s Φ):SXi P N S0 w0 ops Q i s Φ:=fun L a w hi=>K (h w hi.mem.ext hi.box.self) L a w hi
theorem Zon {i d:Nat}{e:TypeId}{k:IntKind}(f:FuncId)(args:List Value)(xs:qN)(A:∀ w,Fr S0 w0 w→Φ w→Calls P f args.toArray w (fun en w'=>∃ b c,en=.returned (.slice (some ⟨b,0,none⟩) xs.length c)∧w.heap.size≤b∧xs.length≤c∧Ext w w'∧Own k e w' b xs))(K:∀ b c,w0.heap.size≤b→xs.length≤c→(∀ r,(∀ w,Φ w→r<w.heap.size)→r<b)→SXi P N S0 w0 ops Q (i+1) (s.put d (.v (.slice (some ⟨b,0,none⟩) xs.length c))) (fun w=>Box (fun j=>b≤j) w Φ∧Own k e w b xs))(n:Nat.blt i ops.size=true:=by kernel_rfl)(h:gN P N ops (opAt ops i) s=some (f,args,d):=by kernel_rfl):SXi P N S0 w0 ops Q i s Φ:=by
 obtain⟨B,C,D,E,F,G,H⟩:=fN h
 unfold SXi
 rw[jN n]
 intro L a w hi
 refine wpList_step fun K' I=>?_
 rw[uQ (hi.want B)]
 unfold Oper.wp
 rw[hi.exec E F,Zai C G,Oper.upon_enter]
 refine Calls.mono (A w hi.mem.ext hi.box.self) fun en w' J=>?_
 obtain⟨b,c,rfl,z,M,R,O⟩:=J
 simp only[D]
 have l:=hi.app0 (d:=d) H (al_v (s:=s) (.slice (some ⟨b,0,none⟩) xs.length c))
 refine I _ _ (K b c (uC hi.mem.ext.size z) M (fun r h=>uS (h w hi.box.self) z) L _ _ ⟨l.size,l.df,l.sl,⟨fun b t S e=>(l.mem.blk b t S e).ext R,l.mem.inj,l.mem.old,l.mem.ext.ext R,l.mem.slp,l.mem.cel⟩,fun w2 m=>⟨fun T g=>?_,?_⟩⟩)
 ·refine hi.box T ⟨g.os.trans (m.os.trans R.os),g.tape.trans (m.tape.trans R.tape),g.output.trans (m.output.trans R.output),uC R.size (uC m.size g.size),fun j p u=>?_⟩
  have U:=R.block j p (fun f=>f)
  have V:=m.block j (uS p R.size) u
  have W:=g.block j (uS p (uC R.size m.size)) qO
  exact W.trans (V.trans U)
 refine O.fr m fun X=>?_
 obtain⟨Y,y,eb⟩:=X
 obtain⟨q,Z⟩:=sV.1 y
 have:=(hi.mem.blk Y q.1 q.2 Z).lt
 omega
theorem Zp1 {i d:Nat}{dT sT e:TypeId}{k:IntKind}{dx sx:Operand}{sp:qA}{n m dc sc:Nat}{mid ys:qN}(b:Nat)(Ψ:World→Prop)(B:mid.length=n)(C:ys.length=m)(f:0<mid.length)(y:∀ w,Φ w→Own k e w b mid)(D:∀ w,Φ w→zD k w sp ys)(g:w0.heap.size≤b∨S0 b)(E:∀ w w',Φ w→Fr (fun i=>i=b) w w'→Own k e w' b (ys.take mid.length ++ mid.drop ys.length)→Ψ w')(K:SXi P N S0 w0 ops Q (i+1) s Ψ)(l:Nat.blt i ops.size=true:=by kernel_rfl)(F:(opAt ops i).guard=none:=by kernel_rfl)(G:(opAt ops i).op=.call { callee:=.builtin .copy,args:=#[dx,sx],argTypes:=#[dT,sT] }:=by kernel_rfl)(p:(opAt ops i).dst=some d:=by kernel_rfl)(H:(s.sl d).isNone=true:=by kernel_rfl)(I:P.underlying dT=some (.slice e):=by kernel_rfl)(J:(P.info? e).map (·.size)=some 1:=by kernel_rfl)(M:s.eval dx=some (.v (.slice (some ⟨b,0,none⟩) n dc)):=by kernel_rfl)(O:s.eval sx=some (.v (.slice sp m sc)):=by kernel_rfl):SXi P N S0 w0 ops Q i s Φ:=by
 unfold SXi
 rw[jN l]
 intro L a w hi
 have S:=hi.eval M
 have T:=hi.eval O
 have h:=y w hi.box.self
 refine Zas F dx sx dT sT G e k I J (some ⟨b,0,none⟩) sp n m dc sc S T b [] mid [] ys B C (by simpa using h) (D w hi.box.self) (fun _=>rfl) ?_
 intro w' z q _ U _
 have r:Own k e w' b (ys.take mid.length ++ mid.drop ys.length):=by simpa using q
 have c:=hi.eff U (hi.notOwn (fun w R=>(y w R).cell f)) g h.lt (fun V W c X Y=>E V W c X (r.same Y))
 have hsl:s.sl d=none:=by simpa using H
 refine K L _ _ ⟨by rw[p];simp[Act.put,c.size],by rw[p];exact c.df,fun j x A=>?_,c.mem,c.box⟩
 have u:d≠j:=fun e=>by rw[e,A] at hsl;cases hsl
 have:=c.sl j x A
 rw[p]
 simp[Act.put,Array.getElem?_setIfInBounds_ne u,this]
theorem xj {b:World→Prop}{n i:Nat}(d:Nat)(y:Value)(c:∀ w,b w→(execOp s.rho (opAt ops i)).run P w=.ok (.value y) w)(K:StI P N S0 w0 ops b Q n (i+1) (s.put d (.v y)) Φ)(hi:Nat.blt i n=true:=by kernel_rfl)(f:ZdB (opAt ops i).op=true:=by kernel_rfl)(g:s.wantB ops (opAt ops i)=some true:=by kernel_rfl)(h:(opAt ops i).op.operands.toList.all s.vB=true:=by kernel_rfl)(j:(opAt ops i).dst=some d:=by kernel_rfl)(l:Nat.blt d N=true:=by kernel_rfl):StI P N S0 w0 ops b Q n i s Φ :=
 ZaH d y hi f g h j l c K
end
def atA (A:Option Addr) (i:Nat):Value:=.pointer (A.map (·.add i))
section
variable {P:Program} {o:Oper} {ρ:Operand→Value} {w:World} {t e:TypeId} {x ix:Operand} {k:IntKind} {xs:List Nat}
theorem wL {A:qA}{len cap i:Nat}(hA:A≠none)(h:i<len)(c:o.op=Op.indexAddr t x ix:=by kernel_rfl)(d:P.underlying t=some (.slice e):=by kernel_rfl)(f:(P.info? e).map (fun i=>i.size)=some 1:=by kernel_rfl)(g:ρ x=.slice A len cap:=by kernel_rfl)(hi:ρ ix=.int .i64 (i:Int):=by kernel_rfl):(execOp ρ o).run P w=.ok (.value (atA A i)) w:=by
 obtain⟨j,b,l⟩:=vI.1 f
 obtain⟨a,rfl⟩:∃ a,A=some a:=by cases A;exact absurd rfl hA;exact⟨_,rfl⟩
 have m:(0:Int)≤(i:Int)∧(i:Int)<(len:Int):=qO
 simp[execOp,c,Instr.indexAt,asIntOf,underlying,d,g,hi,h,sizeOf,typeInfo,b,l,Result.andThen,atA]
theorem jT {g off len cap i:Nat}(h:i<len)(b:o.op=Op.indexAddr t x ix:=by kernel_rfl)(c:P.underlying t=some (.slice e):=by kernel_rfl)(d:(P.info? e).map (fun i=>i.size)=some 1:=by kernel_rfl)(f:ρ x=.slice (some ⟨g,off,none⟩) len cap:=by kernel_rfl)(hi:ρ ix=.int .i64 (i:Int):=by kernel_rfl):(execOp ρ o).run P w=.ok (.value (.pointer (some ⟨g,off+i,none⟩))) w:=by
 rw[wL (A:=some ⟨g,off,none⟩) qS h b c d f hi,atA,sU,jH]
theorem kI {g len cap i:Nat}(h:i<len)(b:o.op=Op.indexAddr t x ix:=by kernel_rfl)(c:P.underlying t=some (.slice e):=by kernel_rfl)(d:(P.info? e).map (fun i=>i.size)=some 1:=by kernel_rfl)(f:ρ x=.slice (some ⟨g,0,none⟩) len cap:=by kernel_rfl)(hi:ρ ix=.int .i64 (i:Int):=by kernel_rfl):(execOp ρ o).run P w=.ok (.value (.pointer (some ⟨g,i,none⟩))) w:=by
 have:=jT (w:=w) h b c d f hi
 rwa [vW] at this
theorem xZ {g off:Nat}{c:Value}(b:w.cell? ⟨g,off,none⟩=some c)(d:o.op=Op.load t x:=by kernel_rfl)(f:ρ x=.pointer (some ⟨g,off,none⟩):=by kernel_rfl)(ha:(teOf P t).map (fun e=>e.agg)=some false:=by kernel_rfl) :
 (execOp ρ o).run P w=.ok (.value c) w:=by
 obtain⟨e,h,i⟩:=vI.1 ha
 have:=ZbN (P:=P) (w:=w) h b i
 simp only[execOp,d,f,Sem.run_bind,this,Result.andThen_ok,Sem.run_pure]
theorem gP {b j:Nat}(c:Own k e w b xs)(d:j<xs.length)(f:o.op=Op.load t x:=by kernel_rfl)(g:ρ x=.pointer (some ⟨b,j,none⟩):=by kernel_rfl)(ha:(teOf P t).map (fun e=>e.agg)=some false:=by kernel_rfl) :
 (execOp ρ o).run P w=.ok (.value (.int k ((xs[j]?.getD 0:Nat):Int))) w:=xZ (c.cell d) f g ha
theorem lG {A:qA}{j:Nat}(b:zD k w A xs)(c:j<xs.length)(d:o.op=Op.load t x:=by kernel_rfl)(f:ρ x=atA A j:=by kernel_rfl)(ha:(teOf P t).map (fun e=>e.agg)=some false:=by kernel_rfl) :
 (execOp ρ o).run P w=.ok (.value (.int k ((xs[j]?.getD 0:Nat):Int))) w:=by
 obtain⟨g,h,rfl,_,i⟩:=b.at c
 exact xZ i d (by rw[f,atA,sU,jH]) ha
theorem Zrd {A:qA}{len cap h:Nat}{hi:Operand}(c:h≤cap)(d:o.op=Op.slice t x none (some hi) none:=by kernel_rfl)(f:P.underlying t=some (.slice e):=by kernel_rfl)(g:(P.info? e).map (fun i=>i.size)=some 1:=by kernel_rfl)(j:ρ x=.slice A len cap:=by kernel_rfl)(l:ρ hi=.int .i64 (h:Int):=by kernel_rfl):(execOp ρ o).run P w=.ok (.value (.slice A h cap)) w:=by
 obtain⟨m,b,_⟩:=vI.1 g
 have n:A.map (fun a=>a.add 0)=A:=by cases A with
  | none=>rfl
  | some a=>simp[Addr.add]
 simp[execOp,d,Instr.sliceAt,Instr.slice,Instr.sliceBounds,Instr.sliceBound,asIntOf,underlying,f,j,l,c,sizeOf,typeInfo,b,Result.andThen,n]
theorem Zp2 {g len cap off l h n m:Nat}{lo hi:Operand}(d:l≤h)(b:h≤cap)(j:l<cap)(p:h-l=n)(q:cap-l=m)(r:o.op=Op.slice t x (some lo) (some hi) none:=by kernel_rfl)(u:P.underlying t=some (.slice e):=by kernel_rfl)(v:(P.info? e).map (fun i=>i.size)=some 1:=by kernel_rfl)(y:ρ x=.slice (some ⟨g,off,none⟩) len cap:=by kernel_rfl)(z:ρ lo=.int .i64 (l:Int):=by kernel_rfl)(A:ρ hi=.int .i64 (h:Int):=by kernel_rfl):(execOp ρ o).run P w=.ok (.value (.slice (some ⟨g,off+l,none⟩) n m)) w:=by
 subst p q
 obtain⟨B,c,C⟩:=vI.1 v
 have f:¬ cap=l:=qO
 simp[execOp,r,Instr.sliceAt,Instr.slice,Instr.sliceBounds,Instr.sliceBound,asIntOf,underlying,u,y,z,A,d,b,sizeOf,typeInfo,c,C,Result.andThen,f,jH]
theorem Zoo {g len cap l h n m:Nat}{lo hi:Operand}(c:l≤h)(b:h≤cap)(d:l<cap)(f:h-l=n)(j:cap-l=m)(p:o.op=Op.slice t x (some lo) (some hi) none:=by kernel_rfl)(q:P.underlying t=some (.slice e):=by kernel_rfl)(r:(P.info? e).map (fun i=>i.size)=some 1:=by kernel_rfl)(u:ρ x=.slice (some ⟨g,0,none⟩) len cap:=by kernel_rfl)(v:ρ lo=.int .i64 (l:Int):=by kernel_rfl)(y:ρ hi=.int .i64 (h:Int):=by kernel_rfl):(execOp ρ o).run P w=.ok (.value (.slice (some ⟨g,l,none⟩) n m)) w:=by
 have:=Zp2 (w:=w) c b d f j p q r u v y
 rwa [vW] at this
theorem zD.ne {A:qA}(b:zD k w A xs){j:Nat}(c:j<xs.length):A≠none:=by
 obtain⟨g,d,rfl,_⟩:=b.at c
 intro h;cases h
end
def aY (ops:Array Oper) (i k:Nat):List Nat:=((ops.toList.drop i).take k).filterMap (fun o=>o.dst)
def aZ (l:List Nat) (sl:SlL):SlL:=sl.filter (fun q => !(l.any (Nat.beq q.1)))
def ZhU (nb:BlL) (bl:BlL):BlL:=bl.filter (fun q => !(nb.any (fun p=>Nat.beq p.1 q.1)))
section
variable {N:Nat} {S0:Nat→Prop} {w0:World} {sl:SlL} {bl:BlL} {Φ Φ0:World→Prop} {P:Program} {ops:Array Oper} {Q:Exit→Act→World→Prop}
theorem xq {i:Nat}(k:Nat)(b:SlL)(a:BlL)(K:SXi P N S0 w0 ops Q (i+k) (ofL (b ++ aZ (aY ops i k) sl) (a ++ ZhU a bl)) Φ)(h:ZfE P N ops i k (ofL sl bl) (b ++ aZ (aY ops i k) sl) (a ++ ZhU a bl)=some ((b ++ aZ (aY ops i k) sl).map (fun q=>some q.2),(a ++ ZhU a bl).map (fun q=>some q.2)):=by kernel_rfl)(c:wfB (b ++ aZ (aY ops i k) sl) (a ++ ZhU a bl)=true:=by kernel_rfl):SXi P N S0 w0 ops Q i (ofL sl bl) Φ:=Zmw k _ _ h c K
theorem xqf {n i:Nat}(k:Nat)(b:SlL)(a:BlL)(K:StI P N S0 w0 ops Φ0 Q n (i+k) (ofL (b ++ aZ (aY ops i k) sl) a) Φ)(h:Zb6 P N ops k i (ofL sl bl) (b ++ aZ (aY ops i k) sl)=some ((b ++ aZ (aY ops i k) sl).map (fun q=>some q.2),eP a):=by kernel_rfl)(c:Nat.ble (i+k) n=true:=by kernel_rfl):StI P N S0 w0 ops Φ0 Q n i (ofL sl bl) Φ:=Zio k _ _ h c K
theorem xqg {n i:Nat}(k:Nat)(a:SlL)(K:StI P N S0 w0 ops Φ0 Q n (i+k) (ofL (a ++ aZ (aY ops i k) sl) bl) Φ)(h:Zb6 P N ops k i (ofL sl bl) (a ++ aZ (aY ops i k) sl)=some ((a ++ aZ (aY ops i k) sl).map (fun q=>some q.2),eP bl):=by kernel_rfl)(b:Nat.ble (i+k) n=true:=by kernel_rfl):StI P N S0 w0 ops Φ0 Q n i (ofL sl bl) Φ:=Zio k _ _ h b K
theorem xqc {i:Nat}(f:FuncId)(args:List Value)(d:Nat){α:Type}(sh:α→Value)(φ:α→World→Prop)(b:∀ w,Fr S0 w0 w→Φ w→Calls P f args.toArray w (lQ sh φ w))(K:∀ x,SXi P N S0 w0 ops Q (i+1) (ofL ((d,.v (sh x)) :: sl) bl) (fun w=>Φ w∧φ x w))(a:Nat.blt i ops.size=true:=by kernel_rfl)(h:gN P N ops (opAt ops i) (ofL sl bl)=some (f,args,d):=by kernel_rfl):SXi P N S0 w0 ops Q i (ofL sl bl) Φ:=Zkf f args d sh φ a h b K
theorem xqd {n i:Nat}(f:FuncId)(args:List Value)(d:Nat){α:Type}[c:Nonempty α](sh:α→Value)(φ:α→World→Prop)(a:∀ w,Fr S0 w0 w→Φ w→Calls P f args.toArray w (lQ sh φ w))(K:∀ x,StI P N S0 w0 ops Φ0 Q n (i+1) (ofL ((d,.v (sh x)) :: sl) bl) (fun w=>Φ w∧φ x w))(hi:Nat.blt i n=true:=by kernel_rfl)(b:cls (opAt ops i).op=2:=by kernel_rfl)(h:gN P N ops (opAt ops i) (ofL sl bl)=some (f,args,d):=by kernel_rfl):StI P N S0 w0 ops Φ0 Q n i (ofL sl bl) Φ:=Zkh f args d sh φ hi b h a K
theorem xqk {i:Nat}(d:Nat)(y:Value)(a:∀ w,Fr S0 w0 w→Φ w→(execOp (ofL sl bl).rho (opAt ops i)).run P w=.ok (.value y) w)(K:SXi P N S0 w0 ops Q (i+1) (ofL ((d,.v y) :: sl) bl) Φ)(hi:Nat.blt i ops.size=true:=by kernel_rfl)(b:kP (opAt ops i).op=true:=by kernel_rfl)(c:(ofL sl bl).wantB ops (opAt ops i)=some true:=by kernel_rfl)(e:(opAt ops i).op.operands.toList.all (ofL sl bl).vB=true:=by kernel_rfl)(f:(opAt ops i).dst=some d:=by kernel_rfl)(g:Nat.blt d N=true:=by kernel_rfl):SXi P N S0 w0 ops Q i (ofL sl bl) Φ :=
 Zep d y hi b c e f g a K
theorem xqj {n i:Nat}(d:Nat)(y:Value)(a:∀ w,Φ0 w→(execOp (ofL sl bl).rho (opAt ops i)).run P w=.ok (.value y) w)(K:StI P N S0 w0 ops Φ0 Q n (i+1) (ofL ((d,.v y) :: sl) bl) Φ)(hi:Nat.blt i n=true:=by kernel_rfl)(b:ZdB (opAt ops i).op=true:=by kernel_rfl)(c:(ofL sl bl).wantB ops (opAt ops i)=some true:=by kernel_rfl)(e:(opAt ops i).op.operands.toList.all (ofL sl bl).vB=true:=by kernel_rfl)(f:(opAt ops i).dst=some d:=by kernel_rfl)(g:Nat.blt d N=true:=by kernel_rfl):StI P N S0 w0 ops Φ0 Q n i (ofL sl bl) Φ :=
 ZaH d y hi b c e f g a K
end
theorem xC {w w':World}{e:Ending}{n:Nat}(h:lA w n e w'):lQ xI (fun x w=>zF w (xI x) n) w e w':=by
 obtain⟨v,rfl,a,Q⟩:=h
 obtain⟨A,l,c,rfl⟩:=a.slice
 exact⟨(A,l,c),rfl,Q,boxn Q (fun S b d f=>a.nrb d f)⟩
instance {b:Nat} {A A2:Option Addr}:Nonempty {q:ShN // ∀ a,q.1=some a→b<a.block∨q.1=A∨q.1=A2}:=⟨⟨(none,0,0),fun a h=>by cases h⟩⟩
section
open Go.RowKit Go.Sort
theorem TBuf.bytes {w:World}{A:qA}{cap:Nat}{l:List UInt8}(h:TBuf w A cap l)(c:l≠[]):∃ b,A=some ⟨b,0,none⟩∧∀ j (a:j<l.length),w.cell? ((⟨b,0,none⟩:Addr).add j)=some (.int .u8 (l[j].toNat:Int)):=by
 rcases h with ⟨_,h,_⟩|⟨b,rfl,d,_⟩
 ·simp[nats] at h;exact absurd h c
 refine⟨b,rfl,fun j a=>?_⟩
 have:=d.cell (i:=j) (by rw[ZbL];exact a)
 rw[Lib.add_plain,vW,this]
 simp[nats,a]
end
def jF (w:World) (A:Option Addr) (zs:List Int):Prop :=
 zs≠[]→∃ b off,A=some ⟨b,off,none⟩∧b<w.heap.size∧∀ i,i<zs.length→w.cell? ⟨b,off+i,none⟩=some (.int .i64 (zs.getD i 0))
theorem jF.ext {w w':World}{A:qA}{zs:List Int}(h:jF w A zs)(d:Ext w w'):jF w' A zs:=fun c=>by
 obtain⟨b,a,rfl,e,g⟩:=h c
 exact⟨b,a,rfl,uS e d.size,fun i hi=>(d.cell (p:=⟨b,a+i,none⟩) e (fun f=>f)).trans (g i hi)⟩
def Zre (zs:List Int):Prop:=∀ z∈zs,-9223372036854775808≤z∧z≤9223372036854775807
theorem fQ {P:Program}{o:Oper}{ρ:Operand→Value}{w:World}{y:Value}{f:FuncId}{args:List Operand}{ts:Array TypeId}{a:List Value}(h:(callFunc f a.toArray).run P w=.ok (.value y) w)(b:o.op=.call { callee:=.value (.func f),args:=args.toArray,argTypes:=ts }:=by kernel_rfl)(c:args.map ρ=a:=by kernel_rfl)(d:ρ (.func f)=.func (.func f) #[] #[]:=by kernel_rfl):(execOp ρ o).run P w=.ok (.value y) w:=by
 subst c
 have e:(#[] ++ args.toArray.map ρ ++ #[]:Array Value)=(args.map ρ).toArray:=qS
 simp only[execOp,b,resolve,d,Deferred.ofValue,Sem.run_bind,Sem.run_pure,Result.andThen_ok,invoke,e,h]
theorem tdq (a c:Nat)(h:a<9223372036854775808):IntKind.i64.wrap (((a:Nat):Int).tdiv (c:Int))=((a/c:Nat):Int):=by
 rw[←Int.ofNat_tdiv,IntKind.wrap_i64]
 have:=vG a c
 generalize a/c=q at *
 omega
theorem tdr (a c:Nat):(((a:Nat):Int).tmod (c:Int))=((a%c:Nat):Int):=(Int.ofNat_tmod a c).symm
theorem lJ {a b:Int}(h:((a:Int) == b)=false):a≠b:=by simpa using h
theorem ZdL {a b:Int}(h:((a:Int) != b)=true):a≠b:=by simpa using h
theorem ZdM {a b:Int}(h:((a:Int) != b)=false):a=b:=by simpa using h
section
variable {P:Program} {o:Oper} {ρ:Operand→Value} {w:World} {x y:Operand} {t k:TypeId}
theorem Zix {a n:Nat}(h:n≤64)(b:o.op=Op.binOp .shr t x y k:=by kernel_rfl)(c:ρ x=.int .u64 (a:Int):=by kernel_rfl){ky:IntKind}(d:ρ y=.int ky (n:Int):=by kernel_rfl):(execOp ρ o).run P w=.ok (.value (.int .u64 ((a/2^n:Nat):Int))) w:=by
 have e:¬ ((n:Int)<0):=qO
 have f:min ((n:Int)).toNat IntKind.u64.bits=n:=by show min ((n:Int)).toNat 64=n;omega
 have g:((a:Int)).fdiv (2^n)=((a/2^n:Nat):Int):=by
  rw[Int.fdiv_eq_ediv_of_nonneg _ (by rw[show ((2:Int)^n)=((2^n:Nat):Int) by rw[tQ];rfl];exact Int.natCast_nonneg _)]
  exact ZbW a n
 simp only[execOp,b,c,d,eqGuard,binOp,Op.shift,uL e,f,g]
 rfl
theorem ZmG {a n:Nat}(g:n≤64)(b:o.op=Op.binOp .shl t x y k:=by kernel_rfl)(c:ρ x=.int .u64 (a:Int):=by kernel_rfl){ky:IntKind}(d:ρ y=.int ky (n:Int):=by kernel_rfl):(execOp ρ o).run P w=.ok (.value (.int .u64 ((a*2^n%W64:Nat):Int))) w:=by
 have e:¬ ((n:Int)<0):=qO
 have f:min ((n:Int)).toNat IntKind.u64.bits=n:=by show min ((n:Int)).toNat 64=n;omega
 simp only[execOp,b,c,d,eqGuard,binOp,Op.shift,uL e,f,aG]
 rfl
theorem Zpw {a b r:Nat}(ha:a<W64)(c:b<W64)(h:a ||| b=r)(d:o.op=Op.binOp .or t x y k:=by kernel_rfl)(e:ρ x=.int .u64 (a:Int):=by kernel_rfl)(f:ρ y=.int .u64 (b:Int):=by kernel_rfl):(execOp ρ o).run P w=.ok (.value (.int .u64 (r:Int))) w:=by
 have:=dQ ha c
 rw[h] at this
 rw[←this]
 simp only[execOp,d,e,f,eqGuard,binOp]
 rfl
end
theorem lI {B:Nat}{xs:qN}(k:Nat):val B (xs.take (k+1))=val B (xs.take k)+B^k*(xs[k]?.getD 0):=by
 rcases vL k xs.length with h|h
 ·exact zS k h
 rw[uA qO,uA h,vP h];simp
def Zax (xs ys:List Nat) (k:Nat) (zs:List Nat) (c:Nat):Prop :=
 zs.length=xs.length+1∧Dig W64 zs∧c≤1∧val W64 (zs.take k)+W64^k*c=val W64 (xs.take k)+val W64 (ys.take k)
theorem Zax.start (xs ys:qN):Zax xs ys 0 (List.replicate (xs.length+1) 0) 0:=⟨qS,Dig.replicate zJ _,qO,qS⟩
theorem Zax.step {xs ys zs:qN}{k c x y:Nat}(h:Zax xs ys k zs c)(l:k<xs.length)(a:xs[k]?.getD 0=x)(b:ys[k]?.getD 0=y)(d:Dig W64 xs)(e:Dig W64 ys):Zax xs ys (k+1) (zs.set k (xE x y c)) (xL x y c):=by
 obtain⟨f,g,i,j⟩:=h
 refine⟨by simpa using f,g.set k (eY _ _ _),Zcn (a ▸ d.getD zJ k) (b ▸ e.getD zJ k) i,?_⟩
 rw[xJ _ _ _ _ qO,lI k,lI k,a,b,uN]
 exact ZaS _ _ _ _ _ _ _ _ _ _ j (fD x y c)
theorem Zax.done {xs ys zs:qN}{c:Nat}(h:Zax xs ys xs.length zs c)(a:ys.length≤xs.length):(zs.set xs.length c).length=xs.length+1∧Dig W64 (zs.set xs.length c)∧val W64 (zs.set xs.length c)=val W64 xs+val W64 ys:=by
 obtain⟨b,d,g,f⟩:=h
 have e:(zs.set xs.length c).length=xs.length+1:=by simpa using b
 refine⟨e,d.set _ (by have:=fK;omega),?_⟩
 rw[←uA (l:=zs.set xs.length c) (i:=xs.length+1) qO,xJ _ _ _ _ qO,f,uA (uH _),uA a]
def MinR (xs ys:List Nat) (k:Nat) (zs:List Nat) (c:Nat):Prop :=
 zs.length=xs.length∧Dig W64 zs∧c≤1∧val W64 (zs.take k)+val W64 (ys.take k)=val W64 (xs.take k)+W64^k*c
theorem MinR.start (xs ys:qN):MinR xs ys 0 (List.replicate xs.length 0) 0:=⟨qS,Dig.replicate zJ _,qO,qS⟩
theorem MinR.step {xs ys zs:qN}{k c x y:Nat}(h:MinR xs ys k zs c)(m:k<xs.length)(a:xs[k]?.getD 0=x)(b:ys[k]?.getD 0=y)(d:Dig W64 xs)(e:Dig W64 ys):MinR xs ys (k+1) (zs.set k (lN x y c)) (lO x y c):=by
 obtain⟨f,g,i,j⟩:=h
 have l:=ZaT (a ▸ d.getD zJ k) (b ▸ e.getD zJ k) i
 refine⟨by simpa using f,g.set k (aD _ _ _),Zco _ _ _,?_⟩
 rw[xJ _ _ _ _ qO,lI k,lI k,a,b,uN]
 exact ZeY _ _ _ _ _ _ _ _ _ _ j l
theorem MinR.done {xs ys zs:qN}{c:Nat}(h:MinR xs ys xs.length zs c)(d:ys.length≤xs.length)(e:val W64 ys≤val W64 xs):val W64 zs=val W64 xs-val W64 ys:=by
 obtain⟨f,g,i,a⟩:=h
 rw[uA qO,uA d,uA (uH _)] at a
 have b:=wA g
 rw[f] at b
 rcases (by omega:c=0∨c=1) with rfl|rfl
 ·rw[tR] at a;omega
 rw[tU] at a;omega
noncomputable def tmD (z x y c:Nat):Nat:=xE (xE (xA x y) z 0) c 0
noncomputable def tmC (z x y c:Nat):Nat:=wJ x y+xL (xA x y) z 0+xL (xE (xA x y) z 0) c 0
theorem Zkn (z x y c:Nat):tmD z x y c+W64*tmC z x y c=z+x*y+c:=by
 have a:=eZ x y
 have b:=fD (xA x y) z 0
 have d:=fD (xE (xA x y) z 0) c 0
 unfold tmD tmC
 rw[uK,uK]
 omega
theorem Ziy {z x y c:Nat}(d:z<W64)(a:x<W64)(b:y<W64)(e:c<W64):tmC z x y c<W64:=by
 have f:=Zkn z x y c
 have g:=Zcp a b
 exact bR _ qO
theorem ZfY {a b:Nat}(h:a+b<W64):IntKind.u64.wrap ((a:Int)+(b:Int))=((a+b:Nat):Int):=by rw[←rL];exact wH _ h
theorem ZrV {z x y c:Nat}(a:z<W64)(b:x<W64)(d:y<W64)(e:c<W64):wJ x y+xL (xA x y) z 0<W64:=by have:=Ziy a b d e;unfold tmC at this;omega
theorem ZdN (x y:Nat)(w:World)(a:x<W64)(b:y<W64):yA 161 #[.int .u64 (x:Int),.int .u64 (y:Int)] w (RetV w (.tuple #[.int .u64 ((wJ x y:Nat):Int),.int .u64 ((xA x y:Nat):Int)])):=by
 refine (Zag x y a b w).mono ?_
 rintro e w' ⟨rfl,rfl⟩
 exact⟨rfl,Fr.refl _ _⟩
def TimI (zs0 ys:List Nat) (x i k:Nat) (zs:List Nat) (c:Nat):Prop :=
 zs.length=zs0.length∧Dig W64 zs∧c<W64∧zs.drop (i+k)=zs0.drop (i+k)∧val W64 (zs.take (i+k))+W64^(i+k)*c=val W64 (zs0.take (i+k))+W64^i*(x*val W64 (ys.take k))
theorem TimI.start {a:qN}(ys:qN)(x i:Nat)(h:Dig W64 a):TimI a ys x i 0 a 0:=⟨rfl,h,zJ,rfl,qS⟩
theorem TimI.at {a ys zs:qN}{x i k c:Nat}(h:TimI a ys x i k zs c):zs[i+k]?.getD 0=a[i+k]?.getD 0:=by
 have:=vK (fun l=>l[0]?.getD 0) h.2.2.2.1
 simpa [vJ] using this
theorem TimI.step {a ys zs:qN}{x i k c z y:Nat}(h:TimI a ys x i k zs c)(g:i+k<a.length)(b:zs[i+k]?.getD 0=z)(d:ys[k]?.getD 0=y)(j:Dig W64 ys)(l:x<W64):TimI a ys x i (k+1) (zs.set (i+k) (tmD z x y c)) (tmC z x y c):=by
 have m:a[i+k]?.getD 0=z:=h.at.symm.trans b
 obtain⟨n,f,p,q,s⟩:=h
 refine⟨by simpa using n,f.set _ (eY _ _ _),Ziy (b ▸ f.getD zJ _) l (d ▸ j.getD zJ k) p,?_,?_⟩
 ·have e:=vK (List.drop 1) q
  rw[vU,vU] at e
  rw[tC qO,show i+(k+1)=i+k+1 by omega];exact e
 rw[show i+(k+1)=(i+k)+1 by omega,xJ _ _ _ _ qO,zS (i+k) g,lI k,m,d,uN]
 have e:=vK (W64^(i+k) * ·) (Zkn z x y c)
 have r:W64^i*(x*(val W64 (ys.take k)+W64^k*y))=W64^i*(x*val W64 (ys.take k))+W64^(i+k)*(x*y):=by
  rw[uK x,uK (W64^i),uR,tE x (W64^k) y,uG (W64^i)]
 simp only[uK] at e
 rw[r,uG (W64^(i+k)) W64]
 omega
def TimR (xs ys:List Nat) (i:Nat) (zs:List Nat):Prop :=
 zs.length=xs.length+ys.length∧Dig W64 zs∧(∀ j,i+ys.length≤j→zs[j]?.getD 0=0)∧val W64 (zs.take (i+ys.length))=val W64 (xs.take i)*val W64 ys
theorem ZgF (n j:Nat):(List.replicate n 0)[j]?.getD 0=0:=by rw[pA];split<;>rfl
theorem TimR.start (xs ys:qN):TimR xs ys 0 (List.replicate (xs.length+ys.length) 0):=⟨qS,Dig.replicate zJ _,fun j _=>ZgF _ _,by rw[List.take_replicate,kW];simp⟩
theorem TimR.step {xs ys a zs:qN}{i c x:Nat}(h:TimR xs ys i a)(b:i<xs.length)(d:xs[i]?.getD 0=x)(k:TimI a ys x i ys.length zs c):TimR xs ys (i+1) (zs.set (i+ys.length) c):=by
 obtain⟨r,s,f,g⟩:=h
 obtain⟨u,m,n,p,q⟩:=k
 refine⟨by simp;omega,m.set _ n,fun j v=>?_,?_⟩
 ·rw[List.getElem?_set_ne qO]
  have e:=vK (fun l=>l[j-(i+ys.length)]?.getD 0) p
  simp only[vJ] at e
  rw[show i+ys.length+(j-(i+ys.length))=j by omega] at e
  rw[e];exact f j qO
 rw[show i+1+ys.length=(i+ys.length)+1 by omega,xJ _ _ _ _ qO,q,g,uA (uH ys.length),zS i b,d,uT,uG]
theorem TimR.done {xs ys zs:qN}(h:TimR xs ys xs.length zs):val W64 zs=val W64 xs*val W64 ys:=by
 obtain⟨b,c,d,a⟩:=h
 rwa [uA qO,uA (uH _)] at a
theorem ZdO (A:qA)(xs:qN)(c:Nat)(w:World)(s:zD .u64 w A xs)(z:xs.length≤1099511627776)(B:xs.length≤c) :
 yA 144 #[.slice A xs.length c] w (RetV w (.slice A (wM xs xs.length) c)):=by
 refine zQ (Φ:=fun w=>zD .u64 w A xs) func144 rfl qK (fun w' u=>s.ext u) ?_
 refine yY (xq 1 [eS1 2 none 0 0] [] ?_)
 refine yZ (zC (zP ?_))
 refine yC [eS1 0 A (xs.length) c] [] (fun w=>zD .u64 w A (xs)) (fun w Q=>Q) ?_
 refine xU (fun p q r=>∃ (k:Nat),q=ofL [eS1 0 A k c] []∧r=(fun w=>zD .u64 w A (xs))∧(wM xs xs.length=wM xs k)∧(k≤xs.length)∧p=(1+k)) ((1+(xs.length))) ⟨(xs.length),rfl,rfl,rfl,uH _,rfl⟩ ?_
 rintro p q r ⟨k,rfl,rfl,n,C,rfl⟩
 refine zC (yY (xq 4 [yB 6 (decide ((k:Int)>0))] [] ?_))
 rcases bl2 ((decide ((k:Int)>0))) with a|a
 ·rw[a]
  have f:=uB a
  refine xq 4 [eS1 7 A k c,yJ 10 (IntKind.i64.wrap ((k:Int)-1))] [] ?_
  rw[yW ((k:Int)-1) (((k-1:Nat):Int)) qO]
  refine xqk 11 (atA A (k-1)) (fun w R Q=>wL (t:=107) (e:=141) (x:=.tmp 7) (ix:=.tmp 10) (len:=k) (cap:=c) (i:=k-1) ((Q).ne (j:=k-1) qO) qO) ?_
  obtain⟨g,b⟩:=yE (xs[k-1]?.getD 0)
  refine xqk 12 (yX (g:Int)) (fun w R Q=>by rw[←b];exact lG (t:=141) (x:=.tmp 11) (Q) (j:=k-1) qO) ?_
  refine xq 2 [yB 14 (((g:Int):Int) == 0)] [] ?_
  refine xe (zA ?_)
  refine yQ ((((g:Int):Int) == 0)) (fun d=>?_) fun d=>?_
  ·have l:=sN.1 d
   refine zI (zA (zP (zB (xq 4 [eS1 15 A k c,yJ 18 (IntKind.i64.wrap ((k:Int)-1))] [] ?_))))
   rw[yW ((k:Int)-1) (((k-1:Nat):Int)) qO]
   refine xqk 19 (.slice A (k-1) c) (fun w R Q=>Zrd (t:=107) (e:=141) (x:=.tmp 15) (len:=k) (cap:=c) (h:=k-1) (hi:=.tmp 18) qO) ?_
   refine xq 1 [eS1 0 A (k-1) c] [] ?_
   refine xe (xR ?_)
   refine yP [eS1 0 A ((k-1)) c] [] (fun w=>zD .u64 w A (xs)) (fun w Q=>Q) ?_
   have v:wM xs xs.length=wM xs (k-1):=by obtain⟨m,rfl⟩:∃ m,k=m+1:=⟨k-1,qO⟩;rw[n,wM,uQ (by rw[tH] at b;omega),tH]
   exact xG ((1+((k-1)))) qO ⟨((k-1)),rfl,rfl,v,qO,rfl⟩
  have l:=lJ d
  refine xO (zH (zH (xY (zA (yY (xq 2 [eS1 2 A k c] [] ?_))))))
  refine yZ (zG ?_)
  refine yR (.slice A k c) fun w' R Q=>?_
  exact⟨by obtain⟨m,rfl⟩:∃ m,k=m+1:=⟨k-1,qO⟩;rw[n,wM,uL (by rw[tH] at b;omega)],R⟩
 rw[a]
 have f:=uD a
 refine xq 8 [yB 14 false] [] ?_
 refine yZ (xb (xO (zH (zH (xY (zA (yY (xq 2 [eS1 2 A k c] [] ?_))))))))
 refine yZ (zG ?_)
 refine yR (.slice A k c) fun w' R Q=>?_
 obtain rfl:k=0:=qO
 exact⟨by rw[n];rfl,R⟩
theorem Zal {b n v:Nat}{xs:qN}{w:World}(a:Own .u64 141 w b xs)(c:Dig W64 xs)(d:xs.length=n)(f:val W64 xs=v)(g:n≤1099511627776):yA 144 #[.slice (some ⟨b,0,none⟩) n n] w (lA w v):=by
 subst d f
 refine (ZdO _ xs _ w a.shows0 g (uH _)).mono ?_
 rintro e w' ⟨rfl,Q⟩
 exact⟨_,rfl,(zF.of_own a c (uH _)).ext Q,Q⟩
theorem Zlr (A m:qA)(xs ys:qN)(c c2:Nat)(w:World)(T:zD .u64 w A xs)(U:zD .u64 w m ys)(Z:xs.length≤4294967296)(V:ys.length≤4294967296)(K:Dig W64 xs)(L:Dig W64 ys)(W:ys.length≤xs.length)(G:val W64 ys≤val W64 xs) :
 yA 137 #[.slice A xs.length c,.slice m ys.length c2] w (lA w (val W64 xs-val W64 ys)):=by
 refine zQ (Φ:=fun w=>(zD .u64 w A xs∧zD .u64 w m ys)) func137 rfl qK (fun w' M=>⟨T.ext M,U.ext M⟩) ?_
 refine yY (xq 1 [eS1 4 none 0 0] [] ?_)
 refine yZ (yY (xq 2 [yJ 10 ((xs.length:Nat):Int)] [] ?_))
 refine ZcD (d:=11) (t:=107) (e:=141) (k:=.u64) (kl:=.i64) (kc:=.i64) (l:=.tmp 10) (c:=.tmp 10) (xs.length) 8 qO qD fun a r _=>?_
 refine xr 1 [eS1 0 A xs.length c,eS1 1 m ys.length c2,eS1 4 none 0 0,eS1 5 (yL a) (xs.length) (xs.length)] [] ?_
 refine yZ (yY (xq 1 [yU 6 0] [] ?_))
 refine yZ (zC (yY (xq 3 [yJ 13 ((xs.length:Nat):Int),yJ 14 0] [] ?_)))
 refine yZ (zP ?_)
 refine yC [eS1 0 A xs.length c,eS1 1 m ys.length c2,eS1 4 none 0 0,eS1 5 (yL a) (xs.length) (xs.length),yU 6 ((0:Nat):Int),yJ 13 ((xs.length:Nat):Int),yJ 14 ((0:Nat):Int)] [] (fun w=>(Box (fun j=>a≤j) w (fun w=>(zD .u64 w A (xs)∧zD .u64 w m (ys)))∧Own .u64 141 w a ((List.replicate (xs.length) 0)))) (fun w Q=>⟨Q.1,Q.2⟩) ?_
 refine xU (fun N O S=>∃ (f k:Nat) (q:List Nat),O=ofL [eS1 0 A xs.length c,eS1 1 m ys.length c2,eS1 4 none 0 0,eS1 5 (yL a) (xs.length) (xs.length),yU 6 (f:Int),yJ 13 ((xs.length:Nat):Int),yJ 14 (k:Int)] []∧S=(fun w=>(Box (fun j=>a≤j) w (fun w=>(zD .u64 w A (xs)∧zD .u64 w m (ys)))∧Own .u64 141 w a (q)))∧(MinR xs ys k q f)∧(k≤xs.length)∧N=(xs.length-k)) ((xs.length-0)) ⟨0,0,(List.replicate (xs.length) 0),rfl,rfl,MinR.start xs ys,qO,rfl⟩ ?_
 rintro N O S ⟨f,k,q,rfl,rfl,z,hk,rfl⟩
 refine yY (xq 1 [yB 15 (decide ((k:Int)<((xs.length:Nat):Int)))] [] ?_)
 refine yZ (zC ?_)
 refine yQ ((decide ((k:Int)<((xs.length:Nat):Int)))) (fun n=>?_) fun n=>?_
 ·have B:=uB n
  have X:=z.1
  have Y:=z.2.2.1
  refine zI (zA (zC (zP (yY (xq 2 [yJ 7 (k:Int)] [] ?_)))))
  refine yZ (yY (xq 1 [yU 8 0] [] ?_))
  refine yZ (zC (yY (xq 4 [yB 20 (decide ((k:Int)<((ys.length:Nat):Int)))] [] ?_)))
  refine xe (zA ?_)
  refine yQ ((decide ((k:Int)<((ys.length:Nat):Int)))) (fun p=>?_) fun p=>?_
  ·have C:=uB p
   refine zB (xq 2 [eS1 21 m ys.length c2,yJ 22 (k:Int)] [] ?_)
   refine xqk 23 (atA m k) (fun w R Q=>wL (t:=107) (e:=141) (x:=.tmp 21) (ix:=.tmp 22) (len:=ys.length) (cap:=c2) (i:=k) (((Q.1).self.2).ne (j:=k) qO) qO) ?_
   obtain⟨b,s⟩:=yE (ys[k]?.getD 0)
   refine xqk 24 (yX (b:Int)) (fun w R Q=>by rw[←s];exact lG (t:=141) (x:=.tmp 23) ((Q.1).self.2) (j:=k) qO) ?_
   refine xq 1 [yU 8 (b:Int)] [] ?_
   refine yZ (zB (xq 4 [eS1 26 (yL a) (xs.length) (xs.length),yJ 27 (k:Int),eS1 28 A xs.length c,yJ 29 (k:Int)] [] ?_))
   refine xqk 30 (atA A k) (fun w R Q=>wL (t:=107) (e:=141) (x:=.tmp 28) (ix:=.tmp 29) (len:=xs.length) (cap:=c) (i:=k) (((Q.1).self.1).ne (j:=k) qO) qO) ?_
   obtain⟨g,u⟩:=yE (xs[k]?.getD 0)
   refine xqk 31 (yX (g:Int)) (fun w R Q=>by rw[←u];exact lG (t:=141) (x:=.tmp 30) ((Q.1).self.1) (j:=k) qO) ?_
   refine xq 2 [yU 32 (b:Int),yU 33 (f:Int)] [] ?_
   refine xqk 34 (.tuple #[yX ((lN g b f:Nat):Int), yX ((lO g b f:Nat):Int)]) (fun w R Q=>fQ (args:=[Operand.tmp 31,Operand.tmp 32,Operand.tmp 33]) (ts:=#[141,141,141]) (gU g b f qO w)) ?_
   refine xq 3 [yU 35 ((lN g b f:Nat):Int),yU 36 ((lO g b f:Nat):Int)] [] ?_
   refine xqk 37 (.pointer (some ⟨a,k,none⟩)) (fun w R Q=>kI (t:=107) (e:=141) (x:=.tmp 26) (ix:=.tmp 27) (len:=(xs.length)) (cap:=(xs.length)) (i:=k) qO) ?_
   refine jX (t:=141) (x:=.tmp 37) (y:=.tmp 35) a (k) (lN g b f) (fun w=>(Box (fun j=>a≤j) w (fun w=>(zD .u64 w A (xs)∧zD .u64 w m (ys)))∧Own .u64 141 w a ((q).set (k) (lN g b f)))) (fun w Q=>Q.2) qO (Or.inl r) (fun w w' Q H I=>⟨((Q.1).fr (H.mono (fun _ _ e=>by rw[e];exact uH _))),I⟩) ?_
   refine xq 1 [yU 6 ((lO g b f:Nat):Int)] [] ?_
   refine xe (xR (zA (zB (xq 1 [yJ 38 (IntKind.i64.wrap ((k:Int)+1))] [] ?_))))
   rw[yW ((k:Int)+1) (((k+1:Nat):Int)) qO]
   refine xq 1 [yJ 14 ((k+1:Nat):Int)] [] ?_
   refine xe ?_
   refine yP [eS1 0 A xs.length c,eS1 1 m ys.length c2,eS1 4 none 0 0,eS1 5 (yL a) (xs.length) (xs.length),yU 6 (((lO g b f):Nat):Int),yJ 13 ((xs.length:Nat):Int),yJ 14 (((k+1):Nat):Int)] [] (fun w=>(Box (fun j=>a≤j) w (fun w=>(zD .u64 w A (xs)∧zD .u64 w m (ys)))∧Own .u64 141 w a (((q).set (k) (lN g b f))))) (fun w Q=>⟨Q.1,Q.2⟩) ?_
   have J:=z.step (k:=k) qO u (y:=b) s K L
   exact xG ((xs.length-(k+1))) qO ⟨(lO g b f),(k+1),((q).set (k) (lN g b f)),rfl,rfl,J,qO,rfl⟩
  have C:=uD p
  refine zI (zA (zB (xq 4 [eS1 26 (yL a) (xs.length) (xs.length),yJ 27 (k:Int),eS1 28 A xs.length c,yJ 29 (k:Int)] [] ?_)))
  refine xqk 30 (atA A k) (fun w R Q=>wL (t:=107) (e:=141) (x:=.tmp 28) (ix:=.tmp 29) (len:=xs.length) (cap:=c) (i:=k) (((Q.1).self.1).ne (j:=k) qO) qO) ?_
  obtain⟨h,v⟩:=yE (xs[k]?.getD 0)
  refine xqk 31 (yX (h:Int)) (fun w R Q=>by rw[←v];exact lG (t:=141) (x:=.tmp 30) ((Q.1).self.1) (j:=k) qO) ?_
  refine xq 2 [yU 32 0,yU 33 (f:Int)] [] ?_
  refine xqk 34 (.tuple #[yX ((lN h 0 f:Nat):Int), yX ((lO h 0 f:Nat):Int)]) (fun w R Q=>fQ (args:=[Operand.tmp 31,Operand.tmp 32,Operand.tmp 33]) (ts:=#[141,141,141]) (gU h 0 f qO w)) ?_
  refine xq 3 [yU 35 ((lN h 0 f:Nat):Int),yU 36 ((lO h 0 f:Nat):Int)] [] ?_
  refine xqk 37 (.pointer (some ⟨a,k,none⟩)) (fun w R Q=>kI (t:=107) (e:=141) (x:=.tmp 26) (ix:=.tmp 27) (len:=(xs.length)) (cap:=(xs.length)) (i:=k) qO) ?_
  refine jX (t:=141) (x:=.tmp 37) (y:=.tmp 35) a (k) (lN h 0 f) (fun w=>(Box (fun j=>a≤j) w (fun w=>(zD .u64 w A (xs)∧zD .u64 w m (ys)))∧Own .u64 141 w a ((q).set (k) (lN h 0 f)))) (fun w Q=>Q.2) qO (Or.inl r) (fun w w' Q H I=>⟨((Q.1).fr (H.mono (fun _ _ e=>by rw[e];exact uH _))),I⟩) ?_
  refine xq 1 [yU 6 ((lO h 0 f:Nat):Int)] [] ?_
  refine xe (xR (zA (zB (xq 1 [yJ 38 (IntKind.i64.wrap ((k:Int)+1))] [] ?_))))
  rw[yW ((k:Int)+1) (((k+1:Nat):Int)) qO]
  refine xq 1 [yJ 14 ((k+1:Nat):Int)] [] ?_
  refine xe ?_
  refine yP [eS1 0 A xs.length c,eS1 1 m ys.length c2,eS1 4 none 0 0,eS1 5 (yL a) (xs.length) (xs.length),yU 6 (((lO h 0 f):Nat):Int),yJ 13 ((xs.length:Nat):Int),yJ 14 (((k+1):Nat):Int)] [] (fun w=>(Box (fun j=>a≤j) w (fun w=>(zD .u64 w A (xs)∧zD .u64 w m (ys)))∧Own .u64 141 w a (((q).set (k) (lN h 0 f))))) (fun w Q=>⟨Q.1,Q.2⟩) ?_
  have J:=z.step (k:=k) qO v (y:=0) (by rw[vP qO];rfl) K L
  exact xG ((xs.length-(k+1))) qO ⟨(lO h 0 f),(k+1),((q).set (k) (lN h 0 f)),rfl,rfl,J,qO,rfl⟩
 have B:=uD n
 obtain rfl:k=xs.length:=qO
 refine xO (zH (zH (xY (zA (yY (xq 1 [eS1 39 (yL a) (xs.length) (xs.length)] [] ?_))))))
 refine xqc 144 [.slice (yL a) (xs.length) (xs.length)] 40 xI _ (fun w R Q=>yM xC (Zal Q.2 z.2.1 z.1 (z.done W G) qO)) fun⟨D,E,F⟩=>?_
 refine xq 1 [eS1 4 D E F] [] ?_
 refine yZ (zG ?_)
 refine yR (.slice D E F) fun w' R Q=>?_
 exact⟨_,rfl,Q.2,R⟩
theorem ZmH (A B:qA)(xs ys:qN)(c c2:Nat)(w:World)(hX:zD .u64 w A xs)(hY:zD .u64 w B ys)(hl:xs.length≤4294967296)(W:ys.length≤4294967296)(hx:Dig W64 xs)(hy:Dig W64 ys) :
 yA 135 #[.slice A xs.length c,.slice B ys.length c2] w (lA w (val W64 xs+val W64 ys)):=by
 refine zQ (Φ:=fun w=>(zD .u64 w A xs∧zD .u64 w B ys)) func135 rfl qK (fun w' hf=>⟨hX.ext hf,hY.ext hf⟩) ?_
 refine yY (xq 1 [eS1 4 none 0 0] [] ?_)
 refine xe (zA ?_)
 refine Ziv (fun L M=>∃ (p q:Option Addr) (a n:List Nat) (r D:Nat),L=ofL [eS1 0 p a.length r,eS1 1 q n.length D,eS1 4 none 0 0] []∧M=(fun w=>(zD .u64 w p (a)∧zD .u64 w q (n)))∧(n.length≤a.length)∧(Dig W64 a)∧(Dig W64 n)∧(a.length≤4294967296)∧(val W64 a+val W64 n=val W64 xs+val W64 ys)) ?_ ?_
 ·refine yY (xq 5 [yB 13 (decide (((xs.length:Nat):Int)<((ys.length:Nat):Int)))] [] ?_)
  refine xe (zA ?_)
  refine yQ ((decide (((xs.length:Nat):Int)<((ys.length:Nat):Int)))) (fun s=>?_) fun s=>?_
  ·have H:=uB s
   refine zB (xq 4 [eS1 0 B ys.length c2,eS1 1 A xs.length c] [] ?_)
   refine xe ?_
   refine yP [eS1 0 B ys.length c2,eS1 1 A xs.length c,eS1 4 none 0 0] [] (fun w=>(zD .u64 w B (ys)∧zD .u64 w A (xs))) (fun w Q=>⟨Q.2,Q.1⟩) ?_
   exact dK ⟨B,A,ys,xs,c2,c,rfl,rfl,qO,hy,hx,W,vR _ _⟩
  have H:=uD s
  refine zI ?_
  refine yP [eS1 0 A xs.length c,eS1 1 B ys.length c2,eS1 4 none 0 0] [] (fun w=>(zD .u64 w A (xs)∧zD .u64 w B (ys))) (fun w Q=>⟨Q.1,Q.2⟩) ?_
  exact dK ⟨A,B,xs,ys,c,c2,rfl,rfl,qO,hx,hy,hl,rfl⟩
 rintro L M ⟨p,q,a,n,r,D,rfl,rfl,h1,hu,hv,a0,N⟩
 refine yY (xq 3 [yJ 18 (IntKind.i64.wrap (((a.length:Nat):Int)+1))] [] ?_)
 rw[yW (((a.length:Nat):Int)+1) (((a.length+1:Nat):Int)) qO]
 refine ZcD (d:=19) (t:=107) (e:=141) (k:=.u64) (kl:=.i64) (kc:=.i64) (l:=.tmp 18) (c:=.tmp 18) (a.length+1) 8 qO qD fun b u _=>?_
 refine xr 1 [eS1 0 p a.length r,eS1 1 q n.length D,eS1 4 none 0 0,eS1 5 (yL b) (a.length+1) (a.length+1)] [] ?_
 refine yZ (yY (xq 1 [yU 6 0] [] ?_))
 refine yZ (zC (yY (xq 3 [yJ 21 ((a.length:Nat):Int),yJ 22 0] [] ?_)))
 refine yZ (zP ?_)
 refine yC [eS1 0 p a.length r,eS1 1 q n.length D,eS1 4 none 0 0,eS1 5 (yL b) (a.length+1) (a.length+1),yU 6 ((0:Nat):Int),yJ 21 ((a.length:Nat):Int),yJ 22 ((0:Nat):Int)] [] (fun w=>(Box (fun j=>b≤j) w (fun w=>(zD .u64 w p (a)∧zD .u64 w q (n)))∧Own .u64 141 w b ((List.replicate (a.length+1) 0)))) (fun w Q=>⟨Q.1,Q.2⟩) ?_
 refine xU (fun nn L M=>∃ (g k:Nat) (C:List Nat),L=ofL [eS1 0 p a.length r,eS1 1 q n.length D,eS1 4 none 0 0,eS1 5 (yL b) (a.length+1) (a.length+1),yU 6 (g:Int),yJ 21 ((a.length:Nat):Int),yJ 22 (k:Int)] []∧M=(fun w=>(Box (fun j=>b≤j) w (fun w=>(zD .u64 w p (a)∧zD .u64 w q (n)))∧Own .u64 141 w b (C)))∧(Zax a n k C g)∧(k≤a.length)∧nn=(a.length-k)) ((a.length-0)) ⟨0,0,(List.replicate (a.length+1) 0),rfl,rfl,Zax.start a n,qO,rfl⟩ ?_
 rintro nn L M ⟨g,k,C,rfl,rfl,K,hk,rfl⟩
 refine yY (xq 1 [yB 23 (decide ((k:Int)<((a.length:Nat):Int)))] [] ?_)
 refine yZ (zC ?_)
 refine yQ ((decide ((k:Int)<((a.length:Nat):Int)))) (fun v=>?_) fun v=>?_
 ·have I:=uB v
  have X:=K.1
  have b0:=K.2.2.1
  refine zI (zA (zC (zP (yY (xq 2 [yJ 7 (k:Int)] [] ?_)))))
  refine yZ (yY (xq 1 [yU 8 0] [] ?_))
  refine yZ (zC (yY (xq 4 [yB 28 (decide ((k:Int)<((n.length:Nat):Int)))] [] ?_)))
  refine xe (zA ?_)
  refine yQ ((decide ((k:Int)<((n.length:Nat):Int)))) (fun z=>?_) fun z=>?_
  ·have J:=uB z
   refine zB (xq 2 [eS1 29 q n.length D,yJ 30 (k:Int)] [] ?_)
   refine xqk 31 (atA q k) (fun w R Q=>wL (t:=107) (e:=141) (x:=.tmp 29) (ix:=.tmp 30) (len:=n.length) (cap:=D) (i:=k) (((Q.1).self.2).ne (j:=k) qO) qO) ?_
   obtain⟨f,E⟩:=yE (n[k]?.getD 0)
   refine xqk 32 (yX (f:Int)) (fun w R Q=>by rw[←E];exact lG (t:=141) (x:=.tmp 31) ((Q.1).self.2) (j:=k) qO) ?_
   refine xq 1 [yU 8 (f:Int)] [] ?_
   refine yZ (zB (xq 4 [eS1 34 (yL b) (a.length+1) (a.length+1),yJ 35 (k:Int),eS1 36 p a.length r,yJ 37 (k:Int)] [] ?_))
   refine xqk 38 (atA p k) (fun w R Q=>wL (t:=107) (e:=141) (x:=.tmp 36) (ix:=.tmp 37) (len:=a.length) (cap:=r) (i:=k) (((Q.1).self.1).ne (j:=k) qO) qO) ?_
   obtain⟨h,F⟩:=yE (a[k]?.getD 0)
   refine xqk 39 (yX (h:Int)) (fun w R Q=>by rw[←F];exact lG (t:=141) (x:=.tmp 38) ((Q.1).self.1) (j:=k) qO) ?_
   refine xq 2 [yU 40 (f:Int),yU 41 (g:Int)] [] ?_
   refine xqk 42 (.tuple #[yX ((xE h f g:Nat):Int), yX ((xL h f g:Nat):Int)]) (fun w R Q=>fQ (args:=[Operand.tmp 39,Operand.tmp 40,Operand.tmp 41]) (ts:=#[141,141,141]) (gT h f g qO w)) ?_
   refine xq 3 [yU 43 ((xE h f g:Nat):Int),yU 44 ((xL h f g:Nat):Int)] [] ?_
   refine xqk 45 (.pointer (some ⟨b,k,none⟩)) (fun w R Q=>kI (t:=107) (e:=141) (x:=.tmp 34) (ix:=.tmp 35) (len:=(a.length+1)) (cap:=(a.length+1)) (i:=k) qO) ?_
   refine jX (t:=141) (x:=.tmp 45) (y:=.tmp 43) b (k) (xE h f g) (fun w=>(Box (fun j=>b≤j) w (fun w=>(zD .u64 w p (a)∧zD .u64 w q (n)))∧Own .u64 141 w b ((C).set (k) (xE h f g)))) (fun w Q=>Q.2) qO (Or.inl u) (fun w w' Q O S=>⟨((Q.1).fr (O.mono (fun _ _ e=>by rw[e];exact uH _))),S⟩) ?_
   refine xq 1 [yU 6 ((xL h f g:Nat):Int)] [] ?_
   refine xe (xR (zA (zB (xq 1 [yJ 46 (IntKind.i64.wrap ((k:Int)+1))] [] ?_))))
   rw[yW ((k:Int)+1) (((k+1:Nat):Int)) qO]
   refine xq 1 [yJ 22 ((k+1:Nat):Int)] [] ?_
   refine xe ?_
   refine yP [eS1 0 p a.length r,eS1 1 q n.length D,eS1 4 none 0 0,eS1 5 (yL b) (a.length+1) (a.length+1),yU 6 (((xL h f g):Nat):Int),yJ 21 ((a.length:Nat):Int),yJ 22 (((k+1):Nat):Int)] [] (fun w=>(Box (fun j=>b≤j) w (fun w=>(zD .u64 w p (a)∧zD .u64 w q (n)))∧Own .u64 141 w b (((C).set (k) (xE h f g))))) (fun w Q=>⟨Q.1,Q.2⟩) ?_
   have Y:=K.step (k:=k) qO F (y:=f) E hu hv
   exact xG ((a.length-(k+1))) qO ⟨(xL h f g),(k+1),((C).set (k) (xE h f g)),rfl,rfl,Y,qO,rfl⟩
  have J:=uD z
  refine zI (zA (zB (xq 4 [eS1 34 (yL b) (a.length+1) (a.length+1),yJ 35 (k:Int),eS1 36 p a.length r,yJ 37 (k:Int)] [] ?_)))
  refine xqk 38 (atA p k) (fun w R Q=>wL (t:=107) (e:=141) (x:=.tmp 36) (ix:=.tmp 37) (len:=a.length) (cap:=r) (i:=k) (((Q.1).self.1).ne (j:=k) qO) qO) ?_
  obtain⟨m,G⟩:=yE (a[k]?.getD 0)
  refine xqk 39 (yX (m:Int)) (fun w R Q=>by rw[←G];exact lG (t:=141) (x:=.tmp 38) ((Q.1).self.1) (j:=k) qO) ?_
  refine xq 2 [yU 40 0,yU 41 (g:Int)] [] ?_
  refine xqk 42 (.tuple #[yX ((xE m 0 g:Nat):Int), yX ((xL m 0 g:Nat):Int)]) (fun w R Q=>fQ (args:=[Operand.tmp 39,Operand.tmp 40,Operand.tmp 41]) (ts:=#[141,141,141]) (gT m 0 g qO w)) ?_
  refine xq 3 [yU 43 ((xE m 0 g:Nat):Int),yU 44 ((xL m 0 g:Nat):Int)] [] ?_
  refine xqk 45 (.pointer (some ⟨b,k,none⟩)) (fun w R Q=>kI (t:=107) (e:=141) (x:=.tmp 34) (ix:=.tmp 35) (len:=(a.length+1)) (cap:=(a.length+1)) (i:=k) qO) ?_
  refine jX (t:=141) (x:=.tmp 45) (y:=.tmp 43) b (k) (xE m 0 g) (fun w=>(Box (fun j=>b≤j) w (fun w=>(zD .u64 w p (a)∧zD .u64 w q (n)))∧Own .u64 141 w b ((C).set (k) (xE m 0 g)))) (fun w Q=>Q.2) qO (Or.inl u) (fun w w' Q O S=>⟨((Q.1).fr (O.mono (fun _ _ e=>by rw[e];exact uH _))),S⟩) ?_
  refine xq 1 [yU 6 ((xL m 0 g:Nat):Int)] [] ?_
  refine xe (xR (zA (zB (xq 1 [yJ 46 (IntKind.i64.wrap ((k:Int)+1))] [] ?_))))
  rw[yW ((k:Int)+1) (((k+1:Nat):Int)) qO]
  refine xq 1 [yJ 22 ((k+1:Nat):Int)] [] ?_
  refine xe ?_
  refine yP [eS1 0 p a.length r,eS1 1 q n.length D,eS1 4 none 0 0,eS1 5 (yL b) (a.length+1) (a.length+1),yU 6 (((xL m 0 g):Nat):Int),yJ 21 ((a.length:Nat):Int),yJ 22 (((k+1):Nat):Int)] [] (fun w=>(Box (fun j=>b≤j) w (fun w=>(zD .u64 w p (a)∧zD .u64 w q (n)))∧Own .u64 141 w b (((C).set (k) (xE m 0 g))))) (fun w Q=>⟨Q.1,Q.2⟩) ?_
  have Y:=K.step (k:=k) qO G (y:=0) (by rw[vP qO];rfl) hu hv
  exact xG ((a.length-(k+1))) qO ⟨(xL m 0 g),(k+1),((C).set (k) (xE m 0 g)),rfl,rfl,Y,qO,rfl⟩
 have I:=uD v
 obtain rfl:k=a.length:=qO
 have X:=K.1
 have Z:=K.done h1
 refine xO (zH (zH (xY (zA (yY (xq 4 [eS1 47 (yL b) (a.length+1) (a.length+1),yJ 49 ((a.length:Nat):Int),yU 50 (g:Int)] [] ?_))))))
 refine xqk 51 (.pointer (some ⟨b,a.length,none⟩)) (fun w R Q=>kI (t:=107) (e:=141) (x:=.tmp 47) (ix:=.tmp 49) (len:=(a.length+1)) (cap:=(a.length+1)) (i:=a.length) qO) ?_
 refine jX (t:=141) (x:=.tmp 51) (y:=.tmp 50) b (a.length) (g) (fun w=>(Box (fun j=>b≤j) w (fun w=>(zD .u64 w p (a)∧zD .u64 w q (n)))∧Own .u64 141 w b ((C).set (a.length) (g)))) (fun w Q=>Q.2) qO (Or.inl u) (fun w w' Q O S=>⟨((Q.1).fr (O.mono (fun _ _ e=>by rw[e];exact uH _))),S⟩) ?_
 refine yZ (yY (xq 1 [eS1 52 (yL b) (a.length+1) (a.length+1)] [] ?_))
 refine xqc 144 [.slice (yL b) (a.length+1) (a.length+1)] 53 xI _ (fun w R Q=>yM xC (Zal Q.2 Z.2.1 Z.1 (Z.2.2.trans N) qO)) fun⟨T,U,V⟩=>?_
 refine xq 1 [eS1 4 T U V] [] ?_
 refine yZ (zG ?_)
 refine yR (.slice T U V) fun w' R Q=>?_
 exact⟨_,rfl,Q.2,R⟩
theorem Zls (A n:qA)(xs ys:qN)(c c2:Nat)(w:World)(hX:zD .u64 w A xs)(hY:zD .u64 w n ys)(hl:xs.length≤4294967296)(a0:ys.length≤4294967296)(S:Dig W64 xs)(T:Dig W64 ys) :
 yA 143 #[.slice A xs.length c,.slice n ys.length c2] w (lA w (val W64 xs*val W64 ys)):=by
 refine zQ (Φ:=fun w=>(zD .u64 w A xs∧zD .u64 w n ys)) func143 rfl qK (fun w' Z=>⟨hX.ext Z,hY.ext Z⟩) ?_
 refine yY (xq 1 [eS1 4 none 0 0] [] ?_)
 refine yZ (yY (xq 5 [yJ 18 (IntKind.i64.wrap (((xs.length:Nat):Int)+((ys.length:Nat):Int)))] [] ?_))
 rw[yW (((xs.length:Nat):Int)+((ys.length:Nat):Int)) (((xs.length+(ys.length):Nat):Int)) qO]
 refine ZcD (d:=19) (t:=107) (e:=141) (k:=.u64) (kl:=.i64) (kc:=.i64) (l:=.tmp 18) (c:=.tmp 18) (xs.length+(ys.length)) 8 qO qD fun h C _=>?_
 refine xr 1 [eS1 0 A xs.length c,eS1 1 n ys.length c2,eS1 4 none 0 0,eS1 5 (yL h) (xs.length+(ys.length)) (xs.length+(ys.length))] [] ?_
 refine yZ (zC (yY (xq 3 [eS1 20 A xs.length c,yJ 21 ((xs.length:Nat):Int),yJ 22 0] [] ?_)))
 refine yZ (zP ?_)
 refine yC [eS1 1 n ys.length c2,eS1 4 none 0 0,eS1 5 (yL h) (xs.length+(ys.length)) (xs.length+(ys.length)),eS1 20 A xs.length c,yJ 21 ((xs.length:Nat):Int),yJ 22 ((0:Nat):Int)] [] (fun w=>(Box (fun j=>h≤j) w (fun w=>(zD .u64 w A (xs)∧zD .u64 w n (ys)))∧Own .u64 141 w h ((List.replicate (xs.length+(ys.length)) 0)))) (fun w Q=>⟨Q.1,Q.2⟩) ?_
 refine xU (fun J K L=>∃ (i:Nat) (I:List Nat),K=ofL [eS1 1 n ys.length c2,eS1 4 none 0 0,eS1 5 (yL h) (xs.length+(ys.length)) (xs.length+(ys.length)),eS1 20 A xs.length c,yJ 21 ((xs.length:Nat):Int),yJ 22 (i:Int)] []∧L=(fun w=>(Box (fun j=>h≤j) w (fun w=>(zD .u64 w A (xs)∧zD .u64 w n (ys)))∧Own .u64 141 w h (I)))∧(TimR xs ys i I)∧(i≤xs.length)∧J=(xs.length-i)) ((xs.length-0)) ⟨0,(List.replicate (xs.length+(ys.length)) 0),rfl,rfl,TimR.start xs ys,qO,rfl⟩ ?_
 rintro J K L ⟨i,I,rfl,rfl,E,hi,rfl⟩
 refine yY (xq 1 [yB 23 (decide ((i:Int)<((xs.length:Nat):Int)))] [] ?_)
 refine yZ (zC ?_)
 refine yQ ((decide ((i:Int)<((xs.length:Nat):Int)))) (fun u=>?_) fun u=>?_
 ·have F:=uB u
  have U:=E.1
  refine zI (zA (zC (zP (yY (xq 1 [yJ 24 (i:Int)] [] ?_)))))
  refine xqk 25 (atA A i) (fun w R Q=>wL (t:=107) (e:=141) (x:=.tmp 20) (ix:=.tmp 22) (len:=xs.length) (cap:=c) (i:=i) (((Q.1).self.1).ne (j:=i) qO) qO) ?_
  obtain⟨f,q⟩:=yE (xs[i]?.getD 0)
  refine xqk 26 (yX (f:Int)) (fun w R Q=>by rw[←q];exact lG (t:=141) (x:=.tmp 25) ((Q.1).self.1) (j:=i) qO) ?_
  refine xq 2 [yJ 6 (i:Int),yU 7 (f:Int)] [] ?_
  refine yZ (yY (xq 1 [yU 8 0] [] ?_))
  refine yZ (zC (yY (xq 3 [eS1 27 n ys.length c2,yJ 28 ((ys.length:Nat):Int),yJ 29 0] [] ?_)))
  refine yZ (zP ?_)
  refine yC [eS1 1 n ys.length c2,eS1 4 none 0 0,eS1 5 (yL h) (xs.length+(ys.length)) (xs.length+(ys.length)),yJ 6 (i:Int),yU 7 (f:Int),yU 8 ((0:Nat):Int),eS1 20 A xs.length c,yJ 21 ((xs.length:Nat):Int),yJ 22 (i:Int),eS1 27 n ys.length c2,yJ 28 ((ys.length:Nat):Int),yJ 29 ((0:Nat):Int)] [] (fun w=>(Box (fun j=>h≤j) w (fun w=>(zD .u64 w A (xs)∧zD .u64 w n (ys)))∧Own .u64 141 w h (I))) (fun w Q=>⟨Q.1,Q.2⟩) ?_
  refine xU (fun J K L=>∃ (p k:Nat) (B:List Nat),K=ofL [eS1 1 n ys.length c2,eS1 4 none 0 0,eS1 5 (yL h) (xs.length+(ys.length)) (xs.length+(ys.length)),yJ 6 (i:Int),yU 7 (f:Int),yU 8 (p:Int),eS1 20 A xs.length c,yJ 21 ((xs.length:Nat):Int),yJ 22 (i:Int),eS1 27 n ys.length c2,yJ 28 ((ys.length:Nat):Int),yJ 29 (k:Int)] []∧L=(fun w=>(Box (fun j=>h≤j) w (fun w=>(zD .u64 w A (xs)∧zD .u64 w n (ys)))∧Own .u64 141 w h (B)))∧(TimI I ys f i k B p)∧(k≤ys.length)∧J=(ys.length-k)) ((ys.length-0)) ⟨0,0,I,rfl,rfl,TimI.start ys f i E.2.1,qO,rfl⟩ ?_
  rintro J K L ⟨p,k,B,rfl,rfl,D,hk,rfl⟩
  refine yY (xq 1 [yB 30 (decide ((k:Int)<((ys.length:Nat):Int)))] [] ?_)
  refine yZ (zC ?_)
  refine yQ ((decide ((k:Int)<((ys.length:Nat):Int)))) (fun z=>?_) fun z=>?_
  ·have G:=uB z
   have V:=D.1
   have H:=D.2.2.1
   refine zI (zA (zC (zP (yY (xq 1 [yJ 31 (k:Int)] [] ?_)))))
   refine xqk 32 (atA n k) (fun w R Q=>wL (t:=107) (e:=141) (x:=.tmp 27) (ix:=.tmp 29) (len:=ys.length) (cap:=c2) (i:=k) (((Q.1).self.2).ne (j:=k) qO) qO) ?_
   obtain⟨g,r⟩:=yE (ys[k]?.getD 0)
   refine xqk 33 (yX (g:Int)) (fun w R Q=>by rw[←r];exact lG (t:=141) (x:=.tmp 32) ((Q.1).self.2) (j:=k) qO) ?_
   refine xq 2 [yJ 9 (k:Int),yU 10 (g:Int)] [] ?_
   refine yZ (yY (xq 2 [yU 35 (f:Int),yU 36 (g:Int)] [] ?_))
   refine xqc 161 [yX (f:Int), yX (g:Int)] 37 (fun _:Unit=>.tuple #[yX ((wJ f g:Nat):Int), yX ((xA f g:Nat):Int)]) _ (fun w R Q=>yN (ZdN f g _ (by rw[←q];exact S.getD zJ _) (by rw[←r];exact T.getD zJ _))) fun xx=>?_
   refine xq 5 [yU 11 ((wJ f g:Nat):Int),yU 12 ((xA f g:Nat):Int)] [] ?_
   refine yZ (yY (xq 5 [yU 41 ((xA f g:Nat):Int),eS1 42 (yL h) (xs.length+(ys.length)) (xs.length+(ys.length)),yJ 45 (IntKind.i64.wrap ((i:Int)+(k:Int)))] [] ?_))
   rw[yW ((i:Int)+(k:Int)) (((i+k:Nat):Int)) qO]
   refine xqk 46 (.pointer (some ⟨h,i+k,none⟩)) (fun w R Q=>kI (t:=107) (e:=141) (x:=.tmp 42) (ix:=.tmp 45) (len:=(xs.length+(ys.length))) (cap:=(xs.length+(ys.length))) (i:=i+k) qO) ?_
   obtain⟨m,s⟩:=yE (B[i+k]?.getD 0)
   refine xqk 47 (yX (m:Int)) (fun w R Q=>by rw[←s];exact gP (t:=141) (x:=.tmp 46) (Q.1.2) (j:=i+k) qO) ?_
   refine xqk 48 (.tuple #[yX ((xE (xA f g) m 0:Nat):Int), yX ((xL (xA f g) m 0:Nat):Int)]) (fun w R Q=>fQ (args:=[Operand.tmp 41,Operand.tmp 47,Operand.const (Value.int IntKind.u64 0)]) (ts:=#[141,141,141]) (gT (xA f g) m 0 qO w)) ?_
   refine xq 5 [yU 12 ((xE (xA f g) m 0:Nat):Int),yU 13 ((xL (xA f g) m 0:Nat):Int)] [] ?_
   refine yZ (yY (xq 3 [(53,.v (yX (IntKind.u64.wrap (((wJ f g:Nat):Int)+((xL (xA f g) m 0:Nat):Int)))))] [] ?_))
   rw[ZfY (a:=wJ f g) (b:=xL (xA f g) m 0) (ZrV (by rw[←s];exact D.2.1.getD zJ _) (by rw[←q];exact S.getD zJ _) (by rw[←r];exact T.getD zJ _) H)]
   refine xq 1 [yU 11 ((wJ f g+xL (xA f g) m 0:Nat):Int)] [] ?_
   refine yZ (yY (xq 4 [eS1 55 (yL h) (xs.length+(ys.length)) (xs.length+(ys.length)),yJ 58 (IntKind.i64.wrap ((i:Int)+(k:Int)))] [] ?_))
   rw[yW ((i:Int)+(k:Int)) (((i+k:Nat):Int)) qO]
   refine xq 2 [yU 59 ((xE (xA f g) m 0:Nat):Int),yU 60 (p:Int)] [] ?_
   refine xqk 61 (.tuple #[yX ((xE (xE (xA f g) m 0) p 0:Nat):Int), yX ((xL (xE (xA f g) m 0) p 0:Nat):Int)]) (fun w R Q=>fQ (args:=[Operand.tmp 59,Operand.tmp 60,Operand.const (Value.int IntKind.u64 0)]) (ts:=#[141,141,141]) (gT (xE (xA f g) m 0) p 0 qO w)) ?_
   refine xq 3 [yU 62 ((xE (xE (xA f g) m 0) p 0:Nat):Int),yU 63 ((xL (xE (xA f g) m 0) p 0:Nat):Int)] [] ?_
   refine xqk 64 (.pointer (some ⟨h,i+k,none⟩)) (fun w R Q=>kI (t:=107) (e:=141) (x:=.tmp 55) (ix:=.tmp 58) (len:=(xs.length+(ys.length))) (cap:=(xs.length+(ys.length))) (i:=i+k) qO) ?_
   refine jX (t:=141) (x:=.tmp 64) (y:=.tmp 62) h (i+k) (xE (xE (xA f g) m 0) p 0) (fun w=>((Box (fun j=>h≤j) w (fun w=>(zD .u64 w A (xs)∧zD .u64 w n (ys)))∧Own .u64 141 w h ((B).set (i+k) (xE (xE (xA f g) m 0) p 0)))∧True)) (fun w Q=>Q.1.2) qO (Or.inl C) (fun w w' Q W X=>⟨⟨((Q.1.1).fr (W.mono (fun _ _ e=>by rw[e];exact uH _))),X⟩,trivial⟩) ?_
   refine xr 1 [eS1 1 n ys.length c2,eS1 4 none 0 0,eS1 5 (yL h) (xs.length+(ys.length)) (xs.length+(ys.length)),yJ 6 (i:Int),yU 7 (f:Int),yU 8 (p:Int),yU 11 ((wJ f g+xL (xA f g) m 0:Nat):Int),yU 13 ((xL (xE (xA f g) m 0) p 0:Nat):Int),eS1 20 A xs.length c,yJ 21 ((xs.length:Nat):Int),yJ 22 (i:Int),eS1 27 n ys.length c2,yJ 28 ((ys.length:Nat):Int),yJ 29 (k:Int)] [] ?_
   refine yZ (zB (xq 3 [(67,.v (yX (IntKind.u64.wrap (((wJ f g+xL (xA f g) m 0:Nat):Int)+((xL (xE (xA f g) m 0) p 0:Nat):Int)))))] [] ?_))
   rw[ZfY (a:=wJ f g+xL (xA f g) m 0) (b:=xL (xE (xA f g) m 0) p 0) (Ziy (by rw[←s];exact D.2.1.getD zJ _) (by rw[←q];exact S.getD zJ _) (by rw[←r];exact T.getD zJ _) H)]
   refine xq 1 [yU 8 ((wJ f g+xL (xA f g) m 0+xL (xE (xA f g) m 0) p 0:Nat):Int)] [] ?_
   refine xe (xR (zA (zB (xq 1 [yJ 68 (IntKind.i64.wrap ((k:Int)+1))] [] ?_))))
   rw[yW ((k:Int)+1) (((k+1:Nat):Int)) qO]
   refine xq 1 [yJ 29 ((k+1:Nat):Int)] [] ?_
   refine xe ?_
   refine yP [eS1 1 n ys.length c2,eS1 4 none 0 0,eS1 5 (yL h) (xs.length+(ys.length)) (xs.length+(ys.length)),yJ 6 (i:Int),yU 7 (f:Int),(8,.v (yX (((wJ f g+xL (xA f g) m 0+xL (xE (xA f g) m 0) p 0):Nat):Int))),eS1 20 A xs.length c,yJ 21 ((xs.length:Nat):Int),yJ 22 (i:Int),eS1 27 n ys.length c2,yJ 28 ((ys.length:Nat):Int),yJ 29 (((k+1):Nat):Int)] [] (fun w=>(Box (fun j=>h≤j) w (fun w=>(zD .u64 w A (xs)∧zD .u64 w n (ys)))∧Own .u64 141 w h (((B).set (i+k) (xE (xE (xA f g) m 0) p 0))))) (fun w Q=>⟨Q.1.1,Q.1.2⟩) ?_
   have Y:=D.step (k:=k) qO s r T (by rw[←q];exact S.getD zJ _)
   exact xG ((ys.length-(k+1))) qO ⟨(wJ f g+xL (xA f g) m 0+xL (xE (xA f g) m 0) p 0),(k+1),((B).set (i+k) (xE (xE (xA f g) m 0) p 0)),rfl,rfl,Y,qO,rfl⟩
  have G:=uD z
  have V:=D.1
  have H:=D.2.2.1
  obtain rfl:k=ys.length:=qO
  refine xO (zH (zH (xY (zA (zB (xq 5 [eS1 69 (yL h) (xs.length+(ys.length)) (xs.length+(ys.length)),yJ 73 (IntKind.i64.wrap ((i:Int)+((ys.length:Nat):Int)))] [] ?_))))))
  rw[yW ((i:Int)+((ys.length:Nat):Int)) (((i+(ys.length):Nat):Int)) qO]
  refine xq 1 [yU 74 (p:Int)] [] ?_
  refine xqk 75 (.pointer (some ⟨h,i+(ys.length),none⟩)) (fun w R Q=>kI (t:=107) (e:=141) (x:=.tmp 69) (ix:=.tmp 73) (len:=(xs.length+(ys.length))) (cap:=(xs.length+(ys.length))) (i:=i+(ys.length)) qO) ?_
  refine jX (t:=141) (x:=.tmp 75) (y:=.tmp 74) h (i+(ys.length)) (p) (fun w=>(Box (fun j=>h≤j) w (fun w=>(zD .u64 w A (xs)∧zD .u64 w n (ys)))∧Own .u64 141 w h ((B).set (i+(ys.length)) (p)))) (fun w Q=>Q.2) qO (Or.inl C) (fun w w' Q W X=>⟨((Q.1).fr (W.mono (fun _ _ e=>by rw[e];exact uH _))),X⟩) ?_
  refine xe (xR (zA (zB (xq 1 [yJ 76 (IntKind.i64.wrap ((i:Int)+1))] [] ?_))))
  rw[yW ((i:Int)+1) (((i+1:Nat):Int)) qO]
  refine xq 1 [yJ 22 ((i+1:Nat):Int)] [] ?_
  refine xe ?_
  refine yP [eS1 1 n ys.length c2,eS1 4 none 0 0,eS1 5 (yL h) (xs.length+(ys.length)) (xs.length+(ys.length)),eS1 20 A xs.length c,yJ 21 ((xs.length:Nat):Int),yJ 22 (((i+1):Nat):Int)] [] (fun w=>(Box (fun j=>h≤j) w (fun w=>(zD .u64 w A (xs)∧zD .u64 w n (ys)))∧Own .u64 141 w h (((B).set (i+(ys.length)) (p))))) (fun w Q=>⟨Q.1,Q.2⟩) ?_
  have Y:=E.step (i:=i) qO q D
  exact xG ((xs.length-(i+1))) qO ⟨(i+1),((B).set (i+(ys.length)) (p)),rfl,rfl,Y,qO,rfl⟩
 have F:=uD u
 have U:=E.1
 obtain rfl:i=xs.length:=qO
 refine xO (zH (zH (xY (zA (yY (xq 1 [eS1 77 (yL h) (xs.length+(ys.length)) (xs.length+(ys.length))] [] ?_))))))
 refine xqc 144 [.slice (yL h) (xs.length+(ys.length)) (xs.length+(ys.length))] 78 xI _ (fun w R Q=>yM xC (Zal Q.2 E.2.1 E.1 E.done qO)) fun⟨M,N,O⟩=>?_
 refine xq 1 [eS1 4 M N O] [] ?_
 refine yZ (zG ?_)
 refine yR (.slice M N O) fun w' R Q=>?_
 exact⟨_,rfl,Q.2,R⟩
theorem Zp3 (A:qA)(xs:qN)(c k:Nat)(w:World)(T:zF w (.slice A xs.length c) (val W64 xs))(U:zD .u64 w A xs)(X:xs.length≤4294967296)(V:Dig W64 xs)(Y:k≤274877906944) :
 yA 101 #[.slice A xs.length c,.int .i64 ((k:Nat):Int)] w (lA w (val W64 xs*2^k)):=by
 refine zQ (Φ:=fun w=>(zF w (.slice A xs.length c) (val W64 xs)∧zD .u64 w A xs)) func101 rfl qK (fun w' L=>⟨T.ext L,U.ext L⟩) ?_
 refine yY (xq 1 [eS1 4 none 0 0] [] ?_)
 refine yZ (zC (yY (xq 4 [yB 13 ((((xs.length:Nat):Int):Int) == 0)] [] ?_)))
 rcases bl2 (((((xs.length:Nat):Int):Int) == 0)) with h|h
 ·rw[h]
  have C:=sN.1 h
  refine xq 3 [yB 16 true] [] ?_
  refine yZ (xa (yY (xq 2 [eS1 4 A xs.length c] [] ?_)))
  refine yZ (zG (zM ?_))
  refine yR (.slice A xs.length c) fun w' R Q=>?_
  exact⟨_,rfl,(by obtain rfl:xs=[]:=vY.1 qO;rw[eJ,tY];exact Q.1),R⟩
 rw[h]
 have C:=lJ h
 refine xq 3 [yB 16 (((k:Int):Int) == 0)] [] ?_
 refine xe (zA ?_)
 refine yQ ((((k:Int):Int) == 0)) (fun q=>?_) fun q=>?_
 ·have D:=sN.1 q
  refine yY (xq 2 [eS1 4 A xs.length c] [] ?_)
  refine yZ (zG (zM ?_))
  refine yR (.slice A xs.length c) fun w' R Q=>?_
  exact⟨_,rfl,(by obtain rfl:k=0:=qO;rw[vV,tU];exact Q.1),R⟩
 have D:=lJ q
 refine zI (zA (yY (xq 2 [(19,.v (yI (IntKind.i64.wrap (((k:Int)).tdiv 64))))] [] ?_)))
 rw[show IntKind.i64.wrap ((((k:Int)).tdiv 64))=((k/64:Nat):Int) from tdq (k) 64 qO]
 refine xq 2 [yJ 21 (((k:Int)).tmod 64)] [] ?_
 rw[show ((k:Int)).tmod 64=((k%64:Nat):Int) from tdr (k) 64]
 refine xq 1 [yU 22 (IntKind.u64.wrap (((k%64:Nat):Int)))] [] ?_
 rw[show IntKind.u64.wrap (((k%64:Nat):Int))=((k%64:Nat):Int) by rw[IntKind.wrap_u64];omega]
 refine xq 2 [yJ 5 ((k/64:Nat):Int),yU 6 ((k%64:Nat):Int)] [] ?_
 refine yZ (yY (xq 4 [yJ 26 (IntKind.i64.wrap (((xs.length:Nat):Int)+((k/64:Nat):Int)))] [] ?_))
 rw[yW (((xs.length:Nat):Int)+((k/64:Nat):Int)) (((xs.length+(k/64):Nat):Int)) qO]
 refine xq 1 [(27,.v (yI (IntKind.i64.wrap (((xs.length+(k/64):Nat):Int)+1))))] [] ?_
 rw[show IntKind.i64.wrap ((((xs.length+(k/64):Nat):Int)+1))=((xs.length+(k/64)+1:Nat):Int) by rw[IntKind.wrap_i64];omega]
 refine ZcD (d:=28) (t:=107) (e:=141) (k:=.u64) (kl:=.i64) (kc:=.i64) (l:=.tmp 27) (c:=.tmp 27) (xs.length+(k/64)+1) 8 qO qD fun f u _=>?_
 refine xr 1 [eS1 0 A xs.length c,eS1 4 none 0 0,yJ 5 ((k/64:Nat):Int),yU 6 ((k%64:Nat):Int),eS1 7 (yL f) (xs.length+(k/64)+1) (xs.length+(k/64)+1)] [] ?_
 refine yZ (zC (yY (xq 3 [eS1 29 A xs.length c,yJ 30 ((xs.length:Nat):Int),yJ 31 0] [] ?_)))
 refine yZ (zP ?_)
 refine yC [eS1 4 none 0 0,yJ 5 ((k/64:Nat):Int),yU 6 ((k%64:Nat):Int),eS1 7 (yL f) (xs.length+(k/64)+1) (xs.length+(k/64)+1),eS1 29 A xs.length c,yJ 30 ((xs.length:Nat):Int),yJ 31 ((0:Nat):Int)] [] (fun w=>(Box (fun j=>f≤j) w (fun w=>(zF w (.slice A xs.length c) (val W64 xs)∧zD .u64 w A (xs)))∧Own .u64 141 w f ((List.replicate (xs.length+(k/64)+1) 0)))) (fun w Q=>⟨Q.1,Q.2⟩) ?_
 refine xU (fun M N O=>∃ (i:Nat) (z:List Nat),N=ofL [eS1 4 none 0 0,yJ 5 ((k/64:Nat):Int),yU 6 ((k%64:Nat):Int),eS1 7 (yL f) (xs.length+(k/64)+1) (xs.length+(k/64)+1),eS1 29 A xs.length c,yJ 30 ((xs.length:Nat):Int),yJ 31 (i:Int)] []∧O=(fun w=>(Box (fun j=>f≤j) w (fun w=>(zF w (.slice A xs.length c) (val W64 xs)∧zD .u64 w A (xs)))∧Own .u64 141 w f (z)))∧(dB xs (k/64) (k%64) i z)∧(i≤xs.length)∧M=(xs.length-i)) ((xs.length-0)) ⟨0,(List.replicate (xs.length+(k/64)+1) 0),rfl,rfl,dB.start xs (k/64) (k%64),qO,rfl⟩ ?_
 rintro M N O ⟨i,z,rfl,rfl,B,hi,rfl⟩
 refine yY (xq 1 [yB 32 (decide ((i:Int)<((xs.length:Nat):Int)))] [] ?_)
 refine yZ (zC ?_)
 refine yQ ((decide ((i:Int)<((xs.length:Nat):Int)))) (fun r=>?_) fun r=>?_
 ·have E:=uB r
  have I:=B.1
  refine zI (zA (zC (zP (yY (xq 1 [yJ 33 (i:Int)] [] ?_)))))
  refine xqk 34 (atA A i) (fun w R Q=>wL (t:=107) (e:=141) (x:=.tmp 29) (ix:=.tmp 31) (len:=xs.length) (cap:=c) (i:=i) (((Q.1).self.2).ne (j:=i) qO) qO) ?_
  obtain⟨g,s⟩:=yE (xs[i]?.getD 0)
  refine xqk 35 (yX (g:Int)) (fun w R Q=>by rw[←s];exact lG (t:=141) (x:=.tmp 34) ((Q.1).self.2) (j:=i) qO) ?_
  refine xq 2 [yJ 8 (i:Int),yU 9 (g:Int)] [] ?_
  refine yZ (yY (xq 4 [eS1 36 (yL f) (xs.length+(k/64)+1) (xs.length+(k/64)+1),yJ 39 (IntKind.i64.wrap ((i:Int)+((k/64:Nat):Int)))] [] ?_))
  rw[yW ((i:Int)+((k/64:Nat):Int)) (((i+(k/64):Nat):Int)) qO]
  refine xqk 40 (.pointer (some ⟨f,i+(k/64),none⟩)) (fun w R Q=>kI (t:=107) (e:=141) (x:=.tmp 36) (ix:=.tmp 39) (len:=(xs.length+(k/64)+1)) (cap:=(xs.length+(k/64)+1)) (i:=i+(k/64)) qO) ?_
  obtain⟨m,p⟩:=yE (z[i+(k/64)]?.getD 0)
  refine xqk 41 (yX (m:Int)) (fun w R Q=>by rw[←p];exact gP (t:=141) (x:=.tmp 40) (Q.2) (j:=i+(k/64)) qO) ?_
  refine xq 2 [yU 42 (g:Int),yU 43 ((k%64:Nat):Int)] [] ?_
  refine xqk 44 (yX ((g*2^(k%64)%W64:Nat):Int)) (fun w R Q=>ZmG (t:=141) (x:=.tmp 42) (y:=.tmp 43) (k:=135) (ky:=.u64) (a:=g) (n:=(k%64)) qO) ?_
  have W:=B.step (k:=i) qO qO p s (by rw[←s];exact V.getD zJ _)
  refine xqk 45 (yX ((m+g*2^(k%64)%W64:Nat):Int)) (fun w R Q=>Zpw (t:=141) (x:=.tmp 41) (y:=.tmp 44) (k:=141) (a:=m) (b:=(g*2^(k%64)%W64)) (by rw[←p];exact B.2.1.getD zJ _) (uM _ zJ) (Zmi (by rw[←p];exact B.2.2.2) qO)) ?_
  refine xqk 46 (.pointer (some ⟨f,i+(k/64),none⟩)) (fun w R Q=>kI (t:=107) (e:=141) (x:=.tmp 36) (ix:=.tmp 39) (len:=(xs.length+(k/64)+1)) (cap:=(xs.length+(k/64)+1)) (i:=i+(k/64)) qO) ?_
  refine jX (t:=141) (x:=.tmp 46) (y:=.tmp 45) f (i+(k/64)) (m+g*2^(k%64)%W64) (fun w=>(Box (fun j=>f≤j) w (fun w=>(zF w (.slice A xs.length c) (val W64 xs)∧zD .u64 w A (xs)))∧Own .u64 141 w f ((z).set (i+(k/64)) (m+g*2^(k%64)%W64)))) (fun w Q=>Q.2) qO (Or.inl u) (fun w w' Q J K=>⟨((Q.1).fr (J.mono (fun _ _ e=>by rw[e];exact uH _))),K⟩) ?_
  refine yZ (zB (xq 4 [eS1 47 (yL f) (xs.length+(k/64)+1) (xs.length+(k/64)+1),yJ 50 (IntKind.i64.wrap ((i:Int)+((k/64:Nat):Int)))] [] ?_))
  rw[yW ((i:Int)+((k/64:Nat):Int)) (((i+(k/64):Nat):Int)) qO]
  refine xq 1 [(51,.v (yI (IntKind.i64.wrap (((i+(k/64):Nat):Int)+1))))] [] ?_
  rw[show IntKind.i64.wrap ((((i+(k/64):Nat):Int)+1))=((i+(k/64)+1:Nat):Int) by rw[IntKind.wrap_i64];omega]
  refine xq 3 [yU 52 (g:Int),yU 54 (IntKind.u64.wrap (64-((k%64:Nat):Int)))] [] ?_
  rw[show IntKind.u64.wrap ((64-((k%64:Nat):Int)))=((64-(k%64):Nat):Int) by rw[IntKind.wrap_u64];have:=zL;omega]
  refine xqk 55 (yX ((g/2^(64-(k%64)):Nat):Int)) (fun w R Q=>Zix (t:=141) (x:=.tmp 52) (y:=.tmp 54) (k:=135) (ky:=.u64) (a:=g) (n:=(64-(k%64))) qO) ?_
  refine xqk 56 (.pointer (some ⟨f,i+(k/64)+1,none⟩)) (fun w R Q=>kI (t:=107) (e:=141) (x:=.tmp 47) (ix:=.tmp 51) (len:=(xs.length+(k/64)+1)) (cap:=(xs.length+(k/64)+1)) (i:=i+(k/64)+1) qO) ?_
  refine jX (t:=141) (x:=.tmp 56) (y:=.tmp 55) f (i+(k/64)+1) (g/2^(64-(k%64))) (fun w=>(Box (fun j=>f≤j) w (fun w=>(zF w (.slice A xs.length c) (val W64 xs)∧zD .u64 w A (xs)))∧Own .u64 141 w f (((z).set (i+(k/64)) (m+g*2^(k%64)%W64)).set (i+(k/64)+1) (g/2^(64-(k%64)))))) (fun w Q=>Q.2) (by simp only[tA];omega) (Or.inl u) (fun w w' Q J K=>⟨((Q.1).fr (J.mono (fun _ _ e=>by rw[e];exact uH _))),K⟩) ?_
  refine xe (xR (zA (zB (xq 1 [yJ 57 (IntKind.i64.wrap ((i:Int)+1))] [] ?_))))
  rw[yW ((i:Int)+1) (((i+1:Nat):Int)) qO]
  refine xq 1 [yJ 31 ((i+1:Nat):Int)] [] ?_
  refine xe ?_
  refine yP [eS1 4 none 0 0,yJ 5 ((k/64:Nat):Int),yU 6 ((k%64:Nat):Int),eS1 7 (yL f) (xs.length+(k/64)+1) (xs.length+(k/64)+1),eS1 29 A xs.length c,yJ 30 ((xs.length:Nat):Int),yJ 31 (((i+1):Nat):Int)] [] (fun w=>(Box (fun j=>f≤j) w (fun w=>(zF w (.slice A xs.length c) (val W64 xs)∧zD .u64 w A (xs)))∧Own .u64 141 w f ((((z).set (i+(k/64)) (m+g*2^(k%64)%W64)).set (i+(k/64)+1) (g/2^(64-(k%64))))))) (fun w Q=>⟨Q.1,Q.2⟩) ?_
  exact xG ((xs.length-(i+1))) qO ⟨(i+1),(((z).set (i+(k/64)) (m+g*2^(k%64)%W64)).set (i+(k/64)+1) (g/2^(64-(k%64)))),rfl,rfl,W.1,qO,rfl⟩
 have E:=uD r
 have I:=B.1
 obtain rfl:i=xs.length:=qO
 have S:=B.done
 rw[show 64*(k/64)+k%64=k by omega] at S
 refine xO (zH (zH (xY (zA (yY (xq 1 [eS1 58 (yL f) (xs.length+(k/64)+1) (xs.length+(k/64)+1)] [] ?_))))))
 refine xqc 144 [.slice (yL f) (xs.length+(k/64)+1) (xs.length+(k/64)+1)] 59 xI _ (fun w R Q=>yM xC (Zal Q.2 B.2.1 B.1 S qO)) fun⟨F,G,H⟩=>?_
 refine xq 1 [eS1 4 F G H] [] ?_
 refine yZ (zG ?_)
 refine yR (.slice F G H) fun w' R Q=>?_
 exact⟨_,rfl,Q.2,R⟩
theorem ZmI (A:qA)(xs:qN)(c k:Nat)(w:World)(Y:zF w (.slice A xs.length c) (val W64 xs))(Z:zD .u64 w A xs)(hl:xs.length≤4294967296)(H:Dig W64 xs)(hk:k≤274877906944) :
 yA 140 #[.slice A xs.length c,.int .i64 ((k:Nat):Int)] w (lA w (val W64 xs/2^k)):=by
 refine zQ (Φ:=fun w=>(zF w (.slice A xs.length c) (val W64 xs)∧zD .u64 w A xs)) func140 rfl qK (fun w' U=>⟨Y.ext U,Z.ext U⟩) ?_
 refine yY (xq 1 [eS1 4 none 0 0] [] ?_)
 refine yZ (yY (xq 2 [(10,.v (yI (IntKind.i64.wrap (((k:Int)).tdiv 64))))] [] ?_))
 rw[show IntKind.i64.wrap ((((k:Int)).tdiv 64))=((k/64:Nat):Int) from tdq (k) 64 qO]
 refine xq 2 [yJ 12 (((k:Int)).tmod 64)] [] ?_
 rw[show ((k:Int)).tmod 64=((k%64:Nat):Int) from tdr (k) 64]
 refine xq 1 [yU 13 (IntKind.u64.wrap (((k%64:Nat):Int)))] [] ?_
 rw[show IntKind.u64.wrap (((k%64:Nat):Int))=((k%64:Nat):Int) by rw[IntKind.wrap_u64];omega]
 refine xq 2 [yJ 5 ((k/64:Nat):Int),yU 6 ((k%64:Nat):Int)] [] ?_
 refine yZ (zC (yY (xq 4 [yB 17 (decide (((k/64:Nat):Int)≥((xs.length:Nat):Int)))] [] ?_)))
 refine xe (zA ?_)
 refine yQ ((decide (((k/64:Nat):Int)≥((xs.length:Nat):Int)))) (fun q=>?_) fun q=>?_
 ·have D:=uB q
  refine yY (xq 1 [eS1 4 none 0 0] [] ?_)
  refine yZ (zG (zM ?_))
  refine yR (.slice none 0 0) fun w' R Q=>?_
  exact⟨_,rfl,by rw[Ze1 H qO];exact zF.zero _,R⟩
 have D:=uD q
 refine zI (zA (zC (yY (xq 2 [yB 19 (((k:Int):Int) == 0)] [] ?_))))
 refine xe (zA ?_)
 refine yQ ((((k:Int):Int) == 0)) (fun r=>?_) fun r=>?_
 ·have E:=sN.1 r
  refine yY (xq 2 [eS1 4 A xs.length c] [] ?_)
  refine yZ (zG (zM ?_))
  refine yR (.slice A xs.length c) fun w' R Q=>?_
  exact⟨_,rfl,by obtain rfl:k=0:=qO;rw[vV,rM];exact Q.1,R⟩
 have E:=lJ r
 refine zI (zA (yY (xq 4 [yJ 24 (IntKind.i64.wrap (((xs.length:Nat):Int)-((k/64:Nat):Int)))] [] ?_)))
 rw[yW (((xs.length:Nat):Int)-((k/64:Nat):Int)) (((xs.length-(k/64):Nat):Int)) qO]
 refine ZcD (d:=25) (t:=107) (e:=141) (k:=.u64) (kl:=.i64) (kc:=.i64) (l:=.tmp 24) (c:=.tmp 24) (xs.length-(k/64)) 8 qO qD fun f z _=>?_
 refine xr 1 [eS1 0 A xs.length c,eS1 4 none 0 0,yJ 5 ((k/64:Nat):Int),yU 6 ((k%64:Nat):Int),eS1 7 (yL f) (xs.length-(k/64)) (xs.length-(k/64))] [] ?_
 refine yZ (zC (yY (xq 3 [yJ 27 ((xs.length-(k/64):Nat):Int),yJ 28 0] [] ?_)))
 refine yZ (zP ?_)
 refine yC [eS1 0 A xs.length c,eS1 4 none 0 0,yJ 5 ((k/64:Nat):Int),yU 6 ((k%64:Nat):Int),eS1 7 (yL f) (xs.length-(k/64)) (xs.length-(k/64)),yJ 27 ((xs.length-(k/64):Nat):Int),yJ 28 ((0:Nat):Int)] [] (fun w=>(Box (fun j=>f≤j) w (fun w=>(zF w (.slice A xs.length c) (val W64 xs)∧zD .u64 w A (xs)))∧Own .u64 141 w f ((List.replicate (xs.length-(k/64)) 0)))) (fun w Q=>⟨Q.1,Q.2⟩) ?_
 refine xU (fun V W X=>∃ (i:Nat) (p:List Nat),W=ofL [eS1 0 A xs.length c,eS1 4 none 0 0,yJ 5 ((k/64:Nat):Int),yU 6 ((k%64:Nat):Int),eS1 7 (yL f) (xs.length-(k/64)) (xs.length-(k/64)),yJ 27 ((xs.length-(k/64):Nat):Int),yJ 28 (i:Int)] []∧X=(fun w=>(Box (fun j=>f≤j) w (fun w=>(zF w (.slice A xs.length c) (val W64 xs)∧zD .u64 w A (xs)))∧Own .u64 141 w f (p)))∧(dC (xs.drop (k/64)) (k%64) i p)∧(i≤xs.length-k/64)∧V=(xs.length-k/64-i)) ((xs.length-k/64-0)) ⟨0,(List.replicate (xs.length-(k/64)) 0),rfl,rfl,(by have:=dC.start (xs.drop (k/64)) (k%64);rwa [tN] at this),qO,rfl⟩ ?_
 rintro V W X ⟨i,p,rfl,rfl,I,hi,rfl⟩
 refine yY (xq 1 [(29,.v (.bool (decide ((i:Int)<((xs.length-(k/64):Nat):Int)))))] [] ?_)
 refine yZ (zC ?_)
 refine yQ ((decide ((i:Int)<((xs.length-(k/64):Nat):Int)))) (fun s=>?_) fun s=>?_
 ·have F:=uB s
  have J:p.length=xs.length-k/64:=by rw[I.1,tN]
  refine zI (zA (zC (zP (yY (xq 2 [yJ 8 (i:Int)] [] ?_)))))
  refine yZ (yY (xq 6 [eS1 31 (yL f) (xs.length-(k/64)) (xs.length-(k/64)),yJ 32 (i:Int),eS1 33 A xs.length c,yJ 36 (IntKind.i64.wrap ((i:Int)+((k/64:Nat):Int)))] [] ?_))
  rw[yW ((i:Int)+((k/64:Nat):Int)) (((i+(k/64):Nat):Int)) qO]
  refine xqk 37 (atA A (i+(k/64))) (fun w R Q=>wL (t:=107) (e:=141) (x:=.tmp 33) (ix:=.tmp 36) (len:=xs.length) (cap:=c) (i:=i+(k/64)) (((Q.1).self.2).ne (j:=i+(k/64)) qO) qO) ?_
  obtain⟨g,h⟩:=yE (xs[i+(k/64)]?.getD 0)
  refine xqk 38 (yX (g:Int)) (fun w R Q=>by rw[←h];exact lG (t:=141) (x:=.tmp 37) ((Q.1).self.2) (j:=i+(k/64)) qO) ?_
  refine xq 1 [yU 39 ((k%64:Nat):Int)] [] ?_
  refine xqk 40 (yX ((g/2^(k%64):Nat):Int)) (fun w R Q=>Zix (t:=141) (x:=.tmp 38) (y:=.tmp 39) (k:=135) (ky:=.u64) (a:=g) (n:=(k%64)) qO) ?_
  refine xqk 41 (.pointer (some ⟨f,i,none⟩)) (fun w R Q=>kI (t:=107) (e:=141) (x:=.tmp 31) (ix:=.tmp 32) (len:=(xs.length-(k/64))) (cap:=(xs.length-(k/64))) (i:=i) qO) ?_
  refine jX (t:=141) (x:=.tmp 41) (y:=.tmp 40) f (i) (g/2^(k%64)) (fun w=>(Box (fun j=>f≤j) w (fun w=>(zF w (.slice A xs.length c) (val W64 xs)∧zD .u64 w A (xs)))∧Own .u64 141 w f ((p).set (i) (g/2^(k%64))))) (fun w Q=>Q.2) qO (Or.inl z) (fun w w' Q S T=>⟨((Q.1).fr (S.mono (fun _ _ e=>by rw[e];exact uH _))),T⟩) ?_
  refine yZ (yY (xq 3 [yJ 44 (IntKind.i64.wrap ((i:Int)+((k/64:Nat):Int)))] [] ?_))
  rw[yW ((i:Int)+((k/64:Nat):Int)) (((i+(k/64):Nat):Int)) qO]
  refine xq 1 [(45,.v (yI (IntKind.i64.wrap (((i+(k/64):Nat):Int)+1))))] [] ?_
  rw[show IntKind.i64.wrap ((((i+(k/64):Nat):Int)+1))=((i+(k/64)+1:Nat):Int) by rw[IntKind.wrap_i64];omega]
  refine xq 3 [(48,.v (.bool (decide (((i+(k/64)+1:Nat):Int)<((xs.length:Nat):Int)))))] [] ?_
  refine xe (zA ?_)
  refine yQ ((decide (((i+(k/64)+1:Nat):Int)<((xs.length:Nat):Int)))) (fun u=>?_) fun u=>?_
  ·have G:=uB u
   refine aI 16 [0,0,3,7,0,0,0,96,224,496,1008,0,2048,8176,16383,32767] qK qK zO ?_
   refine xqf 2 [eS1 49 (yL f) (xs.length-(k/64)) (xs.length-(k/64)),yJ 50 (i:Int)] [] ?_
   refine xqj 51 (.pointer (some ⟨f,i,none⟩)) (fun w Q=>kI (t:=107) (e:=141) (x:=.tmp 49) (ix:=.tmp 50) (len:=(xs.length-(k/64))) (cap:=(xs.length-(k/64))) (i:=i) qO) ?_
   obtain⟨K,B⟩:=yE (((p).set (i) (g/2^(k%64)))[i]?.getD 0)
   refine xqj 52 (yX (K:Int)) (fun w Q=>by rw[←B];exact gP (t:=141) (x:=.tmp 51) (Q.2) (j:=i) (by simp only[tA];omega)) ?_
   obtain rfl:K=g/2^(k%64):=by rw[←B,tX qO];rfl
   refine xqf 4 [eS1 53 A xs.length c,yJ 56 (IntKind.i64.wrap ((i:Int)+((k/64:Nat):Int)))] [] ?_
   rw[yW ((i:Int)+((k/64:Nat):Int)) (((i+(k/64):Nat):Int)) qO]
   refine xqf 1 [(57,.v (yI (IntKind.i64.wrap (((i+(k/64):Nat):Int)+1))))] [] ?_
   rw[show IntKind.i64.wrap ((((i+(k/64):Nat):Int)+1))=((i+(k/64)+1:Nat):Int) by rw[IntKind.wrap_i64];omega]
   refine xqj 58 (atA A (i+(k/64)+1)) (fun w Q=>wL (t:=107) (e:=141) (x:=.tmp 53) (ix:=.tmp 57) (len:=xs.length) (cap:=c) (i:=i+(k/64)+1) (((Q.1).self.2).ne (j:=i+(k/64)+1) qO) qO) ?_
   obtain⟨m,C⟩:=yE (xs[i+(k/64)+1]?.getD 0)
   refine xqj 59 (yX (m:Int)) (fun w Q=>by rw[←C];exact lG (t:=141) (x:=.tmp 58) ((Q.1).self.2) (j:=i+(k/64)+1) qO) ?_
   refine xqf 2 [yU 61 (IntKind.u64.wrap (64-((k%64:Nat):Int)))] [] ?_
   rw[show IntKind.u64.wrap ((64-((k%64:Nat):Int)))=((64-(k%64):Nat):Int) by rw[IntKind.wrap_u64];have:=zL;omega]
   refine xqj 62 (yX ((m*2^(64-(k%64))%W64:Nat):Int)) (fun w Q=>ZmG (t:=141) (x:=.tmp 59) (y:=.tmp 61) (k:=135) (ky:=.u64) (a:=m) (n:=(64-(k%64))) qO) ?_
   have O:=I.step (k:=i) (x:=g) (y:=m) qO (by rw[tN];omega) (by rw[vJ,vR];exact h) (by rw[vJ,show k/64+(i+1)=i+k/64+1 by omega];exact C) (by rw[←h];exact H.getD zJ _)
   refine xqj 63 (yX ((g/2^(k%64)+m%2^(k%64)*2^(64-k%64):Nat):Int)) (fun w Q=>Zpw (t:=141) (x:=.tmp 52) (y:=.tmp 62) (k:=141) (a:=((g/2^(k%64)))) (b:=(m*2^(64-(k%64))%W64)) (vE (vG _ _) (by rw[←h];exact H.getD zJ _)) (uM _ zJ) (Zmj qO (by rw[←h];exact H.getD zJ _))) ?_
   refine xqj 64 (.pointer (some ⟨f,i,none⟩)) (fun w Q=>kI (t:=107) (e:=141) (x:=.tmp 49) (ix:=.tmp 50) (len:=(xs.length-(k/64))) (cap:=(xs.length-(k/64))) (i:=i) qO) ?_
   refine xz ?_
   refine jX (t:=141) (x:=.tmp 64) (y:=.tmp 63) f (i) (g/2^(k%64)+m%2^(k%64)*2^(64-k%64)) (fun w=>(Box (fun j=>f≤j) w (fun w=>(zF w (.slice A xs.length c) (val W64 xs)∧zD .u64 w A (xs)))∧Own .u64 141 w f (((p).set (i) (g/2^(k%64))).set (i) (g/2^(k%64)+m%2^(k%64)*2^(64-k%64))))) (fun w Q=>Q.2) (by simp only[tA];omega) (Or.inl z) (fun w w' Q S T=>⟨((Q.1).fr (S.mono (fun _ _ e=>by rw[e];exact uH _))),T⟩) ?_
   refine xe (xR (zA (zB (xq 1 [yJ 65 (IntKind.i64.wrap ((i:Int)+1))] [] ?_))))
   rw[yW ((i:Int)+1) (((i+1:Nat):Int)) qO]
   refine xr 1 [eS1 0 A xs.length c,eS1 4 none 0 0,yJ 5 ((k/64:Nat):Int),yU 6 ((k%64:Nat):Int),eS1 7 (yL f) (xs.length-(k/64)) (xs.length-(k/64)),yJ 27 ((xs.length-(k/64):Nat):Int),yJ 28 ((i+1:Nat):Int)] [] ?_
   refine xe ?_
   refine yP [eS1 0 A xs.length c,eS1 4 none 0 0,yJ 5 ((k/64:Nat):Int),yU 6 ((k%64:Nat):Int),eS1 7 (yL f) (xs.length-(k/64)) (xs.length-(k/64)),yJ 27 ((xs.length-(k/64):Nat):Int),yJ 28 (((i+1):Nat):Int)] [] (fun w=>(Box (fun j=>f≤j) w (fun w=>(zF w (.slice A xs.length c) (val W64 xs)∧zD .u64 w A (xs)))∧Own .u64 141 w f ((((p).set (i) (g/2^(k%64))).set (i) (g/2^(k%64)+m%2^(k%64)*2^(64-k%64)))))) (fun w Q=>⟨Q.1,Q.2⟩) ?_
   exact xG ((xs.length-k/64-(i+1))) qO ⟨(i+1),(((p).set (i) (g/2^(k%64))).set (i) (g/2^(k%64)+m%2^(k%64)*2^(64-k%64))),rfl,rfl,(by rw[List.set_set];exact O),qO,rfl⟩
  have G:=uD u
  have O:=I.step (k:=i) (x:=g) (y:=0) qO (by rw[tN];omega) (by rw[vJ,vR];exact h) (by rw[vJ,vP qO];rfl) (by rw[←h];exact H.getD zJ _)
  rw[Nat.zero_mod,tY,tD] at O
  refine zI (xR (zA (zB (xq 1 [yJ 65 (IntKind.i64.wrap ((i:Int)+1))] [] ?_))))
  rw[yW ((i:Int)+1) (((i+1:Nat):Int)) qO]
  refine xq 1 [yJ 28 ((i+1:Nat):Int)] [] ?_
  refine xe ?_
  refine yP [eS1 0 A xs.length c,eS1 4 none 0 0,yJ 5 ((k/64:Nat):Int),yU 6 ((k%64:Nat):Int),eS1 7 (yL f) (xs.length-(k/64)) (xs.length-(k/64)),yJ 27 ((xs.length-(k/64):Nat):Int),yJ 28 (((i+1):Nat):Int)] [] (fun w=>(Box (fun j=>f≤j) w (fun w=>(zF w (.slice A xs.length c) (val W64 xs)∧zD .u64 w A (xs)))∧Own .u64 141 w f (((p).set (i) (g/2^(k%64)))))) (fun w Q=>⟨Q.1,Q.2⟩) ?_
  exact xG ((xs.length-k/64-(i+1))) qO ⟨(i+1),((p).set (i) (g/2^(k%64))),rfl,rfl,O,qO,rfl⟩
 have F:=uD s
 have J:p.length=xs.length-k/64:=by rw[I.1,tN]
 obtain rfl:i=xs.length-k/64:=qO
 have HD:=I
 rw[←tN] at HD
 replace HD:=HD.done
 rw[Zgq xs (k/64) (k%64) H qO,show 64*(k/64)+k%64=k by omega] at HD
 refine xO (zH (zH (xY (zA (yY (xq 1 [eS1 66 (yL f) (xs.length-(k/64)) (xs.length-(k/64))] [] ?_))))))
 refine xqc 144 [.slice (yL f) (xs.length-(k/64)) (xs.length-(k/64))] 67 xI _ (fun w R Q=>yM xC (Zal Q.2 I.2.1 J HD qO)) fun⟨L,M,N⟩=>?_
 refine xq 1 [eS1 4 L M N] [] ?_
 refine yZ (zG ?_)
 refine yR (.slice L M N) fun w' R Q=>?_
 exact⟨_,rfl,Q.2,R⟩
theorem Zbq (neg:Bool)(u:Value)(n:Nat)(w:World)(a:zV w u n):yA 93 #[.bool neg,u] w (kC w (sg neg n)):=by
 refine (jD neg u n w a).mono ?_
 rintro e d ⟨s,rfl,c,b⟩
 exact⟨_,rfl,zZ.signed (a.ext b) c.out,b⟩
theorem zZ.opn {w:World}{s:Bool}{A:qA}{l c:Nat}{z:Int}(h:zZ w (.agg #[.bool s,.slice A l c]) z):zV w (.slice A l c) z.natAbs∧z=sg s z.natAbs∧(z=0→s=false):=by
 obtain⟨f,g,i,j,a,b,d,e⟩:=h.open
 injection a with a
 simp at a
 obtain⟨rfl,rfl,rfl,rfl⟩:=a
 exact⟨b,d,e⟩
theorem zZ.mag {w:World}{s:Bool}{A:qA}{l c:Nat}{z:Int}(h:zZ w (.agg #[.bool s,.slice A l c]) z):zV w (.slice A l c) z.natAbs:=h.opn.1
theorem Zrh {w:World}{s:Bool}{A:qA}{l c:Nat}{z:Int}(h:zZ w (.agg #[.bool s,.slice A l c]) z):sg (!s) z.natAbs = -z:=by
 obtain⟨_,a,b⟩:=h.opn
 cases s<;>simp[sg] at *<;>omega
theorem wU.neg {x:Int}(h:wU x):wU (-x):=by
 unfold wU at *;rw[Int.natAbs_neg];exact h
theorem Zet {fn:Func}{t:Tmp}{a:Array Value}{w w':World}{r:Nat}{x y:Value}{z:Int}(b:fn.results=#[.cell t 57])(c:a[t]? = some (.pointer (some ⟨r,0,none⟩)))(d:Blk 57 w' r #[x,y])(e:zZ w' (.agg #[x,y]) z)(Q:Ext w w'):bodyPost prog fn (kC w z) .ret ⟨a,[]⟩ w' :=
 bodyPost_ret (aX b _ _ r _ _ c d) rfl ⟨_,rfl,e,Q⟩
theorem zZ.sneg {w:World}{s:Bool}{A:qA}{l c:Nat}{z:Int}(h:zZ w (.agg #[.bool s,.slice A l c]) z)(b:z<0):s=true:=by
 obtain⟨_,a,d⟩:=h.opn
 cases s with
 | true=>rfl
 | false=>simp[sg] at a;omega
theorem zZ.spos {w:World}{s:Bool}{A:qA}{l c:Nat}{z:Int}(h:zZ w (.agg #[.bool s,.slice A l c]) z)(d:0≤z):s=false:=by
 obtain⟨_,a,b⟩:=h.opn
 cases s with
 | false=>rfl
 | true=>simp[sg] at a;exact b qO
theorem zZ.len0 {w:World}{s:Bool}{A:qA}{l c:Nat}{z:Int}(h:zZ w (.agg #[.bool s,.slice A l c]) z)(d:z=0):l=0:=by
 obtain⟨e,_,_⟩:=h.opn
 obtain⟨g,i,j,a,_,_,k,f,b⟩:=e
 injection a with _ a
 rw[d] at b
 have:=ZhA f zX b
 rw[this] at a
 simpa using a
theorem zZ.lenp {w:World}{s:Bool}{A:qA}{l c:Nat}{z:Int}(h:zZ w (.agg #[.bool s,.slice A l c]) z)(g:z≠0):0<l:=by
 obtain⟨d,_,_⟩:=h.opn
 obtain⟨i,f,j,a,_,_,k,m,b⟩:=d
 injection a with _ a
 rcases uI l with e|e
 ·rw[e] at a
  have:f=[]:=vY.1 a.symm
  rw[this] at b
  simp at b
  omega
 exact e
theorem zZ.quo {w:World}{s t:Bool}{A B:qA}{l c a b:Nat}{x y:Int}(h:zZ w (.agg #[.bool s,.slice A l c]) x)(k:zZ w (.agg #[.bool t,.slice B a b]) y):sg (s != t) (x.natAbs/y.natAbs)=x.tdiv y∧sg s (x.natAbs%y.natAbs)=x.tmod y:=by
 obtain⟨_,d,f⟩:=h.opn
 obtain⟨_,e,g⟩:=k.opn
 generalize x.natAbs=m at *
 generalize y.natAbs=n at *
 subst d e
 cases s<;>cases t<;>simp[sg,Int.neg_tdiv,Int.tdiv_neg,Int.neg_tmod,Int.tmod_neg]<;>exact (sD qO).symm
def ZgG (w:World) (q r:Int) (e:Ending) (w':World):Prop:=∃ u v,e=.returned (.tuple #[u,v])∧zZ w' u q∧zZ w' v r∧Ext w w'
theorem Zoy {fn:Func}{t h:Tmp}{a:Array Value}{w w':World}{r i:Nat}{x y c d:Value}{z j:Int}(b:fn.results=#[.cell t 57,.cell h 57])(k:a[t]? = some (.pointer (some ⟨r,0,none⟩)))(e:a[h]? = some (.pointer (some ⟨i,0,none⟩)))(l:Blk 57 w' r #[x,y])(f:Blk 57 w' i #[c,d])(m:zZ w' (.agg #[x,y]) z)(g:zZ w' (.agg #[c,d]) j)(Q:Ext w w'):bodyPost prog fn (ZgG w z j) .ret ⟨a,[]⟩ w':=by
 obtain⟨n,o,_⟩:=l.cell2
 obtain⟨p,q,_⟩:=f.cell2
 exact bodyPost_ret (v:=.tuple #[.agg #[x,y],.agg #[c,d]]) (by simp[results,b,k,e,go_sem,n,o,p,q]) rfl ⟨_,_,rfl,m,g,Q⟩
theorem aK {q:Rat}(h:¬ q.den=1):denF q≠0:=by rw[fH h];have:=q.den_nz;omega
theorem Zfc (a:Value)(x:Int)(w:World)(ha:zZ w a x) :
 yA 55 #[a] w (kC w (-x)):=by
 obtain⟨A,C,D,E,rfl⟩:=ha.shp
 have F2:Hid (zZ w (.agg #[.bool A,.slice C D E]) (x)):=ha
 clear ha
 have F:=zh (Zrh F2.out)
 go_enter func55,ntmps55
 go_wp2_with fail
 generalize s:World.alloc (World.alloc w _) _=w5
 obtain⟨d,f,g⟩:=ZaJ s
 clear s
 have B3:=zh d
 have B4:=zh f
 clear d f
 replace F2:=zh (F2.out.ext g)
 have HE:=zh g
 clear g
 have F6:Hid (zV w5 (.slice C D E) ((x).natAbs)):=F2.out.mag
 refine (Zbq ((!A)) _ _ _ F6.out).mono ?_
 rintro e t ⟨_,rfl,B,r⟩
 obtain⟨u,v,y,z,rfl⟩:=B.shp
 replace B3:=zh (B3.out.ext r)
 replace B4:=zh (B4.out.ext r)
 replace F2:=zh (F2.out.ext r)
 replace F6:=zh (F6.out.ext r)
 replace HE:=zh (HE.out.trans r)
 have F9:Hid (zZ t (.agg #[.bool u,.slice v y z]) (sg ((!A)) ((x).natAbs))):=B
 clear r B
 obtain⟨h,j,k,l⟩:=B3.out.cell2
 obtain⟨m,n,o,q⟩:=B4.out.cell2
 go_wp2
 clear h j k l m n o q
 have b:Fr (fun i=>i=(w.heap.size+1)) t ((t.setCell ⟨(w.heap.size+1),0,none⟩ (.bool u)).setCell ⟨(w.heap.size+1),1,none⟩ (.slice v y z)):=(((Fr.refl (fun i=>i=(w.heap.size+1)) _).setCell (p:=⟨(w.heap.size+1),0,none⟩) (Or.inl rfl) _).setCell (p:=⟨(w.heap.size+1),1,none⟩) (Or.inl rfl) _)
 replace F2:=zh (F2.out.oth B4.out kQ b)
 replace F6:=zh (F6.out.oth B4.out kQ b)
 replace F9:=zh (F9.out.oth B4.out kQ b)
 replace B3:=zh (B3.out.fr b (by first|omega | (have:=B3.out.lt;have:=B4.out.lt;omega)))
 replace HE:=zh (HE.out.next b (fun i hi e=>by first|omega | (have:=HE.out.size;have:=B4.out.lt;omega)))
 have c:Blk 57 ((t.setCell ⟨(w.heap.size+1),0,none⟩ (.bool u)).setCell ⟨(w.heap.size+1),1,none⟩ (.slice v y z)) (w.heap.size+1) #[.bool u,.slice v y z]:=((B4.out.set_ 0 _).set_ 1 _)
 generalize ((t.setCell ⟨(w.heap.size+1),0,none⟩ (.bool u)).setCell ⟨(w.heap.size+1),1,none⟩ (.slice v y z))=w12 at *
 replace B4:=zh c;clear c b
 exact Zet rfl rfl B4.out (by have:=F9.out;rw[F.out] at this;exact this) HE.out
theorem ZmN (a:Value)(x:Int)(w:World)(ha:zZ w a x)(e:x<0) :
 yA 71 #[a] w (RetV w (.int .i64 (-1))):=by
 obtain⟨f,g,h,i,rfl⟩:=ha.shp
 have F2:Hid (zZ w (.agg #[.bool f,.slice g h i]) (x)):=ha
 clear ha
 obtain rfl:f=true:=F2.out.sneg e
 clear e
 go_enter func71,ntmps71
 go_wp2
 generalize d:World.alloc w _=w4
 obtain⟨b,c⟩:=fP d
 clear d
 have k:=zh b
 clear b
 replace F2:=zh (F2.out.ext c)
 have j:=zh c
 clear c
 go_ret
 exact⟨rfl,j.out⟩
theorem Zlu (a:Value)(x:Int)(w:World)(ha:zZ w a x)(e:x=0) :
 yA 71 #[a] w (RetV w (.int .i64 (0))):=by
 obtain⟨f,h,g,i,rfl⟩:=ha.shp
 have F2:Hid (zZ w (.agg #[.bool f,.slice h g i]) (x)):=ha
 clear ha
 obtain rfl:f=false:=F2.out.spos qO
 obtain rfl:g=0:=F2.out.len0 e
 clear e
 go_enter func71,ntmps71
 go_wp2
 generalize d:World.alloc w _=w4
 obtain⟨b,c⟩:=fP d
 clear d
 have k:=zh b
 clear b
 replace F2:=zh (F2.out.ext c)
 have j:=zh c
 clear c
 go_ret
 exact⟨rfl,j.out⟩
theorem ZmO (a:Value)(x:Int)(w:World)(ha:zZ w a x)(g:0<x) :
 yA 71 #[a] w (RetV w (.int .i64 (1))):=by
 obtain⟨e,h,f,i,rfl⟩:=ha.shp
 have F2:Hid (zZ w (.agg #[.bool e,.slice h f i]) (x)):=ha
 clear ha
 obtain rfl:e=false:=F2.out.spos qO
 have k:((f:Int) == 0)=false:=by have:=F2.out.lenp qO;simp;omega
 clear g
 go_enter func71,ntmps71
 go_wp2
 generalize d:World.alloc w _=w4
 obtain⟨b,c⟩:=fP d
 clear d
 have l:=zh b
 clear b
 replace F2:=zh (F2.out.ext c)
 have j:=zh c
 clear c
 go_ret
 exact⟨rfl,j.out⟩
theorem ZmP (a:Value)(x:Int)(w:World)(ha:zZ w a x):yA 71 #[a] w (RetV w (.int .i64 x.sign)):=by
 rcases Int.lt_trichotomy x 0 with h|h|h
 ·rw[Int.sign_eq_neg_one_of_neg h];exact ZmN a x w ha h
 ·rw[h,Int.sign_zero];exact Zlu a x w ha h
 rw[Int.sign_eq_one_of_pos h];exact ZmO a x w ha h
theorem Zaa (a b:Value)(x y:Int)(w:World)(ha:zZ w a x)(hb:zZ w b y)(hx:wU x)(hy:wU y)(h0:y≠0) :
 yA 116 #[a,b] w (ZgG w (x.tdiv y) (x.tmod y)):=by
 obtain⟨o,A1,l1,c1,rfl⟩:=ha.shp
 have F2:Hid (zZ w (.agg #[.bool o,.slice A1 l1 c1]) (x)):=ha
 clear ha
 obtain⟨C,A3,l3,c3,rfl⟩:=hb.shp
 have F4:Hid (zZ w (.agg #[.bool C,.slice A3 l3 c3]) (y)):=hb
 clear hb
 have Hx:Hid (ml x.natAbs≤17592186044416):=hx
 have Hy:Hid (ml y.natAbs≤17592186044416):=hy
 have H0:Hid (0<y.natAbs):=by unfold Hid;omega
 have HQ:=zh (F2.out.quo F4.out)
 clear hx hy h0
 go_enter func116,ntmps116
 go_wp2_with fail
 generalize x0:World.alloc (World.alloc (World.alloc (World.alloc w _) _) _) _=w9
 obtain⟨E,F,G,H,D⟩:=Zp0 x0
 clear x0
 have B5:=zh E
 have B6:=zh F
 have B7:=zh G
 have B8:=zh H
 clear E F G H
 replace F2:=zh (F2.out.ext D)
 replace F4:=zh (F4.out.ext D)
 have HE:=zh D
 clear D
 have F10:Hid (zV w9 (.slice A1 l1 c1) ((x).natAbs)):=F2.out.mag
 have F11:Hid (zV w9 (.slice A3 l3 c3) ((y).natAbs)):=F4.out.mag
 refine (ZfZ _ _ ((x).natAbs) ((y).natAbs) _ F10.out F11.out Hx.out Hy.out H0.out).mono ?_
 rintro e P ⟨_,_,rfl,hq,hr,f⟩
 obtain⟨I,J,L,rfl⟩:=hq.slice
 obtain⟨M,N,O,rfl⟩:=hr.slice
 replace B5:=zh (B5.out.ext f)
 replace B6:=zh (B6.out.ext f)
 replace B7:=zh (B7.out.ext f)
 replace B8:=zh (B8.out.ext f)
 replace F2:=zh (F2.out.ext f)
 replace F4:=zh (F4.out.ext f)
 replace F10:=zh (F10.out.ext f)
 replace F11:=zh (F11.out.ext f)
 replace HE:=zh (HE.out.trans f)
 have F14:Hid (zV P (.slice I J L) (((x).natAbs)/((y).natAbs))):=hq
 have F15:Hid (zV P (.slice M N O) (((x).natAbs)%((y).natAbs))):=hr
 clear f hq hr
 obtain⟨Q,R,S,T⟩:=B5.out.cell2
 obtain⟨U,V,W,X⟩:=B6.out.cell2
 obtain⟨Y,Z,a0,b0⟩:=B7.out.cell2
 obtain⟨c0,d0,e0,f0⟩:=B8.out.cell2
 go_wp2_with fail
 clear Q R S T U V W X Y Z a0 b0 c0 d0 e0 f0
 refine ZjB 11 (fun m=>Blk 57 m w.heap.size #[.bool o,.slice A1 l1 c1]∧Blk 57 m (w.heap.size+1) #[.bool C,.slice A3 l3 c3]∧Blk 57 m (w.heap.size+1+1) #[.bool false,.slice none 0 0]∧Blk 57 m (w.heap.size+1+1+1) #[.bool false,.slice none 0 0]) zO ?_
 replace B5:=zh (B5.out.ext (Fr.refl _ _).drew)
 replace B6:=zh (B6.out.ext (Fr.refl _ _).drew)
 replace B7:=zh (B7.out.ext (Fr.refl _ _).drew)
 replace B8:=zh (B8.out.ext (Fr.refl _ _).drew)
 replace F2:=zh (F2.out.ext (Fr.refl _ _).drew)
 replace F4:=zh (F4.out.ext (Fr.refl _ _).drew)
 replace F10:=zh (F10.out.ext (Fr.refl _ _).drew)
 replace F11:=zh (F11.out.ext (Fr.refl _ _).drew)
 replace F14:=zh (F14.out.ext (Fr.refl _ _).drew)
 replace F15:=zh (F15.out.ext (Fr.refl _ _).drew)
 replace HE:=zh (HE.out.trans (Fr.refl _ _).drew)
 generalize P.drew=w20 at *
 have j:=(⟨B5.out,B6.out,B7.out,B8.out⟩:(fun m=>Blk 57 m w.heap.size #[.bool o,.slice A1 l1 c1]∧Blk 57 m (w.heap.size+1) #[.bool C,.slice A3 l3 c3]∧Blk 57 m (w.heap.size+1+1) #[.bool false,.slice none 0 0]∧Blk 57 m (w.heap.size+1+1+1) #[.bool false,.slice none 0 0]) w20)
 refine fY 0 rfl qK (fun _ _ _ h=>h) j (fun _=>ZcA (g:=w.heap.size) (off:=0) rfl rfl qK) (fun j=>?_)
 refine fY 1 rfl qK (fun _ _ _ h=>h) j (fun _=>ZgE (g:=w.heap.size) (off:=0) (x:=.bool o) rfl rfl qK (fun _ h=>Blk.one' (h.1) 0 rfl)) (fun j=>?_)
 refine fY 2 rfl qK (fun _ _ _ h=>h) j (fun _=>ZcA (g:=(w.heap.size+1)) (off:=0) rfl rfl qK) (fun j=>?_)
 refine fY 3 rfl qK (fun _ _ _ h=>h) j (fun _=>ZgE (g:=(w.heap.size+1)) (off:=0) (x:=.bool C) rfl rfl qK (fun _ h=>Blk.one' (h.2.1) 0 rfl)) (fun j=>?_)
 refine fY 4 rfl qK (fun _ _ _ h=>h) j (fun _=>Zom (b:=o) (c:=C) rfl rfl qK qK) (fun j=>?_)
 refine fY 5 rfl qK (fun _ _ _ h=>h) j (fun _=>ym (v:=.slice I J L) rfl rfl qK) (fun j=>?_)
 refine fY 7 rfl qK (fun _ _ _ h=>h) j (fun _=>ZcA (g:=w.heap.size) (off:=0) rfl rfl qK) (fun j=>?_)
 refine fY 8 rfl qK (fun _ _ _ h=>h) j (fun _=>ZgE (g:=w.heap.size) (off:=0) (x:=.bool o) rfl rfl qK (fun _ h=>Blk.one' (h.1) 0 rfl)) (fun j=>?_)
 refine fY 9 rfl qK (fun _ _ _ h=>h) j (fun _=>ym (v:=.slice M N O) rfl rfl qK) (fun j=>?_)
 refine Zij 6 rfl qK rfl (fun K hK=>?_)
 go_simp
 clear j
 refine (Zbq ((o != C)) _ _ _ F14.out).mono ?_
 rintro e y0 ⟨_,rfl,hI,f⟩
 obtain⟨q,r,s,t,rfl⟩:=hI.shp
 replace B5:=zh (B5.out.ext f)
 replace B6:=zh (B6.out.ext f)
 replace B7:=zh (B7.out.ext f)
 replace B8:=zh (B8.out.ext f)
 replace F2:=zh (F2.out.ext f)
 replace F4:=zh (F4.out.ext f)
 replace F10:=zh (F10.out.ext f)
 replace F11:=zh (F11.out.ext f)
 replace F14:=zh (F14.out.ext f)
 replace F15:=zh (F15.out.ext f)
 replace HE:=zh (HE.out.trans f)
 have F23:Hid (zZ y0 (.agg #[.bool q,.slice r s t]) (sg ((o != C)) (((x).natAbs)/((y).natAbs)))):=hI
 clear f hI
 have j:=(⟨B5.out,B6.out,B7.out,B8.out⟩:(fun m=>Blk 57 m w.heap.size #[.bool o,.slice A1 l1 c1]∧Blk 57 m (w.heap.size+1) #[.bool C,.slice A3 l3 c3]∧Blk 57 m (w.heap.size+1+1) #[.bool false,.slice none 0 0]∧Blk 57 m (w.heap.size+1+1+1) #[.bool false,.slice none 0 0]) y0)
 refine hK _ _ j ?_
 clear hK
 refine Zij 10 rfl qK rfl (fun K hK=>?_)
 go_simp
 clear j
 refine (Zbq (o) _ _ _ F15.out).mono ?_
 rintro e n ⟨_,rfl,hI,f⟩
 obtain⟨u,z,A,B,rfl⟩:=hI.shp
 replace B5:=zh (B5.out.ext f)
 replace B6:=zh (B6.out.ext f)
 replace B7:=zh (B7.out.ext f)
 replace B8:=zh (B8.out.ext f)
 replace F2:=zh (F2.out.ext f)
 replace F4:=zh (F4.out.ext f)
 replace F10:=zh (F10.out.ext f)
 replace F11:=zh (F11.out.ext f)
 replace F14:=zh (F14.out.ext f)
 replace F15:=zh (F15.out.ext f)
 replace F23:=zh (F23.out.ext f)
 replace HE:=zh (HE.out.trans f)
 have F26:Hid (zZ n (.agg #[.bool u,.slice z A B]) (sg (o) (((x).natAbs)%((y).natAbs)))):=hI
 clear f hI
 have j:=(⟨B5.out,B6.out,B7.out,B8.out⟩:(fun m=>Blk 57 m w.heap.size #[.bool o,.slice A1 l1 c1]∧Blk 57 m (w.heap.size+1) #[.bool C,.slice A3 l3 c3]∧Blk 57 m (w.heap.size+1+1) #[.bool false,.slice none 0 0]∧Blk 57 m (w.heap.size+1+1+1) #[.bool false,.slice none 0 0]) n)
 refine hK _ _ j ?_
 clear hK
 refine Zog (l:=[_,_]) 11 rfl qK ?_
 clear j
 obtain⟨g0,i0,j0,k0⟩:=B5.out.cell2
 obtain⟨l0,m0,n0,o0⟩:=B6.out.cell2
 obtain⟨p0,q0,r0,s0⟩:=B7.out.cell2
 obtain⟨t0,u0,v0,w0⟩:=B8.out.cell2
 go_wp2
 clear g0 i0 j0 k0 l0 m0 n0 o0 p0 q0 r0 s0 t0 u0 v0 w0
 have d:Fr (fun i=>i=(w.heap.size+1+1)) n ((n.setCell ⟨(w.heap.size+1+1),0,none⟩ (.bool q)).setCell ⟨(w.heap.size+1+1),1,none⟩ (.slice r s t)):=(((Fr.refl (fun i=>i=(w.heap.size+1+1)) _).setCell (p:=⟨(w.heap.size+1+1),0,none⟩) (Or.inl rfl) _).setCell (p:=⟨(w.heap.size+1+1),1,none⟩) (Or.inl rfl) _)
 replace F2:=zh (F2.out.oth B7.out kQ d)
 replace F4:=zh (F4.out.oth B7.out kQ d)
 replace F10:=zh (F10.out.oth B7.out kQ d)
 replace F11:=zh (F11.out.oth B7.out kQ d)
 replace F14:=zh (F14.out.oth B7.out kQ d)
 replace F15:=zh (F15.out.oth B7.out kQ d)
 replace F23:=zh (F23.out.oth B7.out kQ d)
 replace F26:=zh (F26.out.oth B7.out kQ d)
 replace B5:=zh (B5.out.fr d (by first|omega | (have:=B5.out.lt;have:=B7.out.lt;omega)))
 replace B6:=zh (B6.out.fr d (by first|omega | (have:=B6.out.lt;have:=B7.out.lt;omega)))
 replace B8:=zh (B8.out.fr d (by first|omega | (have:=B8.out.lt;have:=B7.out.lt;omega)))
 replace HE:=zh (HE.out.next d (fun i hi e=>by first|omega | (have:=HE.out.size;have:=B7.out.lt;omega)))
 have k:Blk 57 ((n.setCell ⟨(w.heap.size+1+1),0,none⟩ (.bool q)).setCell ⟨(w.heap.size+1+1),1,none⟩ (.slice r s t)) (w.heap.size+1+1) #[.bool q,.slice r s t]:=((B7.out.set_ 0 _).set_ 1 _)
 generalize ((n.setCell ⟨(w.heap.size+1+1),0,none⟩ (.bool q)).setCell ⟨(w.heap.size+1+1),1,none⟩ (.slice r s t))=w31 at *
 replace B7:=zh k;clear k d
 have d:Fr (fun i=>i=(w.heap.size+1+1+1)) w31 ((w31.setCell ⟨(w.heap.size+1+1+1),0,none⟩ (.bool u)).setCell ⟨(w.heap.size+1+1+1),1,none⟩ (.slice z A B)):=(((Fr.refl (fun i=>i=(w.heap.size+1+1+1)) _).setCell (p:=⟨(w.heap.size+1+1+1),0,none⟩) (Or.inl rfl) _).setCell (p:=⟨(w.heap.size+1+1+1),1,none⟩) (Or.inl rfl) _)
 replace F2:=zh (F2.out.oth B8.out kQ d)
 replace F4:=zh (F4.out.oth B8.out kQ d)
 replace F10:=zh (F10.out.oth B8.out kQ d)
 replace F11:=zh (F11.out.oth B8.out kQ d)
 replace F14:=zh (F14.out.oth B8.out kQ d)
 replace F15:=zh (F15.out.oth B8.out kQ d)
 replace F23:=zh (F23.out.oth B8.out kQ d)
 replace F26:=zh (F26.out.oth B8.out kQ d)
 replace B5:=zh (B5.out.fr d (by first|omega | (have:=B5.out.lt;have:=B8.out.lt;omega)))
 replace B6:=zh (B6.out.fr d (by first|omega | (have:=B6.out.lt;have:=B8.out.lt;omega)))
 replace B7:=zh (B7.out.fr d (by first|omega | (have:=B7.out.lt;have:=B8.out.lt;omega)))
 replace HE:=zh (HE.out.next d (fun i hi e=>by first|omega | (have:=HE.out.size;have:=B8.out.lt;omega)))
 have k:Blk 57 ((w31.setCell ⟨(w.heap.size+1+1+1),0,none⟩ (.bool u)).setCell ⟨(w.heap.size+1+1+1),1,none⟩ (.slice z A B)) (w.heap.size+1+1+1) #[.bool u,.slice z A B]:=((B8.out.set_ 0 _).set_ 1 _)
 generalize ((w31.setCell ⟨(w.heap.size+1+1+1),0,none⟩ (.bool u)).setCell ⟨(w.heap.size+1+1+1),1,none⟩ (.slice z A B))=w32 at *
 replace B8:=zh k;clear k d
 exact Zoy rfl rfl rfl B7.out B8.out (by rw[←HQ.out.1];exact F23.out) (by rw[←HQ.out.2];exact F26.out) HE.out
theorem Zoz (a:Value)(q:Rat)(w:World)(ha:zU w a q)(F:q.den=1) :
 yA 75 #[a] w (kC w (q.den:Int)):=by
 obtain⟨I,J,K,L,t1,M,G,N,rfl⟩:=ha.shp
 have F2:Hid (zU w (.agg #[.bool I,.slice J K L,.bool t1,.slice M G N]) (q)):=ha
 clear ha
 have H:=F2.out.den
 obtain rfl:G=0:=H.len0 (jC F)
 have O:Hid ((q.den:Int)=1):=by unfold Hid;omega
 clear H F
 go_enter func75,ntmps75
 go_wp2_with fail
 generalize m:World.alloc (World.alloc w _) _=w5
 obtain⟨d,f,g⟩:=ZaJ m
 clear m
 have B3:=zh d
 have B4:=zh f
 clear d f
 replace F2:=zh (F2.out.ext g)
 have HE:=zh g
 clear g
 refine (ZdF 1 _ qO qO).mono ?_
 rintro e n ⟨_,rfl,E,o⟩
 obtain⟨r,s,t,u,rfl⟩:=E.shp
 replace B3:=zh (B3.out.ext o)
 replace B4:=zh (B4.out.ext o)
 replace F2:=zh (F2.out.ext o)
 replace HE:=zh (HE.out.trans o)
 have F8:Hid (zZ n (.agg #[.bool r,.slice s t u]) (1)):=E
 clear o E
 obtain⟨v,x,y,z,A,B,C,D⟩:=B3.out.cell4
 obtain⟨h,j,k,l⟩:=B4.out.cell2
 go_wp2
 clear v x y z A B C D h j k l
 have b:Fr (fun i=>i=(w.heap.size+1)) n ((n.setCell ⟨(w.heap.size+1),0,none⟩ (.bool r)).setCell ⟨(w.heap.size+1),1,none⟩ (.slice s t u)):=(((Fr.refl (fun i=>i=(w.heap.size+1)) _).setCell (p:=⟨(w.heap.size+1),0,none⟩) (Or.inl rfl) _).setCell (p:=⟨(w.heap.size+1),1,none⟩) (Or.inl rfl) _)
 replace F2:=zh (F2.out.oth B4.out kQ b)
 replace F8:=zh (F8.out.oth B4.out kQ b)
 replace B3:=zh (B3.out.fr b (by first|omega | (have:=B3.out.lt;have:=B4.out.lt;omega)))
 replace HE:=zh (HE.out.next b (fun i hi e=>by first|omega | (have:=HE.out.size;have:=B4.out.lt;omega)))
 have c:Blk 57 ((n.setCell ⟨(w.heap.size+1),0,none⟩ (.bool r)).setCell ⟨(w.heap.size+1),1,none⟩ (.slice s t u)) (w.heap.size+1) #[.bool r,.slice s t u]:=((B4.out.set_ 0 _).set_ 1 _)
 generalize ((n.setCell ⟨(w.heap.size+1),0,none⟩ (.bool r)).setCell ⟨(w.heap.size+1),1,none⟩ (.slice s t u))=w11 at *
 replace B4:=zh c;clear c b
 exact Zet rfl rfl B4.out (by rw[O.out];exact F8.out) HE.out
theorem ZoA (a:Value)(q:Rat)(w:World)(ha:zU w a q)(f:¬ q.den=1) :
 yA 75 #[a] w (kC w (q.den:Int)):=by
 obtain⟨k,l,m,n,t1,h,g,i,rfl⟩:=ha.shp
 have F2:Hid (zU w (.agg #[.bool k,.slice l m n,.bool t1,.slice h g i]) (q)):=ha
 clear ha
 have j:=F2.out.den
 have t:((g:Int) == 0)=false:=by have:=j.lenp (aK f);simp;omega
 have o:=zh (fH f)
 clear j f
 go_enter func75,ntmps75
 go_wp2
 generalize e:World.alloc (World.alloc w _) _=w5
 obtain⟨b,c,d⟩:=ZaJ e
 clear e
 have u:=zh b
 have p:=zh c
 clear b c
 replace F2:=zh (F2.out.ext d)
 have r:=zh d
 clear d
 have s:Hid (zZ w5 (.agg #[.bool t1,.slice h g i]) (denF (q))):=F2.out.den
 exact Zet rfl rfl p.out (by rw[←o.out];exact s.out) r.out
theorem iH (a:Value)(q:Rat)(w:World)(ha:zU w a q):yA 75 #[a] w (kC w (q.den:Int)):=by
 by_cases h:q.den=1
 ·exact Zoz a q w ha h
 exact ZoA a q w ha h
def blen (n:Nat):Nat:=if n=0 then 0 else n.log2+1
theorem iW:blen 0=0:=rfl
theorem gB (n:Nat):n<2^blen n:=by
 unfold blen
 split
 ·rename_i h;subst h;decide
 rename_i h;exact (Nat.log2_lt h).1 (pV _)
theorem xW {n k:Nat}:blen n≤k↔n<2^k:=by
 unfold blen
 split
 ·rename_i h;subst h;simp[uU]
 rename_i h;rw[←Nat.log2_lt h];omega
theorem Zbr {n:Nat}(h:0<n):blen n=blen (n/2)+1:=by
 have d:blen (n/2)+1≤blen n:=by
  have:blen (n/2)≤blen n-1:=xW.2 (by
   have a:=gB n
   have b:0<blen n:=by unfold blen;rw[uL qO];omega
   obtain⟨k,c⟩:∃ k,blen n=k+1:=⟨blen n-1,qO⟩
   rw[c] at a ⊢
   rw[uN] at a
   show n/2<2^(k+1-1)
   rw[tH]
   omega)
  have b:0<blen n:=by unfold blen;rw[uL qO];omega
  omega
 have a:blen n≤blen (n/2)+1:=xW.2 (by
  have:=gB (n/2)
  rw[uN]
  omega)
 omega
theorem iX {n:Nat}:blen n=1↔n=1:=by
 constructor
 ·intro h
  have a:=gB n
  rw[h] at a
  rcases uI n with e|e
  ·subst e;rw[iW] at h;omega
  omega
 rintro rfl;decide
theorem Zab {n:Nat}:1<blen n↔1<n:=by
 rcases vL 1 n with h|h
 ·have:¬ blen n≤1:=fun k=>by have:=xW.1 k;omega
  omega
 have:blen n≤1:=xW.2 qO
 omega
theorem ZiA {B k t a:Nat}(g:a<2^(B*k))(b:0<t):blen (a+2^(B*k)*t)=B*k+blen t:=by
 have c:=gB t
 have i:blen (a+2^(B*k)*t)≤B*k+blen t:=xW.2 (by
  rw[uR]
  have:2^(B*k)*(t+1)≤2^(B*k)*2^blen t:=uJ _ c
  rw[uK] at this
  omega)
 have l:¬ blen (a+2^(B*k)*t)≤B*k+blen t-1:=fun h=>by
  have d:=xW.1 h
  obtain⟨j,e⟩:∃ j,blen t=j+1:=⟨blen t-1,by have:=Zbr b;omega⟩
  rw[e,show B*k+(j+1)-1=B*k+j by omega,uR] at d
  have f:2^j≤t:=by
   rcases vL t (2^j) with h|h
   ·have:=xW.2 h;omega
   exact h
  have:2^(B*k)*2^j≤2^(B*k)*t:=uJ _ f
  omega
 have:0<blen t:=by have:=Zbr b;omega
 omega
theorem bE (a:Value)(x:Int)(w:World)(ha:zZ w a x)(F:wU x):yA 114 #[a] w (RetV w (.int .i64 (blen x.natAbs:Int))):=by
 obtain⟨s,A,l,c,rfl⟩:=ha.shp
 have f:=ha.mag
 have L:=ha.len0
 obtain⟨V,xs,W,M,N,G,j,o,p⟩:=f
 injection M with e1 e2 e3
 subst e1 e2 e3
 unfold wU at F
 rw[←p,← kT j o] at F
 rw[←p]
 clear ha L p
 rcases uI xs.length with q|q
 ·obtain rfl:xs=[]:=vY.1 q
  go_enter func114,ntmps114
  go_wp2
  go_ret
  exact⟨rfl,(Fr.refl _ _).alloc _⟩
 obtain⟨k,H⟩:∃ k,xs.length=k+1:=⟨xs.length-1,qO⟩
 obtain⟨b,O,rfl,P,u⟩:=G.at (i:=k) qO
 obtain⟨t,m⟩:=yE (xs[k]?.getD 0)
 rw[m] at u
 have v:0<t:=by have:=o k H;omega
 have I:val W32 xs=val W32 (xs.take k)+W32^k*t:=by
  have:=zS (B:=W32) (xs:=xs) k qO
  rw[uA qO,m] at this
  exact this
 have d:=wA (j.take k)
 rw[uP,uV qO,Zer] at d
 have y:Hid (blen (val W32 xs)=32*k+blen t):=by
  unfold Hid
  rw[I,Zer]
  exact ZiA d v
 have g:t<W32:=m ▸ j.getD zX k
 have Q:blen t≤32:=xW.2 (by rw[xB] at g;exact g)
 obtain⟨r,J⟩:=yE (blen (val W32 xs))
 rw[J] at y ⊢
 have R:b≠w.heap.size:=Nat.ne_of_lt P
 rw[H]
 clear G j o I d m J g N q
 have X:(((k:Int)+1) == 0)=false:=by simp;omega
 go_enter func114,ntmps114
 go_wp2
 go_loop [3,4] (fun S z=>∃ n t':Nat,S=.int .i64 (n:Int)∧z=.int .u32 (t':Int)∧Hid (n+blen t'=r)∧n≤32*k+32) (fun _ z=>(intOf z).toNat)
 case atStart=>exact⟨32*k,t,by go_num,rfl,by have:=y.out;unfold Hid;omega,qO⟩
 case round =>
  obtain⟨n,t',rfl,rfl,C,Y⟩:=hrel
  by_cases K:0<t'
  ·have e:Hid (n+1+blen (t'/2)=r):=by have f:=C.out;rw[Zbr K] at f;unfold Hid;omega
   have D:n+1≤32*k+32:=by
    have f:=C.out;have Z:=y.out;rw[Zbr K] at f;omega
   have T:(t':Int)/2=((t'/2:Nat):Int):=rfl
   have E:t'/2<t':=qO
   obtain⟨U,h⟩:=yE (t'/2)
   rw[h] at e T E
   clear h
   go_wp2
   go_round
   case rel=>exact⟨n+1,U,by go_num,rfl,e,D⟩
   case measure=>simp[intOf];omega
  obtain rfl:t'=0:=qO
  have e:Hid (n=r):=by have f:=C.out;rw[iW] at f;exact f
  go_wp2
  go_ret
  exact⟨by rw[e.out];rfl,(Fr.refl _ _).alloc _⟩
theorem zV.inj {w:World}{v:Value}{m n:Nat}(h:zV w v m)(k:zV w v n):m=n:=by
 obtain⟨A,g,c,rfl,_,j,_,_,rfl⟩:=h
 obtain⟨s,l,t,p,_,q,_,_,rfl⟩:=k
 injection p with e1 e2 e3
 subst e1
 have:g=l:=by
  apply List.ext_getElem e2
  intro i e f
  obtain⟨b,o,rfl,_,r⟩:=j.at e
  obtain⟨u,x,d,_,a⟩:=q.at f
  injection d with d
  injection d with e3 e4
  subst e3 e4
  rw[r] at a
  injection a with a
  injection a with _ a
  rw[uO e,uO f] at a
  simp only[rT] at a
  omega
 rw[this]
open Classical in
noncomputable def ZdR (w:World) (v:Value):Nat:=if h:∃ n,zV w v n then Classical.choose h else 0
theorem Zhg {w:World}{v:Value}{n:Nat}(h:zV w v n):ZdR w v=n:=by
 have a:∃ n,zV w v n:=⟨n,h⟩
 unfold ZdR
 rw[dif_pos a]
 exact (pL a).inj h
theorem zV.len_zero {w:World}{A:qA}{l c n:Nat}(h:zV w (.slice A l c) n):(n=0↔l=0)∧l=ml n:=by
 obtain⟨j,f,k,a,_,_,g,i,b⟩:=h
 injection a with _ a
 have d:=kT g i
 rw[b] at d
 refine⟨⟨fun e=>?_,fun e=>?_⟩,qO⟩
 ·rw[e,Zgw] at d;omega
 rw[e] at a
 have:f=[]:=vY.1 a.symm
 rw[this] at b
 simpa using b.symm
theorem ZiB (a b:Value)(x y:Int)(w:World)(ha:zZ w a x)(I:zZ w b y)(hx:wU x)(hy:wU y):yA 124 #[a,b] w (kC w (Int.gcd x y:Int)):=by
 obtain⟨s,A,l,c,rfl⟩:=ha.shp
 obtain⟨t,B,m,d,rfl⟩:=I.shp
 have HM:=zh ha.mag
 have HN:=zh I.mag
 have HX:Hid (ml x.natAbs≤17592186044416):=hx
 have HY:Hid (ml y.natAbs≤17592186044416):=hy
 obtain⟨r,J⟩:=yE (Int.gcd x y)
 have HR:Hid (Nat.gcd x.natAbs y.natAbs=r):=J
 rw[J]
 clear ha I hx hy J
 go_enter func124,ntmps124
 go_wp2_with fail
 generalize k:World.alloc (World.alloc (World.alloc w _) _) _=w1
 obtain⟨b0,b1,b2,h⟩:=Zkl k
 clear k
 have K:=zh b2
 have HE:=zh h
 replace HM:=zh (HM.out.ext h)
 replace HN:=zh (HN.out.ext h)
 obtain⟨c0,c1,f0,f1⟩:=b0.cell2
 obtain⟨q,L,f2,f3⟩:=b1.cell2
 clear b0 b1 b2 h
 go_quiet (fail)
 clear c0 c1 f0 f1 q L f2 f3
 go_wp2_with fail
 go_loopw [5,6,7,8] (fun xv M _ _ wr=>∃ (u v:Nat) (N z:Option Addr) (O P m' C:Nat),xv=.slice N O P∧M=.slice z m' C∧Hid (zV wr (.slice N O P) u)∧Hid (zV wr (.slice z m' C) v)∧Hid (ml u≤17592186044416)∧Hid (ml v≤17592186044416)∧Hid (Nat.gcd u v=r)∧Hid (Ext w1 wr)) (fun _ M _ _ wr=>ZdR wr M)
 case atStart=>exact⟨_,_,_,_,_,_,_,_,rfl,rfl,HM.out.ext ((Fr.refl _ _).drewN _),HN.out.ext ((Fr.refl _ _).drewN _),HX,HY,HR,(Fr.refl _ _).drewN _⟩
 case round =>
  obtain⟨u,v,N,z,O,P,m',C,rfl,rfl,hU,D,hu,E,Q,R⟩:=hrel
  obtain⟨F,z2⟩:=D.out.len_zero
  have g0:m'≤17592186044416:=by have:=E.out;omega
  by_cases S:m'=0
  ·subst S
   have f:v=0:=F.2 rfl
   have T:Hid (u=r):=by have:=Q.out;rw[f,rU] at this;exact this
   have HB:=zh (K.out.ext R.out)
   have U:=zh (HE.out.trans R.out)
   clear F z2 f
   go_wp2_with fail
   refine (Zbq false _ u _ hU.out).mono ?_
   rintro e G ⟨_,rfl,V,g⟩
   obtain⟨s2,A2,l2,q,rfl⟩:=V.shp
   have HI:=zh V
   have j:=zh (HB.out.ext g)
   have W:=zh (U.out.trans g)
   obtain⟨k0,k1,k2,k3⟩:=j.out.cell2
   clear V g
   go_wp2
   have n:Fr (fun i=>i=(w.heap.size+1+1)) G ((G.setCell ⟨w.heap.size+1+1,0,none⟩ (.bool s2)).setCell ⟨w.heap.size+1+1,1,none⟩ (.slice A2 l2 q)):=((Fr.refl (fun i=>i=(w.heap.size+1+1)) _).setCell (p:=⟨w.heap.size+1+1,0,none⟩) (Or.inl rfl) _).setCell (p:=⟨w.heap.size+1+1,1,none⟩) (Or.inl rfl) _
   exact Zet rfl rfl ((j.out.set_ 0 _).set_ 1 _) (by rw[←T.out];exact HI.out.oth j.out kQ n) (W.out.next n (fun i hi e=>qO))
  have h0:0<m':=qO
  have f:0<v:=by
   rcases uI v with e|e;· exact absurd (F.1 e) S
   ·exact e
  have T:Hid (Nat.gcd v (u%v)=r):=by have:=Q.out;rw[sF,pN,sF] at this;exact this
  have X:=zh (uC (ZaI (rW (uM u f))) E.out)
  have Y:=zh (uM u f)
  have HC:=zh (ZfZ _ _ u v wr hU.out D.out hu.out E.out f)
  clear F z2 f S Q
  go_wp2_with fail
  refine HC.out.mono ?_
  rintro e G ⟨_,_,rfl,hq,H,g⟩
  obtain⟨A2,l2,q,rfl⟩:=hq.slice
  obtain⟨A3,l3,L,rfl⟩:=H.slice
  have Z:=zh H
  have a0:=zh (D.out.ext g)
  have d0:=zh (R.out.trans g)
  have e0:Hid (ZdR wr (.slice z m' C)=v):=Zhg D.out
  have o:Hid (ZdR G (.slice A3 l3 L)=u%v):=Zhg H
  clear hq H g HC
  go_wp2
  go_roundw
  case rel=>exact⟨v,u%v,_,_,_,_,_,_,rfl,rfl,a0,Z,E,X,T,d0⟩
  case measure=>rw[e0.out,o.out];exact Y.out
end Go.Proofs.YtenchljfmfgeoaaGreatDoor
namespace Go.Proofs.YtenchljfmfgeoaaGreatDoor
theorem jU {n k:Nat}:k<blen n↔2^k≤n:=by have:=@xW n k;omega
theorem cL {n:Nat}(h:0<n):0<blen n:=jU.2 (by rw[vV];exact h)
theorem Zeu {n k:Nat}(a:2^k≤n)(b:n<2^(k+1)):blen n=k+1:=by
 have:=jU.2 a;have:=xW.2 b;omega
theorem ZcF {n:Nat}(h:0<n):2^(blen n-1)≤n:=jU.1 (by have:=cL h;omega)
theorem p2 (k:Nat):0<2^k:=uU qD
theorem Zam {n:Nat}(h:0<n)(j:Nat):blen (n*2^j)=blen n+j:=by
 have a:=ZcF h
 have b:=gB n
 obtain⟨k,c⟩:∃ k,blen n=k+1:=⟨blen n-1,by have:=cL h;omega⟩
 rw[c] at a b ⊢
 rw[show k+1+j=k+j+1 by omega]
 refine Zeu ?_ ?_
 ·rw[uR];exact uE _ (by simpa using a)
 rw[show k+j+1=k+1+j by omega,uR];exact (qV (p2 j)).2 b
theorem bF (n j:Nat):blen (n/2^j)=blen n-j:=by
 rcases vL j (blen n) with h|h
 ·have c:0<n:=by
   rcases uI n with e|e;· subst e;rw[iW] at h;omega
   ·exact e
  have a:=ZcF c
  have b:=gB n
  obtain⟨k,d⟩:∃ k,blen n=j+(k+1):=⟨blen n-j-1,qO⟩
  rw[d] at a b ⊢
  rw[show j+(k+1)-j=k+1 by omega]
  refine Zeu ?_ ?_
  ·rw[qJ (p2 j),← uR];rw[show j+(k+1)-1=k+j by omega] at a;exact a
  rw[vM (p2 j),← uR,vR];exact b
 rw[tM (xW.1 h),iW];omega
def gQ (a b:Nat):Nat:=if b<2*(a%b)∨(2*(a%b)=b∧a/b%2=1) then a/b+1 else a/b
theorem Zlv {a b c:Nat}(d:0<c):gQ (a*c) (b*c)=gQ a b:=by
 unfold gQ
 rw[sW,rR _ _ d,← uG]
 have e:b*c<2*(a%b)*c↔b<2*(a%b):=qV d
 have f:2*(a%b)*c=b*c↔2*(a%b)=b:=⟨fun h=>Nat.eq_of_mul_eq_mul_right d h,fun h=>by rw[h]⟩
 simp only[e,f]
theorem ZoB (a:Nat):gQ a 1=a:=by unfold gQ;rw[Nat.mod_one,rM,uL qO]
def iP (q j:Nat) (m:Bool):Nat:=if q/2^j%2=1∧(q%2^j≠0∨q/2^(j+1)%2=1∨m=true) then q/2^(j+1)+1 else q/2^(j+1)
theorem Zlw {a b j:Nat}(k:0<b):gQ a (b*2^(j+1))=iP (a/b) j (decide (a%b≠0)):=by
 unfold gQ iP
 have l:a/(b*2^(j+1))=a/b/2^(j+1):=(sM _ _ _).symm
 have m:=vX a b
 have G:=uM a k
 rw[l]
 generalize a/b=q at *
 generalize a%b=r at *
 obtain⟨h,f⟩:∃ h,h=2^j:=⟨_,rfl⟩
 have n:0<h:=by rw[f];exact p2 j
 have o:2^(j+1)=h*2:=by rw[uN,f]
 have t:=vX q h
 have H:=uM q n
 rw[o,← f,← sM]
 generalize q/h=p at *
 generalize q%h=z at *
 have v:=vX p 2
 have I:=uM p (show 0<2 by decide)
 generalize p/2=u at *
 generalize p%2=s at *
 have w:a%(b*(h*2))=b*(h*s+z)+r:=by
  have e:a=b*(h*2)*u+(b*(h*s+z)+r):=by
   rw[←m,← t,← v]
   simp only[uK,uG,tZ]
  have g:b*(h*s+z)+r<b*(h*2):=by
   have x:h*s+z+1≤h*2:=by
    have:h*s≤h*1:=uJ _ qO
    omega
   have y:=uJ b x
   rw[uK,tU] at y
   omega
  rw[e,rZ,vC g]
 rw[w]
 have J:b*z+b≤b*h:=by
  have:=uJ b (show z+1≤h by omega)
  rwa [uK,tU] at this
 have i:b*(h*2)=2*(b*h):=by rw[←uG,uF]
 have d:z=0∨b≤b*z:=by
  rcases uI z with e|e
  ·exact Or.inl e
  exact Or.inr (by have:=uJ b e;simpa using this)
 rcases (by omega:s=0∨s=1) with rfl|rfl
 ·rw[uL,uL qO]
  rw[tR,vW,i]
  omega
 rw[tU,uK b h z,i]
 have A:(2*(b*h)<2*(b*h+b*z+r))↔(z≠0∨r≠0):=by
  constructor
  ·intro c
   rcases uI z with e|e
   ·subst e;right;intro B;subst B;simp at c
   left;omega
  intro c
  rcases d with e|e
  ·subst e;rcases c with c|c;· exact absurd rfl c
   ·simp;omega
  omega
 have C:(2*(b*h+b*z+r)=2*(b*h))↔(z=0∧r=0):=by
  constructor
  ·intro c
   rcases d with e|e
   ·subst e;refine⟨rfl,?_⟩;rw[tR] at c;omega
   omega
  rintro⟨rfl,rfl⟩;simp
 simp only[A,C]
 by_cases D:z=0<;>by_cases E:r=0<;>by_cases F:u%2=1<;>simp[D,E,F]
def fa (n:Nat) (k:Int):Nat:=n*2^(-k).toNat
def fb (d:Nat) (k:Int):Nat:=d*2^k.toNat
def fq (n d:Nat) (k:Int):Nat:=fa n k/fb d k
theorem ZmQ {d:Nat}(h:0<d)(k:Int):0<fb d k:=sH h (p2 _)
theorem Zks (n d:Nat)(k:Int)(j:Nat):∃ c,0<c∧fa n k=fa n (k+j)*c∧fb d k*2^j=fb d (k+j)*c:=by
 unfold fa fb
 rcases Int.le_total 0 k with h|h
 ·obtain⟨m,rfl⟩:=vA h
  refine⟨1,qD,?_,?_⟩
  ·rw[show (-(m:Int)).toNat=0 by omega,show (-((m:Int)+j)).toNat=0 by omega];simp
  rw[show ((m:Int)).toNat=m by omega,show ((m:Int)+j).toNat=m+j by omega,uG,← uR,tU]
 obtain⟨m,b⟩:=vA (show 0 ≤ -k by omega)
 obtain rfl:k = -(m:Int):=qO
 rcases Nat.le_total j m with a|a
 ·refine⟨2^j,p2 j,?_,?_⟩
  ·rw[show (- -(m:Int)).toNat=m by omega,show (-(-(m:Int)+j)).toNat=m-j by omega,uG,← uR,oK a]
  rw[show (-(m:Int)).toNat=0 by omega,show (-(m:Int)+j).toNat=0 by omega]
 refine⟨2^m,p2 m,?_,?_⟩
 ·rw[show (- -(m:Int)).toNat=m by omega,show (-(-(m:Int)+j)).toNat=0 by omega];simp
 rw[show (-(m:Int)).toNat=0 by omega,show (-(m:Int)+j).toNat=j-m by omega,uG,uG,← uR,← uR,oK a,vW]
theorem Zan (n d:Nat)(k:Int)(j:Nat):fq n d (k+j)=fq n d k/2^j:=by
 obtain⟨c,a,b,e⟩:=Zks n d k j
 unfold fq
 rw[sM,b,e,rR _ _ a]
theorem ZoC {n d:Nat}(k:Int)(j:Nat)(a:0<d):gQ (fa n (k+(j+1:Nat))) (fb d (k+(j+1:Nat)))=iP (fq n d k) j (decide (fa n k%fb d k≠0)):=by
 obtain⟨c,b,e,f⟩:=Zks n d k (j+1)
 unfold fq
 rw[←Zlw (ZmQ a k),f,e,Zlv b]
def rk0 (n d bits:Nat):Int:=(blen n:Int)-blen d-bits
theorem ZiC {n d bits:Nat}(o:0<n)(i:0<d)(t:0<bits):bits≤blen (fq n d (rk0 n d bits))∧blen (fq n d (rk0 n d bits))≤bits+1:=by
 have f:=ZcF o
 have j:=gB n
 have g:=ZcF i
 have k:=gB d
 obtain⟨p,r⟩:∃ p,blen n=p+1:=⟨blen n-1,by have:=cL o;omega⟩
 obtain⟨q,s⟩:∃ q,blen d=q+1:=⟨blen d-1,by have:=cL i;omega⟩
 obtain⟨b,rfl⟩:∃ b,bits=b+1:=⟨bits-1,qO⟩
 have c:fb d (rk0 n d (b+1))*2^b≤fa n (rk0 n d (b+1))∧fa n (rk0 n d (b+1))<fb d (rk0 n d (b+1))*2^(b+2):=by
  unfold fa fb rk0
  rw[r] at f j ⊢
  rw[s] at g k ⊢
  rw[tH] at f g
  rcases Int.le_total 0 ((p+1:Nat)-(q+1:Nat)-(b+1:Nat):Int) with h|h
  ·obtain⟨m,l⟩:=vA h
   have a:p=q+m+b+1:=qO
   subst a
   rw[l,show ((m:Nat):Int).toNat=m by omega,show (-((m:Nat):Int)).toNat=0 by omega]
   simp only[vV,tU]
   constructor
   ·refine uC ?_ f
    rw[show q+m+b+1=(q+1)+(m+b) by omega,uR,uG,← uR]
    exact uE _ (rW k)
   refine uS j ?_
   rw[show q+m+b+1+1=q+(m+(b+2)) by omega,uR 2 q,uG,← uR 2 m]
   exact uE _ g
  obtain⟨m,l⟩:=vA (show 0 ≤ -((p+1:Nat)-(q+1:Nat)-(b+1:Nat):Int) by omega)
  have a:p+m=q+b+1:=qO
  rw[l,show ((m:Nat):Int).toNat=m by omega,show ((p+1:Nat)-(q+1:Nat)-(b+1:Nat):Int).toNat=0 by omega]
  simp only[vV,tU]
  constructor
  ·refine uC ?_ (uE _ f)
   rw[←uR,a,show q+b+1=(q+1)+b by omega,uR]
   exact uE _ (rW k)
  refine uS ((qV (p2 m)).2 j) ?_
  rw[←uR,show p+1+m=q+(b+2) by omega,uR]
  exact uE _ g
 have e:=ZmQ i (rk0 n d (b+1))
 constructor
 ·have:2^b≤fq n d (rk0 n d (b+1)):=by
   unfold fq
   rw[qJ e,uF];exact c.1
  have:=jU.2 this
  omega
 refine xW.2 ?_
 unfold fq
 rw[vM e,uF];exact c.2
def rndK (n d bits:Nat):Int:=if blen (fq n d (rk0 n d bits))=bits then rk0 n d bits else rk0 n d bits+1
theorem Zbs {n d bits:Nat}(a:0<n)(b:0<d)(c:0<bits):blen (fq n d (rndK n d bits))=bits:=by
 obtain⟨e,f⟩:=ZiC a b c
 unfold rndK
 split
 ·assumption
 have:=Zan n d (rk0 n d bits) 1
 rw[show (rk0 n d bits+1:Int)=rk0 n d bits+(1:Nat) by simp,this,bF]
 omega
theorem Zkt {n d bits:Nat}(c:0<n)(e:0<d)(f:0<bits){k:Int}(h:blen (fq n d k)=bits):rndK n d bits=k:=by
 have b:=Zbs c e f
 rcases Int.lt_trichotomy (rndK n d bits) k with a|a|a
 ·obtain⟨j,g⟩:=vA (show 0≤k-rndK n d bits by omega)
  have:=Zan n d (rndK n d bits) j
  rw[show rndK n d bits+(j:Int)=k by omega] at this
  rw[this,bF,b] at h
  omega
 ·exact a
 obtain⟨j,g⟩:=vA (show 0≤rndK n d bits-k by omega)
 have:=Zan n d k j
 rw[show k+(j:Int)=rndK n d bits by omega] at this
 rw[this,bF,h] at b
 omega
def rndM (n d bits:Nat):Nat:=gQ (fa n (rndK n d bits)) (fb d (rndK n d bits))
theorem ZgH (a b:Nat):a/b≤gQ a b∧gQ a b≤a/b+1:=by unfold gQ;split<;>omega
theorem ZoD {n d bits:Nat}(a:0<n)(b:0<d)(c:0<bits):0<rndM n d bits:=by
 have h:=Zbs a b c
 have:=(ZgH (fa n (rndK n d bits)) (fb d (rndK n d bits))).1
 have f:0<fq n d (rndK n d bits):=by
  rcases uI (fq n d (rndK n d bits)) with e|e
  ·rw[e,iW] at h;omega
  exact e
 unfold rndM
 unfold fq at f
 omega
theorem ZdS {n d bits:Nat}(c:0<n)(a:0<d)(e:0<bits)(k:Int)(j:Nat)(h:blen (fq n d k)=bits+(j+1)) :
 rndK n d bits=k+(j+1:Nat)∧rndM n d bits=iP (fq n d k) j (decide (fa n k%fb d k≠0)):=by
 have b:rndK n d bits=k+(j+1:Nat):=Zkt c a e (by rw[Zan,bF,h];omega)
 refine⟨b,?_⟩
 unfold rndM
 rw[b,ZoC k j a]
theorem Zp7 {n bits:Nat}(a:0<n)(c:0<bits)(h:blen n≤bits):rndK n 1 bits=(blen n:Int)-bits∧rndM n 1 bits=n*2^(bits-blen n):=by
 have b:rndK n 1 bits=(blen n:Int)-bits:=Zkt a qD c (by
  unfold fq fa fb
  rw[show (-((blen n:Int)-bits)).toNat=bits-blen n by omega,show ((blen n:Int)-bits).toNat=0 by omega]
  simp only[vV,tU,rM]
  rw[Zam a];omega)
 refine⟨b,?_⟩
 unfold rndM
 rw[b]
 unfold fa fb
 rw[show (-((blen n:Int)-bits)).toNat=bits-blen n by omega,show ((blen n:Int)-bits).toNat=0 by omega]
 simp only[vV,tU,ZoB]
theorem Zp8 {a s r bits:Nat}(g:0<bits)(ha:bits+1≤blen a)(h:0<r)(c:r<2^s) :
 rndK (a*2^s+r) 1 bits=(s:Int)+(blen a:Int)-bits∧rndM (a*2^s+r) 1 bits=iP a (blen a-bits-1) true:=by
 have i:0<a*2^s+r:=qO
 obtain⟨j,b⟩:∃ j,blen a=bits+(j+1):=⟨blen a-bits-1,qO⟩
 have e:fq (a*2^s+r) 1 (s:Int)=a:=by
  unfold fq fa fb
  rw[show (-(s:Int)).toNat=0 by omega,show ((s:Int)).toNat=s by omega]
  simp only[vV,tU,rO]
  rw[uF,rB (p2 s),tM c,tD]
 have k:fa (a*2^s+r) (s:Int)%fb 1 (s:Int)=r:=by
  unfold fa fb
  rw[show (-(s:Int)).toNat=0 by omega,show ((s:Int)).toNat=s by omega]
  simp only[vV,tU,rO]
  rw[uF,rZ,vC c]
 obtain⟨l,f⟩:=ZdS (n:=a*2^s+r) i (d:=1) qD g (s:Int) j (by rw[e];exact b)
 rw[e,k] at f
 refine⟨by rw[l,b];omega,?_⟩
 rw[f,b,show bits+(j+1)-bits-1=j by omega,show decide (r≠0)=true from vS qO]
def tzn (n:Nat):Nat:=if h:n=0∨n%2=1 then 0 else tzn (n/2)+1
termination_by n
decreasing_by omega
theorem Zku {n:Nat}(h:n%2=1):tzn n=0:=by rw[tzn,dif_pos (Or.inr h)]
theorem Zkv {n:Nat}(h:0<n):tzn (n*2)=tzn n+1:=by
 rw[tzn,dif_neg qO,pE _ qD]
theorem Zb8 {n:Nat}(h:0<n):∀ j,tzn (n*2^j)=tzn n+j
 | 0=>qS
 | j+1=>by rw[uN,← uG,Zkv (sH h (p2 j)),Zb8 h j];omega
theorem ZmR:∀ n:Nat,0<n→∃ o,o%2=1∧n=o*2^tzn n:=by
 intro n
 induction n using Nat.strongRecOn with
 | ind n ih =>
  intro h
  by_cases a:n%2=1
  ·exact⟨n,a,by rw[Zku a];simp⟩
  obtain⟨m,rfl⟩:∃ m,n=m*2:=⟨n/2,qO⟩
  obtain⟨o,b,c⟩:=ih m qO qO
  exact⟨o,b,by rw[Zkv qO,uN,← uG,← c]⟩
theorem Za3 {o:Nat}(h:o%2=1)(j:Nat):tzn (o*2^j)=j:=by rw[Zb8 qO,Zku h];omega
def oddM (n:Nat):Nat:=n/2^tzn n
theorem Zb9 {o:Nat}(h:o%2=1)(j:Nat):oddM (o*2^j)=o:=by unfold oddM;rw[Za3 h,pE _ (p2 j)]
theorem kJ {n:Nat}(h:0<n):oddM n%2=1∧n=oddM n*2^tzn n:=by
 obtain⟨o,a,b⟩:=ZmR n h
 have:oddM n=o:=by rw[b];exact Zb9 a _
 rw[this];exact⟨a,b⟩
theorem ZoE {n:Nat}(h:0<n)(j:Nat):oddM (n*2^j)=oddM n:=by
 obtain⟨a,b⟩:=kJ h
 have:n*2^j=oddM n*2^(tzn n+j):=by rw[uR,← uG,← b]
 rw[this,Zb9 a]
theorem ZmS {n:Nat}(h:0<n)(j:Nat):tzn n<j↔n%2^j≠0:=by
 obtain⟨i,f⟩:=kJ h
 constructor
 ·intro g e
  obtain⟨d,b⟩:∃ d,j=tzn n+(d+1):=⟨j-tzn n-1,qO⟩
  have a:=Nat.dvd_of_mod_eq_zero e
  rw[b,uR,uF] at a
  rw[f] at a
  rw[Za3 i] at a
  have:=Nat.dvd_of_mul_dvd_mul_right (p2 _) a
  rw[uN] at this
  have:2∣oddM n:=Nat.dvd_trans ⟨_,uF _ _⟩ this
  omega
 intro c
 refine qF fun g=>c ?_
 obtain⟨d,b⟩:=oM g
 rw[f,b,uR,← uG,uF (oddM n),uG,Nat.mul_mod_right]
def isq (n:Nat):Nat:=if h:n=0 then 0 else let r:=2*isq (n/4);if (r+1)*(r+1)≤n then r+1 else r
termination_by n
decreasing_by omega
theorem dG:∀ n,isq n*isq n≤n∧n<(isq n+1)*(isq n+1):=by
 intro n
 induction n using Nat.strongRecOn with
 | ind n ih =>
  by_cases h:n=0
  ·subst h;rw[isq];simp
  obtain⟨d,e⟩:=ih (n/4) qO
  rw[isq,dif_neg h]
  generalize isq (n/4)=r at *
  simp only
  have b:2*r*(2*r)=4*(r*r):=by rw[rX]
  have c:(2*r+1+1)*(2*r+1+1)=4*((r+1)*(r+1)):=by
   rw[show 2*r+1+1=2*(r+1) by omega,rX]
  split
  ·rename_i a
   refine⟨a,?_⟩
   rw[c];omega
  rename_i a
  refine⟨?_,qO⟩
  rw[b];omega
theorem Zf0 {n r:Nat}(a:r*r≤n)(b:n<(r+1)*(r+1)):isq n=r:=by
 obtain⟨c,d⟩:=dG n
 rcases qU (isq n) r with h|h|h
 ·have:=vO (show isq n+1≤r by omega) (show isq n+1≤r by omega);omega
 ·exact h
 have:=vO (show r+1≤isq n by omega) (show r+1≤isq n by omega);omega
theorem pow4 (j:Nat):2^(2*j)=2^j*2^j:=by rw[←uR];congr 1;omega
theorem Zkw (n j:Nat):isq (n/2^(2*j))=isq n/2^j:=by
 obtain⟨a,b⟩:=dG n
 generalize isq n=r at *
 have c:=vX r (2^j)
 have d:=uM r (p2 j)
 refine Zf0 ?_ ?_
 ·rw[qJ (p2 _),pow4,rX]
  have:r/2^j*2^j≤r:=qY _ _
  exact uC (vO this this) a
 rw[vM (p2 _),pow4,rX]
 have:r+1≤(r/2^j+1)*2^j:=by rw[uT,rO,uF];omega
 exact uS b (vO this this)
theorem ZoF {n b:Nat}(d:2*b+2≤blen n)(c:blen n≤2*b+3):b+1≤blen (isq n)∧blen (isq n)≤b+2:=by
 obtain⟨e,f⟩:=dG n
 have l:=jU.1 (show 2*b+1<blen n by omega)
 have u:=xW.1 c
 generalize isq n=r at *
 have g:b<blen r:=by
  refine qF fun h=>?_
  have:=xW.1 h
  have a:=vO (show r+1≤2^b by omega) (show r+1≤2^b by omega)
  rw[←pow4] at a
  have:2^(2*b)≤2^(2*b+1):=uW qD qO
  omega
 refine⟨qO,xW.2 (qF fun h=>?_)⟩
 have a:=vO h h
 rw[←pow4] at a
 have:2^(2*b+3)≤2^(2*(b+2)):=uW qD qO
 omega
theorem ZmT (q j:Nat)(m:Bool):iP q j m=iP (q/2^j) 0 (decide (q%2^j≠0∨m=true)):=by
 unfold iP
 simp only[vV,rM,Nat.mod_one,vW,Nat.pow_one,ne_eq,not_true_eq_false,false_or,tF]
 rw[sM,← uN]
 have e:(¬ q%2^j=0∨q/2^(j+1)%2=1∨m=true)↔(q/2^(j+1)%2=1∨¬ q%2^j=0∨m=true):=by
  constructor
  ·rintro (h|h|h);exact Or.inr (Or.inl h);exact Or.inl h;exact Or.inr (Or.inr h)
  rintro (h|h|h);exact Or.inr (Or.inl h);exact Or.inl h;exact Or.inr (Or.inr h)
 simp only[pZ,e]
def jY (M:Nat) (s:Int):Bool:=decide (s<0∨isq (fq M 1 (-s))*isq (fq M 1 (-s))≠fq M 1 (-s))
theorem ZaK (M:Nat)(s:Nat):fq M 1 (-(s:Int))=M*2^s:=by
 unfold fq fa fb
 rw[show (- -(s:Int)).toNat=s by omega,show (-(s:Int)).toNat=0 by omega];simp
theorem Zlx {M:Nat}(i:M%2=1)(s:Int)(j:Nat):jY M (s-2*j)=decide (isq (fq M 1 (-s))%2^j≠0∨jY M s=true):=by
 unfold jY
 have k:fq M 1 (-(s-2*j))=fq M 1 (-s)/2^(2*j):=by rw[←Zan];congr 1;omega
 rw[k,Zkw]
 simp only[tF]
 rw[pC]
 constructor
 ·intro h
  refine tV fun a=>?_
  have l:isq (fq M 1 (-s))%2^j=0:=tV fun h=>a (Or.inl h)
  have d:0≤s:=tV fun h=>a (Or.inr (Or.inl qO))
  have b:isq (fq M 1 (-s))*isq (fq M 1 (-s))=fq M 1 (-s):=tV fun h=>a (Or.inr (Or.inr h))
  obtain⟨t,rfl⟩:=vA d
  rw[ZaK] at *
  generalize isq (M*2^t)=r at *
  obtain⟨q,rfl⟩:=Nat.dvd_of_mod_eq_zero l
  rw[pB _ (p2 j)] at h
  have e:M*2^t=(q*q)*2^(2*j):=by rw[←b,pow4];simp only[uG,uF,tE]
  rcases h with h|h
  ·have c:0<q:=by
    rcases uI q with f|f
    ·subst f
     have:0<M*2^t:=sH qO (p2 t)
     simp at b;omega
    exact f
   have m:=Za3 i t
   rw[e,Zb8 (sH c c)] at m
   omega
  rw[e,pE _ (p2 _)] at h
  exact h rfl
 intro h
 refine tV fun a=>?_
 have d:0≤s-2*j:=tV fun h=>a (Or.inl qO)
 have b:isq (fq M 1 (-s))/2^j*(isq (fq M 1 (-s))/2^j)=fq M 1 (-s)/2^(2*j):=tV fun h=>a (Or.inr h)
 obtain⟨t,p⟩:=vA d
 obtain rfl:s=((t+2*j:Nat):Int):=qO
 rw[ZaK] at *
 have n:M*2^(t+2*j)/2^(2*j)=M*2^t:=by rw[uR,← uG,pE _ (p2 _)]
 rw[n] at b
 obtain⟨q,c⟩:=yE (isq (M*2^(t+2*j))/2^j)
 rw[c] at b
 have g:M*2^(t+2*j)=q*2^j*(q*2^j):=by
  rw[rX,b,← pow4,uR,uG]
 have o:isq (M*2^(t+2*j))=q*2^j:=Zf0 (by rw[←g];exact uH _) (by
  rw[g];have:=pT (pV (q*2^j)) (pV (q*2^j));exact this)
 rw[o] at h
 rcases h with h|h|h
 ·exact h (Nat.mul_mod_left _ _)
 ·omega
 exact h g.symm
def sqK (M:Nat) (E:Int) (bits:Nat):Int:=((blen M:Int)+E-1)/2-((bits:Int)-1)
def sqM (M:Nat) (E:Int) (bits:Nat):Nat:=iP (isq (fq M 1 (-(E-2*sqK M E bits+2)))) 0 (jY M (E-2*sqK M E bits+2))
theorem Za4 {M:Nat}(h:0<M)(s:Int)(c:0≤(blen M:Int)+s):(blen (fq M 1 (-s)):Int)=blen M+s:=by
 rcases Int.le_total 0 s with a|a
 ·obtain⟨t,rfl⟩:=vA a
  rw[ZaK,Zam h];omega
 obtain⟨t,b⟩:=vA (show 0 ≤ -s by omega)
 have:=Zan M 1 0 t
 rw[Int.zero_add] at this
 rw[b,this,bF]
 have e:fq M 1 0=M:=by unfold fq fa fb;simp
 rw[e];omega
theorem ZoG {M:Nat}(k:M%2=1)(E:Int){bits:Nat}(u:0<bits)(s:Int)(v:(E-s)%2=0)(w:(2*bits+2:Int)≤blen M+s)(x:(blen M:Int)+s≤2*bits+3) :
 let r:=isq (fq M 1 (-s));let j:=blen r-bits-1
 blen r=bits+(j+1)∧(E-s)/2+(j+1:Nat)=sqK M E bits∧sqM M E bits=iP r j (jY M s):=by
 intro r j
 have d:0<M:=qO
 have e:=Za4 d s qO
 obtain⟨y,z⟩:=ZoF (b:=bits) (n:=fq M 1 (-s)) qO qO
 have l:blen r=bits+(j+1):=by show blen (isq (fq M 1 (-s)))=bits+(blen (isq (fq M 1 (-s)))-bits-1+1);omega
 have f:j≤1:=by show blen (isq (fq M 1 (-s)))-bits-1≤1;omega
 -- the exponent
 obtain⟨g,h⟩:=dG (fq M 1 (-s))
 have m:isq (fq M 1 (-s))=r:=rfl
 rw[m] at g h
 have a:=jU.1 (show bits+j<blen r by omega)
 have c:=xW.1 (show blen r≤bits+j+1 by omega)
 have o:2^(2*(bits+j))≤fq M 1 (-s):=by rw[pow4];exact uC (vO a a) g
 have p:fq M 1 (-s)<2^(2*(bits+j+1)):=by rw[pow4];exact uS h (vO c c)
 have A:=jU.2 o
 have B:=xW.2 p
 have i:(E-s)/2+(j+1:Nat)=sqK M E bits:=by unfold sqK;omega
 refine⟨l,i,?_⟩
 unfold sqM
 have q:E-2*sqK M E bits+2=s-2*(j:Int):=by rw[←i];omega
 have t:fq M 1 (-(s-2*(j:Int)))=fq M 1 (-s)/2^(2*j):=by rw[←Zan];congr 1;omega
 rw[q,t,Zkw,ZmT r j,Zlx k]
structure FR where
 s:Bool
 m:Nat
 e:Int
 err:Int
def ZhV:FR:=⟨false,0,0,0⟩
def errR (k:Int):FR:=⟨false,0,0,k⟩
def okE (e:Int):Prop := -1048576≤e∧e≤1048576
instance (e:Int):Decidable (okE e):=inferInstanceAs (Decidable (_∧_))
def wP (s:Bool) (n:Nat) (e:Int):FR:=if n=0 then ZhV else if okE (e+tzn n) then ⟨s,oddM n,e+tzn n,0⟩ else errR 2
theorem ZmU {n:Nat}(s:Bool)(h:0<n)(j:Nat)(e:Int):wP s (n*2^j) e=wP s n (e+j):=by
 unfold wP
 have a:=sH h (p2 j)
 rw[uL (show ¬ n*2^j=0 by omega),uL (show ¬ n=0 by omega),Zb8 h,ZoE h]
 have:e+((tzn n+j:Nat):Int)=e+j+tzn n:=qO
 rw[this]
def lC (s:Bool) (n:Nat) (e:Int) (bits:Nat) (more:Bool):FR :=
 if blen n≤bits then wP s n e else wP s (iP n (blen n-bits-1) more) (e+(blen n-bits:Nat))
def wK (s:Bool) (n d:Nat) (e:Int) (bits:Nat):FR:=if n=0 then ZhV else wP s (rndM n d bits) (e+rndK n d bits)
theorem ZeN (s:Bool)(e:Int)(bits:Nat)(more:Bool):lC s 0 e bits more=ZhV:=by
 unfold lC;rw[uQ (by rw[iW];omega)];rfl
theorem iQ (s:Bool)(d:Nat)(e:Int)(bits:Nat):wK s 0 d e bits=ZhV:=rfl
theorem kU (s:Bool)(n:Nat)(e:Int){bits:Nat}(f:0<bits):lC s n e bits false=wK s n 1 e bits:=by
 rcases uI n with rfl|b
 ·rw[ZeN,iQ]
 unfold lC wK
 rw[uL (show ¬ n=0 by omega)]
 split
 ·rename_i h
  obtain⟨c,a⟩:=Zp7 b f h
  rw[c,a,ZmU s b]
  congr 1;omega
 rename_i h
 obtain⟨j,g⟩:∃ j,blen n=bits+(j+1):=⟨blen n-bits-1,qO⟩
 have i:fq n 1 0=n:=by unfold fq fa fb;simp
 have k:fa n 0%fb 1 0=0:=by unfold fb;simp[Nat.mod_one]
 obtain⟨c,a⟩:=ZdS b (d:=1) qD f 0 j (by rw[i];exact g)
 rw[i,k] at a
 rw[c,a,g,show bits+(j+1)-bits-1=j by omega,show bits+(j+1)-bits=j+1 by omega,Int.zero_add]
 rfl
theorem ZjN (s:Bool){n d:Nat}(e:Int){bits:Nat}(a:0<n)(b:0<d)(c:0<bits) :
 lC s (fq n d (rk0 n d bits-1)) (e+(rk0 n d bits-1)) bits (decide (fa n (rk0 n d bits-1)%fb d (rk0 n d bits-1)≠0))=wK s n d e bits:=by
 obtain⟨h,i⟩:=ZiC a b c
 have f:=Zan n d (rk0 n d bits-1) 1
 rw[show rk0 n d bits-1+(1:Nat)=rk0 n d bits by omega] at f
 rw[f,bF] at h i
 generalize o:rk0 n d bits-1=k at *
 obtain⟨j,g⟩:∃ j,blen (fq n d k)=bits+(j+1):=⟨blen (fq n d k)-bits-1,qO⟩
 obtain⟨l,m⟩:=ZdS a b c k j g
 unfold lC wK
 rw[uL qO,uL qO,l,m,g,show bits+(j+1)-bits-1=j by omega,show bits+(j+1)-bits=j+1 by omega,Int.add_assoc]
def addR (sx:Bool) (xm:Nat) (xe:Int) (sy:Bool) (ym:Nat) (ye:Int) (bits:Nat):FR :=
 wK (decide (sg sx (xm*2^(xe-min xe ye).toNat)+sg sy (ym*2^(ye-min xe ye).toNat)<0)) (sg sx (xm*2^(xe-min xe ye).toNat)+sg sy (ym*2^(ye-min xe ye).toNat)).natAbs 1 (min xe ye) bits
theorem ZmV (sx:Bool)(b:Nat)(xe:Int)(c:Bool)(ym:Nat)(a:Int)(bits:Nat):addR sx b xe c ym a bits=addR c ym a sx b xe bits:=by
 unfold addR;rw[Int.min_comm a xe,Int.add_comm]
theorem Zhh {a s r:Nat}(c:Bool)(e:Int){bits:Nat}(d:0<bits)(ha:bits+1≤blen a)(b:0<r)(f:r<2^s) :
 wK c (a*2^s+r) 1 e bits=wP c (iP a (blen a-bits-1) true) (e+s+(blen a:Int)-bits):=by
 obtain⟨g,h⟩:=Zp8 d ha b f
 unfold wK
 rw[uL qO,g,h]
 congr 1;omega
theorem ZmW {s t:Bool}{a b:Nat}(h:b<a):decide (sg s a+sg t b<0)=s∧(sg s a+sg t b).natAbs=(if s=t then a+b else a-b):=by
 cases s<;>cases t<;>simp[sg]<;>omega
theorem Zly (sx:Bool){a:Nat}(xe:Int)(b:Bool){ym:Nat}(c:Int){bits:Nat}(k:0<bits)(m:0<a)(l:0<ym){f:Int}(C:f≤xe)(D:f≤blen a+xe-bits-2)(F:blen ym+c≤f) :
 addR sx a xe b ym c bits=addR sx a xe b 1 (f-1) bits:=by
 have n:=cL l
 have d:∀ (s r:Nat) (E:Int),E=f-s→0<r→r<2^s→wK (decide (sg sx (a*2^(xe-E).toNat)+sg b r<0)) (sg sx (a*2^(xe-E).toNat)+sg b r).natAbs 1 E bits =
  wP sx (iP (if sx=b then a*2^(xe-f).toNat else a*2^(xe-f).toNat-1) (blen (if sx=b then a*2^(xe-f).toNat else a*2^(xe-f).toNat-1)-bits-1) true) (f+(blen (if sx=b then a*2^(xe-f).toNat else a*2^(xe-f).toNat-1):Int)-bits):=by
  intro s r E Q h o
  have i:a*2^(xe-E).toNat=a*2^(xe-f).toNat*2^s:=by
   rw[uG,← uR];congr 2;omega
  have G:bits+2≤blen (a*2^(xe-f).toNat):=by rw[Zam m];omega
  rw[i]
  generalize a*2^(xe-f).toNat=X at *
  have p:=jU.1 (show bits+1<blen X by omega)
  have H:2^bits*2=2^(bits+1):=(uN ..).symm
  have q:=p2 bits
  have u:=p2 s
  have j:1≤X:=qO
  have v:2^s≤X*2^s:=by have:=uE (2^s) j;omega
  obtain⟨w,x⟩:=ZmW (s:=sx) (t:=b) (show r<X*2^s by omega)
  rw[w,x]
  by_cases e:sx=b
  ·rw[uQ e,uQ e,Zhh sx E k qO h o]
   congr 1;omega
  rw[uL e,uL e]
  have y:X*2^s-r=(X-1)*2^s+(2^s-r):=by rw[Nat.sub_mul,rO];omega
  have g:bits+1≤blen (X-1):=jU.2 qO
  rw[y,Zhh sx E k g qO qO]
  congr 1;omega
 have z:c<f:=qO
 obtain⟨s,e⟩:=vA (show 0≤f-c by omega)
 have A:=d s ym c qO l (uS (gB ym) (uW qD qO))
 have B:=d 1 1 (f-1) qO qD qD
 unfold addR
 rw[show min xe c=c by omega,show min xe (f-1)=f-1 by omega,show (c-c).toNat=0 by omega,show (f-1-(f-1)).toNat=0 by omega]
 simp only[vV,tU]
 rw[A,B]
def Zay (m:Nat) (e:Int) (bits:Nat):FR:=wP false (sqM m e bits) (sqK m e bits)
theorem Zac {m:Nat}(a:m%2=1)(e:Int){bits:Nat}(b:0<bits)(s:Int)(c:(e-s)%2=0)(d:(2*bits+2:Int)≤blen m+s)(f:(blen m:Int)+s≤2*bits+3) :
 lC false (isq (fq m 1 (-s))) ((e-s)/2) bits (jY m s)=Zay m e bits:=by
 obtain⟨i,g,h⟩:=ZoG a e b s c d f
 unfold lC Zay
 rw[uL qO,h,← g]
 congr 1;omega
end Go.Proofs.YtenchljfmfgeoaaGreatDoor
namespace Go.Proofs.YtenchljfmfgeoaaGreatDoor
open Go.RowKit Tryz
theorem Zp9 (n d bits:Nat):rndK n d bits=rk0 n d bits∨rndK n d bits=rk0 n d bits+1:=by
 unfold rndK;split
 ·exact Or.inl rfl
 exact Or.inr rfl
theorem Zqa {n d bits:Nat}{k:Int}(a:k=rk0 n d bits∨k=rndK n d bits):(blen n:Int)-blen d-bits≤k∧k≤(blen n:Int)-blen d-bits+1:=by
 have h:=Zp9 n d bits
 unfold rk0 at *
 omega
section
variable {N:Nat} {S0:Nat→Prop} {w:World} {Φ:World→Prop} {P:Program}
theorem Zao (S0:Nat→Prop){fn:Func}{f:FuncId}{c:Code}{args:List Value}{R:Ending→World→Prop}(j:P.funcs[f]? = some fn)(l:fn.body=some c)(m:Nat.ble args.length fn.ntmps=true)(Q:Box (fun _=>False) w Φ)(h:SXc P fn.ntmps S0 w (bodyPost P fn R) c (ofL (Zcv 0 args) []) Φ):Calls P f args.toArray w R:=by
 refine calls_of_wp j l (h (fun _=>0) _ w ⟨?_,rfl,fun i x n=>?_,⟨fun b t p e=>(by cases e),fun b c e=>(by cases e),fun b e=>(by cases e),Fr.refl _ _,fun i b off e=>?_,fun b t p e=>(by cases e)⟩,?_⟩)
 ·have:=tJ m
  simp;omega
 ·obtain⟨_,v,hv,rfl⟩:=cK args 0 i x n
  have d:i<args.length:=by
   rcases vL i args.length with a|a
   ·exact a
   rw[vP qO] at hv;cases hv
  simp only[AV.conc]
  rw[Array.getElem?_append_left (by simpa using d)]
  simpa using hv
 ·obtain⟨_,v,hv,e'⟩:=cK args 0 i _ e
  cases e'
 intro w' g
 exact Q w' (g.mono (fun i _ a=>by obtain⟨b,e,_⟩:=a;cases e))
end
section
variable {P:Program} {o:Oper} {ρ:Operand→Value} {w:World} {x y:Operand} {t k:TypeId}
theorem Zqb {a:Nat}(b:o.op=Op.binOp .and t x y k:=by kernel_rfl)(c:ρ x=.int .u64 (a:Int):=by kernel_rfl)(d:ρ y=.int .u64 1:=by kernel_rfl)(ha:a<W64:=by assumption):(execOp ρ o).run P w=.ok (.value (.int .u64 ((a%2:Nat):Int))) w:=by
 have h:bits .and .u64 (a:Int) 1=((a%2:Nat):Int):=by
  have:=bits_and_u64_nat a 1 (by rw[←zL];exact ha) qD
  rw[Nat.and_one_is_mod] at this
  exact this
 rw[←h]
 simp only[execOp,b,c,d,eqGuard,binOp]
 rfl
end
theorem ZeO {xs:qN}{k t:Nat}(d:Dig W64 xs)(e:xs.length=k+1)(f:Trim xs)(b:xs[k]?.getD 0=t):blen (val W64 xs)=64*k+blen t:=by
 have g:0<t:=sO (by rw[←b];exact f k e)
 have c:=zS (B:=W64) k (show k<xs.length by omega)
 rw[uA qO,b] at c
 have a:=wA (d.take k)
 rw[uP,uV qO,dH] at a
 rw[c,dH]
 exact ZiA a g
theorem ZeP {t:Nat}(h:t<W64):Lib.bitLen t=blen t:=by
 rcases uI t with rfl|a
 ·rfl
 obtain⟨b,_,c,d⟩:=eG a h
 have:=Zeu (k:=Lib.bitLen t-1) c (by rw[oK b];exact d)
 omega
theorem ZmX (t:Nat)(w:World)(h:t<W64):yA 173 #[.int .u64 (t:Int)] w (RetV w (.int .i64 ((blen t:Nat):Int))):=by
 have a:=h
 rw[zL] at a
 refine (Tryz.bits_Len64 (t:Int) w qO qO).mono ?_
 rintro e w' ⟨rfl,rfl⟩
 exact⟨by rw[oO,ZeP h],Fr.refl _ _⟩
theorem Zlz (t:Nat)(w:World)(h:t<W64):yA 194 #[.int .u64 (t:Int)] w (RetV w (.int .i64 ((64-blen t:Nat):Int))):=by
 refine (aF t w h).mono ?_
 rintro e w' ⟨rfl,rfl⟩
 have:blen t≤64:=xW.2 (by rw[zL] at h;exact h)
 exact⟨by rw[ZeP h];congr 2;omega,Fr.refl _ _⟩
theorem ZoH (x:Nat)(w:World)(a:Glob w)(b:0<x)(h:x<W64):yA 200 #[.int .u64 (x:Int)] w (RetV w (.int .i64 ((tzn x:Nat):Int))):=by
 obtain⟨g,c⟩:=kJ b
 have d:tzn x<64:=by
  refine qF fun f=>?_
  have:=uW (n:=2) qD f
  have i:1*2^tzn x≤oddM x*2^tzn x:=uE _ qO
  rw[zL] at h
  omega
 refine (Zcs x (tzn x) (oddM x/2) w a (by rw[show 2*(oddM x/2)+1=oddM x by omega,uF];exact c) d h).mono ?_
 rintro e w' ⟨rfl,rfl⟩
 exact⟨rfl,Fr.refl _ _⟩
def ZerR (xs:List Nat) (k:Nat):Prop:=val W64 (xs.take k)=0
theorem ZerR.start (xs:qN):ZerR xs 0:=by unfold ZerR;simp
theorem ZerR.lt {xs:qN}{k:Nat}(h:ZerR xs k)(b:0<val W64 xs):k<xs.length:=by
 rcases vL k xs.length with a|a
 ·exact a
 unfold ZerR at h;rw[uA a] at h;omega
theorem ZerR.step {xs:qN}{k:Nat}(h:ZerR xs k)(a:k<xs.length)(b:xs[k]?.getD 0=0):ZerR xs (k+1):=by
 unfold ZerR at *
 rw[zS k a,h,b];simp
theorem Zqc {x r:Nat}(a:0<x)(b:x<W64):tzn (x+W64*r)=tzn x:=by
 obtain⟨g,c⟩:=kJ a
 have h:tzn x<64:=by
  refine qF fun d=>?_
  have:=uW (n:=2) qD d
  have i:1*2^tzn x≤oddM x*2^tzn x:=uE _ qO
  rw[zL] at b
  omega
 have e:x+W64*r=(oddM x+2^(64-tzn x)*r)*2^tzn x:=by
  rw[uT,← c,Nat.mul_right_comm,← uR,oK qO,zL]
 have f:2^(64-tzn x)=2*2^(63-tzn x):=by rw[show 64-tzn x=(63-tzn x)+1 by omega,uN,uF]
 rw[e]
 exact Za3 (by rw[f,uG];omega) _
theorem ZerR.done {xs:qN}{k x:Nat}(h:ZerR xs k)(c:Dig W64 xs)(d:k<xs.length)(a:xs[k]?.getD 0=x)(e:x≠0):tzn (val W64 xs)=64*k+tzn x:=by
 unfold ZerR at h
 have b:=xS (B:=W64) (xs:=xs) k
 rw[h,uV qO,xT k d,a,vW,dH,uF] at b
 rw[b,Zb8 qO,Zqc qO (a ▸ c.getD zJ k),vR]
theorem ZerR.bound {xs:qN}{k x:Nat}(b:Dig W64 xs)(c:xs[k]?.getD 0=x)(e:x≠0):tzn x<64:=by
 have a:x<W64:=c ▸ b.getD zJ k
 obtain⟨f,g⟩:=kJ (show 0<x by omega)
 refine qF fun d=>?_
 have:=uW (n:=2) qD d
 have h:1*2^tzn x≤oddM x*2^tzn x:=uE _ qO
 rw[zL] at a
 omega
theorem Zqd {xs:qN}{i x:Nat}(b:Dig W64 xs)(c:i/64<xs.length)(d:xs[i/64]?.getD 0=x):val W64 xs/2^i%2=x/2^(i%64)%2:=by
 have a:=Zgq xs (i/64) (i%64) b qO
 rw[show 64*(i/64)+i%64=i by omega] at a
 rw[←a,xT _ c,d]
 have g:i%64<64:=uM _ qD
 generalize i%64=t at *
 generalize val W64 (xs.drop (i/64+1))=r
 have e:W64*r=2^t*(2^(64-t)*r):=by rw[←uG,← uR,show t+(64-t)=64 by omega,zL]
 have f:2^(64-t)=2*2^(63-t):=by rw[show 64-t=(63-t)+1 by omega,uN,uF]
 rw[e,Nat.add_mul_div_left _ _ (p2 t),f,uG,rP]
theorem ZoI {xs:qN}{i:Nat}(a:Dig W64 xs)(b:¬ i/64<xs.length):val W64 xs/2^i%2=0:=by
 rw[Ze1 a qO]
theorem Zri (m:Nat):(((m%2:Nat):Int) == 1)=decide (m%2=1):=by
 rcases Nat.mod_two_eq_zero_or_one m with h|h<;>rw[h]<;>rfl
def DwR (xs:List Nat) (u k:Nat) (qs:List Nat) (r:Nat):Prop:=dP xs u k qs r∧qs.take k=xs.take k
theorem DwR.start {xs:qN}{u:Nat}(a:Dig W64 xs)(b:0<u):DwR xs u xs.length xs 0 :=
 ⟨⟨rfl,a,b,by rw[uX (uH _)];simp⟩,rfl⟩
theorem DwR.at {xs a:qN}{u k r:Nat}(h:DwR xs u (k+1) a r):a[k]?.getD 0=xs[k]?.getD 0:=by
 have:=vK (fun l=>l[k]?.getD 0) h.2
 simp only[tL (show k<k+1 by omega)] at this
 exact this
theorem DwR.step {xs a:qN}{u k r x:Nat}(h:DwR xs u (k+1) a r)(c:k<xs.length)(d:a[k]?.getD 0=x)(b:x<W64):DwR xs u k (a.set k (divQ r x u)) (divR r x u):=by
 refine⟨h.1.step c (h.at.symm.trans d) b,?_⟩
 have:=vK (List.take k) h.2
 rw[List.take_take,List.take_take,uV qO] at this
 rw[rH (uH k)];exact this
theorem Zhi (hi lo y:Nat)(w:World)(b:hi<y)(c:y<W64)(a:lo<W64):yA 174 #[.int .u64 (hi:Int),.int .u64 (lo:Int),.int .u64 (y:Int)] w (RetV w (.tuple #[.int .u64 ((divQ hi lo y:Nat):Int),.int .u64 ((divR hi lo y:Nat):Int)])):=by
 refine (Zbf hi lo y w b c a).mono ?_
 rintro e w' ⟨rfl,n,rfl⟩
 exact⟨rfl,(Fr.refl _ _).drewN n⟩
def SpR (zs0 ys:List Nat) (q o k:Nat) (zs:List Nat) (c b:Nat):Prop :=
 zs.length=zs0.length∧Dig W64 zs∧c<W64∧b≤1∧zs.take o=zs0.take o∧zs.drop (o+k)=zs0.drop (o+k) ∧
  val W64 (zs.take (o+k))+W64^o*(q*val W64 (ys.take k))=val W64 (zs0.take (o+k))+W64^(o+k)*(c+b)
theorem SpR.start {a:qN}(ys:qN)(q o:Nat)(h:Dig W64 a):SpR a ys q o 0 a 0 0:=⟨rfl,h,zJ,qO,rfl,rfl,qS⟩
theorem bX {zs a:qN}{k:Nat}(h:zs.drop k=a.drop k):zs[k]?.getD 0=a[k]?.getD 0:=by
 have:=vK (fun l=>l[0]?.getD 0) h
 simpa [vJ] using this
theorem ZiD {x q c:Nat}(a:x<W64)(b:q<W64)(d:c<W64):wJ x q+xL (xA x q) c 0<W64:=by
 have e:=eZ x q
 have f:=fD (xA x q) c 0
 have g:=Zcp a b
 refine bR _ (vE (m:=x*q+c) ?_ qO)
 rw[uK];omega
theorem SpR.step {a ys zs:qN}{q o k c b x z:Nat}(h:SpR a ys q o k zs c b)(p:o+k<a.length)(j:ys[k]?.getD 0=x)(l:zs[o+k]?.getD 0=z)(r:Dig W64 ys)(s:q<W64) :
 SpR a ys q o (k+1) (zs.set (o+k) (lN z (xE (xA x q) c 0) b)) (wJ x q+xL (xA x q) c 0) (lO z (xE (xA x q) c 0) b):=by
 obtain⟨u,m,v,A,B,n,C⟩:=h
 have f:x<W64:=j ▸ r.getD zJ k
 have g:z<W64:=l ▸ m.getD zJ _
 have D:a[o+k]?.getD 0=z:=(bX n).symm.trans l
 have F:=eZ x q
 have G:=fD (xA x q) c 0
 have H:=ZaT g (eY (xA x q) c 0) A
 refine⟨by simpa using u,m.set _ (aD _ _ _),ZiD f s v,Zco _ _ _,?_,?_,?_⟩
 ·rw[rH qO];exact B
 ·have e:=vK (List.drop 1) n
  rw[vU,vU] at e
  rw[tC qO,show o+(k+1)=o+k+1 by omega];exact e
 rw[show o+(k+1)=(o+k)+1 by omega,xJ _ _ _ _ qO,zS (o+k) p,lI k,D,j,uN]
 have i:lN z (xE (xA x q) c 0) b+x*q+c+b=z+W64*(wJ x q+xL (xA x q) c 0+lO z (xE (xA x q) c 0) b):=by
  rw[uK,uK];omega
 have d:=vK (W64^(o+k) * ·) i
 simp only[uK] at d
 have E:W64^o*(q*(val W64 (ys.take k)+W64^k*x))=W64^o*(q*val W64 (ys.take k))+W64^(o+k)*(x*q):=by
  rw[uK q,uK (W64^o),uR,tE q (W64^k) x,uG (W64^o),uF q x]
 rw[E,uG (W64^(o+k)) W64]
 simp only[uK]
 rw[uK] at C
 omega
def ZdT (zs0 ys:List Nat) (q o:Nat) (zs:List Nat) (b:Nat):Prop :=
 zs.length=zs0.length∧Dig W64 zs∧b≤1∧zs.take o=zs0.take o∧zs.drop (o+ys.length+1)=zs0.drop (o+ys.length+1) ∧
  val W64 (zs.take (o+ys.length+1))+W64^o*(q*val W64 ys)=val W64 (zs0.take (o+ys.length+1))+W64^(o+ys.length+1)*b
theorem SpR.done {a ys zs:qN}{q o c b z:Nat}(h:SpR a ys q o ys.length zs c b)(m:o+ys.length<a.length)(g:zs[o+ys.length]?.getD 0=z):ZdT a ys q o (zs.set (o+ys.length) (lN z c b)) (lO z c b):=by
 obtain⟨n,i,p,r,s,j,l⟩:=h
 have f:z<W64:=g ▸ i.getD zJ _
 have u:a[o+ys.length]?.getD 0=z:=(bX j).symm.trans g
 have v:=ZaT f p r
 refine⟨by simpa using n,i.set _ (aD _ _ _),Zco _ _ _,?_,?_,?_⟩
 ·rw[rH qO];exact s
 ·have e:=vK (List.drop 1) j
  rw[vU,vU] at e
  rw[tC qO];exact e
 rw[uA (uH ys.length)] at l
 rw[xJ _ _ _ _ qO,zS _ m,u,uN]
 have d:=vK (W64^(o+ys.length) * ·) v
 simp only[uK] at d
 rw[uG (W64^(o+ys.length)) W64]
 rw[uK] at l
 omega
def AbR (zs0 ys:List Nat) (o k:Nat) (zs:List Nat) (c:Nat):Prop :=
 zs.length=zs0.length∧Dig W64 zs∧c≤1∧zs.take o=zs0.take o∧zs.drop (o+k)=zs0.drop (o+k) ∧
  val W64 (zs.take (o+k))+W64^(o+k)*c=val W64 (zs0.take (o+k))+W64^o*val W64 (ys.take k)
theorem AbR.start {a:qN}(ys:qN)(o:Nat)(h:Dig W64 a):AbR a ys o 0 a 0:=⟨rfl,h,qO,rfl,rfl,qS⟩
theorem AbR.step {a ys zs:qN}{o k c x z:Nat}(h:AbR a ys o k zs c)(j:o+k<a.length)(d:ys[k]?.getD 0=x)(f:zs[o+k]?.getD 0=z)(l:Dig W64 ys):AbR a ys o (k+1) (zs.set (o+k) (xE z x c)) (xL z x c):=by
 obtain⟨m,g,n,p,i,r⟩:=h
 have q:a[o+k]?.getD 0=z:=(bX i).symm.trans f
 refine⟨by simpa using m,g.set _ (eY _ _ _),Zcn (f ▸ g.getD zJ _) (d ▸ l.getD zJ k) n,?_,?_,?_⟩
 ·rw[rH qO];exact p
 ·have e:=vK (List.drop 1) i
  rw[vU,vU] at e
  rw[tC qO,show o+(k+1)=o+k+1 by omega];exact e
 rw[show o+(k+1)=(o+k)+1 by omega,xJ _ _ _ _ qO,zS (o+k) j,lI k,q,d,uN]
 have b:=vK (W64^(o+k) * ·) (fD z x c)
 simp only[uK] at b
 rw[uK (W64^o),← uG (W64^o) (W64^k),← uR,uG (W64^(o+k)) W64]
 omega
def ZdU (zs0 ys:List Nat) (o:Nat) (zs:List Nat) (c:Nat):Prop :=
 zs.length=zs0.length∧Dig W64 zs∧c≤1∧zs.take o=zs0.take o∧zs.drop (o+ys.length+1)=zs0.drop (o+ys.length+1) ∧
  val W64 (zs.take (o+ys.length+1))+W64^(o+ys.length+1)*c=val W64 (zs0.take (o+ys.length+1))+W64^o*val W64 ys
theorem AbR.done {a ys zs:qN}{o c z:Nat}(h:AbR a ys o ys.length zs c)(i:o+ys.length<a.length)(d:zs[o+ys.length]?.getD 0=z):ZdU a ys o (zs.set (o+ys.length) (xE z 0 c)) (xL z 0 c):=by
 obtain⟨j,f,l,m,g,n⟩:=h
 have p:a[o+ys.length]?.getD 0=z:=(bX g).symm.trans d
 refine⟨by simpa using j,f.set _ (eY _ _ _),Zcn (d ▸ f.getD zJ _) zJ l,?_,?_,?_⟩
 ·rw[rH qO];exact m
 ·have e:=vK (List.drop 1) g
  rw[vU,vU] at e
  rw[tC qO];exact e
 rw[uA (uH ys.length)] at n
 rw[xJ _ _ _ _ qO,zS _ i,p,uN]
 have b:=vK (W64^(o+ys.length) * ·) (fD z 0 c)
 simp only[uK] at b
 rw[uG (W64^(o+ys.length)) W64]
 omega
theorem ZjO (A:qA)(xs:qN)(c:Nat)(w:World)(l:zD .u64 w A xs)(p:xs.length≤4294967296)(g:Dig W64 xs)(m:Trim xs) :
 yA 139 #[.slice A xs.length c] w (RetV w (.int .i64 ((blen (val W64 xs):Nat):Int))):=by
 refine zQ (Φ:=fun w=>zD .u64 w A xs) func139 rfl qK (fun w' n=>l.ext n) ?_
 refine yY (xq 1 [yJ 2 0] [] ?_)
 refine yZ (zC (yY (xq 3 [yB 5 ((((xs.length:Nat):Int):Int) == 0)] [] ?_)))
 refine xe (zA ?_)
 refine yQ (((((xs.length:Nat):Int):Int) == 0)) (fun d=>?_) fun d=>?_
 ·have f:=sN.1 d
  refine yY (xq 1 [yJ 2 0] [] ?_)
  refine yZ (zG (zM ?_))
  refine yR (yI 0) fun w' R Q=>?_
  exact⟨by obtain rfl:xs=[]:=vY.1 qO;rfl,R⟩
 have f:=lJ d
 refine zI (zA (yY (xq 3 [yJ 8 (IntKind.i64.wrap (((xs.length:Nat):Int)-1))] [] ?_)))
 rw[yW (((xs.length:Nat):Int)-1) (((xs.length-1:Nat):Int)) qO]
 refine xq 1 [yJ 9 (IntKind.i64.wrap (64*((xs.length-1:Nat):Int)))] [] ?_
 rw[yW (64*((xs.length-1:Nat):Int)) (((64*(xs.length-1):Nat):Int)) qO]
 refine xq 4 [eS1 10 A xs.length c,yJ 13 (IntKind.i64.wrap (((xs.length:Nat):Int)-1))] [] ?_
 rw[yW (((xs.length:Nat):Int)-1) (((xs.length-1:Nat):Int)) qO]
 refine xqk 14 (atA A (xs.length-1)) (fun w R Q=>wL (t:=107) (e:=141) (x:=.tmp 10) (ix:=.tmp 13) (len:=xs.length) (cap:=c) (i:=xs.length-1) ((Q).ne (j:=xs.length-1) qO) qO) ?_
 obtain⟨a,b⟩:=yE (xs[xs.length-1]?.getD 0)
 refine xqk 15 (yX (a:Int)) (fun w R Q=>by rw[←b];exact lG (t:=141) (x:=.tmp 14) (Q) (j:=xs.length-1) qO) ?_
 refine xqc 173 [yX (a:Int)] 16 (fun _:Unit=>yI ((blen a:Nat):Int)) _ (fun w R Q=>yN (ZmX a _ (by rw[←b];exact g.getD zJ _))) fun q=>?_
 refine xq 1 [(17,.v (yI (IntKind.i64.wrap (((64*(xs.length-1):Nat):Int)+((blen a:Nat):Int)))))] [] ?_
 rw[show IntKind.i64.wrap (((64*(xs.length-1):Nat):Int)+((blen a:Nat):Int))=((blen (val W64 xs):Nat):Int) by rw[ZeO (k:=xs.length-1) g qO m b,IntKind.wrap_i64];have:=xW.2 (show a<2^64 by have h:a<W64:=(by rw[←b];exact g.getD zJ _);rw[zL] at h;exact h);omega]
 refine xq 1 [yJ 2 ((blen (val W64 xs):Nat):Int)] [] ?_
 refine yZ (zG ?_)
 refine yR (yI ((blen (val W64 xs):Nat):Int)) fun w' R Q=>?_
 exact⟨rfl,R⟩
theorem ZlA (A:qA)(xs:qN)(c:Nat)(w:World)(u:zD .u64 w A xs)(B:xs.length≤4294967296)(m:Dig W64 xs)(v:Glob w)(z:0<val W64 xs) :
 yA 171 #[.slice A xs.length c] w (RetV w (.int .i64 ((tzn (val W64 xs):Nat):Int))):=by
 refine zQ (Φ:=fun w=>(zD .u64 w A xs∧Glob w)) func171 rfl qK (fun w' p=>⟨u.ext p,v.ext p⟩) ?_
 refine yY (xq 1 [yJ 2 0] [] ?_)
 refine yZ (yY (xq 1 [yJ 3 0] [] ?_))
 refine yZ (zC (zP ?_))
 refine yC [eS1 0 A xs.length c,yJ 2 0,yJ 3 ((0:Nat):Int)] [] (fun w=>(zD .u64 w A (xs)∧Glob w)) (fun w Q=>⟨Q.1,Q.2⟩) ?_
 refine xU (fun q r s=>∃ (k:Nat),r=ofL [eS1 0 A xs.length c,yJ 2 0,yJ 3 (k:Int)] []∧s=(fun w=>(zD .u64 w A (xs)∧Glob w))∧(ZerR xs k)∧q=(xs.length-k)) ((xs.length-0)) ⟨0,rfl,rfl,ZerR.start xs,rfl⟩ ?_
 rintro q r s ⟨k,rfl,rfl,n,rfl⟩
 refine zC (zC ?_)
 have h:=n.lt z
 refine zB (xq 2 [eS1 4 A xs.length c,yJ 5 (k:Int)] [] ?_)
 refine xqk 6 (atA A k) (fun w R Q=>wL (t:=107) (e:=141) (x:=.tmp 4) (ix:=.tmp 5) (len:=xs.length) (cap:=c) (i:=k) ((Q.1).ne (j:=k) qO) qO) ?_
 obtain⟨b,a⟩:=yE (xs[k]?.getD 0)
 refine xqk 7 (yX (b:Int)) (fun w R Q=>by rw[←a];exact lG (t:=141) (x:=.tmp 6) (Q.1) (j:=k) qO) ?_
 refine xq 1 [yB 8 (((b:Int):Int) == 0)] [] ?_
 refine xe (zA ?_)
 refine yQ ((((b:Int):Int) == 0)) (fun d=>?_) fun d=>?_
 ·have g:=sN.1 d
  refine zI (zA (zP (zB (xq 2 [yJ 10 (IntKind.i64.wrap ((k:Int)+1))] [] ?_))))
  rw[yW ((k:Int)+1) (((k+1:Nat):Int)) qO]
  refine xq 1 [yJ 3 ((k+1:Nat):Int)] [] ?_
  refine xe (xR ?_)
  refine yP [eS1 0 A xs.length c,yJ 2 0,yJ 3 (((k+1):Nat):Int)] [] (fun w=>(zD .u64 w A (xs)∧Glob w)) (fun w Q=>⟨Q.1,Q.2⟩) ?_
  exact xG ((xs.length-(k+1))) qO ⟨(k+1),rfl,rfl,(n.step h (by rw[a];omega)),rfl⟩
 have g:=lJ d
 refine xO (zH (zH (xY (zA (yY (xq 2 [yJ 12 (IntKind.i64.wrap (64*(k:Int)))] [] ?_))))))
 rw[yW (64*(k:Int)) (((64*k:Nat):Int)) qO]
 refine xq 2 [eS1 13 A xs.length c,yJ 14 (k:Int)] [] ?_
 refine xqk 15 (atA A k) (fun w R Q=>wL (t:=107) (e:=141) (x:=.tmp 13) (ix:=.tmp 14) (len:=xs.length) (cap:=c) (i:=k) ((Q.1).ne (j:=k) qO) qO) ?_
 obtain⟨l,f⟩:=yE (xs[k]?.getD 0)
 refine xqk 16 (yX (l:Int)) (fun w R Q=>by rw[←f];exact lG (t:=141) (x:=.tmp 15) (Q.1) (j:=k) qO) ?_
 obtain rfl:b=l:=by rw[←a,f]
 refine xqc 200 [yX (b:Int)] 17 (fun _:Unit=>yI ((tzn b:Nat):Int)) _ (fun w R Q=>yN (ZoH b _ Q.2 qO (by rw[←a];exact m.getD zJ _))) fun C=>?_
 refine xq 1 [yJ 18 (IntKind.i64.wrap (((64*k:Nat):Int)+((tzn b:Nat):Int)))] [] ?_
 rw[show IntKind.i64.wrap (((64*k:Nat):Int)+((tzn b:Nat):Int))=((tzn (val W64 xs):Nat):Int) by rw[n.done m h a qO,IntKind.wrap_i64];have:=ZerR.bound m a qO;omega]
 refine xq 1 [yJ 2 ((tzn (val W64 xs):Nat):Int)] [] ?_
 refine yZ (zG ?_)
 refine yR (yI ((tzn (val W64 xs):Nat):Int)) fun w' R Q=>?_
 exact⟨rfl,R⟩
theorem ZoJ (A:qA)(xs:qN)(c:Nat)(w:World)(m:zD .u64 w A xs)(l:Dig W64 xs)(i:Nat)(hi:i≤274877906944) :
 yA 170 #[.slice A xs.length c,.int .i64 ((i:Nat):Int)] w (RetV w (.bool (decide (val W64 xs/2^i%2=1)))):=by
 refine zQ (Φ:=fun w=>zD .u64 w A xs) func170 rfl qK (fun w' p=>m.ext p) ?_
 refine yY (xq 1 [yB 4 false] [] ?_)
 refine yZ (yY (xq 2 [(6,.v (yI (IntKind.i64.wrap (((i:Int)).tdiv 64))))] [] ?_))
 rw[show IntKind.i64.wrap ((((i:Int)).tdiv 64))=((i/64:Nat):Int) from tdq (i) 64 qO]
 refine xq 4 [yB 10 (decide (((i/64:Nat):Int)<((xs.length:Nat):Int)))] [] ?_
 rcases bl2 ((decide (((i/64:Nat):Int)<((xs.length:Nat):Int)))) with b|b
 ·rw[b]
  have g:=uB b
  have h:i/64<xs.length:=qO
  refine xq 3 [eS1 11 A xs.length c,(13,.v (yI (IntKind.i64.wrap (((i:Int)).tdiv 64))))] [] ?_
  rw[show IntKind.i64.wrap ((((i:Int)).tdiv 64))=((i/64:Nat):Int) from tdq (i) 64 qO]
  refine xqk 14 (atA A (i/64)) (fun w R Q=>wL (t:=107) (e:=141) (x:=.tmp 11) (ix:=.tmp 13) (len:=xs.length) (cap:=c) (i:=i/64) ((Q).ne (j:=i/64) qO) qO) ?_
  obtain⟨d,f⟩:=yE (xs[i/64]?.getD 0)
  refine xqk 15 (yX (d:Int)) (fun w R Q=>by rw[←f];exact lG (t:=141) (x:=.tmp 14) (Q) (j:=i/64) qO) ?_
  refine xq 2 [yJ 17 (((i:Int)).tmod 64)] [] ?_
  rw[show ((i:Int)).tmod 64=((i%64:Nat):Int) from tdr (i) 64]
  refine xqk 18 (yX ((d/2^(i%64):Nat):Int)) (fun w R Q=>Zix (t:=141) (x:=.tmp 15) (y:=.tmp 17) (k:=3) (ky:=.i64) (a:=d) (n:=(i%64)) qO) ?_
  refine xqk 19 (yX (((d/2^(i%64))%2:Nat):Int)) (fun w R Q=>Zqb (t:=141) (x:=.tmp 18) (y:=(Operand.const (Value.int IntKind.u64 1))) (k:=141) (a:=(d/2^(i%64))) (ha:=vE (vG _ _) (by rw[←f];exact l.getD zJ _))) ?_
  refine xq 1 [(20,.v (.bool (((((d/2^(i%64))%2:Nat):Int):Int) == 1)))] [] ?_
  rw[show ((((d/2^(i%64))%2:Nat):Int) == 1)=decide (val W64 xs/2^i%2=1) from (Zri _).trans (by rw[Zqd l h f])]
  refine xq 2 [yB 4 (decide (val W64 xs/2^i%2=1))] [] ?_
  refine yZ (zG ?_)
  refine yR (.bool (decide (val W64 xs/2^i%2=1))) fun w' R Q=>?_
  exact⟨rfl,R⟩
 rw[b]
 have g:=uD b
 have h:¬ i/64<xs.length:=qO
 refine xq 12 [yB 4 false] [] ?_
 refine yZ (zG ?_)
 refine yR (.bool false) fun w' R Q=>?_
 exact⟨by rw[ZoI l h];rfl,R⟩
theorem Zqe {xs ys:qN}{j x y:Nat}(c:j<xs.length)(d:j<ys.length)(h:xs.drop (j+1)=ys.drop (j+1))(a:xs[j]?.getD 0=x)(b:ys[j]?.getD 0=y)(e:x=y):xs.drop j=ys.drop j:=by
 subst e
 rw[tO c,tO d,h]
 rw[uO c] at a
 rw[uO d] at b
 simp only[rT] at a b
 rw[a,b]
theorem ZiE (A d:qA)(xs ys:qN)(c c2:Nat)(w:World)(S:zD .u64 w A xs)(T:zD .u64 w d ys)(V:xs.length≤4294967296)(G:Dig W64 xs)(H:Dig W64 ys)(I:Trim xs)(J:Trim ys) :
 yA 136 #[.slice A xs.length c,.slice d ys.length c2] w (RetV w (.int .i64 (cmpI ((val W64 xs:Nat):Int) ((val W64 ys:Nat):Int)))):=by
 refine zQ (Φ:=fun w=>(zD .u64 w A xs∧zD .u64 w d ys)) func136 rfl qK (fun w' K=>⟨S.ext K,T.ext K⟩) ?_
 refine yY (xq 1 [yJ 4 0] [] ?_)
 refine yZ (zC (yY (xq 5 [yB 10 ((((xs.length:Nat):Int):Int) != ((ys.length:Nat):Int))] [] ?_)))
 refine xe (zA ?_)
 refine yQ (((((xs.length:Nat):Int):Int) != ((ys.length:Nat):Int))) (fun h=>?_) fun h=>?_
 ·have s:=ZdL h
  refine zC (yY (xq 5 [yB 15 (decide (((xs.length:Nat):Int)<((ys.length:Nat):Int)))] [] ?_))
  refine xe (zA ?_)
  refine yQ ((decide (((xs.length:Nat):Int)<((ys.length:Nat):Int)))) (fun l=>?_) fun l=>?_
  ·have u:=uB l
   refine yY (xq 1 [yJ 4 (-1)] [] ?_)
   refine yZ (zG (zM (zM ?_)))
   refine yR (yI (-1)) fun w' R Q=>?_
   exact⟨by rw[←Zgm G H I J qO,jS qO],R⟩
  have u:=uD l
  refine zI (zA (yY (xq 1 [yJ 4 1] [] ?_)))
  refine yZ (zG (zM ?_))
  refine yR (yI 1) fun w' R Q=>?_
  exact⟨by rw[←Zgm G H I J qO,iZ qO],R⟩
 have s:=ZdM h
 refine zI (zA (zC (yY (xq 3 [yJ 18 (IntKind.i64.wrap (((xs.length:Nat):Int)-1))] [] ?_))))
 rw[yW (((xs.length:Nat):Int)-1) (((xs.length:Nat):Int)-1) qO]
 refine xq 1 [yJ 5 (((xs.length:Nat):Int)-1)] [] ?_
 refine yZ (zP ?_)
 refine yC [eS1 0 A xs.length c,eS1 1 d ys.length c2,yJ 4 0,yJ 5 (((xs.length:Nat):Int)-1)] [] (fun w=>(zD .u64 w A (xs)∧zD .u64 w d (ys))) (fun w Q=>⟨Q.1,Q.2⟩) ?_
 refine xU (fun L M O=>∃ (k:Nat),M=ofL [eS1 0 A xs.length c,eS1 1 d ys.length c2,yJ 4 0,yJ 5 ((k:Int)-1)] []∧O=(fun w=>(zD .u64 w A (xs)∧zD .u64 w d (ys)))∧(xs.drop k=ys.drop k)∧(k≤xs.length)∧L=(1+k)) ((1+xs.length)) ⟨xs.length,rfl,rfl,(by rw[uX (uH _),uX qO]),uH _,rfl⟩ ?_
 rintro L M O ⟨k,rfl,rfl,D,W,rfl⟩
 refine zC (yY (xq 2 [(20,.v (.bool (decide (((k:Int)-1)≥0))))] [] ?_))
 refine xe (zA ?_)
 refine yQ ((decide (((k:Int)-1)≥0))) (fun m=>?_) fun m=>?_
 ·have z:=uB m
  obtain⟨j,rfl⟩:∃ j,k=j+1:=⟨k-1,qO⟩
  rw[show ((((j+1):Nat):Int)-1)=(j:Int) by omega]
  refine zI (zA (zC (zP (zC ?_))))
  refine yO 9 zO ?_
  refine xqf 2 [eS1 23 A xs.length c,yJ 24 (j:Int)] [] ?_
  refine xqj 25 (atA A j) (fun w Q=>wL (t:=107) (e:=141) (x:=.tmp 23) (ix:=.tmp 24) (len:=xs.length) (cap:=c) (i:=j) ((Q.1).ne (j:=j) qO) qO) ?_
  obtain⟨f,a⟩:=yE (xs[j]?.getD 0)
  refine xqj 26 (yX (f:Int)) (fun w Q=>by rw[←a];exact lG (t:=141) (x:=.tmp 25) (Q.1) (j:=j) qO) ?_
  refine xqf 2 [eS1 27 d ys.length c2,yJ 28 (j:Int)] [] ?_
  refine xqj 29 (atA d j) (fun w Q=>wL (t:=107) (e:=141) (x:=.tmp 27) (ix:=.tmp 28) (len:=ys.length) (cap:=c2) (i:=j) ((Q.2).ne (j:=j) qO) qO) ?_
  obtain⟨g,b⟩:=yE (ys[j]?.getD 0)
  refine xqj 30 (yX (g:Int)) (fun w Q=>by rw[←b];exact lG (t:=141) (x:=.tmp 29) (Q.2) (j:=j) qO) ?_
  refine xqf 1 [yB 31 (((f:Int):Int) != (g:Int))] [] ?_
  refine xz (xe (zA ?_))
  refine yQ ((((f:Int):Int) != (g:Int))) (fun n=>?_) fun n=>?_
  ·have B:=ZdL n
   refine zC (zC ?_)
   refine yO 9 zO ?_
   refine xqf 2 [eS1 32 A xs.length c,yJ 33 (j:Int)] [] ?_
   refine xqj 34 (atA A j) (fun w Q=>wL (t:=107) (e:=141) (x:=.tmp 32) (ix:=.tmp 33) (len:=xs.length) (cap:=c) (i:=j) ((Q.1).ne (j:=j) qO) qO) ?_
   obtain⟨E,q⟩:=yE (xs[j]?.getD 0)
   refine xqj 35 (yX (E:Int)) (fun w Q=>by rw[←q];exact lG (t:=141) (x:=.tmp 34) (Q.1) (j:=j) qO) ?_
   obtain rfl:f=E:=by rw[←a,q]
   refine xqf 2 [eS1 36 d ys.length c2,yJ 37 (j:Int)] [] ?_
   refine xqj 38 (atA d j) (fun w Q=>wL (t:=107) (e:=141) (x:=.tmp 36) (ix:=.tmp 37) (len:=ys.length) (cap:=c2) (i:=j) ((Q.2).ne (j:=j) qO) qO) ?_
   obtain⟨F,r⟩:=yE (ys[j]?.getD 0)
   refine xqj 39 (yX (F:Int)) (fun w Q=>by rw[←r];exact lG (t:=141) (x:=.tmp 38) (Q.2) (j:=j) qO) ?_
   obtain rfl:g=F:=by rw[←b,r]
   refine xqf 1 [yB 40 (decide ((f:Int)<(g:Int)))] [] ?_
   refine xz (xe (zA ?_))
   refine yQ ((decide ((f:Int)<(g:Int)))) (fun p=>?_) fun p=>?_
   ·have C:=uB p
    refine yY (xq 1 [yJ 4 (-1)] [] ?_)
    refine yZ (zG (zM (wO (zM (zM (wO (zM ?_)))))))
    refine yR (yI (-1)) fun w' R Q=>?_
    exact⟨by rw[←Zdq G H qO (k:=j) qO D a b qO,jS qO],R⟩
   have C:=uD p
   refine zI (zA (yY (xq 1 [yJ 4 1] [] ?_)))
   refine yZ (zG (wO (zM (zM (wO (zM ?_))))))
   refine yR (yI 1) fun w' R Q=>?_
   exact⟨by rw[←Zdq G H qO (k:=j) qO D a b qO,iZ qO],R⟩
  have B:=ZdM n
  have U:xs.drop j=ys.drop j:=Zqe qO qO D a b qO
  refine zI (xR (zA (zB (xq 2 [yJ 22 (IntKind.i64.wrap ((j:Int)-1))] [] ?_))))
  rw[yW ((j:Int)-1) ((j:Int)-1) qO]
  refine xq 1 [yJ 5 ((j:Int)-1)] [] ?_
  refine xe ?_
  refine yP [eS1 0 A xs.length c,eS1 1 d ys.length c2,yJ 4 0,yJ 5 ((j:Int)-1)] [] (fun w=>(zD .u64 w A (xs)∧zD .u64 w d (ys))) (fun w Q=>⟨Q.1,Q.2⟩) ?_
  exact xG ((1+j)) qO ⟨j,rfl,rfl,U,qO,rfl⟩
 have z:=uD m
 obtain rfl:k=0:=qO
 refine xO (zH (zH (xY (zA (yY (xq 1 [yJ 4 0] [] ?_))))))
 refine yZ (zG ?_)
 refine yR (yI 0) fun w' R Q=>?_
 exact⟨by rw[tW,tW] at D;rw[D,Zba],R⟩
def Zrj (b:Nat) (xs:List Nat) (u:Nat) (w:World) (e:Ending) (w':World):Prop:=∃ qs,e=.returned (.int .u64 ((val W64 xs%u:Nat):Int))∧(qs.length=xs.length∧Dig W64 qs∧val W64 qs=val W64 xs/u)∧Fr (fun i=>i=b) w w'∧Own .u64 141 w' b qs
theorem Zbt (b c:Nat)(xs:qN)(u:Nat)(w:World)(m:Own .u64 141 w b xs)(D:xs.length≤4294967296)(z:Dig W64 xs)(A:0<u)(n:u<W64) :
 yA 146 #[.slice (some ⟨b,0,none⟩) xs.length c,.int .u64 ((u:Nat):Int)] w (Zrj b xs u w):=by
 refine Zao (fun i=>i=b) (Φ:=fun w=>Own .u64 141 w b xs) func146 rfl qK (fun w' B=>m.ext B) ?_
 refine yY (xq 1 [yU 4 0] [] ?_)
 refine yZ (yY (xq 1 [yU 5 0] [] ?_))
 refine yZ (zC (yY (xq 3 [yJ 9 (IntKind.i64.wrap (((xs.length:Nat):Int)-1))] [] ?_)))
 rw[yW (((xs.length:Nat):Int)-1) (((xs.length:Nat):Int)-1) qO]
 refine xq 1 [yJ 6 (((xs.length:Nat):Int)-1)] [] ?_
 refine yZ (zP ?_)
 refine yC [eS1 0 (yL b) xs.length c,yU 1 (u:Int),yU 4 0,yU 5 ((0:Nat):Int),yJ 6 (((xs.length:Nat):Int)-1)] [] (fun w=>Own .u64 141 w b (xs)) (fun w Q=>Q) ?_
 refine xU (fun p q s=>∃ (k:Nat) (r:Nat) (h:List Nat),q=ofL [eS1 0 (yL b) xs.length c,yU 1 (u:Int),yU 4 0,yU 5 (r:Int),yJ 6 ((k:Int)-1)] []∧s=(fun w=>Own .u64 141 w b (h))∧(DwR xs u k h r)∧(k≤xs.length)∧p=(1+k)) ((1+xs.length)) ⟨xs.length,0,xs,rfl,rfl,DwR.start z A,uH _,rfl⟩ ?_
 rintro p q s ⟨k,r,h,rfl,rfl,g,E,rfl⟩
 refine zC (yY (xq 2 [(11,.v (.bool (decide (((k:Int)-1)≥0))))] [] ?_))
 refine xe (zA ?_)
 refine yQ ((decide (((k:Int)-1)≥0))) (fun f=>?_) fun f=>?_
 ·have l:=uB f
  obtain⟨j,rfl⟩:∃ j,k=j+1:=⟨k-1,qO⟩
  rw[show ((((j+1):Nat):Int)-1)=(j:Int) by omega]
  have C:=g.1.1
  refine zI (zA (zC (zP (zB (xq 5 [eS1 15 (yL b) xs.length c,yJ 16 (j:Int),yU 17 (r:Int),eS1 18 (yL b) xs.length c,yJ 19 (j:Int)] [] ?_)))))
  refine xqk 20 (.pointer (some ⟨b,j,none⟩)) (fun w R Q=>kI (t:=107) (e:=141) (x:=.tmp 18) (ix:=.tmp 19) (len:=xs.length) (cap:=c) (i:=j) qO) ?_
  obtain⟨a,d⟩:=yE (h[j]?.getD 0)
  refine xqk 21 (yX (a:Int)) (fun w R Q=>by rw[←d];exact gP (t:=141) (x:=.tmp 20) (Q) (j:=j) qO) ?_
  refine xq 1 [yU 22 (u:Int)] [] ?_
  refine xqc 174 [yX (r:Int), yX (a:Int), yX (u:Int)] 23 (fun _:Unit=>.tuple #[yX ((divQ r a u:Nat):Int), yX ((divR r a u:Nat):Int)]) _ (fun w R Q=>yN (Zhi r a u _ g.1.2.2.1 n (by rw[←d];exact g.1.2.1.getD zJ _))) fun F=>?_
  refine xq 3 [yU 24 ((divQ r a u:Nat):Int),yU 25 ((divR r a u:Nat):Int)] [] ?_
  refine xqk 26 (.pointer (some ⟨b,j,none⟩)) (fun w R Q=>kI (t:=107) (e:=141) (x:=.tmp 15) (ix:=.tmp 16) (len:=xs.length) (cap:=c) (i:=j) qO) ?_
  refine jX (t:=141) (x:=.tmp 26) (y:=.tmp 24) b (j) (divQ r a u) (fun w=>(Own .u64 141 w b ((h).set (j) (divQ r a u))∧True)) (fun w Q=>Q.1) qO (Or.inr rfl) (fun w w' Q G m=>⟨m,trivial⟩) ?_
  refine xq 1 [yU 5 ((divR r a u:Nat):Int)] [] ?_
  refine xe (xR (zA (zB (xq 2 [yJ 13 (IntKind.i64.wrap ((j:Int)-1))] [] ?_))))
  rw[yW ((j:Int)-1) ((j:Int)-1) qO]
  refine xq 1 [yJ 6 ((j:Int)-1)] [] ?_
  refine xe ?_
  refine yP [eS1 0 (yL b) xs.length c,yU 1 (u:Int),yU 4 0,yU 5 (((divR r a u):Nat):Int),yJ 6 ((j:Int)-1)] [] (fun w=>Own .u64 141 w b (((h).set (j) (divQ r a u)))) (fun w Q=>Q.1) ?_
  exact xG ((1+j)) qO ⟨j,(divR r a u),((h).set (j) (divQ r a u)),rfl,rfl,(g.step qO d (by rw[←d];exact g.1.2.1.getD zJ _)),qO,rfl⟩
 have l:=uD f
 obtain rfl:k=0:=qO
 refine xO (zH (zH (xY (zA (yY (xq 2 [yU 4 (r:Int)] [] ?_))))))
 refine yZ (zG ?_)
 refine yR (yX (r:Int)) fun w' R Q=>?_
 exact⟨h,by rw[g.1.done.2],⟨g.1.1,g.1.2.1,g.1.done.1⟩,R,Q⟩
def Zkx (b:Nat) (w:World) (p:List Nat→Nat→Prop) (e:Ending) (w':World):Prop:=∃ x:List Nat × Nat,e=.returned (.bool (((x.2:Nat):Int) == 1))∧p x.1 x.2∧Fr (fun i=>i=b) w w'∧Own .u64 141 w' b x.1
theorem ZiF (b c o:Nat)(m ys:qN)(A:qA)(c2:Nat)(w:World)(C:Own .u64 141 w b m)(S:zD .u64 w A ys)(J:∀ a,A=some a→a.block≠b)(U:o+ys.length<m.length)(V:m.length≤4294967296)(T:Dig W64 m)(D:Dig W64 ys)(q:Nat)(E:q<W64) :
 yA 220 #[.slice (some ⟨b,o,none⟩) (ys.length+1) c,.slice A ys.length c2,.int .u64 ((q:Nat):Int)] w (Zkx b w (ZdT m ys q o)):=by
 refine Zao (fun i=>i=b) (Φ:=fun w=>(Own .u64 141 w b m∧zD .u64 w A ys)) func220 rfl qK (fun w' K=>⟨C.ext K,S.ext K⟩) ?_
 refine yY (xq 1 [yB 6 false] [] ?_)
 refine yZ (yY (xq 2 [yU 7 0,yU 8 0] [] ?_))
 refine yZ (zC (yY (xq 3 [eS1 14 A ys.length c2,yJ 15 ((ys.length:Nat):Int),yJ 16 0] [] ?_)))
 refine yZ (zP ?_)
 refine yC [eS1 0 (some ⟨b,o,none⟩) (ys.length+1) c,eS1 1 A ys.length c2,yU 2 (q:Int),yB 6 false,yU 7 ((0:Nat):Int),yU 8 ((0:Nat):Int),eS1 14 A ys.length c2,yJ 15 ((ys.length:Nat):Int),yJ 16 ((0:Nat):Int)] [] (fun w=>(Own .u64 141 w b (m)∧zD .u64 w A (ys))) (fun w Q=>⟨Q.1,Q.2⟩) ?_
 refine xU (fun L M O=>∃ (f g k:Nat) (r:List Nat),M=ofL [eS1 0 (some ⟨b,o,none⟩) (ys.length+1) c,eS1 1 A ys.length c2,yU 2 (q:Int),yB 6 false,yU 7 (f:Int),yU 8 (g:Int),eS1 14 A ys.length c2,yJ 15 ((ys.length:Nat):Int),yJ 16 (k:Int)] []∧O=(fun w=>(Own .u64 141 w b (r)∧zD .u64 w A (ys)))∧(SpR m ys q o k r f g)∧(k≤ys.length)∧L=(ys.length-k)) ((ys.length-0)) ⟨0,0,0,m,rfl,rfl,SpR.start ys q o T,qO,rfl⟩ ?_
 rintro L M O ⟨f,g,k,r,rfl,rfl,z,W,rfl⟩
 refine yY (xq 1 [yB 17 (decide ((k:Int)<((ys.length:Nat):Int)))] [] ?_)
 refine yZ (zC ?_)
 refine yQ ((decide ((k:Int)<((ys.length:Nat):Int)))) (fun p=>?_) fun p=>?_
 ·have B:=uB p
  have F:=z.1
  have G:=z.2.2.2.1
  refine zI (zA (zC (zP (yY (xq 1 [yJ 18 (k:Int)] [] ?_)))))
  refine xqk 19 (atA A k) (fun w R Q=>wL (t:=107) (e:=141) (x:=.tmp 14) (ix:=.tmp 16) (len:=ys.length) (cap:=c2) (i:=k) ((Q.2).ne (j:=k) qO) qO) ?_
  obtain⟨d,n⟩:=yE (ys[k]?.getD 0)
  refine xqk 20 (yX (d:Int)) (fun w R Q=>by rw[←n];exact lG (t:=141) (x:=.tmp 19) (Q.2) (j:=k) qO) ?_
  refine xq 2 [yJ 9 (k:Int),yU 10 (d:Int)] [] ?_
  refine yZ (yY (xq 2 [yU 22 (d:Int),yU 23 (q:Int)] [] ?_))
  refine xqc 161 [yX (d:Int), yX (q:Int)] 24 (fun _:Unit=>.tuple #[yX ((wJ d q:Nat):Int), yX ((xA d q:Nat):Int)]) _ (fun w R Q=>yN (ZdN d q _ (by rw[←n];exact D.getD zJ _) E)) fun X=>?_
  refine xq 5 [yU 11 ((wJ d q:Nat):Int),yU 12 ((xA d q:Nat):Int)] [] ?_
  refine yZ (yY (xq 2 [yU 28 ((xA d q:Nat):Int),yU 29 (f:Int)] [] ?_))
  refine xqk 30 (.tuple #[yX ((xE (xA d q) f 0:Nat):Int), yX ((xL (xA d q) f 0:Nat):Int)]) (fun w R Q=>fQ (args:=[Operand.tmp 28,Operand.tmp 29,Operand.const (Value.int IntKind.u64 0)]) (ts:=#[141,141,141]) (gT (xA d q) f 0 qO w)) ?_
  refine xq 5 [yU 12 ((xE (xA d q) f 0:Nat):Int),yU 13 ((xL (xA d q) f 0:Nat):Int)] [] ?_
  refine yZ (yY (xq 3 [(35,.v (yX (IntKind.u64.wrap (((wJ d q:Nat):Int)+((xL (xA d q) f 0:Nat):Int)))))] [] ?_))
  rw[ZfY (a:=wJ d q) (b:=xL (xA d q) f 0) (ZiD (by rw[←n];exact D.getD zJ _) E z.2.2.1)]
  refine xq 1 [yU 7 ((wJ d q+xL (xA d q) f 0:Nat):Int)] [] ?_
  refine yZ (zB (xq 4 [eS1 37 (some ⟨b,o,none⟩) (ys.length+1) c,yJ 38 (k:Int),eS1 39 (some ⟨b,o,none⟩) (ys.length+1) c,yJ 40 (k:Int)] [] ?_))
  refine xqk 41 (.pointer (some ⟨b,o+k,none⟩)) (fun w R Q=>jT (t:=107) (e:=141) (x:=.tmp 39) (ix:=.tmp 40) (len:=(ys.length+1)) (cap:=c) (i:=k) qO) ?_
  obtain⟨h,s⟩:=yE (r[o+k]?.getD 0)
  refine xqk 42 (yX (h:Int)) (fun w R Q=>by rw[←s];exact gP (t:=141) (x:=.tmp 41) (Q.1.1) (j:=o+k) qO) ?_
  refine xq 2 [yU 43 ((xE (xA d q) f 0:Nat):Int),yU 44 (g:Int)] [] ?_
  refine xqk 45 (.tuple #[yX ((lN h (xE (xA d q) f 0) g:Nat):Int), yX ((lO h (xE (xA d q) f 0) g:Nat):Int)]) (fun w R Q=>fQ (args:=[Operand.tmp 42,Operand.tmp 43,Operand.tmp 44]) (ts:=#[141,141,141]) (gU h (xE (xA d q) f 0) g qO w)) ?_
  refine xq 3 [yU 46 ((lN h (xE (xA d q) f 0) g:Nat):Int),yU 47 ((lO h (xE (xA d q) f 0) g:Nat):Int)] [] ?_
  refine xqk 48 (.pointer (some ⟨b,o+k,none⟩)) (fun w R Q=>jT (t:=107) (e:=141) (x:=.tmp 37) (ix:=.tmp 38) (len:=(ys.length+1)) (cap:=c) (i:=k) qO) ?_
  refine jX (t:=141) (x:=.tmp 48) (y:=.tmp 46) b (o+k) (lN h (xE (xA d q) f 0) g) (fun w=>((Own .u64 141 w b ((r).set (o+k) (lN h (xE (xA d q) f 0) g))∧zD .u64 w A (ys))∧True)) (fun w Q=>Q.1.1) qO (Or.inr rfl) (fun w w' Q H C=>⟨⟨C,((Q.1.2).fr H (fun a I _=>J a I))⟩,trivial⟩) ?_
  refine xr 1 [eS1 0 (some ⟨b,o,none⟩) (ys.length+1) c,eS1 1 A ys.length c2,yU 2 (q:Int),yB 6 false,yU 7 ((wJ d q+xL (xA d q) f 0:Nat):Int),yU 8 ((lO h (xE (xA d q) f 0) g:Nat):Int),eS1 14 A ys.length c2,yJ 15 ((ys.length:Nat):Int),yJ 16 (k:Int)] [] ?_
  refine xe (xR (zA (zB (xq 1 [yJ 49 (IntKind.i64.wrap ((k:Int)+1))] [] ?_))))
  rw[yW ((k:Int)+1) (((k+1:Nat):Int)) qO]
  refine xq 1 [yJ 16 ((k+1:Nat):Int)] [] ?_
  refine xe ?_
  refine yP [eS1 0 (some ⟨b,o,none⟩) (ys.length+1) c,eS1 1 A ys.length c2,yU 2 (q:Int),yB 6 false,yU 7 (((wJ d q+xL (xA d q) f 0):Nat):Int),(8,.v (yX (((lO h (xE (xA d q) f 0) g):Nat):Int))),eS1 14 A ys.length c2,yJ 15 ((ys.length:Nat):Int),yJ 16 (((k+1):Nat):Int)] [] (fun w=>(Own .u64 141 w b (((r).set (o+k) (lN h (xE (xA d q) f 0) g)))∧zD .u64 w A (ys))) (fun w Q=>⟨Q.1.1,Q.1.2⟩) ?_
  exact xG ((ys.length-(k+1))) qO ⟨(wJ d q+xL (xA d q) f 0),(lO h (xE (xA d q) f 0) g),(k+1),((r).set (o+k) (lN h (xE (xA d q) f 0) g)),rfl,rfl,(z.step qO n s D E),qO,rfl⟩
 have B:=uD p
 have F:=z.1
 have G:=z.2.2.2.1
 obtain rfl:k=ys.length:=qO
 refine xO (zH (zH (xY (zA (yY (xq 6 [eS1 51 (some ⟨b,o,none⟩) (ys.length+1) c,yJ 53 ((ys.length:Nat):Int),eS1 54 (some ⟨b,o,none⟩) (ys.length+1) c,yJ 56 ((ys.length:Nat):Int)] [] ?_))))))
 refine xqk 57 (.pointer (some ⟨b,o+ys.length,none⟩)) (fun w R Q=>jT (t:=107) (e:=141) (x:=.tmp 54) (ix:=.tmp 56) (len:=(ys.length+1)) (cap:=c) (i:=ys.length) qO) ?_
 obtain⟨l,u⟩:=yE (r[o+ys.length]?.getD 0)
 refine xqk 58 (yX (l:Int)) (fun w R Q=>by rw[←u];exact gP (t:=141) (x:=.tmp 57) (Q.1) (j:=o+ys.length) qO) ?_
 refine xq 2 [yU 59 (f:Int),yU 60 (g:Int)] [] ?_
 refine xqk 61 (.tuple #[yX ((lN l f g:Nat):Int), yX ((lO l f g:Nat):Int)]) (fun w R Q=>fQ (args:=[Operand.tmp 58,Operand.tmp 59,Operand.tmp 60]) (ts:=#[141,141,141]) (gU l f g qO w)) ?_
 refine xq 3 [yU 62 ((lN l f g:Nat):Int),yU 63 ((lO l f g:Nat):Int)] [] ?_
 refine xqk 64 (.pointer (some ⟨b,o+ys.length,none⟩)) (fun w R Q=>jT (t:=107) (e:=141) (x:=.tmp 51) (ix:=.tmp 53) (len:=(ys.length+1)) (cap:=c) (i:=ys.length) qO) ?_
 refine jX (t:=141) (x:=.tmp 64) (y:=.tmp 62) b (o+ys.length) (lN l f g) (fun w=>(Own .u64 141 w b ((r).set (o+ys.length) (lN l f g))∧zD .u64 w A (ys))) (fun w Q=>Q.1) qO (Or.inr rfl) (fun w w' Q H C=>⟨C,((Q.2).fr H (fun a I _=>J a I))⟩) ?_
 refine xq 1 [yU 8 ((lO l f g:Nat):Int)] [] ?_
 refine yZ (yY (xq 3 [yB 6 ((((lO l f g:Nat):Int):Int) == 1)] [] ?_))
 refine yZ (zG ?_)
 refine yR (.bool ((((lO l f g:Nat):Int):Int) == 1)) fun w' R Q=>?_
 exact⟨(_,_),rfl,z.done qO u,R,Q.1⟩
theorem ZiG (b c o:Nat)(l ys:qN)(A:qA)(c2:Nat)(w:World)(v:Own .u64 141 w b l)(J:zD .u64 w A ys)(E:∀ a,A=some a→a.block≠b)(M:o+ys.length<l.length)(O:l.length≤4294967296)(K:Dig W64 l)(L:Dig W64 ys) :
 yA 221 #[.slice (some ⟨b,o,none⟩) (ys.length+1) c,.slice A ys.length c2] w (Zkx b w (ZdU l ys o)):=by
 refine Zao (fun i=>i=b) (Φ:=fun w=>(Own .u64 141 w b l∧zD .u64 w A ys)) func221 rfl qK (fun w' F=>⟨v.ext F,J.ext F⟩) ?_
 refine yY (xq 1 [yB 4 false] [] ?_)
 refine yZ (yY (xq 1 [yU 5 0] [] ?_))
 refine yZ (zC (yY (xq 3 [eS1 8 A ys.length c2,yJ 9 ((ys.length:Nat):Int),yJ 10 0] [] ?_)))
 refine yZ (zP ?_)
 refine yC [eS1 0 (some ⟨b,o,none⟩) (ys.length+1) c,eS1 1 A ys.length c2,yB 4 false,yU 5 ((0:Nat):Int),eS1 8 A ys.length c2,yJ 9 ((ys.length:Nat):Int),yJ 10 ((0:Nat):Int)] [] (fun w=>(Own .u64 141 w b (l)∧zD .u64 w A (ys))) (fun w Q=>⟨Q.1,Q.2⟩) ?_
 refine xU (fun G H I=>∃ (f k:Nat) (n:List Nat),H=ofL [eS1 0 (some ⟨b,o,none⟩) (ys.length+1) c,eS1 1 A ys.length c2,yB 4 false,yU 5 (f:Int),eS1 8 A ys.length c2,yJ 9 ((ys.length:Nat):Int),yJ 10 (k:Int)] []∧I=(fun w=>(Own .u64 141 w b (n)∧zD .u64 w A (ys)))∧(AbR l ys o k n f)∧(k≤ys.length)∧G=(ys.length-k)) ((ys.length-0)) ⟨0,0,l,rfl,rfl,AbR.start ys o K,qO,rfl⟩ ?_
 rintro G H I ⟨f,k,n,rfl,rfl,u,S,rfl⟩
 refine yY (xq 1 [yB 11 (decide ((k:Int)<((ys.length:Nat):Int)))] [] ?_)
 refine yZ (zC ?_)
 refine yQ ((decide ((k:Int)<((ys.length:Nat):Int)))) (fun m=>?_) fun m=>?_
 ·have s:=uB m
  have z:=u.1
  have B:=u.2.2.1
  refine zI (zA (zC (zP (yY (xq 1 [yJ 12 (k:Int)] [] ?_)))))
  refine xqk 13 (atA A k) (fun w R Q=>wL (t:=107) (e:=141) (x:=.tmp 8) (ix:=.tmp 10) (len:=ys.length) (cap:=c2) (i:=k) ((Q.2).ne (j:=k) qO) qO) ?_
  obtain⟨d,p⟩:=yE (ys[k]?.getD 0)
  refine xqk 14 (yX (d:Int)) (fun w R Q=>by rw[←p];exact lG (t:=141) (x:=.tmp 13) (Q.2) (j:=k) qO) ?_
  refine xq 2 [yJ 6 (k:Int),yU 7 (d:Int)] [] ?_
  refine yZ (zB (xq 4 [eS1 16 (some ⟨b,o,none⟩) (ys.length+1) c,yJ 17 (k:Int),eS1 18 (some ⟨b,o,none⟩) (ys.length+1) c,yJ 19 (k:Int)] [] ?_))
  refine xqk 20 (.pointer (some ⟨b,o+k,none⟩)) (fun w R Q=>jT (t:=107) (e:=141) (x:=.tmp 18) (ix:=.tmp 19) (len:=(ys.length+1)) (cap:=c) (i:=k) qO) ?_
  obtain⟨g,q⟩:=yE (n[o+k]?.getD 0)
  refine xqk 21 (yX (g:Int)) (fun w R Q=>by rw[←q];exact gP (t:=141) (x:=.tmp 20) (Q.1) (j:=o+k) qO) ?_
  refine xq 2 [yU 22 (d:Int),yU 23 (f:Int)] [] ?_
  refine xqk 24 (.tuple #[yX ((xE g d f:Nat):Int), yX ((xL g d f:Nat):Int)]) (fun w R Q=>fQ (args:=[Operand.tmp 21,Operand.tmp 22,Operand.tmp 23]) (ts:=#[141,141,141]) (gT g d f qO w)) ?_
  refine xq 3 [yU 25 ((xE g d f:Nat):Int),yU 26 ((xL g d f:Nat):Int)] [] ?_
  refine xqk 27 (.pointer (some ⟨b,o+k,none⟩)) (fun w R Q=>jT (t:=107) (e:=141) (x:=.tmp 16) (ix:=.tmp 17) (len:=(ys.length+1)) (cap:=c) (i:=k) qO) ?_
  refine jX (t:=141) (x:=.tmp 27) (y:=.tmp 25) b (o+k) (xE g d f) (fun w=>(Own .u64 141 w b ((n).set (o+k) (xE g d f))∧zD .u64 w A (ys))) (fun w Q=>Q.1) qO (Or.inr rfl) (fun w w' Q C v=>⟨v,((Q.2).fr C (fun a D _=>E a D))⟩) ?_
  refine xq 1 [yU 5 ((xL g d f:Nat):Int)] [] ?_
  refine xe (xR (zA (zB (xq 1 [yJ 28 (IntKind.i64.wrap ((k:Int)+1))] [] ?_))))
  rw[yW ((k:Int)+1) (((k+1:Nat):Int)) qO]
  refine xq 1 [yJ 10 ((k+1:Nat):Int)] [] ?_
  refine xe ?_
  refine yP [eS1 0 (some ⟨b,o,none⟩) (ys.length+1) c,eS1 1 A ys.length c2,yB 4 false,yU 5 (((xL g d f):Nat):Int),eS1 8 A ys.length c2,yJ 9 ((ys.length:Nat):Int),yJ 10 (((k+1):Nat):Int)] [] (fun w=>(Own .u64 141 w b (((n).set (o+k) (xE g d f)))∧zD .u64 w A (ys))) (fun w Q=>⟨Q.1,Q.2⟩) ?_
  exact xG ((ys.length-(k+1))) qO ⟨(xL g d f),(k+1),((n).set (o+k) (xE g d f)),rfl,rfl,(u.step qO p q L),qO,rfl⟩
 have s:=uD m
 have z:=u.1
 have B:=u.2.2.1
 obtain rfl:k=ys.length:=qO
 refine xO (zH (zH (xY (zA (yY (xq 6 [eS1 30 (some ⟨b,o,none⟩) (ys.length+1) c,yJ 32 ((ys.length:Nat):Int),eS1 33 (some ⟨b,o,none⟩) (ys.length+1) c,yJ 35 ((ys.length:Nat):Int)] [] ?_))))))
 refine xqk 36 (.pointer (some ⟨b,o+ys.length,none⟩)) (fun w R Q=>jT (t:=107) (e:=141) (x:=.tmp 33) (ix:=.tmp 35) (len:=(ys.length+1)) (cap:=c) (i:=ys.length) qO) ?_
 obtain⟨h,r⟩:=yE (n[o+ys.length]?.getD 0)
 refine xqk 37 (yX (h:Int)) (fun w R Q=>by rw[←r];exact gP (t:=141) (x:=.tmp 36) (Q.1) (j:=o+ys.length) qO) ?_
 refine xq 1 [yU 38 (f:Int)] [] ?_
 refine xqk 39 (.tuple #[yX ((xE h 0 f:Nat):Int), yX ((xL h 0 f:Nat):Int)]) (fun w R Q=>fQ (args:=[Operand.tmp 37,Operand.const (Value.int IntKind.u64 0),Operand.tmp 38]) (ts:=#[141,141,141]) (gT h 0 f qO w)) ?_
 refine xq 3 [yU 40 ((xE h 0 f:Nat):Int),yU 41 ((xL h 0 f:Nat):Int)] [] ?_
 refine xqk 42 (.pointer (some ⟨b,o+ys.length,none⟩)) (fun w R Q=>jT (t:=107) (e:=141) (x:=.tmp 30) (ix:=.tmp 32) (len:=(ys.length+1)) (cap:=c) (i:=ys.length) qO) ?_
 refine jX (t:=141) (x:=.tmp 42) (y:=.tmp 40) b (o+ys.length) (xE h 0 f) (fun w=>(Own .u64 141 w b ((n).set (o+ys.length) (xE h 0 f))∧zD .u64 w A (ys))) (fun w Q=>Q.1) qO (Or.inr rfl) (fun w w' Q C v=>⟨v,((Q.2).fr C (fun a D _=>E a D))⟩) ?_
 refine xq 1 [yU 5 ((xL h 0 f:Nat):Int)] [] ?_
 refine yZ (yY (xq 3 [yB 4 ((((xL h 0 f:Nat):Int):Int) == 1)] [] ?_))
 refine yZ (zG ?_)
 refine yR (.bool ((((xL h 0 f:Nat):Int):Int) == 1)) fun w' R Q=>?_
 exact⟨(_,_),rfl,u.done qO r,R,Q.1⟩
end Go.Proofs.YtenchljfmfgeoaaGreatDoor
