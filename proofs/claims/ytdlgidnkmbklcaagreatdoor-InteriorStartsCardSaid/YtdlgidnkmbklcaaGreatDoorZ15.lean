/-
 My texts.
-/
import Derived.Test.YtdlgidnkmbklcaaGreatDoorZ11
import Derived.Test.YtdlgidnkmbklcaaGreatDoorZ14
set_option maxRecDepth 100000
set_option maxHeartbeats 8000000
namespace Go.Proofs.YtdlgidnkmbklcaaGreatDoor
open Go.RowKit Tryz
theorem zQ:prog.follows .mixedOrders=true:=qK
def Zf0 (cs:Array Value):Prop:=∀ (i:Nat) (k:IntKind) (z:Int),cs[i]? = some (.int k z)→k=.i64
theorem lQ {s:Bool}{A:qA}{l c:Nat}:Zf0 #[.bool s,.slice A l c]:=by
 intro i k z;rcases i with _|_|i<;>simp
theorem zH.other {k:IntKind}{t:TypeId}{w w':World}{r:Nat}{A:qA}{xs:qN}{cs:Array Value}(h:zH k w A xs)(d:k≠.i64)(f:Blk t w r cs)(j:Zf0 cs)(l:Fr (fun i=>i=r) w w'):zH k w' A xs:=by
 cases xs with
 | nil=>exact zH.nil
 | cons x xs =>
  refine h.fr l (fun q c m e=>?_)
  obtain⟨g,off,n,_,b⟩:=h.at (i:=0) qS
  rw[n] at c
  injection c with c
  subst c
  simp at e
  subst e
  rw[f.cell] at b
  exact d (j _ _ _ b)
theorem zY.oth {t:TypeId}{w w':World}{r n:Nat}{u:Value}{cs:Array Value}(h:zY w u n)(b:Blk t w r cs)(c:Zf0 cs)(d:Fr (fun i=>i=r) w w'):zY w' u n:=by
 obtain⟨e,f,j,k,l,m,q⟩:=h
 exact⟨e,f,j,k,l,m.other qD b c d,q⟩
theorem zN.oth {t:TypeId}{w w':World}{r:Nat}{v:Value}{z:Int}{cs:Array Value}(h:zN w v z)(b:Blk t w r cs)(c:Zf0 cs)(d:Fr (fun i=>i=r) w w'):zN w' v z:=by
 obtain⟨e,u,n,f,j,k⟩:=h
 exact⟨e,u,n,f,j.oth b c d,k⟩
theorem zN.shp {w:World}{v:Value}{z:Int}(h:zN w v z):∃ (s:Bool) (A:Option Addr) (l c:Nat),v=.agg #[.bool s,.slice A l c]:=by
 obtain⟨s,A,l,c,h,_⟩:=h.open
 exact⟨s,A,l,c,h⟩
theorem fB.shp {w:World}{v:Value}{z:Int}(h:fB w v z):∃ (s:Bool) (A:Option Addr) (l c:Nat),v=.agg #[.bool s,.slice A l c]:=h.shape
theorem zN.nil (w:World):zN w (.agg #[.bool false,.slice none 0 0]) 0:=⟨false,_,0,rfl,zY.zero w,fun _=>rfl,rfl⟩
theorem ZiY {a b c d e f i j:Value}(h:Value.agg #[a,b,c,d]=.agg #[e,f,i,j]):a=e∧b=f∧c=i∧d=j:=by
 injection h with h
 simpa using h
def xD (w:World) (v:Value) (q:Rat):Prop:=∃ (s t:Bool) (A B:Option Addr) (l c l' c':Nat),v=.agg #[.bool s,.slice A l c,.bool t,.slice B l' c']∧zN w (.agg #[.bool s,.slice A l c]) q.num∧zN w (.agg #[.bool t,.slice B l' c']) (denF q)
theorem xD.ext {w w':World}{v:Value}{q:Rat}(h:xD w v q)(b:Ext w w'):xD w' v q:=by
 obtain⟨s,t,A,B,l,c,d,e,f,i,j⟩:=h
 exact⟨s,t,A,B,l,c,d,e,f,i.ext b,j.ext b⟩
theorem xD.oth {t:TypeId}{w w':World}{r:Nat}{v:Value}{q:Rat}{cs:Array Value}(h:xD w v q)(b:Blk t w r cs)(d:Zf0 cs)(e:Fr (fun i=>i=r) w w'):xD w' v q:=by
 obtain⟨s,t,A,B,l,c,f,j,k,m,n⟩:=h
 exact⟨s,t,A,B,l,c,f,j,k,m.oth b d e,n.oth b d e⟩
theorem xD.shp {w:World}{v:Value}{q:Rat}(h:xD w v q):∃ (s:Bool) (A:Option Addr) (l c:Nat) (t:Bool) (B:Option Addr) (b d:Nat),v=.agg #[.bool s,.slice A l c,.bool t,.slice B b d]:=by
 obtain⟨s,t,A,B,l,c,b,d,h,_⟩:=h
 exact⟨s,A,l,c,t,B,b,d,h⟩
theorem xD.num {w:World}{a b c d:Value}{q:Rat}(h:xD w (.agg #[a,b,c,d]) q):zN w (.agg #[a,b]) q.num:=by
 obtain⟨s,t,A,B,l,c,f,i,h,e,j⟩:=h
 obtain⟨rfl,rfl,rfl,rfl⟩:=ZiY h
 exact e
theorem xD.den {w:World}{a b c d:Value}{q:Rat}(h:xD w (.agg #[a,b,c,d]) q):zN w (.agg #[c,d]) (denF q):=by
 obtain⟨s,t,A,B,l,c,f,i,h,j,e⟩:=h
 obtain⟨rfl,rfl,rfl,rfl⟩:=ZiY h
 exact e
theorem xD.of {w:World}{s t:Bool}{A B:qA}{l c b d:Nat}{q:Rat}(e:zN w (.agg #[.bool s,.slice A l c]) q.num)(f:zN w (.agg #[.bool t,.slice B b d]) (denF q)):xD w (.agg #[.bool s,.slice A l c,.bool t,.slice B b d]) q :=
 ⟨_,_,_,_,_,_,_,_,rfl,e,f⟩
def Zcc (w:World) (q:Rat) (e:Ending) (w':World):Prop:=∃ v,e=.returned v∧xD w' v q∧Ext w w'
theorem xD.nil (w:World):xD w (.agg #[.bool false,.slice none 0 0,.bool false,.slice none 0 0]) 0:=⟨_,_,_,_,_,_,_,_,rfl,zN.nil w,zN.nil w⟩
theorem gW {t0:TypeId}{w wb:World}{c0:Array Value}(h:w.alloc (.cells c0 t0)=wb):Blk t0 wb w.heap.size c0∧Ext w wb:=by
 subst h;exact⟨Blk.new _ _ _,(Fr.refl _ _).alloc _⟩
theorem bZ {t0 t1:TypeId}{w wb:World}{c0 c1:Array Value}(h:(w.alloc (.cells c0 t0)).alloc (.cells c1 t1)=wb):Blk t0 wb w.heap.size c0∧Blk t1 wb (w.heap.size+1) c1∧Ext w wb:=by
 obtain⟨d,f⟩:=gW (w:=w) (c0:=c0) (t0:=t0) rfl
 have e:(w.alloc (.cells c0 t0)).heap.size=w.heap.size+1:=qS
 obtain⟨b,c⟩:=gW h
 rw[e] at b
 exact⟨d.ext c,b,f.trans c⟩
theorem ZgN {t0 t1 t2:TypeId}{w wb:World}{c0 c1 c2:Array Value}(h:((w.alloc (.cells c0 t0)).alloc (.cells c1 t1)).alloc (.cells c2 t2)=wb):Blk t0 wb w.heap.size c0∧Blk t1 wb (w.heap.size+1) c1∧Blk t2 wb (w.heap.size+1+1) c2∧Ext w wb:=by
 obtain⟨d,f,i⟩:=bZ (w:=w) (c0:=c0) (t0:=t0) (c1:=c1) (t1:=t1) rfl
 have e:((w.alloc (.cells c0 t0)).alloc (.cells c1 t1)).heap.size=w.heap.size+1+1:=qS
 obtain⟨c,b⟩:=gW h
 rw[e] at c
 exact⟨d.ext b,f.ext b,c,i.trans b⟩
theorem Zqt {t0 t1 t2 t3:TypeId}{w wb:World}{c0 c1 c2 c:Array Value}(h:(((w.alloc (.cells c0 t0)).alloc (.cells c1 t1)).alloc (.cells c2 t2)).alloc (.cells c t3)=wb):Blk t0 wb w.heap.size c0∧Blk t1 wb (w.heap.size+1) c1∧Blk t2 wb (w.heap.size+1+1) c2∧Blk t3 wb (w.heap.size+1+1+1) c∧Ext w wb:=by
 obtain⟨f,i,j,k⟩:=ZgN (w:=w) (c0:=c0) (t0:=t0) (c1:=c1) (t1:=t1) (c2:=c2) (t2:=t2) rfl
 have e:(((w.alloc (.cells c0 t0)).alloc (.cells c1 t1)).alloc (.cells c2 t2)).heap.size=w.heap.size+1+1+1:=qS
 obtain⟨d,b⟩:=gW h
 rw[e] at d
 exact⟨f.ext b,i.ext b,j.ext b,d,k.trans b⟩
theorem Blk.two {t:TypeId}{w:World}{g:Nat}{cs:Array Value}{x y:Value}(h:Blk t w g cs)(o:Nat)(b:cs[o]? = some x)(c:cs[o+1]? = some y):w.cell? ⟨g,o,none⟩=some x∧w.cell? ⟨g,o+1,none⟩=some y :=
 ⟨(h.cell o).trans b,(h.cell (o+1)).trans c⟩
theorem Blk.one' {t:TypeId}{w:World}{g:Nat}{cs:Array Value}{x:Value}(h:Blk t w g cs)(o:Nat)(b:cs[o]? = some x):w.cell? ⟨g,o,none⟩=some x:=(h.cell o).trans b
section
variable {ops:Array Oper} {S:World→Prop} {o:Oper} {a:Act} {p:Operand} {g off:Nat} {x y z u v:Value}
theorem ym (b:Region.wanted o (yielded ops a.tmps)=true)(c:o.op=Op.move p)(d:a.eval p=v):YieldsIf prog ops S o v a :=
 Or.inl ⟨b,fun w _=>by simp only[execOp,c,d];simp[go_sem]⟩
theorem Zhj (b:Region.wanted o (yielded ops a.tmps)=true)(c:o.op=Op.load 41 p)(d:a.eval p=.pointer (some ⟨g,off,none⟩))(e:∀ w,S w→w.cell? ⟨g,off,none⟩=some x∧w.cell? ⟨g,off+1,none⟩=some y):YieldsIf prog ops S o (.agg #[x,y]) a :=
 Or.inl ⟨b,fun w f=>by
  obtain⟨h,i⟩:=e w f
  simp only[execOp,c,d]
  simp[go_sem,h,i]⟩
theorem ZgO (b:Region.wanted o (yielded ops a.tmps)=true)(c:o.op=Op.load 4 p)(d:a.eval p=.pointer (some ⟨g,off,none⟩))(e:∀ w,S w→w.cell? ⟨g,off,none⟩=some x):YieldsIf prog ops S o x a :=
 Or.inl ⟨b,fun w f=>by
  have h:=e w f
  simp only[execOp,c,d]
  simp[go_sem,h]⟩
theorem ZcG (b:Region.wanted o (yielded ops a.tmps)=true)(c:o.op=Op.fieldAddr 41 p 0)(d:a.eval p=.pointer (some ⟨g,off,none⟩)):YieldsIf prog ops S o (.pointer (some ⟨g,off,none⟩)) a :=
 Or.inl ⟨b,fun w _=>by simp only[execOp,c,d];simp[go_sem]⟩
theorem ZoJ {b c:Bool}{q:Operand}(d:Region.wanted o (yielded ops a.tmps)=true)(e:o.op=Op.binOp .neq 4 p q 4)(f:a.eval p=.bool b)(h:a.eval q=.bool c):YieldsIf prog ops S o (.bool (b != c)) a :=
 Or.inl ⟨d,fun w _=>by simp only[execOp,e,f,h];simp[go_sem];cases b<;>cases c<;>rfl⟩
end
section
variable {S:Nat→Prop} {w w' w0:World} {k:IntKind} {A:Option Addr} {xs:List Nat}
theorem zH.nrb (c:k≠.i64)(h:zH k w A xs)(d:∀ i,S i→NRB w i)(f:Fr S w w'):zH k w' A xs:=by
 cases xs with
 | nil=>exact zH.nil
 | cons x xs =>
  refine h.fr f (fun q b j l=>?_)
  obtain⟨g,m,n,_,a⟩:=h.at (i:=0) qS
  rw[n] at b
  injection b with b
  subst b
  obtain⟨t,r,o,p⟩:=d _ l
  rw[o.cell] at a
  exact c (p _ _ _ a)
theorem zL.nrb {u:Value}{n:Nat}(h:zL w u n)(a:∀ i,S i→NRB w i)(b:Fr S w w'):zL w' u n:=by
 obtain⟨c,xs,d,f,g,j,l⟩:=h
 exact⟨c,xs,d,f,g,j.nrb qD a b,l⟩
theorem fB.nrb {v:Value}{z:Int}(h:fB w v z)(a:∀ i,S i→NRB w i)(b:Fr S w w'):fB w' v z:=by
 obtain⟨c,u,n,d,f,g⟩:=h
 exact⟨c,u,n,d,f.nrb a b,g⟩
theorem zY.nrb {u:Value}{n:Nat}(h:zY w u n)(a:∀ i,S i→NRB w i)(b:Fr S w w'):zY w' u n:=by
 obtain⟨c,xs,d,f,g,j,l⟩:=h
 exact⟨c,xs,d,f,g,j.nrb qD a b,l⟩
theorem zN.nrb {v:Value}{z:Int}(h:zN w v z)(a:∀ i,S i→NRB w i)(b:Fr S w w'):zN w' v z:=by
 obtain⟨c,u,n,d,f,g⟩:=h
 exact⟨c,u,n,d,f.nrb a b,g⟩
theorem xD.nrb {v:Value}{q:Rat}(h:xD w v q)(a:∀ i,S i→NRB w i)(b:Fr S w w'):xD w' v q:=by
 obtain⟨s,t,A,B,l,c,d,f,g,j,m⟩:=h
 exact⟨s,t,A,B,l,c,d,f,g,j.nrb a b,m.nrb a b⟩
theorem NRB.ext {i:Nat}(h:NRB w i)(a:Ext w w'):NRB w' i:=by
 obtain⟨t,b,c,d⟩:=h
 exact⟨t,b,c.ext a,d⟩
theorem boxn {φ:World→Prop}(a:Ext w w')(h:∀ S w'',(∀ i,S i→NRB w' i)→Fr S w' w''→φ w''):BoxN w w' φ:=fun S b w'' c=>h S w'' (fun i hi=>(b i hi).2.ext a) c
end
abbrev ShI:=Bool×Option Addr×Nat × Nat
abbrev ShQ:=Bool×Option Addr×Nat × Nat × Bool×Option Addr×Nat × Nat
abbrev ShN:=Option Addr×Nat × Nat
def wN (x:ShI):Value:=vI2 x.1 x.2.1 x.2.2.1 x.2.2.2
def iF (x:ShQ):Value:=vR4 x.1 x.2.1 x.2.2.1 x.2.2.2.1 x.2.2.2.2.1 x.2.2.2.2.2.1 x.2.2.2.2.2.2.1 x.2.2.2.2.2.2.2
def wE (x:ShN):Value:=.slice x.1 x.2.1 x.2.2
section
variable {w w':World} {e:Ending}
theorem Ze9 {z:Int}(h:ZfE w z e w'):lG wN (fun x w=>fB w (wN x) z) w e w':=by
 obtain⟨v,rfl,a,Q⟩:=h
 obtain⟨s,A,l,c,rfl⟩:=a.shp
 exact⟨(s,A,l,c),rfl,Q,boxn Q (fun S b d f=>a.nrb d f)⟩
theorem kE {z:Int}(h:lZ w z e w'):lG wN (fun x w=>zN w (wN x) z) w e w':=by
 obtain⟨v,rfl,a,Q⟩:=h
 obtain⟨s,A,l,c,rfl⟩:=a.shp
 exact⟨(s,A,l,c),rfl,Q,boxn Q (fun S b d f=>a.nrb d f)⟩
theorem Zhk {q:Rat}(h:Zcc w q e w'):lG iF (fun x w=>xD w (iF x) q) w e w':=by
 obtain⟨v,rfl,a,Q⟩:=h
 obtain⟨s,A,l,c,t,B,m,d,rfl⟩:=a.shp
 exact⟨(s,A,l,c,t,B,m,d),rfl,Q,boxn Q (fun S b f g=>a.nrb f g)⟩
def Zay (x:ShI×ShI):Value:=.tuple #[wN x.1,wN x.2]
theorem zI {v u:Value}(h:e=.returned v∧Ext w w')(a:v=u):lG (fun _:Unit=>u) (fun _ _=>True) w e w':=by
 obtain⟨rfl,Q⟩:=h
 subst a
 exact⟨(),rfl,Q,BoxN.pure trivial⟩
end
theorem yN {P:Program}{f:FuncId}{a:Array Value}{w:World}{u v:Value}(h:Calls P f a w (fun e w'=>e=.returned v ∧ Ext w w'))(b:v=u:=by rfl):Calls P f a w (lG (fun _:Unit=>u) (fun _ _=>True) w):=h.mono (fun _ _ h=>zI h b)
section
variable {N:Nat} {S0:Nat→Prop} {w0:World} {s s':St} {Φ Ψ Φ0:World→Prop} {L:Nat→Nat} {a:Act} {w:World} {P:Program} {ops:Array Oper} {Q:Exit→Act→World→Prop} {o:Oper}
theorem kQ.of {sl:SlL}{bl:BlL}(h:(sl.map (fun q=>s.sl q.1),bl.map (fun q=>s.bl q.1))=(sl.map (fun q=>some q.2),bl.map (fun q=>some q.2))):kQ s sl bl:=h
def Zii (N:Nat) (S0:Nat→Prop) (w0:World) (J:Nat→St→(World→Prop)→Prop) (n:Nat) (a:Act) (w:World):Prop:=∃ n' s' Φ' L',n'<n∧J n' s' Φ'∧Inv N S0 w0 s' Φ' L' a w
theorem ZkM {c:Code}(J:Nat→St→(World→Prop)→Prop)(f:Nat)(g:J f s Φ)(b:∀ n s Φ,J n s Φ→SXc P N S0 w0 (Exit.then (Zii N S0 w0 J n) Q) c s Φ):SXc P N S0 w0 Q (.loop c) s Φ:=fun L a w hi=>by
 refine wp_loop_ghost (fun n a w=>∃ s Φ L,J n s Φ∧Inv N S0 w0 s Φ L a w) f ⟨s,Φ,L,g,hi⟩ ?_
 rintro n a w ⟨s,Φ,L,h,hi⟩
 refine wp_mono (b n s Φ h L a w hi) ?_
 intro e q w' d
 cases e with
 | normal =>
  obtain⟨i,s',Φ',j,k,m,p⟩:=d
  exact⟨i,k,s',Φ',j,m,p⟩
 | exit id=>exact d
 | goto l=>exact d
 | ret=>exact d
 | panic ch=>exact d
 | outgrown=>exact d
theorem dQ {J:Nat→St→(World→Prop)→Prop}{n:Nat}(b:Nat)(c:b<n)(h:J b s Φ):SXq N S0 w0 (Exit.then (Zii N S0 w0 J n) Q .normal) s Φ:=fun _ _ _ hi=>⟨b,s,Φ,_,c,h,hi⟩
theorem Zcd {x y:Code}(J:St→(World→Prop)→Prop)(d:SXc P N S0 w0 (Exit.then (fun a w=>∃ s' Φ' L',J s' Φ'∧Inv N S0 w0 s' Φ' L' a w) Q) x s Φ)(f:∀ s Φ,J s Φ→SXc P N S0 w0 Q y s Φ):SXc P N S0 w0 Q (.seq x y) s Φ:=fun L a w hi=>by
 refine wp_seq (wp_mono (d L a w hi) ?_)
 intro e g w' b
 cases e with
 | normal =>
  obtain⟨s',Φ',L',c,h⟩:=b
  exact f s' Φ' c L' g w' h
 | exit id=>exact b
 | goto l=>exact b
 | ret=>exact b
 | panic ch=>exact b
 | outgrown=>exact b
theorem Zqu {J:St→(World→Prop)→Prop}(h:J s Φ):SXq N S0 w0 (Exit.then (fun a w=>∃ s' Φ' b,J s' Φ'∧Inv N S0 w0 s' Φ' b a w) Q .normal) s Φ:=fun _ _ _ hi=>⟨s,Φ,_,h,hi⟩
theorem gI {n i:Nat}(d:Nat){α:Type}[e:Nonempty α](b:α→Value)(φ:α→World→Prop)(hi:Nat.blt i n=true)(f:cls (opAt ops i).op=2)(g:s.wantB ops (opAt ops i)=some true)(h:kU (opAt ops i).op=true)(j:(opAt ops i).op.operands.toList.all s.vB=true)(k:(opAt ops i).dst=some d)(l:Nat.blt d N=true)(c:∀ w,Fr S0 w0 w→Φ w→Does P (opAt ops i) s.rho w (DoR b φ w))(K:∀ x,StI P N S0 w0 ops Φ0 Q n (i+1) (s.put d (.v (b x))) (fun w=>Φ w∧φ x w)):StI P N S0 w0 ops Φ0 Q n i s Φ:=by
 have m:i<n:=vS hi
 unfold StI
 rw[show n-i=(n-(i+1))+1 by omega,List.range'_succ]
 exact .does e b φ f g h j k (vS l) c K
end
def fO (w:World) (v:Value) (xs:List Nat):Prop:=∃ A c,v=.slice A xs.length c∧xs.length≤c∧zH .u32 w A xs
theorem fO.nrb {S:Nat→Prop}{w w':World}{v:Value}{xs:qN}(h:fO w v xs)(b:∀ i,S i→NRB w i)(d:Fr S w w'):fO w' v xs:=by
 obtain⟨A,c,e,f,g⟩:=h
 exact⟨A,c,e,f,g.nrb qD b d⟩
theorem fO.shows {w:World}{A:qA}{l c:Nat}{xs:qN}(h:fO w (.slice A l c) xs):xs.length=l∧xs.length≤c∧zH .u32 w A xs:=by
 obtain⟨f,g,b,d,e⟩:=h
 injection b with e1 e2 e3
 subst e1;subst e3
 exact⟨e2.symm,d,e⟩
theorem zY.row {w:World}{v:Value}{n:Nat}(h:zY w v n):∃ b,fO w v b∧Dig W32 b∧Trim b∧val W32 b=n:=by
 obtain⟨A,b,c,d,e,f,g⟩:=h
 exact⟨b,⟨A,c,d,e,f⟩,g⟩
theorem ZgP {P:Program}(w:World)(t C e:TypeId)(k:IntKind)(bytes:Nat)(H:P.underlying t=some (.slice e))(q:(P.info? e).map (fun i=>(i.zero,i.size,i.bytes))=some (some (.int k 0),1,bytes))(b a:Addr)(n m cap c:Nat)(xs news:qN)(I:xs.length=n)(J:news.length=m)(K:zH k w (some b) xs)(M:zH k w (some a) news)(O:cap<n+m)(y:n+m≤maxLen)(l:(n+m)*bytes≤140737488355328) :
 ∃ g p w',(Builtin.append_ #[t,t] C #[.slice (some b) n cap,.slice (some a) m c]).run P w=.ok (.slice (some ⟨g,0,none⟩) (n+m) p) w'∧n+m≤p∧Own k e w' g (xs ++ news)∧Ext w w':=by
 obtain⟨i,hi,R,D,z⟩:=info_parts q
 have f:∀ (r:List Nat) (d:Addr),zH k w (some d) r→∀ j u,(r.map fun x:Nat=>Value.int k (x:Int))[j]? = some u→w.cell? (d.add j)=some u:=by
  intro r d S j u E
  rw[List.getElem?_map] at E
  obtain⟨x,F,rfl⟩:=vK.1 E
  have T:j<r.length:=(List.getElem?_eq_some_iff.1 F).1
  obtain⟨W,U,h,_,A⟩:=S.at T
  injection h with h
  subst h
  rw[F] at A
  by_cases G:j=0
  ·subst G;simpa [Addr.add] using A
  simpa [Addr.add,G] using A
 have V:=run_append_grow (P:=P) (w:=w) t C e i (.int k 0) H hi R b n cap (xs.map fun x:Nat=>Value.int k (x:Int)) (by rw[D];simp[I]) (f _ _ K) a m c (news.map fun x:Nat=>Value.int k (x:Int)) (by rw[D];simp[J]) (f _ _ M) O (by simp only[maxLen] at y;omega) (growslice_fits qO (by rw[z];exact l))
 refine⟨_,_,_,V,?_,?_,((Fr.refl _ _).drew).alloc _⟩
 ·exact grownCap_ge _ _ _ _
 refine⟨(Builtin.zeroCells (Value.int k 0).cells (grownCap w (n+m) cap e-(n+m))).toList,fun v B=>?_,?_⟩
 ·rw[Array.mem_toList_iff] at B
  simp only[Builtin.zeroCells] at B
  obtain⟨j,_,rfl⟩:=Array.mem_map.1 B
  exact⟨0,by simp[Value.cells,Nat.mod_one]⟩
 rw[show w.heap.size=w.drew.heap.size from rfl,heap_alloc_new]
 simp[lM]
theorem Own.row {e:TypeId}{w:World}{g c:Nat}{xs:qN}(h:Own .u32 e w g xs)(b:xs.length≤c):fO w (.slice (some ⟨g,0,none⟩) xs.length c) xs:=⟨_,c,rfl,b,h.shows0⟩
theorem Zh4 {P:Program}{o:Oper}{ρ:Operand→Value}{w:World}{x y:Operand}{t e:TypeId}(q:o.op=.call { callee:=.builtin .append,args:=#[x,y],argTypes:=#[t,t] })(r:P.underlying t=some (.slice e))(f:(P.info? e).map (fun i=>(i.zero,i.size,i.bytes))=some (some (.int .u32 0),1,4)){b:Addr}{A:qA}{n m cap c:Nat}(u:ρ x=.slice (some b) n cap)(v:ρ y=.slice A m c){xs news:qN}(B:fO w (.slice (some b) n cap) xs)(C:fO w (.slice A m c) news)(D:cap<n+m)(h:n+m≤35184372088832):Does P o ρ w (DoR wE (fun z w=>fO w (wE z) (xs ++ news)) w):=by
 obtain⟨k,M,E⟩:=B.shows
 obtain⟨j,O,l⟩:=C.shows
 obtain⟨a,rfl⟩:∃ a,A=some a:=by
  cases news with
  | nil=>simp at j;omega
  | cons z zs=>obtain⟨g,F,e,_⟩:=l.at (i:=0) qS;exact⟨_,e⟩
 obtain⟨g,d,w',G,R,H,p⟩:=ZgP (P:=P) w t o.type e .u32 4 r f b a n m cap c xs news k j E l D (by simp only[maxLen];omega) qO
 refine Or.inl ⟨.slice (some ⟨g,0,none⟩) (n+m) d,w',?_,(some ⟨g,0,none⟩,n+m,d),rfl,p,boxn p (fun S I J K=>?_)⟩
 ·simp only[execOp,q,resolve,invoke,builtin,Sem.run_bind,Sem.run_pure,Result.andThen_ok,List.map_toArray,List.map_cons,List.map_nil,u,v,G]
 have:=(H.row (c:=d) (by simp;omega)).nrb J K
 simpa [wE,k,j] using this
theorem Zkd {P:Program}{o:Oper}{ρ:Operand→Value}{w:World}{l c:Operand}{t e:TypeId}(g:o.op=Op.makeSlice t l c)(j:P.underlying t=some (.slice e))(f:(P.info? e).map (fun i=>(i.zero,i.size,i.bytes))=some (some (.int .u32 0),1,4)){kl kc:IntKind}{n:Nat}(k:ρ l=.int kl n)(m:ρ c=.int kc n)(h:n≤35184372088832) :
 Does P o ρ w (DoR (fun b:Nat=>.slice (some ⟨b,0,none⟩) n n) (fun b w=>fO w (.slice (some ⟨b,0,none⟩) n n) (List.replicate n 0)) w):=by
 have d:=run_make_row' (P:=P) t e (.int .u32 0) 4 j f rfl kl kc n qO qO w
 rw[aV] at d
 have Q:Ext w (w.alloc (.cells (lM .u32 (List.replicate n 0) []) e)):=(Fr.refl _ w).alloc _
 refine Or.inl ⟨.slice (some ⟨w.heap.size,0,none⟩) n n,_,by simp[execOp,g,k,m,d,Result.andThen],w.heap.size,rfl,Q,boxn Q (fun S p q r=>?_)⟩
 have:=((Own.new w e .u32 (List.replicate n 0) []).row (c:=n) qS).nrb q r
 simpa using this
section
variable {N:Nat} {S0:Nat→Prop} {w0:World} {s:St} {Φ:World→Prop} {P:Program} {Q:Exit→Act→World→Prop}
theorem xI {c:Code}{sl:SlL}{d:BlL}{Ψ:World→Prop}(J:Nat→St→(World→Prop)→Prop)(e:Nat)(f:J e (ofL sl d) Ψ)(R:∀ w,Φ w→Ψ w)(b:∀ n s Φ,J n s Φ→SXc P N S0 w0 (Exit.then (Zii N S0 w0 J n) Q) c s Φ)(g:(sl.map (fun q=>s.sl q.1),d.map (fun q=>s.bl q.1))=(sl.map (fun q=>some q.2),d.map (fun q=>some q.2)):=by kernel_rfl)(h:wfB sl d=true:=by kernel_rfl):SXc P N S0 w0 Q (.loop c) s Φ:=SXc.weak sl d (kQ.of g) h R (ZkM J e f b)
theorem xC {J:Nat→St→(World→Prop)→Prop}{n:Nat}{sl:SlL}{b:BlL}{Ψ:World→Prop}(c:Nat)(d:c<n)(h:J c (ofL sl b) Ψ)(R:∀ w,Φ w→Ψ w)(e:(sl.map (fun q=>s.sl q.1),b.map (fun q=>s.bl q.1))=(sl.map (fun q=>some q.2),b.map (fun q=>some q.2)):=by kernel_rfl)(f:wfB sl b=true:=by kernel_rfl):SXq N S0 w0 (Exit.then (Zii N S0 w0 J n) Q .normal) s Φ:=SXq.weak sl b (kQ.of e) f R (dQ c d h)
theorem kW {J:St→(World→Prop)→Prop}{sl:SlL}{b:BlL}{Ψ:World→Prop}(h:J (ofL sl b) Ψ)(R:∀ w,Φ w→Ψ w)(c:(sl.map (fun q=>s.sl q.1),b.map (fun q=>s.bl q.1))=(sl.map (fun q=>some q.2),b.map (fun q=>some q.2)):=by kernel_rfl)(d:wfB sl b=true:=by kernel_rfl):SXq N S0 w0 (Exit.then (fun a w=>∃ s' Φ' e,J s' Φ'∧Inv N S0 w0 s' Φ' e a w) Q .normal) s Φ:=SXq.weak sl b (kQ.of c) d R (Zqu h)
end
section
variable {N:Nat} {S0:Nat→Prop} {w0:World} {s:St} {Φ:World→Prop} {P:Program} {ops:Array Oper} {Q:Exit→Act→World→Prop}
theorem yD {i:Nat}{α:Type}{d:Nat}(b:α→Value)(φ:α→World→Prop)(c:∀ w,Fr S0 w0 w→Φ w→Does P (opAt ops i) s.rho w (DoR b φ w))(K:∀ x,SXi P N S0 w0 ops Q (i+1) (s.put d (.v (b x))) (fun w=>Φ w ∧ φ x w))(hi:Nat.blt i ops.size=true:=by kernel_rfl)(e:s.wantB ops (opAt ops i)=some true:=by kernel_rfl)(f:kU (opAt ops i).op=true:=by kernel_rfl)(g:(opAt ops i).op.operands.toList.all s.vB=true:=by kernel_rfl)(h:(opAt ops i).dst=some d:=by kernel_rfl)(j:Nat.blt d N=true:=by kernel_rfl):SXi P N S0 w0 ops Q i s Φ:=lF b φ hi e f g h j c K
theorem yK {i:Nat}(d:Nat)(y:Value)(b:∀ w,Fr S0 w0 w→Φ w→(execOp s.rho (opAt ops i)).run P w=.ok (.value y) w)(K:SXi P N S0 w0 ops Q (i+1) (s.put d (.v y)) Φ)(hi:Nat.blt i ops.size=true:=by kernel_rfl)(c:kU (opAt ops i).op=true:=by kernel_rfl)(e:s.wantB ops (opAt ops i)=some true:=by kernel_rfl)(f:(opAt ops i).op.operands.toList.all s.vB=true:=by kernel_rfl)(g:(opAt ops i).dst=some d:=by kernel_rfl)(h:Nat.blt d N=true:=by kernel_rfl):SXi P N S0 w0 ops Q i s Φ:=Zec d y hi c e f g h b K
theorem yR {fn:Func}{R:Ending→World→Prop}(v:Value)(b:∀ w,Fr S0 w0 w→Φ w→R (.returned v) w)(h:Zih P fn s=some v:=by kernel_rfl):SXq N S0 w0 (bodyPost P fn R .ret) s Φ:=zF h b
theorem yQ {c:Operand}{x y:Code}(b:Bool)(d:b=true→SXc P N S0 w0 Q x s Φ)(e:b=false→SXc P N S0 w0 Q y s Φ)(f:s.eval c=some (.v (.bool b)):=by kernel_rfl):SXc P N S0 w0 Q (.cond c x y) s Φ:=zS b f d e
theorem yO {id:Nat}(n:Nat){sl:SlL}{b:BlL}(c:P.follows .mixedOrders=true)(h:StI P N S0 w0 ops Φ Q n 0 (ofL sl b) Φ)(d:ZpN ops (ofL sl b) n=true:=by kernel_rfl)(e:Zbs ops sl=true:=by kernel_rfl):SXc P N S0 w0 Q (.region id ops true) (ofL sl b) Φ:=xX n d e c h
theorem yP {q:Act→World→Prop}(sl:SlL)(b:BlL)(Ψ:World→Prop)(Q:∀ w,Φ w→Ψ w)(h:SXq N S0 w0 q (ofL sl b) Ψ)(c:(sl.map (fun q=>s.sl q.1),b.map (fun q=>s.bl q.1))=(sl.map (fun q=>some q.2),b.map (fun q=>some q.2)):=by kernel_rfl)(d:wfB sl b=true:=by kernel_rfl):SXq N S0 w0 q s Φ:=SXq.weak sl b (kQ.of c) d Q h
theorem yC {c:Code}(sl:SlL)(b:BlL)(Ψ:World→Prop)(R:∀ w,Φ w→Ψ w)(h:SXc P N S0 w0 Q c (ofL sl b) Ψ)(d:(sl.map (fun q=>s.sl q.1),b.map (fun q=>s.bl q.1))=(sl.map (fun q=>some q.2),b.map (fun q=>some q.2)):=by kernel_rfl)(e:wfB sl b=true:=by kernel_rfl):SXc P N S0 w0 Q c s Φ:=SXc.weak sl b (kQ.of d) e R h
theorem yZ {i:Nat}{y:Code}(K:SXc P N S0 w0 Q y s Φ)(h:Nat.ble ops.size i=true:=by kernel_rfl):SXi P N S0 w0 ops (Exit.then (y.wp P Q) Q) i s Φ:=ZrH h (zB K)
theorem yY {id:Nat}{y:Code}(K:SXi P N S0 w0 ops (Exit.then (y.wp P Q) Q) 0 s Φ):SXc P N S0 w0 Q (.seq (.region id ops false) y) s Φ:=zD (zC K)
theorem yM {f:FuncId}{b:Array Value}{w:World}{R T:Ending→World→Prop}(p:∀ {e w'},R e w'→T e w')(h:Calls P f b w R):Calls P f b w T:=h.mono (fun _ _=>p)
end
theorem Zf1 {P:Program}{ρ:Operand→Value}{w:World}{t e:TypeId}{n sz:Nat}{z:Value}{parts:Array (Nat × Operand)}{a:Array Value}(g:P.underlying t=some (.slice e))(b:(P.info? e).map (fun i=>(i.zero,i.size))=some (some z,sz))(j:Nat.ble (n*sz) 1000=true)(hn0:Nat.beq (n*sz) 0=false)(k:Instr.fill (fun i=>some (i*sz,sz)) ((List.range (n*sz)).map (fun i=>z.cells[i%z.cells.size]!)).toArray (parts.toList.map fun q=>(q.1,ρ q.2))=some a) :
 (Instr.buildSlice t n (parts.map fun q:Nat × Operand=>(q.1,ρ q.2))).run P w=.ok (.slice (some ⟨w.heap.size,0,none⟩) n n) (w.alloc (.cells a e)):=by
 obtain⟨i,hi,c⟩:=vK.1 b
 injection c with c h2
 have l:=vS j
 have d:¬ n*sz=0:=fun h=>by rw[h] at hn0;cases hn0
 have f:¬ 2^24<n*sz:=qO
 have m:(Array.range (n*sz)).map (fun i=>z.cells[i%z.cells.size]!)=((List.range (n*sz)).map (fun i=>z.cells[i%z.cells.size]!)).toArray:=by
  apply Array.ext';simp
 have o:(parts.map fun q:Nat × Operand=>(q.1,ρ q.2)).toList=parts.toList.map fun q=>(q.1,ρ q.2):=qS
 unfold Instr.buildSlice
 simp[underlying,g,sizeOf,typeInfo,hi,h2,zeroValue,c,d,f,m,k,newRow,newObj,Result.andThen]
 rfl
theorem gE {P:Program}{o:Oper}{ρ:Operand→Value}{w:World}{t e:TypeId}{n sz:Nat}{z:Value}{parts:Array (Nat × Operand)}{a:Array Value}(g:o.op=Op.buildSlice t n parts)(j:P.underlying t=some (.slice e))(c:(P.info? e).map (fun i=>(i.zero,i.size))=some (some z,sz))(k:Nat.ble (n*sz) 1000=true)(f:Nat.beq (n*sz) 0=false)(l:Instr.fill (fun i=>some (i*sz,sz)) ((List.range (n*sz)).map (fun i=>z.cells[i%z.cells.size]!)).toArray (parts.toList.map fun q=>(q.1,ρ q.2))=some a) :
 Does P o ρ w (DoR (fun b:Nat=>.slice (some ⟨b,0,none⟩) n n) (fun b w=>Blk e w b a) w):=by
 have d:=Zf1 (w:=w) j c k f l
 exact Or.inl ⟨_,_,by simp[execOp,g,d,Result.andThen],w.heap.size,rfl,(Fr.refl _ w).alloc _,fun S m p r=>(Blk.new w e a).fr r (fun h=>by have:=(m _ h).1;omega)⟩
theorem gQ {P:Program}{o:Oper}{ρ:Operand→Value}{w:World}{t:TypeId}{x:Operand}{lo hi:Option Operand}{b r:ByteArray}(l h:Nat)(d:o.op=Op.slice t x lo hi none)(e:P.underlying t=some .string)(f:ρ x=.string b)(a:lo.map ρ=none∧l=0∨lo.map ρ=some (.int .i64 l))(c:hi.map ρ=none∧h=b.size∨hi.map ρ=some (.int .i64 h))(g:l≤h)(i:h≤b.size)(j:b.extract l h=r):(execOp ρ o).run P w=.ok (.value (.string r)) w:=by
 subst j
 rcases a with ⟨a,rfl⟩|a<;>rcases c with ⟨c,rfl⟩|c <;>
  simp[execOp,d,Instr.sliceAt,Instr.slice,Instr.sliceBounds,Instr.sliceBound,asIntOf,underlying,e,f,a,c,g,i,Result.andThen]
theorem ZlT {P:Program}{o:Oper}{ρ:Operand→Value}{w:World}{t k:TypeId}{x y:Operand}{a b r:ByteArray}(c:o.op=Op.binOp .add t x y k)(d:ρ x=.string a)(e:ρ y=.string b)(g:a.size+b.size≤1099511627776)(f:a ++ b=r):(execOp ρ o).run P w=.ok (.value (.string r)) w:=by
 have h:¬ ((a.size+b.size:Nat):Int)>IntKind.i64.max:=by
  have:IntKind.i64.max=9223372036854775807:=qD
  rw[this];omega
 simp only[execOp,c,d,e,eqGuard,binOp,Op.stringOp,uQ h,f]
 rfl
open Classical in
theorem Fr.split {A B:Nat→Prop}{w w2:World}(h:Fr (fun i=>A i∨B i) w w2):∃ l,Fr A w l∧Fr B l w2:=by
 have m:∀ i,i<w2.heap.size→(w2.heap.mapIdx fun i o=>if A i∨w.heap.size≤i then o else (w.heap[i]?).getD o)[i]? = if A i∨w.heap.size≤i then w2.heap[i]? else w.heap[i]? := by
  intro i hi
  rw[Array.getElem?_mapIdx,Array.getElem?_eq_getElem hi]
  by_cases b:A i∨w.heap.size≤i
  ·simp[b]
  have d:i<w.heap.size:=by
   rcases vM i w.heap.size with c|c
   ·exact c
   exact absurd (Or.inr c) b
  simp only[b,rK,nM,Array.getElem?_eq_getElem d,qG]
 refine⟨{ w2 with heap:=w2.heap.mapIdx fun i o=>if A i∨w.heap.size≤i then o else (w.heap[i]?).getD o },⟨h.os,h.tape,h.output,?_,fun i hi g=>?_⟩,⟨rfl,rfl,rfl,?_,fun i hi n=>?_⟩⟩
 ·simpa using h.size
 ·have f:=m i (uS hi h.size)
  rw[uQ (fun b=>b.elim g (fun c=>qO))] at f
  exact f
 ·simp
 have j:i<w2.heap.size:=by simpa using hi
 have f:=m i j
 by_cases b:A i∨w.heap.size≤i
 ·rw[uZ b] at f;exact f.symm
 rw[uQ b] at f
 have d:i<w.heap.size:=by
  rcases vM i w.heap.size with c|c
  ·exact c
  exact absurd (Or.inr c) b
 exact (h.block i d (fun c=>c.elim (fun g=>b (Or.inl g)) n)).trans f.symm
theorem bl2 (b:Bool):b=true∨b=false:=by cases b<;>simp
theorem Own.same {k:IntKind}{t:TypeId}{w w':World}{b:Nat}{xs:qN}(h:Own k t w b xs)(e:w'.heap[b]? = w.heap[b]?):Own k t w' b xs:=by
 obtain⟨tail,c,d⟩:=h
 exact⟨tail,c,e.trans d⟩
section
variable {N:Nat} {S0:Nat→Prop} {w0:World} {s:St} {Φ Ψ:World→Prop} {L:Nat→Nat} {a:Act} {w:World} {P:Program} {ops:Array Oper} {Q:Exit→Act→World→Prop}
theorem Inv.notOwn (h:Inv N S0 w0 s Φ L a w){r j:Nat}{c:Value}(f:∀ w,Φ w→w.cell? ⟨r,j,none⟩=some c):¬ s.own L r:=fun g=>by
 have i:=f w h.box.self
 have b:∀ u:Value,u≠c→False:=fun u l=>by
  have d:=f (w.setCell ⟨r,j,none⟩ u) (h.box _ ((Fr.refl _ _).setCell (p:=⟨r,j,none⟩) (Or.inl g) u))
  rw[World.cell?_setCell_same _ _ _ i] at d
  injection d with d
  exact l d
 by_cases e:c=.bool true
 ·exact b (.bool false) (by rw[e];intro h;cases h)
 exact b (.bool true) (fun h=>e h.symm)
theorem Inv.eff (h:Inv N S0 w0 s Φ L a w){w':World}{r:Nat}(d:Fr (fun i=>i=r) w w')(g:¬ s.own L r)(c:w0.heap.size≤r∨S0 r)(f:r<w.heap.size)(m:∀ w1 w2,Φ w1→Fr (fun i=>i=r) w1 w2→w2.heap[r]? = w'.heap[r]? → Ψ w2):Inv N S0 w0 s Ψ L a w':=by
 refine⟨h.size,h.df,h.sl,⟨fun b t n e=>(h.mem.blk b t n e).fr d (fun p=>g ⟨b,by rw[e];rfl,p⟩),h.mem.inj,h.mem.old,h.mem.ext.next d (fun i hi e=>?_),h.mem.slp,h.mem.cel⟩,fun w2 j=>?_⟩
 ·rcases c with l|l
  ·omega
  rw[e];exact l
 have q:Fr (fun i=>s.own L i∨i=r) w w2:=(d.mono (fun i _ e=>Or.inr e)).trans (j.mono (fun i _ e=>Or.inl e))
 obtain⟨w1,k1,u⟩:=q.split
 exact m w1 w2 (h.box w1 k1) u (j.block r (uS f d.size) g)
theorem Zf2 {α:Type}(l:List α)(j:Nat)(c:α)(h:j<l.length):lL l j [c]=l.set j c:=by
 unfold lL
 rw[List.set_eq_take_append_cons_drop,uZ h]
 simp
theorem ZiZ {t e:TypeId}{k:IntKind}{b j:Nat}{xs:qN}(m:(teOf P t).map (fun e=>e.size)=some 1)(d:Own k e w b xs)(n:j<xs.length)(v:Nat) :
 ∃ w',(Instr.storeAt t (.pointer (some ⟨b,j,none⟩)) (.int k (v:Int))).run P w=.ok () w'∧Own k e w' b (xs.set j v)∧Fr (fun i=>i=b) w w':=by
 obtain⟨z,f,p⟩:=vK.1 m
 obtain⟨tail,q,d⟩:=d
 obtain⟨w',r,h,u⟩:=Zah (P:=P) f (g:=b) (bt:=e) (off:=j) (cur:=(xs.map fun x:Nat=>Value.int k (x:Int)) ++ tail) (v:=.int k (v:Int)) d (by rw[p];rfl) (by simp[Value.cells];omega) (fun c l=>by simp[Value.cells] at l;rw[l];rfl)
 refine⟨w',r,⟨tail,q,?_⟩,u⟩
 have y:lL ((xs.map fun x:Nat=>Value.int k (x:Int)) ++ tail) j (Value.cells (.int k (v:Int))).toList=((xs.set j v).map fun x:Nat=>Value.int k (x:Int)) ++ tail:=by
  rw[show (Value.cells (.int k (v:Int))).toList=[.int k (v:Int)] from rfl,Zf2 _ _ _ (by simp;omega),List.set_append_left _ _ (by simpa using n),List.map_set]
 rw[y] at h
 exact h
theorem jL {i:Nat}{t e:TypeId}{k:IntKind}{x y:Operand}{xs:qN}(b j v:Nat)(Ψ:World→Prop)(l:∀ w,Φ w→Own k e w b xs)(m:j<xs.length)(c:w0.heap.size≤b∨S0 b)(n:∀ w w',Φ w→Fr (fun i=>i=b) w w'→Own k e w' b (xs.set j v)→Ψ w')(K:SXi P N S0 w0 ops Q (i+1) s Ψ)(g:Nat.blt i ops.size=true:=by kernel_rfl)(p:s.wantB ops (opAt ops i)=some true:=by kernel_rfl)(q:(opAt ops i).op=.store t x y:=by kernel_rfl)(r:(opAt ops i).dst=none:=by kernel_rfl)(u:(teOf P t).map (fun e=>e.size)=some 1:=by kernel_rfl)(z:s.eval x=some (.v (.pointer (some ⟨b,j,none⟩))):=by kernel_rfl)(A:s.eval y=some (.v (.int k (v:Int))):=by kernel_rfl):SXi P N S0 w0 ops Q i s Φ:=by
 unfold SXi
 rw[jP g]
 intro L a w hi
 refine wpList_step fun O B=>?_
 rw[uZ (hi.want p)]
 have d:=l w hi.box.self
 obtain⟨w',C,h,D⟩:=ZiZ (P:=P) u d m v
 unfold Oper.wp
 have E:=hi.eval z
 have F:=hi.eval A
 have f:(execOp a.eval (opAt ops i)).run P w=.ok .skip w':=by simp only[execOp,q,Sem.run_bind,E,F,AV.conc,C,Result.andThen_ok,Sem.run_pure]
 rw[f,Oper.upon_skip,r]
 refine B _ _ (K L _ _ (hi.eff D (hi.notOwn (fun w R=>(l w R).cell m)) c d.lt (fun G H I J M=>n G H I J (h.same M))))
theorem ZcH {i d:Nat}{e:TypeId}{k:IntKind}{xs:qN}{α:Type}(f:FuncId)(args:List Value)(g:α→Value)(p:α→Prop)(zs:α→List Nat)(b:Nat)(Ψ:α→World→Prop)(m:∀ w,Φ w→Own k e w b xs)(q:0<xs.length)(c:w0.heap.size≤b∨S0 b)(r:∀ w,Fr S0 w0 w→Φ w→Calls P f args.toArray w (fun en w'=>∃ x,en=.returned (g x)∧p x∧Fr (fun i=>i=b) w w'∧Own k e w' b (zs x)))(u:∀ x w w',p x→Φ w→Fr (fun i=>i=b) w w'→Own k e w' b (zs x)→Ψ x w')(K:∀ x,p x→SXi P N S0 w0 ops Q (i+1) (s.put d (.v (g x))) (Ψ x))(j:Nat.blt i ops.size=true:=by kernel_rfl)(h:gH P N ops (opAt ops i) s=some (f,args,d):=by kernel_rfl):SXi P N S0 w0 ops Q i s Φ:=by
 obtain⟨y,z,A,B,C,D,E⟩:=gO h
 unfold SXi
 rw[jP j]
 intro L a w hi
 refine wpList_step fun U F=>?_
 rw[uZ (hi.want y)]
 unfold Oper.wp
 rw[hi.exec B C,bT z D,Oper.upon_enter]
 refine Calls.mono (r w hi.mem.ext hi.box.self) fun en w' G=>?_
 obtain⟨x,rfl,n,H,l⟩:=G
 simp only[A]
 have I:=hi.app0 (d:=d) E (al_v (s:=s) (g x))
 exact F _ _ (K x n L _ _ (I.eff H (hi.notOwn (fun w R=>(m w R).cell q)) c (m w hi.box.self).lt (fun J M O S T=>u x J M n O S (l.same T))))
theorem Zbu {i d:Nat}{t e:TypeId}{k kl kc:IntKind}{l c:Operand}(n bytes:Nat)(hn:n≤35184372088832)(A:bytes≤8)(K:∀ b,w0.heap.size≤b→(∀ r,(∀ w,Φ w→r<w.heap.size)→r<b)→SXi P N S0 w0 ops Q (i+1) (s.put d (Λ (some ⟨b,0,none⟩) n n)) (fun w=>Box (fun j=>b≤j) w Φ∧Own k e w b (List.replicate n 0)))(B:Nat.blt i ops.size=true:=by kernel_rfl)(G:s.wantB ops (opAt ops i)=some true:=by kernel_rfl)(H:(opAt ops i).op.operands.toList.all s.vB=true:=by kernel_rfl)(F:(opAt ops i).op=Op.makeSlice t l c:=by kernel_rfl)(I:(opAt ops i).dst=some d:=by kernel_rfl)(J:Nat.blt d N=true:=by kernel_rfl)(M:P.underlying t=some (.slice e):=by kernel_rfl)(u:(P.info? e).map (fun i=>(i.zero,i.size,i.bytes))=some (some (.int k 0),1,bytes):=by kernel_rfl)(O:s.rho l=.int kl n:=by kernel_rfl)(S:s.rho c=.int kc n:=by kernel_rfl):SXi P N S0 w0 ops Q i s Φ:=by
 unfold SXi
 rw[jP B]
 intro L a w hi
 refine wpList_step fun K' T=>?_
 rw[uZ (hi.want G)]
 unfold Oper.wp
 have C:kU (opAt ops i).op=true:=by rw[F];rfl
 have U:bytes*n≤8*n:=uE n A
 rw[hi.exec C H]
 have p:=run_make_row' (P:=P) t e (.int k 0) bytes M u rfl kl kc n qO qO w
 rw[aV] at p
 have y:(execOp s.rho (opAt ops i)).run P w=.ok (.value (.slice (some ⟨w.heap.size,0,none⟩) n n)) (w.alloc (.cells (lM k (List.replicate n 0) []) e)):=by simp[execOp,F,O,S,p,Result.andThen]
 rw[y,Oper.upon_value,I]
 have R:Ext w (w.alloc (.cells (lM k (List.replicate n 0) []) e)):=(Fr.refl _ w).alloc _
 have m:=hi.app0 (d:=d) (vS J) (al_v (s:=s) (.slice (some ⟨w.heap.size,0,none⟩) n n))
 have V:=Own.new w e k (List.replicate n 0) []
 refine T _ _ (K w.heap.size hi.mem.ext.size (fun r h=>h w hi.box.self) L _ _ ⟨m.size,m.df,m.sl,⟨fun b t W e=>(m.mem.blk b t W e).ext R,m.mem.inj,m.mem.old,m.mem.ext.ext R,m.mem.slp,m.mem.cel⟩,fun w2 z=>⟨fun X g=>?_,?_⟩⟩)
 ·refine hi.box X ⟨g.os.trans (z.os.trans R.os),g.tape.trans (z.tape.trans R.tape),g.output.trans (z.output.trans R.output),uD R.size (uD z.size g.size),fun j D E=>?_⟩
  have Y:=R.block j D (fun f=>f)
  have Z:=z.block j (uS D R.size) E
  have h3:=g.block j (uS D (uD R.size z.size)) qO
  exact h3.trans (Z.trans Y)
 refine V.fr z fun⟨b,hb,eb⟩=>?_
 obtain⟨q,eq⟩:=sX.1 hb
 have:=(hi.mem.blk b q.1 q.2 eq).lt
 omega
theorem SXi.know {i:Nat}{p:Prop}(h:∀ w,Fr S0 w0 w→Φ w→p)(K:p→SXi P N S0 w0 ops Q i s Φ):SXi P N S0 w0 ops Q i s Φ:=fun L a w hi=>K (h w hi.mem.ext hi.box.self) L a w hi
theorem ZoK {i d:Nat}{e:TypeId}{k:IntKind}(f:FuncId)(args:List Value)(xs:qN)(A:∀ w,Fr S0 w0 w→Φ w→Calls P f args.toArray w (fun en w'=>∃ b c,en=.returned (.slice (some ⟨b,0,none⟩) xs.length c)∧w.heap.size≤b∧xs.length≤c∧Ext w w'∧Own k e w' b xs))(K:∀ b c,w0.heap.size≤b→xs.length≤c→(∀ r,(∀ w,Φ w→r<w.heap.size)→r<b)→SXi P N S0 w0 ops Q (i+1) (s.put d (Λ (some ⟨b,0,none⟩) xs.length c)) (fun w=>Box (fun j=>b≤j) w Φ∧Own k e w b xs))(n:Nat.blt i ops.size=true:=by kernel_rfl)(h:gH P N ops (opAt ops i) s=some (f,args,d):=by kernel_rfl):SXi P N S0 w0 ops Q i s Φ:=by
 obtain⟨B,C,D,E,F,G,H⟩:=gO h
 unfold SXi
 rw[jP n]
 intro L a w hi
 refine wpList_step fun K' I=>?_
 rw[uZ (hi.want B)]
 unfold Oper.wp
 rw[hi.exec E F,bT C G,Oper.upon_enter]
 refine Calls.mono (A w hi.mem.ext hi.box.self) fun en w' J=>?_
 obtain⟨b,c,rfl,z,M,R,O⟩:=J
 simp only[D]
 have l:=hi.app0 (d:=d) H (al_v (s:=s) (.slice (some ⟨b,0,none⟩) xs.length c))
 refine I _ _ (K b c (uD hi.mem.ext.size z) M (fun r h=>uS (h w hi.box.self) z) L _ _ ⟨l.size,l.df,l.sl,⟨fun b t S e=>(l.mem.blk b t S e).ext R,l.mem.inj,l.mem.old,l.mem.ext.ext R,l.mem.slp,l.mem.cel⟩,fun w2 m=>⟨fun T g=>?_,?_⟩⟩)
 ·refine hi.box T ⟨g.os.trans (m.os.trans R.os),g.tape.trans (m.tape.trans R.tape),g.output.trans (m.output.trans R.output),uD R.size (uD m.size g.size),fun j p u=>?_⟩
  have U:=R.block j p (fun f=>f)
  have V:=m.block j (uS p R.size) u
  have W:=g.block j (uS p (uD R.size m.size)) qO
  exact W.trans (V.trans U)
 refine O.fr m fun X=>?_
 obtain⟨Y,y,eb⟩:=X
 obtain⟨q,Z⟩:=sX.1 y
 have:=(hi.mem.blk Y q.1 q.2 Z).lt
 omega
theorem Zqv {i d:Nat}{dT sT e:TypeId}{k:IntKind}{dx sx:Operand}{sp:qA}{n m dc sc:Nat}{mid ys:qN}(b:Nat)(Ψ:World→Prop)(B:mid.length=n)(C:ys.length=m)(f:0<mid.length)(y:∀ w,Φ w→Own k e w b mid)(D:∀ w,Φ w→zH k w sp ys)(g:w0.heap.size≤b∨S0 b)(E:∀ w w',Φ w→Fr (fun i=>i=b) w w'→Own k e w' b (ys.take mid.length ++ mid.drop ys.length)→Ψ w')(K:SXi P N S0 w0 ops Q (i+1) s Ψ)(l:Nat.blt i ops.size=true:=by kernel_rfl)(F:(opAt ops i).guard=none:=by kernel_rfl)(G:(opAt ops i).op=.call { callee:=.builtin .copy,args:=#[dx,sx],argTypes:=#[dT,sT] }:=by kernel_rfl)(p:(opAt ops i).dst=some d:=by kernel_rfl)(H:(s.sl d).isNone=true:=by kernel_rfl)(I:P.underlying dT=some (.slice e):=by kernel_rfl)(J:(P.info? e).map (·.size)=some 1:=by kernel_rfl)(M:s.eval dx=some (Λ (some ⟨b,0,none⟩) n dc):=by kernel_rfl)(O:s.eval sx=some (Λ sp m sc):=by kernel_rfl):SXi P N S0 w0 ops Q i s Φ:=by
 unfold SXi
 rw[jP l]
 intro L a w hi
 have S:=hi.eval M
 have T:=hi.eval O
 have h:=y w hi.box.self
 refine ZaF F dx sx dT sT G e k I J (some ⟨b,0,none⟩) sp n m dc sc S T b [] mid [] ys B C (by simpa using h) (D w hi.box.self) (fun _=>rfl) ?_
 intro w' z q _ U _
 have r:Own k e w' b (ys.take mid.length ++ mid.drop ys.length):=by simpa using q
 have c:=hi.eff U (hi.notOwn (fun w R=>(y w R).cell f)) g h.lt (fun V W c X Y=>E V W c X (r.same Y))
 have hsl:s.sl d=none:=by simpa using H
 refine K L _ _ ⟨by rw[p];simp[Act.put,c.size],by rw[p];exact c.df,fun j x A=>?_,c.mem,c.box⟩
 have u:d≠j:=fun e=>by rw[e,A] at hsl;cases hsl
 have:=c.sl j x A
 rw[p]
 simp[Act.put,Array.getElem?_setIfInBounds_ne u,this]
theorem xj {Φ0:World→Prop}{n i:Nat}(d:Nat)(y:Value)(b:∀ w,Φ0 w→(execOp s.rho (opAt ops i)).run P w=.ok (.value y) w)(K:StI P N S0 w0 ops Φ0 Q n (i+1) (s.put d (.v y)) Φ)(hi:Nat.blt i n=true:=by kernel_rfl)(c:Zdz (opAt ops i).op=true:=by kernel_rfl)(f:s.wantB ops (opAt ops i)=some true:=by kernel_rfl)(g:(opAt ops i).op.operands.toList.all s.vB=true:=by kernel_rfl)(h:(opAt ops i).dst=some d:=by kernel_rfl)(j:Nat.blt d N=true:=by kernel_rfl):StI P N S0 w0 ops Φ0 Q n i s Φ :=
 ZkI d y hi c f g h j b K
end
def atA (A:Option Addr) (i:Nat):Value:=.pointer (A.map (·.add i))
section
variable {P:Program} {o:Oper} {ρ:Operand→Value} {w:World} {t e:TypeId} {x ix:Operand} {k:IntKind} {xs:List Nat}
theorem wF {A:qA}{len cap i:Nat}(hA:A≠none)(h:i<len)(c:o.op=Op.indexAddr t x ix:=by kernel_rfl)(d:P.underlying t=some (.slice e):=by kernel_rfl)(f:(P.info? e).map (fun i=>i.size)=some 1:=by kernel_rfl)(g:ρ x=.slice A len cap:=by kernel_rfl)(hi:ρ ix=.int .i64 (i:Int):=by kernel_rfl):(execOp ρ o).run P w=.ok (.value (atA A i)) w:=by
 obtain⟨j,b,l⟩:=vK.1 f
 obtain⟨a,rfl⟩:∃ a,A=some a:=by cases A;exact absurd rfl hA;exact⟨_,rfl⟩
 have m:(0:Int)≤(i:Int)∧(i:Int)<(len:Int):=qO
 simp[execOp,c,Instr.indexAt,asIntOf,underlying,d,g,hi,h,sizeOf,typeInfo,b,l,Result.andThen,atA]
theorem jX {g off len cap i:Nat}(h:i<len)(b:o.op=Op.indexAddr t x ix:=by kernel_rfl)(c:P.underlying t=some (.slice e):=by kernel_rfl)(d:(P.info? e).map (fun i=>i.size)=some 1:=by kernel_rfl)(f:ρ x=.slice (some ⟨g,off,none⟩) len cap:=by kernel_rfl)(hi:ρ ix=.int .i64 (i:Int):=by kernel_rfl):(execOp ρ o).run P w=.ok (.value (.pointer (some ⟨g,off+i,none⟩))) w:=by
 rw[wF (A:=some ⟨g,off,none⟩) qS h b c d f hi,atA,rK,jW]
theorem lX {g len cap i:Nat}(h:i<len)(b:o.op=Op.indexAddr t x ix:=by kernel_rfl)(c:P.underlying t=some (.slice e):=by kernel_rfl)(d:(P.info? e).map (fun i=>i.size)=some 1:=by kernel_rfl)(f:ρ x=.slice (some ⟨g,0,none⟩) len cap:=by kernel_rfl)(hi:ρ ix=.int .i64 (i:Int):=by kernel_rfl):(execOp ρ o).run P w=.ok (.value (.pointer (some ⟨g,i,none⟩))) w:=by
 have:=jX (w:=w) h b c d f hi
 rwa [tA] at this
theorem kV {g off:Nat}{c:Value}(b:w.cell? ⟨g,off,none⟩=some c)(d:o.op=Op.load t x:=by kernel_rfl)(f:ρ x=.pointer (some ⟨g,off,none⟩):=by kernel_rfl)(ha:(teOf P t).map (fun e=>e.agg)=some false:=by kernel_rfl) :
 (execOp ρ o).run P w=.ok (.value c) w:=by
 obtain⟨e,h,i⟩:=vK.1 ha
 have:=ZbS (P:=P) (w:=w) h b i
 simp only[execOp,d,f,Sem.run_bind,this,Result.andThen_ok,Sem.run_pure]
theorem gJ {b j:Nat}(c:Own k e w b xs)(d:j<xs.length)(f:o.op=Op.load t x:=by kernel_rfl)(g:ρ x=.pointer (some ⟨b,j,none⟩):=by kernel_rfl)(ha:(teOf P t).map (fun e=>e.agg)=some false:=by kernel_rfl) :
 (execOp ρ o).run P w=.ok (.value (.int k ((xs[j]?.getD 0:Nat):Int))) w:=kV (c.cell d) f g ha
theorem wU {A:qA}{j:Nat}(b:zH k w A xs)(c:j<xs.length)(d:o.op=Op.load t x:=by kernel_rfl)(f:ρ x=atA A j:=by kernel_rfl)(ha:(teOf P t).map (fun e=>e.agg)=some false:=by kernel_rfl) :
 (execOp ρ o).run P w=.ok (.value (.int k ((xs[j]?.getD 0:Nat):Int))) w:=by
 obtain⟨g,h,rfl,_,i⟩:=b.at c
 exact kV i d (by rw[f,atA,rK,jW]) ha
theorem ZrO {A:qA}{len cap h:Nat}{hi:Operand}(c:h≤cap)(d:o.op=Op.slice t x none (some hi) none:=by kernel_rfl)(f:P.underlying t=some (.slice e):=by kernel_rfl)(g:(P.info? e).map (fun i=>i.size)=some 1:=by kernel_rfl)(j:ρ x=.slice A len cap:=by kernel_rfl)(l:ρ hi=.int .i64 (h:Int):=by kernel_rfl):(execOp ρ o).run P w=.ok (.value (.slice A h cap)) w:=by
 obtain⟨m,b,_⟩:=vK.1 g
 have n:A.map (fun a=>a.add 0)=A:=by cases A with
  | none=>rfl
  | some a=>simp[Addr.add]
 simp[execOp,d,Instr.sliceAt,Instr.slice,Instr.sliceBounds,Instr.sliceBound,asIntOf,underlying,f,j,l,c,sizeOf,typeInfo,b,Result.andThen,n]
theorem ZoL {A:qA}{len cap l:Nat}{lo:Operand}(c:l≤len)(d:o.op=Op.slice t x (some lo) none none:=by kernel_rfl)(f:P.underlying t=some (.slice e):=by kernel_rfl)(g:(P.info? e).map (fun i=>i.size)=some 1:=by kernel_rfl)(h:ρ x=.slice A len cap:=by kernel_rfl)(j:ρ lo=.int .i64 (l:Int):=by kernel_rfl):(execOp ρ o).run P w=.ok (.value (.slice (if cap=l then A else A.map (·.add l)) (len-l) (cap-l))) w:=by
 obtain⟨m,b,n⟩:=vK.1 g
 simp[execOp,d,Instr.sliceAt,Instr.slice,Instr.sliceBounds,Instr.sliceBound,asIntOf,underlying,f,h,j,c,sizeOf,typeInfo,b,n,Result.andThen]
theorem Zqw {g len cap off l h n m:Nat}{lo hi:Operand}(d:l≤h)(b:h≤cap)(j:l<cap)(p:h-l=n)(q:cap-l=m)(r:o.op=Op.slice t x (some lo) (some hi) none:=by kernel_rfl)(u:P.underlying t=some (.slice e):=by kernel_rfl)(v:(P.info? e).map (fun i=>i.size)=some 1:=by kernel_rfl)(y:ρ x=.slice (some ⟨g,off,none⟩) len cap:=by kernel_rfl)(z:ρ lo=.int .i64 (l:Int):=by kernel_rfl)(A:ρ hi=.int .i64 (h:Int):=by kernel_rfl):(execOp ρ o).run P w=.ok (.value (.slice (some ⟨g,off+l,none⟩) n m)) w:=by
 subst p q
 obtain⟨B,c,C⟩:=vK.1 v
 have f:¬ cap=l:=qO
 simp[execOp,r,Instr.sliceAt,Instr.slice,Instr.sliceBounds,Instr.sliceBound,asIntOf,underlying,u,y,z,A,d,b,sizeOf,typeInfo,c,C,Result.andThen,f,jW]
theorem ZoM {g len cap l h n m:Nat}{lo hi:Operand}(c:l≤h)(b:h≤cap)(d:l<cap)(f:h-l=n)(j:cap-l=m)(p:o.op=Op.slice t x (some lo) (some hi) none:=by kernel_rfl)(q:P.underlying t=some (.slice e):=by kernel_rfl)(r:(P.info? e).map (fun i=>i.size)=some 1:=by kernel_rfl)(u:ρ x=.slice (some ⟨g,0,none⟩) len cap:=by kernel_rfl)(v:ρ lo=.int .i64 (l:Int):=by kernel_rfl)(y:ρ hi=.int .i64 (h:Int):=by kernel_rfl):(execOp ρ o).run P w=.ok (.value (.slice (some ⟨g,l,none⟩) n m)) w:=by
 have:=Zqw (w:=w) c b d f j p q r u v y
 rwa [tA] at this
theorem zH.ne {A:qA}(b:zH k w A xs){j:Nat}(c:j<xs.length):A≠none:=by
 obtain⟨g,d,rfl,_⟩:=b.at c
 intro h;cases h
end
def Zal (ops:Array Oper) (i k:Nat):List Nat:=((ops.toList.drop i).take k).filterMap (fun o=>o.dst)
def Zam (l:List Nat) (sl:SlL):SlL:=sl.filter (fun q => !(l.any (Nat.beq q.1)))
def Zij (nb:BlL) (bl:BlL):BlL:=bl.filter (fun q => !(nb.any (fun p=>Nat.beq p.1 q.1)))
section
variable {N:Nat} {S0:Nat→Prop} {w0:World} {sl:SlL} {bl:BlL} {Φ Φ0:World→Prop} {P:Program} {ops:Array Oper} {Q:Exit→Act→World→Prop}
theorem xq {i:Nat}(k:Nat)(b:SlL)(a:BlL)(K:SXi P N S0 w0 ops Q (i+k) (ofL (b ++ Zam (Zal ops i k) sl) (a ++ Zij a bl)) Φ)(h:ZfL P N ops i k (ofL sl bl) (b ++ Zam (Zal ops i k) sl) (a ++ Zij a bl)=some ((b ++ Zam (Zal ops i k) sl).map (fun q=>some q.2),(a ++ Zij a bl).map (fun q=>some q.2)):=by kernel_rfl)(c:wfB (b ++ Zam (Zal ops i k) sl) (a ++ Zij a bl)=true:=by kernel_rfl):SXi P N S0 w0 ops Q i (ofL sl bl) Φ:=Zm0 k _ _ h c K
theorem xqf {n i:Nat}(k:Nat)(b:SlL)(a:BlL)(K:StI P N S0 w0 ops Φ0 Q n (i+k) (ofL (b ++ Zam (Zal ops i k) sl) a) Φ)(h:Zb9 P N ops k i (ofL sl bl) (b ++ Zam (Zal ops i k) sl)=some ((b ++ Zam (Zal ops i k) sl).map (fun q=>some q.2),dB a):=by kernel_rfl)(c:Nat.ble (i+k) n=true:=by kernel_rfl):StI P N S0 w0 ops Φ0 Q n i (ofL sl bl) Φ:=ZiR k _ _ h c K
theorem xqg {n i:Nat}(k:Nat)(a:SlL)(K:StI P N S0 w0 ops Φ0 Q n (i+k) (ofL (a ++ Zam (Zal ops i k) sl) bl) Φ)(h:Zb9 P N ops k i (ofL sl bl) (a ++ Zam (Zal ops i k) sl)=some ((a ++ Zam (Zal ops i k) sl).map (fun q=>some q.2),dB bl):=by kernel_rfl)(b:Nat.ble (i+k) n=true:=by kernel_rfl):StI P N S0 w0 ops Φ0 Q n i (ofL sl bl) Φ:=ZiR k _ _ h b K
theorem xqc {i:Nat}(f:FuncId)(args:List Value)(d:Nat){α:Type}(a:α→Value)(φ:α→World→Prop)(c:∀ w,Fr S0 w0 w→Φ w→Calls P f args.toArray w (lG a φ w))(K:∀ x,SXi P N S0 w0 ops Q (i+1) (ofL ((d,.v (a x)) :: sl) bl) (fun w=>Φ w∧φ x w))(b:Nat.blt i ops.size=true:=by kernel_rfl)(h:gH P N ops (opAt ops i) (ofL sl bl)=some (f,args,d):=by kernel_rfl):SXi P N S0 w0 ops Q i (ofL sl bl) Φ:=ZkF f args d a φ b h c K
theorem xqd {n i:Nat}(f:FuncId)(args:List Value)(d:Nat){α:Type}[e:Nonempty α](a:α→Value)(φ:α→World→Prop)(b:∀ w,Fr S0 w0 w→Φ w→Calls P f args.toArray w (lG a φ w))(K:∀ x,StI P N S0 w0 ops Φ0 Q n (i+1) (ofL ((d,.v (a x)) :: sl) bl) (fun w=>Φ w∧φ x w))(hi:Nat.blt i n=true:=by kernel_rfl)(c:cls (opAt ops i).op=2:=by kernel_rfl)(h:gH P N ops (opAt ops i) (ofL sl bl)=some (f,args,d):=by kernel_rfl):StI P N S0 w0 ops Φ0 Q n i (ofL sl bl) Φ:=ZkH f args d a φ hi c h b K
theorem xqk {i:Nat}(d:Nat)(y:Value)(a:∀ w,Fr S0 w0 w→Φ w→(execOp (ofL sl bl).rho (opAt ops i)).run P w=.ok (.value y) w)(K:SXi P N S0 w0 ops Q (i+1) (ofL ((d,.v y) :: sl) bl) Φ)(hi:Nat.blt i ops.size=true:=by kernel_rfl)(b:kU (opAt ops i).op=true:=by kernel_rfl)(c:(ofL sl bl).wantB ops (opAt ops i)=some true:=by kernel_rfl)(e:(opAt ops i).op.operands.toList.all (ofL sl bl).vB=true:=by kernel_rfl)(f:(opAt ops i).dst=some d:=by kernel_rfl)(g:Nat.blt d N=true:=by kernel_rfl):SXi P N S0 w0 ops Q i (ofL sl bl) Φ :=
 Zec d y hi b c e f g a K
theorem xqj {n i:Nat}(d:Nat)(y:Value)(a:∀ w,Φ0 w→(execOp (ofL sl bl).rho (opAt ops i)).run P w=.ok (.value y) w)(K:StI P N S0 w0 ops Φ0 Q n (i+1) (ofL ((d,.v y) :: sl) bl) Φ)(hi:Nat.blt i n=true:=by kernel_rfl)(b:Zdz (opAt ops i).op=true:=by kernel_rfl)(c:(ofL sl bl).wantB ops (opAt ops i)=some true:=by kernel_rfl)(e:(opAt ops i).op.operands.toList.all (ofL sl bl).vB=true:=by kernel_rfl)(f:(opAt ops i).dst=some d:=by kernel_rfl)(g:Nat.blt d N=true:=by kernel_rfl):StI P N S0 w0 ops Φ0 Q n i (ofL sl bl) Φ :=
 ZkI d y hi b c e f g a K
end
theorem xY {w w':World}{e:Ending}{n:Nat}(h:lH w n e w'):lG wE (fun x w=>zL w (wE x) n) w e w':=by
 obtain⟨v,rfl,a,Q⟩:=h
 obtain⟨A,l,c,rfl⟩:=a.slice
 exact⟨(A,l,c),rfl,Q,boxn Q (fun S b d f=>a.nrb d f)⟩
instance {b:Nat} {A A2:Option Addr}:Nonempty {q:ShN // ∀ a,q.1=some a→b<a.block∨q.1=A∨q.1=A2}:=⟨⟨(none,0,0),fun a h=>by cases h⟩⟩
section
open Go.RowKit Go.Sort
theorem TBuf.bytes {w:World}{A:qA}{cap:Nat}{l:List UInt8}(h:TBuf w A cap l)(c:l≠[]):∃ b,A=some ⟨b,0,none⟩∧∀ j (a:j<l.length),w.cell? ((⟨b,0,none⟩:Addr).add j)=some (.int .u8 (l[j].toNat:Int)):=by
 rcases h with ⟨_,h,_⟩|⟨b,rfl,d,_⟩
 ·simp[nats] at h;exact absurd h c
 refine⟨b,rfl,fun j a=>?_⟩
 have:=d.cell (i:=j) (by rw[ZbQ];exact a)
 rw[Lib.add_plain,tA,this]
 simp[nats,a]
end
def jE (w:World) (A:Option Addr) (zs:List Int):Prop :=
 zs≠[]→∃ b off,A=some ⟨b,off,none⟩∧b<w.heap.size∧∀ i,i<zs.length→w.cell? ⟨b,off+i,none⟩=some (.int .i64 (zs.getD i 0))
theorem jE.ext {w w':World}{A:qA}{zs:List Int}(h:jE w A zs)(d:Ext w w'):jE w' A zs:=fun c=>by
 obtain⟨b,a,rfl,e,g⟩:=h c
 exact⟨b,a,rfl,uS e d.size,fun i hi=>(d.cell (p:=⟨b,a+i,none⟩) e (fun f=>f)).trans (g i hi)⟩
def ZrP (zs:List Int):Prop:=∀ z∈zs,-9223372036854775808≤z∧z≤9223372036854775807
def Zik (s:St) (o:Oper):Option (FuncId × Nat × List Value) :=
 match o.op with
 | .call c=>match c.callee with
   | .value fo=>match s.eval fo,c.args.toList with
     | some (.v (.func (.func f) first captured)),x :: l=>match s.eval x with
       | some (.p b 0)=>bif first.isEmpty && (captured.isEmpty && l.all s.vB) then some (f,b,l.map s.rho) else none
       | _=>none
     | _,_=>none
   | _=>none
 | _=>none
def Zfb (P:Program) (N:Nat) (ops:Array Oper) (o:Oper) (s:St):Option (FuncId×Nat × List Value×Nat) :=
 match s.wantB ops o,Zik s o,o.dst with
 | some true,some q,some d=>bif dK P q.1 && Nat.blt d N then some (q.1,q.2.1,q.2.2,d) else none
 | _,_,_=>none
section
variable {N:Nat} {S0:Nat→Prop} {w0:World} {s:St} {Φ Ψ:World→Prop} {L:Nat→Nat} {a:Act} {w:World} {P:Program} {ops:Array Oper} {Q:Exit→Act→World→Prop}
theorem Zna (hi:Inv N S0 w0 s Φ L a w){o:Oper}{f b:Nat}{vs:List Value}(h:Zik s o=some (f,b,vs))(hk:dK P f=true):(execOp a.eval o).run P w=.ok (.enter f (.pointer (some ⟨L b,0,none⟩) :: vs).toArray) w∧(s.bl b).isSome=true:=by
 unfold Zik at h
 split at h
 ·rename_i c ho
  split at h
  ·rename_i fo hc
   split at h
   ·rename_i f' first captured x l hf hl
    split at h
    ·rename_i b' hx
     cases hq:(first.isEmpty && (captured.isEmpty && l.all s.vB)) with
     | false=>rw[hq] at h;cases h
     | true =>
      rw[hq] at h
      simp only[cond_true,qR,Prod.mk.injEq] at h
      simp only[tD] at hq
      obtain⟨h1,h2,h3⟩:=h
      subst h1;subst h2;subst h3
      have e0:first=#[]:=Array.isEmpty_iff.1 hq.1
      have e0':captured=#[]:=Array.isEmpty_iff.1 hq.2.1
      subst e0;subst e0'
      have e1:a.eval fo=.func (.func f') #[] #[]:=hi.eval hf
      have e3:a.eval x=.pointer (some ⟨L b',0,none⟩):=hi.eval hx
      have e4:l.map a.eval=l.map s.rho:=sF (fun y hy=>hi.rho hq.2.2 hy)
      have e2:(#[] ++ c.args.map a.eval ++ #[]:Array Value)=(.pointer (some ⟨L b',0,none⟩) :: l.map s.rho).toArray:=by
       apply Array.toList_inj.1
       simp only[oL,Array.toList_map,hl,List.map_cons,e3,e4,qW,rJ]
      refine⟨?_,hi.mem.evp hx⟩
      unfold dK at hk
      split at hk
      ·rename_i fn hfn
       rw[tD] at hk
       have n1 : (fn.name == "runtime.NumGoroutine") = false := by simpa using hk.1
       have n2:fn.body.isNone=false:=by simpa using hk.2
       simp only[execOp,ho,resolve,hc,e1,Deferred.ofValue,Sem.run_bind,Sem.run_pure,Result.andThen_ok,invoke,callFunc,run_program,hfn,n1,n2,qI,nM,e2]
      cases hk
    cases h
   cases h
  cases h
 cases h
theorem Zh5 {o:Oper}{f b d:Nat}{c:List Value}(h:Zfb P N ops o s=some (f,b,c,d)):s.wantB ops o=some true∧Zik s o=some (f,b,c)∧o.dst=some d∧dK P f=true∧d<N:=by
 unfold Zfb at h
 split at h
 ·rename_i q d' e g i
  cases hb:(dK P q.1 && Nat.blt d' N) with
  | false=>rw[hb] at h;cases h
  | true =>
   rw[hb] at h
   simp only[cond_true,qR,Prod.mk.injEq] at h
   simp only[tD] at hb
   obtain⟨j,k,l,m⟩:=h
   subst j;subst k;subst l;subst m
   exact⟨e,g,i,hb.1,vS hb.2⟩
 cases h
theorem Inv.blkset (hi:Inv N S0 w0 s Φ L a w){w':World}{b:Nat}{t:TypeId}{cs cs':List AV}(A:s.bl b=some (t,cs))(q:Fr (fun i=>i=L b) w w')(B:Blk t w' (L b) (cs'.map (AV.conc L)).toArray)(C:∀ c,c∈cs'→jU c=true∧c.al s) :
 Inv N S0 w0 { s with bl:=upd s.bl b (t,cs') } Φ L a w':=by
 have l:(s.bl b).isSome=true:=by rw[A];rfl
 have r:∀ c,c≠b→(s.bl c).isSome=true→L c≠L b:=fun c u v e=>u (hi.mem.inj c b v l e)
 have g:∀ c,((upd s.bl b (t,cs')) c).isSome=true→(s.bl c).isSome=true:=fun c j=>by
  by_cases e:c=b
  ·rw[e];exact l
  rw[wT _ _ e] at j;exact j
 have h:∀ c,(s.bl c).isSome=true→((upd s.bl b (t,cs')) c).isSome=true:=fun c j=>by
  by_cases e:c=b
  ·rw[e,lP];rfl
  rw[wT _ _ e];exact j
 refine⟨hi.size,hi.df,hi.sl,⟨fun c x m f=>?_,fun c d f y e=>hi.mem.inj c d (g c f) (g d y) e,fun c f=>hi.mem.old c (g c f),hi.mem.ext.next q (fun i D e=>?_),fun i c k j=>h c (hi.mem.slp i c k j),fun c x m f p n=>?_⟩,fun E z=>?_⟩
 ·by_cases e:c=b
  ·subst e
   simp only[lP,qR] at f
   injection f with e1 e2
   subst e1;subst e2
   exact B
  simp only[wT _ _ e] at f
  exact (hi.mem.blk c x m f).fr q (r c e (by rw[f];rfl))
 ·rcases hi.mem.old b l with j|j
  ·omega
  rw[e];exact j
 ·have o:jU p=true∧p.al s:=by
   by_cases e:c=b
   ·subst e
    simp only[lP,qR] at f
    injection f with e1 e2
    subst e2
    exact C p n
   simp only[wT _ _ e] at f
   exact hi.mem.cel c x m f p n
  exact⟨o.1,fun d k e=>h d (o.2 d k e)⟩
 refine hi.box E ((q.mono (fun i _ e=>⟨b,l,e.symm⟩)).trans (z.mono (fun i _ j=>?_)))
 obtain⟨c,f,e⟩:=j
 exact⟨c,g c f,e⟩
theorem ZoO {i d b:Nat}{t:TypeId}{cs:List AV}{α:Type}(f:FuncId)(D:List Value)(r:α→Value)(cs':α→List Value)(φ:α→World→Prop)(h:Zfb P N ops (opAt ops i) s=some (f,b,D,d))(E:s.bl b=some (t,cs))(k:cs.all (fun c=>match c with | .v _=>true | _=>false)=true)(G:∀ w g,Fr S0 w0 w→Φ w→Blk t w g (cs.map (AV.conc (fun _=>0))).toArray→Calls P f (.pointer (some ⟨g,0,none⟩) :: D).toArray w (fun en w'=>∃ x,en=.returned (r x)∧Fr (fun i=>i=g) w w'∧Blk t w' g (cs' x).toArray∧(∀ c,c∈cs' x→jU (.v c)=true)∧BoxN w w' (φ x)))(K:∀ x,SXi P N S0 w0 ops Q (i+1) ⟨upd s.sl d (.v (r x)),upd s.bl b (t,(cs' x).map .v)⟩ (fun w=>Φ w∧φ x w))(u:Nat.blt i ops.size=true:=by kernel_rfl):SXi P N S0 w0 ops Q i s Φ:=by
 obtain⟨H,I,J,M,O⟩:=Zh5 h
 unfold SXi
 rw[jP u]
 intro L a w hi
 refine wpList_step fun Z R=>?_
 rw[uZ (hi.want H)]
 unfold Oper.wp
 obtain⟨l,y⟩:=Zna hi I M
 rw[l,Oper.upon_enter]
 have S:cs.map (AV.conc L)=cs.map (AV.conc (fun _=>0)):=sF (fun c m=>by
  have:=vI.1 k c m
  cases c with
  | v x=>rfl
  | p b o=>cases this)
 have F:=hi.mem.blk b t cs E
 rw[S] at F
 refine Calls.mono (G w (L b) hi.mem.ext hi.box.self F) fun en w' q=>?_
 obtain⟨x,rfl,T,z,A,B⟩:=q
 simp only[J]
 have U:=hi.app0 (d:=d) O (al_v (s:=s) (r x))
 have n:=U.blkset (b:=b) (t:=t) (cs:=cs) (cs':=(cs' x).map .v) E T (by rw[rM];simpa [Function.comp_def,AV.conc] using z) (fun c m=>by
  obtain⟨v,V,rfl⟩:=oX.1 m
  exact⟨A v V,al_v _⟩)
 have W:=B (s.own L) (fun i h=>hi.own_nrb h)
 have j:∀ c,((upd s.bl b (t,(cs' x).map .v)) c).isSome=true→(s.bl c).isSome=true:=fun c q=>by
  by_cases e:c=b
  ·rw[e];exact y
  rw[wT _ _ e] at q;exact q
 refine R _ _ (K x L _ _ ⟨n.size,n.df,n.sl,n.mem,n.box.and (fun X Y=>W X (Y.mono (fun i _ C=>?_)))⟩)
 obtain⟨c,m,e⟩:=C
 exact⟨c,j c m,e⟩
theorem Zbd {i d b:Nat}{t:TypeId}{cs:Array Value}{α:Type}(f:FuncId)(args:List Value)(k:α→Value)(cs':α→Array Value)(φ:α→World→Prop)(Ψ:World→Prop)(o:∀ w,Φ w→Blk t w b cs)(p:0<cs.size)(e:w0.heap.size≤b∨S0 b)(q:∀ w,Fr S0 w0 w→Φ w→Calls P f args.toArray w (fun en w'=>∃ x,en=.returned (k x)∧Fr (fun i=>i=b) w w'∧Blk t w' b (cs' x)∧BoxN w w' (φ x)))(r:∀ w w',Φ w→Fr (fun i=>i=b) w w'→Ψ w')(K:∀ x,SXi P N S0 w0 ops Q (i+1) (s.put d (.v (k x))) (fun w=>(Ψ w∧Blk t w b (cs' x))∧φ x w))(l:Nat.blt i ops.size=true:=by kernel_rfl)(h:gH P N ops (opAt ops i) s=some (f,args,d):=by kernel_rfl):SXi P N S0 w0 ops Q i s Φ:=by
 obtain⟨u,y,z,A,B,C,D⟩:=gO h
 unfold SXi
 rw[jP l]
 intro L a w hi
 refine wpList_step fun S E=>?_
 rw[uZ (hi.want u)]
 unfold Oper.wp
 rw[hi.exec A B,bT y C,Oper.upon_enter]
 refine Calls.mono (q w hi.mem.ext hi.box.self) fun en w' F=>?_
 obtain⟨x,rfl,G,m,n⟩:=F
 simp only[z]
 have H:=hi.app0 (d:=d) D (al_v (s:=s) (k x))
 have g:=H.eff (Ψ:=fun w=>Ψ w∧Blk t w b (cs' x)) G (hi.notOwn (c:=cs[0]'p) (j:=0) (fun w R=>by have:=(o w R).cell 0;rw[this];simp[p])) e (o w hi.box.self).lt (fun I J k1 M O=>⟨r I J k1 M,O.trans m⟩)
 exact E _ _ (K x L _ _ ⟨g.size,g.df,g.sl,g.mem,g.box.and (n _ (fun i h=>hi.own_nrb h))⟩)
end
def frz (b g:Nat):AV→AV
 | .v x=>.v x
 | .p b' off=>bif Nat.beq b' b then .v (.pointer (some ⟨g,off,none⟩)) else .p b' off
theorem ZoP (L:Nat→Nat)(b:Nat)(x:AV):(frz b (L b) x).conc L=x.conc L:=by
 cases x with
 | v x=>rfl
 | p b' off =>
  show (bif Nat.beq b' b then AV.v (.pointer (some ⟨L b,off,none⟩)) else .p b' off).conc L=_
  cases h:Nat.beq b' b with
  | true =>
   have e:=nD h
   subst e
   rfl
  | false=>rfl
section
variable {N:Nat} {S0:Nat→Prop} {w0:World} {s:St} {Φ Ψ:World→Prop} {L:Nat→Nat} {a:Act} {w:World} {P:Program} {ops:Array Oper} {Q:Exit→Act→World→Prop}
theorem Zqx {i:Nat}{t bt:TypeId}{x y:Operand}{cs:List Value}(b off:Nat)(v:Value)(Ψ:World→Prop)(p:∀ w,Φ w→Blk bt w b cs.toArray)(l:off<cs.length)(d:w0.heap.size≤b∨S0 b)(r:v.oneCell'=true)(k:v.cells.toList=[v])(u:∀ w w',Φ w→Fr (fun i=>i=b) w w'→Ψ w')(K:SXi P N S0 w0 ops Q (i+1) s (fun w=>Ψ w∧Blk bt w b (cs.set off v).toArray))(m:Nat.blt i ops.size=true:=by kernel_rfl)(z:s.wantB ops (opAt ops i)=some true:=by kernel_rfl)(A:(opAt ops i).op=.store t x y:=by kernel_rfl)(B:(opAt ops i).dst=none:=by kernel_rfl)(C:(teOf P t).map (fun e=>e.size)=some 1:=by kernel_rfl)(D:s.eval x=some (.v (.pointer (some ⟨b,off,none⟩))):=by kernel_rfl)(E:s.eval y=some (.v v):=by kernel_rfl):SXi P N S0 w0 ops Q i s Φ:=by
 unfold SXi
 rw[jP m]
 intro L a w hi
 refine wpList_step fun V F=>?_
 rw[uZ (hi.want z)]
 obtain⟨W,n,G⟩:=vK.1 C
 have q:=p w hi.box.self
 obtain⟨w',H,f,I⟩:=Zah (P:=P) n (g:=b) (bt:=bt) (off:=off) (cur:=cs) (v:=v) q (by rw[k];exact G.symm) (by rw[k];simp;omega) (fun c o=>by rw[k] at o;simp at o;rw[o];exact r)
 rw[k,Zf2 _ _ _ l] at f
 unfold Oper.wp
 have J:=hi.eval D
 have M:=hi.eval E
 have h:(execOp a.eval (opAt ops i)).run P w=.ok .skip w':=by simp only[execOp,A,Sem.run_bind,J,M,AV.conc,H,Result.andThen_ok,Sem.run_pure]
 rw[h,Oper.upon_skip,B]
 refine F _ _ (K L _ _ (hi.eff I (hi.notOwn (c:=cs[off]'l) (j:=off) (fun w R=>by have:=(p w R).cell off;rw[this];simp[l])) d q.lt (fun O S k1 T U=>⟨u O S k1 T,U.trans f⟩)))
end
section
variable {N:Nat} {S0:Nat→Prop} {w0:World} {s:St} {Φ Ψ:World→Prop} {L:Nat→Nat} {a:Act} {w:World} {P:Program} {ops:Array Oper} {Q:Exit→Act→World→Prop}
theorem Znb {c:Code}{sl:SlL}{tmps:Array Value}(m:tmps.size=N)(k:sl.map (fun q=>tmps[q.1]?.map AV.v)=sl.map (fun q=>some q.2))(R:Box (fun _=>False) w Φ)(h:SXc P N S0 w Q c (ofL sl []) Φ):c.wp P Q { tmps:=tmps,defers:=[] } w:=by
 refine h (fun _=>0) _ w ⟨m,rfl,fun i x n=>?_,⟨fun b t o e=>(by cases e),fun b c e=>(by cases e),fun b e=>(by cases e),Fr.refl _ _,fun i b off e=>?_,fun b t o e=>(by cases e)⟩,?_⟩
 ·have d:=eF (f:=fun q:Nat × AV=>tmps[q.1]?.map AV.v) (g:=fun q=>some q.2) k (jD n)
  obtain⟨v,l,rfl⟩:=vK.1 d
  exact l
 ·have d:=eF (f:=fun q:Nat × AV=>tmps[q.1]?.map AV.v) (g:=fun q=>some q.2) k (jD e)
  obtain⟨v,l,e'⟩:=vK.1 d
  cases e'
 intro w' j
 exact R w' (j.mono (fun i _ p=>by obtain⟨b,e,_⟩:=p;cases e))
end
section
variable {N:Nat} {S0:Nat→Prop} {w0:World} {s:St} {Φ Ψ:World→Prop} {L:Nat→Nat} {a:Act} {w:World} {P:Program} {ops:Array Oper} {Q:Exit→Act→World→Prop}
theorem SXc.freezeN {c:Code}(b:Nat)(t:TypeId)(cs:List Value)(k:Nat→SlL)(j:BlL)(r:s.bl b=some (t,cs.map .v))(E:∀ g,(k g).map (fun q=>(s.sl q.1).map (frz b g))=(k g).map (fun q=>some q.2))(F:j.map (fun q=>s.bl q.1)=j.map (fun q=>some q.2))(G:j.all (fun q => !(Nat.beq q.1 b))=true)(H:∀ g,wfB (k g) j=true)(h:∀ g,(w0.heap.size≤g∨S0 g)→SXc P N S0 w0 Q c (ofL (k g) j) (fun w=>Φ w∧Blk t w g cs.toArray)):SXc P N S0 w0 Q c s Φ:=by
 intro L a w hi
 refine h (L b) (hi.mem.old b (by rw[r];rfl)) L a w ?_
 have m:=H (L b)
 unfold wfB at m
 rw[tD] at m
 have u:∀ i x,(ofL (k (L b)) j).bl i=some x→s.bl i=some x:=fun i x o=>eF (f:=fun q:Nat × TypeId×List AV=>s.bl q.1) (g:=fun q=>some q.2) F (jD o)
 have A:∀ i x,(ofL (k (L b)) j).bl i=some x→i≠b:=fun i x o e=>by
  have:=vI.1 G _ (jD o)
  simp[e] at this
 have l:∀ i,((ofL (k (L b)) j).bl i).isSome=true→(s.bl i).isSome=true∧i≠b:=fun i z=>by
  obtain⟨q,e⟩:=sX.1 z
  exact⟨by rw[u i q e];rfl,A i q e⟩
 have n:(s.bl b).isSome=true:=by rw[r];rfl
 have I:=hi.mem.blk b t _ r
 refine⟨hi.size,hi.df,fun i x o=>?_,⟨fun c t cs e=>hi.mem.blk c t cs (u c _ e),fun c d p J=>hi.mem.inj c d (l c p).1 (l d J).1,fun c p=>hi.mem.old c (l c p).1,hi.mem.ext,fun i c B e=>?_,fun c t cs e x o=>⟨(hi.mem.cel c t cs (u c _ e) x o).1,fun d B K=>?_⟩⟩,fun w' C=>⟨hi.box w' (C.mono (fun i _ z=>?_)),?_⟩⟩
 ·have D:=eF (f:=fun q:Nat × AV=>(s.sl q.1).map (frz b (L b))) (g:=fun q=>some q.2) (E (L b)) (jD o)
  simp only at D
  obtain⟨y,M,e⟩:=vK.1 D
  have:=hi.sl i y M
  rw[this,← e,ZoP]
 ·exact vI.1 m.1 _ (jD e)
 ·have:=vI.1 (vI.1 m.2 _ (jD e)) x o
  rw[K] at this
  exact this
 ·obtain⟨c,p,e⟩:=z
  exact⟨c,(l c p).1,e⟩
 have:Blk t w (L b) cs.toArray:=by simpa [rM,Function.comp_def,AV.conc] using I
 refine this.fr C fun⟨c,p,e⟩=>?_
 exact (l c p).2 (hi.mem.inj c b (l c p).1 n e)
end
section
variable {P:Program} {ops:Array Oper} {Q:Exit→Act→World→Prop} {a:Act} {w:World} {l:List Oper} {o:Oper}
def mvB (o:Oper):Bool:=match o.op with
 | .move _ | .assign _ | .extract _ _=>o.dst.isSome
 | _=>false
theorem Znc (hm:mvB o=true)(h:wpList P ops Q (o :: l) a w):∃ v,Yields P ops o v a∧wpList P ops Q l (a.put o.dst v) w:=by
 unfold wpList at h
 by_cases b:Region.wanted o (yielded ops a.tmps)=true
 ·rw[uZ b] at h
  unfold mvB at hm
  cases ho:o.op<;>rw[ho] at hm<;>first | (cases hm;done)|skip
  ·rename_i x
   refine⟨a.eval x,Or.inl ⟨b,fun w=>by simp[execOp,ho]⟩,?_⟩
   rcases h with h|⟨⟨h,_⟩,_⟩
   ·simpa [Oper.wp,Oper.upon,execOp,ho] using h
   simp only[execOp,ho] at h
   exact absurd (show noRoomEvent∈(#[]:Array Event) from h) qS
  ·rename_i x
   refine⟨a.eval x,Or.inl ⟨b,fun w=>by simp[execOp,ho]⟩,?_⟩
   rcases h with h|⟨⟨h,_⟩,_⟩
   ·simpa [Oper.wp,Oper.upon,execOp,ho] using h
   simp only[execOp,ho] at h
   exact absurd (show noRoomEvent∈(#[]:Array Event) from h) qS
  rename_i x f
  have d:(∃ v,Instr.extract (a.eval x) f=pure v)∨∃ m,Instr.extract (a.eval x) f=stuck m:=by
   unfold Instr.extract
   split
   ·split
    ·exact Or.inl ⟨_,rfl⟩
    exact Or.inr ⟨_,rfl⟩
   exact Or.inr ⟨_,rfl⟩
  rcases d with ⟨v,c⟩|⟨m,c⟩
  ·refine⟨v,Or.inl ⟨b,fun w=>by simp[execOp,ho,c]⟩,?_⟩
   rcases h with h|⟨⟨h,_⟩,_⟩
   ·simpa [Oper.wp,Oper.upon,execOp,ho,c] using h
   simp only[execOp,ho,c] at h
   exact absurd (show noRoomEvent∈(#[]:Array Event) from h) qS
  rcases h with h|⟨⟨h,_⟩,_⟩
  ·simp only[Oper.wp,execOp,ho,c] at h
   exact absurd (show False from h) (fun e=>e)
  simp only[execOp,ho,c] at h
  exact absurd (show noRoomEvent∈(#[]:Array Event) from h) qS
 rw[uQ b] at h
 exact⟨undef,Or.inr ⟨by simpa using b,rfl⟩,h⟩
def seqA (ops:Array Oper):Nat→Nat→Array Bool→Bool
 | 0,_,listed=>(Region.ready .any ops listed).isEmpty
 | g+1,k,listed=>(decide (Region.ready .any ops listed=[k]) || (mvB (opAt ops k) && (Region.free .any ops listed k && (Region.ready .any ops listed).contains k))) && seqA ops g (k+1) (listed.setIfInBounds k true)
theorem ZaC (g:Region.noSelect ops=true)(m:∀ (c:_) (a:Act) (w:World) (d:Nat) (v:Value),Q (.panic c) (a.put (some d) v) w→Q (.panic c) a w):∀ (l:List Oper) (k:Nat) (b:Array Bool) (a:Act) (w:World),(∀ j,l[j]? = ops[k+j]?) →
 seqA ops l.length k b=true→wpList P ops Q l a w→wpAny P .any ops Q l.length b a w
 | [],_,_,_,_,_,hB,h=>⟨by simpa [seqA] using hB,h⟩
 | o :: l,k,b,a,w,hl,hB,h=>by
  have f:ops[k]? = some o:=by simpa using (hl 0).symm
  have e:∀ j,l[j]? = ops[k+1+j]? := fun j=>by have:=hl (j+1);simpa [sD,vO 1 j] using this
  simp only[sB,seqA,tD,qY,vZ] at hB
  obtain⟨h1|⟨h1,h2,r⟩,hB⟩:=hB
  ·refine⟨fun h2=>(by rw[h1] at h2;cases h2),fun i hi=>?_⟩
   rw[h1] at hi
   have n:i=k:=by simpa using hi
   subst n
   have p:wpOp P ops Q i (wpList P ops Q l) a w:=by unfold wpOp;simp only[f];exact h
   exact wpOp_mono (fun s w' t=>ZaC g m l (i+1) _ s w' e hB t) p
  have q:opAt ops k=o:=rT ((iT (rY.1 f).1).symm.trans f)
  rw[q] at h1
  obtain⟨v,u,p⟩:=Znc h1 h
  obtain⟨d,hd⟩:∃ d,o.dst=some d:=by
   unfold mvB at h1
   cases hd:o.dst with
   | some d=>exact⟨d,rfl⟩
   | none=>rw[hd] at h1;split at h1<;>cases h1
  exact wpAny_take f g h2 r (fun c a w h=>by rw[hd] at h;exact m c a w d v h) u (ZaC g m l (k+1) _ _ w e hB p)
end
section
variable {N:Nat} {S0:Nat→Prop} {w0:World} {s:St} {Φ Φ0:World→Prop} {L:Nat→Nat} {a:Act} {w:World} {P:Program} {ops:Array Oper} {Q:Exit→Act→World→Prop} {fin:St→(World→Prop)→Prop}
def Zil (R:Nat→Nat→Bool) (ops:Array Oper) (n i:Nat):Bool:=(List.range ops.size).all fun t=>decide (t<n) || R t i
theorem Zi0 (K:Nat)(ops:Array Oper):Zbt ops (aM .any ops K):=fun _ c j _ h b=>Za7 c K j h b
theorem Znd {R:Nat→Nat→Bool}{n i j:Nat}{b:Array Bool}(f:Zbt ops R)(g:Zil R ops n i=true)(h:eO .any ops b)(hi:b.getD i true=false)(k:j∈Region.ready .any ops b):j<n:=by
 obtain⟨_,l,d,e⟩:=mem_ready.1 k
 have c:=vI.1 g j (rB.2 (rY.1 d).1)
 simp only[qY,vZ] at c
 rcases c with c|c
 ·exact c
 have h2:=f b h j i c (fun o m=>by
  have:o=l:=rT (m.symm.trans d)
  subst this
  exact e)
 rw[getD_both hi] at h2
 cases h2
theorem Zf3 {s0:St}{n:Nat}{R:Nat→Nat→Bool}(hR:Zbt ops R)(hu:cH ops=true)(hn:n≤ops.size)(t:aN ops=true)(E:Region.noSelect ops=true)(hQ:∀ (c:_) (a:Act) (w:World) (d:Nat) (v:Value),Q (.panic c) (a.put (some d) v) w→Q (.panic c) a w)(u:ZaI R ops s0 n=true)(F:seqA ops (ops.size-n) n (iE ops n)=true)(V:∃ w,Φ0 w)(G:∀ s Φ,fin s Φ→∀ L a w,Inv N S0 w0 s Φ L a w→wpList P ops Q (ops.toList.drop n) a w) :
 ∀ (k:Nat) (listed:Array Bool) (s:St) (Φ:World→Prop) (L:Nat→Nat) (a:Act) (w:World),(un n listed).length=k→listed.size=ops.size→(∀ i,n≤i→i<ops.size→listed.getD i true=false)→(∀ i,i∈un n listed→Zil R ops n i=true)→eO .any ops listed →
 BI ops s0 s→(∀ w,Φ w→Φ0 w)→Inv N S0 w0 s Φ L a w→Strat P N S0 w0 ops Φ0 fin (un n listed) s Φ→wpAny P .any ops Q (k+(ops.size-n)) listed a w:=by
 intro k
 induction k with
 | zero =>
  intro listed s Φ L a w hk f z _ m A S hi hS
  have q:un n listed=[]:=tG.1 hk
  rw[q] at hS
  have r:listed=iE ops n:=by
   refine Array.ext (by simp[iE,f];omega) fun i b h2=>?_
   have B:i<ops.size:=by rw[←f];exact b
   have e:listed.getD i true=listed[i]:=by simp[b]
   rw[←e]
   by_cases C:i<n
   ·have:listed.getD i true≠false:=fun h=>by
     have:=jJ.2 ⟨C,h⟩
     rw[q] at this
     cases this
    simp only[iE,pU]
    rw[qP (by simpa using C),rZ]
    cases h:listed.getD i true with
    | true=>rfl
    | false=>exact absurd h this
   rw[z i qO B]
   simp only[iE,pU]
   rw[oH (by simpa using C),rZ]
  have H:(ops.toList.drop n).length=ops.size-n:=qS
  cases hS with
  | done hf =>
   have:=ZaC E hQ (ops.toList.drop n) n listed a w (fun j=>qS) (by rw[H,r];exact F) (G _ _ hf L a w hi)
   rw[H] at this
   rw[tA];exact this
 | succ k ih =>
  intro listed s Φ L a w hk f z g m A S hi hS
  rw[show k+1+(ops.size-n)=(k+(ops.size-n))+1 by omega]
  obtain⟨x,R',D⟩:∃ x R,un n listed=x :: R:=by
   cases h:un n listed with
   | nil=>rw[h] at hk;cases hk
   | cons x R=>exact⟨x,R,rfl⟩
  have W:=jJ.1 (by rw[D];exact tT:x∈un n listed)
  have I:∀ i,i<x→listed.getD i true=true:=fun i f0=>by
   cases h:listed.getD i true with
   | true=>rfl
   | false =>
    have:=jJ.2 ⟨(by omega:i<n),h⟩
    rw[D] at this
    have J:=fV n listed
    rw[D] at J
    rcases List.mem_cons.1 this with e|e
    ·omega
    have:=(List.pairwise_cons.1 J).1 i e;omega
  have hxr:x∈Region.ready .any ops listed:=by
   have p:x<ops.size:=qO
   refine mem_ready.2 ⟨W.2,opAt ops x,iT p,fun e he X=>?_⟩
   have b:=vI.1 t x (rB.2 p)
   rw[iT p] at b
   have K:=Array.all_eq_true'.1 b e he
   rw[X] at K
   have h2:=vS K
   have h3:=I e.on h2
   have h4:e.on<listed.size:=by rw[f];exact qL h2 p
   simp[h4] at h3 ⊢;exact h3
  refine⟨fun h=>(by rw[h] at hxr;cases hxr),fun j hj=>?_⟩
  have M:j<n:=Znd hR (g x (jJ.2 W)) m W.2 hj
  obtain⟨O,oj,Y,T⟩:=mem_ready.1 hj
  have Z:j∈un n listed:=jJ.2 ⟨M,O⟩
  obtain⟨l1,l2,r⟩:=List.append_of_mem Z
  have J:=fV n listed
  rw[r] at J
  have a0:∀ y,y∈l1→y<ops.size∧(opAt ops y).apart ops (opAt ops j)=true∧(iL (opAt ops y).op (opAt ops j).op=true∨(lsB (opAt ops y).op (opAt ops j).op=true∧farB ops s0 (opAt ops y) (opAt ops j)=true)):=fun y hy=>by
   have b0:y<j:=(List.pairwise_append.1 J).2.2 y hy j tT
   have c0:=(jJ.1 (by rw[r];exact List.mem_append_left _ hy:y∈un n listed)).2
   have b:=vI.1 (vI.1 u j (rB.2 M)) y (rB.2 b0)
   rw[qY] at b
   rcases b with b|b
   ·have h2:=hR listed m j y b (fun o ho=>by
     have:o=oj:=rT (ho.symm.trans Y)
     subst this
     exact T)
    rw[getD_both c0] at h2
    cases h2
   simp only[tD,qY] at b
   exact⟨qO,b⟩
  rw[r] at hS
  have d0:=Strat.front hu V l1 l2 s Φ hi.wf A a0 hS
  refine Strat.exec hu A qO hi S d0 fun s' Φ' L' a' w' U e0 B K'=>?_
  have l:=ZfP r
  refine ih (listed.setIfInBounds j true) s' Φ' L' a' w' ?_ (by simp[f]) (fun i b h2=>?_) (fun i b=>g i (by rw[l] at b;rw[r];rcases tI.1 b with h2|h2;exact List.mem_append_left _ h2;exact List.mem_append_right _ (List.mem_cons_of_mem _ h2))) (m.set hj) U e0 B (by rw[l];exact K')
  ·rw[l]
   rw[r] at hk
   simp only[uN,sB] at hk ⊢
   omega
  rw[getD_set_ne true qO];exact z i b h2
theorem ZoQ {id:Nat}(K n:Nat){sl:SlL}{f:BlL}(h:StI P N S0 w0 ops Φ Q n 0 (ofL sl f) Φ)(hI:Zbs ops sl=true:=by kernel_rfl)(k:P.follows .mixedOrders=true:=by exact zQ)(g:(Nat.ble n ops.size && (cH ops && aN ops && ((List.range n).all (fun i=>Zil (aM .any ops K) ops n i) && (ZaI (aM .any ops K) ops (ofL sl f) n && seqA ops (ops.size-n) n (iE ops n)))))=true:=by kernel_rfl)(l:Region.noSelect ops=true:=by kernel_rfl)(m:∀ (c:_) (a:Act) (w:World) (d:Nat) (v:Value),Q (.panic c) (a.put (some d) v) w→Q (.panic c) a w:=by exact fun _ _ _ _ _ h=>h):SXc P N S0 w0 Q (.region id ops true) (ofL sl f) Φ:=by
 simp only[tD] at g
 obtain⟨o,⟨p,q⟩,r,t,u⟩:=g
 have x:=vS o
 intro L a w hi
 refine wp_region_any k ?_
 have e:un n (Array.replicate ops.size false)=List.range n:=by
  unfold un
  refine List.filter_eq_self.2 fun i b=>?_
  have:=rB.1 b
  simp[show i<ops.size by omega]
 have:=Zf3 (Zi0 K ops) (Q:=Q) (fin:=fun s Φ=>SXi P N S0 w0 ops Q n s Φ) p x q l m t u ⟨w,hi.box.self⟩ (fun s Φ y L a w b=>y L a w b) (un n (Array.replicate ops.size false)).length (Array.replicate ops.size false) _ Φ L a w.drew rfl qS
  (fun i _ z=>by simp[z]) (fun i b=>by rw[e] at b;exact vI.1 r i b) (fun j A _ hl=>by rw[getD_replicate_false] at hl;cases hl) (BI.init hI) (fun _ h=>h) hi.drew (by rw[e,List.range_eq_range'];exact h)
 rw[e,rH,show n+(ops.size-n)=ops.size by omega] at this
 exact this
end
structure TermR where
 coef:ByteArray
 A:Option Addr
 cap:Nat
 exps:List Int
instance:Inhabited TermR:=⟨⟨⟨#[]⟩,none,0,[]⟩⟩
section
variable {P:Program} {o:Oper} {ρ:Operand→Value} {w:World} {t e:TypeId} {x ix:Operand}
theorem xM {A:qA}{len cap i sz:Nat}(hA:A≠none)(h:i<len)(c:o.op=Op.indexAddr t x ix:=by kernel_rfl)(d:P.underlying t=some (.slice e):=by kernel_rfl)(f:(P.info? e).map (fun i=>i.size)=some sz:=by kernel_rfl)(g:ρ x=.slice A len cap:=by kernel_rfl)(hi:ρ ix=.int .i64 (i:Int):=by kernel_rfl):(execOp ρ o).run P w=.ok (.value (atA A (i*sz))) w:=by
 obtain⟨j,b,k⟩:=vK.1 f
 obtain⟨a,rfl⟩:∃ a,A=some a:=by cases A;exact absurd rfl hA;exact⟨_,rfl⟩
 have l:(0:Int)≤(i:Int)∧(i:Int)<(len:Int):=qO
 simp[execOp,c,Instr.indexAt,asIntOf,underlying,d,g,hi,h,sizeOf,typeInfo,b,k,Result.andThen,atA]
theorem Zqy {bt:TypeId}{g:Nat}{cs:List Value}(b:Blk bt w g cs.toArray)(c:o.op=Op.load t x:=by kernel_rfl)(d:ρ x=.pointer (some ⟨g,0,none⟩):=by kernel_rfl)(ha:(teOf P t).map (fun e=>(e.agg,e.size))=some (true,cs.length):=by kernel_rfl) :
 (execOp ρ o).run P w=.ok (.value (.agg cs.toArray)) w:=by
 obtain⟨f,a,h⟩:=vK.1 ha
 injection h with ha hn
 have:=ZaG (P:=P) (w:=w) a (g:=g) (off:=0) (cs:=cs) hn.symm (fun i hi=>by rw[tA,b.cell];simp[hi]) ha
 simp only[execOp,c,d,Sem.run_bind,this,Result.andThen_ok,Sem.run_pure]
end
theorem fT {P:Program}{o:Oper}{ρ:Operand→Value}{w:World}{y:Value}{f:FuncId}{args:List Operand}{ts:Array TypeId}{a:List Value}(h:(callFunc f a.toArray).run P w=.ok (.value y) w)(b:o.op=.call { callee:=.value (.func f),args:=args.toArray,argTypes:=ts }:=by kernel_rfl)(c:args.map ρ=a:=by kernel_rfl)(d:ρ (.func f)=.func (.func f) #[] #[]:=by kernel_rfl):(execOp ρ o).run P w=.ok (.value y) w:=by
 subst c
 have e:(#[] ++ args.toArray.map ρ ++ #[]:Array Value)=(args.map ρ).toArray:=qS
 simp only[execOp,b,resolve,d,Deferred.ofValue,Sem.run_bind,Sem.run_pure,Result.andThen_ok,invoke,e,h]
theorem tdq (a c:Nat)(h:a<9223372036854775808):IntKind.i64.wrap (((a:Nat):Int).tdiv (c:Int))=((a/c:Nat):Int):=by
 rw[←Int.ofNat_tdiv,IntKind.wrap_i64]
 have:=vG a c
 generalize a/c=q at *
 omega
theorem tdr (a c:Nat):(((a:Nat):Int).tmod (c:Int))=((a%c:Nat):Int):=(Int.ofNat_tmod a c).symm
theorem lU {a b:Int}(h:((a:Int) == b)=false):a≠b:=by simpa using h
theorem Zhl {a b:Int}(h:((a:Int) != b)=true):a≠b:=by simpa using h
theorem Zhm {a b:Int}(h:((a:Int) != b)=false):a=b:=by simpa using h
section
variable {P:Program} {o:Oper} {ρ:Operand→Value} {w:World} {x y:Operand} {t k:TypeId}
theorem Zi1 {a n:Nat}(h:n≤64)(b:o.op=Op.binOp .shr t x y k:=by kernel_rfl)(c:ρ x=.int .u64 (a:Int):=by kernel_rfl){ky:IntKind}(d:ρ y=.int ky (n:Int):=by kernel_rfl):(execOp ρ o).run P w=.ok (.value (.int .u64 ((a/2^n:Nat):Int))) w:=by
 have e:¬ ((n:Int)<0):=qO
 have f:min ((n:Int)).toNat IntKind.u64.bits=n:=by show min ((n:Int)).toNat 64=n;omega
 have g:((a:Int)).fdiv (2^n)=((a/2^n:Nat):Int):=by
  rw[Int.fdiv_eq_ediv_of_nonneg _ (by rw[show ((2:Int)^n)=((2^n:Nat):Int) by rw[tM];rfl];exact pL _)]
  exact Za4 a n
 simp only[execOp,b,c,d,eqGuard,binOp,Op.shift,uQ e,f,g]
 rfl
theorem Zi2 {a n:Nat}(g:n≤64)(b:o.op=Op.binOp .shl t x y k:=by kernel_rfl)(c:ρ x=.int .u64 (a:Int):=by kernel_rfl){ky:IntKind}(d:ρ y=.int ky (n:Int):=by kernel_rfl):(execOp ρ o).run P w=.ok (.value (.int .u64 ((a*2^n%W64:Nat):Int))) w:=by
 have e:¬ ((n:Int)<0):=qO
 have f:min ((n:Int)).toNat IntKind.u64.bits=n:=by show min ((n:Int)).toNat 64=n;omega
 simp only[execOp,b,c,d,eqGuard,binOp,Op.shift,uQ e,f,aZ]
 rfl
theorem ZpQ {a b r:Nat}(ha:a<W64)(c:b<W64)(h:a ||| b=r)(d:o.op=Op.binOp .or t x y k:=by kernel_rfl)(e:ρ x=.int .u64 (a:Int):=by kernel_rfl)(f:ρ y=.int .u64 (b:Int):=by kernel_rfl):(execOp ρ o).run P w=.ok (.value (.int .u64 (r:Int))) w:=by
 have:=cX ha c
 rw[h] at this
 rw[←this]
 simp only[execOp,d,e,f,eqGuard,binOp]
 rfl
end
theorem lN {B:Nat}{xs:qN}(k:Nat):val B (xs.take (k+1))=val B (xs.take k)+B^k*(xs[k]?.getD 0):=by
 rcases vM k xs.length with h|h
 ·exact zU k h
 rw[uA qO,uA h,vL h];simp
def ZaL (xs ys:List Nat) (k:Nat) (zs:List Nat) (c:Nat):Prop :=
 zs.length=xs.length+1∧Dig W64 zs∧c≤1∧val W64 (zs.take k)+W64^k*c=val W64 (xs.take k)+val W64 (ys.take k)
theorem ZaL.start (xs ys:qN):ZaL xs ys 0 (List.replicate (xs.length+1) 0) 0:=⟨qS,Dig.replicate zP _,qO,qS⟩
theorem ZaL.step {xs ys zs:qN}{k c x y:Nat}(h:ZaL xs ys k zs c)(l:k<xs.length)(a:xs[k]?.getD 0=x)(b:ys[k]?.getD 0=y)(d:Dig W64 xs)(e:Dig W64 ys):ZaL xs ys (k+1) (zs.set k (xO x y c)) (xU x y c):=by
 obtain⟨f,g,i,j⟩:=h
 refine⟨by simpa using f,g.set k (dF _ _ _),Zcr (a ▸ d.getD zP k) (b ▸ e.getD zP k) i,?_⟩
 rw[xN _ _ _ _ qO,lN k,lN k,a,b,uP]
 exact ZaZ _ _ _ _ _ _ _ _ _ _ j (fG x y c)
theorem ZaL.done {xs ys zs:qN}{c:Nat}(h:ZaL xs ys xs.length zs c)(a:ys.length≤xs.length):(zs.set xs.length c).length=xs.length+1∧Dig W64 (zs.set xs.length c)∧val W64 (zs.set xs.length c)=val W64 xs+val W64 ys:=by
 obtain⟨b,d,g,f⟩:=h
 have e:(zs.set xs.length c).length=xs.length+1:=by simpa using b
 refine⟨e,d.set _ (by have:=fP;omega),?_⟩
 rw[←uA (l:=zs.set xs.length c) (i:=xs.length+1) qO,xN _ _ _ _ qO,f,uA (uF _),uA a]
def MinR (xs ys:List Nat) (k:Nat) (zs:List Nat) (c:Nat):Prop :=
 zs.length=xs.length∧Dig W64 zs∧c≤1∧val W64 (zs.take k)+val W64 (ys.take k)=val W64 (xs.take k)+W64^k*c
theorem MinR.start (xs ys:qN):MinR xs ys 0 (List.replicate xs.length 0) 0:=⟨qS,Dig.replicate zP _,qO,qS⟩
theorem MinR.step {xs ys zs:qN}{k c x y:Nat}(h:MinR xs ys k zs c)(m:k<xs.length)(a:xs[k]?.getD 0=x)(b:ys[k]?.getD 0=y)(d:Dig W64 xs)(e:Dig W64 ys):MinR xs ys (k+1) (zs.set k (kL x y c)) (kM x y c):=by
 obtain⟨f,g,i,j⟩:=h
 have l:=Za0 (a ▸ d.getD zP k) (b ▸ e.getD zP k) i
 refine⟨by simpa using f,g.set k (aW _ _ _),Zcs _ _ _,?_⟩
 rw[xN _ _ _ _ qO,lN k,lN k,a,b,uP]
 exact Ze0 _ _ _ _ _ _ _ _ _ _ j l
theorem MinR.done {xs ys zs:qN}{c:Nat}(h:MinR xs ys xs.length zs c)(d:ys.length≤xs.length)(e:val W64 ys≤val W64 xs):val W64 zs=val W64 xs-val W64 ys:=by
 obtain⟨f,g,i,a⟩:=h
 rw[uA qO,uA d,uA (uF _)] at a
 have b:=xZ g
 rw[f] at b
 rcases (by omega:c=0∨c=1) with rfl|rfl
 ·rw[tV] at a;omega
 rw[sU] at a;omega
noncomputable def tmD (z x y c:Nat):Nat:=xO (xO (xH x y) z 0) c 0
noncomputable def tmC (z x y c:Nat):Nat:=wQ x y+xU (xH x y) z 0+xU (xO (xH x y) z 0) c 0
theorem ZkO (z x y c:Nat):tmD z x y c+W64*tmC z x y c=z+x*y+c:=by
 have a:=dG x y
 have b:=fG (xH x y) z 0
 have d:=fG (xO (xH x y) z 0) c 0
 unfold tmD tmC
 rw[uK,uK]
 omega
theorem Zi3 {z x y c:Nat}(d:z<W64)(a:x<W64)(b:y<W64)(e:c<W64):tmC z x y c<W64:=by
 have f:=ZkO z x y c
 have g:=Zct a b
 exact aI _ qO
theorem Zf5 {a b:Nat}(h:a+b<W64):IntKind.u64.wrap ((a:Int)+(b:Int))=((a+b:Nat):Int):=by rw[←rS];exact wK _ h
theorem ZsB {z x y c:Nat}(a:z<W64)(b:x<W64)(d:y<W64)(e:c<W64):wQ x y+xU (xH x y) z 0<W64:=by have:=Zi3 a b d e;unfold tmC at this;omega
theorem ZdG (x y:Nat)(w:World)(a:x<W64)(b:y<W64):yA 117 #[.int .u64 (x:Int),.int .u64 (y:Int)] w (RetV w (.tuple #[.int .u64 ((wQ x y:Nat):Int),.int .u64 ((xH x y:Nat):Int)])):=by
 refine (Zav x y a b w).mono ?_
 rintro e w' ⟨rfl,rfl⟩
 exact⟨rfl,Fr.refl _ _⟩
def TimI (zs0 ys:List Nat) (x i k:Nat) (zs:List Nat) (c:Nat):Prop :=
 zs.length=zs0.length∧Dig W64 zs∧c<W64∧zs.drop (i+k)=zs0.drop (i+k)∧val W64 (zs.take (i+k))+W64^(i+k)*c=val W64 (zs0.take (i+k))+W64^i*(x*val W64 (ys.take k))
theorem TimI.start {a:qN}(ys:qN)(x i:Nat)(h:Dig W64 a):TimI a ys x i 0 a 0:=⟨rfl,h,zP,rfl,qS⟩
theorem TimI.at {a ys zs:qN}{x i k c:Nat}(h:TimI a ys x i k zs c):zs[i+k]?.getD 0=a[i+k]?.getD 0:=by
 have:=uX (fun l=>l[0]?.getD 0) h.2.2.2.1
 simpa [vJ] using this
theorem TimI.step {a ys zs:qN}{x i k c z y:Nat}(h:TimI a ys x i k zs c)(g:i+k<a.length)(b:zs[i+k]?.getD 0=z)(d:ys[k]?.getD 0=y)(j:Dig W64 ys)(l:x<W64):TimI a ys x i (k+1) (zs.set (i+k) (tmD z x y c)) (tmC z x y c):=by
 have m:a[i+k]?.getD 0=z:=h.at.symm.trans b
 obtain⟨n,f,p,q,s⟩:=h
 refine⟨by simpa using n,f.set _ (dF _ _ _),Zi3 (b ▸ f.getD zP _) l (d ▸ j.getD zP k) p,?_,?_⟩
 ·have e:=uX (List.drop 1) q
  rw[vV,vV] at e
  rw[tJ qO,show i+(k+1)=i+k+1 by omega];exact e
 rw[show i+(k+1)=(i+k)+1 by omega,xN _ _ _ _ qO,zU (i+k) g,lN k,m,d,uP]
 have e:=uX (W64^(i+k) * ·) (ZkO z x y c)
 have r:W64^i*(x*(val W64 (ys.take k)+W64^k*y))=W64^i*(x*val W64 (ys.take k))+W64^(i+k)*(x*y):=by
  rw[uK x,uK (W64^i),uW,tL x (W64^k) y,uH (W64^i)]
 simp only[uK] at e
 rw[r,uH (W64^(i+k)) W64]
 omega
def TimR (xs ys:List Nat) (i:Nat) (zs:List Nat):Prop :=
 zs.length=xs.length+ys.length∧Dig W64 zs∧(∀ j,i+ys.length≤j→zs[j]?.getD 0=0)∧val W64 (zs.take (i+ys.length))=val W64 (xs.take i)*val W64 ys
theorem ZgQ (n j:Nat):(List.replicate n 0)[j]?.getD 0=0:=by rw[pI];split<;>rfl
theorem TimR.start (xs ys:qN):TimR xs ys 0 (List.replicate (xs.length+ys.length) 0):=⟨qS,Dig.replicate zP _,fun j _=>ZgQ _ _,by rw[List.take_replicate,kS];simp⟩
theorem TimR.step {xs ys a zs:qN}{i c x:Nat}(h:TimR xs ys i a)(b:i<xs.length)(d:xs[i]?.getD 0=x)(k:TimI a ys x i ys.length zs c):TimR xs ys (i+1) (zs.set (i+ys.length) c):=by
 obtain⟨r,s,f,g⟩:=h
 obtain⟨k1,m,n,p,q⟩:=k
 refine⟨by simp;omega,m.set _ n,fun j u=>?_,?_⟩
 ·rw[List.getElem?_set_ne qO]
  have e:=uX (fun l=>l[j-(i+ys.length)]?.getD 0) p
  simp only[vJ] at e
  rw[show i+ys.length+(j-(i+ys.length))=j by omega] at e
  rw[e];exact f j qO
 rw[show i+1+ys.length=(i+ys.length)+1 by omega,xN _ _ _ _ qO,q,g,uA (uF ys.length),zU i b,d,vC,uH]
theorem TimR.done {xs ys zs:qN}(h:TimR xs ys xs.length zs):val W64 zs=val W64 xs*val W64 ys:=by
 obtain⟨b,c,d,a⟩:=h
 rwa [uA qO,uA (uF _)] at a
theorem ZdH (A:qA)(xs:qN)(c:Nat)(w:World)(s:zH .u64 w A xs)(z:xs.length≤1099511627776)(B:xs.length≤c) :
 yA 142 #[.slice A xs.length c] w (RetV w (.slice A (wO xs xs.length) c)):=by
 refine zV func142 rfl qK (fun w' u=>s.ext u) ?_
 refine yY (xq 1 [eS1 2 none 0 0] [] ?_)
 refine yZ (zD (zO ?_))
 refine xI (fun p q r=>∃ (k:Nat),q=ofL [eS1 0 A k c] []∧r=(fun w=>zH .u64 w A (xs))∧(wO xs xs.length=wO xs k)∧(k≤xs.length)∧p=(1+k)) _ ⟨(xs.length),rfl,rfl,rfl,uF _,rfl⟩ (fun w Q=>Q) ?_
 rintro p q r ⟨k,rfl,rfl,n,C,rfl⟩
 refine zD (yY (xq 4 [yB 6 (decide ((k:Int)>0))] [] ?_))
 rcases bl2 ((decide ((k:Int)>0))) with a|a
 ·rw[a]
  have f:=uB a
  refine xq 4 [eS1 7 A k c,yJ 10 (IntKind.i64.wrap ((k:Int)-1))] [] ?_
  rw[yW ((k:Int)-1) (((k-1:Nat):Int)) qO]
  refine xqk 11 _ (fun w R Q=>wF (t:=84) (e:=207) (x:=.tmp 7) (ix:=.tmp 10) (len:=k) (cap:=c) (i:=k-1) ((Q).ne (j:=k-1) qO) qO) ?_
  obtain⟨g,b⟩:=yE (xs[k-1]?.getD 0)
  refine xqk 12 (yX g) (fun w R Q=>by rw[←b];exact wU (t:=207) (x:=.tmp 11) (Q) (j:=k-1) qO) ?_
  refine xq 2 [yB 14 (((g:Int):Int) == 0)] [] ?_
  refine xe (zB ?_)
  refine yQ ((((g:Int):Int) == 0)) (fun d=>?_) fun d=>?_
  ·have l:=sK.1 d
   refine zG (zB (zO (zC (xq 4 [eS1 15 A k c,yJ 18 (IntKind.i64.wrap ((k:Int)-1))] [] ?_))))
   rw[yW ((k:Int)-1) (((k-1:Nat):Int)) qO]
   refine xqk 19 (.slice A (k-1) c) (fun w R Q=>ZrO (t:=84) (e:=207) (x:=.tmp 15) (len:=k) (cap:=c) (h:=k-1) (hi:=.tmp 18) qO) ?_
   refine xq 1 [eS1 0 A (k-1) c] [] ?_
   refine xe (xK ?_)
   refine yP [eS1 0 A ((k-1)) c] [] (fun w=>zH .u64 w A (xs)) (fun w Q=>Q) ?_
   have v:wO xs xs.length=wO xs (k-1):=by obtain⟨m,rfl⟩:∃ m,k=m+1:=⟨k-1,qO⟩;rw[n,wO,uZ (by rw[tN] at b;omega),tN]
   exact dQ _ qO ⟨((k-1)),rfl,rfl,v,qO,rfl⟩
  have l:=lU d
  refine xJ (zE (zE (xL (zB (yY (xq 2 [eS1 2 A k c] [] ?_))))))
  refine yZ (zJ ?_)
  refine yR (.slice A k c) fun w' R Q=>?_
  exact⟨by obtain⟨m,rfl⟩:∃ m,k=m+1:=⟨k-1,qO⟩;rw[n,wO,uQ (by rw[tN] at b;omega)],R⟩
 rw[a]
 have f:=uC a
 refine xq 8 [yB 14 false] [] ?_
 refine yZ (xb (xJ (zE (zE (xL (zB (yY (xq 2 [eS1 2 A k c] [] ?_))))))))
 refine yZ (zJ ?_)
 refine yR (.slice A k c) fun w' R Q=>?_
 obtain rfl:k=0:=qO
 exact⟨by rw[n];rfl,R⟩
theorem aB {b n v:Nat}{xs:qN}{w:World}(a:Own .u64 207 w b xs)(c:Dig W64 xs)(d:xs.length=n)(f:val W64 xs=v)(g:n≤1099511627776):yA 142 #[.slice (some ⟨b,0,none⟩) n n] w (lH w v):=by
 subst d f
 refine (ZdH _ xs _ w a.shows0 g (uF _)).mono ?_
 rintro e w' ⟨rfl,Q⟩
 exact⟨_,rfl,(zL.of_own a c (uF _)).ext Q,Q⟩
theorem ZlW (A m:qA)(xs ys:qN)(c c2:Nat)(w:World)(T:zH .u64 w A xs)(U:zH .u64 w m ys)(Z:xs.length≤4294967296)(V:ys.length≤4294967296)(K:Dig W64 xs)(L:Dig W64 ys)(W:ys.length≤xs.length)(G:val W64 ys≤val W64 xs) :
 yA 140 #[.slice A xs.length c,.slice m ys.length c2] w (lH w (val W64 xs-val W64 ys)):=by
 refine zV (Φ:=fun w=>(zH .u64 w A xs∧zH .u64 w m ys)) func140 rfl qK (fun w' M=>⟨T.ext M,U.ext M⟩) ?_
 refine yY (xq 1 [eS1 4 none 0 0] [] ?_)
 refine yZ (yY (xq 2 [yJ 10 xs.length] [] ?_))
 refine Zbu (d:=11) (t:=84) (e:=207) (k:=.u64) (kl:=.i64) (kc:=.i64) (l:=.tmp 10) (c:=.tmp 10) (xs.length) 8 qO qD fun a r _=>?_
 refine xr 1 [eS1 0 A xs.length c,eS1 1 m ys.length c2,eS1 4 none 0 0,eS1 5 (yL a) (xs.length) (xs.length)] [] ?_
 refine yZ (yY (xq 1 [yU 6 0] [] ?_))
 refine yZ (zD (yY (xq 3 [yJ 13 xs.length,yJ 14 0] [] ?_)))
 refine yZ (zO ?_)
 refine xI (fun N O S=>∃ (f k:Nat) (q:List Nat),O=ofL [eS1 0 A xs.length c,eS1 1 m ys.length c2,eS1 4 none 0 0,eS1 5 (yL a) (xs.length) (xs.length),yU 6 f,yJ 13 xs.length,yJ 14 k] []∧S=(fun w=>(Box (fun j=>a≤j) w (fun w=>(zH .u64 w A (xs)∧zH .u64 w m (ys)))∧Own .u64 207 w a (q)))∧(MinR xs ys k q f)∧(k≤xs.length)∧N=(xs.length-k)) _ ⟨0,0,(List.replicate (xs.length) 0),rfl,rfl,MinR.start xs ys,qO,rfl⟩ (fun w Q=>⟨Q.1,Q.2⟩) ?_
 rintro N O S ⟨f,k,q,rfl,rfl,z,hk,rfl⟩
 refine yY (xq 1 [yB 15 (decide ((k:Int)<((xs.length:Nat):Int)))] [] ?_)
 refine yZ (zD ?_)
 refine yQ ((decide ((k:Int)<((xs.length:Nat):Int)))) (fun n=>?_) fun n=>?_
 ·have B:=uB n
  have X:=z.1
  have Y:=z.2.2.1
  refine zG (zB (zD (zO (yY (xq 2 [yJ 7 k] [] ?_)))))
  refine yZ (yY (xq 1 [yU 8 0] [] ?_))
  refine yZ (zD (yY (xq 4 [yB 20 (decide ((k:Int)<((ys.length:Nat):Int)))] [] ?_)))
  refine xe (zB ?_)
  refine yQ ((decide ((k:Int)<((ys.length:Nat):Int)))) (fun p=>?_) fun p=>?_
  ·have C:=uB p
   refine zC (xq 2 [eS1 21 m ys.length c2,yJ 22 k] [] ?_)
   refine xqk 23 _ (fun w R Q=>wF (t:=84) (e:=207) (x:=.tmp 21) (ix:=.tmp 22) (len:=ys.length) (cap:=c2) (i:=k) (((Q.1).self.2).ne (j:=k) qO) qO) ?_
   obtain⟨b,s⟩:=yE (ys[k]?.getD 0)
   refine xqk 24 (yX b) (fun w R Q=>by rw[←s];exact wU (t:=207) (x:=.tmp 23) ((Q.1).self.2) (j:=k) qO) ?_
   refine xq 1 [yU 8 b] [] ?_
   refine yZ (zC (xq 4 [eS1 26 (yL a) (xs.length) (xs.length),yJ 27 k,eS1 28 A xs.length c,yJ 29 k] [] ?_))
   refine xqk 30 _ (fun w R Q=>wF (t:=84) (e:=207) (x:=.tmp 28) (ix:=.tmp 29) (len:=xs.length) (cap:=c) (i:=k) (((Q.1).self.1).ne (j:=k) qO) qO) ?_
   obtain⟨g,u⟩:=yE (xs[k]?.getD 0)
   refine xqk 31 (yX g) (fun w R Q=>by rw[←u];exact wU (t:=207) (x:=.tmp 30) ((Q.1).self.1) (j:=k) qO) ?_
   refine xq 2 [yU 32 b,yU 33 f] [] ?_
   refine xqk 34 _ (fun w R Q=>fT (args:=[Operand.tmp 31,Operand.tmp 32,Operand.tmp 33]) (ts:=#[207,207,207]) (gZ g b f qO w)) ?_
   refine xq 3 [yU 35 (kL g b f:Nat),yU 36 (kM g b f:Nat)] [] ?_
   refine xqk 37 (.pointer (some ⟨a,k,none⟩)) (fun w R Q=>lX (t:=84) (e:=207) (x:=.tmp 26) (ix:=.tmp 27) (len:=(xs.length)) (cap:=(xs.length)) (i:=k) qO) ?_
   refine jL (t:=207) (x:=.tmp 37) (y:=.tmp 35) a (k) (kL g b f) (fun w=>(Box (fun j=>a≤j) w (fun w=>(zH .u64 w A (xs)∧zH .u64 w m (ys)))∧Own .u64 207 w a ((q).set (k) (kL g b f)))) (fun w Q=>Q.2) qO (Or.inl r) (fun w w' Q H I=>⟨((Q.1).fr (H.mono (fun _ _ e=>by rw[e];exact uF _))),I⟩) ?_
   refine xq 1 [yU 6 (kM g b f:Nat)] [] ?_
   refine xe (xK (zB (zC (xq 1 [yJ 38 (IntKind.i64.wrap ((k:Int)+1))] [] ?_))))
   rw[yW ((k:Int)+1) (((k+1:Nat):Int)) qO]
   refine xq 1 [yJ 14 (k+1:Nat)] [] ?_
   refine xe ?_
   refine yP [eS1 0 A xs.length c,eS1 1 m ys.length c2,eS1 4 none 0 0,eS1 5 (yL a) (xs.length) (xs.length),yU 6 ((kM g b f):Nat),yJ 13 xs.length,yJ 14 ((k+1):Nat)] [] (fun w=>(Box (fun j=>a≤j) w (fun w=>(zH .u64 w A (xs)∧zH .u64 w m (ys)))∧Own .u64 207 w a (((q).set (k) (kL g b f))))) (fun w Q=>⟨Q.1,Q.2⟩) ?_
   have J:=z.step qO u s K L
   exact dQ _ qO ⟨(kM g b f),(k+1),((q).set (k) (kL g b f)),rfl,rfl,J,qO,rfl⟩
  have C:=uC p
  refine zG (zB (zC (xq 4 [eS1 26 (yL a) (xs.length) (xs.length),yJ 27 k,eS1 28 A xs.length c,yJ 29 k] [] ?_)))
  refine xqk 30 _ (fun w R Q=>wF (t:=84) (e:=207) (x:=.tmp 28) (ix:=.tmp 29) (len:=xs.length) (cap:=c) (i:=k) (((Q.1).self.1).ne (j:=k) qO) qO) ?_
  obtain⟨h,v⟩:=yE (xs[k]?.getD 0)
  refine xqk 31 (yX h) (fun w R Q=>by rw[←v];exact wU (t:=207) (x:=.tmp 30) ((Q.1).self.1) (j:=k) qO) ?_
  refine xq 2 [yU 32 0,yU 33 f] [] ?_
  refine xqk 34 _ (fun w R Q=>fT (args:=[Operand.tmp 31,Operand.tmp 32,Operand.tmp 33]) (ts:=#[207,207,207]) (gZ h 0 f qO w)) ?_
  refine xq 3 [yU 35 (kL h 0 f:Nat),yU 36 (kM h 0 f:Nat)] [] ?_
  refine xqk 37 (.pointer (some ⟨a,k,none⟩)) (fun w R Q=>lX (t:=84) (e:=207) (x:=.tmp 26) (ix:=.tmp 27) (len:=(xs.length)) (cap:=(xs.length)) (i:=k) qO) ?_
  refine jL (t:=207) (x:=.tmp 37) (y:=.tmp 35) a (k) (kL h 0 f) (fun w=>(Box (fun j=>a≤j) w (fun w=>(zH .u64 w A (xs)∧zH .u64 w m (ys)))∧Own .u64 207 w a ((q).set (k) (kL h 0 f)))) (fun w Q=>Q.2) qO (Or.inl r) (fun w w' Q H I=>⟨((Q.1).fr (H.mono (fun _ _ e=>by rw[e];exact uF _))),I⟩) ?_
  refine xq 1 [yU 6 (kM h 0 f:Nat)] [] ?_
  refine xe (xK (zB (zC (xq 1 [yJ 38 (IntKind.i64.wrap ((k:Int)+1))] [] ?_))))
  rw[yW ((k:Int)+1) (((k+1:Nat):Int)) qO]
  refine xq 1 [yJ 14 (k+1:Nat)] [] ?_
  refine xe ?_
  refine yP [eS1 0 A xs.length c,eS1 1 m ys.length c2,eS1 4 none 0 0,eS1 5 (yL a) (xs.length) (xs.length),yU 6 ((kM h 0 f):Nat),yJ 13 xs.length,yJ 14 ((k+1):Nat)] [] (fun w=>(Box (fun j=>a≤j) w (fun w=>(zH .u64 w A (xs)∧zH .u64 w m (ys)))∧Own .u64 207 w a (((q).set (k) (kL h 0 f))))) (fun w Q=>⟨Q.1,Q.2⟩) ?_
  have J:=z.step qO v (y:=0) (by rw[vL qO];rfl) K L
  exact dQ _ qO ⟨(kM h 0 f),(k+1),((q).set (k) (kL h 0 f)),rfl,rfl,J,qO,rfl⟩
 have B:=uC n
 obtain rfl:k=xs.length:=qO
 refine xJ (zE (zE (xL (zB (yY (xq 1 [eS1 39 (yL a) (xs.length) (xs.length)] [] ?_))))))
 refine xqc _ _ 40 wE _ (fun w R Q=>yM xY (aB Q.2 z.2.1 z.1 (z.done W G) qO)) fun⟨D,E,F⟩=>?_
 refine xq 1 [eS1 4 D E F] [] ?_
 refine yZ (zJ ?_)
 refine yR (.slice D E F) fun w' R Q=>?_
 exact⟨_,rfl,Q.2,R⟩
theorem Znf (A J:qA)(xs ys:qN)(c c2:Nat)(w:World)(hX:zH .u64 w A xs)(hY:zH .u64 w J ys)(hl:xs.length≤4294967296)(W:ys.length≤4294967296)(hx:Dig W64 xs)(hy:Dig W64 ys) :
 yA 138 #[.slice A xs.length c,.slice J ys.length c2] w (lH w (val W64 xs+val W64 ys)):=by
 refine zV (Φ:=fun w=>(zH .u64 w A xs∧zH .u64 w J ys)) func138 rfl qK (fun w' hf=>⟨hX.ext hf,hY.ext hf⟩) ?_
 refine yY (xq 1 [eS1 4 none 0 0] [] ?_)
 refine xe (zB ?_)
 refine Zcd (fun L M=>∃ (p q:Option Addr) (a h:List Nat) (z C:Nat),L=ofL [eS1 0 p a.length z,eS1 1 q h.length C,eS1 4 none 0 0] []∧M=(fun w=>(zH .u64 w p (a)∧zH .u64 w q (h)))∧(h.length≤a.length)∧(Dig W64 a)∧(Dig W64 h)∧(a.length≤4294967296)∧(val W64 a+val W64 h=val W64 xs+val W64 ys)) ?_ ?_
 ·refine yY (xq 5 [yB 13 (decide (((xs.length:Nat):Int)<((ys.length:Nat):Int)))] [] ?_)
  refine xe (zB ?_)
  refine yQ ((decide (((xs.length:Nat):Int)<((ys.length:Nat):Int)))) (fun r=>?_) fun r=>?_
  ·have G:=uB r
   refine zC (xq 4 [eS1 0 J ys.length c2,eS1 1 A xs.length c] [] ?_)
   refine xe ?_
   exact kW ⟨J,A,ys,xs,c2,c,rfl,rfl,qO,hy,hx,W,vO _ _⟩ (fun w Q=>⟨Q.2,Q.1⟩)
  have G:=uC r
  refine zG ?_
  exact kW ⟨A,J,xs,ys,c,c2,rfl,rfl,qO,hx,hy,hl,rfl⟩ (fun w Q=>⟨Q.1,Q.2⟩)
 rintro L M ⟨p,q,a,h,z,C,rfl,rfl,h1,hu,hv,a0,N⟩
 refine yY (xq 3 [yJ 18 (IntKind.i64.wrap (((a.length:Nat):Int)+1))] [] ?_)
 rw[yW (((a.length:Nat):Int)+1) (((a.length+1:Nat):Int)) qO]
 refine Zbu (d:=19) (t:=84) (e:=207) (k:=.u64) (kl:=.i64) (kc:=.i64) (l:=.tmp 18) (c:=.tmp 18) (a.length+1) 8 qO qD fun b s _=>?_
 refine xr 1 [eS1 0 p a.length z,eS1 1 q h.length C,eS1 4 none 0 0,eS1 5 (yL b) (a.length+1) (a.length+1)] [] ?_
 refine yZ (yY (xq 1 [yU 6 0] [] ?_))
 refine yZ (zD (yY (xq 3 [yJ 21 a.length,yJ 22 0] [] ?_)))
 refine yZ (zO ?_)
 refine xI (fun nn L M=>∃ (g k:Nat) (B:List Nat),L=ofL [eS1 0 p a.length z,eS1 1 q h.length C,eS1 4 none 0 0,eS1 5 (yL b) (a.length+1) (a.length+1),yU 6 g,yJ 21 a.length,yJ 22 k] []∧M=(fun w=>(Box (fun j=>b≤j) w (fun w=>(zH .u64 w p (a)∧zH .u64 w q (h)))∧Own .u64 207 w b (B)))∧(ZaL a h k B g)∧(k≤a.length)∧nn=(a.length-k)) _ ⟨0,0,(List.replicate (a.length+1) 0),rfl,rfl,ZaL.start a h,qO,rfl⟩ (fun w Q=>⟨Q.1,Q.2⟩) ?_
 rintro nn L M ⟨g,k,B,rfl,rfl,K,hk,rfl⟩
 refine yY (xq 1 [yB 23 (decide ((k:Int)<((a.length:Nat):Int)))] [] ?_)
 refine yZ (zD ?_)
 refine yQ ((decide ((k:Int)<((a.length:Nat):Int)))) (fun u=>?_) fun u=>?_
 ·have H:=uB u
  have X:=K.1
  have b0:=K.2.2.1
  refine zG (zB (zD (zO (yY (xq 2 [yJ 7 k] [] ?_)))))
  refine yZ (yY (xq 1 [yU 8 0] [] ?_))
  refine yZ (zD (yY (xq 4 [yB 28 (decide ((k:Int)<((h.length:Nat):Int)))] [] ?_)))
  refine xe (zB ?_)
  refine yQ ((decide ((k:Int)<((h.length:Nat):Int)))) (fun v=>?_) fun v=>?_
  ·have I:=uB v
   refine zC (xq 2 [eS1 29 q h.length C,yJ 30 k] [] ?_)
   refine xqk 31 _ (fun w R Q=>wF (t:=84) (e:=207) (x:=.tmp 29) (ix:=.tmp 30) (len:=h.length) (cap:=C) (i:=k) (((Q.1).self.2).ne (j:=k) qO) qO) ?_
   obtain⟨f,D⟩:=yE (h[k]?.getD 0)
   refine xqk 32 (yX f) (fun w R Q=>by rw[←D];exact wU (t:=207) (x:=.tmp 31) ((Q.1).self.2) (j:=k) qO) ?_
   refine xq 1 [yU 8 f] [] ?_
   refine yZ (zC (xq 4 [eS1 34 (yL b) (a.length+1) (a.length+1),yJ 35 k,eS1 36 p a.length z,yJ 37 k] [] ?_))
   refine xqk 38 _ (fun w R Q=>wF (t:=84) (e:=207) (x:=.tmp 36) (ix:=.tmp 37) (len:=a.length) (cap:=z) (i:=k) (((Q.1).self.1).ne (j:=k) qO) qO) ?_
   obtain⟨m,E⟩:=yE (a[k]?.getD 0)
   refine xqk 39 (yX m) (fun w R Q=>by rw[←E];exact wU (t:=207) (x:=.tmp 38) ((Q.1).self.1) (j:=k) qO) ?_
   refine xq 2 [yU 40 f,yU 41 g] [] ?_
   refine xqk 42 _ (fun w R Q=>fT (args:=[Operand.tmp 39,Operand.tmp 40,Operand.tmp 41]) (ts:=#[207,207,207]) (gY m f g qO w)) ?_
   refine xq 3 [yU 43 (xO m f g:Nat),yU 44 (xU m f g:Nat)] [] ?_
   refine xqk 45 (.pointer (some ⟨b,k,none⟩)) (fun w R Q=>lX (t:=84) (e:=207) (x:=.tmp 34) (ix:=.tmp 35) (len:=(a.length+1)) (cap:=(a.length+1)) (i:=k) qO) ?_
   refine jL (t:=207) (x:=.tmp 45) (y:=.tmp 43) b (k) (xO m f g) (fun w=>(Box (fun j=>b≤j) w (fun w=>(zH .u64 w p (a)∧zH .u64 w q (h)))∧Own .u64 207 w b ((B).set (k) (xO m f g)))) (fun w Q=>Q.2) qO (Or.inl s) (fun w w' Q O S=>⟨((Q.1).fr (O.mono (fun _ _ e=>by rw[e];exact uF _))),S⟩) ?_
   refine xq 1 [yU 6 (xU m f g:Nat)] [] ?_
   refine xe (xK (zB (zC (xq 1 [yJ 46 (IntKind.i64.wrap ((k:Int)+1))] [] ?_))))
   rw[yW ((k:Int)+1) (((k+1:Nat):Int)) qO]
   refine xq 1 [yJ 22 (k+1:Nat)] [] ?_
   refine xe ?_
   refine yP [eS1 0 p a.length z,eS1 1 q h.length C,eS1 4 none 0 0,eS1 5 (yL b) (a.length+1) (a.length+1),yU 6 ((xU m f g):Nat),yJ 21 a.length,yJ 22 ((k+1):Nat)] [] (fun w=>(Box (fun j=>b≤j) w (fun w=>(zH .u64 w p (a)∧zH .u64 w q (h)))∧Own .u64 207 w b (((B).set (k) (xO m f g))))) (fun w Q=>⟨Q.1,Q.2⟩) ?_
   have Y:=K.step qO E (y:=f) D hu hv
   exact dQ _ qO ⟨(xU m f g),(k+1),((B).set (k) (xO m f g)),rfl,rfl,Y,qO,rfl⟩
  have I:=uC v
  refine zG (zB (zC (xq 4 [eS1 34 (yL b) (a.length+1) (a.length+1),yJ 35 k,eS1 36 p a.length z,yJ 37 k] [] ?_)))
  refine xqk 38 _ (fun w R Q=>wF (t:=84) (e:=207) (x:=.tmp 36) (ix:=.tmp 37) (len:=a.length) (cap:=z) (i:=k) (((Q.1).self.1).ne (j:=k) qO) qO) ?_
  obtain⟨n,F⟩:=yE (a[k]?.getD 0)
  refine xqk 39 (yX n) (fun w R Q=>by rw[←F];exact wU (t:=207) (x:=.tmp 38) ((Q.1).self.1) (j:=k) qO) ?_
  refine xq 2 [yU 40 0,yU 41 g] [] ?_
  refine xqk 42 _ (fun w R Q=>fT (args:=[Operand.tmp 39,Operand.tmp 40,Operand.tmp 41]) (ts:=#[207,207,207]) (gY n 0 g qO w)) ?_
  refine xq 3 [yU 43 (xO n 0 g:Nat),yU 44 (xU n 0 g:Nat)] [] ?_
  refine xqk 45 (.pointer (some ⟨b,k,none⟩)) (fun w R Q=>lX (t:=84) (e:=207) (x:=.tmp 34) (ix:=.tmp 35) (len:=(a.length+1)) (cap:=(a.length+1)) (i:=k) qO) ?_
  refine jL (t:=207) (x:=.tmp 45) (y:=.tmp 43) b (k) (xO n 0 g) (fun w=>(Box (fun j=>b≤j) w (fun w=>(zH .u64 w p (a)∧zH .u64 w q (h)))∧Own .u64 207 w b ((B).set (k) (xO n 0 g)))) (fun w Q=>Q.2) qO (Or.inl s) (fun w w' Q O S=>⟨((Q.1).fr (O.mono (fun _ _ e=>by rw[e];exact uF _))),S⟩) ?_
  refine xq 1 [yU 6 (xU n 0 g:Nat)] [] ?_
  refine xe (xK (zB (zC (xq 1 [yJ 46 (IntKind.i64.wrap ((k:Int)+1))] [] ?_))))
  rw[yW ((k:Int)+1) (((k+1:Nat):Int)) qO]
  refine xq 1 [yJ 22 (k+1:Nat)] [] ?_
  refine xe ?_
  refine yP [eS1 0 p a.length z,eS1 1 q h.length C,eS1 4 none 0 0,eS1 5 (yL b) (a.length+1) (a.length+1),yU 6 ((xU n 0 g):Nat),yJ 21 a.length,yJ 22 ((k+1):Nat)] [] (fun w=>(Box (fun j=>b≤j) w (fun w=>(zH .u64 w p (a)∧zH .u64 w q (h)))∧Own .u64 207 w b (((B).set (k) (xO n 0 g))))) (fun w Q=>⟨Q.1,Q.2⟩) ?_
  have Y:=K.step qO F (y:=0) (by rw[vL qO];rfl) hu hv
  exact dQ _ qO ⟨(xU n 0 g),(k+1),((B).set (k) (xO n 0 g)),rfl,rfl,Y,qO,rfl⟩
 have H:=uC u
 obtain rfl:k=a.length:=qO
 have X:=K.1
 have Z:=K.done h1
 refine xJ (zE (zE (xL (zB (yY (xq 4 [eS1 47 (yL b) (a.length+1) (a.length+1),yJ 49 a.length,yU 50 g] [] ?_))))))
 refine xqk 51 (.pointer (some ⟨b,a.length,none⟩)) (fun w R Q=>lX (t:=84) (e:=207) (x:=.tmp 47) (ix:=.tmp 49) (len:=(a.length+1)) (cap:=(a.length+1)) (i:=a.length) qO) ?_
 refine jL (t:=207) (x:=.tmp 51) (y:=.tmp 50) b (a.length) (g) (fun w=>(Box (fun j=>b≤j) w (fun w=>(zH .u64 w p (a)∧zH .u64 w q (h)))∧Own .u64 207 w b ((B).set (a.length) (g)))) (fun w Q=>Q.2) qO (Or.inl s) (fun w w' Q O S=>⟨((Q.1).fr (O.mono (fun _ _ e=>by rw[e];exact uF _))),S⟩) ?_
 refine yZ (yY (xq 1 [eS1 52 (yL b) (a.length+1) (a.length+1)] [] ?_))
 refine xqc _ _ 53 wE _ (fun w R Q=>yM xY (aB Q.2 Z.2.1 Z.1 (Z.2.2.trans N) qO)) fun⟨T,U,V⟩=>?_
 refine xq 1 [eS1 4 T U V] [] ?_
 refine yZ (zJ ?_)
 refine yR (.slice T U V) fun w' R Q=>?_
 exact⟨_,rfl,Q.2,R⟩
theorem ZlX (A q:qA)(xs ys:qN)(c c2:Nat)(w:World)(hX:zH .u64 w A xs)(hY:zH .u64 w q ys)(hl:xs.length≤4294967296)(a0:ys.length≤4294967296)(S:Dig W64 xs)(T:Dig W64 ys) :
 yA 212 #[.slice A xs.length c,.slice q ys.length c2] w (lH w (val W64 xs*val W64 ys)):=by
 refine zV (Φ:=fun w=>(zH .u64 w A xs∧zH .u64 w q ys)) func212 rfl qK (fun w' Z=>⟨hX.ext Z,hY.ext Z⟩) ?_
 refine yY (xq 1 [eS1 4 none 0 0] [] ?_)
 refine yZ (yY (xq 5 [yJ 18 (IntKind.i64.wrap (((xs.length:Nat):Int)+((ys.length:Nat):Int)))] [] ?_))
 rw[yW (((xs.length:Nat):Int)+((ys.length:Nat):Int)) (((xs.length+(ys.length):Nat):Int)) qO]
 refine Zbu (d:=19) (t:=84) (e:=207) (k:=.u64) (kl:=.i64) (kc:=.i64) (l:=.tmp 18) (c:=.tmp 18) (xs.length+(ys.length)) 8 qO qD fun h C _=>?_
 refine xr 1 [eS1 0 A xs.length c,eS1 1 q ys.length c2,eS1 4 none 0 0,eS1 5 (yL h) (xs.length+(ys.length)) (xs.length+(ys.length))] [] ?_
 refine yZ (zD (yY (xq 3 [eS1 20 A xs.length c,yJ 21 xs.length,yJ 22 0] [] ?_)))
 refine yZ (zO ?_)
 refine xI (fun I J K=>∃ (i:Nat) (L:List Nat),J=ofL [eS1 1 q ys.length c2,eS1 4 none 0 0,eS1 5 (yL h) (xs.length+(ys.length)) (xs.length+(ys.length)),eS1 20 A xs.length c,yJ 21 xs.length,yJ 22 i] []∧K=(fun w=>(Box (fun j=>h≤j) w (fun w=>(zH .u64 w A (xs)∧zH .u64 w q (ys)))∧Own .u64 207 w h (L)))∧(TimR xs ys i L)∧(i≤xs.length)∧I=(xs.length-i)) _ ⟨0,(List.replicate (xs.length+(ys.length)) 0),rfl,rfl,TimR.start xs ys,qO,rfl⟩ (fun w Q=>⟨Q.1,Q.2⟩) ?_
 rintro I J K ⟨i,L,rfl,rfl,E,hi,rfl⟩
 refine yY (xq 1 [yB 23 (decide ((i:Int)<((xs.length:Nat):Int)))] [] ?_)
 refine yZ (zD ?_)
 refine yQ ((decide ((i:Int)<((xs.length:Nat):Int)))) (fun u=>?_) fun u=>?_
 ·have F:=uB u
  have U:=E.1
  refine zG (zB (zD (zO (yY (xq 1 [yJ 24 i] [] ?_)))))
  refine xqk 25 _ (fun w R Q=>wF (t:=84) (e:=207) (x:=.tmp 20) (ix:=.tmp 22) (len:=xs.length) (cap:=c) (i:=i) (((Q.1).self.1).ne (j:=i) qO) qO) ?_
  obtain⟨f,p⟩:=yE (xs[i]?.getD 0)
  refine xqk 26 (yX f) (fun w R Q=>by rw[←p];exact wU (t:=207) (x:=.tmp 25) ((Q.1).self.1) (j:=i) qO) ?_
  refine xq 2 [yJ 6 i,yU 7 f] [] ?_
  refine yZ (yY (xq 1 [yU 8 0] [] ?_))
  refine yZ (zD (yY (xq 3 [eS1 27 q ys.length c2,yJ 28 ys.length,yJ 29 0] [] ?_)))
  refine yZ (zO ?_)
  refine xI (fun I J K=>∃ (n k:Nat) (B:List Nat),J=ofL [eS1 1 q ys.length c2,eS1 4 none 0 0,eS1 5 (yL h) (xs.length+(ys.length)) (xs.length+(ys.length)),yJ 6 i,yU 7 f,yU 8 n,eS1 20 A xs.length c,yJ 21 xs.length,yJ 22 i,eS1 27 q ys.length c2,yJ 28 ys.length,yJ 29 k] []∧K=(fun w=>(Box (fun j=>h≤j) w (fun w=>(zH .u64 w A (xs)∧zH .u64 w q (ys)))∧Own .u64 207 w h (B)))∧(TimI L ys f i k B n)∧(k≤ys.length)∧I=(ys.length-k)) _ ⟨0,0,L,rfl,rfl,TimI.start ys f i E.2.1,qO,rfl⟩ (fun w Q=>⟨Q.1,Q.2⟩) ?_
  rintro I J K ⟨n,k,B,rfl,rfl,D,hk,rfl⟩
  refine yY (xq 1 [yB 30 (decide ((k:Int)<((ys.length:Nat):Int)))] [] ?_)
  refine yZ (zD ?_)
  refine yQ ((decide ((k:Int)<((ys.length:Nat):Int)))) (fun z=>?_) fun z=>?_
  ·have G:=uB z
   have V:=D.1
   have H:=D.2.2.1
   refine zG (zB (zD (zO (yY (xq 1 [yJ 31 k] [] ?_)))))
   refine xqk 32 _ (fun w R Q=>wF (t:=84) (e:=207) (x:=.tmp 27) (ix:=.tmp 29) (len:=ys.length) (cap:=c2) (i:=k) (((Q.1).self.2).ne (j:=k) qO) qO) ?_
   obtain⟨g,r⟩:=yE (ys[k]?.getD 0)
   refine xqk 33 (yX g) (fun w R Q=>by rw[←r];exact wU (t:=207) (x:=.tmp 32) ((Q.1).self.2) (j:=k) qO) ?_
   refine xq 2 [yJ 9 k,yU 10 g] [] ?_
   refine yZ (yY (xq 2 [yU 35 f,yU 36 g] [] ?_))
   refine xqc _ _ 37 (fun _:Unit=>.tuple #[yX (wQ f g:Nat), yX (xH f g:Nat)]) _ (fun w R Q=>yN (ZdG f g _ (by rw[←p];exact S.getD zP _) (by rw[←r];exact T.getD zP _))) fun xx=>?_
   refine xq 5 [yU 11 (wQ f g:Nat),yU 12 (xH f g:Nat)] [] ?_
   refine yZ (yY (xq 5 [yU 41 (xH f g:Nat),eS1 42 (yL h) (xs.length+(ys.length)) (xs.length+(ys.length)),yJ 45 (IntKind.i64.wrap ((i:Int)+(k:Int)))] [] ?_))
   rw[yW ((i:Int)+(k:Int)) (((i+k:Nat):Int)) qO]
   refine xqk 46 (.pointer (some ⟨h,i+k,none⟩)) (fun w R Q=>lX (t:=84) (e:=207) (x:=.tmp 42) (ix:=.tmp 45) (len:=(xs.length+(ys.length))) (cap:=(xs.length+(ys.length))) (i:=i+k) qO) ?_
   obtain⟨m,s⟩:=yE (B[i+k]?.getD 0)
   refine xqk 47 (yX m) (fun w R Q=>by rw[←s];exact gJ (t:=207) (x:=.tmp 46) (Q.1.2) (j:=i+k) qO) ?_
   refine xqk 48 _ (fun w R Q=>fT (args:=[Operand.tmp 41,Operand.tmp 47,Operand.const (Value.int IntKind.u64 0)]) (ts:=#[207,207,207]) (gY (xH f g) m 0 qO w)) ?_
   refine xq 5 [yU 12 (xO (xH f g) m 0:Nat),yU 13 (xU (xH f g) m 0:Nat)] [] ?_
   refine yZ (yY (xq 3 [(53,.v (yX (IntKind.u64.wrap (((wQ f g:Nat):Int)+((xU (xH f g) m 0:Nat):Int)))))] [] ?_))
   rw[Zf5 (a:=wQ f g) (b:=xU (xH f g) m 0) (ZsB (by rw[←s];exact D.2.1.getD zP _) (by rw[←p];exact S.getD zP _) (by rw[←r];exact T.getD zP _) H)]
   refine xq 1 [yU 11 (wQ f g+xU (xH f g) m 0:Nat)] [] ?_
   refine yZ (yY (xq 4 [eS1 55 (yL h) (xs.length+(ys.length)) (xs.length+(ys.length)),yJ 58 (IntKind.i64.wrap ((i:Int)+(k:Int)))] [] ?_))
   rw[yW ((i:Int)+(k:Int)) (((i+k:Nat):Int)) qO]
   refine xq 2 [yU 59 (xO (xH f g) m 0:Nat),yU 60 n] [] ?_
   refine xqk 61 _ (fun w R Q=>fT (args:=[Operand.tmp 59,Operand.tmp 60,Operand.const (Value.int IntKind.u64 0)]) (ts:=#[207,207,207]) (gY (xO (xH f g) m 0) n 0 qO w)) ?_
   refine xq 3 [yU 62 (xO (xO (xH f g) m 0) n 0:Nat),yU 63 (xU (xO (xH f g) m 0) n 0:Nat)] [] ?_
   refine xqk 64 (.pointer (some ⟨h,i+k,none⟩)) (fun w R Q=>lX (t:=84) (e:=207) (x:=.tmp 55) (ix:=.tmp 58) (len:=(xs.length+(ys.length))) (cap:=(xs.length+(ys.length))) (i:=i+k) qO) ?_
   refine jL (t:=207) (x:=.tmp 64) (y:=.tmp 62) h (i+k) (xO (xO (xH f g) m 0) n 0) (fun w=>((Box (fun j=>h≤j) w (fun w=>(zH .u64 w A (xs)∧zH .u64 w q (ys)))∧Own .u64 207 w h ((B).set (i+k) (xO (xO (xH f g) m 0) n 0)))∧True)) (fun w Q=>Q.1.2) qO (Or.inl C) (fun w w' Q W X=>⟨⟨((Q.1.1).fr (W.mono (fun _ _ e=>by rw[e];exact uF _))),X⟩,trivial⟩) ?_
   refine xr 1 [eS1 1 q ys.length c2,eS1 4 none 0 0,eS1 5 (yL h) (xs.length+(ys.length)) (xs.length+(ys.length)),yJ 6 i,yU 7 f,yU 8 n,yU 11 (wQ f g+xU (xH f g) m 0:Nat),yU 13 (xU (xO (xH f g) m 0) n 0:Nat),eS1 20 A xs.length c,yJ 21 xs.length,yJ 22 i,eS1 27 q ys.length c2,yJ 28 ys.length,yJ 29 k] [] ?_
   refine yZ (zC (xq 3 [(67,.v (yX (IntKind.u64.wrap (((wQ f g+xU (xH f g) m 0:Nat):Int)+((xU (xO (xH f g) m 0) n 0:Nat):Int)))))] [] ?_))
   rw[Zf5 (a:=wQ f g+xU (xH f g) m 0) (b:=xU (xO (xH f g) m 0) n 0) (Zi3 (by rw[←s];exact D.2.1.getD zP _) (by rw[←p];exact S.getD zP _) (by rw[←r];exact T.getD zP _) H)]
   refine xq 1 [yU 8 (wQ f g+xU (xH f g) m 0+xU (xO (xH f g) m 0) n 0:Nat)] [] ?_
   refine xe (xK (zB (zC (xq 1 [yJ 68 (IntKind.i64.wrap ((k:Int)+1))] [] ?_))))
   rw[yW ((k:Int)+1) (((k+1:Nat):Int)) qO]
   refine xq 1 [yJ 29 (k+1:Nat)] [] ?_
   refine xe ?_
   refine yP [eS1 1 q ys.length c2,eS1 4 none 0 0,eS1 5 (yL h) (xs.length+(ys.length)) (xs.length+(ys.length)),yJ 6 i,yU 7 f,(8,.v (yX ((wQ f g+xU (xH f g) m 0+xU (xO (xH f g) m 0) n 0):Nat))),eS1 20 A xs.length c,yJ 21 xs.length,yJ 22 i,eS1 27 q ys.length c2,yJ 28 ys.length,yJ 29 ((k+1):Nat)] [] (fun w=>(Box (fun j=>h≤j) w (fun w=>(zH .u64 w A (xs)∧zH .u64 w q (ys)))∧Own .u64 207 w h (((B).set (i+k) (xO (xO (xH f g) m 0) n 0))))) (fun w Q=>⟨Q.1.1,Q.1.2⟩) ?_
   have Y:=D.step qO s r T (by rw[←p];exact S.getD zP _)
   exact dQ _ qO ⟨(wQ f g+xU (xH f g) m 0+xU (xO (xH f g) m 0) n 0),(k+1),((B).set (i+k) (xO (xO (xH f g) m 0) n 0)),rfl,rfl,Y,qO,rfl⟩
  have G:=uC z
  have V:=D.1
  have H:=D.2.2.1
  obtain rfl:k=ys.length:=qO
  refine xJ (zE (zE (xL (zB (zC (xq 5 [eS1 69 (yL h) (xs.length+(ys.length)) (xs.length+(ys.length)),yJ 73 (IntKind.i64.wrap ((i:Int)+((ys.length:Nat):Int)))] [] ?_))))))
  rw[yW ((i:Int)+((ys.length:Nat):Int)) (((i+(ys.length):Nat):Int)) qO]
  refine xq 1 [yU 74 n] [] ?_
  refine xqk 75 (.pointer (some ⟨h,i+(ys.length),none⟩)) (fun w R Q=>lX (t:=84) (e:=207) (x:=.tmp 69) (ix:=.tmp 73) (len:=(xs.length+(ys.length))) (cap:=(xs.length+(ys.length))) (i:=i+(ys.length)) qO) ?_
  refine jL (t:=207) (x:=.tmp 75) (y:=.tmp 74) h (i+(ys.length)) (n) (fun w=>(Box (fun j=>h≤j) w (fun w=>(zH .u64 w A (xs)∧zH .u64 w q (ys)))∧Own .u64 207 w h ((B).set (i+(ys.length)) (n)))) (fun w Q=>Q.2) qO (Or.inl C) (fun w w' Q W X=>⟨((Q.1).fr (W.mono (fun _ _ e=>by rw[e];exact uF _))),X⟩) ?_
  refine xe (xK (zB (zC (xq 1 [yJ 76 (IntKind.i64.wrap ((i:Int)+1))] [] ?_))))
  rw[yW ((i:Int)+1) (((i+1:Nat):Int)) qO]
  refine xq 1 [yJ 22 (i+1:Nat)] [] ?_
  refine xe ?_
  refine yP [eS1 1 q ys.length c2,eS1 4 none 0 0,eS1 5 (yL h) (xs.length+(ys.length)) (xs.length+(ys.length)),eS1 20 A xs.length c,yJ 21 xs.length,yJ 22 ((i+1):Nat)] [] (fun w=>(Box (fun j=>h≤j) w (fun w=>(zH .u64 w A (xs)∧zH .u64 w q (ys)))∧Own .u64 207 w h (((B).set (i+(ys.length)) (n))))) (fun w Q=>⟨Q.1,Q.2⟩) ?_
  have Y:=E.step qO p D
  exact dQ _ qO ⟨(i+1),((B).set (i+(ys.length)) (n)),rfl,rfl,Y,qO,rfl⟩
 have F:=uC u
 have U:=E.1
 obtain rfl:i=xs.length:=qO
 refine xJ (zE (zE (xL (zB (yY (xq 1 [eS1 77 (yL h) (xs.length+(ys.length)) (xs.length+(ys.length))] [] ?_))))))
 refine xqc _ _ 78 wE _ (fun w R Q=>yM xY (aB Q.2 E.2.1 E.1 E.done qO)) fun⟨M,N,O⟩=>?_
 refine xq 1 [eS1 4 M N O] [] ?_
 refine yZ (zJ ?_)
 refine yR (.slice M N O) fun w' R Q=>?_
 exact⟨_,rfl,Q.2,R⟩
theorem Zqz (A:qA)(xs:qN)(c k:Nat)(w:World)(T:zL w (.slice A xs.length c) (val W64 xs))(U:zH .u64 w A xs)(X:xs.length≤4294967296)(V:Dig W64 xs)(Y:k≤274877906944) :
 yA 112 #[.slice A xs.length c,.int .i64 ((k:Nat):Int)] w (lH w (val W64 xs*2^k)):=by
 refine zV (Φ:=fun w=>(zL w (.slice A xs.length c) (val W64 xs)∧zH .u64 w A xs)) func112 rfl qK (fun w' L=>⟨T.ext L,U.ext L⟩) ?_
 refine yY (xq 1 [eS1 4 none 0 0] [] ?_)
 refine yZ (zD (yY (xq 4 [yB 13 ((((xs.length:Nat):Int):Int) == 0)] [] ?_)))
 rcases bl2 (((((xs.length:Nat):Int):Int) == 0)) with h|h
 ·rw[h]
  have B:=sK.1 h
  refine xq 3 [yB 16 true] [] ?_
  refine yZ (xa (yY (xq 2 [eS1 4 A xs.length c] [] ?_)))
  refine yZ (zJ (zM ?_))
  refine yR (.slice A xs.length c) fun w' R Q=>?_
  exact⟨_,rfl,(by obtain rfl:xs=[]:=tG.1 qO;rw[eQ,sY];exact Q.1),R⟩
 rw[h]
 have B:=lU h
 refine xq 3 [yB 16 (((k:Int):Int) == 0)] [] ?_
 refine xe (zB ?_)
 refine yQ ((((k:Int):Int) == 0)) (fun q=>?_) fun q=>?_
 ·have C:=sK.1 q
  refine yY (xq 2 [eS1 4 A xs.length c] [] ?_)
  refine yZ (zJ (zM ?_))
  refine yR (.slice A xs.length c) fun w' R Q=>?_
  exact⟨_,rfl,(by obtain rfl:k=0:=qO;rw[tX,sU];exact Q.1),R⟩
 have C:=lU q
 refine zG (zB (yY (xq 2 [(19,Γ (IntKind.i64.wrap (((k:Int)).tdiv 64)))] [] ?_)))
 rw[show IntKind.i64.wrap ((((k:Int)).tdiv 64))=((k/64:Nat):Int) from tdq (k) 64 qO]
 refine xq 2 [yJ 21 (((k:Int)).tmod 64)] [] ?_
 rw[show ((k:Int)).tmod 64=((k%64:Nat):Int) from tdr (k) 64]
 refine xq 1 [yU 22 (IntKind.u64.wrap (((k%64:Nat):Int)))] [] ?_
 rw[show IntKind.u64.wrap (((k%64:Nat):Int))=((k%64:Nat):Int) by rw[IntKind.wrap_u64];omega]
 refine xq 2 [yJ 5 (k/64:Nat),yU 6 (k%64:Nat)] [] ?_
 refine yZ (yY (xq 4 [yJ 26 (IntKind.i64.wrap (((xs.length:Nat):Int)+((k/64:Nat):Int)))] [] ?_))
 rw[yW (((xs.length:Nat):Int)+((k/64:Nat):Int)) (((xs.length+(k/64):Nat):Int)) qO]
 refine xq 1 [(27,.v (yI (IntKind.i64.wrap (((xs.length+(k/64):Nat):Int)+1))))] [] ?_
 rw[show IntKind.i64.wrap ((((xs.length+(k/64):Nat):Int)+1))=((xs.length+(k/64)+1:Nat):Int) by rw[IntKind.wrap_i64];omega]
 refine Zbu (d:=28) (t:=84) (e:=207) (k:=.u64) (kl:=.i64) (kc:=.i64) (l:=.tmp 27) (c:=.tmp 27) (xs.length+(k/64)+1) 8 qO qD fun f u _=>?_
 refine xr 1 [eS1 0 A xs.length c,eS1 4 none 0 0,yJ 5 (k/64:Nat),yU 6 (k%64:Nat),eS1 7 (yL f) (xs.length+(k/64)+1) (xs.length+(k/64)+1)] [] ?_
 refine yZ (zD (yY (xq 3 [eS1 29 A xs.length c,yJ 30 xs.length,yJ 31 0] [] ?_)))
 refine yZ (zO ?_)
 refine xI (fun M N O=>∃ (i:Nat) (D:List Nat),N=ofL [eS1 4 none 0 0,yJ 5 (k/64:Nat),yU 6 (k%64:Nat),eS1 7 (yL f) (xs.length+(k/64)+1) (xs.length+(k/64)+1),eS1 29 A xs.length c,yJ 30 xs.length,yJ 31 i] []∧O=(fun w=>(Box (fun j=>f≤j) w (fun w=>(zL w (.slice A xs.length c) (val W64 xs)∧zH .u64 w A (xs)))∧Own .u64 207 w f (D)))∧(dI xs (k/64) (k%64) i D)∧(i≤xs.length)∧M=(xs.length-i)) _ ⟨0,(List.replicate (xs.length+(k/64)+1) 0),rfl,rfl,dI.start xs (k/64) (k%64),qO,rfl⟩ (fun w Q=>⟨Q.1,Q.2⟩) ?_
 rintro M N O ⟨i,D,rfl,rfl,z,hi,rfl⟩
 refine yY (xq 1 [yB 32 (decide ((i:Int)<((xs.length:Nat):Int)))] [] ?_)
 refine yZ (zD ?_)
 refine yQ ((decide ((i:Int)<((xs.length:Nat):Int)))) (fun r=>?_) fun r=>?_
 ·have E:=uB r
  have I:=z.1
  refine zG (zB (zD (zO (yY (xq 1 [yJ 33 i] [] ?_)))))
  refine xqk 34 _ (fun w R Q=>wF (t:=84) (e:=207) (x:=.tmp 29) (ix:=.tmp 31) (len:=xs.length) (cap:=c) (i:=i) (((Q.1).self.2).ne (j:=i) qO) qO) ?_
  obtain⟨g,s⟩:=yE (xs[i]?.getD 0)
  refine xqk 35 (yX g) (fun w R Q=>by rw[←s];exact wU (t:=207) (x:=.tmp 34) ((Q.1).self.2) (j:=i) qO) ?_
  refine xq 2 [yJ 8 i,yU 9 g] [] ?_
  refine yZ (yY (xq 4 [eS1 36 (yL f) (xs.length+(k/64)+1) (xs.length+(k/64)+1),yJ 39 (IntKind.i64.wrap ((i:Int)+((k/64:Nat):Int)))] [] ?_))
  rw[yW ((i:Int)+((k/64:Nat):Int)) (((i+(k/64):Nat):Int)) qO]
  refine xqk 40 (.pointer (some ⟨f,i+(k/64),none⟩)) (fun w R Q=>lX (t:=84) (e:=207) (x:=.tmp 36) (ix:=.tmp 39) (len:=(xs.length+(k/64)+1)) (cap:=(xs.length+(k/64)+1)) (i:=i+(k/64)) qO) ?_
  obtain⟨p,m⟩:=yE (D[i+(k/64)]?.getD 0)
  refine xqk 41 (yX p) (fun w R Q=>by rw[←m];exact gJ (t:=207) (x:=.tmp 40) (Q.2) (j:=i+(k/64)) qO) ?_
  refine xq 2 [yU 42 g,yU 43 (k%64:Nat)] [] ?_
  refine xqk 44 _ (fun w R Q=>Zi2 (t:=207) (x:=.tmp 42) (y:=.tmp 43) (k:=123) (ky:=.u64) (a:=g) (n:=(k%64)) qO) ?_
  have W:=z.step qO qO m s (by rw[←s];exact V.getD zP _)
  refine xqk 45 _ (fun w R Q=>ZpQ (t:=207) (x:=.tmp 41) (y:=.tmp 44) (k:=207) (a:=p) (b:=(g*2^(k%64)%W64)) (by rw[←m];exact z.2.1.getD zP _) (uO _ zP) (ZmM (by rw[←m];exact z.2.2.2) qO)) ?_
  refine xqk 46 (.pointer (some ⟨f,i+(k/64),none⟩)) (fun w R Q=>lX (t:=84) (e:=207) (x:=.tmp 36) (ix:=.tmp 39) (len:=(xs.length+(k/64)+1)) (cap:=(xs.length+(k/64)+1)) (i:=i+(k/64)) qO) ?_
  refine jL (t:=207) (x:=.tmp 46) (y:=.tmp 45) f (i+(k/64)) (p+g*2^(k%64)%W64) (fun w=>(Box (fun j=>f≤j) w (fun w=>(zL w (.slice A xs.length c) (val W64 xs)∧zH .u64 w A (xs)))∧Own .u64 207 w f ((D).set (i+(k/64)) (p+g*2^(k%64)%W64)))) (fun w Q=>Q.2) qO (Or.inl u) (fun w w' Q J K=>⟨((Q.1).fr (J.mono (fun _ _ e=>by rw[e];exact uF _))),K⟩) ?_
  refine yZ (zC (xq 4 [eS1 47 (yL f) (xs.length+(k/64)+1) (xs.length+(k/64)+1),yJ 50 (IntKind.i64.wrap ((i:Int)+((k/64:Nat):Int)))] [] ?_))
  rw[yW ((i:Int)+((k/64:Nat):Int)) (((i+(k/64):Nat):Int)) qO]
  refine xq 1 [(51,.v (yI (IntKind.i64.wrap (((i+(k/64):Nat):Int)+1))))] [] ?_
  rw[show IntKind.i64.wrap ((((i+(k/64):Nat):Int)+1))=((i+(k/64)+1:Nat):Int) by rw[IntKind.wrap_i64];omega]
  refine xq 3 [yU 52 g,yU 54 (IntKind.u64.wrap (64-((k%64:Nat):Int)))] [] ?_
  rw[show IntKind.u64.wrap ((64-((k%64:Nat):Int)))=((64-(k%64):Nat):Int) by rw[IntKind.wrap_u64];have:=zR;omega]
  refine xqk 55 _ (fun w R Q=>Zi1 (t:=207) (x:=.tmp 52) (y:=.tmp 54) (k:=123) (ky:=.u64) (a:=g) (n:=(64-(k%64))) qO) ?_
  refine xqk 56 (.pointer (some ⟨f,i+(k/64)+1,none⟩)) (fun w R Q=>lX (t:=84) (e:=207) (x:=.tmp 47) (ix:=.tmp 51) (len:=(xs.length+(k/64)+1)) (cap:=(xs.length+(k/64)+1)) (i:=i+(k/64)+1) qO) ?_
  refine jL (t:=207) (x:=.tmp 56) (y:=.tmp 55) f (i+(k/64)+1) (g/2^(64-(k%64))) (fun w=>(Box (fun j=>f≤j) w (fun w=>(zL w (.slice A xs.length c) (val W64 xs)∧zH .u64 w A (xs)))∧Own .u64 207 w f (((D).set (i+(k/64)) (p+g*2^(k%64)%W64)).set (i+(k/64)+1) (g/2^(64-(k%64)))))) (fun w Q=>Q.2) (by simp only[sQ];omega) (Or.inl u) (fun w w' Q J K=>⟨((Q.1).fr (J.mono (fun _ _ e=>by rw[e];exact uF _))),K⟩) ?_
  refine xe (xK (zB (zC (xq 1 [yJ 57 (IntKind.i64.wrap ((i:Int)+1))] [] ?_))))
  rw[yW ((i:Int)+1) (((i+1:Nat):Int)) qO]
  refine xq 1 [yJ 31 (i+1:Nat)] [] ?_
  refine xe ?_
  exact xC _ qO ⟨(i+1),(((D).set (i+(k/64)) (p+g*2^(k%64)%W64)).set (i+(k/64)+1) (g/2^(64-(k%64)))),rfl,rfl,W.1,qO,rfl⟩ (fun w Q=>⟨Q.1,Q.2⟩)
 have E:=uC r
 have I:=z.1
 obtain rfl:i=xs.length:=qO
 have S:=z.done
 rw[show 64*(k/64)+k%64=k by omega] at S
 refine xJ (zE (zE (xL (zB (yY (xq 1 [eS1 58 (yL f) (xs.length+(k/64)+1) (xs.length+(k/64)+1)] [] ?_))))))
 refine xqc _ _ 59 wE _ (fun w R Q=>yM xY (aB Q.2 z.2.1 z.1 S qO)) fun⟨F,G,H⟩=>?_
 refine xq 1 [eS1 4 F G H] [] ?_
 refine yZ (zJ ?_)
 refine yR (.slice F G H) fun w' R Q=>?_
 exact⟨_,rfl,Q.2,R⟩
theorem Zng (A:qA)(xs:qN)(c k:Nat)(w:World)(Y:zL w (.slice A xs.length c) (val W64 xs))(Z:zH .u64 w A xs)(hl:xs.length≤4294967296)(H:Dig W64 xs)(hk:k≤274877906944) :
 yA 166 #[.slice A xs.length c,.int .i64 ((k:Nat):Int)] w (lH w (val W64 xs/2^k)):=by
 refine zV (Φ:=fun w=>(zL w (.slice A xs.length c) (val W64 xs)∧zH .u64 w A xs)) func166 rfl qK (fun w' U=>⟨Y.ext U,Z.ext U⟩) ?_
 refine yY (xq 1 [eS1 4 none 0 0] [] ?_)
 refine yZ (yY (xq 2 [(10,Γ (IntKind.i64.wrap (((k:Int)).tdiv 64)))] [] ?_))
 rw[show IntKind.i64.wrap ((((k:Int)).tdiv 64))=((k/64:Nat):Int) from tdq (k) 64 qO]
 refine xq 2 [yJ 12 (((k:Int)).tmod 64)] [] ?_
 rw[show ((k:Int)).tmod 64=((k%64:Nat):Int) from tdr (k) 64]
 refine xq 1 [yU 13 (IntKind.u64.wrap (((k%64:Nat):Int)))] [] ?_
 rw[show IntKind.u64.wrap (((k%64:Nat):Int))=((k%64:Nat):Int) by rw[IntKind.wrap_u64];omega]
 refine xq 2 [yJ 5 (k/64:Nat),yU 6 (k%64:Nat)] [] ?_
 refine yZ (zD (yY (xq 4 [yB 17 (decide (((k/64:Nat):Int)≥((xs.length:Nat):Int)))] [] ?_)))
 refine xe (zB ?_)
 refine yQ ((decide (((k/64:Nat):Int)≥((xs.length:Nat):Int)))) (fun p=>?_) fun p=>?_
 ·have D:=uB p
  refine yY (xq 1 [eS1 4 none 0 0] [] ?_)
  refine yZ (zJ (zM ?_))
  refine yR Ξ fun w' R Q=>?_
  exact⟨_,rfl,by rw[Ze3 H qO];exact zL.zero _,R⟩
 have D:=uC p
 refine zG (zB (zD (yY (xq 2 [yB 19 (((k:Int):Int) == 0)] [] ?_))))
 refine xe (zB ?_)
 refine yQ ((((k:Int):Int) == 0)) (fun q=>?_) fun q=>?_
 ·have E:=sK.1 q
  refine yY (xq 2 [eS1 4 A xs.length c] [] ?_)
  refine yZ (zJ (zM ?_))
  refine yR (.slice A xs.length c) fun w' R Q=>?_
  exact⟨_,rfl,by obtain rfl:k=0:=qO;rw[tX,pV];exact Q.1,R⟩
 have E:=lU q
 refine zG (zB (yY (xq 4 [yJ 24 (IntKind.i64.wrap (((xs.length:Nat):Int)-((k/64:Nat):Int)))] [] ?_)))
 rw[yW (((xs.length:Nat):Int)-((k/64:Nat):Int)) (((xs.length-(k/64):Nat):Int)) qO]
 refine Zbu (d:=25) (t:=84) (e:=207) (k:=.u64) (kl:=.i64) (kc:=.i64) (l:=.tmp 24) (c:=.tmp 24) (xs.length-(k/64)) 8 qO qD fun f z _=>?_
 refine xr 1 [eS1 0 A xs.length c,eS1 4 none 0 0,yJ 5 (k/64:Nat),yU 6 (k%64:Nat),eS1 7 (yL f) (xs.length-(k/64)) (xs.length-(k/64))] [] ?_
 refine yZ (zD (yY (xq 3 [yJ 27 (xs.length-(k/64):Nat),yJ 28 0] [] ?_)))
 refine yZ (zO ?_)
 refine xI (fun V W X=>∃ (i:Nat) (u:List Nat),W=ofL [eS1 0 A xs.length c,eS1 4 none 0 0,yJ 5 (k/64:Nat),yU 6 (k%64:Nat),eS1 7 (yL f) (xs.length-(k/64)) (xs.length-(k/64)),yJ 27 (xs.length-(k/64):Nat),yJ 28 i] []∧X=(fun w=>(Box (fun j=>f≤j) w (fun w=>(zL w (.slice A xs.length c) (val W64 xs)∧zH .u64 w A (xs)))∧Own .u64 207 w f (u)))∧(dJ (xs.drop (k/64)) (k%64) i u)∧(i≤xs.length-k/64)∧V=(xs.length-k/64-i)) _ ⟨0,(List.replicate (xs.length-(k/64)) 0),rfl,rfl,(by have:=dJ.start (xs.drop (k/64)) (k%64);rwa [tC] at this),qO,rfl⟩ (fun w Q=>⟨Q.1,Q.2⟩) ?_
 rintro V W X ⟨i,u,rfl,rfl,I,hi,rfl⟩
 refine yY (xq 1 [(29,.v (.bool (decide ((i:Int)<((xs.length-(k/64):Nat):Int)))))] [] ?_)
 refine yZ (zD ?_)
 refine yQ ((decide ((i:Int)<((xs.length-(k/64):Nat):Int)))) (fun r=>?_) fun r=>?_
 ·have F:=uB r
  have J:u.length=xs.length-k/64:=by rw[I.1,tC]
  refine zG (zB (zD (zO (yY (xq 2 [yJ 8 i] [] ?_)))))
  refine yZ (yY (xq 6 [eS1 31 (yL f) (xs.length-(k/64)) (xs.length-(k/64)),yJ 32 i,eS1 33 A xs.length c,yJ 36 (IntKind.i64.wrap ((i:Int)+((k/64:Nat):Int)))] [] ?_))
  rw[yW ((i:Int)+((k/64:Nat):Int)) (((i+(k/64):Nat):Int)) qO]
  refine xqk 37 _ (fun w R Q=>wF (t:=84) (e:=207) (x:=.tmp 33) (ix:=.tmp 36) (len:=xs.length) (cap:=c) (i:=i+(k/64)) (((Q.1).self.2).ne (j:=i+(k/64)) qO) qO) ?_
  obtain⟨g,h⟩:=yE (xs[i+(k/64)]?.getD 0)
  refine xqk 38 (yX g) (fun w R Q=>by rw[←h];exact wU (t:=207) (x:=.tmp 37) ((Q.1).self.2) (j:=i+(k/64)) qO) ?_
  refine xq 1 [yU 39 (k%64:Nat)] [] ?_
  refine xqk 40 _ (fun w R Q=>Zi1 (t:=207) (x:=.tmp 38) (y:=.tmp 39) (k:=123) (ky:=.u64) (a:=g) (n:=(k%64)) qO) ?_
  refine xqk 41 (.pointer (some ⟨f,i,none⟩)) (fun w R Q=>lX (t:=84) (e:=207) (x:=.tmp 31) (ix:=.tmp 32) (len:=(xs.length-(k/64))) (cap:=(xs.length-(k/64))) (i:=i) qO) ?_
  refine jL (t:=207) (x:=.tmp 41) (y:=.tmp 40) f (i) (g/2^(k%64)) (fun w=>(Box (fun j=>f≤j) w (fun w=>(zL w (.slice A xs.length c) (val W64 xs)∧zH .u64 w A (xs)))∧Own .u64 207 w f ((u).set (i) (g/2^(k%64))))) (fun w Q=>Q.2) qO (Or.inl z) (fun w w' Q S T=>⟨((Q.1).fr (S.mono (fun _ _ e=>by rw[e];exact uF _))),T⟩) ?_
  refine yZ (yY (xq 3 [yJ 44 (IntKind.i64.wrap ((i:Int)+((k/64:Nat):Int)))] [] ?_))
  rw[yW ((i:Int)+((k/64:Nat):Int)) (((i+(k/64):Nat):Int)) qO]
  refine xq 1 [(45,.v (yI (IntKind.i64.wrap (((i+(k/64):Nat):Int)+1))))] [] ?_
  rw[show IntKind.i64.wrap ((((i+(k/64):Nat):Int)+1))=((i+(k/64)+1:Nat):Int) by rw[IntKind.wrap_i64];omega]
  refine xq 3 [(48,.v (.bool (decide (((i+(k/64)+1:Nat):Int)<((xs.length:Nat):Int)))))] [] ?_
  refine xe (zB ?_)
  refine yQ ((decide (((i+(k/64)+1:Nat):Int)<((xs.length:Nat):Int)))) (fun s=>?_) fun s=>?_
  ·have G:=uB s
   refine kR 16 [0,0,3,7,0,0,0,96,224,496,1008,0,2048,8176,16383,32767] qK qK zQ ?_
   refine xqf 2 [eS1 49 (yL f) (xs.length-(k/64)) (xs.length-(k/64)),yJ 50 i] [] ?_
   refine xqj 51 (.pointer (some ⟨f,i,none⟩)) (fun w Q=>lX (t:=84) (e:=207) (x:=.tmp 49) (ix:=.tmp 50) (len:=(xs.length-(k/64))) (cap:=(xs.length-(k/64))) (i:=i) qO) ?_
   obtain⟨K,B⟩:=yE (((u).set (i) (g/2^(k%64)))[i]?.getD 0)
   refine xqj 52 (yX K) (fun w Q=>by rw[←B];exact gJ (t:=207) (x:=.tmp 51) (Q.2) (j:=i) (by simp only[sQ];omega)) ?_
   obtain rfl:K=g/2^(k%64):=by rw[←B,tW qO];rfl
   refine xqf 4 [eS1 53 A xs.length c,yJ 56 (IntKind.i64.wrap ((i:Int)+((k/64:Nat):Int)))] [] ?_
   rw[yW ((i:Int)+((k/64:Nat):Int)) (((i+(k/64):Nat):Int)) qO]
   refine xqf 1 [(57,.v (yI (IntKind.i64.wrap (((i+(k/64):Nat):Int)+1))))] [] ?_
   rw[show IntKind.i64.wrap ((((i+(k/64):Nat):Int)+1))=((i+(k/64)+1:Nat):Int) by rw[IntKind.wrap_i64];omega]
   refine xqj 58 _ (fun w Q=>wF (t:=84) (e:=207) (x:=.tmp 53) (ix:=.tmp 57) (len:=xs.length) (cap:=c) (i:=i+(k/64)+1) (((Q.1).self.2).ne (j:=i+(k/64)+1) qO) qO) ?_
   obtain⟨m,C⟩:=yE (xs[i+(k/64)+1]?.getD 0)
   refine xqj 59 (yX m) (fun w Q=>by rw[←C];exact wU (t:=207) (x:=.tmp 58) ((Q.1).self.2) (j:=i+(k/64)+1) qO) ?_
   refine xqf 2 [yU 61 (IntKind.u64.wrap (64-((k%64:Nat):Int)))] [] ?_
   rw[show IntKind.u64.wrap ((64-((k%64:Nat):Int)))=((64-(k%64):Nat):Int) by rw[IntKind.wrap_u64];have:=zR;omega]
   refine xqj 62 _ (fun w Q=>Zi2 (t:=207) (x:=.tmp 59) (y:=.tmp 61) (k:=123) (ky:=.u64) (a:=m) (n:=(64-(k%64))) qO) ?_
   have O:=I.step (x:=g) (y:=m) qO (by rw[tC];omega) (by rw[vJ,vO];exact h) (by rw[vJ,show k/64+(i+1)=i+k/64+1 by omega];exact C) (by rw[←h];exact H.getD zP _)
   refine xqj 63 _ (fun w Q=>ZpQ (t:=207) (x:=.tmp 52) (y:=.tmp 62) (k:=207) (a:=((g/2^(k%64)))) (b:=(m*2^(64-(k%64))%W64)) (vN (vG _ _) (by rw[←h];exact H.getD zP _)) (uO _ zP) (ZmN qO (by rw[←h];exact H.getD zP _))) ?_
   refine xqj 64 (.pointer (some ⟨f,i,none⟩)) (fun w Q=>lX (t:=84) (e:=207) (x:=.tmp 49) (ix:=.tmp 50) (len:=(xs.length-(k/64))) (cap:=(xs.length-(k/64))) (i:=i) qO) ?_
   refine xz ?_
   refine jL (t:=207) (x:=.tmp 64) (y:=.tmp 63) f (i) (g/2^(k%64)+m%2^(k%64)*2^(64-k%64)) (fun w=>(Box (fun j=>f≤j) w (fun w=>(zL w (.slice A xs.length c) (val W64 xs)∧zH .u64 w A (xs)))∧Own .u64 207 w f (((u).set (i) (g/2^(k%64))).set (i) (g/2^(k%64)+m%2^(k%64)*2^(64-k%64))))) (fun w Q=>Q.2) (by simp only[sQ];omega) (Or.inl z) (fun w w' Q S T=>⟨((Q.1).fr (S.mono (fun _ _ e=>by rw[e];exact uF _))),T⟩) ?_
   refine xe (xK (zB (zC (xq 1 [yJ 65 (IntKind.i64.wrap ((i:Int)+1))] [] ?_))))
   rw[yW ((i:Int)+1) (((i+1:Nat):Int)) qO]
   refine xr 1 [eS1 0 A xs.length c,eS1 4 none 0 0,yJ 5 (k/64:Nat),yU 6 (k%64:Nat),eS1 7 (yL f) (xs.length-(k/64)) (xs.length-(k/64)),yJ 27 (xs.length-(k/64):Nat),yJ 28 (i+1:Nat)] [] ?_
   refine xe ?_
   exact xC _ qO ⟨(i+1),(((u).set (i) (g/2^(k%64))).set (i) (g/2^(k%64)+m%2^(k%64)*2^(64-k%64))),rfl,rfl,(by rw[List.set_set];exact O),qO,rfl⟩ (fun w Q=>⟨Q.1,Q.2⟩)
  have G:=uC s
  have O:=I.step (x:=g) (y:=0) qO (by rw[tC];omega) (by rw[vJ,vO];exact h) (by rw[vJ,vL qO];rfl) (by rw[←h];exact H.getD zP _)
  rw[nL,sY,tE] at O
  refine zG (xK (zB (zC (xq 1 [yJ 65 (IntKind.i64.wrap ((i:Int)+1))] [] ?_))))
  rw[yW ((i:Int)+1) (((i+1:Nat):Int)) qO]
  refine xq 1 [yJ 28 (i+1:Nat)] [] ?_
  refine xe ?_
  exact xC _ qO ⟨(i+1),((u).set (i) (g/2^(k%64))),rfl,rfl,O,qO,rfl⟩ (fun w Q=>⟨Q.1,Q.2⟩)
 have F:=uC r
 have J:u.length=xs.length-k/64:=by rw[I.1,tC]
 obtain rfl:i=xs.length-k/64:=qO
 have HD:=I
 rw[←tC] at HD
 replace HD:=HD.done
 rw[ZgB xs (k/64) (k%64) H qO,show 64*(k/64)+k%64=k by omega] at HD
 refine xJ (zE (zE (xL (zB (yY (xq 1 [eS1 66 (yL f) (xs.length-(k/64)) (xs.length-(k/64))] [] ?_))))))
 refine xqc _ _ 67 wE _ (fun w R Q=>yM xY (aB Q.2 I.2.1 J HD qO)) fun⟨L,M,N⟩=>?_
 refine xq 1 [eS1 4 L M N] [] ?_
 refine yZ (zJ ?_)
 refine yR (.slice L M N) fun w' R Q=>?_
 exact⟨_,rfl,Q.2,R⟩
theorem fW (neg:Bool)(u:Value)(n:Nat)(w:World)(a:zY w u n):yA 34 #[.bool neg,u] w (lZ w (sg neg n)):=by
 refine (fD neg u n w a).mono ?_
 rintro e d ⟨s,rfl,c,b⟩
 exact⟨_,rfl,zN.signed (a.ext b) c.out,b⟩
theorem zN.opn {w:World}{s:Bool}{A:qA}{l c:Nat}{z:Int}(h:zN w (.agg #[.bool s,.slice A l c]) z):zY w (.slice A l c) z.natAbs∧z=sg s z.natAbs∧(z=0→s=false):=by
 obtain⟨f,g,i,j,a,b,d,e⟩:=h.open
 injection a with a
 simp at a
 obtain⟨rfl,rfl,rfl,rfl⟩:=a
 exact⟨b,d,e⟩
theorem zN.mag {w:World}{s:Bool}{A:qA}{l c:Nat}{z:Int}(h:zN w (.agg #[.bool s,.slice A l c]) z):zY w (.slice A l c) z.natAbs:=h.opn.1
theorem ZrS {w:World}{s:Bool}{A:qA}{l c:Nat}{z:Int}(h:zN w (.agg #[.bool s,.slice A l c]) z):sg (!s) z.natAbs = -z:=by
 obtain⟨_,a,b⟩:=h.opn
 cases s<;>simp[sg] at *<;>omega
theorem wC.neg {x:Int}(h:wC x):wC (-x):=by
 unfold wC at *;rw[Int.natAbs_neg];exact h
theorem ZaT {fn:Func}{t:Tmp}{a:Array Value}{w w':World}{r:Nat}{x y:Value}{z:Int}(b:fn.results=#[.cell t 41])(c:a[t]? = some (.pointer (some ⟨r,0,none⟩)))(d:Blk 41 w' r #[x,y])(e:zN w' (.agg #[x,y]) z)(Q:Ext w w'):bodyPost prog fn (lZ w z) .ret ⟨a,[]⟩ w' :=
 bodyPost_ret (Zak b _ _ r _ _ c d) rfl ⟨_,rfl,e,Q⟩
theorem zN.sneg {w:World}{s:Bool}{A:qA}{l c:Nat}{z:Int}(h:zN w (.agg #[.bool s,.slice A l c]) z)(b:z<0):s=true:=by
 obtain⟨_,a,d⟩:=h.opn
 cases s with
 | true=>rfl
 | false=>simp[sg] at a;omega
theorem zN.spos {w:World}{s:Bool}{A:qA}{l c:Nat}{z:Int}(h:zN w (.agg #[.bool s,.slice A l c]) z)(d:0≤z):s=false:=by
 obtain⟨_,a,b⟩:=h.opn
 cases s with
 | false=>rfl
 | true=>simp[sg] at a;exact b qO
theorem zN.len0 {w:World}{s:Bool}{A:qA}{l c:Nat}{z:Int}(h:zN w (.agg #[.bool s,.slice A l c]) z)(d:z=0):l=0:=by
 obtain⟨e,_,_⟩:=h.opn
 obtain⟨g,i,j,a,_,_,k,f,b⟩:=e
 injection a with _ a
 rw[d] at b
 have:=ZhU f zZ b
 rw[this] at a
 simpa using a
theorem zN.lenp {w:World}{s:Bool}{A:qA}{l c:Nat}{z:Int}(h:zN w (.agg #[.bool s,.slice A l c]) z)(g:z≠0):0<l:=by
 obtain⟨d,_,_⟩:=h.opn
 obtain⟨i,f,j,a,_,_,k,m,b⟩:=d
 injection a with _ a
 rcases uJ l with e|e
 ·rw[e] at a
  have:f=[]:=tG.1 a.symm
  rw[this] at b
  simp at b
  omega
 exact e
theorem zN.quo {w:World}{s t:Bool}{A B:qA}{l c a b:Nat}{x y:Int}(h:zN w (.agg #[.bool s,.slice A l c]) x)(k:zN w (.agg #[.bool t,.slice B a b]) y):sg (s != t) (x.natAbs/y.natAbs)=x.tdiv y∧sg s (x.natAbs%y.natAbs)=x.tmod y:=by
 obtain⟨_,d,f⟩:=h.opn
 obtain⟨_,e,g⟩:=k.opn
 generalize x.natAbs=m at *
 generalize y.natAbs=n at *
 subst d e
 cases s<;>cases t<;>simp[sg,Int.neg_tdiv,Int.tdiv_neg,Int.neg_tmod,Int.tmod_neg]<;>exact (tY qO).symm
def Zef (w:World) (q r:Int) (e:Ending) (w':World):Prop:=∃ u v,e=.returned (.tuple #[u,v])∧zN w' u q∧zN w' v r∧Ext w w'
theorem ZoW {fn:Func}{t h:Tmp}{a:Array Value}{w w':World}{r i:Nat}{x y c d:Value}{z j:Int}(b:fn.results=#[.cell t 41,.cell h 41])(k:a[t]? = some (.pointer (some ⟨r,0,none⟩)))(e:a[h]? = some (.pointer (some ⟨i,0,none⟩)))(l:Blk 41 w' r #[x,y])(f:Blk 41 w' i #[c,d])(m:zN w' (.agg #[x,y]) z)(g:zN w' (.agg #[c,d]) j)(Q:Ext w w'):bodyPost prog fn (Zef w z j) .ret ⟨a,[]⟩ w':=by
 obtain⟨n,o,_⟩:=l.cell2
 obtain⟨k0,k1,_⟩:=f.cell2
 exact bodyPost_ret (v:=.tuple #[.agg #[x,y],.agg #[c,d]]) (by simp[results,b,k,e,go_sem,n,o,k0,k1]) rfl ⟨_,_,rfl,m,g,Q⟩
theorem ZgR {q:Rat}(h:¬ q.den=1):denF q≠0:=by rw[fJ h];have:=q.den_nz;omega
theorem Zfc (a:Value)(x:Int)(w:World)(ha:zN w a x) :
 yA 76 #[a] w (lZ w (-x)):=by
 obtain⟨A,C,D,E,rfl⟩:=ha.shp
 have F2:Hid (zN w (.agg #[.bool A,.slice C D E]) (x)):=ha
 clear ha
 have F:=zh (ZrS F2.out)
 go_enter func76,ntmps76
 go_wp2_with fail
 generalize s:World.alloc (World.alloc w _) _=w5
 obtain⟨d,f,g⟩:=bZ s
 clear s
 have B3:=zh d
 have B4:=zh f
 clear d f
 replace F2:=zh (F2.out.ext g)
 have HE:=zh g
 clear g
 have F6:Hid (zY w5 (.slice C D E) ((x).natAbs)):=F2.out.mag
 refine (fW ((!A)) _ _ _ F6.out).mono ?_
 rintro e t ⟨_,rfl,B,r⟩
 obtain⟨u,v,y,z,rfl⟩:=B.shp
 replace B3:=zh (B3.out.ext r)
 replace B4:=zh (B4.out.ext r)
 replace F2:=zh (F2.out.ext r)
 replace F6:=zh (F6.out.ext r)
 replace HE:=zh (HE.out.trans r)
 have F9:Hid (zN t (.agg #[.bool u,.slice v y z]) (sg ((!A)) ((x).natAbs))):=B
 clear r B
 obtain⟨h,j,k,l⟩:=B3.out.cell2
 obtain⟨m,n,o,q⟩:=B4.out.cell2
 go_wp2
 clear h j k l m n o q
 have b:Fr (fun i=>i=(w.heap.size+1)) t ((t.setCell ⟨(w.heap.size+1),0,none⟩ (.bool u)).setCell ⟨(w.heap.size+1),1,none⟩ (.slice v y z)):=(((Fr.refl (fun i=>i=(w.heap.size+1)) _).setCell (p:=⟨(w.heap.size+1),0,none⟩) (Or.inl rfl) _).setCell (p:=⟨(w.heap.size+1),1,none⟩) (Or.inl rfl) _)
 replace F2:=zh (F2.out.oth B4.out lQ b)
 replace F6:=zh (F6.out.oth B4.out lQ b)
 replace F9:=zh (F9.out.oth B4.out lQ b)
 replace B3:=zh (B3.out.fr b (by first|omega | (have:=B3.out.lt;have:=B4.out.lt;omega)))
 replace HE:=zh (HE.out.next b (fun i hi e=>by first|omega | (have:=HE.out.size;have:=B4.out.lt;omega)))
 have c:Blk 41 ((t.setCell ⟨(w.heap.size+1),0,none⟩ (.bool u)).setCell ⟨(w.heap.size+1),1,none⟩ (.slice v y z)) (w.heap.size+1) #[.bool u,.slice v y z]:=((B4.out.set_ 0 _).set_ 1 _)
 generalize ((t.setCell ⟨(w.heap.size+1),0,none⟩ (.bool u)).setCell ⟨(w.heap.size+1),1,none⟩ (.slice v y z))=w12 at *
 replace B4:=zh c;clear c b
 exact ZaT rfl rfl B4.out (by have:=F9.out;rw[F.out] at this;exact this) HE.out
theorem ZoX (a b:Value)(x y:Int)(w:World)(ha:zN w a x)(Z:zN w b y)(hx:wC x)(hy:wC y) :
 yA 176 #[a,b] w (lZ w (x-y)):=by
 obtain⟨N,O,P,Q,rfl⟩:=ha.shp
 have F2:Hid (zN w (.agg #[.bool N,.slice O P Q]) (x)):=ha
 clear ha
 obtain⟨R,S,T,U,rfl⟩:=Z.shp
 have F4:Hid (zN w (.agg #[.bool R,.slice S T U]) (y)):=Z
 clear Z
 have Hx:=zh hx
 have Y:=zh hy
 clear hx hy
 go_enter func176,ntmps176
 go_wp2_with fail
 generalize V:World.alloc (World.alloc (World.alloc w _) _) _=w8
 obtain⟨t,u,v,s⟩:=ZgN V
 clear V
 have B5:=zh t
 have B6:=zh u
 have B7:=zh v
 clear t u v
 replace F2:=zh (F2.out.ext s)
 replace F4:=zh (F4.out.ext s)
 have HE:=zh s
 clear s
 refine ZeG 4 (fun f=>Blk 41 f w.heap.size #[.bool N,.slice O P Q]∧Blk 41 f (w.heap.size+1) #[.bool R,.slice S T U]∧Blk 41 f (w.heap.size+1+1) #[.bool false,.slice none 0 0]) zQ ?_
 replace B5:=zh (B5.out.ext (Fr.refl _ _).drew)
 replace B6:=zh (B6.out.ext (Fr.refl _ _).drew)
 replace B7:=zh (B7.out.ext (Fr.refl _ _).drew)
 replace F2:=zh (F2.out.ext (Fr.refl _ _).drew)
 replace F4:=zh (F4.out.ext (Fr.refl _ _).drew)
 replace HE:=zh (HE.out.trans (Fr.refl _ _).drew)
 generalize w8.drew=w9 at *
 have k:=(⟨B5.out,B6.out,B7.out⟩:(fun f=>Blk 41 f w.heap.size #[.bool N,.slice O P Q]∧Blk 41 f (w.heap.size+1) #[.bool R,.slice S T U]∧Blk 41 f (w.heap.size+1+1) #[.bool false,.slice none 0 0]) w9)
 refine gP 0 rfl qK (fun _ _ _ h=>h) k (fun _=>Zhj (g:=w.heap.size) (off:=0) (x:=.bool N) (y:=.slice O P Q) rfl rfl qK (fun _ h=>Blk.two (h.1) 0 rfl rfl)) (fun k=>?_)
 refine gP 1 rfl qK (fun _ _ _ h=>h) k (fun _=>Zhj (g:=(w.heap.size+1)) (off:=0) (x:=.bool R) (y:=.slice S T U) rfl rfl qK (fun _ h=>Blk.two (h.2.1) 0 rfl rfl)) (fun k=>?_)
 refine ZcA 2 rfl qK rfl (fun K W=>?_)
 go_simp
 clear k
 refine (Zfc _ (y) _ F4.out).mono ?_
 rintro e X ⟨_,rfl,z,d⟩
 obtain⟨a0,b0,c0,d0,rfl⟩:=z.shp
 replace B5:=zh (B5.out.ext d)
 replace B6:=zh (B6.out.ext d)
 replace B7:=zh (B7.out.ext d)
 replace F2:=zh (F2.out.ext d)
 replace F4:=zh (F4.out.ext d)
 replace HE:=zh (HE.out.trans d)
 have F12:Hid (zN X (.agg #[.bool a0,.slice b0 c0 d0]) (-(y))):=z
 clear d z
 have k:=(⟨B5.out,B6.out,B7.out⟩:(fun f=>Blk 41 f w.heap.size #[.bool N,.slice O P Q]∧Blk 41 f (w.heap.size+1) #[.bool R,.slice S T U]∧Blk 41 f (w.heap.size+1+1) #[.bool false,.slice none 0 0]) X)
 refine W _ _ k ?_
 clear W
 refine ZcA 3 rfl qK rfl (fun K W=>?_)
 go_simp
 clear k
 refine (ZiU _ _ (x) (-(y)) _ F2.out F12.out (by first|exact Hx.out|exact Y.out|exact wC.neg Y.out|exact Hx'.out|exact Hy'.out) (by first|exact Hx.out|exact Y.out|exact wC.neg Y.out|exact Hx'.out|exact Hy'.out)).mono ?_
 rintro e j ⟨_,rfl,z,d⟩
 obtain⟨m,n,o,q,rfl⟩:=z.shp
 replace B5:=zh (B5.out.ext d)
 replace B6:=zh (B6.out.ext d)
 replace B7:=zh (B7.out.ext d)
 replace F2:=zh (F2.out.ext d)
 replace F4:=zh (F4.out.ext d)
 replace F12:=zh (F12.out.ext d)
 replace HE:=zh (HE.out.trans d)
 have F15:Hid (zN j (.agg #[.bool m,.slice n o q]) ((x)+(-(y)))):=z
 clear d z
 have k:=(⟨B5.out,B6.out,B7.out⟩:(fun f=>Blk 41 f w.heap.size #[.bool N,.slice O P Q]∧Blk 41 f (w.heap.size+1) #[.bool R,.slice S T U]∧Blk 41 f (w.heap.size+1+1) #[.bool false,.slice none 0 0]) j)
 refine W _ _ k ?_
 clear W
 refine ZiN (l:=[_]) 4 rfl qK ?_
 clear k
 obtain⟨A,B,C,D⟩:=B5.out.cell2
 obtain⟨E,F,G,H⟩:=B6.out.cell2
 obtain⟨I,J,L,M⟩:=B7.out.cell2
 go_wp2
 clear A B C D E F G H I J L M
 have c:Fr (fun i=>i=(w.heap.size+1+1)) j ((j.setCell ⟨(w.heap.size+1+1),0,none⟩ (.bool m)).setCell ⟨(w.heap.size+1+1),1,none⟩ (.slice n o q)):=(((Fr.refl (fun i=>i=(w.heap.size+1+1)) _).setCell (p:=⟨(w.heap.size+1+1),0,none⟩) (Or.inl rfl) _).setCell (p:=⟨(w.heap.size+1+1),1,none⟩) (Or.inl rfl) _)
 replace F2:=zh (F2.out.oth B7.out lQ c)
 replace F4:=zh (F4.out.oth B7.out lQ c)
 replace F12:=zh (F12.out.oth B7.out lQ c)
 replace F15:=zh (F15.out.oth B7.out lQ c)
 replace B5:=zh (B5.out.fr c (by first|omega | (have:=B5.out.lt;have:=B7.out.lt;omega)))
 replace B6:=zh (B6.out.fr c (by first|omega | (have:=B6.out.lt;have:=B7.out.lt;omega)))
 replace HE:=zh (HE.out.next c (fun i hi e=>by first|omega | (have:=HE.out.size;have:=B7.out.lt;omega)))
 have r:Blk 41 ((j.setCell ⟨(w.heap.size+1+1),0,none⟩ (.bool m)).setCell ⟨(w.heap.size+1+1),1,none⟩ (.slice n o q)) (w.heap.size+1+1) #[.bool m,.slice n o q]:=((B7.out.set_ 0 _).set_ 1 _)
 generalize ((j.setCell ⟨(w.heap.size+1+1),0,none⟩ (.bool m)).setCell ⟨(w.heap.size+1+1),1,none⟩ (.slice n o q))=w19 at *
 replace B7:=zh r;clear r c
 exact ZaT rfl rfl B7.out (by rw[Int.sub_eq_add_neg];exact F15.out) HE.out
theorem Znk (a:Value)(x:Int)(w:World)(ha:zN w a x)(e:x<0) :
 yA 35 #[a] w (RetV w (.int .i64 (-1))):=by
 obtain⟨f,g,h,i,rfl⟩:=ha.shp
 have F2:Hid (zN w (.agg #[.bool f,.slice g h i]) (x)):=ha
 clear ha
 obtain rfl:f=true:=F2.out.sneg e
 clear e
 go_enter func35,ntmps35
 go_wp2
 generalize d:World.alloc w _=w4
 obtain⟨b,c⟩:=gW d
 clear d
 have k:=zh b
 clear b
 replace F2:=zh (F2.out.ext c)
 have j:=zh c
 clear c
 go_ret
 exact⟨rfl,j.out⟩
theorem Zl0 (a:Value)(x:Int)(w:World)(ha:zN w a x)(e:x=0) :
 yA 35 #[a] w (RetV w (.int .i64 (0))):=by
 obtain⟨f,h,g,i,rfl⟩:=ha.shp
 have F2:Hid (zN w (.agg #[.bool f,.slice h g i]) (x)):=ha
 clear ha
 obtain rfl:f=false:=F2.out.spos qO
 obtain rfl:g=0:=F2.out.len0 e
 clear e
 go_enter func35,ntmps35
 go_wp2
 generalize d:World.alloc w _=w4
 obtain⟨b,c⟩:=gW d
 clear d
 have k:=zh b
 clear b
 replace F2:=zh (F2.out.ext c)
 have j:=zh c
 clear c
 go_ret
 exact⟨rfl,j.out⟩
theorem Znl (a:Value)(x:Int)(w:World)(ha:zN w a x)(g:0<x) :
 yA 35 #[a] w (RetV w (.int .i64 (1))):=by
 obtain⟨e,h,f,i,rfl⟩:=ha.shp
 have F2:Hid (zN w (.agg #[.bool e,.slice h f i]) (x)):=ha
 clear ha
 obtain rfl:e=false:=F2.out.spos qO
 have k:((f:Int) == 0)=false:=by have:=F2.out.lenp qO;simp;omega
 clear g
 go_enter func35,ntmps35
 go_wp2
 generalize d:World.alloc w _=w4
 obtain⟨b,c⟩:=gW d
 clear d
 have l:=zh b
 clear b
 replace F2:=zh (F2.out.ext c)
 have j:=zh c
 clear c
 go_ret
 exact⟨rfl,j.out⟩
theorem dU (a:Value)(x:Int)(w:World)(ha:zN w a x):yA 35 #[a] w (RetV w (.int .i64 x.sign)):=by
 rcases Int.lt_trichotomy x 0 with h|h|h
 ·rw[pA h];exact Znk a x w ha h
 ·rw[h,Int.sign_zero];exact Zl0 a x w ha h
 rw[qB h];exact Znl a x w ha h
theorem ZoY (a b:Value)(x y:Int)(w:World)(ha:zN w a x)(F:zN w b y)(I:wC x)(J:wC y) :
 yA 131 #[a,b] w (RetV w (.int .i64 (x-y).sign)):=by
 obtain⟨M,N,O,P,rfl⟩:=ha.shp
 have F2:Hid (zN w (.agg #[.bool M,.slice N O P]) (x)):=ha
 clear ha
 obtain⟨Q,R,S,T,rfl⟩:=F.shp
 have F4:Hid (zN w (.agg #[.bool Q,.slice R S T]) (y)):=F
 clear F
 have K:=zh I
 have E:=zh J
 clear I J
 obtain⟨r,G⟩:=yE ((x-y).sign)
 rw[G]
 have U:=zh G
 clear G
 go_enter func131,ntmps131
 go_wp2_with fail
 generalize D:World.alloc (World.alloc w _) _=w7
 obtain⟨g,h,f⟩:=bZ D
 clear D
 have B5:=zh g
 have B6:=zh h
 clear g h
 replace F2:=zh (F2.out.ext f)
 replace F4:=zh (F4.out.ext f)
 have HE:=zh f
 clear f
 refine (ZoX _ _ (x) (y) _ F2.out F4.out (by first|exact K.out|exact E.out|exact wC.neg E.out|exact Hx'.out|exact Hy'.out) (by first|exact K.out|exact E.out|exact wC.neg E.out|exact Hx'.out|exact Hy'.out)).mono ?_
 rintro e V ⟨_,rfl,H,d⟩
 obtain⟨W,X,Y,Z,rfl⟩:=H.shp
 replace B5:=zh (B5.out.ext d)
 replace B6:=zh (B6.out.ext d)
 replace F2:=zh (F2.out.ext d)
 replace F4:=zh (F4.out.ext d)
 replace HE:=zh (HE.out.trans d)
 have F10:Hid (zN V (.agg #[.bool W,.slice X Y Z]) ((x)-(y))):=H
 clear d H
 obtain⟨i,j,k,l⟩:=B5.out.cell2
 obtain⟨m,n,o,p⟩:=B6.out.cell2
 go_wp2_with fail
 clear i j k l m n o p
 refine (dU _ ((x)-(y)) _ F10.out).mono ?_
 obtain⟨L,c⟩:=yE (((x)-(y)).sign)
 rw[c];have q:=zh c;clear c
 rintro e a0 ⟨rfl,d⟩
 replace B5:=zh (B5.out.ext d)
 replace B6:=zh (B6.out.ext d)
 replace F2:=zh (F2.out.ext d)
 replace F4:=zh (F4.out.ext d)
 replace F10:=zh (F10.out.ext d)
 replace HE:=zh (HE.out.trans d)
 clear d
 obtain⟨s,t,u,v⟩:=B5.out.cell2
 obtain⟨z,A,B,C⟩:=B6.out.cell2
 go_wp2
 clear s t u v z A B C
 go_ret
 exact⟨by rw[←U.out,← q.out];rfl,HE.out⟩
theorem bF (a b:Value)(x y:Int)(w:World)(ha:zN w a x)(hb:zN w b y)(hx:wC x)(hy:wC y)(h0:y≠0) :
 yA 79 #[a,b] w (Zef w (x.tdiv y) (x.tmod y)):=by
 obtain⟨o,A1,l1,c1,rfl⟩:=ha.shp
 have F2:Hid (zN w (.agg #[.bool o,.slice A1 l1 c1]) (x)):=ha
 clear ha
 obtain⟨C,A3,l3,c3,rfl⟩:=hb.shp
 have F4:Hid (zN w (.agg #[.bool C,.slice A3 l3 c3]) (y)):=hb
 clear hb
 have Hx:Hid (ml x.natAbs≤17592186044416):=hx
 have Hy:Hid (ml y.natAbs≤17592186044416):=hy
 have H0:Hid (0<y.natAbs):=by unfold Hid;omega
 have HQ:=zh (F2.out.quo F4.out)
 clear hx hy h0
 go_enter func79,ntmps79
 go_wp2_with fail
 generalize x0:World.alloc (World.alloc (World.alloc (World.alloc w _) _) _) _=w9
 obtain⟨E,F,G,H,D⟩:=Zqt x0
 clear x0
 have B5:=zh E
 have B6:=zh F
 have B7:=zh G
 have B8:=zh H
 clear E F G H
 replace F2:=zh (F2.out.ext D)
 replace F4:=zh (F4.out.ext D)
 have HE:=zh D
 clear D
 have F10:Hid (zY w9 (.slice A1 l1 c1) ((x).natAbs)):=F2.out.mag
 have F11:Hid (zY w9 (.slice A3 l3 c3) ((y).natAbs)):=F4.out.mag
 refine (Zf6 _ _ ((x).natAbs) ((y).natAbs) _ F10.out F11.out Hx.out Hy.out H0.out).mono ?_
 rintro e P ⟨_,_,rfl,hq,hr,f⟩
 obtain⟨I,J,L,rfl⟩:=hq.slice
 obtain⟨M,N,O,rfl⟩:=hr.slice
 replace B5:=zh (B5.out.ext f)
 replace B6:=zh (B6.out.ext f)
 replace B7:=zh (B7.out.ext f)
 replace B8:=zh (B8.out.ext f)
 replace F2:=zh (F2.out.ext f)
 replace F4:=zh (F4.out.ext f)
 replace F10:=zh (F10.out.ext f)
 replace F11:=zh (F11.out.ext f)
 replace HE:=zh (HE.out.trans f)
 have F14:Hid (zY P (.slice I J L) (((x).natAbs)/((y).natAbs))):=hq
 have F15:Hid (zY P (.slice M N O) (((x).natAbs)%((y).natAbs))):=hr
 clear f hq hr
 obtain⟨Q,R,S,T⟩:=B5.out.cell2
 obtain⟨U,V,W,X⟩:=B6.out.cell2
 obtain⟨Y,Z,a0,b0⟩:=B7.out.cell2
 obtain⟨c0,d0,e0,f0⟩:=B8.out.cell2
 go_wp2_with fail
 clear Q R S T U V W X Y Z a0 b0 c0 d0 e0 f0
 refine ZeG 11 (fun m=>Blk 41 m w.heap.size #[.bool o,.slice A1 l1 c1]∧Blk 41 m (w.heap.size+1) #[.bool C,.slice A3 l3 c3]∧Blk 41 m (w.heap.size+1+1) #[.bool false,.slice none 0 0]∧Blk 41 m (w.heap.size+1+1+1) #[.bool false,.slice none 0 0]) zQ ?_
 replace B5:=zh (B5.out.ext (Fr.refl _ _).drew)
 replace B6:=zh (B6.out.ext (Fr.refl _ _).drew)
 replace B7:=zh (B7.out.ext (Fr.refl _ _).drew)
 replace B8:=zh (B8.out.ext (Fr.refl _ _).drew)
 replace F2:=zh (F2.out.ext (Fr.refl _ _).drew)
 replace F4:=zh (F4.out.ext (Fr.refl _ _).drew)
 replace F10:=zh (F10.out.ext (Fr.refl _ _).drew)
 replace F11:=zh (F11.out.ext (Fr.refl _ _).drew)
 replace F14:=zh (F14.out.ext (Fr.refl _ _).drew)
 replace F15:=zh (F15.out.ext (Fr.refl _ _).drew)
 replace HE:=zh (HE.out.trans (Fr.refl _ _).drew)
 generalize P.drew=w20 at *
 have j:=(⟨B5.out,B6.out,B7.out,B8.out⟩:(fun m=>Blk 41 m w.heap.size #[.bool o,.slice A1 l1 c1]∧Blk 41 m (w.heap.size+1) #[.bool C,.slice A3 l3 c3]∧Blk 41 m (w.heap.size+1+1) #[.bool false,.slice none 0 0]∧Blk 41 m (w.heap.size+1+1+1) #[.bool false,.slice none 0 0]) w20)
 refine gP 0 rfl qK (fun _ _ _ h=>h) j (fun _=>ZcG (g:=w.heap.size) (off:=0) rfl rfl qK) (fun j=>?_)
 refine gP 1 rfl qK (fun _ _ _ h=>h) j (fun _=>ZgO (g:=w.heap.size) (off:=0) (x:=.bool o) rfl rfl qK (fun _ h=>Blk.one' (h.1) 0 rfl)) (fun j=>?_)
 refine gP 2 rfl qK (fun _ _ _ h=>h) j (fun _=>ZcG (g:=(w.heap.size+1)) (off:=0) rfl rfl qK) (fun j=>?_)
 refine gP 3 rfl qK (fun _ _ _ h=>h) j (fun _=>ZgO (g:=(w.heap.size+1)) (off:=0) (x:=.bool C) rfl rfl qK (fun _ h=>Blk.one' (h.2.1) 0 rfl)) (fun j=>?_)
 refine gP 4 rfl qK (fun _ _ _ h=>h) j (fun _=>ZoJ (b:=o) (c:=C) rfl rfl qK qK) (fun j=>?_)
 refine gP 5 rfl qK (fun _ _ _ h=>h) j (fun _=>ym (v:=.slice I J L) rfl rfl qK) (fun j=>?_)
 refine gP 7 rfl qK (fun _ _ _ h=>h) j (fun _=>ZcG (g:=w.heap.size) (off:=0) rfl rfl qK) (fun j=>?_)
 refine gP 8 rfl qK (fun _ _ _ h=>h) j (fun _=>ZgO (g:=w.heap.size) (off:=0) (x:=.bool o) rfl rfl qK (fun _ h=>Blk.one' (h.1) 0 rfl)) (fun j=>?_)
 refine gP 9 rfl qK (fun _ _ _ h=>h) j (fun _=>ym (v:=.slice M N O) rfl rfl qK) (fun j=>?_)
 refine ZcA 6 rfl qK rfl (fun K hK=>?_)
 go_simp
 clear j
 refine (fW ((o != C)) _ _ _ F14.out).mono ?_
 rintro e y0 ⟨_,rfl,hI,f⟩
 obtain⟨q,r,s,t,rfl⟩:=hI.shp
 replace B5:=zh (B5.out.ext f)
 replace B6:=zh (B6.out.ext f)
 replace B7:=zh (B7.out.ext f)
 replace B8:=zh (B8.out.ext f)
 replace F2:=zh (F2.out.ext f)
 replace F4:=zh (F4.out.ext f)
 replace F10:=zh (F10.out.ext f)
 replace F11:=zh (F11.out.ext f)
 replace F14:=zh (F14.out.ext f)
 replace F15:=zh (F15.out.ext f)
 replace HE:=zh (HE.out.trans f)
 have F23:Hid (zN y0 (.agg #[.bool q,.slice r s t]) (sg ((o != C)) (((x).natAbs)/((y).natAbs)))):=hI
 clear f hI
 have j:=(⟨B5.out,B6.out,B7.out,B8.out⟩:(fun m=>Blk 41 m w.heap.size #[.bool o,.slice A1 l1 c1]∧Blk 41 m (w.heap.size+1) #[.bool C,.slice A3 l3 c3]∧Blk 41 m (w.heap.size+1+1) #[.bool false,.slice none 0 0]∧Blk 41 m (w.heap.size+1+1+1) #[.bool false,.slice none 0 0]) y0)
 refine hK _ _ j ?_
 clear hK
 refine ZcA 10 rfl qK rfl (fun K hK=>?_)
 go_simp
 clear j
 refine (fW (o) _ _ _ F15.out).mono ?_
 rintro e n ⟨_,rfl,hI,f⟩
 obtain⟨u,z,A,B,rfl⟩:=hI.shp
 replace B5:=zh (B5.out.ext f)
 replace B6:=zh (B6.out.ext f)
 replace B7:=zh (B7.out.ext f)
 replace B8:=zh (B8.out.ext f)
 replace F2:=zh (F2.out.ext f)
 replace F4:=zh (F4.out.ext f)
 replace F10:=zh (F10.out.ext f)
 replace F11:=zh (F11.out.ext f)
 replace F14:=zh (F14.out.ext f)
 replace F15:=zh (F15.out.ext f)
 replace F23:=zh (F23.out.ext f)
 replace HE:=zh (HE.out.trans f)
 have F26:Hid (zN n (.agg #[.bool u,.slice z A B]) (sg (o) (((x).natAbs)%((y).natAbs)))):=hI
 clear f hI
 have j:=(⟨B5.out,B6.out,B7.out,B8.out⟩:(fun m=>Blk 41 m w.heap.size #[.bool o,.slice A1 l1 c1]∧Blk 41 m (w.heap.size+1) #[.bool C,.slice A3 l3 c3]∧Blk 41 m (w.heap.size+1+1) #[.bool false,.slice none 0 0]∧Blk 41 m (w.heap.size+1+1+1) #[.bool false,.slice none 0 0]) n)
 refine hK _ _ j ?_
 clear hK
 refine ZiN (l:=[_,_]) 11 rfl qK ?_
 clear j
 obtain⟨g0,i0,j0,k0⟩:=B5.out.cell2
 obtain⟨l0,m0,n0,o0⟩:=B6.out.cell2
 obtain⟨p0,q0,r0,s0⟩:=B7.out.cell2
 obtain⟨t0,u0,v0,w0⟩:=B8.out.cell2
 go_wp2
 clear g0 i0 j0 k0 l0 m0 n0 o0 p0 q0 r0 s0 t0 u0 v0 w0
 have d:Fr (fun i=>i=(w.heap.size+1+1)) n ((n.setCell ⟨(w.heap.size+1+1),0,none⟩ (.bool q)).setCell ⟨(w.heap.size+1+1),1,none⟩ (.slice r s t)):=(((Fr.refl (fun i=>i=(w.heap.size+1+1)) _).setCell (p:=⟨(w.heap.size+1+1),0,none⟩) (Or.inl rfl) _).setCell (p:=⟨(w.heap.size+1+1),1,none⟩) (Or.inl rfl) _)
 replace F2:=zh (F2.out.oth B7.out lQ d)
 replace F4:=zh (F4.out.oth B7.out lQ d)
 replace F10:=zh (F10.out.oth B7.out lQ d)
 replace F11:=zh (F11.out.oth B7.out lQ d)
 replace F14:=zh (F14.out.oth B7.out lQ d)
 replace F15:=zh (F15.out.oth B7.out lQ d)
 replace F23:=zh (F23.out.oth B7.out lQ d)
 replace F26:=zh (F26.out.oth B7.out lQ d)
 replace B5:=zh (B5.out.fr d (by first|omega | (have:=B5.out.lt;have:=B7.out.lt;omega)))
 replace B6:=zh (B6.out.fr d (by first|omega | (have:=B6.out.lt;have:=B7.out.lt;omega)))
 replace B8:=zh (B8.out.fr d (by first|omega | (have:=B8.out.lt;have:=B7.out.lt;omega)))
 replace HE:=zh (HE.out.next d (fun i hi e=>by first|omega | (have:=HE.out.size;have:=B7.out.lt;omega)))
 have k:Blk 41 ((n.setCell ⟨(w.heap.size+1+1),0,none⟩ (.bool q)).setCell ⟨(w.heap.size+1+1),1,none⟩ (.slice r s t)) (w.heap.size+1+1) #[.bool q,.slice r s t]:=((B7.out.set_ 0 _).set_ 1 _)
 generalize ((n.setCell ⟨(w.heap.size+1+1),0,none⟩ (.bool q)).setCell ⟨(w.heap.size+1+1),1,none⟩ (.slice r s t))=w31 at *
 replace B7:=zh k;clear k d
 have d:Fr (fun i=>i=(w.heap.size+1+1+1)) w31 ((w31.setCell ⟨(w.heap.size+1+1+1),0,none⟩ (.bool u)).setCell ⟨(w.heap.size+1+1+1),1,none⟩ (.slice z A B)):=(((Fr.refl (fun i=>i=(w.heap.size+1+1+1)) _).setCell (p:=⟨(w.heap.size+1+1+1),0,none⟩) (Or.inl rfl) _).setCell (p:=⟨(w.heap.size+1+1+1),1,none⟩) (Or.inl rfl) _)
 replace F2:=zh (F2.out.oth B8.out lQ d)
 replace F4:=zh (F4.out.oth B8.out lQ d)
 replace F10:=zh (F10.out.oth B8.out lQ d)
 replace F11:=zh (F11.out.oth B8.out lQ d)
 replace F14:=zh (F14.out.oth B8.out lQ d)
 replace F15:=zh (F15.out.oth B8.out lQ d)
 replace F23:=zh (F23.out.oth B8.out lQ d)
 replace F26:=zh (F26.out.oth B8.out lQ d)
 replace B5:=zh (B5.out.fr d (by first|omega | (have:=B5.out.lt;have:=B8.out.lt;omega)))
 replace B6:=zh (B6.out.fr d (by first|omega | (have:=B6.out.lt;have:=B8.out.lt;omega)))
 replace B7:=zh (B7.out.fr d (by first|omega | (have:=B7.out.lt;have:=B8.out.lt;omega)))
 replace HE:=zh (HE.out.next d (fun i hi e=>by first|omega | (have:=HE.out.size;have:=B8.out.lt;omega)))
 have k:Blk 41 ((w31.setCell ⟨(w.heap.size+1+1+1),0,none⟩ (.bool u)).setCell ⟨(w.heap.size+1+1+1),1,none⟩ (.slice z A B)) (w.heap.size+1+1+1) #[.bool u,.slice z A B]:=((B8.out.set_ 0 _).set_ 1 _)
 generalize ((w31.setCell ⟨(w.heap.size+1+1+1),0,none⟩ (.bool u)).setCell ⟨(w.heap.size+1+1+1),1,none⟩ (.slice z A B))=w32 at *
 replace B8:=zh k;clear k d
 exact ZoW rfl rfl rfl B7.out B8.out (by rw[←HQ.out.1];exact F23.out) (by rw[←HQ.out.2];exact F26.out) HE.out
theorem ZoZ (a:Value)(q:Rat)(w:World)(ha:xD w a q)(F:q.den=1) :
 yA 124 #[a] w (lZ w (q.den:Int)):=by
 obtain⟨I,J,K,L,t1,M,G,N,rfl⟩:=ha.shp
 have F2:Hid (xD w (.agg #[.bool I,.slice J K L,.bool t1,.slice M G N]) (q)):=ha
 clear ha
 have H:=F2.out.den
 obtain rfl:G=0:=H.len0 (dS F)
 have O:Hid ((q.den:Int)=1):=by unfold Hid;omega
 clear H F
 go_enter func124,ntmps124
 go_wp2_with fail
 generalize m:World.alloc (World.alloc w _) _=w5
 obtain⟨d,f,g⟩:=bZ m
 clear m
 have B3:=zh d
 have B4:=zh f
 clear d f
 replace F2:=zh (F2.out.ext g)
 have HE:=zh g
 clear g
 refine (aO 1 _ qO qO).mono ?_
 rintro e n ⟨_,rfl,E,o⟩
 obtain⟨r,s,t,u,rfl⟩:=E.shp
 replace B3:=zh (B3.out.ext o)
 replace B4:=zh (B4.out.ext o)
 replace F2:=zh (F2.out.ext o)
 replace HE:=zh (HE.out.trans o)
 have F8:Hid (zN n (.agg #[.bool r,.slice s t u]) (1)):=E
 clear o E
 obtain⟨v,x,y,z,A,B,C,D⟩:=B3.out.cell4
 obtain⟨h,j,k,l⟩:=B4.out.cell2
 go_wp2
 clear v x y z A B C D h j k l
 have b:Fr (fun i=>i=(w.heap.size+1)) n ((n.setCell ⟨(w.heap.size+1),0,none⟩ (.bool r)).setCell ⟨(w.heap.size+1),1,none⟩ (.slice s t u)):=(((Fr.refl (fun i=>i=(w.heap.size+1)) _).setCell (p:=⟨(w.heap.size+1),0,none⟩) (Or.inl rfl) _).setCell (p:=⟨(w.heap.size+1),1,none⟩) (Or.inl rfl) _)
 replace F2:=zh (F2.out.oth B4.out lQ b)
 replace F8:=zh (F8.out.oth B4.out lQ b)
 replace B3:=zh (B3.out.fr b (by first|omega | (have:=B3.out.lt;have:=B4.out.lt;omega)))
 replace HE:=zh (HE.out.next b (fun i hi e=>by first|omega | (have:=HE.out.size;have:=B4.out.lt;omega)))
 have c:Blk 41 ((n.setCell ⟨(w.heap.size+1),0,none⟩ (.bool r)).setCell ⟨(w.heap.size+1),1,none⟩ (.slice s t u)) (w.heap.size+1) #[.bool r,.slice s t u]:=((B4.out.set_ 0 _).set_ 1 _)
 generalize ((n.setCell ⟨(w.heap.size+1),0,none⟩ (.bool r)).setCell ⟨(w.heap.size+1),1,none⟩ (.slice s t u))=w11 at *
 replace B4:=zh c;clear c b
 exact ZaT rfl rfl B4.out (by rw[O.out];exact F8.out) HE.out
theorem Zo0 (a:Value)(q:Rat)(w:World)(ha:xD w a q)(f:¬ q.den=1) :
 yA 124 #[a] w (lZ w (q.den:Int)):=by
 obtain⟨k,l,m,n,t1,h,g,i,rfl⟩:=ha.shp
 have F2:Hid (xD w (.agg #[.bool k,.slice l m n,.bool t1,.slice h g i]) (q)):=ha
 clear ha
 have j:=F2.out.den
 have t:((g:Int) == 0)=false:=by have:=j.lenp (ZgR f);simp;omega
 have o:=zh (fJ f)
 clear j f
 go_enter func124,ntmps124
 go_wp2
 generalize e:World.alloc (World.alloc w _) _=w5
 obtain⟨b,c,d⟩:=bZ e
 clear e
 have u:=zh b
 have p:=zh c
 clear b c
 replace F2:=zh (F2.out.ext d)
 have r:=zh d
 clear d
 have s:Hid (zN w5 (.agg #[.bool t1,.slice h g i]) (denF (q))):=F2.out.den
 exact ZaT rfl rfl p.out (by rw[←o.out];exact s.out) r.out
theorem Zo1 (a:Value)(q:Rat)(w:World)(ha:xD w a q):yA 124 #[a] w (lZ w (q.den:Int)):=by
 by_cases h:q.den=1
 ·exact ZoZ a q w ha h
 exact Zo0 a q w ha h
theorem Zo2 (a:Value)(q:Rat)(w:World)(ha:xD w a q) :
 yA 81 #[a] w (lZ w (q.den:Int)):=by
 obtain⟨F,G,H,I,t1,J,K,L,rfl⟩:=ha.shp
 have F2:Hid (xD w (.agg #[.bool F,.slice G H I,.bool t1,.slice J K L]) (q)):=ha
 clear ha
 go_enter func81,ntmps81
 go_wp2_with fail
 generalize m:World.alloc (World.alloc w _) _=w5
 obtain⟨d,f,g⟩:=bZ m
 clear m
 have B3:=zh d
 have B4:=zh f
 clear d f
 replace F2:=zh (F2.out.ext g)
 have HE:=zh g
 clear g
 refine (Zo1 _ (q) _ F2.out).mono ?_
 rintro e n ⟨_,rfl,E,o⟩
 obtain⟨r,s,t,u,rfl⟩:=E.shp
 replace B3:=zh (B3.out.ext o)
 replace B4:=zh (B4.out.ext o)
 replace F2:=zh (F2.out.ext o)
 replace HE:=zh (HE.out.trans o)
 have F8:Hid (zN n (.agg #[.bool r,.slice s t u]) (((q).den:Int))):=E
 clear o E
 obtain⟨v,x,y,z,A,B,C,D⟩:=B3.out.cell4
 obtain⟨h,j,k,l⟩:=B4.out.cell2
 go_wp2
 clear v x y z A B C D h j k l
 have b:Fr (fun i=>i=(w.heap.size+1)) n ((n.setCell ⟨(w.heap.size+1),0,none⟩ (.bool r)).setCell ⟨(w.heap.size+1),1,none⟩ (.slice s t u)):=(((Fr.refl (fun i=>i=(w.heap.size+1)) _).setCell (p:=⟨(w.heap.size+1),0,none⟩) (Or.inl rfl) _).setCell (p:=⟨(w.heap.size+1),1,none⟩) (Or.inl rfl) _)
 replace F2:=zh (F2.out.oth B4.out lQ b)
 replace F8:=zh (F8.out.oth B4.out lQ b)
 replace B3:=zh (B3.out.fr b (by first|omega | (have:=B3.out.lt;have:=B4.out.lt;omega)))
 replace HE:=zh (HE.out.next b (fun i hi e=>by first|omega | (have:=HE.out.size;have:=B4.out.lt;omega)))
 have c:Blk 41 ((n.setCell ⟨(w.heap.size+1),0,none⟩ (.bool r)).setCell ⟨(w.heap.size+1),1,none⟩ (.slice s t u)) (w.heap.size+1) #[.bool r,.slice s t u]:=((B4.out.set_ 0 _).set_ 1 _)
 generalize ((n.setCell ⟨(w.heap.size+1),0,none⟩ (.bool r)).setCell ⟨(w.heap.size+1),1,none⟩ (.slice s t u))=w11 at *
 replace B4:=zh c;clear c b
 exact ZaT rfl rfl B4.out (by exact F8.out) HE.out
def blen (n:Nat):Nat:=if n=0 then 0 else n.log2+1
theorem fX:blen 0=0:=rfl
theorem fU (n:Nat):n<2^blen n:=by
 unfold blen
 split
 ·rename_i h;subst h;decide
 rename_i h;exact (Nat.log2_lt h).1 (Nat.lt_succ_self _)
theorem kI {n k:Nat}:blen n≤k↔n<2^k:=by
 unfold blen
 split
 ·rename_i h;subst h;simp[uY]
 rename_i h;rw[←Nat.log2_lt h];omega
theorem Zbx {n:Nat}(h:0<n):blen n=blen (n/2)+1:=by
 have d:blen (n/2)+1≤blen n:=by
  have:blen (n/2)≤blen n-1:=kI.2 (by
   have a:=fU n
   have b:0<blen n:=by unfold blen;rw[uQ qO];omega
   obtain⟨k,c⟩:∃ k,blen n=k+1:=⟨blen n-1,qO⟩
   rw[c] at a ⊢
   rw[uP] at a
   show n/2<2^(k+1-1)
   rw[tN]
   omega)
  have b:0<blen n:=by unfold blen;rw[uQ qO];omega
  omega
 have a:blen n≤blen (n/2)+1:=kI.2 (by
  have:=fU (n/2)
  rw[uP]
  omega)
 omega
theorem gF {n:Nat}:blen n=1↔n=1:=by
 constructor
 ·intro h
  have a:=fU n
  rw[h] at a
  rcases uJ n with e|e
  ·subst e;rw[fX] at h;omega
  omega
 rintro rfl;decide
theorem Zan {n:Nat}:1<blen n↔1<n:=by
 rcases vM 1 n with h|h
 ·have:¬ blen n≤1:=fun k=>by have:=kI.1 k;omega
  omega
 have:blen n≤1:=kI.2 qO
 omega
theorem Zi7 {B k t a:Nat}(g:a<2^(B*k))(b:0<t):blen (a+2^(B*k)*t)=B*k+blen t:=by
 have c:=fU t
 have i:blen (a+2^(B*k)*t)≤B*k+blen t:=kI.2 (by
  rw[uW]
  have:2^(B*k)*(t+1)≤2^(B*k)*2^blen t:=uI _ c
  rw[uK] at this
  omega)
 have l:¬ blen (a+2^(B*k)*t)≤B*k+blen t-1:=fun h=>by
  have d:=kI.1 h
  obtain⟨j,e⟩:∃ j,blen t=j+1:=⟨blen t-1,by have:=Zbx b;omega⟩
  rw[e,show B*k+(j+1)-1=B*k+j by omega,uW] at d
  have f:2^j≤t:=by
   rcases vM t (2^j) with h|h
   ·have:=kI.2 h;omega
   exact h
  have:2^(B*k)*2^j≤2^(B*k)*t:=uI _ f
  omega
 have:0<blen t:=by have:=Zbx b;omega
 omega
theorem gG (a:Value)(x:Int)(w:World)(ha:zN w a x)(F:wC x):yA 78 #[a] w (RetV w (.int .i64 (blen x.natAbs:Int))):=by
 obtain⟨s,A,l,c,rfl⟩:=ha.shp
 have f:=ha.mag
 have L:=ha.len0
 obtain⟨V,xs,W,M,N,G,j,o,p⟩:=f
 injection M with e1 e2 e3
 subst e1 e2 e3
 unfold wC at F
 rw[←p,← kO j o] at F
 rw[←p]
 clear ha L p
 rcases uJ xs.length with q|q
 ·obtain rfl:xs=[]:=tG.1 q
  go_enter func78,ntmps78
  go_wp2
  go_ret
  exact⟨rfl,(Fr.refl _ _).alloc _⟩
 obtain⟨k,H⟩:∃ k,xs.length=k+1:=⟨xs.length-1,qO⟩
 obtain⟨b,O,rfl,P,u⟩:=G.at (i:=k) qO
 obtain⟨t,m⟩:=yE (xs[k]?.getD 0)
 rw[m] at u
 have v:0<t:=by have:=o k H;omega
 have I:val W32 xs=val W32 (xs.take k)+W32^k*t:=by
  have:=zU (B:=W32) (xs:=xs) k qO
  rw[uA qO,m] at this
  exact this
 have d:=xZ (j.take k)
 rw[uM,uU qO,bU] at d
 have y:Hid (blen (val W32 xs)=32*k+blen t):=by
  unfold Hid
  rw[I,bU]
  exact Zi7 d v
 have g:t<W32:=m ▸ j.getD zZ k
 have Q:blen t≤32:=kI.2 (by rw[zW] at g;exact g)
 obtain⟨r,J⟩:=yE (blen (val W32 xs))
 rw[J] at y ⊢
 have R:b≠w.heap.size:=Nat.ne_of_lt P
 rw[H]
 clear G j o I d m J g N q
 have X:(((k:Int)+1) == 0)=false:=by simp;omega
 go_enter func78,ntmps78
 go_wp2
 go_loop [3,4] (fun S z=>∃ n t':Nat,S=.int .i64 (n:Int)∧z=.int .u32 (t':Int)∧Hid (n+blen t'=r)∧n≤32*k+32) (fun _ z=>(intOf z).toNat)
 case atStart=>exact⟨32*k,t,by go_num,rfl,by have:=y.out;unfold Hid;omega,qO⟩
 case round =>
  obtain⟨n,t',rfl,rfl,C,Y⟩:=hrel
  by_cases K:0<t'
  ·have e:Hid (n+1+blen (t'/2)=r):=by have f:=C.out;rw[Zbx K] at f;unfold Hid;omega
   have D:n+1≤32*k+32:=by
    have f:=C.out;have Z:=y.out;rw[Zbx K] at f;omega
   have T:(t':Int)/2=((t'/2:Nat):Int):=rfl
   have E:t'/2<t':=qO
   obtain⟨U,h⟩:=yE (t'/2)
   rw[h] at e T E
   clear h
   go_wp2
   go_round
   case rel=>exact⟨n+1,U,by go_num,rfl,e,D⟩
   case measure=>simp[intOf];omega
  obtain rfl:t'=0:=qO
  have e:Hid (n=r):=by have f:=C.out;rw[fX] at f;exact f
  go_wp2
  go_ret
  exact⟨by rw[e.out];rfl,(Fr.refl _ _).alloc _⟩
theorem zY.inj {w:World}{v:Value}{m n:Nat}(h:zY w v m)(k:zY w v n):m=n:=by
 obtain⟨A,g,c,rfl,_,j,_,_,rfl⟩:=h
 obtain⟨s,l,t,p,_,q,_,_,rfl⟩:=k
 injection p with e1 e2 e3
 subst e1
 have:g=l:=by
  apply pZ e2
  intro i e f
  obtain⟨b,o,rfl,_,r⟩:=j.at e
  obtain⟨u,x,d,_,a⟩:=q.at f
  injection d with d
  injection d with e3 e4
  subst e3 e4
  rw[r] at a
  injection a with a
  injection a with _ a
  rw[uV e,uV f] at a
  simp only[qG] at a
  omega
 rw[this]
open Classical in
noncomputable def ZdJ (w:World) (v:Value):Nat:=if h:∃ n,zY w v n then Classical.choose h else 0
theorem Zhr {w:World}{v:Value}{n:Nat}(h:zY w v n):ZdJ w v=n:=by
 have a:∃ n,zY w v n:=⟨n,h⟩
 unfold ZdJ
 rw[dif_pos a]
 exact (pP a).inj h
theorem zY.len_zero {w:World}{A:qA}{l c n:Nat}(h:zY w (.slice A l c) n):(n=0↔l=0)∧l=ml n:=by
 obtain⟨j,f,k,a,_,_,g,i,b⟩:=h
 injection a with _ a
 have d:=kO g i
 rw[b] at d
 refine⟨⟨fun e=>?_,fun e=>?_⟩,qO⟩
 ·rw[e,Zee] at d;omega
 rw[e] at a
 have:f=[]:=tG.1 a.symm
 rw[this] at b
 simpa using b.symm
theorem Zi8 (a b:Value)(x y:Int)(w:World)(ha:zN w a x)(I:zN w b y)(hx:wC x)(hy:wC y):yA 77 #[a,b] w (lZ w (Int.gcd x y:Int)):=by
 obtain⟨s,A,l,c,rfl⟩:=ha.shp
 obtain⟨t,B,m,d,rfl⟩:=I.shp
 have HM:=zh ha.mag
 have HN:=zh I.mag
 have HX:Hid (ml x.natAbs≤17592186044416):=hx
 have HY:Hid (ml y.natAbs≤17592186044416):=hy
 obtain⟨r,J⟩:=yE (Int.gcd x y)
 have HR:Hid (Nat.gcd x.natAbs y.natAbs=r):=J
 rw[J]
 clear ha I hx hy J
 go_enter func77,ntmps77
 go_wp2_with fail
 generalize k:World.alloc (World.alloc (World.alloc w _) _) _=w1
 obtain⟨b0,b1,b2,h⟩:=ZgN k
 clear k
 have K:=zh b2
 have HE:=zh h
 replace HM:=zh (HM.out.ext h)
 replace HN:=zh (HN.out.ext h)
 obtain⟨c0,c1,f0,f1⟩:=b0.cell2
 obtain⟨q,L,f2,f3⟩:=b1.cell2
 clear b0 b1 b2 h
 go_quiet (fail)
 clear c0 c1 f0 f1 q L f2 f3
 go_wp2_with fail
 go_loopw [5,6,7,8] (fun xv M _ _ wr=>∃ (u v:Nat) (N z:Option Addr) (O P m' C:Nat),xv=.slice N O P∧M=.slice z m' C∧Hid (zY wr (.slice N O P) u)∧Hid (zY wr (.slice z m' C) v)∧Hid (ml u≤17592186044416)∧Hid (ml v≤17592186044416)∧Hid (Nat.gcd u v=r)∧Hid (Ext w1 wr)) (fun _ M _ _ wr=>ZdJ wr M)
 case atStart=>exact⟨_,_,_,_,_,_,_,_,rfl,rfl,HM.out.ext ((Fr.refl _ _).drewN _),HN.out.ext ((Fr.refl _ _).drewN _),HX,HY,HR,(Fr.refl _ _).drewN _⟩
 case round =>
  obtain⟨u,v,N,z,O,P,m',C,rfl,rfl,hU,D,hu,E,Q,R⟩:=hrel
  obtain⟨F,z2⟩:=D.out.len_zero
  have g0:m'≤17592186044416:=by have:=E.out;omega
  by_cases S:m'=0
  ·subst S
   have f:v=0:=F.2 rfl
   have T:Hid (u=r):=by have:=Q.out;rw[f,qH] at this;exact this
   have HB:=zh (K.out.ext R.out)
   have U:=zh (HE.out.trans R.out)
   clear F z2 f
   go_wp2_with fail
   refine (fW false _ u _ hU.out).mono ?_
   rintro e G ⟨_,rfl,V,g⟩
   obtain⟨s2,A2,l2,q,rfl⟩:=V.shp
   have HI:=zh V
   have j:=zh (HB.out.ext g)
   have W:=zh (U.out.trans g)
   obtain⟨k0,k1,k2,k3⟩:=j.out.cell2
   clear V g
   go_wp2
   have n:Fr (fun i=>i=(w.heap.size+1+1)) G ((G.setCell ⟨w.heap.size+1+1,0,none⟩ (.bool s2)).setCell ⟨w.heap.size+1+1,1,none⟩ (.slice A2 l2 q)):=((Fr.refl (fun i=>i=(w.heap.size+1+1)) _).setCell (p:=⟨w.heap.size+1+1,0,none⟩) (Or.inl rfl) _).setCell (p:=⟨w.heap.size+1+1,1,none⟩) (Or.inl rfl) _
   exact ZaT rfl rfl ((j.out.set_ 0 _).set_ 1 _) (by rw[←T.out];exact HI.out.oth j.out lQ n) (W.out.next n (fun i hi e=>qO))
  have h0:0<m':=qO
  have f:0<v:=by
   rcases uJ v with e|e;· exact absurd (F.1 e) S
   ·exact e
  have T:Hid (Nat.gcd v (u%v)=r):=by have:=Q.out;rw[sL,pS,sL] at this;exact this
  have X:=zh (uD (iM (qZ (uO u f))) E.out)
  have Y:=zh (uO u f)
  have HC:=zh (Zf6 _ _ u v wr hU.out D.out hu.out E.out f)
  clear F z2 f S Q
  go_wp2_with fail
  refine HC.out.mono ?_
  rintro e G ⟨_,_,rfl,hq,H,g⟩
  obtain⟨A2,l2,q,rfl⟩:=hq.slice
  obtain⟨A3,l3,L,rfl⟩:=H.slice
  have Z:=zh H
  have a0:=zh (D.out.ext g)
  have d0:=zh (R.out.trans g)
  have e0:Hid (ZdJ wr (.slice z m' C)=v):=Zhr D.out
  have o:Hid (ZdJ G (.slice A3 l3 L)=u%v):=Zhr H
  clear hq H g HC
  go_wp2
  go_roundw
  case rel=>exact⟨v,u%v,_,_,_,_,_,_,rfl,rfl,a0,Z,E,X,T,d0⟩
  case measure=>rw[e0.out,o.out];exact Y.out
end Go.Proofs.YtdlgidnkmbklcaaGreatDoor
namespace Go.Proofs.YtdlgidnkmbklcaaGreatDoor
theorem cK {n k:Nat}:k<blen n↔2^k≤n:=by have:=@kI n k;omega
theorem bO {n:Nat}(h:0<n):0<blen n:=cK.2 (by rw[tX];exact h)
theorem ZgS {n k:Nat}(a:2^k≤n)(b:n<2^(k+1)):blen n=k+1:=by
 have:=cK.2 a;have:=kI.2 b;omega
theorem ZcK {n:Nat}(h:0<n):2^(blen n-1)≤n:=cK.1 (by have:=bO h;omega)
theorem p2 (k:Nat):0<2^k:=uY qD
theorem Zby {n:Nat}(h:0<n)(j:Nat):blen (n*2^j)=blen n+j:=by
 have a:=ZcK h
 have b:=fU n
 obtain⟨k,c⟩:∃ k,blen n=k+1:=⟨blen n-1,by have:=bO h;omega⟩
 rw[c] at a b ⊢
 rw[show k+1+j=k+j+1 by omega]
 refine ZgS ?_ ?_
 ·rw[uW];exact uE _ (by simpa using a)
 rw[show k+j+1=k+1+j by omega,uW];exact (pD (p2 j)).2 b
theorem ZaA (n j:Nat):blen (n/2^j)=blen n-j:=by
 rcases vM j (blen n) with h|h
 ·have c:0<n:=by
   rcases uJ n with e|e;· subst e;rw[fX] at h;omega
   ·exact e
  have a:=ZcK c
  have b:=fU n
  obtain⟨k,d⟩:∃ k,blen n=j+(k+1):=⟨blen n-j-1,qO⟩
  rw[d] at a b ⊢
  rw[show j+(k+1)-j=k+1 by omega]
  refine ZgS ?_ ?_
  ·rw[pQ (p2 j),← uW];rw[show j+(k+1)-1=k+j by omega] at a;exact a
  rw[vQ (p2 j),← uW,vO];exact b
 rw[tF (kI.1 h),fX];omega
def kX (a b:Nat):Nat:=if b<2*(a%b)∨(2*(a%b)=b∧a/b%2=1) then a/b+1 else a/b
theorem Zl1 {a b c:Nat}(d:0<c):kX (a*c) (b*c)=kX a b:=by
 unfold kX
 rw[rG,qF _ _ d,← uH]
 have e:b*c<2*(a%b)*c↔b<2*(a%b):=pD d
 have f:2*(a%b)*c=b*c↔2*(a%b)=b:=⟨fun h=>Nat.eq_of_mul_eq_mul_right d h,fun h=>by rw[h]⟩
 simp only[e,f]
theorem Zo3 (a:Nat):kX a 1=a:=by unfold kX;rw[Nat.mod_one,pV,uQ qO]
def Zao (q j:Nat) (m:Bool):Nat:=if q/2^j%2=1∧(q%2^j≠0∨q/2^(j+1)%2=1∨m=true) then q/2^(j+1)+1 else q/2^(j+1)
theorem Zl2 {a b j:Nat}(k:0<b):kX a (b*2^(j+1))=Zao (a/b) j (decide (a%b≠0)):=by
 unfold kX Zao
 have l:a/(b*2^(j+1))=a/b/2^(j+1):=(sS _ _ _).symm
 have m:=tB a b
 have F:=uO a k
 rw[l]
 generalize a/b=q at *
 generalize a%b=r at *
 obtain⟨h,f⟩:∃ h,h=2^j:=⟨_,rfl⟩
 have n:0<h:=by rw[f];exact p2 j
 have o:2^(j+1)=h*2:=by rw[uP,f]
 have t:=tB q h
 have G:=uO q n
 rw[o,← f,← sS]
 generalize q/h=p at *
 generalize q%h=z at *
 have v:=tB p 2
 have H:=uO p (show 0<2 by decide)
 generalize p/2=u at *
 generalize p%2=s at *
 have w:a%(b*(h*2))=b*(h*s+z)+r:=by
  have e:a=b*(h*2)*u+(b*(h*s+z)+r):=by
   rw[←m,← t,← v]
   simp only[uK,uH,sD]
  have g:b*(h*s+z)+r<b*(h*2):=by
   have k1:h*s+z+1≤h*2:=by
    have:h*s≤h*1:=uI _ qO
    omega
   have x:=uI b k1
   rw[uK,sU] at x
   omega
  rw[e,qV,vH g]
 rw[w]
 have I:b*z+b≤b*h:=by
  have:=uI b (show z+1≤h by omega)
  rwa [uK,sU] at this
 have i:b*(h*2)=2*(b*h):=by rw[←uH,uG]
 have d:z=0∨b≤b*z:=by
  rcases uJ z with e|e
  ·exact Or.inl e
  exact Or.inr (by have:=uI b e;simpa using this)
 rcases (by omega:s=0∨s=1) with rfl|rfl
 ·rw[uQ,uQ qO]
  rw[tV,tA,i]
  omega
 rw[sU,uK b h z,i]
 have y:(2*(b*h)<2*(b*h+b*z+r))↔(z≠0∨r≠0):=by
  constructor
  ·intro c
   rcases uJ z with e|e
   ·subst e;right;intro A;subst A;simp at c
   left;omega
  intro c
  rcases d with e|e
  ·subst e;rcases c with c|c;· exact absurd rfl c
   ·simp;omega
  omega
 have B:(2*(b*h+b*z+r)=2*(b*h))↔(z=0∧r=0):=by
  constructor
  ·intro c
   rcases d with e|e
   ·subst e;refine⟨rfl,?_⟩;rw[tV] at c;omega
   omega
  rintro⟨rfl,rfl⟩;simp
 simp only[y,B]
 by_cases C:z=0<;>by_cases D:r=0<;>by_cases E:u%2=1<;>simp[C,D,E]
def fa (n:Nat) (k:Int):Nat:=n*2^(-k).toNat
def fb (d:Nat) (k:Int):Nat:=d*2^k.toNat
def fq (n d:Nat) (k:Int):Nat:=fa n k/fb d k
theorem Znm {d:Nat}(h:0<d)(k:Int):0<fb d k:=rC h (p2 _)
theorem ZkT (n d:Nat)(k:Int)(j:Nat):∃ c,0<c∧fa n k=fa n (k+j)*c∧fb d k*2^j=fb d (k+j)*c:=by
 unfold fa fb
 rcases Int.le_total 0 k with h|h
 ·obtain⟨m,rfl⟩:=vW h
  refine⟨1,qD,?_,?_⟩
  ·rw[show (-(m:Int)).toNat=0 by omega,show (-((m:Int)+j)).toNat=0 by omega];simp
  rw[show ((m:Int)).toNat=m by omega,show ((m:Int)+j).toNat=m+j by omega,uH,← uW,sU]
 obtain⟨m,b⟩:=vW (show 0 ≤ -k by omega)
 obtain rfl:k = -(m:Int):=qO
 rcases Nat.le_total j m with a|a
 ·refine⟨2^j,p2 j,?_,?_⟩
  ·rw[show (- -(m:Int)).toNat=m by omega,show (-(-(m:Int)+j)).toNat=m-j by omega,uH,← uW,pM a]
  rw[show (-(m:Int)).toNat=0 by omega,show (-(m:Int)+j).toNat=0 by omega]
 refine⟨2^m,p2 m,?_,?_⟩
 ·rw[show (- -(m:Int)).toNat=m by omega,show (-(-(m:Int)+j)).toNat=0 by omega];simp
 rw[show (-(m:Int)).toNat=0 by omega,show (-(m:Int)+j).toNat=j-m by omega,uH,uH,← uW,← uW,pM a,tA]
theorem ZdK (n d:Nat)(k:Int)(j:Nat):fq n d (k+j)=fq n d k/2^j:=by
 obtain⟨c,a,b,e⟩:=ZkT n d k j
 unfold fq
 rw[sS,b,e,qF _ _ a]
theorem Zo4 {n d:Nat}(k:Int)(j:Nat)(a:0<d):kX (fa n (k+(j+1:Nat))) (fb d (k+(j+1:Nat)))=Zao (fq n d k) j (decide (fa n k%fb d k≠0)):=by
 obtain⟨c,b,e,f⟩:=ZkT n d k (j+1)
 unfold fq
 rw[←Zl2 (Znm a k),f,e,Zl1 b]
def rk0 (n d bits:Nat):Int:=(blen n:Int)-blen d-bits
theorem Zfd {n d bits:Nat}(o:0<n)(i:0<d)(t:0<bits):bits≤blen (fq n d (rk0 n d bits))∧blen (fq n d (rk0 n d bits))≤bits+1:=by
 have f:=ZcK o
 have j:=fU n
 have g:=ZcK i
 have k:=fU d
 obtain⟨p,r⟩:∃ p,blen n=p+1:=⟨blen n-1,by have:=bO o;omega⟩
 obtain⟨q,s⟩:∃ q,blen d=q+1:=⟨blen d-1,by have:=bO i;omega⟩
 obtain⟨b,rfl⟩:∃ b,bits=b+1:=⟨bits-1,qO⟩
 have c:fb d (rk0 n d (b+1))*2^b≤fa n (rk0 n d (b+1))∧fa n (rk0 n d (b+1))<fb d (rk0 n d (b+1))*2^(b+2):=by
  unfold fa fb rk0
  rw[r] at f j ⊢
  rw[s] at g k ⊢
  rw[tN] at f g
  rcases Int.le_total 0 ((p+1:Nat)-(q+1:Nat)-(b+1:Nat):Int) with h|h
  ·obtain⟨m,l⟩:=vW h
   have a:p=q+m+b+1:=qO
   subst a
   rw[l,show ((m:Nat):Int).toNat=m by omega,show (-((m:Nat):Int)).toNat=0 by omega]
   simp only[tX,sU]
   constructor
   ·refine uD ?_ f
    rw[show q+m+b+1=(q+1)+(m+b) by omega,uW,uH,← uW]
    exact uE _ (qZ k)
   refine uS j ?_
   rw[show q+m+b+1+1=q+(m+(b+2)) by omega,uW 2 q,uH,← uW 2 m]
   exact uE _ g
  obtain⟨m,l⟩:=vW (show 0 ≤ -((p+1:Nat)-(q+1:Nat)-(b+1:Nat):Int) by omega)
  have a:p+m=q+b+1:=qO
  rw[l,show ((m:Nat):Int).toNat=m by omega,show ((p+1:Nat)-(q+1:Nat)-(b+1:Nat):Int).toNat=0 by omega]
  simp only[tX,sU]
  constructor
  ·refine uD ?_ (uE _ f)
   rw[←uW,a,show q+b+1=(q+1)+b by omega,uW]
   exact uE _ (qZ k)
  refine uS ((pD (p2 m)).2 j) ?_
  rw[←uW,show p+1+m=q+(b+2) by omega,uW]
  exact uE _ g
 have e:=Znm i (rk0 n d (b+1))
 constructor
 ·have:2^b≤fq n d (rk0 n d (b+1)):=by
   unfold fq
   rw[pQ e,uG];exact c.1
  have:=cK.2 this
  omega
 refine kI.2 ?_
 unfold fq
 rw[vQ e,uG];exact c.2
def rndK (n d bits:Nat):Int:=if blen (fq n d (rk0 n d bits))=bits then rk0 n d bits else rk0 n d bits+1
theorem ZaB {n d bits:Nat}(a:0<n)(b:0<d)(c:0<bits):blen (fq n d (rndK n d bits))=bits:=by
 obtain⟨e,f⟩:=Zfd a b c
 unfold rndK
 split
 ·assumption
 have:=ZdK n d (rk0 n d bits) 1
 rw[show (rk0 n d bits+1:Int)=rk0 n d bits+(1:Nat) by simp,this,ZaA]
 omega
theorem ZkU {n d bits:Nat}(c:0<n)(e:0<d)(f:0<bits){k:Int}(h:blen (fq n d k)=bits):rndK n d bits=k:=by
 have b:=ZaB c e f
 rcases Int.lt_trichotomy (rndK n d bits) k with a|a|a
 ·obtain⟨j,g⟩:=vW (show 0≤k-rndK n d bits by omega)
  have:=ZdK n d (rndK n d bits) j
  rw[show rndK n d bits+(j:Int)=k by omega] at this
  rw[this,ZaA,b] at h
  omega
 ·exact a
 obtain⟨j,g⟩:=vW (show 0≤rndK n d bits-k by omega)
 have:=ZdK n d k j
 rw[show k+(j:Int)=rndK n d bits by omega] at this
 rw[this,ZaA,h] at b
 omega
def rndM (n d bits:Nat):Nat:=kX (fa n (rndK n d bits)) (fb d (rndK n d bits))
theorem Zeg (a b:Nat):a/b≤kX a b∧kX a b≤a/b+1:=by unfold kX;split<;>omega
theorem Zfe {n d bits:Nat}(a:0<n)(b:0<d)(c:0<bits):0<rndM n d bits:=by
 have h:=ZaB a b c
 have:=(Zeg (fa n (rndK n d bits)) (fb d (rndK n d bits))).1
 have f:0<fq n d (rndK n d bits):=by
  rcases uJ (fq n d (rndK n d bits)) with e|e
  ·rw[e,fX] at h;omega
  exact e
 unfold rndM
 unfold fq at f
 omega
theorem ZdL {n d bits:Nat}(c:0<n)(a:0<d)(e:0<bits)(k:Int)(j:Nat)(h:blen (fq n d k)=bits+(j+1)) :
 rndK n d bits=k+(j+1:Nat)∧rndM n d bits=Zao (fq n d k) j (decide (fa n k%fb d k≠0)):=by
 have b:rndK n d bits=k+(j+1:Nat):=ZkU c a e (by rw[ZdK,ZaA,h];omega)
 refine⟨b,?_⟩
 unfold rndM
 rw[b,Zo4 k j a]
theorem ZqD {n bits:Nat}(a:0<n)(c:0<bits)(h:blen n≤bits):rndK n 1 bits=(blen n:Int)-bits∧rndM n 1 bits=n*2^(bits-blen n):=by
 have b:rndK n 1 bits=(blen n:Int)-bits:=ZkU a qD c (by
  unfold fq fa fb
  rw[show (-((blen n:Int)-bits)).toNat=bits-blen n by omega,show ((blen n:Int)-bits).toNat=0 by omega]
  simp only[tX,sU,pV]
  rw[Zby a];omega)
 refine⟨b,?_⟩
 unfold rndM
 rw[b]
 unfold fa fb
 rw[show (-((blen n:Int)-bits)).toNat=bits-blen n by omega,show ((blen n:Int)-bits).toNat=0 by omega]
 simp only[tX,sU,Zo3]
theorem ZqE {a s r bits:Nat}(g:0<bits)(ha:bits+1≤blen a)(h:0<r)(c:r<2^s) :
 rndK (a*2^s+r) 1 bits=(s:Int)+(blen a:Int)-bits∧rndM (a*2^s+r) 1 bits=Zao a (blen a-bits-1) true:=by
 have i:0<a*2^s+r:=qO
 obtain⟨j,b⟩:∃ j,blen a=bits+(j+1):=⟨blen a-bits-1,qO⟩
 have e:fq (a*2^s+r) 1 (s:Int)=a:=by
  unfold fq fa fb
  rw[show (-(s:Int)).toNat=0 by omega,show ((s:Int)).toNat=s by omega]
  simp only[tX,sU,pJ]
  rw[uG,rF (p2 s),tF c,tE]
 have k:fa (a*2^s+r) (s:Int)%fb 1 (s:Int)=r:=by
  unfold fa fb
  rw[show (-(s:Int)).toNat=0 by omega,show ((s:Int)).toNat=s by omega]
  simp only[tX,sU,pJ]
  rw[uG,qV,vH c]
 obtain⟨l,f⟩:=ZdL (n:=a*2^s+r) i (d:=1) qD g (s:Int) j (by rw[e];exact b)
 rw[e,k] at f
 refine⟨by rw[l,b];omega,?_⟩
 rw[f,b,show bits+(j+1)-bits-1=j by omega,show decide (r≠0)=true from vP qO]
def tzn (n:Nat):Nat:=if h:n=0∨n%2=1 then 0 else tzn (n/2)+1
termination_by n
decreasing_by omega
theorem ZkV {n:Nat}(h:n%2=1):tzn n=0:=by rw[tzn,dif_pos (Or.inr h)]
theorem ZkW {n:Nat}(h:0<n):tzn (n*2)=tzn n+1:=by
 rw[tzn,dif_neg qO,oR _ qD]
theorem Zeh {n:Nat}(h:0<n):∀ j,tzn (n*2^j)=tzn n+j
 | 0=>qS
 | j+1=>by rw[uP,← uH,ZkW (rC h (p2 j)),Zeh h j];omega
theorem Znn:∀ n:Nat,0<n→∃ o,o%2=1∧n=o*2^tzn n:=by
 intro n
 induction n using Nat.strongRecOn with
 | ind n ih =>
  intro h
  by_cases a:n%2=1
  ·exact⟨n,a,by rw[ZkV a];simp⟩
  obtain⟨m,rfl⟩:∃ m,n=m*2:=⟨n/2,qO⟩
  obtain⟨o,b,c⟩:=ih m qO qO
  exact⟨o,b,by rw[ZkW qO,uP,← uH,← c]⟩
theorem ZdM {o:Nat}(h:o%2=1)(j:Nat):tzn (o*2^j)=j:=by rw[Zeh qO,ZkV h];omega
def oddM (n:Nat):Nat:=n/2^tzn n
theorem Zei {o:Nat}(h:o%2=1)(j:Nat):oddM (o*2^j)=o:=by unfold oddM;rw[ZdM h,oR _ (p2 j)]
theorem jY {n:Nat}(h:0<n):oddM n%2=1∧n=oddM n*2^tzn n:=by
 obtain⟨o,a,b⟩:=Znn n h
 have:oddM n=o:=by rw[b];exact Zei a _
 rw[this];exact⟨a,b⟩
theorem Zo5 {n:Nat}(h:0<n)(j:Nat):oddM (n*2^j)=oddM n:=by
 obtain⟨a,b⟩:=jY h
 have:n*2^j=oddM n*2^(tzn n+j):=by rw[uW,← uH,← b]
 rw[this,Zei a]
theorem Zno {n:Nat}(h:0<n)(j:Nat):tzn n<j↔n%2^j≠0:=by
 obtain⟨i,f⟩:=jY h
 constructor
 ·intro g e
  obtain⟨d,b⟩:∃ d,j=tzn n+(d+1):=⟨j-tzn n-1,qO⟩
  have a:=Nat.dvd_of_mod_eq_zero e
  rw[b,uW,uG] at a
  rw[f] at a
  rw[ZdM i] at a
  have:=Nat.dvd_of_mul_dvd_mul_right (p2 _) a
  rw[uP] at this
  have:2∣oddM n:=Nat.dvd_trans ⟨_,uG _ _⟩ this
  omega
 intro c
 refine oD fun g=>c ?_
 obtain⟨d,b⟩:=Nat.exists_eq_add_of_le g
 rw[f,b,uW,← uH,uG (oddM n),uH,Nat.mul_mod_right]
end Go.Proofs.YtdlgidnkmbklcaaGreatDoor
