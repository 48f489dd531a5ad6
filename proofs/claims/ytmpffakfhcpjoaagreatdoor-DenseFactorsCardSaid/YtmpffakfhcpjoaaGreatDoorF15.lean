/-
 My texts.
-/
import Derived.Test.YtmpffakfhcpjoaaGreatDoorF11
import Derived.Test.YtmpffakfhcpjoaaGreatDoorF14
set_option maxRecDepth 100000
set_option maxHeartbeats 8000000
namespace Go.Proofs.YtmpffakfhcpjoaaGreatDoor
open Go.RowKit Tryz
theorem zM:prog.follows .mixedOrders=true:=qK
def ZgG (cs:Array Value):Prop:=∀ (i:Nat) (k:IntKind) (z:Int),cs[i]? = some (.int k z)→k=.i64
theorem kU {s:Bool}{A:qA}{l c:Nat}:ZgG #[.bool s,.slice A l c]:=by
 intro i k z;rcases i with _|_|i<;>simp
theorem zI.other {k:IntKind}{t:TypeId}{w w':World}{r:Nat}{A:qA}{xs:qN}{cs:Array Value}(h:zI k w A xs)(d:k≠.i64)(f:Blk t w r cs)(j:ZgG cs)(l:Fr (fun i=>i=r) w w'):zI k w' A xs:=by
 cases xs with
 | nil=>exact zI.nil
 | cons x xs =>
  refine h.fr l (fun q c m e=>?_)
  obtain⟨g,off,n,_,b⟩:=h.at (i:=0) qS
  rw[n] at c
  injection c with c
  subst c
  simp at e
  subst e
  rw[f.cell] at b
  exact d (j _ _ _ b)
theorem zW.oth {t:TypeId}{w w':World}{r n:Nat}{u:Value}{cs:Array Value}(h:zW w u n)(b:Blk t w r cs)(c:ZgG cs)(d:Fr (fun i=>i=r) w w'):zW w' u n:=by
 obtain⟨e,f,j,k,l,m,q⟩:=h
 exact⟨e,f,j,k,l,m.other qD b c d,q⟩
theorem xB.oth {t:TypeId}{w w':World}{r:Nat}{v:Value}{z:Int}{cs:Array Value}(h:xB w v z)(b:Blk t w r cs)(c:ZgG cs)(d:Fr (fun i=>i=r) w w'):xB w' v z:=by
 obtain⟨e,u,n,f,j,k⟩:=h
 exact⟨e,u,n,f,j.oth b c d,k⟩
theorem xB.shp {w:World}{v:Value}{z:Int}(h:xB w v z):∃ (s:Bool) (A:Option Addr) (l c:Nat),v=.agg #[.bool s,.slice A l c]:=by
 obtain⟨s,A,l,c,h,_⟩:=h.open
 exact⟨s,A,l,c,h⟩
theorem fS.shp {w:World}{v:Value}{z:Int}(h:fS w v z):∃ (s:Bool) (A:Option Addr) (l c:Nat),v=.agg #[.bool s,.slice A l c]:=h.shape
theorem xB.nil (w:World):xB w (.agg #[.bool false,.slice none 0 0]) 0:=⟨false,_,0,rfl,zW.zero w,fun _=>rfl,rfl⟩
theorem ZjI {a b c d e f i j:Value}(h:Value.agg #[a,b,c,d]=.agg #[e,f,i,j]):a=e∧b=f∧c=i∧d=j:=by
 injection h with h
 simpa using h
def zP (w:World) (v:Value) (q:Rat):Prop:=∃ (s t:Bool) (A B:Option Addr) (l c l' c':Nat),v=.agg #[.bool s,.slice A l c,.bool t,.slice B l' c']∧xB w (.agg #[.bool s,.slice A l c]) q.num∧xB w (.agg #[.bool t,.slice B l' c']) (denF q)
theorem zP.ext {w w':World}{v:Value}{q:Rat}(h:zP w v q)(b:Ext w w'):zP w' v q:=by
 obtain⟨s,t,A,B,l,c,d,e,f,i,j⟩:=h
 exact⟨s,t,A,B,l,c,d,e,f,i.ext b,j.ext b⟩
theorem zP.oth {t:TypeId}{w w':World}{r:Nat}{v:Value}{q:Rat}{cs:Array Value}(h:zP w v q)(b:Blk t w r cs)(d:ZgG cs)(e:Fr (fun i=>i=r) w w'):zP w' v q:=by
 obtain⟨s,t,A,B,l,c,f,j,k,m,n⟩:=h
 exact⟨s,t,A,B,l,c,f,j,k,m.oth b d e,n.oth b d e⟩
theorem zP.shp {w:World}{v:Value}{q:Rat}(h:zP w v q):∃ (s:Bool) (A:Option Addr) (l c:Nat) (t:Bool) (B:Option Addr) (b d:Nat),v=.agg #[.bool s,.slice A l c,.bool t,.slice B b d]:=by
 obtain⟨s,t,A,B,l,c,b,d,h,_⟩:=h
 exact⟨s,A,l,c,t,B,b,d,h⟩
theorem zP.num {w:World}{a b c d:Value}{q:Rat}(h:zP w (.agg #[a,b,c,d]) q):xB w (.agg #[a,b]) q.num:=by
 obtain⟨s,t,A,B,l,c,f,i,h,e,j⟩:=h
 obtain⟨rfl,rfl,rfl,rfl⟩:=ZjI h
 exact e
theorem zP.den {w:World}{a b c d:Value}{q:Rat}(h:zP w (.agg #[a,b,c,d]) q):xB w (.agg #[c,d]) (denF q):=by
 obtain⟨s,t,A,B,l,c,f,i,h,j,e⟩:=h
 obtain⟨rfl,rfl,rfl,rfl⟩:=ZjI h
 exact e
theorem zP.of {w:World}{s t:Bool}{A B:qA}{l c b d:Nat}{q:Rat}(e:xB w (.agg #[.bool s,.slice A l c]) q.num)(f:xB w (.agg #[.bool t,.slice B b d]) (denF q)):zP w (.agg #[.bool s,.slice A l c,.bool t,.slice B b d]) q :=
 ⟨_,_,_,_,_,_,_,_,rfl,e,f⟩
def kQ (w:World) (q:Rat) (e:Ending) (w':World):Prop:=∃ v,e=.returned v∧zP w' v q∧Ext w w'
theorem zP.nil (w:World):zP w (.agg #[.bool false,.slice none 0 0,.bool false,.slice none 0 0]) 0:=⟨_,_,_,_,_,_,_,_,rfl,xB.nil w,xB.nil w⟩
theorem fN {t0:TypeId}{w wb:World}{c0:Array Value}(h:w.alloc (.cells c0 t0)=wb):Blk t0 wb w.heap.size c0∧Ext w wb:=by
 subst h;exact⟨Blk.new _ _ _,(Fr.refl _ _).alloc _⟩
theorem ZcR {t0 t1:TypeId}{w wb:World}{c0 c1:Array Value}(h:(w.alloc (.cells c0 t0)).alloc (.cells c1 t1)=wb):Blk t0 wb w.heap.size c0∧Blk t1 wb (w.heap.size+1) c1∧Ext w wb:=by
 obtain⟨d,f⟩:=fN (w:=w) (c0:=c0) (t0:=t0) rfl
 have e:(w.alloc (.cells c0 t0)).heap.size=w.heap.size+1:=qS
 obtain⟨b,c⟩:=fN h
 rw[e] at b
 exact⟨d.ext c,b,f.trans c⟩
theorem ZlO {t0 t1 t2:TypeId}{w wb:World}{c0 c1 c2:Array Value}(h:((w.alloc (.cells c0 t0)).alloc (.cells c1 t1)).alloc (.cells c2 t2)=wb):Blk t0 wb w.heap.size c0∧Blk t1 wb (w.heap.size+1) c1∧Blk t2 wb (w.heap.size+1+1) c2∧Ext w wb:=by
 obtain⟨d,f,i⟩:=ZcR (w:=w) (c0:=c0) (t0:=t0) (c1:=c1) (t1:=t1) rfl
 have e:((w.alloc (.cells c0 t0)).alloc (.cells c1 t1)).heap.size=w.heap.size+1+1:=qS
 obtain⟨c,b⟩:=fN h
 rw[e] at c
 exact⟨d.ext b,f.ext b,c,i.trans b⟩
theorem Zsn {t0 t1 t2 t3:TypeId}{w wb:World}{c0 c1 c2 c:Array Value}(h:(((w.alloc (.cells c0 t0)).alloc (.cells c1 t1)).alloc (.cells c2 t2)).alloc (.cells c t3)=wb):Blk t0 wb w.heap.size c0∧Blk t1 wb (w.heap.size+1) c1∧Blk t2 wb (w.heap.size+1+1) c2∧Blk t3 wb (w.heap.size+1+1+1) c∧Ext w wb:=by
 obtain⟨f,i,j,k⟩:=ZlO (w:=w) (c0:=c0) (t0:=t0) (c1:=c1) (t1:=t1) (c2:=c2) (t2:=t2) rfl
 have e:(((w.alloc (.cells c0 t0)).alloc (.cells c1 t1)).alloc (.cells c2 t2)).heap.size=w.heap.size+1+1+1:=qS
 obtain⟨d,b⟩:=fN h
 rw[e] at d
 exact⟨f.ext b,i.ext b,j.ext b,d,k.trans b⟩
theorem Blk.one' {t:TypeId}{w:World}{g:Nat}{cs:Array Value}{x:Value}(h:Blk t w g cs)(o:Nat)(b:cs[o]? = some x):w.cell? ⟨g,o,none⟩=some x:=(h.cell o).trans b
section
variable {ops:Array Oper} {S:World→Prop} {o:Oper} {a:Act} {p:Operand} {g off:Nat} {x y z u v:Value}
theorem ym (b:Region.wanted o (yielded ops a.tmps)=true)(c:o.op=Op.move p)(d:a.eval p=v):YieldsIf prog ops S o v a :=
 Or.inl ⟨b,fun w _=>by simp only[execOp,c,d];simp[go_sem]⟩
theorem ZhI (b:Region.wanted o (yielded ops a.tmps)=true)(c:o.op=Op.load 4 p)(d:a.eval p=.pointer (some ⟨g,off,none⟩))(e:∀ w,S w→w.cell? ⟨g,off,none⟩=some x):YieldsIf prog ops S o x a :=
 Or.inl ⟨b,fun w f=>by
  have h:=e w f
  simp only[execOp,c,d]
  simp[go_sem,h]⟩
theorem Zdi (b:Region.wanted o (yielded ops a.tmps)=true)(c:o.op=Op.fieldAddr 30 p 0)(d:a.eval p=.pointer (some ⟨g,off,none⟩)):YieldsIf prog ops S o (.pointer (some ⟨g,off,none⟩)) a :=
 Or.inl ⟨b,fun w _=>by simp only[execOp,c,d];simp[go_sem]⟩
theorem Zqs {b c:Bool}{q:Operand}(d:Region.wanted o (yielded ops a.tmps)=true)(e:o.op=Op.binOp .neq 4 p q 4)(f:a.eval p=.bool b)(h:a.eval q=.bool c):YieldsIf prog ops S o (.bool (b != c)) a :=
 Or.inl ⟨d,fun w _=>by simp only[execOp,e,f,h];simp[go_sem];cases b<;>cases c<;>rfl⟩
end
section
variable {S:Nat→Prop} {w w' w0:World} {k:IntKind} {A:Option Addr} {xs:List Nat}
theorem zI.nrb (c:k≠.i64)(h:zI k w A xs)(d:∀ i,S i→NRB w i)(f:Fr S w w'):zI k w' A xs:=by
 cases xs with
 | nil=>exact zI.nil
 | cons x xs =>
  refine h.fr f (fun q b j l=>?_)
  obtain⟨g,m,n,_,a⟩:=h.at (i:=0) qS
  rw[n] at b
  injection b with b
  subst b
  obtain⟨t,r,o,p⟩:=d _ l
  rw[o.cell] at a
  exact c (p _ _ _ a)
theorem zF.nrb {u:Value}{n:Nat}(h:zF w u n)(a:∀ i,S i→NRB w i)(b:Fr S w w'):zF w' u n:=by
 obtain⟨c,xs,d,f,g,j,l⟩:=h
 exact⟨c,xs,d,f,g,j.nrb qD a b,l⟩
theorem fS.nrb {v:Value}{z:Int}(h:fS w v z)(a:∀ i,S i→NRB w i)(b:Fr S w w'):fS w' v z:=by
 obtain⟨c,u,n,d,f,g⟩:=h
 exact⟨c,u,n,d,f.nrb a b,g⟩
theorem zW.nrb {u:Value}{n:Nat}(h:zW w u n)(a:∀ i,S i→NRB w i)(b:Fr S w w'):zW w' u n:=by
 obtain⟨c,xs,d,f,g,j,l⟩:=h
 exact⟨c,xs,d,f,g,j.nrb qD a b,l⟩
theorem xB.nrb {v:Value}{z:Int}(h:xB w v z)(a:∀ i,S i→NRB w i)(b:Fr S w w'):xB w' v z:=by
 obtain⟨c,u,n,d,f,g⟩:=h
 exact⟨c,u,n,d,f.nrb a b,g⟩
theorem zP.nrb {v:Value}{q:Rat}(h:zP w v q)(a:∀ i,S i→NRB w i)(b:Fr S w w'):zP w' v q:=by
 obtain⟨s,t,A,B,l,c,d,f,g,j,m⟩:=h
 exact⟨s,t,A,B,l,c,d,f,g,j.nrb a b,m.nrb a b⟩
theorem NRB.ext {i:Nat}(h:NRB w i)(a:Ext w w'):NRB w' i:=by
 obtain⟨t,b,c,d⟩:=h
 exact⟨t,b,c.ext a,d⟩
theorem boxn {φ:World→Prop}(a:Ext w w')(h:∀ S w'',(∀ i,S i→NRB w' i)→Fr S w' w''→φ w''):BoxN w w' φ:=fun S b w'' c=>h S w'' (fun i hi=>(b i hi).2.ext a) c
end
abbrev ShI:=Bool×Option Addr×Nat × Nat
abbrev ShQ:=Bool×Option Addr×Nat × Nat × Bool×Option Addr×Nat × Nat
abbrev ShN:=Option Addr×Nat × Nat
def wC (x:ShI):Value:=vI2 x.1 x.2.1 x.2.2.1 x.2.2.2
def lB (x:ShQ):Value:=vR4 x.1 x.2.1 x.2.2.1 x.2.2.2.1 x.2.2.2.2.1 x.2.2.2.2.2.1 x.2.2.2.2.2.2.1 x.2.2.2.2.2.2.2
def xI (x:ShN):Value:=.slice x.1 x.2.1 x.2.2
section
variable {w w':World} {e:Ending}
theorem ZfO {z:Int}(h:Zgi w z e w'):lD wC (fun x w=>fS w (wC x) z) w e w':=by
 obtain⟨v,rfl,a,Q⟩:=h
 obtain⟨s,A,l,c,rfl⟩:=a.shp
 exact⟨(s,A,l,c),rfl,Q,boxn Q (fun S b d f=>a.nrb d f)⟩
theorem xV {z:Int}(h:kH w z e w'):lD wC (fun x w=>xB w (wC x) z) w e w':=by
 obtain⟨v,rfl,a,Q⟩:=h
 obtain⟨s,A,l,c,rfl⟩:=a.shp
 exact⟨(s,A,l,c),rfl,Q,boxn Q (fun S b d f=>a.nrb d f)⟩
theorem wM {q:Rat}(h:kQ w q e w'):lD lB (fun x w=>zP w (lB x) q) w e w':=by
 obtain⟨v,rfl,a,Q⟩:=h
 obtain⟨s,A,l,c,t,B,m,d,rfl⟩:=a.shp
 exact⟨(s,A,l,c,t,B,m,d),rfl,Q,boxn Q (fun S b f g=>a.nrb f g)⟩
def Zek (x:ShI×ShI):Value:=.tuple #[wC x.1,wC x.2]
theorem zO {v u:Value}(h:e=.returned v∧Ext w w')(a:v=u):lD (fun _:Unit=>u) (fun _ _=>True) w e w':=by
 obtain⟨rfl,Q⟩:=h
 subst a
 exact⟨(),rfl,Q,BoxN.pure trivial⟩
end
theorem yN {P:Program}{f:FuncId}{a:Array Value}{w:World}{u v:Value}(h:Calls P f a w (fun e w'=>e=.returned v ∧ Ext w w'))(b:v=u:=by rfl):Calls P f a w (lD (fun _:Unit=>u) (fun _ _=>True) w):=h.mono (fun _ _ h=>zO h b)
section
variable {N:Nat} {S0:Nat→Prop} {w0:World} {s s':St} {Φ Ψ Φ0:World→Prop} {L:Nat→Nat} {a:Act} {w:World} {P:Program} {ops:Array Oper} {Q:Exit→Act→World→Prop} {o:Oper}
theorem iN.of {sl:SlL}{bl:BlL}(h:(sl.map (fun q=>s.sl q.1),bl.map (fun q=>s.bl q.1))=(sl.map (fun q=>some q.2),bl.map (fun q=>some q.2))):iN s sl bl:=h
def Zi7 (N:Nat) (S0:Nat→Prop) (w0:World) (J:Nat→St→(World→Prop)→Prop) (n:Nat) (a:Act) (w:World):Prop:=∃ n' s' Φ' L',n'<n∧J n' s' Φ'∧Inv N S0 w0 s' Φ' L' a w
theorem ZlP {c:Code}(J:Nat→St→(World→Prop)→Prop)(f:Nat)(g:J f s Φ)(b:∀ n s Φ,J n s Φ→SXc P N S0 w0 (Exit.then (Zi7 N S0 w0 J n) Q) c s Φ):SXc P N S0 w0 Q (.loop c) s Φ:=fun L a w hi=>by
 refine wp_loop_ghost (fun n a w=>∃ s Φ L,J n s Φ∧Inv N S0 w0 s Φ L a w) f ⟨s,Φ,L,g,hi⟩ ?_
 rintro n a w ⟨s,Φ,L,h,hi⟩
 refine wp_mono (b n s Φ h L a w hi) ?_
 intro e q w' d
 cases e with
 | normal =>
  obtain⟨i,s',Φ',j,k,m,p⟩:=d
  exact⟨i,k,s',Φ',j,m,p⟩
 | exit id=>exact d
 | goto l=>exact d
 | ret=>exact d
 | panic ch=>exact d
 | outgrown=>exact d
theorem bD {J:Nat→St→(World→Prop)→Prop}{n:Nat}(b:Nat)(c:b<n)(h:J b s Φ):SXq N S0 w0 (Exit.then (Zi7 N S0 w0 J n) Q .normal) s Φ:=fun _ _ _ hi=>⟨b,s,Φ,_,c,h,hi⟩
theorem ZcS {x y:Code}(J:St→(World→Prop)→Prop)(d:SXc P N S0 w0 (Exit.then (fun a w=>∃ s' Φ' L',J s' Φ'∧Inv N S0 w0 s' Φ' L' a w) Q) x s Φ)(f:∀ s Φ,J s Φ→SXc P N S0 w0 Q y s Φ):SXc P N S0 w0 Q (.seq x y) s Φ:=fun L a w hi=>by
 refine wp_seq (wp_mono (d L a w hi) ?_)
 intro e g w' b
 cases e with
 | normal =>
  obtain⟨s',Φ',L',c,h⟩:=b
  exact f s' Φ' c L' g w' h
 | exit id=>exact b
 | goto l=>exact b
 | ret=>exact b
 | panic ch=>exact b
 | outgrown=>exact b
theorem Zso {J:St→(World→Prop)→Prop}(h:J s Φ):SXq N S0 w0 (Exit.then (fun a w=>∃ s' Φ' b,J s' Φ'∧Inv N S0 w0 s' Φ' b a w) Q .normal) s Φ:=fun _ _ _ hi=>⟨s,Φ,_,h,hi⟩
theorem ZcT {n i:Nat}(d:Nat){α:Type}[c:Nonempty α](sh:α→Value)(φ:α→World→Prop)(hi:Nat.blt i n=true)(e:cls (opAt ops i).op=2)(f:s.wantB ops (opAt ops i)=some true)(g:jD (opAt ops i).op=true)(h:(opAt ops i).op.operands.toList.all s.vB=true)(j:(opAt ops i).dst=some d)(k:Nat.blt d N=true)(b:∀ w,Fr S0 w0 w→Φ w→Does P (opAt ops i) s.rho w (DoR sh φ w))(K:∀ x,StI P N S0 w0 ops Φ0 Q n (i+1) (s.put d (.v (sh x))) (fun w=>Φ w∧φ x w)):StI P N S0 w0 ops Φ0 Q n i s Φ:=by
 have l:i<n:=tT hi
 unfold StI
 rw[show n-i=(n-(i+1))+1 by omega,List.range'_succ]
 exact .does c sh φ e f g h j (tT k) b K
end
def eI (w:World) (v:Value) (xs:List Nat):Prop:=∃ A c,v=.slice A xs.length c∧xs.length≤c∧zI .u32 w A xs
theorem eI.nrb {S:Nat→Prop}{w w':World}{v:Value}{xs:qN}(h:eI w v xs)(b:∀ i,S i→NRB w i)(d:Fr S w w'):eI w' v xs:=by
 obtain⟨A,c,e,f,g⟩:=h
 exact⟨A,c,e,f,g.nrb qD b d⟩
theorem eI.shows {w:World}{A:qA}{l c:Nat}{xs:qN}(h:eI w (.slice A l c) xs):xs.length=l∧xs.length≤c∧zI .u32 w A xs:=by
 obtain⟨f,g,b,d,e⟩:=h
 injection b with e1 e2 e3
 subst e1;subst e3
 exact⟨e2.symm,d,e⟩
theorem zW.row {w:World}{v:Value}{n:Nat}(h:zW w v n):∃ b,eI w v b∧Dig W32 b∧Trim b∧val W32 b=n:=by
 obtain⟨A,b,c,d,e,f,g⟩:=h
 exact⟨b,⟨A,c,d,e,f⟩,g⟩
theorem ZhJ {P:Program}(w:World)(t C e:TypeId)(k:IntKind)(bytes:Nat)(H:P.underlying t=some (.slice e))(q:(P.info? e).map (fun i=>(i.zero,i.size,i.bytes))=some (some (.int k 0),1,bytes))(b a:Addr)(n m cap c:Nat)(xs news:qN)(I:xs.length=n)(J:news.length=m)(K:zI k w (some b) xs)(M:zI k w (some a) news)(O:cap<n+m)(y:n+m≤maxLen)(l:(n+m)*bytes≤140737488355328) :
 ∃ g p w',(Builtin.append_ #[t,t] C #[.slice (some b) n cap,.slice (some a) m c]).run P w=.ok (.slice (some ⟨g,0,none⟩) (n+m) p) w'∧n+m≤p∧Own k e w' g (xs ++ news)∧Ext w w':=by
 obtain⟨i,hi,R,D,z⟩:=info_parts q
 have f:∀ (r:List Nat) (d:Addr),zI k w (some d) r→∀ j u,(r.map fun x:Nat=>Value.int k (x:Int))[j]? = some u→w.cell? (d.add j)=some u:=by
  intro r d S j u E
  rw[nW] at E
  obtain⟨x,F,rfl⟩:=vM.1 E
  have T:j<r.length:=(List.getElem?_eq_some_iff.1 F).1
  obtain⟨W,U,h,_,A⟩:=S.at T
  injection h with h
  subst h
  rw[F] at A
  by_cases G:j=0
  ·subst G;simpa [Addr.add] using A
  simpa [Addr.add,G] using A
 have V:=run_append_grow (P:=P) (w:=w) t C e i (.int k 0) H hi R b n cap (xs.map fun x:Nat=>Value.int k (x:Int)) (by rw[D];simp[I]) (f _ _ K) a m c (news.map fun x:Nat=>Value.int k (x:Int)) (by rw[D];simp[J]) (f _ _ M) O (by simp only[maxLen] at y;omega) (growslice_fits qO (by rw[z];exact l))
 refine⟨_,_,_,V,?_,?_,((Fr.refl _ _).drew).alloc _⟩
 ·exact grownCap_ge _ _ _ _
 refine⟨(Builtin.zeroCells (Value.int k 0).cells (grownCap w (n+m) cap e-(n+m))).toList,fun v B=>?_,?_⟩
 ·rw[Array.mem_toList_iff] at B
  simp only[Builtin.zeroCells] at B
  obtain⟨j,_,rfl⟩:=Array.mem_map.1 B
  exact⟨0,by simp[Value.cells,mM]⟩
 rw[show w.heap.size=w.drew.heap.size from rfl,heap_alloc_new]
 simp[lN]
theorem Own.row {e:TypeId}{w:World}{g c:Nat}{xs:qN}(h:Own .u32 e w g xs)(b:xs.length≤c):eI w (.slice (some ⟨g,0,none⟩) xs.length c) xs:=⟨_,c,rfl,b,h.shows0⟩
theorem ZiX {P:Program}{o:Oper}{ρ:Operand→Value}{w:World}{x y:Operand}{t e:TypeId}(q:o.op=.call { callee:=.builtin .append,args:=#[x,y],argTypes:=#[t,t] })(r:P.underlying t=some (.slice e))(f:(P.info? e).map (fun i=>(i.zero,i.size,i.bytes))=some (some (.int .u32 0),1,4)){b:Addr}{A:qA}{n m cap c:Nat}(u:ρ x=.slice (some b) n cap)(v:ρ y=.slice A m c){xs news:qN}(B:eI w (.slice (some b) n cap) xs)(C:eI w (.slice A m c) news)(D:cap<n+m)(h:n+m≤35184372088832):Does P o ρ w (DoR xI (fun z w=>eI w (xI z) (xs ++ news)) w):=by
 obtain⟨k,M,E⟩:=B.shows
 obtain⟨j,O,l⟩:=C.shows
 obtain⟨a,rfl⟩:∃ a,A=some a:=by
  cases news with
  | nil=>simp at j;omega
  | cons z zs=>obtain⟨g,F,e,_⟩:=l.at (i:=0) qS;exact⟨_,e⟩
 obtain⟨g,d,w',G,R,H,p⟩:=ZhJ (P:=P) w t o.type e .u32 4 r f b a n m cap c xs news k j E l D (by simp only[maxLen];omega) qO
 refine Or.inl ⟨.slice (some ⟨g,0,none⟩) (n+m) d,w',?_,(some ⟨g,0,none⟩,n+m,d),rfl,p,boxn p (fun S I J K=>?_)⟩
 ·simp only[execOp,q,resolve,invoke,builtin,Sem.run_bind,Sem.run_pure,Result.andThen_ok,List.map_toArray,oO,nB,u,v,G]
 have:=(H.row (c:=d) (by simp;omega)).nrb J K
 simpa [xI,k,j] using this
theorem Zk8 {P:Program}{o:Oper}{ρ:Operand→Value}{w:World}{l c:Operand}{t e:TypeId}(g:o.op=Op.makeSlice t l c)(j:P.underlying t=some (.slice e))(f:(P.info? e).map (fun i=>(i.zero,i.size,i.bytes))=some (some (.int .u32 0),1,4)){kl kc:IntKind}{n:Nat}(k:ρ l=.int kl n)(m:ρ c=.int kc n)(h:n≤35184372088832) :
 Does P o ρ w (DoR (fun b:Nat=>.slice (some ⟨b,0,none⟩) n n) (fun b w=>eI w (.slice (some ⟨b,0,none⟩) n n) (List.replicate n 0)) w):=by
 have d:=run_make_row' (P:=P) t e (.int .u32 0) 4 j f rfl kl kc n qO qO w
 rw[Zai] at d
 have Q:Ext w (w.alloc (.cells (lN .u32 (List.replicate n 0) []) e)):=(Fr.refl _ w).alloc _
 refine Or.inl ⟨.slice (some ⟨w.heap.size,0,none⟩) n n,_,by simp[execOp,g,k,m,d,Result.andThen],w.heap.size,rfl,Q,boxn Q (fun S p q r=>?_)⟩
 have:=((Own.new w e .u32 (List.replicate n 0) []).row (c:=n) qS).nrb q r
 simpa using this
section
variable {N:Nat} {S0:Nat→Prop} {w0:World} {s:St} {Φ:World→Prop} {P:Program} {Q:Exit→Act→World→Prop}
theorem xO {c:Code}{sl:SlL}{d:BlL}{Ψ:World→Prop}(J:Nat→St→(World→Prop)→Prop)(e:Nat)(f:J e (ofL sl d) Ψ)(R:∀ w,Φ w→Ψ w)(b:∀ n s Φ,J n s Φ→SXc P N S0 w0 (Exit.then (Zi7 N S0 w0 J n) Q) c s Φ)(g:(sl.map (fun q=>s.sl q.1),d.map (fun q=>s.bl q.1))=(sl.map (fun q=>some q.2),d.map (fun q=>some q.2)):=by kernel_rfl)(h:wfB sl d=true:=by kernel_rfl):SXc P N S0 w0 Q (.loop c) s Φ:=SXc.weak sl d (iN.of g) h R (ZlP J e f b)
theorem xK {J:Nat→St→(World→Prop)→Prop}{n:Nat}{sl:SlL}{b:BlL}{Ψ:World→Prop}(c:Nat)(d:c<n)(h:J c (ofL sl b) Ψ)(R:∀ w,Φ w→Ψ w)(e:(sl.map (fun q=>s.sl q.1),b.map (fun q=>s.bl q.1))=(sl.map (fun q=>some q.2),b.map (fun q=>some q.2)):=by kernel_rfl)(f:wfB sl b=true:=by kernel_rfl):SXq N S0 w0 (Exit.then (Zi7 N S0 w0 J n) Q .normal) s Φ:=SXq.weak sl b (iN.of e) f R (bD c d h)
theorem jB {J:St→(World→Prop)→Prop}{sl:SlL}{b:BlL}{Ψ:World→Prop}(h:J (ofL sl b) Ψ)(R:∀ w,Φ w→Ψ w)(c:(sl.map (fun q=>s.sl q.1),b.map (fun q=>s.bl q.1))=(sl.map (fun q=>some q.2),b.map (fun q=>some q.2)):=by kernel_rfl)(d:wfB sl b=true:=by kernel_rfl):SXq N S0 w0 (Exit.then (fun a w=>∃ s' Φ' e,J s' Φ'∧Inv N S0 w0 s' Φ' e a w) Q .normal) s Φ:=SXq.weak sl b (iN.of c) d R (Zso h)
end
section
variable {N:Nat} {S0:Nat→Prop} {w0:World} {s:St} {Φ:World→Prop} {P:Program} {ops:Array Oper} {Q:Exit→Act→World→Prop}
theorem yD {i:Nat}{α:Type}{d:Nat}(sh:α→Value)(φ:α→World→Prop)(b:∀ w,Fr S0 w0 w→Φ w→Does P (opAt ops i) s.rho w (DoR sh φ w))(K:∀ x,SXi P N S0 w0 ops Q (i+1) (s.put d (.v (sh x))) (fun w=>Φ w ∧ φ x w))(hi:Nat.blt i ops.size=true:=by kernel_rfl)(c:s.wantB ops (opAt ops i)=some true:=by kernel_rfl)(e:jD (opAt ops i).op=true:=by kernel_rfl)(f:(opAt ops i).op.operands.toList.all s.vB=true:=by kernel_rfl)(g:(opAt ops i).dst=some d:=by kernel_rfl)(h:Nat.blt d N=true:=by kernel_rfl):SXi P N S0 w0 ops Q i s Φ:=lU sh φ hi c e f g h b K
theorem yK {i:Nat}(d:Nat)(y:Value)(b:∀ w,Fr S0 w0 w→Φ w→(execOp s.rho (opAt ops i)).run P w=.ok (.value y) w)(K:SXi P N S0 w0 ops Q (i+1) (s.put d (.v y)) Φ)(hi:Nat.blt i ops.size=true:=by kernel_rfl)(c:jD (opAt ops i).op=true:=by kernel_rfl)(e:s.wantB ops (opAt ops i)=some true:=by kernel_rfl)(f:(opAt ops i).op.operands.toList.all s.vB=true:=by kernel_rfl)(g:(opAt ops i).dst=some d:=by kernel_rfl)(h:Nat.blt d N=true:=by kernel_rfl):SXi P N S0 w0 ops Q i s Φ:=Zhy d y hi c e f g h b K
theorem yR {fn:Func}{R:Ending→World→Prop}(v:Value)(b:∀ w,Fr S0 w0 w→Φ w→R (.returned v) w)(h:Zi6 P fn s=some v:=by kernel_rfl):SXq N S0 w0 (bodyPost P fn R .ret) s Φ:=zD h b
theorem yQ {c:Operand}{x y:Code}(b:Bool)(d:b=true→SXc P N S0 w0 Q x s Φ)(e:b=false→SXc P N S0 w0 Q y s Φ)(f:s.eval c=some (.v (.bool b)):=by kernel_rfl):SXc P N S0 w0 Q (.cond c x y) s Φ:=zS b f d e
theorem yO {id:Nat}(n:Nat){sl:SlL}{b:BlL}(c:P.follows .mixedOrders=true)(h:StI P N S0 w0 ops Φ Q n 0 (ofL sl b) Φ)(d:ZrL ops (ofL sl b) n=true:=by kernel_rfl)(e:Ze0 ops sl=true:=by kernel_rfl):SXc P N S0 w0 Q (.region id ops true) (ofL sl b) Φ:=xS n d e c h
theorem yP {q:Act→World→Prop}(sl:SlL)(b:BlL)(Ψ:World→Prop)(Q:∀ w,Φ w→Ψ w)(h:SXq N S0 w0 q (ofL sl b) Ψ)(c:(sl.map (fun q=>s.sl q.1),b.map (fun q=>s.bl q.1))=(sl.map (fun q=>some q.2),b.map (fun q=>some q.2)):=by kernel_rfl)(d:wfB sl b=true:=by kernel_rfl):SXq N S0 w0 q s Φ:=SXq.weak sl b (iN.of c) d Q h
theorem yC {c:Code}(sl:SlL)(b:BlL)(Ψ:World→Prop)(R:∀ w,Φ w→Ψ w)(h:SXc P N S0 w0 Q c (ofL sl b) Ψ)(d:(sl.map (fun q=>s.sl q.1),b.map (fun q=>s.bl q.1))=(sl.map (fun q=>some q.2),b.map (fun q=>some q.2)):=by kernel_rfl)(e:wfB sl b=true:=by kernel_rfl):SXc P N S0 w0 Q c s Φ:=SXc.weak sl b (iN.of d) e R h
theorem yZ {i:Nat}{y:Code}(K:SXc P N S0 w0 Q y s Φ)(h:Nat.ble ops.size i=true:=by kernel_rfl):SXi P N S0 w0 ops (Exit.then (y.wp P Q) Q) i s Φ:=ZtK h (zA K)
theorem yY {id:Nat}{y:Code}(K:SXi P N S0 w0 ops (Exit.then (y.wp P Q) Q) 0 s Φ):SXc P N S0 w0 Q (.seq (.region id ops false) y) s Φ:=zC (zB K)
theorem yM {f:FuncId}{b:Array Value}{w:World}{R T:Ending→World→Prop}(p:∀ {e w'},R e w'→T e w')(h:Calls P f b w R):Calls P f b w T:=h.mono (fun _ _=>p)
end
theorem Zdj (x:ByteArray):(x.toList == x.toList)=true:=qS
theorem ZgH {P:Program}{ρ:Operand→Value}{w:World}{t e:TypeId}{n sz:Nat}{z:Value}{parts:Array (Nat × Operand)}{a:Array Value}(g:P.underlying t=some (.slice e))(b:(P.info? e).map (fun i=>(i.zero,i.size))=some (some z,sz))(j:Nat.ble (n*sz) 1000=true)(hn0:Nat.beq (n*sz) 0=false)(k:Instr.fill (fun i=>some (i*sz,sz)) ((List.range (n*sz)).map (fun i=>z.cells[i%z.cells.size]!)).toArray (parts.toList.map fun q=>(q.1,ρ q.2))=some a) :
 (Instr.buildSlice t n (parts.map fun q:Nat × Operand=>(q.1,ρ q.2))).run P w=.ok (.slice (some ⟨w.heap.size,0,none⟩) n n) (w.alloc (.cells a e)):=by
 obtain⟨i,hi,c⟩:=vM.1 b
 injection c with c h2
 have l:=tT j
 have d:¬ n*sz=0:=fun h=>by rw[h] at hn0;cases hn0
 have f:¬ 2^24<n*sz:=qO
 have m:(Array.range (n*sz)).map (fun i=>z.cells[i%z.cells.size]!)=((List.range (n*sz)).map (fun i=>z.cells[i%z.cells.size]!)).toArray:=by
  apply Array.ext';simp
 have o:(parts.map fun q:Nat × Operand=>(q.1,ρ q.2)).toList=parts.toList.map fun q=>(q.1,ρ q.2):=qS
 unfold Instr.buildSlice
 simp[underlying,g,sizeOf,typeInfo,hi,h2,zeroValue,c,d,f,m,k,newRow,newObj,Result.andThen]
 rfl
theorem kJ {P:Program}{o:Oper}{ρ:Operand→Value}{w:World}{t e:TypeId}{n sz:Nat}{z:Value}{parts:Array (Nat × Operand)}{a:Array Value}(g:o.op=Op.buildSlice t n parts)(j:P.underlying t=some (.slice e))(c:(P.info? e).map (fun i=>(i.zero,i.size))=some (some z,sz))(k:Nat.ble (n*sz) 1000=true)(f:Nat.beq (n*sz) 0=false)(l:Instr.fill (fun i=>some (i*sz,sz)) ((List.range (n*sz)).map (fun i=>z.cells[i%z.cells.size]!)).toArray (parts.toList.map fun q=>(q.1,ρ q.2))=some a) :
 Does P o ρ w (DoR (fun b:Nat=>.slice (some ⟨b,0,none⟩) n n) (fun b w=>Blk e w b a) w):=by
 have d:=ZgH (w:=w) j c k f l
 exact Or.inl ⟨_,_,by simp[execOp,g,d,Result.andThen],w.heap.size,rfl,(Fr.refl _ w).alloc _,fun S m p r=>(Blk.new w e a).fr r (fun h=>by have:=(m _ h).1;omega)⟩
theorem fE {P:Program}{o:Oper}{ρ:Operand→Value}{w:World}{t:TypeId}{x:Operand}{lo hi:Option Operand}{b r:ByteArray}(l h:Nat)(d:o.op=Op.slice t x lo hi none)(e:P.underlying t=some .string)(f:ρ x=.string b)(a:lo.map ρ=none∧l=0∨lo.map ρ=some (.int .i64 l))(c:hi.map ρ=none∧h=b.size∨hi.map ρ=some (.int .i64 h))(g:l≤h)(i:h≤b.size)(j:b.extract l h=r):(execOp ρ o).run P w=.ok (.value (.string r)) w:=by
 subst j
 rcases a with ⟨a,rfl⟩|a<;>rcases c with ⟨c,rfl⟩|c <;>
  simp[execOp,d,Instr.sliceAt,Instr.slice,Instr.sliceBounds,Instr.sliceBound,asIntOf,underlying,e,f,a,c,g,i,Result.andThen]
theorem Zbe {P:Program}{o:Oper}{ρ:Operand→Value}{w:World}{t k:TypeId}{x y:Operand}{a b r:ByteArray}(c:o.op=Op.binOp .add t x y k)(d:ρ x=.string a)(e:ρ y=.string b)(g:a.size+b.size≤1099511627776)(f:a ++ b=r):(execOp ρ o).run P w=.ok (.value (.string r)) w:=by
 have h:¬ ((a.size+b.size:Nat):Int)>IntKind.i64.max:=by
  have:IntKind.i64.max=9223372036854775807:=qD
  rw[this];omega
 simp only[execOp,c,d,e,eqGuard,binOp,Op.stringOp,uI h,f]
 rfl
open Classical in
theorem Fr.split {A B:Nat→Prop}{w w2:World}(h:Fr (fun i=>A i∨B i) w w2):∃ l,Fr A w l∧Fr B l w2:=by
 have m:∀ i,i<w2.heap.size→(w2.heap.mapIdx fun i o=>if A i∨w.heap.size≤i then o else (w.heap[i]?).getD o)[i]? = if A i∨w.heap.size≤i then w2.heap[i]? else w.heap[i]? := by
  intro i hi
  rw[Array.getElem?_mapIdx,Array.getElem?_eq_getElem hi]
  by_cases b:A i∨w.heap.size≤i
  ·simp[b]
  have d:i<w.heap.size:=by
   rcases vO i w.heap.size with c|c
   ·exact c
   exact absurd (Or.inr c) b
  simp only[b,rE,oK,Array.getElem?_eq_getElem d,qW]
 refine⟨{ w2 with heap:=w2.heap.mapIdx fun i o=>if A i∨w.heap.size≤i then o else (w.heap[i]?).getD o },⟨h.os,h.tape,h.output,?_,fun i hi g=>?_⟩,⟨rfl,rfl,rfl,?_,fun i hi n=>?_⟩⟩
 ·simpa using h.size
 ·have f:=m i (uT hi h.size)
  rw[uI (fun b=>b.elim g (fun c=>qO))] at f
  exact f
 ·simp
 have j:i<w2.heap.size:=by simpa using hi
 have f:=m i j
 by_cases b:A i∨w.heap.size≤i
 ·rw[uM b] at f;exact f.symm
 rw[uI b] at f
 have d:i<w.heap.size:=by
  rcases vO i w.heap.size with c|c
  ·exact c
  exact absurd (Or.inr c) b
 exact (h.block i d (fun c=>c.elim (fun g=>b (Or.inl g)) n)).trans f.symm
theorem bl2 (b:Bool):b=true∨b=false:=by cases b<;>simp
theorem Own.same {k:IntKind}{t:TypeId}{w w':World}{b:Nat}{xs:qN}(h:Own k t w b xs)(e:w'.heap[b]? = w.heap[b]?):Own k t w' b xs:=by
 obtain⟨tail,c,d⟩:=h
 exact⟨tail,c,e.trans d⟩
section
variable {N:Nat} {S0:Nat→Prop} {w0:World} {s:St} {Φ Ψ:World→Prop} {L:Nat→Nat} {a:Act} {w:World} {P:Program} {ops:Array Oper} {Q:Exit→Act→World→Prop}
theorem Inv.notOwn (h:Inv N S0 w0 s Φ L a w){r j:Nat}{c:Value}(f:∀ w,Φ w→w.cell? ⟨r,j,none⟩=some c):¬ s.own L r:=fun g=>by
 have i:=f w h.box.self
 have b:∀ u:Value,u≠c→False:=fun u l=>by
  have d:=f (w.setCell ⟨r,j,none⟩ u) (h.box _ ((Fr.refl _ _).setCell (p:=⟨r,j,none⟩) (Or.inl g) u))
  rw[World.cell?_setCell_same _ _ _ i] at d
  injection d with d
  exact l d
 by_cases e:c=.bool true
 ·exact b (.bool false) (by rw[e];intro h;cases h)
 exact b (.bool true) (fun h=>e h.symm)
theorem Inv.eff (h:Inv N S0 w0 s Φ L a w){w':World}{r:Nat}(d:Fr (fun i=>i=r) w w')(g:¬ s.own L r)(c:w0.heap.size≤r∨S0 r)(f:r<w.heap.size)(m:∀ w1 w2,Φ w1→Fr (fun i=>i=r) w1 w2→w2.heap[r]? = w'.heap[r]? → Ψ w2):Inv N S0 w0 s Ψ L a w':=by
 refine⟨h.size,h.df,h.sl,⟨fun b t n e=>(h.mem.blk b t n e).fr d (fun p=>g ⟨b,by rw[e];rfl,p⟩),h.mem.inj,h.mem.old,h.mem.ext.next d (fun i hi e=>?_),h.mem.slp,h.mem.cel⟩,fun w2 j=>?_⟩
 ·rcases c with l|l
  ·omega
  rw[e];exact l
 have q:Fr (fun i=>s.own L i∨i=r) w w2:=(d.mono (fun i _ e=>Or.inr e)).trans (j.mono (fun i _ e=>Or.inl e))
 obtain⟨w1,u,v⟩:=q.split
 exact m w1 w2 (h.box w1 u) v (j.block r (uT f d.size) g)
theorem ZgI {α:Type}(l:List α)(j:Nat)(c:α)(h:j<l.length):lM l j [c]=l.set j c:=by
 unfold lM
 rw[List.set_eq_take_append_cons_drop,uM h]
 simp
theorem ZjJ {t e:TypeId}{k:IntKind}{b j:Nat}{xs:qN}(m:(teOf P t).map (fun e=>e.size)=some 1)(d:Own k e w b xs)(n:j<xs.length)(v:Nat) :
 ∃ w',(Instr.storeAt t (.pointer (some ⟨b,j,none⟩)) (.int k (v:Int))).run P w=.ok () w'∧Own k e w' b (xs.set j v)∧Fr (fun i=>i=b) w w':=by
 obtain⟨z,f,p⟩:=vM.1 m
 obtain⟨tail,q,d⟩:=d
 obtain⟨w',r,h,u⟩:=ZaE (P:=P) f (g:=b) (bt:=e) (off:=j) (cur:=(xs.map fun x:Nat=>Value.int k (x:Int)) ++ tail) (v:=.int k (v:Int)) d (by rw[p];rfl) (by simp[Value.cells];omega) (fun c l=>by simp[Value.cells] at l;rw[l];rfl)
 refine⟨w',r,⟨tail,q,?_⟩,u⟩
 have y:lM ((xs.map fun x:Nat=>Value.int k (x:Int)) ++ tail) j (Value.cells (.int k (v:Int))).toList=((xs.set j v).map fun x:Nat=>Value.int k (x:Int)) ++ tail:=by
  rw[show (Value.cells (.int k (v:Int))).toList=[.int k (v:Int)] from rfl,ZgI _ _ _ (by simp;omega),List.set_append_left _ _ (by simpa using n),List.map_set]
 rw[y] at h
 exact h
theorem iS {i:Nat}{t e:TypeId}{k:IntKind}{x y:Operand}{xs:qN}(b j v:Nat)(Ψ:World→Prop)(l:∀ w,Φ w→Own k e w b xs)(m:j<xs.length)(c:w0.heap.size≤b∨S0 b)(n:∀ w w',Φ w→Fr (fun i=>i=b) w w'→Own k e w' b (xs.set j v)→Ψ w')(K:SXi P N S0 w0 ops Q (i+1) s Ψ)(g:Nat.blt i ops.size=true:=by kernel_rfl)(p:s.wantB ops (opAt ops i)=some true:=by kernel_rfl)(q:(opAt ops i).op=.store t x y:=by kernel_rfl)(r:(opAt ops i).dst=none:=by kernel_rfl)(u:(teOf P t).map (fun e=>e.size)=some 1:=by kernel_rfl)(z:s.eval x=some (.v (.pointer (some ⟨b,j,none⟩))):=by kernel_rfl)(A:s.eval y=some (.v (.int k (v:Int))):=by kernel_rfl):SXi P N S0 w0 ops Q i s Φ:=by
 unfold SXi
 rw[gU g]
 intro L a w hi
 refine wpList_step fun M B=>?_
 rw[uM (hi.want p)]
 have d:=l w hi.box.self
 obtain⟨w',C,h,D⟩:=ZjJ (P:=P) u d m v
 unfold Oper.wp
 have ex:=hi.eval z
 have E:=hi.eval A
 have f:(execOp a.eval (opAt ops i)).run P w=.ok .skip w':=by simp only[execOp,q,Sem.run_bind,ex,E,AV.conc,C,Result.andThen_ok,Sem.run_pure]
 rw[f,Oper.upon_skip,r]
 refine B _ _ (K L _ _ (hi.eff D (hi.notOwn (fun w R=>(l w R).cell m)) c d.lt (fun F G H I J=>n F G H I (h.same J))))
theorem Zdk {i d:Nat}{e:TypeId}{k:IntKind}{xs:qN}{α:Type}(f:FuncId)(args:List Value)(sh:α→Value)(p:α→Prop)(zs:α→List Nat)(b:Nat)(Ψ:α→World→Prop)(l:∀ w,Φ w→Own k e w b xs)(n:0<xs.length)(c:w0.heap.size≤b∨S0 b)(q:∀ w,Fr S0 w0 w→Φ w→Calls P f args.toArray w (fun en w'=>∃ x,en=.returned (sh x)∧p x∧Fr (fun i=>i=b) w w'∧Own k e w' b (zs x)))(r:∀ x w w',p x→Φ w→Fr (fun i=>i=b) w w'→Own k e w' b (zs x)→Ψ x w')(K:∀ x,p x→SXi P N S0 w0 ops Q (i+1) (s.put d (.v (sh x))) (Ψ x))(g:Nat.blt i ops.size=true:=by kernel_rfl)(h:fL P N ops (opAt ops i) s=some (f,args,d):=by kernel_rfl):SXi P N S0 w0 ops Q i s Φ:=by
 obtain⟨u,y,z,A,B,C,D⟩:=eO h
 unfold SXi
 rw[gU g]
 intro L a w hi
 refine wpList_step fun T E=>?_
 rw[uM (hi.want u)]
 unfold Oper.wp
 rw[hi.exec A B,ZaX y C,Oper.upon_enter]
 refine Calls.mono (q w hi.mem.ext hi.box.self) fun en w' F=>?_
 obtain⟨x,rfl,m,G,j⟩:=F
 simp only[z]
 have H:=hi.app0 (d:=d) D (al_v (s:=s) (sh x))
 exact E _ _ (K x m L _ _ (H.eff G (hi.notOwn (fun w R=>(l w R).cell n)) c (l w hi.box.self).lt (fun I J M O S=>r x I J m M O (j.same S))))
theorem Zdl {i d:Nat}{t e:TypeId}{k kl kc:IntKind}{l c:Operand}(n bytes:Nat)(hn:n≤35184372088832)(A:bytes≤8)(K:∀ b,w0.heap.size≤b→(∀ r,(∀ w,Φ w→r<w.heap.size)→r<b)→SXi P N S0 w0 ops Q (i+1) (s.put d (Λ (some ⟨b,0,none⟩) n n)) (fun w=>Box (fun j=>b≤j) w Φ∧Own k e w b (List.replicate n 0)))(B:Nat.blt i ops.size=true:=by kernel_rfl)(G:s.wantB ops (opAt ops i)=some true:=by kernel_rfl)(H:(opAt ops i).op.operands.toList.all s.vB=true:=by kernel_rfl)(F:(opAt ops i).op=Op.makeSlice t l c:=by kernel_rfl)(I:(opAt ops i).dst=some d:=by kernel_rfl)(J:Nat.blt d N=true:=by kernel_rfl)(M:P.underlying t=some (.slice e):=by kernel_rfl)(u:(P.info? e).map (fun i=>(i.zero,i.size,i.bytes))=some (some (.int k 0),1,bytes):=by kernel_rfl)(O:s.rho l=.int kl n:=by kernel_rfl)(S:s.rho c=.int kc n:=by kernel_rfl):SXi P N S0 w0 ops Q i s Φ:=by
 unfold SXi
 rw[gU B]
 intro L a w hi
 refine wpList_step fun K' T=>?_
 rw[uM (hi.want G)]
 unfold Oper.wp
 have C:jD (opAt ops i).op=true:=by rw[F];rfl
 have U:bytes*n≤8*n:=uE n A
 rw[hi.exec C H]
 have p:=run_make_row' (P:=P) t e (.int k 0) bytes M u rfl kl kc n qO qO w
 rw[Zai] at p
 have y:(execOp s.rho (opAt ops i)).run P w=.ok (.value (.slice (some ⟨w.heap.size,0,none⟩) n n)) (w.alloc (.cells (lN k (List.replicate n 0) []) e)):=by simp[execOp,F,O,S,p,Result.andThen]
 rw[y,Oper.upon_value,I]
 have R:Ext w (w.alloc (.cells (lN k (List.replicate n 0) []) e)):=(Fr.refl _ w).alloc _
 have m:=hi.app0 (d:=d) (tT J) (al_v (s:=s) (.slice (some ⟨w.heap.size,0,none⟩) n n))
 have V:=Own.new w e k (List.replicate n 0) []
 refine T _ _ (K w.heap.size hi.mem.ext.size (fun r h=>h w hi.box.self) L _ _ ⟨m.size,m.df,m.sl,⟨fun b t W e=>(m.mem.blk b t W e).ext R,m.mem.inj,m.mem.old,m.mem.ext.ext R,m.mem.slp,m.mem.cel⟩,fun w2 z=>⟨fun X g=>?_,?_⟩⟩)
 ·refine hi.box X ⟨g.os.trans (z.os.trans R.os),g.tape.trans (z.tape.trans R.tape),g.output.trans (z.output.trans R.output),uA R.size (uA z.size g.size),fun j D E=>?_⟩
  have Y:=R.block j D (fun f=>f)
  have Z:=z.block j (uT D R.size) E
  have h3:=g.block j (uT D (uA R.size z.size)) qO
  exact h3.trans (Z.trans Y)
 refine V.fr z fun⟨b,hb,eb⟩=>?_
 obtain⟨q,eq⟩:=sY.1 hb
 have:=(hi.mem.blk b q.1 q.2 eq).lt
 omega
theorem SXi.know {i:Nat}{p:Prop}(h:∀ w,Fr S0 w0 w→Φ w→p)(K:p→SXi P N S0 w0 ops Q i s Φ):SXi P N S0 w0 ops Q i s Φ:=fun L a w hi=>K (h w hi.mem.ext hi.box.self) L a w hi
theorem Zqt {i d:Nat}{e:TypeId}{k:IntKind}(f:FuncId)(args:List Value)(xs:qN)(A:∀ w,Fr S0 w0 w→Φ w→Calls P f args.toArray w (fun en w'=>∃ b c,en=.returned (.slice (some ⟨b,0,none⟩) xs.length c)∧w.heap.size≤b∧xs.length≤c∧Ext w w'∧Own k e w' b xs))(K:∀ b c,w0.heap.size≤b→xs.length≤c→(∀ r,(∀ w,Φ w→r<w.heap.size)→r<b)→SXi P N S0 w0 ops Q (i+1) (s.put d (Λ (some ⟨b,0,none⟩) xs.length c)) (fun w=>Box (fun j=>b≤j) w Φ∧Own k e w b xs))(n:Nat.blt i ops.size=true:=by kernel_rfl)(h:fL P N ops (opAt ops i) s=some (f,args,d):=by kernel_rfl):SXi P N S0 w0 ops Q i s Φ:=by
 obtain⟨B,C,D,E,F,G,H⟩:=eO h
 unfold SXi
 rw[gU n]
 intro L a w hi
 refine wpList_step fun K' I=>?_
 rw[uM (hi.want B)]
 unfold Oper.wp
 rw[hi.exec E F,ZaX C G,Oper.upon_enter]
 refine Calls.mono (A w hi.mem.ext hi.box.self) fun en w' J=>?_
 obtain⟨b,c,rfl,z,M,R,O⟩:=J
 simp only[D]
 have l:=hi.app0 (d:=d) H (al_v (s:=s) (.slice (some ⟨b,0,none⟩) xs.length c))
 refine I _ _ (K b c (uA hi.mem.ext.size z) M (fun r h=>uT (h w hi.box.self) z) L _ _ ⟨l.size,l.df,l.sl,⟨fun b t S e=>(l.mem.blk b t S e).ext R,l.mem.inj,l.mem.old,l.mem.ext.ext R,l.mem.slp,l.mem.cel⟩,fun w2 m=>⟨fun T g=>?_,?_⟩⟩)
 ·refine hi.box T ⟨g.os.trans (m.os.trans R.os),g.tape.trans (m.tape.trans R.tape),g.output.trans (m.output.trans R.output),uA R.size (uA m.size g.size),fun j p u=>?_⟩
  have U:=R.block j p (fun f=>f)
  have V:=m.block j (uT p R.size) u
  have W:=g.block j (uT p (uA R.size m.size)) qO
  exact W.trans (V.trans U)
 refine O.fr m fun X=>?_
 obtain⟨Y,y,eb⟩:=X
 obtain⟨q,Z⟩:=sY.1 y
 have:=(hi.mem.blk Y q.1 q.2 Z).lt
 omega
theorem Zsp {i d:Nat}{dT sT e:TypeId}{k:IntKind}{dx sx:Operand}{sp:qA}{n m dc sc:Nat}{mid ys:qN}(b:Nat)(Ψ:World→Prop)(B:mid.length=n)(C:ys.length=m)(f:0<mid.length)(y:∀ w,Φ w→Own k e w b mid)(D:∀ w,Φ w→zI k w sp ys)(g:w0.heap.size≤b∨S0 b)(E:∀ w w',Φ w→Fr (fun i=>i=b) w w'→Own k e w' b (ys.take mid.length ++ mid.drop ys.length)→Ψ w')(K:SXi P N S0 w0 ops Q (i+1) s Ψ)(l:Nat.blt i ops.size=true:=by kernel_rfl)(F:(opAt ops i).guard=none:=by kernel_rfl)(G:(opAt ops i).op=.call { callee:=.builtin .copy,args:=#[dx,sx],argTypes:=#[dT,sT] }:=by kernel_rfl)(p:(opAt ops i).dst=some d:=by kernel_rfl)(H:(s.sl d).isNone=true:=by kernel_rfl)(I:P.underlying dT=some (.slice e):=by kernel_rfl)(J:(P.info? e).map (·.size)=some 1:=by kernel_rfl)(M:s.eval dx=some (Λ (some ⟨b,0,none⟩) n dc):=by kernel_rfl)(O:s.eval sx=some (Λ sp m sc):=by kernel_rfl):SXi P N S0 w0 ops Q i s Φ:=by
 unfold SXi
 rw[gU l]
 intro L a w hi
 have ex:=hi.eval M
 have S:=hi.eval O
 have h:=y w hi.box.self
 refine Zba F dx sx dT sT G e k I J (some ⟨b,0,none⟩) sp n m dc sc ex S b [] mid [] ys B C (by simpa using h) (D w hi.box.self) (fun _=>rfl) ?_
 intro w' z q _ T _
 have r:Own k e w' b (ys.take mid.length ++ mid.drop ys.length):=by simpa using q
 have c:=hi.eff T (hi.notOwn (fun w R=>(y w R).cell f)) g h.lt (fun U V c W X=>E U V c W (r.same X))
 have hsl:s.sl d=none:=by simpa using H
 refine K L _ _ ⟨by rw[p];simp[Act.put,c.size],by rw[p];exact c.df,fun j x A=>?_,c.mem,c.box⟩
 have u:d≠j:=fun e=>by rw[e,A] at hsl;cases hsl
 have:=c.sl j x A
 rw[p]
 simp[Act.put,Array.getElem?_setIfInBounds_ne u,this]
theorem xj {b:World→Prop}{n i:Nat}(d:Nat)(y:Value)(c:∀ w,b w→(execOp s.rho (opAt ops i)).run P w=.ok (.value y) w)(K:StI P N S0 w0 ops b Q n (i+1) (s.put d (.v y)) Φ)(hi:Nat.blt i n=true:=by kernel_rfl)(f:Zee (opAt ops i).op=true:=by kernel_rfl)(g:s.wantB ops (opAt ops i)=some true:=by kernel_rfl)(h:(opAt ops i).op.operands.toList.all s.vB=true:=by kernel_rfl)(j:(opAt ops i).dst=some d:=by kernel_rfl)(l:Nat.blt d N=true:=by kernel_rfl):StI P N S0 w0 ops b Q n i s Φ :=
 Ze2 d y hi f g h j l c K
end
def atA (A:Option Addr) (i:Nat):Value:=.pointer (A.map (·.add i))
section
variable {P:Program} {o:Oper} {ρ:Operand→Value} {w:World} {t e:TypeId} {x ix:Operand} {k:IntKind} {xs:List Nat}
theorem wT {A:qA}{len cap i:Nat}(hA:A≠none)(h:i<len)(c:o.op=Op.indexAddr t x ix:=by kernel_rfl)(d:P.underlying t=some (.slice e):=by kernel_rfl)(f:(P.info? e).map (fun i=>i.size)=some 1:=by kernel_rfl)(g:ρ x=.slice A len cap:=by kernel_rfl)(hi:ρ ix=.int .i64 (i:Int):=by kernel_rfl):(execOp ρ o).run P w=.ok (.value (atA A i)) w:=by
 obtain⟨j,b,l⟩:=vM.1 f
 obtain⟨a,rfl⟩:∃ a,A=some a:=by cases A;exact absurd rfl hA;exact⟨_,rfl⟩
 have m:(0:Int)≤(i:Int)∧(i:Int)<(len:Int):=qO
 simp[execOp,c,Instr.indexAt,asIntOf,underlying,d,g,hi,h,sizeOf,typeInfo,b,l,Result.andThen,atA]
theorem iL {g off len cap i:Nat}(h:i<len)(b:o.op=Op.indexAddr t x ix:=by kernel_rfl)(c:P.underlying t=some (.slice e):=by kernel_rfl)(d:(P.info? e).map (fun i=>i.size)=some 1:=by kernel_rfl)(f:ρ x=.slice (some ⟨g,off,none⟩) len cap:=by kernel_rfl)(hi:ρ ix=.int .i64 (i:Int):=by kernel_rfl):(execOp ρ o).run P w=.ok (.value (.pointer (some ⟨g,off+i,none⟩))) w:=by
 rw[wT (A:=some ⟨g,off,none⟩) qS h b c d f hi,atA,rE,jL]
theorem kV {g len cap i:Nat}(h:i<len)(b:o.op=Op.indexAddr t x ix:=by kernel_rfl)(c:P.underlying t=some (.slice e):=by kernel_rfl)(d:(P.info? e).map (fun i=>i.size)=some 1:=by kernel_rfl)(f:ρ x=.slice (some ⟨g,0,none⟩) len cap:=by kernel_rfl)(hi:ρ ix=.int .i64 (i:Int):=by kernel_rfl):(execOp ρ o).run P w=.ok (.value (.pointer (some ⟨g,i,none⟩))) w:=by
 have:=iL (w:=w) h b c d f hi
 rwa [vZ] at this
theorem wN {g off:Nat}{c:Value}(b:w.cell? ⟨g,off,none⟩=some c)(d:o.op=Op.load t x:=by kernel_rfl)(f:ρ x=.pointer (some ⟨g,off,none⟩):=by kernel_rfl)(ha:(teOf P t).map (fun e=>e.agg)=some false:=by kernel_rfl) :
 (execOp ρ o).run P w=.ok (.value c) w:=by
 obtain⟨e,h,i⟩:=vM.1 ha
 have:=Zcx (P:=P) (w:=w) h b i
 simp only[execOp,d,f,Sem.run_bind,this,Result.andThen_ok,Sem.run_pure]
theorem fO {b j:Nat}(c:Own k e w b xs)(d:j<xs.length)(f:o.op=Op.load t x:=by kernel_rfl)(g:ρ x=.pointer (some ⟨b,j,none⟩):=by kernel_rfl)(ha:(teOf P t).map (fun e=>e.agg)=some false:=by kernel_rfl) :
 (execOp ρ o).run P w=.ok (.value (.int k ((xs[j]?.getD 0:Nat):Int))) w:=wN (c.cell d) f g ha
theorem lL {A:qA}{j:Nat}(b:zI k w A xs)(c:j<xs.length)(d:o.op=Op.load t x:=by kernel_rfl)(f:ρ x=atA A j:=by kernel_rfl)(ha:(teOf P t).map (fun e=>e.agg)=some false:=by kernel_rfl) :
 (execOp ρ o).run P w=.ok (.value (.int k ((xs[j]?.getD 0:Nat):Int))) w:=by
 obtain⟨g,h,rfl,_,i⟩:=b.at c
 exact wN i d (by rw[f,atA,rE,jL]) ha
theorem ZtR {A:qA}{len cap h:Nat}{hi:Operand}(c:h≤cap)(d:o.op=Op.slice t x none (some hi) none:=by kernel_rfl)(f:P.underlying t=some (.slice e):=by kernel_rfl)(g:(P.info? e).map (fun i=>i.size)=some 1:=by kernel_rfl)(j:ρ x=.slice A len cap:=by kernel_rfl)(l:ρ hi=.int .i64 (h:Int):=by kernel_rfl):(execOp ρ o).run P w=.ok (.value (.slice A h cap)) w:=by
 obtain⟨m,b,_⟩:=vM.1 g
 have n:A.map (fun a=>a.add 0)=A:=by cases A with
  | none=>rfl
  | some a=>simp[Addr.add]
 simp[execOp,d,Instr.sliceAt,Instr.slice,Instr.sliceBounds,Instr.sliceBound,asIntOf,underlying,f,j,l,c,sizeOf,typeInfo,b,Result.andThen,n]
theorem Zsq {g len cap off l h n m:Nat}{lo hi:Operand}(d:l≤h)(b:h≤cap)(j:l<cap)(p:h-l=n)(q:cap-l=m)(r:o.op=Op.slice t x (some lo) (some hi) none:=by kernel_rfl)(u:P.underlying t=some (.slice e):=by kernel_rfl)(v:(P.info? e).map (fun i=>i.size)=some 1:=by kernel_rfl)(y:ρ x=.slice (some ⟨g,off,none⟩) len cap:=by kernel_rfl)(z:ρ lo=.int .i64 (l:Int):=by kernel_rfl)(A:ρ hi=.int .i64 (h:Int):=by kernel_rfl):(execOp ρ o).run P w=.ok (.value (.slice (some ⟨g,off+l,none⟩) n m)) w:=by
 subst p q
 obtain⟨B,c,C⟩:=vM.1 v
 have f:¬ cap=l:=qO
 simp[execOp,r,Instr.sliceAt,Instr.slice,Instr.sliceBounds,Instr.sliceBound,asIntOf,underlying,u,y,z,A,d,b,sizeOf,typeInfo,c,C,Result.andThen,f,jL]
theorem Zqu {g len cap l h n m:Nat}{lo hi:Operand}(c:l≤h)(b:h≤cap)(d:l<cap)(f:h-l=n)(j:cap-l=m)(p:o.op=Op.slice t x (some lo) (some hi) none:=by kernel_rfl)(q:P.underlying t=some (.slice e):=by kernel_rfl)(r:(P.info? e).map (fun i=>i.size)=some 1:=by kernel_rfl)(u:ρ x=.slice (some ⟨g,0,none⟩) len cap:=by kernel_rfl)(v:ρ lo=.int .i64 (l:Int):=by kernel_rfl)(y:ρ hi=.int .i64 (h:Int):=by kernel_rfl):(execOp ρ o).run P w=.ok (.value (.slice (some ⟨g,l,none⟩) n m)) w:=by
 have:=Zsq (w:=w) c b d f j p q r u v y
 rwa [vZ] at this
theorem zI.ne {A:qA}(b:zI k w A xs){j:Nat}(c:j<xs.length):A≠none:=by
 obtain⟨g,d,rfl,_⟩:=b.at c
 intro h;cases h
end
def ZaJ (ops:Array Oper) (i k:Nat):List Nat:=((ops.toList.drop i).take k).filterMap (fun o=>o.dst)
def ZaK (l:List Nat) (sl:SlL):SlL:=sl.filter (fun q => !(l.any (Nat.beq q.1)))
def Zi8 (nb:BlL) (bl:BlL):BlL:=bl.filter (fun q => !(nb.any (fun p=>Nat.beq p.1 q.1)))
section
variable {N:Nat} {S0:Nat→Prop} {w0:World} {sl:SlL} {bl:BlL} {Φ Φ0:World→Prop} {P:Program} {ops:Array Oper} {Q:Exit→Act→World→Prop}
theorem xq {i:Nat}(k:Nat)(b:SlL)(a:BlL)(K:SXi P N S0 w0 ops Q (i+k) (ofL (b ++ ZaK (ZaJ ops i k) sl) (a ++ Zi8 a bl)) Φ)(h:Zgq P N ops i k (ofL sl bl) (b ++ ZaK (ZaJ ops i k) sl) (a ++ Zi8 a bl)=some ((b ++ ZaK (ZaJ ops i k) sl).map (fun q=>some q.2),(a ++ Zi8 a bl).map (fun q=>some q.2)):=by kernel_rfl)(c:wfB (b ++ ZaK (ZaJ ops i k) sl) (a ++ Zi8 a bl)=true:=by kernel_rfl):SXi P N S0 w0 ops Q i (ofL sl bl) Φ:=Zol k _ _ h c K
theorem xqf {n i:Nat}(k:Nat)(b:SlL)(a:BlL)(K:StI P N S0 w0 ops Φ0 Q n (i+k) (ofL (b ++ ZaK (ZaJ ops i k) sl) a) Φ)(h:ZcN P N ops k i (ofL sl bl) (b ++ ZaK (ZaJ ops i k) sl)=some ((b ++ ZaK (ZaJ ops i k) sl).map (fun q=>some q.2),cF a):=by kernel_rfl)(c:Nat.ble (i+k) n=true:=by kernel_rfl):StI P N S0 w0 ops Φ0 Q n i (ofL sl bl) Φ:=ZjC k _ _ h c K
theorem xqg {n i:Nat}(k:Nat)(a:SlL)(K:StI P N S0 w0 ops Φ0 Q n (i+k) (ofL (a ++ ZaK (ZaJ ops i k) sl) bl) Φ)(h:ZcN P N ops k i (ofL sl bl) (a ++ ZaK (ZaJ ops i k) sl)=some ((a ++ ZaK (ZaJ ops i k) sl).map (fun q=>some q.2),cF bl):=by kernel_rfl)(b:Nat.ble (i+k) n=true:=by kernel_rfl):StI P N S0 w0 ops Φ0 Q n i (ofL sl bl) Φ:=ZjC k _ _ h b K
theorem xqc {i:Nat}(f:FuncId)(args:List Value)(d:Nat){α:Type}(sh:α→Value)(φ:α→World→Prop)(b:∀ w,Fr S0 w0 w→Φ w→Calls P f args.toArray w (lD sh φ w))(K:∀ x,SXi P N S0 w0 ops Q (i+1) (ofL ((d,.v (sh x)) :: sl) bl) (fun w=>Φ w∧φ x w))(a:Nat.blt i ops.size=true:=by kernel_rfl)(h:fL P N ops (opAt ops i) (ofL sl bl)=some (f,args,d):=by kernel_rfl):SXi P N S0 w0 ops Q i (ofL sl bl) Φ:=ZlI f args d sh φ a h b K
theorem xqd {n i:Nat}(f:FuncId)(args:List Value)(d:Nat){α:Type}[c:Nonempty α](sh:α→Value)(φ:α→World→Prop)(a:∀ w,Fr S0 w0 w→Φ w→Calls P f args.toArray w (lD sh φ w))(K:∀ x,StI P N S0 w0 ops Φ0 Q n (i+1) (ofL ((d,.v (sh x)) :: sl) bl) (fun w=>Φ w∧φ x w))(hi:Nat.blt i n=true:=by kernel_rfl)(b:cls (opAt ops i).op=2:=by kernel_rfl)(h:fL P N ops (opAt ops i) (ofL sl bl)=some (f,args,d):=by kernel_rfl):StI P N S0 w0 ops Φ0 Q n i (ofL sl bl) Φ:=ZlK f args d sh φ hi b h a K
theorem xqk {i:Nat}(d:Nat)(y:Value)(a:∀ w,Fr S0 w0 w→Φ w→(execOp (ofL sl bl).rho (opAt ops i)).run P w=.ok (.value y) w)(K:SXi P N S0 w0 ops Q (i+1) (ofL ((d,.v y) :: sl) bl) Φ)(hi:Nat.blt i ops.size=true:=by kernel_rfl)(b:jD (opAt ops i).op=true:=by kernel_rfl)(c:(ofL sl bl).wantB ops (opAt ops i)=some true:=by kernel_rfl)(e:(opAt ops i).op.operands.toList.all (ofL sl bl).vB=true:=by kernel_rfl)(f:(opAt ops i).dst=some d:=by kernel_rfl)(g:Nat.blt d N=true:=by kernel_rfl):SXi P N S0 w0 ops Q i (ofL sl bl) Φ :=
 Zhy d y hi b c e f g a K
theorem xqj {n i:Nat}(d:Nat)(y:Value)(a:∀ w,Φ0 w→(execOp (ofL sl bl).rho (opAt ops i)).run P w=.ok (.value y) w)(K:StI P N S0 w0 ops Φ0 Q n (i+1) (ofL ((d,.v y) :: sl) bl) Φ)(hi:Nat.blt i n=true:=by kernel_rfl)(b:Zee (opAt ops i).op=true:=by kernel_rfl)(c:(ofL sl bl).wantB ops (opAt ops i)=some true:=by kernel_rfl)(e:(opAt ops i).op.operands.toList.all (ofL sl bl).vB=true:=by kernel_rfl)(f:(opAt ops i).dst=some d:=by kernel_rfl)(g:Nat.blt d N=true:=by kernel_rfl):StI P N S0 w0 ops Φ0 Q n i (ofL sl bl) Φ :=
 Ze2 d y hi b c e f g a K
end
theorem xG {w w':World}{e:Ending}{n:Nat}(h:lH w n e w'):lD xI (fun x w=>zF w (xI x) n) w e w':=by
 obtain⟨v,rfl,a,Q⟩:=h
 obtain⟨A,l,c,rfl⟩:=a.slice
 exact⟨(A,l,c),rfl,Q,boxn Q (fun S b d f=>a.nrb d f)⟩
instance {b:Nat} {A A2:Option Addr}:Nonempty {q:ShN // ∀ a,q.1=some a→b<a.block∨q.1=A∨q.1=A2}:=⟨⟨(none,0,0),fun a h=>by cases h⟩⟩
section
open Go.RowKit Go.Sort
theorem TBuf.bytes {w:World}{A:qA}{cap:Nat}{l:List UInt8}(h:TBuf w A cap l)(c:l≠[]):∃ b,A=some ⟨b,0,none⟩∧∀ j (a:j<l.length),w.cell? ((⟨b,0,none⟩:Addr).add j)=some (.int .u8 (l[j].toNat:Int)):=by
 rcases h with ⟨_,h,_⟩|⟨b,rfl,d,_⟩
 ·simp[nats] at h;exact absurd h c
 refine⟨b,rfl,fun j a=>?_⟩
 have:=d.cell (i:=j) (by rw[Zcv];exact a)
 rw[Lib.add_plain,vZ,this]
 simp[nats,a]
end
def jN (w:World) (A:Option Addr) (zs:List Int):Prop :=
 zs≠[]→∃ b off,A=some ⟨b,off,none⟩∧b<w.heap.size∧∀ i,i<zs.length→w.cell? ⟨b,off+i,none⟩=some (.int .i64 (zs.getD i 0))
theorem jN.ext {w w':World}{A:qA}{zs:List Int}(h:jN w A zs)(d:Ext w w'):jN w' A zs:=fun c=>by
 obtain⟨b,a,rfl,e,g⟩:=h c
 exact⟨b,a,rfl,uT e d.size,fun i hi=>(d.cell (p:=⟨b,a+i,none⟩) e (fun f=>f)).trans (g i hi)⟩
def ZtS (zs:List Int):Prop:=∀ z∈zs,-9223372036854775808≤z∧z≤9223372036854775807
theorem bG (neg:Bool)(u:Value)(n:Nat)(w:World)(a:zW w u n):Ζ 41 #[.bool neg,u] w (kH w (sg neg n)):=by
 refine (jM neg u n w a).mono ?_
 rintro e d ⟨s,rfl,c,b⟩
 exact⟨_,rfl,xB.signed (a.ext b) c.out,b⟩
theorem xB.opn {w:World}{s:Bool}{A:qA}{l c:Nat}{z:Int}(h:xB w (.agg #[.bool s,.slice A l c]) z):zW w (.slice A l c) z.natAbs∧z=sg s z.natAbs∧(z=0→s=false):=by
 obtain⟨f,g,i,j,a,b,d,e⟩:=h.open
 injection a with a
 simp at a
 obtain⟨rfl,rfl,rfl,rfl⟩:=a
 exact⟨b,d,e⟩
theorem xB.mag {w:World}{s:Bool}{A:qA}{l c:Nat}{z:Int}(h:xB w (.agg #[.bool s,.slice A l c]) z):zW w (.slice A l c) z.natAbs:=h.opn.1
theorem ZtW {w:World}{s:Bool}{A:qA}{l c:Nat}{z:Int}(h:xB w (.agg #[.bool s,.slice A l c]) z):sg (!s) z.natAbs = -z:=by
 obtain⟨_,a,b⟩:=h.opn
 cases s<;>simp[sg] at *<;>omega
theorem wI.neg {x:Int}(h:wI x):wI (-x):=by
 unfold wI at *;rw[Int.natAbs_neg];exact h
theorem Ze3 {fn:Func}{t:Tmp}{a:Array Value}{w w':World}{r:Nat}{x y:Value}{z:Int}(b:fn.results=#[.cell t 30])(c:a[t]? = some (.pointer (some ⟨r,0,none⟩)))(d:Blk 30 w' r #[x,y])(e:xB w' (.agg #[x,y]) z)(Q:Ext w w'):bodyPost prog fn (kH w z) .ret ⟨a,[]⟩ w' :=
 bodyPost_ret (ZaI b _ _ r _ _ c d) rfl ⟨_,rfl,e,Q⟩
theorem xB.sneg {w:World}{s:Bool}{A:qA}{l c:Nat}{z:Int}(h:xB w (.agg #[.bool s,.slice A l c]) z)(b:z<0):s=true:=by
 obtain⟨_,a,d⟩:=h.opn
 cases s with
 | true=>rfl
 | false=>simp[sg] at a;omega
theorem xB.spos {w:World}{s:Bool}{A:qA}{l c:Nat}{z:Int}(h:xB w (.agg #[.bool s,.slice A l c]) z)(d:0≤z):s=false:=by
 obtain⟨_,a,b⟩:=h.opn
 cases s with
 | false=>rfl
 | true=>simp[sg] at a;exact b qO
theorem xB.len0 {w:World}{s:Bool}{A:qA}{l c:Nat}{z:Int}(h:xB w (.agg #[.bool s,.slice A l c]) z)(d:z=0):l=0:=by
 obtain⟨e,_,_⟩:=h.opn
 obtain⟨g,i,j,a,_,_,k,f,b⟩:=e
 injection a with _ a
 rw[d] at b
 have:=ZiN f xA b
 rw[this] at a
 simpa using a
theorem xB.lenp {w:World}{s:Bool}{A:qA}{l c:Nat}{z:Int}(h:xB w (.agg #[.bool s,.slice A l c]) z)(g:z≠0):0<l:=by
 obtain⟨d,_,_⟩:=h.opn
 obtain⟨i,f,j,a,_,_,k,m,b⟩:=d
 injection a with _ a
 rcases uJ l with e|e
 ·rw[e] at a
  have:f=[]:=tI.1 a.symm
  rw[this] at b
  simp at b
  omega
 exact e
theorem xB.quo {w:World}{s t:Bool}{A B:qA}{l c a b:Nat}{x y:Int}(h:xB w (.agg #[.bool s,.slice A l c]) x)(k:xB w (.agg #[.bool t,.slice B a b]) y):sg (s != t) (x.natAbs/y.natAbs)=x.tdiv y∧sg s (x.natAbs%y.natAbs)=x.tmod y:=by
 obtain⟨_,d,f⟩:=h.opn
 obtain⟨_,e,g⟩:=k.opn
 generalize x.natAbs=m at *
 generalize y.natAbs=n at *
 subst d e
 cases s<;>cases t<;>simp[sg,Int.neg_tdiv,Int.tdiv_neg,Int.neg_tmod,Int.tmod_neg]<;>exact (sE qO).symm
def ZhM (w:World) (q r:Int) (e:Ending) (w':World):Prop:=∃ u v,e=.returned (.tuple #[u,v])∧xB w' u q∧xB w' v r∧Ext w w'
theorem ZqD {fn:Func}{t h:Tmp}{a:Array Value}{w w':World}{r i:Nat}{x y c d:Value}{z j:Int}(b:fn.results=#[.cell t 30,.cell h 30])(k:a[t]? = some (.pointer (some ⟨r,0,none⟩)))(e:a[h]? = some (.pointer (some ⟨i,0,none⟩)))(l:Blk 30 w' r #[x,y])(f:Blk 30 w' i #[c,d])(m:xB w' (.agg #[x,y]) z)(g:xB w' (.agg #[c,d]) j)(Q:Ext w w'):bodyPost prog fn (ZhM w z j) .ret ⟨a,[]⟩ w':=by
 obtain⟨n,o,_⟩:=l.cell2
 obtain⟨p,q,_⟩:=f.cell2
 exact bodyPost_ret (v:=.tuple #[.agg #[x,y],.agg #[c,d]]) (by simp[results,b,k,e,go_sem,n,o,p,q]) rfl ⟨_,_,rfl,m,g,Q⟩
theorem Zaq {q:Rat}(h:¬ q.den=1):denF q≠0:=by rw[eE h];have:=q.den_nz;omega
theorem ZfR (a:Value)(x:Int)(w:World)(ha:xB w a x) :
 Ζ 37 #[a] w (kH w (-x)):=by
 obtain⟨A,C,D,E,rfl⟩:=ha.shp
 have F2:Hid (xB w (.agg #[.bool A,.slice C D E]) (x)):=ha
 clear ha
 have F:=zh (ZtW F2.out)
 go_enter func37,ntmps37
 go_wp2_with fail
 generalize s:World.alloc (World.alloc w _) _=w5
 obtain⟨d,f,g⟩:=ZcR s
 clear s
 have B3:=zh d
 have B4:=zh f
 clear d f
 replace F2:=zh (F2.out.ext g)
 have HE:=zh g
 clear g
 have F6:Hid (zW w5 (.slice C D E) ((x).natAbs)):=F2.out.mag
 refine (bG ((!A)) _ _ _ F6.out).mono ?_
 rintro e t ⟨_,rfl,B,r⟩
 obtain⟨u,v,y,z,rfl⟩:=B.shp
 replace B3:=zh (B3.out.ext r)
 replace B4:=zh (B4.out.ext r)
 replace F2:=zh (F2.out.ext r)
 replace F6:=zh (F6.out.ext r)
 replace HE:=zh (HE.out.trans r)
 have F9:Hid (xB t (.agg #[.bool u,.slice v y z]) (sg ((!A)) ((x).natAbs))):=B
 clear r B
 obtain⟨h,j,k,l⟩:=B3.out.cell2
 obtain⟨m,n,o,q⟩:=B4.out.cell2
 go_wp2
 clear h j k l m n o q
 have b:Fr (fun i=>i=(w.heap.size+1)) t ((t.setCell ⟨(w.heap.size+1),0,none⟩ (.bool u)).setCell ⟨(w.heap.size+1),1,none⟩ (.slice v y z)):=(((Fr.refl (fun i=>i=(w.heap.size+1)) _).setCell (p:=⟨(w.heap.size+1),0,none⟩) (Or.inl rfl) _).setCell (p:=⟨(w.heap.size+1),1,none⟩) (Or.inl rfl) _)
 replace F2:=zh (F2.out.oth B4.out kU b)
 replace F6:=zh (F6.out.oth B4.out kU b)
 replace F9:=zh (F9.out.oth B4.out kU b)
 replace B3:=zh (B3.out.fr b (by first|omega | (have:=B3.out.lt;have:=B4.out.lt;omega)))
 replace HE:=zh (HE.out.next b (fun i hi e=>by first|omega | (have:=HE.out.size;have:=B4.out.lt;omega)))
 have c:Blk 30 ((t.setCell ⟨(w.heap.size+1),0,none⟩ (.bool u)).setCell ⟨(w.heap.size+1),1,none⟩ (.slice v y z)) (w.heap.size+1) #[.bool u,.slice v y z]:=((B4.out.set_ 0 _).set_ 1 _)
 generalize ((t.setCell ⟨(w.heap.size+1),0,none⟩ (.bool u)).setCell ⟨(w.heap.size+1),1,none⟩ (.slice v y z))=w12 at *
 replace B4:=zh c;clear c b
 exact Ze3 rfl rfl B4.out (by have:=F9.out;rw[F.out] at this;exact this) HE.out
theorem ZoC (a:Value)(x:Int)(w:World)(ha:xB w a x)(e:x<0) :
 Ζ 45 #[a] w (RetV w (.int .i64 (-1))):=by
 obtain⟨f,g,h,i,rfl⟩:=ha.shp
 have F2:Hid (xB w (.agg #[.bool f,.slice g h i]) (x)):=ha
 clear ha
 obtain rfl:f=true:=F2.out.sneg e
 clear e
 go_enter func45,ntmps45
 go_wp2
 generalize d:World.alloc w _=w4
 obtain⟨b,c⟩:=fN d
 clear d
 have k:=zh b
 clear b
 replace F2:=zh (F2.out.ext c)
 have j:=zh c
 clear c
 go_ret
 exact⟨rfl,j.out⟩
theorem Znd (a:Value)(x:Int)(w:World)(ha:xB w a x)(e:x=0) :
 Ζ 45 #[a] w (RetV w (.int .i64 (0))):=by
 obtain⟨f,h,g,i,rfl⟩:=ha.shp
 have F2:Hid (xB w (.agg #[.bool f,.slice h g i]) (x)):=ha
 clear ha
 obtain rfl:f=false:=F2.out.spos qO
 obtain rfl:g=0:=F2.out.len0 e
 clear e
 go_enter func45,ntmps45
 go_wp2
 generalize d:World.alloc w _=w4
 obtain⟨b,c⟩:=fN d
 clear d
 have k:=zh b
 clear b
 replace F2:=zh (F2.out.ext c)
 have j:=zh c
 clear c
 go_ret
 exact⟨rfl,j.out⟩
theorem ZoD (a:Value)(x:Int)(w:World)(ha:xB w a x)(g:0<x) :
 Ζ 45 #[a] w (RetV w (.int .i64 (1))):=by
 obtain⟨e,h,f,i,rfl⟩:=ha.shp
 have F2:Hid (xB w (.agg #[.bool e,.slice h f i]) (x)):=ha
 clear ha
 obtain rfl:e=false:=F2.out.spos qO
 have k:((f:Int) == 0)=false:=by have:=F2.out.lenp qO;simp;omega
 clear g
 go_enter func45,ntmps45
 go_wp2
 generalize d:World.alloc w _=w4
 obtain⟨b,c⟩:=fN d
 clear d
 have l:=zh b
 clear b
 replace F2:=zh (F2.out.ext c)
 have j:=zh c
 clear c
 go_ret
 exact⟨rfl,j.out⟩
theorem Zeo (a:Value)(x:Int)(w:World)(ha:xB w a x):Ζ 45 #[a] w (RetV w (.int .i64 x.sign)):=by
 rcases Int.lt_trichotomy x 0 with h|h|h
 ·rw[Int.sign_eq_neg_one_of_neg h];exact ZoC a x w ha h
 ·rw[h,Int.sign_zero];exact Znd a x w ha h
 rw[oH h];exact ZoD a x w ha h
theorem ZaM (a b:Value)(x y:Int)(w:World)(ha:xB w a x)(hb:xB w b y)(hx:wI x)(hy:wI y)(h0:y≠0) :
 Ζ 40 #[a,b] w (ZhM w (x.tdiv y) (x.tmod y)):=by
 obtain⟨o,A1,l1,c1,rfl⟩:=ha.shp
 have F2:Hid (xB w (.agg #[.bool o,.slice A1 l1 c1]) (x)):=ha
 clear ha
 obtain⟨C,A3,l3,c3,rfl⟩:=hb.shp
 have F4:Hid (xB w (.agg #[.bool C,.slice A3 l3 c3]) (y)):=hb
 clear hb
 have Hx:Hid (ml x.natAbs≤17592186044416):=hx
 have Hy:Hid (ml y.natAbs≤17592186044416):=hy
 have H0:Hid (0<y.natAbs):=by unfold Hid;omega
 have HQ:=zh (F2.out.quo F4.out)
 clear hx hy h0
 go_enter func40,ntmps40
 go_wp2_with fail
 generalize x0:World.alloc (World.alloc (World.alloc (World.alloc w _) _) _) _=w9
 obtain⟨E,F,G,H,D⟩:=Zsn x0
 clear x0
 have B5:=zh E
 have B6:=zh F
 have B7:=zh G
 have B8:=zh H
 clear E F G H
 replace F2:=zh (F2.out.ext D)
 replace F4:=zh (F4.out.ext D)
 have HE:=zh D
 clear D
 have F10:Hid (zW w9 (.slice A1 l1 c1) ((x).natAbs)):=F2.out.mag
 have F11:Hid (zW w9 (.slice A3 l3 c3) ((y).natAbs)):=F4.out.mag
 refine (ZgK _ _ ((x).natAbs) ((y).natAbs) _ F10.out F11.out Hx.out Hy.out H0.out).mono ?_
 rintro e P ⟨_,_,rfl,hq,hr,f⟩
 obtain⟨I,J,L,rfl⟩:=hq.slice
 obtain⟨M,N,O,rfl⟩:=hr.slice
 replace B5:=zh (B5.out.ext f)
 replace B6:=zh (B6.out.ext f)
 replace B7:=zh (B7.out.ext f)
 replace B8:=zh (B8.out.ext f)
 replace F2:=zh (F2.out.ext f)
 replace F4:=zh (F4.out.ext f)
 replace F10:=zh (F10.out.ext f)
 replace F11:=zh (F11.out.ext f)
 replace HE:=zh (HE.out.trans f)
 have F14:Hid (zW P (.slice I J L) (((x).natAbs)/((y).natAbs))):=hq
 have F15:Hid (zW P (.slice M N O) (((x).natAbs)%((y).natAbs))):=hr
 clear f hq hr
 obtain⟨Q,R,S,T⟩:=B5.out.cell2
 obtain⟨U,V,W,X⟩:=B6.out.cell2
 obtain⟨Y,Z,a0,b0⟩:=B7.out.cell2
 obtain⟨c0,d0,e0,f0⟩:=B8.out.cell2
 go_wp2_with fail
 clear Q R S T U V W X Y Z a0 b0 c0 d0 e0 f0
 refine ZkZ 11 (fun m=>Blk 30 m w.heap.size #[.bool o,.slice A1 l1 c1]∧Blk 30 m (w.heap.size+1) #[.bool C,.slice A3 l3 c3]∧Blk 30 m (w.heap.size+1+1) #[.bool false,.slice none 0 0]∧Blk 30 m (w.heap.size+1+1+1) #[.bool false,.slice none 0 0]) zM ?_
 replace B5:=zh (B5.out.ext (Fr.refl _ _).drew)
 replace B6:=zh (B6.out.ext (Fr.refl _ _).drew)
 replace B7:=zh (B7.out.ext (Fr.refl _ _).drew)
 replace B8:=zh (B8.out.ext (Fr.refl _ _).drew)
 replace F2:=zh (F2.out.ext (Fr.refl _ _).drew)
 replace F4:=zh (F4.out.ext (Fr.refl _ _).drew)
 replace F10:=zh (F10.out.ext (Fr.refl _ _).drew)
 replace F11:=zh (F11.out.ext (Fr.refl _ _).drew)
 replace F14:=zh (F14.out.ext (Fr.refl _ _).drew)
 replace F15:=zh (F15.out.ext (Fr.refl _ _).drew)
 replace HE:=zh (HE.out.trans (Fr.refl _ _).drew)
 generalize P.drew=w20 at *
 have j:=(⟨B5.out,B6.out,B7.out,B8.out⟩:(fun m=>Blk 30 m w.heap.size #[.bool o,.slice A1 l1 c1]∧Blk 30 m (w.heap.size+1) #[.bool C,.slice A3 l3 c3]∧Blk 30 m (w.heap.size+1+1) #[.bool false,.slice none 0 0]∧Blk 30 m (w.heap.size+1+1+1) #[.bool false,.slice none 0 0]) w20)
 refine dI 0 rfl qK (fun _ _ _ h=>h) j (fun _=>Zdi (g:=w.heap.size) (off:=0) rfl rfl qK) (fun j=>?_)
 refine dI 1 rfl qK (fun _ _ _ h=>h) j (fun _=>ZhI (g:=w.heap.size) (off:=0) (x:=.bool o) rfl rfl qK (fun _ h=>Blk.one' (h.1) 0 rfl)) (fun j=>?_)
 refine dI 2 rfl qK (fun _ _ _ h=>h) j (fun _=>Zdi (g:=(w.heap.size+1)) (off:=0) rfl rfl qK) (fun j=>?_)
 refine dI 3 rfl qK (fun _ _ _ h=>h) j (fun _=>ZhI (g:=(w.heap.size+1)) (off:=0) (x:=.bool C) rfl rfl qK (fun _ h=>Blk.one' (h.2.1) 0 rfl)) (fun j=>?_)
 refine dI 4 rfl qK (fun _ _ _ h=>h) j (fun _=>Zqs (b:=o) (c:=C) rfl rfl qK qK) (fun j=>?_)
 refine dI 5 rfl qK (fun _ _ _ h=>h) j (fun _=>ym (v:=.slice I J L) rfl rfl qK) (fun j=>?_)
 refine dI 7 rfl qK (fun _ _ _ h=>h) j (fun _=>Zdi (g:=w.heap.size) (off:=0) rfl rfl qK) (fun j=>?_)
 refine dI 8 rfl qK (fun _ _ _ h=>h) j (fun _=>ZhI (g:=w.heap.size) (off:=0) (x:=.bool o) rfl rfl qK (fun _ h=>Blk.one' (h.1) 0 rfl)) (fun j=>?_)
 refine dI 9 rfl qK (fun _ _ _ h=>h) j (fun _=>ym (v:=.slice M N O) rfl rfl qK) (fun j=>?_)
 refine Zjx 6 rfl qK rfl (fun K hK=>?_)
 go_simp
 clear j
 refine (bG ((o != C)) _ _ _ F14.out).mono ?_
 rintro e y0 ⟨_,rfl,hI,f⟩
 obtain⟨q,r,s,t,rfl⟩:=hI.shp
 replace B5:=zh (B5.out.ext f)
 replace B6:=zh (B6.out.ext f)
 replace B7:=zh (B7.out.ext f)
 replace B8:=zh (B8.out.ext f)
 replace F2:=zh (F2.out.ext f)
 replace F4:=zh (F4.out.ext f)
 replace F10:=zh (F10.out.ext f)
 replace F11:=zh (F11.out.ext f)
 replace F14:=zh (F14.out.ext f)
 replace F15:=zh (F15.out.ext f)
 replace HE:=zh (HE.out.trans f)
 have F23:Hid (xB y0 (.agg #[.bool q,.slice r s t]) (sg ((o != C)) (((x).natAbs)/((y).natAbs)))):=hI
 clear f hI
 have j:=(⟨B5.out,B6.out,B7.out,B8.out⟩:(fun m=>Blk 30 m w.heap.size #[.bool o,.slice A1 l1 c1]∧Blk 30 m (w.heap.size+1) #[.bool C,.slice A3 l3 c3]∧Blk 30 m (w.heap.size+1+1) #[.bool false,.slice none 0 0]∧Blk 30 m (w.heap.size+1+1+1) #[.bool false,.slice none 0 0]) y0)
 refine hK _ _ j ?_
 clear hK
 refine Zjx 10 rfl qK rfl (fun K hK=>?_)
 go_simp
 clear j
 refine (bG (o) _ _ _ F15.out).mono ?_
 rintro e n ⟨_,rfl,hI,f⟩
 obtain⟨u,z,A,B,rfl⟩:=hI.shp
 replace B5:=zh (B5.out.ext f)
 replace B6:=zh (B6.out.ext f)
 replace B7:=zh (B7.out.ext f)
 replace B8:=zh (B8.out.ext f)
 replace F2:=zh (F2.out.ext f)
 replace F4:=zh (F4.out.ext f)
 replace F10:=zh (F10.out.ext f)
 replace F11:=zh (F11.out.ext f)
 replace F14:=zh (F14.out.ext f)
 replace F15:=zh (F15.out.ext f)
 replace F23:=zh (F23.out.ext f)
 replace HE:=zh (HE.out.trans f)
 have F26:Hid (xB n (.agg #[.bool u,.slice z A B]) (sg (o) (((x).natAbs)%((y).natAbs)))):=hI
 clear f hI
 have j:=(⟨B5.out,B6.out,B7.out,B8.out⟩:(fun m=>Blk 30 m w.heap.size #[.bool o,.slice A1 l1 c1]∧Blk 30 m (w.heap.size+1) #[.bool C,.slice A3 l3 c3]∧Blk 30 m (w.heap.size+1+1) #[.bool false,.slice none 0 0]∧Blk 30 m (w.heap.size+1+1+1) #[.bool false,.slice none 0 0]) n)
 refine hK _ _ j ?_
 clear hK
 refine Zqm (l:=[_,_]) 11 rfl qK ?_
 clear j
 obtain⟨g0,i0,j0,k0⟩:=B5.out.cell2
 obtain⟨l0,m0,n0,o0⟩:=B6.out.cell2
 obtain⟨p0,q0,r0,s0⟩:=B7.out.cell2
 obtain⟨t0,u0,v0,w0⟩:=B8.out.cell2
 go_wp2
 clear g0 i0 j0 k0 l0 m0 n0 o0 p0 q0 r0 s0 t0 u0 v0 w0
 have d:Fr (fun i=>i=(w.heap.size+1+1)) n ((n.setCell ⟨(w.heap.size+1+1),0,none⟩ (.bool q)).setCell ⟨(w.heap.size+1+1),1,none⟩ (.slice r s t)):=(((Fr.refl (fun i=>i=(w.heap.size+1+1)) _).setCell (p:=⟨(w.heap.size+1+1),0,none⟩) (Or.inl rfl) _).setCell (p:=⟨(w.heap.size+1+1),1,none⟩) (Or.inl rfl) _)
 replace F2:=zh (F2.out.oth B7.out kU d)
 replace F4:=zh (F4.out.oth B7.out kU d)
 replace F10:=zh (F10.out.oth B7.out kU d)
 replace F11:=zh (F11.out.oth B7.out kU d)
 replace F14:=zh (F14.out.oth B7.out kU d)
 replace F15:=zh (F15.out.oth B7.out kU d)
 replace F23:=zh (F23.out.oth B7.out kU d)
 replace F26:=zh (F26.out.oth B7.out kU d)
 replace B5:=zh (B5.out.fr d (by first|omega | (have:=B5.out.lt;have:=B7.out.lt;omega)))
 replace B6:=zh (B6.out.fr d (by first|omega | (have:=B6.out.lt;have:=B7.out.lt;omega)))
 replace B8:=zh (B8.out.fr d (by first|omega | (have:=B8.out.lt;have:=B7.out.lt;omega)))
 replace HE:=zh (HE.out.next d (fun i hi e=>by first|omega | (have:=HE.out.size;have:=B7.out.lt;omega)))
 have k:Blk 30 ((n.setCell ⟨(w.heap.size+1+1),0,none⟩ (.bool q)).setCell ⟨(w.heap.size+1+1),1,none⟩ (.slice r s t)) (w.heap.size+1+1) #[.bool q,.slice r s t]:=((B7.out.set_ 0 _).set_ 1 _)
 generalize ((n.setCell ⟨(w.heap.size+1+1),0,none⟩ (.bool q)).setCell ⟨(w.heap.size+1+1),1,none⟩ (.slice r s t))=w31 at *
 replace B7:=zh k;clear k d
 have d:Fr (fun i=>i=(w.heap.size+1+1+1)) w31 ((w31.setCell ⟨(w.heap.size+1+1+1),0,none⟩ (.bool u)).setCell ⟨(w.heap.size+1+1+1),1,none⟩ (.slice z A B)):=(((Fr.refl (fun i=>i=(w.heap.size+1+1+1)) _).setCell (p:=⟨(w.heap.size+1+1+1),0,none⟩) (Or.inl rfl) _).setCell (p:=⟨(w.heap.size+1+1+1),1,none⟩) (Or.inl rfl) _)
 replace F2:=zh (F2.out.oth B8.out kU d)
 replace F4:=zh (F4.out.oth B8.out kU d)
 replace F10:=zh (F10.out.oth B8.out kU d)
 replace F11:=zh (F11.out.oth B8.out kU d)
 replace F14:=zh (F14.out.oth B8.out kU d)
 replace F15:=zh (F15.out.oth B8.out kU d)
 replace F23:=zh (F23.out.oth B8.out kU d)
 replace F26:=zh (F26.out.oth B8.out kU d)
 replace B5:=zh (B5.out.fr d (by first|omega | (have:=B5.out.lt;have:=B8.out.lt;omega)))
 replace B6:=zh (B6.out.fr d (by first|omega | (have:=B6.out.lt;have:=B8.out.lt;omega)))
 replace B7:=zh (B7.out.fr d (by first|omega | (have:=B7.out.lt;have:=B8.out.lt;omega)))
 replace HE:=zh (HE.out.next d (fun i hi e=>by first|omega | (have:=HE.out.size;have:=B8.out.lt;omega)))
 have k:Blk 30 ((w31.setCell ⟨(w.heap.size+1+1+1),0,none⟩ (.bool u)).setCell ⟨(w.heap.size+1+1+1),1,none⟩ (.slice z A B)) (w.heap.size+1+1+1) #[.bool u,.slice z A B]:=((B8.out.set_ 0 _).set_ 1 _)
 generalize ((w31.setCell ⟨(w.heap.size+1+1+1),0,none⟩ (.bool u)).setCell ⟨(w.heap.size+1+1+1),1,none⟩ (.slice z A B))=w32 at *
 replace B8:=zh k;clear k d
 exact ZqD rfl rfl rfl B7.out B8.out (by rw[←HQ.out.1];exact F23.out) (by rw[←HQ.out.2];exact F26.out) HE.out
theorem ZqE (a:Value)(q:Rat)(w:World)(ha:zP w a q)(F:q.den=1) :
 Ζ 28 #[a] w (kH w (q.den:Int)):=by
 obtain⟨I,J,K,L,t1,M,G,N,rfl⟩:=ha.shp
 have F2:Hid (zP w (.agg #[.bool I,.slice J K L,.bool t1,.slice M G N]) (q)):=ha
 clear ha
 have H:=F2.out.den
 obtain rfl:G=0:=H.len0 (jC F)
 have O:Hid ((q.den:Int)=1):=by unfold Hid;omega
 clear H F
 go_enter func28,ntmps28
 go_wp2_with fail
 generalize m:World.alloc (World.alloc w _) _=w5
 obtain⟨d,f,g⟩:=ZcR m
 clear m
 have B3:=zh d
 have B4:=zh f
 clear d f
 replace F2:=zh (F2.out.ext g)
 have HE:=zh g
 clear g
 refine (Zab 1 _ qO qO).mono ?_
 rintro e n ⟨_,rfl,E,o⟩
 obtain⟨r,s,t,u,rfl⟩:=E.shp
 replace B3:=zh (B3.out.ext o)
 replace B4:=zh (B4.out.ext o)
 replace F2:=zh (F2.out.ext o)
 replace HE:=zh (HE.out.trans o)
 have F8:Hid (xB n (.agg #[.bool r,.slice s t u]) (1)):=E
 clear o E
 obtain⟨v,x,y,z,A,B,C,D⟩:=B3.out.cell4
 obtain⟨h,j,k,l⟩:=B4.out.cell2
 go_wp2
 clear v x y z A B C D h j k l
 have b:Fr (fun i=>i=(w.heap.size+1)) n ((n.setCell ⟨(w.heap.size+1),0,none⟩ (.bool r)).setCell ⟨(w.heap.size+1),1,none⟩ (.slice s t u)):=(((Fr.refl (fun i=>i=(w.heap.size+1)) _).setCell (p:=⟨(w.heap.size+1),0,none⟩) (Or.inl rfl) _).setCell (p:=⟨(w.heap.size+1),1,none⟩) (Or.inl rfl) _)
 replace F2:=zh (F2.out.oth B4.out kU b)
 replace F8:=zh (F8.out.oth B4.out kU b)
 replace B3:=zh (B3.out.fr b (by first|omega | (have:=B3.out.lt;have:=B4.out.lt;omega)))
 replace HE:=zh (HE.out.next b (fun i hi e=>by first|omega | (have:=HE.out.size;have:=B4.out.lt;omega)))
 have c:Blk 30 ((n.setCell ⟨(w.heap.size+1),0,none⟩ (.bool r)).setCell ⟨(w.heap.size+1),1,none⟩ (.slice s t u)) (w.heap.size+1) #[.bool r,.slice s t u]:=((B4.out.set_ 0 _).set_ 1 _)
 generalize ((n.setCell ⟨(w.heap.size+1),0,none⟩ (.bool r)).setCell ⟨(w.heap.size+1),1,none⟩ (.slice s t u))=w11 at *
 replace B4:=zh c;clear c b
 exact Ze3 rfl rfl B4.out (by rw[O.out];exact F8.out) HE.out
theorem ZqF (a:Value)(q:Rat)(w:World)(ha:zP w a q)(f:¬ q.den=1) :
 Ζ 28 #[a] w (kH w (q.den:Int)):=by
 obtain⟨k,l,m,n,t1,h,g,i,rfl⟩:=ha.shp
 have F2:Hid (zP w (.agg #[.bool k,.slice l m n,.bool t1,.slice h g i]) (q)):=ha
 clear ha
 have j:=F2.out.den
 have t:((g:Int) == 0)=false:=by have:=j.lenp (Zaq f);simp;omega
 have o:=zh (eE f)
 clear j f
 go_enter func28,ntmps28
 go_wp2
 generalize e:World.alloc (World.alloc w _) _=w5
 obtain⟨b,c,d⟩:=ZcR e
 clear e
 have u:=zh b
 have p:=zh c
 clear b c
 replace F2:=zh (F2.out.ext d)
 have r:=zh d
 clear d
 have s:Hid (xB w5 (.agg #[.bool t1,.slice h g i]) (denF (q))):=F2.out.den
 exact Ze3 rfl rfl p.out (by rw[←o.out];exact s.out) r.out
theorem gJ (a:Value)(q:Rat)(w:World)(ha:zP w a q):Ζ 28 #[a] w (kH w (q.den:Int)):=by
 by_cases h:q.den=1
 ·exact ZqE a q w ha h
 exact ZqF a q w ha h
def blen (n:Nat):Nat:=if n=0 then 0 else n.log2+1
theorem iT:blen 0=0:=rfl
theorem jX (n:Nat):n<2^blen n:=by
 unfold blen
 split
 ·rename_i h;subst h;decide
 rename_i h;exact (Nat.log2_lt h).1 (oC _)
theorem xH {n k:Nat}:blen n≤k↔n<2^k:=by
 unfold blen
 split
 ·rename_i h;subst h;simp[uZ]
 rename_i h;rw[←Nat.log2_lt h];omega
theorem Zcd {n:Nat}(h:0<n):blen n=blen (n/2)+1:=by
 have d:blen (n/2)+1≤blen n:=by
  have:blen (n/2)≤blen n-1:=xH.2 (by
   have a:=jX n
   have b:0<blen n:=by unfold blen;rw[uI qO];omega
   obtain⟨k,c⟩:∃ k,blen n=k+1:=⟨blen n-1,qO⟩
   rw[c] at a ⊢
   rw[uO] at a
   show n/2<2^(k+1-1)
   rw[tK]
   omega)
  have b:0<blen n:=by unfold blen;rw[uI qO];omega
  omega
 have a:blen n≤blen (n/2)+1:=xH.2 (by
  have:=jX (n/2)
  rw[uO]
  omega)
 omega
theorem gW {n:Nat}:blen n=1↔n=1:=by
 constructor
 ·intro h
  have a:=jX n
  rw[h] at a
  rcases uJ n with e|e
  ·subst e;rw[iT] at h;omega
  omega
 rintro rfl;decide
theorem ZaN {n:Nat}:1<blen n↔1<n:=by
 rcases vO 1 n with h|h
 ·have:¬ blen n≤1:=fun k=>by have:=xH.1 k;omega
  omega
 have:blen n≤1:=xH.2 qO
 omega
theorem ZjO {B k t a:Nat}(g:a<2^(B*k))(b:0<t):blen (a+2^(B*k)*t)=B*k+blen t:=by
 have c:=jX t
 have i:blen (a+2^(B*k)*t)≤B*k+blen t:=xH.2 (by
  rw[uU]
  have:2^(B*k)*(t+1)≤2^(B*k)*2^blen t:=uK _ c
  rw[uL] at this
  omega)
 have l:¬ blen (a+2^(B*k)*t)≤B*k+blen t-1:=fun h=>by
  have d:=xH.1 h
  obtain⟨j,e⟩:∃ j,blen t=j+1:=⟨blen t-1,by have:=Zcd b;omega⟩
  rw[e,show B*k+(j+1)-1=B*k+j by omega,uU] at d
  have f:2^j≤t:=by
   rcases vO t (2^j) with h|h
   ·have:=xH.2 h;omega
   exact h
  have:2^(B*k)*2^j≤2^(B*k)*t:=uK _ f
  omega
 have:0<blen t:=by have:=Zcd b;omega
 omega
theorem aL (a:Value)(x:Int)(w:World)(ha:xB w a x)(F:wI x):Ζ 39 #[a] w (RetV w (.int .i64 (blen x.natAbs:Int))):=by
 obtain⟨s,A,l,c,rfl⟩:=ha.shp
 have f:=ha.mag
 have L:=ha.len0
 obtain⟨V,xs,W,M,N,G,j,o,p⟩:=f
 injection M with e1 e2 e3
 subst e1 e2 e3
 unfold wI at F
 rw[←p,← jA j o] at F
 rw[←p]
 clear ha L p
 rcases uJ xs.length with q|q
 ·obtain rfl:xs=[]:=tI.1 q
  go_enter func39,ntmps39
  go_wp2
  go_ret
  exact⟨rfl,(Fr.refl _ _).alloc _⟩
 obtain⟨k,H⟩:∃ k,xs.length=k+1:=⟨xs.length-1,qO⟩
 obtain⟨b,O,rfl,P,u⟩:=G.at (i:=k) qO
 obtain⟨t,m⟩:=yE (xs[k]?.getD 0)
 rw[m] at u
 have v:0<t:=by have:=o k H;omega
 have I:val W32 xs=val W32 (xs.take k)+W32^k*t:=by
  have:=zV (B:=W32) (xs:=xs) k qO
  rw[uB qO,m] at this
  exact this
 have d:=wF (j.take k)
 rw[uN,uY qO,ZcQ] at d
 have y:Hid (blen (val W32 xs)=32*k+blen t):=by
  unfold Hid
  rw[I,ZcQ]
  exact ZjO d v
 have g:t<W32:=m ▸ j.getD xA k
 have Q:blen t≤32:=xH.2 (by rw[xD] at g;exact g)
 obtain⟨r,J⟩:=yE (blen (val W32 xs))
 rw[J] at y ⊢
 have R:b≠w.heap.size:=Nat.ne_of_lt P
 rw[H]
 clear G j o I d m J g N q
 have X:(((k:Int)+1) == 0)=false:=by simp;omega
 go_enter func39,ntmps39
 go_wp2
 go_loop [3,4] (fun S z=>∃ n t':Nat,S=.int .i64 (n:Int)∧z=.int .u32 (t':Int)∧Hid (n+blen t'=r)∧n≤32*k+32) (fun _ z=>(intOf z).toNat)
 case atStart=>exact⟨32*k,t,by go_num,rfl,by have:=y.out;unfold Hid;omega,qO⟩
 case round =>
  obtain⟨n,t',rfl,rfl,C,Y⟩:=hrel
  by_cases K:0<t'
  ·have e:Hid (n+1+blen (t'/2)=r):=by have f:=C.out;rw[Zcd K] at f;unfold Hid;omega
   have D:n+1≤32*k+32:=by
    have f:=C.out;have Z:=y.out;rw[Zcd K] at f;omega
   have T:(t':Int)/2=((t'/2:Nat):Int):=rfl
   have E:t'/2<t':=qO
   obtain⟨U,h⟩:=yE (t'/2)
   rw[h] at e T E
   clear h
   go_wp2
   go_round
   case rel=>exact⟨n+1,U,by go_num,rfl,e,D⟩
   case measure=>simp[intOf];omega
  obtain rfl:t'=0:=qO
  have e:Hid (n=r):=by have f:=C.out;rw[iT] at f;exact f
  go_wp2
  go_ret
  exact⟨by rw[e.out];rfl,(Fr.refl _ _).alloc _⟩
theorem zW.inj {w:World}{v:Value}{m n:Nat}(h:zW w v m)(k:zW w v n):m=n:=by
 obtain⟨A,g,c,rfl,_,j,_,_,rfl⟩:=h
 obtain⟨s,l,t,p,_,q,_,_,rfl⟩:=k
 injection p with e1 e2 e3
 subst e1
 have:g=l:=by
  apply List.ext_getElem e2
  intro i e f
  obtain⟨b,o,rfl,_,r⟩:=j.at e
  obtain⟨u,x,d,_,a⟩:=q.at f
  injection d with d
  injection d with e3 e4
  subst e3 e4
  rw[r] at a
  injection a with a
  injection a with _ a
  rw[uR e,uR f] at a
  simp only[qW] at a
  omega
 rw[this]
open Classical in
noncomputable def Zep (w:World) (v:Value):Nat:=if h:∃ n,zW w v n then Classical.choose h else 0
theorem Ziq {w:World}{v:Value}{n:Nat}(h:zW w v n):Zep w v=n:=by
 have a:∃ n,zW w v n:=⟨n,h⟩
 unfold Zep
 rw[dif_pos a]
 exact (oP a).inj h
theorem zW.len_zero {w:World}{A:qA}{l c n:Nat}(h:zW w (.slice A l c) n):(n=0↔l=0)∧l=ml n:=by
 obtain⟨j,f,k,a,_,_,g,i,b⟩:=h
 injection a with _ a
 have d:=jA g i
 rw[b] at d
 refine⟨⟨fun e=>?_,fun e=>?_⟩,qO⟩
 ·rw[e,ZhA] at d;omega
 rw[e] at a
 have:f=[]:=tI.1 a.symm
 rw[this] at b
 simpa using b.symm
theorem ZjP (a b:Value)(x y:Int)(w:World)(ha:xB w a x)(I:xB w b y)(hx:wI x)(hy:wI y):Ζ 38 #[a,b] w (kH w (Int.gcd x y:Int)):=by
 obtain⟨s,A,l,c,rfl⟩:=ha.shp
 obtain⟨t,B,m,d,rfl⟩:=I.shp
 have HM:=zh ha.mag
 have HN:=zh I.mag
 have HX:Hid (ml x.natAbs≤17592186044416):=hx
 have HY:Hid (ml y.natAbs≤17592186044416):=hy
 obtain⟨r,J⟩:=yE (Int.gcd x y)
 have HR:Hid (Nat.gcd x.natAbs y.natAbs=r):=J
 rw[J]
 clear ha I hx hy J
 go_enter func38,ntmps38
 go_wp2_with fail
 generalize k:World.alloc (World.alloc (World.alloc w _) _) _=w1
 obtain⟨b0,b1,b2,h⟩:=ZlO k
 clear k
 have K:=zh b2
 have HE:=zh h
 replace HM:=zh (HM.out.ext h)
 replace HN:=zh (HN.out.ext h)
 obtain⟨c0,c1,f0,f1⟩:=b0.cell2
 obtain⟨q,L,f2,f3⟩:=b1.cell2
 clear b0 b1 b2 h
 go_quiet (fail)
 clear c0 c1 f0 f1 q L f2 f3
 go_wp2_with fail
 go_loopw [5,6,7,8] (fun xv M _ _ wr=>∃ (u v:Nat) (N z:Option Addr) (O P m' C:Nat),xv=.slice N O P∧M=.slice z m' C∧Hid (zW wr (.slice N O P) u)∧Hid (zW wr (.slice z m' C) v)∧Hid (ml u≤17592186044416)∧Hid (ml v≤17592186044416)∧Hid (Nat.gcd u v=r)∧Hid (Ext w1 wr)) (fun _ M _ _ wr=>Zep wr M)
 case atStart=>exact⟨_,_,_,_,_,_,_,_,rfl,rfl,HM.out.ext ((Fr.refl _ _).drewN _),HN.out.ext ((Fr.refl _ _).drewN _),HX,HY,HR,(Fr.refl _ _).drewN _⟩
 case round =>
  obtain⟨u,v,N,z,O,P,m',C,rfl,rfl,hU,D,hu,E,Q,R⟩:=hrel
  obtain⟨F,z2⟩:=D.out.len_zero
  have g0:m'≤17592186044416:=by have:=E.out;omega
  by_cases S:m'=0
  ·subst S
   have f:v=0:=F.2 rfl
   have T:Hid (u=r):=by have:=Q.out;rw[f,qX] at this;exact this
   have HB:=zh (K.out.ext R.out)
   have U:=zh (HE.out.trans R.out)
   clear F z2 f
   go_wp2_with fail
   refine (bG false _ u _ hU.out).mono ?_
   rintro e G ⟨_,rfl,V,g⟩
   obtain⟨s2,A2,l2,q,rfl⟩:=V.shp
   have HI:=zh V
   have j:=zh (HB.out.ext g)
   have W:=zh (U.out.trans g)
   obtain⟨k0,k1,k2,k3⟩:=j.out.cell2
   clear V g
   go_wp2
   have n:Fr (fun i=>i=(w.heap.size+1+1)) G ((G.setCell ⟨w.heap.size+1+1,0,none⟩ (.bool s2)).setCell ⟨w.heap.size+1+1,1,none⟩ (.slice A2 l2 q)):=((Fr.refl (fun i=>i=(w.heap.size+1+1)) _).setCell (p:=⟨w.heap.size+1+1,0,none⟩) (Or.inl rfl) _).setCell (p:=⟨w.heap.size+1+1,1,none⟩) (Or.inl rfl) _
   exact Ze3 rfl rfl ((j.out.set_ 0 _).set_ 1 _) (by rw[←T.out];exact HI.out.oth j.out kU n) (W.out.next n (fun i hi e=>qO))
  have h0:0<m':=qO
  have f:0<v:=by
   rcases uJ v with e|e;· exact absurd (F.1 e) S
   ·exact e
  have T:Hid (Nat.gcd v (u%v)=r):=by have:=Q.out;rw[sP,oG,sP] at this;exact this
  have X:=zh (uA (Zao (pA (uP u f))) E.out)
  have Y:=zh (uP u f)
  have HC:=zh (ZgK _ _ u v wr hU.out D.out hu.out E.out f)
  clear F z2 f S Q
  go_wp2_with fail
  refine HC.out.mono ?_
  rintro e G ⟨_,_,rfl,hq,H,g⟩
  obtain⟨A2,l2,q,rfl⟩:=hq.slice
  obtain⟨A3,l3,L,rfl⟩:=H.slice
  have Z:=zh H
  have a0:=zh (D.out.ext g)
  have d0:=zh (R.out.trans g)
  have e0:Hid (Zep wr (.slice z m' C)=v):=Ziq D.out
  have o:Hid (Zep G (.slice A3 l3 L)=u%v):=Ziq H
  clear hq H g HC
  go_wp2
  go_roundw
  case rel=>exact⟨v,u%v,_,_,_,_,_,_,rfl,rfl,a0,Z,E,X,T,d0⟩
  case measure=>rw[e0.out,o.out];exact Y.out
end Go.Proofs.YtmpffakfhcpjoaaGreatDoor
namespace Go.Proofs.YtmpffakfhcpjoaaGreatDoor
theorem iZ {n k:Nat}:k<blen n↔2^k≤n:=by have:=@xH n k;omega
theorem gK {n:Nat}(h:0<n):0<blen n:=iZ.2 (by rw[tH];exact h)
theorem Ze4 {n k:Nat}(a:2^k≤n)(b:n<2^(k+1)):blen n=k+1:=by
 have:=iZ.2 a;have:=xH.2 b;omega
theorem ZbL {n:Nat}(h:0<n):2^(blen n-1)≤n:=iZ.1 (by have:=gK h;omega)
theorem p2 (k:Nat):0<2^k:=uZ qD
theorem dE {n:Nat}(h:0<n)(j:Nat):blen (n*2^j)=blen n+j:=by
 have a:=ZbL h
 have b:=jX n
 obtain⟨k,c⟩:∃ k,blen n=k+1:=⟨blen n-1,by have:=gK h;omega⟩
 rw[c] at a b ⊢
 rw[show k+1+j=k+j+1 by omega]
 refine Ze4 ?_ ?_
 ·rw[uU];exact uE _ (by simpa using a)
 rw[show k+j+1=k+1+j by omega,uU];exact (pT (p2 j)).2 b
theorem aM (n j:Nat):blen (n/2^j)=blen n-j:=by
 rcases vO j (blen n) with h|h
 ·have c:0<n:=by
   rcases uJ n with e|e;· subst e;rw[iT] at h;omega
   ·exact e
  have a:=ZbL c
  have b:=jX n
  obtain⟨k,d⟩:∃ k,blen n=j+(k+1):=⟨blen n-j-1,qO⟩
  rw[d] at a b ⊢
  rw[show j+(k+1)-j=k+1 by omega]
  refine Ze4 ?_ ?_
  ·rw[qU (p2 j),← uU];rw[show j+(k+1)-1=k+j by omega] at a;exact a
  rw[vN (p2 j),← uU,vW];exact b
 rw[tV (xH.1 h),iT];omega
def jY (a b:Nat):Nat:=if b<2*(a%b)∨(2*(a%b)=b∧a/b%2=1) then a/b+1 else a/b
theorem Zne {a b c:Nat}(d:0<c):jY (a*c) (b*c)=jY a b:=by
 unfold jY
 rw[rH,qR _ _ d,← uH]
 have e:b*c<2*(a%b)*c↔b<2*(a%b):=pT d
 have f:2*(a%b)*c=b*c↔2*(a%b)=b:=⟨fun h=>Nat.eq_of_mul_eq_mul_right d h,fun h=>by rw[h]⟩
 simp only[e,f]
theorem ZqG (a:Nat):jY a 1=a:=by unfold jY;rw[mM,rS,uI qO]
def gB (q j:Nat) (m:Bool):Nat:=if q/2^j%2=1∧(q%2^j≠0∨q/2^(j+1)%2=1∨m=true) then q/2^(j+1)+1 else q/2^(j+1)
theorem Znf {a b j:Nat}(k:0<b):jY a (b*2^(j+1))=gB (a/b) j (decide (a%b≠0)):=by
 unfold jY gB
 have l:a/(b*2^(j+1))=a/b/2^(j+1):=(sV _ _ _).symm
 have m:=vX a b
 have G:=uP a k
 rw[l]
 generalize a/b=q at *
 generalize a%b=r at *
 obtain⟨h,f⟩:∃ h,h=2^j:=⟨_,rfl⟩
 have n:0<h:=by rw[f];exact p2 j
 have o:2^(j+1)=h*2:=by rw[uO,f]
 have t:=vX q h
 have H:=uP q n
 rw[o,← f,← sV]
 generalize q/h=p at *
 generalize q%h=z at *
 have v:=vX p 2
 have I:=uP p (show 0<2 by decide)
 generalize p/2=u at *
 generalize p%2=s at *
 have w:a%(b*(h*2))=b*(h*s+z)+r:=by
  have e:a=b*(h*2)*u+(b*(h*s+z)+r):=by
   rw[←m,← t,← v]
   simp only[uL,uH,sG]
  have g:b*(h*s+z)+r<b*(h*2):=by
   have x:h*s+z+1≤h*2:=by
    have:h*s≤h*1:=uK _ qO
    omega
   have y:=uK b x
   rw[uL,sH] at y
   omega
  rw[e,pG,vL g]
 rw[w]
 have J:b*z+b≤b*h:=by
  have:=uK b (show z+1≤h by omega)
  rwa [uL,sH] at this
 have i:b*(h*2)=2*(b*h):=by rw[←uH,uG]
 have d:z=0∨b≤b*z:=by
  rcases uJ z with e|e
  ·exact Or.inl e
  exact Or.inr (by have:=uK b e;simpa using this)
 rcases (by omega:s=0∨s=1) with rfl|rfl
 ·rw[uI,uI qO]
  rw[tX,vZ,i]
  omega
 rw[sH,uL b h z,i]
 have A:(2*(b*h)<2*(b*h+b*z+r))↔(z≠0∨r≠0):=by
  constructor
  ·intro c
   rcases uJ z with e|e
   ·subst e;right;intro B;subst B;simp at c
   left;omega
  intro c
  rcases d with e|e
  ·subst e;rcases c with c|c;· exact absurd rfl c
   ·simp;omega
  omega
 have C:(2*(b*h+b*z+r)=2*(b*h))↔(z=0∧r=0):=by
  constructor
  ·intro c
   rcases d with e|e
   ·subst e;refine⟨rfl,?_⟩;rw[tX] at c;omega
   omega
  rintro⟨rfl,rfl⟩;simp
 simp only[A,C]
 by_cases D:z=0<;>by_cases E:r=0<;>by_cases F:u%2=1<;>simp[D,E,F]
def fa (n:Nat) (k:Int):Nat:=n*2^(-k).toNat
def fb (d:Nat) (k:Int):Nat:=d*2^k.toNat
def fq (n d:Nat) (k:Int):Nat:=fa n k/fb d k
theorem ZjQ {d:Nat}(h:0<d)(k:Int):0<fb d k:=sK h (p2 _)
theorem ZlV (n d:Nat)(k:Int)(j:Nat):∃ c,0<c∧fa n k=fa n (k+j)*c∧fb d k*2^j=fb d (k+j)*c:=by
 unfold fa fb
 rcases nX 0 k with h|h
 ·obtain⟨m,rfl⟩:=uS h
  refine⟨1,qD,?_,?_⟩
  ·rw[show (-(m:Int)).toNat=0 by omega,show (-((m:Int)+j)).toNat=0 by omega];simp
  rw[show ((m:Int)).toNat=m by omega,show ((m:Int)+j).toNat=m+j by omega,uH,← uU,sH]
 obtain⟨m,b⟩:=uS (show 0 ≤ -k by omega)
 obtain rfl:k = -(m:Int):=qO
 rcases nU j m with a|a
 ·refine⟨2^j,p2 j,?_,?_⟩
  ·rw[show (- -(m:Int)).toNat=m by omega,show (-(-(m:Int)+j)).toNat=m-j by omega,uH,← uU,nN a]
  rw[show (-(m:Int)).toNat=0 by omega,show (-(m:Int)+j).toNat=0 by omega]
 refine⟨2^m,p2 m,?_,?_⟩
 ·rw[show (- -(m:Int)).toNat=m by omega,show (-(-(m:Int)+j)).toNat=0 by omega];simp
 rw[show (-(m:Int)).toNat=0 by omega,show (-(m:Int)+j).toNat=j-m by omega,uH,uH,← uU,← uU,nN a,vZ]
theorem Za0 (n d:Nat)(k:Int)(j:Nat):fq n d (k+j)=fq n d k/2^j:=by
 obtain⟨c,a,b,e⟩:=ZlV n d k j
 unfold fq
 rw[sV,b,e,qR _ _ a]
theorem ZqH {n d:Nat}(k:Int)(j:Nat)(a:0<d):jY (fa n (k+(j+1:Nat))) (fb d (k+(j+1:Nat)))=gB (fq n d k) j (decide (fa n k%fb d k≠0)):=by
 obtain⟨c,b,e,f⟩:=ZlV n d k (j+1)
 unfold fq
 rw[←Znf (ZjQ a k),f,e,Zne b]
def rk0 (n d bits:Nat):Int:=(blen n:Int)-blen d-bits
theorem ZjR {n d bits:Nat}(o:0<n)(i:0<d)(t:0<bits):bits≤blen (fq n d (rk0 n d bits))∧blen (fq n d (rk0 n d bits))≤bits+1:=by
 have f:=ZbL o
 have j:=jX n
 have g:=ZbL i
 have k:=jX d
 obtain⟨p,r⟩:∃ p,blen n=p+1:=⟨blen n-1,by have:=gK o;omega⟩
 obtain⟨q,s⟩:∃ q,blen d=q+1:=⟨blen d-1,by have:=gK i;omega⟩
 obtain⟨b,rfl⟩:∃ b,bits=b+1:=⟨bits-1,qO⟩
 have c:fb d (rk0 n d (b+1))*2^b≤fa n (rk0 n d (b+1))∧fa n (rk0 n d (b+1))<fb d (rk0 n d (b+1))*2^(b+2):=by
  unfold fa fb rk0
  rw[r] at f j ⊢
  rw[s] at g k ⊢
  rw[tK] at f g
  rcases nX 0 ((p+1:Nat)-(q+1:Nat)-(b+1:Nat):Int) with h|h
  ·obtain⟨m,l⟩:=uS h
   have a:p=q+m+b+1:=qO
   subst a
   rw[l,show ((m:Nat):Int).toNat=m by omega,show (-((m:Nat):Int)).toNat=0 by omega]
   simp only[tH,sH]
   constructor
   ·refine uA ?_ f
    rw[show q+m+b+1=(q+1)+(m+b) by omega,uU,uH,← uU]
    exact uE _ (pA k)
   refine uT j ?_
   rw[show q+m+b+1+1=q+(m+(b+2)) by omega,uU 2 q,uH,← uU 2 m]
   exact uE _ g
  obtain⟨m,l⟩:=uS (show 0 ≤ -((p+1:Nat)-(q+1:Nat)-(b+1:Nat):Int) by omega)
  have a:p+m=q+b+1:=qO
  rw[l,show ((m:Nat):Int).toNat=m by omega,show ((p+1:Nat)-(q+1:Nat)-(b+1:Nat):Int).toNat=0 by omega]
  simp only[tH,sH]
  constructor
  ·refine uA ?_ (uE _ f)
   rw[←uU,a,show q+b+1=(q+1)+b by omega,uU]
   exact uE _ (pA k)
  refine uT ((pT (p2 m)).2 j) ?_
  rw[←uU,show p+1+m=q+(b+2) by omega,uU]
  exact uE _ g
 have e:=ZjQ i (rk0 n d (b+1))
 constructor
 ·have:2^b≤fq n d (rk0 n d (b+1)):=by
   unfold fq
   rw[qU e,uG];exact c.1
  have:=iZ.2 this
  omega
 refine xH.2 ?_
 unfold fq
 rw[vN e,uG];exact c.2
def rndK (n d bits:Nat):Int:=if blen (fq n d (rk0 n d bits))=bits then rk0 n d bits else rk0 n d bits+1
theorem Za1 {n d bits:Nat}(a:0<n)(b:0<d)(c:0<bits):blen (fq n d (rndK n d bits))=bits:=by
 obtain⟨e,f⟩:=ZjR a b c
 unfold rndK
 split
 ·assumption
 have:=Za0 n d (rk0 n d bits) 1
 rw[show (rk0 n d bits+1:Int)=rk0 n d bits+(1:Nat) by simp,this,aM]
 omega
theorem ZlW {n d bits:Nat}(c:0<n)(e:0<d)(f:0<bits){k:Int}(h:blen (fq n d k)=bits):rndK n d bits=k:=by
 have b:=Za1 c e f
 rcases Int.lt_trichotomy (rndK n d bits) k with a|a|a
 ·obtain⟨j,g⟩:=uS (show 0≤k-rndK n d bits by omega)
  have:=Za0 n d (rndK n d bits) j
  rw[show rndK n d bits+(j:Int)=k by omega] at this
  rw[this,aM,b] at h
  omega
 ·exact a
 obtain⟨j,g⟩:=uS (show 0≤rndK n d bits-k by omega)
 have:=Za0 n d k j
 rw[show k+(j:Int)=rndK n d bits by omega] at this
 rw[this,aM,h] at b
 omega
def rndM (n d bits:Nat):Nat:=jY (fa n (rndK n d bits)) (fb d (rndK n d bits))
theorem Ze5 (a b:Nat):a/b≤jY a b∧jY a b≤a/b+1:=by unfold jY;split<;>omega
theorem ZjS {n d bits:Nat}(a:0<n)(b:0<d)(c:0<bits):0<rndM n d bits:=by
 have h:=Za1 a b c
 have:=(Ze5 (fa n (rndK n d bits)) (fb d (rndK n d bits))).1
 have f:0<fq n d (rndK n d bits):=by
  rcases uJ (fq n d (rndK n d bits)) with e|e
  ·rw[e,iT] at h;omega
  exact e
 unfold rndM
 unfold fq at f
 omega
theorem Zeq {n d bits:Nat}(c:0<n)(a:0<d)(e:0<bits)(k:Int)(j:Nat)(h:blen (fq n d k)=bits+(j+1)) :
 rndK n d bits=k+(j+1:Nat)∧rndM n d bits=gB (fq n d k) j (decide (fa n k%fb d k≠0)):=by
 have b:rndK n d bits=k+(j+1:Nat):=ZlW c a e (by rw[Za0,aM,h];omega)
 refine⟨b,?_⟩
 unfold rndM
 rw[b,ZqH k j a]
theorem ZlX {n bits:Nat}(a:0<n)(c:0<bits)(h:blen n≤bits):rndK n 1 bits=(blen n:Int)-bits∧rndM n 1 bits=n*2^(bits-blen n):=by
 have b:rndK n 1 bits=(blen n:Int)-bits:=ZlW a qD c (by
  unfold fq fa fb
  rw[show (-((blen n:Int)-bits)).toNat=bits-blen n by omega,show ((blen n:Int)-bits).toNat=0 by omega]
  simp only[tH,sH,rS]
  rw[dE a];omega)
 refine⟨b,?_⟩
 unfold rndM
 rw[b]
 unfold fa fb
 rw[show (-((blen n:Int)-bits)).toNat=bits-blen n by omega,show ((blen n:Int)-bits).toNat=0 by omega]
 simp only[tH,sH,ZqG]
theorem Zsy {a s r bits:Nat}(g:0<bits)(ha:bits+1≤blen a)(h:0<r)(c:r<2^s) :
 rndK (a*2^s+r) 1 bits=(s:Int)+(blen a:Int)-bits∧rndM (a*2^s+r) 1 bits=gB a (blen a-bits-1) true:=by
 have i:0<a*2^s+r:=qO
 obtain⟨j,b⟩:∃ j,blen a=bits+(j+1):=⟨blen a-bits-1,qO⟩
 have e:fq (a*2^s+r) 1 (s:Int)=a:=by
  unfold fq fa fb
  rw[show (-(s:Int)).toNat=0 by omega,show ((s:Int)).toNat=s by omega]
  simp only[tH,sH,qH]
  rw[uG,rK (p2 s),tV c,tP]
 have k:fa (a*2^s+r) (s:Int)%fb 1 (s:Int)=r:=by
  unfold fa fb
  rw[show (-(s:Int)).toNat=0 by omega,show ((s:Int)).toNat=s by omega]
  simp only[tH,sH,qH]
  rw[uG,pG,vL c]
 obtain⟨l,f⟩:=Zeq (n:=a*2^s+r) i (d:=1) qD g (s:Int) j (by rw[e];exact b)
 rw[e,k] at f
 refine⟨by rw[l,b];omega,?_⟩
 rw[f,b,show bits+(j+1)-bits-1=j by omega,show decide (r≠0)=true from vQ qO]
def tzn (n:Nat):Nat:=if h:n=0∨n%2=1 then 0 else tzn (n/2)+1
termination_by n
decreasing_by omega
theorem ZlY {n:Nat}(h:n%2=1):tzn n=0:=by rw[tzn,dif_pos (Or.inr h)]
theorem ZlZ {n:Nat}(h:0<n):tzn (n*2)=tzn n+1:=by
 rw[tzn,dif_neg qO,oI _ qD]
theorem Zbr {n:Nat}(h:0<n):∀ j,tzn (n*2^j)=tzn n+j
 | 0=>qS
 | j+1=>by rw[uO,← uH,ZlZ (sK h (p2 j)),Zbr h j];omega
theorem ZoE:∀ n:Nat,0<n→∃ o,o%2=1∧n=o*2^tzn n:=by
 intro n
 induction n using Nat.strongRecOn with
 | ind n ih =>
  intro h
  by_cases a:n%2=1
  ·exact⟨n,a,by rw[ZlY a];simp⟩
  obtain⟨m,rfl⟩:∃ m,n=m*2:=⟨n/2,qO⟩
  obtain⟨o,b,c⟩:=ih m qO qO
  exact⟨o,b,by rw[ZlZ qO,uO,← uH,← c]⟩
theorem ZbM {o:Nat}(h:o%2=1)(j:Nat):tzn (o*2^j)=j:=by rw[Zbr qO,ZlY h];omega
def oddM (n:Nat):Nat:=n/2^tzn n
theorem ZcW {o:Nat}(h:o%2=1)(j:Nat):oddM (o*2^j)=o:=by unfold oddM;rw[ZbM h,oI _ (p2 j)]
theorem kM {n:Nat}(h:0<n):oddM n%2=1∧n=oddM n*2^tzn n:=by
 obtain⟨o,a,b⟩:=ZoE n h
 have:oddM n=o:=by rw[b];exact ZcW a _
 rw[this];exact⟨a,b⟩
theorem ZqI {n:Nat}(h:0<n)(j:Nat):oddM (n*2^j)=oddM n:=by
 obtain⟨a,b⟩:=kM h
 have:n*2^j=oddM n*2^(tzn n+j):=by rw[uU,← uH,← b]
 rw[this,ZcW a]
theorem ZoF {n:Nat}(h:0<n)(j:Nat):tzn n<j↔n%2^j≠0:=by
 obtain⟨i,f⟩:=kM h
 constructor
 ·intro g e
  obtain⟨d,b⟩:∃ d,j=tzn n+(d+1):=⟨j-tzn n-1,qO⟩
  have a:=Nat.dvd_of_mod_eq_zero e
  rw[b,uU,uG] at a
  rw[f] at a
  rw[ZbM i] at a
  have:=Nat.dvd_of_mul_dvd_mul_right (p2 _) a
  rw[uO] at this
  have:2∣oddM n:=Nat.dvd_trans ⟨_,uG _ _⟩ this
  omega
 intro c
 refine qY fun g=>c ?_
 obtain⟨d,b⟩:=nS g
 rw[f,b,uU,← uH,uG (oddM n),uH,Nat.mul_mod_right]
def isq (n:Nat):Nat:=if h:n=0 then 0 else let r:=2*isq (n/4);if (r+1)*(r+1)≤n then r+1 else r
termination_by n
decreasing_by omega
theorem dM:∀ n,isq n*isq n≤n∧n<(isq n+1)*(isq n+1):=by
 intro n
 induction n using Nat.strongRecOn with
 | ind n ih =>
  by_cases h:n=0
  ·subst h;rw[isq];simp
  obtain⟨d,e⟩:=ih (n/4) qO
  rw[isq,dif_neg h]
  generalize isq (n/4)=r at *
  simp only
  have b:2*r*(2*r)=4*(r*r):=by rw[pC]
  have c:(2*r+1+1)*(2*r+1+1)=4*((r+1)*(r+1)):=by
   rw[show 2*r+1+1=2*(r+1) by omega,pC]
  split
  ·rename_i a
   refine⟨a,?_⟩
   rw[c];omega
  rename_i a
  refine⟨?_,qO⟩
  rw[b];omega
theorem ZgL {n r:Nat}(a:r*r≤n)(b:n<(r+1)*(r+1)):isq n=r:=by
 obtain⟨c,d⟩:=dM n
 rcases pF (isq n) r with h|h|h
 ·have:=vK (show isq n+1≤r by omega) (show isq n+1≤r by omega);omega
 ·exact h
 have:=vK (show r+1≤isq n by omega) (show r+1≤isq n by omega);omega
theorem pow4 (j:Nat):2^(2*j)=2^j*2^j:=by rw[←uU];congr 1;omega
theorem Zl0 (n j:Nat):isq (n/2^(2*j))=isq n/2^j:=by
 obtain⟨a,b⟩:=dM n
 generalize isq n=r at *
 have c:=vX r (2^j)
 have d:=uP r (p2 j)
 refine ZgL ?_ ?_
 ·rw[qU (p2 _),pow4,pC]
  have:r/2^j*2^j≤r:=pI _ _
  exact uA (vK this this) a
 rw[vN (p2 _),pow4,pC]
 have:r+1≤(r/2^j+1)*2^j:=by rw[uW,qH,uG];omega
 exact uT b (vK this this)
theorem ZqJ {n b:Nat}(d:2*b+2≤blen n)(c:blen n≤2*b+3):b+1≤blen (isq n)∧blen (isq n)≤b+2:=by
 obtain⟨e,f⟩:=dM n
 have l:=iZ.1 (show 2*b+1<blen n by omega)
 have u:=xH.1 c
 generalize isq n=r at *
 have g:b<blen r:=by
  refine qY fun h=>?_
  have:=xH.1 h
  have a:=vK (show r+1≤2^b by omega) (show r+1≤2^b by omega)
  rw[←pow4] at a
  have:2^(2*b)≤2^(2*b+1):=vC qD qO
  omega
 refine⟨qO,xH.2 (qY fun h=>?_)⟩
 have a:=vK h h
 rw[←pow4] at a
 have:2^(2*b+3)≤2^(2*(b+2)):=vC qD qO
 omega
theorem ZoG (q j:Nat)(m:Bool):gB q j m=gB (q/2^j) 0 (decide (q%2^j≠0∨m=true)):=by
 unfold gB
 simp only[tH,rS,mM,vZ,mK,ne_eq,not_true_eq_false,false_or,tE]
 rw[sV,← uO]
 have e:(¬ q%2^j=0∨q/2^(j+1)%2=1∨m=true)↔(q/2^(j+1)%2=1∨¬ q%2^j=0∨m=true):=by
  constructor
  ·rintro (h|h|h);exact Or.inr (Or.inl h);exact Or.inl h;exact Or.inr (Or.inr h)
  rintro (h|h|h);exact Or.inr (Or.inl h);exact Or.inl h;exact Or.inr (Or.inr h)
 simp only[nE,e]
def jT (M:Nat) (s:Int):Bool:=decide (s<0∨isq (fq M 1 (-s))*isq (fq M 1 (-s))≠fq M 1 (-s))
theorem Zar (M:Nat)(s:Nat):fq M 1 (-(s:Int))=M*2^s:=by
 unfold fq fa fb
 rw[show (- -(s:Int)).toNat=s by omega,show (-(s:Int)).toNat=0 by omega];simp
theorem Zng {M:Nat}(i:M%2=1)(s:Int)(j:Nat):jT M (s-2*j)=decide (isq (fq M 1 (-s))%2^j≠0∨jT M s=true):=by
 unfold jT
 have k:fq M 1 (-(s-2*j))=fq M 1 (-s)/2^(2*j):=by rw[←Za0];congr 1;omega
 rw[k,Zl0]
 simp only[tE]
 rw[oD]
 constructor
 ·intro h
  refine tY fun a=>?_
  have l:isq (fq M 1 (-s))%2^j=0:=tY fun h=>a (Or.inl h)
  have d:0≤s:=tY fun h=>a (Or.inr (Or.inl qO))
  have b:isq (fq M 1 (-s))*isq (fq M 1 (-s))=fq M 1 (-s):=tY fun h=>a (Or.inr (Or.inr h))
  obtain⟨t,rfl⟩:=uS d
  rw[Zar] at *
  generalize isq (M*2^t)=r at *
  obtain⟨q,rfl⟩:=Nat.dvd_of_mod_eq_zero l
  rw[pZ _ (p2 j)] at h
  have e:M*2^t=(q*q)*2^(2*j):=by rw[←b,pow4];simp only[uH,uG,tL]
  rcases h with h|h
  ·have c:0<q:=by
    rcases uJ q with f|f
    ·subst f
     have:0<M*2^t:=sK qO (p2 t)
     simp at b;omega
    exact f
   have m:=ZbM i t
   rw[e,Zbr (sK c c)] at m
   omega
  rw[e,oI _ (p2 _)] at h
  exact h rfl
 intro h
 refine tY fun a=>?_
 have d:0≤s-2*j:=tY fun h=>a (Or.inl qO)
 have b:isq (fq M 1 (-s))/2^j*(isq (fq M 1 (-s))/2^j)=fq M 1 (-s)/2^(2*j):=tY fun h=>a (Or.inr h)
 obtain⟨t,p⟩:=uS d
 obtain rfl:s=((t+2*j:Nat):Int):=qO
 rw[Zar] at *
 have n:M*2^(t+2*j)/2^(2*j)=M*2^t:=by rw[uU,← uH,oI _ (p2 _)]
 rw[n] at b
 obtain⟨q,c⟩:=yE (isq (M*2^(t+2*j))/2^j)
 rw[c] at b
 have g:M*2^(t+2*j)=q*2^j*(q*2^j):=by
  rw[pC,b,← pow4,uU,uH]
 have o:isq (M*2^(t+2*j))=q*2^j:=ZgL (by rw[←g];exact uF _) (by
  rw[g];have:=pY (oC (q*2^j)) (oC (q*2^j));exact this)
 rw[o] at h
 rcases h with h|h|h
 ·exact h (Nat.mul_mod_left _ _)
 ·omega
 exact h g.symm
def sqK (M:Nat) (E:Int) (bits:Nat):Int:=((blen M:Int)+E-1)/2-((bits:Int)-1)
def sqM (M:Nat) (E:Int) (bits:Nat):Nat:=gB (isq (fq M 1 (-(E-2*sqK M E bits+2)))) 0 (jT M (E-2*sqK M E bits+2))
theorem ZbN {M:Nat}(h:0<M)(s:Int)(c:0≤(blen M:Int)+s):(blen (fq M 1 (-s)):Int)=blen M+s:=by
 rcases nX 0 s with a|a
 ·obtain⟨t,rfl⟩:=uS a
  rw[Zar,dE h];omega
 obtain⟨t,b⟩:=uS (show 0 ≤ -s by omega)
 have:=Za0 M 1 0 t
 rw[Int.zero_add] at this
 rw[b,this,aM]
 have e:fq M 1 0=M:=by unfold fq fa fb;simp
 rw[e];omega
theorem ZqK {M:Nat}(k:M%2=1)(E:Int){bits:Nat}(u:0<bits)(s:Int)(v:(E-s)%2=0)(w:(2*bits+2:Int)≤blen M+s)(x:(blen M:Int)+s≤2*bits+3) :
 let r:=isq (fq M 1 (-s));let j:=blen r-bits-1
 blen r=bits+(j+1)∧(E-s)/2+(j+1:Nat)=sqK M E bits∧sqM M E bits=gB r j (jT M s):=by
 intro r j
 have d:0<M:=qO
 have e:=ZbN d s qO
 obtain⟨y,z⟩:=ZqJ (b:=bits) (n:=fq M 1 (-s)) qO qO
 have l:blen r=bits+(j+1):=by show blen (isq (fq M 1 (-s)))=bits+(blen (isq (fq M 1 (-s)))-bits-1+1);omega
 have f:j≤1:=by show blen (isq (fq M 1 (-s)))-bits-1≤1;omega
 -- the exponent
 obtain⟨g,h⟩:=dM (fq M 1 (-s))
 have m:isq (fq M 1 (-s))=r:=rfl
 rw[m] at g h
 have a:=iZ.1 (show bits+j<blen r by omega)
 have c:=xH.1 (show blen r≤bits+j+1 by omega)
 have o:2^(2*(bits+j))≤fq M 1 (-s):=by rw[pow4];exact uA (vK a a) g
 have p:fq M 1 (-s)<2^(2*(bits+j+1)):=by rw[pow4];exact uT h (vK c c)
 have A:=iZ.2 o
 have B:=xH.2 p
 have i:(E-s)/2+(j+1:Nat)=sqK M E bits:=by unfold sqK;omega
 refine⟨l,i,?_⟩
 unfold sqM
 have q:E-2*sqK M E bits+2=s-2*(j:Int):=by rw[←i];omega
 have t:fq M 1 (-(s-2*(j:Int)))=fq M 1 (-s)/2^(2*j):=by rw[←Za0];congr 1;omega
 rw[q,t,Zl0,ZoG r j,Zng k]
structure FR where
 s:Bool
 m:Nat
 e:Int
 err:Int
def Zi9:FR:=⟨false,0,0,0⟩
def errR (k:Int):FR:=⟨false,0,0,k⟩
def okE (e:Int):Prop := -1048576≤e∧e≤1048576
instance (e:Int):Decidable (okE e):=inferInstanceAs (Decidable (_∧_))
def xU (s:Bool) (n:Nat) (e:Int):FR:=if n=0 then Zi9 else if okE (e+tzn n) then ⟨s,oddM n,e+tzn n,0⟩ else errR 2
theorem ZoH {n:Nat}(s:Bool)(h:0<n)(j:Nat)(e:Int):xU s (n*2^j) e=xU s n (e+j):=by
 unfold xU
 have a:=sK h (p2 j)
 rw[uI (show ¬ n*2^j=0 by omega),uI (show ¬ n=0 by omega),Zbr h,ZqI h]
 have:e+((tzn n+j:Nat):Int)=e+j+tzn n:=qO
 rw[this]
def lJ (s:Bool) (n:Nat) (e:Int) (bits:Nat) (more:Bool):FR :=
 if blen n≤bits then xU s n e else xU s (gB n (blen n-bits-1) more) (e+(blen n-bits:Nat))
def wX (s:Bool) (n d:Nat) (e:Int) (bits:Nat):FR:=if n=0 then Zi9 else xU s (rndM n d bits) (e+rndK n d bits)
theorem Zft (s:Bool)(e:Int)(bits:Nat)(more:Bool):lJ s 0 e bits more=Zi9:=by
 unfold lJ;rw[uM (by rw[iT];omega)];rfl
theorem jJ (s:Bool)(d:Nat)(e:Int)(bits:Nat):wX s 0 d e bits=Zi9:=rfl
theorem jF (s:Bool)(n:Nat)(e:Int){bits:Nat}(f:0<bits):lJ s n e bits false=wX s n 1 e bits:=by
 rcases uJ n with rfl|b
 ·rw[Zft,jJ]
 unfold lJ wX
 rw[uI (show ¬ n=0 by omega)]
 split
 ·rename_i h
  obtain⟨c,a⟩:=ZlX b f h
  rw[c,a,ZoH s b]
  congr 1;omega
 rename_i h
 obtain⟨j,g⟩:∃ j,blen n=bits+(j+1):=⟨blen n-bits-1,qO⟩
 have i:fq n 1 0=n:=by unfold fq fa fb;simp
 have k:fa n 0%fb 1 0=0:=by unfold fb;simp[mM]
 obtain⟨c,a⟩:=Zeq b (d:=1) qD f 0 j (by rw[i];exact g)
 rw[i,k] at a
 rw[c,a,g,show bits+(j+1)-bits-1=j by omega,show bits+(j+1)-bits=j+1 by omega,Int.zero_add]
 rfl
theorem Zlc (s:Bool){n d:Nat}(e:Int){bits:Nat}(a:0<n)(b:0<d)(c:0<bits) :
 lJ s (fq n d (rk0 n d bits-1)) (e+(rk0 n d bits-1)) bits (decide (fa n (rk0 n d bits-1)%fb d (rk0 n d bits-1)≠0))=wX s n d e bits:=by
 obtain⟨h,i⟩:=ZjR a b c
 have f:=Za0 n d (rk0 n d bits-1) 1
 rw[show rk0 n d bits-1+(1:Nat)=rk0 n d bits by omega] at f
 rw[f,aM] at h i
 generalize o:rk0 n d bits-1=k at *
 obtain⟨j,g⟩:∃ j,blen (fq n d k)=bits+(j+1):=⟨blen (fq n d k)-bits-1,qO⟩
 obtain⟨l,m⟩:=Zeq a b c k j g
 unfold lJ wX
 rw[uI qO,uI qO,l,m,g,show bits+(j+1)-bits-1=j by omega,show bits+(j+1)-bits=j+1 by omega,Int.add_assoc]
def addR (sx:Bool) (xm:Nat) (xe:Int) (sy:Bool) (ym:Nat) (ye:Int) (bits:Nat):FR :=
 wX (decide (sg sx (xm*2^(xe-min xe ye).toNat)+sg sy (ym*2^(ye-min xe ye).toNat)<0)) (sg sx (xm*2^(xe-min xe ye).toNat)+sg sy (ym*2^(ye-min xe ye).toNat)).natAbs 1 (min xe ye) bits
theorem ZoI (sx:Bool)(b:Nat)(xe:Int)(c:Bool)(ym:Nat)(a:Int)(bits:Nat):addR sx b xe c ym a bits=addR c ym a sx b xe bits:=by
 unfold addR;rw[Int.min_comm a xe,Int.add_comm]
theorem Zir {a s r:Nat}(c:Bool)(e:Int){bits:Nat}(d:0<bits)(ha:bits+1≤blen a)(b:0<r)(f:r<2^s) :
 wX c (a*2^s+r) 1 e bits=xU c (gB a (blen a-bits-1) true) (e+s+(blen a:Int)-bits):=by
 obtain⟨g,h⟩:=Zsy d ha b f
 unfold wX
 rw[uI qO,g,h]
 congr 1;omega
theorem ZoJ {s t:Bool}{a b:Nat}(h:b<a):decide (sg s a+sg t b<0)=s∧(sg s a+sg t b).natAbs=(if s=t then a+b else a-b):=by
 cases s<;>cases t<;>simp[sg]<;>omega
theorem Znh (sx:Bool){a:Nat}(xe:Int)(b:Bool){ym:Nat}(c:Int){bits:Nat}(k:0<bits)(m:0<a)(l:0<ym){f:Int}(C:f≤xe)(D:f≤blen a+xe-bits-2)(F:blen ym+c≤f) :
 addR sx a xe b ym c bits=addR sx a xe b 1 (f-1) bits:=by
 have n:=gK l
 have d:∀ (s r:Nat) (E:Int),E=f-s→0<r→r<2^s→wX (decide (sg sx (a*2^(xe-E).toNat)+sg b r<0)) (sg sx (a*2^(xe-E).toNat)+sg b r).natAbs 1 E bits =
  xU sx (gB (if sx=b then a*2^(xe-f).toNat else a*2^(xe-f).toNat-1) (blen (if sx=b then a*2^(xe-f).toNat else a*2^(xe-f).toNat-1)-bits-1) true) (f+(blen (if sx=b then a*2^(xe-f).toNat else a*2^(xe-f).toNat-1):Int)-bits):=by
  intro s r E Q h o
  have i:a*2^(xe-E).toNat=a*2^(xe-f).toNat*2^s:=by
   rw[uH,← uU];congr 2;omega
  have G:bits+2≤blen (a*2^(xe-f).toNat):=by rw[dE m];omega
  rw[i]
  generalize a*2^(xe-f).toNat=X at *
  have p:=iZ.1 (show bits+1<blen X by omega)
  have H:2^bits*2=2^(bits+1):=(uO ..).symm
  have q:=p2 bits
  have u:=p2 s
  have j:1≤X:=qO
  have v:2^s≤X*2^s:=by have:=uE (2^s) j;omega
  obtain⟨w,x⟩:=ZoJ (s:=sx) (t:=b) (show r<X*2^s by omega)
  rw[w,x]
  by_cases e:sx=b
  ·rw[uM e,uM e,Zir sx E k qO h o]
   congr 1;omega
  rw[uI e,uI e]
  have y:X*2^s-r=(X-1)*2^s+(2^s-r):=by rw[Nat.sub_mul,qH];omega
  have g:bits+1≤blen (X-1):=iZ.2 qO
  rw[y,Zir sx E k g qO qO]
  congr 1;omega
 have z:c<f:=qO
 obtain⟨s,e⟩:=uS (show 0≤f-c by omega)
 have A:=d s ym c qO l (uT (jX ym) (vC qD qO))
 have B:=d 1 1 (f-1) qO qD qD
 unfold addR
 rw[show min xe c=c by omega,show min xe (f-1)=f-1 by omega,show (c-c).toNat=0 by omega,show (f-1-(f-1)).toNat=0 by omega]
 simp only[tH,sH]
 rw[A,B]
def Zbf (m:Nat) (e:Int) (bits:Nat):FR:=xU false (sqM m e bits) (sqK m e bits)
theorem ZaO {m:Nat}(a:m%2=1)(e:Int){bits:Nat}(b:0<bits)(s:Int)(c:(e-s)%2=0)(d:(2*bits+2:Int)≤blen m+s)(f:(blen m:Int)+s≤2*bits+3) :
 lJ false (isq (fq m 1 (-s))) ((e-s)/2) bits (jT m s)=Zbf m e bits:=by
 obtain⟨i,g,h⟩:=ZqK a e b s c d f
 unfold lJ Zbf
 rw[uI qO,h,← g]
 congr 1;omega
theorem gM (k:Int):(0:Rat)<2^k:=Rat.zpow_pos qD
theorem eW (j k:Int):(2:Rat)^(j+k)=2^j*2^k:=Rat.zpow_add qD j k
theorem fF (k:Nat):(2:Rat)^(k:Int)=((2^k:Nat):Rat):=by rw[Rat.zpow_natCast,Rat.natCast_pow];rfl
theorem ZoK (k:Int):(2:Rat)^(-k)*2^k=1:=by rw[←eW,Int.add_left_neg];rfl
theorem ZtX:(2:Rat)^(1:Int)=2:=qD
def qv (z x:Int):Rat:=(z:Rat)*2^x
theorem Zer (z x:Int)(j:Nat):qv (z*2^j) x=qv z (x+j):=by
 unfold qv
 rw[eW,fF,qL,show ((2:Int)^j:Int)=((2^j:Nat):Int) by rw[vY];rfl,pX,sL,pU (2^x)]
theorem Zsz (n d:Nat)(k:Int)(b:0<d):(fa n k:Rat)*2^k=(n:Rat)/(d:Rat)*(fb d k:Rat):=by
 have a:(d:Rat)≠0:=by intro h;have:=Rat.natCast_eq_zero_iff.1 h;omega
 have e:(n:Rat)/(d:Rat)*(d:Rat)=n:=Rat.div_mul_cancel a
 unfold fa fb
 rw[sB,sB,← fF,← fF]
 rw[sL,← eW,← sL,e]
 congr 2;omega
theorem ZoL {a b:Nat}(e:0<b):2*jY a b*b≤2*a+b∧2*a≤(2*jY a b+1)*b:=by
 have f:=vX a b
 have h:=uP a e
 unfold jY
 generalize a/b=q at *
 generalize a%b=r at *
 obtain⟨p,c⟩:=yE (b*q)
 rw[c] at f
 split
 ·have d:2*(q+1)*b=2*p+2*b:=by rw[←c,uH,uG (q+1),uL,uL];omega
  have g:(2*(q+1)+1)*b=2*p+2*b+b:=by rw[uW,d];omega
  omega
 have d:2*q*b=2*p:=by rw[←c,uH,uG q]
 have g:(2*q+1)*b=2*p+b:=by rw[uW,d];omega
 omega
structure Rnd (q:Rat) (bits:Nat) (m:Nat) (K:Int):Prop where
 lo:((2^(bits-1):Nat):Rat)*2^K≤q
 hi:q<((2^bits:Nat):Rat)*2^K
 dn:(2*(m:Rat)-1)*2^K≤2*q
 up:2*q≤(2*(m:Rat)+1)*2^K
 ml:2^(bits-1)≤m
 mh:m≤2^bits
theorem ZoM {q P A B U V M:Rat}(c:0<P)(c0:0<B)(d:A*P=q*B)(c1:U*B≤A)(c2:A<V*B)(j:2*M*B≤2*A+B)(k:2*A≤(2*M+1)*B):U*P≤q∧q<V*P∧(2*M-1)*P≤2*q∧2*q≤(2*M+1)*P:=by
 have a:∀ {x y:Rat},x*B≤y*B→x≤y:=fun {x y} h=>oS h c0
 have b:∀ {x y:Rat},x*B<y*B→x<y:=fun {x y} h=>(oT c0).1 h
 have e:=uX c1 (qB c)
 have f:=(oT c).2 c2
 have g:=uX j (qB c)
 have i:=uX k (qB c)
 clear c1 c2 j k
 rw[d] at e f
 rw[Rat.add_mul,sL 2 A,d] at g
 rw[sL 2 A,d] at i
 clear d
 exact⟨a (by clear a b f g i;grind),b (by clear a b e g i;grind),a (by clear a b e f i;grind),a (by clear a b e f g;grind)⟩
theorem ZgM {n d bits:Nat}(k:0<n)(c:0<d)(l:0<bits):Rnd ((n:Rat)/(d:Rat)) bits (rndM n d bits) (rndK n d bits):=by
 have o:=Za1 k c l
 have r:=Zsz n d (rndK n d bits) c
 have b:=ZjQ c (rndK n d bits)
 have g:=iZ.1 (show bits-1<blen (fq n d (rndK n d bits)) by omega)
 have h:=xH.1 (Nat.le_of_eq o)
 have s:=gM (rndK n d bits)
 obtain⟨i,j⟩:=ZoL (a:=fa n (rndK n d bits)) b
 have t:=Ze5 (fa n (rndK n d bits)) (fb d (rndK n d bits))
 unfold fq at g h
 have e:=(qU b).1 g
 have f:=(vN b).1 h
 have u:rndM n d bits=jY (fa n (rndK n d bits)) (fb d (rndK n d bits)):=rfl
 rw[←u] at i j t
 have v:2*(rndM n d bits:Rat)*(fb d (rndK n d bits):Rat)≤2*(fa n (rndK n d bits):Rat)+(fb d (rndK n d bits):Rat):=by
  have:=tQ.2 i
  simpa [sB,qM] using this
 have w:2*(fa n (rndK n d bits):Rat)≤(2*(rndM n d bits:Rat)+1)*(fb d (rndK n d bits):Rat):=by
  have:=tQ.2 j
  simpa [sB,qM] using this
 obtain⟨x,y,z,A⟩:=ZoM s (pS.2 b) r (by rw[←sB];exact tQ.2 e) (by rw[←sB];exact Rat.natCast_lt_natCast.2 f) v w
 exact⟨x,y,z,A,qO,qO⟩
theorem Zl1 (k:Int):(2:Rat)^(k+1)=2*2^k:=by rw[eW,ZtX,pU]
theorem Zni {j k:Int}(h:j≤k):(2:Rat)^j≤2^k:=by
 obtain⟨n,c⟩:=uS (show 0≤k-j by omega)
 have e:k=j+n:=qO
 rw[e,eW,fF]
 have a:(1:Rat)≤((2^n:Nat):Rat):=by
  have:=tQ.2 (show 1≤2^n from p2 n)
  simpa using this
 have b:=tF a (qB (gM j))
 rwa [Rat.mul_one] at b
theorem Zl2 {bits:Nat}(a:0<bits):((2^bits:Nat):Rat)=2*((2^(bits-1):Nat):Rat):=by
 obtain⟨b,rfl⟩:∃ b,bits=b+1:=⟨bits-1,qO⟩
 rw[tK,uO,uG,sB];rfl
theorem Zce {P x y:Rat}(a:0<P)(h:x≤y):x*P≤y*P:=uX h (qB a)
section
variable {p q P:Rat} {bits m n:Nat} {J K:Int}
theorem ZoN {m z:Nat}(c:2*(m:Rat)-1≤2*(z:Rat))(d:2*(z:Rat)≤2*(m:Rat)+1):m=z:=by
 have a:((2*m:Nat):Rat)≤((2*z+1:Nat):Rat):=by
  simp only[qM,sB]
  have:((2:Nat):Rat)=2:=rfl
  have:((1:Nat):Rat)=1:=rfl
  grind
 have b:((2*z:Nat):Rat)≤((2*m+1:Nat):Rat):=by
  simp only[qM,sB]
  have:((2:Nat):Rat)=2:=rfl
  have:((1:Nat):Rat)=1:=rfl
  grind
 have e:=tQ.1 a
 have f:=tQ.1 b
 omega
theorem Rnd.rep (r:0<bits)(h:Rnd q bits m K){z:Nat}{t:Int}(d:q=(z:Rat)*2^t)(s:z≤2^bits):(m:Rat)*2^K=q:=by
 have f:=gM K
 have u:=gM t
 have v:(0:Rat)<((2^(bits-1):Nat):Rat):=pS.2 (p2 _)
 have g:=Zl2 r
 have a:∀ Z:Nat,q=(Z:Rat)*2^K→(m:Rat)*2^K=q:=fun Z e=>by
  obtain⟨b,i,k,l,_,_⟩:=h
  rw[e] at k l
  have:m=Z:=ZoN (oS (by clear b i l;grind) f) (oS (by clear b i k;grind) f)
  rw[this,e]
 rcases nX K t with w|w
 ·obtain⟨j,A⟩:=uS (show 0≤t-K by omega)
  refine a (z*2^j) ?_
  rw[d,show t=K+(j:Int) by omega,eW,fF,sB,sL,pU (2^K)]
 rcases (by omega:t=K∨t+1≤K) with e|e
 ·subst e;exact a z d
 have o:=Zni e
 rw[Zl1] at o
 have c:(z:Rat)≤((2^bits:Nat):Rat):=tQ.2 s
 have e4:=tF o (qB v)
 have x:=Zce u c
 have b:=h.lo
 rw[g] at x
 -- all are equal
 have y:q=((2^(bits-1):Nat):Rat)*2^K:=by
  rw[d] at b ⊢
  clear g c a
  apply Rat.le_antisymm
  ·clear b;grind
  exact b
 exact a _ y
end
def RndS (bits:Nat) (q v:Rat):Prop:=(q=0∧v=0)∨(0<q∧∃ m K,Rnd q bits m K∧v=(m:Rat)*2^K)∨(q<0∧∃ m K,Rnd (-q) bits m K∧v = -((m:Rat)*2^K))
section
variable {bits:Nat} {p q v w:Rat}
def Rep (bits:Nat) (v:Rat):Prop:=∃ (s:Bool) (z:Nat) (t:Int),v=(if s then -((z:Rat)*2^t) else (z:Rat)*2^t)∧z≤2^bits
theorem Zis {bits:Nat}(a:0<bits):(2:Rat)^(-(bits:Int))*((2^(bits-1):Nat):Rat)*2=1:=by
 rw[sL,pU _ 2,← Zl2 a,← fF,ZoK]
theorem Rnd.err {m:Nat}{K:Int}(d:0<bits)(h:Rnd q bits m K):(m:Rat)*2^K-q≤2^(-(bits:Int))*q∧q-(m:Rat)*2^K≤2^(-(bits:Int))*q∧2*((m:Rat)*2^K-q)≤2^K∧2*(q-(m:Rat)*2^K)≤2^K:=by
 obtain⟨a,e,i,j,f,g⟩:=h
 have b:=Zis d
 have c:=gM (-(bits:Int))
 have k:=tF a (qB c)
 have l:(2:Rat)^(-(bits:Int))*(((2^(bits-1):Nat):Rat)*2^K)*2=2^K:=by
  rw[←sL,sL _ (2^K) 2,pU (2^K) 2,← sL,b,Rat.one_mul]
 generalize (2:Rat)^(-(bits:Int))*(((2^(bits-1):Nat):Rat)*2^K)=H at *
 generalize (2:Rat)^(-(bits:Int))*q=E at *
 clear b c a e f g
 generalize (2:Rat)^K=P at *
 refine⟨?_,?_,?_,?_⟩<;>grind
theorem ZqL {z:Nat}(a:0<bits)(b:0<z)(t:Int):∃ m K,Rnd ((z:Rat)*2^t) bits m K:=by
 rcases nX 0 t with h|h
 ·obtain⟨j,rfl⟩:=uS h
  refine⟨rndM (z*2^j) 1 bits,rndK (z*2^j) 1 bits,?_⟩
  ·have:=ZgM (n:=z*2^j) (d:=1) (bits:=bits) (sK b (p2 j)) qD a
   rwa [sB,← fF,show ((1:Nat):Rat)=1 from rfl,show ∀ x:Rat,x/1=x from fun x=>by grind] at this
 obtain⟨j,c⟩:=uS (show 0 ≤ -t by omega)
 refine⟨rndM z (2^j) bits,rndK z (2^j) bits,?_⟩
 ·have:=ZgM (n:=z) (d:=2^j) (bits:=bits) b (p2 j) a
  rw[←fF,oF,← c] at this
  have e:((2:Rat)^(-t))⁻¹=2^t:=by rw[←mS,Int.neg_neg]
  rwa [e] at this
theorem Rep.rnd (b:0<bits)(h:Rep bits v):RndS bits v v:=by
 obtain⟨s,z,t,rfl,e⟩:=h
 rcases uJ z with rfl|c
 ·left
  have:((0:Nat):Rat)=0:=rfl
  cases s<;>simp
 obtain⟨m,K,a⟩:=ZqL b c t
 have f:(0:Rat)<(z:Rat)*2^t:=mJ (pS.2 c) (gM t)
 have d:=a.rep b rfl e
 cases s
 ·exact Or.inr (Or.inl ⟨f,m,K,a,d.symm⟩)
 refine Or.inr (Or.inr ⟨?_,m,K,?_,?_⟩)
 ·simp only[mR];grind
 ·simp only[mR,Rat.neg_neg];exact a
 simp only[mR,d]
end
theorem RndS.fl {bits:Nat}{q v:Rat}(d:0<bits)(h:RndS bits q v):Fl (2^(-(bits:Int))) q v:=by
 intro c i e
 have a:(0:Rat)≤2^(-(bits:Int)):=Rat.zpow_nonneg qD
 rcases h with ⟨rfl,rfl⟩|⟨_,m,K,b,rfl⟩|⟨_,m,K,b,rfl⟩
 ·have:=vV a (show 0≤c by grind)
  constructor<;>grind
 ·obtain⟨f,g,_,_⟩:=b.err d
  have:=tF e a
  constructor<;>grind
 obtain⟨f,g,_,_⟩:=b.err d
 have:=tF (show -q≤c by grind) a
 constructor<;>grind
theorem ZsA {u v q:Rat}(a:0≤u)(c:u≤1/4096)(d:(v-v*u)*(v-v*u)≤q)(h:q≤(v+v*u)*(v+v*u)) : -(3*u*q)≤v*v-q∧v*v-q≤3*u*q:=by
 have e:=fU v
 have b:=vV a e
 have f:=vV a b
 have i:=vV a f
 have g:u*(u*(v*v))≤1/4096*(u*(v*v)):=uX c b
 have j:=tF d a
 constructor<;>grind
end Go.Proofs.YtmpffakfhcpjoaaGreatDoor
namespace Go.Proofs.YtmpffakfhcpjoaaGreatDoor
open Go.RowKit Tryz
theorem eY {P:Program}{o:Oper}{ρ:Operand→Value}{w:World}{y:Value}{f:FuncId}{args:List Operand}{ts:Array TypeId}{a:List Value}(h:(callFunc f a.toArray).run P w=.ok (.value y) w)(b:o.op=.call { callee:=.value (.func f),args:=args.toArray,argTypes:=ts }:=by kernel_rfl)(c:args.map ρ=a:=by kernel_rfl)(d:ρ (.func f)=.func (.func f) #[] #[]:=by kernel_rfl):(execOp ρ o).run P w=.ok (.value y) w:=by
 subst c
 have e:(#[] ++ args.toArray.map ρ ++ #[]:Array Value)=(args.map ρ).toArray:=qS
 simp only[execOp,b,resolve,d,Deferred.ofValue,Sem.run_bind,Sem.run_pure,Result.andThen_ok,invoke,e,h]
theorem tdq (a c:Nat)(h:a<9223372036854775808):IntKind.i64.wrap (((a:Nat):Int).tdiv (c:Int))=((a/c:Nat):Int):=by
 rw[←Int.ofNat_tdiv,IntKind.wrap_i64]
 have:=vJ a c
 generalize a/c=q at *
 omega
theorem tdr (a c:Nat):(((a:Nat):Int).tmod (c:Int))=((a%c:Nat):Int):=(Int.ofNat_tmod a c).symm
theorem lQ {a b:Int}(h:((a:Int) == b)=false):a≠b:=by simpa using h
theorem Zes {a b:Int}(h:((a:Int) != b)=true):a≠b:=by simpa using h
theorem Zet {a b:Int}(h:((a:Int) != b)=false):a=b:=by simpa using h
section
variable {P:Program} {o:Oper} {ρ:Operand→Value} {w:World} {x y:Operand} {t k:TypeId}
theorem ZjT {a n:Nat}(h:n≤64)(b:o.op=Op.binOp .shr t x y k:=by kernel_rfl)(c:ρ x=.int .u64 (a:Int):=by kernel_rfl){ky:IntKind}(d:ρ y=.int ky (n:Int):=by kernel_rfl):(execOp ρ o).run P w=.ok (.value (.int .u64 ((a/2^n:Nat):Int))) w:=by
 have e:¬ ((n:Int)<0):=qO
 have f:min ((n:Int)).toNat IntKind.u64.bits=n:=by show min ((n:Int)).toNat 64=n;omega
 have g:((a:Int)).fdiv (2^n)=((a/2^n:Nat):Int):=by
  rw[Int.fdiv_eq_ediv_of_nonneg _ (by rw[show ((2:Int)^n)=((2^n:Nat):Int) by rw[vY];rfl];exact Int.natCast_nonneg _)]
  exact ZcD a n
 simp only[execOp,b,c,d,eqGuard,binOp,Op.shift,uI e,f,g]
 rfl
theorem ZoO {a n:Nat}(g:n≤64)(b:o.op=Op.binOp .shl t x y k:=by kernel_rfl)(c:ρ x=.int .u64 (a:Int):=by kernel_rfl){ky:IntKind}(d:ρ y=.int ky (n:Int):=by kernel_rfl):(execOp ρ o).run P w=.ok (.value (.int .u64 ((a*2^n%W64:Nat):Int))) w:=by
 have e:¬ ((n:Int)<0):=qO
 have f:min ((n:Int)).toNat IntKind.u64.bits=n:=by show min ((n:Int)).toNat 64=n;omega
 simp only[execOp,b,c,d,eqGuard,binOp,Op.shift,uI e,f,Zam]
 rfl
theorem ZrR {a b r:Nat}(ha:a<W64)(c:b<W64)(h:a ||| b=r)(d:o.op=Op.binOp .or t x y k:=by kernel_rfl)(e:ρ x=.int .u64 (a:Int):=by kernel_rfl)(f:ρ y=.int .u64 (b:Int):=by kernel_rfl):(execOp ρ o).run P w=.ok (.value (.int .u64 (r:Int))) w:=by
 have:=bP ha c
 rw[h] at this
 rw[←this]
 simp only[execOp,d,e,f,eqGuard,binOp]
 rfl
end
theorem lO {B:Nat}{xs:qN}(k:Nat):val B (xs.take (k+1))=val B (xs.take k)+B^k*(xs[k]?.getD 0):=by
 rcases vO k xs.length with h|h
 ·exact zV k h
 rw[uB qO,uB h,vU h];simp
def Zbg (xs ys:List Nat) (k:Nat) (zs:List Nat) (c:Nat):Prop :=
 zs.length=xs.length+1∧Dig W64 zs∧c≤1∧val W64 (zs.take k)+W64^k*c=val W64 (xs.take k)+val W64 (ys.take k)
theorem Zbg.start (xs ys:qN):Zbg xs ys 0 (List.replicate (xs.length+1) 0) 0:=⟨qS,Dig.replicate zK _,qO,qS⟩
theorem Zbg.step {xs ys zs:qN}{k c x y:Nat}(h:Zbg xs ys k zs c)(j:k<xs.length)(ex:xs[k]?.getD 0=x)(a:ys[k]?.getD 0=y)(b:Dig W64 xs)(d:Dig W64 ys):Zbg xs ys (k+1) (zs.set k (xJ x y c)) (xN x y c):=by
 obtain⟨e,f,g,i⟩:=h
 refine⟨by simpa using e,f.set k (cK _ _ _),Zc4 (ex ▸ b.getD zK k) (a ▸ d.getD zK k) g,?_⟩
 rw[xL _ _ _ _ qO,lO k,lO k,ex,a,uO]
 exact Zbz _ _ _ _ _ _ _ _ _ _ i (fZ x y c)
theorem Zbg.done {xs ys zs:qN}{c:Nat}(h:Zbg xs ys xs.length zs c)(a:ys.length≤xs.length):(zs.set xs.length c).length=xs.length+1∧Dig W64 (zs.set xs.length c)∧val W64 (zs.set xs.length c)=val W64 xs+val W64 ys:=by
 obtain⟨b,d,g,f⟩:=h
 have e:(zs.set xs.length c).length=xs.length+1:=by simpa using b
 refine⟨e,d.set _ (by have:=eJ;omega),?_⟩
 rw[←uB (l:=zs.set xs.length c) (i:=xs.length+1) qO,xL _ _ _ _ qO,f,uB (uF _),uB a]
def MinR (xs ys:List Nat) (k:Nat) (zs:List Nat) (c:Nat):Prop :=
 zs.length=xs.length∧Dig W64 zs∧c≤1∧val W64 (zs.take k)+val W64 (ys.take k)=val W64 (xs.take k)+W64^k*c
theorem MinR.start (xs ys:qN):MinR xs ys 0 (List.replicate xs.length 0) 0:=⟨qS,Dig.replicate zK _,qO,qS⟩
theorem MinR.step {xs ys zs:qN}{k c x y:Nat}(h:MinR xs ys k zs c)(l:k<xs.length)(ex:xs[k]?.getD 0=x)(a:ys[k]?.getD 0=y)(b:Dig W64 xs)(d:Dig W64 ys):MinR xs ys (k+1) (zs.set k (lW x y c)) (lX x y c):=by
 obtain⟨e,f,g,i⟩:=h
 have j:=ZbA (ex ▸ b.getD zK k) (a ▸ d.getD zK k) g
 refine⟨by simpa using e,f.set k (Zaj _ _ _),Zc5 _ _ _,?_⟩
 rw[xL _ _ _ _ qO,lO k,lO k,ex,a,uO]
 exact ZfD _ _ _ _ _ _ _ _ _ _ i j
theorem MinR.done {xs ys zs:qN}{c:Nat}(h:MinR xs ys xs.length zs c)(d:ys.length≤xs.length)(e:val W64 ys≤val W64 xs):val W64 zs=val W64 xs-val W64 ys:=by
 obtain⟨f,g,i,a⟩:=h
 rw[uB qO,uB d,uB (uF _)] at a
 have b:=wF g
 rw[f] at b
 rcases (by omega:c=0∨c=1) with rfl|rfl
 ·rw[tX] at a;omega
 rw[sH] at a;omega
noncomputable def tmD (z x y c:Nat):Nat:=xJ (xJ (xF x y) z 0) c 0
noncomputable def tmC (z x y c:Nat):Nat:=wW x y+xN (xF x y) z 0+xN (xJ (xF x y) z 0) c 0
theorem Zl3 (z x y c:Nat):tmD z x y c+W64*tmC z x y c=z+x*y+c:=by
 have a:=cL x y
 have b:=fZ (xF x y) z 0
 have d:=fZ (xJ (xF x y) z 0) c 0
 unfold tmD tmC
 rw[uL,uL]
 omega
theorem ZjU {z x y c:Nat}(d:z<W64)(a:x<W64)(b:y<W64)(e:c<W64):tmC z x y c<W64:=by
 have f:=Zl3 z x y c
 have g:=Zc6 a b
 exact aW _ qO
theorem ZgN {a b:Nat}(h:a+b<W64):IntKind.u64.wrap ((a:Int)+(b:Int))=((a+b:Nat):Int):=by rw[←rX];exact wK _ h
theorem ZuX {z x y c:Nat}(a:z<W64)(b:x<W64)(d:y<W64)(e:c<W64):wW x y+xN (xF x y) z 0<W64:=by have:=ZjU a b d e;unfold tmC at this;omega
theorem Zeu (x y:Nat)(w:World)(a:x<W64)(b:y<W64):Ζ 117 #[.int .u64 (x:Int),.int .u64 (y:Int)] w (RetV w (.tuple #[.int .u64 ((wW x y:Nat):Int),.int .u64 ((xF x y:Nat):Int)])):=by
 refine (ZaV x y a b w).mono ?_
 rintro e w' ⟨rfl,rfl⟩
 exact⟨rfl,Fr.refl _ _⟩
def TimI (zs0 ys:List Nat) (x i k:Nat) (zs:List Nat) (c:Nat):Prop :=
 zs.length=zs0.length∧Dig W64 zs∧c<W64∧zs.drop (i+k)=zs0.drop (i+k)∧val W64 (zs.take (i+k))+W64^(i+k)*c=val W64 (zs0.take (i+k))+W64^i*(x*val W64 (ys.take k))
theorem TimI.start {a:qN}(ys:qN)(x i:Nat)(h:Dig W64 a):TimI a ys x i 0 a 0:=⟨rfl,h,zK,rfl,qS⟩
theorem TimI.at {a ys zs:qN}{x i k c:Nat}(h:TimI a ys x i k zs c):zs[i+k]?.getD 0=a[i+k]?.getD 0:=by
 have:=vP (fun l=>l[0]?.getD 0) h.2.2.2.1
 simpa [vR] using this
theorem TimI.step {a ys zs:qN}{x i k c z y:Nat}(h:TimI a ys x i k zs c)(g:i+k<a.length)(b:zs[i+k]?.getD 0=z)(d:ys[k]?.getD 0=y)(j:Dig W64 ys)(l:x<W64):TimI a ys x i (k+1) (zs.set (i+k) (tmD z x y c)) (tmC z x y c):=by
 have m:a[i+k]?.getD 0=z:=h.at.symm.trans b
 obtain⟨n,f,p,q,s⟩:=h
 refine⟨by simpa using n,f.set _ (cK _ _ _),ZjU (b ▸ f.getD zK _) l (d ▸ j.getD zK k) p,?_,?_⟩
 ·have e:=vP (List.drop 1) q
  rw[tA,tA] at e
  rw[tN qO,show i+(k+1)=i+k+1 by omega];exact e
 rw[show i+(k+1)=(i+k)+1 by omega,xL _ _ _ _ qO,zV (i+k) g,lO k,m,d,uO]
 have e:=vP (W64^(i+k) * ·) (Zl3 z x y c)
 have r:W64^i*(x*(val W64 (ys.take k)+W64^k*y))=W64^i*(x*val W64 (ys.take k))+W64^(i+k)*(x*y):=by
  rw[uL x,uL (W64^i),uU,tL x (W64^k) y,uH (W64^i)]
 simp only[uL] at e
 rw[r,uH (W64^(i+k)) W64]
 omega
def TimR (xs ys:List Nat) (i:Nat) (zs:List Nat):Prop :=
 zs.length=xs.length+ys.length∧Dig W64 zs∧(∀ j,i+ys.length≤j→zs[j]?.getD 0=0)∧val W64 (zs.take (i+ys.length))=val W64 (xs.take i)*val W64 ys
theorem ZhN (n j:Nat):(List.replicate n 0)[j]?.getD 0=0:=by rw[pE];split<;>rfl
theorem TimR.start (xs ys:qN):TimR xs ys 0 (List.replicate (xs.length+ys.length) 0):=⟨qS,Dig.replicate zK _,fun j _=>ZhN _ _,by rw[List.take_replicate,kX];simp⟩
theorem TimR.step {xs ys a zs:qN}{i c x:Nat}(h:TimR xs ys i a)(b:i<xs.length)(ex:xs[i]?.getD 0=x)(k:TimI a ys x i ys.length zs c):TimR xs ys (i+1) (zs.set (i+ys.length) c):=by
 obtain⟨q,r,d,f⟩:=h
 obtain⟨s,g,m,n,p⟩:=k
 refine⟨by simp;omega,g.set _ m,fun j u=>?_,?_⟩
 ·rw[List.getElem?_set_ne qO]
  have e:=vP (fun l=>l[j-(i+ys.length)]?.getD 0) n
  simp only[vR] at e
  rw[show i+ys.length+(j-(i+ys.length))=j by omega] at e
  rw[e];exact d j qO
 rw[show i+1+ys.length=(i+ys.length)+1 by omega,xL _ _ _ _ qO,p,f,uB (uF ys.length),zV i b,ex,uW,uH]
theorem TimR.done {xs ys zs:qN}(h:TimR xs ys xs.length zs):val W64 zs=val W64 xs*val W64 ys:=by
 obtain⟨b,c,d,a⟩:=h
 rwa [uB qO,uB (uF _)] at a
theorem Zev (A:qA)(xs:qN)(c:Nat)(w:World)(s:zI .u64 w A xs)(z:xs.length≤1099511627776)(B:xs.length≤c) :
 Ζ 97 #[.slice A xs.length c] w (RetV w (.slice A (wU xs xs.length) c)):=by
 refine zU (Φ:=fun w=>zI .u64 w A xs) func97 rfl qK (fun w' u=>s.ext u) ?_
 refine yY (xq 1 [eS1 2 none 0 0] [] ?_)
 refine yZ (zC (zQ ?_))
 refine xO (fun p q r=>∃ (k:Nat),q=ofL [eS1 0 A k c] []∧r=(fun w=>zI .u64 w A (xs))∧(wU xs xs.length=wU xs k)∧(k≤xs.length)∧p=(1+k)) ((1+(xs.length))) ⟨(xs.length),rfl,rfl,rfl,uF _,rfl⟩ (fun w Q=>Q) ?_
 rintro p q r ⟨k,rfl,rfl,n,C,rfl⟩
 refine zC (yY (xq 4 [yB 6 (decide ((k:Int)>0))] [] ?_))
 rcases bl2 ((decide ((k:Int)>0))) with a|a
 ·rw[a]
  have f:=uC a
  refine xq 4 [eS1 7 A k c,yJ 10 (IntKind.i64.wrap ((k:Int)-1))] [] ?_
  rw[yW ((k:Int)-1) (((k-1:Nat):Int)) qO]
  refine xqk 11 (atA A (k-1)) (fun w R Q=>wT (t:=97) (e:=84) (x:=.tmp 7) (ix:=.tmp 10) (len:=k) (cap:=c) (i:=k-1) ((Q).ne (j:=k-1) qO) qO) ?_
  obtain⟨g,b⟩:=yE (xs[k-1]?.getD 0)
  refine xqk 12 (yX g) (fun w R Q=>by rw[←b];exact lL (t:=84) (x:=.tmp 11) (Q) (j:=k-1) qO) ?_
  refine xq 2 [yB 14 (((g:Int):Int) == 0)] [] ?_
  refine xe (zA ?_)
  refine yQ ((((g:Int):Int) == 0)) (fun d=>?_) fun d=>?_
  ·have l:=sZ.1 d
   refine zJ (zA (zQ (zB (xq 4 [eS1 15 A k c,yJ 18 (IntKind.i64.wrap ((k:Int)-1))] [] ?_))))
   rw[yW ((k:Int)-1) (((k-1:Nat):Int)) qO]
   refine xqk 19 (.slice A (k-1) c) (fun w R Q=>ZtR (t:=97) (e:=84) (x:=.tmp 15) (len:=k) (cap:=c) (h:=k-1) (hi:=.tmp 18) qO) ?_
   refine xq 1 [eS1 0 A (k-1) c] [] ?_
   refine xe (xR ?_)
   refine yP [eS1 0 A ((k-1)) c] [] (fun w=>zI .u64 w A (xs)) (fun w Q=>Q) ?_
   have v:wU xs xs.length=wU xs (k-1):=by obtain⟨m,rfl⟩:∃ m,k=m+1:=⟨k-1,qO⟩;rw[n,wU,uM (by rw[tK] at b;omega),tK]
   exact bD ((1+((k-1)))) qO ⟨((k-1)),rfl,rfl,v,qO,rfl⟩
  have l:=lQ d
  refine xM (zE (zE (xW (zA (yY (xq 2 [eS1 2 A k c] [] ?_))))))
  refine yZ (zH ?_)
  refine yR (.slice A k c) fun w' R Q=>?_
  exact⟨by obtain⟨m,rfl⟩:∃ m,k=m+1:=⟨k-1,qO⟩;rw[n,wU,uI (by rw[tK] at b;omega)],R⟩
 rw[a]
 have f:=uD a
 refine xq 8 [yB 14 false] [] ?_
 refine yZ (xb (xM (zE (zE (xW (zA (yY (xq 2 [eS1 2 A k c] [] ?_))))))))
 refine yZ (zH ?_)
 refine yR (.slice A k c) fun w' R Q=>?_
 obtain rfl:k=0:=qO
 exact⟨by rw[n];rfl,R⟩
theorem Za2 {b n v:Nat}{xs:qN}{w:World}(a:Own .u64 84 w b xs)(c:Dig W64 xs)(d:xs.length=n)(f:val W64 xs=v)(g:n≤1099511627776):Ζ 97 #[.slice (some ⟨b,0,none⟩) n n] w (lH w v):=by
 subst d f
 refine (Zev _ xs _ w a.shows0 g (uF _)).mono ?_
 rintro e w' ⟨rfl,Q⟩
 exact⟨_,rfl,(zF.of_own a c (uF _)).ext Q,Q⟩
theorem Znj (A m:qA)(xs ys:qN)(c c2:Nat)(w:World)(T:zI .u64 w A xs)(U:zI .u64 w m ys)(Z:xs.length≤4294967296)(V:ys.length≤4294967296)(K:Dig W64 xs)(L:Dig W64 ys)(W:ys.length≤xs.length)(G:val W64 ys≤val W64 xs) :
 Ζ 154 #[.slice A xs.length c,.slice m ys.length c2] w (lH w (val W64 xs-val W64 ys)):=by
 refine zU (Φ:=fun w=>(zI .u64 w A xs∧zI .u64 w m ys)) func154 rfl qK (fun w' M=>⟨T.ext M,U.ext M⟩) ?_
 refine yY (xq 1 [eS1 4 none 0 0] [] ?_)
 refine yZ (yY (xq 2 [yJ 10 xs.length] [] ?_))
 refine Zdl (d:=11) (t:=97) (e:=84) (k:=.u64) (kl:=.i64) (kc:=.i64) (l:=.tmp 10) (c:=.tmp 10) (xs.length) 8 qO qD fun a r _=>?_
 refine xr 1 [eS1 0 A xs.length c,eS1 1 m ys.length c2,eS1 4 none 0 0,eS1 5 (yL a) (xs.length) (xs.length)] [] ?_
 refine yZ (yY (xq 1 [yU 6 0] [] ?_))
 refine yZ (zC (yY (xq 3 [yJ 13 xs.length,yJ 14 0] [] ?_)))
 refine yZ (zQ ?_)
 refine xO (fun N O S=>∃ (f k:Nat) (q:List Nat),O=ofL [eS1 0 A xs.length c,eS1 1 m ys.length c2,eS1 4 none 0 0,eS1 5 (yL a) (xs.length) (xs.length),yU 6 f,yJ 13 xs.length,yJ 14 k] []∧S=(fun w=>(Box (fun j=>a≤j) w (fun w=>(zI .u64 w A (xs)∧zI .u64 w m (ys)))∧Own .u64 84 w a (q)))∧(MinR xs ys k q f)∧(k≤xs.length)∧N=(xs.length-k)) ((xs.length-0)) ⟨0,0,(List.replicate (xs.length) 0),rfl,rfl,MinR.start xs ys,qO,rfl⟩ (fun w Q=>⟨Q.1,Q.2⟩) ?_
 rintro N O S ⟨f,k,q,rfl,rfl,z,hk,rfl⟩
 refine yY (xq 1 [yB 15 (decide ((k:Int)<((xs.length:Nat):Int)))] [] ?_)
 refine yZ (zC ?_)
 refine yQ ((decide ((k:Int)<((xs.length:Nat):Int)))) (fun n=>?_) fun n=>?_
 ·have B:=uC n
  have X:=z.1
  have Y:=z.2.2.1
  refine zJ (zA (zC (zQ (yY (xq 2 [yJ 7 k] [] ?_)))))
  refine yZ (yY (xq 1 [yU 8 0] [] ?_))
  refine yZ (zC (yY (xq 4 [yB 20 (decide ((k:Int)<((ys.length:Nat):Int)))] [] ?_)))
  refine xe (zA ?_)
  refine yQ ((decide ((k:Int)<((ys.length:Nat):Int)))) (fun p=>?_) fun p=>?_
  ·have C:=uC p
   refine zB (xq 2 [eS1 21 m ys.length c2,yJ 22 k] [] ?_)
   refine xqk 23 (atA m k) (fun w R Q=>wT (t:=97) (e:=84) (x:=.tmp 21) (ix:=.tmp 22) (len:=ys.length) (cap:=c2) (i:=k) (((Q.1).self.2).ne (j:=k) qO) qO) ?_
   obtain⟨b,s⟩:=yE (ys[k]?.getD 0)
   refine xqk 24 (yX b) (fun w R Q=>by rw[←s];exact lL (t:=84) (x:=.tmp 23) ((Q.1).self.2) (j:=k) qO) ?_
   refine xq 1 [yU 8 b] [] ?_
   refine yZ (zB (xq 4 [eS1 26 (yL a) (xs.length) (xs.length),yJ 27 k,eS1 28 A xs.length c,yJ 29 k] [] ?_))
   refine xqk 30 (atA A k) (fun w R Q=>wT (t:=97) (e:=84) (x:=.tmp 28) (ix:=.tmp 29) (len:=xs.length) (cap:=c) (i:=k) (((Q.1).self.1).ne (j:=k) qO) qO) ?_
   obtain⟨g,u⟩:=yE (xs[k]?.getD 0)
   refine xqk 31 (yX g) (fun w R Q=>by rw[←u];exact lL (t:=84) (x:=.tmp 30) ((Q.1).self.1) (j:=k) qO) ?_
   refine xq 2 [yU 32 b,yU 33 f] [] ?_
   refine xqk 34 (.tuple #[yX (lW g b f:Nat), yX (lX g b f:Nat)]) (fun w R Q=>eY (args:=[Operand.tmp 31,Operand.tmp 32,Operand.tmp 33]) (ts:=#[84,84,84]) (fR g b f qO w)) ?_
   refine xq 3 [yU 35 (lW g b f:Nat),yU 36 (lX g b f:Nat)] [] ?_
   refine xqk 37 (.pointer (some ⟨a,k,none⟩)) (fun w R Q=>kV (t:=97) (e:=84) (x:=.tmp 26) (ix:=.tmp 27) (len:=(xs.length)) (cap:=(xs.length)) (i:=k) qO) ?_
   refine iS (t:=84) (x:=.tmp 37) (y:=.tmp 35) a (k) (lW g b f) (fun w=>(Box (fun j=>a≤j) w (fun w=>(zI .u64 w A (xs)∧zI .u64 w m (ys)))∧Own .u64 84 w a ((q).set (k) (lW g b f)))) (fun w Q=>Q.2) qO (Or.inl r) (fun w w' Q H I=>⟨((Q.1).fr (H.mono (fun _ _ e=>by rw[e];exact uF _))),I⟩) ?_
   refine xq 1 [yU 6 (lX g b f:Nat)] [] ?_
   refine xe (xR (zA (zB (xq 1 [yJ 38 (IntKind.i64.wrap ((k:Int)+1))] [] ?_))))
   rw[yW ((k:Int)+1) (((k+1:Nat):Int)) qO]
   refine xq 1 [yJ 14 (k+1:Nat)] [] ?_
   refine xe ?_
   refine yP [eS1 0 A xs.length c,eS1 1 m ys.length c2,eS1 4 none 0 0,eS1 5 (yL a) (xs.length) (xs.length),yU 6 ((lX g b f):Nat),yJ 13 xs.length,yJ 14 ((k+1):Nat)] [] (fun w=>(Box (fun j=>a≤j) w (fun w=>(zI .u64 w A (xs)∧zI .u64 w m (ys)))∧Own .u64 84 w a (((q).set (k) (lW g b f))))) (fun w Q=>⟨Q.1,Q.2⟩) ?_
   have J:=z.step (k:=k) qO u (y:=b) s K L
   exact bD ((xs.length-(k+1))) qO ⟨(lX g b f),(k+1),((q).set (k) (lW g b f)),rfl,rfl,J,qO,rfl⟩
  have C:=uD p
  refine zJ (zA (zB (xq 4 [eS1 26 (yL a) (xs.length) (xs.length),yJ 27 k,eS1 28 A xs.length c,yJ 29 k] [] ?_)))
  refine xqk 30 (atA A k) (fun w R Q=>wT (t:=97) (e:=84) (x:=.tmp 28) (ix:=.tmp 29) (len:=xs.length) (cap:=c) (i:=k) (((Q.1).self.1).ne (j:=k) qO) qO) ?_
  obtain⟨h,v⟩:=yE (xs[k]?.getD 0)
  refine xqk 31 (yX h) (fun w R Q=>by rw[←v];exact lL (t:=84) (x:=.tmp 30) ((Q.1).self.1) (j:=k) qO) ?_
  refine xq 2 [yU 32 0,yU 33 f] [] ?_
  refine xqk 34 (.tuple #[yX (lW h 0 f:Nat), yX (lX h 0 f:Nat)]) (fun w R Q=>eY (args:=[Operand.tmp 31,Operand.tmp 32,Operand.tmp 33]) (ts:=#[84,84,84]) (fR h 0 f qO w)) ?_
  refine xq 3 [yU 35 (lW h 0 f:Nat),yU 36 (lX h 0 f:Nat)] [] ?_
  refine xqk 37 (.pointer (some ⟨a,k,none⟩)) (fun w R Q=>kV (t:=97) (e:=84) (x:=.tmp 26) (ix:=.tmp 27) (len:=(xs.length)) (cap:=(xs.length)) (i:=k) qO) ?_
  refine iS (t:=84) (x:=.tmp 37) (y:=.tmp 35) a (k) (lW h 0 f) (fun w=>(Box (fun j=>a≤j) w (fun w=>(zI .u64 w A (xs)∧zI .u64 w m (ys)))∧Own .u64 84 w a ((q).set (k) (lW h 0 f)))) (fun w Q=>Q.2) qO (Or.inl r) (fun w w' Q H I=>⟨((Q.1).fr (H.mono (fun _ _ e=>by rw[e];exact uF _))),I⟩) ?_
  refine xq 1 [yU 6 (lX h 0 f:Nat)] [] ?_
  refine xe (xR (zA (zB (xq 1 [yJ 38 (IntKind.i64.wrap ((k:Int)+1))] [] ?_))))
  rw[yW ((k:Int)+1) (((k+1:Nat):Int)) qO]
  refine xq 1 [yJ 14 (k+1:Nat)] [] ?_
  refine xe ?_
  refine yP [eS1 0 A xs.length c,eS1 1 m ys.length c2,eS1 4 none 0 0,eS1 5 (yL a) (xs.length) (xs.length),yU 6 ((lX h 0 f):Nat),yJ 13 xs.length,yJ 14 ((k+1):Nat)] [] (fun w=>(Box (fun j=>a≤j) w (fun w=>(zI .u64 w A (xs)∧zI .u64 w m (ys)))∧Own .u64 84 w a (((q).set (k) (lW h 0 f))))) (fun w Q=>⟨Q.1,Q.2⟩) ?_
  have J:=z.step (k:=k) qO v (y:=0) (by rw[vU qO];rfl) K L
  exact bD ((xs.length-(k+1))) qO ⟨(lX h 0 f),(k+1),((q).set (k) (lW h 0 f)),rfl,rfl,J,qO,rfl⟩
 have B:=uD n
 obtain rfl:k=xs.length:=qO
 refine xM (zE (zE (xW (zA (yY (xq 1 [eS1 39 (yL a) (xs.length) (xs.length)] [] ?_))))))
 refine xqc 97 [Υ a (xs.length)] 40 xI _ (fun w R Q=>yM xG (Za2 Q.2 z.2.1 z.1 (z.done W G) qO)) fun⟨D,E,F⟩=>?_
 refine xq 1 [eS1 4 D E F] [] ?_
 refine yZ (zH ?_)
 refine yR (.slice D E F) fun w' R Q=>?_
 exact⟨_,rfl,Q.2,R⟩
theorem ZoP (A J:qA)(xs ys:qN)(c c2:Nat)(w:World)(hX:zI .u64 w A xs)(hY:zI .u64 w J ys)(hl:xs.length≤4294967296)(W:ys.length≤4294967296)(hx:Dig W64 xs)(hy:Dig W64 ys) :
 Ζ 124 #[.slice A xs.length c,.slice J ys.length c2] w (lH w (val W64 xs+val W64 ys)):=by
 refine zU (Φ:=fun w=>(zI .u64 w A xs∧zI .u64 w J ys)) func124 rfl qK (fun w' hf=>⟨hX.ext hf,hY.ext hf⟩) ?_
 refine yY (xq 1 [eS1 4 none 0 0] [] ?_)
 refine xe (zA ?_)
 refine ZcS (fun L M=>∃ (p q:Option Addr) (a n:List Nat) (z C:Nat),L=ofL [eS1 0 p a.length z,eS1 1 q n.length C,eS1 4 none 0 0] []∧M=(fun w=>(zI .u64 w p (a)∧zI .u64 w q (n)))∧(n.length≤a.length)∧(Dig W64 a)∧(Dig W64 n)∧(a.length≤4294967296)∧(val W64 a+val W64 n=val W64 xs+val W64 ys)) ?_ ?_
 ·refine yY (xq 5 [yB 13 (decide (((xs.length:Nat):Int)<((ys.length:Nat):Int)))] [] ?_)
  refine xe (zA ?_)
  refine yQ ((decide (((xs.length:Nat):Int)<((ys.length:Nat):Int)))) (fun r=>?_) fun r=>?_
  ·have G:=uC r
   refine zB (xq 4 [eS1 0 J ys.length c2,eS1 1 A xs.length c] [] ?_)
   refine xe ?_
   exact jB ⟨J,A,ys,xs,c2,c,rfl,rfl,qO,hy,hx,W,vW _ _⟩ (fun w Q=>⟨Q.2,Q.1⟩)
  have G:=uD r
  refine zJ ?_
  exact jB ⟨A,J,xs,ys,c,c2,rfl,rfl,qO,hx,hy,hl,rfl⟩ (fun w Q=>⟨Q.1,Q.2⟩)
 rintro L M ⟨p,q,a,n,z,C,rfl,rfl,h1,hu,hv,a0,N⟩
 refine yY (xq 3 [yJ 18 (IntKind.i64.wrap (((a.length:Nat):Int)+1))] [] ?_)
 rw[yW (((a.length:Nat):Int)+1) (((a.length+1:Nat):Int)) qO]
 refine Zdl (d:=19) (t:=97) (e:=84) (k:=.u64) (kl:=.i64) (kc:=.i64) (l:=.tmp 18) (c:=.tmp 18) (a.length+1) 8 qO qD fun b s _=>?_
 refine xr 1 [eS1 0 p a.length z,eS1 1 q n.length C,eS1 4 none 0 0,eS1 5 (yL b) (a.length+1) (a.length+1)] [] ?_
 refine yZ (yY (xq 1 [yU 6 0] [] ?_))
 refine yZ (zC (yY (xq 3 [yJ 21 a.length,yJ 22 0] [] ?_)))
 refine yZ (zQ ?_)
 refine xO (fun nn L M=>∃ (g k:Nat) (B:List Nat),L=ofL [eS1 0 p a.length z,eS1 1 q n.length C,eS1 4 none 0 0,eS1 5 (yL b) (a.length+1) (a.length+1),yU 6 g,yJ 21 a.length,yJ 22 k] []∧M=(fun w=>(Box (fun j=>b≤j) w (fun w=>(zI .u64 w p (a)∧zI .u64 w q (n)))∧Own .u64 84 w b (B)))∧(Zbg a n k B g)∧(k≤a.length)∧nn=(a.length-k)) ((a.length-0)) ⟨0,0,(List.replicate (a.length+1) 0),rfl,rfl,Zbg.start a n,qO,rfl⟩ (fun w Q=>⟨Q.1,Q.2⟩) ?_
 rintro nn L M ⟨g,k,B,rfl,rfl,K,hk,rfl⟩
 refine yY (xq 1 [yB 23 (decide ((k:Int)<((a.length:Nat):Int)))] [] ?_)
 refine yZ (zC ?_)
 refine yQ ((decide ((k:Int)<((a.length:Nat):Int)))) (fun u=>?_) fun u=>?_
 ·have H:=uC u
  have X:=K.1
  have b0:=K.2.2.1
  refine zJ (zA (zC (zQ (yY (xq 2 [yJ 7 k] [] ?_)))))
  refine yZ (yY (xq 1 [yU 8 0] [] ?_))
  refine yZ (zC (yY (xq 4 [yB 28 (decide ((k:Int)<((n.length:Nat):Int)))] [] ?_)))
  refine xe (zA ?_)
  refine yQ ((decide ((k:Int)<((n.length:Nat):Int)))) (fun v=>?_) fun v=>?_
  ·have I:=uC v
   refine zB (xq 2 [eS1 29 q n.length C,yJ 30 k] [] ?_)
   refine xqk 31 (atA q k) (fun w R Q=>wT (t:=97) (e:=84) (x:=.tmp 29) (ix:=.tmp 30) (len:=n.length) (cap:=C) (i:=k) (((Q.1).self.2).ne (j:=k) qO) qO) ?_
   obtain⟨f,D⟩:=yE (n[k]?.getD 0)
   refine xqk 32 (yX f) (fun w R Q=>by rw[←D];exact lL (t:=84) (x:=.tmp 31) ((Q.1).self.2) (j:=k) qO) ?_
   refine xq 1 [yU 8 f] [] ?_
   refine yZ (zB (xq 4 [eS1 34 (yL b) (a.length+1) (a.length+1),yJ 35 k,eS1 36 p a.length z,yJ 37 k] [] ?_))
   refine xqk 38 (atA p k) (fun w R Q=>wT (t:=97) (e:=84) (x:=.tmp 36) (ix:=.tmp 37) (len:=a.length) (cap:=z) (i:=k) (((Q.1).self.1).ne (j:=k) qO) qO) ?_
   obtain⟨h,E⟩:=yE (a[k]?.getD 0)
   refine xqk 39 (yX h) (fun w R Q=>by rw[←E];exact lL (t:=84) (x:=.tmp 38) ((Q.1).self.1) (j:=k) qO) ?_
   refine xq 2 [yU 40 f,yU 41 g] [] ?_
   refine xqk 42 (.tuple #[yX (xJ h f g:Nat), yX (xN h f g:Nat)]) (fun w R Q=>eY (args:=[Operand.tmp 39,Operand.tmp 40,Operand.tmp 41]) (ts:=#[84,84,84]) (fQ h f g qO w)) ?_
   refine xq 3 [yU 43 (xJ h f g:Nat),yU 44 (xN h f g:Nat)] [] ?_
   refine xqk 45 (.pointer (some ⟨b,k,none⟩)) (fun w R Q=>kV (t:=97) (e:=84) (x:=.tmp 34) (ix:=.tmp 35) (len:=(a.length+1)) (cap:=(a.length+1)) (i:=k) qO) ?_
   refine iS (t:=84) (x:=.tmp 45) (y:=.tmp 43) b (k) (xJ h f g) (fun w=>(Box (fun j=>b≤j) w (fun w=>(zI .u64 w p (a)∧zI .u64 w q (n)))∧Own .u64 84 w b ((B).set (k) (xJ h f g)))) (fun w Q=>Q.2) qO (Or.inl s) (fun w w' Q O S=>⟨((Q.1).fr (O.mono (fun _ _ e=>by rw[e];exact uF _))),S⟩) ?_
   refine xq 1 [yU 6 (xN h f g:Nat)] [] ?_
   refine xe (xR (zA (zB (xq 1 [yJ 46 (IntKind.i64.wrap ((k:Int)+1))] [] ?_))))
   rw[yW ((k:Int)+1) (((k+1:Nat):Int)) qO]
   refine xq 1 [yJ 22 (k+1:Nat)] [] ?_
   refine xe ?_
   refine yP [eS1 0 p a.length z,eS1 1 q n.length C,eS1 4 none 0 0,eS1 5 (yL b) (a.length+1) (a.length+1),yU 6 ((xN h f g):Nat),yJ 21 a.length,yJ 22 ((k+1):Nat)] [] (fun w=>(Box (fun j=>b≤j) w (fun w=>(zI .u64 w p (a)∧zI .u64 w q (n)))∧Own .u64 84 w b (((B).set (k) (xJ h f g))))) (fun w Q=>⟨Q.1,Q.2⟩) ?_
   have Y:=K.step (k:=k) qO E (y:=f) D hu hv
   exact bD ((a.length-(k+1))) qO ⟨(xN h f g),(k+1),((B).set (k) (xJ h f g)),rfl,rfl,Y,qO,rfl⟩
  have I:=uD v
  refine zJ (zA (zB (xq 4 [eS1 34 (yL b) (a.length+1) (a.length+1),yJ 35 k,eS1 36 p a.length z,yJ 37 k] [] ?_)))
  refine xqk 38 (atA p k) (fun w R Q=>wT (t:=97) (e:=84) (x:=.tmp 36) (ix:=.tmp 37) (len:=a.length) (cap:=z) (i:=k) (((Q.1).self.1).ne (j:=k) qO) qO) ?_
  obtain⟨m,F⟩:=yE (a[k]?.getD 0)
  refine xqk 39 (yX m) (fun w R Q=>by rw[←F];exact lL (t:=84) (x:=.tmp 38) ((Q.1).self.1) (j:=k) qO) ?_
  refine xq 2 [yU 40 0,yU 41 g] [] ?_
  refine xqk 42 (.tuple #[yX (xJ m 0 g:Nat), yX (xN m 0 g:Nat)]) (fun w R Q=>eY (args:=[Operand.tmp 39,Operand.tmp 40,Operand.tmp 41]) (ts:=#[84,84,84]) (fQ m 0 g qO w)) ?_
  refine xq 3 [yU 43 (xJ m 0 g:Nat),yU 44 (xN m 0 g:Nat)] [] ?_
  refine xqk 45 (.pointer (some ⟨b,k,none⟩)) (fun w R Q=>kV (t:=97) (e:=84) (x:=.tmp 34) (ix:=.tmp 35) (len:=(a.length+1)) (cap:=(a.length+1)) (i:=k) qO) ?_
  refine iS (t:=84) (x:=.tmp 45) (y:=.tmp 43) b (k) (xJ m 0 g) (fun w=>(Box (fun j=>b≤j) w (fun w=>(zI .u64 w p (a)∧zI .u64 w q (n)))∧Own .u64 84 w b ((B).set (k) (xJ m 0 g)))) (fun w Q=>Q.2) qO (Or.inl s) (fun w w' Q O S=>⟨((Q.1).fr (O.mono (fun _ _ e=>by rw[e];exact uF _))),S⟩) ?_
  refine xq 1 [yU 6 (xN m 0 g:Nat)] [] ?_
  refine xe (xR (zA (zB (xq 1 [yJ 46 (IntKind.i64.wrap ((k:Int)+1))] [] ?_))))
  rw[yW ((k:Int)+1) (((k+1:Nat):Int)) qO]
  refine xq 1 [yJ 22 (k+1:Nat)] [] ?_
  refine xe ?_
  refine yP [eS1 0 p a.length z,eS1 1 q n.length C,eS1 4 none 0 0,eS1 5 (yL b) (a.length+1) (a.length+1),yU 6 ((xN m 0 g):Nat),yJ 21 a.length,yJ 22 ((k+1):Nat)] [] (fun w=>(Box (fun j=>b≤j) w (fun w=>(zI .u64 w p (a)∧zI .u64 w q (n)))∧Own .u64 84 w b (((B).set (k) (xJ m 0 g))))) (fun w Q=>⟨Q.1,Q.2⟩) ?_
  have Y:=K.step (k:=k) qO F (y:=0) (by rw[vU qO];rfl) hu hv
  exact bD ((a.length-(k+1))) qO ⟨(xN m 0 g),(k+1),((B).set (k) (xJ m 0 g)),rfl,rfl,Y,qO,rfl⟩
 have H:=uD u
 obtain rfl:k=a.length:=qO
 have X:=K.1
 have Z:=K.done h1
 refine xM (zE (zE (xW (zA (yY (xq 4 [eS1 47 (yL b) (a.length+1) (a.length+1),yJ 49 a.length,yU 50 g] [] ?_))))))
 refine xqk 51 (.pointer (some ⟨b,a.length,none⟩)) (fun w R Q=>kV (t:=97) (e:=84) (x:=.tmp 47) (ix:=.tmp 49) (len:=(a.length+1)) (cap:=(a.length+1)) (i:=a.length) qO) ?_
 refine iS (t:=84) (x:=.tmp 51) (y:=.tmp 50) b (a.length) (g) (fun w=>(Box (fun j=>b≤j) w (fun w=>(zI .u64 w p (a)∧zI .u64 w q (n)))∧Own .u64 84 w b ((B).set (a.length) (g)))) (fun w Q=>Q.2) qO (Or.inl s) (fun w w' Q O S=>⟨((Q.1).fr (O.mono (fun _ _ e=>by rw[e];exact uF _))),S⟩) ?_
 refine yZ (yY (xq 1 [eS1 52 (yL b) (a.length+1) (a.length+1)] [] ?_))
 refine xqc 97 [Υ b (a.length+1)] 53 xI _ (fun w R Q=>yM xG (Za2 Q.2 Z.2.1 Z.1 (Z.2.2.trans N) qO)) fun⟨T,U,V⟩=>?_
 refine xq 1 [eS1 4 T U V] [] ?_
 refine yZ (zH ?_)
 refine yR (.slice T U V) fun w' R Q=>?_
 exact⟨_,rfl,Q.2,R⟩
theorem Znk (A p:qA)(xs ys:qN)(c c2:Nat)(w:World)(hX:zI .u64 w A xs)(hY:zI .u64 w p ys)(hl:xs.length≤4294967296)(a0:ys.length≤4294967296)(S:Dig W64 xs)(T:Dig W64 ys) :
 Ζ 95 #[.slice A xs.length c,.slice p ys.length c2] w (lH w (val W64 xs*val W64 ys)):=by
 refine zU (Φ:=fun w=>(zI .u64 w A xs∧zI .u64 w p ys)) func95 rfl qK (fun w' Z=>⟨hX.ext Z,hY.ext Z⟩) ?_
 refine yY (xq 1 [eS1 4 none 0 0] [] ?_)
 refine yZ (yY (xq 5 [yJ 18 (IntKind.i64.wrap (((xs.length:Nat):Int)+((ys.length:Nat):Int)))] [] ?_))
 rw[yW (((xs.length:Nat):Int)+((ys.length:Nat):Int)) (((xs.length+(ys.length):Nat):Int)) qO]
 refine Zdl (d:=19) (t:=97) (e:=84) (k:=.u64) (kl:=.i64) (kc:=.i64) (l:=.tmp 18) (c:=.tmp 18) (xs.length+(ys.length)) 8 qO qD fun m C _=>?_
 refine xr 1 [eS1 0 A xs.length c,eS1 1 p ys.length c2,eS1 4 none 0 0,eS1 5 (yL m) (xs.length+(ys.length)) (xs.length+(ys.length))] [] ?_
 refine yZ (zC (yY (xq 3 [eS1 20 A xs.length c,yJ 21 xs.length,yJ 22 0] [] ?_)))
 refine yZ (zQ ?_)
 refine xO (fun I J K=>∃ (i:Nat) (L:List Nat),J=ofL [eS1 1 p ys.length c2,eS1 4 none 0 0,eS1 5 (yL m) (xs.length+(ys.length)) (xs.length+(ys.length)),eS1 20 A xs.length c,yJ 21 xs.length,yJ 22 i] []∧K=(fun w=>(Box (fun j=>m≤j) w (fun w=>(zI .u64 w A (xs)∧zI .u64 w p (ys)))∧Own .u64 84 w m (L)))∧(TimR xs ys i L)∧(i≤xs.length)∧I=(xs.length-i)) ((xs.length-0)) ⟨0,(List.replicate (xs.length+(ys.length)) 0),rfl,rfl,TimR.start xs ys,qO,rfl⟩ (fun w Q=>⟨Q.1,Q.2⟩) ?_
 rintro I J K ⟨i,L,rfl,rfl,E,hi,rfl⟩
 refine yY (xq 1 [yB 23 (decide ((i:Int)<((xs.length:Nat):Int)))] [] ?_)
 refine yZ (zC ?_)
 refine yQ ((decide ((i:Int)<((xs.length:Nat):Int)))) (fun u=>?_) fun u=>?_
 ·have F:=uC u
  have U:=E.1
  refine zJ (zA (zC (zQ (yY (xq 1 [yJ 24 i] [] ?_)))))
  refine xqk 25 (atA A i) (fun w R Q=>wT (t:=97) (e:=84) (x:=.tmp 20) (ix:=.tmp 22) (len:=xs.length) (cap:=c) (i:=i) (((Q.1).self.1).ne (j:=i) qO) qO) ?_
  obtain⟨f,q⟩:=yE (xs[i]?.getD 0)
  refine xqk 26 (yX f) (fun w R Q=>by rw[←q];exact lL (t:=84) (x:=.tmp 25) ((Q.1).self.1) (j:=i) qO) ?_
  refine xq 2 [yJ 6 i,yU 7 f] [] ?_
  refine yZ (yY (xq 1 [yU 8 0] [] ?_))
  refine yZ (zC (yY (xq 3 [eS1 27 p ys.length c2,yJ 28 ys.length,yJ 29 0] [] ?_)))
  refine yZ (zQ ?_)
  refine xO (fun I J K=>∃ (n k:Nat) (B:List Nat),J=ofL [eS1 1 p ys.length c2,eS1 4 none 0 0,eS1 5 (yL m) (xs.length+(ys.length)) (xs.length+(ys.length)),yJ 6 i,yU 7 f,yU 8 n,eS1 20 A xs.length c,yJ 21 xs.length,yJ 22 i,eS1 27 p ys.length c2,yJ 28 ys.length,yJ 29 k] []∧K=(fun w=>(Box (fun j=>m≤j) w (fun w=>(zI .u64 w A (xs)∧zI .u64 w p (ys)))∧Own .u64 84 w m (B)))∧(TimI L ys f i k B n)∧(k≤ys.length)∧I=(ys.length-k)) ((ys.length-0)) ⟨0,0,L,rfl,rfl,TimI.start ys f i E.2.1,qO,rfl⟩ (fun w Q=>⟨Q.1,Q.2⟩) ?_
  rintro I J K ⟨n,k,B,rfl,rfl,D,hk,rfl⟩
  refine yY (xq 1 [yB 30 (decide ((k:Int)<((ys.length:Nat):Int)))] [] ?_)
  refine yZ (zC ?_)
  refine yQ ((decide ((k:Int)<((ys.length:Nat):Int)))) (fun z=>?_) fun z=>?_
  ·have G:=uC z
   have V:=D.1
   have H:=D.2.2.1
   refine zJ (zA (zC (zQ (yY (xq 1 [yJ 31 k] [] ?_)))))
   refine xqk 32 (atA p k) (fun w R Q=>wT (t:=97) (e:=84) (x:=.tmp 27) (ix:=.tmp 29) (len:=ys.length) (cap:=c2) (i:=k) (((Q.1).self.2).ne (j:=k) qO) qO) ?_
   obtain⟨g,r⟩:=yE (ys[k]?.getD 0)
   refine xqk 33 (yX g) (fun w R Q=>by rw[←r];exact lL (t:=84) (x:=.tmp 32) ((Q.1).self.2) (j:=k) qO) ?_
   refine xq 2 [yJ 9 k,yU 10 g] [] ?_
   refine yZ (yY (xq 2 [yU 35 f,yU 36 g] [] ?_))
   refine xqc 117 [yX f, yX g] 37 (fun _:Unit=>.tuple #[yX (wW f g:Nat), yX (xF f g:Nat)]) _ (fun w R Q=>yN (Zeu f g _ (by rw[←q];exact S.getD zK _) (by rw[←r];exact T.getD zK _))) fun xx=>?_
   refine xq 5 [yU 11 (wW f g:Nat),yU 12 (xF f g:Nat)] [] ?_
   refine yZ (yY (xq 5 [yU 41 (xF f g:Nat),eS1 42 (yL m) (xs.length+(ys.length)) (xs.length+(ys.length)),yJ 45 (IntKind.i64.wrap ((i:Int)+(k:Int)))] [] ?_))
   rw[yW ((i:Int)+(k:Int)) (((i+k:Nat):Int)) qO]
   refine xqk 46 (.pointer (some ⟨m,i+k,none⟩)) (fun w R Q=>kV (t:=97) (e:=84) (x:=.tmp 42) (ix:=.tmp 45) (len:=(xs.length+(ys.length))) (cap:=(xs.length+(ys.length))) (i:=i+k) qO) ?_
   obtain⟨h,s⟩:=yE (B[i+k]?.getD 0)
   refine xqk 47 (yX h) (fun w R Q=>by rw[←s];exact fO (t:=84) (x:=.tmp 46) (Q.1.2) (j:=i+k) qO) ?_
   refine xqk 48 (.tuple #[yX (xJ (xF f g) h 0:Nat), yX (xN (xF f g) h 0:Nat)]) (fun w R Q=>eY (args:=[Operand.tmp 41,Operand.tmp 47,Operand.const (Value.int IntKind.u64 0)]) (ts:=#[84,84,84]) (fQ (xF f g) h 0 qO w)) ?_
   refine xq 5 [yU 12 (xJ (xF f g) h 0:Nat),yU 13 (xN (xF f g) h 0:Nat)] [] ?_
   refine yZ (yY (xq 3 [(53,.v (yX (IntKind.u64.wrap (((wW f g:Nat):Int)+((xN (xF f g) h 0:Nat):Int)))))] [] ?_))
   rw[ZgN (a:=wW f g) (b:=xN (xF f g) h 0) (ZuX (by rw[←s];exact D.2.1.getD zK _) (by rw[←q];exact S.getD zK _) (by rw[←r];exact T.getD zK _) H)]
   refine xq 1 [yU 11 (wW f g+xN (xF f g) h 0:Nat)] [] ?_
   refine yZ (yY (xq 4 [eS1 55 (yL m) (xs.length+(ys.length)) (xs.length+(ys.length)),yJ 58 (IntKind.i64.wrap ((i:Int)+(k:Int)))] [] ?_))
   rw[yW ((i:Int)+(k:Int)) (((i+k:Nat):Int)) qO]
   refine xq 2 [yU 59 (xJ (xF f g) h 0:Nat),yU 60 n] [] ?_
   refine xqk 61 (.tuple #[yX (xJ (xJ (xF f g) h 0) n 0:Nat), yX (xN (xJ (xF f g) h 0) n 0:Nat)]) (fun w R Q=>eY (args:=[Operand.tmp 59,Operand.tmp 60,Operand.const (Value.int IntKind.u64 0)]) (ts:=#[84,84,84]) (fQ (xJ (xF f g) h 0) n 0 qO w)) ?_
   refine xq 3 [yU 62 (xJ (xJ (xF f g) h 0) n 0:Nat),yU 63 (xN (xJ (xF f g) h 0) n 0:Nat)] [] ?_
   refine xqk 64 (.pointer (some ⟨m,i+k,none⟩)) (fun w R Q=>kV (t:=97) (e:=84) (x:=.tmp 55) (ix:=.tmp 58) (len:=(xs.length+(ys.length))) (cap:=(xs.length+(ys.length))) (i:=i+k) qO) ?_
   refine iS (t:=84) (x:=.tmp 64) (y:=.tmp 62) m (i+k) (xJ (xJ (xF f g) h 0) n 0) (fun w=>((Box (fun j=>m≤j) w (fun w=>(zI .u64 w A (xs)∧zI .u64 w p (ys)))∧Own .u64 84 w m ((B).set (i+k) (xJ (xJ (xF f g) h 0) n 0)))∧True)) (fun w Q=>Q.1.2) qO (Or.inl C) (fun w w' Q W X=>⟨⟨((Q.1.1).fr (W.mono (fun _ _ e=>by rw[e];exact uF _))),X⟩,trivial⟩) ?_
   refine xr 1 [eS1 1 p ys.length c2,eS1 4 none 0 0,eS1 5 (yL m) (xs.length+(ys.length)) (xs.length+(ys.length)),yJ 6 i,yU 7 f,yU 8 n,yU 11 (wW f g+xN (xF f g) h 0:Nat),yU 13 (xN (xJ (xF f g) h 0) n 0:Nat),eS1 20 A xs.length c,yJ 21 xs.length,yJ 22 i,eS1 27 p ys.length c2,yJ 28 ys.length,yJ 29 k] [] ?_
   refine yZ (zB (xq 3 [(67,.v (yX (IntKind.u64.wrap (((wW f g+xN (xF f g) h 0:Nat):Int)+((xN (xJ (xF f g) h 0) n 0:Nat):Int)))))] [] ?_))
   rw[ZgN (a:=wW f g+xN (xF f g) h 0) (b:=xN (xJ (xF f g) h 0) n 0) (ZjU (by rw[←s];exact D.2.1.getD zK _) (by rw[←q];exact S.getD zK _) (by rw[←r];exact T.getD zK _) H)]
   refine xq 1 [yU 8 (wW f g+xN (xF f g) h 0+xN (xJ (xF f g) h 0) n 0:Nat)] [] ?_
   refine xe (xR (zA (zB (xq 1 [yJ 68 (IntKind.i64.wrap ((k:Int)+1))] [] ?_))))
   rw[yW ((k:Int)+1) (((k+1:Nat):Int)) qO]
   refine xq 1 [yJ 29 (k+1:Nat)] [] ?_
   refine xe ?_
   refine yP [eS1 1 p ys.length c2,eS1 4 none 0 0,eS1 5 (yL m) (xs.length+(ys.length)) (xs.length+(ys.length)),yJ 6 i,yU 7 f,(8,.v (yX ((wW f g+xN (xF f g) h 0+xN (xJ (xF f g) h 0) n 0):Nat))),eS1 20 A xs.length c,yJ 21 xs.length,yJ 22 i,eS1 27 p ys.length c2,yJ 28 ys.length,yJ 29 ((k+1):Nat)] [] (fun w=>(Box (fun j=>m≤j) w (fun w=>(zI .u64 w A (xs)∧zI .u64 w p (ys)))∧Own .u64 84 w m (((B).set (i+k) (xJ (xJ (xF f g) h 0) n 0))))) (fun w Q=>⟨Q.1.1,Q.1.2⟩) ?_
   have Y:=D.step (k:=k) qO s r T (by rw[←q];exact S.getD zK _)
   exact bD ((ys.length-(k+1))) qO ⟨(wW f g+xN (xF f g) h 0+xN (xJ (xF f g) h 0) n 0),(k+1),((B).set (i+k) (xJ (xJ (xF f g) h 0) n 0)),rfl,rfl,Y,qO,rfl⟩
  have G:=uD z
  have V:=D.1
  have H:=D.2.2.1
  obtain rfl:k=ys.length:=qO
  refine xM (zE (zE (xW (zA (zB (xq 5 [eS1 69 (yL m) (xs.length+(ys.length)) (xs.length+(ys.length)),yJ 73 (IntKind.i64.wrap ((i:Int)+((ys.length:Nat):Int)))] [] ?_))))))
  rw[yW ((i:Int)+((ys.length:Nat):Int)) (((i+(ys.length):Nat):Int)) qO]
  refine xq 1 [yU 74 n] [] ?_
  refine xqk 75 (.pointer (some ⟨m,i+(ys.length),none⟩)) (fun w R Q=>kV (t:=97) (e:=84) (x:=.tmp 69) (ix:=.tmp 73) (len:=(xs.length+(ys.length))) (cap:=(xs.length+(ys.length))) (i:=i+(ys.length)) qO) ?_
  refine iS (t:=84) (x:=.tmp 75) (y:=.tmp 74) m (i+(ys.length)) (n) (fun w=>(Box (fun j=>m≤j) w (fun w=>(zI .u64 w A (xs)∧zI .u64 w p (ys)))∧Own .u64 84 w m ((B).set (i+(ys.length)) (n)))) (fun w Q=>Q.2) qO (Or.inl C) (fun w w' Q W X=>⟨((Q.1).fr (W.mono (fun _ _ e=>by rw[e];exact uF _))),X⟩) ?_
  refine xe (xR (zA (zB (xq 1 [yJ 76 (IntKind.i64.wrap ((i:Int)+1))] [] ?_))))
  rw[yW ((i:Int)+1) (((i+1:Nat):Int)) qO]
  refine xq 1 [yJ 22 (i+1:Nat)] [] ?_
  refine xe ?_
  refine yP [eS1 1 p ys.length c2,eS1 4 none 0 0,eS1 5 (yL m) (xs.length+(ys.length)) (xs.length+(ys.length)),eS1 20 A xs.length c,yJ 21 xs.length,yJ 22 ((i+1):Nat)] [] (fun w=>(Box (fun j=>m≤j) w (fun w=>(zI .u64 w A (xs)∧zI .u64 w p (ys)))∧Own .u64 84 w m (((B).set (i+(ys.length)) (n))))) (fun w Q=>⟨Q.1,Q.2⟩) ?_
  have Y:=E.step (i:=i) qO q D
  exact bD ((xs.length-(i+1))) qO ⟨(i+1),((B).set (i+(ys.length)) (n)),rfl,rfl,Y,qO,rfl⟩
 have F:=uD u
 have U:=E.1
 obtain rfl:i=xs.length:=qO
 refine xM (zE (zE (xW (zA (yY (xq 1 [eS1 77 (yL m) (xs.length+(ys.length)) (xs.length+(ys.length))] [] ?_))))))
 refine xqc 97 [Υ m (xs.length+(ys.length))] 78 xI _ (fun w R Q=>yM xG (Za2 Q.2 E.2.1 E.1 E.done qO)) fun⟨M,N,O⟩=>?_
 refine xq 1 [eS1 4 M N O] [] ?_
 refine yZ (zH ?_)
 refine yR (.slice M N O) fun w' R Q=>?_
 exact⟨_,rfl,Q.2,R⟩
theorem ZsB (A:qA)(xs:qN)(c k:Nat)(w:World)(T:zF w (.slice A xs.length c) (val W64 xs))(U:zI .u64 w A xs)(X:xs.length≤4294967296)(V:Dig W64 xs)(Y:k≤274877906944) :
 Ζ 70 #[.slice A xs.length c,.int .i64 ((k:Nat):Int)] w (lH w (val W64 xs*2^k)):=by
 refine zU (Φ:=fun w=>(zF w (.slice A xs.length c) (val W64 xs)∧zI .u64 w A xs)) func70 rfl qK (fun w' L=>⟨T.ext L,U.ext L⟩) ?_
 refine yY (xq 1 [eS1 4 none 0 0] [] ?_)
 refine yZ (zC (yY (xq 4 [yB 13 ((((xs.length:Nat):Int):Int) == 0)] [] ?_)))
 rcases bl2 (((((xs.length:Nat):Int):Int) == 0)) with h|h
 ·rw[h]
  have B:=sZ.1 h
  refine xq 3 [yB 16 true] [] ?_
  refine yZ (xa (yY (xq 2 [eS1 4 A xs.length c] [] ?_)))
  refine yZ (zH (zL ?_))
  refine yR (.slice A xs.length c) fun w' R Q=>?_
  exact⟨_,rfl,(by obtain rfl:xs=[]:=tI.1 qO;rw[dW,sD];exact Q.1),R⟩
 rw[h]
 have B:=lQ h
 refine xq 3 [yB 16 (((k:Int):Int) == 0)] [] ?_
 refine xe (zA ?_)
 refine yQ ((((k:Int):Int) == 0)) (fun q=>?_) fun q=>?_
 ·have C:=sZ.1 q
  refine yY (xq 2 [eS1 4 A xs.length c] [] ?_)
  refine yZ (zH (zL ?_))
  refine yR (.slice A xs.length c) fun w' R Q=>?_
  exact⟨_,rfl,(by obtain rfl:k=0:=qO;rw[tH,sH];exact Q.1),R⟩
 have C:=lQ q
 refine zJ (zA (yY (xq 2 [(19,Γ (IntKind.i64.wrap (((k:Int)).tdiv 64)))] [] ?_)))
 rw[show IntKind.i64.wrap ((((k:Int)).tdiv 64))=((k/64:Nat):Int) from tdq (k) 64 qO]
 refine xq 2 [yJ 21 (((k:Int)).tmod 64)] [] ?_
 rw[show ((k:Int)).tmod 64=((k%64:Nat):Int) from tdr (k) 64]
 refine xq 1 [yU 22 (IntKind.u64.wrap (((k%64:Nat):Int)))] [] ?_
 rw[show IntKind.u64.wrap (((k%64:Nat):Int))=((k%64:Nat):Int) by rw[IntKind.wrap_u64];omega]
 refine xq 2 [yJ 5 (k/64:Nat),yU 6 (k%64:Nat)] [] ?_
 refine yZ (yY (xq 4 [yJ 26 (IntKind.i64.wrap (((xs.length:Nat):Int)+((k/64:Nat):Int)))] [] ?_))
 rw[yW (((xs.length:Nat):Int)+((k/64:Nat):Int)) (((xs.length+(k/64):Nat):Int)) qO]
 refine xq 1 [(27,.v (yI (IntKind.i64.wrap (((xs.length+(k/64):Nat):Int)+1))))] [] ?_
 rw[show IntKind.i64.wrap ((((xs.length+(k/64):Nat):Int)+1))=((xs.length+(k/64)+1:Nat):Int) by rw[IntKind.wrap_i64];omega]
 refine Zdl (d:=28) (t:=97) (e:=84) (k:=.u64) (kl:=.i64) (kc:=.i64) (l:=.tmp 27) (c:=.tmp 27) (xs.length+(k/64)+1) 8 qO qD fun f u _=>?_
 refine xr 1 [eS1 0 A xs.length c,eS1 4 none 0 0,yJ 5 (k/64:Nat),yU 6 (k%64:Nat),eS1 7 (yL f) (xs.length+(k/64)+1) (xs.length+(k/64)+1)] [] ?_
 refine yZ (zC (yY (xq 3 [eS1 29 A xs.length c,yJ 30 xs.length,yJ 31 0] [] ?_)))
 refine yZ (zQ ?_)
 refine xO (fun M N O=>∃ (i:Nat) (D:List Nat),N=ofL [eS1 4 none 0 0,yJ 5 (k/64:Nat),yU 6 (k%64:Nat),eS1 7 (yL f) (xs.length+(k/64)+1) (xs.length+(k/64)+1),eS1 29 A xs.length c,yJ 30 xs.length,yJ 31 i] []∧O=(fun w=>(Box (fun j=>f≤j) w (fun w=>(zF w (.slice A xs.length c) (val W64 xs)∧zI .u64 w A (xs)))∧Own .u64 84 w f (D)))∧(cS xs (k/64) (k%64) i D)∧(i≤xs.length)∧M=(xs.length-i)) ((xs.length-0)) ⟨0,(List.replicate (xs.length+(k/64)+1) 0),rfl,rfl,cS.start xs (k/64) (k%64),qO,rfl⟩ (fun w Q=>⟨Q.1,Q.2⟩) ?_
 rintro M N O ⟨i,D,rfl,rfl,z,hi,rfl⟩
 refine yY (xq 1 [yB 32 (decide ((i:Int)<((xs.length:Nat):Int)))] [] ?_)
 refine yZ (zC ?_)
 refine yQ ((decide ((i:Int)<((xs.length:Nat):Int)))) (fun r=>?_) fun r=>?_
 ·have E:=uC r
  have I:=z.1
  refine zJ (zA (zC (zQ (yY (xq 1 [yJ 33 i] [] ?_)))))
  refine xqk 34 (atA A i) (fun w R Q=>wT (t:=97) (e:=84) (x:=.tmp 29) (ix:=.tmp 31) (len:=xs.length) (cap:=c) (i:=i) (((Q.1).self.2).ne (j:=i) qO) qO) ?_
  obtain⟨g,s⟩:=yE (xs[i]?.getD 0)
  refine xqk 35 (yX g) (fun w R Q=>by rw[←s];exact lL (t:=84) (x:=.tmp 34) ((Q.1).self.2) (j:=i) qO) ?_
  refine xq 2 [yJ 8 i,yU 9 g] [] ?_
  refine yZ (yY (xq 4 [eS1 36 (yL f) (xs.length+(k/64)+1) (xs.length+(k/64)+1),yJ 39 (IntKind.i64.wrap ((i:Int)+((k/64:Nat):Int)))] [] ?_))
  rw[yW ((i:Int)+((k/64:Nat):Int)) (((i+(k/64):Nat):Int)) qO]
  refine xqk 40 (.pointer (some ⟨f,i+(k/64),none⟩)) (fun w R Q=>kV (t:=97) (e:=84) (x:=.tmp 36) (ix:=.tmp 39) (len:=(xs.length+(k/64)+1)) (cap:=(xs.length+(k/64)+1)) (i:=i+(k/64)) qO) ?_
  obtain⟨m,p⟩:=yE (D[i+(k/64)]?.getD 0)
  refine xqk 41 (yX m) (fun w R Q=>by rw[←p];exact fO (t:=84) (x:=.tmp 40) (Q.2) (j:=i+(k/64)) qO) ?_
  refine xq 2 [yU 42 g,yU 43 (k%64:Nat)] [] ?_
  refine xqk 44 (yX (g*2^(k%64)%W64:Nat)) (fun w R Q=>ZoO (t:=84) (x:=.tmp 42) (y:=.tmp 43) (k:=88) (ky:=.u64) (a:=g) (n:=(k%64)) qO) ?_
  have W:=z.step (k:=i) qO qO p s (by rw[←s];exact V.getD zK _)
  refine xqk 45 (yX (m+g*2^(k%64)%W64:Nat)) (fun w R Q=>ZrR (t:=84) (x:=.tmp 41) (y:=.tmp 44) (k:=84) (a:=m) (b:=(g*2^(k%64)%W64)) (by rw[←p];exact z.2.1.getD zK _) (uP _ zK) (Zn7 (by rw[←p];exact z.2.2.2) qO)) ?_
  refine xqk 46 (.pointer (some ⟨f,i+(k/64),none⟩)) (fun w R Q=>kV (t:=97) (e:=84) (x:=.tmp 36) (ix:=.tmp 39) (len:=(xs.length+(k/64)+1)) (cap:=(xs.length+(k/64)+1)) (i:=i+(k/64)) qO) ?_
  refine iS (t:=84) (x:=.tmp 46) (y:=.tmp 45) f (i+(k/64)) (m+g*2^(k%64)%W64) (fun w=>(Box (fun j=>f≤j) w (fun w=>(zF w (.slice A xs.length c) (val W64 xs)∧zI .u64 w A (xs)))∧Own .u64 84 w f ((D).set (i+(k/64)) (m+g*2^(k%64)%W64)))) (fun w Q=>Q.2) qO (Or.inl u) (fun w w' Q J K=>⟨((Q.1).fr (J.mono (fun _ _ e=>by rw[e];exact uF _))),K⟩) ?_
  refine yZ (zB (xq 4 [eS1 47 (yL f) (xs.length+(k/64)+1) (xs.length+(k/64)+1),yJ 50 (IntKind.i64.wrap ((i:Int)+((k/64:Nat):Int)))] [] ?_))
  rw[yW ((i:Int)+((k/64:Nat):Int)) (((i+(k/64):Nat):Int)) qO]
  refine xq 1 [(51,.v (yI (IntKind.i64.wrap (((i+(k/64):Nat):Int)+1))))] [] ?_
  rw[show IntKind.i64.wrap ((((i+(k/64):Nat):Int)+1))=((i+(k/64)+1:Nat):Int) by rw[IntKind.wrap_i64];omega]
  refine xq 3 [yU 52 g,yU 54 (IntKind.u64.wrap (64-((k%64:Nat):Int)))] [] ?_
  rw[show IntKind.u64.wrap ((64-((k%64:Nat):Int)))=((64-(k%64):Nat):Int) by rw[IntKind.wrap_u64];have:=zN;omega]
  refine xqk 55 (yX (g/2^(64-(k%64)):Nat)) (fun w R Q=>ZjT (t:=84) (x:=.tmp 52) (y:=.tmp 54) (k:=88) (ky:=.u64) (a:=g) (n:=(64-(k%64))) qO) ?_
  refine xqk 56 (.pointer (some ⟨f,i+(k/64)+1,none⟩)) (fun w R Q=>kV (t:=97) (e:=84) (x:=.tmp 47) (ix:=.tmp 51) (len:=(xs.length+(k/64)+1)) (cap:=(xs.length+(k/64)+1)) (i:=i+(k/64)+1) qO) ?_
  refine iS (t:=84) (x:=.tmp 56) (y:=.tmp 55) f (i+(k/64)+1) (g/2^(64-(k%64))) (fun w=>(Box (fun j=>f≤j) w (fun w=>(zF w (.slice A xs.length c) (val W64 xs)∧zI .u64 w A (xs)))∧Own .u64 84 w f (((D).set (i+(k/64)) (m+g*2^(k%64)%W64)).set (i+(k/64)+1) (g/2^(64-(k%64)))))) (fun w Q=>Q.2) (by simp only[tM];omega) (Or.inl u) (fun w w' Q J K=>⟨((Q.1).fr (J.mono (fun _ _ e=>by rw[e];exact uF _))),K⟩) ?_
  refine xe (xR (zA (zB (xq 1 [yJ 57 (IntKind.i64.wrap ((i:Int)+1))] [] ?_))))
  rw[yW ((i:Int)+1) (((i+1:Nat):Int)) qO]
  refine xq 1 [yJ 31 (i+1:Nat)] [] ?_
  refine xe ?_
  exact xK ((xs.length-(i+1))) qO ⟨(i+1),(((D).set (i+(k/64)) (m+g*2^(k%64)%W64)).set (i+(k/64)+1) (g/2^(64-(k%64)))),rfl,rfl,W.1,qO,rfl⟩ (fun w Q=>⟨Q.1,Q.2⟩)
 have E:=uD r
 have I:=z.1
 obtain rfl:i=xs.length:=qO
 have S:=z.done
 rw[show 64*(k/64)+k%64=k by omega] at S
 refine xM (zE (zE (xW (zA (yY (xq 1 [eS1 58 (yL f) (xs.length+(k/64)+1) (xs.length+(k/64)+1)] [] ?_))))))
 refine xqc 97 [Υ f (xs.length+(k/64)+1)] 59 xI _ (fun w R Q=>yM xG (Za2 Q.2 z.2.1 z.1 S qO)) fun⟨F,G,H⟩=>?_
 refine xq 1 [eS1 4 F G H] [] ?_
 refine yZ (zH ?_)
 refine yR (.slice F G H) fun w' R Q=>?_
 exact⟨_,rfl,Q.2,R⟩
theorem ZoQ (A:qA)(xs:qN)(c k:Nat)(w:World)(Y:zF w (.slice A xs.length c) (val W64 xs))(Z:zI .u64 w A xs)(hl:xs.length≤4294967296)(H:Dig W64 xs)(hk:k≤274877906944) :
 Ζ 91 #[.slice A xs.length c,.int .i64 ((k:Nat):Int)] w (lH w (val W64 xs/2^k)):=by
 refine zU (Φ:=fun w=>(zF w (.slice A xs.length c) (val W64 xs)∧zI .u64 w A xs)) func91 rfl qK (fun w' U=>⟨Y.ext U,Z.ext U⟩) ?_
 refine yY (xq 1 [eS1 4 none 0 0] [] ?_)
 refine yZ (yY (xq 2 [(10,Γ (IntKind.i64.wrap (((k:Int)).tdiv 64)))] [] ?_))
 rw[show IntKind.i64.wrap ((((k:Int)).tdiv 64))=((k/64:Nat):Int) from tdq (k) 64 qO]
 refine xq 2 [yJ 12 (((k:Int)).tmod 64)] [] ?_
 rw[show ((k:Int)).tmod 64=((k%64:Nat):Int) from tdr (k) 64]
 refine xq 1 [yU 13 (IntKind.u64.wrap (((k%64:Nat):Int)))] [] ?_
 rw[show IntKind.u64.wrap (((k%64:Nat):Int))=((k%64:Nat):Int) by rw[IntKind.wrap_u64];omega]
 refine xq 2 [yJ 5 (k/64:Nat),yU 6 (k%64:Nat)] [] ?_
 refine yZ (zC (yY (xq 4 [yB 17 (decide (((k/64:Nat):Int)≥((xs.length:Nat):Int)))] [] ?_)))
 refine xe (zA ?_)
 refine yQ ((decide (((k/64:Nat):Int)≥((xs.length:Nat):Int)))) (fun p=>?_) fun p=>?_
 ·have D:=uC p
  refine yY (xq 1 [eS1 4 none 0 0] [] ?_)
  refine yZ (zH (zL ?_))
  refine yR Ξ fun w' R Q=>?_
  exact⟨_,rfl,by rw[ZfG H qO];exact zF.zero _,R⟩
 have D:=uD p
 refine zJ (zA (zC (yY (xq 2 [yB 19 (((k:Int):Int) == 0)] [] ?_))))
 refine xe (zA ?_)
 refine yQ ((((k:Int):Int) == 0)) (fun q=>?_) fun q=>?_
 ·have E:=sZ.1 q
  refine yY (xq 2 [eS1 4 A xs.length c] [] ?_)
  refine yZ (zH (zL ?_))
  refine yR (.slice A xs.length c) fun w' R Q=>?_
  exact⟨_,rfl,by obtain rfl:k=0:=qO;rw[tH,rS];exact Q.1,R⟩
 have E:=lQ q
 refine zJ (zA (yY (xq 4 [yJ 24 (IntKind.i64.wrap (((xs.length:Nat):Int)-((k/64:Nat):Int)))] [] ?_)))
 rw[yW (((xs.length:Nat):Int)-((k/64:Nat):Int)) (((xs.length-(k/64):Nat):Int)) qO]
 refine Zdl (d:=25) (t:=97) (e:=84) (k:=.u64) (kl:=.i64) (kc:=.i64) (l:=.tmp 24) (c:=.tmp 24) (xs.length-(k/64)) 8 qO qD fun f z _=>?_
 refine xr 1 [eS1 0 A xs.length c,eS1 4 none 0 0,yJ 5 (k/64:Nat),yU 6 (k%64:Nat),eS1 7 (yL f) (xs.length-(k/64)) (xs.length-(k/64))] [] ?_
 refine yZ (zC (yY (xq 3 [yJ 27 (xs.length-(k/64):Nat),yJ 28 0] [] ?_)))
 refine yZ (zQ ?_)
 refine xO (fun V W X=>∃ (i:Nat) (u:List Nat),W=ofL [eS1 0 A xs.length c,eS1 4 none 0 0,yJ 5 (k/64:Nat),yU 6 (k%64:Nat),eS1 7 (yL f) (xs.length-(k/64)) (xs.length-(k/64)),yJ 27 (xs.length-(k/64):Nat),yJ 28 i] []∧X=(fun w=>(Box (fun j=>f≤j) w (fun w=>(zF w (.slice A xs.length c) (val W64 xs)∧zI .u64 w A (xs)))∧Own .u64 84 w f (u)))∧(cU (xs.drop (k/64)) (k%64) i u)∧(i≤xs.length-k/64)∧V=(xs.length-k/64-i)) ((xs.length-k/64-0)) ⟨0,(List.replicate (xs.length-(k/64)) 0),rfl,rfl,(by have:=cU.start (xs.drop (k/64)) (k%64);rwa [tB] at this),qO,rfl⟩ (fun w Q=>⟨Q.1,Q.2⟩) ?_
 rintro V W X ⟨i,u,rfl,rfl,I,hi,rfl⟩
 refine yY (xq 1 [(29,.v (.bool (decide ((i:Int)<((xs.length-(k/64):Nat):Int)))))] [] ?_)
 refine yZ (zC ?_)
 refine yQ ((decide ((i:Int)<((xs.length-(k/64):Nat):Int)))) (fun r=>?_) fun r=>?_
 ·have F:=uC r
  have J:u.length=xs.length-k/64:=by rw[I.1,tB]
  refine zJ (zA (zC (zQ (yY (xq 2 [yJ 8 i] [] ?_)))))
  refine yZ (yY (xq 6 [eS1 31 (yL f) (xs.length-(k/64)) (xs.length-(k/64)),yJ 32 i,eS1 33 A xs.length c,yJ 36 (IntKind.i64.wrap ((i:Int)+((k/64:Nat):Int)))] [] ?_))
  rw[yW ((i:Int)+((k/64:Nat):Int)) (((i+(k/64):Nat):Int)) qO]
  refine xqk 37 (atA A (i+(k/64))) (fun w R Q=>wT (t:=97) (e:=84) (x:=.tmp 33) (ix:=.tmp 36) (len:=xs.length) (cap:=c) (i:=i+(k/64)) (((Q.1).self.2).ne (j:=i+(k/64)) qO) qO) ?_
  obtain⟨g,h⟩:=yE (xs[i+(k/64)]?.getD 0)
  refine xqk 38 (yX g) (fun w R Q=>by rw[←h];exact lL (t:=84) (x:=.tmp 37) ((Q.1).self.2) (j:=i+(k/64)) qO) ?_
  refine xq 1 [yU 39 (k%64:Nat)] [] ?_
  refine xqk 40 (yX (g/2^(k%64):Nat)) (fun w R Q=>ZjT (t:=84) (x:=.tmp 38) (y:=.tmp 39) (k:=88) (ky:=.u64) (a:=g) (n:=(k%64)) qO) ?_
  refine xqk 41 (.pointer (some ⟨f,i,none⟩)) (fun w R Q=>kV (t:=97) (e:=84) (x:=.tmp 31) (ix:=.tmp 32) (len:=(xs.length-(k/64))) (cap:=(xs.length-(k/64))) (i:=i) qO) ?_
  refine iS (t:=84) (x:=.tmp 41) (y:=.tmp 40) f (i) (g/2^(k%64)) (fun w=>(Box (fun j=>f≤j) w (fun w=>(zF w (.slice A xs.length c) (val W64 xs)∧zI .u64 w A (xs)))∧Own .u64 84 w f ((u).set (i) (g/2^(k%64))))) (fun w Q=>Q.2) qO (Or.inl z) (fun w w' Q S T=>⟨((Q.1).fr (S.mono (fun _ _ e=>by rw[e];exact uF _))),T⟩) ?_
  refine yZ (yY (xq 3 [yJ 44 (IntKind.i64.wrap ((i:Int)+((k/64:Nat):Int)))] [] ?_))
  rw[yW ((i:Int)+((k/64:Nat):Int)) (((i+(k/64):Nat):Int)) qO]
  refine xq 1 [(45,.v (yI (IntKind.i64.wrap (((i+(k/64):Nat):Int)+1))))] [] ?_
  rw[show IntKind.i64.wrap ((((i+(k/64):Nat):Int)+1))=((i+(k/64)+1:Nat):Int) by rw[IntKind.wrap_i64];omega]
  refine xq 3 [(48,.v (.bool (decide (((i+(k/64)+1:Nat):Int)<((xs.length:Nat):Int)))))] [] ?_
  refine xe (zA ?_)
  refine yQ ((decide (((i+(k/64)+1:Nat):Int)<((xs.length:Nat):Int)))) (fun s=>?_) fun s=>?_
  ·have G:=uC s
   refine iK 16 [0,0,3,7,0,0,0,96,224,496,1008,0,2048,8176,16383,32767] qK qK zM ?_
   refine xqf 2 [eS1 49 (yL f) (xs.length-(k/64)) (xs.length-(k/64)),yJ 50 i] [] ?_
   refine xqj 51 (.pointer (some ⟨f,i,none⟩)) (fun w Q=>kV (t:=97) (e:=84) (x:=.tmp 49) (ix:=.tmp 50) (len:=(xs.length-(k/64))) (cap:=(xs.length-(k/64))) (i:=i) qO) ?_
   obtain⟨K,B⟩:=yE (((u).set (i) (g/2^(k%64)))[i]?.getD 0)
   refine xqj 52 (yX K) (fun w Q=>by rw[←B];exact fO (t:=84) (x:=.tmp 51) (Q.2) (j:=i) (by simp only[tM];omega)) ?_
   obtain rfl:K=g/2^(k%64):=by rw[←B,sJ qO];rfl
   refine xqf 4 [eS1 53 A xs.length c,yJ 56 (IntKind.i64.wrap ((i:Int)+((k/64:Nat):Int)))] [] ?_
   rw[yW ((i:Int)+((k/64:Nat):Int)) (((i+(k/64):Nat):Int)) qO]
   refine xqf 1 [(57,.v (yI (IntKind.i64.wrap (((i+(k/64):Nat):Int)+1))))] [] ?_
   rw[show IntKind.i64.wrap ((((i+(k/64):Nat):Int)+1))=((i+(k/64)+1:Nat):Int) by rw[IntKind.wrap_i64];omega]
   refine xqj 58 (atA A (i+(k/64)+1)) (fun w Q=>wT (t:=97) (e:=84) (x:=.tmp 53) (ix:=.tmp 57) (len:=xs.length) (cap:=c) (i:=i+(k/64)+1) (((Q.1).self.2).ne (j:=i+(k/64)+1) qO) qO) ?_
   obtain⟨m,C⟩:=yE (xs[i+(k/64)+1]?.getD 0)
   refine xqj 59 (yX m) (fun w Q=>by rw[←C];exact lL (t:=84) (x:=.tmp 58) ((Q.1).self.2) (j:=i+(k/64)+1) qO) ?_
   refine xqf 2 [yU 61 (IntKind.u64.wrap (64-((k%64:Nat):Int)))] [] ?_
   rw[show IntKind.u64.wrap ((64-((k%64:Nat):Int)))=((64-(k%64):Nat):Int) by rw[IntKind.wrap_u64];have:=zN;omega]
   refine xqj 62 (yX (m*2^(64-(k%64))%W64:Nat)) (fun w Q=>ZoO (t:=84) (x:=.tmp 59) (y:=.tmp 61) (k:=88) (ky:=.u64) (a:=m) (n:=(64-(k%64))) qO) ?_
   have O:=I.step (k:=i) (x:=g) (y:=m) qO (by rw[tB];omega) (by rw[vR,vW];exact h) (by rw[vR,show k/64+(i+1)=i+k/64+1 by omega];exact C) (by rw[←h];exact H.getD zK _)
   refine xqj 63 (yX (g/2^(k%64)+m%2^(k%64)*2^(64-k%64):Nat)) (fun w Q=>ZrR (t:=84) (x:=.tmp 52) (y:=.tmp 62) (k:=84) (a:=((g/2^(k%64)))) (b:=(m*2^(64-(k%64))%W64)) (vA (vJ _ _) (by rw[←h];exact H.getD zK _)) (uP _ zK) (Zn8 qO (by rw[←h];exact H.getD zK _))) ?_
   refine xqj 64 (.pointer (some ⟨f,i,none⟩)) (fun w Q=>kV (t:=97) (e:=84) (x:=.tmp 49) (ix:=.tmp 50) (len:=(xs.length-(k/64))) (cap:=(xs.length-(k/64))) (i:=i) qO) ?_
   refine xz ?_
   refine iS (t:=84) (x:=.tmp 64) (y:=.tmp 63) f (i) (g/2^(k%64)+m%2^(k%64)*2^(64-k%64)) (fun w=>(Box (fun j=>f≤j) w (fun w=>(zF w (.slice A xs.length c) (val W64 xs)∧zI .u64 w A (xs)))∧Own .u64 84 w f (((u).set (i) (g/2^(k%64))).set (i) (g/2^(k%64)+m%2^(k%64)*2^(64-k%64))))) (fun w Q=>Q.2) (by simp only[tM];omega) (Or.inl z) (fun w w' Q S T=>⟨((Q.1).fr (S.mono (fun _ _ e=>by rw[e];exact uF _))),T⟩) ?_
   refine xe (xR (zA (zB (xq 1 [yJ 65 (IntKind.i64.wrap ((i:Int)+1))] [] ?_))))
   rw[yW ((i:Int)+1) (((i+1:Nat):Int)) qO]
   refine xr 1 [eS1 0 A xs.length c,eS1 4 none 0 0,yJ 5 (k/64:Nat),yU 6 (k%64:Nat),eS1 7 (yL f) (xs.length-(k/64)) (xs.length-(k/64)),yJ 27 (xs.length-(k/64):Nat),yJ 28 (i+1:Nat)] [] ?_
   refine xe ?_
   exact xK ((xs.length-k/64-(i+1))) qO ⟨(i+1),(((u).set (i) (g/2^(k%64))).set (i) (g/2^(k%64)+m%2^(k%64)*2^(64-k%64))),rfl,rfl,(by rw[List.set_set];exact O),qO,rfl⟩ (fun w Q=>⟨Q.1,Q.2⟩)
  have G:=uD s
  have O:=I.step (k:=i) (x:=g) (y:=0) qO (by rw[tB];omega) (by rw[vR,vW];exact h) (by rw[vR,vU qO];rfl) (by rw[←h];exact H.getD zK _)
  rw[Nat.zero_mod,sD,tP] at O
  refine zJ (xR (zA (zB (xq 1 [yJ 65 (IntKind.i64.wrap ((i:Int)+1))] [] ?_))))
  rw[yW ((i:Int)+1) (((i+1:Nat):Int)) qO]
  refine xq 1 [yJ 28 (i+1:Nat)] [] ?_
  refine xe ?_
  exact xK ((xs.length-k/64-(i+1))) qO ⟨(i+1),((u).set (i) (g/2^(k%64))),rfl,rfl,O,qO,rfl⟩ (fun w Q=>⟨Q.1,Q.2⟩)
 have F:=uD r
 have J:u.length=xs.length-k/64:=by rw[I.1,tB]
 obtain rfl:i=xs.length-k/64:=qO
 have HD:=I
 rw[←tB] at HD
 replace HD:=HD.done
 rw[Zht xs (k/64) (k%64) H qO,show 64*(k/64)+k%64=k by omega] at HD
 refine xM (zE (zE (xW (zA (yY (xq 1 [eS1 66 (yL f) (xs.length-(k/64)) (xs.length-(k/64))] [] ?_))))))
 refine xqc 97 [Υ f (xs.length-(k/64))] 67 xI _ (fun w R Q=>yM xG (Za2 Q.2 I.2.1 J HD qO)) fun⟨L,M,N⟩=>?_
 refine xq 1 [eS1 4 L M N] [] ?_
 refine yZ (zH ?_)
 refine yR (.slice L M N) fun w' R Q=>?_
 exact⟨_,rfl,Q.2,R⟩
end Go.Proofs.YtmpffakfhcpjoaaGreatDoor
