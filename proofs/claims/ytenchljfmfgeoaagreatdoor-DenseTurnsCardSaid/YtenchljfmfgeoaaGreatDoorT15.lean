/-
 My texts Gen, Small, Rat2, SxK, Sx8, Sx9, Sx12, Sx13, Sx17, Pw, Kar, Dvb, Dvc, Spl, Spl2, Print, Comb, Sx14, Sx15, Sx16, Sx18, Mo, Sx19, Sx20, Bu, Wl, Ms0, Ms, Bv, Pd, Fna, Nr, Ng, FlM, Fnb, Fnc put together.
-/
import Derived.Test.YtenchljfmfgeoaaGreatDoorT13
import Derived.Test.YtenchljfmfgeoaaGreatDoorT10
import Derived.Test.YtenchljfmfgeoaaGreatDoorT11
import Derived.Outline
import Derived.Test.YtenchljfmfgeoaaGreatDoorT14
import Derived.Test.YtenchljfmfgeoaaGreatDoorT01
import Derived.Deep.LoopGhost
import Derived.Test.YtenchljfmfgeoaaGreatDoorT06
import Derived.Test.YtenchljfmfgeoaaGreatDoorT03
import Derived.Test.YtenchljfmfgeoaaGreatDoorT07
import Derived.Deep.RegionLaw
import Derived.Laws.IdiomStrings
import Derived.Deep.QuietTactic
import Derived.BigQuiet
import Derived.Deep.RegionWith
import Derived.Deep.DeepCutAuto
import Derived.Test.YtenchljfmfgeoaaGreatDoorT08
import Derived.Deep.RegionHeld3
import Derived.Laws.CopyOwn
import Derived.Maps.AppendAt
import Derived.Laws.MakeOwn
import Derived.Lib.Builder
import Derived.Shelf.Strings.Builder1
set_option maxRecDepth 100000
set_option maxHeartbeats 8000000
namespace Go.Proofs.YtenchljfmfgeoaaGreatDoor
open Go.RowKit Tryz
theorem zN:prog.follows .mixedOrders=true:=qK
theorem wG.shp {w:World}{v:Value}{z:Int}(h:wG w v z):∃ (s:Bool) (A:Option Addr) (l c:Nat),v=.agg #[.bool s,.slice A l c]:=by
 obtain⟨s,A,l,c,h,_⟩:=h.open
 exact⟨s,A,l,c,h⟩
theorem iP.shp {w:World}{v:Value}{z:Int}(h:iP w v z):∃ (s:Bool) (A:Option Addr) (l c:Nat),v=.agg #[.bool s,.slice A l c]:=h.shape
theorem wG.nil (w:World):wG w (.agg #[.bool false,.slice none 0 0]) 0:=⟨false,_,0,rfl,wC.zero w,fun _=>rfl,rfl⟩
theorem ZgE {a b c d e f i j:Value}(h:Value.agg #[a,b,c,d]=.agg #[e,f,i,j]):a=e∧b=f∧c=i∧d=j:=by
 injection h with h
 simpa using h
def lM (w:World) (v:Value) (q:Rat):Prop:=∃ (s t:Bool) (A B:Option Addr) (l c l' c':Nat),v=.agg #[.bool s,.slice A l c,.bool t,.slice B l' c']∧wG w (.agg #[.bool s,.slice A l c]) q.num∧wG w (.agg #[.bool t,.slice B l' c']) (denF q)
theorem lM.ext {w w':World}{v:Value}{q:Rat}(h:lM w v q)(b:Ext w w'):lM w' v q:=by
 obtain⟨s,t,A,B,l,c,d,e,f,i,j⟩:=h
 exact⟨s,t,A,B,l,c,d,e,f,i.ext b,j.ext b⟩
theorem lM.shp {w:World}{v:Value}{q:Rat}(h:lM w v q):∃ (s:Bool) (A:Option Addr) (l c:Nat) (t:Bool) (B:Option Addr) (b d:Nat),v=.agg #[.bool s,.slice A l c,.bool t,.slice B b d]:=by
 obtain⟨s,t,A,B,l,c,b,d,h,_⟩:=h
 exact⟨s,A,l,c,t,B,b,d,h⟩
theorem lM.num {w:World}{a b c d:Value}{q:Rat}(h:lM w (.agg #[a,b,c,d]) q):wG w (.agg #[a,b]) q.num:=by
 obtain⟨s,t,A,B,l,c,f,i,h,e,j⟩:=h
 obtain⟨rfl,rfl,rfl,rfl⟩:=ZgE h
 exact e
theorem lM.den {w:World}{a b c d:Value}{q:Rat}(h:lM w (.agg #[a,b,c,d]) q):wG w (.agg #[c,d]) (denF q):=by
 obtain⟨s,t,A,B,l,c,f,i,h,j,e⟩:=h
 obtain⟨rfl,rfl,rfl,rfl⟩:=ZgE h
 exact e
def Zia (w:World) (q:Rat) (e:Ending) (w':World):Prop:=∃ v,e=.returned v∧lM w' v q∧Ext w w'
theorem aF {t0:TypeId}{w wb:World}{c0:Array Value}(h:w.alloc (.cells c0 t0)=wb):Blk t0 wb w.heap.size c0∧Ext w wb:=by
 subst h;exact⟨Blk.new _ _ _,(Fr.refl _ _).alloc _⟩
theorem Znt {t0 t1:TypeId}{w wb:World}{c0 b:Array Value}(h:(w.alloc (.cells c0 t0)).alloc (.cells b t1)=wb):Blk t0 wb w.heap.size c0∧Blk t1 wb (w.heap.size+1) b∧Ext w wb:=by
 obtain⟨f,i⟩:=aF (w:=w) (c0:=c0) (t0:=t0) rfl
 have e:(w.alloc (.cells c0 t0)).heap.size=w.heap.size+1:=qS
 obtain⟨c,d⟩:=aF h
 rw[e] at c
 exact⟨f.ext d,c,i.trans d⟩
section
variable {ops:Array Oper} {S:World→Prop} {o:Oper} {a:Act} {p:Operand} {g off:Nat} {x y z u v:Value}
theorem ym (b:Region.wanted o (yielded ops a.tmps)=true)(c:o.op=Op.move p)(d:a.eval p=v):YieldsIf prog ops S o v a :=
 Or.inl ⟨b,fun w _=>by simp only[execOp,c,d];simp[go_sem]⟩
end
section
variable {S:Nat→Prop} {w w' w0:World} {k:IntKind} {A:Option Addr} {xs:List Nat}
theorem zF.nrb (c:k≠.i64)(h:zF k w A xs)(d:∀ i,S i→NRB w i)(f:Fr S w w'):zF k w' A xs:=by
 cases xs with
 | nil=>exact zF.nil
 | cons x xs =>
  refine h.fr f (fun q b j l=>?_)
  obtain⟨g,m,n,_,a⟩:=h.at (i:=0) qS
  rw[n] at b
  injection b with b
  subst b
  obtain⟨t,r,o,p⟩:=d _ l
  rw[o.cell] at a
  exact c (p _ _ _ a)
theorem zD.nrb {u:Value}{n:Nat}(h:zD w u n)(a:∀ i,S i→NRB w i)(b:Fr S w w'):zD w' u n:=by
 obtain⟨c,xs,d,f,g,j,l⟩:=h
 exact⟨c,xs,d,f,g,j.nrb qD a b,l⟩
theorem iP.nrb {v:Value}{z:Int}(h:iP w v z)(a:∀ i,S i→NRB w i)(b:Fr S w w'):iP w' v z:=by
 obtain⟨c,u,n,d,f,g⟩:=h
 exact⟨c,u,n,d,f.nrb a b,g⟩
theorem wC.nrb {u:Value}{n:Nat}(h:wC w u n)(a:∀ i,S i→NRB w i)(b:Fr S w w'):wC w' u n:=by
 obtain⟨c,xs,d,f,g,j,l⟩:=h
 exact⟨c,xs,d,f,g,j.nrb qD a b,l⟩
theorem wG.nrb {v:Value}{z:Int}(h:wG w v z)(a:∀ i,S i→NRB w i)(b:Fr S w w'):wG w' v z:=by
 obtain⟨c,u,n,d,f,g⟩:=h
 exact⟨c,u,n,d,f.nrb a b,g⟩
theorem lM.nrb {v:Value}{q:Rat}(h:lM w v q)(a:∀ i,S i→NRB w i)(b:Fr S w w'):lM w' v q:=by
 obtain⟨s,t,A,B,l,c,d,f,g,j,m⟩:=h
 exact⟨s,t,A,B,l,c,d,f,g,j.nrb a b,m.nrb a b⟩
theorem NRB.ext {i:Nat}(h:NRB w i)(a:Ext w w'):NRB w' i:=by
 obtain⟨t,b,c,d⟩:=h
 exact⟨t,b,c.ext a,d⟩
theorem boxn {φ:World→Prop}(a:Ext w w')(h:∀ S w'',(∀ i,S i→NRB w' i)→Fr S w' w''→φ w''):BoxN w w' φ:=fun S b w'' c=>h S w'' (fun i hi=>(b i hi).2.ext a) c
end
abbrev ShI:=Bool×Option Addr×Nat × Nat
abbrev ShQ:=Bool×Option Addr×Nat × Nat × Bool×Option Addr×Nat × Nat
abbrev ShN:=Option Addr×Nat × Nat
def Zaq (x:ShI):Value:=.agg #[.bool x.1,.slice x.2.1 x.2.2.1 x.2.2.2]
def Zf2 (x:ShQ):Value:=.agg #[.bool x.1,.slice x.2.1 x.2.2.1 x.2.2.2.1,.bool x.2.2.2.2.1,.slice x.2.2.2.2.2.1 x.2.2.2.2.2.2.1 x.2.2.2.2.2.2.2]
def xC (x:ShN):Value:=.slice x.1 x.2.1 x.2.2
section
variable {w w':World} {e:Ending}
theorem Zdu {z:Int}(h:ZdT w z e w'):lQ Zaq (fun x w=>iP w (Zaq x) z) w e w':=by
 obtain⟨v,rfl,a,Q⟩:=h
 obtain⟨s,A,l,c,rfl⟩:=a.shp
 exact⟨(s,A,l,c),rfl,Q,boxn Q (fun S b d f=>a.nrb d f)⟩
theorem ZlU {z:Int}(h:Zcj w z e w'):lQ Zaq (fun x w=>wG w (Zaq x) z) w e w':=by
 obtain⟨v,rfl,a,Q⟩:=h
 obtain⟨s,A,l,c,rfl⟩:=a.shp
 exact⟨(s,A,l,c),rfl,Q,boxn Q (fun S b d f=>a.nrb d f)⟩
theorem Zfl {q:Rat}(h:Zia w q e w'):lQ Zf2 (fun x w=>lM w (Zf2 x) q) w e w':=by
 obtain⟨v,rfl,a,Q⟩:=h
 obtain⟨s,A,l,c,t,B,m,d,rfl⟩:=a.shp
 exact⟨(s,A,l,c,t,B,m,d),rfl,Q,boxn Q (fun S b f g=>a.nrb f g)⟩
theorem zL {v u:Value}(h:e=.returned v∧Ext w w')(a:v=u):lQ (fun _:Unit=>u) (fun _ _=>True) w e w':=by
 obtain⟨rfl,Q⟩:=h
 subst a
 exact⟨(),rfl,Q,BoxN.pure trivial⟩
end
theorem yN {P:Program}{f:FuncId}{a:Array Value}{w:World}{u v:Value}(h:Calls P f a w (fun e w'=>e=.returned v ∧ Ext w w'))(b:v=u:=by rfl):Calls P f a w (lQ (fun _:Unit=>u) (fun _ _=>True) w):=h.mono (fun _ _ h=>zL h b)
section
variable {N:Nat} {S0:Nat→Prop} {w0:World} {s s':St} {Φ Ψ Φ0:World→Prop} {L:Nat→Nat} {a:Act} {w:World} {P:Program} {ops:Array Oper} {Q:Exit→Act→World→Prop} {o:Oper}
theorem zU.of {sl:SlL}{bl:BlL}(h:(sl.map (fun q=>s.sl q.1),bl.map (fun q=>s.bl q.1))=(sl.map (fun q=>some q.2),bl.map (fun q=>some q.2))):zU s sl bl:=h
def Zm0 (N:Nat) (S0:Nat→Prop) (w0:World) (J:Nat→St→(World→Prop)→Prop) (n:Nat) (a:Act) (w:World):Prop:=∃ n' s' Φ' L',n'<n∧J n' s' Φ'∧Inv N S0 w0 s' Φ' L' a w
theorem xQ {c:Code}(J:Nat→St→(World→Prop)→Prop)(f:Nat)(g:J f s Φ)(b:∀ n s Φ,J n s Φ→SXc P N S0 w0 (Exit.then (Zm0 N S0 w0 J n) Q) c s Φ):SXc P N S0 w0 Q (.loop c) s Φ:=fun L a w hi=>by
 refine wp_loop_ghost (fun n a w=>∃ s Φ L,J n s Φ∧Inv N S0 w0 s Φ L a w) f ⟨s,Φ,L,g,hi⟩ ?_
 rintro n a w ⟨s,Φ,L,h,hi⟩
 refine wp_mono (b n s Φ h L a w hi) ?_
 intro e q w' d
 cases e with
 | normal =>
  obtain⟨i,s',Φ',j,k,m,p⟩:=d
  exact⟨i,k,s',Φ',j,m,p⟩
 | exit id=>exact d
 | goto l=>exact d
 | ret=>exact d
 | panic ch=>exact d
 | outgrown=>exact d
theorem xE {J:Nat→St→(World→Prop)→Prop}{n:Nat}(b:Nat)(c:b<n)(h:J b s Φ):SXq N S0 w0 (Exit.then (Zm0 N S0 w0 J n) Q .normal) s Φ:=fun _ _ _ hi=>⟨b,s,Φ,_,c,h,hi⟩
theorem ZgF {x y:Code}(J:St→(World→Prop)→Prop)(d:SXc P N S0 w0 (Exit.then (fun a w=>∃ s' Φ' L',J s' Φ'∧Inv N S0 w0 s' Φ' L' a w) Q) x s Φ)(f:∀ s Φ,J s Φ→SXc P N S0 w0 Q y s Φ):SXc P N S0 w0 Q (.seq x y) s Φ:=fun L a w hi=>by
 refine wp_seq (wp_mono (d L a w hi) ?_)
 intro e g w' b
 cases e with
 | normal =>
  obtain⟨s',Φ',L',c,h⟩:=b
  exact f s' Φ' c L' g w' h
 | exit id=>exact b
 | goto l=>exact b
 | ret=>exact b
 | panic ch=>exact b
 | outgrown=>exact b
theorem fX {J:St→(World→Prop)→Prop}(h:J s Φ):SXq N S0 w0 (Exit.then (fun a w=>∃ s' Φ' b,J s' Φ'∧Inv N S0 w0 s' Φ' b a w) Q .normal) s Φ:=fun _ _ _ hi=>⟨s,Φ,_,h,hi⟩
theorem aG {n i:Nat}(d:Nat){α:Type}[c:Nonempty α](sh:α→Value)(φ:α→World→Prop)(hi:Nat.blt i n=true)(e:cls (opAt ops i).op=2)(f:s.wantB ops (opAt ops i)=some true)(g:lX (opAt ops i).op=true)(h:(opAt ops i).op.operands.toList.all s.vB=true)(j:(opAt ops i).dst=some d)(k:Nat.blt d N=true)(b:∀ w,Fr S0 w0 w→Φ w→Does P (opAt ops i) s.rho w (DoR sh φ w))(K:∀ x,StI P N S0 w0 ops Φ0 Q n (i+1) (s.put d (.v (sh x))) (fun w=>Φ w∧φ x w)):StI P N S0 w0 ops Φ0 Q n i s Φ:=by
 have l:i<n:=vX hi
 unfold StI
 rw[show n-i=(n-(i+1))+1 by omega,List.range'_succ]
 exact .does c sh φ e f g h j (vX k) b K
end
section
variable {N:Nat} {S0:Nat→Prop} {w0:World} {s:St} {Φ:World→Prop} {P:Program} {ops:Array Oper} {Q:Exit→Act→World→Prop}
theorem yD {i:Nat}{α:Type}{d:Nat}(sh:α→Value)(φ:α→World→Prop)(b:∀ w,Fr S0 w0 w→Φ w→Does P (opAt ops i) s.rho w (DoR sh φ w))(K:∀ x,SXi P N S0 w0 ops Q (i+1) (s.put d (.v (sh x))) (fun w=>Φ w ∧ φ x w))(hi:Nat.blt i ops.size=true:=by kernel_rfl)(c:s.wantB ops (opAt ops i)=some true:=by kernel_rfl)(e:lX (opAt ops i).op=true:=by kernel_rfl)(f:(opAt ops i).op.operands.toList.all s.vB=true:=by kernel_rfl)(g:(opAt ops i).dst=some d:=by kernel_rfl)(h:Nat.blt d N=true:=by kernel_rfl):SXi P N S0 w0 ops Q i s Φ:=lP sh φ hi c e f g h b K
theorem yK {i:Nat}(d:Nat)(y:Value)(b:∀ w,Fr S0 w0 w→Φ w→(execOp s.rho (opAt ops i)).run P w=.ok (.value y) w)(K:SXi P N S0 w0 ops Q (i+1) (s.put d (.v y)) Φ)(hi:Nat.blt i ops.size=true:=by kernel_rfl)(c:lX (opAt ops i).op=true:=by kernel_rfl)(e:s.wantB ops (opAt ops i)=some true:=by kernel_rfl)(f:(opAt ops i).op.operands.toList.all s.vB=true:=by kernel_rfl)(g:(opAt ops i).dst=some d:=by kernel_rfl)(h:Nat.blt d N=true:=by kernel_rfl):SXi P N S0 w0 ops Q i s Φ:=ZcQ d y hi c e f g h b K
theorem yR {fn:Func}{R:Ending→World→Prop}(v:Value)(b:∀ w,Fr S0 w0 w→Φ w→R (.returned v) w)(h:Zf1 P fn s=some v:=by kernel_rfl):SXq N S0 w0 (bodyPost P fn R .ret) s Φ:=zE h b
theorem yQ {c:Operand}{x y:Code}(b:Bool)(d:b=true→SXc P N S0 w0 Q x s Φ)(e:b=false→SXc P N S0 w0 Q y s Φ)(f:s.eval c=some (.v (.bool b)):=by kernel_rfl):SXc P N S0 w0 Q (.cond c x y) s Φ:=zP b f d e
theorem yO {id:Nat}(n:Nat){sl:SlL}{b:BlL}(c:P.follows .mixedOrders=true)(h:StI P N S0 w0 ops Φ Q n 0 (ofL sl b) Φ)(d:ZmX ops (ofL sl b) n=true:=by kernel_rfl)(e:ZcO ops sl=true:=by kernel_rfl):SXc P N S0 w0 Q (.region id ops true) (ofL sl b) Φ:=xK n d e c h
theorem yP {q:Act→World→Prop}(sl:SlL)(b:BlL)(Ψ:World→Prop)(Q:∀ w,Φ w→Ψ w)(h:SXq N S0 w0 q (ofL sl b) Ψ)(c:(sl.map (fun q=>s.sl q.1),b.map (fun q=>s.bl q.1))=(sl.map (fun q=>some q.2),b.map (fun q=>some q.2)):=by kernel_rfl)(d:wfB sl b=true:=by kernel_rfl):SXq N S0 w0 q s Φ:=SXq.weak sl b (zU.of c) d Q h
theorem yC {c:Code}(sl:SlL)(b:BlL)(Ψ:World→Prop)(R:∀ w,Φ w→Ψ w)(h:SXc P N S0 w0 Q c (ofL sl b) Ψ)(d:(sl.map (fun q=>s.sl q.1),b.map (fun q=>s.bl q.1))=(sl.map (fun q=>some q.2),b.map (fun q=>some q.2)):=by kernel_rfl)(e:wfB sl b=true:=by kernel_rfl):SXc P N S0 w0 Q c s Φ:=SXc.weak sl b (zU.of d) e R h
theorem yZ {i:Nat}{y:Code}(K:SXc P N S0 w0 Q y s Φ)(h:Nat.ble ops.size i=true:=by kernel_rfl):SXi P N S0 w0 ops (Exit.then (y.wp P Q) Q) i s Φ:=Zoi h (zA K)
theorem yY {id:Nat}{y:Code}(K:SXi P N S0 w0 ops (Exit.then (y.wp P Q) Q) 0 s Φ):SXc P N S0 w0 Q (.seq (.region id ops false) y) s Φ:=zC (zB K)
theorem yM {f:FuncId}{b:Array Value}{w:World}{R T:Ending→World→Prop}(p:∀ {e w'},R e w'→T e w')(h:Calls P f b w R):Calls P f b w T:=h.mono (fun _ _=>p)
end
theorem Zbu (x:ByteArray):(x.toList == x.toList)=true:=qS
theorem Zec {P:Program}{ρ:Operand→Value}{w:World}{t e:TypeId}{n sz:Nat}{z:Value}{parts:Array (Nat × Operand)}{a:Array Value}(g:P.underlying t=some (.slice e))(b:(P.info? e).map (fun i=>(i.zero,i.size))=some (some z,sz))(j:Nat.ble (n*sz) 1000=true)(hn0:Nat.beq (n*sz) 0=false)(k:Instr.fill (fun i=>some (i*sz,sz)) ((List.range (n*sz)).map (fun i=>z.cells[i%z.cells.size]!)).toArray (parts.toList.map fun q=>(q.1,ρ q.2))=some a) :
 (Instr.buildSlice t n (parts.map fun q:Nat × Operand=>(q.1,ρ q.2))).run P w=.ok (.slice (some ⟨w.heap.size,0,none⟩) n n) (w.alloc (.cells a e)):=by
 obtain⟨i,hi,c⟩:=vH.1 b
 injection c with c h2
 have l:=vX j
 have d:¬ n*sz=0:=fun h=>by rw[h] at hn0;cases hn0
 have f:¬ 2^24<n*sz:=qO
 have m:(Array.range (n*sz)).map (fun i=>z.cells[i%z.cells.size]!)=((List.range (n*sz)).map (fun i=>z.cells[i%z.cells.size]!)).toArray:=by
  apply Array.ext';simp
 have o:(parts.map fun q:Nat × Operand=>(q.1,ρ q.2)).toList=parts.toList.map fun q=>(q.1,ρ q.2):=qS
 unfold Instr.buildSlice
 simp[underlying,g,sizeOf,typeInfo,hi,h2,zeroValue,c,d,f,m,k,newRow,newObj,Result.andThen]
 rfl
theorem lN {P:Program}{o:Oper}{ρ:Operand→Value}{w:World}{t e:TypeId}{n sz:Nat}{z:Value}{parts:Array (Nat × Operand)}{a:Array Value}(g:o.op=Op.buildSlice t n parts)(j:P.underlying t=some (.slice e))(c:(P.info? e).map (fun i=>(i.zero,i.size))=some (some z,sz))(k:Nat.ble (n*sz) 1000=true)(f:Nat.beq (n*sz) 0=false)(l:Instr.fill (fun i=>some (i*sz,sz)) ((List.range (n*sz)).map (fun i=>z.cells[i%z.cells.size]!)).toArray (parts.toList.map fun q=>(q.1,ρ q.2))=some a) :
 Does P o ρ w (DoR (fun b:Nat=>.slice (some ⟨b,0,none⟩) n n) (fun b w=>Blk e w b a) w):=by
 have d:=Zec (w:=w) j c k f l
 exact Or.inl ⟨_,_,by simp[execOp,g,d,Result.andThen],w.heap.size,rfl,(Fr.refl _ w).alloc _,fun S m p r=>(Blk.new w e a).fr r (fun h=>by have:=(m _ h).1;omega)⟩
theorem Zcn {P:Program}{o:Oper}{ρ:Operand→Value}{w:World}{t:TypeId}{x:Operand}{lo hi:Option Operand}{b r:ByteArray}(l h:Nat)(d:o.op=Op.slice t x lo hi none)(e:P.underlying t=some .string)(f:ρ x=.string b)(a:lo.map ρ=none∧l=0∨lo.map ρ=some (.int .i64 l))(c:hi.map ρ=none∧h=b.size∨hi.map ρ=some (.int .i64 h))(g:l≤h)(i:h≤b.size)(j:b.extract l h=r):(execOp ρ o).run P w=.ok (.value (.string r)) w:=by
 subst j
 rcases a with ⟨a,rfl⟩|a<;>rcases c with ⟨c,rfl⟩|c <;>
  simp[execOp,d,Instr.sliceAt,Instr.slice,Instr.sliceBounds,Instr.sliceBound,asIntOf,underlying,e,f,a,c,g,i,Result.andThen]
theorem bU {P:Program}{o:Oper}{ρ:Operand→Value}{w:World}{t k:TypeId}{x y:Operand}{a b r:ByteArray}(c:o.op=Op.binOp .add t x y k)(d:ρ x=.string a)(e:ρ y=.string b)(g:a.size+b.size≤1099511627776)(f:a ++ b=r):(execOp ρ o).run P w=.ok (.value (.string r)) w:=by
 have h:¬ ((a.size+b.size:Nat):Int)>IntKind.i64.max:=by
  have:IntKind.i64.max=9223372036854775807:=qD
  rw[this];omega
 simp only[execOp,c,d,e,eqGuard,binOp,Op.stringOp,uL h,f]
 rfl
open Classical in
theorem Fr.split {A B:Nat→Prop}{w w2:World}(h:Fr (fun i=>A i∨B i) w w2):∃ l,Fr A w l∧Fr B l w2:=by
 have m:∀ i,i<w2.heap.size→(w2.heap.mapIdx fun i o=>if A i∨w.heap.size≤i then o else (w.heap[i]?).getD o)[i]? = if A i∨w.heap.size≤i then w2.heap[i]? else w.heap[i]? := by
  intro i hi
  rw[Array.getElem?_mapIdx,Array.getElem?_eq_getElem hi]
  by_cases b:A i∨w.heap.size≤i
  ·simp[b]
  have d:i<w.heap.size:=by
   rcases vM i w.heap.size with c|c
   ·exact c
   exact absurd (Or.inr c) b
  simp only[b,rO,if_false,Array.getElem?_eq_getElem d,pF]
 refine⟨{ w2 with heap:=w2.heap.mapIdx fun i o=>if A i∨w.heap.size≤i then o else (w.heap[i]?).getD o },⟨h.os,h.tape,h.output,?_,fun i hi g=>?_⟩,⟨rfl,rfl,rfl,?_,fun i hi n=>?_⟩⟩
 ·simpa using h.size
 ·have f:=m i (uQ hi h.size)
  rw[uL (fun b=>b.elim g (fun c=>qO))] at f
  exact f
 ·simp
 have j:i<w2.heap.size:=by simpa using hi
 have f:=m i j
 by_cases b:A i∨w.heap.size≤i
 ·rw[uS b] at f;exact f.symm
 rw[uL b] at f
 have d:i<w.heap.size:=by
  rcases vM i w.heap.size with c|c
  ·exact c
  exact absurd (Or.inr c) b
 exact (h.block i d (fun c=>c.elim (fun g=>b (Or.inl g)) n)).trans f.symm
theorem bl2 (b:Bool):b=true∨b=false:=by cases b<;>simp
theorem Own.same {k:IntKind}{t:TypeId}{w w':World}{b:Nat}{xs:qN}(h:Own k t w b xs)(e:w'.heap[b]? = w.heap[b]?):Own k t w' b xs:=by
 obtain⟨tail,c,d⟩:=h
 exact⟨tail,c,e.trans d⟩
section
variable {N:Nat} {S0:Nat→Prop} {w0:World} {s:St} {Φ Ψ:World→Prop} {L:Nat→Nat} {a:Act} {w:World} {P:Program} {ops:Array Oper} {Q:Exit→Act→World→Prop}
theorem Inv.notOwn (h:Inv N S0 w0 s Φ L a w){r j:Nat}{c:Value}(f:∀ w,Φ w→w.cell? ⟨r,j,none⟩=some c):¬ s.own L r:=fun g=>by
 have i:=f w h.box.self
 have b:∀ u:Value,u≠c→False:=fun u l=>by
  have d:=f (w.setCell ⟨r,j,none⟩ u) (h.box _ ((Fr.refl _ _).setCell (p:=⟨r,j,none⟩) (Or.inl g) u))
  rw[World.cell?_setCell_same _ _ _ i] at d
  injection d with d
  exact l d
 by_cases e:c=.bool true
 ·exact b (.bool false) (by rw[e];intro h;cases h)
 exact b (.bool true) (fun h=>e h.symm)
theorem Inv.eff (h:Inv N S0 w0 s Φ L a w){w':World}{r:Nat}(d:Fr (fun i=>i=r) w w')(g:¬ s.own L r)(c:w0.heap.size≤r∨S0 r)(f:r<w.heap.size)(m:∀ w1 w2,Φ w1→Fr (fun i=>i=r) w1 w2→w2.heap[r]? = w'.heap[r]? → Ψ w2):Inv N S0 w0 s Ψ L a w':=by
 refine⟨h.size,h.df,h.sl,⟨fun b t n e=>(h.mem.blk b t n e).fr d (fun p=>g ⟨b,by rw[e];rfl,p⟩),h.mem.inj,h.mem.old,h.mem.ext.next d (fun i hi e=>?_),h.mem.slp,h.mem.cel⟩,fun w2 j=>?_⟩
 ·rcases c with l|l
  ·omega
  rw[e];exact l
 have q:Fr (fun i=>s.own L i∨i=r) w w2:=(d.mono (fun i _ e=>Or.inr e)).trans (j.mono (fun i _ e=>Or.inl e))
 obtain⟨w1,u,v⟩:=q.split
 exact m w1 w2 (h.box w1 u) v (j.block r (uQ f d.size) g)
theorem Zed {α:Type}(l:List α)(j:Nat)(c:α)(h:j<l.length):wZ l j [c]=l.set j c:=by
 unfold wZ
 rw[List.set_eq_take_append_cons_drop,uS h]
 simp
theorem ZgG {t e:TypeId}{k:IntKind}{b j:Nat}{xs:qN}(m:(teOf P t).map (fun e=>e.size)=some 1)(d:Own k e w b xs)(n:j<xs.length)(v:Nat) :
 ∃ w',(Instr.storeAt t (.pointer (some ⟨b,j,none⟩)) (.int k (v:Int))).run P w=.ok () w'∧Own k e w' b (xs.set j v)∧Fr (fun i=>i=b) w w':=by
 obtain⟨z,f,p⟩:=vH.1 m
 obtain⟨tail,q,d⟩:=d
 obtain⟨w',r,h,u⟩:=cV (P:=P) f (g:=b) (bt:=e) (off:=j) (cur:=(xs.map fun x:Nat=>Value.int k (x:Int)) ++ tail) (v:=.int k (v:Int)) d (by rw[p];rfl) (by simp[Value.cells];omega) (fun c l=>by simp[Value.cells] at l;rw[l];rfl)
 refine⟨w',r,⟨tail,q,?_⟩,u⟩
 have y:wZ ((xs.map fun x:Nat=>Value.int k (x:Int)) ++ tail) j (Value.cells (.int k (v:Int))).toList=((xs.set j v).map fun x:Nat=>Value.int k (x:Int)) ++ tail:=by
  rw[show (Value.cells (.int k (v:Int))).toList=[.int k (v:Int)] from rfl,Zed _ _ _ (by simp;omega),List.set_append_left _ _ (by simpa using n),List.map_set]
 rw[y] at h
 exact h
theorem jD {i:Nat}{t e:TypeId}{k:IntKind}{x y:Operand}{xs:qN}(b j v:Nat)(Ψ:World→Prop)(l:∀ w,Φ w→Own k e w b xs)(m:j<xs.length)(c:w0.heap.size≤b∨S0 b)(n:∀ w w',Φ w→Fr (fun i=>i=b) w w'→Own k e w' b (xs.set j v)→Ψ w')(K:SXi P N S0 w0 ops Q (i+1) s Ψ)(g:Nat.blt i ops.size=true:=by kernel_rfl)(p:s.wantB ops (opAt ops i)=some true:=by kernel_rfl)(q:(opAt ops i).op=.store t x y:=by kernel_rfl)(r:(opAt ops i).dst=none:=by kernel_rfl)(u:(teOf P t).map (fun e=>e.size)=some 1:=by kernel_rfl)(z:s.eval x=some (.v (.pointer (some ⟨b,j,none⟩))):=by kernel_rfl)(A:s.eval y=some (.v (.int k (v:Int))):=by kernel_rfl):SXi P N S0 w0 ops Q i s Φ:=by
 unfold SXi
 rw[jB g]
 intro L a w hi
 refine wpList_step fun O B=>?_
 rw[uS (hi.want p)]
 have d:=l w hi.box.self
 obtain⟨w',C,h,D⟩:=ZgG (P:=P) u d m v
 unfold Oper.wp
 have E:=hi.eval z
 have F:=hi.eval A
 have f:(execOp a.eval (opAt ops i)).run P w=.ok .skip w':=by simp only[execOp,q,Sem.run_bind,E,F,AV.conc,C,Result.andThen_ok,Sem.run_pure]
 rw[f,Oper.upon_skip,r]
 refine B _ _ (K L _ _ (hi.eff D (hi.notOwn (fun w R=>(l w R).cell m)) c d.lt (fun G H I J M=>n G H I J (h.same M))))
theorem Zbv {i d:Nat}{e:TypeId}{k:IntKind}{xs:qN}{α:Type}(f:FuncId)(args:List Value)(sh:α→Value)(p:α→Prop)(zs:α→List Nat)(b:Nat)(Ψ:α→World→Prop)(l:∀ w,Φ w→Own k e w b xs)(n:0<xs.length)(c:w0.heap.size≤b∨S0 b)(q:∀ w,Fr S0 w0 w→Φ w→Calls P f args.toArray w (fun en w'=>∃ x,en=.returned (sh x)∧p x∧Fr (fun i=>i=b) w w'∧Own k e w' b (zs x)))(r:∀ x w w',p x→Φ w→Fr (fun i=>i=b) w w'→Own k e w' b (zs x)→Ψ x w')(K:∀ x,p x→SXi P N S0 w0 ops Q (i+1) (s.put d (.v (sh x))) (Ψ x))(g:Nat.blt i ops.size=true:=by kernel_rfl)(h:jT P N ops (opAt ops i) s=some (f,args,d):=by kernel_rfl):SXi P N S0 w0 ops Q i s Φ:=by
 obtain⟨u,y,z,A,B,C,D⟩:=jY h
 unfold SXi
 rw[jB g]
 intro L a w hi
 refine wpList_step fun T E=>?_
 rw[uS (hi.want u)]
 unfold Oper.wp
 rw[hi.exec A B,dB y C,Oper.upon_enter]
 refine Calls.mono (q w hi.mem.ext hi.box.self) fun en w' F=>?_
 obtain⟨x,rfl,m,G,j⟩:=F
 simp only[z]
 have H:=hi.app0 (d:=d) D (al_v (s:=s) (sh x))
 exact E _ _ (K x m L _ _ (H.eff G (hi.notOwn (fun w R=>(l w R).cell n)) c (l w hi.box.self).lt (fun I J M O S=>r x I J m M O (j.same S))))
theorem Zbw {i d:Nat}{t e:TypeId}{k kl kc:IntKind}{l c:Operand}(n bytes:Nat)(hn:n≤35184372088832)(A:bytes≤8)(K:∀ b,w0.heap.size≤b→(∀ r,(∀ w,Φ w→r<w.heap.size)→r<b)→SXi P N S0 w0 ops Q (i+1) (s.put d (.v (.slice (some ⟨b,0,none⟩) n n))) (fun w=>Box (fun j=>b≤j) w Φ∧Own k e w b (List.replicate n 0)))(B:Nat.blt i ops.size=true:=by kernel_rfl)(G:s.wantB ops (opAt ops i)=some true:=by kernel_rfl)(H:(opAt ops i).op.operands.toList.all s.vB=true:=by kernel_rfl)(F:(opAt ops i).op=Op.makeSlice t l c:=by kernel_rfl)(I:(opAt ops i).dst=some d:=by kernel_rfl)(J:Nat.blt d N=true:=by kernel_rfl)(M:P.underlying t=some (.slice e):=by kernel_rfl)(u:(P.info? e).map (fun i=>(i.zero,i.size,i.bytes))=some (some (.int k 0),1,bytes):=by kernel_rfl)(O:s.rho l=.int kl n:=by kernel_rfl)(S:s.rho c=.int kc n:=by kernel_rfl):SXi P N S0 w0 ops Q i s Φ:=by
 unfold SXi
 rw[jB B]
 intro L a w hi
 refine wpList_step fun K' T=>?_
 rw[uS (hi.want G)]
 unfold Oper.wp
 have C:lX (opAt ops i).op=true:=by rw[F];rfl
 have U:bytes*n≤8*n:=uE n A
 rw[hi.exec C H]
 have p:=run_make_row' (P:=P) t e (.int k 0) bytes M u rfl kl kc n qO qO w
 rw[ZaS] at p
 have y:(execOp s.rho (opAt ops i)).run P w=.ok (.value (.slice (some ⟨w.heap.size,0,none⟩) n n)) (w.alloc (.cells (lG k (List.replicate n 0) []) e)):=by simp[execOp,F,O,S,p,Result.andThen]
 rw[y,Oper.upon_value,I]
 have R:Ext w (w.alloc (.cells (lG k (List.replicate n 0) []) e)):=(Fr.refl _ w).alloc _
 have m:=hi.app0 (d:=d) (vX J) (al_v (s:=s) (.slice (some ⟨w.heap.size,0,none⟩) n n))
 have V:=Own.new w e k (List.replicate n 0) []
 refine T _ _ (K w.heap.size hi.mem.ext.size (fun r h=>h w hi.box.self) L _ _ ⟨m.size,m.df,m.sl,⟨fun b t W e=>(m.mem.blk b t W e).ext R,m.mem.inj,m.mem.old,m.mem.ext.ext R,m.mem.slp,m.mem.cel⟩,fun w2 z=>⟨fun X g=>?_,?_⟩⟩)
 ·refine hi.box X ⟨g.os.trans (z.os.trans R.os),g.tape.trans (z.tape.trans R.tape),g.output.trans (z.output.trans R.output),uC R.size (uC z.size g.size),fun j D E=>?_⟩
  have Y:=R.block j D (fun f=>f)
  have Z:=z.block j (uQ D R.size) E
  have h3:=g.block j (uQ D (uC R.size z.size)) qO
  exact h3.trans (Z.trans Y)
 refine V.fr z fun⟨b,hb,eb⟩=>?_
 obtain⟨q,eq⟩:=sF.1 hb
 have:=(hi.mem.blk b q.1 q.2 eq).lt
 omega
theorem SXi.know {i:Nat}{p:Prop}(h:∀ w,Fr S0 w0 w→Φ w→p)(K:p→SXi P N S0 w0 ops Q i s Φ):SXi P N S0 w0 ops Q i s Φ:=fun L a w hi=>K (h w hi.mem.ext hi.box.self) L a w hi
theorem ZlV {i d:Nat}{e:TypeId}{k:IntKind}(f:FuncId)(args:List Value)(xs:qN)(A:∀ w,Fr S0 w0 w→Φ w→Calls P f args.toArray w (fun en w'=>∃ b c,en=.returned (.slice (some ⟨b,0,none⟩) xs.length c)∧w.heap.size≤b∧xs.length≤c∧Ext w w'∧Own k e w' b xs))(K:∀ b c,w0.heap.size≤b→xs.length≤c→(∀ r,(∀ w,Φ w→r<w.heap.size)→r<b)→SXi P N S0 w0 ops Q (i+1) (s.put d (.v (.slice (some ⟨b,0,none⟩) xs.length c))) (fun w=>Box (fun j=>b≤j) w Φ∧Own k e w b xs))(n:Nat.blt i ops.size=true:=by kernel_rfl)(h:jT P N ops (opAt ops i) s=some (f,args,d):=by kernel_rfl):SXi P N S0 w0 ops Q i s Φ:=by
 obtain⟨B,C,D,E,F,G,H⟩:=jY h
 unfold SXi
 rw[jB n]
 intro L a w hi
 refine wpList_step fun K' I=>?_
 rw[uS (hi.want B)]
 unfold Oper.wp
 rw[hi.exec E F,dB C G,Oper.upon_enter]
 refine Calls.mono (A w hi.mem.ext hi.box.self) fun en w' J=>?_
 obtain⟨b,c,rfl,z,M,R,O⟩:=J
 simp only[D]
 have l:=hi.app0 (d:=d) H (al_v (s:=s) (.slice (some ⟨b,0,none⟩) xs.length c))
 refine I _ _ (K b c (uC hi.mem.ext.size z) M (fun r h=>uQ (h w hi.box.self) z) L _ _ ⟨l.size,l.df,l.sl,⟨fun b t S e=>(l.mem.blk b t S e).ext R,l.mem.inj,l.mem.old,l.mem.ext.ext R,l.mem.slp,l.mem.cel⟩,fun w2 m=>⟨fun T g=>?_,?_⟩⟩)
 ·refine hi.box T ⟨g.os.trans (m.os.trans R.os),g.tape.trans (m.tape.trans R.tape),g.output.trans (m.output.trans R.output),uC R.size (uC m.size g.size),fun j p u=>?_⟩
  have U:=R.block j p (fun f=>f)
  have V:=m.block j (uQ p R.size) u
  have W:=g.block j (uQ p (uC R.size m.size)) qO
  exact W.trans (V.trans U)
 refine O.fr m fun X=>?_
 obtain⟨Y,y,eb⟩:=X
 obtain⟨q,Z⟩:=sF.1 y
 have:=(hi.mem.blk Y q.1 q.2 Z).lt
 omega
theorem Znu {i d:Nat}{dT sT e:TypeId}{k:IntKind}{dx sx:Operand}{sp:qA}{n m dc sc:Nat}{mid ys:qN}(b:Nat)(Ψ:World→Prop)(B:mid.length=n)(C:ys.length=m)(f:0<mid.length)(y:∀ w,Φ w→Own k e w b mid)(D:∀ w,Φ w→zF k w sp ys)(g:w0.heap.size≤b∨S0 b)(E:∀ w w',Φ w→Fr (fun i=>i=b) w w'→Own k e w' b (ys.take mid.length ++ mid.drop ys.length)→Ψ w')(K:SXi P N S0 w0 ops Q (i+1) s Ψ)(l:Nat.blt i ops.size=true:=by kernel_rfl)(F:(opAt ops i).guard=none:=by kernel_rfl)(G:(opAt ops i).op=.call { callee:=.builtin .copy,args:=#[dx,sx],argTypes:=#[dT,sT] }:=by kernel_rfl)(p:(opAt ops i).dst=some d:=by kernel_rfl)(H:(s.sl d).isNone=true:=by kernel_rfl)(I:P.underlying dT=some (.slice e):=by kernel_rfl)(J:(P.info? e).map (·.size)=some 1:=by kernel_rfl)(M:s.eval dx=some (.v (.slice (some ⟨b,0,none⟩) n dc)):=by kernel_rfl)(O:s.eval sx=some (.v (.slice sp m sc)):=by kernel_rfl):SXi P N S0 w0 ops Q i s Φ:=by
 unfold SXi
 rw[jB l]
 intro L a w hi
 have S:=hi.eval M
 have T:=hi.eval O
 have h:=y w hi.box.self
 refine bR F dx sx dT sT G e k I J (some ⟨b,0,none⟩) sp n m dc sc S T b [] mid [] ys B C (by simpa using h) (D w hi.box.self) (fun _=>rfl) ?_
 intro w' z q _ U _
 have r:Own k e w' b (ys.take mid.length ++ mid.drop ys.length):=by simpa using q
 have c:=hi.eff U (hi.notOwn (fun w R=>(y w R).cell f)) g h.lt (fun V W c X Y=>E V W c X (r.same Y))
 have hsl:s.sl d=none:=by simpa using H
 refine K L _ _ ⟨by rw[p];simp[Act.put,c.size],by rw[p];exact c.df,fun j x A=>?_,c.mem,c.box⟩
 have u:d≠j:=fun e=>by rw[e,A] at hsl;cases hsl
 have:=c.sl j x A
 rw[p]
 simp[Act.put,Array.getElem?_setIfInBounds_ne u,this]
theorem xj {b:World→Prop}{n i:Nat}(d:Nat)(y:Value)(c:∀ w,b w→(execOp s.rho (opAt ops i)).run P w=.ok (.value y) w)(K:StI P N S0 w0 ops b Q n (i+1) (s.put d (.v y)) Φ)(hi:Nat.blt i n=true:=by kernel_rfl)(f:Zci (opAt ops i).op=true:=by kernel_rfl)(g:s.wantB ops (opAt ops i)=some true:=by kernel_rfl)(h:(opAt ops i).op.operands.toList.all s.vB=true:=by kernel_rfl)(j:(opAt ops i).dst=some d:=by kernel_rfl)(l:Nat.blt d N=true:=by kernel_rfl):StI P N S0 w0 ops b Q n i s Φ :=
 aD d y hi f g h j l c K
end
def atA (A:Option Addr) (i:Nat):Value:=.pointer (A.map (·.add i))
section
variable {P:Program} {o:Oper} {ρ:Operand→Value} {w:World} {t e:TypeId} {x ix:Operand} {k:IntKind} {xs:List Nat}
theorem xW {A:qA}{len cap i:Nat}(hA:A≠none)(h:i<len)(c:o.op=Op.indexAddr t x ix:=by kernel_rfl)(d:P.underlying t=some (.slice e):=by kernel_rfl)(f:(P.info? e).map (fun i=>i.size)=some 1:=by kernel_rfl)(g:ρ x=.slice A len cap:=by kernel_rfl)(hi:ρ ix=.int .i64 (i:Int):=by kernel_rfl):(execOp ρ o).run P w=.ok (.value (atA A i)) w:=by
 obtain⟨j,b,l⟩:=vH.1 f
 obtain⟨a,rfl⟩:∃ a,A=some a:=by cases A;exact absurd rfl hA;exact⟨_,rfl⟩
 have m:(0:Int)≤(i:Int)∧(i:Int)<(len:Int):=qO
 simp[execOp,c,Instr.indexAt,asIntOf,underlying,d,g,hi,h,sizeOf,typeInfo,b,l,Result.andThen,atA]
theorem kY {g off len cap i:Nat}(h:i<len)(b:o.op=Op.indexAddr t x ix:=by kernel_rfl)(c:P.underlying t=some (.slice e):=by kernel_rfl)(d:(P.info? e).map (fun i=>i.size)=some 1:=by kernel_rfl)(f:ρ x=.slice (some ⟨g,off,none⟩) len cap:=by kernel_rfl)(hi:ρ ix=.int .i64 (i:Int):=by kernel_rfl):(execOp ρ o).run P w=.ok (.value (.pointer (some ⟨g,off+i,none⟩))) w:=by
 rw[xW (A:=some ⟨g,off,none⟩) qS h b c d f hi,atA,rO,iW]
theorem lT {g len cap i:Nat}(h:i<len)(b:o.op=Op.indexAddr t x ix:=by kernel_rfl)(c:P.underlying t=some (.slice e):=by kernel_rfl)(d:(P.info? e).map (fun i=>i.size)=some 1:=by kernel_rfl)(f:ρ x=.slice (some ⟨g,0,none⟩) len cap:=by kernel_rfl)(hi:ρ ix=.int .i64 (i:Int):=by kernel_rfl):(execOp ρ o).run P w=.ok (.value (.pointer (some ⟨g,i,none⟩))) w:=by
 have:=kY (w:=w) h b c d f hi
 rwa [vU] at this
theorem xG {g off:Nat}{c:Value}(b:w.cell? ⟨g,off,none⟩=some c)(d:o.op=Op.load t x:=by kernel_rfl)(f:ρ x=.pointer (some ⟨g,off,none⟩):=by kernel_rfl)(ha:(teOf P t).map (fun e=>e.agg)=some false:=by kernel_rfl) :
 (execOp ρ o).run P w=.ok (.value c) w:=by
 obtain⟨e,h,i⟩:=vH.1 ha
 have:=ZaM (P:=P) (w:=w) h b i
 simp only[execOp,d,f,Sem.run_bind,this,Result.andThen_ok,Sem.run_pure]
theorem iG {b j:Nat}(c:Own k e w b xs)(d:j<xs.length)(f:o.op=Op.load t x:=by kernel_rfl)(g:ρ x=.pointer (some ⟨b,j,none⟩):=by kernel_rfl)(ha:(teOf P t).map (fun e=>e.agg)=some false:=by kernel_rfl) :
 (execOp ρ o).run P w=.ok (.value (.int k ((xs[j]?.getD 0:Nat):Int))) w:=xG (c.cell d) f g ha
theorem wV {A:qA}{j:Nat}(b:zF k w A xs)(c:j<xs.length)(d:o.op=Op.load t x:=by kernel_rfl)(f:ρ x=atA A j:=by kernel_rfl)(ha:(teOf P t).map (fun e=>e.agg)=some false:=by kernel_rfl) :
 (execOp ρ o).run P w=.ok (.value (.int k ((xs[j]?.getD 0:Nat):Int))) w:=by
 obtain⟨g,h,rfl,_,i⟩:=b.at c
 exact xG i d (by rw[f,atA,rO,iW]) ha
theorem Zon {A:qA}{len cap h:Nat}{hi:Operand}(c:h≤cap)(d:o.op=Op.slice t x none (some hi) none:=by kernel_rfl)(f:P.underlying t=some (.slice e):=by kernel_rfl)(g:(P.info? e).map (fun i=>i.size)=some 1:=by kernel_rfl)(j:ρ x=.slice A len cap:=by kernel_rfl)(l:ρ hi=.int .i64 (h:Int):=by kernel_rfl):(execOp ρ o).run P w=.ok (.value (.slice A h cap)) w:=by
 obtain⟨m,b,_⟩:=vH.1 g
 have n:A.map (fun a=>a.add 0)=A:=by cases A with
  | none=>rfl
  | some a=>simp[Addr.add]
 simp[execOp,d,Instr.sliceAt,Instr.slice,Instr.sliceBounds,Instr.sliceBound,asIntOf,underlying,f,j,l,c,sizeOf,typeInfo,b,Result.andThen,n]
theorem Znv {g len cap off l h n m:Nat}{lo hi:Operand}(d:l≤h)(b:h≤cap)(j:l<cap)(p:h-l=n)(q:cap-l=m)(r:o.op=Op.slice t x (some lo) (some hi) none:=by kernel_rfl)(u:P.underlying t=some (.slice e):=by kernel_rfl)(v:(P.info? e).map (fun i=>i.size)=some 1:=by kernel_rfl)(y:ρ x=.slice (some ⟨g,off,none⟩) len cap:=by kernel_rfl)(z:ρ lo=.int .i64 (l:Int):=by kernel_rfl)(A:ρ hi=.int .i64 (h:Int):=by kernel_rfl):(execOp ρ o).run P w=.ok (.value (.slice (some ⟨g,off+l,none⟩) n m)) w:=by
 subst p q
 obtain⟨B,c,C⟩:=vH.1 v
 have f:¬ cap=l:=qO
 simp[execOp,r,Instr.sliceAt,Instr.slice,Instr.sliceBounds,Instr.sliceBound,asIntOf,underlying,u,y,z,A,d,b,sizeOf,typeInfo,c,C,Result.andThen,f,iW]
theorem ZlW {g len cap l h n m:Nat}{lo hi:Operand}(c:l≤h)(b:h≤cap)(d:l<cap)(f:h-l=n)(j:cap-l=m)(p:o.op=Op.slice t x (some lo) (some hi) none:=by kernel_rfl)(q:P.underlying t=some (.slice e):=by kernel_rfl)(r:(P.info? e).map (fun i=>i.size)=some 1:=by kernel_rfl)(u:ρ x=.slice (some ⟨g,0,none⟩) len cap:=by kernel_rfl)(v:ρ lo=.int .i64 (l:Int):=by kernel_rfl)(y:ρ hi=.int .i64 (h:Int):=by kernel_rfl):(execOp ρ o).run P w=.ok (.value (.slice (some ⟨g,l,none⟩) n m)) w:=by
 have:=Znv (w:=w) c b d f j p q r u v y
 rwa [vU] at this
theorem zF.ne {A:qA}(b:zF k w A xs){j:Nat}(c:j<xs.length):A≠none:=by
 obtain⟨g,d,rfl,_⟩:=b.at c
 intro h;cases h
end
def cY (ops:Array Oper) (i k:Nat):List Nat:=((ops.toList.drop i).take k).filterMap (fun o=>o.dst)
def cZ (l:List Nat) (sl:SlL):SlL:=sl.filter (fun q => !(l.any (Nat.beq q.1)))
def Zf3 (nb:BlL) (bl:BlL):BlL:=bl.filter (fun q => !(nb.any (fun p=>Nat.beq p.1 q.1)))
section
variable {N:Nat} {S0:Nat→Prop} {w0:World} {sl:SlL} {bl:BlL} {Φ Φ0:World→Prop} {P:Program} {ops:Array Oper} {Q:Exit→Act→World→Prop}
theorem xq {i:Nat}(k:Nat)(b:SlL)(a:BlL)(K:SXi P N S0 w0 ops Q (i+k) (ofL (b ++ cZ (cY ops i k) sl) (a ++ Zf3 a bl)) Φ)(h:Zd0 P N ops i k (ofL sl bl) (b ++ cZ (cY ops i k) sl) (a ++ Zf3 a bl)=some ((b ++ cZ (cY ops i k) sl).map (fun q=>some q.2),(a ++ Zf3 a bl).map (fun q=>some q.2)):=by kernel_rfl)(c:wfB (b ++ cZ (cY ops i k) sl) (a ++ Zf3 a bl)=true:=by kernel_rfl):SXi P N S0 w0 ops Q i (ofL sl bl) Φ:=Zkl k _ _ h c K
theorem xqf {n i:Nat}(k:Nat)(b:SlL)(a:BlL)(K:StI P N S0 w0 ops Φ0 Q n (i+k) (ofL (b ++ cZ (cY ops i k) sl) a) Φ)(h:Za4 P N ops k i (ofL sl bl) (b ++ cZ (cY ops i k) sl)=some ((b ++ cZ (cY ops i k) sl).map (fun q=>some q.2),gZ a):=by kernel_rfl)(c:Nat.ble (i+k) n=true:=by kernel_rfl):StI P N S0 w0 ops Φ0 Q n i (ofL sl bl) Φ:=Zgw k _ _ h c K
theorem xqg {n i:Nat}(k:Nat)(a:SlL)(K:StI P N S0 w0 ops Φ0 Q n (i+k) (ofL (a ++ cZ (cY ops i k) sl) bl) Φ)(h:Za4 P N ops k i (ofL sl bl) (a ++ cZ (cY ops i k) sl)=some ((a ++ cZ (cY ops i k) sl).map (fun q=>some q.2),gZ bl):=by kernel_rfl)(b:Nat.ble (i+k) n=true:=by kernel_rfl):StI P N S0 w0 ops Φ0 Q n i (ofL sl bl) Φ:=Zgw k _ _ h b K
theorem xqc {i:Nat}(f:FuncId)(args:List Value)(d:Nat){α:Type}(sh:α→Value)(φ:α→World→Prop)(b:∀ w,Fr S0 w0 w→Φ w→Calls P f args.toArray w (lQ sh φ w))(K:∀ x,SXi P N S0 w0 ops Q (i+1) (ofL ((d,.v (sh x)) :: sl) bl) (fun w=>Φ w∧φ x w))(a:Nat.blt i ops.size=true:=by kernel_rfl)(h:jT P N ops (opAt ops i) (ofL sl bl)=some (f,args,d):=by kernel_rfl):SXi P N S0 w0 ops Q i (ofL sl bl) Φ:=Zh2 f args d sh φ a h b K
theorem xqd {n i:Nat}(f:FuncId)(args:List Value)(d:Nat){α:Type}[c:Nonempty α](sh:α→Value)(φ:α→World→Prop)(a:∀ w,Fr S0 w0 w→Φ w→Calls P f args.toArray w (lQ sh φ w))(K:∀ x,StI P N S0 w0 ops Φ0 Q n (i+1) (ofL ((d,.v (sh x)) :: sl) bl) (fun w=>Φ w∧φ x w))(hi:Nat.blt i n=true:=by kernel_rfl)(b:cls (opAt ops i).op=2:=by kernel_rfl)(h:jT P N ops (opAt ops i) (ofL sl bl)=some (f,args,d):=by kernel_rfl):StI P N S0 w0 ops Φ0 Q n i (ofL sl bl) Φ:=Zh3 f args d sh φ hi b h a K
theorem xqk {i:Nat}(d:Nat)(y:Value)(a:∀ w,Fr S0 w0 w→Φ w→(execOp (ofL sl bl).rho (opAt ops i)).run P w=.ok (.value y) w)(K:SXi P N S0 w0 ops Q (i+1) (ofL ((d,.v y) :: sl) bl) Φ)(hi:Nat.blt i ops.size=true:=by kernel_rfl)(b:lX (opAt ops i).op=true:=by kernel_rfl)(c:(ofL sl bl).wantB ops (opAt ops i)=some true:=by kernel_rfl)(e:(opAt ops i).op.operands.toList.all (ofL sl bl).vB=true:=by kernel_rfl)(f:(opAt ops i).dst=some d:=by kernel_rfl)(g:Nat.blt d N=true:=by kernel_rfl):SXi P N S0 w0 ops Q i (ofL sl bl) Φ :=
 ZcQ d y hi b c e f g a K
theorem xqj {n i:Nat}(d:Nat)(y:Value)(a:∀ w,Φ0 w→(execOp (ofL sl bl).rho (opAt ops i)).run P w=.ok (.value y) w)(K:StI P N S0 w0 ops Φ0 Q n (i+1) (ofL ((d,.v y) :: sl) bl) Φ)(hi:Nat.blt i n=true:=by kernel_rfl)(b:Zci (opAt ops i).op=true:=by kernel_rfl)(c:(ofL sl bl).wantB ops (opAt ops i)=some true:=by kernel_rfl)(e:(opAt ops i).op.operands.toList.all (ofL sl bl).vB=true:=by kernel_rfl)(f:(opAt ops i).dst=some d:=by kernel_rfl)(g:Nat.blt d N=true:=by kernel_rfl):StI P N S0 w0 ops Φ0 Q n i (ofL sl bl) Φ :=
 aD d y hi b c e f g a K
end
section
variable {P:Program} {N:Nat} {S0:Nat→Prop} {w0:World} {ops:Array Oper} {Q:Exit→Act→World→Prop} {s:St} {Φ:World→Prop}
end
section
variable {P:Program} {o:Oper} {ρ:Operand→Value} {w:World} {t e:TypeId} {x:Operand}
end
/-! ### adding a number to a row from a place on -/
theorem zV {w w':World}{e:Ending}{n:Nat}(h:wM w n e w'):lQ xC (fun x w=>zD w (xC x) n) w e w':=by
 obtain⟨v,rfl,a,Q⟩:=h
 obtain⟨A,l,c,rfl⟩:=a.slice
 exact⟨(A,l,c),rfl,Q,boxn Q (fun S b d f=>a.nrb d f)⟩
instance {b:Nat} {A A2:Option Addr}:Nonempty {q:ShN // ∀ a,q.1=some a→b<a.block∨q.1=A∨q.1=A2}:=⟨⟨(none,0,0),fun a h=>by cases h⟩⟩
section
variable {P:Program} {o:Oper} {ρ:Operand→Value} {w:World}
end
section
variable {P:Program} {N:Nat} {S0:Nat→Prop} {w0:World} {ops:Array Oper} {Q:Exit→Act→World→Prop} {s:St} {Φ:World→Prop}
end
section
open Go.RowKit Go.Sort
theorem TBuf.bytes {w:World}{A:qA}{cap:Nat}{l:List UInt8}(h:TBuf w A cap l)(c:l≠[]):∃ b,A=some ⟨b,0,none⟩∧∀ j (a:j<l.length),w.cell? ((⟨b,0,none⟩:Addr).add j)=some (.int .u8 (l[j].toNat:Int)):=by
 rcases h with ⟨_,h,_⟩|⟨b,rfl,d,_⟩
 ·simp[nats] at h;exact absurd h c
 refine⟨b,rfl,fun j a=>?_⟩
 have:=d.cell (i:=j) (by rw[ZaJ];exact a)
 rw[Lib.add_plain,vU,this]
 simp[nats,a]
end
def lU (w:World) (A:Option Addr) (zs:List Int):Prop :=
 zs≠[]→∃ b off,A=some ⟨b,off,none⟩∧b<w.heap.size∧∀ i,i<zs.length→w.cell? ⟨b,off+i,none⟩=some (.int .i64 (zs.getD i 0))
theorem lU.ext {w w':World}{A:qA}{zs:List Int}(h:lU w A zs)(d:Ext w w'):lU w' A zs:=fun c=>by
 obtain⟨b,a,rfl,e,g⟩:=h c
 exact⟨b,a,rfl,uQ e d.size,fun i hi=>(d.cell (p:=⟨b,a+i,none⟩) e (fun f=>f)).trans (g i hi)⟩
def Zoo (zs:List Int):Prop:=∀ z∈zs,-9223372036854775808≤z∧z≤9223372036854775807
section
variable {N:Nat} {S0:Nat→Prop} {w0:World} {s:St} {Φ Ψ:World→Prop} {L:Nat→Nat} {a:Act} {w:World} {P:Program} {ops:Array Oper} {Q:Exit→Act→World→Prop}
theorem aX {i d b:Nat}{t:TypeId}{cs:Array Value}{α:Type}(f:FuncId)(args:List Value)(sh:α→Value)(e:α→Array Value)(φ:α→World→Prop)(Ψ:World→Prop)(o:∀ w,Φ w→Blk t w b cs)(p:0<cs.size)(g:w0.heap.size≤b∨S0 b)(q:∀ w,Fr S0 w0 w→Φ w→Calls P f args.toArray w (fun en w'=>∃ x,en=.returned (sh x)∧Fr (fun i=>i=b) w w'∧Blk t w' b (e x)∧BoxN w w' (φ x)))(r:∀ w w',Φ w→Fr (fun i=>i=b) w w'→Ψ w')(K:∀ x,SXi P N S0 w0 ops Q (i+1) (s.put d (.v (sh x))) (fun w=>(Ψ w∧Blk t w b (e x))∧φ x w))(l:Nat.blt i ops.size=true:=by kernel_rfl)(h:jT P N ops (opAt ops i) s=some (f,args,d):=by kernel_rfl):SXi P N S0 w0 ops Q i s Φ:=by
 obtain⟨u,y,z,A,B,C,D⟩:=jY h
 unfold SXi
 rw[jB l]
 intro L a w hi
 refine wpList_step fun T E=>?_
 rw[uS (hi.want u)]
 unfold Oper.wp
 rw[hi.exec A B,dB y C,Oper.upon_enter]
 refine Calls.mono (q w hi.mem.ext hi.box.self) fun en w' F=>?_
 obtain⟨x,rfl,G,m,n⟩:=F
 simp only[z]
 have H:=hi.app0 (d:=d) D (al_v (s:=s) (sh x))
 have k:=H.eff (Ψ:=fun w=>Ψ w∧Blk t w b (e x)) G (hi.notOwn (c:=cs[0]'p) (j:=0) (fun w R=>by have:=(o w R).cell 0;rw[this];simp[p])) g (o w hi.box.self).lt (fun I J M O S=>⟨r I J M O,S.trans m⟩)
 exact E _ _ (K x L _ _ ⟨k.size,k.df,k.sl,k.mem,k.box.and (n _ (fun i h=>hi.own_nrb h))⟩)
end
def frz (b g:Nat):AV→AV
 | .v x=>.v x
 | .p b' off=>bif Nat.beq b' b then .v (.pointer (some ⟨g,off,none⟩)) else .p b' off
theorem ZgH (L:Nat→Nat)(b:Nat)(x:AV):(frz b (L b) x).conc L=x.conc L:=by
 cases x with
 | v x=>rfl
 | p b' off =>
  show (bif Nat.beq b' b then AV.v (.pointer (some ⟨L b,off,none⟩)) else .p b' off).conc L=_
  cases h:Nat.beq b' b with
  | true =>
   have e:=pX h
   subst e
   rfl
  | false=>rfl
section
variable {N:Nat} {S0:Nat→Prop} {w0:World} {s:St} {Φ:World→Prop} {P:Program} {Q:Exit→Act→World→Prop}
theorem SXc.freeze {c:Code}(b:Nat)(t:TypeId)(cs:List Value)(k:Nat→SlL)(j:BlL)(z:s.bl b=some (t,cs.map .v))(E:∀ g,(k g).map (fun q=>(s.sl q.1).map (frz b g))=(k g).map (fun q=>some q.2))(F:j.map (fun q=>s.bl q.1)=j.map (fun q=>some q.2))(G:j.all (fun q => !(Nat.beq q.1 b))=true)(H:∀ g,wfB (k g) j=true)(h:∀ g,SXc P N S0 w0 Q c (ofL (k g) j) (fun w=>Φ w∧Blk t w g cs.toArray)):SXc P N S0 w0 Q c s Φ:=by
 intro L a w hi
 refine h (L b) L a w ?_
 have m:=H (L b)
 unfold wfB at m
 rw[tK] at m
 have r:∀ i x,(ofL (k (L b)) j).bl i=some x→s.bl i=some x:=fun i x o=>jJ (f:=fun q:Nat × TypeId×List AV=>s.bl q.1) (g:=fun q=>some q.2) F (lF o)
 have A:∀ i x,(ofL (k (L b)) j).bl i=some x→i≠b:=fun i x o e=>by
  have:=uY.1 G _ (lF o)
  simp[e] at this
 have l:∀ i,((ofL (k (L b)) j).bl i).isSome=true→(s.bl i).isSome=true∧i≠b:=fun i u=>by
  obtain⟨q,e⟩:=sF.1 u
  exact⟨by rw[r i q e];rfl,A i q e⟩
 have n:(s.bl b).isSome=true:=by rw[z];rfl
 have I:=hi.mem.blk b t _ z
 refine⟨hi.size,hi.df,fun i x o=>?_,⟨fun c t cs e=>hi.mem.blk c t cs (r c _ e),fun c d p J=>hi.mem.inj c d (l c p).1 (l d J).1,fun c p=>hi.mem.old c (l c p).1,hi.mem.ext,fun i c B e=>?_,fun c t cs e x o=>⟨(hi.mem.cel c t cs (r c _ e) x o).1,fun d B K=>?_⟩⟩,fun w' C=>⟨hi.box w' (C.mono (fun i _ u=>?_)),?_⟩⟩
 ·have D:=jJ (f:=fun q:Nat × AV=>(s.sl q.1).map (frz b (L b))) (g:=fun q=>some q.2) (E (L b)) (lF o)
  simp only at D
  obtain⟨y,M,e⟩:=vH.1 D
  have:=hi.sl i y M
  rw[this,← e,ZgH]
 ·exact uY.1 m.1 _ (lF e)
 ·have:=uY.1 (uY.1 m.2 _ (lF e)) x o
  rw[K] at this
  exact this
 ·obtain⟨c,p,e⟩:=u
  exact⟨c,(l c p).1,e⟩
 have:Blk t w (L b) cs.toArray:=by simpa [qL,Function.comp_def,AV.conc] using I
 refine this.fr C fun⟨c,p,e⟩=>?_
 exact (l c p).2 (hi.mem.inj c b (l c p).1 n e)
end
section
variable {N:Nat} {S0:Nat→Prop} {w0:World} {s:St} {Φ Ψ:World→Prop} {L:Nat→Nat} {a:Act} {w:World} {P:Program} {ops:Array Oper} {Q:Exit→Act→World→Prop}
theorem Znw {i:Nat}{t bt:TypeId}{x y:Operand}{cs:List Value}(b off:Nat)(v:Value)(Ψ:World→Prop)(p:∀ w,Φ w→Blk bt w b cs.toArray)(l:off<cs.length)(d:w0.heap.size≤b∨S0 b)(r:v.oneCell'=true)(k:v.cells.toList=[v])(u:∀ w w',Φ w→Fr (fun i=>i=b) w w'→Ψ w')(K:SXi P N S0 w0 ops Q (i+1) s (fun w=>Ψ w∧Blk bt w b (cs.set off v).toArray))(m:Nat.blt i ops.size=true:=by kernel_rfl)(z:s.wantB ops (opAt ops i)=some true:=by kernel_rfl)(A:(opAt ops i).op=.store t x y:=by kernel_rfl)(B:(opAt ops i).dst=none:=by kernel_rfl)(C:(teOf P t).map (fun e=>e.size)=some 1:=by kernel_rfl)(D:s.eval x=some (.v (.pointer (some ⟨b,off,none⟩))):=by kernel_rfl)(E:s.eval y=some (.v v):=by kernel_rfl):SXi P N S0 w0 ops Q i s Φ:=by
 unfold SXi
 rw[jB m]
 intro L a w hi
 refine wpList_step fun W F=>?_
 rw[uS (hi.want z)]
 obtain⟨X,n,G⟩:=vH.1 C
 have q:=p w hi.box.self
 obtain⟨w',H,f,I⟩:=cV (P:=P) n (g:=b) (bt:=bt) (off:=off) (cur:=cs) (v:=v) q (by rw[k];exact G.symm) (by rw[k];simp;omega) (fun c o=>by rw[k] at o;simp at o;rw[o];exact r)
 rw[k,Zed _ _ _ l] at f
 unfold Oper.wp
 have J:=hi.eval D
 have M:=hi.eval E
 have h:(execOp a.eval (opAt ops i)).run P w=.ok .skip w':=by simp only[execOp,A,Sem.run_bind,J,M,AV.conc,H,Result.andThen_ok,Sem.run_pure]
 rw[h,Oper.upon_skip,B]
 refine F _ _ (K L _ _ (hi.eff I (hi.notOwn (c:=cs[off]'l) (j:=off) (fun w R=>by have:=(p w R).cell off;rw[this];simp[l])) d q.lt (fun O S T U V=>⟨u O S T U,V.trans f⟩)))
end
section
variable {N:Nat} {S0:Nat→Prop} {w0:World} {s:St} {Φ Ψ:World→Prop} {L:Nat→Nat} {a:Act} {w:World} {P:Program} {ops:Array Oper} {Q:Exit→Act→World→Prop}
theorem Zop {c:Code}{sl:SlL}{tmps:Array Value}(m:tmps.size=N)(k:sl.map (fun q=>tmps[q.1]?.map AV.v)=sl.map (fun q=>some q.2))(R:Box (fun _=>False) w Φ)(h:SXc P N S0 w Q c (ofL sl []) Φ):c.wp P Q { tmps:=tmps,defers:=[] } w:=by
 refine h (fun _=>0) _ w ⟨m,rfl,fun i x n=>?_,⟨fun b t o e=>(by cases e),fun b c e=>(by cases e),fun b e=>(by cases e),Fr.refl _ _,fun i b off e=>?_,fun b t o e=>(by cases e)⟩,?_⟩
 ·have d:=jJ (f:=fun q:Nat × AV=>tmps[q.1]?.map AV.v) (g:=fun q=>some q.2) k (lF n)
  obtain⟨v,l,rfl⟩:=vH.1 d
  exact l
 ·have d:=jJ (f:=fun q:Nat × AV=>tmps[q.1]?.map AV.v) (g:=fun q=>some q.2) k (lF e)
  obtain⟨v,l,e'⟩:=vH.1 d
  cases e'
 intro w' j
 exact R w' (j.mono (fun i _ p=>by obtain⟨b,e,_⟩:=p;cases e))
end
section
variable {N:Nat} {S0:Nat→Prop} {w0:World} {s:St} {Φ Ψ:World→Prop} {L:Nat→Nat} {a:Act} {w:World} {P:Program} {ops:Array Oper} {Q:Exit→Act→World→Prop}
theorem SXc.freezeN {c:Code}(b:Nat)(t:TypeId)(cs:List Value)(k:Nat→SlL)(j:BlL)(r:s.bl b=some (t,cs.map .v))(E:∀ g,(k g).map (fun q=>(s.sl q.1).map (frz b g))=(k g).map (fun q=>some q.2))(F:j.map (fun q=>s.bl q.1)=j.map (fun q=>some q.2))(G:j.all (fun q => !(Nat.beq q.1 b))=true)(H:∀ g,wfB (k g) j=true)(h:∀ g,(w0.heap.size≤g∨S0 g)→SXc P N S0 w0 Q c (ofL (k g) j) (fun w=>Φ w∧Blk t w g cs.toArray)):SXc P N S0 w0 Q c s Φ:=by
 intro L a w hi
 refine h (L b) (hi.mem.old b (by rw[r];rfl)) L a w ?_
 have m:=H (L b)
 unfold wfB at m
 rw[tK] at m
 have u:∀ i x,(ofL (k (L b)) j).bl i=some x→s.bl i=some x:=fun i x o=>jJ (f:=fun q:Nat × TypeId×List AV=>s.bl q.1) (g:=fun q=>some q.2) F (lF o)
 have A:∀ i x,(ofL (k (L b)) j).bl i=some x→i≠b:=fun i x o e=>by
  have:=uY.1 G _ (lF o)
  simp[e] at this
 have l:∀ i,((ofL (k (L b)) j).bl i).isSome=true→(s.bl i).isSome=true∧i≠b:=fun i z=>by
  obtain⟨q,e⟩:=sF.1 z
  exact⟨by rw[u i q e];rfl,A i q e⟩
 have n:(s.bl b).isSome=true:=by rw[r];rfl
 have I:=hi.mem.blk b t _ r
 refine⟨hi.size,hi.df,fun i x o=>?_,⟨fun c t cs e=>hi.mem.blk c t cs (u c _ e),fun c d p J=>hi.mem.inj c d (l c p).1 (l d J).1,fun c p=>hi.mem.old c (l c p).1,hi.mem.ext,fun i c B e=>?_,fun c t cs e x o=>⟨(hi.mem.cel c t cs (u c _ e) x o).1,fun d B K=>?_⟩⟩,fun w' C=>⟨hi.box w' (C.mono (fun i _ z=>?_)),?_⟩⟩
 ·have D:=jJ (f:=fun q:Nat × AV=>(s.sl q.1).map (frz b (L b))) (g:=fun q=>some q.2) (E (L b)) (lF o)
  simp only at D
  obtain⟨y,M,e⟩:=vH.1 D
  have:=hi.sl i y M
  rw[this,← e,ZgH]
 ·exact uY.1 m.1 _ (lF e)
 ·have:=uY.1 (uY.1 m.2 _ (lF e)) x o
  rw[K] at this
  exact this
 ·obtain⟨c,p,e⟩:=z
  exact⟨c,(l c p).1,e⟩
 have:Blk t w (L b) cs.toArray:=by simpa [qL,Function.comp_def,AV.conc] using I
 refine this.fr C fun⟨c,p,e⟩=>?_
 exact (l c p).2 (hi.mem.inj c b (l c p).1 n e)
end
section
variable {N:Nat} {S0:Nat→Prop} {w0:World} {s:St} {Φ Ψ:World→Prop} {L:Nat→Nat} {a:Act} {w:World} {P:Program} {ops:Array Oper} {Q:Exit→Act→World→Prop}
end
section
variable {P:Program} {ops:Array Oper} {Q:Exit→Act→World→Prop} {a:Act} {w:World} {l:List Oper} {o:Oper}
end
section
variable {N:Nat} {S0:Nat→Prop} {w0:World} {s:St} {Φ Φ0:World→Prop} {L:Nat→Nat} {a:Act} {w:World} {P:Program} {ops:Array Oper} {Q:Exit→Act→World→Prop} {fin:St→(World→Prop)→Prop}
end
structure TermR where
 coef:ByteArray
 A:Option Addr
 cap:Nat
 exps:List Int
instance:Inhabited TermR:=⟨⟨⟨#[]⟩,none,0,[]⟩⟩
section
variable {P:Program} {o:Oper} {ρ:Operand→Value} {w:World} {t e:TypeId} {x ix:Operand}
theorem lV {A:qA}{len cap i sz:Nat}(hA:A≠none)(h:i<len)(c:o.op=Op.indexAddr t x ix:=by kernel_rfl)(d:P.underlying t=some (.slice e):=by kernel_rfl)(f:(P.info? e).map (fun i=>i.size)=some sz:=by kernel_rfl)(g:ρ x=.slice A len cap:=by kernel_rfl)(hi:ρ ix=.int .i64 (i:Int):=by kernel_rfl):(execOp ρ o).run P w=.ok (.value (atA A (i*sz))) w:=by
 obtain⟨j,b,k⟩:=vH.1 f
 obtain⟨a,rfl⟩:∃ a,A=some a:=by cases A;exact absurd rfl hA;exact⟨_,rfl⟩
 have l:(0:Int)≤(i:Int)∧(i:Int)<(len:Int):=qO
 simp[execOp,c,Instr.indexAt,asIntOf,underlying,d,g,hi,h,sizeOf,typeInfo,b,k,Result.andThen,atA]
theorem Za6 {bt:TypeId}{g:Nat}{cs:List Value}(b:Blk bt w g cs.toArray)(c:o.op=Op.load t x:=by kernel_rfl)(d:ρ x=.pointer (some ⟨g,0,none⟩):=by kernel_rfl)(ha:(teOf P t).map (fun e=>(e.agg,e.size))=some (true,cs.length):=by kernel_rfl) :
 (execOp ρ o).run P w=.ok (.value (.agg cs.toArray)) w:=by
 obtain⟨f,a,h⟩:=vH.1 ha
 injection h with ha hn
 have:=bS (P:=P) (w:=w) a (g:=g) (off:=0) (cs:=cs) hn.symm (fun i hi=>by rw[vU,b.cell];simp[hi]) ha
 simp only[execOp,c,d,Sem.run_bind,this,Result.andThen_ok,Sem.run_pure]
end
theorem gG {P:Program}{o:Oper}{ρ:Operand→Value}{w:World}{y:Value}{f:FuncId}{args:List Operand}{ts:Array TypeId}{a:List Value}(h:(callFunc f a.toArray).run P w=.ok (.value y) w)(b:o.op=.call { callee:=.value (.func f),args:=args.toArray,argTypes:=ts }:=by kernel_rfl)(c:args.map ρ=a:=by kernel_rfl)(d:ρ (.func f)=.func (.func f) #[] #[]:=by kernel_rfl):(execOp ρ o).run P w=.ok (.value y) w:=by
 subst c
 have e:(#[] ++ args.toArray.map ρ ++ #[]:Array Value)=(args.map ρ).toArray:=qS
 simp only[execOp,b,resolve,d,Deferred.ofValue,Sem.run_bind,Sem.run_pure,Result.andThen_ok,invoke,e,h]
theorem tdq (a c:Nat)(h:a<9223372036854775808):IntKind.i64.wrap (((a:Nat):Int).tdiv (c:Int))=((a/c:Nat):Int):=by
 rw[←Int.ofNat_tdiv,IntKind.wrap_i64]
 have:=vN a c
 generalize a/c=q at *
 omega
theorem tdr (a c:Nat):(((a:Nat):Int).tmod (c:Int))=((a%c:Nat):Int):=(Int.ofNat_tmod a c).symm
theorem wF {a b:Int}(h:((a:Int) == b)=false):a≠b:=by simpa using h
theorem Zco {a b:Int}(h:((a:Int) != b)=true):a≠b:=by simpa using h
theorem Zcp {a b:Int}(h:((a:Int) != b)=false):a=b:=by simpa using h
section
variable {P:Program} {o:Oper} {ρ:Operand→Value} {w:World} {x y:Operand} {t k:TypeId}
theorem ZgJ {a n:Nat}(h:n≤64)(b:o.op=Op.binOp .shr t x y k:=by kernel_rfl)(c:ρ x=.int .u64 (a:Int):=by kernel_rfl){ky:IntKind}(d:ρ y=.int ky (n:Int):=by kernel_rfl):(execOp ρ o).run P w=.ok (.value (.int .u64 ((a/2^n:Nat):Int))) w:=by
 have e:¬ ((n:Int)<0):=qO
 have f:min ((n:Int)).toNat IntKind.u64.bits=n:=by show min ((n:Int)).toNat 64=n;omega
 have g:((a:Int)).fdiv (2^n)=((a/2^n:Nat):Int):=by
  rw[Int.fdiv_eq_ediv_of_nonneg _ (by rw[show ((2:Int)^n)=((2^n:Nat):Int) by rw[tA];rfl];exact Int.natCast_nonneg _)]
  exact ZaV a n
 simp only[execOp,b,c,d,eqGuard,binOp,Op.shift,uL e,f,g]
 rfl
theorem Zkv {a n:Nat}(g:n≤64)(b:o.op=Op.binOp .shl t x y k:=by kernel_rfl)(c:ρ x=.int .u64 (a:Int):=by kernel_rfl){ky:IntKind}(d:ρ y=.int ky (n:Int):=by kernel_rfl):(execOp ρ o).run P w=.ok (.value (.int .u64 ((a*2^n%W64:Nat):Int))) w:=by
 have e:¬ ((n:Int)<0):=qO
 have f:min ((n:Int)).toNat IntKind.u64.bits=n:=by show min ((n:Int)).toNat 64=n;omega
 simp only[execOp,b,c,d,eqGuard,binOp,Op.shift,uL e,f,aS]
 rfl
theorem Zm1 {a b r:Nat}(ha:a<W64)(c:b<W64)(h:a ||| b=r)(d:o.op=Op.binOp .or t x y k:=by kernel_rfl)(e:ρ x=.int .u64 (a:Int):=by kernel_rfl)(f:ρ y=.int .u64 (b:Int):=by kernel_rfl):(execOp ρ o).run P w=.ok (.value (.int .u64 (r:Int))) w:=by
 have:=bH ha c
 rw[h] at this
 rw[←this]
 simp only[execOp,d,e,f,eqGuard,binOp]
 rfl
end
theorem wY {B:Nat}{xs:qN}(k:Nat):val B (xs.take (k+1))=val B (xs.take k)+B^k*(xs[k]?.getD 0):=by
 rcases vM k xs.length with h|h
 ·exact xA k h
 rw[uD qO,uD h,vI h];simp
/-! ### plus,minus -/
def bV (xs ys:List Nat) (k:Nat) (zs:List Nat) (c:Nat):Prop :=
 zs.length=xs.length+1∧Dig W64 zs∧c≤1∧val W64 (zs.take k)+W64^k*c=val W64 (xs.take k)+val W64 (ys.take k)
theorem bV.start (xs ys:qN):bV xs ys 0 (List.replicate (xs.length+1) 0) 0:=⟨qS,Dig.replicate zI _,qO,qS⟩
theorem bV.step {xs ys zs:qN}{k c x y:Nat}(h:bV xs ys k zs c)(l:k<xs.length)(a:xs[k]?.getD 0=x)(b:ys[k]?.getD 0=y)(d:Dig W64 xs)(e:Dig W64 ys):bV xs ys (k+1) (zs.set k (zX x y c)) (xD x y c):=by
 obtain⟨f,g,i,j⟩:=h
 refine⟨by simpa using f,g.set k (fD _ _ _),Zbg (a ▸ d.getD zI k) (b ▸ e.getD zI k) i,?_⟩
 rw[wI _ _ _ _ qO,wY k,wY k,a,b,uN]
 exact Zf8 _ _ _ _ _ _ _ _ _ _ j (iU x y c)
theorem bV.done {xs ys zs:qN}{c:Nat}(h:bV xs ys xs.length zs c)(a:ys.length≤xs.length):(zs.set xs.length c).length=xs.length+1∧Dig W64 (zs.set xs.length c)∧val W64 (zs.set xs.length c)=val W64 xs+val W64 ys:=by
 obtain⟨b,d,g,f⟩:=h
 have e:(zs.set xs.length c).length=xs.length+1:=by simpa using b
 refine⟨e,d.set _ (by have:=gC;omega),?_⟩
 rw[←uD (l:=zs.set xs.length c) (i:=xs.length+1) qO,wI _ _ _ _ qO,f,uD (uG _),uD a]
def MinR (xs ys:List Nat) (k:Nat) (zs:List Nat) (c:Nat):Prop :=
 zs.length=xs.length∧Dig W64 zs∧c≤1∧val W64 (zs.take k)+val W64 (ys.take k)=val W64 (xs.take k)+W64^k*c
theorem MinR.start (xs ys:qN):MinR xs ys 0 (List.replicate xs.length 0) 0:=⟨qS,Dig.replicate zI _,qO,qS⟩
theorem MinR.step {xs ys zs:qN}{k c x y:Nat}(h:MinR xs ys k zs c)(m:k<xs.length)(a:xs[k]?.getD 0=x)(b:ys[k]?.getD 0=y)(d:Dig W64 xs)(e:Dig W64 ys):MinR xs ys (k+1) (zs.set k (lD x y c)) (lE x y c):=by
 obtain⟨f,g,i,j⟩:=h
 have l:=aO (a ▸ d.getD zI k) (b ▸ e.getD zI k) i
 refine⟨by simpa using f,g.set k (dX _ _ _),Zbh _ _ _,?_⟩
 rw[wI _ _ _ _ qO,wY k,wY k,a,b,uN]
 exact ZlE _ _ _ _ _ _ _ _ _ _ j l
theorem MinR.done {xs ys zs:qN}{c:Nat}(h:MinR xs ys xs.length zs c)(d:ys.length≤xs.length)(e:val W64 ys≤val W64 xs):val W64 zs=val W64 xs-val W64 ys:=by
 obtain⟨f,g,i,a⟩:=h
 rw[uD qO,uD d,uD (uG _)] at a
 have b:=wL g
 rw[f] at b
 rcases (by omega:c=0∨c=1) with rfl|rfl
 ·rw[tD] at a;omega
 rw[tP] at a;omega
/-! ### times -/
noncomputable def tmD (z x y c:Nat):Nat:=zX (zX (zT x y) z 0) c 0
noncomputable def tmC (z x y c:Nat):Nat:=xV x y+xD (zT x y) z 0+xD (zX (zT x y) z 0) c 0
theorem Zic (z x y c:Nat):tmD z x y c+W64*tmC z x y c=z+x*y+c:=by
 have a:=fE x y
 have b:=iU (zT x y) z 0
 have d:=iU (zX (zT x y) z 0) c 0
 unfold tmD tmC
 rw[uK,uK]
 omega
theorem ZgK {z x y c:Nat}(d:z<W64)(a:x<W64)(b:y<W64)(e:c<W64):tmC z x y c<W64:=by
 have f:=Zic z x y c
 have g:=Zbi a b
 exact dO _ qO
theorem Zef {a b:Nat}(h:a+b<W64):IntKind.u64.wrap ((a:Int)+(b:Int))=((a+b:Nat):Int):=by rw[←rE];exact lW _ h
theorem ZoX {z x y c:Nat}(a:z<W64)(b:x<W64)(d:y<W64)(e:c<W64):xV x y+xD (zT x y) z 0<W64:=by have:=ZgK a b d e;unfold tmC at this;omega
theorem Zcq (x y:Nat)(w:World)(a:x<W64)(b:y<W64):yA 161 #[.int .u64 (x:Int),.int .u64 (y:Int)] w (RetV w (.tuple #[.int .u64 ((xV x y:Nat):Int),.int .u64 ((zT x y:Nat):Int)])):=by
 refine (bF x y a b w).mono ?_
 rintro e w' ⟨rfl,rfl⟩
 exact⟨rfl,Fr.refl _ _⟩
def TimI (zs0 ys:List Nat) (x i k:Nat) (zs:List Nat) (c:Nat):Prop :=
 zs.length=zs0.length∧Dig W64 zs∧c<W64∧zs.drop (i+k)=zs0.drop (i+k)∧val W64 (zs.take (i+k))+W64^(i+k)*c=val W64 (zs0.take (i+k))+W64^i*(x*val W64 (ys.take k))
theorem TimI.start {a:qN}(ys:qN)(x i:Nat)(h:Dig W64 a):TimI a ys x i 0 a 0:=⟨rfl,h,zI,rfl,qS⟩
theorem TimI.at {a ys zs:qN}{x i k c:Nat}(h:TimI a ys x i k zs c):zs[i+k]?.getD 0=a[i+k]?.getD 0:=by
 have:=vF (fun l=>l[0]?.getD 0) h.2.2.2.1
 simpa [vP] using this
theorem TimI.step {a ys zs:qN}{x i k c z y:Nat}(h:TimI a ys x i k zs c)(g:i+k<a.length)(b:zs[i+k]?.getD 0=z)(d:ys[k]?.getD 0=y)(j:Dig W64 ys)(l:x<W64):TimI a ys x i (k+1) (zs.set (i+k) (tmD z x y c)) (tmC z x y c):=by
 have m:a[i+k]?.getD 0=z:=h.at.symm.trans b
 obtain⟨n,f,p,q,s⟩:=h
 refine⟨by simpa using n,f.set _ (fD _ _ _),ZgK (b ▸ f.getD zI _) l (d ▸ j.getD zI k) p,?_,?_⟩
 ·have e:=vF (List.drop 1) q
  rw[vV,vV] at e
  rw[vZ qO,show i+(k+1)=i+k+1 by omega];exact e
 rw[show i+(k+1)=(i+k)+1 by omega,wI _ _ _ _ qO,xA (i+k) g,wY k,m,d,uN]
 have e:=vF (W64^(i+k) * ·) (Zic z x y c)
 have r:W64^i*(x*(val W64 (ys.take k)+W64^k*y))=W64^i*(x*val W64 (ys.take k))+W64^(i+k)*(x*y):=by
  rw[uK x,uK (W64^i),uT,tE x (W64^k) y,uH (W64^i)]
 simp only[uK] at e
 rw[r,uH (W64^(i+k)) W64]
 omega
def TimR (xs ys:List Nat) (i:Nat) (zs:List Nat):Prop :=
 zs.length=xs.length+ys.length∧Dig W64 zs∧(∀ j,i+ys.length≤j→zs[j]?.getD 0=0)∧val W64 (zs.take (i+ys.length))=val W64 (xs.take i)*val W64 ys
theorem ZeM (n j:Nat):(List.replicate n 0)[j]?.getD 0=0:=by rw[List.getElem?_replicate];split<;>rfl
theorem TimR.start (xs ys:qN):TimR xs ys 0 (List.replicate (xs.length+ys.length) 0):=⟨qS,Dig.replicate zI _,fun j _=>ZeM _ _,by rw[List.take_replicate,iF];simp⟩
theorem TimR.step {xs ys a zs:qN}{i c x:Nat}(h:TimR xs ys i a)(b:i<xs.length)(d:xs[i]?.getD 0=x)(k:TimI a ys x i ys.length zs c):TimR xs ys (i+1) (zs.set (i+ys.length) c):=by
 obtain⟨r,s,f,g⟩:=h
 obtain⟨u,m,n,p,q⟩:=k
 refine⟨by simp;omega,m.set _ n,fun j v=>?_,?_⟩
 ·rw[List.getElem?_set_ne qO]
  have e:=vF (fun l=>l[j-(i+ys.length)]?.getD 0) p
  simp only[vP] at e
  rw[show i+ys.length+(j-(i+ys.length))=j by omega] at e
  rw[e];exact f j qO
 rw[show i+1+ys.length=(i+ys.length)+1 by omega,wI _ _ _ _ qO,q,g,uD (uG ys.length),xA i b,d,vC,uH]
theorem TimR.done {xs ys zs:qN}(h:TimR xs ys xs.length zs):val W64 zs=val W64 xs*val W64 ys:=by
 obtain⟨b,c,d,a⟩:=h
 rwa [uD qO,uD (uG _)] at a
theorem Zcr (A:qA)(xs:qN)(c:Nat)(w:World)(s:zF .u64 w A xs)(z:xs.length≤1099511627776)(B:xs.length≤c) :
 yA 144 #[.slice A xs.length c] w (RetV w (.slice A (xZ xs xs.length) c)):=by
 refine zQ (Φ:=fun w=>zF .u64 w A xs) func144 rfl qK (fun w' u=>s.ext u) ?_
 refine yY (xq 1 [eS1 2 none 0 0] [] ?_)
 refine yZ (zC (zO ?_))
 refine yC [eS1 0 A (xs.length) c] [] (fun w=>zF .u64 w A (xs)) (fun w Q=>Q) ?_
 refine xQ (fun p q r=>∃ (k:Nat),q=ofL [eS1 0 A k c] []∧r=(fun w=>zF .u64 w A (xs))∧(xZ xs xs.length=xZ xs k)∧(k≤xs.length)∧p=(1+k)) ((1+(xs.length))) ⟨(xs.length),rfl,rfl,rfl,uG _,rfl⟩ ?_
 rintro p q r ⟨k,rfl,rfl,n,C,rfl⟩
 refine zC (yY (xq 4 [yB 6 (decide ((k:Int)>0))] [] ?_))
 rcases bl2 ((decide ((k:Int)>0))) with a|a
 ·rw[a]
  have f:=uA a
  refine xq 4 [eS1 7 A k c,yJ 10 (IntKind.i64.wrap ((k:Int)-1))] [] ?_
  rw[yW ((k:Int)-1) (((k-1:Nat):Int)) qO]
  refine xqk 11 (atA A (k-1)) (fun w R Q=>xW (t:=107) (e:=141) (x:=.tmp 7) (ix:=.tmp 10) (len:=k) (cap:=c) (i:=k-1) ((Q).ne (j:=k-1) qO) qO) ?_
  obtain⟨g,b⟩:=yE (xs[k-1]?.getD 0)
  refine xqk 12 (yX (g:Int)) (fun w R Q=>by rw[←b];exact wV (t:=141) (x:=.tmp 11) (Q) (j:=k-1) qO) ?_
  refine xq 2 [yB 14 (((g:Int):Int) == 0)] [] ?_
  refine xe (zA ?_)
  refine yQ ((((g:Int):Int) == 0)) (fun d=>?_) fun d=>?_
  ·have l:=tG.1 d
   refine zJ (zA (zO (zB (xq 4 [eS1 15 A k c,yJ 18 (IntKind.i64.wrap ((k:Int)-1))] [] ?_))))
   rw[yW ((k:Int)-1) (((k-1:Nat):Int)) qO]
   refine xqk 19 (.slice A (k-1) c) (fun w R Q=>Zon (t:=107) (e:=141) (x:=.tmp 15) (len:=k) (cap:=c) (h:=k-1) (hi:=.tmp 18) qO) ?_
   refine xq 1 [eS1 0 A (k-1) c] [] ?_
   refine xe (xN ?_)
   refine yP [eS1 0 A ((k-1)) c] [] (fun w=>zF .u64 w A (xs)) (fun w Q=>Q) ?_
   have v:xZ xs xs.length=xZ xs (k-1):=by obtain⟨m,rfl⟩:∃ m,k=m+1:=⟨k-1,qO⟩;rw[n,xZ,uS (by rw[tL] at b;omega),tL]
   exact xE ((1+((k-1)))) qO ⟨((k-1)),rfl,rfl,v,qO,rfl⟩
  have l:=wF d
  refine xL (zH (zH (xT (zA (yY (xq 2 [eS1 2 A k c] [] ?_))))))
  refine yZ (zG ?_)
  refine yR (.slice A k c) fun w' R Q=>?_
  exact⟨by obtain⟨m,rfl⟩:∃ m,k=m+1:=⟨k-1,qO⟩;rw[n,xZ,uL (by rw[tL] at b;omega)],R⟩
 rw[a]
 have f:=uB a
 refine xq 8 [yB 14 false] [] ?_
 refine yZ (xb (xL (zH (zH (xT (zA (yY (xq 2 [eS1 2 A k c] [] ?_))))))))
 refine yZ (zG ?_)
 refine yR (.slice A k c) fun w' R Q=>?_
 obtain rfl:k=0:=qO
 exact⟨by rw[n];rfl,R⟩
theorem bK {b n v:Nat}{xs:qN}{w:World}(a:Own .u64 141 w b xs)(c:Dig W64 xs)(d:xs.length=n)(f:val W64 xs=v)(g:n≤1099511627776):yA 144 #[.slice (some ⟨b,0,none⟩) n n] w (wM w v):=by
 subst d f
 refine (Zcr _ xs _ w a.shows0 g (uG _)).mono ?_
 rintro e w' ⟨rfl,Q⟩
 exact⟨_,rfl,(zD.of_own a c (uG _)).ext Q,Q⟩
theorem Zjg (A m:qA)(xs ys:qN)(c r:Nat)(w:World)(U:zF .u64 w A xs)(V:zF .u64 w m ys)(hl:xs.length≤4294967296)(W:ys.length≤4294967296)(L:Dig W64 xs)(M:Dig W64 ys)(X:ys.length≤xs.length)(H:val W64 ys≤val W64 xs) :
 yA 137 #[.slice A xs.length c,.slice m ys.length r] w (wM w (val W64 xs-val W64 ys)):=by
 refine zQ (Φ:=fun w=>(zF .u64 w A xs∧zF .u64 w m ys)) func137 rfl qK (fun w' N=>⟨U.ext N,V.ext N⟩) ?_
 refine yY (xq 1 [eS1 4 none 0 0] [] ?_)
 refine yZ (yY (xq 2 [yJ 10 ((xs.length:Nat):Int)] [] ?_))
 refine Zbw (d:=11) (t:=107) (e:=141) (k:=.u64) (kl:=.i64) (kc:=.i64) (l:=.tmp 10) (c:=.tmp 10) (xs.length) 8 qO qD fun a s _=>?_
 refine xr 1 [eS1 0 A xs.length c,eS1 1 m ys.length r,eS1 4 none 0 0,eS1 5 (yL a) (xs.length) (xs.length)] [] ?_
 refine yZ (yY (xq 1 [yU 6 0] [] ?_))
 refine yZ (zC (yY (xq 3 [yJ 13 ((xs.length:Nat):Int),yJ 14 0] [] ?_)))
 refine yZ (zO ?_)
 refine yC [eS1 0 A xs.length c,eS1 1 m ys.length r,eS1 4 none 0 0,eS1 5 (yL a) (xs.length) (xs.length),yU 6 ((0:Nat):Int),yJ 13 ((xs.length:Nat):Int),yJ 14 ((0:Nat):Int)] [] (fun w=>(Box (fun j=>a≤j) w (fun w=>(zF .u64 w A (xs)∧zF .u64 w m (ys)))∧Own .u64 141 w a ((List.replicate (xs.length) 0)))) (fun w Q=>⟨Q.1,Q.2⟩) ?_
 refine xQ (fun O S T=>∃ (f k:Nat) (q:List Nat),S=ofL [eS1 0 A xs.length c,eS1 1 m ys.length r,eS1 4 none 0 0,eS1 5 (yL a) (xs.length) (xs.length),yU 6 (f:Int),yJ 13 ((xs.length:Nat):Int),yJ 14 (k:Int)] []∧T=(fun w=>(Box (fun j=>a≤j) w (fun w=>(zF .u64 w A (xs)∧zF .u64 w m (ys)))∧Own .u64 141 w a (q)))∧(MinR xs ys k q f)∧(k≤xs.length)∧O=(xs.length-k)) ((xs.length-0)) ⟨0,0,(List.replicate (xs.length) 0),rfl,rfl,MinR.start xs ys,qO,rfl⟩ ?_
 rintro O S T ⟨f,k,q,rfl,rfl,B,hk,rfl⟩
 refine yY (xq 1 [yB 15 (decide ((k:Int)<((xs.length:Nat):Int)))] [] ?_)
 refine yZ (zC ?_)
 refine yQ ((decide ((k:Int)<((xs.length:Nat):Int)))) (fun n=>?_) fun n=>?_
 ·have C:=uA n
  have Y:=B.1
  have Z:=B.2.2.1
  refine zJ (zA (zC (zO (yY (xq 2 [yJ 7 (k:Int)] [] ?_)))))
  refine yZ (yY (xq 1 [yU 8 0] [] ?_))
  refine yZ (zC (yY (xq 4 [yB 20 (decide ((k:Int)<((ys.length:Nat):Int)))] [] ?_)))
  refine xe (zA ?_)
  refine yQ ((decide ((k:Int)<((ys.length:Nat):Int)))) (fun p=>?_) fun p=>?_
  ·have D:=uA p
   refine zB (xq 2 [eS1 21 m ys.length r,yJ 22 (k:Int)] [] ?_)
   refine xqk 23 (atA m k) (fun w R Q=>xW (t:=107) (e:=141) (x:=.tmp 21) (ix:=.tmp 22) (len:=ys.length) (cap:=r) (i:=k) (((Q.1).self.2).ne (j:=k) qO) qO) ?_
   obtain⟨b,u⟩:=yE (ys[k]?.getD 0)
   refine xqk 24 (yX (b:Int)) (fun w R Q=>by rw[←u];exact wV (t:=141) (x:=.tmp 23) ((Q.1).self.2) (j:=k) qO) ?_
   refine xq 1 [yU 8 (b:Int)] [] ?_
   refine yZ (zB (xq 4 [eS1 26 (yL a) (xs.length) (xs.length),yJ 27 (k:Int),eS1 28 A xs.length c,yJ 29 (k:Int)] [] ?_))
   refine xqk 30 (atA A k) (fun w R Q=>xW (t:=107) (e:=141) (x:=.tmp 28) (ix:=.tmp 29) (len:=xs.length) (cap:=c) (i:=k) (((Q.1).self.1).ne (j:=k) qO) qO) ?_
   obtain⟨g,v⟩:=yE (xs[k]?.getD 0)
   refine xqk 31 (yX (g:Int)) (fun w R Q=>by rw[←v];exact wV (t:=141) (x:=.tmp 30) ((Q.1).self.1) (j:=k) qO) ?_
   refine xq 2 [yU 32 (b:Int),yU 33 (f:Int)] [] ?_
   refine xqk 34 (.tuple #[yX ((lD g b f:Nat):Int), yX ((lE g b f:Nat):Int)]) (fun w R Q=>gG (args:=[Operand.tmp 31,Operand.tmp 32,Operand.tmp 33]) (ts:=#[141,141,141]) (iO g b f qO w)) ?_
   refine xq 3 [yU 35 ((lD g b f:Nat):Int),yU 36 ((lE g b f:Nat):Int)] [] ?_
   refine xqk 37 (.pointer (some ⟨a,k,none⟩)) (fun w R Q=>lT (t:=107) (e:=141) (x:=.tmp 26) (ix:=.tmp 27) (len:=(xs.length)) (cap:=(xs.length)) (i:=k) qO) ?_
   refine jD (t:=141) (x:=.tmp 37) (y:=.tmp 35) a (k) (lD g b f) (fun w=>(Box (fun j=>a≤j) w (fun w=>(zF .u64 w A (xs)∧zF .u64 w m (ys)))∧Own .u64 141 w a ((q).set (k) (lD g b f)))) (fun w Q=>Q.2) qO (Or.inl s) (fun w w' Q I J=>⟨((Q.1).fr (I.mono (fun _ _ e=>by rw[e];exact uG _))),J⟩) ?_
   refine xq 1 [yU 6 ((lE g b f:Nat):Int)] [] ?_
   refine xe (xN (zA (zB (xq 1 [yJ 38 (IntKind.i64.wrap ((k:Int)+1))] [] ?_))))
   rw[yW ((k:Int)+1) (((k+1:Nat):Int)) qO]
   refine xq 1 [yJ 14 ((k+1:Nat):Int)] [] ?_
   refine xe ?_
   refine yP [eS1 0 A xs.length c,eS1 1 m ys.length r,eS1 4 none 0 0,eS1 5 (yL a) (xs.length) (xs.length),yU 6 (((lE g b f):Nat):Int),yJ 13 ((xs.length:Nat):Int),yJ 14 (((k+1):Nat):Int)] [] (fun w=>(Box (fun j=>a≤j) w (fun w=>(zF .u64 w A (xs)∧zF .u64 w m (ys)))∧Own .u64 141 w a (((q).set (k) (lD g b f))))) (fun w Q=>⟨Q.1,Q.2⟩) ?_
   have K:=B.step (k:=k) qO v (y:=b) u L M
   exact xE ((xs.length-(k+1))) qO ⟨(lE g b f),(k+1),((q).set (k) (lD g b f)),rfl,rfl,K,qO,rfl⟩
  have D:=uB p
  refine zJ (zA (zB (xq 4 [eS1 26 (yL a) (xs.length) (xs.length),yJ 27 (k:Int),eS1 28 A xs.length c,yJ 29 (k:Int)] [] ?_)))
  refine xqk 30 (atA A k) (fun w R Q=>xW (t:=107) (e:=141) (x:=.tmp 28) (ix:=.tmp 29) (len:=xs.length) (cap:=c) (i:=k) (((Q.1).self.1).ne (j:=k) qO) qO) ?_
  obtain⟨h,z⟩:=yE (xs[k]?.getD 0)
  refine xqk 31 (yX (h:Int)) (fun w R Q=>by rw[←z];exact wV (t:=141) (x:=.tmp 30) ((Q.1).self.1) (j:=k) qO) ?_
  refine xq 2 [yU 32 0,yU 33 (f:Int)] [] ?_
  refine xqk 34 (.tuple #[yX ((lD h 0 f:Nat):Int), yX ((lE h 0 f:Nat):Int)]) (fun w R Q=>gG (args:=[Operand.tmp 31,Operand.tmp 32,Operand.tmp 33]) (ts:=#[141,141,141]) (iO h 0 f qO w)) ?_
  refine xq 3 [yU 35 ((lD h 0 f:Nat):Int),yU 36 ((lE h 0 f:Nat):Int)] [] ?_
  refine xqk 37 (.pointer (some ⟨a,k,none⟩)) (fun w R Q=>lT (t:=107) (e:=141) (x:=.tmp 26) (ix:=.tmp 27) (len:=(xs.length)) (cap:=(xs.length)) (i:=k) qO) ?_
  refine jD (t:=141) (x:=.tmp 37) (y:=.tmp 35) a (k) (lD h 0 f) (fun w=>(Box (fun j=>a≤j) w (fun w=>(zF .u64 w A (xs)∧zF .u64 w m (ys)))∧Own .u64 141 w a ((q).set (k) (lD h 0 f)))) (fun w Q=>Q.2) qO (Or.inl s) (fun w w' Q I J=>⟨((Q.1).fr (I.mono (fun _ _ e=>by rw[e];exact uG _))),J⟩) ?_
  refine xq 1 [yU 6 ((lE h 0 f:Nat):Int)] [] ?_
  refine xe (xN (zA (zB (xq 1 [yJ 38 (IntKind.i64.wrap ((k:Int)+1))] [] ?_))))
  rw[yW ((k:Int)+1) (((k+1:Nat):Int)) qO]
  refine xq 1 [yJ 14 ((k+1:Nat):Int)] [] ?_
  refine xe ?_
  refine yP [eS1 0 A xs.length c,eS1 1 m ys.length r,eS1 4 none 0 0,eS1 5 (yL a) (xs.length) (xs.length),yU 6 (((lE h 0 f):Nat):Int),yJ 13 ((xs.length:Nat):Int),yJ 14 (((k+1):Nat):Int)] [] (fun w=>(Box (fun j=>a≤j) w (fun w=>(zF .u64 w A (xs)∧zF .u64 w m (ys)))∧Own .u64 141 w a (((q).set (k) (lD h 0 f))))) (fun w Q=>⟨Q.1,Q.2⟩) ?_
  have K:=B.step (k:=k) qO z (y:=0) (by rw[vI qO];rfl) L M
  exact xE ((xs.length-(k+1))) qO ⟨(lE h 0 f),(k+1),((q).set (k) (lD h 0 f)),rfl,rfl,K,qO,rfl⟩
 have C:=uB n
 obtain rfl:k=xs.length:=qO
 refine xL (zH (zH (xT (zA (yY (xq 1 [eS1 39 (yL a) (xs.length) (xs.length)] [] ?_))))))
 refine xqc 144 [.slice (yL a) (xs.length) (xs.length)] 40 xC _ (fun w R Q=>yM zV (bK Q.2 B.2.1 B.1 (B.done X H) qO)) fun⟨E,F,G⟩=>?_
 refine xq 1 [eS1 4 E F G] [] ?_
 refine yZ (zG ?_)
 refine yR (.slice E F G) fun w' R Q=>?_
 exact⟨_,rfl,Q.2,R⟩
theorem Zkw (A B:qA)(xs ys:qN)(c K:Nat)(w:World)(hX:zF .u64 w A xs)(hY:zF .u64 w B ys)(hl:xs.length≤4294967296)(X:ys.length≤4294967296)(hx:Dig W64 xs)(hy:Dig W64 ys) :
 yA 135 #[.slice A xs.length c,.slice B ys.length K] w (wM w (val W64 xs+val W64 ys)):=by
 refine zQ (Φ:=fun w=>(zF .u64 w A xs∧zF .u64 w B ys)) func135 rfl qK (fun w' hf=>⟨hX.ext hf,hY.ext hf⟩) ?_
 refine yY (xq 1 [eS1 4 none 0 0] [] ?_)
 refine xe (zA ?_)
 refine ZgF (fun M N=>∃ (p q:Option Addr) (a n:List Nat) (r D:Nat),M=ofL [eS1 0 p a.length r,eS1 1 q n.length D,eS1 4 none 0 0] []∧N=(fun w=>(zF .u64 w p (a)∧zF .u64 w q (n)))∧(n.length≤a.length)∧(Dig W64 a)∧(Dig W64 n)∧(a.length≤4294967296)∧(val W64 a+val W64 n=val W64 xs+val W64 ys)) ?_ ?_
 ·refine yY (xq 5 [yB 13 (decide (((xs.length:Nat):Int)<((ys.length:Nat):Int)))] [] ?_)
  refine xe (zA ?_)
  refine yQ ((decide (((xs.length:Nat):Int)<((ys.length:Nat):Int)))) (fun s=>?_) fun s=>?_
  ·have H:=uA s
   refine zB (xq 4 [eS1 0 B ys.length K,eS1 1 A xs.length c] [] ?_)
   refine xe ?_
   refine yP [eS1 0 B ys.length K,eS1 1 A xs.length c,eS1 4 none 0 0] [] (fun w=>(zF .u64 w B (ys)∧zF .u64 w A (xs))) (fun w Q=>⟨Q.2,Q.1⟩) ?_
   exact fX ⟨B,A,ys,xs,K,c,rfl,rfl,qO,hy,hx,X,tC _ _⟩
  have H:=uB s
  refine zJ ?_
  refine yP [eS1 0 A xs.length c,eS1 1 B ys.length K,eS1 4 none 0 0] [] (fun w=>(zF .u64 w A (xs)∧zF .u64 w B (ys))) (fun w Q=>⟨Q.1,Q.2⟩) ?_
  exact fX ⟨A,B,xs,ys,c,K,rfl,rfl,qO,hx,hy,hl,rfl⟩
 rintro M N ⟨p,q,a,n,r,D,rfl,rfl,h1,hu,hv,a0,O⟩
 refine yY (xq 3 [yJ 18 (IntKind.i64.wrap (((a.length:Nat):Int)+1))] [] ?_)
 rw[yW (((a.length:Nat):Int)+1) (((a.length+1:Nat):Int)) qO]
 refine Zbw (d:=19) (t:=107) (e:=141) (k:=.u64) (kl:=.i64) (kc:=.i64) (l:=.tmp 18) (c:=.tmp 18) (a.length+1) 8 qO qD fun b u _=>?_
 refine xr 1 [eS1 0 p a.length r,eS1 1 q n.length D,eS1 4 none 0 0,eS1 5 (yL b) (a.length+1) (a.length+1)] [] ?_
 refine yZ (yY (xq 1 [yU 6 0] [] ?_))
 refine yZ (zC (yY (xq 3 [yJ 21 ((a.length:Nat):Int),yJ 22 0] [] ?_)))
 refine yZ (zO ?_)
 refine yC [eS1 0 p a.length r,eS1 1 q n.length D,eS1 4 none 0 0,eS1 5 (yL b) (a.length+1) (a.length+1),yU 6 ((0:Nat):Int),yJ 21 ((a.length:Nat):Int),yJ 22 ((0:Nat):Int)] [] (fun w=>(Box (fun j=>b≤j) w (fun w=>(zF .u64 w p (a)∧zF .u64 w q (n)))∧Own .u64 141 w b ((List.replicate (a.length+1) 0)))) (fun w Q=>⟨Q.1,Q.2⟩) ?_
 refine xQ (fun nn M N=>∃ (g k:Nat) (C:List Nat),M=ofL [eS1 0 p a.length r,eS1 1 q n.length D,eS1 4 none 0 0,eS1 5 (yL b) (a.length+1) (a.length+1),yU 6 (g:Int),yJ 21 ((a.length:Nat):Int),yJ 22 (k:Int)] []∧N=(fun w=>(Box (fun j=>b≤j) w (fun w=>(zF .u64 w p (a)∧zF .u64 w q (n)))∧Own .u64 141 w b (C)))∧(bV a n k C g)∧(k≤a.length)∧nn=(a.length-k)) ((a.length-0)) ⟨0,0,(List.replicate (a.length+1) 0),rfl,rfl,bV.start a n,qO,rfl⟩ ?_
 rintro nn M N ⟨g,k,C,rfl,rfl,L,hk,rfl⟩
 refine yY (xq 1 [yB 23 (decide ((k:Int)<((a.length:Nat):Int)))] [] ?_)
 refine yZ (zC ?_)
 refine yQ ((decide ((k:Int)<((a.length:Nat):Int)))) (fun v=>?_) fun v=>?_
 ·have I:=uA v
  have Y:=L.1
  have b0:=L.2.2.1
  refine zJ (zA (zC (zO (yY (xq 2 [yJ 7 (k:Int)] [] ?_)))))
  refine yZ (yY (xq 1 [yU 8 0] [] ?_))
  refine yZ (zC (yY (xq 4 [yB 28 (decide ((k:Int)<((n.length:Nat):Int)))] [] ?_)))
  refine xe (zA ?_)
  refine yQ ((decide ((k:Int)<((n.length:Nat):Int)))) (fun z=>?_) fun z=>?_
  ·have J:=uA z
   refine zB (xq 2 [eS1 29 q n.length D,yJ 30 (k:Int)] [] ?_)
   refine xqk 31 (atA q k) (fun w R Q=>xW (t:=107) (e:=141) (x:=.tmp 29) (ix:=.tmp 30) (len:=n.length) (cap:=D) (i:=k) (((Q.1).self.2).ne (j:=k) qO) qO) ?_
   obtain⟨f,E⟩:=yE (n[k]?.getD 0)
   refine xqk 32 (yX (f:Int)) (fun w R Q=>by rw[←E];exact wV (t:=141) (x:=.tmp 31) ((Q.1).self.2) (j:=k) qO) ?_
   refine xq 1 [yU 8 (f:Int)] [] ?_
   refine yZ (zB (xq 4 [eS1 34 (yL b) (a.length+1) (a.length+1),yJ 35 (k:Int),eS1 36 p a.length r,yJ 37 (k:Int)] [] ?_))
   refine xqk 38 (atA p k) (fun w R Q=>xW (t:=107) (e:=141) (x:=.tmp 36) (ix:=.tmp 37) (len:=a.length) (cap:=r) (i:=k) (((Q.1).self.1).ne (j:=k) qO) qO) ?_
   obtain⟨h,F⟩:=yE (a[k]?.getD 0)
   refine xqk 39 (yX (h:Int)) (fun w R Q=>by rw[←F];exact wV (t:=141) (x:=.tmp 38) ((Q.1).self.1) (j:=k) qO) ?_
   refine xq 2 [yU 40 (f:Int),yU 41 (g:Int)] [] ?_
   refine xqk 42 (.tuple #[yX ((zX h f g:Nat):Int), yX ((xD h f g:Nat):Int)]) (fun w R Q=>gG (args:=[Operand.tmp 39,Operand.tmp 40,Operand.tmp 41]) (ts:=#[141,141,141]) (iN h f g qO w)) ?_
   refine xq 3 [yU 43 ((zX h f g:Nat):Int),yU 44 ((xD h f g:Nat):Int)] [] ?_
   refine xqk 45 (.pointer (some ⟨b,k,none⟩)) (fun w R Q=>lT (t:=107) (e:=141) (x:=.tmp 34) (ix:=.tmp 35) (len:=(a.length+1)) (cap:=(a.length+1)) (i:=k) qO) ?_
   refine jD (t:=141) (x:=.tmp 45) (y:=.tmp 43) b (k) (zX h f g) (fun w=>(Box (fun j=>b≤j) w (fun w=>(zF .u64 w p (a)∧zF .u64 w q (n)))∧Own .u64 141 w b ((C).set (k) (zX h f g)))) (fun w Q=>Q.2) qO (Or.inl u) (fun w w' Q S T=>⟨((Q.1).fr (S.mono (fun _ _ e=>by rw[e];exact uG _))),T⟩) ?_
   refine xq 1 [yU 6 ((xD h f g:Nat):Int)] [] ?_
   refine xe (xN (zA (zB (xq 1 [yJ 46 (IntKind.i64.wrap ((k:Int)+1))] [] ?_))))
   rw[yW ((k:Int)+1) (((k+1:Nat):Int)) qO]
   refine xq 1 [yJ 22 ((k+1:Nat):Int)] [] ?_
   refine xe ?_
   refine yP [eS1 0 p a.length r,eS1 1 q n.length D,eS1 4 none 0 0,eS1 5 (yL b) (a.length+1) (a.length+1),yU 6 (((xD h f g):Nat):Int),yJ 21 ((a.length:Nat):Int),yJ 22 (((k+1):Nat):Int)] [] (fun w=>(Box (fun j=>b≤j) w (fun w=>(zF .u64 w p (a)∧zF .u64 w q (n)))∧Own .u64 141 w b (((C).set (k) (zX h f g))))) (fun w Q=>⟨Q.1,Q.2⟩) ?_
   have Z:=L.step (k:=k) qO F (y:=f) E hu hv
   exact xE ((a.length-(k+1))) qO ⟨(xD h f g),(k+1),((C).set (k) (zX h f g)),rfl,rfl,Z,qO,rfl⟩
  have J:=uB z
  refine zJ (zA (zB (xq 4 [eS1 34 (yL b) (a.length+1) (a.length+1),yJ 35 (k:Int),eS1 36 p a.length r,yJ 37 (k:Int)] [] ?_)))
  refine xqk 38 (atA p k) (fun w R Q=>xW (t:=107) (e:=141) (x:=.tmp 36) (ix:=.tmp 37) (len:=a.length) (cap:=r) (i:=k) (((Q.1).self.1).ne (j:=k) qO) qO) ?_
  obtain⟨m,G⟩:=yE (a[k]?.getD 0)
  refine xqk 39 (yX (m:Int)) (fun w R Q=>by rw[←G];exact wV (t:=141) (x:=.tmp 38) ((Q.1).self.1) (j:=k) qO) ?_
  refine xq 2 [yU 40 0,yU 41 (g:Int)] [] ?_
  refine xqk 42 (.tuple #[yX ((zX m 0 g:Nat):Int), yX ((xD m 0 g:Nat):Int)]) (fun w R Q=>gG (args:=[Operand.tmp 39,Operand.tmp 40,Operand.tmp 41]) (ts:=#[141,141,141]) (iN m 0 g qO w)) ?_
  refine xq 3 [yU 43 ((zX m 0 g:Nat):Int),yU 44 ((xD m 0 g:Nat):Int)] [] ?_
  refine xqk 45 (.pointer (some ⟨b,k,none⟩)) (fun w R Q=>lT (t:=107) (e:=141) (x:=.tmp 34) (ix:=.tmp 35) (len:=(a.length+1)) (cap:=(a.length+1)) (i:=k) qO) ?_
  refine jD (t:=141) (x:=.tmp 45) (y:=.tmp 43) b (k) (zX m 0 g) (fun w=>(Box (fun j=>b≤j) w (fun w=>(zF .u64 w p (a)∧zF .u64 w q (n)))∧Own .u64 141 w b ((C).set (k) (zX m 0 g)))) (fun w Q=>Q.2) qO (Or.inl u) (fun w w' Q S T=>⟨((Q.1).fr (S.mono (fun _ _ e=>by rw[e];exact uG _))),T⟩) ?_
  refine xq 1 [yU 6 ((xD m 0 g:Nat):Int)] [] ?_
  refine xe (xN (zA (zB (xq 1 [yJ 46 (IntKind.i64.wrap ((k:Int)+1))] [] ?_))))
  rw[yW ((k:Int)+1) (((k+1:Nat):Int)) qO]
  refine xq 1 [yJ 22 ((k+1:Nat):Int)] [] ?_
  refine xe ?_
  refine yP [eS1 0 p a.length r,eS1 1 q n.length D,eS1 4 none 0 0,eS1 5 (yL b) (a.length+1) (a.length+1),yU 6 (((xD m 0 g):Nat):Int),yJ 21 ((a.length:Nat):Int),yJ 22 (((k+1):Nat):Int)] [] (fun w=>(Box (fun j=>b≤j) w (fun w=>(zF .u64 w p (a)∧zF .u64 w q (n)))∧Own .u64 141 w b (((C).set (k) (zX m 0 g))))) (fun w Q=>⟨Q.1,Q.2⟩) ?_
  have Z:=L.step (k:=k) qO G (y:=0) (by rw[vI qO];rfl) hu hv
  exact xE ((a.length-(k+1))) qO ⟨(xD m 0 g),(k+1),((C).set (k) (zX m 0 g)),rfl,rfl,Z,qO,rfl⟩
 have I:=uB v
 obtain rfl:k=a.length:=qO
 have Y:=L.1
 have HD:=L.done h1
 refine xL (zH (zH (xT (zA (yY (xq 4 [eS1 47 (yL b) (a.length+1) (a.length+1),yJ 49 ((a.length:Nat):Int),yU 50 (g:Int)] [] ?_))))))
 refine xqk 51 (.pointer (some ⟨b,a.length,none⟩)) (fun w R Q=>lT (t:=107) (e:=141) (x:=.tmp 47) (ix:=.tmp 49) (len:=(a.length+1)) (cap:=(a.length+1)) (i:=a.length) qO) ?_
 refine jD (t:=141) (x:=.tmp 51) (y:=.tmp 50) b (a.length) (g) (fun w=>(Box (fun j=>b≤j) w (fun w=>(zF .u64 w p (a)∧zF .u64 w q (n)))∧Own .u64 141 w b ((C).set (a.length) (g)))) (fun w Q=>Q.2) qO (Or.inl u) (fun w w' Q S T=>⟨((Q.1).fr (S.mono (fun _ _ e=>by rw[e];exact uG _))),T⟩) ?_
 refine yZ (yY (xq 1 [eS1 52 (yL b) (a.length+1) (a.length+1)] [] ?_))
 refine xqc 144 [.slice (yL b) (a.length+1) (a.length+1)] 53 xC _ (fun w R Q=>yM zV (bK Q.2 HD.2.1 HD.1 (HD.2.2.trans O) qO)) fun⟨U,V,W⟩=>?_
 refine xq 1 [eS1 4 U V W] [] ?_
 refine yZ (zG ?_)
 refine yR (.slice U V W) fun w' R Q=>?_
 exact⟨_,rfl,Q.2,R⟩
theorem Zjh (A n:qA)(xs ys:qN)(c s:Nat)(w:World)(hX:zF .u64 w A xs)(hY:zF .u64 w n ys)(hl:xs.length≤4294967296)(a0:ys.length≤4294967296)(T:Dig W64 xs)(U:Dig W64 ys) :
 yA 143 #[.slice A xs.length c,.slice n ys.length s] w (wM w (val W64 xs*val W64 ys)):=by
 refine zQ (Φ:=fun w=>(zF .u64 w A xs∧zF .u64 w n ys)) func143 rfl qK (fun w' hf=>⟨hX.ext hf,hY.ext hf⟩) ?_
 refine yY (xq 1 [eS1 4 none 0 0] [] ?_)
 refine yZ (yY (xq 5 [yJ 18 (IntKind.i64.wrap (((xs.length:Nat):Int)+((ys.length:Nat):Int)))] [] ?_))
 rw[yW (((xs.length:Nat):Int)+((ys.length:Nat):Int)) (((xs.length+(ys.length):Nat):Int)) qO]
 refine Zbw (d:=19) (t:=107) (e:=141) (k:=.u64) (kl:=.i64) (kc:=.i64) (l:=.tmp 18) (c:=.tmp 18) (xs.length+(ys.length)) 8 qO qD fun h D _=>?_
 refine xr 1 [eS1 0 A xs.length c,eS1 1 n ys.length s,eS1 4 none 0 0,eS1 5 (yL h) (xs.length+(ys.length)) (xs.length+(ys.length))] [] ?_
 refine yZ (zC (yY (xq 3 [eS1 20 A xs.length c,yJ 21 ((xs.length:Nat):Int),yJ 22 0] [] ?_)))
 refine yZ (zO ?_)
 refine yC [eS1 1 n ys.length s,eS1 4 none 0 0,eS1 5 (yL h) (xs.length+(ys.length)) (xs.length+(ys.length)),eS1 20 A xs.length c,yJ 21 ((xs.length:Nat):Int),yJ 22 ((0:Nat):Int)] [] (fun w=>(Box (fun j=>h≤j) w (fun w=>(zF .u64 w A (xs)∧zF .u64 w n (ys)))∧Own .u64 141 w h ((List.replicate (xs.length+(ys.length)) 0)))) (fun w Q=>⟨Q.1,Q.2⟩) ?_
 refine xQ (fun K L M=>∃ (i:Nat) (J:List Nat),L=ofL [eS1 1 n ys.length s,eS1 4 none 0 0,eS1 5 (yL h) (xs.length+(ys.length)) (xs.length+(ys.length)),eS1 20 A xs.length c,yJ 21 ((xs.length:Nat):Int),yJ 22 (i:Int)] []∧M=(fun w=>(Box (fun j=>h≤j) w (fun w=>(zF .u64 w A (xs)∧zF .u64 w n (ys)))∧Own .u64 141 w h (J)))∧(TimR xs ys i J)∧(i≤xs.length)∧K=(xs.length-i)) ((xs.length-0)) ⟨0,(List.replicate (xs.length+(ys.length)) 0),rfl,rfl,TimR.start xs ys,qO,rfl⟩ ?_
 rintro K L M ⟨i,J,rfl,rfl,F,hi,rfl⟩
 refine yY (xq 1 [yB 23 (decide ((i:Int)<((xs.length:Nat):Int)))] [] ?_)
 refine yZ (zC ?_)
 refine yQ ((decide ((i:Int)<((xs.length:Nat):Int)))) (fun z=>?_) fun z=>?_
 ·have G:=uA z
  have V:=F.1
  refine zJ (zA (zC (zO (yY (xq 1 [yJ 24 (i:Int)] [] ?_)))))
  refine xqk 25 (atA A i) (fun w R Q=>xW (t:=107) (e:=141) (x:=.tmp 20) (ix:=.tmp 22) (len:=xs.length) (cap:=c) (i:=i) (((Q.1).self.1).ne (j:=i) qO) qO) ?_
  obtain⟨f,q⟩:=yE (xs[i]?.getD 0)
  refine xqk 26 (yX (f:Int)) (fun w R Q=>by rw[←q];exact wV (t:=141) (x:=.tmp 25) ((Q.1).self.1) (j:=i) qO) ?_
  refine xq 2 [yJ 6 (i:Int),yU 7 (f:Int)] [] ?_
  refine yZ (yY (xq 1 [yU 8 0] [] ?_))
  refine yZ (zC (yY (xq 3 [eS1 27 n ys.length s,yJ 28 ((ys.length:Nat):Int),yJ 29 0] [] ?_)))
  refine yZ (zO ?_)
  refine yC [eS1 1 n ys.length s,eS1 4 none 0 0,eS1 5 (yL h) (xs.length+(ys.length)) (xs.length+(ys.length)),yJ 6 (i:Int),yU 7 (f:Int),yU 8 ((0:Nat):Int),eS1 20 A xs.length c,yJ 21 ((xs.length:Nat):Int),yJ 22 (i:Int),eS1 27 n ys.length s,yJ 28 ((ys.length:Nat):Int),yJ 29 ((0:Nat):Int)] [] (fun w=>(Box (fun j=>h≤j) w (fun w=>(zF .u64 w A (xs)∧zF .u64 w n (ys)))∧Own .u64 141 w h (J))) (fun w Q=>⟨Q.1,Q.2⟩) ?_
  refine xQ (fun K L M=>∃ (p k:Nat) (C:List Nat),L=ofL [eS1 1 n ys.length s,eS1 4 none 0 0,eS1 5 (yL h) (xs.length+(ys.length)) (xs.length+(ys.length)),yJ 6 (i:Int),yU 7 (f:Int),yU 8 (p:Int),eS1 20 A xs.length c,yJ 21 ((xs.length:Nat):Int),yJ 22 (i:Int),eS1 27 n ys.length s,yJ 28 ((ys.length:Nat):Int),yJ 29 (k:Int)] []∧M=(fun w=>(Box (fun j=>h≤j) w (fun w=>(zF .u64 w A (xs)∧zF .u64 w n (ys)))∧Own .u64 141 w h (C)))∧(TimI J ys f i k C p)∧(k≤ys.length)∧K=(ys.length-k)) ((ys.length-0)) ⟨0,0,J,rfl,rfl,TimI.start ys f i F.2.1,qO,rfl⟩ ?_
  rintro K L M ⟨p,k,C,rfl,rfl,E,hk,rfl⟩
  refine yY (xq 1 [yB 30 (decide ((k:Int)<((ys.length:Nat):Int)))] [] ?_)
  refine yZ (zC ?_)
  refine yQ ((decide ((k:Int)<((ys.length:Nat):Int)))) (fun B=>?_) fun B=>?_
  ·have H:=uA B
   have W:=E.1
   have I:=E.2.2.1
   refine zJ (zA (zC (zO (yY (xq 1 [yJ 31 (k:Int)] [] ?_)))))
   refine xqk 32 (atA n k) (fun w R Q=>xW (t:=107) (e:=141) (x:=.tmp 27) (ix:=.tmp 29) (len:=ys.length) (cap:=s) (i:=k) (((Q.1).self.2).ne (j:=k) qO) qO) ?_
   obtain⟨g,r⟩:=yE (ys[k]?.getD 0)
   refine xqk 33 (yX (g:Int)) (fun w R Q=>by rw[←r];exact wV (t:=141) (x:=.tmp 32) ((Q.1).self.2) (j:=k) qO) ?_
   refine xq 2 [yJ 9 (k:Int),yU 10 (g:Int)] [] ?_
   refine yZ (yY (xq 2 [yU 35 (f:Int),yU 36 (g:Int)] [] ?_))
   refine xqc 161 [yX (f:Int), yX (g:Int)] 37 (fun _:Unit=>.tuple #[yX ((xV f g:Nat):Int), yX ((zT f g:Nat):Int)]) _ (fun w R Q=>yN (Zcq f g _ (by rw[←q];exact T.getD zI _) (by rw[←r];exact U.getD zI _))) fun xx=>?_
   refine xq 5 [yU 11 ((xV f g:Nat):Int),yU 12 ((zT f g:Nat):Int)] [] ?_
   refine yZ (yY (xq 5 [yU 41 ((zT f g:Nat):Int),eS1 42 (yL h) (xs.length+(ys.length)) (xs.length+(ys.length)),yJ 45 (IntKind.i64.wrap ((i:Int)+(k:Int)))] [] ?_))
   rw[yW ((i:Int)+(k:Int)) (((i+k:Nat):Int)) qO]
   refine xqk 46 (.pointer (some ⟨h,i+k,none⟩)) (fun w R Q=>lT (t:=107) (e:=141) (x:=.tmp 42) (ix:=.tmp 45) (len:=(xs.length+(ys.length))) (cap:=(xs.length+(ys.length))) (i:=i+k) qO) ?_
   obtain⟨m,u⟩:=yE (C[i+k]?.getD 0)
   refine xqk 47 (yX (m:Int)) (fun w R Q=>by rw[←u];exact iG (t:=141) (x:=.tmp 46) (Q.1.2) (j:=i+k) qO) ?_
   refine xqk 48 (.tuple #[yX ((zX (zT f g) m 0:Nat):Int), yX ((xD (zT f g) m 0:Nat):Int)]) (fun w R Q=>gG (args:=[Operand.tmp 41,Operand.tmp 47,Operand.const (Value.int IntKind.u64 0)]) (ts:=#[141,141,141]) (iN (zT f g) m 0 qO w)) ?_
   refine xq 5 [yU 12 ((zX (zT f g) m 0:Nat):Int),yU 13 ((xD (zT f g) m 0:Nat):Int)] [] ?_
   refine yZ (yY (xq 3 [(53,.v (yX (IntKind.u64.wrap (((xV f g:Nat):Int)+((xD (zT f g) m 0:Nat):Int)))))] [] ?_))
   rw[Zef (a:=xV f g) (b:=xD (zT f g) m 0) (ZoX (by rw[←u];exact E.2.1.getD zI _) (by rw[←q];exact T.getD zI _) (by rw[←r];exact U.getD zI _) I)]
   refine xq 1 [yU 11 ((xV f g+xD (zT f g) m 0:Nat):Int)] [] ?_
   refine yZ (yY (xq 4 [eS1 55 (yL h) (xs.length+(ys.length)) (xs.length+(ys.length)),yJ 58 (IntKind.i64.wrap ((i:Int)+(k:Int)))] [] ?_))
   rw[yW ((i:Int)+(k:Int)) (((i+k:Nat):Int)) qO]
   refine xq 2 [yU 59 ((zX (zT f g) m 0:Nat):Int),yU 60 (p:Int)] [] ?_
   refine xqk 61 (.tuple #[yX ((zX (zX (zT f g) m 0) p 0:Nat):Int), yX ((xD (zX (zT f g) m 0) p 0:Nat):Int)]) (fun w R Q=>gG (args:=[Operand.tmp 59,Operand.tmp 60,Operand.const (Value.int IntKind.u64 0)]) (ts:=#[141,141,141]) (iN (zX (zT f g) m 0) p 0 qO w)) ?_
   refine xq 3 [yU 62 ((zX (zX (zT f g) m 0) p 0:Nat):Int),yU 63 ((xD (zX (zT f g) m 0) p 0:Nat):Int)] [] ?_
   refine xqk 64 (.pointer (some ⟨h,i+k,none⟩)) (fun w R Q=>lT (t:=107) (e:=141) (x:=.tmp 55) (ix:=.tmp 58) (len:=(xs.length+(ys.length))) (cap:=(xs.length+(ys.length))) (i:=i+k) qO) ?_
   refine jD (t:=141) (x:=.tmp 64) (y:=.tmp 62) h (i+k) (zX (zX (zT f g) m 0) p 0) (fun w=>((Box (fun j=>h≤j) w (fun w=>(zF .u64 w A (xs)∧zF .u64 w n (ys)))∧Own .u64 141 w h ((C).set (i+k) (zX (zX (zT f g) m 0) p 0)))∧True)) (fun w Q=>Q.1.2) qO (Or.inl D) (fun w w' Q X Y=>⟨⟨((Q.1.1).fr (X.mono (fun _ _ e=>by rw[e];exact uG _))),Y⟩,trivial⟩) ?_
   refine xr 1 [eS1 1 n ys.length s,eS1 4 none 0 0,eS1 5 (yL h) (xs.length+(ys.length)) (xs.length+(ys.length)),yJ 6 (i:Int),yU 7 (f:Int),yU 8 (p:Int),yU 11 ((xV f g+xD (zT f g) m 0:Nat):Int),yU 13 ((xD (zX (zT f g) m 0) p 0:Nat):Int),eS1 20 A xs.length c,yJ 21 ((xs.length:Nat):Int),yJ 22 (i:Int),eS1 27 n ys.length s,yJ 28 ((ys.length:Nat):Int),yJ 29 (k:Int)] [] ?_
   refine yZ (zB (xq 3 [(67,.v (yX (IntKind.u64.wrap (((xV f g+xD (zT f g) m 0:Nat):Int)+((xD (zX (zT f g) m 0) p 0:Nat):Int)))))] [] ?_))
   rw[Zef (a:=xV f g+xD (zT f g) m 0) (b:=xD (zX (zT f g) m 0) p 0) (ZgK (by rw[←u];exact E.2.1.getD zI _) (by rw[←q];exact T.getD zI _) (by rw[←r];exact U.getD zI _) I)]
   refine xq 1 [yU 8 ((xV f g+xD (zT f g) m 0+xD (zX (zT f g) m 0) p 0:Nat):Int)] [] ?_
   refine xe (xN (zA (zB (xq 1 [yJ 68 (IntKind.i64.wrap ((k:Int)+1))] [] ?_))))
   rw[yW ((k:Int)+1) (((k+1:Nat):Int)) qO]
   refine xq 1 [yJ 29 ((k+1:Nat):Int)] [] ?_
   refine xe ?_
   refine yP [eS1 1 n ys.length s,eS1 4 none 0 0,eS1 5 (yL h) (xs.length+(ys.length)) (xs.length+(ys.length)),yJ 6 (i:Int),yU 7 (f:Int),(8,.v (yX (((xV f g+xD (zT f g) m 0+xD (zX (zT f g) m 0) p 0):Nat):Int))),eS1 20 A xs.length c,yJ 21 ((xs.length:Nat):Int),yJ 22 (i:Int),eS1 27 n ys.length s,yJ 28 ((ys.length:Nat):Int),yJ 29 (((k+1):Nat):Int)] [] (fun w=>(Box (fun j=>h≤j) w (fun w=>(zF .u64 w A (xs)∧zF .u64 w n (ys)))∧Own .u64 141 w h (((C).set (i+k) (zX (zX (zT f g) m 0) p 0))))) (fun w Q=>⟨Q.1.1,Q.1.2⟩) ?_
   have Z:=E.step (k:=k) qO u r U (by rw[←q];exact T.getD zI _)
   exact xE ((ys.length-(k+1))) qO ⟨(xV f g+xD (zT f g) m 0+xD (zX (zT f g) m 0) p 0),(k+1),((C).set (i+k) (zX (zX (zT f g) m 0) p 0)),rfl,rfl,Z,qO,rfl⟩
  have H:=uB B
  have W:=E.1
  have I:=E.2.2.1
  obtain rfl:k=ys.length:=qO
  refine xL (zH (zH (xT (zA (zB (xq 5 [eS1 69 (yL h) (xs.length+(ys.length)) (xs.length+(ys.length)),yJ 73 (IntKind.i64.wrap ((i:Int)+((ys.length:Nat):Int)))] [] ?_))))))
  rw[yW ((i:Int)+((ys.length:Nat):Int)) (((i+(ys.length):Nat):Int)) qO]
  refine xq 1 [yU 74 (p:Int)] [] ?_
  refine xqk 75 (.pointer (some ⟨h,i+(ys.length),none⟩)) (fun w R Q=>lT (t:=107) (e:=141) (x:=.tmp 69) (ix:=.tmp 73) (len:=(xs.length+(ys.length))) (cap:=(xs.length+(ys.length))) (i:=i+(ys.length)) qO) ?_
  refine jD (t:=141) (x:=.tmp 75) (y:=.tmp 74) h (i+(ys.length)) (p) (fun w=>(Box (fun j=>h≤j) w (fun w=>(zF .u64 w A (xs)∧zF .u64 w n (ys)))∧Own .u64 141 w h ((C).set (i+(ys.length)) (p)))) (fun w Q=>Q.2) qO (Or.inl D) (fun w w' Q X Y=>⟨((Q.1).fr (X.mono (fun _ _ e=>by rw[e];exact uG _))),Y⟩) ?_
  refine xe (xN (zA (zB (xq 1 [yJ 76 (IntKind.i64.wrap ((i:Int)+1))] [] ?_))))
  rw[yW ((i:Int)+1) (((i+1:Nat):Int)) qO]
  refine xq 1 [yJ 22 ((i+1:Nat):Int)] [] ?_
  refine xe ?_
  refine yP [eS1 1 n ys.length s,eS1 4 none 0 0,eS1 5 (yL h) (xs.length+(ys.length)) (xs.length+(ys.length)),eS1 20 A xs.length c,yJ 21 ((xs.length:Nat):Int),yJ 22 (((i+1):Nat):Int)] [] (fun w=>(Box (fun j=>h≤j) w (fun w=>(zF .u64 w A (xs)∧zF .u64 w n (ys)))∧Own .u64 141 w h (((C).set (i+(ys.length)) (p))))) (fun w Q=>⟨Q.1,Q.2⟩) ?_
  have Z:=F.step (i:=i) qO q E
  exact xE ((xs.length-(i+1))) qO ⟨(i+1),((C).set (i+(ys.length)) (p)),rfl,rfl,Z,qO,rfl⟩
 have G:=uB z
 have V:=F.1
 obtain rfl:i=xs.length:=qO
 refine xL (zH (zH (xT (zA (yY (xq 1 [eS1 77 (yL h) (xs.length+(ys.length)) (xs.length+(ys.length))] [] ?_))))))
 refine xqc 144 [.slice (yL h) (xs.length+(ys.length)) (xs.length+(ys.length))] 78 xC _ (fun w R Q=>yM zV (bK Q.2 F.2.1 F.1 F.done qO)) fun⟨N,O,S⟩=>?_
 refine xq 1 [eS1 4 N O S] [] ?_
 refine yZ (zG ?_)
 refine yR (.slice N O S) fun w' R Q=>?_
 exact⟨_,rfl,Q.2,R⟩
theorem Zny (A:qA)(xs:qN)(c k:Nat)(w:World)(T:zD w (.slice A xs.length c) (val W64 xs))(U:zF .u64 w A xs)(X:xs.length≤4294967296)(V:Dig W64 xs)(Y:k≤274877906944) :
 yA 101 #[.slice A xs.length c,.int .i64 ((k:Nat):Int)] w (wM w (val W64 xs*2^k)):=by
 refine zQ (Φ:=fun w=>(zD w (.slice A xs.length c) (val W64 xs)∧zF .u64 w A xs)) func101 rfl qK (fun w' L=>⟨T.ext L,U.ext L⟩) ?_
 refine yY (xq 1 [eS1 4 none 0 0] [] ?_)
 refine yZ (zC (yY (xq 4 [yB 13 ((((xs.length:Nat):Int):Int) == 0)] [] ?_)))
 rcases bl2 (((((xs.length:Nat):Int):Int) == 0)) with h|h
 ·rw[h]
  have C:=tG.1 h
  refine xq 3 [yB 16 true] [] ?_
  refine yZ (xa (yY (xq 2 [eS1 4 A xs.length c] [] ?_)))
  refine yZ (zG (zK ?_))
  refine yR (.slice A xs.length c) fun w' R Q=>?_
  exact⟨_,rfl,(by obtain rfl:xs=[]:=tN.1 qO;rw[gV,sM];exact Q.1),R⟩
 rw[h]
 have C:=wF h
 refine xq 3 [yB 16 (((k:Int):Int) == 0)] [] ?_
 refine xe (zA ?_)
 refine yQ ((((k:Int):Int) == 0)) (fun q=>?_) fun q=>?_
 ·have D:=tG.1 q
  refine yY (xq 2 [eS1 4 A xs.length c] [] ?_)
  refine yZ (zG (zK ?_))
  refine yR (.slice A xs.length c) fun w' R Q=>?_
  exact⟨_,rfl,(by obtain rfl:k=0:=qO;rw[vT,tP];exact Q.1),R⟩
 have D:=wF q
 refine zJ (zA (yY (xq 2 [(19,.v (yI (IntKind.i64.wrap (((k:Int)).tdiv 64))))] [] ?_)))
 rw[show IntKind.i64.wrap ((((k:Int)).tdiv 64))=((k/64:Nat):Int) from tdq (k) 64 qO]
 refine xq 2 [yJ 21 (((k:Int)).tmod 64)] [] ?_
 rw[show ((k:Int)).tmod 64=((k%64:Nat):Int) from tdr (k) 64]
 refine xq 1 [yU 22 (IntKind.u64.wrap (((k%64:Nat):Int)))] [] ?_
 rw[show IntKind.u64.wrap (((k%64:Nat):Int))=((k%64:Nat):Int) by rw[IntKind.wrap_u64];omega]
 refine xq 2 [yJ 5 ((k/64:Nat):Int),yU 6 ((k%64:Nat):Int)] [] ?_
 refine yZ (yY (xq 4 [yJ 26 (IntKind.i64.wrap (((xs.length:Nat):Int)+((k/64:Nat):Int)))] [] ?_))
 rw[yW (((xs.length:Nat):Int)+((k/64:Nat):Int)) (((xs.length+(k/64):Nat):Int)) qO]
 refine xq 1 [(27,.v (yI (IntKind.i64.wrap (((xs.length+(k/64):Nat):Int)+1))))] [] ?_
 rw[show IntKind.i64.wrap ((((xs.length+(k/64):Nat):Int)+1))=((xs.length+(k/64)+1:Nat):Int) by rw[IntKind.wrap_i64];omega]
 refine Zbw (d:=28) (t:=107) (e:=141) (k:=.u64) (kl:=.i64) (kc:=.i64) (l:=.tmp 27) (c:=.tmp 27) (xs.length+(k/64)+1) 8 qO qD fun f u _=>?_
 refine xr 1 [eS1 0 A xs.length c,eS1 4 none 0 0,yJ 5 ((k/64:Nat):Int),yU 6 ((k%64:Nat):Int),eS1 7 (yL f) (xs.length+(k/64)+1) (xs.length+(k/64)+1)] [] ?_
 refine yZ (zC (yY (xq 3 [eS1 29 A xs.length c,yJ 30 ((xs.length:Nat):Int),yJ 31 0] [] ?_)))
 refine yZ (zO ?_)
 refine yC [eS1 4 none 0 0,yJ 5 ((k/64:Nat):Int),yU 6 ((k%64:Nat):Int),eS1 7 (yL f) (xs.length+(k/64)+1) (xs.length+(k/64)+1),eS1 29 A xs.length c,yJ 30 ((xs.length:Nat):Int),yJ 31 ((0:Nat):Int)] [] (fun w=>(Box (fun j=>f≤j) w (fun w=>(zD w (.slice A xs.length c) (val W64 xs)∧zF .u64 w A (xs)))∧Own .u64 141 w f ((List.replicate (xs.length+(k/64)+1) 0)))) (fun w Q=>⟨Q.1,Q.2⟩) ?_
 refine xQ (fun M N O=>∃ (i:Nat) (z:List Nat),N=ofL [eS1 4 none 0 0,yJ 5 ((k/64:Nat):Int),yU 6 ((k%64:Nat):Int),eS1 7 (yL f) (xs.length+(k/64)+1) (xs.length+(k/64)+1),eS1 29 A xs.length c,yJ 30 ((xs.length:Nat):Int),yJ 31 (i:Int)] []∧O=(fun w=>(Box (fun j=>f≤j) w (fun w=>(zD w (.slice A xs.length c) (val W64 xs)∧zF .u64 w A (xs)))∧Own .u64 141 w f (z)))∧(fG xs (k/64) (k%64) i z)∧(i≤xs.length)∧M=(xs.length-i)) ((xs.length-0)) ⟨0,(List.replicate (xs.length+(k/64)+1) 0),rfl,rfl,fG.start xs (k/64) (k%64),qO,rfl⟩ ?_
 rintro M N O ⟨i,z,rfl,rfl,B,hi,rfl⟩
 refine yY (xq 1 [yB 32 (decide ((i:Int)<((xs.length:Nat):Int)))] [] ?_)
 refine yZ (zC ?_)
 refine yQ ((decide ((i:Int)<((xs.length:Nat):Int)))) (fun r=>?_) fun r=>?_
 ·have E:=uA r
  have I:=B.1
  refine zJ (zA (zC (zO (yY (xq 1 [yJ 33 (i:Int)] [] ?_)))))
  refine xqk 34 (atA A i) (fun w R Q=>xW (t:=107) (e:=141) (x:=.tmp 29) (ix:=.tmp 31) (len:=xs.length) (cap:=c) (i:=i) (((Q.1).self.2).ne (j:=i) qO) qO) ?_
  obtain⟨g,s⟩:=yE (xs[i]?.getD 0)
  refine xqk 35 (yX (g:Int)) (fun w R Q=>by rw[←s];exact wV (t:=141) (x:=.tmp 34) ((Q.1).self.2) (j:=i) qO) ?_
  refine xq 2 [yJ 8 (i:Int),yU 9 (g:Int)] [] ?_
  refine yZ (yY (xq 4 [eS1 36 (yL f) (xs.length+(k/64)+1) (xs.length+(k/64)+1),yJ 39 (IntKind.i64.wrap ((i:Int)+((k/64:Nat):Int)))] [] ?_))
  rw[yW ((i:Int)+((k/64:Nat):Int)) (((i+(k/64):Nat):Int)) qO]
  refine xqk 40 (.pointer (some ⟨f,i+(k/64),none⟩)) (fun w R Q=>lT (t:=107) (e:=141) (x:=.tmp 36) (ix:=.tmp 39) (len:=(xs.length+(k/64)+1)) (cap:=(xs.length+(k/64)+1)) (i:=i+(k/64)) qO) ?_
  obtain⟨m,p⟩:=yE (z[i+(k/64)]?.getD 0)
  refine xqk 41 (yX (m:Int)) (fun w R Q=>by rw[←p];exact iG (t:=141) (x:=.tmp 40) (Q.2) (j:=i+(k/64)) qO) ?_
  refine xq 2 [yU 42 (g:Int),yU 43 ((k%64:Nat):Int)] [] ?_
  refine xqk 44 (yX ((g*2^(k%64)%W64:Nat):Int)) (fun w R Q=>Zkv (t:=141) (x:=.tmp 42) (y:=.tmp 43) (k:=135) (ky:=.u64) (a:=g) (n:=(k%64)) qO) ?_
  have W:=B.step (k:=i) qO qO p s (by rw[←s];exact V.getD zI _)
  refine xqk 45 (yX ((m+g*2^(k%64)%W64:Nat):Int)) (fun w R Q=>Zm1 (t:=141) (x:=.tmp 41) (y:=.tmp 44) (k:=141) (a:=m) (b:=(g*2^(k%64)%W64)) (by rw[←p];exact B.2.1.getD zI _) (uP _ zI) (Zj6 (by rw[←p];exact B.2.2.2) qO)) ?_
  refine xqk 46 (.pointer (some ⟨f,i+(k/64),none⟩)) (fun w R Q=>lT (t:=107) (e:=141) (x:=.tmp 36) (ix:=.tmp 39) (len:=(xs.length+(k/64)+1)) (cap:=(xs.length+(k/64)+1)) (i:=i+(k/64)) qO) ?_
  refine jD (t:=141) (x:=.tmp 46) (y:=.tmp 45) f (i+(k/64)) (m+g*2^(k%64)%W64) (fun w=>(Box (fun j=>f≤j) w (fun w=>(zD w (.slice A xs.length c) (val W64 xs)∧zF .u64 w A (xs)))∧Own .u64 141 w f ((z).set (i+(k/64)) (m+g*2^(k%64)%W64)))) (fun w Q=>Q.2) qO (Or.inl u) (fun w w' Q J K=>⟨((Q.1).fr (J.mono (fun _ _ e=>by rw[e];exact uG _))),K⟩) ?_
  refine yZ (zB (xq 4 [eS1 47 (yL f) (xs.length+(k/64)+1) (xs.length+(k/64)+1),yJ 50 (IntKind.i64.wrap ((i:Int)+((k/64:Nat):Int)))] [] ?_))
  rw[yW ((i:Int)+((k/64:Nat):Int)) (((i+(k/64):Nat):Int)) qO]
  refine xq 1 [(51,.v (yI (IntKind.i64.wrap (((i+(k/64):Nat):Int)+1))))] [] ?_
  rw[show IntKind.i64.wrap ((((i+(k/64):Nat):Int)+1))=((i+(k/64)+1:Nat):Int) by rw[IntKind.wrap_i64];omega]
  refine xq 3 [yU 52 (g:Int),yU 54 (IntKind.u64.wrap (64-((k%64:Nat):Int)))] [] ?_
  rw[show IntKind.u64.wrap ((64-((k%64:Nat):Int)))=((64-(k%64):Nat):Int) by rw[IntKind.wrap_u64];have:=zR;omega]
  refine xqk 55 (yX ((g/2^(64-(k%64)):Nat):Int)) (fun w R Q=>ZgJ (t:=141) (x:=.tmp 52) (y:=.tmp 54) (k:=135) (ky:=.u64) (a:=g) (n:=(64-(k%64))) qO) ?_
  refine xqk 56 (.pointer (some ⟨f,i+(k/64)+1,none⟩)) (fun w R Q=>lT (t:=107) (e:=141) (x:=.tmp 47) (ix:=.tmp 51) (len:=(xs.length+(k/64)+1)) (cap:=(xs.length+(k/64)+1)) (i:=i+(k/64)+1) qO) ?_
  refine jD (t:=141) (x:=.tmp 56) (y:=.tmp 55) f (i+(k/64)+1) (g/2^(64-(k%64))) (fun w=>(Box (fun j=>f≤j) w (fun w=>(zD w (.slice A xs.length c) (val W64 xs)∧zF .u64 w A (xs)))∧Own .u64 141 w f (((z).set (i+(k/64)) (m+g*2^(k%64)%W64)).set (i+(k/64)+1) (g/2^(64-(k%64)))))) (fun w Q=>Q.2) (by simp only[sS];omega) (Or.inl u) (fun w w' Q J K=>⟨((Q.1).fr (J.mono (fun _ _ e=>by rw[e];exact uG _))),K⟩) ?_
  refine xe (xN (zA (zB (xq 1 [yJ 57 (IntKind.i64.wrap ((i:Int)+1))] [] ?_))))
  rw[yW ((i:Int)+1) (((i+1:Nat):Int)) qO]
  refine xq 1 [yJ 31 ((i+1:Nat):Int)] [] ?_
  refine xe ?_
  refine yP [eS1 4 none 0 0,yJ 5 ((k/64:Nat):Int),yU 6 ((k%64:Nat):Int),eS1 7 (yL f) (xs.length+(k/64)+1) (xs.length+(k/64)+1),eS1 29 A xs.length c,yJ 30 ((xs.length:Nat):Int),yJ 31 (((i+1):Nat):Int)] [] (fun w=>(Box (fun j=>f≤j) w (fun w=>(zD w (.slice A xs.length c) (val W64 xs)∧zF .u64 w A (xs)))∧Own .u64 141 w f ((((z).set (i+(k/64)) (m+g*2^(k%64)%W64)).set (i+(k/64)+1) (g/2^(64-(k%64))))))) (fun w Q=>⟨Q.1,Q.2⟩) ?_
  exact xE ((xs.length-(i+1))) qO ⟨(i+1),(((z).set (i+(k/64)) (m+g*2^(k%64)%W64)).set (i+(k/64)+1) (g/2^(64-(k%64)))),rfl,rfl,W.1,qO,rfl⟩
 have E:=uB r
 have I:=B.1
 obtain rfl:i=xs.length:=qO
 have S:=B.done
 rw[show 64*(k/64)+k%64=k by omega] at S
 refine xL (zH (zH (xT (zA (yY (xq 1 [eS1 58 (yL f) (xs.length+(k/64)+1) (xs.length+(k/64)+1)] [] ?_))))))
 refine xqc 144 [.slice (yL f) (xs.length+(k/64)+1) (xs.length+(k/64)+1)] 59 xC _ (fun w R Q=>yM zV (bK Q.2 B.2.1 B.1 S qO)) fun⟨F,G,H⟩=>?_
 refine xq 1 [eS1 4 F G H] [] ?_
 refine yZ (zG ?_)
 refine yR (.slice F G H) fun w' R Q=>?_
 exact⟨_,rfl,Q.2,R⟩
theorem Zkx (A:qA)(xs:qN)(c k:Nat)(w:World)(Y:zD w (.slice A xs.length c) (val W64 xs))(Z:zF .u64 w A xs)(hl:xs.length≤4294967296)(H:Dig W64 xs)(hk:k≤274877906944) :
 yA 140 #[.slice A xs.length c,.int .i64 ((k:Nat):Int)] w (wM w (val W64 xs/2^k)):=by
 refine zQ (Φ:=fun w=>(zD w (.slice A xs.length c) (val W64 xs)∧zF .u64 w A xs)) func140 rfl qK (fun w' U=>⟨Y.ext U,Z.ext U⟩) ?_
 refine yY (xq 1 [eS1 4 none 0 0] [] ?_)
 refine yZ (yY (xq 2 [(10,.v (yI (IntKind.i64.wrap (((k:Int)).tdiv 64))))] [] ?_))
 rw[show IntKind.i64.wrap ((((k:Int)).tdiv 64))=((k/64:Nat):Int) from tdq (k) 64 qO]
 refine xq 2 [yJ 12 (((k:Int)).tmod 64)] [] ?_
 rw[show ((k:Int)).tmod 64=((k%64:Nat):Int) from tdr (k) 64]
 refine xq 1 [yU 13 (IntKind.u64.wrap (((k%64:Nat):Int)))] [] ?_
 rw[show IntKind.u64.wrap (((k%64:Nat):Int))=((k%64:Nat):Int) by rw[IntKind.wrap_u64];omega]
 refine xq 2 [yJ 5 ((k/64:Nat):Int),yU 6 ((k%64:Nat):Int)] [] ?_
 refine yZ (zC (yY (xq 4 [yB 17 (decide (((k/64:Nat):Int)≥((xs.length:Nat):Int)))] [] ?_)))
 refine xe (zA ?_)
 refine yQ ((decide (((k/64:Nat):Int)≥((xs.length:Nat):Int)))) (fun q=>?_) fun q=>?_
 ·have D:=uA q
  refine yY (xq 1 [eS1 4 none 0 0] [] ?_)
  refine yZ (zG (zK ?_))
  refine yR (.slice none 0 0) fun w' R Q=>?_
  exact⟨_,rfl,by rw[Zdp H qO];exact zD.zero _,R⟩
 have D:=uB q
 refine zJ (zA (zC (yY (xq 2 [yB 19 (((k:Int):Int) == 0)] [] ?_))))
 refine xe (zA ?_)
 refine yQ ((((k:Int):Int) == 0)) (fun r=>?_) fun r=>?_
 ·have E:=tG.1 r
  refine yY (xq 2 [eS1 4 A xs.length c] [] ?_)
  refine yZ (zG (zK ?_))
  refine yR (.slice A xs.length c) fun w' R Q=>?_
  exact⟨_,rfl,by obtain rfl:k=0:=qO;rw[vT,rG];exact Q.1,R⟩
 have E:=wF r
 refine zJ (zA (yY (xq 4 [yJ 24 (IntKind.i64.wrap (((xs.length:Nat):Int)-((k/64:Nat):Int)))] [] ?_)))
 rw[yW (((xs.length:Nat):Int)-((k/64:Nat):Int)) (((xs.length-(k/64):Nat):Int)) qO]
 refine Zbw (d:=25) (t:=107) (e:=141) (k:=.u64) (kl:=.i64) (kc:=.i64) (l:=.tmp 24) (c:=.tmp 24) (xs.length-(k/64)) 8 qO qD fun f z _=>?_
 refine xr 1 [eS1 0 A xs.length c,eS1 4 none 0 0,yJ 5 ((k/64:Nat):Int),yU 6 ((k%64:Nat):Int),eS1 7 (yL f) (xs.length-(k/64)) (xs.length-(k/64))] [] ?_
 refine yZ (zC (yY (xq 3 [yJ 27 ((xs.length-(k/64):Nat):Int),yJ 28 0] [] ?_)))
 refine yZ (zO ?_)
 refine yC [eS1 0 A xs.length c,eS1 4 none 0 0,yJ 5 ((k/64:Nat):Int),yU 6 ((k%64:Nat):Int),eS1 7 (yL f) (xs.length-(k/64)) (xs.length-(k/64)),yJ 27 ((xs.length-(k/64):Nat):Int),yJ 28 ((0:Nat):Int)] [] (fun w=>(Box (fun j=>f≤j) w (fun w=>(zD w (.slice A xs.length c) (val W64 xs)∧zF .u64 w A (xs)))∧Own .u64 141 w f ((List.replicate (xs.length-(k/64)) 0)))) (fun w Q=>⟨Q.1,Q.2⟩) ?_
 refine xQ (fun V W X=>∃ (i:Nat) (p:List Nat),W=ofL [eS1 0 A xs.length c,eS1 4 none 0 0,yJ 5 ((k/64:Nat):Int),yU 6 ((k%64:Nat):Int),eS1 7 (yL f) (xs.length-(k/64)) (xs.length-(k/64)),yJ 27 ((xs.length-(k/64):Nat):Int),yJ 28 (i:Int)] []∧X=(fun w=>(Box (fun j=>f≤j) w (fun w=>(zD w (.slice A xs.length c) (val W64 xs)∧zF .u64 w A (xs)))∧Own .u64 141 w f (p)))∧(fH (xs.drop (k/64)) (k%64) i p)∧(i≤xs.length-k/64)∧V=(xs.length-k/64-i)) ((xs.length-k/64-0)) ⟨0,(List.replicate (xs.length-(k/64)) 0),rfl,rfl,(by have:=fH.start (xs.drop (k/64)) (k%64);rwa [vY] at this),qO,rfl⟩ ?_
 rintro V W X ⟨i,p,rfl,rfl,I,hi,rfl⟩
 refine yY (xq 1 [(29,.v (.bool (decide ((i:Int)<((xs.length-(k/64):Nat):Int)))))] [] ?_)
 refine yZ (zC ?_)
 refine yQ ((decide ((i:Int)<((xs.length-(k/64):Nat):Int)))) (fun s=>?_) fun s=>?_
 ·have F:=uA s
  have J:p.length=xs.length-k/64:=by rw[I.1,vY]
  refine zJ (zA (zC (zO (yY (xq 2 [yJ 8 (i:Int)] [] ?_)))))
  refine yZ (yY (xq 6 [eS1 31 (yL f) (xs.length-(k/64)) (xs.length-(k/64)),yJ 32 (i:Int),eS1 33 A xs.length c,yJ 36 (IntKind.i64.wrap ((i:Int)+((k/64:Nat):Int)))] [] ?_))
  rw[yW ((i:Int)+((k/64:Nat):Int)) (((i+(k/64):Nat):Int)) qO]
  refine xqk 37 (atA A (i+(k/64))) (fun w R Q=>xW (t:=107) (e:=141) (x:=.tmp 33) (ix:=.tmp 36) (len:=xs.length) (cap:=c) (i:=i+(k/64)) (((Q.1).self.2).ne (j:=i+(k/64)) qO) qO) ?_
  obtain⟨g,h⟩:=yE (xs[i+(k/64)]?.getD 0)
  refine xqk 38 (yX (g:Int)) (fun w R Q=>by rw[←h];exact wV (t:=141) (x:=.tmp 37) ((Q.1).self.2) (j:=i+(k/64)) qO) ?_
  refine xq 1 [yU 39 ((k%64:Nat):Int)] [] ?_
  refine xqk 40 (yX ((g/2^(k%64):Nat):Int)) (fun w R Q=>ZgJ (t:=141) (x:=.tmp 38) (y:=.tmp 39) (k:=135) (ky:=.u64) (a:=g) (n:=(k%64)) qO) ?_
  refine xqk 41 (.pointer (some ⟨f,i,none⟩)) (fun w R Q=>lT (t:=107) (e:=141) (x:=.tmp 31) (ix:=.tmp 32) (len:=(xs.length-(k/64))) (cap:=(xs.length-(k/64))) (i:=i) qO) ?_
  refine jD (t:=141) (x:=.tmp 41) (y:=.tmp 40) f (i) (g/2^(k%64)) (fun w=>(Box (fun j=>f≤j) w (fun w=>(zD w (.slice A xs.length c) (val W64 xs)∧zF .u64 w A (xs)))∧Own .u64 141 w f ((p).set (i) (g/2^(k%64))))) (fun w Q=>Q.2) qO (Or.inl z) (fun w w' Q S T=>⟨((Q.1).fr (S.mono (fun _ _ e=>by rw[e];exact uG _))),T⟩) ?_
  refine yZ (yY (xq 3 [yJ 44 (IntKind.i64.wrap ((i:Int)+((k/64:Nat):Int)))] [] ?_))
  rw[yW ((i:Int)+((k/64:Nat):Int)) (((i+(k/64):Nat):Int)) qO]
  refine xq 1 [(45,.v (yI (IntKind.i64.wrap (((i+(k/64):Nat):Int)+1))))] [] ?_
  rw[show IntKind.i64.wrap ((((i+(k/64):Nat):Int)+1))=((i+(k/64)+1:Nat):Int) by rw[IntKind.wrap_i64];omega]
  refine xq 3 [(48,.v (.bool (decide (((i+(k/64)+1:Nat):Int)<((xs.length:Nat):Int)))))] [] ?_
  refine xe (zA ?_)
  refine yQ ((decide (((i+(k/64)+1:Nat):Int)<((xs.length:Nat):Int)))) (fun u=>?_) fun u=>?_
  ·have G:=uA u
   refine fM 16 [0,0,3,7,0,0,0,96,224,496,1008,0,2048,8176,16383,32767] qK qK zN ?_
   refine xqf 2 [eS1 49 (yL f) (xs.length-(k/64)) (xs.length-(k/64)),yJ 50 (i:Int)] [] ?_
   refine xqj 51 (.pointer (some ⟨f,i,none⟩)) (fun w Q=>lT (t:=107) (e:=141) (x:=.tmp 49) (ix:=.tmp 50) (len:=(xs.length-(k/64))) (cap:=(xs.length-(k/64))) (i:=i) qO) ?_
   obtain⟨K,B⟩:=yE (((p).set (i) (g/2^(k%64)))[i]?.getD 0)
   refine xqj 52 (yX (K:Int)) (fun w Q=>by rw[←B];exact iG (t:=141) (x:=.tmp 51) (Q.2) (j:=i) (by simp only[sS];omega)) ?_
   obtain rfl:K=g/2^(k%64):=by rw[←B,sL qO];rfl
   refine xqf 4 [eS1 53 A xs.length c,yJ 56 (IntKind.i64.wrap ((i:Int)+((k/64:Nat):Int)))] [] ?_
   rw[yW ((i:Int)+((k/64:Nat):Int)) (((i+(k/64):Nat):Int)) qO]
   refine xqf 1 [(57,.v (yI (IntKind.i64.wrap (((i+(k/64):Nat):Int)+1))))] [] ?_
   rw[show IntKind.i64.wrap ((((i+(k/64):Nat):Int)+1))=((i+(k/64)+1:Nat):Int) by rw[IntKind.wrap_i64];omega]
   refine xqj 58 (atA A (i+(k/64)+1)) (fun w Q=>xW (t:=107) (e:=141) (x:=.tmp 53) (ix:=.tmp 57) (len:=xs.length) (cap:=c) (i:=i+(k/64)+1) (((Q.1).self.2).ne (j:=i+(k/64)+1) qO) qO) ?_
   obtain⟨m,C⟩:=yE (xs[i+(k/64)+1]?.getD 0)
   refine xqj 59 (yX (m:Int)) (fun w Q=>by rw[←C];exact wV (t:=141) (x:=.tmp 58) ((Q.1).self.2) (j:=i+(k/64)+1) qO) ?_
   refine xqf 2 [yU 61 (IntKind.u64.wrap (64-((k%64:Nat):Int)))] [] ?_
   rw[show IntKind.u64.wrap ((64-((k%64:Nat):Int)))=((64-(k%64):Nat):Int) by rw[IntKind.wrap_u64];have:=zR;omega]
   refine xqj 62 (yX ((m*2^(64-(k%64))%W64:Nat):Int)) (fun w Q=>Zkv (t:=141) (x:=.tmp 59) (y:=.tmp 61) (k:=135) (ky:=.u64) (a:=m) (n:=(64-(k%64))) qO) ?_
   have O:=I.step (k:=i) (x:=g) (y:=m) qO (by rw[vY];omega) (by rw[vP,tC];exact h) (by rw[vP,show k/64+(i+1)=i+k/64+1 by omega];exact C) (by rw[←h];exact H.getD zI _)
   refine xqj 63 (yX ((g/2^(k%64)+m%2^(k%64)*2^(64-k%64):Nat):Int)) (fun w Q=>Zm1 (t:=141) (x:=.tmp 52) (y:=.tmp 62) (k:=141) (a:=((g/2^(k%64)))) (b:=(m*2^(64-(k%64))%W64)) (tF (vN _ _) (by rw[←h];exact H.getD zI _)) (uP _ zI) (Zj7 qO (by rw[←h];exact H.getD zI _))) ?_
   refine xqj 64 (.pointer (some ⟨f,i,none⟩)) (fun w Q=>lT (t:=107) (e:=141) (x:=.tmp 49) (ix:=.tmp 50) (len:=(xs.length-(k/64))) (cap:=(xs.length-(k/64))) (i:=i) qO) ?_
   refine xz ?_
   refine jD (t:=141) (x:=.tmp 64) (y:=.tmp 63) f (i) (g/2^(k%64)+m%2^(k%64)*2^(64-k%64)) (fun w=>(Box (fun j=>f≤j) w (fun w=>(zD w (.slice A xs.length c) (val W64 xs)∧zF .u64 w A (xs)))∧Own .u64 141 w f (((p).set (i) (g/2^(k%64))).set (i) (g/2^(k%64)+m%2^(k%64)*2^(64-k%64))))) (fun w Q=>Q.2) (by simp only[sS];omega) (Or.inl z) (fun w w' Q S T=>⟨((Q.1).fr (S.mono (fun _ _ e=>by rw[e];exact uG _))),T⟩) ?_
   refine xe (xN (zA (zB (xq 1 [yJ 65 (IntKind.i64.wrap ((i:Int)+1))] [] ?_))))
   rw[yW ((i:Int)+1) (((i+1:Nat):Int)) qO]
   refine xr 1 [eS1 0 A xs.length c,eS1 4 none 0 0,yJ 5 ((k/64:Nat):Int),yU 6 ((k%64:Nat):Int),eS1 7 (yL f) (xs.length-(k/64)) (xs.length-(k/64)),yJ 27 ((xs.length-(k/64):Nat):Int),yJ 28 ((i+1:Nat):Int)] [] ?_
   refine xe ?_
   refine yP [eS1 0 A xs.length c,eS1 4 none 0 0,yJ 5 ((k/64:Nat):Int),yU 6 ((k%64:Nat):Int),eS1 7 (yL f) (xs.length-(k/64)) (xs.length-(k/64)),yJ 27 ((xs.length-(k/64):Nat):Int),yJ 28 (((i+1):Nat):Int)] [] (fun w=>(Box (fun j=>f≤j) w (fun w=>(zD w (.slice A xs.length c) (val W64 xs)∧zF .u64 w A (xs)))∧Own .u64 141 w f ((((p).set (i) (g/2^(k%64))).set (i) (g/2^(k%64)+m%2^(k%64)*2^(64-k%64)))))) (fun w Q=>⟨Q.1,Q.2⟩) ?_
   exact xE ((xs.length-k/64-(i+1))) qO ⟨(i+1),(((p).set (i) (g/2^(k%64))).set (i) (g/2^(k%64)+m%2^(k%64)*2^(64-k%64))),rfl,rfl,(by rw[List.set_set];exact O),qO,rfl⟩
  have G:=uB u
  have O:=I.step (k:=i) (x:=g) (y:=0) qO (by rw[vY];omega) (by rw[vP,tC];exact h) (by rw[vP,vI qO];rfl) (by rw[←h];exact H.getD zI _)
  rw[Nat.zero_mod,sM,tB] at O
  refine zJ (xN (zA (zB (xq 1 [yJ 65 (IntKind.i64.wrap ((i:Int)+1))] [] ?_))))
  rw[yW ((i:Int)+1) (((i+1:Nat):Int)) qO]
  refine xq 1 [yJ 28 ((i+1:Nat):Int)] [] ?_
  refine xe ?_
  refine yP [eS1 0 A xs.length c,eS1 4 none 0 0,yJ 5 ((k/64:Nat):Int),yU 6 ((k%64:Nat):Int),eS1 7 (yL f) (xs.length-(k/64)) (xs.length-(k/64)),yJ 27 ((xs.length-(k/64):Nat):Int),yJ 28 (((i+1):Nat):Int)] [] (fun w=>(Box (fun j=>f≤j) w (fun w=>(zD w (.slice A xs.length c) (val W64 xs)∧zF .u64 w A (xs)))∧Own .u64 141 w f (((p).set (i) (g/2^(k%64)))))) (fun w Q=>⟨Q.1,Q.2⟩) ?_
  exact xE ((xs.length-k/64-(i+1))) qO ⟨(i+1),((p).set (i) (g/2^(k%64))),rfl,rfl,O,qO,rfl⟩
 have F:=uB s
 have J:p.length=xs.length-k/64:=by rw[I.1,vY]
 obtain rfl:i=xs.length-k/64:=qO
 have HD:=I
 rw[←vY] at HD
 replace HD:=HD.done
 rw[ZeE xs (k/64) (k%64) H qO,show 64*(k/64)+k%64=k by omega] at HD
 refine xL (zH (zH (xT (zA (yY (xq 1 [eS1 66 (yL f) (xs.length-(k/64)) (xs.length-(k/64))] [] ?_))))))
 refine xqc 144 [.slice (yL f) (xs.length-(k/64)) (xs.length-(k/64))] 67 xC _ (fun w R Q=>yM zV (bK Q.2 I.2.1 J HD qO)) fun⟨L,M,N⟩=>?_
 refine xq 1 [eS1 4 L M N] [] ?_
 refine yZ (zG ?_)
 refine yR (.slice L M N) fun w' R Q=>?_
 exact⟨_,rfl,Q.2,R⟩
theorem wG.opn {w:World}{s:Bool}{A:qA}{l c:Nat}{z:Int}(h:wG w (.agg #[.bool s,.slice A l c]) z):wC w (.slice A l c) z.natAbs∧z=sg s z.natAbs∧(z=0→s=false):=by
 obtain⟨f,g,i,j,a,b,d,e⟩:=h.open
 injection a with a
 simp at a
 obtain⟨rfl,rfl,rfl,rfl⟩:=a
 exact⟨b,d,e⟩
theorem wG.mag {w:World}{s:Bool}{A:qA}{l c:Nat}{z:Int}(h:wG w (.agg #[.bool s,.slice A l c]) z):wC w (.slice A l c) z.natAbs:=h.opn.1
theorem wG.sneg {w:World}{s:Bool}{A:qA}{l c:Nat}{z:Int}(h:wG w (.agg #[.bool s,.slice A l c]) z)(b:z<0):s=true:=by
 obtain⟨_,a,d⟩:=h.opn
 cases s with
 | true=>rfl
 | false=>simp[sg] at a;omega
theorem wG.spos {w:World}{s:Bool}{A:qA}{l c:Nat}{z:Int}(h:wG w (.agg #[.bool s,.slice A l c]) z)(d:0≤z):s=false:=by
 obtain⟨_,a,b⟩:=h.opn
 cases s with
 | false=>rfl
 | true=>simp[sg] at a;exact b qO
theorem wG.len0 {w:World}{s:Bool}{A:qA}{l c:Nat}{z:Int}(h:wG w (.agg #[.bool s,.slice A l c]) z)(d:z=0):l=0:=by
 obtain⟨e,_,_⟩:=h.opn
 obtain⟨g,i,j,a,_,_,k,f,b⟩:=e
 injection a with _ a
 rw[d] at b
 have:=ZfE f aE b
 rw[this] at a
 simpa using a
theorem wG.lenp {w:World}{s:Bool}{A:qA}{l c:Nat}{z:Int}(h:wG w (.agg #[.bool s,.slice A l c]) z)(g:z≠0):0<l:=by
 obtain⟨d,_,_⟩:=h.opn
 obtain⟨i,f,j,a,_,_,k,m,b⟩:=d
 injection a with _ a
 rcases uJ l with e|e
 ·rw[e] at a
  have:f=[]:=tN.1 a.symm
  rw[this] at b
  simp at b
  omega
 exact e
theorem Zid {q:Rat}(h:¬ q.den=1):denF q≠0:=by rw[aY h];have:=q.den_nz;omega
def blen (n:Nat):Nat:=if n=0 then 0 else n.log2+1
theorem gL:blen 0=0:=rfl
theorem iH (n:Nat):n<2^blen n:=by
 unfold blen
 split
 ·rename_i h;subst h;decide
 rename_i h;exact (Nat.log2_lt h).1 (oD _)
theorem xM {n k:Nat}:blen n≤k↔n<2^k:=by
 unfold blen
 split
 ·rename_i h;subst h;simp[vE]
 rename_i h;rw[←Nat.log2_lt h];omega
theorem Zcs {n:Nat}(h:0<n):blen n=blen (n/2)+1:=by
 have d:blen (n/2)+1≤blen n:=by
  have:blen (n/2)≤blen n-1:=xM.2 (by
   have a:=iH n
   have b:0<blen n:=by unfold blen;rw[uL qO];omega
   obtain⟨k,c⟩:∃ k,blen n=k+1:=⟨blen n-1,qO⟩
   rw[c] at a ⊢
   rw[uN] at a
   show n/2<2^(k+1-1)
   rw[tL]
   omega)
  have b:0<blen n:=by unfold blen;rw[uL qO];omega
  omega
 have a:blen n≤blen (n/2)+1:=xM.2 (by
  have:=iH (n/2)
  rw[uN]
  omega)
 omega
theorem ZlZ {B k t a:Nat}(g:a<2^(B*k))(b:0<t):blen (a+2^(B*k)*t)=B*k+blen t:=by
 have c:=iH t
 have i:blen (a+2^(B*k)*t)≤B*k+blen t:=xM.2 (by
  rw[uT]
  have:2^(B*k)*(t+1)≤2^(B*k)*2^blen t:=uI _ c
  rw[uK] at this
  omega)
 have l:¬ blen (a+2^(B*k)*t)≤B*k+blen t-1:=fun h=>by
  have d:=xM.1 h
  obtain⟨j,e⟩:∃ j,blen t=j+1:=⟨blen t-1,by have:=Zcs b;omega⟩
  rw[e,show B*k+(j+1)-1=B*k+j by omega,uT] at d
  have f:2^j≤t:=by
   rcases vM t (2^j) with h|h
   ·have:=xM.2 h;omega
   exact h
  have:2^(B*k)*2^j≤2^(B*k)*t:=uI _ f
  omega
 have:0<blen t:=by have:=Zcs b;omega
 omega
end Go.Proofs.YtenchljfmfgeoaaGreatDoor
namespace Go.Proofs.YtenchljfmfgeoaaGreatDoor
theorem iI {n k:Nat}:k<blen n↔2^k≤n:=by have:=@xM n k;omega
theorem eP {n:Nat}(h:0<n):0<blen n:=iI.2 (by rw[vT];exact h)
theorem ZcT {n k:Nat}(a:2^k≤n)(b:n<2^(k+1)):blen n=k+1:=by
 have:=iI.2 a;have:=xM.2 b;omega
theorem Zby {n:Nat}(h:0<n):2^(blen n-1)≤n:=iI.1 (by have:=eP h;omega)
theorem p2 (k:Nat):0<2^k:=vE qD
theorem bL {n:Nat}(h:0<n)(j:Nat):blen (n*2^j)=blen n+j:=by
 have a:=Zby h
 have b:=iH n
 obtain⟨k,c⟩:∃ k,blen n=k+1:=⟨blen n-1,by have:=eP h;omega⟩
 rw[c] at a b ⊢
 rw[show k+1+j=k+j+1 by omega]
 refine ZcT ?_ ?_
 ·rw[uT];exact uE _ (by simpa using a)
 rw[show k+j+1=k+1+j by omega,uT];exact (qC (p2 j)).2 b
theorem dE (n j:Nat):blen (n/2^j)=blen n-j:=by
 rcases vM j (blen n) with h|h
 ·have c:0<n:=by
   rcases uJ n with e|e;· subst e;rw[gL] at h;omega
   ·exact e
  have a:=Zby c
  have b:=iH n
  obtain⟨k,d⟩:∃ k,blen n=j+(k+1):=⟨blen n-j-1,qO⟩
  rw[d] at a b ⊢
  rw[show j+(k+1)-j=k+1 by omega]
  refine ZcT ?_ ?_
  ·rw[rV (p2 j),← uT];rw[show j+(k+1)-1=k+j by omega] at a;exact a
  rw[vO (p2 j),← uT,tC];exact b
 rw[tJ (xM.1 h),gL];omega
def iJ (a b:Nat):Nat:=if b<2*(a%b)∨(2*(a%b)=b∧a/b%2=1) then a/b+1 else a/b
theorem Zji {a b c:Nat}(d:0<c):iJ (a*c) (b*c)=iJ a b:=by
 unfold iJ
 rw[rU,qX _ _ d,← uH]
 have e:b*c<2*(a%b)*c↔b<2*(a%b):=qC d
 have f:2*(a%b)*c=b*c↔2*(a%b)=b:=⟨fun h=>Nat.eq_of_mul_eq_mul_right d h,fun h=>by rw[h]⟩
 simp only[e,f]
theorem Zl0 (a:Nat):iJ a 1=a:=by unfold iJ;rw[Nat.mod_one,rG,uL qO]
def iQ (q j:Nat) (m:Bool):Nat:=if q/2^j%2=1∧(q%2^j≠0∨q/2^(j+1)%2=1∨m=true) then q/2^(j+1)+1 else q/2^(j+1)
theorem Zjj {a b j:Nat}(k:0<b):iJ a (b*2^(j+1))=iQ (a/b) j (decide (a%b≠0)):=by
 unfold iJ iQ
 have l:a/(b*2^(j+1))=a/b/2^(j+1):=(tO _ _ _).symm
 have m:=vQ a b
 have G:=uP a k
 rw[l]
 generalize a/b=q at *
 generalize a%b=r at *
 obtain⟨h,f⟩:∃ h,h=2^j:=⟨_,rfl⟩
 have n:0<h:=by rw[f];exact p2 j
 have o:2^(j+1)=h*2:=by rw[uN,f]
 have t:=vQ q h
 have H:=uP q n
 rw[o,← f,← tO]
 generalize q/h=p at *
 generalize q%h=z at *
 have v:=vQ p 2
 have I:=uP p (show 0<2 by decide)
 generalize p/2=u at *
 generalize p%2=s at *
 have w:a%(b*(h*2))=b*(h*s+z)+r:=by
  have e:a=b*(h*2)*u+(b*(h*s+z)+r):=by
   rw[←m,← t,← v]
   simp only[uK,uH,sE]
  have g:b*(h*s+z)+r<b*(h*2):=by
   have x:h*s+z+1≤h*2:=by
    have:h*s≤h*1:=uI _ qO
    omega
   have y:=uI b x
   rw[uK,tP] at y
   omega
  rw[e,rX,vL g]
 rw[w]
 have J:b*z+b≤b*h:=by
  have:=uI b (show z+1≤h by omega)
  rwa [uK,tP] at this
 have i:b*(h*2)=2*(b*h):=by rw[←uH,uF]
 have d:z=0∨b≤b*z:=by
  rcases uJ z with e|e
  ·exact Or.inl e
  exact Or.inr (by have:=uI b e;simpa using this)
 rcases (by omega:s=0∨s=1) with rfl|rfl
 ·rw[uL,uL qO]
  rw[tD,vU,i]
  omega
 rw[tP,uK b h z,i]
 have A:(2*(b*h)<2*(b*h+b*z+r))↔(z≠0∨r≠0):=by
  constructor
  ·intro c
   rcases uJ z with e|e
   ·subst e;right;intro B;subst B;simp at c
   left;omega
  intro c
  rcases d with e|e
  ·subst e;rcases c with c|c;· exact absurd rfl c
   ·simp;omega
  omega
 have C:(2*(b*h+b*z+r)=2*(b*h))↔(z=0∧r=0):=by
  constructor
  ·intro c
   rcases d with e|e
   ·subst e;refine⟨rfl,?_⟩;rw[tD] at c;omega
   omega
  rintro⟨rfl,rfl⟩;simp
 simp only[A,C]
 by_cases D:z=0<;>by_cases E:r=0<;>by_cases F:u%2=1<;>simp[D,E,F]
def fa (n:Nat) (k:Int):Nat:=n*2^(-k).toNat
def fb (d:Nat) (k:Int):Nat:=d*2^k.toNat
def fq (n d:Nat) (k:Int):Nat:=fa n k/fb d k
theorem Zky {d:Nat}(h:0<d)(k:Int):0<fb d k:=tZ h (p2 _)
theorem Zie (n d:Nat)(k:Int)(j:Nat):∃ c,0<c∧fa n k=fa n (k+j)*c∧fb d k*2^j=fb d (k+j)*c:=by
 unfold fa fb
 rcases Int.le_total 0 k with h|h
 ·obtain⟨m,rfl⟩:=uV h
  refine⟨1,qD,?_,?_⟩
  ·rw[show (-(m:Int)).toNat=0 by omega,show (-((m:Int)+j)).toNat=0 by omega];simp
  rw[show ((m:Int)).toNat=m by omega,show ((m:Int)+j).toNat=m+j by omega,uH,← uT,tP]
 obtain⟨m,b⟩:=uV (show 0 ≤ -k by omega)
 obtain rfl:k = -(m:Int):=qO
 rcases Nat.le_total j m with a|a
 ·refine⟨2^j,p2 j,?_,?_⟩
  ·rw[show (- -(m:Int)).toNat=m by omega,show (-(-(m:Int)+j)).toNat=m-j by omega,uH,← uT,pP a]
  rw[show (-(m:Int)).toNat=0 by omega,show (-(m:Int)+j).toNat=0 by omega]
 refine⟨2^m,p2 m,?_,?_⟩
 ·rw[show (- -(m:Int)).toNat=m by omega,show (-(-(m:Int)+j)).toNat=0 by omega];simp
 rw[show (-(m:Int)).toNat=0 by omega,show (-(m:Int)+j).toNat=j-m by omega,uH,uH,← uT,← uT,pP a,vU]
theorem bM (n d:Nat)(k:Int)(j:Nat):fq n d (k+j)=fq n d k/2^j:=by
 obtain⟨c,a,b,e⟩:=Zie n d k j
 unfold fq
 rw[tO,b,e,qX _ _ a]
theorem Zl1 {n d:Nat}(k:Int)(j:Nat)(a:0<d):iJ (fa n (k+(j+1:Nat))) (fb d (k+(j+1:Nat)))=iQ (fq n d k) j (decide (fa n k%fb d k≠0)):=by
 obtain⟨c,b,e,f⟩:=Zie n d k (j+1)
 unfold fq
 rw[←Zjj (Zky a k),f,e,Zji b]
def rk0 (n d bits:Nat):Int:=(blen n:Int)-blen d-bits
theorem ZgM {n d bits:Nat}(o:0<n)(i:0<d)(t:0<bits):bits≤blen (fq n d (rk0 n d bits))∧blen (fq n d (rk0 n d bits))≤bits+1:=by
 have f:=Zby o
 have j:=iH n
 have g:=Zby i
 have k:=iH d
 obtain⟨p,r⟩:∃ p,blen n=p+1:=⟨blen n-1,by have:=eP o;omega⟩
 obtain⟨q,s⟩:∃ q,blen d=q+1:=⟨blen d-1,by have:=eP i;omega⟩
 obtain⟨b,rfl⟩:∃ b,bits=b+1:=⟨bits-1,qO⟩
 have c:fb d (rk0 n d (b+1))*2^b≤fa n (rk0 n d (b+1))∧fa n (rk0 n d (b+1))<fb d (rk0 n d (b+1))*2^(b+2):=by
  unfold fa fb rk0
  rw[r] at f j ⊢
  rw[s] at g k ⊢
  rw[tL] at f g
  rcases Int.le_total 0 ((p+1:Nat)-(q+1:Nat)-(b+1:Nat):Int) with h|h
  ·obtain⟨m,l⟩:=uV h
   have a:p=q+m+b+1:=qO
   subst a
   rw[l,show ((m:Nat):Int).toNat=m by omega,show (-((m:Nat):Int)).toNat=0 by omega]
   simp only[vT,tP]
   constructor
   ·refine uC ?_ f
    rw[show q+m+b+1=(q+1)+(m+b) by omega,uT,uH,← uT]
    exact uE _ (pS k)
   refine uQ j ?_
   rw[show q+m+b+1+1=q+(m+(b+2)) by omega,uT 2 q,uH,← uT 2 m]
   exact uE _ g
  obtain⟨m,l⟩:=uV (show 0 ≤ -((p+1:Nat)-(q+1:Nat)-(b+1:Nat):Int) by omega)
  have a:p+m=q+b+1:=qO
  rw[l,show ((m:Nat):Int).toNat=m by omega,show ((p+1:Nat)-(q+1:Nat)-(b+1:Nat):Int).toNat=0 by omega]
  simp only[vT,tP]
  constructor
  ·refine uC ?_ (uE _ f)
   rw[←uT,a,show q+b+1=(q+1)+b by omega,uT]
   exact uE _ (pS k)
  refine uQ ((qC (p2 m)).2 j) ?_
  rw[←uT,show p+1+m=q+(b+2) by omega,uT]
  exact uE _ g
 have e:=Zky i (rk0 n d (b+1))
 constructor
 ·have:2^b≤fq n d (rk0 n d (b+1)):=by
   unfold fq
   rw[rV e,uF];exact c.1
  have:=iI.2 this
  omega
 refine xM.2 ?_
 unfold fq
 rw[vO e,uF];exact c.2
def rndK (n d bits:Nat):Int:=if blen (fq n d (rk0 n d bits))=bits then rk0 n d bits else rk0 n d bits+1
theorem Zar {n d bits:Nat}(a:0<n)(b:0<d)(c:0<bits):blen (fq n d (rndK n d bits))=bits:=by
 obtain⟨e,f⟩:=ZgM a b c
 unfold rndK
 split
 ·assumption
 have:=bM n d (rk0 n d bits) 1
 rw[show (rk0 n d bits+1:Int)=rk0 n d bits+(1:Nat) by simp,this,dE]
 omega
theorem Zif {n d bits:Nat}(c:0<n)(e:0<d)(f:0<bits){k:Int}(h:blen (fq n d k)=bits):rndK n d bits=k:=by
 have b:=Zar c e f
 rcases Int.lt_trichotomy (rndK n d bits) k with a|a|a
 ·obtain⟨j,g⟩:=uV (show 0≤k-rndK n d bits by omega)
  have:=bM n d (rndK n d bits) j
  rw[show rndK n d bits+(j:Int)=k by omega] at this
  rw[this,dE,b] at h
  omega
 ·exact a
 obtain⟨j,g⟩:=uV (show 0≤rndK n d bits-k by omega)
 have:=bM n d k j
 rw[show k+(j:Int)=rndK n d bits by omega] at this
 rw[this,dE,h] at b
 omega
def rndM (n d bits:Nat):Nat:=iJ (fa n (rndK n d bits)) (fb d (rndK n d bits))
theorem ZeN (a b:Nat):a/b≤iJ a b∧iJ a b≤a/b+1:=by unfold iJ;split<;>omega
theorem Zl2 {n d bits:Nat}(a:0<n)(b:0<d)(c:0<bits):0<rndM n d bits:=by
 have h:=Zar a b c
 have:=(ZeN (fa n (rndK n d bits)) (fb d (rndK n d bits))).1
 have f:0<fq n d (rndK n d bits):=by
  rcases uJ (fq n d (rndK n d bits)) with e|e
  ·rw[e,gL] at h;omega
  exact e
 unfold rndM
 unfold fq at f
 omega
theorem Zct {n d bits:Nat}(c:0<n)(a:0<d)(e:0<bits)(k:Int)(j:Nat)(h:blen (fq n d k)=bits+(j+1)) :
 rndK n d bits=k+(j+1:Nat)∧rndM n d bits=iQ (fq n d k) j (decide (fa n k%fb d k≠0)):=by
 have b:rndK n d bits=k+(j+1:Nat):=Zif c a e (by rw[bM,dE,h];omega)
 refine⟨b,?_⟩
 unfold rndM
 rw[b,Zl1 k j a]
theorem Znz {n bits:Nat}(a:0<n)(c:0<bits)(h:blen n≤bits):rndK n 1 bits=(blen n:Int)-bits∧rndM n 1 bits=n*2^(bits-blen n):=by
 have b:rndK n 1 bits=(blen n:Int)-bits:=Zif a qD c (by
  unfold fq fa fb
  rw[show (-((blen n:Int)-bits)).toNat=bits-blen n by omega,show ((blen n:Int)-bits).toNat=0 by omega]
  simp only[vT,tP,rG]
  rw[bL a];omega)
 refine⟨b,?_⟩
 unfold rndM
 rw[b]
 unfold fa fb
 rw[show (-((blen n:Int)-bits)).toNat=bits-blen n by omega,show ((blen n:Int)-bits).toNat=0 by omega]
 simp only[vT,tP,Zl0]
theorem ZnA {a s r bits:Nat}(g:0<bits)(ha:bits+1≤blen a)(h:0<r)(c:r<2^s) :
 rndK (a*2^s+r) 1 bits=(s:Int)+(blen a:Int)-bits∧rndM (a*2^s+r) 1 bits=iQ a (blen a-bits-1) true:=by
 have i:0<a*2^s+r:=qO
 obtain⟨j,b⟩:∃ j,blen a=bits+(j+1):=⟨blen a-bits-1,qO⟩
 have e:fq (a*2^s+r) 1 (s:Int)=a:=by
  unfold fq fa fb
  rw[show (-(s:Int)).toNat=0 by omega,show ((s:Int)).toNat=s by omega]
  simp only[vT,tP,rK]
  rw[uF,rF (p2 s),tJ c,tB]
 have k:fa (a*2^s+r) (s:Int)%fb 1 (s:Int)=r:=by
  unfold fa fb
  rw[show (-(s:Int)).toNat=0 by omega,show ((s:Int)).toNat=s by omega]
  simp only[vT,tP,rK]
  rw[uF,rX,vL c]
 obtain⟨l,f⟩:=Zct (n:=a*2^s+r) i (d:=1) qD g (s:Int) j (by rw[e];exact b)
 rw[e,k] at f
 refine⟨by rw[l,b];omega,?_⟩
 rw[f,b,show bits+(j+1)-bits-1=j by omega,show decide (r≠0)=true from vR qO]
def tzn (n:Nat):Nat:=if h:n=0∨n%2=1 then 0 else tzn (n/2)+1
termination_by n
decreasing_by omega
theorem Zig {n:Nat}(h:n%2=1):tzn n=0:=by rw[tzn,dif_pos (Or.inr h)]
theorem Zih {n:Nat}(h:0<n):tzn (n*2)=tzn n+1:=by
 rw[tzn,dif_neg qO,qM _ qD]
theorem Za8 {n:Nat}(h:0<n):∀ j,tzn (n*2^j)=tzn n+j
 | 0=>qS
 | j+1=>by rw[uN,← uH,Zih (tZ h (p2 j)),Za8 h j];omega
theorem Zkz:∀ n:Nat,0<n→∃ o,o%2=1∧n=o*2^tzn n:=by
 intro n
 induction n using Nat.strongRecOn with
 | ind n ih =>
  intro h
  by_cases a:n%2=1
  ·exact⟨n,a,by rw[Zig a];simp⟩
  obtain⟨m,rfl⟩:∃ m,n=m*2:=⟨n/2,qO⟩
  obtain⟨o,b,c⟩:=ih m qO qO
  exact⟨o,b,by rw[Zih qO,uN,← uH,← c]⟩
theorem Za9 {o:Nat}(h:o%2=1)(j:Nat):tzn (o*2^j)=j:=by rw[Za8 qO,Zig h];omega
def oddM (n:Nat):Nat:=n/2^tzn n
theorem ZcU {o:Nat}(h:o%2=1)(j:Nat):oddM (o*2^j)=o:=by unfold oddM;rw[Za9 h,qM _ (p2 j)]
theorem jH {n:Nat}(h:0<n):oddM n%2=1∧n=oddM n*2^tzn n:=by
 obtain⟨o,a,b⟩:=Zkz n h
 have:oddM n=o:=by rw[b];exact ZcU a _
 rw[this];exact⟨a,b⟩
theorem Zl3 {n:Nat}(h:0<n)(j:Nat):oddM (n*2^j)=oddM n:=by
 obtain⟨a,b⟩:=jH h
 have:n*2^j=oddM n*2^(tzn n+j):=by rw[uT,← uH,← b]
 rw[this,ZcU a]
theorem ZkA {n:Nat}(h:0<n)(j:Nat):tzn n<j↔n%2^j≠0:=by
 obtain⟨i,f⟩:=jH h
 constructor
 ·intro g e
  obtain⟨d,b⟩:∃ d,j=tzn n+(d+1):=⟨j-tzn n-1,qO⟩
  have a:=Nat.dvd_of_mod_eq_zero e
  rw[b,uT,uF] at a
  rw[f] at a
  rw[Za9 i] at a
  have:=Nat.dvd_of_mul_dvd_mul_right (p2 _) a
  rw[uN] at this
  have:2∣oddM n:=Nat.dvd_trans ⟨_,uF _ _⟩ this
  omega
 intro c
 refine rQ fun g=>c ?_
 obtain⟨d,b⟩:=pR g
 rw[f,b,uT,← uH,uF (oddM n),uH,Nat.mul_mod_right]
end Go.Proofs.YtenchljfmfgeoaaGreatDoor
namespace Go.Proofs.YtenchljfmfgeoaaGreatDoor
open Go.RowKit Tryz
section
variable {N:Nat} {S0:Nat→Prop} {w:World} {Φ:World→Prop} {P:Program}
theorem dF (S0:Nat→Prop){fn:Func}{f:FuncId}{c:Code}{args:List Value}{R:Ending→World→Prop}(j:P.funcs[f]? = some fn)(l:fn.body=some c)(m:Nat.ble args.length fn.ntmps=true)(Q:Box (fun _=>False) w Φ)(h:SXc P fn.ntmps S0 w (bodyPost P fn R) c (ofL (Zbo 0 args) []) Φ):Calls P f args.toArray w R:=by
 refine calls_of_wp j l (h (fun _=>0) _ w ⟨?_,rfl,fun i x n=>?_,⟨fun b t p e=>(by cases e),fun b c e=>(by cases e),fun b e=>(by cases e),Fr.refl _ _,fun i b off e=>?_,fun b t p e=>(by cases e)⟩,?_⟩)
 ·have:=vX m
  simp;omega
 ·obtain⟨_,v,hv,rfl⟩:=eO args 0 i x n
  have d:i<args.length:=by
   rcases vM i args.length with a|a
   ·exact a
   rw[vI qO] at hv;cases hv
  simp only[AV.conc]
  rw[Array.getElem?_append_left (by simpa using d)]
  simpa using hv
 ·obtain⟨_,v,hv,e'⟩:=eO args 0 i _ e
  cases e'
 intro w' g
 exact Q w' (g.mono (fun i _ a=>by obtain⟨b,e,_⟩:=a;cases e))
end
section
variable {P:Program} {o:Oper} {ρ:Operand→Value} {w:World} {x y:Operand} {t k:TypeId}
theorem ZnB {a:Nat}(b:o.op=Op.binOp .and t x y k:=by kernel_rfl)(c:ρ x=.int .u64 (a:Int):=by kernel_rfl)(d:ρ y=.int .u64 1:=by kernel_rfl)(ha:a<W64:=by assumption):(execOp ρ o).run P w=.ok (.value (.int .u64 ((a%2:Nat):Int))) w:=by
 have h:bits .and .u64 (a:Int) 1=((a%2:Nat):Int):=by
  have:=bits_and_u64_nat a 1 (by rw[←zR];exact ha) qD
  rw[Nat.and_one_is_mod] at this
  exact this
 rw[←h]
 simp only[execOp,b,c,d,eqGuard,binOp]
 rfl
end
/-! ### length -/
theorem Zdc {xs:qN}{k t:Nat}(d:Dig W64 xs)(e:xs.length=k+1)(f:Trim xs)(b:xs[k]?.getD 0=t):blen (val W64 xs)=64*k+blen t:=by
 have g:0<t:=sC (by rw[←b];exact f k e)
 have c:=xA (B:=W64) k (show k<xs.length by omega)
 rw[uD qO,b] at c
 have a:=wL (d.take k)
 rw[uM,vA qO,fU] at a
 rw[c,fU]
 exact ZlZ a g
theorem Zdd {t:Nat}(h:t<W64):Lib.bitLen t=blen t:=by
 rcases uJ t with rfl|a
 ·rfl
 obtain⟨b,_,c,d⟩:=gT a h
 have:=ZcT (k:=Lib.bitLen t-1) c (by rw[pP b];exact d)
 omega
theorem ZkB (t:Nat)(w:World)(h:t<W64):yA 173 #[.int .u64 (t:Int)] w (RetV w (.int .i64 ((blen t:Nat):Int))):=by
 have a:=h
 rw[zR] at a
 refine (Tryz.bits_Len64 (t:Int) w qO qO).mono ?_
 rintro e w' ⟨rfl,rfl⟩
 exact⟨by rw[pT,Zdd h],Fr.refl _ _⟩
theorem Zjk (t:Nat)(w:World)(h:t<W64):yA 194 #[.int .u64 (t:Int)] w (RetV w (.int .i64 ((64-blen t:Nat):Int))):=by
 refine (cC t w h).mono ?_
 rintro e w' ⟨rfl,rfl⟩
 have:blen t≤64:=xM.2 (by rw[zR] at h;exact h)
 exact⟨by rw[Zdd h];congr 2;omega,Fr.refl _ _⟩
/-! ### zeros -/
theorem Zl4 (x:Nat)(w:World)(a:Glob w)(b:0<x)(h:x<W64):yA 200 #[.int .u64 (x:Int)] w (RetV w (.int .i64 ((tzn x:Nat):Int))):=by
 obtain⟨g,c⟩:=jH b
 have d:tzn x<64:=by
  refine rQ fun f=>?_
  have:=uW (n:=2) qD f
  have i:1*2^tzn x≤oddM x*2^tzn x:=uE _ qO
  rw[zR] at h
  omega
 refine (Zbl x (tzn x) (oddM x/2) w a (by rw[show 2*(oddM x/2)+1=oddM x by omega,uF];exact c) d h).mono ?_
 rintro e w' ⟨rfl,rfl⟩
 exact⟨rfl,Fr.refl _ _⟩
def ZerR (xs:List Nat) (k:Nat):Prop:=val W64 (xs.take k)=0
theorem ZerR.start (xs:qN):ZerR xs 0:=by unfold ZerR;simp
theorem ZerR.lt {xs:qN}{k:Nat}(h:ZerR xs k)(b:0<val W64 xs):k<xs.length:=by
 rcases vM k xs.length with a|a
 ·exact a
 unfold ZerR at h;rw[uD a] at h;omega
theorem ZerR.step {xs:qN}{k:Nat}(h:ZerR xs k)(a:k<xs.length)(b:xs[k]?.getD 0=0):ZerR xs (k+1):=by
 unfold ZerR at *
 rw[xA k a,h,b];simp
theorem ZnC {x r:Nat}(a:0<x)(b:x<W64):tzn (x+W64*r)=tzn x:=by
 obtain⟨g,c⟩:=jH a
 have h:tzn x<64:=by
  refine rQ fun d=>?_
  have:=uW (n:=2) qD d
  have i:1*2^tzn x≤oddM x*2^tzn x:=uE _ qO
  rw[zR] at b
  omega
 have e:x+W64*r=(oddM x+2^(64-tzn x)*r)*2^tzn x:=by
  rw[vC,← c,Nat.mul_right_comm,← uT,pP qO,zR]
 have f:2^(64-tzn x)=2*2^(63-tzn x):=by rw[show 64-tzn x=(63-tzn x)+1 by omega,uN,uF]
 rw[e]
 exact Za9 (by rw[f,uH];omega) _
theorem ZerR.done {xs:qN}{k x:Nat}(h:ZerR xs k)(c:Dig W64 xs)(d:k<xs.length)(a:xs[k]?.getD 0=x)(e:x≠0):tzn (val W64 xs)=64*k+tzn x:=by
 unfold ZerR at h
 have b:=wA (B:=W64) (xs:=xs) k
 rw[h,vA qO,xO k d,a,vU,fU,uF] at b
 rw[b,Za8 qO,ZnC qO (a ▸ c.getD zI k),tC]
theorem ZerR.bound {xs:qN}{k x:Nat}(b:Dig W64 xs)(c:xs[k]?.getD 0=x)(e:x≠0):tzn x<64:=by
 have a:x<W64:=c ▸ b.getD zI k
 obtain⟨f,g⟩:=jH (show 0<x by omega)
 refine rQ fun d=>?_
 have:=uW (n:=2) qD d
 have h:1*2^tzn x≤oddM x*2^tzn x:=uE _ qO
 rw[zR] at a
 omega
/-! ### bit -/
theorem ZnD {xs:qN}{i x:Nat}(b:Dig W64 xs)(c:i/64<xs.length)(d:xs[i/64]?.getD 0=x):val W64 xs/2^i%2=x/2^(i%64)%2:=by
 have a:=ZeE xs (i/64) (i%64) b qO
 rw[show 64*(i/64)+i%64=i by omega] at a
 rw[←a,xO _ c,d]
 have g:i%64<64:=uP _ qD
 generalize i%64=t at *
 generalize val W64 (xs.drop (i/64+1))=r
 have e:W64*r=2^t*(2^(64-t)*r):=by rw[←uH,← uT,show t+(64-t)=64 by omega,zR]
 have f:2^(64-t)=2*2^(63-t):=by rw[show 64-t=(63-t)+1 by omega,uN,uF]
 rw[e,Nat.add_mul_div_left _ _ (p2 t),f,uH,rH]
theorem Zl5 {xs:qN}{i:Nat}(a:Dig W64 xs)(b:¬ i/64<xs.length):val W64 xs/2^i%2=0:=by
 rw[Zdp a qO]
theorem Zoq (m:Nat):(((m%2:Nat):Int) == 1)=decide (m%2=1):=by
 rcases Nat.mod_two_eq_zero_or_one m with h|h<;>rw[h]<;>rfl
/-! ### division by a word,in place -/
def DwR (xs:List Nat) (u k:Nat) (qs:List Nat) (r:Nat):Prop:=eC xs u k qs r∧qs.take k=xs.take k
theorem DwR.start {xs:qN}{u:Nat}(a:Dig W64 xs)(b:0<u):DwR xs u xs.length xs 0 :=
 ⟨⟨rfl,a,b,by rw[vG (uG _)];simp⟩,rfl⟩
theorem DwR.at {xs a:qN}{u k r:Nat}(h:DwR xs u (k+1) a r):a[k]?.getD 0=xs[k]?.getD 0:=by
 have:=vF (fun l=>l[k]?.getD 0) h.2
 simp only[tQ (show k<k+1 by omega)] at this
 exact this
theorem DwR.step {xs a:qN}{u k r x:Nat}(h:DwR xs u (k+1) a r)(c:k<xs.length)(d:a[k]?.getD 0=x)(b:x<W64):DwR xs u k (a.set k (divQ r x u)) (divR r x u):=by
 refine⟨h.1.step c (h.at.symm.trans d) b,?_⟩
 have:=vF (List.take k) h.2
 rw[List.take_take,List.take_take,vA qO] at this
 rw[rB (uG k)];exact this
theorem Zfn (hi lo y:Nat)(w:World)(b:hi<y)(c:y<W64)(a:lo<W64):yA 174 #[.int .u64 (hi:Int),.int .u64 (lo:Int),.int .u64 (y:Int)] w (RetV w (.tuple #[.int .u64 ((divQ hi lo y:Nat):Int),.int .u64 ((divR hi lo y:Nat):Int)])):=by
 refine (Zak hi lo y w b c a).mono ?_
 rintro e w' ⟨rfl,n,rfl⟩
 exact⟨rfl,(Fr.refl _ _).drewN n⟩
/-! ### a multiple subtracted within a row -/
def SpR (zs0 ys:List Nat) (q o k:Nat) (zs:List Nat) (c b:Nat):Prop :=
 zs.length=zs0.length∧Dig W64 zs∧c<W64∧b≤1∧zs.take o=zs0.take o∧zs.drop (o+k)=zs0.drop (o+k) ∧
  val W64 (zs.take (o+k))+W64^o*(q*val W64 (ys.take k))=val W64 (zs0.take (o+k))+W64^(o+k)*(c+b)
theorem SpR.start {a:qN}(ys:qN)(q o:Nat)(h:Dig W64 a):SpR a ys q o 0 a 0 0:=⟨rfl,h,zI,qO,rfl,rfl,qS⟩
theorem dS {zs a:qN}{k:Nat}(h:zs.drop k=a.drop k):zs[k]?.getD 0=a[k]?.getD 0:=by
 have:=vF (fun l=>l[0]?.getD 0) h
 simpa [vP] using this
theorem ZgN {x q c:Nat}(a:x<W64)(b:q<W64)(d:c<W64):xV x q+xD (zT x q) c 0<W64:=by
 have e:=fE x q
 have f:=iU (zT x q) c 0
 have g:=Zbi a b
 refine dO _ (tF (m:=x*q+c) ?_ qO)
 rw[uK];omega
theorem SpR.step {a ys zs:qN}{q o k c b x z:Nat}(h:SpR a ys q o k zs c b)(p:o+k<a.length)(j:ys[k]?.getD 0=x)(l:zs[o+k]?.getD 0=z)(r:Dig W64 ys)(s:q<W64) :
 SpR a ys q o (k+1) (zs.set (o+k) (lD z (zX (zT x q) c 0) b)) (xV x q+xD (zT x q) c 0) (lE z (zX (zT x q) c 0) b):=by
 obtain⟨u,m,v,A,B,n,C⟩:=h
 have f:x<W64:=j ▸ r.getD zI k
 have g:z<W64:=l ▸ m.getD zI _
 have D:a[o+k]?.getD 0=z:=(dS n).symm.trans l
 have F:=fE x q
 have G:=iU (zT x q) c 0
 have H:=aO g (fD (zT x q) c 0) A
 refine⟨by simpa using u,m.set _ (dX _ _ _),ZgN f s v,Zbh _ _ _,?_,?_,?_⟩
 ·rw[rB qO];exact B
 ·have e:=vF (List.drop 1) n
  rw[vV,vV] at e
  rw[vZ qO,show o+(k+1)=o+k+1 by omega];exact e
 rw[show o+(k+1)=(o+k)+1 by omega,wI _ _ _ _ qO,xA (o+k) p,wY k,D,j,uN]
 have i:lD z (zX (zT x q) c 0) b+x*q+c+b=z+W64*(xV x q+xD (zT x q) c 0+lE z (zX (zT x q) c 0) b):=by
  rw[uK,uK];omega
 have d:=vF (W64^(o+k) * ·) i
 simp only[uK] at d
 have E:W64^o*(q*(val W64 (ys.take k)+W64^k*x))=W64^o*(q*val W64 (ys.take k))+W64^(o+k)*(x*q):=by
  rw[uK q,uK (W64^o),uT,tE q (W64^k) x,uH (W64^o),uF q x]
 rw[E,uH (W64^(o+k)) W64]
 simp only[uK]
 rw[uK] at C
 omega
def Zcu (zs0 ys:List Nat) (q o:Nat) (zs:List Nat) (b:Nat):Prop :=
 zs.length=zs0.length∧Dig W64 zs∧b≤1∧zs.take o=zs0.take o∧zs.drop (o+ys.length+1)=zs0.drop (o+ys.length+1) ∧
  val W64 (zs.take (o+ys.length+1))+W64^o*(q*val W64 ys)=val W64 (zs0.take (o+ys.length+1))+W64^(o+ys.length+1)*b
theorem SpR.done {a ys zs:qN}{q o c b z:Nat}(h:SpR a ys q o ys.length zs c b)(m:o+ys.length<a.length)(g:zs[o+ys.length]?.getD 0=z):Zcu a ys q o (zs.set (o+ys.length) (lD z c b)) (lE z c b):=by
 obtain⟨n,i,p,r,s,j,l⟩:=h
 have f:z<W64:=g ▸ i.getD zI _
 have u:a[o+ys.length]?.getD 0=z:=(dS j).symm.trans g
 have v:=aO f p r
 refine⟨by simpa using n,i.set _ (dX _ _ _),Zbh _ _ _,?_,?_,?_⟩
 ·rw[rB qO];exact s
 ·have e:=vF (List.drop 1) j
  rw[vV,vV] at e
  rw[vZ qO];exact e
 rw[uD (uG ys.length)] at l
 rw[wI _ _ _ _ qO,xA _ m,u,uN]
 have d:=vF (W64^(o+ys.length) * ·) v
 simp only[uK] at d
 rw[uH (W64^(o+ys.length)) W64]
 rw[uK] at l
 omega
/-! ### the divisor added within a row -/
def AbR (zs0 ys:List Nat) (o k:Nat) (zs:List Nat) (c:Nat):Prop :=
 zs.length=zs0.length∧Dig W64 zs∧c≤1∧zs.take o=zs0.take o∧zs.drop (o+k)=zs0.drop (o+k) ∧
  val W64 (zs.take (o+k))+W64^(o+k)*c=val W64 (zs0.take (o+k))+W64^o*val W64 (ys.take k)
theorem AbR.start {a:qN}(ys:qN)(o:Nat)(h:Dig W64 a):AbR a ys o 0 a 0:=⟨rfl,h,qO,rfl,rfl,qS⟩
theorem AbR.step {a ys zs:qN}{o k c x z:Nat}(h:AbR a ys o k zs c)(j:o+k<a.length)(d:ys[k]?.getD 0=x)(f:zs[o+k]?.getD 0=z)(l:Dig W64 ys):AbR a ys o (k+1) (zs.set (o+k) (zX z x c)) (xD z x c):=by
 obtain⟨m,g,n,p,i,r⟩:=h
 have q:a[o+k]?.getD 0=z:=(dS i).symm.trans f
 refine⟨by simpa using m,g.set _ (fD _ _ _),Zbg (f ▸ g.getD zI _) (d ▸ l.getD zI k) n,?_,?_,?_⟩
 ·rw[rB qO];exact p
 ·have e:=vF (List.drop 1) i
  rw[vV,vV] at e
  rw[vZ qO,show o+(k+1)=o+k+1 by omega];exact e
 rw[show o+(k+1)=(o+k)+1 by omega,wI _ _ _ _ qO,xA (o+k) j,wY k,q,d,uN]
 have b:=vF (W64^(o+k) * ·) (iU z x c)
 simp only[uK] at b
 rw[uK (W64^o),← uH (W64^o) (W64^k),← uT,uH (W64^(o+k)) W64]
 omega
def Zcv (zs0 ys:List Nat) (o:Nat) (zs:List Nat) (c:Nat):Prop :=
 zs.length=zs0.length∧Dig W64 zs∧c≤1∧zs.take o=zs0.take o∧zs.drop (o+ys.length+1)=zs0.drop (o+ys.length+1) ∧
  val W64 (zs.take (o+ys.length+1))+W64^(o+ys.length+1)*c=val W64 (zs0.take (o+ys.length+1))+W64^o*val W64 ys
theorem AbR.done {a ys zs:qN}{o c z:Nat}(h:AbR a ys o ys.length zs c)(i:o+ys.length<a.length)(d:zs[o+ys.length]?.getD 0=z):Zcv a ys o (zs.set (o+ys.length) (zX z 0 c)) (xD z 0 c):=by
 obtain⟨j,f,l,m,g,n⟩:=h
 have p:a[o+ys.length]?.getD 0=z:=(dS g).symm.trans d
 refine⟨by simpa using j,f.set _ (fD _ _ _),Zbg (d ▸ f.getD zI _) zI l,?_,?_,?_⟩
 ·rw[rB qO];exact m
 ·have e:=vF (List.drop 1) g
  rw[vV,vV] at e
  rw[vZ qO];exact e
 rw[uD (uG ys.length)] at n
 rw[wI _ _ _ _ qO,xA _ i,p,uN]
 have b:=vF (W64^(o+ys.length) * ·) (iU z 0 c)
 simp only[uK] at b
 rw[uH (W64^(o+ys.length)) W64]
 omega
theorem ZhG (A:qA)(xs:qN)(c:Nat)(w:World)(l:zF .u64 w A xs)(p:xs.length≤4294967296)(g:Dig W64 xs)(m:Trim xs) :
 yA 139 #[.slice A xs.length c] w (RetV w (.int .i64 ((blen (val W64 xs):Nat):Int))):=by
 refine zQ (Φ:=fun w=>zF .u64 w A xs) func139 rfl qK (fun w' n=>l.ext n) ?_
 refine yY (xq 1 [yJ 2 0] [] ?_)
 refine yZ (zC (yY (xq 3 [yB 5 ((((xs.length:Nat):Int):Int) == 0)] [] ?_)))
 refine xe (zA ?_)
 refine yQ (((((xs.length:Nat):Int):Int) == 0)) (fun d=>?_) fun d=>?_
 ·have f:=tG.1 d
  refine yY (xq 1 [yJ 2 0] [] ?_)
  refine yZ (zG (zK ?_))
  refine yR (yI 0) fun w' R Q=>?_
  exact⟨by obtain rfl:xs=[]:=tN.1 qO;rfl,R⟩
 have f:=wF d
 refine zJ (zA (yY (xq 3 [yJ 8 (IntKind.i64.wrap (((xs.length:Nat):Int)-1))] [] ?_)))
 rw[yW (((xs.length:Nat):Int)-1) (((xs.length-1:Nat):Int)) qO]
 refine xq 1 [yJ 9 (IntKind.i64.wrap (64*((xs.length-1:Nat):Int)))] [] ?_
 rw[yW (64*((xs.length-1:Nat):Int)) (((64*(xs.length-1):Nat):Int)) qO]
 refine xq 4 [eS1 10 A xs.length c,yJ 13 (IntKind.i64.wrap (((xs.length:Nat):Int)-1))] [] ?_
 rw[yW (((xs.length:Nat):Int)-1) (((xs.length-1:Nat):Int)) qO]
 refine xqk 14 (atA A (xs.length-1)) (fun w R Q=>xW (t:=107) (e:=141) (x:=.tmp 10) (ix:=.tmp 13) (len:=xs.length) (cap:=c) (i:=xs.length-1) ((Q).ne (j:=xs.length-1) qO) qO) ?_
 obtain⟨a,b⟩:=yE (xs[xs.length-1]?.getD 0)
 refine xqk 15 (yX (a:Int)) (fun w R Q=>by rw[←b];exact wV (t:=141) (x:=.tmp 14) (Q) (j:=xs.length-1) qO) ?_
 refine xqc 173 [yX (a:Int)] 16 (fun _:Unit=>yI ((blen a:Nat):Int)) _ (fun w R Q=>yN (ZkB a _ (by rw[←b];exact g.getD zI _))) fun q=>?_
 refine xq 1 [(17,.v (yI (IntKind.i64.wrap (((64*(xs.length-1):Nat):Int)+((blen a:Nat):Int)))))] [] ?_
 rw[show IntKind.i64.wrap (((64*(xs.length-1):Nat):Int)+((blen a:Nat):Int))=((blen (val W64 xs):Nat):Int) by rw[Zdc (k:=xs.length-1) g qO m b,IntKind.wrap_i64];have:=xM.2 (show a<2^64 by have h:a<W64:=(by rw[←b];exact g.getD zI _);rw[zR] at h;exact h);omega]
 refine xq 1 [yJ 2 ((blen (val W64 xs):Nat):Int)] [] ?_
 refine yZ (zG ?_)
 refine yR (yI ((blen (val W64 xs):Nat):Int)) fun w' R Q=>?_
 exact⟨rfl,R⟩
theorem Zjl (A:qA)(xs:qN)(c:Nat)(w:World)(u:zF .u64 w A xs)(B:xs.length≤4294967296)(m:Dig W64 xs)(v:Glob w)(z:0<val W64 xs) :
 yA 171 #[.slice A xs.length c] w (RetV w (.int .i64 ((tzn (val W64 xs):Nat):Int))):=by
 refine zQ (Φ:=fun w=>(zF .u64 w A xs∧Glob w)) func171 rfl qK (fun w' p=>⟨u.ext p,v.ext p⟩) ?_
 refine yY (xq 1 [yJ 2 0] [] ?_)
 refine yZ (yY (xq 1 [yJ 3 0] [] ?_))
 refine yZ (zC (zO ?_))
 refine yC [eS1 0 A xs.length c,yJ 2 0,yJ 3 ((0:Nat):Int)] [] (fun w=>(zF .u64 w A (xs)∧Glob w)) (fun w Q=>⟨Q.1,Q.2⟩) ?_
 refine xQ (fun q r s=>∃ (k:Nat),r=ofL [eS1 0 A xs.length c,yJ 2 0,yJ 3 (k:Int)] []∧s=(fun w=>(zF .u64 w A (xs)∧Glob w))∧(ZerR xs k)∧q=(xs.length-k)) ((xs.length-0)) ⟨0,rfl,rfl,ZerR.start xs,rfl⟩ ?_
 rintro q r s ⟨k,rfl,rfl,n,rfl⟩
 refine zC (zC ?_)
 have h:=n.lt z
 refine zB (xq 2 [eS1 4 A xs.length c,yJ 5 (k:Int)] [] ?_)
 refine xqk 6 (atA A k) (fun w R Q=>xW (t:=107) (e:=141) (x:=.tmp 4) (ix:=.tmp 5) (len:=xs.length) (cap:=c) (i:=k) ((Q.1).ne (j:=k) qO) qO) ?_
 obtain⟨b,a⟩:=yE (xs[k]?.getD 0)
 refine xqk 7 (yX (b:Int)) (fun w R Q=>by rw[←a];exact wV (t:=141) (x:=.tmp 6) (Q.1) (j:=k) qO) ?_
 refine xq 1 [yB 8 (((b:Int):Int) == 0)] [] ?_
 refine xe (zA ?_)
 refine yQ ((((b:Int):Int) == 0)) (fun d=>?_) fun d=>?_
 ·have g:=tG.1 d
  refine zJ (zA (zO (zB (xq 2 [yJ 10 (IntKind.i64.wrap ((k:Int)+1))] [] ?_))))
  rw[yW ((k:Int)+1) (((k+1:Nat):Int)) qO]
  refine xq 1 [yJ 3 ((k+1:Nat):Int)] [] ?_
  refine xe (xN ?_)
  refine yP [eS1 0 A xs.length c,yJ 2 0,yJ 3 (((k+1):Nat):Int)] [] (fun w=>(zF .u64 w A (xs)∧Glob w)) (fun w Q=>⟨Q.1,Q.2⟩) ?_
  exact xE ((xs.length-(k+1))) qO ⟨(k+1),rfl,rfl,(n.step h (by rw[a];omega)),rfl⟩
 have g:=wF d
 refine xL (zH (zH (xT (zA (yY (xq 2 [yJ 12 (IntKind.i64.wrap (64*(k:Int)))] [] ?_))))))
 rw[yW (64*(k:Int)) (((64*k:Nat):Int)) qO]
 refine xq 2 [eS1 13 A xs.length c,yJ 14 (k:Int)] [] ?_
 refine xqk 15 (atA A k) (fun w R Q=>xW (t:=107) (e:=141) (x:=.tmp 13) (ix:=.tmp 14) (len:=xs.length) (cap:=c) (i:=k) ((Q.1).ne (j:=k) qO) qO) ?_
 obtain⟨l,f⟩:=yE (xs[k]?.getD 0)
 refine xqk 16 (yX (l:Int)) (fun w R Q=>by rw[←f];exact wV (t:=141) (x:=.tmp 15) (Q.1) (j:=k) qO) ?_
 obtain rfl:b=l:=by rw[←a,f]
 refine xqc 200 [yX (b:Int)] 17 (fun _:Unit=>yI ((tzn b:Nat):Int)) _ (fun w R Q=>yN (Zl4 b _ Q.2 qO (by rw[←a];exact m.getD zI _))) fun C=>?_
 refine xq 1 [yJ 18 (IntKind.i64.wrap (((64*k:Nat):Int)+((tzn b:Nat):Int)))] [] ?_
 rw[show IntKind.i64.wrap (((64*k:Nat):Int)+((tzn b:Nat):Int))=((tzn (val W64 xs):Nat):Int) by rw[n.done m h a qO,IntKind.wrap_i64];have:=ZerR.bound m a qO;omega]
 refine xq 1 [yJ 2 ((tzn (val W64 xs):Nat):Int)] [] ?_
 refine yZ (zG ?_)
 refine yR (yI ((tzn (val W64 xs):Nat):Int)) fun w' R Q=>?_
 exact⟨rfl,R⟩
theorem Zl6 (A:qA)(xs:qN)(c:Nat)(w:World)(m:zF .u64 w A xs)(l:Dig W64 xs)(i:Nat)(hi:i≤274877906944) :
 yA 170 #[.slice A xs.length c,.int .i64 ((i:Nat):Int)] w (RetV w (.bool (decide (val W64 xs/2^i%2=1)))):=by
 refine zQ (Φ:=fun w=>zF .u64 w A xs) func170 rfl qK (fun w' p=>m.ext p) ?_
 refine yY (xq 1 [yB 4 false] [] ?_)
 refine yZ (yY (xq 2 [(6,.v (yI (IntKind.i64.wrap (((i:Int)).tdiv 64))))] [] ?_))
 rw[show IntKind.i64.wrap ((((i:Int)).tdiv 64))=((i/64:Nat):Int) from tdq (i) 64 qO]
 refine xq 4 [yB 10 (decide (((i/64:Nat):Int)<((xs.length:Nat):Int)))] [] ?_
 rcases bl2 ((decide (((i/64:Nat):Int)<((xs.length:Nat):Int)))) with b|b
 ·rw[b]
  have g:=uA b
  have h:i/64<xs.length:=qO
  refine xq 3 [eS1 11 A xs.length c,(13,.v (yI (IntKind.i64.wrap (((i:Int)).tdiv 64))))] [] ?_
  rw[show IntKind.i64.wrap ((((i:Int)).tdiv 64))=((i/64:Nat):Int) from tdq (i) 64 qO]
  refine xqk 14 (atA A (i/64)) (fun w R Q=>xW (t:=107) (e:=141) (x:=.tmp 11) (ix:=.tmp 13) (len:=xs.length) (cap:=c) (i:=i/64) ((Q).ne (j:=i/64) qO) qO) ?_
  obtain⟨d,f⟩:=yE (xs[i/64]?.getD 0)
  refine xqk 15 (yX (d:Int)) (fun w R Q=>by rw[←f];exact wV (t:=141) (x:=.tmp 14) (Q) (j:=i/64) qO) ?_
  refine xq 2 [yJ 17 (((i:Int)).tmod 64)] [] ?_
  rw[show ((i:Int)).tmod 64=((i%64:Nat):Int) from tdr (i) 64]
  refine xqk 18 (yX ((d/2^(i%64):Nat):Int)) (fun w R Q=>ZgJ (t:=141) (x:=.tmp 15) (y:=.tmp 17) (k:=3) (ky:=.i64) (a:=d) (n:=(i%64)) qO) ?_
  refine xqk 19 (yX (((d/2^(i%64))%2:Nat):Int)) (fun w R Q=>ZnB (t:=141) (x:=.tmp 18) (y:=(Operand.const (Value.int IntKind.u64 1))) (k:=141) (a:=(d/2^(i%64))) (ha:=tF (vN _ _) (by rw[←f];exact l.getD zI _))) ?_
  refine xq 1 [(20,.v (.bool (((((d/2^(i%64))%2:Nat):Int):Int) == 1)))] [] ?_
  rw[show ((((d/2^(i%64))%2:Nat):Int) == 1)=decide (val W64 xs/2^i%2=1) from (Zoq _).trans (by rw[ZnD l h f])]
  refine xq 2 [yB 4 (decide (val W64 xs/2^i%2=1))] [] ?_
  refine yZ (zG ?_)
  refine yR (.bool (decide (val W64 xs/2^i%2=1))) fun w' R Q=>?_
  exact⟨rfl,R⟩
 rw[b]
 have g:=uB b
 have h:¬ i/64<xs.length:=qO
 refine xq 12 [yB 4 false] [] ?_
 refine yZ (zG ?_)
 refine yR (.bool false) fun w' R Q=>?_
 exact⟨by rw[Zl5 l h];rfl,R⟩
theorem ZnE {xs ys:qN}{j x y:Nat}(c:j<xs.length)(d:j<ys.length)(h:xs.drop (j+1)=ys.drop (j+1))(a:xs[j]?.getD 0=x)(b:ys[j]?.getD 0=y)(e:x=y):xs.drop j=ys.drop j:=by
 subst e
 rw[sB c,sB d,h]
 rw[uO c] at a
 rw[uO d] at b
 simp only[pF] at a b
 rw[a,b]
theorem ZgO (A d:qA)(xs ys:qN)(c q:Nat)(w:World)(T:zF .u64 w A xs)(U:zF .u64 w d ys)(W:xs.length≤4294967296)(H:Dig W64 xs)(I:Dig W64 ys)(J:Trim xs)(K:Trim ys) :
 yA 136 #[.slice A xs.length c,.slice d ys.length q] w (RetV w (.int .i64 (cmpI ((val W64 xs:Nat):Int) ((val W64 ys:Nat):Int)))):=by
 refine zQ (Φ:=fun w=>(zF .u64 w A xs∧zF .u64 w d ys)) func136 rfl qK (fun w' L=>⟨T.ext L,U.ext L⟩) ?_
 refine yY (xq 1 [yJ 4 0] [] ?_)
 refine yZ (zC (yY (xq 5 [yB 10 ((((xs.length:Nat):Int):Int) != ((ys.length:Nat):Int))] [] ?_)))
 refine xe (zA ?_)
 refine yQ (((((xs.length:Nat):Int):Int) != ((ys.length:Nat):Int))) (fun h=>?_) fun h=>?_
 ·have u:=Zco h
  refine zC (yY (xq 5 [yB 15 (decide (((xs.length:Nat):Int)<((ys.length:Nat):Int)))] [] ?_))
  refine xe (zA ?_)
  refine yQ ((decide (((xs.length:Nat):Int)<((ys.length:Nat):Int)))) (fun l=>?_) fun l=>?_
  ·have z:=uA l
   refine yY (xq 1 [yJ 4 (-1)] [] ?_)
   refine yZ (zG (zK (zK ?_)))
   refine yR (yI (-1)) fun w' R Q=>?_
   exact⟨by rw[←ZeA H I J K qO,eW qO],R⟩
  have z:=uB l
  refine zJ (zA (yY (xq 1 [yJ 4 1] [] ?_)))
  refine yZ (zG (zK ?_))
  refine yR (yI 1) fun w' R Q=>?_
  exact⟨by rw[←ZeA H I J K qO,dZ qO],R⟩
 have u:=Zcp h
 refine zJ (zA (zC (yY (xq 3 [yJ 18 (IntKind.i64.wrap (((xs.length:Nat):Int)-1))] [] ?_))))
 rw[yW (((xs.length:Nat):Int)-1) (((xs.length:Nat):Int)-1) qO]
 refine xq 1 [yJ 5 (((xs.length:Nat):Int)-1)] [] ?_
 refine yZ (zO ?_)
 refine yC [eS1 0 A xs.length c,eS1 1 d ys.length q,yJ 4 0,yJ 5 (((xs.length:Nat):Int)-1)] [] (fun w=>(zF .u64 w A (xs)∧zF .u64 w d (ys))) (fun w Q=>⟨Q.1,Q.2⟩) ?_
 refine xQ (fun M O S=>∃ (k:Nat),O=ofL [eS1 0 A xs.length c,eS1 1 d ys.length q,yJ 4 0,yJ 5 ((k:Int)-1)] []∧S=(fun w=>(zF .u64 w A (xs)∧zF .u64 w d (ys)))∧(xs.drop k=ys.drop k)∧(k≤xs.length)∧M=(1+k)) ((1+xs.length)) ⟨xs.length,rfl,rfl,(by rw[vG (uG _),vG qO]),uG _,rfl⟩ ?_
 rintro M O S ⟨k,rfl,rfl,E,X,rfl⟩
 refine zC (yY (xq 2 [(20,.v (.bool (decide (((k:Int)-1)≥0))))] [] ?_))
 refine xe (zA ?_)
 refine yQ ((decide (((k:Int)-1)≥0))) (fun m=>?_) fun m=>?_
 ·have B:=uA m
  obtain⟨j,rfl⟩:∃ j,k=j+1:=⟨k-1,qO⟩
  rw[show ((((j+1):Nat):Int)-1)=(j:Int) by omega]
  refine zJ (zA (zC (zO (zC ?_))))
  refine yO 9 zN ?_
  refine xqf 2 [eS1 23 A xs.length c,yJ 24 (j:Int)] [] ?_
  refine xqj 25 (atA A j) (fun w Q=>xW (t:=107) (e:=141) (x:=.tmp 23) (ix:=.tmp 24) (len:=xs.length) (cap:=c) (i:=j) ((Q.1).ne (j:=j) qO) qO) ?_
  obtain⟨f,a⟩:=yE (xs[j]?.getD 0)
  refine xqj 26 (yX (f:Int)) (fun w Q=>by rw[←a];exact wV (t:=141) (x:=.tmp 25) (Q.1) (j:=j) qO) ?_
  refine xqf 2 [eS1 27 d ys.length q,yJ 28 (j:Int)] [] ?_
  refine xqj 29 (atA d j) (fun w Q=>xW (t:=107) (e:=141) (x:=.tmp 27) (ix:=.tmp 28) (len:=ys.length) (cap:=q) (i:=j) ((Q.2).ne (j:=j) qO) qO) ?_
  obtain⟨g,b⟩:=yE (ys[j]?.getD 0)
  refine xqj 30 (yX (g:Int)) (fun w Q=>by rw[←b];exact wV (t:=141) (x:=.tmp 29) (Q.2) (j:=j) qO) ?_
  refine xqf 1 [yB 31 (((f:Int):Int) != (g:Int))] [] ?_
  refine xz (xe (zA ?_))
  refine yQ ((((f:Int):Int) != (g:Int))) (fun n=>?_) fun n=>?_
  ·have C:=Zco n
   refine zC (zC ?_)
   refine yO 9 zN ?_
   refine xqf 2 [eS1 32 A xs.length c,yJ 33 (j:Int)] [] ?_
   refine xqj 34 (atA A j) (fun w Q=>xW (t:=107) (e:=141) (x:=.tmp 32) (ix:=.tmp 33) (len:=xs.length) (cap:=c) (i:=j) ((Q.1).ne (j:=j) qO) qO) ?_
   obtain⟨F,r⟩:=yE (xs[j]?.getD 0)
   refine xqj 35 (yX (F:Int)) (fun w Q=>by rw[←r];exact wV (t:=141) (x:=.tmp 34) (Q.1) (j:=j) qO) ?_
   obtain rfl:f=F:=by rw[←a,r]
   refine xqf 2 [eS1 36 d ys.length q,yJ 37 (j:Int)] [] ?_
   refine xqj 38 (atA d j) (fun w Q=>xW (t:=107) (e:=141) (x:=.tmp 36) (ix:=.tmp 37) (len:=ys.length) (cap:=q) (i:=j) ((Q.2).ne (j:=j) qO) qO) ?_
   obtain⟨G,s⟩:=yE (ys[j]?.getD 0)
   refine xqj 39 (yX (G:Int)) (fun w Q=>by rw[←s];exact wV (t:=141) (x:=.tmp 38) (Q.2) (j:=j) qO) ?_
   obtain rfl:g=G:=by rw[←b,s]
   refine xqf 1 [yB 40 (decide ((f:Int)<(g:Int)))] [] ?_
   refine xz (xe (zA ?_))
   refine yQ ((decide ((f:Int)<(g:Int)))) (fun p=>?_) fun p=>?_
   ·have D:=uA p
    refine yY (xq 1 [yJ 4 (-1)] [] ?_)
    refine yZ (zG (zK (xY (zK (zK (xY (zK ?_)))))))
    refine yR (yI (-1)) fun w' R Q=>?_
    exact⟨by rw[←Zb7 H I qO (k:=j) qO E a b qO,eW qO],R⟩
   have D:=uB p
   refine zJ (zA (yY (xq 1 [yJ 4 1] [] ?_)))
   refine yZ (zG (xY (zK (zK (xY (zK ?_))))))
   refine yR (yI 1) fun w' R Q=>?_
   exact⟨by rw[←Zb7 H I qO (k:=j) qO E a b qO,dZ qO],R⟩
  have C:=Zcp n
  have V:xs.drop j=ys.drop j:=ZnE qO qO E a b qO
  refine zJ (xN (zA (zB (xq 2 [yJ 22 (IntKind.i64.wrap ((j:Int)-1))] [] ?_))))
  rw[yW ((j:Int)-1) ((j:Int)-1) qO]
  refine xq 1 [yJ 5 ((j:Int)-1)] [] ?_
  refine xe ?_
  refine yP [eS1 0 A xs.length c,eS1 1 d ys.length q,yJ 4 0,yJ 5 ((j:Int)-1)] [] (fun w=>(zF .u64 w A (xs)∧zF .u64 w d (ys))) (fun w Q=>⟨Q.1,Q.2⟩) ?_
  exact xE ((1+j)) qO ⟨j,rfl,rfl,V,qO,rfl⟩
 have B:=uB m
 obtain rfl:k=0:=qO
 refine xL (zH (zH (xT (zA (yY (xq 1 [yJ 4 0] [] ?_))))))
 refine yZ (zG ?_)
 refine yR (yI 0) fun w' R Q=>?_
 exact⟨by rw[tX,tX] at E;rw[E,Zb6],R⟩
def Zor (b:Nat) (xs:List Nat) (u:Nat) (w:World) (e:Ending) (w':World):Prop:=∃ qs,e=.returned (.int .u64 ((val W64 xs%u:Nat):Int))∧(qs.length=xs.length∧Dig W64 qs∧val W64 qs=val W64 xs/u)∧Fr (fun i=>i=b) w w'∧Own .u64 141 w' b qs
theorem Zas (b c:Nat)(xs:qN)(u:Nat)(w:World)(m:Own .u64 141 w b xs)(D:xs.length≤4294967296)(z:Dig W64 xs)(A:0<u)(n:u<W64) :
 yA 146 #[.slice (some ⟨b,0,none⟩) xs.length c,.int .u64 ((u:Nat):Int)] w (Zor b xs u w):=by
 refine dF (fun i=>i=b) (Φ:=fun w=>Own .u64 141 w b xs) func146 rfl qK (fun w' B=>m.ext B) ?_
 refine yY (xq 1 [yU 4 0] [] ?_)
 refine yZ (yY (xq 1 [yU 5 0] [] ?_))
 refine yZ (zC (yY (xq 3 [yJ 9 (IntKind.i64.wrap (((xs.length:Nat):Int)-1))] [] ?_)))
 rw[yW (((xs.length:Nat):Int)-1) (((xs.length:Nat):Int)-1) qO]
 refine xq 1 [yJ 6 (((xs.length:Nat):Int)-1)] [] ?_
 refine yZ (zO ?_)
 refine yC [eS1 0 (yL b) xs.length c,yU 1 (u:Int),yU 4 0,yU 5 ((0:Nat):Int),yJ 6 (((xs.length:Nat):Int)-1)] [] (fun w=>Own .u64 141 w b (xs)) (fun w Q=>Q) ?_
 refine xQ (fun p q s=>∃ (k:Nat) (r:Nat) (h:List Nat),q=ofL [eS1 0 (yL b) xs.length c,yU 1 (u:Int),yU 4 0,yU 5 (r:Int),yJ 6 ((k:Int)-1)] []∧s=(fun w=>Own .u64 141 w b (h))∧(DwR xs u k h r)∧(k≤xs.length)∧p=(1+k)) ((1+xs.length)) ⟨xs.length,0,xs,rfl,rfl,DwR.start z A,uG _,rfl⟩ ?_
 rintro p q s ⟨k,r,h,rfl,rfl,g,E,rfl⟩
 refine zC (yY (xq 2 [(11,.v (.bool (decide (((k:Int)-1)≥0))))] [] ?_))
 refine xe (zA ?_)
 refine yQ ((decide (((k:Int)-1)≥0))) (fun f=>?_) fun f=>?_
 ·have l:=uA f
  obtain⟨j,rfl⟩:∃ j,k=j+1:=⟨k-1,qO⟩
  rw[show ((((j+1):Nat):Int)-1)=(j:Int) by omega]
  have C:=g.1.1
  refine zJ (zA (zC (zO (zB (xq 5 [eS1 15 (yL b) xs.length c,yJ 16 (j:Int),yU 17 (r:Int),eS1 18 (yL b) xs.length c,yJ 19 (j:Int)] [] ?_)))))
  refine xqk 20 (.pointer (some ⟨b,j,none⟩)) (fun w R Q=>lT (t:=107) (e:=141) (x:=.tmp 18) (ix:=.tmp 19) (len:=xs.length) (cap:=c) (i:=j) qO) ?_
  obtain⟨a,d⟩:=yE (h[j]?.getD 0)
  refine xqk 21 (yX (a:Int)) (fun w R Q=>by rw[←d];exact iG (t:=141) (x:=.tmp 20) (Q) (j:=j) qO) ?_
  refine xq 1 [yU 22 (u:Int)] [] ?_
  refine xqc 174 [yX (r:Int), yX (a:Int), yX (u:Int)] 23 (fun _:Unit=>.tuple #[yX ((divQ r a u:Nat):Int), yX ((divR r a u:Nat):Int)]) _ (fun w R Q=>yN (Zfn r a u _ g.1.2.2.1 n (by rw[←d];exact g.1.2.1.getD zI _))) fun F=>?_
  refine xq 3 [yU 24 ((divQ r a u:Nat):Int),yU 25 ((divR r a u:Nat):Int)] [] ?_
  refine xqk 26 (.pointer (some ⟨b,j,none⟩)) (fun w R Q=>lT (t:=107) (e:=141) (x:=.tmp 15) (ix:=.tmp 16) (len:=xs.length) (cap:=c) (i:=j) qO) ?_
  refine jD (t:=141) (x:=.tmp 26) (y:=.tmp 24) b (j) (divQ r a u) (fun w=>(Own .u64 141 w b ((h).set (j) (divQ r a u))∧True)) (fun w Q=>Q.1) qO (Or.inr rfl) (fun w w' Q G m=>⟨m,trivial⟩) ?_
  refine xq 1 [yU 5 ((divR r a u:Nat):Int)] [] ?_
  refine xe (xN (zA (zB (xq 2 [yJ 13 (IntKind.i64.wrap ((j:Int)-1))] [] ?_))))
  rw[yW ((j:Int)-1) ((j:Int)-1) qO]
  refine xq 1 [yJ 6 ((j:Int)-1)] [] ?_
  refine xe ?_
  refine yP [eS1 0 (yL b) xs.length c,yU 1 (u:Int),yU 4 0,yU 5 (((divR r a u):Nat):Int),yJ 6 ((j:Int)-1)] [] (fun w=>Own .u64 141 w b (((h).set (j) (divQ r a u)))) (fun w Q=>Q.1) ?_
  exact xE ((1+j)) qO ⟨j,(divR r a u),((h).set (j) (divQ r a u)),rfl,rfl,(g.step qO d (by rw[←d];exact g.1.2.1.getD zI _)),qO,rfl⟩
 have l:=uB f
 obtain rfl:k=0:=qO
 refine xL (zH (zH (xT (zA (yY (xq 2 [yU 4 (r:Int)] [] ?_))))))
 refine yZ (zG ?_)
 refine yR (yX (r:Int)) fun w' R Q=>?_
 exact⟨h,by rw[g.1.done.2],⟨g.1.1,g.1.2.1,g.1.done.1⟩,R,Q⟩
def Zii (b:Nat) (w:World) (p:List Nat→Nat→Prop) (e:Ending) (w':World):Prop:=∃ x:List Nat × Nat,e=.returned (.bool (((x.2:Nat):Int) == 1))∧p x.1 x.2∧Fr (fun i=>i=b) w w'∧Own .u64 141 w' b x.1
theorem ZgP (b c o:Nat)(m ys:qN)(A:qA)(p:Nat)(w:World)(D:Own .u64 141 w b m)(T:zF .u64 w A ys)(K:∀ a,A=some a→a.block≠b)(V:o+ys.length<m.length)(W:m.length≤4294967296)(U:Dig W64 m)(E:Dig W64 ys)(q:Nat)(F:q<W64) :
 yA 220 #[.slice (some ⟨b,o,none⟩) (ys.length+1) c,.slice A ys.length p,.int .u64 ((q:Nat):Int)] w (Zii b w (Zcu m ys q o)):=by
 refine dF (fun i=>i=b) (Φ:=fun w=>(Own .u64 141 w b m∧zF .u64 w A ys)) func220 rfl qK (fun w' L=>⟨D.ext L,T.ext L⟩) ?_
 refine yY (xq 1 [yB 6 false] [] ?_)
 refine yZ (yY (xq 2 [yU 7 0,yU 8 0] [] ?_))
 refine yZ (zC (yY (xq 3 [eS1 14 A ys.length p,yJ 15 ((ys.length:Nat):Int),yJ 16 0] [] ?_)))
 refine yZ (zO ?_)
 refine yC [eS1 0 (some ⟨b,o,none⟩) (ys.length+1) c,eS1 1 A ys.length p,yU 2 (q:Int),yB 6 false,yU 7 ((0:Nat):Int),yU 8 ((0:Nat):Int),eS1 14 A ys.length p,yJ 15 ((ys.length:Nat):Int),yJ 16 ((0:Nat):Int)] [] (fun w=>(Own .u64 141 w b (m)∧zF .u64 w A (ys))) (fun w Q=>⟨Q.1,Q.2⟩) ?_
 refine xQ (fun M O S=>∃ (f g k:Nat) (s:List Nat),O=ofL [eS1 0 (some ⟨b,o,none⟩) (ys.length+1) c,eS1 1 A ys.length p,yU 2 (q:Int),yB 6 false,yU 7 (f:Int),yU 8 (g:Int),eS1 14 A ys.length p,yJ 15 ((ys.length:Nat):Int),yJ 16 (k:Int)] []∧S=(fun w=>(Own .u64 141 w b (s)∧zF .u64 w A (ys)))∧(SpR m ys q o k s f g)∧(k≤ys.length)∧M=(ys.length-k)) ((ys.length-0)) ⟨0,0,0,m,rfl,rfl,SpR.start ys q o U,qO,rfl⟩ ?_
 rintro M O S ⟨f,g,k,s,rfl,rfl,B,X,rfl⟩
 refine yY (xq 1 [yB 17 (decide ((k:Int)<((ys.length:Nat):Int)))] [] ?_)
 refine yZ (zC ?_)
 refine yQ ((decide ((k:Int)<((ys.length:Nat):Int)))) (fun r=>?_) fun r=>?_
 ·have C:=uA r
  have G:=B.1
  have H:=B.2.2.2.1
  refine zJ (zA (zC (zO (yY (xq 1 [yJ 18 (k:Int)] [] ?_)))))
  refine xqk 19 (atA A k) (fun w R Q=>xW (t:=107) (e:=141) (x:=.tmp 14) (ix:=.tmp 16) (len:=ys.length) (cap:=p) (i:=k) ((Q.2).ne (j:=k) qO) qO) ?_
  obtain⟨d,n⟩:=yE (ys[k]?.getD 0)
  refine xqk 20 (yX (d:Int)) (fun w R Q=>by rw[←n];exact wV (t:=141) (x:=.tmp 19) (Q.2) (j:=k) qO) ?_
  refine xq 2 [yJ 9 (k:Int),yU 10 (d:Int)] [] ?_
  refine yZ (yY (xq 2 [yU 22 (d:Int),yU 23 (q:Int)] [] ?_))
  refine xqc 161 [yX (d:Int), yX (q:Int)] 24 (fun _:Unit=>.tuple #[yX ((xV d q:Nat):Int), yX ((zT d q:Nat):Int)]) _ (fun w R Q=>yN (Zcq d q _ (by rw[←n];exact E.getD zI _) F)) fun Y=>?_
  refine xq 5 [yU 11 ((xV d q:Nat):Int),yU 12 ((zT d q:Nat):Int)] [] ?_
  refine yZ (yY (xq 2 [yU 28 ((zT d q:Nat):Int),yU 29 (f:Int)] [] ?_))
  refine xqk 30 (.tuple #[yX ((zX (zT d q) f 0:Nat):Int), yX ((xD (zT d q) f 0:Nat):Int)]) (fun w R Q=>gG (args:=[Operand.tmp 28,Operand.tmp 29,Operand.const (Value.int IntKind.u64 0)]) (ts:=#[141,141,141]) (iN (zT d q) f 0 qO w)) ?_
  refine xq 5 [yU 12 ((zX (zT d q) f 0:Nat):Int),yU 13 ((xD (zT d q) f 0:Nat):Int)] [] ?_
  refine yZ (yY (xq 3 [(35,.v (yX (IntKind.u64.wrap (((xV d q:Nat):Int)+((xD (zT d q) f 0:Nat):Int)))))] [] ?_))
  rw[Zef (a:=xV d q) (b:=xD (zT d q) f 0) (ZgN (by rw[←n];exact E.getD zI _) F B.2.2.1)]
  refine xq 1 [yU 7 ((xV d q+xD (zT d q) f 0:Nat):Int)] [] ?_
  refine yZ (zB (xq 4 [eS1 37 (some ⟨b,o,none⟩) (ys.length+1) c,yJ 38 (k:Int),eS1 39 (some ⟨b,o,none⟩) (ys.length+1) c,yJ 40 (k:Int)] [] ?_))
  refine xqk 41 (.pointer (some ⟨b,o+k,none⟩)) (fun w R Q=>kY (t:=107) (e:=141) (x:=.tmp 39) (ix:=.tmp 40) (len:=(ys.length+1)) (cap:=c) (i:=k) qO) ?_
  obtain⟨h,u⟩:=yE (s[o+k]?.getD 0)
  refine xqk 42 (yX (h:Int)) (fun w R Q=>by rw[←u];exact iG (t:=141) (x:=.tmp 41) (Q.1.1) (j:=o+k) qO) ?_
  refine xq 2 [yU 43 ((zX (zT d q) f 0:Nat):Int),yU 44 (g:Int)] [] ?_
  refine xqk 45 (.tuple #[yX ((lD h (zX (zT d q) f 0) g:Nat):Int), yX ((lE h (zX (zT d q) f 0) g:Nat):Int)]) (fun w R Q=>gG (args:=[Operand.tmp 42,Operand.tmp 43,Operand.tmp 44]) (ts:=#[141,141,141]) (iO h (zX (zT d q) f 0) g qO w)) ?_
  refine xq 3 [yU 46 ((lD h (zX (zT d q) f 0) g:Nat):Int),yU 47 ((lE h (zX (zT d q) f 0) g:Nat):Int)] [] ?_
  refine xqk 48 (.pointer (some ⟨b,o+k,none⟩)) (fun w R Q=>kY (t:=107) (e:=141) (x:=.tmp 37) (ix:=.tmp 38) (len:=(ys.length+1)) (cap:=c) (i:=k) qO) ?_
  refine jD (t:=141) (x:=.tmp 48) (y:=.tmp 46) b (o+k) (lD h (zX (zT d q) f 0) g) (fun w=>((Own .u64 141 w b ((s).set (o+k) (lD h (zX (zT d q) f 0) g))∧zF .u64 w A (ys))∧True)) (fun w Q=>Q.1.1) qO (Or.inr rfl) (fun w w' Q I D=>⟨⟨D,((Q.1.2).fr I (fun a J _=>K a J))⟩,trivial⟩) ?_
  refine xr 1 [eS1 0 (some ⟨b,o,none⟩) (ys.length+1) c,eS1 1 A ys.length p,yU 2 (q:Int),yB 6 false,yU 7 ((xV d q+xD (zT d q) f 0:Nat):Int),yU 8 ((lE h (zX (zT d q) f 0) g:Nat):Int),eS1 14 A ys.length p,yJ 15 ((ys.length:Nat):Int),yJ 16 (k:Int)] [] ?_
  refine xe (xN (zA (zB (xq 1 [yJ 49 (IntKind.i64.wrap ((k:Int)+1))] [] ?_))))
  rw[yW ((k:Int)+1) (((k+1:Nat):Int)) qO]
  refine xq 1 [yJ 16 ((k+1:Nat):Int)] [] ?_
  refine xe ?_
  refine yP [eS1 0 (some ⟨b,o,none⟩) (ys.length+1) c,eS1 1 A ys.length p,yU 2 (q:Int),yB 6 false,yU 7 (((xV d q+xD (zT d q) f 0):Nat):Int),(8,.v (yX (((lE h (zX (zT d q) f 0) g):Nat):Int))),eS1 14 A ys.length p,yJ 15 ((ys.length:Nat):Int),yJ 16 (((k+1):Nat):Int)] [] (fun w=>(Own .u64 141 w b (((s).set (o+k) (lD h (zX (zT d q) f 0) g)))∧zF .u64 w A (ys))) (fun w Q=>⟨Q.1.1,Q.1.2⟩) ?_
  exact xE ((ys.length-(k+1))) qO ⟨(xV d q+xD (zT d q) f 0),(lE h (zX (zT d q) f 0) g),(k+1),((s).set (o+k) (lD h (zX (zT d q) f 0) g)),rfl,rfl,(B.step qO n u E F),qO,rfl⟩
 have C:=uB r
 have G:=B.1
 have H:=B.2.2.2.1
 obtain rfl:k=ys.length:=qO
 refine xL (zH (zH (xT (zA (yY (xq 6 [eS1 51 (some ⟨b,o,none⟩) (ys.length+1) c,yJ 53 ((ys.length:Nat):Int),eS1 54 (some ⟨b,o,none⟩) (ys.length+1) c,yJ 56 ((ys.length:Nat):Int)] [] ?_))))))
 refine xqk 57 (.pointer (some ⟨b,o+ys.length,none⟩)) (fun w R Q=>kY (t:=107) (e:=141) (x:=.tmp 54) (ix:=.tmp 56) (len:=(ys.length+1)) (cap:=c) (i:=ys.length) qO) ?_
 obtain⟨l,z⟩:=yE (s[o+ys.length]?.getD 0)
 refine xqk 58 (yX (l:Int)) (fun w R Q=>by rw[←z];exact iG (t:=141) (x:=.tmp 57) (Q.1) (j:=o+ys.length) qO) ?_
 refine xq 2 [yU 59 (f:Int),yU 60 (g:Int)] [] ?_
 refine xqk 61 (.tuple #[yX ((lD l f g:Nat):Int), yX ((lE l f g:Nat):Int)]) (fun w R Q=>gG (args:=[Operand.tmp 58,Operand.tmp 59,Operand.tmp 60]) (ts:=#[141,141,141]) (iO l f g qO w)) ?_
 refine xq 3 [yU 62 ((lD l f g:Nat):Int),yU 63 ((lE l f g:Nat):Int)] [] ?_
 refine xqk 64 (.pointer (some ⟨b,o+ys.length,none⟩)) (fun w R Q=>kY (t:=107) (e:=141) (x:=.tmp 51) (ix:=.tmp 53) (len:=(ys.length+1)) (cap:=c) (i:=ys.length) qO) ?_
 refine jD (t:=141) (x:=.tmp 64) (y:=.tmp 62) b (o+ys.length) (lD l f g) (fun w=>(Own .u64 141 w b ((s).set (o+ys.length) (lD l f g))∧zF .u64 w A (ys))) (fun w Q=>Q.1) qO (Or.inr rfl) (fun w w' Q I D=>⟨D,((Q.2).fr I (fun a J _=>K a J))⟩) ?_
 refine xq 1 [yU 8 ((lE l f g:Nat):Int)] [] ?_
 refine yZ (yY (xq 3 [yB 6 ((((lE l f g:Nat):Int):Int) == 1)] [] ?_))
 refine yZ (zG ?_)
 refine yR (.bool ((((lE l f g:Nat):Int):Int) == 1)) fun w' R Q=>?_
 exact⟨(_,_),rfl,B.done qO z,R,Q.1⟩
theorem ZgQ (b c o:Nat)(l ys:qN)(A:qA)(n:Nat)(w:World)(z:Own .u64 141 w b l)(K:zF .u64 w A ys)(F:∀ a,A=some a→a.block≠b)(O:o+ys.length<l.length)(S:l.length≤4294967296)(L:Dig W64 l)(M:Dig W64 ys) :
 yA 221 #[.slice (some ⟨b,o,none⟩) (ys.length+1) c,.slice A ys.length n] w (Zii b w (Zcv l ys o)):=by
 refine dF (fun i=>i=b) (Φ:=fun w=>(Own .u64 141 w b l∧zF .u64 w A ys)) func221 rfl qK (fun w' G=>⟨z.ext G,K.ext G⟩) ?_
 refine yY (xq 1 [yB 4 false] [] ?_)
 refine yZ (yY (xq 1 [yU 5 0] [] ?_))
 refine yZ (zC (yY (xq 3 [eS1 8 A ys.length n,yJ 9 ((ys.length:Nat):Int),yJ 10 0] [] ?_)))
 refine yZ (zO ?_)
 refine yC [eS1 0 (some ⟨b,o,none⟩) (ys.length+1) c,eS1 1 A ys.length n,yB 4 false,yU 5 ((0:Nat):Int),eS1 8 A ys.length n,yJ 9 ((ys.length:Nat):Int),yJ 10 ((0:Nat):Int)] [] (fun w=>(Own .u64 141 w b (l)∧zF .u64 w A (ys))) (fun w Q=>⟨Q.1,Q.2⟩) ?_
 refine xQ (fun H I J=>∃ (f k:Nat) (p:List Nat),I=ofL [eS1 0 (some ⟨b,o,none⟩) (ys.length+1) c,eS1 1 A ys.length n,yB 4 false,yU 5 (f:Int),eS1 8 A ys.length n,yJ 9 ((ys.length:Nat):Int),yJ 10 (k:Int)] []∧J=(fun w=>(Own .u64 141 w b (p)∧zF .u64 w A (ys)))∧(AbR l ys o k p f)∧(k≤ys.length)∧H=(ys.length-k)) ((ys.length-0)) ⟨0,0,l,rfl,rfl,AbR.start ys o L,qO,rfl⟩ ?_
 rintro H I J ⟨f,k,p,rfl,rfl,v,T,rfl⟩
 refine yY (xq 1 [yB 11 (decide ((k:Int)<((ys.length:Nat):Int)))] [] ?_)
 refine yZ (zC ?_)
 refine yQ ((decide ((k:Int)<((ys.length:Nat):Int)))) (fun m=>?_) fun m=>?_
 ·have u:=uA m
  have B:=v.1
  have C:=v.2.2.1
  refine zJ (zA (zC (zO (yY (xq 1 [yJ 12 (k:Int)] [] ?_)))))
  refine xqk 13 (atA A k) (fun w R Q=>xW (t:=107) (e:=141) (x:=.tmp 8) (ix:=.tmp 10) (len:=ys.length) (cap:=n) (i:=k) ((Q.2).ne (j:=k) qO) qO) ?_
  obtain⟨d,q⟩:=yE (ys[k]?.getD 0)
  refine xqk 14 (yX (d:Int)) (fun w R Q=>by rw[←q];exact wV (t:=141) (x:=.tmp 13) (Q.2) (j:=k) qO) ?_
  refine xq 2 [yJ 6 (k:Int),yU 7 (d:Int)] [] ?_
  refine yZ (zB (xq 4 [eS1 16 (some ⟨b,o,none⟩) (ys.length+1) c,yJ 17 (k:Int),eS1 18 (some ⟨b,o,none⟩) (ys.length+1) c,yJ 19 (k:Int)] [] ?_))
  refine xqk 20 (.pointer (some ⟨b,o+k,none⟩)) (fun w R Q=>kY (t:=107) (e:=141) (x:=.tmp 18) (ix:=.tmp 19) (len:=(ys.length+1)) (cap:=c) (i:=k) qO) ?_
  obtain⟨g,r⟩:=yE (p[o+k]?.getD 0)
  refine xqk 21 (yX (g:Int)) (fun w R Q=>by rw[←r];exact iG (t:=141) (x:=.tmp 20) (Q.1) (j:=o+k) qO) ?_
  refine xq 2 [yU 22 (d:Int),yU 23 (f:Int)] [] ?_
  refine xqk 24 (.tuple #[yX ((zX g d f:Nat):Int), yX ((xD g d f:Nat):Int)]) (fun w R Q=>gG (args:=[Operand.tmp 21,Operand.tmp 22,Operand.tmp 23]) (ts:=#[141,141,141]) (iN g d f qO w)) ?_
  refine xq 3 [yU 25 ((zX g d f:Nat):Int),yU 26 ((xD g d f:Nat):Int)] [] ?_
  refine xqk 27 (.pointer (some ⟨b,o+k,none⟩)) (fun w R Q=>kY (t:=107) (e:=141) (x:=.tmp 16) (ix:=.tmp 17) (len:=(ys.length+1)) (cap:=c) (i:=k) qO) ?_
  refine jD (t:=141) (x:=.tmp 27) (y:=.tmp 25) b (o+k) (zX g d f) (fun w=>(Own .u64 141 w b ((p).set (o+k) (zX g d f))∧zF .u64 w A (ys))) (fun w Q=>Q.1) qO (Or.inr rfl) (fun w w' Q D z=>⟨z,((Q.2).fr D (fun a E _=>F a E))⟩) ?_
  refine xq 1 [yU 5 ((xD g d f:Nat):Int)] [] ?_
  refine xe (xN (zA (zB (xq 1 [yJ 28 (IntKind.i64.wrap ((k:Int)+1))] [] ?_))))
  rw[yW ((k:Int)+1) (((k+1:Nat):Int)) qO]
  refine xq 1 [yJ 10 ((k+1:Nat):Int)] [] ?_
  refine xe ?_
  refine yP [eS1 0 (some ⟨b,o,none⟩) (ys.length+1) c,eS1 1 A ys.length n,yB 4 false,yU 5 (((xD g d f):Nat):Int),eS1 8 A ys.length n,yJ 9 ((ys.length:Nat):Int),yJ 10 (((k+1):Nat):Int)] [] (fun w=>(Own .u64 141 w b (((p).set (o+k) (zX g d f)))∧zF .u64 w A (ys))) (fun w Q=>⟨Q.1,Q.2⟩) ?_
  exact xE ((ys.length-(k+1))) qO ⟨(xD g d f),(k+1),((p).set (o+k) (zX g d f)),rfl,rfl,(v.step qO q r M),qO,rfl⟩
 have u:=uB m
 have B:=v.1
 have C:=v.2.2.1
 obtain rfl:k=ys.length:=qO
 refine xL (zH (zH (xT (zA (yY (xq 6 [eS1 30 (some ⟨b,o,none⟩) (ys.length+1) c,yJ 32 ((ys.length:Nat):Int),eS1 33 (some ⟨b,o,none⟩) (ys.length+1) c,yJ 35 ((ys.length:Nat):Int)] [] ?_))))))
 refine xqk 36 (.pointer (some ⟨b,o+ys.length,none⟩)) (fun w R Q=>kY (t:=107) (e:=141) (x:=.tmp 33) (ix:=.tmp 35) (len:=(ys.length+1)) (cap:=c) (i:=ys.length) qO) ?_
 obtain⟨h,s⟩:=yE (p[o+ys.length]?.getD 0)
 refine xqk 37 (yX (h:Int)) (fun w R Q=>by rw[←s];exact iG (t:=141) (x:=.tmp 36) (Q.1) (j:=o+ys.length) qO) ?_
 refine xq 1 [yU 38 (f:Int)] [] ?_
 refine xqk 39 (.tuple #[yX ((zX h 0 f:Nat):Int), yX ((xD h 0 f:Nat):Int)]) (fun w R Q=>gG (args:=[Operand.tmp 37,Operand.const (Value.int IntKind.u64 0),Operand.tmp 38]) (ts:=#[141,141,141]) (iN h 0 f qO w)) ?_
 refine xq 3 [yU 40 ((zX h 0 f:Nat):Int),yU 41 ((xD h 0 f:Nat):Int)] [] ?_
 refine xqk 42 (.pointer (some ⟨b,o+ys.length,none⟩)) (fun w R Q=>kY (t:=107) (e:=141) (x:=.tmp 30) (ix:=.tmp 32) (len:=(ys.length+1)) (cap:=c) (i:=ys.length) qO) ?_
 refine jD (t:=141) (x:=.tmp 42) (y:=.tmp 40) b (o+ys.length) (zX h 0 f) (fun w=>(Own .u64 141 w b ((p).set (o+ys.length) (zX h 0 f))∧zF .u64 w A (ys))) (fun w Q=>Q.1) qO (Or.inr rfl) (fun w w' Q D z=>⟨z,((Q.2).fr D (fun a E _=>F a E))⟩) ?_
 refine xq 1 [yU 5 ((xD h 0 f:Nat):Int)] [] ?_
 refine yZ (yY (xq 3 [yB 4 ((((xD h 0 f:Nat):Int):Int) == 1)] [] ?_))
 refine yZ (zG ?_)
 refine yR (.bool ((((xD h 0 f:Nat):Int):Int) == 1)) fun w' R Q=>?_
 exact⟨(_,_),rfl,v.done qO s,R,Q.1⟩
noncomputable def win (o n:Nat) (zs:List Nat):Nat:=val W64 ((zs.drop o).take (n+1))
theorem cI {o n:Nat}{zs:qN}(h:o≤zs.length):val W64 (zs.take (o+n+1))=val W64 (zs.take o)+W64^o*win o n zs:=by
 unfold win
 rw[show o+n+1=o+(n+1) by omega,List.take_add,kJ,uM,vA h]
theorem ZkC {o n:Nat}{zs:qN}(a:Dig W64 zs):win o n zs<W64^(n+1):=by
 have:=wL ((a.drop o).take (n+1))
 refine uQ this (uW zI (by rw[uM];exact Nat.min_le_left _ _))
def WinR (o n:Nat) (zs0 zs:List Nat):Prop:=zs.length=zs0.length∧Dig W64 zs∧zs.take o=zs0.take o∧zs.drop (o+n+1)=zs0.drop (o+n+1)
theorem WinR.start {o n:Nat}{zs0:qN}(h:Dig W64 zs0):WinR o n zs0 zs0:=⟨rfl,h,rfl,rfl⟩
theorem Zeg {o a b c d x:Nat}(h:x+W64^o*a+W64^o*b=x+W64^o*c+W64^o*d):a+b=c+d:=by
 have e:W64^o*(a+b)=W64^o*(c+d):=by rw[uK,uK];omega
 exact Nat.eq_of_mul_eq_mul_left (vE zI) e
theorem Zcu.win {a c ys zs:qN}{q o b:Nat}(h:Zcu c ys q o zs b)(p:o≤a.length)(k:WinR o ys.length a c):WinR o ys.length a zs∧b≤1∧win o ys.length zs+q*val W64 ys=win o ys.length c+W64^(ys.length+1)*b:=by
 obtain⟨f,g,i,d,j,e⟩:=h
 obtain⟨l,r,m,n⟩:=k
 refine⟨⟨f.trans l,g,d.trans m,j.trans n⟩,i,?_⟩
 rw[cI qO,cI qO,d,show o+ys.length+1=o+(ys.length+1) by omega,uT,uH (W64^o)] at e
 exact Zeg e
theorem Zcv.win {a b ys zs:qN}{o c:Nat}(h:Zcv b ys o zs c)(p:o≤a.length)(k:WinR o ys.length a b):WinR o ys.length a zs∧c≤1∧win o ys.length zs+W64^(ys.length+1)*c=win o ys.length b+val W64 ys:=by
 obtain⟨f,g,i,d,j,e⟩:=h
 obtain⟨l,q,m,n⟩:=k
 refine⟨⟨f.trans l,g,d.trans m,j.trans n⟩,i,?_⟩
 rw[cI qO,cI qO,d,show o+ys.length+1=o+(ys.length+1) by omega,uT,uH (W64^o)] at e
 exact Zeg e
theorem ZnF {o n:Nat}{zs:qN}{u0 u1 a:Nat}(f:2≤n)(h:o+n<zs.length)(d:zs[o+n]?.getD 0=u0)(b:zs[o+(n-1)]?.getD 0=u1)(c:zs[o+(n-2)]?.getD 0=a)(e:Dig W64 zs) :
 ∃ l,l<W64^(n-2)∧win o n zs=l+W64^(n-2)*(a+W64*(u1+W64*u0)):=by
 obtain⟨m,rfl⟩:∃ m,n=m+2:=⟨n-2,qO⟩
 refine⟨val W64 ((zs.drop o).take m),?_,?_⟩
 ·have:=wL ((e.drop o).take m)
  rw[uM,vY,vA qO] at this
  exact this
 unfold win
 simp only[show m+2-1=m+1 by omega,show m+2-2=m by omega] at b c ⊢
 have g:∀ j,(zs.drop o)[j]?.getD 0=zs[o+j]?.getD 0:=fun j=>by rw[vP]
 rw[wY (m+2),wY (m+1),wY m,g,g,g,d,b,c]
 simp only[uN,uK,uH,sE]
theorem ZnG {n:Nat}{ys:qN}{t a:Nat}(d:2≤n)(e:ys.length=n)(b:ys[n-1]?.getD 0=t)(c:ys[n-2]?.getD 0=a):∃ l,val W64 ys=l+W64^(n-2)*(a+W64*t):=by
 obtain⟨m,rfl⟩:∃ m,n=m+2:=⟨n-2,qO⟩
 refine⟨val W64 (ys.take m),?_⟩
 simp only[show m+2-1=m+1 by omega,show m+2-2=m by omega] at b c ⊢
 have:=wY (B:=W64) (xs:=ys) (m+1)
 rw[uD qO,wY m,b,c,uN] at this
 rw[this]
 simp only[uK,uH,sE]
theorem Zl7 {B l U V b u0 u1 a c t:Nat}(h:l<B)(i:U=l+B*(a+W64*(u1+W64*u0)))(d:V=b+B*(c+W64*t))(j:a<W64)(e:0<t):U/V≤divQ u0 u1 t:=by
 unfold divQ
 rw[rV e]
 have k:=qG U V
 generalize U/V=q at *
 have m:q*(B*(W64*t))≤q*V:=uI _ (by rw[d,uK];omega)
 have f:B*(q*(W64*t))<B*(a+W64*(u1+W64*u0)+1):=by
  rw[tE,uK B (_+_) 1];omega
 have n:=sN f
 have g:W64*(q*t)<W64*(u1+W64*u0+1):=by
  rw[tE,uK W64 (_+_) 1];omega
 have o:=sN g
 rw[uF u0];omega
theorem Zeh {B l U V d u0 u1 a b t g r:Nat}(m:l<B)(n:U=l+B*(a+W64*(u1+W64*u0)))(f:V=d+B*(b+W64*t))(i:r+g*t=u0*W64+u1)(h:r*W64+a<g*b)(c:0<V):U/V+1≤g:=by
 rw[Nat.add_one_le_iff,vO c]
 have j:a+W64*(u1+W64*u0)+1≤g*(b+W64*t):=by
  have e:W64*(r+g*t)=W64*(u1+W64*u0):=by rw[i,tC,uF u0]
  rw[uK g,tE g]
  rw[uK W64 r] at e
  rw[uF r] at h
  omega
 have k:B*(a+W64*(u1+W64*u0)+1)≤g*V:=by
  refine uC (uI B j) ?_
  rw[tE,f]
  exact uI _ qO
 rw[uK B (_+_) 1] at k
 omega
theorem ZkD {U V:Nat}(h:U<W64*V):U/V≤W64-1:=by
 have a:0<V:=sC (fun e=>by subst e;omega)
 have:=(vO a).2 h
 omega
theorem Zij {hi lo r u g v:Nat}(h:lo+W64*hi=g*v)(b:¬ hi<r)(c:hi=r→¬ lo≤u)(d:u<W64):r*W64+u<g*v:=by
 rw[←h,uF r]
 rcases qB hi r with a|a|a
 ·exact absurd a b
 ·have:=c a;subst a;omega
 have:=uI W64 a
 rw[Nat.mul_succ] at this
 omega
def CorR (U V P:Nat) (g b wn:Nat):Prop:=b≤1∧wn<P∧U/V≤g∧wn+g*V=U+P*b
theorem CorR.pos {U V P g b a:Nat}(h:CorR U V P g b a)(c:b=1)(d:0<V):U/V+1≤g:=by
 obtain⟨_,e,_,f⟩:=h
 subst c
 rw[Nat.add_one_le_iff,vO d]
 omega
theorem CorR.step {U V P g b d wn' c:Nat}(h:CorR U V P g b d)(e:b=1)(i:0<V)(l:c≤1)(j:wn'<P)(f:wn'+P*c=d+V):CorR U V P (g-1) (1-c) wn':=by
 have m:=h.pos e i
 obtain⟨n,o,p,a⟩:=h
 subst e
 unfold CorR
 generalize U/V=q at *
 refine⟨qO,j,qO,?_⟩
 obtain⟨k,rfl⟩:∃ k,g=k+1:=⟨g-1,qO⟩
 rw[tL]
 rw[vC] at a
 rcases (by omega:c=0∨c=1) with rfl|rfl
 ·simp at f a ⊢;omega
 simp at f a ⊢;omega
theorem CorR.done {U V P g a:Nat}(h:CorR U V P g 0 a)(b:0<V):g=U/V∧a=U%V:=by
 obtain⟨d,f,i,c⟩:=h
 rw[tD,tB] at c
 have j:g≤U/V:=by rw[rV b];omega
 have e:g=U/V:=qO
 refine⟨e,?_⟩
 have:=vQ U V
 rw[←e,uF] at this
 omega
theorem ZoY:(18446744073709551615:Int)=((W64-1:Nat):Int):=by rw[zR];rfl
theorem Zm2 {a b:Nat}(h:¬ a+b<W64)(ha:a<W64)(c:b<W64):IntKind.u64.wrap ((a:Int)+(b:Int))=((a+b-W64:Nat):Int):=by
 rw[IntKind.wrap_u64]
 rw[zR] at *
 omega
theorem ZnH {c:Nat}(h:c≤1):(!(((c:Nat):Int) == 1))=(((1-c:Nat):Int) == 1):=by
 rcases (by omega:c=0∨c=1) with rfl|rfl<;>rfl
def Zos (b o:Nat) (zs0 ys:List Nat) (w:World) (e:Ending) (w':World):Prop:=∃ zs,e=.returned (.int .u64 ((win o ys.length zs0/val W64 ys:Nat):Int))∧(WinR o ys.length zs0 zs∧win o ys.length zs=win o ys.length zs0%val W64 ys)∧Fr (fun i=>i=b) w w'∧Own .u64 141 w' b zs
theorem Zei (b c o:Nat)(g ys:qN)(A:qA)(p:Nat)(w:World)(hO:Own .u64 141 w b g)(hY:zF .u64 w A ys)(hA:∀ a,A=some a→a.block≠b)(ho:o+ys.length<g.length)(hl:g.length≤4294967296)(P:Dig W64 g)(hy:Dig W64 ys)(r0:2≤ys.length)(D:0<val W64 ys)(s0:win o ys.length g<W64*val W64 ys) :
 yA 195 #[.slice (some ⟨b,o,none⟩) (ys.length+1) c,.slice A ys.length p] w (Zos b o g ys w):=by
 obtain⟨u2,E⟩:=yE (g[o+(ys.length-2)]?.getD 0)
 refine dF (fun i=>i=b) (Φ:=fun w=>(Own .u64 141 w b g∧zF .u64 w A ys)) func195 rfl qK (fun w' hf=>⟨hO.ext hf,hY.ext hf⟩) ?_
 refine yY (xq 1 [yU 4 0] [] ?_)
 refine yZ (yY (xq 3 [yJ 5 ((ys.length:Nat):Int)] [] ?_))
 refine yZ (yY (xq 3 [eS1 14 A ys.length p,yJ 16 (IntKind.i64.wrap (((ys.length:Nat):Int)-1))] [] ?_))
 rw[yW (((ys.length:Nat):Int)-1) (((ys.length-1:Nat):Int)) qO]
 refine xqk 17 (atA A (ys.length-1)) (fun w R Q=>xW (t:=107) (e:=141) (x:=.tmp 14) (ix:=.tmp 16) (len:=ys.length) (cap:=p) (i:=ys.length-1) ((Q.2).ne (j:=ys.length-1) qO) qO) ?_
 obtain⟨x10,r⟩:=yE (ys[ys.length-1]?.getD 0)
 refine xqk 18 (yX (x10:Int)) (fun w R Q=>by rw[←r];exact wV (t:=141) (x:=.tmp 17) (Q.2) (j:=ys.length-1) qO) ?_
 refine xq 1 [yU 6 (x10:Int)] [] ?_
 refine yZ (yY (xq 1 [yU 7 18446744073709551615] [] ?_))
 rw[ZoY]
 refine xe (zA ?_)
 refine ZgF (fun S T=>∃ (f:Nat),S=ofL [eS1 0 (some ⟨b,o,none⟩) (ys.length+1) c,eS1 1 A ys.length p,yU 7 (f:Int)] []∧T=(fun w=>(Own .u64 141 w b (g)∧zF .u64 w A (ys)))∧(win o ys.length g/val W64 ys≤f)∧(f<W64)) ?_ ?_
 ·refine yY (xq 2 [eS1 19 (some ⟨b,o,none⟩) (ys.length+1) c,yJ 20 ((ys.length:Nat):Int)] [] ?_)
  refine xqk 21 (.pointer (some ⟨b,o+ys.length,none⟩)) (fun w R Q=>kY (t:=107) (e:=141) (x:=.tmp 19) (ix:=.tmp 20) (len:=(ys.length+1)) (cap:=c) (i:=ys.length) qO) ?_
  obtain⟨k,F⟩:=yE (g[o+ys.length]?.getD 0)
  refine xqk 22 (yX (k:Int)) (fun w R Q=>by rw[←F];exact iG (t:=141) (x:=.tmp 21) (Q.1) (j:=o+ys.length) qO) ?_
  refine xq 2 [yB 24 (decide ((k:Int)<(x10:Int)))] [] ?_
  refine xe (zA ?_)
  refine yQ ((decide ((k:Int)<(x10:Int)))) (fun G=>?_) fun G=>?_
  ·have b0:=uA G
   refine yY (xq 1 [yU 8 0] [] ?_)
   refine yZ (zC ?_)
   refine fM 16 [0,0,3,7,0,0,32,112,240,0,1023,2047,4095,4095,8191,32767] qK qK zN ?_
   refine xqf 2 [eS1 26 (some ⟨b,o,none⟩) (ys.length+1) c,yJ 27 ((ys.length:Nat):Int)] [] ?_
   refine xqj 28 (.pointer (some ⟨b,o+ys.length,none⟩)) (fun w Q=>kY (t:=107) (e:=141) (x:=.tmp 26) (ix:=.tmp 27) (len:=(ys.length+1)) (cap:=c) (i:=ys.length) qO) ?_
   obtain⟨m0,U⟩:=yE (g[o+ys.length]?.getD 0)
   refine xqj 29 (yX (m0:Int)) (fun w Q=>by rw[←U];exact iG (t:=141) (x:=.tmp 28) (Q.1) (j:=o+ys.length) qO) ?_
   obtain rfl:k=m0:=by rw[←F,U]
   refine xqf 3 [eS1 30 (some ⟨b,o,none⟩) (ys.length+1) c,yJ 32 (IntKind.i64.wrap (((ys.length:Nat):Int)-1))] [] ?_
   rw[yW (((ys.length:Nat):Int)-1) (((ys.length-1:Nat):Int)) qO]
   refine xqj 33 (.pointer (some ⟨b,o+(ys.length-1),none⟩)) (fun w Q=>kY (t:=107) (e:=141) (x:=.tmp 30) (ix:=.tmp 32) (len:=(ys.length+1)) (cap:=c) (i:=ys.length-1) qO) ?_
   obtain⟨l,C⟩:=yE (g[o+(ys.length-1)]?.getD 0)
   refine xqj 34 (yX (l:Int)) (fun w Q=>by rw[←C];exact iG (t:=141) (x:=.tmp 33) (Q.1) (j:=o+(ys.length-1)) qO) ?_
   refine xqf 1 [yU 35 (x10:Int)] [] ?_
   refine xqd 174 [yX (k:Int), yX (l:Int), yX (x10:Int)] 36 (fun _:Unit=>.tuple #[yX ((divQ k l x10:Nat):Int), yX ((divR k l x10:Nat):Int)]) _ (fun w R Q=>yN (Zfn k l x10 _ qO (by rw[←r];exact hy.getD zI _) (by rw[←C];exact P.getD zI _))) fun xx=>?_
   refine xqf 5 [yU 7 ((divQ k l x10:Nat):Int),yU 8 ((divR k l x10:Nat):Int)] [] ?_
   refine xz (yZ (zO ?_))
   obtain⟨lw,c0,hU⟩:=ZnF (o:=o) (n:=ys.length) qO qO F C E P
   obtain⟨y2,d0⟩:=yE (ys[ys.length-2]?.getD 0)
   obtain⟨vl,hV⟩:=ZnG (ys:=ys) r0 rfl r d0
   refine yC [eS1 0 (some ⟨b,o,none⟩) (ys.length+1) c,eS1 1 A ys.length p,yU 4 0,yJ 5 ((ys.length:Nat):Int),yU 6 (x10:Int),yU 7 (((divQ k l x10):Nat):Int),yU 8 (((divR k l x10):Nat):Int)] [] (fun w=>(Own .u64 141 w b (g)∧zF .u64 w A (ys))) (fun w Q=>⟨Q.1.1,Q.1.2⟩) ?_
   have n0:0<x10:=qO
   refine xQ (fun nn S T=>∃ (f h:Nat),S=ofL [eS1 0 (some ⟨b,o,none⟩) (ys.length+1) c,eS1 1 A ys.length p,yU 4 0,yJ 5 ((ys.length:Nat):Int),yU 6 (x10:Int),yU 7 (f:Int),yU 8 (h:Int)] []∧T=(fun w=>(Own .u64 141 w b (g)∧zF .u64 w A (ys)))∧(win o ys.length g/val W64 ys≤f)∧(f<W64)∧(h+f*x10=k*W64+l)∧(h<W64)∧nn=(1+f)) ((1+(divQ k l x10))) ⟨(divQ k l x10),(divR k l x10),rfl,rfl,(Zl7 c0 hU hV (by rw[←E];exact P.getD zI _) n0),(ZeB qO (by rw[←C];exact P.getD zI _)),(by rw[tC];exact Zbk _ _ _),(qJ (ZaU _ _ n0) (by rw[←r];exact hy.getD zI _)),rfl⟩ ?_
   rintro nn S T ⟨f,h,rfl,rfl,hq,z,hr,t0,rfl⟩
   refine zO (yY (xq 4 [yU 40 (f:Int),eS1 41 A ys.length p,yJ 43 (IntKind.i64.wrap (((ys.length:Nat):Int)-2))] [] ?_))
   rw[yW (((ys.length:Nat):Int)-2) (((ys.length-2:Nat):Int)) qO]
   refine xqk 44 (atA A (ys.length-2)) (fun w R Q=>xW (t:=107) (e:=141) (x:=.tmp 41) (ix:=.tmp 43) (len:=ys.length) (cap:=p) (i:=ys.length-2) ((Q.2).ne (j:=ys.length-2) qO) qO) ?_
   obtain⟨o0,V⟩:=yE (ys[ys.length-2]?.getD 0)
   refine xqk 45 (yX (o0:Int)) (fun w R Q=>by rw[←V];exact wV (t:=141) (x:=.tmp 44) (Q.2) (j:=ys.length-2) qO) ?_
   obtain rfl:y2=o0:=by rw[←d0,V]
   refine xqc 161 [yX (f:Int), yX (y2:Int)] 46 (fun _:Unit=>.tuple #[yX ((xV f y2:Nat):Int), yX ((zT f y2:Nat):Int)]) _ (fun w R Q=>yN (Zcq f y2 _ z (by rw[←d0];exact hy.getD zI _))) fun xx=>?_
   refine xq 5 [yU 9 ((xV f y2:Nat):Int),yU 10 ((zT f y2:Nat):Int)] [] ?_
   refine yZ (zC (yY (xq 4 [yB 52 (decide (((xV f y2:Nat):Int)<(h:Int)))] [] ?_)))
   rcases bl2 ((decide (((xV f y2:Nat):Int)<(h:Int)))) with u|u
   ·rw[u]
    have e0:=uA u
    refine xq 13 [yB 65 true] [] ?_
    refine yZ (xa (xL (zH ?_)))
    refine ZcR qK ?_
    refine zH (xT ?_)
    refine yP [eS1 0 (some ⟨b,o,none⟩) (ys.length+1) c,eS1 1 A ys.length p,yU 7 (f:Int)] [] (fun w=>(Own .u64 141 w b (g)∧zF .u64 w A (ys))) (fun w Q=>⟨Q.1.1,Q.1.2⟩) ?_
    exact fX ⟨f,rfl,rfl,hq,z⟩
   rw[u]
   have e0:=uB u
   refine xq 4 [yB 56 ((((xV f y2:Nat):Int):Int) == (h:Int))] [] ?_
   rcases bl2 (((((xV f y2:Nat):Int):Int) == (h:Int))) with v|v
   ·rw[v]
    have H:=tG.1 v
    refine xq 4 [yU 57 ((zT f y2:Nat):Int),eS1 58 (some ⟨b,o,none⟩) (ys.length+1) c,yJ 60 (IntKind.i64.wrap (((ys.length:Nat):Int)-2))] [] ?_
    rw[yW (((ys.length:Nat):Int)-2) (((ys.length-2:Nat):Int)) qO]
    refine xqk 61 (.pointer (some ⟨b,o+(ys.length-2),none⟩)) (fun w R Q=>kY (t:=107) (e:=141) (x:=.tmp 58) (ix:=.tmp 60) (len:=(ys.length+1)) (cap:=c) (i:=ys.length-2) qO) ?_
    obtain⟨p0,W⟩:=yE (g[o+(ys.length-2)]?.getD 0)
    refine xqk 62 (yX (p0:Int)) (fun w R Q=>by rw[←W];exact iG (t:=141) (x:=.tmp 61) (Q.1.1) (j:=o+(ys.length-2)) qO) ?_
    obtain rfl:u2=p0:=by rw[←E,W]
    refine xq 3 [yB 65 (decide (((zT f y2:Nat):Int)≤(u2:Int)))] [] ?_
    refine xe (zA ?_)
    refine yQ ((decide (((zT f y2:Nat):Int)≤(u2:Int)))) (fun I=>?_) fun I=>?_
    ·have f0:=uA I
     refine xL (zH ?_)
     refine ZcR qK ?_
     refine zH (xT ?_)
     refine yP [eS1 0 (some ⟨b,o,none⟩) (ys.length+1) c,eS1 1 A ys.length p,yU 7 (f:Int)] [] (fun w=>(Own .u64 141 w b (g)∧zF .u64 w A (ys))) (fun w Q=>⟨Q.1.1,Q.1.2⟩) ?_
     exact fX ⟨f,rfl,rfl,hq,z⟩
    have f0:=uB I
    refine zJ (zA (zC ?_))
    have g0:h*W64+u2<f*y2:=Zij (fE f y2) qO (fun _=>qO) (by rw[←E];exact P.getD zI _)
    have s:=Zeh c0 hU hV hr g0 D
    have q0:1≤f:=uC (Nat.le_add_left 1 _) s
    by_cases B:h+x10<W64
    ·refine zB (xq 2 [yU 67 (IntKind.u64.wrap ((f:Int)-1))] [] ?_)
     rw[show IntKind.u64.wrap (((f:Int)-1))=((f-1:Nat):Int) by rw[IntKind.wrap_u64];have:=zR;omega]
     refine xq 1 [yU 7 ((f-1:Nat):Int)] [] ?_
     refine yZ (yY (xq 3 [yU 70 (IntKind.u64.wrap ((h:Int)+(x10:Int)))] [] ?_))
     rw[Zef (a:=h) (b:=x10) B]
     refine xq 1 [yU 8 ((h+x10:Nat):Int)] [] ?_
     refine yZ (yY (xq 3 [yB 73 (decide (((h+x10:Nat):Int)<(x10:Int)))] [] ?_))
     refine xe (zA ?_)
     refine yQ ((decide (((h+x10:Nat):Int)<(x10:Int)))) (fun J=>?_) fun J=>?_
     ·have h0:=uA J
      exfalso;omega
     have h0:=uB J
     refine zJ (xN ?_)
     refine yP [eS1 0 (some ⟨b,o,none⟩) (ys.length+1) c,eS1 1 A ys.length p,yU 4 0,yJ 5 ((ys.length:Nat):Int),yU 6 (x10:Int),yU 7 (((f-1):Nat):Int),yU 8 (((h+x10):Nat):Int)] [] (fun w=>(Own .u64 141 w b (g)∧zF .u64 w A (ys))) (fun w Q=>⟨Q.1.1,Q.1.2⟩) ?_
     exact xE ((1+(f-1))) qO ⟨(f-1),(h+x10),rfl,rfl,(pA s),qO,(by obtain⟨m,rfl⟩:∃ m,f=m+1:=⟨f-1,qO⟩;rw[tL];rw[vC] at hr;omega),B,rfl⟩
    refine zB (xq 2 [yU 67 (IntKind.u64.wrap ((f:Int)-1))] [] ?_)
    rw[show IntKind.u64.wrap (((f:Int)-1))=((f-1:Nat):Int) by rw[IntKind.wrap_u64];have:=zR;omega]
    refine xq 1 [yU 7 ((f-1:Nat):Int)] [] ?_
    refine yZ (yY (xq 3 [yU 70 (IntKind.u64.wrap ((h:Int)+(x10:Int)))] [] ?_))
    rw[Zm2 (a:=h) (b:=x10) B qO (by rw[←r];exact hy.getD zI _)]
    refine xq 1 [yU 8 ((h+x10-W64:Nat):Int)] [] ?_
    refine yZ (yY (xq 3 [yB 73 (decide (((h+x10-W64:Nat):Int)<(x10:Int)))] [] ?_))
    refine xe (zA ?_)
    refine yQ ((decide (((h+x10-W64:Nat):Int)<(x10:Int)))) (fun K=>?_) fun K=>?_
    ·have i0:=uA K
     refine xL ?_
     refine ZcR qK ?_
     refine zH (xT ?_)
     refine yP [eS1 0 (some ⟨b,o,none⟩) (ys.length+1) c,eS1 1 A ys.length p,yU 7 (((f-1):Nat):Int)] [] (fun w=>(Own .u64 141 w b (g)∧zF .u64 w A (ys))) (fun w Q=>⟨Q.1.1,Q.1.2⟩) ?_
     exact fX ⟨(f-1),rfl,rfl,(pA s),qO⟩
    have i0:=uB K
    exfalso;omega
   rw[v]
   have H:=wF v
   refine xq 9 [yB 65 false] [] ?_
   refine yZ (xb (zJ (zA (zC ?_))))
   have g0:h*W64+u2<f*y2:=Zij (fE f y2) qO (fun e=>absurd (show (xV f y2:Int)=h by rw[e]) H) (by rw[←E];exact P.getD zI _)
   have s:=Zeh c0 hU hV hr g0 D
   have q0:1≤f:=uC (Nat.le_add_left 1 _) s
   by_cases B:h+x10<W64
   ·refine zB (xq 2 [yU 67 (IntKind.u64.wrap ((f:Int)-1))] [] ?_)
    rw[show IntKind.u64.wrap (((f:Int)-1))=((f-1:Nat):Int) by rw[IntKind.wrap_u64];have:=zR;omega]
    refine xq 1 [yU 7 ((f-1:Nat):Int)] [] ?_
    refine yZ (yY (xq 3 [yU 70 (IntKind.u64.wrap ((h:Int)+(x10:Int)))] [] ?_))
    rw[Zef (a:=h) (b:=x10) B]
    refine xq 1 [yU 8 ((h+x10:Nat):Int)] [] ?_
    refine yZ (yY (xq 3 [yB 73 (decide (((h+x10:Nat):Int)<(x10:Int)))] [] ?_))
    refine xe (zA ?_)
    refine yQ ((decide (((h+x10:Nat):Int)<(x10:Int)))) (fun L=>?_) fun L=>?_
    ·have j0:=uA L
     exfalso;omega
    have j0:=uB L
    refine zJ (xN ?_)
    refine yP [eS1 0 (some ⟨b,o,none⟩) (ys.length+1) c,eS1 1 A ys.length p,yU 4 0,yJ 5 ((ys.length:Nat):Int),yU 6 (x10:Int),yU 7 (((f-1):Nat):Int),yU 8 (((h+x10):Nat):Int)] [] (fun w=>(Own .u64 141 w b (g)∧zF .u64 w A (ys))) (fun w Q=>⟨Q.1.1,Q.1.2⟩) ?_
    exact xE ((1+(f-1))) qO ⟨(f-1),(h+x10),rfl,rfl,(pA s),qO,(by obtain⟨m,rfl⟩:∃ m,f=m+1:=⟨f-1,qO⟩;rw[tL];rw[vC] at hr;omega),B,rfl⟩
   refine zB (xq 2 [yU 67 (IntKind.u64.wrap ((f:Int)-1))] [] ?_)
   rw[show IntKind.u64.wrap (((f:Int)-1))=((f-1:Nat):Int) by rw[IntKind.wrap_u64];have:=zR;omega]
   refine xq 1 [yU 7 ((f-1:Nat):Int)] [] ?_
   refine yZ (yY (xq 3 [yU 70 (IntKind.u64.wrap ((h:Int)+(x10:Int)))] [] ?_))
   rw[Zm2 (a:=h) (b:=x10) B qO (by rw[←r];exact hy.getD zI _)]
   refine xq 1 [yU 8 ((h+x10-W64:Nat):Int)] [] ?_
   refine yZ (yY (xq 3 [yB 73 (decide (((h+x10-W64:Nat):Int)<(x10:Int)))] [] ?_))
   refine xe (zA ?_)
   refine yQ ((decide (((h+x10-W64:Nat):Int)<(x10:Int)))) (fun M=>?_) fun M=>?_
   ·have k0:=uA M
    refine xL ?_
    refine ZcR qK ?_
    refine zH (xT ?_)
    refine yP [eS1 0 (some ⟨b,o,none⟩) (ys.length+1) c,eS1 1 A ys.length p,yU 7 (((f-1):Nat):Int)] [] (fun w=>(Own .u64 141 w b (g)∧zF .u64 w A (ys))) (fun w Q=>⟨Q.1.1,Q.1.2⟩) ?_
    exact fX ⟨(f-1),rfl,rfl,(pA s),qO⟩
   have k0:=uB M
   exfalso;omega
  have b0:=uB G
  refine zJ ?_
  refine yP [eS1 0 (some ⟨b,o,none⟩) (ys.length+1) c,eS1 1 A ys.length p,yU 7 (((W64-1):Nat):Int)] [] (fun w=>(Own .u64 141 w b (g)∧zF .u64 w A (ys))) (fun w Q=>⟨Q.1,Q.2⟩) ?_
  exact fX ⟨(W64-1),rfl,rfl,ZkD s0,(by have:=zI;omega)⟩
 rintro S T ⟨f,rfl,rfl,hq,z⟩
 refine zC (yY (xq 3 [eS1 74 (some ⟨b,o,none⟩) (ys.length+1) c,eS1 75 A ys.length p,yU 76 (f:Int)] [] ?_))
 refine Zbv (xs:=g) (α:=List Nat × Nat) 220 [.slice (some ⟨b,o,none⟩) (ys.length+1) c,.slice A ys.length p, yX (f:Int)] (d:=77) (fun x=>.bool (((x.2:Nat):Int) == 1)) (fun x=>Zcu g ys f o x.1 x.2) (fun x=>x.1) b (fun x w=>(Own .u64 141 w b (x.1)∧zF .u64 w A (ys))) (fun w Q=>Q.1) qO (Or.inr rfl) (fun w R Q=>ZgP b _ o _ ys A _ _ Q.1 Q.2 hA qO hl P hy _ z) (fun x w w' hp Q hF hO=>⟨hO,((Q.2).fr hF (fun a ha _=>hA a ha))⟩) fun x X=>?_
 obtain⟨Y,N⟩:=x
 dsimp only at X
 have q:=X.win qO (WinR.start P)
 refine xr 1 [eS1 0 (some ⟨b,o,none⟩) (ys.length+1) c,eS1 1 A ys.length p,yU 7 (f:Int),yB 11 ((N:Int) == 1)] [] ?_
 refine yZ (zO ?_)
 refine yC [eS1 0 (some ⟨b,o,none⟩) (ys.length+1) c,eS1 1 A ys.length p,yU 7 (f:Int),yB 11 ((N:Int) == 1)] [] (fun w=>(Own .u64 141 w b (Y)∧zF .u64 w A (ys))) (fun w Q=>⟨Q.1,Q.2⟩) ?_
 refine xQ (fun nn S T=>∃ (f bb:Nat) (zs:List Nat),S=ofL [eS1 0 (some ⟨b,o,none⟩) (ys.length+1) c,eS1 1 A ys.length p,yU 7 (f:Int),yB 11 ((bb:Int) == 1)] []∧T=(fun w=>(Own .u64 141 w b (zs)∧zF .u64 w A (ys)))∧(WinR o ys.length g zs)∧(CorR (win o ys.length g) (val W64 ys) (W64^(ys.length+1)) f bb (win o ys.length zs))∧(f<W64)∧nn=(1+f)) ((1+f)) ⟨f,N,Y,rfl,rfl,q.1,⟨q.2.1,ZkC q.1.2.1,hq,q.2.2⟩,z,rfl⟩ ?_
 rintro nn S T ⟨f,bb,zs,rfl,rfl,HW,HC,z,rfl⟩
 refine zC (yY (xq 1 [yB 78 ((bb:Int) == 1)] [] ?_))
 refine xe (zA ?_)
 refine yQ (((bb:Int) == 1)) (fun O=>?_) fun O=>?_
 ·have l0:=tG.1 O
  refine zJ (zA (zC (zO ?_)))
  have s:=HC.pos qO D
  have q0:1≤f:=uC (Nat.le_add_left 1 _) s
  refine zB (xq 2 [eS1 81 (some ⟨b,o,none⟩) (ys.length+1) c,eS1 82 A ys.length p] [] ?_)
  refine Zbv (xs:=zs) (α:=List Nat × Nat) 221 [.slice (some ⟨b,o,none⟩) (ys.length+1) c,.slice A ys.length p] (d:=83) (fun x=>.bool (((x.2:Nat):Int) == 1)) (fun x=>Zcv zs ys o x.1 x.2) (fun x=>x.1) b (fun x w=>(Own .u64 141 w b (x.1)∧zF .u64 w A (ys))) (fun w Q=>Q.1) (by have:=HW.1;omega) (Or.inr rfl) (fun w R Q=>ZgQ b _ o _ ys A _ _ Q.1 Q.2 hA (by rw[HW.1];omega) (by rw[HW.1];exact hl) HW.2.1 hy) (fun x w w' hp Q hF hO=>⟨hO,((Q.2).fr hF (fun a ha _=>hA a ha))⟩) fun x Z=>?_
  obtain⟨a0,y⟩:=x
  dsimp only at Z
  have q:=Z.win qO HW
  refine xr 1 [eS1 0 (some ⟨b,o,none⟩) (ys.length+1) c,eS1 1 A ys.length p,yU 7 (f:Int),yB 11 ((bb:Int) == 1),yB 84 (!((y:Int) == 1))] [] ?_
  rw[ZnH (c:=y) q.2.1]
  refine xq 1 [yB 11 (((1-y:Nat):Int) == 1)] [] ?_
  refine xe (xN (zA (zB (xq 2 [yU 80 (IntKind.u64.wrap ((f:Int)-1))] [] ?_))))
  rw[show IntKind.u64.wrap (((f:Int)-1))=((f-1:Nat):Int) by rw[IntKind.wrap_u64];have:=zR;omega]
  refine xq 1 [yU 7 ((f-1:Nat):Int)] [] ?_
  refine xe ?_
  refine yP [eS1 0 (some ⟨b,o,none⟩) (ys.length+1) c,eS1 1 A ys.length p,yU 7 (((f-1):Nat):Int),yB 11 ((((1-y):Nat):Int) == 1)] [] (fun w=>(Own .u64 141 w b (a0)∧zF .u64 w A (ys))) (fun w Q=>⟨Q.1,Q.2⟩) ?_
  exact xE ((1+(f-1))) qO ⟨(f-1),(1-y),a0,rfl,rfl,q.1,(HC.step qO D q.2.1 (ZkC q.1.2.1) q.2.2),qO,rfl⟩
 have l0:=wF O
 obtain rfl:bb=0:=by have:=HC.1;omega
 refine xL (zH (zH (xT (zA (yY (xq 2 [yU 4 (f:Int)] [] ?_))))))
 refine yZ (zG ?_)
 refine yR (yX (f:Int)) fun w' R Q=>?_
 obtain⟨e1,e2⟩:=HC.done D
 exact⟨zs,by rw[e1],⟨HW,e2⟩,R,Q.1⟩
end Go.Proofs.YtenchljfmfgeoaaGreatDoor
