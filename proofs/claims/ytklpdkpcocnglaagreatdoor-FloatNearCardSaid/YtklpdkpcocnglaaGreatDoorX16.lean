/-
 My texts SxK, Sx8, Sx9, Sx12, Sx13, Pw, Fna, Fnb, Fnc, Fnd put together.
-/
import Derived.Test.YtklpdkpcocnglaaGreatDoorX15
import Derived.Test.YtklpdkpcocnglaaGreatDoorX14
import Derived.Test.YtklpdkpcocnglaaGreatDoorX01
import Derived.Deep.LoopGhost
import Derived.Test.YtklpdkpcocnglaaGreatDoorX06
import Derived.Test.YtklpdkpcocnglaaGreatDoorX10
import Derived.Test.YtklpdkpcocnglaaGreatDoorX03
import Derived.Test.YtklpdkpcocnglaaGreatDoorX07
import Derived.Test.YtklpdkpcocnglaaGreatDoorX08
set_option maxRecDepth 100000
set_option maxHeartbeats 8000000
namespace Go.Proofs.YtklpdkpcocnglaaGreatDoor
open Go.RowKit
section
variable {S:Nat→Prop} {w w' w0:World} {k:IntKind} {A:Option Addr} {xs:List Nat}
theorem zF.nrb (c:k≠.i64)(h:zF k w A xs)(d:∀ i,S i→NRB w i)(f:Fr S w w'):zF k w' A xs:=by
 cases xs with
 | nil=>exact zF.nil
 | cons x xs =>
  refine h.fr f (fun q b j l=>?_)
  obtain⟨g,m,n,_,a⟩:=h.at (i:=0) (by simp)
  rw[n] at b
  injection b with b
  subst b
  obtain⟨t,r,o,p⟩:=d _ l
  rw[o.cell] at a
  exact c (p _ _ _ a)
theorem zK.nrb {u:Value}{n:Nat}(h:zK w u n)(a:∀ i,S i→NRB w i)(b:Fr S w w'):zK w' u n:=by
 obtain⟨c,xs,d,f,g,j,l⟩:=h
 exact⟨c,xs,d,f,g,j.nrb (by decide) a b,l⟩
theorem fJ.nrb {v:Value}{z:Int}(h:fJ w v z)(a:∀ i,S i→NRB w i)(b:Fr S w w'):fJ w' v z:=by
 obtain⟨c,u,n,d,f,g⟩:=h
 exact⟨c,u,n,d,f.nrb a b,g⟩
theorem zS.nrb {u:Value}{n:Nat}(h:zS w u n)(a:∀ i,S i→NRB w i)(b:Fr S w w'):zS w' u n:=by
 obtain⟨c,xs,d,f,g,j,l⟩:=h
 exact⟨c,xs,d,f,g,j.nrb (by decide) a b,l⟩
theorem zZ.nrb {v:Value}{z:Int}(h:zZ w v z)(a:∀ i,S i→NRB w i)(b:Fr S w w'):zZ w' v z:=by
 obtain⟨c,u,n,d,f,g⟩:=h
 exact⟨c,u,n,d,f.nrb a b,g⟩
theorem zT.nrb {v:Value}{q:Rat}(h:zT w v q)(a:∀ i,S i→NRB w i)(b:Fr S w w'):zT w' v q:=by
 obtain⟨s,t,A,B,l,c,d,f,g,j,m⟩:=h
 exact⟨s,t,A,B,l,c,d,f,g,j.nrb a b,m.nrb a b⟩
theorem NRB.ext {i:Nat}(h:NRB w i)(a:Ext w w'):NRB w' i:=by
 obtain⟨t,b,c,d⟩:=h
 exact⟨t,b,c.ext a,d⟩
theorem boxn {φ:World→Prop}(a:Ext w w')(h:∀ S w'',(∀ i,S i→NRB w' i)→Fr S w' w''→φ w''):BoxN w w' φ:=fun S b w'' c=>h S w'' (fun i d=>(b i d).2.ext a) c
end
abbrev ShI:=Bool×Option Addr×Nat × Nat
abbrev ShQ:=Bool×Option Addr×Nat × Nat × Bool×Option Addr×Nat × Nat
abbrev ShN:=Option Addr×Nat × Nat
def xW (x:ShI):Value:=.agg #[.bool x.1,.slice x.2.1 x.2.2.1 x.2.2.2]
def xT (x:ShQ):Value:=.agg #[.bool x.1,.slice x.2.1 x.2.2.1 x.2.2.2.1,.bool x.2.2.2.2.1,.slice x.2.2.2.2.2.1 x.2.2.2.2.2.2.1 x.2.2.2.2.2.2.2]
def xH (x:ShN):Value:=.slice x.1 x.2.1 x.2.2
section
variable {w w':World} {e:Ending}
theorem ZfG {z:Int}(h:Zf8 w z e w'):kM xW (fun x w=>fJ w (xW x) z) w e w':=by
 obtain⟨v,rfl,a,Q⟩:=h
 obtain⟨s,A,l,c,rfl⟩:=a.shp
 exact⟨(s,A,l,c),rfl,Q,boxn Q (fun S b d f=>a.nrb d f)⟩
theorem xQ {z:Int}(h:lW w z e w'):kM xW (fun x w=>zZ w (xW x) z) w e w':=by
 obtain⟨v,rfl,a,Q⟩:=h
 obtain⟨s,A,l,c,rfl⟩:=a.shp
 exact⟨(s,A,l,c),rfl,Q,boxn Q (fun S b d f=>a.nrb d f)⟩
theorem xJ {q:Rat}(h:wM w q e w'):kM xT (fun x w=>zT w (xT x) q) w e w':=by
 obtain⟨v,rfl,a,Q⟩:=h
 obtain⟨s,A,l,c,t,B,m,d,rfl⟩:=a.shp
 exact⟨(s,A,l,c,t,B,m,d),rfl,Q,boxn Q (fun S b f g=>a.nrb f g)⟩
def Zeh (x:ShI×ShI):Value:=.tuple #[xW x.1,xW x.2]
theorem zD {v u:Value}(h:e=.returned v∧Ext w w')(a:v=u):kM (fun _:Unit=>u) (fun _ _=>True) w e w':=by
 obtain⟨rfl,Q⟩:=h
 subst a
 exact⟨(),rfl,Q,BoxN.pure trivial⟩
end
theorem yN {P:Program}{f:FuncId}{a:Array Value}{w:World}{u v:Value}(h:Calls P f a w (fun e w'=>e=.returned v ∧ Ext w w'))(b:v=u:=by rfl):Calls P f a w (kM (fun _:Unit=>u) (fun _ _=>True) w):=h.mono (fun _ _ h=>zD h b)
section
variable {N:Nat} {S0:Nat→Prop} {w0:World} {s s':St} {Φ Ψ Φ0:World→Prop} {L:Nat→Nat} {a:Act} {w:World} {P:Program} {ops:Array Oper} {Q:Exit→Act→World→Prop} {o:Oper}
theorem xK.of {b:SlL}{bl:BlL}(h:(b.map (fun q=>s.sl q.1),bl.map (fun q=>s.bl q.1))=(b.map (fun q=>some q.2),bl.map (fun q=>some q.2))):xK s b bl:=h
def Zp1 (N:Nat) (S0:Nat→Prop) (w0:World) (J:Nat→St→(World→Prop)→Prop) (n:Nat) (a:Act) (w:World):Prop:=∃ n' s' Φ' L',n'<n∧J n' s' Φ'∧Inv N S0 w0 s' Φ' L' a w
theorem kW {c:Code}(J:Nat→St→(World→Prop)→Prop)(n0:Nat)(g:J n0 s Φ)(b:∀ n s Φ,J n s Φ→SXc P N S0 w0 (Exit.then (Zp1 N S0 w0 J n) Q) c s Φ):SXc P N S0 w0 Q (.loop c) s Φ:=fun L a w f=>by
 refine wp_loop_ghost (fun n a w=>∃ s Φ L,J n s Φ∧Inv N S0 w0 s Φ L a w) n0 ⟨s,Φ,L,g,f⟩ ?_
 rintro n a w ⟨s,Φ,L,h,f⟩
 refine wp_mono (b n s Φ h L a w f) ?_
 intro e q w' d
 cases e with
 | normal =>
  obtain⟨i,s',Φ',j,k,m,p⟩:=d
  exact⟨i,k,s',Φ',j,m,p⟩
 | exit id=>exact d
 | goto l=>exact d
 | ret=>exact d
 | panic ch=>exact d
 | outgrown=>exact d
theorem lE {J:Nat→St→(World→Prop)→Prop}{n:Nat}(n':Nat)(b:n'<n)(h:J n' s Φ):SXq N S0 w0 (Exit.then (Zp1 N S0 w0 J n) Q .normal) s Φ:=fun _ _ _ c=>⟨n',s,Φ,_,b,h,c⟩
theorem ZbQ {x y:Code}(J:St→(World→Prop)→Prop)(d:SXc P N S0 w0 (Exit.then (fun a w=>∃ s' Φ' L',J s' Φ'∧Inv N S0 w0 s' Φ' L' a w) Q) x s Φ)(f:∀ s Φ,J s Φ→SXc P N S0 w0 Q y s Φ):SXc P N S0 w0 Q (.seq x y) s Φ:=fun L a w g=>by
 refine wp_seq (wp_mono (d L a w g) ?_)
 intro e h w' b
 cases e with
 | normal =>
  obtain⟨s',Φ',L',c,i⟩:=b
  exact f s' Φ' c L' h w' i
 | exit id=>exact b
 | goto l=>exact b
 | ret=>exact b
 | panic ch=>exact b
 | outgrown=>exact b
theorem jB {J:St→(World→Prop)→Prop}(h:J s Φ):SXq N S0 w0 (Exit.then (fun a w=>∃ s' Φ' b,J s' Φ'∧Inv N S0 w0 s' Φ' b a w) Q .normal) s Φ:=fun _ _ _ c=>⟨s,Φ,_,h,c⟩
theorem ZlE {n i:Nat}(d:Nat){α:Type}[e:Nonempty α](b:α→Value)(φ:α→World→Prop)(hi:Nat.blt i n=true)(f:cls (opAt ops i).op=2)(g:s.wantB ops (opAt ops i)=some true)(h:iE (opAt ops i).op=true)(j:(opAt ops i).op.operands.toList.all s.vB=true)(k:(opAt ops i).dst=some d)(l:Nat.blt d N=true)(c:∀ w,Fr S0 w0 w→Φ w→Does P (opAt ops i) s.rho w (DoR b φ w))(K:∀ x,StI P N S0 w0 ops Φ0 Q n (i+1) (s.put d (.v (b x))) (fun w=>Φ w∧φ x w)):StI P N S0 w0 ops Φ0 Q n i s Φ:=by
 have m:i<n:=rN hi
 unfold StI
 rw[show n-i=(n-(i+1))+1 by omega,List.range'_succ]
 exact .does e b φ f g h j k (rN l) c K
end
def fY (w:World) (v:Value) (xs:List Nat):Prop:=∃ A c,v=.slice A xs.length c∧xs.length≤c∧zF .u32 w A xs
theorem fY.nrb {S:Nat→Prop}{w w':World}{v:Value}{xs:List Nat}(h:fY w v xs)(b:∀ i,S i→NRB w i)(d:Fr S w w'):fY w' v xs:=by
 obtain⟨A,c,e,f,g⟩:=h
 exact⟨A,c,e,f,g.nrb (by decide) b d⟩
theorem fY.shows {w:World}{A:Option Addr}{l c:Nat}{xs:List Nat}(h:fY w (.slice A l c) xs):xs.length=l∧xs.length≤c∧zF .u32 w A xs:=by
 obtain⟨f,g,b,d,e⟩:=h
 injection b with e1 e2 e3
 subst e1;subst e3
 exact⟨e2.symm,d,e⟩
theorem zS.row {w:World}{v:Value}{n:Nat}(h:zS w v n):∃ b,fY w v b∧Dig W32 b∧Trim b∧val W32 b=n:=by
 obtain⟨A,b,c,d,e,f,g⟩:=h
 exact⟨b,⟨A,c,d,e,f⟩,g⟩
theorem Zhu {P:Program}(w:World)(t D e:TypeId)(k:IntKind)(bytes:Nat)(I:P.underlying t=some (.slice e))(r:(P.info? e).map (fun i=>(i.zero,i.size,i.bytes))=some (some (.int k 0),1,bytes))(b a:Addr)(n m cap c:Nat)(xs f:List Nat)(J:xs.length=n)(K:f.length=m)(M:zF k w (some b) xs)(O:zF k w (some a) f)(R:cap<n+m)(z:n+m≤maxLen)(p:(n+m)*bytes≤140737488355328) :
 ∃ g q w',(Builtin.append_ #[t,t] D #[.slice (some b) n cap,.slice (some a) m c]).run P w=.ok (.slice (some ⟨g,0,none⟩) (n+m) q) w'∧n+m≤q∧Own k e w' g (xs ++ f)∧Ext w w':=by
 obtain⟨i,S,T,E,A⟩:=info_parts r
 have l:∀ (y:List Nat) (d:Addr),zF k w (some d) y→∀ j u,(y.map fun x:Nat=>Value.int k (x:Int))[j]? = some u→w.cell? (d.add j)=some u:=by
  intro y d U j u F
  rw[List.getElem?_map] at F
  obtain⟨x,G,rfl⟩:=sD.1 F
  have V:j<y.length:=(List.getElem?_eq_some_iff.1 G).1
  obtain⟨Y,W,h,_,B⟩:=U.at V
  injection h with h
  subst h
  rw[G] at B
  by_cases H:j=0
  ·subst H;simpa [Addr.add] using B
  simpa [Addr.add,H] using B
 have X:=run_append_grow (P:=P) (w:=w) t D e i (.int k 0) I S T b n cap (xs.map fun x:Nat=>Value.int k (x:Int)) (by rw[E];simp[J]) (l _ _ M) a m c (f.map fun x:Nat=>Value.int k (x:Int)) (by rw[E];simp[K]) (l _ _ O) R (by simp only[maxLen] at z;omega) (growslice_fits (by omega) (by rw[A];exact p))
 refine⟨_,_,_,X,?_,?_,((Fr.refl _ _).drew).alloc _⟩
 ·exact grownCap_ge _ _ _ _
 refine⟨(Builtin.zeroCells (Value.int k 0).cells (grownCap w (n+m) cap e-(n+m))).toList,fun v C=>?_,?_⟩
 ·rw[Array.mem_toList_iff] at C
  simp only[Builtin.zeroCells] at C
  obtain⟨j,_,rfl⟩:=Array.mem_map.1 C
  exact⟨0,by simp[Value.cells,Nat.mod_one]⟩
 rw[show w.heap.size=w.drew.heap.size from rfl,heap_alloc_new]
 simp[lG]
theorem Own.row {e:TypeId}{w:World}{g c:Nat}{xs:List Nat}(h:Own .u32 e w g xs)(b:xs.length≤c):fY w (.slice (some ⟨g,0,none⟩) xs.length c) xs:=⟨_,c,rfl,b,h.shows0⟩
theorem ZiD {P:Program}{o:Oper}{ρ:Operand→Value}{w:World}{x y:Operand}{t e:TypeId}(q:o.op=.call { callee:=.builtin .append,args:=#[x,y],argTypes:=#[t,t] })(r:P.underlying t=some (.slice e))(f:(P.info? e).map (fun i=>(i.zero,i.size,i.bytes))=some (some (.int .u32 0),1,4)){b:Addr}{A:Option Addr}{n m cap c:Nat}(u:ρ x=.slice (some b) n cap)(v:ρ y=.slice A m c){xs news:List Nat}(B:fY w (.slice (some b) n cap) xs)(C:fY w (.slice A m c) news)(D:cap<n+m)(h:n+m≤35184372088832):Does P o ρ w (DoR xH (fun z w=>fY w (xH z) (xs ++ news)) w):=by
 obtain⟨k,M,E⟩:=B.shows
 obtain⟨j,O,l⟩:=C.shows
 obtain⟨a,rfl⟩:∃ a,A=some a:=by
  cases news with
  | nil=>simp at j;omega
  | cons z zs=>obtain⟨g,F,e,_⟩:=l.at (i:=0) (by simp);exact⟨_,e⟩
 obtain⟨g,d,w',G,R,H,p⟩:=Zhu (P:=P) w t o.type e .u32 4 r f b a n m cap c xs news k j E l D (by simp only[maxLen];omega) (by omega)
 refine Or.inl ⟨.slice (some ⟨g,0,none⟩) (n+m) d,w',?_,(some ⟨g,0,none⟩,n+m,d),rfl,p,boxn p (fun S I J K=>?_)⟩
 ·simp only[execOp,q,resolve,invoke,builtin,Sem.run_bind,Sem.run_pure,Result.andThen_ok,List.map_toArray,List.map_cons,List.map_nil,u,v,G]
 have:=(H.row (c:=d) (by simp;omega)).nrb J K
 simpa [xH,k,j] using this
theorem ZkW {P:Program}{o:Oper}{ρ:Operand→Value}{w:World}{l c:Operand}{t e:TypeId}(g:o.op=Op.makeSlice t l c)(j:P.underlying t=some (.slice e))(f:(P.info? e).map (fun i=>(i.zero,i.size,i.bytes))=some (some (.int .u32 0),1,4)){kl kc:IntKind}{n:Nat}(k:ρ l=.int kl n)(m:ρ c=.int kc n)(h:n≤35184372088832) :
 Does P o ρ w (DoR (fun b:Nat=>.slice (some ⟨b,0,none⟩) n n) (fun b w=>fY w (.slice (some ⟨b,0,none⟩) n n) (List.replicate n 0)) w):=by
 have d:=run_make_row' (P:=P) t e (.int .u32 0) 4 j f rfl kl kc n (by omega) (by omega) w
 rw[Zaj] at d
 have Q:Ext w (w.alloc (.cells (lG .u32 (List.replicate n 0) []) e)):=(Fr.refl _ w).alloc _
 refine Or.inl ⟨.slice (some ⟨w.heap.size,0,none⟩) n n,_,by simp[execOp,g,k,m,d,Result.andThen],w.heap.size,rfl,Q,boxn Q (fun S p q r=>?_)⟩
 have:=((Own.new w e .u32 (List.replicate n 0) []).row (c:=n) (by simp)).nrb q r
 simpa using this
section
variable {N:Nat} {S0:Nat→Prop} {w0:World} {s:St} {Φ:World→Prop} {P:Program} {ops:Array Oper} {Q:Exit→Act→World→Prop}
theorem yD {i:Nat}{α:Type}{d:Nat}(b:α→Value)(φ:α→World→Prop)(c:∀ w,Fr S0 w0 w→Φ w→Does P (opAt ops i) s.rho w (DoR b φ w))(K:∀ x,SXi P N S0 w0 ops Q (i+1) (s.put d (.v (b x))) (fun w=>Φ w ∧ φ x w))(hi:Nat.blt i ops.size=true:=by kernel_rfl)(e:s.wantB ops (opAt ops i)=some true:=by kernel_rfl)(f:iE (opAt ops i).op=true:=by kernel_rfl)(g:(opAt ops i).op.operands.toList.all s.vB=true:=by kernel_rfl)(h:(opAt ops i).dst=some d:=by kernel_rfl)(j:Nat.blt d N=true:=by kernel_rfl):SXi P N S0 w0 ops Q i s Φ:=iB b φ hi e f g h j c K
theorem yK {i:Nat}(d:Nat)(y:Value)(b:∀ w,Fr S0 w0 w→Φ w→(execOp s.rho (opAt ops i)).run P w=.ok (.value y) w)(K:SXi P N S0 w0 ops Q (i+1) (s.put d (.v y)) Φ)(hi:Nat.blt i ops.size=true:=by kernel_rfl)(c:iE (opAt ops i).op=true:=by kernel_rfl)(e:s.wantB ops (opAt ops i)=some true:=by kernel_rfl)(f:(opAt ops i).op.operands.toList.all s.vB=true:=by kernel_rfl)(g:(opAt ops i).dst=some d:=by kernel_rfl)(h:Nat.blt d N=true:=by kernel_rfl):SXi P N S0 w0 ops Q i s Φ:=iT d y hi c e f g h b K
theorem yR {fn:Func}{R:Ending→World→Prop}(v:Value)(b:∀ w,Fr S0 w0 w→Φ w→R (.returned v) w)(h:Zmt P fn s=some v:=by kernel_rfl):SXq N S0 w0 (bodyPost P fn R .ret) s Φ:=zE h b
theorem yQ {c:Operand}{x y:Code}(b:Bool)(d:b=true→SXc P N S0 w0 Q x s Φ)(e:b=false→SXc P N S0 w0 Q y s Φ)(f:s.eval c=some (.v (.bool b)):=by kernel_rfl):SXc P N S0 w0 Q (.cond c x y) s Φ:=zW b f d e
theorem yO {id:Nat}(n:Nat){b:SlL}{c:BlL}(d:P.follows .mixedOrders=true)(h:StI P N S0 w0 ops Φ Q n 0 (ofL b c) Φ)(e:ZpZ ops (ofL b c) n=true:=by kernel_rfl)(f:Zgw ops b=true:=by kernel_rfl):SXc P N S0 w0 Q (.region id ops true) (ofL b c) Φ:=xG n e f d h
theorem yP {q:Act→World→Prop}(b:SlL)(c:BlL)(Ψ:World→Prop)(Q:∀ w,Φ w→Ψ w)(h:SXq N S0 w0 q (ofL b c) Ψ)(d:(b.map (fun q=>s.sl q.1),c.map (fun q=>s.bl q.1))=(b.map (fun q=>some q.2),c.map (fun q=>some q.2)):=by kernel_rfl)(e:wfB b c=true:=by kernel_rfl):SXq N S0 w0 q s Φ:=SXq.weak b c (xK.of d) e Q h
theorem yC {c:Code}(b:SlL)(d:BlL)(Ψ:World→Prop)(R:∀ w,Φ w→Ψ w)(h:SXc P N S0 w0 Q c (ofL b d) Ψ)(e:(b.map (fun q=>s.sl q.1),d.map (fun q=>s.bl q.1))=(b.map (fun q=>some q.2),d.map (fun q=>some q.2)):=by kernel_rfl)(f:wfB b d=true:=by kernel_rfl):SXc P N S0 w0 Q c s Φ:=SXc.weak b d (xK.of e) f R h
theorem yM {f:FuncId}{b:Array Value}{w:World}{R T:Ending→World→Prop}(p:∀ {e w'},R e w'→T e w')(h:Calls P f b w R):Calls P f b w T:=h.mono (fun _ _=>p)
end
theorem Zat (x:ByteArray):(x.toList == x.toList)=true:=by simp
theorem Zdf (x:Int):(x == x)=true:=by simp
theorem ZmA {P:Program}{ρ:Operand→Value}{w:World}{t e:TypeId}{n sz:Nat}{z:Value}{parts:Array (Nat × Operand)}{a:Array Value}(g:P.underlying t=some (.slice e))(b:(P.info? e).map (fun i=>(i.zero,i.size))=some (some z,sz))(j:Nat.ble (n*sz) 1000=true)(hn0:Nat.beq (n*sz) 0=false)(k:Instr.fill (fun i=>some (i*sz,sz)) ((List.range (n*sz)).map (fun i=>z.cells[i%z.cells.size]!)).toArray (parts.toList.map fun q=>(q.1,ρ q.2))=some a) :
 (Instr.buildSlice t n (parts.map fun q:Nat × Operand=>(q.1,ρ q.2))).run P w=.ok (.slice (some ⟨w.heap.size,0,none⟩) n n) (w.alloc (.cells a e)):=by
 obtain⟨i,l,c⟩:=sD.1 b
 injection c with c h2
 have m:=rN j
 have d:¬ n*sz=0:=fun h=>by rw[h] at hn0;cases hn0
 have f:¬ 2^24<n*sz:=by omega
 have o:(Array.range (n*sz)).map (fun i=>z.cells[i%z.cells.size]!)=((List.range (n*sz)).map (fun i=>z.cells[i%z.cells.size]!)).toArray:=by
  apply Array.ext';simp
 have p:(parts.map fun q:Nat × Operand=>(q.1,ρ q.2)).toList=parts.toList.map fun q=>(q.1,ρ q.2):=by simp
 unfold Instr.buildSlice
 simp[underlying,g,sizeOf,typeInfo,l,h2,zeroValue,c,d,f,o,k,newRow,newObj,Result.andThen]
 rfl
theorem kC {P:Program}{o:Oper}{ρ:Operand→Value}{w:World}{t e:TypeId}{n sz:Nat}{z:Value}{parts:Array (Nat × Operand)}{a:Array Value}(g:o.op=Op.buildSlice t n parts)(j:P.underlying t=some (.slice e))(c:(P.info? e).map (fun i=>(i.zero,i.size))=some (some z,sz))(k:Nat.ble (n*sz) 1000=true)(f:Nat.beq (n*sz) 0=false)(l:Instr.fill (fun i=>some (i*sz,sz)) ((List.range (n*sz)).map (fun i=>z.cells[i%z.cells.size]!)).toArray (parts.toList.map fun q=>(q.1,ρ q.2))=some a) :
 Does P o ρ w (DoR (fun b:Nat=>.slice (some ⟨b,0,none⟩) n n) (fun b w=>Blk e w b a) w):=by
 have d:=ZmA (w:=w) j c k f l
 exact Or.inl ⟨_,_,by simp[execOp,g,d,Result.andThen],w.heap.size,rfl,(Fr.refl _ w).alloc _,fun S m p r=>(Blk.new w e a).fr r (fun h=>by have:=(m _ h).1;omega)⟩
theorem gU {P:Program}{o:Oper}{ρ:Operand→Value}{w:World}{t:TypeId}{x:Operand}{lo hi:Option Operand}{b r:ByteArray}(l h:Nat)(d:o.op=Op.slice t x lo hi none)(e:P.underlying t=some .string)(f:ρ x=.string b)(a:lo.map ρ=none∧l=0∨lo.map ρ=some (.int .i64 l))(c:hi.map ρ=none∧h=b.size∨hi.map ρ=some (.int .i64 h))(g:l≤h)(i:h≤b.size)(j:b.extract l h=r):(execOp ρ o).run P w=.ok (.value (.string r)) w:=by
 subst j
 rcases a with ⟨a,rfl⟩|a<;>rcases c with ⟨c,rfl⟩|c <;>
  simp[execOp,d,Instr.sliceAt,Instr.slice,Instr.sliceBounds,Instr.sliceBound,asIntOf,underlying,e,f,a,c,g,i,Result.andThen]
theorem Zab {P:Program}{o:Oper}{ρ:Operand→Value}{w:World}{t k:TypeId}{x y:Operand}{a b r:ByteArray}(c:o.op=Op.binOp .add t x y k)(d:ρ x=.string a)(e:ρ y=.string b)(g:a.size+b.size≤1099511627776)(f:a ++ b=r):(execOp ρ o).run P w=.ok (.value (.string r)) w:=by
 have h:¬ ((a.size+b.size:Nat):Int)>IntKind.i64.max:=by
  have:IntKind.i64.max=9223372036854775807:=by decide
  rw[this];omega
 simp only[execOp,c,d,e,eqGuard,binOp,Op.stringOp,uJ h,f]
 rfl
open Classical in
theorem Fr.split {A B:Nat→Prop}{w w2:World}(h:Fr (fun i=>A i∨B i) w w2):∃ m,Fr A w m∧Fr B m w2:=by
 have n:∀ i,i<w2.heap.size→(w2.heap.mapIdx fun i o=>if A i∨w.heap.size≤i then o else (w.heap[i]?).getD o)[i]? = if A i∨w.heap.size≤i then w2.heap[i]? else w.heap[i]? := by
  intro i g
  rw[Array.getElem?_mapIdx,Array.getElem?_eq_getElem g]
  by_cases b:A i∨w.heap.size≤i
  ·simp[b]
  have d:i<w.heap.size:=by
   rcases vJ i w.heap.size with c|c
   ·exact c
   exact absurd (Or.inr c) b
  simp only[b,oF,qU,Array.getElem?_eq_getElem d,rP]
 refine⟨{ w2 with heap:=w2.heap.mapIdx fun i o=>if A i∨w.heap.size≤i then o else (w.heap[i]?).getD o },⟨h.os,h.tape,h.output,?_,fun i g j=>?_⟩,⟨rfl,rfl,rfl,?_,fun i g p=>?_⟩⟩
 ·simpa using h.size
 ·have f:=n i (uQ g h.size)
  rw[uJ (fun b=>b.elim j (fun c=>by omega))] at f
  exact f
 ·simp
 have l:i<w2.heap.size:=by simpa using g
 have f:=n i l
 by_cases b:A i∨w.heap.size≤i
 ·rw[uL b] at f;exact f.symm
 rw[uJ b] at f
 have d:i<w.heap.size:=by
  rcases vJ i w.heap.size with c|c
  ·exact c
  exact absurd (Or.inr c) b
 exact (h.block i d (fun c=>c.elim (fun j=>b (Or.inl j)) p)).trans f.symm
theorem bl2 (b:Bool):b=true∨b=false:=by cases b<;>simp
theorem Own.same {k:IntKind}{t:TypeId}{w w':World}{b:Nat}{xs:List Nat}(h:Own k t w b xs)(e:w'.heap[b]? = w.heap[b]?):Own k t w' b xs:=by
 obtain⟨tail,c,d⟩:=h
 exact⟨tail,c,e.trans d⟩
section
variable {N:Nat} {S0:Nat→Prop} {w0:World} {s:St} {Φ Ψ:World→Prop} {L:Nat→Nat} {a:Act} {w:World} {P:Program} {ops:Array Oper} {Q:Exit→Act→World→Prop}
theorem Inv.notOwn (h:Inv N S0 w0 s Φ L a w){r j:Nat}{c:Value}(f:∀ w,Φ w→w.cell? ⟨r,j,none⟩=some c):¬ s.own L r:=fun g=>by
 have i:=f w h.box.self
 have b:∀ u:Value,u≠c→False:=fun u l=>by
  have d:=f (w.setCell ⟨r,j,none⟩ u) (h.box _ ((Fr.refl _ _).setCell (p:=⟨r,j,none⟩) (Or.inl g) u))
  rw[World.cell?_setCell_same _ _ _ i] at d
  injection d with d
  exact l d
 by_cases e:c=.bool true
 ·exact b (.bool false) (by rw[e];intro h;cases h)
 exact b (.bool true) (fun h=>e h.symm)
theorem Inv.eff (h:Inv N S0 w0 s Φ L a w){w':World}{r:Nat}(d:Fr (fun i=>i=r) w w')(g:¬ s.own L r)(c:w0.heap.size≤r∨S0 r)(f:r<w.heap.size)(m:∀ w1 w2,Φ w1→Fr (fun i=>i=r) w1 w2→w2.heap[r]? = w'.heap[r]? → Ψ w2):Inv N S0 w0 s Ψ L a w':=by
 refine⟨h.size,h.df,h.sl,⟨fun b t n e=>(h.mem.blk b t n e).fr d (fun p=>g ⟨b,by rw[e];rfl,p⟩),h.mem.inj,h.mem.old,h.mem.ext.next d (fun i y e=>?_),h.mem.slp,h.mem.cel⟩,fun w2 j=>?_⟩
 ·rcases c with l|l
  ·omega
  rw[e];exact l
 have q:Fr (fun i=>s.own L i∨i=r) w w2:=(d.mono (fun i _ e=>Or.inr e)).trans (j.mono (fun i _ e=>Or.inl e))
 obtain⟨w1,u,v⟩:=q.split
 exact m w1 w2 (h.box w1 u) v (j.block r (uQ f d.size) g)
theorem Zgy {α:Type}(l:List α)(j:Nat)(c:α)(h:j<l.length):iJ l j [c]=l.set j c:=by
 unfold iJ
 rw[List.set_eq_take_append_cons_drop,uL h]
 simp
theorem ZjK {t e:TypeId}{k:IntKind}{b j:Nat}{xs:List Nat}(m:(teOf P t).map (fun e=>e.size)=some 1)(d:Own k e w b xs)(n:j<xs.length)(v:Nat) :
 ∃ w',(Instr.storeAt t (.pointer (some ⟨b,j,none⟩)) (.int k (v:Int))).run P w=.ok () w'∧Own k e w' b (xs.set j v)∧Fr (fun i=>i=b) w w':=by
 obtain⟨z,f,p⟩:=sD.1 m
 obtain⟨tail,q,d⟩:=d
 obtain⟨w',r,h,u⟩:=Zct (P:=P) f (g:=b) (bt:=e) (off:=j) (cur:=(xs.map fun x:Nat=>Value.int k (x:Int)) ++ tail) (v:=.int k (v:Int)) d (by rw[p];rfl) (by simp[Value.cells];omega) (fun c l=>by simp[Value.cells] at l;rw[l];rfl)
 refine⟨w',r,⟨tail,q,?_⟩,u⟩
 have y:iJ ((xs.map fun x:Nat=>Value.int k (x:Int)) ++ tail) j (Value.cells (.int k (v:Int))).toList=((xs.set j v).map fun x:Nat=>Value.int k (x:Int)) ++ tail:=by
  rw[show (Value.cells (.int k (v:Int))).toList=[.int k (v:Int)] from rfl,Zgy _ _ _ (by simp;omega),List.set_append_left _ _ (by simpa using n),List.map_set]
 rw[y] at h
 exact h
theorem iL {i:Nat}{t e:TypeId}{k:IntKind}{x y:Operand}{xs:List Nat}(b j v:Nat)(Ψ:World→Prop)(m:∀ w,Φ w→Own k e w b xs)(n:j<xs.length)(d:w0.heap.size≤b∨S0 b)(p:∀ w w',Φ w→Fr (fun i=>i=b) w w'→Own k e w' b (xs.set j v)→Ψ w')(K:SXi P N S0 w0 ops Q (i+1) s Ψ)(h:Nat.blt i ops.size=true:=by kernel_rfl)(q:s.wantB ops (opAt ops i)=some true:=by kernel_rfl)(r:(opAt ops i).op=.store t x y:=by kernel_rfl)(u:(opAt ops i).dst=none:=by kernel_rfl)(z:(teOf P t).map (fun e=>e.size)=some 1:=by kernel_rfl)(A:s.eval x=some (.v (.pointer (some ⟨b,j,none⟩))):=by kernel_rfl)(B:s.eval y=some (.v (.int k (v:Int))):=by kernel_rfl):SXi P N S0 w0 ops Q i s Φ:=by
 unfold SXi
 rw[eJ h]
 intro L a w c
 refine wpList_step fun O C=>?_
 rw[uL (c.want q)]
 have f:=m w c.box.self
 obtain⟨w',D,l,E⟩:=ZjK (P:=P) z f n v
 unfold Oper.wp
 have ex:=c.eval A
 have F:=c.eval B
 have g:(execOp a.eval (opAt ops i)).run P w=.ok .skip w':=by simp only[execOp,r,Sem.run_bind,ex,F,AV.conc,D,Result.andThen_ok,Sem.run_pure]
 rw[g,Oper.upon_skip,u]
 refine C _ _ (K L _ _ (c.eff E (c.notOwn (fun w R=>(m w R).cell n)) d f.lt (fun G H I J M=>p G H I J (l.same M))))
theorem Zdg {i d:Nat}{e:TypeId}{k:IntKind}{xs:List Nat}{α:Type}(f:FuncId)(args:List Value)(j:α→Value)(p:α→Prop)(n:α→List Nat)(b:Nat)(Ψ:α→World→Prop)(q:∀ w,Φ w→Own k e w b xs)(u:0<xs.length)(g:w0.heap.size≤b∨S0 b)(y:∀ w,Fr S0 w0 w→Φ w→Calls P f args.toArray w (fun en w'=>∃ x,en=.returned (j x)∧p x∧Fr (fun i=>i=b) w w'∧Own k e w' b (n x)))(z:∀ x w w',p x→Φ w→Fr (fun i=>i=b) w w'→Own k e w' b (n x)→Ψ x w')(K:∀ x,p x→SXi P N S0 w0 ops Q (i+1) (s.put d (.v (j x))) (Ψ x))(l:Nat.blt i ops.size=true:=by kernel_rfl)(h:eG P N ops (opAt ops i) s=some (f,args,d):=by kernel_rfl):SXi P N S0 w0 ops Q i s Φ:=by
 obtain⟨A,B,C,D,E,F,G⟩:=cO h
 unfold SXi
 rw[eJ l]
 intro L a w c
 refine wpList_step fun W H=>?_
 rw[uL (c.want A)]
 unfold Oper.wp
 rw[c.exec D E,Zcd B F,Oper.upon_enter]
 refine Calls.mono (y w c.mem.ext c.box.self) fun en w' I=>?_
 obtain⟨x,rfl,r,J,m⟩:=I
 simp only[C]
 have M:=c.app0 (d:=d) G (al_v (s:=s) (j x))
 exact H _ _ (K x r L _ _ (M.eff J (c.notOwn (fun w R=>(q w R).cell u)) g (q w c.box.self).lt (fun O S T U V=>z x O S r T U (m.same V))))
theorem Zdh {i d:Nat}{t e:TypeId}{k kl kc:IntKind}{l c:Operand}(n bytes:Nat)(hn:n≤35184372088832)(B:bytes≤8)(K:∀ b,w0.heap.size≤b→(∀ r,(∀ w,Φ w→r<w.heap.size)→r<b)→SXi P N S0 w0 ops Q (i+1) (s.put d (.v (.slice (some ⟨b,0,none⟩) n n))) (fun w=>Box (fun j=>b≤j) w Φ∧Own k e w b (List.replicate n 0)))(C:Nat.blt i ops.size=true:=by kernel_rfl)(H:s.wantB ops (opAt ops i)=some true:=by kernel_rfl)(I:(opAt ops i).op.operands.toList.all s.vB=true:=by kernel_rfl)(G:(opAt ops i).op=Op.makeSlice t l c:=by kernel_rfl)(J:(opAt ops i).dst=some d:=by kernel_rfl)(M:Nat.blt d N=true:=by kernel_rfl)(O:P.underlying t=some (.slice e):=by kernel_rfl)(u:(P.info? e).map (fun i=>(i.zero,i.size,i.bytes))=some (some (.int k 0),1,bytes):=by kernel_rfl)(S:s.rho l=.int kl n:=by kernel_rfl)(T:s.rho c=.int kc n:=by kernel_rfl):SXi P N S0 w0 ops Q i s Φ:=by
 unfold SXi
 rw[eJ C]
 intro L a w y
 refine wpList_step fun K' U=>?_
 rw[uL (y.want H)]
 unfold Oper.wp
 have D:iE (opAt ops i).op=true:=by rw[G];rfl
 have V:bytes*n≤8*n:=uC n B
 rw[y.exec D I]
 have p:=run_make_row' (P:=P) t e (.int k 0) bytes O u rfl kl kc n (by omega) (by omega) w
 rw[Zaj] at p
 have z:(execOp s.rho (opAt ops i)).run P w=.ok (.value (.slice (some ⟨w.heap.size,0,none⟩) n n)) (w.alloc (.cells (lG k (List.replicate n 0) []) e)):=by simp[execOp,G,S,T,p,Result.andThen]
 rw[z,Oper.upon_value,J]
 have R:Ext w (w.alloc (.cells (lG k (List.replicate n 0) []) e)):=(Fr.refl _ w).alloc _
 have m:=y.app0 (d:=d) (rN M) (al_v (s:=s) (.slice (some ⟨w.heap.size,0,none⟩) n n))
 have W:=Own.new w e k (List.replicate n 0) []
 refine U _ _ (K w.heap.size y.mem.ext.size (fun r h=>h w y.box.self) L _ _ ⟨m.size,m.df,m.sl,⟨fun b t X e=>(m.mem.blk b t X e).ext R,m.mem.inj,m.mem.old,m.mem.ext.ext R,m.mem.slp,m.mem.cel⟩,fun w2 A=>⟨fun Y g=>?_,?_⟩⟩)
 ·refine y.box Y ⟨g.os.trans (A.os.trans R.os),g.tape.trans (A.tape.trans R.tape),g.output.trans (A.output.trans R.output),uE R.size (uE A.size g.size),fun j E F=>?_⟩
  have Z:=R.block j E (fun f=>f)
  have h2:=A.block j (uQ E R.size) F
  have h3:=g.block j (uQ E (uE R.size A.size)) (by omega)
  exact h3.trans (h2.trans Z)
 refine W.fr A fun⟨b,hb,eb⟩=>?_
 obtain⟨q,eq⟩:=tP.1 hb
 have:=(y.mem.blk b q.1 q.2 eq).lt
 omega
theorem SXi.know {i:Nat}{p:Prop}(h:∀ w,Fr S0 w0 w→Φ w→p)(K:p→SXi P N S0 w0 ops Q i s Φ):SXi P N S0 w0 ops Q i s Φ:=fun L a w b=>K (h w b.mem.ext b.box.self) L a w b
theorem Zpn {i d:Nat}{e:TypeId}{k:IntKind}(f:FuncId)(args:List Value)(xs:List Nat)(B:∀ w,Fr S0 w0 w→Φ w→Calls P f args.toArray w (fun en w'=>∃ b c,en=.returned (.slice (some ⟨b,0,none⟩) xs.length c)∧w.heap.size≤b∧xs.length≤c∧Ext w w'∧Own k e w' b xs))(K:∀ b c,w0.heap.size≤b→xs.length≤c→(∀ r,(∀ w,Φ w→r<w.heap.size)→r<b)→SXi P N S0 w0 ops Q (i+1) (s.put d (.v (.slice (some ⟨b,0,none⟩) xs.length c))) (fun w=>Box (fun j=>b≤j) w Φ∧Own k e w b xs))(p:Nat.blt i ops.size=true:=by kernel_rfl)(h:eG P N ops (opAt ops i) s=some (f,args,d):=by kernel_rfl):SXi P N S0 w0 ops Q i s Φ:=by
 obtain⟨C,D,E,F,G,H,I⟩:=cO h
 unfold SXi
 rw[eJ p]
 intro L a w l
 refine wpList_step fun K' J=>?_
 rw[uL (l.want C)]
 unfold Oper.wp
 rw[l.exec F G,Zcd D H,Oper.upon_enter]
 refine Calls.mono (B w l.mem.ext l.box.self) fun en w' M=>?_
 obtain⟨b,c,rfl,A,O,R,S⟩:=M
 simp only[E]
 have m:=l.app0 (d:=d) I (al_v (s:=s) (.slice (some ⟨b,0,none⟩) xs.length c))
 refine J _ _ (K b c (uE l.mem.ext.size A) O (fun r h=>uQ (h w l.box.self) A) L _ _ ⟨m.size,m.df,m.sl,⟨fun b t T e=>(m.mem.blk b t T e).ext R,m.mem.inj,m.mem.old,m.mem.ext.ext R,m.mem.slp,m.mem.cel⟩,fun w2 n=>⟨fun U g=>?_,?_⟩⟩)
 ·refine l.box U ⟨g.os.trans (n.os.trans R.os),g.tape.trans (n.tape.trans R.tape),g.output.trans (n.output.trans R.output),uE R.size (uE n.size g.size),fun j u y=>?_⟩
  have V:=R.block j u (fun f=>f)
  have W:=n.block j (uQ u R.size) y
  have X:=g.block j (uQ u (uE R.size n.size)) (by omega)
  exact X.trans (W.trans V)
 refine S.fr n fun Y=>?_
 obtain⟨Z,z,eb⟩:=Y
 obtain⟨q,eq⟩:=tP.1 z
 have:=(l.mem.blk Z q.1 q.2 eq).lt
 omega
theorem Zqz {i d:Nat}{dT sT e:TypeId}{k:IntKind}{dx sx:Operand}{sp:Option Addr}{n m dc sc:Nat}{mid ys:List Nat}(b:Nat)(Ψ:World→Prop)(C:mid.length=n)(D:ys.length=m)(g:0<mid.length)(A:∀ w,Φ w→Own k e w b mid)(E:∀ w,Φ w→zF k w sp ys)(h:w0.heap.size≤b∨S0 b)(F:∀ w w',Φ w→Fr (fun i=>i=b) w w'→Own k e w' b (ys.take mid.length ++ mid.drop ys.length)→Ψ w')(K:SXi P N S0 w0 ops Q (i+1) s Ψ)(p:Nat.blt i ops.size=true:=by kernel_rfl)(G:(opAt ops i).guard=none:=by kernel_rfl)(H:(opAt ops i).op=.call { callee:=.builtin .copy,args:=#[dx,sx],argTypes:=#[dT,sT] }:=by kernel_rfl)(q:(opAt ops i).dst=some d:=by kernel_rfl)(I:(s.sl d).isNone=true:=by kernel_rfl)(J:P.underlying dT=some (.slice e):=by kernel_rfl)(M:(P.info? e).map (·.size)=some 1:=by kernel_rfl)(O:s.eval dx=some (.v (.slice (some ⟨b,0,none⟩) n dc)):=by kernel_rfl)(S:s.eval sx=some (.v (.slice sp m sc)):=by kernel_rfl):SXi P N S0 w0 ops Q i s Φ:=by
 unfold SXi
 rw[eJ p]
 intro L a w f
 have ex:=f.eval O
 have T:=f.eval S
 have l:=A w f.box.self
 refine Za7 G dx sx dT sT H e k J M (some ⟨b,0,none⟩) sp n m dc sc ex T b [] mid [] ys C D (by simpa using l) (E w f.box.self) (fun _=>rfl) ?_
 intro w' z r _ U _
 have u:Own k e w' b (ys.take mid.length ++ mid.drop ys.length):=by simpa using r
 have c:=f.eff U (f.notOwn (fun w R=>(A w R).cell g)) h l.lt (fun V W c X Y=>F V W c X (u.same Y))
 have hsl:s.sl d=none:=by simpa using I
 refine K L _ _ ⟨by rw[q];simp[Act.put,c.size],by rw[q];exact c.df,fun j x B=>?_,c.mem,c.box⟩
 have y:d≠j:=fun e=>by rw[e,B] at hsl;cases hsl
 have:=c.sl j x B
 rw[q]
 simp[Act.put,Array.getElem?_setIfInBounds_ne y,this]
theorem xj {b:World→Prop}{n i:Nat}(d:Nat)(y:Value)(c:∀ w,b w→(execOp s.rho (opAt ops i)).run P w=.ok (.value y) w)(K:StI P N S0 w0 ops b Q n (i+1) (s.put d (.v y)) Φ)(hi:Nat.blt i n=true:=by kernel_rfl)(f:Zee (opAt ops i).op=true:=by kernel_rfl)(g:s.wantB ops (opAt ops i)=some true:=by kernel_rfl)(h:(opAt ops i).op.operands.toList.all s.vB=true:=by kernel_rfl)(j:(opAt ops i).dst=some d:=by kernel_rfl)(l:Nat.blt d N=true:=by kernel_rfl):StI P N S0 w0 ops b Q n i s Φ :=
 Zbn d y hi f g h j l c K
end
def atA (A:Option Addr) (i:Nat):Value:=.pointer (A.map (·.add i))
section
variable {P:Program} {o:Oper} {ρ:Operand→Value} {w:World} {t e:TypeId} {x ix:Operand} {k:IntKind} {xs:List Nat}
theorem wJ {A:Option Addr}{len cap i:Nat}(hA:A≠none)(h:i<len)(c:o.op=Op.indexAddr t x ix:=by kernel_rfl)(d:P.underlying t=some (.slice e):=by kernel_rfl)(f:(P.info? e).map (fun i=>i.size)=some 1:=by kernel_rfl)(g:ρ x=.slice A len cap:=by kernel_rfl)(hi:ρ ix=.int .i64 (i:Int):=by kernel_rfl):(execOp ρ o).run P w=.ok (.value (atA A i)) w:=by
 obtain⟨j,b,l⟩:=sD.1 f
 obtain⟨a,rfl⟩:∃ a,A=some a:=by cases A;exact absurd rfl hA;exact⟨_,rfl⟩
 have m:(0:Int)≤(i:Int)∧(i:Int)<(len:Int):=by omega
 simp[execOp,c,Instr.indexAt,asIntOf,underlying,d,g,hi,h,sizeOf,typeInfo,b,l,Result.andThen,atA]
theorem iC {g off len cap i:Nat}(h:i<len)(b:o.op=Op.indexAddr t x ix:=by kernel_rfl)(c:P.underlying t=some (.slice e):=by kernel_rfl)(d:(P.info? e).map (fun i=>i.size)=some 1:=by kernel_rfl)(f:ρ x=.slice (some ⟨g,off,none⟩) len cap:=by kernel_rfl)(hi:ρ ix=.int .i64 (i:Int):=by kernel_rfl):(execOp ρ o).run P w=.ok (.value (.pointer (some ⟨g,off+i,none⟩))) w:=by
 rw[wJ (A:=some ⟨g,off,none⟩) (by simp) h b c d f hi,atA,oF,aE]
theorem kR {g len cap i:Nat}(h:i<len)(b:o.op=Op.indexAddr t x ix:=by kernel_rfl)(c:P.underlying t=some (.slice e):=by kernel_rfl)(d:(P.info? e).map (fun i=>i.size)=some 1:=by kernel_rfl)(f:ρ x=.slice (some ⟨g,0,none⟩) len cap:=by kernel_rfl)(hi:ρ ix=.int .i64 (i:Int):=by kernel_rfl):(execOp ρ o).run P w=.ok (.value (.pointer (some ⟨g,i,none⟩))) w:=by
 have:=iC (w:=w) h b c d f hi
 rwa [sC] at this
theorem lZ {g off:Nat}{c:Value}(b:w.cell? ⟨g,off,none⟩=some c)(d:o.op=Op.load t x:=by kernel_rfl)(f:ρ x=.pointer (some ⟨g,off,none⟩):=by kernel_rfl)(ha:(teOf P t).map (fun e=>e.agg)=some false:=by kernel_rfl) :
 (execOp ρ o).run P w=.ok (.value c) w:=by
 obtain⟨e,h,i⟩:=sD.1 ha
 have:=Zfj (P:=P) (w:=w) h b i
 simp only[execOp,d,f,Sem.run_bind,this,Result.andThen_ok,Sem.run_pure]
theorem fD {b j:Nat}(c:Own k e w b xs)(d:j<xs.length)(f:o.op=Op.load t x:=by kernel_rfl)(g:ρ x=.pointer (some ⟨b,j,none⟩):=by kernel_rfl)(ha:(teOf P t).map (fun e=>e.agg)=some false:=by kernel_rfl) :
 (execOp ρ o).run P w=.ok (.value (.int k ((xs[j]?.getD 0:Nat):Int))) w:=lZ (c.cell d) f g ha
theorem lF {A:Option Addr}{j:Nat}(b:zF k w A xs)(c:j<xs.length)(d:o.op=Op.load t x:=by kernel_rfl)(f:ρ x=atA A j:=by kernel_rfl)(ha:(teOf P t).map (fun e=>e.agg)=some false:=by kernel_rfl) :
 (execOp ρ o).run P w=.ok (.value (.int k ((xs[j]?.getD 0:Nat):Int))) w:=by
 obtain⟨g,h,rfl,_,i⟩:=b.at c
 exact lZ i d (by rw[f,atA,oF,aE]) ha
theorem Zry {A:Option Addr}{len cap h:Nat}{hi:Operand}(c:h≤cap)(d:o.op=Op.slice t x none (some hi) none:=by kernel_rfl)(f:P.underlying t=some (.slice e):=by kernel_rfl)(g:(P.info? e).map (fun i=>i.size)=some 1:=by kernel_rfl)(j:ρ x=.slice A len cap:=by kernel_rfl)(l:ρ hi=.int .i64 (h:Int):=by kernel_rfl):(execOp ρ o).run P w=.ok (.value (.slice A h cap)) w:=by
 obtain⟨m,b,_⟩:=sD.1 g
 have n:A.map (fun a=>a.add 0)=A:=by cases A with
  | none=>rfl
  | some a=>simp[Addr.add]
 simp[execOp,d,Instr.sliceAt,Instr.slice,Instr.sliceBounds,Instr.sliceBound,asIntOf,underlying,f,j,l,c,sizeOf,typeInfo,b,Result.andThen,n]
theorem ZqA {g len cap off l h n m:Nat}{lo hi:Operand}(d:l≤h)(b:h≤cap)(j:l<cap)(p:h-l=n)(q:cap-l=m)(r:o.op=Op.slice t x (some lo) (some hi) none:=by kernel_rfl)(u:P.underlying t=some (.slice e):=by kernel_rfl)(v:(P.info? e).map (fun i=>i.size)=some 1:=by kernel_rfl)(y:ρ x=.slice (some ⟨g,off,none⟩) len cap:=by kernel_rfl)(z:ρ lo=.int .i64 (l:Int):=by kernel_rfl)(A:ρ hi=.int .i64 (h:Int):=by kernel_rfl):(execOp ρ o).run P w=.ok (.value (.slice (some ⟨g,off+l,none⟩) n m)) w:=by
 subst p q
 obtain⟨B,c,C⟩:=sD.1 v
 have f:¬ cap=l:=by omega
 simp[execOp,r,Instr.sliceAt,Instr.slice,Instr.sliceBounds,Instr.sliceBound,asIntOf,underlying,u,y,z,A,d,b,sizeOf,typeInfo,c,C,Result.andThen,f,aE]
theorem Zpo {g len cap l h n m:Nat}{lo hi:Operand}(c:l≤h)(b:h≤cap)(d:l<cap)(f:h-l=n)(j:cap-l=m)(p:o.op=Op.slice t x (some lo) (some hi) none:=by kernel_rfl)(q:P.underlying t=some (.slice e):=by kernel_rfl)(r:(P.info? e).map (fun i=>i.size)=some 1:=by kernel_rfl)(u:ρ x=.slice (some ⟨g,0,none⟩) len cap:=by kernel_rfl)(v:ρ lo=.int .i64 (l:Int):=by kernel_rfl)(y:ρ hi=.int .i64 (h:Int):=by kernel_rfl):(execOp ρ o).run P w=.ok (.value (.slice (some ⟨g,l,none⟩) n m)) w:=by
 have:=ZqA (w:=w) c b d f j p q r u v y
 rwa [sC] at this
theorem zF.ne {A:Option Addr}(b:zF k w A xs){j:Nat}(c:j<xs.length):A≠none:=by
 obtain⟨g,d,rfl,_⟩:=b.at c
 intro h;cases h
end
def ZaH (ops:Array Oper) (i k:Nat):List Nat:=((ops.toList.drop i).take k).filterMap (fun o=>o.dst)
def ZaI (l:List Nat) (sl:SlL):SlL:=sl.filter (fun q => !(l.any (Nat.beq q.1)))
def Zi5 (nb:BlL) (bl:BlL):BlL:=bl.filter (fun q => !(nb.any (fun p=>Nat.beq p.1 q.1)))
section
variable {N:Nat} {S0:Nat→Prop} {w0:World} {sl:SlL} {bl:BlL} {Φ Φ0:World→Prop} {P:Program} {ops:Array Oper} {Q:Exit→Act→World→Prop}
theorem xq {i:Nat}(k:Nat)(b:SlL)(a:BlL)(K:SXi P N S0 w0 ops Q (i+k) (ofL (b ++ ZaI (ZaH ops i k) sl) (a ++ Zi5 a bl)) Φ)(h:Zgt P N ops i k (ofL sl bl) (b ++ ZaI (ZaH ops i k) sl) (a ++ Zi5 a bl)=some ((b ++ ZaI (ZaH ops i k) sl).map (fun q=>some q.2),(a ++ Zi5 a bl).map (fun q=>some q.2)):=by kernel_rfl)(c:wfB (b ++ ZaI (ZaH ops i k) sl) (a ++ Zi5 a bl)=true:=by kernel_rfl):SXi P N S0 w0 ops Q i (ofL sl bl) Φ:=ZnJ k _ _ h c K
theorem xqf {n i:Nat}(k:Nat)(b:SlL)(a:BlL)(K:StI P N S0 w0 ops Φ0 Q n (i+k) (ofL (b ++ ZaI (ZaH ops i k) sl) a) Φ)(h:ZcK P N ops k i (ofL sl bl) (b ++ ZaI (ZaH ops i k) sl)=some ((b ++ ZaI (ZaH ops i k) sl).map (fun q=>some q.2),dS a):=by kernel_rfl)(c:Nat.ble (i+k) n=true:=by kernel_rfl):StI P N S0 w0 ops Φ0 Q n i (ofL sl bl) Φ:=ZjI k _ _ h c K
theorem xqg {n i:Nat}(k:Nat)(a:SlL)(K:StI P N S0 w0 ops Φ0 Q n (i+k) (ofL (a ++ ZaI (ZaH ops i k) sl) bl) Φ)(h:ZcK P N ops k i (ofL sl bl) (a ++ ZaI (ZaH ops i k) sl)=some ((a ++ ZaI (ZaH ops i k) sl).map (fun q=>some q.2),dS bl):=by kernel_rfl)(b:Nat.ble (i+k) n=true:=by kernel_rfl):StI P N S0 w0 ops Φ0 Q n i (ofL sl bl) Φ:=ZjI k _ _ h b K
theorem xqc {i:Nat}(f:FuncId)(args:List Value)(d:Nat){α:Type}(a:α→Value)(φ:α→World→Prop)(c:∀ w,Fr S0 w0 w→Φ w→Calls P f args.toArray w (kM a φ w))(K:∀ x,SXi P N S0 w0 ops Q (i+1) (ofL ((d,.v (a x)) :: sl) bl) (fun w=>Φ w∧φ x w))(b:Nat.blt i ops.size=true:=by kernel_rfl)(h:eG P N ops (opAt ops i) (ofL sl bl)=some (f,args,d):=by kernel_rfl):SXi P N S0 w0 ops Q i (ofL sl bl) Φ:=ZlC f args d a φ b h c K
theorem xqd {n i:Nat}(f:FuncId)(args:List Value)(d:Nat){α:Type}[e:Nonempty α](a:α→Value)(φ:α→World→Prop)(b:∀ w,Fr S0 w0 w→Φ w→Calls P f args.toArray w (kM a φ w))(K:∀ x,StI P N S0 w0 ops Φ0 Q n (i+1) (ofL ((d,.v (a x)) :: sl) bl) (fun w=>Φ w∧φ x w))(hi:Nat.blt i n=true:=by kernel_rfl)(c:cls (opAt ops i).op=2:=by kernel_rfl)(h:eG P N ops (opAt ops i) (ofL sl bl)=some (f,args,d):=by kernel_rfl):StI P N S0 w0 ops Φ0 Q n i (ofL sl bl) Φ:=ZlD f args d a φ hi c h b K
theorem xqk {i:Nat}(d:Nat)(y:Value)(a:∀ w,Fr S0 w0 w→Φ w→(execOp (ofL sl bl).rho (opAt ops i)).run P w=.ok (.value y) w)(K:SXi P N S0 w0 ops Q (i+1) (ofL ((d,.v y) :: sl) bl) Φ)(hi:Nat.blt i ops.size=true:=by kernel_rfl)(b:iE (opAt ops i).op=true:=by kernel_rfl)(c:(ofL sl bl).wantB ops (opAt ops i)=some true:=by kernel_rfl)(e:(opAt ops i).op.operands.toList.all (ofL sl bl).vB=true:=by kernel_rfl)(f:(opAt ops i).dst=some d:=by kernel_rfl)(g:Nat.blt d N=true:=by kernel_rfl):SXi P N S0 w0 ops Q i (ofL sl bl) Φ :=
 iT d y hi b c e f g a K
theorem xqj {n i:Nat}(d:Nat)(y:Value)(a:∀ w,Φ0 w→(execOp (ofL sl bl).rho (opAt ops i)).run P w=.ok (.value y) w)(K:StI P N S0 w0 ops Φ0 Q n (i+1) (ofL ((d,.v y) :: sl) bl) Φ)(hi:Nat.blt i n=true:=by kernel_rfl)(b:Zee (opAt ops i).op=true:=by kernel_rfl)(c:(ofL sl bl).wantB ops (opAt ops i)=some true:=by kernel_rfl)(e:(opAt ops i).op.operands.toList.all (ofL sl bl).vB=true:=by kernel_rfl)(f:(opAt ops i).dst=some d:=by kernel_rfl)(g:Nat.blt d N=true:=by kernel_rfl):StI P N S0 w0 ops Φ0 Q n i (ofL sl bl) Φ :=
 Zbn d y hi b c e f g a K
end
theorem xD {w w':World}{e:Ending}{n:Nat}(h:wW w n e w'):kM xH (fun x w=>zK w (xH x) n) w e w':=by
 obtain⟨v,rfl,a,Q⟩:=h
 obtain⟨A,l,c,rfl⟩:=a.slice
 exact⟨(A,l,c),rfl,Q,boxn Q (fun S b d f=>a.nrb d f)⟩
theorem eI {P:Program}{o:Oper}{ρ:Operand→Value}{w:World}{y:Value}{f:FuncId}{args:List Operand}{ts:Array TypeId}{a:List Value}(h:(callFunc f a.toArray).run P w=.ok (.value y) w)(b:o.op=.call { callee:=.value (.func f),args:=args.toArray,argTypes:=ts }:=by kernel_rfl)(c:args.map ρ=a:=by kernel_rfl)(d:ρ (.func f)=.func (.func f) #[] #[]:=by kernel_rfl):(execOp ρ o).run P w=.ok (.value y) w:=by
 subst c
 have e:(#[] ++ args.toArray.map ρ ++ #[]:Array Value)=(args.map ρ).toArray:=by simp
 simp only[execOp,b,resolve,d,Deferred.ofValue,Sem.run_bind,Sem.run_pure,Result.andThen_ok,invoke,e,h]
theorem tdq (a c:Nat)(h:a<9223372036854775808):IntKind.i64.wrap (((a:Nat):Int).tdiv (c:Int))=((a/c:Nat):Int):=by
 rw[←Int.ofNat_tdiv,IntKind.wrap_i64]
 have:=uZ a c
 generalize a/c=q at *
 omega
theorem tdr (a c:Nat):(((a:Nat):Int).tmod (c:Int))=((a%c:Nat):Int):=(Int.ofNat_tmod a c).symm
theorem wY {a b:Int}(h:((a:Int) == b)=false):a≠b:=by simpa using h
theorem ZaX {a b:Int}(h:((a:Int) != b)=true):a≠b:=by simpa using h
theorem ZaY {a b:Int}(h:((a:Int) != b)=false):a=b:=by simpa using h
section
variable {P:Program} {o:Oper} {ρ:Operand→Value} {w:World} {x y:Operand} {t k:TypeId}
theorem ZjL {a n:Nat}(h:n≤64)(b:o.op=Op.binOp .shr t x y k:=by kernel_rfl)(c:ρ x=.int .u64 (a:Int):=by kernel_rfl){ky:IntKind}(d:ρ y=.int ky (n:Int):=by kernel_rfl):(execOp ρ o).run P w=.ok (.value (.int .u64 ((a/2^n:Nat):Int))) w:=by
 have e:¬ ((n:Int)<0):=by omega
 have f:min ((n:Int)).toNat IntKind.u64.bits=n:=by show min ((n:Int)).toNat 64=n;omega
 have g:((a:Int)).fdiv (2^n)=((a/2^n:Nat):Int):=by
  rw[Int.fdiv_eq_ediv_of_nonneg _ (by rw[show ((2:Int)^n)=((2^n:Nat):Int) by rw[vI];rfl];exact Int.natCast_nonneg _)]
  exact ZbC a n
 simp only[execOp,b,c,d,eqGuard,binOp,Op.shift,uJ e,f,g]
 rfl
theorem ZnR {a n:Nat}(g:n≤64)(b:o.op=Op.binOp .shl t x y k:=by kernel_rfl)(c:ρ x=.int .u64 (a:Int):=by kernel_rfl){ky:IntKind}(d:ρ y=.int ky (n:Int):=by kernel_rfl):(execOp ρ o).run P w=.ok (.value (.int .u64 ((a*2^n%W64:Nat):Int))) w:=by
 have e:¬ ((n:Int)<0):=by omega
 have f:min ((n:Int)).toNat IntKind.u64.bits=n:=by show min ((n:Int)).toNat 64=n;omega
 simp only[execOp,b,c,d,eqGuard,binOp,Op.shift,uJ e,f,Zan]
 rfl
theorem Zp2 {a b r:Nat}(ha:a<W64)(c:b<W64)(h:a ||| b=r)(d:o.op=Op.binOp .or t x y k:=by kernel_rfl)(e:ρ x=.int .u64 (a:Int):=by kernel_rfl)(f:ρ y=.int .u64 (b:Int):=by kernel_rfl):(execOp ρ o).run P w=.ok (.value (.int .u64 (r:Int))) w:=by
 have:=bN ha c
 rw[h] at this
 rw[←this]
 simp only[execOp,d,e,f,eqGuard,binOp]
 rfl
end
theorem lH {B:Nat}{xs:List Nat}(k:Nat):val B (xs.take (k+1))=val B (xs.take k)+B^k*(xs[k]?.getD 0):=by
 rcases vJ k xs.length with h|h
 ·exact zR k h
 rw[uA (by omega),uA h,List.getElem?_eq_none h];simp
/-! ### plus,minus -/
def Zbc (xs ys:List Nat) (k:Nat) (zs:List Nat) (c:Nat):Prop :=
 zs.length=xs.length+1∧Dig W64 zs∧c≤1∧val W64 (zs.take k)+W64^k*c=val W64 (xs.take k)+val W64 (ys.take k)
theorem Zbc.start (xs ys:List Nat):Zbc xs ys 0 (List.replicate (xs.length+1) 0) 0:=⟨by simp,Dig.replicate zM _,by omega,by simp⟩
theorem Zbc.step {xs ys a:List Nat}{k c x y:Nat}(h:Zbc xs ys k a c)(l:k<xs.length)(ex:xs[k]?.getD 0=x)(b:ys[k]?.getD 0=y)(d:Dig W64 xs)(e:Dig W64 ys):Zbc xs ys (k+1) (a.set k (xI x y c)) (xO x y c):=by
 obtain⟨f,g,i,j⟩:=h
 refine⟨by simpa using f,g.set k (dX _ _ _),ZcX (ex ▸ d.getD zM k) (b ▸ e.getD zM k) i,?_⟩
 rw[xL _ _ _ _ (by omega),lH k,lH k,ex,b,uO]
 exact Zbx _ _ _ _ _ _ _ _ _ _ j (fR x y c)
theorem Zbc.done {xs ys a:List Nat}{c:Nat}(h:Zbc xs ys xs.length a c)(b:ys.length≤xs.length):(a.set xs.length c).length=xs.length+1∧Dig W64 (a.set xs.length c)∧val W64 (a.set xs.length c)=val W64 xs+val W64 ys:=by
 obtain⟨d,f,j,g⟩:=h
 have e:(a.set xs.length c).length=xs.length+1:=by simpa using d
 refine⟨e,f.set _ (by have:=eA;omega),?_⟩
 rw[←uA (l:=a.set xs.length c) (i:=xs.length+1) (by omega),xL _ _ _ _ (by omega),g,uA (uM _),uA b]
def MinR (xs ys:List Nat) (k:Nat) (zs:List Nat) (c:Nat):Prop :=
 zs.length=xs.length∧Dig W64 zs∧c≤1∧val W64 (zs.take k)+val W64 (ys.take k)=val W64 (xs.take k)+W64^k*c
theorem MinR.start (xs ys:List Nat):MinR xs ys 0 (List.replicate xs.length 0) 0:=⟨by simp,Dig.replicate zM _,by omega,by simp⟩
theorem MinR.step {xs ys a:List Nat}{k c x y:Nat}(h:MinR xs ys k a c)(m:k<xs.length)(ex:xs[k]?.getD 0=x)(b:ys[k]?.getD 0=y)(d:Dig W64 xs)(e:Dig W64 ys):MinR xs ys (k+1) (a.set k (lJ x y c)) (lK x y c):=by
 obtain⟨f,g,i,j⟩:=h
 have l:=Zby (ex ▸ d.getD zM k) (b ▸ e.getD zM k) i
 refine⟨by simpa using f,g.set k (Zak _ _ _),ZcY _ _ _,?_⟩
 rw[xL _ _ _ _ (by omega),lH k,lH k,ex,b,uO]
 exact Zfs _ _ _ _ _ _ _ _ _ _ j l
theorem MinR.done {xs ys d:List Nat}{c:Nat}(h:MinR xs ys xs.length d c)(e:ys.length≤xs.length)(f:val W64 ys≤val W64 xs):val W64 d=val W64 xs-val W64 ys:=by
 obtain⟨g,i,j,a⟩:=h
 rw[uA (by omega),uA e,uA (uM _)] at a
 have b:=xZ i
 rw[g] at b
 rcases (by omega:c=0∨c=1) with rfl|rfl
 ·rw[tK] at a;omega
 rw[sB] at a;omega
/-! ### times -/
noncomputable def tmD (z x y c:Nat):Nat:=xI (xI (xE x y) z 0) c 0
noncomputable def tmC (z x y c:Nat):Nat:=wI x y+xO (xE x y) z 0+xO (xI (xE x y) z 0) c 0
theorem ZlF (z x y c:Nat):tmD z x y c+W64*tmC z x y c=z+x*y+c:=by
 have a:=dY x y
 have b:=fR (xE x y) z 0
 have d:=fR (xI (xE x y) z 0) c 0
 unfold tmD tmC
 rw[uN,uN]
 omega
theorem ZjM {z x y c:Nat}(d:z<W64)(a:x<W64)(b:y<W64)(e:c<W64):tmC z x y c<W64:=by
 have f:=ZlF z x y c
 have g:=ZcZ a b
 exact aV _ (by omega)
theorem Zgz {a b:Nat}(h:a+b<W64):IntKind.u64.wrap ((a:Int)+(b:Int))=((a+b:Nat):Int):=by rw[←sX];exact wE _ h
theorem Zr8 {z x y c:Nat}(a:z<W64)(b:x<W64)(d:y<W64)(e:c<W64):wI x y+xO (xE x y) z 0<W64:=by have:=ZjM a b d e;unfold tmC at this;omega
theorem Zei (x y:Nat)(w:World)(a:x<W64)(b:y<W64):yA 145 #[.int .u64 (x:Int),.int .u64 (y:Int)] w (RetV w (.tuple #[.int .u64 ((wI x y:Nat):Int),.int .u64 ((xE x y:Nat):Int)])):=by
 refine (ZaO x y a b w).mono ?_
 rintro e w' ⟨rfl,rfl⟩
 exact⟨rfl,Fr.refl _ _⟩
def TimI (zs0 ys:List Nat) (x i k:Nat) (zs:List Nat) (c:Nat):Prop :=
 zs.length=zs0.length∧Dig W64 zs∧c<W64∧zs.drop (i+k)=zs0.drop (i+k)∧val W64 (zs.take (i+k))+W64^(i+k)*c=val W64 (zs0.take (i+k))+W64^i*(x*val W64 (ys.take k))
theorem TimI.start {a:List Nat}(ys:List Nat)(x i:Nat)(h:Dig W64 a):TimI a ys x i 0 a 0:=⟨rfl,h,zM,rfl,by simp⟩
theorem TimI.at {a ys b:List Nat}{x i k c:Nat}(h:TimI a ys x i k b c):b[i+k]?.getD 0=a[i+k]?.getD 0:=by
 have:=vP (fun l=>l[0]?.getD 0) h.2.2.2.1
 simpa [List.getElem?_drop] using this
theorem TimI.step {a ys b:List Nat}{x i k c z y:Nat}(h:TimI a ys x i k b c)(j:i+k<a.length)(d:b[i+k]?.getD 0=z)(f:ys[k]?.getD 0=y)(l:Dig W64 ys)(m:x<W64):TimI a ys x i (k+1) (b.set (i+k) (tmD z x y c)) (tmC z x y c):=by
 have n:a[i+k]?.getD 0=z:=h.at.symm.trans d
 obtain⟨p,g,q,r,u⟩:=h
 refine⟨by simpa using p,g.set _ (dX _ _ _),ZjM (d ▸ g.getD zM _) m (f ▸ l.getD zM k) q,?_,?_⟩
 ·have e:=vP (List.drop 1) r
  rw[vM,vM] at e
  rw[vX (by omega),show i+(k+1)=i+k+1 by omega];exact e
 rw[show i+(k+1)=(i+k)+1 by omega,xL _ _ _ _ (by omega),zR (i+k) j,lH k,n,f,uO]
 have e:=vP (W64^(i+k) * ·) (ZlF z x y c)
 have s:W64^i*(x*(val W64 (ys.take k)+W64^k*y))=W64^i*(x*val W64 (ys.take k))+W64^(i+k)*(x*y):=by
  rw[uN x,uN (W64^i),uS,vU x (W64^k) y,uG (W64^i)]
 simp only[uN] at e
 rw[s,uG (W64^(i+k)) W64]
 omega
def TimR (xs ys:List Nat) (i:Nat) (zs:List Nat):Prop :=
 zs.length=xs.length+ys.length∧Dig W64 zs∧(∀ j,i+ys.length≤j→zs[j]?.getD 0=0)∧val W64 (zs.take (i+ys.length))=val W64 (xs.take i)*val W64 ys
theorem Zhv (n j:Nat):(List.replicate n 0)[j]?.getD 0=0:=by rw[List.getElem?_replicate];split<;>rfl
theorem TimR.start (xs ys:List Nat):TimR xs ys 0 (List.replicate (xs.length+ys.length) 0):=⟨by simp,Dig.replicate zM _,fun j _=>Zhv _ _,by rw[List.take_replicate,kS];simp⟩
theorem TimR.step {xs ys a b:List Nat}{i c x:Nat}(h:TimR xs ys i a)(d:i<xs.length)(ex:xs[i]?.getD 0=x)(k:TimI a ys x i ys.length b c):TimR xs ys (i+1) (b.set (i+ys.length) c):=by
 obtain⟨r,s,f,g⟩:=h
 obtain⟨u,m,n,p,q⟩:=k
 refine⟨by simp;omega,m.set _ n,fun j v=>?_,?_⟩
 ·rw[List.getElem?_set_ne (by omega)]
  have e:=vP (fun l=>l[j-(i+ys.length)]?.getD 0) p
  simp only[List.getElem?_drop] at e
  rw[show i+ys.length+(j-(i+ys.length))=j by omega] at e
  rw[e];exact f j (by omega)
 rw[show i+1+ys.length=(i+ys.length)+1 by omega,xL _ _ _ _ (by omega),q,g,uA (uM ys.length),zR i d,ex,uU,uG]
theorem TimR.done {xs ys a:List Nat}(h:TimR xs ys xs.length a):val W64 a=val W64 xs*val W64 ys:=by
 obtain⟨c,d,e,b⟩:=h
 rwa [uA (by omega),uA (uM _)] at b
theorem Zej (A:Option Addr)(xs:List Nat)(c:Nat)(w:World)(r:zF .u64 w A xs)(v:xs.length≤1099511627776)(z:xs.length≤c) :
 yA 106 #[.slice A xs.length c] w (RetV w (.slice A (wK xs xs.length) c)):=by
 refine zV (Φ:=fun w=>zF .u64 w A xs) Tryz.func106 rfl (by kernel_rfl) (fun w' s=>r.ext s) ?_
 refine zC (zB (xq 1 [eS1 2 none 0 0] [] ?_))
 refine xe (zA (zC (xM ?_)))
 refine yC [eS1 0 A (xs.length) c] [] (fun w=>zF .u64 w A (xs)) (fun w Q=>Q) ?_
 refine kW (fun nn p q=>∃ (k:Nat),p=ofL [eS1 0 A k c] []∧q=(fun w=>zF .u64 w A (xs))∧(wK xs xs.length=wK xs k)∧(k≤xs.length)∧nn=(1+k)) ((1+(xs.length))) ⟨(xs.length),rfl,rfl,rfl,uM _,rfl⟩ ?_
 rintro nn p q ⟨k,rfl,rfl,n,B,rfl⟩
 refine zC (zC (zB (xq 4 [yB 6 (decide ((k:Int)>0))] [] ?_)))
 rcases bl2 ((decide ((k:Int)>0))) with a|a
 ·rw[a]
  have f:=uD a
  refine xq 4 [eS1 7 A k c,yJ 10 (IntKind.i64.wrap ((k:Int)-1))] [] ?_
  rw[yW ((k:Int)-1) (((k-1:Nat):Int)) (by omega)]
  refine xqk 11 (atA A (k-1)) (fun w R Q=>wJ (t:=77) (e:=94) (x:=.tmp 7) (ix:=.tmp 10) (len:=k) (cap:=c) (i:=k-1) ((Q).ne (j:=k-1) (by omega)) (by omega)) ?_
  obtain⟨g,b⟩:=yE (xs[k-1]?.getD 0)
  refine xqk 12 (.int .u64 (g:Int)) (fun w R Q=>by rw[←b];exact lF (t:=94) (x:=.tmp 11) (Q) (j:=k-1) (by omega)) ?_
  refine xq 2 [yB 14 (((g:Int):Int) == 0)] [] ?_
  refine xe (zA ?_)
  refine yQ ((((g:Int):Int) == 0)) (fun d=>?_) fun d=>?_
  ·have l:=tY.1 d
   refine zN (zA (xM (zB (xq 4 [eS1 15 A k c,yJ 18 (IntKind.i64.wrap ((k:Int)-1))] [] ?_))))
   rw[yW ((k:Int)-1) (((k-1:Nat):Int)) (by omega)]
   refine xqk 19 (.slice A (k-1) c) (fun w R Q=>Zry (t:=77) (e:=94) (x:=.tmp 15) (len:=k) (cap:=c) (h:=k-1) (hi:=.tmp 18) (by omega)) ?_
   refine xq 1 [eS1 0 A (k-1) c] [] ?_
   refine xe (lN ?_)
   refine yP [eS1 0 A ((k-1)) c] [] (fun w=>zF .u64 w A (xs)) (fun w Q=>Q) ?_
   have u:wK xs xs.length=wK xs (k-1):=by obtain⟨m,rfl⟩:∃ m,k=m+1:=⟨k-1,by omega⟩;rw[n,wK,uL (by rw[vW] at b;omega),vW]
   exact lE ((1+((k-1)))) (by omega) ⟨((k-1)),rfl,rfl,u,by omega,rfl⟩
  have l:=wY d
  refine lO (xC (xC (kQ (zA (zC (zB (xq 2 [eS1 2 A k c] [] ?_)))))))
  refine xe (zA (zG ?_))
  refine yR (.slice A k c) fun w' R Q=>?_
  exact⟨by obtain⟨m,rfl⟩:∃ m,k=m+1:=⟨k-1,by omega⟩;rw[n,wK,uJ (by rw[vW] at b;omega)],R⟩
 rw[a]
 have f:=uH a
 refine xq 8 [yB 14 false] [] ?_
 refine xe (zA (xb (lO (xC (xC (kQ (zA (zC (zB (xq 2 [eS1 2 A k c] [] ?_))))))))))
 refine xe (zA (zG ?_))
 refine yR (.slice A k c) fun w' R Q=>?_
 obtain rfl:k=0:=by omega
 exact⟨by rw[n];rfl,R⟩
theorem ZaZ {b n v:Nat}{xs:List Nat}{w:World}(a:Own .u64 94 w b xs)(c:Dig W64 xs)(d:xs.length=n)(f:val W64 xs=v)(g:n≤1099511627776):yA 106 #[.slice (some ⟨b,0,none⟩) n n] w (wW w v):=by
 subst d f
 refine (Zej _ xs _ w a.shows0 g (uM _)).mono ?_
 rintro e w' ⟨rfl,Q⟩
 exact⟨_,rfl,(zK.of_own a c (uM _)).ext Q,Q⟩
theorem ZmB (A m:Option Addr)(xs ys:List Nat)(c c2:Nat)(w:World)(S:zF .u64 w A xs)(T:zF .u64 w m ys)(Y:xs.length≤4294967296)(U:ys.length≤4294967296)(K:Dig W64 xs)(L:Dig W64 ys)(V:ys.length≤xs.length)(G:val W64 ys≤val W64 xs) :
 yA 127 #[.slice A xs.length c,.slice m ys.length c2] w (wW w (val W64 xs-val W64 ys)):=by
 refine zV (Φ:=fun w=>(zF .u64 w A xs∧zF .u64 w m ys)) Tryz.func127 rfl (by kernel_rfl) (fun w' M=>⟨S.ext M,T.ext M⟩) ?_
 refine zC (zB (xq 1 [eS1 4 none 0 0] [] ?_))
 refine xe (zA (zC (zB (xq 2 [yJ 10 ((xs.length:Nat):Int)] [] ?_))))
 refine Zdh (d:=11) (t:=77) (e:=94) (k:=.u64) (kl:=.i64) (kc:=.i64) (l:=.tmp 10) (c:=.tmp 10) (xs.length) 8 (by omega) (by decide) fun a r _=>?_
 refine xr 1 [eS1 0 A xs.length c,eS1 1 m ys.length c2,eS1 4 none 0 0,eS1 5 (some ⟨a,0,none⟩) (xs.length) (xs.length)] [] ?_
 refine xe (zA (zC (zB (xq 1 [yU 6 0] [] ?_))))
 refine xe (zA (zC (zC (zB (xq 3 [yJ 13 ((xs.length:Nat):Int),yJ 14 0] [] ?_)))))
 refine xe (zA (xM ?_))
 refine yC [eS1 0 A xs.length c,eS1 1 m ys.length c2,eS1 4 none 0 0,eS1 5 (some ⟨a,0,none⟩) (xs.length) (xs.length),yU 6 ((0:Nat):Int),yJ 13 ((xs.length:Nat):Int),yJ 14 ((0:Nat):Int)] [] (fun w=>(Box (fun j=>a≤j) w (fun w=>(zF .u64 w A (xs)∧zF .u64 w m (ys)))∧Own .u64 94 w a ((List.replicate (xs.length) 0)))) (fun w Q=>⟨Q.1,Q.2⟩) ?_
 refine kW (fun nn N O=>∃ (f k:Nat) (q:List Nat),N=ofL [eS1 0 A xs.length c,eS1 1 m ys.length c2,eS1 4 none 0 0,eS1 5 (some ⟨a,0,none⟩) (xs.length) (xs.length),yU 6 (f:Int),yJ 13 ((xs.length:Nat):Int),yJ 14 (k:Int)] []∧O=(fun w=>(Box (fun j=>a≤j) w (fun w=>(zF .u64 w A (xs)∧zF .u64 w m (ys)))∧Own .u64 94 w a (q)))∧(MinR xs ys k q f)∧(k≤xs.length)∧nn=(xs.length-k)) ((xs.length-0)) ⟨0,0,(List.replicate (xs.length) 0),rfl,rfl,MinR.start xs ys,by omega,rfl⟩ ?_
 rintro nn N O ⟨f,k,q,rfl,rfl,z,Z,rfl⟩
 refine zC (zB (xq 1 [yB 15 (decide ((k:Int)<((xs.length:Nat):Int)))] [] ?_))
 refine xe (zA (zC ?_))
 refine yQ ((decide ((k:Int)<((xs.length:Nat):Int)))) (fun n=>?_) fun n=>?_
 ·have B:=uD n
  have W:=z.1
  have X:=z.2.2.1
  refine zN (zA (zC (xM (zC (zB (xq 2 [yJ 7 (k:Int)] [] ?_))))))
  refine xe (zA (zC (zB (xq 1 [yU 8 0] [] ?_))))
  refine xe (zA (zC (zC (zB (xq 4 [yB 20 (decide ((k:Int)<((ys.length:Nat):Int)))] [] ?_)))))
  refine xe (zA ?_)
  refine yQ ((decide ((k:Int)<((ys.length:Nat):Int)))) (fun p=>?_) fun p=>?_
  ·have C:=uD p
   refine zB (xq 2 [eS1 21 m ys.length c2,yJ 22 (k:Int)] [] ?_)
   refine xqk 23 (atA m k) (fun w R Q=>wJ (t:=77) (e:=94) (x:=.tmp 21) (ix:=.tmp 22) (len:=ys.length) (cap:=c2) (i:=k) (((Q.1).self.2).ne (j:=k) (by omega)) (by omega)) ?_
   obtain⟨b,s⟩:=yE (ys[k]?.getD 0)
   refine xqk 24 (.int .u64 (b:Int)) (fun w R Q=>by rw[←s];exact lF (t:=94) (x:=.tmp 23) ((Q.1).self.2) (j:=k) (by omega)) ?_
   refine xq 1 [yU 8 (b:Int)] [] ?_
   refine xe (zA (zB (xq 4 [eS1 26 (some ⟨a,0,none⟩) (xs.length) (xs.length),yJ 27 (k:Int),eS1 28 A xs.length c,yJ 29 (k:Int)] [] ?_)))
   refine xqk 30 (atA A k) (fun w R Q=>wJ (t:=77) (e:=94) (x:=.tmp 28) (ix:=.tmp 29) (len:=xs.length) (cap:=c) (i:=k) (((Q.1).self.1).ne (j:=k) (by omega)) (by omega)) ?_
   obtain⟨g,u⟩:=yE (xs[k]?.getD 0)
   refine xqk 31 (.int .u64 (g:Int)) (fun w R Q=>by rw[←u];exact lF (t:=94) (x:=.tmp 30) ((Q.1).self.1) (j:=k) (by omega)) ?_
   refine xq 2 [yU 32 (b:Int),yU 33 (f:Int)] [] ?_
   refine xqk 34 (.tuple #[.int .u64 ((lJ g b f:Nat):Int),.int .u64 ((lK g b f:Nat):Int)]) (fun w R Q=>eI (args:=[Operand.tmp 31,Operand.tmp 32,Operand.tmp 33]) (ts:=#[94,94,94]) (fI g b f (by omega) w)) ?_
   refine xq 3 [yU 35 ((lJ g b f:Nat):Int),yU 36 ((lK g b f:Nat):Int)] [] ?_
   refine xqk 37 (.pointer (some ⟨a,k,none⟩)) (fun w R Q=>kR (t:=77) (e:=94) (x:=.tmp 26) (ix:=.tmp 27) (len:=(xs.length)) (cap:=(xs.length)) (i:=k) (by omega)) ?_
   refine iL (t:=94) (x:=.tmp 37) (y:=.tmp 35) a (k) (lJ g b f) (fun w=>(Box (fun j=>a≤j) w (fun w=>(zF .u64 w A (xs)∧zF .u64 w m (ys)))∧Own .u64 94 w a ((q).set (k) (lJ g b f)))) (fun w Q=>Q.2) (by omega) (Or.inl r) (fun w w' Q H I=>⟨((Q.1).fr (H.mono (fun _ _ e=>by rw[e];exact uM _))),I⟩) ?_
   refine xq 1 [yU 6 ((lK g b f:Nat):Int)] [] ?_
   refine xe (lN (zA (zB (xq 1 [yJ 38 (IntKind.i64.wrap ((k:Int)+1))] [] ?_))))
   rw[yW ((k:Int)+1) (((k+1:Nat):Int)) (by omega)]
   refine xq 1 [yJ 14 ((k+1:Nat):Int)] [] ?_
   refine xe ?_
   refine yP [eS1 0 A xs.length c,eS1 1 m ys.length c2,eS1 4 none 0 0,eS1 5 (some ⟨a,0,none⟩) (xs.length) (xs.length),yU 6 (((lK g b f):Nat):Int),yJ 13 ((xs.length:Nat):Int),yJ 14 (((k+1):Nat):Int)] [] (fun w=>(Box (fun j=>a≤j) w (fun w=>(zF .u64 w A (xs)∧zF .u64 w m (ys)))∧Own .u64 94 w a (((q).set (k) (lJ g b f))))) (fun w Q=>⟨Q.1,Q.2⟩) ?_
   have J:=z.step (k:=k) (by omega) u (y:=b) s K L
   exact lE ((xs.length-(k+1))) (by omega) ⟨(lK g b f),(k+1),((q).set (k) (lJ g b f)),rfl,rfl,J,by omega,rfl⟩
  have C:=uH p
  refine zN (zA (zB (xq 4 [eS1 26 (some ⟨a,0,none⟩) (xs.length) (xs.length),yJ 27 (k:Int),eS1 28 A xs.length c,yJ 29 (k:Int)] [] ?_)))
  refine xqk 30 (atA A k) (fun w R Q=>wJ (t:=77) (e:=94) (x:=.tmp 28) (ix:=.tmp 29) (len:=xs.length) (cap:=c) (i:=k) (((Q.1).self.1).ne (j:=k) (by omega)) (by omega)) ?_
  obtain⟨h,v⟩:=yE (xs[k]?.getD 0)
  refine xqk 31 (.int .u64 (h:Int)) (fun w R Q=>by rw[←v];exact lF (t:=94) (x:=.tmp 30) ((Q.1).self.1) (j:=k) (by omega)) ?_
  refine xq 2 [yU 32 0,yU 33 (f:Int)] [] ?_
  refine xqk 34 (.tuple #[.int .u64 ((lJ h 0 f:Nat):Int),.int .u64 ((lK h 0 f:Nat):Int)]) (fun w R Q=>eI (args:=[Operand.tmp 31,Operand.tmp 32,Operand.tmp 33]) (ts:=#[94,94,94]) (fI h 0 f (by omega) w)) ?_
  refine xq 3 [yU 35 ((lJ h 0 f:Nat):Int),yU 36 ((lK h 0 f:Nat):Int)] [] ?_
  refine xqk 37 (.pointer (some ⟨a,k,none⟩)) (fun w R Q=>kR (t:=77) (e:=94) (x:=.tmp 26) (ix:=.tmp 27) (len:=(xs.length)) (cap:=(xs.length)) (i:=k) (by omega)) ?_
  refine iL (t:=94) (x:=.tmp 37) (y:=.tmp 35) a (k) (lJ h 0 f) (fun w=>(Box (fun j=>a≤j) w (fun w=>(zF .u64 w A (xs)∧zF .u64 w m (ys)))∧Own .u64 94 w a ((q).set (k) (lJ h 0 f)))) (fun w Q=>Q.2) (by omega) (Or.inl r) (fun w w' Q H I=>⟨((Q.1).fr (H.mono (fun _ _ e=>by rw[e];exact uM _))),I⟩) ?_
  refine xq 1 [yU 6 ((lK h 0 f:Nat):Int)] [] ?_
  refine xe (lN (zA (zB (xq 1 [yJ 38 (IntKind.i64.wrap ((k:Int)+1))] [] ?_))))
  rw[yW ((k:Int)+1) (((k+1:Nat):Int)) (by omega)]
  refine xq 1 [yJ 14 ((k+1:Nat):Int)] [] ?_
  refine xe ?_
  refine yP [eS1 0 A xs.length c,eS1 1 m ys.length c2,eS1 4 none 0 0,eS1 5 (some ⟨a,0,none⟩) (xs.length) (xs.length),yU 6 (((lK h 0 f):Nat):Int),yJ 13 ((xs.length:Nat):Int),yJ 14 (((k+1):Nat):Int)] [] (fun w=>(Box (fun j=>a≤j) w (fun w=>(zF .u64 w A (xs)∧zF .u64 w m (ys)))∧Own .u64 94 w a (((q).set (k) (lJ h 0 f))))) (fun w Q=>⟨Q.1,Q.2⟩) ?_
  have J:=z.step (k:=k) (by omega) v (y:=0) (by rw[List.getElem?_eq_none (by omega)];rfl) K L
  exact lE ((xs.length-(k+1))) (by omega) ⟨(lK h 0 f),(k+1),((q).set (k) (lJ h 0 f)),rfl,rfl,J,by omega,rfl⟩
 have B:=uH n
 obtain rfl:k=xs.length:=by omega
 refine lO (xC (xC (kQ (zA (zC (zB (xq 1 [eS1 39 (some ⟨a,0,none⟩) (xs.length) (xs.length)] [] ?_)))))))
 refine xqc 106 [.slice (some ⟨a,0,none⟩) (xs.length) (xs.length)] 40 xH _ (fun w R Q=>yM xD (ZaZ Q.2 z.2.1 z.1 (z.done V G) (by omega))) fun⟨D,E,F⟩=>?_
 refine xq 1 [eS1 4 D E F] [] ?_
 refine xe (zA (zG ?_))
 refine yR (.slice D E F) fun w' R Q=>?_
 exact⟨_,rfl,Q.2,R⟩
theorem ZnS (A B:Option Addr)(xs ys:List Nat)(c c2:Nat)(w:World)(hX:zF .u64 w A xs)(hY:zF .u64 w B ys)(hl:xs.length≤4294967296)(W:ys.length≤4294967296)(hx:Dig W64 xs)(hy:Dig W64 ys) :
 yA 126 #[.slice A xs.length c,.slice B ys.length c2] w (wW w (val W64 xs+val W64 ys)):=by
 refine zV (Φ:=fun w=>(zF .u64 w A xs∧zF .u64 w B ys)) Tryz.func126 rfl (by kernel_rfl) (fun w' hf=>⟨hX.ext hf,hY.ext hf⟩) ?_
 refine zC (zB (xq 1 [eS1 4 none 0 0] [] ?_))
 refine xe (zA ?_)
 refine ZbQ (fun L M=>∃ (p q:Option Addr) (a n:List Nat) (r D:Nat),L=ofL [eS1 0 p a.length r,eS1 1 q n.length D,eS1 4 none 0 0] []∧M=(fun w=>(zF .u64 w p (a)∧zF .u64 w q (n)))∧(n.length≤a.length)∧(Dig W64 a)∧(Dig W64 n)∧(a.length≤4294967296)∧(val W64 a+val W64 n=val W64 xs+val W64 ys)) ?_ ?_
 ·refine zC (zB (xq 5 [yB 13 (decide (((xs.length:Nat):Int)<((ys.length:Nat):Int)))] [] ?_))
  refine xe (zA ?_)
  refine yQ ((decide (((xs.length:Nat):Int)<((ys.length:Nat):Int)))) (fun s=>?_) fun s=>?_
  ·have H:=uD s
   refine zB (xq 4 [eS1 0 B ys.length c2,eS1 1 A xs.length c] [] ?_)
   refine xe ?_
   refine yP [eS1 0 B ys.length c2,eS1 1 A xs.length c,eS1 4 none 0 0] [] (fun w=>(zF .u64 w B (ys)∧zF .u64 w A (xs))) (fun w Q=>⟨Q.2,Q.1⟩) ?_
   exact jB ⟨B,A,ys,xs,c2,c,rfl,rfl,(by omega),hy,hx,W,vL _ _⟩
  have H:=uH s
  refine zN ?_
  refine yP [eS1 0 A xs.length c,eS1 1 B ys.length c2,eS1 4 none 0 0] [] (fun w=>(zF .u64 w A (xs)∧zF .u64 w B (ys))) (fun w Q=>⟨Q.1,Q.2⟩) ?_
  exact jB ⟨A,B,xs,ys,c,c2,rfl,rfl,(by omega),hx,hy,hl,rfl⟩
 rintro L M ⟨p,q,a,n,r,D,rfl,rfl,h1,hu,hv,a0,N⟩
 refine zC (zB (xq 3 [yJ 18 (IntKind.i64.wrap (((a.length:Nat):Int)+1))] [] ?_))
 rw[yW (((a.length:Nat):Int)+1) (((a.length+1:Nat):Int)) (by omega)]
 refine Zdh (d:=19) (t:=77) (e:=94) (k:=.u64) (kl:=.i64) (kc:=.i64) (l:=.tmp 18) (c:=.tmp 18) (a.length+1) 8 (by omega) (by decide) fun b u _=>?_
 refine xr 1 [eS1 0 p a.length r,eS1 1 q n.length D,eS1 4 none 0 0,eS1 5 (some ⟨b,0,none⟩) (a.length+1) (a.length+1)] [] ?_
 refine xe (zA (zC (zB (xq 1 [yU 6 0] [] ?_))))
 refine xe (zA (zC (zC (zB (xq 3 [yJ 21 ((a.length:Nat):Int),yJ 22 0] [] ?_)))))
 refine xe (zA (xM ?_))
 refine yC [eS1 0 p a.length r,eS1 1 q n.length D,eS1 4 none 0 0,eS1 5 (some ⟨b,0,none⟩) (a.length+1) (a.length+1),yU 6 ((0:Nat):Int),yJ 21 ((a.length:Nat):Int),yJ 22 ((0:Nat):Int)] [] (fun w=>(Box (fun j=>b≤j) w (fun w=>(zF .u64 w p (a)∧zF .u64 w q (n)))∧Own .u64 94 w b ((List.replicate (a.length+1) 0)))) (fun w Q=>⟨Q.1,Q.2⟩) ?_
 refine kW (fun nn L M=>∃ (g k:Nat) (C:List Nat),L=ofL [eS1 0 p a.length r,eS1 1 q n.length D,eS1 4 none 0 0,eS1 5 (some ⟨b,0,none⟩) (a.length+1) (a.length+1),yU 6 (g:Int),yJ 21 ((a.length:Nat):Int),yJ 22 (k:Int)] []∧M=(fun w=>(Box (fun j=>b≤j) w (fun w=>(zF .u64 w p (a)∧zF .u64 w q (n)))∧Own .u64 94 w b (C)))∧(Zbc a n k C g)∧(k≤a.length)∧nn=(a.length-k)) ((a.length-0)) ⟨0,0,(List.replicate (a.length+1) 0),rfl,rfl,Zbc.start a n,by omega,rfl⟩ ?_
 rintro nn L M ⟨g,k,C,rfl,rfl,K,hk,rfl⟩
 refine zC (zB (xq 1 [yB 23 (decide ((k:Int)<((a.length:Nat):Int)))] [] ?_))
 refine xe (zA (zC ?_))
 refine yQ ((decide ((k:Int)<((a.length:Nat):Int)))) (fun v=>?_) fun v=>?_
 ·have I:=uD v
  have X:=K.1
  have b0:=K.2.2.1
  refine zN (zA (zC (xM (zC (zB (xq 2 [yJ 7 (k:Int)] [] ?_))))))
  refine xe (zA (zC (zB (xq 1 [yU 8 0] [] ?_))))
  refine xe (zA (zC (zC (zB (xq 4 [yB 28 (decide ((k:Int)<((n.length:Nat):Int)))] [] ?_)))))
  refine xe (zA ?_)
  refine yQ ((decide ((k:Int)<((n.length:Nat):Int)))) (fun z=>?_) fun z=>?_
  ·have J:=uD z
   refine zB (xq 2 [eS1 29 q n.length D,yJ 30 (k:Int)] [] ?_)
   refine xqk 31 (atA q k) (fun w R Q=>wJ (t:=77) (e:=94) (x:=.tmp 29) (ix:=.tmp 30) (len:=n.length) (cap:=D) (i:=k) (((Q.1).self.2).ne (j:=k) (by omega)) (by omega)) ?_
   obtain⟨f,E⟩:=yE (n[k]?.getD 0)
   refine xqk 32 (.int .u64 (f:Int)) (fun w R Q=>by rw[←E];exact lF (t:=94) (x:=.tmp 31) ((Q.1).self.2) (j:=k) (by omega)) ?_
   refine xq 1 [yU 8 (f:Int)] [] ?_
   refine xe (zA (zB (xq 4 [eS1 34 (some ⟨b,0,none⟩) (a.length+1) (a.length+1),yJ 35 (k:Int),eS1 36 p a.length r,yJ 37 (k:Int)] [] ?_)))
   refine xqk 38 (atA p k) (fun w R Q=>wJ (t:=77) (e:=94) (x:=.tmp 36) (ix:=.tmp 37) (len:=a.length) (cap:=r) (i:=k) (((Q.1).self.1).ne (j:=k) (by omega)) (by omega)) ?_
   obtain⟨h,F⟩:=yE (a[k]?.getD 0)
   refine xqk 39 (.int .u64 (h:Int)) (fun w R Q=>by rw[←F];exact lF (t:=94) (x:=.tmp 38) ((Q.1).self.1) (j:=k) (by omega)) ?_
   refine xq 2 [yU 40 (f:Int),yU 41 (g:Int)] [] ?_
   refine xqk 42 (.tuple #[.int .u64 ((xI h f g:Nat):Int),.int .u64 ((xO h f g:Nat):Int)]) (fun w R Q=>eI (args:=[Operand.tmp 39,Operand.tmp 40,Operand.tmp 41]) (ts:=#[94,94,94]) (fH h f g (by omega) w)) ?_
   refine xq 3 [yU 43 ((xI h f g:Nat):Int),yU 44 ((xO h f g:Nat):Int)] [] ?_
   refine xqk 45 (.pointer (some ⟨b,k,none⟩)) (fun w R Q=>kR (t:=77) (e:=94) (x:=.tmp 34) (ix:=.tmp 35) (len:=(a.length+1)) (cap:=(a.length+1)) (i:=k) (by omega)) ?_
   refine iL (t:=94) (x:=.tmp 45) (y:=.tmp 43) b (k) (xI h f g) (fun w=>(Box (fun j=>b≤j) w (fun w=>(zF .u64 w p (a)∧zF .u64 w q (n)))∧Own .u64 94 w b ((C).set (k) (xI h f g)))) (fun w Q=>Q.2) (by omega) (Or.inl u) (fun w w' Q O S=>⟨((Q.1).fr (O.mono (fun _ _ e=>by rw[e];exact uM _))),S⟩) ?_
   refine xq 1 [yU 6 ((xO h f g:Nat):Int)] [] ?_
   refine xe (lN (zA (zB (xq 1 [yJ 46 (IntKind.i64.wrap ((k:Int)+1))] [] ?_))))
   rw[yW ((k:Int)+1) (((k+1:Nat):Int)) (by omega)]
   refine xq 1 [yJ 22 ((k+1:Nat):Int)] [] ?_
   refine xe ?_
   refine yP [eS1 0 p a.length r,eS1 1 q n.length D,eS1 4 none 0 0,eS1 5 (some ⟨b,0,none⟩) (a.length+1) (a.length+1),yU 6 (((xO h f g):Nat):Int),yJ 21 ((a.length:Nat):Int),yJ 22 (((k+1):Nat):Int)] [] (fun w=>(Box (fun j=>b≤j) w (fun w=>(zF .u64 w p (a)∧zF .u64 w q (n)))∧Own .u64 94 w b (((C).set (k) (xI h f g))))) (fun w Q=>⟨Q.1,Q.2⟩) ?_
   have Y:=K.step (k:=k) (by omega) F (y:=f) E hu hv
   exact lE ((a.length-(k+1))) (by omega) ⟨(xO h f g),(k+1),((C).set (k) (xI h f g)),rfl,rfl,Y,by omega,rfl⟩
  have J:=uH z
  refine zN (zA (zB (xq 4 [eS1 34 (some ⟨b,0,none⟩) (a.length+1) (a.length+1),yJ 35 (k:Int),eS1 36 p a.length r,yJ 37 (k:Int)] [] ?_)))
  refine xqk 38 (atA p k) (fun w R Q=>wJ (t:=77) (e:=94) (x:=.tmp 36) (ix:=.tmp 37) (len:=a.length) (cap:=r) (i:=k) (((Q.1).self.1).ne (j:=k) (by omega)) (by omega)) ?_
  obtain⟨m,G⟩:=yE (a[k]?.getD 0)
  refine xqk 39 (.int .u64 (m:Int)) (fun w R Q=>by rw[←G];exact lF (t:=94) (x:=.tmp 38) ((Q.1).self.1) (j:=k) (by omega)) ?_
  refine xq 2 [yU 40 0,yU 41 (g:Int)] [] ?_
  refine xqk 42 (.tuple #[.int .u64 ((xI m 0 g:Nat):Int),.int .u64 ((xO m 0 g:Nat):Int)]) (fun w R Q=>eI (args:=[Operand.tmp 39,Operand.tmp 40,Operand.tmp 41]) (ts:=#[94,94,94]) (fH m 0 g (by omega) w)) ?_
  refine xq 3 [yU 43 ((xI m 0 g:Nat):Int),yU 44 ((xO m 0 g:Nat):Int)] [] ?_
  refine xqk 45 (.pointer (some ⟨b,k,none⟩)) (fun w R Q=>kR (t:=77) (e:=94) (x:=.tmp 34) (ix:=.tmp 35) (len:=(a.length+1)) (cap:=(a.length+1)) (i:=k) (by omega)) ?_
  refine iL (t:=94) (x:=.tmp 45) (y:=.tmp 43) b (k) (xI m 0 g) (fun w=>(Box (fun j=>b≤j) w (fun w=>(zF .u64 w p (a)∧zF .u64 w q (n)))∧Own .u64 94 w b ((C).set (k) (xI m 0 g)))) (fun w Q=>Q.2) (by omega) (Or.inl u) (fun w w' Q O S=>⟨((Q.1).fr (O.mono (fun _ _ e=>by rw[e];exact uM _))),S⟩) ?_
  refine xq 1 [yU 6 ((xO m 0 g:Nat):Int)] [] ?_
  refine xe (lN (zA (zB (xq 1 [yJ 46 (IntKind.i64.wrap ((k:Int)+1))] [] ?_))))
  rw[yW ((k:Int)+1) (((k+1:Nat):Int)) (by omega)]
  refine xq 1 [yJ 22 ((k+1:Nat):Int)] [] ?_
  refine xe ?_
  refine yP [eS1 0 p a.length r,eS1 1 q n.length D,eS1 4 none 0 0,eS1 5 (some ⟨b,0,none⟩) (a.length+1) (a.length+1),yU 6 (((xO m 0 g):Nat):Int),yJ 21 ((a.length:Nat):Int),yJ 22 (((k+1):Nat):Int)] [] (fun w=>(Box (fun j=>b≤j) w (fun w=>(zF .u64 w p (a)∧zF .u64 w q (n)))∧Own .u64 94 w b (((C).set (k) (xI m 0 g))))) (fun w Q=>⟨Q.1,Q.2⟩) ?_
  have Y:=K.step (k:=k) (by omega) G (y:=0) (by rw[List.getElem?_eq_none (by omega)];rfl) hu hv
  exact lE ((a.length-(k+1))) (by omega) ⟨(xO m 0 g),(k+1),((C).set (k) (xI m 0 g)),rfl,rfl,Y,by omega,rfl⟩
 have I:=uH v
 obtain rfl:k=a.length:=by omega
 have X:=K.1
 have Z:=K.done h1
 refine lO (xC (xC (kQ (zA (zC (zB (xq 4 [eS1 47 (some ⟨b,0,none⟩) (a.length+1) (a.length+1),yJ 49 ((a.length:Nat):Int),yU 50 (g:Int)] [] ?_)))))))
 refine xqk 51 (.pointer (some ⟨b,a.length,none⟩)) (fun w R Q=>kR (t:=77) (e:=94) (x:=.tmp 47) (ix:=.tmp 49) (len:=(a.length+1)) (cap:=(a.length+1)) (i:=a.length) (by omega)) ?_
 refine iL (t:=94) (x:=.tmp 51) (y:=.tmp 50) b (a.length) (g) (fun w=>(Box (fun j=>b≤j) w (fun w=>(zF .u64 w p (a)∧zF .u64 w q (n)))∧Own .u64 94 w b ((C).set (a.length) (g)))) (fun w Q=>Q.2) (by omega) (Or.inl u) (fun w w' Q O S=>⟨((Q.1).fr (O.mono (fun _ _ e=>by rw[e];exact uM _))),S⟩) ?_
 refine xe (zA (zC (zB (xq 1 [eS1 52 (some ⟨b,0,none⟩) (a.length+1) (a.length+1)] [] ?_))))
 refine xqc 106 [.slice (some ⟨b,0,none⟩) (a.length+1) (a.length+1)] 53 xH _ (fun w R Q=>yM xD (ZaZ Q.2 Z.2.1 Z.1 (Z.2.2.trans N) (by omega))) fun⟨T,U,V⟩=>?_
 refine xq 1 [eS1 4 T U V] [] ?_
 refine xe (zA (zG ?_))
 refine yR (.slice T U V) fun w' R Q=>?_
 exact⟨_,rfl,Q.2,R⟩
theorem ZmC (A n:Option Addr)(xs ys:List Nat)(c c2:Nat)(w:World)(Z:zF .u64 w A xs)(hY:zF .u64 w n ys)(hl:xs.length≤4294967296)(a0:ys.length≤4294967296)(O:Dig W64 xs)(S:Dig W64 ys) :
 yA 124 #[.slice A xs.length c,.slice n ys.length c2] w (wW w (val W64 xs*val W64 ys)):=by
 refine zV (Φ:=fun w=>(zF .u64 w A xs∧zF .u64 w n ys)) Tryz.func124 rfl (by kernel_rfl) (fun w' Y=>⟨Z.ext Y,hY.ext Y⟩) ?_
 refine zC (zB (xq 1 [eS1 4 none 0 0] [] ?_))
 refine xe (zA (zC (zB (xq 5 [yJ 18 (IntKind.i64.wrap (((xs.length:Nat):Int)+((ys.length:Nat):Int)))] [] ?_))))
 rw[yW (((xs.length:Nat):Int)+((ys.length:Nat):Int)) (((xs.length+(ys.length):Nat):Int)) (by omega)]
 refine Zdh (d:=19) (t:=77) (e:=94) (k:=.u64) (kl:=.i64) (kc:=.i64) (l:=.tmp 18) (c:=.tmp 18) (xs.length+(ys.length)) 8 (by omega) (by decide) fun h C _=>?_
 refine xr 1 [eS1 0 A xs.length c,eS1 1 n ys.length c2,eS1 4 none 0 0,eS1 5 (some ⟨h,0,none⟩) (xs.length+(ys.length)) (xs.length+(ys.length))] [] ?_
 refine xe (zA (zC (zC (zB (xq 3 [eS1 20 A xs.length c,yJ 21 ((xs.length:Nat):Int),yJ 22 0] [] ?_)))))
 refine xe (zA (xM ?_))
 refine yC [eS1 1 n ys.length c2,eS1 4 none 0 0,eS1 5 (some ⟨h,0,none⟩) (xs.length+(ys.length)) (xs.length+(ys.length)),eS1 20 A xs.length c,yJ 21 ((xs.length:Nat):Int),yJ 22 ((0:Nat):Int)] [] (fun w=>(Box (fun j=>h≤j) w (fun w=>(zF .u64 w A (xs)∧zF .u64 w n (ys)))∧Own .u64 94 w h ((List.replicate (xs.length+(ys.length)) 0)))) (fun w Q=>⟨Q.1,Q.2⟩) ?_
 refine kW (fun nn J K=>∃ (i:Nat) (I:List Nat),J=ofL [eS1 1 n ys.length c2,eS1 4 none 0 0,eS1 5 (some ⟨h,0,none⟩) (xs.length+(ys.length)) (xs.length+(ys.length)),eS1 20 A xs.length c,yJ 21 ((xs.length:Nat):Int),yJ 22 (i:Int)] []∧K=(fun w=>(Box (fun j=>h≤j) w (fun w=>(zF .u64 w A (xs)∧zF .u64 w n (ys)))∧Own .u64 94 w h (I)))∧(TimR xs ys i I)∧(i≤xs.length)∧nn=(xs.length-i)) ((xs.length-0)) ⟨0,(List.replicate (xs.length+(ys.length)) 0),rfl,rfl,TimR.start xs ys,by omega,rfl⟩ ?_
 rintro nn J K ⟨i,I,rfl,rfl,E,hi,rfl⟩
 refine zC (zB (xq 1 [yB 23 (decide ((i:Int)<((xs.length:Nat):Int)))] [] ?_))
 refine xe (zA (zC ?_))
 refine yQ ((decide ((i:Int)<((xs.length:Nat):Int)))) (fun u=>?_) fun u=>?_
 ·have F:=uD u
  have T:=E.1
  refine zN (zA (zC (xM (zC (zB (xq 1 [yJ 24 (i:Int)] [] ?_))))))
  refine xqk 25 (atA A i) (fun w R Q=>wJ (t:=77) (e:=94) (x:=.tmp 20) (ix:=.tmp 22) (len:=xs.length) (cap:=c) (i:=i) (((Q.1).self.1).ne (j:=i) (by omega)) (by omega)) ?_
  obtain⟨f,q⟩:=yE (xs[i]?.getD 0)
  refine xqk 26 (.int .u64 (f:Int)) (fun w R Q=>by rw[←q];exact lF (t:=94) (x:=.tmp 25) ((Q.1).self.1) (j:=i) (by omega)) ?_
  refine xq 2 [yJ 6 (i:Int),yU 7 (f:Int)] [] ?_
  refine xe (zA (zC (zB (xq 1 [yU 8 0] [] ?_))))
  refine xe (zA (zC (zC (zB (xq 3 [eS1 27 n ys.length c2,yJ 28 ((ys.length:Nat):Int),yJ 29 0] [] ?_)))))
  refine xe (zA (xM ?_))
  refine yC [eS1 1 n ys.length c2,eS1 4 none 0 0,eS1 5 (some ⟨h,0,none⟩) (xs.length+(ys.length)) (xs.length+(ys.length)),yJ 6 (i:Int),yU 7 (f:Int),yU 8 ((0:Nat):Int),eS1 20 A xs.length c,yJ 21 ((xs.length:Nat):Int),yJ 22 (i:Int),eS1 27 n ys.length c2,yJ 28 ((ys.length:Nat):Int),yJ 29 ((0:Nat):Int)] [] (fun w=>(Box (fun j=>h≤j) w (fun w=>(zF .u64 w A (xs)∧zF .u64 w n (ys)))∧Own .u64 94 w h (I))) (fun w Q=>⟨Q.1,Q.2⟩) ?_
  refine kW (fun nn J K=>∃ (p k:Nat) (B:List Nat),J=ofL [eS1 1 n ys.length c2,eS1 4 none 0 0,eS1 5 (some ⟨h,0,none⟩) (xs.length+(ys.length)) (xs.length+(ys.length)),yJ 6 (i:Int),yU 7 (f:Int),yU 8 (p:Int),eS1 20 A xs.length c,yJ 21 ((xs.length:Nat):Int),yJ 22 (i:Int),eS1 27 n ys.length c2,yJ 28 ((ys.length:Nat):Int),yJ 29 (k:Int)] []∧K=(fun w=>(Box (fun j=>h≤j) w (fun w=>(zF .u64 w A (xs)∧zF .u64 w n (ys)))∧Own .u64 94 w h (B)))∧(TimI I ys f i k B p)∧(k≤ys.length)∧nn=(ys.length-k)) ((ys.length-0)) ⟨0,0,I,rfl,rfl,TimI.start ys f i E.2.1,by omega,rfl⟩ ?_
  rintro nn J K ⟨p,k,B,rfl,rfl,D,hk,rfl⟩
  refine zC (zB (xq 1 [yB 30 (decide ((k:Int)<((ys.length:Nat):Int)))] [] ?_))
  refine xe (zA (zC ?_))
  refine yQ ((decide ((k:Int)<((ys.length:Nat):Int)))) (fun z=>?_) fun z=>?_
  ·have G:=uD z
   have U:=D.1
   have H:=D.2.2.1
   refine zN (zA (zC (xM (zC (zB (xq 1 [yJ 31 (k:Int)] [] ?_))))))
   refine xqk 32 (atA n k) (fun w R Q=>wJ (t:=77) (e:=94) (x:=.tmp 27) (ix:=.tmp 29) (len:=ys.length) (cap:=c2) (i:=k) (((Q.1).self.2).ne (j:=k) (by omega)) (by omega)) ?_
   obtain⟨g,r⟩:=yE (ys[k]?.getD 0)
   refine xqk 33 (.int .u64 (g:Int)) (fun w R Q=>by rw[←r];exact lF (t:=94) (x:=.tmp 32) ((Q.1).self.2) (j:=k) (by omega)) ?_
   refine xq 2 [yJ 9 (k:Int),yU 10 (g:Int)] [] ?_
   refine xe (zA (zC (zB (xq 2 [yU 35 (f:Int),yU 36 (g:Int)] [] ?_))))
   refine xqc 145 [.int .u64 (f:Int),.int .u64 (g:Int)] 37 (fun _:Unit=>.tuple #[.int .u64 ((wI f g:Nat):Int),.int .u64 ((xE f g:Nat):Int)]) _ (fun w R Q=>yN (Zei f g _ (by rw[←q];exact O.getD zM _) (by rw[←r];exact S.getD zM _))) fun xx=>?_
   refine xq 5 [yU 11 ((wI f g:Nat):Int),yU 12 ((xE f g:Nat):Int)] [] ?_
   refine xe (zA (zC (zB (xq 5 [yU 41 ((xE f g:Nat):Int),eS1 42 (some ⟨h,0,none⟩) (xs.length+(ys.length)) (xs.length+(ys.length)),yJ 45 (IntKind.i64.wrap ((i:Int)+(k:Int)))] [] ?_))))
   rw[yW ((i:Int)+(k:Int)) (((i+k:Nat):Int)) (by omega)]
   refine xqk 46 (.pointer (some ⟨h,i+k,none⟩)) (fun w R Q=>kR (t:=77) (e:=94) (x:=.tmp 42) (ix:=.tmp 45) (len:=(xs.length+(ys.length))) (cap:=(xs.length+(ys.length))) (i:=i+k) (by omega)) ?_
   obtain⟨m,s⟩:=yE (B[i+k]?.getD 0)
   refine xqk 47 (.int .u64 (m:Int)) (fun w R Q=>by rw[←s];exact fD (t:=94) (x:=.tmp 46) (Q.1.2) (j:=i+k) (by omega)) ?_
   refine xqk 48 (.tuple #[.int .u64 ((xI (xE f g) m 0:Nat):Int),.int .u64 ((xO (xE f g) m 0:Nat):Int)]) (fun w R Q=>eI (args:=[Operand.tmp 41,Operand.tmp 47,Operand.const (Value.int IntKind.u64 0)]) (ts:=#[94,94,94]) (fH (xE f g) m 0 (by omega) w)) ?_
   refine xq 5 [yU 12 ((xI (xE f g) m 0:Nat):Int),yU 13 ((xO (xE f g) m 0:Nat):Int)] [] ?_
   refine xe (zA (zC (zB (xq 3 [(53,.v (.int .u64 (IntKind.u64.wrap (((wI f g:Nat):Int)+((xO (xE f g) m 0:Nat):Int)))))] [] ?_))))
   rw[Zgz (a:=wI f g) (b:=xO (xE f g) m 0) (Zr8 (by rw[←s];exact D.2.1.getD zM _) (by rw[←q];exact O.getD zM _) (by rw[←r];exact S.getD zM _) H)]
   refine xq 1 [yU 11 ((wI f g+xO (xE f g) m 0:Nat):Int)] [] ?_
   refine xe (zA (zC (zB (xq 4 [eS1 55 (some ⟨h,0,none⟩) (xs.length+(ys.length)) (xs.length+(ys.length)),yJ 58 (IntKind.i64.wrap ((i:Int)+(k:Int)))] [] ?_))))
   rw[yW ((i:Int)+(k:Int)) (((i+k:Nat):Int)) (by omega)]
   refine xq 2 [yU 59 ((xI (xE f g) m 0:Nat):Int),yU 60 (p:Int)] [] ?_
   refine xqk 61 (.tuple #[.int .u64 ((xI (xI (xE f g) m 0) p 0:Nat):Int),.int .u64 ((xO (xI (xE f g) m 0) p 0:Nat):Int)]) (fun w R Q=>eI (args:=[Operand.tmp 59,Operand.tmp 60,Operand.const (Value.int IntKind.u64 0)]) (ts:=#[94,94,94]) (fH (xI (xE f g) m 0) p 0 (by omega) w)) ?_
   refine xq 3 [yU 62 ((xI (xI (xE f g) m 0) p 0:Nat):Int),yU 63 ((xO (xI (xE f g) m 0) p 0:Nat):Int)] [] ?_
   refine xqk 64 (.pointer (some ⟨h,i+k,none⟩)) (fun w R Q=>kR (t:=77) (e:=94) (x:=.tmp 55) (ix:=.tmp 58) (len:=(xs.length+(ys.length))) (cap:=(xs.length+(ys.length))) (i:=i+k) (by omega)) ?_
   refine iL (t:=94) (x:=.tmp 64) (y:=.tmp 62) h (i+k) (xI (xI (xE f g) m 0) p 0) (fun w=>((Box (fun j=>h≤j) w (fun w=>(zF .u64 w A (xs)∧zF .u64 w n (ys)))∧Own .u64 94 w h ((B).set (i+k) (xI (xI (xE f g) m 0) p 0)))∧True)) (fun w Q=>Q.1.2) (by omega) (Or.inl C) (fun w w' Q V W=>⟨⟨((Q.1.1).fr (V.mono (fun _ _ e=>by rw[e];exact uM _))),W⟩,trivial⟩) ?_
   refine xr 1 [eS1 1 n ys.length c2,eS1 4 none 0 0,eS1 5 (some ⟨h,0,none⟩) (xs.length+(ys.length)) (xs.length+(ys.length)),yJ 6 (i:Int),yU 7 (f:Int),yU 8 (p:Int),yU 11 ((wI f g+xO (xE f g) m 0:Nat):Int),yU 13 ((xO (xI (xE f g) m 0) p 0:Nat):Int),eS1 20 A xs.length c,yJ 21 ((xs.length:Nat):Int),yJ 22 (i:Int),eS1 27 n ys.length c2,yJ 28 ((ys.length:Nat):Int),yJ 29 (k:Int)] [] ?_
   refine xe (zA (zB (xq 3 [(67,.v (.int .u64 (IntKind.u64.wrap (((wI f g+xO (xE f g) m 0:Nat):Int)+((xO (xI (xE f g) m 0) p 0:Nat):Int)))))] [] ?_)))
   rw[Zgz (a:=wI f g+xO (xE f g) m 0) (b:=xO (xI (xE f g) m 0) p 0) (ZjM (by rw[←s];exact D.2.1.getD zM _) (by rw[←q];exact O.getD zM _) (by rw[←r];exact S.getD zM _) H)]
   refine xq 1 [yU 8 ((wI f g+xO (xE f g) m 0+xO (xI (xE f g) m 0) p 0:Nat):Int)] [] ?_
   refine xe (lN (zA (zB (xq 1 [yJ 68 (IntKind.i64.wrap ((k:Int)+1))] [] ?_))))
   rw[yW ((k:Int)+1) (((k+1:Nat):Int)) (by omega)]
   refine xq 1 [yJ 29 ((k+1:Nat):Int)] [] ?_
   refine xe ?_
   refine yP [eS1 1 n ys.length c2,eS1 4 none 0 0,eS1 5 (some ⟨h,0,none⟩) (xs.length+(ys.length)) (xs.length+(ys.length)),yJ 6 (i:Int),yU 7 (f:Int),(8,.v (.int .u64 (((wI f g+xO (xE f g) m 0+xO (xI (xE f g) m 0) p 0):Nat):Int))),eS1 20 A xs.length c,yJ 21 ((xs.length:Nat):Int),yJ 22 (i:Int),eS1 27 n ys.length c2,yJ 28 ((ys.length:Nat):Int),yJ 29 (((k+1):Nat):Int)] [] (fun w=>(Box (fun j=>h≤j) w (fun w=>(zF .u64 w A (xs)∧zF .u64 w n (ys)))∧Own .u64 94 w h (((B).set (i+k) (xI (xI (xE f g) m 0) p 0))))) (fun w Q=>⟨Q.1.1,Q.1.2⟩) ?_
   have X:=D.step (k:=k) (by omega) s r S (by rw[←q];exact O.getD zM _)
   exact lE ((ys.length-(k+1))) (by omega) ⟨(wI f g+xO (xE f g) m 0+xO (xI (xE f g) m 0) p 0),(k+1),((B).set (i+k) (xI (xI (xE f g) m 0) p 0)),rfl,rfl,X,by omega,rfl⟩
  have G:=uH z
  have U:=D.1
  have H:=D.2.2.1
  obtain rfl:k=ys.length:=by omega
  refine lO (xC (xC (kQ (zA (zB (xq 5 [eS1 69 (some ⟨h,0,none⟩) (xs.length+(ys.length)) (xs.length+(ys.length)),yJ 73 (IntKind.i64.wrap ((i:Int)+((ys.length:Nat):Int)))] [] ?_))))))
  rw[yW ((i:Int)+((ys.length:Nat):Int)) (((i+(ys.length):Nat):Int)) (by omega)]
  refine xq 1 [yU 74 (p:Int)] [] ?_
  refine xqk 75 (.pointer (some ⟨h,i+(ys.length),none⟩)) (fun w R Q=>kR (t:=77) (e:=94) (x:=.tmp 69) (ix:=.tmp 73) (len:=(xs.length+(ys.length))) (cap:=(xs.length+(ys.length))) (i:=i+(ys.length)) (by omega)) ?_
  refine iL (t:=94) (x:=.tmp 75) (y:=.tmp 74) h (i+(ys.length)) (p) (fun w=>(Box (fun j=>h≤j) w (fun w=>(zF .u64 w A (xs)∧zF .u64 w n (ys)))∧Own .u64 94 w h ((B).set (i+(ys.length)) (p)))) (fun w Q=>Q.2) (by omega) (Or.inl C) (fun w w' Q V W=>⟨((Q.1).fr (V.mono (fun _ _ e=>by rw[e];exact uM _))),W⟩) ?_
  refine xe (lN (zA (zB (xq 1 [yJ 76 (IntKind.i64.wrap ((i:Int)+1))] [] ?_))))
  rw[yW ((i:Int)+1) (((i+1:Nat):Int)) (by omega)]
  refine xq 1 [yJ 22 ((i+1:Nat):Int)] [] ?_
  refine xe ?_
  refine yP [eS1 1 n ys.length c2,eS1 4 none 0 0,eS1 5 (some ⟨h,0,none⟩) (xs.length+(ys.length)) (xs.length+(ys.length)),eS1 20 A xs.length c,yJ 21 ((xs.length:Nat):Int),yJ 22 (((i+1):Nat):Int)] [] (fun w=>(Box (fun j=>h≤j) w (fun w=>(zF .u64 w A (xs)∧zF .u64 w n (ys)))∧Own .u64 94 w h (((B).set (i+(ys.length)) (p))))) (fun w Q=>⟨Q.1,Q.2⟩) ?_
  have X:=E.step (i:=i) (by omega) q D
  exact lE ((xs.length-(i+1))) (by omega) ⟨(i+1),((B).set (i+(ys.length)) (p)),rfl,rfl,X,by omega,rfl⟩
 have F:=uH u
 have T:=E.1
 obtain rfl:i=xs.length:=by omega
 refine lO (xC (xC (kQ (zA (zC (zB (xq 1 [eS1 77 (some ⟨h,0,none⟩) (xs.length+(ys.length)) (xs.length+(ys.length))] [] ?_)))))))
 refine xqc 106 [.slice (some ⟨h,0,none⟩) (xs.length+(ys.length)) (xs.length+(ys.length))] 78 xH _ (fun w R Q=>yM xD (ZaZ Q.2 E.2.1 E.1 E.done (by omega))) fun⟨L,M,N⟩=>?_
 refine xq 1 [eS1 4 L M N] [] ?_
 refine xe (zA (zG ?_))
 refine yR (.slice L M N) fun w' R Q=>?_
 exact⟨_,rfl,Q.2,R⟩
theorem ZqB (A:Option Addr)(xs:List Nat)(c k:Nat)(w:World)(S:zK w (.slice A xs.length c) (val W64 xs))(T:zF .u64 w A xs)(W:xs.length≤4294967296)(U:Dig W64 xs)(X:k≤274877906944) :
 yA 66 #[.slice A xs.length c,.int .i64 ((k:Nat):Int)] w (wW w (val W64 xs*2^k)):=by
 refine zV (Φ:=fun w=>(zK w (.slice A xs.length c) (val W64 xs)∧zF .u64 w A xs)) Tryz.func66 rfl (by kernel_rfl) (fun w' L=>⟨S.ext L,T.ext L⟩) ?_
 refine zC (zB (xq 1 [eS1 4 none 0 0] [] ?_))
 refine xe (zA (zC (zC (zB (xq 4 [yB 13 ((((xs.length:Nat):Int):Int) == 0)] [] ?_)))))
 rcases bl2 (((((xs.length:Nat):Int):Int) == 0)) with h|h
 ·rw[h]
  have C:=tY.1 h
  refine xq 3 [yB 16 true] [] ?_
  refine xe (zA (xa (zC (zB (xq 2 [eS1 4 A xs.length c] [] ?_)))))
  refine xe (zA (zG (zI ?_)))
  refine yR (.slice A xs.length c) fun w' R Q=>?_
  exact⟨_,rfl,(by obtain rfl:xs=[]:=tI.1 (by omega);rw[dH,sI];exact Q.1),R⟩
 rw[h]
 have C:=wY h
 refine xq 3 [yB 16 (((k:Int):Int) == 0)] [] ?_
 refine xe (zA ?_)
 refine yQ ((((k:Int):Int) == 0)) (fun q=>?_) fun q=>?_
 ·have D:=tY.1 q
  refine zC (zB (xq 2 [eS1 4 A xs.length c] [] ?_))
  refine xe (zA (zG (zI ?_)))
  refine yR (.slice A xs.length c) fun w' R Q=>?_
  exact⟨_,rfl,(by obtain rfl:k=0:=(by omega);rw[vT,sB];exact Q.1),R⟩
 have D:=wY q
 refine zN (zA (zC (zB (xq 2 [(19,.v (.int .i64 (IntKind.i64.wrap (((k:Int)).tdiv 64))))] [] ?_))))
 rw[show IntKind.i64.wrap ((((k:Int)).tdiv 64))=((k/64:Nat):Int) from tdq (k) 64 (by omega)]
 refine xq 2 [yJ 21 (((k:Int)).tmod 64)] [] ?_
 rw[show ((k:Int)).tmod 64=((k%64:Nat):Int) from tdr (k) 64]
 refine xq 1 [yU 22 (IntKind.u64.wrap (((k%64:Nat):Int)))] [] ?_
 rw[show IntKind.u64.wrap (((k%64:Nat):Int))=((k%64:Nat):Int) by rw[IntKind.wrap_u64];omega]
 refine xq 2 [yJ 5 ((k/64:Nat):Int),yU 6 ((k%64:Nat):Int)] [] ?_
 refine xe (zA (zC (zB (xq 4 [yJ 26 (IntKind.i64.wrap (((xs.length:Nat):Int)+((k/64:Nat):Int)))] [] ?_))))
 rw[yW (((xs.length:Nat):Int)+((k/64:Nat):Int)) (((xs.length+(k/64):Nat):Int)) (by omega)]
 refine xq 1 [(27,.v (.int .i64 (IntKind.i64.wrap (((xs.length+(k/64):Nat):Int)+1))))] [] ?_
 rw[show IntKind.i64.wrap ((((xs.length+(k/64):Nat):Int)+1))=((xs.length+(k/64)+1:Nat):Int) by rw[IntKind.wrap_i64];omega]
 refine Zdh (d:=28) (t:=77) (e:=94) (k:=.u64) (kl:=.i64) (kc:=.i64) (l:=.tmp 27) (c:=.tmp 27) (xs.length+(k/64)+1) 8 (by omega) (by decide) fun f u _=>?_
 refine xr 1 [eS1 0 A xs.length c,eS1 4 none 0 0,yJ 5 ((k/64:Nat):Int),yU 6 ((k%64:Nat):Int),eS1 7 (some ⟨f,0,none⟩) (xs.length+(k/64)+1) (xs.length+(k/64)+1)] [] ?_
 refine xe (zA (zC (zC (zB (xq 3 [eS1 29 A xs.length c,yJ 30 ((xs.length:Nat):Int),yJ 31 0] [] ?_)))))
 refine xe (zA (xM ?_))
 refine yC [eS1 4 none 0 0,yJ 5 ((k/64:Nat):Int),yU 6 ((k%64:Nat):Int),eS1 7 (some ⟨f,0,none⟩) (xs.length+(k/64)+1) (xs.length+(k/64)+1),eS1 29 A xs.length c,yJ 30 ((xs.length:Nat):Int),yJ 31 ((0:Nat):Int)] [] (fun w=>(Box (fun j=>f≤j) w (fun w=>(zK w (.slice A xs.length c) (val W64 xs)∧zF .u64 w A (xs)))∧Own .u64 94 w f ((List.replicate (xs.length+(k/64)+1) 0)))) (fun w Q=>⟨Q.1,Q.2⟩) ?_
 refine kW (fun nn M N=>∃ (i:Nat) (z:List Nat),M=ofL [eS1 4 none 0 0,yJ 5 ((k/64:Nat):Int),yU 6 ((k%64:Nat):Int),eS1 7 (some ⟨f,0,none⟩) (xs.length+(k/64)+1) (xs.length+(k/64)+1),eS1 29 A xs.length c,yJ 30 ((xs.length:Nat):Int),yJ 31 (i:Int)] []∧N=(fun w=>(Box (fun j=>f≤j) w (fun w=>(zK w (.slice A xs.length c) (val W64 xs)∧zF .u64 w A (xs)))∧Own .u64 94 w f (z)))∧(cE xs (k/64) (k%64) i z)∧(i≤xs.length)∧nn=(xs.length-i)) ((xs.length-0)) ⟨0,(List.replicate (xs.length+(k/64)+1) 0),rfl,rfl,cE.start xs (k/64) (k%64),by omega,rfl⟩ ?_
 rintro nn M N ⟨i,z,rfl,rfl,B,Y,rfl⟩
 refine zC (zB (xq 1 [yB 32 (decide ((i:Int)<((xs.length:Nat):Int)))] [] ?_))
 refine xe (zA (zC ?_))
 refine yQ ((decide ((i:Int)<((xs.length:Nat):Int)))) (fun r=>?_) fun r=>?_
 ·have E:=uD r
  have I:=B.1
  refine zN (zA (zC (xM (zC (zB (xq 1 [yJ 33 (i:Int)] [] ?_))))))
  refine xqk 34 (atA A i) (fun w R Q=>wJ (t:=77) (e:=94) (x:=.tmp 29) (ix:=.tmp 31) (len:=xs.length) (cap:=c) (i:=i) (((Q.1).self.2).ne (j:=i) (by omega)) (by omega)) ?_
  obtain⟨g,s⟩:=yE (xs[i]?.getD 0)
  refine xqk 35 (.int .u64 (g:Int)) (fun w R Q=>by rw[←s];exact lF (t:=94) (x:=.tmp 34) ((Q.1).self.2) (j:=i) (by omega)) ?_
  refine xq 2 [yJ 8 (i:Int),yU 9 (g:Int)] [] ?_
  refine xe (zA (zC (zB (xq 4 [eS1 36 (some ⟨f,0,none⟩) (xs.length+(k/64)+1) (xs.length+(k/64)+1),yJ 39 (IntKind.i64.wrap ((i:Int)+((k/64:Nat):Int)))] [] ?_))))
  rw[yW ((i:Int)+((k/64:Nat):Int)) (((i+(k/64):Nat):Int)) (by omega)]
  refine xqk 40 (.pointer (some ⟨f,i+(k/64),none⟩)) (fun w R Q=>kR (t:=77) (e:=94) (x:=.tmp 36) (ix:=.tmp 39) (len:=(xs.length+(k/64)+1)) (cap:=(xs.length+(k/64)+1)) (i:=i+(k/64)) (by omega)) ?_
  obtain⟨m,p⟩:=yE (z[i+(k/64)]?.getD 0)
  refine xqk 41 (.int .u64 (m:Int)) (fun w R Q=>by rw[←p];exact fD (t:=94) (x:=.tmp 40) (Q.2) (j:=i+(k/64)) (by omega)) ?_
  refine xq 2 [yU 42 (g:Int),yU 43 ((k%64:Nat):Int)] [] ?_
  refine xqk 44 (.int .u64 ((g*2^(k%64)%W64:Nat):Int)) (fun w R Q=>ZnR (t:=94) (x:=.tmp 42) (y:=.tmp 43) (k:=103) (ky:=.u64) (a:=g) (n:=(k%64)) (by omega)) ?_
  have V:=B.step (k:=i) (by omega) (by omega) p s (by rw[←s];exact U.getD zM _)
  refine xqk 45 (.int .u64 ((m+g*2^(k%64)%W64:Nat):Int)) (fun w R Q=>Zp2 (t:=94) (x:=.tmp 41) (y:=.tmp 44) (k:=94) (a:=m) (b:=(g*2^(k%64)%W64)) (by rw[←p];exact B.2.1.getD zM _) (uP _ zM) (Zne (by rw[←p];exact B.2.2.2) (by omega))) ?_
  refine xqk 46 (.pointer (some ⟨f,i+(k/64),none⟩)) (fun w R Q=>kR (t:=77) (e:=94) (x:=.tmp 36) (ix:=.tmp 39) (len:=(xs.length+(k/64)+1)) (cap:=(xs.length+(k/64)+1)) (i:=i+(k/64)) (by omega)) ?_
  refine iL (t:=94) (x:=.tmp 46) (y:=.tmp 45) f (i+(k/64)) (m+g*2^(k%64)%W64) (fun w=>(Box (fun j=>f≤j) w (fun w=>(zK w (.slice A xs.length c) (val W64 xs)∧zF .u64 w A (xs)))∧Own .u64 94 w f ((z).set (i+(k/64)) (m+g*2^(k%64)%W64)))) (fun w Q=>Q.2) (by omega) (Or.inl u) (fun w w' Q J K=>⟨((Q.1).fr (J.mono (fun _ _ e=>by rw[e];exact uM _))),K⟩) ?_
  refine xe (zA (zB (xq 4 [eS1 47 (some ⟨f,0,none⟩) (xs.length+(k/64)+1) (xs.length+(k/64)+1),yJ 50 (IntKind.i64.wrap ((i:Int)+((k/64:Nat):Int)))] [] ?_)))
  rw[yW ((i:Int)+((k/64:Nat):Int)) (((i+(k/64):Nat):Int)) (by omega)]
  refine xq 1 [(51,.v (.int .i64 (IntKind.i64.wrap (((i+(k/64):Nat):Int)+1))))] [] ?_
  rw[show IntKind.i64.wrap ((((i+(k/64):Nat):Int)+1))=((i+(k/64)+1:Nat):Int) by rw[IntKind.wrap_i64];omega]
  refine xq 3 [yU 52 (g:Int),yU 54 (IntKind.u64.wrap (64-((k%64:Nat):Int)))] [] ?_
  rw[show IntKind.u64.wrap ((64-((k%64:Nat):Int)))=((64-(k%64):Nat):Int) by rw[IntKind.wrap_u64];have:=zO;omega]
  refine xqk 55 (.int .u64 ((g/2^(64-(k%64)):Nat):Int)) (fun w R Q=>ZjL (t:=94) (x:=.tmp 52) (y:=.tmp 54) (k:=103) (ky:=.u64) (a:=g) (n:=(64-(k%64))) (by omega)) ?_
  refine xqk 56 (.pointer (some ⟨f,i+(k/64)+1,none⟩)) (fun w R Q=>kR (t:=77) (e:=94) (x:=.tmp 47) (ix:=.tmp 51) (len:=(xs.length+(k/64)+1)) (cap:=(xs.length+(k/64)+1)) (i:=i+(k/64)+1) (by omega)) ?_
  refine iL (t:=94) (x:=.tmp 56) (y:=.tmp 55) f (i+(k/64)+1) (g/2^(64-(k%64))) (fun w=>(Box (fun j=>f≤j) w (fun w=>(zK w (.slice A xs.length c) (val W64 xs)∧zF .u64 w A (xs)))∧Own .u64 94 w f (((z).set (i+(k/64)) (m+g*2^(k%64)%W64)).set (i+(k/64)+1) (g/2^(64-(k%64)))))) (fun w Q=>Q.2) (by simp only[List.length_set];omega) (Or.inl u) (fun w w' Q J K=>⟨((Q.1).fr (J.mono (fun _ _ e=>by rw[e];exact uM _))),K⟩) ?_
  refine xe (lN (zA (zB (xq 1 [yJ 57 (IntKind.i64.wrap ((i:Int)+1))] [] ?_))))
  rw[yW ((i:Int)+1) (((i+1:Nat):Int)) (by omega)]
  refine xq 1 [yJ 31 ((i+1:Nat):Int)] [] ?_
  refine xe ?_
  refine yP [eS1 4 none 0 0,yJ 5 ((k/64:Nat):Int),yU 6 ((k%64:Nat):Int),eS1 7 (some ⟨f,0,none⟩) (xs.length+(k/64)+1) (xs.length+(k/64)+1),eS1 29 A xs.length c,yJ 30 ((xs.length:Nat):Int),yJ 31 (((i+1):Nat):Int)] [] (fun w=>(Box (fun j=>f≤j) w (fun w=>(zK w (.slice A xs.length c) (val W64 xs)∧zF .u64 w A (xs)))∧Own .u64 94 w f ((((z).set (i+(k/64)) (m+g*2^(k%64)%W64)).set (i+(k/64)+1) (g/2^(64-(k%64))))))) (fun w Q=>⟨Q.1,Q.2⟩) ?_
  exact lE ((xs.length-(i+1))) (by omega) ⟨(i+1),(((z).set (i+(k/64)) (m+g*2^(k%64)%W64)).set (i+(k/64)+1) (g/2^(64-(k%64)))),rfl,rfl,V.1,by omega,rfl⟩
 have E:=uH r
 have I:=B.1
 obtain rfl:i=xs.length:=by omega
 have O:=B.done
 rw[show 64*(k/64)+k%64=k by omega] at O
 refine lO (xC (xC (kQ (zA (zC (zB (xq 1 [eS1 58 (some ⟨f,0,none⟩) (xs.length+(k/64)+1) (xs.length+(k/64)+1)] [] ?_)))))))
 refine xqc 106 [.slice (some ⟨f,0,none⟩) (xs.length+(k/64)+1) (xs.length+(k/64)+1)] 59 xH _ (fun w R Q=>yM xD (ZaZ Q.2 B.2.1 B.1 O (by omega))) fun⟨F,G,H⟩=>?_
 refine xq 1 [eS1 4 F G H] [] ?_
 refine xe (zA (zG ?_))
 refine yR (.slice F G H) fun w' R Q=>?_
 exact⟨_,rfl,Q.2,R⟩
theorem ZnT (A:Option Addr)(xs:List Nat)(c k:Nat)(w:World)(X:zK w (.slice A xs.length c) (val W64 xs))(Y:zF .u64 w A xs)(Z:xs.length≤4294967296)(H:Dig W64 xs)(hk:k≤274877906944) :
 yA 128 #[.slice A xs.length c,.int .i64 ((k:Nat):Int)] w (wW w (val W64 xs/2^k)):=by
 refine zV (Φ:=fun w=>(zK w (.slice A xs.length c) (val W64 xs)∧zF .u64 w A xs)) Tryz.func128 rfl (by kernel_rfl) (fun w' U=>⟨X.ext U,Y.ext U⟩) ?_
 refine zC (zB (xq 1 [eS1 4 none 0 0] [] ?_))
 refine xe (zA (zC (zB (xq 2 [(10,.v (.int .i64 (IntKind.i64.wrap (((k:Int)).tdiv 64))))] [] ?_))))
 rw[show IntKind.i64.wrap ((((k:Int)).tdiv 64))=((k/64:Nat):Int) from tdq (k) 64 (by omega)]
 refine xq 2 [yJ 12 (((k:Int)).tmod 64)] [] ?_
 rw[show ((k:Int)).tmod 64=((k%64:Nat):Int) from tdr (k) 64]
 refine xq 1 [yU 13 (IntKind.u64.wrap (((k%64:Nat):Int)))] [] ?_
 rw[show IntKind.u64.wrap (((k%64:Nat):Int))=((k%64:Nat):Int) by rw[IntKind.wrap_u64];omega]
 refine xq 2 [yJ 5 ((k/64:Nat):Int),yU 6 ((k%64:Nat):Int)] [] ?_
 refine xe (zA (zC (zC (zB (xq 4 [yB 17 (decide (((k/64:Nat):Int)≥((xs.length:Nat):Int)))] [] ?_)))))
 refine xe (zA ?_)
 refine yQ ((decide (((k/64:Nat):Int)≥((xs.length:Nat):Int)))) (fun q=>?_) fun q=>?_
 ·have D:=uD q
  refine zC (zB (xq 1 [eS1 4 none 0 0] [] ?_))
  refine xe (zA (zG (zI ?_)))
  refine yR (.slice none 0 0) fun w' R Q=>?_
  exact⟨_,rfl,by rw[Zfv H (by omega)];exact zK.zero _,R⟩
 have D:=uH q
 refine zN (zA (zC (zC (zB (xq 2 [yB 19 (((k:Int):Int) == 0)] [] ?_)))))
 refine xe (zA ?_)
 refine yQ ((((k:Int):Int) == 0)) (fun r=>?_) fun r=>?_
 ·have E:=tY.1 r
  refine zC (zB (xq 2 [eS1 4 A xs.length c] [] ?_))
  refine xe (zA (zG (zI ?_)))
  refine yR (.slice A xs.length c) fun w' R Q=>?_
  exact⟨_,rfl,by obtain rfl:k=0:=(by omega);rw[vT,rB];exact Q.1,R⟩
 have E:=wY r
 refine zN (zA (zC (zB (xq 4 [yJ 24 (IntKind.i64.wrap (((xs.length:Nat):Int)-((k/64:Nat):Int)))] [] ?_))))
 rw[yW (((xs.length:Nat):Int)-((k/64:Nat):Int)) (((xs.length-(k/64):Nat):Int)) (by omega)]
 refine Zdh (d:=25) (t:=77) (e:=94) (k:=.u64) (kl:=.i64) (kc:=.i64) (l:=.tmp 24) (c:=.tmp 24) (xs.length-(k/64)) 8 (by omega) (by decide) fun f z _=>?_
 refine xr 1 [eS1 0 A xs.length c,eS1 4 none 0 0,yJ 5 ((k/64:Nat):Int),yU 6 ((k%64:Nat):Int),eS1 7 (some ⟨f,0,none⟩) (xs.length-(k/64)) (xs.length-(k/64))] [] ?_
 refine xe (zA (zC (zC (zB (xq 3 [yJ 27 ((xs.length-(k/64):Nat):Int),yJ 28 0] [] ?_)))))
 refine xe (zA (xM ?_))
 refine yC [eS1 0 A xs.length c,eS1 4 none 0 0,yJ 5 ((k/64:Nat):Int),yU 6 ((k%64:Nat):Int),eS1 7 (some ⟨f,0,none⟩) (xs.length-(k/64)) (xs.length-(k/64)),yJ 27 ((xs.length-(k/64):Nat):Int),yJ 28 ((0:Nat):Int)] [] (fun w=>(Box (fun j=>f≤j) w (fun w=>(zK w (.slice A xs.length c) (val W64 xs)∧zF .u64 w A (xs)))∧Own .u64 94 w f ((List.replicate (xs.length-(k/64)) 0)))) (fun w Q=>⟨Q.1,Q.2⟩) ?_
 refine kW (fun nn V W=>∃ (i:Nat) (p:List Nat),V=ofL [eS1 0 A xs.length c,eS1 4 none 0 0,yJ 5 ((k/64:Nat):Int),yU 6 ((k%64:Nat):Int),eS1 7 (some ⟨f,0,none⟩) (xs.length-(k/64)) (xs.length-(k/64)),yJ 27 ((xs.length-(k/64):Nat):Int),yJ 28 (i:Int)] []∧W=(fun w=>(Box (fun j=>f≤j) w (fun w=>(zK w (.slice A xs.length c) (val W64 xs)∧zF .u64 w A (xs)))∧Own .u64 94 w f (p)))∧(cF (xs.drop (k/64)) (k%64) i p)∧(i≤xs.length-k/64)∧nn=(xs.length-k/64-i)) ((xs.length-k/64-0)) ⟨0,(List.replicate (xs.length-(k/64)) 0),rfl,rfl,(by have:=cF.start (xs.drop (k/64)) (k%64);rwa [vZ] at this),by omega,rfl⟩ ?_
 rintro nn V W ⟨i,p,rfl,rfl,I,hi,rfl⟩
 refine zC (zB (xq 1 [(29,.v (.bool (decide ((i:Int)<((xs.length-(k/64):Nat):Int)))))] [] ?_))
 refine xe (zA (zC ?_))
 refine yQ ((decide ((i:Int)<((xs.length-(k/64):Nat):Int)))) (fun s=>?_) fun s=>?_
 ·have F:=uD s
  have J:p.length=xs.length-k/64:=by rw[I.1,vZ]
  refine zN (zA (zC (xM (zC (zB (xq 2 [yJ 8 (i:Int)] [] ?_))))))
  refine xe (zA (zC (zB (xq 6 [eS1 31 (some ⟨f,0,none⟩) (xs.length-(k/64)) (xs.length-(k/64)),yJ 32 (i:Int),eS1 33 A xs.length c,yJ 36 (IntKind.i64.wrap ((i:Int)+((k/64:Nat):Int)))] [] ?_))))
  rw[yW ((i:Int)+((k/64:Nat):Int)) (((i+(k/64):Nat):Int)) (by omega)]
  refine xqk 37 (atA A (i+(k/64))) (fun w R Q=>wJ (t:=77) (e:=94) (x:=.tmp 33) (ix:=.tmp 36) (len:=xs.length) (cap:=c) (i:=i+(k/64)) (((Q.1).self.2).ne (j:=i+(k/64)) (by omega)) (by omega)) ?_
  obtain⟨g,h⟩:=yE (xs[i+(k/64)]?.getD 0)
  refine xqk 38 (.int .u64 (g:Int)) (fun w R Q=>by rw[←h];exact lF (t:=94) (x:=.tmp 37) ((Q.1).self.2) (j:=i+(k/64)) (by omega)) ?_
  refine xq 1 [yU 39 ((k%64:Nat):Int)] [] ?_
  refine xqk 40 (.int .u64 ((g/2^(k%64):Nat):Int)) (fun w R Q=>ZjL (t:=94) (x:=.tmp 38) (y:=.tmp 39) (k:=103) (ky:=.u64) (a:=g) (n:=(k%64)) (by omega)) ?_
  refine xqk 41 (.pointer (some ⟨f,i,none⟩)) (fun w R Q=>kR (t:=77) (e:=94) (x:=.tmp 31) (ix:=.tmp 32) (len:=(xs.length-(k/64))) (cap:=(xs.length-(k/64))) (i:=i) (by omega)) ?_
  refine iL (t:=94) (x:=.tmp 41) (y:=.tmp 40) f (i) (g/2^(k%64)) (fun w=>(Box (fun j=>f≤j) w (fun w=>(zK w (.slice A xs.length c) (val W64 xs)∧zF .u64 w A (xs)))∧Own .u64 94 w f ((p).set (i) (g/2^(k%64))))) (fun w Q=>Q.2) (by omega) (Or.inl z) (fun w w' Q S T=>⟨((Q.1).fr (S.mono (fun _ _ e=>by rw[e];exact uM _))),T⟩) ?_
  refine xe (zA (zC (zB (xq 3 [yJ 44 (IntKind.i64.wrap ((i:Int)+((k/64:Nat):Int)))] [] ?_))))
  rw[yW ((i:Int)+((k/64:Nat):Int)) (((i+(k/64):Nat):Int)) (by omega)]
  refine xq 1 [(45,.v (.int .i64 (IntKind.i64.wrap (((i+(k/64):Nat):Int)+1))))] [] ?_
  rw[show IntKind.i64.wrap ((((i+(k/64):Nat):Int)+1))=((i+(k/64)+1:Nat):Int) by rw[IntKind.wrap_i64];omega]
  refine xq 3 [(48,.v (.bool (decide (((i+(k/64)+1:Nat):Int)<((xs.length:Nat):Int)))))] [] ?_
  refine xe (zA ?_)
  refine yQ ((decide (((i+(k/64)+1:Nat):Int)<((xs.length:Nat):Int)))) (fun u=>?_) fun u=>?_
  ·have G:=uD u
   refine gT 16 [0,0,3,7,0,0,0,96,224,496,1008,0,2048,8176,16383,32767] (by kernel_rfl) (by kernel_rfl) zL ?_
   refine xqf 2 [eS1 49 (some ⟨f,0,none⟩) (xs.length-(k/64)) (xs.length-(k/64)),yJ 50 (i:Int)] [] ?_
   refine xqj 51 (.pointer (some ⟨f,i,none⟩)) (fun w Q=>kR (t:=77) (e:=94) (x:=.tmp 49) (ix:=.tmp 50) (len:=(xs.length-(k/64))) (cap:=(xs.length-(k/64))) (i:=i) (by omega)) ?_
   obtain⟨K,B⟩:=yE (((p).set (i) (g/2^(k%64)))[i]?.getD 0)
   refine xqj 52 (.int .u64 (K:Int)) (fun w Q=>by rw[←B];exact fD (t:=94) (x:=.tmp 51) (Q.2) (j:=i) (by simp only[List.length_set];omega)) ?_
   obtain rfl:K=g/2^(k%64):=by rw[←B,List.getElem?_set_self (by omega)];rfl
   refine xqf 4 [eS1 53 A xs.length c,yJ 56 (IntKind.i64.wrap ((i:Int)+((k/64:Nat):Int)))] [] ?_
   rw[yW ((i:Int)+((k/64:Nat):Int)) (((i+(k/64):Nat):Int)) (by omega)]
   refine xqf 1 [(57,.v (.int .i64 (IntKind.i64.wrap (((i+(k/64):Nat):Int)+1))))] [] ?_
   rw[show IntKind.i64.wrap ((((i+(k/64):Nat):Int)+1))=((i+(k/64)+1:Nat):Int) by rw[IntKind.wrap_i64];omega]
   refine xqj 58 (atA A (i+(k/64)+1)) (fun w Q=>wJ (t:=77) (e:=94) (x:=.tmp 53) (ix:=.tmp 57) (len:=xs.length) (cap:=c) (i:=i+(k/64)+1) (((Q.1).self.2).ne (j:=i+(k/64)+1) (by omega)) (by omega)) ?_
   obtain⟨m,C⟩:=yE (xs[i+(k/64)+1]?.getD 0)
   refine xqj 59 (.int .u64 (m:Int)) (fun w Q=>by rw[←C];exact lF (t:=94) (x:=.tmp 58) ((Q.1).self.2) (j:=i+(k/64)+1) (by omega)) ?_
   refine xqf 2 [yU 61 (IntKind.u64.wrap (64-((k%64:Nat):Int)))] [] ?_
   rw[show IntKind.u64.wrap ((64-((k%64:Nat):Int)))=((64-(k%64):Nat):Int) by rw[IntKind.wrap_u64];have:=zO;omega]
   refine xqj 62 (.int .u64 ((m*2^(64-(k%64))%W64:Nat):Int)) (fun w Q=>ZnR (t:=94) (x:=.tmp 59) (y:=.tmp 61) (k:=103) (ky:=.u64) (a:=m) (n:=(64-(k%64))) (by omega)) ?_
   have O:=I.step (k:=i) (x:=g) (y:=m) (by omega) (by rw[vZ];omega) (by rw[List.getElem?_drop,vL];exact h) (by rw[List.getElem?_drop,show k/64+(i+1)=i+k/64+1 by omega];exact C) (by rw[←h];exact H.getD zM _)
   refine xqj 63 (.int .u64 ((g/2^(k%64)+m%2^(k%64)*2^(64-k%64):Nat):Int)) (fun w Q=>Zp2 (t:=94) (x:=.tmp 52) (y:=.tmp 62) (k:=94) (a:=((g/2^(k%64)))) (b:=(m*2^(64-(k%64))%W64)) (vE (uZ _ _) (by rw[←h];exact H.getD zM _)) (uP _ zM) (Znf (by omega) (by rw[←h];exact H.getD zM _))) ?_
   refine xqj 64 (.pointer (some ⟨f,i,none⟩)) (fun w Q=>kR (t:=77) (e:=94) (x:=.tmp 49) (ix:=.tmp 50) (len:=(xs.length-(k/64))) (cap:=(xs.length-(k/64))) (i:=i) (by omega)) ?_
   refine xz ?_
   refine iL (t:=94) (x:=.tmp 64) (y:=.tmp 63) f (i) (g/2^(k%64)+m%2^(k%64)*2^(64-k%64)) (fun w=>(Box (fun j=>f≤j) w (fun w=>(zK w (.slice A xs.length c) (val W64 xs)∧zF .u64 w A (xs)))∧Own .u64 94 w f (((p).set (i) (g/2^(k%64))).set (i) (g/2^(k%64)+m%2^(k%64)*2^(64-k%64))))) (fun w Q=>Q.2) (by simp only[List.length_set];omega) (Or.inl z) (fun w w' Q S T=>⟨((Q.1).fr (S.mono (fun _ _ e=>by rw[e];exact uM _))),T⟩) ?_
   refine xe (lN (zA (zB (xq 1 [yJ 65 (IntKind.i64.wrap ((i:Int)+1))] [] ?_))))
   rw[yW ((i:Int)+1) (((i+1:Nat):Int)) (by omega)]
   refine xr 1 [eS1 0 A xs.length c,eS1 4 none 0 0,yJ 5 ((k/64:Nat):Int),yU 6 ((k%64:Nat):Int),eS1 7 (some ⟨f,0,none⟩) (xs.length-(k/64)) (xs.length-(k/64)),yJ 27 ((xs.length-(k/64):Nat):Int),yJ 28 ((i+1:Nat):Int)] [] ?_
   refine xe ?_
   refine yP [eS1 0 A xs.length c,eS1 4 none 0 0,yJ 5 ((k/64:Nat):Int),yU 6 ((k%64:Nat):Int),eS1 7 (some ⟨f,0,none⟩) (xs.length-(k/64)) (xs.length-(k/64)),yJ 27 ((xs.length-(k/64):Nat):Int),yJ 28 (((i+1):Nat):Int)] [] (fun w=>(Box (fun j=>f≤j) w (fun w=>(zK w (.slice A xs.length c) (val W64 xs)∧zF .u64 w A (xs)))∧Own .u64 94 w f ((((p).set (i) (g/2^(k%64))).set (i) (g/2^(k%64)+m%2^(k%64)*2^(64-k%64)))))) (fun w Q=>⟨Q.1,Q.2⟩) ?_
   exact lE ((xs.length-k/64-(i+1))) (by omega) ⟨(i+1),(((p).set (i) (g/2^(k%64))).set (i) (g/2^(k%64)+m%2^(k%64)*2^(64-k%64))),rfl,rfl,(by rw[List.set_set];exact O),by omega,rfl⟩
  have G:=uH u
  have O:=I.step (k:=i) (x:=g) (y:=0) (by omega) (by rw[vZ];omega) (by rw[List.getElem?_drop,vL];exact h) (by rw[List.getElem?_drop,List.getElem?_eq_none (by omega)];rfl) (by rw[←h];exact H.getD zM _)
  rw[Nat.zero_mod,sI,tA] at O
  refine zN (lN (zA (zB (xq 1 [yJ 65 (IntKind.i64.wrap ((i:Int)+1))] [] ?_))))
  rw[yW ((i:Int)+1) (((i+1:Nat):Int)) (by omega)]
  refine xq 1 [yJ 28 ((i+1:Nat):Int)] [] ?_
  refine xe ?_
  refine yP [eS1 0 A xs.length c,eS1 4 none 0 0,yJ 5 ((k/64:Nat):Int),yU 6 ((k%64:Nat):Int),eS1 7 (some ⟨f,0,none⟩) (xs.length-(k/64)) (xs.length-(k/64)),yJ 27 ((xs.length-(k/64):Nat):Int),yJ 28 (((i+1):Nat):Int)] [] (fun w=>(Box (fun j=>f≤j) w (fun w=>(zK w (.slice A xs.length c) (val W64 xs)∧zF .u64 w A (xs)))∧Own .u64 94 w f (((p).set (i) (g/2^(k%64)))))) (fun w Q=>⟨Q.1,Q.2⟩) ?_
  exact lE ((xs.length-k/64-(i+1))) (by omega) ⟨(i+1),((p).set (i) (g/2^(k%64))),rfl,rfl,O,by omega,rfl⟩
 have F:=uH s
 have J:p.length=xs.length-k/64:=by rw[I.1,vZ]
 obtain rfl:i=xs.length-k/64:=by omega
 have HD:=I
 rw[←vZ] at HD
 replace HD:=HD.done
 rw[Zg9 xs (k/64) (k%64) H (by omega),show 64*(k/64)+k%64=k by omega] at HD
 refine lO (xC (xC (kQ (zA (zC (zB (xq 1 [eS1 66 (some ⟨f,0,none⟩) (xs.length-(k/64)) (xs.length-(k/64))] [] ?_)))))))
 refine xqc 106 [.slice (some ⟨f,0,none⟩) (xs.length-(k/64)) (xs.length-(k/64))] 67 xH _ (fun w R Q=>yM xD (ZaZ Q.2 I.2.1 J HD (by omega))) fun⟨L,M,N⟩=>?_
 refine xq 1 [eS1 4 L M N] [] ?_
 refine xe (zA (zG ?_))
 refine yR (.slice L M N) fun w' R Q=>?_
 exact⟨_,rfl,Q.2,R⟩
section
variable {N:Nat} {S0:Nat→Prop} {w:World} {Φ:World→Prop} {P:Program}
theorem aN (S0:Nat→Prop){fn:Func}{f:FuncId}{c:Code}{args:List Value}{R:Ending→World→Prop}(j:P.funcs[f]? = some fn)(l:fn.body=some c)(m:Nat.ble args.length fn.ntmps=true)(Q:Box (fun _=>False) w Φ)(h:SXc P fn.ntmps S0 w (bodyPost P fn R) c (ofL (ZeP 0 args) []) Φ):Calls P f args.toArray w R:=by
 refine calls_of_wp j l (h (fun _=>0) _ w ⟨?_,rfl,fun i x n=>?_,⟨fun b t p e=>(by cases e),fun b c e=>(by cases e),fun b e=>(by cases e),Fr.refl _ _,fun i b off e=>?_,fun b t p e=>(by cases e)⟩,?_⟩)
 ·have:=rN m
  simp;omega
 ·obtain⟨_,v,hv,rfl⟩:=ZbP args 0 i x n
  have d:i<args.length:=by
   rcases vJ i args.length with a|a
   ·exact a
   rw[List.getElem?_eq_none (by omega)] at hv;cases hv
  simp only[AV.conc]
  rw[Array.getElem?_append_left (by simpa using d)]
  simpa using hv
 ·obtain⟨_,v,hv,e'⟩:=ZbP args 0 i _ e
  cases e'
 intro w' g
 exact Q w' (g.mono (fun i _ a=>by obtain⟨b,e,_⟩:=a;cases e))
end
section
variable {P:Program} {o:Oper} {ρ:Operand→Value} {w:World} {x y:Operand} {t k:TypeId}
theorem ZqC {a:Nat}(b:o.op=Op.binOp .and t x y k:=by kernel_rfl)(c:ρ x=.int .u64 (a:Int):=by kernel_rfl)(d:ρ y=.int .u64 1:=by kernel_rfl)(ha:a<W64:=by assumption):(execOp ρ o).run P w=.ok (.value (.int .u64 ((a%2:Nat):Int))) w:=by
 have h:bits .and .u64 (a:Int) 1=((a%2:Nat):Int):=by
  have:=bits_and_u64_nat a 1 (by rw[←zO];exact ha) (by decide)
  rw[Nat.and_one_is_mod] at this
  exact this
 rw[←h]
 simp only[execOp,b,c,d,eqGuard,binOp]
 rfl
end
/-! ### length -/
theorem Zfl {xs:List Nat}{k t:Nat}(d:Dig W64 xs)(e:xs.length=k+1)(f:Trim xs)(b:xs[k]?.getD 0=t):blen (val W64 xs)=64*k+blen t:=by
 have g:0<t:=sY (by rw[←b];exact f k e)
 have c:=zR (B:=W64) k (show k<xs.length by omega)
 rw[uA (by omega),b] at c
 have a:=xZ (d.take k)
 rw[uY,uV (by omega),bD] at a
 rw[c,bD]
 exact Zjw a g
theorem Zfm {t:Nat}(h:t<W64):Lib.bitLen t=blen t:=by
 rcases uI t with rfl|a
 ·rfl
 obtain⟨b,_,c,d⟩:=dC a h
 have:=ZeM (k:=Lib.bitLen t-1) c (by rw[pJ b];exact d)
 omega
theorem ZnU (t:Nat)(w:World)(h:t<W64):yA 105 #[.int .u64 (t:Int)] w (RetV w (.int .i64 ((blen t:Nat):Int))):=by
 have a:=h
 rw[zO] at a
 refine (Tryz.bits_Len64 (t:Int) w (by omega) (by omega)).mono ?_
 rintro e w' ⟨rfl,rfl⟩
 exact⟨by rw[tN,Zfm h],Fr.refl _ _⟩
theorem ZmD (t:Nat)(w:World)(h:t<W64):yA 174 #[.int .u64 (t:Int)] w (RetV w (.int .i64 ((64-blen t:Nat):Int))):=by
 refine (Zam t w h).mono ?_
 rintro e w' ⟨rfl,rfl⟩
 have:blen t≤64:=xF.2 (by rw[zO] at h;exact h)
 exact⟨by rw[Zfm h];congr 2;omega,Fr.refl _ _⟩
/-! ### zeros -/
theorem Zpp (x:Nat)(w:World)(a:Glob w)(b:0<x)(h:x<W64):yA 186 #[.int .u64 (x:Int)] w (RetV w (.int .i64 ((tzn x:Nat):Int))):=by
 obtain⟨g,c⟩:=kZ b
 have d:tzn x<64:=by
  refine qB fun f=>?_
  have:=uR (n:=2) (by decide) f
  have i:1*2^tzn x≤oddM x*2^tzn x:=uC _ (by omega)
  rw[zO] at h
  omega
 refine (Zc2 x (tzn x) (oddM x/2) w a (by rw[show 2*(oddM x/2)+1=oddM x by omega,uF];exact c) d h).mono ?_
 rintro e w' ⟨rfl,rfl⟩
 exact⟨rfl,Fr.refl _ _⟩
def ZerR (xs:List Nat) (k:Nat):Prop:=val W64 (xs.take k)=0
theorem ZerR.start (xs:List Nat):ZerR xs 0:=by unfold ZerR;simp
theorem ZerR.lt {xs:List Nat}{k:Nat}(h:ZerR xs k)(b:0<val W64 xs):k<xs.length:=by
 rcases vJ k xs.length with a|a
 ·exact a
 unfold ZerR at h;rw[uA a] at h;omega
theorem ZerR.step {xs:List Nat}{k:Nat}(h:ZerR xs k)(a:k<xs.length)(b:xs[k]?.getD 0=0):ZerR xs (k+1):=by
 unfold ZerR at *
 rw[zR k a,h,b];simp
theorem ZqD {x r:Nat}(a:0<x)(b:x<W64):tzn (x+W64*r)=tzn x:=by
 obtain⟨g,c⟩:=kZ a
 have h:tzn x<64:=by
  refine qB fun d=>?_
  have:=uR (n:=2) (by decide) d
  have i:1*2^tzn x≤oddM x*2^tzn x:=uC _ (by omega)
  rw[zO] at b
  omega
 have e:x+W64*r=(oddM x+2^(64-tzn x)*r)*2^tzn x:=by
  rw[uU,← c,Nat.mul_right_comm,← uS,pJ (by omega),zO]
 have f:2^(64-tzn x)=2*2^(63-tzn x):=by rw[show 64-tzn x=(63-tzn x)+1 by omega,uO,uF]
 rw[e]
 exact Zgm (by rw[f,uG];omega) _
theorem ZerR.done {xs:List Nat}{k x:Nat}(h:ZerR xs k)(c:Dig W64 xs)(d:k<xs.length)(a:xs[k]?.getD 0=x)(e:x≠0):tzn (val W64 xs)=64*k+tzn x:=by
 unfold ZerR at h
 have b:=xU (B:=W64) (xs:=xs) k
 rw[h,uV (by omega),xV k d,a,sC,bD,uF] at b
 rw[b,ZcD (by omega),ZqD (by omega) (a ▸ c.getD zM k),vL]
theorem ZerR.bound {xs:List Nat}{k x:Nat}(b:Dig W64 xs)(c:xs[k]?.getD 0=x)(e:x≠0):tzn x<64:=by
 have a:x<W64:=c ▸ b.getD zM k
 obtain⟨f,g⟩:=kZ (show 0<x by omega)
 refine qB fun d=>?_
 have:=uR (n:=2) (by decide) d
 have h:1*2^tzn x≤oddM x*2^tzn x:=uC _ (by omega)
 rw[zO] at a
 omega
/-! ### bit -/
theorem ZqE {xs:List Nat}{i x:Nat}(b:Dig W64 xs)(c:i/64<xs.length)(d:xs[i/64]?.getD 0=x):val W64 xs/2^i%2=x/2^(i%64)%2:=by
 have a:=Zg9 xs (i/64) (i%64) b (by omega)
 rw[show 64*(i/64)+i%64=i by omega] at a
 rw[←a,xV _ c,d]
 have g:i%64<64:=uP _ (by decide)
 generalize i%64=t at *
 generalize val W64 (xs.drop (i/64+1))=r
 have e:W64*r=2^t*(2^(64-t)*r):=by rw[←uG,← uS,show t+(64-t)=64 by omega,zO]
 have f:2^(64-t)=2*2^(63-t):=by rw[show 64-t=(63-t)+1 by omega,uO,uF]
 rw[e,Nat.add_mul_div_left _ _ (p2 t),f,uG,rJ]
theorem Zpq {xs:List Nat}{i:Nat}(a:Dig W64 xs)(b:¬ i/64<xs.length):val W64 xs/2^i%2=0:=by
 rw[Zfv a (by omega)]
theorem Zrz (m:Nat):(((m%2:Nat):Int) == 1)=decide (m%2=1):=by
 rcases Nat.mod_two_eq_zero_or_one m with h|h<;>rw[h]<;>rfl
/-! ### division by a word,in place -/
def DwR (xs:List Nat) (u k:Nat) (qs:List Nat) (r:Nat):Prop:=bM xs u k qs r∧qs.take k=xs.take k
theorem DwR.start {xs:List Nat}{u:Nat}(a:Dig W64 xs)(b:0<u):DwR xs u xs.length xs 0 :=
 ⟨⟨rfl,a,b,by rw[uX (uM _)];simp⟩,rfl⟩
theorem DwR.at {xs a:List Nat}{u k r:Nat}(h:DwR xs u (k+1) a r):a[k]?.getD 0=xs[k]?.getD 0:=by
 have:=vP (fun l=>l[k]?.getD 0) h.2
 simp only[List.getElem?_take_of_lt (show k<k+1 by omega)] at this
 exact this
theorem DwR.step {xs a:List Nat}{u k r x:Nat}(h:DwR xs u (k+1) a r)(c:k<xs.length)(d:a[k]?.getD 0=x)(b:x<W64):DwR xs u k (a.set k (divQ r x u)) (divR r x u):=by
 refine⟨h.1.step c (h.at.symm.trans d) b,?_⟩
 have:=vP (List.take k) h.2
 rw[List.take_take,List.take_take,uV (by omega)] at this
 rw[sU (uM k)];exact this
theorem Zic (hi lo y:Nat)(w:World)(b:hi<y)(c:y<W64)(a:lo<W64):yA 149 #[.int .u64 (hi:Int),.int .u64 (lo:Int),.int .u64 (y:Int)] w (RetV w (.tuple #[.int .u64 ((divQ hi lo y:Nat):Int),.int .u64 ((divR hi lo y:Nat):Int)])):=by
 refine (Zb3 hi lo y w b c a).mono ?_
 rintro e w' ⟨rfl,n,rfl⟩
 exact⟨rfl,(Fr.refl _ _).drewN n⟩
/-! ### a multiple subtracted within a row -/
def SpR (zs0 ys:List Nat) (q o k:Nat) (zs:List Nat) (c b:Nat):Prop :=
 zs.length=zs0.length∧Dig W64 zs∧c<W64∧b≤1∧zs.take o=zs0.take o∧zs.drop (o+k)=zs0.drop (o+k) ∧
  val W64 (zs.take (o+k))+W64^o*(q*val W64 (ys.take k))=val W64 (zs0.take (o+k))+W64^(o+k)*(c+b)
theorem SpR.start {a:List Nat}(ys:List Nat)(q o:Nat)(h:Dig W64 a):SpR a ys q o 0 a 0 0:=⟨rfl,h,zM,by omega,rfl,rfl,by simp⟩
theorem Zac {b a:List Nat}{k:Nat}(h:b.drop k=a.drop k):b[k]?.getD 0=a[k]?.getD 0:=by
 have:=vP (fun l=>l[0]?.getD 0) h
 simpa [List.getElem?_drop] using this
theorem ZjN {x q c:Nat}(a:x<W64)(b:q<W64)(d:c<W64):wI x q+xO (xE x q) c 0<W64:=by
 have e:=dY x q
 have f:=fR (xE x q) c 0
 have g:=ZcZ a b
 refine aV _ (vE (m:=x*q+c) ?_ (by omega))
 rw[uN];omega
theorem SpR.step {a ys f:List Nat}{q o k c b x z:Nat}(h:SpR a ys q o k f c b)(r:o+k<a.length)(l:ys[k]?.getD 0=x)(m:f[o+k]?.getD 0=z)(s:Dig W64 ys)(u:q<W64) :
 SpR a ys q o (k+1) (f.set (o+k) (lJ z (xI (xE x q) c 0) b)) (wI x q+xO (xE x q) c 0) (lK z (xI (xE x q) c 0) b):=by
 obtain⟨v,n,A,B,C,p,D⟩:=h
 have g:x<W64:=l ▸ s.getD zM k
 have i:z<W64:=m ▸ n.getD zM _
 have E:a[o+k]?.getD 0=z:=(Zac p).symm.trans m
 have G:=dY x q
 have H:=fR (xE x q) c 0
 have I:=Zby i (dX (xE x q) c 0) B
 refine⟨by simpa using v,n.set _ (Zak _ _ _),ZjN g u A,ZcY _ _ _,?_,?_,?_⟩
 ·rw[sU (by omega)];exact C
 ·have e:=vP (List.drop 1) p
  rw[vM,vM] at e
  rw[vX (by omega),show o+(k+1)=o+k+1 by omega];exact e
 rw[show o+(k+1)=(o+k)+1 by omega,xL _ _ _ _ (by omega),zR (o+k) r,lH k,E,l,uO]
 have j:lJ z (xI (xE x q) c 0) b+x*q+c+b=z+W64*(wI x q+xO (xE x q) c 0+lK z (xI (xE x q) c 0) b):=by
  rw[uN,uN];omega
 have d:=vP (W64^(o+k) * ·) j
 simp only[uN] at d
 have F:W64^o*(q*(val W64 (ys.take k)+W64^k*x))=W64^o*(q*val W64 (ys.take k))+W64^(o+k)*(x*q):=by
  rw[uN q,uN (W64^o),uS,vU q (W64^k) x,uG (W64^o),uF q x]
 rw[F,uG (W64^(o+k)) W64]
 simp only[uN]
 rw[uN] at D
 omega
def Zek (zs0 ys:List Nat) (q o:Nat) (zs:List Nat) (b:Nat):Prop :=
 zs.length=zs0.length∧Dig W64 zs∧b≤1∧zs.take o=zs0.take o∧zs.drop (o+ys.length+1)=zs0.drop (o+ys.length+1) ∧
  val W64 (zs.take (o+ys.length+1))+W64^o*(q*val W64 ys)=val W64 (zs0.take (o+ys.length+1))+W64^(o+ys.length+1)*b
theorem SpR.done {a ys f:List Nat}{q o c b z:Nat}(h:SpR a ys q o ys.length f c b)(n:o+ys.length<a.length)(i:f[o+ys.length]?.getD 0=z):Zek a ys q o (f.set (o+ys.length) (lJ z c b)) (lK z c b):=by
 obtain⟨p,j,r,s,u,l,m⟩:=h
 have g:z<W64:=i ▸ j.getD zM _
 have v:a[o+ys.length]?.getD 0=z:=(Zac l).symm.trans i
 have A:=Zby g r s
 refine⟨by simpa using p,j.set _ (Zak _ _ _),ZcY _ _ _,?_,?_,?_⟩
 ·rw[sU (by omega)];exact u
 ·have e:=vP (List.drop 1) l
  rw[vM,vM] at e
  rw[vX (by omega)];exact e
 rw[uA (uM ys.length)] at m
 rw[xL _ _ _ _ (by omega),zR _ n,v,uO]
 have d:=vP (W64^(o+ys.length) * ·) A
 simp only[uN] at d
 rw[uG (W64^(o+ys.length)) W64]
 rw[uN] at m
 omega
/-! ### the divisor added within a row -/
def AbR (zs0 ys:List Nat) (o k:Nat) (zs:List Nat) (c:Nat):Prop :=
 zs.length=zs0.length∧Dig W64 zs∧c≤1∧zs.take o=zs0.take o∧zs.drop (o+k)=zs0.drop (o+k) ∧
  val W64 (zs.take (o+k))+W64^(o+k)*c=val W64 (zs0.take (o+k))+W64^o*val W64 (ys.take k)
theorem AbR.start {a:List Nat}(ys:List Nat)(o:Nat)(h:Dig W64 a):AbR a ys o 0 a 0:=⟨rfl,h,by omega,rfl,rfl,by simp⟩
theorem AbR.step {a ys d:List Nat}{o k c x z:Nat}(h:AbR a ys o k d c)(l:o+k<a.length)(f:ys[k]?.getD 0=x)(g:d[o+k]?.getD 0=z)(m:Dig W64 ys):AbR a ys o (k+1) (d.set (o+k) (xI z x c)) (xO z x c):=by
 obtain⟨n,i,p,q,j,s⟩:=h
 have r:a[o+k]?.getD 0=z:=(Zac j).symm.trans g
 refine⟨by simpa using n,i.set _ (dX _ _ _),ZcX (g ▸ i.getD zM _) (f ▸ m.getD zM k) p,?_,?_,?_⟩
 ·rw[sU (by omega)];exact q
 ·have e:=vP (List.drop 1) j
  rw[vM,vM] at e
  rw[vX (by omega),show o+(k+1)=o+k+1 by omega];exact e
 rw[show o+(k+1)=(o+k)+1 by omega,xL _ _ _ _ (by omega),zR (o+k) l,lH k,r,f,uO]
 have b:=vP (W64^(o+k) * ·) (fR z x c)
 simp only[uN] at b
 rw[uN (W64^o),← uG (W64^o) (W64^k),← uS,uG (W64^(o+k)) W64]
 omega
def Zel (zs0 ys:List Nat) (o:Nat) (zs:List Nat) (c:Nat):Prop :=
 zs.length=zs0.length∧Dig W64 zs∧c≤1∧zs.take o=zs0.take o∧zs.drop (o+ys.length+1)=zs0.drop (o+ys.length+1) ∧
  val W64 (zs.take (o+ys.length+1))+W64^(o+ys.length+1)*c=val W64 (zs0.take (o+ys.length+1))+W64^o*val W64 ys
theorem AbR.done {a ys d:List Nat}{o c z:Nat}(h:AbR a ys o ys.length d c)(j:o+ys.length<a.length)(f:d[o+ys.length]?.getD 0=z):Zel a ys o (d.set (o+ys.length) (xI z 0 c)) (xO z 0 c):=by
 obtain⟨l,g,m,n,i,p⟩:=h
 have q:a[o+ys.length]?.getD 0=z:=(Zac i).symm.trans f
 refine⟨by simpa using l,g.set _ (dX _ _ _),ZcX (f ▸ g.getD zM _) zM m,?_,?_,?_⟩
 ·rw[sU (by omega)];exact n
 ·have e:=vP (List.drop 1) i
  rw[vM,vM] at e
  rw[vX (by omega)];exact e
 rw[uA (uM ys.length)] at p
 rw[xL _ _ _ _ (by omega),zR _ j,q,uO]
 have b:=vP (W64^(o+ys.length) * ·) (fR z 0 c)
 simp only[uN] at b
 rw[uG (W64^(o+ys.length)) W64]
 omega
theorem ZkX (A:Option Addr)(xs:List Nat)(c:Nat)(w:World)(l:zF .u64 w A xs)(p:xs.length≤4294967296)(g:Dig W64 xs)(m:Trim xs) :
 yA 65 #[.slice A xs.length c] w (RetV w (.int .i64 ((blen (val W64 xs):Nat):Int))):=by
 refine zV (Φ:=fun w=>zF .u64 w A xs) Tryz.func65 rfl (by kernel_rfl) (fun w' n=>l.ext n) ?_
 refine zC (zB (xq 1 [yJ 2 0] [] ?_))
 refine xe (zA (zC (zC (zB (xq 3 [yB 5 ((((xs.length:Nat):Int):Int) == 0)] [] ?_)))))
 refine xe (zA ?_)
 refine yQ (((((xs.length:Nat):Int):Int) == 0)) (fun d=>?_) fun d=>?_
 ·have f:=tY.1 d
  refine zC (zB (xq 1 [yJ 2 0] [] ?_))
  refine xe (zA (zG (zI ?_)))
  refine yR (.int .i64 0) fun w' R Q=>?_
  exact⟨by obtain rfl:xs=[]:=tI.1 (by omega);rfl,R⟩
 have f:=wY d
 refine zN (zA (zC (zB (xq 3 [yJ 8 (IntKind.i64.wrap (((xs.length:Nat):Int)-1))] [] ?_))))
 rw[yW (((xs.length:Nat):Int)-1) (((xs.length-1:Nat):Int)) (by omega)]
 refine xq 1 [yJ 9 (IntKind.i64.wrap (64*((xs.length-1:Nat):Int)))] [] ?_
 rw[yW (64*((xs.length-1:Nat):Int)) (((64*(xs.length-1):Nat):Int)) (by omega)]
 refine xq 4 [eS1 10 A xs.length c,yJ 13 (IntKind.i64.wrap (((xs.length:Nat):Int)-1))] [] ?_
 rw[yW (((xs.length:Nat):Int)-1) (((xs.length-1:Nat):Int)) (by omega)]
 refine xqk 14 (atA A (xs.length-1)) (fun w R Q=>wJ (t:=77) (e:=94) (x:=.tmp 10) (ix:=.tmp 13) (len:=xs.length) (cap:=c) (i:=xs.length-1) ((Q).ne (j:=xs.length-1) (by omega)) (by omega)) ?_
 obtain⟨a,b⟩:=yE (xs[xs.length-1]?.getD 0)
 refine xqk 15 (.int .u64 (a:Int)) (fun w R Q=>by rw[←b];exact lF (t:=94) (x:=.tmp 14) (Q) (j:=xs.length-1) (by omega)) ?_
 refine xqc 105 [.int .u64 (a:Int)] 16 (fun _:Unit=>.int .i64 ((blen a:Nat):Int)) _ (fun w R Q=>yN (ZnU a _ (by rw[←b];exact g.getD zM _))) fun q=>?_
 refine xq 1 [(17,.v (.int .i64 (IntKind.i64.wrap (((64*(xs.length-1):Nat):Int)+((blen a:Nat):Int)))))] [] ?_
 rw[show IntKind.i64.wrap (((64*(xs.length-1):Nat):Int)+((blen a:Nat):Int))=((blen (val W64 xs):Nat):Int) by rw[Zfl (k:=xs.length-1) g (by omega) m b,IntKind.wrap_i64];have:=xF.2 (show a<2^64 by have h:a<W64:=(by rw[←b];exact g.getD zM _);rw[zO] at h;exact h);omega]
 refine xq 1 [yJ 2 ((blen (val W64 xs):Nat):Int)] [] ?_
 refine xe (zA (zG ?_))
 refine yR (.int .i64 ((blen (val W64 xs):Nat):Int)) fun w' R Q=>?_
 exact⟨rfl,R⟩
theorem ZmE (A:Option Addr)(xs:List Nat)(c:Nat)(w:World)(s:zF .u64 w A xs)(z:xs.length≤4294967296)(m:Dig W64 xs)(u:Glob w)(v:0<val W64 xs) :
 yA 157 #[.slice A xs.length c] w (RetV w (.int .i64 ((tzn (val W64 xs):Nat):Int))):=by
 refine zV (Φ:=fun w=>(zF .u64 w A xs∧Glob w)) Tryz.func157 rfl (by kernel_rfl) (fun w' p=>⟨s.ext p,u.ext p⟩) ?_
 refine zC (zB (xq 1 [yJ 2 0] [] ?_))
 refine xe (zA (zC (zB (xq 1 [yJ 3 0] [] ?_))))
 refine xe (zA (zC (xM ?_)))
 refine yC [eS1 0 A xs.length c,yJ 2 0,yJ 3 ((0:Nat):Int)] [] (fun w=>(zF .u64 w A (xs)∧Glob w)) (fun w Q=>⟨Q.1,Q.2⟩) ?_
 refine kW (fun nn q r=>∃ (k:Nat),q=ofL [eS1 0 A xs.length c,yJ 2 0,yJ 3 (k:Int)] []∧r=(fun w=>(zF .u64 w A (xs)∧Glob w))∧(ZerR xs k)∧nn=(xs.length-k)) ((xs.length-0)) ⟨0,rfl,rfl,ZerR.start xs,rfl⟩ ?_
 rintro nn q r ⟨k,rfl,rfl,n,rfl⟩
 refine zC (zC ?_)
 have h:=n.lt v
 refine zB (xq 2 [eS1 4 A xs.length c,yJ 5 (k:Int)] [] ?_)
 refine xqk 6 (atA A k) (fun w R Q=>wJ (t:=77) (e:=94) (x:=.tmp 4) (ix:=.tmp 5) (len:=xs.length) (cap:=c) (i:=k) ((Q.1).ne (j:=k) (by omega)) (by omega)) ?_
 obtain⟨b,a⟩:=yE (xs[k]?.getD 0)
 refine xqk 7 (.int .u64 (b:Int)) (fun w R Q=>by rw[←a];exact lF (t:=94) (x:=.tmp 6) (Q.1) (j:=k) (by omega)) ?_
 refine xq 1 [yB 8 (((b:Int):Int) == 0)] [] ?_
 refine xe (zA ?_)
 refine yQ ((((b:Int):Int) == 0)) (fun d=>?_) fun d=>?_
 ·have g:=tY.1 d
  refine zN (zA (xM (zB (xq 2 [yJ 10 (IntKind.i64.wrap ((k:Int)+1))] [] ?_))))
  rw[yW ((k:Int)+1) (((k+1:Nat):Int)) (by omega)]
  refine xq 1 [yJ 3 ((k+1:Nat):Int)] [] ?_
  refine xe (lN ?_)
  refine yP [eS1 0 A xs.length c,yJ 2 0,yJ 3 (((k+1):Nat):Int)] [] (fun w=>(zF .u64 w A (xs)∧Glob w)) (fun w Q=>⟨Q.1,Q.2⟩) ?_
  exact lE ((xs.length-(k+1))) (by omega) ⟨(k+1),rfl,rfl,(n.step h (by rw[a];omega)),rfl⟩
 have g:=wY d
 refine lO (xC (xC (kQ (zA (zC (zB (xq 2 [yJ 12 (IntKind.i64.wrap (64*(k:Int)))] [] ?_)))))))
 rw[yW (64*(k:Int)) (((64*k:Nat):Int)) (by omega)]
 refine xq 2 [eS1 13 A xs.length c,yJ 14 (k:Int)] [] ?_
 refine xqk 15 (atA A k) (fun w R Q=>wJ (t:=77) (e:=94) (x:=.tmp 13) (ix:=.tmp 14) (len:=xs.length) (cap:=c) (i:=k) ((Q.1).ne (j:=k) (by omega)) (by omega)) ?_
 obtain⟨l,f⟩:=yE (xs[k]?.getD 0)
 refine xqk 16 (.int .u64 (l:Int)) (fun w R Q=>by rw[←f];exact lF (t:=94) (x:=.tmp 15) (Q.1) (j:=k) (by omega)) ?_
 obtain rfl:b=l:=by rw[←a,f]
 refine xqc 186 [.int .u64 (b:Int)] 17 (fun _:Unit=>.int .i64 ((tzn b:Nat):Int)) _ (fun w R Q=>yN (Zpp b _ Q.2 (by omega) (by rw[←a];exact m.getD zM _))) fun B=>?_
 refine xq 1 [yJ 18 (IntKind.i64.wrap (((64*k:Nat):Int)+((tzn b:Nat):Int)))] [] ?_
 rw[show IntKind.i64.wrap (((64*k:Nat):Int)+((tzn b:Nat):Int))=((tzn (val W64 xs):Nat):Int) by rw[n.done m h a (by omega),IntKind.wrap_i64];have:=ZerR.bound m a (by omega);omega]
 refine xq 1 [yJ 2 ((tzn (val W64 xs):Nat):Int)] [] ?_
 refine xe (zA (zG ?_))
 refine yR (.int .i64 ((tzn (val W64 xs):Nat):Int)) fun w' R Q=>?_
 exact⟨rfl,R⟩
theorem Zpr (A:Option Addr)(xs:List Nat)(c:Nat)(w:World)(m:zF .u64 w A xs)(l:Dig W64 xs)(i:Nat)(hi:i≤274877906944) :
 yA 158 #[.slice A xs.length c,.int .i64 ((i:Nat):Int)] w (RetV w (.bool (decide (val W64 xs/2^i%2=1)))):=by
 refine zV (Φ:=fun w=>zF .u64 w A xs) Tryz.func158 rfl (by kernel_rfl) (fun w' p=>m.ext p) ?_
 refine zC (zB (xq 1 [yB 4 false] [] ?_))
 refine xe (zA (zC (zB (xq 2 [(6,.v (.int .i64 (IntKind.i64.wrap (((i:Int)).tdiv 64))))] [] ?_))))
 rw[show IntKind.i64.wrap ((((i:Int)).tdiv 64))=((i/64:Nat):Int) from tdq (i) 64 (by omega)]
 refine xq 4 [yB 10 (decide (((i/64:Nat):Int)<((xs.length:Nat):Int)))] [] ?_
 rcases bl2 ((decide (((i/64:Nat):Int)<((xs.length:Nat):Int)))) with b|b
 ·rw[b]
  have g:=uD b
  have h:i/64<xs.length:=by omega
  refine xq 3 [eS1 11 A xs.length c,(13,.v (.int .i64 (IntKind.i64.wrap (((i:Int)).tdiv 64))))] [] ?_
  rw[show IntKind.i64.wrap ((((i:Int)).tdiv 64))=((i/64:Nat):Int) from tdq (i) 64 (by omega)]
  refine xqk 14 (atA A (i/64)) (fun w R Q=>wJ (t:=77) (e:=94) (x:=.tmp 11) (ix:=.tmp 13) (len:=xs.length) (cap:=c) (i:=i/64) ((Q).ne (j:=i/64) (by omega)) (by omega)) ?_
  obtain⟨d,f⟩:=yE (xs[i/64]?.getD 0)
  refine xqk 15 (.int .u64 (d:Int)) (fun w R Q=>by rw[←f];exact lF (t:=94) (x:=.tmp 14) (Q) (j:=i/64) (by omega)) ?_
  refine xq 2 [yJ 17 (((i:Int)).tmod 64)] [] ?_
  rw[show ((i:Int)).tmod 64=((i%64:Nat):Int) from tdr (i) 64]
  refine xqk 18 (.int .u64 ((d/2^(i%64):Nat):Int)) (fun w R Q=>ZjL (t:=94) (x:=.tmp 15) (y:=.tmp 17) (k:=3) (ky:=.i64) (a:=d) (n:=(i%64)) (by omega)) ?_
  refine xqk 19 (.int .u64 (((d/2^(i%64))%2:Nat):Int)) (fun w R Q=>ZqC (t:=94) (x:=.tmp 18) (y:=(Operand.const (Value.int IntKind.u64 1))) (k:=94) (a:=(d/2^(i%64))) (ha:=vE (uZ _ _) (by rw[←f];exact l.getD zM _))) ?_
  refine xq 1 [(20,.v (.bool (((((d/2^(i%64))%2:Nat):Int):Int) == 1)))] [] ?_
  rw[show ((((d/2^(i%64))%2:Nat):Int) == 1)=decide (val W64 xs/2^i%2=1) from (Zrz _).trans (by rw[ZqE l h f])]
  refine xq 2 [yB 4 (decide (val W64 xs/2^i%2=1))] [] ?_
  refine xe (zA (zG ?_))
  refine yR (.bool (decide (val W64 xs/2^i%2=1))) fun w' R Q=>?_
  exact⟨rfl,R⟩
 rw[b]
 have g:=uH b
 have h:¬ i/64<xs.length:=by omega
 refine xq 12 [yB 4 false] [] ?_
 refine xe (zA (zG ?_))
 refine yR (.bool false) fun w' R Q=>?_
 exact⟨by rw[Zpq l h];rfl,R⟩
theorem ZqF {xs ys:List Nat}{j x y:Nat}(b:j<xs.length)(c:j<ys.length)(h:xs.drop (j+1)=ys.drop (j+1))(ex:xs[j]?.getD 0=x)(a:ys[j]?.getD 0=y)(e:x=y):xs.drop j=ys.drop j:=by
 subst e
 rw[tJ b,tJ c,h]
 rw[List.getElem?_eq_getElem b] at ex
 rw[List.getElem?_eq_getElem c] at a
 simp only[rP] at ex a
 rw[ex,a]
theorem ZjO (A d:Option Addr)(xs ys:List Nat)(c c2:Nat)(w:World)(O:zF .u64 w A xs)(S:zF .u64 w d ys)(U:xs.length≤4294967296)(G:Dig W64 xs)(H:Dig W64 ys)(I:Trim xs)(J:Trim ys) :
 yA 122 #[.slice A xs.length c,.slice d ys.length c2] w (RetV w (.int .i64 (cmpI ((val W64 xs:Nat):Int) ((val W64 ys:Nat):Int)))):=by
 refine zV (Φ:=fun w=>(zF .u64 w A xs∧zF .u64 w d ys)) Tryz.func122 rfl (by kernel_rfl) (fun w' K=>⟨O.ext K,S.ext K⟩) ?_
 refine zC (zB (xq 1 [yJ 4 0] [] ?_))
 refine xe (zA (zC (zC (zB (xq 5 [yB 10 ((((xs.length:Nat):Int):Int) != ((ys.length:Nat):Int))] [] ?_)))))
 refine xe (zA ?_)
 refine yQ (((((xs.length:Nat):Int):Int) != ((ys.length:Nat):Int))) (fun h=>?_) fun h=>?_
 ·have s:=ZaX h
  refine zC (zC (zB (xq 5 [yB 15 (decide (((xs.length:Nat):Int)<((ys.length:Nat):Int)))] [] ?_)))
  refine xe (zA ?_)
  refine yQ ((decide (((xs.length:Nat):Int)<((ys.length:Nat):Int)))) (fun l=>?_) fun l=>?_
  ·have u:=uD l
   refine zC (zB (xq 1 [yJ 4 (-1)] [] ?_))
   refine xe (zA (zG (zI (zI ?_))))
   refine yR (.int .i64 (-1)) fun w' R Q=>?_
   exact⟨by rw[←Zg5 G H I J (by omega),jS (by omega)],R⟩
  have u:=uH l
  refine zN (zA (zC (zB (xq 1 [yJ 4 1] [] ?_))))
  refine xe (zA (zG (zI ?_)))
  refine yR (.int .i64 1) fun w' R Q=>?_
  exact⟨by rw[←Zg5 G H I J (by omega),iO (by omega)],R⟩
 have s:=ZaY h
 refine zN (zA (zC (zC (zB (xq 3 [yJ 18 (IntKind.i64.wrap (((xs.length:Nat):Int)-1))] [] ?_)))))
 rw[yW (((xs.length:Nat):Int)-1) (((xs.length:Nat):Int)-1) (by omega)]
 refine xq 1 [yJ 5 (((xs.length:Nat):Int)-1)] [] ?_
 refine xe (zA (xM ?_))
 refine yC [eS1 0 A xs.length c,eS1 1 d ys.length c2,yJ 4 0,yJ 5 (((xs.length:Nat):Int)-1)] [] (fun w=>(zF .u64 w A (xs)∧zF .u64 w d (ys))) (fun w Q=>⟨Q.1,Q.2⟩) ?_
 refine kW (fun nn L M=>∃ (k:Nat),L=ofL [eS1 0 A xs.length c,eS1 1 d ys.length c2,yJ 4 0,yJ 5 ((k:Int)-1)] []∧M=(fun w=>(zF .u64 w A (xs)∧zF .u64 w d (ys)))∧(xs.drop k=ys.drop k)∧(k≤xs.length)∧nn=(1+k)) ((1+xs.length)) ⟨xs.length,rfl,rfl,(by rw[uX (uM _),uX (by omega)]),uM _,rfl⟩ ?_
 rintro nn L M ⟨k,rfl,rfl,D,V,rfl⟩
 refine zC (zC (zB (xq 2 [(20,.v (.bool (decide (((k:Int)-1)≥0))))] [] ?_)))
 refine xe (zA ?_)
 refine yQ ((decide (((k:Int)-1)≥0))) (fun m=>?_) fun m=>?_
 ·have z:=uD m
  obtain⟨j,rfl⟩:∃ j,k=j+1:=⟨k-1,by omega⟩
  rw[show ((((j+1):Nat):Int)-1)=(j:Int) by omega]
  refine zN (zA (zC (xM (zC ?_))))
  refine yO 9 zL ?_
  refine xqf 2 [eS1 23 A xs.length c,yJ 24 (j:Int)] [] ?_
  refine xqj 25 (atA A j) (fun w Q=>wJ (t:=77) (e:=94) (x:=.tmp 23) (ix:=.tmp 24) (len:=xs.length) (cap:=c) (i:=j) ((Q.1).ne (j:=j) (by omega)) (by omega)) ?_
  obtain⟨f,a⟩:=yE (xs[j]?.getD 0)
  refine xqj 26 (.int .u64 (f:Int)) (fun w Q=>by rw[←a];exact lF (t:=94) (x:=.tmp 25) (Q.1) (j:=j) (by omega)) ?_
  refine xqf 2 [eS1 27 d ys.length c2,yJ 28 (j:Int)] [] ?_
  refine xqj 29 (atA d j) (fun w Q=>wJ (t:=77) (e:=94) (x:=.tmp 27) (ix:=.tmp 28) (len:=ys.length) (cap:=c2) (i:=j) ((Q.2).ne (j:=j) (by omega)) (by omega)) ?_
  obtain⟨g,b⟩:=yE (ys[j]?.getD 0)
  refine xqj 30 (.int .u64 (g:Int)) (fun w Q=>by rw[←b];exact lF (t:=94) (x:=.tmp 29) (Q.2) (j:=j) (by omega)) ?_
  refine xqf 1 [yB 31 (((f:Int):Int) != (g:Int))] [] ?_
  refine xz (xe (zA ?_))
  refine yQ ((((f:Int):Int) != (g:Int))) (fun n=>?_) fun n=>?_
  ·have B:=ZaX n
   refine zC (zC ?_)
   refine yO 9 zL ?_
   refine xqf 2 [eS1 32 A xs.length c,yJ 33 (j:Int)] [] ?_
   refine xqj 34 (atA A j) (fun w Q=>wJ (t:=77) (e:=94) (x:=.tmp 32) (ix:=.tmp 33) (len:=xs.length) (cap:=c) (i:=j) ((Q.1).ne (j:=j) (by omega)) (by omega)) ?_
   obtain⟨E,q⟩:=yE (xs[j]?.getD 0)
   refine xqj 35 (.int .u64 (E:Int)) (fun w Q=>by rw[←q];exact lF (t:=94) (x:=.tmp 34) (Q.1) (j:=j) (by omega)) ?_
   obtain rfl:f=E:=by rw[←a,q]
   refine xqf 2 [eS1 36 d ys.length c2,yJ 37 (j:Int)] [] ?_
   refine xqj 38 (atA d j) (fun w Q=>wJ (t:=77) (e:=94) (x:=.tmp 36) (ix:=.tmp 37) (len:=ys.length) (cap:=c2) (i:=j) ((Q.2).ne (j:=j) (by omega)) (by omega)) ?_
   obtain⟨F,r⟩:=yE (ys[j]?.getD 0)
   refine xqj 39 (.int .u64 (F:Int)) (fun w Q=>by rw[←r];exact lF (t:=94) (x:=.tmp 38) (Q.2) (j:=j) (by omega)) ?_
   obtain rfl:g=F:=by rw[←b,r]
   refine xqf 1 [yB 40 (decide ((f:Int)<(g:Int)))] [] ?_
   refine xz (xe (zA ?_))
   refine yQ ((decide ((f:Int)<(g:Int)))) (fun p=>?_) fun p=>?_
   ·have C:=uD p
    refine zC (zB (xq 1 [yJ 4 (-1)] [] ?_))
    refine xe (zA (zG (zI (wU (zI (zI (wU (zI ?_))))))))
    refine yR (.int .i64 (-1)) fun w' R Q=>?_
    exact⟨by rw[←ZdS G H (by omega) (k:=j) (by omega) D a b (by omega),jS (by omega)],R⟩
   have C:=uH p
   refine zN (zA (zC (zB (xq 1 [yJ 4 1] [] ?_))))
   refine xe (zA (zG (wU (zI (zI (wU (zI ?_)))))))
   refine yR (.int .i64 1) fun w' R Q=>?_
   exact⟨by rw[←ZdS G H (by omega) (k:=j) (by omega) D a b (by omega),iO (by omega)],R⟩
  have B:=ZaY n
  have T:xs.drop j=ys.drop j:=ZqF (by omega) (by omega) D a b (by omega)
  refine zN (lN (zA (zB (xq 2 [yJ 22 (IntKind.i64.wrap ((j:Int)-1))] [] ?_))))
  rw[yW ((j:Int)-1) ((j:Int)-1) (by omega)]
  refine xq 1 [yJ 5 ((j:Int)-1)] [] ?_
  refine xe ?_
  refine yP [eS1 0 A xs.length c,eS1 1 d ys.length c2,yJ 4 0,yJ 5 ((j:Int)-1)] [] (fun w=>(zF .u64 w A (xs)∧zF .u64 w d (ys))) (fun w Q=>⟨Q.1,Q.2⟩) ?_
  exact lE ((1+j)) (by omega) ⟨j,rfl,rfl,T,by omega,rfl⟩
 have z:=uH m
 obtain rfl:k=0:=by omega
 refine lO (xC (xC (kQ (zA (zC (zB (xq 1 [yJ 4 0] [] ?_)))))))
 refine xe (zA (zG ?_))
 refine yR (.int .i64 0) fun w' R Q=>?_
 exact⟨by rw[tS,tS] at D;rw[D,ZaP],R⟩
def ZrA (b:Nat) (xs:List Nat) (u:Nat) (w:World) (e:Ending) (w':World):Prop:=∃ qs,e=.returned (.int .u64 ((val W64 xs%u:Nat):Int))∧(qs.length=xs.length∧Dig W64 qs∧val W64 qs=val W64 xs/u)∧Fr (fun i=>i=b) w w'∧Own .u64 94 w' b qs
theorem Zcg (b c:Nat)(xs:List Nat)(u:Nat)(w:World)(m:Own .u64 94 w b xs)(C:xs.length≤4294967296)(s:Dig W64 xs)(z:0<u)(n:u<W64) :
 yA 108 #[.slice (some ⟨b,0,none⟩) xs.length c,.int .u64 ((u:Nat):Int)] w (ZrA b xs u w):=by
 refine aN (fun i=>i=b) (Φ:=fun w=>Own .u64 94 w b xs) Tryz.func108 rfl (by kernel_rfl) (fun w' A=>m.ext A) ?_
 refine zC (zB (xq 1 [yU 4 0] [] ?_))
 refine xe (zA (zC (zB (xq 1 [yU 5 0] [] ?_))))
 refine xe (zA (zC (zC (zB (xq 3 [yJ 9 (IntKind.i64.wrap (((xs.length:Nat):Int)-1))] [] ?_)))))
 rw[yW (((xs.length:Nat):Int)-1) (((xs.length:Nat):Int)-1) (by omega)]
 refine xq 1 [yJ 6 (((xs.length:Nat):Int)-1)] [] ?_
 refine xe (zA (xM ?_))
 refine yC [eS1 0 (some ⟨b,0,none⟩) xs.length c,yU 1 (u:Int),yU 4 0,yU 5 ((0:Nat):Int),yJ 6 (((xs.length:Nat):Int)-1)] [] (fun w=>Own .u64 94 w b (xs)) (fun w Q=>Q) ?_
 refine kW (fun nn p q=>∃ (k:Nat) (r:Nat) (h:List Nat),p=ofL [eS1 0 (some ⟨b,0,none⟩) xs.length c,yU 1 (u:Int),yU 4 0,yU 5 (r:Int),yJ 6 ((k:Int)-1)] []∧q=(fun w=>Own .u64 94 w b (h))∧(DwR xs u k h r)∧(k≤xs.length)∧nn=(1+k)) ((1+xs.length)) ⟨xs.length,0,xs,rfl,rfl,DwR.start s z,uM _,rfl⟩ ?_
 rintro nn p q ⟨k,r,h,rfl,rfl,g,D,rfl⟩
 refine zC (zC (zB (xq 2 [(11,.v (.bool (decide (((k:Int)-1)≥0))))] [] ?_)))
 refine xe (zA ?_)
 refine yQ ((decide (((k:Int)-1)≥0))) (fun f=>?_) fun f=>?_
 ·have l:=uD f
  obtain⟨j,rfl⟩:∃ j,k=j+1:=⟨k-1,by omega⟩
  rw[show ((((j+1):Nat):Int)-1)=(j:Int) by omega]
  have B:=g.1.1
  refine zN (zA (zC (xM (zB (xq 5 [eS1 15 (some ⟨b,0,none⟩) xs.length c,yJ 16 (j:Int),yU 17 (r:Int),eS1 18 (some ⟨b,0,none⟩) xs.length c,yJ 19 (j:Int)] [] ?_)))))
  refine xqk 20 (.pointer (some ⟨b,j,none⟩)) (fun w R Q=>kR (t:=77) (e:=94) (x:=.tmp 18) (ix:=.tmp 19) (len:=xs.length) (cap:=c) (i:=j) (by omega)) ?_
  obtain⟨a,d⟩:=yE (h[j]?.getD 0)
  refine xqk 21 (.int .u64 (a:Int)) (fun w R Q=>by rw[←d];exact fD (t:=94) (x:=.tmp 20) (Q) (j:=j) (by omega)) ?_
  refine xq 1 [yU 22 (u:Int)] [] ?_
  refine xqc 149 [.int .u64 (r:Int),.int .u64 (a:Int),.int .u64 (u:Int)] 23 (fun _:Unit=>.tuple #[.int .u64 ((divQ r a u:Nat):Int),.int .u64 ((divR r a u:Nat):Int)]) _ (fun w R Q=>yN (Zic r a u _ g.1.2.2.1 n (by rw[←d];exact g.1.2.1.getD zM _))) fun E=>?_
  refine xq 3 [yU 24 ((divQ r a u:Nat):Int),yU 25 ((divR r a u:Nat):Int)] [] ?_
  refine xqk 26 (.pointer (some ⟨b,j,none⟩)) (fun w R Q=>kR (t:=77) (e:=94) (x:=.tmp 15) (ix:=.tmp 16) (len:=xs.length) (cap:=c) (i:=j) (by omega)) ?_
  refine iL (t:=94) (x:=.tmp 26) (y:=.tmp 24) b (j) (divQ r a u) (fun w=>(Own .u64 94 w b ((h).set (j) (divQ r a u))∧True)) (fun w Q=>Q.1) (by omega) (Or.inr rfl) (fun w w' Q F m=>⟨m,trivial⟩) ?_
  refine xq 1 [yU 5 ((divR r a u:Nat):Int)] [] ?_
  refine xe (lN (zA (zB (xq 2 [yJ 13 (IntKind.i64.wrap ((j:Int)-1))] [] ?_))))
  rw[yW ((j:Int)-1) ((j:Int)-1) (by omega)]
  refine xq 1 [yJ 6 ((j:Int)-1)] [] ?_
  refine xe ?_
  refine yP [eS1 0 (some ⟨b,0,none⟩) xs.length c,yU 1 (u:Int),yU 4 0,yU 5 (((divR r a u):Nat):Int),yJ 6 ((j:Int)-1)] [] (fun w=>Own .u64 94 w b (((h).set (j) (divQ r a u)))) (fun w Q=>Q.1) ?_
  exact lE ((1+j)) (by omega) ⟨j,(divR r a u),((h).set (j) (divQ r a u)),rfl,rfl,(g.step (by omega) d (by rw[←d];exact g.1.2.1.getD zM _)),by omega,rfl⟩
 have l:=uH f
 obtain rfl:k=0:=by omega
 refine lO (xC (xC (kQ (zA (zC (zB (xq 2 [yU 4 (r:Int)] [] ?_)))))))
 refine xe (zA (zG ?_))
 refine yR (.int .u64 (r:Int)) fun w' R Q=>?_
 exact⟨h,by rw[g.1.done.2],⟨g.1.1,g.1.2.1,g.1.done.1⟩,R,Q⟩
def ZlG (b:Nat) (w:World) (p:List Nat→Nat→Prop) (e:Ending) (w':World):Prop:=∃ x:List Nat × Nat,e=.returned (.bool (((x.2:Nat):Int) == 1))∧p x.1 x.2∧Fr (fun i=>i=b) w w'∧Own .u64 94 w' b x.1
theorem ZjP (b c o:Nat)(m ys:List Nat)(A:Option Addr)(c2:Nat)(w:World)(C:Own .u64 94 w b m)(O:zF .u64 w A ys)(J:∀ a,A=some a→a.block≠b)(T:o+ys.length<m.length)(U:m.length≤4294967296)(S:Dig W64 m)(D:Dig W64 ys)(q:Nat)(E:q<W64) :
 yA 199 #[.slice (some ⟨b,o,none⟩) (ys.length+1) c,.slice A ys.length c2,.int .u64 ((q:Nat):Int)] w (ZlG b w (Zek m ys q o)):=by
 refine aN (fun i=>i=b) (Φ:=fun w=>(Own .u64 94 w b m∧zF .u64 w A ys)) Tryz.func199 rfl (by kernel_rfl) (fun w' K=>⟨C.ext K,O.ext K⟩) ?_
 refine zC (zB (xq 1 [yB 6 false] [] ?_))
 refine xe (zA (zC (zB (xq 2 [yU 7 0,yU 8 0] [] ?_))))
 refine xe (zA (zC (zC (zB (xq 3 [eS1 14 A ys.length c2,yJ 15 ((ys.length:Nat):Int),yJ 16 0] [] ?_)))))
 refine xe (zA (xM ?_))
 refine yC [eS1 0 (some ⟨b,o,none⟩) (ys.length+1) c,eS1 1 A ys.length c2,yU 2 (q:Int),yB 6 false,yU 7 ((0:Nat):Int),yU 8 ((0:Nat):Int),eS1 14 A ys.length c2,yJ 15 ((ys.length:Nat):Int),yJ 16 ((0:Nat):Int)] [] (fun w=>(Own .u64 94 w b (m)∧zF .u64 w A (ys))) (fun w Q=>⟨Q.1,Q.2⟩) ?_
 refine kW (fun nn L M=>∃ (f g k:Nat) (r:List Nat),L=ofL [eS1 0 (some ⟨b,o,none⟩) (ys.length+1) c,eS1 1 A ys.length c2,yU 2 (q:Int),yB 6 false,yU 7 (f:Int),yU 8 (g:Int),eS1 14 A ys.length c2,yJ 15 ((ys.length:Nat):Int),yJ 16 (k:Int)] []∧M=(fun w=>(Own .u64 94 w b (r)∧zF .u64 w A (ys)))∧(SpR m ys q o k r f g)∧(k≤ys.length)∧nn=(ys.length-k)) ((ys.length-0)) ⟨0,0,0,m,rfl,rfl,SpR.start ys q o S,by omega,rfl⟩ ?_
 rintro nn L M ⟨f,g,k,r,rfl,rfl,z,V,rfl⟩
 refine zC (zB (xq 1 [yB 17 (decide ((k:Int)<((ys.length:Nat):Int)))] [] ?_))
 refine xe (zA (zC ?_))
 refine yQ ((decide ((k:Int)<((ys.length:Nat):Int)))) (fun p=>?_) fun p=>?_
 ·have B:=uD p
  have F:=z.1
  have G:=z.2.2.2.1
  refine zN (zA (zC (xM (zC (zB (xq 1 [yJ 18 (k:Int)] [] ?_))))))
  refine xqk 19 (atA A k) (fun w R Q=>wJ (t:=77) (e:=94) (x:=.tmp 14) (ix:=.tmp 16) (len:=ys.length) (cap:=c2) (i:=k) ((Q.2).ne (j:=k) (by omega)) (by omega)) ?_
  obtain⟨d,n⟩:=yE (ys[k]?.getD 0)
  refine xqk 20 (.int .u64 (d:Int)) (fun w R Q=>by rw[←n];exact lF (t:=94) (x:=.tmp 19) (Q.2) (j:=k) (by omega)) ?_
  refine xq 2 [yJ 9 (k:Int),yU 10 (d:Int)] [] ?_
  refine xe (zA (zC (zB (xq 2 [yU 22 (d:Int),yU 23 (q:Int)] [] ?_))))
  refine xqc 145 [.int .u64 (d:Int),.int .u64 (q:Int)] 24 (fun _:Unit=>.tuple #[.int .u64 ((wI d q:Nat):Int),.int .u64 ((xE d q:Nat):Int)]) _ (fun w R Q=>yN (Zei d q _ (by rw[←n];exact D.getD zM _) E)) fun W=>?_
  refine xq 5 [yU 11 ((wI d q:Nat):Int),yU 12 ((xE d q:Nat):Int)] [] ?_
  refine xe (zA (zC (zB (xq 2 [yU 28 ((xE d q:Nat):Int),yU 29 (f:Int)] [] ?_))))
  refine xqk 30 (.tuple #[.int .u64 ((xI (xE d q) f 0:Nat):Int),.int .u64 ((xO (xE d q) f 0:Nat):Int)]) (fun w R Q=>eI (args:=[Operand.tmp 28,Operand.tmp 29,Operand.const (Value.int IntKind.u64 0)]) (ts:=#[94,94,94]) (fH (xE d q) f 0 (by omega) w)) ?_
  refine xq 5 [yU 12 ((xI (xE d q) f 0:Nat):Int),yU 13 ((xO (xE d q) f 0:Nat):Int)] [] ?_
  refine xe (zA (zC (zB (xq 3 [(35,.v (.int .u64 (IntKind.u64.wrap (((wI d q:Nat):Int)+((xO (xE d q) f 0:Nat):Int)))))] [] ?_))))
  rw[Zgz (a:=wI d q) (b:=xO (xE d q) f 0) (ZjN (by rw[←n];exact D.getD zM _) E z.2.2.1)]
  refine xq 1 [yU 7 ((wI d q+xO (xE d q) f 0:Nat):Int)] [] ?_
  refine xe (zA (zB (xq 4 [eS1 37 (some ⟨b,o,none⟩) (ys.length+1) c,yJ 38 (k:Int),eS1 39 (some ⟨b,o,none⟩) (ys.length+1) c,yJ 40 (k:Int)] [] ?_)))
  refine xqk 41 (.pointer (some ⟨b,o+k,none⟩)) (fun w R Q=>iC (t:=77) (e:=94) (x:=.tmp 39) (ix:=.tmp 40) (len:=(ys.length+1)) (cap:=c) (i:=k) (by omega)) ?_
  obtain⟨h,s⟩:=yE (r[o+k]?.getD 0)
  refine xqk 42 (.int .u64 (h:Int)) (fun w R Q=>by rw[←s];exact fD (t:=94) (x:=.tmp 41) (Q.1.1) (j:=o+k) (by omega)) ?_
  refine xq 2 [yU 43 ((xI (xE d q) f 0:Nat):Int),yU 44 (g:Int)] [] ?_
  refine xqk 45 (.tuple #[.int .u64 ((lJ h (xI (xE d q) f 0) g:Nat):Int),.int .u64 ((lK h (xI (xE d q) f 0) g:Nat):Int)]) (fun w R Q=>eI (args:=[Operand.tmp 42,Operand.tmp 43,Operand.tmp 44]) (ts:=#[94,94,94]) (fI h (xI (xE d q) f 0) g (by omega) w)) ?_
  refine xq 3 [yU 46 ((lJ h (xI (xE d q) f 0) g:Nat):Int),yU 47 ((lK h (xI (xE d q) f 0) g:Nat):Int)] [] ?_
  refine xqk 48 (.pointer (some ⟨b,o+k,none⟩)) (fun w R Q=>iC (t:=77) (e:=94) (x:=.tmp 37) (ix:=.tmp 38) (len:=(ys.length+1)) (cap:=c) (i:=k) (by omega)) ?_
  refine iL (t:=94) (x:=.tmp 48) (y:=.tmp 46) b (o+k) (lJ h (xI (xE d q) f 0) g) (fun w=>((Own .u64 94 w b ((r).set (o+k) (lJ h (xI (xE d q) f 0) g))∧zF .u64 w A (ys))∧True)) (fun w Q=>Q.1.1) (by omega) (Or.inr rfl) (fun w w' Q H C=>⟨⟨C,((Q.1.2).fr H (fun a I _=>J a I))⟩,trivial⟩) ?_
  refine xr 1 [eS1 0 (some ⟨b,o,none⟩) (ys.length+1) c,eS1 1 A ys.length c2,yU 2 (q:Int),yB 6 false,yU 7 ((wI d q+xO (xE d q) f 0:Nat):Int),yU 8 ((lK h (xI (xE d q) f 0) g:Nat):Int),eS1 14 A ys.length c2,yJ 15 ((ys.length:Nat):Int),yJ 16 (k:Int)] [] ?_
  refine xe (lN (zA (zB (xq 1 [yJ 49 (IntKind.i64.wrap ((k:Int)+1))] [] ?_))))
  rw[yW ((k:Int)+1) (((k+1:Nat):Int)) (by omega)]
  refine xq 1 [yJ 16 ((k+1:Nat):Int)] [] ?_
  refine xe ?_
  refine yP [eS1 0 (some ⟨b,o,none⟩) (ys.length+1) c,eS1 1 A ys.length c2,yU 2 (q:Int),yB 6 false,yU 7 (((wI d q+xO (xE d q) f 0):Nat):Int),(8,.v (.int .u64 (((lK h (xI (xE d q) f 0) g):Nat):Int))),eS1 14 A ys.length c2,yJ 15 ((ys.length:Nat):Int),yJ 16 (((k+1):Nat):Int)] [] (fun w=>(Own .u64 94 w b (((r).set (o+k) (lJ h (xI (xE d q) f 0) g)))∧zF .u64 w A (ys))) (fun w Q=>⟨Q.1.1,Q.1.2⟩) ?_
  exact lE ((ys.length-(k+1))) (by omega) ⟨(wI d q+xO (xE d q) f 0),(lK h (xI (xE d q) f 0) g),(k+1),((r).set (o+k) (lJ h (xI (xE d q) f 0) g)),rfl,rfl,(z.step (by omega) n s D E),by omega,rfl⟩
 have B:=uH p
 have F:=z.1
 have G:=z.2.2.2.1
 obtain rfl:k=ys.length:=by omega
 refine lO (xC (xC (kQ (zA (zC (zB (xq 6 [eS1 51 (some ⟨b,o,none⟩) (ys.length+1) c,yJ 53 ((ys.length:Nat):Int),eS1 54 (some ⟨b,o,none⟩) (ys.length+1) c,yJ 56 ((ys.length:Nat):Int)] [] ?_)))))))
 refine xqk 57 (.pointer (some ⟨b,o+ys.length,none⟩)) (fun w R Q=>iC (t:=77) (e:=94) (x:=.tmp 54) (ix:=.tmp 56) (len:=(ys.length+1)) (cap:=c) (i:=ys.length) (by omega)) ?_
 obtain⟨l,u⟩:=yE (r[o+ys.length]?.getD 0)
 refine xqk 58 (.int .u64 (l:Int)) (fun w R Q=>by rw[←u];exact fD (t:=94) (x:=.tmp 57) (Q.1) (j:=o+ys.length) (by omega)) ?_
 refine xq 2 [yU 59 (f:Int),yU 60 (g:Int)] [] ?_
 refine xqk 61 (.tuple #[.int .u64 ((lJ l f g:Nat):Int),.int .u64 ((lK l f g:Nat):Int)]) (fun w R Q=>eI (args:=[Operand.tmp 58,Operand.tmp 59,Operand.tmp 60]) (ts:=#[94,94,94]) (fI l f g (by omega) w)) ?_
 refine xq 3 [yU 62 ((lJ l f g:Nat):Int),yU 63 ((lK l f g:Nat):Int)] [] ?_
 refine xqk 64 (.pointer (some ⟨b,o+ys.length,none⟩)) (fun w R Q=>iC (t:=77) (e:=94) (x:=.tmp 51) (ix:=.tmp 53) (len:=(ys.length+1)) (cap:=c) (i:=ys.length) (by omega)) ?_
 refine iL (t:=94) (x:=.tmp 64) (y:=.tmp 62) b (o+ys.length) (lJ l f g) (fun w=>(Own .u64 94 w b ((r).set (o+ys.length) (lJ l f g))∧zF .u64 w A (ys))) (fun w Q=>Q.1) (by omega) (Or.inr rfl) (fun w w' Q H C=>⟨C,((Q.2).fr H (fun a I _=>J a I))⟩) ?_
 refine xq 1 [yU 8 ((lK l f g:Nat):Int)] [] ?_
 refine xe (zA (zC (zB (xq 3 [yB 6 ((((lK l f g:Nat):Int):Int) == 1)] [] ?_))))
 refine xe (zA (zG ?_))
 refine yR (.bool ((((lK l f g:Nat):Int):Int) == 1)) fun w' R Q=>?_
 exact⟨(_,_),rfl,z.done (by omega) u,R,Q.1⟩
theorem ZjQ (b c o:Nat)(l ys:List Nat)(A:Option Addr)(c2:Nat)(w:World)(v:Own .u64 94 w b l)(I:zF .u64 w A ys)(E:∀ a,A=some a→a.block≠b)(L:o+ys.length<l.length)(M:l.length≤4294967296)(J:Dig W64 l)(K:Dig W64 ys) :
 yA 200 #[.slice (some ⟨b,o,none⟩) (ys.length+1) c,.slice A ys.length c2] w (ZlG b w (Zel l ys o)):=by
 refine aN (fun i=>i=b) (Φ:=fun w=>(Own .u64 94 w b l∧zF .u64 w A ys)) Tryz.func200 rfl (by kernel_rfl) (fun w' F=>⟨v.ext F,I.ext F⟩) ?_
 refine zC (zB (xq 1 [yB 4 false] [] ?_))
 refine xe (zA (zC (zB (xq 1 [yU 5 0] [] ?_))))
 refine xe (zA (zC (zC (zB (xq 3 [eS1 8 A ys.length c2,yJ 9 ((ys.length:Nat):Int),yJ 10 0] [] ?_)))))
 refine xe (zA (xM ?_))
 refine yC [eS1 0 (some ⟨b,o,none⟩) (ys.length+1) c,eS1 1 A ys.length c2,yB 4 false,yU 5 ((0:Nat):Int),eS1 8 A ys.length c2,yJ 9 ((ys.length:Nat):Int),yJ 10 ((0:Nat):Int)] [] (fun w=>(Own .u64 94 w b (l)∧zF .u64 w A (ys))) (fun w Q=>⟨Q.1,Q.2⟩) ?_
 refine kW (fun nn G H=>∃ (f k:Nat) (n:List Nat),G=ofL [eS1 0 (some ⟨b,o,none⟩) (ys.length+1) c,eS1 1 A ys.length c2,yB 4 false,yU 5 (f:Int),eS1 8 A ys.length c2,yJ 9 ((ys.length:Nat):Int),yJ 10 (k:Int)] []∧H=(fun w=>(Own .u64 94 w b (n)∧zF .u64 w A (ys)))∧(AbR l ys o k n f)∧(k≤ys.length)∧nn=(ys.length-k)) ((ys.length-0)) ⟨0,0,l,rfl,rfl,AbR.start ys o J,by omega,rfl⟩ ?_
 rintro nn G H ⟨f,k,n,rfl,rfl,u,O,rfl⟩
 refine zC (zB (xq 1 [yB 11 (decide ((k:Int)<((ys.length:Nat):Int)))] [] ?_))
 refine xe (zA (zC ?_))
 refine yQ ((decide ((k:Int)<((ys.length:Nat):Int)))) (fun m=>?_) fun m=>?_
 ·have s:=uD m
  have z:=u.1
  have B:=u.2.2.1
  refine zN (zA (zC (xM (zC (zB (xq 1 [yJ 12 (k:Int)] [] ?_))))))
  refine xqk 13 (atA A k) (fun w R Q=>wJ (t:=77) (e:=94) (x:=.tmp 8) (ix:=.tmp 10) (len:=ys.length) (cap:=c2) (i:=k) ((Q.2).ne (j:=k) (by omega)) (by omega)) ?_
  obtain⟨d,p⟩:=yE (ys[k]?.getD 0)
  refine xqk 14 (.int .u64 (d:Int)) (fun w R Q=>by rw[←p];exact lF (t:=94) (x:=.tmp 13) (Q.2) (j:=k) (by omega)) ?_
  refine xq 2 [yJ 6 (k:Int),yU 7 (d:Int)] [] ?_
  refine xe (zA (zB (xq 4 [eS1 16 (some ⟨b,o,none⟩) (ys.length+1) c,yJ 17 (k:Int),eS1 18 (some ⟨b,o,none⟩) (ys.length+1) c,yJ 19 (k:Int)] [] ?_)))
  refine xqk 20 (.pointer (some ⟨b,o+k,none⟩)) (fun w R Q=>iC (t:=77) (e:=94) (x:=.tmp 18) (ix:=.tmp 19) (len:=(ys.length+1)) (cap:=c) (i:=k) (by omega)) ?_
  obtain⟨g,q⟩:=yE (n[o+k]?.getD 0)
  refine xqk 21 (.int .u64 (g:Int)) (fun w R Q=>by rw[←q];exact fD (t:=94) (x:=.tmp 20) (Q.1) (j:=o+k) (by omega)) ?_
  refine xq 2 [yU 22 (d:Int),yU 23 (f:Int)] [] ?_
  refine xqk 24 (.tuple #[.int .u64 ((xI g d f:Nat):Int),.int .u64 ((xO g d f:Nat):Int)]) (fun w R Q=>eI (args:=[Operand.tmp 21,Operand.tmp 22,Operand.tmp 23]) (ts:=#[94,94,94]) (fH g d f (by omega) w)) ?_
  refine xq 3 [yU 25 ((xI g d f:Nat):Int),yU 26 ((xO g d f:Nat):Int)] [] ?_
  refine xqk 27 (.pointer (some ⟨b,o+k,none⟩)) (fun w R Q=>iC (t:=77) (e:=94) (x:=.tmp 16) (ix:=.tmp 17) (len:=(ys.length+1)) (cap:=c) (i:=k) (by omega)) ?_
  refine iL (t:=94) (x:=.tmp 27) (y:=.tmp 25) b (o+k) (xI g d f) (fun w=>(Own .u64 94 w b ((n).set (o+k) (xI g d f))∧zF .u64 w A (ys))) (fun w Q=>Q.1) (by omega) (Or.inr rfl) (fun w w' Q C v=>⟨v,((Q.2).fr C (fun a D _=>E a D))⟩) ?_
  refine xq 1 [yU 5 ((xO g d f:Nat):Int)] [] ?_
  refine xe (lN (zA (zB (xq 1 [yJ 28 (IntKind.i64.wrap ((k:Int)+1))] [] ?_))))
  rw[yW ((k:Int)+1) (((k+1:Nat):Int)) (by omega)]
  refine xq 1 [yJ 10 ((k+1:Nat):Int)] [] ?_
  refine xe ?_
  refine yP [eS1 0 (some ⟨b,o,none⟩) (ys.length+1) c,eS1 1 A ys.length c2,yB 4 false,yU 5 (((xO g d f):Nat):Int),eS1 8 A ys.length c2,yJ 9 ((ys.length:Nat):Int),yJ 10 (((k+1):Nat):Int)] [] (fun w=>(Own .u64 94 w b (((n).set (o+k) (xI g d f)))∧zF .u64 w A (ys))) (fun w Q=>⟨Q.1,Q.2⟩) ?_
  exact lE ((ys.length-(k+1))) (by omega) ⟨(xO g d f),(k+1),((n).set (o+k) (xI g d f)),rfl,rfl,(u.step (by omega) p q K),by omega,rfl⟩
 have s:=uH m
 have z:=u.1
 have B:=u.2.2.1
 obtain rfl:k=ys.length:=by omega
 refine lO (xC (xC (kQ (zA (zC (zB (xq 6 [eS1 30 (some ⟨b,o,none⟩) (ys.length+1) c,yJ 32 ((ys.length:Nat):Int),eS1 33 (some ⟨b,o,none⟩) (ys.length+1) c,yJ 35 ((ys.length:Nat):Int)] [] ?_)))))))
 refine xqk 36 (.pointer (some ⟨b,o+ys.length,none⟩)) (fun w R Q=>iC (t:=77) (e:=94) (x:=.tmp 33) (ix:=.tmp 35) (len:=(ys.length+1)) (cap:=c) (i:=ys.length) (by omega)) ?_
 obtain⟨h,r⟩:=yE (n[o+ys.length]?.getD 0)
 refine xqk 37 (.int .u64 (h:Int)) (fun w R Q=>by rw[←r];exact fD (t:=94) (x:=.tmp 36) (Q.1) (j:=o+ys.length) (by omega)) ?_
 refine xq 1 [yU 38 (f:Int)] [] ?_
 refine xqk 39 (.tuple #[.int .u64 ((xI h 0 f:Nat):Int),.int .u64 ((xO h 0 f:Nat):Int)]) (fun w R Q=>eI (args:=[Operand.tmp 37,Operand.const (Value.int IntKind.u64 0),Operand.tmp 38]) (ts:=#[94,94,94]) (fH h 0 f (by omega) w)) ?_
 refine xq 3 [yU 40 ((xI h 0 f:Nat):Int),yU 41 ((xO h 0 f:Nat):Int)] [] ?_
 refine xqk 42 (.pointer (some ⟨b,o+ys.length,none⟩)) (fun w R Q=>iC (t:=77) (e:=94) (x:=.tmp 30) (ix:=.tmp 32) (len:=(ys.length+1)) (cap:=c) (i:=ys.length) (by omega)) ?_
 refine iL (t:=94) (x:=.tmp 42) (y:=.tmp 40) b (o+ys.length) (xI h 0 f) (fun w=>(Own .u64 94 w b ((n).set (o+ys.length) (xI h 0 f))∧zF .u64 w A (ys))) (fun w Q=>Q.1) (by omega) (Or.inr rfl) (fun w w' Q C v=>⟨v,((Q.2).fr C (fun a D _=>E a D))⟩) ?_
 refine xq 1 [yU 5 ((xO h 0 f:Nat):Int)] [] ?_
 refine xe (zA (zC (zB (xq 3 [yB 4 ((((xO h 0 f:Nat):Int):Int) == 1)] [] ?_))))
 refine xe (zA (zG ?_))
 refine yR (.bool ((((xO h 0 f:Nat):Int):Int) == 1)) fun w' R Q=>?_
 exact⟨(_,_),rfl,u.done (by omega) r,R,Q.1⟩
noncomputable def win (o n:Nat) (zs:List Nat):Nat:=val W64 ((zs.drop o).take (n+1))
theorem Zau {o n:Nat}{zs:List Nat}(h:o≤zs.length):val W64 (zs.take (o+n+1))=val W64 (zs.take o)+W64^o*win o n zs:=by
 unfold win
 rw[show o+n+1=o+(n+1) by omega,List.take_add,kH,uY,uV h]
theorem ZnV {o n:Nat}{a:List Nat}(b:Dig W64 a):win o n a<W64^(n+1):=by
 have:=xZ ((b.drop o).take (n+1))
 refine uQ this (uR zM (by rw[uY];exact Nat.min_le_left _ _))
def WinR (o n:Nat) (zs0 zs:List Nat):Prop:=zs.length=zs0.length∧Dig W64 zs∧zs.take o=zs0.take o∧zs.drop (o+n+1)=zs0.drop (o+n+1)
theorem WinR.start {o n:Nat}{zs0:List Nat}(h:Dig W64 zs0):WinR o n zs0 zs0:=⟨rfl,h,rfl,rfl⟩
theorem ZgA {o a b c d x:Nat}(h:x+W64^o*a+W64^o*b=x+W64^o*c+W64^o*d):a+b=c+d:=by
 have e:W64^o*(a+b)=W64^o*(c+d):=by rw[uN,uN];omega
 exact Nat.eq_of_mul_eq_mul_left (uT zM) e
theorem Zek.win {a c ys d:List Nat}{q o b:Nat}(h:Zek c ys q o d b)(r:o≤a.length)(k:WinR o ys.length a c):WinR o ys.length a d∧b≤1∧win o ys.length d+q*val W64 ys=win o ys.length c+W64^(ys.length+1)*b:=by
 obtain⟨g,i,j,e,l,f⟩:=h
 obtain⟨m,s,n,p⟩:=k
 refine⟨⟨g.trans m,i,e.trans n,l.trans p⟩,j,?_⟩
 rw[Zau (by omega),Zau (by omega),e,show o+ys.length+1=o+(ys.length+1) by omega,uS,uG (W64^o)] at f
 exact ZgA f
theorem Zel.win {a b ys d:List Nat}{o c:Nat}(h:Zel b ys o d c)(q:o≤a.length)(k:WinR o ys.length a b):WinR o ys.length a d∧c≤1∧win o ys.length d+W64^(ys.length+1)*c=win o ys.length b+val W64 ys:=by
 obtain⟨g,i,j,e,l,f⟩:=h
 obtain⟨m,r,n,p⟩:=k
 refine⟨⟨g.trans m,i,e.trans n,l.trans p⟩,j,?_⟩
 rw[Zau (by omega),Zau (by omega),e,show o+ys.length+1=o+(ys.length+1) by omega,uS,uG (W64^o)] at f
 exact ZgA f
theorem ZqG {o n:Nat}{a:List Nat}{u0 u1 u2:Nat}(f:2≤n)(h:o+n<a.length)(d:a[o+n]?.getD 0=u0)(b:a[o+(n-1)]?.getD 0=u1)(c:a[o+(n-2)]?.getD 0=u2)(e:Dig W64 a) :
 ∃ l,l<W64^(n-2)∧win o n a=l+W64^(n-2)*(u2+W64*(u1+W64*u0)):=by
 obtain⟨m,rfl⟩:∃ m,n=m+2:=⟨n-2,by omega⟩
 refine⟨val W64 ((a.drop o).take m),?_,?_⟩
 ·have:=xZ ((e.drop o).take m)
  rw[uY,vZ,uV (by omega)] at this
  exact this
 unfold win
 simp only[show m+2-1=m+1 by omega,show m+2-2=m by omega] at b c ⊢
 have g:∀ j,(a.drop o)[j]?.getD 0=a[o+j]?.getD 0:=fun j=>by rw[List.getElem?_drop]
 rw[lH (m+2),lH (m+1),lH m,g,g,g,d,b,c]
 simp only[uO,uN,uG,tO]
theorem ZqH {n:Nat}{ys:List Nat}{t v2:Nat}(c:2≤n)(d:ys.length=n)(a:ys[n-1]?.getD 0=t)(b:ys[n-2]?.getD 0=v2):∃ l,val W64 ys=l+W64^(n-2)*(v2+W64*t):=by
 obtain⟨m,rfl⟩:∃ m,n=m+2:=⟨n-2,by omega⟩
 refine⟨val W64 (ys.take m),?_⟩
 simp only[show m+2-1=m+1 by omega,show m+2-2=m by omega] at a b ⊢
 have:=lH (B:=W64) (xs:=ys) (m+1)
 rw[uA (by omega),lH m,a,b,uO] at this
 rw[this]
 simp only[uN,uG,tO]
theorem Zps {B l U V a u0 u1 u2 v2 t:Nat}(f:l<B)(g:U=l+B*(u2+W64*(u1+W64*u0)))(b:V=a+B*(v2+W64*t))(h:u2<W64)(c:0<t):U/V≤divQ u0 u1 t:=by
 unfold divQ
 rw[rM c]
 have i:=rZ U V
 generalize U/V=q at *
 have j:q*(B*(W64*t))≤q*V:=uK _ (by rw[b,uN];omega)
 have d:B*(q*(W64*t))<B*(u2+W64*(u1+W64*u0)+1):=by
  rw[vU,uN B (_+_) 1];omega
 have k:=tW d
 have e:W64*(q*t)<W64*(u1+W64*u0+1):=by
  rw[vU,uN W64 (_+_) 1];omega
 have m:=tW e
 rw[uF u0];omega
theorem ZgB {B l U V b u0 u1 u2 v2 t g r:Nat}(j:l<B)(k:U=l+B*(u2+W64*(u1+W64*u0)))(c:V=b+B*(v2+W64*t))(d:r+g*t=u0*W64+u1)(h:r*W64+u2<g*v2)(a:0<V):U/V+1≤g:=by
 rw[Nat.add_one_le_iff,vG a]
 have f:u2+W64*(u1+W64*u0)+1≤g*(v2+W64*t):=by
  have e:W64*(r+g*t)=W64*(u1+W64*u0):=by rw[d,vL,uF u0]
  rw[uN g,vU g]
  rw[uN W64 r] at e
  rw[uF r] at h
  omega
 have i:B*(u2+W64*(u1+W64*u0)+1)≤g*V:=by
  refine uE (uK B f) ?_
  rw[vU,c]
  exact uK _ (by omega)
 rw[uN B (_+_) 1] at i
 omega
theorem ZnW {U V:Nat}(h:U<W64*V):U/V≤W64-1:=by
 have a:0<V:=sY (fun e=>by subst e;omega)
 have:=(vG a).2 h
 omega
theorem ZlH {hi lo r u g v:Nat}(h:lo+W64*hi=g*v)(b:¬ hi<r)(c:hi=r→¬ lo≤u)(d:u<W64):r*W64+u<g*v:=by
 rw[←h,uF r]
 rcases rW hi r with a|a|a
 ·exact absurd a b
 ·have:=c a;subst a;omega
 have:=uK W64 a
 rw[Nat.mul_succ] at this
 omega
def CorR (U V P:Nat) (g b wn:Nat):Prop:=b≤1∧wn<P∧U/V≤g∧wn+g*V=U+P*b
theorem CorR.pos {U V P g b a:Nat}(h:CorR U V P g b a)(c:b=1)(d:0<V):U/V+1≤g:=by
 obtain⟨_,e,_,f⟩:=h
 subst c
 rw[Nat.add_one_le_iff,vG d]
 omega
theorem CorR.step {U V P g b d wn' c:Nat}(h:CorR U V P g b d)(e:b=1)(i:0<V)(l:c≤1)(j:wn'<P)(f:wn'+P*c=d+V):CorR U V P (g-1) (1-c) wn':=by
 have m:=h.pos e i
 obtain⟨n,o,p,a⟩:=h
 subst e
 unfold CorR
 generalize U/V=q at *
 refine⟨by omega,j,by omega,?_⟩
 obtain⟨k,rfl⟩:∃ k,g=k+1:=⟨g-1,by omega⟩
 rw[vW]
 rw[uU] at a
 rcases (by omega:c=0∨c=1) with rfl|rfl
 ·simp at f a ⊢;omega
 simp at f a ⊢;omega
theorem CorR.done {U V P g a:Nat}(h:CorR U V P g 0 a)(b:0<V):g=U/V∧a=U%V:=by
 obtain⟨d,f,i,c⟩:=h
 rw[tK,tA] at c
 have j:g≤U/V:=by rw[rM b];omega
 have e:g=U/V:=by omega
 refine⟨e,?_⟩
 have:=vO U V
 rw[←e,uF] at this
 omega
theorem Zr9:(18446744073709551615:Int)=((W64-1:Nat):Int):=by rw[zO];rfl
theorem Zp3 {a b:Nat}(h:¬ a+b<W64)(ha:a<W64)(c:b<W64):IntKind.u64.wrap ((a:Int)+(b:Int))=((a+b-W64:Nat):Int):=by
 rw[IntKind.wrap_u64]
 rw[zO] at *
 omega
theorem ZqI {c:Nat}(h:c≤1):(!(((c:Nat):Int) == 1))=(((1-c:Nat):Int) == 1):=by
 rcases (by omega:c=0∨c=1) with rfl|rfl<;>rfl
def ZrB (b o:Nat) (zs0 ys:List Nat) (w:World) (e:Ending) (w':World):Prop:=∃ zs,e=.returned (.int .u64 ((win o ys.length zs0/val W64 ys:Nat):Int))∧(WinR o ys.length zs0 zs∧win o ys.length zs=win o ys.length zs0%val W64 ys)∧Fr (fun i=>i=b) w w'∧Own .u64 94 w' b zs
theorem ZgC (b c o:Nat)(g ys:List Nat)(A:Option Addr)(c2:Nat)(w:World)(hO:Own .u64 94 w b g)(hY:zF .u64 w A ys)(hA:∀ a,A=some a→a.block≠b)(ho:o+ys.length<g.length)(hl:g.length≤4294967296)(O:Dig W64 g)(hy:Dig W64 ys)(q0:2≤ys.length)(C:0<val W64 ys)(r0:win o ys.length g<W64*val W64 ys) :
 yA 175 #[.slice (some ⟨b,o,none⟩) (ys.length+1) c,.slice A ys.length c2] w (ZrB b o g ys w):=by
 obtain⟨u2,D⟩:=yE (g[o+(ys.length-2)]?.getD 0)
 refine aN (fun i=>i=b) (Φ:=fun w=>(Own .u64 94 w b g∧zF .u64 w A ys)) Tryz.func175 rfl (by kernel_rfl) (fun w' hf=>⟨hO.ext hf,hY.ext hf⟩) ?_
 refine zC (zB (xq 1 [yU 4 0] [] ?_))
 refine xe (zA (zC (zB (xq 3 [yJ 5 ((ys.length:Nat):Int)] [] ?_))))
 refine xe (zA (zC (zB (xq 3 [eS1 14 A ys.length c2,yJ 16 (IntKind.i64.wrap (((ys.length:Nat):Int)-1))] [] ?_))))
 rw[yW (((ys.length:Nat):Int)-1) (((ys.length-1:Nat):Int)) (by omega)]
 refine xqk 17 (atA A (ys.length-1)) (fun w R Q=>wJ (t:=77) (e:=94) (x:=.tmp 14) (ix:=.tmp 16) (len:=ys.length) (cap:=c2) (i:=ys.length-1) ((Q.2).ne (j:=ys.length-1) (by omega)) (by omega)) ?_
 obtain⟨x10,q⟩:=yE (ys[ys.length-1]?.getD 0)
 refine xqk 18 (.int .u64 (x10:Int)) (fun w R Q=>by rw[←q];exact lF (t:=94) (x:=.tmp 17) (Q.2) (j:=ys.length-1) (by omega)) ?_
 refine xq 1 [yU 6 (x10:Int)] [] ?_
 refine xe (zA (zC (zB (xq 1 [yU 7 18446744073709551615] [] ?_))))
 rw[Zr9]
 refine xe (zA ?_)
 refine ZbQ (fun P S=>∃ (f:Nat),P=ofL [eS1 0 (some ⟨b,o,none⟩) (ys.length+1) c,eS1 1 A ys.length c2,yU 7 (f:Int)] []∧S=(fun w=>(Own .u64 94 w b (g)∧zF .u64 w A (ys)))∧(win o ys.length g/val W64 ys≤f)∧(f<W64)) ?_ ?_
 ·refine zC (zB (xq 2 [eS1 19 (some ⟨b,o,none⟩) (ys.length+1) c,yJ 20 ((ys.length:Nat):Int)] [] ?_))
  refine xqk 21 (.pointer (some ⟨b,o+ys.length,none⟩)) (fun w R Q=>iC (t:=77) (e:=94) (x:=.tmp 19) (ix:=.tmp 20) (len:=(ys.length+1)) (cap:=c) (i:=ys.length) (by omega)) ?_
  obtain⟨k,E⟩:=yE (g[o+ys.length]?.getD 0)
  refine xqk 22 (.int .u64 (k:Int)) (fun w R Q=>by rw[←E];exact fD (t:=94) (x:=.tmp 21) (Q.1) (j:=o+ys.length) (by omega)) ?_
  refine xq 2 [yB 24 (decide ((k:Int)<(x10:Int)))] [] ?_
  refine xe (zA ?_)
  refine yQ ((decide ((k:Int)<(x10:Int)))) (fun F=>?_) fun F=>?_
  ·have a0:=uD F
   refine zC (zB (xq 1 [yU 8 0] [] ?_))
   refine xe (zA (zC ?_))
   refine gT 16 [0,0,3,7,0,0,32,112,240,0,1023,2047,4095,4095,8191,32767] (by kernel_rfl) (by kernel_rfl) zL ?_
   refine xqf 2 [eS1 26 (some ⟨b,o,none⟩) (ys.length+1) c,yJ 27 ((ys.length:Nat):Int)] [] ?_
   refine xqj 28 (.pointer (some ⟨b,o+ys.length,none⟩)) (fun w Q=>iC (t:=77) (e:=94) (x:=.tmp 26) (ix:=.tmp 27) (len:=(ys.length+1)) (cap:=c) (i:=ys.length) (by omega)) ?_
   obtain⟨l0,T⟩:=yE (g[o+ys.length]?.getD 0)
   refine xqj 29 (.int .u64 (l0:Int)) (fun w Q=>by rw[←T];exact fD (t:=94) (x:=.tmp 28) (Q.1) (j:=o+ys.length) (by omega)) ?_
   obtain rfl:k=l0:=by rw[←E,T]
   refine xqf 3 [eS1 30 (some ⟨b,o,none⟩) (ys.length+1) c,yJ 32 (IntKind.i64.wrap (((ys.length:Nat):Int)-1))] [] ?_
   rw[yW (((ys.length:Nat):Int)-1) (((ys.length-1:Nat):Int)) (by omega)]
   refine xqj 33 (.pointer (some ⟨b,o+(ys.length-1),none⟩)) (fun w Q=>iC (t:=77) (e:=94) (x:=.tmp 30) (ix:=.tmp 32) (len:=(ys.length+1)) (cap:=c) (i:=ys.length-1) (by omega)) ?_
   obtain⟨l,B⟩:=yE (g[o+(ys.length-1)]?.getD 0)
   refine xqj 34 (.int .u64 (l:Int)) (fun w Q=>by rw[←B];exact fD (t:=94) (x:=.tmp 33) (Q.1) (j:=o+(ys.length-1)) (by omega)) ?_
   refine xqf 1 [yU 35 (x10:Int)] [] ?_
   refine xqd 149 [.int .u64 (k:Int),.int .u64 (l:Int),.int .u64 (x10:Int)] 36 (fun _:Unit=>.tuple #[.int .u64 ((divQ k l x10:Nat):Int),.int .u64 ((divR k l x10:Nat):Int)]) _ (fun w R Q=>yN (Zic k l x10 _ (by omega) (by rw[←q];exact hy.getD zM _) (by rw[←B];exact O.getD zM _))) fun xx=>?_
   refine xqf 5 [yU 7 ((divQ k l x10:Nat):Int),yU 8 ((divR k l x10:Nat):Int)] [] ?_
   refine xz (xe (zA (xM ?_)))
   obtain⟨lw,b0,hU⟩:=ZqG (o:=o) (n:=ys.length) (by omega) (by omega) E B D O
   obtain⟨y2,c0⟩:=yE (ys[ys.length-2]?.getD 0)
   obtain⟨vl,hV⟩:=ZqH (ys:=ys) q0 rfl q c0
   refine yC [eS1 0 (some ⟨b,o,none⟩) (ys.length+1) c,eS1 1 A ys.length c2,yU 4 0,yJ 5 ((ys.length:Nat):Int),yU 6 (x10:Int),yU 7 (((divQ k l x10):Nat):Int),yU 8 (((divR k l x10):Nat):Int)] [] (fun w=>(Own .u64 94 w b (g)∧zF .u64 w A (ys))) (fun w Q=>⟨Q.1.1,Q.1.2⟩) ?_
   have m0:0<x10:=by omega
   refine kW (fun nn P S=>∃ (f h:Nat),P=ofL [eS1 0 (some ⟨b,o,none⟩) (ys.length+1) c,eS1 1 A ys.length c2,yU 4 0,yJ 5 ((ys.length:Nat):Int),yU 6 (x10:Int),yU 7 (f:Int),yU 8 (h:Int)] []∧S=(fun w=>(Own .u64 94 w b (g)∧zF .u64 w A (ys)))∧(win o ys.length g/val W64 ys≤f)∧(f<W64)∧(h+f*x10=k*W64+l)∧(h<W64)∧nn=(1+f)) ((1+(divQ k l x10))) ⟨(divQ k l x10),(divR k l x10),rfl,rfl,(Zps b0 hU hV (by rw[←D];exact O.getD zM _) m0),(Zg6 (by omega) (by rw[←B];exact O.getD zM _)),(by rw[vL];exact Zc1 _ _ _),(qF (Zcw _ _ m0) (by rw[←q];exact hy.getD zM _)),rfl⟩ ?_
   rintro nn P S ⟨f,h,rfl,rfl,hq,y,hr,s0,rfl⟩
   refine xM (zC (zB (xq 4 [yU 40 (f:Int),eS1 41 A ys.length c2,yJ 43 (IntKind.i64.wrap (((ys.length:Nat):Int)-2))] [] ?_)))
   rw[yW (((ys.length:Nat):Int)-2) (((ys.length-2:Nat):Int)) (by omega)]
   refine xqk 44 (atA A (ys.length-2)) (fun w R Q=>wJ (t:=77) (e:=94) (x:=.tmp 41) (ix:=.tmp 43) (len:=ys.length) (cap:=c2) (i:=ys.length-2) ((Q.2).ne (j:=ys.length-2) (by omega)) (by omega)) ?_
   obtain⟨n0,U⟩:=yE (ys[ys.length-2]?.getD 0)
   refine xqk 45 (.int .u64 (n0:Int)) (fun w R Q=>by rw[←U];exact lF (t:=94) (x:=.tmp 44) (Q.2) (j:=ys.length-2) (by omega)) ?_
   obtain rfl:y2=n0:=by rw[←c0,U]
   refine xqc 145 [.int .u64 (f:Int),.int .u64 (y2:Int)] 46 (fun _:Unit=>.tuple #[.int .u64 ((wI f y2:Nat):Int),.int .u64 ((xE f y2:Nat):Int)]) _ (fun w R Q=>yN (Zei f y2 _ y (by rw[←c0];exact hy.getD zM _))) fun xx=>?_
   refine xq 5 [yU 9 ((wI f y2:Nat):Int),yU 10 ((xE f y2:Nat):Int)] [] ?_
   refine xe (zA (zC (zC (zB (xq 4 [yB 52 (decide (((wI f y2:Nat):Int)<(h:Int)))] [] ?_)))))
   rcases bl2 ((decide (((wI f y2:Nat):Int)<(h:Int)))) with s|s
   ·rw[s]
    have d0:=uD s
    refine xq 13 [yB 65 true] [] ?_
    refine xe (zA (xa (lO (xC ?_))))
    refine ZcL (by kernel_rfl) ?_
    refine xC (kQ ?_)
    refine yP [eS1 0 (some ⟨b,o,none⟩) (ys.length+1) c,eS1 1 A ys.length c2,yU 7 (f:Int)] [] (fun w=>(Own .u64 94 w b (g)∧zF .u64 w A (ys))) (fun w Q=>⟨Q.1.1,Q.1.2⟩) ?_
    exact jB ⟨f,rfl,rfl,hq,y⟩
   rw[s]
   have d0:=uH s
   refine xq 4 [yB 56 ((((wI f y2:Nat):Int):Int) == (h:Int))] [] ?_
   rcases bl2 (((((wI f y2:Nat):Int):Int) == (h:Int))) with u|u
   ·rw[u]
    have G:=tY.1 u
    refine xq 4 [yU 57 ((xE f y2:Nat):Int),eS1 58 (some ⟨b,o,none⟩) (ys.length+1) c,yJ 60 (IntKind.i64.wrap (((ys.length:Nat):Int)-2))] [] ?_
    rw[yW (((ys.length:Nat):Int)-2) (((ys.length-2:Nat):Int)) (by omega)]
    refine xqk 61 (.pointer (some ⟨b,o+(ys.length-2),none⟩)) (fun w R Q=>iC (t:=77) (e:=94) (x:=.tmp 58) (ix:=.tmp 60) (len:=(ys.length+1)) (cap:=c) (i:=ys.length-2) (by omega)) ?_
    obtain⟨o0,V⟩:=yE (g[o+(ys.length-2)]?.getD 0)
    refine xqk 62 (.int .u64 (o0:Int)) (fun w R Q=>by rw[←V];exact fD (t:=94) (x:=.tmp 61) (Q.1.1) (j:=o+(ys.length-2)) (by omega)) ?_
    obtain rfl:u2=o0:=by rw[←D,V]
    refine xq 3 [yB 65 (decide (((xE f y2:Nat):Int)≤(u2:Int)))] [] ?_
    refine xe (zA ?_)
    refine yQ ((decide (((xE f y2:Nat):Int)≤(u2:Int)))) (fun H=>?_) fun H=>?_
    ·have e0:=uD H
     refine lO (xC ?_)
     refine ZcL (by kernel_rfl) ?_
     refine xC (kQ ?_)
     refine yP [eS1 0 (some ⟨b,o,none⟩) (ys.length+1) c,eS1 1 A ys.length c2,yU 7 (f:Int)] [] (fun w=>(Own .u64 94 w b (g)∧zF .u64 w A (ys))) (fun w Q=>⟨Q.1.1,Q.1.2⟩) ?_
     exact jB ⟨f,rfl,rfl,hq,y⟩
    have e0:=uH H
    refine zN (zA (zC ?_))
    have f0:h*W64+u2<f*y2:=ZlH (dY f y2) (by omega) (fun _=>by omega) (by rw[←D];exact O.getD zM _)
    have r:=ZgB b0 hU hV hr f0 C
    have p0:1≤f:=uE (Nat.le_add_left 1 _) r
    by_cases z:h+x10<W64
    ·refine zB (xq 2 [yU 67 (IntKind.u64.wrap ((f:Int)-1))] [] ?_)
     rw[show IntKind.u64.wrap (((f:Int)-1))=((f-1:Nat):Int) by rw[IntKind.wrap_u64];have:=zO;omega]
     refine xq 1 [yU 7 ((f-1:Nat):Int)] [] ?_
     refine xe (zA (zC (zB (xq 3 [yU 70 (IntKind.u64.wrap ((h:Int)+(x10:Int)))] [] ?_))))
     rw[Zgz (a:=h) (b:=x10) z]
     refine xq 1 [yU 8 ((h+x10:Nat):Int)] [] ?_
     refine xe (zA (zC (zB (xq 3 [yB 73 (decide (((h+x10:Nat):Int)<(x10:Int)))] [] ?_))))
     refine xe (zA ?_)
     refine yQ ((decide (((h+x10:Nat):Int)<(x10:Int)))) (fun I=>?_) fun I=>?_
     ·have g0:=uD I
      exfalso;omega
     have g0:=uH I
     refine zN (lN ?_)
     refine yP [eS1 0 (some ⟨b,o,none⟩) (ys.length+1) c,eS1 1 A ys.length c2,yU 4 0,yJ 5 ((ys.length:Nat):Int),yU 6 (x10:Int),yU 7 (((f-1):Nat):Int),yU 8 (((h+x10):Nat):Int)] [] (fun w=>(Own .u64 94 w b (g)∧zF .u64 w A (ys))) (fun w Q=>⟨Q.1.1,Q.1.2⟩) ?_
     exact lE ((1+(f-1))) (by omega) ⟨(f-1),(h+x10),rfl,rfl,(pB r),(by omega),(by obtain⟨m,rfl⟩:∃ m,f=m+1:=⟨f-1,by omega⟩;rw[vW];rw[uU] at hr;omega),z,rfl⟩
    refine zB (xq 2 [yU 67 (IntKind.u64.wrap ((f:Int)-1))] [] ?_)
    rw[show IntKind.u64.wrap (((f:Int)-1))=((f-1:Nat):Int) by rw[IntKind.wrap_u64];have:=zO;omega]
    refine xq 1 [yU 7 ((f-1:Nat):Int)] [] ?_
    refine xe (zA (zC (zB (xq 3 [yU 70 (IntKind.u64.wrap ((h:Int)+(x10:Int)))] [] ?_))))
    rw[Zp3 (a:=h) (b:=x10) z (by omega) (by rw[←q];exact hy.getD zM _)]
    refine xq 1 [yU 8 ((h+x10-W64:Nat):Int)] [] ?_
    refine xe (zA (zC (zB (xq 3 [yB 73 (decide (((h+x10-W64:Nat):Int)<(x10:Int)))] [] ?_))))
    refine xe (zA ?_)
    refine yQ ((decide (((h+x10-W64:Nat):Int)<(x10:Int)))) (fun J=>?_) fun J=>?_
    ·have h0:=uD J
     refine lO ?_
     refine ZcL (by kernel_rfl) ?_
     refine xC (kQ ?_)
     refine yP [eS1 0 (some ⟨b,o,none⟩) (ys.length+1) c,eS1 1 A ys.length c2,yU 7 (((f-1):Nat):Int)] [] (fun w=>(Own .u64 94 w b (g)∧zF .u64 w A (ys))) (fun w Q=>⟨Q.1.1,Q.1.2⟩) ?_
     exact jB ⟨(f-1),rfl,rfl,(pB r),(by omega)⟩
    have h0:=uH J
    exfalso;omega
   rw[u]
   have G:=wY u
   refine xq 9 [yB 65 false] [] ?_
   refine xe (zA (xb (zN (zA (zC ?_)))))
   have f0:h*W64+u2<f*y2:=ZlH (dY f y2) (by omega) (fun e=>absurd (show (wI f y2:Int)=h by rw[e]) G) (by rw[←D];exact O.getD zM _)
   have r:=ZgB b0 hU hV hr f0 C
   have p0:1≤f:=uE (Nat.le_add_left 1 _) r
   by_cases z:h+x10<W64
   ·refine zB (xq 2 [yU 67 (IntKind.u64.wrap ((f:Int)-1))] [] ?_)
    rw[show IntKind.u64.wrap (((f:Int)-1))=((f-1:Nat):Int) by rw[IntKind.wrap_u64];have:=zO;omega]
    refine xq 1 [yU 7 ((f-1:Nat):Int)] [] ?_
    refine xe (zA (zC (zB (xq 3 [yU 70 (IntKind.u64.wrap ((h:Int)+(x10:Int)))] [] ?_))))
    rw[Zgz (a:=h) (b:=x10) z]
    refine xq 1 [yU 8 ((h+x10:Nat):Int)] [] ?_
    refine xe (zA (zC (zB (xq 3 [yB 73 (decide (((h+x10:Nat):Int)<(x10:Int)))] [] ?_))))
    refine xe (zA ?_)
    refine yQ ((decide (((h+x10:Nat):Int)<(x10:Int)))) (fun K=>?_) fun K=>?_
    ·have i0:=uD K
     exfalso;omega
    have i0:=uH K
    refine zN (lN ?_)
    refine yP [eS1 0 (some ⟨b,o,none⟩) (ys.length+1) c,eS1 1 A ys.length c2,yU 4 0,yJ 5 ((ys.length:Nat):Int),yU 6 (x10:Int),yU 7 (((f-1):Nat):Int),yU 8 (((h+x10):Nat):Int)] [] (fun w=>(Own .u64 94 w b (g)∧zF .u64 w A (ys))) (fun w Q=>⟨Q.1.1,Q.1.2⟩) ?_
    exact lE ((1+(f-1))) (by omega) ⟨(f-1),(h+x10),rfl,rfl,(pB r),(by omega),(by obtain⟨m,rfl⟩:∃ m,f=m+1:=⟨f-1,by omega⟩;rw[vW];rw[uU] at hr;omega),z,rfl⟩
   refine zB (xq 2 [yU 67 (IntKind.u64.wrap ((f:Int)-1))] [] ?_)
   rw[show IntKind.u64.wrap (((f:Int)-1))=((f-1:Nat):Int) by rw[IntKind.wrap_u64];have:=zO;omega]
   refine xq 1 [yU 7 ((f-1:Nat):Int)] [] ?_
   refine xe (zA (zC (zB (xq 3 [yU 70 (IntKind.u64.wrap ((h:Int)+(x10:Int)))] [] ?_))))
   rw[Zp3 (a:=h) (b:=x10) z (by omega) (by rw[←q];exact hy.getD zM _)]
   refine xq 1 [yU 8 ((h+x10-W64:Nat):Int)] [] ?_
   refine xe (zA (zC (zB (xq 3 [yB 73 (decide (((h+x10-W64:Nat):Int)<(x10:Int)))] [] ?_))))
   refine xe (zA ?_)
   refine yQ ((decide (((h+x10-W64:Nat):Int)<(x10:Int)))) (fun L=>?_) fun L=>?_
   ·have j0:=uD L
    refine lO ?_
    refine ZcL (by kernel_rfl) ?_
    refine xC (kQ ?_)
    refine yP [eS1 0 (some ⟨b,o,none⟩) (ys.length+1) c,eS1 1 A ys.length c2,yU 7 (((f-1):Nat):Int)] [] (fun w=>(Own .u64 94 w b (g)∧zF .u64 w A (ys))) (fun w Q=>⟨Q.1.1,Q.1.2⟩) ?_
    exact jB ⟨(f-1),rfl,rfl,(pB r),(by omega)⟩
   have j0:=uH L
   exfalso;omega
  have a0:=uH F
  refine zN ?_
  refine yP [eS1 0 (some ⟨b,o,none⟩) (ys.length+1) c,eS1 1 A ys.length c2,yU 7 (((W64-1):Nat):Int)] [] (fun w=>(Own .u64 94 w b (g)∧zF .u64 w A (ys))) (fun w Q=>⟨Q.1,Q.2⟩) ?_
  exact jB ⟨(W64-1),rfl,rfl,ZnW r0,(by have:=zM;omega)⟩
 rintro P S ⟨f,rfl,rfl,hq,y⟩
 refine zC (zC (zB (xq 3 [eS1 74 (some ⟨b,o,none⟩) (ys.length+1) c,eS1 75 A ys.length c2,yU 76 (f:Int)] [] ?_)))
 refine Zdg (xs:=g) (α:=List Nat × Nat) 199 [.slice (some ⟨b,o,none⟩) (ys.length+1) c,.slice A ys.length c2,.int .u64 (f:Int)] (d:=77) (fun x=>.bool (((x.2:Nat):Int) == 1)) (fun x=>Zek g ys f o x.1 x.2) (fun x=>x.1) b (fun x w=>(Own .u64 94 w b (x.1)∧zF .u64 w A (ys))) (fun w Q=>Q.1) (by omega) (Or.inr rfl) (fun w R Q=>ZjP b _ o _ ys A _ _ Q.1 Q.2 hA (by omega) hl O hy _ y) (fun x w w' hp Q hF hO=>⟨hO,((Q.2).fr hF (fun a ha _=>hA a ha))⟩) fun x W=>?_
 obtain⟨X,M⟩:=x
 dsimp only at W
 have p:=W.win (by omega) (WinR.start O)
 refine xr 1 [eS1 0 (some ⟨b,o,none⟩) (ys.length+1) c,eS1 1 A ys.length c2,yU 7 (f:Int),yB 11 ((M:Int) == 1)] [] ?_
 refine xe (zA (xM ?_))
 refine yC [eS1 0 (some ⟨b,o,none⟩) (ys.length+1) c,eS1 1 A ys.length c2,yU 7 (f:Int),yB 11 ((M:Int) == 1)] [] (fun w=>(Own .u64 94 w b (X)∧zF .u64 w A (ys))) (fun w Q=>⟨Q.1,Q.2⟩) ?_
 refine kW (fun nn P S=>∃ (f bb:Nat) (zs:List Nat),P=ofL [eS1 0 (some ⟨b,o,none⟩) (ys.length+1) c,eS1 1 A ys.length c2,yU 7 (f:Int),yB 11 ((bb:Int) == 1)] []∧S=(fun w=>(Own .u64 94 w b (zs)∧zF .u64 w A (ys)))∧(WinR o ys.length g zs)∧(CorR (win o ys.length g) (val W64 ys) (W64^(ys.length+1)) f bb (win o ys.length zs))∧(f<W64)∧nn=(1+f)) ((1+f)) ⟨f,M,X,rfl,rfl,p.1,⟨p.2.1,ZnV p.1.2.1,hq,p.2.2⟩,y,rfl⟩ ?_
 rintro nn P S ⟨f,bb,zs,rfl,rfl,HW,HC,y,rfl⟩
 refine zC (zC (zB (xq 1 [yB 78 ((bb:Int) == 1)] [] ?_)))
 refine xe (zA ?_)
 refine yQ (((bb:Int) == 1)) (fun N=>?_) fun N=>?_
 ·have k0:=tY.1 N
  refine zN (zA (zC (xM ?_)))
  have r:=HC.pos (by omega) C
  have p0:1≤f:=uE (Nat.le_add_left 1 _) r
  refine zB (xq 2 [eS1 81 (some ⟨b,o,none⟩) (ys.length+1) c,eS1 82 A ys.length c2] [] ?_)
  refine Zdg (xs:=zs) (α:=List Nat × Nat) 200 [.slice (some ⟨b,o,none⟩) (ys.length+1) c,.slice A ys.length c2] (d:=83) (fun x=>.bool (((x.2:Nat):Int) == 1)) (fun x=>Zel zs ys o x.1 x.2) (fun x=>x.1) b (fun x w=>(Own .u64 94 w b (x.1)∧zF .u64 w A (ys))) (fun w Q=>Q.1) (by have:=HW.1;omega) (Or.inr rfl) (fun w R Q=>ZjQ b _ o _ ys A _ _ Q.1 Q.2 hA (by rw[HW.1];omega) (by rw[HW.1];exact hl) HW.2.1 hy) (fun x w w' hp Q hF hO=>⟨hO,((Q.2).fr hF (fun a ha _=>hA a ha))⟩) fun x Y=>?_
  obtain⟨Z,v⟩:=x
  dsimp only at Y
  have p:=Y.win (by omega) HW
  refine xr 1 [eS1 0 (some ⟨b,o,none⟩) (ys.length+1) c,eS1 1 A ys.length c2,yU 7 (f:Int),yB 11 ((bb:Int) == 1),yB 84 (!((v:Int) == 1))] [] ?_
  rw[ZqI (c:=v) p.2.1]
  refine xq 1 [yB 11 (((1-v:Nat):Int) == 1)] [] ?_
  refine xe (lN (zA (zB (xq 2 [yU 80 (IntKind.u64.wrap ((f:Int)-1))] [] ?_))))
  rw[show IntKind.u64.wrap (((f:Int)-1))=((f-1:Nat):Int) by rw[IntKind.wrap_u64];have:=zO;omega]
  refine xq 1 [yU 7 ((f-1:Nat):Int)] [] ?_
  refine xe ?_
  refine yP [eS1 0 (some ⟨b,o,none⟩) (ys.length+1) c,eS1 1 A ys.length c2,yU 7 (((f-1):Nat):Int),yB 11 ((((1-v):Nat):Int) == 1)] [] (fun w=>(Own .u64 94 w b (Z)∧zF .u64 w A (ys))) (fun w Q=>⟨Q.1,Q.2⟩) ?_
  exact lE ((1+(f-1))) (by omega) ⟨(f-1),(1-v),Z,rfl,rfl,p.1,(HC.step (by omega) C p.2.1 (ZnV p.1.2.1) p.2.2),(by omega),rfl⟩
 have k0:=wY N
 obtain rfl:bb=0:=by have:=HC.1;omega
 refine lO (xC (xC (kQ (zA (zC (zB (xq 2 [yU 4 (f:Int)] [] ?_)))))))
 refine xe (zA (zG ?_))
 refine yR (.int .u64 (f:Int)) fun w' R Q=>?_
 obtain⟨e1,e2⟩:=HC.done C
 exact⟨zs,by rw[e1],⟨HW,e2⟩,R,Q.1⟩
noncomputable def wds (n:Nat):List Nat:=if _h:n=0 then [] else (n%W64) :: wds (n/W64)
termination_by n
decreasing_by exact qV (by omega) eA
theorem eY:∀ n,Dig W64 (wds n)∧val W64 (wds n)=n:=by
 intro n
 induction n using Nat.strongRecOn with
 | ind n ih =>
  rw[wds]
  split
  ·rename_i h;exact⟨Dig.nil,by simp[h]⟩
  rename_i h
  obtain⟨a,b⟩:=ih (n/W64) (qV (by omega) eA)
  exact⟨a.cons (uP _ zM),by rw[gO,b];exact tR _ _⟩
theorem ZfH:∀ n,Trim (wds n):=by
 intro n
 induction n using Nat.strongRecOn with
 | ind n ih =>
  rw[wds]
  split
  ·exact Trim.nil
  rename_i h
  have b:=ih (n/W64) (qV (by omega) eA)
  intro k a
  rcases uI (n/W64) with e|e
  ·rw[e,wds,dif_pos rfl] at a ⊢
   simp at a
   subst a
   have:=tR n W64
   rw[e] at this
   simp;omega
  obtain⟨m,rfl⟩:∃ m,k=m+1:=⟨k-1,by
   have:wds (n/W64)≠[]:=fun c=>by have:=(eY (n/W64)).2;rw[c] at this;simp at this;omega
   have:=sS.2 this
   simp at a;omega⟩
  have:=b m (by simpa using a)
  simpa using this
theorem ZnX {xs:List Nat}{n:Nat}(a:Dig W64 xs)(b:Trim xs)(c:val W64 xs=n):xs=wds n:=Zi7 eA a (eY n).1 b (ZfH n) (c.trans (eY n).2.symm)
theorem ZlI (n:Nat):(wds n).length=wl n:=by rw[xR (eY n).1 (ZfH n),(eY n).2]
theorem zK.shows {w:World}{A:Option Addr}{l c n:Nat}(h:zK w (.slice A l c) n):zF .u64 w A (wds n):=by
 obtain⟨g,i,j,e,k,a,b,d,f⟩:=h
 injection e with e1 e2 e3
 subst e1
 rw[←ZnX b d f];exact a
theorem zK.lens {w:World}{A:Option Addr}{l c n:Nat}(h:zK w (.slice A l c) n):l=(wds n).length∧(wds n).length≤c:=by
 obtain⟨g,i,j,e,a,k,b,d,f⟩:=h
 injection e with e1 e2 e3
 subst e3
 rw[←ZnX b d f];exact⟨e2,a⟩
theorem zF.lt {k:IntKind}{w:World}{A:Option Addr}{xs:List Nat}(h:zF k w A xs)(c:0<xs.length){a:Addr}(ha:A=some a):a.block<w.heap.size:=by
 obtain⟨b,o,e,d,_⟩:=h.at c
 rw[ha] at e;injection e with e;rw[e];exact d
/-! ### Clone -/
theorem ZqJ (w:World)(a:Option Addr)(n c:Nat):(binOp .eql 77 (.slice a n c) (.slice none 0 0)).run Tryz.prog w=.ok (.bool a.isNone) w :=
 Lib.run_eql_slice_nil w 77 94 a n c 0 0 Tryz.underlying77
theorem ZmF (A:Option Addr)(xs:List Nat)(n c:Nat)(w:World)(p:xs.length=n)(q:zF .u64 w A xs)(C:n≤4294967296) :
 yA 107 #[.slice A n c] w (Zja w xs):=by
 have r:=zh q
 have s:=zh p
 clear q p
 have t:=ZqJ
 cases A with
 | none =>
  have x:Hid (xs=[]):=by
   rcases xs with _|⟨y,D⟩
   ·rfl
   obtain⟨b,z,h,_⟩:=r.out (by simp);cases h
  go_enter Tryz.func107,Tryz.ntmps107
  go_wp2
  go_ret
  rw[x.out]
  exact⟨none,0,rfl,Buf.nil,Fr.refl _ _,fun b d=>by obtain⟨a,ha,_⟩:=d;cases ha⟩
 | some ad =>
  go_enter Tryz.func107,Tryz.ntmps107
  go_wp2_with (
   at_builtin
   refine wT rfl _ _ _ rfl _ .u64 8 Tryz.underlying77 dB (some ⟨w.heap.size,0,none⟩) (some ad) 0 n 0 c rfl rfl [] xs rfl s.out ?_ (r.out.alloc _) (by simp only[maxLen];omega) (by omega) ?_
   ·exact Or.inr ⟨_,rfl,Own.new w _ _ [] [],⟨#[],heap_alloc_new w _,rfl⟩,uM _,by simp only[maxLen];omega⟩
   intro B e E f g j
   have k:=zh f
   have l:=zh g
   have o:=zh j
   clear f g j)
  go_ret
  refine⟨B,e,?_,by simpa using k.out,?_,?_⟩
  ·rw[s.out];simp
  ·refine ((Fr.refl (fun _=>False) w).alloc _).next l.out fun i F d=>?_
   obtain⟨a,ha,d⟩:=d
   injection ha with ha
   subst ha
   simp at d;omega
  intro b d
  rcases o.out b d with ⟨a,ha,h⟩|h
  ·injection ha with ha;subst ha;simp at h;omega
  simp at h;omega
theorem ZgD (A:Option Addr)(xs:List Nat)(c:Nat)(w:World)(f:zF .u64 w A xs)(g:xs.length≤4294967296)(d:0<xs.length) :
 yA 107 #[.slice A xs.length c] w (fun i w'=>∃ b c,i=.returned (.slice (some ⟨b,0,none⟩) xs.length c)∧w.heap.size≤b∧xs.length≤c∧Ext w w'∧Own .u64 94 w' b xs):=by
 refine (ZmF A xs xs.length c w rfl f g).mono ?_
 rintro e w' ⟨p,a,rfl,j,Q,k⟩
 rcases j with ⟨_,h,_⟩|⟨b,rfl,l,_,o,_⟩
 ·rw[h] at d;simp at d
 exact⟨b,a,rfl,k b ⟨_,rfl,rfl⟩,o,Q,l⟩
/-! ### compare,of numbers -/
/-! ### the long division -/
def OvR (N V n L k:Nat) (zs qs:List Nat):Prop:=zs.length=n∧Dig W64 zs∧qs.length=L∧Dig W64 qs∧val W64 zs+V*(W64^k*val W64 (qs.drop k))=N∧val W64 zs<V*W64^k
theorem OvR.start {N V n L:Nat}{a:List Nat}(d:a.length=n)(e:Dig W64 a)(c:val W64 a=N)(b:N<V*W64^L):OvR N V n L L a (List.replicate L 0) :=
 ⟨d,e,by simp,Dig.replicate zM _,by rw[uX (by simp)];simpa using c,by rw[c];exact b⟩
theorem Zpt {o n:Nat}{a:List Nat}(d:o+n+1≤a.length)(h:val W64 a<W64^(o+n+1)):val W64 a=val W64 (a.take o)+W64^o*win o n a∧val W64 (a.drop (o+n+1))=0:=by
 have b:=xU (B:=W64) (xs:=a) (o+n+1)
 rw[uV d] at b
 have c:val W64 (a.drop (o+n+1))=0:=by
  refine Nat.eq_zero_of_not_pos fun e=>?_
  have:=uK (W64^(o+n+1)) e
  omega
 rw[c,tK,tA,Zau (by omega)] at b
 exact⟨b,c⟩
theorem OvR.ready {N V n L j m:Nat}{a b:List Nat}(h:OvR N V n L (j+1) a b)(c:V<W64^m)(k:j+m+1≤n):val W64 a=val W64 (a.take j)+W64^j*win j m a∧val W64 (a.drop (j+m+1))=0∧win j m a<W64*V:=by
 obtain⟨l,o,p,q,r,d⟩:=h
 have f:val W64 a<W64^(j+m+1):=by
  refine uQ d ?_
  rw[show j+m+1=m+(j+1) by omega,uS W64 m]
  exact uC _ (rT c)
 obtain⟨g,i⟩:=Zpt (by omega) f
 refine⟨g,i,?_⟩
 have:W64^j*win j m a<W64^j*(W64*V):=by
  have e:V*W64^(j+1)=W64^j*(W64*V):=by rw[uO,uF V,uG]
  omega
 exact tW this
theorem OvR.step {N V n L j m:Nat}{a c b:List Nat}(h:OvR N V n L (j+1) a c)(g:V<W64^m)(d:0<V)(i:j+m+1≤n)(k:j<L)(l:WinR j m a b)(o:win j m b=win j m a%V) :
 OvR N V n L j b (c.set j (win j m a/V)):=by
 obtain⟨I,p,q⟩:=h.ready g i
 obtain⟨r,s,t,x,y,J⟩:=h
 obtain⟨z,A,C,D⟩:=l
 have E:win j m a/V<W64:=by rw[vG d];exact q
 have e:=xU (B:=W64) (xs:=b) (j+m+1)
 rw[D,p,tK,tA,Zau (by omega),C,o] at e
 have f:=vO (win j m a) V
 have K:W64^j*win j m a=V*(W64^j*(win j m a/V))+W64^j*(win j m a%V):=by
  conv=>lhs;rw[←f]
  rw[uN,vU]
 refine⟨z.trans r,A,by simpa using t,x.set j E,?_,?_⟩
 ·have F:(c.set j (win j m a/V))[j]?.getD 0=win j m a/V:=by rw[List.getElem?_set_self (by omega)];rfl
  rw[xV j (by simp;omega),F,vX (by omega),e]
  rw[uO] at y
  have M:V*(W64^j*(win j m a/V+W64*val W64 (c.drop (j+1))))=V*(W64^j*(win j m a/V))+V*(W64^j*W64*val W64 (c.drop (j+1))):=by
   rw[uN (W64^j),uN V,uG (W64^j)]
  omega
 rw[e]
 have G:=xZ (s.take j)
 rw[uY,uV (by omega)] at G
 have H:=uK (W64^j) (uP (win j m a) d)
 rw[Nat.mul_succ] at H
 rw[uF V]
 omega
theorem OvR.done {N V n L:Nat}{b c:List Nat}(h:OvR N V n L 0 b c)(e:0<V):val W64 c=N/V∧val W64 b=N%V:=by
 obtain⟨f,g,i,j,d,a⟩:=h
 rw[vT,sB] at a
 rw[vT,sV,tS] at d
 rw[←d]
 rw[Nat.add_mul_div_left _ _ e,tG a,rJ,vC a]
 exact⟨by omega,rfl⟩
theorem ZrC {ys:List Nat}{k t:Nat}(d:Dig W64 ys)(e:ys.length=k+1)(f:Trim ys)(a:ys[k]?.getD 0=t):wl (val W64 ys*2^(64-blen t))=ys.length:=by
 have g:0<t:=sY (by rw[←a];exact f k e)
 have i:=Zfl d e f a
 have b:t<2^64:=by have:=a ▸ d.getD zM k;rw[zO] at this;exact this
 have j:=xF.2 b
 have c:0<val W64 ys:=by have:=zR (B:=W64) k (show k<ys.length by omega);rw[uA (by omega),a] at this;have:=uK (W64^k) g;have:=uT (n:=k) zM;omega
 have l:blen (val W64 ys*2^(64-blen t))=64*(k+1):=by rw[cK c,i];omega
 have o:wl (val W64 ys*2^(64-blen t))≤k+1:=kE.2 (by rw[bD];exact xF.1 (by omega))
 have p:¬ wl (val W64 ys*2^(64-blen t))≤k:=fun h=>by
  have:=kE.1 h
  rw[bD] at this
  have:=xF.2 this
  omega
 omega
theorem Zsa {xs ys:List Nat}{s:Nat}(a:Dig W64 xs)(b:Trim ys)(g:0<ys.length)(h:ys.length≤xs.length):val W64 xs*2^s<val W64 ys*2^s*W64^(xs.length-ys.length+1):=by
 obtain⟨k,c⟩:∃ k,ys.length=k+1:=⟨ys.length-1,by omega⟩
 have d:=xZ a
 have e:=ZdQ (B:=W64) b c
 have f:W64^xs.length≤val W64 ys*W64^(xs.length-ys.length+1):=by
  rw[show xs.length=k+(xs.length-ys.length+1) by omega,uS]
  rw[show k+(xs.length-ys.length+1)-ys.length+1=xs.length-ys.length+1 by omega]
  exact uC _ e
 rw[Nat.mul_right_comm]
 exact (qI (p2 s)).2 (uQ d f)
theorem Zpu {ws:List Nat}{n:Nat}(b:Dig W64 ws)(c:ws.length≤n):let a:=ws.take n ++ (List.replicate n 0).drop ws.length;a.length=n∧Dig W64 a∧val W64 a=val W64 ws:=by
 intro a
 have e:a=ws ++ List.replicate (n-ws.length) 0:=by show ws.take n ++ (List.replicate n 0).drop ws.length=_;rw[uA c,List.drop_replicate]
 rw[e]
 exact⟨by simp;omega,b.append (Dig.replicate zM _),by rw[kH,kS];simp⟩
theorem ZrD {xs:List Nat}{s:Nat}(a:Dig W64 xs)(b:s≤64):wl (val W64 xs*2^s)≤xs.length+1:=kE.2 (by
 have c:=xZ a
 rw[uO]
 have d:2^s≤W64:=by rw[zO];exact uR (n:=2) (by decide) b
 exact uQ ((qI (p2 s)).2 c) (uK _ d))
theorem ZrE {x y s:Nat}:x*2^s%(y*2^s)/2^s=x%y:=by rw[sM,qS _ (p2 s)]
theorem ZrF {x y s:Nat}:x*2^s/(y*2^s)=x/y:=rL _ _ (p2 s)
theorem Zch {b n c v:Nat}{xs:List Nat}{w:World}(a:Own .u64 94 w b xs)(f:Dig W64 xs)(g:xs.length=n)(h:val W64 xs=v)(i:n≤1099511627776)(d:n≤c):yA 106 #[.slice (some ⟨b,0,none⟩) n c] w (wW w v):=by
 subst g h
 refine (Zej _ xs _ w a.shows0 i d).mono ?_
 rintro e w' ⟨rfl,Q⟩
 exact⟨_,rfl,(zK.of_own a f d).ext Q,Q⟩
theorem ZqK {ys:List Nat}{y:Nat}(h:ys.length=1)(e:ys[0]?.getD 0=y):val W64 ys=y:=by
 obtain⟨z,rfl⟩:=pQ.1 h
 simp at e
 simp[e]
theorem Blk.own1 {w:World}{b r:Nat}(h:Blk 94 w b #[.int .u64 ((r:Nat):Int)]):Own .u64 94 w b [r]:=⟨[],by simp,h⟩
/-! ### of numbers -/
section
variable {u v:Value} {m n:Nat} {w:World}
theorem jY (f:zK w u m)(g:zK w v n)(a:wl m≤4294967296)(b:wl n≤4294967296):yA 126 #[u,v] w (wW w (m+n)):=by
 obtain⟨A,h,c,rfl,s,i,d,j,rfl⟩:=f
 obtain⟨k,l,o,rfl,p,q,e,r,rfl⟩:=g
 rw[←xR d j] at a
 rw[←xR e r] at b
 exact ZnS A k h l c o w i q a b d e
theorem Zbd (g:zK w u m)(h:zK w v n)(d:wl m≤4294967296)(a:n≤m):yA 127 #[u,v] w (wW w (m-n)):=by
 obtain⟨A,i,c,rfl,t,j,e,k,rfl⟩:=g
 obtain⟨l,o,p,rfl,q,r,f,s,rfl⟩:=h
 have b:=wR a
 rw[←xR e k] at d b
 rw[←xR f s] at b
 exact ZmB A l i o c p w j r d (by omega) e f b a
theorem Zdi (f:zK w u m)(g:zK w v n)(a:wl m≤4294967296)(b:wl n≤4294967296):yA 124 #[u,v] w (wW w (m*n)):=by
 obtain⟨A,h,c,rfl,s,i,d,j,rfl⟩:=f
 obtain⟨k,l,o,rfl,p,q,e,r,rfl⟩:=g
 rw[←xR d j] at a
 rw[←xR e r] at b
 exact ZmC A k h l c o w i q a b d e
theorem kL (k:Nat)(b:zK w u m)(d:wl m≤4294967296)(f:k≤274877906944):yA 66 #[u,.int .i64 ((k:Nat):Int)] w (wW w (m*2^k)):=by
 have a:=b
 obtain⟨A,g,c,rfl,j,h,e,i,rfl⟩:=b
 rw[←xR e i] at d
 exact ZqB A g c k w a h d e f
theorem gI (k:Nat)(b:zK w u m)(d:wl m≤4294967296)(f:k≤274877906944):yA 128 #[u,.int .i64 ((k:Nat):Int)] w (wW w (m/2^k)):=by
 have a:=b
 obtain⟨A,g,c,rfl,j,h,e,i,rfl⟩:=b
 rw[←xR e i] at d
 exact ZnT A g c k w a h d e f
theorem kD (e:zK w u m)(a:wl m≤4294967296):yA 65 #[u] w (RetV w (.int .i64 ((blen m:Nat):Int))):=by
 obtain⟨A,f,c,rfl,h,g,b,d,rfl⟩:=e
 rw[←xR b d] at a
 exact ZkX A f c w g a b d
theorem Zbe (d:Glob w)(e:zK w u m)(a:wl m≤4294967296)(f:0<m):yA 157 #[u] w (RetV w (.int .i64 ((tzn m:Nat):Int))):=by
 obtain⟨A,g,c,rfl,j,h,b,i,rfl⟩:=e
 rw[←xR b i] at a
 exact ZmE A g c w h a b d f
theorem Zav (i:Nat)(a:zK w u m)(hi:i≤274877906944):yA 158 #[u,.int .i64 ((i:Nat):Int)] w (RetV w (.bool (decide (m/2^i%2=1)))):=by
 obtain⟨A,b,c,rfl,f,d,e,g,rfl⟩:=a
 exact Zpr A b c w d e i hi
theorem iM (e:zK w u m)(f:zK w v n)(a:wl m≤4294967296):yA 122 #[u,v] w (RetV w (.int .i64 (cmpI ((m:Nat):Int) ((n:Nat):Int)))):=by
 obtain⟨A,g,c,rfl,r,h,b,d,rfl⟩:=e
 obtain⟨i,j,k,rfl,l,o,p,q,rfl⟩:=f
 rw[←xR b d] at a
 exact ZjO A i g j c k w h o a b p d q
end
theorem ZnY (A f:Option Addr)(xs ys:List Nat)(c c2:Nat)(w:World)(hX:zF .u64 w A xs)(hY:zF .u64 w f ys)(hl:xs.length≤4294967295)(D0:ys.length≤4294967296)(hx:Dig W64 xs)(hy:Dig W64 ys)(hN:zK w (.slice A xs.length c) (val W64 xs))(hM:zK w (.slice f ys.length c2) (val W64 ys))(tx:Trim xs)(ty:Trim ys)(e0:0<val W64 ys) :
 yA 142 #[.slice A xs.length c,.slice f ys.length c2] w (ZaR w (val W64 xs/val W64 ys) (val W64 xs%val W64 ys)):=by
 have hw:wl (val W64 xs)≤4294967296:=by rw[←xR hx tx];omega
 have E0:wl (val W64 ys)≤4294967296:=by rw[←xR hy ty];exact D0
 refine zV (Φ:=fun w=>(((zK w (.slice A xs.length c) (val W64 xs)∧zF .u64 w A xs)∧zK w (.slice f ys.length c2) (val W64 ys))∧zF .u64 w f ys)) Tryz.func142 rfl (by kernel_rfl) (fun w' hf=>⟨⟨⟨hN.ext hf,hX.ext hf⟩,hM.ext hf⟩,hY.ext hf⟩) ?_
 refine zC (zB (xq 2 [eS1 4 none 0 0,eS1 5 none 0 0] [] ?_))
 refine xe (zA (zC (zC (zB (xq 2 [eS1 13 A xs.length c,eS1 14 f ys.length c2] [] ?_)))))
 refine xqc 122 [.slice A xs.length c,.slice f ys.length c2] 15 (fun _:Unit=>.int .i64 (cmpI ((val W64 xs:Nat):Int) ((val W64 ys:Nat):Int))) _ (fun w R Q=>yN (iM Q.1.1.1 Q.1.2 hw)) fun xx=>?_
 refine xq 1 [(16,.v (.bool (decide ((cmpI ((val W64 xs:Nat):Int) ((val W64 ys:Nat):Int))<0))))] [] ?_
 refine xe (zA ?_)
 refine yQ ((decide ((cmpI ((val W64 xs:Nat):Int) ((val W64 ys:Nat):Int))<0))) (fun F=>?_) fun F=>?_
 ·have O:=fT.1 (uD F)
  refine zC (zB (xq 3 [eS1 4 none 0 0,eS1 5 A xs.length c] [] ?_))
  refine xe (zA (zG (zI ?_)))
  refine yR (.tuple #[.slice none 0 0,.slice A xs.length c]) fun w' R Q=>?_
  exact⟨_,_,rfl,by rw[tG O];exact zK.zero _,by rw[vC O];exact Q.1.1.1.1,R⟩
 have F0:val W64 ys≤val W64 xs:=Nat.le_of_not_lt (fun h'=>uH F (fT.2 h'))
 have M0:ys.length≤xs.length:=by have:=wR F0;rwa [←xR hy ty,← xR hx tx] at this
 have N0:0<ys.length:=sS.2 (fun e=>by rw[e] at e0;simp at e0)
 refine zN (zA (zC (zC (zB (xq 3 [yB 20 ((((ys.length:Nat):Int):Int) == 1)] [] ?_)))))
 refine xe (zA ?_)
 refine yQ (((((ys.length:Nat):Int):Int) == 1)) (fun G=>?_) fun G=>?_
 ·have U:=tY.1 G
  refine zC (zB (xq 1 [eS1 21 A xs.length c] [] ?_))
  refine Zpn 107 [.slice A xs.length c] (d:=22) (k:=.u64) (e:=94) xs (fun w R Q=>ZgD A xs c w Q.1.1.1.2 (by omega) (by omega)) fun q cc f0 K0 _=>?_
  refine xr 1 [eS1 0 A xs.length c,eS1 1 f ys.length c2,eS1 4 none 0 0,eS1 5 none 0 0,eS1 6 (some ⟨q,0,none⟩) xs.length cc] [] ?_
  refine xe (zA (zC (zB (xq 2 [eS1 23 (some ⟨q,0,none⟩) xs.length cc,eS1 24 f ys.length c2] [] ?_))))
  refine xqk 25 (atA f 0) (fun w R Q=>wJ (t:=77) (e:=94) (x:=.tmp 24) (ix:=(Operand.const (Value.int IntKind.i64 0))) (len:=ys.length) (cap:=c2) (i:=0) (((Q.1).self.1.2).ne (j:=0) (by omega)) (by omega)) ?_
  obtain⟨r,C⟩:=yE (ys[0]?.getD 0)
  refine xqk 26 (.int .u64 (r:Int)) (fun w R Q=>by rw[←C];exact lF (t:=94) (x:=.tmp 25) ((Q.1).self.1.2) (j:=0) (by omega)) ?_
  have g0:=ZqK (by omega) C
  refine Zdg (xs:=xs) (α:=List Nat) 108 [.slice (some ⟨q,0,none⟩) xs.length cc,.int .u64 (r:Int)] (d:=27) (fun x=>.int .u64 ((val W64 xs%r:Nat):Int)) (fun x=>x.length=xs.length∧Dig W64 x∧val W64 x=val W64 xs/r) (fun x=>x) q (fun x w=>(Box (fun j=>q≤j) w (fun w=>((((zK w (.slice A xs.length c) (val W64 xs)∧zF .u64 w A (xs))∧zK w (.slice f ys.length c2) (val W64 ys))∧zF .u64 w f (ys))∧True))∧Own .u64 94 w q (x))) (fun w Q=>Q.2) (by omega) (Or.inl f0) (fun w R Q=>Zcg q _ _ _ _ Q.2 (by omega) hx (by omega) (by rw[←C];exact hy.getD zM _)) (fun x w w' hp Q M V=>⟨((Q.1).fr (M.mono (fun _ _ e=>by rw[e];exact uM _))),V⟩) fun x H=>?_
  obtain⟨L0,rfl⟩:∃ y,y=x:=⟨_,rfl⟩
  refine xr 1 [eS1 0 A xs.length c,eS1 1 f ys.length c2,eS1 4 none 0 0,eS1 5 none 0 0,eS1 6 (some ⟨q,0,none⟩) xs.length cc,yU 7 ((val W64 xs%r:Nat):Int)] [] ?_
  refine xe (zA (zC (zB (xq 1 [eS1 28 (some ⟨q,0,none⟩) xs.length cc] [] ?_))))
  refine xqc 106 [.slice (some ⟨q,0,none⟩) xs.length cc] 29 xH _ (fun w R Q=>yM xD (Zch Q.2 H.2.1 H.1 H.2.2 (by omega) (by omega))) fun⟨W,X,Y⟩=>?_
  refine xq 1 [yU 30 ((val W64 xs%r:Nat):Int)] [] ?_
  refine yD (d:=31) (fun zb:Nat=>.slice (some ⟨zb,0,none⟩) 1 1) (fun zb zw=>Blk 94 zw zb #[.int .u64 ((val W64 xs%r:Nat):Int)]) (fun w R Q=>kC (t:=77) (e:=94) (n:=1) (sz:=1) (z:=.int .u64 0) (parts:=#[(0,Operand.tmp 30)]) (by kernel_rfl) (by kernel_rfl) (by kernel_rfl) (by kernel_rfl) (by kernel_rfl) (by kernel_rfl)) fun h0=>?_
  refine xr 0 [eS1 0 A xs.length c,eS1 1 f ys.length c2,eS1 4 none 0 0,eS1 5 none 0 0,eS1 29 W X Y,eS1 31 (some ⟨h0,0,none⟩) 1 1] [] ?_
  refine xqc 106 [.slice (some ⟨h0,0,none⟩) 1 1] 32 xH _ (fun w R Q=>yM xD (Zch (Q.2).own1 (Dig.nil.cons (qF (uP _ (by omega)) (by rw[←C];exact hy.getD zM _))) (show [val W64 xs%r].length=1 from rfl) (show val W64 [val W64 xs%r]=val W64 xs%r by simp) (by omega) (by omega))) fun⟨i0,j0,k0⟩=>?_
  refine xq 2 [eS1 4 W X Y,eS1 5 i0 j0 k0] [] ?_
  refine xe (zA (zG (zI ?_)))
  refine yR (.tuple #[.slice W X Y,.slice i0 j0 k0]) fun w' R Q=>?_
  exact⟨_,_,rfl,by rw[g0];exact Q.1.1.2,by rw[g0];exact Q.2,R⟩
 have U:=wY G
 refine zN (zA (zC (zB (xq 4 [eS1 33 f ys.length c2,yJ 36 (IntKind.i64.wrap (((ys.length:Nat):Int)-1))] [] ?_))))
 rw[yW (((ys.length:Nat):Int)-1) (((ys.length-1:Nat):Int)) (by omega)]
 refine xqk 37 (atA f (ys.length-1)) (fun w R Q=>wJ (t:=77) (e:=94) (x:=.tmp 33) (ix:=.tmp 36) (len:=ys.length) (cap:=c2) (i:=ys.length-1) ((Q.1.2).ne (j:=ys.length-1) (by omega)) (by omega)) ?_
 obtain⟨l0,I⟩:=yE (ys[ys.length-1]?.getD 0)
 refine xqk 38 (.int .u64 (l0:Int)) (fun w R Q=>by rw[←I];exact lF (t:=94) (x:=.tmp 37) (Q.1.2) (j:=ys.length-1) (by omega)) ?_
 obtain⟨t,rfl⟩:∃ t,t=l0:=⟨_,rfl⟩
 refine xqc 174 [.int .u64 (t:Int)] 39 (fun _:Unit=>.int .i64 ((64-blen t:Nat):Int)) _ (fun w R Q=>yN (ZmD t _ (by rw[←I];exact hy.getD zM _))) fun xx=>?_
 refine xq 1 [yJ 8 ((64-blen t:Nat):Int)] [] ?_
 refine xe (zA (zC (zB (xq 2 [eS1 40 f ys.length c2,yJ 41 ((64-blen t:Nat):Int)] [] ?_))))
 refine xqc 66 [.slice f ys.length c2,.int .i64 ((64-blen t:Nat):Int)] 42 xH _ (fun w R Q=>yM xD (kL (64-blen t) Q.1.1.1.2 E0 (by omega))) fun⟨g,m0,o⟩=>?_
 refine xq 1 [eS1 9 g m0 o] [] ?_
 refine xe (zA (zC ?_))
 refine SXc.know (p:=m0=(wds (val W64 ys*2^(64-blen t))).length∧(wds (val W64 ys*2^(64-blen t))).length≤o) (fun w _ Q=>(Q.2).lens) fun N=>?_
 obtain⟨dd,B⟩:∃ dd,dd=wds (val W64 ys*2^(64-blen t)):=⟨_,rfl⟩
 rw[←B] at N
 obtain⟨rfl,O0⟩:=N
 have Z:Dig W64 dd:=by rw[B];exact (eY _).1
 have n0:Trim dd:=by rw[B];exact ZfH _
 have a0:val W64 dd=val W64 ys*2^(64-blen t):=by rw[B];exact (eY _).2
 have b0:dd.length=ys.length:=by rw[B,ZlI];exact ZrC (k:=ys.length-1) hy (by omega) ty I
 have J:0<val W64 dd:=aT n0 zM (fun e=>by rw[e] at b0;simp at b0;omega)
 have o0:=xZ Z
 refine zB (xq 3 [yJ 45 (IntKind.i64.wrap (((xs.length:Nat):Int)+1))] [] ?_)
 rw[yW (((xs.length:Nat):Int)+1) (((xs.length+1:Nat):Int)) (by omega)]
 refine Zdh (d:=46) (t:=77) (e:=94) (k:=.u64) (kl:=.i64) (kc:=.i64) (l:=.tmp 45) (c:=.tmp 45) (xs.length+1) 8 (by omega) (by decide) fun b P p0=>?_
 have hA:∀ a,g=some a→a.block≠b:=fun a ha=>Nat.ne_of_lt (p0 a.block (fun w Q=>(Q.2).shows.lt (by rw[←B,b0];omega) ha))
 refine xr 1 [eS1 0 A xs.length c,eS1 1 f ys.length c2,eS1 4 none 0 0,eS1 5 none 0 0,yJ 8 ((64-blen t:Nat):Int),eS1 9 g dd.length o,eS1 10 (some ⟨b,0,none⟩) (xs.length+1) (xs.length+1)] [] ?_
 refine xe (zA (zC (zB (xq 3 [eS1 47 (some ⟨b,0,none⟩) (xs.length+1) (xs.length+1),eS1 48 A xs.length c,yJ 49 ((64-blen t:Nat):Int)] [] ?_))))
 refine xqc 66 [.slice A xs.length c,.int .i64 ((64-blen t:Nat):Int)] 50 xH _ (fun w R Q=>yM xD (kL (64-blen t) (Q.1).self.1.1.1.1.1.1 hw (by omega))) fun⟨G0,q0,r0⟩=>?_
 refine SXi.know (p:=q0=(wds (val W64 xs*2^(64-blen t))).length∧(wds (val W64 xs*2^(64-blen t))).length≤r0) (fun w _ Q=>(Q.2).lens) fun N=>?_
 have S:=ZrD (s:=64-blen t) hx (by omega)
 rw[←ZlI] at S
 obtain⟨s0,t0,c0⟩:=Zpu (n:=xs.length+1) (eY (val W64 xs*2^(64-blen t))).1 S
 rw[(eY _).2] at c0
 obtain⟨zz,u0⟩:=yE ((wds (val W64 xs*2^(64-blen t))).take (xs.length+1) ++ (List.replicate (xs.length+1) 0).drop (wds (val W64 xs*2^(64-blen t))).length)
 rw[u0] at s0 t0 c0
 refine Zqz (d:=51) (dx:=Operand.tmp 47) (sx:=Operand.tmp 50) (dT:=77) (sT:=77) (e:=94) (k:=.u64) (sp:=G0) (mid:=List.replicate (xs.length+1) 0) (ys:=wds (val W64 xs*2^(64-blen t))) (n:=xs.length+1) (m:=q0) (dc:=xs.length+1) (sc:=r0) b (fun w=>((Box (fun j=>b≤j) w (fun w=>((((((zK w (.slice A xs.length c) (val W64 xs)∧zF .u64 w A (xs))∧zK w (.slice f ys.length c2) (val W64 ys))∧zF .u64 w f (ys))∧True)∧True)∧zK w (.slice g dd.length o) (val W64 ys*2^(64-blen t))))∧Own .u64 94 w b (zz))∧True)) (by simp) N.1.symm (by simp) (fun w Q=>Q.1.2) (fun w Q=>(Q.2).shows) (Or.inl P) (fun w w' Q M V=>⟨⟨((Q.1.1).fr (M.mono (fun _ _ e=>by rw[e];exact uM _))),(by rw[←u0];rwa [qE] at V)⟩,trivial⟩) ?_
 refine xr 0 [eS1 0 A xs.length c,eS1 1 f ys.length c2,eS1 4 none 0 0,eS1 5 none 0 0,yJ 8 ((64-blen t:Nat):Int),eS1 9 g dd.length o,eS1 10 (some ⟨b,0,none⟩) (xs.length+1) (xs.length+1)] [] ?_
 refine xe (zA (zC (zB (xq 5 [yJ 56 (IntKind.i64.wrap (((xs.length:Nat):Int)-((ys.length:Nat):Int)))] [] ?_))))
 rw[yW (((xs.length:Nat):Int)-((ys.length:Nat):Int)) (((xs.length-(ys.length):Nat):Int)) (by omega)]
 refine xq 1 [(57,.v (.int .i64 (IntKind.i64.wrap (((xs.length-(ys.length):Nat):Int)+1))))] [] ?_
 rw[show IntKind.i64.wrap ((((xs.length-(ys.length):Nat):Int)+1))=((xs.length-(ys.length)+1:Nat):Int) by rw[IntKind.wrap_i64];omega]
 refine Zdh (d:=58) (t:=77) (e:=94) (k:=.u64) (kl:=.i64) (kc:=.i64) (l:=.tmp 57) (c:=.tmp 57) (xs.length-(ys.length)+1) 8 (by omega) (by decide) fun r22 v0 w0=>?_
 have P0:b<r22:=w0 b (fun w Q=>(Q.1.2).lt)
 refine xr 1 [eS1 1 f ys.length c2,eS1 4 none 0 0,eS1 5 none 0 0,yJ 8 ((64-blen t:Nat):Int),eS1 9 g dd.length o,eS1 10 (some ⟨b,0,none⟩) (xs.length+1) (xs.length+1),eS1 11 (some ⟨r22,0,none⟩) (xs.length-(ys.length)+1) (xs.length-(ys.length)+1)] [] ?_
 refine xe (zA (zC (zC (zB (xq 3 [(61,.v (.int .i64 (IntKind.i64.wrap (((xs.length-(ys.length)+1:Nat):Int)-1))))] [] ?_)))))
 rw[yW (((xs.length-ys.length+1:Nat):Int)-1) (((xs.length-ys.length+1:Nat):Int)-1) (by omega)]
 refine xq 1 [yJ 12 (((xs.length-ys.length+1:Nat):Int)-1)] [] ?_
 refine xe (zA (xM ?_))
 refine SXc.weak [eS1 1 f ys.length c2,eS1 4 none 0 0,eS1 5 none 0 0,yJ 8 ((64-blen t:Nat):Int),eS1 9 g dd.length o,eS1 10 (some ⟨b,0,none⟩) (xs.length+1) (xs.length+1),eS1 11 (some ⟨r22,0,none⟩) (xs.length-(ys.length)+1) (xs.length-(ys.length)+1),yJ 12 ((((xs.length-ys.length+1):Nat):Int)-1)] [] (Ψ:=fun w=>((Box (fun j=>b≤j) w (fun w=>((((((zK w (.slice A xs.length c) (val W64 xs)∧zF .u64 w A (xs))∧zK w (.slice f ys.length c2) (val W64 ys))∧zF .u64 w f (ys))∧True)∧True)∧zK w (.slice g dd.length o) (val W64 ys*2^(64-blen t))))∧Own .u64 94 w b (zz))∧Own .u64 94 w r22 ((List.replicate (xs.length-(ys.length)+1) 0)))) (xK.of (by kernel_rfl)) (by kernel_rfl) (fun w Q=>⟨⟨(Q.1).self.1.1,(Q.1).self.1.2⟩,Q.2⟩) ?_
 refine kW (fun nn ss ff=>∃ (k:Nat) (D qs:List Nat),ss=ofL [eS1 1 f ys.length c2,eS1 4 none 0 0,eS1 5 none 0 0,yJ 8 ((64-blen t:Nat):Int),eS1 9 g dd.length o,eS1 10 (some ⟨b,0,none⟩) (xs.length+1) (xs.length+1),eS1 11 (some ⟨r22,0,none⟩) (xs.length-(ys.length)+1) (xs.length-(ys.length)+1),yJ 12 ((k:Int)-1)] []∧ff=(fun w=>((Box (fun j=>b≤j) w (fun w=>((((((zK w (.slice A xs.length c) (val W64 xs)∧zF .u64 w A (xs))∧zK w (.slice f ys.length c2) (val W64 ys))∧zF .u64 w f (ys))∧True)∧True)∧zK w (.slice g dd.length o) (val W64 ys*2^(64-blen t))))∧Own .u64 94 w b (D))∧Own .u64 94 w r22 (qs)))∧(OvR (val W64 xs*2^(64-blen t)) (val W64 dd) (xs.length+1) (xs.length-ys.length+1) k D qs)∧(k≤xs.length-ys.length+1)∧nn=(1+k)) ((1+(xs.length-ys.length+1))) ⟨(xs.length-ys.length+1),zz,(List.replicate (xs.length-(ys.length)+1) 0),rfl,rfl,(OvR.start s0 t0 c0 (by rw[a0];exact Zsa hx ty (by omega) (by omega))),uM _,rfl⟩ ?_
 rintro nn ss ff ⟨k,D,qs,rfl,rfl,E,hk,rfl⟩
 refine zC (zC (zB (xq 2 [(63,.v (.bool (decide (((k:Int)-1)≥0))))] [] ?_)))
 refine xe (zA ?_)
 refine yQ ((decide (((k:Int)-1)≥0))) (fun K=>?_) fun K=>?_
 ·have d0:=uD K
  obtain⟨j,rfl⟩:∃ j,k=j+1:=⟨k-1,by omega⟩
  rw[show ((((j+1):Nat):Int)-1)=(j:Int) by omega]
  refine zN (zA (zC (xM (zB (xq 8 [eS1 66 (some ⟨r22,0,none⟩) (xs.length-(ys.length)+1) (xs.length-(ys.length)+1),yJ 67 (j:Int),eS1 68 (some ⟨b,0,none⟩) (xs.length+1) (xs.length+1),yJ 69 (j:Int),yJ 73 (IntKind.i64.wrap ((j:Int)+((ys.length:Nat):Int)))] [] ?_)))))
  rw[yW ((j:Int)+((ys.length:Nat):Int)) (((j+(ys.length):Nat):Int)) (by omega)]
  refine xq 1 [(74,.v (.int .i64 (IntKind.i64.wrap (((j+(ys.length):Nat):Int)+1))))] [] ?_
  rw[show IntKind.i64.wrap ((((j+(ys.length):Nat):Int)+1))=((j+(ys.length)+1:Nat):Int) by rw[IntKind.wrap_i64];omega]
  refine xqk 75 (.slice (some ⟨b,j,none⟩) (dd.length+1) (xs.length+1-j)) (fun w R Q=>Zpo (t:=77) (e:=94) (x:=.tmp 68) (len:=(xs.length+1)) (cap:=(xs.length+1)) (l:=j) (h:=j+(ys.length)+1) (n:=dd.length+1) (m:=xs.length+1-j) (lo:=.tmp 69) (hi:=.tmp 74) (by omega) (by omega) (by omega) (by omega) (by omega)) ?_
  refine xq 1 [eS1 76 g dd.length o] [] ?_
  refine Zdg (xs:=D) (α:=List Nat) 175 [.slice (some ⟨b,j,none⟩) (dd.length+1) (xs.length+1-j),.slice g dd.length o] (d:=77) (fun x=>.int .u64 ((win j dd.length D/val W64 dd:Nat):Int)) (fun x=>WinR j dd.length D x∧win j dd.length x=win j dd.length D%val W64 dd) (fun x=>x) b (fun x w=>((Box (fun j=>b≤j) w (fun w=>((((((zK w (.slice A xs.length c) (val W64 xs)∧zF .u64 w A (xs))∧zK w (.slice f ys.length c2) (val W64 ys))∧zF .u64 w f (ys))∧True)∧True)∧zK w (.slice g dd.length o) (val W64 ys*2^(64-blen t))))∧Own .u64 94 w b (x))∧Own .u64 94 w r22 (qs))) (fun w Q=>Q.1.2) (by have:=E.1;omega) (Or.inl P) (fun w R Q=>ZgC b _ j D dd _ _ _ Q.1.2 (by rw[B];exact ((Q.1.1).self.2).shows) hA (by rw[E.1];omega) (by rw[E.1];omega) E.2.1 Z (by omega) J (E.ready o0 (by omega)).2.2) (fun x w w' hp Q M V=>⟨⟨((Q.1.1).fr (M.mono (fun _ _ e=>by rw[e];exact uM _))),V⟩,((Q.2).fr M (show ¬ (r22=b) by omega))⟩) fun x T=>?_
  obtain⟨L,rfl⟩:∃ y,y=x:=⟨_,rfl⟩
  have HS:=E.step o0 J (by omega) (by omega) T.1 T.2
  have Q0:=E.2.2.1
  refine xr 0 [eS1 1 f ys.length c2,eS1 4 none 0 0,eS1 5 none 0 0,yJ 8 ((64-blen t:Nat):Int),eS1 9 g dd.length o,eS1 10 (some ⟨b,0,none⟩) (xs.length+1) (xs.length+1),eS1 11 (some ⟨r22,0,none⟩) (xs.length-(ys.length)+1) (xs.length-(ys.length)+1),yJ 12 (j:Int),eS1 66 (some ⟨r22,0,none⟩) (xs.length-(ys.length)+1) (xs.length-(ys.length)+1),yJ 67 (j:Int),yU 77 ((win j dd.length D/val W64 dd:Nat):Int)] [] ?_
  refine xqk 78 (.pointer (some ⟨r22,j,none⟩)) (fun w R Q=>kR (t:=77) (e:=94) (x:=.tmp 66) (ix:=.tmp 67) (len:=(xs.length-(ys.length)+1)) (cap:=(xs.length-(ys.length)+1)) (i:=j) (by omega)) ?_
  refine iL (t:=94) (x:=.tmp 78) (y:=.tmp 77) r22 (j) (win j dd.length D/val W64 dd) (fun w=>((Box (fun j=>b≤j) w (fun w=>((((((zK w (.slice A xs.length c) (val W64 xs)∧zF .u64 w A (xs))∧zK w (.slice f ys.length c2) (val W64 ys))∧zF .u64 w f (ys))∧True)∧True)∧zK w (.slice g dd.length o) (val W64 ys*2^(64-blen t))))∧Own .u64 94 w b (L))∧Own .u64 94 w r22 ((qs).set (j) (win j dd.length D/val W64 dd)))) (fun w Q=>Q.2) (by omega) (Or.inl v0) (fun w w' Q M V=>⟨⟨((Q.1.1).fr (M.mono (fun _ _ e=>by rw[e];omega))),((Q.1.2).fr M (show ¬ (b=r22) by omega))⟩,V⟩) ?_
  refine xe (lN (zA (zB (xq 2 [yJ 65 (IntKind.i64.wrap ((j:Int)-1))] [] ?_))))
  rw[yW ((j:Int)-1) ((j:Int)-1) (by omega)]
  refine xq 1 [yJ 12 ((j:Int)-1)] [] ?_
  refine xe ?_
  refine SXq.weak [eS1 1 f ys.length c2,eS1 4 none 0 0,eS1 5 none 0 0,yJ 8 ((64-blen t:Nat):Int),eS1 9 g dd.length o,eS1 10 (some ⟨b,0,none⟩) (xs.length+1) (xs.length+1),eS1 11 (some ⟨r22,0,none⟩) (xs.length-(ys.length)+1) (xs.length-(ys.length)+1),yJ 12 ((j:Int)-1)] [] (Ψ:=fun w=>((Box (fun j=>b≤j) w (fun w=>((((((zK w (.slice A xs.length c) (val W64 xs)∧zF .u64 w A (xs))∧zK w (.slice f ys.length c2) (val W64 ys))∧zF .u64 w f (ys))∧True)∧True)∧zK w (.slice g dd.length o) (val W64 ys*2^(64-blen t))))∧Own .u64 94 w b (L))∧Own .u64 94 w r22 (((qs).set (j) (win j dd.length D/val W64 dd))))) (xK.of (by kernel_rfl)) (by kernel_rfl) (fun w Q=>⟨⟨Q.1.1,Q.1.2⟩,Q.2⟩) ?_
  exact lE ((1+j)) (by omega) ⟨j,L,((qs).set (j) (win j dd.length D/val W64 dd)),rfl,rfl,HS,by omega,rfl⟩
 have d0:=uH K
 obtain rfl:k=0:=by omega
 refine lO (xC (xC (kQ (zA (zC (zB (xq 1 [eS1 79 (some ⟨r22,0,none⟩) (xs.length-(ys.length)+1) (xs.length-(ys.length)+1)] [] ?_)))))))
 refine xqc 106 [.slice (some ⟨r22,0,none⟩) (xs.length-(ys.length)+1) (xs.length-(ys.length)+1)] 80 xH _ (fun w R Q=>yM xD (Zch Q.2 E.2.2.2.1 E.2.2.1 ((E.done J).1.trans (by rw[a0,ZrF])) (by omega) (by omega))) fun⟨x0,y0,z0⟩=>?_
 refine xq 1 [eS1 81 (some ⟨b,0,none⟩) (xs.length+1) (xs.length+1)] [] ?_
 refine xqc 106 [.slice (some ⟨b,0,none⟩) (xs.length+1) (xs.length+1)] 82 xH _ (fun w R Q=>yM xD (Zch Q.1.1.2 E.2.1 E.1 (E.done J).2 (by omega) (by omega))) fun⟨H0,I0,J0⟩=>?_
 refine xq 1 [yJ 83 ((64-blen t:Nat):Int)] [] ?_
 refine xqc 128 [.slice H0 I0 J0,.int .i64 ((64-blen t:Nat):Int)] 84 xH _ (fun w R Q=>(gI (64-blen t) Q.2 (uE (wR (rT (uP _ J))) (by rw[←xR Z n0];omega)) (by omega)).mono (fun _ _ h=>xD (by rw[show (val W64 xs*2^(64-blen t)%val W64 dd)/2^(64-blen t)=val W64 xs%val W64 ys by rw[a0,ZrE]] at h;exact h))) fun⟨A0,B0,C0⟩=>?_
 refine xq 2 [eS1 4 x0 y0 z0,eS1 5 A0 B0 C0] [] ?_
 refine xe (zA (zG ?_))
 refine yR (.tuple #[.slice x0 y0 z0,.slice A0 B0 C0]) fun w' R Q=>?_
 exact⟨_,_,rfl,Q.1.1.2,Q.2,R⟩
end Go.Proofs.YtklpdkpcocnglaaGreatDoor
