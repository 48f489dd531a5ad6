/-
 My texts.
-/
import Derived.Test.YtdlgidnkmbklcaaGreatDoorZ18
import Derived.Test.YtdlgidnkmbklcaaGreatDoorZ19
set_option maxRecDepth 100000
set_option maxHeartbeats 8000000
namespace Go.Proofs.YtdlgidnkmbklcaaGreatDoor
open Go.RowKit
abbrev Fv3:=Bool×Nat × Int
def flC (x:ByteArray×Int):List Value:=[.string x.1,.int .i64 x.2]
structure Nb where
 s:Bool
 A:Option Addr
 l:Nat
 c:Nat
 m:Nat
 e:Int
def nb0:Nb:=⟨false,none,0,0,0,0⟩
instance:Inhabited Nb:=⟨nb0⟩
def nbC (x:Nb):List Value:=[.bool x.s,.slice x.A x.l x.c,.int .i64 x.e]
def nbV (x:Nb):Fv3:=(x.s,x.m,x.e)
def NbOk (w:World) (x:Nb):Prop:=zL w (.slice x.A x.l x.c) x.m
def wH (w:World) (xs:List Nb):Prop:=∀ x∈xs,NbOk w x
theorem cO (x:Nb):(nbC x).length=3:=rfl
theorem gX (x:ByteArray×Int):(flC x).length=2:=rfl
theorem Zgd (x:Nb):∀ (k:IntKind) (z:Int),Value.int k z∈nbC x→k=.i64:=fun k z h=>by
 simp[nbC] at h;exact h.1
theorem ZnB (x:ByteArray×Int):∀ (k:IntKind) (z:Int),Value.int k z∈flC x→k=.i64:=fun k z h=>by
 simp[flC] at h;exact h.1
theorem Zr3 (w:World):NbOk w nb0:=zL.zero w
section
variable {w w':World} {xs:List Nb} {m n c k:Nat} {e:TypeId} {A:Option Addr} {l:List Value}
theorem wH.nrb {S:Nat→Prop}(h:wH w xs)(a:∀ i,S i→NRB w i)(b:Fr S w w'):wH w' xs:=fun x d=>(h x d).nrb a b
theorem wH.ext (h:wH w xs)(a:Ext w w'):wH w' xs:=fun x b=>(h x b).ext a
theorem wH.row (h:wH w xs)(a:OwnD w m e k A c n l)(b:Fr (fun i=>A=some ⟨i,0,none⟩) w w'):wH w' xs:=h.nrb (fun _ hi=>a.nrb hi) b
theorem zL.rowD {v:Value}{x:Nat}(h:zL w v x)(a:OwnD w m e k A c n l)(b:Fr (fun i=>A=some ⟨i,0,none⟩) w w'):zL w' v x:=h.nrb (fun _ hi=>a.nrb hi) b
theorem wH.get {j:Nat}(h:wH w xs)(a:j<xs.length):zL w (.slice xs[j]!.A xs[j]!.l xs[j]!.c) xs[j]!.m:=h _ (by rw[vT xs j a];exact tZ a)
theorem wH.zero (w:World)(n:Nat):wH w (List.replicate n nb0):=fun x a=>by rw[(rE.1 a).2];exact Zr3 w
end
def fill (n:Nat) {α:Type} (z:α) (l:List α):List α:=l ++ List.replicate (n-l.length) z
theorem Zff {n:Nat}{α:Type}{z:α}{l:List α}(h:l.length≤n):(fill n z l).length=n:=by unfold fill;simp;omega
theorem Zfg {α:Type}{z:α}{l:List α}:fill l.length z l=l:=by unfold fill;simp
theorem Zjf {n:Nat}{α:Type}{z x:α}{l:List α}(h:l.length<n):(fill n z l).set l.length x=fill n z (l ++ [x]):=by
 unfold fill
 rw[pB _ _ (uF _),qM,show n-l.length=(n-(l ++ [x]).length)+1 by simp;omega,oJ,List.set_cons_zero,vU]
 rfl
theorem Zfh (n:Nat){α:Type}(z:α):fill n z []=List.replicate n z:=by unfold fill;simp
def SRd (w:World) (A:Option Addr) (ss:List ByteArray):Prop:=∀ i,i<ss.length→∃ b off,A=some ⟨b,off,none⟩∧b<w.heap.size∧w.cell? ⟨b,off+i,none⟩=some (.string ss[i]!)
section
variable {P:Program} {o:Oper} {ρ:Operand→Value} {w:World} {t e:TypeId} {x ix:Operand}
theorem ZcP {b len cap i sz:Nat}(h:i<len)(a:o.op=Op.indexAddr t x ix:=by kernel_rfl)(d:P.underlying t=some (.slice e):=by kernel_rfl)(f:(P.info? e).map (fun i=>i.size)=some sz:=by kernel_rfl)(g:ρ x=.slice (some ⟨b,0,none⟩) len cap:=by kernel_rfl)(hi:ρ ix=.int .i64 (i:Int):=by kernel_rfl):(execOp ρ o).run P w=.ok (.value (.pointer (some ⟨b,0+i*sz,none⟩))) w:=by
 have:=xM (w:=w) (A:=some ⟨b,0,none⟩) qS h a d f g hi
 rw[this,atA,rK,jW]
theorem Zpe {A:qA}{a:List ByteArray}{j:Nat}(d:SRd w A a)(f:j<a.length)(g:o.op=Op.load t x:=by kernel_rfl)(h:ρ x=atA A (j*1):=by kernel_rfl)(ha:(teOf P t).map (fun e=>e.agg)=some false:=by kernel_rfl) :
 (execOp ρ o).run P w=.ok (.value (.string a[j]!)) w:=by
 obtain⟨b,i,rfl,_,p⟩:=d j f
 exact kV p g (by rw[h,atA,rK,jW,sU]) ha
end
section
variable {N:Nat} {S0:Nat→Prop} {w0:World} {s s':St} {Φ Ψ Φ0:World→Prop} {L:Nat→Nat} {a:Act} {w:World} {P:Program} {ops:Array Oper} {Q:Exit→Act→World→Prop} {o:Oper} {fin:St→(World→Prop)→Prop}
def Zgo:Op→Bool
 | .extract _ _=>true
 | _=>false
theorem Zpq (hi:Inv N S0 w0 s Φ L a w){o:Oper}{x:AV}(h:lW P o s=some x)(w':World):∃ y,x=.v y∧(execOp a.eval o).run P w'=.ok (.value y) w':=by
 unfold lW at h
 cases hb:kU o.op && o.op.operands.toList.all s.vB with
 | false=>rw[hb] at h;cases h
 | true =>
  rw[hb] at h
  rw[tD] at hb
  simp only[cond_true] at h
  split at h
  ·rename_i y b
   injection h with h
   refine⟨y,h.symm,?_⟩
   rw[hi.exec hb.1 hb.2]
   exact ZbR b w'
  cases h
theorem Zn2 {e d:Nat}(hex:Zgo (opAt ops e).op=true)(c:(opAt ops e).guard=none)(f:(opAt ops e).dst=some d)(h:Strat P N S0 w0 ops Φ0 fin [e] s Φ):∃ v,s.wantB ops (opAt ops e)=some true∧lW P (opAt ops e) s=some (.v v)∧d<N∧Strat P N S0 w0 ops Φ0 fin [] (s.app d (.v v,none)) Φ:=by
 have g:cls (opAt ops e).op=0:=by
  cases h:(opAt ops e).op<;>first|rfl | (rw[h] at hex;cases hex)
 have b:s.wantB ops (opAt ops e)=some true:=by unfold St.wantB;rw[c]
 cases h with
 | flt hx hd hN K =>
  rename_i r m
  rw[f] at hd
  injection hd with hd
  subst hd
  rcases hx with hx|⟨y,_,hk,_⟩
  ·unfold jI at hx
   rw[b] at hx
   have i:noB (lW P (opAt ops e) s)=some r:=by
    cases h:(opAt ops e).op<;>first | (rw[h] at hex;cases hex;done) | (rw[h] at hx;simpa using hx)
   obtain⟨y,j,k⟩:=lS i
   obtain⟨v,l⟩:=Zdy j
   subst l
   rw[k] at K
   exact⟨v,b,j,hN,K⟩
  cases h:(opAt ops e).op<;>first | (rw[h] at hex;cases hex;done) | (rw[h] at hk;cases hk)
 | does hα sh φ hm=>rw[g] at hm;cases hm
 | gen hα sh E Ψ hm=>rw[g] at hm;cases hm
 | sto hm=>rw[g] at hm;cases hm
theorem Zmu {s0:St}{n e d:Nat}{R:Nat→Nat→Bool}(hR:Zbt ops R)(hu:cH ops=true)(hn:n≤ops.size)(C:aN ops=true)(D:∀ i,i<n→i≠e→fC .any ops n i=true)(E:ZaI R ops s0 n=true)(T:Region.seqB .any ops (ops.size-n) n (iE ops n)=true)(g0:∃ w,Φ0 w)(he:e<n)(h0:Zgo (opAt ops e).op=true)(i0:(opAt ops e).guard=none)(r:(opAt ops e).dst=some d)(U:∀ (j:Nat) (o:Oper) cs b,ops[j]? = some o→o.op≠.select cs b)(V:∀ j oj,ops[j]? = some oj→n≤j→(opAt ops e).apart ops oj=true)(hQ:∀ c a w v,Q (.panic c) (a.put (some d) v) w→Q (.panic c) a w)(W:∀ s Φ,fin s Φ→∀ L a w,Inv N S0 w0 s Φ L a w→wpList P ops Q (ops.toList.drop n) a w) :
 ∀ (k:Nat) (listed:Array Bool) (s:St) (Φ:World→Prop) (L:Nat→Nat) (a:Act) (w:World),(un n listed).length=k→listed.size=ops.size→(∀ i,n≤i→i<ops.size→listed.getD i true=false)→eO .any ops listed →
 BI ops s0 s→(∀ w,Φ w→Φ0 w)→Inv N S0 w0 s Φ L a w→Strat P N S0 w0 ops Φ0 fin (un n listed) s Φ→wpAny P .any ops Q (k+(ops.size-n)) listed a w:=by
 intro k
 induction k with
 | zero =>
  intro listed s Φ L a w hk p t q u S hi hS
  have A:un n listed=[]:=tG.1 hk
  rw[A] at hS
  have F:listed=iE ops n:=by
   refine Array.ext (by simp[iE,p];omega) fun i f h2=>?_
   have G:i<ops.size:=by rw[←p];exact f
   have e:listed.getD i true=listed[i]:=by simp[f]
   rw[←e]
   by_cases I:i<n
   ·have:listed.getD i true≠false:=fun h=>by
     have:=jJ.2 ⟨I,h⟩
     rw[A] at this
     cases this
    simp only[iE,pU]
    rw[qP (by simpa using I),rZ]
    cases h:listed.getD i true with
    | true=>rfl
    | false=>exact absurd h this
   rw[t i qO G]
   simp only[iE,pU]
   rw[oH (by simpa using I),rZ]
  have X:(ops.toList.drop n).length=ops.size-n:=qS
  cases hS with
  | done hf =>
   have:=wpAny_of_seq (md:=.any) (Q':=Q) (ops.toList.drop n) n listed a w (fun j=>qS) (by rw[X,F];exact T) (W _ _ hf L a w hi)
   rw[X] at this
   rw[tA];exact this
 | succ k ih =>
  intro listed s Φ L a w hk p t q u S hi hS
  rw[show k+1+(ops.size-n)=(k+(ops.size-n))+1 by omega]
  obtain⟨x,R',g⟩:∃ x R,un n listed=x :: R:=by
   cases h:un n listed with
   | nil=>rw[h] at hk;cases hk
   | cons x R=>exact⟨x,R,rfl⟩
  have hx:=jJ.1 (by rw[g];exact tT:x∈un n listed)
  have Y:∀ i,i<x→listed.getD i true=true:=fun i D0=>by
   cases h:listed.getD i true with
   | true=>rfl
   | false =>
    have:=jJ.2 ⟨(by omega:i<n),h⟩
    rw[g] at this
    have B:=fV n listed
    rw[g] at B
    rcases List.mem_cons.1 this with e|e
    ·omega
    have:=(List.pairwise_cons.1 B).1 i e;omega
  have hxr:x∈Region.ready .any ops listed:=by
   have z:x<ops.size:=qO
   refine mem_ready.2 ⟨hx.2,opAt ops x,iT z,fun e he j0=>?_⟩
   have f:=vI.1 C x (rB.2 z)
   rw[iT z] at f
   have Z:=Array.all_eq_true'.1 f e he
   rw[j0] at Z
   have h2:=vS Z
   have h3:=Y e.on h2
   have h4:e.on<listed.size:=by rw[p];exact qL h2 z
   simp[h4] at h3 ⊢;exact h3
  by_cases l:∀ y,y∈un n listed→y=e
  ·have k0:x=e:=l x (by rw[g];exact tT)
   have J:R'=[]:=by
    cases R' with
    | nil=>rfl
    | cons y R2 =>
     have B:=fV n listed
     rw[g] at B l
     have f:=(List.pairwise_cons.1 B).1 y tT
     have h2:=l y (List.mem_cons_of_mem _ tT)
     omega
   subst k0
   rw[g,J] at hS
   have a0:x<ops.size:=qO
   obtain⟨v,hw,l0,hN,K'⟩:=Zn2 h0 i0 r hS
   have O:Yields P ops (opAt ops x) v a:=by
    refine Or.inl ⟨hi.want hw,fun w'=>?_⟩
    obtain⟨y,K,m0⟩:=Zpq hi l0 w'
    injection K with K
    rw[K];exact m0
   have m:=ZfP (l1:=[]) (l2:=[]) (by rw[g,J];rfl:un n listed=[] ++ x :: [])
   have n0:k=0:=by rw[g,J] at hk;simpa using hk.symm
   have H:=ih (listed.setIfInBounds x true) _ Φ L _ w (by rw[m,n0];rfl) (by simp[p]) (fun i f h2=>by rw[getD_set_ne true qO];exact t i f h2) (q.set hxr) (u.app hu a0 r (fun b off hr=>by cases hr) (fun b off hr=>by cases hr)) S (hi.app0 (d:=d) hN (al_v (s:=s) v)) (by rw[m];exact K')
   refine wpAny_first (i:=x) (oi:=opAt ops x) (v:=v) (iT a0) U (fun c a w=>by rw[r];exact hQ c a w v) _ listed a w (fun j oj hj o0 p0 _=>?_) hxr O (by rw[r];exact H)
   refine V j oj hj ?_
   rcases vM j n with h|h
   ·exact absurd (l j (jJ.2 ⟨h,p0⟩)) o0
   exact h
  obtain⟨y0,q0,b0⟩:∃ y,y∈un n listed∧y≠e:=by
   refine Classical.byContradiction fun r0=>l fun y O=>Classical.byContradiction fun t0=>r0 ⟨y,O,t0⟩
  have c0:=jJ.1 q0
  refine⟨fun h=>(by rw[h] at hxr;cases hxr),fun j hj=>?_⟩
  have d0:j<n:=Ze6 (D y0 c0.1 b0) q c0.2 hj
  obtain⟨e0,oj,u0,M⟩:=mem_ready.1 hj
  have v0:j∈un n listed:=jJ.2 ⟨d0,e0⟩
  obtain⟨l1,l2,F⟩:=List.append_of_mem v0
  have B:=fV n listed
  rw[F] at B
  have x0:∀ y,y∈l1→y<ops.size∧(opAt ops y).apart ops (opAt ops j)=true∧(iL (opAt ops y).op (opAt ops j).op=true∨(lsB (opAt ops y).op (opAt ops j).op=true∧farB ops s0 (opAt ops y) (opAt ops j)=true)):=fun y O=>by
   have z0:y<j:=(List.pairwise_append.1 B).2.2 y O j tT
   have A0:=(jJ.1 (by rw[F];exact List.mem_append_left _ O:y∈un n listed)).2
   have f:=vI.1 (vI.1 E j (rB.2 d0)) y (rB.2 z0)
   rw[qY] at f
   rcases f with f|f
   ·have h2:=hR listed q j y f (fun o ho=>by
     have:o=oj:=rT (ho.symm.trans u0)
     subst this
     exact M)
    rw[getD_both A0] at h2
    cases h2
   simp only[tD,qY] at f
   exact⟨qO,f⟩
  rw[F] at hS
  have B0:=Strat.front hu g0 l1 l2 s Φ hi.wf u x0 hS
  refine Strat.exec hu u qO hi S B0 fun s' Φ' L' a' w' f0 C0 G K'=>?_
  have m:=ZfP F
  refine ih (listed.setIfInBounds j true) s' Φ' L' a' w' ?_ (by simp[p]) (fun i f h2=>?_) (q.set hj) f0 C0 G (by rw[m];exact K')
  ·rw[m]
   rw[F] at hk
   simp only[uN,sB] at hk ⊢
   omega
  rw[getD_set_ne true qO];exact t i f h2
def ZpU (ops:Array Oper) (s0:St) (n e d:Nat):Bool:=(Nat.ble (e+1) n && (Zgo (opAt ops e).op && (opAt ops e).guard.isNone && (match (opAt ops e).dst with | some k=>Nat.beq k d | none=>false)) && Region.noSelect ops && (List.range ops.size).all (fun j=>Nat.blt j n || (opAt ops e).apart ops (opAt ops j))) && (Nat.ble n ops.size && (cH ops && aN ops && ((List.range n).all (fun i=>Nat.beq i e || fC .any ops n i) && (ZaI (aM .any ops 4) ops s0 n && Region.seqB .any ops (ops.size-n) n (iE ops n)))))
theorem Zfm {o:Oper}{d:Nat}(h:(Zgo o.op=true∧o.guard.isNone=true)∧(match o.dst with | some k=>Nat.beq k d | none=>false)=true):Zgo o.op=true∧o.guard=none∧o.dst=some d:=by
 obtain⟨⟨b,c⟩,h3⟩:=h
 refine⟨b,by simpa using c,?_⟩
 split at h3
 ·rename_i k e
  rw[e,nD h3]
 cases h3
theorem Zmv {n e:Nat}(h:(List.range ops.size).all (fun j=>Nat.blt j n || (opAt ops e).apart ops (opAt ops j))=true):∀ j b,ops[j]? = some b→n≤j→(opAt ops e).apart ops b=true:=fun j b d k=>by
 have f:j<ops.size:=(rY.1 d).1
 have c:=vI.1 h j (rB.2 f)
 rw[qY] at c
 have g:opAt ops j=b:=by have:=iT f;rw[d] at this;injection this with this;exact this.symm
 rw[g] at c
 refine c.resolve_left fun i=>?_
 have:=vS i
 omega
theorem Zpr {id:Nat}(n e d:Nat){sl:SlL}{g:BlL}(p:∀ c a w v,Q (.panic c) (a.put (some d) v) w→Q (.panic c) a w)(h:StI P N S0 w0 ops Φ Q n 0 (ofL sl g) Φ)(k:ZpU ops (ofL sl g) n e d=true:=by kernel_rfl)(hI:Zbs ops sl=true:=by kernel_rfl)(q:P.follows .mixedOrders=true:=by exact zQ):SXc P N S0 w0 Q (.region id ops true) (ofL sl g) Φ:=by
 unfold ZpU at k
 simp only[tD] at k
 obtain⟨⟨⟨⟨r,l⟩,t⟩,u⟩,x,⟨y,z⟩,A,B,C⟩:=k
 have D:=vS x
 intro L a w hi
 refine wp_region_any q ?_
 have f:un n (Array.replicate ops.size false)=List.range n:=by
  unfold un
  refine List.filter_eq_self.2 fun i b=>?_
  have:=rB.1 b
  simp[show i<ops.size by omega]
 have:=Zmu (ZeI ops) (e:=e) (d:=d) (Q:=Q) (fin:=fun s Φ=>SXi P N S0 w0 ops Q n s Φ) y D z (fun i b m=>((qY _ _).mp (vI.1 A i (rB.2 b))).resolve_left (fun h=>m (nD h))) B C ⟨w,hi.box.self⟩ (vS r) (Zfm l).1 (Zfm l).2.1 (Zfm l).2.2 (Region.noSelect_spec t) (Zmv u) p (fun s Φ E L a w b=>E L a w b) (un n (Array.replicate ops.size false)).length (Array.replicate ops.size false) _ Φ L a w.drew rfl qS
  (fun i _ F=>by simp[F]) (fun j G _ hl=>by rw[getD_replicate_false] at hl;cases hl) (BI.init hI) (fun _ h=>h) hi.drew (by rw[f];unfold StI at h;rw[←List.range_eq_range'] at h;exact h)
 rw[f,rH,show n+(ops.size-n)=ops.size by omega] at this
 exact this
end
section
variable {N:Nat} {S0:Nat→Prop} {w0:World} {s:St} {Φ Φ0:World→Prop} {P:Program} {ops:Array Oper} {Q:Exit→Act→World→Prop}
theorem Inv.facts {Ψ:World→Prop}{L:Nat→Nat}{a:Act}{w:World}(h:Inv N S0 w0 s Ψ L a w)(Q:∀ w,Ψ w→Φ w):Inv N S0 w0 s Φ L a w :=
 ⟨h.size,h.df,h.sl,h.mem,fun w' b=>Q _ (h.box w' b)⟩
theorem SXi.facts {n:Nat}{Ψ:World→Prop}(h:SXi P N S0 w0 ops Q n s Φ)(R:∀ w,Ψ w→Φ w):SXi P N S0 w0 ops Q n s Ψ:=fun L a w hi=>h L a w (hi.facts R)
variable {n x0 y0:Nat} {RR:List Nat} {sl:SlL} {bl:BlL}
-- the part ahead of the pair
structure IsDo (P:Program) (N:Nat) (S0:Nat→Prop) (w0:World) (ops:Array Oper) (s:St) (Φ:World→Prop) (i d:Nat) {α:Type} (sh:α→Value) (φ:α→World→Prop):Prop where
 hm:cls (opAt ops i).op=2
 hw:s.wantB ops (opAt ops i)=some true
 hn:kU (opAt ops i).op=true
 hv:(opAt ops i).op.operands.toList.all s.vB=true
 hd:(opAt ops i).dst=some d
 hN:d<N
 hdo:∀ w,Fr S0 w0 w→Φ w→Does P (opAt ops i) s.rho w (DoR sh φ w)
end
section
variable {N:Nat} {S0:Nat→Prop} {w0:World} {s:St} {Φ Φ0:World→Prop} {P:Program} {ops:Array Oper} {Q:Exit→Act→World→Prop}
theorem Zc1 {n i b:Nat}{α:Type}[y:Nonempty α](d:Nat)(f:FuncId)(args:List Value)(l:α→Value)(Ψ:World→Prop)(φ:α→World→Prop){c:Value}{j:Nat}(z:∀ w,Φ w→w.cell? ⟨b,j,none⟩=some c)(k:w0.heap.size≤b∨S0 b)(A:∀ w,Fr S0 w0 w→Φ w→Calls P f args.toArray w (fun en w'=>∃ x,en=.returned (l x)∧Fr (fun i=>i=b) w w'∧BoxT b w w' (φ x)))(B:∀ w w',Fr S0 w0 w'→Φ w→Fr (fun i=>i=b) w w'→Ψ w')(C:∀ x w,Ψ w∧φ x w→Φ0 w)(K:∀ x,StI P N S0 w0 ops Φ0 Q n (i+1) (s.put d (.v (l x))) (fun w=>Ψ w∧φ x w))(hi:Nat.blt i n=true:=by kernel_rfl)(D:cls (opAt ops i).op=2:=by kernel_rfl)(h:gH P N ops (opAt ops i) s=some (f,args,d):=by kernel_rfl):StI P N S0 w0 ops Φ0 Q n i s Φ:=by
 obtain⟨E,F,G,H,I,J,M⟩:=gO h
 have O:i<n:=vS hi
 unfold StI
 rw[show n-i=(n-(i+1))+1 by omega,List.range'_succ]
 refine .gen y l (fun x w w'=>Fr S0 w0 w∧Fr (fun i=>i=b) w w'∧BoxT b w w' (φ x)) (fun x w=>Ψ w∧φ x w) D E H I G M (fun w q R=>?_) (fun t L a w w' x hi S=>?_) C K
 ·exact Or.inr ⟨f,args.toArray,w,bT F J,(A w q R).mono (fun e w' h=>by
   obtain⟨x,T,m⟩:=h
   exact⟨_,T,x,rfl,q,m⟩)⟩
 obtain⟨_,U,V⟩:=S
 have g:¬ t.own L b:=hi.notOwn (c:=c) (j:=j) z
 have o:∀ r,t.own L r→r<w.heap.size∧r≠b∧NRB w r:=fun r p=>⟨(hi.own_nrb p).1,fun e=>g (e ▸ p),(hi.own_nrb p).2⟩
 exact hi.eff3 U g k (fun W u m X Y Z=>⟨B W u m X Y,V _ u o Z⟩)
end
section
variable {N:Nat} {S0:Nat→Prop} {w0:World} {s:St} {Φ Φ0:World→Prop} {P:Program} {ops:Array Oper} {Q:Exit→Act→World→Prop}
theorem ZjL {id:Nat}(n:Nat)(b:qN)(Φ0:World→Prop)(h0':∀ w,Φ w→Φ0 w){sl:SlL}{f:BlL}(h:StI P N S0 w0 ops Φ0 Q n 0 (ofL sl f) Φ)(l:(Nat.ble b.length ops.size && ZlP ops b)=true:=by kernel_rfl)(g:(Nat.ble n ops.size && (cH ops && aN ops && ((List.range n).all (fun i=>Zil (fun j x=>(b.getD j 0).testBit x) ops n i) && (ZaI (fun j x=>(b.getD j 0).testBit x) ops (ofL sl f) n && seqA ops (ops.size-n) n (iE ops n)))))=true:=by kernel_rfl)(hI:Zbs ops sl=true:=by kernel_rfl)(m:Region.noSelect ops=true:=by kernel_rfl)(o:∀ (c:_) (a:Act) (w:World) (d:Nat) (v:Value),Q (.panic c) (a.put (some d) v) w→Q (.panic c) a w:=by exact fun _ _ _ _ _ h=>h)(p:P.follows .mixedOrders=true:=by exact zQ):SXc P N S0 w0 Q (.region id ops true) (ofL sl f) Φ:=by
 obtain⟨q,r⟩:=(tD _ _).mp l
 simp only[tD] at g
 obtain⟨t,⟨u,k⟩,y,z,A⟩:=g
 have B:=vS t
 intro L a w hi
 refine wp_region_any p ?_
 have hun:un n (Array.replicate ops.size false)=List.range n:=by
  unfold un
  refine List.filter_eq_self.2 fun i e=>?_
  have:=rB.1 e
  simp[show i<ops.size by omega]
 have:=Zf3 (ZfQ k q r) (Q:=Q) (Φ0:=Φ0) (fin:=fun s Φ=>SXi P N S0 w0 ops Q n s Φ) u B k m o z A ⟨w,h0' w hi.box.self⟩ (fun s Φ C L a w e=>C L a w e) (un n (Array.replicate ops.size false)).length (Array.replicate ops.size false) _ Φ L a w.drew rfl qS
  (fun i _ D=>by simp[D]) (fun i e=>by rw[hun] at e;exact vI.1 y i e) (fun j E _ hl=>by rw[getD_replicate_false] at hl;cases hl) (BI.init hI) h0' hi.drew (by rw[hun,List.range_eq_range'];exact h)
 rwa [hun,rH,show n+(ops.size-n)=ops.size by omega] at this
theorem Zes {n i d k l m cap bytes:Nat}{t e:TypeId}{s0 x:Operand}{xs news:List Value}{z:Value}(base:Nat)(A:qA)(B:Nat→Prop)(y:∀ j,A=some ⟨j,0,none⟩→base≤j→w0.heap.size≤j∨S0 j)(T c2:Nat)(Ψ:World→Prop)(hb:∀ w,Fr S0 w0 w→Φ w→base≤w.heap.size)(M:∀ w,Φ w→OwnD w base e k A cap l xs)(hX:∀ w,Φ w→∀ j u,news[j]? = some u→w.cell? ⟨T,j,none⟩=some u)(hl:news.length=m*k)(hk:0<k)(hz:z.cells.size=k)(U:wW z.cells)(V:0<m)(h1:∀ u∈news,u.oneCell'=true)(W:∀ (k:IntKind) (z:Int),Value.int k z∈news→k=.i64)(X:l+m≤maxLen)(f:(l+m)*bytes≤140737488355328)(Y:l=0→A=none)(G:∃ q,∀ j,B j→j<q)(hB:∀ w,Φ w→∀ j,B j→j<w.heap.size)(Z:∀ j,A=some ⟨j,0,none⟩→¬ B j)(hΨ:∀ w w',Fr S0 w0 w'→Φ w→Fr (fun i=>A=some ⟨i,0,none⟩) w w'→Ψ w')(h0:∀ w,Ψ w→Φ0 w)(K:∀ (A':qA) (cap':Nat),A'≠none∧(∀ j,A'=some ⟨j,0,none⟩→A=some ⟨j,0,none⟩∨w0.heap.size≤j)∧(∀ j,A'=some ⟨j,0,none⟩→¬ B j)→StI P N S0 w0 ops Φ0 Q n (i+1) (s.put d (Λ A' (l+m) cap')) (fun w=>Ψ w∧OwnD w base e k A' cap' (l+m) (xs ++ news)))(hi:Nat.blt i n=true:=by kernel_rfl)(hm:cls (opAt ops i).op=2:=by kernel_rfl)(hw:s.wantB ops (opAt ops i)=some true:=by kernel_rfl)(hv:(opAt ops i).op.operands.toList.all s.vB=true:=by kernel_rfl)(ho:(opAt ops i).op=.call { callee:=.builtin .append,args:=#[s0,x],argTypes:=#[t,t] }:=by kernel_rfl)(hd:(opAt ops i).dst=some d:=by kernel_rfl)(hN:Nat.blt d N=true:=by kernel_rfl)(ht:P.underlying t=some (.slice e):=by kernel_rfl)(C:(P.info? e).map (fun i=>(i.zero,i.size,i.bytes))=some (some z,k,bytes):=by kernel_rfl)(hs:s.rho s0=.slice A l cap:=by kernel_rfl)(hx:s.rho x=.slice (some ⟨T,0,none⟩) m c2:=by kernel_rfl):StI P N S0 w0 ops Φ0 Q n i s Φ:=by
 have e0:i<n:=vS hi
 have a0:kU (opAt ops i).op=true:=by rw[ho];rfl
 obtain⟨b0,H,I⟩:=vK.1 C
 injection I with hz0 I
 injection I with hsize hby
 have hα:Nonempty {q:Option Addr×Nat // q.1≠none∧(∀ j,q.1=some ⟨j,0,none⟩→A=some ⟨j,0,none⟩∨w0.heap.size≤j)∧(∀ j,q.1=some ⟨j,0,none⟩→¬ B j)}:=by
  obtain⟨q,hq⟩:=G
  refine⟨⟨(some ⟨q+w0.heap.size,0,none⟩,0),qS,fun j hj=>?_,fun j hj o=>?_⟩⟩
  ·injection hj with hj;injection hj with hj;exact Or.inr qO
  injection hj with hj;injection hj with hj;have:=hq j o;omega
 unfold StI
 rw[show n-i=(n-(i+1))+1 by omega,List.range'_succ]
 refine .gen hα (fun q=>.slice q.1.1 (l+m) q.1.2) (fun q w w'=>Fr S0 w0 w∧Fr (fun i=>A=some ⟨i,0,none⟩) w w'∧OwnD w' base e k q.1.1 q.1.2 (l+m) (xs ++ news)∧∀ j,q.1.1=some ⟨j,0,none⟩→A=some ⟨j,0,none⟩∨j=w.heap.size) (fun q w=>Ψ w∧OwnD w base e k q.1.1 q.1.2 (l+m) (xs ++ news)) hm hw a0 hv hd (vS hN) (fun w O R=>?_) (fun s' L a w w' q hi S=>?_) (fun q w h=>h0 w h.1) (fun q=>K q.1.1 q.1.2 q.2)
 ·obtain⟨A',cap',w',J,hr,D,b,c0⟩:=ZdF (P:=P) w base t (opAt ops i).type e b0 z k bytes ht H hz0 hsize hby hz hk U A cap l xs (M w R) ⟨T,0,none⟩ m c2 news hl V
   (fun j u hj=>by rw[Lib.add_plain,tA];exact hX w R j u hj) h1 W X f (hb w O R)
  have E:(execOp s.rho (opAt ops i)).run P w=.ok (.value (.slice A' (l+m) cap')) w':=by simp[execOp,ho,resolve,invoke,builtin,hs,hx,J,Result.andThen]
  exact Or.inl ⟨_,_,E,⟨(A',cap'),c0,fun j hj=>(b j hj).elim Or.inl (fun (e:j=w.heap.size)=>Or.inr (by rw[e];exact O.size)),fun j hj o=>(b j hj).elim (fun h=>Z j h o) (fun (e:j=w.heap.size)=>Nat.lt_irrefl _ (e ▸ hB w R j o))⟩,rfl,O,D,hr,b⟩
 obtain⟨O,D,hr,b⟩:=S
 have hT:∀ j,A=some ⟨j,0,none⟩→¬ s'.own L j∧(w0.heap.size≤j∨S0 j):=fun j hj=>by
  have f0:l≠0:=fun h=>by rw[Y h] at hj;cases hj
  have r:0<xs.length:=by rw[(M w hi.box.self).1];exact rC qO hk
  refine⟨hi.notOwn (c:=xs[0]'r) (j:=0) (fun w R=>?_),y j hj ((M w hi.box.self).blk hj).1⟩
  have F:=(M w R).own.cells (g:=j) (by rw[hj];rfl) 0 (xs[0]'r) qS
  rw[Lib.add_plain] at F
  exact F
 have d0:∀ b',q.1.1=some ⟨b',0,none⟩→¬ s'.own L b':=fun b' e1=>by
  rcases b b' e1 with F|rfl
  ·exact (hT b' F).1
  rintro⟨c,hc,e⟩
  obtain⟨p,ep⟩:=sX.1 hc
  have:=(hi.mem.blk c p.1 p.2 ep).lt
  omega
 exact hi.eff4 D hT (fun w1 w2 I F h4 h5=>⟨hΨ w1 w2 I F h4,hr.fr h5 d0⟩)
end
end Go.Proofs.YtdlgidnkmbklcaaGreatDoor
