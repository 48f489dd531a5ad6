/-
 My texts Dn1, SxE, Sx26, Sx28 put together.
-/
import Derived.Test.YtenchljfmfgeoaaGreatDoorT18
import Derived.Test.YtenchljfmfgeoaaGreatDoorT19
import Derived.Test.YtenchljfmfgeoaaGreatDoorT15
set_option maxRecDepth 100000
set_option maxHeartbeats 8000000
namespace Go.Proofs.YtenchljfmfgeoaaGreatDoor
open Go.RowKit
abbrev Fv3:=Bool×Nat × Int
def flC (x:ByteArray×Int):List Value:=[.string x.1,.int .i64 x.2]
structure Nb where
 s:Bool
 A:Option Addr
 l:Nat
 c:Nat
 m:Nat
 e:Int
def nb0:Nb:=⟨false,none,0,0,0,0⟩
instance:Inhabited Nb:=⟨nb0⟩
def nbC (x:Nb):List Value:=[.bool x.s,.slice x.A x.l x.c,.int .i64 x.e]
def nbV (x:Nb):Fv3:=(x.s,x.m,x.e)
def NbOk (w:World) (x:Nb):Prop:=zD w (.slice x.A x.l x.c) x.m
def zY (w:World) (xs:List Nb):Prop:=∀ x∈xs,NbOk w x
theorem aJ (x:Nb):(nbC x).length=3:=rfl
theorem iL (x:ByteArray×Int):(flC x).length=2:=rfl
theorem ZgS (x:Nb):∀ (k:IntKind) (z:Int),Value.int k z∈nbC x→k=.i64:=fun k z h=>by
 simp[nbC] at h;exact h.1
theorem Zba (x:ByteArray×Int):∀ (k:IntKind) (z:Int),Value.int k z∈flC x→k=.i64:=fun k z h=>by
 simp[flC] at h;exact h.1
theorem ZkL (w:World):NbOk w nb0:=zD.zero w
section
variable {w w':World} {xs:List Nb} {m n c k:Nat} {e:TypeId} {A:Option Addr} {l:List Value}
theorem zY.nrb {S:Nat→Prop}(h:zY w xs)(a:∀ i,S i→NRB w i)(b:Fr S w w'):zY w' xs:=fun x d=>(h x d).nrb a b
theorem zY.ext (h:zY w xs)(a:Ext w w'):zY w' xs:=fun x b=>(h x b).ext a
theorem zY.row (h:zY w xs)(a:OwnD w m e k A c n l)(b:Fr (fun i=>A=some ⟨i,0,none⟩) w w'):zY w' xs:=h.nrb (fun _ hi=>a.nrb hi) b
theorem zD.rowD {v:Value}{x:Nat}(h:zD w v x)(a:OwnD w m e k A c n l)(b:Fr (fun i=>A=some ⟨i,0,none⟩) w w'):zD w' v x:=h.nrb (fun _ hi=>a.nrb hi) b
theorem zY.get {j:Nat}(h:zY w xs)(a:j<xs.length):zD w (.slice xs[j]!.A xs[j]!.l xs[j]!.c) xs[j]!.m:=h _ (by rw[tI xs j a];exact tT a)
theorem zY.zero (w:World)(n:Nat):zY w (List.replicate n nb0):=fun x a=>by rw[(pN.1 a).2];exact ZkL w
theorem zY.set {j:Nat}{x:Nb}(h:zY w xs)(b:NbOk w x):zY w (xs.set j x):=fun y d=>by
 rcases rW d with a|a
 ·exact h y a
 rw[a];exact b
end
def fill (n:Nat) {α:Type} (z:α) (l:List α):List α:=l ++ List.replicate (n-l.length) z
theorem Zdw {n:Nat}{α:Type}{z:α}{l:List α}(h:l.length≤n):(fill n z l).length=n:=by unfold fill;simp;omega
theorem Zdx {α:Type}{z:α}{l:List α}:fill l.length z l=l:=by unfold fill;simp
theorem ZgT {n:Nat}{α:Type}{z x:α}{l:List α}(h:l.length<n):(fill n z l).set l.length x=fill n z (l ++ [x]):=by
 unfold fill
 rw[qW _ _ (uG _),sX,show n-l.length=(n-(l ++ [x]).length)+1 by simp;omega,pH,List.set_cons_zero,vS]
 rfl
theorem Zdy (n:Nat){α:Type}(z:α):fill n z []=List.replicate n z:=by unfold fill;simp
def SRd (w:World) (A:Option Addr) (ss:List ByteArray):Prop:=∀ i,i<ss.length→∃ b off,A=some ⟨b,off,none⟩∧b<w.heap.size∧w.cell? ⟨b,off+i,none⟩=some (.string ss[i]!)
theorem SRd.ext {w w':World}{A:qA}{ss:List ByteArray}(h:SRd w A ss)(d:Ext w w'):SRd w' A ss:=fun i hi=>by
 obtain⟨b,a,j,g,q⟩:=h i hi
 exact⟨b,a,j,uQ g d.size,(d.cell (p:=⟨b,a+i,none⟩) g (fun f=>f)).trans q⟩
theorem SRd.ne {w:World}{A:qA}{a:List ByteArray}{i:Nat}(h:SRd w A a)(hi:i<a.length):A≠none:=by
 obtain⟨b,d,f,_⟩:=h i hi
 rw[f];exact Option.some_ne_none _
section
variable {P:Program} {o:Oper} {ρ:Operand→Value} {w:World} {t e:TypeId} {x ix:Operand}
theorem iA {b len cap i sz:Nat}(h:i<len)(a:o.op=Op.indexAddr t x ix:=by kernel_rfl)(d:P.underlying t=some (.slice e):=by kernel_rfl)(f:(P.info? e).map (fun i=>i.size)=some sz:=by kernel_rfl)(g:ρ x=.slice (some ⟨b,0,none⟩) len cap:=by kernel_rfl)(hi:ρ ix=.int .i64 (i:Int):=by kernel_rfl):(execOp ρ o).run P w=.ok (.value (.pointer (some ⟨b,0+i*sz,none⟩))) w:=by
 have:=lV (w:=w) (A:=some ⟨b,0,none⟩) qS h a d f g hi
 rw[this,atA,rO,iW]
theorem ZgU {A:qA}{a:List ByteArray}{j:Nat}(d:SRd w A a)(f:j<a.length)(g:o.op=Op.load t x:=by kernel_rfl)(h:ρ x=atA A (j*1):=by kernel_rfl)(ha:(teOf P t).map (fun e=>e.agg)=some false:=by kernel_rfl) :
 (execOp ρ o).run P w=.ok (.value (.string a[j]!)) w:=by
 obtain⟨b,i,rfl,_,p⟩:=d j f
 exact xG p g (by rw[h,atA,rO,iW,tP]) ha
end
section
variable {N:Nat} {S0:Nat→Prop} {w0:World} {s s':St} {Φ Ψ Φ0:World→Prop} {L:Nat→Nat} {a:Act} {w:World} {P:Program} {ops:Array Oper} {Q:Exit→Act→World→Prop} {o:Oper} {fin:St→(World→Prop)→Prop}
def Zer:Op→Bool
 | .extract _ _=>true
 | _=>false
theorem Zmu (hi:Inv N S0 w0 s Φ L a w){o:Oper}{x:AV}(h:lI P o s=some x)(w':World):∃ y,x=.v y∧(execOp a.eval o).run P w'=.ok (.value y) w':=by
 unfold lI at h
 cases hb:lX o.op && o.op.operands.toList.all s.vB with
 | false=>rw[hb] at h;cases h
 | true =>
  rw[hb] at h
  rw[tK] at hb
  simp only[cond_true] at h
  split at h
  ·rename_i y b
   injection h with h
   refine⟨y,h.symm,?_⟩
   rw[hi.exec hb.1 hb.2]
   exact ZaL b w'
  cases h
theorem Zli {e d:Nat}(hex:Zer (opAt ops e).op=true)(c:(opAt ops e).guard=none)(f:(opAt ops e).dst=some d)(h:Strat P N S0 w0 ops Φ0 fin [e] s Φ):∃ v,s.wantB ops (opAt ops e)=some true∧lI P (opAt ops e) s=some (.v v)∧d<N∧Strat P N S0 w0 ops Φ0 fin [] (s.app d (.v v,none)) Φ:=by
 have g:cls (opAt ops e).op=0:=by
  cases h:(opAt ops e).op<;>first|rfl | (rw[h] at hex;cases hex)
 have b:s.wantB ops (opAt ops e)=some true:=by unfold St.wantB;rw[c]
 cases h with
 | flt hx hd hN K =>
  rename_i r m
  rw[f] at hd
  injection hd with hd
  subst hd
  rcases hx with hx|⟨y,_,hk,_⟩
  ·unfold kK at hx
   rw[b] at hx
   have i:noB (lI P (opAt ops e) s)=some r:=by
    cases h:(opAt ops e).op<;>first | (rw[h] at hex;cases hex;done) | (rw[h] at hx;simpa using hx)
   obtain⟨y,j,k⟩:=lB i
   obtain⟨v,l⟩:=Zch j
   subst l
   rw[k] at K
   exact⟨v,b,j,hN,K⟩
  cases h:(opAt ops e).op<;>first | (rw[h] at hex;cases hex;done) | (rw[h] at hk;cases hk)
 | does hα sh φ hm=>rw[g] at hm;cases hm
 | gen hα sh E Ψ hm=>rw[g] at hm;cases hm
 | sto hm=>rw[g] at hm;cases hm
theorem ZjM {s0:St}{n e d:Nat}{R:Nat→Nat→Bool}(hR:Zd3 ops R)(hu:cX ops=true)(hn:n≤ops.size)(C:Zao ops=true)(D:∀ i,i<n→i≠e→fJ .any ops n i=true)(E:ZcP R ops s0 n=true)(T:Region.seqB .any ops (ops.size-n) n (fC ops n)=true)(g0:∃ w,Φ0 w)(he:e<n)(h0:Zer (opAt ops e).op=true)(i0:(opAt ops e).guard=none)(r:(opAt ops e).dst=some d)(U:∀ (j:Nat) (o:Oper) cs b,ops[j]? = some o→o.op≠.select cs b)(V:∀ j oj,ops[j]? = some oj→n≤j→(opAt ops e).apart ops oj=true)(hQ:∀ c a w v,Q (.panic c) (a.put (some d) v) w→Q (.panic c) a w)(W:∀ s Φ,fin s Φ→∀ L a w,Inv N S0 w0 s Φ L a w→wpList P ops Q (ops.toList.drop n) a w) :
 ∀ (k:Nat) (listed:Array Bool) (s:St) (Φ:World→Prop) (L:Nat→Nat) (a:Act) (w:World),(un n listed).length=k→listed.size=ops.size→(∀ i,n≤i→i<ops.size→listed.getD i true=false)→bI .any ops listed →
 BI ops s0 s→(∀ w,Φ w→Φ0 w)→Inv N S0 w0 s Φ L a w→Strat P N S0 w0 ops Φ0 fin (un n listed) s Φ→wpAny P .any ops Q (k+(ops.size-n)) listed a w:=by
 intro k
 induction k with
 | zero =>
  intro listed s Φ L a w hk p t q u S hi hS
  have A:un n listed=[]:=tN.1 hk
  rw[A] at hS
  have F:listed=fC ops n:=by
   refine Array.ext (by simp[fC,p];omega) fun i f h2=>?_
   have G:i<ops.size:=by rw[←p];exact f
   have e:listed.getD i true=listed[i]:=by simp[f]
   rw[←e]
   by_cases I:i<n
   ·have:listed.getD i true≠false:=fun h=>by
     have:=gF.2 ⟨I,h⟩
     rw[A] at this
     cases this
    simp only[fC,List.getElem_toArray]
    rw[List.getElem_append_left (by simpa using I),pU]
    cases h:listed.getD i true with
    | true=>rfl
    | false=>exact absurd h this
   rw[t i qO G]
   simp only[fC,List.getElem_toArray]
   rw[List.getElem_append_right (by simpa using I),pU]
  have X:(ops.toList.drop n).length=ops.size-n:=qS
  cases hS with
  | done hf =>
   have:=wpAny_of_seq (md:=.any) (Q':=Q) (ops.toList.drop n) n listed a w (fun j=>qS) (by rw[X,F];exact T) (W _ _ hf L a w hi)
   rw[X] at this
   rw[vU];exact this
 | succ k ih =>
  intro listed s Φ L a w hk p t q u S hi hS
  rw[show k+1+(ops.size-n)=(k+(ops.size-n))+1 by omega]
  obtain⟨x,R',g⟩:∃ x R,un n listed=x :: R:=by
   cases h:un n listed with
   | nil=>rw[h] at hk;cases hk
   | cons x R=>exact⟨x,R,rfl⟩
  have hx:=gF.1 (by rw[g];exact qP:x∈un n listed)
  have Y:∀ i,i<x→listed.getD i true=true:=fun i D0=>by
   cases h:listed.getD i true with
   | true=>rfl
   | false =>
    have:=gF.2 ⟨(by omega:i<n),h⟩
    rw[g] at this
    have B:=dC n listed
    rw[g] at B
    rcases qV.1 this with e|e
    ·omega
    have:=(List.pairwise_cons.1 B).1 i e;omega
  have hxr:x∈Region.ready .any ops listed:=by
   have z:x<ops.size:=qO
   refine mem_ready.2 ⟨hx.2,opAt ops x,gP z,fun e he j0=>?_⟩
   have f:=uY.1 C x (rA.2 z)
   rw[gP z] at f
   have Z:=Array.all_eq_true'.1 f e he
   rw[j0] at Z
   have h2:=vX Z
   have h3:=Y e.on h2
   have h4:e.on<listed.size:=by rw[p];exact qJ h2 z
   simp[h4] at h3 ⊢;exact h3
  by_cases l:∀ y,y∈un n listed→y=e
  ·have k0:x=e:=l x (by rw[g];exact qP)
   have J:R'=[]:=by
    cases R' with
    | nil=>rfl
    | cons y R2 =>
     have B:=dC n listed
     rw[g] at B l
     have f:=(List.pairwise_cons.1 B).1 y qP
     have h2:=l y (List.mem_cons_of_mem _ qP)
     omega
   subst k0
   rw[g,J] at hS
   have a0:x<ops.size:=qO
   obtain⟨v,hw,l0,hN,K'⟩:=Zli h0 i0 r hS
   have O:Yields P ops (opAt ops x) v a:=by
    refine Or.inl ⟨hi.want hw,fun w'=>?_⟩
    obtain⟨y,K,m0⟩:=Zmu hi l0 w'
    injection K with K
    rw[K];exact m0
   have m:=Zgu (l1:=[]) (l2:=[]) (by rw[g,J];rfl:un n listed=[] ++ x :: [])
   have n0:k=0:=by rw[g,J] at hk;simpa using hk.symm
   have H:=ih (listed.setIfInBounds x true) _ Φ L _ w (by rw[m,n0];rfl) (by simp[p]) (fun i f h2=>by rw[getD_set_ne true qO];exact t i f h2) (q.set hxr) (u.app hu a0 r (fun b off hr=>by cases hr) (fun b off hr=>by cases hr)) S (hi.app0 (d:=d) hN (al_v (s:=s) v)) (by rw[m];exact K')
   refine wpAny_first (i:=x) (oi:=opAt ops x) (v:=v) (gP a0) U (fun c a w=>by rw[r];exact hQ c a w v) _ listed a w (fun j oj hj o0 p0 _=>?_) hxr O (by rw[r];exact H)
   refine V j oj hj ?_
   rcases vM j n with h|h
   ·exact absurd (l j (gF.2 ⟨h,p0⟩)) o0
   exact h
  obtain⟨y0,q0,b0⟩:∃ y,y∈un n listed∧y≠e:=by
   refine tH fun r0=>l fun y O=>tH fun t0=>r0 ⟨y,O,t0⟩
  have c0:=gF.1 q0
  refine⟨fun h=>(by rw[h] at hxr;cases hxr),fun j hj=>?_⟩
  have d0:j<n:=Zgr (D y0 c0.1 b0) q c0.2 hj
  obtain⟨e0,oj,u0,M⟩:=mem_ready.1 hj
  have v0:j∈un n listed:=gF.2 ⟨d0,e0⟩
  obtain⟨l1,l2,F⟩:=List.append_of_mem v0
  have B:=dC n listed
  rw[F] at B
  have x0:∀ y,y∈l1→y<ops.size∧(opAt ops y).apart ops (opAt ops j)=true∧(jK (opAt ops y).op (opAt ops j).op=true∨(lsB (opAt ops y).op (opAt ops j).op=true∧farB ops s0 (opAt ops y) (opAt ops j)=true)):=fun y O=>by
   have z0:y<j:=(List.pairwise_append.1 B).2.2 y O j qP
   have A0:=(gF.1 (by rw[F];exact List.mem_append_left _ O:y∈un n listed)).2
   have f:=uY.1 (uY.1 E j (rA.2 d0)) y (rA.2 z0)
   rw[oG] at f
   rcases f with f|f
   ·have h2:=hR listed q j y f (fun o ho=>by
     have:o=oj:=pM (ho.symm.trans u0)
     subst this
     exact M)
    rw[getD_both A0] at h2
    cases h2
   simp only[tK,oG] at f
   exact⟨qO,f⟩
  rw[F] at hS
  have B0:=Strat.front hu g0 l1 l2 s Φ hi.wf u x0 hS
  refine Strat.exec hu u qO hi S B0 fun s' Φ' L' a' w' f0 C0 G K'=>?_
  have m:=Zgu F
  refine ih (listed.setIfInBounds j true) s' Φ' L' a' w' ?_ (by simp[p]) (fun i f h2=>?_) (q.set hj) f0 C0 G (by rw[m];exact K')
  ·rw[m]
   rw[F] at hk
   simp only[uU,tU] at hk ⊢
   omega
  rw[getD_set_ne true qO];exact t i f h2
def Zm7 (ops:Array Oper) (s0:St) (n e d:Nat):Bool:=(Nat.ble (e+1) n && (Zer (opAt ops e).op && (opAt ops e).guard.isNone && (match (opAt ops e).dst with | some k=>Nat.beq k d | none=>false)) && Region.noSelect ops && (List.range ops.size).all (fun j=>Nat.blt j n || (opAt ops e).apart ops (opAt ops j))) && (Nat.ble n ops.size && (cX ops && Zao ops && ((List.range n).all (fun i=>Nat.beq i e || fJ .any ops n i) && (ZcP (Zan .any ops 4) ops s0 n && Region.seqB .any ops (ops.size-n) n (fC ops n)))))
theorem ZdC {o:Oper}{d:Nat}(h:(Zer o.op=true∧o.guard.isNone=true)∧(match o.dst with | some k=>Nat.beq k d | none=>false)=true):Zer o.op=true∧o.guard=none∧o.dst=some d:=by
 obtain⟨⟨b,c⟩,h3⟩:=h
 refine⟨b,by simpa using c,?_⟩
 split at h3
 ·rename_i k e
  rw[e,pX h3]
 cases h3
theorem ZjN {n e:Nat}(h:(List.range ops.size).all (fun j=>Nat.blt j n || (opAt ops e).apart ops (opAt ops j))=true):∀ j b,ops[j]? = some b→n≤j→(opAt ops e).apart ops b=true:=fun j b d k=>by
 have f:j<ops.size:=(pD.1 d).1
 have c:=uY.1 h j (rA.2 f)
 rw[oG] at c
 have g:opAt ops j=b:=by have:=gP f;rw[d] at this;injection this with this;exact this.symm
 rw[g] at c
 refine c.resolve_left fun i=>?_
 have:=vX i
 omega
theorem Zmv {id:Nat}(n e d:Nat){sl:SlL}{g:BlL}(p:∀ c a w v,Q (.panic c) (a.put (some d) v) w→Q (.panic c) a w)(h:StI P N S0 w0 ops Φ Q n 0 (ofL sl g) Φ)(k:Zm7 ops (ofL sl g) n e d=true:=by kernel_rfl)(hI:ZcO ops sl=true:=by kernel_rfl)(q:P.follows .mixedOrders=true:=by exact zN):SXc P N S0 w0 Q (.region id ops true) (ofL sl g) Φ:=by
 unfold Zm7 at k
 simp only[tK] at k
 obtain⟨⟨⟨⟨r,l⟩,t⟩,u⟩,x,⟨y,z⟩,A,B,C⟩:=k
 have D:=vX x
 intro L a w hi
 refine wp_region_any q ?_
 have f:un n (Array.replicate ops.size false)=List.range n:=by
  unfold un
  refine List.filter_eq_self.2 fun i b=>?_
  have:=rA.1 b
  simp[show i<ops.size by omega]
 have:=ZjM (Zdb ops) (e:=e) (d:=d) (Q:=Q) (fin:=fun s Φ=>SXi P N S0 w0 ops Q n s Φ) y D z (fun i b m=>((oG _ _).mp (uY.1 A i (rA.2 b))).resolve_left (fun h=>m (pX h))) B C ⟨w,hi.box.self⟩ (vX r) (ZdC l).1 (ZdC l).2.1 (ZdC l).2.2 (Region.noSelect_spec t) (ZjN u) p (fun s Φ E L a w b=>E L a w b) (un n (Array.replicate ops.size false)).length (Array.replicate ops.size false) _ Φ L a w.drew rfl qS
  (fun i _ F=>by simp[F]) (fun j G _ hl=>by rw[getD_replicate_false] at hl;cases hl) (BI.init hI) (fun _ h=>h) hi.drew (by rw[f];unfold StI at h;rw[←List.range_eq_range'] at h;exact h)
 rw[f,List.length_range,show n+(ops.size-n)=ops.size by omega] at this
 exact this
end
section
variable {N:Nat} {S0:Nat→Prop} {w0:World} {s:St} {Φ Φ0:World→Prop} {P:Program} {ops:Array Oper} {Q:Exit→Act→World→Prop}
theorem ZmO {n i b:Nat}{α:Type}[u:Nonempty α](d:Nat)(f:FuncId)(args:List Value)(sh:α→Value)(Ψ:World→Prop)(φ:α→World→Prop){c:Value}{j:Nat}(y:∀ w,Φ w→w.cell? ⟨b,j,none⟩=some c)(k:w0.heap.size≤b∨S0 b)(z:∀ w,Fr S0 w0 w→Φ w→Calls P f args.toArray w (fun en w'=>∃ x,en=.returned (sh x)∧Fr (fun i=>i=b) w w'∧BoxT b w w' (φ x)))(A:∀ w w',Fr S0 w0 w'→Φ w→Fr (fun i=>i=b) w w'→Ψ w')(B:∀ x w,Ψ w∧φ x w→Φ0 w)(K:∀ x,StI P N S0 w0 ops Φ0 Q n (i+1) (s.put d (.v (sh x))) (fun w=>Ψ w∧φ x w))(hi:Nat.blt i n=true:=by kernel_rfl)(C:cls (opAt ops i).op=2:=by kernel_rfl)(h:jT P N ops (opAt ops i) s=some (f,args,d):=by kernel_rfl):StI P N S0 w0 ops Φ0 Q n i s Φ:=by
 obtain⟨D,E,F,G,H,I,J⟩:=jY h
 have M:i<n:=vX hi
 unfold StI
 rw[show n-i=(n-(i+1))+1 by omega,List.range'_succ]
 refine .gen u sh (fun x w w'=>Fr S0 w0 w∧Fr (fun i=>i=b) w w'∧BoxT b w w' (φ x)) (fun x w=>Ψ w∧φ x w) C D G H F J (fun w p R=>?_) (fun q L a w w' x hi S=>?_) B K
 ·exact Or.inr ⟨f,args.toArray,w,dB E I,(z w p R).mono (fun e w' h=>by
   obtain⟨x,O,l⟩:=h
   exact⟨_,O,x,rfl,p,l⟩)⟩
 obtain⟨_,T,U⟩:=S
 have g:¬ q.own L b:=hi.notOwn (c:=c) (j:=j) y
 have m:∀ r,q.own L r→r<w.heap.size∧r≠b∧NRB w r:=fun r o=>⟨(hi.own_nrb o).1,fun e=>g (e ▸ o),(hi.own_nrb o).2⟩
 exact hi.eff3 T g k (fun V t l W X Y=>⟨A V t l W X,U _ t m Y⟩)
end
section
variable {N:Nat} {S0:Nat→Prop} {w0:World} {s:St} {Φ Φ0:World→Prop} {P:Program} {ops:Array Oper} {Q:Exit→Act→World→Prop}
variable {n x0 y0:Nat} {RR:List Nat} {sl:SlL} {bl:BlL}
-- the part ahead of the pair
structure IsDo (P:Program) (N:Nat) (S0:Nat→Prop) (w0:World) (ops:Array Oper) (s:St) (Φ:World→Prop) (i d:Nat) {α:Type} (sh:α→Value) (φ:α→World→Prop):Prop where
 hm:cls (opAt ops i).op=2
 hw:s.wantB ops (opAt ops i)=some true
 hn:lX (opAt ops i).op=true
 hv:(opAt ops i).op.operands.toList.all s.vB=true
 hd:(opAt ops i).dst=some d
 hN:d<N
 hdo:∀ w,Fr S0 w0 w→Φ w→Does P (opAt ops i) s.rho w (DoR sh φ w)
end
end Go.Proofs.YtenchljfmfgeoaaGreatDoor
