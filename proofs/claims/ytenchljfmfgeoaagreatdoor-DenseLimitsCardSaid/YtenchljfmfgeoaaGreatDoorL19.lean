/-
 My texts Dn1, SxE put together.
-/
import Derived.Test.YtenchljfmfgeoaaGreatDoorL17
import Derived.Test.YtenchljfmfgeoaaGreatDoorL18
set_option maxRecDepth 100000
namespace Go.Proofs.YtenchljfmfgeoaaGreatDoor
open Go.RowKit
abbrev Fv3:=Bool × Nat × Int
def flC (x:ByteArray × Int):List Value:=[.string x.1, .int .i64 x.2]
structure Nb where
 s:Bool
 A:Option Addr
 l:Nat
 c:Nat
 m:Nat
 e:Int
def nb0:Nb:=⟨false,none,0,0,0,0⟩
instance:Inhabited Nb:=⟨nb0⟩
def nbC (x:Nb):List Value:=[.bool x.s, .slice x.A x.l x.c, .int .i64 x.e]
def nbV (x:Nb):Fv3:=(x.s,x.m,x.e)
def NbOk (w:World) (x:Nb):Prop:=Zad w (.slice x.A x.l x.c) x.m
def ZaG (w:World) (xs:List Nb):Prop:=∀ x ∈ xs,NbOk w x
theorem ZeS (x:Nb):(nbC x).length=3:=rfl
theorem Zef (x:ByteArray × Int):(flC x).length=2:=rfl
theorem Zlm (x:Nb):∀ (k:IntKind) (z:Int),Value.int k z ∈ nbC x→k=.i64:=fun k z h=>by
 simp [nbC] at h; exact h.1
theorem Zi6 (x:ByteArray × Int):∀ (k:IntKind) (z:Int),Value.int k z ∈ flC x→k=.i64:=fun k z h=>by
 simp [flC] at h; exact h.1
theorem Zst (w:World):NbOk w nb0:=Zad.zero w
section
variable {w w':World} {xs:List Nb} {m n c k:Nat} {e:TypeId} {A:Option Addr} {l:List Value}
theorem ZaG.nrb {S:Nat→Prop} (h:ZaG w xs) (hN:∀ i,S i→NRB w i) (hF:Fr S w w'):ZaG w' xs:=fun x hx=>(h x hx).nrb hN hF
theorem ZaG.ext (h:ZaG w xs) (hF:Ext w w'):ZaG w' xs:=fun x hx=>(h x hx).ext hF
theorem ZaG.row (h:ZaG w xs) (hO:OwnD w m e k A c n l) (hF:Fr (fun i=>A=some ⟨i,0,none⟩) w w'):ZaG w' xs:=h.nrb (fun _ hi=>hO.nrb hi) hF
theorem Zad.rowD {v:Value} {x:Nat} (h:Zad w v x) (hO:OwnD w m e k A c n l) (hF:Fr (fun i=>A=some ⟨i,0,none⟩) w w'):Zad w' v x:=h.nrb (fun _ hi=>hO.nrb hi) hF
theorem ZaG.get {j:Nat} (h:ZaG w xs) (hj:j < xs.length):Zad w (.slice xs[j]!.A xs[j]!.l xs[j]!.c) xs[j]!.m:=h _ (by rw [getElem!_pos xs j hj]; exact List.getElem_mem hj)
theorem ZaG.zero (w:World) (n:Nat):ZaG w (List.replicate n nb0):=fun x hx=>by rw [(List.mem_replicate.1 hx).2]; exact Zst w
theorem ZaG.set {j:Nat} {x:Nb} (h:ZaG w xs) (hx:NbOk w x):ZaG w (xs.set j x):=fun y hy=>by
 rcases List.mem_or_eq_of_mem_set hy with h1 | h1
 ·exact h y h1
 ·rw [h1]; exact hx
end
def fill (n:Nat) {α:Type} (z:α) (l:List α):List α:=l ++ List.replicate (n - l.length) z
theorem Zgu {n:Nat} {α:Type} {z:α} {l:List α} (h:l.length≤n):(fill n z l).length=n:=by unfold fill; simp; omega
theorem Zgv {α:Type} {z:α} {l:List α}:fill l.length z l=l:=by unfold fill; simp
theorem Zln {n:Nat} {α:Type} {z x:α} {l:List α} (h:l.length < n):(fill n z l).set l.length x=fill n z (l ++ [x]):=by
 unfold fill
 rw [List.set_append_right _ _ (Nat.le_refl _),Nat.sub_self,show n - l.length=(n - (l ++ [x]).length) + 1 by simp; omega,List.replicate_succ,List.set_cons_zero,List.append_assoc]
 rfl
theorem Zgw (n:Nat) {α:Type} (z:α):fill n z []=List.replicate n z:=by unfold fill; simp
def SRd (w:World) (A:Option Addr) (ss:List ByteArray):Prop:=∀ i,i < ss.length→∃ b off,A=some ⟨b,off,none⟩∧b < w.heap.size∧w.cell? ⟨b,off + i,none⟩=some (.string ss[i]!)
theorem SRd.ext {w w':World} {A:Option Addr} {ss:List ByteArray} (h:SRd w A ss) (hF:Ext w w'):SRd w' A ss:=fun i hi=>by
 obtain ⟨b,off,h1,h2,h3⟩:=h i hi
 exact ⟨b,off,h1,Nat.lt_of_lt_of_le h2 hF.size,(hF.cell (p:=⟨b,off + i,none⟩) h2 (fun f=>f)).trans h3⟩
theorem SRd.ne {w:World} {A:Option Addr} {ss:List ByteArray} {i:Nat} (h:SRd w A ss) (hi:i < ss.length):A≠none:=by
 obtain ⟨b,off,h1,_⟩:=h i hi
 rw [h1]; exact Option.some_ne_none _
section
variable {P:Program} {o:Oper} {ρ:Operand→Value} {w:World} {t e:TypeId} {x ix:Operand}
theorem Zb8 {b len cap i sz:Nat} (h:i < len) (ho:o.op=Op.indexAddr t x ix:=by kernel_rfl) (ht:P.underlying t=some (.slice e):=by kernel_rfl) (hs:(P.info? e).map (fun i=>i.size)=some sz:=by kernel_rfl)
 (hx:ρ x=.slice (some ⟨b,0,none⟩) len cap:=by kernel_rfl) (hi:ρ ix=.int .i64 ((i:Nat):Int):=by kernel_rfl):(execOp ρ o).run P w=.ok (.value (.pointer (some ⟨b,0 + i * sz,none⟩))) w:=by
 have:=Zb1 (w:=w) (A:=some ⟨b,0,none⟩) (by simp) h ho ht hs hx hi
 rw [this,atA,Option.map_some,ZcG]
theorem Zlo {A:Option Addr} {ss:List ByteArray} {j:Nat} (hS:SRd w A ss) (hj:j < ss.length) (ho:o.op=Op.load t x:=by kernel_rfl) (hx:ρ x=atA A (j * 1):=by kernel_rfl) (ha:(teOf P t).map (fun e=>e.agg)=some false:=by kernel_rfl) :
 (execOp ρ o).run P w=.ok (.value (.string ss[j]!)) w:=by
 obtain ⟨b,off,rfl,_,hc⟩:=hS j hj
 exact Za4 hc ho (by rw [hx,atA,Option.map_some,ZcG,Nat.mul_one]) ha
end
end Go.Proofs.YtenchljfmfgeoaaGreatDoor

namespace Go.Proofs.YtenchljfmfgeoaaGreatDoor
open Go.RowKit
section
variable {N:Nat} {S0:Nat→Prop} {w0:World} {s s':St} {Φ Ψ Φ0:World→Prop} {L:Nat→Nat} {a:Act} {w:World} {P:Program} {ops:Array Oper} {Q:Exit→Act→World→Prop} {o:Oper} {fin:St→(World→Prop)→Prop}
def Zja:Op→Bool
 | .extract _ _=>true
 | _=>false
theorem Zqo (hi:Inv N S0 w0 s Φ L a w) {o:Oper} {x:AV} (h:Zbs P o s=some x) (w':World):∃ y,x=.v y∧(execOp a.eval o).run P w'=.ok (.value y) w':=by
 unfold Zbs at h
 cases hb:ZbK o.op && o.op.operands.toList.all s.vB with
 | false=>rw [hb] at h; cases h
 | true =>
   rw [hb] at h
   rw [Bool.and_eq_true] at hb
   simp only [cond_true] at h
   split at h
   ·rename_i y hy
    injection h with h
    refine ⟨y,h.symm,?_⟩
    rw [hi.exec hb.1 hb.2]
    exact ZfC hy w'
   ·cases h
theorem Zph {e d:Nat} (hex:Zja (opAt ops e).op=true) (hgd:(opAt ops e).guard=none) (hde:(opAt ops e).dst=some d) (h:Strat P N S0 w0 ops Φ0 fin [e] s Φ):∃ v,s.wantB ops (opAt ops e)=some true∧Zbs P (opAt ops e) s=some (.v v)∧d < N∧Strat P N S0 w0 ops Φ0 fin [] (s.app d (.v v,none)) Φ:=by
 have hc:cls (opAt ops e).op=0:=by
  cases h:(opAt ops e).op<;>first | rfl | (rw [h] at hex; cases hex)
 have hwt:s.wantB ops (opAt ops e)=some true:=by unfold St.wantB; rw [hgd]
 cases h with
 | flt hx hd hN K =>
   rename_i r d2
   rw [hde] at hd
   injection hd with hd
   subst hd
   rcases hx with hx | ⟨y,_,hk,_⟩
   ·unfold ZbQ at hx
    rw [hwt] at hx
    have hx2:noB (Zbs P (opAt ops e) s)=some r:=by
     cases h:(opAt ops e).op<;>first | (rw [h] at hex; cases hex; done) | (rw [h] at hx; simpa using hx)
    obtain ⟨y,hy,hr⟩:=Zbj hx2
    obtain ⟨v,hv⟩:=Zg4 hy
    subst hv
    rw [hr] at K
    exact ⟨v,hwt,hy,hN,K⟩
   ·cases h:(opAt ops e).op<;>first | (rw [h] at hex; cases hex; done) | (rw [h] at hk; cases hk)
 | does hα sh φ hm=>rw [hc] at hm; cases hm
 | gen hα sh E Ψ hm=>rw [hc] at hm; cases hm
 | sto hm=>rw [hc] at hm; cases hm
theorem ZnT {s0:St} {n e d:Nat} {R:Nat→Nat→Bool} (hR:ZiK ops R) (hu:Zel ops=true) (hn:n≤ops.size) (hback:Zfj ops=true) (htail:∀ i,i < n→i≠e→Zdj .any ops n i=true) (hpair:ZhD R ops s0 n=true) (hseq:Region.seqB .any ops (ops.size - n) n (Zdc ops n)=true) (hne:∃ w,Φ0 w) (he:e < n) (hex:Zja (opAt ops e).op=true) (hgd:(opAt ops e).guard=none) (hde:(opAt ops e).dst=some d) (hsel:∀ (j:Nat) (o:Oper) cs b,ops[j]? = some o→o.op≠.select cs b) (hap0:∀ j oj,ops[j]? = some oj→n≤j→(opAt ops e).apart ops oj=true) (hQ:∀ c a w v,Q (.panic c) (a.put (some d) v) w→Q (.panic c) a w)
 (hfin:∀ s Φ,fin s Φ→∀ L a w,Inv N S0 w0 s Φ L a w→wpList P ops Q (ops.toList.drop n) a w) :
 ∀ (k:Nat) (listed:Array Bool) (s:St) (Φ:World→Prop) (L:Nat→Nat) (a:Act) (w:World),(un n listed).length=k→listed.size=ops.size→(∀ i,n≤i→i < ops.size→listed.getD i true=false)→Zet .any ops listed →
   BI ops s0 s→(∀ w,Φ w→Φ0 w)→Inv N S0 w0 s Φ L a w→Strat P N S0 w0 ops Φ0 fin (un n listed) s Φ→wpAny P .any ops Q (k + (ops.size - n)) listed a w:=by
 intro k
 induction k with
 | zero =>
   intro listed s Φ L a w hk hsz htl hcl hBI S hi hS
   have hnil:un n listed=[]:=List.length_eq_zero_iff.1 hk
   rw [hnil] at hS
   have hl:listed=Zdc ops n:=by
    refine Array.ext (by simp [Zdc,hsz]; omega) (fun i h1 h2=>?_)
    have hi':i < ops.size:=by rw [← hsz]; exact h1
    have e:listed.getD i true=listed[i]:=by simp [h1]
    rw [← e]
    by_cases hin:i < n
    ·have:listed.getD i true≠false:=fun h=>by
      have:=ZcO.2 ⟨hin,h⟩
      rw [hnil] at this
      cases this
     simp only [Zdc,List.getElem_toArray]
     rw [List.getElem_append_left (by simpa using hin),List.getElem_replicate]
     cases h:listed.getD i true with
     | true=>rfl
     | false=>exact absurd h this
    ·rw [htl i (by omega) hi']
     simp only [Zdc,List.getElem_toArray]
     rw [List.getElem_append_right (by simpa using hin),List.getElem_replicate]
   have hdl:(ops.toList.drop n).length=ops.size - n:=by simp
   cases hS with
   | done hf =>
     have:=wpAny_of_seq (md:=.any) (Q':=Q) (ops.toList.drop n) n listed a w (fun j=>by simp [List.getElem?_drop]) (by rw [hdl,hl]; exact hseq) (hfin _ _ hf L a w hi)
     rw [hdl] at this
     rw [Nat.zero_add]; exact this
 | succ k ih =>
   intro listed s Φ L a w hk hsz htl hcl hBI S hi hS
   rw [show k + 1 + (ops.size - n)=(k + (ops.size - n)) + 1 by omega]
   obtain ⟨x,R',hR'⟩:∃ x R,un n listed=x :: R:=by
    cases h:un n listed with
    | nil=>rw [h] at hk; cases hk
    | cons x R=>exact ⟨x,R,rfl⟩
   have hx:=ZcO.1 (by rw [hR']; exact List.mem_cons_self:x ∈ un n listed)
   have hmin:∀ i,i < x→listed.getD i true=true:=fun i hix=>by
    cases h:listed.getD i true with
    | true=>rfl
    | false =>
      have:=ZcO.2 ⟨(by omega:i < n),h⟩
      rw [hR'] at this
      have hs:=ZdL n listed
      rw [hR'] at hs
      rcases List.mem_cons.1 this with e | e
      ·omega
      ·have:=(List.pairwise_cons.1 hs).1 i e; omega
   have hxr:x ∈ Region.ready .any ops listed:=by
    have hxs:x < ops.size:=by omega
    refine mem_ready.2 ⟨hx.2,opAt ops x,ZcZ hxs,fun e he heb=>?_⟩
    have h1:=List.all_eq_true.1 hback x (List.mem_range.2 hxs)
    rw [ZcZ hxs] at h1
    have h2':=Array.all_eq_true'.1 h1 e he
    rw [heb] at h2'
    have h2:=Nat.le_of_ble_eq_true h2'
    have h3:=hmin e.on h2
    have h4:e.on < listed.size:=by rw [hsz]; exact Nat.lt_trans h2 hxs
    simp [h4] at h3 ⊢; exact h3
   by_cases hall:∀ y,y ∈ un n listed→y=e
   ·have hxe:x=e:=hall x (by rw [hR']; exact List.mem_cons_self)
    have hRn:R'=[]:=by
     cases R' with
     | nil=>rfl
     | cons y R2 =>
       have hs:=ZdL n listed
       rw [hR'] at hs hall
       have h1:=(List.pairwise_cons.1 hs).1 y List.mem_cons_self
       have h2:=hall y (List.mem_cons_of_mem _ List.mem_cons_self)
       omega
    subst hxe
    rw [hR',hRn] at hS
    have hes:x < ops.size:=by omega
    obtain ⟨v,hw,hpv,hN,K'⟩:=Zph hex hgd hde hS
    have hy:Yields P ops (opAt ops x) v a:=by
     refine Or.inl ⟨hi.want hw,fun w'=>?_⟩
     obtain ⟨y,hy1,hy2⟩:=Zqo hi hpv w'
     injection hy1 with hy1
     rw [hy1]; exact hy2
    have hun':=ZkT (l1:=[]) (l2:=[]) (by rw [hR',hRn]; rfl:un n listed=[] ++ x :: [])
    have hk0:k=0:=by rw [hR',hRn] at hk; simpa using hk.symm
    have H:=ih (listed.setIfInBounds x true) _ Φ L _ w (by rw [hun',hk0]; rfl) (by simp [hsz]) (fun i h1 h2=>by rw [getD_set_ne true (by omega)]; exact htl i h1 h2) (hcl.set hxr) (hBI.app hu hes hde (fun b off hr=>by cases hr) (fun b off hr=>by cases hr)) S (hi.app0 (d:=d) hN (al_v (s:=s) v)) (by rw [hun']; exact K')
    refine wpAny_first (i:=x) (oi:=opAt ops x) (v:=v) (ZcZ hes) hsel (fun c a w=>by rw [hde]; exact hQ c a w v) _ listed a w (fun j oj hj hjx hjl _=>?_) hxr hy (by rw [hde]; exact H)
    refine hap0 j oj hj ?_
    rcases Nat.lt_or_ge j n with h | h
    ·exact absurd (hall j (ZcO.2 ⟨h,hjl⟩)) hjx
    ·exact h
   obtain ⟨y0,hy0,hy0e⟩:∃ y,y ∈ un n listed∧y≠e:=by
    refine Classical.byContradiction fun hno=>hall fun y hy=>Classical.byContradiction fun hye=>hno ⟨y,hy,hye⟩
   have hyy:=ZcO.1 hy0
   refine ⟨fun h=>(by rw [h] at hxr; cases hxr),fun j hj=>?_⟩
   have hjn:j < n:=ZkQ (htail y0 hyy.1 hy0e) hcl hyy.2 hj
   obtain ⟨hjun,oj,hoj,hall2⟩:=mem_ready.1 hj
   have hjm:j ∈ un n listed:=ZcO.2 ⟨hjn,hjun⟩
   obtain ⟨l1,l2,hl⟩:=List.append_of_mem hjm
   have hs:=ZdL n listed
   rw [hl] at hs
   have hap:∀ y,y ∈ l1→y < ops.size∧(opAt ops y).apart ops (opAt ops j)=true∧(Zcb (opAt ops y).op (opAt ops j).op=true∨(lsB (opAt ops y).op (opAt ops j).op=true∧farB ops s0 (opAt ops y) (opAt ops j)=true)):=fun y hy=>by
    have hyj:y < j:=(List.pairwise_append.1 hs).2.2 y hy j List.mem_cons_self
    have hyu:=(ZcO.1 (by rw [hl]; exact List.mem_append_left _ hy:y ∈ un n listed)).2
    have h1:=List.all_eq_true.1 (List.all_eq_true.1 hpair j (List.mem_range.2 hjn)) y (List.mem_range.2 hyj)
    rw [Bool.or_eq_true] at h1
    rcases h1 with h1 | h1
    ·have h2:=hR listed hcl j y h1 (fun o ho=>by
      have:o=oj:=Option.some.inj (ho.symm.trans hoj)
      subst this
      exact hall2)
     rw [getD_both hyu] at h2
     cases h2
    ·simp only [Bool.and_eq_true,Bool.or_eq_true] at h1
     exact ⟨by omega,h1⟩
   rw [hl] at hS
   have hS':=Strat.front hu hne l1 l2 s Φ hi.wf hBI hap hS
   refine Strat.exec hu hBI (by omega) hi S hS' (fun s' Φ' L' a' w' hBI' hΦ' hi' K'=>?_)
   have hun':=ZkT hl
   refine ih (listed.setIfInBounds j true) s' Φ' L' a' w' ?_ (by simp [hsz]) (fun i h1 h2=>?_) (hcl.set hj) hBI' hΦ' hi' (by rw [hun']; exact K')
   ·rw [hun']
    rw [hl] at hk
    simp only [List.length_append,List.length_cons] at hk ⊢
    omega
   ·rw [getD_set_ne true (by omega)]; exact htl i h1 h2
def ZqV (ops:Array Oper) (s0:St) (n e d:Nat):Bool:=(Nat.ble (e + 1) n && (Zja (opAt ops e).op && (opAt ops e).guard.isNone && (match (opAt ops e).dst with | some k=>Nat.beq k d | none=>false)) && Region.noSelect ops && (List.range ops.size).all (fun j=>Nat.blt j n || (opAt ops e).apart ops (opAt ops j))) && (Nat.ble n ops.size && (Zel ops && Zfj ops && ((List.range n).all (fun i=>Nat.beq i e || Zdj .any ops n i) && (ZhD (Zfi .any ops 4) ops s0 n && Region.seqB .any ops (ops.size - n) n (Zdc ops n)))))
theorem Zio {o:Oper} {d:Nat} (h:(Zja o.op=true∧o.guard.isNone=true)∧(match o.dst with | some k=>Nat.beq k d | none=>false)=true):Zja o.op=true∧o.guard=none∧o.dst=some d:=by
 obtain ⟨⟨h1,h2⟩,h3⟩:=h
 refine ⟨h1,by simpa using h2,?_⟩
 split at h3
 ·rename_i k hk
  rw [hk,Nat.eq_of_beq_eq_true h3]
 ·cases h3
theorem ZnU {n e:Nat} (h:(List.range ops.size).all (fun j=>Nat.blt j n || (opAt ops e).apart ops (opAt ops j))=true):∀ j oj,ops[j]? = some oj→n≤j→(opAt ops e).apart ops oj=true:=fun j oj hj hn=>by
 have hs:j < ops.size:=(Array.getElem?_eq_some_iff.1 hj).1
 have h1:=List.all_eq_true.1 h j (List.mem_range.2 hs)
 rw [Bool.or_eq_true] at h1
 have e1:opAt ops j=oj:=by have:=ZcZ hs; rw [hj] at this; injection this with this; exact this.symm
 rw [e1] at h1
 refine h1.resolve_left fun h2=>?_
 have:=Nat.le_of_ble_eq_true h2
 omega
theorem Zqp {id:Nat} (n e d:Nat) {sl:SlL} {bl:BlL} (hQ:∀ c a w v,Q (.panic c) (a.put (some d) v) w→Q (.panic c) a w)
 (h:StI P N S0 w0 ops Φ Q n 0 (ofL sl bl) Φ) (hB:ZqV ops (ofL sl bl) n e d=true:=by kernel_rfl) (hI:ZhC ops sl=true:=by kernel_rfl) (hm:P.follows .mixedOrders=true:=by exact Zao):SXc P N S0 w0 Q (.region id ops true) (ofL sl bl) Φ:=by
 unfold ZqV at hB
 simp only [Bool.and_eq_true] at hB
 obtain ⟨⟨⟨⟨g1,g2⟩,g3⟩,g4⟩,h1,⟨h0,h2⟩,h3,h4,h5⟩:=hB
 have hn:=Nat.le_of_ble_eq_true h1
 intro L a w hi
 refine wp_region_any hm ?_
 have hun:un n (Array.replicate ops.size false)=List.range n:=by
  unfold un
  refine List.filter_eq_self.2 (fun i hi'=>?_)
  have:=List.mem_range.1 hi'
  simp [show i < ops.size by omega]
 have:=ZnT (ZhZ ops) (e:=e) (d:=d) (Q:=Q) (fin:=fun s Φ=>SXi P N S0 w0 ops Q n s Φ) h0 hn h2 (fun i hi' hie=>((Bool.or_eq_true _ _).mp (List.all_eq_true.1 h3 i (List.mem_range.2 hi'))).resolve_left (fun h=>hie (Nat.eq_of_beq_eq_true h))) h4 h5 ⟨w,hi.box.self⟩ (Nat.le_of_ble_eq_true g1) (Zio g2).1 (Zio g2).2.1 (Zio g2).2.2 (Region.noSelect_spec g3) (ZnU g4) hQ (fun s Φ hf L a w hi'=>hf L a w hi') (un n (Array.replicate ops.size false)).length (Array.replicate ops.size false) _ Φ L a w.drew rfl (by simp)
  (fun i _ h'=>by simp [h']) (fun j oj _ hl=>by rw [getD_replicate_false] at hl; cases hl) (BI.init hI) (fun _ h=>h) hi.drew (by rw [hun]; unfold StI at h; rw [← List.range_eq_range'] at h; exact h)
 rw [hun,List.length_range,show n + (ops.size - n)=ops.size by omega] at this
 exact this
end
end Go.Proofs.YtenchljfmfgeoaaGreatDoor
