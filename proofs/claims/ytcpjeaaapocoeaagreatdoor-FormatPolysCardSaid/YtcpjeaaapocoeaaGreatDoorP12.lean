/-
 My texts Ord put together.
-/
import Derived.OrdersHeld
import Derived.StillTail
set_option maxRecDepth 100000
namespace Go.Proofs.YtcpjeaaapocoeaaGreatDoor
section
variable {P:Program} {ops:Array Oper} {Q:Exit→Act→World→Prop} {md:Region.Mode} {S:World→Prop} {n:Nat}
def Zdm (P:Program) (md:Region.Mode) (ops:Array Oper) (Q:Exit→Act→World→Prop) (S:World→Prop) (n:Nat):Nat→Array Bool→Act→World→Prop
 | 0,listed,a,w=>Region.ready md ops listed=[]∧Q .normal a w
 | fuel + 1,listed,a,w =>
   (Region.ready md ops listed=[]→Q .normal a w) ∧
   ∀ i ∈ Region.ready md ops listed,wpOp P ops Q i (fun a' w'=>(i < n∧S w'∧Zdm P md ops Q S n fuel (listed.setIfInBounds i true) a' w')∨(n≤i∧wpAny P md ops Q fuel (listed.setIfInBounds i true) a' w')) a w
theorem Ziq:∀ (fuel:Nat) (listed:Array Bool) (a:Act) (w:World),Zdm P md ops Q S n fuel listed a w→wpAny P md ops Q fuel listed a w
 | 0,_,_,_,h=>h
 | fuel + 1,_,_,_,h=>⟨h.1,fun i hi=>wpOp_mono (fun a' w' h'=>by
  rcases h' with h' | h'
  ·exact Ziq fuel _ a' w' h'.2.2
  ·exact h'.2) (h.2 i hi)⟩
def Zb9 (md:Region.Mode) (ops:Array Oper) (listed:Array Bool):Prop:=∀ j oj,ops[j]? = some oj→listed.getD j false=true→∀ e ∈ oj.after,Region.binds md e=true→listed.getD e.on false=true
def Zmp (md:Region.Mode) (ops:Array Oper) (listed:Array Bool):Bool :=
 (List.range ops.size).all fun j => !listed.getD j false || ((ops[j]?).map (·.after.all fun e => !Region.binds md e || listed.getD e.on false)).getD false
theorem Zn2 {listed:Array Bool} (h:Zmp md ops listed=true):Zb9 md ops listed:=by
 intro j oj hj hl e he hb
 have hjs:j < ops.size:=(Array.getElem?_eq_some_iff.1 hj).1
 have h1:=List.all_eq_true.1 h j (List.mem_range.2 hjs)
 rw [hl,hj] at h1
 simp only [Bool.not_true,Bool.false_or,Option.map_some,Option.getD_some] at h1
 have h2:=Array.all_eq_true'.1 h1 e he
 rw [hb] at h2
 simpa using h2
theorem Zb9.set {i:Nat} {listed:Array Bool} (hc:Zb9 md ops listed) (hi:i ∈ Region.ready md ops listed):Zb9 md ops (listed.setIfInBounds i true):=by
 obtain ⟨_,oi,hoi,hall⟩:=mem_ready.1 hi
 intro j oj hj hl e he hb
 by_cases hij:i=j
 ·subst hij
  have:oj=oi:=Option.some.inj (hj.symm.trans hoi)
  subst this
  exact getD_set_true (hall e he hb)
 ·rw [getD_set_ne false hij] at hl
  exact getD_set_true (hc j oj hj hl e he hb)
def Zdj (md:Region.Mode) (ops:Array Oper):Nat→Nat→Nat→Bool
 | 0,t,i=>Region.waitsFor md ops t i
 | f + 1,t,i=>Region.waitsFor md ops t i || (List.range ops.size).any fun j=>Region.waitsFor md ops t j && Zdj md ops f j i
theorem ZeC {listed:Array Bool} (hc:Zb9 md ops listed) {i:Nat}:∀ (f t:Nat),Zdj md ops f t i=true→(∀ ot,ops[t]? = some ot→∀ e ∈ ot.after,Region.binds md e=true→listed.getD e.on false=true)→listed.getD i false=true:=by
 have one:∀ t,Region.waitsFor md ops t i=true→(∀ ot,ops[t]? = some ot→∀ e ∈ ot.after,Region.binds md e=true→listed.getD e.on false=true)→listed.getD i false=true:=by
  intro t h1 hall
  obtain ⟨o',ho',e,he,hb,hon⟩:=Region.waitsFor_spec h1
  have h2:=hall o' ho' e he hb
  rwa [hon] at h2
 intro f
 induction f with
 | zero=>intro t h hall; exact one t h hall
 | succ f ih =>
   intro t h hall
   rw [Zdj,Bool.or_eq_true] at h
   rcases h with h | h
   ·exact one t h hall
   ·obtain ⟨j,_,h1⟩:=List.any_eq_true.1 h
    rw [Bool.and_eq_true] at h1
    obtain ⟨o',ho',e,he,hb,hon⟩:=Region.waitsFor_spec h1.1
    have h2:=hall o' ho' e he hb
    rw [hon] at h2
    exact ih j h1.2 (fun oj hoj e2 he2 hb2=>hc j oj hoj h2 e2 he2 hb2)
def ZbO (md:Region.Mode) (ops:Array Oper) (n i:Nat):Bool:=(List.range ops.size).all fun t=>decide (t < n) || Zdj md ops 4 t i
theorem ZfC {i j:Nat} {listed:Array Bool} (ht:ZbO md ops n i=true) (hc:Zb9 md ops listed) (hi:listed.getD i true=false) (hj:j ∈ Region.ready md ops listed):j < n:=by
 obtain ⟨_,oj,hoj,hall⟩:=mem_ready.1 hj
 have hjs:j < ops.size:=(Array.getElem?_eq_some_iff.1 hoj).1
 have h1:=List.all_eq_true.1 ht j (List.mem_range.2 hjs)
 simp only [Bool.or_eq_true,decide_eq_true_eq] at h1
 rcases h1 with h1 | h1
 ·exact h1
 ·have h2:=ZeC hc 4 j h1 (fun o ho=>by
   have:o=oj:=Option.some.inj (ho.symm.trans hoj)
   subst this
   exact hall)
  rw [getD_both hi] at h2
  cases h2
theorem ZkL {i:Nat} {oi:Oper} {v:Value} (hi:ops[i]? = some oi) (hin:i < n) (ht:ZbO md ops n i=true) (hsel:∀ (j:Nat) (o:Oper) cs b,ops[j]? = some o→o.op≠.select cs b)
 (hQ:∀ c a w,Q (.panic c) (a.put oi.dst v) w→Q (.panic c) a w) :
 ∀ (fuel:Nat) (listed:Array Bool) (a:Act) (w:World),Zb9 md ops listed →
   (∀ j oj,ops[j]? = some oj→j≠i→listed.getD j true=false→(∀ e ∈ oj.after,Region.binds md e=true→e.on≠i)→oi.apart ops oj=true) →
   i ∈ Region.ready md ops listed→YieldsIf P ops S oi v a→S w →
   Zdm P md ops Q S n fuel (listed.setIfInBounds i true) (a.put oi.dst v) w→Zdm P md ops Q S n (fuel + 1) listed a w:=by
 intro fuel
 induction fuel with
 | zero =>
   intro listed a w _ _ hr hy hS H
   constructor
   ·intro h; rw [h] at hr; cases hr
   ·intro j hj
    by_cases hji:j=i
    ·subst hji; exact hy.wpOp hi hS (Or.inl ⟨hin,hS,H⟩)
    ·have h:=ready_mono hj hji
     rw [H.1] at h; cases h
 | succ fuel ih =>
   intro listed a w hcl hfree hr hy hS H
   constructor
   ·intro h; rw [h] at hr; cases hr
   ·intro j hj
    by_cases hji:j=i
    ·subst hji; exact hy.wpOp hi hS (Or.inl ⟨hin,hS,H⟩)
    ·have h0:=(mem_ready.1 hr).1
     have hjn:j < n:=ZfC ht hcl h0 hj
     have h1:=H.2 j (ready_mono hj hji)
     obtain ⟨hjun,oj,hoj,hall⟩:=mem_ready.1 hj
     have hnot:∀ e ∈ oj.after,Region.binds md e=true→e.on≠i:=by
      intro e he hb heq
      have h2:=hall e he hb
      rw [heq,getD_both h0] at h2
      cases h2
     have h2:=wpOp_putIf hoj (hfree j oj hoj hji hjun hnot) (fun cs b=>hsel i oi cs b hi) (fun cs b=>hsel j oj cs b hoj) hQ hy h1
     refine wpOp_mono (fun a' w' h3=>?_) h2
     obtain ⟨hy',h3⟩:=h3
     rcases h3 with ⟨_,hS',h3⟩ | ⟨h3,_⟩
     ·refine Or.inl ⟨hjn,hS',ih (listed.setIfInBounds j true) a' w' (hcl.set hj) ?_ (ready_mono hr (Ne.symm hji)) hy' hS' ?_⟩
      ·intro k ok hk hki hun hno
       refine hfree k ok hk hki ?_ hno
       by_cases hjk:j=k
       ·subst hjk; exact hjun
       ·rwa [getD_set_ne true hjk] at hun
      ·rw [Array.setIfInBounds_comm _ _ hji]; exact h3
     ·omega
theorem ZcI (i:Nat) {oi:Oper} {v:Value} {fuel:Nat} {listed:Array Bool} {a:Act} {w:World} (hi:ops[i]? = some oi)
 (hc:(Region.noSelect ops && Region.free md ops listed i && (Region.ready md ops listed).contains i && ZbO md ops n i && decide (i < n) && Zmp md ops listed)=true)
 (hQ:∀ c a w,Q (.panic c) (a.put oi.dst v) w→Q (.panic c) a w) (hS:S w) (hy:S w→YieldsIf P ops S oi v a)
 (h:S w→Zdm P md ops Q S n fuel (listed.setIfInBounds i true) (a.put oi.dst v) w):Zdm P md ops Q S n (fuel + 1) listed a w:=by
 simp only [Bool.and_eq_true,decide_eq_true_eq] at hc
 obtain ⟨⟨⟨⟨⟨h1,h2⟩,h3⟩,h4⟩,h5⟩,h6⟩:=hc
 exact ZkL hi h5 h4 (Region.noSelect_spec h1) hQ fuel listed a w (Zn2 h6) (Region.free_spec hi h2) (by simpa using h3) (hy hS) hS (h hS)
theorem ZkM (i:Nat) {o:Oper} {fuel:Nat} {listed:Array Bool} {a:Act} {w:World} (ho:ops[i]? = some o) (hr:(decide (Region.ready md ops listed=[i]) && decide (i < n))=true) (hg:o.guard=none)
 (h:∀ K:Act→World→Prop,(∀ a' w',S w'→Zdm P md ops Q S n fuel (listed.setIfInBounds i true) a' w'→K a' w')→o.wp P a w K Q):Zdm P md ops Q S n (fuel + 1) listed a w:=by
 simp only [Bool.and_eq_true,decide_eq_true_eq] at hr
 obtain ⟨hr,hn⟩:=hr
 refine ⟨fun h1=>(by rw [hr] at h1; cases h1),fun j hj=>?_⟩
 rw [hr] at hj
 have e:j=i:=by simpa using hj
 subst e
 unfold wpOp
 simp only [ho]
 have hw:Region.wanted o (yielded ops a.tmps)=true:=by unfold Region.wanted; rw [hg]
 simp only [hw,if_true]
 exact Or.inl (h _ (fun a' w' h1 h2=>Or.inl ⟨hn,h1,h2⟩))
theorem Zpk {l:List Oper} (k:Nat) {listed:Array Bool} {a:Act} {w:World} (hl:ops.toList.drop k=l) (hB:(Region.seqB md ops l.length k listed && decide (n≤k))=true) (h:wpList P ops Q l a w) :
 Zdm P md ops Q S n l.length listed a w:=by
 simp only [Bool.and_eq_true,decide_eq_true_eq] at hB
 obtain ⟨hB,hn⟩:=hB
 have h1:=wpAny_of_seq (Q':=Q) l k listed a w (fun j=>by rw [← hl,List.getElem?_drop,Array.getElem?_toList]) hB h
 have h2:=seqB_ready hB
 generalize l.length=f at *
 cases f with
 | zero=>exact h1
 | succ f=>exact ⟨h1.1,fun i hi=>wpOp_mono (fun a' w' h3=>Or.inr ⟨Nat.le_trans hn (h2 i hi),h3⟩) (h1.2 i hi)⟩
theorem ZlN (n:Nat) (S:World→Prop) {id:Nat} {a:Act} {w:World} (hm:P.follows .mixedOrders=true)
 (h:Zdm P .any ops Q S n ops.size (Array.replicate ops.size false) a w.drew):(Code.region id ops true).wp P Q a w :=
 wp_region_any hm (Ziq _ _ _ _ h)
end
end Go.Proofs.YtcpjeaaapocoeaaGreatDoor
