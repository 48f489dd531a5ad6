/-
 My texts.
-/
import Derived.OrdersHeld
import Derived.StillTail
set_option maxRecDepth 100000
set_option maxHeartbeats 8000000
namespace Go.Proofs.YtmpffakfhcpjoaaGreatDoor
section
variable {P:Program} {ops:Array Oper} {Q:Exit→Act→World→Prop} {md:Region.Mode} {S:World→Prop} {n:Nat}
def bR (P:Program) (md:Region.Mode) (ops:Array Oper) (Q:Exit→Act→World→Prop) (S:World→Prop) (n:Nat):Nat→Array Bool→Act→World→Prop
 | 0,listed,a,w=>Region.ready md ops listed=[]∧Q .normal a w
 | fuel+1,listed,a,w =>
  (Region.ready md ops listed=[]→Q .normal a w) ∧
  ∀ i∈Region.ready md ops listed,wpOp P ops Q i (fun a' w'=>(i<n∧S w'∧bR P md ops Q S n fuel (listed.setIfInBounds i true) a' w')∨(n≤i∧wpAny P md ops Q fuel (listed.setIfInBounds i true) a' w')) a w
theorem Zgr:∀ (b:Nat) (c:Array Bool) (a:Act) (w:World),bR P md ops Q S n b c a w→wpAny P md ops Q b c a w
 | 0,_,_,_,h=>h
 | b+1,_,_,_,h=>⟨h.1,fun i hi=>wpOp_mono (fun e w' d=>by
  rcases d with d|d
  ·exact Zgr b _ e w' d.2.2
  exact d.2) (h.2 i hi)⟩
def bS (md:Region.Mode) (ops:Array Oper) (listed:Array Bool):Prop:=∀ j oj,ops[j]? = some oj→listed.getD j false=true→∀ e∈oj.after,Region.binds md e=true→listed.getD e.on false=true
def ZlJ (md:Region.Mode) (ops:Array Oper) (listed:Array Bool):Bool :=
 (List.range ops.size).all fun j => !listed.getD j false || ((ops[j]?).map (·.after.all fun e => !Region.binds md e || listed.getD e.on false)).getD false
theorem Zom {listed:Array Bool}(h:ZlJ md ops listed=true):bS md ops listed:=by
 intro j k c f e g i
 have a:j<ops.size:=(Array.getElem?_eq_some_iff.1 c).1
 have b:=List.all_eq_true.1 h j (List.mem_range.2 a)
 rw[f,c] at b
 simp only[Bool.not_true,Bool.false_or,Option.map_some,Option.getD_some] at b
 have d:=Array.all_eq_true'.1 b e g
 rw[i] at d
 simpa using d
theorem bS.set {i:Nat}{a:Array Bool}(m:bS md ops a)(hi:i∈Region.ready md ops a):bS md ops (a.setIfInBounds i true):=by
 obtain⟨_,o,d,b⟩:=mem_ready.1 hi
 intro j f g h e k l
 by_cases c:i=j
 ·subst c
  have:f=o:=Option.some.inj (g.symm.trans d)
  subst this
  exact getD_set_true (b e k l)
 rw[getD_set_ne false c] at h
 exact getD_set_true (m j f g h e k l)
def Zb8 (md:Region.Mode) (ops:Array Oper):Nat→Nat→Nat→Bool
 | 0,t,i=>Region.waitsFor md ops t i
 | f+1,t,i=>Region.waitsFor md ops t i || (List.range ops.size).any fun j=>Region.waitsFor md ops t j && Zb8 md ops f j i
theorem Zec {a:Array Bool}(u:bS md ops a){i:Nat}:∀ (f t:Nat),Zb8 md ops f t i=true→(∀ g,ops[t]? = some g→∀ e∈g.after,Region.binds md e=true→a.getD e.on false=true)→a.getD i false=true:=by
 have one:∀ t,Region.waitsFor md ops t i=true→(∀ g,ops[t]? = some g→∀ e∈g.after,Region.binds md e=true→a.getD e.on false=true)→a.getD i false=true:=by
  intro t k b
  obtain⟨m,c,e,o,p,d⟩:=Region.waitsFor_spec k
  have l:=b m c e o p
  rwa [d] at l
 intro f
 induction f with
 | zero=>intro t h b;exact one t h b
 | succ f ih =>
  intro t h b
  rw[Zb8,Bool.or_eq_true] at h
  rcases h with h|h
  ·exact one t h b
  obtain⟨j,_,k⟩:=List.any_eq_true.1 h
  rw[Bool.and_eq_true] at k
  obtain⟨m,c,e,o,p,d⟩:=Region.waitsFor_spec k.1
  have l:=b m c e o p
  rw[d] at l
  exact ih j k.2 (fun v q w r s=>u j v q l w r s)
def fT (md:Region.Mode) (ops:Array Oper) (n i:Nat):Bool:=(List.range ops.size).all fun t=>decide (t<n) || Zb8 md ops 4 t i
theorem ZfJ {i j:Nat}{a:Array Bool}(f:fT md ops n i=true)(g:bS md ops a)(hi:a.getD i true=false)(h:j∈Region.ready md ops a):j<n:=by
 obtain⟨_,k,c,d⟩:=mem_ready.1 h
 have e:j<ops.size:=(Array.getElem?_eq_some_iff.1 c).1
 have b:=List.all_eq_true.1 f j (List.mem_range.2 e)
 simp only[Bool.or_eq_true,decide_eq_true_eq] at b
 rcases b with b|b
 ·exact b
 have h2:=Zec g 4 j b (fun o l=>by
  have:o=k:=Option.some.inj (l.symm.trans c)
  subst this
  exact d)
 rw[getD_both hi] at h2
 cases h2
theorem Zjw {i:Nat}{oi:Oper}{v:Value}(hi:ops[i]? = some oi)(t:i<n)(L:fT md ops n i=true)(l:∀ (j:Nat) (o:Oper) cs b,ops[j]? = some o→o.op≠.select cs b)(M:∀ c a w,Q (.panic c) (a.put oi.dst v) w→Q (.panic c) a w) :
 ∀ (fuel:Nat) (d:Array Bool) (a:Act) (w:World),bS md ops d →
 (∀ j p,ops[j]? = some p→j≠i→d.getD j true=false→(∀ e∈p.after,Region.binds md e=true→e.on≠i)→oi.apart ops p=true) →
 i∈Region.ready md ops d→YieldsIf P ops S oi v a→S w →
 bR P md ops Q S n fuel (d.setIfInBounds i true) (a.put oi.dst v) w→bR P md ops Q S n (fuel+1) d a w:=by
 intro fuel
 induction fuel with
 | zero =>
  intro d a w _ _ hr C u H
  constructor
  ·intro h;rw[h] at hr;cases hr
  intro j r
  by_cases f:j=i
  ·subst f;exact C.wpOp hi u (Or.inl ⟨t,u,H⟩)
  have h:=ready_mono r f
  rw[H.1] at h;cases h
 | succ fuel ih =>
  intro d a w x g hr C u H
  constructor
  ·intro h;rw[h] at hr;cases hr
  intro j r
  by_cases f:j=i
  ·subst f;exact C.wpOp hi u (Or.inl ⟨t,u,H⟩)
  have K:=(mem_ready.1 hr).1
  have D:j<n:=ZfJ L x K r
  have N:=H.2 j (ready_mono r f)
  obtain⟨m,p,q,y⟩:=mem_ready.1 r
  have z:∀ e∈p.after,Region.binds md e=true→e.on≠i:=by
   intro e O R E
   have h2:=y e O R
   rw[E,getD_both K] at h2
   cases h2
  have h2:=wpOp_putIf q (g j p q f m z) (fun cs b=>l i oi cs b hi) (fun cs b=>l j p cs b q) M C N
  refine wpOp_mono (fun T w' s=>?_) h2
  obtain⟨F,s⟩:=s
  rcases s with ⟨_,A,s⟩|⟨s,_⟩
  ·refine Or.inl ⟨D,A,ih (d.setIfInBounds j true) T w' (x.set r) ?_ (ready_mono hr (Ne.symm f)) F A ?_⟩
   ·intro k U V G I J
    refine g k U V G ?_ J
    by_cases B:j=k
    ·subst B;exact m
    rwa [getD_set_ne true B] at I
   rw[Array.setIfInBounds_comm _ _ f];exact s
  omega
theorem dI (i:Nat){oi:Oper}{v:Value}{fuel:Nat}{b:Array Bool}{a:Act}{w:World}(hi:ops[i]? = some oi)(e:(Region.noSelect ops && Region.free md ops b i && (Region.ready md ops b).contains i && fT md ops n i && decide (i<n) && ZlJ md ops b)=true)(f:∀ c a w,Q (.panic c) (a.put oi.dst v) w→Q (.panic c) a w)(d:S w)(g:S w→YieldsIf P ops S oi v a)(h:S w→bR P md ops Q S n fuel (b.setIfInBounds i true) (a.put oi.dst v) w):bR P md ops Q S n (fuel+1) b a w:=by
 simp only[Bool.and_eq_true,decide_eq_true_eq] at e
 obtain⟨⟨⟨⟨⟨j,k⟩,l⟩,m⟩,o⟩,p⟩:=e
 exact Zjw hi o m (Region.noSelect_spec j) f fuel b a w (Zom p) (Region.free_spec hi k) (by simpa using l) (g d) d (h d)
theorem Zjx (i:Nat){o:Oper}{fuel:Nat}{b:Array Bool}{a:Act}{w:World}(d:ops[i]? = some o)(c:(decide (Region.ready md ops b=[i]) && decide (i<n))=true)(f:o.guard=none)(h:∀ K:Act→World→Prop,(∀ a' w',S w'→bR P md ops Q S n fuel (b.setIfInBounds i true) a' w'→K a' w')→o.wp P a w K Q):bR P md ops Q S n (fuel+1) b a w:=by
 simp only[Bool.and_eq_true,decide_eq_true_eq] at c
 obtain⟨c,g⟩:=c
 refine⟨fun h1=>(by rw[c] at h1;cases h1),fun j hj=>?_⟩
 rw[c] at hj
 have e:j=i:=by simpa using hj
 subst e
 unfold wpOp
 simp only[d]
 have k:Region.wanted o (yielded ops a.tmps)=true:=by unfold Region.wanted;rw[f]
 simp only[k,if_true]
 exact Or.inl (h _ (fun a' w' h1 l=>Or.inl ⟨g,h1,l⟩))
theorem Zqm {l:List Oper}(k:Nat){b:Array Bool}{a:Act}{w:World}(e:ops.toList.drop k=l)(c:(Region.seqB md ops l.length k b && decide (n≤k))=true)(h:wpList P ops Q l a w) :
 bR P md ops Q S n l.length b a w:=by
 simp only[Bool.and_eq_true,decide_eq_true_eq] at c
 obtain⟨c,g⟩:=c
 have d:=wpAny_of_seq (Q':=Q) l k b a w (fun j=>by rw[←e,List.getElem?_drop,Array.getElem?_toList]) c h
 have m:=seqB_ready c
 generalize l.length=f at *
 cases f with
 | zero=>exact d
 | succ f=>exact⟨d.1,fun i hi=>wpOp_mono (fun p w' o=>Or.inr ⟨Nat.le_trans g (m i hi),o⟩) (d.2 i hi)⟩
theorem ZkZ (n:Nat)(S:World→Prop){id:Nat}{a:Act}{w:World}(b:P.follows .mixedOrders=true)(h:bR P .any ops Q S n ops.size (Array.replicate ops.size false) a w.drew):(Code.region id ops true).wp P Q a w :=
 wp_region_any b (Zgr _ _ _ _ h)
end
end Go.Proofs.YtmpffakfhcpjoaaGreatDoor
