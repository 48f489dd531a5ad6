/-
 My texts Ord put together.
-/
import Derived.OrdersHeld
import Derived.StillTail
set_option maxRecDepth 100000
set_option maxHeartbeats 8000000
namespace Go.Proofs.YtenchljfmfgeoaaGreatDoor
section
variable {P:Program} {ops:Array Oper} {Q:Exit→Act→World→Prop} {md:Region.Mode} {S:World→Prop} {n:Nat}
def bI (md:Region.Mode) (ops:Array Oper) (listed:Array Bool):Prop:=∀ j oj,ops[j]? = some oj→listed.getD j false=true→∀ e∈oj.after,Region.binds md e=true→listed.getD e.on false=true
theorem bI.set {i:Nat}{a:Array Bool}(m:bI md ops a)(hi:i∈Region.ready md ops a):bI md ops (a.setIfInBounds i true):=by
 obtain⟨_,o,d,b⟩:=mem_ready.1 hi
 intro j f g h e k l
 by_cases c:i=j
 ·subst c
  have:f=o:=Option.some.inj (g.symm.trans d)
  subst this
  exact getD_set_true (b e k l)
 rw[getD_set_ne false c] at h
 exact getD_set_true (m j f g h e k l)
def Zan (md:Region.Mode) (ops:Array Oper):Nat→Nat→Nat→Bool
 | 0,t,i=>Region.waitsFor md ops t i
 | f+1,t,i=>Region.waitsFor md ops t i || (List.range ops.size).any fun j=>Region.waitsFor md ops t j && Zan md ops f j i
theorem Zcg {a:Array Bool}(u:bI md ops a){i:Nat}:∀ (f t:Nat),Zan md ops f t i=true→(∀ g,ops[t]? = some g→∀ e∈g.after,Region.binds md e=true→a.getD e.on false=true)→a.getD i false=true:=by
 have one:∀ t,Region.waitsFor md ops t i=true→(∀ g,ops[t]? = some g→∀ e∈g.after,Region.binds md e=true→a.getD e.on false=true)→a.getD i false=true:=by
  intro t k b
  obtain⟨m,c,e,o,p,d⟩:=Region.waitsFor_spec k
  have l:=b m c e o p
  rwa [d] at l
 intro f
 induction f with
 | zero=>intro t h b;exact one t h b
 | succ f ih =>
  intro t h b
  rw[Zan,Bool.or_eq_true] at h
  rcases h with h|h
  ·exact one t h b
  obtain⟨j,_,k⟩:=List.any_eq_true.1 h
  rw[Bool.and_eq_true] at k
  obtain⟨m,c,e,o,p,d⟩:=Region.waitsFor_spec k.1
  have l:=b m c e o p
  rw[d] at l
  exact ih j k.2 (fun v q w r s=>u j v q l w r s)
def fJ (md:Region.Mode) (ops:Array Oper) (n i:Nat):Bool:=(List.range ops.size).all fun t=>decide (t<n) || Zan md ops 4 t i
theorem Zgr {i j:Nat}{a:Array Bool}(f:fJ md ops n i=true)(g:bI md ops a)(hi:a.getD i true=false)(h:j∈Region.ready md ops a):j<n:=by
 obtain⟨_,k,c,d⟩:=mem_ready.1 h
 have e:j<ops.size:=(Array.getElem?_eq_some_iff.1 c).1
 have b:=List.all_eq_true.1 f j (List.mem_range.2 e)
 simp only[Bool.or_eq_true,decide_eq_true_eq] at b
 rcases b with b|b
 ·exact b
 have h2:=Zcg g 4 j b (fun o l=>by
  have:o=k:=Option.some.inj (l.symm.trans c)
  subst this
  exact d)
 rw[getD_both hi] at h2
 cases h2
end
end Go.Proofs.YtenchljfmfgeoaaGreatDoor
