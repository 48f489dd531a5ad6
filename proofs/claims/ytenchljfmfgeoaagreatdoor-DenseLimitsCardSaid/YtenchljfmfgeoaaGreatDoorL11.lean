/-
 My texts Ord put together.
-/
import Derived.OrdersHeld
import Derived.StillTail
set_option maxRecDepth 100000
namespace Go.Proofs.YtenchljfmfgeoaaGreatDoor
section
variable {P:Program} {ops:Array Oper} {Q:Exit→Act→World→Prop} {md:Region.Mode} {S:World→Prop} {n:Nat}
def Zet (md:Region.Mode) (ops:Array Oper) (listed:Array Bool):Prop:=∀ j oj,ops[j]? = some oj→listed.getD j false=true→∀ e ∈ oj.after,Region.binds md e=true→listed.getD e.on false=true
theorem Zet.set {i:Nat} {listed:Array Bool} (hc:Zet md ops listed) (hi:i ∈ Region.ready md ops listed):Zet md ops (listed.setIfInBounds i true):=by
 obtain ⟨_,oi,hoi,hall⟩:=mem_ready.1 hi
 intro j oj hj hl e he hb
 by_cases hij:i=j
 ·subst hij
  have:oj=oi:=Option.some.inj (hj.symm.trans hoi)
  subst this
  exact getD_set_true (hall e he hb)
 ·rw [getD_set_ne false hij] at hl
  exact getD_set_true (hc j oj hj hl e he hb)
def Zfi (md:Region.Mode) (ops:Array Oper):Nat→Nat→Nat→Bool
 | 0,t,i=>Region.waitsFor md ops t i
 | f + 1,t,i=>Region.waitsFor md ops t i || (List.range ops.size).any fun j=>Region.waitsFor md ops t j && Zfi md ops f j i
theorem Zg3 {listed:Array Bool} (hc:Zet md ops listed) {i:Nat}:∀ (f t:Nat),Zfi md ops f t i=true→(∀ ot,ops[t]? = some ot→∀ e ∈ ot.after,Region.binds md e=true→listed.getD e.on false=true)→listed.getD i false=true:=by
 have one:∀ t,Region.waitsFor md ops t i=true→(∀ ot,ops[t]? = some ot→∀ e ∈ ot.after,Region.binds md e=true→listed.getD e.on false=true)→listed.getD i false=true:=by
  intro t h1 hall
  obtain ⟨o',ho',e,he,hb,hon⟩:=Region.waitsFor_spec h1
  have h2:=hall o' ho' e he hb
  rwa [hon] at h2
 intro f
 induction f with
 | zero=>intro t h hall; exact one t h hall
 | succ f ih =>
   intro t h hall
   rw [Zfi,Bool.or_eq_true] at h
   rcases h with h | h
   ·exact one t h hall
   ·obtain ⟨j,_,h1⟩:=List.any_eq_true.1 h
    rw [Bool.and_eq_true] at h1
    obtain ⟨o',ho',e,he,hb,hon⟩:=Region.waitsFor_spec h1.1
    have h2:=hall o' ho' e he hb
    rw [hon] at h2
    exact ih j h1.2 (fun oj hoj e2 he2 hb2=>hc j oj hoj h2 e2 he2 hb2)
def Zdj (md:Region.Mode) (ops:Array Oper) (n i:Nat):Bool:=(List.range ops.size).all fun t=>decide (t < n) || Zfi md ops 4 t i
theorem ZkQ {i j:Nat} {listed:Array Bool} (ht:Zdj md ops n i=true) (hc:Zet md ops listed) (hi:listed.getD i true=false) (hj:j ∈ Region.ready md ops listed):j < n:=by
 obtain ⟨_,oj,hoj,hall⟩:=mem_ready.1 hj
 have hjs:j < ops.size:=(Array.getElem?_eq_some_iff.1 hoj).1
 have h1:=List.all_eq_true.1 ht j (List.mem_range.2 hjs)
 simp only [Bool.or_eq_true,decide_eq_true_eq] at h1
 rcases h1 with h1 | h1
 ·exact h1
 ·have h2:=Zg3 hc 4 j h1 (fun o ho=>by
   have:o=oj:=Option.some.inj (ho.symm.trans hoj)
   subst this
   exact hall)
  rw [getD_both hi] at h2
  cases h2
end
end Go.Proofs.YtenchljfmfgeoaaGreatDoor
