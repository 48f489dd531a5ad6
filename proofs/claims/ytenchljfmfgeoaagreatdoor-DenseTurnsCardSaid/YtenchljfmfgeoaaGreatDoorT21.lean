/-
 My texts Fb put together.
-/
import Derived.RangeFuncKeeps
import Derived.RangeFuncBox
import Derived.RangeFuncLeaves
import Derived.RangeFuncCalls
import Derived.OwnWalkIn
import Derived.TacticsInMore
import Derived.LoopNIn
import Derived.LoopIn
import Derived.Test.YtenchljfmfgeoaaGreatDoorT19
set_option maxRecDepth 100000
set_option maxHeartbeats 8000000
namespace Go.Proofs.YtenchljfmfgeoaaGreatDoor
open Go.RowKit Tryz
section
def eM (n k:Nat):List Nat:=(List.range k).map fun j=>n-1-j
theorem ZbJ (n k:Nat):eM n (k+1)=eM n k ++ [n-1-k]:=by simp[eM,List.range_succ]
theorem Zg2 (n k:Nat):(eM n k).length=k:=by simp[eM]
def KpS (Bs b:Nat) (A B:World):Prop:=B.heap[Bs]? = A.heap[Bs]? ∧ B.heap[b]? = A.heap[b]?
theorem KpS.refl (a b:Nat)(A:World):KpS a b A A:=⟨rfl,rfl⟩
theorem KpS.trans {a b:Nat}{A B C:World}(h:KpS a b A B)(k:KpS a b B C):KpS a b A C:=⟨k.1.trans h.1,k.2.trans h.2⟩
theorem KpS.cell1 {a b:Nat}{A B:World}(h:KpS a b A B)(j:Nat):B.cell? ⟨a,j,none⟩=A.cell? ⟨a,j,none⟩:=World.cell?_of_block h.1
theorem KpS.cell2 {a b:Nat}{A B:World}(h:KpS a b A B)(j:Nat):B.cell? ⟨b,j,none⟩=A.cell? ⟨b,j,none⟩:=World.cell?_of_block h.2
attribute [local go_sem] Oper.semAt_some
theorem ZhQ (n l h b cap:Nat)(xs:qN)(K:1≤n)(u:xs.length≤4294967296)(J w:List Nat→World→Prop)(E:∀ pre x W,J pre W→pre.length<xs.length→YieldAt Fence.wide (n-1) prog l #[.int .i64 ((x:Nat):Int),.int .u64 ((xs[x]?.getD 0:Nat):Int)] W fun e W' =>
 (e=.returned (.bool true)∧J (pre ++ [x]) W'∧KpS h b W W')∨(e=.returned (.bool false)∧w (pre ++ [x]) W'))(W:World)(o:W.cell? ⟨h,0,none⟩=some (.slice (some ⟨b,0,none⟩) xs.length cap))(F:∀ j,j<xs.length→W.cell? ⟨b,j,none⟩=some (.int .u64 ((xs[j]?.getD 0:Nat):Int)))(G:J [] W) :
 CallsIn Fence.wide n prog 175 #[.func (.yield l) #[] #[],.pointer (some ⟨h,0,none⟩)] W fun e W'=>(∃ v,e=.returned v) ∧
 ((∃ y,y=eM xs.length xs.length∧J y W')∨(∃ pre,(∃ k,k≤xs.length∧pre=eM xs.length k)∧w pre W')):=by
 refine callsIn_of_wp func175 rfl trivial ?_ rfl
 simp only[ntmps175,qY,tU,oF,Nat.reduceAdd,Nat.reduceSub,Array.replicate_succ,Array.replicate_zero,List.push_toArray,List.append_toArray,qU,List.cons_append]
 gi_wp2
 gi_loopw [3] (fun i wr=>∃ k:Nat,k≤xs.length∧i=.int .i64 ((xs.length:Int)-1-k)∧J (eM xs.length k) wr∧KpS h b W wr)
  (fun i _=>(intOf i+1).toNat)
 case atStart=>exact⟨0,vK _,qS,G,KpS.refl _ _ _⟩
 case round =>
  obtain⟨k,L,rfl,c,a⟩:=hrel
  have H:=(a.cell1 0).trans o
  by_cases p:k<xs.length
  ·have d:wr.cell? ⟨b,xs.length-1-k,none⟩=some (.int .u64 ((xs[xs.length-1-k]?.getD 0:Nat):Int)):=(a.cell2 _).trans (F _ qO)
   obtain⟨M,z,m,A,B,C⟩:=E _ (xs.length-1-k) wr c (by rw[Zg2];exact p)
   obtain⟨j,q⟩:=yE (xs.length-1-k)
   rw[q] at d B C
   have D:(xs.length:Int)-1-(k:Int)=(j:Int):=qO
   rw[D]
   have I:j<xs.length:=qO
   obtain⟨xj,f⟩:=yE (xs[j]?.getD 0)
   rw[f] at d B
   clear f
   have r:=zh q
   clear q D
   gi_wp2
   refine C.mono ?_
   rintro e N (⟨rfl,s,t⟩|⟨rfl,g⟩)
   ·gi_wp2
    go_roundw
    case rel=>exact⟨k+1,qO,by have:=r.out;simp<;>omega,by rw[ZbJ,r.out];exact s,a.trans t⟩
    case measure=>simp[intOf]<;>omega
   gi_wp2
   refine bodyPost_ret (results_none rfl _ _ _) rfl ?_
   exact⟨⟨_,rfl⟩,.inr ⟨_,⟨k+1,qO,by rw[ZbJ,r.out]⟩,g⟩⟩
  obtain rfl:k=xs.length:=qO
  gi_wp2
  go_end0
  exact⟨⟨_,rfl⟩,.inl ⟨_,rfl,c⟩⟩
theorem ZeR (n a b cap:Nat)(xs:qN)(g:1≤n)(c:xs.length≤4294967296)(w:World)(h:a<w.heap.size)(i:b<w.heap.size)(d:w.cell? ⟨a,0,none⟩=some (.slice (some ⟨b,0,none⟩) xs.length cap))(m:∀ j,j<xs.length→w.cell? ⟨b,j,none⟩=some (.int .u64 ((xs[j]?.getD 0:Nat):Int))) :
 SeqStopsK Fence.wide n prog 175 #[.pointer (some ⟨a,0,none⟩)] (fun x:Nat=>#[Value.int .i64 (x:Int),Value.int .u64 ((xs[x]?.getD 0:Nat):Int)]) (KpS a b)
  (fun o=>o=eM xs.length xs.length) (fun e=>∃ k,k≤xs.length∧e=eM xs.length k) xs.length w:=fun l J q W f _ _ r s =>
 ZhQ n l a b cap xs g c J q r W ((f.cell (p:=⟨a,0,none⟩) h).trans d) (fun j t=>(f.cell (p:=⟨b,j,none⟩) i).trans (m j t)) s
theorem Zg3 (a:qA)(len cap:Nat)(w:World) :
 yA 147 #[.slice a len cap] w fun e w'=>e=.returned (.func (.func 175) #[] #[.pointer (some ⟨w.heap.size,0,none⟩)])∧w'=w.alloc (.cells #[.slice a len cap] 106):=by
 go_enter func147,ntmps147
 go_wp2
 go_ret
 exact⟨rfl,rfl⟩
end
end Go.Proofs.YtenchljfmfgeoaaGreatDoor
