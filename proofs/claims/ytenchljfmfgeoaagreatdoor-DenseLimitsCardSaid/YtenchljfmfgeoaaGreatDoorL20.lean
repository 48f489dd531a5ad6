/-
 My texts Fb, Fdm, Fdc put together.
-/
import Derived.RangeFuncKeeps
import Derived.RangeFuncBox
import Derived.RangeFuncLeaves
import Derived.RangeFuncCalls
import Derived.OwnWalkIn
import Derived.TacticsInMore
import Derived.LoopNIn
import Derived.LoopIn
import Derived.Test.YtenchljfmfgeoaaGreatDoorL18
import Derived.RangeFuncFrom
import Derived.Shelf.Strings.BuilderK
import Derived.Shelf.Strings.Repeat
import Derived.Deep.RegionLaw
set_option maxRecDepth 100000
namespace Go.Proofs.YtenchljfmfgeoaaGreatDoor
open Go.RowKit
def ZdE (n k:Nat):List Nat:=(List.range k).map fun j=>n - 1 - j
theorem ZgC (n k:Nat):ZdE n (k + 1)=ZdE n k ++ [n - 1 - k]:=by simp [ZdE,List.range_succ]
theorem Zlw (n k:Nat):(ZdE n k).length=k:=by simp [ZdE]
def KpS (Bs b:Nat) (A B:World):Prop:=B.heap[Bs]? = A.heap[Bs]? ∧ B.heap[b]? = A.heap[b]?
theorem KpS.refl (Bs b:Nat) (A:World):KpS Bs b A A:=⟨rfl,rfl⟩
theorem KpS.trans {Bs b:Nat} {A B C:World} (h:KpS Bs b A B) (k:KpS Bs b B C):KpS Bs b A C:=⟨k.1.trans h.1,k.2.trans h.2⟩
theorem KpS.cell1 {Bs b:Nat} {A B:World} (h:KpS Bs b A B) (j:Nat):B.cell? ⟨Bs,j,none⟩=A.cell? ⟨Bs,j,none⟩:=World.cell?_of_block h.1
theorem KpS.cell2 {Bs b:Nat} {A B:World} (h:KpS Bs b A B) (j:Nat):B.cell? ⟨b,j,none⟩=A.cell? ⟨b,j,none⟩:=World.cell?_of_block h.2
attribute [local go_sem] Oper.semAt_some
set_option maxHeartbeats 2000000 in
theorem Zmf (n l Bs b cap:Nat) (xs:List Nat) (hn:1≤n) (hlen:xs.length≤4294967296) (J Jx:List Nat→World→Prop)
 (hY:∀ pre x W,J pre W→pre.length < xs.length→YieldAt Fence.wide (n - 1) Tryz.prog l #[.int .i64 ((x:Nat):Int), .int .u64 ((xs[x]?.getD 0:Nat):Int)] W fun e W' =>
  (e=.returned (.bool true)∧J (pre ++ [x]) W'∧KpS Bs b W W')∨(e=.returned (.bool false)∧Jx (pre ++ [x]) W'))
 (W:World) (hBs:W.cell? ⟨Bs,0,none⟩=some (.slice (some ⟨b,0,none⟩) xs.length cap)) (hc:∀ j,j < xs.length→W.cell? ⟨b,j,none⟩=some (.int .u64 ((xs[j]?.getD 0:Nat):Int))) (h0:J [] W) :
 CallsIn Fence.wide n Tryz.prog 175 #[.func (.yield l) #[] #[], .pointer (some ⟨Bs,0,none⟩)] W fun e W'=>(∃ v,e=.returned v) ∧
  ((∃ ys,ys=ZdE xs.length xs.length∧J ys W')∨(∃ pre,(∃ k,k≤xs.length∧pre=ZdE xs.length k)∧Jx pre W')):=by
 refine callsIn_of_wp Tryz.func175 rfl trivial ?_ rfl
 simp only [Tryz.ntmps175,List.size_toArray,List.length_cons,List.length_nil,Nat.reduceAdd,Nat.reduceSub,Array.replicate_succ,Array.replicate_zero,List.push_toArray,List.append_toArray,List.nil_append,List.cons_append]
 gi_wp2
 gi_loopw [3] (fun i wr=>∃ k:Nat,k≤xs.length∧i=.int .i64 ((xs.length:Int) - 1 - k)∧J (ZdE xs.length k) wr∧KpS Bs b W wr)
  (fun i _=>(intOf i + 1).toNat)
 case atStart=>exact ⟨0,Nat.zero_le _,by simp,h0,KpS.refl _ _ _⟩
 case round =>
  obtain ⟨k,hk,rfl,hJs,hnx⟩:=hrel
  have hbs:=(hnx.cell1 0).trans hBs
  by_cases hlt:k < xs.length
  ·have hcx:wr.cell? ⟨b,xs.length - 1 - k,none⟩=some (.int .u64 ((xs[xs.length - 1 - k]?.getD 0:Nat):Int)):=(hnx.cell2 _).trans (hc _ (by omega))
   obtain ⟨fn,tmps,assign,body,hy,hR⟩:=hY _ (xs.length - 1 - k) wr hJs (by rw [Zlw]; exact hlt)
   obtain ⟨j,hj⟩:∃ j:Nat,xs.length - 1 - k=j:=⟨_,rfl⟩
   rw [hj] at hcx hy hR
   have ej:(xs.length:Int) - 1 - (k:Int)=(j:Int):=by omega
   rw [ej]
   have hjl:j < xs.length:=by omega
   obtain ⟨xj,hxj⟩:∃ v,xs[j]?.getD 0=v:=⟨_,rfl⟩
   rw [hxj] at hcx hy
   clear hxj
   have HJ:=zh hj
   clear hj ej
   gi_wp2
   refine hR.mono ?_
   rintro e W3 (⟨rfl,hJ3,hk3⟩ | ⟨rfl,hJx3⟩)
   ·gi_wp2
    go_roundw
    case rel=>exact ⟨k + 1,by omega,by have:=HJ.out; simp<;>omega,by rw [ZgC,HJ.out]; exact hJ3,hnx.trans hk3⟩
    case measure=>simp [intOf]<;>omega
   ·gi_wp2
    refine bodyPost_ret (results_none rfl _ _ _) rfl ?_
    exact ⟨⟨_,rfl⟩, .inr ⟨_,⟨k + 1,by omega,by rw [ZgC,HJ.out]⟩,hJx3⟩⟩
  ·obtain rfl:k=xs.length:=by omega
   gi_wp2
   go_end0
   exact ⟨⟨_,rfl⟩, .inl ⟨_,rfl,hJs⟩⟩
theorem Zjx (n Bs b cap:Nat) (xs:List Nat) (hn:1≤n) (hlen:xs.length≤4294967296) (w:World) (h1:Bs < w.heap.size) (h2:b < w.heap.size)
 (hBs:w.cell? ⟨Bs,0,none⟩=some (.slice (some ⟨b,0,none⟩) xs.length cap)) (hc:∀ j,j < xs.length→w.cell? ⟨b,j,none⟩=some (.int .u64 ((xs[j]?.getD 0:Nat):Int))) :
 SeqStopsK Fence.wide n Tryz.prog 175 #[.pointer (some ⟨Bs,0,none⟩)] (fun x:Nat=>#[Value.int .i64 (x:Int),Value.int .u64 ((xs[x]?.getD 0:Nat):Int)]) (KpS Bs b)
  (fun ys=>ys=ZdE xs.length xs.length) (fun pre=>∃ k,k≤xs.length∧pre=ZdE xs.length k) xs.length w:=fun l J Jx W hW _ _ hY h0 =>
 Zmf n l Bs b cap xs hn hlen J Jx hY W ((hW.cell (p:=⟨Bs,0,none⟩) h1).trans hBs) (fun j hj=>(hW.cell (p:=⟨b,j,none⟩) h2).trans (hc j hj)) h0
set_option maxHeartbeats 1000000 in
theorem Zlx (a:Option Addr) (len cap:Nat) (w:World) :
 Calls Tryz.prog 147 #[.slice a len cap] w fun e w'=>e=.returned (.func (.func 175) #[] #[.pointer (some ⟨w.heap.size,0,none⟩)])∧w'=w.alloc (.cells #[.slice a len cap] 106):=by
 go_enter Tryz.func147,Tryz.ntmps147
 go_wp2
 go_ret
 exact ⟨rfl,rfl⟩
end Go.Proofs.YtenchljfmfgeoaaGreatDoor

namespace Go.Proofs.YtenchljfmfgeoaaGreatDoor
open Go.RowKit
def Zft (cs:List Nat) (j:Nat):List UInt8:=if j + 1 < cs.length then List.replicate (19 - (Lib.decDigits (cs[j]?.getD 0)).length) 48 ++ Lib.decDigits (cs[j]?.getD 0) else Lib.decDigits (cs[j]?.getD 0)
def Za7 (cs:List Nat) (l:List Nat):List UInt8:=l.flatMap (Zft cs)
theorem ZgE (cs l:List Nat) (j:Nat):Za7 cs (l ++ [j])=Za7 cs l ++ Zft cs j:=by simp [Za7]
theorem Zh9 {cs:List Nat} (hlt:∀ c ∈ cs,c < 10 ^ 19) (ht:∃ l c,cs=l ++ [c]∧0 < c):∀ k,k≤cs.length→Za7 cs (ZdE cs.length k)=ZaP (chV (cs.drop (cs.length - k)))
 | 0,_=>by rw [Nat.sub_zero,List.drop_of_length_le (Nat.le_refl _)]; rfl
 | k + 1,hk=>by
   have ih:=Zh9 hlt ht k (by omega)
   rw [ZgC,ZgE,ih]
   have h:=Zql (cs:=cs) (i:=cs.length - (k + 1)) (by omega) rfl hlt ht
   rw [show cs.length - 1 - k=cs.length - (k + 1) by omega,h]
   unfold Zft
   by_cases h0:cs.length - (k + 1) + 1 < cs.length
   ·rw [if_pos h0,if_pos h0,show cs.length - (k + 1) + 1=cs.length - k by omega]
   ·have:k=0:=by omega
    subst this
    rw [if_neg h0,if_neg h0,Nat.sub_zero,List.drop_of_length_le (Nat.le_refl _)]
    rfl
theorem Zpc {cs:List Nat} {n:Nat} (h:ChR n cs 0) (hn:0 < n):Za7 cs (ZdE cs.length cs.length)=Lib.decDigits n:=by
 have hne:cs≠[]:=fun e=>by have:=h.eq; rw [e] at this; simp [chV] at this; omega
 rw [Zh9 h.lt (h.top rfl hne) _ (Nat.le_refl _),Nat.sub_self,List.drop_zero]
 have:=h.eq
 rw [Nat.mul_zero,Nat.add_zero] at this
 rw [← this,ZbO hn]
theorem ZfJ:∀ (k u:Nat),u < 10 ^ (k + 1)→Lib.nDigits u≤k + 1
 | 0,u,h=>by rw [Lib.nDigits_small (by simpa using h)]; exact Nat.le_refl _
 | k + 1,u,h=>by
   by_cases h1:u < 10
   ·rw [Lib.nDigits_small h1]; omega
   ·rw [Lib.nDigits_big h1]
    have:=ZfJ k (u / 10) (by rw [Nat.pow_succ] at h; omega)
    omega
theorem ZmO {c:Nat} (h:c < 10 ^ 19):(Lib.decDigits c).length≤19:=by
 rw [Lib.decDigits_length]
 exact ZfJ 18 c h
theorem Zpd {cs:List Nat} (h:∀ c ∈ cs,c < 10 ^ 19) (j:Nat):(Zft cs j).length≤19:=by
 have hc:cs[j]?.getD 0 < 10 ^ 19:=by
  rcases Nat.lt_or_ge j cs.length with hj | hj
  ·rw [List.getElem?_eq_getElem hj]; exact h _ (List.getElem_mem hj)
  ·rw [List.getElem?_eq_none hj]; decide
 have:=ZmO hc
 unfold Zft
 split
 ·rw [List.length_append,List.length_replicate]; omega
 ·exact this
theorem Zkc {cs:List Nat} (h:∀ c ∈ cs,c < 10 ^ 19):∀ l,(Za7 cs l).length≤19 * l.length
 | []=>by simp [Za7]
 | j :: l=>by
   have h1:=Zkc h l
   have h2:=Zpd h j
   have e:Za7 cs (j :: l)=Zft cs j ++ Za7 cs l:=by simp [Za7]
   rw [e,List.length_append,List.length_cons]
   omega
/-! ### the builder -/
theorem ZeB (B b:Nat) (l:List UInt8) (s:List UInt8) (w:World) (h:Lib.IsBuilderF 193 5 B b (Lib.byteCells l) w) (hlen:l.length + s.length≤140737488355328) (hBw:B≤w.heap.size) :
 Calls Tryz.prog 149 #[.pointer (some ⟨b,0,none⟩), .string ⟨s.toArray⟩] w fun e w'=>e=.returned (.tuple #[.int .i64 (s.length:Int), .nilIface])∧(Lib.IsBuilderF 193 5 B b (Lib.byteCells (l ++ s)) w'∧Below B w w'∧Lib.OthersKept 5 (some b) w w'):=by
 have hs:(⟨s.toArray⟩:ByteArray).size=s.length:=by rw [← Zaq,Zcm]
 refine (Any.Builder_WriteString_k (ρ:=Tryz.lays105_ren) { Tryz.lays105 with } Tryz.Builder_Extra_105 B b (Lib.byteCells l) ⟨s.toArray⟩ w h (by rw [Lib.byteCells_length,hs]; exact hlen) hBw).mono ?_
 rintro e w' ⟨rfl,h1,h2,h3⟩
 refine ⟨by rw [hs],Or.inr ?_,h2,h3⟩
 rw [Lib.strCells_toArray] at h1
 rw [show Lib.byteCells (l ++ s)=Lib.byteCells l ++ Lib.byteCells s by simp [Lib.byteCells]]
 exact h1
theorem Zlz (c:Nat) (w:World) (hc:c≤19) :
 Calls Tryz.prog 150 #[.string ⟨#[48]⟩, .int .i64 (c:Int)] w fun e w'=>e=.returned (.string ⟨(List.replicate c (48:UInt8)).toArray⟩)∧Ext w w':=by
 rcases Nat.lt_or_ge c 2 with h | h
 ·have:c=0∨c=1:=by omega
  rcases this with rfl | rfl
  ·refine (Tryz.strings_Repeat_zero _ w).mono ?_
   rintro e w' ⟨rfl,rfl⟩
   exact ⟨rfl,Fr.refl _ _⟩
  ·refine (Tryz.strings_Repeat_one _ w).mono ?_
   rintro e w' ⟨rfl,rfl⟩
   exact ⟨rfl,Fr.refl _ _⟩
 ·have hs:(⟨#[48]⟩:ByteArray).size=1:=rfl
  refine (Tryz.strings_Repeat_main ⟨#[48]⟩ c w h (by omega) (by rw [hs]; omega) (by rw [hs]; decide)).mono ?_
  rintro e w' ⟨rfl,hB⟩
  refine ⟨?_,Fr.ofBelow hB⟩
  have:∀ n,Lib.repeatL [(48:UInt8)] n=List.replicate n 48:=by
   intro n; induction n with
   | zero=>rfl
   | succ n ih=>simp [Lib.repeatL,List.replicate_succ] at ih ⊢; first | exact ih | (rw [ih])
  rw [show (⟨#[48]⟩:ByteArray).data.toList=[48] from rfl,this]
/-! ### what stays -/
theorem ZlA {B b:Nat} {T e:TypeId} {bs:List Value} {W W':World} {row:Option Nat} (h:Lib.IsBuilderF T e B b bs W) (hg:W.grownBy W' row) (hr:∀ r,row=some r→∃ o:Obj,W.heap[r]? = some o∧o.isCells=false):Lib.IsBuilderF T e B b bs W':=by
 have key:∀ p,Lib.BuilderAtF T e B b p bs W→Lib.BuilderAtF T e B b p bs W':=by
  rintro p ⟨h1,v,h2,⟨h3,h4⟩,h5⟩
  refine ⟨h1,v,(grownBy_keeps_cells hg hr h2 rfl).trans h2,⟨h3,?_⟩,h5⟩
  rcases h4 with h4 | ⟨g,cap,cur,fz,k1,k2,k3,k4⟩
  ·exact Or.inl h4
  ·exact Or.inr ⟨g,cap,cur,fz,k1,k2,(grownBy_keeps_cells hg hr k3 rfl).trans k3,k4⟩
 exact h.elim (fun x=>Or.inl (key _ x)) (fun x=>Or.inr (key _ x))
theorem Zmg {B b:Nat} {T e:TypeId} {bs:List Value} {W W':World} (h:Lib.IsBuilderF T e B b bs W) (hf:Ext W W'):Lib.IsBuilderF T e B b bs W':=by
 have hb:∀ (k:Nat) (o:Obj),W.heap[k]? = some o→W'.heap[k]? = some o:=fun k o hk=>by rw [hf.block k (Array.getElem?_eq_some_iff.1 hk).1 (fun f=>f)]; exact hk
 have key:∀ p,Lib.BuilderAtF T e B b p bs W→Lib.BuilderAtF T e B b p bs W':=by
  rintro p ⟨h1,v,h2,⟨h3,h4⟩,h5⟩
  refine ⟨h1,v,hb _ _ h2,⟨h3,?_⟩,h5⟩
  rcases h4 with h4 | ⟨g,cap,cur,fz,k1,k2,k3,k4⟩
  ·exact Or.inl h4
  ·exact Or.inr ⟨g,cap,cur,fz,k1,k2,hb _ _ k3,k4⟩
 exact h.elim (fun x=>Or.inl (key _ x)) (fun x=>Or.inr (key _ x))
theorem Zkx {B b:Nat} {T e:TypeId} {bs:List Value} {W:World} (h:Lib.IsBuilderF T e B b bs W):∃ c t fz,W.heap[b]? = some (.cells c t fz):=by
 rcases h with ⟨_,v,h2,_⟩ | ⟨_,v,h2,_⟩<;>exact ⟨_,_,_,h2⟩
theorem Zia {B n:Nat} {w W W':World} {row:Option Nat} (h:Below B w W) (hB:B≤w.heap.size) (hg:W.grownBy W' row) (hr:∀ r,row=some r→n≤r) (hn:B≤n):Below B w W':=by
 refine ⟨hg.os.trans h.os,hg.tape.trans h.tape,hg.output.trans h.output,Nat.le_trans h.size hg.size,fun k hk=>?_⟩
 rw [hg.block k (by have:=h.size; omega) (fun e=>by have:=hr k e.symm; omega)]
 exact h.block k hk
theorem ZrM {e:TypeId} {b:Nat} {w w':World} (h:Lib.OthersKept e (some b) w w') (hs:w.heap.size≤w'.heap.size) (hb:∃ c t fz,w.heap[b]? = some (.cells c t fz)):KeepsOthers w w':=by
 refine ⟨hs,fun k o hk ho=>h k o hk ?_ ?_⟩
 ·intro e
  injection e with e
  obtain ⟨c,t,fz,hc⟩:=hb
  rw [e,hc] at hk
  injection hk with hk
  rw [← hk] at ho
  cases ho
 ·rintro c fz rfl
  cases ho
theorem Fr.others {w w':World} (h:Ext w w'):KeepsOthers w w':=⟨h.size,fun k o hk _=>by rw [h.block k (Array.getElem?_eq_some_iff.1 hk).1 (fun f=>f)]; exact hk⟩
theorem Zfu {e:TypeId} {b k:Nat} {o:Obj} {w w':World} (h:Lib.OthersKept e (some b) w w') (hk:w.heap[k]? = some o) (hb:k≠b) (ho:∀ c fz,o≠.cells c e fz):w'.heap[k]? = some o :=
 h k o hk (fun e=>by injection e with e; exact hb e) ho
structure DcJ (w:World) (q g c2:Nat) (cs:List Nat) (t:List UInt8) (W:World):Prop where
 below:Below w.heap.size w W
 size:q + 2≤W.heap.size
 bd:Lib.IsBuilderF 193 5 w.heap.size q (Lib.byteCells t) W
 box:Blk 106 W w.heap.size #[.slice (some ⟨g,0,none⟩) cs.length c2]
 bs:Blk 106 W (q + 1) #[.slice (some ⟨g,0,none⟩) cs.length c2]
 row:Own .u64 141 W g cs
section
variable {w W W':World} {q g c2 n:Nat} {cs:List Nat} {t s:List UInt8} {row:Option Nat}
theorem DcJ.kept (h:DcJ w q g c2 cs t W) (hg:W.grownBy W' row) (hr:∀ r,row=some r→n≤r∧∃ o:Obj,W.heap[r]? = some o∧o.isCells=false) (hn:w.heap.size≤n):DcJ w q g c2 cs t W':=by
 obtain ⟨tail,ht,hh⟩:=h.row
 exact ⟨Zia h.below (Nat.le_refl _) hg (fun r e=>(hr r e).1) hn,Nat.le_trans h.size hg.size,ZlA h.bd hg (fun r e=>(hr r e).2),(grownBy_keeps_cells hg (fun r e=>(hr r e).2) h.box rfl).trans h.box,(grownBy_keeps_cells hg (fun r e=>(hr r e).2) h.bs rfl).trans h.bs,tail,ht,(grownBy_keeps_cells hg (fun r e=>(hr r e).2) hh rfl).trans hh⟩
theorem DcJ.step (h:DcJ w q g c2 cs t W) (Q:Ext W W'):DcJ w q g c2 cs t W'∧KeepsOthers W W'∧KpS (q + 1) g W W':=by
 have hz:=h.size
 exact ⟨⟨((Fr.ofBelow h.below).trans Q).toBelow,Nat.le_trans hz Q.size,Zmg h.bd Q,h.box.ext Q,h.bs.ext Q,h.row.ext Q⟩,Fr.others Q,Q.block _ (by omega) (fun f=>f),Q.block _ h.row.lt (fun f=>f)⟩
theorem DcJ.write (h:DcJ w q g c2 cs t W) (hq:w.heap.size < q) (hgq:g < q) (h1:Lib.IsBuilderF 193 5 w.heap.size q (Lib.byteCells (t ++ s)) W') (h2:Below w.heap.size W W') (h3:Lib.OthersKept 5 (some q) W W') :
 DcJ w q g c2 cs (t ++ s) W'∧KeepsOthers W W'∧KpS (q + 1) g W W':=by
 obtain ⟨tail,ht,hh⟩:=h.row
 have e1:W'.heap[w.heap.size]? = some _:=Zfu h3 h.box (by omega) (fun c fz e=>by injection e with _ e; cases e)
 have e2:W'.heap[q + 1]? = some _:=Zfu h3 h.bs (by omega) (fun c fz e=>by injection e with _ e; cases e)
 have e3:W'.heap[g]? = some _:=Zfu h3 hh (by omega) (fun c fz e=>by injection e with _ e; cases e)
 exact ⟨⟨h.below.trans h2,Nat.le_trans h.size h2.size,h1,e1,e2,tail,ht,e3⟩,ZrM h3 h2.size (Zkx h.bd),e2.trans h.bs.symm,e3.trans hh.symm⟩
end
end Go.Proofs.YtenchljfmfgeoaaGreatDoor

namespace Go.Proofs.YtenchljfmfgeoaaGreatDoor
open Go.RowKit
theorem ZhU {P:Program} {ops:Array Oper} {o:Oper} {a:Act} {w:World} {K:Act→World→Prop} {Q:Exit→Act→World→Prop} {E:Prop}
 (hg:o.guard=none) (s x:Operand) (t:TypeId) (ho:o.op=Op.call { callee:=Callee.builtin Builtin.append,args:=#[s,x],argTypes:=#[t,t] })
 (e:TypeId) (k:IntKind) (bytes:Nat) (ht:P.underlying t=some (.slice e)) (hinfo:(P.info? e).map (fun i=>(i.zero,i.size,i.bytes))=some (some (.int k 0),1,bytes))
 (A X:Option Addr) (n m cap c:Nat) (hs:a.eval s=.slice A n cap) (hx:a.eval x=.slice X m c) (xs news:List Nat) (hn:xs.length=n) (hm:news.length=m) (hB:Buf k e w A cap xs) (hX:Zae k w X news) (h63:n + m≤maxLen) (hbytes:(n + m) * bytes≤140737488355328)
 (hK:∀ A' cap' w',Buf k e w' A' cap' (xs ++ news)→Fr (ZaC A) w w'→(∀ b,ZaC A' b→ZaC A b∨b=w.heap.size)→K (a.put o.dst (.slice A' (n + m) cap')) w') :
 if Region.wanted o (yielded ops a.tmps)=true then Oper.wp P o a w K Q else E:=by
 have hw:Region.wanted o (yielded ops a.tmps)=true:=by simp [Region.wanted,hg]
 rw [if_pos hw]
 obtain ⟨A',cap',w',hrun,h2,h3,h4⟩:=Ze1 (P:=P) w t o.type e k bytes ht hinfo A X n m cap c xs news hn hm hB hX h63 hbytes
 unfold Oper.wp execOp
 simp only [ho,resolve,invoke,builtin,Sem.run_bind,Sem.run_pure,Result.andThen_ok,List.map_toArray,List.map_cons,List.map_nil,hs,hx,hrun]
 exact hK _ _ _ h2 h3 h4
theorem ChR.bound {n r:Nat} {cs:List Nat} (h:ChR n cs r) (hr:0 < r):cs.length < blen n:=by
 refine ZcQ.2 ?_
 have h1:2 ^ cs.length≤(10 ^ 19) ^ cs.length:=Nat.pow_le_pow_left (by decide) _
 have h2:(10 ^ 19) ^ cs.length * 1≤(10 ^ 19) ^ cs.length * r:=Nat.mul_le_mul_left _ hr
 have:=h.eq
 omega
structure DcI (w wr:World) (b bx n:Nat) (rs cs:List Nat) (A:Option Addr) (c:Nat):Prop where
 ext:Ext w wr
 own:Own .u64 141 wr b rs
 dig:Dig W64 rs
 trim:Trim rs
 ch:ChR n cs (val W64 rs)
 box:Blk 106 wr bx #[.slice A cs.length c]
 buf:Buf .u64 141 wr A c cs
 news:∀ i,ZaC A i→w.heap.size≤i∧i≠b∧i≠bx
set_option maxHeartbeats 1000000 in
theorem ZlB (A:Option Addr) (l c:Nat) (w:World) (hN:Zad w (.slice A l c) 0):Calls Tryz.prog 102 #[.slice A l c] w (Ze9 w (Lib.decDigits 0)):=by
 have hl:l=0:=hN.len0
 subst hl
 go_enter Tryz.func102,Tryz.ntmps102
 go_wp2
 go_ret
 exact ⟨by rw [Lib.decDigits_one (by decide)]; rfl,Fr.refl _ _⟩
attribute [local go_sem] Oper.semAt_some
set_option maxHeartbeats 8000000 in
theorem Zmh (A:Option Addr) (xs:List Nat) (c n:Nat) (w:World) (hg:Glob w) (hn:0 < n) (hX:Zae .u64 w A xs) (hd:Dig W64 xs) (ht:Trim xs) (hv:val W64 xs=n) (hl:xs.length≤1000000) (h0:0 < xs.length) :
 Calls Tryz.prog 102 #[.slice A xs.length c] w (Ze9 w (Lib.decDigits n)):=by
 have hbn:blen n≤64000000:=by
  have h1:=ZcS n
  have h2:=ZaE hd ht
  rw [hv] at h2
  omega
 have HG:=zh hg
 have HX:=zh hX
 have Hd:=zh hd
 have Ht:=zh ht
 have Hv:=zh hv
 clear hg hX hd ht hv
 refine (callsIn_wide (n:=3)).1 ?_
 refine callsIn_of_wp_marks Tryz.func102 rfl trivial ?_ rfl
 simp only [Tryz.ntmps102,List.size_toArray,List.length_cons,List.length_nil,Nat.reduceAdd,Nat.reduceSub,Array.replicate_succ,Array.replicate_zero,List.push_toArray,List.append_toArray,List.nil_append,List.cons_append]
 refine wpIn_wide.2 ?_
 go_wp2_with fail
 refine (Zi2 A xs c _ (HX.out.ext ((Fr.refl _ _).alloc _)) (by omega) h0).mono ?_
 rintro e w1 ⟨b,cap,rfl,hb,hcap,hE1,hO⟩
 have HE1:=zh hE1
 have HO:=zh hO
 have hb':w.heap.size < b:=by simp at hb; omega
 have hI:Hid (DcI w w1 b w.heap.size n xs [] none 0):=⟨((Fr.refl _ _).alloc _).trans HE1.out,HO.out,Hd.out,Ht.out,by rw [Hv.out]; exact ChR.start n,(Blk.new _ _ _).ext HE1.out,Buf.nil,fun i hi=>by obtain ⟨a,ha,_⟩:=hi; cases ha⟩
 clear hE1 hO hb
 go_wp2
 go_loopw [4] (fun v4 wr=>∃ (rs cs:List Nat) (A2:Option Addr) (c2:Nat),v4=.slice (some ⟨b,0,none⟩) rs.length cap∧rs.length≤cap∧rs.length≤1000000∧Hid (DcI w wr b w.heap.size n rs cs A2 c2))
  (fun _ wr=>match wr.cell? ⟨w.heap.size,0,none⟩ with | some (.slice _ m _)=>64000001 - m | _=>0)
 case atStart=>exact ⟨xs,[],none,0,rfl,hcap,hl,hI⟩
 case round =>
  obtain ⟨rs,cs,A2,c2,rfl,hrc,hrl,hI⟩:=hrel
  by_cases hpos:0 < rs.length
  ·have hvp:0 < val W64 rs:=ZdU hI.out.trim Zah (fun e=>by rw [e] at hpos; simp at hpos)
   have hcl:cs.length < 64000000:=by have:=hI.out.ch.bound hvp; omega
   have hbox:wr.cell? ⟨w.heap.size,0,none⟩=some (.slice A2 cs.length c2):=hI.out.box.cell 0
   have hfz:=hI.out.box.frozen 0
   obtain ⟨r,hr⟩:∃ r,val W64 rs % 10000000000000000000=r:=⟨_,rfl⟩
   have Hr:=zh hr
   have Hvp:=zh hvp
   clear hr hvp
   go_wp2_with fail
   first | (go_region_law (first
    | (refine ZhU rfl (.tmp 19) (.tmp 22) 106 rfl 141 .u64 8 Tryz.underlying106 Zc3 A2 (some ⟨w2.heap.size,0,none⟩) cs.length 1 c2 1 rfl rfl cs [r] rfl rfl HBuf.out HSh.out (by simp only [maxLen]; omega) (by omega) ?_
       intro A3 c3 w3 hB3 hF3 hA3
       have hB4:=HBox.out.fr hF3 (fun h=>(hI.out.news _ h).2.2 rfl)
       have HB4:=zh hB4
       have hc4:=hB4.cell 0
       have hf4:=hB4.frozen 0
       have HB3:=zh hB3
       have HF3:=zh hF3
       have HA3:=zh hA3
       clear hB4 hB3 hF3 hA3)
    | (go_simp
       go_at_call 146
       refine (Zfn b cap rs 10000000000000000000 _ hI.out.own.drew (by omega) hI.out.dig (by decide) (by rw [Zan]; decide)).mono ?_
       rintro e w2 ⟨qs,rfl,hq,hF2,hO2⟩
       rw [Hr.out]
       have hbx2:=hI.out.box.fr (Fr.undrew hF2) (fun e=>by omega)
       have hc2:=hbx2.cell 0
       have hc2b:=(hbx2.alloc (.cells #[.int .u64 (r:Int)] 141)).cell 0
       have HBox:=zh (hbx2.alloc (.cells #[.int .u64 (r:Int)] 141))
       have HBuf:=zh ((hI.out.buf.fr (Fr.undrew hF2) (fun i hi e=>(hI.out.news i hi).2.1 e)).ext ((Fr.refl _ w2).alloc (.cells #[.int .u64 (r:Int)] 141)))
       have HSh:Hid (Zae .u64 (w2.alloc (.cells #[.int .u64 (r:Int)] 141)) (some ⟨w2.heap.size,0,none⟩) [r]):=(Own.new w2 141 .u64 [r] []).shows0
       have HO2:=zh hO2
       have HF2:=zh hF2
       have Hq:=zh hq
       clear hbx2 hO2 hF2 hq))) | skip
   all_goals
    have hO4:=((HO2.out.alloc (.cells #[.int .u64 (r:Int)] 141)).fr HF3.out (fun h=>(hI.out.news _ h).2.1 rfl)).far (p:=⟨w.heap.size,0,none⟩) (by show b≠w.heap.size; omega) (.slice A3 (cs.length + 1) c3)
    have hE4:Ext w (w3.setCell ⟨w.heap.size,0,none⟩ (.slice A3 (cs.length + 1) c3)) :=
     (((hI.out.ext.next (Fr.undrew HF2.out) (fun i hi e=>by omega)).alloc (.cells #[.int .u64 (r:Int)] 141)).next HF3.out (fun i hi h=>by have:=(hI.out.news i h).1; omega)).setCell (p:=⟨w.heap.size,0,none⟩) (Or.inr (Nat.le_refl _)) _
    have hA4:∀ i,ZaC A3 i→w.heap.size≤i∧i≠b∧i≠w.heap.size:=fun i hi=>by
     rcases HA3.out i hi with h | h
     ·exact hI.out.news i h
     ·have h1:=hI.out.ext.size
      have h2:wr.heap.size≤w2.heap.size:=HF2.out.size
      have h3:=hI.out.own.lt
      have h4:=HO2.out.lt
      have h5:=hI.out.box.lt
      rw [World.size_alloc] at h
      omega
    have hbuf4:=HB3.out.fr (S:=fun i=>i=w.heap.size) ((show Fr (fun i=>i=w.heap.size) w3 w3 from Fr.refl _ _).setCell (p:=⟨w.heap.size,0,none⟩) (Or.inl rfl) (.slice A3 (cs.length + 1) c3)) (fun i hi e=>(hA4 i hi).2.2 e)
    have hbx4:Blk 106 (w3.setCell ⟨w.heap.size,0,none⟩ (.slice A3 (cs.length + 1) c3)) w.heap.size #[.slice A3 (cs.length + 1) c3]:=HB4.out.set_ 0 _
    have HO4:=zh hO4
    have HE4:=zh hE4
    have HA4:=zh hA4
    have HBuf4:=zh hbuf4
    have HBx4:=zh hbx4
    have Hbox:=zh hbox
    have hql:rs.length=qs.length:=Hq.out.1.symm
    clear hO4 hE4 hA4 hbuf4 hbx4 hbox hfz
    go_wp2_with fail
    refine (Zhg _ qs cap _ HO4.out.shows0 (by omega) (by omega)).mono ?_
    rintro e w5 ⟨rfl,hE5⟩
    have hbx5:=HBx4.out.ext hE5
    have hbc5:=hbx5.cell 0
    have Hbc5:=zh hbc5
    have hcn:=hI.out.ch.step Hvp.out
    rw [show (10:Nat) ^ 19=10000000000000000000 from rfl,Hr.out] at hcn
    have hI5:Hid (DcI w w5 b w.heap.size n (Zba qs) (cs ++ [r]) A3 c3) :=
     ⟨HE4.out.trans hE5,(HO4.out.take _).ext hE5,ZcF Hq.out.2.1,Zck qs,by rw [Zbi,Hq.out.2.2]; exact hcn,by rw [List.length_append,List.length_singleton]; exact hbx5,HBuf4.out.ext hE5,HA4.out⟩
    have Htl:=zh (Zbr qs)
    have Hle:=zh (Zdr qs qs.length)
    clear hE5 hbx5 hbc5 hcn
    go_wp2
    go_roundw
    case rel=>exact ⟨Zba qs,cs ++ [r],A3,c3,by rw [Htl.out],by have:=Hle.out; rw [Htl.out]; omega,by have:=Hle.out; rw [Htl.out]; omega,hI5⟩
    case measure=>rw [Hbc5.out,Hbox.out]; simp only [List.getElem?_toArray]; first | omega | (simp; omega)
  ·obtain rfl:rs=[]:=List.eq_nil_of_length_eq_zero (by omega)
   have hch:=hI.out.ch
   rw [Zdq] at hch
   have hne:cs≠[]:=fun e=>by have:=hch.eq; rw [e] at this; simp [chV] at this; omega
   have hcp:=List.length_pos_iff.2 hne
   have hcl:cs.length≤64000000:=by
    have h1:2 ^ (cs.length - 1)≤n:=by
     have h:=hch.eq
     obtain ⟨l,c0,rfl,hc0⟩:=hch.top rfl hne
     rw [ZgD] at h
     have h2:(10 ^ 19) ^ l.length * 1≤(10 ^ 19) ^ l.length * c0:=Nat.mul_le_mul_left _ hc0
     have h3:2 ^ l.length≤(10 ^ 19) ^ l.length:=Nat.pow_le_pow_left (by decide) _
     rw [List.length_append,List.length_singleton,Nat.add_sub_cancel]
     omega
    have:=ZcQ.2 h1
    omega
   have HText:=zh (Zpc hch hn)
   have HLt:=zh hch.lt
   obtain ⟨g,rfl,hOg,hCg,_,_⟩:=hI.out.buf.open_ hne
   have HOg:=zh hOg
   have hbx:=hI.out.box
   have hgn:=hI.out.news g ⟨_,rfl,rfl⟩
   have HBx:=zh hbx
   have HE:=zh hI.out.ext
   have hcb:=hbx.cell 0
   have hlt0':w.heap.size < wr.heap.size:=hbx.lt
   have hglt:=hOg.lt
   clear hch hOg hCg hbx hI
   go_wp2_with fail
   refine (Zlx (some ⟨g,0,none⟩) cs.length c2 _).mono ?_
   rintro e wS ⟨rfl,rfl⟩
   go_wp2_with fail
   have hBp:Below w.heap.size w wr:=HE.out.toBelow
   have hbx2:Blk 106 ((wr.alloc (.cells #[.pointer none, .slice none 0 0] 193)).alloc (.cells #[.slice (some ⟨g,0,none⟩) cs.length c2] 106)) w.heap.size #[.slice (some ⟨g,0,none⟩) cs.length c2]:=(HBx.out.alloc _).alloc _
   have hbb:Blk 193 ((wr.alloc (.cells #[.pointer none, .slice none 0 0] 193)).alloc (.cells #[.slice (some ⟨g,0,none⟩) cs.length c2] 106)) wr.heap.size #[.pointer none, .slice none 0 0]:=(Blk.new wr _ _).alloc _
   have hbs:Blk 106 ((wr.alloc (.cells #[.pointer none, .slice none 0 0] 193)).alloc (.cells #[.slice (some ⟨g,0,none⟩) cs.length c2] 106)) (wr.heap.size + 1) #[.slice (some ⟨g,0,none⟩) cs.length c2]:=by
    have:=Blk.new (wr.alloc (.cells #[.pointer none, .slice none 0 0] 193)) 106 #[.slice (some ⟨g,0,none⟩) cs.length c2]
    rwa [World.size_alloc] at this
   have hog2:Own .u64 141 ((wr.alloc (.cells #[.pointer none, .slice none 0 0] 193)).alloc (.cells #[.slice (some ⟨g,0,none⟩) cs.length c2] 106)) g cs:=(HOg.out.alloc _).alloc _
   have hb2:Below w.heap.size w ((wr.alloc (.cells #[.pointer none, .slice none 0 0] 193)).alloc (.cells #[.slice (some ⟨g,0,none⟩) cs.length c2] 106)):=((HE.out.alloc _).alloc _).toBelow
   have hsz:((wr.alloc (.cells #[.pointer none, .slice none 0 0] 193)).alloc (.cells #[.slice (some ⟨g,0,none⟩) cs.length c2] 106)).heap.size=wr.heap.size + 2:=by rw [World.size_alloc,World.size_alloc]
   generalize ((wr.alloc (.cells #[.pointer none, .slice none 0 0] 193)).alloc (.cells #[.slice (some ⟨g,0,none⟩) cs.length c2] 106))=wS at *
   refine (wpIn_wide (n:=3)).1 ?_
   refine wpIn_rangeFunc_ownF (n:=3) rfl (by decide) (gf:=175) (lb:=#[.pointer (some ⟨wr.heap.size + 1,0,none⟩)]) rfl trivial (enters_of Tryz.func175 (by kernel_rfl) rfl)
    (Zjx 2 (wr.heap.size + 1) g c2 cs (by decide) (by omega) wS (by omega) (by omega) (hbs.cell 0) (fun j hj=>hog2.cell hj)) KpS.trans (fun W q o o' hq _ _ _=>⟨World.putObj_heap_other (by omega),World.putObj_heap_other (by omega)⟩) (Below.refl _ _) (fun _=>rfl)
    (fun pre W=>DcJ w wr.heap.size g c2 cs (Za7 cs pre) W) (fun _ _ _=>False)
    (fun pre A B row h hg hr=>h.kept hg hr (by omega)) (fun _ _ _ _ _ h _ _=>h)
    ⟨hb2,by omega,Or.inl ⟨by omega, .slice none 0 0,hbb,⟨rfl,Or.inl ⟨rfl,rfl⟩⟩,by simp [Value.ownBlock]⟩,hbx2,hbs,hog2⟩ ?a1 ?assign ?body ?done ?stop
   case assign =>
    intro l x W K hK
    gi_wp2
    exact hK
   case stop =>
    rintro D c pre W _ _ h _
    exact h.elim
   case body =>
    rintro l pre x W hJ hlen
    obtain ⟨u,hu⟩:∃ u,cs[x]?.getD 0=u:=⟨_,rfl⟩
    have hu19:u < 10 ^ 19:=by
     rw [← hu]
     rcases Nat.lt_or_ge x cs.length with hj | hj
     ·rw [List.getElem?_eq_getElem hj]; exact HLt.out _ (List.getElem_mem hj)
     ·rw [List.getElem?_eq_none hj]; decide
    rw [hu]
    have hdl:=ZmO hu19
    have hfu:=Zjw u W (HG.out.ext (Fr.ofBelow hJ.below)) (by rw [Zan]; exact Nat.lt_trans hu19 (by decide))
    have htl:=Zkc HLt.out pre
    have hsz1:=hJ.below.size
    have HU:=zh hu
    have HFU:=zh hfu
    have HJ:=zh hJ
    have hcx:=hJ.box.cell 0
    clear hu hu19 hfu hJ
    obtain ⟨D,hD⟩:∃ D,Lib.decDigits u=D:=⟨_,rfl⟩
    rw [hD] at hdl
    gi_wp2_with fail
    refine ⟨trivial,((callsIn_wide.2 HFU.out).inRound l).mono ?_⟩
    rintro e W1 ⟨rfl,hE1⟩
    rw [hD]
    have HD:=zh hD
    obtain ⟨hJ1,hK1,hS1⟩:=HJ.out.step hE1
    have hcx1:=hJ1.box.cell 0
    have HJ1:=zh hJ1
    have HK1:=zh hK1
    have HS1:=zh hS1
    clear hJ1 hK1 hS1 hE1 hD hcx
    by_cases hx:x + 1 < cs.length
    ·gi_wp2_with fail
     rw [show (19:Int) - (D.length:Int)=((19 - D.length:Nat):Int) by omega]
     refine ⟨trivial,((callsIn_wide.2 (Zlz (19 - D.length) W1 (by omega))).inRound l).mono ?_⟩
     rintro e W2 ⟨rfl,hE2⟩
     obtain ⟨hJ2,hK2,hS2⟩:=HJ1.out.step hE2
     have HJ2:=zh hJ2
     have HK2:=zh (HK1.out.trans hK2)
     have HS2:=zh (HS1.out.trans hS2)
     clear hJ2 hK2 hS2 hE2
     gi_wp2_with fail
     refine ⟨trivial,((callsIn_wide.2 (ZeB w.heap.size wr.heap.size (Za7 cs pre) (List.replicate (19 - D.length) 48) W2 HJ2.out.bd (by rw [List.length_replicate]; omega) HJ2.out.below.size)).inRound l).mono ?_⟩
     rintro e W3 ⟨rfl,h1,h2,h3⟩
     obtain ⟨hJ3,hK3,hS3⟩:=HJ2.out.write hlt0' hglt h1 h2 h3
     have HJ3:=zh hJ3
     have HK3:=zh (HK2.out.trans hK3)
     have HS3:=zh (HS2.out.trans hS3)
     clear hJ3 hK3 hS3 h1 h2 h3
     gi_wp2_with fail
     refine ⟨trivial,((callsIn_wide.2 (ZeB w.heap.size wr.heap.size (Za7 cs pre ++ List.replicate (19 - D.length) 48) D W3 HJ3.out.bd (by rw [List.length_append,List.length_replicate]; omega) HJ3.out.below.size)).inRound l).mono ?_⟩
     rintro e W4 ⟨rfl,h1,h2,h3⟩
     obtain ⟨hJ4,hK4,hS4⟩:=HJ3.out.write hlt0' hglt h1 h2 h3
     have HJ4:=zh hJ4
     have HK4:=zh (HK3.out.trans hK4)
     have HS4:=zh (HS3.out.trans hS4)
     clear hJ4 hK4 hS4 h1 h2 h3
     gi_wp2
     refine ⟨HK4.out,HS4.out,?_⟩
     show DcJ w wr.heap.size g c2 cs (Za7 cs (pre ++ [x])) W4
     rw [ZgE,Zft,if_pos hx,HU.out,HD.out,← List.append_assoc]
     exact HJ4.out
    ·gi_wp2_with fail
     refine ⟨trivial,((callsIn_wide.2 (ZeB w.heap.size wr.heap.size (Za7 cs pre) D W1 HJ1.out.bd (by omega) HJ1.out.below.size)).inRound l).mono ?_⟩
     rintro e W4 ⟨rfl,h1,h2,h3⟩
     obtain ⟨hJ4,hK4,hS4⟩:=HJ1.out.write hlt0' hglt h1 h2 h3
     have HJ4:=zh hJ4
     have HK4:=zh (HK1.out.trans hK4)
     have HS4:=zh (HS1.out.trans hS4)
     clear hJ4 hK4 hS4 h1 h2 h3
     gi_wp2
     refine ⟨HK4.out,HS4.out,?_⟩
     show DcJ w wr.heap.size g c2 cs (Za7 cs (pre ++ [x])) W4
     rw [ZgE,Zft,if_neg hx,HU.out,HD.out]
     exact HJ4.out
   case done =>
    rintro D ys W hD rfl hJ hK
    have hbd:=hJ.bd
    rw [HText.out] at hbd
    have hst:=Tryz.Builder_String_any_k w.heap.size wr.heap.size (Lib.decDigits n) W hbd hJ.below.size
    have hsz1:=hJ.below.size
    have HSt:=zh hst
    have HJ:=zh hJ
    clear hbd hst hJ
    go_wp2_with fail
    refine HSt.out.mono ?_
    rintro e W2 ⟨rfl,_,hB2,hO2⟩
    have hK2:W2.heap[D]? = some (.deferred (some [])):=Zfu hO2 hK (by omega) (fun c fz e=>by cases e)
    have hfin:=Zia (HJ.out.below.trans hB2) (Nat.le_refl _) (grownBy_putObj' W2 D (.deferred none)) (n:=wS.heap.size) (fun r e=>by cases e; exact hD) (by omega)
    have HFin:=zh hfin
    clear hfin hB2 hO2
    go_wp2
    refine ⟨by simp, .inl ⟨_,_,rfl,run_takeDeferred hK2,?_⟩⟩
    exact ⟨_,results_tmp rfl _ _ _,rfl,Fr.ofBelow HFin.out⟩
set_option maxHeartbeats 1000000 in
theorem Zd4 (A:Option Addr) (l c n:Nat) (w:World) (hg:Glob w) (hN:Zad w (.slice A l c) n) (hw:wl n≤1000000):Calls Tryz.prog 102 #[.slice A l c] w (Ze9 w (Lib.decDigits n)):=by
 rcases Nat.eq_zero_or_pos n with rfl | hn
 ·exact ZlB A l c w hN
 ·obtain ⟨A',xs,c',e,h1,h2,h3,h4,h5⟩:=hN
  injection e with e1 e2 e3
  subst e1 e2 e3
  rw [← h5,← ZaE h3 h4] at hw
  refine Zmh A xs c n w hg hn h2 h3 h4 h5 hw ?_
  rcases Nat.eq_zero_or_pos xs.length with h | h
  ·rw [List.eq_nil_of_length_eq_zero h] at h5; simp at h5; omega
  ·exact h
end Go.Proofs.YtenchljfmfgeoaaGreatDoor
