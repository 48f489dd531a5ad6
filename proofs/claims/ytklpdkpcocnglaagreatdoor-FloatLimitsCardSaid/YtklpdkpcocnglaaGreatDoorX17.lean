/-
 My texts Fb, Fdm, Fdc, Nx, Ny, FlE, FllL put together.
-/
import Derived.RangeFuncKeeps
import Derived.RangeFuncBox
import Derived.RangeFuncLeaves
import Derived.RangeFuncCalls
import Derived.OwnWalkIn
import Derived.TacticsInMore
import Derived.LoopNIn
import Derived.LoopIn
import Derived.Test.YtklpdkpcocnglaaGreatDoorX16
import Derived.Test.YtklpdkpcocnglaaGreatDoorX14
import Derived.RangeFuncFrom
import Derived.Shelf.Strings.BuilderK
import Derived.Shelf.Strings.Repeat
import Derived.Deep.RegionLaw
import Derived.Test.YtklpdkpcocnglaaGreatDoorX15
import Derived.Laws.StructEq
set_option maxRecDepth 100000
namespace Go.Proofs.YtklpdkpcocnglaaGreatDoor
open Go.RowKit
def Zdb (n k:Nat):List Nat:=(List.range k).map fun j=>n - 1 - j
theorem Zfy (n k:Nat):Zdb n (k + 1)=Zdb n k ++ [n - 1 - k]:=by simp [Zdb,List.range_succ]
theorem Zju (n k:Nat):(Zdb n k).length=k:=by simp [Zdb]
def KpS (Bs b:Nat) (A B:World):Prop:=B.heap[Bs]? = A.heap[Bs]? ∧ B.heap[b]? = A.heap[b]?
theorem KpS.refl (Bs b:Nat) (A:World):KpS Bs b A A:=⟨rfl,rfl⟩
theorem KpS.trans {Bs b:Nat} {A B C:World} (h:KpS Bs b A B) (k:KpS Bs b B C):KpS Bs b A C:=⟨k.1.trans h.1,k.2.trans h.2⟩
theorem KpS.cell1 {Bs b:Nat} {A B:World} (h:KpS Bs b A B) (j:Nat):B.cell? ⟨Bs,j,none⟩=A.cell? ⟨Bs,j,none⟩:=World.cell?_of_block h.1
theorem KpS.cell2 {Bs b:Nat} {A B:World} (h:KpS Bs b A B) (j:Nat):B.cell? ⟨b,j,none⟩=A.cell? ⟨b,j,none⟩:=World.cell?_of_block h.2
attribute [local go_sem] Oper.semAt_some
set_option maxHeartbeats 2000000 in
theorem Zj6 (n l Bs b cap:Nat) (xs:List Nat) (hn:1≤n) (hlen:xs.length≤4294967296) (J Jx:List Nat→World→Prop)
 (hY:∀ pre x W,J pre W→pre.length < xs.length→YieldAt Fence.wide (n - 1) Tryz.prog l #[.int .i64 ((x:Nat):Int), .int .u64 ((xs[x]?.getD 0:Nat):Int)] W fun e W' =>
  (e=.returned (.bool true)∧J (pre ++ [x]) W'∧KpS Bs b W W')∨(e=.returned (.bool false)∧Jx (pre ++ [x]) W'))
 (W:World) (hBs:W.cell? ⟨Bs,0,none⟩=some (.slice (some ⟨b,0,none⟩) xs.length cap)) (hc:∀ j,j < xs.length→W.cell? ⟨b,j,none⟩=some (.int .u64 ((xs[j]?.getD 0:Nat):Int))) (h0:J [] W) :
 CallsIn Fence.wide n Tryz.prog 150 #[.func (.yield l) #[] #[], .pointer (some ⟨Bs,0,none⟩)] W fun e W'=>(∃ v,e=.returned v) ∧
  ((∃ ys,ys=Zdb xs.length xs.length∧J ys W')∨(∃ pre,(∃ k,k≤xs.length∧pre=Zdb xs.length k)∧Jx pre W')):=by
 refine callsIn_of_wp Tryz.func150 rfl trivial ?_ rfl
 simp only [Tryz.ntmps150,List.size_toArray,List.length_cons,List.length_nil,Nat.reduceAdd,Nat.reduceSub,Array.replicate_succ,Array.replicate_zero,List.push_toArray,List.append_toArray,List.nil_append,List.cons_append]
 gi_wp2
 gi_loopw [3] (fun i wr=>∃ k:Nat,k≤xs.length∧i=.int .i64 ((xs.length:Int) - 1 - k)∧J (Zdb xs.length k) wr∧KpS Bs b W wr)
  (fun i _=>(intOf i + 1).toNat)
 case atStart=>exact ⟨0,Nat.zero_le _,by simp,h0,KpS.refl _ _ _⟩
 case round =>
  obtain ⟨k,hk,rfl,hJs,hnx⟩:=hrel
  have hbs:=(hnx.cell1 0).trans hBs
  by_cases hlt:k < xs.length
  ·have hcx:wr.cell? ⟨b,xs.length - 1 - k,none⟩=some (.int .u64 ((xs[xs.length - 1 - k]?.getD 0:Nat):Int)):=(hnx.cell2 _).trans (hc _ (by omega))
   obtain ⟨fn,tmps,assign,body,hy,hR⟩:=hY _ (xs.length - 1 - k) wr hJs (by rw [Zju]; exact hlt)
   obtain ⟨j,hj⟩:∃ j:Nat,xs.length - 1 - k=j:=⟨_,rfl⟩
   rw [hj] at hcx hy hR
   have ej:(xs.length:Int) - 1 - (k:Int)=(j:Int):=by omega
   rw [ej]
   have hjl:j < xs.length:=by omega
   obtain ⟨xj,hxj⟩:∃ v,xs[j]?.getD 0=v:=⟨_,rfl⟩
   rw [hxj] at hcx hy
   clear hxj
   have HJ:=zh hj
   clear hj ej
   gi_wp2
   refine hR.mono ?_
   rintro e W3 (⟨rfl,hJ3,hk3⟩ | ⟨rfl,hJx3⟩)
   ·gi_wp2
    go_roundw
    case rel=>exact ⟨k + 1,by omega,by have:=HJ.out; simp<;>omega,by rw [Zfy,HJ.out]; exact hJ3,hnx.trans hk3⟩
    case measure=>simp [intOf]<;>omega
   ·gi_wp2
    refine bodyPost_ret (results_none rfl _ _ _) rfl ?_
    exact ⟨⟨_,rfl⟩, .inr ⟨_,⟨k + 1,by omega,by rw [Zfy,HJ.out]⟩,hJx3⟩⟩
  ·obtain rfl:k=xs.length:=by omega
   gi_wp2
   go_end0
   exact ⟨⟨_,rfl⟩, .inl ⟨_,rfl,hJs⟩⟩
theorem ZhY (n Bs b cap:Nat) (xs:List Nat) (hn:1≤n) (hlen:xs.length≤4294967296) (w:World) (h1:Bs < w.heap.size) (h2:b < w.heap.size)
 (hBs:w.cell? ⟨Bs,0,none⟩=some (.slice (some ⟨b,0,none⟩) xs.length cap)) (hc:∀ j,j < xs.length→w.cell? ⟨b,j,none⟩=some (.int .u64 ((xs[j]?.getD 0:Nat):Int))) :
 SeqStopsK Fence.wide n Tryz.prog 150 #[.pointer (some ⟨Bs,0,none⟩)] (fun x:Nat=>#[Value.int .i64 (x:Int),Value.int .u64 ((xs[x]?.getD 0:Nat):Int)]) (KpS Bs b)
  (fun ys=>ys=Zdb xs.length xs.length) (fun pre=>∃ k,k≤xs.length∧pre=Zdb xs.length k) xs.length w:=fun l J Jx W hW _ _ hY h0 =>
 Zj6 n l Bs b cap xs hn hlen J Jx hY W ((hW.cell (p:=⟨Bs,0,none⟩) h1).trans hBs) (fun j hj=>(hW.cell (p:=⟨b,j,none⟩) h2).trans (hc j hj)) h0
set_option maxHeartbeats 1000000 in
theorem Zjv (a:Option Addr) (len cap:Nat) (w:World) :
 Calls Tryz.prog 109 #[.slice a len cap] w fun e w'=>e=.returned (.func (.func 150) #[] #[.pointer (some ⟨w.heap.size,0,none⟩)])∧w'=w.alloc (.cells #[.slice a len cap] 76):=by
 go_enter Tryz.func109,Tryz.ntmps109
 go_wp2
 go_ret
 exact ⟨rfl,rfl⟩
end Go.Proofs.YtklpdkpcocnglaaGreatDoor

namespace Go.Proofs.YtklpdkpcocnglaaGreatDoor
open Go.RowKit
def ZeM (cs:List Nat) (j:Nat):List UInt8:=if j + 1 < cs.length then List.replicate (19 - (Lib.decDigits (cs[j]?.getD 0)).length) 48 ++ Lib.decDigits (cs[j]?.getD 0) else Lib.decDigits (cs[j]?.getD 0)
def Za0 (cs:List Nat) (l:List Nat):List UInt8:=l.flatMap (ZeM cs)
theorem ZfA (cs l:List Nat) (j:Nat):Za0 cs (l ++ [j])=Za0 cs l ++ ZeM cs j:=by simp [Za0]
theorem ZgM {cs:List Nat} (hlt:∀ c ∈ cs,c < 10 ^ 19) (ht:∃ l c,cs=l ++ [c]∧0 < c):∀ k,k≤cs.length→Za0 cs (Zdb cs.length k)=Zbw (chV (cs.drop (cs.length - k)))
 | 0,_=>by rw [Nat.sub_zero,List.drop_of_length_le (Nat.le_refl _)]; rfl
 | k + 1,hk=>by
   have ih:=ZgM hlt ht k (by omega)
   rw [Zfy,ZfA,ih]
   have h:=Zng (cs:=cs) (i:=cs.length - (k + 1)) (by omega) rfl hlt ht
   rw [show cs.length - 1 - k=cs.length - (k + 1) by omega,h]
   unfold ZeM
   by_cases h0:cs.length - (k + 1) + 1 < cs.length
   ·rw [if_pos h0,if_pos h0,show cs.length - (k + 1) + 1=cs.length - k by omega]
   ·have:k=0:=by omega
    subst this
    rw [if_neg h0,if_neg h0,Nat.sub_zero,List.drop_of_length_le (Nat.le_refl _)]
    rfl
theorem Zmv {cs:List Nat} {n:Nat} (h:ChR n cs 0) (hn:0 < n):Za0 cs (Zdb cs.length cs.length)=Lib.decDigits n:=by
 have hne:cs≠[]:=fun e=>by have:=h.eq; rw [e] at this; simp [chV] at this; omega
 rw [ZgM h.lt (h.top rfl hne) _ (Nat.le_refl _),Nat.sub_self,List.drop_zero]
 have:=h.eq
 rw [Nat.mul_zero,Nat.add_zero] at this
 rw [← this,ZcE hn]
theorem ZeR:∀ (k u:Nat),u < 10 ^ (k + 1)→Lib.nDigits u≤k + 1
 | 0,u,h=>by rw [Lib.nDigits_small (by simpa using h)]; exact Nat.le_refl _
 | k + 1,u,h=>by
   by_cases h1:u < 10
   ·rw [Lib.nDigits_small h1]; omega
   ·rw [Lib.nDigits_big h1]
    have:=ZeR k (u / 10) (by rw [Nat.pow_succ] at h; omega)
    omega
theorem Zkx {c:Nat} (h:c < 10 ^ 19):(Lib.decDigits c).length≤19:=by
 rw [Lib.decDigits_length]
 exact ZeR 18 c h
theorem Zmw {cs:List Nat} (h:∀ c ∈ cs,c < 10 ^ 19) (j:Nat):(ZeM cs j).length≤19:=by
 have hc:cs[j]?.getD 0 < 10 ^ 19:=by
  rcases Nat.lt_or_ge j cs.length with hj | hj
  ·rw [List.getElem?_eq_getElem hj]; exact h _ (List.getElem_mem hj)
  ·rw [List.getElem?_eq_none hj]; decide
 have:=Zkx hc
 unfold ZeM
 split
 ·rw [List.length_append,List.length_replicate]; omega
 ·exact this
theorem Zis {cs:List Nat} (h:∀ c ∈ cs,c < 10 ^ 19):∀ l,(Za0 cs l).length≤19 * l.length
 | []=>by simp [Za0]
 | j :: l=>by
   have h1:=Zis h l
   have h2:=Zmw h j
   have e:Za0 cs (j :: l)=ZeM cs j ++ Za0 cs l:=by simp [Za0]
   rw [e,List.length_append,List.length_cons]
   omega
/-! ### the builder -/
theorem Zd1 (B b:Nat) (l:List UInt8) (s:List UInt8) (w:World) (h:Lib.IsBuilderF 145 5 B b (Lib.byteCells l) w) (hlen:l.length + s.length≤140737488355328) (hBw:B≤w.heap.size) :
 Calls Tryz.prog 111 #[.pointer (some ⟨b,0,none⟩), .string ⟨s.toArray⟩] w fun e w'=>e=.returned (.tuple #[.int .i64 (s.length:Int), .nilIface])∧(Lib.IsBuilderF 145 5 B b (Lib.byteCells (l ++ s)) w'∧Below B w w'∧Lib.OthersKept 5 (some b) w w'):=by
 have hs:(⟨s.toArray⟩:ByteArray).size=s.length:=by rw [← Zan,ZcU]
 refine (Any.Builder_WriteString_k (ρ:=Tryz.lays105_ren) { Tryz.lays105 with } Tryz.Builder_Extra_105 B b (Lib.byteCells l) ⟨s.toArray⟩ w h (by rw [Lib.byteCells_length,hs]; exact hlen) hBw).mono ?_
 rintro e w' ⟨rfl,h1,h2,h3⟩
 refine ⟨by rw [hs],Or.inr ?_,h2,h3⟩
 rw [Lib.strCells_toArray] at h1
 rw [show Lib.byteCells (l ++ s)=Lib.byteCells l ++ Lib.byteCells s by simp [Lib.byteCells]]
 exact h1
theorem Zjx (c:Nat) (w:World) (hc:c≤19) :
 Calls Tryz.prog 112 #[.string ⟨#[48]⟩, .int .i64 (c:Int)] w fun e w'=>e=.returned (.string ⟨(List.replicate c (48:UInt8)).toArray⟩)∧Ext w w':=by
 rcases Nat.lt_or_ge c 2 with h | h
 ·have:c=0∨c=1:=by omega
  rcases this with rfl | rfl
  ·refine (Tryz.strings_Repeat_zero _ w).mono ?_
   rintro e w' ⟨rfl,rfl⟩
   exact ⟨rfl,Fr.refl _ _⟩
  ·refine (Tryz.strings_Repeat_one _ w).mono ?_
   rintro e w' ⟨rfl,rfl⟩
   exact ⟨rfl,Fr.refl _ _⟩
 ·have hs:(⟨#[48]⟩:ByteArray).size=1:=rfl
  refine (Tryz.strings_Repeat_main ⟨#[48]⟩ c w h (by omega) (by rw [hs]; omega) (by rw [hs]; decide)).mono ?_
  rintro e w' ⟨rfl,hB⟩
  refine ⟨?_,Fr.ofBelow hB⟩
  have:∀ n,Lib.repeatL [(48:UInt8)] n=List.replicate n 48:=by
   intro n; induction n with
   | zero=>rfl
   | succ n ih=>simp [Lib.repeatL,List.replicate_succ] at ih ⊢; first | exact ih | (rw [ih])
  rw [show (⟨#[48]⟩:ByteArray).data.toList=[48] from rfl,this]
/-! ### what stays -/
theorem Zjy {B b:Nat} {T e:TypeId} {bs:List Value} {W W':World} {row:Option Nat} (h:Lib.IsBuilderF T e B b bs W) (hg:W.grownBy W' row) (hr:∀ r,row=some r→∃ o:Obj,W.heap[r]? = some o∧o.isCells=false):Lib.IsBuilderF T e B b bs W':=by
 have key:∀ p,Lib.BuilderAtF T e B b p bs W→Lib.BuilderAtF T e B b p bs W':=by
  rintro p ⟨h1,v,h2,⟨h3,h4⟩,h5⟩
  refine ⟨h1,v,(grownBy_keeps_cells hg hr h2 rfl).trans h2,⟨h3,?_⟩,h5⟩
  rcases h4 with h4 | ⟨g,cap,cur,fz,k1,k2,k3,k4⟩
  ·exact Or.inl h4
  ·exact Or.inr ⟨g,cap,cur,fz,k1,k2,(grownBy_keeps_cells hg hr k3 rfl).trans k3,k4⟩
 exact h.elim (fun x=>Or.inl (key _ x)) (fun x=>Or.inr (key _ x))
theorem Zj7 {B b:Nat} {T e:TypeId} {bs:List Value} {W W':World} (h:Lib.IsBuilderF T e B b bs W) (hf:Ext W W'):Lib.IsBuilderF T e B b bs W':=by
 have hb:∀ (k:Nat) (o:Obj),W.heap[k]? = some o→W'.heap[k]? = some o:=fun k o hk=>by rw [hf.block k (Array.getElem?_eq_some_iff.1 hk).1 (fun f=>f)]; exact hk
 have key:∀ p,Lib.BuilderAtF T e B b p bs W→Lib.BuilderAtF T e B b p bs W':=by
  rintro p ⟨h1,v,h2,⟨h3,h4⟩,h5⟩
  refine ⟨h1,v,hb _ _ h2,⟨h3,?_⟩,h5⟩
  rcases h4 with h4 | ⟨g,cap,cur,fz,k1,k2,k3,k4⟩
  ·exact Or.inl h4
  ·exact Or.inr ⟨g,cap,cur,fz,k1,k2,hb _ _ k3,k4⟩
 exact h.elim (fun x=>Or.inl (key _ x)) (fun x=>Or.inr (key _ x))
theorem ZiC {B b:Nat} {T e:TypeId} {bs:List Value} {W:World} (h:Lib.IsBuilderF T e B b bs W):∃ c t fz,W.heap[b]? = some (.cells c t fz):=by
 rcases h with ⟨_,v,h2,_⟩ | ⟨_,v,h2,_⟩<;>exact ⟨_,_,_,h2⟩
theorem ZgN {B n:Nat} {w W W':World} {row:Option Nat} (h:Below B w W) (hB:B≤w.heap.size) (hg:W.grownBy W' row) (hr:∀ r,row=some r→n≤r) (hn:B≤n):Below B w W':=by
 refine ⟨hg.os.trans h.os,hg.tape.trans h.tape,hg.output.trans h.output,Nat.le_trans h.size hg.size,fun k hk=>?_⟩
 rw [hg.block k (by have:=h.size; omega) (fun e=>by have:=hr k e.symm; omega)]
 exact h.block k hk
theorem Zn2 {e:TypeId} {b:Nat} {w w':World} (h:Lib.OthersKept e (some b) w w') (hs:w.heap.size≤w'.heap.size) (hb:∃ c t fz,w.heap[b]? = some (.cells c t fz)):KeepsOthers w w':=by
 refine ⟨hs,fun k o hk ho=>h k o hk ?_ ?_⟩
 ·intro e
  injection e with e
  obtain ⟨c,t,fz,hc⟩:=hb
  rw [e,hc] at hk
  injection hk with hk
  rw [← hk] at ho
  cases ho
 ·rintro c fz rfl
  cases ho
theorem Fr.others {w w':World} (h:Ext w w'):KeepsOthers w w':=⟨h.size,fun k o hk _=>by rw [h.block k (Array.getElem?_eq_some_iff.1 hk).1 (fun f=>f)]; exact hk⟩
theorem ZeN {e:TypeId} {b k:Nat} {o:Obj} {w w':World} (h:Lib.OthersKept e (some b) w w') (hk:w.heap[k]? = some o) (hb:k≠b) (ho:∀ c fz,o≠.cells c e fz):w'.heap[k]? = some o :=
 h k o hk (fun e=>by injection e with e; exact hb e) ho
structure DcJ (w:World) (q g c2:Nat) (cs:List Nat) (t:List UInt8) (W:World):Prop where
 below:Below w.heap.size w W
 size:q + 2≤W.heap.size
 bd:Lib.IsBuilderF 145 5 w.heap.size q (Lib.byteCells t) W
 box:Blk 76 W w.heap.size #[.slice (some ⟨g,0,none⟩) cs.length c2]
 bs:Blk 76 W (q + 1) #[.slice (some ⟨g,0,none⟩) cs.length c2]
 row:Own .u64 94 W g cs
section
variable {w W W':World} {q g c2 n:Nat} {cs:List Nat} {t s:List UInt8} {row:Option Nat}
theorem DcJ.kept (h:DcJ w q g c2 cs t W) (hg:W.grownBy W' row) (hr:∀ r,row=some r→n≤r∧∃ o:Obj,W.heap[r]? = some o∧o.isCells=false) (hn:w.heap.size≤n):DcJ w q g c2 cs t W':=by
 obtain ⟨tail,ht,hh⟩:=h.row
 exact ⟨ZgN h.below (Nat.le_refl _) hg (fun r e=>(hr r e).1) hn,Nat.le_trans h.size hg.size,Zjy h.bd hg (fun r e=>(hr r e).2),(grownBy_keeps_cells hg (fun r e=>(hr r e).2) h.box rfl).trans h.box,(grownBy_keeps_cells hg (fun r e=>(hr r e).2) h.bs rfl).trans h.bs,tail,ht,(grownBy_keeps_cells hg (fun r e=>(hr r e).2) hh rfl).trans hh⟩
theorem DcJ.step (h:DcJ w q g c2 cs t W) (Q:Ext W W'):DcJ w q g c2 cs t W'∧KeepsOthers W W'∧KpS (q + 1) g W W':=by
 have hz:=h.size
 exact ⟨⟨((Fr.ofBelow h.below).trans Q).toBelow,Nat.le_trans hz Q.size,Zj7 h.bd Q,h.box.ext Q,h.bs.ext Q,h.row.ext Q⟩,Fr.others Q,Q.block _ (by omega) (fun f=>f),Q.block _ h.row.lt (fun f=>f)⟩
theorem DcJ.write (h:DcJ w q g c2 cs t W) (hq:w.heap.size < q) (hgq:g < q) (h1:Lib.IsBuilderF 145 5 w.heap.size q (Lib.byteCells (t ++ s)) W') (h2:Below w.heap.size W W') (h3:Lib.OthersKept 5 (some q) W W') :
 DcJ w q g c2 cs (t ++ s) W'∧KeepsOthers W W'∧KpS (q + 1) g W W':=by
 obtain ⟨tail,ht,hh⟩:=h.row
 have e1:W'.heap[w.heap.size]? = some _:=ZeN h3 h.box (by omega) (fun c fz e=>by injection e with _ e; cases e)
 have e2:W'.heap[q + 1]? = some _:=ZeN h3 h.bs (by omega) (fun c fz e=>by injection e with _ e; cases e)
 have e3:W'.heap[g]? = some _:=ZeN h3 hh (by omega) (fun c fz e=>by injection e with _ e; cases e)
 exact ⟨⟨h.below.trans h2,Nat.le_trans h.size h2.size,h1,e1,e2,tail,ht,e3⟩,Zn2 h3 h2.size (ZiC h.bd),e2.trans h.bs.symm,e3.trans hh.symm⟩
end
end Go.Proofs.YtklpdkpcocnglaaGreatDoor

namespace Go.Proofs.YtklpdkpcocnglaaGreatDoor
open Go.RowKit
theorem Zgy {P:Program} {ops:Array Oper} {o:Oper} {a:Act} {w:World} {K:Act→World→Prop} {Q:Exit→Act→World→Prop} {E:Prop}
 (hg:o.guard=none) (s x:Operand) (t:TypeId) (ho:o.op=Op.call { callee:=Callee.builtin Builtin.append,args:=#[s,x],argTypes:=#[t,t] })
 (e:TypeId) (k:IntKind) (bytes:Nat) (ht:P.underlying t=some (.slice e)) (hinfo:(P.info? e).map (fun i=>(i.zero,i.size,i.bytes))=some (some (.int k 0),1,bytes))
 (A X:Option Addr) (n m cap c:Nat) (hs:a.eval s=.slice A n cap) (hx:a.eval x=.slice X m c) (xs news:List Nat) (hn:xs.length=n) (hm:news.length=m) (hB:Buf k e w A cap xs) (hX:Zad k w X news) (h63:n + m≤maxLen) (hbytes:(n + m) * bytes≤140737488355328)
 (hK:∀ A' cap' w',Buf k e w' A' cap' (xs ++ news)→Fr (ZaC A) w w'→(∀ b,ZaC A' b→ZaC A b∨b=w.heap.size)→K (a.put o.dst (.slice A' (n + m) cap')) w') :
 if Region.wanted o (yielded ops a.tmps)=true then Oper.wp P o a w K Q else E:=by
 have hw:Region.wanted o (yielded ops a.tmps)=true:=by simp [Region.wanted,hg]
 rw [if_pos hw]
 obtain ⟨A',cap',w',hrun,h2,h3,h4⟩:=Zeg (P:=P) w t o.type e k bytes ht hinfo A X n m cap c xs news hn hm hB hX h63 hbytes
 unfold Oper.wp execOp
 simp only [ho,resolve,invoke,builtin,Sem.run_bind,Sem.run_pure,Result.andThen_ok,List.map_toArray,List.map_cons,List.map_nil,hs,hx,hrun]
 exact hK _ _ _ h2 h3 h4
theorem ChR.bound {n r:Nat} {cs:List Nat} (h:ChR n cs r) (hr:0 < r):cs.length < blen n:=by
 refine Zdm.2 ?_
 have h1:2 ^ cs.length≤(10 ^ 19) ^ cs.length:=Nat.pow_le_pow_left (by decide) _
 have h2:(10 ^ 19) ^ cs.length * 1≤(10 ^ 19) ^ cs.length * r:=Nat.mul_le_mul_left _ hr
 have:=h.eq
 omega
structure DcI (w wr:World) (b bx n:Nat) (rs cs:List Nat) (A:Option Addr) (c:Nat):Prop where
 ext:Ext w wr
 own:Own .u64 94 wr b rs
 dig:Dig W64 rs
 trim:Trim rs
 ch:ChR n cs (val W64 rs)
 box:Blk 76 wr bx #[.slice A cs.length c]
 buf:Buf .u64 94 wr A c cs
 news:∀ i,ZaC A i→w.heap.size≤i∧i≠b∧i≠bx
set_option maxHeartbeats 1000000 in
theorem Zjz (A:Option Addr) (l c:Nat) (w:World) (hN:Zae w (.slice A l c) 0):Calls Tryz.prog 67 #[.slice A l c] w (Zeq w (Lib.decDigits 0)):=by
 have hl:l=0:=hN.len0
 subst hl
 go_enter Tryz.func67,Tryz.ntmps67
 go_wp2
 go_ret
 exact ⟨by rw [Lib.decDigits_one (by decide)]; rfl,Fr.refl _ _⟩
attribute [local go_sem] Oper.semAt_some
set_option maxHeartbeats 8000000 in
theorem Zj8 (A:Option Addr) (xs:List Nat) (c n:Nat) (w:World) (hg:Glob w) (hn:0 < n) (hX:Zad .u64 w A xs) (hd:Dig W64 xs) (ht:Trim xs) (hv:val W64 xs=n) (hl:xs.length≤1000000) (h0:0 < xs.length) :
 Calls Tryz.prog 67 #[.slice A xs.length c] w (Zeq w (Lib.decDigits n)):=by
 have hbn:blen n≤64000000:=by
  have h1:=Zc2 n
  have h2:=Zaw hd ht
  rw [hv] at h2
  omega
 have HG:=zh hg
 have HX:=zh hX
 have Hd:=zh hd
 have Ht:=zh ht
 have Hv:=zh hv
 clear hg hX hd ht hv
 refine (callsIn_wide (n:=3)).1 ?_
 refine callsIn_of_wp_marks Tryz.func67 rfl trivial ?_ rfl
 simp only [Tryz.ntmps67,List.size_toArray,List.length_cons,List.length_nil,Nat.reduceAdd,Nat.reduceSub,Array.replicate_succ,Array.replicate_zero,List.push_toArray,List.append_toArray,List.nil_append,List.cons_append]
 refine wpIn_wide.2 ?_
 go_wp2_with fail
 refine (Zhz A xs c _ (HX.out.ext ((Fr.refl _ _).alloc _)) (by omega) h0).mono ?_
 rintro e w1 ⟨b,cap,rfl,hb,hcap,hE1,hO⟩
 have HE1:=zh hE1
 have HO:=zh hO
 have hb':w.heap.size < b:=by simp at hb; omega
 have hI:Hid (DcI w w1 b w.heap.size n xs [] none 0):=⟨((Fr.refl _ _).alloc _).trans HE1.out,HO.out,Hd.out,Ht.out,by rw [Hv.out]; exact ChR.start n,(Blk.new _ _ _).ext HE1.out,Buf.nil,fun i hi=>by obtain ⟨a,ha,_⟩:=hi; cases ha⟩
 clear hE1 hO hb
 go_wp2
 go_loopw [4] (fun v4 wr=>∃ (rs cs:List Nat) (A2:Option Addr) (c2:Nat),v4=.slice (some ⟨b,0,none⟩) rs.length cap∧rs.length≤cap∧rs.length≤1000000∧Hid (DcI w wr b w.heap.size n rs cs A2 c2))
  (fun _ wr=>match wr.cell? ⟨w.heap.size,0,none⟩ with | some (.slice _ m _)=>64000001 - m | _=>0)
 case atStart=>exact ⟨xs,[],none,0,rfl,hcap,hl,hI⟩
 case round =>
  obtain ⟨rs,cs,A2,c2,rfl,hrc,hrl,hI⟩:=hrel
  by_cases hpos:0 < rs.length
  ·have hvp:0 < val W64 rs:=Zd4 hI.out.trim Zaf (fun e=>by rw [e] at hpos; simp at hpos)
   have hcl:cs.length < 64000000:=by have:=hI.out.ch.bound hvp; omega
   have hbox:wr.cell? ⟨w.heap.size,0,none⟩=some (.slice A2 cs.length c2):=hI.out.box.cell 0
   have hfz:=hI.out.box.frozen 0
   obtain ⟨r,hr⟩:∃ r,val W64 rs % 10000000000000000000=r:=⟨_,rfl⟩
   have Hr:=zh hr
   have Hvp:=zh hvp
   clear hr hvp
   go_wp2_with fail
   first | (go_region_law (first
    | (refine Zgy rfl (.tmp 19) (.tmp 22) 76 rfl 94 .u64 8 Tryz.underlying76 Zcv A2 (some ⟨w2.heap.size,0,none⟩) cs.length 1 c2 1 rfl rfl cs [r] rfl rfl HBuf.out HSh.out (by simp only [maxLen]; omega) (by omega) ?_
       intro A3 c3 w3 hB3 hF3 hA3
       have hB4:=HBox.out.fr hF3 (fun h=>(hI.out.news _ h).2.2 rfl)
       have HB4:=zh hB4
       have hc4:=hB4.cell 0
       have hf4:=hB4.frozen 0
       have HB3:=zh hB3
       have HF3:=zh hF3
       have HA3:=zh hA3
       clear hB4 hB3 hF3 hA3)
    | (go_simp
       go_at_call 108
       refine (ZeF b cap rs 10000000000000000000 _ hI.out.own.drew (by omega) hI.out.dig (by decide) (by rw [Zal]; decide)).mono ?_
       rintro e w2 ⟨qs,rfl,hq,hF2,hO2⟩
       rw [Hr.out]
       have hbx2:=hI.out.box.fr (Fr.undrew hF2) (fun e=>by omega)
       have hc2:=hbx2.cell 0
       have hc2b:=(hbx2.alloc (.cells #[.int .u64 (r:Int)] 94)).cell 0
       have HBox:=zh (hbx2.alloc (.cells #[.int .u64 (r:Int)] 94))
       have HBuf:=zh ((hI.out.buf.fr (Fr.undrew hF2) (fun i hi e=>(hI.out.news i hi).2.1 e)).ext ((Fr.refl _ w2).alloc (.cells #[.int .u64 (r:Int)] 94)))
       have HSh:Hid (Zad .u64 (w2.alloc (.cells #[.int .u64 (r:Int)] 94)) (some ⟨w2.heap.size,0,none⟩) [r]):=(Own.new w2 94 .u64 [r] []).shows0
       have HO2:=zh hO2
       have HF2:=zh hF2
       have Hq:=zh hq
       clear hbx2 hO2 hF2 hq))) | skip
   all_goals
    have hO4:=((HO2.out.alloc (.cells #[.int .u64 (r:Int)] 94)).fr HF3.out (fun h=>(hI.out.news _ h).2.1 rfl)).far (p:=⟨w.heap.size,0,none⟩) (by show b≠w.heap.size; omega) (.slice A3 (cs.length + 1) c3)
    have hE4:Ext w (w3.setCell ⟨w.heap.size,0,none⟩ (.slice A3 (cs.length + 1) c3)) :=
     (((hI.out.ext.next (Fr.undrew HF2.out) (fun i hi e=>by omega)).alloc (.cells #[.int .u64 (r:Int)] 94)).next HF3.out (fun i hi h=>by have:=(hI.out.news i h).1; omega)).setCell (p:=⟨w.heap.size,0,none⟩) (Or.inr (Nat.le_refl _)) _
    have hA4:∀ i,ZaC A3 i→w.heap.size≤i∧i≠b∧i≠w.heap.size:=fun i hi=>by
     rcases HA3.out i hi with h | h
     ·exact hI.out.news i h
     ·have h1:=hI.out.ext.size
      have h2:wr.heap.size≤w2.heap.size:=HF2.out.size
      have h3:=hI.out.own.lt
      have h4:=HO2.out.lt
      have h5:=hI.out.box.lt
      rw [World.size_alloc] at h
      omega
    have hbuf4:=HB3.out.fr (S:=fun i=>i=w.heap.size) ((show Fr (fun i=>i=w.heap.size) w3 w3 from Fr.refl _ _).setCell (p:=⟨w.heap.size,0,none⟩) (Or.inl rfl) (.slice A3 (cs.length + 1) c3)) (fun i hi e=>(hA4 i hi).2.2 e)
    have hbx4:Blk 76 (w3.setCell ⟨w.heap.size,0,none⟩ (.slice A3 (cs.length + 1) c3)) w.heap.size #[.slice A3 (cs.length + 1) c3]:=HB4.out.set_ 0 _
    have HO4:=zh hO4
    have HE4:=zh hE4
    have HA4:=zh hA4
    have HBuf4:=zh hbuf4
    have HBx4:=zh hbx4
    have Hbox:=zh hbox
    have hql:rs.length=qs.length:=Hq.out.1.symm
    clear hO4 hE4 hA4 hbuf4 hbx4 hbox hfz
    go_wp2_with fail
    refine (Zf3 _ qs cap _ HO4.out.shows0 (by omega) (by omega)).mono ?_
    rintro e w5 ⟨rfl,hE5⟩
    have hbx5:=HBx4.out.ext hE5
    have hbc5:=hbx5.cell 0
    have Hbc5:=zh hbc5
    have hcn:=hI.out.ch.step Hvp.out
    rw [show (10:Nat) ^ 19=10000000000000000000 from rfl,Hr.out] at hcn
    have hI5:Hid (DcI w w5 b w.heap.size n (ZaW qs) (cs ++ [r]) A3 c3) :=
     ⟨HE4.out.trans hE5,(HO4.out.take _).ext hE5,Zcy Hq.out.2.1,Zcl qs,by rw [Za4,Hq.out.2.2]; exact hcn,by rw [List.length_append,List.length_singleton]; exact hbx5,HBuf4.out.ext hE5,HA4.out⟩
    have Htl:=zh (Zbj qs)
    have Hle:=zh (Zds qs qs.length)
    clear hE5 hbx5 hbc5 hcn
    go_wp2
    go_roundw
    case rel=>exact ⟨ZaW qs,cs ++ [r],A3,c3,by rw [Htl.out],by have:=Hle.out; rw [Htl.out]; omega,by have:=Hle.out; rw [Htl.out]; omega,hI5⟩
    case measure=>rw [Hbc5.out,Hbox.out]; simp only [List.getElem?_toArray]; first | omega | (simp; omega)
  ·obtain rfl:rs=[]:=List.eq_nil_of_length_eq_zero (by omega)
   have hch:=hI.out.ch
   rw [Zdh] at hch
   have hne:cs≠[]:=fun e=>by have:=hch.eq; rw [e] at this; simp [chV] at this; omega
   have hcp:=List.length_pos_iff.2 hne
   have hcl:cs.length≤64000000:=by
    have h1:2 ^ (cs.length - 1)≤n:=by
     have h:=hch.eq
     obtain ⟨l,c0,rfl,hc0⟩:=hch.top rfl hne
     rw [Zfz] at h
     have h2:(10 ^ 19) ^ l.length * 1≤(10 ^ 19) ^ l.length * c0:=Nat.mul_le_mul_left _ hc0
     have h3:2 ^ l.length≤(10 ^ 19) ^ l.length:=Nat.pow_le_pow_left (by decide) _
     rw [List.length_append,List.length_singleton,Nat.add_sub_cancel]
     omega
    have:=Zdm.2 h1
    omega
   have HText:=zh (Zmv hch hn)
   have HLt:=zh hch.lt
   obtain ⟨g,rfl,hOg,hCg,_,_⟩:=hI.out.buf.open_ hne
   have HOg:=zh hOg
   have hbx:=hI.out.box
   have hgn:=hI.out.news g ⟨_,rfl,rfl⟩
   have HBx:=zh hbx
   have HE:=zh hI.out.ext
   have hcb:=hbx.cell 0
   have hlt0':w.heap.size < wr.heap.size:=hbx.lt
   have hglt:=hOg.lt
   clear hch hOg hCg hbx hI
   go_wp2_with fail
   refine (Zjv (some ⟨g,0,none⟩) cs.length c2 _).mono ?_
   rintro e wS ⟨rfl,rfl⟩
   go_wp2_with fail
   have hBp:Below w.heap.size w wr:=HE.out.toBelow
   have hbx2:Blk 76 ((wr.alloc (.cells #[.pointer none, .slice none 0 0] 145)).alloc (.cells #[.slice (some ⟨g,0,none⟩) cs.length c2] 76)) w.heap.size #[.slice (some ⟨g,0,none⟩) cs.length c2]:=(HBx.out.alloc _).alloc _
   have hbb:Blk 145 ((wr.alloc (.cells #[.pointer none, .slice none 0 0] 145)).alloc (.cells #[.slice (some ⟨g,0,none⟩) cs.length c2] 76)) wr.heap.size #[.pointer none, .slice none 0 0]:=(Blk.new wr _ _).alloc _
   have hbs:Blk 76 ((wr.alloc (.cells #[.pointer none, .slice none 0 0] 145)).alloc (.cells #[.slice (some ⟨g,0,none⟩) cs.length c2] 76)) (wr.heap.size + 1) #[.slice (some ⟨g,0,none⟩) cs.length c2]:=by
    have:=Blk.new (wr.alloc (.cells #[.pointer none, .slice none 0 0] 145)) 76 #[.slice (some ⟨g,0,none⟩) cs.length c2]
    rwa [World.size_alloc] at this
   have hog2:Own .u64 94 ((wr.alloc (.cells #[.pointer none, .slice none 0 0] 145)).alloc (.cells #[.slice (some ⟨g,0,none⟩) cs.length c2] 76)) g cs:=(HOg.out.alloc _).alloc _
   have hb2:Below w.heap.size w ((wr.alloc (.cells #[.pointer none, .slice none 0 0] 145)).alloc (.cells #[.slice (some ⟨g,0,none⟩) cs.length c2] 76)):=((HE.out.alloc _).alloc _).toBelow
   have hsz:((wr.alloc (.cells #[.pointer none, .slice none 0 0] 145)).alloc (.cells #[.slice (some ⟨g,0,none⟩) cs.length c2] 76)).heap.size=wr.heap.size + 2:=by rw [World.size_alloc,World.size_alloc]
   generalize ((wr.alloc (.cells #[.pointer none, .slice none 0 0] 145)).alloc (.cells #[.slice (some ⟨g,0,none⟩) cs.length c2] 76))=wS at *
   refine (wpIn_wide (n:=3)).1 ?_
   refine wpIn_rangeFunc_ownF (n:=3) rfl (by decide) (gf:=150) (lb:=#[.pointer (some ⟨wr.heap.size + 1,0,none⟩)]) rfl trivial (enters_of Tryz.func150 (by kernel_rfl) rfl)
    (ZhY 2 (wr.heap.size + 1) g c2 cs (by decide) (by omega) wS (by omega) (by omega) (hbs.cell 0) (fun j hj=>hog2.cell hj)) KpS.trans (fun W q o o' hq _ _ _=>⟨World.putObj_heap_other (by omega),World.putObj_heap_other (by omega)⟩) (Below.refl _ _) (fun _=>rfl)
    (fun pre W=>DcJ w wr.heap.size g c2 cs (Za0 cs pre) W) (fun _ _ _=>False)
    (fun pre A B row h hg hr=>h.kept hg hr (by omega)) (fun _ _ _ _ _ h _ _=>h)
    ⟨hb2,by omega,Or.inl ⟨by omega, .slice none 0 0,hbb,⟨rfl,Or.inl ⟨rfl,rfl⟩⟩,by simp [Value.ownBlock]⟩,hbx2,hbs,hog2⟩ ?a1 ?assign ?body ?done ?stop
   case assign =>
    intro l x W K hK
    gi_wp2
    exact hK
   case stop =>
    rintro D c pre W _ _ h _
    exact h.elim
   case body =>
    rintro l pre x W hJ hlen
    obtain ⟨u,hu⟩:∃ u,cs[x]?.getD 0=u:=⟨_,rfl⟩
    have hu19:u < 10 ^ 19:=by
     rw [← hu]
     rcases Nat.lt_or_ge x cs.length with hj | hj
     ·rw [List.getElem?_eq_getElem hj]; exact HLt.out _ (List.getElem_mem hj)
     ·rw [List.getElem?_eq_none hj]; decide
    rw [hu]
    have hdl:=Zkx hu19
    have hfu:=ZhX u W (HG.out.ext (Fr.ofBelow hJ.below)) (by rw [Zal]; exact Nat.lt_trans hu19 (by decide))
    have htl:=Zis HLt.out pre
    have hsz1:=hJ.below.size
    have HU:=zh hu
    have HFU:=zh hfu
    have HJ:=zh hJ
    have hcx:=hJ.box.cell 0
    clear hu hu19 hfu hJ
    obtain ⟨D,hD⟩:∃ D,Lib.decDigits u=D:=⟨_,rfl⟩
    rw [hD] at hdl
    gi_wp2_with fail
    refine ⟨trivial,((callsIn_wide.2 HFU.out).inRound l).mono ?_⟩
    rintro e W1 ⟨rfl,hE1⟩
    rw [hD]
    have HD:=zh hD
    obtain ⟨hJ1,hK1,hS1⟩:=HJ.out.step hE1
    have hcx1:=hJ1.box.cell 0
    have HJ1:=zh hJ1
    have HK1:=zh hK1
    have HS1:=zh hS1
    clear hJ1 hK1 hS1 hE1 hD hcx
    by_cases hx:x + 1 < cs.length
    ·gi_wp2_with fail
     rw [show (19:Int) - (D.length:Int)=((19 - D.length:Nat):Int) by omega]
     refine ⟨trivial,((callsIn_wide.2 (Zjx (19 - D.length) W1 (by omega))).inRound l).mono ?_⟩
     rintro e W2 ⟨rfl,hE2⟩
     obtain ⟨hJ2,hK2,hS2⟩:=HJ1.out.step hE2
     have HJ2:=zh hJ2
     have HK2:=zh (HK1.out.trans hK2)
     have HS2:=zh (HS1.out.trans hS2)
     clear hJ2 hK2 hS2 hE2
     gi_wp2_with fail
     refine ⟨trivial,((callsIn_wide.2 (Zd1 w.heap.size wr.heap.size (Za0 cs pre) (List.replicate (19 - D.length) 48) W2 HJ2.out.bd (by rw [List.length_replicate]; omega) HJ2.out.below.size)).inRound l).mono ?_⟩
     rintro e W3 ⟨rfl,h1,h2,h3⟩
     obtain ⟨hJ3,hK3,hS3⟩:=HJ2.out.write hlt0' hglt h1 h2 h3
     have HJ3:=zh hJ3
     have HK3:=zh (HK2.out.trans hK3)
     have HS3:=zh (HS2.out.trans hS3)
     clear hJ3 hK3 hS3 h1 h2 h3
     gi_wp2_with fail
     refine ⟨trivial,((callsIn_wide.2 (Zd1 w.heap.size wr.heap.size (Za0 cs pre ++ List.replicate (19 - D.length) 48) D W3 HJ3.out.bd (by rw [List.length_append,List.length_replicate]; omega) HJ3.out.below.size)).inRound l).mono ?_⟩
     rintro e W4 ⟨rfl,h1,h2,h3⟩
     obtain ⟨hJ4,hK4,hS4⟩:=HJ3.out.write hlt0' hglt h1 h2 h3
     have HJ4:=zh hJ4
     have HK4:=zh (HK3.out.trans hK4)
     have HS4:=zh (HS3.out.trans hS4)
     clear hJ4 hK4 hS4 h1 h2 h3
     gi_wp2
     refine ⟨HK4.out,HS4.out,?_⟩
     show DcJ w wr.heap.size g c2 cs (Za0 cs (pre ++ [x])) W4
     rw [ZfA,ZeM,if_pos hx,HU.out,HD.out,← List.append_assoc]
     exact HJ4.out
    ·gi_wp2_with fail
     refine ⟨trivial,((callsIn_wide.2 (Zd1 w.heap.size wr.heap.size (Za0 cs pre) D W1 HJ1.out.bd (by omega) HJ1.out.below.size)).inRound l).mono ?_⟩
     rintro e W4 ⟨rfl,h1,h2,h3⟩
     obtain ⟨hJ4,hK4,hS4⟩:=HJ1.out.write hlt0' hglt h1 h2 h3
     have HJ4:=zh hJ4
     have HK4:=zh (HK1.out.trans hK4)
     have HS4:=zh (HS1.out.trans hS4)
     clear hJ4 hK4 hS4 h1 h2 h3
     gi_wp2
     refine ⟨HK4.out,HS4.out,?_⟩
     show DcJ w wr.heap.size g c2 cs (Za0 cs (pre ++ [x])) W4
     rw [ZfA,ZeM,if_neg hx,HU.out,HD.out]
     exact HJ4.out
   case done =>
    rintro D ys W hD rfl hJ hK
    have hbd:=hJ.bd
    rw [HText.out] at hbd
    have hst:=Tryz.Builder_String_any_k w.heap.size wr.heap.size (Lib.decDigits n) W hbd hJ.below.size
    have hsz1:=hJ.below.size
    have HSt:=zh hst
    have HJ:=zh hJ
    clear hbd hst hJ
    go_wp2_with fail
    refine HSt.out.mono ?_
    rintro e W2 ⟨rfl,_,hB2,hO2⟩
    have hK2:W2.heap[D]? = some (.deferred (some [])):=ZeN hO2 hK (by omega) (fun c fz e=>by cases e)
    have hfin:=ZgN (HJ.out.below.trans hB2) (Nat.le_refl _) (grownBy_putObj' W2 D (.deferred none)) (n:=wS.heap.size) (fun r e=>by cases e; exact hD) (by omega)
    have HFin:=zh hfin
    clear hfin hB2 hO2
    go_wp2
    refine ⟨by simp, .inl ⟨_,_,rfl,run_takeDeferred hK2,?_⟩⟩
    exact ⟨_,results_tmp rfl _ _ _,rfl,Fr.ofBelow HFin.out⟩
set_option maxHeartbeats 1000000 in
theorem ZjA (A:Option Addr) (l c n:Nat) (w:World) (hg:Glob w) (hN:Zae w (.slice A l c) n) (hw:wl n≤1000000):Calls Tryz.prog 67 #[.slice A l c] w (Zeq w (Lib.decDigits n)):=by
 rcases Nat.eq_zero_or_pos n with rfl | hn
 ·exact Zjz A l c w hN
 ·obtain ⟨A',xs,c',e,h1,h2,h3,h4,h5⟩:=hN
  injection e with e1 e2 e3
  subst e1 e2 e3
  rw [← h5,← Zaw h3 h4] at hw
  refine Zj8 A xs c n w hg hn h2 h3 h4 h5 hw ?_
  rcases Nat.eq_zero_or_pos xs.length with h | h
  ·rw [List.eq_nil_of_length_eq_zero h] at h5; simp at h5; omega
  ·exact h
end Go.Proofs.YtklpdkpcocnglaaGreatDoor

namespace Go.Proofs.YtklpdkpcocnglaaGreatDoor
open Go.RowKit
def ldR (l:List UInt8) (x:Int):FR:=if fvB l x=true then ⟨(Zaz l).1,Zaj (Zaz l).2,x,0⟩ else ⟨false,0,0,0⟩
def shLd (v:Bool) (r:FR) (x:ShN):Value:=.tuple #[.agg #[.bool r.s, .slice x.1 x.2.1 x.2.2, .int .i64 r.e], .bool v]
def Zbt (w:World) (v:Bool) (r:FR) (e:Ending) (w':World):Prop:=∃ x:ShN,e=.returned (shLd v r x)∧Zae w' (ZaJ x) r.m∧Ext w w'
theorem Za7 {w w':World} {e:Ending} {v:Bool} {r:FR} (h:Zbt w v r e w'):Zci (shLd v r) (fun x w=>Zae w (ZaJ x) r.m) w e w':=by
 obtain ⟨x,rfl,hI,Q⟩:=h
 exact ⟨x,rfl,Q,boxn Q (fun S w'' hS hF=>hI.nrb hS hF)⟩
def frT (r:FR):List UInt8:=if r.err=0 then Lib.itoa (sg r.s r.m) else []
def frE (r:FR):Int:=if r.err=0 then r.e else 0
abbrev Zcj (w:World) (r:FR):Ending→World→Prop:=RetV w (.tuple #[.agg #[.string ⟨(frT r).toArray⟩, .int .i64 (frE r)], .int .i64 r.err])
def Fine (r:FR):Prop:=(r.s=true→0 < r.m)∧wl r.m≤1000000
theorem Zer (k:Int):Fine ⟨false,0,0,k⟩:=⟨(fun h=>by cases h),(by show (0:Nat)≤1000000; decide)⟩
theorem Zit {s:Bool} {n:Nat} {e:Int} (h:wl n≤1000000):Fine (ZaU s n e):=by
 unfold ZaU
 split
 ·exact Zer 0
 ·rename_i h0
  split
  ·obtain ⟨h1,h2⟩:=Zdf (show 0 < n by omega)
   exact ⟨fun _=>by show 0 < oddM n; omega,Nat.le_trans (Zbc (Nat.div_le_self _ _)) h⟩
  ·exact Zer 2
theorem Zdq {s:Bool} {n d bits:Nat} {e:Int} (hd:0 < d) (hb:0 < bits) (hb2:bits≤4096):Fine (ZaO s n d e bits):=by
 unfold ZaO
 split
 ·exact Zer 0
 ·refine Zit ?_
  have h1:=Zik (n:=n) (d:=d) (bits:=bits) (by omega) hd hb
  have h2:=(ZnJ (fa n (rndK n d bits)) (fb d (rndK n d bits))).2
  have h3:fa n (rndK n d bits) / fb d (rndK n d bits) < 2 ^ bits:=by
   have:=Zc0 (fq n d (rndK n d bits))
   rw [h1] at this
   exact this
  have h4:rndM n d bits≤2 ^ bits:=by unfold rndM; omega
  have h5:wl (2 ^ bits)≤1000:=ZhA (by omega)
  have:=Zbc h4
  omega
theorem Znh {sx sy:Bool} {xm ym bits:Nat} {xe ye:Int} (hb:0 < bits) (hb2:bits≤4096):Fine (sumR sx xm xe sy ym ye bits):=by
 unfold sumR
 split
 ·exact Zdq (by decide) hb hb2
 ·split
  ·exact Zdq (by decide) hb hb2
  ·exact Zdq (by decide) hb hb2
theorem Zni {s:Bool} {m n bits:Nat} {e:Int} (hb:0 < bits) (hb2:bits≤4096):Fine (Zgr s m n e bits):=by
 unfold Zgr
 split
 ·exact Zer 5
 ·exact Zdq (by omega) hb hb2
theorem Zlj {s:Bool} {m:Nat} {e k:Int} (hs:s=true→0 < m) (hm:wl m≤1000000):Fine (ZbP s m e k):=by
 unfold ZbP
 split
 ·exact ⟨hs,hm⟩
 ·split
  ·exact Zer 2
  ·exact Zit hm
theorem Zn3 (n:Nat):(Lib.decDigits n).length≤20 * wl n + 1:=by
 rw [Lib.decDigits_length]
 refine ZeR (20 * wl n) n ?_
 have h1:=Zgh n
 have h2:W64 ^ wl n≤(10 ^ 20) ^ wl n:=Nat.pow_le_pow_left (by rw [Zal]; decide) _
 rw [← Nat.pow_mul] at h2
 have h3:10 ^ (20 * wl n)≤10 ^ (20 * wl n + 1):=Nat.pow_le_pow_right (by decide) (by omega)
 omega
theorem ZbG {l:List UInt8} {x:Int} (h:fvB l x=true) : -1048576≤x∧x≤1048576∧(Zaz l).2.all Zaq=true∧((Zaz l).1=true→0 < Zaj (Zaz l).2):=by
 unfold fvB at h
 by_cases hs:l=[48]
 ·rw [if_pos hs] at h
  have:=of_decide_eq_true h
  subst hs
  exact ⟨by omega,by omega,by decide,fun h=>by cases h⟩
 ·rw [if_neg hs] at h
  obtain ⟨_,_,h3,h4,h5⟩:=of_decide_eq_true h
  exact ⟨h3.1,h3.2,h4,fun _=>by omega⟩
theorem ZfC (l:List UInt8):(Zaz l).2.length≤l.length:=by
 unfold Zaz; split
 ·simp
 ·exact Nat.le_refl _
theorem ZdA {l:List UInt8} {x:Int} (hl:l.length≤100000):wl (ldR l x).m≤100000:=by
 unfold ldR
 split
 ·rename_i h
  have h1:=ZbG h
  have h2:=ZbN _ h1.2.2.1
  have h3:=ZfC l
  exact Zeo h2 (by omega)
 ·show (0:Nat)≤100000; decide
theorem ZaM (s:ByteArray) (x:Int) (w:World) (hs:(bytes s).length≤100000) :
 Calls Tryz.prog 64 #[.agg #[.string s, .int .i64 x]] w (Zbt w (fvB (bytes s) x) (ldR (bytes s) x)):=by
 refine Zau (Φ:=fun w=>True) Tryz.func64 rfl (by kernel_rfl) (fun w' hf=>trivial) ?_
 refine Zac ?_
 by_cases hv:fvB (bytes s) x=true
 ·refine Zaa (xq 3 [(1, .p 1 0),(2, .p 2 0),(3, .v (.bool false))] [(2,79,[.v (.bool false), .v (.slice none 0 0), .v (.int .i64 0)]),(1,24,[.v (.string s), .v (.int .i64 x)])] ?_)
  refine xe (Zab (Zac (Zac (Zaa (xq 1 [(6, .v (.agg #[.string s, .int .i64 x]))] [] ?_)))))
  refine xqc 19 [.agg #[.string s, .int .i64 x]] 7 (fun _:Unit=>.bool true) _ (fun w R Q=>(Zfx s x _ (by omega)).mono (fun _ _ h=>Zak h (by rw [hv]))) (fun xx=>?_)
  refine xq 1 [(8, .v (.bool false))] [] ?_
  refine xe (Zab (xb (Zam (Zab (Zac (Zac ?_))))))
  by_cases h48:bytes s=[48]
  ·refine Zaa (xq 3 [(12, .v (.bool ((s:ByteArray).toList == (⟨#[48]⟩:ByteArray).toList)))] [] ?_)
   rw [Zkr h48]
   refine xe (Zab (xa (Zac (Zaa (xq 3 [(3, .v (.bool true))] [] ?_)))))
   refine xe (Zab (Zai (Zah ?_)))
   refine Zag (v:=.tuple #[.agg #[.bool false, .slice none 0 0, .int .i64 0], .bool true]) (by kernel_rfl) (fun w' R Q=>?_)
   have hx:x=0:=by have h:=hv; unfold fvB at h; rw [if_pos h48] at h; exact of_decide_eq_true h
   have hld:ldR (bytes s) x=⟨false,0,0,0⟩:=by unfold ldR; rw [if_pos hv,h48,hx]; rfl
   rw [hv,hld]
   exact ⟨(none,0,0),rfl,Zae.zero _,R⟩
  ·refine Zaa (xq 3 [(12, .v (.bool ((s:ByteArray).toList == (⟨#[48]⟩:ByteArray).toList)))] [] ?_)
   rw [Zks h48]
   refine xe (Zab (xb (Zam (Zab (Zac (Zaa (xq 2 [(16, .v (.string s))] [] ?_)))))))
   refine xqc 63 [.string s] 17 ZhD _ (fun w R Q=>(Zgd s _).mono (fun _ _=>Zgc)) (fun xx=>?_)
   obtain ⟨r,neg⟩:=xx
   refine xq 5 [(4, .v (.bool neg)),(5, .v (.string r))] [] ?_
   refine xe (Zab (Zac ?_))
   refine SXc.know (p:=Zaz (bytes s)=(neg,bytes r)) (fun w _ Q=>Q.2) (fun HM=>?_)
   have hfv:=ZbG hv
   rw [HM] at hfv
   have hdig:(bytes r).all Zaq=true:=hfv.2.2.1
   have hrl:=ZfC (bytes s)
   rw [HM] at hrl
   have hrz:r.size≤100000:=by rw [← Zan]; exact Nat.le_trans hrl hs
   have hwl:wl (Zaj (bytes r))≤100000:=Zeo (ZbN _ hdig) (Nat.le_trans hrl hs)
   refine Zbr 6 (by kernel_rfl) (by kernel_rfl) ZaA ?_
   refine xqf 2 [(20, .v (.bool neg)),(21, .v (.string r))] [(2,79,[.v (.bool false), .v (.slice none 0 0), .v (.int .i64 0)]),(1,24,[.v (.string s), .v (.int .i64 x)])] ?_
   refine xqd 100 [.string r] 22 ZaJ _ (fun w R Q=>(ZfB r _ (Zaj (bytes r)) hdig rfl (by omega) (by omega)).mono (fun _ _=>Zay)) (fun xx=>?_)
   obtain ⟨A10,l10,c10⟩:=xx
   refine xqf 3 [(25, .v (.agg #[.bool neg, .slice A10 l10 c10, .int .i64 x]))] [(2,79,[.v (.bool false), .v (.slice none 0 0), .v (.int .i64 0)]),(1,24,[.v (.string s), .v (.int .i64 x)])] ?_
   refine xz (xq 2 [(3, .v (.bool true))] [(2,79,[.v (.bool neg), .v (.slice A10 l10 c10), .v (.int .i64 x)])] ?_)
   refine xe (Zab (Zai ?_))
   refine Zag (v:=.tuple #[.agg #[.bool neg, .slice A10 l10 c10, .int .i64 x], .bool true]) (by kernel_rfl) (fun w' R Q=>?_)
   rw [hv,show ldR (bytes s) x=⟨neg,Zaj (bytes r),x,0⟩ from by unfold ldR; rw [if_pos hv,HM]]
   exact ⟨(A10,l10,c10),rfl,Q.2,R⟩
 ·refine Zaa (xq 3 [(1, .p 1 0),(2, .p 2 0),(3, .v (.bool false))] [(2,79,[.v (.bool false), .v (.slice none 0 0), .v (.int .i64 0)]),(1,24,[.v (.string s), .v (.int .i64 x)])] ?_)
  refine xe (Zab (Zac (Zac (Zaa (xq 1 [(6, .v (.agg #[.string s, .int .i64 x]))] [] ?_)))))
  refine xqc 19 [.agg #[.string s, .int .i64 x]] 7 (fun _:Unit=>.bool false) _ (fun w R Q=>(Zfx s x _ (by omega)).mono (fun _ _ h=>Zak h (by rw [Bool.eq_false_iff.2 hv]))) (fun xx=>?_)
  refine xq 1 [(8, .v (.bool true))] [] ?_
  refine xe (Zab (xa (Zac (Zaa (xq 3 [(3, .v (.bool false))] [] ?_)))))
  refine xe (Zab (Zai (Zah ?_)))
  refine Zag (v:=.tuple #[.agg #[.bool false, .slice none 0 0, .int .i64 0], .bool false]) (by kernel_rfl) (fun w' R Q=>?_)
  rw [Bool.eq_false_iff.2 hv,show ldR (bytes s) x=⟨false,0,0,0⟩ from if_neg hv]
  exact ⟨(none,0,0),rfl,Zae.zero _,R⟩
theorem Zj9 (s:Bool) (A:Option Addr) (l c m:Nat) (e:Int) (w:World) (hg:Glob w) (hN:Zae w (.slice A l c) m) (hw:wl m≤1000000) (hs:s=true→0 < m) :
 Calls Tryz.prog 97 #[.agg #[.bool s, .slice A l c, .int .i64 e]] w (RetV w (.agg #[.string ⟨(Lib.itoa (sg s m)).toArray⟩, .int .i64 e])):=by
 refine Zau (Φ:=fun w=>(Glob w∧Zae w (.slice A l c) (m))) Tryz.func97 rfl (by kernel_rfl) (fun w' hf=>⟨hg.ext hf,hN.ext hf⟩) ?_
 refine Zac (Zaa (xq 2 [(1, .p 1 0),(2, .p 2 0)] [(2,24,[.v (.string ⟨#[]⟩), .v (.int .i64 0)]),(1,79,[.v (.bool s), .v (.slice A l c), .v (.int .i64 e)])] ?_))
 refine xe (Zab (Zac (Zaa (xq 2 [eS1 5 A l c] [] ?_))))
 refine xqc 67 [.slice A l c] 6 (fun _:Unit=>.string ⟨(Lib.decDigits m).toArray⟩) _ (fun w R Q=>(ZjA A l c m _ Q.1 Q.2 (by omega)).mono (fun _ _ h=>Zak h rfl)) (fun xx=>?_)
 refine xq 1 [(3, .v (.string ⟨(Lib.decDigits m).toArray⟩))] [] ?_
 refine xe (Zab (Zac (Zac (Zaa (xq 2 [(8, .v (.bool s))] [] ?_)))))
 refine xe (Zab ?_)
 refine Zas (s) (by kernel_rfl) (fun hb10=>?_) (fun hb10=>?_)
 ·have hs1:=hb10
  refine Zaa (xq 1 [(9, .v (.string ⟨(Lib.decDigits m).toArray⟩))] [] ?_)
  refine Zb8 10 (.string ⟨(45 :: Lib.decDigits m).toArray⟩) (by kernel_rfl) (by kernel_rfl) (by kernel_rfl) (by kernel_rfl) (by kernel_rfl) (by kernel_rfl) (fun w R Q=>ZkT (x:=(Operand.const (Value.string { data:=#[45] }))) (y:=(Operand.tmp 9)) (t:=9) (k:=9) (by kernel_rfl) (by kernel_rfl) (by kernel_rfl) (by have h1:=Zn3 m; rw [← Zan ⟨(Lib.decDigits m).toArray⟩,ZcU]; have:(⟨#[45]⟩:ByteArray).size=1:=rfl; omega) (ZnX [45] (Lib.decDigits m))) ?_
  refine xr 1 [(1, .p 1 0),(2, .p 2 0),(3, .v (.string ⟨(45 :: Lib.decDigits m).toArray⟩))] [(2,24,[.v (.string ⟨#[]⟩), .v (.int .i64 0)]),(1,79,[.v (.bool s), .v (.slice A l c), .v (.int .i64 e)])] ?_
  refine xe (Zab (Zac (Zaa (xq 5 [] [(2,24,[.v (.string ⟨(45 :: Lib.decDigits m).toArray⟩), .v (.int .i64 e)])] ?_))))
  refine xe (Zab (Zai ?_))
  refine Zag (v:=.agg #[.string ⟨(45 :: Lib.decDigits m).toArray⟩, .int .i64 e]) (by kernel_rfl) (fun w' R Q=>?_)
  exact ⟨by rw [hs1,Zgu (neg:=true) (a:=m) (fun h=>by have:=hs hs1; omega)]; rfl,R⟩
 ·have hs1:=hb10
  refine Zam (Zab (Zac (Zaa (xq 5 [] [(2,24,[.v (.string ⟨(Lib.decDigits m).toArray⟩), .v (.int .i64 e)])] ?_))))
  refine xe (Zab (Zai ?_))
  refine Zag (v:=.agg #[.string ⟨(Lib.decDigits m).toArray⟩, .int .i64 e]) (by kernel_rfl) (fun w' R Q=>?_)
  exact ⟨by rw [hs1,Zgu (neg:=false) (a:=m) (fun _=>rfl)]; rfl,R⟩
theorem Zc7 (r:FR) (A:Option Addr) (l c:Nat) (w:World) (hg:Glob w) (hN:Zae w (.slice A l c) r.m) (hF:Fine r) :
 Calls Tryz.prog 56 #[.agg #[.bool r.s, .slice A l c, .int .i64 r.e], .int .i64 r.err] w (Zcj w r):=by
 refine Zau (Φ:=fun w=>(Glob w∧Zae w (.slice A l c) (r.m))) Tryz.func56 rfl (by kernel_rfl) (fun w' hf=>⟨hg.ext hf,hN.ext hf⟩) ?_
 refine Zac (Zaa (xq 3 [(2, .p 2 0),(4, .p 4 0),(5, .v (.int .i64 0))] [(4,24,[.v (.string ⟨#[]⟩), .v (.int .i64 0)]),(2,79,[.v (.bool r.s), .v (.slice A l c), .v (.int .i64 r.e)])] ?_))
 refine xe (Zab (Zac (Zac (Zaa (xq 2 [(7, .v (.bool ((r.err:Int) != 0)))] [] ?_)))))
 refine xe (Zab ?_)
 refine Zas (((r.err:Int) != 0)) (by kernel_rfl) (fun hb10=>?_) (fun hb10=>?_)
 ·have hb10':=Zf0 hb10
  refine Zac (Zaa (xq 4 [(5, .v (.int .i64 r.err))] [] ?_))
  refine xe (Zab (Zai (Zah ?_)))
  refine Zag (v:=.tuple #[.agg #[.string ⟨#[]⟩, .int .i64 0], .int .i64 r.err]) (by kernel_rfl) (fun w' R Q=>?_)
  exact ⟨by rw [show frT r=[] from if_neg (by omega),show frE r=0 from if_neg (by omega)],R⟩
 ·have hb10':=Zf1 hb10
  refine Zam (Zab (Zac (Zaa (xq 1 [(10, .v (.agg #[.bool r.s, .slice A l c, .int .i64 r.e]))] [] ?_))))
  refine xqc 97 [.agg #[.bool r.s, .slice A l c, .int .i64 r.e]] 11 (fun _:Unit=>.agg #[.string ⟨(Lib.itoa (sg r.s r.m)).toArray⟩, .int .i64 r.e]) _ (fun w R Q=>(Zj9 r.s A l c r.m r.e _ Q.1 Q.2 hF.2 hF.1).mono (fun _ _ h=>Zak h rfl)) (fun xx=>?_)
  refine xq 2 [(5, .v (.int .i64 0))] [(4,24,[.v (.string ⟨(Lib.itoa (sg r.s r.m)).toArray⟩), .v (.int .i64 r.e)])] ?_
  refine xe (Zab (Zai ?_))
  refine Zag (v:=.tuple #[.agg #[.string ⟨(Lib.itoa (sg r.s r.m)).toArray⟩, .int .i64 r.e], .int .i64 0]) (by kernel_rfl) (fun w' R Q=>?_)
  have he0:r.err=0:=by omega
  exact ⟨by rw [show frT r=Lib.itoa (sg r.s r.m) from if_pos he0,show frE r=r.e from if_pos he0,he0],R⟩
theorem Zmx (s:ByteArray) (x:Int) (w:World) (hs:(bytes s).length≤100000) :
 Calls Tryz.prog 20 #[.agg #[.string s, .int .i64 x]] w (RetV w (.int .i64 ((blen (ldR (bytes s) x).m:Nat):Int))):=by
 refine Zau (Φ:=fun w=>True) Tryz.func20 rfl (by kernel_rfl) (fun w' hf=>trivial) ?_
 refine Zac (Zaa (xq 2 [(1, .p 1 0),(2, .v (.int .i64 0))] [(1,24,[.v (.string s), .v (.int .i64 x)])] ?_))
 refine xe (Zab (Zac (Zaa (xq 1 [(6, .v (.agg #[.string s, .int .i64 x]))] [] ?_))))
 by_cases hv:fvB (bytes s) x=true
 ·obtain ⟨r10,hr10⟩:∃ r,ldR (bytes s) x=r:=⟨_,rfl⟩
  have hfv:=ZbG hv
  have hwl:wl r10.m≤100000:=by rw [← hr10]; exact ZdA hs
  have hre:r10.e=x:=by rw [← hr10,show ldR (bytes s) x=_ from if_pos hv]
  have hrs:r10.s=true→0 < r10.m:=by rw [← hr10,show ldR (bytes s) x=_ from if_pos hv]; exact hfv.2.2.2
  refine xqc 64 [.agg #[.string s, .int .i64 x]] 7 (shLd true r10) _ (fun w R Q=>((show Calls _ _ _ _ (Zbt w true r10) from by rw [← hr10,← hv]; exact ZaM s x _ hs)).mono (fun _ _=>Za7)) (fun xx=>?_)
  obtain ⟨A10,l10,c10⟩:=xx
  refine xq 6 [(3, .p 3 0)] [(3,79,[.v (.bool r10.s), .v (.slice A10 l10 c10), .v (.int .i64 r10.e)])] ?_
  refine xe (Zab (Zac (Zaa (xq 2 [eS1 11 A10 l10 c10] [] ?_))))
  refine xqc 65 [.slice A10 l10 c10] 12 (fun _:Unit=>.int .i64 ((blen r10.m:Nat):Int)) _ (fun w R Q=>(ZbK Q.2 (by omega)).mono (fun _ _ h=>Zak h rfl)) (fun xx=>?_)
  refine xq 1 [(2, .v (.int .i64 ((blen r10.m:Nat):Int)))] [] ?_
  refine xe (Zab (Zai ?_))
  refine Zag (v:=.int .i64 ((blen r10.m:Nat):Int)) (by kernel_rfl) (fun w' R Q=>?_)
  exact ⟨by rw [hr10],R⟩
 ·obtain ⟨r11,hr11⟩:∃ r,ldR (bytes s) x=r:=⟨_,rfl⟩
  refine xqc 64 [.agg #[.string s, .int .i64 x]] 7 (shLd false r11) _ (fun w R Q=>((show Calls _ _ _ _ (Zbt w false r11) from by rw [← hr11,← Bool.eq_false_iff.2 hv]; exact ZaM s x _ hs)).mono (fun _ _=>Za7)) (fun xx=>?_)
  obtain ⟨A11,l11,c11⟩:=xx
  refine xq 6 [(3, .p 3 0)] [(3,79,[.v (.bool r11.s), .v (.slice A11 l11 c11), .v (.int .i64 r11.e)])] ?_
  refine xe (Zab (Zac (Zaa (xq 2 [eS1 11 A11 l11 c11] [] ?_))))
  refine xqc 65 [.slice A11 l11 c11] 12 (fun _:Unit=>.int .i64 ((blen r11.m:Nat):Int)) _ (fun w R Q=>(ZbK Q.2 (by rw [← hr11,show ldR (bytes s) x=_ from if_neg hv]; decide)).mono (fun _ _ h=>Zak h rfl)) (fun xx=>?_)
  refine xq 1 [(2, .v (.int .i64 ((blen r11.m:Nat):Int)))] [] ?_
  refine xe (Zab (Zai ?_))
  refine Zag (v:=.int .i64 ((blen r11.m:Nat):Int)) (by kernel_rfl) (fun w' R Q=>?_)
  exact ⟨by rw [hr11],R⟩
def fshR (l:List UInt8) (x k:Int):FR:=if fvB l x=true then ZbP (ldR l x).s (ldR l x).m (ldR l x).e k else ⟨false,0,0,1⟩
def binR (op:FR→FR→Nat→FR) (l l':List UInt8) (x y b:Int):FR:=if fvB l x=true∧fvB l' y=true then (if 8≤b∧b≤1024 then op (ldR l x) (ldR l' y) b.toNat else ⟨false,0,0,3⟩) else ⟨false,0,0,1⟩
def ZcI (a b:FR) (bits:Nat):FR:=sumR a.s a.m a.e b.s b.m b.e bits
def Zdc (a b:FR) (bits:Nat):FR:=ZaO (a.s != b.s) (a.m * b.m) 1 (a.e + b.e) bits
def ZcJ (a b:FR) (bits:Nat):FR:=Zgr (a.s != b.s) a.m b.m (a.e - b.e) bits
theorem ZhE (s:ByteArray) (x k:Int) (w:World) (hg:Glob w) (hs:(bytes s).length≤100000) :
 Calls Tryz.prog 33 #[.agg #[.string s, .int .i64 x], .int .i64 k] w (Zcj w (fshR (bytes s) x k)):=by
 refine Zau (Φ:=fun w=>Glob w) Tryz.func33 rfl (by kernel_rfl) (fun w' hf=>hg.ext hf) ?_
 refine Zac (Zaa (xq 3 [(2, .p 2 0),(4, .p 4 0),(5, .v (.int .i64 0))] [(4,24,[.v (.string ⟨#[]⟩), .v (.int .i64 0)]),(2,24,[.v (.string s), .v (.int .i64 x)])] ?_))
 refine xe (Zab (Zac (Zaa (xq 1 [(9, .v (.agg #[.string s, .int .i64 x]))] [] ?_))))
 by_cases hv:fvB (bytes s) x=true
 ·obtain ⟨r10,hr10⟩:∃ r,ldR (bytes s) x=r:=⟨_,rfl⟩
  have hfv:=ZbG hv
  have hwl:wl r10.m≤100000:=by rw [← hr10]; exact ZdA hs
  have hre:r10.e=x:=by rw [← hr10,show ldR (bytes s) x=_ from if_pos hv]
  have hrs:r10.s=true→0 < r10.m:=by rw [← hr10,show ldR (bytes s) x=_ from if_pos hv]; exact hfv.2.2.2
  refine xqc 64 [.agg #[.string s, .int .i64 x]] 10 (shLd true r10) _ (fun w R Q=>((show Calls _ _ _ _ (Zbt w true r10) from by rw [← hr10,← hv]; exact ZaM s x _ hs)).mono (fun _ _=>Za7)) (fun xx=>?_)
  obtain ⟨A10,l10,c10⟩:=xx
  refine xq 6 [(6, .p 6 0),(7, .v (.bool true))] [(6,79,[.v (.bool r10.s), .v (.slice A10 l10 c10), .v (.int .i64 r10.e)])] ?_
  refine xe (Zab (Zac (Zac (Zaa (xq 2 [(14, .v (.bool false))] [] ?_)))))
  refine xe (Zab (xb (Zam (Zab (Zac (Zaa (xq 2 [(16, .v (.agg #[.bool r10.s, .slice A10 l10 c10, .int .i64 r10.e])),(17, .v (.int .i64 k))] [] ?_)))))))
  obtain ⟨r11,hr11⟩:∃ r,ZbP r10.s r10.m r10.e k=r:=⟨_,rfl⟩
  refine xqc 78 [.agg #[.bool r10.s, .slice A10 l10 c10, .int .i64 r10.e], .int .i64 k] 18 (shNb r11) _ (fun w R Q=>((show Calls _ _ _ _ (ZaN w r11) from by rw [← hr11]; exact ZjZ _ _ _ _ _ _ k _ Q.1 Q.2 (by omega) (by omega) (by omega))).mono (fun _ _=>ZaK)) (fun xx=>?_)
  obtain ⟨A11,l11,c11⟩:=xx
  refine xq 2 [(19, .v (.agg #[.bool r11.s, .slice A11 l11 c11, .int .i64 r11.e])),(20, .v (.int .i64 r11.err))] [] ?_
  refine xqc 56 [.agg #[.bool r11.s, .slice A11 l11 c11, .int .i64 r11.e], .int .i64 r11.err] 21 (fun _:Unit=>.tuple #[.agg #[.string ⟨(frT r11).toArray⟩, .int .i64 (frE r11)], .int .i64 r11.err]) _ (fun w R Q=>(Zc7 r11 A11 l11 c11 _ Q.1.1 Q.2 (by rw [← hr11]; exact Zlj hrs (by omega))).mono (fun _ _ h=>Zak h rfl)) (fun xx=>?_)
  refine xq 4 [(5, .v (.int .i64 r11.err))] [(4,24,[.v (.string ⟨(frT r11).toArray⟩), .v (.int .i64 (frE r11))])] ?_
  refine xe (Zab (Zai ?_))
  refine Zag (v:=.tuple #[.agg #[.string ⟨(frT r11).toArray⟩, .int .i64 (frE r11)], .int .i64 r11.err]) (by kernel_rfl) (fun w' R Q=>?_)
  rw [show fshR (bytes s) x k=ZbP (ldR (bytes s) x).s (ldR (bytes s) x).m (ldR (bytes s) x).e k from if_pos hv,hr10,hr11]
  exact ⟨rfl,R⟩
 ·obtain ⟨r12,hr12⟩:∃ r,ldR (bytes s) x=r:=⟨_,rfl⟩
  refine xqc 64 [.agg #[.string s, .int .i64 x]] 10 (shLd false r12) _ (fun w R Q=>((show Calls _ _ _ _ (Zbt w false r12) from by rw [← hr12,← Bool.eq_false_iff.2 hv]; exact ZaM s x _ hs)).mono (fun _ _=>Za7)) (fun xx=>?_)
  obtain ⟨A12,l12,c12⟩:=xx
  refine xq 6 [(6, .p 6 0),(7, .v (.bool false))] [(6,79,[.v (.bool r12.s), .v (.slice A12 l12 c12), .v (.int .i64 r12.e)])] ?_
  refine xe (Zab (Zac (Zac (Zaa (xq 2 [(14, .v (.bool true))] [] ?_)))))
  refine xe (Zab (xa (Zac (Zaa (xq 3 [(5, .v (.int .i64 1))] [] ?_)))))
  refine xe (Zab (Zai (Zah ?_)))
  refine Zag (v:=.tuple #[.agg #[.string ⟨#[]⟩, .int .i64 0], .int .i64 1]) (by kernel_rfl) (fun w' R Q=>?_)
  rw [show fshR (bytes s) x k=⟨false,0,0,1⟩ from if_neg hv]
  exact ⟨rfl,R⟩
theorem ZiD (s t:ByteArray) (x y b:Int) (w:World) (hg:Glob w) (hs:(bytes s).length≤100000) (hs2:(bytes t).length≤100000) :
 Calls Tryz.prog 81 #[.agg #[.string s, .int .i64 x], .agg #[.string t, .int .i64 y], .int .i64 b, .func (.func 84) #[] #[]] w (Zcj w (binR ZcI (bytes s) (bytes t) x y b)):=by
 refine Zau (Φ:=fun w=>Glob w) Tryz.func81 rfl (by kernel_rfl) (fun w' hf=>hg.ext hf) ?_
 refine Zac (Zaa (xq 4 [(4, .p 4 0),(5, .p 5 0),(8, .p 8 0),(9, .v (.int .i64 0))] [(8,24,[.v (.string ⟨#[]⟩), .v (.int .i64 0)]),(5,24,[.v (.string t), .v (.int .i64 y)]),(4,24,[.v (.string s), .v (.int .i64 x)])] ?_))
 refine xe (Zab (Zac (Zaa (xq 1 [(15, .v (.agg #[.string s, .int .i64 x]))] [] ?_))))
 by_cases hv:fvB (bytes s) x=true
 ·obtain ⟨r10,hr10⟩:∃ r,ldR (bytes s) x=r:=⟨_,rfl⟩
  have hfv:=ZbG hv
  have hwl:wl r10.m≤100000:=by rw [← hr10]; exact ZdA hs
  have hre:r10.e=x:=by rw [← hr10,show ldR (bytes s) x=_ from if_pos hv]
  have hrs:r10.s=true→0 < r10.m:=by rw [← hr10,show ldR (bytes s) x=_ from if_pos hv]; exact hfv.2.2.2
  refine xqc 64 [.agg #[.string s, .int .i64 x]] 16 (shLd true r10) _ (fun w R Q=>((show Calls _ _ _ _ (Zbt w true r10) from by rw [← hr10,← hv]; exact ZaM s x _ hs)).mono (fun _ _=>Za7)) (fun xx=>?_)
  obtain ⟨A10,l10,c10⟩:=xx
  refine xq 6 [(10, .p 10 0),(11, .v (.bool true))] [(10,79,[.v (.bool r10.s), .v (.slice A10 l10 c10), .v (.int .i64 r10.e)])] ?_
  refine xe (Zab (Zac (Zaa (xq 1 [(20, .v (.agg #[.string t, .int .i64 y]))] [] ?_))))
  by_cases hv2:fvB (bytes t) y=true
  ·obtain ⟨r11,hr11⟩:∃ r,ldR (bytes t) y=r:=⟨_,rfl⟩
   have hfv2:=ZbG hv2
   have hwl2:wl r11.m≤100000:=by rw [← hr11]; exact ZdA hs2
   have hre2:r11.e=y:=by rw [← hr11,show ldR (bytes t) y=_ from if_pos hv2]
   have hrs2:r11.s=true→0 < r11.m:=by rw [← hr11,show ldR (bytes t) y=_ from if_pos hv2]; exact hfv2.2.2.2
   refine xqc 64 [.agg #[.string t, .int .i64 y]] 21 (shLd true r11) _ (fun w R Q=>((show Calls _ _ _ _ (Zbt w true r11) from by rw [← hr11,← hv2]; exact ZaM t y _ hs2)).mono (fun _ _=>Za7)) (fun xx=>?_)
   obtain ⟨A11,l11,c11⟩:=xx
   refine xq 6 [(12, .p 12 0),(13, .v (.bool true))] [(12,79,[.v (.bool r11.s), .v (.slice A11 l11 c11), .v (.int .i64 r11.e)])] ?_
   refine xe (Zab (Zac (Zac (Zaa (xq 6 [(29, .v (.bool false))] [] ?_)))))
   refine xe (Zab (xb (Zam (Zab (Zac (Zac ?_))))))
   by_cases hb:8≤b∧b≤1024
   ·obtain ⟨n,hn⟩:∃ n:Nat,b=n:=⟨b.toNat,by omega⟩
    subst hn
    refine Zaa (xq 1 [(31, .v (.int .i64 ((n:Nat):Int)))] [] ?_)
    refine xqc 55 [.int .i64 ((n:Nat):Int)] 32 (fun _:Unit=>.bool true) _ (fun w R Q=>(Zb1 _ _).mono (fun _ _ h=>Zak h (by rw [decide_eq_true hb]))) (fun xx=>?_)
    refine xq 1 [(33, .v (.bool false))] [] ?_
    refine xe (Zab (xb (Zam (Zab (Zac (Zaa (xq 4 [(35, .v (.func (.func 84) #[] #[])),(36, .v (.agg #[.bool r10.s, .slice A10 l10 c10, .int .i64 r10.e])),(37, .v (.agg #[.bool r11.s, .slice A11 l11 c11, .int .i64 r11.e])),(38, .v (.int .i64 ((n:Nat):Int)))] [] ?_)))))))
    obtain ⟨r12,hr12⟩:∃ r,ZcI r10 r11 n=r:=⟨_,rfl⟩
    refine xqc 84 [.agg #[.bool r10.s, .slice A10 l10 c10, .int .i64 r10.e], .agg #[.bool r11.s, .slice A11 l11 c11, .int .i64 r11.e], .int .i64 ((n:Nat):Int)] 39 (shNb r12) _ (fun w R Q=>((show Calls _ _ _ _ (ZaN w r12) from by rw [← hr12]; exact Zmd _ _ _ _ _ _ _ _ _ _ _ _ n (by omega) (by omega) _ Q.1.1.1 Q.1.1.2 (by omega) (by omega) (by omega) Q.1.2 (by omega) (by omega) (by omega))).mono (fun _ _=>ZaK)) (fun xx=>?_)
    obtain ⟨A12,l12,c12⟩:=xx
    refine xq 2 [(40, .v (.agg #[.bool r12.s, .slice A12 l12 c12, .int .i64 r12.e])),(41, .v (.int .i64 r12.err))] [] ?_
    refine xqc 56 [.agg #[.bool r12.s, .slice A12 l12 c12, .int .i64 r12.e], .int .i64 r12.err] 42 (fun _:Unit=>.tuple #[.agg #[.string ⟨(frT r12).toArray⟩, .int .i64 (frE r12)], .int .i64 r12.err]) _ (fun w R Q=>(Zc7 r12 A12 l12 c12 _ Q.1.1.1.1 Q.2 (by rw [← hr12]; exact Znh (by omega) (by omega))).mono (fun _ _ h=>Zak h rfl)) (fun xx=>?_)
    refine xq 4 [(9, .v (.int .i64 r12.err))] [(8,24,[.v (.string ⟨(frT r12).toArray⟩), .v (.int .i64 (frE r12))])] ?_
    refine xe (Zab (Zai ?_))
    refine Zag (v:=.tuple #[.agg #[.string ⟨(frT r12).toArray⟩, .int .i64 (frE r12)], .int .i64 r12.err]) (by kernel_rfl) (fun w' R Q=>?_)
    rw [show binR ZcI (bytes s) (bytes t) x y ((n:Nat):Int)=ZcI (ldR (bytes s) x) (ldR (bytes t) y) n from by unfold binR; rw [if_pos ⟨hv,hv2⟩,if_pos hb]; rfl,hr10,hr11,hr12]
    exact ⟨rfl,R⟩
   ·refine Zaa (xq 1 [(31, .v (.int .i64 b))] [] ?_)
    refine xqc 55 [.int .i64 b] 32 (fun _:Unit=>.bool false) _ (fun w R Q=>(Zb1 _ _).mono (fun _ _ h=>Zak h (by rw [decide_eq_false hb]))) (fun xx=>?_)
    refine xq 1 [(33, .v (.bool true))] [] ?_
    refine xe (Zab (xa (Zac (Zaa (xq 3 [(9, .v (.int .i64 3))] [] ?_)))))
    refine xe (Zab (Zai (Zah ?_)))
    refine Zag (v:=.tuple #[.agg #[.string ⟨#[]⟩, .int .i64 0], .int .i64 3]) (by kernel_rfl) (fun w' R Q=>?_)
    rw [show binR ZcI (bytes s) (bytes t) x y b=⟨false,0,0,3⟩ from by unfold binR; rw [if_pos ⟨hv,hv2⟩,if_neg hb]]
    exact ⟨rfl,R⟩
  ·obtain ⟨r13,hr13⟩:∃ r,ldR (bytes t) y=r:=⟨_,rfl⟩
   refine xqc 64 [.agg #[.string t, .int .i64 y]] 21 (shLd false r13) _ (fun w R Q=>((show Calls _ _ _ _ (Zbt w false r13) from by rw [← hr13,← Bool.eq_false_iff.2 hv2]; exact ZaM t y _ hs2)).mono (fun _ _=>Za7)) (fun xx=>?_)
   obtain ⟨A13,l13,c13⟩:=xx
   refine xq 6 [(12, .p 12 0),(13, .v (.bool false))] [(12,79,[.v (.bool r13.s), .v (.slice A13 l13 c13), .v (.int .i64 r13.e)])] ?_
   refine xe (Zab (Zac (Zac (Zaa (xq 6 [(29, .v (.bool true))] [] ?_)))))
   refine xe (Zab (xa (Zac (Zaa (xq 3 [(9, .v (.int .i64 1))] [] ?_)))))
   refine xe (Zab (Zai (Zah ?_)))
   refine Zag (v:=.tuple #[.agg #[.string ⟨#[]⟩, .int .i64 0], .int .i64 1]) (by kernel_rfl) (fun w' R Q=>?_)
   rw [show binR ZcI (bytes s) (bytes t) x y b=⟨false,0,0,1⟩ from if_neg (fun h=>hv2 h.2)]
   exact ⟨rfl,R⟩
 ·obtain ⟨r14,hr14⟩:∃ r,ldR (bytes s) x=r:=⟨_,rfl⟩
  refine xqc 64 [.agg #[.string s, .int .i64 x]] 16 (shLd false r14) _ (fun w R Q=>((show Calls _ _ _ _ (Zbt w false r14) from by rw [← hr14,← Bool.eq_false_iff.2 hv]; exact ZaM s x _ hs)).mono (fun _ _=>Za7)) (fun xx=>?_)
  obtain ⟨A14,l14,c14⟩:=xx
  refine xq 6 [(10, .p 10 0),(11, .v (.bool false))] [(10,79,[.v (.bool r14.s), .v (.slice A14 l14 c14), .v (.int .i64 r14.e)])] ?_
  refine xe (Zab (Zac (Zaa (xq 1 [(20, .v (.agg #[.string t, .int .i64 y]))] [] ?_))))
  by_cases hv2:fvB (bytes t) y=true
  ·obtain ⟨r15,hr15⟩:∃ r,ldR (bytes t) y=r:=⟨_,rfl⟩
   have hfv2:=ZbG hv2
   have hwl2:wl r15.m≤100000:=by rw [← hr15]; exact ZdA hs2
   have hre2:r15.e=y:=by rw [← hr15,show ldR (bytes t) y=_ from if_pos hv2]
   have hrs2:r15.s=true→0 < r15.m:=by rw [← hr15,show ldR (bytes t) y=_ from if_pos hv2]; exact hfv2.2.2.2
   refine xqc 64 [.agg #[.string t, .int .i64 y]] 21 (shLd true r15) _ (fun w R Q=>((show Calls _ _ _ _ (Zbt w true r15) from by rw [← hr15,← hv2]; exact ZaM t y _ hs2)).mono (fun _ _=>Za7)) (fun xx=>?_)
   obtain ⟨A15,l15,c15⟩:=xx
   refine xq 6 [(12, .p 12 0),(13, .v (.bool true))] [(12,79,[.v (.bool r15.s), .v (.slice A15 l15 c15), .v (.int .i64 r15.e)])] ?_
   refine xe (Zab (Zac (Zac (Zaa (xq 6 [(29, .v (.bool true))] [] ?_)))))
   refine xe (Zab (xa (Zac (Zaa (xq 3 [(9, .v (.int .i64 1))] [] ?_)))))
   refine xe (Zab (Zai (Zah ?_)))
   refine Zag (v:=.tuple #[.agg #[.string ⟨#[]⟩, .int .i64 0], .int .i64 1]) (by kernel_rfl) (fun w' R Q=>?_)
   rw [show binR ZcI (bytes s) (bytes t) x y b=⟨false,0,0,1⟩ from if_neg (fun h=>hv h.1)]
   exact ⟨rfl,R⟩
  ·obtain ⟨r16,hr16⟩:∃ r,ldR (bytes t) y=r:=⟨_,rfl⟩
   refine xqc 64 [.agg #[.string t, .int .i64 y]] 21 (shLd false r16) _ (fun w R Q=>((show Calls _ _ _ _ (Zbt w false r16) from by rw [← hr16,← Bool.eq_false_iff.2 hv2]; exact ZaM t y _ hs2)).mono (fun _ _=>Za7)) (fun xx=>?_)
   obtain ⟨A16,l16,c16⟩:=xx
   refine xq 6 [(12, .p 12 0),(13, .v (.bool false))] [(12,79,[.v (.bool r16.s), .v (.slice A16 l16 c16), .v (.int .i64 r16.e)])] ?_
   refine xe (Zab (Zac (Zac (Zaa (xq 6 [(29, .v (.bool true))] [] ?_)))))
   refine xe (Zab (xa (Zac (Zaa (xq 3 [(9, .v (.int .i64 1))] [] ?_)))))
   refine xe (Zab (Zai (Zah ?_)))
   refine Zag (v:=.tuple #[.agg #[.string ⟨#[]⟩, .int .i64 0], .int .i64 1]) (by kernel_rfl) (fun w' R Q=>?_)
   rw [show binR ZcI (bytes s) (bytes t) x y b=⟨false,0,0,1⟩ from if_neg (fun h=>hv h.1)]
   exact ⟨rfl,R⟩
theorem ZjC (s t:ByteArray) (x y b:Int) (w:World) (hg:Glob w) (hs:(bytes s).length≤100000) (hs2:(bytes t).length≤100000) :
 Calls Tryz.prog 46 #[.agg #[.string s, .int .i64 x], .agg #[.string t, .int .i64 y], .int .i64 b] w (Zcj w (binR ZcI (bytes s) (bytes t) x y b)):=by
 obtain ⟨r,hr⟩:∃ r,binR ZcI (bytes s) (bytes t) x y b=r:=⟨_,rfl⟩
 rw [hr]
 refine Zau (Φ:=fun w=>Glob w) Tryz.func46 rfl (by kernel_rfl) (fun w' hf=>hg.ext hf) ?_
 refine Zac (Zaa (xq 4 [(3, .p 3 0),(4, .p 4 0),(6, .p 6 0),(7, .v (.int .i64 0))] [(6,24,[.v (.string ⟨#[]⟩), .v (.int .i64 0)]),(4,24,[.v (.string t), .v (.int .i64 y)]),(3,24,[.v (.string s), .v (.int .i64 x)])] ?_))
 refine xe (Zab (Zac (Zaa (xq 3 [(8, .v (.agg #[.string s, .int .i64 x])),(9, .v (.agg #[.string t, .int .i64 y])),(10, .v (.int .i64 b))] [] ?_))))
 refine xqc 81 [.agg #[.string s, .int .i64 x], .agg #[.string t, .int .i64 y], .int .i64 b, .func (.func 84) #[] #[]] 11 (fun _:Unit=>.tuple #[.agg #[.string ⟨(frT r).toArray⟩, .int .i64 (frE r)], .int .i64 r.err]) _ (fun w R Q=>((show Calls _ _ _ _ (Zcj w r) from by rw [← hr]; exact ZiD s t x y b _ Q hs hs2)).mono (fun _ _ h=>Zak h rfl)) (fun xx=>?_)
 refine xq 4 [(7, .v (.int .i64 r.err))] [(6,24,[.v (.string ⟨(frT r).toArray⟩), .v (.int .i64 (frE r))])] ?_
 refine xe (Zab (Zai ?_))
 refine Zag (v:=.tuple #[.agg #[.string ⟨(frT r).toArray⟩, .int .i64 (frE r)], .int .i64 r.err]) (by kernel_rfl) (fun w' R Q=>?_)
 exact ⟨rfl,R⟩
theorem ZiE (s t:ByteArray) (x y b:Int) (w:World) (hg:Glob w) (hs:(bytes s).length≤100000) (hs2:(bytes t).length≤100000) :
 Calls Tryz.prog 81 #[.agg #[.string s, .int .i64 x], .agg #[.string t, .int .i64 y], .int .i64 b, .func (.func 82) #[] #[]] w (Zcj w (binR Zdc (bytes s) (bytes t) x y b)):=by
 refine Zau (Φ:=fun w=>Glob w) Tryz.func81 rfl (by kernel_rfl) (fun w' hf=>hg.ext hf) ?_
 refine Zac (Zaa (xq 4 [(4, .p 4 0),(5, .p 5 0),(8, .p 8 0),(9, .v (.int .i64 0))] [(8,24,[.v (.string ⟨#[]⟩), .v (.int .i64 0)]),(5,24,[.v (.string t), .v (.int .i64 y)]),(4,24,[.v (.string s), .v (.int .i64 x)])] ?_))
 refine xe (Zab (Zac (Zaa (xq 1 [(15, .v (.agg #[.string s, .int .i64 x]))] [] ?_))))
 by_cases hv:fvB (bytes s) x=true
 ·obtain ⟨r10,hr10⟩:∃ r,ldR (bytes s) x=r:=⟨_,rfl⟩
  have hfv:=ZbG hv
  have hwl:wl r10.m≤100000:=by rw [← hr10]; exact ZdA hs
  have hre:r10.e=x:=by rw [← hr10,show ldR (bytes s) x=_ from if_pos hv]
  have hrs:r10.s=true→0 < r10.m:=by rw [← hr10,show ldR (bytes s) x=_ from if_pos hv]; exact hfv.2.2.2
  refine xqc 64 [.agg #[.string s, .int .i64 x]] 16 (shLd true r10) _ (fun w R Q=>((show Calls _ _ _ _ (Zbt w true r10) from by rw [← hr10,← hv]; exact ZaM s x _ hs)).mono (fun _ _=>Za7)) (fun xx=>?_)
  obtain ⟨A10,l10,c10⟩:=xx
  refine xq 6 [(10, .p 10 0),(11, .v (.bool true))] [(10,79,[.v (.bool r10.s), .v (.slice A10 l10 c10), .v (.int .i64 r10.e)])] ?_
  refine xe (Zab (Zac (Zaa (xq 1 [(20, .v (.agg #[.string t, .int .i64 y]))] [] ?_))))
  by_cases hv2:fvB (bytes t) y=true
  ·obtain ⟨r11,hr11⟩:∃ r,ldR (bytes t) y=r:=⟨_,rfl⟩
   have hfv2:=ZbG hv2
   have hwl2:wl r11.m≤100000:=by rw [← hr11]; exact ZdA hs2
   have hre2:r11.e=y:=by rw [← hr11,show ldR (bytes t) y=_ from if_pos hv2]
   have hrs2:r11.s=true→0 < r11.m:=by rw [← hr11,show ldR (bytes t) y=_ from if_pos hv2]; exact hfv2.2.2.2
   refine xqc 64 [.agg #[.string t, .int .i64 y]] 21 (shLd true r11) _ (fun w R Q=>((show Calls _ _ _ _ (Zbt w true r11) from by rw [← hr11,← hv2]; exact ZaM t y _ hs2)).mono (fun _ _=>Za7)) (fun xx=>?_)
   obtain ⟨A11,l11,c11⟩:=xx
   refine xq 6 [(12, .p 12 0),(13, .v (.bool true))] [(12,79,[.v (.bool r11.s), .v (.slice A11 l11 c11), .v (.int .i64 r11.e)])] ?_
   refine xe (Zab (Zac (Zac (Zaa (xq 6 [(29, .v (.bool false))] [] ?_)))))
   refine xe (Zab (xb (Zam (Zab (Zac (Zac ?_))))))
   by_cases hb:8≤b∧b≤1024
   ·obtain ⟨n,hn⟩:∃ n:Nat,b=n:=⟨b.toNat,by omega⟩
    subst hn
    refine Zaa (xq 1 [(31, .v (.int .i64 ((n:Nat):Int)))] [] ?_)
    refine xqc 55 [.int .i64 ((n:Nat):Int)] 32 (fun _:Unit=>.bool true) _ (fun w R Q=>(Zb1 _ _).mono (fun _ _ h=>Zak h (by rw [decide_eq_true hb]))) (fun xx=>?_)
    refine xq 1 [(33, .v (.bool false))] [] ?_
    refine xe (Zab (xb (Zam (Zab (Zac (Zaa (xq 4 [(35, .v (.func (.func 82) #[] #[])),(36, .v (.agg #[.bool r10.s, .slice A10 l10 c10, .int .i64 r10.e])),(37, .v (.agg #[.bool r11.s, .slice A11 l11 c11, .int .i64 r11.e])),(38, .v (.int .i64 ((n:Nat):Int)))] [] ?_)))))))
    obtain ⟨r12,hr12⟩:∃ r,Zdc r10 r11 n=r:=⟨_,rfl⟩
    refine xqc 82 [.agg #[.bool r10.s, .slice A10 l10 c10, .int .i64 r10.e], .agg #[.bool r11.s, .slice A11 l11 c11, .int .i64 r11.e], .int .i64 ((n:Nat):Int)] 39 (shNb r12) _ (fun w R Q=>((show Calls _ _ _ _ (ZaN w r12) from by rw [← hr12]; exact Zmb _ _ _ _ _ _ _ _ _ _ _ _ n (by omega) (by omega) _ Q.1.1.1 Q.1.1.2 (by omega) (by omega) (by omega) Q.1.2 (by omega) (by omega) (by omega))).mono (fun _ _=>ZaK)) (fun xx=>?_)
    obtain ⟨A12,l12,c12⟩:=xx
    refine xq 2 [(40, .v (.agg #[.bool r12.s, .slice A12 l12 c12, .int .i64 r12.e])),(41, .v (.int .i64 r12.err))] [] ?_
    refine xqc 56 [.agg #[.bool r12.s, .slice A12 l12 c12, .int .i64 r12.e], .int .i64 r12.err] 42 (fun _:Unit=>.tuple #[.agg #[.string ⟨(frT r12).toArray⟩, .int .i64 (frE r12)], .int .i64 r12.err]) _ (fun w R Q=>(Zc7 r12 A12 l12 c12 _ Q.1.1.1.1 Q.2 (by rw [← hr12]; exact Zdq (by decide) (by omega) (by omega))).mono (fun _ _ h=>Zak h rfl)) (fun xx=>?_)
    refine xq 4 [(9, .v (.int .i64 r12.err))] [(8,24,[.v (.string ⟨(frT r12).toArray⟩), .v (.int .i64 (frE r12))])] ?_
    refine xe (Zab (Zai ?_))
    refine Zag (v:=.tuple #[.agg #[.string ⟨(frT r12).toArray⟩, .int .i64 (frE r12)], .int .i64 r12.err]) (by kernel_rfl) (fun w' R Q=>?_)
    rw [show binR Zdc (bytes s) (bytes t) x y ((n:Nat):Int)=Zdc (ldR (bytes s) x) (ldR (bytes t) y) n from by unfold binR; rw [if_pos ⟨hv,hv2⟩,if_pos hb]; rfl,hr10,hr11,hr12]
    exact ⟨rfl,R⟩
   ·refine Zaa (xq 1 [(31, .v (.int .i64 b))] [] ?_)
    refine xqc 55 [.int .i64 b] 32 (fun _:Unit=>.bool false) _ (fun w R Q=>(Zb1 _ _).mono (fun _ _ h=>Zak h (by rw [decide_eq_false hb]))) (fun xx=>?_)
    refine xq 1 [(33, .v (.bool true))] [] ?_
    refine xe (Zab (xa (Zac (Zaa (xq 3 [(9, .v (.int .i64 3))] [] ?_)))))
    refine xe (Zab (Zai (Zah ?_)))
    refine Zag (v:=.tuple #[.agg #[.string ⟨#[]⟩, .int .i64 0], .int .i64 3]) (by kernel_rfl) (fun w' R Q=>?_)
    rw [show binR Zdc (bytes s) (bytes t) x y b=⟨false,0,0,3⟩ from by unfold binR; rw [if_pos ⟨hv,hv2⟩,if_neg hb]]
    exact ⟨rfl,R⟩
  ·obtain ⟨r13,hr13⟩:∃ r,ldR (bytes t) y=r:=⟨_,rfl⟩
   refine xqc 64 [.agg #[.string t, .int .i64 y]] 21 (shLd false r13) _ (fun w R Q=>((show Calls _ _ _ _ (Zbt w false r13) from by rw [← hr13,← Bool.eq_false_iff.2 hv2]; exact ZaM t y _ hs2)).mono (fun _ _=>Za7)) (fun xx=>?_)
   obtain ⟨A13,l13,c13⟩:=xx
   refine xq 6 [(12, .p 12 0),(13, .v (.bool false))] [(12,79,[.v (.bool r13.s), .v (.slice A13 l13 c13), .v (.int .i64 r13.e)])] ?_
   refine xe (Zab (Zac (Zac (Zaa (xq 6 [(29, .v (.bool true))] [] ?_)))))
   refine xe (Zab (xa (Zac (Zaa (xq 3 [(9, .v (.int .i64 1))] [] ?_)))))
   refine xe (Zab (Zai (Zah ?_)))
   refine Zag (v:=.tuple #[.agg #[.string ⟨#[]⟩, .int .i64 0], .int .i64 1]) (by kernel_rfl) (fun w' R Q=>?_)
   rw [show binR Zdc (bytes s) (bytes t) x y b=⟨false,0,0,1⟩ from if_neg (fun h=>hv2 h.2)]
   exact ⟨rfl,R⟩
 ·obtain ⟨r14,hr14⟩:∃ r,ldR (bytes s) x=r:=⟨_,rfl⟩
  refine xqc 64 [.agg #[.string s, .int .i64 x]] 16 (shLd false r14) _ (fun w R Q=>((show Calls _ _ _ _ (Zbt w false r14) from by rw [← hr14,← Bool.eq_false_iff.2 hv]; exact ZaM s x _ hs)).mono (fun _ _=>Za7)) (fun xx=>?_)
  obtain ⟨A14,l14,c14⟩:=xx
  refine xq 6 [(10, .p 10 0),(11, .v (.bool false))] [(10,79,[.v (.bool r14.s), .v (.slice A14 l14 c14), .v (.int .i64 r14.e)])] ?_
  refine xe (Zab (Zac (Zaa (xq 1 [(20, .v (.agg #[.string t, .int .i64 y]))] [] ?_))))
  by_cases hv2:fvB (bytes t) y=true
  ·obtain ⟨r15,hr15⟩:∃ r,ldR (bytes t) y=r:=⟨_,rfl⟩
   have hfv2:=ZbG hv2
   have hwl2:wl r15.m≤100000:=by rw [← hr15]; exact ZdA hs2
   have hre2:r15.e=y:=by rw [← hr15,show ldR (bytes t) y=_ from if_pos hv2]
   have hrs2:r15.s=true→0 < r15.m:=by rw [← hr15,show ldR (bytes t) y=_ from if_pos hv2]; exact hfv2.2.2.2
   refine xqc 64 [.agg #[.string t, .int .i64 y]] 21 (shLd true r15) _ (fun w R Q=>((show Calls _ _ _ _ (Zbt w true r15) from by rw [← hr15,← hv2]; exact ZaM t y _ hs2)).mono (fun _ _=>Za7)) (fun xx=>?_)
   obtain ⟨A15,l15,c15⟩:=xx
   refine xq 6 [(12, .p 12 0),(13, .v (.bool true))] [(12,79,[.v (.bool r15.s), .v (.slice A15 l15 c15), .v (.int .i64 r15.e)])] ?_
   refine xe (Zab (Zac (Zac (Zaa (xq 6 [(29, .v (.bool true))] [] ?_)))))
   refine xe (Zab (xa (Zac (Zaa (xq 3 [(9, .v (.int .i64 1))] [] ?_)))))
   refine xe (Zab (Zai (Zah ?_)))
   refine Zag (v:=.tuple #[.agg #[.string ⟨#[]⟩, .int .i64 0], .int .i64 1]) (by kernel_rfl) (fun w' R Q=>?_)
   rw [show binR Zdc (bytes s) (bytes t) x y b=⟨false,0,0,1⟩ from if_neg (fun h=>hv h.1)]
   exact ⟨rfl,R⟩
  ·obtain ⟨r16,hr16⟩:∃ r,ldR (bytes t) y=r:=⟨_,rfl⟩
   refine xqc 64 [.agg #[.string t, .int .i64 y]] 21 (shLd false r16) _ (fun w R Q=>((show Calls _ _ _ _ (Zbt w false r16) from by rw [← hr16,← Bool.eq_false_iff.2 hv2]; exact ZaM t y _ hs2)).mono (fun _ _=>Za7)) (fun xx=>?_)
   obtain ⟨A16,l16,c16⟩:=xx
   refine xq 6 [(12, .p 12 0),(13, .v (.bool false))] [(12,79,[.v (.bool r16.s), .v (.slice A16 l16 c16), .v (.int .i64 r16.e)])] ?_
   refine xe (Zab (Zac (Zac (Zaa (xq 6 [(29, .v (.bool true))] [] ?_)))))
   refine xe (Zab (xa (Zac (Zaa (xq 3 [(9, .v (.int .i64 1))] [] ?_)))))
   refine xe (Zab (Zai (Zah ?_)))
   refine Zag (v:=.tuple #[.agg #[.string ⟨#[]⟩, .int .i64 0], .int .i64 1]) (by kernel_rfl) (fun w' R Q=>?_)
   rw [show binR Zdc (bytes s) (bytes t) x y b=⟨false,0,0,1⟩ from if_neg (fun h=>hv h.1)]
   exact ⟨rfl,R⟩
theorem Znj (s t:ByteArray) (x y b:Int) (w:World) (hg:Glob w) (hs:(bytes s).length≤100000) (hs2:(bytes t).length≤100000) :
 Calls Tryz.prog 44 #[.agg #[.string s, .int .i64 x], .agg #[.string t, .int .i64 y], .int .i64 b] w (Zcj w (binR Zdc (bytes s) (bytes t) x y b)):=by
 obtain ⟨r,hr⟩:∃ r,binR Zdc (bytes s) (bytes t) x y b=r:=⟨_,rfl⟩
 rw [hr]
 refine Zau (Φ:=fun w=>Glob w) Tryz.func44 rfl (by kernel_rfl) (fun w' hf=>hg.ext hf) ?_
 refine Zac (Zaa (xq 4 [(3, .p 3 0),(4, .p 4 0),(6, .p 6 0),(7, .v (.int .i64 0))] [(6,24,[.v (.string ⟨#[]⟩), .v (.int .i64 0)]),(4,24,[.v (.string t), .v (.int .i64 y)]),(3,24,[.v (.string s), .v (.int .i64 x)])] ?_))
 refine xe (Zab (Zac (Zaa (xq 3 [(8, .v (.agg #[.string s, .int .i64 x])),(9, .v (.agg #[.string t, .int .i64 y])),(10, .v (.int .i64 b))] [] ?_))))
 refine xqc 81 [.agg #[.string s, .int .i64 x], .agg #[.string t, .int .i64 y], .int .i64 b, .func (.func 82) #[] #[]] 11 (fun _:Unit=>.tuple #[.agg #[.string ⟨(frT r).toArray⟩, .int .i64 (frE r)], .int .i64 r.err]) _ (fun w R Q=>((show Calls _ _ _ _ (Zcj w r) from by rw [← hr]; exact ZiE s t x y b _ Q hs hs2)).mono (fun _ _ h=>Zak h rfl)) (fun xx=>?_)
 refine xq 4 [(7, .v (.int .i64 r.err))] [(6,24,[.v (.string ⟨(frT r).toArray⟩), .v (.int .i64 (frE r))])] ?_
 refine xe (Zab (Zai ?_))
 refine Zag (v:=.tuple #[.agg #[.string ⟨(frT r).toArray⟩, .int .i64 (frE r)], .int .i64 r.err]) (by kernel_rfl) (fun w' R Q=>?_)
 exact ⟨rfl,R⟩
theorem ZiF (s t:ByteArray) (x y b:Int) (w:World) (hg:Glob w) (hs:(bytes s).length≤100000) (hs2:(bytes t).length≤100000) :
 Calls Tryz.prog 81 #[.agg #[.string s, .int .i64 x], .agg #[.string t, .int .i64 y], .int .i64 b, .func (.func 83) #[] #[]] w (Zcj w (binR ZcJ (bytes s) (bytes t) x y b)):=by
 refine Zau (Φ:=fun w=>Glob w) Tryz.func81 rfl (by kernel_rfl) (fun w' hf=>hg.ext hf) ?_
 refine Zac (Zaa (xq 4 [(4, .p 4 0),(5, .p 5 0),(8, .p 8 0),(9, .v (.int .i64 0))] [(8,24,[.v (.string ⟨#[]⟩), .v (.int .i64 0)]),(5,24,[.v (.string t), .v (.int .i64 y)]),(4,24,[.v (.string s), .v (.int .i64 x)])] ?_))
 refine xe (Zab (Zac (Zaa (xq 1 [(15, .v (.agg #[.string s, .int .i64 x]))] [] ?_))))
 by_cases hv:fvB (bytes s) x=true
 ·obtain ⟨r10,hr10⟩:∃ r,ldR (bytes s) x=r:=⟨_,rfl⟩
  have hfv:=ZbG hv
  have hwl:wl r10.m≤100000:=by rw [← hr10]; exact ZdA hs
  have hre:r10.e=x:=by rw [← hr10,show ldR (bytes s) x=_ from if_pos hv]
  have hrs:r10.s=true→0 < r10.m:=by rw [← hr10,show ldR (bytes s) x=_ from if_pos hv]; exact hfv.2.2.2
  refine xqc 64 [.agg #[.string s, .int .i64 x]] 16 (shLd true r10) _ (fun w R Q=>((show Calls _ _ _ _ (Zbt w true r10) from by rw [← hr10,← hv]; exact ZaM s x _ hs)).mono (fun _ _=>Za7)) (fun xx=>?_)
  obtain ⟨A10,l10,c10⟩:=xx
  refine xq 6 [(10, .p 10 0),(11, .v (.bool true))] [(10,79,[.v (.bool r10.s), .v (.slice A10 l10 c10), .v (.int .i64 r10.e)])] ?_
  refine xe (Zab (Zac (Zaa (xq 1 [(20, .v (.agg #[.string t, .int .i64 y]))] [] ?_))))
  by_cases hv2:fvB (bytes t) y=true
  ·obtain ⟨r11,hr11⟩:∃ r,ldR (bytes t) y=r:=⟨_,rfl⟩
   have hfv2:=ZbG hv2
   have hwl2:wl r11.m≤100000:=by rw [← hr11]; exact ZdA hs2
   have hre2:r11.e=y:=by rw [← hr11,show ldR (bytes t) y=_ from if_pos hv2]
   have hrs2:r11.s=true→0 < r11.m:=by rw [← hr11,show ldR (bytes t) y=_ from if_pos hv2]; exact hfv2.2.2.2
   refine xqc 64 [.agg #[.string t, .int .i64 y]] 21 (shLd true r11) _ (fun w R Q=>((show Calls _ _ _ _ (Zbt w true r11) from by rw [← hr11,← hv2]; exact ZaM t y _ hs2)).mono (fun _ _=>Za7)) (fun xx=>?_)
   obtain ⟨A11,l11,c11⟩:=xx
   refine xq 6 [(12, .p 12 0),(13, .v (.bool true))] [(12,79,[.v (.bool r11.s), .v (.slice A11 l11 c11), .v (.int .i64 r11.e)])] ?_
   refine xe (Zab (Zac (Zac (Zaa (xq 6 [(29, .v (.bool false))] [] ?_)))))
   refine xe (Zab (xb (Zam (Zab (Zac (Zac ?_))))))
   by_cases hb:8≤b∧b≤1024
   ·obtain ⟨n,hn⟩:∃ n:Nat,b=n:=⟨b.toNat,by omega⟩
    subst hn
    refine Zaa (xq 1 [(31, .v (.int .i64 ((n:Nat):Int)))] [] ?_)
    refine xqc 55 [.int .i64 ((n:Nat):Int)] 32 (fun _:Unit=>.bool true) _ (fun w R Q=>(Zb1 _ _).mono (fun _ _ h=>Zak h (by rw [decide_eq_true hb]))) (fun xx=>?_)
    refine xq 1 [(33, .v (.bool false))] [] ?_
    refine xe (Zab (xb (Zam (Zab (Zac (Zaa (xq 4 [(35, .v (.func (.func 83) #[] #[])),(36, .v (.agg #[.bool r10.s, .slice A10 l10 c10, .int .i64 r10.e])),(37, .v (.agg #[.bool r11.s, .slice A11 l11 c11, .int .i64 r11.e])),(38, .v (.int .i64 ((n:Nat):Int)))] [] ?_)))))))
    obtain ⟨r12,hr12⟩:∃ r,ZcJ r10 r11 n=r:=⟨_,rfl⟩
    refine xqc 83 [.agg #[.bool r10.s, .slice A10 l10 c10, .int .i64 r10.e], .agg #[.bool r11.s, .slice A11 l11 c11, .int .i64 r11.e], .int .i64 ((n:Nat):Int)] 39 (shNb r12) _ (fun w R Q=>((show Calls _ _ _ _ (ZaN w r12) from by rw [← hr12]; exact Zmc _ _ _ _ _ _ _ _ _ _ _ _ n (by omega) (by omega) _ Q.1.1.1 Q.1.1.2 (by omega) (by omega) (by omega) Q.1.2 (by omega) (by omega) (by omega))).mono (fun _ _=>ZaK)) (fun xx=>?_)
    obtain ⟨A12,l12,c12⟩:=xx
    refine xq 2 [(40, .v (.agg #[.bool r12.s, .slice A12 l12 c12, .int .i64 r12.e])),(41, .v (.int .i64 r12.err))] [] ?_
    refine xqc 56 [.agg #[.bool r12.s, .slice A12 l12 c12, .int .i64 r12.e], .int .i64 r12.err] 42 (fun _:Unit=>.tuple #[.agg #[.string ⟨(frT r12).toArray⟩, .int .i64 (frE r12)], .int .i64 r12.err]) _ (fun w R Q=>(Zc7 r12 A12 l12 c12 _ Q.1.1.1.1 Q.2 (by rw [← hr12]; exact Zni (by omega) (by omega))).mono (fun _ _ h=>Zak h rfl)) (fun xx=>?_)
    refine xq 4 [(9, .v (.int .i64 r12.err))] [(8,24,[.v (.string ⟨(frT r12).toArray⟩), .v (.int .i64 (frE r12))])] ?_
    refine xe (Zab (Zai ?_))
    refine Zag (v:=.tuple #[.agg #[.string ⟨(frT r12).toArray⟩, .int .i64 (frE r12)], .int .i64 r12.err]) (by kernel_rfl) (fun w' R Q=>?_)
    rw [show binR ZcJ (bytes s) (bytes t) x y ((n:Nat):Int)=ZcJ (ldR (bytes s) x) (ldR (bytes t) y) n from by unfold binR; rw [if_pos ⟨hv,hv2⟩,if_pos hb]; rfl,hr10,hr11,hr12]
    exact ⟨rfl,R⟩
   ·refine Zaa (xq 1 [(31, .v (.int .i64 b))] [] ?_)
    refine xqc 55 [.int .i64 b] 32 (fun _:Unit=>.bool false) _ (fun w R Q=>(Zb1 _ _).mono (fun _ _ h=>Zak h (by rw [decide_eq_false hb]))) (fun xx=>?_)
    refine xq 1 [(33, .v (.bool true))] [] ?_
    refine xe (Zab (xa (Zac (Zaa (xq 3 [(9, .v (.int .i64 3))] [] ?_)))))
    refine xe (Zab (Zai (Zah ?_)))
    refine Zag (v:=.tuple #[.agg #[.string ⟨#[]⟩, .int .i64 0], .int .i64 3]) (by kernel_rfl) (fun w' R Q=>?_)
    rw [show binR ZcJ (bytes s) (bytes t) x y b=⟨false,0,0,3⟩ from by unfold binR; rw [if_pos ⟨hv,hv2⟩,if_neg hb]]
    exact ⟨rfl,R⟩
  ·obtain ⟨r13,hr13⟩:∃ r,ldR (bytes t) y=r:=⟨_,rfl⟩
   refine xqc 64 [.agg #[.string t, .int .i64 y]] 21 (shLd false r13) _ (fun w R Q=>((show Calls _ _ _ _ (Zbt w false r13) from by rw [← hr13,← Bool.eq_false_iff.2 hv2]; exact ZaM t y _ hs2)).mono (fun _ _=>Za7)) (fun xx=>?_)
   obtain ⟨A13,l13,c13⟩:=xx
   refine xq 6 [(12, .p 12 0),(13, .v (.bool false))] [(12,79,[.v (.bool r13.s), .v (.slice A13 l13 c13), .v (.int .i64 r13.e)])] ?_
   refine xe (Zab (Zac (Zac (Zaa (xq 6 [(29, .v (.bool true))] [] ?_)))))
   refine xe (Zab (xa (Zac (Zaa (xq 3 [(9, .v (.int .i64 1))] [] ?_)))))
   refine xe (Zab (Zai (Zah ?_)))
   refine Zag (v:=.tuple #[.agg #[.string ⟨#[]⟩, .int .i64 0], .int .i64 1]) (by kernel_rfl) (fun w' R Q=>?_)
   rw [show binR ZcJ (bytes s) (bytes t) x y b=⟨false,0,0,1⟩ from if_neg (fun h=>hv2 h.2)]
   exact ⟨rfl,R⟩
 ·obtain ⟨r14,hr14⟩:∃ r,ldR (bytes s) x=r:=⟨_,rfl⟩
  refine xqc 64 [.agg #[.string s, .int .i64 x]] 16 (shLd false r14) _ (fun w R Q=>((show Calls _ _ _ _ (Zbt w false r14) from by rw [← hr14,← Bool.eq_false_iff.2 hv]; exact ZaM s x _ hs)).mono (fun _ _=>Za7)) (fun xx=>?_)
  obtain ⟨A14,l14,c14⟩:=xx
  refine xq 6 [(10, .p 10 0),(11, .v (.bool false))] [(10,79,[.v (.bool r14.s), .v (.slice A14 l14 c14), .v (.int .i64 r14.e)])] ?_
  refine xe (Zab (Zac (Zaa (xq 1 [(20, .v (.agg #[.string t, .int .i64 y]))] [] ?_))))
  by_cases hv2:fvB (bytes t) y=true
  ·obtain ⟨r15,hr15⟩:∃ r,ldR (bytes t) y=r:=⟨_,rfl⟩
   have hfv2:=ZbG hv2
   have hwl2:wl r15.m≤100000:=by rw [← hr15]; exact ZdA hs2
   have hre2:r15.e=y:=by rw [← hr15,show ldR (bytes t) y=_ from if_pos hv2]
   have hrs2:r15.s=true→0 < r15.m:=by rw [← hr15,show ldR (bytes t) y=_ from if_pos hv2]; exact hfv2.2.2.2
   refine xqc 64 [.agg #[.string t, .int .i64 y]] 21 (shLd true r15) _ (fun w R Q=>((show Calls _ _ _ _ (Zbt w true r15) from by rw [← hr15,← hv2]; exact ZaM t y _ hs2)).mono (fun _ _=>Za7)) (fun xx=>?_)
   obtain ⟨A15,l15,c15⟩:=xx
   refine xq 6 [(12, .p 12 0),(13, .v (.bool true))] [(12,79,[.v (.bool r15.s), .v (.slice A15 l15 c15), .v (.int .i64 r15.e)])] ?_
   refine xe (Zab (Zac (Zac (Zaa (xq 6 [(29, .v (.bool true))] [] ?_)))))
   refine xe (Zab (xa (Zac (Zaa (xq 3 [(9, .v (.int .i64 1))] [] ?_)))))
   refine xe (Zab (Zai (Zah ?_)))
   refine Zag (v:=.tuple #[.agg #[.string ⟨#[]⟩, .int .i64 0], .int .i64 1]) (by kernel_rfl) (fun w' R Q=>?_)
   rw [show binR ZcJ (bytes s) (bytes t) x y b=⟨false,0,0,1⟩ from if_neg (fun h=>hv h.1)]
   exact ⟨rfl,R⟩
  ·obtain ⟨r16,hr16⟩:∃ r,ldR (bytes t) y=r:=⟨_,rfl⟩
   refine xqc 64 [.agg #[.string t, .int .i64 y]] 21 (shLd false r16) _ (fun w R Q=>((show Calls _ _ _ _ (Zbt w false r16) from by rw [← hr16,← Bool.eq_false_iff.2 hv2]; exact ZaM t y _ hs2)).mono (fun _ _=>Za7)) (fun xx=>?_)
   obtain ⟨A16,l16,c16⟩:=xx
   refine xq 6 [(12, .p 12 0),(13, .v (.bool false))] [(12,79,[.v (.bool r16.s), .v (.slice A16 l16 c16), .v (.int .i64 r16.e)])] ?_
   refine xe (Zab (Zac (Zac (Zaa (xq 6 [(29, .v (.bool true))] [] ?_)))))
   refine xe (Zab (xa (Zac (Zaa (xq 3 [(9, .v (.int .i64 1))] [] ?_)))))
   refine xe (Zab (Zai (Zah ?_)))
   refine Zag (v:=.tuple #[.agg #[.string ⟨#[]⟩, .int .i64 0], .int .i64 1]) (by kernel_rfl) (fun w' R Q=>?_)
   rw [show binR ZcJ (bytes s) (bytes t) x y b=⟨false,0,0,1⟩ from if_neg (fun h=>hv h.1)]
   exact ⟨rfl,R⟩
theorem ZjD (s t:ByteArray) (x y b:Int) (w:World) (hg:Glob w) (hs:(bytes s).length≤100000) (hs2:(bytes t).length≤100000) :
 Calls Tryz.prog 45 #[.agg #[.string s, .int .i64 x], .agg #[.string t, .int .i64 y], .int .i64 b] w (Zcj w (binR ZcJ (bytes s) (bytes t) x y b)):=by
 obtain ⟨r,hr⟩:∃ r,binR ZcJ (bytes s) (bytes t) x y b=r:=⟨_,rfl⟩
 rw [hr]
 refine Zau (Φ:=fun w=>Glob w) Tryz.func45 rfl (by kernel_rfl) (fun w' hf=>hg.ext hf) ?_
 refine Zac (Zaa (xq 4 [(3, .p 3 0),(4, .p 4 0),(6, .p 6 0),(7, .v (.int .i64 0))] [(6,24,[.v (.string ⟨#[]⟩), .v (.int .i64 0)]),(4,24,[.v (.string t), .v (.int .i64 y)]),(3,24,[.v (.string s), .v (.int .i64 x)])] ?_))
 refine xe (Zab (Zac (Zaa (xq 3 [(8, .v (.agg #[.string s, .int .i64 x])),(9, .v (.agg #[.string t, .int .i64 y])),(10, .v (.int .i64 b))] [] ?_))))
 refine xqc 81 [.agg #[.string s, .int .i64 x], .agg #[.string t, .int .i64 y], .int .i64 b, .func (.func 83) #[] #[]] 11 (fun _:Unit=>.tuple #[.agg #[.string ⟨(frT r).toArray⟩, .int .i64 (frE r)], .int .i64 r.err]) _ (fun w R Q=>((show Calls _ _ _ _ (Zcj w r) from by rw [← hr]; exact ZiF s t x y b _ Q hs hs2)).mono (fun _ _ h=>Zak h rfl)) (fun xx=>?_)
 refine xq 4 [(7, .v (.int .i64 r.err))] [(6,24,[.v (.string ⟨(frT r).toArray⟩), .v (.int .i64 (frE r))])] ?_
 refine xe (Zab (Zai ?_))
 refine Zag (v:=.tuple #[.agg #[.string ⟨(frT r).toArray⟩, .int .i64 (frE r)], .int .i64 r.err]) (by kernel_rfl) (fun w' R Q=>?_)
 exact ⟨rfl,R⟩
end Go.Proofs.YtklpdkpcocnglaaGreatDoor

namespace Go.Proofs.YtklpdkpcocnglaaGreatDoor
open Go.RowKit
theorem Zmy {l:List UInt8} {v:Rat} (h:Zbb l=some v):(Lib.itoa v.num).length≤l.length∧(Lib.itoa (v.den:Int)).length≤l.length + 1:=by
 have ht:=Zdz h
 rw [← ht]
 unfold Zbg
 split
 ·rename_i hd
  rw [hd]
  refine ⟨Nat.le_refl _,?_⟩
  have:(Lib.itoa ((1:Nat):Int)).length=1:=by rw [ZbF,Zcp (by omega)]; rfl
  omega
 ·simp only [List.length_append,List.length_cons]
  omega
theorem Zlk {n k:Nat} (h:(Lib.decDigits n).length≤k):wl n≤k:=by
 have h1:=ZbN (Lib.decDigits n) (Zcb n)
 rw [ZcF] at h1
 exact Zeo h1 h
theorem Zn4 (z:Int):(Lib.decDigits z.natAbs).length≤(Lib.itoa z).length:=by
 have h:=ZfC (Lib.itoa z)
 rw [ZdR] at h
 exact h
noncomputable def rndF (v:Rat) (n:Nat):FR:=ZaO (decide (v.num < 0)) v.num.natAbs v.den 0 n
noncomputable def ZdB (l:List UInt8) (b:Int):FR:=if (Zbb l).isSome=true then (if 8≤b∧b≤1024 then rndF (valF l) b.toNat else ⟨false,0,0,3⟩) else ⟨false,0,0,1⟩
theorem ZjE (s:ByteArray) (v:Rat) (n:Nat) (w:World) (hg:Glob w) (hs:(bytes s).length≤570) (hv:Zbb (bytes s)=some v) (hn1:8≤n) (hn2:n≤1024) :
 Calls Tryz.prog 57 #[.string s, .int .i64 ((n:Nat):Int)] w (ZaN w (rndF v n)):=by
 have hV:valF (bytes s)=v:=ZeJ hv
 have hl:=Zmy hv
 refine Zau (Φ:=fun w=>Glob w) Tryz.func57 rfl (by kernel_rfl) (fun w' hf=>hg.ext hf) ?_
 refine Zac (Zaa (xq 2 [(4, .p 4 0),(5, .v (.int .i64 0))] [(4,79,[.v (.bool false), .v (.slice none 0 0), .v (.int .i64 0)])] ?_))
 refine xe (Zab (Zac (Zaa (xq 1 [(11, .v (.string s))] [] ?_))))
 refine xqc 98 [.string s] 12 (fun _:Unit=>.tuple #[.string ⟨(Lib.itoa v.num).toArray⟩, .string ⟨(Lib.itoa (v.den:Int)).toArray⟩]) _ (fun w R Q=>((show Calls _ _ _ _ (RetV w (.tuple #[.string ⟨(Lib.itoa v.num).toArray⟩, .string ⟨(Lib.itoa (v.den:Int)).toArray⟩])) from by rw [← hV]; exact Zlh s _ Q hs)).mono (fun _ _ h=>Zak h rfl)) (fun xx=>?_)
 refine xq 5 [(6, .v (.string ⟨(Lib.itoa v.num).toArray⟩)),(7, .v (.string ⟨(Lib.itoa (v.den:Int)).toArray⟩))] [] ?_
 refine xe (Zab (Zac (Zaa (xq 1 [(16, .v (.string ⟨(Lib.itoa v.num).toArray⟩))] [] ?_))))
 refine xqc 63 [.string ⟨(Lib.itoa v.num).toArray⟩] 17 ZhD _ (fun w R Q=>(Zgd ⟨(Lib.itoa v.num).toArray⟩ _).mono (fun _ _=>Zgc)) (fun xx=>?_)
 obtain ⟨r,neg⟩:=xx
 refine xq 5 [(8, .v (.bool neg)),(9, .v (.string r))] [] ?_
 refine xe (Zab (Zac ?_))
 refine SXc.know (p:=Zaz (bytes ⟨(Lib.itoa v.num).toArray⟩)=(neg,bytes r)) (fun w _ Q=>Q.2) (fun HM=>?_)
 rw [ZcU,ZdR] at HM
 injection HM with hneg hr
 have hrl:(bytes r).length≤570:=by rw [← hr]; have:=Zn4 v.num; omega
 have hrz:r.size≤570:=by rw [← Zan]; exact hrl
 have hdig:(bytes r).all Zaq=true:=by rw [← hr]; exact Zcb _
 have hval:Zaj (bytes r)=v.num.natAbs:=by rw [← hr]; exact ZcF _
 have hwn:wl v.num.natAbs≤1000:=by rw [← hval]; exact Zeo (ZbN _ hdig) (by omega)
 have hwd:wl v.den≤1000:=Zlk (by have:=hl.2; rw [ZbF] at this; omega)
 have hdl:(bytes ⟨(Lib.itoa (v.den:Int)).toArray⟩).length≤571:=by rw [ZcU]; omega
 have hdz:(⟨(Lib.itoa (v.den:Int)).toArray⟩:ByteArray).size≤571:=by rw [← Zan]; exact hdl
 refine Zaa (xq 2 [(20, .v (.bool neg)),(21, .v (.string r))] [] ?_)
 refine xqc 100 [.string r] 22 ZaJ _ (fun w R Q=>(ZfB r _ v.num.natAbs hdig hval (by omega) (by omega)).mono (fun _ _=>Zay)) (fun xx=>?_)
 obtain ⟨A10,l10,c10⟩:=xx
 refine xq 1 [(23, .v (.string ⟨(Lib.itoa (v.den:Int)).toArray⟩))] [] ?_
 refine xqc 100 [.string ⟨(Lib.itoa (v.den:Int)).toArray⟩] 24 ZaJ _ (fun w R Q=>(ZfB _ _ v.den (by rw [ZcU,ZbF]; exact Zcb _) (by rw [ZcU,ZbF]; exact ZcF _) (by omega) (by omega)).mono (fun _ _=>Zay)) (fun xx=>?_)
 obtain ⟨A11,l11,c11⟩:=xx
 refine xq 1 [(25, .v (.int .i64 ((n:Nat):Int)))] [] ?_
 obtain ⟨r12,hr12⟩:∃ r,ZaO neg v.num.natAbs v.den 0 n=r:=⟨_,rfl⟩
 refine xqc 99 [.bool neg, .slice A10 l10 c10, .slice A11 l11 c11, .int .i64 0, .int .i64 ((n:Nat):Int)] 26 (shNb r12) _ (fun w R Q=>((show Calls _ _ _ _ (ZaN w r12) from by rw [← hr12]; exact Zf9 neg _ _ _ _ _ _ _ _ 0 n _ Q.1.1.1.1 Q.1.2 Q.2 (by omega) (by omega) v.den_pos (by omega) (by omega) (by omega) (by omega))).mono (fun _ _=>ZaK)) (fun xx=>?_)
 obtain ⟨A12,l12,c12⟩:=xx
 refine xq 4 [(5, .v (.int .i64 r12.err))] [(4,79,[.v (.bool r12.s), .v (.slice A12 l12 c12), .v (.int .i64 r12.e)])] ?_
 refine xe (Zab (Zai ?_))
 refine Zag (v:=.tuple #[.agg #[.bool r12.s, .slice A12 l12 c12, .int .i64 r12.e], .int .i64 r12.err]) (by kernel_rfl) (fun w' R Q=>?_)
 rw [show rndF v n=ZaO neg v.num.natAbs v.den 0 n from by unfold rndF; rw [hneg],hr12]
 exact ⟨(A12,l12,c12),rfl,Q.2,R⟩
theorem Zll (s:ByteArray) (b:Int) (w:World) (hg:Glob w) (hs:(bytes s).length≤570) :
 Calls Tryz.prog 15 #[.string s, .int .i64 b] w (Zcj w (ZdB (bytes s) b)):=by
 refine Zau (Φ:=fun w=>Glob w) Tryz.func15 rfl (by kernel_rfl) (fun w' hf=>hg.ext hf) ?_
 refine Zac (Zaa (xq 2 [(4, .p 4 0),(5, .v (.int .i64 0))] [(4,24,[.v (.string ⟨#[]⟩), .v (.int .i64 0)])] ?_))
 refine xe (Zab (Zac (Zac ?_)))
 by_cases hv:(Zbb (bytes s)).isSome=true
 ·obtain ⟨v,hrd⟩:=Option.isSome_iff_exists.1 hv
  refine Zaa (xq 1 [(6, .v (.string s))] [] ?_)
  refine xqc 54 [.string s] 7 (fun _:Unit=>.bool true) _ (fun w R Q=>(ZeL s _ Q hs).mono (fun _ _ h=>Zak h (by rw [hv]))) (fun xx=>?_)
  refine xq 1 [(8, .v (.bool false))] [] ?_
  refine xe (Zab (xb (Zam (Zab (Zac (Zac ?_))))))
  by_cases hb:8≤b∧b≤1024
  ·obtain ⟨n,hn⟩:∃ n:Nat,b=n:=⟨b.toNat,by omega⟩
   subst hn
   refine Zaa (xq 1 [(10, .v (.int .i64 ((n:Nat):Int)))] [] ?_)
   refine xqc 55 [.int .i64 ((n:Nat):Int)] 11 (fun _:Unit=>.bool true) _ (fun w R Q=>(Zb1 _ _).mono (fun _ _ h=>Zak h (by rw [decide_eq_true hb]))) (fun xx=>?_)
   refine xq 1 [(12, .v (.bool false))] [] ?_
   refine xe (Zab (xb (Zam (Zab (Zac (Zaa (xq 2 [(14, .v (.string s)),(15, .v (.int .i64 ((n:Nat):Int)))] [] ?_)))))))
   obtain ⟨r10,hr10⟩:∃ r,rndF v n=r:=⟨_,rfl⟩
   refine xqc 57 [.string s, .int .i64 ((n:Nat):Int)] 16 (shNb r10) _ (fun w R Q=>((show Calls _ _ _ _ (ZaN w r10) from by rw [← hr10]; exact ZjE s v n _ Q.1.1 hs hrd (by omega) (by omega))).mono (fun _ _=>ZaK)) (fun xx=>?_)
   obtain ⟨A10,l10,c10⟩:=xx
   refine xq 2 [(17, .v (.agg #[.bool r10.s, .slice A10 l10 c10, .int .i64 r10.e])),(18, .v (.int .i64 r10.err))] [] ?_
   refine xqc 56 [.agg #[.bool r10.s, .slice A10 l10 c10, .int .i64 r10.e], .int .i64 r10.err] 19 (fun _:Unit=>.tuple #[.agg #[.string ⟨(frT r10).toArray⟩, .int .i64 (frE r10)], .int .i64 r10.err]) _ (fun w R Q=>(Zc7 r10 A10 l10 c10 _ Q.1.1.1 Q.2 (by rw [← hr10]; exact Zdq v.den_pos (by omega) (by omega))).mono (fun _ _ h=>Zak h rfl)) (fun xx=>?_)
   refine xq 4 [(5, .v (.int .i64 r10.err))] [(4,24,[.v (.string ⟨(frT r10).toArray⟩), .v (.int .i64 (frE r10))])] ?_
   refine xe (Zab (Zai ?_))
   refine Zag (v:=.tuple #[.agg #[.string ⟨(frT r10).toArray⟩, .int .i64 (frE r10)], .int .i64 r10.err]) (by kernel_rfl) (fun w' R Q=>?_)
   rw [show ZdB (bytes s) ((n:Nat):Int)=rndF v n from by unfold ZdB; rw [if_pos hv,if_pos hb,ZeJ hrd]; rfl,hr10]
   exact ⟨rfl,R⟩
  ·refine Zaa (xq 1 [(10, .v (.int .i64 b))] [] ?_)
   refine xqc 55 [.int .i64 b] 11 (fun _:Unit=>.bool false) _ (fun w R Q=>(Zb1 _ _).mono (fun _ _ h=>Zak h (by rw [decide_eq_false hb]))) (fun xx=>?_)
   refine xq 1 [(12, .v (.bool true))] [] ?_
   refine xe (Zab (xa (Zac (Zaa (xq 3 [(5, .v (.int .i64 3))] [] ?_)))))
   refine xe (Zab (Zai (Zah ?_)))
   refine Zag (v:=.tuple #[.agg #[.string ⟨#[]⟩, .int .i64 0], .int .i64 3]) (by kernel_rfl) (fun w' R Q=>?_)
   rw [show ZdB (bytes s) b=⟨false,0,0,3⟩ from by unfold ZdB; rw [if_pos hv,if_neg hb]]
   exact ⟨rfl,R⟩
 ·refine Zaa (xq 1 [(6, .v (.string s))] [] ?_)
  refine xqc 54 [.string s] 7 (fun _:Unit=>.bool false) _ (fun w R Q=>(ZeL s _ Q hs).mono (fun _ _ h=>Zak h (by rw [Bool.eq_false_iff.2 hv]))) (fun xx=>?_)
  refine xq 1 [(8, .v (.bool true))] [] ?_
  refine xe (Zab (xa (Zac (Zaa (xq 3 [(5, .v (.int .i64 1))] [] ?_)))))
  refine xe (Zab (Zai (Zah ?_)))
  refine Zag (v:=.tuple #[.agg #[.string ⟨#[]⟩, .int .i64 0], .int .i64 1]) (by kernel_rfl) (fun w' R Q=>?_)
  rw [show ZdB (bytes s) b=⟨false,0,0,1⟩ from if_neg hv]
  exact ⟨rfl,R⟩
end Go.Proofs.YtklpdkpcocnglaaGreatDoor

namespace Go.Proofs.YtklpdkpcocnglaaGreatDoor
open Go.RowKit
theorem Zn5 (a a':ByteArray) (d d':Int) (w:World):(Op.equalIn 10000 24 (.agg #[.string a, .int .i64 d]) (.agg #[.string a', .int .i64 d'])).run Tryz.prog w =
 .ok ((a.toList == a'.toList) && (d == d')) w:=by
 have hS:Tryz.prog.underlying 24=some (.struct (Tryz.prog.fieldsOf 24)):=by kernel_rfl
 have hp:Tryz.prog.stoodInHeld 24=false:=by kernel_rfl
 have u3:=Tryz.underlying3
 have a3:=Tryz.isAgg3
 have u9:=Tryz.underlying9
 have a9:=Tryz.isAgg9
 rw [show (10000:Nat)=9999 + 1 from rfl,run_equalIn_agg w 9999 _ _ _ hS hp]
 simp only [Program.fieldsOf,Tryz.underlying24]
 go_simp
 cases h1:(a.toList == a'.toList)<;>cases h3:(d == d')<;>simp_all
theorem Zgv {o:Oper} {ρ:Operand→Value} {w:World} (x y:Operand) (k:TypeId) (a a':ByteArray) (d d':Int) (r:Bool) (ho:o.op=Op.binOp .eql 24 x y k) (hx:ρ x=.agg #[.string a, .int .i64 d]) (hy:ρ y=.agg #[.string a', .int .i64 d'])
 (hr:((a.toList == a'.toList) && (d == d'))=r):(execOp ρ o).run Tryz.prog w=.ok (.value (.bool r)) w:=by
 have hm:Tryz.prog.eqGuardType Tryz.prog.depth 24=false:=by kernel_rfl
 subst hr
 simp only [execOp,ho,hx,hy,Sem.run_bind,run_eqGuard_agg w _ _ _ _ _ _ hm,Result.andThen_ok,run_eql_struct,Zn5,Sem.run_pure]
theorem ZiN (a:ByteArray) (d:Int):((a.toList == a.toList) && (d == d))=true:=by simp
theorem ZiO:tzn 1=0:=Zeb (by decide)
theorem ZoB:oddM 1=1:=by have:=Ze4 (o:=1) (by decide) 0; simpa using this
theorem Zmz (s:Bool) {e:Int} (h1 : -1048576≤e) (h2:e≤1048576):ZaU s 1 e=⟨s,1,e,0⟩:=by
 rw [Zfs s (by decide) (by rw [ZiO]; omega) (by rw [ZiO]; omega),ZoB,ZiO]
 simp
theorem Zky (s:Bool) {e:Int} (h:e < -1048576∨e > 1048576):ZaU s 1 e=⟨false,0,0,2⟩:=Zf8 s (by decide) (by rw [ZiO]; omega)
theorem ZjF (s:Bool) (e:Int) {bits:Nat} (hb:1≤bits):ZaO s 1 1 e bits=ZaU s 1 e:=by
 rw [← Zbi s 1 e (by omega),Zd8 (by rw [ZmT]; exact hb)]
theorem fv_1 {x:Int} (h1 : -1048576≤x) (h2:x≤1048576):fvB [49] x=true:=by
 unfold fvB
 rw [if_neg (by decide)]
 exact decide_eq_true ⟨by decide,by decide,⟨h1,h2⟩,by decide,by decide⟩
theorem ld_1 {x:Int} (h1 : -1048576≤x) (h2:x≤1048576):ldR [49] x=⟨false,1,x,0⟩:=by
 unfold ldR
 rw [if_pos (fv_1 h1 h2)]; rfl
theorem Zlm (e:Int):frT ⟨false,1,e,0⟩=[49]:=by
 show Lib.itoa (sg false 1)=[49]
 rw [show sg false 1=((1:Nat):Int) from rfl,ZbF,Zcp (by omega)]; rfl
theorem ZiP (op:FR→FR→Nat→FR) {x y b:Int} (hx1 : -1048576≤x) (hx2:x≤1048576) (hy1 : -1048576≤y) (hy2:y≤1048576) (hb:8≤b∧b≤1024):binR op [49] [49] x y b=op ⟨false,1,x,0⟩ ⟨false,1,y,0⟩ b.toNat:=by
 unfold binR
 rw [if_pos ⟨fv_1 hx1 hx2,fv_1 hy1 hy2⟩,if_pos hb,ld_1 hx1 hx2,ld_1 hy1 hy2]
theorem ZoC (op:FR→FR→Nat→FR) {x y b:Int} (hx1 : -1048576≤x) (hx2:x≤1048576) (hy1 : -1048576≤y) (hy2:y≤1048576) (hb:¬ (8≤b∧b≤1024)):binR op [49] [49] x y b=⟨false,0,0,3⟩:=by
 unfold binR
 rw [if_pos ⟨fv_1 hx1 hx2,fv_1 hy1 hy2⟩,if_neg hb]
theorem Zn6:binR Zdc [49] [49] 1048576 1 8=⟨false,0,0,2⟩:=by
 rw [ZiP _ (by omega) (by omega) (by omega) (by omega) (by omega)]
 show ZaO false (1 * 1) 1 (1048576 + 1) 8=_
 rw [Nat.one_mul,ZjF _ _ (by omega),Zky _ (by omega)]
theorem Zn7:binR ZcJ [49] [49] (-1048576) 1 8=⟨false,0,0,2⟩:=by
 rw [ZiP _ (by omega) (by omega) (by omega) (by omega) (by omega)]
 show ZaO false 1 1 (-1048576 - 1) 8=_
 rw [ZjF _ _ (by omega),Zky _ (by omega)]
theorem Zn8:binR ZcJ [49] [49] 1048576 1 8=⟨false,1,1048575,0⟩:=by
 rw [ZiP _ (by omega) (by omega) (by omega) (by omega) (by omega)]
 show ZaO false 1 1 (1048576 - 1) 8=_
 rw [ZjF _ _ (by omega),Zmz _ (by omega) (by omega)]; rfl
theorem ZoD:fshR [49] (-1048576) 2097152=⟨false,1,1048576,0⟩:=by
 unfold fshR
 rw [if_pos (fv_1 (by omega) (by omega)),ld_1 (by omega) (by omega)]
 show ZbP false 1 (-1048576) 2097152=_
 unfold ZbP
 rw [if_neg (by decide),if_neg (by omega),Zmz _ (by omega) (by omega)]; rfl
theorem Zn9:fshR [49] (-1048576) 2097153=⟨false,0,0,2⟩:=by
 unfold fshR
 rw [if_pos (fv_1 (by omega) (by omega)),ld_1 (by omega) (by omega)]
 show ZbP false 1 (-1048576) 2097153=_
 unfold ZbP
 rw [if_neg (by decide),if_pos (by omega)]
theorem Zln:tzn 2=1:=by have:=Zhv (o:=1) (by decide) 1; simpa using this
theorem ZoE:oddM 2=1:=by have:=Ze4 (o:=1) (by decide) 1; simpa using this
theorem Zoa {b:Int} (hb:8≤b∧b≤1024):binR ZcI [49] [49] 1 1 b=⟨false,1,2,0⟩:=by
 rw [ZiP _ (by omega) (by omega) (by omega) (by omega) hb]
 obtain ⟨n,hn⟩:∃ n:Nat,b.toNat=n:=⟨_,rfl⟩
 rw [hn]
 show ZaO false 2 1 1 n=_
 rw [← Zbi false 2 1 (by omega),Zd8 (by rw [show blen 2=2 from Ze3 (k:=1) (by decide) (by decide)]; omega),Zfs false (by decide) (by rw [Zln]; omega) (by rw [Zln]; omega),ZoE,Zln]
 rfl
theorem Znk {b:Int} (hb:¬ (8≤b∧b≤1024)):binR ZcI [49] [49] 1 1 b=⟨false,0,0,3⟩:=ZoC _ (by omega) (by omega) (by omega) (by omega) hb
/-! ### 5/3 to 8 bits -/
def q53:Rat:=⟨5,3,by decide,by decide⟩
theorem Zkz:Zbb [53,47,51]=some q53:=by
 rw [Zm8]
 unfold Zbg
 rw [if_neg (by decide)]
 show Lib.itoa ((5:Nat):Int) ++ [47] ++ Lib.itoa ((3:Nat):Int)=_
 rw [ZbF,ZbF,Zcp (by omega),Zcp (by omega)]; rfl
theorem ZjG:blen 213=8:=Ze3 (k:=7) (by decide) (by decide)
theorem ZoF:rndF q53 8=⟨false,213,-7,0⟩:=by
 have h0:fq 5 3 (-7)=213:=by decide
 have h1:rndK 5 3 8 = -7:=ZhV (by decide) (by decide) (by decide) (by rw [h0,ZjG])
 have h2:rndM 5 3 8=213:=by unfold rndM; rw [h1]; decide
 show ZaO false 5 3 0 8=_
 unfold ZaO
 rw [if_neg (by decide),h1,h2,Zfs false (by decide) (by rw [Zeb (by decide)]; omega) (by rw [Zeb (by decide)]; omega),Zeb (by decide),show oddM 213=213 by have:=Ze4 (o:=213) (by decide) 0; simpa using this]
 rfl
theorem Znl:ZdB [53,47,51] 8=⟨false,213,-7,0⟩:=by
 unfold ZdB
 rw [if_pos (by rw [Zkz]; rfl),if_pos (by omega),ZeJ Zkz]
 exact ZoF
theorem ZjH:Lib.itoa 213=[50,49,51]:=by
 rw [show (213:Int)=((213:Nat):Int) from rfl,ZbF]
 decide +kernel
theorem Zob:frT ⟨false,213,-7,0⟩=[50,49,51]:=ZjH
theorem ZmA:fvB [50,49,51] (-7)=true:=by
 rw [← ZjH,ZnW]; decide
theorem ZoG:(ldR [50,49,51] (-7)).m=213:=by
 unfold ldR
 rw [if_pos ZmA]; rfl
end Go.Proofs.YtklpdkpcocnglaaGreatDoor

namespace Go.Proofs.YtklpdkpcocnglaaGreatDoor
open Go.RowKit
theorem Zoc (w:World) (hg:Glob w):Calls Tryz.prog 15 #[.string ⟨#[53,47,51]⟩, .int .i64 8] w (RetV w (.tuple #[.agg #[.string ⟨#[50,49,51]⟩, .int .i64 (-7)], .int .i64 0])):=by
 have h:=Zll ⟨#[53,47,51]⟩ 8 w hg (by decide)
 rw [show ZdB (bytes ⟨#[53,47,51]⟩) 8=⟨false,213,-7,0⟩ from Znl] at h
 unfold Zcj at h
 rw [Zob] at h
 exact h
theorem Zod (w:World):Calls Tryz.prog 19 #[.agg #[.string ⟨#[50,49,51]⟩, .int .i64 (-7)]] w (RetV w (.bool true)):=by
 have h:=Zfx ⟨#[50,49,51]⟩ (-7) w (by decide)
 rw [show fvB (bytes ⟨#[50,49,51]⟩) (-7)=true from ZmA] at h
 exact h
theorem ZoH (w:World):Calls Tryz.prog 20 #[.agg #[.string ⟨#[50,49,51]⟩, .int .i64 (-7)]] w (RetV w (.int .i64 8)):=by
 have h:=Zmx ⟨#[50,49,51]⟩ (-7) w (by decide)
 rw [show (ldR (bytes ⟨#[50,49,51]⟩) (-7)).m=213 from ZoG,ZjG] at h
 exact h
theorem ZoO (w:World) (hg:Glob w):Calls Tryz.prog 44 #[.agg #[.string ⟨#[49]⟩, .int .i64 1048576], .agg #[.string ⟨#[49]⟩, .int .i64 1], .int .i64 8] w (RetV w (.tuple #[.agg #[.string ⟨#[]⟩, .int .i64 0], .int .i64 2])):=by
 have h:=Znj ⟨#[49]⟩ ⟨#[49]⟩ 1048576 1 8 w hg (by decide) (by decide)
 rw [show binR Zdc (bytes ⟨#[49]⟩) (bytes ⟨#[49]⟩) 1048576 1 8=_ from Zn6] at h
 exact h
theorem ZoP (w:World) (hg:Glob w):Calls Tryz.prog 45 #[.agg #[.string ⟨#[49]⟩, .int .i64 (-1048576)], .agg #[.string ⟨#[49]⟩, .int .i64 1], .int .i64 8] w (RetV w (.tuple #[.agg #[.string ⟨#[]⟩, .int .i64 0], .int .i64 2])):=by
 have h:=ZjD ⟨#[49]⟩ ⟨#[49]⟩ (-1048576) 1 8 w hg (by decide) (by decide)
 rw [show binR ZcJ (bytes ⟨#[49]⟩) (bytes ⟨#[49]⟩) (-1048576) 1 8=_ from Zn7] at h
 exact h
theorem ZoQ (w:World) (hg:Glob w):Calls Tryz.prog 45 #[.agg #[.string ⟨#[49]⟩, .int .i64 1048576], .agg #[.string ⟨#[49]⟩, .int .i64 1], .int .i64 8] w (RetV w (.tuple #[.agg #[.string ⟨#[49]⟩, .int .i64 1048575], .int .i64 0])):=by
 have h:=ZjD ⟨#[49]⟩ ⟨#[49]⟩ 1048576 1 8 w hg (by decide) (by decide)
 rw [show binR ZcJ (bytes ⟨#[49]⟩) (bytes ⟨#[49]⟩) 1048576 1 8=_ from Zn8] at h
 unfold Zcj at h
 rw [Zlm] at h
 exact h
theorem ZoR (w:World) (hg:Glob w) (b:Int) (hb:8≤b∧b≤1024):Calls Tryz.prog 46 #[.agg #[.string ⟨#[49]⟩, .int .i64 1], .agg #[.string ⟨#[49]⟩, .int .i64 1], .int .i64 b] w (RetV w (.tuple #[.agg #[.string ⟨#[49]⟩, .int .i64 2], .int .i64 0])):=by
 have h:=ZjC ⟨#[49]⟩ ⟨#[49]⟩ 1 1 b w hg (by decide) (by decide)
 rw [show binR ZcI (bytes ⟨#[49]⟩) (bytes ⟨#[49]⟩) 1 1 b=_ from Zoa hb] at h
 unfold Zcj at h
 rw [Zlm] at h
 exact h
theorem ZmB (w:World) (hg:Glob w) (b:Int) (hb:¬ (8≤b∧b≤1024)):Calls Tryz.prog 46 #[.agg #[.string ⟨#[49]⟩, .int .i64 1], .agg #[.string ⟨#[49]⟩, .int .i64 1], .int .i64 b] w (RetV w (.tuple #[.agg #[.string ⟨#[]⟩, .int .i64 0], .int .i64 3])):=by
 have h:=ZjC ⟨#[49]⟩ ⟨#[49]⟩ 1 1 b w hg (by decide) (by decide)
 rw [show binR ZcI (bytes ⟨#[49]⟩) (bytes ⟨#[49]⟩) 1 1 b=_ from Znk hb] at h
 exact h
theorem l_sh (w:World) (hg:Glob w):Calls Tryz.prog 33 #[.agg #[.string ⟨#[49]⟩, .int .i64 (-1048576)], .int .i64 2097152] w (RetV w (.tuple #[.agg #[.string ⟨#[49]⟩, .int .i64 1048576], .int .i64 0])):=by
 have h:=ZhE ⟨#[49]⟩ (-1048576) 2097152 w hg (by decide)
 rw [show fshR (bytes ⟨#[49]⟩) (-1048576) 2097152=_ from ZoD] at h
 unfold Zcj at h
 rw [Zlm] at h
 exact h
theorem ZoS (w:World) (hg:Glob w):Calls Tryz.prog 33 #[.agg #[.string ⟨#[49]⟩, .int .i64 (-1048576)], .int .i64 2097153] w (RetV w (.tuple #[.agg #[.string ⟨#[]⟩, .int .i64 0], .int .i64 2])):=by
 have h:=ZhE ⟨#[49]⟩ (-1048576) 2097153 w hg (by decide)
 rw [show fshR (bytes ⟨#[49]⟩) (-1048576) 2097153=_ from Zn9] at h
 exact h
theorem ZeS (w:World) (hg:Glob w) :
 Calls Tryz.prog 14 #[] w (RetV w (.bool true)):=by
 refine Zau (Φ:=fun w=>Glob w) Tryz.func14 rfl (by kernel_rfl) (fun w' hf=>hg.ext hf) ?_
 refine Zac (Zaa (xq 1 [(0, .v (.bool false))] [] ?_))
 refine xe (Zab (Zac (Zaa ?_)))
 refine xqc 15 [.string ⟨#[53,47,51]⟩, .int .i64 8] 4 (fun _:Unit=>.tuple #[.agg #[.string ⟨#[50,49,51]⟩, .int .i64 (-7)], .int .i64 0]) _ (fun w R Q=>(Zoc _ Q).mono (fun _ _ h=>Zak h rfl)) (fun xx=>?_)
 refine xq 6 [(1, .p 1 0),(2, .v (.int .i64 0))] [(1,24,[.v (.string ⟨#[50,49,51]⟩), .v (.int .i64 (-7))])] ?_
 refine xe (Zab (Zac (Zaa (xq 5 [(9, .v (.bool true)),(10, .v (.agg #[.string ⟨#[50,49,51]⟩, .int .i64 (-7)])),(11, .v (.agg #[.string ⟨#[50,49,51]⟩, .int .i64 (-7)]))] [] ?_))))
 refine Zb8 12 (.bool true) (by kernel_rfl) (by kernel_rfl) (by kernel_rfl) (by kernel_rfl) (by kernel_rfl) (by kernel_rfl) (fun w R Q=>Zgv (.tmp 10) (.tmp 11) 24 ⟨#[50,49,51]⟩ ⟨#[50,49,51]⟩ (-7) (-7) true (by kernel_rfl) (by kernel_rfl) (by kernel_rfl) (ZiN _ _)) ?_
 refine xr 3 [(0, .v (.bool false)),(1, .p 1 0),(14, .v (.bool true)),(15, .v (.agg #[.string ⟨#[50,49,51]⟩, .int .i64 (-7)]))] [(1,24,[.v (.string ⟨#[50,49,51]⟩), .v (.int .i64 (-7))])] ?_
 refine xqc 19 [.agg #[.string ⟨#[50,49,51]⟩, .int .i64 (-7)]] 16 (fun _:Unit=>.bool true) _ (fun w R Q=>(Zod _).mono (fun _ _ h=>Zak h rfl)) (fun xx=>?_)
 refine xq 3 [(18, .v (.bool true)),(19, .v (.agg #[.string ⟨#[50,49,51]⟩, .int .i64 (-7)]))] [] ?_
 refine xqc 20 [.agg #[.string ⟨#[50,49,51]⟩, .int .i64 (-7)]] 20 (fun _:Unit=>.int .i64 8) _ (fun w R Q=>(ZoH _).mono (fun _ _ h=>Zak h rfl)) (fun xx=>?_)
 refine xq 3 [(0, .v (.bool true))] [] ?_
 refine xe (Zab (Zai ?_))
 refine Zag (v:=.bool true) (by kernel_rfl) (fun w' R Q=>?_)
 exact ⟨rfl,R⟩
theorem ZhF (b:Int) (w:World) (hg:Glob w) :
 Calls Tryz.prog 9 #[.int .i64 b] w (RetV w (.bool true)):=by
 refine Zau (Φ:=fun w=>Glob w) Tryz.func9 rfl (by kernel_rfl) (fun w' hf=>hg.ext hf) ?_
 refine Zac (Zaa (xq 1 [(2, .v (.bool false))] [] ?_))
 refine xe (Zab (Zac (Zaa (xq 3 [(3, .p 3 0)] [(3,24,[.v (.string ⟨#[49]⟩), .v (.int .i64 1048576)])] ?_))))
 refine xe (Zab (Zac (Zaa (xq 3 [(4, .p 4 0)] [(4,24,[.v (.string ⟨#[49]⟩), .v (.int .i64 (-1048576))])] ?_))))
 refine xe (Zab (Zac (Zaa (xq 3 [(5, .p 5 0)] [(5,24,[.v (.string ⟨#[49]⟩), .v (.int .i64 1)])] ?_))))
 refine xe (Zab (Zac (Zaa (xq 2 [(23, .v (.agg #[.string ⟨#[49]⟩, .int .i64 1048576])),(24, .v (.agg #[.string ⟨#[49]⟩, .int .i64 1]))] [] ?_))))
 refine xqc 44 [.agg #[.string ⟨#[49]⟩, .int .i64 1048576], .agg #[.string ⟨#[49]⟩, .int .i64 1], .int .i64 8] 25 (fun _:Unit=>.tuple #[.agg #[.string ⟨#[]⟩, .int .i64 0], .int .i64 2]) _ (fun w R Q=>(ZoO _ Q).mono (fun _ _ h=>Zak h rfl)) (fun xx=>?_)
 refine xq 6 [(7, .v (.int .i64 2))] [] ?_
 refine xe (Zab (Zac (Zaa (xq 2 [(29, .v (.agg #[.string ⟨#[49]⟩, .int .i64 (-1048576)])),(30, .v (.agg #[.string ⟨#[49]⟩, .int .i64 1]))] [] ?_))))
 refine xqc 45 [.agg #[.string ⟨#[49]⟩, .int .i64 (-1048576)], .agg #[.string ⟨#[49]⟩, .int .i64 1], .int .i64 8] 31 (fun _:Unit=>.tuple #[.agg #[.string ⟨#[]⟩, .int .i64 0], .int .i64 2]) _ (fun w R Q=>(ZoP _ Q.1).mono (fun _ _ h=>Zak h rfl)) (fun xx=>?_)
 refine xq 6 [(9, .v (.int .i64 2))] [] ?_
 refine xe (Zab (Zac (Zaa (xq 2 [(35, .v (.agg #[.string ⟨#[49]⟩, .int .i64 1048576])),(36, .v (.agg #[.string ⟨#[49]⟩, .int .i64 1]))] [] ?_))))
 refine xqc 45 [.agg #[.string ⟨#[49]⟩, .int .i64 1048576], .agg #[.string ⟨#[49]⟩, .int .i64 1], .int .i64 8] 37 (fun _:Unit=>.tuple #[.agg #[.string ⟨#[49]⟩, .int .i64 1048575], .int .i64 0]) _ (fun w R Q=>(ZoQ _ Q.1.1).mono (fun _ _ h=>Zak h rfl)) (fun xx=>?_)
 refine xq 6 [(10, .p 10 0),(11, .v (.int .i64 0))] [(10,24,[.v (.string ⟨#[49]⟩), .v (.int .i64 1048575)])] ?_
 refine xe (Zab (Zac (Zaa (xq 1 [(41, .v (.agg #[.string ⟨#[49]⟩, .int .i64 (-1048576)]))] [] ?_))))
 refine xqc 33 [.agg #[.string ⟨#[49]⟩, .int .i64 (-1048576)], .int .i64 2097152] 42 (fun _:Unit=>.tuple #[.agg #[.string ⟨#[49]⟩, .int .i64 1048576], .int .i64 0]) _ (fun w R Q=>(l_sh _ Q.1.1.1).mono (fun _ _ h=>Zak h rfl)) (fun xx=>?_)
 refine xq 6 [(12, .p 12 0),(13, .v (.int .i64 0))] [(12,24,[.v (.string ⟨#[49]⟩), .v (.int .i64 1048576)])] ?_
 refine xe (Zab (Zac (Zaa (xr 1 [(0, .v (.int .i64 b)),(2, .v (.bool false)),(3, .p 3 0),(5, .p 5 0),(7, .v (.int .i64 2)),(9, .v (.int .i64 2)),(10, .p 10 0),(11, .v (.int .i64 0)),(12, .p 12 0),(13, .v (.int .i64 0)),(46, .v (.agg #[.string ⟨#[49]⟩, .int .i64 (-1048576)]))] [(12,24,[.v (.string ⟨#[49]⟩), .v (.int .i64 1048576)]),(10,24,[.v (.string ⟨#[49]⟩), .v (.int .i64 1048575)]),(5,24,[.v (.string ⟨#[49]⟩), .v (.int .i64 1)]),(3,24,[.v (.string ⟨#[49]⟩), .v (.int .i64 1048576)])] ?_))))
 refine xqc 33 [.agg #[.string ⟨#[49]⟩, .int .i64 (-1048576)], .int .i64 2097153] 47 (fun _:Unit=>.tuple #[.agg #[.string ⟨#[]⟩, .int .i64 0], .int .i64 2]) _ (fun w R Q=>(ZoS _ Q.1.1.1.1).mono (fun _ _ h=>Zak h rfl)) (fun xx=>?_)
 refine xq 6 [(15, .v (.int .i64 2))] [] ?_
 refine xe (Zab (Zac ?_))
 by_cases h8:8≤b
 ·by_cases h9:b≤1024
  ·refine Zaa (xq 3 [(51, .v (.agg #[.string ⟨#[49]⟩, .int .i64 1])),(52, .v (.agg #[.string ⟨#[49]⟩, .int .i64 1])),(53, .v (.int .i64 b))] [] ?_)
   refine xqc 46 [.agg #[.string ⟨#[49]⟩, .int .i64 1], .agg #[.string ⟨#[49]⟩, .int .i64 1], .int .i64 b] 54 (fun _:Unit=>.tuple #[.agg #[.string ⟨#[49]⟩, .int .i64 2], .int .i64 0]) _ (fun w R Q=>(ZoR _ Q.1.1.1.1.1 b (by omega)).mono (fun _ _ h=>Zak h rfl)) (fun xx=>?_)
   refine xq 6 [(17, .v (.int .i64 0))] [] ?_
   refine xe (Zab (Zac (Zaa (xq 2 [(58, .v (.bool (decide (b ≥ 8))))] [] ?_))))
   rw [(show decide (b ≥ 8)=true from decide_eq_true (by omega))]
   refine xq 3 [(59, .v (.bool true)),(61, .v (.bool (decide (b≤1024))))] [] ?_
   rw [(show decide (b≤1024)=true from decide_eq_true (by omega))]
   refine xq 2 [(18, .v (.bool true))] [] ?_
   refine xe (Zab (Zac (Zaa ?_)))
   refine xqc 14 [] 63 (fun _:Unit=>.bool true) _ (fun w R Q=>(ZeS _ Q.1.1.1.1.1.1).mono (fun _ _ h=>Zak h rfl)) (fun xx=>?_)
   refine xq 24 [(85, .v (.bool true)),(86, .v (.agg #[.string ⟨#[49]⟩, .int .i64 1048576])),(87, .v (.agg #[.string ⟨#[49]⟩, .int .i64 1048576]))] [] ?_
   refine Zb8 88 (.bool true) (by kernel_rfl) (by kernel_rfl) (by kernel_rfl) (by kernel_rfl) (by kernel_rfl) (by kernel_rfl) (fun w R Q=>Zgv (.tmp 86) (.tmp 87) 24 ⟨#[49]⟩ ⟨#[49]⟩ 1048576 1048576 true (by kernel_rfl) (by kernel_rfl) (by kernel_rfl) (ZiN _ _)) ?_
   refine xr 19 [(2, .v (.bool true))] [] ?_
   refine xe (Zab (Zai ?_))
   refine Zag (v:=.bool true) (by kernel_rfl) (fun w' R Q=>?_)
   exact ⟨rfl,R⟩
  ·refine Zaa (xq 3 [(51, .v (.agg #[.string ⟨#[49]⟩, .int .i64 1])),(52, .v (.agg #[.string ⟨#[49]⟩, .int .i64 1])),(53, .v (.int .i64 b))] [] ?_)
   refine xqc 46 [.agg #[.string ⟨#[49]⟩, .int .i64 1], .agg #[.string ⟨#[49]⟩, .int .i64 1], .int .i64 b] 54 (fun _:Unit=>.tuple #[.agg #[.string ⟨#[]⟩, .int .i64 0], .int .i64 3]) _ (fun w R Q=>(ZmB _ Q.1.1.1.1.1 b (by omega)).mono (fun _ _ h=>Zak h rfl)) (fun xx=>?_)
   refine xq 6 [(17, .v (.int .i64 3))] [] ?_
   refine xe (Zab (Zac (Zaa (xq 2 [(58, .v (.bool (decide (b ≥ 8))))] [] ?_))))
   rw [(show decide (b ≥ 8)=true from decide_eq_true (by omega))]
   refine xq 3 [(59, .v (.bool true)),(61, .v (.bool (decide (b≤1024))))] [] ?_
   rw [(show decide (b≤1024)=false from decide_eq_false (by omega))]
   refine xq 2 [(18, .v (.bool false))] [] ?_
   refine xe (Zab (Zac (Zaa ?_)))
   refine xqc 14 [] 63 (fun _:Unit=>.bool true) _ (fun w R Q=>(ZeS _ Q.1.1.1.1.1.1).mono (fun _ _ h=>Zak h rfl)) (fun xx=>?_)
   refine xq 24 [(85, .v (.bool true)),(86, .v (.agg #[.string ⟨#[49]⟩, .int .i64 1048576])),(87, .v (.agg #[.string ⟨#[49]⟩, .int .i64 1048576]))] [] ?_
   refine Zb8 88 (.bool true) (by kernel_rfl) (by kernel_rfl) (by kernel_rfl) (by kernel_rfl) (by kernel_rfl) (by kernel_rfl) (fun w R Q=>Zgv (.tmp 86) (.tmp 87) 24 ⟨#[49]⟩ ⟨#[49]⟩ 1048576 1048576 true (by kernel_rfl) (by kernel_rfl) (by kernel_rfl) (ZiN _ _)) ?_
   refine xr 19 [(2, .v (.bool true))] [] ?_
   refine xe (Zab (Zai ?_))
   refine Zag (v:=.bool true) (by kernel_rfl) (fun w' R Q=>?_)
   exact ⟨rfl,R⟩
 ·refine Zaa (xq 3 [(51, .v (.agg #[.string ⟨#[49]⟩, .int .i64 1])),(52, .v (.agg #[.string ⟨#[49]⟩, .int .i64 1])),(53, .v (.int .i64 b))] [] ?_)
  refine xqc 46 [.agg #[.string ⟨#[49]⟩, .int .i64 1], .agg #[.string ⟨#[49]⟩, .int .i64 1], .int .i64 b] 54 (fun _:Unit=>.tuple #[.agg #[.string ⟨#[]⟩, .int .i64 0], .int .i64 3]) _ (fun w R Q=>(ZmB _ Q.1.1.1.1.1 b (by omega)).mono (fun _ _ h=>Zak h rfl)) (fun xx=>?_)
  refine xq 6 [(17, .v (.int .i64 3))] [] ?_
  refine xe (Zab (Zac (Zaa (xq 2 [(58, .v (.bool (decide (b ≥ 8))))] [] ?_))))
  rw [(show decide (b ≥ 8)=false from decide_eq_false (by omega))]
  refine xq 5 [(18, .v (.bool false))] [] ?_
  refine xe (Zab (Zac (Zaa ?_)))
  refine xqc 14 [] 63 (fun _:Unit=>.bool true) _ (fun w R Q=>(ZeS _ Q.1.1.1.1.1.1).mono (fun _ _ h=>Zak h rfl)) (fun xx=>?_)
  refine xq 24 [(85, .v (.bool true)),(86, .v (.agg #[.string ⟨#[49]⟩, .int .i64 1048576])),(87, .v (.agg #[.string ⟨#[49]⟩, .int .i64 1048576]))] [] ?_
  refine Zb8 88 (.bool true) (by kernel_rfl) (by kernel_rfl) (by kernel_rfl) (by kernel_rfl) (by kernel_rfl) (by kernel_rfl) (fun w R Q=>Zgv (.tmp 86) (.tmp 87) 24 ⟨#[49]⟩ ⟨#[49]⟩ 1048576 1048576 true (by kernel_rfl) (by kernel_rfl) (by kernel_rfl) (ZiN _ _)) ?_
  refine xr 19 [(2, .v (.bool true))] [] ?_
  refine xe (Zab (Zai ?_))
  refine Zag (v:=.bool true) (by kernel_rfl) (fun w' R Q=>?_)
  exact ⟨rfl,R⟩
end Go.Proofs.YtklpdkpcocnglaaGreatDoor
