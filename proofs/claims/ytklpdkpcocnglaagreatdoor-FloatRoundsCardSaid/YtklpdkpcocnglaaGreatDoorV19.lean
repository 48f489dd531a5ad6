/-
 My texts Fb, Fdm, Fdc, Nx, Ny, FlE, FllL, Rb23, Nz, FslL, Ne, Fvl put together.
-/
import Derived.RangeFuncKeeps
import Derived.RangeFuncBox
import Derived.RangeFuncLeaves
import Derived.RangeFuncCalls
import Derived.OwnWalkIn
import Derived.TacticsInMore
import Derived.LoopNIn
import Derived.LoopIn
import Derived.Test.YtklpdkpcocnglaaGreatDoorV18
import Derived.Test.YtklpdkpcocnglaaGreatDoorV17
import Derived.Test.YtklpdkpcocnglaaGreatDoorV15
import Derived.RangeFuncFrom
import Derived.Shelf.Strings.BuilderK
import Derived.Shelf.Strings.Repeat
import Derived.Deep.RegionLaw
import Derived.Test.YtklpdkpcocnglaaGreatDoorV16
import Derived.Laws.StructEq
import Derived.Deep.RegionHeld3
set_option maxRecDepth 100000
namespace Go.Proofs.YtklpdkpcocnglaaGreatDoor
open Go.RowKit
def Zel (n k:Nat):List Nat:=(List.range k).map fun j=>n - 1 - j
theorem Zhp (n k:Nat):Zel n (k + 1)=Zel n k ++ [n - 1 - k]:=by simp [Zel,List.range_succ]
theorem ZnH (n k:Nat):(Zel n k).length=k:=by simp [Zel]
def KpS (Bs b:Nat) (A B:World):Prop:=B.heap[Bs]? = A.heap[Bs]? ∧ B.heap[b]? = A.heap[b]?
theorem KpS.refl (Bs b:Nat) (A:World):KpS Bs b A A:=⟨rfl,rfl⟩
theorem KpS.trans {Bs b:Nat} {A B C:World} (h:KpS Bs b A B) (k:KpS Bs b B C):KpS Bs b A C:=⟨k.1.trans h.1,k.2.trans h.2⟩
theorem KpS.cell1 {Bs b:Nat} {A B:World} (h:KpS Bs b A B) (j:Nat):B.cell? ⟨Bs,j,none⟩=A.cell? ⟨Bs,j,none⟩:=World.cell?_of_block h.1
theorem KpS.cell2 {Bs b:Nat} {A B:World} (h:KpS Bs b A B) (j:Nat):B.cell? ⟨b,j,none⟩=A.cell? ⟨b,j,none⟩:=World.cell?_of_block h.2
attribute [local go_sem] Oper.semAt_some
set_option maxHeartbeats 2000000 in
theorem ZoI (n l Bs b cap:Nat) (xs:List Nat) (hn:1≤n) (hlen:xs.length≤4294967296) (J Jx:List Nat→World→Prop)
 (hY:∀ pre x W,J pre W→pre.length < xs.length→YieldAt Fence.wide (n - 1) Tryz.prog l #[.int .i64 ((x:Nat):Int), .int .u64 ((xs[x]?.getD 0:Nat):Int)] W fun e W' =>
  (e=.returned (.bool true)∧J (pre ++ [x]) W'∧KpS Bs b W W')∨(e=.returned (.bool false)∧Jx (pre ++ [x]) W'))
 (W:World) (hBs:W.cell? ⟨Bs,0,none⟩=some (.slice (some ⟨b,0,none⟩) xs.length cap)) (hc:∀ j,j < xs.length→W.cell? ⟨b,j,none⟩=some (.int .u64 ((xs[j]?.getD 0:Nat):Int))) (h0:J [] W) :
 CallsIn Fence.wide n Tryz.prog 150 #[.func (.yield l) #[] #[], .pointer (some ⟨Bs,0,none⟩)] W fun e W'=>(∃ v,e=.returned v) ∧
  ((∃ ys,ys=Zel xs.length xs.length∧J ys W')∨(∃ pre,(∃ k,k≤xs.length∧pre=Zel xs.length k)∧Jx pre W')):=by
 refine callsIn_of_wp Tryz.func150 rfl trivial ?_ rfl
 simp only [Tryz.ntmps150,List.size_toArray,List.length_cons,List.length_nil,Nat.reduceAdd,Nat.reduceSub,Array.replicate_succ,Array.replicate_zero,List.push_toArray,List.append_toArray,List.nil_append,List.cons_append]
 gi_wp2
 gi_loopw [3] (fun i wr=>∃ k:Nat,k≤xs.length∧i=.int .i64 ((xs.length:Int) - 1 - k)∧J (Zel xs.length k) wr∧KpS Bs b W wr)
  (fun i _=>(intOf i + 1).toNat)
 case atStart=>exact ⟨0,Nat.zero_le _,by simp,h0,KpS.refl _ _ _⟩
 case round =>
  obtain ⟨k,hk,rfl,hJs,hnx⟩:=hrel
  have hbs:=(hnx.cell1 0).trans hBs
  by_cases hlt:k < xs.length
  ·have hcx:wr.cell? ⟨b,xs.length - 1 - k,none⟩=some (.int .u64 ((xs[xs.length - 1 - k]?.getD 0:Nat):Int)):=(hnx.cell2 _).trans (hc _ (by omega))
   obtain ⟨fn,tmps,assign,body,hy,hR⟩:=hY _ (xs.length - 1 - k) wr hJs (by rw [ZnH]; exact hlt)
   obtain ⟨j,hj⟩:∃ j:Nat,xs.length - 1 - k=j:=⟨_,rfl⟩
   rw [hj] at hcx hy hR
   have ej:(xs.length:Int) - 1 - (k:Int)=(j:Int):=by omega
   rw [ej]
   have hjl:j < xs.length:=by omega
   obtain ⟨xj,hxj⟩:∃ v,xs[j]?.getD 0=v:=⟨_,rfl⟩
   rw [hxj] at hcx hy
   clear hxj
   have HJ:=zh hj
   clear hj ej
   gi_wp2
   refine hR.mono ?_
   rintro e W3 (⟨rfl,hJ3,hk3⟩ | ⟨rfl,hJx3⟩)
   ·gi_wp2
    go_roundw
    case rel=>exact ⟨k + 1,by omega,by have:=HJ.out; simp<;>omega,by rw [Zhp,HJ.out]; exact hJ3,hnx.trans hk3⟩
    case measure=>simp [intOf]<;>omega
   ·gi_wp2
    refine bodyPost_ret (results_none rfl _ _ _) rfl ?_
    exact ⟨⟨_,rfl⟩, .inr ⟨_,⟨k + 1,by omega,by rw [Zhp,HJ.out]⟩,hJx3⟩⟩
  ·obtain rfl:k=xs.length:=by omega
   gi_wp2
   go_end0
   exact ⟨⟨_,rfl⟩, .inl ⟨_,rfl,hJs⟩⟩
theorem Zlh (n Bs b cap:Nat) (xs:List Nat) (hn:1≤n) (hlen:xs.length≤4294967296) (w:World) (h1:Bs < w.heap.size) (h2:b < w.heap.size)
 (hBs:w.cell? ⟨Bs,0,none⟩=some (.slice (some ⟨b,0,none⟩) xs.length cap)) (hc:∀ j,j < xs.length→w.cell? ⟨b,j,none⟩=some (.int .u64 ((xs[j]?.getD 0:Nat):Int))) :
 SeqStopsK Fence.wide n Tryz.prog 150 #[.pointer (some ⟨Bs,0,none⟩)] (fun x:Nat=>#[Value.int .i64 (x:Int),Value.int .u64 ((xs[x]?.getD 0:Nat):Int)]) (KpS Bs b)
  (fun ys=>ys=Zel xs.length xs.length) (fun pre=>∃ k,k≤xs.length∧pre=Zel xs.length k) xs.length w:=fun l J Jx W hW _ _ hY h0 =>
 ZoI n l Bs b cap xs hn hlen J Jx hY W ((hW.cell (p:=⟨Bs,0,none⟩) h1).trans hBs) (fun j hj=>(hW.cell (p:=⟨b,j,none⟩) h2).trans (hc j hj)) h0
set_option maxHeartbeats 1000000 in
theorem ZnI (a:Option Addr) (len cap:Nat) (w:World) :
 Calls Tryz.prog 109 #[.slice a len cap] w fun e w'=>e=.returned (.func (.func 150) #[] #[.pointer (some ⟨w.heap.size,0,none⟩)])∧w'=w.alloc (.cells #[.slice a len cap] 76):=by
 go_enter Tryz.func109,Tryz.ntmps109
 go_wp2
 go_ret
 exact ⟨rfl,rfl⟩
end Go.Proofs.YtklpdkpcocnglaaGreatDoor

namespace Go.Proofs.YtklpdkpcocnglaaGreatDoor
open Go.RowKit
def Zgw (cs:List Nat) (j:Nat):List UInt8:=if j + 1 < cs.length then List.replicate (19 - (Lib.decDigits (cs[j]?.getD 0)).length) 48 ++ Lib.decDigits (cs[j]?.getD 0) else Lib.decDigits (cs[j]?.getD 0)
def Zbh (cs:List Nat) (l:List Nat):List UInt8:=l.flatMap (Zgw cs)
theorem Zhr (cs l:List Nat) (j:Nat):Zbh cs (l ++ [j])=Zbh cs l ++ Zgw cs j:=by simp [Zbh]
theorem Zjp {cs:List Nat} (hlt:∀ c ∈ cs,c < 10 ^ 19) (ht:∃ l c,cs=l ++ [c]∧0 < c):∀ k,k≤cs.length→Zbh cs (Zel cs.length k)=Za0 (chV (cs.drop (cs.length - k)))
 | 0,_=>by rw [Nat.sub_zero,List.drop_of_length_le (Nat.le_refl _)]; rfl
 | k + 1,hk=>by
   have ih:=Zjp hlt ht k (by omega)
   rw [Zhp,Zhr,ih]
   have h:=ZsK (cs:=cs) (i:=cs.length - (k + 1)) (by omega) rfl hlt ht
   rw [show cs.length - 1 - k=cs.length - (k + 1) by omega,h]
   unfold Zgw
   by_cases h0:cs.length - (k + 1) + 1 < cs.length
   ·rw [if_pos h0,if_pos h0,show cs.length - (k + 1) + 1=cs.length - k by omega]
   ·have:k=0:=by omega
    subst this
    rw [if_neg h0,if_neg h0,Nat.sub_zero,List.drop_of_length_le (Nat.le_refl _)]
    rfl
theorem ZrM {cs:List Nat} {n:Nat} (h:ChR n cs 0) (hn:0 < n):Zbh cs (Zel cs.length cs.length)=Lib.decDigits n:=by
 have hne:cs≠[]:=fun e=>by have:=h.eq; rw [e] at this; simp [chV] at this; omega
 rw [Zjp h.lt (h.top rfl hne) _ (Nat.le_refl _),Nat.sub_self,List.drop_zero]
 have:=h.eq
 rw [Nat.mul_zero,Nat.add_zero] at this
 rw [← this,ZbV hn]
theorem ZgD:∀ (k u:Nat),u < 10 ^ (k + 1)→Lib.nDigits u≤k + 1
 | 0,u,h=>by rw [Lib.nDigits_small (by simpa using h)]; exact Nat.le_refl _
 | k + 1,u,h=>by
   by_cases h1:u < 10
   ·rw [Lib.nDigits_small h1]; omega
   ·rw [Lib.nDigits_big h1]
    have:=ZgD k (u / 10) (by rw [Nat.pow_succ] at h; omega)
    omega
theorem Zpr {c:Nat} (h:c < 10 ^ 19):(Lib.decDigits c).length≤19:=by
 rw [Lib.decDigits_length]
 exact ZgD 18 c h
theorem ZrN {cs:List Nat} (h:∀ c ∈ cs,c < 10 ^ 19) (j:Nat):(Zgw cs j).length≤19:=by
 have hc:cs[j]?.getD 0 < 10 ^ 19:=by
  rcases Nat.lt_or_ge j cs.length with hj | hj
  ·rw [List.getElem?_eq_getElem hj]; exact h _ (List.getElem_mem hj)
  ·rw [List.getElem?_eq_none hj]; decide
 have:=Zpr hc
 unfold Zgw
 split
 ·rw [List.length_append,List.length_replicate]; omega
 ·exact this
theorem Zl4 {cs:List Nat} (h:∀ c ∈ cs,c < 10 ^ 19):∀ l,(Zbh cs l).length≤19 * l.length
 | []=>by simp [Zbh]
 | j :: l=>by
   have h1:=Zl4 h l
   have h2:=ZrN h j
   have e:Zbh cs (j :: l)=Zgw cs j ++ Zbh cs l:=by simp [Zbh]
   rw [e,List.length_append,List.length_cons]
   omega
/-! ### the builder -/
theorem Zfq (B b:Nat) (l:List UInt8) (s:List UInt8) (w:World) (h:Lib.IsBuilderF 145 5 B b (Lib.byteCells l) w) (hlen:l.length + s.length≤140737488355328) (hBw:B≤w.heap.size) :
 Calls Tryz.prog 111 #[.pointer (some ⟨b,0,none⟩), .string ⟨s.toArray⟩] w fun e w'=>e=.returned (.tuple #[.int .i64 (s.length:Int), .nilIface])∧(Lib.IsBuilderF 145 5 B b (Lib.byteCells (l ++ s)) w'∧Below B w w'∧Lib.OthersKept 5 (some b) w w'):=by
 have hs:(⟨s.toArray⟩:ByteArray).size=s.length:=by rw [← Zao,Zdm]
 refine (Any.Builder_WriteString_k (ρ:=Tryz.lays105_ren) { Tryz.lays105 with } Tryz.Builder_Extra_105 B b (Lib.byteCells l) ⟨s.toArray⟩ w h (by rw [Lib.byteCells_length,hs]; exact hlen) hBw).mono ?_
 rintro e w' ⟨rfl,h1,h2,h3⟩
 refine ⟨by rw [hs],Or.inr ?_,h2,h3⟩
 rw [Lib.strCells_toArray] at h1
 rw [show Lib.byteCells (l ++ s)=Lib.byteCells l ++ Lib.byteCells s by simp [Lib.byteCells]]
 exact h1
theorem ZnK (c:Nat) (w:World) (hc:c≤19) :
 Calls Tryz.prog 112 #[.string ⟨#[48]⟩, .int .i64 (c:Int)] w fun e w'=>e=.returned (.string ⟨(List.replicate c (48:UInt8)).toArray⟩)∧Ext w w':=by
 rcases Nat.lt_or_ge c 2 with h | h
 ·have:c=0∨c=1:=by omega
  rcases this with rfl | rfl
  ·refine (Tryz.strings_Repeat_zero _ w).mono ?_
   rintro e w' ⟨rfl,rfl⟩
   exact ⟨rfl,Fr.refl _ _⟩
  ·refine (Tryz.strings_Repeat_one _ w).mono ?_
   rintro e w' ⟨rfl,rfl⟩
   exact ⟨rfl,Fr.refl _ _⟩
 ·have hs:(⟨#[48]⟩:ByteArray).size=1:=rfl
  refine (Tryz.strings_Repeat_main ⟨#[48]⟩ c w h (by omega) (by rw [hs]; omega) (by rw [hs]; decide)).mono ?_
  rintro e w' ⟨rfl,hB⟩
  refine ⟨?_,Fr.ofBelow hB⟩
  have:∀ n,Lib.repeatL [(48:UInt8)] n=List.replicate n 48:=by
   intro n; induction n with
   | zero=>rfl
   | succ n ih=>simp [Lib.repeatL,List.replicate_succ] at ih ⊢; first | exact ih | (rw [ih])
  rw [show (⟨#[48]⟩:ByteArray).data.toList=[48] from rfl,this]
/-! ### what stays -/
theorem ZnL {B b:Nat} {T e:TypeId} {bs:List Value} {W W':World} {row:Option Nat} (h:Lib.IsBuilderF T e B b bs W) (hg:W.grownBy W' row) (hr:∀ r,row=some r→∃ o:Obj,W.heap[r]? = some o∧o.isCells=false):Lib.IsBuilderF T e B b bs W':=by
 have key:∀ p,Lib.BuilderAtF T e B b p bs W→Lib.BuilderAtF T e B b p bs W':=by
  rintro p ⟨h1,v,h2,⟨h3,h4⟩,h5⟩
  refine ⟨h1,v,(grownBy_keeps_cells hg hr h2 rfl).trans h2,⟨h3,?_⟩,h5⟩
  rcases h4 with h4 | ⟨g,cap,cur,fz,k1,k2,k3,k4⟩
  ·exact Or.inl h4
  ·exact Or.inr ⟨g,cap,cur,fz,k1,k2,(grownBy_keeps_cells hg hr k3 rfl).trans k3,k4⟩
 exact h.elim (fun x=>Or.inl (key _ x)) (fun x=>Or.inr (key _ x))
theorem ZoJ {B b:Nat} {T e:TypeId} {bs:List Value} {W W':World} (h:Lib.IsBuilderF T e B b bs W) (hf:Ext W W'):Lib.IsBuilderF T e B b bs W':=by
 have hb:∀ (k:Nat) (o:Obj),W.heap[k]? = some o→W'.heap[k]? = some o:=fun k o hk=>by rw [hf.block k (Array.getElem?_eq_some_iff.1 hk).1 (fun f=>f)]; exact hk
 have key:∀ p,Lib.BuilderAtF T e B b p bs W→Lib.BuilderAtF T e B b p bs W':=by
  rintro p ⟨h1,v,h2,⟨h3,h4⟩,h5⟩
  refine ⟨h1,v,hb _ _ h2,⟨h3,?_⟩,h5⟩
  rcases h4 with h4 | ⟨g,cap,cur,fz,k1,k2,k3,k4⟩
  ·exact Or.inl h4
  ·exact Or.inr ⟨g,cap,cur,fz,k1,k2,hb _ _ k3,k4⟩
 exact h.elim (fun x=>Or.inl (key _ x)) (fun x=>Or.inr (key _ x))
theorem Zmt {B b:Nat} {T e:TypeId} {bs:List Value} {W:World} (h:Lib.IsBuilderF T e B b bs W):∃ c t fz,W.heap[b]? = some (.cells c t fz):=by
 rcases h with ⟨_,v,h2,_⟩ | ⟨_,v,h2,_⟩<;>exact ⟨_,_,_,h2⟩
theorem Zjq {B n:Nat} {w W W':World} {row:Option Nat} (h:Below B w W) (hB:B≤w.heap.size) (hg:W.grownBy W' row) (hr:∀ r,row=some r→n≤r) (hn:B≤n):Below B w W':=by
 refine ⟨hg.os.trans h.os,hg.tape.trans h.tape,hg.output.trans h.output,Nat.le_trans h.size hg.size,fun k hk=>?_⟩
 rw [hg.block k (by have:=h.size; omega) (fun e=>by have:=hr k e.symm; omega)]
 exact h.block k hk
theorem ZtR {e:TypeId} {b:Nat} {w w':World} (h:Lib.OthersKept e (some b) w w') (hs:w.heap.size≤w'.heap.size) (hb:∃ c t fz,w.heap[b]? = some (.cells c t fz)):KeepsOthers w w':=by
 refine ⟨hs,fun k o hk ho=>h k o hk ?_ ?_⟩
 ·intro e
  injection e with e
  obtain ⟨c,t,fz,hc⟩:=hb
  rw [e,hc] at hk
  injection hk with hk
  rw [← hk] at ho
  cases ho
 ·rintro c fz rfl
  cases ho
theorem Fr.others {w w':World} (h:Ext w w'):KeepsOthers w w':=⟨h.size,fun k o hk _=>by rw [h.block k (Array.getElem?_eq_some_iff.1 hk).1 (fun f=>f)]; exact hk⟩
theorem Zgx {e:TypeId} {b k:Nat} {o:Obj} {w w':World} (h:Lib.OthersKept e (some b) w w') (hk:w.heap[k]? = some o) (hb:k≠b) (ho:∀ c fz,o≠.cells c e fz):w'.heap[k]? = some o :=
 h k o hk (fun e=>by injection e with e; exact hb e) ho
structure DcJ (w:World) (q g c2:Nat) (cs:List Nat) (t:List UInt8) (W:World):Prop where
 below:Below w.heap.size w W
 size:q + 2≤W.heap.size
 bd:Lib.IsBuilderF 145 5 w.heap.size q (Lib.byteCells t) W
 box:Blk 76 W w.heap.size #[.slice (some ⟨g,0,none⟩) cs.length c2]
 bs:Blk 76 W (q + 1) #[.slice (some ⟨g,0,none⟩) cs.length c2]
 row:Own .u64 94 W g cs
section
variable {w W W':World} {q g c2 n:Nat} {cs:List Nat} {t s:List UInt8} {row:Option Nat}
theorem DcJ.kept (h:DcJ w q g c2 cs t W) (hg:W.grownBy W' row) (hr:∀ r,row=some r→n≤r∧∃ o:Obj,W.heap[r]? = some o∧o.isCells=false) (hn:w.heap.size≤n):DcJ w q g c2 cs t W':=by
 obtain ⟨tail,ht,hh⟩:=h.row
 exact ⟨Zjq h.below (Nat.le_refl _) hg (fun r e=>(hr r e).1) hn,Nat.le_trans h.size hg.size,ZnL h.bd hg (fun r e=>(hr r e).2),(grownBy_keeps_cells hg (fun r e=>(hr r e).2) h.box rfl).trans h.box,(grownBy_keeps_cells hg (fun r e=>(hr r e).2) h.bs rfl).trans h.bs,tail,ht,(grownBy_keeps_cells hg (fun r e=>(hr r e).2) hh rfl).trans hh⟩
theorem DcJ.step (h:DcJ w q g c2 cs t W) (Q:Ext W W'):DcJ w q g c2 cs t W'∧KeepsOthers W W'∧KpS (q + 1) g W W':=by
 have hz:=h.size
 exact ⟨⟨((Fr.ofBelow h.below).trans Q).toBelow,Nat.le_trans hz Q.size,ZoJ h.bd Q,h.box.ext Q,h.bs.ext Q,h.row.ext Q⟩,Fr.others Q,Q.block _ (by omega) (fun f=>f),Q.block _ h.row.lt (fun f=>f)⟩
theorem DcJ.write (h:DcJ w q g c2 cs t W) (hq:w.heap.size < q) (hgq:g < q) (h1:Lib.IsBuilderF 145 5 w.heap.size q (Lib.byteCells (t ++ s)) W') (h2:Below w.heap.size W W') (h3:Lib.OthersKept 5 (some q) W W') :
 DcJ w q g c2 cs (t ++ s) W'∧KeepsOthers W W'∧KpS (q + 1) g W W':=by
 obtain ⟨tail,ht,hh⟩:=h.row
 have e1:W'.heap[w.heap.size]? = some _:=Zgx h3 h.box (by omega) (fun c fz e=>by injection e with _ e; cases e)
 have e2:W'.heap[q + 1]? = some _:=Zgx h3 h.bs (by omega) (fun c fz e=>by injection e with _ e; cases e)
 have e3:W'.heap[g]? = some _:=Zgx h3 hh (by omega) (fun c fz e=>by injection e with _ e; cases e)
 exact ⟨⟨h.below.trans h2,Nat.le_trans h.size h2.size,h1,e1,e2,tail,ht,e3⟩,ZtR h3 h2.size (Zmt h.bd),e2.trans h.bs.symm,e3.trans hh.symm⟩
end
end Go.Proofs.YtklpdkpcocnglaaGreatDoor

namespace Go.Proofs.YtklpdkpcocnglaaGreatDoor
open Go.RowKit
theorem Zi4 {P:Program} {ops:Array Oper} {o:Oper} {a:Act} {w:World} {K:Act→World→Prop} {Q:Exit→Act→World→Prop} {E:Prop}
 (hg:o.guard=none) (s x:Operand) (t:TypeId) (ho:o.op=Op.call { callee:=Callee.builtin Builtin.append,args:=#[s,x],argTypes:=#[t,t] })
 (e:TypeId) (k:IntKind) (bytes:Nat) (ht:P.underlying t=some (.slice e)) (hinfo:(P.info? e).map (fun i=>(i.zero,i.size,i.bytes))=some (some (.int k 0),1,bytes))
 (A X:Option Addr) (n m cap c:Nat) (hs:a.eval s=.slice A n cap) (hx:a.eval x=.slice X m c) (xs news:List Nat) (hn:xs.length=n) (hm:news.length=m) (hB:Buf k e w A cap xs) (hX:Zae k w X news) (h63:n + m≤maxLen) (hbytes:(n + m) * bytes≤140737488355328)
 (hK:∀ A' cap' w',Buf k e w' A' cap' (xs ++ news)→Fr (ZaF A) w w'→(∀ b,ZaF A' b→ZaF A b∨b=w.heap.size)→K (a.put o.dst (.slice A' (n + m) cap')) w') :
 if Region.wanted o (yielded ops a.tmps)=true then Oper.wp P o a w K Q else E:=by
 have hw:Region.wanted o (yielded ops a.tmps)=true:=by simp [Region.wanted,hg]
 rw [if_pos hw]
 obtain ⟨A',cap',w',hrun,h2,h3,h4⟩:=ZfQ (P:=P) w t o.type e k bytes ht hinfo A X n m cap c xs news hn hm hB hX h63 hbytes
 unfold Oper.wp execOp
 simp only [ho,resolve,invoke,builtin,Sem.run_bind,Sem.run_pure,Result.andThen_ok,List.map_toArray,List.map_cons,List.map_nil,hs,hx,hrun]
 exact hK _ _ _ h2 h3 h4
theorem ChR.bound {n r:Nat} {cs:List Nat} (h:ChR n cs r) (hr:0 < r):cs.length < blen n:=by
 refine ZfE.2 ?_
 have h1:2 ^ cs.length≤(10 ^ 19) ^ cs.length:=Nat.pow_le_pow_left (by decide) _
 have h2:(10 ^ 19) ^ cs.length * 1≤(10 ^ 19) ^ cs.length * r:=Nat.mul_le_mul_left _ hr
 have:=h.eq
 omega
structure DcI (w wr:World) (b bx n:Nat) (rs cs:List Nat) (A:Option Addr) (c:Nat):Prop where
 ext:Ext w wr
 own:Own .u64 94 wr b rs
 dig:Dig W64 rs
 trim:Trim rs
 ch:ChR n cs (val W64 rs)
 box:Blk 76 wr bx #[.slice A cs.length c]
 buf:Buf .u64 94 wr A c cs
 news:∀ i,ZaF A i→w.heap.size≤i∧i≠b∧i≠bx
set_option maxHeartbeats 1000000 in
theorem ZnM (A:Option Addr) (l c:Nat) (w:World) (hN:Zal w (.slice A l c) 0):Calls Tryz.prog 67 #[.slice A l c] w (Zf6 w (Lib.decDigits 0)):=by
 have hl:l=0:=hN.len0
 subst hl
 go_enter Tryz.func67,Tryz.ntmps67
 go_wp2
 go_ret
 exact ⟨by rw [Lib.decDigits_one (by decide)]; rfl,Fr.refl _ _⟩
attribute [local go_sem] Oper.semAt_some
set_option maxHeartbeats 8000000 in
theorem ZoK (A:Option Addr) (xs:List Nat) (c n:Nat) (w:World) (hg:Glob w) (hn:0 < n) (hX:Zae .u64 w A xs) (hd:Dig W64 xs) (ht:Trim xs) (hv:val W64 xs=n) (hl:xs.length≤1000000) (h0:0 < xs.length) :
 Calls Tryz.prog 67 #[.slice A xs.length c] w (Zf6 w (Lib.decDigits n)):=by
 have hbn:blen n≤64000000:=by
  have h1:=ZeY n
  have h2:=ZaN hd ht
  rw [hv] at h2
  omega
 have HG:=zh hg
 have HX:=zh hX
 have Hd:=zh hd
 have Ht:=zh ht
 have Hv:=zh hv
 clear hg hX hd ht hv
 refine (callsIn_wide (n:=3)).1 ?_
 refine callsIn_of_wp_marks Tryz.func67 rfl trivial ?_ rfl
 simp only [Tryz.ntmps67,List.size_toArray,List.length_cons,List.length_nil,Nat.reduceAdd,Nat.reduceSub,Array.replicate_succ,Array.replicate_zero,List.push_toArray,List.append_toArray,List.nil_append,List.cons_append]
 refine wpIn_wide.2 ?_
 go_wp2_with fail
 refine (Zky A xs c _ (HX.out.ext ((Fr.refl _ _).alloc _)) (by omega) h0).mono ?_
 rintro e w1 ⟨b,cap,rfl,hb,hcap,hE1,hO⟩
 have HE1:=zh hE1
 have HO:=zh hO
 have hb':w.heap.size < b:=by simp at hb; omega
 have hI:Hid (DcI w w1 b w.heap.size n xs [] none 0):=⟨((Fr.refl _ _).alloc _).trans HE1.out,HO.out,Hd.out,Ht.out,by rw [Hv.out]; exact ChR.start n,(Blk.new _ _ _).ext HE1.out,Buf.nil,fun i hi=>by obtain ⟨a,ha,_⟩:=hi; cases ha⟩
 clear hE1 hO hb
 go_wp2
 go_loopw [4] (fun v4 wr=>∃ (rs cs:List Nat) (A2:Option Addr) (c2:Nat),v4=.slice (some ⟨b,0,none⟩) rs.length cap∧rs.length≤cap∧rs.length≤1000000∧Hid (DcI w wr b w.heap.size n rs cs A2 c2))
  (fun _ wr=>match wr.cell? ⟨w.heap.size,0,none⟩ with | some (.slice _ m _)=>64000001 - m | _=>0)
 case atStart=>exact ⟨xs,[],none,0,rfl,hcap,hl,hI⟩
 case round =>
  obtain ⟨rs,cs,A2,c2,rfl,hrc,hrl,hI⟩:=hrel
  by_cases hpos:0 < rs.length
  ·have hvp:0 < val W64 rs:=ZeC hI.out.trim Zan (fun e=>by rw [e] at hpos; simp at hpos)
   have hcl:cs.length < 64000000:=by have:=hI.out.ch.bound hvp; omega
   have hbox:wr.cell? ⟨w.heap.size,0,none⟩=some (.slice A2 cs.length c2):=hI.out.box.cell 0
   have hfz:=hI.out.box.frozen 0
   obtain ⟨r,hr⟩:∃ r,val W64 rs % 10000000000000000000=r:=⟨_,rfl⟩
   have Hr:=zh hr
   have Hvp:=zh hvp
   clear hr hvp
   go_wp2_with fail
   first | (go_region_law (first
    | (refine Zi4 rfl (.tmp 19) (.tmp 22) 76 rfl 94 .u64 8 Tryz.underlying76 Zdo A2 (some ⟨w2.heap.size,0,none⟩) cs.length 1 c2 1 rfl rfl cs [r] rfl rfl HBuf.out HSh.out (by simp only [maxLen]; omega) (by omega) ?_
       intro A3 c3 w3 hB3 hF3 hA3
       have hB4:=HBox.out.fr hF3 (fun h=>(hI.out.news _ h).2.2 rfl)
       have HB4:=zh hB4
       have hc4:=hB4.cell 0
       have hf4:=hB4.frozen 0
       have HB3:=zh hB3
       have HF3:=zh hF3
       have HA3:=zh hA3
       clear hB4 hB3 hF3 hA3)
    | (go_simp
       go_at_call 108
       refine (Zgq b cap rs 10000000000000000000 _ hI.out.own.drew (by omega) hI.out.dig (by decide) (by rw [Zam]; decide)).mono ?_
       rintro e w2 ⟨qs,rfl,hq,hF2,hO2⟩
       rw [Hr.out]
       have hbx2:=hI.out.box.fr (Fr.undrew hF2) (fun e=>by omega)
       have hc2:=hbx2.cell 0
       have hc2b:=(hbx2.alloc (.cells #[.int .u64 (r:Int)] 94)).cell 0
       have HBox:=zh (hbx2.alloc (.cells #[.int .u64 (r:Int)] 94))
       have HBuf:=zh ((hI.out.buf.fr (Fr.undrew hF2) (fun i hi e=>(hI.out.news i hi).2.1 e)).ext ((Fr.refl _ w2).alloc (.cells #[.int .u64 (r:Int)] 94)))
       have HSh:Hid (Zae .u64 (w2.alloc (.cells #[.int .u64 (r:Int)] 94)) (some ⟨w2.heap.size,0,none⟩) [r]):=(Own.new w2 94 .u64 [r] []).shows0
       have HO2:=zh hO2
       have HF2:=zh hF2
       have Hq:=zh hq
       clear hbx2 hO2 hF2 hq))) | skip
   all_goals
    have hO4:=((HO2.out.alloc (.cells #[.int .u64 (r:Int)] 94)).fr HF3.out (fun h=>(hI.out.news _ h).2.1 rfl)).far (p:=⟨w.heap.size,0,none⟩) (by show b≠w.heap.size; omega) (.slice A3 (cs.length + 1) c3)
    have hE4:Ext w (w3.setCell ⟨w.heap.size,0,none⟩ (.slice A3 (cs.length + 1) c3)) :=
     (((hI.out.ext.next (Fr.undrew HF2.out) (fun i hi e=>by omega)).alloc (.cells #[.int .u64 (r:Int)] 94)).next HF3.out (fun i hi h=>by have:=(hI.out.news i h).1; omega)).setCell (p:=⟨w.heap.size,0,none⟩) (Or.inr (Nat.le_refl _)) _
    have hA4:∀ i,ZaF A3 i→w.heap.size≤i∧i≠b∧i≠w.heap.size:=fun i hi=>by
     rcases HA3.out i hi with h | h
     ·exact hI.out.news i h
     ·have h1:=hI.out.ext.size
      have h2:wr.heap.size≤w2.heap.size:=HF2.out.size
      have h3:=hI.out.own.lt
      have h4:=HO2.out.lt
      have h5:=hI.out.box.lt
      rw [World.size_alloc] at h
      omega
    have hbuf4:=HB3.out.fr (S:=fun i=>i=w.heap.size) ((show Fr (fun i=>i=w.heap.size) w3 w3 from Fr.refl _ _).setCell (p:=⟨w.heap.size,0,none⟩) (Or.inl rfl) (.slice A3 (cs.length + 1) c3)) (fun i hi e=>(hA4 i hi).2.2 e)
    have hbx4:Blk 76 (w3.setCell ⟨w.heap.size,0,none⟩ (.slice A3 (cs.length + 1) c3)) w.heap.size #[.slice A3 (cs.length + 1) c3]:=HB4.out.set_ 0 _
    have HO4:=zh hO4
    have HE4:=zh hE4
    have HA4:=zh hA4
    have HBuf4:=zh hbuf4
    have HBx4:=zh hbx4
    have Hbox:=zh hbox
    have hql:rs.length=qs.length:=Hq.out.1.symm
    clear hO4 hE4 hA4 hbuf4 hbx4 hbox hfz
    go_wp2_with fail
    refine (Zh4 _ qs cap _ HO4.out.shows0 (by omega) (by omega)).mono ?_
    rintro e w5 ⟨rfl,hE5⟩
    have hbx5:=HBx4.out.ext hE5
    have hbc5:=hbx5.cell 0
    have Hbc5:=zh hbc5
    have hcn:=hI.out.ch.step Hvp.out
    rw [show (10:Nat) ^ 19=10000000000000000000 from rfl,Hr.out] at hcn
    have hI5:Hid (DcI w w5 b w.heap.size n (ZaT qs) (cs ++ [r]) A3 c3) :=
     ⟨HE4.out.trans hE5,(HO4.out.take _).ext hE5,Zcb Hq.out.2.1,Zcg qs,by rw [Za8,Hq.out.2.2]; exact hcn,by rw [List.length_append,List.length_singleton]; exact hbx5,HBuf4.out.ext hE5,HA4.out⟩
    have Htl:=zh (ZaX qs)
    have Hle:=zh (Zcz qs qs.length)
    clear hE5 hbx5 hbc5 hcn
    go_wp2
    go_roundw
    case rel=>exact ⟨ZaT qs,cs ++ [r],A3,c3,by rw [Htl.out],by have:=Hle.out; rw [Htl.out]; omega,by have:=Hle.out; rw [Htl.out]; omega,hI5⟩
    case measure=>rw [Hbc5.out,Hbox.out]; simp only [List.getElem?_toArray]; first | omega | (simp; omega)
  ·obtain rfl:rs=[]:=List.eq_nil_of_length_eq_zero (by omega)
   have hch:=hI.out.ch
   rw [Zdt] at hch
   have hne:cs≠[]:=fun e=>by have:=hch.eq; rw [e] at this; simp [chV] at this; omega
   have hcp:=List.length_pos_iff.2 hne
   have hcl:cs.length≤64000000:=by
    have h1:2 ^ (cs.length - 1)≤n:=by
     have h:=hch.eq
     obtain ⟨l,c0,rfl,hc0⟩:=hch.top rfl hne
     rw [Zhq] at h
     have h2:(10 ^ 19) ^ l.length * 1≤(10 ^ 19) ^ l.length * c0:=Nat.mul_le_mul_left _ hc0
     have h3:2 ^ l.length≤(10 ^ 19) ^ l.length:=Nat.pow_le_pow_left (by decide) _
     rw [List.length_append,List.length_singleton,Nat.add_sub_cancel]
     omega
    have:=ZfE.2 h1
    omega
   have HText:=zh (ZrM hch hn)
   have HLt:=zh hch.lt
   obtain ⟨g,rfl,hOg,hCg,_,_⟩:=hI.out.buf.open_ hne
   have HOg:=zh hOg
   have hbx:=hI.out.box
   have hgn:=hI.out.news g ⟨_,rfl,rfl⟩
   have HBx:=zh hbx
   have HE:=zh hI.out.ext
   have hcb:=hbx.cell 0
   have hlt0':w.heap.size < wr.heap.size:=hbx.lt
   have hglt:=hOg.lt
   clear hch hOg hCg hbx hI
   go_wp2_with fail
   refine (ZnI (some ⟨g,0,none⟩) cs.length c2 _).mono ?_
   rintro e wS ⟨rfl,rfl⟩
   go_wp2_with fail
   have hBp:Below w.heap.size w wr:=HE.out.toBelow
   have hbx2:Blk 76 ((wr.alloc (.cells #[.pointer none, .slice none 0 0] 145)).alloc (.cells #[.slice (some ⟨g,0,none⟩) cs.length c2] 76)) w.heap.size #[.slice (some ⟨g,0,none⟩) cs.length c2]:=(HBx.out.alloc _).alloc _
   have hbb:Blk 145 ((wr.alloc (.cells #[.pointer none, .slice none 0 0] 145)).alloc (.cells #[.slice (some ⟨g,0,none⟩) cs.length c2] 76)) wr.heap.size #[.pointer none, .slice none 0 0]:=(Blk.new wr _ _).alloc _
   have hbs:Blk 76 ((wr.alloc (.cells #[.pointer none, .slice none 0 0] 145)).alloc (.cells #[.slice (some ⟨g,0,none⟩) cs.length c2] 76)) (wr.heap.size + 1) #[.slice (some ⟨g,0,none⟩) cs.length c2]:=by
    have:=Blk.new (wr.alloc (.cells #[.pointer none, .slice none 0 0] 145)) 76 #[.slice (some ⟨g,0,none⟩) cs.length c2]
    rwa [World.size_alloc] at this
   have hog2:Own .u64 94 ((wr.alloc (.cells #[.pointer none, .slice none 0 0] 145)).alloc (.cells #[.slice (some ⟨g,0,none⟩) cs.length c2] 76)) g cs:=(HOg.out.alloc _).alloc _
   have hb2:Below w.heap.size w ((wr.alloc (.cells #[.pointer none, .slice none 0 0] 145)).alloc (.cells #[.slice (some ⟨g,0,none⟩) cs.length c2] 76)):=((HE.out.alloc _).alloc _).toBelow
   have hsz:((wr.alloc (.cells #[.pointer none, .slice none 0 0] 145)).alloc (.cells #[.slice (some ⟨g,0,none⟩) cs.length c2] 76)).heap.size=wr.heap.size + 2:=by rw [World.size_alloc,World.size_alloc]
   generalize ((wr.alloc (.cells #[.pointer none, .slice none 0 0] 145)).alloc (.cells #[.slice (some ⟨g,0,none⟩) cs.length c2] 76))=wS at *
   refine (wpIn_wide (n:=3)).1 ?_
   refine wpIn_rangeFunc_ownF (n:=3) rfl (by decide) (gf:=150) (lb:=#[.pointer (some ⟨wr.heap.size + 1,0,none⟩)]) rfl trivial (enters_of Tryz.func150 (by kernel_rfl) rfl)
    (Zlh 2 (wr.heap.size + 1) g c2 cs (by decide) (by omega) wS (by omega) (by omega) (hbs.cell 0) (fun j hj=>hog2.cell hj)) KpS.trans (fun W q o o' hq _ _ _=>⟨World.putObj_heap_other (by omega),World.putObj_heap_other (by omega)⟩) (Below.refl _ _) (fun _=>rfl)
    (fun pre W=>DcJ w wr.heap.size g c2 cs (Zbh cs pre) W) (fun _ _ _=>False)
    (fun pre A B row h hg hr=>h.kept hg hr (by omega)) (fun _ _ _ _ _ h _ _=>h)
    ⟨hb2,by omega,Or.inl ⟨by omega, .slice none 0 0,hbb,⟨rfl,Or.inl ⟨rfl,rfl⟩⟩,by simp [Value.ownBlock]⟩,hbx2,hbs,hog2⟩ ?a1 ?assign ?body ?done ?stop
   case assign =>
    intro l x W K hK
    gi_wp2
    exact hK
   case stop =>
    rintro D c pre W _ _ h _
    exact h.elim
   case body =>
    rintro l pre x W hJ hlen
    obtain ⟨u,hu⟩:∃ u,cs[x]?.getD 0=u:=⟨_,rfl⟩
    have hu19:u < 10 ^ 19:=by
     rw [← hu]
     rcases Nat.lt_or_ge x cs.length with hj | hj
     ·rw [List.getElem?_eq_getElem hj]; exact HLt.out _ (List.getElem_mem hj)
     ·rw [List.getElem?_eq_none hj]; decide
    rw [hu]
    have hdl:=Zpr hu19
    have hfu:=Zlg u W (HG.out.ext (Fr.ofBelow hJ.below)) (by rw [Zam]; exact Nat.lt_trans hu19 (by decide))
    have htl:=Zl4 HLt.out pre
    have hsz1:=hJ.below.size
    have HU:=zh hu
    have HFU:=zh hfu
    have HJ:=zh hJ
    have hcx:=hJ.box.cell 0
    clear hu hu19 hfu hJ
    obtain ⟨D,hD⟩:∃ D,Lib.decDigits u=D:=⟨_,rfl⟩
    rw [hD] at hdl
    gi_wp2_with fail
    refine ⟨trivial,((callsIn_wide.2 HFU.out).inRound l).mono ?_⟩
    rintro e W1 ⟨rfl,hE1⟩
    rw [hD]
    have HD:=zh hD
    obtain ⟨hJ1,hK1,hS1⟩:=HJ.out.step hE1
    have hcx1:=hJ1.box.cell 0
    have HJ1:=zh hJ1
    have HK1:=zh hK1
    have HS1:=zh hS1
    clear hJ1 hK1 hS1 hE1 hD hcx
    by_cases hx:x + 1 < cs.length
    ·gi_wp2_with fail
     rw [show (19:Int) - (D.length:Int)=((19 - D.length:Nat):Int) by omega]
     refine ⟨trivial,((callsIn_wide.2 (ZnK (19 - D.length) W1 (by omega))).inRound l).mono ?_⟩
     rintro e W2 ⟨rfl,hE2⟩
     obtain ⟨hJ2,hK2,hS2⟩:=HJ1.out.step hE2
     have HJ2:=zh hJ2
     have HK2:=zh (HK1.out.trans hK2)
     have HS2:=zh (HS1.out.trans hS2)
     clear hJ2 hK2 hS2 hE2
     gi_wp2_with fail
     refine ⟨trivial,((callsIn_wide.2 (Zfq w.heap.size wr.heap.size (Zbh cs pre) (List.replicate (19 - D.length) 48) W2 HJ2.out.bd (by rw [List.length_replicate]; omega) HJ2.out.below.size)).inRound l).mono ?_⟩
     rintro e W3 ⟨rfl,h1,h2,h3⟩
     obtain ⟨hJ3,hK3,hS3⟩:=HJ2.out.write hlt0' hglt h1 h2 h3
     have HJ3:=zh hJ3
     have HK3:=zh (HK2.out.trans hK3)
     have HS3:=zh (HS2.out.trans hS3)
     clear hJ3 hK3 hS3 h1 h2 h3
     gi_wp2_with fail
     refine ⟨trivial,((callsIn_wide.2 (Zfq w.heap.size wr.heap.size (Zbh cs pre ++ List.replicate (19 - D.length) 48) D W3 HJ3.out.bd (by rw [List.length_append,List.length_replicate]; omega) HJ3.out.below.size)).inRound l).mono ?_⟩
     rintro e W4 ⟨rfl,h1,h2,h3⟩
     obtain ⟨hJ4,hK4,hS4⟩:=HJ3.out.write hlt0' hglt h1 h2 h3
     have HJ4:=zh hJ4
     have HK4:=zh (HK3.out.trans hK4)
     have HS4:=zh (HS3.out.trans hS4)
     clear hJ4 hK4 hS4 h1 h2 h3
     gi_wp2
     refine ⟨HK4.out,HS4.out,?_⟩
     show DcJ w wr.heap.size g c2 cs (Zbh cs (pre ++ [x])) W4
     rw [Zhr,Zgw,if_pos hx,HU.out,HD.out,← List.append_assoc]
     exact HJ4.out
    ·gi_wp2_with fail
     refine ⟨trivial,((callsIn_wide.2 (Zfq w.heap.size wr.heap.size (Zbh cs pre) D W1 HJ1.out.bd (by omega) HJ1.out.below.size)).inRound l).mono ?_⟩
     rintro e W4 ⟨rfl,h1,h2,h3⟩
     obtain ⟨hJ4,hK4,hS4⟩:=HJ1.out.write hlt0' hglt h1 h2 h3
     have HJ4:=zh hJ4
     have HK4:=zh (HK1.out.trans hK4)
     have HS4:=zh (HS1.out.trans hS4)
     clear hJ4 hK4 hS4 h1 h2 h3
     gi_wp2
     refine ⟨HK4.out,HS4.out,?_⟩
     show DcJ w wr.heap.size g c2 cs (Zbh cs (pre ++ [x])) W4
     rw [Zhr,Zgw,if_neg hx,HU.out,HD.out]
     exact HJ4.out
   case done =>
    rintro D ys W hD rfl hJ hK
    have hbd:=hJ.bd
    rw [HText.out] at hbd
    have hst:=Tryz.Builder_String_any_k w.heap.size wr.heap.size (Lib.decDigits n) W hbd hJ.below.size
    have hsz1:=hJ.below.size
    have HSt:=zh hst
    have HJ:=zh hJ
    clear hbd hst hJ
    go_wp2_with fail
    refine HSt.out.mono ?_
    rintro e W2 ⟨rfl,_,hB2,hO2⟩
    have hK2:W2.heap[D]? = some (.deferred (some [])):=Zgx hO2 hK (by omega) (fun c fz e=>by cases e)
    have hfin:=Zjq (HJ.out.below.trans hB2) (Nat.le_refl _) (grownBy_putObj' W2 D (.deferred none)) (n:=wS.heap.size) (fun r e=>by cases e; exact hD) (by omega)
    have HFin:=zh hfin
    clear hfin hB2 hO2
    go_wp2
    refine ⟨by simp, .inl ⟨_,_,rfl,run_takeDeferred hK2,?_⟩⟩
    exact ⟨_,results_tmp rfl _ _ _,rfl,Fr.ofBelow HFin.out⟩
set_option maxHeartbeats 1000000 in
theorem ZnN (A:Option Addr) (l c n:Nat) (w:World) (hg:Glob w) (hN:Zal w (.slice A l c) n) (hw:wl n≤1000000):Calls Tryz.prog 67 #[.slice A l c] w (Zf6 w (Lib.decDigits n)):=by
 rcases Nat.eq_zero_or_pos n with rfl | hn
 ·exact ZnM A l c w hN
 ·obtain ⟨A',xs,c',e,h1,h2,h3,h4,h5⟩:=hN
  injection e with e1 e2 e3
  subst e1 e2 e3
  rw [← h5,← ZaN h3 h4] at hw
  refine ZoK A xs c n w hg hn h2 h3 h4 h5 hw ?_
  rcases Nat.eq_zero_or_pos xs.length with h | h
  ·rw [List.eq_nil_of_length_eq_zero h] at h5; simp at h5; omega
  ·exact h
end Go.Proofs.YtklpdkpcocnglaaGreatDoor

namespace Go.Proofs.YtklpdkpcocnglaaGreatDoor
open Go.RowKit
def ldR (l:List UInt8) (x:Int):FR:=if fvB l x=true then ⟨(Zay l).1,Zag (Zay l).2,x,0⟩ else ⟨false,0,0,0⟩
def shLd (v:Bool) (r:FR) (x:ShN):Value:=.tuple #[.agg #[.bool r.s, .slice x.1 x.2.1 x.2.2, .int .i64 r.e], .bool v]
def Zfg (w:World) (v:Bool) (r:FR) (e:Ending) (w':World):Prop:=∃ x:ShN,e=.returned (shLd v r x)∧Zal w' (Za7 x) r.m∧Ext w w'
theorem Zez {w w':World} {e:Ending} {v:Bool} {r:FR} (h:Zfg w v r e w'):Zbx (shLd v r) (fun x w=>Zal w (Za7 x) r.m) w e w':=by
 obtain ⟨x,rfl,hI,Q⟩:=h
 exact ⟨x,rfl,Q,boxn Q (fun S w'' hS hF=>hI.nrb hS hF)⟩
def frT (r:FR):List UInt8:=if r.err=0 then Lib.itoa (sg r.s r.m) else []
def frE (r:FR):Int:=if r.err=0 then r.e else 0
abbrev ZiR (w:World) (r:FR):Ending→World→Prop:=RetV w (.tuple #[.agg #[.string ⟨(frT r).toArray⟩, .int .i64 (frE r)], .int .i64 r.err])
def Fine (r:FR):Prop:=(r.s=true→0 < r.m)∧wl r.m≤1000000
theorem ZjK (k:Int):Fine ⟨false,0,0,k⟩:=⟨(fun h=>by cases h),(by show (0:Nat)≤1000000; decide)⟩
theorem ZrO {s:Bool} {n:Nat} {e:Int} (h:wl n≤1000000):Fine (ZbU s n e):=by
 unfold ZbU
 split
 ·exact ZjK 0
 ·rename_i h0
  split
  ·obtain ⟨h1,h2⟩:=Zdk (show 0 < n by omega)
   exact ⟨fun _=>by show 0 < oddM n; omega,Nat.le_trans (Zcm (Nat.div_le_self _ _)) h⟩
  ·exact ZjK 2
theorem ZrP {s:Bool} {n d bits:Nat} {e:Int} (hd:0 < d) (hb:0 < bits) (hb2:bits≤4096):Fine (Zcf s n d e bits):=by
 unfold Zcf
 split
 ·exact ZjK 0
 ·refine ZrO ?_
  have h1:=Zfn (n:=n) (d:=d) (bits:=bits) (by omega) hd hb
  have h2:=(ZiO (fa n (rndK n d bits)) (fb d (rndK n d bits))).2
  have h3:fa n (rndK n d bits) / fb d (rndK n d bits) < 2 ^ bits:=by
   have:=Zc6 (fq n d (rndK n d bits))
   rw [h1] at this
   exact this
  have h4:rndM n d bits≤2 ^ bits:=by unfold rndM; omega
  have h5:wl (2 ^ bits)≤1000:=ZkB (by omega)
  have:=Zcm h4
  omega
theorem ZtS (n:Nat):(Lib.decDigits n).length≤20 * wl n + 1:=by
 rw [Lib.decDigits_length]
 refine ZgD (20 * wl n) n ?_
 have h1:=ZiD n
 have h2:W64 ^ wl n≤(10 ^ 20) ^ wl n:=Nat.pow_le_pow_left (by rw [Zam]; decide) _
 rw [← Nat.pow_mul] at h2
 have h3:10 ^ (20 * wl n)≤10 ^ (20 * wl n + 1):=Nat.pow_le_pow_right (by decide) (by omega)
 omega
theorem ZcY {l:List UInt8} {x:Int} (h:fvB l x=true) : -1048576≤x∧x≤1048576∧(Zay l).2.all Zat=true∧((Zay l).1=true→0 < Zag (Zay l).2):=by
 unfold fvB at h
 by_cases hs:l=[48]
 ·rw [if_pos hs] at h
  have:=of_decide_eq_true h
  subst hs
  exact ⟨by omega,by omega,by decide,fun h=>by cases h⟩
 ·rw [if_neg hs] at h
  obtain ⟨_,_,h3,h4,h5⟩:=of_decide_eq_true h
  exact ⟨h3.1,h3.2,h4,fun _=>by omega⟩
theorem ZeL (l:List UInt8):(Zay l).2.length≤l.length:=by
 unfold Zay; split
 ·simp
 ·exact Nat.le_refl _
theorem ZkJ {l:List UInt8} {x:Int} (hl:l.length≤100000):wl (ldR l x).m≤100000:=by
 unfold ldR
 split
 ·rename_i h
  have h1:=ZcY h
  have h2:=Zbl _ h1.2.2.1
  have h3:=ZeL l
  exact Zf1 h2 (by omega)
 ·show (0:Nat)≤100000; decide
theorem Zdd (s:ByteArray) (x:Int) (w:World) (hs:(bytes s).length≤100000) :
 Calls Tryz.prog 64 #[.agg #[.string s, .int .i64 x]] w (Zfg w (fvB (bytes s) x) (ldR (bytes s) x)):=by
 refine Zaz (Φ:=fun w=>True) Tryz.func64 rfl (by kernel_rfl) (fun w' hf=>trivial) ?_
 refine Zac ?_
 by_cases hv:fvB (bytes s) x=true
 ·refine Zab (xq 3 [(1, .p 1 0),(2, .p 2 0),(3, .v (.bool false))] [(2,79,[.v (.bool false), .v (.slice none 0 0), .v (.int .i64 0)]),(1,24,[.v (.string s), .v (.int .i64 x)])] ?_)
  refine xe (Zaa (Zac (Zac (Zab (xq 1 [(6, .v (.agg #[.string s, .int .i64 x]))] [] ?_)))))
  refine xqc 19 [.agg #[.string s, .int .i64 x]] 7 (fun _:Unit=>.bool true) _ (fun w R Q=>(Zho s x _ (by omega)).mono (fun _ _ h=>Zad h (by rw [hv]))) (fun xx=>?_)
  refine xq 1 [(8, .v (.bool false))] [] ?_
  refine xe (Zaa (xb (Zap (Zaa (Zac (Zac ?_))))))
  by_cases h48:bytes s=[48]
  ·refine Zab (xq 3 [(12, .v (.bool ((s:ByteArray).toList == (⟨#[48]⟩:ByteArray).toList)))] [] ?_)
   rw [Zph h48]
   refine xe (Zaa (xa (Zac (Zab (xq 3 [(3, .v (.bool true))] [] ?_)))))
   refine xe (Zaa (Zaj (Zak ?_)))
   refine Zaf (v:=.tuple #[.agg #[.bool false, .slice none 0 0, .int .i64 0], .bool true]) (by kernel_rfl) (fun w' R Q=>?_)
   have hx:x=0:=by have h:=hv; unfold fvB at h; rw [if_pos h48] at h; exact of_decide_eq_true h
   have hld:ldR (bytes s) x=⟨false,0,0,0⟩:=by unfold ldR; rw [if_pos hv,h48,hx]; rfl
   rw [hv,hld]
   exact ⟨(none,0,0),rfl,Zal.zero _,R⟩
  ·refine Zab (xq 3 [(12, .v (.bool ((s:ByteArray).toList == (⟨#[48]⟩:ByteArray).toList)))] [] ?_)
   rw [Zpi h48]
   refine xe (Zaa (xb (Zap (Zaa (Zac (Zab (xq 2 [(16, .v (.string s))] [] ?_)))))))
   refine xqc 63 [.string s] 17 ZkI _ (fun w R Q=>(Zin s _).mono (fun _ _=>Zim)) (fun xx=>?_)
   obtain ⟨r,neg⟩:=xx
   refine xq 5 [(4, .v (.bool neg)),(5, .v (.string r))] [] ?_
   refine xe (Zaa (Zac ?_))
   refine SXc.know (p:=Zay (bytes s)=(neg,bytes r)) (fun w _ Q=>Q.2) (fun HM=>?_)
   have hfv:=ZcY hv
   rw [HM] at hfv
   have hdig:(bytes r).all Zat=true:=hfv.2.2.1
   have hrl:=ZeL (bytes s)
   rw [HM] at hrl
   have hrz:r.size≤100000:=by rw [← Zao]; exact Nat.le_trans hrl hs
   have hwl:wl (Zag (bytes r))≤100000:=Zf1 (Zbl _ hdig) (Nat.le_trans hrl hs)
   refine ZaC 6 (by kernel_rfl) (by kernel_rfl) Zah ?_
   refine xqg 2 [(20, .v (.bool neg)),(21, .v (.string r))] ?_
   refine xqd 100 [.string r] 22 Za7 _ (fun w R Q=>(Zhs r _ (Zag (bytes r)) hdig rfl (by omega) (by omega)).mono (fun _ _=>Zbd)) (fun xx=>?_)
   obtain ⟨A10,l10,c10⟩:=xx
   refine xqg 3 [(25, .v (.agg #[.bool neg, .slice A10 l10 c10, .int .i64 x]))] ?_
   refine xz (xq 2 [(3, .v (.bool true))] [(2,79,[.v (.bool neg), .v (.slice A10 l10 c10), .v (.int .i64 x)])] ?_)
   refine xe (Zaa (Zaj ?_))
   refine Zaf (v:=.tuple #[.agg #[.bool neg, .slice A10 l10 c10, .int .i64 x], .bool true]) (by kernel_rfl) (fun w' R Q=>?_)
   rw [hv,show ldR (bytes s) x=⟨neg,Zag (bytes r),x,0⟩ from by unfold ldR; rw [if_pos hv,HM]]
   exact ⟨(A10,l10,c10),rfl,Q.2,R⟩
 ·refine Zab (xq 3 [(1, .p 1 0),(2, .p 2 0),(3, .v (.bool false))] [(2,79,[.v (.bool false), .v (.slice none 0 0), .v (.int .i64 0)]),(1,24,[.v (.string s), .v (.int .i64 x)])] ?_)
  refine xe (Zaa (Zac (Zac (Zab (xq 1 [(6, .v (.agg #[.string s, .int .i64 x]))] [] ?_)))))
  refine xqc 19 [.agg #[.string s, .int .i64 x]] 7 (fun _:Unit=>.bool false) _ (fun w R Q=>(Zho s x _ (by omega)).mono (fun _ _ h=>Zad h (by rw [Bool.eq_false_iff.2 hv]))) (fun xx=>?_)
  refine xq 1 [(8, .v (.bool true))] [] ?_
  refine xe (Zaa (xa (Zac (Zab (xq 3 [(3, .v (.bool false))] [] ?_)))))
  refine xe (Zaa (Zaj (Zak ?_)))
  refine Zaf (v:=.tuple #[.agg #[.bool false, .slice none 0 0, .int .i64 0], .bool false]) (by kernel_rfl) (fun w' R Q=>?_)
  rw [Bool.eq_false_iff.2 hv,show ldR (bytes s) x=⟨false,0,0,0⟩ from if_neg hv]
  exact ⟨(none,0,0),rfl,Zal.zero _,R⟩
theorem ZoL (s:Bool) (A:Option Addr) (l c m:Nat) (e:Int) (w:World) (hg:Glob w) (hN:Zal w (.slice A l c) m) (hw:wl m≤1000000) (hs:s=true→0 < m) :
 Calls Tryz.prog 97 #[.agg #[.bool s, .slice A l c, .int .i64 e]] w (RetV w (.agg #[.string ⟨(Lib.itoa (sg s m)).toArray⟩, .int .i64 e])):=by
 refine Zaz (Φ:=fun w=>(Glob w∧Zal w (.slice A l c) (m))) Tryz.func97 rfl (by kernel_rfl) (fun w' hf=>⟨hg.ext hf,hN.ext hf⟩) ?_
 refine Zac (Zab (xq 2 [(1, .p 1 0),(2, .p 2 0)] [(2,24,[.v (.string ⟨#[]⟩), .v (.int .i64 0)]),(1,79,[.v (.bool s), .v (.slice A l c), .v (.int .i64 e)])] ?_))
 refine xe (Zaa (Zac (Zab (xq 2 [eS1 5 A l c] [] ?_))))
 refine xqc 67 [.slice A l c] 6 (fun _:Unit=>.string ⟨(Lib.decDigits m).toArray⟩) _ (fun w R Q=>(ZnN A l c m _ Q.1 Q.2 (by omega)).mono (fun _ _ h=>Zad h rfl)) (fun xx=>?_)
 refine xq 1 [(3, .v (.string ⟨(Lib.decDigits m).toArray⟩))] [] ?_
 refine xe (Zaa (Zac (Zac (Zab (xq 2 [(8, .v (.bool s))] [] ?_)))))
 refine xe (Zaa ?_)
 refine ZaA (s) (by kernel_rfl) (fun hb10=>?_) (fun hb10=>?_)
 ·have hs1:=hb10
  refine Zab (xq 1 [(9, .v (.string ⟨(Lib.decDigits m).toArray⟩))] [] ?_)
  refine ZcO 10 (.string ⟨(45 :: Lib.decDigits m).toArray⟩) (by kernel_rfl) (by kernel_rfl) (by kernel_rfl) (by kernel_rfl) (by kernel_rfl) (by kernel_rfl) (fun w R Q=>ZpY (x:=(Operand.const (Value.string { data:=#[45] }))) (y:=(Operand.tmp 9)) (t:=9) (k:=9) (by kernel_rfl) (by kernel_rfl) (by kernel_rfl) (by have h1:=ZtS m; rw [← Zao ⟨(Lib.decDigits m).toArray⟩,Zdm]; have:(⟨#[45]⟩:ByteArray).size=1:=rfl; omega) (ZiQ [45] (Lib.decDigits m))) ?_
  refine xr 1 [(1, .p 1 0),(2, .p 2 0),(3, .v (.string ⟨(45 :: Lib.decDigits m).toArray⟩))] [(2,24,[.v (.string ⟨#[]⟩), .v (.int .i64 0)]),(1,79,[.v (.bool s), .v (.slice A l c), .v (.int .i64 e)])] ?_
  refine xe (Zaa (Zac (Zab (xq 5 [] [(2,24,[.v (.string ⟨(45 :: Lib.decDigits m).toArray⟩), .v (.int .i64 e)])] ?_))))
  refine xe (Zaa (Zaj ?_))
  refine Zaf (v:=.agg #[.string ⟨(45 :: Lib.decDigits m).toArray⟩, .int .i64 e]) (by kernel_rfl) (fun w' R Q=>?_)
  exact ⟨by rw [hs1,ZgR (neg:=true) (a:=m) (fun h=>by have:=hs hs1; omega)]; rfl,R⟩
 ·have hs1:=hb10
  refine Zap (Zaa (Zac (Zab (xq 5 [] [(2,24,[.v (.string ⟨(Lib.decDigits m).toArray⟩), .v (.int .i64 e)])] ?_))))
  refine xe (Zaa (Zaj ?_))
  refine Zaf (v:=.agg #[.string ⟨(Lib.decDigits m).toArray⟩, .int .i64 e]) (by kernel_rfl) (fun w' R Q=>?_)
  exact ⟨by rw [hs1,ZgR (neg:=false) (a:=m) (fun _=>rfl)]; rfl,R⟩
theorem ZoM (r:FR) (A:Option Addr) (l c:Nat) (w:World) (hg:Glob w) (hN:Zal w (.slice A l c) r.m) (hF:Fine r) :
 Calls Tryz.prog 56 #[.agg #[.bool r.s, .slice A l c, .int .i64 r.e], .int .i64 r.err] w (ZiR w r):=by
 refine Zaz (Φ:=fun w=>(Glob w∧Zal w (.slice A l c) (r.m))) Tryz.func56 rfl (by kernel_rfl) (fun w' hf=>⟨hg.ext hf,hN.ext hf⟩) ?_
 refine Zac (Zab (xq 3 [(2, .p 2 0),(4, .p 4 0),(5, .v (.int .i64 0))] [(4,24,[.v (.string ⟨#[]⟩), .v (.int .i64 0)]),(2,79,[.v (.bool r.s), .v (.slice A l c), .v (.int .i64 r.e)])] ?_))
 refine xe (Zaa (Zac (Zac (Zab (xq 2 [(7, .v (.bool ((r.err:Int) != 0)))] [] ?_)))))
 refine xe (Zaa ?_)
 refine ZaA (((r.err:Int) != 0)) (by kernel_rfl) (fun hb10=>?_) (fun hb10=>?_)
 ·have hb10':=ZdW hb10
  refine Zac (Zab (xq 4 [(5, .v (.int .i64 r.err))] [] ?_))
  refine xe (Zaa (Zaj (Zak ?_)))
  refine Zaf (v:=.tuple #[.agg #[.string ⟨#[]⟩, .int .i64 0], .int .i64 r.err]) (by kernel_rfl) (fun w' R Q=>?_)
  exact ⟨by rw [show frT r=[] from if_neg (by omega),show frE r=0 from if_neg (by omega)],R⟩
 ·have hb10':=ZdX hb10
  refine Zap (Zaa (Zac (Zab (xq 1 [(10, .v (.agg #[.bool r.s, .slice A l c, .int .i64 r.e]))] [] ?_))))
  refine xqc 97 [.agg #[.bool r.s, .slice A l c, .int .i64 r.e]] 11 (fun _:Unit=>.agg #[.string ⟨(Lib.itoa (sg r.s r.m)).toArray⟩, .int .i64 r.e]) _ (fun w R Q=>(ZoL r.s A l c r.m r.e _ Q.1 Q.2 hF.2 hF.1).mono (fun _ _ h=>Zad h rfl)) (fun xx=>?_)
  refine xq 2 [(5, .v (.int .i64 0))] [(4,24,[.v (.string ⟨(Lib.itoa (sg r.s r.m)).toArray⟩), .v (.int .i64 r.e)])] ?_
  refine xe (Zaa (Zaj ?_))
  refine Zaf (v:=.tuple #[.agg #[.string ⟨(Lib.itoa (sg r.s r.m)).toArray⟩, .int .i64 r.e], .int .i64 0]) (by kernel_rfl) (fun w' R Q=>?_)
  have he0:r.err=0:=by omega
  exact ⟨by rw [show frT r=Lib.itoa (sg r.s r.m) from if_pos he0,show frE r=r.e from if_pos he0,he0],R⟩
theorem ZrQ (s:ByteArray) (x:Int) (w:World) (hs:(bytes s).length≤100000) :
 Calls Tryz.prog 20 #[.agg #[.string s, .int .i64 x]] w (RetV w (.int .i64 ((blen (ldR (bytes s) x).m:Nat):Int))):=by
 refine Zaz (Φ:=fun w=>True) Tryz.func20 rfl (by kernel_rfl) (fun w' hf=>trivial) ?_
 refine Zac (Zab (xq 2 [(1, .p 1 0),(2, .v (.int .i64 0))] [(1,24,[.v (.string s), .v (.int .i64 x)])] ?_))
 refine xe (Zaa (Zac (Zab (xq 1 [(6, .v (.agg #[.string s, .int .i64 x]))] [] ?_))))
 by_cases hv:fvB (bytes s) x=true
 ·obtain ⟨r10,hr10⟩:∃ r,ldR (bytes s) x=r:=⟨_,rfl⟩
  have hfv:=ZcY hv
  have hwl:wl r10.m≤100000:=by rw [← hr10]; exact ZkJ hs
  have hre:r10.e=x:=by rw [← hr10,show ldR (bytes s) x=_ from if_pos hv]
  have hrs:r10.s=true→0 < r10.m:=by rw [← hr10,show ldR (bytes s) x=_ from if_pos hv]; exact hfv.2.2.2
  refine xqc 64 [.agg #[.string s, .int .i64 x]] 7 (shLd true r10) _ (fun w R Q=>((show Calls _ _ _ _ (Zfg w true r10) from by rw [← hr10,← hv]; exact Zdd s x _ hs)).mono (fun _ _=>Zez)) (fun xx=>?_)
  obtain ⟨A10,l10,c10⟩:=xx
  refine xq 6 [(3, .p 3 0)] [(3,79,[.v (.bool r10.s), .v (.slice A10 l10 c10), .v (.int .i64 r10.e)])] ?_
  refine xe (Zaa (Zac (Zab (xq 2 [eS1 11 A10 l10 c10] [] ?_))))
  refine xqc 65 [.slice A10 l10 c10] 12 (fun _:Unit=>.int .i64 ((blen r10.m:Nat):Int)) _ (fun w R Q=>(ZcX Q.2 (by omega)).mono (fun _ _ h=>Zad h rfl)) (fun xx=>?_)
  refine xq 1 [(2, .v (.int .i64 ((blen r10.m:Nat):Int)))] [] ?_
  refine xe (Zaa (Zaj ?_))
  refine Zaf (v:=.int .i64 ((blen r10.m:Nat):Int)) (by kernel_rfl) (fun w' R Q=>?_)
  exact ⟨by rw [hr10],R⟩
 ·obtain ⟨r11,hr11⟩:∃ r,ldR (bytes s) x=r:=⟨_,rfl⟩
  refine xqc 64 [.agg #[.string s, .int .i64 x]] 7 (shLd false r11) _ (fun w R Q=>((show Calls _ _ _ _ (Zfg w false r11) from by rw [← hr11,← Bool.eq_false_iff.2 hv]; exact Zdd s x _ hs)).mono (fun _ _=>Zez)) (fun xx=>?_)
  obtain ⟨A11,l11,c11⟩:=xx
  refine xq 6 [(3, .p 3 0)] [(3,79,[.v (.bool r11.s), .v (.slice A11 l11 c11), .v (.int .i64 r11.e)])] ?_
  refine xe (Zaa (Zac (Zab (xq 2 [eS1 11 A11 l11 c11] [] ?_))))
  refine xqc 65 [.slice A11 l11 c11] 12 (fun _:Unit=>.int .i64 ((blen r11.m:Nat):Int)) _ (fun w R Q=>(ZcX Q.2 (by rw [← hr11,show ldR (bytes s) x=_ from if_neg hv]; decide)).mono (fun _ _ h=>Zad h rfl)) (fun xx=>?_)
  refine xq 1 [(2, .v (.int .i64 ((blen r11.m:Nat):Int)))] [] ?_
  refine xe (Zaa (Zaj ?_))
  refine Zaf (v:=.int .i64 ((blen r11.m:Nat):Int)) (by kernel_rfl) (fun w' R Q=>?_)
  exact ⟨by rw [hr11],R⟩
end Go.Proofs.YtklpdkpcocnglaaGreatDoor

namespace Go.Proofs.YtklpdkpcocnglaaGreatDoor
open Go.RowKit
theorem Zio {l:List UInt8} {v:Rat} (h:ZaU l=some v):(Lib.itoa v.num).length≤l.length∧(Lib.itoa (v.den:Int)).length≤l.length + 1:=by
 have ht:=Zc7 h
 rw [← ht]
 unfold ZaB
 split
 ·rename_i hd
  rw [hd]
  refine ⟨Nat.le_refl _,?_⟩
  have:(Lib.itoa ((1:Nat):Int)).length=1:=by rw [ZbY,Zdz (by omega)]; rfl
  omega
 ·simp only [List.length_append,List.length_cons]
  omega
theorem Zqz {n k:Nat} (h:(Lib.decDigits n).length≤k):wl n≤k:=by
 have h1:=Zbl (Lib.decDigits n) (ZbJ n)
 rw [Zcq] at h1
 exact Zf1 h1 h
theorem Zps (z:Int):(Lib.decDigits z.natAbs).length≤(Lib.itoa z).length:=by
 have h:=ZeL (Lib.itoa z)
 rw [Zfd] at h
 exact h
noncomputable def rndF (v:Rat) (n:Nat):FR:=Zcf (decide (v.num < 0)) v.num.natAbs v.den 0 n
noncomputable def Zb7 (l:List UInt8) (b:Int):FR:=if (ZaU l).isSome=true then (if 8≤b∧b≤1024 then rndF (valF l) b.toNat else ⟨false,0,0,3⟩) else ⟨false,0,0,1⟩
theorem ZnP (s:ByteArray) (v:Rat) (n:Nat) (w:World) (hg:Glob w) (hs:(bytes s).length≤570) (hv:ZaU (bytes s)=some v) (hn1:8≤n) (hn2:n≤1024) :
 Calls Tryz.prog 57 #[.string s, .int .i64 ((n:Nat):Int)] w (ZdF w (rndF v n)):=by
 have hV:valF (bytes s)=v:=Zew hv
 have hl:=Zio hv
 refine Zaz (Φ:=fun w=>Glob w) Tryz.func57 rfl (by kernel_rfl) (fun w' hf=>hg.ext hf) ?_
 refine Zac (Zab (xq 2 [(4, .p 4 0),(5, .v (.int .i64 0))] [(4,79,[.v (.bool false), .v (.slice none 0 0), .v (.int .i64 0)])] ?_))
 refine xe (Zaa (Zac (Zab (xq 1 [(11, .v (.string s))] [] ?_))))
 refine xqc 98 [.string s] 12 (fun _:Unit=>.tuple #[.string ⟨(Lib.itoa v.num).toArray⟩, .string ⟨(Lib.itoa (v.den:Int)).toArray⟩]) _ (fun w R Q=>((show Calls _ _ _ _ (RetV w (.tuple #[.string ⟨(Lib.itoa v.num).toArray⟩, .string ⟨(Lib.itoa (v.den:Int)).toArray⟩])) from by rw [← hV]; exact Zqx s _ Q hs)).mono (fun _ _ h=>Zad h rfl)) (fun xx=>?_)
 refine xq 5 [(6, .v (.string ⟨(Lib.itoa v.num).toArray⟩)),(7, .v (.string ⟨(Lib.itoa (v.den:Int)).toArray⟩))] [] ?_
 refine xe (Zaa (Zac (Zab (xq 1 [(16, .v (.string ⟨(Lib.itoa v.num).toArray⟩))] [] ?_))))
 refine xqc 63 [.string ⟨(Lib.itoa v.num).toArray⟩] 17 ZkI _ (fun w R Q=>(Zin ⟨(Lib.itoa v.num).toArray⟩ _).mono (fun _ _=>Zim)) (fun xx=>?_)
 obtain ⟨r,neg⟩:=xx
 refine xq 5 [(8, .v (.bool neg)),(9, .v (.string r))] [] ?_
 refine xe (Zaa (Zac ?_))
 refine SXc.know (p:=Zay (bytes ⟨(Lib.itoa v.num).toArray⟩)=(neg,bytes r)) (fun w _ Q=>Q.2) (fun HM=>?_)
 rw [Zdm,Zfd] at HM
 injection HM with hneg hr
 have hrl:(bytes r).length≤570:=by rw [← hr]; have:=Zps v.num; omega
 have hrz:r.size≤570:=by rw [← Zao]; exact hrl
 have hdig:(bytes r).all Zat=true:=by rw [← hr]; exact ZbJ _
 have hval:Zag (bytes r)=v.num.natAbs:=by rw [← hr]; exact Zcq _
 have hwn:wl v.num.natAbs≤1000:=by rw [← hval]; exact Zf1 (Zbl _ hdig) (by omega)
 have hwd:wl v.den≤1000:=Zqz (by have:=hl.2; rw [ZbY] at this; omega)
 have hdl:(bytes ⟨(Lib.itoa (v.den:Int)).toArray⟩).length≤571:=by rw [Zdm]; omega
 have hdz:(⟨(Lib.itoa (v.den:Int)).toArray⟩:ByteArray).size≤571:=by rw [← Zao]; exact hdl
 refine Zab (xq 2 [(20, .v (.bool neg)),(21, .v (.string r))] [] ?_)
 refine xqc 100 [.string r] 22 Za7 _ (fun w R Q=>(Zhs r _ v.num.natAbs hdig hval (by omega) (by omega)).mono (fun _ _=>Zbd)) (fun xx=>?_)
 obtain ⟨A10,l10,c10⟩:=xx
 refine xq 1 [(23, .v (.string ⟨(Lib.itoa (v.den:Int)).toArray⟩))] [] ?_
 refine xqc 100 [.string ⟨(Lib.itoa (v.den:Int)).toArray⟩] 24 Za7 _ (fun w R Q=>(Zhs _ _ v.den (by rw [Zdm,ZbY]; exact ZbJ _) (by rw [Zdm,ZbY]; exact Zcq _) (by omega) (by omega)).mono (fun _ _=>Zbd)) (fun xx=>?_)
 obtain ⟨A11,l11,c11⟩:=xx
 refine xq 1 [(25, .v (.int .i64 ((n:Nat):Int)))] [] ?_
 obtain ⟨r12,hr12⟩:∃ r,Zcf neg v.num.natAbs v.den 0 n=r:=⟨_,rfl⟩
 refine xqc 99 [.bool neg, .slice A10 l10 c10, .slice A11 l11 c11, .int .i64 0, .int .i64 ((n:Nat):Int)] 26 (shNb r12) _ (fun w R Q=>((show Calls _ _ _ _ (ZdF w r12) from by rw [← hr12]; exact Znt neg _ _ _ _ _ _ _ _ 0 n _ Q.1.1.1.1 Q.1.2 Q.2 (by omega) (by omega) v.den_pos (by omega) (by omega) (by omega) (by omega))).mono (fun _ _=>Zev)) (fun xx=>?_)
 obtain ⟨A12,l12,c12⟩:=xx
 refine xq 4 [(5, .v (.int .i64 r12.err))] [(4,79,[.v (.bool r12.s), .v (.slice A12 l12 c12), .v (.int .i64 r12.e)])] ?_
 refine xe (Zaa (Zaj ?_))
 refine Zaf (v:=.tuple #[.agg #[.bool r12.s, .slice A12 l12 c12, .int .i64 r12.e], .int .i64 r12.err]) (by kernel_rfl) (fun w' R Q=>?_)
 rw [show rndF v n=Zcf neg v.num.natAbs v.den 0 n from by unfold rndF; rw [hneg],hr12]
 exact ⟨(A12,l12,c12),rfl,Q.2,R⟩
theorem ZkK (s:ByteArray) (b:Int) (w:World) (hg:Glob w) (hs:(bytes s).length≤570) :
 Calls Tryz.prog 15 #[.string s, .int .i64 b] w (ZiR w (Zb7 (bytes s) b)):=by
 refine Zaz (Φ:=fun w=>Glob w) Tryz.func15 rfl (by kernel_rfl) (fun w' hf=>hg.ext hf) ?_
 refine Zac (Zab (xq 2 [(4, .p 4 0),(5, .v (.int .i64 0))] [(4,24,[.v (.string ⟨#[]⟩), .v (.int .i64 0)])] ?_))
 refine xe (Zaa (Zac (Zac ?_)))
 by_cases hv:(ZaU (bytes s)).isSome=true
 ·obtain ⟨v,hrd⟩:=Option.isSome_iff_exists.1 hv
  refine Zab (xq 1 [(6, .v (.string s))] [] ?_)
  refine xqc 54 [.string s] 7 (fun _:Unit=>.bool true) _ (fun w R Q=>(Zgt s _ Q hs).mono (fun _ _ h=>Zad h (by rw [hv]))) (fun xx=>?_)
  refine xq 1 [(8, .v (.bool false))] [] ?_
  refine xe (Zaa (xb (Zap (Zaa (Zac (Zac ?_))))))
  by_cases hb:8≤b∧b≤1024
  ·obtain ⟨n,hn⟩:∃ n:Nat,b=n:=⟨b.toNat,by omega⟩
   subst hn
   refine Zab (xq 1 [(10, .v (.int .i64 ((n:Nat):Int)))] [] ?_)
   refine xqc 55 [.int .i64 ((n:Nat):Int)] 11 (fun _:Unit=>.bool true) _ (fun w R Q=>(Zjo _ _).mono (fun _ _ h=>Zad h (by rw [decide_eq_true hb]))) (fun xx=>?_)
   refine xq 1 [(12, .v (.bool false))] [] ?_
   refine xe (Zaa (xb (Zap (Zaa (Zac (Zab (xq 2 [(14, .v (.string s)),(15, .v (.int .i64 ((n:Nat):Int)))] [] ?_)))))))
   obtain ⟨r10,hr10⟩:∃ r,rndF v n=r:=⟨_,rfl⟩
   refine xqc 57 [.string s, .int .i64 ((n:Nat):Int)] 16 (shNb r10) _ (fun w R Q=>((show Calls _ _ _ _ (ZdF w r10) from by rw [← hr10]; exact ZnP s v n _ Q.1.1 hs hrd (by omega) (by omega))).mono (fun _ _=>Zev)) (fun xx=>?_)
   obtain ⟨A10,l10,c10⟩:=xx
   refine xq 2 [(17, .v (.agg #[.bool r10.s, .slice A10 l10 c10, .int .i64 r10.e])),(18, .v (.int .i64 r10.err))] [] ?_
   refine xqc 56 [.agg #[.bool r10.s, .slice A10 l10 c10, .int .i64 r10.e], .int .i64 r10.err] 19 (fun _:Unit=>.tuple #[.agg #[.string ⟨(frT r10).toArray⟩, .int .i64 (frE r10)], .int .i64 r10.err]) _ (fun w R Q=>(ZoM r10 A10 l10 c10 _ Q.1.1.1 Q.2 (by rw [← hr10]; exact ZrP v.den_pos (by omega) (by omega))).mono (fun _ _ h=>Zad h rfl)) (fun xx=>?_)
   refine xq 4 [(5, .v (.int .i64 r10.err))] [(4,24,[.v (.string ⟨(frT r10).toArray⟩), .v (.int .i64 (frE r10))])] ?_
   refine xe (Zaa (Zaj ?_))
   refine Zaf (v:=.tuple #[.agg #[.string ⟨(frT r10).toArray⟩, .int .i64 (frE r10)], .int .i64 r10.err]) (by kernel_rfl) (fun w' R Q=>?_)
   rw [show Zb7 (bytes s) ((n:Nat):Int)=rndF v n from by unfold Zb7; rw [if_pos hv,if_pos hb,Zew hrd]; rfl,hr10]
   exact ⟨rfl,R⟩
  ·refine Zab (xq 1 [(10, .v (.int .i64 b))] [] ?_)
   refine xqc 55 [.int .i64 b] 11 (fun _:Unit=>.bool false) _ (fun w R Q=>(Zjo _ _).mono (fun _ _ h=>Zad h (by rw [decide_eq_false hb]))) (fun xx=>?_)
   refine xq 1 [(12, .v (.bool true))] [] ?_
   refine xe (Zaa (xa (Zac (Zab (xq 3 [(5, .v (.int .i64 3))] [] ?_)))))
   refine xe (Zaa (Zaj (Zak ?_)))
   refine Zaf (v:=.tuple #[.agg #[.string ⟨#[]⟩, .int .i64 0], .int .i64 3]) (by kernel_rfl) (fun w' R Q=>?_)
   rw [show Zb7 (bytes s) b=⟨false,0,0,3⟩ from by unfold Zb7; rw [if_pos hv,if_neg hb]]
   exact ⟨rfl,R⟩
 ·refine Zab (xq 1 [(6, .v (.string s))] [] ?_)
  refine xqc 54 [.string s] 7 (fun _:Unit=>.bool false) _ (fun w R Q=>(Zgt s _ Q hs).mono (fun _ _ h=>Zad h (by rw [Bool.eq_false_iff.2 hv]))) (fun xx=>?_)
  refine xq 1 [(8, .v (.bool true))] [] ?_
  refine xe (Zaa (xa (Zac (Zab (xq 3 [(5, .v (.int .i64 1))] [] ?_)))))
  refine xe (Zaa (Zaj (Zak ?_)))
  refine Zaf (v:=.tuple #[.agg #[.string ⟨#[]⟩, .int .i64 0], .int .i64 1]) (by kernel_rfl) (fun w' R Q=>?_)
  rw [show Zb7 (bytes s) b=⟨false,0,0,1⟩ from if_neg hv]
  exact ⟨rfl,R⟩
end Go.Proofs.YtklpdkpcocnglaaGreatDoor

namespace Go.Proofs.YtklpdkpcocnglaaGreatDoor
open Go.RowKit
theorem ZtT (a a':ByteArray) (d d':Int) (w:World):(Op.equalIn 10000 24 (.agg #[.string a, .int .i64 d]) (.agg #[.string a', .int .i64 d'])).run Tryz.prog w =
 .ok ((a.toList == a'.toList) && (d == d')) w:=by
 have hS:Tryz.prog.underlying 24=some (.struct (Tryz.prog.fieldsOf 24)):=by kernel_rfl
 have hp:Tryz.prog.stoodInHeld 24=false:=by kernel_rfl
 have u3:=Tryz.underlying3
 have a3:=Tryz.isAgg3
 have u9:=Tryz.underlying9
 have a9:=Tryz.isAgg9
 rw [show (10000:Nat)=9999 + 1 from rfl,run_equalIn_agg w 9999 _ _ _ hS hp]
 simp only [Program.fieldsOf,Tryz.underlying24]
 go_simp
 cases h1:(a.toList == a'.toList)<;>cases h3:(d == d')<;>simp_all
theorem ZdA {o:Oper} {ρ:Operand→Value} {w:World} (x y:Operand) (k:TypeId) (a a':ByteArray) (d d':Int) (r:Bool) (ho:o.op=Op.binOp .eql 24 x y k) (hx:ρ x=.agg #[.string a, .int .i64 d]) (hy:ρ y=.agg #[.string a', .int .i64 d'])
 (hr:((a.toList == a'.toList) && (d == d'))=r):(execOp ρ o).run Tryz.prog w=.ok (.value (.bool r)) w:=by
 have hm:Tryz.prog.eqGuardType Tryz.prog.depth 24=false:=by kernel_rfl
 subst hr
 simp only [execOp,ho,hx,hy,Sem.run_bind,run_eqGuard_agg w _ _ _ _ _ _ hm,Result.andThen_ok,run_eql_struct,ZtT,Sem.run_pure]
theorem Zs3 (a:ByteArray) (d:Int):((a.toList == a.toList) && (d == d))=true:=by simp
/-! ### 5/3 to 8 bits -/
def q53:Rat:=⟨5,3,by decide,by decide⟩
theorem Zpt:ZaU [53,47,51]=some q53:=by
 rw [ZsD]
 unfold ZaB
 rw [if_neg (by decide)]
 show Lib.itoa ((5:Nat):Int) ++ [47] ++ Lib.itoa ((3:Nat):Int)=_
 rw [ZbY,ZbY,Zdz (by omega),Zdz (by omega)]; rfl
theorem ZnQ:blen 213=8:=ZiN (k:=7) (by decide) (by decide)
theorem ZuA:rndF q53 8=⟨false,213,-7,0⟩:=by
 have h0:fq 5 3 (-7)=213:=by decide
 have h1:rndK 5 3 8 = -7:=Zo4 (by decide) (by decide) (by decide) (by rw [h0,ZnQ])
 have h2:rndM 5 3 8=213:=by unfold rndM; rw [h1]; decide
 show Zcf false 5 3 0 8=_
 unfold Zcf
 rw [if_neg (by decide),h1,h2,Zns false (by decide) (by rw [ZgQ (by decide)]; omega) (by rw [ZgQ (by decide)]; omega),ZgQ (by decide),show oddM 213=213 by have:=Zo6 (o:=213) (by decide) 0; simpa using this]
 rfl
theorem ZsL:Zb7 [53,47,51] 8=⟨false,213,-7,0⟩:=by
 unfold Zb7
 rw [if_pos (by rw [Zpt]; rfl),if_pos (by omega),Zew Zpt]
 exact ZuA
theorem ZnR:Lib.itoa 213=[50,49,51]:=by
 rw [show (213:Int)=((213:Nat):Int) from rfl,ZbY]
 decide +kernel
theorem ZtU:frT ⟨false,213,-7,0⟩=[50,49,51]:=ZnR
theorem ZrR:fvB [50,49,51] (-7)=true:=by
 rw [← ZnR,Zpb]; decide
theorem ZuB:(ldR [50,49,51] (-7)).m=213:=by
 unfold ldR
 rw [if_pos ZrR]; rfl
end Go.Proofs.YtklpdkpcocnglaaGreatDoor

namespace Go.Proofs.YtklpdkpcocnglaaGreatDoor
open Go.RowKit
theorem ZtV (w:World) (hg:Glob w):Calls Tryz.prog 15 #[.string ⟨#[53,47,51]⟩, .int .i64 8] w (RetV w (.tuple #[.agg #[.string ⟨#[50,49,51]⟩, .int .i64 (-7)], .int .i64 0])):=by
 have h:=ZkK ⟨#[53,47,51]⟩ 8 w hg (by decide)
 rw [show Zb7 (bytes ⟨#[53,47,51]⟩) 8=⟨false,213,-7,0⟩ from ZsL] at h
 unfold ZiR at h
 rw [ZtU] at h
 exact h
theorem ZtW (w:World):Calls Tryz.prog 19 #[.agg #[.string ⟨#[50,49,51]⟩, .int .i64 (-7)]] w (RetV w (.bool true)):=by
 have h:=Zho ⟨#[50,49,51]⟩ (-7) w (by decide)
 rw [show fvB (bytes ⟨#[50,49,51]⟩) (-7)=true from ZrR] at h
 exact h
theorem ZuC (w:World):Calls Tryz.prog 20 #[.agg #[.string ⟨#[50,49,51]⟩, .int .i64 (-7)]] w (RetV w (.int .i64 8)):=by
 have h:=ZrQ ⟨#[50,49,51]⟩ (-7) w (by decide)
 rw [show (ldR (bytes ⟨#[50,49,51]⟩) (-7)).m=213 from ZuB,ZnQ] at h
 exact h
theorem ZbL (w:World) (hg:Glob w) :
 Calls Tryz.prog 14 #[] w (RetV w (.bool true)):=by
 refine Zaz (Φ:=fun w=>Glob w) Tryz.func14 rfl (by kernel_rfl) (fun w' hf=>hg.ext hf) ?_
 refine Zac (Zab (xq 1 [(0, .v (.bool false))] [] ?_))
 refine xe (Zaa (Zac (Zab ?_)))
 refine xqc 15 [.string ⟨#[53,47,51]⟩, .int .i64 8] 4 (fun _:Unit=>.tuple #[.agg #[.string ⟨#[50,49,51]⟩, .int .i64 (-7)], .int .i64 0]) _ (fun w R Q=>(ZtV _ Q).mono (fun _ _ h=>Zad h rfl)) (fun xx=>?_)
 refine xq 6 [(1, .p 1 0),(2, .v (.int .i64 0))] [(1,24,[.v (.string ⟨#[50,49,51]⟩), .v (.int .i64 (-7))])] ?_
 refine xe (Zaa (Zac (Zab (xq 5 [(9, .v (.bool true)),(10, .v (.agg #[.string ⟨#[50,49,51]⟩, .int .i64 (-7)])),(11, .v (.agg #[.string ⟨#[50,49,51]⟩, .int .i64 (-7)]))] [] ?_))))
 refine xqk 12 (.bool true) (fun w R Q=>ZdA (.tmp 10) (.tmp 11) 24 ⟨#[50,49,51]⟩ ⟨#[50,49,51]⟩ (-7) (-7) true (by kernel_rfl) (by kernel_rfl) (by kernel_rfl) (Zs3 _ _)) ?_
 refine xq 3 [(14, .v (.bool true)),(15, .v (.agg #[.string ⟨#[50,49,51]⟩, .int .i64 (-7)]))] [] ?_
 refine xqc 19 [.agg #[.string ⟨#[50,49,51]⟩, .int .i64 (-7)]] 16 (fun _:Unit=>.bool true) _ (fun w R Q=>(ZtW _).mono (fun _ _ h=>Zad h rfl)) (fun xx=>?_)
 refine xq 3 [(18, .v (.bool true)),(19, .v (.agg #[.string ⟨#[50,49,51]⟩, .int .i64 (-7)]))] [] ?_
 refine xqc 20 [.agg #[.string ⟨#[50,49,51]⟩, .int .i64 (-7)]] 20 (fun _:Unit=>.int .i64 8) _ (fun w R Q=>(ZuC _).mono (fun _ _ h=>Zad h rfl)) (fun xx=>?_)
 refine xq 3 [(0, .v (.bool true))] [] ?_
 refine xe (Zaa (Zaj ?_))
 refine Zaf (v:=.bool true) (by kernel_rfl) (fun w' R Q=>?_)
 exact ⟨rfl,R⟩
end Go.Proofs.YtklpdkpcocnglaaGreatDoor

namespace Go.Proofs.YtklpdkpcocnglaaGreatDoor
open Go.RowKit
theorem ZgV {w:World} {s:Bool} {A:Option Addr} {l c:Nat} {z:Int} (h:Zai w (.agg #[.bool s, .slice A l c]) z) (h0:z≠0):∃ xs,Zae .u32 w A xs∧0 < xs.length∧xs[0]?.getD 0=z.natAbs % W32∧l=xs.length∧A≠none:=by
 have hl:=h.lenp h0
 obtain ⟨A',xs,c',e,h1,h2,h3,h4,h5⟩:=h.mag
 injection e with e1 e2 e3
 subst e1 e2
 refine ⟨xs,h2,hl,?_,rfl,?_⟩
 ·cases xs with
  | nil=>simp at hl
  | cons x xs =>
    rw [Zcr] at h5
    have hx:x < W32:=h3 x (by simp)
    rw [← h5,Nat.add_mul_mod_self_left,Nat.mod_eq_of_lt hx]; rfl
 ·obtain ⟨b,o,e,_⟩:=h2.at hl
  rw [e]; simp
theorem ZuD (z:Int):z.natAbs % W32 % 2=z.natAbs % 2:=by rw [Zaq]; omega
theorem ZqA (a:Nat) (ha:a < 4294967296):bits .and .u32 (a:Int) 1=((a % 2:Nat):Int):=by
 have h1:(BitVec.ofInt 32 (a:Int)).toNat=a:=by
  rw [BitVec.ofInt_natCast,BitVec.toNat_ofNat]; exact Nat.mod_eq_of_lt (by omega)
 show IntKind.u32.wrap ((BitVec.ofInt 32 (a:Int) &&& BitVec.ofInt 32 1).toNat:Int)=_
 rw [BitVec.toNat_and,h1,show (BitVec.ofInt 32 1).toNat=1 from rfl,Nat.and_one_is_mod,IntKind.wrap_u32]; omega
set_option maxHeartbeats 1000000 in
theorem ZuE {fn:Func} {t t2:Tmp} {tmps:Array Value} {w2:World} {r:Nat} {s s0 b:Bool} {A A0:Option Addr} {l c l0 c0:Nat} {x e0:Int} {R:Ending→World→Prop}
 (hres:fn.results=#[.cell t 52, .tmp t2]) (ht:tmps[t]? = some (.pointer (some ⟨r,0,none⟩))) (ht2:tmps[t2]? = some (.bool b)) (HB:Blk 52 w2 r #[.bool s0, .slice A0 l0 c0, .int .i64 e0])
 (hR:R (.returned (.tuple #[.agg #[.bool s, .slice A l c, .int .i64 x], .bool b])) (((w2.setCell ⟨r,0,none⟩ (.bool s)).setCell ⟨r,1,none⟩ (.slice A l c)).setCell ⟨r,2,none⟩ (.int .i64 x))) :
 bodyPost Tryz.prog fn R .ret ⟨tmps,[]⟩ (((w2.setCell ⟨r,0,none⟩ (.bool s)).setCell ⟨r,1,none⟩ (.slice A l c)).setCell ⟨r,2,none⟩ (.int .i64 x)):=by
 have hB2:Blk 52 (((w2.setCell ⟨r,0,none⟩ (.bool s)).setCell ⟨r,1,none⟩ (.slice A l c)).setCell ⟨r,2,none⟩ (.int .i64 x)) r #[.bool s, .slice A l c, .int .i64 x]:=((HB.set_ 0 _).set_ 1 _).set_ 2 _
 obtain ⟨h0,h1,h2,_⟩:=hB2.cell3n
 generalize ((w2.setCell ⟨r,0,none⟩ (.bool s)).setCell ⟨r,1,none⟩ (.slice A l c)).setCell ⟨r,2,none⟩ (.int .i64 x)=W at *
 exact bodyPost_ret (v:=.tuple #[.agg #[.bool s, .slice A l c, .int .i64 x], .bool b]) (by simp [results,hres,ht,ht2,go_sem,h0,h1,h2]) rfl hR
theorem ZuF {s:Bool} {A:Option Addr} {l c:Nat} {x:Int}:ZiK #[.bool s, .slice A l c, .int .i64 x]:=by
 intro i k z; rcases i with _ | _ | _ | i<;>simp
 intro h _; exact h.symm
theorem far3 {t:TypeId} {w:World} {g r:Nat} {cs:Array Value} (h:Blk t w g cs) (hg:g≠r) (a b d:Value):Blk t (((w.setCell ⟨r,0,none⟩ a).setCell ⟨r,1,none⟩ b).setCell ⟨r,2,none⟩ d) g cs :=
 ((h.far (p:=⟨r,0,none⟩) hg a).far (p:=⟨r,1,none⟩) hg b).far (p:=⟨r,2,none⟩) hg d
theorem fr3 (w:World) (r:Nat) (a b d:Value):Fr (fun i=>i=r) w (((w.setCell ⟨r,0,none⟩ a).setCell ⟨r,1,none⟩ b).setCell ⟨r,2,none⟩ d) :=
 (((show Fr (fun i=>i=r) w w from Fr.refl _ _).setCell (p:=⟨r,0,none⟩) (Or.inl rfl) a).setCell (p:=⟨r,1,none⟩) (Or.inl rfl) b).setCell (p:=⟨r,2,none⟩) (Or.inl rfl) d
set_option maxHeartbeats 8000000 in
theorem Zl5 (s:ByteArray) (x:Int) (q:Rat) (w:World) (hs:(bytes s).length≤1000) (hrd:ZaU (bytes s)=some q) (hd1:q.den=1) (hx1 : -1048576≤x) (hx2:x≤1048576) (hz0:q.num≠0) :
 Calls Tryz.prog 35 #[.agg #[.string s, .int .i64 x]] w (fun e w'=>∃ (b:Bool) (A:Option Addr) (l c:Nat),e=.returned (.tuple #[.agg #[.bool b, .slice A l c, .int .i64 x], .bool (((q.num.natAbs % 2:Nat):Int) == 1)])∧Zai w' (.agg #[.bool b, .slice A l c]) q.num∧Ext w w'):=by
 have hsz:s.size≤65536:=by rw [← Zao]; omega
 have HS:=zh hsz
 have HR:=zh hrd
 have HD:=zh hd1
 have HZ:=zh hz0
 clear hsz hrd hd1 hz0 hs
 go_enter Tryz.func35,Tryz.ntmps35
 go_wp2_with fail
 refine (Zey s _ HS.out).mono ?_
 rintro e w1 h1
 obtain ⟨⟨s1,A1,l1,c1,t1,B1,m1,d1⟩,rfl,hE1,hN1⟩:=ZdH h1 HR.out
 have hN1:=(hN1 (fun _=>False) (fun i h=>h.elim)).self
 dsimp only at hN1
 have HN1:=zh hN1
 have HE1:=zh hE1
 clear hN1 hE1 h1
 simp only [Zbf]
 have HB1:Hid (Blk 24 w1 w.heap.size #[.string s, .int .i64 x]):=((Blk.new w 24 #[.string s, .int .i64 x]).alloc (.cells #[.bool false, .slice none 0 0, .int .i64 0] 52)).ext HE1.out
 have HB2:Hid (Blk 52 w1 (w.heap.size + 1) #[.bool false, .slice none 0 0, .int .i64 0]):=by
  have h:=Blk.new (w.alloc (.cells #[.string s, .int .i64 x] 24)) 52 #[.bool false, .slice none 0 0, .int .i64 0]
  rw [World.size_alloc] at h
  exact h.ext HE1.out
 have HE0:Hid (Ext w w1):=(((Fr.refl _ _).alloc _).alloc _).trans HE1.out
 go_wp2_with fail
 refine (Zhg _ q _ (HN1.out.ext ((Fr.refl _ _).alloc _))).mono ?_
 rintro e w2 ⟨v2,rfl,hN2,hE2⟩
 obtain ⟨s2,A2,l2,c2,rfl⟩:=hN2.shp
 have HB4:Hid (Blk 34 w2 w1.heap.size #[.bool s1, .slice A1 l1 c1, .bool t1, .slice B1 m1 d1]):=(Blk.new w1 _ _).ext hE2
 have HE2:Hid (Ext w1 w2):=((Fr.refl _ _).alloc _).trans hE2
 have HN2:=zh hN2
 clear hN2 hE2
 go_wp2_with fail
 refine (ZbT _ _ _ HN2.out (by rw [HD.out]; exact nfit (k:=1) (ZaW.2 (by rw [Zaq]; decide)) (by decide))).mono ?_
 rintro e w3 ⟨rfl,hE3⟩
 have HE3:=zh (HE2.out.trans hE3)
 have HB43:=zh (HB4.out.ext hE3)
 rw [show ((blen ((q.den:Nat):Int).natAbs:Nat):Int)=1 by rw [HD.out]; rw [show (((1:Nat):Int)).natAbs=1 from rfl,Zni]; rfl]
 have hb13:=HB1.out.ext HE3.out
 have hc1:=hb13.cell 1
 have hc4:=HB43.out.cell 0
 have hc5:=HB43.out.cell 1
 have HB13:=zh hb13
 clear hE3 hb13
 go_wp2_with fail
 have hN13:=HN1.out.ext HE3.out
 obtain ⟨s1',t1',A1',B1',l1',c1',m1',d1',e',hN13a,_⟩:=hN13
 injection e' with e'
 have e2:=congrArg Array.toList e'
 simp only [List.cons.injEq,Value.bool.injEq,Value.slice.injEq,and_true] at e2
 obtain ⟨rfl,⟨rfl,rfl,rfl⟩,rfl,⟨rfl,rfl,rfl⟩⟩:=e2
 have HNa:=zh hN13a
 clear hN13a e'
 refine (ZcD _ q.num _ HNa.out).mono ?_
 rintro e w4 ⟨rfl,hE4⟩
 have HE4:=zh (HE3.out.trans hE4)
 have HB44:=zh (HB43.out.ext hE4)
 have HB14:=zh (HB13.out.ext hE4)
 have HB24:=zh (HB2.out.ext HE4.out)
 have HN4:=zh (HNa.out.ext hE4)
 have hsg:(q.num.sign == 0)=false:=by have:=mt Int.sign_eq_zero_iff_zero.1 HZ.out; simpa using this
 clear hE4 hc1 hc4 hc5
 obtain ⟨zs,hS,hl1,hl2,hl3,_⟩:=ZgV HN4.out HZ.out
 obtain ⟨g,off,rfl,hg,hcz⟩:=hS.at hl1
 rw [hl2,Nat.add_zero] at hcz
 obtain ⟨d,hd⟩:∃ d,q.num.natAbs % W32=d:=⟨_,rfl⟩
 rw [hd] at hcz
 have hdl:d < 4294967296:=by rw [← hd,Zaq]; omega
 have hbt:=ZqA d hdl
 have hlp:0 < l1:=by omega
 have hgr:g≠w.heap.size + 1:=by
  intro e
  subst e
  rw [HB24.out.cell off] at hcz
  rcases off with _ | _ | _ | off<;>simp at hcz
 have hRow:∀ a b c:Value,(((w4.setCell ⟨w.heap.size + 1,0,none⟩ a).setCell ⟨w.heap.size + 1,1,none⟩ b).setCell ⟨w.heap.size + 1,2,none⟩ c).cell? ⟨g,off,none⟩=some (.int .u32 (d:Int)):=fun a b c=>by
  rw [(fr3 w4 (w.heap.size + 1) a b c).cell (p:=⟨g,off,none⟩) hg hgr]; exact hcz
 have HRow:=zh hRow
 have Hcz:=zh hcz
 have Hpar:Hid (d % 2=q.num.natAbs % 2):=by rw [Hid,← hd]; exact ZuD q.num
 have hs1:=HE0.out.size
 have hb4n:w1.heap.size≠w.heap.size + 1:=by have:=HB2.out.lt; omega
 obtain ⟨z0,z1,z2,z3,z4,z5⟩:=HB24.out.cell3n
 clear hS hl1 hl2 hl3 hd hRow hcz
 go_wp2_with fail
 go_region_held3 (fun w'=>w'.cell? ⟨w.heap.size,1,none⟩=some (.int .i64 x)∧w'.cell? ⟨w1.heap.size,0,none⟩=some (.bool s1)∧w'.cell? ⟨w1.heap.size,1,none⟩=some (.slice (some ⟨g,off,none⟩) l1 c1)∧w'.cell? ⟨g,off,none⟩=some (.int .u32 (d:Int)))
  (first | exact ⟨HB14.out.cell 1,HB44.out.cell 0,HB44.out.cell 1,Hcz.out⟩ | exact ⟨(far3 HB14.out (by omega) _ _ _).cell 1,(far3 HB44.out hb4n _ _ _).cell 0,(far3 HB44.out hb4n _ _ _).cell 1,HRow.out _ _ _⟩)
  (first | fail | fail)
 go_wp2
 refine ZuE rfl rfl rfl (show Blk _ w4.drew _ _ from HB24.out) ?_
 refine ⟨s1,some ⟨g,off,none⟩,l1,c1,?_,?_,?_⟩
 ·rw [← Hpar.out]; rfl
 ·exact (show Zai w4.drew _ _ from HN4.out).oth (show Blk _ w4.drew _ _ from HB24.out) ZuF (fr3 w4.drew (w.heap.size + 1) _ _ _)
 ·exact ((((HE0.out.trans HE4.out).drew).setCell (p:=⟨w.heap.size + 1,0,none⟩) (Or.inr (by simp)) _).setCell (p:=⟨w.heap.size + 1,1,none⟩) (Or.inr (by simp)) _).setCell (p:=⟨w.heap.size + 1,2,none⟩) (Or.inr (by simp)) _
end Go.Proofs.YtklpdkpcocnglaaGreatDoor

namespace Go.Proofs.YtklpdkpcocnglaaGreatDoor
open Go.RowKit
def shF (x:Int) (y:ShI):Value:=.agg #[.bool y.1, .slice y.2.1 y.2.2.1 y.2.2.2, .int .i64 x]
def shRF (v:Bool) (x:Int) (y:ShI):Value:=.tuple #[shF x y, .bool v]
def Zs4 (w:World) (z x:Int) (e:Ending) (w':World):Prop:=∃ y:ShI,e=.returned (shRF true x y)∧Zai w' (ZaE y) z∧Ext w w'
def Zs5 (w:World) (e:Ending) (w':World):Prop:=∃ y:ShI × Int,e=.returned (shRF false y.2 y.1)∧Ext w w'
theorem ZiS {w w':World} {e:Ending} {z x:Int} (h:Zs4 w z x e w'):Zbx (shRF true x) (fun y w=>Zai w (ZaE y) z) w e w':=by
 obtain ⟨y,rfl,hI,Q⟩:=h
 exact ⟨y,rfl,Q,boxn Q (fun S w'' hS hF=>hI.nrb hS hF)⟩
theorem ZiT {w w':World} {e:Ending} (h:Zs5 w e w'):Zbx (fun y:ShI × Int=>shRF false y.2 y.1) (fun _ _=>True) w e w':=by
 obtain ⟨y,rfl,Q⟩:=h
 exact ⟨y,rfl,Q,BoxN.pure trivial⟩
theorem Zip {P:Program} {o:Oper} {ρ:Operand→Value} {w:World} {t k:TypeId} {x y:Operand} {a:Nat} (ho:o.op=Op.binOp .and t x y k) (hx:ρ x=.int .u32 ((a:Nat):Int)) (hy:ρ y=.int .u32 1) (ha:a < 4294967296):(execOp ρ o).run P w=.ok (.value (.int .u32 ((a % 2:Nat):Int))) w:=by
 have h:bits .and .u32 (a:Int) 1=((a % 2:Nat):Int):=by
  have h1:(BitVec.ofInt 32 (a:Int)).toNat=a:=by
   rw [BitVec.ofInt_natCast,BitVec.toNat_ofNat]; exact Nat.mod_eq_of_lt (by omega)
  show IntKind.u32.wrap ((BitVec.ofInt 32 (a:Int) &&& BitVec.ofInt 32 1).toNat:Int)=_
  rw [BitVec.toNat_and,h1,show (BitVec.ofInt 32 1).toNat=1 from rfl,Nat.and_one_is_mod,IntKind.wrap_u32]; omega
 rw [← h]
 simp only [execOp,ho,hx,hy,eqGuard,binOp]
 rfl
theorem Zs6 {l:List UInt8} {x:Int} (h:fvB l x=true):ZaU l=some ((flM l:Int):Rat)∧((flM l=0∧x=0)∨(flM l % 2=1∧okE x)):=by
 obtain ⟨h1,h2⟩:=Zpa h
 exact ⟨by rw [h1,Zf5]; exact ZlU _,h2⟩
theorem Ziq:ml ((1:Nat))≤65536:=Nat.le_trans (ZaW.2 (show (1:Nat) < W32 ^ 1 by rw [Zaq]; decide)) (by decide)
theorem ZnS {w:World} {s:Bool} {A:Option Addr} {l c:Nat} {z:Int} (h:Zai w (.agg #[.bool s, .slice A l c]) z):Zaw w (.agg #[.bool s, .slice A l c, .bool false, .slice none 0 0]) ((z:Int):Rat) :=
 ⟨s,false,A,none,l,c,0,0,rfl,h,Zai.nil w⟩
theorem ZtX (z:Int):ZaB ((z:Int):Rat)=Lib.itoa z:=by
 exact ZsH z
theorem ZrS {w:World} {s:Bool} {A:Option Addr} {l c:Nat} {z:Int} (h:Zai w (.agg #[.bool s, .slice A l c]) z) (hz:ml z.natAbs≤65536):Calls Tryz.prog 31 #[.agg #[.bool s, .slice A l c, .bool false, .slice none 0 0]] w (RetV w (.string ⟨(Lib.itoa z).toArray⟩)):=by
 have h1:=Zik _ _ _ (ZnS h) hz (Ziq)
 rwa [ZtX] at h1
theorem Zht (s:ByteArray) (x z:Int) (w:World) (hs:(bytes s).length≤1000) (hv:fvB (bytes s) x=true) (hz:flM (bytes s)=z) :
 Calls Tryz.prog 35 #[.agg #[.string s, .int .i64 x]] w (Zs4 w z x):=by
 obtain ⟨hrd,hor⟩:=Zs6 hv
 rw [hz] at hrd hor
 have hsz:s.size≤65536:=by rw [← Zao]; omega
 have hx:=ZcY hv
 have hx1:=hx.1
 have hx2:=hx.2.1
 rcases Decidable.em (z=0) with hz0 | hz0
 rotate_left
 ·refine (Zl5 s x _ w hs hrd rfl hx1 hx2 (show z≠0 from hz0)).mono ?_
  rintro e w' ⟨b,A,l,c,rfl,hN,R⟩
  exact ⟨(b,A,l,c),by rw [show ((((z:Int):Rat).num.natAbs % 2:Nat):Int)=1 from by show ((z.natAbs % 2:Nat):Int)=1; omega]; rfl,hN,R⟩
 refine Zaz (Φ:=fun w=>True) Tryz.func35 rfl (by kernel_rfl) (fun w' hf=>trivial) ?_
 refine Zac (Zab (xq 3 [(1, .p 1 0),(2, .p 2 0),(3, .v (.bool false))] [(2,52,[.v (.bool false), .v (.slice none 0 0), .v (.int .i64 0)]),(1,24,[.v (.string s), .v (.int .i64 x)])] ?_))
 refine xe (Zaa (Zac (Zab (xq 2 [(8, .v (.string s))] [] ?_))))
 refine xqc 18 [.string s] 9 (fun x:ShQ=>.tuple #[Zbf x, .bool true]) _ (fun w R Q=>(Zey s _ hsz).mono (fun _ _ h=>ZdH h hrd)) (fun xx=>?_)
 obtain ⟨s10,A11,l12,c13,t14,B15,m16,d17⟩:=xx
 refine xq 6 [(4, .p 4 0),(5, .v (.bool true))] [bR4 4 34 s10 A11 l12 c13 t14 B15 m16 d17] ?_
 refine xe (Zaa (Zac (Zac (Zab (xq 4 [(14, .v (.bool false)),eR4 15 s10 A11 l12 c13 t14 B15 m16 d17] [] ?_)))))
 refine xqc 79 [vR4 s10 A11 l12 c13 t14 B15 m16 d17] 16 ZaE _ (fun w R Q=>(Zhg _ (((z:Int):Rat)) _ Q.2).mono (fun _ _ h=>ZaH (by rw [show ((((z:Int):Rat)).den:Int)=1 from rfl] at h; exact h))) (fun xx=>?_)
 obtain ⟨s18,A18,l18,c18⟩:=xx
 refine xqc 37 [vI2 s18 A18 l18 c18] 17 (fun _:Unit=>.int .i64 1) _ (fun w R Q=>(ZbT _ _ _ Q.2 (nfit (k:=1) (ZaW.2 (by rw [Zaq]; decide)) (by decide))).mono (fun _ _ h=>Zad h (by rw [show (1:Int).natAbs=1 from rfl,Zni]; rfl))) (fun xx=>?_)
 refine xq 6 [(20, .v (.bool false)),(23, .v (.bool (decide (x < (-1048576)))))] [] ?_
 rw [(show decide (x < (-1048576))=false from decide_eq_false (by omega))]
 refine xq 5 [(25, .v (.bool false)),(28, .v (.bool (decide (x > 1048576))))] [] ?_
 rw [(show decide (x > 1048576)=false from decide_eq_false (by omega))]
 refine xq 1 [(29, .v (.bool false))] [] ?_
 refine xe (Zaa (xb (Zap (Zaa (Zac (Zac (Zab (xq 2 [eI2 32 s10 A11 l12 c13] [] ?_))))))))
 refine xqc 62 [vI2 s10 A11 l12 c13] 33 (fun _:Unit=>.int .i64 0) _ (fun w R Q=>(ZcD _ z _ Q.1.1.2.num).mono (fun _ _ h=>Zad h (by rw [hz0]; rfl))) (fun xx=>?_)
 refine xq 1 [(34, .v (.bool true))] [] ?_
 refine xe (Zaa (xa (Zac ?_)))
 refine ZaC 6 (by kernel_rfl) (by kernel_rfl) Zah ?_
 refine xqg 4 [(35, .v (.agg #[.bool false, .slice none 0 0, .int .i64 0])),(38, .v (.bool ((x:Int) == 0)))] ?_
 rw [(show ((x:Int) == 0)=true from beq_iff_eq.2 (by omega))]
 refine xqf 2 [(3, .v (.bool true))] [(2,52,[.v (.bool false), .v (.slice none 0 0), .v (.int .i64 0)]),bR4 4 34 s10 A11 l12 c13 t14 B15 m16 d17,(2,52,[.v (.bool false), .v (.slice none 0 0), .v (.int .i64 0)]),(1,24,[.v (.string s), .v (.int .i64 x)])] ?_
 refine xz (xe (Zaa (Zaj (Zak ?_))))
 refine Zaf (v:=.tuple #[.agg #[.bool false, .slice none 0 0, .int .i64 0], .bool true]) (by kernel_rfl) (fun w' R Q=>?_)
 exact ⟨(false,none,0,0),by rw [show x=0 by omega]; rfl,by rw [hz0]; exact Zai.nil _,R⟩
theorem Zl6 {n k:Nat} (h:(Lib.decDigits n).length≤k):ml n≤k:=by
 have h2:=Zbl _ (ZbJ n)
 rw [Zcq] at h2
 exact ZgS (Nat.lt_of_lt_of_le h2 (Nat.pow_le_pow_right (by decide) h))
theorem ZrT {l:List UInt8} {q:Rat} (h:ZaU l=some q) (hl:l.length≤1000):ZaM ((q.den:Nat):Int):=by
 have h1:=(Zio h).2
 rw [ZbY] at h1
 exact nfit (k:=1001) (mlc (Zl6 (by omega))) (by decide)
theorem Zhu (s:ByteArray) (x:Int) (w:World) (hs:(bytes s).length≤1000) (hv:¬ fvB (bytes s) x=true) :
 Calls Tryz.prog 35 #[.agg #[.string s, .int .i64 x]] w (Zs5 w):=by
 have hsz:s.size≤65536:=by rw [← Zao]; omega
 rcases Decidable.em (∃ q,ZaU (bytes s)=some q∧q.den=1∧(-1048576≤x∧x≤1048576)∧q.num≠0) with hbig | hbig
 ·obtain ⟨q,hrd,hd1,⟨hx1,hx2⟩,hz0⟩:=hbig
  refine (Zl5 s x q w hs hrd hd1 hx1 hx2 hz0).mono ?_
  rintro e w' ⟨b,A,l,c,rfl,hN,R⟩
  have hev:q.num.natAbs % 2=0:=by
   rcases Nat.mod_two_eq_zero_or_one q.num.natAbs with h | h
   ·exact h
   ·exact absurd (by rw [(Zpc hrd hd1 x).1]; exact decide_eq_true (Or.inr ⟨by omega,hx1,hx2⟩)) hv
  exact ⟨((b,A,l,c),x),by rw [hev]; rfl,R⟩
 refine Zaz (Φ:=fun w=>True) Tryz.func35 rfl (by kernel_rfl) (fun w' hf=>trivial) ?_
 refine Zac (Zab (xq 3 [(1, .p 1 0),(2, .p 2 0),(3, .v (.bool false))] [(2,52,[.v (.bool false), .v (.slice none 0 0), .v (.int .i64 0)]),(1,24,[.v (.string s), .v (.int .i64 x)])] ?_))
 refine xe (Zaa (Zac ?_))
 by_cases hq:(ZaU (bytes s)).isSome=true
 ·obtain ⟨q,hrd⟩:=Option.isSome_iff_exists.1 hq
  have hqf:=ZrT hrd hs
  refine Zab (xq 2 [(8, .v (.string s))] [] ?_)
  refine xqc 18 [.string s] 9 (fun x:ShQ=>.tuple #[Zbf x, .bool true]) _ (fun w R Q=>(Zey s _ hsz).mono (fun _ _ h=>ZdH h hrd)) (fun xx=>?_)
  obtain ⟨s10,A11,l12,c13,t14,B15,m16,d17⟩:=xx
  refine xq 6 [(4, .p 4 0),(5, .v (.bool true))] [bR4 4 34 s10 A11 l12 c13 t14 B15 m16 d17] ?_
  refine xe (Zaa (Zac (Zac (Zab (xq 4 [(14, .v (.bool false)),eR4 15 s10 A11 l12 c13 t14 B15 m16 d17] [] ?_)))))
  refine xqc 79 [vR4 s10 A11 l12 c13 t14 B15 m16 d17] 16 ZaE _ (fun w R Q=>(Zhg _ (q) _ Q.2).mono (fun _ _=>ZaH)) (fun xx=>?_)
  obtain ⟨s18,A18,l18,c18⟩:=xx
  refine xqc 37 [vI2 s18 A18 l18 c18] 17 (fun _:Unit=>.int .i64 ((blen q.den:Nat):Int)) _ (fun w R Q=>(ZbT _ _ _ Q.2 hqf).mono (fun _ _ h=>Zad h rfl)) (fun xx=>?_)
  refine xq 3 [(20, .v (.bool ((((blen q.den:Nat):Int):Int) != 1)))] [] ?_
  rcases bl2 (((((blen q.den:Nat):Int):Int) != 1)) with hb19 | hb19
  ·rw [hb19]
   have hb19':=ZdW hb19
   refine xq 9 [(29, .v (.bool true))] [] ?_
   refine xe (Zaa (xa (Zac (Zab (xq 3 [(3, .v (.bool false))] [] ?_)))))
   refine xe (Zaa (Zaj (Zak ?_)))
   refine Zaf (v:=.tuple #[.agg #[.bool false, .slice none 0 0, .int .i64 0], .bool false]) (by kernel_rfl) (fun w' R Q=>?_)
   exact ⟨((false,none,0,0),0),rfl,R⟩
  ·rw [hb19]
   have hb19':=ZdX hb19
   refine xq 5 [(25, .v (.bool (decide (x < (-1048576)))))] [] ?_
   rcases bl2 ((decide (x < (-1048576)))) with hb20 | hb20
   ·rw [hb20]
    have hb20':=of_decide_eq_true hb20
    refine xq 4 [(29, .v (.bool true))] [] ?_
    refine xe (Zaa (xa (Zac (Zab (xq 3 [(3, .v (.bool false))] [] ?_)))))
    refine xe (Zaa (Zaj (Zak ?_)))
    refine Zaf (v:=.tuple #[.agg #[.bool false, .slice none 0 0, .int .i64 0], .bool false]) (by kernel_rfl) (fun w' R Q=>?_)
    exact ⟨((false,none,0,0),0),rfl,R⟩
   ·rw [hb20]
    have hb20':=of_decide_eq_false hb20
    refine xq 4 [(29, .v (.bool (decide (x > 1048576))))] [] ?_
    refine xe (Zaa ?_)
    refine ZaA ((decide (x > 1048576))) (by kernel_rfl) (fun hb21=>?_) (fun hb21=>?_)
    ·have hb21':=of_decide_eq_true hb21
     refine Zac (Zab (xq 3 [(3, .v (.bool false))] [] ?_))
     refine xe (Zaa (Zaj (Zak ?_)))
     refine Zaf (v:=.tuple #[.agg #[.bool false, .slice none 0 0, .int .i64 0], .bool false]) (by kernel_rfl) (fun w' R Q=>?_)
     exact ⟨((false,none,0,0),0),rfl,R⟩
    ·have hb21':=of_decide_eq_false hb21
     refine Zap (Zaa (Zac (Zac ?_)))
     have hd1:q.den=1:=Zce.1 (by omega)
     have hok:okE x:=⟨by omega,by omega⟩
     have hok2:=hok.1
     have hno:¬ ((q.num=0∧x=0)∨(q.num % 2=1∧okE x)):=fun h=>hv (by rw [(Zpc hrd hd1 x).1]; exact decide_eq_true h)
     have hz0:q.num=0:=Decidable.byContradiction (fun h=>hbig ⟨q,hrd,hd1,⟨by omega,by omega⟩,h⟩)
     refine Zab (xq 2 [eI2 32 s10 A11 l12 c13] [] ?_)
     refine xqc 62 [vI2 s10 A11 l12 c13] 33 (fun _:Unit=>.int .i64 0) _ (fun w R Q=>(ZcD _ q.num _ Q.1.1.2.num).mono (fun _ _ h=>Zad h (by rw [hz0]; rfl))) (fun xx=>?_)
     refine xq 1 [(34, .v (.bool true))] [] ?_
     refine xe (Zaa (xa (Zac ?_)))
     refine ZaC 6 (by kernel_rfl) (by kernel_rfl) Zah ?_
     refine xqg 4 [(35, .v (.agg #[.bool false, .slice none 0 0, .int .i64 0])),(38, .v (.bool ((x:Int) == 0)))] ?_
     rw [(show ((x:Int) == 0)=false from beq_eq_false_iff_ne.2 (fun e=>hno (Or.inl ⟨hz0,e⟩)))]
     refine xqf 2 [(3, .v (.bool false))] [(2,52,[.v (.bool false), .v (.slice none 0 0), .v (.int .i64 0)]),bR4 4 34 s10 A11 l12 c13 t14 B15 m16 d17,(2,52,[.v (.bool false), .v (.slice none 0 0), .v (.int .i64 0)]),(1,24,[.v (.string s), .v (.int .i64 x)])] ?_
     refine xz (xe (Zaa (Zaj (Zak ?_))))
     refine Zaf (v:=.tuple #[.agg #[.bool false, .slice none 0 0, .int .i64 0], .bool false]) (by kernel_rfl) (fun w' R Q=>?_)
     exact ⟨((false,none,0,0),0),rfl,R⟩
 ·have hrd:ZaU (bytes s)=none:=by cases h:ZaU (bytes s) with | none=>rfl | some q=>rw [h] at hq; exact absurd rfl hq
  refine Zab (xq 2 [(8, .v (.string s))] [] ?_)
  refine xqc 18 [.string s] 9 (fun x:ShQ=>.tuple #[Zbf x, .bool false]) _ (fun w R Q=>(Zey s _ hsz).mono (fun _ _ h=>Zgv h hrd)) (fun xx=>?_)
  obtain ⟨s22,A23,l24,c25,t26,B27,m28,d29⟩:=xx
  refine xq 6 [(4, .p 4 0),(5, .v (.bool false))] [bR4 4 34 s22 A23 l24 c25 t26 B27 m28 d29] ?_
  refine xe (Zaa (Zac (Zac (Zab (xq 18 [(29, .v (.bool true))] [] ?_)))))
  refine xe (Zaa (xa (Zac (Zab (xq 3 [(3, .v (.bool false))] [] ?_)))))
  refine xe (Zaa (Zaj (Zak ?_)))
  refine Zaf (v:=.tuple #[.agg #[.bool false, .slice none 0 0, .int .i64 0], .bool false]) (by kernel_rfl) (fun w' R Q=>?_)
  exact ⟨((false,none,0,0),0),rfl,R⟩
theorem Zck (s:ByteArray) (x:Int) (w:World) (hs:(bytes s).length≤1000) :
 Calls Tryz.prog 42 #[.agg #[.string s, .int .i64 x]] w (RetV w (.bool (fvB (bytes s) x))):=by
 refine Zaz (Φ:=fun w=>True) Tryz.func42 rfl (by kernel_rfl) (fun w' hf=>trivial) ?_
 refine Zac (Zab (xq 2 [(1, .p 1 0),(2, .v (.bool false))] [(1,24,[.v (.string s), .v (.int .i64 x)])] ?_))
 refine xe (Zaa (Zac (Zab (xq 1 [(6, .v (.agg #[.string s, .int .i64 x]))] [] ?_))))
 by_cases hv:fvB (bytes s) x=true
 ·refine xqc 35 [.agg #[.string s, .int .i64 x]] 7 (shRF true x) _ (fun w R Q=>(Zht s x _ _ (by omega) hv rfl).mono (fun _ _=>ZiS)) (fun xx=>?_)
  obtain ⟨s10,A10,l10,c10⟩:=xx
  refine xq 6 [(4, .v (.bool true))] [] ?_
  refine xe (Zaa (Zac (Zab (xq 2 [(2, .v (.bool true))] [] ?_))))
  refine xe (Zaa (Zaj ?_))
  refine Zaf (v:=.bool true) (by kernel_rfl) (fun w' R Q=>?_)
  exact ⟨by rw [hv],R⟩
 ·refine xqc 35 [.agg #[.string s, .int .i64 x]] 7 (fun y:ShI × Int=>shRF false y.2 y.1) _ (fun w R Q=>(Zhu s x _ (by omega) hv).mono (fun _ _=>ZiT)) (fun xx=>?_)
  obtain ⟨⟨s11,A11,l11,c11⟩,e11⟩:=xx
  refine xq 6 [(4, .v (.bool false))] [] ?_
  refine xe (Zaa (Zac (Zab (xq 2 [(2, .v (.bool false))] [] ?_))))
  refine xe (Zaa (Zaj ?_))
  refine Zaf (v:=.bool false) (by kernel_rfl) (fun w' R Q=>?_)
  exact ⟨by rw [Bool.eq_false_iff.2 hv],R⟩
theorem Zbi (s:Bool) (A:Option Addr) (l c:Nat) (z x:Int) (w:World) (hN:Zai w (.agg #[.bool s, .slice A l c]) z) (hz:ml z.natAbs≤65536) :
 Calls Tryz.prog 38 #[.agg #[.bool s, .slice A l c, .int .i64 x]] w (RetV w (.agg #[.string ⟨(Lib.itoa z).toArray⟩, .int .i64 x])):=by
 refine Zaz (Φ:=fun w=>Zai w (.agg #[.bool s, .slice A l c]) (z)) Tryz.func38 rfl (by kernel_rfl) (fun w' hf=>hN.ext hf) ?_
 refine Zac (Zab (xq 2 [(1, .p 1 0),(2, .p 2 0)] [(2,24,[.v (.string ⟨#[]⟩), .v (.int .i64 0)]),(1,52,[.v (.bool s), .v (.slice A l c), .v (.int .i64 x)])] ?_))
 refine xe (Zaa (Zac ?_))
 refine ZaC 8 (by kernel_rfl) (by kernel_rfl) Zah ?_
 refine xqg 3 [eR4 5 s A l c false none 0 0] ?_
 refine xqd 31 [vR4 s A l c false none 0 0] 6 (fun _:Unit=>.string ⟨(Lib.itoa z).toArray⟩) _ (fun w R Q=>(ZrS Q hz).mono (fun _ _ h=>Zad h (rfl))) (fun xx=>?_)
 refine xqf 4 [] [(2,24,[.v (.string ⟨(Lib.itoa z).toArray⟩), .v (.int .i64 x)]),(2,24,[.v (.string ⟨#[]⟩), .v (.int .i64 0)]),(1,52,[.v (.bool s), .v (.slice A l c), .v (.int .i64 x)])] ?_
 refine xz (xe (Zaa (Zaj ?_)))
 refine Zaf (v:=.agg #[.string ⟨(Lib.itoa z).toArray⟩, .int .i64 x]) (by kernel_rfl) (fun w' R Q=>?_)
 exact ⟨rfl,R⟩
end Go.Proofs.YtklpdkpcocnglaaGreatDoor

namespace Go.Proofs.YtklpdkpcocnglaaGreatDoor
open Go.RowKit
theorem Zpu (l:List UInt8):(flM l).natAbs=Zag (Zay l).2:=by
 unfold flM sg
 split<;>omega
theorem Zfo {l:List UInt8} {x:Int} (h:fvB l x=true) (hl:l.length≤1000):ml (flM l).natAbs≤65536:=by
 rw [Zpu]
 have h1:=ZcY h
 have h2:=Zbl _ h1.2.2.1
 have h3:=ZeL l
 exact Nat.le_trans (ZgS h2) (by omega)
theorem ZqB (T:List UInt8) (e k:Int) (w:World) :
 Calls Tryz.prog 17 #[.agg #[.string ⟨T.toArray⟩, .int .i64 e], .int .i64 k, .agg #[.string ⟨T.toArray⟩, .int .i64 e], .int .i64 k] w (RetV w (.bool true)):=by
 refine Zaz (Φ:=fun w=>True) Tryz.func17 rfl (by kernel_rfl) (fun w' hf=>trivial) ?_
 refine Zac (Zab (xq 3 [(4, .p 4 0),(6, .p 6 0),(8, .v (.bool false))] [(6,24,[.v (.string ⟨T.toArray⟩), .v (.int .i64 e)]),(4,24,[.v (.string ⟨T.toArray⟩), .v (.int .i64 e)])] ?_))
 refine xe (Zaa (Zac (Zab (xq 2 [(9, .v (.agg #[.string ⟨T.toArray⟩, .int .i64 e])),(10, .v (.agg #[.string ⟨T.toArray⟩, .int .i64 e]))] [] ?_))))
 refine xqk 11 (.bool true) (fun w R Q=>ZdA (.tmp 9) (.tmp 10) 24 ⟨T.toArray⟩ ⟨T.toArray⟩ e e true (by kernel_rfl) (by kernel_rfl) (by kernel_rfl) (Zs3 _ _)) ?_
 refine xq 4 [(12, .v (.bool true)),(15, .v (.bool ((k:Int) == k)))] [] ?_
 rw [ZbC]
 refine xq 2 [(8, .v (.bool true))] [] ?_
 refine xe (Zaa (Zaj ?_))
 refine Zaf (v:=.bool true) (by kernel_rfl) (fun w' R Q=>?_)
 exact ⟨rfl,R⟩
end Go.Proofs.YtklpdkpcocnglaaGreatDoor

namespace Go.Proofs.YtklpdkpcocnglaaGreatDoor
open Go.RowKit
end Go.Proofs.YtklpdkpcocnglaaGreatDoor

namespace Go.Proofs.YtklpdkpcocnglaaGreatDoor
open Go.RowKit
def zfl (l:List UInt8) (x:Int):Int:=if fvB l x=true then flM l else 0
def ZqC (w:World) (z x:Int) (e:Ending) (w':World):Prop:=∃ y:ShI,e=.returned (shF x y)∧Zai w' (ZaE y) z∧Ext w w'
def exQ (z x:Int):Rat:=if 0≤x then ((z * 2 ^ x.toNat:Int):Rat) else Rat.divInt z (2 ^ (-x).toNat)
theorem ZiU {z x:Int} {k:Nat} (h:x=k):exQ z x=((z * 2 ^ k:Int):Rat):=by unfold exQ; rw [if_pos (by omega),h,Int.toNat_natCast]
theorem Zli {z x:Int} {k:Nat} (h : -x=k) (h0:¬ 0≤x):exQ z x=Rat.divInt z (2 ^ k):=by unfold exQ; rw [if_neg h0,h,Int.toNat_natCast]
theorem ZkL {z:Int} {k:Nat} (hz:z % 2=1):(Rat.divInt z (2 ^ k)).num=z∧(Rat.divInt z (2 ^ k)).den=2 ^ k:=by
 have hc:z.natAbs.Coprime (2 ^ k):=by
  refine Nat.Coprime.pow_right k ?_
  rw [Nat.coprime_comm,Nat.Coprime,Nat.gcd_rec,show z.natAbs % 2=1 by omega]; decide
 have h:=Rat.num_divInt_den ⟨z,2 ^ k,by have:=p2 k; omega,hc⟩
 have e:(((2:Nat) ^ k:Nat):Int)=(2:Int) ^ k:=by rw [Int.natCast_pow]; rfl
 dsimp only at h
 rw [e] at h
 rw [h]
 exact ⟨rfl,rfl⟩
theorem Zir {a b:Nat} (h:a < 32 * b):ml (2 ^ a)≤b:=ZaW.2 (by rw [show W32=2 ^ 32 by rw [Zaq],← Nat.pow_mul]; exact Nat.pow_lt_pow_right (by decide) h)
theorem Zl8 {a b i j:Nat} (ha:ml a≤i) (hb:ml b≤j):ml (a * b)≤i + j:=by
 refine ZaW.2 ?_
 rw [Nat.pow_add]
 exact Nat.mul_lt_mul'' (ZaW.1 ha) (ZaW.1 hb)
theorem ZtY {n k:Nat} (hn:ml n≤1000) (hk:k≤1000):ml (n * 2 ^ k)≤2000:=by
 have h1:=Zir (a:=k) (b:=40) (by omega)
 have h2:=Zl8 hn h1
 omega
theorem Zd8 {l:List UInt8} {x:Int} (h:fvB l x=true) (hl:l.length≤1000):ml (flM l).natAbs≤1000:=by
 rw [Zpu]
 have h1:=ZgS (Zbl _ (ZcY h).2.2.1)
 have h2:=ZeL l
 omega
theorem ZuW {l:List UInt8} {x:Int} (hv:fvB l x=true) (hl:l.length≤1000) (hx1 : -1000≤x) (hx2:x≤1000):ml (exQ (flM l) x).num.natAbs≤65536∧ml (exQ (flM l) x).den≤65536:=by
 have hm:=Zd8 hv hl
 by_cases hx:0≤x
 ·obtain ⟨k,hk⟩:=Int.eq_ofNat_of_zero_le hx
  rw [ZiU hk]
  refine ⟨?_,Ziq⟩
  show ml (flM l * 2 ^ k).natAbs≤65536
  rw [Int.natAbs_mul,show ((2:Int) ^ k).natAbs=2 ^ k by rw [Int.natAbs_pow]; rfl]
  exact Nat.le_trans (ZtY hm (by omega)) (by decide)
 ·obtain ⟨k,hk⟩:=Int.eq_ofNat_of_zero_le (show 0 ≤ -x by omega)
  have hodd:flM l % 2=1:=by have:=(Zpa hv).2; omega
  obtain ⟨k1,k2⟩:=ZkL (k:=k) hodd
  rw [Zli hk hx,k1,k2]
  exact ⟨Nat.le_trans hm (by decide),Nat.le_trans (Zir (b:=40) (by omega)) (by decide)⟩
theorem Zbn (s:Bool) (A:Option Addr) (l c:Nat) (z x:Int) (w:World) (hN:Zai w (.agg #[.bool s, .slice A l c]) z) (hz:ml z.natAbs≤1000) (hx1 : -1000≤x) (hx2:x≤1000) :
 Calls Tryz.prog 41 #[.agg #[.bool s, .slice A l c, .int .i64 x]] w (Zc5 w (exQ z x)):=by
 refine Zaz (Φ:=fun w=>Zai w (.agg #[.bool s, .slice A l c]) (z)) Tryz.func41 rfl (by kernel_rfl) (fun w' hf=>hN.ext hf) ?_
 refine Zac (Zab (xq 2 [(1, .p 1 0),(2, .p 2 0)] [bR4 2 34 false none 0 0 false none 0 0,(1,52,[.v (.bool s), .v (.slice A l c), .v (.int .i64 x)])] ?_))
 refine xe (Zaa (Zac (Zac (Zab (xq 3 [(5, .v (.bool (decide (x ≥ 0))))] [] ?_)))))
 refine xe (Zaa ?_)
 refine ZaA ((decide (x ≥ 0))) (by kernel_rfl) (fun hb10=>?_) (fun hb10=>?_)
 ·have hb10':=of_decide_eq_true hb10
  refine Zac ?_
  obtain ⟨k,hk⟩:=Int.eq_ofNat_of_zero_le (show 0≤x by omega)
  have hk1:k≤1000:=by omega
  rw [hk]
  subst hk
  refine Zab (xq 4 [eI2 7 s A l c,(9, .v (.int .i64 ((k:Nat):Int)))] [] ?_)
  refine xqc 25 [vI2 s A l c, .int .i64 ((k:Nat):Int)] 10 ZaE _ (fun w R Q=>(ZeA _ z k _ Q (nfit (k:=1000) hz (by decide)) (by omega)).mono (fun _ _=>ZaH)) (fun xx=>?_)
  obtain ⟨s11,A11,l11,c11⟩:=xx
  refine xq 2 [] [bR4 2 34 s11 A11 l11 c11 false none 0 0] ?_
  refine xe (Zaa (Zaj (Zak ?_)))
  refine Zaf (v:=.agg #[.bool s11, .slice A11 l11 c11, .bool false, .slice none 0 0]) (by kernel_rfl) (fun w' R Q=>?_)
  exact ⟨_,rfl,by rw [ZiU rfl]; exact ZnS Q.2,R⟩
 ·have hb10':=of_decide_eq_false hb10
  refine Zap (Zaa (Zac ?_))
  obtain ⟨k,hk⟩:=Int.eq_ofNat_of_zero_le (show 0 ≤ -x by omega)
  have hk1:k≤1000:=by omega
  refine ZaC 9 (by kernel_rfl) (by kernel_rfl) Zah ?_
  refine xqg 2 [eI2 13 s A l c] ?_
  refine xqd 24 [.int .i64 1] 14 ZaE _ (fun w R Q=>(ZeH 1 _ (by decide) (by decide)).mono (fun _ _=>ZaH)) (fun xx=>?_)
  obtain ⟨s12,A12,l12,c12⟩:=xx
  refine xqg 3 [(17, .v (.int .i64 (IntKind.i64.wrap (0 - (x)))))] ?_
  rw [show IntKind.i64.wrap (0 - x)=((k:Nat):Int) from by rw [IntKind.wrap_i64]; omega]
  refine xqd 25 [vI2 s12 A12 l12 c12, .int .i64 ((k:Nat):Int)] 18 ZaE _ (fun w R Q=>(ZeA _ ((1:Int)) k _ Q.2 (nfit (k:=1) (ZaW.2 (by rw [Zaq]; decide)) (by decide)) (by omega)).mono (fun _ _=>ZaH)) (fun xx=>?_)
  obtain ⟨s13,A13,l13,c13⟩:=xx
  refine xqd 23 [vI2 s A l c,vI2 s13 A13 l13 c13] 19 Zbf _ (fun w R Q=>(Zgu _ _ _ _ _ Q.1.1 Q.2 (nfit (k:=1000) hz (by decide)) (nfit (k:=40) (by rw [Int.one_mul,Int.natAbs_pow]; exact Zir (by omega)) (by decide)) (by rw [Int.one_mul]; have:=Int.pow_pos (n:=2) (m:=k) (by decide); omega)).mono (fun _ _=>Za4)) (fun xx=>?_)
  obtain ⟨s14,A14,l14,c14,t14,B14,m14,d14⟩:=xx
  refine xqf 1 [] [bR4 2 34 s14 A14 l14 c14 t14 B14 m14 d14,bR4 2 34 false none 0 0 false none 0 0,(1,52,[.v (.bool s), .v (.slice A l c), .v (.int .i64 x)])] ?_
  refine xz (xe (Zaa (Zaj ?_)))
  refine Zaf (v:=.agg #[.bool s14, .slice A14 l14 c14, .bool t14, .slice B14 m14 d14]) (by kernel_rfl) (fun w' R Q=>?_)
  exact ⟨_,rfl,by rw [Zli hk (by omega)]; have h:=Q.2; rw [Int.one_mul] at h; exact h,R⟩
end Go.Proofs.YtklpdkpcocnglaaGreatDoor
