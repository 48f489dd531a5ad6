/-
 My texts Fb, Fdm, Fdc, Nx, Ny, FlE, FllL, Rb23, Nz, FslL, Ne, Fvl, Rn1, Rn2 put together.
-/
import Derived.RangeFuncKeeps
import Derived.RangeFuncBox
import Derived.RangeFuncLeaves
import Derived.RangeFuncCalls
import Derived.OwnWalkIn
import Derived.TacticsInMore
import Derived.LoopNIn
import Derived.LoopIn
import Derived.Test.YtklpdkpcocnglaaGreatDoorU18
import Derived.Test.YtklpdkpcocnglaaGreatDoorU17
import Derived.Test.YtklpdkpcocnglaaGreatDoorU15
import Derived.RangeFuncFrom
import Derived.Shelf.Strings.BuilderK
import Derived.Shelf.Strings.Repeat
import Derived.Deep.RegionLaw
import Derived.Test.YtklpdkpcocnglaaGreatDoorU16
import Derived.Laws.StructEq
import Derived.Deep.RegionHeld3
set_option maxRecDepth 100000
set_option maxHeartbeats 8000000
namespace Go.Proofs.YtklpdkpcocnglaaGreatDoor
open Go.RowKit
def ZeT (n k:Nat):List Nat:=(List.range k).map fun j=>n-1-j
theorem Zh9 (n k:Nat):ZeT n (k+1)=ZeT n k ++ [n-1-k]:=by simp[ZeT,List.range_succ]
theorem Zoi (n k:Nat):(ZeT n k).length=k:=by simp[ZeT]
def KpS (Bs b:Nat) (A B:World):Prop:=B.heap[Bs]? = A.heap[Bs]? ∧ B.heap[b]? = A.heap[b]?
theorem KpS.refl (a b:Nat)(A:World):KpS a b A A:=⟨rfl,rfl⟩
theorem KpS.trans {a b:Nat}{A B C:World}(h:KpS a b A B)(k:KpS a b B C):KpS a b A C:=⟨k.1.trans h.1,k.2.trans h.2⟩
theorem KpS.cell1 {a b:Nat}{A B:World}(h:KpS a b A B)(j:Nat):B.cell? ⟨a,j,none⟩=A.cell? ⟨a,j,none⟩:=World.cell?_of_block h.1
theorem KpS.cell2 {a b:Nat}{A B:World}(h:KpS a b A B)(j:Nat):B.cell? ⟨b,j,none⟩=A.cell? ⟨b,j,none⟩:=World.cell?_of_block h.2
attribute [local go_sem] Oper.semAt_some
theorem Zpj (n l h b cap:Nat)(xs:List Nat)(K:1≤n)(u:xs.length≤4294967296)(J w:List Nat→World→Prop)(E:∀ pre x W,J pre W→pre.length<xs.length→YieldAt Fence.wide (n-1) Tryz.prog l #[.int .i64 ((x:Nat):Int),.int .u64 ((xs[x]?.getD 0:Nat):Int)] W fun e W' =>
 (e=.returned (.bool true)∧J (pre ++ [x]) W'∧KpS h b W W')∨(e=.returned (.bool false)∧w (pre ++ [x]) W'))(W:World)(o:W.cell? ⟨h,0,none⟩=some (.slice (some ⟨b,0,none⟩) xs.length cap))(F:∀ j,j<xs.length→W.cell? ⟨b,j,none⟩=some (.int .u64 ((xs[j]?.getD 0:Nat):Int)))(G:J [] W) :
 CallsIn Fence.wide n Tryz.prog 150 #[.func (.yield l) #[] #[],.pointer (some ⟨h,0,none⟩)] W fun e W'=>(∃ v,e=.returned v) ∧
 ((∃ y,y=ZeT xs.length xs.length∧J y W')∨(∃ pre,(∃ k,k≤xs.length∧pre=ZeT xs.length k)∧w pre W')):=by
 refine callsIn_of_wp Tryz.func150 rfl trivial ?_ rfl
 simp only[Tryz.ntmps150,List.size_toArray,sF,pD,Nat.reduceAdd,Nat.reduceSub,Array.replicate_succ,Array.replicate_zero,List.push_toArray,List.append_toArray,pC,pA]
 gi_wp2
 gi_loopw [3] (fun i wr=>∃ k:Nat,k≤xs.length∧i=.int .i64 ((xs.length:Int)-1-k)∧J (ZeT xs.length k) wr∧KpS h b W wr)
  (fun i _=>(intOf i+1).toNat)
 case atStart=>exact⟨0,rA _,by simp,G,KpS.refl _ _ _⟩
 case round =>
  obtain⟨k,L,rfl,c,a⟩:=hrel
  have H:=(a.cell1 0).trans o
  by_cases p:k<xs.length
  ·have d:wr.cell? ⟨b,xs.length-1-k,none⟩=some (.int .u64 ((xs[xs.length-1-k]?.getD 0:Nat):Int)):=(a.cell2 _).trans (F _ (by omega))
   obtain⟨M,z,m,A,B,C⟩:=E _ (xs.length-1-k) wr c (by rw[Zoi];exact p)
   obtain⟨j,q⟩:=yE (xs.length-1-k)
   rw[q] at d B C
   have D:(xs.length:Int)-1-(k:Int)=(j:Int):=by omega
   rw[D]
   have I:j<xs.length:=by omega
   obtain⟨xj,f⟩:=yE (xs[j]?.getD 0)
   rw[f] at d B
   clear f
   have r:=zh q
   clear q D
   gi_wp2
   refine C.mono ?_
   rintro e N (⟨rfl,s,t⟩|⟨rfl,g⟩)
   ·gi_wp2
    go_roundw
    case rel=>exact⟨k+1,by omega,by have:=r.out;simp<;>omega,by rw[Zh9,r.out];exact s,a.trans t⟩
    case measure=>simp[intOf]<;>omega
   gi_wp2
   refine bodyPost_ret (results_none rfl _ _ _) rfl ?_
   exact⟨⟨_,rfl⟩,.inr ⟨_,⟨k+1,by omega,by rw[Zh9,r.out]⟩,g⟩⟩
  obtain rfl:k=xs.length:=by omega
  gi_wp2
  go_end0
  exact⟨⟨_,rfl⟩,.inl ⟨_,rfl,c⟩⟩
theorem ZlW (n a b cap:Nat)(xs:List Nat)(g:1≤n)(c:xs.length≤4294967296)(w:World)(h:a<w.heap.size)(i:b<w.heap.size)(d:w.cell? ⟨a,0,none⟩=some (.slice (some ⟨b,0,none⟩) xs.length cap))(m:∀ j,j<xs.length→w.cell? ⟨b,j,none⟩=some (.int .u64 ((xs[j]?.getD 0:Nat):Int))) :
 SeqStopsK Fence.wide n Tryz.prog 150 #[.pointer (some ⟨a,0,none⟩)] (fun x:Nat=>#[Value.int .i64 (x:Int),Value.int .u64 ((xs[x]?.getD 0:Nat):Int)]) (KpS a b)
  (fun o=>o=ZeT xs.length xs.length) (fun e=>∃ k,k≤xs.length∧e=ZeT xs.length k) xs.length w:=fun l J q W f _ _ r s =>
 Zpj n l a b cap xs g c J q r W ((f.cell (p:=⟨a,0,none⟩) h).trans d) (fun j t=>(f.cell (p:=⟨b,j,none⟩) i).trans (m j t)) s
theorem Zoj (a:Option Addr)(len cap:Nat)(w:World) :
 yA 109 #[.slice a len cap] w fun e w'=>e=.returned (.func (.func 150) #[] #[.pointer (some ⟨w.heap.size,0,none⟩)])∧w'=w.alloc (.cells #[.slice a len cap] 76):=by
 go_enter Tryz.func109,Tryz.ntmps109
 go_wp2
 go_ret
 exact⟨rfl,rfl⟩
end Go.Proofs.YtklpdkpcocnglaaGreatDoor
namespace Go.Proofs.YtklpdkpcocnglaaGreatDoor
open Go.RowKit
def Zg9 (cs:List Nat) (j:Nat):List UInt8:=if j+1<cs.length then List.replicate (19-(Lib.decDigits (cs[j]?.getD 0)).length) 48 ++ Lib.decDigits (cs[j]?.getD 0) else Lib.decDigits (cs[j]?.getD 0)
def Zbw (cs:List Nat) (l:List Nat):List UInt8:=l.flatMap (Zg9 cs)
theorem Zib (cs l:List Nat)(j:Nat):Zbw cs (l ++ [j])=Zbw cs l ++ Zg9 cs j:=by simp[Zbw]
theorem Zj0 {cs:List Nat}(a:∀ c∈cs,c<10^19)(d:∃ l c,cs=l ++ [c]∧0<c):∀ k,k≤cs.length→Zbw cs (ZeT cs.length k)=Zbd (chV (cs.drop (cs.length-k)))
 | 0,_=>by rw[Nat.sub_zero,uZ (uK _)];rfl
 | k+1,hk=>by
  have e:=Zj0 a d k (by omega)
  rw[Zh9,Zib,e]
  have h:=Zt1 (cs:=cs) (i:=cs.length-(k+1)) (by omega) rfl a d
  rw[show cs.length-1-k=cs.length-(k+1) by omega,h]
  unfold Zg9
  by_cases b:cs.length-(k+1)+1<cs.length
  ·rw[uP b,uP b,show cs.length-(k+1)+1=cs.length-k by omega]
  have:k=0:=by omega
  subst this
  rw[uN b,uN b,Nat.sub_zero,uZ (uK _)]
  rfl
theorem ZsH {cs:List Nat}{n:Nat}(h:ChR n cs 0)(b:0<n):Zbw cs (ZeT cs.length cs.length)=Lib.decDigits n:=by
 have a:cs≠[]:=fun e=>by have:=h.eq;rw[e] at this;simp[chV] at this;omega
 rw[Zj0 h.lt (h.top rfl a) _ (uK _),qE,tT]
 have:=h.eq
 rw[tL,vV] at this
 rw[←this,Zcl b]
theorem Zhi:∀ (k u:Nat),u<10^(k+1)→Lib.nDigits u≤k+1
 | 0,u,h=>by rw[Lib.nDigits_small (by simpa using h)];exact uK _
 | k+1,u,h=>by
  by_cases a:u<10
  ·rw[Lib.nDigits_small a];omega
  rw[Lib.nDigits_big a]
  have:=Zhi k (u/10) (by rw[uS] at h;omega)
  omega
theorem Zqb {c:Nat}(h:c<10^19):(Lib.decDigits c).length≤19:=by
 rw[Lib.decDigits_length]
 exact Zhi 18 c h
theorem ZsI {cs:List Nat}(h:∀ c∈cs,c<10^19)(j:Nat):(Zg9 cs j).length≤19:=by
 have b:cs[j]?.getD 0<10^19:=by
  rcases vI j cs.length with a|a
  ·rw[List.getElem?_eq_getElem a];exact h _ (rD a)
  rw[List.getElem?_eq_none a];decide
 have:=Zqb b
 unfold Zg9
 split
 ·rw[vU,rU];omega
 exact this
theorem ZmI {cs:List Nat}(h:∀ c∈cs,c<10^19):∀ l,(Zbw cs l).length≤19*l.length
 | []=>by simp[Zbw]
 | j :: l=>by
  have a:=ZmI h l
  have b:=ZsI h j
  have e:Zbw cs (j :: l)=Zg9 cs j ++ Zbw cs l:=by simp[Zbw]
  rw[e,vU,sF]
  omega
/-! ### the builder -/
theorem Zf4 (B b:Nat)(l:List UInt8)(s:List UInt8)(w:World)(h:Lib.IsBuilderF 145 5 B b (Lib.byteCells l) w)(a:l.length+s.length≤140737488355328)(c:B≤w.heap.size) :
 yA 111 #[.pointer (some ⟨b,0,none⟩),.string ⟨s.toArray⟩] w fun e w'=>e=.returned (.tuple #[.int .i64 (s.length:Int),.nilIface])∧(Lib.IsBuilderF 145 5 B b (Lib.byteCells (l ++ s)) w'∧Below B w w'∧Lib.OthersKept 5 (some b) w w'):=by
 have d:(⟨s.toArray⟩:ByteArray).size=s.length:=by rw[←Zaq,Zew]
 refine (Any.Builder_WriteString_k (ρ:=Tryz.lays105_ren) { Tryz.lays105 with } Tryz.Builder_Extra_105 B b (Lib.byteCells l) ⟨s.toArray⟩ w h (by rw[Lib.byteCells_length,d];exact a) c).mono ?_
 rintro e w' ⟨rfl,f,i,j⟩
 refine⟨by rw[d],Or.inr ?_,i,j⟩
 rw[Lib.strCells_toArray] at f
 rw[show Lib.byteCells (l ++ s)=Lib.byteCells l ++ Lib.byteCells s by simp[Lib.byteCells]]
 exact f
theorem Zol (c:Nat)(w:World)(d:c≤19) :
 yA 112 #[.string ⟨#[48]⟩,.int .i64 (c:Int)] w fun e w'=>e=.returned (.string ⟨(List.replicate c (48:UInt8)).toArray⟩)∧Ext w w':=by
 rcases vI c 2 with h|h
 ·have:c=0∨c=1:=by omega
  rcases this with rfl|rfl
  ·refine (Tryz.strings_Repeat_zero _ w).mono ?_
   rintro e w' ⟨rfl,rfl⟩
   exact⟨rfl,Fr.refl _ _⟩
  refine (Tryz.strings_Repeat_one _ w).mono ?_
  rintro e w' ⟨rfl,rfl⟩
  exact⟨rfl,Fr.refl _ _⟩
 have a:(⟨#[48]⟩:ByteArray).size=1:=rfl
 refine (Tryz.strings_Repeat_main ⟨#[48]⟩ c w h (by omega) (by rw[a];omega) (by rw[a];decide)).mono ?_
 rintro e w' ⟨rfl,b⟩
 refine⟨?_,Fr.ofBelow b⟩
 have:∀ n,Lib.repeatL [(48:UInt8)] n=List.replicate n 48:=by
  intro n;induction n with
  | zero=>rfl
  | succ n ih=>simp[Lib.repeatL,List.replicate_succ] at ih ⊢;first|exact ih | (rw[ih])
 rw[show (⟨#[48]⟩:ByteArray).data.toList=[48] from rfl,this]
/-! ### what stays -/
theorem Zom {B b:Nat}{T e:TypeId}{c:List Value}{W W':World}{row:Option Nat}(h:Lib.IsBuilderF T e B b c W)(j:W.grownBy W' row)(k:∀ r,row=some r→∃ o:Obj,W.heap[r]? = some o∧o.isCells=false):Lib.IsBuilderF T e B b c W':=by
 have a:∀ p,Lib.BuilderAtF T e B b p c W→Lib.BuilderAtF T e B b p c W':=by
  rintro p ⟨u,v,l,⟨y,d⟩,z⟩
  refine⟨u,v,(grownBy_keeps_cells j k l rfl).trans l,⟨y,?_⟩,z⟩
  rcases d with d|⟨g,f,i,A,C,D,m,E⟩
  ·exact Or.inl d
  exact Or.inr ⟨g,f,i,A,C,D,(grownBy_keeps_cells j k m rfl).trans m,E⟩
 exact h.elim (fun x=>Or.inl (a _ x)) (fun x=>Or.inr (a _ x))
theorem Zpk {B b:Nat}{T e:TypeId}{c:List Value}{W W':World}(h:Lib.IsBuilderF T e B b c W)(r:Ext W W'):Lib.IsBuilderF T e B b c W':=by
 have l:∀ (k:Nat) (o:Obj),W.heap[k]? = some o→W'.heap[k]? = some o:=fun k o m=>by rw[r.block k (Array.getElem?_eq_some_iff.1 m).1 (fun f=>f)];exact m
 have a:∀ p,Lib.BuilderAtF T e B b p c W→Lib.BuilderAtF T e B b p c W':=by
  rintro p ⟨u,v,y,⟨z,d⟩,A⟩
  refine⟨u,v,l _ _ y,⟨z,?_⟩,A⟩
  rcases d with d|⟨g,i,j,C,D,E,F,G⟩
  ·exact Or.inl d
  exact Or.inr ⟨g,i,j,C,D,E,l _ _ F,G⟩
 exact h.elim (fun x=>Or.inl (a _ x)) (fun x=>Or.inr (a _ x))
theorem Zm3 {B b:Nat}{T e:TypeId}{d:List Value}{W:World}(h:Lib.IsBuilderF T e B b d W):∃ c t f,W.heap[b]? = some (.cells c t f):=by
 rcases h with ⟨_,v,a,_⟩|⟨_,v,a,_⟩<;>exact⟨_,_,_,a⟩
theorem Zj1 {B n:Nat}{w W W':World}{row:Option Nat}(h:Below B w W)(d:B≤w.heap.size)(a:W.grownBy W' row)(b:∀ r,row=some r→n≤r)(f:B≤n):Below B w W':=by
 refine⟨a.os.trans h.os,a.tape.trans h.tape,a.output.trans h.output,uA h.size a.size,fun k c=>?_⟩
 rw[a.block k (by have:=h.size;omega) (fun e=>by have:=b k e.symm;omega)]
 exact h.block k c
theorem Zvn {e:TypeId}{b:Nat}{w w':World}(h:Lib.OthersKept e (some b) w w')(d:w.heap.size≤w'.heap.size)(f:∃ c t fz,w.heap[b]? = some (.cells c t fz)):KeepsOthers w w':=by
 refine⟨d,fun k o a ho=>h k o a ?_ ?_⟩
 ·intro e
  injection e with e
  obtain⟨c,t,fz,i⟩:=f
  rw[e,i] at a
  injection a with a
  rw[←a] at ho
  cases ho
 rintro c fz rfl
 cases ho
theorem Fr.others {w w':World}(h:Ext w w'):KeepsOthers w w':=⟨h.size,fun k o a _=>by rw[h.block k (Array.getElem?_eq_some_iff.1 a).1 (fun f=>f)];exact a⟩
theorem Zha {e:TypeId}{b k:Nat}{o:Obj}{w w':World}(h:Lib.OthersKept e (some b) w w')(a:w.heap[k]? = some o)(d:k≠b)(f:∀ c fz,o≠.cells c e fz):w'.heap[k]? = some o :=
 h k o a (fun e=>by injection e with e;exact d e) f
structure DcJ (w:World) (q g c2:Nat) (cs:List Nat) (t:List UInt8) (W:World):Prop where
 below:Below w.heap.size w W
 size:q+2≤W.heap.size
 bd:Lib.IsBuilderF 145 5 w.heap.size q (Lib.byteCells t) W
 box:Blk 76 W w.heap.size #[.slice (some ⟨g,0,none⟩) cs.length c2]
 bs:Blk 76 W (q+1) #[.slice (some ⟨g,0,none⟩) cs.length c2]
 row:Own .u64 94 W g cs
section
variable {w W W':World} {q g c2 n:Nat} {cs:List Nat} {t s:List UInt8} {row:Option Nat}
theorem DcJ.kept (h:DcJ w q g c2 cs t W)(a:W.grownBy W' row)(b:∀ r,row=some r→n≤r∧∃ o:Obj,W.heap[r]? = some o∧o.isCells=false)(d:w.heap.size≤n):DcJ w q g c2 cs t W':=by
 obtain⟨tail,f,c⟩:=h.row
 exact⟨Zj1 h.below (uK _) a (fun r e=>(b r e).1) d,uA h.size a.size,Zom h.bd a (fun r e=>(b r e).2),(grownBy_keeps_cells a (fun r e=>(b r e).2) h.box rfl).trans h.box,(grownBy_keeps_cells a (fun r e=>(b r e).2) h.bs rfl).trans h.bs,tail,f,(grownBy_keeps_cells a (fun r e=>(b r e).2) c rfl).trans c⟩
theorem DcJ.step (h:DcJ w q g c2 cs t W)(Q:Ext W W'):DcJ w q g c2 cs t W'∧KeepsOthers W W'∧KpS (q+1) g W W':=by
 have a:=h.size
 exact⟨⟨((Fr.ofBelow h.below).trans Q).toBelow,uA a Q.size,Zpk h.bd Q,h.box.ext Q,h.bs.ext Q,h.row.ext Q⟩,Fr.others Q,Q.block _ (by omega) (fun f=>f),Q.block _ h.row.lt (fun f=>f)⟩
theorem DcJ.write (h:DcJ w q g c2 cs t W)(p:w.heap.size<q)(k:g<q)(l:Lib.IsBuilderF 145 5 w.heap.size q (Lib.byteCells (t ++ s)) W')(b:Below w.heap.size W W')(a:Lib.OthersKept 5 (some q) W W') :
 DcJ w q g c2 cs (t ++ s) W'∧KeepsOthers W W'∧KpS (q+1) g W W':=by
 obtain⟨tail,m,d⟩:=h.row
 have o:W'.heap[w.heap.size]? = some _:=Zha a h.box (by omega) (fun c f e=>by injection e with _ e;cases e)
 have i:W'.heap[q+1]? = some _:=Zha a h.bs (by omega) (fun c f e=>by injection e with _ e;cases e)
 have j:W'.heap[g]? = some _:=Zha a d (by omega) (fun c f e=>by injection e with _ e;cases e)
 exact⟨⟨h.below.trans b,uA h.size b.size,l,o,i,tail,m,j⟩,Zvn a b.size (Zm3 h.bd),i.trans h.bs.symm,j.trans d.symm⟩
end
theorem ZjJ {P:Program}{h:Array Oper}{o:Oper}{a:Act}{w:World}{K:Act→World→Prop}{Q:Exit→Act→World→Prop}{E:Prop}(p:o.guard=none)(s x:Operand)(t:TypeId)(q:o.op=Op.call { callee:=Callee.builtin Builtin.append,args:=#[s,x],argTypes:=#[t,t] })(e:TypeId)(k:IntKind)(bytes:Nat)(r:P.underlying t=some (.slice e))(g:(P.info? e).map (fun i=>(i.zero,i.size,i.bytes))=some (some (.int k 0),1,bytes))(A X:Option Addr)(n m cap c:Nat)(u:a.eval s=.slice A n cap)(v:a.eval x=.slice X m c)(xs d:List Nat)(y:xs.length=n)(z:d.length=m)(B:Buf k e w A cap xs)(C:Zah k w X d)(l:n+m≤maxLen)(f:(n+m)*bytes≤140737488355328)(D:∀ A' cap' w',Buf k e w' A' cap' (xs ++ d)→Fr (ZaP A) w w'→(∀ b,ZaP A' b→ZaP A b∨b=w.heap.size)→K (a.put o.dst (.slice A' (n+m) cap')) w') :
 if Region.wanted o (yielded h a.tmps)=true then Oper.wp P o a w K Q else E:=by
 have F:Region.wanted o (yielded h a.tmps)=true:=by simp[Region.wanted,p]
 rw[uP F]
 obtain⟨A',cap',w',j,G,H,I⟩:=Zgu (P:=P) w t o.type e k bytes r g A X n m cap c xs d y z B C l f
 unfold Oper.wp execOp
 simp only[q,resolve,invoke,builtin,Sem.run_bind,Sem.run_pure,Result.andThen_ok,List.map_toArray,List.map_cons,List.map_nil,u,v,j]
 exact D _ _ _ G H I
theorem ChR.bound {n r:Nat}{cs:List Nat}(h:ChR n cs r)(a:0<r):cs.length<blen n:=by
 refine Zdq.2 ?_
 have b:2^cs.length≤(10^19)^cs.length:=sJ (by decide) _
 have c:(10^19)^cs.length*1≤(10^19)^cs.length*r:=uI _ a
 have:=h.eq
 omega
structure DcI (w wr:World) (b bx n:Nat) (rs cs:List Nat) (A:Option Addr) (c:Nat):Prop where
 ext:Ext w wr
 own:Own .u64 94 wr b rs
 dig:Dig W64 rs
 trim:Trim rs
 ch:ChR n cs (val W64 rs)
 box:Blk 76 wr bx #[.slice A cs.length c]
 buf:Buf .u64 94 wr A c cs
 news:∀ i,ZaP A i→w.heap.size≤i∧i≠b∧i≠bx
theorem Zon (A:Option Addr)(l c:Nat)(w:World)(a:Zaj w (.slice A l c) 0):yA 67 #[.slice A l c] w (ZgG w (Lib.decDigits 0)):=by
 have b:l=0:=a.len0
 subst b
 go_enter Tryz.func67,Tryz.ntmps67
 go_wp2
 go_ret
 exact⟨by rw[Lib.decDigits_one (by decide)];rfl,Fr.refl _ _⟩
attribute [local go_sem] Oper.semAt_some
theorem Zpl (A:Option Addr)(xs:List Nat)(c n:Nat)(w:World)(hg:Glob w)(hn:0<n)(hX:Zah .u64 w A xs)(hd:Dig W64 xs)(ht:Trim xs)(hv:val W64 xs=n)(hl:xs.length≤1000000)(h0:0<xs.length) :
 yA 67 #[.slice A xs.length c] w (ZgG w (Lib.decDigits n)):=by
 have F1:blen n≤64000000:=by
  have y:=ZdN n
  have z:=ZaQ hd ht
  rw[hv] at z
  omega
 have HG:=zh hg
 have HX:=zh hX
 have Hd:=zh hd
 have Ht:=zh ht
 have Hv:=zh hv
 clear hg hX hd ht hv
 refine (callsIn_wide (n:=3)).1 ?_
 refine callsIn_of_wp_marks Tryz.func67 rfl trivial ?_ rfl
 simp only[Tryz.ntmps67,List.size_toArray,sF,pD,Nat.reduceAdd,Nat.reduceSub,Array.replicate_succ,Array.replicate_zero,List.push_toArray,List.append_toArray,pC,pA]
 refine wpIn_wide.2 ?_
 go_wp2_with fail
 refine (Zle A xs c _ (HX.out.ext ((Fr.refl _ _).alloc _)) (by omega) h0).mono ?_
 rintro e w1 ⟨b,Q,rfl,hb,x0,C,hO⟩
 have y0:=zh C
 have HO:=zh hO
 have G1:w.heap.size<b:=by simp at hb;omega
 have d:Hid (DcI w w1 b w.heap.size n xs [] none 0):=⟨((Fr.refl _ _).alloc _).trans y0.out,HO.out,Hd.out,Ht.out,by rw[Hv.out];exact ChR.start n,(Blk.new _ _ _).ext y0.out,Buf.nil,fun i R=>by obtain⟨a,ha,_⟩:=R;cases ha⟩
 clear C hO hb
 go_wp2
 go_loopw [4] (fun v4 wr=>∃ (rs cs:List Nat) (A2:Option Addr) (s:Nat),v4=.slice (some ⟨b,0,none⟩) rs.length Q∧rs.length≤Q∧rs.length≤1000000∧Hid (DcI w wr b w.heap.size n rs cs A2 s))
  (fun _ wr=>match wr.cell? ⟨w.heap.size,0,none⟩ with | some (.slice _ m _)=>64000001-m | _=>0)
 case atStart=>exact⟨xs,[],none,0,rfl,x0,hl,d⟩
 case round =>
  obtain⟨rs,cs,A2,s,rfl,H1,I1,d⟩:=hrel
  by_cases Z:0<rs.length
  ·have g0:0<val W64 rs:=Ze4 d.out.trim Zan (fun e=>by rw[e] at Z;simp at Z)
   have d1:cs.length<64000000:=by have:=d.out.ch.bound g0;omega
   have a0:wr.cell? ⟨w.heap.size,0,none⟩=some (.slice A2 cs.length s):=d.out.box.cell 0
   have e1:=d.out.box.frozen 0
   obtain⟨r,hr⟩:=yE (val W64 rs%10000000000000000000)
   have Hr:=zh hr
   have f1:=zh g0
   clear hr g0
   go_wp2_with fail
   first | (go_region_law (first
    | (
     refine ZjJ rfl (.tmp 19) (.tmp 22) 76 rfl 94 .u64 8 Tryz.underlying76 ZdZ A2 (some ⟨w2.heap.size,0,none⟩) cs.length 1 s 1 rfl rfl cs [r] rfl rfl HBuf.out HSh.out (by simp only[maxLen];omega) (by omega) ?_
     intro A3 c3 w3 z0 i0 A0
     have T:=HBox.out.fr i0 (fun h=>(d.out.news _ h).2.2 rfl)
     have g1:=zh T
     have J1:=T.cell 0
     have K1:=T.frozen 0
     have i1:=zh z0
     have B0:=zh i0
     have j1:=zh A0
     clear T z0 i0 A0)
    | (
     go_simp
     go_at_call 108
     refine (Zg0 b Q rs 10000000000000000000 _ d.out.own.drew (by omega) d.out.dig (by decide) (by rw[Zao];decide)).mono ?_
     rintro e w2 ⟨qs,rfl,hq,U,E⟩
     rw[Hr.out]
     have k:=d.out.box.fr (Fr.undrew U) (fun e=>by omega)
     have L1:=k.cell 0
     have C1:=(k.alloc (.cells #[.int .u64 (r:Int)] 94)).cell 0
     have HBox:=zh (k.alloc (.cells #[.int .u64 (r:Int)] 94))
     have HBuf:=zh ((d.out.buf.fr (Fr.undrew U) (fun i R e=>(d.out.news i R).2.1 e)).ext ((Fr.refl _ w2).alloc (.cells #[.int .u64 (r:Int)] 94)))
     have HSh:Hid (Zah .u64 (w2.alloc (.cells #[.int .u64 (r:Int)] 94)) (some ⟨w2.heap.size,0,none⟩) [r]):=(Own.new w2 94 .u64 [r] []).shows0
     have C0:=zh E
     have D0:=zh U
     have Hq:=zh hq
     clear k E U hq)))|skip
   all_goals
    have E0:=((C0.out.alloc (.cells #[.int .u64 (r:Int)] 94)).fr B0.out (fun h=>(d.out.news _ h).2.1 rfl)).far (p:=⟨w.heap.size,0,none⟩) (by show b≠w.heap.size;omega) (.slice A3 (cs.length+1) c3)
    have F0:Ext w (w3.setCell ⟨w.heap.size,0,none⟩ (.slice A3 (cs.length+1) c3)) :=
     (((d.out.ext.next (Fr.undrew D0.out) (fun i R e=>by omega)).alloc (.cells #[.int .u64 (r:Int)] 94)).next B0.out (fun i R h=>by have:=(d.out.news i h).1;omega)).setCell (p:=⟨w.heap.size,0,none⟩) (Or.inr (uK _)) _
    have j0:∀ i,ZaP A3 i→w.heap.size≤i∧i≠b∧i≠w.heap.size:=fun i R=>by
     rcases j1.out i R with h|h
     ·exact d.out.news i h
     have y:=d.out.ext.size
     have z:wr.heap.size≤w2.heap.size:=D0.out.size
     have P:=d.out.own.lt
     have h4:=C0.out.lt
     have h5:=d.out.box.lt
     rw[World.size_alloc] at h
     omega
    have F:=i1.out.fr (S:=fun i=>i=w.heap.size) ((show Fr (fun i=>i=w.heap.size) w3 w3 from Fr.refl _ _).setCell (p:=⟨w.heap.size,0,none⟩) (Or.inl rfl) (.slice A3 (cs.length+1) c3)) (fun i R e=>(j0 i R).2.2 e)
    have b0:Blk 76 (w3.setCell ⟨w.heap.size,0,none⟩ (.slice A3 (cs.length+1) c3)) w.heap.size #[.slice A3 (cs.length+1) c3]:=g1.out.set_ 0 _
    have G0:=zh E0
    have k1:=zh F0
    have l1:=zh j0
    have k0:=zh F
    have H0:=zh b0
    have I0:=zh a0
    have M1:rs.length=qs.length:=Hq.out.1.symm
    clear E0 F0 j0 F b0 a0 e1
    go_wp2_with fail
    refine (ZiP _ qs Q _ G0.out.shows0 (by omega) (by omega)).mono ?_
    rintro e w5 ⟨rfl,G⟩
    have H:=H0.out.ext G
    have d0:=H.cell 0
    have J0:=zh d0
    have l0:=d.out.ch.step f1.out
    rw[show (10:Nat)^19=10000000000000000000 from rfl,Hr.out] at l0
    have m1:Hid (DcI w w5 b w.heap.size n (Za3 qs) (cs ++ [r]) A3 c3) :=
     ⟨k1.out.trans G,(G0.out.take _).ext G,ZcI Hq.out.2.1,ZcQ qs,by rw[Zbr,Hq.out.2.2];exact l0,by rw[vU,sL];exact H,k0.out.ext G,l1.out⟩
    have m0:=zh (Za8 qs)
    have K0:=zh (Zc4 qs qs.length)
    clear G H d0 l0
    go_wp2
    go_roundw
    case rel=>exact⟨Za3 qs,cs ++ [r],A3,c3,by rw[m0.out],by have:=K0.out;rw[m0.out];omega,by have:=K0.out;rw[m0.out];omega,m1⟩
    case measure=>rw[J0.out,I0.out];simp only[List.getElem?_toArray];first|omega | (simp;omega)
  obtain rfl:rs=[]:=qB (by omega)
  have t:=d.out.ch
  rw[Zd4] at t
  have n0:cs≠[]:=fun e=>by have:=t.eq;rw[e] at this;simp[chV] at this;omega
  have N1:=sH.2 n0
  have d1:cs.length≤64000000:=by
   have y:2^(cs.length-1)≤n:=by
    have h:=t.eq
    obtain⟨l,c0,rfl,n1⟩:=t.top rfl n0
    rw[Zia] at h
    have z:(10^19)^l.length*1≤(10^19)^l.length*c0:=uI _ n1
    have P:2^l.length≤(10^19)^l.length:=sJ (by decide) _
    rw[vU,sL,tE]
    omega
   have:=Zdq.2 y
   omega
  have o0:=zh (ZsH t hn)
  have L0:=zh t.lt
  obtain⟨g,rfl,p0,o1,_,_⟩:=d.out.buf.open_ n0
  have p1:=zh p0
  have V:=d.out.box
  have O1:=d.out.news g ⟨_,rfl,rfl⟩
  have q1:=zh V
  have HE:=zh d.out.ext
  have P1:=V.cell 0
  have v:w.heap.size<wr.heap.size:=V.lt
  have I:=p0.lt
  clear t p0 o1 V d
  go_wp2_with fail
  refine (Zoj (some ⟨g,0,none⟩) cs.length s _).mono ?_
  rintro e wS ⟨rfl,rfl⟩
  go_wp2_with fail
  have Q1:Below w.heap.size w wr:=HE.out.toBelow
  have k:Blk 76 ((wr.alloc (.cells #[.pointer none,.slice none 0 0] 145)).alloc (.cells #[.slice (some ⟨g,0,none⟩) cs.length s] 76)) w.heap.size #[.slice (some ⟨g,0,none⟩) cs.length s]:=(q1.out.alloc _).alloc _
  have r1:Blk 145 ((wr.alloc (.cells #[.pointer none,.slice none 0 0] 145)).alloc (.cells #[.slice (some ⟨g,0,none⟩) cs.length s] 76)) wr.heap.size #[.pointer none,.slice none 0 0]:=(Blk.new wr _ _).alloc _
  have M0:Blk 76 ((wr.alloc (.cells #[.pointer none,.slice none 0 0] 145)).alloc (.cells #[.slice (some ⟨g,0,none⟩) cs.length s] 76)) (wr.heap.size+1) #[.slice (some ⟨g,0,none⟩) cs.length s]:=by
   have:=Blk.new (wr.alloc (.cells #[.pointer none,.slice none 0 0] 145)) 76 #[.slice (some ⟨g,0,none⟩) cs.length s]
   rwa [World.size_alloc] at this
  have e0:Own .u64 94 ((wr.alloc (.cells #[.pointer none,.slice none 0 0] 145)).alloc (.cells #[.slice (some ⟨g,0,none⟩) cs.length s] 76)) g cs:=(p1.out.alloc _).alloc _
  have s1:Below w.heap.size w ((wr.alloc (.cells #[.pointer none,.slice none 0 0] 145)).alloc (.cells #[.slice (some ⟨g,0,none⟩) cs.length s] 76)):=((HE.out.alloc _).alloc _).toBelow
  have R1:((wr.alloc (.cells #[.pointer none,.slice none 0 0] 145)).alloc (.cells #[.slice (some ⟨g,0,none⟩) cs.length s] 76)).heap.size=wr.heap.size+2:=by rw[World.size_alloc,World.size_alloc]
  generalize ((wr.alloc (.cells #[.pointer none,.slice none 0 0] 145)).alloc (.cells #[.slice (some ⟨g,0,none⟩) cs.length s] 76))=wS at *
  refine (wpIn_wide (n:=3)).1 ?_
  refine wpIn_rangeFunc_ownF (n:=3) rfl (by decide) (gf:=150) (lb:=#[.pointer (some ⟨wr.heap.size+1,0,none⟩)]) rfl trivial (enters_of Tryz.func150 (by kernel_rfl) rfl)
   (ZlW 2 (wr.heap.size+1) g s cs (by decide) (by omega) wS (by omega) (by omega) (M0.cell 0) (fun j hj=>e0.cell hj)) KpS.trans (fun W q o o' hq _ _ _=>⟨World.putObj_heap_other (by omega),World.putObj_heap_other (by omega)⟩) (Below.refl _ _) (fun _=>rfl)
   (fun f W=>DcJ w wr.heap.size g s cs (Zbw cs f) W) (fun _ _ _=>False)
   (fun f A B row h hg hr=>h.kept hg hr (by omega)) (fun _ _ _ _ _ h _ _=>h)
   ⟨s1,by omega,Or.inl ⟨by omega,.slice none 0 0,r1,⟨rfl,Or.inl ⟨rfl,rfl⟩⟩,by simp[Value.ownBlock]⟩,k,M0,e0⟩ ?a1 ?assign ?body ?done ?stop
  case assign =>
   intro l x W K hK
   gi_wp2
   exact hK
  case stop =>
   rintro D c f W _ _ h _
   exact h.elim
  case body =>
   rintro l f x W J D1
   obtain⟨u,hu⟩:=yE (cs[x]?.getD 0)
   have L:u<10^19:=by
    rw[←hu]
    rcases vI x cs.length with hj|hj
    ·rw[List.getElem?_eq_getElem hj];exact L0.out _ (rD hj)
    rw[List.getElem?_eq_none hj];decide
   rw[hu]
   have t1:=Zqb L
   have N0:=ZlV u W (HG.out.ext (Fr.ofBelow J.below)) (by rw[Zao];exact rV L (by decide))
   have S1:=ZmI L0.out f
   have O0:=J.below.size
   have HU:=zh hu
   have u1:=zh N0
   have HJ:=zh J
   have v1:=J.box.cell 0
   clear hu L N0 J
   obtain⟨D,hD⟩:=yE (Lib.decDigits u)
   rw[hD] at t1
   gi_wp2_with fail
   refine⟨trivial,((callsIn_wide.2 u1.out).inRound l).mono ?_⟩
   rintro e W1 ⟨rfl,C⟩
   rw[hD]
   have HD:=zh hD
   obtain⟨q0,P0,Q0⟩:=HJ.out.step C
   have E1:=q0.box.cell 0
   have X:=zh q0
   have R0:=zh P0
   have S0:=zh Q0
   clear q0 P0 Q0 C hD v1
   by_cases hx:x+1<cs.length
   ·gi_wp2_with fail
    rw[show (19:Int)-(D.length:Int)=((19-D.length:Nat):Int) by omega]
    refine⟨trivial,((callsIn_wide.2 (Zol (19-D.length) W1 (by omega))).inRound l).mono ?_⟩
    rintro e W2 ⟨rfl,T0⟩
    obtain⟨U0,Y,V0⟩:=X.out.step T0
    have r0:=zh U0
    have x1:=zh (R0.out.trans Y)
    have y1:=zh (S0.out.trans V0)
    clear U0 Y V0 T0
    gi_wp2_with fail
    refine⟨trivial,((callsIn_wide.2 (Zf4 w.heap.size wr.heap.size (Zbw cs f) (List.replicate (19-D.length) 48) W2 r0.out.bd (by rw[rU];omega) r0.out.below.size)).inRound l).mono ?_⟩
    rintro e W3 ⟨rfl,y,z,P⟩
    obtain⟨W0,X0,Y0⟩:=r0.out.write v I y z P
    have s0:=zh W0
    have z1:=zh (x1.out.trans X0)
    have A1:=zh (y1.out.trans Y0)
    clear W0 X0 Y0 y z P
    gi_wp2_with fail
    refine⟨trivial,((callsIn_wide.2 (Zf4 w.heap.size wr.heap.size (Zbw cs f ++ List.replicate (19-D.length) 48) D W3 s0.out.bd (by rw[vU,rU];omega) s0.out.below.size)).inRound l).mono ?_⟩
    rintro e W4 ⟨rfl,y,z,P⟩
    obtain⟨M,N,O⟩:=s0.out.write v I y z P
    have t0:=zh M
    have u0:=zh (z1.out.trans N)
    have v0:=zh (A1.out.trans O)
    clear M N O y z P
    gi_wp2
    refine⟨u0.out,v0.out,?_⟩
    show DcJ w wr.heap.size g s cs (Zbw cs (f ++ [x])) W4
    rw[Zib,Zg9,uP hx,HU.out,HD.out,← tB]
    exact t0.out
   gi_wp2_with fail
   refine⟨trivial,((callsIn_wide.2 (Zf4 w.heap.size wr.heap.size (Zbw cs f) D W1 X.out.bd (by omega) X.out.below.size)).inRound l).mono ?_⟩
   rintro e W4 ⟨rfl,y,z,P⟩
   obtain⟨M,N,O⟩:=X.out.write v I y z P
   have t0:=zh M
   have u0:=zh (R0.out.trans N)
   have v0:=zh (S0.out.trans O)
   clear M N O y z P
   gi_wp2
   refine⟨u0.out,v0.out,?_⟩
   show DcJ w wr.heap.size g s cs (Zbw cs (f ++ [x])) W4
   rw[Zib,Zg9,uN hx,HU.out,HD.out]
   exact t0.out
  case done =>
   rintro D ys W hD rfl J hK
   have w0:=J.bd
   rw[o0.out] at w0
   have Z0:=Tryz.Builder_String_any_k w.heap.size wr.heap.size (Lib.decDigits n) W w0 J.below.size
   have O0:=J.below.size
   have B1:=zh Z0
   have HJ:=zh J
   clear w0 Z0 J
   go_wp2_with fail
   refine B1.out.mono ?_
   rintro e W2 ⟨rfl,_,b1,E⟩
   have Y:W2.heap[D]? = some (.deferred (some [])):=Zha E hK (by omega) (fun c fz e=>by cases e)
   have f0:=Zj1 (HJ.out.below.trans b1) (uK _) (grownBy_putObj' W2 D (.deferred none)) (n:=wS.heap.size) (fun r e=>by cases e;exact hD) (by omega)
   have c1:=zh f0
   clear f0 b1 E
   go_wp2
   refine⟨by simp,.inl ⟨_,_,rfl,run_takeDeferred Y,?_⟩⟩
   exact⟨_,results_tmp rfl _ _ _,rfl,Fr.ofBelow c1.out⟩
theorem Zoo (A:Option Addr)(l c n:Nat)(w:World)(j:Glob w)(b:Zaj w (.slice A l c) n)(d:wl n≤1000000):yA 67 #[.slice A l c] w (ZgG w (Lib.decDigits n)):=by
 rcases uH n with rfl|k
 ·exact Zon A l c w b
 obtain⟨o,f,p,e,q,m,g,i,a⟩:=b
 injection e with e1 e2 e3
 subst e1 e2 e3
 rw[←a,← ZaQ g i] at d
 refine Zpl A f c n w j k m g i a d ?_
 rcases uH f.length with h|h
 ·rw[qB h] at a;simp at a;omega
 exact h
end Go.Proofs.YtklpdkpcocnglaaGreatDoor
namespace Go.Proofs.YtklpdkpcocnglaaGreatDoor
open Go.RowKit
def ldR (l:List UInt8) (x:Int):FR:=if fvB l x=true then ⟨(ZaA l).1,Zak (ZaA l).2,x,0⟩ else ⟨false,0,0,0⟩
def shLd (v:Bool) (r:FR) (x:ShN):Value:=.tuple #[yV r.s x.1 x.2.1 x.2.2 r.e,.bool v]
def ZbU (w:World) (v:Bool) (r:FR) (e:Ending) (w':World):Prop:=∃ x:ShN,e=.returned (shLd v r x)∧Zaj w' (ZaJ x) r.m∧Ext w w'
theorem Zbq {w w':World}{e:Ending}{v:Bool}{r:FR}(h:ZbU w v r e w'):ZbO (shLd v r) (fun x w=>Zaj w (ZaJ x) r.m) w e w':=by
 obtain⟨x,rfl,a,Q⟩:=h
 exact⟨x,rfl,Q,boxn Q (fun S b c d=>a.nrb c d)⟩
def frT (r:FR):List UInt8:=if r.err=0 then Lib.itoa (sg r.s r.m) else []
def frE (r:FR):Int:=if r.err=0 then r.e else 0
abbrev ZbQ (w:World) (r:FR):Ending→World→Prop:=RetV w (.tuple #[yS ⟨(frT r).toArray⟩ (frE r),.int .i64 r.err])
def Fine (r:FR):Prop:=(r.s=true→0<r.m)∧wl r.m≤1000000
theorem ZfC (k:Int):Fine ⟨false,0,0,k⟩:=⟨(fun h=>by cases h),(by show (0:Nat)≤1000000;decide)⟩
theorem ZmJ {s:Bool}{n:Nat}{e:Int}(h:wl n≤1000000):Fine (Zbi s n e):=by
 unfold Zbi
 split
 ·exact ZfC 0
 rename_i a
 split
 ·obtain⟨b,c⟩:=ZdD (show 0<n by omega)
  exact⟨fun _=>by show 0<oddM n;omega,uA (Zbj (uO _ _)) h⟩
 exact ZfC 2
theorem Ze3 {s:Bool}{n d bits:Nat}{e:Int}(a:0<d)(b:0<bits)(c:bits≤4096):Fine (ZaK s n d e bits):=by
 unfold ZaK
 split
 ·exact ZfC 0
 refine ZmJ ?_
 have f:=Zf1 (n:=n) (d:=d) (bits:=bits) (by omega) a b
 have h:=(Zjx (fa n (rndK n d bits)) (fb d (rndK n d bits))).2
 have i:fa n (rndK n d bits)/fb d (rndK n d bits)<2^bits:=by
  have:=ZcF (fq n d (rndK n d bits))
  rw[f] at this
  exact this
 have g:rndM n d bits≤2^bits:=by unfold rndM;omega
 have j:wl (2^bits)≤1000:=Zlg (by omega)
 have:=Zbj g
 omega
theorem Zoq {sx c:Bool}{d ym bits:Nat}{xe e:Int}(b:0<bits)(a:bits≤4096):Fine (sumR sx d xe c ym e bits):=by
 unfold sumR
 split
 ·exact Ze3 (by decide) b a
 split
 ·exact Ze3 (by decide) b a
 exact Ze3 (by decide) b a
theorem Zt2 {s:Bool}{m n bits:Nat}{e:Int}(b:0<bits)(a:bits≤4096):Fine (Zg2 s m n e bits):=by
 unfold Zg2
 split
 ·exact ZfC 5
 exact Ze3 (by omega) b a
theorem Zvo (n:Nat):(Lib.decDigits n).length≤20*wl n+1:=by
 rw[Lib.decDigits_length]
 refine Zhi (20*wl n) n ?_
 have b:=Zjm n
 have a:W64^wl n≤(10^20)^wl n:=sJ (by rw[Zao];decide) _
 rw[←sZ] at a
 have c:10^(20*wl n)≤10^(20*wl n+1):=vF (by decide) (by omega)
 omega
theorem Zbc {l:List UInt8}{x:Int}(h:fvB l x=true) : -1048576≤x∧x≤1048576∧(ZaA l).2.all Zav=true∧((ZaA l).1=true→0<Zak (ZaA l).2):=by
 unfold fvB at h
 by_cases a:l=[48]
 ·rw[uP a] at h
  have:=uC h
  subst a
  exact⟨by omega,by omega,by decide,fun h=>by cases h⟩
 rw[uN a] at h
 obtain⟨_,_,b,c,d⟩:=uC h
 exact⟨b.1,b.2,c,fun _=>by omega⟩
theorem Zgf (l:List UInt8):(ZaA l).2.length≤l.length:=by
 unfold ZaA;split
 ·simp
 exact uK _
theorem Zei {l:List UInt8}{x:Int}(c:l.length≤100000):wl (ldR l x).m≤100000:=by
 unfold ldR
 split
 ·rename_i h
  have a:=Zbc h
  have b:=ZbM _ a.2.2.1
  have d:=Zgf l
  exact ZgC b (by omega)
 show (0:Nat)≤100000;decide
theorem Za0 (s:ByteArray)(x:Int)(w:World)(m:(bytes s).length≤100000) :
 yA 64 #[yS s x] w (ZbU w (fvB (bytes s) x) (ldR (bytes s) x)):=by
 refine Zax (Φ:=fun w=>True) Tryz.func64 rfl (by kernel_rfl) (fun w' t=>trivial) ?_
 refine Zac ?_
 by_cases a:fvB (bytes s) x=true
 ·refine Zab (xq 3 [(1,.p 1 0),(2,.p 2 0),yB 3 false] [yF 2 79 false none 0 0 0,yG 1 24 s x] ?_)
  refine xe (Zaa (Zac (Zac (Zab (xq 1 [(6,.v (yS s x))] [] ?_)))))
  refine xqc 19 [yS s x] 7 (fun _:Unit=>.bool true) _ (fun w R Q=>(Zh8 s x _ (by omega)).mono (fun _ _ h=>Zag h (by rw[a]))) fun i=>?_
  refine xq 1 [yB 8 false] [] ?_
  refine xe (Zaa (xb (Zal (Zaa (Zac (Zac ?_))))))
  by_cases b:bytes s=[48]
  ·refine Zab (xq 3 [yB 12 ((s:ByteArray).toList == (⟨#[48]⟩:ByteArray).toList)] [] ?_)
   rw[Zp0 b]
   refine xe (Zaa (xa (Zac (Zab (xq 3 [yB 3 true] [] ?_)))))
   refine xe (Zaa (Zaf (Zae ?_)))
   refine yR (.tuple #[yV false none 0 0 0,.bool true]) fun w' R Q=>?_
   have n:x=0:=by have h:=a;unfold fvB at h;rw[uP b] at h;exact uC h
   have k:ldR (bytes s) x=⟨false,0,0,0⟩:=by unfold ldR;rw[uP a,b,n];rfl
   rw[a,k]
   exact⟨(none,0,0),rfl,Zaj.zero _,R⟩
  refine Zab (xq 3 [yB 12 ((s:ByteArray).toList == (⟨#[48]⟩:ByteArray).toList)] [] ?_)
  rw[Zp1 b]
  refine xe (Zaa (xb (Zal (Zaa (Zac (Zab (xq 2 [yT 16 s] [] ?_)))))))
  refine xqc 63 [.string s] 17 Zlp _ (fun w R Q=>yM Zi6 (Zi7 s _)) fun i=>?_
  obtain⟨r,neg⟩:=i
  refine xq 5 [yB 4 neg,yT 5 r] [] ?_
  refine xe (Zaa (Zac ?_))
  refine SXc.know (p:=ZaA (bytes s)=(neg,bytes r)) (fun w _ Q=>Q.2) fun l=>?_
  have j:=Zbc a
  rw[l] at j
  have f:(bytes r).all Zav=true:=j.2.2.1
  have g:=Zgf (bytes s)
  rw[l] at g
  have o:r.size≤100000:=by rw[←Zaq];exact uA g m
  have q:wl (Zak (bytes r))≤100000:=ZgC (ZbM _ f) (uA g m)
  refine yO 6 Zam ?_
  refine xqg 2 [yB 20 neg,yT 21 r] ?_
  refine xqd 100 [.string r] 22 ZaJ _ (fun w R Q=>yM ZaD (Zic r _ (Zak (bytes r)) f rfl (by omega) (by omega))) fun i=>?_
  obtain⟨c,d,e⟩:=i
  refine xqg 3 [(25,.v (yV neg c d e x))] ?_
  refine xz (xq 2 [yB 3 true] [yF 2 79 neg c d e x] ?_)
  refine xe (Zaa (Zaf ?_))
  refine yR (.tuple #[yV neg c d e x,.bool true]) fun w' R Q=>?_
  rw[a,show ldR (bytes s) x=⟨neg,Zak (bytes r),x,0⟩ by unfold ldR;rw[uP a,l]]
  exact⟨(c,d,e),rfl,Q.2,R⟩
 refine Zab (xq 3 [(1,.p 1 0),(2,.p 2 0),yB 3 false] [yF 2 79 false none 0 0 0,yG 1 24 s x] ?_)
 refine xe (Zaa (Zac (Zac (Zab (xq 1 [(6,.v (yS s x))] [] ?_)))))
 refine xqc 19 [yS s x] 7 (fun _:Unit=>.bool false) _ (fun w R Q=>(Zh8 s x _ (by omega)).mono (fun _ _ h=>Zag h (by rw[vR.2 a]))) fun i=>?_
 refine xq 1 [yB 8 true] [] ?_
 refine xe (Zaa (xa (Zac (Zab (xq 3 [yB 3 false] [] ?_)))))
 refine xe (Zaa (Zaf (Zae ?_)))
 refine yR (.tuple #[yV false none 0 0 0,.bool false]) fun w' R Q=>?_
 rw[vR.2 a,show ldR (bytes s) x=⟨false,0,0,0⟩ from uN a]
 exact⟨(none,0,0),rfl,Zaj.zero _,R⟩
theorem Zpm (s:Bool)(A:Option Addr)(l c m:Nat)(e:Int)(w:World)(g:Glob w)(i:Zaj w (.slice A l c) m)(n:wl m≤1000000)(j:s=true→0<m) :
 yA 97 #[yV s A l c e] w (RetV w (yS ⟨(Lib.itoa (sg s m)).toArray⟩ e)):=by
 refine Zax (Φ:=fun w=>(Glob w∧Zaj w (.slice A l c) (m))) Tryz.func97 rfl (by kernel_rfl) (fun w' f=>⟨g.ext f,i.ext f⟩) ?_
 refine Zac (Zab (xq 2 [(1,.p 1 0),(2,.p 2 0)] [yG 2 24 ⟨#[]⟩ 0,yF 1 79 s A l c e] ?_))
 refine xe (Zaa (Zac (Zab (xq 2 [eS1 5 A l c] [] ?_))))
 refine xqc 67 [.slice A l c] 6 (fun _:Unit=>.string ⟨(Lib.decDigits m).toArray⟩) _ (fun w R Q=>yN (Zoo A l c m _ Q.1 Q.2 (by omega))) fun o=>?_
 refine xq 1 [yT 3 ⟨(Lib.decDigits m).toArray⟩] [] ?_
 refine xe (Zaa (Zac (Zac (Zab (xq 2 [yB 8 s] [] ?_)))))
 refine xe (Zaa ?_)
 refine yQ (s) (fun b=>?_) fun b=>?_
 ·have d:=b
  refine Zab (xq 1 [yT 9 ⟨(Lib.decDigits m).toArray⟩] [] ?_)
  refine yK 10 (.string ⟨(45 :: Lib.decDigits m).toArray⟩) (fun w R Q=>ZqE (x:=(Operand.const (Value.string { data:=#[45] }))) (y:=.tmp 9) (t:=9) (k:=9) (by kernel_rfl) (by kernel_rfl) (by kernel_rfl) (by have q:=Zvo m;rw[←Zaq ⟨(Lib.decDigits m).toArray⟩,Zew];have:(⟨#[45]⟩:ByteArray).size=1:=rfl;omega) (ZjA [45] (Lib.decDigits m))) ?_
  refine xr 1 [(1,.p 1 0),(2,.p 2 0),yT 3 ⟨(45 :: Lib.decDigits m).toArray⟩] [yG 2 24 ⟨#[]⟩ 0,yF 1 79 s A l c e] ?_
  refine xe (Zaa (Zac (Zab (xq 5 [] [yG 2 24 ⟨(45 :: Lib.decDigits m).toArray⟩ e] ?_))))
  refine xe (Zaa (Zaf ?_))
  refine yR (yS ⟨(45 :: Lib.decDigits m).toArray⟩ e) fun w' R Q=>?_
  exact⟨by rw[d,Zhz (neg:=true) (a:=m) (fun h=>by have:=j d;omega)];rfl,R⟩
 have d:=b
 refine Zal (Zaa (Zac (Zab (xq 5 [] [yG 2 24 ⟨(Lib.decDigits m).toArray⟩ e] ?_))))
 refine xe (Zaa (Zaf ?_))
 refine yR (yS ⟨(Lib.decDigits m).toArray⟩ e) fun w' R Q=>?_
 exact⟨by rw[d,Zhz (neg:=false) (a:=m) (fun _=>rfl)];rfl,R⟩
theorem Zeb (r:FR)(A:Option Addr)(l c:Nat)(w:World)(h:Glob w)(i:Zaj w (.slice A l c) r.m)(f:Fine r) :
 yA 56 #[yV r.s A l c r.e,.int .i64 r.err] w (ZbQ w r):=by
 refine Zax (Φ:=fun w=>(Glob w∧Zaj w (.slice A l c) (r.m))) Tryz.func56 rfl (by kernel_rfl) (fun w' g=>⟨h.ext g,i.ext g⟩) ?_
 refine Zac (Zab (xq 3 [(2,.p 2 0),(4,.p 4 0),yJ 5 0] [yG 4 24 ⟨#[]⟩ 0,yF 2 79 r.s A l c r.e] ?_))
 refine xe (Zaa (Zac (Zac (Zab (xq 2 [yB 7 ((r.err:Int) != 0)] [] ?_)))))
 refine xe (Zaa ?_)
 refine yQ (((r.err:Int) != 0)) (fun a=>?_) fun a=>?_
 ·have b:=Zc9 a
  refine Zac (Zab (xq 4 [yJ 5 r.err] [] ?_))
  refine xe (Zaa (Zaf (Zae ?_)))
  refine yR (.tuple #[yS ⟨#[]⟩ 0,.int .i64 r.err]) fun w' R Q=>?_
  exact⟨by rw[show frT r=[] from uN (by omega),show frE r=0 from uN (by omega)],R⟩
 have b:=Zda a
 refine Zal (Zaa (Zac (Zab (xq 1 [(10,.v (yV r.s A l c r.e))] [] ?_))))
 refine xqc 97 [yV r.s A l c r.e] 11 (fun _:Unit=>.agg #[.string ⟨(Lib.itoa (sg r.s r.m)).toArray⟩,.int .i64 r.e]) _ (fun w R Q=>yN (Zpm r.s A l c r.m r.e _ Q.1 Q.2 f.2 f.1)) fun j=>?_
 refine xq 2 [yJ 5 0] [yG 4 24 ⟨(Lib.itoa (sg r.s r.m)).toArray⟩ r.e] ?_
 refine xe (Zaa (Zaf ?_))
 refine yR (.tuple #[yS ⟨(Lib.itoa (sg r.s r.m)).toArray⟩ r.e,.int .i64 0]) fun w' R Q=>?_
 have d:r.err=0:=by omega
 exact⟨by rw[show frT r=Lib.itoa (sg r.s r.m) from uP d,show frE r=r.e from uP d,d],R⟩
theorem ZsJ (s:ByteArray)(x:Int)(w:World)(o:(bytes s).length≤100000) :
 yA 20 #[yS s x] w (RetV w (.int .i64 ((blen (ldR (bytes s) x).m:Nat):Int))):=by
 refine Zax (Φ:=fun w=>True) Tryz.func20 rfl (by kernel_rfl) (fun w' y=>trivial) ?_
 refine Zac (Zab (xq 2 [(1,.p 1 0),yJ 2 0] [yG 1 24 s x] ?_))
 refine xe (Zaa (Zac (Zab (xq 1 [(6,.v (yS s x))] [] ?_))))
 by_cases l:fvB (bytes s) x=true
 ·obtain⟨a,b⟩:=yE (ldR (bytes s) x)
  have q:=Zbc l
  have r:wl a.m≤100000:=by rw[←b];exact Zei o
  have t:a.e=x:=by rw[←b,show ldR (bytes s) x=_ from uP l]
  have u:a.s=true→0<a.m:=by rw[←b,show ldR (bytes s) x=_ from uP l];exact q.2.2.2
  refine xqc 64 [yS s x] 7 (shLd true a) _ (fun w R Q=>yM Zbq ((show Calls _ _ _ _ (ZbU w true a) by rw[←b,← l];exact Za0 s x _ o))) fun n=>?_
  obtain⟨f,g,h⟩:=n
  refine xq 6 [(3,.p 3 0)] [yF 3 79 a.s f g h a.e] ?_
  refine xe (Zaa (Zac (Zab (xq 2 [eS1 11 f g h] [] ?_))))
  refine xqc 65 [.slice f g h] 12 (fun _:Unit=>.int .i64 ((blen a.m:Nat):Int)) _ (fun w R Q=>yN (ZbV Q.2 (by omega))) fun n=>?_
  refine xq 1 [yJ 2 ((blen a.m:Nat):Int)] [] ?_
  refine xe (Zaa (Zaf ?_))
  refine yR (.int .i64 ((blen a.m:Nat):Int)) fun w' R Q=>?_
  exact⟨by rw[b],R⟩
 obtain⟨c,d⟩:=yE (ldR (bytes s) x)
 refine xqc 64 [yS s x] 7 (shLd false c) _ (fun w R Q=>yM Zbq ((show Calls _ _ _ _ (ZbU w false c) by rw[←d,← vR.2 l];exact Za0 s x _ o))) fun n=>?_
 obtain⟨i,j,k⟩:=n
 refine xq 6 [(3,.p 3 0)] [yF 3 79 c.s i j k c.e] ?_
 refine xe (Zaa (Zac (Zab (xq 2 [eS1 11 i j k] [] ?_))))
 refine xqc 65 [.slice i j k] 12 (fun _:Unit=>.int .i64 ((blen c.m:Nat):Int)) _ (fun w R Q=>yN (ZbV Q.2 (by rw[←d,show ldR (bytes s) x=_ from uN l];decide))) fun n=>?_
 refine xq 1 [yJ 2 ((blen c.m:Nat):Int)] [] ?_
 refine xe (Zaa (Zaf ?_))
 refine yR (.int .i64 ((blen c.m:Nat):Int)) fun w' R Q=>?_
 exact⟨by rw[d],R⟩
def binR (op:FR→FR→Nat→FR) (l l':List UInt8) (x y b:Int):FR:=if fvB l x=true∧fvB l' y=true then (if 8≤b∧b≤1024 then op (ldR l x) (ldR l' y) b.toNat else ⟨false,0,0,3⟩) else ⟨false,0,0,1⟩
def ZcM (a b:FR) (bits:Nat):FR:=sumR a.s a.m a.e b.s b.m b.e bits
def ZcN (a b:FR) (bits:Nat):FR:=ZaK (a.s != b.s) (a.m*b.m) 1 (a.e+b.e) bits
def Zck (a b:FR) (bits:Nat):FR:=Zg2 (a.s != b.s) a.m b.m (a.e-b.e) bits
theorem Zm4 (s t:ByteArray)(x y b:Int)(w:World)(hg:Glob w)(U:(bytes s).length≤100000)(o:(bytes t).length≤100000) :
 yA 81 #[yS s x, yS t y,.int .i64 b,.func (.func 84) #[] #[]] w (ZbQ w (binR ZcM (bytes s) (bytes t) x y b)):=by
 refine Zax (Φ:=fun w=>Glob w) Tryz.func81 rfl (by kernel_rfl) (fun w' hf=>hg.ext hf) ?_
 refine Zac (Zab (xq 4 [(4,.p 4 0),(5,.p 5 0),(8,.p 8 0),yJ 9 0] [yG 8 24 ⟨#[]⟩ 0,yG 5 24 t y,yG 4 24 s x] ?_))
 refine xe (Zaa (Zac (Zab (xq 1 [(15,.v (yS s x))] [] ?_))))
 by_cases u:fvB (bytes s) x=true
 ·obtain⟨d,g⟩:=yE (ldR (bytes s) x)
  have V:=Zbc u
  have i0:wl d.m≤100000:=by rw[←g];exact Zei U
  have j0:d.e=x:=by rw[←g,show ldR (bytes s) x=_ from uP u]
  have k0:d.s=true→0<d.m:=by rw[←g,show ldR (bytes s) x=_ from uP u];exact V.2.2.2
  refine xqc 64 [yS s x] 16 (shLd true d) _ (fun w R Q=>yM Zbq ((show Calls _ _ _ _ (ZbU w true d) by rw[←g,← u];exact Za0 s x _ U))) fun k=>?_
  obtain⟨C,D,E⟩:=k
  refine xq 6 [(10,.p 10 0),yB 11 true] [yF 10 79 d.s C D E d.e] ?_
  refine xe (Zaa (Zac (Zab (xq 1 [(20,.v (yS t y))] [] ?_))))
  by_cases c:fvB (bytes t) y=true
  ·obtain⟨f,i⟩:=yE (ldR (bytes t) y)
   have q:=Zbc c
   have L:wl f.m≤100000:=by rw[←i];exact Zei o
   have M:f.e=y:=by rw[←i,show ldR (bytes t) y=_ from uP c]
   have N:f.s=true→0<f.m:=by rw[←i,show ldR (bytes t) y=_ from uP c];exact q.2.2.2
   refine xqc 64 [yS t y] 21 (shLd true f) _ (fun w R Q=>yM Zbq ((show Calls _ _ _ _ (ZbU w true f) by rw[←i,← c];exact Za0 t y _ o))) fun k=>?_
   obtain⟨F,G,H⟩:=k
   refine xq 6 [(12,.p 12 0),yB 13 true] [yF 12 79 f.s F G H f.e] ?_
   refine xe (Zaa (Zac (Zac (Zab (xq 6 [yB 29 false] [] ?_)))))
   refine xe (Zaa (xb (Zal (Zaa (Zac (Zac ?_))))))
   by_cases T:8≤b∧b≤1024
   ·obtain⟨n,hn⟩:∃ n:Nat,b=n:=⟨b.toNat,by omega⟩
    subst hn
    refine Zab (xq 1 [yJ 31 (n:Int)] [] ?_)
    refine xqc 55 [.int .i64 (n:Int)] 32 (fun _:Unit=>.bool true) _ (fun w R Q=>(Zb3 _ _).mono (fun _ _ h=>Zag h (by rw[uQ T]))) fun k=>?_
    refine xq 1 [yB 33 false] [] ?_
    refine xe (Zaa (xb (Zal (Zaa (Zac (Zab (xq 4 [(35,.v (.func (.func 84) #[] #[])),(36,.v (yV d.s C D E d.e)),(37,.v (yV f.s F G H f.e)),yJ 38 (n:Int)] [] ?_)))))))
    obtain⟨a,r⟩:=yE (ZcM d f n)
    refine xqc 84 [yV d.s C D E d.e, yV f.s F G H f.e,.int .i64 (n:Int)] 39 (shNb a) _ (fun w R Q=>yM ZaU ((show Calls _ _ _ _ (ZaX w a) by rw[←r];exact ZiX _ _ _ _ _ _ _ _ _ _ _ _ n (by omega) (by omega) _ Q.1.1.1 Q.1.1.2 (by omega) (by omega) (by omega) Q.1.2 (by omega) (by omega) (by omega)))) fun k=>?_
    obtain⟨I,J,K⟩:=k
    refine xq 2 [(40,.v (yV a.s I J K a.e)),yJ 41 a.err] [] ?_
    refine xqc 56 [yV a.s I J K a.e,.int .i64 a.err] 42 (fun _:Unit=>.tuple #[yS ⟨(frT a).toArray⟩ (frE a),.int .i64 a.err]) _ (fun w R Q=>yN (Zeb a I J K _ Q.1.1.1.1 Q.2 (by rw[←r];exact Zoq (by omega) (by omega)))) fun k=>?_
    refine xq 4 [yJ 9 a.err] [yG 8 24 ⟨(frT a).toArray⟩ (frE a)] ?_
    refine xe (Zaa (Zaf ?_))
    refine yR (.tuple #[yS ⟨(frT a).toArray⟩ (frE a),.int .i64 a.err]) fun w' R Q=>?_
    rw[show binR ZcM (bytes s) (bytes t) x y (n:Int)=ZcM (ldR (bytes s) x) (ldR (bytes t) y) n by unfold binR;rw[uP ⟨u,c⟩,uP T];rfl,g,i,r]
    exact⟨rfl,R⟩
   refine Zab (xq 1 [yJ 31 b] [] ?_)
   refine xqc 55 [.int .i64 b] 32 (fun _:Unit=>.bool false) _ (fun w R Q=>(Zb3 _ _).mono (fun _ _ h=>Zag h (by rw[uJ T]))) fun k=>?_
   refine xq 1 [yB 33 true] [] ?_
   refine xe (Zaa (xa (Zac (Zab (xq 3 [yJ 9 3] [] ?_)))))
   refine xe (Zaa (Zaf (Zae ?_)))
   refine yR (.tuple #[yS ⟨#[]⟩ 0,.int .i64 3]) fun w' R Q=>?_
   rw[show binR ZcM (bytes s) (bytes t) x y b=⟨false,0,0,3⟩ by unfold binR;rw[uP ⟨u,c⟩,uN T]]
   exact⟨rfl,R⟩
  obtain⟨z,O⟩:=yE (ldR (bytes t) y)
  refine xqc 64 [yS t y] 21 (shLd false z) _ (fun w R Q=>yM Zbq ((show Calls _ _ _ _ (ZbU w false z) by rw[←O,← vR.2 c];exact Za0 t y _ o))) fun k=>?_
  obtain⟨W,X,Y⟩:=k
  refine xq 6 [(12,.p 12 0),yB 13 false] [yF 12 79 z.s W X Y z.e] ?_
  refine xe (Zaa (Zac (Zac (Zab (xq 6 [yB 29 true] [] ?_)))))
  refine xe (Zaa (xa (Zac (Zab (xq 3 [yJ 9 1] [] ?_)))))
  refine xe (Zaa (Zaf (Zae ?_)))
  refine yR (.tuple #[yS ⟨#[]⟩ 0,.int .i64 1]) fun w' R Q=>?_
  rw[show binR ZcM (bytes s) (bytes t) x y b=⟨false,0,0,1⟩ from uN (fun h=>c h.2)]
  exact⟨rfl,R⟩
 obtain⟨A,P⟩:=yE (ldR (bytes s) x)
 refine xqc 64 [yS s x] 16 (shLd false A) _ (fun w R Q=>yM Zbq ((show Calls _ _ _ _ (ZbU w false A) by rw[←P,← vR.2 u];exact Za0 s x _ U))) fun k=>?_
 obtain⟨Z,a0,b0⟩:=k
 refine xq 6 [(10,.p 10 0),yB 11 false] [yF 10 79 A.s Z a0 b0 A.e] ?_
 refine xe (Zaa (Zac (Zab (xq 1 [(20,.v (yS t y))] [] ?_))))
 by_cases c:fvB (bytes t) y=true
 ·obtain⟨j,l⟩:=yE (ldR (bytes t) y)
  have q:=Zbc c
  have L:wl j.m≤100000:=by rw[←l];exact Zei o
  have M:j.e=y:=by rw[←l,show ldR (bytes t) y=_ from uP c]
  have N:j.s=true→0<j.m:=by rw[←l,show ldR (bytes t) y=_ from uP c];exact q.2.2.2
  refine xqc 64 [yS t y] 21 (shLd true j) _ (fun w R Q=>yM Zbq ((show Calls _ _ _ _ (ZbU w true j) by rw[←l,← c];exact Za0 t y _ o))) fun k=>?_
  obtain⟨c0,d0,e0⟩:=k
  refine xq 6 [(12,.p 12 0),yB 13 true] [yF 12 79 j.s c0 d0 e0 j.e] ?_
  refine xe (Zaa (Zac (Zac (Zab (xq 6 [yB 29 true] [] ?_)))))
  refine xe (Zaa (xa (Zac (Zab (xq 3 [yJ 9 1] [] ?_)))))
  refine xe (Zaa (Zaf (Zae ?_)))
  refine yR (.tuple #[yS ⟨#[]⟩ 0,.int .i64 1]) fun w' R Q=>?_
  rw[show binR ZcM (bytes s) (bytes t) x y b=⟨false,0,0,1⟩ from uN (fun h=>u h.1)]
  exact⟨rfl,R⟩
 obtain⟨B,S⟩:=yE (ldR (bytes t) y)
 refine xqc 64 [yS t y] 21 (shLd false B) _ (fun w R Q=>yM Zbq ((show Calls _ _ _ _ (ZbU w false B) by rw[←S,← vR.2 c];exact Za0 t y _ o))) fun k=>?_
 obtain⟨f0,g0,h0⟩:=k
 refine xq 6 [(12,.p 12 0),yB 13 false] [yF 12 79 B.s f0 g0 h0 B.e] ?_
 refine xe (Zaa (Zac (Zac (Zab (xq 6 [yB 29 true] [] ?_)))))
 refine xe (Zaa (xa (Zac (Zab (xq 3 [yJ 9 1] [] ?_)))))
 refine xe (Zaa (Zaf (Zae ?_)))
 refine yR (.tuple #[yS ⟨#[]⟩ 0,.int .i64 1]) fun w' R Q=>?_
 rw[show binR ZcM (bytes s) (bytes t) x y b=⟨false,0,0,1⟩ from uN (fun h=>u h.1)]
 exact⟨rfl,R⟩
theorem Zt3 (s t:ByteArray)(x y b:Int)(w:World)(d:Glob w)(e:(bytes s).length≤100000)(a:(bytes t).length≤100000) :
 yA 46 #[yS s x, yS t y,.int .i64 b] w (ZbQ w (binR ZcM (bytes s) (bytes t) x y b)):=by
 obtain⟨r,c⟩:=yE (binR ZcM (bytes s) (bytes t) x y b)
 rw[c]
 refine Zax (Φ:=fun w=>Glob w) Tryz.func46 rfl (by kernel_rfl) (fun w' f=>d.ext f) ?_
 refine Zac (Zab (xq 4 [(3,.p 3 0),(4,.p 4 0),(6,.p 6 0),yJ 7 0] [yG 6 24 ⟨#[]⟩ 0,yG 4 24 t y,yG 3 24 s x] ?_))
 refine xe (Zaa (Zac (Zab (xq 3 [(8,.v (yS s x)),(9,.v (yS t y)),yJ 10 b] [] ?_))))
 refine xqc 81 [yS s x, yS t y,.int .i64 b,.func (.func 84) #[] #[]] 11 (fun _:Unit=>.tuple #[yS ⟨(frT r).toArray⟩ (frE r),.int .i64 r.err]) _ (fun w R Q=>yN ((show Calls _ _ _ _ (ZbQ w r) by rw[←c];exact Zm4 s t x y b _ Q e a))) fun g=>?_
 refine xq 4 [yJ 7 r.err] [yG 6 24 ⟨(frT r).toArray⟩ (frE r)] ?_
 refine xe (Zaa (Zaf ?_))
 refine yR (.tuple #[yS ⟨(frT r).toArray⟩ (frE r),.int .i64 r.err]) fun w' R Q=>?_
 exact⟨rfl,R⟩
theorem Zm5 (s t:ByteArray)(x y b:Int)(w:World)(hg:Glob w)(U:(bytes s).length≤100000)(o:(bytes t).length≤100000) :
 yA 81 #[yS s x, yS t y,.int .i64 b,.func (.func 82) #[] #[]] w (ZbQ w (binR ZcN (bytes s) (bytes t) x y b)):=by
 refine Zax (Φ:=fun w=>Glob w) Tryz.func81 rfl (by kernel_rfl) (fun w' hf=>hg.ext hf) ?_
 refine Zac (Zab (xq 4 [(4,.p 4 0),(5,.p 5 0),(8,.p 8 0),yJ 9 0] [yG 8 24 ⟨#[]⟩ 0,yG 5 24 t y,yG 4 24 s x] ?_))
 refine xe (Zaa (Zac (Zab (xq 1 [(15,.v (yS s x))] [] ?_))))
 by_cases u:fvB (bytes s) x=true
 ·obtain⟨d,g⟩:=yE (ldR (bytes s) x)
  have V:=Zbc u
  have i0:wl d.m≤100000:=by rw[←g];exact Zei U
  have j0:d.e=x:=by rw[←g,show ldR (bytes s) x=_ from uP u]
  have k0:d.s=true→0<d.m:=by rw[←g,show ldR (bytes s) x=_ from uP u];exact V.2.2.2
  refine xqc 64 [yS s x] 16 (shLd true d) _ (fun w R Q=>yM Zbq ((show Calls _ _ _ _ (ZbU w true d) by rw[←g,← u];exact Za0 s x _ U))) fun k=>?_
  obtain⟨C,D,E⟩:=k
  refine xq 6 [(10,.p 10 0),yB 11 true] [yF 10 79 d.s C D E d.e] ?_
  refine xe (Zaa (Zac (Zab (xq 1 [(20,.v (yS t y))] [] ?_))))
  by_cases c:fvB (bytes t) y=true
  ·obtain⟨f,i⟩:=yE (ldR (bytes t) y)
   have q:=Zbc c
   have L:wl f.m≤100000:=by rw[←i];exact Zei o
   have M:f.e=y:=by rw[←i,show ldR (bytes t) y=_ from uP c]
   have N:f.s=true→0<f.m:=by rw[←i,show ldR (bytes t) y=_ from uP c];exact q.2.2.2
   refine xqc 64 [yS t y] 21 (shLd true f) _ (fun w R Q=>yM Zbq ((show Calls _ _ _ _ (ZbU w true f) by rw[←i,← c];exact Za0 t y _ o))) fun k=>?_
   obtain⟨F,G,H⟩:=k
   refine xq 6 [(12,.p 12 0),yB 13 true] [yF 12 79 f.s F G H f.e] ?_
   refine xe (Zaa (Zac (Zac (Zab (xq 6 [yB 29 false] [] ?_)))))
   refine xe (Zaa (xb (Zal (Zaa (Zac (Zac ?_))))))
   by_cases T:8≤b∧b≤1024
   ·obtain⟨n,hn⟩:∃ n:Nat,b=n:=⟨b.toNat,by omega⟩
    subst hn
    refine Zab (xq 1 [yJ 31 (n:Int)] [] ?_)
    refine xqc 55 [.int .i64 (n:Int)] 32 (fun _:Unit=>.bool true) _ (fun w R Q=>(Zb3 _ _).mono (fun _ _ h=>Zag h (by rw[uQ T]))) fun k=>?_
    refine xq 1 [yB 33 false] [] ?_
    refine xe (Zaa (xb (Zal (Zaa (Zac (Zab (xq 4 [(35,.v (.func (.func 82) #[] #[])),(36,.v (yV d.s C D E d.e)),(37,.v (yV f.s F G H f.e)),yJ 38 (n:Int)] [] ?_)))))))
    obtain⟨a,r⟩:=yE (ZcN d f n)
    refine xqc 82 [yV d.s C D E d.e, yV f.s F G H f.e,.int .i64 (n:Int)] 39 (shNb a) _ (fun w R Q=>yM ZaU ((show Calls _ _ _ _ (ZaX w a) by rw[←r];exact Zsm _ _ _ _ _ _ _ _ _ _ _ _ n (by omega) (by omega) _ Q.1.1.1 Q.1.1.2 (by omega) (by omega) (by omega) Q.1.2 (by omega) (by omega) (by omega)))) fun k=>?_
    obtain⟨I,J,K⟩:=k
    refine xq 2 [(40,.v (yV a.s I J K a.e)),yJ 41 a.err] [] ?_
    refine xqc 56 [yV a.s I J K a.e,.int .i64 a.err] 42 (fun _:Unit=>.tuple #[yS ⟨(frT a).toArray⟩ (frE a),.int .i64 a.err]) _ (fun w R Q=>yN (Zeb a I J K _ Q.1.1.1.1 Q.2 (by rw[←r];exact Ze3 (by decide) (by omega) (by omega)))) fun k=>?_
    refine xq 4 [yJ 9 a.err] [yG 8 24 ⟨(frT a).toArray⟩ (frE a)] ?_
    refine xe (Zaa (Zaf ?_))
    refine yR (.tuple #[yS ⟨(frT a).toArray⟩ (frE a),.int .i64 a.err]) fun w' R Q=>?_
    rw[show binR ZcN (bytes s) (bytes t) x y (n:Int)=ZcN (ldR (bytes s) x) (ldR (bytes t) y) n by unfold binR;rw[uP ⟨u,c⟩,uP T];rfl,g,i,r]
    exact⟨rfl,R⟩
   refine Zab (xq 1 [yJ 31 b] [] ?_)
   refine xqc 55 [.int .i64 b] 32 (fun _:Unit=>.bool false) _ (fun w R Q=>(Zb3 _ _).mono (fun _ _ h=>Zag h (by rw[uJ T]))) fun k=>?_
   refine xq 1 [yB 33 true] [] ?_
   refine xe (Zaa (xa (Zac (Zab (xq 3 [yJ 9 3] [] ?_)))))
   refine xe (Zaa (Zaf (Zae ?_)))
   refine yR (.tuple #[yS ⟨#[]⟩ 0,.int .i64 3]) fun w' R Q=>?_
   rw[show binR ZcN (bytes s) (bytes t) x y b=⟨false,0,0,3⟩ by unfold binR;rw[uP ⟨u,c⟩,uN T]]
   exact⟨rfl,R⟩
  obtain⟨z,O⟩:=yE (ldR (bytes t) y)
  refine xqc 64 [yS t y] 21 (shLd false z) _ (fun w R Q=>yM Zbq ((show Calls _ _ _ _ (ZbU w false z) by rw[←O,← vR.2 c];exact Za0 t y _ o))) fun k=>?_
  obtain⟨W,X,Y⟩:=k
  refine xq 6 [(12,.p 12 0),yB 13 false] [yF 12 79 z.s W X Y z.e] ?_
  refine xe (Zaa (Zac (Zac (Zab (xq 6 [yB 29 true] [] ?_)))))
  refine xe (Zaa (xa (Zac (Zab (xq 3 [yJ 9 1] [] ?_)))))
  refine xe (Zaa (Zaf (Zae ?_)))
  refine yR (.tuple #[yS ⟨#[]⟩ 0,.int .i64 1]) fun w' R Q=>?_
  rw[show binR ZcN (bytes s) (bytes t) x y b=⟨false,0,0,1⟩ from uN (fun h=>c h.2)]
  exact⟨rfl,R⟩
 obtain⟨A,P⟩:=yE (ldR (bytes s) x)
 refine xqc 64 [yS s x] 16 (shLd false A) _ (fun w R Q=>yM Zbq ((show Calls _ _ _ _ (ZbU w false A) by rw[←P,← vR.2 u];exact Za0 s x _ U))) fun k=>?_
 obtain⟨Z,a0,b0⟩:=k
 refine xq 6 [(10,.p 10 0),yB 11 false] [yF 10 79 A.s Z a0 b0 A.e] ?_
 refine xe (Zaa (Zac (Zab (xq 1 [(20,.v (yS t y))] [] ?_))))
 by_cases c:fvB (bytes t) y=true
 ·obtain⟨j,l⟩:=yE (ldR (bytes t) y)
  have q:=Zbc c
  have L:wl j.m≤100000:=by rw[←l];exact Zei o
  have M:j.e=y:=by rw[←l,show ldR (bytes t) y=_ from uP c]
  have N:j.s=true→0<j.m:=by rw[←l,show ldR (bytes t) y=_ from uP c];exact q.2.2.2
  refine xqc 64 [yS t y] 21 (shLd true j) _ (fun w R Q=>yM Zbq ((show Calls _ _ _ _ (ZbU w true j) by rw[←l,← c];exact Za0 t y _ o))) fun k=>?_
  obtain⟨c0,d0,e0⟩:=k
  refine xq 6 [(12,.p 12 0),yB 13 true] [yF 12 79 j.s c0 d0 e0 j.e] ?_
  refine xe (Zaa (Zac (Zac (Zab (xq 6 [yB 29 true] [] ?_)))))
  refine xe (Zaa (xa (Zac (Zab (xq 3 [yJ 9 1] [] ?_)))))
  refine xe (Zaa (Zaf (Zae ?_)))
  refine yR (.tuple #[yS ⟨#[]⟩ 0,.int .i64 1]) fun w' R Q=>?_
  rw[show binR ZcN (bytes s) (bytes t) x y b=⟨false,0,0,1⟩ from uN (fun h=>u h.1)]
  exact⟨rfl,R⟩
 obtain⟨B,S⟩:=yE (ldR (bytes t) y)
 refine xqc 64 [yS t y] 21 (shLd false B) _ (fun w R Q=>yM Zbq ((show Calls _ _ _ _ (ZbU w false B) by rw[←S,← vR.2 c];exact Za0 t y _ o))) fun k=>?_
 obtain⟨f0,g0,h0⟩:=k
 refine xq 6 [(12,.p 12 0),yB 13 false] [yF 12 79 B.s f0 g0 h0 B.e] ?_
 refine xe (Zaa (Zac (Zac (Zab (xq 6 [yB 29 true] [] ?_)))))
 refine xe (Zaa (xa (Zac (Zab (xq 3 [yJ 9 1] [] ?_)))))
 refine xe (Zaa (Zaf (Zae ?_)))
 refine yR (.tuple #[yS ⟨#[]⟩ 0,.int .i64 1]) fun w' R Q=>?_
 rw[show binR ZcN (bytes s) (bytes t) x y b=⟨false,0,0,1⟩ from uN (fun h=>u h.1)]
 exact⟨rfl,R⟩
theorem Zt4 (s t:ByteArray)(x y b:Int)(w:World)(d:Glob w)(e:(bytes s).length≤100000)(a:(bytes t).length≤100000) :
 yA 44 #[yS s x, yS t y,.int .i64 b] w (ZbQ w (binR ZcN (bytes s) (bytes t) x y b)):=by
 obtain⟨r,c⟩:=yE (binR ZcN (bytes s) (bytes t) x y b)
 rw[c]
 refine Zax (Φ:=fun w=>Glob w) Tryz.func44 rfl (by kernel_rfl) (fun w' f=>d.ext f) ?_
 refine Zac (Zab (xq 4 [(3,.p 3 0),(4,.p 4 0),(6,.p 6 0),yJ 7 0] [yG 6 24 ⟨#[]⟩ 0,yG 4 24 t y,yG 3 24 s x] ?_))
 refine xe (Zaa (Zac (Zab (xq 3 [(8,.v (yS s x)),(9,.v (yS t y)),yJ 10 b] [] ?_))))
 refine xqc 81 [yS s x, yS t y,.int .i64 b,.func (.func 82) #[] #[]] 11 (fun _:Unit=>.tuple #[yS ⟨(frT r).toArray⟩ (frE r),.int .i64 r.err]) _ (fun w R Q=>yN ((show Calls _ _ _ _ (ZbQ w r) by rw[←c];exact Zm5 s t x y b _ Q e a))) fun g=>?_
 refine xq 4 [yJ 7 r.err] [yG 6 24 ⟨(frT r).toArray⟩ (frE r)] ?_
 refine xe (Zaa (Zaf ?_))
 refine yR (.tuple #[yS ⟨(frT r).toArray⟩ (frE r),.int .i64 r.err]) fun w' R Q=>?_
 exact⟨rfl,R⟩
theorem Zm6 (s t:ByteArray)(x y b:Int)(w:World)(hg:Glob w)(U:(bytes s).length≤100000)(o:(bytes t).length≤100000) :
 yA 81 #[yS s x, yS t y,.int .i64 b,.func (.func 83) #[] #[]] w (ZbQ w (binR Zck (bytes s) (bytes t) x y b)):=by
 refine Zax (Φ:=fun w=>Glob w) Tryz.func81 rfl (by kernel_rfl) (fun w' hf=>hg.ext hf) ?_
 refine Zac (Zab (xq 4 [(4,.p 4 0),(5,.p 5 0),(8,.p 8 0),yJ 9 0] [yG 8 24 ⟨#[]⟩ 0,yG 5 24 t y,yG 4 24 s x] ?_))
 refine xe (Zaa (Zac (Zab (xq 1 [(15,.v (yS s x))] [] ?_))))
 by_cases u:fvB (bytes s) x=true
 ·obtain⟨d,g⟩:=yE (ldR (bytes s) x)
  have V:=Zbc u
  have i0:wl d.m≤100000:=by rw[←g];exact Zei U
  have j0:d.e=x:=by rw[←g,show ldR (bytes s) x=_ from uP u]
  have k0:d.s=true→0<d.m:=by rw[←g,show ldR (bytes s) x=_ from uP u];exact V.2.2.2
  refine xqc 64 [yS s x] 16 (shLd true d) _ (fun w R Q=>yM Zbq ((show Calls _ _ _ _ (ZbU w true d) by rw[←g,← u];exact Za0 s x _ U))) fun k=>?_
  obtain⟨C,D,E⟩:=k
  refine xq 6 [(10,.p 10 0),yB 11 true] [yF 10 79 d.s C D E d.e] ?_
  refine xe (Zaa (Zac (Zab (xq 1 [(20,.v (yS t y))] [] ?_))))
  by_cases c:fvB (bytes t) y=true
  ·obtain⟨f,i⟩:=yE (ldR (bytes t) y)
   have q:=Zbc c
   have L:wl f.m≤100000:=by rw[←i];exact Zei o
   have M:f.e=y:=by rw[←i,show ldR (bytes t) y=_ from uP c]
   have N:f.s=true→0<f.m:=by rw[←i,show ldR (bytes t) y=_ from uP c];exact q.2.2.2
   refine xqc 64 [yS t y] 21 (shLd true f) _ (fun w R Q=>yM Zbq ((show Calls _ _ _ _ (ZbU w true f) by rw[←i,← c];exact Za0 t y _ o))) fun k=>?_
   obtain⟨F,G,H⟩:=k
   refine xq 6 [(12,.p 12 0),yB 13 true] [yF 12 79 f.s F G H f.e] ?_
   refine xe (Zaa (Zac (Zac (Zab (xq 6 [yB 29 false] [] ?_)))))
   refine xe (Zaa (xb (Zal (Zaa (Zac (Zac ?_))))))
   by_cases T:8≤b∧b≤1024
   ·obtain⟨n,hn⟩:∃ n:Nat,b=n:=⟨b.toNat,by omega⟩
    subst hn
    refine Zab (xq 1 [yJ 31 (n:Int)] [] ?_)
    refine xqc 55 [.int .i64 (n:Int)] 32 (fun _:Unit=>.bool true) _ (fun w R Q=>(Zb3 _ _).mono (fun _ _ h=>Zag h (by rw[uQ T]))) fun k=>?_
    refine xq 1 [yB 33 false] [] ?_
    refine xe (Zaa (xb (Zal (Zaa (Zac (Zab (xq 4 [(35,.v (.func (.func 83) #[] #[])),(36,.v (yV d.s C D E d.e)),(37,.v (yV f.s F G H f.e)),yJ 38 (n:Int)] [] ?_)))))))
    obtain⟨a,r⟩:=yE (Zck d f n)
    refine xqc 83 [yV d.s C D E d.e, yV f.s F G H f.e,.int .i64 (n:Int)] 39 (shNb a) _ (fun w R Q=>yM ZaU ((show Calls _ _ _ _ (ZaX w a) by rw[←r];exact Zsn _ _ _ _ _ _ _ _ _ _ _ _ n (by omega) (by omega) _ Q.1.1.1 Q.1.1.2 (by omega) (by omega) (by omega) Q.1.2 (by omega) (by omega) (by omega)))) fun k=>?_
    obtain⟨I,J,K⟩:=k
    refine xq 2 [(40,.v (yV a.s I J K a.e)),yJ 41 a.err] [] ?_
    refine xqc 56 [yV a.s I J K a.e,.int .i64 a.err] 42 (fun _:Unit=>.tuple #[yS ⟨(frT a).toArray⟩ (frE a),.int .i64 a.err]) _ (fun w R Q=>yN (Zeb a I J K _ Q.1.1.1.1 Q.2 (by rw[←r];exact Zt2 (by omega) (by omega)))) fun k=>?_
    refine xq 4 [yJ 9 a.err] [yG 8 24 ⟨(frT a).toArray⟩ (frE a)] ?_
    refine xe (Zaa (Zaf ?_))
    refine yR (.tuple #[yS ⟨(frT a).toArray⟩ (frE a),.int .i64 a.err]) fun w' R Q=>?_
    rw[show binR Zck (bytes s) (bytes t) x y (n:Int)=Zck (ldR (bytes s) x) (ldR (bytes t) y) n by unfold binR;rw[uP ⟨u,c⟩,uP T];rfl,g,i,r]
    exact⟨rfl,R⟩
   refine Zab (xq 1 [yJ 31 b] [] ?_)
   refine xqc 55 [.int .i64 b] 32 (fun _:Unit=>.bool false) _ (fun w R Q=>(Zb3 _ _).mono (fun _ _ h=>Zag h (by rw[uJ T]))) fun k=>?_
   refine xq 1 [yB 33 true] [] ?_
   refine xe (Zaa (xa (Zac (Zab (xq 3 [yJ 9 3] [] ?_)))))
   refine xe (Zaa (Zaf (Zae ?_)))
   refine yR (.tuple #[yS ⟨#[]⟩ 0,.int .i64 3]) fun w' R Q=>?_
   rw[show binR Zck (bytes s) (bytes t) x y b=⟨false,0,0,3⟩ by unfold binR;rw[uP ⟨u,c⟩,uN T]]
   exact⟨rfl,R⟩
  obtain⟨z,O⟩:=yE (ldR (bytes t) y)
  refine xqc 64 [yS t y] 21 (shLd false z) _ (fun w R Q=>yM Zbq ((show Calls _ _ _ _ (ZbU w false z) by rw[←O,← vR.2 c];exact Za0 t y _ o))) fun k=>?_
  obtain⟨W,X,Y⟩:=k
  refine xq 6 [(12,.p 12 0),yB 13 false] [yF 12 79 z.s W X Y z.e] ?_
  refine xe (Zaa (Zac (Zac (Zab (xq 6 [yB 29 true] [] ?_)))))
  refine xe (Zaa (xa (Zac (Zab (xq 3 [yJ 9 1] [] ?_)))))
  refine xe (Zaa (Zaf (Zae ?_)))
  refine yR (.tuple #[yS ⟨#[]⟩ 0,.int .i64 1]) fun w' R Q=>?_
  rw[show binR Zck (bytes s) (bytes t) x y b=⟨false,0,0,1⟩ from uN (fun h=>c h.2)]
  exact⟨rfl,R⟩
 obtain⟨A,P⟩:=yE (ldR (bytes s) x)
 refine xqc 64 [yS s x] 16 (shLd false A) _ (fun w R Q=>yM Zbq ((show Calls _ _ _ _ (ZbU w false A) by rw[←P,← vR.2 u];exact Za0 s x _ U))) fun k=>?_
 obtain⟨Z,a0,b0⟩:=k
 refine xq 6 [(10,.p 10 0),yB 11 false] [yF 10 79 A.s Z a0 b0 A.e] ?_
 refine xe (Zaa (Zac (Zab (xq 1 [(20,.v (yS t y))] [] ?_))))
 by_cases c:fvB (bytes t) y=true
 ·obtain⟨j,l⟩:=yE (ldR (bytes t) y)
  have q:=Zbc c
  have L:wl j.m≤100000:=by rw[←l];exact Zei o
  have M:j.e=y:=by rw[←l,show ldR (bytes t) y=_ from uP c]
  have N:j.s=true→0<j.m:=by rw[←l,show ldR (bytes t) y=_ from uP c];exact q.2.2.2
  refine xqc 64 [yS t y] 21 (shLd true j) _ (fun w R Q=>yM Zbq ((show Calls _ _ _ _ (ZbU w true j) by rw[←l,← c];exact Za0 t y _ o))) fun k=>?_
  obtain⟨c0,d0,e0⟩:=k
  refine xq 6 [(12,.p 12 0),yB 13 true] [yF 12 79 j.s c0 d0 e0 j.e] ?_
  refine xe (Zaa (Zac (Zac (Zab (xq 6 [yB 29 true] [] ?_)))))
  refine xe (Zaa (xa (Zac (Zab (xq 3 [yJ 9 1] [] ?_)))))
  refine xe (Zaa (Zaf (Zae ?_)))
  refine yR (.tuple #[yS ⟨#[]⟩ 0,.int .i64 1]) fun w' R Q=>?_
  rw[show binR Zck (bytes s) (bytes t) x y b=⟨false,0,0,1⟩ from uN (fun h=>u h.1)]
  exact⟨rfl,R⟩
 obtain⟨B,S⟩:=yE (ldR (bytes t) y)
 refine xqc 64 [yS t y] 21 (shLd false B) _ (fun w R Q=>yM Zbq ((show Calls _ _ _ _ (ZbU w false B) by rw[←S,← vR.2 c];exact Za0 t y _ o))) fun k=>?_
 obtain⟨f0,g0,h0⟩:=k
 refine xq 6 [(12,.p 12 0),yB 13 false] [yF 12 79 B.s f0 g0 h0 B.e] ?_
 refine xe (Zaa (Zac (Zac (Zab (xq 6 [yB 29 true] [] ?_)))))
 refine xe (Zaa (xa (Zac (Zab (xq 3 [yJ 9 1] [] ?_)))))
 refine xe (Zaa (Zaf (Zae ?_)))
 refine yR (.tuple #[yS ⟨#[]⟩ 0,.int .i64 1]) fun w' R Q=>?_
 rw[show binR Zck (bytes s) (bytes t) x y b=⟨false,0,0,1⟩ from uN (fun h=>u h.1)]
 exact⟨rfl,R⟩
theorem Zt5 (s t:ByteArray)(x y b:Int)(w:World)(d:Glob w)(e:(bytes s).length≤100000)(a:(bytes t).length≤100000) :
 yA 45 #[yS s x, yS t y,.int .i64 b] w (ZbQ w (binR Zck (bytes s) (bytes t) x y b)):=by
 obtain⟨r,c⟩:=yE (binR Zck (bytes s) (bytes t) x y b)
 rw[c]
 refine Zax (Φ:=fun w=>Glob w) Tryz.func45 rfl (by kernel_rfl) (fun w' f=>d.ext f) ?_
 refine Zac (Zab (xq 4 [(3,.p 3 0),(4,.p 4 0),(6,.p 6 0),yJ 7 0] [yG 6 24 ⟨#[]⟩ 0,yG 4 24 t y,yG 3 24 s x] ?_))
 refine xe (Zaa (Zac (Zab (xq 3 [(8,.v (yS s x)),(9,.v (yS t y)),yJ 10 b] [] ?_))))
 refine xqc 81 [yS s x, yS t y,.int .i64 b,.func (.func 83) #[] #[]] 11 (fun _:Unit=>.tuple #[yS ⟨(frT r).toArray⟩ (frE r),.int .i64 r.err]) _ (fun w R Q=>yN ((show Calls _ _ _ _ (ZbQ w r) by rw[←c];exact Zm6 s t x y b _ Q e a))) fun g=>?_
 refine xq 4 [yJ 7 r.err] [yG 6 24 ⟨(frT r).toArray⟩ (frE r)] ?_
 refine xe (Zaa (Zaf ?_))
 refine yR (.tuple #[yS ⟨(frT r).toArray⟩ (frE r),.int .i64 r.err]) fun w' R Q=>?_
 exact⟨rfl,R⟩
theorem ZmK {l:List UInt8}{v:Rat}(h:Zba l=some v):(Lib.itoa v.num).length≤l.length∧(Lib.itoa (v.den:Int)).length≤l.length+1:=by
 have a:=ZdP h
 rw[←a]
 unfold ZaF
 split
 ·rename_i b
  rw[b]
  refine⟨uK _,?_⟩
  have:(Lib.itoa ((1:Nat):Int)).length=1:=by rw[Zcq,Zea (by omega)];rfl
  omega
 simp only[vU,sF]
 omega
theorem Zrf {n k:Nat}(h:(Lib.decDigits n).length≤k):wl n≤k:=by
 have a:=ZbM (Lib.decDigits n) (Zb9 n)
 rw[ZcX] at a
 exact ZgC a h
theorem Zvp (z:Int):(Lib.decDigits z.natAbs).length≤(Lib.itoa z).length:=by
 have h:=Zgf (Lib.itoa z)
 rw[ZfO] at h
 exact h
noncomputable def rndF (v:Rat) (n:Nat):FR:=ZaK (decide (v.num<0)) v.num.natAbs v.den 0 n
noncomputable def Zfi (l:List UInt8) (b:Int):FR:=if (Zba l).isSome=true then (if 8≤b∧b≤1024 then rndF (valF l) b.toNat else ⟨false,0,0,3⟩) else ⟨false,0,0,1⟩
theorem Zor (s:ByteArray)(v:Rat)(n:Nat)(w:World)(z:Glob w)(A:(bytes s).length≤570)(x:Zba (bytes s)=some v)(B:8≤n)(C:n≤1024) :
 yA 57 #[.string s,.int .i64 ((n:Nat):Int)] w (ZaX w (rndF v n)):=by
 have D:valF (bytes s)=v:=Zg5 x
 have E:=ZmK x
 refine Zax (Φ:=fun w=>Glob w) Tryz.func57 rfl (by kernel_rfl) (fun w' F=>z.ext F) ?_
 refine Zac (Zab (xq 2 [(4,.p 4 0),yJ 5 0] [yF 4 79 false none 0 0 0] ?_))
 refine xe (Zaa (Zac (Zab (xq 1 [yT 11 s] [] ?_))))
 refine xqc 98 [.string s] 12 (fun _:Unit=>.tuple #[.string ⟨(Lib.itoa v.num).toArray⟩,.string ⟨(Lib.itoa (v.den:Int)).toArray⟩]) _ (fun w R Q=>yN ((show Calls _ _ _ _ (RetV w (.tuple #[.string ⟨(Lib.itoa v.num).toArray⟩,.string ⟨(Lib.itoa (v.den:Int)).toArray⟩])) by rw[←D];exact Zrd s _ Q A))) fun b=>?_
 refine xq 5 [yT 6 ⟨(Lib.itoa v.num).toArray⟩,yT 7 ⟨(Lib.itoa (v.den:Int)).toArray⟩] [] ?_
 refine xe (Zaa (Zac (Zab (xq 1 [yT 16 ⟨(Lib.itoa v.num).toArray⟩] [] ?_))))
 refine xqc 63 [.string ⟨(Lib.itoa v.num).toArray⟩] 17 Zlp _ (fun w R Q=>yM Zi6 (Zi7 ⟨(Lib.itoa v.num).toArray⟩ _)) fun b=>?_
 obtain⟨r,neg⟩:=b
 refine xq 5 [yB 8 neg,yT 9 r] [] ?_
 refine xe (Zaa (Zac ?_))
 refine SXc.know (p:=ZaA (bytes ⟨(Lib.itoa v.num).toArray⟩)=(neg,bytes r)) (fun w _ Q=>Q.2) fun y=>?_
 rw[Zew,ZfO] at y
 injection y with hneg hr
 have j:(bytes r).length≤570:=by rw[←hr];have:=Zvp v.num;omega
 have G:r.size≤570:=by rw[←Zaq];exact j
 have c:(bytes r).all Zav=true:=by rw[←hr];exact Zb9 _
 have d:Zak (bytes r)=v.num.natAbs:=by rw[←hr];exact ZcX _
 have H:wl v.num.natAbs≤1000:=by rw[←d];exact ZgC (ZbM _ c) (by omega)
 have I:wl v.den≤1000:=Zrf (by have:=E.2;rw[Zcq] at this;omega)
 have k:(bytes ⟨(Lib.itoa (v.den:Int)).toArray⟩).length≤571:=by rw[Zew];omega
 have J:(⟨(Lib.itoa (v.den:Int)).toArray⟩:ByteArray).size≤571:=by rw[←Zaq];exact k
 refine Zab (xq 2 [yB 20 neg,yT 21 r] [] ?_)
 refine xqc 100 [.string r] 22 ZaJ _ (fun w R Q=>yM ZaD (Zic r _ v.num.natAbs c d (by omega) (by omega))) fun b=>?_
 obtain⟨l,m,o⟩:=b
 refine xq 1 [yT 23 ⟨(Lib.itoa (v.den:Int)).toArray⟩] [] ?_
 refine xqc 100 [.string ⟨(Lib.itoa (v.den:Int)).toArray⟩] 24 ZaJ _ (fun w R Q=>yM ZaD (Zic _ _ v.den (by rw[Zew,Zcq];exact Zb9 _) (by rw[Zew,Zcq];exact ZcX _) (by omega) (by omega))) fun b=>?_
 obtain⟨q,t,u⟩:=b
 refine xq 1 [yJ 25 (n:Int)] [] ?_
 obtain⟨a,f⟩:=yE (ZaK neg v.num.natAbs v.den 0 n)
 refine xqc 99 [.bool neg,.slice l m o,.slice q t u,.int .i64 0,.int .i64 (n:Int)] 26 (shNb a) _ (fun w R Q=>yM ZaU ((show Calls _ _ _ _ (ZaX w a) by rw[←f];exact ZiW neg _ _ _ _ _ _ _ _ 0 n _ Q.1.1.1.1 Q.1.2 Q.2 (by omega) (by omega) v.den_pos (by omega) (by omega) (by omega) (by omega)))) fun b=>?_
 obtain⟨g,h,i⟩:=b
 refine xq 4 [yJ 5 a.err] [yF 4 79 a.s g h i a.e] ?_
 refine xe (Zaa (Zaf ?_))
 refine yR (.tuple #[yV a.s g h i a.e,.int .i64 a.err]) fun w' R Q=>?_
 rw[show rndF v n=ZaK neg v.num.natAbs v.den 0 n by unfold rndF;rw[hneg],f]
 exact⟨(g,h,i),rfl,Q.2,R⟩
theorem Zrg (s:ByteArray)(b:Int)(w:World)(o:Glob w)(m:(bytes s).length≤570) :
 yA 15 #[.string s,.int .i64 b] w (ZbQ w (Zfi (bytes s) b)):=by
 refine Zax (Φ:=fun w=>Glob w) Tryz.func15 rfl (by kernel_rfl) (fun w' q=>o.ext q) ?_
 refine Zac (Zab (xq 2 [(4,.p 4 0),yJ 5 0] [yG 4 24 ⟨#[]⟩ 0] ?_))
 refine xe (Zaa (Zac (Zac ?_)))
 by_cases i:(Zba (bytes s)).isSome=true
 ·obtain⟨v,k⟩:=sN.1 i
  refine Zab (xq 1 [yT 6 s] [] ?_)
  refine xqc 54 [.string s] 7 (fun _:Unit=>.bool true) _ (fun w R Q=>(Zg7 s _ Q m).mono (fun _ _ h=>Zag h (by rw[i]))) fun j=>?_
  refine xq 1 [yB 8 false] [] ?_
  refine xe (Zaa (xb (Zal (Zaa (Zac (Zac ?_))))))
  by_cases l:8≤b∧b≤1024
  ·obtain⟨n,r⟩:∃ n:Nat,b=n:=⟨b.toNat,by omega⟩
   subst r
   refine Zab (xq 1 [yJ 10 (n:Int)] [] ?_)
   refine xqc 55 [.int .i64 (n:Int)] 11 (fun _:Unit=>.bool true) _ (fun w R Q=>(Zb3 _ _).mono (fun _ _ h=>Zag h (by rw[uQ l]))) fun j=>?_
   refine xq 1 [yB 12 false] [] ?_
   refine xe (Zaa (xb (Zal (Zaa (Zac (Zab (xq 2 [yT 14 s,yJ 15 (n:Int)] [] ?_)))))))
   obtain⟨a,c⟩:=yE (rndF v n)
   refine xqc 57 [.string s,.int .i64 (n:Int)] 16 (shNb a) _ (fun w R Q=>yM ZaU ((show Calls _ _ _ _ (ZaX w a) by rw[←c];exact Zor s v n _ Q.1.1 m k (by omega) (by omega)))) fun j=>?_
   obtain⟨d,f,g⟩:=j
   refine xq 2 [(17,.v (yV a.s d f g a.e)),yJ 18 a.err] [] ?_
   refine xqc 56 [yV a.s d f g a.e,.int .i64 a.err] 19 (fun _:Unit=>.tuple #[yS ⟨(frT a).toArray⟩ (frE a),.int .i64 a.err]) _ (fun w R Q=>yN (Zeb a d f g _ Q.1.1.1 Q.2 (by rw[←c];exact Ze3 v.den_pos (by omega) (by omega)))) fun j=>?_
   refine xq 4 [yJ 5 a.err] [yG 4 24 ⟨(frT a).toArray⟩ (frE a)] ?_
   refine xe (Zaa (Zaf ?_))
   refine yR (.tuple #[yS ⟨(frT a).toArray⟩ (frE a),.int .i64 a.err]) fun w' R Q=>?_
   rw[show Zfi (bytes s) (n:Int)=rndF v n by unfold Zfi;rw[uP i,uP l,Zg5 k];rfl,c]
   exact⟨rfl,R⟩
  refine Zab (xq 1 [yJ 10 b] [] ?_)
  refine xqc 55 [.int .i64 b] 11 (fun _:Unit=>.bool false) _ (fun w R Q=>(Zb3 _ _).mono (fun _ _ h=>Zag h (by rw[uJ l]))) fun j=>?_
  refine xq 1 [yB 12 true] [] ?_
  refine xe (Zaa (xa (Zac (Zab (xq 3 [yJ 5 3] [] ?_)))))
  refine xe (Zaa (Zaf (Zae ?_)))
  refine yR (.tuple #[yS ⟨#[]⟩ 0,.int .i64 3]) fun w' R Q=>?_
  rw[show Zfi (bytes s) b=⟨false,0,0,3⟩ by unfold Zfi;rw[uP i,uN l]]
  exact⟨rfl,R⟩
 refine Zab (xq 1 [yT 6 s] [] ?_)
 refine xqc 54 [.string s] 7 (fun _:Unit=>.bool false) _ (fun w R Q=>(Zg7 s _ Q m).mono (fun _ _ h=>Zag h (by rw[vR.2 i]))) fun j=>?_
 refine xq 1 [yB 8 true] [] ?_
 refine xe (Zaa (xa (Zac (Zab (xq 3 [yJ 5 1] [] ?_)))))
 refine xe (Zaa (Zaf (Zae ?_)))
 refine yR (.tuple #[yS ⟨#[]⟩ 0,.int .i64 1]) fun w' R Q=>?_
 rw[show Zfi (bytes s) b=⟨false,0,0,1⟩ from uN i]
 exact⟨rfl,R⟩
theorem Zvq (a b:ByteArray)(d c:Int)(w:World):(Op.equalIn 10000 24 (yS a d) (yS b c)).run Tryz.prog w =
 .ok ((a.toList == b.toList) && (d == c)) w:=by
 have e:Tryz.prog.underlying 24=some (.struct (Tryz.prog.fieldsOf 24)):=by kernel_rfl
 have f:Tryz.prog.stoodInHeld 24=false:=by kernel_rfl
 have g:=Tryz.underlying3
 have h:=Tryz.isAgg3
 have i:=Tryz.underlying9
 have j:=Tryz.isAgg9
 rw[show (10000:Nat)=9999+1 from rfl,run_equalIn_agg w 9999 _ _ _ e f]
 simp only[Program.fieldsOf,Tryz.underlying24]
 go_simp
 cases h1:(a.toList == b.toList)<;>cases h3:(d == c)<;>simp_all
theorem Zqc {o:Oper}{ρ:Operand→Value}{w:World}(x y:Operand)(k:TypeId)(a b:ByteArray)(d c:Int)(r:Bool)(e:o.op=Op.binOp .eql 24 x y k)(f:ρ x=.agg #[.string a,.int .i64 d])(g:ρ y=.agg #[.string b,.int .i64 c])(h:((a.toList == b.toList) && (d == c))=r):(execOp ρ o).run Tryz.prog w=.ok (.value (.bool r)) w:=by
 have i:Tryz.prog.eqGuardType Tryz.prog.depth 24=false:=by kernel_rfl
 subst h
 simp only[execOp,e,f,g,Sem.run_bind,run_eqGuard_agg w _ _ _ _ _ _ i,Result.andThen_ok,run_eql_struct,Zvq,Sem.run_pure]
theorem Zut (a:ByteArray)(d:Int):((a.toList == a.toList) && (d == d))=true:=by simp
/-! ### 5/3 to 8 bits -/
def q53:Rat:=⟨5,3,by decide,by decide⟩
theorem Zqd:Zba [53,47,51]=some q53:=by
 rw[ZtU]
 unfold ZaF
 rw[uN (by decide)]
 show Lib.itoa ((5:Nat):Int) ++ [47] ++ Lib.itoa ((3:Nat):Int)=_
 rw[Zcq,Zcq,Zea (by omega),Zea (by omega)];rfl
theorem Zos:blen 213=8:=Zjw (k:=7) (by decide) (by decide)
theorem Zwd:rndF q53 8=⟨false,213,-7,0⟩:=by
 have b:fq 5 3 (-7)=213:=by decide
 have a:rndK 5 3 8 = -7:=ZlS (by decide) (by decide) (by decide) (by rw[b,Zos])
 have c:rndM 5 3 8=213:=by unfold rndM;rw[a];decide
 show ZaK false 5 3 0 8=_
 unfold ZaK
 rw[uN (by decide),a,c,Zn3 false (by decide) (by rw[Zhw (by decide)];omega) (by rw[Zhw (by decide)];omega),Zhw (by decide),show oddM 213=213 by have:=ZlT (o:=213) (by decide) 0;simpa using this]
 rfl
theorem Zt6:Zfi [53,47,51] 8=⟨false,213,-7,0⟩:=by
 unfold Zfi
 rw[uP (by rw[Zqd];rfl),uP (by omega),Zg5 Zqd]
 exact Zwd
theorem Zot:Lib.itoa 213=[50,49,51]:=by
 rw[show (213:Int)=((213:Nat):Int) from rfl,Zcq]
 decide +kernel
theorem Zvr:frT ⟨false,213,-7,0⟩=[50,49,51]:=Zot
theorem ZsK:fvB [50,49,51] (-7)=true:=by
 rw[←Zot,ZpV];decide
theorem Zwe:(ldR [50,49,51] (-7)).m=213:=by
 unfold ldR
 rw[uP ZsK];rfl
theorem Zvs (w:World)(a:Glob w):yA 15 #[.string ⟨#[53,47,51]⟩,.int .i64 8] w (RetV w (.tuple #[yS ⟨#[50,49,51]⟩ (-7),.int .i64 0])):=by
 have h:=Zrg ⟨#[53,47,51]⟩ 8 w a (by decide)
 rw[show Zfi (bytes ⟨#[53,47,51]⟩) 8=⟨false,213,-7,0⟩ from Zt6] at h
 unfold ZbQ at h
 rw[Zvr] at h
 exact h
theorem Zvt (w:World):yA 19 #[yS ⟨#[50,49,51]⟩ (-7)] w (RetV w (.bool true)):=by
 have h:=Zh8 ⟨#[50,49,51]⟩ (-7) w (by decide)
 rw[show fvB (bytes ⟨#[50,49,51]⟩) (-7)=true from ZsK] at h
 exact h
theorem Zwf (w:World):yA 20 #[yS ⟨#[50,49,51]⟩ (-7)] w (RetV w (.int .i64 8)):=by
 have h:=ZsJ ⟨#[50,49,51]⟩ (-7) w (by decide)
 rw[show (ldR (bytes ⟨#[50,49,51]⟩) (-7)).m=213 from Zwe,Zos] at h
 exact h
theorem ZfR (w:World)(b:Glob w) :
 yA 14 #[] w (RetV w (.bool true)):=by
 refine Zax (Φ:=fun w=>Glob w) Tryz.func14 rfl (by kernel_rfl) (fun w' c=>b.ext c) ?_
 refine Zac (Zab (xq 1 [yB 0 false] [] ?_))
 refine xe (Zaa (Zac (Zab ?_)))
 refine xqc 15 [.string ⟨#[53,47,51]⟩,.int .i64 8] 4 (fun _:Unit=>.tuple #[yS ⟨#[50,49,51]⟩ (-7),.int .i64 0]) _ (fun w R Q=>yN (Zvs _ Q)) fun a=>?_
 refine xq 6 [(1,.p 1 0),yJ 2 0] [yG 1 24 ⟨#[50,49,51]⟩ (-7)] ?_
 refine xe (Zaa (Zac (Zab (xq 5 [yB 9 true,(10,.v (yS ⟨#[50,49,51]⟩ (-7))),(11,.v (yS ⟨#[50,49,51]⟩ (-7)))] [] ?_))))
 refine xqk 12 (.bool true) (fun w R Q=>Zqc (.tmp 10) (.tmp 11) 24 ⟨#[50,49,51]⟩ ⟨#[50,49,51]⟩ (-7) (-7) true (by kernel_rfl) (by kernel_rfl) (by kernel_rfl) (Zut _ _)) ?_
 refine xq 3 [yB 14 true,(15,.v (yS ⟨#[50,49,51]⟩ (-7)))] [] ?_
 refine xqc 19 [yS ⟨#[50,49,51]⟩ (-7)] 16 (fun _:Unit=>.bool true) _ (fun w R Q=>yN (Zvt _)) fun a=>?_
 refine xq 3 [yB 18 true,(19,.v (yS ⟨#[50,49,51]⟩ (-7)))] [] ?_
 refine xqc 20 [yS ⟨#[50,49,51]⟩ (-7)] 20 (fun _:Unit=>.int .i64 8) _ (fun w R Q=>yN (Zwf _)) fun a=>?_
 refine xq 3 [yB 0 true] [] ?_
 refine xe (Zaa (Zaf ?_))
 refine yR (.bool true) fun w' R Q=>?_
 exact⟨rfl,R⟩
theorem ZbK {w:World}{s:Bool}{A:Option Addr}{l c:Nat}{z:Int}(h:Zai w (.agg #[.bool s,.slice A l c]) z)(g:z≠0):∃ xs,Zah .u32 w A xs∧0<xs.length∧xs[0]?.getD 0=z.natAbs%W32∧l=xs.length∧A≠none:=by
 have a:=h.lenp g
 obtain⟨k,xs,m,e,n,d,i,p,f⟩:=h.mag
 injection e with e1 e2 e3
 subst e1 e2
 refine⟨xs,d,a,?_,rfl,?_⟩
 ·cases xs with
  | nil=>simp at a
  | cons x xs =>
   rw[ZcY] at f
   have j:x<W32:=i x (by simp)
   rw[←f,tZ,vA j];rfl
 obtain⟨b,o,e,_⟩:=d.at a
 rw[e];simp
theorem Zwg (z:Int):z.natAbs%W32%2=z.natAbs%2:=by rw[Zap];omega
theorem Zrh (a:Nat)(ha:a<4294967296):bits .and .u32 (a:Int) 1=((a%2:Nat):Int):=by
 have b:(BitVec.ofInt 32 (a:Int)).toNat=a:=by
  rw[sU,rE];exact vA (by omega)
 show IntKind.u32.wrap ((BitVec.ofInt 32 (a:Int) &&& BitVec.ofInt 32 1).toNat:Int)=_
 rw[BitVec.toNat_and,b,show (BitVec.ofInt 32 1).toNat=1 from rfl,qD,IntKind.wrap_u32];omega
theorem Zwh {fn:Func}{t t2:Tmp}{a:Array Value}{d:World}{r:Nat}{s h b:Bool}{A i:Option Addr}{l c j c0:Nat}{x k:Int}{R:Ending→World→Prop}(e:fn.results=#[.cell t 52,.tmp t2])(m:a[t]? = some (.pointer (some ⟨r,0,none⟩)))(f:a[t2]? = some (.bool b))(n:Blk 52 d r #[.bool h,.slice i j c0,.int .i64 k])(o:R (.returned (.tuple #[yV s A l c x,.bool b])) (((d.setCell ⟨r,0,none⟩ (.bool s)).setCell ⟨r,1,none⟩ (.slice A l c)).setCell ⟨r,2,none⟩ (.int .i64 x))) :
 bodyPost Tryz.prog fn R .ret ⟨a,[]⟩ (((d.setCell ⟨r,0,none⟩ (.bool s)).setCell ⟨r,1,none⟩ (.slice A l c)).setCell ⟨r,2,none⟩ (.int .i64 x)):=by
 have g:Blk 52 (((d.setCell ⟨r,0,none⟩ (.bool s)).setCell ⟨r,1,none⟩ (.slice A l c)).setCell ⟨r,2,none⟩ (.int .i64 x)) r #[.bool s,.slice A l c,.int .i64 x]:=((n.set_ 0 _).set_ 1 _).set_ 2 _
 obtain⟨p,q,u,_⟩:=g.cell3n
 generalize ((d.setCell ⟨r,0,none⟩ (.bool s)).setCell ⟨r,1,none⟩ (.slice A l c)).setCell ⟨r,2,none⟩ (.int .i64 x)=W at *
 exact bodyPost_ret (v:=.tuple #[yV s A l c x,.bool b]) (by simp[results,e,m,f,go_sem,p,q,u]) rfl o
theorem Zwi {s:Bool}{A:Option Addr}{l c:Nat}{x:Int}:Zjt #[.bool s,.slice A l c,.int .i64 x]:=by
 intro i k z;rcases i with _|_|_|i<;>simp
 intro h _;exact h.symm
theorem far3 {t:TypeId}{w:World}{g r:Nat}{cs:Array Value}(h:Blk t w g cs)(c:g≠r)(a b d:Value):Blk t (((w.setCell ⟨r,0,none⟩ a).setCell ⟨r,1,none⟩ b).setCell ⟨r,2,none⟩ d) g cs :=
 ((h.far (p:=⟨r,0,none⟩) c a).far (p:=⟨r,1,none⟩) c b).far (p:=⟨r,2,none⟩) c d
theorem fr3 (w:World)(r:Nat)(a b d:Value):Fr (fun i=>i=r) w (((w.setCell ⟨r,0,none⟩ a).setCell ⟨r,1,none⟩ b).setCell ⟨r,2,none⟩ d) :=
 (((show Fr (fun i=>i=r) w w from Fr.refl _ _).setCell (p:=⟨r,0,none⟩) (Or.inl rfl) a).setCell (p:=⟨r,1,none⟩) (Or.inl rfl) b).setCell (p:=⟨r,2,none⟩) (Or.inl rfl) d
theorem ZmL (s:ByteArray)(x:Int)(q:Rat)(w:World)(hs:(bytes s).length≤1000)(J:Zba (bytes s)=some q)(K:q.den=1)(l0 : -1048576≤x)(m0:x≤1048576)(L:q.num≠0) :
 yA 35 #[yS s x] w (fun e w'=>∃ (b:Bool) (A:Option Addr) (l c:Nat),e=.returned (.tuple #[yV b A l c x,.bool (((q.num.natAbs%2:Nat):Int) == 1)])∧Zai w' (.agg #[.bool b,.slice A l c]) q.num∧Ext w w'):=by
 have M:s.size≤65536:=by rw[←Zaq];omega
 have HS:=zh M
 have HR:=zh J
 have HD:=zh K
 have HZ:=zh L
 clear M J K L hs
 go_enter Tryz.func35,Tryz.ntmps35
 go_wp2_with fail
 refine (Zg8 s _ HS.out).mono ?_
 rintro e y h1
 obtain⟨⟨s1,A1,l1,c1,t1,B1,m1,d1⟩,rfl,N,o⟩:=Zfh h1 HR.out
 have o:=(o (fun _=>False) (fun i h=>h.elim)).self
 dsimp only at o
 have O:=zh o
 have D:=zh N
 clear o N h1
 simp only[ZeE]
 have a0:Hid (Blk 24 y w.heap.size #[.string s,.int .i64 x]):=((Blk.new w 24 #[.string s,.int .i64 x]).alloc (.cells #[.bool false,.slice none 0 0,.int .i64 0] 52)).ext D.out
 have P:Hid (Blk 52 y (w.heap.size+1) #[.bool false,.slice none 0 0,.int .i64 0]):=by
  have h:=Blk.new (w.alloc (.cells #[.string s,.int .i64 x] 24)) 52 #[.bool false,.slice none 0 0,.int .i64 0]
  rw[World.size_alloc] at h
  exact h.ext D.out
 have Q:Hid (Ext w y):=(((Fr.refl _ _).alloc _).alloc _).trans D.out
 go_wp2_with fail
 refine (Zkf _ q _ (O.out.ext ((Fr.refl _ _).alloc _))).mono ?_
 rintro e w2 ⟨v2,rfl,E,F⟩
 obtain⟨s2,A2,l2,c2,rfl⟩:=E.shp
 have b0:Hid (Blk 34 w2 y.heap.size #[.bool s1,.slice A1 l1 c1,.bool t1,.slice B1 m1 d1]):=(Blk.new y _ _).ext F
 have c0:Hid (Ext y w2):=((Fr.refl _ _).alloc _).trans F
 have d0:=zh E
 clear E F
 go_wp2_with fail
 refine (Zb1 _ _ _ d0.out (by rw[HD.out];exact nfit (k:=1) (ZaY.2 (by rw[Zap];decide)) (by decide))).mono ?_
 rintro e w3 ⟨rfl,G⟩
 have H:=zh (c0.out.trans G)
 have r:=zh (b0.out.ext G)
 rw[show ((blen ((q.den:Nat):Int).natAbs:Nat):Int)=1 by rw[HD.out];rw[show (((1:Nat):Int)).natAbs=1 from rfl,ZnT];rfl]
 have t:=a0.out.ext H.out
 have e0:=t.cell 1
 have f0:=r.out.cell 0
 have g0:=r.out.cell 1
 have R:=zh t
 clear G t
 go_wp2_with fail
 have S:=O.out.ext H.out
 obtain⟨n0,o0,p0,q0,r0,s0,t0,u0,e',u,_⟩:=S
 injection e' with e'
 have e2:=vG Array.toList e'
 simp only[List.cons.injEq,Value.bool.injEq,Value.slice.injEq,and_true] at e2
 obtain⟨rfl,⟨rfl,rfl,rfl⟩,rfl,⟨rfl,rfl,rfl⟩⟩:=e2
 have T:=zh u
 clear u e'
 refine (Zbh _ q.num _ T.out).mono ?_
 rintro e I ⟨rfl,v⟩
 have U:=zh (H.out.trans v)
 have m:=zh (r.out.ext v)
 have z:=zh (R.out.ext v)
 have n:=zh (P.out.ext U.out)
 have V:=zh (T.out.ext v)
 have v0:(q.num.sign == 0)=false:=by have:=mt vM.1 HZ.out;simpa using this
 clear v e0 f0 g0
 obtain⟨zs,hS,W,X,h0,_⟩:=ZbK V.out HZ.out
 obtain⟨g,f,rfl,hg,j⟩:=hS.at W
 rw[X,vV] at j
 obtain⟨d,hd⟩:=yE (q.num.natAbs%W32)
 rw[hd] at j
 have i0:d<4294967296:=by rw[←hd,Zap];omega
 have w0:=Zrh d i0
 have x0:0<l1:=by omega
 have j0:g≠w.heap.size+1:=by
  intro e
  subst e
  rw[n.out.cell f] at j
  rcases f with _|_|_|f<;>simp at j
 have B:∀ a b c:Value,(((I.setCell ⟨w.heap.size+1,0,none⟩ a).setCell ⟨w.heap.size+1,1,none⟩ b).setCell ⟨w.heap.size+1,2,none⟩ c).cell? ⟨g,f,none⟩=some (.int .u32 (d:Int)):=fun a b c=>by
  rw[(fr3 I (w.heap.size+1) a b c).cell (p:=⟨g,f,none⟩) hg j0];exact j
 have Y:=zh B
 have k0:=zh j
 have Z:Hid (d%2=q.num.natAbs%2):=by rw[Hid,← hd];exact Zwg q.num
 have y0:=Q.out.size
 have C:y.heap.size≠w.heap.size+1:=by have:=P.out.lt;omega
 obtain⟨z0,z1,z2,z3,z4,z5⟩:=n.out.cell3n
 clear hS W X h0 hd B j
 go_wp2_with fail
 go_region_held3 (fun w'=>w'.cell? ⟨w.heap.size,1,none⟩=some (.int .i64 x)∧w'.cell? ⟨y.heap.size,0,none⟩=some (.bool s1)∧w'.cell? ⟨y.heap.size,1,none⟩=some (.slice (some ⟨g,f,none⟩) l1 c1)∧w'.cell? ⟨g,f,none⟩=some (.int .u32 (d:Int)))
  (first|exact⟨z.out.cell 1,m.out.cell 0,m.out.cell 1,k0.out⟩|exact⟨(far3 z.out (by omega) _ _ _).cell 1,(far3 m.out C _ _ _).cell 0,(far3 m.out C _ _ _).cell 1,Y.out _ _ _⟩)
  (first|fail|fail)
 go_wp2
 refine Zwh rfl rfl rfl (show Blk _ I.drew _ _ from n.out) ?_
 refine⟨s1,some ⟨g,f,none⟩,l1,c1,?_,?_,?_⟩
 ·rw[←Z.out];rfl
 ·exact (show Zai I.drew _ _ from V.out).oth (show Blk _ I.drew _ _ from n.out) Zwi (fr3 I.drew (w.heap.size+1) _ _ _)
 exact ((((Q.out.trans U.out).drew).setCell (p:=⟨w.heap.size+1,0,none⟩) (Or.inr (by simp)) _).setCell (p:=⟨w.heap.size+1,1,none⟩) (Or.inr (by simp)) _).setCell (p:=⟨w.heap.size+1,2,none⟩) (Or.inr (by simp)) _
def shF (x:Int) (y:ShI):Value:=.agg #[.bool y.1,.slice y.2.1 y.2.2.1 y.2.2.2,.int .i64 x]
def shRF (v:Bool) (x:Int) (y:ShI):Value:=.tuple #[shF x y,.bool v]
def Zuu (w:World) (z x:Int) (e:Ending) (w':World):Prop:=∃ y:ShI,e=.returned (shRF true x y)∧Zai w' (Zaz y) z∧Ext w w'
def Zuv (w:World) (e:Ending) (w':World):Prop:=∃ y:ShI×Int,e=.returned (shRF false y.2 y.1)∧Ext w w'
theorem ZcG {w w':World}{e:Ending}{z x:Int}(h:Zuu w z x e w'):ZbO (shRF true x) (fun y w=>Zai w (Zaz y) z) w e w':=by
 obtain⟨y,rfl,a,Q⟩:=h
 exact⟨y,rfl,Q,boxn Q (fun S b c d=>a.nrb c d)⟩
theorem Zdh {w w':World}{e:Ending}(h:Zuv w e w'):ZbO (fun y:ShI×Int=>shRF false y.2 y.1) (fun _ _=>True) w e w':=by
 obtain⟨y,rfl,Q⟩:=h
 exact⟨y,rfl,Q,BoxN.pure trivial⟩
theorem Zcy {P:Program}{o:Oper}{ρ:Operand→Value}{w:World}{t k:TypeId}{x y:Operand}{a:Nat}(b:o.op=Op.binOp .and t x y k)(c:ρ x=.int .u32 ((a:Nat):Int))(d:ρ y=.int .u32 1)(ha:a<4294967296):(execOp ρ o).run P w=.ok (.value (.int .u32 ((a%2:Nat):Int))) w:=by
 have h:bits .and .u32 (a:Int) 1=((a%2:Nat):Int):=by
  have e:(BitVec.ofInt 32 (a:Int)).toNat=a:=by
   rw[sU,rE];exact vA (by omega)
  show IntKind.u32.wrap ((BitVec.ofInt 32 (a:Int) &&& BitVec.ofInt 32 1).toNat:Int)=_
  rw[BitVec.toNat_and,e,show (BitVec.ofInt 32 1).toNat=1 from rfl,qD,IntKind.wrap_u32];omega
 rw[←h]
 simp only[execOp,b,c,d,eqGuard,binOp]
 rfl
theorem ZwB {l:List UInt8}{x:Int}(h:fvB l x=true):Zba l=some ((flM l:Int):Rat)∧((flM l=0∧x=0)∨(flM l%2=1∧okE x)):=by
 obtain⟨a,b⟩:=ZpU h
 exact⟨by rw[a,Zkk];exact Zmz _,b⟩
theorem Zi8:ml ((1:Nat))≤65536:=uA (ZaY.2 (show (1:Nat)<W32^1 by rw[Zap];decide)) (by decide)
theorem Zou {w:World}{s:Bool}{A:Option Addr}{l c:Nat}{z:Int}(h:Zai w (.agg #[.bool s,.slice A l c]) z):ZaN w (.agg #[.bool s,.slice A l c,.bool false,.slice none 0 0]) ((z:Int):Rat) :=
 ⟨s,false,A,none,l,c,0,0,rfl,h,Zai.nil w⟩
theorem ZlX (z:Int):ZaF ((z:Int):Rat)=Lib.itoa z:=by
 exact ZtY z
theorem ZsL {w:World}{s:Bool}{A:Option Addr}{l c:Nat}{z:Int}(h:Zai w (.agg #[.bool s,.slice A l c]) z)(a:ml z.natAbs≤65536):yA 31 #[.agg #[.bool s,.slice A l c,.bool false,.slice none 0 0]] w (RetV w (.string ⟨(Lib.itoa z).toArray⟩)):=by
 have b:=Zf2 _ _ _ (Zou h) a (Zi8)
 rwa [ZlX] at b
theorem Zcg (s:ByteArray)(x z:Int)(w:World)(I:(bytes s).length≤1000)(G:fvB (bytes s) x=true)(J:flM (bytes s)=z) :
 yA 35 #[yS s x] w (Zuu w z x):=by
 obtain⟨q,t⟩:=ZwB G
 rw[J] at q t
 have u:s.size≤65536:=by rw[←Zaq];omega
 have H:=Zbc G
 have y:=H.1
 have B:=H.2.1
 rcases Decidable.em (z=0) with i|i
 rotate_left
 ·refine (ZmL s x _ w I q rfl y B (show z≠0 from i)).mono ?_
  rintro e w' ⟨b,A,l,c,rfl,K,R⟩
  exact⟨(b,A,l,c),by rw[show ((((z:Int):Rat).num.natAbs%2:Nat):Int)=1 by show ((z.natAbs%2:Nat):Int)=1;omega];rfl,K,R⟩
 refine Zax (Φ:=fun w=>True) Tryz.func35 rfl (by kernel_rfl) (fun w' L=>trivial) ?_
 refine Zac (Zab (xq 3 [(1,.p 1 0),(2,.p 2 0),yB 3 false] [yF 2 52 false none 0 0 0,yG 1 24 s x] ?_))
 refine xe (Zaa (Zac (Zab (xq 2 [yT 8 s] [] ?_))))
 refine xqc 18 [.string s] 9 (fun x:ShQ=>.tuple #[ZeE x,.bool true]) _ (fun w R Q=>(Zg8 s _ u).mono (fun _ _ h=>Zfh h q)) fun r=>?_
 obtain⟨a,d,f,g,j,m,n,o⟩:=r
 refine xq 6 [(4,.p 4 0),yB 5 true] [bR4 4 34 a d f g j m n o] ?_
 refine xe (Zaa (Zac (Zac (Zab (xq 4 [yB 14 false,eR4 15 a d f g j m n o] [] ?_)))))
 refine xqc 79 [vR4 a d f g j m n o] 16 Zaz _ (fun w R Q=>(Zkf _ (((z:Int):Rat)) _ Q.2).mono (fun _ _ h=>ZaC (by rw[show ((((z:Int):Rat)).den:Int)=1 from rfl] at h;exact h))) fun r=>?_
 obtain⟨C,D,E,F⟩:=r
 refine xqc 37 [vI2 C D E F] 17 (fun _:Unit=>.int .i64 1) _ (fun w R Q=>(Zb1 _ _ _ Q.2 (nfit (k:=1) (ZaY.2 (by rw[Zap];decide)) (by decide))).mono (fun _ _ h=>Zag h (by rw[show (1:Int).natAbs=1 from rfl,ZnT];rfl))) fun r=>?_
 refine xq 6 [yB 20 false,yB 23 (decide (x<(-1048576)))] [] ?_
 rw[(show decide (x<(-1048576))=false from uJ (by omega))]
 refine xq 5 [yB 25 false,yB 28 (decide (x>1048576))] [] ?_
 rw[(show decide (x>1048576)=false from uJ (by omega))]
 refine xq 1 [yB 29 false] [] ?_
 refine xe (Zaa (xb (Zal (Zaa (Zac (Zac (Zab (xq 2 [eI2 32 a d f g] [] ?_))))))))
 refine xqc 62 [vI2 a d f g] 33 (fun _:Unit=>.int .i64 0) _ (fun w R Q=>(Zbh _ z _ Q.1.1.2.num).mono (fun _ _ h=>Zag h (by rw[i];rfl))) fun r=>?_
 refine xq 1 [yB 34 true] [] ?_
 refine xe (Zaa (xa (Zac ?_)))
 refine yO 6 Zam ?_
 refine xqg 4 [(35,.v (yV false none 0 0 0)),yB 38 ((x:Int) == 0)] ?_
 rw[(show ((x:Int) == 0)=true from tA.2 (by omega))]
 refine xqf 2 [yB 3 true] [yF 2 52 false none 0 0 0,bR4 4 34 a d f g j m n o,yF 2 52 false none 0 0 0,yG 1 24 s x] ?_
 refine xz (xe (Zaa (Zaf (Zae ?_))))
 refine yR (.tuple #[yV false none 0 0 0,.bool true]) fun w' R Q=>?_
 exact⟨(false,none,0,0),by rw[show x=0 by omega];rfl,by rw[i];exact Zai.nil _,R⟩
theorem ZsM {n k:Nat}(h:(Lib.decDigits n).length≤k):ml n≤k:=by
 have a:=ZbM _ (Zb9 n)
 rw[ZcX] at a
 exact Zi4 (uY a (vF (by decide) h))
theorem ZsN {l:List UInt8}{q:Rat}(h:Zba l=some q)(b:l.length≤1000):ZaR ((q.den:Nat):Int):=by
 have a:=(ZmK h).2
 rw[Zcq] at a
 exact nfit (k:=1001) (mlc (ZsM (by omega))) (by decide)
theorem ZcH (s:ByteArray)(x:Int)(w:World)(hs:(bytes s).length≤1000)(hv:¬ fvB (bytes s) x=true) :
 yA 35 #[yS s x] w (Zuv w):=by
 have F:s.size≤65536:=by rw[←Zaq];omega
 rcases Decidable.em (∃ q,Zba (bytes s)=some q∧q.den=1∧(-1048576≤x∧x≤1048576)∧q.num≠0) with m|m
 ·obtain⟨q,a,n,⟨G,H⟩,r⟩:=m
  refine (ZmL s x q w hs a n G H r).mono ?_
  rintro e w' ⟨b,A,l,c,rfl,hN,R⟩
  have I:q.num.natAbs%2=0:=by
   rcases Nat.mod_two_eq_zero_or_one q.num.natAbs with h|h
   ·exact h
   exact absurd (by rw[(ZpW a n x).1];exact uQ (Or.inr ⟨by omega,G,H⟩)) hv
  exact⟨((b,A,l,c),x),by rw[I];rfl,R⟩
 refine Zax (Φ:=fun w=>True) Tryz.func35 rfl (by kernel_rfl) (fun w' hf=>trivial) ?_
 refine Zac (Zab (xq 3 [(1,.p 1 0),(2,.p 2 0),yB 3 false] [yF 2 52 false none 0 0 0,yG 1 24 s x] ?_))
 refine xe (Zaa (Zac ?_))
 by_cases J:(Zba (bytes s)).isSome=true
 ·obtain⟨q,a⟩:=sN.1 J
  have K:=ZsN a hs
  refine Zab (xq 2 [yT 8 s] [] ?_)
  refine xqc 18 [.string s] 9 (fun x:ShQ=>.tuple #[ZeE x,.bool true]) _ (fun w R Q=>(Zg8 s _ F).mono (fun _ _ h=>Zfh h a)) fun B=>?_
  obtain⟨g,i,j,k,t,u,y,z⟩:=B
  refine xq 6 [(4,.p 4 0),yB 5 true] [bR4 4 34 g i j k t u y z] ?_
  refine xe (Zaa (Zac (Zac (Zab (xq 4 [yB 14 false,eR4 15 g i j k t u y z] [] ?_)))))
  refine xqc 79 [vR4 g i j k t u y z] 16 Zaz _ (fun w R Q=>yM ZaC (Zkf _ (q) _ Q.2)) fun B=>?_
  obtain⟨L,M,N,O⟩:=B
  refine xqc 37 [vI2 L M N O] 17 (fun _:Unit=>.int .i64 ((blen q.den:Nat):Int)) _ (fun w R Q=>yN (Zb1 _ _ _ Q.2 K)) fun B=>?_
  refine xq 3 [yB 20 ((((blen q.den:Nat):Int):Int) != 1)] [] ?_
  rcases bl2 (((((blen q.den:Nat):Int):Int) != 1)) with d|d
  ·rw[d]
   have C:=Zc9 d
   refine xq 9 [yB 29 true] [] ?_
   refine xe (Zaa (xa (Zac (Zab (xq 3 [yB 3 false] [] ?_)))))
   refine xe (Zaa (Zaf (Zae ?_)))
   refine yR (.tuple #[yV false none 0 0 0,.bool false]) fun w' R Q=>?_
   exact⟨((false,none,0,0),0),rfl,R⟩
  rw[d]
  have C:=Zda d
  refine xq 5 [yB 25 (decide (x<(-1048576)))] [] ?_
  rcases bl2 ((decide (x<(-1048576)))) with f|f
  ·rw[f]
   have D:=uC f
   refine xq 4 [yB 29 true] [] ?_
   refine xe (Zaa (xa (Zac (Zab (xq 3 [yB 3 false] [] ?_)))))
   refine xe (Zaa (Zaf (Zae ?_)))
   refine yR (.tuple #[yV false none 0 0 0,.bool false]) fun w' R Q=>?_
   exact⟨((false,none,0,0),0),rfl,R⟩
  rw[f]
  have D:=uD f
  refine xq 4 [yB 29 (decide (x>1048576))] [] ?_
  refine xe (Zaa ?_)
  refine yQ ((decide (x>1048576))) (fun o=>?_) fun o=>?_
  ·have E:=uC o
   refine Zac (Zab (xq 3 [yB 3 false] [] ?_))
   refine xe (Zaa (Zaf (Zae ?_)))
   refine yR (.tuple #[yV false none 0 0 0,.bool false]) fun w' R Q=>?_
   exact⟨((false,none,0,0),0),rfl,R⟩
  have E:=uD o
  refine Zal (Zaa (Zac (Zac ?_)))
  have n:q.den=1:=ZcL.1 (by omega)
  have P:okE x:=⟨by omega,by omega⟩
  have b0:=P.1
  have S:¬ ((q.num=0∧x=0)∨(q.num%2=1∧okE x)):=fun h=>hv (by rw[(ZpW a n x).1];exact uQ h)
  have r:q.num=0:=Decidable.byContradiction (fun h=>m ⟨q,a,n,⟨by omega,by omega⟩,h⟩)
  refine Zab (xq 2 [eI2 32 g i j k] [] ?_)
  refine xqc 62 [vI2 g i j k] 33 (fun _:Unit=>.int .i64 0) _ (fun w R Q=>(Zbh _ q.num _ Q.1.1.2.num).mono (fun _ _ h=>Zag h (by rw[r];rfl))) fun B=>?_
  refine xq 1 [yB 34 true] [] ?_
  refine xe (Zaa (xa (Zac ?_)))
  refine yO 6 Zam ?_
  refine xqg 4 [(35,.v (yV false none 0 0 0)),yB 38 ((x:Int) == 0)] ?_
  rw[(show ((x:Int) == 0)=false from tG.2 (fun e=>S (Or.inl ⟨r,e⟩)))]
  refine xqf 2 [yB 3 false] [yF 2 52 false none 0 0 0,bR4 4 34 g i j k t u y z,yF 2 52 false none 0 0 0,yG 1 24 s x] ?_
  refine xz (xe (Zaa (Zaf (Zae ?_))))
  refine yR (.tuple #[yV false none 0 0 0,.bool false]) fun w' R Q=>?_
  exact⟨((false,none,0,0),0),rfl,R⟩
 have a:Zba (bytes s)=none:=by cases h:Zba (bytes s) with|none=>rfl|some q=>rw[h] at J;exact absurd rfl J
 refine Zab (xq 2 [yT 8 s] [] ?_)
 refine xqc 18 [.string s] 9 (fun x:ShQ=>.tuple #[ZeE x,.bool false]) _ (fun w R Q=>(Zg8 s _ F).mono (fun _ _ h=>Zlo h a)) fun B=>?_
 obtain⟨T,U,V,W,X,Y,Z,a0⟩:=B
 refine xq 6 [(4,.p 4 0),yB 5 false] [bR4 4 34 T U V W X Y Z a0] ?_
 refine xe (Zaa (Zac (Zac (Zab (xq 18 [yB 29 true] [] ?_)))))
 refine xe (Zaa (xa (Zac (Zab (xq 3 [yB 3 false] [] ?_)))))
 refine xe (Zaa (Zaf (Zae ?_)))
 refine yR (.tuple #[yV false none 0 0 0,.bool false]) fun w' R Q=>?_
 exact⟨((false,none,0,0),0),rfl,R⟩
theorem Zfj (s:Bool)(A:Option Addr)(l c:Nat)(z x:Int)(w:World)(a:Zai w (.agg #[.bool s,.slice A l c]) z)(b:ml z.natAbs≤65536) :
 yA 38 #[yV s A l c x] w (RetV w (yS ⟨(Lib.itoa z).toArray⟩ x)):=by
 refine Zax (Φ:=fun w=>Zai w (.agg #[.bool s,.slice A l c]) (z)) Tryz.func38 rfl (by kernel_rfl) (fun w' d=>a.ext d) ?_
 refine Zac (Zab (xq 2 [(1,.p 1 0),(2,.p 2 0)] [yG 2 24 ⟨#[]⟩ 0,yF 1 52 s A l c x] ?_))
 refine xe (Zaa (Zac ?_))
 refine yO 8 Zam ?_
 refine xqg 3 [eR4 5 s A l c false none 0 0] ?_
 refine xqd 31 [vR4 s A l c false none 0 0] 6 (fun _:Unit=>.string ⟨(Lib.itoa z).toArray⟩) _ (fun w R Q=>(ZsL Q b).mono (fun _ _ h=>Zag h (rfl))) fun e=>?_
 refine xqf 4 [] [yG 2 24 ⟨(Lib.itoa z).toArray⟩ x,yG 2 24 ⟨#[]⟩ 0,yF 1 52 s A l c x] ?_
 refine xz (xe (Zaa (Zaf ?_)))
 refine yR (yS ⟨(Lib.itoa z).toArray⟩ x) fun w' R Q=>?_
 exact⟨rfl,R⟩
theorem Zvu (l:List UInt8):(flM l).natAbs=Zak (ZaA l).2:=by
 unfold flM sg
 split<;>omega
theorem Zfk (T:List UInt8)(e k:Int)(w:World) :
 yA 17 #[yS ⟨T.toArray⟩ e,.int .i64 k, yS ⟨T.toArray⟩ e,.int .i64 k] w (RetV w (.bool true)):=by
 refine Zax (Φ:=fun w=>True) Tryz.func17 rfl (by kernel_rfl) (fun w' a=>trivial) ?_
 refine Zac (Zab (xq 3 [(4,.p 4 0),(6,.p 6 0),yB 8 false] [yG 6 24 ⟨T.toArray⟩ e,yG 4 24 ⟨T.toArray⟩ e] ?_))
 refine xe (Zaa (Zac (Zab (xq 2 [(9,.v (yS ⟨T.toArray⟩ e)),(10,.v (yS ⟨T.toArray⟩ e))] [] ?_))))
 refine xqk 11 (.bool true) (fun w R Q=>Zqc (.tmp 9) (.tmp 10) 24 ⟨T.toArray⟩ ⟨T.toArray⟩ e e true (by kernel_rfl) (by kernel_rfl) (by kernel_rfl) (Zut _ _)) ?_
 refine xq 4 [yB 12 true,yB 15 ((k:Int) == k)] [] ?_
 rw[Ztr]
 refine xq 2 [yB 8 true] [] ?_
 refine xe (Zaa (Zaf ?_))
 refine yR (.bool true) fun w' R Q=>?_
 exact⟨rfl,R⟩
def Zlq (w:World) (z x:Int) (e:Ending) (w':World):Prop:=∃ y:ShI,e=.returned (shF x y)∧Zai w' (Zaz y) z∧Ext w w'
theorem Zvv {w w':World}{e:Ending}{z x:Int}(h:Zlq w z x e w'):ZbO (shF x) (fun y w=>Zai w (Zaz y) z) w e w':=by
 obtain⟨y,rfl,a,Q⟩:=h
 exact⟨y,rfl,Q,boxn Q (fun S b c d=>a.nrb c d)⟩
theorem ZsO {a b:Nat}(h:a<32*b):ml (2^a)≤b:=ZaY.2 (by rw[show W32=2^32 by rw[Zap],← sZ];exact qO (by decide) h)
theorem ZsP {a b i j:Nat}(ha:ml a≤i)(c:ml b≤j):ml (a*b)≤i+j:=by
 refine ZaY.2 ?_
 rw[uT]
 exact qQ (ZaY.1 ha) (ZaY.1 c)
theorem ZeG {l:List UInt8}{x:Int}(h:fvB l x=true)(a:l.length≤1000):ml (flM l).natAbs≤1000:=by
 rw[Zvu]
 have b:=Zi4 (ZbM _ (Zbc h).2.2.1)
 have c:=Zgf l
 omega
theorem Zf3 (b:Nat)(s:ByteArray)(x:Int)(w:World)(i:Blk 24 w b #[.string s,.int .i64 x])(n:s.size≤200) :
 yA 40 #[.slice (some ⟨b,0,none⟩) 1 1] w (RetV w (.bool (decide (-300≤x∧x≤300)))):=by
 have j:=zh i
 clear i
 obtain⟨d,e⟩:=yE (decide (-300≤x∧x≤300))
 rw[e]
 have f:=zh e
 clear e
 go_enter Tryz.func40,Tryz.ntmps40
 go_wp2
 go_loopw [7] (fun l wr=>∃ k:Nat,k≤1∧l=.int .i64 (k:Int)∧(k=1 → -300≤x∧x≤300)∧Hid (Ext w wr)) (fun v _=>1-(intOf v).toNat)
 case atStart=>exact⟨0,by omega,rfl,(fun h=>by omega),Fr.refl _ _⟩
 case round =>
  obtain⟨k,o,rfl,g,Q⟩:=hrel
  by_cases m:k<1
  ·obtain rfl:k=0:=by omega
   have a:=j.out.ext Q.out
   have p:=a.cell 0
   have r:=a.cell 1
   clear a
   by_cases t:x>300
   ·have c:Hid (d=false):=f.out.symm.trans (uJ (by omega))
    go_wp2
    go_ret
    exact⟨(vG (fun q=>Ending.returned (Value.bool q)) c.out).symm,Q.out.alloc _⟩
   by_cases u:x < -300
   ·have c:Hid (d=false):=f.out.symm.trans (uJ (by omega))
    go_wp2
    go_ret
    exact⟨(vG (fun q=>Ending.returned (Value.bool q)) c.out).symm,Q.out.alloc _⟩
   go_wp2
   go_roundw
   case rel=>exact⟨1,by omega,rfl,(fun _=>⟨by omega,by omega⟩),Q.out.alloc _⟩
   case measure=>simp[intOf]
  obtain rfl:k=1:=by omega
  have c:Hid (d=true):=f.out.symm.trans (uQ (g rfl))
  go_wp2
  go_ret
  exact⟨(vG (fun q=>Ending.returned (Value.bool q)) c.out).symm,Q.out⟩
theorem Zri (s:Bool)(A:Option Addr)(l c:Nat)(z x:Int)(w:World)(f:Zai w (.agg #[.bool s,.slice A l c]) z) :
 yA 39 #[yV s A l c x] w (Zlq w (-z) x):=by
 refine Zax (Φ:=fun w=>Zai w (.agg #[.bool s,.slice A l c]) (z)) Tryz.func39 rfl (by kernel_rfl) (fun w' g=>f.ext g) ?_
 refine Zac (Zab (xq 2 [(1,.p 1 0),(2,.p 2 0)] [yF 2 52 false none 0 0 0,yF 1 52 s A l c x] ?_))
 refine xe (Zaa (Zac ?_))
 refine yO 7 Zam ?_
 refine xqg 2 [eI2 4 s A l c] ?_
 refine xqd 68 [vI2 s A l c] 5 Zaz _ (fun w R Q=>yM ZaC (Zfx _ z _ Q)) fun h=>?_
 obtain⟨a,b,d,e⟩:=h
 refine xqf 4 [] [yF 2 52 a b d e x,yF 2 52 false none 0 0 0,yF 1 52 s A l c x] ?_
 refine xz (xe (Zaa (Zaf ?_)))
 refine yR (yV a b d e x) fun w' R Q=>?_
 exact⟨(a,b,d,e),rfl,Q.2,R⟩
theorem ZjC (s:Bool):sg s 0=0:=by cases s<;>rfl
theorem ZsU (a:Nat):IntKind.u32.wrap (((a%W64:Nat):Int))=((a%W32:Nat):Int):=by
 rw[IntKind.wrap_u32,Zao,Zap];omega
section
variable {P:Program} {o:Oper} {ρ:Operand→Value} {w:World} {x y:Operand} {t k:TypeId}
theorem Zow {a n:Nat}(h:n≤32)(b:o.op=Op.binOp .shr t x y k:=by kernel_rfl)(c:ρ x=.int .u32 (a:Int):=by kernel_rfl){ky:IntKind}(d:ρ y=.int ky (n:Int):=by kernel_rfl):(execOp ρ o).run P w=.ok (.value (.int .u32 ((a/2^n:Nat):Int))) w:=by
 have e:¬ ((n:Int)<0):=by omega
 have f:min ((n:Int)).toNat IntKind.u32.bits=n:=by show min ((n:Int)).toNat 32=n;omega
 have g:((a:Int)).fdiv (2^n)=((a/2^n:Nat):Int):=by
  rw[qM _ (by rw[show ((2:Int)^n)=((2^n:Nat):Int) by rw[vT];rfl];exact rQ _)]
  exact Ze9 a n
 simp only[execOp,b,c,d,eqGuard,binOp,Op.shift,uN e,f,g]
 rfl
theorem Zvy {a b r:Nat}(ha:a<W32)(c:b<W32)(h:a ||| b=r)(d:o.op=Op.binOp .or t x y k:=by kernel_rfl)(e:ρ x=.int .u32 (a:Int):=by kernel_rfl)(f:ρ y=.int .u32 (b:Int):=by kernel_rfl):(execOp ρ o).run P w=.ok (.value (.int .u32 (r:Int))) w:=by
 have:=Zk8 ha c
 rw[h] at this
 rw[←this]
 simp only[execOp,d,e,f,eqGuard,binOp]
 rfl
theorem Zt9 {a:Nat}(b:o.op=Op.binOp .and t x y k:=by kernel_rfl)(c:ρ x=.int .u32 (a:Int):=by kernel_rfl)(d:ρ y=.int .u32 1:=by kernel_rfl)(ha:a<W32:=by assumption):(execOp ρ o).run P w=.ok (.value (.int .u32 ((a%2:Nat):Int))) w:=Zcy b c d (by rw[Zap] at ha;exact ha)
end
theorem ZjD {a:Int}(h:a≤0):decide (a.sign>0)=false:=uJ (fun e=>by have:=Int.sign_eq_one_iff_pos.1 (show a.sign=1 by have:=Int.sign_trichotomy a;omega);omega)
theorem len_zero {w:World}{s:Bool}{A:Option Addr}{l c:Nat}{z:Int}(h:Zai w (.agg #[.bool s,.slice A l c]) z)(a:z=0):l=0:=by
 subst a
 obtain⟨g,i,j,b,m,n,d,e,f⟩:=h.opn.1
 injection b with e1 e2 e3
 have:=ZbR d e
 rw[f,show (0:Int).natAbs=0 from rfl,show ml 0=0 from Nat.le_zero.1 (ZaY.2 (by rw[vQ];decide))] at this
 omega
theorem ZsV {b n v:Nat}{xs:List Nat}{w:World}(a:Own .u32 102 w b xs)(c:Dig W32 xs)(d:xs.length=n)(e:val W32 xs=v)(f:n≤1099511627776):yA 71 #[.slice (some ⟨b,0,none⟩) n n] w (Zet w v):=by
 subst d e
 exact Zmt w ⟨xs,a.row (uK _),c,rfl⟩ f
theorem ZsW (r:Bool)(A:Option Addr)(xs:List Nat)(c k:Nat)(w:World)(hX:Zah .u32 w A xs)(hl:xs.length≤1048576)(hc:xs.length≤c)(X:Dig W32 xs)(g0:0<k)(hk:k≤1099511627776) :
 yA 25 #[.agg #[.bool r,.slice A xs.length c],.int .i64 (-((k:Nat):Int))] w (Zbb w (sg r (val W32 xs/2^k))):=by
 refine Zax (Φ:=fun w=>Zah .u32 w A xs) Tryz.func25 rfl (by kernel_rfl) (fun w' hf=>hX.ext hf) ?_
 refine Zac (Zab (xq 2 [(2,.p 2 0),(4,.p 4 0)] [bI2 4 32 false none 0 0,bI2 2 32 r A xs.length c] ?_))
 refine xe (Zaa (Zac (Zac (Zab (xq 2 [(11,.v (.bool (decide ((-(k:Int))≥0))))] [] ?_)))))
 rw[show decide (-(k:Int)≥0)=false from uJ (by omega)]
 refine xe (Zaa (xb (Zal (Zaa (Zac (Zab (xq 2 [(28,.v (.int .i64 (IntKind.i64.wrap (0-((-(k:Int)))))))] [] ?_)))))))
 rw[yW (0-(-(k:Int))) ((k:Int)) (by omega)]
 refine xq 1 [yJ 1 (k:Int)] [] ?_
 refine xe (Zaa (Zac (Zac (Zab (xq 2 [(30,.v (.int .i64 (IntKind.i64.wrap (((k:Int)).tdiv 32))))] [] ?_)))))
 rw[show IntKind.i64.wrap ((((k:Int)).tdiv 32))=((k/32:Nat):Int) from tdq (k) 32 (by omega)]
 refine xq 4 [yB 34 (decide (((k/32:Nat):Int)≥((xs.length:Nat):Int)))] [] ?_
 refine xe (Zaa ?_)
 refine yQ ((decide (((k/32:Nat):Int)≥((xs.length:Nat):Int)))) (fun u=>?_) fun u=>?_
 ·have H:=uC u
  refine Zac (Zab (xq 2 [] [] ?_))
  refine xe (Zaa (Zaf (Zae ?_)))
  refine yR (.agg #[.bool false,.slice none 0 0]) fun w' R Q=>?_
  exact⟨_,rfl,by rw[ZqH X (by omega),ZjC];exact Zai.nil _,R⟩
 have H:=uD u
 refine Zal (Zaa (Zac ?_))
 obtain⟨ys,E⟩:=yE (xs.drop (k/32))
 have Y:ys.length=xs.length-k/32:=by rw[←E,vX]
 have M:Dig W32 ys:=by rw[←E];exact X.drop _
 obtain⟨B,hB⟩:=yE (if c=k/32 then A else A.map (·.add (k/32)))
 obtain⟨d,Z⟩:=yE (c-k/32)
 have a0:Value.slice (if c=k/32 then A else A.map (·.add (k/32))) (xs.length-k/32) (c-k/32)=.slice B ys.length d:=by rw[hB,Y,Z]
 refine yC [yJ 1 (k:Int),(2,.p 2 0),(4,.p 4 0)] [(4,32,[.v (.bool false),.v (.slice none 0 0)]),(2,32,[.v (.bool r),.v (.slice A xs.length c)])] (fun w=>Zah .u32 w B ys) (fun w Q=>by rw[←hB,← E];exact Zah.cut (Q) (by omega) hc) ?_
 refine Zab (xq 4 [eS1 37 A xs.length c,(39,.v (.int .i64 (IntKind.i64.wrap (((k:Int)).tdiv 32))))] [] ?_)
 rw[show IntKind.i64.wrap ((((k:Int)).tdiv 32))=((k/32:Nat):Int) from tdq (k) 32 (by omega)]
 refine xqk 40 (.slice B ys.length d) (fun w R Q=>by rw[←a0];exact Ztt (t:=30) (e:=102) (x:=.tmp 37) (len:=xs.length) (cap:=c) (l:=k/32) (lo:=.tmp 39) (by omega)) ?_
 refine xq 1 [eS1 6 B ys.length d] [] ?_
 refine xe (Zaa (Zac (Zab (xq 2 [yJ 42 (((k:Int)).tmod 32)] [] ?_))))
 rw[show ((k:Int)).tmod 32=((k%32:Nat):Int) from tdr (k) 32]
 refine xq 1 [yU 43 (IntKind.u64.wrap (((k%32:Nat):Int)))] [] ?_
 rw[show IntKind.u64.wrap (((k%32:Nat):Int))=((k%32:Nat):Int) by rw[IntKind.wrap_u64];omega]
 refine xq 1 [yU 7 ((k%32:Nat):Int)] [] ?_
 refine xe (Zaa (Zac (Zab (xq 2 [yJ 45 ((ys.length:Nat):Int)] [] ?_))))
 refine ZgX (d:=46) (t:=30) (e:=102) (k:=.u32) (kl:=.i64) (kc:=.i64) (l:=.tmp 45) (c:=.tmp 45) (ys.length) 4 (by omega) (by decide) fun f F _=>?_
 refine xr 1 [(2,.p 2 0),(4,.p 4 0),eS1 6 B ys.length d,yU 7 ((k%32:Nat):Int),eS1 8 (some ⟨f,0,none⟩) (ys.length) (ys.length)] [bI2 4 32 false none 0 0,bI2 2 32 r A xs.length c] ?_
 refine xe (Zaa (Zac (Zac (Zab (xq 1 [yJ 9 0] [] ?_)))))
 refine xe (Zaa (ZaH ?_))
 refine yC [(2,.p 2 0),(4,.p 4 0),eS1 6 B ys.length d,yU 7 ((k%32:Nat):Int),eS1 8 (some ⟨f,0,none⟩) (ys.length) (ys.length),yJ 9 ((0:Nat):Int)] [(4,32,[.v (.bool false),.v (.slice none 0 0)]),(2,32,[.v (.bool r),.v (.slice A xs.length c)])] (fun w=>(Box (fun j=>f≤j) w (fun w=>Zah .u32 w B (ys))∧Own .u32 102 w f ((List.replicate (ys.length) 0)))) (fun w Q=>⟨Q.1,Q.2⟩) ?_
 refine ZbI (fun nn ss ff=>∃ (i:Nat) (s:List Nat),ss=ofL [(2,.p 2 0),(4,.p 4 0),eS1 6 B ys.length d,yU 7 ((k%32:Nat):Int),eS1 8 (some ⟨f,0,none⟩) (ys.length) (ys.length),yJ 9 (i:Int)] [(4,32,[.v (.bool false),.v (.slice none 0 0)]),(2,32,[.v (.bool r),.v (.slice A xs.length c)])]∧ff=(fun w=>(Box (fun j=>f≤j) w (fun w=>Zah .u32 w B (ys))∧Own .u32 102 w f (s)))∧(Zcf ys (k%32) i s)∧(i≤ys.length)∧nn=(ys.length-i)) ((ys.length-0)) ⟨0,(List.replicate (ys.length) 0),rfl,rfl,(Zcf.start ys (k%32)),by omega,rfl⟩ ?_
 rintro nn ss ff ⟨i,s,rfl,rfl,L,hi,rfl⟩
 refine Zac (Zac (Zab (xq 4 [yB 50 (decide ((i:Int)<((ys.length:Nat):Int)))] [] ?_)))
 refine xe (Zaa ?_)
 refine yQ ((decide ((i:Int)<((ys.length:Nat):Int)))) (fun z=>?_) fun z=>?_
 ·have I:=uC z
  have N:s.length=ys.length:=L.1
  refine Zal (Zaa (Zac (ZaH (Zac (Zab (xq 4 [eS1 53 (some ⟨f,0,none⟩) (ys.length) (ys.length),yJ 54 (i:Int),eS1 55 B ys.length d,yJ 56 (i:Int)] [] ?_))))))
  refine xqk 57 (atA B i) (fun w R Q=>ZaO (t:=30) (e:=102) (x:=.tmp 55) (ix:=.tmp 56) (len:=ys.length) (cap:=d) (i:=i) (((Q.1).self).ne (j:=i) (by omega)) (by omega)) ?_
  obtain⟨g,q⟩:=yE (ys[i]?.getD 0)
  refine xqk 58 (.int .u32 (g:Int)) (fun w R Q=>by rw[←q];exact ZaW (t:=102) (x:=.tmp 57) ((Q.1).self) (j:=i) (by omega)) ?_
  have m:g<W32:=by rw[←q];exact M.getD Zau _
  have b0:g<4294967296:=by have:=m;rw[Zap] at this;exact this
  refine xq 1 [yU 59 ((k%32:Nat):Int)] [] ?_
  refine xqk 60 (.int .u32 ((g/2^(k%32):Nat):Int)) (fun w R Q=>Zow (t:=102) (x:=.tmp 58) (y:=.tmp 59) (k:=103) (ky:=.u64) (a:=g) (n:=(k%32)) (by omega)) ?_
  refine xqk 61 (.pointer (some ⟨f,i,none⟩)) (fun w R Q=>ZbJ (t:=30) (e:=102) (x:=.tmp 53) (ix:=.tmp 54) (len:=(ys.length)) (cap:=(ys.length)) (i:=i) (by omega)) ?_
  refine Zcn (t:=102) (x:=.tmp 61) (y:=.tmp 60) f (i) (g/2^(k%32)) (fun w=>(Box (fun j=>f≤j) w (fun w=>Zah .u32 w B (ys))∧Own .u32 102 w f ((s).set (i) (g/2^(k%32))))) (fun w Q=>Q.2) (by omega) (Or.inl F) (fun w w' Q hF hO=>⟨((Q.1).fr (hF.mono (fun _ _ e=>by rw[e];exact uK _))),hO⟩) ?_
  refine xe (Zaa (Zac (Zab (xq 2 [yJ 63 (IntKind.i64.wrap ((i:Int)+1))] [] ?_))))
  rw[yW ((i:Int)+1) (((i+1:Nat):Int)) (by omega)]
  refine xq 3 [yB 66 (decide (((i+1:Nat):Int)<((ys.length:Nat):Int)))] [] ?_
  refine xe (Zaa ?_)
  refine yQ ((decide (((i+1:Nat):Int)<((ys.length:Nat):Int)))) (fun C=>?_) fun C=>?_
  ·have J:=uC C
   refine ZeW 16 [0,0,3,7,0,0,32,112,240,496,0,1024,4080,8176,16383,32767] (by kernel_rfl) (by kernel_rfl) Zam ?_
   refine xqg 2 [eS1 67 (some ⟨f,0,none⟩) (ys.length) (ys.length),yJ 68 (i:Int)] ?_
   refine xqj 69 (.pointer (some ⟨f,i,none⟩)) (fun w Q=>ZbJ (t:=30) (e:=102) (x:=.tmp 67) (ix:=.tmp 68) (len:=(ys.length)) (cap:=(ys.length)) (i:=i) (by omega)) ?_
   obtain⟨O,G⟩:=yE (((s).set (i) (g/2^(k%32)))[i]?.getD 0)
   refine xqj 70 (.int .u32 (O:Int)) (fun w Q=>by rw[←G];exact Zdf (t:=102) (x:=.tmp 69) (Q.2) (j:=i) (by simp only[qU];omega)) ?_
   obtain rfl:O=g/2^(k%32):=by rw[←G,List.getElem?_set_self (by omega)];rfl
   refine xqg 3 [eS1 71 B ys.length d,yJ 73 (IntKind.i64.wrap ((i:Int)+1))] ?_
   rw[yW ((i:Int)+1) (((i+1:Nat):Int)) (by omega)]
   refine xqj 74 (atA B (i+1)) (fun w Q=>ZaO (t:=30) (e:=102) (x:=.tmp 71) (ix:=.tmp 73) (len:=ys.length) (cap:=d) (i:=i+1) (((Q.1).self).ne (j:=i+1) (by omega)) (by omega)) ?_
   obtain⟨h,D⟩:=yE (ys[i+1]?.getD 0)
   refine xqj 75 (.int .u32 (h:Int)) (fun w Q=>by rw[←D];exact ZaW (t:=102) (x:=.tmp 74) ((Q.1).self) (j:=i+1) (by omega)) ?_
   have K:h<W32:=by rw[←D];exact M.getD Zau _
   have c0:h<4294967296:=by have:=K;rw[Zap] at this;exact this
   refine xqg 1 [yU 76 (IntKind.u64.wrap ((h:Int)))] ?_
   rw[show IntKind.u64.wrap ((h:Int))=(h:Int) by rw[IntKind.wrap_u64];omega]
   refine xqg 2 [yU 78 (IntKind.u64.wrap (32-((k%32:Nat):Int)))] ?_
   rw[show IntKind.u64.wrap ((32-((k%32:Nat):Int)))=((32-(k%32):Nat):Int) by rw[IntKind.wrap_u64];have:=Zao;omega]
   refine xqj 79 (.int .u64 ((h*2^(32-(k%32))%W64:Nat):Int)) (fun w Q=>ZnP (t:=94) (x:=.tmp 76) (y:=.tmp 78) (k:=103) (ky:=.u64) (a:=h) (n:=(32-(k%32))) (by omega)) ?_
   refine xqg 1 [(80,.v (.int .u32 (IntKind.u32.wrap (((h*2^(32-(k%32))%W64:Nat):Int)))))] ?_
   rw[show IntKind.u32.wrap (((h*2^(32-(k%32))%W64:Nat):Int))=((h*2^(32-k%32)%W32:Nat):Int) from ZsU _]
   have W:=L.step (x:=g) (y:=h) (by omega) (by omega) q D m
   refine xqj 81 (.int .u32 ((g/2^(k%32)+h%2^(k%32)*2^(32-k%32):Nat):Int)) (fun w Q=>Zvy (t:=102) (x:=.tmp 70) (y:=.tmp 80) (k:=102) (a:=((g/2^(k%32)))) (b:=(h*2^(32-k%32)%W32)) (vL (uO _ _) m) (uM _ Zau) (Zke (by omega) m)) ?_
   refine xqj 82 (.pointer (some ⟨f,i,none⟩)) (fun w Q=>ZbJ (t:=30) (e:=102) (x:=.tmp 67) (ix:=.tmp 68) (len:=(ys.length)) (cap:=(ys.length)) (i:=i) (by omega)) ?_
   refine xz ?_
   refine Zcn (t:=102) (x:=.tmp 82) (y:=.tmp 81) f (i) (g/2^(k%32)+h%2^(k%32)*2^(32-k%32)) (fun w=>(Box (fun j=>f≤j) w (fun w=>Zah .u32 w B (ys))∧Own .u32 102 w f (((s).set (i) (g/2^(k%32))).set (i) (g/2^(k%32)+h%2^(k%32)*2^(32-k%32))))) (fun w Q=>Q.2) (by simp only[qU];omega) (Or.inl F) (fun w w' Q hF hO=>⟨((Q.1).fr (hF.mono (fun _ _ e=>by rw[e];exact uK _))),hO⟩) ?_
   refine xe (Zbk (Zaa (Zab (xq 2 [yJ 52 (IntKind.i64.wrap ((i:Int)+1))] [] ?_))))
   rw[yW ((i:Int)+1) (((i+1:Nat):Int)) (by omega)]
   refine xq 1 [yJ 9 ((i+1:Nat):Int)] [] ?_
   refine xe ?_
   refine yP [(2,.p 2 0),(4,.p 4 0),eS1 6 B ys.length d,yU 7 ((k%32:Nat):Int),eS1 8 (some ⟨f,0,none⟩) (ys.length) (ys.length),yJ 9 (((i+1):Nat):Int)] [(4,32,[.v (.bool false),.v (.slice none 0 0)]),(2,32,[.v (.bool r),.v (.slice A xs.length c)])] (fun w=>(Box (fun j=>f≤j) w (fun w=>Zah .u32 w B (ys))∧Own .u32 102 w f ((((s).set (i) (g/2^(k%32))).set (i) (g/2^(k%32)+h%2^(k%32)*2^(32-k%32)))))) (fun w Q=>⟨Q.1,Q.2⟩) ?_
   exact Za5 ((ys.length-(i+1))) (by omega) ⟨(i+1),(((s).set (i) (g/2^(k%32))).set (i) (g/2^(k%32)+h%2^(k%32)*2^(32-k%32))),rfl,rfl,(by rw[pG];exact W),by omega,rfl⟩
  have J:=uD C
  have W:=L.step (x:=g) (y:=0) (by omega) (by omega) q (by rw[List.getElem?_eq_none (by omega)];rfl) m
  rw[pF,sG,vV] at W
  refine Zal (Zbk (Zaa (Zab (xq 2 [yJ 52 (IntKind.i64.wrap ((i:Int)+1))] [] ?_))))
  rw[yW ((i:Int)+1) (((i+1:Nat):Int)) (by omega)]
  refine xq 1 [yJ 9 ((i+1:Nat):Int)] [] ?_
  refine xe ?_
  refine yP [(2,.p 2 0),(4,.p 4 0),eS1 6 B ys.length d,yU 7 ((k%32:Nat):Int),eS1 8 (some ⟨f,0,none⟩) (ys.length) (ys.length),yJ 9 (((i+1):Nat):Int)] [(4,32,[.v (.bool false),.v (.slice none 0 0)]),(2,32,[.v (.bool r),.v (.slice A xs.length c)])] (fun w=>(Box (fun j=>f≤j) w (fun w=>Zah .u32 w B (ys))∧Own .u32 102 w f (((s).set (i) (g/2^(k%32)))))) (fun w Q=>⟨Q.1,Q.2⟩) ?_
  exact Za5 ((ys.length-(i+1))) (by omega) ⟨(i+1),((s).set (i) (g/2^(k%32))),rfl,rfl,W,by omega,rfl⟩
 have I:=uD z
 have N:s.length=ys.length:=L.1
 obtain rfl:i=ys.length:=by omega
 have HD:=L.done
 rw[←E,Zmn xs (k/32) (k%32) X (by omega),show 32*(k/32)+k%32=k by omega] at HD
 refine Zbt (Zaw (Zaw (ZbH (Zaa (Zac ?_)))))
 refine yO 6 Zam ?_
 refine xqg 3 [yB 84 r,eS1 85 (some ⟨f,0,none⟩) (ys.length) (ys.length)] ?_
 refine xqd 71 [.slice (some ⟨f,0,none⟩) (ys.length) (ys.length)] 86 ZaJ _ (fun w R Q=>yM ZnY (ZsV Q.2 L.2.1 N HD (by omega))) fun xx=>?_
 obtain⟨d0,e0,f0⟩:=xx
 refine xqd 61 [.bool r,.slice d0 e0 f0] 87 Zaz _ (fun w R Q=>yM ZaC (ZdQ r _ (val W32 xs/2^k) _ Q.2)) fun xx=>?_
 obtain⟨S,T,U,V⟩:=xx
 refine xqf 1 [] [bI2 4 32 S T U V,bI2 4 32 false none 0 0,bI2 2 32 r A xs.length c] ?_
 refine xz (xe (Zaa (Zaf ?_)))
 refine yR (.agg #[.bool S,.slice T U V]) fun w' R Q=>?_
 exact⟨_,rfl,Q.2,R⟩
theorem Zox (a:Value)(z:Int)(k:Nat)(w:World)(ha:Zai w a z)(f:ZaR z)(m:k≤1099511627776):yA 25 #[a,.int .i64 (-((k:Nat):Int))] w (Zbb w (sg (decide (z<0)) (z.natAbs/2^k))):=by
 rcases uH k with rfl|b
 ·have h:=Zdb a z 0 w ha f (by omega)
  rw[Int.pow_zero,Int.mul_one] at h
  rw[vQ,sK,Zi0]
  exact h
 obtain⟨s0,A,l,c,rfl,p,d,q⟩:=ha.open
 obtain⟨D,r,E,s,u,v,g,B,i⟩:=p
 injection s with e1 e2 e3
 subst e1 e2 e3
 have e:=ZbR g B
 rw[i] at e
 have h:=ZsW s0 A r c k w v (by unfold ZaR at f;omega) u g b m
 rw[i] at h
 have C:sg s0 (z.natAbs/2^k)=sg (decide (z<0)) (z.natAbs/2^k):=by
  by_cases j:z=0
  ·subst j
   rw[show (0:Int).natAbs=0 from rfl,Nat.zero_div,ZjC,ZjC]
  congr 1
  generalize z.natAbs=n at *
  subst d
  unfold sg at *
  cases s0
  ·simp
  simp;simp at j;omega
 rwa [C] at h
theorem Zoy (b:Bool)(A:Option Addr)(xs:List Nat)(c:Nat)(z e:Int)(w:World)(M:Zai w (.agg #[.bool b,.slice A xs.length c]) z)(N:Zah .u32 w A xs)(C:Dig W32 xs)(D:val W32 xs=z.natAbs)(O:z≠0)(S:ZaR z)(T:tzn z.natAbs≤1099511627776)(U : -1152921504606846976≤e)(V:e≤1152921504606846976) :
 yA 135 #[.agg #[.bool b,.slice A xs.length c],.int .i64 e] w (Zlq w (sg (decide (z<0)) (oddM z.natAbs)) (e+((tzn z.natAbs:Nat):Int))):=by
 refine Zax (Φ:=fun w=>(Zai w (.agg #[.bool b,.slice A xs.length c]) (z)∧Zah .u32 w A xs)) Tryz.func135 rfl (by kernel_rfl) (fun w' H=>⟨M.ext H,N.ext H⟩) ?_
 refine Zac (Zab (xq 2 [(2,.p 2 0),(4,.p 4 0)] [yF 4 52 false none 0 0 0,bI2 2 32 b A xs.length c] ?_))
 refine xe (Zaa (Zac (Zac (Zab (xq 1 [eI2 6 b A xs.length c] [] ?_)))))
 refine xqc 62 [vI2 b A xs.length c] 7 (fun _:Unit=>.int .i64 (Int.sign z)) _ (fun w R Q=>yN (Zbh _ z _ Q.1)) fun I=>?_
 refine xq 1 [yB 8 (((Int.sign z):Int) == 0)] [] ?_
 rw[(show (((Int.sign z):Int) == 0)=false by have:=mt vM.1 O;simpa using this)]
 refine xe (Zaa (xb (Zal (Zaa (Zac (Zab (xq 1 [yJ 5 0] [] ?_)))))))
 refine xe (Zaa (Zac (ZaH ?_)))
 refine yC [yJ 1 e,(2,.p 2 0),(4,.p 4 0),yJ 5 ((0:Nat):Int)] [yF 4 52 false none 0 0 0,(2,32,[.v (.bool b),.v (.slice A xs.length c)])] (fun w=>(Zai w (.agg #[.bool b,.slice A xs.length c]) (z)∧Zah .u32 w A (xs))) (fun w Q=>⟨Q.1.1,Q.1.2⟩) ?_
 refine ZbI (fun J K L=>∃ (k:Nat),K=ofL [yJ 1 e,(2,.p 2 0),(4,.p 4 0),yJ 5 (k:Int)] [yF 4 52 false none 0 0 0,(2,32,[.v (.bool b),.v (.slice A xs.length c)])]∧L=(fun w=>(Zai w (.agg #[.bool b,.slice A xs.length c]) (z)∧Zah .u32 w A (xs)))∧(k≤tzn z.natAbs)∧J=(tzn z.natAbs-k)) ((tzn z.natAbs-0)) ⟨0,rfl,rfl,rA _,rfl⟩ ?_
 rintro J K L ⟨k,rfl,rfl,E,rfl⟩
 refine Zac (Zac ?_)
 have B:k/32<xs.length:=Zsd C (by omega) (by rw[D];exact E)
 refine Zab (xq 4 [eS1 11 A xs.length c,(13,.v (.int .i64 (IntKind.i64.wrap (((k:Int)).tdiv 32))))] [] ?_)
 rw[show IntKind.i64.wrap ((((k:Int)).tdiv 32))=((k/32:Nat):Int) from tdq (k) 32 (by omega)]
 refine xqk 14 (atA A (k/32)) (fun w R Q=>ZaO (t:=30) (e:=102) (x:=.tmp 11) (ix:=.tmp 13) (len:=xs.length) (cap:=c) (i:=k/32) ((Q.2).ne (j:=k/32) (by omega)) (by omega)) ?_
 obtain⟨d,f⟩:=yE (xs[k/32]?.getD 0)
 refine xqk 15 (.int .u32 (d:Int)) (fun w R Q=>by rw[←f];exact ZaW (t:=102) (x:=.tmp 14) (Q.2) (j:=k/32) (by omega)) ?_
 have h:d<W32:=by rw[←f];exact C.getD Zau _
 refine xq 2 [yJ 17 (((k:Int)).tmod 32)] [] ?_
 rw[show ((k:Int)).tmod 32=((k%32:Nat):Int) from tdr (k) 32]
 refine xqk 18 (.int .u32 ((d/2^(k%32):Nat):Int)) (fun w R Q=>Zow (t:=102) (x:=.tmp 15) (y:=.tmp 17) (k:=3) (ky:=.i64) (a:=d) (n:=(k%32)) (by omega)) ?_
 refine xqk 19 (.int .u32 (((d/2^(k%32))%2:Nat):Int)) (fun w R Q=>Zt9 (t:=102) (x:=.tmp 18) (y:=(Operand.const (Value.int IntKind.u32 1))) (k:=102) (a:=(d/2^(k%32))) (ha:=vL (uO _ _) h)) ?_
 refine xq 1 [(20,.v (.bool (((((d/2^(k%32))%2:Nat):Int):Int) == 0)))] [] ?_
 refine xe (Zaa ?_)
 refine yQ ((((((d/2^(k%32))%2:Nat):Int):Int) == 0)) (fun g=>?_) fun g=>?_
 ·have l:=tA.1 g
  have m:=Zms C B f
  rw[D] at m
  have F:k+1≤tzn z.natAbs:=ZuZ (by omega) E (by omega)
  refine Zal (Zaa (ZaH (Zab (xq 2 [yJ 22 (IntKind.i64.wrap ((k:Int)+1))] [] ?_))))
  rw[yW ((k:Int)+1) (((k+1:Nat):Int)) (by omega)]
  refine xq 1 [yJ 5 ((k+1:Nat):Int)] [] ?_
  refine xe (Zbk ?_)
  refine yP [yJ 1 e,(2,.p 2 0),(4,.p 4 0),yJ 5 (((k+1):Nat):Int)] [yF 4 52 false none 0 0 0,(2,32,[.v (.bool b),.v (.slice A xs.length c)])] (fun w=>(Zai w (.agg #[.bool b,.slice A xs.length c]) (z)∧Zah .u32 w A (xs))) (fun w Q=>⟨Q.1,Q.2⟩) ?_
  exact Za5 ((tzn z.natAbs-(k+1))) (by omega) ⟨(k+1),rfl,rfl,F,rfl⟩
 have l:=Zbo g
 have m:=Zms C B f
 rw[D] at m
 have G:k=tzn z.natAbs:=Zu0 (by omega) E (by omega)
 subst G
 refine Zbt (Zaw (Zaw (ZbH (Zaa (Zac (Zab (xq 3 [eI2 23 b A xs.length c,(25,.v (.int .i64 (IntKind.i64.wrap (0-((((tzn z.natAbs):Nat):Int))))))] [] ?_)))))))
 rw[show IntKind.i64.wrap (0-((tzn z.natAbs:Nat):Int)) = -((tzn z.natAbs:Nat):Int) by rw[IntKind.wrap_i64];omega]
 refine xqc 25 [vI2 b A xs.length c,.int .i64 (-((tzn z.natAbs:Nat):Int))] 26 Zaz _ (fun w R Q=>yM ZaC (Zox _ z (tzn z.natAbs) _ Q.1 S (by omega))) fun I=>?_
 obtain⟨q,r,s,u⟩:=I
 refine xq 3 [(29,.v (.int .i64 (IntKind.i64.wrap (e+(((tzn z.natAbs):Nat):Int)))))] [] ?_
 rw[yW (e+((tzn z.natAbs:Nat):Int)) (e+((tzn z.natAbs:Nat):Int)) (by omega)]
 refine xq 2 [] [yF 4 52 q r s u (e+((tzn z.natAbs:Nat):Int))] ?_
 refine xe (Zaa (Zaf ?_))
 refine yR (yV q r s u (e+((tzn z.natAbs:Nat):Int))) fun w' R Q=>?_
 exact⟨(q,r,s,u),rfl,Q.2,R⟩
theorem ZcO (b:Bool)(A:Option Addr)(l c:Nat)(z e:Int)(w:World)(m:Zai w (.agg #[.bool b,.slice A l c]) z)(p:z≠0)(n:ZaR z)(d : -1152921504606846976≤e)(f:e≤1152921504606846976) :
 yA 135 #[.agg #[.bool b,.slice A l c],.int .i64 e] w (Zlq w (sg (decide (z<0)) (oddM z.natAbs)) (e+((tzn z.natAbs:Nat):Int))):=by
 obtain⟨u,g,v,q,B,r,h,s,a⟩:=m.opn.1
 injection q with e1 e2 e3
 subst e1 e2 e3
 have i:=ZbR h s
 rw[a] at i
 have C:g.length≤1048576:=by unfold ZaR at n;omega
 have j:=Zsd h (by rw[a];omega) (k:=tzn (val W32 g)) (uK _)
 rw[a] at j
 exact Zoy b A g c z e w m r h a p n (by omega) d f
theorem Zi9 (N:Bool)(O:Option Addr)(S c1:Nat)(m:Bool)(n:Option Addr)(q c2:Nat)(a b:Nat)(w:World)(hA:Zai w (.agg #[.bool N,.slice O S c1]) ((a:Nat):Int))(hB:Zai w (.agg #[.bool m,.slice n q c2]) ((b:Nat):Int))(ha:ml a≤90000)(hb:ml b≤90000)(D:0<b) :
 yA 147 #[.agg #[.bool N,.slice O S c1],.agg #[.bool m,.slice n q c2]] w (Zbb w ((Zb8 a b:Nat):Int)):=by
 have Z:ml (2*(a%b))≤90001:=uA (ZkS _ _) (by have T:ml 2≤1:=ZaY.2 (by rw[Zap];decide);have C:=Za4 (rM (uM a D));omega)
 have E:ml a≤100000:=by omega
 have a0:ml b≤100000:=by omega
 refine Zax (Φ:=fun w=>(Zai w (.agg #[.bool N,.slice O S c1]) ((a:Int))∧Zai w (.agg #[.bool m,.slice n q c2]) ((b:Int)))) Tryz.func147 rfl (by kernel_rfl) (fun w' hf=>⟨hA.ext hf,hB.ext hf⟩) ?_
 refine Zac (Zab (xq 3 [(2,.p 2 0),(3,.p 3 0),(4,.p 4 0)] [bI2 4 32 false none 0 0,bI2 3 32 m n q c2,bI2 2 32 N O S c1] ?_))
 refine xe (Zaa (Zac (Zab (xq 2 [eI2 9 N O S c1,eI2 10 m n q c2] [] ?_))))
 refine xqc 70 [vI2 N O S c1,vI2 m n q c2] 11 Zfe _ (fun w R Q=>yM ZdR (Zie Q.1 Q.2 E a0 D)) fun l=>?_
 obtain⟨⟨g,d,c,f⟩,⟨s,u,A,B⟩⟩:=l
 refine xq 7 [(5,.p 5 0),(6,.p 6 0)] [bI2 6 32 s u A B,bI2 5 32 g d c f] ?_
 refine xe (Zaa (Zac ?_))
 refine SXc.weak [(3,.p 3 0),(4,.p 4 0),(5,.p 5 0),(6,.p 6 0)] [(6,32,[.v (.bool s),.v (.slice u A B)]),(5,32,[.v (.bool g),.v (.slice d c f)]),(4,32,[.v (.bool false),.v (.slice none 0 0)]),(3,32,[.v (.bool m),.v (.slice n q c2)])] (ZaE.of (by kernel_rfl)) (by kernel_rfl) (fun _ h=>h) ?_
 refine yO 5 Zam ?_
 refine xqg 1 [eI2 14 s u A B] ?_
 refine xqd 25 [vI2 s u A B,.int .i64 1] 15 Zaz _ (fun w R Q=>(Zdb _ ((a%b:Nat):Int) 1 _ Q.2.2 (nfit (mlc (uA (Za4 (rM (uM a D))) hb)) (by decide)) (by omega)).mono (fun _ _ h=>ZaC (by rw[show ((a%b:Nat):Int)*2^1=((2*(a%b):Nat):Int) by omega] at h;exact h))) fun l=>?_
 obtain⟨b0,c0,d0,e0⟩:=l
 refine xqg 1 [eI2 16 m n q c2] ?_
 refine xqd 133 [vI2 b0 c0 d0 e0,vI2 m n q c2] 17 (fun _:Unit=>.int .i64 (((2*(a%b):Nat):Int)-(b:Int)).sign) _ (fun w R Q=>yN (ZnS _ _ ((2*(a%b):Nat):Int) (b:Int) _ Q.2 Q.1.1.2 (nfit (mlc Z) (by decide)) (nfit (mlc hb) (by decide)))) fun l=>?_
 refine xqg 1 [(7,.v (.int .i64 (((2*(a%b):Nat):Int)-(b:Int)).sign))] ?_
 refine xz (xe (Zaa (Zac (Zac ?_))))
 by_cases o0:b<2*(a%b)
 ·refine Zab (xq 2 [(19,.v (.bool (decide ((((2*(a%b):Nat):Int)-(b:Int)).sign>0))))] [] ?_)
  rw[show decide ((((2*(a%b):Nat):Int)-(b:Int)).sign>0)=true from uQ (by rw[rN (by omega)];decide)]
  refine xq 18 [yB 37 true] [] ?_
  refine xe (Zaa (xa ?_))
  refine SXc.weak [(4,.p 4 0),(5,.p 5 0)] [(5,32,[.v (.bool g),.v (.slice d c f)]),(4,32,[.v (.bool false),.v (.slice none 0 0)])] (ZaE.of (by kernel_rfl)) (by kernel_rfl) (fun _ h=>h) ?_
  refine yO 3 Zam ?_
  refine xqg 1 [eI2 38 g d c f] ?_
  refine xqd 24 [.int .i64 1] 39 Zaz _ (fun w R Q=>yM ZaC (Zbu 1 _ (by decide) (by decide))) fun l=>?_
  obtain⟨f0,g0,h0,i0⟩:=l
  refine xqd 77 [vI2 g d c f,vI2 f0 g0 h0 i0] 40 Zaz _ (fun w R Q=>yM ZaC (ZfD (x:=a/b) (r:=1) Q.1.1.1.2.1 Q.2 (uA (Za4 (uO a b)) E) (uA (ZaY.2 (show (1:Nat)<W32^1 by rw[Zap];decide)) (by decide)))) fun l=>?_
  obtain⟨F,G,H,I⟩:=l
  refine xz (xq 1 [] [bI2 5 32 F G H I] ?_)
  refine xe (Zaa (Zac (Zab (xq 2 [] [bI2 4 32 F G H I] ?_))))
  refine xe (Zaa (Zaf ?_))
  refine yR (.agg #[.bool F,.slice G H I]) fun w' R Q=>?_
  exact⟨_,rfl,by rw[ZpQ (by omega)];exact Q.2,R⟩
 by_cases p0:2*(a%b)=b
 ·by_cases q0:a/b=0
  ·refine SXc.know (p:=c=0) (fun w _ Q=>len_zero (Q.1.1.2.1) (by omega)) fun U=>?_
   refine Zab (xq 2 [(19,.v (.bool (decide ((((2*(a%b):Nat):Int)-(b:Int)).sign>0))))] [] ?_)
   rw[show decide ((((2*(a%b):Nat):Int)-(b:Int)).sign>0)=false from ZjD (by omega)]
   refine xq 3 [yB 20 false,(22,.v (.bool (((((2*(a%b):Nat):Int)-(b:Int)).sign:Int) == 0)))] [] ?_
   rw[show ((((2*(a%b):Nat):Int)-(b:Int)).sign == 0)=true from tA.2 (vM.2 (by omega))]
   refine xq 5 [yB 23 true,yB 27 (decide ((c:Int)>0))] [] ?_
   rw[show decide ((c:Int)>0)=false from uJ (by omega)]
   refine xq 10 [yB 37 false] [] ?_
   refine xe (Zaa (xb (Zal (Zaa (Zac (Zab (xq 2 [] [bI2 4 32 g d c f] ?_)))))))
   refine xe (Zaa (Zaf ?_))
   refine yR (.agg #[.bool g,.slice d c f]) fun w' R Q=>?_
   exact⟨_,rfl,by rw[ZlU (by omega)];exact Q.1.1.2.1,R⟩
  by_cases n0:a/b%2=1
  ·refine SXc.know (p:=0<c) (fun w _ Q=>(Q.1.1.2.1).lenp (by omega)) fun U=>?_
   refine Zab (xq 2 [(19,.v (.bool (decide ((((2*(a%b):Nat):Int)-(b:Int)).sign>0))))] [] ?_)
   rw[show decide ((((2*(a%b):Nat):Int)-(b:Int)).sign>0)=false from ZjD (by omega)]
   refine xq 3 [yB 20 false,(22,.v (.bool (((((2*(a%b):Nat):Int)-(b:Int)).sign:Int) == 0)))] [] ?_
   rw[show ((((2*(a%b):Nat):Int)-(b:Int)).sign == 0)=true from tA.2 (vM.2 (by omega))]
   refine xq 5 [yB 23 true,yB 27 (decide ((c:Int)>0))] [] ?_
   rw[show decide ((c:Int)>0)=true from uQ (by omega)]
   refine xq 4 [yB 29 true,eS1 31 d c f] [] ?_
   refine xqk 32 (atA d 0) (fun w R Q=>(by obtain⟨V,W,T,C,X,Y⟩:=ZbK (Q.1.1.2.1) (z:=((a/b:Nat):Int)) (by omega);exact ZaO (t:=30) (e:=102) (x:=.tmp 31) (ix:=.const (.int .i64 0)) (len:=c) (cap:=f) (i:=0) Y (by have h5:c=V.length:=X;omega))) ?_
   refine xqk 33 (.int .u32 (((a/b)%W32:Nat):Int)) (fun w R Q=>(by obtain⟨V,W,T,C,X,Y⟩:=ZbK (Q.1.1.2.1) (z:=((a/b:Nat):Int)) (by omega);rw[uR] at C;rw[←C];exact ZaW (t:=102) (x:=.tmp 32) W (j:=0) T)) ?_
   refine xqk 34 (.int .u32 (((a/b)%W32%2:Nat):Int)) (fun w R Q=>Zcy (t:=102) (k:=102) (x:=.tmp 33) (y:=.const (.int .u32 1)) (by kernel_rfl) (by kernel_rfl) (by kernel_rfl) (by have:=uM (a/b) (show 0<W32 by rw[Zap];decide);rw[Zap] at this ⊢;exact this)) ?_
   refine xq 1 [(35,.v (.bool (((((a/b)%W32%2:Nat):Int):Int) == 1)))] [] ?_
   rw[(show ((((a/b)%W32%2:Nat):Int) == 1)=true from tA.2 (by rw[Zap];omega))]
   refine xq 2 [yB 37 true] [] ?_
   refine xe (Zaa (xa ?_))
   refine SXc.weak [(4,.p 4 0),(5,.p 5 0)] [(5,32,[.v (.bool g),.v (.slice d c f)]),(4,32,[.v (.bool false),.v (.slice none 0 0)])] (ZaE.of (by kernel_rfl)) (by kernel_rfl) (fun _ h=>h) ?_
   refine yO 3 Zam ?_
   refine xqg 1 [eI2 38 g d c f] ?_
   refine xqd 24 [.int .i64 1] 39 Zaz _ (fun w R Q=>yM ZaC (Zbu 1 _ (by decide) (by decide))) fun l=>?_
   obtain⟨j0,k0,l0,m0⟩:=l
   refine xqd 77 [vI2 g d c f,vI2 j0 k0 l0 m0] 40 Zaz _ (fun w R Q=>yM ZaC (ZfD (x:=a/b) (r:=1) Q.1.1.1.2.1 Q.2 (uA (Za4 (uO a b)) E) (uA (ZaY.2 (show (1:Nat)<W32^1 by rw[Zap];decide)) (by decide)))) fun l=>?_
   obtain⟨J,K,L,M⟩:=l
   refine xz (xq 1 [] [bI2 5 32 J K L M] ?_)
   refine xe (Zaa (Zac (Zab (xq 2 [] [bI2 4 32 J K L M] ?_))))
   refine xe (Zaa (Zaf ?_))
   refine yR (.agg #[.bool J,.slice K L M]) fun w' R Q=>?_
   exact⟨_,rfl,by rw[ZpQ (by omega)];exact Q.2,R⟩
  refine SXc.know (p:=0<c) (fun w _ Q=>(Q.1.1.2.1).lenp (by omega)) fun U=>?_
  refine Zab (xq 2 [(19,.v (.bool (decide ((((2*(a%b):Nat):Int)-(b:Int)).sign>0))))] [] ?_)
  rw[show decide ((((2*(a%b):Nat):Int)-(b:Int)).sign>0)=false from ZjD (by omega)]
  refine xq 3 [yB 20 false,(22,.v (.bool (((((2*(a%b):Nat):Int)-(b:Int)).sign:Int) == 0)))] [] ?_
  rw[show ((((2*(a%b):Nat):Int)-(b:Int)).sign == 0)=true from tA.2 (vM.2 (by omega))]
  refine xq 5 [yB 23 true,yB 27 (decide ((c:Int)>0))] [] ?_
  rw[show decide ((c:Int)>0)=true from uQ (by omega)]
  refine xq 4 [yB 29 true,eS1 31 d c f] [] ?_
  refine xqk 32 (atA d 0) (fun w R Q=>(by obtain⟨V,W,T,C,X,Y⟩:=ZbK (Q.1.1.2.1) (z:=((a/b:Nat):Int)) (by omega);exact ZaO (t:=30) (e:=102) (x:=.tmp 31) (ix:=.const (.int .i64 0)) (len:=c) (cap:=f) (i:=0) Y (by have h5:c=V.length:=X;omega))) ?_
  refine xqk 33 (.int .u32 (((a/b)%W32:Nat):Int)) (fun w R Q=>(by obtain⟨V,W,T,C,X,Y⟩:=ZbK (Q.1.1.2.1) (z:=((a/b:Nat):Int)) (by omega);rw[uR] at C;rw[←C];exact ZaW (t:=102) (x:=.tmp 32) W (j:=0) T)) ?_
  refine xqk 34 (.int .u32 (((a/b)%W32%2:Nat):Int)) (fun w R Q=>Zcy (t:=102) (k:=102) (x:=.tmp 33) (y:=.const (.int .u32 1)) (by kernel_rfl) (by kernel_rfl) (by kernel_rfl) (by have:=uM (a/b) (show 0<W32 by rw[Zap];decide);rw[Zap] at this ⊢;exact this)) ?_
  refine xq 1 [(35,.v (.bool (((((a/b)%W32%2:Nat):Int):Int) == 1)))] [] ?_
  rw[(show ((((a/b)%W32%2:Nat):Int) == 1)=false from tG.2 (by rw[Zap];omega))]
  refine xq 2 [yB 37 false] [] ?_
  refine xe (Zaa (xb (Zal (Zaa (Zac (Zab (xq 2 [] [bI2 4 32 g d c f] ?_)))))))
  refine xe (Zaa (Zaf ?_))
  refine yR (.agg #[.bool g,.slice d c f]) fun w' R Q=>?_
  exact⟨_,rfl,by rw[ZlU (by omega)];exact Q.1.1.2.1,R⟩
 refine Zab (xq 2 [(19,.v (.bool (decide ((((2*(a%b):Nat):Int)-(b:Int)).sign>0))))] [] ?_)
 rw[show decide ((((2*(a%b):Nat):Int)-(b:Int)).sign>0)=false from ZjD (by omega)]
 refine xq 3 [yB 20 false,(22,.v (.bool (((((2*(a%b):Nat):Int)-(b:Int)).sign:Int) == 0)))] [] ?_
 rw[show ((((2*(a%b):Nat):Int)-(b:Int)).sign == 0)=false from tG.2 (fun e=>by have:=vM.1 e;omega)]
 refine xq 15 [yB 37 false] [] ?_
 refine xe (Zaa (xb (Zal (Zaa (Zac (Zab (xq 2 [] [bI2 4 32 g d c f] ?_)))))))
 refine xe (Zaa (Zaf ?_))
 refine yR (.agg #[.bool g,.slice d c f]) fun w' R Q=>?_
 exact⟨_,rfl,by rw[ZlU (by omega)];exact Q.1.1.2.1,R⟩
theorem Zai.absv {w:World}{s:Bool}{A:Option Addr}{l c:Nat}{z:Int}(h:Zai w (.agg #[.bool s,.slice A l c]) z):Zai w (.agg #[.bool false,.slice A l c]) ((z.natAbs:Nat):Int) :=
 ⟨false,_,z.natAbs,rfl,h.opn.1,fun _=>rfl,rfl⟩
theorem Zai.sgn {w:World}{A:Option Addr}{l c n:Nat}(h:Zai w (.agg #[.bool false,.slice A l c]) ((n:Nat):Int))(b:0<n)(t:Bool):Zai w (.agg #[.bool t,.slice A l c]) (sg t n):=by
 have a:=h.opn.1
 rw[uR] at a
 exact⟨t,_,n,rfl,a,fun e=>by omega,rfl⟩
theorem Zai.signb {w:World}{s:Bool}{A:Option Addr}{l c:Nat}{z:Int}(h:Zai w (.agg #[.bool s,.slice A l c]) z):s=decide (z<0):=by
 obtain⟨_,a,b⟩:=h.opn
 cases s
 ·have:z=(z.natAbs:Int):=a
  exact (uJ (by omega)).symm
 have d:z = -(z.natAbs:Int):=a
 have f:z≠0:=fun e=>by have:=b e;cases this
 exact (uQ (by omega)).symm
abbrev CB (w:World) (g:Nat) (bits err:Int):Prop:=Blk 84 w g #[.int .i64 bits,.int .i64 err]
def RetC (w:World) (g:Nat) (bits:Int) (r:FR) (e:Ending) (w':World):Prop:=∃ y:ShI,e=.returned (shF r.e y)∧Zai w' (Zaz y) (sg r.s r.m)∧Fr (fun i=>i=g) w w'∧CB w' g bits r.err
theorem Zwk (a b:Int):Zqq #[.int .i64 a,.int .i64 b]:=by
 intro i k z h;rcases i with _|_|i<;>simp at h
 ·exact h.1.symm
 exact h.1.symm
theorem ZwE {t:TypeId}{w w':World}{g:Nat}{cs:Array Value}{φ:World→Prop}(b:Fr (fun i=>i=g) w w')(c:Blk t w' g cs)(d:Zqq cs)(h:∀ S w'',(∀ i,S i→NRB w' i)→Fr S w' w''→φ w''):BoxN w w' φ:=fun S f w'' j=>h S w'' (fun i k=>by
 by_cases e:i=g
 ·subst e;exact⟨_,_,c,d⟩
 obtain⟨l,a,m,n⟩:=(f i k).2
 exact⟨l,a,m.fr b e,n⟩) j
theorem Zcr {w w':World}{g:Nat}{bits:Int}{r:FR}{e:Ending}(h:RetC w g bits r e w'):∃ y:ShI,e=.returned (shF r.e y)∧Fr (fun i=>i=g) w w'∧Blk 84 w' g #[.int .i64 bits,.int .i64 r.err]∧BoxN w w' (fun w=>Zai w (Zaz y) (sg r.s r.m)):=by
 obtain⟨y,rfl,c,a,b⟩:=h
 exact⟨y,rfl,a,b,ZwE a b (Zwk _ _) (fun S d f j=>c.nrb f j)⟩
theorem ZdY {w w':World}{e:Ending}{z x:Int}(h:Zlq w z x e w'):ZbO (shF x) (fun y w=>Zai w (Zaz y) z) w e w':=by
 obtain⟨y,rfl,a,Q⟩:=h
 exact⟨y,rfl,Q,boxn Q (fun S b c d=>a.nrb c d)⟩
theorem ZmN (g:Nat)(bits e:Int)(w:World)(h:CB w g bits 0):yA 161 #[.pointer (some ⟨g,0,none⟩),.int .i64 e] w (fun a w'=>∃ x:Unit,a=.returned ((fun _:Unit=>Value.tuple #[]) x)∧Fr (fun i=>i=g) w w'∧Blk 84 w' g ((fun _:Unit=>#[.int .i64 bits,.int .i64 e]) x)∧BoxN w w' (fun _=>True)):=by
 have b:=h.set_ 1 (.int .i64 e)
 have c:=h.cell 1
 have d:=h.frozen 1
 go_enter Tryz.func161,Tryz.ntmps161
 go_wp2
 exact⟨rfl,.tuple #[],by simp[results,Tryz.f161],⟨(),rfl,(show Fr (fun i=>i=g) w w from Fr.refl _ _).setCell (p:=⟨g,1,none⟩) (Or.inl rfl) _,b,BoxN.pure trivial⟩⟩
def limR (s:Bool) (m:Nat) (e:Int):FR:=if okE e then ⟨s,m,e,0⟩ else ⟨false,0,0,2⟩
theorem Zkq {s:Bool}{n:Nat}{e:Int}(h:0<n):Zbi s n e=limR s (oddM n) (e+tzn n):=by
 unfold Zbi limR
 rw[uN (by omega)];rfl
theorem Zfl {s:Bool}{n:Nat}(h:0<n):decide (sg s n<0)=s:=by
 unfold sg;cases s<;>simp<;>omega
theorem Zci (s:Bool)(n:Nat):(sg s n).natAbs=n:=by unfold sg;cases s<;>simp
theorem Zux {s:Bool}{n:Nat}(h:0<n):sg s n≠0:=by unfold sg;cases s<;>simp<;>omega
theorem ZlY {n k b j:Nat}(a:ml n≤b)(c:k<32*j):ml (n*2^k)≤b+j:=ZsP a (ZsO c)
theorem Zkr {n k:Nat}(h:ml n≤k):blen n≤32*k:=by have:=ZhC n;omega
theorem Zqe {a b k:Nat}(ha:ml a≤k)(c:1≤k):ml (Zb8 a b)≤k+1:=by
 have d:ml 1≤1:=ZaY.2 (by rw[Zap];decide)
 exact uA (Za4 (Zjx a b).2) (Zgy (uA (Za4 (uO a b)) ha) (uA d c))
theorem Zcs (g bits:Nat)(b:Bool)(A:Option Addr)(l c:Nat)(s:Bool)(m:Nat)(e:Int)(w:World)(n:CB w g ((bits:Nat):Int) 0)(o:Zai w (.agg #[.bool b,.slice A l c]) (sg s m)) :
 yA 134 #[.pointer (some ⟨g,0,none⟩), yV b A l c e] w (RetC w g ((bits:Nat):Int) (limR s m e)):=by
 refine Zch (fun i=>i=g) (Φ:=fun w=>(CB w g (bits:Int) 0∧Zai w (.agg #[.bool b,.slice A l c]) (sg s m))) Tryz.func134 rfl (by kernel_rfl) (fun w' k=>⟨n.ext k,o.ext k⟩) ?_
 refine Zac (Zab (xq 2 [(3,.p 3 0),(4,.p 4 0)] [yF 4 52 false none 0 0 0,yF 3 52 b A l c e] ?_))
 refine xe (Zaa (Zac (Zac (Zab (xq 4 [yB 8 (decide (e<(-1048576)))] [] ?_)))))
 rcases bl2 ((decide (e<(-1048576)))) with a|a
 ·rw[a]
  have h:=uC a
  refine xq 4 [yB 12 true] [] ?_
  refine xe (Zaa (xa (Zac (Zab (xq 1 [(13,.v (.pointer (some ⟨g,0,none⟩)))] [] ?_)))))
  refine Zbe 161 [.pointer (some ⟨g,0,none⟩),.int .i64 2] (d:=14) (fun _:Unit=>.tuple #[]) (fun _:Unit=>#[.int .i64 (bits:Int),.int .i64 2]) (fun _ _=>True) (fun _=>True) (fun w Q=>Q.1) (vJ _) (Or.inr rfl) (fun w R Q=>ZmN g _ 2 _ Q.1) (fun _ _ _ _=>trivial) fun _=>?_
  refine xr 0 [(3,.p 3 0),(4,.p 4 0)] [yF 4 52 false none 0 0 0,yF 3 52 b A l c e] ?_
  refine xe (Zaa (Zac (Zab (xq 2 [] [] ?_))))
  refine xe (Zaa (Zaf (Zae ?_)))
  refine yR (yV false none 0 0 0) fun w' R Q=>?_
  rw[show limR s m e=⟨false,0,0,2⟩ from uN (by rintro⟨q,r⟩;omega)]
  exact⟨(false,none,0,0),rfl,Zai.nil _,R,Q.1.2⟩
 rw[a]
 have h:=uD a
 refine xq 4 [yB 12 (decide (e>1048576))] [] ?_
 refine xe (Zaa ?_)
 refine yQ ((decide (e>1048576))) (fun f=>?_) fun f=>?_
 ·have j:=uC f
  refine Zac (Zab (xq 1 [(13,.v (.pointer (some ⟨g,0,none⟩)))] [] ?_))
  refine Zbe 161 [.pointer (some ⟨g,0,none⟩),.int .i64 2] (d:=14) (fun _:Unit=>.tuple #[]) (fun _:Unit=>#[.int .i64 (bits:Int),.int .i64 2]) (fun _ _=>True) (fun _=>True) (fun w Q=>Q.1) (vJ _) (Or.inr rfl) (fun w R Q=>ZmN g _ 2 _ Q.1) (fun _ _ _ _=>trivial) fun _=>?_
  refine xr 0 [(3,.p 3 0),(4,.p 4 0)] [yF 4 52 false none 0 0 0,yF 3 52 b A l c e] ?_
  refine xe (Zaa (Zac (Zab (xq 2 [] [] ?_))))
  refine xe (Zaa (Zaf (Zae ?_)))
  refine yR (yV false none 0 0 0) fun w' R Q=>?_
  rw[show limR s m e=⟨false,0,0,2⟩ from uN (by rintro⟨q,r⟩;omega)]
  exact⟨(false,none,0,0),rfl,Zai.nil _,R,Q.1.2⟩
 have j:=uD f
 refine Zal (Zaa (Zac (Zab (xq 2 [] [yF 4 52 b A l c e] ?_))))
 refine xe (Zaa (Zaf ?_))
 refine yR (yV b A l c e) fun w' R Q=>?_
 rw[show limR s m e=⟨s,m,e,0⟩ from uP ⟨by omega,by omega⟩]
 exact⟨(b,A,l,c),rfl,Q.2,R,Q.1⟩
theorem Zcd (g bits:Nat)(b:Bool)(A:Option Addr)(l c:Nat)(z:Int)(a:Bool)(B:Option Addr)(m f d:Nat)(e:Int)(w:World)(hC:CB w g ((bits:Nat):Int) 0)(hN:Zai w (.agg #[.bool b,.slice A l c]) z)(hD:Zai w (.agg #[.bool a,.slice B m f]) ((d:Nat):Int))(hz:ml z.natAbs≤10000)(hd:ml d≤10000)(u:0<d)(H:0<bits)(hb:bits≤4096)(Q0 : -1073741824≤e)(R0:e≤1073741824) :
 yA 101 #[.pointer (some ⟨g,0,none⟩),.agg #[.bool b,.slice A l c],.agg #[.bool a,.slice B m f],.int .i64 e] w (RetC w g ((bits:Nat):Int) (ZaK (decide (z<0)) z.natAbs d e bits)):=by
 refine Zch (fun i=>i=g) (Φ:=fun w=>((CB w g (bits:Int) 0∧Zai w (.agg #[.bool b,.slice A l c]) (z))∧Zai w (.agg #[.bool a,.slice B m f]) ((d:Int)))) Tryz.func101 rfl (by kernel_rfl) (fun w' hf=>⟨⟨hC.ext hf,hN.ext hf⟩,hD.ext hf⟩) ?_
 refine Zac ?_
 by_cases i0:z=0
 ·refine Zab (xq 3 [(5,.p 5 0),(6,.p 6 0),(8,.p 8 0)] [yF 8 52 false none 0 0 0,bI2 6 32 a B m f,bI2 5 32 b A l c] ?_)
  refine xe (Zaa (Zac (Zac (Zab (xq 1 [eI2 16 b A l c] [] ?_)))))
  refine xqc 62 [vI2 b A l c] 17 (fun _:Unit=>.int .i64 0) _ (fun w R Q=>(Zbh _ z _ Q.1.2).mono (fun _ _ h=>Zag h (by rw[i0];rfl))) fun o=>?_
  refine xq 1 [yB 18 true] [] ?_
  refine xe (Zaa (xa (Zac (Zab (xq 2 [] [] ?_)))))
  refine xe (Zaa (Zaf (Zae ?_)))
  refine yR (yV false none 0 0 0) fun w' R Q=>?_
  rw[i0,show (0:Int).natAbs=0 from rfl,Zco]
  exact⟨(false,none,0,0),rfl,Zai.nil _,R,Q.1.1.1⟩
 refine Zab (xq 3 [(5,.p 5 0),(6,.p 6 0),(8,.p 8 0)] [yF 8 52 false none 0 0 0,bI2 6 32 a B m f,bI2 5 32 b A l c] ?_)
 refine xe (Zaa (Zac (Zac (Zab (xq 1 [eI2 16 b A l c] [] ?_)))))
 refine xqc 62 [vI2 b A l c] 17 (fun _:Unit=>.int .i64 (Int.sign z)) _ (fun w R Q=>yN (Zbh _ z _ Q.1.2)) fun o=>?_
 refine xq 1 [yB 18 (((Int.sign z):Int) == 0)] [] ?_
 rw[(show (((Int.sign z):Int) == 0)=false by have:=mt vM.1 i0;simpa using this)]
 refine xe (Zaa (xb (Zal (Zaa (Zac (Zab (xq 3 [(9,.p 9 0)] [bI2 9 32 b A l c] ?_)))))))
 refine xe (Zaa (Zac (Zab (xq 2 [] [bI2 9 32 false A l c] ?_))))
 refine xe (Zaa (Zac ?_))
 have S0:=Zkr hz
 have T0:=Zkr hd
 refine yO 11 Zam ?_
 refine xqg 1 [eI2 22 false A l c] ?_
 refine xqd 37 [vI2 false A l c] 23 (fun _:Unit=>.int .i64 ((blen z.natAbs:Nat):Int)) _ (fun w R Q=>yN (Zb1 _ _ _ (Q.1.1.2).absv (nfit (mlc hz) (by decide)))) fun o=>?_
 refine xqg 1 [eI2 24 a B m f] ?_
 refine xqd 37 [vI2 a B m f] 25 (fun _:Unit=>.int .i64 ((blen d:Nat):Int)) _ (fun w R Q=>yN (Zb1 _ _ _ Q.1.1.2 (nfit (mlc hd) (by decide)))) fun o=>?_
 refine xqg 1 [yJ 26 (IntKind.i64.wrap (((blen z.natAbs:Nat):Int)-((blen d:Nat):Int)))] ?_
 rw[yW (((blen z.natAbs:Nat):Int)-((blen d:Nat):Int)) (((blen z.natAbs:Nat):Int)-((blen d:Nat):Int)) (by omega)]
 refine xqg 3 [(29,.v (.pointer (some ⟨g,0,none⟩)))] ?_
 refine xqj 30 (.int .i64 (bits:Int)) (fun w Q=>ZbA (t:=3) (x:=.tmp 29) (g:=g) (off:=0) (Blk.cell (Q.1.1.1) 0)) ?_
 refine xqg 1 [(31,.v (.int .i64 (IntKind.i64.wrap ((((blen z.natAbs:Nat):Int)-((blen d:Nat):Int))-(bits:Int)))))] ?_
 rw[show IntKind.i64.wrap ((((blen z.natAbs:Nat):Int)-((blen d:Nat):Int))-(bits:Int))=rk0 z.natAbs d bits by unfold rk0;rw[IntKind.wrap_i64];omega]
 refine xqg 1 [yJ 10 (rk0 z.natAbs d bits)] ?_
 refine xz (xe (Zaa (ZaH ?_)))
 refine yC [(0,.v (.pointer (some ⟨g,0,none⟩))),yJ 3 e,(5,.p 5 0),(6,.p 6 0),(8,.p 8 0),(9,.p 9 0),yJ 10 ((rk0 z.natAbs d bits))] [(9,32,[.v (.bool false),.v (.slice A l c)]),yF 8 52 false none 0 0 0,(6,32,[.v (.bool a),.v (.slice B m f)]),(5,32,[.v (.bool b),.v (.slice A l c)])] (fun w=>((CB w g (bits:Int) 0∧Zai w (.agg #[.bool b,.slice A l c]) (z))∧Zai w (.agg #[.bool a,.slice B m f]) ((d:Int)))) (fun w Q=>⟨⟨Q.1.1.1.1.1,Q.1.1.1.1.2⟩,Q.1.1.1.2⟩) ?_
 refine ZbI (fun nn ss ff=>∃ (k:Int),ss=ofL [(0,.v (.pointer (some ⟨g,0,none⟩))),yJ 3 e,(5,.p 5 0),(6,.p 6 0),(8,.p 8 0),(9,.p 9 0),yJ 10 k] [(9,32,[.v (.bool false),.v (.slice A l c)]),yF 8 52 false none 0 0 0,(6,32,[.v (.bool a),.v (.slice B m f)]),(5,32,[.v (.bool b),.v (.slice A l c)])]∧ff=(fun w=>((CB w g (bits:Int) 0∧Zai w (.agg #[.bool b,.slice A l c]) (z))∧Zai w (.agg #[.bool a,.slice B m f]) ((d:Int))))∧(k=rk0 z.natAbs d bits∨k=rndK z.natAbs d bits)∧nn=((rndK z.natAbs d bits-k).toNat)) (((rndK z.natAbs d bits-((rk0 z.natAbs d bits))).toNat)) ⟨((rk0 z.natAbs d bits)),rfl,rfl,(Or.inl rfl),rfl⟩ ?_
 rintro nn ss ff ⟨k,rfl,rfl,hk,rfl⟩
 refine ZaH (Zac ?_)
 have U0:=Zu1 hk
 refine yO 6 Zam ?_
 refine xqf 6 [(11,.p 11 0),(12,.p 12 0)] [bI2 12 32 a B m f,bI2 11 32 false A l c,bI2 12 32 false none 0 0,bI2 11 32 false none 0 0,bI2 9 32 false A l c,yF 8 52 false none 0 0 0,bI2 6 32 a B m f,bI2 5 32 b A l c] ?_
 refine xz (xe (Zaa (Zac (Zac (Zab (xq 2 [yB 35 (decide (k≥0))] [bI2 12 32 a B m f,bI2 11 32 false A l c] ?_))))))
 refine xe (Zaa ?_)
 refine yQ ((decide (k≥0))) (fun Y=>?_) fun Y=>?_
 ·have Z:=uC Y
  obtain⟨j,rfl⟩:=uV Z
  have E:fa z.natAbs (j:Int)=z.natAbs:=ZvT (by omega)
  have F:fb d (j:Int)=d*2^j:=by unfold fb;rw[qY]
  have hj:j≤700000:=by omega
  have a0:ml z.natAbs≤90000:=by omega
  have O0:ml (d*2^j)≤90000:=uA (ZlY (j:=30000) hd (by omega)) (by omega)
  have b0:0<d*2^j:=sE u (p2 j)
  have c0:fq z.natAbs d ((j:Int))=z.natAbs/(d*2^j):=by unfold fq;rw[E,F]
  refine Zab (xq 2 [eI2 36 a B m f,yJ 37 (j:Int)] [] ?_)
  refine xqc 25 [vI2 a B m f,.int .i64 (j:Int)] 38 Zaz _ (fun w R Q=>(Zdb _ (d:Int) j _ Q.2 (nfit (mlc hd) (by decide)) (by omega)).mono (fun _ _ h=>ZaC (by rw[show (d:Int)*2^j=((d*2^j:Nat):Int) by rw[tD,vT];rfl] at h;exact h))) fun o=>?_
  obtain⟨I,J,K,L⟩:=o
  refine xq 1 [] [bI2 12 32 I J K L] ?_
  refine xe (Zaa (Zac (Zab (xq 2 [eI2 44 false A l c,eI2 45 I J K L] [] ?_))))
  refine xqc 70 [vI2 false A l c,vI2 I J K L] 46 Zfe _ (fun w R Q=>yM ZdR (Zie (x:=z.natAbs) (r:=d*2^j) (Q.1.1.2).absv Q.2 (by omega) (by omega) b0)) fun o=>?_
  obtain⟨⟨j0,k0,l0,m0⟩,⟨V0,W0,X0,Y0⟩⟩:=o
  refine xq 7 [(13,.p 13 0)] [bI2 13 32 j0 k0 l0 m0] ?_
  refine xe (Zaa (Zac (Zac ?_)))
  refine yO 7 Zam ?_
  refine xqg 1 [eI2 49 j0 k0 l0 m0] ?_
  refine xqd 37 [vI2 j0 k0 l0 m0] 50 (fun _:Unit=>.int .i64 ((blen (z.natAbs/(d*2^j)):Nat):Int)) _ (fun w R Q=>yN (Zb1 _ _ _ Q.2.1 (nfit (mlc (uA (Za4 (uO _ _)) a0)) (by decide)))) fun o=>?_
  refine xqg 3 [(53,.v (.pointer (some ⟨g,0,none⟩)))] ?_
  refine xqj 54 (.int .i64 (bits:Int)) (fun w Q=>ZbA (t:=3) (x:=.tmp 53) (g:=g) (off:=0) (Blk.cell (Q.1.1.1.1) 0)) ?_
  refine xqg 1 [(55,.v (.bool (decide (((blen (z.natAbs/(d*2^j)):Nat):Int)>(bits:Int)))))] ?_
  refine xz (xe (Zaa ?_))
  refine yQ ((decide (((blen (z.natAbs/(d*2^j)):Nat):Int)>(bits:Int)))) (fun d0=>?_) fun d0=>?_
  ·have n0:=uC d0
   have e0:=ZpO (by omega) u H hk (by rw[c0];omega)
   refine Zac (Zab (xq 2 [yJ 57 (IntKind.i64.wrap ((j:Int)+1))] [] ?_))
   rw[yW ((j:Int)+1) ((j:Int)+1) (by omega)]
   refine xq 1 [yJ 10 ((j:Int)+1)] [] ?_
   refine xe (Zaa (Zbt (Zaw (ZbH ?_))))
   refine yP [(0,.v (.pointer (some ⟨g,0,none⟩))),yJ 3 e,(5,.p 5 0),(6,.p 6 0),(8,.p 8 0),(9,.p 9 0),yJ 10 (((j:Int)+1))] [(9,32,[.v (.bool false),.v (.slice A l c)]),yF 8 52 false none 0 0 0,(6,32,[.v (.bool a),.v (.slice B m f)]),(5,32,[.v (.bool b),.v (.slice A l c)])] (fun w=>((CB w g (bits:Int) 0∧Zai w (.agg #[.bool b,.slice A l c]) (z))∧Zai w (.agg #[.bool a,.slice B m f]) ((d:Int)))) (fun w Q=>⟨⟨Q.1.1.1.1.1,Q.1.1.1.1.2⟩,Q.1.1.1.2⟩) ?_
   exact Za5 (((rndK z.natAbs d bits-(((j:Int)+1))).toNat)) (by have:=e0.2;omega) ⟨(((j:Int)+1)),rfl,rfl,(Or.inr e0.1),rfl⟩
  have n0:=uD d0
  have G:=ZpP (by omega) u H hk (by rw[c0];omega)
  have q:=ZnW (n:=z.natAbs) (d:=d) (bits:=bits) (by omega) u H
  have o0:ml (rndM z.natAbs d bits)≤1048576:=by unfold rndM;rw[←G,E,F];exact uA (Zqe a0 (by decide)) (by omega)
  refine Zal (Zaa (Zac (Zab (xq 2 [eI2 58 false A l c,eI2 59 I J K L] [] ?_))))
  refine xqc 147 [vI2 false A l c,vI2 I J K L] 60 Zaz _ (fun w R Q=>(Zi9 false A l c I J K L (z.natAbs) (d*2^j) _ (Q.1.1.1.1.2).absv Q.1.1.2 (by omega) (by omega) b0).mono (fun _ _ h=>ZaC (by rw[show Zb8 (z.natAbs) (d*2^j)=rndM z.natAbs d bits by unfold rndM;rw[←G,E,F]] at h;exact h))) fun o=>?_
  obtain⟨E0,M,N,O⟩:=o
  refine xq 2 [(15,.p 15 0)] [bI2 15 32 E0 M N O] ?_
  refine xe (Zaa (Zac (Zab (xq 4 [] [bI2 15 32 b M N O] ?_))))
  refine xe (Zaa (Zac (Zab (xr 5 [(0,.v (.pointer (some ⟨g,0,none⟩))),yJ 3 e,(5,.p 5 0),(6,.p 6 0),(8,.p 8 0),(9,.p 9 0),yJ 10 (j:Int),(64,.v (.pointer (some ⟨g,0,none⟩))),eI2 65 b M N O,yJ 68 (IntKind.i64.wrap (e+(j:Int)))] [bI2 9 32 false A l c,yF 8 52 false none 0 0 0,bI2 6 32 a B m f,bI2 5 32 b A l c] ?_))))
  rw[yW (e+(j:Int)) (e+(j:Int)) (by omega)]
  refine xqc 135 [vI2 b M N O,.int .i64 (e+(j:Int))] 69 (shF ((e+(j:Int))+((tzn (rndM z.natAbs d bits):Nat):Int))) _ (fun w R Q=>(ZcO b M N O (sg b (rndM z.natAbs d bits)) ((e+(j:Int))) _ (by have h1:Zai _ (.agg #[.bool E0,.slice M N O]) _:=Q.2;have h2:=h1.spos (rQ _);rw[h2] at h1;exact h1.sgn q b) (Zux q) (by unfold ZaR;rw[Zci];exact o0) (by omega) (by omega)).mono (fun _ _ h=>ZdY (by rw[Zci,Zfl q] at h;exact h))) fun o=>?_
  obtain⟨F0,G0,H0,I0⟩:=o
  obtain⟨C,g0⟩:=yE (limR b (oddM (rndM z.natAbs d bits)) (((e+(j:Int))+((tzn (rndM z.natAbs d bits):Nat):Int))))
  refine Zbe 134 [.pointer (some ⟨g,0,none⟩), yV F0 G0 H0 I0 ((e+(j:Int))+((tzn (rndM z.natAbs d bits):Nat):Int))] (d:=70) (shF C.e) (fun _=>#[.int .i64 (bits:Int),.int .i64 C.err]) (fun y w=>Zai w (Zaz y) (sg C.s C.m)) (fun _=>True) (fun w Q=>Q.1.1.1.1.1.1.1) (vJ _) (Or.inr rfl) (fun w R Q=>yM Zcr (show Calls _ _ _ _ (RetC w g (bits:Int) C) by rw[←g0];exact Zcs g bits F0 G0 H0 I0 b (oddM (rndM z.natAbs d bits)) (((e+(j:Int))+((tzn (rndM z.natAbs d bits):Nat):Int))) _ Q.1.1.1.1.1.1.1 Q.2)) (fun _ _ _ _=>trivial) fun o=>?_
  obtain⟨p0,q0,r0,s0⟩:=o
  refine xr 1 [(0,.v (.pointer (some ⟨g,0,none⟩))),yJ 3 e,(5,.p 5 0),(6,.p 6 0),(8,.p 8 0),(9,.p 9 0),yJ 10 (j:Int)] [bI2 9 32 false A l c,yF 8 52 p0 q0 r0 s0 C.e,bI2 6 32 a B m f,bI2 5 32 b A l c] ?_
  refine xe (Zaa (Zaf (Zbn (Zae (Zbn ?_)))))
  refine yR (yV p0 q0 r0 s0 C.e) fun w' R Q=>?_
  have t0:=hN.signb
  have u0:ZaK (decide (z<0)) z.natAbs d e bits=C:=by unfold ZaK;rw[uN (by omega),Zkq q,← g0,← G,← t0]
  rw[u0]
  exact⟨(p0,q0,r0,s0),rfl,Q.2,R,Q.1.2⟩
 have Z:=uD Y
 obtain⟨j,P0⟩:∃ j:Nat,-k=j:=uV (by omega)
 have E:fa z.natAbs k=z.natAbs*2^j:=by unfold fa;rw[P0,qY]
 have F:fb d k=d:=ZvU (by omega)
 have hj:j≤700000:=by omega
 have a0:ml (z.natAbs*2^j)≤90000:=uA (ZlY (j:=30000) hz (by omega)) (by omega)
 have O0:ml d≤90000:=by omega
 have b0:=u
 have c0:fq z.natAbs d k=(z.natAbs*2^j)/(d):=by unfold fq;rw[E,F]
 refine Zab (xq 3 [eI2 39 false A l c,yJ 41 (IntKind.i64.wrap (0-(k)))] [] ?_)
 rw[yW (0-(k)) ((j:Int)) (by omega)]
 refine xqc 25 [vI2 false A l c,.int .i64 (j:Int)] 42 Zaz _ (fun w R Q=>(Zdb _ ((z.natAbs:Nat):Int) j _ (Q.1.2).absv (nfit (mlc hz) (by decide)) (by omega)).mono (fun _ _ h=>ZaC (by rw[show ((z.natAbs:Nat):Int)*2^j=((z.natAbs*2^j:Nat):Int) by rw[tD,vT];rfl] at h;exact h))) fun o=>?_
 obtain⟨P,S,T,U⟩:=o
 refine xq 1 [] [bI2 11 32 P S T U] ?_
 refine xe (Zaa (Zac (Zab (xq 2 [eI2 44 P S T U,eI2 45 a B m f] [] ?_))))
 refine xqc 70 [vI2 P S T U,vI2 a B m f] 46 Zfe _ (fun w R Q=>yM ZdR (Zie (x:=z.natAbs*2^j) (r:=d) Q.2 Q.1.2 (by omega) (by omega) b0)) fun o=>?_
 obtain⟨⟨v0,w0,x0,y0⟩,⟨Z0,a1,b1,c1⟩⟩:=o
 refine xq 7 [(13,.p 13 0)] [bI2 13 32 v0 w0 x0 y0] ?_
 refine xe (Zaa (Zac (Zac ?_)))
 refine yO 7 Zam ?_
 refine xqg 1 [eI2 49 v0 w0 x0 y0] ?_
 refine xqd 37 [vI2 v0 w0 x0 y0] 50 (fun _:Unit=>.int .i64 ((blen (z.natAbs*2^j/d):Nat):Int)) _ (fun w R Q=>yN (Zb1 _ _ _ Q.2.1 (nfit (mlc (uA (Za4 (uO _ _)) a0)) (by decide)))) fun o=>?_
 refine xqg 3 [(53,.v (.pointer (some ⟨g,0,none⟩)))] ?_
 refine xqj 54 (.int .i64 (bits:Int)) (fun w Q=>ZbA (t:=3) (x:=.tmp 53) (g:=g) (off:=0) (Blk.cell (Q.1.1.1.1) 0)) ?_
 refine xqg 1 [(55,.v (.bool (decide (((blen (z.natAbs*2^j/d):Nat):Int)>(bits:Int)))))] ?_
 refine xz (xe (Zaa ?_))
 refine yQ ((decide (((blen (z.natAbs*2^j/d):Nat):Int)>(bits:Int)))) (fun f0=>?_) fun f0=>?_
 ·have z0:=uC f0
  have e0:=ZpO (by omega) u H hk (by rw[c0];omega)
  refine Zac (Zab (xq 2 [yJ 57 (IntKind.i64.wrap (k+1))] [] ?_))
  rw[yW (k+1) (k+1) (by omega)]
  refine xq 1 [yJ 10 (k+1)] [] ?_
  refine xe (Zaa (Zbt (Zaw (ZbH ?_))))
  refine yP [(0,.v (.pointer (some ⟨g,0,none⟩))),yJ 3 e,(5,.p 5 0),(6,.p 6 0),(8,.p 8 0),(9,.p 9 0),yJ 10 ((k+1))] [(9,32,[.v (.bool false),.v (.slice A l c)]),yF 8 52 false none 0 0 0,(6,32,[.v (.bool a),.v (.slice B m f)]),(5,32,[.v (.bool b),.v (.slice A l c)])] (fun w=>((CB w g (bits:Int) 0∧Zai w (.agg #[.bool b,.slice A l c]) (z))∧Zai w (.agg #[.bool a,.slice B m f]) ((d:Int)))) (fun w Q=>⟨⟨Q.1.1.1.1.1,Q.1.1.1.1.2⟩,Q.1.1.1.2⟩) ?_
  exact Za5 (((rndK z.natAbs d bits-((k+1))).toNat)) (by have:=e0.2;omega) ⟨((k+1)),rfl,rfl,(Or.inr e0.1),rfl⟩
 have z0:=uD f0
 have G:=ZpP (by omega) u H hk (by rw[c0];omega)
 have q:=ZnW (n:=z.natAbs) (d:=d) (bits:=bits) (by omega) u H
 have o0:ml (rndM z.natAbs d bits)≤1048576:=by unfold rndM;rw[←G,E,F];exact uA (Zqe a0 (by decide)) (by omega)
 refine Zal (Zaa (Zac (Zab (xq 2 [eI2 58 P S T U,eI2 59 a B m f] [] ?_))))
 refine xqc 147 [vI2 P S T U,vI2 a B m f] 60 Zaz _ (fun w R Q=>(Zi9 P S T U a B m f (z.natAbs*2^j) (d) _ Q.1.1.2 Q.1.1.1.2 (by omega) (by omega) b0).mono (fun _ _ h=>ZaC (by rw[show Zb8 (z.natAbs*2^j) (d)=rndM z.natAbs d bits by unfold rndM;rw[←G,E,F]] at h;exact h))) fun o=>?_
 obtain⟨J0,V,W,X⟩:=o
 refine xq 2 [(15,.p 15 0)] [bI2 15 32 J0 V W X] ?_
 refine xe (Zaa (Zac (Zab (xq 4 [] [bI2 15 32 b V W X] ?_))))
 refine xe (Zaa (Zac (Zab (xr 5 [(0,.v (.pointer (some ⟨g,0,none⟩))),yJ 3 e,(5,.p 5 0),(6,.p 6 0),(8,.p 8 0),(9,.p 9 0),yJ 10 k,(64,.v (.pointer (some ⟨g,0,none⟩))),eI2 65 b V W X,yJ 68 (IntKind.i64.wrap (e+k))] [bI2 9 32 false A l c,yF 8 52 false none 0 0 0,bI2 6 32 a B m f,bI2 5 32 b A l c] ?_))))
 rw[yW (e+k) (e+k) (by omega)]
 refine xqc 135 [vI2 b V W X,.int .i64 (e+k)] 69 (shF ((e+k)+((tzn (rndM z.natAbs d bits):Nat):Int))) _ (fun w R Q=>(ZcO b V W X (sg b (rndM z.natAbs d bits)) ((e+k)) _ (by have h1:Zai _ (.agg #[.bool J0,.slice V W X]) _:=Q.2;have h2:=h1.spos (rQ _);rw[h2] at h1;exact h1.sgn q b) (Zux q) (by unfold ZaR;rw[Zci];exact o0) (by omega) (by omega)).mono (fun _ _ h=>ZdY (by rw[Zci,Zfl q] at h;exact h))) fun o=>?_
 obtain⟨K0,L0,M0,N0⟩:=o
 obtain⟨D,h0⟩:=yE (limR b (oddM (rndM z.natAbs d bits)) (((e+k)+((tzn (rndM z.natAbs d bits):Nat):Int))))
 refine Zbe 134 [.pointer (some ⟨g,0,none⟩), yV K0 L0 M0 N0 ((e+k)+((tzn (rndM z.natAbs d bits):Nat):Int))] (d:=70) (shF D.e) (fun _=>#[.int .i64 (bits:Int),.int .i64 D.err]) (fun y w=>Zai w (Zaz y) (sg D.s D.m)) (fun _=>True) (fun w Q=>Q.1.1.1.1.1.1.1) (vJ _) (Or.inr rfl) (fun w R Q=>yM Zcr (show Calls _ _ _ _ (RetC w g (bits:Int) D) by rw[←h0];exact Zcs g bits K0 L0 M0 N0 b (oddM (rndM z.natAbs d bits)) (((e+k)+((tzn (rndM z.natAbs d bits):Nat):Int))) _ Q.1.1.1.1.1.1.1 Q.2)) (fun _ _ _ _=>trivial) fun o=>?_
 obtain⟨A0,B0,C0,D0⟩:=o
 refine xr 1 [(0,.v (.pointer (some ⟨g,0,none⟩))),yJ 3 e,(5,.p 5 0),(6,.p 6 0),(8,.p 8 0),(9,.p 9 0),yJ 10 k] [bI2 9 32 false A l c,yF 8 52 A0 B0 C0 D0 D.e,bI2 6 32 a B m f,bI2 5 32 b A l c] ?_
 refine xe (Zaa (Zaf (Zbn (Zae (Zbn ?_)))))
 refine yR (yV A0 B0 C0 D0 D.e) fun w' R Q=>?_
 have t0:=hN.signb
 have u0:ZaK (decide (z<0)) z.natAbs d e bits=D:=by unfold ZaK;rw[uN (by omega),Zkq q,← h0,← G,← t0]
 rw[u0]
 exact⟨(A0,B0,C0,D0),rfl,Q.2,R,Q.1.2⟩
end Go.Proofs.YtklpdkpcocnglaaGreatDoor
