/-
 My texts.
-/
import Derived.RangeFuncBox
import Derived.RangeFuncCalls
import Derived.OwnWalkIn
import Derived.TacticsInMore
import Derived.LoopNIn
import Derived.LoopIn
import Derived.Test.YtdlgidnkmbklcaaGreatDoorZ21
set_option maxRecDepth 100000
set_option maxHeartbeats 8000000
namespace Go.Proofs.YtdlgidnkmbklcaaGreatDoor
open Go.RowKit Tryz
section
def bL (n k:Nat):List Nat:=(List.range k).map fun j=>n-1-j
theorem ZcU (n k:Nat):bL n (k+1)=bL n k ++ [n-1-k]:=by simp[bL,List.range_succ]
theorem Zjs (n k:Nat):(bL n k).length=k:=by simp[bL]
def KpS (Bs b:Nat) (A B:World):Prop:=B.heap[Bs]? = A.heap[Bs]? ∧ B.heap[b]? = A.heap[b]?
theorem KpS.refl (a b:Nat)(A:World):KpS a b A A:=⟨rfl,rfl⟩
theorem KpS.trans {a b:Nat}{A B C:World}(h:KpS a b A B)(k:KpS a b B C):KpS a b A C:=⟨k.1.trans h.1,k.2.trans h.2⟩
theorem KpS.cell1 {a b:Nat}{A B:World}(h:KpS a b A B)(j:Nat):B.cell? ⟨a,j,none⟩=A.cell? ⟨a,j,none⟩:=World.cell?_of_block h.1
theorem KpS.cell2 {a b:Nat}{A B:World}(h:KpS a b A B)(j:Nat):B.cell? ⟨b,j,none⟩=A.cell? ⟨b,j,none⟩:=World.cell?_of_block h.2
attribute [local go_sem] Oper.semAt_some
theorem Zks (n l h b cap:Nat)(xs:qN)(K:1≤n)(u:xs.length≤4294967296)(J w:List Nat→World→Prop)(E:∀ pre x W,J pre W→pre.length<xs.length→YieldAt Fence.wide (n-1) prog l #[.int .i64 ((x:Nat):Int),.int .u64 ((xs[x]?.getD 0:Nat):Int)] W fun e W' =>
 (e=.returned (.bool true)∧J (pre ++ [x]) W'∧KpS h b W W')∨(e=.returned (.bool false)∧w (pre ++ [x]) W'))(W:World)(o:W.cell? ⟨h,0,none⟩=some (.slice (some ⟨b,0,none⟩) xs.length cap))(F:∀ j,j<xs.length→W.cell? ⟨b,j,none⟩=some (.int .u64 ((xs[j]?.getD 0:Nat):Int)))(G:J [] W) :
 CallsIn Fence.wide n prog 183 #[.func (.yield l) #[] #[],.pointer (some ⟨h,0,none⟩)] W fun e W'=>(∃ v,e=.returned v) ∧
 ((∃ y,y=bL xs.length xs.length∧J y W')∨(∃ pre,(∃ k,k≤xs.length∧pre=bL xs.length k)∧w pre W')):=by
 refine callsIn_of_wp func183 rfl trivial ?_ rfl
 simp only[ntmps183,pE,sB,nJ,Nat.reduceAdd,Nat.reduceSub,Array.replicate_succ,Array.replicate_zero,List.push_toArray,List.append_toArray,qW,nI]
 gi_wp2
 gi_loopw [3] (fun i wr=>∃ k:Nat,k≤xs.length∧i=.int .i64 ((xs.length:Int)-1-k)∧J (bL xs.length k) wr∧KpS h b W wr)
  (fun i _=>(intOf i+1).toNat)
 case atStart=>exact⟨0,uT _,qS,G,KpS.refl _ _ _⟩
 case round =>
  obtain⟨k,L,rfl,c,a⟩:=hrel
  have H:=(a.cell1 0).trans o
  by_cases p:k<xs.length
  ·have d:wr.cell? ⟨b,xs.length-1-k,none⟩=some (.int .u64 ((xs[xs.length-1-k]?.getD 0:Nat):Int)):=(a.cell2 _).trans (F _ qO)
   obtain⟨M,z,m,A,B,C⟩:=E _ (xs.length-1-k) wr c (by rw[Zjs];exact p)
   obtain⟨j,q⟩:=yE (xs.length-1-k)
   rw[q] at d B C
   have D:(xs.length:Int)-1-(k:Int)=(j:Int):=qO
   rw[D]
   have I:j<xs.length:=qO
   obtain⟨xj,f⟩:=yE (xs[j]?.getD 0)
   rw[f] at d B
   clear f
   have r:=zh q
   clear q D
   gi_wp2
   refine C.mono ?_
   rintro e N (⟨rfl,s,t⟩|⟨rfl,g⟩)
   ·gi_wp2
    go_roundw
    case rel=>exact⟨k+1,qO,by have:=r.out;simp<;>omega,by rw[ZcU,r.out];exact s,a.trans t⟩
    case measure=>simp[intOf]<;>omega
   gi_wp2
   refine bodyPost_ret (results_none rfl _ _ _) rfl ?_
   exact⟨⟨_,rfl⟩,.inr ⟨_,⟨k+1,qO,by rw[ZcU,r.out]⟩,g⟩⟩
  obtain rfl:k=xs.length:=qO
  gi_wp2
  go_end0
  exact⟨⟨_,rfl⟩,.inl ⟨_,rfl,c⟩⟩
theorem ZgW (n a b cap:Nat)(xs:qN)(g:1≤n)(c:xs.length≤4294967296)(w:World)(h:a<w.heap.size)(i:b<w.heap.size)(d:w.cell? ⟨a,0,none⟩=some (.slice (some ⟨b,0,none⟩) xs.length cap))(m:∀ j,j<xs.length→w.cell? ⟨b,j,none⟩=some (.int .u64 ((xs[j]?.getD 0:Nat):Int))) :
 SeqStopsK Fence.wide n prog 183 #[.pointer (some ⟨a,0,none⟩)] (fun x:Nat=>#[Value.int .i64 (x:Int),Value.int .u64 ((xs[x]?.getD 0:Nat):Int)]) (KpS a b)
  (fun o=>o=bL xs.length xs.length) (fun e=>∃ k,k≤xs.length∧e=bL xs.length k) xs.length w:=fun l J q W f _ _ r s =>
 Zks n l a b cap xs g c J q r W ((f.cell (p:=⟨a,0,none⟩) h).trans d) (fun j t=>(f.cell (p:=⟨b,j,none⟩) i).trans (m j t)) s
theorem Zjt (a:qA)(len cap:Nat)(w:World) :
 yA 145 #[.slice a len cap] w fun e w'=>e=.returned (.func (.func 183) #[] #[.pointer (some ⟨w.heap.size,0,none⟩)])∧w'=w.alloc (.cells #[.slice a len cap] 83):=by
 go_enter func145,ntmps145
 go_wp2
 go_ret
 exact⟨rfl,rfl⟩
end
def ZbG (cs:List Nat) (j:Nat):List UInt8:=if j+1<cs.length then List.replicate (19-(Lib.decDigits (cs[j]?.getD 0)).length) 48 ++ Lib.decDigits (cs[j]?.getD 0) else Lib.decDigits (cs[j]?.getD 0)
def lJ (cs:List Nat) (l:List Nat):List UInt8:=l.flatMap (ZbG cs)
theorem ZcW (cs l:qN)(j:Nat):lJ cs (l ++ [j])=lJ cs l ++ ZbG cs j:=by simp[lJ]
theorem ZeT {cs:qN}(a:∀ c∈cs,c<10^19)(d:∃ l c,cs=l ++ [c]∧0<c):∀ k,k≤cs.length→lJ cs (bL cs.length k)=wP (chV (cs.drop (cs.length-k)))
 | 0,_=>by rw[Nat.sub_zero,vA (uF _)];rfl
 | k+1,hk=>by
  have e:=ZeT a d k qO
  rw[ZcU,ZcW,e]
  have h:=Zpo (cs:=cs) (i:=cs.length-(k+1)) qO rfl a d
  rw[show cs.length-1-k=cs.length-(k+1) by omega,h]
  unfold ZbG
  by_cases b:cs.length-(k+1)+1<cs.length
  ·rw[uZ b,uZ b,show cs.length-(k+1)+1=cs.length-k by omega]
  have:k=0:=qO
  subst this
  rw[uQ b,uQ b,Nat.sub_zero,vA (uF _)]
  rfl
theorem ZnX {cs:qN}{n:Nat}(h:ChR n cs 0)(b:0<n):lJ cs (bL cs.length cs.length)=Lib.decDigits n:=by
 have a:cs≠[]:=fun e=>by have:=h.eq;rw[e] at this;simp[chV] at this;omega
 rw[ZeT h.lt (h.top rfl a) _ (uF _),qM,sE]
 have:=h.eq
 rw[tV,tE] at this
 rw[←this,jG b]
theorem ZbV:∀ (k u:Nat),u<10^(k+1)→Lib.nDigits u≤k+1
 | 0,u,h=>by rw[Lib.nDigits_small (by simpa using h)];exact uF _
 | k+1,u,h=>by
  by_cases a:u<10
  ·rw[Lib.nDigits_small a];omega
  rw[Lib.nDigits_big a]
  have:=ZbV k (u/10) (by rw[uP] at h;omega)
  omega
theorem Zlg {c:Nat}(h:c<10^19):(Lib.decDigits c).length≤19:=by
 rw[Lib.decDigits_length]
 exact ZbV 18 c h
theorem ZnY {cs:qN}(h:∀ c∈cs,c<10^19)(j:Nat):(ZbG cs j).length≤19:=by
 have b:cs[j]?.getD 0<10^19:=by
  rcases vM j cs.length with a|a
  ·rw[uV a];exact h _ (tZ a)
  rw[vL a];decide
 have:=Zlg b
 unfold ZbG
 split
 ·rw[uN,tH];omega
 exact this
theorem ZhF {cs:qN}(h:∀ c∈cs,c<10^19):∀ l,(lJ cs l).length≤19*l.length
 | []=>by simp[lJ]
 | j :: l=>by
  have a:=ZhF h l
  have b:=ZnY h j
  have e:lJ cs (j :: l)=ZbG cs j ++ lJ cs l:=by simp[lJ]
  rw[e,uN,sB]
  omega
theorem ZaD (B b:Nat)(l:List UInt8)(s:List UInt8)(w:World)(h:Lib.IsBuilderF 240 5 B b (Lib.byteCells l) w)(a:l.length+s.length≤140737488355328)(c:B≤w.heap.size) :
 yA 147 #[.pointer (some ⟨b,0,none⟩),.string ⟨s.toArray⟩] w fun e w'=>e=.returned (.tuple #[.int .i64 (s.length:Int),.nilIface])∧(Lib.IsBuilderF 240 5 B b (Lib.byteCells (l ++ s)) w'∧Below B w w'∧Lib.OthersKept 5 (some b) w w'):=by
 have d:(⟨s.toArray⟩:ByteArray).size=s.length:=by rw[←zT,dV]
 refine (Any.Builder_WriteString_k (ρ:=lays105_ren) { lays105 with } Tryz.Builder_Extra_105 B b (Lib.byteCells l) ⟨s.toArray⟩ w h (by rw[Lib.byteCells_length,d];exact a) c).mono ?_
 rintro e w' ⟨rfl,f,i,j⟩
 refine⟨by rw[d],Or.inr ?_,i,j⟩
 rw[Lib.strCells_toArray] at f
 rw[show Lib.byteCells (l ++ s)=Lib.byteCells l ++ Lib.byteCells s by simp[Lib.byteCells]]
 exact f
theorem Zjv (c:Nat)(w:World)(d:c≤19) :
 yA 148 #[.string ⟨#[48]⟩,.int .i64 (c:Int)] w fun e w'=>e=.returned (.string ⟨(List.replicate c (48:UInt8)).toArray⟩)∧Ext w w':=by
 rcases vM c 2 with h|h
 ·have:c=0∨c=1:=qO
  rcases this with rfl|rfl
  ·refine (Tryz.strings_Repeat_zero _ w).mono ?_
   rintro e w' ⟨rfl,rfl⟩
   exact⟨rfl,Fr.refl _ _⟩
  refine (Tryz.strings_Repeat_one _ w).mono ?_
  rintro e w' ⟨rfl,rfl⟩
  exact⟨rfl,Fr.refl _ _⟩
 have a:(⟨#[48]⟩:ByteArray).size=1:=rfl
 refine (Tryz.strings_Repeat_main ⟨#[48]⟩ c w h qO (by rw[a];omega) (by rw[a];decide)).mono ?_
 rintro e w' ⟨rfl,b⟩
 refine⟨?_,Fr.ofBelow b⟩
 have:∀ n,Lib.repeatL [(48:UInt8)] n=List.replicate n 48:=by
  intro n;induction n with
  | zero=>rfl
  | succ n ih=>simp[Lib.repeatL,oJ] at ih ⊢;first|exact ih | (rw[ih])
 rw[show (⟨#[48]⟩:ByteArray).data.toList=[48] from rfl,this]
theorem Zjw {B b:Nat}{T e:TypeId}{bs:List Value}{W W':World}{row:Option Nat}(h:Lib.IsBuilderF T e B b bs W)(i:W.grownBy W' row)(j:∀ r,row=some r→∃ o:Obj,W.heap[r]? = some o∧o.isCells=false):Lib.IsBuilderF T e B b bs W':=by
 have a:∀ p,Lib.BuilderAtF T e B b p bs W→Lib.BuilderAtF T e B b p bs W':=by
  rintro p ⟨m,v,k,⟨u,c⟩,y⟩
  refine⟨m,v,(grownBy_keeps_cells i j k rfl).trans k,⟨u,?_⟩,y⟩
  rcases c with c|⟨g,d,f,z,k1,A,l,C⟩
  ·exact Or.inl c
  exact Or.inr ⟨g,d,f,z,k1,A,(grownBy_keeps_cells i j l rfl).trans l,C⟩
 exact h.elim (fun x=>Or.inl (a _ x)) (fun x=>Or.inr (a _ x))
theorem Zkt {B b:Nat}{T e:TypeId}{bs:List Value}{W W':World}(h:Lib.IsBuilderF T e B b bs W)(m:Ext W W'):Lib.IsBuilderF T e B b bs W':=by
 have j:∀ (k:Nat) (o:Obj),W.heap[k]? = some o→W'.heap[k]? = some o:=fun k o l=>by rw[m.block k (rY.1 l).1 (fun f=>f)];exact l
 have a:∀ p,Lib.BuilderAtF T e B b p bs W→Lib.BuilderAtF T e B b p bs W':=by
  rintro p ⟨r,v,u,⟨y,c⟩,z⟩
  refine⟨r,v,j _ _ u,⟨y,?_⟩,z⟩
  rcases c with c|⟨g,d,i,A,k1,C,D,E⟩
  ·exact Or.inl c
  exact Or.inr ⟨g,d,i,A,k1,C,j _ _ D,E⟩
 exact h.elim (fun x=>Or.inl (a _ x)) (fun x=>Or.inr (a _ x))
theorem Zib {B b:Nat}{T e:TypeId}{bs:List Value}{W:World}(h:Lib.IsBuilderF T e B b bs W):∃ c t d,W.heap[b]? = some (.cells c t d):=by
 rcases h with ⟨_,v,a,_⟩|⟨_,v,a,_⟩<;>exact⟨_,_,_,a⟩
theorem ZeU {B n:Nat}{w W W':World}{row:Option Nat}(h:Below B w W)(d:B≤w.heap.size)(a:W.grownBy W' row)(b:∀ r,row=some r→n≤r)(f:B≤n):Below B w W':=by
 refine⟨a.os.trans h.os,a.tape.trans h.tape,a.output.trans h.output,uD h.size a.size,fun k c=>?_⟩
 rw[a.block k (by have:=h.size;omega) (fun e=>by have:=b k e.symm;omega)]
 exact h.block k c
theorem Zq1 {e:TypeId}{b:Nat}{w w':World}(h:Lib.OthersKept e (some b) w w')(d:w.heap.size≤w'.heap.size)(f:∃ c t fz,w.heap[b]? = some (.cells c t fz)):KeepsOthers w w':=by
 refine⟨d,fun k o a ho=>h k o a ?_ ?_⟩
 ·intro e
  injection e with e
  obtain⟨c,t,fz,i⟩:=f
  rw[e,i] at a
  injection a with a
  rw[←a] at ho
  cases ho
 rintro c fz rfl
 cases ho
theorem Fr.others {w w':World}(h:Ext w w'):KeepsOthers w w':=⟨h.size,fun k o a _=>by rw[h.block k (rY.1 a).1 (fun f=>f)];exact a⟩
theorem ZbH {e:TypeId}{b k:Nat}{o:Obj}{w w':World}(h:Lib.OthersKept e (some b) w w')(a:w.heap[k]? = some o)(d:k≠b)(f:∀ c fz,o≠.cells c e fz):w'.heap[k]? = some o :=
 h k o a (fun e=>by injection e with e;exact d e) f
structure DcJ (w:World) (q g c2:Nat) (cs:List Nat) (t:List UInt8) (W:World):Prop where
 below:Below w.heap.size w W
 size:q+2≤W.heap.size
 bd:Lib.IsBuilderF 240 5 w.heap.size q (Lib.byteCells t) W
 box:Blk 83 W w.heap.size #[.slice (some ⟨g,0,none⟩) cs.length c2]
 bs:Blk 83 W (q+1) #[.slice (some ⟨g,0,none⟩) cs.length c2]
 row:Own .u64 207 W g cs
section
variable {w W W':World} {q g c2 n:Nat} {cs:List Nat} {t s:List UInt8} {row:Option Nat}
theorem DcJ.kept (h:DcJ w q g c2 cs t W)(a:W.grownBy W' row)(b:∀ r,row=some r→n≤r∧∃ o:Obj,W.heap[r]? = some o∧o.isCells=false)(d:w.heap.size≤n):DcJ w q g c2 cs t W':=by
 obtain⟨tail,f,c⟩:=h.row
 exact⟨ZeU h.below (uF _) a (fun r e=>(b r e).1) d,uD h.size a.size,Zjw h.bd a (fun r e=>(b r e).2),(grownBy_keeps_cells a (fun r e=>(b r e).2) h.box rfl).trans h.box,(grownBy_keeps_cells a (fun r e=>(b r e).2) h.bs rfl).trans h.bs,tail,f,(grownBy_keeps_cells a (fun r e=>(b r e).2) c rfl).trans c⟩
theorem DcJ.step (h:DcJ w q g c2 cs t W)(Q:Ext W W'):DcJ w q g c2 cs t W'∧KeepsOthers W W'∧KpS (q+1) g W W':=by
 have a:=h.size
 exact⟨⟨((Fr.ofBelow h.below).trans Q).toBelow,uD a Q.size,Zkt h.bd Q,h.box.ext Q,h.bs.ext Q,h.row.ext Q⟩,Fr.others Q,Q.block _ qO (fun f=>f),Q.block _ h.row.lt (fun f=>f)⟩
theorem DcJ.write (h:DcJ w q g c2 cs t W)(p:w.heap.size<q)(k:g<q)(l:Lib.IsBuilderF 240 5 w.heap.size q (Lib.byteCells (t ++ s)) W')(b:Below w.heap.size W W')(a:Lib.OthersKept 5 (some q) W W') :
 DcJ w q g c2 cs (t ++ s) W'∧KeepsOthers W W'∧KpS (q+1) g W W':=by
 obtain⟨tail,m,d⟩:=h.row
 have o:W'.heap[w.heap.size]? = some _:=ZbH a h.box qO (fun c f e=>by injection e with _ e;cases e)
 have i:W'.heap[q+1]? = some _:=ZbH a h.bs qO (fun c f e=>by injection e with _ e;cases e)
 have j:W'.heap[g]? = some _:=ZbH a d qO (fun c f e=>by injection e with _ e;cases e)
 exact⟨⟨h.below.trans b,uD h.size b.size,l,o,i,tail,m,j⟩,Zq1 a b.size (Zib h.bd),i.trans h.bs.symm,j.trans d.symm⟩
end
section
theorem Zez {P:Program}{g:Array Oper}{o:Oper}{a:Act}{w:World}{K:Act→World→Prop}{Q:Exit→Act→World→Prop}{E:Prop}(l:o.guard=none)(s x:Operand)(t:TypeId)(p:o.op=Op.call { callee:=Callee.builtin Builtin.append,args:=#[s,x],argTypes:=#[t,t] })(e:TypeId)(k:IntKind)(bytes:Nat)(q:P.underlying t=some (.slice e))(f:(P.info? e).map (fun i=>(i.zero,i.size,i.bytes))=some (some (.int k 0),1,bytes))(A X:qA)(n m cap c:Nat)(r:a.eval s=.slice A n cap)(u:a.eval x=.slice X m c)(xs news:qN)(v:xs.length=n)(y:news.length=m)(z:Buf k e w A cap xs)(B:zH k w X news)(j:n+m≤maxLen)(d:(n+m)*bytes≤140737488355328)(C:∀ A' cap' w',Buf k e w' A' cap' (xs ++ news)→Fr (xQ A) w w'→(∀ b,xQ A' b→xQ A b∨b=w.heap.size)→K (a.put o.dst (.slice A' (n+m) cap')) w') :
 if Region.wanted o (yielded g a.tmps)=true then Oper.wp P o a w K Q else E:=by
 have D:Region.wanted o (yielded g a.tmps)=true:=by simp[Region.wanted,l]
 rw[uZ D]
 obtain⟨A',cap',w',h,F,G,H⟩:=Za3 (P:=P) w t o.type e k bytes q f A X n m cap c xs news v y z B j d
 unfold Oper.wp execOp
 simp only[p,resolve,invoke,builtin,Sem.run_bind,Sem.run_pure,Result.andThen_ok,List.map_toArray,List.map_cons,List.map_nil,r,u,h]
 exact C _ _ _ F G H
theorem ChR.bound {n r:Nat}{cs:qN}(h:ChR n cs r)(a:0<r):cs.length<blen n:=by
 refine cK.2 ?_
 have b:2^cs.length≤(10^19)^cs.length:=sZ qD _
 have c:(10^19)^cs.length*1≤(10^19)^cs.length*r:=uI _ a
 have:=h.eq
 omega
structure DcI (w wr:World) (b bx n:Nat) (rs cs:List Nat) (A:Option Addr) (c:Nat):Prop where
 ext:Ext w wr
 own:Own .u64 207 wr b rs
 dig:Dig W64 rs
 trim:Trim rs
 ch:ChR n cs (val W64 rs)
 box:Blk 83 wr bx #[.slice A cs.length c]
 buf:Buf .u64 207 wr A c cs
 news:∀ i,xQ A i→w.heap.size≤i∧i≠b∧i≠bx
theorem Zjx (A:qA)(l c:Nat)(w:World)(a:zL w (.slice A l c) 0):yA 102 #[.slice A l c] w (Zbh w (Lib.decDigits 0)):=by
 have b:l=0:=a.len0
 subst b
 go_enter func102,ntmps102
 go_wp2
 go_ret
 exact⟨by rw[Lib.decDigits_one qD];rfl,Fr.refl _ _⟩
attribute [local go_sem] Oper.semAt_some
theorem Zku (A:qA)(xs:qN)(c n:Nat)(w:World)(hg:Glob w)(hn:0<n)(hX:zH .u64 w A xs)(hd:Dig W64 xs)(ht:Trim xs)(hv:val W64 xs=n)(hl:xs.length≤1000000)(h0:0<xs.length) :
 yA 102 #[.slice A xs.length c] w (Zbh w (Lib.decDigits n)):=by
 have E1:blen n≤64000000:=by
  have y:=cL n
  have z:=xR hd ht
  rw[hv] at z
  omega
 have HG:=zh hg
 have HX:=zh hX
 have Hd:=zh hd
 have Ht:=zh ht
 have Hv:=zh hv
 clear hg hX hd ht hv
 refine (callsIn_wide (n:=3)).1 ?_
 refine callsIn_of_wp_marks func102 rfl trivial ?_ rfl
 simp only[ntmps102,pE,sB,nJ,Nat.reduceAdd,Nat.reduceSub,Array.replicate_succ,Array.replicate_zero,List.push_toArray,List.append_toArray,qW,nI]
 refine wpIn_wide.2 ?_
 go_wp2_with fail
 refine (Zga A xs c _ (HX.out.ext ((Fr.refl _ _).alloc _)) qO h0).mono ?_
 rintro e w1 ⟨b,Q,rfl,hb,w0,C,hO⟩
 have x0:=zh C
 have HO:=zh hO
 have F1:w.heap.size<b:=by simp at hb;omega
 have d:Hid (DcI w w1 b w.heap.size n xs [] none 0):=⟨((Fr.refl _ _).alloc _).trans x0.out,HO.out,Hd.out,Ht.out,by rw[Hv.out];exact ChR.start n,(Blk.new _ _ _).ext x0.out,Buf.nil,fun i hi=>by obtain⟨a,ha,_⟩:=hi;cases ha⟩
 clear C hO hb
 go_wp2
 go_loopw [4] (fun v4 wr=>∃ (rs cs:List Nat) (A2:Option Addr) (s:Nat),v4=.slice (some ⟨b,0,none⟩) rs.length Q∧rs.length≤Q∧rs.length≤1000000∧Hid (DcI w wr b w.heap.size n rs cs A2 s))
  (fun _ wr=>match wr.cell? ⟨w.heap.size,0,none⟩ with | some (.slice _ m _)=>64000001-m | _=>0)
 case atStart=>exact⟨xs,[],none,0,rfl,w0,hl,d⟩
 case round =>
  obtain⟨rs,cs,A2,s,rfl,G1,H1,d⟩:=hrel
  by_cases Y:0<rs.length
  ·have f0:0<val W64 rs:=aF d.out.trim zP (fun e=>by rw[e] at Y;simp at Y)
   have c1:cs.length<64000000:=by have:=d.out.ch.bound f0;omega
   have Z:wr.cell? ⟨w.heap.size,0,none⟩=some (.slice A2 cs.length s):=d.out.box.cell 0
   have d1:=d.out.box.frozen 0
   obtain⟨r,hr⟩:=yE (val W64 rs%10000000000000000000)
   have Hr:=zh hr
   have e1:=zh f0
   clear hr f0
   go_wp2_with fail
   first | (go_region_law (first
    | (
     refine Zez rfl (.tmp 19) (.tmp 22) 83 rfl 207 .u64 8 underlying83 eL A2 (some ⟨w2.heap.size,0,none⟩) cs.length 1 s 1 rfl rfl cs [r] rfl rfl HBuf.out HSh.out (by simp only[maxLen];omega) qO ?_
     intro A3 c3 w3 y0 g0 z0
     have R:=HBox.out.fr g0 (fun h=>(d.out.news _ h).2.2 rfl)
     have f1:=zh R
     have I1:=R.cell 0
     have J1:=R.frozen 0
     have g1:=zh y0
     have A0:=zh g0
     have i1:=zh z0
     clear R y0 g0 z0)
    | (
     go_simp
     go_at_call 144
     refine (Zbz b Q rs 10000000000000000000 _ d.out.own.drew qO d.out.dig qD (by rw[zR];decide)).mono ?_
     rintro e w2 ⟨qs,rfl,hq,T,E⟩
     rw[Hr.out]
     have k:=d.out.box.fr (Fr.undrew T) (fun e=>qO)
     have K1:=k.cell 0
     have B1:=(k.alloc (.cells #[.int .u64 (r:Int)] 207)).cell 0
     have HBox:=zh (k.alloc (.cells #[.int .u64 (r:Int)] 207))
     have HBuf:=zh ((d.out.buf.fr (Fr.undrew T) (fun i hi e=>(d.out.news i hi).2.1 e)).ext ((Fr.refl _ w2).alloc (.cells #[.int .u64 (r:Int)] 207)))
     have HSh:Hid (zH .u64 (w2.alloc (.cells #[.int .u64 (r:Int)] 207)) (some ⟨w2.heap.size,0,none⟩) [r]):=(Own.new w2 207 .u64 [r] []).shows0
     have B0:=zh E
     have C0:=zh T
     have Hq:=zh hq
     clear k E T hq)))|skip
   all_goals
    have D0:=((B0.out.alloc (.cells #[.int .u64 (r:Int)] 207)).fr A0.out (fun h=>(d.out.news _ h).2.1 rfl)).far (p:=⟨w.heap.size,0,none⟩) (by show b≠w.heap.size;omega) (.slice A3 (cs.length+1) c3)
    have E0:Ext w (w3.setCell ⟨w.heap.size,0,none⟩ (.slice A3 (cs.length+1) c3)) :=
     (((d.out.ext.next (Fr.undrew C0.out) (fun i hi e=>qO)).alloc (.cells #[.int .u64 (r:Int)] 207)).next A0.out (fun i hi h=>by have:=(d.out.news i h).1;omega)).setCell (p:=⟨w.heap.size,0,none⟩) (Or.inr (uF _)) _
    have i0:∀ i,xQ A3 i→w.heap.size≤i∧i≠b∧i≠w.heap.size:=fun i hi=>by
     rcases i1.out i hi with h|h
     ·exact d.out.news i h
     have y:=d.out.ext.size
     have z:wr.heap.size≤w2.heap.size:=C0.out.size
     have P:=d.out.own.lt
     have h4:=B0.out.lt
     have h5:=d.out.box.lt
     rw[World.size_alloc] at h
     omega
    have F:=g1.out.fr (S:=fun i=>i=w.heap.size) ((show Fr (fun i=>i=w.heap.size) w3 w3 from Fr.refl _ _).setCell (p:=⟨w.heap.size,0,none⟩) (Or.inl rfl) (.slice A3 (cs.length+1) c3)) (fun i hi e=>(i0 i hi).2.2 e)
    have a0:Blk 83 (w3.setCell ⟨w.heap.size,0,none⟩ (.slice A3 (cs.length+1) c3)) w.heap.size #[.slice A3 (cs.length+1) c3]:=f1.out.set_ 0 _
    have F0:=zh D0
    have j1:=zh E0
    have k1:=zh i0
    have j0:=zh F
    have G0:=zh a0
    have H0:=zh Z
    have L1:rs.length=qs.length:=Hq.out.1.symm
    clear D0 E0 i0 F a0 Z d1
    go_wp2_with fail
    refine (ZdH _ qs Q _ F0.out.shows0 qO qO).mono ?_
    rintro e w5 ⟨rfl,G⟩
    have H:=G0.out.ext G
    have b0:=H.cell 0
    have I0:=zh b0
    have k0:=d.out.ch.step e1.out
    rw[show (10:Nat)^19=10000000000000000000 from rfl,Hr.out] at k0
    have l1:Hid (DcI w w5 b w.heap.size n (wL qs) (cs ++ [r]) A3 c3) :=
     ⟨j1.out.trans G,(F0.out.take _).ext G,iD Hq.out.2.1,iG qs,by rw[lC,Hq.out.2.2];exact k0,by rw[uN,rR];exact H,j0.out.ext G,k1.out⟩
    have l0:=zh (wM qs)
    have J0:=zh (iY qs qs.length)
    clear G H b0 k0
    go_wp2
    go_roundw
    case rel=>exact⟨wL qs,cs ++ [r],A3,c3,by rw[l0.out],by have:=J0.out;rw[l0.out];omega,by have:=J0.out;rw[l0.out];omega,l1⟩
    case measure=>rw[I0.out,H0.out];simp only[List.getElem?_toArray];first|omega | (simp;omega)
  obtain rfl:rs=[]:=qQ qO
  have t:=d.out.ch
  rw[eQ] at t
  have m0:cs≠[]:=fun e=>by have:=t.eq;rw[e] at this;simp[chV] at this;omega
  have M1:=rO.2 m0
  have c1:cs.length≤64000000:=by
   have y:2^(cs.length-1)≤n:=by
    have h:=t.eq
    obtain⟨l,c0,rfl,m1⟩:=t.top rfl m0
    rw[ZcV] at h
    have z:(10^19)^l.length*1≤(10^19)^l.length*c0:=uI _ m1
    have P:2^l.length≤(10^19)^l.length:=sZ qD _
    rw[uN,rR,tN]
    omega
   have:=cK.2 y
   omega
  have n0:=zh (ZnX t hn)
  have K0:=zh t.lt
  obtain⟨g,rfl,o0,n1,_,_⟩:=d.out.buf.open_ m0
  have o1:=zh o0
  have U:=d.out.box
  have N1:=d.out.news g ⟨_,rfl,rfl⟩
  have p1:=zh U
  have HE:=zh d.out.ext
  have O1:=U.cell 0
  have v:w.heap.size<wr.heap.size:=U.lt
  have I:=o0.lt
  clear t o0 n1 U d
  go_wp2_with fail
  refine (Zjt (some ⟨g,0,none⟩) cs.length s _).mono ?_
  rintro e wS ⟨rfl,rfl⟩
  go_wp2_with fail
  have P1:Below w.heap.size w wr:=HE.out.toBelow
  have k:Blk 83 ((wr.alloc (.cells #[.pointer none,Ξ] 240)).alloc (.cells #[.slice (some ⟨g,0,none⟩) cs.length s] 83)) w.heap.size #[.slice (some ⟨g,0,none⟩) cs.length s]:=(p1.out.alloc _).alloc _
  have q1:Blk 240 ((wr.alloc (.cells #[.pointer none,Ξ] 240)).alloc (.cells #[.slice (some ⟨g,0,none⟩) cs.length s] 83)) wr.heap.size #[.pointer none,Ξ]:=(Blk.new wr _ _).alloc _
  have L0:Blk 83 ((wr.alloc (.cells #[.pointer none,Ξ] 240)).alloc (.cells #[.slice (some ⟨g,0,none⟩) cs.length s] 83)) (wr.heap.size+1) #[.slice (some ⟨g,0,none⟩) cs.length s]:=by
   have:=Blk.new (wr.alloc (.cells #[.pointer none,Ξ] 240)) 83 #[.slice (some ⟨g,0,none⟩) cs.length s]
   rwa [World.size_alloc] at this
  have d0:Own .u64 207 ((wr.alloc (.cells #[.pointer none,Ξ] 240)).alloc (.cells #[.slice (some ⟨g,0,none⟩) cs.length s] 83)) g cs:=(o1.out.alloc _).alloc _
  have r1:Below w.heap.size w ((wr.alloc (.cells #[.pointer none,Ξ] 240)).alloc (.cells #[.slice (some ⟨g,0,none⟩) cs.length s] 83)):=((HE.out.alloc _).alloc _).toBelow
  have Q1:((wr.alloc (.cells #[.pointer none,Ξ] 240)).alloc (.cells #[.slice (some ⟨g,0,none⟩) cs.length s] 83)).heap.size=wr.heap.size+2:=by rw[World.size_alloc,World.size_alloc]
  generalize ((wr.alloc (.cells #[.pointer none,Ξ] 240)).alloc (.cells #[.slice (some ⟨g,0,none⟩) cs.length s] 83))=wS at *
  refine (wpIn_wide (n:=3)).1 ?_
  refine wpIn_rangeFunc_ownF (n:=3) rfl qD (gf:=183) (lb:=#[.pointer (some ⟨wr.heap.size+1,0,none⟩)]) rfl trivial (enters_of func183 qK rfl)
   (ZgW 2 (wr.heap.size+1) g s cs qD qO wS qO qO (L0.cell 0) (fun j hj=>d0.cell hj)) KpS.trans (fun W q o o' hq _ _ _=>⟨World.putObj_heap_other qO,World.putObj_heap_other qO⟩) (Below.refl _ _) (fun _=>rfl)
   (fun f W=>DcJ w wr.heap.size g s cs (lJ cs f) W) (fun _ _ _=>False)
   (fun f A B row h hg hr=>h.kept hg hr qO) (fun _ _ _ _ _ h _ _=>h)
   ⟨r1,qO,Or.inl ⟨qO,Ξ,q1,⟨rfl,Or.inl ⟨rfl,rfl⟩⟩,by simp[Value.ownBlock]⟩,k,L0,d0⟩ ?a1 ?assign ?body ?done ?stop
  case assign =>
   intro l x W K hK
   gi_wp2
   exact hK
  case stop =>
   rintro D c f W _ _ h _
   exact h.elim
  case body =>
   rintro l f x W J C1
   obtain⟨u,hu⟩:=yE (cs[x]?.getD 0)
   have L:u<10^19:=by
    rw[←hu]
    rcases vM x cs.length with hj|hj
    ·rw[uV hj];exact K0.out _ (tZ hj)
    rw[vL hj];decide
   rw[hu]
   have s1:=Zlg L
   have M0:=ZgV u W (HG.out.ext (Fr.ofBelow J.below)) (by rw[zR];exact qL L qD)
   have R1:=ZhF K0.out f
   have N0:=J.below.size
   have HU:=zh hu
   have t1:=zh M0
   have HJ:=zh J
   have u1:=J.box.cell 0
   clear hu L M0 J
   obtain⟨D,hD⟩:=yE (Lib.decDigits u)
   rw[hD] at s1
   gi_wp2_with fail
   refine⟨trivial,((callsIn_wide.2 t1.out).inRound l).mono ?_⟩
   rintro e W1 ⟨rfl,C⟩
   rw[hD]
   have HD:=zh hD
   obtain⟨p0,O0,P0⟩:=HJ.out.step C
   have D1:=p0.box.cell 0
   have V:=zh p0
   have Q0:=zh O0
   have R0:=zh P0
   clear p0 O0 P0 C hD u1
   by_cases hx:x+1<cs.length
   ·gi_wp2_with fail
    rw[show (19:Int)-(D.length:Int)=((19-D.length:Nat):Int) by omega]
    refine⟨trivial,((callsIn_wide.2 (Zjv (19-D.length) W1 qO)).inRound l).mono ?_⟩
    rintro e W2 ⟨rfl,S0⟩
    obtain⟨T0,X,U0⟩:=V.out.step S0
    have q0:=zh T0
    have v1:=zh (Q0.out.trans X)
    have x1:=zh (R0.out.trans U0)
    clear T0 X U0 S0
    gi_wp2_with fail
    refine⟨trivial,((callsIn_wide.2 (ZaD w.heap.size wr.heap.size (lJ cs f) (List.replicate (19-D.length) 48) W2 q0.out.bd (by rw[tH];omega) q0.out.below.size)).inRound l).mono ?_⟩
    rintro e W3 ⟨rfl,y,z,P⟩
    obtain⟨V0,W0,X0⟩:=q0.out.write v I y z P
    have r0:=zh V0
    have y1:=zh (v1.out.trans W0)
    have z1:=zh (x1.out.trans X0)
    clear V0 W0 X0 y z P
    gi_wp2_with fail
    refine⟨trivial,((callsIn_wide.2 (ZaD w.heap.size wr.heap.size (lJ cs f ++ List.replicate (19-D.length) 48) D W3 r0.out.bd (by rw[uN,tH];omega) r0.out.below.size)).inRound l).mono ?_⟩
    rintro e W4 ⟨rfl,y,z,P⟩
    obtain⟨M,N,O⟩:=r0.out.write v I y z P
    have s0:=zh M
    have t0:=zh (y1.out.trans N)
    have u0:=zh (z1.out.trans O)
    clear M N O y z P
    gi_wp2
    refine⟨t0.out,u0.out,?_⟩
    show DcJ w wr.heap.size g s cs (lJ cs (f ++ [x])) W4
    rw[ZcW,ZbG,uZ hx,HU.out,HD.out,← vU]
    exact s0.out
   gi_wp2_with fail
   refine⟨trivial,((callsIn_wide.2 (ZaD w.heap.size wr.heap.size (lJ cs f) D W1 V.out.bd qO V.out.below.size)).inRound l).mono ?_⟩
   rintro e W4 ⟨rfl,y,z,P⟩
   obtain⟨M,N,O⟩:=V.out.write v I y z P
   have s0:=zh M
   have t0:=zh (Q0.out.trans N)
   have u0:=zh (R0.out.trans O)
   clear M N O y z P
   gi_wp2
   refine⟨t0.out,u0.out,?_⟩
   show DcJ w wr.heap.size g s cs (lJ cs (f ++ [x])) W4
   rw[ZcW,ZbG,uQ hx,HU.out,HD.out]
   exact s0.out
  case done =>
   rintro D ys W hD rfl J hK
   have v0:=J.bd
   rw[n0.out] at v0
   have Y0:=Tryz.Builder_String_any_k w.heap.size wr.heap.size (Lib.decDigits n) W v0 J.below.size
   have N0:=J.below.size
   have A1:=zh Y0
   have HJ:=zh J
   clear v0 Y0 J
   go_wp2_with fail
   refine A1.out.mono ?_
   rintro e W2 ⟨rfl,_,Z0,E⟩
   have X:W2.heap[D]? = some (.deferred (some [])):=ZbH E hK qO (fun c fz e=>by cases e)
   have e0:=ZeU (HJ.out.below.trans Z0) (uF _) (grownBy_putObj' W2 D (.deferred none)) (n:=wS.heap.size) (fun r e=>by cases e;exact hD) qO
   have b1:=zh e0
   clear e0 Z0 E
   go_wp2
   refine⟨qS,.inl ⟨_,_,rfl,run_takeDeferred X,?_⟩⟩
   exact⟨_,results_tmp rfl _ _ _,rfl,Fr.ofBelow b1.out⟩
theorem Zjy (A:qA)(l c n:Nat)(w:World)(j:Glob w)(b:zL w (.slice A l c) n)(d:wl n≤1000000):yA 102 #[.slice A l c] w (Zbh w (Lib.decDigits n)):=by
 rcases uJ n with rfl|k
 ·exact Zjx A l c w b
 obtain⟨o,f,p,e,q,m,g,i,a⟩:=b
 injection e with e1 e2 e3
 subst e1 e2 e3
 rw[←a,← xR g i] at d
 refine Zku A f c n w j k m g i a d ?_
 rcases uJ f.length with h|h
 ·rw[qQ h] at a;simp at a;omega
 exact h
end
def ldR (l:List UInt8) (x:Int):FR:=if fvB l x=true then ⟨(xE l).1,zK (xE l).2,x,0⟩ else ⟨false,0,0,0⟩
def shLd (v:Bool) (r:FR) (x:ShN):Value:=.tuple #[yV r.s x.1 x.2.1 x.2.2 r.e,.bool v]
def Zip (w:World) (v:Bool) (r:FR) (e:Ending) (w':World):Prop:=∃ x:ShN,e=.returned (shLd v r x)∧zL w' (wE x) r.m∧Ext w w'
theorem Zlh {w w':World}{e:Ending}{v:Bool}{r:FR}(h:Zip w v r e w'):lG (shLd v r) (fun x w=>zL w (wE x) r.m) w e w':=by
 obtain⟨x,rfl,a,Q⟩:=h
 exact⟨x,rfl,Q,boxn Q (fun S b c d=>a.nrb c d)⟩
theorem Zq2 (n:Nat):(Lib.decDigits n).length≤20*wl n+1:=by
 rw[Lib.decDigits_length]
 refine ZbV (20*wl n) n ?_
 have b:=Zd8 n
 have a:W64^wl n≤(10^20)^wl n:=sZ (by rw[zR];decide) _
 rw[←rU] at a
 have c:10^(20*wl n)≤10^(20*wl n+1):=vE qD qO
 omega
theorem Zfl {l:List UInt8}{x:Int}(h:fvB l x=true) : -1048576≤x∧x≤1048576∧(xE l).2.all zX=true∧((xE l).1=true→0<zK (xE l).2):=by
 unfold fvB at h
 by_cases a:l=[48]
 ·rw[uZ a] at h
  have:=uB h
  subst a
  exact⟨qO,qO,qD,fun h=>by cases h⟩
 rw[uQ a] at h
 obtain⟨_,_,b,c,d⟩:=uB h
 exact⟨b.1,b.2,c,fun _=>qO⟩
theorem ZcY (l:List UInt8):(xE l).2.length≤l.length:=by
 unfold xE;split
 ·simp
 exact uF _
theorem ZsF {l:List UInt8}{x:Int}(c:l.length≤100000):wl (ldR l x).m≤100000:=by
 unfold ldR
 split
 ·rename_i h
  have a:=Zfl h
  have b:=kJ _ a.2.2.1
  have d:=ZcY l
  exact Zbc b qO
 show (0:Nat)≤100000;decide
theorem ZhG (s:ByteArray)(x:Int)(w:World)(l:(bytes s).length≤100000) :
 yA 96 #[yS s x] w (Zip w (fvB (bytes s) x) (ldR (bytes s) x)):=by
 refine zV (Φ:=fun w=>True) func96 rfl qK (fun w' t=>trivial) ?_
 refine zD ?_
 by_cases a:fvB (bytes s) x=true
 ·refine zC (xq 3 [Δ 1,Δ 2,yB 3 false] [yF 2 86 false none 0 0 0,yG 1 61 s x] ?_)
  refine yZ (zD (yY (xq 1 [(6,.v (yS s x))] [] ?_)))
  refine xqc _ _ 7 (fun _:Unit=>.bool true) _ (fun w R Q=>(ZaP s x _ qO).mono (fun _ _ h=>zI h (by rw[a]))) fun m=>?_
  refine xq 1 [yB 8 false] [] ?_
  refine yZ (xb (zG (zB (zD (zD ?_)))))
  by_cases b:bytes s=[48]
  ·refine zC (xq 3 [yB 12 ((s:ByteArray).toList == (⟨#[48]⟩:ByteArray).toList)] [] ?_)
   rw[ZgU b]
   refine yZ (xa (yY (xq 3 [yB 3 true] [] ?_)))
   refine yZ (zJ (zM ?_))
   refine yR (.tuple #[yV false none 0 0 0,.bool true]) fun w' R Q=>?_
   have n:x=0:=by have h:=a;unfold fvB at h;rw[uZ b] at h;exact uB h
   have j:ldR (bytes s) x=⟨false,0,0,0⟩:=by unfold ldR;rw[uZ a,b,n];rfl
   rw[a,j]
   exact⟨(none,0,0),rfl,zL.zero _,R⟩
  refine zC (xq 3 [yB 12 ((s:ByteArray).toList == (⟨#[48]⟩:ByteArray).toList)] [] ?_)
  rw[Zch b]
  refine yZ (xb (zG (zB (yY (xq 2 [yT 16 s] [] ?_)))))
  refine xqc _ _ 17 Zgm _ (fun w R Q=>yM ZdW (ZdX s _)) fun⟨r,neg⟩=>?_
  refine xq 5 [yB 4 neg,yT 5 r] [] ?_
  refine yZ (zD ?_)
  refine SXc.know (p:=xE (bytes s)=(neg,bytes r)) (fun w _ Q=>Q.2) fun k=>?_
  have i:=Zfl a
  rw[k] at i
  have f:(bytes r).all zX=true:=i.2.2.1
  have g:=ZcY (bytes s)
  rw[k] at g
  have o:r.size≤100000:=by rw[←zT];exact uD g l
  have q:wl (zK (bytes r))≤100000:=Zbc (kJ _ f) (uD g l)
  refine yO 6 zQ ?_
  refine xqg 2 [yB 20 neg,yT 21 r] ?_
  refine xqd _ _ 22 wE _ (fun w R Q=>yM xY (ZcX r _ (zK (bytes r)) f rfl qO qO)) fun⟨c,d,e⟩=>?_
  refine xqg 3 [(25,.v (yV neg c d e x))] ?_
  refine xz (xq 2 [yB 3 true] [yF 2 86 neg c d e x] ?_)
  refine yZ (zJ ?_)
  refine yR (.tuple #[yV neg c d e x,.bool true]) fun w' R Q=>?_
  rw[a,show ldR (bytes s) x=⟨neg,zK (bytes r),x,0⟩ by unfold ldR;rw[uZ a,k]]
  exact⟨(c,d,e),rfl,Q.2,R⟩
 refine zC (xq 3 [Δ 1,Δ 2,yB 3 false] [yF 2 86 false none 0 0 0,yG 1 61 s x] ?_)
 refine yZ (zD (yY (xq 1 [(6,.v (yS s x))] [] ?_)))
 refine xqc _ _ 7 (fun _:Unit=>.bool false) _ (fun w R Q=>(ZaP s x _ qO).mono (fun _ _ h=>zI h (by rw[qU.2 a]))) fun m=>?_
 refine xq 1 [yB 8 true] [] ?_
 refine yZ (xa (yY (xq 3 [yB 3 false] [] ?_)))
 refine yZ (zJ (zM ?_))
 refine yR (.tuple #[yV false none 0 0 0,.bool false]) fun w' R Q=>?_
 rw[qU.2 a,show ldR (bytes s) x=⟨false,0,0,0⟩ from uQ a]
 exact⟨(none,0,0),rfl,zL.zero _,R⟩
theorem ZbW (s:Bool)(A:qA)(l c m:Nat)(e:Int)(w:World)(f:Glob w)(g:zL w (.slice A l c) m)(j:wl m≤1000000)(i:s=true→0<m) :
 yA 60 #[yV s A l c e] w (RetV w (yS ⟨(Lib.itoa (sg s m)).toArray⟩ e)):=by
 refine zV (Φ:=fun w=>(Glob w∧zL w (.slice A l c) (m))) func60 rfl qK (fun w' d=>⟨f.ext d,g.ext d⟩) ?_
 refine yY (xq 2 [Δ 1,Δ 2] [yG 2 61 ⟨#[]⟩ 0,yF 1 86 s A l c e] ?_)
 refine yZ (yY (xq 2 [eS1 5 A l c] [] ?_))
 refine xqc _ _ 6 (fun _:Unit=>.string ⟨(Lib.decDigits m).toArray⟩) _ (fun w R Q=>yN (Zjy A l c m _ Q.1 Q.2 qO)) fun n=>?_
 refine xq 1 [yT 3 ⟨(Lib.decDigits m).toArray⟩] [] ?_
 refine yZ (zD (yY (xq 2 [yB 8 s] [] ?_)))
 refine xe (zB ?_)
 refine yQ (s) (fun a=>?_) fun a=>?_
 ·have b:=a
  refine zC (xq 1 [yT 9 ⟨(Lib.decDigits m).toArray⟩] [] ?_)
  refine yK 10 (.string ⟨(45 :: Lib.decDigits m).toArray⟩) (fun w R Q=>ZlT (x:=(Operand.const (Value.string { data:=#[45] }))) (y:=.tmp 9) (t:=9) (k:=9) qK qK qK (by have o:=Zq2 m;rw[←zT ⟨(Lib.decDigits m).toArray⟩,dV];have:(⟨#[45]⟩:ByteArray).size=1:=rfl;omega) (Zel [45] (Lib.decDigits m))) ?_
  refine xr 1 [Δ 1,Δ 2,yT 3 ⟨(45 :: Lib.decDigits m).toArray⟩] [yG 2 61 ⟨#[]⟩ 0,yF 1 86 s A l c e] ?_
  refine yZ (yY (xq 5 [] [yG 2 61 ⟨(45 :: Lib.decDigits m).toArray⟩ e] ?_))
  refine yZ (zJ ?_)
  refine yR (yS ⟨(45 :: Lib.decDigits m).toArray⟩ e) fun w' R Q=>?_
  exact⟨by rw[b,Zcg (fun h=>by have:=i b;omega)];rfl,R⟩
 have b:=a
 refine zG (zB (yY (xq 5 [] [yG 2 61 ⟨(Lib.decDigits m).toArray⟩ e] ?_)))
 refine yZ (zJ ?_)
 refine yR (yS ⟨(Lib.decDigits m).toArray⟩ e) fun w' R Q=>?_
 exact⟨by rw[b,Zcg (fun _=>rfl)];rfl,R⟩
theorem ZhH {l:List UInt8}{v:Rat}(h:xW l=some v):(Lib.itoa v.num).length≤l.length∧(Lib.itoa (v.den:Int)).length≤l.length+1:=by
 have a:=gR h
 rw[←a]
 unfold xF
 split
 ·rename_i b
  rw[b]
  refine⟨uF _,?_⟩
  have:(Lib.itoa ((1:Nat):Int)).length=1:=by rw[iB,eZ qO];rfl
  omega
 simp only[uN,sB]
 omega
theorem Zms {n k:Nat}(h:(Lib.decDigits n).length≤k):wl n≤k:=by
 have a:=kJ (Lib.decDigits n) (kY n)
 rw[iA] at a
 exact Zbc a h
theorem Zli (z:Int):(Lib.decDigits z.natAbs).length≤(Lib.itoa z).length:=by
 have h:=ZcY (Lib.itoa z)
 rw[bG] at h
 exact h
noncomputable def rndF (v:Rat) (n:Nat):FR:=wR (decide (v.num<0)) v.num.natAbs v.den 0 n
noncomputable def Zck (l:List UInt8) (b:Int):FR:=if (xW l).isSome=true then (if 8≤b∧b≤1024 then rndF (valF l) b.toNat else ⟨false,0,0,3⟩) else ⟨false,0,0,1⟩
theorem ZjA (s:ByteArray)(v:Rat)(n:Nat)(w:World)(m:Glob w)(o:(bytes s).length≤570)(k:xW (bytes s)=some v)(q:8≤n)(t:n≤1024) :
 yA 29 #[.string s,.int .i64 ((n:Nat):Int)] w (lB w (rndF v n)):=by
 have u:valF (bytes s)=v:=jS k
 have x:=ZhH k
 refine zV (Φ:=fun w=>Glob w) func29 rfl qK (fun w' y=>m.ext y) ?_
 refine yY (xq 2 [Δ 4,yJ 5 0] [yF 4 86 false none 0 0 0] ?_)
 refine yZ (yY (xq 1 [yT 11 s] [] ?_))
 refine xqc _ _ 12 (fun _:Unit=>.tuple #[.string ⟨(Lib.itoa v.num).toArray⟩,.string ⟨(Lib.itoa (v.den:Int)).toArray⟩]) _ (fun w R Q=>yN ((show Calls _ _ _ _ (RetV w (.tuple #[.string ⟨(Lib.itoa v.num).toArray⟩,.string ⟨(Lib.itoa (v.den:Int)).toArray⟩])) by rw[←u];exact Zmq s _ Q o))) fun J=>?_
 refine xq 5 [yT 6 ⟨(Lib.itoa v.num).toArray⟩,yT 7 ⟨(Lib.itoa (v.den:Int)).toArray⟩] [] ?_
 refine yZ (yY (xq 1 [yT 16 ⟨(Lib.itoa v.num).toArray⟩] [] ?_))
 refine xqc _ _ 17 Zgm _ (fun w R Q=>yM ZdW (ZdX ⟨(Lib.itoa v.num).toArray⟩ _)) fun⟨r,neg⟩=>?_
 refine xq 5 [yB 8 neg,yT 9 r] [] ?_
 refine yZ (zD ?_)
 refine SXc.know (p:=xE (bytes ⟨(Lib.itoa v.num).toArray⟩)=(neg,bytes r)) (fun w _ Q=>Q.2) fun l=>?_
 rw[dV,bG] at l
 injection l with hneg hr
 have i:(bytes r).length≤570:=by rw[←hr];have:=Zli v.num;omega
 have z:r.size≤570:=by rw[←zT];exact i
 have b:(bytes r).all zX=true:=by rw[←hr];exact kY _
 have c:zK (bytes r)=v.num.natAbs:=by rw[←hr];exact iA _
 have A:wl v.num.natAbs≤1000:=by rw[←c];exact Zbc (kJ _ b) qO
 have B:wl v.den≤1000:=Zms (by have:=x.2;rw[iB] at this;omega)
 have j:(bytes ⟨(Lib.itoa (v.den:Int)).toArray⟩).length≤571:=by rw[dV];omega
 have C:(⟨(Lib.itoa (v.den:Int)).toArray⟩:ByteArray).size≤571:=by rw[←zT];exact j
 refine zC (xq 2 [yB 20 neg,yT 21 r] [] ?_)
 refine xqc _ _ 22 wE _ (fun w R Q=>yM xY (ZcX r _ v.num.natAbs b c qO qO)) fun⟨D,E,F⟩=>?_
 refine xq 1 [yT 23 ⟨(Lib.itoa (v.den:Int)).toArray⟩] [] ?_
 refine xqc 71 [.string ⟨(Lib.itoa (v.den:Int)).toArray⟩] 24 wE _ (fun w R Q=>yM xY (ZcX _ _ v.den (by rw[dV,iB];exact kY _) (by rw[dV,iB];exact iA _) qO qO)) fun⟨G,H,I⟩=>?_
 refine xq 1 [yJ 25 n] [] ?_
 obtain⟨a,d⟩:=yE (wR neg v.num.natAbs v.den 0 n)
 refine xqc _ _ 26 (shNb a) _ (fun w R Q=>yM lO ((show Calls _ _ _ _ (lB w a) by rw[←d];exact ZdP neg _ _ _ _ _ _ _ _ 0 n _ Q.1.1.1.1 Q.1.2 Q.2 qO qO v.den_pos qO qO qO qO))) fun⟨f,g,h⟩=>?_
 refine xq 4 [yJ 5 a.err] [yF 4 86 a.s f g h a.e] ?_
 refine yZ (zJ ?_)
 refine yR (.tuple #[yV a.s f g h a.e, yI a.err]) fun w' R Q=>?_
 rw[show rndF v n=wR neg v.num.natAbs v.den 0 n by unfold rndF;rw[hneg],d]
 exact⟨(f,g,h),rfl,Q.2,R⟩
theorem Zq4 (a b:ByteArray)(d c:Int)(w:World):(Op.equalIn 10000 61 (yS a d) (yS b c)).run prog w =
 .ok ((a.toList == b.toList) && (d == c)) w:=by
 have e:prog.underlying 61=some (.struct (prog.fieldsOf 61)):=qK
 have f:prog.stoodInHeld 61=false:=qK
 have g:=underlying3
 have h:=isAgg3
 have i:=underlying9
 have j:=isAgg9
 rw[show (10000:Nat)=9999+1 from rfl,run_equalIn_agg w 9999 _ _ _ e f]
 simp only[Program.fieldsOf,underlying61]
 go_simp
 cases h1:(a.toList == b.toList)<;>cases h3:(d == c)<;>simp_all
theorem Zq5 {o:Oper}{ρ:Operand→Value}{w:World}(x y:Operand)(k:TypeId)(a b:ByteArray)(d c:Int)(r:Bool)(e:o.op=Op.binOp .eql 61 x y k)(f:ρ x=.agg #[.string a,.int .i64 d])(g:ρ y=.agg #[.string b,.int .i64 c])(h:((a.toList == b.toList) && (d == c))=r):(execOp ρ o).run prog w=.ok (.value (.bool r)) w:=by
 have i:prog.eqGuardType prog.depth 61=false:=qK
 subst h
 simp only[execOp,e,f,g,Sem.run_bind,run_eqGuard_agg w _ _ _ _ _ _ i,Result.andThen_ok,run_eql_struct,Zq4,Sem.run_pure]
theorem ZsG (a:ByteArray)(d:Int):((a.toList == a.toList) && (d == d))=true:=qS
theorem Zen {w:World}{s:Bool}{A:qA}{l c:Nat}{z:Int}(h:zN w (vI2 s A l c) z)(g:z≠0):∃ xs,zH .u32 w A xs∧0<xs.length∧xs[0]?.getD 0=z.natAbs%W32∧l=xs.length∧A≠none:=by
 have a:=h.lenp g
 obtain⟨k,xs,m,e,n,d,i,p,f⟩:=h.mag
 injection e with e1 e2 e3
 subst e1 e2
 refine⟨xs,d,a,?_,rfl,?_⟩
 ·cases xs with
  | nil=>simp at a
  | cons x xs =>
   rw[iP] at f
   have j:x<W32:=i x qS
   rw[←f,rD,vH j];rfl
 obtain⟨b,o,e,_⟩:=d.at a
 rw[e];simp
def shF (x:Int) (y:ShI):Value:=.agg #[.bool y.1,.slice y.2.1 y.2.2.1 y.2.2.2,.int .i64 x]
theorem ZdY {P:Program}{o:Oper}{ρ:Operand→Value}{w:World}{t k:TypeId}{x y:Operand}{a:Nat}(b:o.op=Op.binOp .and t x y k)(c:ρ x=.int .u32 ((a:Nat):Int))(d:ρ y=.int .u32 1)(ha:a<4294967296):(execOp ρ o).run P w=.ok (.value (.int .u32 ((a%2:Nat):Int))) w:=by
 have h:bits .and .u32 (a:Int) 1=((a%2:Nat):Int):=by
  have e:(BitVec.ofInt 32 (a:Int)).toNat=a:=by
   rw[pR,oQ];exact vH qO
  show IntKind.u32.wrap ((BitVec.ofInt 32 (a:Int) &&& BitVec.ofInt 32 1).toNat:Int)=_
  rw[BitVec.toNat_and,e,show (BitVec.ofInt 32 1).toNat=1 from rfl,oP,IntKind.wrap_u32];omega
 rw[←h]
 simp only[execOp,b,c,d,eqGuard,binOp]
 rfl
theorem Zn3:ml ((1:Nat))≤65536:=uD (lD.2 (show (1:Nat)<W32^1 by rw[zW];decide)) qD
theorem Zps {w:World}{s:Bool}{A:qA}{l c:Nat}{z:Int}(h:zN w (vI2 s A l c) z):xD w (.agg #[.bool s,.slice A l c,.bool false,Ξ]) ((z:Int):Rat) :=
 ⟨s,false,A,none,l,c,0,0,rfl,h,zN.nil w⟩
theorem Zq6 (z:Int):xF ((z:Int):Rat)=Lib.itoa z:=by
 exact Zpl z
theorem Zn4 {w:World}{s:Bool}{A:qA}{l c:Nat}{z:Int}(h:zN w (vI2 s A l c) z)(a:ml z.natAbs≤65536):yA 22 #[.agg #[.bool s,.slice A l c,.bool false,Ξ]] w (RetV w (.string ⟨(Lib.itoa z).toArray⟩)):=by
 have b:=ZnR _ _ _ (Zps h) a (Zn3)
 rwa [Zq6] at b
theorem Zn5 {n k:Nat}(h:(Lib.decDigits n).length≤k):ml n≤k:=by
 have a:=kJ _ (kY n)
 rw[iA] at a
 exact Zr6 (uS a (vE qD h))
theorem Zgp (s:Bool)(A:qA)(l c:Nat)(z x:Int)(w:World)(a:zN w (vI2 s A l c) z)(b:ml z.natAbs≤65536) :
 yA 42 #[yV s A l c x] w (RetV w (yS ⟨(Lib.itoa z).toArray⟩ x)):=by
 refine zV (Φ:=fun w=>zN w (vI2 s A l c) (z)) func42 rfl qK (fun w' d=>a.ext d) ?_
 refine yY (xq 2 [Δ 1,Δ 2] [yG 2 61 ⟨#[]⟩ 0,yF 1 109 s A l c x] ?_)
 refine yZ (zD ?_)
 refine yO 8 zQ ?_
 refine xqg 3 [eR4 5 s A l c false none 0 0] ?_
 refine xqd _ _ 6 (fun _:Unit=>.string ⟨(Lib.itoa z).toArray⟩) _ (fun w R Q=>(Zn4 Q b).mono (fun _ _ h=>zI h (rfl))) fun e=>?_
 refine xqf 4 [] [yG 2 61 ⟨(Lib.itoa z).toArray⟩ x,yG 2 61 ⟨#[]⟩ 0,yF 1 109 s A l c x] ?_
 refine xz (yZ (zJ ?_))
 refine yR (yS ⟨(Lib.itoa z).toArray⟩ x) fun w' R Q=>?_
 exact⟨rfl,R⟩
def Zmw (w:World) (z x:Int) (e:Ending) (w':World):Prop:=∃ y:ShI,e=.returned (shF x y)∧zN w' (wN y) z∧Ext w w'
theorem Zsd {a b:Nat}(h:a<32*b):ml (2^a)≤b:=lD.2 (by rw[show W32=2^32 by rw[zW],← rU];exact pX qD h)
theorem Zn7 {a b i j:Nat}(ha:ml a≤i)(c:ml b≤j):ml (a*b)≤i+j:=by
 refine lD.2 ?_
 rw[uW]
 exact nF (lD.1 ha) (lD.1 c)
theorem ZaQ (s:Bool)(A:qA)(l c x:Nat)(e:Int)(w:World)(h:zL w (.slice A l c) x) :
 yA 178 #[yV s A l c e] w (RetV w (.int .i64 (if x=0 then 0 else if s=true then (-1) else 1))):=by
 refine zV func178 rfl qK (fun w' i=>h.ext i) ?_
 refine zD ?_
 have j:=h.len0
 have k:=@jH x
 refine zC (xq 2 [Δ 1,yJ 2 0] [yF 1 86 s A l c e] ?_)
 refine yZ (zD (zO (yY (xq 5 [yB 3 (((l:Int):Int) == 0)] [] ?_))))
 refine xe (zB ?_)
 refine yQ ((((l:Int):Int) == 0)) (fun a=>?_) fun a=>?_
 ·have d:=sK.1 a
  have g:x=0:=qO
  refine yY (xq 1 [yJ 2 0] [] ?_)
  refine yZ (zJ (wY (zM ?_)))
  refine yR (yI 0) fun w' R Q=>?_
  exact⟨by rw[uZ g],R⟩
 have d:=lU a
 have g:¬ x=0:=qO
 refine yY (xq 3 [yB 8 s] [] ?_)
 refine xe (zB ?_)
 refine yQ (s) (fun b=>?_) fun b=>?_
 ·have f:=b
  refine yY (xq 1 [yJ 2 (-1)] [] ?_)
  refine yZ (zJ (wY (zM ?_)))
  refine yR (yI (-1)) fun w' R Q=>?_
  exact⟨by rw[uQ g,uZ f],R⟩
 have f:=b
 refine zG (xK (zB (yY (xq 1 [yJ 2 1] [] ?_))))
 refine yZ (zJ ?_)
 refine yR (yI 1) fun w' R Q=>?_
 exact⟨by rw[uQ g,uQ (by rw[f];decide)],R⟩
theorem Zse {l:List UInt8}{x:Int}:(ldR l x).m=0∨(ldR l x).m%2=1:=by
 unfold ldR
 split
 ·rename_i h
  have a:=(ZqO h).2
  have b:(flM l).natAbs=zK (xE l).2:=by unfold flM sg;split<;>omega
  rcases a with ⟨a,_⟩|⟨a,_⟩
  ·left;show zK (xE l).2=0;omega
  right;show zK (xE l).2%2=1;omega
 exact Or.inl rfl
theorem ZgZ (s:Bool):sg s 0=0:=by cases s<;>rfl
theorem Zod (a:Nat):IntKind.u32.wrap (((a%W64:Nat):Int))=((a%W32:Nat):Int):=by
 rw[IntKind.wrap_u32,zR,zW];omega
section
variable {P:Program} {o:Oper} {ρ:Operand→Value} {w:World} {x y:Operand} {t k:TypeId}
theorem ZjG {a n:Nat}(h:n≤32)(b:o.op=Op.binOp .shr t x y k:=by kernel_rfl)(c:ρ x=.int .u32 (a:Int):=by kernel_rfl){ky:IntKind}(d:ρ y=.int ky (n:Int):=by kernel_rfl):(execOp ρ o).run P w=.ok (.value (.int .u32 ((a/2^n:Nat):Int))) w:=by
 have e:¬ ((n:Int)<0):=qO
 have f:min ((n:Int)).toNat IntKind.u32.bits=n:=by show min ((n:Int)).toNat 32=n;omega
 have g:((a:Int)).fdiv (2^n)=((a/2^n:Nat):Int):=by
  rw[Int.fdiv_eq_ediv_of_nonneg _ (by rw[show ((2:Int)^n)=((2^n:Nat):Int) by rw[tM];rfl];exact pL _)]
  exact Za4 a n
 simp only[execOp,b,c,d,eqGuard,binOp,Op.shift,uQ e,f,g]
 rfl
theorem Zrj {a b r:Nat}(ha:a<W32)(c:b<W32)(h:a ||| b=r)(d:o.op=Op.binOp .or t x y k:=by kernel_rfl)(e:ρ x=.int .u32 (a:Int):=by kernel_rfl)(f:ρ y=.int .u32 (b:Int):=by kernel_rfl):(execOp ρ o).run P w=.ok (.value (.int .u32 (r:Int))) w:=by
 have:=Zi6 ha c
 rw[h] at this
 rw[←this]
 simp only[execOp,d,e,f,eqGuard,binOp]
 rfl
theorem Zpw {a:Nat}(b:o.op=Op.binOp .and t x y k:=by kernel_rfl)(c:ρ x=.int .u32 (a:Int):=by kernel_rfl)(d:ρ y=.int .u32 1:=by kernel_rfl)(ha:a<W32:=by assumption):(execOp ρ o).run P w=.ok (.value (.int .u32 ((a%2:Nat):Int))) w:=ZdY b c d (by rw[zW] at ha;exact ha)
end
theorem Zeq {a:Int}(h:a≤0):decide (a.sign>0)=false:=uR (fun e=>by have:=Int.sign_eq_one_iff_pos.1 (show a.sign=1 by have:=Int.sign_trichotomy a;omega);omega)
def ZbK (z:Int):Prop:=ml z.natAbs≤1048576
theorem Zsj {z:Int}(h:ZbK z):wC z:=uD h qD
theorem len_zero {w:World}{s:Bool}{A:qA}{l c:Nat}{z:Int}(h:zN w (vI2 s A l c) z)(a:z=0):l=0:=by
 subst a
 obtain⟨g,i,j,b,m,n,d,e,f⟩:=h.opn.1
 injection b with e1 e2 e3
 have:=kO d e
 rw[f,show (0:Int).natAbs=0 from rfl,show ml 0=0 from Nat.le_zero.1 (lD.2 (by rw[tX];decide))] at this
 omega
theorem Zoe {b n v:Nat}{xs:qN}{w:World}(a:Own .u32 166 w b xs)(c:Dig W32 xs)(d:xs.length=n)(e:val W32 xs=v)(f:n≤1099511627776):yA 75 #[.slice (some ⟨b,0,none⟩) n n] w (dO w v):=by
 subst d e
 exact ZhM w ⟨xs,a.row (uF _),c,rfl⟩ (uD f qD)
theorem Zof (s0:Bool)(A:qA)(xs:qN)(c k:Nat)(w:World)(hX:zH .u32 w A xs)(hl:xs.length≤1048576)(hc:xs.length≤c)(W:Dig W32 xs)(c0:0<k)(hk:k≤1099511627776) :
 yA 120 #[vI2 s0 A xs.length c,.int .i64 (-((k:Nat):Int))] w (lZ w (sg s0 (val W32 xs/2^k))):=by
 refine zV (Φ:=fun w=>zH .u32 w A xs) func120 rfl qK (fun w' hf=>hX.ext hf) ?_
 refine yY (xq 2 [Δ 2,Δ 4] [bI2 4 41 false none 0 0,bI2 2 41 s0 A xs.length c] ?_)
 refine yZ (zD (yY (xq 2 [(11,.v (.bool (decide ((-(k:Int))≥0))))] [] ?_)))
 rw[show decide (-(k:Int)≥0)=false from uR qO]
 refine yZ (xb (zG (zB (yY (xq 2 [(28,.v (yI (IntKind.i64.wrap (0-((-(k:Int)))))))] [] ?_)))))
 rw[yW (0-(-(k:Int))) ((k:Int)) qO]
 refine xq 1 [yJ 1 k] [] ?_
 refine yZ (zD (yY (xq 2 [(30,Γ (IntKind.i64.wrap (((k:Int)).tdiv 32)))] [] ?_)))
 rw[show IntKind.i64.wrap ((((k:Int)).tdiv 32))=((k/32:Nat):Int) from tdq (k) 32 qO]
 refine xq 4 [yB 34 (decide (((k/32:Nat):Int)≥((xs.length:Nat):Int)))] [] ?_
 refine xe (zB ?_)
 refine yQ ((decide (((k/32:Nat):Int)≥((xs.length:Nat):Int)))) (fun r=>?_) fun r=>?_
 ·have G:=uB r
  refine yY (xq 2 [] [] ?_)
  refine yZ (zJ (zM ?_))
  refine yR (.agg #[.bool false,Ξ]) fun w' R Q=>?_
  exact⟨_,rfl,by rw[ZlY W qO,ZgZ];exact zN.nil _,R⟩
 have G:=uC r
 refine zG (zB (zD ?_))
 obtain⟨ys,D⟩:=yE (xs.drop (k/32))
 have X:ys.length=xs.length-k/32:=by rw[←D,tC]
 have L:Dig W32 ys:=by rw[←D];exact W.drop _
 obtain⟨B,hB⟩:=yE (if c=k/32 then A else A.map (·.add (k/32)))
 obtain⟨d,Y⟩:=yE (c-k/32)
 have Z:Value.slice (if c=k/32 then A else A.map (·.add (k/32))) (xs.length-k/32) (c-k/32)=.slice B ys.length d:=by rw[hB,X,Y]
 refine yC [yJ 1 k,Δ 2,Δ 4] [(4,41,[.v (.bool false),Ω]),(2,41,[.v (.bool s0),Λ A xs.length c])] (fun w=>zH .u32 w B ys) (fun w Q=>by rw[←hB,← D];exact zH.cut (Q) qO hc) ?_
 refine zC (xq 4 [eS1 37 A xs.length c,(39,Γ (IntKind.i64.wrap (((k:Int)).tdiv 32)))] [] ?_)
 rw[show IntKind.i64.wrap ((((k:Int)).tdiv 32))=((k/32:Nat):Int) from tdq (k) 32 qO]
 refine xqk 40 (.slice B ys.length d) (fun w R Q=>by rw[←Z];exact ZoL (t:=39) (e:=166) (x:=.tmp 37) (len:=xs.length) (cap:=c) (l:=k/32) (lo:=.tmp 39) qO) ?_
 refine xq 1 [eS1 6 B ys.length d] [] ?_
 refine yZ (yY (xq 2 [yJ 42 (((k:Int)).tmod 32)] [] ?_))
 rw[show ((k:Int)).tmod 32=((k%32:Nat):Int) from tdr (k) 32]
 refine xq 1 [yU 43 (IntKind.u64.wrap (((k%32:Nat):Int)))] [] ?_
 rw[show IntKind.u64.wrap (((k%32:Nat):Int))=((k%32:Nat):Int) by rw[IntKind.wrap_u64];omega]
 refine xq 1 [yU 7 (k%32:Nat)] [] ?_
 refine yZ (yY (xq 2 [yJ 45 ys.length] [] ?_))
 refine Zbu (d:=46) (t:=39) (e:=166) (k:=.u32) (kl:=.i64) (kc:=.i64) (l:=.tmp 45) (c:=.tmp 45) (ys.length) 4 qO qD fun f E _=>?_
 refine xr 1 [Δ 2,Δ 4,eS1 6 B ys.length d,yU 7 (k%32:Nat),eS1 8 (yL f) (ys.length) (ys.length)] [bI2 4 41 false none 0 0,bI2 2 41 s0 A xs.length c] ?_
 refine yZ (zD (yY (xq 1 [yJ 9 0] [] ?_)))
 refine yZ (zO ?_)
 refine xI (fun nn ss ff=>∃ (i:Nat) (C:List Nat),ss=ofL [Δ 2,Δ 4,eS1 6 B ys.length d,yU 7 (k%32:Nat),eS1 8 (yL f) (ys.length) (ys.length),yJ 9 i] [(4,41,[.v (.bool false),Ω]),(2,41,[.v (.bool s0),Λ A xs.length c])]∧ff=(fun w=>(Box (fun j=>f≤j) w (fun w=>zH .u32 w B (ys))∧Own .u32 166 w f (C)))∧(iX ys (k%32) i C)∧(i≤ys.length)∧nn=(ys.length-i)) _ ⟨0,(List.replicate (ys.length) 0),rfl,rfl,(iX.start ys (k%32)),qO,rfl⟩ (fun w Q=>⟨Q.1,Q.2⟩) ?_
 rintro nn ss ff ⟨i,C,rfl,rfl,K,hi,rfl⟩
 refine zD (yY (xq 4 [yB 50 (decide ((i:Int)<((ys.length:Nat):Int)))] [] ?_))
 refine xe (zB ?_)
 refine yQ ((decide ((i:Int)<((ys.length:Nat):Int)))) (fun s=>?_) fun s=>?_
 ·have H:=uB s
  have M:C.length=ys.length:=K.1
  refine zG (zB (zD (zO (yY (xq 4 [eS1 53 (yL f) (ys.length) (ys.length),yJ 54 i,eS1 55 B ys.length d,yJ 56 i] [] ?_)))))
  refine xqk 57 _ (fun w R Q=>wF (t:=39) (e:=166) (x:=.tmp 55) (ix:=.tmp 56) (len:=ys.length) (cap:=d) (i:=i) (((Q.1).self).ne (j:=i) qO) qO) ?_
  obtain⟨g,q⟩:=yE (ys[i]?.getD 0)
  refine xqk 58 (.int .u32 (g:Int)) (fun w R Q=>by rw[←q];exact wU (t:=166) (x:=.tmp 57) ((Q.1).self) qO) ?_
  have m:g<W32:=by rw[←q];exact L.getD zZ _
  have a0:g<4294967296:=by have:=m;rw[zW] at this;exact this
  refine xq 1 [yU 59 (k%32:Nat)] [] ?_
  refine xqk 60 _ (fun w R Q=>ZjG (t:=166) (x:=.tmp 58) (y:=.tmp 59) (k:=123) (ky:=.u64) (a:=g) (n:=(k%32)) qO) ?_
  refine xqk 61 (.pointer (some ⟨f,i,none⟩)) (fun w R Q=>lX (t:=39) (e:=166) (x:=.tmp 53) (ix:=.tmp 54) (len:=(ys.length)) (cap:=(ys.length)) qO) ?_
  refine jL (t:=166) (x:=.tmp 61) (y:=.tmp 60) f (i) (g/2^(k%32)) (fun w=>(Box (fun j=>f≤j) w (fun w=>zH .u32 w B (ys))∧Own .u32 166 w f ((C).set (i) (g/2^(k%32))))) (fun w Q=>Q.2) qO (Or.inl E) (fun w w' Q hF hO=>⟨((Q.1).fr (hF.mono (fun _ _ e=>by rw[e];exact uF _))),hO⟩) ?_
  refine yZ (yY (xq 2 [yJ 63 (IntKind.i64.wrap ((i:Int)+1))] [] ?_))
  rw[yW ((i:Int)+1) (((i+1:Nat):Int)) qO]
  refine xq 3 [yB 66 (decide (((i+1:Nat):Int)<((ys.length:Nat):Int)))] [] ?_
  refine xe (zB ?_)
  refine yQ ((decide (((i+1:Nat):Int)<((ys.length:Nat):Int)))) (fun u=>?_) fun u=>?_
  ·have I:=uB u
   refine kR 16 [0,0,3,7,0,0,32,112,240,496,0,1024,4080,8176,16383,32767] qK qK zQ ?_
   refine xqg 2 [eS1 67 (yL f) (ys.length) (ys.length),yJ 68 i] ?_
   refine xqj 69 (.pointer (some ⟨f,i,none⟩)) (fun w Q=>lX (t:=39) (e:=166) (x:=.tmp 67) (ix:=.tmp 68) (len:=(ys.length)) (cap:=(ys.length)) (i:=i) qO) ?_
   obtain⟨N,F⟩:=yE (((C).set (i) (g/2^(k%32)))[i]?.getD 0)
   refine xqj 70 (.int .u32 (N:Int)) (fun w Q=>by rw[←F];exact gJ (t:=166) (x:=.tmp 69) (Q.2) (by simp only[sQ];omega)) ?_
   obtain rfl:N=g/2^(k%32):=by rw[←F,tW qO];rfl
   refine xqg 3 [eS1 71 B ys.length d,yJ 73 (IntKind.i64.wrap ((i:Int)+1))] ?_
   rw[yW ((i:Int)+1) (((i+1:Nat):Int)) qO]
   refine xqj 74 _ (fun w Q=>wF (t:=39) (e:=166) (x:=.tmp 71) (ix:=.tmp 73) (len:=ys.length) (cap:=d) (i:=i+1) (((Q.1).self).ne (j:=i+1) qO) qO) ?_
   obtain⟨h,z⟩:=yE (ys[i+1]?.getD 0)
   refine xqj 75 (.int .u32 (h:Int)) (fun w Q=>by rw[←z];exact wU (t:=166) (x:=.tmp 74) ((Q.1).self) qO) ?_
   have J:h<W32:=by rw[←z];exact L.getD zZ _
   have b0:h<4294967296:=by have:=J;rw[zW] at this;exact this
   refine xqg 1 [yU 76 (IntKind.u64.wrap ((h:Int)))] ?_
   rw[show IntKind.u64.wrap ((h:Int))=(h:Int) by rw[IntKind.wrap_u64];omega]
   refine xqg 2 [yU 78 (IntKind.u64.wrap (32-((k%32:Nat):Int)))] ?_
   rw[show IntKind.u64.wrap ((32-((k%32:Nat):Int)))=((32-(k%32):Nat):Int) by rw[IntKind.wrap_u64];have:=zR;omega]
   refine xqj 79 _ (fun w Q=>Zi2 (t:=207) (x:=.tmp 76) (y:=.tmp 78) (k:=123) (ky:=.u64) (a:=h) (n:=(32-(k%32))) qO) ?_
   refine xqg 1 [(80,.v (.int .u32 (IntKind.u32.wrap (((h*2^(32-(k%32))%W64:Nat):Int)))))] ?_
   rw[show IntKind.u32.wrap (((h*2^(32-(k%32))%W64:Nat):Int))=((h*2^(32-k%32)%W32:Nat):Int) from Zod _]
   have V:=K.step qO qO q z m
   refine xqj 81 _ (fun w Q=>Zrj (t:=166) (x:=.tmp 70) (y:=.tmp 80) (k:=166) (a:=((g/2^(k%32)))) (b:=(h*2^(32-k%32)%W32)) (vN (vG _ _) m) (uO _ zZ) (Zi4 qO m)) ?_
   refine xqj 82 (.pointer (some ⟨f,i,none⟩)) (fun w Q=>lX (t:=39) (e:=166) (x:=.tmp 67) (ix:=.tmp 68) (len:=(ys.length)) (cap:=(ys.length)) (i:=i) qO) ?_
   refine xz ?_
   refine jL (t:=166) (x:=.tmp 82) (y:=.tmp 81) f (i) (g/2^(k%32)+h%2^(k%32)*2^(32-k%32)) (fun w=>(Box (fun j=>f≤j) w (fun w=>zH .u32 w B (ys))∧Own .u32 166 w f (((C).set (i) (g/2^(k%32))).set (i) (g/2^(k%32)+h%2^(k%32)*2^(32-k%32))))) (fun w Q=>Q.2) (by simp only[sQ];omega) (Or.inl E) (fun w w' Q hF hO=>⟨((Q.1).fr (hF.mono (fun _ _ e=>by rw[e];exact uF _))),hO⟩) ?_
   refine xe (xK (zB (zC (xq 2 [yJ 52 (IntKind.i64.wrap ((i:Int)+1))] [] ?_))))
   rw[yW ((i:Int)+1) (((i+1:Nat):Int)) qO]
   refine xq 1 [yJ 9 (i+1:Nat)] [] ?_
   refine xe ?_
   exact xC _ qO ⟨(i+1),(((C).set (i) (g/2^(k%32))).set (i) (g/2^(k%32)+h%2^(k%32)*2^(32-k%32))),rfl,rfl,(by rw[List.set_set];exact V),qO,rfl⟩ (fun w Q=>⟨Q.1,Q.2⟩)
  have I:=uC u
  have V:=K.step (y:=0) qO qO q (by rw[vL qO];rfl) m
  rw[nL,sY,tE] at V
  refine zG (xK (zB (zC (xq 2 [yJ 52 (IntKind.i64.wrap ((i:Int)+1))] [] ?_))))
  rw[yW ((i:Int)+1) (((i+1:Nat):Int)) qO]
  refine xq 1 [yJ 9 (i+1:Nat)] [] ?_
  refine xe ?_
  exact xC _ qO ⟨(i+1),((C).set (i) (g/2^(k%32))),rfl,rfl,V,qO,rfl⟩ (fun w Q=>⟨Q.1,Q.2⟩)
 have H:=uC s
 have M:C.length=ys.length:=K.1
 obtain rfl:i=ys.length:=qO
 have HD:=K.done
 rw[←D,Zhn xs (k/32) (k%32) W qO,show 32*(k/32)+k%32=k by omega] at HD
 refine xJ (zE (zE (xL (zB (zD ?_)))))
 refine yO 6 zQ ?_
 refine xqg 3 [yB 84 s0,eS1 85 (yL f) (ys.length) (ys.length)] ?_
 refine xqd _ _ 86 wE _ (fun w R Q=>yM ZjC (Zoe Q.2 K.2.1 M HD qO)) fun⟨d0,e0,f0⟩=>?_
 refine xqd _ _ 87 wN _ (fun w R Q=>yM kE (fW s0 _ (val W32 xs/2^k) _ Q.2)) fun⟨O,S,T,U⟩=>?_
 refine xqf 1 [] [bI2 4 41 O S T U,bI2 4 41 false none 0 0,bI2 2 41 s0 A xs.length c] ?_
 refine xz (yZ (zJ ?_))
 refine yR (vI2 O S T U) fun w' R Q=>?_
 exact⟨_,rfl,Q.2,R⟩
theorem Zpx (a:Value)(z:Int)(k:Nat)(w:World)(ha:zN w a z)(f:ZbK z)(m:k≤1099511627776):yA 120 #[a,.int .i64 (-((k:Nat):Int))] w (lZ w (sg (decide (z<0)) (z.natAbs/2^k))):=by
 rcases uJ k with rfl|b
 ·have h:=ZbI a z 0 w ha (Zsj f) qO
  rw[Int.pow_zero,Int.mul_one] at h
  rw[tX,pV,ZdR]
  exact h
 obtain⟨s0,A,l,c,rfl,p,d,q⟩:=ha.open
 obtain⟨D,r,E,s,u,v,g,B,i⟩:=p
 injection s with e1 e2 e3
 subst e1 e2 e3
 have e:=kO g B
 rw[i] at e
 have h:=Zof s0 A r c k w v (by unfold ZbK at f;omega) u g b m
 rw[i] at h
 have C:sg s0 (z.natAbs/2^k)=sg (decide (z<0)) (z.natAbs/2^k):=by
  by_cases j:z=0
  ·subst j
   rw[show (0:Int).natAbs=0 from rfl,Nat.zero_div,ZgZ,ZgZ]
  congr 1
  generalize z.natAbs=n at *
  subst d
  unfold sg at *
  cases s0
  ·simp
  simp;simp at j;omega
 rwa [C] at h
theorem ZjH (b:Bool)(A:qA)(xs:qN)(c:Nat)(z e:Int)(w:World)(K:zN w (vI2 b A xs.length c) z)(L:zH .u32 w A xs)(B:Dig W32 xs)(C:val W32 xs=z.natAbs)(M:z≠0)(N:ZbK z)(O:tzn z.natAbs≤1099511627776)(S : -1152921504606846976≤e)(T:e≤1152921504606846976) :
 yA 123 #[vI2 b A xs.length c,.int .i64 e] w (Zmw w (sg (decide (z<0)) (oddM z.natAbs)) (e+((tzn z.natAbs:Nat):Int))):=by
 refine zV (Φ:=fun w=>(zN w (vI2 b A xs.length c) (z)∧zH .u32 w A xs)) func123 rfl qK (fun w' G=>⟨K.ext G,L.ext G⟩) ?_
 refine yY (xq 2 [Δ 2,Δ 4] [yF 4 109 false none 0 0 0,bI2 2 41 b A xs.length c] ?_)
 refine yZ (zD (yY (xq 1 [eI2 6 b A xs.length c] [] ?_)))
 refine xqc _ _ 7 (fun _:Unit=>yI (Int.sign z)) _ (fun w R Q=>yN (dU _ z _ Q.1)) fun U=>?_
 refine xq 1 [yB 8 (((Int.sign z):Int) == 0)] [] ?_
 rw[(show (((Int.sign z):Int) == 0)=false by have:=mt sO.1 M;simpa using this)]
 refine yZ (xb (zG (zB (yY (xq 1 [yJ 5 0] [] ?_)))))
 refine yZ (zD (zO ?_))
 refine xI (fun H I J=>∃ (k:Nat),I=ofL [yJ 1 e,Δ 2,Δ 4,yJ 5 k] [yF 4 109 false none 0 0 0,(2,41,[.v (.bool b),Λ A xs.length c])]∧J=(fun w=>(zN w (vI2 b A xs.length c) (z)∧zH .u32 w A (xs)))∧(k≤tzn z.natAbs)∧H=(tzn z.natAbs-k)) _ ⟨0,rfl,rfl,uT _,rfl⟩ (fun w Q=>⟨Q.1.1,Q.1.2⟩) ?_
 rintro H I J ⟨k,rfl,rfl,D,rfl⟩
 refine zD (zD ?_)
 have u:k/32<xs.length:=Zoc B qO (by rw[C];exact D)
 refine zC (xq 4 [eS1 11 A xs.length c,(13,Γ (IntKind.i64.wrap (((k:Int)).tdiv 32)))] [] ?_)
 rw[show IntKind.i64.wrap ((((k:Int)).tdiv 32))=((k/32:Nat):Int) from tdq (k) 32 qO]
 refine xqk 14 _ (fun w R Q=>wF (t:=39) (e:=166) (x:=.tmp 11) (ix:=.tmp 13) (cap:=c) ((Q.2).ne (j:=k/32) qO) qO) ?_
 obtain⟨f,d⟩:=yE (xs[k/32]?.getD 0)
 refine xqk 15 (.int .u32 (f:Int)) (fun w R Q=>by rw[←d];exact wU (t:=166) (x:=.tmp 14) (Q.2) qO) ?_
 have h:f<W32:=by rw[←d];exact B.getD zZ _
 refine xq 2 [yJ 17 (((k:Int)).tmod 32)] [] ?_
 rw[show ((k:Int)).tmod 32=((k%32:Nat):Int) from tdr (k) 32]
 refine xqk 18 _ (fun w R Q=>ZjG (t:=166) (x:=.tmp 15) (y:=.tmp 17) (k:=3) (ky:=.i64) (a:=f) (n:=(k%32)) qO) ?_
 refine xqk 19 _ (fun w R Q=>Zpw (t:=166) (x:=.tmp 18) (y:=(Operand.const (Value.int IntKind.u32 1))) (k:=166) (a:=(f/2^(k%32))) (ha:=vN (vG _ _) h)) ?_
 refine xq 1 [(20,.v (.bool (((((f/2^(k%32))%2:Nat):Int):Int) == 0)))] [] ?_
 refine xe (zB ?_)
 refine yQ ((((((f/2^(k%32))%2:Nat):Int):Int) == 0)) (fun g=>?_) fun g=>?_
 ·have i:=sK.1 g
  have l:=ZhN B u d
  rw[C] at l
  have E:k+1≤tzn z.natAbs:=Zrh qO D qO
  refine zG (zB (zO (zC (xq 2 [yJ 22 (IntKind.i64.wrap ((k:Int)+1))] [] ?_))))
  rw[yW ((k:Int)+1) (((k+1:Nat):Int)) qO]
  refine xq 1 [yJ 5 (k+1:Nat)] [] ?_
  refine xe (xK ?_)
  exact xC _ qO ⟨(k+1),rfl,rfl,E,rfl⟩ (fun w Q=>⟨Q.1,Q.2⟩)
 have i:=lU g
 have l:=ZhN B u d
 rw[C] at l
 have F:k=tzn z.natAbs:=Zri qO D qO
 subst F
 refine xJ (zE (zE (xL (zB (yY (xq 3 [eI2 23 b A xs.length c,(25,.v (yI (IntKind.i64.wrap (0-((((tzn z.natAbs):Nat):Int))))))] [] ?_))))))
 rw[show IntKind.i64.wrap (0-((tzn z.natAbs:Nat):Int)) = -((tzn z.natAbs:Nat):Int) by rw[IntKind.wrap_i64];omega]
 refine xqc _ _ 26 wN _ (fun w R Q=>yM kE (Zpx _ z (tzn z.natAbs) _ Q.1 N qO)) fun⟨m,q,r,s⟩=>?_
 refine xq 3 [(29,.v (yI (IntKind.i64.wrap (e+(((tzn z.natAbs):Nat):Int)))))] [] ?_
 rw[yW (e+((tzn z.natAbs:Nat):Int)) (e+((tzn z.natAbs:Nat):Int)) qO]
 refine xq 2 [] [yF 4 109 m q r s (e+((tzn z.natAbs:Nat):Int))] ?_
 refine yZ (zJ ?_)
 refine yR (yV m q r s (e+((tzn z.natAbs:Nat):Int))) fun w' R Q=>?_
 exact⟨(m,q,r,s),rfl,Q.2,R⟩
theorem ZeW (b:Bool)(A:qA)(l c:Nat)(z e:Int)(w:World)(j:zN w (vI2 b A l c) z)(p:z≠0)(m:ZbK z)(d : -1152921504606846976≤e)(f:e≤1152921504606846976) :
 yA 123 #[vI2 b A l c,.int .i64 e] w (Zmw w (sg (decide (z<0)) (oddM z.natAbs)) (e+((tzn z.natAbs:Nat):Int))):=by
 obtain⟨u,n,v,q,B,r,g,s,a⟩:=j.opn.1
 injection q with e1 e2 e3
 subst e1 e2 e3
 have h:=kO g s
 rw[a] at h
 have C:n.length≤1048576:=by unfold ZbK at m;omega
 have i:=Zoc g (by rw[a];omega) (uF _)
 rw[a] at i
 exact ZjH b A n c z e w j r g a p m qO d f
theorem ZdZ (J:Bool)(K:qA)(l1 c1:Nat)(l:Bool)(m:qA)(l2 c2:Nat)(a b:Nat)(w:World)(Z:zN w (vI2 J K l1 c1) ((a:Nat):Int))(hB:zN w (vI2 l m l2 c2) ((b:Nat):Int))(ha:ml a≤90000)(V:ml b≤90000)(n:0<b) :
 yA 121 #[vI2 J K l1 c1,vI2 l m l2 c2] w (lZ w ((kX a b:Nat):Int)):=by
 have T:ml (2*(a%b))≤90001:=uD (ZrL _ _) (by have I:ml 2≤1:=lD.2 (by rw[zW];decide);have j:=iM (qZ (uO a n));omega)
 have q:ml a≤100000:=qO
 have U:ml b≤100000:=qO
 refine zV (Φ:=fun w=>(zN w (vI2 J K l1 c1) ((a:Int))∧zN w (vI2 l m l2 c2) ((b:Int)))) func121 rfl qK (fun w' W=>⟨Z.ext W,hB.ext W⟩) ?_
 refine yY (xq 3 [Δ 2,Δ 3,Δ 4] [bI2 4 41 false none 0 0,bI2 3 41 l m l2 c2,bI2 2 41 J K l1 c1] ?_)
 refine yZ (yY (xq 2 [eI2 9 J K l1 c1,eI2 10 l m l2 c2] [] ?_))
 refine xqc _ _ 11 Zay _ (fun w R Q=>yM dX (Zfo Q.1 Q.2 q U n)) fun X=>?_
 obtain⟨⟨g,f,c,d⟩,⟨r,s,u,z⟩⟩:=X
 refine xq 7 [Δ 5,Δ 6] [bI2 6 41 r s u z,bI2 5 41 g f c d] ?_
 refine yZ (zD ?_)
 refine SXc.weak [Δ 3,Δ 4,Δ 5,Δ 6] [(6,41,[.v (.bool r),Λ s u z]),(5,41,[.v (.bool g),Λ f c d]),(4,41,[.v (.bool false),Ω]),(3,41,[.v (.bool l),Λ m l2 c2])] (kQ.of qK) qK (fun _ h=>h) ?_
 refine yO 5 zQ ?_
 refine xqg 1 [eI2 14 r s u z] ?_
 refine xqd _ _ 15 wN _ (fun w R Q=>(ZbI _ ((a%b:Nat):Int) 1 _ Q.2.2 (nfit (mlc (uD (iM (qZ (uO a n))) V)) qD) qO).mono (fun _ _ h=>kE (by rw[show ((a%b:Nat):Int)*2^1=((2*(a%b):Nat):Int) by omega] at h;exact h))) fun⟨a0,b0,c0,d0⟩=>?_
 refine xqg 1 [eI2 16 l m l2 c2] ?_
 refine xqd _ _ 17 (fun _:Unit=>yI (((2*(a%b):Nat):Int)-(b:Int)).sign) _ (fun w R Q=>yN (ZoY _ _ ((2*(a%b):Nat):Int) (b:Int) _ Q.2 Q.1.1.2 (nfit (mlc T) qD) (nfit (mlc V) qD))) fun X=>?_
 refine xqg 1 [(7,.v (yI (((2*(a%b):Nat):Int)-(b:Int)).sign))] ?_
 refine xz (yZ (zD (zD ?_)))
 by_cases e0:b<2*(a%b)
 ·refine zC (xq 2 [(19,.v (.bool (decide ((((2*(a%b):Nat):Int)-(b:Int)).sign>0))))] [] ?_)
  rw[show decide ((((2*(a%b):Nat):Int)-(b:Int)).sign>0)=true from vP (by rw[qB qO];decide)]
  refine xq 18 [yB 37 true] [] ?_
  refine yZ (xa ?_)
  refine SXc.weak [Δ 4,Δ 5] [(5,41,[.v (.bool g),Λ f c d]),(4,41,[.v (.bool false),Ω])] (kQ.of qK) qK (fun _ h=>h) ?_
  refine yO 3 zQ ?_
  refine xqg 1 [eI2 38 g f c d] ?_
  refine xqd _ _ 39 wN _ (fun w R Q=>yM kE (aO 1 _ qD qD)) fun⟨f0,g0,h0,i0⟩=>?_
  refine xqd _ _ 40 wN _ (fun w R Q=>yM kE (ZjD (x:=a/b) Q.1.1.1.2.1 Q.2 (uD (iM (vG a b)) q) (uD (lD.2 (show (1:Nat)<W32^1 by rw[zW];decide)) qD))) fun⟨A,B,C,D⟩=>?_
  refine xz (xq 1 [] [bI2 5 41 A B C D] ?_)
  refine yZ (yY (xq 2 [] [bI2 4 41 A B C D] ?_))
  refine yZ (zJ ?_)
  refine yR (vI2 A B C D) fun w' R Q=>?_
  exact⟨_,rfl,by rw[Zlq qO];exact Q.2,R⟩
 by_cases j0:2*(a%b)=b
 ·by_cases k0:a/b=0
  ·refine SXc.know (p:=c=0) (fun w _ Q=>len_zero (Q.1.1.2.1) qO) fun L=>?_
   refine zC (xq 2 [(19,.v (.bool (decide ((((2*(a%b):Nat):Int)-(b:Int)).sign>0))))] [] ?_)
   rw[show decide ((((2*(a%b):Nat):Int)-(b:Int)).sign>0)=false from Zeq qO]
   refine xq 3 [yB 20 false,(22,.v (.bool (((((2*(a%b):Nat):Int)-(b:Int)).sign:Int) == 0)))] [] ?_
   rw[show ((((2*(a%b):Nat):Int)-(b:Int)).sign == 0)=true from sK.2 (sO.2 qO)]
   refine xq 5 [yB 23 true,yB 27 (decide ((c:Int)>0))] [] ?_
   rw[show decide ((c:Int)>0)=false from uR qO]
   refine xq 10 [yB 37 false] [] ?_
   refine yZ (xb (zG (zB (yY (xq 2 [] [bI2 4 41 g f c d] ?_)))))
   refine yZ (zJ ?_)
   refine yR (vI2 g f c d) fun w' R Q=>?_
   exact⟨_,rfl,by rw[ZgY qO];exact Q.1.1.2.1,R⟩
  by_cases Y:a/b%2=1
  ·refine SXc.know (p:=0<c) (fun w _ Q=>(Q.1.1.2.1).lenp qO) fun L=>?_
   refine zC (xq 2 [(19,.v (.bool (decide ((((2*(a%b):Nat):Int)-(b:Int)).sign>0))))] [] ?_)
   rw[show decide ((((2*(a%b):Nat):Int)-(b:Int)).sign>0)=false from Zeq qO]
   refine xq 3 [yB 20 false,(22,.v (.bool (((((2*(a%b):Nat):Int)-(b:Int)).sign:Int) == 0)))] [] ?_
   rw[show ((((2*(a%b):Nat):Int)-(b:Int)).sign == 0)=true from sK.2 (sO.2 qO)]
   refine xq 5 [yB 23 true,yB 27 (decide ((c:Int)>0))] [] ?_
   rw[show decide ((c:Int)>0)=true from vP qO]
   refine xq 4 [yB 29 true,eS1 31 f c d] [] ?_
   refine xqk 32 _ (fun w R Q=>(by obtain⟨M,N,I,j,O,S⟩:=Zen (Q.1.1.2.1) qO;exact wF (t:=39) (e:=166) (x:=.tmp 31) (ix:=.const (yI 0)) (len:=c) (cap:=d) (i:=0) S (by have h5:c=M.length:=O;omega))) ?_
   refine xqk 33 (.int .u32 (((a/b)%W32:Nat):Int)) (fun w R Q=>(by obtain⟨M,N,I,j,O,S⟩:=Zen (Q.1.1.2.1) qO;rw[tQ] at j;rw[←j];exact wU (t:=166) (x:=.tmp 32) N I)) ?_
   refine xqk 34 (.int .u32 (((a/b)%W32%2:Nat):Int)) (fun w R Q=>ZdY (t:=166) (k:=166) (x:=.tmp 33) (y:=.const (.int .u32 1)) qK qK qK (by have:=uO (a/b) (show 0<W32 by rw[zW];decide);rw[zW] at this ⊢;exact this)) ?_
   refine xq 1 [(35,.v (.bool (((((a/b)%W32%2:Nat):Int):Int) == 1)))] [] ?_
   rw[(show ((((a/b)%W32%2:Nat):Int) == 1)=true from sK.2 (by rw[zW];omega))]
   refine xq 2 [yB 37 true] [] ?_
   refine yZ (xa ?_)
   refine SXc.weak [Δ 4,Δ 5] [(5,41,[.v (.bool g),Λ f c d]),(4,41,[.v (.bool false),Ω])] (kQ.of qK) qK (fun _ h=>h) ?_
   refine yO 3 zQ ?_
   refine xqg 1 [eI2 38 g f c d] ?_
   refine xqd _ _ 39 wN _ (fun w R Q=>yM kE (aO 1 _ qD qD)) fun⟨l0,m0,n0,o0⟩=>?_
   refine xqd _ _ 40 wN _ (fun w R Q=>yM kE (ZjD (x:=a/b) Q.1.1.1.2.1 Q.2 (uD (iM (vG a b)) q) (uD (lD.2 (show (1:Nat)<W32^1 by rw[zW];decide)) qD))) fun⟨E,F,G,H⟩=>?_
   refine xz (xq 1 [] [bI2 5 41 E F G H] ?_)
   refine yZ (yY (xq 2 [] [bI2 4 41 E F G H] ?_))
   refine yZ (zJ ?_)
   refine yR (vI2 E F G H) fun w' R Q=>?_
   exact⟨_,rfl,by rw[Zlq qO];exact Q.2,R⟩
  refine SXc.know (p:=0<c) (fun w _ Q=>(Q.1.1.2.1).lenp qO) fun L=>?_
  refine zC (xq 2 [(19,.v (.bool (decide ((((2*(a%b):Nat):Int)-(b:Int)).sign>0))))] [] ?_)
  rw[show decide ((((2*(a%b):Nat):Int)-(b:Int)).sign>0)=false from Zeq qO]
  refine xq 3 [yB 20 false,(22,.v (.bool (((((2*(a%b):Nat):Int)-(b:Int)).sign:Int) == 0)))] [] ?_
  rw[show ((((2*(a%b):Nat):Int)-(b:Int)).sign == 0)=true from sK.2 (sO.2 qO)]
  refine xq 5 [yB 23 true,yB 27 (decide ((c:Int)>0))] [] ?_
  rw[show decide ((c:Int)>0)=true from vP qO]
  refine xq 4 [yB 29 true,eS1 31 f c d] [] ?_
  refine xqk 32 _ (fun w R Q=>(by obtain⟨M,N,I,j,O,S⟩:=Zen (Q.1.1.2.1) qO;exact wF (t:=39) (e:=166) (x:=.tmp 31) (ix:=.const (yI 0)) (len:=c) (cap:=d) (i:=0) S (by have h5:c=M.length:=O;omega))) ?_
  refine xqk 33 (.int .u32 (((a/b)%W32:Nat):Int)) (fun w R Q=>(by obtain⟨M,N,I,j,O,S⟩:=Zen (Q.1.1.2.1) qO;rw[tQ] at j;rw[←j];exact wU (t:=166) (x:=.tmp 32) N I)) ?_
  refine xqk 34 (.int .u32 (((a/b)%W32%2:Nat):Int)) (fun w R Q=>ZdY (t:=166) (k:=166) (x:=.tmp 33) (y:=.const (.int .u32 1)) qK qK qK (by have:=uO (a/b) (show 0<W32 by rw[zW];decide);rw[zW] at this ⊢;exact this)) ?_
  refine xq 1 [(35,.v (.bool (((((a/b)%W32%2:Nat):Int):Int) == 1)))] [] ?_
  rw[(show ((((a/b)%W32%2:Nat):Int) == 1)=false from tK.2 (by rw[zW];omega))]
  refine xq 2 [yB 37 false] [] ?_
  refine yZ (xb (zG (zB (yY (xq 2 [] [bI2 4 41 g f c d] ?_)))))
  refine yZ (zJ ?_)
  refine yR (vI2 g f c d) fun w' R Q=>?_
  exact⟨_,rfl,by rw[ZgY qO];exact Q.1.1.2.1,R⟩
 refine zC (xq 2 [(19,.v (.bool (decide ((((2*(a%b):Nat):Int)-(b:Int)).sign>0))))] [] ?_)
 rw[show decide ((((2*(a%b):Nat):Int)-(b:Int)).sign>0)=false from Zeq qO]
 refine xq 3 [yB 20 false,(22,.v (.bool (((((2*(a%b):Nat):Int)-(b:Int)).sign:Int) == 0)))] [] ?_
 rw[show ((((2*(a%b):Nat):Int)-(b:Int)).sign == 0)=false from tK.2 (fun e=>by have:=sO.1 e;omega)]
 refine xq 15 [yB 37 false] [] ?_
 refine yZ (xb (zG (zB (yY (xq 2 [] [bI2 4 41 g f c d] ?_)))))
 refine yZ (zJ ?_)
 refine yR (vI2 g f c d) fun w' R Q=>?_
 exact⟨_,rfl,by rw[ZgY qO];exact Q.1.1.2.1,R⟩
theorem zN.absv {w:World}{s:Bool}{A:qA}{l c:Nat}{z:Int}(h:zN w (vI2 s A l c) z):zN w (vI2 false A l c) ((z.natAbs:Nat):Int) :=
 ⟨false,_,z.natAbs,rfl,h.opn.1,fun _=>rfl,rfl⟩
theorem zN.sgn {w:World}{A:qA}{l c n:Nat}(h:zN w (vI2 false A l c) ((n:Nat):Int))(b:0<n)(t:Bool):zN w (vI2 t A l c) (sg t n):=by
 have a:=h.opn.1
 rw[tQ] at a
 exact⟨t,_,n,rfl,a,fun e=>qO,rfl⟩
theorem zN.signb {w:World}{s:Bool}{A:qA}{l c:Nat}{z:Int}(h:zN w (vI2 s A l c) z):s=decide (z<0):=by
 obtain⟨_,a,b⟩:=h.opn
 cases s
 ·have:z=(z.natAbs:Int):=a
  exact (uR qO).symm
 have d:z = -(z.natAbs:Int):=a
 have f:z≠0:=fun e=>by have:=b e;cases this
 exact (vP qO).symm
abbrev CB (w:World) (g:Nat) (bits err:Int):Prop:=Blk 107 w g #[.int .i64 bits,.int .i64 err]
def RetC (w:World) (g:Nat) (bits:Int) (r:FR) (e:Ending) (w':World):Prop:=∃ y:ShI,e=.returned (shF r.e y)∧zN w' (wN y) (sg r.s r.m)∧Fr (fun i=>i=g) w w'∧CB w' g bits r.err
theorem Zsk (a b:Int):wW #[.int .i64 a,.int .i64 b]:=by
 intro i k z h;rcases i with _|_|i<;>simp at h
 ·exact h.1.symm
 exact h.1.symm
theorem ZsJ {t:TypeId}{w w':World}{g:Nat}{cs:Array Value}{φ:World→Prop}(b:Fr (fun i=>i=g) w w')(c:Blk t w' g cs)(d:wW cs)(h:∀ S w'',(∀ i,S i→NRB w' i)→Fr S w' w''→φ w''):BoxN w w' φ:=fun S f w'' j=>h S w'' (fun i hi=>by
 by_cases e:i=g
 ·subst e;exact⟨_,_,c,d⟩
 obtain⟨k,a,l,m⟩:=(f i hi).2
 exact⟨k,a,l.fr b e,m⟩) j
theorem Zgr {w w':World}{g:Nat}{bits:Int}{r:FR}{e:Ending}(h:RetC w g bits r e w'):∃ y:ShI,e=.returned (shF r.e y)∧Fr (fun i=>i=g) w w'∧Blk 107 w' g #[.int .i64 bits,.int .i64 r.err]∧BoxN w w' (fun w=>zN w (wN y) (sg r.s r.m)):=by
 obtain⟨y,rfl,c,a,b⟩:=h
 exact⟨y,rfl,a,b,ZsJ a b (Zsk _ _) (fun S d f j=>c.nrb f j)⟩
theorem ZjI {w w':World}{e:Ending}{z x:Int}(h:Zmw w z x e w'):lG (shF x) (fun y w=>zN w (wN y) z) w e w':=by
 obtain⟨y,rfl,a,Q⟩:=h
 exact⟨y,rfl,Q,boxn Q (fun S b c d=>a.nrb c d)⟩
theorem ZhO (g:Nat)(bits e:Int)(w:World)(h:CB w g bits 0):yA 173 #[.pointer (some ⟨g,0,none⟩),.int .i64 e] w (fun a w'=>∃ x:Unit,a=.returned ((fun _:Unit=>Value.tuple #[]) x)∧Fr (fun i=>i=g) w w'∧Blk 107 w' g ((fun _:Unit=>#[.int .i64 bits,.int .i64 e]) x)∧BoxN w w' (fun _=>True)):=by
 have b:=h.set_ 1 (.int .i64 e)
 have c:=h.cell 1
 have d:=h.frozen 1
 go_enter func173,ntmps173
 go_wp2
 exact⟨rfl,.tuple #[],by simp[results,Tryz.f173],⟨(),rfl,(show Fr (fun i=>i=g) w w from Fr.refl _ _).setCell (Or.inl rfl) _,b,BoxN.pure trivial⟩⟩
def limR (s:Bool) (m:Nat) (e:Int):FR:=if okE e then ⟨s,m,e,0⟩ else ⟨false,0,0,2⟩
theorem ZjJ {s:Bool}{n:Nat}{e:Int}(h:0<n):wG s n e=limR s (oddM n) (e+tzn n):=by
 unfold wG limR
 rw[uQ qO];rfl
theorem Zgs {s:Bool}{n:Nat}(h:0<n):decide (sg s n<0)=s:=by
 unfold sg;cases s<;>simp<;>omega
theorem ZbL (s:Bool)(n:Nat):(sg s n).natAbs=n:=by unfold sg;cases s<;>simp
theorem ZpZ {s:Bool}{n:Nat}(h:0<n):sg s n≠0:=by unfold sg;cases s<;>simp<;>omega
theorem Zlr {n k b j:Nat}(a:ml n≤b)(c:k<32*j):ml (n*2^k)≤b+j:=Zn7 a (Zsd c)
theorem Zc0 {n k:Nat}(h:ml n≤k):blen n≤32*k:=by have:=Zq7 n;omega
theorem Zls {a b k:Nat}(ha:ml a≤k)(c:1≤k):ml (kX a b)≤k+1:=by
 have d:ml 1≤1:=lD.2 (by rw[zW];decide)
 exact uD (iM (Zeg a b).2) (ZrM (uD (iM (vG a b)) ha) (uD d c))
theorem Zd0 (g bits:Nat)(b:Bool)(A:qA)(l c:Nat)(s:Bool)(m:Nat)(e:Int)(w:World)(n:CB w g ((bits:Nat):Int) 0)(o:zN w (vI2 b A l c) (sg s m)) :
 yA 122 #[.pointer (some ⟨g,0,none⟩), yV b A l c e] w (RetC w g ((bits:Nat):Int) (limR s m e)):=by
 refine fY (fun i=>i=g) (Φ:=fun w=>(CB w g (bits:Int) 0∧zN w (vI2 b A l c) (sg s m))) func122 rfl qK (fun w' k=>⟨n.ext k,o.ext k⟩) ?_
 refine yY (xq 2 [Δ 3,Δ 4] [yF 4 109 false none 0 0 0,yF 3 109 b A l c e] ?_)
 refine yZ (zD (yY (xq 4 [yB 8 (decide (e<(-1048576)))] [] ?_)))
 rcases bl2 ((decide (e<(-1048576)))) with a|a
 ·rw[a]
  have h:=uB a
  refine xq 4 [yB 12 true] [] ?_
  refine yZ (xa (yY (xq 1 [(13,.v (.pointer (yL g)))] [] ?_)))
  refine Zbd 173 [.pointer (yL g), yI 2] (d:=14) (fun _:Unit=>.tuple #[]) (fun _:Unit=>#[yI bits, yI 2]) (fun _ _=>True) (fun _=>True) (fun w Q=>Q.1) (oF _) (Or.inr rfl) (fun w R Q=>ZhO g _ 2 _ Q.1) (fun _ _ _ _=>trivial) fun _=>?_
  refine xr 0 [Δ 3,Δ 4] [yF 4 109 false none 0 0 0,yF 3 109 b A l c e] ?_
  refine yZ (yY (xq 2 [] [] ?_))
  refine yZ (zJ (zM ?_))
  refine yR (yV false none 0 0 0) fun w' R Q=>?_
  rw[show limR s m e=⟨false,0,0,2⟩ from uQ (by rintro⟨q,r⟩;omega)]
  exact⟨(false,none,0,0),rfl,zN.nil _,R,Q.1.2⟩
 rw[a]
 have h:=uC a
 refine xq 4 [yB 12 (decide (e>1048576))] [] ?_
 refine xe (zB ?_)
 refine yQ ((decide (e>1048576))) (fun f=>?_) fun f=>?_
 ·have j:=uB f
  refine yY (xq 1 [(13,.v (.pointer (yL g)))] [] ?_)
  refine Zbd 173 [.pointer (yL g), yI 2] (d:=14) (fun _:Unit=>.tuple #[]) (fun _:Unit=>#[yI bits, yI 2]) (fun _ _=>True) (fun _=>True) (fun w Q=>Q.1) (oF _) (Or.inr rfl) (fun w R Q=>ZhO g _ 2 _ Q.1) (fun _ _ _ _=>trivial) fun _=>?_
  refine xr 0 [Δ 3,Δ 4] [yF 4 109 false none 0 0 0,yF 3 109 b A l c e] ?_
  refine yZ (yY (xq 2 [] [] ?_))
  refine yZ (zJ (zM ?_))
  refine yR (yV false none 0 0 0) fun w' R Q=>?_
  rw[show limR s m e=⟨false,0,0,2⟩ from uQ (by rintro⟨q,r⟩;omega)]
  exact⟨(false,none,0,0),rfl,zN.nil _,R,Q.1.2⟩
 have j:=uC f
 refine zG (zB (yY (xq 2 [] [yF 4 109 b A l c e] ?_)))
 refine yZ (zJ ?_)
 refine yR (yV b A l c e) fun w' R Q=>?_
 rw[show limR s m e=⟨s,m,e,0⟩ from uZ ⟨qO,qO⟩]
 exact⟨(b,A,l,c),rfl,Q.2,R,Q.1⟩
theorem Zic (g bits:Nat)(b:Bool)(A:qA)(l c:Nat)(z:Int)(a:Bool)(B:qA)(m f d:Nat)(e:Int)(w:World)(hC:CB w g ((bits:Nat):Int) 0)(hN:zN w (vI2 b A l c) z)(hD:zN w (vI2 a B m f) ((d:Nat):Int))(hz:ml z.natAbs≤10000)(hd:ml d≤10000)(q:0<d)(F:0<bits)(hb:bits≤4096)(O0 : -1073741824≤e)(P0:e≤1073741824) :
 yA 80 #[.pointer (some ⟨g,0,none⟩),vI2 b A l c,vI2 a B m f,.int .i64 e] w (RetC w g ((bits:Nat):Int) (wR (decide (z<0)) z.natAbs d e bits)):=by
 refine fY (fun i=>i=g) (Φ:=fun w=>((CB w g (bits:Int) 0∧zN w (vI2 b A l c) (z))∧zN w (vI2 a B m f) ((d:Int)))) func80 rfl qK (fun w' hf=>⟨⟨hC.ext hf,hN.ext hf⟩,hD.ext hf⟩) ?_
 refine zD ?_
 by_cases g0:z=0
 ·refine zC (xq 3 [Δ 5,Δ 6,Δ 8] [yF 8 109 false none 0 0 0,bI2 6 41 a B m f,bI2 5 41 b A l c] ?_)
  refine yZ (zD (yY (xq 1 [eI2 16 b A l c] [] ?_)))
  refine xqc _ _ 17 (fun _:Unit=>yI 0) _ (fun w R Q=>(dU _ z _ Q.1.2).mono (fun _ _ h=>zI h (by rw[g0];rfl))) fun xx=>?_
  refine xq 1 [yB 18 true] [] ?_
  refine yZ (xa (yY (xq 2 [] [] ?_)))
  refine yZ (zJ (zM ?_))
  refine yR (yV false none 0 0 0) fun w' R Q=>?_
  rw[g0,show (0:Int).natAbs=0 from rfl,fE]
  exact⟨(false,none,0,0),rfl,zN.nil _,R,Q.1.1.1⟩
 refine zC (xq 3 [Δ 5,Δ 6,Δ 8] [yF 8 109 false none 0 0 0,bI2 6 41 a B m f,bI2 5 41 b A l c] ?_)
 refine yZ (zD (yY (xq 1 [eI2 16 b A l c] [] ?_)))
 refine xqc _ _ 17 (fun _:Unit=>yI (Int.sign z)) _ (fun w R Q=>yN (dU _ z _ Q.1.2)) fun xx=>?_
 refine xq 1 [yB 18 (((Int.sign z):Int) == 0)] [] ?_
 rw[(show (((Int.sign z):Int) == 0)=false by have:=mt sO.1 g0;simpa using this)]
 refine yZ (xb (zG (zB (yY (xq 3 [Δ 9] [bI2 9 41 b A l c] ?_)))))
 refine yZ (yY (xq 2 [] [bI2 9 41 false A l c] ?_))
 refine yZ (zD ?_)
 have Q0:=Zc0 hz
 have R0:=Zc0 hd
 refine yO 11 zQ ?_
 refine xqg 1 [eI2 22 false A l c] ?_
 refine xqd _ _ 23 (fun _:Unit=>yI (blen z.natAbs:Nat)) _ (fun w R Q=>yN (gG _ _ _ (Q.1.1.2).absv (nfit (mlc hz) qD))) fun xx=>?_
 refine xqg 1 [eI2 24 a B m f] ?_
 refine xqd _ _ 25 (fun _:Unit=>yI (blen d:Nat)) _ (fun w R Q=>yN (gG _ _ _ Q.1.1.2 (nfit (mlc hd) qD))) fun xx=>?_
 refine xqg 1 [yJ 26 (IntKind.i64.wrap (((blen z.natAbs:Nat):Int)-((blen d:Nat):Int)))] ?_
 rw[yW (((blen z.natAbs:Nat):Int)-((blen d:Nat):Int)) (((blen z.natAbs:Nat):Int)-((blen d:Nat):Int)) qO]
 refine xqg 3 [(29,.v (.pointer (yL g)))] ?_
 refine xqj 30 _ (fun w Q=>kV (t:=3) (x:=.tmp 29) (Blk.cell (Q.1.1.1) 0)) ?_
 refine xqg 1 [(31,.v (yI (IntKind.i64.wrap ((((blen z.natAbs:Nat):Int)-((blen d:Nat):Int))-(bits:Int)))))] ?_
 rw[show IntKind.i64.wrap ((((blen z.natAbs:Nat):Int)-((blen d:Nat):Int))-(bits:Int))=rk0 z.natAbs d bits by unfold rk0;rw[IntKind.wrap_i64];omega]
 refine xqg 1 [yJ 10 (rk0 z.natAbs d bits)] ?_
 refine xz (yZ (zO ?_))
 refine xI (fun nn ss ff=>∃ (k:Int),ss=ofL [(0,.v (.pointer (yL g))),yJ 3 e,Δ 5,Δ 6,Δ 8,Δ 9,yJ 10 k] [(9,41,[.v (.bool false),Λ A l c]),yF 8 109 false none 0 0 0,(6,41,[.v (.bool a),Λ B m f]),(5,41,[.v (.bool b),Λ A l c])]∧ff=(fun w=>((CB w g (bits:Int) 0∧zN w (vI2 b A l c) (z))∧zN w (vI2 a B m f) ((d:Int))))∧(k=rk0 z.natAbs d bits∨k=rndK z.natAbs d bits)∧nn=((rndK z.natAbs d bits-k).toNat)) _ ⟨((rk0 z.natAbs d bits)),rfl,rfl,(Or.inl rfl),rfl⟩ (fun w Q=>⟨⟨Q.1.1.1.1.1,Q.1.1.1.1.2⟩,Q.1.1.1.2⟩) ?_
 rintro nn ss ff ⟨k,rfl,rfl,hk,rfl⟩
 refine zO (zD ?_)
 have S0:=Zlp hk
 refine yO 6 zQ ?_
 refine xqf 6 [Δ 11,Δ 12] [bI2 12 41 a B m f,bI2 11 41 false A l c,bI2 12 41 false none 0 0,bI2 11 41 false none 0 0,bI2 9 41 false A l c,yF 8 109 false none 0 0 0,bI2 6 41 a B m f,bI2 5 41 b A l c] ?_
 refine xz (yZ (zD (yY (xq 2 [yB 35 (decide (k≥0))] [bI2 12 41 a B m f,bI2 11 41 false A l c] ?_))))
 refine xe (zB ?_)
 refine yQ ((decide (k≥0))) (fun M=>?_) fun M=>?_
 ·have N:=uB M
  obtain⟨j,rfl⟩:=vW N
  have C:fa z.natAbs (j:Int)=z.natAbs:=Zsh qO
  have D:fb d (j:Int)=d*2^j:=by unfold fb;rw[qT]
  have hj:j≤700000:=qO
  have O:ml z.natAbs≤90000:=qO
  have M0:ml (d*2^j)≤90000:=uD (Zlr (j:=30000) hd qO) qO
  have P:0<d*2^j:=rC q (p2 j)
  have S:fq z.natAbs d ((j:Int))=z.natAbs/(d*2^j):=by unfold fq;rw[C,D]
  refine zC (xq 2 [eI2 36 a B m f,yJ 37 j] [] ?_)
  refine xqc _ _ 38 wN _ (fun w R Q=>(ZbI _ (d:Int) j _ Q.2 (nfit (mlc hd) qD) qO).mono (fun _ _ h=>kE (by rw[show (d:Int)*2^j=((d*2^j:Nat):Int) by rw[tU,tM];rfl] at h;exact h))) fun⟨T,U,V,W⟩=>?_
  refine xq 1 [] [bI2 12 41 T U V W] ?_
  refine yZ (yY (xq 2 [eI2 44 false A l c,eI2 45 T U V W] [] ?_))
  refine xqc _ _ 46 Zay _ (fun w R Q=>yM dX (Zfo (x:=z.natAbs) (Q.1.1.2).absv Q.2 qO qO P)) fun xx=>?_
  obtain⟨⟨u0,v0,w0,x0⟩,⟨T0,U0,V0,W0⟩⟩:=xx
  refine xq 7 [Δ 13] [bI2 13 41 u0 v0 w0 x0] ?_
  refine yZ (zD (zD ?_))
  refine yO 7 zQ ?_
  refine xqg 1 [eI2 49 u0 v0 w0 x0] ?_
  refine xqd _ _ 50 (fun _:Unit=>yI (blen (z.natAbs/(d*2^j)):Nat)) _ (fun w R Q=>yN (gG _ _ _ Q.2.1 (nfit (mlc (uD (iM (vG _ _)) O)) qD))) fun xx=>?_
  refine xqg 3 [(53,.v (.pointer (yL g)))] ?_
  refine xqj 54 _ (fun w Q=>kV (t:=3) (x:=.tmp 53) (Blk.cell (Q.1.1.1.1) 0)) ?_
  refine xqg 1 [(55,.v (.bool (decide (((blen (z.natAbs/(d*2^j)):Nat):Int)>(bits:Int)))))] ?_
  refine xz (xe (zB ?_))
  refine yQ ((decide (((blen (z.natAbs/(d*2^j)):Nat):Int)>(bits:Int)))) (fun X=>?_) fun X=>?_
  ·have h0:=uB X
   have Y:=Zln qO q F hk (by rw[S];omega)
   refine yY (xq 2 [yJ 57 (IntKind.i64.wrap ((j:Int)+1))] [] ?_)
   rw[yW ((j:Int)+1) ((j:Int)+1) qO]
   refine xq 1 [yJ 10 ((j:Int)+1)] [] ?_
   refine yZ (xJ (zE (xL ?_)))
   exact xC _ (by have:=Y.2;omega) ⟨(((j:Int)+1)),rfl,rfl,(Or.inr Y.1),rfl⟩ (fun w Q=>⟨⟨Q.1.1.1.1.1,Q.1.1.1.1.2⟩,Q.1.1.1.2⟩)
  have h0:=uC X
  have E:=Zlo qO q F hk (by rw[S];omega)
  have o:=Zfe (n:=z.natAbs) (d:=d) qO q F
  have i0:ml (rndM z.natAbs d bits)≤1048576:=by unfold rndM;rw[←E,C,D];exact uD (Zls O qD) qO
  refine zG (zB (yY (xq 2 [eI2 58 false A l c,eI2 59 T U V W] [] ?_)))
  refine xqc 121 [vI2 false A l c,vI2 T U V W] 60 wN _ (fun w R Q=>(ZdZ false A l c T U V W (z.natAbs) (d*2^j) _ (Q.1.1.1.1.2).absv Q.1.1.2 qO qO P).mono (fun _ _ h=>kE (by rw[show kX (z.natAbs) (d*2^j)=rndM z.natAbs d bits by unfold rndM;rw[←E,C,D]] at h;exact h))) fun⟨y0,G,H,I⟩=>?_
  refine xq 2 [Δ 15] [bI2 15 41 y0 G H I] ?_
  refine yZ (yY (xq 4 [] [bI2 15 41 b G H I] ?_))
  refine yZ (yY (xr 5 [(0,.v (.pointer (yL g))),yJ 3 e,Δ 5,Δ 6,Δ 8,Δ 9,yJ 10 j,(64,.v (.pointer (yL g))),eI2 65 b G H I,yJ 68 (IntKind.i64.wrap (e+(j:Int)))] [bI2 9 41 false A l c,yF 8 109 false none 0 0 0,bI2 6 41 a B m f,bI2 5 41 b A l c] ?_))
  rw[yW (e+(j:Int)) (e+(j:Int)) qO]
  refine xqc 123 [vI2 b G H I, yI (e+(j:Int))] 69 (shF ((e+(j:Int))+((tzn (rndM z.natAbs d bits):Nat):Int))) _ (fun w R Q=>(ZeW b G H I (sg b (rndM z.natAbs d bits)) ((e+(j:Int))) _ (by have h1:zN _ (vI2 y0 G H I) _:=Q.2;have h2:=h1.spos (pL _);rw[h2] at h1;exact h1.sgn o b) (ZpZ o) (by unfold ZbK;rw[ZbL];exact i0) qO qO).mono (fun _ _ h=>ZjI (by rw[ZbL,Zgs o] at h;exact h))) fun⟨z0,A0,B0,C0⟩=>?_
  obtain⟨r,e0⟩:=yE (limR b (oddM (rndM z.natAbs d bits)) (((e+(j:Int))+((tzn (rndM z.natAbs d bits):Nat):Int))))
  refine Zbd 122 [.pointer (yL g), yV z0 A0 B0 C0 ((e+(j:Int))+((tzn (rndM z.natAbs d bits):Nat):Int))] (d:=70) (shF r.e) (fun _=>#[yI bits, yI r.err]) (fun y w=>zN w (wN y) (sg r.s r.m)) (fun _=>True) (fun w Q=>Q.1.1.1.1.1.1.1) (oF _) (Or.inr rfl) (fun w R Q=>yM Zgr (show Calls _ _ _ _ (RetC w g (bits:Int) r) by rw[←e0];exact Zd0 g bits z0 A0 B0 C0 b (oddM (rndM z.natAbs d bits)) (((e+(j:Int))+((tzn (rndM z.natAbs d bits):Nat):Int))) _ Q.1.1.1.1.1.1.1 Q.2)) (fun _ _ _ _=>trivial) fun⟨j0,k0,l0,m0⟩=>?_
  refine xr 1 [(0,.v (.pointer (yL g))),yJ 3 e,Δ 5,Δ 6,Δ 8,Δ 9,yJ 10 j] [bI2 9 41 false A l c,yF 8 109 j0 k0 l0 m0 r.e,bI2 6 41 a B m f,bI2 5 41 b A l c] ?_
  refine yZ (zJ (wY (zM (wY ?_))))
  refine yR (yV j0 k0 l0 m0 r.e) fun w' R Q=>?_
  have n0:=hN.signb
  have o0:wR (decide (z<0)) z.natAbs d e bits=r:=by unfold wR;rw[uQ qO,ZjJ o,← e0,← E,← n0]
  rw[o0]
  exact⟨(j0,k0,l0,m0),rfl,Q.2,R,Q.1.2⟩
 have N:=uC M
 obtain⟨j,N0⟩:∃ j:Nat,-k=j:=vW qO
 have C:fa z.natAbs k=z.natAbs*2^j:=by unfold fa;rw[N0,qT]
 have D:fb d k=d:=Zsi qO
 have hj:j≤700000:=qO
 have O:ml (z.natAbs*2^j)≤90000:=uD (Zlr (j:=30000) hz qO) qO
 have M0:ml d≤90000:=qO
 have P:=q
 have S:fq z.natAbs d k=(z.natAbs*2^j)/(d):=by unfold fq;rw[C,D]
 refine zC (xq 3 [eI2 39 false A l c,yJ 41 (IntKind.i64.wrap (0-(k)))] [] ?_)
 rw[yW (0-(k)) ((j:Int)) qO]
 refine xqc _ _ 42 wN _ (fun w R Q=>(ZbI _ ((z.natAbs:Nat):Int) j _ (Q.1.2).absv (nfit (mlc hz) qD) qO).mono (fun _ _ h=>kE (by rw[show ((z.natAbs:Nat):Int)*2^j=((z.natAbs*2^j:Nat):Int) by rw[tU,tM];rfl] at h;exact h))) fun⟨Z,a0,b0,c0⟩=>?_
 refine xq 1 [] [bI2 11 41 Z a0 b0 c0] ?_
 refine yZ (yY (xq 2 [eI2 44 Z a0 b0 c0,eI2 45 a B m f] [] ?_))
 refine xqc _ _ 46 Zay _ (fun w R Q=>yM dX (Zfo (x:=z.natAbs*2^j) Q.2 Q.1.2 qO qO P)) fun xx=>?_
 obtain⟨⟨D0,E0,F0,G0⟩,⟨X0,Y0,Z0,a1⟩⟩:=xx
 refine xq 7 [Δ 13] [bI2 13 41 D0 E0 F0 G0] ?_
 refine yZ (zD (zD ?_))
 refine yO 7 zQ ?_
 refine xqg 1 [eI2 49 D0 E0 F0 G0] ?_
 refine xqd _ _ 50 (fun _:Unit=>yI (blen (z.natAbs*2^j/d):Nat)) _ (fun w R Q=>yN (gG _ _ _ Q.2.1 (nfit (mlc (uD (iM (vG _ _)) O)) qD))) fun xx=>?_
 refine xqg 3 [(53,.v (.pointer (yL g)))] ?_
 refine xqj 54 _ (fun w Q=>kV (t:=3) (x:=.tmp 53) (Blk.cell (Q.1.1.1.1) 0)) ?_
 refine xqg 1 [(55,.v (.bool (decide (((blen (z.natAbs*2^j/d):Nat):Int)>(bits:Int)))))] ?_
 refine xz (xe (zB ?_))
 refine yQ ((decide (((blen (z.natAbs*2^j/d):Nat):Int)>(bits:Int)))) (fun d0=>?_) fun d0=>?_
 ·have p0:=uB d0
  have Y:=Zln qO q F hk (by rw[S];omega)
  refine yY (xq 2 [yJ 57 (IntKind.i64.wrap (k+1))] [] ?_)
  rw[yW (k+1) (k+1) qO]
  refine xq 1 [yJ 10 (k+1)] [] ?_
  refine yZ (xJ (zE (xL ?_)))
  exact xC _ (by have:=Y.2;omega) ⟨((k+1)),rfl,rfl,(Or.inr Y.1),rfl⟩ (fun w Q=>⟨⟨Q.1.1.1.1.1,Q.1.1.1.1.2⟩,Q.1.1.1.2⟩)
 have p0:=uC d0
 have E:=Zlo qO q F hk (by rw[S];omega)
 have o:=Zfe (n:=z.natAbs) (d:=d) qO q F
 have i0:ml (rndM z.natAbs d bits)≤1048576:=by unfold rndM;rw[←E,C,D];exact uD (Zls O qD) qO
 refine zG (zB (yY (xq 2 [eI2 58 Z a0 b0 c0,eI2 59 a B m f] [] ?_)))
 refine xqc 121 [vI2 Z a0 b0 c0,vI2 a B m f] 60 wN _ (fun w R Q=>(ZdZ Z a0 b0 c0 a B m f (z.natAbs*2^j) (d) _ Q.1.1.2 Q.1.1.1.2 qO qO P).mono (fun _ _ h=>kE (by rw[show kX (z.natAbs*2^j) (d)=rndM z.natAbs d bits by unfold rndM;rw[←E,C,D]] at h;exact h))) fun⟨H0,J,K,L⟩=>?_
 refine xq 2 [Δ 15] [bI2 15 41 H0 J K L] ?_
 refine yZ (yY (xq 4 [] [bI2 15 41 b J K L] ?_))
 refine yZ (yY (xr 5 [(0,.v (.pointer (yL g))),yJ 3 e,Δ 5,Δ 6,Δ 8,Δ 9,yJ 10 k,(64,.v (.pointer (yL g))),eI2 65 b J K L,yJ 68 (IntKind.i64.wrap (e+k))] [bI2 9 41 false A l c,yF 8 109 false none 0 0 0,bI2 6 41 a B m f,bI2 5 41 b A l c] ?_))
 rw[yW (e+k) (e+k) qO]
 refine xqc 123 [vI2 b J K L, yI (e+k)] 69 (shF ((e+k)+((tzn (rndM z.natAbs d bits):Nat):Int))) _ (fun w R Q=>(ZeW b J K L (sg b (rndM z.natAbs d bits)) ((e+k)) _ (by have h1:zN _ (vI2 H0 J K L) _:=Q.2;have h2:=h1.spos (pL _);rw[h2] at h1;exact h1.sgn o b) (ZpZ o) (by unfold ZbK;rw[ZbL];exact i0) qO qO).mono (fun _ _ h=>ZjI (by rw[ZbL,Zgs o] at h;exact h))) fun⟨I0,J0,K0,L0⟩=>?_
 obtain⟨u,f0⟩:=yE (limR b (oddM (rndM z.natAbs d bits)) (((e+k)+((tzn (rndM z.natAbs d bits):Nat):Int))))
 refine Zbd 122 [.pointer (yL g), yV I0 J0 K0 L0 ((e+k)+((tzn (rndM z.natAbs d bits):Nat):Int))] (d:=70) (shF u.e) (fun _=>#[yI bits, yI u.err]) (fun y w=>zN w (wN y) (sg u.s u.m)) (fun _=>True) (fun w Q=>Q.1.1.1.1.1.1.1) (oF _) (Or.inr rfl) (fun w R Q=>yM Zgr (show Calls _ _ _ _ (RetC w g (bits:Int) u) by rw[←f0];exact Zd0 g bits I0 J0 K0 L0 b (oddM (rndM z.natAbs d bits)) (((e+k)+((tzn (rndM z.natAbs d bits):Nat):Int))) _ Q.1.1.1.1.1.1.1 Q.2)) (fun _ _ _ _=>trivial) fun⟨q0,r0,s0,t0⟩=>?_
 refine xr 1 [(0,.v (.pointer (yL g))),yJ 3 e,Δ 5,Δ 6,Δ 8,Δ 9,yJ 10 k] [bI2 9 41 false A l c,yF 8 109 q0 r0 s0 t0 u.e,bI2 6 41 a B m f,bI2 5 41 b A l c] ?_
 refine yZ (zJ (wY (zM (wY ?_))))
 refine yR (yV q0 r0 s0 t0 u.e) fun w' R Q=>?_
 have n0:=hN.signb
 have o0:wR (decide (z<0)) z.natAbs d e bits=u:=by unfold wR;rw[uQ qO,ZjJ o,← f0,← E,← n0]
 rw[o0]
 exact⟨(q0,r0,s0,t0),rfl,Q.2,R,Q.1.2⟩
theorem Zkv (g bits:Nat)(s:Bool)(A:qA)(l c:Nat)(t:Bool)(B:qA)(m d:Nat)(v:Rat)(w:World)(x:CB w g ((bits:Nat):Int) 0)(z:xD w (vR4 s A l c t B m d) v)(C:ml v.num.natAbs≤10000)(D:ml v.den≤10000)(E:0<bits)(F:bits≤4096) :
 yA 39 #[.pointer (some ⟨g,0,none⟩),vR4 s A l c t B m d] w (RetC w g ((bits:Nat):Int) (wR (decide (v.num<0)) v.num.natAbs v.den 0 bits)):=by
 refine fY (fun i=>i=g) (Φ:=fun w=>(CB w g (bits:Int) 0∧xD w (vR4 s A l c t B m d) (v))) func39 rfl qK (fun w' u=>⟨x.ext u,z.ext u⟩) ?_
 refine yY (xq 2 [Δ 3,Δ 4] [yF 4 109 false none 0 0 0,bR4 3 43 s A l c t B m d] ?_)
 refine yZ (zD ?_)
 refine yO 5 zQ ?_
 refine xqg 4 [(5,.v (.pointer (yL g))),eI2 7 s A l c,eR4 8 s A l c t B m d] ?_
 refine xqd _ _ 9 wN _ (fun w R Q=>yM kE (Zo2 _ (v) _ Q.2)) fun⟨n,o,q,r⟩=>?_
 refine xz ?_
 obtain⟨a,b⟩:=yE (wR (decide (((v).num)<0)) ((v).num).natAbs (v.den) (0) bits)
 refine Zbd 80 [.pointer (yL g),vI2 s A l c,vI2 n o q r, yI 0] (d:=10) (shF a.e) (fun _=>#[yI bits, yI a.err]) (fun y w=>zN w (wN y) (sg a.s a.m)) (fun _=>True) (fun w Q=>Q.1.1) (oF _) (Or.inr rfl) (fun w R Q=>yM Zgr (show Calls _ _ _ _ (RetC w g (bits:Int) a) by rw[←b];exact Zic g bits s A l c ((v).num) n o q r (v.den) (0) _ Q.1.1 Q.1.2.num Q.2 C D v.den_pos qO qO qO qO)) (fun _ _ _ _=>trivial) fun⟨f,h,j,k⟩=>?_
 refine xr 1 [Δ 4] [yF 4 109 f h j k a.e] ?_
 refine yZ (zJ ?_)
 refine yR (yV f h j k a.e) fun w' R Q=>?_
 rw[b]
 exact⟨(f,h,j,k),rfl,Q.2,R,Q.1.2⟩
theorem Zsl {w w':World}{g:Nat}{bits:Int}{r:FR}{e:Ending}(h:RetC w g bits r e w'):∃ y:ShI,e=.returned (shF r.e y)∧Fr (fun i=>i=g) w w'∧Blk 107 w' g [Value.int .i64 bits,.int .i64 r.err].toArray∧(∀ c,c ∈ [Value.int .i64 bits,.int .i64 r.err]→jU (.v c)=true)∧BoxN w w' (fun w=>zN w (wN y) (sg r.s r.m)):=by
 obtain⟨y,b,d,f,j⟩:=Zgr h
 refine⟨y,b,d,f,fun c a=>?_,j⟩
 simp at a
 rcases a with rfl|rfl<;>rfl
theorem Zlt {z:Int}{k:Nat}(h:(Lib.itoa z).length≤k):ml z.natAbs≤k:=Zn5 (uD (Zli z) h)
theorem Zrk {n d bits:Nat}(b:0<n)(c:0<d)(e:0<bits):rndM n d bits≤2^bits:=by
 have f:=ZaB b c e
 have g:=(Zeg (fa n (rndK n d bits)) (fb d (rndK n d bits))).2
 have a:=fU (fq n d (rndK n d bits))
 rw[f] at a
 unfold rndM
 unfold fq at a
 omega
theorem Zbi (b:Int)(w:World) :
 yA 38 #[.int .i64 b] w (RetV w (.bool (decide (8≤b∧b≤1024)))):=by
 refine zV func38 rfl qK (fun w' d=>trivial) ?_
 refine yY (xq 1 [yB 2 false] [] ?_)
 refine yZ (yY (xq 3 [yB 5 (decide (b≥8))] [] ?_))
 rcases bl2 ((decide (b≥8))) with a|a
 ·rw[a]
  have c:=uB a
  refine xq 4 [yB 2 (decide (b≤1024))] [] ?_
  refine yZ (zJ ?_)
  refine yR (.bool (decide (b≤1024))) fun w' R Q=>?_
  exact⟨uX (fun b=>Ending.returned (Value.bool b)) (oE.2 ⟨fun h=>⟨qO,h⟩,fun h=>h.2⟩),R⟩
 rw[a]
 have c:=uC a
 refine xq 4 [yB 2 false] [] ?_
 refine yZ (zJ ?_)
 refine yR (.bool false) fun w' R Q=>?_
 exact⟨by rw[uR qO],R⟩
section
variable {P:Program} {o:Oper} {ρ:Operand→Value} {w:World} {t e k:TypeId} {x y ix:Operand}
theorem Zpz {A:qA}{zs:List Int}{l cap j:Nat}(h:jE w A zs)(a:zs.length=l)(hj:j<l)(ho:o.op=Op.indexAddr t x ix:=by kernel_rfl)(ht:P.underlying t=some (.slice e):=by kernel_rfl)(hs:(P.info? e).map (fun i=>i.size)=some 1:=by kernel_rfl)(hx:ρ x=.slice A l cap:=by kernel_rfl)(hix:ρ ix=.int .i64 (j:Int):=by kernel_rfl):(execOp ρ o).run P w=.ok (.value (atA A j)) w:=by
 obtain⟨b,c,d,_⟩:=h (fun e=>by rw[e] at a;simp at a;omega)
 exact wF (by rw[d];exact fun e=>by cases e) hj ho ht hs hx hix
theorem ZpA {A:qA}{zs:List Int}{z:Int}{j:Nat}(h:jE w A zs)(a:j<zs.length)(c:zs.getD j 0=z)(d:o.op=Op.load t x:=by kernel_rfl)(f:ρ x=atA A j:=by kernel_rfl)(ha:(teOf P t).map (fun e=>e.agg)=some false:=by kernel_rfl) :
 (execOp ρ o).run P w=.ok (.value (.int .i64 z)) w:=by
 obtain⟨b,g,i,_,l⟩:=h (fun e=>by rw[e] at a;simp at a)
 rw[←c]
 exact kV (l j a) d (by rw[f,i,atA,rK,jW]) ha
theorem Zlv {v n:Int}(a:n≠0)(b:o.op=Op.binOp .rem t x y k:=by kernel_rfl)(c:ρ x=.int .i64 v:=by kernel_rfl)(d:ρ y=.int .i64 n:=by kernel_rfl):(execOp ρ o).run P w=.ok (.value (.int .i64 (v.tmod n))) w:=by
 simp only[execOp,b,c,d,eqGuard,binOp,Op.intDiv]
 simp[a]
end
theorem jE.next {w w':World}{A:qA}{zs:List Int}{g:Nat}(h:jE w A zs)(f:Fr (fun i=>i=g) w w')(l:zs≠[]→∀ a,A=some a→a.block≠g):jE w' A zs:=fun d=>by
 obtain⟨b,c,rfl,j,m⟩:=h d
 exact⟨b,c,rfl,uS j f.size,fun i hi=>(f.cell (p:=⟨b,c+i,none⟩) j (l d ⟨b,c,none⟩ rfl)).trans (m i hi)⟩
theorem Zog (v:Int){n:Int}(b:0<n):0≤(v.tmod n+n).tmod n∧(v.tmod n+n).tmod n<n:=by
 have c:=Int.lt_tmod_of_pos v b
 rw[tY (a:=v.tmod n+n) qO]
 exact⟨Int.emod_nonneg _ qO,Int.emod_lt_of_pos _ b⟩
abbrev TB (w:World) (g:Nat) (A:Option Addr) (l c p:Nat):Prop:=Blk 69 w g #[.slice A l c,.int .i64 ((p:Nat):Int)]
theorem Zsn (A:qA)(l c:Nat)(b:Int):wW #[.slice A l c,.int .i64 b]:=by
 intro i k z h;rcases i with _|_|i<;>simp at h
 exact h.1.symm
def RetN (w:World) (g:Nat) (A:Option Addr) (l c:Nat) (n:Int) (e:Ending) (w':World):Prop:=∃ (v p:Nat),e=.returned (.int .i64 ((v:Nat):Int))∧((v:Int)<n∧p≤l)∧Fr (fun i=>i=g) w w'∧TB w' g A l c p
theorem jE.take {w:World}{A:qA}{zs:List Int}(h:jE w A zs)(k:Nat):jE w A (zs.take k):=fun a=>by
 obtain⟨b,c,rfl,d,f⟩:=h (fun e=>a (by rw[e];simp))
 refine⟨b,c,rfl,d,fun i hi=>?_⟩
 rw[uM] at hi
 rw[f i qO,rI,rI,tP qO]
theorem jE.apart {w:World}{A:qA}{zs:List Int}{g:Nat}(h:jE w A zs)(i:w.heap.size≤g):zs≠[]→∀ a,A=some a→a.block≠g:=fun c a e=>by
 obtain⟨b,d,f,j,_⟩:=h c
 rw[f] at e
 injection e with e
 subst e
 show b≠g
 omega
theorem Zrn (A:qA)(l c:Nat)(w:World)(d:l≤c):yA 5 #[.slice A l c] w (fun e w'=>∃ g,e=.returned (.pointer (some ⟨g,0,none⟩))∧w.heap.size≤g∧Ext w w'∧TB w' g A (min l 400) c 0):=by
 obtain⟨k,a⟩:=yE (min l 400)
 have f:min (l:Int) 400=(k:Int):=qO
 have b:k≤c:=qO
 rw[a]
 go_enter func5,ntmps5
 go_wp2
 go_ret
 exact⟨_,rfl,uF _,(Fr.refl _ _).alloc _,Blk.new _ _ _⟩
theorem ZpB (g:Nat)(A:qA)(l c p:Nat)(zs:List Int)(n:Int)(w:World)(r:TB w g A l c p)(s:p≤l)(u:jE w A zs)(B:zs.length=l)(F:l≤1000000)(b:0<n)(G:n≤1048576) :
 yA 19 #[.pointer (some ⟨g,0,none⟩),.int .i64 n] w (RetN w g A l c n):=by
 refine fY (fun i=>i=g) (Φ:=fun w=>(TB w g A l c p∧jE w A zs)) func19 rfl qK (fun w' m=>⟨r.ext m,u.ext m⟩) ?_
 refine yY (xq 1 [yJ 4 0] [] ?_)
 refine yZ (zD (zD ?_))
 refine kR 10 [0,1,3,7,0,16,48,112,240,511] qK qK zQ ?_
 refine xqg 3 [(8,.v (.pointer (some ⟨g,0+1,none⟩)))] ?_
 refine xqj 9 _ (fun w Q=>kV (t:=3) (x:=.tmp 8) (Blk.cell (Q.1) 1)) ?_
 refine xqg 3 [(12,.v (.pointer (yL g)))] ?_
 refine xqj 13 _ (fun w Q=>kV (t:=22) (x:=.tmp 12) (Blk.cell (Q.1) 0)) ?_
 refine xqg 2 [yB 15 (decide ((p:Int)≥(l:Int)))] ?_
 refine xz (xe (zB ?_))
 refine yQ ((decide ((p:Int)≥(l:Int)))) (fun a=>?_) fun a=>?_
 ·have d:=uB a
  refine yY (xq 1 [yJ 4 0] [] ?_)
  refine yZ (zJ (zM ?_))
  refine yR (yI 0) fun w' R Q=>?_
  exact⟨0,p,rfl,⟨qO,s⟩,R,Q.1⟩
 have d:=uC a
 refine zG (zB (zD ?_))
 have f:p<l:=qO
 obtain⟨z,h⟩:=yE (zs.getD p 0)
 refine kR 11 [0,1,3,7,0,16,48,112,255,511,1023] qK qK zQ ?_
 refine xqg 3 [(18,.v (.pointer (yL g)))] ?_
 refine xqj 19 _ (fun w Q=>kV (t:=22) (x:=.tmp 18) (Blk.cell (Q.1) 0)) ?_
 refine xqg 3 [(22,.v (.pointer (some ⟨g,0+1,none⟩)))] ?_
 refine xqj 23 _ (fun w Q=>kV (t:=3) (x:=.tmp 22) (Blk.cell (Q.1) 1)) ?_
 refine xqj 24 _ (fun w Q=>Zpz (t:=22) (e:=3) (x:=.tmp 19) (ix:=.tmp 23) (cap:=c) (j:=p) (Q.2) B f) ?_
 refine xqj 25 _ (fun w Q=>ZpA (t:=3) (x:=.tmp 24) (Q.2) qO h) ?_
 refine xqg 1 [yJ 5 z] ?_
 refine xz (yZ (yY (xq 3 [(26,.v (.pointer (yL g))),(28,.v (.pointer (some ⟨g,0+1,none⟩)))] [] ?_)))
 refine xqk 29 _ (fun w R Q=>kV (t:=3) (x:=.tmp 28) (Blk.cell (Q.1) 1)) ?_
 refine xq 1 [yJ 30 (IntKind.i64.wrap ((p:Int)+1))] [] ?_
 rw[yW ((p:Int)+1) (((p+1:Nat):Int)) qO]
 refine xq 2 [(32,.v (.pointer (some ⟨g,0+1,none⟩)))] [] ?_
 refine Zqx (t:=3) (x:=.tmp 32) (y:=.tmp 30) g (0+1) (yI (p+1:Nat)) (fun _=>True) (fun w Q=>Q.1) (Nat.lt_succ_self 1) (Or.inr rfl) rfl rfl (fun _ _ _ _=>trivial) ?_
 refine xr 0 [yJ 1 n,yJ 4 0,yJ 5 z] [] ?_
 refine yZ (zD ?_)
 obtain⟨v,C⟩:∃ v:Nat,(z.tmod n+n).tmod n=v:=vW (Zog z b).1
 have D:=(Zog z b).2
 have E:=Int.lt_tmod_of_pos z b
 have q:=Int.tmod_lt_of_pos z b
 refine zC (xq 2 [yJ 33 z,yJ 34 n] [] ?_)
 refine xqk 35 (yI (z.tmod n)) (fun w R Q=>Zlv (t:=3) (k:=3) (x:=.tmp 33) (y:=.tmp 34) qO) ?_
 refine xq 2 [yJ 37 (IntKind.i64.wrap ((z.tmod n)+n))] [] ?_
 rw[yW (z.tmod n+n) (z.tmod n+n) qO]
 refine xq 1 [yJ 38 n] [] ?_
 refine xqk 39 (yI v) (fun w R Q=>by rw[←C];exact Zlv (t:=3) (k:=3) (x:=.tmp 37) (y:=.tmp 38) qO) ?_
 refine xq 1 [yJ 4 v] [] ?_
 refine yZ (zJ ?_)
 refine yR (yI v) fun w' R Q=>?_
 exact⟨v,p+1,rfl,⟨qO,qO⟩,R,Q.2⟩
end Go.Proofs.YtdlgidnkmbklcaaGreatDoor
