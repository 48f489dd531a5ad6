/-
 My texts Fb, Fdm, Fdc, Nx, Ny, FlE, FllL, Rb23, Nz, FslL, Ne, Fvl, Nc, Nsq, Nss2, Rn1, Rn2, Rn3, Rn4 put together.
-/
import Derived.RangeFuncKeeps
import Derived.RangeFuncBox
import Derived.RangeFuncLeaves
import Derived.RangeFuncCalls
import Derived.OwnWalkIn
import Derived.TacticsInMore
import Derived.LoopNIn
import Derived.LoopIn
import Derived.Test.YtenchljfmfgeoaaGreatDoorR20
import Derived.Test.YtenchljfmfgeoaaGreatDoorR18
import Derived.RangeFuncFrom
import Derived.Shelf.Strings.BuilderK
import Derived.Shelf.Strings.Repeat
import Derived.Deep.RegionLaw
import Derived.Test.YtenchljfmfgeoaaGreatDoorR15
import Derived.Laws.StructEq
import Derived.Deep.RegionHeld3
set_option maxRecDepth 100000
set_option maxHeartbeats 8000000
namespace Go.Proofs.YtenchljfmfgeoaaGreatDoor
open Go.RowKit Tryz
section
def cL (n k:Nat):List Nat:=(List.range k).map fun j=>n-1-j
theorem ZcS (n k:Nat):cL n (k+1)=cL n k ++ [n-1-k]:=by simp[cL,List.range_succ]
theorem Zi0 (n k:Nat):(cL n k).length=k:=by simp[cL]
def KpS (Bs b:Nat) (A B:World):Prop:=B.heap[Bs]? = A.heap[Bs]? ∧ B.heap[b]? = A.heap[b]?
theorem KpS.refl (a b:Nat)(A:World):KpS a b A A:=⟨rfl,rfl⟩
theorem KpS.trans {a b:Nat}{A B C:World}(h:KpS a b A B)(k:KpS a b B C):KpS a b A C:=⟨k.1.trans h.1,k.2.trans h.2⟩
theorem KpS.cell1 {a b:Nat}{A B:World}(h:KpS a b A B)(j:Nat):B.cell? ⟨a,j,none⟩=A.cell? ⟨a,j,none⟩:=World.cell?_of_block h.1
theorem KpS.cell2 {a b:Nat}{A B:World}(h:KpS a b A B)(j:Nat):B.cell? ⟨b,j,none⟩=A.cell? ⟨b,j,none⟩:=World.cell?_of_block h.2
attribute [local go_sem] Oper.semAt_some
theorem Zj9 (n l h b cap:Nat)(xs:qN)(K:1≤n)(u:xs.length≤4294967296)(J w:List Nat→World→Prop)(E:∀ pre x W,J pre W→pre.length<xs.length→YieldAt Fence.wide (n-1) prog l #[.int .i64 ((x:Nat):Int),.int .u64 ((xs[x]?.getD 0:Nat):Int)] W fun e W' =>
 (e=.returned (.bool true)∧J (pre ++ [x]) W'∧KpS h b W W')∨(e=.returned (.bool false)∧w (pre ++ [x]) W'))(W:World)(o:W.cell? ⟨h,0,none⟩=some (.slice (some ⟨b,0,none⟩) xs.length cap))(F:∀ j,j<xs.length→W.cell? ⟨b,j,none⟩=some (.int .u64 ((xs[j]?.getD 0:Nat):Int)))(G:J [] W) :
 CallsIn Fence.wide n prog 175 #[.func (.yield l) #[] #[],.pointer (some ⟨h,0,none⟩)] W fun e W'=>(∃ v,e=.returned v) ∧
 ((∃ y,y=cL xs.length xs.length∧J y W')∨(∃ pre,(∃ k,k≤xs.length∧pre=cL xs.length k)∧w pre W')):=by
 refine callsIn_of_wp func175 rfl trivial ?_ rfl
 simp only[ntmps175,pW,sE,nD,Nat.reduceAdd,Nat.reduceSub,Array.replicate_succ,Array.replicate_zero,List.push_toArray,List.append_toArray,pD,nA]
 gi_wp2
 gi_loopw [3] (fun i wr=>∃ k:Nat,k≤xs.length∧i=.int .i64 ((xs.length:Int)-1-k)∧J (cL xs.length k) wr∧KpS h b W wr)
  (fun i _=>(intOf i+1).toNat)
 case atStart=>exact⟨0,tA _,qS,G,KpS.refl _ _ _⟩
 case round =>
  obtain⟨k,L,rfl,c,a⟩:=hrel
  have H:=(a.cell1 0).trans o
  by_cases p:k<xs.length
  ·have d:wr.cell? ⟨b,xs.length-1-k,none⟩=some (.int .u64 ((xs[xs.length-1-k]?.getD 0:Nat):Int)):=(a.cell2 _).trans (F _ qO)
   obtain⟨M,z,m,A,B,C⟩:=E _ (xs.length-1-k) wr c (by rw[Zi0];exact p)
   obtain⟨j,q⟩:=yE (xs.length-1-k)
   rw[q] at d B C
   have D:(xs.length:Int)-1-(k:Int)=(j:Int):=qO
   rw[D]
   have I:j<xs.length:=qO
   obtain⟨xj,f⟩:=yE (xs[j]?.getD 0)
   rw[f] at d B
   clear f
   have r:=zh q
   clear q D
   gi_wp2
   refine C.mono ?_
   rintro e N (⟨rfl,s,t⟩|⟨rfl,g⟩)
   ·gi_wp2
    go_roundw
    case rel=>exact⟨k+1,qO,by have:=r.out;simp<;>omega,by rw[ZcS,r.out];exact s,a.trans t⟩
    case measure=>simp[intOf]<;>omega
   gi_wp2
   refine bodyPost_ret (results_none rfl _ _ _) rfl ?_
   exact⟨⟨_,rfl⟩,.inr ⟨_,⟨k+1,qO,by rw[ZcS,r.out]⟩,g⟩⟩
  obtain rfl:k=xs.length:=qO
  gi_wp2
  go_end0
  exact⟨⟨_,rfl⟩,.inl ⟨_,rfl,c⟩⟩
theorem ZgD (n a b cap:Nat)(xs:qN)(g:1≤n)(c:xs.length≤4294967296)(w:World)(h:a<w.heap.size)(i:b<w.heap.size)(d:w.cell? ⟨a,0,none⟩=some (.slice (some ⟨b,0,none⟩) xs.length cap))(m:∀ j,j<xs.length→w.cell? ⟨b,j,none⟩=some (.int .u64 ((xs[j]?.getD 0:Nat):Int))) :
 SeqStopsK Fence.wide n prog 175 #[.pointer (some ⟨a,0,none⟩)] (fun x:Nat=>#[Value.int .i64 (x:Int),Value.int .u64 ((xs[x]?.getD 0:Nat):Int)]) (KpS a b)
  (fun o=>o=cL xs.length xs.length) (fun e=>∃ k,k≤xs.length∧e=cL xs.length k) xs.length w:=fun l J q W f _ _ r s =>
 Zj9 n l a b cap xs g c J q r W ((f.cell (p:=⟨a,0,none⟩) h).trans d) (fun j t=>(f.cell (p:=⟨b,j,none⟩) i).trans (m j t)) s
theorem Zi1 (a:qA)(len cap:Nat)(w:World) :
 yA 147 #[.slice a len cap] w fun e w'=>e=.returned (.func (.func 175) #[] #[.pointer (some ⟨w.heap.size,0,none⟩)])∧w'=w.alloc (.cells #[.slice a len cap] 106):=by
 go_enter func147,ntmps147
 go_wp2
 go_ret
 exact⟨rfl,rfl⟩
end
def ZbE (cs:List Nat) (j:Nat):List UInt8:=if j+1<cs.length then List.replicate (19-(Lib.decDigits (cs[j]?.getD 0)).length) 48 ++ Lib.decDigits (cs[j]?.getD 0) else Lib.decDigits (cs[j]?.getD 0)
def lF (cs:List Nat) (l:List Nat):List UInt8:=l.flatMap (ZbE cs)
theorem ZcU (cs l:qN)(j:Nat):lF cs (l ++ [j])=lF cs l ++ ZbE cs j:=by simp[lF]
theorem ZeD {cs:qN}(a:∀ c∈cs,c<10^19)(d:∃ l c,cs=l ++ [c]∧0<c):∀ k,k≤cs.length→lF cs (cL cs.length k)=wN (chV (cs.drop (cs.length-k)))
 | 0,_=>by rw[Nat.sub_zero,vE (uF _)];rfl
 | k+1,hk=>by
  have e:=ZeD a d k qO
  rw[ZcS,ZcU,e]
  have h:=Zpp (cs:=cs) (i:=cs.length-(k+1)) qO rfl a d
  rw[show cs.length-1-k=cs.length-(k+1) by omega,h]
  unfold ZbE
  by_cases b:cs.length-(k+1)+1<cs.length
  ·rw[vC b,vC b,show cs.length-(k+1)+1=cs.length-k by omega]
  have:k=0:=qO
  subst this
  rw[uO b,uO b,Nat.sub_zero,vE (uF _)]
  rfl
theorem ZnS {cs:qN}{n:Nat}(h:ChR n cs 0)(b:0<n):lF cs (cL cs.length cs.length)=Lib.decDigits n:=by
 have a:cs≠[]:=fun e=>by have:=h.eq;rw[e] at this;simp[chV] at this;omega
 rw[ZeD h.lt (h.top rfl a) _ (uF _),rI,tX]
 have:=h.eq
 rw[tT,tG] at this
 rw[←this,jA b]
theorem ZbU:∀ (k u:Nat),u<10^(k+1)→Lib.nDigits u≤k+1
 | 0,u,h=>by rw[Lib.nDigits_small (by simpa using h)];exact uF _
 | k+1,u,h=>by
  by_cases a:u<10
  ·rw[Lib.nDigits_small a];omega
  rw[Lib.nDigits_big a]
  have:=ZbU k (u/10) (by rw[uN] at h;omega)
  omega
theorem ZkV {c:Nat}(h:c<10^19):(Lib.decDigits c).length≤19:=by
 rw[Lib.decDigits_length]
 exact ZbU 18 c h
theorem ZnT {cs:qN}(h:∀ c∈cs,c<10^19)(j:Nat):(ZbE cs j).length≤19:=by
 have b:cs[j]?.getD 0<10^19:=by
  rcases vL j cs.length with a|a
  ·rw[uP a];exact h _ (sD a)
  rw[vN a];decide
 have:=ZkV b
 unfold ZbE
 split
 ·rw[vA,sI];omega
 exact this
theorem Zhs {cs:qN}(h:∀ c∈cs,c<10^19):∀ l,(lF cs l).length≤19*l.length
 | []=>by simp[lF]
 | j :: l=>by
  have a:=Zhs h l
  have b:=ZnT h j
  have e:lF cs (j :: l)=ZbE cs j ++ lF cs l:=by simp[lF]
  rw[e,vA,sE]
  omega
/-! ### the builder -/
theorem Zau (B b:Nat)(l:List UInt8)(s:List UInt8)(w:World)(h:Lib.IsBuilderF 193 5 B b (Lib.byteCells l) w)(a:l.length+s.length≤140737488355328)(c:B≤w.heap.size) :
 yA 149 #[.pointer (some ⟨b,0,none⟩),.string ⟨s.toArray⟩] w fun e w'=>e=.returned (.tuple #[.int .i64 (s.length:Int),.nilIface])∧(Lib.IsBuilderF 193 5 B b (Lib.byteCells (l ++ s)) w'∧Below B w w'∧Lib.OthersKept 5 (some b) w w'):=by
 have d:(⟨s.toArray⟩:ByteArray).size=s.length:=by rw[←zQ,gP]
 refine (Any.Builder_WriteString_k (ρ:=lays105_ren) { lays105 with } Tryz.Builder_Extra_105 B b (Lib.byteCells l) ⟨s.toArray⟩ w h (by rw[Lib.byteCells_length,d];exact a) c).mono ?_
 rintro e w' ⟨rfl,f,i,j⟩
 refine⟨by rw[d],Or.inr ?_,i,j⟩
 rw[Lib.strCells_toArray] at f
 rw[show Lib.byteCells (l ++ s)=Lib.byteCells l ++ Lib.byteCells s by simp[Lib.byteCells]]
 exact f
theorem Zi3 (c:Nat)(w:World)(d:c≤19) :
 yA 150 #[.string ⟨#[48]⟩,.int .i64 (c:Int)] w fun e w'=>e=.returned (.string ⟨(List.replicate c (48:UInt8)).toArray⟩)∧Ext w w':=by
 rcases vL c 2 with h|h
 ·have:c=0∨c=1:=qO
  rcases this with rfl|rfl
  ·refine (Tryz.strings_Repeat_zero _ w).mono ?_
   rintro e w' ⟨rfl,rfl⟩
   exact⟨rfl,Fr.refl _ _⟩
  refine (Tryz.strings_Repeat_one _ w).mono ?_
  rintro e w' ⟨rfl,rfl⟩
  exact⟨rfl,Fr.refl _ _⟩
 have a:(⟨#[48]⟩:ByteArray).size=1:=rfl
 refine (Tryz.strings_Repeat_main ⟨#[48]⟩ c w h qO (by rw[a];omega) (by rw[a];decide)).mono ?_
 rintro e w' ⟨rfl,b⟩
 refine⟨?_,Fr.ofBelow b⟩
 have:∀ n,Lib.repeatL [(48:UInt8)] n=List.replicate n 48:=by
  intro n;induction n with
  | zero=>rfl
  | succ n ih=>simp[Lib.repeatL,oL] at ih ⊢;first|exact ih | (rw[ih])
 rw[show (⟨#[48]⟩:ByteArray).data.toList=[48] from rfl,this]
/-! ### what stays -/
theorem Zi4 {B b:Nat}{T e:TypeId}{c:List Value}{W W':World}{row:Option Nat}(h:Lib.IsBuilderF T e B b c W)(j:W.grownBy W' row)(k:∀ r,row=some r→∃ o:Obj,W.heap[r]? = some o∧o.isCells=false):Lib.IsBuilderF T e B b c W':=by
 have a:∀ p,Lib.BuilderAtF T e B b p c W→Lib.BuilderAtF T e B b p c W':=by
  rintro p ⟨u,v,l,⟨y,d⟩,z⟩
  refine⟨u,v,(grownBy_keeps_cells j k l rfl).trans l,⟨y,?_⟩,z⟩
  rcases d with d|⟨g,f,i,A,C,D,m,E⟩
  ·exact Or.inl d
  exact Or.inr ⟨g,f,i,A,C,D,(grownBy_keeps_cells j k m rfl).trans m,E⟩
 exact h.elim (fun x=>Or.inl (a _ x)) (fun x=>Or.inr (a _ x))
theorem Zka {B b:Nat}{T e:TypeId}{c:List Value}{W W':World}(h:Lib.IsBuilderF T e B b c W)(r:Ext W W'):Lib.IsBuilderF T e B b c W':=by
 have l:∀ (k:Nat) (o:Obj),W.heap[k]? = some o→W'.heap[k]? = some o:=fun k o m=>by rw[r.block k (rU.1 m).1 (fun f=>f)];exact m
 have a:∀ p,Lib.BuilderAtF T e B b p c W→Lib.BuilderAtF T e B b p c W':=by
  rintro p ⟨u,v,y,⟨z,d⟩,A⟩
  refine⟨u,v,l _ _ y,⟨z,?_⟩,A⟩
  rcases d with d|⟨g,i,j,C,D,E,F,G⟩
  ·exact Or.inl d
  exact Or.inr ⟨g,i,j,C,D,E,l _ _ F,G⟩
 exact h.elim (fun x=>Or.inl (a _ x)) (fun x=>Or.inr (a _ x))
theorem ZhS {B b:Nat}{T e:TypeId}{d:List Value}{W:World}(h:Lib.IsBuilderF T e B b d W):∃ c t f,W.heap[b]? = some (.cells c t f):=by
 rcases h with ⟨_,v,a,_⟩|⟨_,v,a,_⟩<;>exact⟨_,_,_,a⟩
theorem ZeE {B n:Nat}{w W W':World}{row:Option Nat}(h:Below B w W)(d:B≤w.heap.size)(a:W.grownBy W' row)(b:∀ r,row=some r→n≤r)(f:B≤n):Below B w W':=by
 refine⟨a.os.trans h.os,a.tape.trans h.tape,a.output.trans h.output,uD h.size a.size,fun k c=>?_⟩
 rw[a.block k (by have:=h.size;omega) (fun e=>by have:=b k e.symm;omega)]
 exact h.block k c
theorem ZqX {e:TypeId}{b:Nat}{w w':World}(h:Lib.OthersKept e (some b) w w')(d:w.heap.size≤w'.heap.size)(f:∃ c t fz,w.heap[b]? = some (.cells c t fz)):KeepsOthers w w':=by
 refine⟨d,fun k o a ho=>h k o a ?_ ?_⟩
 ·intro e
  injection e with e
  obtain⟨c,t,fz,i⟩:=f
  rw[e,i] at a
  injection a with a
  rw[←a] at ho
  cases ho
 rintro c fz rfl
 cases ho
theorem Fr.others {w w':World}(h:Ext w w'):KeepsOthers w w':=⟨h.size,fun k o a _=>by rw[h.block k (rU.1 a).1 (fun f=>f)];exact a⟩
theorem ZbF {e:TypeId}{b k:Nat}{o:Obj}{w w':World}(h:Lib.OthersKept e (some b) w w')(a:w.heap[k]? = some o)(d:k≠b)(f:∀ c fz,o≠.cells c e fz):w'.heap[k]? = some o :=
 h k o a (fun e=>by injection e with e;exact d e) f
structure DcJ (w:World) (q g c2:Nat) (cs:List Nat) (t:List UInt8) (W:World):Prop where
 below:Below w.heap.size w W
 size:q+2≤W.heap.size
 bd:Lib.IsBuilderF 193 5 w.heap.size q (Lib.byteCells t) W
 box:Blk 106 W w.heap.size #[.slice (some ⟨g,0,none⟩) cs.length c2]
 bs:Blk 106 W (q+1) #[.slice (some ⟨g,0,none⟩) cs.length c2]
 row:Own .u64 141 W g cs
section
variable {w W W':World} {q g c2 n:Nat} {cs:List Nat} {t s:List UInt8} {row:Option Nat}
theorem DcJ.kept (h:DcJ w q g c2 cs t W)(a:W.grownBy W' row)(b:∀ r,row=some r→n≤r∧∃ o:Obj,W.heap[r]? = some o∧o.isCells=false)(d:w.heap.size≤n):DcJ w q g c2 cs t W':=by
 obtain⟨tail,f,c⟩:=h.row
 exact⟨ZeE h.below (uF _) a (fun r e=>(b r e).1) d,uD h.size a.size,Zi4 h.bd a (fun r e=>(b r e).2),(grownBy_keeps_cells a (fun r e=>(b r e).2) h.box rfl).trans h.box,(grownBy_keeps_cells a (fun r e=>(b r e).2) h.bs rfl).trans h.bs,tail,f,(grownBy_keeps_cells a (fun r e=>(b r e).2) c rfl).trans c⟩
theorem DcJ.step (h:DcJ w q g c2 cs t W)(Q:Ext W W'):DcJ w q g c2 cs t W'∧KeepsOthers W W'∧KpS (q+1) g W W':=by
 have a:=h.size
 exact⟨⟨((Fr.ofBelow h.below).trans Q).toBelow,uD a Q.size,Zka h.bd Q,h.box.ext Q,h.bs.ext Q,h.row.ext Q⟩,Fr.others Q,Q.block _ qO (fun f=>f),Q.block _ h.row.lt (fun f=>f)⟩
theorem DcJ.write (h:DcJ w q g c2 cs t W)(p:w.heap.size<q)(k:g<q)(l:Lib.IsBuilderF 193 5 w.heap.size q (Lib.byteCells (t ++ s)) W')(b:Below w.heap.size W W')(a:Lib.OthersKept 5 (some q) W W') :
 DcJ w q g c2 cs (t ++ s) W'∧KeepsOthers W W'∧KpS (q+1) g W W':=by
 obtain⟨tail,m,d⟩:=h.row
 have o:W'.heap[w.heap.size]? = some _:=ZbF a h.box qO (fun c f e=>by injection e with _ e;cases e)
 have i:W'.heap[q+1]? = some _:=ZbF a h.bs qO (fun c f e=>by injection e with _ e;cases e)
 have j:W'.heap[g]? = some _:=ZbF a d qO (fun c f e=>by injection e with _ e;cases e)
 exact⟨⟨h.below.trans b,uD h.size b.size,l,o,i,tail,m,j⟩,ZqX a b.size (ZhS h.bd),i.trans h.bs.symm,j.trans d.symm⟩
end
section
theorem Zem {P:Program}{g:Array Oper}{o:Oper}{a:Act}{w:World}{K:Act→World→Prop}{Q:Exit→Act→World→Prop}{E:Prop}(l:o.guard=none)(s x:Operand)(t:TypeId)(p:o.op=Op.call { callee:=Callee.builtin Builtin.append,args:=#[s,x],argTypes:=#[t,t] })(e:TypeId)(k:IntKind)(bytes:Nat)(q:P.underlying t=some (.slice e))(f:(P.info? e).map (fun i=>(i.zero,i.size,i.bytes))=some (some (.int k 0),1,bytes))(A X:qA)(n m cap c:Nat)(r:a.eval s=.slice A n cap)(u:a.eval x=.slice X m c)(xs news:qN)(v:xs.length=n)(y:news.length=m)(z:Buf k e w A cap xs)(B:zE k w X news)(j:n+m≤maxLen)(d:(n+m)*bytes≤140737488355328)(C:∀ A' cap' w',Buf k e w' A' cap' (xs ++ news)→Fr (xM A) w w'→(∀ b,xM A' b→xM A b∨b=w.heap.size)→K (a.put o.dst (.slice A' (n+m) cap')) w') :
 if Region.wanted o (yielded g a.tmps)=true then Oper.wp P o a w K Q else E:=by
 have D:Region.wanted o (yielded g a.tmps)=true:=by simp[Region.wanted,l]
 rw[vC D]
 obtain⟨A',cap',w',h,F,G,H⟩:=ZaX (P:=P) w t o.type e k bytes q f A X n m cap c xs news v y z B j d
 unfold Oper.wp execOp
 simp only[p,resolve,invoke,builtin,Sem.run_bind,Sem.run_pure,Result.andThen_ok,List.map_toArray,pT,pM,r,u,h]
 exact C _ _ _ F G H
theorem ChR.bound {n r:Nat}{cs:qN}(h:ChR n cs r)(a:0<r):cs.length<blen n:=by
 refine gU.2 ?_
 have b:2^cs.length≤(10^19)^cs.length:=sX qD _
 have c:(10^19)^cs.length*1≤(10^19)^cs.length*r:=uI _ a
 have:=h.eq
 omega
structure DcI (w wr:World) (b bx n:Nat) (rs cs:List Nat) (A:Option Addr) (c:Nat):Prop where
 ext:Ext w wr
 own:Own .u64 141 wr b rs
 dig:Dig W64 rs
 trim:Trim rs
 ch:ChR n cs (val W64 rs)
 box:Blk 106 wr bx #[.slice A cs.length c]
 buf:Buf .u64 141 wr A c cs
 news:∀ i,xM A i→w.heap.size≤i∧i≠b∧i≠bx
theorem Zi5 (A:qA)(l c:Nat)(w:World)(a:zF w (.slice A l c) 0):yA 102 #[.slice A l c] w (Zbd w (Lib.decDigits 0)):=by
 have b:l=0:=a.len0
 subst b
 go_enter func102,ntmps102
 go_wp2
 go_ret
 exact⟨by rw[Lib.decDigits_one qD];rfl,Fr.refl _ _⟩
attribute [local go_sem] Oper.semAt_some
theorem Zkb (A:qA)(xs:qN)(c n:Nat)(w:World)(hg:Glob w)(hn:0<n)(hX:zE .u64 w A xs)(hd:Dig W64 xs)(ht:Trim xs)(hv:val W64 xs=n)(hl:xs.length≤1000000)(h0:0<xs.length) :
 yA 102 #[.slice A xs.length c] w (Zbd w (Lib.decDigits n)):=by
 have E1:blen n≤64000000:=by
  have y:=fS n
  have z:=xO hd ht
  rw[hv] at z
  omega
 have HG:=zh hg
 have HX:=zh hX
 have Hd:=zh hd
 have Ht:=zh ht
 have Hv:=zh hv
 clear hg hX hd ht hv
 refine (callsIn_wide (n:=3)).1 ?_
 refine callsIn_of_wp_marks func102 rfl trivial ?_ rfl
 simp only[ntmps102,pW,sE,nD,Nat.reduceAdd,Nat.reduceSub,Array.replicate_succ,Array.replicate_zero,List.push_toArray,List.append_toArray,pD,nA]
 refine wpIn_wide.2 ?_
 go_wp2_with fail
 refine (ZfO A xs c _ (HX.out.ext ((Fr.refl _ _).alloc _)) qO h0).mono ?_
 rintro e w1 ⟨b,Q,rfl,hb,w0,C,hO⟩
 have x0:=zh C
 have HO:=zh hO
 have F1:w.heap.size<b:=by simp at hb;omega
 have d:Hid (DcI w w1 b w.heap.size n xs [] none 0):=⟨((Fr.refl _ _).alloc _).trans x0.out,HO.out,Hd.out,Ht.out,by rw[Hv.out];exact ChR.start n,(Blk.new _ _ _).ext x0.out,Buf.nil,fun i hi=>by obtain⟨a,ha,_⟩:=hi;cases ha⟩
 clear C hO hb
 go_wp2
 go_loopw [4] (fun v4 wr=>∃ (rs cs:List Nat) (A2:Option Addr) (s:Nat),v4=.slice (some ⟨b,0,none⟩) rs.length Q∧rs.length≤Q∧rs.length≤1000000∧Hid (DcI w wr b w.heap.size n rs cs A2 s))
  (fun _ wr=>match wr.cell? ⟨w.heap.size,0,none⟩ with | some (.slice _ m _)=>64000001-m | _=>0)
 case atStart=>exact⟨xs,[],none,0,rfl,w0,hl,d⟩
 case round =>
  obtain⟨rs,cs,A2,s,rfl,G1,H1,d⟩:=hrel
  by_cases Y:0<rs.length
  ·have f0:0<val W64 rs:=bM d.out.trim zM (fun e=>by rw[e] at Y;simp at Y)
   have c1:cs.length<64000000:=by have:=d.out.ch.bound f0;omega
   have Z:wr.cell? ⟨w.heap.size,0,none⟩=some (.slice A2 cs.length s):=d.out.box.cell 0
   have d1:=d.out.box.frozen 0
   obtain⟨r,hr⟩:=yE (val W64 rs%10000000000000000000)
   have Hr:=zh hr
   have e1:=zh f0
   clear hr f0
   go_wp2_with fail
   first | (go_region_law (first
    | (
     refine Zem rfl (.tmp 19) (.tmp 22) 106 rfl 141 .u64 8 underlying106 eE A2 (some ⟨w2.heap.size,0,none⟩) cs.length 1 s 1 rfl rfl cs [r] rfl rfl HBuf.out HSh.out (by simp only[maxLen];omega) qO ?_
     intro A3 c3 w3 y0 g0 z0
     have R:=HBox.out.fr g0 (fun h=>(d.out.news _ h).2.2 rfl)
     have f1:=zh R
     have I1:=R.cell 0
     have J1:=R.frozen 0
     have g1:=zh y0
     have A0:=zh g0
     have i1:=zh z0
     clear R y0 g0 z0)
    | (
     go_simp
     go_at_call 146
     refine (Zbx b Q rs 10000000000000000000 _ d.out.own.drew qO d.out.dig qD (by rw[zO];decide)).mono ?_
     rintro e w2 ⟨qs,rfl,hq,T,E⟩
     rw[Hr.out]
     have k:=d.out.box.fr (Fr.undrew T) (fun e=>qO)
     have K1:=k.cell 0
     have B1:=(k.alloc (.cells #[.int .u64 (r:Int)] 141)).cell 0
     have HBox:=zh (k.alloc (.cells #[.int .u64 (r:Int)] 141))
     have HBuf:=zh ((d.out.buf.fr (Fr.undrew T) (fun i hi e=>(d.out.news i hi).2.1 e)).ext ((Fr.refl _ w2).alloc (.cells #[.int .u64 (r:Int)] 141)))
     have HSh:Hid (zE .u64 (w2.alloc (.cells #[.int .u64 (r:Int)] 141)) (some ⟨w2.heap.size,0,none⟩) [r]):=(Own.new w2 141 .u64 [r] []).shows0
     have B0:=zh E
     have C0:=zh T
     have Hq:=zh hq
     clear k E T hq)))|skip
   all_goals
    have D0:=((B0.out.alloc (.cells #[.int .u64 (r:Int)] 141)).fr A0.out (fun h=>(d.out.news _ h).2.1 rfl)).far (p:=⟨w.heap.size,0,none⟩) (by show b≠w.heap.size;omega) (.slice A3 (cs.length+1) c3)
    have E0:Ext w (w3.setCell ⟨w.heap.size,0,none⟩ (.slice A3 (cs.length+1) c3)) :=
     (((d.out.ext.next (Fr.undrew C0.out) (fun i hi e=>qO)).alloc (.cells #[.int .u64 (r:Int)] 141)).next A0.out (fun i hi h=>by have:=(d.out.news i h).1;omega)).setCell (p:=⟨w.heap.size,0,none⟩) (Or.inr (uF _)) _
    have i0:∀ i,xM A3 i→w.heap.size≤i∧i≠b∧i≠w.heap.size:=fun i hi=>by
     rcases i1.out i hi with h|h
     ·exact d.out.news i h
     have y:=d.out.ext.size
     have z:wr.heap.size≤w2.heap.size:=C0.out.size
     have P:=d.out.own.lt
     have h4:=B0.out.lt
     have h5:=d.out.box.lt
     rw[World.size_alloc] at h
     omega
    have F:=g1.out.fr (S:=fun i=>i=w.heap.size) ((show Fr (fun i=>i=w.heap.size) w3 w3 from Fr.refl _ _).setCell (p:=⟨w.heap.size,0,none⟩) (Or.inl rfl) (.slice A3 (cs.length+1) c3)) (fun i hi e=>(i0 i hi).2.2 e)
    have a0:Blk 106 (w3.setCell ⟨w.heap.size,0,none⟩ (.slice A3 (cs.length+1) c3)) w.heap.size #[.slice A3 (cs.length+1) c3]:=f1.out.set_ 0 _
    have F0:=zh D0
    have j1:=zh E0
    have k1:=zh i0
    have j0:=zh F
    have G0:=zh a0
    have H0:=zh Z
    have L1:rs.length=qs.length:=Hq.out.1.symm
    clear D0 E0 i0 F a0 Z d1
    go_wp2_with fail
    refine (Zdx _ qs Q _ F0.out.shows0 qO qO).mono ?_
    rintro e w5 ⟨rfl,G⟩
    have H:=G0.out.ext G
    have b0:=H.cell 0
    have I0:=zh b0
    have k0:=d.out.ch.step e1.out
    rw[show (10:Nat)^19=10000000000000000000 from rfl,Hr.out] at k0
    have l1:Hid (DcI w w5 b w.heap.size n (wH qs) (cs ++ [r]) A3 c3) :=
     ⟨j1.out.trans G,(F0.out.take _).ext G,jW Hq.out.2.1,jZ qs,by rw[lA,Hq.out.2.2];exact k0,by rw[vA,rF];exact H,j0.out.ext G,k1.out⟩
    have l0:=zh (wJ qs)
    have J0:=zh (iR qs qs.length)
    clear G H b0 k0
    go_wp2
    go_roundw
    case rel=>exact⟨wH qs,cs ++ [r],A3,c3,by rw[l0.out],by have:=J0.out;rw[l0.out];omega,by have:=J0.out;rw[l0.out];omega,l1⟩
    case measure=>rw[I0.out,H0.out];simp only[List.getElem?_toArray];first|omega | (simp;omega)
  obtain rfl:rs=[]:=qM qO
  have t:=d.out.ch
  rw[eL] at t
  have m0:cs≠[]:=fun e=>by have:=t.eq;rw[e] at this;simp[chV] at this;omega
  have M1:=rX.2 m0
  have c1:cs.length≤64000000:=by
   have y:2^(cs.length-1)≤n:=by
    have h:=t.eq
    obtain⟨l,c0,rfl,m1⟩:=t.top rfl m0
    rw[ZcT] at h
    have z:(10^19)^l.length*1≤(10^19)^l.length*c0:=uI _ m1
    have P:2^l.length≤(10^19)^l.length:=sX qD _
    rw[vA,rF,tM]
    omega
   have:=gU.2 y
   omega
  have n0:=zh (ZnS t hn)
  have K0:=zh t.lt
  obtain⟨g,rfl,o0,n1,_,_⟩:=d.out.buf.open_ m0
  have o1:=zh o0
  have U:=d.out.box
  have N1:=d.out.news g ⟨_,rfl,rfl⟩
  have p1:=zh U
  have HE:=zh d.out.ext
  have O1:=U.cell 0
  have v:w.heap.size<wr.heap.size:=U.lt
  have I:=o0.lt
  clear t o0 n1 U d
  go_wp2_with fail
  refine (Zi1 (some ⟨g,0,none⟩) cs.length s _).mono ?_
  rintro e wS ⟨rfl,rfl⟩
  go_wp2_with fail
  have P1:Below w.heap.size w wr:=HE.out.toBelow
  have k:Blk 106 ((wr.alloc (.cells #[.pointer none,.slice none 0 0] 193)).alloc (.cells #[.slice (some ⟨g,0,none⟩) cs.length s] 106)) w.heap.size #[.slice (some ⟨g,0,none⟩) cs.length s]:=(p1.out.alloc _).alloc _
  have q1:Blk 193 ((wr.alloc (.cells #[.pointer none,.slice none 0 0] 193)).alloc (.cells #[.slice (some ⟨g,0,none⟩) cs.length s] 106)) wr.heap.size #[.pointer none,.slice none 0 0]:=(Blk.new wr _ _).alloc _
  have L0:Blk 106 ((wr.alloc (.cells #[.pointer none,.slice none 0 0] 193)).alloc (.cells #[.slice (some ⟨g,0,none⟩) cs.length s] 106)) (wr.heap.size+1) #[.slice (some ⟨g,0,none⟩) cs.length s]:=by
   have:=Blk.new (wr.alloc (.cells #[.pointer none,.slice none 0 0] 193)) 106 #[.slice (some ⟨g,0,none⟩) cs.length s]
   rwa [World.size_alloc] at this
  have d0:Own .u64 141 ((wr.alloc (.cells #[.pointer none,.slice none 0 0] 193)).alloc (.cells #[.slice (some ⟨g,0,none⟩) cs.length s] 106)) g cs:=(o1.out.alloc _).alloc _
  have r1:Below w.heap.size w ((wr.alloc (.cells #[.pointer none,.slice none 0 0] 193)).alloc (.cells #[.slice (some ⟨g,0,none⟩) cs.length s] 106)):=((HE.out.alloc _).alloc _).toBelow
  have Q1:((wr.alloc (.cells #[.pointer none,.slice none 0 0] 193)).alloc (.cells #[.slice (some ⟨g,0,none⟩) cs.length s] 106)).heap.size=wr.heap.size+2:=by rw[World.size_alloc,World.size_alloc]
  generalize ((wr.alloc (.cells #[.pointer none,.slice none 0 0] 193)).alloc (.cells #[.slice (some ⟨g,0,none⟩) cs.length s] 106))=wS at *
  refine (wpIn_wide (n:=3)).1 ?_
  refine wpIn_rangeFunc_ownF (n:=3) rfl qD (gf:=175) (lb:=#[.pointer (some ⟨wr.heap.size+1,0,none⟩)]) rfl trivial (enters_of func175 qK rfl)
   (ZgD 2 (wr.heap.size+1) g s cs qD qO wS qO qO (L0.cell 0) (fun j hj=>d0.cell hj)) KpS.trans (fun W q o o' hq _ _ _=>⟨World.putObj_heap_other qO,World.putObj_heap_other qO⟩) (Below.refl _ _) (fun _=>rfl)
   (fun f W=>DcJ w wr.heap.size g s cs (lF cs f) W) (fun _ _ _=>False)
   (fun f A B row h hg hr=>h.kept hg hr qO) (fun _ _ _ _ _ h _ _=>h)
   ⟨r1,qO,Or.inl ⟨qO,.slice none 0 0,q1,⟨rfl,Or.inl ⟨rfl,rfl⟩⟩,by simp[Value.ownBlock]⟩,k,L0,d0⟩ ?a1 ?assign ?body ?done ?stop
  case assign =>
   intro l x W K hK
   gi_wp2
   exact hK
  case stop =>
   rintro D c f W _ _ h _
   exact h.elim
  case body =>
   rintro l f x W J C1
   obtain⟨u,hu⟩:=yE (cs[x]?.getD 0)
   have L:u<10^19:=by
    rw[←hu]
    rcases vL x cs.length with hj|hj
    ·rw[uP hj];exact K0.out _ (sD hj)
    rw[vN hj];decide
   rw[hu]
   have s1:=ZkV L
   have M0:=ZgC u W (HG.out.ext (Fr.ofBelow J.below)) (by rw[zO];exact qJ L qD)
   have R1:=Zhs K0.out f
   have N0:=J.below.size
   have HU:=zh hu
   have t1:=zh M0
   have HJ:=zh J
   have u1:=J.box.cell 0
   clear hu L M0 J
   obtain⟨D,hD⟩:=yE (Lib.decDigits u)
   rw[hD] at s1
   gi_wp2_with fail
   refine⟨trivial,((callsIn_wide.2 t1.out).inRound l).mono ?_⟩
   rintro e W1 ⟨rfl,C⟩
   rw[hD]
   have HD:=zh hD
   obtain⟨p0,O0,P0⟩:=HJ.out.step C
   have D1:=p0.box.cell 0
   have V:=zh p0
   have Q0:=zh O0
   have R0:=zh P0
   clear p0 O0 P0 C hD u1
   by_cases hx:x+1<cs.length
   ·gi_wp2_with fail
    rw[show (19:Int)-(D.length:Int)=((19-D.length:Nat):Int) by omega]
    refine⟨trivial,((callsIn_wide.2 (Zi3 (19-D.length) W1 qO)).inRound l).mono ?_⟩
    rintro e W2 ⟨rfl,S0⟩
    obtain⟨T0,X,U0⟩:=V.out.step S0
    have q0:=zh T0
    have v1:=zh (Q0.out.trans X)
    have x1:=zh (R0.out.trans U0)
    clear T0 X U0 S0
    gi_wp2_with fail
    refine⟨trivial,((callsIn_wide.2 (Zau w.heap.size wr.heap.size (lF cs f) (List.replicate (19-D.length) 48) W2 q0.out.bd (by rw[sI];omega) q0.out.below.size)).inRound l).mono ?_⟩
    rintro e W3 ⟨rfl,y,z,P⟩
    obtain⟨V0,W0,X0⟩:=q0.out.write v I y z P
    have r0:=zh V0
    have y1:=zh (v1.out.trans W0)
    have z1:=zh (x1.out.trans X0)
    clear V0 W0 X0 y z P
    gi_wp2_with fail
    refine⟨trivial,((callsIn_wide.2 (Zau w.heap.size wr.heap.size (lF cs f ++ List.replicate (19-D.length) 48) D W3 r0.out.bd (by rw[vA,sI];omega) r0.out.below.size)).inRound l).mono ?_⟩
    rintro e W4 ⟨rfl,y,z,P⟩
    obtain⟨M,N,O⟩:=r0.out.write v I y z P
    have s0:=zh M
    have t0:=zh (y1.out.trans N)
    have u0:=zh (z1.out.trans O)
    clear M N O y z P
    gi_wp2
    refine⟨t0.out,u0.out,?_⟩
    show DcJ w wr.heap.size g s cs (lF cs (f ++ [x])) W4
    rw[ZcU,ZbE,vC hx,HU.out,HD.out,← vU]
    exact s0.out
   gi_wp2_with fail
   refine⟨trivial,((callsIn_wide.2 (Zau w.heap.size wr.heap.size (lF cs f) D W1 V.out.bd qO V.out.below.size)).inRound l).mono ?_⟩
   rintro e W4 ⟨rfl,y,z,P⟩
   obtain⟨M,N,O⟩:=V.out.write v I y z P
   have s0:=zh M
   have t0:=zh (Q0.out.trans N)
   have u0:=zh (R0.out.trans O)
   clear M N O y z P
   gi_wp2
   refine⟨t0.out,u0.out,?_⟩
   show DcJ w wr.heap.size g s cs (lF cs (f ++ [x])) W4
   rw[ZcU,ZbE,uO hx,HU.out,HD.out]
   exact s0.out
  case done =>
   rintro D ys W hD rfl J hK
   have v0:=J.bd
   rw[n0.out] at v0
   have Y0:=Tryz.Builder_String_any_k w.heap.size wr.heap.size (Lib.decDigits n) W v0 J.below.size
   have N0:=J.below.size
   have A1:=zh Y0
   have HJ:=zh J
   clear v0 Y0 J
   go_wp2_with fail
   refine A1.out.mono ?_
   rintro e W2 ⟨rfl,_,Z0,E⟩
   have X:W2.heap[D]? = some (.deferred (some [])):=ZbF E hK qO (fun c fz e=>by cases e)
   have e0:=ZeE (HJ.out.below.trans Z0) (uF _) (grownBy_putObj' W2 D (.deferred none)) (n:=wS.heap.size) (fun r e=>by cases e;exact hD) qO
   have b1:=zh e0
   clear e0 Z0 E
   go_wp2
   refine⟨qS,.inl ⟨_,_,rfl,run_takeDeferred X,?_⟩⟩
   exact⟨_,results_tmp rfl _ _ _,rfl,Fr.ofBelow b1.out⟩
theorem bZ (A:qA)(l c n:Nat)(w:World)(j:Glob w)(b:zF w (.slice A l c) n)(d:wl n≤1000000):yA 102 #[.slice A l c] w (Zbd w (Lib.decDigits n)):=by
 rcases uJ n with rfl|k
 ·exact Zi5 A l c w b
 obtain⟨o,f,p,e,q,m,g,i,a⟩:=b
 injection e with e1 e2 e3
 subst e1 e2 e3
 rw[←a,← xO g i] at d
 refine Zkb A f c n w j k m g i a d ?_
 rcases uJ f.length with h|h
 ·rw[qM h] at a;simp at a;omega
 exact h
end
def ldR (l:List UInt8) (x:Int):FR:=if fvB l x=true then ⟨(xB l).1,zI (xB l).2,x,0⟩ else ⟨false,0,0,0⟩
def shLd (v:Bool) (r:FR) (x:ShN):Value:=.tuple #[yV r.s x.1 x.2.1 x.2.2 r.e,.bool v]
def Zf2 (w:World) (v:Bool) (r:FR) (e:Ending) (w':World):Prop:=∃ x:ShN,e=.returned (shLd v r x)∧zF w' (xH x) r.m∧Ext w w'
theorem ZgE {w w':World}{e:Ending}{v:Bool}{r:FR}(h:Zf2 w v r e w'):wV (shLd v r) (fun x w=>zF w (xH x) r.m) w e w':=by
 obtain⟨x,rfl,a,Q⟩:=h
 exact⟨x,rfl,Q,boxn Q (fun S b c d=>a.nrb c d)⟩
def frT (r:FR):List UInt8:=if r.err=0 then Lib.itoa (sg r.s r.m) else []
def frE (r:FR):Int:=if r.err=0 then r.e else 0
abbrev Zp0 (w:World) (r:FR):Ending→World→Prop:=RetV w (.tuple #[yS ⟨(frT r).toArray⟩ (frE r),.int .i64 r.err])
def Fine (r:FR):Prop:=(r.s=true→0<r.m)∧wl r.m≤1000000
theorem Ze0 (k:Int):Fine ⟨false,0,0,k⟩:=⟨(fun h=>by cases h),(by show (0:Nat)≤1000000;decide)⟩
theorem ZnU {s:Bool}{n:Nat}{e:Int}(h:wl n≤1000000):Fine (wI s n e):=by
 unfold wI
 split
 ·exact Ze0 0
 rename_i a
 split
 ·obtain⟨b,c⟩:=jV (show 0<n by omega)
  exact⟨fun _=>by show 0<oddM n;omega,uD (wR (uY _ _)) h⟩
 exact Ze0 2
theorem ZnV {s:Bool}{n d bits:Nat}{e:Int}(a:0<d)(b:0<bits)(c:bits≤4096):Fine (wL s n d e bits):=by
 unfold wL
 split
 ·exact Ze0 0
 refine ZnU ?_
 have f:=bI (n:=n) (d:=d) (bits:=bits) qO a b
 have h:=(Zca (fa n (rndK n d bits)) (fb d (rndK n d bits))).2
 have i:fa n (rndK n d bits)/fb d (rndK n d bits)<2^bits:=by
  have:=iI (fq n d (rndK n d bits))
  rw[f] at this
  exact this
 have g:rndM n d bits≤2^bits:=by unfold rndM;omega
 have j:wl (2^bits)≤1000:=Zba qO
 have:=wR g
 omega
theorem ZgF (n:Nat):(Lib.decDigits n).length≤20*wl n+1:=by
 rw[Lib.decDigits_length]
 refine ZbU (20*wl n) n ?_
 have b:=ZdZ n
 have a:W64^wl n≤(10^20)^wl n:=sX (by rw[zO];decide) _
 rw[←rQ] at a
 have c:10^(20*wl n)≤10^(20*wl n+1):=uW qD qO
 omega
theorem ZcW {l:List UInt8}{x:Int}(h:fvB l x=true) : -1048576≤x∧x≤1048576∧(xB l).2.all zW=true∧((xB l).1=true→0<zI (xB l).2):=by
 unfold fvB at h
 by_cases a:l=[48]
 ·rw[vC a] at h
  have:=uA h
  subst a
  exact⟨qO,qO,qD,fun h=>by cases h⟩
 rw[uO a] at h
 obtain⟨_,_,b,c,d⟩:=uA h
 exact⟨b.1,b.2,c,fun _=>qO⟩
theorem ZcX (l:List UInt8):(xB l).2.length≤l.length:=by
 unfold xB;split
 ·simp
 exact uF _
theorem Zp1 {l:List UInt8}{x:Int}(c:l.length≤100000):wl (ldR l x).m≤100000:=by
 unfold ldR
 split
 ·rename_i h
  have a:=ZcW h
  have b:=kD _ a.2.2.1
  have d:=ZcX l
  exact Za7 b qO
 show (0:Nat)≤100000;decide
theorem ZdM (s:ByteArray)(x:Int)(w:World)(l:(bytes s).length≤100000) :
 yA 100 #[yS s x] w (Zf2 w (fvB (bytes s) x) (ldR (bytes s) x)):=by
 refine zT (Φ:=fun w=>True) func100 rfl qK (fun w' t=>trivial) ?_
 refine zC ?_
 by_cases a:fvB (bytes s) x=true
 ·refine zB (xq 3 [(1,.p 1 0),(2,.p 2 0),yB 3 false] [yF 2 109 false none 0 0 0,yG 1 76 s x] ?_)
  refine yZ (zC (yY (xq 1 [(6,.v (yS s x))] [] ?_)))
  refine xqc 44 [yS s x] 7 (fun _:Unit=>.bool true) _ (fun w R Q=>(ZcR s x _ qO).mono (fun _ _ h=>zL h (by rw[a]))) fun m=>?_
  refine xq 1 [yB 8 false] [] ?_
  refine yZ (xb (zJ (zA (zC (zC ?_)))))
  by_cases b:bytes s=[48]
  ·refine zB (xq 3 [yB 12 ((s:ByteArray).toList == (⟨#[48]⟩:ByteArray).toList)] [] ?_)
   rw[ZkJ b]
   refine yZ (xa (yY (xq 3 [yB 3 true] [] ?_)))
   refine yZ (zG (zH ?_))
   refine yR (.tuple #[yV false none 0 0 0,.bool true]) fun w' R Q=>?_
   have n:x=0:=by have h:=a;unfold fvB at h;rw[vC b] at h;exact uA h
   have j:ldR (bytes s) x=⟨false,0,0,0⟩:=by unfold ldR;rw[vC a,b,n];rfl
   rw[a,j]
   exact⟨(none,0,0),rfl,zF.zero _,R⟩
  refine zB (xq 3 [yB 12 ((s:ByteArray).toList == (⟨#[48]⟩:ByteArray).toList)] [] ?_)
  rw[ZkK b]
  refine yZ (xb (zJ (zA (yY (xq 2 [yT 16 s] [] ?_)))))
  refine xqc 70 [.string s] 17 Zf1 _ (fun w R Q=>yM ZdK (ZdL s _)) fun⟨r,neg⟩=>?_
  refine xq 5 [yB 4 neg,yT 5 r] [] ?_
  refine yZ (zC ?_)
  refine SXc.know (p:=xB (bytes s)=(neg,bytes r)) (fun w _ Q=>Q.2) fun k=>?_
  have i:=ZcW a
  rw[k] at i
  have f:(bytes r).all zW=true:=i.2.2.1
  have g:=ZcX (bytes s)
  rw[k] at g
  have o:r.size≤100000:=by rw[←zQ];exact uD g l
  have q:wl (zI (bytes r))≤100000:=Za7 (kD _ f) (uD g l)
  refine yO 6 zP ?_
  refine xqg 2 [yB 20 neg,yT 21 r] ?_
  refine xqd 111 [.string r] 22 xH _ (fun w R Q=>yM xD (ZcV r _ (zI (bytes r)) f rfl qO qO)) fun⟨c,d,e⟩=>?_
  refine xqg 3 [(25,.v (yV neg c d e x))] ?_
  refine xz (xq 2 [yB 3 true] [yF 2 109 neg c d e x] ?_)
  refine yZ (zG ?_)
  refine yR (.tuple #[yV neg c d e x,.bool true]) fun w' R Q=>?_
  rw[a,show ldR (bytes s) x=⟨neg,zI (bytes r),x,0⟩ by unfold ldR;rw[vC a,k]]
  exact⟨(c,d,e),rfl,Q.2,R⟩
 refine zB (xq 3 [(1,.p 1 0),(2,.p 2 0),yB 3 false] [yF 2 109 false none 0 0 0,yG 1 76 s x] ?_)
 refine yZ (zC (yY (xq 1 [(6,.v (yS s x))] [] ?_)))
 refine xqc 44 [yS s x] 7 (fun _:Unit=>.bool false) _ (fun w R Q=>(ZcR s x _ qO).mono (fun _ _ h=>zL h (by rw[sQ.2 a]))) fun m=>?_
 refine xq 1 [yB 8 true] [] ?_
 refine yZ (xa (yY (xq 3 [yB 3 false] [] ?_)))
 refine yZ (zG (zH ?_))
 refine yR (.tuple #[yV false none 0 0 0,.bool false]) fun w' R Q=>?_
 rw[sQ.2 a,show ldR (bytes s) x=⟨false,0,0,0⟩ from uO a]
 exact⟨(none,0,0),rfl,zF.zero _,R⟩
theorem ZeF (s:Bool)(A:qA)(l c m:Nat)(e:Int)(w:World)(g:Glob w)(i:zF w (.slice A l c) m)(n:wl m≤1000000)(j:s=true→0<m) :
 yA 108 #[yV s A l c e] w (RetV w (yS ⟨(Lib.itoa (sg s m)).toArray⟩ e)):=by
 refine zT (Φ:=fun w=>(Glob w∧zF w (.slice A l c) (m))) func108 rfl qK (fun w' f=>⟨g.ext f,i.ext f⟩) ?_
 refine yY (xq 2 [(1,.p 1 0),(2,.p 2 0)] [yG 2 76 ⟨#[]⟩ 0,yF 1 109 s A l c e] ?_)
 refine yZ (yY (xq 2 [eS1 5 A l c] [] ?_))
 refine xqc 102 [.slice A l c] 6 (fun _:Unit=>.string ⟨(Lib.decDigits m).toArray⟩) _ (fun w R Q=>yN (bZ A l c m _ Q.1 Q.2 qO)) fun o=>?_
 refine xq 1 [yT 3 ⟨(Lib.decDigits m).toArray⟩] [] ?_
 refine yZ (zC (yY (xq 2 [yB 8 s] [] ?_)))
 refine xe (zA ?_)
 refine yQ (s) (fun b=>?_) fun b=>?_
 ·have d:=b
  refine zB (xq 1 [yT 9 ⟨(Lib.decDigits m).toArray⟩] [] ?_)
  refine yK 10 (.string ⟨(45 :: Lib.decDigits m).toArray⟩) (fun w R Q=>ZaA (x:=(Operand.const (Value.string { data:=#[45] }))) (y:=.tmp 9) (t:=9) (k:=9) qK qK qK (by have q:=ZgF m;rw[←zQ ⟨(Lib.decDigits m).toArray⟩,gP];have:(⟨#[45]⟩:ByteArray).size=1:=rfl;omega) (Zcd [45] (Lib.decDigits m))) ?_
  refine xr 1 [(1,.p 1 0),(2,.p 2 0),yT 3 ⟨(45 :: Lib.decDigits m).toArray⟩] [yG 2 76 ⟨#[]⟩ 0,yF 1 109 s A l c e] ?_
  refine yZ (yY (xq 5 [] [yG 2 76 ⟨(45 :: Lib.decDigits m).toArray⟩ e] ?_))
  refine yZ (zG ?_)
  refine yR (yS ⟨(45 :: Lib.decDigits m).toArray⟩ e) fun w' R Q=>?_
  exact⟨by rw[d,ZaP (neg:=true) (a:=m) (fun h=>by have:=j d;omega)];rfl,R⟩
 have d:=b
 refine zJ (zA (yY (xq 5 [] [yG 2 76 ⟨(Lib.decDigits m).toArray⟩ e] ?_)))
 refine yZ (zG ?_)
 refine yR (yS ⟨(Lib.decDigits m).toArray⟩ e) fun w' R Q=>?_
 exact⟨by rw[d,ZaP (neg:=false) (a:=m) (fun _=>rfl)];rfl,R⟩
theorem Zkc (r:FR)(A:qA)(l c:Nat)(w:World)(h:Glob w)(i:zF w (.slice A l c) r.m)(f:Fine r) :
 yA 63 #[yV r.s A l c r.e,.int .i64 r.err] w (Zp0 w r):=by
 refine zT (Φ:=fun w=>(Glob w∧zF w (.slice A l c) (r.m))) func63 rfl qK (fun w' g=>⟨h.ext g,i.ext g⟩) ?_
 refine yY (xq 3 [(2,.p 2 0),(4,.p 4 0),yJ 5 0] [yG 4 76 ⟨#[]⟩ 0,yF 2 109 r.s A l c r.e] ?_)
 refine yZ (zC (yY (xq 2 [yB 7 ((r.err:Int) != 0)] [] ?_)))
 refine xe (zA ?_)
 refine yQ (((r.err:Int) != 0)) (fun a=>?_) fun a=>?_
 ·have b:=Zbs a
  refine yY (xq 4 [yJ 5 r.err] [] ?_)
  refine yZ (zG (zH ?_))
  refine yR (.tuple #[yS ⟨#[]⟩ 0, yI r.err]) fun w' R Q=>?_
  exact⟨by rw[show frT r=[] from uO qO,show frE r=0 from uO qO],R⟩
 have b:=Zbt a
 refine zJ (zA (yY (xq 1 [(10,.v (yV r.s A l c r.e))] [] ?_)))
 refine xqc 108 [yV r.s A l c r.e] 11 (fun _:Unit=>.agg #[.string ⟨(Lib.itoa (sg r.s r.m)).toArray⟩, yI r.e]) _ (fun w R Q=>yN (ZeF r.s A l c r.m r.e _ Q.1 Q.2 f.2 f.1)) fun j=>?_
 refine xq 2 [yJ 5 0] [yG 4 76 ⟨(Lib.itoa (sg r.s r.m)).toArray⟩ r.e] ?_
 refine yZ (zG ?_)
 refine yR (.tuple #[yS ⟨(Lib.itoa (sg r.s r.m)).toArray⟩ r.e, yI 0]) fun w' R Q=>?_
 have d:r.err=0:=qO
 exact⟨by rw[show frT r=Lib.itoa (sg r.s r.m) from vC d,show frE r=r.e from vC d,d],R⟩
theorem Zht {l:List UInt8}{v:Rat}(h:xU l=some v):(Lib.itoa v.num).length≤l.length∧(Lib.itoa (v.den:Int)).length≤l.length+1:=by
 have a:=dN h
 rw[←a]
 unfold xE
 split
 ·rename_i b
  rw[b]
  refine⟨uF _,?_⟩
  have:(Lib.itoa ((1:Nat):Int)).length=1:=by rw[gO,fT qO];rfl
  omega
 simp only[vA,sE]
 omega
theorem Zmf {n k:Nat}(h:(Lib.decDigits n).length≤k):wl n≤k:=by
 have a:=kD (Lib.decDigits n) (kZ n)
 rw[fU] at a
 exact Za7 a h
theorem ZkW (z:Int):(Lib.decDigits z.natAbs).length≤(Lib.itoa z).length:=by
 have h:=ZcX (Lib.itoa z)
 rw[ZeB] at h
 exact h
noncomputable def rndF (v:Rat) (n:Nat):FR:=wL (decide (v.num<0)) v.num.natAbs v.den 0 n
noncomputable def kQ (l:List UInt8) (b:Int):FR:=if (xU l).isSome=true then (if 8≤b∧b≤1024 then rndF (valF l) b.toNat else ⟨false,0,0,3⟩) else ⟨false,0,0,1⟩
theorem Zi7 (s:ByteArray)(v:Rat)(n:Nat)(w:World)(y:Glob w)(z:(bytes s).length≤570)(u:xU (bytes s)=some v)(A:8≤n)(B:n≤1024) :
 yA 64 #[.string s,.int .i64 ((n:Nat):Int)] w (wA w (rndF v n)):=by
 have C:valF (bytes s)=v:=dO u
 have D:=Zht u
 refine zT (Φ:=fun w=>Glob w) func64 rfl qK (fun w' E=>y.ext E) ?_
 refine yY (xq 2 [(4,.p 4 0),yJ 5 0] [yF 4 109 false none 0 0 0] ?_)
 refine yZ (yY (xq 1 [yT 11 s] [] ?_))
 refine xqc 109 [.string s] 12 (fun _:Unit=>.tuple #[.string ⟨(Lib.itoa v.num).toArray⟩,.string ⟨(Lib.itoa (v.den:Int)).toArray⟩]) _ (fun w R Q=>yN ((show Calls _ _ _ _ (RetV w (.tuple #[.string ⟨(Lib.itoa v.num).toArray⟩,.string ⟨(Lib.itoa (v.den:Int)).toArray⟩])) by rw[←C];exact Zmd s _ Q z))) fun J=>?_
 refine xq 5 [yT 6 ⟨(Lib.itoa v.num).toArray⟩,yT 7 ⟨(Lib.itoa (v.den:Int)).toArray⟩] [] ?_
 refine yZ (yY (xq 1 [yT 16 ⟨(Lib.itoa v.num).toArray⟩] [] ?_))
 refine xqc 70 [.string ⟨(Lib.itoa v.num).toArray⟩] 17 Zf1 _ (fun w R Q=>yM ZdK (ZdL ⟨(Lib.itoa v.num).toArray⟩ _)) fun⟨r,neg⟩=>?_
 refine xq 5 [yB 8 neg,yT 9 r] [] ?_
 refine yZ (zC ?_)
 refine SXc.know (p:=xB (bytes ⟨(Lib.itoa v.num).toArray⟩)=(neg,bytes r)) (fun w _ Q=>Q.2) fun x=>?_
 rw[gP,ZeB] at x
 injection x with hneg hr
 have i:(bytes r).length≤570:=by rw[←hr];have:=ZkW v.num;omega
 have F:r.size≤570:=by rw[←zQ];exact i
 have b:(bytes r).all zW=true:=by rw[←hr];exact kZ _
 have c:zI (bytes r)=v.num.natAbs:=by rw[←hr];exact fU _
 have G:wl v.num.natAbs≤1000:=by rw[←c];exact Za7 (kD _ b) qO
 have H:wl v.den≤1000:=Zmf (by have:=D.2;rw[gO] at this;omega)
 have j:(bytes ⟨(Lib.itoa (v.den:Int)).toArray⟩).length≤571:=by rw[gP];omega
 have I:(⟨(Lib.itoa (v.den:Int)).toArray⟩:ByteArray).size≤571:=by rw[←zQ];exact j
 refine zB (xq 2 [yB 20 neg,yT 21 r] [] ?_)
 refine xqc 111 [.string r] 22 xH _ (fun w R Q=>yM xD (ZcV r _ v.num.natAbs b c qO qO)) fun⟨k,l,m⟩=>?_
 refine xq 1 [yT 23 ⟨(Lib.itoa (v.den:Int)).toArray⟩] [] ?_
 refine xqc 111 [.string ⟨(Lib.itoa (v.den:Int)).toArray⟩] 24 xH _ (fun w R Q=>yM xD (ZcV _ _ v.den (by rw[gP,gO];exact kZ _) (by rw[gP,gO];exact fU _) qO qO)) fun⟨o,q,t⟩=>?_
 refine xq 1 [yJ 25 (n:Int)] [] ?_
 obtain⟨a,d⟩:=yE (wL neg v.num.natAbs v.den 0 n)
 refine xqc 110 [.bool neg,.slice k l m,.slice o q t, yI 0, yI (n:Int)] 26 (shNb a) _ (fun w R Q=>yM wC ((show Calls _ _ _ _ (wA w a) by rw[←d];exact ZdD neg _ _ _ _ _ _ _ _ 0 n _ Q.1.1.1.1 Q.1.2 Q.2 qO qO v.den_pos qO qO qO qO))) fun⟨f,g,h⟩=>?_
 refine xq 4 [yJ 5 a.err] [yF 4 109 a.s f g h a.e] ?_
 refine yZ (zG ?_)
 refine yR (.tuple #[yV a.s f g h a.e, yI a.err]) fun w' R Q=>?_
 rw[show rndF v n=wL neg v.num.natAbs v.den 0 n by unfold rndF;rw[hneg],d]
 exact⟨(f,g,h),rfl,Q.2,R⟩
theorem Zmg (s:ByteArray)(b:Int)(w:World)(o:Glob w)(m:(bytes s).length≤570) :
 yA 38 #[.string s,.int .i64 b] w (Zp0 w (kQ (bytes s) b)):=by
 refine zT (Φ:=fun w=>Glob w) func38 rfl qK (fun w' q=>o.ext q) ?_
 refine yY (xq 2 [(4,.p 4 0),yJ 5 0] [yG 4 76 ⟨#[]⟩ 0] ?_)
 refine yZ (zC (zC ?_))
 by_cases i:(xU (bytes s)).isSome=true
 ·obtain⟨v,j⟩:=sC.1 i
  refine zB (xq 1 [yT 6 s] [] ?_)
  refine xqc 61 [.string s] 7 (fun _:Unit=>.bool true) _ (fun w R Q=>(bK s _ Q m).mono (fun _ _ h=>zL h (by rw[i]))) fun k=>?_
  refine xq 1 [yB 8 false] [] ?_
  refine yZ (xb (zJ (zA (zC (zC ?_)))))
  by_cases l:8≤b∧b≤1024
  ·obtain⟨n,r⟩:∃ n:Nat,b=n:=⟨b.toNat,qO⟩
   subst r
   refine zB (xq 1 [yJ 10 (n:Int)] [] ?_)
   refine xqc 62 [yI (n:Int)] 11 (fun _:Unit=>.bool true) _ (fun w R Q=>(ZeC _ _).mono (fun _ _ h=>zL h (by rw[vM l]))) fun k=>?_
   refine xq 1 [yB 12 false] [] ?_
   refine yZ (xb (zJ (zA (yY (xq 2 [yT 14 s,yJ 15 (n:Int)] [] ?_)))))
   obtain⟨a,c⟩:=yE (rndF v n)
   refine xqc 64 [.string s, yI (n:Int)] 16 (shNb a) _ (fun w R Q=>yM wC ((show Calls _ _ _ _ (wA w a) by rw[←c];exact Zi7 s v n _ Q.1.1 m j qO qO))) fun⟨d,f,g⟩=>?_
   refine xq 2 [(17,.v (yV a.s d f g a.e)),yJ 18 a.err] [] ?_
   refine xqc 63 [yV a.s d f g a.e, yI a.err] 19 (fun _:Unit=>.tuple #[yS ⟨(frT a).toArray⟩ (frE a), yI a.err]) _ (fun w R Q=>yN (Zkc a d f g _ Q.1.1.1 Q.2 (by rw[←c];exact ZnV v.den_pos qO qO))) fun k=>?_
   refine xq 4 [yJ 5 a.err] [yG 4 76 ⟨(frT a).toArray⟩ (frE a)] ?_
   refine yZ (zG ?_)
   refine yR (.tuple #[yS ⟨(frT a).toArray⟩ (frE a), yI a.err]) fun w' R Q=>?_
   rw[show kQ (bytes s) (n:Int)=rndF v n by unfold kQ;rw[vC i,vC l,dO j];rfl,c]
   exact⟨rfl,R⟩
  refine zB (xq 1 [yJ 10 b] [] ?_)
  refine xqc 62 [yI b] 11 (fun _:Unit=>.bool false) _ (fun w R Q=>(ZeC _ _).mono (fun _ _ h=>zL h (by rw[uV l]))) fun k=>?_
  refine xq 1 [yB 12 true] [] ?_
  refine yZ (xa (yY (xq 3 [yJ 5 3] [] ?_)))
  refine yZ (zG (zH ?_))
  refine yR (.tuple #[yS ⟨#[]⟩ 0, yI 3]) fun w' R Q=>?_
  rw[show kQ (bytes s) b=⟨false,0,0,3⟩ by unfold kQ;rw[vC i,uO l]]
  exact⟨rfl,R⟩
 refine zB (xq 1 [yT 6 s] [] ?_)
 refine xqc 61 [.string s] 7 (fun _:Unit=>.bool false) _ (fun w R Q=>(bK s _ Q m).mono (fun _ _ h=>zL h (by rw[sQ.2 i]))) fun k=>?_
 refine xq 1 [yB 8 true] [] ?_
 refine yZ (xa (yY (xq 3 [yJ 5 1] [] ?_)))
 refine yZ (zG (zH ?_))
 refine yR (.tuple #[yS ⟨#[]⟩ 0, yI 1]) fun w' R Q=>?_
 rw[show kQ (bytes s) b=⟨false,0,0,1⟩ from uO i]
 exact⟨rfl,R⟩
theorem fv_1 {x:Int}(a : -1048576≤x)(b:x≤1048576):fvB [49] x=true:=by
 unfold fvB
 rw[uO qD]
 exact vM ⟨qD,qD,⟨a,b⟩,qD,qD⟩
/-! ### 5/3 to 8 bits -/
theorem Zec {w:World}{s:Bool}{A:qA}{l c:Nat}{z:Int}(h:zN w (.agg #[.bool s,.slice A l c]) z)(g:z≠0):∃ xs,zE .u32 w A xs∧0<xs.length∧xs[0]?.getD 0=z.natAbs%W32∧l=xs.length∧A≠none:=by
 have a:=h.lenp g
 obtain⟨k,xs,m,e,n,d,i,p,f⟩:=h.mag
 injection e with e1 e2 e3
 subst e1 e2
 refine⟨xs,d,a,?_,rfl,?_⟩
 ·cases xs with
  | nil=>simp at a
  | cons x xs =>
   rw[iJ] at f
   have j:x<W32:=i x qS
   rw[←f,sR,vH j];rfl
 obtain⟨b,o,e,_⟩:=d.at a
 rw[e];simp
def shF (x:Int) (y:ShI):Value:=.agg #[.bool y.1,.slice y.2.1 y.2.2.1 y.2.2.2,.int .i64 x]
theorem ZdR {P:Program}{o:Oper}{ρ:Operand→Value}{w:World}{t k:TypeId}{x y:Operand}{a:Nat}(b:o.op=Op.binOp .and t x y k)(c:ρ x=.int .u32 ((a:Nat):Int))(d:ρ y=.int .u32 1)(ha:a<4294967296):(execOp ρ o).run P w=.ok (.value (.int .u32 ((a%2:Nat):Int))) w:=by
 have h:bits .and .u32 (a:Int) 1=((a%2:Nat):Int):=by
  have e:(BitVec.ofInt 32 (a:Int)).toNat=a:=by
   rw[pX,oP];exact vH qO
  show IntKind.u32.wrap ((BitVec.ofInt 32 (a:Int) &&& BitVec.ofInt 32 1).toNat:Int)=_
  rw[BitVec.toNat_and,e,show (BitVec.ofInt 32 1).toNat=1 from rfl,oO,IntKind.wrap_u32];omega
 rw[←h]
 simp only[execOp,b,c,d,eqGuard,binOp]
 rfl
theorem ZnZ:ml ((1:Nat))≤65536:=uD (wT.2 (show (1:Nat)<W32^1 by rw[zV];decide)) qD
theorem Zps {w:World}{s:Bool}{A:qA}{l c:Nat}{z:Int}(h:zN w (.agg #[.bool s,.slice A l c]) z):xF w (.agg #[.bool s,.slice A l c,.bool false,.slice none 0 0]) ((z:Int):Rat) :=
 ⟨s,false,A,none,l,c,0,0,rfl,h,zN.nil w⟩
theorem ZqZ (z:Int):xE ((z:Int):Rat)=Lib.itoa z:=by
 exact Zpm z
theorem Zn0 {w:World}{s:Bool}{A:qA}{l c:Nat}{z:Int}(h:zN w (.agg #[.bool s,.slice A l c]) z)(a:ml z.natAbs≤65536):yA 66 #[.agg #[.bool s,.slice A l c,.bool false,.slice none 0 0]] w (RetV w (.string ⟨(Lib.itoa z).toArray⟩)):=by
 have b:=ZnM _ _ _ (Zps h) a (ZnZ)
 rwa [ZqZ] at b
theorem Zn1 {n k:Nat}(h:(Lib.decDigits n).length≤k):ml n≤k:=by
 have a:=kD _ (kZ n)
 rw[fU] at a
 exact Zr3 (uS a (uW qD h))
theorem Zmj (s:Bool)(A:qA)(l c:Nat)(z x:Int)(w:World)(a:zN w (.agg #[.bool s,.slice A l c]) z)(b:ml z.natAbs≤65536) :
 yA 40 #[yV s A l c x] w (RetV w (yS ⟨(Lib.itoa z).toArray⟩ x)):=by
 refine zT (Φ:=fun w=>zN w (.agg #[.bool s,.slice A l c]) (z)) func40 rfl qK (fun w' d=>a.ext d) ?_
 refine yY (xq 2 [(1,.p 1 0),(2,.p 2 0)] [yG 2 76 ⟨#[]⟩ 0,yF 1 84 s A l c x] ?_)
 refine yZ (zC ?_)
 refine yO 8 zP ?_
 refine xqg 3 [eR4 5 s A l c false none 0 0] ?_
 refine xqd 66 [vR4 s A l c false none 0 0] 6 (fun _:Unit=>.string ⟨(Lib.itoa z).toArray⟩) _ (fun w R Q=>(Zn0 Q b).mono (fun _ _ h=>zL h (rfl))) fun e=>?_
 refine xqf 4 [] [yG 2 76 ⟨(Lib.itoa z).toArray⟩ x,yG 2 76 ⟨#[]⟩ 0,yF 1 84 s A l c x] ?_
 refine xz (yZ (zG ?_))
 refine yR (yS ⟨(Lib.itoa z).toArray⟩ x) fun w' R Q=>?_
 exact⟨rfl,R⟩
theorem ZkZ (l:List UInt8):(flM l).natAbs=zI (xB l).2:=by
 unfold flM sg
 split<;>omega
def exT (l:List UInt8) (x:Int):List UInt8:=if fvB l x=true then (if flM l=0 then [48] else if x<0 then l ++ [47] ++ Lib.decDigits (2^(-x).toNat) else Lib.itoa (flM l*2^x.toNat)) else [48]
theorem Zja {l:List UInt8}{x:Int}(a:fvB l x=true)(h:flM l=0):exT l x=[48]:=by unfold exT;rw[vC a,vC h]
theorem Zpt {s:ByteArray}{x:Int}{k:Nat}(a:fvB (bytes s) x=true)(h:flM (bytes s)≠0)(b : -x=k)(c:x<0):(⟨(exT (bytes s) x).toArray⟩:ByteArray)=s ++ ⟨#[47]⟩ ++ ⟨(Lib.decDigits (1*2^k)).toArray⟩:=by
 unfold exT
 rw[vC a,uO h,vC c,b,rZ]
 apply ZgB
 rw[gP]
 simp[bytes]
theorem Zk0 {l:List UInt8}{x:Int}{k:Nat}(b:fvB l x=true)(c:x=k):exT l x=(if zI (xB l).2=0 then [48] else (if (xB l).1 then [45] else []) ++ Lib.decDigits (zI (xB l).2*2^k)):=by
 have d:=ZkZ l
 unfold exT
 rw[vC b,uO (show ¬ x<0 by omega),c,pF]
 by_cases a:flM l=0
 ·rw[vC a,vC qO]
 rw[uO a,uO qO]
 have e:flM l*2^k=sg (xB l).1 (zI (xB l).2*2^k):=by
  unfold flM sg
  split
  ·rw[tL,tE,Int.neg_mul];rfl
  rw[tL,tE];rfl
 have f:=sL (show 0<zI (xB l).2 by omega) (p2 k)
 rw[e,ZaP (fun h=>qO)]
theorem Zmk (s:ByteArray)(x:Int)(w:World)(hg:Glob w)(P:(bytes s).length≤100000)(hx:fvB (bytes s) x=true → -1000≤x∧x≤1000) :
 yA 59 #[yS s x] w (RetV w (.string ⟨(exT (bytes s) x).toArray⟩)):=by
 refine zT (Φ:=fun w=>Glob w) func59 rfl qK (fun w' hf=>hg.ext hf) ?_
 refine yY (xq 2 [(1,.p 1 0),yT 2 ⟨#[]⟩] [yG 1 76 s x] ?_)
 refine yZ (yY (xq 1 [(6,.v (yS s x))] [] ?_))
 by_cases h:fvB (bytes s) x=true
 ·obtain⟨a,f⟩:=yE (ldR (bytes s) x)
  have S:=ZcW h
  have a0:wl a.m≤100000:=by rw[←f];exact Zp1 P
  have b0:a.e=x:=by rw[←f,show ldR (bytes s) x=_ from vC h]
  have c0:a.s=true→0<a.m:=by rw[←f,show ldR (bytes s) x=_ from vC h];exact S.2.2.2
  refine xqc 100 [yS s x] 7 (shLd true a) _ (fun w R Q=>yM ZgE ((show Calls _ _ _ _ (Zf2 w true a) by rw[←f,← h];exact ZdM s x _ P))) fun⟨c,b,d⟩=>?_
  refine xq 6 [(3,.p 3 0)] [yF 3 109 a.s c b d a.e] ?_
  refine yZ (zC (zS (zC ?_)))
  refine SXc.know (p:=b=wl a.m) (fun w _ Q=>(Q.2).len0) fun T=>?_
  have U:=@lL a.m
  have d0:=hx h
  have q:=f
  rw[show ldR (bytes s) x=⟨(xB (bytes s)).1,zI (xB (bytes s)).2,x,0⟩ from vC h] at q
  have e0:=ZkZ (bytes s)
  have B:a.m=zI (xB (bytes s)).2:=by rw[←q]
  have C:a.s=(xB (bytes s)).1:=by rw[←q]
  by_cases r:a.m=0
  ·refine zB (xq 4 [yB 14 (((b:Int):Int) == 0)] [] ?_)
   rw[(show (((b:Int):Int) == 0)=true from tV.2 qO)]
   refine xq 1 [yB 10 true] [] ?_
   refine yZ (xa (yY (xq 1 [yT 2 ⟨#[48]⟩] [] ?_)))
   refine yZ (zG (xT (zH ?_)))
   refine yR (.string ⟨#[48]⟩) fun w' R Q=>?_
   exact⟨by rw[Zja h qO],R⟩
  refine zB (xq 4 [yB 14 (((b:Int):Int) == 0)] [] ?_)
  rw[(show (((b:Int):Int) == 0)=false from sW.2 qO)]
  refine xq 1 [yB 10 false] [] ?_
  refine yZ (xb (yY (xq 4 [yB 15 (decide (a.e<0))] [] ?_)))
  refine xe (zA ?_)
  refine yQ ((decide (a.e<0))) (fun i=>?_) fun i=>?_
  ·have u:=uA i
   refine zC ?_
   obtain⟨k,N⟩:∃ k:Nat,-x=k:=vG qO
   have V:k≤1000:=qO
   have W:wl (1*2^k)≤110000:=by have O:=Zak 1 (2^k);have h2:wl (2^k)≤100:=Zba qO;have h3:wl 1≤1:=bO.2 (by rw[zO];decide);omega
   refine Za2 11 [0,1,3,0,0,16,48,120,248,511,1023] qK qK zP ?_
   refine xqg 2 [yT 20 s] ?_
   refine ZaJ 21 (.string (s ++ ⟨#[47]⟩)) qK qK qK qK qK qK (fun w Q=>ZaA (x:=.tmp 20) (y:=(Operand.const (Value.string { data:=#[47] }))) (t:=9) (k:=9) qK qK qK (by have O:=zQ s;have h2:(⟨#[47]⟩:ByteArray).size=1:=rfl;omega) rfl) ?_
   refine xf 0 [yT 2 ⟨#[]⟩,(3,.p 3 0),yT 21 (s ++ ⟨#[47]⟩)] [yF 3 109 a.s c b d a.e,yG 1 76 s x] ?_
   refine ZaK 22 (fun X:Nat=>.slice (yL X) 1 1) (fun X zw=>Blk 141 zw X #[yX 1]) qK qK qK qK qK qK qK (fun w R Q=>kC (t:=107) (e:=141) (n:=1) (sz:=1) (z:=yX 0) (parts:=#[(0,Operand.const (Value.int IntKind.u64 1))]) qK qK qK qK qK qK) fun D=>?_
   refine xf 3 [yT 2 ⟨#[]⟩,(3,.p 3 0),yT 21 (s ++ ⟨#[47]⟩),eS1 22 (yL D) 1 1,yJ 25 (IntKind.i64.wrap (0-(a.e)))] [yF 3 109 a.s c b d a.e,yG 1 76 s x] ?_
   rw[yW (0-(a.e)) ((k:Int)) qO]
   refine xqd 101 [.slice (yL D) 1 1, yI (k:Int)] 26 xH _ (fun w R Q=>yM xD (jL k (gV Q.2) wl_1 qO)) fun⟨E,F,G⟩=>?_
   refine xqd 102 [.slice E F G] 27 (fun _:Unit=>.string ⟨(Lib.decDigits (1*2^k)).toArray⟩) _ (fun w R Q=>yN (bZ E F G (1*2^k) _ Q.1.1.1 Q.2 qO)) fun xx=>?_
   refine ZaJ 28 (.string (s ++ ⟨#[47]⟩ ++ ⟨(Lib.decDigits (1*2^k)).toArray⟩)) qK qK qK qK qK qK (fun w Q=>ZaA (x:=.tmp 21) (y:=.tmp 27) (t:=9) (k:=9) qK qK qK (by have O:=ZgF (1*2^k);have h3:=zQ s;have h4:(⟨#[47]⟩:ByteArray).size=1:=rfl;rw[ByteArray.size_append,← zQ ⟨(Lib.decDigits (1*2^k)).toArray⟩,gP];omega) rfl) ?_
   refine xf 1 [yT 2 (s ++ ⟨#[47]⟩ ++ ⟨(Lib.decDigits (1*2^k)).toArray⟩),(3,.p 3 0)] [yF 3 109 a.s c b d a.e,yG 1 76 s x] ?_
   refine xz (yZ (zG (xT (zH ?_))))
   refine yR (.string (s ++ ⟨#[47]⟩ ++ ⟨(Lib.decDigits (1*2^k)).toArray⟩)) fun w' R Q=>?_
   exact⟨by rw[Zpt h qO N qO],R⟩
  have u:=uB i
  refine zC ?_
  obtain⟨k,N⟩:∃ k:Nat,x=k:=vG qO
  have V:k≤1000:=qO
  have W:wl (a.m*2^k)≤110000:=by have O:=Zak a.m (2^k);have h2:wl (2^k)≤100:=Zba qO;omega
  rw[show a.e=(k:Int) by omega]
  refine zB (xq 3 [yB 29 a.s] [] ?_)
  refine xe (zA ?_)
  refine yQ (a.s) (fun j=>?_) fun j=>?_
  ·have A:=j
   refine yY (xq 4 [eS1 33 c b d,yJ 35 (k:Int)] [] ?_)
   refine xqc 101 [.slice c b d, yI (k:Int)] 36 xH _ (fun w R Q=>yM xD (jL k Q.2 qO qO)) fun⟨H,I,J⟩=>?_
   refine xqc 102 [.slice H I J] 37 (fun _:Unit=>.string ⟨(Lib.decDigits (a.m*2^k)).toArray⟩) _ (fun w R Q=>yN (bZ H I J (a.m*2^k) _ Q.1.1 Q.2 qO)) fun xx=>?_
   refine yK 38 (.string ⟨(45 :: Lib.decDigits (a.m*2^k)).toArray⟩) (fun w R Q=>ZaA (x:=(Operand.const (Value.string { data:=#[45] }))) (y:=.tmp 37) (t:=9) (k:=9) qK qK qK (by have O:=ZgF (a.m*2^k);have h4:(⟨#[45]⟩:ByteArray).size=1:=rfl;rw[←zQ ⟨(Lib.decDigits (a.m*2^k)).toArray⟩,gP];omega) (Zcd [45] (Lib.decDigits (a.m*2^k)))) ?_
   refine xr 1 [yT 2 ⟨(45 :: Lib.decDigits (a.m*2^k)).toArray⟩,(3,.p 3 0)] [yF 3 109 a.s c b d (k:Int)] ?_
   refine yZ (zG (xT (zH ?_)))
   refine yR (.string ⟨(45 :: Lib.decDigits (a.m*2^k)).toArray⟩) fun w' R Q=>?_
   exact⟨by rw[Zk0 h N,← B,← C,A,uO r];rfl,R⟩
  have A:=j
  refine zJ (xS (zA (yY (xq 4 [eS1 40 c b d,yJ 42 (k:Int)] [] ?_))))
  refine xqc 101 [.slice c b d, yI (k:Int)] 43 xH _ (fun w R Q=>yM xD (jL k Q.2 qO qO)) fun⟨K,L,M⟩=>?_
  refine xqc 102 [.slice K L M] 44 (fun _:Unit=>.string ⟨(Lib.decDigits (a.m*2^k)).toArray⟩) _ (fun w R Q=>yN (bZ K L M (a.m*2^k) _ Q.1.1 Q.2 qO)) fun xx=>?_
  refine xq 1 [yT 2 ⟨(Lib.decDigits (a.m*2^k)).toArray⟩] [] ?_
  refine yZ (zG ?_)
  refine yR (.string ⟨(Lib.decDigits (a.m*2^k)).toArray⟩) fun w' R Q=>?_
  exact⟨by rw[Zk0 h N,← B,← C,A,uO r];rfl,R⟩
 obtain⟨g,o⟩:=yE (ldR (bytes s) x)
 refine xqc 100 [yS s x] 7 (shLd false g) _ (fun w R Q=>yM ZgE ((show Calls _ _ _ _ (Zf2 w false g) by rw[←o,← sQ.2 h];exact ZdM s x _ P))) fun⟨Y,l,Z⟩=>?_
 refine xq 6 [(3,.p 3 0)] [yF 3 109 g.s Y l Z g.e] ?_
 refine yZ (zC (zS (zC ?_)))
 refine SXc.know (p:=l=wl g.m) (fun w _ Q=>(Q.2).len0) fun T=>?_
 have U:=@lL g.m
 have r:g.m=0:=by rw[←o,show ldR (bytes s) x=⟨false,0,0,0⟩ from uO h]
 refine zB (xq 4 [yB 14 (((l:Int):Int) == 0)] [] ?_)
 rw[(show (((l:Int):Int) == 0)=true from tV.2 qO)]
 refine xq 1 [yB 10 true] [] ?_
 refine yZ (xa (yY (xq 1 [yT 2 ⟨#[48]⟩] [] ?_)))
 refine yZ (zG (xT (zH ?_)))
 refine yR (.string ⟨#[48]⟩) fun w' R Q=>?_
 exact⟨by rw[show exT (bytes s) x=[48] from uO h],R⟩
def Zmm (w:World) (z x:Int) (e:Ending) (w':World):Prop:=∃ y:ShI,e=.returned (shF x y)∧zN w' (wO y) z∧Ext w w'
theorem Zn4 {a b:Nat}(h:a<32*b):ml (2^a)≤b:=wT.2 (by rw[show W32=2^32 by rw[zV],← rQ];exact Nat.pow_lt_pow_right qD h)
theorem Zn5 {a b i j:Nat}(ha:ml a≤i)(c:ml b≤j):ml (a*b)≤i+j:=by
 refine wT.2 ?_
 rw[uQ]
 exact oG (wT.1 ha) (wT.1 c)
theorem Zmn (s:Bool)(A:qA)(l c x:Nat)(e:Int)(w:World)(h:zF w (.slice A l c) x) :
 yA 97 #[yV s A l c e] w (RetV w (.int .i64 (if x=0 then 0 else if s=true then (-1) else 1))):=by
 refine zT (Φ:=fun w=>zF w (.slice A l c) (x)) func97 rfl qK (fun w' i=>h.ext i) ?_
 refine zC ?_
 have j:=h.len0
 have k:=@lL x
 refine zB (xq 2 [(1,.p 1 0),yJ 2 0] [yF 1 109 s A l c e] ?_)
 refine yZ (zC (zS (yY (xq 5 [yB 3 (((l:Int):Int) == 0)] [] ?_))))
 refine xe (zA ?_)
 refine yQ ((((l:Int):Int) == 0)) (fun a=>?_) fun a=>?_
 ·have d:=tV.1 a
  have g:x=0:=qO
  refine yY (xq 1 [yJ 2 0] [] ?_)
  refine yZ (zG (xT (zH ?_)))
  refine yR (yI 0) fun w' R Q=>?_
  exact⟨by rw[vC g],R⟩
 have d:=lG a
 have g:¬ x=0:=qO
 refine yY (xq 3 [yB 8 s] [] ?_)
 refine xe (zA ?_)
 refine yQ (s) (fun b=>?_) fun b=>?_
 ·have f:=b
  refine yY (xq 1 [yJ 2 (-1)] [] ?_)
  refine yZ (zG (xT (zH ?_)))
  refine yR (yI (-1)) fun w' R Q=>?_
  exact⟨by rw[uO g,vC f],R⟩
 have f:=b
 refine zJ (xS (zA (yY (xq 1 [yJ 2 1] [] ?_))))
 refine yZ (zG ?_)
 refine yR (yI 1) fun w' R Q=>?_
 exact⟨by rw[uO g,uO (by rw[f];decide)],R⟩
theorem Zn6 (s:Bool)(A:qA)(l c x:Nat)(e:Int)(w:World)(f:zF w (.slice A l c) x)(d:0<x) :
 yA 169 #[yV s A l c e] w (RetV w (yV (!s) A l c e)):=by
 refine zT (Φ:=fun w=>zF w (.slice A l c) (x)) func169 rfl qK (fun w' g=>f.ext g) ?_
 refine zC ?_
 have h:=f.len0
 have i:=Zdh d
 refine zB (xq 2 [(1,.p 1 0),(2,.p 2 0)] [yF 2 109 false none 0 0 0,yF 1 109 s A l c e] ?_)
 refine yZ (zC (yY (xq 4 [yB 6 (decide ((l:Int)>0))] [] ?_)))
 refine xe (zA ?_)
 refine yQ ((decide ((l:Int)>0))) (fun a=>?_) fun a=>?_
 ·have b:=uA a
  refine zB (xq 5 [] [yF 1 109 (!s) A l c e] ?_)
  refine yZ (yY (xq 2 [] [yF 2 109 (!s) A l c e] ?_))
  refine yZ (zG ?_)
  refine yR (yV (!s) A l c e) fun w' R Q=>?_
  exact⟨rfl,R⟩
 have b:=uB a
 refine zJ (zA (yY (xq 2 [] [yF 2 109 s A l c e] ?_)))
 refine yZ (zG ?_)
 refine yR (yV s A l c e) fun w' R Q=>?_
 exfalso;omega
theorem Zn8 {n k:Nat}(h:wl n≤k):wl (isq n)≤k:=uD (wR (by
 have:=(cU n).1
 rcases uJ (isq n) with e|e
 ·omega
 exact uD (Nat.le_mul_of_pos_left _ e) this)) h
theorem ZsL:isq 0=0:=ZfP qD qD
theorem nxw {n r:Nat}(a:wl r≤200001)(b:wl n≤200000):wl (r+n/r)≤200002:=Zh4 a (uD (wR (uY _ _)) qO)
def fL (s:Bool) (m:Nat) (e:Int) (bits:Nat):FR:=if s=true then ⟨false,0,0,3⟩ else if m=0 then ⟨false,0,0,0⟩ else Zbz m e bits
theorem Zq1 {a b:Nat}(h:¬ a=b):(cmpI ((a:Nat):Int) ((b:Nat):Int) != 0)=true:=by
 rw[bne_iff_ne]
 rcases qW h with c|c
 ·rw[jR qO];decide
 rw[gE qO];decide
theorem Zq2 {a b:Nat}(h:a=b):(cmpI ((a:Nat):Int) ((b:Nat):Int) != 0)=false:=by subst h;rw[Zbg];rfl
theorem Zk2 {m:Nat}{s:Int}{j:Nat}(h:s = -(j:Int)):fq m 1 (-s)=m/2^j:=by
 subst h
 unfold fq fa fb
 rw[show (- -(-(j:Int))).toNat=0 by omega,show (- -(j:Int)).toNat=j by omega];simp
theorem Zk3 {Y k:Nat}(h:blen Y≤64*k):wl Y≤k:=kN.2 (by rw[show W64=2^64 by rw[zO],← rQ];exact wZ.1 h)
theorem Zsc {l:List UInt8}{x:Int}:(ldR l x).m=0∨(ldR l x).m%2=1:=by
 unfold ldR
 split
 ·rename_i h
  have a:=(ZqL h).2
  have b:(flM l).natAbs=zI (xB l).2:=by unfold flM sg;split<;>omega
  rcases a with ⟨a,_⟩|⟨a,_⟩
  ·left;show zI (xB l).2=0;omega
  right;show zI (xB l).2%2=1;omega
 exact Or.inl rfl
theorem Zp4 (a:Int):a.tmod 2=0↔a%2=0:=by rw[←Int.dvd_iff_tmod_eq_zero,Int.dvd_iff_emod_eq_zero]
theorem Zh0 {a:Int}(h:a%2=0):a.tdiv 2=a/2:=by
 obtain⟨k,b⟩:∃ k,a=2*k:=⟨a/2,qO⟩
 subst b
 rw[Int.mul_tdiv_cancel_left _ qD,Int.mul_ediv_cancel_left _ qD]
theorem ZbJ (A:qA)(l c n:Nat)(w:World)(U:zF w (.slice A l c) n)(F:wl n≤200000) :
 yA 141 #[.slice A l c] w (lB w (isq n)):=by
 refine zT (Φ:=fun w=>zF w (.slice A l c) (n)) func141 rfl qK (fun w' Y=>U.ext Y) ?_
 refine zC ?_
 have Z:=U.len0
 have a0:=@lL n
 have I:=fS n
 obtain⟨J,K⟩:=cU n
 refine zB (xq 1 [eS1 2 none 0 0] [] ?_)
 refine yZ (zC (yY (xq 3 [yB 9 (((l:Int):Int) == 0)] [] ?_)))
 refine xe (zA ?_)
 refine yQ ((((l:Int):Int) == 0)) (fun h=>?_) fun h=>?_
 ·have y:=tV.1 h
  have H:n=0:=qO
  refine yY (xq 1 [eS1 2 none 0 0] [] ?_)
  refine yZ (zG (zH ?_))
  refine yR (.slice none 0 0) fun w' R Q=>?_
  exact⟨_,rfl,by rw[H,ZsL];exact zF.zero _,R⟩
 have y:=lG h
 have H:¬ n=0:=qO
 refine zJ (zA (zC (zB ?_)))
 refine yD (d:=10) (fun L:Nat=>.slice (yL L) 1 1) (fun L zw=>Blk 141 zw L #[yX 1]) (fun w R Q=>kC (t:=107) (e:=141) (n:=1) (sz:=1) (z:=yX 0) (parts:=#[(0,Operand.const (Value.int IntKind.u64 1))]) qK qK qK qK qK qK) fun G=>?_
 refine xr 1 [eS1 0 A l c,eS1 2 none 0 0,eS1 10 (yL G) 1 1,eS1 11 A l c] [] ?_
 refine xqc 139 [.slice A l c] 12 (fun _:Unit=>yI ((blen n:Nat):Int)) _ (fun w R Q=>yN (kT Q.1 (uD F qD))) fun M=>?_
 refine xq 1 [yJ 13 (IntKind.i64.wrap (((blen n:Nat):Int)+1))] [] ?_
 rw[yW (((blen n:Nat):Int)+1) (((blen n+1:Nat):Int)) qO]
 refine xq 1 [(14,.v (yI (IntKind.i64.wrap ((((blen n+1:Nat):Int)).tdiv 2))))] [] ?_
 rw[show IntKind.i64.wrap ((((blen n+1:Nat):Int)).tdiv 2)=(((blen n+1)/2:Nat):Int) from tdq _ 2 qO]
 refine xqc 101 [.slice (yL G) 1 1, yI (((blen n+1)/2:Nat):Int)] 15 xH _ (fun w R Q=>yM xD (jL ((blen n+1)/2) (gV Q.1.2) wl_1 qO)) fun⟨q,s,u⟩=>?_
 refine xq 1 [eS1 3 q s u] [] ?_
 refine yZ (zS ?_)
 refine yC [eS1 0 A l c,eS1 2 none 0 0,eS1 3 q s u] [] (fun w=>(zF w (.slice A l c) (n)∧zF w (.slice q s u) ((1*2^((blen n+1)/2))))) (fun w Q=>⟨Q.1.1.1,Q.2⟩) ?_
 refine xR (fun V W X=>∃ (i:Option Addr) (j k r:Nat),W=ofL [eS1 0 A l c,eS1 2 none 0 0,eS1 3 i j k] []∧X=(fun w=>(zF w (.slice A l c) (n)∧zF w (.slice i j k) (r)))∧(n<(r+1)*(r+1))∧(0<r)∧(wl r≤200001)∧V=(1+r)) ((1+(1*2^((blen n+1)/2)))) ⟨q,s,u,(1*2^((blen n+1)/2)),rfl,rfl,(Zjc (iI n)).1,(Zjc (iI n)).2,(uD (ZsK (m:=wl n) I) qO),rfl⟩ ?_
 rintro V W X ⟨i,j,k,r,rfl,rfl,N,B,o,rfl⟩
 refine zS (yY (xq 2 [eS1 17 A l c,eS1 18 i j k] [] ?_))
 refine xqc 158 [.slice A l c,.slice i j k] 19 (fun x:ShN×ShN=>.tuple #[xH x.1,xH x.2]) _ (fun w R Q=>yM Zn7 (Zhg Q.1 Q.2 (uD F qD) (uD o qD) B)) fun M=>?_
 obtain⟨⟨C,D,E⟩,⟨b0,c0,d0⟩⟩:=M
 refine xq 5 [eS1 4 C D E] [] ?_
 refine yZ (yY (xq 2 [eS1 22 i j k,eS1 23 C D E] [] ?_))
 refine xqc 135 [.slice i j k,.slice C D E] 24 xH _ (fun w R Q=>yM xD (jP Q.1.2 Q.2.1 (uD o qD) (uD (wR (uY n r)) (uD F qD)))) fun⟨O,P,S⟩=>?_
 refine xqc 140 [.slice O P S, yI 1] 25 xH _ (fun w R Q=>yM xD (gC 1 Q.2 (uD (nxw o F) qD) qD)) fun⟨a,b,f⟩=>?_
 refine xq 1 [eS1 6 a b f] [] ?_
 refine yZ (zC (yY (xq 2 [eS1 26 a b f,eS1 27 i j k] [] ?_)))
 refine xqc 136 [.slice a b f,.slice i j k] 28 (fun _:Unit=>yI (cmpI (((r+n/r)/2^1:Nat):Int) (r:Int))) _ (fun w R Q=>yN (fR Q.2 Q.1.1.1.2 (uD (wR (uY _ _)) (uD (nxw o F) qD)))) fun M=>?_
 refine xq 1 [(29,.v (.bool (decide ((cmpI (((r+n/r)/2^1:Nat):Int) (r:Int))≥0))))] [] ?_
 refine xe (zA ?_)
 refine yQ ((decide ((cmpI (((r+n/r)/2^1:Nat):Int) (r:Int))≥0))) (fun p=>?_) fun p=>?_
 ·have g:=uA p
  have T:=@ZaN ((r+n/r)/2^1) r |>.1 g
  refine yY (xq 2 [eS1 2 i j k] [] ?_)
  refine yZ (zG (zH (xT (zH (xT ?_)))))
  refine yR (.slice i j k) fun w' R Q=>?_
  exact⟨_,rfl,by rw[←Zsb (r0:=isq n) qO N J K];exact Q.1.1.1.1.2,R⟩
 have g:=uB p
 have T:=mt (@ZaN ((r+n/r)/2^1) r).2 g
 refine zJ (zA (zB (xq 2 [eS1 3 a b f] [] ?_)))
 refine xe (xS ?_)
 refine yP [eS1 0 A l c,eS1 2 none 0 0,eS1 3 a b f] [] (fun w=>(zF w (.slice A l c) (n)∧zF w (.slice a b f) (((r+n/r)/2^1)))) (fun w Q=>⟨Q.1.1.1.1.1,Q.1.2⟩) ?_
 exact xI ((1+((r+n/r)/2^1))) qO ⟨a,b,f,((r+n/r)/2^1),rfl,rfl,(Zk1 B (rA H)).1,(Zk1 B (rA H)).2,(uD (wR qO) o),rfl⟩
theorem Zmo (Q R T:Nat)(sh:Int)(A:qA)(l c r:Nat)(B:qA)(m d n:Nat)(w:World)(s:Blk 3 w Q #[.int .i64 sh])(u:Blk 107 w R #[.slice A l c])(y:Blk 107 w T #[.slice B m d])(z:zF w (.slice A l c) r)(C:zF w (.slice B m d) n)(D:wl r≤1000000) :
 yA 142 #[.pointer (some ⟨Q,0,none⟩),.pointer (some ⟨R,0,none⟩),.pointer (some ⟨T,0,none⟩)] w (RetV w (.bool (decide (sh<0∨r*r≠n)))):=by
 refine zT (Φ:=fun w=>((((Blk 3 w Q #[yI sh]∧Blk 107 w R #[.slice A l c])∧Blk 107 w T #[.slice B m d])∧zF w (.slice A l c) (r))∧zF w (.slice B m d) (n))) func142 rfl qK (fun w' e=>⟨⟨⟨⟨s.ext e,u.ext e⟩,y.ext e⟩,z.ext e⟩,C.ext e⟩) ?_
 refine yY (xq 1 [yB 3 false] [] ?_)
 refine yZ (zC ?_)
 by_cases a:sh<0
 ·refine yO 11 zP ?_
  refine xqj 4 (yI sh) (fun w S=>wU (t:=3) (x:=.tmp 0) (g:=Q) (off:=0) (Blk.cell (S.1.1.1.1) 0)) ?_
  refine xqg 1 [yB 5 (decide (sh<0))] ?_
  rw[show decide (sh<0)=true from vM a]
  refine xqg 9 [yB 3 true] ?_
  refine xz (yZ (zG ?_))
  refine yR (.bool true) fun w' U S=>?_
  exact⟨by rw[vM (p:=sh<0∨r*r≠n) (Or.inl a)],U⟩
 by_cases b:r*r=n
 ·refine yO 11 zP ?_
  refine xqj 4 (yI sh) (fun w S=>wU (t:=3) (x:=.tmp 0) (g:=Q) (off:=0) (Blk.cell (S.1.1.1.1) 0)) ?_
  refine xqg 1 [yB 5 (decide (sh<0))] ?_
  rw[show decide (sh<0)=false from uV a]
  refine xqg 1 [yB 6 false] ?_
  refine xqj 7 (.slice A l c) (fun w S=>wU (t:=107) (x:=.tmp 1) (g:=R) (off:=0) (Blk.cell (S.1.1.1.2) 0)) ?_
  refine xqj 8 (.slice A l c) (fun w S=>wU (t:=107) (x:=.tmp 1) (g:=R) (off:=0) (Blk.cell (S.1.1.1.2) 0)) ?_
  refine xqd 143 [.slice A l c,.slice A l c] 9 xH _ (fun w U S=>(ZcF S.1.2 S.1.2 qO qO).mono (fun _ _=>xD)) fun⟨f,i,j⟩=>?_
  refine xqj 10 (.slice B m d) (fun w S=>wU (t:=107) (x:=.tmp 2) (g:=T) (off:=0) (Blk.cell (S.1.1.2) 0)) ?_
  refine xqd 136 [.slice f i j,.slice B m d] 11 (fun _:Unit=>yI (cmpI ((r*r:Nat):Int) (n:Int))) _ (fun w U S=>(fR S.2 S.1.2 (uD (Zak _ _) qO)).mono (fun _ _ h=>zL h rfl)) fun E=>?_
  refine xqg 1 [(12,.v (.bool (((cmpI ((r*r:Nat):Int) (n:Int)):Int) != 0)))] ?_
  rw[Zq2 b]
  refine xqg 2 [yB 3 false] ?_
  refine xz (yZ (zG ?_))
  refine yR (.bool false) fun w' U S=>?_
  exact⟨by rw[uV (p:=sh<0∨r*r≠n) (by rintro (h|h);exact a h;exact h b)],U⟩
 refine yO 11 zP ?_
 refine xqj 4 (yI sh) (fun w S=>wU (t:=3) (x:=.tmp 0) (g:=Q) (off:=0) (Blk.cell (S.1.1.1.1) 0)) ?_
 refine xqg 1 [yB 5 (decide (sh<0))] ?_
 rw[show decide (sh<0)=false from uV a]
 refine xqg 1 [yB 6 false] ?_
 refine xqj 7 (.slice A l c) (fun w S=>wU (t:=107) (x:=.tmp 1) (g:=R) (off:=0) (Blk.cell (S.1.1.1.2) 0)) ?_
 refine xqj 8 (.slice A l c) (fun w S=>wU (t:=107) (x:=.tmp 1) (g:=R) (off:=0) (Blk.cell (S.1.1.1.2) 0)) ?_
 refine xqd 143 [.slice A l c,.slice A l c] 9 xH _ (fun w U S=>(ZcF S.1.2 S.1.2 qO qO).mono (fun _ _=>xD)) fun⟨k,o,q⟩=>?_
 refine xqj 10 (.slice B m d) (fun w S=>wU (t:=107) (x:=.tmp 2) (g:=T) (off:=0) (Blk.cell (S.1.1.2) 0)) ?_
 refine xqd 136 [.slice k o q,.slice B m d] 11 (fun _:Unit=>yI (cmpI ((r*r:Nat):Int) (n:Int))) _ (fun w U S=>(fR S.2 S.1.2 (uD (Zak _ _) qO)).mono (fun _ _ h=>zL h rfl)) fun E=>?_
 refine xqg 1 [(12,.v (.bool (((cmpI ((r*r:Nat):Int) (n:Int)):Int) != 0)))] ?_
 rw[Zq1 b]
 refine xqg 2 [yB 3 true] ?_
 refine xz (yZ (zG ?_))
 refine yR (.bool true) fun w' U S=>?_
 exact⟨by rw[vM (p:=sh<0∨r*r≠n) (Or.inr b)],U⟩
theorem ZaG (s:Bool)(A:qA)(l c n:Nat)(e:Int)(bits:Nat)(Q R T:Nat)(sh:Int)(A1:qA)(l1 c1 r:Nat)(B:qA)(m d n1:Nat)(w:World)(hg:Glob w)(hN:zF w (.slice A l c) n)(H:wl n≤4294967296)(G0 : -576460752303423488≤e)(H0:e≤576460752303423488)(hb:bits≤4294967296)(hQ:Blk 3 w Q #[.int .i64 sh])(hR:Blk 107 w R #[.slice A1 l1 c1])(hT:Blk 107 w T #[.slice B m d])(hA:zF w (.slice A1 l1 c1) r)(hB:zF w (.slice B m d) n1)(F0:wl r≤1000000) :
 yA 132 #[.bool s,.slice A l c,.int .i64 e,.int .i64 ((bits:Nat):Int),.func (.func 142) #[] #[.pointer (some ⟨Q,0,none⟩),.pointer (some ⟨R,0,none⟩),.pointer (some ⟨T,0,none⟩)]] w (wA w (lD s n e bits (decide (sh<0∨r*r≠n1)))):=by
 refine zT (Φ:=fun w=>((Glob w∧zF w (.slice A l c) (n))∧(((((Blk 3 w Q #[yI sh]∧Blk 107 w R #[.slice A1 l1 c1])∧Blk 107 w T #[.slice B m d])∧zF w (.slice A1 l1 c1) r)∧zF w (.slice B m d) n1)))) func132 rfl qK (fun w' O=>⟨⟨hg.ext O,hN.ext O⟩,⟨⟨⟨⟨hQ.ext O,hR.ext O⟩,hT.ext O⟩,hA.ext O⟩,hB.ext O⟩⟩) ?_
 refine zC ?_
 have I0:=ZfQ H
 by_cases I:blen n≤bits
 ·obtain⟨k,hk⟩:∃ k,bits=blen n+k:=⟨bits-blen n,qO⟩
  refine zB (xq 2 [(10,.p 10 0),yJ 11 0] [yF 10 109 false none 0 0 0] ?_)
  refine yZ (yY (xq 1 [eS1 14 A l c] [] ?_))
  refine xqc 139 [.slice A l c] 15 (fun _:Unit=>yI ((blen n:Nat):Int)) _ (fun w U S=>(kT S.1.2 H).mono (fun _ _ h=>zL h rfl)) fun xx=>?_
  refine xq 2 [yJ 17 (IntKind.i64.wrap (((blen n:Nat):Int)-(bits:Int)))] [] ?_
  rw[show IntKind.i64.wrap (((blen n:Nat):Int)-(bits:Int)) = -(k:Int) by rw[IntKind.wrap_i64];omega]
  refine xq 1 [yJ 12 (-(k:Int))] [] ?_
  refine yZ (zC (yY (xq 2 [(19,.v (.bool (decide ((-(k:Int))≤0))))] [] ?_)))
  rw[show decide (-(k:Int)≤0)=true from vM qO]
  refine yZ (xa (yY (xq 3 [yB 20 s,eS1 21 A l c,yJ 22 e] [] ?_)))
  obtain⟨g,J⟩:=yE (wI s (n) (e))
  refine xqc 138 [.bool s,.slice A l c, yI e] 23 (shNb g) _ (fun w U S=>((show Calls _ _ _ _ (wA w g) by rw[←J];exact kH s _ _ _ _ _ _ S.1.1.1 S.1.1.2 H qO qO)).mono (fun _ _=>wC)) fun⟨P,V,W⟩=>?_
  refine xq 4 [yJ 11 g.err] [yF 10 109 g.s P V W g.e] ?_
  refine yZ (zG (zH ?_))
  refine yR (.tuple #[yV g.s P V W g.e, yI g.err]) fun w' U S=>?_
  rw[ZcH I,J]
  exact⟨(P,V,W),rfl,S.2,U⟩
 obtain⟨j,hj⟩:∃ j,blen n=bits+(j+1):=⟨blen n-bits-1,qO⟩
 have X:0<n:=rA (fun e=>by rw[e,fA] at I;omega)
 have E:wl (n/2^(j+1))≤4294967296:=uD (wR (uY _ _)) H
 have Y:wl (n/2^(j+1)+1)≤4294967296:=uD (wR (pR X (Nat.one_lt_two_pow qO))) H
 obtain⟨b1,Z⟩:=yE (decide (n/2^j%2=1))
 obtain⟨b2,a0⟩:=yE (decide (n/2^(j+1)/2^0%2=1))
 obtain⟨b3,b0⟩:=yE (decide (sh<0∨r*r≠n1))
 refine zB (xq 2 [(10,.p 10 0),yJ 11 0] [yF 10 109 false none 0 0 0] ?_)
 refine yZ (yY (xq 1 [eS1 14 A l c] [] ?_))
 refine xqc 139 [.slice A l c] 15 (fun _:Unit=>yI ((blen n:Nat):Int)) _ (fun w U S=>(kT S.1.2 H).mono (fun _ _ h=>zL h rfl)) fun xx=>?_
 refine xq 2 [yJ 17 (IntKind.i64.wrap (((blen n:Nat):Int)-(bits:Int)))] [] ?_
 rw[yW (((blen n:Nat):Int)-(bits:Int)) (((j+1:Nat):Int)) qO]
 refine xq 1 [yJ 12 ((j+1:Nat):Int)] [] ?_
 refine yZ (zC (yY (xq 2 [yB 19 (decide (((j+1:Nat):Int)≤0))] [] ?_)))
 rw[show decide (((j+1:Nat):Int)≤0)=false from uV qO]
 refine yZ (xb (zJ (zA (yY (xq 2 [eS1 26 A l c,yJ 27 ((j+1:Nat):Int)] [] ?_)))))
 refine xqc 140 [.slice A l c, yI ((j+1:Nat):Int)] 28 xH _ (fun w U S=>(gC (j+1) S.1.1.2 H qO).mono (fun _ _=>xD)) fun⟨a,b,f⟩=>?_
 refine xq 1 [eS1 13 a b f] [] ?_
 refine yZ (zC (yY (xq 3 [eS1 29 A l c,yJ 31 (IntKind.i64.wrap (((j+1:Nat):Int)-1))] [] ?_)))
 rw[yW (((j+1:Nat):Int)-1) ((j:Int)) qO]
 refine xqc 170 [.slice A l c, yI (j:Int)] 32 (fun _:Unit=>.bool b1) _ (fun w U S=>((show Calls _ _ _ _ (RetV w (.bool b1)) by rw[←Z];exact aL (j) S.1.1.1.2 qO)).mono (fun _ _ h=>zL h rfl)) fun xx=>?_
 refine xq 1 [yB 33 b1] [] ?_
 rcases bl2 (b1) with i|i
 ·rw[i]
  have k1:=uA (Z.trans i)
  refine xq 1 [eS1 34 A l c] [] ?_
  refine xqc 171 [.slice A l c] 35 (fun _:Unit=>yI ((tzn n:Nat):Int)) _ (fun w U S=>(ZaD S.1.1.1.1.1 S.1.1.1.1.2 H X).mono (fun _ _ h=>zL h rfl)) fun xx=>?_
  refine xq 2 [yJ 37 (IntKind.i64.wrap (((j+1:Nat):Int)-1))] [] ?_
  rw[yW (((j+1:Nat):Int)-1) ((j:Int)) qO]
  refine xq 2 [yB 39 (decide (((tzn n:Nat):Int)<(j:Int)))] [] ?_
  rcases bl2 ((decide (((tzn n:Nat):Int)<(j:Int)))) with o|o
  ·rw[o]
   have c0:=uA o
   have k4:tzn n<j:=qO
   refine xr 8 [yB 0 s,yJ 2 e,(10,.p 10 0),yJ 11 0,yJ 12 ((j+1:Nat):Int),eS1 13 a b f,yB 47 true] [yF 10 109 false none 0 0 0] ?_
   refine yZ (xa (zB (xq 1 [eS1 48 a b f] [] ?_)))
   refine yD (d:=49) (fun F:Nat=>.slice (yL F) 1 1) (fun F zw=>Blk 141 zw F #[yX 1]) (fun w U S=>kC (t:=107) (e:=141) (n:=1) (sz:=1) (z:=yX 0) (parts:=#[(0,Operand.const (Value.int IntKind.u64 1))]) qK qK qK qK qK qK) fun C0=>?_
   refine xr 0 [yB 0 s,yJ 2 e,(10,.p 10 0),yJ 11 0,yJ 12 ((j+1:Nat):Int),eS1 13 a b f,eS1 48 a b f,eS1 49 (yL C0) 1 1] [yF 10 109 false none 0 0 0] ?_
   refine xqc 135 [.slice a b f,.slice (yL C0) 1 1] 50 xH _ (fun w U S=>(jP S.1.1.1.2 (gV S.2) E wl_1).mono (fun _ _=>xD)) fun⟨d0,e0,f0⟩=>?_
   refine xq 1 [eS1 13 d0 e0 f0] [] ?_
   refine yZ (yY (xq 5 [yB 51 s,eS1 52 d0 e0 f0,yJ 55 (IntKind.i64.wrap (e+((j+1:Nat):Int)))] [] ?_))
   rw[yW (e+((j+1:Nat):Int)) (e+((j+1:Nat):Int)) qO]
   obtain⟨q,K⟩:=yE (wI s (n/2^(j+1)+1) ((e+((j+1:Nat):Int))))
   refine xqc 138 [.bool s,.slice d0 e0 f0, yI (e+((j+1:Nat):Int))] 56 (shNb q) _ (fun w U S=>((show Calls _ _ _ _ (wA w q) by rw[←K];exact kH s _ _ _ _ _ _ S.1.1.1.1.1.1.1.1 S.2 Y qO qO)).mono (fun _ _=>wC)) fun⟨g0,i0,j0⟩=>?_
   refine xq 4 [yJ 11 q.err] [yF 10 109 q.s g0 i0 j0 q.e] ?_
   refine yZ (zG ?_)
   refine yR (.tuple #[yV q.s g0 i0 j0 q.e, yI q.err]) fun w' U S=>?_
   rw[fD hj k1 (Or.inl k4) X,K]
   exact⟨(g0,i0,j0),rfl,S.2,U⟩
  rw[o]
  have c0:=uB o
  have k4:¬ tzn n<j:=qO
  refine xr 1 [yB 0 s,yJ 2 e,(4,.v (.func (.func 142) #[] #[.pointer (yL Q),.pointer (yL R),.pointer (yL T)])),(10,.p 10 0),yJ 11 0,yJ 12 ((j+1:Nat):Int),eS1 13 a b f,yB 33 true,yB 39 false,eS1 40 a b f] [yF 10 109 false none 0 0 0] ?_
  refine xqc 170 [.slice a b f, yI 0] 41 (fun _:Unit=>.bool b2) _ (fun w U S=>((show Calls _ _ _ _ (RetV w (.bool b2)) by rw[←a0];exact aL (0) S.1.1.2 qO)).mono (fun _ _ h=>zL h rfl)) fun xx=>?_
  refine xq 2 [yB 43 b2] [] ?_
  rcases bl2 (b2) with u|u
  ·rw[u]
   have k2:=uA (a0.trans u)
   rw[tC,rR] at k2
   refine xq 4 [yB 47 true] [] ?_
   refine yZ (xa (zB (xq 1 [eS1 48 a b f] [] ?_)))
   refine yD (d:=49) (fun F:Nat=>.slice (yL F) 1 1) (fun F zw=>Blk 141 zw F #[yX 1]) (fun w U S=>kC (t:=107) (e:=141) (n:=1) (sz:=1) (z:=yX 0) (parts:=#[(0,Operand.const (Value.int IntKind.u64 1))]) qK qK qK qK qK qK) fun D0=>?_
   refine xr 0 [yB 0 s,yJ 2 e,(10,.p 10 0),yJ 11 0,yJ 12 ((j+1:Nat):Int),eS1 13 a b f,eS1 48 a b f,eS1 49 (yL D0) 1 1] [yF 10 109 false none 0 0 0] ?_
   refine xqc 135 [.slice a b f,.slice (yL D0) 1 1] 50 xH _ (fun w U S=>(jP S.1.1.1.1.2 (gV S.2) E wl_1).mono (fun _ _=>xD)) fun⟨k0,l0,m0⟩=>?_
   refine xq 1 [eS1 13 k0 l0 m0] [] ?_
   refine yZ (yY (xq 5 [yB 51 s,eS1 52 k0 l0 m0,yJ 55 (IntKind.i64.wrap (e+((j+1:Nat):Int)))] [] ?_))
   rw[yW (e+((j+1:Nat):Int)) (e+((j+1:Nat):Int)) qO]
   obtain⟨x,L⟩:=yE (wI s (n/2^(j+1)+1) ((e+((j+1:Nat):Int))))
   refine xqc 138 [.bool s,.slice k0 l0 m0, yI (e+((j+1:Nat):Int))] 56 (shNb x) _ (fun w U S=>((show Calls _ _ _ _ (wA w x) by rw[←L];exact kH s _ _ _ _ _ _ S.1.1.1.1.1.1.1.1.1 S.2 Y qO qO)).mono (fun _ _=>wC)) fun⟨n0,o0,p0⟩=>?_
   refine xq 4 [yJ 11 x.err] [yF 10 109 x.s n0 o0 p0 x.e] ?_
   refine yZ (zG ?_)
   refine yR (.tuple #[yV x.s n0 o0 p0 x.e, yI x.err]) fun w' U S=>?_
   rw[fD hj k1 (Or.inr (Or.inl k2)) X,L]
   exact⟨(n0,o0,p0),rfl,S.2,U⟩
  rw[u]
  have k2:=uB (a0.trans u)
  rw[tC,rR] at k2
  refine xq 1 [(44,.v (.func (.func 142) #[] #[.pointer (yL Q),.pointer (yL R),.pointer (yL T)]))] [] ?_
  refine xqc 142 [.pointer (yL Q),.pointer (yL R),.pointer (yL T)] 45 (fun _:Unit=>.bool b3) _ (fun w U S=>((show Calls _ _ _ _ (RetV w (.bool b3)) by rw[←b0];exact (fun h=>Zmo Q R T sh A1 l1 c1 r B m d n1 _ h.1.1.1.1 h.1.1.1.2 h.1.1.2 h.1.2 h.2 F0) S.1.1.1.1.1.2)).mono (fun _ _ h=>zL h rfl)) fun xx=>?_
  refine xq 2 [yB 47 b3] [] ?_
  refine xe (zA ?_)
  refine yQ (b3) (fun G=>?_) fun G=>?_
  ·have k3:=b0.trans G
   refine zB (xq 1 [eS1 48 a b f] [] ?_)
   refine yD (d:=49) (fun F:Nat=>.slice (yL F) 1 1) (fun F zw=>Blk 141 zw F #[yX 1]) (fun w U S=>kC (t:=107) (e:=141) (n:=1) (sz:=1) (z:=yX 0) (parts:=#[(0,Operand.const (Value.int IntKind.u64 1))]) qK qK qK qK qK qK) fun E0=>?_
   refine xr 0 [yB 0 s,yJ 2 e,(10,.p 10 0),yJ 11 0,yJ 12 ((j+1:Nat):Int),eS1 13 a b f,eS1 48 a b f,eS1 49 (yL E0) 1 1] [yF 10 109 false none 0 0 0] ?_
   refine xqc 135 [.slice a b f,.slice (yL E0) 1 1] 50 xH _ (fun w U S=>(jP S.1.1.1.1.1.2 (gV S.2) E wl_1).mono (fun _ _=>xD)) fun⟨q0,r0,s0⟩=>?_
   refine xq 1 [eS1 13 q0 r0 s0] [] ?_
   refine yZ (yY (xq 5 [yB 51 s,eS1 52 q0 r0 s0,yJ 55 (IntKind.i64.wrap (e+((j+1:Nat):Int)))] [] ?_))
   rw[yW (e+((j+1:Nat):Int)) (e+((j+1:Nat):Int)) qO]
   obtain⟨y,M⟩:=yE (wI s (n/2^(j+1)+1) ((e+((j+1:Nat):Int))))
   refine xqc 138 [.bool s,.slice q0 r0 s0, yI (e+((j+1:Nat):Int))] 56 (shNb y) _ (fun w U S=>((show Calls _ _ _ _ (wA w y) by rw[←M];exact kH s _ _ _ _ _ _ S.1.1.1.1.1.1.1.1.1.1 S.2 Y qO qO)).mono (fun _ _=>wC)) fun⟨t0,u0,v0⟩=>?_
   refine xq 4 [yJ 11 y.err] [yF 10 109 y.s t0 u0 v0 y.e] ?_
   refine yZ (zG ?_)
   refine yR (.tuple #[yV y.s t0 u0 v0 y.e, yI y.err]) fun w' U S=>?_
   rw[fD hj k1 (Or.inr (Or.inr k3)) X,M]
   exact⟨(t0,u0,v0),rfl,S.2,U⟩
  have k3:=b0.trans G
  refine zJ (zA (yY (xq 5 [yB 51 s,eS1 52 a b f,yJ 55 (IntKind.i64.wrap (e+((j+1:Nat):Int)))] [] ?_)))
  rw[yW (e+((j+1:Nat):Int)) (e+((j+1:Nat):Int)) qO]
  obtain⟨C,hr25⟩:=yE (wI s (n/2^(j+1)) ((e+((j+1:Nat):Int))))
  refine xqc 138 [.bool s,.slice a b f, yI (e+((j+1:Nat):Int))] 56 (shNb C) _ (fun w U S=>((show Calls _ _ _ _ (wA w C) by rw[←hr25];exact kH s _ _ _ _ _ _ S.1.1.1.1.1.1.1.1 S.1.1.1.1.2 E qO qO)).mono (fun _ _=>wC)) fun⟨w0,x0,y0⟩=>?_
  refine xq 4 [yJ 11 C.err] [yF 10 109 C.s w0 x0 y0 C.e] ?_
  refine yZ (zG ?_)
  refine yR (.tuple #[yV C.s w0 x0 y0 C.e, yI C.err]) fun w' U S=>?_
  rw[eQ hj X (fun h=>by rcases h.2 with h|h|h;exact k4 h;exact k2 h;rw[k3] at h;cases h),hr25]
  exact⟨(w0,x0,y0),rfl,S.2,U⟩
 rw[i]
 have k1:=uB (Z.trans i)
 refine xq 14 [yB 47 false] [] ?_
 refine yZ (xb (zJ (zA (yY (xq 5 [yB 51 s,eS1 52 a b f,yJ 55 (IntKind.i64.wrap (e+((j+1:Nat):Int)))] [] ?_)))))
 rw[yW (e+((j+1:Nat):Int)) (e+((j+1:Nat):Int)) qO]
 obtain⟨D,N⟩:=yE (wI s (n/2^(j+1)) ((e+((j+1:Nat):Int))))
 refine xqc 138 [.bool s,.slice a b f, yI (e+((j+1:Nat):Int))] 56 (shNb D) _ (fun w U S=>((show Calls _ _ _ _ (wA w D) by rw[←N];exact kH s _ _ _ _ _ _ S.1.1.1.1.1 S.1.2 E qO qO)).mono (fun _ _=>wC)) fun⟨z0,A0,B0⟩=>?_
 refine xq 4 [yJ 11 D.err] [yF 10 109 D.s z0 A0 B0 D.e] ?_
 refine yZ (zG ?_)
 refine yR (.tuple #[yV D.s z0 A0 B0 D.e, yI D.err]) fun w' U S=>?_
 rw[eQ hj X (fun h=>k1 h.1),N]
 exact⟨(z0,A0,B0),rfl,S.2,U⟩
theorem Zmp (s:Bool)(A:qA)(l c x:Nat)(e:Int)(bits:Nat)(U0:0<bits)(hb:bits≤4096)(w:World)(hg:Glob w)(hX:zF w (.slice A l c) x)(V0:wl x≤100000)(W0 : -1073741824≤e)(X0:e≤1073741824)(g0:x=0∨x%2=1) :
 yA 98 #[yV s A l c e,.int .i64 ((bits:Nat):Int)] w (wA w (fL s x e bits)):=by
 refine zT (Φ:=fun w=>(Glob w∧zF w (.slice A l c) (x))) func98 rfl qK (fun w' hf=>⟨hg.ext hf,hX.ext hf⟩) ?_
 refine zC ?_
 have Y0:=hX.len0
 have Z0:=@lL x
 have a1:=fS x
 refine zB (xq 3 [(2,.p 2 0),(4,.p 4 0),yJ 5 0] [yF 4 109 false none 0 0 0,yF 2 109 s A l c e] ?_)
 refine yZ (zC (yY (xq 2 [yB 10 s] [] ?_)))
 refine xe (zA ?_)
 refine yQ (s) (fun b0=>?_) fun b0=>?_
 ·have J:=b0
  refine yY (xq 3 [yJ 5 3] [] ?_)
  refine yZ (zG (zH ?_))
  refine yR (.tuple #[yV false none 0 0 0, yI 3]) fun w' R Q=>?_
  rw[show fL s x e bits=⟨false,0,0,3⟩ from vC J]
  exact⟨(none,0,0),rfl,zF.zero _,R⟩
 have J:=b0
 refine zJ (zA (zC (yY (xq 4 [yB 15 (((l:Int):Int) == 0)] [] ?_))))
 refine xe (zA ?_)
 refine yQ ((((l:Int):Int) == 0)) (fun c0=>?_) fun c0=>?_
 ·have n0:=tV.1 c0
  have h0:x=0:=qO
  refine yY (xq 3 [yJ 5 0] [] ?_)
  refine yZ (zG (zH ?_))
  refine yR (.tuple #[yV false none 0 0 0, yI 0]) fun w' R Q=>?_
  rw[show fL s x e bits=⟨false,0,0,0⟩ by unfold fL;rw[uO (by rw[J];decide),vC h0]]
  exact⟨(none,0,0),rfl,zF.zero _,R⟩
 have n0:=lG c0
 have h0:¬ x=0:=qO
 refine zJ (zA (zC ?_))
 obtain⟨a,T0⟩:=yE (2*(bits:Int)+2-((blen x:Nat):Int))
 refine zB (xq 2 [yJ 18 (IntKind.i64.wrap (2*(bits:Int)))] [] ?_)
 rw[yW (2*(bits:Int)) (2*(bits:Int)) qO]
 refine xq 1 [(19,.v (yI (IntKind.i64.wrap ((2*(bits:Int))+2))))] [] ?_
 rw[yW ((2*(bits:Int))+2) (2*(bits:Int)+2) qO]
 refine xq 2 [eS1 21 A l c] [] ?_
 refine xqc 139 [.slice A l c] 22 (fun _:Unit=>yI ((blen x:Nat):Int)) _ (fun w R Q=>yN (kT Q.2 qO)) fun xx=>?_
 refine xq 1 [(23,.v (yI (IntKind.i64.wrap ((2*(bits:Int)+2)-((blen x:Nat):Int)))))] [] ?_
 rw[yW ((2*(bits:Int)+2)-((blen x:Nat):Int)) (a) qO]
 refine xq 2 [(6,.p 6 0)] [(6,3,[.v (yI a)])] ?_
 refine yZ (zC (zC ?_))
 by_cases i0:(e-a)%2=0
 ·refine zB (xq 4 [yJ 27 (IntKind.i64.wrap (e-a))] [] ?_)
  rw[yW (e-a) (e-a) qO]
  refine xq 2 [(29,.v (.bool (((((e-a)).tmod 2):Int) != 0)))] [] ?_
  rw[show (((e-a).tmod 2:Int) != 0)=false from (by rw[bne_eq_false_iff_eq,Zp4];exact i0)]
  refine yZ (xb (zJ (zA (zC ?_))))
  obtain⟨sh,o0⟩:=yE a
  rw[o0]
  have d0:x%2=1:=g0.resolve_left h0
  have k:(e-sh)%2=0:=qO
  have e0:2*(bits:Int)+2≤((blen x:Nat):Int)+sh:=qO
  have f0:((blen x:Nat):Int)+sh≤2*(bits:Int)+3:=qO
  obtain⟨Y,K⟩:=yE (fq x 1 (-sh))
  have p0:=ZcG (show 0<x by omega) sh qO
  rw[K] at p0
  have q0:wl Y≤200:=Zk3 qO
  have G0:=Zn8 q0
  by_cases r0:0≤sh
  ·obtain⟨j,hj⟩:∃ j:Nat,sh=j:=vG r0
   have L:x*2^j/2^0=Y:=by rw[tC,rR,← K,hj,ZaM]
   have s0:j≤10000000:=qO
   have t0:wl (x*2^j)≤4000000:=ZbA qO qO
   refine yO 11 zP ?_
   refine xqg 4 [eS1 33 A l c,yJ 35 (if 0>sh then 0 else sh)] ?_
   rw[(show (if 0>sh then 0 else sh)=(j:Int) by split<;>omega)]
   refine xqd 101 [.slice A l c, yI (j:Int)] 36 xH _ (fun w R Q=>yM xD (jL j Q.1.2 qO qO)) fun⟨H0,I0,J0⟩=>?_
   refine xqg 2 [yJ 38 (IntKind.i64.wrap (0-(sh)))] ?_
   rw[show IntKind.i64.wrap (0-(sh)) = -sh by rw[IntKind.wrap_i64];omega]
   refine xqg 1 [yJ 39 (if 0>(-sh) then 0 else (-sh))] ?_
   rw[(show (if 0>(-sh) then 0 else (-sh))=((0:Nat):Int) by split<;>omega)]
   refine xqd 140 [.slice H0 I0 J0, yI ((0:Nat):Int)] 40 xH _ (fun w R Q=>(gC 0 Q.2 qO qO).mono (fun _ _ h=>xD (by rw[L] at h;exact h))) fun⟨m,n,o⟩=>?_
   refine xqf 2 [(7,.p 7 0)] [(7,107,[.v (.slice m n o)]),(7,107,[.v (.slice none 0 0)]),(6,3,[.v (yI sh)]),yF 4 109 false none 0 0 0,yF 2 109 s A l c e] ?_
   refine xz (yZ (yY (xr 1 [yJ 1 (bits:Int),(2,.p 2 0),(4,.p 4 0),yJ 5 0,(6,.p 6 0),(7,.p 7 0),eS1 41 m n o] [(7,107,[.v (.slice m n o)]),(6,3,[.v (yI sh)]),yF 4 109 false none 0 0 0,yF 2 109 s A l c e] ?_)))
   refine xqc 141 [.slice m n o] 42 xH _ (fun w R Q=>yM xD (ZbJ m n o Y _ Q.2 qO)) fun⟨M,N,O⟩=>?_
   refine xq 2 [(8,.p 8 0)] [(8,107,[.v (.slice M N O)])] ?_
   refine yZ (zC ?_)
   refine SXc.freeze 6 3 [yI sh] (fun b=>[yJ 1 (bits:Int),(2,.p 2 0),(4,.p 4 0),yJ 5 0,(6,.v (.pointer (yL b))),(7,.p 7 0),(8,.p 8 0)]) [(8,107,[.v (.slice M N O)]),(7,107,[.v (.slice m n o)]),yF 4 109 false none 0 0 0,yF 2 109 s A l c e] qK (fun _=>qK) qK qK (fun _=>qK) fun b=>?_
   refine SXc.freeze 8 107 [.slice M N O] (fun d=>[yJ 1 (bits:Int),(2,.p 2 0),(4,.p 4 0),yJ 5 0,(6,.v (.pointer (yL b))),(7,.p 7 0),(8,.v (.pointer (yL d)))]) [(7,107,[.v (.slice m n o)]),yF 4 109 false none 0 0 0,yF 2 109 s A l c e] qK (fun _=>qK) qK qK (fun _=>qK) fun d=>?_
   refine SXc.freeze 7 107 [.slice m n o] (fun f=>[yJ 1 (bits:Int),(2,.p 2 0),(4,.p 4 0),yJ 5 0,(6,.v (.pointer (yL b))),(7,.v (.pointer (yL f))),(8,.v (.pointer (yL d)))]) [yF 4 109 false none 0 0 0,yF 2 109 s A l c e] qK (fun _=>qK) qK qK (fun _=>qK) fun f=>?_
   refine zB ?_
   refine xqk 43 (.slice M N O) (fun w R Q=>wU (t:=107) (x:=.tmp 8) (g:=d) (off:=0) (Blk.cell (Q.1.2) 0)) ?_
   refine xq 2 [yJ 45 e] [] ?_
   refine xqk 46 (yI sh) (fun w R Q=>wU (t:=3) (x:=.tmp 6) (g:=b) (off:=0) (Blk.cell (Q.1.1.2) 0)) ?_
   refine xq 1 [yJ 47 (IntKind.i64.wrap (e-sh))] [] ?_
   rw[yW (e-sh) (e-sh) qO]
   refine xq 1 [yJ 48 (IntKind.i64.wrap (((e-sh)).tdiv 2))] [] ?_
   rw[show IntKind.i64.wrap ((e-sh).tdiv 2)=(e-sh)/2 by rw[Zh0 k,IntKind.wrap_i64];omega]
   refine xq 2 [yJ 49 (bits:Int),(50,.v (.func (.func 142) #[] #[.pointer (yL b),.pointer (yL d),.pointer (yL f)]))] [] ?_
   obtain⟨F,j0⟩:=yE (lD false (isq Y) ((e-sh)/2) bits (decide (sh<0∨isq Y*isq Y≠Y)))
   refine xqc 132 [.bool false,.slice M N O, yI ((e-sh)/2), yI (bits:Int),.func (.func 142) #[] #[.pointer (yL b),.pointer (yL d),.pointer (yL f)]] 51 (shNb F) _ (fun w R Q=>yM wC ((show Calls _ _ _ _ (wA w F) by rw[←j0];exact ZaG false _ _ _ _ _ bits b d f sh M N O (isq Y) m n o Y _ Q.1.1.1.1.1.1.1.1 Q.1.1.1.2 qO qO qO qO Q.1.1.2 Q.1.2 Q.2 Q.1.1.1.2 Q.1.1.1.1.2 qO))) fun⟨u0,v0,w0⟩=>?_
   refine xq 4 [yJ 5 F.err] [yF 4 109 F.s u0 v0 w0 F.e] ?_
   refine yZ (zG ?_)
   refine yR (.tuple #[yV F.s u0 v0 w0 F.e, yI F.err]) fun w' R Q=>?_
   have i:=Zae d0 e qO sh k e0 f0
   rw[K,show iQ x sh=decide (sh<0∨isq Y*isq Y≠Y) by unfold iQ;rw[K]] at i
   rw[show fL s x e bits=Zbz x e bits by unfold fL;rw[uO (by rw[J];decide),uO h0],← i,j0]
   exact⟨(u0,v0,w0),rfl,Q.2,R⟩
  obtain⟨j,hj⟩:∃ j:Nat,sh = -(j:Int):=⟨(-sh).toNat,qO⟩
  have L:x*2^0/2^j=Y:=by rw[tC,sB,← K,Zk2 hj]
  have s0:j≤10000000:=qO
  have t0:wl (x*2^0)≤4000000:=ZbA qO qO
  refine yO 11 zP ?_
  refine xqg 4 [eS1 33 A l c,yJ 35 (if 0>sh then 0 else sh)] ?_
  rw[(show (if 0>sh then 0 else sh)=((0:Nat):Int) by split<;>omega)]
  refine xqd 101 [.slice A l c, yI ((0:Nat):Int)] 36 xH _ (fun w R Q=>yM xD (jL 0 Q.1.2 qO qO)) fun⟨K0,L0,M0⟩=>?_
  refine xqg 2 [yJ 38 (IntKind.i64.wrap (0-(sh)))] ?_
  rw[show IntKind.i64.wrap (0-(sh)) = -sh by rw[IntKind.wrap_i64];omega]
  refine xqg 1 [yJ 39 (if 0>(-sh) then 0 else (-sh))] ?_
  rw[(show (if 0>(-sh) then 0 else (-sh))=(j:Int) by split<;>omega)]
  refine xqd 140 [.slice K0 L0 M0, yI (j:Int)] 40 xH _ (fun w R Q=>(gC j Q.2 qO qO).mono (fun _ _ h=>xD (by rw[L] at h;exact h))) fun⟨q,r,u⟩=>?_
  refine xqf 2 [(7,.p 7 0)] [(7,107,[.v (.slice q r u)]),(7,107,[.v (.slice none 0 0)]),(6,3,[.v (yI sh)]),yF 4 109 false none 0 0 0,yF 2 109 s A l c e] ?_
  refine xz (yZ (yY (xr 1 [yJ 1 (bits:Int),(2,.p 2 0),(4,.p 4 0),yJ 5 0,(6,.p 6 0),(7,.p 7 0),eS1 41 q r u] [(7,107,[.v (.slice q r u)]),(6,3,[.v (yI sh)]),yF 4 109 false none 0 0 0,yF 2 109 s A l c e] ?_)))
  refine xqc 141 [.slice q r u] 42 xH _ (fun w R Q=>yM xD (ZbJ q r u Y _ Q.2 qO)) fun⟨P,S,T⟩=>?_
  refine xq 2 [(8,.p 8 0)] [(8,107,[.v (.slice P S T)])] ?_
  refine yZ (zC ?_)
  refine SXc.freeze 6 3 [yI sh] (fun b=>[yJ 1 (bits:Int),(2,.p 2 0),(4,.p 4 0),yJ 5 0,(6,.v (.pointer (yL b))),(7,.p 7 0),(8,.p 8 0)]) [(8,107,[.v (.slice P S T)]),(7,107,[.v (.slice q r u)]),yF 4 109 false none 0 0 0,yF 2 109 s A l c e] qK (fun _=>qK) qK qK (fun _=>qK) fun b=>?_
  refine SXc.freeze 8 107 [.slice P S T] (fun d=>[yJ 1 (bits:Int),(2,.p 2 0),(4,.p 4 0),yJ 5 0,(6,.v (.pointer (yL b))),(7,.p 7 0),(8,.v (.pointer (yL d)))]) [(7,107,[.v (.slice q r u)]),yF 4 109 false none 0 0 0,yF 2 109 s A l c e] qK (fun _=>qK) qK qK (fun _=>qK) fun d=>?_
  refine SXc.freeze 7 107 [.slice q r u] (fun f=>[yJ 1 (bits:Int),(2,.p 2 0),(4,.p 4 0),yJ 5 0,(6,.v (.pointer (yL b))),(7,.v (.pointer (yL f))),(8,.v (.pointer (yL d)))]) [yF 4 109 false none 0 0 0,yF 2 109 s A l c e] qK (fun _=>qK) qK qK (fun _=>qK) fun f=>?_
  refine zB ?_
  refine xqk 43 (.slice P S T) (fun w R Q=>wU (t:=107) (x:=.tmp 8) (g:=d) (off:=0) (Blk.cell (Q.1.2) 0)) ?_
  refine xq 2 [yJ 45 e] [] ?_
  refine xqk 46 (yI sh) (fun w R Q=>wU (t:=3) (x:=.tmp 6) (g:=b) (off:=0) (Blk.cell (Q.1.1.2) 0)) ?_
  refine xq 1 [yJ 47 (IntKind.i64.wrap (e-sh))] [] ?_
  rw[yW (e-sh) (e-sh) qO]
  refine xq 1 [yJ 48 (IntKind.i64.wrap (((e-sh)).tdiv 2))] [] ?_
  rw[show IntKind.i64.wrap ((e-sh).tdiv 2)=(e-sh)/2 by rw[Zh0 k,IntKind.wrap_i64];omega]
  refine xq 2 [yJ 49 (bits:Int),(50,.v (.func (.func 142) #[] #[.pointer (yL b),.pointer (yL d),.pointer (yL f)]))] [] ?_
  obtain⟨G,k0⟩:=yE (lD false (isq Y) ((e-sh)/2) bits (decide (sh<0∨isq Y*isq Y≠Y)))
  refine xqc 132 [.bool false,.slice P S T, yI ((e-sh)/2), yI (bits:Int),.func (.func 142) #[] #[.pointer (yL b),.pointer (yL d),.pointer (yL f)]] 51 (shNb G) _ (fun w R Q=>yM wC ((show Calls _ _ _ _ (wA w G) by rw[←k0];exact ZaG false _ _ _ _ _ bits b d f sh P S T (isq Y) q r u Y _ Q.1.1.1.1.1.1.1.1 Q.1.1.1.2 qO qO qO qO Q.1.1.2 Q.1.2 Q.2 Q.1.1.1.2 Q.1.1.1.1.2 qO))) fun⟨x0,y0,z0⟩=>?_
  refine xq 4 [yJ 5 G.err] [yF 4 109 G.s x0 y0 z0 G.e] ?_
  refine yZ (zG ?_)
  refine yR (.tuple #[yV G.s x0 y0 z0 G.e, yI G.err]) fun w' R Q=>?_
  have i:=Zae d0 e qO sh k e0 f0
  rw[K,show iQ x sh=decide (sh<0∨isq Y*isq Y≠Y) by unfold iQ;rw[K]] at i
  rw[show fL s x e bits=Zbz x e bits by unfold fL;rw[uO (by rw[J];decide),uO h0],← i,k0]
  exact⟨(x0,y0,z0),rfl,Q.2,R⟩
 refine zB (xq 4 [yJ 27 (IntKind.i64.wrap (e-a))] [] ?_)
 rw[yW (e-a) (e-a) qO]
 refine xq 2 [(29,.v (.bool (((((e-a)).tmod 2):Int) != 0)))] [] ?_
 rw[show (((e-a).tmod 2:Int) != 0)=true from bne_iff_ne.2 (mt (Zp4 _).1 i0)]
 refine yZ (xa (zB (xq 2 [yJ 31 (IntKind.i64.wrap (a+1))] [] ?_)))
 rw[yW (a+1) (a+1) qO]
 refine xq 1 [] [(6,3,[.v (yI (a+1))])] ?_
 refine yZ (zC ?_)
 obtain⟨sh,o0⟩:=yE (a+1)
 rw[o0]
 have d0:x%2=1:=g0.resolve_left h0
 have k:(e-sh)%2=0:=qO
 have e0:2*(bits:Int)+2≤((blen x:Nat):Int)+sh:=qO
 have f0:((blen x:Nat):Int)+sh≤2*(bits:Int)+3:=qO
 obtain⟨Y,K⟩:=yE (fq x 1 (-sh))
 have p0:=ZcG (show 0<x by omega) sh qO
 rw[K] at p0
 have q0:wl Y≤200:=Zk3 qO
 have G0:=Zn8 q0
 by_cases r0:0≤sh
 ·obtain⟨j,hj⟩:∃ j:Nat,sh=j:=vG r0
  have L:x*2^j/2^0=Y:=by rw[tC,rR,← K,hj,ZaM]
  have s0:j≤10000000:=qO
  have t0:wl (x*2^j)≤4000000:=ZbA qO qO
  refine yO 11 zP ?_
  refine xqg 4 [eS1 33 A l c,yJ 35 (if 0>sh then 0 else sh)] ?_
  rw[(show (if 0>sh then 0 else sh)=(j:Int) by split<;>omega)]
  refine xqd 101 [.slice A l c, yI (j:Int)] 36 xH _ (fun w R Q=>yM xD (jL j Q.1.2 qO qO)) fun⟨N0,O0,P0⟩=>?_
  refine xqg 2 [yJ 38 (IntKind.i64.wrap (0-(sh)))] ?_
  rw[show IntKind.i64.wrap (0-(sh)) = -sh by rw[IntKind.wrap_i64];omega]
  refine xqg 1 [yJ 39 (if 0>(-sh) then 0 else (-sh))] ?_
  rw[(show (if 0>(-sh) then 0 else (-sh))=((0:Nat):Int) by split<;>omega)]
  refine xqd 140 [.slice N0 O0 P0, yI ((0:Nat):Int)] 40 xH _ (fun w R Q=>(gC 0 Q.2 qO qO).mono (fun _ _ h=>xD (by rw[L] at h;exact h))) fun⟨y,z,B⟩=>?_
  refine xqf 2 [(7,.p 7 0)] [(7,107,[.v (.slice y z B)]),(7,107,[.v (.slice none 0 0)]),(6,3,[.v (yI sh)]),yF 4 109 false none 0 0 0,yF 2 109 s A l c e] ?_
  refine xz (yZ (yY (xr 1 [yJ 1 (bits:Int),(2,.p 2 0),(4,.p 4 0),yJ 5 0,(6,.p 6 0),(7,.p 7 0),eS1 41 y z B] [(7,107,[.v (.slice y z B)]),(6,3,[.v (yI sh)]),yF 4 109 false none 0 0 0,yF 2 109 s A l c e] ?_)))
  refine xqc 141 [.slice y z B] 42 xH _ (fun w R Q=>yM xD (ZbJ y z B Y _ Q.2 qO)) fun⟨U,V,W⟩=>?_
  refine xq 2 [(8,.p 8 0)] [(8,107,[.v (.slice U V W)])] ?_
  refine yZ (zC ?_)
  refine SXc.freeze 6 3 [yI sh] (fun b=>[yJ 1 (bits:Int),(2,.p 2 0),(4,.p 4 0),yJ 5 0,(6,.v (.pointer (yL b))),(7,.p 7 0),(8,.p 8 0)]) [(8,107,[.v (.slice U V W)]),(7,107,[.v (.slice y z B)]),yF 4 109 false none 0 0 0,yF 2 109 s A l c e] qK (fun _=>qK) qK qK (fun _=>qK) fun b=>?_
  refine SXc.freeze 8 107 [.slice U V W] (fun d=>[yJ 1 (bits:Int),(2,.p 2 0),(4,.p 4 0),yJ 5 0,(6,.v (.pointer (yL b))),(7,.p 7 0),(8,.v (.pointer (yL d)))]) [(7,107,[.v (.slice y z B)]),yF 4 109 false none 0 0 0,yF 2 109 s A l c e] qK (fun _=>qK) qK qK (fun _=>qK) fun d=>?_
  refine SXc.freeze 7 107 [.slice y z B] (fun f=>[yJ 1 (bits:Int),(2,.p 2 0),(4,.p 4 0),yJ 5 0,(6,.v (.pointer (yL b))),(7,.v (.pointer (yL f))),(8,.v (.pointer (yL d)))]) [yF 4 109 false none 0 0 0,yF 2 109 s A l c e] qK (fun _=>qK) qK qK (fun _=>qK) fun f=>?_
  refine zB ?_
  refine xqk 43 (.slice U V W) (fun w R Q=>wU (t:=107) (x:=.tmp 8) (g:=d) (off:=0) (Blk.cell (Q.1.2) 0)) ?_
  refine xq 2 [yJ 45 e] [] ?_
  refine xqk 46 (yI sh) (fun w R Q=>wU (t:=3) (x:=.tmp 6) (g:=b) (off:=0) (Blk.cell (Q.1.1.2) 0)) ?_
  refine xq 1 [yJ 47 (IntKind.i64.wrap (e-sh))] [] ?_
  rw[yW (e-sh) (e-sh) qO]
  refine xq 1 [yJ 48 (IntKind.i64.wrap (((e-sh)).tdiv 2))] [] ?_
  rw[show IntKind.i64.wrap ((e-sh).tdiv 2)=(e-sh)/2 by rw[Zh0 k,IntKind.wrap_i64];omega]
  refine xq 2 [yJ 49 (bits:Int),(50,.v (.func (.func 142) #[] #[.pointer (yL b),.pointer (yL d),.pointer (yL f)]))] [] ?_
  obtain⟨H,l0⟩:=yE (lD false (isq Y) ((e-sh)/2) bits (decide (sh<0∨isq Y*isq Y≠Y)))
  refine xqc 132 [.bool false,.slice U V W, yI ((e-sh)/2), yI (bits:Int),.func (.func 142) #[] #[.pointer (yL b),.pointer (yL d),.pointer (yL f)]] 51 (shNb H) _ (fun w R Q=>yM wC ((show Calls _ _ _ _ (wA w H) by rw[←l0];exact ZaG false _ _ _ _ _ bits b d f sh U V W (isq Y) y z B Y _ Q.1.1.1.1.1.1.1.1 Q.1.1.1.2 qO qO qO qO Q.1.1.2 Q.1.2 Q.2 Q.1.1.1.2 Q.1.1.1.1.2 qO))) fun⟨A0,B0,C0⟩=>?_
  refine xq 4 [yJ 5 H.err] [yF 4 109 H.s A0 B0 C0 H.e] ?_
  refine yZ (zG ?_)
  refine yR (.tuple #[yV H.s A0 B0 C0 H.e, yI H.err]) fun w' R Q=>?_
  have i:=Zae d0 e qO sh k e0 f0
  rw[K,show iQ x sh=decide (sh<0∨isq Y*isq Y≠Y) by unfold iQ;rw[K]] at i
  rw[show fL s x e bits=Zbz x e bits by unfold fL;rw[uO (by rw[J];decide),uO h0],← i,l0]
  exact⟨(A0,B0,C0),rfl,Q.2,R⟩
 obtain⟨j,hj⟩:∃ j:Nat,sh = -(j:Int):=⟨(-sh).toNat,qO⟩
 have L:x*2^0/2^j=Y:=by rw[tC,sB,← K,Zk2 hj]
 have s0:j≤10000000:=qO
 have t0:wl (x*2^0)≤4000000:=ZbA qO qO
 refine yO 11 zP ?_
 refine xqg 4 [eS1 33 A l c,yJ 35 (if 0>sh then 0 else sh)] ?_
 rw[(show (if 0>sh then 0 else sh)=((0:Nat):Int) by split<;>omega)]
 refine xqd 101 [.slice A l c, yI ((0:Nat):Int)] 36 xH _ (fun w R Q=>yM xD (jL 0 Q.1.2 qO qO)) fun⟨Q0,R0,S0⟩=>?_
 refine xqg 2 [yJ 38 (IntKind.i64.wrap (0-(sh)))] ?_
 rw[show IntKind.i64.wrap (0-(sh)) = -sh by rw[IntKind.wrap_i64];omega]
 refine xqg 1 [yJ 39 (if 0>(-sh) then 0 else (-sh))] ?_
 rw[(show (if 0>(-sh) then 0 else (-sh))=(j:Int) by split<;>omega)]
 refine xqd 140 [.slice Q0 R0 S0, yI (j:Int)] 40 xH _ (fun w R Q=>(gC j Q.2 qO qO).mono (fun _ _ h=>xD (by rw[L] at h;exact h))) fun⟨C,D,E⟩=>?_
 refine xqf 2 [(7,.p 7 0)] [(7,107,[.v (.slice C D E)]),(7,107,[.v (.slice none 0 0)]),(6,3,[.v (yI sh)]),yF 4 109 false none 0 0 0,yF 2 109 s A l c e] ?_
 refine xz (yZ (yY (xr 1 [yJ 1 (bits:Int),(2,.p 2 0),(4,.p 4 0),yJ 5 0,(6,.p 6 0),(7,.p 7 0),eS1 41 C D E] [(7,107,[.v (.slice C D E)]),(6,3,[.v (yI sh)]),yF 4 109 false none 0 0 0,yF 2 109 s A l c e] ?_)))
 refine xqc 141 [.slice C D E] 42 xH _ (fun w R Q=>yM xD (ZbJ C D E Y _ Q.2 qO)) fun⟨X,Z,a0⟩=>?_
 refine xq 2 [(8,.p 8 0)] [(8,107,[.v (.slice X Z a0)])] ?_
 refine yZ (zC ?_)
 refine SXc.freeze 6 3 [yI sh] (fun b=>[yJ 1 (bits:Int),(2,.p 2 0),(4,.p 4 0),yJ 5 0,(6,.v (.pointer (yL b))),(7,.p 7 0),(8,.p 8 0)]) [(8,107,[.v (.slice X Z a0)]),(7,107,[.v (.slice C D E)]),yF 4 109 false none 0 0 0,yF 2 109 s A l c e] qK (fun _=>qK) qK qK (fun _=>qK) fun b=>?_
 refine SXc.freeze 8 107 [.slice X Z a0] (fun d=>[yJ 1 (bits:Int),(2,.p 2 0),(4,.p 4 0),yJ 5 0,(6,.v (.pointer (yL b))),(7,.p 7 0),(8,.v (.pointer (yL d)))]) [(7,107,[.v (.slice C D E)]),yF 4 109 false none 0 0 0,yF 2 109 s A l c e] qK (fun _=>qK) qK qK (fun _=>qK) fun d=>?_
 refine SXc.freeze 7 107 [.slice C D E] (fun f=>[yJ 1 (bits:Int),(2,.p 2 0),(4,.p 4 0),yJ 5 0,(6,.v (.pointer (yL b))),(7,.v (.pointer (yL f))),(8,.v (.pointer (yL d)))]) [yF 4 109 false none 0 0 0,yF 2 109 s A l c e] qK (fun _=>qK) qK qK (fun _=>qK) fun f=>?_
 refine zB ?_
 refine xqk 43 (.slice X Z a0) (fun w R Q=>wU (t:=107) (x:=.tmp 8) (g:=d) (off:=0) (Blk.cell (Q.1.2) 0)) ?_
 refine xq 2 [yJ 45 e] [] ?_
 refine xqk 46 (yI sh) (fun w R Q=>wU (t:=3) (x:=.tmp 6) (g:=b) (off:=0) (Blk.cell (Q.1.1.2) 0)) ?_
 refine xq 1 [yJ 47 (IntKind.i64.wrap (e-sh))] [] ?_
 rw[yW (e-sh) (e-sh) qO]
 refine xq 1 [yJ 48 (IntKind.i64.wrap (((e-sh)).tdiv 2))] [] ?_
 rw[show IntKind.i64.wrap ((e-sh).tdiv 2)=(e-sh)/2 by rw[Zh0 k,IntKind.wrap_i64];omega]
 refine xq 2 [yJ 49 (bits:Int),(50,.v (.func (.func 142) #[] #[.pointer (yL b),.pointer (yL d),.pointer (yL f)]))] [] ?_
 obtain⟨I,m0⟩:=yE (lD false (isq Y) ((e-sh)/2) bits (decide (sh<0∨isq Y*isq Y≠Y)))
 refine xqc 132 [.bool false,.slice X Z a0, yI ((e-sh)/2), yI (bits:Int),.func (.func 142) #[] #[.pointer (yL b),.pointer (yL d),.pointer (yL f)]] 51 (shNb I) _ (fun w R Q=>yM wC ((show Calls _ _ _ _ (wA w I) by rw[←m0];exact ZaG false _ _ _ _ _ bits b d f sh X Z a0 (isq Y) C D E Y _ Q.1.1.1.1.1.1.1.1 Q.1.1.1.2 qO qO qO qO Q.1.1.2 Q.1.2 Q.2 Q.1.1.1.2 Q.1.1.1.1.2 qO))) fun⟨D0,E0,F0⟩=>?_
 refine xq 4 [yJ 5 I.err] [yF 4 109 I.s D0 E0 F0 I.e] ?_
 refine yZ (zG ?_)
 refine yR (.tuple #[yV I.s D0 E0 F0 I.e, yI I.err]) fun w' R Q=>?_
 have i:=Zae d0 e qO sh k e0 f0
 rw[K,show iQ x sh=decide (sh<0∨isq Y*isq Y≠Y) by unfold iQ;rw[K]] at i
 rw[show fL s x e bits=Zbz x e bits by unfold fL;rw[uO (by rw[J];decide),uO h0],← i,m0]
 exact⟨(D0,E0,F0),rfl,Q.2,R⟩
theorem Zmq (s:Bool)(A:qA)(l c:Nat)(e:Int)(w:World)(a:zF w (.slice A l c) 0) :
 yA 169 #[yV s A l c e] w (RetV w (yV s A l c e)):=by
 refine zT (Φ:=fun w=>zF w (.slice A l c) (0)) func169 rfl qK (fun w' b=>a.ext b) ?_
 refine zC ?_
 have d:=a.len0
 have f:=@lL 0
 refine zB (xq 2 [(1,.p 1 0),(2,.p 2 0)] [yF 2 109 false none 0 0 0,yF 1 109 s A l c e] ?_)
 refine yZ (zC (yY (xq 4 [yB 6 (decide ((l:Int)>0))] [] ?_)))
 rw[show decide ((l:Int)>0)=false from uV qO]
 refine yZ (xb (zJ (zA (yY (xq 2 [] [yF 2 109 s A l c e] ?_)))))
 refine yZ (zG ?_)
 refine yR (yV s A l c e) fun w' R Q=>?_
 exact⟨rfl,R⟩
theorem Zoa (s:Bool)(A:qA)(l c x:Nat)(e:Int)(t:Bool)(B:qA)(m d y:Nat)(f:Int)(bits:Nat)(z:0<bits)(J:bits≤4096)(w:World)(K:Glob w)(L:zF w (.slice A l c) x)(C:wl x≤100000)(D : -1073741824≤e)(E:e≤1073741824)(M:zF w (.slice B m d) y)(F:wl y≤100000)(G : -1073741824≤f)(H:f≤1073741824) :
 yA 129 #[yV s A l c e, yV t B m d f,.int .i64 ((bits:Nat):Int)] w (wA w (sumR s x e (if y=0 then t else !t) y f bits)):=by
 refine zT (Φ:=fun w=>((Glob w∧zF w (.slice A l c) (x))∧zF w (.slice B m d) (y))) func129 rfl qK (fun w' I=>⟨⟨K.ext I,L.ext I⟩,M.ext I⟩) ?_
 refine yY (xq 4 [(3,.p 3 0),(4,.p 4 0),(6,.p 6 0),yJ 7 0] [yF 6 109 false none 0 0 0,yF 4 109 t B m d f,yF 3 109 s A l c e] ?_)
 refine yZ (zC ?_)
 by_cases j:y=0
 ·refine yO 9 zP ?_
  refine xqg 2 [(8,.v (yV s A l c e)),(9,.v (yV t B m d f))] ?_
  refine xqd 169 [yV t B m d f] 10 (fun _:Unit=>.agg #[.bool t,.slice B m d, yI f]) _ (fun w R Q=>yN (Zmq t B m d f _ (by have h:=Q.2;rw[j] at h;exact h))) fun N=>?_
  refine xqg 1 [yJ 11 (bits:Int)] ?_
  obtain⟨a,g⟩:=yE (sumR s x e t y f bits)
  refine xqd 91 [yV s A l c e, yV t B m d f, yI (bits:Int)] 12 (shNb a) _ (fun w R Q=>yM wC ((show Calls _ _ _ _ (wA w a) by rw[←g];exact Zhi s A l c x e t B m d y f bits z J _ Q.1.1.1 Q.1.1.2 C D E Q.1.2 F G H))) fun⟨k,n,o⟩=>?_
  refine xqf 4 [yJ 7 a.err] [yF 6 109 a.s k n o a.e,yF 6 109 false none 0 0 0,yF 4 109 t B m d f,yF 3 109 s A l c e] ?_
  refine xz (yZ (zG ?_))
  refine yR (.tuple #[yV a.s k n o a.e, yI a.err]) fun w' R Q=>?_
  rw[show (if y=0 then t else !t)=t from vC j,g]
  exact⟨(k,n,o),rfl,Q.2,R⟩
 refine yO 9 zP ?_
 refine xqg 2 [(8,.v (yV s A l c e)),(9,.v (yV t B m d f))] ?_
 refine xqd 169 [yV t B m d f] 10 (fun _:Unit=>.agg #[.bool (!t),.slice B m d, yI f]) _ (fun w R Q=>yN (Zn6 t B m d y f _ Q.2 qO)) fun N=>?_
 refine xqg 1 [yJ 11 (bits:Int)] ?_
 obtain⟨b,i⟩:=yE (sumR s x e ((!t)) y f bits)
 refine xqd 91 [yV s A l c e, yV (!t) B m d f, yI (bits:Int)] 12 (shNb b) _ (fun w R Q=>yM wC ((show Calls _ _ _ _ (wA w b) by rw[←i];exact Zhi s A l c x e ((!t)) B m d y f bits z J _ Q.1.1.1 Q.1.1.2 C D E Q.1.2 F G H))) fun⟨q,r,u⟩=>?_
 refine xqf 4 [yJ 7 b.err] [yF 6 109 b.s q r u b.e,yF 6 109 false none 0 0 0,yF 4 109 t B m d f,yF 3 109 s A l c e] ?_
 refine xz (yZ (zG ?_))
 refine yR (.tuple #[yV b.s q r u b.e, yI b.err]) fun w' R Q=>?_
 rw[show (if y=0 then t else !t)=(!t) from uO j,i]
 exact⟨(q,r,u),rfl,Q.2,R⟩
theorem ZgM (s:Bool):sg s 0=0:=by cases s<;>rfl
theorem Zoo (a:Nat):IntKind.u32.wrap (((a%W64:Nat):Int))=((a%W32:Nat):Int):=by
 rw[IntKind.wrap_u32,zO,zV];omega
section
variable {P:Program} {o:Oper} {ρ:Operand→Value} {w:World} {x y:Operand} {t k:TypeId}
theorem Zjo {a n:Nat}(h:n≤32)(b:o.op=Op.binOp .shr t x y k:=by kernel_rfl)(c:ρ x=.int .u32 (a:Int):=by kernel_rfl){ky:IntKind}(d:ρ y=.int ky (n:Int):=by kernel_rfl):(execOp ρ o).run P w=.ok (.value (.int .u32 ((a/2^n:Nat):Int))) w:=by
 have e:¬ ((n:Int)<0):=qO
 have f:min ((n:Int)).toNat IntKind.u32.bits=n:=by show min ((n:Int)).toNat 32=n;omega
 have g:((a:Int)).fdiv (2^n)=((a/2^n:Nat):Int):=by
  rw[Int.fdiv_eq_ediv_of_nonneg _ (by rw[show ((2:Int)^n)=((2^n:Nat):Int) by rw[tE];rfl];exact pN _)]
  exact ZaY a n
 simp only[execOp,b,c,d,eqGuard,binOp,Op.shift,uO e,f,g]
 rfl
theorem Zro {a b r:Nat}(ha:a<W32)(c:b<W32)(h:a ||| b=r)(d:o.op=Op.binOp .or t x y k:=by kernel_rfl)(e:ρ x=.int .u32 (a:Int):=by kernel_rfl)(f:ρ y=.int .u32 (b:Int):=by kernel_rfl):(execOp ρ o).run P w=.ok (.value (.int .u32 (r:Int))) w:=by
 have:=ZiE ha c
 rw[h] at this
 rw[←this]
 simp only[execOp,d,e,f,eqGuard,binOp]
 rfl
theorem ZpL {a:Nat}(b:o.op=Op.binOp .and t x y k:=by kernel_rfl)(c:ρ x=.int .u32 (a:Int):=by kernel_rfl)(d:ρ y=.int .u32 1:=by kernel_rfl)(ha:a<W32:=by assumption):(execOp ρ o).run P w=.ok (.value (.int .u32 ((a%2:Nat):Int))) w:=ZdR b c d (by rw[zV] at ha;exact ha)
end
theorem Zeg {a:Int}(h:a≤0):decide (a.sign>0)=false:=uV (fun e=>by have:=Int.sign_eq_one_iff_pos.1 (show a.sign=1 by have:=Int.sign_trichotomy a;omega);omega)
def ZbM (z:Int):Prop:=ml z.natAbs≤1048576
theorem Zsu {z:Int}(h:ZbM z):xZ z:=uD h qD
theorem len_zero {w:World}{s:Bool}{A:qA}{l c:Nat}{z:Int}(h:zN w (.agg #[.bool s,.slice A l c]) z)(a:z=0):l=0:=by
 subst a
 obtain⟨g,i,j,b,m,n,d,e,f⟩:=h.opn.1
 injection b with e1 e2 e3
 have:=kJ d e
 rw[f,show (0:Int).natAbs=0 from rfl,show ml 0=0 from Nat.le_zero.1 (wT.2 (by rw[tC];decide))] at this
 omega
theorem Zop {b n v:Nat}{xs:qN}{w:World}(a:Own .u32 143 w b xs)(c:Dig W32 xs)(d:xs.length=n)(e:val W32 xs=v)(f:n≤1099511627776):yA 94 #[.slice (some ⟨b,0,none⟩) n n] w (dJ w v):=by
 subst d e
 exact Zhx w ⟨xs,a.row (uF _),c,rfl⟩ (uD f qD)
theorem Zoq (s0:Bool)(A:qA)(xs:qN)(c k:Nat)(w:World)(hX:zE .u32 w A xs)(hl:xs.length≤1048576)(hc:xs.length≤c)(W:Dig W32 xs)(f0:0<k)(hk:k≤1099511627776) :
 yA 115 #[.agg #[.bool s0,.slice A xs.length c],.int .i64 (-((k:Nat):Int))] w (lW w (sg s0 (val W32 xs/2^k))):=by
 refine zT (Φ:=fun w=>zE .u32 w A xs) func115 rfl qK (fun w' hf=>hX.ext hf) ?_
 refine yY (xq 2 [(2,.p 2 0),(4,.p 4 0)] [bI2 4 57 false none 0 0,bI2 2 57 s0 A xs.length c] ?_)
 refine yZ (zC (yY (xq 2 [(11,.v (.bool (decide ((-(k:Int))≥0))))] [] ?_)))
 rw[show decide (-(k:Int)≥0)=false from uV qO]
 refine yZ (xb (zJ (zA (yY (xq 2 [(28,.v (yI (IntKind.i64.wrap (0-((-(k:Int)))))))] [] ?_)))))
 rw[yW (0-(-(k:Int))) ((k:Int)) qO]
 refine xq 1 [yJ 1 (k:Int)] [] ?_
 refine yZ (zC (yY (xq 2 [(30,.v (yI (IntKind.i64.wrap (((k:Int)).tdiv 32))))] [] ?_)))
 rw[show IntKind.i64.wrap ((((k:Int)).tdiv 32))=((k/32:Nat):Int) from tdq (k) 32 qO]
 refine xq 4 [yB 34 (decide (((k/32:Nat):Int)≥((xs.length:Nat):Int)))] [] ?_
 refine xe (zA ?_)
 refine yQ ((decide (((k/32:Nat):Int)≥((xs.length:Nat):Int)))) (fun s=>?_) fun s=>?_
 ·have G:=uA s
  refine yY (xq 2 [] [] ?_)
  refine yZ (zG (zH ?_))
  refine yR (.agg #[.bool false,.slice none 0 0]) fun w' R Q=>?_
  exact⟨_,rfl,by rw[ZlI W qO,ZgM];exact zN.nil _,R⟩
 have G:=uB s
 refine zJ (zA (zC ?_))
 obtain⟨ys,D⟩:=yE (xs.drop (k/32))
 have X:ys.length=xs.length-k/32:=by rw[←D,vT]
 have L:Dig W32 ys:=by rw[←D];exact W.drop _
 obtain⟨B,hB⟩:=yE (if c=k/32 then A else A.map (·.add (k/32)))
 obtain⟨d,Y⟩:=yE (c-k/32)
 have Z:Value.slice (if c=k/32 then A else A.map (·.add (k/32))) (xs.length-k/32) (c-k/32)=.slice B ys.length d:=by rw[hB,X,Y]
 refine yC [yJ 1 (k:Int),(2,.p 2 0),(4,.p 4 0)] [(4,57,[.v (.bool false),.v (.slice none 0 0)]),(2,57,[.v (.bool s0),.v (.slice A xs.length c)])] (fun w=>zE .u32 w B ys) (fun w Q=>by rw[←hB,← D];exact zE.cut (Q) qO hc) ?_
 refine zB (xq 4 [eS1 37 A xs.length c,(39,.v (yI (IntKind.i64.wrap (((k:Int)).tdiv 32))))] [] ?_)
 rw[show IntKind.i64.wrap ((((k:Int)).tdiv 32))=((k/32:Nat):Int) from tdq (k) 32 qO]
 refine xqk 40 (.slice B ys.length d) (fun w R Q=>by rw[←Z];exact ZoM (t:=55) (e:=143) (x:=.tmp 37) (len:=xs.length) (cap:=c) (l:=k/32) (lo:=.tmp 39) qO) ?_
 refine xq 1 [eS1 6 B ys.length d] [] ?_
 refine yZ (yY (xq 2 [yJ 42 (((k:Int)).tmod 32)] [] ?_))
 rw[show ((k:Int)).tmod 32=((k%32:Nat):Int) from tdr (k) 32]
 refine xq 1 [yU 43 (IntKind.u64.wrap (((k%32:Nat):Int)))] [] ?_
 rw[show IntKind.u64.wrap (((k%32:Nat):Int))=((k%32:Nat):Int) by rw[IntKind.wrap_u64];omega]
 refine xq 1 [yU 7 ((k%32:Nat):Int)] [] ?_
 refine yZ (yY (xq 2 [yJ 45 ((ys.length:Nat):Int)] [] ?_))
 refine Zbr (d:=46) (t:=55) (e:=143) (k:=.u32) (kl:=.i64) (kc:=.i64) (l:=.tmp 45) (c:=.tmp 45) (ys.length) 4 qO qD fun f E _=>?_
 refine xr 1 [(2,.p 2 0),(4,.p 4 0),eS1 6 B ys.length d,yU 7 ((k%32:Nat):Int),eS1 8 (yL f) (ys.length) (ys.length)] [bI2 4 57 false none 0 0,bI2 2 57 s0 A xs.length c] ?_
 refine yZ (zC (yY (xq 1 [yJ 9 0] [] ?_)))
 refine yZ (zS ?_)
 refine yC [(2,.p 2 0),(4,.p 4 0),eS1 6 B ys.length d,yU 7 ((k%32:Nat):Int),eS1 8 (yL f) (ys.length) (ys.length),yJ 9 ((0:Nat):Int)] [(4,57,[.v (.bool false),.v (.slice none 0 0)]),(2,57,[.v (.bool s0),.v (.slice A xs.length c)])] (fun w=>(Box (fun j=>f≤j) w (fun w=>zE .u32 w B (ys))∧Own .u32 143 w f ((List.replicate (ys.length) 0)))) (fun w Q=>⟨Q.1,Q.2⟩) ?_
 refine xR (fun nn ss ff=>∃ (i:Nat) (r:List Nat),ss=ofL [(2,.p 2 0),(4,.p 4 0),eS1 6 B ys.length d,yU 7 ((k%32:Nat):Int),eS1 8 (yL f) (ys.length) (ys.length),yJ 9 (i:Int)] [(4,57,[.v (.bool false),.v (.slice none 0 0)]),(2,57,[.v (.bool s0),.v (.slice A xs.length c)])]∧ff=(fun w=>(Box (fun j=>f≤j) w (fun w=>zE .u32 w B (ys))∧Own .u32 143 w f (r)))∧(iP ys (k%32) i r)∧(i≤ys.length)∧nn=(ys.length-i)) ((ys.length-0)) ⟨0,(List.replicate (ys.length) 0),rfl,rfl,(iP.start ys (k%32)),qO,rfl⟩ ?_
 rintro nn ss ff ⟨i,r,rfl,rfl,K,hi,rfl⟩
 refine zC (yY (xq 4 [yB 50 (decide ((i:Int)<((ys.length:Nat):Int)))] [] ?_))
 refine xe (zA ?_)
 refine yQ ((decide ((i:Int)<((ys.length:Nat):Int)))) (fun u=>?_) fun u=>?_
 ·have H:=uA u
  have M:r.length=ys.length:=K.1
  refine zJ (zA (zC (zS (yY (xq 4 [eS1 53 (yL f) (ys.length) (ys.length),yJ 54 (i:Int),eS1 55 B ys.length d,yJ 56 (i:Int)] [] ?_)))))
  refine xqk 57 (atA B i) (fun w R Q=>wE (t:=55) (e:=143) (x:=.tmp 55) (ix:=.tmp 56) (len:=ys.length) (cap:=d) (i:=i) (((Q.1).self).ne (j:=i) qO) qO) ?_
  obtain⟨g,q⟩:=yE (ys[i]?.getD 0)
  refine xqk 58 (.int .u32 (g:Int)) (fun w R Q=>by rw[←q];exact wP (t:=143) (x:=.tmp 57) ((Q.1).self) (j:=i) qO) ?_
  have m:g<W32:=by rw[←q];exact L.getD zX _
  have a0:g<4294967296:=by have:=m;rw[zV] at this;exact this
  refine xq 1 [yU 59 ((k%32:Nat):Int)] [] ?_
  refine xqk 60 (.int .u32 ((g/2^(k%32):Nat):Int)) (fun w R Q=>Zjo (t:=143) (x:=.tmp 58) (y:=.tmp 59) (k:=135) (ky:=.u64) (a:=g) (n:=(k%32)) qO) ?_
  refine xqk 61 (.pointer (some ⟨f,i,none⟩)) (fun w R Q=>lS (t:=55) (e:=143) (x:=.tmp 53) (ix:=.tmp 54) (len:=(ys.length)) (cap:=(ys.length)) (i:=i) qO) ?_
  refine jE (t:=143) (x:=.tmp 61) (y:=.tmp 60) f (i) (g/2^(k%32)) (fun w=>(Box (fun j=>f≤j) w (fun w=>zE .u32 w B (ys))∧Own .u32 143 w f ((r).set (i) (g/2^(k%32))))) (fun w Q=>Q.2) qO (Or.inl E) (fun w w' Q hF hO=>⟨((Q.1).fr (hF.mono (fun _ _ e=>by rw[e];exact uF _))),hO⟩) ?_
  refine yZ (yY (xq 2 [yJ 63 (IntKind.i64.wrap ((i:Int)+1))] [] ?_))
  rw[yW ((i:Int)+1) (((i+1:Nat):Int)) qO]
  refine xq 3 [yB 66 (decide (((i+1:Nat):Int)<((ys.length:Nat):Int)))] [] ?_
  refine xe (zA ?_)
  refine yQ ((decide (((i+1:Nat):Int)<((ys.length:Nat):Int)))) (fun z=>?_) fun z=>?_
  ·have I:=uA z
   refine Za2 16 [0,0,3,7,0,0,32,112,240,496,0,1024,4080,8176,16383,32767] qK qK zP ?_
   refine xqg 2 [eS1 67 (yL f) (ys.length) (ys.length),yJ 68 (i:Int)] ?_
   refine xqj 69 (.pointer (some ⟨f,i,none⟩)) (fun w Q=>lS (t:=55) (e:=143) (x:=.tmp 67) (ix:=.tmp 68) (len:=(ys.length)) (cap:=(ys.length)) (i:=i) qO) ?_
   obtain⟨N,F⟩:=yE (((r).set (i) (g/2^(k%32)))[i]?.getD 0)
   refine xqj 70 (.int .u32 (N:Int)) (fun w Q=>by rw[←F];exact gH (t:=143) (x:=.tmp 69) (Q.2) (j:=i) (by simp only[tR];omega)) ?_
   obtain rfl:N=g/2^(k%32):=by rw[←F,tU qO];rfl
   refine xqg 3 [eS1 71 B ys.length d,yJ 73 (IntKind.i64.wrap ((i:Int)+1))] ?_
   rw[yW ((i:Int)+1) (((i+1:Nat):Int)) qO]
   refine xqj 74 (atA B (i+1)) (fun w Q=>wE (t:=55) (e:=143) (x:=.tmp 71) (ix:=.tmp 73) (len:=ys.length) (cap:=d) (i:=i+1) (((Q.1).self).ne (j:=i+1) qO) qO) ?_
   obtain⟨h,C⟩:=yE (ys[i+1]?.getD 0)
   refine xqj 75 (.int .u32 (h:Int)) (fun w Q=>by rw[←C];exact wP (t:=143) (x:=.tmp 74) ((Q.1).self) (j:=i+1) qO) ?_
   have J:h<W32:=by rw[←C];exact L.getD zX _
   have b0:h<4294967296:=by have:=J;rw[zV] at this;exact this
   refine xqg 1 [yU 76 (IntKind.u64.wrap ((h:Int)))] ?_
   rw[show IntKind.u64.wrap ((h:Int))=(h:Int) by rw[IntKind.wrap_u64];omega]
   refine xqg 2 [yU 78 (IntKind.u64.wrap (32-((k%32:Nat):Int)))] ?_
   rw[show IntKind.u64.wrap ((32-((k%32:Nat):Int)))=((32-(k%32):Nat):Int) by rw[IntKind.wrap_u64];have:=zO;omega]
   refine xqj 79 (yX ((h*2^(32-(k%32))%W64:Nat):Int)) (fun w Q=>ZiA (t:=141) (x:=.tmp 76) (y:=.tmp 78) (k:=135) (ky:=.u64) (a:=h) (n:=(32-(k%32))) qO) ?_
   refine xqg 1 [(80,.v (.int .u32 (IntKind.u32.wrap (((h*2^(32-(k%32))%W64:Nat):Int)))))] ?_
   rw[show IntKind.u32.wrap (((h*2^(32-(k%32))%W64:Nat):Int))=((h*2^(32-k%32)%W32:Nat):Int) from Zoo _]
   have V:=K.step (x:=g) (y:=h) qO qO q C m
   refine xqj 81 (.int .u32 ((g/2^(k%32)+h%2^(k%32)*2^(32-k%32):Nat):Int)) (fun w Q=>Zro (t:=143) (x:=.tmp 70) (y:=.tmp 80) (k:=143) (a:=((g/2^(k%32)))) (b:=(h*2^(32-k%32)%W32)) (vS (uY _ _) m) (uM _ zX) (ZiC qO m)) ?_
   refine xqj 82 (.pointer (some ⟨f,i,none⟩)) (fun w Q=>lS (t:=55) (e:=143) (x:=.tmp 67) (ix:=.tmp 68) (len:=(ys.length)) (cap:=(ys.length)) (i:=i) qO) ?_
   refine xz ?_
   refine jE (t:=143) (x:=.tmp 82) (y:=.tmp 81) f (i) (g/2^(k%32)+h%2^(k%32)*2^(32-k%32)) (fun w=>(Box (fun j=>f≤j) w (fun w=>zE .u32 w B (ys))∧Own .u32 143 w f (((r).set (i) (g/2^(k%32))).set (i) (g/2^(k%32)+h%2^(k%32)*2^(32-k%32))))) (fun w Q=>Q.2) (by simp only[tR];omega) (Or.inl E) (fun w w' Q hF hO=>⟨((Q.1).fr (hF.mono (fun _ _ e=>by rw[e];exact uF _))),hO⟩) ?_
   refine xe (xS (zA (zB (xq 2 [yJ 52 (IntKind.i64.wrap ((i:Int)+1))] [] ?_))))
   rw[yW ((i:Int)+1) (((i+1:Nat):Int)) qO]
   refine xq 1 [yJ 9 ((i+1:Nat):Int)] [] ?_
   refine xe ?_
   refine yP [(2,.p 2 0),(4,.p 4 0),eS1 6 B ys.length d,yU 7 ((k%32:Nat):Int),eS1 8 (yL f) (ys.length) (ys.length),yJ 9 (((i+1):Nat):Int)] [(4,57,[.v (.bool false),.v (.slice none 0 0)]),(2,57,[.v (.bool s0),.v (.slice A xs.length c)])] (fun w=>(Box (fun j=>f≤j) w (fun w=>zE .u32 w B (ys))∧Own .u32 143 w f ((((r).set (i) (g/2^(k%32))).set (i) (g/2^(k%32)+h%2^(k%32)*2^(32-k%32)))))) (fun w Q=>⟨Q.1,Q.2⟩) ?_
   exact xI ((ys.length-(i+1))) qO ⟨(i+1),(((r).set (i) (g/2^(k%32))).set (i) (g/2^(k%32)+h%2^(k%32)*2^(32-k%32))),rfl,rfl,(by rw[List.set_set];exact V),qO,rfl⟩
  have I:=uB z
  have V:=K.step (x:=g) (y:=0) qO qO q (by rw[vN qO];rfl) m
  rw[nE,sM,tG] at V
  refine zJ (xS (zA (zB (xq 2 [yJ 52 (IntKind.i64.wrap ((i:Int)+1))] [] ?_))))
  rw[yW ((i:Int)+1) (((i+1:Nat):Int)) qO]
  refine xq 1 [yJ 9 ((i+1:Nat):Int)] [] ?_
  refine xe ?_
  refine yP [(2,.p 2 0),(4,.p 4 0),eS1 6 B ys.length d,yU 7 ((k%32:Nat):Int),eS1 8 (yL f) (ys.length) (ys.length),yJ 9 (((i+1):Nat):Int)] [(4,57,[.v (.bool false),.v (.slice none 0 0)]),(2,57,[.v (.bool s0),.v (.slice A xs.length c)])] (fun w=>(Box (fun j=>f≤j) w (fun w=>zE .u32 w B (ys))∧Own .u32 143 w f (((r).set (i) (g/2^(k%32)))))) (fun w Q=>⟨Q.1,Q.2⟩) ?_
  exact xI ((ys.length-(i+1))) qO ⟨(i+1),((r).set (i) (g/2^(k%32))),rfl,rfl,V,qO,rfl⟩
 have H:=uB u
 have M:r.length=ys.length:=K.1
 obtain rfl:i=ys.length:=qO
 have HD:=K.done
 rw[←D,Zg8 xs (k/32) (k%32) W qO,show 32*(k/32)+k%32=k by omega] at HD
 refine xN (zK (zK (xV (zA (zC ?_)))))
 refine yO 6 zP ?_
 refine xqg 3 [yB 84 s0,eS1 85 (yL f) (ys.length) (ys.length)] ?_
 refine xqd 94 [.slice (yL f) (ys.length) (ys.length)] 86 xH _ (fun w R Q=>yM Zjb (Zop Q.2 K.2.1 M HD qO)) fun⟨c0,d0,e0⟩=>?_
 refine xqd 93 [.bool s0,.slice c0 d0 e0] 87 wO _ (fun w R Q=>yM kE (fW s0 _ (val W32 xs/2^k) _ Q.2)) fun⟨O,S,T,U⟩=>?_
 refine xqf 1 [] [bI2 4 57 O S T U,bI2 4 57 false none 0 0,bI2 2 57 s0 A xs.length c] ?_
 refine xz (yZ (zG ?_))
 refine yR (.agg #[.bool O,.slice S T U]) fun w' R Q=>?_
 exact⟨_,rfl,Q.2,R⟩
theorem ZpM (a:Value)(z:Int)(k:Nat)(w:World)(ha:zN w a z)(f:ZbM z)(m:k≤1099511627776):yA 115 #[a,.int .i64 (-((k:Nat):Int))] w (lW w (sg (decide (z<0)) (z.natAbs/2^k))):=by
 rcases uJ k with rfl|b
 ·have h:=ZbI a z 0 w ha (Zsu f) qO
  rw[Int.pow_zero,Int.mul_one] at h
  rw[tC,rR,ZfU]
  exact h
 obtain⟨s0,A,l,c,rfl,p,d,q⟩:=ha.open
 obtain⟨D,r,E,s,u,v,g,B,i⟩:=p
 injection s with e1 e2 e3
 subst e1 e2 e3
 have e:=kJ g B
 rw[i] at e
 have h:=Zoq s0 A r c k w v (by unfold ZbM at f;omega) u g b m
 rw[i] at h
 have C:sg s0 (z.natAbs/2^k)=sg (decide (z<0)) (z.natAbs/2^k):=by
  by_cases j:z=0
  ·subst j
   rw[show (0:Int).natAbs=0 from rfl,Nat.zero_div,ZgM,ZgM]
  congr 1
  generalize z.natAbs=n at *
  subst d
  unfold sg at *
  cases s0
  ·simp
  simp;simp at j;omega
 rwa [C] at h
theorem Zjp (b:Bool)(A:qA)(xs:qN)(c:Nat)(z e:Int)(w:World)(L:zN w (.agg #[.bool b,.slice A xs.length c]) z)(M:zE .u32 w A xs)(C:Dig W32 xs)(D:val W32 xs=z.natAbs)(N:z≠0)(O:ZbM z)(S:tzn z.natAbs≤1099511627776)(T : -1152921504606846976≤e)(U:e≤1152921504606846976) :
 yA 119 #[.agg #[.bool b,.slice A xs.length c],.int .i64 e] w (Zmm w (sg (decide (z<0)) (oddM z.natAbs)) (e+((tzn z.natAbs:Nat):Int))):=by
 refine zT (Φ:=fun w=>(zN w (.agg #[.bool b,.slice A xs.length c]) (z)∧zE .u32 w A xs)) func119 rfl qK (fun w' H=>⟨L.ext H,M.ext H⟩) ?_
 refine yY (xq 2 [(2,.p 2 0),(4,.p 4 0)] [yF 4 84 false none 0 0 0,bI2 2 57 b A xs.length c] ?_)
 refine yZ (zC (yY (xq 1 [eI2 6 b A xs.length c] [] ?_)))
 refine xqc 71 [vI2 b A xs.length c] 7 (fun _:Unit=>yI (Int.sign z)) _ (fun w R Q=>yN (bG _ z _ Q.1)) fun V=>?_
 refine xq 1 [yB 8 (((Int.sign z):Int) == 0)] [] ?_
 rw[(show (((Int.sign z):Int) == 0)=false by have:=mt sS.1 N;simpa using this)]
 refine yZ (xb (zJ (zA (yY (xq 1 [yJ 5 0] [] ?_)))))
 refine yZ (zC (zS ?_))
 refine yC [yJ 1 e,(2,.p 2 0),(4,.p 4 0),yJ 5 ((0:Nat):Int)] [yF 4 84 false none 0 0 0,(2,57,[.v (.bool b),.v (.slice A xs.length c)])] (fun w=>(zN w (.agg #[.bool b,.slice A xs.length c]) (z)∧zE .u32 w A (xs))) (fun w Q=>⟨Q.1.1,Q.1.2⟩) ?_
 refine xR (fun I J K=>∃ (k:Nat),J=ofL [yJ 1 e,(2,.p 2 0),(4,.p 4 0),yJ 5 (k:Int)] [yF 4 84 false none 0 0 0,(2,57,[.v (.bool b),.v (.slice A xs.length c)])]∧K=(fun w=>(zN w (.agg #[.bool b,.slice A xs.length c]) (z)∧zE .u32 w A (xs)))∧(k≤tzn z.natAbs)∧I=(tzn z.natAbs-k)) ((tzn z.natAbs-0)) ⟨0,rfl,rfl,tA _,rfl⟩ ?_
 rintro I J K ⟨k,rfl,rfl,E,rfl⟩
 refine zC (zC ?_)
 have B:k/32<xs.length:=Zon C qO (by rw[D];exact E)
 refine zB (xq 4 [eS1 11 A xs.length c,(13,.v (yI (IntKind.i64.wrap (((k:Int)).tdiv 32))))] [] ?_)
 rw[show IntKind.i64.wrap ((((k:Int)).tdiv 32))=((k/32:Nat):Int) from tdq (k) 32 qO]
 refine xqk 14 (atA A (k/32)) (fun w R Q=>wE (t:=55) (e:=143) (x:=.tmp 11) (ix:=.tmp 13) (len:=xs.length) (cap:=c) (i:=k/32) ((Q.2).ne (j:=k/32) qO) qO) ?_
 obtain⟨d,f⟩:=yE (xs[k/32]?.getD 0)
 refine xqk 15 (.int .u32 (d:Int)) (fun w R Q=>by rw[←f];exact wP (t:=143) (x:=.tmp 14) (Q.2) (j:=k/32) qO) ?_
 have h:d<W32:=by rw[←f];exact C.getD zX _
 refine xq 2 [yJ 17 (((k:Int)).tmod 32)] [] ?_
 rw[show ((k:Int)).tmod 32=((k%32:Nat):Int) from tdr (k) 32]
 refine xqk 18 (.int .u32 ((d/2^(k%32):Nat):Int)) (fun w R Q=>Zjo (t:=143) (x:=.tmp 15) (y:=.tmp 17) (k:=3) (ky:=.i64) (a:=d) (n:=(k%32)) qO) ?_
 refine xqk 19 (.int .u32 (((d/2^(k%32))%2:Nat):Int)) (fun w R Q=>ZpL (t:=143) (x:=.tmp 18) (y:=(Operand.const (Value.int IntKind.u32 1))) (k:=143) (a:=(d/2^(k%32))) (ha:=vS (uY _ _) h)) ?_
 refine xq 1 [(20,.v (.bool (((((d/2^(k%32))%2:Nat):Int):Int) == 0)))] [] ?_
 refine xe (zA ?_)
 refine yQ ((((((d/2^(k%32))%2:Nat):Int):Int) == 0)) (fun g=>?_) fun g=>?_
 ·have l:=tV.1 g
  have m:=ZhA C B f
  rw[D] at m
  have F:k+1≤tzn z.natAbs:=Zrm qO E qO
  refine zJ (zA (zS (zB (xq 2 [yJ 22 (IntKind.i64.wrap ((k:Int)+1))] [] ?_))))
  rw[yW ((k:Int)+1) (((k+1:Nat):Int)) qO]
  refine xq 1 [yJ 5 ((k+1:Nat):Int)] [] ?_
  refine xe (xS ?_)
  refine yP [yJ 1 e,(2,.p 2 0),(4,.p 4 0),yJ 5 (((k+1):Nat):Int)] [yF 4 84 false none 0 0 0,(2,57,[.v (.bool b),.v (.slice A xs.length c)])] (fun w=>(zN w (.agg #[.bool b,.slice A xs.length c]) (z)∧zE .u32 w A (xs))) (fun w Q=>⟨Q.1,Q.2⟩) ?_
  exact xI ((tzn z.natAbs-(k+1))) qO ⟨(k+1),rfl,rfl,F,rfl⟩
 have l:=lG g
 have m:=ZhA C B f
 rw[D] at m
 have G:k=tzn z.natAbs:=Zrn qO E qO
 subst G
 refine xN (zK (zK (xV (zA (yY (xq 3 [eI2 23 b A xs.length c,(25,.v (yI (IntKind.i64.wrap (0-((((tzn z.natAbs):Nat):Int))))))] [] ?_))))))
 rw[show IntKind.i64.wrap (0-((tzn z.natAbs:Nat):Int)) = -((tzn z.natAbs:Nat):Int) by rw[IntKind.wrap_i64];omega]
 refine xqc 115 [vI2 b A xs.length c, yI (-((tzn z.natAbs:Nat):Int))] 26 wO _ (fun w R Q=>yM kE (ZpM _ z (tzn z.natAbs) _ Q.1 O qO)) fun⟨q,r,s,u⟩=>?_
 refine xq 3 [(29,.v (yI (IntKind.i64.wrap (e+(((tzn z.natAbs):Nat):Int)))))] [] ?_
 rw[yW (e+((tzn z.natAbs:Nat):Int)) (e+((tzn z.natAbs:Nat):Int)) qO]
 refine xq 2 [] [yF 4 84 q r s u (e+((tzn z.natAbs:Nat):Int))] ?_
 refine yZ (zG ?_)
 refine yR (yV q r s u (e+((tzn z.natAbs:Nat):Int))) fun w' R Q=>?_
 exact⟨(q,r,s,u),rfl,Q.2,R⟩
theorem ZeG (b:Bool)(A:qA)(l c:Nat)(z e:Int)(w:World)(m:zN w (.agg #[.bool b,.slice A l c]) z)(p:z≠0)(n:ZbM z)(d : -1152921504606846976≤e)(f:e≤1152921504606846976) :
 yA 119 #[.agg #[.bool b,.slice A l c],.int .i64 e] w (Zmm w (sg (decide (z<0)) (oddM z.natAbs)) (e+((tzn z.natAbs:Nat):Int))):=by
 obtain⟨u,g,v,q,B,r,h,s,a⟩:=m.opn.1
 injection q with e1 e2 e3
 subst e1 e2 e3
 have i:=kJ h s
 rw[a] at i
 have C:g.length≤1048576:=by unfold ZbM at n;omega
 have j:=Zon h (by rw[a];omega) (k:=tzn (val W32 g)) (uF _)
 rw[a] at j
 exact Zjp b A g c z e w m r h a p n qO d f
theorem ZdS (L:Bool)(M:qA)(l1 c1:Nat)(l:Bool)(m:qA)(l2 c2:Nat)(a b:Nat)(w:World)(hA:zN w (.agg #[.bool L,.slice M l1 c1]) ((a:Nat):Int))(hB:zN w (.agg #[.bool l,.slice m l2 c2]) ((b:Nat):Int))(ha:ml a≤90000)(hb:ml b≤90000)(B:0<b) :
 yA 117 #[.agg #[.bool L,.slice M l1 c1],.agg #[.bool l,.slice m l2 c2]] w (lW w ((kR a b:Nat):Int)):=by
 have W:ml (2*(a%b))≤90001:=uD (ZrI _ _) (by have N:ml 2≤1:=wT.2 (by rw[zV];decide);have A:=jI (qU (uM a B));omega)
 have C:ml a≤100000:=qO
 have X:ml b≤100000:=qO
 refine zT (Φ:=fun w=>(zN w (.agg #[.bool L,.slice M l1 c1]) ((a:Int))∧zN w (.agg #[.bool l,.slice m l2 c2]) ((b:Int)))) func117 rfl qK (fun w' hf=>⟨hA.ext hf,hB.ext hf⟩) ?_
 refine yY (xq 3 [(2,.p 2 0),(3,.p 3 0),(4,.p 4 0)] [bI2 4 57 false none 0 0,bI2 3 57 l m l2 c2,bI2 2 57 L M l1 c1] ?_)
 refine yZ (yY (xq 2 [eI2 9 L M l1 c1,eI2 10 l m l2 c2] [] ?_))
 refine xqc 116 [vI2 L M l1 c1,vI2 l m l2 c2] 11 Zao _ (fun w R Q=>yM dP (Ze5 Q.1 Q.2 C X B)) fun xx=>?_
 obtain⟨⟨g,d,c,f⟩,⟨n,q,s,u⟩⟩:=xx
 refine xq 7 [(5,.p 5 0),(6,.p 6 0)] [bI2 6 57 n q s u,bI2 5 57 g d c f] ?_
 refine yZ (zC ?_)
 refine SXc.weak [(3,.p 3 0),(4,.p 4 0),(5,.p 5 0),(6,.p 6 0)] [(6,57,[.v (.bool n),.v (.slice q s u)]),(5,57,[.v (.bool g),.v (.slice d c f)]),(4,57,[.v (.bool false),.v (.slice none 0 0)]),(3,57,[.v (.bool l),.v (.slice m l2 c2)])] (zY.of qK) qK (fun _ h=>h) ?_
 refine yO 5 zP ?_
 refine xqg 1 [eI2 14 n q s u] ?_
 refine xqd 115 [vI2 n q s u, yI 1] 15 wO _ (fun w R Q=>(ZbI _ ((a%b:Nat):Int) 1 _ Q.2.2 (nfit (mlc (uD (jI (qU (uM a B))) hb)) qD) qO).mono (fun _ _ h=>kE (by rw[show ((a%b:Nat):Int)*2^1=((2*(a%b):Nat):Int) by omega] at h;exact h))) fun⟨Y,Z,a0,b0⟩=>?_
 refine xqg 1 [eI2 16 l m l2 c2] ?_
 refine xqd 166 [vI2 Y Z a0 b0,vI2 l m l2 c2] 17 (fun _:Unit=>yI (((2*(a%b):Nat):Int)-(b:Int)).sign) _ (fun w R Q=>yN (ZoW _ _ ((2*(a%b):Nat):Int) (b:Int) _ Q.2 Q.1.1.2 (nfit (mlc W) qD) (nfit (mlc hb) qD))) fun xx=>?_
 refine xqg 1 [(7,.v (yI (((2*(a%b):Nat):Int)-(b:Int)).sign))] ?_
 refine xz (yZ (zC (zC ?_)))
 by_cases l0:b<2*(a%b)
 ·refine zB (xq 2 [(19,.v (.bool (decide ((((2*(a%b):Nat):Int)-(b:Int)).sign>0))))] [] ?_)
  rw[show decide ((((2*(a%b):Nat):Int)-(b:Int)).sign>0)=true from vM (by rw[pO qO];decide)]
  refine xq 18 [yB 37 true] [] ?_
  refine yZ (xa ?_)
  refine SXc.weak [(4,.p 4 0),(5,.p 5 0)] [(5,57,[.v (.bool g),.v (.slice d c f)]),(4,57,[.v (.bool false),.v (.slice none 0 0)])] (zY.of qK) qK (fun _ h=>h) ?_
  refine yO 3 zP ?_
  refine xqg 1 [eI2 38 g d c f] ?_
  refine xqd 56 [yI 1] 39 wO _ (fun w R Q=>yM kE (Za5 1 _ qD qD)) fun⟨c0,d0,e0,f0⟩=>?_
  refine xqd 72 [vI2 g d c f,vI2 c0 d0 e0 f0] 40 wO _ (fun w R Q=>yM kE (Zjd (x:=a/b) (r:=1) Q.1.1.1.2.1 Q.2 (uD (jI (uY a b)) C) (uD (wT.2 (show (1:Nat)<W32^1 by rw[zV];decide)) qD))) fun⟨D,E,F,G⟩=>?_
  refine xz (xq 1 [] [bI2 5 57 D E F G] ?_)
  refine yZ (yY (xq 2 [] [bI2 4 57 D E F G] ?_))
  refine yZ (zG ?_)
  refine yR (.agg #[.bool D,.slice E F G]) fun w' R Q=>?_
  exact⟨_,rfl,by rw[Zlg qO];exact Q.2,R⟩
 by_cases m0:2*(a%b)=b
 ·by_cases n0:a/b=0
  ·refine SXc.know (p:=c=0) (fun w _ Q=>len_zero (Q.1.1.2.1) qO) fun O=>?_
   refine zB (xq 2 [(19,.v (.bool (decide ((((2*(a%b):Nat):Int)-(b:Int)).sign>0))))] [] ?_)
   rw[show decide ((((2*(a%b):Nat):Int)-(b:Int)).sign>0)=false from Zeg qO]
   refine xq 3 [yB 20 false,(22,.v (.bool (((((2*(a%b):Nat):Int)-(b:Int)).sign:Int) == 0)))] [] ?_
   rw[show ((((2*(a%b):Nat):Int)-(b:Int)).sign == 0)=true from tV.2 (sS.2 qO)]
   refine xq 5 [yB 23 true,yB 27 (decide ((c:Int)>0))] [] ?_
   rw[show decide ((c:Int)>0)=false from uV qO]
   refine xq 10 [yB 37 false] [] ?_
   refine yZ (xb (zJ (zA (yY (xq 2 [] [bI2 4 57 g d c f] ?_)))))
   refine yZ (zG ?_)
   refine yR (.agg #[.bool g,.slice d c f]) fun w' R Q=>?_
   exact⟨_,rfl,by rw[ZgL qO];exact Q.1.1.2.1,R⟩
  by_cases k0:a/b%2=1
  ·refine SXc.know (p:=0<c) (fun w _ Q=>(Q.1.1.2.1).lenp qO) fun O=>?_
   refine zB (xq 2 [(19,.v (.bool (decide ((((2*(a%b):Nat):Int)-(b:Int)).sign>0))))] [] ?_)
   rw[show decide ((((2*(a%b):Nat):Int)-(b:Int)).sign>0)=false from Zeg qO]
   refine xq 3 [yB 20 false,(22,.v (.bool (((((2*(a%b):Nat):Int)-(b:Int)).sign:Int) == 0)))] [] ?_
   rw[show ((((2*(a%b):Nat):Int)-(b:Int)).sign == 0)=true from tV.2 (sS.2 qO)]
   refine xq 5 [yB 23 true,yB 27 (decide ((c:Int)>0))] [] ?_
   rw[show decide ((c:Int)>0)=true from vM qO]
   refine xq 4 [yB 29 true,eS1 31 d c f] [] ?_
   refine xqk 32 (atA d 0) (fun w R Q=>(by obtain⟨S,T,N,A,U,V⟩:=Zec (Q.1.1.2.1) (z:=((a/b:Nat):Int)) qO;exact wE (t:=55) (e:=143) (x:=.tmp 31) (ix:=.const (yI 0)) (len:=c) (cap:=f) (i:=0) V (by have h5:c=S.length:=U;omega))) ?_
   refine xqk 33 (.int .u32 (((a/b)%W32:Nat):Int)) (fun w R Q=>(by obtain⟨S,T,N,A,U,V⟩:=Zec (Q.1.1.2.1) (z:=((a/b:Nat):Int)) qO;rw[tO] at A;rw[←A];exact wP (t:=143) (x:=.tmp 32) T (j:=0) N)) ?_
   refine xqk 34 (.int .u32 (((a/b)%W32%2:Nat):Int)) (fun w R Q=>ZdR (t:=143) (k:=143) (x:=.tmp 33) (y:=.const (.int .u32 1)) qK qK qK (by have:=uM (a/b) (show 0<W32 by rw[zV];decide);rw[zV] at this ⊢;exact this)) ?_
   refine xq 1 [(35,.v (.bool (((((a/b)%W32%2:Nat):Int):Int) == 1)))] [] ?_
   rw[(show ((((a/b)%W32%2:Nat):Int) == 1)=true from tV.2 (by rw[zV];omega))]
   refine xq 2 [yB 37 true] [] ?_
   refine yZ (xa ?_)
   refine SXc.weak [(4,.p 4 0),(5,.p 5 0)] [(5,57,[.v (.bool g),.v (.slice d c f)]),(4,57,[.v (.bool false),.v (.slice none 0 0)])] (zY.of qK) qK (fun _ h=>h) ?_
   refine yO 3 zP ?_
   refine xqg 1 [eI2 38 g d c f] ?_
   refine xqd 56 [yI 1] 39 wO _ (fun w R Q=>yM kE (Za5 1 _ qD qD)) fun⟨g0,h0,i0,j0⟩=>?_
   refine xqd 72 [vI2 g d c f,vI2 g0 h0 i0 j0] 40 wO _ (fun w R Q=>yM kE (Zjd (x:=a/b) (r:=1) Q.1.1.1.2.1 Q.2 (uD (jI (uY a b)) C) (uD (wT.2 (show (1:Nat)<W32^1 by rw[zV];decide)) qD))) fun⟨H,I,J,K⟩=>?_
   refine xz (xq 1 [] [bI2 5 57 H I J K] ?_)
   refine yZ (yY (xq 2 [] [bI2 4 57 H I J K] ?_))
   refine yZ (zG ?_)
   refine yR (.agg #[.bool H,.slice I J K]) fun w' R Q=>?_
   exact⟨_,rfl,by rw[Zlg qO];exact Q.2,R⟩
  refine SXc.know (p:=0<c) (fun w _ Q=>(Q.1.1.2.1).lenp qO) fun O=>?_
  refine zB (xq 2 [(19,.v (.bool (decide ((((2*(a%b):Nat):Int)-(b:Int)).sign>0))))] [] ?_)
  rw[show decide ((((2*(a%b):Nat):Int)-(b:Int)).sign>0)=false from Zeg qO]
  refine xq 3 [yB 20 false,(22,.v (.bool (((((2*(a%b):Nat):Int)-(b:Int)).sign:Int) == 0)))] [] ?_
  rw[show ((((2*(a%b):Nat):Int)-(b:Int)).sign == 0)=true from tV.2 (sS.2 qO)]
  refine xq 5 [yB 23 true,yB 27 (decide ((c:Int)>0))] [] ?_
  rw[show decide ((c:Int)>0)=true from vM qO]
  refine xq 4 [yB 29 true,eS1 31 d c f] [] ?_
  refine xqk 32 (atA d 0) (fun w R Q=>(by obtain⟨S,T,N,A,U,V⟩:=Zec (Q.1.1.2.1) (z:=((a/b:Nat):Int)) qO;exact wE (t:=55) (e:=143) (x:=.tmp 31) (ix:=.const (yI 0)) (len:=c) (cap:=f) (i:=0) V (by have h5:c=S.length:=U;omega))) ?_
  refine xqk 33 (.int .u32 (((a/b)%W32:Nat):Int)) (fun w R Q=>(by obtain⟨S,T,N,A,U,V⟩:=Zec (Q.1.1.2.1) (z:=((a/b:Nat):Int)) qO;rw[tO] at A;rw[←A];exact wP (t:=143) (x:=.tmp 32) T (j:=0) N)) ?_
  refine xqk 34 (.int .u32 (((a/b)%W32%2:Nat):Int)) (fun w R Q=>ZdR (t:=143) (k:=143) (x:=.tmp 33) (y:=.const (.int .u32 1)) qK qK qK (by have:=uM (a/b) (show 0<W32 by rw[zV];decide);rw[zV] at this ⊢;exact this)) ?_
  refine xq 1 [(35,.v (.bool (((((a/b)%W32%2:Nat):Int):Int) == 1)))] [] ?_
  rw[(show ((((a/b)%W32%2:Nat):Int) == 1)=false from sW.2 (by rw[zV];omega))]
  refine xq 2 [yB 37 false] [] ?_
  refine yZ (xb (zJ (zA (yY (xq 2 [] [bI2 4 57 g d c f] ?_)))))
  refine yZ (zG ?_)
  refine yR (.agg #[.bool g,.slice d c f]) fun w' R Q=>?_
  exact⟨_,rfl,by rw[ZgL qO];exact Q.1.1.2.1,R⟩
 refine zB (xq 2 [(19,.v (.bool (decide ((((2*(a%b):Nat):Int)-(b:Int)).sign>0))))] [] ?_)
 rw[show decide ((((2*(a%b):Nat):Int)-(b:Int)).sign>0)=false from Zeg qO]
 refine xq 3 [yB 20 false,(22,.v (.bool (((((2*(a%b):Nat):Int)-(b:Int)).sign:Int) == 0)))] [] ?_
 rw[show ((((2*(a%b):Nat):Int)-(b:Int)).sign == 0)=false from sW.2 (fun e=>by have:=sS.1 e;omega)]
 refine xq 15 [yB 37 false] [] ?_
 refine yZ (xb (zJ (zA (yY (xq 2 [] [bI2 4 57 g d c f] ?_)))))
 refine yZ (zG ?_)
 refine yR (.agg #[.bool g,.slice d c f]) fun w' R Q=>?_
 exact⟨_,rfl,by rw[ZgL qO];exact Q.1.1.2.1,R⟩
theorem zN.absv {w:World}{s:Bool}{A:qA}{l c:Nat}{z:Int}(h:zN w (.agg #[.bool s,.slice A l c]) z):zN w (.agg #[.bool false,.slice A l c]) ((z.natAbs:Nat):Int) :=
 ⟨false,_,z.natAbs,rfl,h.opn.1,fun _=>rfl,rfl⟩
theorem zN.sgn {w:World}{A:qA}{l c n:Nat}(h:zN w (.agg #[.bool false,.slice A l c]) ((n:Nat):Int))(b:0<n)(t:Bool):zN w (.agg #[.bool t,.slice A l c]) (sg t n):=by
 have a:=h.opn.1
 rw[tO] at a
 exact⟨t,_,n,rfl,a,fun e=>qO,rfl⟩
theorem zN.signb {w:World}{s:Bool}{A:qA}{l c:Nat}{z:Int}(h:zN w (.agg #[.bool s,.slice A l c]) z):s=decide (z<0):=by
 obtain⟨_,a,b⟩:=h.opn
 cases s
 ·have:z=(z.natAbs:Int):=a
  exact (uV qO).symm
 have d:z = -(z.natAbs:Int):=a
 have f:z≠0:=fun e=>by have:=b e;cases this
 exact (vM qO).symm
abbrev CB (w:World) (g:Nat) (bits err:Int):Prop:=Blk 44 w g #[.int .i64 bits,.int .i64 err]
def RetC (w:World) (g:Nat) (bits:Int) (r:FR) (e:Ending) (w':World):Prop:=∃ y:ShI,e=.returned (shF r.e y)∧zN w' (wO y) (sg r.s r.m)∧Fr (fun i=>i=g) w w'∧CB w' g bits r.err
theorem Zsv (a b:Int):iE #[.int .i64 a,.int .i64 b]:=by
 intro i k z h;rcases i with _|_|i<;>simp at h
 ·exact h.1.symm
 exact h.1.symm
theorem ZsO {t:TypeId}{w w':World}{g:Nat}{cs:Array Value}{φ:World→Prop}(b:Fr (fun i=>i=g) w w')(c:Blk t w' g cs)(d:iE cs)(h:∀ S w'',(∀ i,S i→NRB w' i)→Fr S w' w''→φ w''):BoxN w w' φ:=fun S f w'' j=>h S w'' (fun i hi=>by
 by_cases e:i=g
 ·subst e;exact⟨_,_,c,d⟩
 obtain⟨k,a,l,m⟩:=(f i hi).2
 exact⟨k,a,l.fr b e,m⟩) j
theorem Zjq {w w':World}{g:Nat}{bits:Int}{r:FR}{e:Ending}(h:RetC w g bits r e w'):∃ y:ShI,e=.returned (shF r.e y)∧Fr (fun i=>i=g) w w'∧Blk 44 w' g #[.int .i64 bits,.int .i64 r.err]∧BoxN w w' (fun w=>zN w (wO y) (sg r.s r.m)):=by
 obtain⟨y,rfl,c,a,b⟩:=h
 exact⟨y,rfl,a,b,ZsO a b (Zsv _ _) (fun S d f j=>c.nrb f j)⟩
theorem Zjr {w w':World}{e:Ending}{z x:Int}(h:Zmm w z x e w'):wV (shF x) (fun y w=>zN w (wO y) z) w e w':=by
 obtain⟨y,rfl,a,Q⟩:=h
 exact⟨y,rfl,Q,boxn Q (fun S b c d=>a.nrb c d)⟩
theorem ZhB (g:Nat)(bits e:Int)(w:World)(h:CB w g bits 0):yA 167 #[.pointer (some ⟨g,0,none⟩),.int .i64 e] w (fun a w'=>∃ x:Unit,a=.returned ((fun _:Unit=>Value.tuple #[]) x)∧Fr (fun i=>i=g) w w'∧Blk 44 w' g ((fun _:Unit=>#[.int .i64 bits,.int .i64 e]) x)∧BoxN w w' (fun _=>True)):=by
 have b:=h.set_ 1 (.int .i64 e)
 have c:=h.cell 1
 have d:=h.frozen 1
 go_enter func167,ntmps167
 go_wp2
 exact⟨rfl,.tuple #[],by simp[results,Tryz.f167],⟨(),rfl,(show Fr (fun i=>i=g) w w from Fr.refl _ _).setCell (p:=⟨g,1,none⟩) (Or.inl rfl) _,b,BoxN.pure trivial⟩⟩
def limR (s:Bool) (m:Nat) (e:Int):FR:=if okE e then ⟨s,m,e,0⟩ else ⟨false,0,0,2⟩
theorem Zjs {s:Bool}{n:Nat}{e:Int}(h:0<n):wI s n e=limR s (oddM n) (e+tzn n):=by
 unfold wI limR
 rw[uO qO];rfl
theorem Zga {s:Bool}{n:Nat}(h:0<n):decide (sg s n<0)=s:=by
 unfold sg;cases s<;>simp<;>omega
theorem Zas (s:Bool)(n:Nat):(sg s n).natAbs=n:=by unfold sg;cases s<;>simp
theorem Zp9 {s:Bool}{n:Nat}(h:0<n):sg s n≠0:=by unfold sg;cases s<;>simp<;>omega
theorem Zlh {n k b j:Nat}(a:ml n≤b)(c:k<32*j):ml (n*2^k)≤b+j:=Zn5 a (Zn4 c)
theorem aV {n k:Nat}(h:ml n≤k):blen n≤32*k:=by have:=Zq0 n;omega
theorem Zli {a b k:Nat}(ha:ml a≤k)(c:1≤k):ml (kR a b)≤k+1:=by
 have d:ml 1≤1:=wT.2 (by rw[zV];decide)
 exact uD (jI (Zca a b).2) (ZrJ (uD (jI (uY a b)) ha) (uD d c))
theorem ZdT (g bits:Nat)(b:Bool)(A:qA)(l c:Nat)(s:Bool)(m:Nat)(e:Int)(w:World)(n:CB w g ((bits:Nat):Int) 0)(o:zN w (.agg #[.bool b,.slice A l c]) (sg s m)) :
 yA 118 #[.pointer (some ⟨g,0,none⟩), yV b A l c e] w (RetC w g ((bits:Nat):Int) (limR s m e)):=by
 refine dM (fun i=>i=g) (Φ:=fun w=>(CB w g (bits:Int) 0∧zN w (.agg #[.bool b,.slice A l c]) (sg s m))) func118 rfl qK (fun w' k=>⟨n.ext k,o.ext k⟩) ?_
 refine yY (xq 2 [(3,.p 3 0),(4,.p 4 0)] [yF 4 84 false none 0 0 0,yF 3 84 b A l c e] ?_)
 refine yZ (zC (yY (xq 4 [yB 8 (decide (e<(-1048576)))] [] ?_)))
 rcases bl2 ((decide (e<(-1048576)))) with a|a
 ·rw[a]
  have h:=uA a
  refine xq 4 [yB 12 true] [] ?_
  refine yZ (xa (yY (xq 1 [(13,.v (.pointer (yL g)))] [] ?_)))
  refine Za8 167 [.pointer (yL g), yI 2] (d:=14) (fun _:Unit=>.tuple #[]) (fun _:Unit=>#[yI (bits:Int), yI 2]) (fun _ _=>True) (fun _=>True) (fun w Q=>Q.1) (oI _) (Or.inr rfl) (fun w R Q=>ZhB g _ 2 _ Q.1) (fun _ _ _ _=>trivial) fun _=>?_
  refine xr 0 [(3,.p 3 0),(4,.p 4 0)] [yF 4 84 false none 0 0 0,yF 3 84 b A l c e] ?_
  refine yZ (yY (xq 2 [] [] ?_))
  refine yZ (zG (zH ?_))
  refine yR (yV false none 0 0 0) fun w' R Q=>?_
  rw[show limR s m e=⟨false,0,0,2⟩ from uO (by rintro⟨q,r⟩;omega)]
  exact⟨(false,none,0,0),rfl,zN.nil _,R,Q.1.2⟩
 rw[a]
 have h:=uB a
 refine xq 4 [yB 12 (decide (e>1048576))] [] ?_
 refine xe (zA ?_)
 refine yQ ((decide (e>1048576))) (fun f=>?_) fun f=>?_
 ·have j:=uA f
  refine yY (xq 1 [(13,.v (.pointer (yL g)))] [] ?_)
  refine Za8 167 [.pointer (yL g), yI 2] (d:=14) (fun _:Unit=>.tuple #[]) (fun _:Unit=>#[yI (bits:Int), yI 2]) (fun _ _=>True) (fun _=>True) (fun w Q=>Q.1) (oI _) (Or.inr rfl) (fun w R Q=>ZhB g _ 2 _ Q.1) (fun _ _ _ _=>trivial) fun _=>?_
  refine xr 0 [(3,.p 3 0),(4,.p 4 0)] [yF 4 84 false none 0 0 0,yF 3 84 b A l c e] ?_
  refine yZ (yY (xq 2 [] [] ?_))
  refine yZ (zG (zH ?_))
  refine yR (yV false none 0 0 0) fun w' R Q=>?_
  rw[show limR s m e=⟨false,0,0,2⟩ from uO (by rintro⟨q,r⟩;omega)]
  exact⟨(false,none,0,0),rfl,zN.nil _,R,Q.1.2⟩
 have j:=uB f
 refine zJ (zA (yY (xq 2 [] [yF 4 84 b A l c e] ?_)))
 refine yZ (zG ?_)
 refine yR (yV b A l c e) fun w' R Q=>?_
 rw[show limR s m e=⟨s,m,e,0⟩ from vC ⟨qO,qO⟩]
 exact⟨(b,A,l,c),rfl,Q.2,R,Q.1⟩
theorem ZhT (g bits:Nat)(b:Bool)(A:qA)(l c:Nat)(z:Int)(a:Bool)(B:qA)(m f d:Nat)(e:Int)(w:World)(hC:CB w g ((bits:Nat):Int) 0)(hN:zN w (.agg #[.bool b,.slice A l c]) z)(hD:zN w (.agg #[.bool a,.slice B m f]) ((d:Nat):Int))(hz:ml z.natAbs≤10000)(hd:ml d≤10000)(q:0<d)(G:0<bits)(hb:bits≤4096)(P0 : -1073741824≤e)(Q0:e≤1073741824) :
 yA 67 #[.pointer (some ⟨g,0,none⟩),.agg #[.bool b,.slice A l c],.agg #[.bool a,.slice B m f],.int .i64 e] w (RetC w g ((bits:Nat):Int) (wL (decide (z<0)) z.natAbs d e bits)):=by
 refine dM (fun i=>i=g) (Φ:=fun w=>((CB w g (bits:Int) 0∧zN w (.agg #[.bool b,.slice A l c]) (z))∧zN w (.agg #[.bool a,.slice B m f]) ((d:Int)))) func67 rfl qK (fun w' hf=>⟨⟨hC.ext hf,hN.ext hf⟩,hD.ext hf⟩) ?_
 refine zC ?_
 by_cases h0:z=0
 ·refine zB (xq 3 [(5,.p 5 0),(6,.p 6 0),(8,.p 8 0)] [yF 8 84 false none 0 0 0,bI2 6 57 a B m f,bI2 5 57 b A l c] ?_)
  refine yZ (zC (yY (xq 1 [eI2 16 b A l c] [] ?_)))
  refine xqc 71 [vI2 b A l c] 17 (fun _:Unit=>yI 0) _ (fun w R Q=>(bG _ z _ Q.1.2).mono (fun _ _ h=>zL h (by rw[h0];rfl))) fun xx=>?_
  refine xq 1 [yB 18 true] [] ?_
  refine yZ (xa (yY (xq 2 [] [] ?_)))
  refine yZ (zG (zH ?_))
  refine yR (yV false none 0 0 0) fun w' R Q=>?_
  rw[h0,show (0:Int).natAbs=0 from rfl,fC]
  exact⟨(false,none,0,0),rfl,zN.nil _,R,Q.1.1.1⟩
 refine zB (xq 3 [(5,.p 5 0),(6,.p 6 0),(8,.p 8 0)] [yF 8 84 false none 0 0 0,bI2 6 57 a B m f,bI2 5 57 b A l c] ?_)
 refine yZ (zC (yY (xq 1 [eI2 16 b A l c] [] ?_)))
 refine xqc 71 [vI2 b A l c] 17 (fun _:Unit=>yI (Int.sign z)) _ (fun w R Q=>yN (bG _ z _ Q.1.2)) fun xx=>?_
 refine xq 1 [yB 18 (((Int.sign z):Int) == 0)] [] ?_
 rw[(show (((Int.sign z):Int) == 0)=false by have:=mt sS.1 h0;simpa using this)]
 refine yZ (xb (zJ (zA (yY (xq 3 [(9,.p 9 0)] [bI2 9 57 b A l c] ?_)))))
 refine yZ (yY (xq 2 [] [bI2 9 57 false A l c] ?_))
 refine yZ (zC ?_)
 have R0:=aV hz
 have S0:=aV hd
 refine yO 11 zP ?_
 refine xqg 1 [eI2 22 false A l c] ?_
 refine xqd 114 [vI2 false A l c] 23 (fun _:Unit=>yI ((blen z.natAbs:Nat):Int)) _ (fun w R Q=>yN (gB _ _ _ (Q.1.1.2).absv (nfit (mlc hz) qD))) fun xx=>?_
 refine xqg 1 [eI2 24 a B m f] ?_
 refine xqd 114 [vI2 a B m f] 25 (fun _:Unit=>yI ((blen d:Nat):Int)) _ (fun w R Q=>yN (gB _ _ _ Q.1.1.2 (nfit (mlc hd) qD))) fun xx=>?_
 refine xqg 1 [yJ 26 (IntKind.i64.wrap (((blen z.natAbs:Nat):Int)-((blen d:Nat):Int)))] ?_
 rw[yW (((blen z.natAbs:Nat):Int)-((blen d:Nat):Int)) (((blen z.natAbs:Nat):Int)-((blen d:Nat):Int)) qO]
 refine xqg 3 [(29,.v (.pointer (yL g)))] ?_
 refine xqj 30 (yI (bits:Int)) (fun w Q=>wU (t:=3) (x:=.tmp 29) (g:=g) (off:=0) (Blk.cell (Q.1.1.1) 0)) ?_
 refine xqg 1 [(31,.v (yI (IntKind.i64.wrap ((((blen z.natAbs:Nat):Int)-((blen d:Nat):Int))-(bits:Int)))))] ?_
 rw[show IntKind.i64.wrap ((((blen z.natAbs:Nat):Int)-((blen d:Nat):Int))-(bits:Int))=rk0 z.natAbs d bits by unfold rk0;rw[IntKind.wrap_i64];omega]
 refine xqg 1 [yJ 10 (rk0 z.natAbs d bits)] ?_
 refine xz (yZ (zS ?_))
 refine yC [(0,.v (.pointer (yL g))),yJ 3 e,(5,.p 5 0),(6,.p 6 0),(8,.p 8 0),(9,.p 9 0),yJ 10 ((rk0 z.natAbs d bits))] [(9,57,[.v (.bool false),.v (.slice A l c)]),yF 8 84 false none 0 0 0,(6,57,[.v (.bool a),.v (.slice B m f)]),(5,57,[.v (.bool b),.v (.slice A l c)])] (fun w=>((CB w g (bits:Int) 0∧zN w (.agg #[.bool b,.slice A l c]) (z))∧zN w (.agg #[.bool a,.slice B m f]) ((d:Int)))) (fun w Q=>⟨⟨Q.1.1.1.1.1,Q.1.1.1.1.2⟩,Q.1.1.1.2⟩) ?_
 refine xR (fun nn ss ff=>∃ (k:Int),ss=ofL [(0,.v (.pointer (yL g))),yJ 3 e,(5,.p 5 0),(6,.p 6 0),(8,.p 8 0),(9,.p 9 0),yJ 10 k] [(9,57,[.v (.bool false),.v (.slice A l c)]),yF 8 84 false none 0 0 0,(6,57,[.v (.bool a),.v (.slice B m f)]),(5,57,[.v (.bool b),.v (.slice A l c)])]∧ff=(fun w=>((CB w g (bits:Int) 0∧zN w (.agg #[.bool b,.slice A l c]) (z))∧zN w (.agg #[.bool a,.slice B m f]) ((d:Int))))∧(k=rk0 z.natAbs d bits∨k=rndK z.natAbs d bits)∧nn=((rndK z.natAbs d bits-k).toNat)) (((rndK z.natAbs d bits-((rk0 z.natAbs d bits))).toNat)) ⟨((rk0 z.natAbs d bits)),rfl,rfl,(Or.inl rfl),rfl⟩ ?_
 rintro nn ss ff ⟨k,rfl,rfl,hk,rfl⟩
 refine zS (zC ?_)
 have T0:=Zlf hk
 refine yO 6 zP ?_
 refine xqf 6 [(11,.p 11 0),(12,.p 12 0)] [bI2 12 57 a B m f,bI2 11 57 false A l c,bI2 12 57 false none 0 0,bI2 11 57 false none 0 0,bI2 9 57 false A l c,yF 8 84 false none 0 0 0,bI2 6 57 a B m f,bI2 5 57 b A l c] ?_
 refine xz (yZ (zC (yY (xq 2 [yB 35 (decide (k≥0))] [bI2 12 57 a B m f,bI2 11 57 false A l c] ?_))))
 refine xe (zA ?_)
 refine yQ ((decide (k≥0))) (fun X=>?_) fun X=>?_
 ·have Y:=uA X
  obtain⟨j,rfl⟩:=vG Y
  have D:fa z.natAbs (j:Int)=z.natAbs:=Zss qO
  have E:fb d (j:Int)=d*2^j:=by unfold fb;rw[pF]
  have hj:j≤700000:=qO
  have Z:ml z.natAbs≤90000:=qO
  have N0:ml (d*2^j)≤90000:=uD (Zlh (j:=30000) hd qO) qO
  have a0:0<d*2^j:=sL q (p2 j)
  have b0:fq z.natAbs d ((j:Int))=z.natAbs/(d*2^j):=by unfold fq;rw[D,E]
  refine zB (xq 2 [eI2 36 a B m f,yJ 37 (j:Int)] [] ?_)
  refine xqc 115 [vI2 a B m f, yI (j:Int)] 38 wO _ (fun w R Q=>(ZbI _ (d:Int) j _ Q.2 (nfit (mlc hd) qD) qO).mono (fun _ _ h=>kE (by rw[show (d:Int)*2^j=((d*2^j:Nat):Int) by rw[tL,tE];rfl] at h;exact h))) fun⟨H,I,J,K⟩=>?_
  refine xq 1 [] [bI2 12 57 H I J K] ?_
  refine yZ (yY (xq 2 [eI2 44 false A l c,eI2 45 H I J K] [] ?_))
  refine xqc 116 [vI2 false A l c,vI2 H I J K] 46 Zao _ (fun w R Q=>yM dP (Ze5 (x:=z.natAbs) (r:=d*2^j) (Q.1.1.2).absv Q.2 qO qO a0)) fun xx=>?_
  obtain⟨⟨i0,j0,k0,l0⟩,⟨U0,V0,W0,X0⟩⟩:=xx
  refine xq 7 [(13,.p 13 0)] [bI2 13 57 i0 j0 k0 l0] ?_
  refine yZ (zC (zC ?_))
  refine yO 7 zP ?_
  refine xqg 1 [eI2 49 i0 j0 k0 l0] ?_
  refine xqd 114 [vI2 i0 j0 k0 l0] 50 (fun _:Unit=>yI ((blen (z.natAbs/(d*2^j)):Nat):Int)) _ (fun w R Q=>yN (gB _ _ _ Q.2.1 (nfit (mlc (uD (jI (uY _ _)) Z)) qD))) fun xx=>?_
  refine xqg 3 [(53,.v (.pointer (yL g)))] ?_
  refine xqj 54 (yI (bits:Int)) (fun w Q=>wU (t:=3) (x:=.tmp 53) (g:=g) (off:=0) (Blk.cell (Q.1.1.1.1) 0)) ?_
  refine xqg 1 [(55,.v (.bool (decide (((blen (z.natAbs/(d*2^j)):Nat):Int)>(bits:Int)))))] ?_
  refine xz (xe (zA ?_))
  refine yQ ((decide (((blen (z.natAbs/(d*2^j)):Nat):Int)>(bits:Int)))) (fun c0=>?_) fun c0=>?_
  ·have m0:=uA c0
   have d0:=Zld qO q G hk (by rw[b0];omega)
   refine yY (xq 2 [yJ 57 (IntKind.i64.wrap ((j:Int)+1))] [] ?_)
   rw[yW ((j:Int)+1) ((j:Int)+1) qO]
   refine xq 1 [yJ 10 ((j:Int)+1)] [] ?_
   refine yZ (xN (zK (xV ?_)))
   refine yP [(0,.v (.pointer (yL g))),yJ 3 e,(5,.p 5 0),(6,.p 6 0),(8,.p 8 0),(9,.p 9 0),yJ 10 (((j:Int)+1))] [(9,57,[.v (.bool false),.v (.slice A l c)]),yF 8 84 false none 0 0 0,(6,57,[.v (.bool a),.v (.slice B m f)]),(5,57,[.v (.bool b),.v (.slice A l c)])] (fun w=>((CB w g (bits:Int) 0∧zN w (.agg #[.bool b,.slice A l c]) (z))∧zN w (.agg #[.bool a,.slice B m f]) ((d:Int)))) (fun w Q=>⟨⟨Q.1.1.1.1.1,Q.1.1.1.1.2⟩,Q.1.1.1.2⟩) ?_
   exact xI (((rndK z.natAbs d bits-(((j:Int)+1))).toNat)) (by have:=d0.2;omega) ⟨(((j:Int)+1)),rfl,rfl,(Or.inr d0.1),rfl⟩
  have m0:=uB c0
  have F:=Zle qO q G hk (by rw[b0];omega)
  have o:=ZeV (n:=z.natAbs) (d:=d) (bits:=bits) qO q G
  have n0:ml (rndM z.natAbs d bits)≤1048576:=by unfold rndM;rw[←F,D,E];exact uD (Zli Z qD) qO
  refine zJ (zA (yY (xq 2 [eI2 58 false A l c,eI2 59 H I J K] [] ?_)))
  refine xqc 117 [vI2 false A l c,vI2 H I J K] 60 wO _ (fun w R Q=>(ZdS false A l c H I J K (z.natAbs) (d*2^j) _ (Q.1.1.1.1.2).absv Q.1.1.2 qO qO a0).mono (fun _ _ h=>kE (by rw[show kR (z.natAbs) (d*2^j)=rndM z.natAbs d bits by unfold rndM;rw[←F,D,E]] at h;exact h))) fun⟨D0,L,M,N⟩=>?_
  refine xq 2 [(15,.p 15 0)] [bI2 15 57 D0 L M N] ?_
  refine yZ (yY (xq 4 [] [bI2 15 57 b L M N] ?_))
  refine yZ (yY (xr 5 [(0,.v (.pointer (yL g))),yJ 3 e,(5,.p 5 0),(6,.p 6 0),(8,.p 8 0),(9,.p 9 0),yJ 10 (j:Int),(64,.v (.pointer (yL g))),eI2 65 b L M N,yJ 68 (IntKind.i64.wrap (e+(j:Int)))] [bI2 9 57 false A l c,yF 8 84 false none 0 0 0,bI2 6 57 a B m f,bI2 5 57 b A l c] ?_))
  rw[yW (e+(j:Int)) (e+(j:Int)) qO]
  refine xqc 119 [vI2 b L M N, yI (e+(j:Int))] 69 (shF ((e+(j:Int))+((tzn (rndM z.natAbs d bits):Nat):Int))) _ (fun w R Q=>(ZeG b L M N (sg b (rndM z.natAbs d bits)) ((e+(j:Int))) _ (by have h1:zN _ (.agg #[.bool D0,.slice L M N]) _:=Q.2;have h2:=h1.spos (pN _);rw[h2] at h1;exact h1.sgn o b) (Zp9 o) (by unfold ZbM;rw[Zas];exact n0) qO qO).mono (fun _ _ h=>Zjr (by rw[Zas,Zga o] at h;exact h))) fun⟨E0,F0,G0,H0⟩=>?_
  obtain⟨u,f0⟩:=yE (limR b (oddM (rndM z.natAbs d bits)) (((e+(j:Int))+((tzn (rndM z.natAbs d bits):Nat):Int))))
  refine Za8 118 [.pointer (yL g), yV E0 F0 G0 H0 ((e+(j:Int))+((tzn (rndM z.natAbs d bits):Nat):Int))] (d:=70) (shF u.e) (fun _=>#[yI (bits:Int), yI u.err]) (fun y w=>zN w (wO y) (sg u.s u.m)) (fun _=>True) (fun w Q=>Q.1.1.1.1.1.1.1) (oI _) (Or.inr rfl) (fun w R Q=>yM Zjq (show Calls _ _ _ _ (RetC w g (bits:Int) u) by rw[←f0];exact ZdT g bits E0 F0 G0 H0 b (oddM (rndM z.natAbs d bits)) (((e+(j:Int))+((tzn (rndM z.natAbs d bits):Nat):Int))) _ Q.1.1.1.1.1.1.1 Q.2)) (fun _ _ _ _=>trivial) fun⟨o0,p0,q0,r0⟩=>?_
  refine xr 1 [(0,.v (.pointer (yL g))),yJ 3 e,(5,.p 5 0),(6,.p 6 0),(8,.p 8 0),(9,.p 9 0),yJ 10 (j:Int)] [bI2 9 57 false A l c,yF 8 84 o0 p0 q0 r0 u.e,bI2 6 57 a B m f,bI2 5 57 b A l c] ?_
  refine yZ (zG (xT (zH (xT ?_))))
  refine yR (yV o0 p0 q0 r0 u.e) fun w' R Q=>?_
  have s0:=hN.signb
  have t0:wL (decide (z<0)) z.natAbs d e bits=u:=by unfold wL;rw[uO qO,Zjs o,← f0,← F,← s0]
  rw[t0]
  exact⟨(o0,p0,q0,r0),rfl,Q.2,R,Q.1.2⟩
 have Y:=uB X
 obtain⟨j,O0⟩:∃ j:Nat,-k=j:=vG qO
 have D:fa z.natAbs k=z.natAbs*2^j:=by unfold fa;rw[O0,pF]
 have E:fb d k=d:=Zst qO
 have hj:j≤700000:=qO
 have Z:ml (z.natAbs*2^j)≤90000:=uD (Zlh (j:=30000) hz qO) qO
 have N0:ml d≤90000:=qO
 have a0:=q
 have b0:fq z.natAbs d k=(z.natAbs*2^j)/(d):=by unfold fq;rw[D,E]
 refine zB (xq 3 [eI2 39 false A l c,yJ 41 (IntKind.i64.wrap (0-(k)))] [] ?_)
 rw[yW (0-(k)) ((j:Int)) qO]
 refine xqc 115 [vI2 false A l c, yI (j:Int)] 42 wO _ (fun w R Q=>(ZbI _ ((z.natAbs:Nat):Int) j _ (Q.1.2).absv (nfit (mlc hz) qD) qO).mono (fun _ _ h=>kE (by rw[show ((z.natAbs:Nat):Int)*2^j=((z.natAbs*2^j:Nat):Int) by rw[tL,tE];rfl] at h;exact h))) fun⟨O,P,S,T⟩=>?_
 refine xq 1 [] [bI2 11 57 O P S T] ?_
 refine yZ (yY (xq 2 [eI2 44 O P S T,eI2 45 a B m f] [] ?_))
 refine xqc 116 [vI2 O P S T,vI2 a B m f] 46 Zao _ (fun w R Q=>yM dP (Ze5 (x:=z.natAbs*2^j) (r:=d) Q.2 Q.1.2 qO qO a0)) fun xx=>?_
 obtain⟨⟨u0,v0,w0,x0⟩,⟨Y0,Z0,a1,b1⟩⟩:=xx
 refine xq 7 [(13,.p 13 0)] [bI2 13 57 u0 v0 w0 x0] ?_
 refine yZ (zC (zC ?_))
 refine yO 7 zP ?_
 refine xqg 1 [eI2 49 u0 v0 w0 x0] ?_
 refine xqd 114 [vI2 u0 v0 w0 x0] 50 (fun _:Unit=>yI ((blen (z.natAbs*2^j/d):Nat):Int)) _ (fun w R Q=>yN (gB _ _ _ Q.2.1 (nfit (mlc (uD (jI (uY _ _)) Z)) qD))) fun xx=>?_
 refine xqg 3 [(53,.v (.pointer (yL g)))] ?_
 refine xqj 54 (yI (bits:Int)) (fun w Q=>wU (t:=3) (x:=.tmp 53) (g:=g) (off:=0) (Blk.cell (Q.1.1.1.1) 0)) ?_
 refine xqg 1 [(55,.v (.bool (decide (((blen (z.natAbs*2^j/d):Nat):Int)>(bits:Int)))))] ?_
 refine xz (xe (zA ?_))
 refine yQ ((decide (((blen (z.natAbs*2^j/d):Nat):Int)>(bits:Int)))) (fun e0=>?_) fun e0=>?_
 ·have y0:=uA e0
  have d0:=Zld qO q G hk (by rw[b0];omega)
  refine yY (xq 2 [yJ 57 (IntKind.i64.wrap (k+1))] [] ?_)
  rw[yW (k+1) (k+1) qO]
  refine xq 1 [yJ 10 (k+1)] [] ?_
  refine yZ (xN (zK (xV ?_)))
  refine yP [(0,.v (.pointer (yL g))),yJ 3 e,(5,.p 5 0),(6,.p 6 0),(8,.p 8 0),(9,.p 9 0),yJ 10 ((k+1))] [(9,57,[.v (.bool false),.v (.slice A l c)]),yF 8 84 false none 0 0 0,(6,57,[.v (.bool a),.v (.slice B m f)]),(5,57,[.v (.bool b),.v (.slice A l c)])] (fun w=>((CB w g (bits:Int) 0∧zN w (.agg #[.bool b,.slice A l c]) (z))∧zN w (.agg #[.bool a,.slice B m f]) ((d:Int)))) (fun w Q=>⟨⟨Q.1.1.1.1.1,Q.1.1.1.1.2⟩,Q.1.1.1.2⟩) ?_
  exact xI (((rndK z.natAbs d bits-((k+1))).toNat)) (by have:=d0.2;omega) ⟨((k+1)),rfl,rfl,(Or.inr d0.1),rfl⟩
 have y0:=uB e0
 have F:=Zle qO q G hk (by rw[b0];omega)
 have o:=ZeV (n:=z.natAbs) (d:=d) (bits:=bits) qO q G
 have n0:ml (rndM z.natAbs d bits)≤1048576:=by unfold rndM;rw[←F,D,E];exact uD (Zli Z qD) qO
 refine zJ (zA (yY (xq 2 [eI2 58 O P S T,eI2 59 a B m f] [] ?_)))
 refine xqc 117 [vI2 O P S T,vI2 a B m f] 60 wO _ (fun w R Q=>(ZdS O P S T a B m f (z.natAbs*2^j) (d) _ Q.1.1.2 Q.1.1.1.2 qO qO a0).mono (fun _ _ h=>kE (by rw[show kR (z.natAbs*2^j) (d)=rndM z.natAbs d bits by unfold rndM;rw[←F,D,E]] at h;exact h))) fun⟨I0,U,V,W⟩=>?_
 refine xq 2 [(15,.p 15 0)] [bI2 15 57 I0 U V W] ?_
 refine yZ (yY (xq 4 [] [bI2 15 57 b U V W] ?_))
 refine yZ (yY (xr 5 [(0,.v (.pointer (yL g))),yJ 3 e,(5,.p 5 0),(6,.p 6 0),(8,.p 8 0),(9,.p 9 0),yJ 10 k,(64,.v (.pointer (yL g))),eI2 65 b U V W,yJ 68 (IntKind.i64.wrap (e+k))] [bI2 9 57 false A l c,yF 8 84 false none 0 0 0,bI2 6 57 a B m f,bI2 5 57 b A l c] ?_))
 rw[yW (e+k) (e+k) qO]
 refine xqc 119 [vI2 b U V W, yI (e+k)] 69 (shF ((e+k)+((tzn (rndM z.natAbs d bits):Nat):Int))) _ (fun w R Q=>(ZeG b U V W (sg b (rndM z.natAbs d bits)) ((e+k)) _ (by have h1:zN _ (.agg #[.bool I0,.slice U V W]) _:=Q.2;have h2:=h1.spos (pN _);rw[h2] at h1;exact h1.sgn o b) (Zp9 o) (by unfold ZbM;rw[Zas];exact n0) qO qO).mono (fun _ _ h=>Zjr (by rw[Zas,Zga o] at h;exact h))) fun⟨J0,K0,L0,M0⟩=>?_
 obtain⟨C,g0⟩:=yE (limR b (oddM (rndM z.natAbs d bits)) (((e+k)+((tzn (rndM z.natAbs d bits):Nat):Int))))
 refine Za8 118 [.pointer (yL g), yV J0 K0 L0 M0 ((e+k)+((tzn (rndM z.natAbs d bits):Nat):Int))] (d:=70) (shF C.e) (fun _=>#[yI (bits:Int), yI C.err]) (fun y w=>zN w (wO y) (sg C.s C.m)) (fun _=>True) (fun w Q=>Q.1.1.1.1.1.1.1) (oI _) (Or.inr rfl) (fun w R Q=>yM Zjq (show Calls _ _ _ _ (RetC w g (bits:Int) C) by rw[←g0];exact ZdT g bits J0 K0 L0 M0 b (oddM (rndM z.natAbs d bits)) (((e+k)+((tzn (rndM z.natAbs d bits):Nat):Int))) _ Q.1.1.1.1.1.1.1 Q.2)) (fun _ _ _ _=>trivial) fun⟨z0,A0,B0,C0⟩=>?_
 refine xr 1 [(0,.v (.pointer (yL g))),yJ 3 e,(5,.p 5 0),(6,.p 6 0),(8,.p 8 0),(9,.p 9 0),yJ 10 k] [bI2 9 57 false A l c,yF 8 84 z0 A0 B0 C0 C.e,bI2 6 57 a B m f,bI2 5 57 b A l c] ?_
 refine yZ (zG (xT (zH (xT ?_))))
 refine yR (yV z0 A0 B0 C0 C.e) fun w' R Q=>?_
 have s0:=hN.signb
 have t0:wL (decide (z<0)) z.natAbs d e bits=C:=by unfold wL;rw[uO qO,Zjs o,← g0,← F,← s0]
 rw[t0]
 exact⟨(z0,A0,B0,C0),rfl,Q.2,R,Q.1.2⟩
theorem Zke (g bits:Nat)(s:Bool)(A:qA)(l c:Nat)(t:Bool)(B:qA)(m d:Nat)(v:Rat)(w:World)(x:CB w g ((bits:Nat):Int) 0)(z:xF w (.agg #[.bool s,.slice A l c,.bool t,.slice B m d]) v)(C:ml v.num.natAbs≤10000)(D:ml v.den≤10000)(E:0<bits)(F:bits≤4096) :
 yA 42 #[.pointer (some ⟨g,0,none⟩),.agg #[.bool s,.slice A l c,.bool t,.slice B m d]] w (RetC w g ((bits:Nat):Int) (wL (decide (v.num<0)) v.num.natAbs v.den 0 bits)):=by
 refine dM (fun i=>i=g) (Φ:=fun w=>(CB w g (bits:Int) 0∧xF w (.agg #[.bool s,.slice A l c,.bool t,.slice B m d]) (v))) func42 rfl qK (fun w' u=>⟨x.ext u,z.ext u⟩) ?_
 refine yY (xq 2 [(3,.p 3 0),(4,.p 4 0)] [yF 4 84 false none 0 0 0,bR4 3 59 s A l c t B m d] ?_)
 refine yZ (zC ?_)
 refine yO 5 zP ?_
 refine xqg 4 [(5,.v (.pointer (yL g))),eI2 7 s A l c,eR4 8 s A l c t B m d] ?_
 refine xqd 68 [vR4 s A l c t B m d] 9 wO _ (fun w R Q=>yM kE (Zo0 _ (v) _ Q.2)) fun⟨n,o,q,r⟩=>?_
 refine xz ?_
 obtain⟨a,b⟩:=yE (wL (decide (((v).num)<0)) ((v).num).natAbs (v.den) (0) bits)
 refine Za8 67 [.pointer (yL g),.agg #[.bool s,.slice A l c],.agg #[.bool n,.slice o q r], yI 0] (d:=10) (shF a.e) (fun _=>#[yI (bits:Int), yI a.err]) (fun y w=>zN w (wO y) (sg a.s a.m)) (fun _=>True) (fun w Q=>Q.1.1) (oI _) (Or.inr rfl) (fun w R Q=>yM Zjq (show Calls _ _ _ _ (RetC w g (bits:Int) a) by rw[←b];exact ZhT g bits s A l c ((v).num) n o q r (v.den) (0) _ Q.1.1 Q.1.2.num Q.2 C D v.den_pos qO qO qO qO)) (fun _ _ _ _=>trivial) fun⟨f,h,j,k⟩=>?_
 refine xr 1 [(4,.p 4 0)] [yF 4 84 f h j k a.e] ?_
 refine yZ (zG ?_)
 refine yR (yV f h j k a.e) fun w' R Q=>?_
 rw[b]
 exact⟨(f,h,j,k),rfl,Q.2,R,Q.1.2⟩
theorem Zlj {z:Int}{k:Nat}(h:(Lib.itoa z).length≤k):ml z.natAbs≤k:=Zn1 (uD (ZkW z) h)
theorem Zrp {s:Bool}{n k:Nat}{e:Int}(h:ml n≤k):ml (wI s n e).m≤k:=by
 unfold wI
 split
 ·exact wT.2 (uU zX)
 split
 ·exact uD (jI (uY _ _)) h
 exact wT.2 (uU zX)
theorem Zlk {n d bits:Nat}(b:0<n)(c:0<d)(e:0<bits):rndM n d bits≤2^bits:=by
 have f:=bI b c e
 have g:=(Zca (fa n (rndK n d bits)) (fb d (rndK n d bits))).2
 have a:=iI (fq n d (rndK n d bits))
 rw[f] at a
 unfold rndM
 unfold fq at a
 omega
theorem Zrq {s:Bool}{n d bits:Nat}{e:Int}(a:0<d)(b:0<bits)(c:bits≤4096):ml (wL s n d e bits).m≤129:=by
 unfold wL
 split
 ·exact wT.2 (uU zX)
 exact Zrp (uD (jI (Zlk qO a b)) (Zn4 qO))
theorem Zsw {r:FR}(h:r.err=0):frT r=Lib.itoa (sg r.s r.m):=vC h
theorem Zsx {r:FR}(h:r.err=0):frE r=r.e:=vC h
theorem ZdU (b:Int)(w:World) :
 yA 13 #[.int .i64 b] w (RetV w (.bool (decide (8≤b∧b≤1024)))):=by
 refine zT (Φ:=fun w=>True) func13 rfl qK (fun w' d=>trivial) ?_
 refine yY (xq 1 [yB 2 false] [] ?_)
 refine yZ (yY (xq 3 [yB 5 (decide (b≥8))] [] ?_))
 rcases bl2 ((decide (b≥8))) with a|a
 ·rw[a]
  have c:=uA a
  refine xq 4 [yB 2 (decide (b≤1024))] [] ?_
  refine yZ (zG ?_)
  refine yR (.bool (decide (b≤1024))) fun w' R Q=>?_
  exact⟨vI (fun b=>Ending.returned (Value.bool b)) (pL.2 ⟨fun h=>⟨qO,h⟩,fun h=>h.2⟩),R⟩
 rw[a]
 have c:=uB a
 refine xq 4 [yB 2 false] [] ?_
 refine yZ (zG ?_)
 refine yR (.bool false) fun w' R Q=>?_
 exact⟨by rw[uV (p:=8≤b∧b≤1024) qO],R⟩
end Go.Proofs.YtenchljfmfgeoaaGreatDoor
