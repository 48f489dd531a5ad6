/-
 My texts Fb, Fdm, Fdc put together.
-/
import Derived.RangeFuncKeeps
import Derived.RangeFuncBox
import Derived.RangeFuncLeaves
import Derived.RangeFuncCalls
import Derived.OwnWalkIn
import Derived.TacticsInMore
import Derived.LoopNIn
import Derived.LoopIn
import Derived.Test.YtklpdkpcocnglaaGreatDoorX18
import Derived.Test.YtklpdkpcocnglaaGreatDoorX16
import Derived.Test.YtklpdkpcocnglaaGreatDoorX11
import Derived.RangeFuncFrom
import Derived.Shelf.Strings.BuilderK
import Derived.Shelf.Strings.Repeat
import Derived.Test.YtklpdkpcocnglaaGreatDoorX17
import Derived.Deep.RegionLaw
set_option maxRecDepth 100000
set_option maxHeartbeats 8000000
namespace Go.Proofs.YtklpdkpcocnglaaGreatDoor
open Go.RowKit
def aC (n k:Nat):List Nat:=(List.range k).map fun j=>n-1-j
theorem Zdt (n k:Nat):aC n (k+1)=aC n k ++ [n-1-k]:=by simp[aC,List.range_succ]
theorem Zj4 (n k:Nat):(aC n k).length=k:=by simp[aC]
def KpS (Bs b:Nat) (A B:World):Prop:=B.heap[Bs]? = A.heap[Bs]? ∧ B.heap[b]? = A.heap[b]?
theorem KpS.refl (a b:Nat)(A:World):KpS a b A A:=⟨rfl,rfl⟩
theorem KpS.trans {a b:Nat}{A B C:World}(h:KpS a b A B)(k:KpS a b B C):KpS a b A C:=⟨k.1.trans h.1,k.2.trans h.2⟩
theorem KpS.cell1 {a b:Nat}{A B:World}(h:KpS a b A B)(j:Nat):B.cell? ⟨a,j,none⟩=A.cell? ⟨a,j,none⟩:=World.cell?_of_block h.1
theorem KpS.cell2 {a b:Nat}{A B:World}(h:KpS a b A B)(j:Nat):B.cell? ⟨b,j,none⟩=A.cell? ⟨b,j,none⟩:=World.cell?_of_block h.2
attribute [local go_sem] Oper.semAt_some
theorem Zld (n l h b cap:Nat)(xs:List Nat)(K:1≤n)(u:xs.length≤4294967296)(J w:List Nat→World→Prop)(E:∀ pre x W,J pre W→pre.length<xs.length→YieldAt Fence.wide (n-1) Tryz.prog l #[.int .i64 ((x:Nat):Int),.int .u64 ((xs[x]?.getD 0:Nat):Int)] W fun e W' =>
 (e=.returned (.bool true)∧J (pre ++ [x]) W'∧KpS h b W W')∨(e=.returned (.bool false)∧w (pre ++ [x]) W'))(W:World)(o:W.cell? ⟨h,0,none⟩=some (.slice (some ⟨b,0,none⟩) xs.length cap))(F:∀ j,j<xs.length→W.cell? ⟨b,j,none⟩=some (.int .u64 ((xs[j]?.getD 0:Nat):Int)))(G:J [] W) :
 CallsIn Fence.wide n Tryz.prog 150 #[.func (.yield l) #[] #[],.pointer (some ⟨h,0,none⟩)] W fun e W'=>(∃ v,e=.returned v) ∧
 ((∃ y,y=aC xs.length xs.length∧J y W')∨(∃ pre,(∃ k,k≤xs.length∧pre=aC xs.length k)∧w pre W')):=by
 refine callsIn_of_wp Tryz.func150 rfl trivial ?_ rfl
 simp only[Tryz.ntmps150,List.size_toArray,sQ,oC,Nat.reduceAdd,Nat.reduceSub,Array.replicate_succ,Array.replicate_zero,List.push_toArray,List.append_toArray,List.nil_append,pX]
 gi_wp2
 gi_loopw [3] (fun i wr=>∃ k:Nat,k≤xs.length∧i=.int .i64 ((xs.length:Int)-1-k)∧J (aC xs.length k) wr∧KpS h b W wr)
  (fun i _=>(intOf i+1).toNat)
 case atStart=>exact⟨0,rV _,by simp,G,KpS.refl _ _ _⟩
 case round =>
  obtain⟨k,L,rfl,c,a⟩:=hrel
  have H:=(a.cell1 0).trans o
  by_cases p:k<xs.length
  ·have d:wr.cell? ⟨b,xs.length-1-k,none⟩=some (.int .u64 ((xs[xs.length-1-k]?.getD 0:Nat):Int)):=(a.cell2 _).trans (F _ (by omega))
   obtain⟨M,z,m,A,B,C⟩:=E _ (xs.length-1-k) wr c (by rw[Zj4];exact p)
   obtain⟨j,q⟩:=yE (xs.length-1-k)
   rw[q] at d B C
   have D:(xs.length:Int)-1-(k:Int)=(j:Int):=by omega
   rw[D]
   have I:j<xs.length:=by omega
   obtain⟨xj,f⟩:=yE (xs[j]?.getD 0)
   rw[f] at d B
   clear f
   have r:=zh q
   clear q D
   gi_wp2
   refine C.mono ?_
   rintro e N (⟨rfl,s,t⟩|⟨rfl,g⟩)
   ·gi_wp2
    go_roundw
    case rel=>exact⟨k+1,by omega,by have:=r.out;simp<;>omega,by rw[Zdt,r.out];exact s,a.trans t⟩
    case measure=>simp[intOf]<;>omega
   gi_wp2
   refine bodyPost_ret (results_none rfl _ _ _) rfl ?_
   exact⟨⟨_,rfl⟩,.inr ⟨_,⟨k+1,by omega,by rw[Zdt,r.out]⟩,g⟩⟩
  obtain rfl:k=xs.length:=by omega
  gi_wp2
  go_end0
  exact⟨⟨_,rfl⟩,.inl ⟨_,rfl,c⟩⟩
theorem ZhA (n a b cap:Nat)(xs:List Nat)(g:1≤n)(c:xs.length≤4294967296)(w:World)(h:a<w.heap.size)(i:b<w.heap.size)(d:w.cell? ⟨a,0,none⟩=some (.slice (some ⟨b,0,none⟩) xs.length cap))(m:∀ j,j<xs.length→w.cell? ⟨b,j,none⟩=some (.int .u64 ((xs[j]?.getD 0:Nat):Int))) :
 SeqStopsK Fence.wide n Tryz.prog 150 #[.pointer (some ⟨a,0,none⟩)] (fun x:Nat=>#[Value.int .i64 (x:Int),Value.int .u64 ((xs[x]?.getD 0:Nat):Int)]) (KpS a b)
  (fun o=>o=aC xs.length xs.length) (fun e=>∃ k,k≤xs.length∧e=aC xs.length k) xs.length w:=fun l J q W f _ _ r s =>
 Zld n l a b cap xs g c J q r W ((f.cell (p:=⟨a,0,none⟩) h).trans d) (fun j t=>(f.cell (p:=⟨b,j,none⟩) i).trans (m j t)) s
theorem Zj5 (a:Option Addr)(len cap:Nat)(w:World) :
 yA 109 #[.slice a len cap] w fun e w'=>e=.returned (.func (.func 150) #[] #[.pointer (some ⟨w.heap.size,0,none⟩)])∧w'=w.alloc (.cells #[.slice a len cap] 76):=by
 go_enter Tryz.func109,Tryz.ntmps109
 go_wp2
 go_ret
 exact⟨rfl,rfl⟩
end Go.Proofs.YtklpdkpcocnglaaGreatDoor
namespace Go.Proofs.YtklpdkpcocnglaaGreatDoor
open Go.RowKit
def Zcn (cs:List Nat) (j:Nat):List UInt8:=if j+1<cs.length then List.replicate (19-(Lib.decDigits (cs[j]?.getD 0)).length) 48 ++ Lib.decDigits (cs[j]?.getD 0) else Lib.decDigits (cs[j]?.getD 0)
def lB (cs:List Nat) (l:List Nat):List UInt8:=l.flatMap (Zcn cs)
theorem Zdv (cs l:List Nat)(j:Nat):lB cs (l ++ [j])=lB cs l ++ Zcn cs j:=by simp[lB]
theorem Zfq {cs:List Nat}(a:∀ c∈cs,c<10^19)(d:∃ l c,cs=l ++ [c]∧0<c):∀ k,k≤cs.length→lB cs (aC cs.length k)=wL (chV (cs.drop (cs.length-k)))
 | 0,_=>by rw[Nat.sub_zero,uX (uM _)];rfl
 | k+1,hk=>by
  have e:=Zfq a d k (by omega)
  rw[Zdt,Zdv,e]
  have h:=ZpD (cs:=cs) (i:=cs.length-(k+1)) (by omega) rfl a d
  rw[show cs.length-1-k=cs.length-(k+1) by omega,h]
  unfold Zcn
  by_cases b:cs.length-(k+1)+1<cs.length
  ·rw[uL b,uL b,show cs.length-(k+1)+1=cs.length-k by omega]
  have:k=0:=by omega
  subst this
  rw[uJ b,uJ b,Nat.sub_zero,uX (uM _)]
  rfl
theorem Zok {cs:List Nat}{n:Nat}(h:ChR n cs 0)(b:0<n):lB cs (aC cs.length cs.length)=Lib.decDigits n:=by
 have a:cs≠[]:=fun e=>by have:=h.eq;rw[e] at this;simp[chV] at this;omega
 rw[Zfq h.lt (h.top rfl a) _ (uM _),qQ,tS]
 have:=h.eq
 rw[tK,tA] at this
 rw[←this,jM b]
theorem Zcv:∀ (k u:Nat),u<10^(k+1)→Lib.nDigits u≤k+1
 | 0,u,h=>by rw[Lib.nDigits_small (by simpa using h)];exact uM _
 | k+1,u,h=>by
  by_cases a:u<10
  ·rw[Lib.nDigits_small a];omega
  rw[Lib.nDigits_big a]
  have:=Zcv k (u/10) (by rw[uO] at h;omega)
  omega
theorem ZlW {c:Nat}(h:c<10^19):(Lib.decDigits c).length≤19:=by
 rw[Lib.decDigits_length]
 exact Zcv 18 c h
theorem Zol {cs:List Nat}(h:∀ c∈cs,c<10^19)(j:Nat):(Zcn cs j).length≤19:=by
 have b:cs[j]?.getD 0<10^19:=by
  rcases vJ j cs.length with a|a
  ·rw[List.getElem?_eq_getElem a];exact h _ (rO a)
  rw[List.getElem?_eq_none a];decide
 have:=ZlW b
 unfold Zcn
 split
 ·rw[vH,qE];omega
 exact this
theorem Zip {cs:List Nat}(h:∀ c∈cs,c<10^19):∀ l,(lB cs l).length≤19*l.length
 | []=>by simp[lB]
 | j :: l=>by
  have a:=Zip h l
  have b:=Zol h j
  have e:lB cs (j :: l)=Zcn cs j ++ lB cs l:=by simp[lB]
  rw[e,vH,sQ]
  omega
/-! ### the builder -/
theorem Za6 (B b:Nat)(l:List UInt8)(s:List UInt8)(w:World)(h:Lib.IsBuilderF 145 5 B b (Lib.byteCells l) w)(a:l.length+s.length≤140737488355328)(c:B≤w.heap.size) :
 yA 111 #[.pointer (some ⟨b,0,none⟩),.string ⟨s.toArray⟩] w fun e w'=>e=.returned (.tuple #[.int .i64 (s.length:Int),.nilIface])∧(Lib.IsBuilderF 145 5 B b (Lib.byteCells (l ++ s)) w'∧Below B w w'∧Lib.OthersKept 5 (some b) w w'):=by
 have d:(⟨s.toArray⟩:ByteArray).size=s.length:=by rw[←zP,zJ]
 refine (Any.Builder_WriteString_k (ρ:=Tryz.lays105_ren) { Tryz.lays105 with } Tryz.Builder_Extra_105 B b (Lib.byteCells l) ⟨s.toArray⟩ w h (by rw[Lib.byteCells_length,d];exact a) c).mono ?_
 rintro e w' ⟨rfl,f,i,j⟩
 refine⟨by rw[d],Or.inr ?_,i,j⟩
 rw[Lib.strCells_toArray] at f
 rw[show Lib.byteCells (l ++ s)=Lib.byteCells l ++ Lib.byteCells s by simp[Lib.byteCells]]
 exact f
theorem Zj7 (c:Nat)(w:World)(d:c≤19) :
 yA 112 #[.string ⟨#[48]⟩,.int .i64 (c:Int)] w fun e w'=>e=.returned (.string ⟨(List.replicate c (48:UInt8)).toArray⟩)∧Ext w w':=by
 rcases vJ c 2 with h|h
 ·have:c=0∨c=1:=by omega
  rcases this with rfl|rfl
  ·refine (Tryz.strings_Repeat_zero _ w).mono ?_
   rintro e w' ⟨rfl,rfl⟩
   exact⟨rfl,Fr.refl _ _⟩
  refine (Tryz.strings_Repeat_one _ w).mono ?_
  rintro e w' ⟨rfl,rfl⟩
  exact⟨rfl,Fr.refl _ _⟩
 have a:(⟨#[48]⟩:ByteArray).size=1:=rfl
 refine (Tryz.strings_Repeat_main ⟨#[48]⟩ c w h (by omega) (by rw[a];omega) (by rw[a];decide)).mono ?_
 rintro e w' ⟨rfl,b⟩
 refine⟨?_,Fr.ofBelow b⟩
 have:∀ n,Lib.repeatL [(48:UInt8)] n=List.replicate n 48:=by
  intro n;induction n with
  | zero=>rfl
  | succ n ih=>simp[Lib.repeatL,List.replicate_succ] at ih ⊢;first|exact ih | (rw[ih])
 rw[show (⟨#[48]⟩:ByteArray).data.toList=[48] from rfl,this]
/-! ### what stays -/
theorem Zj8 {B b:Nat}{T e:TypeId}{c:List Value}{W W':World}{row:Option Nat}(h:Lib.IsBuilderF T e B b c W)(j:W.grownBy W' row)(k:∀ r,row=some r→∃ o:Obj,W.heap[r]? = some o∧o.isCells=false):Lib.IsBuilderF T e B b c W':=by
 have a:∀ p,Lib.BuilderAtF T e B b p c W→Lib.BuilderAtF T e B b p c W':=by
  rintro p ⟨u,v,l,⟨y,d⟩,z⟩
  refine⟨u,v,(grownBy_keeps_cells j k l rfl).trans l,⟨y,?_⟩,z⟩
  rcases d with d|⟨g,f,i,A,C,D,m,E⟩
  ·exact Or.inl d
  exact Or.inr ⟨g,f,i,A,C,D,(grownBy_keeps_cells j k m rfl).trans m,E⟩
 exact h.elim (fun x=>Or.inl (a _ x)) (fun x=>Or.inr (a _ x))
theorem Zle {B b:Nat}{T e:TypeId}{c:List Value}{W W':World}(h:Lib.IsBuilderF T e B b c W)(r:Ext W W'):Lib.IsBuilderF T e B b c W':=by
 have l:∀ (k:Nat) (o:Obj),W.heap[k]? = some o→W'.heap[k]? = some o:=fun k o m=>by rw[r.block k (Array.getElem?_eq_some_iff.1 m).1 (fun f=>f)];exact m
 have a:∀ p,Lib.BuilderAtF T e B b p c W→Lib.BuilderAtF T e B b p c W':=by
  rintro p ⟨u,v,y,⟨z,d⟩,A⟩
  refine⟨u,v,l _ _ y,⟨z,?_⟩,A⟩
  rcases d with d|⟨g,i,j,C,D,E,F,G⟩
  ·exact Or.inl d
  exact Or.inr ⟨g,i,j,C,D,E,l _ _ F,G⟩
 exact h.elim (fun x=>Or.inl (a _ x)) (fun x=>Or.inr (a _ x))
theorem ZiJ {B b:Nat}{T e:TypeId}{d:List Value}{W:World}(h:Lib.IsBuilderF T e B b d W):∃ c t f,W.heap[b]? = some (.cells c t f):=by
 rcases h with ⟨_,v,a,_⟩|⟨_,v,a,_⟩<;>exact⟨_,_,_,a⟩
theorem Zfr {B n:Nat}{w W W':World}{row:Option Nat}(h:Below B w W)(d:B≤w.heap.size)(a:W.grownBy W' row)(b:∀ r,row=some r→n≤r)(f:B≤n):Below B w W':=by
 refine⟨a.os.trans h.os,a.tape.trans h.tape,a.output.trans h.output,uE h.size a.size,fun k c=>?_⟩
 rw[a.block k (by have:=h.size;omega) (fun e=>by have:=b k e.symm;omega)]
 exact h.block k c
theorem ZqX {e:TypeId}{b:Nat}{w w':World}(h:Lib.OthersKept e (some b) w w')(d:w.heap.size≤w'.heap.size)(f:∃ c t fz,w.heap[b]? = some (.cells c t fz)):KeepsOthers w w':=by
 refine⟨d,fun k o a ho=>h k o a ?_ ?_⟩
 ·intro e
  injection e with e
  obtain⟨c,t,fz,i⟩:=f
  rw[e,i] at a
  injection a with a
  rw[←a] at ho
  cases ho
 rintro c fz rfl
 cases ho
theorem Fr.others {w w':World}(h:Ext w w'):KeepsOthers w w':=⟨h.size,fun k o a _=>by rw[h.block k (Array.getElem?_eq_some_iff.1 a).1 (fun f=>f)];exact a⟩
theorem Zco {e:TypeId}{b k:Nat}{o:Obj}{w w':World}(h:Lib.OthersKept e (some b) w w')(a:w.heap[k]? = some o)(d:k≠b)(f:∀ c fz,o≠.cells c e fz):w'.heap[k]? = some o :=
 h k o a (fun e=>by injection e with e;exact d e) f
structure DcJ (w:World) (q g c2:Nat) (cs:List Nat) (t:List UInt8) (W:World):Prop where
 below:Below w.heap.size w W
 size:q+2≤W.heap.size
 bd:Lib.IsBuilderF 145 5 w.heap.size q (Lib.byteCells t) W
 box:Blk 76 W w.heap.size #[.slice (some ⟨g,0,none⟩) cs.length c2]
 bs:Blk 76 W (q+1) #[.slice (some ⟨g,0,none⟩) cs.length c2]
 row:Own .u64 94 W g cs
section
variable {w W W':World} {q g c2 n:Nat} {cs:List Nat} {t s:List UInt8} {row:Option Nat}
theorem DcJ.kept (h:DcJ w q g c2 cs t W)(a:W.grownBy W' row)(b:∀ r,row=some r→n≤r∧∃ o:Obj,W.heap[r]? = some o∧o.isCells=false)(d:w.heap.size≤n):DcJ w q g c2 cs t W':=by
 obtain⟨tail,f,c⟩:=h.row
 exact⟨Zfr h.below (uM _) a (fun r e=>(b r e).1) d,uE h.size a.size,Zj8 h.bd a (fun r e=>(b r e).2),(grownBy_keeps_cells a (fun r e=>(b r e).2) h.box rfl).trans h.box,(grownBy_keeps_cells a (fun r e=>(b r e).2) h.bs rfl).trans h.bs,tail,f,(grownBy_keeps_cells a (fun r e=>(b r e).2) c rfl).trans c⟩
theorem DcJ.step (h:DcJ w q g c2 cs t W)(Q:Ext W W'):DcJ w q g c2 cs t W'∧KeepsOthers W W'∧KpS (q+1) g W W':=by
 have a:=h.size
 exact⟨⟨((Fr.ofBelow h.below).trans Q).toBelow,uE a Q.size,Zle h.bd Q,h.box.ext Q,h.bs.ext Q,h.row.ext Q⟩,Fr.others Q,Q.block _ (by omega) (fun f=>f),Q.block _ h.row.lt (fun f=>f)⟩
theorem DcJ.write (h:DcJ w q g c2 cs t W)(p:w.heap.size<q)(k:g<q)(l:Lib.IsBuilderF 145 5 w.heap.size q (Lib.byteCells (t ++ s)) W')(b:Below w.heap.size W W')(a:Lib.OthersKept 5 (some q) W W') :
 DcJ w q g c2 cs (t ++ s) W'∧KeepsOthers W W'∧KpS (q+1) g W W':=by
 obtain⟨tail,m,d⟩:=h.row
 have o:W'.heap[w.heap.size]? = some _:=Zco a h.box (by omega) (fun c f e=>by injection e with _ e;cases e)
 have i:W'.heap[q+1]? = some _:=Zco a h.bs (by omega) (fun c f e=>by injection e with _ e;cases e)
 have j:W'.heap[g]? = some _:=Zco a d (by omega) (fun c f e=>by injection e with _ e;cases e)
 exact⟨⟨h.below.trans b,uE h.size b.size,l,o,i,tail,m,j⟩,ZqX a b.size (ZiJ h.bd),i.trans h.bs.symm,j.trans d.symm⟩
end
theorem Ze2 {P:Program}{h:Array Oper}{o:Oper}{a:Act}{w:World}{K:Act→World→Prop}{Q:Exit→Act→World→Prop}{E:Prop}(p:o.guard=none)(s x:Operand)(t:TypeId)(q:o.op=Op.call { callee:=Callee.builtin Builtin.append,args:=#[s,x],argTypes:=#[t,t] })(e:TypeId)(k:IntKind)(bytes:Nat)(r:P.underlying t=some (.slice e))(g:(P.info? e).map (fun i=>(i.zero,i.size,i.bytes))=some (some (.int k 0),1,bytes))(A X:Option Addr)(n m cap c:Nat)(u:a.eval s=.slice A n cap)(v:a.eval x=.slice X m c)(xs d:List Nat)(y:xs.length=n)(z:d.length=m)(B:Buf k e w A cap xs)(C:zF k w X d)(l:n+m≤maxLen)(f:(n+m)*bytes≤140737488355328)(D:∀ A' cap' w',Buf k e w' A' cap' (xs ++ d)→Fr (xP A) w w'→(∀ b,xP A' b→xP A b∨b=w.heap.size)→K (a.put o.dst (.slice A' (n+m) cap')) w') :
 if Region.wanted o (yielded h a.tmps)=true then Oper.wp P o a w K Q else E:=by
 have F:Region.wanted o (yielded h a.tmps)=true:=by simp[Region.wanted,p]
 rw[uL F]
 obtain⟨A',cap',w',j,G,H,I⟩:=ZbB (P:=P) w t o.type e k bytes r g A X n m cap c xs d y z B C l f
 unfold Oper.wp execOp
 simp only[q,resolve,invoke,builtin,Sem.run_bind,Sem.run_pure,Result.andThen_ok,List.map_toArray,List.map_cons,List.map_nil,u,v,j]
 exact D _ _ _ G H I
theorem ChR.bound {n r:Nat}{cs:List Nat}(h:ChR n cs r)(a:0<r):cs.length<blen n:=by
 refine iR.2 ?_
 have b:2^cs.length≤(10^19)^cs.length:=sF (by decide) _
 have c:(10^19)^cs.length*1≤(10^19)^cs.length*r:=uK _ a
 have:=h.eq
 omega
structure DcI (w wr:World) (b bx n:Nat) (rs cs:List Nat) (A:Option Addr) (c:Nat):Prop where
 ext:Ext w wr
 own:Own .u64 94 wr b rs
 dig:Dig W64 rs
 trim:Trim rs
 ch:ChR n cs (val W64 rs)
 box:Blk 76 wr bx #[.slice A cs.length c]
 buf:Buf .u64 94 wr A c cs
 news:∀ i,xP A i→w.heap.size≤i∧i≠b∧i≠bx
theorem Zj9 (A:Option Addr)(l c:Nat)(w:World)(a:zK w (.slice A l c) 0):yA 67 #[.slice A l c] w (ZbS w (Lib.decDigits 0)):=by
 have b:l=0:=a.len0
 subst b
 go_enter Tryz.func67,Tryz.ntmps67
 go_wp2
 go_ret
 exact⟨by rw[Lib.decDigits_one (by decide)];rfl,Fr.refl _ _⟩
attribute [local go_sem] Oper.semAt_some
theorem Zlf (A:Option Addr)(xs:List Nat)(c n:Nat)(w:World)(hg:Glob w)(hn:0<n)(hX:zF .u64 w A xs)(hd:Dig W64 xs)(ht:Trim xs)(hv:val W64 xs=n)(hl:xs.length≤1000000)(h0:0<xs.length) :
 yA 67 #[.slice A xs.length c] w (ZbS w (Lib.decDigits n)):=by
 have F1:blen n≤64000000:=by
  have y:=gM n
  have z:=xR hd ht
  rw[hv] at z
  omega
 have HG:=zh hg
 have HX:=zh hX
 have Hd:=zh hd
 have Ht:=zh ht
 have Hv:=zh hv
 clear hg hX hd ht hv
 refine (callsIn_wide (n:=3)).1 ?_
 refine callsIn_of_wp_marks Tryz.func67 rfl trivial ?_ rfl
 simp only[Tryz.ntmps67,List.size_toArray,sQ,oC,Nat.reduceAdd,Nat.reduceSub,Array.replicate_succ,Array.replicate_zero,List.push_toArray,List.append_toArray,List.nil_append,pX]
 refine wpIn_wide.2 ?_
 go_wp2_with fail
 refine (ZgD A xs c _ (HX.out.ext ((Fr.refl _ _).alloc _)) (by omega) h0).mono ?_
 rintro e w1 ⟨b,Q,rfl,hb,x0,C,hO⟩
 have y0:=zh C
 have HO:=zh hO
 have G1:w.heap.size<b:=by simp at hb;omega
 have d:Hid (DcI w w1 b w.heap.size n xs [] none 0):=⟨((Fr.refl _ _).alloc _).trans y0.out,HO.out,Hd.out,Ht.out,by rw[Hv.out];exact ChR.start n,(Blk.new _ _ _).ext y0.out,Buf.nil,fun i R=>by obtain⟨a,ha,_⟩:=R;cases ha⟩
 clear C hO hb
 go_wp2
 go_loopw [4] (fun v4 wr=>∃ (rs cs:List Nat) (A2:Option Addr) (s:Nat),v4=.slice (some ⟨b,0,none⟩) rs.length Q∧rs.length≤Q∧rs.length≤1000000∧Hid (DcI w wr b w.heap.size n rs cs A2 s))
  (fun _ wr=>match wr.cell? ⟨w.heap.size,0,none⟩ with | some (.slice _ m _)=>64000001-m | _=>0)
 case atStart=>exact⟨xs,[],none,0,rfl,x0,hl,d⟩
 case round =>
  obtain⟨rs,cs,A2,s,rfl,H1,I1,d⟩:=hrel
  by_cases Z:0<rs.length
  ·have g0:0<val W64 rs:=aT d.out.trim zM (fun e=>by rw[e] at Z;simp at Z)
   have d1:cs.length<64000000:=by have:=d.out.ch.bound g0;omega
   have a0:wr.cell? ⟨w.heap.size,0,none⟩=some (.slice A2 cs.length s):=d.out.box.cell 0
   have e1:=d.out.box.frozen 0
   obtain⟨r,hr⟩:=yE (val W64 rs%10000000000000000000)
   have Hr:=zh hr
   have f1:=zh g0
   clear hr g0
   go_wp2_with fail
   first | (go_region_law (first
    | (
     refine Ze2 rfl (.tmp 19) (.tmp 22) 76 rfl 94 .u64 8 Tryz.underlying76 dB A2 (some ⟨w2.heap.size,0,none⟩) cs.length 1 s 1 rfl rfl cs [r] rfl rfl HBuf.out HSh.out (by simp only[maxLen];omega) (by omega) ?_
     intro A3 c3 w3 z0 i0 A0
     have T:=HBox.out.fr i0 (fun h=>(d.out.news _ h).2.2 rfl)
     have g1:=zh T
     have J1:=T.cell 0
     have K1:=T.frozen 0
     have i1:=zh z0
     have B0:=zh i0
     have j1:=zh A0
     clear T z0 i0 A0)
    | (
     go_simp
     go_at_call 108
     refine (Zcg b Q rs 10000000000000000000 _ d.out.own.drew (by omega) d.out.dig (by decide) (by rw[zO];decide)).mono ?_
     rintro e w2 ⟨qs,rfl,hq,U,E⟩
     rw[Hr.out]
     have k:=d.out.box.fr (Fr.undrew U) (fun e=>by omega)
     have L1:=k.cell 0
     have C1:=(k.alloc (.cells #[.int .u64 (r:Int)] 94)).cell 0
     have HBox:=zh (k.alloc (.cells #[.int .u64 (r:Int)] 94))
     have HBuf:=zh ((d.out.buf.fr (Fr.undrew U) (fun i R e=>(d.out.news i R).2.1 e)).ext ((Fr.refl _ w2).alloc (.cells #[.int .u64 (r:Int)] 94)))
     have HSh:Hid (zF .u64 (w2.alloc (.cells #[.int .u64 (r:Int)] 94)) (some ⟨w2.heap.size,0,none⟩) [r]):=(Own.new w2 94 .u64 [r] []).shows0
     have C0:=zh E
     have D0:=zh U
     have Hq:=zh hq
     clear k E U hq)))|skip
   all_goals
    have E0:=((C0.out.alloc (.cells #[.int .u64 (r:Int)] 94)).fr B0.out (fun h=>(d.out.news _ h).2.1 rfl)).far (p:=⟨w.heap.size,0,none⟩) (by show b≠w.heap.size;omega) (.slice A3 (cs.length+1) c3)
    have F0:Ext w (w3.setCell ⟨w.heap.size,0,none⟩ (.slice A3 (cs.length+1) c3)) :=
     (((d.out.ext.next (Fr.undrew D0.out) (fun i R e=>by omega)).alloc (.cells #[.int .u64 (r:Int)] 94)).next B0.out (fun i R h=>by have:=(d.out.news i h).1;omega)).setCell (p:=⟨w.heap.size,0,none⟩) (Or.inr (uM _)) _
    have j0:∀ i,xP A3 i→w.heap.size≤i∧i≠b∧i≠w.heap.size:=fun i R=>by
     rcases j1.out i R with h|h
     ·exact d.out.news i h
     have y:=d.out.ext.size
     have z:wr.heap.size≤w2.heap.size:=D0.out.size
     have P:=d.out.own.lt
     have h4:=C0.out.lt
     have h5:=d.out.box.lt
     rw[World.size_alloc] at h
     omega
    have F:=i1.out.fr (S:=fun i=>i=w.heap.size) ((show Fr (fun i=>i=w.heap.size) w3 w3 from Fr.refl _ _).setCell (p:=⟨w.heap.size,0,none⟩) (Or.inl rfl) (.slice A3 (cs.length+1) c3)) (fun i R e=>(j0 i R).2.2 e)
    have b0:Blk 76 (w3.setCell ⟨w.heap.size,0,none⟩ (.slice A3 (cs.length+1) c3)) w.heap.size #[.slice A3 (cs.length+1) c3]:=g1.out.set_ 0 _
    have G0:=zh E0
    have k1:=zh F0
    have l1:=zh j0
    have k0:=zh F
    have H0:=zh b0
    have I0:=zh a0
    have M1:rs.length=qs.length:=Hq.out.1.symm
    clear E0 F0 j0 F b0 a0 e1
    go_wp2_with fail
    refine (Zej _ qs Q _ G0.out.shows0 (by omega) (by omega)).mono ?_
    rintro e w5 ⟨rfl,G⟩
    have H:=H0.out.ext G
    have d0:=H.cell 0
    have J0:=zh d0
    have l0:=d.out.ch.step f1.out
    rw[show (10:Nat)^19=10000000000000000000 from rfl,Hr.out] at l0
    have m1:Hid (DcI w w5 b w.heap.size n (wF qs) (cs ++ [r]) A3 c3) :=
     ⟨k1.out.trans G,(G0.out.take _).ext G,iD Hq.out.2.1,iG qs,by rw[wX,Hq.out.2.2];exact l0,by rw[vH,sW];exact H,k0.out.ext G,l1.out⟩
    have m0:=zh (wH qs)
    have K0:=zh (gB qs qs.length)
    clear G H d0 l0
    go_wp2
    go_roundw
    case rel=>exact⟨wF qs,cs ++ [r],A3,c3,by rw[m0.out],by have:=K0.out;rw[m0.out];omega,by have:=K0.out;rw[m0.out];omega,m1⟩
    case measure=>rw[J0.out,I0.out];simp only[List.getElem?_toArray];first|omega | (simp;omega)
  obtain rfl:rs=[]:=qO (by omega)
  have t:=d.out.ch
  rw[dH] at t
  have n0:cs≠[]:=fun e=>by have:=t.eq;rw[e] at this;simp[chV] at this;omega
  have N1:=sS.2 n0
  have d1:cs.length≤64000000:=by
   have y:2^(cs.length-1)≤n:=by
    have h:=t.eq
    obtain⟨l,c0,rfl,n1⟩:=t.top rfl n0
    rw[Zdu] at h
    have z:(10^19)^l.length*1≤(10^19)^l.length*c0:=uK _ n1
    have P:2^l.length≤(10^19)^l.length:=sF (by decide) _
    rw[vH,sW,vW]
    omega
   have:=iR.2 y
   omega
  have o0:=zh (Zok t hn)
  have L0:=zh t.lt
  obtain⟨g,rfl,p0,o1,_,_⟩:=d.out.buf.open_ n0
  have p1:=zh p0
  have V:=d.out.box
  have O1:=d.out.news g ⟨_,rfl,rfl⟩
  have q1:=zh V
  have HE:=zh d.out.ext
  have P1:=V.cell 0
  have v:w.heap.size<wr.heap.size:=V.lt
  have I:=p0.lt
  clear t p0 o1 V d
  go_wp2_with fail
  refine (Zj5 (some ⟨g,0,none⟩) cs.length s _).mono ?_
  rintro e wS ⟨rfl,rfl⟩
  go_wp2_with fail
  have Q1:Below w.heap.size w wr:=HE.out.toBelow
  have k:Blk 76 ((wr.alloc (.cells #[.pointer none,.slice none 0 0] 145)).alloc (.cells #[.slice (some ⟨g,0,none⟩) cs.length s] 76)) w.heap.size #[.slice (some ⟨g,0,none⟩) cs.length s]:=(q1.out.alloc _).alloc _
  have r1:Blk 145 ((wr.alloc (.cells #[.pointer none,.slice none 0 0] 145)).alloc (.cells #[.slice (some ⟨g,0,none⟩) cs.length s] 76)) wr.heap.size #[.pointer none,.slice none 0 0]:=(Blk.new wr _ _).alloc _
  have M0:Blk 76 ((wr.alloc (.cells #[.pointer none,.slice none 0 0] 145)).alloc (.cells #[.slice (some ⟨g,0,none⟩) cs.length s] 76)) (wr.heap.size+1) #[.slice (some ⟨g,0,none⟩) cs.length s]:=by
   have:=Blk.new (wr.alloc (.cells #[.pointer none,.slice none 0 0] 145)) 76 #[.slice (some ⟨g,0,none⟩) cs.length s]
   rwa [World.size_alloc] at this
  have e0:Own .u64 94 ((wr.alloc (.cells #[.pointer none,.slice none 0 0] 145)).alloc (.cells #[.slice (some ⟨g,0,none⟩) cs.length s] 76)) g cs:=(p1.out.alloc _).alloc _
  have s1:Below w.heap.size w ((wr.alloc (.cells #[.pointer none,.slice none 0 0] 145)).alloc (.cells #[.slice (some ⟨g,0,none⟩) cs.length s] 76)):=((HE.out.alloc _).alloc _).toBelow
  have R1:((wr.alloc (.cells #[.pointer none,.slice none 0 0] 145)).alloc (.cells #[.slice (some ⟨g,0,none⟩) cs.length s] 76)).heap.size=wr.heap.size+2:=by rw[World.size_alloc,World.size_alloc]
  generalize ((wr.alloc (.cells #[.pointer none,.slice none 0 0] 145)).alloc (.cells #[.slice (some ⟨g,0,none⟩) cs.length s] 76))=wS at *
  refine (wpIn_wide (n:=3)).1 ?_
  refine wpIn_rangeFunc_ownF (n:=3) rfl (by decide) (gf:=150) (lb:=#[.pointer (some ⟨wr.heap.size+1,0,none⟩)]) rfl trivial (enters_of Tryz.func150 (by kernel_rfl) rfl)
   (ZhA 2 (wr.heap.size+1) g s cs (by decide) (by omega) wS (by omega) (by omega) (M0.cell 0) (fun j hj=>e0.cell hj)) KpS.trans (fun W q o o' hq _ _ _=>⟨World.putObj_heap_other (by omega),World.putObj_heap_other (by omega)⟩) (Below.refl _ _) (fun _=>rfl)
   (fun f W=>DcJ w wr.heap.size g s cs (lB cs f) W) (fun _ _ _=>False)
   (fun f A B row h hg hr=>h.kept hg hr (by omega)) (fun _ _ _ _ _ h _ _=>h)
   ⟨s1,by omega,Or.inl ⟨by omega,.slice none 0 0,r1,⟨rfl,Or.inl ⟨rfl,rfl⟩⟩,by simp[Value.ownBlock]⟩,k,M0,e0⟩ ?a1 ?assign ?body ?done ?stop
  case assign =>
   intro l x W K hK
   gi_wp2
   exact hK
  case stop =>
   rintro D c f W _ _ h _
   exact h.elim
  case body =>
   rintro l f x W J D1
   obtain⟨u,hu⟩:=yE (cs[x]?.getD 0)
   have L:u<10^19:=by
    rw[←hu]
    rcases vJ x cs.length with hj|hj
    ·rw[List.getElem?_eq_getElem hj];exact L0.out _ (rO hj)
    rw[List.getElem?_eq_none hj];decide
   rw[hu]
   have t1:=ZlW L
   have N0:=Zhz u W (HG.out.ext (Fr.ofBelow J.below)) (by rw[zO];exact qF L (by decide))
   have S1:=Zip L0.out f
   have O0:=J.below.size
   have HU:=zh hu
   have u1:=zh N0
   have HJ:=zh J
   have v1:=J.box.cell 0
   clear hu L N0 J
   obtain⟨D,hD⟩:=yE (Lib.decDigits u)
   rw[hD] at t1
   gi_wp2_with fail
   refine⟨trivial,((callsIn_wide.2 u1.out).inRound l).mono ?_⟩
   rintro e W1 ⟨rfl,C⟩
   rw[hD]
   have HD:=zh hD
   obtain⟨q0,P0,Q0⟩:=HJ.out.step C
   have E1:=q0.box.cell 0
   have X:=zh q0
   have R0:=zh P0
   have S0:=zh Q0
   clear q0 P0 Q0 C hD v1
   by_cases hx:x+1<cs.length
   ·gi_wp2_with fail
    rw[show (19:Int)-(D.length:Int)=((19-D.length:Nat):Int) by omega]
    refine⟨trivial,((callsIn_wide.2 (Zj7 (19-D.length) W1 (by omega))).inRound l).mono ?_⟩
    rintro e W2 ⟨rfl,T0⟩
    obtain⟨U0,Y,V0⟩:=X.out.step T0
    have r0:=zh U0
    have x1:=zh (R0.out.trans Y)
    have y1:=zh (S0.out.trans V0)
    clear U0 Y V0 T0
    gi_wp2_with fail
    refine⟨trivial,((callsIn_wide.2 (Za6 w.heap.size wr.heap.size (lB cs f) (List.replicate (19-D.length) 48) W2 r0.out.bd (by rw[qE];omega) r0.out.below.size)).inRound l).mono ?_⟩
    rintro e W3 ⟨rfl,y,z,P⟩
    obtain⟨W0,X0,Y0⟩:=r0.out.write v I y z P
    have s0:=zh W0
    have z1:=zh (x1.out.trans X0)
    have A1:=zh (y1.out.trans Y0)
    clear W0 X0 Y0 y z P
    gi_wp2_with fail
    refine⟨trivial,((callsIn_wide.2 (Za6 w.heap.size wr.heap.size (lB cs f ++ List.replicate (19-D.length) 48) D W3 s0.out.bd (by rw[vH,qE];omega) s0.out.below.size)).inRound l).mono ?_⟩
    rintro e W4 ⟨rfl,y,z,P⟩
    obtain⟨M,N,O⟩:=s0.out.write v I y z P
    have t0:=zh M
    have u0:=zh (z1.out.trans N)
    have v0:=zh (A1.out.trans O)
    clear M N O y z P
    gi_wp2
    refine⟨u0.out,v0.out,?_⟩
    show DcJ w wr.heap.size g s cs (lB cs (f ++ [x])) W4
    rw[Zdv,Zcn,uL hx,HU.out,HD.out,← tC]
    exact t0.out
   gi_wp2_with fail
   refine⟨trivial,((callsIn_wide.2 (Za6 w.heap.size wr.heap.size (lB cs f) D W1 X.out.bd (by omega) X.out.below.size)).inRound l).mono ?_⟩
   rintro e W4 ⟨rfl,y,z,P⟩
   obtain⟨M,N,O⟩:=X.out.write v I y z P
   have t0:=zh M
   have u0:=zh (R0.out.trans N)
   have v0:=zh (S0.out.trans O)
   clear M N O y z P
   gi_wp2
   refine⟨u0.out,v0.out,?_⟩
   show DcJ w wr.heap.size g s cs (lB cs (f ++ [x])) W4
   rw[Zdv,Zcn,uJ hx,HU.out,HD.out]
   exact t0.out
  case done =>
   rintro D ys W hD rfl J hK
   have w0:=J.bd
   rw[o0.out] at w0
   have Z0:=Tryz.Builder_String_any_k w.heap.size wr.heap.size (Lib.decDigits n) W w0 J.below.size
   have O0:=J.below.size
   have B1:=zh Z0
   have HJ:=zh J
   clear w0 Z0 J
   go_wp2_with fail
   refine B1.out.mono ?_
   rintro e W2 ⟨rfl,_,b1,E⟩
   have Y:W2.heap[D]? = some (.deferred (some [])):=Zco E hK (by omega) (fun c fz e=>by cases e)
   have f0:=Zfr (HJ.out.below.trans b1) (uM _) (grownBy_putObj' W2 D (.deferred none)) (n:=wS.heap.size) (fun r e=>by cases e;exact hD) (by omega)
   have c1:=zh f0
   clear f0 b1 E
   go_wp2
   refine⟨by simp,.inl ⟨_,_,rfl,run_takeDeferred Y,?_⟩⟩
   exact⟨_,results_tmp rfl _ _ _,rfl,Fr.ofBelow c1.out⟩
theorem Zaf (A:Option Addr)(l c n:Nat)(w:World)(j:Glob w)(b:zK w (.slice A l c) n)(d:wl n≤1000000):yA 67 #[.slice A l c] w (ZbS w (Lib.decDigits n)):=by
 rcases uI n with rfl|k
 ·exact Zj9 A l c w b
 obtain⟨o,f,p,e,q,m,g,i,a⟩:=b
 injection e with e1 e2 e3
 subst e1 e2 e3
 rw[←a,← xR g i] at d
 refine Zlf A f c n w j k m g i a d ?_
 rcases uI f.length with h|h
 ·rw[qO h] at a;simp at a;omega
 exact h
end Go.Proofs.YtklpdkpcocnglaaGreatDoor
