/-
 My texts.
-/
import Derived.RangeFuncBox
import Derived.RangeFuncCalls
import Derived.OwnWalkIn
import Derived.TacticsInMore
import Derived.LoopNIn
import Derived.LoopIn
import Derived.Test.YtmpffakfhcpjoaaGreatDoorF18
set_option maxRecDepth 100000
set_option maxHeartbeats 8000000
namespace Go.Proofs.YtmpffakfhcpjoaaGreatDoor
open Go.RowKit Tryz
section
def aC (n k:Nat):List Nat:=(List.range k).map fun j=>n-1-j
theorem Zdx (n k:Nat):aC n (k+1)=aC n k ++ [n-1-k]:=by simp[aC,mP]
theorem Zke (n k:Nat):(aC n k).length=k:=by simp[aC]
def KpS (Bs b:Nat) (A B:World):Prop:=B.heap[Bs]? = A.heap[Bs]? ∧ B.heap[b]? = A.heap[b]?
theorem KpS.refl (a b:Nat)(A:World):KpS a b A A:=⟨rfl,rfl⟩
theorem KpS.trans {a b:Nat}{A B C:World}(h:KpS a b A B)(k:KpS a b B C):KpS a b A C:=⟨k.1.trans h.1,k.2.trans h.2⟩
theorem KpS.cell1 {a b:Nat}{A B:World}(h:KpS a b A B)(j:Nat):B.cell? ⟨a,j,none⟩=A.cell? ⟨a,j,none⟩:=World.cell?_of_block h.1
theorem KpS.cell2 {a b:Nat}{A B:World}(h:KpS a b A B)(j:Nat):B.cell? ⟨b,j,none⟩=A.cell? ⟨b,j,none⟩:=World.cell?_of_block h.2
attribute [local go_sem] Oper.semAt_some
theorem Zlt (n l h b cap:Nat)(xs:qN)(K:1≤n)(u:xs.length≤4294967296)(J w:List Nat→World→Prop)(E:∀ pre x W,J pre W→pre.length<xs.length→YieldAt Fence.wide (n-1) prog l #[.int .i64 ((x:Nat):Int),.int .u64 ((xs[x]?.getD 0:Nat):Int)] W fun e W' =>
 (e=.returned (.bool true)∧J (pre ++ [x]) W'∧KpS h b W W')∨(e=.returned (.bool false)∧w (pre ++ [x]) W'))(W:World)(o:W.cell? ⟨h,0,none⟩=some (.slice (some ⟨b,0,none⟩) xs.length cap))(F:∀ j,j<xs.length→W.cell? ⟨b,j,none⟩=some (.int .u64 ((xs[j]?.getD 0:Nat):Int)))(G:J [] W) :
 CallsIn Fence.wide n prog 129 #[.func (.yield l) #[] #[],.pointer (some ⟨h,0,none⟩)] W fun e W'=>(∃ v,e=.returned v) ∧
 ((∃ y,y=aC xs.length xs.length∧J y W')∨(∃ pre,(∃ k,k≤xs.length∧pre=aC xs.length k)∧w pre W')):=by
 refine callsIn_of_wp func129 rfl trivial ?_ rfl
 simp only[ntmps129,oQ,sS,mN,Nat.reduceAdd,Nat.reduceSub,Array.replicate_succ,Array.replicate_zero,List.push_toArray,List.append_toArray,pQ,mG]
 gi_wp2
 gi_loopw [3] (fun i wr=>∃ k:Nat,k≤xs.length∧i=.int .i64 ((xs.length:Int)-1-k)∧J (aC xs.length k) wr∧KpS h b W wr)
  (fun i _=>(intOf i+1).toNat)
 case atStart=>exact⟨0,vS _,qS,G,KpS.refl _ _ _⟩
 case round =>
  obtain⟨k,L,rfl,c,a⟩:=hrel
  have H:=(a.cell1 0).trans o
  by_cases p:k<xs.length
  ·have d:wr.cell? ⟨b,xs.length-1-k,none⟩=some (.int .u64 ((xs[xs.length-1-k]?.getD 0:Nat):Int)):=(a.cell2 _).trans (F _ qO)
   obtain⟨M,z,m,A,B,C⟩:=E _ (xs.length-1-k) wr c (by rw[Zke];exact p)
   obtain⟨j,q⟩:=yE (xs.length-1-k)
   rw[q] at d B C
   have D:(xs.length:Int)-1-(k:Int)=(j:Int):=qO
   rw[D]
   have I:j<xs.length:=qO
   obtain⟨xj,f⟩:=yE (xs[j]?.getD 0)
   rw[f] at d B
   clear f
   have r:=zh q
   clear q D
   gi_wp2
   refine C.mono ?_
   rintro e N (⟨rfl,s,t⟩|⟨rfl,g⟩)
   ·gi_wp2
    go_roundw
    case rel=>exact⟨k+1,qO,by have:=r.out;simp<;>omega,by rw[Zdx,r.out];exact s,a.trans t⟩
    case measure=>simp[intOf]<;>omega
   gi_wp2
   refine bodyPost_ret (results_none rfl _ _ _) rfl ?_
   exact⟨⟨_,rfl⟩,.inr ⟨_,⟨k+1,qO,by rw[Zdx,r.out]⟩,g⟩⟩
  obtain rfl:k=xs.length:=qO
  gi_wp2
  go_end0
  exact⟨⟨_,rfl⟩,.inl ⟨_,rfl,c⟩⟩
theorem ZhT (n a b cap:Nat)(xs:qN)(g:1≤n)(c:xs.length≤4294967296)(w:World)(h:a<w.heap.size)(i:b<w.heap.size)(d:w.cell? ⟨a,0,none⟩=some (.slice (some ⟨b,0,none⟩) xs.length cap))(m:∀ j,j<xs.length→w.cell? ⟨b,j,none⟩=some (.int .u64 ((xs[j]?.getD 0:Nat):Int))) :
 SeqStopsK Fence.wide n prog 129 #[.pointer (some ⟨a,0,none⟩)] (fun x:Nat=>#[Value.int .i64 (x:Int),Value.int .u64 ((xs[x]?.getD 0:Nat):Int)]) (KpS a b)
  (fun o=>o=aC xs.length xs.length) (fun e=>∃ k,k≤xs.length∧e=aC xs.length k) xs.length w:=fun l J q W f _ _ r s =>
 Zlt n l a b cap xs g c J q r W ((f.cell (p:=⟨a,0,none⟩) h).trans d) (fun j t=>(f.cell (p:=⟨b,j,none⟩) i).trans (m j t)) s
theorem Zkf (a:qA)(len cap:Nat)(w:World) :
 Ζ 100 #[.slice a len cap] w fun e w'=>e=.returned (.func (.func 129) #[] #[.pointer (some ⟨w.heap.size,0,none⟩)])∧w'=w.alloc (.cells #[.slice a len cap] 96):=by
 go_enter func100,ntmps100
 go_wp2
 go_ret
 exact⟨rfl,rfl⟩
end
def Zcn (cs:List Nat) (j:Nat):List UInt8:=if j+1<cs.length then List.replicate (19-(Lib.decDigits (cs[j]?.getD 0)).length) 48 ++ Lib.decDigits (cs[j]?.getD 0) else Lib.decDigits (cs[j]?.getD 0)
def wZ (cs:List Nat) (l:List Nat):List UInt8:=l.flatMap (Zcn cs)
theorem Zdz (cs l:qN)(j:Nat):wZ cs (l ++ [j])=wZ cs l ++ Zcn cs j:=by simp[wZ]
theorem ZfA {cs:qN}(a:∀ c∈cs,c<10^19)(d:∃ l c,cs=l ++ [c]∧0<c):∀ k,k≤cs.length→wZ cs (aC cs.length k)=wV (chV (cs.drop (cs.length-k)))
 | 0,_=>by rw[Nat.sub_zero,vF (uF _)];rfl
 | k+1,hk=>by
  have e:=ZfA a d k qO
  rw[Zdx,Zdz,e]
  have h:=Zq0 (cs:=cs) (i:=cs.length-(k+1)) qO rfl a d
  rw[show cs.length-1-k=cs.length-(k+1) by omega,h]
  unfold Zcn
  by_cases b:cs.length-(k+1)+1<cs.length
  ·rw[uM b,uM b,show cs.length-(k+1)+1=cs.length-k by omega]
  have:k=0:=qO
  subst this
  rw[uI b,uI b,Nat.sub_zero,vF (uF _)]
  rfl
theorem Zpl {cs:qN}{n:Nat}(h:ChR n cs 0)(b:0<n):wZ cs (aC cs.length cs.length)=Lib.decDigits n:=by
 have a:cs≠[]:=fun e=>by have:=h.eq;rw[e] at this;simp[chV] at this;omega
 rw[ZfA h.lt (h.top rfl a) _ (uF _),rZ,sI]
 have:=h.eq
 rw[tX,tP] at this
 rw[←this,jQ b]
theorem ZcA:∀ (k u:Nat),u<10^(k+1)→Lib.nDigits u≤k+1
 | 0,u,h=>by rw[Lib.nDigits_small (by simpa using h)];exact uF _
 | k+1,u,h=>by
  by_cases a:u<10
  ·rw[Lib.nDigits_small a];omega
  rw[Lib.nDigits_big a]
  have:=ZcA k (u/10) (by rw[uO] at h;omega)
  omega
theorem Zmm {c:Nat}(h:c<10^19):(Lib.decDigits c).length≤19:=by
 rw[Lib.decDigits_length]
 exact ZcA 18 c h
theorem Zpm {cs:qN}(h:∀ c∈cs,c<10^19)(j:Nat):(Zcn cs j).length≤19:=by
 have b:cs[j]?.getD 0<10^19:=by
  rcases vO j cs.length with a|a
  ·rw[uR a];exact h _ (sF a)
  rw[vU a];decide
 have:=Zmm b
 unfold Zcn
 split
 ·rw[vE,tZ];omega
 exact this
theorem ZiF {cs:qN}(h:∀ c∈cs,c<10^19):∀ l,(wZ cs l).length≤19*l.length
 | []=>by simp[wZ]
 | j :: l=>by
  have a:=ZiF h l
  have b:=Zpm h j
  have e:wZ cs (j :: l)=Zcn cs j ++ wZ cs l:=by simp[wZ]
  rw[e,vE,sS]
  omega
theorem Za9 (B b:Nat)(l:List UInt8)(s:List UInt8)(w:World)(h:Lib.IsBuilderF 161 5 B b (Lib.byteCells l) w)(a:l.length+s.length≤140737488355328)(c:B≤w.heap.size) :
 Ζ 102 #[.pointer (some ⟨b,0,none⟩),.string ⟨s.toArray⟩] w fun e w'=>e=.returned (.tuple #[.int .i64 (s.length:Int),.nilIface])∧(Lib.IsBuilderF 161 5 B b (Lib.byteCells (l ++ s)) w'∧Below B w w'∧Lib.OthersKept 5 (some b) w w'):=by
 have d:(⟨s.toArray⟩:ByteArray).size=s.length:=by rw[←zR,fG]
 refine (Any.Builder_WriteString_k (ρ:=lays105_ren) { lays105 with } Tryz.Builder_Extra_105 B b (Lib.byteCells l) ⟨s.toArray⟩ w h (by rw[Lib.byteCells_length,d];exact a) c).mono ?_
 rintro e w' ⟨rfl,f,i,j⟩
 refine⟨by rw[d],Or.inr ?_,i,j⟩
 rw[Lib.strCells_toArray] at f
 rw[show Lib.byteCells (l ++ s)=Lib.byteCells l ++ Lib.byteCells s by simp[Lib.byteCells]]
 exact f
theorem Zkh (c:Nat)(w:World)(d:c≤19) :
 Ζ 103 #[.string ⟨#[48]⟩,.int .i64 (c:Int)] w fun e w'=>e=.returned (.string ⟨(List.replicate c (48:UInt8)).toArray⟩)∧Ext w w':=by
 rcases vO c 2 with h|h
 ·have:c=0∨c=1:=qO
  rcases this with rfl|rfl
  ·refine (Tryz.strings_Repeat_zero _ w).mono ?_
   rintro e w' ⟨rfl,rfl⟩
   exact⟨rfl,Fr.refl _ _⟩
  refine (Tryz.strings_Repeat_one _ w).mono ?_
  rintro e w' ⟨rfl,rfl⟩
  exact⟨rfl,Fr.refl _ _⟩
 have a:(⟨#[48]⟩:ByteArray).size=1:=rfl
 refine (Tryz.strings_Repeat_main ⟨#[48]⟩ c w h qO (by rw[a];omega) (by rw[a];decide)).mono ?_
 rintro e w' ⟨rfl,b⟩
 refine⟨?_,Fr.ofBelow b⟩
 have:∀ n,Lib.repeatL [(48:UInt8)] n=List.replicate n 48:=by
  intro n;induction n with
  | zero=>rfl
  | succ n ih=>simp[Lib.repeatL,nD] at ih ⊢;first|exact ih | (rw[ih])
 rw[show (⟨#[48]⟩:ByteArray).data.toList=[48] from rfl,this]
theorem Zki {B b:Nat}{T e:TypeId}{c:List Value}{W W':World}{row:Option Nat}(h:Lib.IsBuilderF T e B b c W)(j:W.grownBy W' row)(k:∀ r,row=some r→∃ o:Obj,W.heap[r]? = some o∧o.isCells=false):Lib.IsBuilderF T e B b c W':=by
 have a:∀ p,Lib.BuilderAtF T e B b p c W→Lib.BuilderAtF T e B b p c W':=by
  rintro p ⟨u,v,l,⟨y,d⟩,z⟩
  refine⟨u,v,(grownBy_keeps_cells j k l rfl).trans l,⟨y,?_⟩,z⟩
  rcases d with d|⟨g,f,i,A,C,D,m,E⟩
  ·exact Or.inl d
  exact Or.inr ⟨g,f,i,A,C,D,(grownBy_keeps_cells j k m rfl).trans m,E⟩
 exact h.elim (fun x=>Or.inl (a _ x)) (fun x=>Or.inr (a _ x))
theorem Zlu {B b:Nat}{T e:TypeId}{c:List Value}{W W':World}(h:Lib.IsBuilderF T e B b c W)(r:Ext W W'):Lib.IsBuilderF T e B b c W':=by
 have l:∀ (k:Nat) (o:Obj),W.heap[k]? = some o→W'.heap[k]? = some o:=fun k o m=>by rw[r.block k (oW.1 m).1 (fun f=>f)];exact m
 have a:∀ p,Lib.BuilderAtF T e B b p c W→Lib.BuilderAtF T e B b p c W':=by
  rintro p ⟨u,v,y,⟨z,d⟩,A⟩
  refine⟨u,v,l _ _ y,⟨z,?_⟩,A⟩
  rcases d with d|⟨g,i,j,C,D,E,F,G⟩
  ·exact Or.inl d
  exact Or.inr ⟨g,i,j,C,D,E,l _ _ F,G⟩
 exact h.elim (fun x=>Or.inl (a _ x)) (fun x=>Or.inr (a _ x))
theorem Zi3 {B b:Nat}{T e:TypeId}{d:List Value}{W:World}(h:Lib.IsBuilderF T e B b d W):∃ c t f,W.heap[b]? = some (.cells c t f):=by
 rcases h with ⟨_,v,a,_⟩|⟨_,v,a,_⟩<;>exact⟨_,_,_,a⟩
theorem ZfB {B n:Nat}{w W W':World}{row:Option Nat}(h:Below B w W)(d:B≤w.heap.size)(a:W.grownBy W' row)(b:∀ r,row=some r→n≤r)(f:B≤n):Below B w W':=by
 refine⟨a.os.trans h.os,a.tape.trans h.tape,a.output.trans h.output,uA h.size a.size,fun k c=>?_⟩
 rw[a.block k (by have:=h.size;omega) (fun e=>by have:=b k e.symm;omega)]
 exact h.block k c
theorem ZsW {e:TypeId}{b:Nat}{w w':World}(h:Lib.OthersKept e (some b) w w')(d:w.heap.size≤w'.heap.size)(f:∃ c t fz,w.heap[b]? = some (.cells c t fz)):KeepsOthers w w':=by
 refine⟨d,fun k o a ho=>h k o a ?_ ?_⟩
 ·intro e
  injection e with e
  obtain⟨c,t,fz,i⟩:=f
  rw[e,i] at a
  injection a with a
  rw[←a] at ho
  cases ho
 rintro c fz rfl
 cases ho
theorem Fr.others {w w':World}(h:Ext w w'):KeepsOthers w w':=⟨h.size,fun k o a _=>by rw[h.block k (oW.1 a).1 (fun f=>f)];exact a⟩
theorem Zco {e:TypeId}{b k:Nat}{o:Obj}{w w':World}(h:Lib.OthersKept e (some b) w w')(a:w.heap[k]? = some o)(d:k≠b)(f:∀ c fz,o≠.cells c e fz):w'.heap[k]? = some o :=
 h k o a (fun e=>by injection e with e;exact d e) f
structure DcJ (w:World) (q g c2:Nat) (cs:List Nat) (t:List UInt8) (W:World):Prop where
 below:Below w.heap.size w W
 size:q+2≤W.heap.size
 bd:Lib.IsBuilderF 161 5 w.heap.size q (Lib.byteCells t) W
 box:Blk 96 W w.heap.size #[.slice (some ⟨g,0,none⟩) cs.length c2]
 bs:Blk 96 W (q+1) #[.slice (some ⟨g,0,none⟩) cs.length c2]
 row:Own .u64 84 W g cs
section
variable {w W W':World} {q g c2 n:Nat} {cs:List Nat} {t s:List UInt8} {row:Option Nat}
theorem DcJ.kept (h:DcJ w q g c2 cs t W)(a:W.grownBy W' row)(b:∀ r,row=some r→n≤r∧∃ o:Obj,W.heap[r]? = some o∧o.isCells=false)(d:w.heap.size≤n):DcJ w q g c2 cs t W':=by
 obtain⟨tail,f,c⟩:=h.row
 exact⟨ZfB h.below (uF _) a (fun r e=>(b r e).1) d,uA h.size a.size,Zki h.bd a (fun r e=>(b r e).2),(grownBy_keeps_cells a (fun r e=>(b r e).2) h.box rfl).trans h.box,(grownBy_keeps_cells a (fun r e=>(b r e).2) h.bs rfl).trans h.bs,tail,f,(grownBy_keeps_cells a (fun r e=>(b r e).2) c rfl).trans c⟩
theorem DcJ.step (h:DcJ w q g c2 cs t W)(Q:Ext W W'):DcJ w q g c2 cs t W'∧KeepsOthers W W'∧KpS (q+1) g W W':=by
 have a:=h.size
 exact⟨⟨((Fr.ofBelow h.below).trans Q).toBelow,uA a Q.size,Zlu h.bd Q,h.box.ext Q,h.bs.ext Q,h.row.ext Q⟩,Fr.others Q,Q.block _ qO (fun f=>f),Q.block _ h.row.lt (fun f=>f)⟩
theorem DcJ.write (h:DcJ w q g c2 cs t W)(p:w.heap.size<q)(k:g<q)(l:Lib.IsBuilderF 161 5 w.heap.size q (Lib.byteCells (t ++ s)) W')(b:Below w.heap.size W W')(a:Lib.OthersKept 5 (some q) W W') :
 DcJ w q g c2 cs (t ++ s) W'∧KeepsOthers W W'∧KpS (q+1) g W W':=by
 obtain⟨tail,m,d⟩:=h.row
 have o:W'.heap[w.heap.size]? = some _:=Zco a h.box qO (fun c f e=>by injection e with _ e;cases e)
 have i:W'.heap[q+1]? = some _:=Zco a h.bs qO (fun c f e=>by injection e with _ e;cases e)
 have j:W'.heap[g]? = some _:=Zco a d qO (fun c f e=>by injection e with _ e;cases e)
 exact⟨⟨h.below.trans b,uA h.size b.size,l,o,i,tail,m,j⟩,ZsW a b.size (Zi3 h.bd),i.trans h.bs.symm,j.trans d.symm⟩
end
section
theorem Zfi {P:Program}{g:Array Oper}{o:Oper}{a:Act}{w:World}{K:Act→World→Prop}{Q:Exit→Act→World→Prop}{E:Prop}(l:o.guard=none)(s x:Operand)(t:TypeId)(p:o.op=Op.call { callee:=Callee.builtin Builtin.append,args:=#[s,x],argTypes:=#[t,t] })(e:TypeId)(k:IntKind)(bytes:Nat)(q:P.underlying t=some (.slice e))(f:(P.info? e).map (fun i=>(i.zero,i.size,i.bytes))=some (some (.int k 0),1,bytes))(A X:qA)(n m cap c:Nat)(r:a.eval s=.slice A n cap)(u:a.eval x=.slice X m c)(xs news:qN)(v:xs.length=n)(y:news.length=m)(z:Buf k e w A cap xs)(B:zI k w X news)(j:n+m≤maxLen)(d:(n+m)*bytes≤140737488355328)(C:∀ A' cap' w',Buf k e w' A' cap' (xs ++ news)→Fr (xQ A) w w'→(∀ b,xQ A' b→xQ A b∨b=w.heap.size)→K (a.put o.dst (.slice A' (n+m) cap')) w') :
 if Region.wanted o (yielded g a.tmps)=true then Oper.wp P o a w K Q else E:=by
 have D:Region.wanted o (yielded g a.tmps)=true:=by simp[Region.wanted,l]
 rw[uM D]
 obtain⟨A',cap',w',h,F,G,H⟩:=ZbD (P:=P) w t o.type e k bytes q f A X n m cap c xs news v y z B j d
 unfold Oper.wp execOp
 simp only[p,resolve,invoke,builtin,Sem.run_bind,Sem.run_pure,Result.andThen_ok,List.map_toArray,oO,nB,r,u,h]
 exact C _ _ _ F G H
theorem ChR.bound {n r:Nat}{cs:qN}(h:ChR n cs r)(a:0<r):cs.length<blen n:=by
 refine iZ.2 ?_
 have b:2^cs.length≤(10^19)^cs.length:=rG qD _
 have c:(10^19)^cs.length*1≤(10^19)^cs.length*r:=uK _ a
 have:=h.eq
 omega
structure DcI (w wr:World) (b bx n:Nat) (rs cs:List Nat) (A:Option Addr) (c:Nat):Prop where
 ext:Ext w wr
 own:Own .u64 84 wr b rs
 dig:Dig W64 rs
 trim:Trim rs
 ch:ChR n cs (val W64 rs)
 box:Blk 96 wr bx #[.slice A cs.length c]
 buf:Buf .u64 84 wr A c cs
 news:∀ i,xQ A i→w.heap.size≤i∧i≠b∧i≠bx
theorem Zkj (A:qA)(l c:Nat)(w:World)(a:zF w (.slice A l c) 0):Ζ 71 #[.slice A l c] w (ZbS w (Lib.decDigits 0)):=by
 have b:l=0:=a.len0
 subst b
 go_enter func71,ntmps71
 go_wp2
 go_ret
 exact⟨by rw[Lib.decDigits_one qD];rfl,Fr.refl _ _⟩
attribute [local go_sem] Oper.semAt_some
theorem Zlv (A:qA)(xs:qN)(c n:Nat)(w:World)(hg:Glob w)(hn:0<n)(hX:zI .u64 w A xs)(hd:Dig W64 xs)(ht:Trim xs)(hv:val W64 xs=n)(hl:xs.length≤1000000)(h0:0<xs.length) :
 Ζ 71 #[.slice A xs.length c] w (ZbS w (Lib.decDigits n)):=by
 have E1:blen n≤64000000:=by
  have y:=dA n
  have z:=xT hd ht
  rw[hv] at z
  omega
 have HG:=zh hg
 have HX:=zh hX
 have Hd:=zh hd
 have Ht:=zh ht
 have Hv:=zh hv
 clear hg hX hd ht hv
 refine (callsIn_wide (n:=3)).1 ?_
 refine callsIn_of_wp_marks func71 rfl trivial ?_ rfl
 simp only[ntmps71,oQ,sS,mN,Nat.reduceAdd,Nat.reduceSub,Array.replicate_succ,Array.replicate_zero,List.push_toArray,List.append_toArray,pQ,mG]
 refine wpIn_wide.2 ?_
 go_wp2_with fail
 refine (ZgR A xs c _ (HX.out.ext ((Fr.refl _ _).alloc _)) qO h0).mono ?_
 rintro e w1 ⟨b,Q,rfl,hb,w0,C,hO⟩
 have x0:=zh C
 have HO:=zh hO
 have F1:w.heap.size<b:=by simp at hb;omega
 have d:Hid (DcI w w1 b w.heap.size n xs [] none 0):=⟨((Fr.refl _ _).alloc _).trans x0.out,HO.out,Hd.out,Ht.out,by rw[Hv.out];exact ChR.start n,(Blk.new _ _ _).ext x0.out,Buf.nil,fun i hi=>by obtain⟨a,ha,_⟩:=hi;cases ha⟩
 clear C hO hb
 go_wp2
 go_loopw [4] (fun v4 wr=>∃ (rs cs:List Nat) (A2:Option Addr) (s:Nat),v4=.slice (some ⟨b,0,none⟩) rs.length Q∧rs.length≤Q∧rs.length≤1000000∧Hid (DcI w wr b w.heap.size n rs cs A2 s))
  (fun _ wr=>match wr.cell? ⟨w.heap.size,0,none⟩ with | some (.slice _ m _)=>64000001-m | _=>0)
 case atStart=>exact⟨xs,[],none,0,rfl,w0,hl,d⟩
 case round =>
  obtain⟨rs,cs,A2,s,rfl,G1,H1,d⟩:=hrel
  by_cases Y:0<rs.length
  ·have f0:0<val W64 rs:=aS d.out.trim zK (fun e=>by rw[e] at Y;simp at Y)
   have c1:cs.length<64000000:=by have:=d.out.ch.bound f0;omega
   have Z:wr.cell? ⟨w.heap.size,0,none⟩=some (.slice A2 cs.length s):=d.out.box.cell 0
   have d1:=d.out.box.frozen 0
   obtain⟨r,hr⟩:=yE (val W64 rs%10000000000000000000)
   have Hr:=zh hr
   have e1:=zh f0
   clear hr f0
   go_wp2_with fail
   first | (go_region_law (first
    | (
     refine Zfi rfl (.tmp 19) (.tmp 22) 96 rfl 84 .u64 8 underlying96 dR A2 (some ⟨w2.heap.size,0,none⟩) cs.length 1 s 1 rfl rfl cs [r] rfl rfl HBuf.out HSh.out (by simp only[maxLen];omega) qO ?_
     intro A3 c3 w3 y0 g0 z0
     have R:=HBox.out.fr g0 (fun h=>(d.out.news _ h).2.2 rfl)
     have f1:=zh R
     have I1:=R.cell 0
     have J1:=R.frozen 0
     have g1:=zh y0
     have A0:=zh g0
     have i1:=zh z0
     clear R y0 g0 z0)
    | (
     go_simp
     go_at_call 99
     refine (Zcf b Q rs 10000000000000000000 _ d.out.own.drew qO d.out.dig qD (by rw[zN];decide)).mono ?_
     rintro e w2 ⟨qs,rfl,hq,T,E⟩
     rw[Hr.out]
     have k:=d.out.box.fr (Fr.undrew T) (fun e=>qO)
     have K1:=k.cell 0
     have B1:=(k.alloc (.cells #[.int .u64 (r:Int)] 84)).cell 0
     have HBox:=zh (k.alloc (.cells #[.int .u64 (r:Int)] 84))
     have HBuf:=zh ((d.out.buf.fr (Fr.undrew T) (fun i hi e=>(d.out.news i hi).2.1 e)).ext ((Fr.refl _ w2).alloc (.cells #[.int .u64 (r:Int)] 84)))
     have HSh:Hid (zI .u64 (w2.alloc (.cells #[.int .u64 (r:Int)] 84)) (some ⟨w2.heap.size,0,none⟩) [r]):=(Own.new w2 84 .u64 [r] []).shows0
     have B0:=zh E
     have C0:=zh T
     have Hq:=zh hq
     clear k E T hq)))|skip
   all_goals
    have D0:=((B0.out.alloc (.cells #[.int .u64 (r:Int)] 84)).fr A0.out (fun h=>(d.out.news _ h).2.1 rfl)).far (p:=⟨w.heap.size,0,none⟩) (by show b≠w.heap.size;omega) (.slice A3 (cs.length+1) c3)
    have E0:Ext w (w3.setCell ⟨w.heap.size,0,none⟩ (.slice A3 (cs.length+1) c3)) :=
     (((d.out.ext.next (Fr.undrew C0.out) (fun i hi e=>qO)).alloc (.cells #[.int .u64 (r:Int)] 84)).next A0.out (fun i hi h=>by have:=(d.out.news i h).1;omega)).setCell (p:=⟨w.heap.size,0,none⟩) (Or.inr (uF _)) _
    have i0:∀ i,xQ A3 i→w.heap.size≤i∧i≠b∧i≠w.heap.size:=fun i hi=>by
     rcases i1.out i hi with h|h
     ·exact d.out.news i h
     have y:=d.out.ext.size
     have z:wr.heap.size≤w2.heap.size:=C0.out.size
     have P:=d.out.own.lt
     have h4:=B0.out.lt
     have h5:=d.out.box.lt
     rw[World.size_alloc] at h
     omega
    have F:=g1.out.fr (S:=fun i=>i=w.heap.size) ((show Fr (fun i=>i=w.heap.size) w3 w3 from Fr.refl _ _).setCell (p:=⟨w.heap.size,0,none⟩) (Or.inl rfl) (.slice A3 (cs.length+1) c3)) (fun i hi e=>(i0 i hi).2.2 e)
    have a0:Blk 96 (w3.setCell ⟨w.heap.size,0,none⟩ (.slice A3 (cs.length+1) c3)) w.heap.size #[.slice A3 (cs.length+1) c3]:=f1.out.set_ 0 _
    have F0:=zh D0
    have j1:=zh E0
    have k1:=zh i0
    have j0:=zh F
    have G0:=zh a0
    have H0:=zh Z
    have L1:rs.length=qs.length:=Hq.out.1.symm
    clear D0 E0 i0 F a0 Z d1
    go_wp2_with fail
    refine (Zev _ qs Q _ F0.out.shows0 qO qO).mono ?_
    rintro e w5 ⟨rfl,G⟩
    have H:=G0.out.ext G
    have b0:=H.cell 0
    have I0:=zh b0
    have k0:=d.out.ch.step e1.out
    rw[show (10:Nat)^19=10000000000000000000 from rfl,Hr.out] at k0
    have l1:Hid (DcI w w5 b w.heap.size n (wL qs) (cs ++ [r]) A3 c3) :=
     ⟨j1.out.trans G,(F0.out.take _).ext G,iM Hq.out.2.1,iQ qs,by rw[lG,Hq.out.2.2];exact k0,by rw[vE,rV];exact H,j0.out.ext G,k1.out⟩
    have l0:=zh (wQ qs)
    have J0:=zh (gN qs qs.length)
    clear G H b0 k0
    go_wp2
    go_roundw
    case rel=>exact⟨wL qs,cs ++ [r],A3,c3,by rw[l0.out],by have:=J0.out;rw[l0.out];omega,by have:=J0.out;rw[l0.out];omega,l1⟩
    case measure=>rw[I0.out,H0.out];simp only[List.getElem?_toArray];first|omega | (simp;omega)
  obtain rfl:rs=[]:=pD qO
  have t:=d.out.ch
  rw[dW] at t
  have m0:cs≠[]:=fun e=>by have:=t.eq;rw[e] at this;simp[chV] at this;omega
  have M1:=rQ.2 m0
  have c1:cs.length≤64000000:=by
   have y:2^(cs.length-1)≤n:=by
    have h:=t.eq
    obtain⟨l,c0,rfl,m1⟩:=t.top rfl m0
    rw[Zdy] at h
    have z:(10^19)^l.length*1≤(10^19)^l.length*c0:=uK _ m1
    have P:2^l.length≤(10^19)^l.length:=rG qD _
    rw[vE,rV,tK]
    omega
   have:=iZ.2 y
   omega
  have n0:=zh (Zpl t hn)
  have K0:=zh t.lt
  obtain⟨g,rfl,o0,n1,_,_⟩:=d.out.buf.open_ m0
  have o1:=zh o0
  have U:=d.out.box
  have N1:=d.out.news g ⟨_,rfl,rfl⟩
  have p1:=zh U
  have HE:=zh d.out.ext
  have O1:=U.cell 0
  have v:w.heap.size<wr.heap.size:=U.lt
  have I:=o0.lt
  clear t o0 n1 U d
  go_wp2_with fail
  refine (Zkf (some ⟨g,0,none⟩) cs.length s _).mono ?_
  rintro e wS ⟨rfl,rfl⟩
  go_wp2_with fail
  have P1:Below w.heap.size w wr:=HE.out.toBelow
  have k:Blk 96 ((wr.alloc (.cells #[.pointer none,Ξ] 161)).alloc (.cells #[.slice (some ⟨g,0,none⟩) cs.length s] 96)) w.heap.size #[.slice (some ⟨g,0,none⟩) cs.length s]:=(p1.out.alloc _).alloc _
  have q1:Blk 161 ((wr.alloc (.cells #[.pointer none,Ξ] 161)).alloc (.cells #[.slice (some ⟨g,0,none⟩) cs.length s] 96)) wr.heap.size #[.pointer none,Ξ]:=(Blk.new wr _ _).alloc _
  have L0:Blk 96 ((wr.alloc (.cells #[.pointer none,Ξ] 161)).alloc (.cells #[.slice (some ⟨g,0,none⟩) cs.length s] 96)) (wr.heap.size+1) #[.slice (some ⟨g,0,none⟩) cs.length s]:=by
   have:=Blk.new (wr.alloc (.cells #[.pointer none,Ξ] 161)) 96 #[.slice (some ⟨g,0,none⟩) cs.length s]
   rwa [World.size_alloc] at this
  have d0:Own .u64 84 ((wr.alloc (.cells #[.pointer none,Ξ] 161)).alloc (.cells #[.slice (some ⟨g,0,none⟩) cs.length s] 96)) g cs:=(o1.out.alloc _).alloc _
  have r1:Below w.heap.size w ((wr.alloc (.cells #[.pointer none,Ξ] 161)).alloc (.cells #[.slice (some ⟨g,0,none⟩) cs.length s] 96)):=((HE.out.alloc _).alloc _).toBelow
  have Q1:((wr.alloc (.cells #[.pointer none,Ξ] 161)).alloc (.cells #[.slice (some ⟨g,0,none⟩) cs.length s] 96)).heap.size=wr.heap.size+2:=by rw[World.size_alloc,World.size_alloc]
  generalize ((wr.alloc (.cells #[.pointer none,Ξ] 161)).alloc (.cells #[.slice (some ⟨g,0,none⟩) cs.length s] 96))=wS at *
  refine (wpIn_wide (n:=3)).1 ?_
  refine wpIn_rangeFunc_ownF (n:=3) rfl qD (gf:=129) (lb:=#[.pointer (some ⟨wr.heap.size+1,0,none⟩)]) rfl trivial (enters_of func129 qK rfl)
   (ZhT 2 (wr.heap.size+1) g s cs qD qO wS qO qO (L0.cell 0) (fun j hj=>d0.cell hj)) KpS.trans (fun W q o o' hq _ _ _=>⟨World.putObj_heap_other qO,World.putObj_heap_other qO⟩) (Below.refl _ _) (fun _=>rfl)
   (fun f W=>DcJ w wr.heap.size g s cs (wZ cs f) W) (fun _ _ _=>False)
   (fun f A B row h hg hr=>h.kept hg hr qO) (fun _ _ _ _ _ h _ _=>h)
   ⟨r1,qO,Or.inl ⟨qO,Ξ,q1,⟨rfl,Or.inl ⟨rfl,rfl⟩⟩,by simp[Value.ownBlock]⟩,k,L0,d0⟩ ?a1 ?assign ?body ?done ?stop
  case assign =>
   intro l x W K hK
   gi_wp2
   exact hK
  case stop =>
   rintro D c f W _ _ h _
   exact h.elim
  case body =>
   rintro l f x W J C1
   obtain⟨u,hu⟩:=yE (cs[x]?.getD 0)
   have L:u<10^19:=by
    rw[←hu]
    rcases vO x cs.length with hj|hj
    ·rw[uR hj];exact K0.out _ (sF hj)
    rw[vU hj];decide
   rw[hu]
   have s1:=Zmm L
   have M0:=ZhS u W (HG.out.ext (Fr.ofBelow J.below)) (by rw[zN];exact rY L qD)
   have R1:=ZiF K0.out f
   have N0:=J.below.size
   have HU:=zh hu
   have t1:=zh M0
   have HJ:=zh J
   have u1:=J.box.cell 0
   clear hu L M0 J
   obtain⟨D,hD⟩:=yE (Lib.decDigits u)
   rw[hD] at s1
   gi_wp2_with fail
   refine⟨trivial,((callsIn_wide.2 t1.out).inRound l).mono ?_⟩
   rintro e W1 ⟨rfl,C⟩
   rw[hD]
   have HD:=zh hD
   obtain⟨p0,O0,P0⟩:=HJ.out.step C
   have D1:=p0.box.cell 0
   have V:=zh p0
   have Q0:=zh O0
   have R0:=zh P0
   clear p0 O0 P0 C hD u1
   by_cases hx:x+1<cs.length
   ·gi_wp2_with fail
    rw[show (19:Int)-(D.length:Int)=((19-D.length:Nat):Int) by omega]
    refine⟨trivial,((callsIn_wide.2 (Zkh (19-D.length) W1 qO)).inRound l).mono ?_⟩
    rintro e W2 ⟨rfl,S0⟩
    obtain⟨T0,X,U0⟩:=V.out.step S0
    have q0:=zh T0
    have v1:=zh (Q0.out.trans X)
    have x1:=zh (R0.out.trans U0)
    clear T0 X U0 S0
    gi_wp2_with fail
    refine⟨trivial,((callsIn_wide.2 (Za9 w.heap.size wr.heap.size (wZ cs f) (List.replicate (19-D.length) 48) W2 q0.out.bd (by rw[tZ];omega) q0.out.below.size)).inRound l).mono ?_⟩
    rintro e W3 ⟨rfl,y,z,P⟩
    obtain⟨V0,W0,X0⟩:=q0.out.write v I y z P
    have r0:=zh V0
    have y1:=zh (v1.out.trans W0)
    have z1:=zh (x1.out.trans X0)
    clear V0 W0 X0 y z P
    gi_wp2_with fail
    refine⟨trivial,((callsIn_wide.2 (Za9 w.heap.size wr.heap.size (wZ cs f ++ List.replicate (19-D.length) 48) D W3 r0.out.bd (by rw[vE,tZ];omega) r0.out.below.size)).inRound l).mono ?_⟩
    rintro e W4 ⟨rfl,y,z,P⟩
    obtain⟨M,N,O⟩:=r0.out.write v I y z P
    have s0:=zh M
    have t0:=zh (y1.out.trans N)
    have u0:=zh (z1.out.trans O)
    clear M N O y z P
    gi_wp2
    refine⟨t0.out,u0.out,?_⟩
    show DcJ w wr.heap.size g s cs (wZ cs (f ++ [x])) W4
    rw[Zdz,Zcn,uM hx,HU.out,HD.out,← tD]
    exact s0.out
   gi_wp2_with fail
   refine⟨trivial,((callsIn_wide.2 (Za9 w.heap.size wr.heap.size (wZ cs f) D W1 V.out.bd qO V.out.below.size)).inRound l).mono ?_⟩
   rintro e W4 ⟨rfl,y,z,P⟩
   obtain⟨M,N,O⟩:=V.out.write v I y z P
   have s0:=zh M
   have t0:=zh (Q0.out.trans N)
   have u0:=zh (R0.out.trans O)
   clear M N O y z P
   gi_wp2
   refine⟨t0.out,u0.out,?_⟩
   show DcJ w wr.heap.size g s cs (wZ cs (f ++ [x])) W4
   rw[Zdz,Zcn,uI hx,HU.out,HD.out]
   exact s0.out
  case done =>
   rintro D ys W hD rfl J hK
   have v0:=J.bd
   rw[n0.out] at v0
   have Y0:=Tryz.Builder_String_any_k w.heap.size wr.heap.size (Lib.decDigits n) W v0 J.below.size
   have N0:=J.below.size
   have A1:=zh Y0
   have HJ:=zh J
   clear v0 Y0 J
   go_wp2_with fail
   refine A1.out.mono ?_
   rintro e W2 ⟨rfl,_,Z0,E⟩
   have X:W2.heap[D]? = some (.deferred (some [])):=Zco E hK qO (fun c fz e=>by cases e)
   have e0:=ZfB (HJ.out.below.trans Z0) (uF _) (grownBy_putObj' W2 D (.deferred none)) (n:=wS.heap.size) (fun r e=>by cases e;exact hD) qO
   have b1:=zh e0
   clear e0 Z0 E
   go_wp2
   refine⟨qS,.inl ⟨_,_,rfl,run_takeDeferred X,?_⟩⟩
   exact⟨_,results_tmp rfl _ _ _,rfl,Fr.ofBelow b1.out⟩
theorem Zaf (A:qA)(l c n:Nat)(w:World)(j:Glob w)(b:zF w (.slice A l c) n)(d:wl n≤1000000):Ζ 71 #[.slice A l c] w (ZbS w (Lib.decDigits n)):=by
 rcases uJ n with rfl|k
 ·exact Zkj A l c w b
 obtain⟨o,f,p,e,q,m,g,i,a⟩:=b
 injection e with e1 e2 e3
 subst e1 e2 e3
 rw[←a,← xT g i] at d
 refine Zlv A f c n w j k m g i a d ?_
 rcases uJ f.length with h|h
 ·rw[pD h] at a;simp at a;omega
 exact h
end
def ldR (l:List UInt8) (x:Int):FR:=if fvB l x=true then ⟨(zZ l).1,zG (zZ l).2,x,0⟩ else ⟨false,0,0,0⟩
def shLd (v:Bool) (r:FR) (x:ShN):Value:=.tuple #[yV r.s x.1 x.2.1 x.2.2 r.e,.bool v]
def Zg5 (w:World) (v:Bool) (r:FR) (e:Ending) (w':World):Prop:=∃ x:ShN,e=.returned (shLd v r x)∧zF w' (xI x) r.m∧Ext w w'
theorem ZhU {w w':World}{e:Ending}{v:Bool}{r:FR}(h:Zg5 w v r e w'):lD (shLd v r) (fun x w=>zF w (xI x) r.m) w e w':=by
 obtain⟨x,rfl,a,Q⟩:=h
 exact⟨x,rfl,Q,boxn Q (fun S b c d=>a.nrb c d)⟩
def frT (r:FR):List UInt8:=if r.err=0 then Lib.itoa (sg r.s r.m) else []
def frE (r:FR):Int:=if r.err=0 then r.e else 0
abbrev ZrV (w:World) (r:FR):Ending→World→Prop:=RetV w (.tuple #[yS ⟨(frT r).toArray⟩ (frE r),.int .i64 r.err])
def Fine (r:FR):Prop:=(r.s=true→0<r.m)∧wl r.m≤1000000
theorem ZfV (k:Int):Fine ⟨false,0,0,k⟩:=⟨(fun h=>by cases h),(by show (0:Nat)≤1000000;decide)⟩
theorem Zpn {s:Bool}{n:Nat}{e:Int}(h:wl n≤1000000):Fine (xU s n e):=by
 unfold xU
 split
 ·exact ZfV 0
 rename_i a
 split
 ·obtain⟨b,c⟩:=kM (show 0<n by omega)
  exact⟨fun _=>by show 0<oddM n;omega,uA (lC (vJ _ _)) h⟩
 exact ZfV 2
theorem Zpo {s:Bool}{n d bits:Nat}{e:Int}(a:0<d)(b:0<bits)(c:bits≤4096):Fine (wX s n d e bits):=by
 unfold wX
 split
 ·exact ZfV 0
 refine Zpn ?_
 have f:=Za1 (n:=n) (d:=d) (bits:=bits) qO a b
 have h:=(Ze5 (fa n (rndK n d bits)) (fb d (rndK n d bits))).2
 have i:fa n (rndK n d bits)/fb d (rndK n d bits)<2^bits:=by
  have:=jX (fq n d (rndK n d bits))
  rw[f] at this
  exact this
 have g:rndM n d bits≤2^bits:=by unfold rndM;omega
 have j:wl (2^bits)≤1000:=ZbO qO
 have:=lC g
 omega
theorem Ze7 (n:Nat):(Lib.decDigits n).length≤20*wl n+1:=by
 rw[Lib.decDigits_length]
 refine ZcA (20*wl n) n ?_
 have b:=ZeW n
 have a:W64^wl n≤(10^20)^wl n:=rG (by rw[zN];decide) _
 rw[←qI] at a
 have c:10^(20*wl n)≤10^(20*wl n+1):=vC qD qO
 omega
theorem ZdB {l:List UInt8}{x:Int}(h:fvB l x=true) : -1048576≤x∧x≤1048576∧(zZ l).2.all zX=true∧((zZ l).1=true→0<zG (zZ l).2):=by
 unfold fvB at h
 by_cases a:l=[48]
 ·rw[uM a] at h
  have:=uC h
  subst a
  exact⟨qO,qO,qD,fun h=>by cases h⟩
 rw[uI a] at h
 obtain⟨_,_,b,c,d⟩:=uC h
 exact⟨b.1,b.2,c,fun _=>qO⟩
theorem ZdC (l:List UInt8):(zZ l).2.length≤l.length:=by
 unfold zZ;split
 ·simp
 exact uF _
theorem ZrW {l:List UInt8}{x:Int}(c:l.length≤100000):wl (ldR l x).m≤100000:=by
 unfold ldR
 split
 ·rename_i h
  have a:=ZdB h
  have b:=kT _ a.2.2.1
  have d:=ZdC l
  exact ZbK b qO
 show (0:Nat)≤100000;decide
theorem ZeI (s:ByteArray)(x:Int)(w:World)(l:(bytes s).length≤100000) :
 Ζ 69 #[yS s x] w (Zg5 w (fvB (bytes s) x) (ldR (bytes s) x)):=by
 refine zU (Φ:=fun w=>True) func69 rfl qK (fun w' t=>trivial) ?_
 refine zC ?_
 by_cases a:fvB (bytes s) x=true
 ·refine zB (xq 3 [Δ 1,Δ 2,yB 3 false] [yF 2 99 false none 0 0 0,yG 1 67 s x] ?_)
  refine yZ (zC (yY (xq 1 [(6,.v (yS s x))] [] ?_)))
  refine xqc 68 [yS s x] 7 (fun _:Unit=>.bool true) _ (fun w R Q=>(Zdw s x _ qO).mono (fun _ _ h=>zO h (by rw[a]))) fun m=>?_
  refine xq 1 [yB 8 false] [] ?_
  refine yZ (xb (zJ (zA (zC (zC ?_)))))
  by_cases b:bytes s=[48]
  ·refine zB (xq 3 [yB 12 ((s:ByteArray).toList == (⟨#[48]⟩:ByteArray).toList)] [] ?_)
   rw[Zma b]
   refine yZ (xa (yY (xq 3 [yB 3 true] [] ?_)))
   refine yZ (zH (zL ?_))
   refine yR (.tuple #[yV false none 0 0 0,.bool true]) fun w' R Q=>?_
   have n:x=0:=by have h:=a;unfold fvB at h;rw[uM b] at h;exact uC h
   have j:ldR (bytes s) x=⟨false,0,0,0⟩:=by unfold ldR;rw[uM a,b,n];rfl
   rw[a,j]
   exact⟨(none,0,0),rfl,zF.zero _,R⟩
  refine zB (xq 3 [yB 12 ((s:ByteArray).toList == (⟨#[48]⟩:ByteArray).toList)] [] ?_)
  rw[Zmb b]
  refine yZ (xb (zJ (zA (yY (xq 2 [yT 16 s] [] ?_)))))
  refine xqc 81 [.string s] 17 Zg4 _ (fun w R Q=>yM ZeG (ZeH s _)) fun⟨r,neg⟩=>?_
  refine xq 5 [yB 4 neg,yT 5 r] [] ?_
  refine yZ (zC ?_)
  refine SXc.know (p:=zZ (bytes s)=(neg,bytes r)) (fun w _ Q=>Q.2) fun k=>?_
  have i:=ZdB a
  rw[k] at i
  have f:(bytes r).all zX=true:=i.2.2.1
  have g:=ZdC (bytes s)
  rw[k] at g
  have o:r.size≤100000:=by rw[←zR];exact uA g l
  have q:wl (zG (bytes r))≤100000:=ZbK (kT _ f) (uA g l)
  refine yO 6 zM ?_
  refine xqg 2 [yB 20 neg,yT 21 r] ?_
  refine xqd 83 [.string r] 22 xI _ (fun w R Q=>yM xG (ZdA r _ (zG (bytes r)) f rfl qO qO)) fun⟨c,d,e⟩=>?_
  refine xqg 3 [(25,.v (yV neg c d e x))] ?_
  refine xz (xq 2 [yB 3 true] [yF 2 99 neg c d e x] ?_)
  refine yZ (zH ?_)
  refine yR (.tuple #[yV neg c d e x,.bool true]) fun w' R Q=>?_
  rw[a,show ldR (bytes s) x=⟨neg,zG (bytes r),x,0⟩ by unfold ldR;rw[uM a,k]]
  exact⟨(c,d,e),rfl,Q.2,R⟩
 refine zB (xq 3 [Δ 1,Δ 2,yB 3 false] [yF 2 99 false none 0 0 0,yG 1 67 s x] ?_)
 refine yZ (zC (yY (xq 1 [(6,.v (yS s x))] [] ?_)))
 refine xqc 68 [yS s x] 7 (fun _:Unit=>.bool false) _ (fun w R Q=>(Zdw s x _ qO).mono (fun _ _ h=>zO h (by rw[rU.2 a]))) fun m=>?_
 refine xq 1 [yB 8 true] [] ?_
 refine yZ (xa (yY (xq 3 [yB 3 false] [] ?_)))
 refine yZ (zH (zL ?_))
 refine yR (.tuple #[yV false none 0 0 0,.bool false]) fun w' R Q=>?_
 rw[rU.2 a,show ldR (bytes s) x=⟨false,0,0,0⟩ from uI a]
 exact⟨(none,0,0),rfl,zF.zero _,R⟩
theorem ZfC (s:Bool)(A:qA)(l c m:Nat)(e:Int)(w:World)(g:Glob w)(i:zF w (.slice A l c) m)(n:wl m≤1000000)(j:s=true→0<m) :
 Ζ 79 #[yV s A l c e] w (RetV w (yS ⟨(Lib.itoa (sg s m)).toArray⟩ e)):=by
 refine zU (Φ:=fun w=>(Glob w∧zF w (.slice A l c) (m))) func79 rfl qK (fun w' f=>⟨g.ext f,i.ext f⟩) ?_
 refine yY (xq 2 [Δ 1,Δ 2] [yG 2 67 ⟨#[]⟩ 0,yF 1 99 s A l c e] ?_)
 refine yZ (yY (xq 2 [eS1 5 A l c] [] ?_))
 refine xqc 71 [.slice A l c] 6 (fun _:Unit=>.string ⟨(Lib.decDigits m).toArray⟩) _ (fun w R Q=>yN (Zaf A l c m _ Q.1 Q.2 qO)) fun o=>?_
 refine xq 1 [yT 3 ⟨(Lib.decDigits m).toArray⟩] [] ?_
 refine yZ (zC (yY (xq 2 [yB 8 s] [] ?_)))
 refine xe (zA ?_)
 refine yQ (s) (fun b=>?_) fun b=>?_
 ·have d:=b
  refine zB (xq 1 [yT 9 ⟨(Lib.decDigits m).toArray⟩] [] ?_)
  refine yK 10 (.string ⟨(45 :: Lib.decDigits m).toArray⟩) (fun w R Q=>Zbe (x:=(Operand.const (Value.string { data:=#[45] }))) (y:=.tmp 9) (t:=9) (k:=9) qK qK qK (by have q:=Ze7 m;rw[←zR ⟨(Lib.decDigits m).toArray⟩,fG];have:(⟨#[45]⟩:ByteArray).size=1:=rfl;omega) (ZcY [45] (Lib.decDigits m))) ?_
  refine xr 1 [Δ 1,Δ 2,yT 3 ⟨(45 :: Lib.decDigits m).toArray⟩] [yG 2 67 ⟨#[]⟩ 0,yF 1 99 s A l c e] ?_
  refine yZ (yY (xq 5 [] [yG 2 67 ⟨(45 :: Lib.decDigits m).toArray⟩ e] ?_))
  refine yZ (zH ?_)
  refine yR (yS ⟨(45 :: Lib.decDigits m).toArray⟩ e) fun w' R Q=>?_
  exact⟨by rw[d,Zbt (neg:=true) (a:=m) (fun h=>by have:=j d;omega)];rfl,R⟩
 have d:=b
 refine zJ (zA (yY (xq 5 [] [yG 2 67 ⟨(Lib.decDigits m).toArray⟩ e] ?_)))
 refine yZ (zH ?_)
 refine yR (yS ⟨(Lib.decDigits m).toArray⟩ e) fun w' R Q=>?_
 exact⟨by rw[d,Zbt (neg:=false) (a:=m) (fun _=>rfl)];rfl,R⟩
theorem Zlw (r:FR)(A:qA)(l c:Nat)(w:World)(h:Glob w)(i:zF w (.slice A l c) r.m)(f:Fine r) :
 Ζ 53 #[yV r.s A l c r.e,.int .i64 r.err] w (ZrV w r):=by
 refine zU (Φ:=fun w=>(Glob w∧zF w (.slice A l c) (r.m))) func53 rfl qK (fun w' g=>⟨h.ext g,i.ext g⟩) ?_
 refine yY (xq 3 [Δ 2,Δ 4,yJ 5 0] [yG 4 67 ⟨#[]⟩ 0,yF 2 99 r.s A l c r.e] ?_)
 refine yZ (zC (yY (xq 2 [yB 7 ((r.err:Int) != 0)] [] ?_)))
 refine xe (zA ?_)
 refine yQ (((r.err:Int) != 0)) (fun a=>?_) fun a=>?_
 ·have b:=Zes a
  refine yY (xq 4 [yJ 5 r.err] [] ?_)
  refine yZ (zH (zL ?_))
  refine yR (.tuple #[yS ⟨#[]⟩ 0, yI r.err]) fun w' R Q=>?_
  exact⟨by rw[show frT r=[] from uI qO,show frE r=0 from uI qO],R⟩
 have b:=Zet a
 refine zJ (zA (yY (xq 1 [(10,.v (yV r.s A l c r.e))] [] ?_)))
 refine xqc 79 [yV r.s A l c r.e] 11 (fun _:Unit=>.agg #[.string ⟨(Lib.itoa (sg r.s r.m)).toArray⟩, yI r.e]) _ (fun w R Q=>yN (ZfC r.s A l c r.m r.e _ Q.1 Q.2 f.2 f.1)) fun j=>?_
 refine xq 2 [yJ 5 0] [yG 4 67 ⟨(Lib.itoa (sg r.s r.m)).toArray⟩ r.e] ?_
 refine yZ (zH ?_)
 refine yR (.tuple #[yS ⟨(Lib.itoa (sg r.s r.m)).toArray⟩ r.e, yI 0]) fun w' R Q=>?_
 have d:r.err=0:=qO
 exact⟨by rw[show frT r=Lib.itoa (sg r.s r.m) from uM d,show frE r=r.e from uM d,d],R⟩
theorem Zpp {l:List UInt8}{v:Rat}(h:wA l=some v):(Lib.itoa v.num).length≤l.length∧(Lib.itoa (v.den:Int)).length≤l.length+1:=by
 have a:=bH h
 rw[←a]
 unfold xC
 split
 ·rename_i b
  rw[b]
  refine⟨uF _,?_⟩
  have:(Lib.itoa ((1:Nat):Int)).length=1:=by rw[gL,dB qO];rfl
  omega
 simp only[vE,sS]
 omega
theorem ZnI {n k:Nat}(h:(Lib.decDigits n).length≤k):wl n≤k:=by
 have a:=kT (Lib.decDigits n) (jO n)
 rw[gC] at a
 exact ZbK a h
theorem ZsX (z:Int):(Lib.decDigits z.natAbs).length≤(Lib.itoa z).length:=by
 have h:=ZdC (Lib.itoa z)
 rw[bW] at h
 exact h
noncomputable def rndF (v:Rat) (n:Nat):FR:=wX (decide (v.num<0)) v.num.natAbs v.den 0 n
noncomputable def kW (l:List UInt8) (b:Int):FR:=if (wA l).isSome=true then (if 8≤b∧b≤1024 then rndF (valF l) b.toNat else ⟨false,0,0,3⟩) else ⟨false,0,0,1⟩
theorem Zkl (s:ByteArray)(v:Rat)(n:Nat)(w:World)(y:Glob w)(z:(bytes s).length≤570)(u:wA (bytes s)=some v)(A:8≤n)(B:n≤1024) :
 Ζ 54 #[.string s,.int .i64 ((n:Nat):Int)] w (wE w (rndF v n)):=by
 have C:valF (bytes s)=v:=dF u
 have D:=Zpp u
 refine zU (Φ:=fun w=>Glob w) func54 rfl qK (fun w' E=>y.ext E) ?_
 refine yY (xq 2 [Δ 4,yJ 5 0] [yF 4 99 false none 0 0 0] ?_)
 refine yZ (yY (xq 1 [yT 11 s] [] ?_))
 refine xqc 80 [.string s] 12 (fun _:Unit=>.tuple #[.string ⟨(Lib.itoa v.num).toArray⟩,.string ⟨(Lib.itoa (v.den:Int)).toArray⟩]) _ (fun w R Q=>yN ((show Calls _ _ _ _ (RetV w (.tuple #[.string ⟨(Lib.itoa v.num).toArray⟩,.string ⟨(Lib.itoa (v.den:Int)).toArray⟩])) by rw[←C];exact ZnG s _ Q z))) fun J=>?_
 refine xq 5 [yT 6 ⟨(Lib.itoa v.num).toArray⟩,yT 7 ⟨(Lib.itoa (v.den:Int)).toArray⟩] [] ?_
 refine yZ (yY (xq 1 [yT 16 ⟨(Lib.itoa v.num).toArray⟩] [] ?_))
 refine xqc 81 [.string ⟨(Lib.itoa v.num).toArray⟩] 17 Zg4 _ (fun w R Q=>yM ZeG (ZeH ⟨(Lib.itoa v.num).toArray⟩ _)) fun⟨r,neg⟩=>?_
 refine xq 5 [yB 8 neg,yT 9 r] [] ?_
 refine yZ (zC ?_)
 refine SXc.know (p:=zZ (bytes ⟨(Lib.itoa v.num).toArray⟩)=(neg,bytes r)) (fun w _ Q=>Q.2) fun x=>?_
 rw[fG,bW] at x
 injection x with hneg hr
 have i:(bytes r).length≤570:=by rw[←hr];have:=ZsX v.num;omega
 have F:r.size≤570:=by rw[←zR];exact i
 have b:(bytes r).all zX=true:=by rw[←hr];exact jO _
 have c:zG (bytes r)=v.num.natAbs:=by rw[←hr];exact gC _
 have G:wl v.num.natAbs≤1000:=by rw[←c];exact ZbK (kT _ b) qO
 have H:wl v.den≤1000:=ZnI (by have:=D.2;rw[gL] at this;omega)
 have j:(bytes ⟨(Lib.itoa (v.den:Int)).toArray⟩).length≤571:=by rw[fG];omega
 have I:(⟨(Lib.itoa (v.den:Int)).toArray⟩:ByteArray).size≤571:=by rw[←zR];exact j
 refine zB (xq 2 [yB 20 neg,yT 21 r] [] ?_)
 refine xqc 83 [.string r] 22 xI _ (fun w R Q=>yM xG (ZdA r _ v.num.natAbs b c qO qO)) fun⟨k,l,m⟩=>?_
 refine xq 1 [yT 23 ⟨(Lib.itoa (v.den:Int)).toArray⟩] [] ?_
 refine xqc 83 [.string ⟨(Lib.itoa (v.den:Int)).toArray⟩] 24 xI _ (fun w R Q=>yM xG (ZdA _ _ v.den (by rw[fG,gL];exact jO _) (by rw[fG,gL];exact gC _) qO qO)) fun⟨o,q,t⟩=>?_
 refine xq 1 [yJ 25 n] [] ?_
 obtain⟨a,d⟩:=yE (wX neg v.num.natAbs v.den 0 n)
 refine xqc 82 [.bool neg,.slice k l m,.slice o q t, yI 0, yI n] 26 (shNb a) _ (fun w R Q=>yM wG ((show Calls _ _ _ _ (wE w a) by rw[←d];exact Zey neg _ _ _ _ _ _ _ _ 0 n _ Q.1.1.1.1 Q.1.2 Q.2 qO qO v.den_pos qO qO qO qO))) fun⟨f,g,h⟩=>?_
 refine xq 4 [yJ 5 a.err] [yF 4 99 a.s f g h a.e] ?_
 refine yZ (zH ?_)
 refine yR (.tuple #[yV a.s f g h a.e, yI a.err]) fun w' R Q=>?_
 rw[show rndF v n=wX neg v.num.natAbs v.den 0 n by unfold rndF;rw[hneg],d]
 exact⟨(f,g,h),rfl,Q.2,R⟩
theorem ZnJ (s:ByteArray)(b:Int)(w:World)(o:Glob w)(m:(bytes s).length≤570) :
 Ζ 30 #[.string s,.int .i64 b] w (ZrV w (kW (bytes s) b)):=by
 refine zU (Φ:=fun w=>Glob w) func30 rfl qK (fun w' q=>o.ext q) ?_
 refine yY (xq 2 [Δ 4,yJ 5 0] [yG 4 67 ⟨#[]⟩ 0] ?_)
 refine yZ (zC (zC ?_))
 by_cases i:(wA (bytes s)).isSome=true
 ·obtain⟨v,j⟩:=sY.1 i
  refine zB (xq 1 [yT 6 s] [] ?_)
  refine xqc 51 [.string s] 7 (fun _:Unit=>.bool true) _ (fun w R Q=>(aO s _ Q m).mono (fun _ _ h=>zO h (by rw[i]))) fun k=>?_
  refine xq 1 [yB 8 false] [] ?_
  refine yZ (xb (zJ (zA (zC (zC ?_)))))
  by_cases l:8≤b∧b≤1024
  ·obtain⟨n,r⟩:∃ n:Nat,b=n:=⟨b.toNat,qO⟩
   subst r
   refine zB (xq 1 [yJ 10 n] [] ?_)
   refine xqc 52 [yI n] 11 (fun _:Unit=>.bool true) _ (fun w R Q=>(Zfz _ _).mono (fun _ _ h=>zO h (by rw[vQ l]))) fun k=>?_
   refine xq 1 [yB 12 false] [] ?_
   refine yZ (xb (zJ (zA (yY (xq 2 [yT 14 s,yJ 15 n] [] ?_)))))
   obtain⟨a,c⟩:=yE (rndF v n)
   refine xqc 54 [.string s, yI n] 16 (shNb a) _ (fun w R Q=>yM wG ((show Calls _ _ _ _ (wE w a) by rw[←c];exact Zkl s v n _ Q.1.1 m j qO qO))) fun⟨d,f,g⟩=>?_
   refine xq 2 [(17,.v (yV a.s d f g a.e)),yJ 18 a.err] [] ?_
   refine xqc 53 [yV a.s d f g a.e, yI a.err] 19 (fun _:Unit=>.tuple #[yS ⟨(frT a).toArray⟩ (frE a), yI a.err]) _ (fun w R Q=>yN (Zlw a d f g _ Q.1.1.1 Q.2 (by rw[←c];exact Zpo v.den_pos qO qO))) fun k=>?_
   refine xq 4 [yJ 5 a.err] [yG 4 67 ⟨(frT a).toArray⟩ (frE a)] ?_
   refine yZ (zH ?_)
   refine yR (.tuple #[yS ⟨(frT a).toArray⟩ (frE a), yI a.err]) fun w' R Q=>?_
   rw[show kW (bytes s) (n:Int)=rndF v n by unfold kW;rw[uM i,uM l,dF j];rfl,c]
   exact⟨rfl,R⟩
  refine zB (xq 1 [yJ 10 b] [] ?_)
  refine xqc 52 [yI b] 11 (fun _:Unit=>.bool false) _ (fun w R Q=>(Zfz _ _).mono (fun _ _ h=>zO h (by rw[uV l]))) fun k=>?_
  refine xq 1 [yB 12 true] [] ?_
  refine yZ (xa (yY (xq 3 [yJ 5 3] [] ?_)))
  refine yZ (zH (zL ?_))
  refine yR (.tuple #[yS ⟨#[]⟩ 0, yI 3]) fun w' R Q=>?_
  rw[show kW (bytes s) b=⟨false,0,0,3⟩ by unfold kW;rw[uM i,uI l]]
  exact⟨rfl,R⟩
 refine zB (xq 1 [yT 6 s] [] ?_)
 refine xqc 51 [.string s] 7 (fun _:Unit=>.bool false) _ (fun w R Q=>(aO s _ Q m).mono (fun _ _ h=>zO h (by rw[rU.2 i]))) fun k=>?_
 refine xq 1 [yB 8 true] [] ?_
 refine yZ (xa (yY (xq 3 [yJ 5 1] [] ?_)))
 refine yZ (zH (zL ?_))
 refine yR (.tuple #[yS ⟨#[]⟩ 0, yI 1]) fun w' R Q=>?_
 rw[show kW (bytes s) b=⟨false,0,0,1⟩ from uI i]
 exact⟨rfl,R⟩
theorem fv_1 {x:Int}(a : -1048576≤x)(b:x≤1048576):fvB [49] x=true:=by
 unfold fvB
 rw[uI qD]
 exact vQ ⟨qD,qD,⟨a,b⟩,qD,qD⟩
theorem ZiG:ml ((1:Nat))≤65536:=uA (jE.2 (show (1:Nat)<W32^1 by rw[xD];decide)) qD
theorem Zmn (l:List UInt8):(flM l).natAbs=zG (zZ l).2:=by
 unfold flM sg
 split<;>omega
def exT (l:List UInt8) (x:Int):List UInt8:=if fvB l x=true then (if flM l=0 then [48] else if x<0 then l ++ [47] ++ Lib.decDigits (2^(-x).toNat) else Lib.itoa (flM l*2^x.toNat)) else [48]
theorem ZfW {l:List UInt8}{x:Int}(a:fvB l x=true)(h:flM l=0):exT l x=[48]:=by unfold exT;rw[uM a,uM h]
theorem Zq1 {s:ByteArray}{x:Int}{k:Nat}(a:fvB (bytes s) x=true)(h:flM (bytes s)≠0)(b : -x=k)(c:x<0):(⟨(exT (bytes s) x).toArray⟩:ByteArray)=s ++ ⟨#[47]⟩ ++ ⟨(Lib.decDigits (1*2^k)).toArray⟩:=by
 unfold exT
 rw[uM a,uI h,uM c,b,qH]
 apply ZhR
 rw[fG]
 simp[bytes]
theorem Zmo {l:List UInt8}{x:Int}{k:Nat}(b:fvB l x=true)(c:x=k):exT l x=(if zG (zZ l).2=0 then [48] else (if (zZ l).1 then [45] else []) ++ Lib.decDigits (zG (zZ l).2*2^k)):=by
 have d:=Zmn l
 unfold exT
 rw[uM b,uI (show ¬ x<0 by omega),c,rT]
 by_cases a:flM l=0
 ·rw[uM a,uM qO]
 rw[uI a,uI qO]
 have e:flM l*2^k=sg (zZ l).1 (zG (zZ l).2*2^k):=by
  unfold flM sg
  split
  ·rw[tG,vY,mL];rfl
  rw[tG,vY];rfl
 have f:=sK (show 0<zG (zZ l).2 by omega) (p2 k)
 rw[e,Zbt (fun h=>qO)]
theorem ZnK (s:ByteArray)(x:Int)(w:World)(hg:Glob w)(P:(bytes s).length≤100000)(hx:fvB (bytes s) x=true → -1000≤x∧x≤1000) :
 Ζ 35 #[yS s x] w (RetV w (.string ⟨(exT (bytes s) x).toArray⟩)):=by
 refine zU (Φ:=fun w=>Glob w) func35 rfl qK (fun w' hf=>hg.ext hf) ?_
 refine yY (xq 2 [Δ 1,yT 2 ⟨#[]⟩] [yG 1 67 s x] ?_)
 refine yZ (yY (xq 1 [(6,.v (yS s x))] [] ?_))
 by_cases h:fvB (bytes s) x=true
 ·obtain⟨a,f⟩:=yE (ldR (bytes s) x)
  have S:=ZdB h
  have a0:wl a.m≤100000:=by rw[←f];exact ZrW P
  have b0:a.e=x:=by rw[←f,show ldR (bytes s) x=_ from uM h]
  have c0:a.s=true→0<a.m:=by rw[←f,show ldR (bytes s) x=_ from uM h];exact S.2.2.2
  refine xqc 69 [yS s x] 7 (shLd true a) _ (fun w R Q=>yM ZhU ((show Calls _ _ _ _ (Zg5 w true a) by rw[←f,← h];exact ZeI s x _ P))) fun⟨c,b,d⟩=>?_
  refine xq 6 [Δ 3] [yF 3 99 a.s c b d a.e] ?_
  refine yZ (zC (zQ (zC ?_)))
  refine SXc.know (p:=b=wl a.m) (fun w _ Q=>(Q.2).len0) fun T=>?_
  have U:=@lR a.m
  have d0:=hx h
  have q:=f
  rw[show ldR (bytes s) x=⟨(zZ (bytes s)).1,zG (zZ (bytes s)).2,x,0⟩ from uM h] at q
  have e0:=Zmn (bytes s)
  have B:a.m=zG (zZ (bytes s)).2:=by rw[←q]
  have C:a.s=(zZ (bytes s)).1:=by rw[←q]
  by_cases r:a.m=0
  ·refine zB (xq 4 [yB 14 (((b:Int):Int) == 0)] [] ?_)
   rw[(show (((b:Int):Int) == 0)=true from sZ.2 qO)]
   refine xq 1 [yB 10 true] [] ?_
   refine yZ (xa (yY (xq 1 [yT 2 ⟨#[48]⟩] [] ?_)))
   refine yZ (zH (wY (zL ?_)))
   refine yR (.string ⟨#[48]⟩) fun w' R Q=>?_
   exact⟨by rw[ZfW h qO],R⟩
  refine zB (xq 4 [yB 14 (((b:Int):Int) == 0)] [] ?_)
  rw[(show (((b:Int):Int) == 0)=false from qG.2 qO)]
  refine xq 1 [yB 10 false] [] ?_
  refine yZ (xb (yY (xq 4 [yB 15 (decide (a.e<0))] [] ?_)))
  refine xe (zA ?_)
  refine yQ ((decide (a.e<0))) (fun i=>?_) fun i=>?_
  ·have u:=uC i
   refine zC ?_
   obtain⟨k,N⟩:∃ k:Nat,-x=k:=uS qO
   have V:k≤1000:=qO
   have W:wl (1*2^k)≤110000:=by have O:=ZaW 1 (2^k);have h2:wl (2^k)≤100:=ZbO qO;have h3:wl 1≤1:=aU.2 (by rw[zN];decide);omega
   refine iK 11 [0,1,3,0,0,16,48,120,248,511,1023] qK qK zM ?_
   refine xqg 2 [yT 20 s] ?_
   refine Ze2 21 (.string (s ++ ⟨#[47]⟩)) qK qK qK qK qK qK (fun w Q=>Zbe (x:=.tmp 20) (y:=(Operand.const (Value.string { data:=#[47] }))) (t:=9) (k:=9) qK qK qK (by have O:=zR s;have h2:(⟨#[47]⟩:ByteArray).size=1:=rfl;omega) rfl) ?_
   refine xf 0 [yT 2 ⟨#[]⟩,Δ 3,yT 21 (s ++ ⟨#[47]⟩)] [yF 3 99 a.s c b d a.e,yG 1 67 s x] ?_
   refine ZcT 22 (fun X:Nat=>Υ X 1) (fun X zw=>Blk 84 zw X #[yX 1]) qK qK qK qK qK qK qK (fun w R Q=>kJ (t:=97) (e:=84) (n:=1) (sz:=1) (z:=yX 0) (parts:=#[(0,Operand.const (Value.int IntKind.u64 1))]) qK qK qK qK qK qK) fun D=>?_
   refine xf 3 [yT 2 ⟨#[]⟩,Δ 3,yT 21 (s ++ ⟨#[47]⟩),eS1 22 (yL D) 1 1,yJ 25 (IntKind.i64.wrap (0-(a.e)))] [yF 3 99 a.s c b d a.e,yG 1 67 s x] ?_
   rw[yW (0-(a.e)) ((k:Int)) qO]
   refine xqd 70 [Υ D 1, yI k] 26 xI _ (fun w R Q=>yM xG (jZ k (fP Q.2) wl_1 qO)) fun⟨E,F,G⟩=>?_
   refine xqd 71 [.slice E F G] 27 (fun _:Unit=>.string ⟨(Lib.decDigits (1*2^k)).toArray⟩) _ (fun w R Q=>yN (Zaf E F G (1*2^k) _ Q.1.1.1 Q.2 qO)) fun xx=>?_
   refine Ze2 28 (.string (s ++ ⟨#[47]⟩ ++ ⟨(Lib.decDigits (1*2^k)).toArray⟩)) qK qK qK qK qK qK (fun w Q=>Zbe (x:=.tmp 21) (y:=.tmp 27) (t:=9) (k:=9) qK qK qK (by have O:=Ze7 (1*2^k);have h3:=zR s;have h4:(⟨#[47]⟩:ByteArray).size=1:=rfl;rw[ByteArray.size_append,← zR ⟨(Lib.decDigits (1*2^k)).toArray⟩,fG];omega) rfl) ?_
   refine xf 1 [yT 2 (s ++ ⟨#[47]⟩ ++ ⟨(Lib.decDigits (1*2^k)).toArray⟩),Δ 3] [yF 3 99 a.s c b d a.e,yG 1 67 s x] ?_
   refine xz (yZ (zH (wY (zL ?_))))
   refine yR (.string (s ++ ⟨#[47]⟩ ++ ⟨(Lib.decDigits (1*2^k)).toArray⟩)) fun w' R Q=>?_
   exact⟨by rw[Zq1 h qO N qO],R⟩
  have u:=uD i
  refine zC ?_
  obtain⟨k,N⟩:∃ k:Nat,x=k:=uS qO
  have V:k≤1000:=qO
  have W:wl (a.m*2^k)≤110000:=by have O:=ZaW a.m (2^k);have h2:wl (2^k)≤100:=ZbO qO;omega
  rw[show a.e=(k:Int) by omega]
  refine zB (xq 3 [yB 29 a.s] [] ?_)
  refine xe (zA ?_)
  refine yQ (a.s) (fun j=>?_) fun j=>?_
  ·have A:=j
   refine yY (xq 4 [eS1 33 c b d,yJ 35 k] [] ?_)
   refine xqc 70 [.slice c b d, yI k] 36 xI _ (fun w R Q=>yM xG (jZ k Q.2 qO qO)) fun⟨H,I,J⟩=>?_
   refine xqc 71 [.slice H I J] 37 (fun _:Unit=>.string ⟨(Lib.decDigits (a.m*2^k)).toArray⟩) _ (fun w R Q=>yN (Zaf H I J (a.m*2^k) _ Q.1.1 Q.2 qO)) fun xx=>?_
   refine yK 38 (.string ⟨(45 :: Lib.decDigits (a.m*2^k)).toArray⟩) (fun w R Q=>Zbe (x:=(Operand.const (Value.string { data:=#[45] }))) (y:=.tmp 37) (t:=9) (k:=9) qK qK qK (by have O:=Ze7 (a.m*2^k);have h4:(⟨#[45]⟩:ByteArray).size=1:=rfl;rw[←zR ⟨(Lib.decDigits (a.m*2^k)).toArray⟩,fG];omega) (ZcY [45] (Lib.decDigits (a.m*2^k)))) ?_
   refine xr 1 [yT 2 ⟨(45 :: Lib.decDigits (a.m*2^k)).toArray⟩,Δ 3] [yF 3 99 a.s c b d (k:Int)] ?_
   refine yZ (zH (wY (zL ?_)))
   refine yR (.string ⟨(45 :: Lib.decDigits (a.m*2^k)).toArray⟩) fun w' R Q=>?_
   exact⟨by rw[Zmo h N,← B,← C,A,uI r];rfl,R⟩
  have A:=j
  refine zJ (xR (zA (yY (xq 4 [eS1 40 c b d,yJ 42 k] [] ?_))))
  refine xqc 70 [.slice c b d, yI k] 43 xI _ (fun w R Q=>yM xG (jZ k Q.2 qO qO)) fun⟨K,L,M⟩=>?_
  refine xqc 71 [.slice K L M] 44 (fun _:Unit=>.string ⟨(Lib.decDigits (a.m*2^k)).toArray⟩) _ (fun w R Q=>yN (Zaf K L M (a.m*2^k) _ Q.1.1 Q.2 qO)) fun xx=>?_
  refine xq 1 [yT 2 ⟨(Lib.decDigits (a.m*2^k)).toArray⟩] [] ?_
  refine yZ (zH ?_)
  refine yR (.string ⟨(Lib.decDigits (a.m*2^k)).toArray⟩) fun w' R Q=>?_
  exact⟨by rw[Zmo h N,← B,← C,A,uI r];rfl,R⟩
 obtain⟨g,o⟩:=yE (ldR (bytes s) x)
 refine xqc 69 [yS s x] 7 (shLd false g) _ (fun w R Q=>yM ZhU ((show Calls _ _ _ _ (Zg5 w false g) by rw[←o,← rU.2 h];exact ZeI s x _ P))) fun⟨Y,l,Z⟩=>?_
 refine xq 6 [Δ 3] [yF 3 99 g.s Y l Z g.e] ?_
 refine yZ (zC (zQ (zC ?_)))
 refine SXc.know (p:=l=wl g.m) (fun w _ Q=>(Q.2).len0) fun T=>?_
 have U:=@lR g.m
 have r:g.m=0:=by rw[←o,show ldR (bytes s) x=⟨false,0,0,0⟩ from uI h]
 refine zB (xq 4 [yB 14 (((l:Int):Int) == 0)] [] ?_)
 rw[(show (((l:Int):Int) == 0)=true from sZ.2 qO)]
 refine xq 1 [yB 10 true] [] ?_
 refine yZ (xa (yY (xq 1 [yT 2 ⟨#[48]⟩] [] ?_)))
 refine yZ (zH (wY (zL ?_)))
 refine yR (.string ⟨#[48]⟩) fun w' R Q=>?_
 exact⟨by rw[show exT (bytes s) x=[48] from uI h],R⟩
def exQ (z x:Int):Rat:=if 0≤x then ((z*2^x.toNat:Int):Rat) else Rat.divInt z (2^(-x).toNat)
theorem Ze8 {z x:Int}{k:Nat}(h:x=k):exQ z x=((z*2^k:Int):Rat):=by unfold exQ;rw[uM qO,h,rT]
theorem ZhV {z x:Int}{k:Nat}(h : -x=k)(a:¬ 0≤x):exQ z x=Rat.divInt z (2^k):=by unfold exQ;rw[uI a,h,rT]
theorem Zg6 {z:Int}{k:Nat}(b:z%2=1):(Rat.divInt z (2^k)).num=z∧(Rat.divInt z (2^k)).den=2^k:=by
 have a:z.natAbs.Coprime (2^k):=by
  refine Nat.Coprime.pow_right k ?_
  rw[Nat.coprime_comm,Nat.Coprime,oG,show z.natAbs%2=1 by omega];decide
 have h:=pN ⟨z,2^k,by have:=p2 k;omega,a⟩
 have e:(((2:Nat)^k:Nat):Int)=(2:Int)^k:=by rw[vY];rfl
 dsimp only at h
 rw[e] at h
 rw[h]
 exact⟨rfl,rfl⟩
theorem ZsY {l:List UInt8}{x:Int}(c:fvB l x=true):xC (exQ (flM l) x)=exT l x:=by
 obtain⟨f,j⟩:=Zl6 c
 by_cases d:flM l=0
 ·have e:x=0:=qO
  rw[ZfW c d,d,Ze8 (k:=0) qO,Int.zero_mul,Zkc]
  exact Zck
 have a:flM l%2=1:=qO
 by_cases e:0≤x
 ·obtain⟨k,b⟩:=uS e
  rw[Ze8 b,Zkc]
  unfold exT
  rw[uM c,uI d,uI qO,b,rT]
 obtain⟨k,b⟩:=uS (show 0 ≤ -x by omega)
 obtain⟨g,h⟩:=Zg6 (k:=k) a
 have i:1<2^k:=nO qO
 rw[ZhV b e]
 unfold xC exT
 rw[g,h,uI qO,uM c,uI d,uM qO,b,rT,gL,← f]
end Go.Proofs.YtmpffakfhcpjoaaGreatDoor
namespace Go.Proofs.YtmpffakfhcpjoaaGreatDoor
theorem ZhW (x:Int):qv 0 x=0:=by unfold qv;rw[show ((0:Int):Rat)=0 from rfl,mT]
theorem Zuf (z x:Int):qv (-z) x = -qv z x:=by unfold qv;rw[Rat.intCast_neg,Rat.neg_mul]
theorem Zja (s:Bool)(n:Nat)(x:Int):qv (sg s n) x=if s then -((n:Rat)*2^x) else (n:Rat)*2^x:=by
 cases s
 ·rfl
 rw[uM rfl];unfold sg;rw[uM rfl,Zuf];rfl
theorem Zug {s:Bool}{n:Nat}{e:Int}(h:0<n)(b:okE (e+tzn n)):xU s n e=⟨s,oddM n,e+tzn n,0⟩∧qv (sg s (oddM n)) (e+tzn n)=qv (sg s n) e:=by
 refine⟨by unfold xU;rw[uI qO,uM b],?_⟩
 rw[←Zer]
 have a:=(kM h).2
 have c:sg s (oddM n)*2^tzn n=sg s n:=by
  unfold sg
  cases s
  ·rw[uI qD,uI qD]
   have:((oddM n*2^tzn n:Nat):Int)=(n:Int):=by rw[←a]
   rw[←this,tG,vY];rfl
  rw[uM rfl,uM rfl]
  have:((oddM n*2^tzn n:Nat):Int)=(n:Int):=by rw[←a]
  rw[←this,tG,vY,mL];rfl
 rw[c]
theorem Zkm {n:Nat}(h:0<n):tzn n+1≤blen n:=by
 have c:=(kM h).2
 have a:0<oddM n:=by have:=(kM h).1;omega
 have b:2^tzn n≤n:=by
  have:=uE (2^tzn n) a
  omega
 exact iZ.2 b
theorem Zpt (z x:Int):exQ z x=qv z x:=by
 by_cases h:0≤x
 ·obtain⟨k,rfl⟩:=uS h
  rw[Ze8 rfl]
  unfold qv
  rw[fF,qL]
  congr 1
 obtain⟨k,a⟩:=uS (show 0 ≤ -x by omega)
 rw[ZhV a h]
 unfold qv
 have e:x = -(k:Int):=qO
 rw[e,mS,fF,Rat.divInt_eq_div,oF]
 congr 2
end Go.Proofs.YtmpffakfhcpjoaaGreatDoor
namespace Go.Proofs.YtmpffakfhcpjoaaGreatDoor
open Go.RowKit Tryz
theorem Zkn (s:Bool)(m i:Nat):sg s m*2^i=sg s (m*2^i):=by
 unfold sg
 split
 ·rw[tG,vY,mL];rfl
 rw[tG,vY];rfl
theorem ZnL (s:Bool)(A:qA)(l c x:Nat)(e:Int)(w:World)(h:zF w (.slice A l c) x) :
 Ζ 66 #[yV s A l c e] w (RetV w (.int .i64 (if x=0 then 0 else if s=true then (-1) else 1))):=by
 refine zU (Φ:=fun w=>zF w (.slice A l c) (x)) func66 rfl qK (fun w' i=>h.ext i) ?_
 refine zC ?_
 have j:=h.len0
 have k:=@lR x
 refine zB (xq 2 [Δ 1,yJ 2 0] [yF 1 99 s A l c e] ?_)
 refine yZ (zC (zQ (yY (xq 5 [yB 3 (((l:Int):Int) == 0)] [] ?_))))
 refine xe (zA ?_)
 refine yQ ((((l:Int):Int) == 0)) (fun a=>?_) fun a=>?_
 ·have d:=sZ.1 a
  have g:x=0:=qO
  refine yY (xq 1 [yJ 2 0] [] ?_)
  refine yZ (zH (wY (zL ?_)))
  refine yR (yI 0) fun w' R Q=>?_
  exact⟨by rw[uM g],R⟩
 have d:=lQ a
 have g:¬ x=0:=qO
 refine yY (xq 3 [yB 8 s] [] ?_)
 refine xe (zA ?_)
 refine yQ (s) (fun b=>?_) fun b=>?_
 ·have f:=b
  refine yY (xq 1 [yJ 2 (-1)] [] ?_)
  refine yZ (zH (wY (zL ?_)))
  refine yR (yI (-1)) fun w' R Q=>?_
  exact⟨by rw[uI g,uM f],R⟩
 have f:=b
 refine zJ (xR (zA (yY (xq 1 [yJ 2 1] [] ?_))))
 refine yZ (zH ?_)
 refine yR (yI 1) fun w' R Q=>?_
 exact⟨by rw[uI g,uI (by rw[f];decide)],R⟩
theorem Zpu (s:Bool)(A:qA)(l c x:Nat)(e:Int)(w:World)(f:zF w (.slice A l c) x)(d:0<x) :
 Ζ 121 #[yV s A l c e] w (RetV w (yV (!s) A l c e)):=by
 refine zU (Φ:=fun w=>zF w (.slice A l c) (x)) func121 rfl qK (fun w' g=>f.ext g) ?_
 refine zC ?_
 have h:=f.len0
 have i:=Zd4 d
 refine zB (xq 2 [Δ 1,Δ 2] [yF 2 99 false none 0 0 0,yF 1 99 s A l c e] ?_)
 refine yZ (zC (yY (xq 4 [yB 6 (decide ((l:Int)>0))] [] ?_)))
 refine xe (zA ?_)
 refine yQ ((decide ((l:Int)>0))) (fun a=>?_) fun a=>?_
 ·have b:=uC a
  refine zB (xq 5 [] [yF 1 99 (!s) A l c e] ?_)
  refine yZ (yY (xq 2 [] [yF 2 99 (!s) A l c e] ?_))
  refine yZ (zH ?_)
  refine yR (yV (!s) A l c e) fun w' R Q=>?_
  exact⟨rfl,R⟩
 have b:=uD a
 refine zJ (zA (yY (xq 2 [] [yF 2 99 s A l c e] ?_)))
 refine yZ (zH ?_)
 refine yR (yV s A l c e) fun w' R Q=>?_
 exfalso;omega
end Go.Proofs.YtmpffakfhcpjoaaGreatDoor
namespace Go.Proofs.YtmpffakfhcpjoaaGreatDoor
structure RF (v:Rat) (n:Nat) (z x:Int):Prop where
 r:RndS n v (qv z x)
 c:(z=0∧x=0)∨(z%2=1∧okE x)
 b:blen z.natAbs≤n
end Go.Proofs.YtmpffakfhcpjoaaGreatDoor
namespace Go.Proofs.YtmpffakfhcpjoaaGreatDoor
open Go.RowKit
theorem ZiH {a:Int}:((a:Int) != a)=false:=qS
end Go.Proofs.YtmpffakfhcpjoaaGreatDoor
namespace Go.Proofs.YtmpffakfhcpjoaaGreatDoor
theorem ZhX {a b:Nat}(h:a<b):blen (2^a)≤b:=xH.2 (Nat.pow_lt_pow_right qD h)
theorem ZfY {a n j b:Nat}(h:blen a≤n)(d:n+j≤b):blen (a*2^j)≤b:=by
 refine xH.2 ?_
 have c:a*2^j<2^n*2^j:=tS (xH.1 h) (p2 _)
 rw[←uU] at c
 exact uT c (vC qD d)
theorem Zko {n k:Nat}(h:blen n≤64*k):(Lib.decDigits n).length≤20*k+1:=by
 have a:=Ze7 n
 have b:wl n≤k:=kK.2 (by rw[show W64=2^64 by rw[zN],← qI];exact xH.1 h)
 omega
theorem ZeJ {z:Int}{k:Nat}(h:blen z.natAbs≤64*k):(Lib.itoa z).length≤20*k+2:=by
 have b:=Zko h
 by_cases a:z<0
 ·rw[ZbP a,vE,show ([45]:List UInt8).length=1 from rfl];omega
 rw[ZcX qO];omega
section
variable {v:Rat} {n:Nat} {z x:Int}
theorem RF.fv (h:RF v n z x):fvB (Lib.itoa z) x=true:=by rw[ZhP];exact vQ h.c
theorem RF.ex (h:RF v n z x):xC (exQ z x)=exT (Lib.itoa z) x:=by
 have:=ZsY h.fv
 rwa [ZfS] at this
theorem RF.read (h:RF v n z x):wA (exT (Lib.itoa z) x)=some (exQ z x):=by rw[←h.ex];exact ZeA _
theorem RF.val (h:RF v n z x):valF (exT (Lib.itoa z) x)=qv z x:=by rw[dF h.read,Zpt]
theorem RF.len (h:RF v n z x)(j:n≤150)(d : -1000≤x)(e:x≤1000):(exT (Lib.itoa z) x).length≤500:=by
 unfold exT
 rw[uM h.fv,ZfS]
 have f:=h.b
 by_cases a:z=0
 ·rw[uM a];exact (by decide:[48].length≤500)
 rw[uI a]
 by_cases c:x<0
 ·rw[uM c,vE,vE,show ([47]:List UInt8).length=1 from rfl]
  have g:=ZeJ (z:=z) (k:=3) qO
  have l:=Zko (n:=2^(-x).toNat) (k:=16) (ZhX qO)
  omega
 rw[uI c]
 have i:(z*2^x.toNat).natAbs=z.natAbs*2^x.toNat:=by rw[oE,Int.natAbs_pow];rfl
 have g:=ZeJ (z:=z*2^x.toNat) (k:=18) (by
  rw[i]
  exact ZfY f qO)
 omega
end
theorem Zuh (M:Nat)(s:Int):(fq M 1 (-s):Rat)≤(M:Rat)*2^s∧(M:Rat)*2^s<(fq M 1 (-s):Rat)+1∧(0≤s→(M:Rat)*2^s=(fq M 1 (-s):Rat)):=by
 rcases nX 0 s with h|h
 ·obtain⟨n,rfl⟩:=uS h
  rw[Zar,fF,sB]
  exact⟨nR,by grind,fun _=>rfl⟩
 obtain⟨j,b⟩:=uS (show 0 ≤ -s by omega)
 obtain⟨F,c⟩:=yE (fq M 1 (-s))
 have e:F=M/2^j:=by
  rw[←c,b]
  unfold fq fa fb
  rw[show (-(j:Int)).toNat=0 by omega,rT];simp
 rw[c]
 have g:F*2^j≤M:=by rw[e];exact pI _ _
 have i:M<(F+1)*2^j:=by rw[e];exact (vN (p2 j)).1 (oC _)
 have d:=gM s
 have k:((2^j:Nat):Rat)*2^s=1:=by rw[←fF,← b];exact ZoK s
 have f:=Zce d (tQ.2 g)
 have a:=(oT d).2 (Rat.natCast_lt_natCast.2 i)
 rw[sB,sL,k,Rat.mul_one] at f a
 rw[qM,show ((1:Nat):Rat)=1 from rfl] at a
 refine⟨f,a,fun o=>?_⟩
 have l:s=0:=qO
 subst l
 have m:j=0:=qO
 subst m
 rw[tH,rS] at e
 rw[e,show (2:Rat)^(0:Int)=1 from rfl,Rat.mul_one]
theorem Zpv {y:Nat}{mk:Bool}{m:Nat}(h:gB y 0 mk=m):2*m≤y+1∧(y≤2*m∨(y=2*m+1∧mk=false)):=by
 subst h
 unfold gB
 simp only[tH,rS,mM,vZ,mK,ne_eq,not_true,false_or]
 split
 ·omega
 rename_i h
 by_cases a:y%2=1
 ·have b:¬ (y/2%2=1∨mk=true):=fun e=>h ⟨a,e⟩
  have c:mk=false:=by
   cases mk
   ·rfl
   exact absurd (Or.inr rfl) b
  exact⟨qO,Or.inr ⟨qO,c⟩⟩
 omega
theorem Zq4 {M bits:Nat}{E:Int}{m:Nat}(p:sqM M E bits=m)(B:1≤m) :
 (2*(m:Rat)-1)*(2*(m:Rat)-1)≤(M:Rat)*2^(E-2*sqK M E bits+2)∧(M:Rat)*2^(E-2*sqK M E bits+2)≤(2*(m:Rat)+1)*(2*(m:Rat)+1):=by
 unfold sqM at p
 generalize E-2*sqK M E bits+2=s at *
 obtain⟨a,b⟩:=Zpv p
 obtain⟨r,t,d⟩:=Zuh M s
 obtain⟨f,i⟩:=dM (fq M 1 (-s))
 obtain⟨mk,c⟩:=yE (jT M s)
 rw[c] at b
 generalize u:fq M 1 (-s)=F at *
 generalize v:isq F=y at *
 generalize (M:Rat)*2^s=X at *
 obtain⟨n,rfl⟩:∃ n,m=n+1:=⟨m-1,qO⟩
 have q:((n+1:Nat):Rat)=(n:Rat)+1:=by rw[qM];rfl
 have j:((2:Nat):Rat)=2:=rfl
 have k:((1:Nat):Rat)=1:=rfl
 have w:((3:Nat):Rat)=3:=rfl
 constructor
 ·have g:(2*n+1)*(2*n+1)≤F:=uA (vK qO qO) f
  have l:=tQ.2 g
  simp only[sB,qM,k,j] at l
  rw[q]
  clear f i t d
  grind
 rcases b with b|⟨b,x⟩
 ·have g:F+1≤(2*n+3)*(2*n+3):=uA i (vK qO qO)
  have l:=tQ.2 g
  simp only[sB,qM,k,j,w] at l
  rw[q]
  clear f i r d
  grind
 rw[x] at c
 unfold jT at c
 have o:=uD c
 rw[u,v] at o
 have z:0≤s:=by
  rcases oZ s 0 with h|h
  ·exact absurd (Or.inl h) o
  exact h
 have e:y*y=F:=tY fun h=>o (Or.inr h)
 have A:=d z
 rw[A,← e,b]
 simp only[sB,qM,k,j]
 exact nR
theorem Zmp {a b:Rat}(c:0≤a)(h:a≤b):a*a≤b*b:=by
 have d:=tF h c
 have e:=uX h (show 0≤b by grind)
 grind
theorem Zmq {M bits m:Nat}{E K:Int}(t:0<bits)(w:sqM M E bits=m)(x:sqK M E bits=K)(c:2^(bits-1)≤m) :
 let v:=(m:Rat)*2^K;let d:=v*2^(-(bits:Int));let q:=(M:Rat)*2^E
 (v-d)*(v-d)≤q∧q≤(v+d)*(v+d):=by
 intro v d q
 have y:1≤m:=uA (p2 _) c
 obtain⟨l,n⟩:=Zq4 w y
 rw[x] at l n
 have j:=gM (K-1)
 have J:=Zis t
 have e:=gM (-(bits:Int))
 have z:(2:Rat)^K=2*2^(K-1):=by rw[←Zl1];congr 1;omega
 have A:(M:Rat)*2^(E-2*K+2)*((2:Rat)^(K-1)*2^(K-1))=q:=by
  show _=(M:Rat)*2^E
  rw[sL,← eW,← eW]
  congr 2;omega
 have f:((2^(bits-1):Nat):Rat)≤(m:Rat):=tQ.2 c
 have g:(1:Rat)≤((2^(bits-1):Nat):Rat):=by
  have:=tQ.2 (show 1≤2^(bits-1) from p2 _)
  simpa using this
 have k:v=2*(m:Rat)*2^(K-1):=by show (m:Rat)*2^K=_;rw[z];grind
 have h:d=v*2^(-(bits:Int)):=rfl
 generalize L:(M:Rat)*2^(E-2*K+2)=X at *
 generalize (2:Rat)^(K-1)=P at *
 generalize (2:Rat)^(-(bits:Int))=u at *
 generalize ((2^(bits-1):Nat):Rat)=H at *
 have i:0≤P*P:=vV (qB j) (qB j)
 have o:=uX l i
 have p:=uX n i
 rw[A] at o p
 have B:(1:Rat)≤(m:Rat):=by grind
 have N:=tF f (qB e)
 have O:=tF g (qB e)
 have C:1≤2*(u*(m:Rat)):=by grind
 have D:2*u≤1:=by grind
 have Q:P≤(m:Rat)*P:=by
  have:=Zce j B
  rwa [Rat.one_mul] at this
 have R:P≤d:=by
  have:=Zce j C
  rw[h,k]
  grind
 have F:0≤v:=by rw[k];grind
 have S:2*d≤v:=by
  have:=tF D F
  rw[h]
  grind
 have r:=Zmp (a:=v-d) (b:=v-P) (by grind) (by grind)
 have s:=Zmp (a:=v+P) (b:=v+d) (by grind) (by grind)
 have G:(v-P)*(v-P)=(2*(m:Rat)-1)*(2*(m:Rat)-1)*(P*P):=by rw[k];grind
 have I:(v+P)*(v+P)=(2*(m:Rat)+1)*(2*(m:Rat)+1)*(P*P):=by rw[k];grind
 rw[G] at r
 rw[I] at s
 exact⟨Rat.le_trans r o,Rat.le_trans p s⟩
end Go.Proofs.YtmpffakfhcpjoaaGreatDoor
namespace Go.Proofs.YtmpffakfhcpjoaaGreatDoor
open Go.RowKit Tryz
def Zu3 (s:ByteArray) (x:Int):Prop:=s.size≤200 ∧ -300≤x∧x≤300
instance (s:ByteArray) (x:Int):Decidable (Zu3 s x):=inferInstanceAs (Decidable (_∧_))
def Zui (s:ByteArray) (x:Int):Prop:=s.size≤200∧¬ (x>300∧x<1048276)∧¬ (x < -300∧x > -1048276)
instance (s:ByteArray) (x:Int):Decidable (Zui s x):=inferInstanceAs (Decidable (_∧_))
theorem Zuj (k:Nat):ml 0≤k:=jE.2 (uZ xA)
theorem len_zero {w:World}{s:Bool}{A:qA}{l c:Nat}{z:Int}(h:xB w (vI2 s A l c) z)(a:z=0):l=0:=by
 subst a
 obtain⟨g,i,j,b,m,n,d,e,f⟩:=h.opn.1
 injection b with e1 e2 e3
 have:=jA d e
 rw[f,show (0:Int).natAbs=0 from rfl,show ml 0=0 from Nat.le_zero.1 (jE.2 (by rw[tH];decide))] at this
 omega
theorem Zbw {Y k:Nat}(h:blen Y≤32*k):ml Y≤k:=jE.2 (by rw[ZcQ];exact xH.1 h)
section
variable {P:Program} {o:Oper} {ρ:Operand→Value} {w:World} {t e k:TypeId} {x y ix:Operand}
theorem Zq5 {A:qA}{zs:List Int}{l cap j:Nat}(h:jN w A zs)(a:zs.length=l)(hj:j<l)(ho:o.op=Op.indexAddr t x ix:=by kernel_rfl)(ht:P.underlying t=some (.slice e):=by kernel_rfl)(hs:(P.info? e).map (fun i=>i.size)=some 1:=by kernel_rfl)(hx:ρ x=.slice A l cap:=by kernel_rfl)(hix:ρ ix=.int .i64 (j:Int):=by kernel_rfl):(execOp ρ o).run P w=.ok (.value (atA A j)) w:=by
 obtain⟨b,c,d,_⟩:=h (fun e=>by rw[e] at a;simp at a;omega)
 exact wT (by rw[d];exact fun e=>by cases e) hj ho ht hs hx hix
theorem Zq6 {A:qA}{zs:List Int}{z:Int}{j:Nat}(h:jN w A zs)(a:j<zs.length)(c:zs.getD j 0=z)(d:o.op=Op.load t x:=by kernel_rfl)(f:ρ x=atA A j:=by kernel_rfl)(ha:(teOf P t).map (fun e=>e.agg)=some false:=by kernel_rfl) :
 (execOp ρ o).run P w=.ok (.value (.int .i64 z)) w:=by
 obtain⟨b,g,i,_,l⟩:=h (fun e=>by rw[e] at a;simp at a)
 rw[←c]
 exact wN (l j a) d (by rw[f,i,atA,rE,jL]) ha
theorem Zms {v n:Int}(a:n≠0)(b:o.op=Op.binOp .rem t x y k:=by kernel_rfl)(c:ρ x=.int .i64 v:=by kernel_rfl)(d:ρ y=.int .i64 n:=by kernel_rfl):(execOp ρ o).run P w=.ok (.value (.int .i64 (v.tmod n))) w:=by
 simp only[execOp,b,c,d,eqGuard,binOp,Op.intDiv]
 simp[a]
end
theorem jN.next {w w':World}{A:qA}{zs:List Int}{g:Nat}(h:jN w A zs)(f:Fr (fun i=>i=g) w w')(l:zs≠[]→∀ a,A=some a→a.block≠g):jN w' A zs:=fun d=>by
 obtain⟨b,c,rfl,j,m⟩:=h d
 exact⟨b,c,rfl,uT j f.size,fun i hi=>(f.cell (p:=⟨b,c+i,none⟩) j (l d ⟨b,c,none⟩ rfl)).trans (m i hi)⟩
theorem Zpx (v:Int){n:Int}(b:0<n):0≤(v.tmod n+n).tmod n∧(v.tmod n+n).tmod n<n:=by
 have c:=Int.lt_tmod_of_pos v b
 rw[sE (a:=v.tmod n+n) qO]
 exact⟨Int.emod_nonneg _ qO,Int.emod_lt_of_pos _ b⟩
abbrev TB (w:World) (g:Nat) (A:Option Addr) (l c p:Nat):Prop:=Blk 61 w g #[.slice A l c,.int .i64 ((p:Nat):Int)]
theorem Zul (A:qA)(l c:Nat)(b:Int):iX #[.slice A l c,.int .i64 b]:=by
 intro i k z h;rcases i with _|_|i<;>simp at h
 exact h.1.symm
def RetN (w:World) (g:Nat) (A:Option Addr) (l c:Nat) (n:Int) (e:Ending) (w':World):Prop:=∃ (v p:Nat),e=.returned (.int .i64 ((v:Nat):Int))∧((v:Int)<n∧p≤l)∧Fr (fun i=>i=g) w w'∧TB w' g A l c p
def TF (z x:Int):Prop:=((z=0∧x=0)∨z%2=1)∧(z.natAbs<1099511627776 ∧ -20≤x∧x≤60)
theorem jN.take {w:World}{A:qA}{zs:List Int}(h:jN w A zs)(k:Nat):jN w A (zs.take k):=fun a=>by
 obtain⟨b,c,rfl,d,f⟩:=h (fun e=>a (by rw[e];simp))
 refine⟨b,c,rfl,d,fun i hi=>?_⟩
 rw[uN] at hi
 rw[f i qO,tC,tC,tU qO]
theorem jN.apart {w:World}{A:qA}{zs:List Int}{g:Nat}(h:jN w A zs)(i:w.heap.size≤g):zs≠[]→∀ a,A=some a→a.block≠g:=fun c a e=>by
 obtain⟨b,d,f,j,_⟩:=h c
 rw[f] at e
 injection e with e
 subst e
 show b≠g
 omega
theorem Zs0 (A:qA)(l c:Nat)(w:World)(d:l≤c):Ζ 4 #[.slice A l c] w (fun e w'=>∃ g,e=.returned (.pointer (some ⟨g,0,none⟩))∧w.heap.size≤g∧Ext w w'∧TB w' g A (min l 400) c 0):=by
 obtain⟨k,a⟩:=yE (min l 400)
 have f:min (l:Int) 400=(k:Int):=qO
 have b:k≤c:=qO
 rw[a]
 go_enter func4,ntmps4
 go_wp2
 go_ret
 exact⟨_,rfl,uF _,(Fr.refl _ _).alloc _,Blk.new _ _ _⟩
theorem Zq7 (g:Nat)(A:qA)(l c p:Nat)(zs:List Int)(n:Int)(w:World)(r:TB w g A l c p)(s:p≤l)(u:jN w A zs)(B:zs.length=l)(F:l≤1000000)(b:0<n)(G:n≤1048576) :
 Ζ 5 #[.pointer (some ⟨g,0,none⟩),.int .i64 n] w (RetN w g A l c n):=by
 refine Za3 (fun i=>i=g) (Φ:=fun w=>(TB w g A l c p∧jN w A zs)) func5 rfl qK (fun w' m=>⟨r.ext m,u.ext m⟩) ?_
 refine yY (xq 1 [yJ 4 0] [] ?_)
 refine yZ (zC (zC ?_))
 refine iK 10 [0,1,3,7,0,16,48,112,240,511] qK qK zM ?_
 refine xqg 3 [(8,.v (.pointer (some ⟨g,0+1,none⟩)))] ?_
 refine xqj 9 (yI p) (fun w Q=>wN (t:=3) (x:=.tmp 8) (g:=g) (off:=0+1) (Blk.cell (Q.1) 1)) ?_
 refine xqg 3 [(12,.v (.pointer (yL g)))] ?_
 refine xqj 13 (.slice A l c) (fun w Q=>wN (t:=22) (x:=.tmp 12) (g:=g) (off:=0) (Blk.cell (Q.1) 0)) ?_
 refine xqg 2 [yB 15 (decide ((p:Int)≥(l:Int)))] ?_
 refine xz (xe (zA ?_))
 refine yQ ((decide ((p:Int)≥(l:Int)))) (fun a=>?_) fun a=>?_
 ·have d:=uC a
  refine yY (xq 1 [yJ 4 0] [] ?_)
  refine yZ (zH (zL ?_))
  refine yR (yI 0) fun w' R Q=>?_
  exact⟨0,p,rfl,⟨qO,s⟩,R,Q.1⟩
 have d:=uD a
 refine zJ (zA (zC ?_))
 have f:p<l:=qO
 obtain⟨z,h⟩:=yE (zs.getD p 0)
 refine iK 11 [0,1,3,7,0,16,48,112,255,511,1023] qK qK zM ?_
 refine xqg 3 [(18,.v (.pointer (yL g)))] ?_
 refine xqj 19 (.slice A l c) (fun w Q=>wN (t:=22) (x:=.tmp 18) (g:=g) (off:=0) (Blk.cell (Q.1) 0)) ?_
 refine xqg 3 [(22,.v (.pointer (some ⟨g,0+1,none⟩)))] ?_
 refine xqj 23 (yI p) (fun w Q=>wN (t:=3) (x:=.tmp 22) (g:=g) (off:=0+1) (Blk.cell (Q.1) 1)) ?_
 refine xqj 24 (atA A p) (fun w Q=>Zq5 (t:=22) (e:=3) (x:=.tmp 19) (ix:=.tmp 23) (l:=l) (cap:=c) (j:=p) (Q.2) B f) ?_
 refine xqj 25 (yI z) (fun w Q=>Zq6 (t:=3) (x:=.tmp 24) (j:=p) (Q.2) qO h) ?_
 refine xqg 1 [yJ 5 z] ?_
 refine xz (yZ (yY (xq 3 [(26,.v (.pointer (yL g))),(28,.v (.pointer (some ⟨g,0+1,none⟩)))] [] ?_)))
 refine xqk 29 (yI p) (fun w R Q=>wN (t:=3) (x:=.tmp 28) (g:=g) (off:=0+1) (Blk.cell (Q.1) 1)) ?_
 refine xq 1 [yJ 30 (IntKind.i64.wrap ((p:Int)+1))] [] ?_
 rw[yW ((p:Int)+1) (((p+1:Nat):Int)) qO]
 refine xq 2 [(32,.v (.pointer (some ⟨g,0+1,none⟩)))] [] ?_
 refine ZsZ (t:=3) (bt:=61) (x:=.tmp 32) (y:=.tmp 30) (cs:=[.slice A l c, yI p]) g (0+1) (yI (p+1:Nat)) (fun _=>True) (fun w Q=>Q.1) (oC 1) (Or.inr rfl) rfl rfl (fun _ _ _ _=>trivial) ?_
 refine xr 0 [yJ 1 n,yJ 4 0,yJ 5 z] [] ?_
 refine yZ (zC ?_)
 obtain⟨v,C⟩:∃ v:Nat,(z.tmod n+n).tmod n=v:=uS (Zpx z b).1
 have D:=(Zpx z b).2
 have E:=Int.lt_tmod_of_pos z b
 have q:=Int.tmod_lt_of_pos z b
 refine zB (xq 2 [yJ 33 z,yJ 34 n] [] ?_)
 refine xqk 35 (yI (z.tmod n)) (fun w R Q=>Zms (t:=3) (k:=3) (x:=.tmp 33) (y:=.tmp 34) qO) ?_
 refine xq 2 [yJ 37 (IntKind.i64.wrap ((z.tmod n)+n))] [] ?_
 rw[yW (z.tmod n+n) (z.tmod n+n) qO]
 refine xq 1 [yJ 38 n] [] ?_
 refine xqk 39 (yI v) (fun w R Q=>by rw[←C];exact Zms (t:=3) (k:=3) (x:=.tmp 37) (y:=.tmp 38) qO) ?_
 refine xq 1 [yJ 4 v] [] ?_
 refine yZ (zH ?_)
 refine yR (yI v) fun w' R Q=>?_
 exact⟨v,p+1,rfl,⟨qO,qO⟩,R,Q.2⟩
theorem Zpy {n k:Nat}(h:wl n≤k):wl (isq n)≤k:=uA (lC (by
 have:=(dM n).1
 rcases uJ (isq n) with e|e
 ·omega
 exact uA (Nat.le_mul_of_pos_left _ e) this)) h
theorem Zu5:isq 0=0:=ZgL qD qD
theorem nxw {n r:Nat}(a:wl r≤200001)(b:wl n≤200000):wl (r+n/r)≤200002:=Zjg a (uA (lC (vJ _ _)) qO)
def fX (s:Bool) (m:Nat) (e:Int) (bits:Nat):FR:=if s=true then ⟨false,0,0,3⟩ else if m=0 then ⟨false,0,0,0⟩ else Zbf m e bits
theorem Zs1 {a b:Nat}(h:¬ a=b):(cmpI ((a:Nat):Int) ((b:Nat):Int) != 0)=true:=by
 rw[bne_iff_ne]
 rcases pL h with c|c
 ·rw[iJ qO];decide
 rw[gY qO];decide
theorem Zs2 {a b:Nat}(h:a=b):(cmpI ((a:Nat):Int) ((b:Nat):Int) != 0)=false:=by subst h;rw[ZbY];rfl
theorem Zmt {m:Nat}{s:Int}{j:Nat}(h:s = -(j:Int)):fq m 1 (-s)=m/2^j:=by
 subst h
 unfold fq fa fb
 rw[show (- -(-(j:Int))).toNat=0 by omega,show (- -(j:Int)).toNat=j by omega];simp
theorem Zmu {Y k:Nat}(h:blen Y≤64*k):wl Y≤k:=kK.2 (by rw[show W64=2^64 by rw[zN],← qI];exact xH.1 h)
theorem Zum {l:List UInt8}{x:Int}:(ldR l x).m=0∨(ldR l x).m%2=1:=by
 unfold ldR
 split
 ·rename_i h
  have a:=(Zl6 h).2
  have b:(flM l).natAbs=zG (zZ l).2:=by unfold flM sg;split<;>omega
  rcases a with ⟨a,_⟩|⟨a,_⟩
  ·left;show zG (zZ l).2=0;omega
  right;show zG (zZ l).2%2=1;omega
 exact Or.inl rfl
theorem ZrX (a:Int):a.tmod 2=0↔a%2=0:=by rw[←Int.dvd_iff_tmod_eq_zero,Int.dvd_iff_emod_eq_zero]
theorem Zjb {a:Int}(h:a%2=0):a.tdiv 2=a/2:=by
 obtain⟨k,b⟩:∃ k,a=2*k:=⟨a/2,qO⟩
 subst b
 rw[Int.mul_tdiv_cancel_left _ qD,Int.mul_ediv_cancel_left _ qD]
theorem Zcp (A:qA)(l c n:Nat)(w:World)(U:zF w (.slice A l c) n)(C:wl n≤200000) :
 Ζ 92 #[.slice A l c] w (lH w (isq n)):=by
 refine zU (Φ:=fun w=>zF w (.slice A l c) (n)) func92 rfl qK (fun w' Y=>U.ext Y) ?_
 refine zC ?_
 have Z:=U.len0
 have a0:=@lR n
 have I:=dA n
 obtain⟨J,K⟩:=dM n
 refine zB (xq 1 [eS1 2 none 0 0] [] ?_)
 refine yZ (zC (yY (xq 3 [yB 9 (((l:Int):Int) == 0)] [] ?_)))
 refine xe (zA ?_)
 refine yQ ((((l:Int):Int) == 0)) (fun b=>?_) fun b=>?_
 ·have q:=sZ.1 b
  have H:n=0:=qO
  refine yY (xq 1 [eS1 2 none 0 0] [] ?_)
  refine yZ (zH (zL ?_))
  refine yR Ξ fun w' R Q=>?_
  exact⟨_,rfl,by rw[H,Zu5];exact zF.zero _,R⟩
 have q:=lQ b
 have H:¬ n=0:=qO
 refine zJ (zA (zC (zB ?_)))
 refine yD (d:=10) (fun L:Nat=>Υ L 1) (fun L zw=>Blk 84 zw L #[yX 1]) (fun w R Q=>kJ (t:=97) (e:=84) (n:=1) (sz:=1) (z:=yX 0) (parts:=#[(0,Operand.const (Value.int IntKind.u64 1))]) qK qK qK qK qK qK) fun D=>?_
 refine xr 1 [eS1 0 A l c,eS1 2 none 0 0,eS1 10 (yL D) 1 1,eS1 11 A l c] [] ?_
 refine xqc 90 [.slice A l c] 12 (fun _:Unit=>yI (blen n:Nat)) _ (fun w R Q=>yN (jG Q.1 (uA C qD))) fun M=>?_
 refine xq 1 [yJ 13 (IntKind.i64.wrap (((blen n:Nat):Int)+1))] [] ?_
 rw[yW (((blen n:Nat):Int)+1) (((blen n+1:Nat):Int)) qO]
 refine xq 1 [(14,.v (yI (IntKind.i64.wrap ((((blen n+1:Nat):Int)).tdiv 2))))] [] ?_
 rw[show IntKind.i64.wrap ((((blen n+1:Nat):Int)).tdiv 2)=(((blen n+1)/2:Nat):Int) from tdq _ 2 qO]
 refine xqc 70 [Υ D 1, yI ((blen n+1)/2:Nat)] 15 xI _ (fun w R Q=>yM xG (jZ ((blen n+1)/2) (fP Q.1.2) wl_1 qO)) fun⟨E,F,G⟩=>?_
 refine xq 1 [eS1 3 E F G] [] ?_
 refine yZ (zQ ?_)
 refine xO (fun V W X=>∃ (f:Option Addr) (g h r:Nat),W=ofL [eS1 0 A l c,eS1 2 none 0 0,eS1 3 f g h] []∧X=(fun w=>(zF w (.slice A l c) (n)∧zF w (.slice f g h) (r)))∧(n<(r+1)*(r+1))∧(0<r)∧(wl r≤200001)∧V=(1+r)) ((1+(1*2^((blen n+1)/2)))) ⟨E,F,G,(1*2^((blen n+1)/2)),rfl,rfl,(Zkp (jX n)).1,(Zkp (jX n)).2,(uA (Zu4 (m:=wl n) I) qO),rfl⟩ (fun w Q=>⟨Q.1.1.1,Q.2⟩) ?_
 rintro V W X ⟨f,g,h,r,rfl,rfl,N,s,i,rfl⟩
 refine zQ (yY (xq 2 [eS1 17 A l c,eS1 18 f g h] [] ?_))
 refine xqc 114 [.slice A l c,.slice f g h] 19 (fun x:ShN×ShN=>.tuple #[xI x.1,xI x.2]) _ (fun w R Q=>yM Zpw (Ziv Q.1 Q.2 (uA C qD) (uA i qD) s)) fun M=>?_
 obtain⟨⟨u,y,B⟩,⟨b0,c0,d0⟩⟩:=M
 refine xq 5 [eS1 4 u y B] [] ?_
 refine yZ (yY (xq 2 [eS1 22 f g h,eS1 23 u y B] [] ?_))
 refine xqc 124 [.slice f g h,.slice u y B] 24 xI _ (fun w R Q=>yM xG (iE Q.1.2 Q.2.1 (uA i qD) (uA (lC (vJ n r)) (uA C qD)))) fun⟨O,P,S⟩=>?_
 refine xqc 91 [.slice O P S, yI 1] 25 xI _ (fun w R Q=>yM xG (gX 1 Q.2 (uA (nxw i C) qD) qD)) fun⟨j,k,o⟩=>?_
 refine xq 1 [eS1 6 j k o] [] ?_
 refine yZ (zC (yY (xq 2 [eS1 26 j k o,eS1 27 f g h] [] ?_)))
 refine xqc 96 [.slice j k o,.slice f g h] 28 (fun _:Unit=>yI (cmpI (((r+n/r)/2^1:Nat):Int) (r:Int))) _ (fun w R Q=>yN (eZ Q.2 Q.1.1.1.2 (uA (lC (vJ _ _)) (uA (nxw i C) qD)))) fun M=>?_
 refine xq 1 [(29,.v (.bool (decide ((cmpI (((r+n/r)/2^1:Nat):Int) (r:Int))≥0))))] [] ?_
 refine xe (zA ?_)
 refine yQ ((decide ((cmpI (((r+n/r)/2^1:Nat):Int) (r:Int))≥0))) (fun p=>?_) fun p=>?_
 ·have a:=uC p
  have T:=@Zbs ((r+n/r)/2^1) r |>.1 a
  refine yY (xq 2 [eS1 2 f g h] [] ?_)
  refine yZ (zH (zL (wY (zL (wY ?_)))))
  refine yR (.slice f g h) fun w' R Q=>?_
  exact⟨_,rfl,by rw[←Zuk (r0:=isq n) qO N J K];exact Q.1.1.1.1.2,R⟩
 have a:=uD p
 have T:=mt (@Zbs ((r+n/r)/2^1) r).2 a
 refine zJ (zA (zB (xq 2 [eS1 3 j k o] [] ?_)))
 refine xe (xR ?_)
 exact xK ((1+((r+n/r)/2^1))) qO ⟨j,k,o,((r+n/r)/2^1),rfl,rfl,(Zmr s (rC H)).1,(Zmr s (rC H)).2,(uA (lC qO) i),rfl⟩ (fun w Q=>⟨Q.1.1.1.1.1,Q.1.2⟩)
theorem ZnM (Q R T:Nat)(sh:Int)(A:qA)(l c r:Nat)(B:qA)(m d n:Nat)(w:World)(s:Blk 3 w Q #[.int .i64 sh])(u:Blk 97 w R #[.slice A l c])(y:Blk 97 w T #[.slice B m d])(z:zF w (.slice A l c) r)(C:zF w (.slice B m d) n)(D:wl r≤1000000) :
 Ζ 94 #[.pointer (some ⟨Q,0,none⟩),.pointer (some ⟨R,0,none⟩),.pointer (some ⟨T,0,none⟩)] w (RetV w (.bool (decide (sh<0∨r*r≠n)))):=by
 refine zU (Φ:=fun w=>((((Blk 3 w Q #[yI sh]∧Blk 97 w R #[.slice A l c])∧Blk 97 w T #[.slice B m d])∧zF w (.slice A l c) (r))∧zF w (.slice B m d) (n))) func94 rfl qK (fun w' e=>⟨⟨⟨⟨s.ext e,u.ext e⟩,y.ext e⟩,z.ext e⟩,C.ext e⟩) ?_
 refine yY (xq 1 [yB 3 false] [] ?_)
 refine yZ (zC ?_)
 by_cases a:sh<0
 ·refine yO 11 zM ?_
  refine xqj 4 (yI sh) (fun w S=>wN (t:=3) (x:=.tmp 0) (g:=Q) (off:=0) (Blk.cell (S.1.1.1.1) 0)) ?_
  refine xqg 1 [yB 5 (decide (sh<0))] ?_
  rw[show decide (sh<0)=true from vQ a]
  refine xqg 9 [yB 3 true] ?_
  refine xz (yZ (zH ?_))
  refine yR (.bool true) fun w' U S=>?_
  exact⟨by rw[vQ (p:=sh<0∨r*r≠n) (Or.inl a)],U⟩
 by_cases b:r*r=n
 ·refine yO 11 zM ?_
  refine xqj 4 (yI sh) (fun w S=>wN (t:=3) (x:=.tmp 0) (g:=Q) (off:=0) (Blk.cell (S.1.1.1.1) 0)) ?_
  refine xqg 1 [yB 5 (decide (sh<0))] ?_
  rw[show decide (sh<0)=false from uV a]
  refine xqg 1 [yB 6 false] ?_
  refine xqj 7 (.slice A l c) (fun w S=>wN (t:=97) (x:=.tmp 1) (g:=R) (off:=0) (Blk.cell (S.1.1.1.2) 0)) ?_
  refine xqj 8 (.slice A l c) (fun w S=>wN (t:=97) (x:=.tmp 1) (g:=R) (off:=0) (Blk.cell (S.1.1.1.2) 0)) ?_
  refine xqd 95 [.slice A l c,.slice A l c] 9 xI _ (fun w U S=>(Zdo S.1.2 S.1.2 qO qO).mono (fun _ _=>xG)) fun⟨f,i,j⟩=>?_
  refine xqj 10 (.slice B m d) (fun w S=>wN (t:=97) (x:=.tmp 2) (g:=T) (off:=0) (Blk.cell (S.1.1.2) 0)) ?_
  refine xqd 96 [.slice f i j,.slice B m d] 11 (fun _:Unit=>yI (cmpI ((r*r:Nat):Int) (n:Int))) _ (fun w U S=>(eZ S.2 S.1.2 (uA (ZaW _ _) qO)).mono (fun _ _ h=>zO h rfl)) fun E=>?_
  refine xqg 1 [(12,.v (.bool (((cmpI ((r*r:Nat):Int) (n:Int)):Int) != 0)))] ?_
  rw[Zs2 b]
  refine xqg 2 [yB 3 false] ?_
  refine xz (yZ (zH ?_))
  refine yR (.bool false) fun w' U S=>?_
  exact⟨by rw[uV (p:=sh<0∨r*r≠n) (by rintro (h|h);exact a h;exact h b)],U⟩
 refine yO 11 zM ?_
 refine xqj 4 (yI sh) (fun w S=>wN (t:=3) (x:=.tmp 0) (g:=Q) (off:=0) (Blk.cell (S.1.1.1.1) 0)) ?_
 refine xqg 1 [yB 5 (decide (sh<0))] ?_
 rw[show decide (sh<0)=false from uV a]
 refine xqg 1 [yB 6 false] ?_
 refine xqj 7 (.slice A l c) (fun w S=>wN (t:=97) (x:=.tmp 1) (g:=R) (off:=0) (Blk.cell (S.1.1.1.2) 0)) ?_
 refine xqj 8 (.slice A l c) (fun w S=>wN (t:=97) (x:=.tmp 1) (g:=R) (off:=0) (Blk.cell (S.1.1.1.2) 0)) ?_
 refine xqd 95 [.slice A l c,.slice A l c] 9 xI _ (fun w U S=>(Zdo S.1.2 S.1.2 qO qO).mono (fun _ _=>xG)) fun⟨k,o,q⟩=>?_
 refine xqj 10 (.slice B m d) (fun w S=>wN (t:=97) (x:=.tmp 2) (g:=T) (off:=0) (Blk.cell (S.1.1.2) 0)) ?_
 refine xqd 96 [.slice k o q,.slice B m d] 11 (fun _:Unit=>yI (cmpI ((r*r:Nat):Int) (n:Int))) _ (fun w U S=>(eZ S.2 S.1.2 (uA (ZaW _ _) qO)).mono (fun _ _ h=>zO h rfl)) fun E=>?_
 refine xqg 1 [(12,.v (.bool (((cmpI ((r*r:Nat):Int) (n:Int)):Int) != 0)))] ?_
 rw[Zs1 b]
 refine xqg 2 [yB 3 true] ?_
 refine xz (yZ (zH ?_))
 refine yR (.bool true) fun w' U S=>?_
 exact⟨by rw[vQ (p:=sh<0∨r*r≠n) (Or.inr b)],U⟩
theorem Zbl (s:Bool)(A:qA)(l c n:Nat)(e:Int)(bits:Nat)(Q R T:Nat)(sh:Int)(A1:qA)(l1 c1 r:Nat)(B:qA)(m d n1:Nat)(w:World)(hg:Glob w)(hN:zF w (.slice A l c) n)(H:wl n≤4294967296)(G0 : -576460752303423488≤e)(H0:e≤576460752303423488)(hb:bits≤4294967296)(hQ:Blk 3 w Q #[.int .i64 sh])(hR:Blk 97 w R #[.slice A1 l1 c1])(hT:Blk 97 w T #[.slice B m d])(hA:zF w (.slice A1 l1 c1) r)(hB:zF w (.slice B m d) n1)(F0:wl r≤1000000) :
 Ζ 93 #[.bool s,.slice A l c,.int .i64 e,.int .i64 ((bits:Nat):Int),.func (.func 94) #[] #[.pointer (some ⟨Q,0,none⟩),.pointer (some ⟨R,0,none⟩),.pointer (some ⟨T,0,none⟩)]] w (wE w (lJ s n e bits (decide (sh<0∨r*r≠n1)))):=by
 refine zU (Φ:=fun w=>((Glob w∧zF w (.slice A l c) (n))∧(((((Blk 3 w Q #[yI sh]∧Blk 97 w R #[.slice A1 l1 c1])∧Blk 97 w T #[.slice B m d])∧zF w (.slice A1 l1 c1) r)∧zF w (.slice B m d) n1)))) func93 rfl qK (fun w' O=>⟨⟨hg.ext O,hN.ext O⟩,⟨⟨⟨⟨hQ.ext O,hR.ext O⟩,hT.ext O⟩,hA.ext O⟩,hB.ext O⟩⟩) ?_
 refine zC ?_
 have I0:=ZgS H
 by_cases I:blen n≤bits
 ·obtain⟨k,hk⟩:∃ k,bits=blen n+k:=⟨bits-blen n,qO⟩
  refine zB (xq 2 [Δ 10,yJ 11 0] [yF 10 99 false none 0 0 0] ?_)
  refine yZ (yY (xq 1 [eS1 14 A l c] [] ?_))
  refine xqc 90 [.slice A l c] 15 (fun _:Unit=>yI (blen n:Nat)) _ (fun w U S=>(jG S.1.2 H).mono (fun _ _ h=>zO h rfl)) fun xx=>?_
  refine xq 2 [yJ 17 (IntKind.i64.wrap (((blen n:Nat):Int)-(bits:Int)))] [] ?_
  rw[show IntKind.i64.wrap (((blen n:Nat):Int)-(bits:Int)) = -(k:Int) by rw[IntKind.wrap_i64];omega]
  refine xq 1 [yJ 12 (-(k:Int))] [] ?_
  refine yZ (zC (yY (xq 2 [(19,.v (.bool (decide ((-(k:Int))≤0))))] [] ?_)))
  rw[show decide (-(k:Int)≤0)=true from vQ qO]
  refine yZ (xa (yY (xq 3 [yB 20 s,eS1 21 A l c,yJ 22 e] [] ?_)))
  obtain⟨g,J⟩:=yE (xU s (n) (e))
  refine xqc 125 [.bool s,.slice A l c, yI e] 23 (shNb g) _ (fun w U S=>((show Calls _ _ _ _ (wE w g) by rw[←J];exact kN s _ _ _ _ _ _ S.1.1.1 S.1.1.2 H qO qO)).mono (fun _ _=>wG)) fun⟨P,V,W⟩=>?_
  refine xq 4 [yJ 11 g.err] [yF 10 99 g.s P V W g.e] ?_
  refine yZ (zH (zL ?_))
  refine yR (.tuple #[yV g.s P V W g.e, yI g.err]) fun w' U S=>?_
  rw[Zdp I,J]
  exact⟨(P,V,W),rfl,S.2,U⟩
 obtain⟨j,hj⟩:∃ j,blen n=bits+(j+1):=⟨blen n-bits-1,qO⟩
 have X:0<n:=rC (fun e=>by rw[e,iT] at I;omega)
 have E:wl (n/2^(j+1))≤4294967296:=uA (lC (vJ _ _)) H
 have Y:wl (n/2^(j+1)+1)≤4294967296:=uA (lC (oL X (nO qO))) H
 obtain⟨b1,Z⟩:=yE (decide (n/2^j%2=1))
 obtain⟨b2,a0⟩:=yE (decide (n/2^(j+1)/2^0%2=1))
 obtain⟨b3,b0⟩:=yE (decide (sh<0∨r*r≠n1))
 refine zB (xq 2 [Δ 10,yJ 11 0] [yF 10 99 false none 0 0 0] ?_)
 refine yZ (yY (xq 1 [eS1 14 A l c] [] ?_))
 refine xqc 90 [.slice A l c] 15 (fun _:Unit=>yI (blen n:Nat)) _ (fun w U S=>(jG S.1.2 H).mono (fun _ _ h=>zO h rfl)) fun xx=>?_
 refine xq 2 [yJ 17 (IntKind.i64.wrap (((blen n:Nat):Int)-(bits:Int)))] [] ?_
 rw[yW (((blen n:Nat):Int)-(bits:Int)) (((j+1:Nat):Int)) qO]
 refine xq 1 [yJ 12 (j+1:Nat)] [] ?_
 refine yZ (zC (yY (xq 2 [yB 19 (decide (((j+1:Nat):Int)≤0))] [] ?_)))
 rw[show decide (((j+1:Nat):Int)≤0)=false from uV qO]
 refine yZ (xb (zJ (zA (yY (xq 2 [eS1 26 A l c,yJ 27 (j+1:Nat)] [] ?_)))))
 refine xqc 91 [.slice A l c, yI (j+1:Nat)] 28 xI _ (fun w U S=>(gX (j+1) S.1.1.2 H qO).mono (fun _ _=>xG)) fun⟨a,b,f⟩=>?_
 refine xq 1 [eS1 13 a b f] [] ?_
 refine yZ (zC (yY (xq 3 [eS1 29 A l c,yJ 31 (IntKind.i64.wrap (((j+1:Nat):Int)-1))] [] ?_)))
 rw[yW (((j+1:Nat):Int)-1) ((j:Int)) qO]
 refine xqc 126 [.slice A l c, yI j] 32 (fun _:Unit=>.bool b1) _ (fun w U S=>((show Calls _ _ _ _ (RetV w (.bool b1)) by rw[←Z];exact Zat (j) S.1.1.1.2 qO)).mono (fun _ _ h=>zO h rfl)) fun xx=>?_
 refine xq 1 [yB 33 b1] [] ?_
 rcases bl2 (b1) with i|i
 ·rw[i]
  have k1:=uC (Z.trans i)
  refine xq 1 [eS1 34 A l c] [] ?_
  refine xqc 127 [.slice A l c] 35 (fun _:Unit=>yI (tzn n:Nat)) _ (fun w U S=>(Zbi S.1.1.1.1.1 S.1.1.1.1.2 H X).mono (fun _ _ h=>zO h rfl)) fun xx=>?_
  refine xq 2 [yJ 37 (IntKind.i64.wrap (((j+1:Nat):Int)-1))] [] ?_
  rw[yW (((j+1:Nat):Int)-1) ((j:Int)) qO]
  refine xq 2 [yB 39 (decide (((tzn n:Nat):Int)<(j:Int)))] [] ?_
  rcases bl2 ((decide (((tzn n:Nat):Int)<(j:Int)))) with o|o
  ·rw[o]
   have c0:=uC o
   have k4:tzn n<j:=qO
   refine xr 8 [yB 0 s,yJ 2 e,Δ 10,yJ 11 0,yJ 12 (j+1:Nat),eS1 13 a b f,yB 47 true] [yF 10 99 false none 0 0 0] ?_
   refine yZ (xa (zB (xq 1 [eS1 48 a b f] [] ?_)))
   refine yD (d:=49) (fun F:Nat=>Υ F 1) (fun F zw=>Blk 84 zw F #[yX 1]) (fun w U S=>kJ (t:=97) (e:=84) (n:=1) (sz:=1) (z:=yX 0) (parts:=#[(0,Operand.const (Value.int IntKind.u64 1))]) qK qK qK qK qK qK) fun C0=>?_
   refine xr 0 [yB 0 s,yJ 2 e,Δ 10,yJ 11 0,yJ 12 (j+1:Nat),eS1 13 a b f,eS1 48 a b f,eS1 49 (yL C0) 1 1] [yF 10 99 false none 0 0 0] ?_
   refine xqc 124 [.slice a b f,Υ C0 1] 50 xI _ (fun w U S=>(iE S.1.1.1.2 (fP S.2) E wl_1).mono (fun _ _=>xG)) fun⟨d0,e0,f0⟩=>?_
   refine xq 1 [eS1 13 d0 e0 f0] [] ?_
   refine yZ (yY (xq 5 [yB 51 s,eS1 52 d0 e0 f0,yJ 55 (IntKind.i64.wrap (e+((j+1:Nat):Int)))] [] ?_))
   rw[yW (e+((j+1:Nat):Int)) (e+((j+1:Nat):Int)) qO]
   obtain⟨q,K⟩:=yE (xU s (n/2^(j+1)+1) ((e+((j+1:Nat):Int))))
   refine xqc 125 [.bool s,.slice d0 e0 f0, yI (e+((j+1:Nat):Int))] 56 (shNb q) _ (fun w U S=>((show Calls _ _ _ _ (wE w q) by rw[←K];exact kN s _ _ _ _ _ _ S.1.1.1.1.1.1.1.1 S.2 Y qO qO)).mono (fun _ _=>wG)) fun⟨g0,i0,j0⟩=>?_
   refine xq 4 [yJ 11 q.err] [yF 10 99 q.s g0 i0 j0 q.e] ?_
   refine yZ (zH ?_)
   refine yR (.tuple #[yV q.s g0 i0 j0 q.e, yI q.err]) fun w' U S=>?_
   rw[fV hj k1 (Or.inl k4) X,K]
   exact⟨(g0,i0,j0),rfl,S.2,U⟩
  rw[o]
  have c0:=uD o
  have k4:¬ tzn n<j:=qO
  refine xr 1 [yB 0 s,yJ 2 e,(4,.v (.func (.func 94) #[] #[.pointer (yL Q),.pointer (yL R),.pointer (yL T)])),Δ 10,yJ 11 0,yJ 12 (j+1:Nat),eS1 13 a b f,yB 33 true,yB 39 false,eS1 40 a b f] [yF 10 99 false none 0 0 0] ?_
  refine xqc 126 [.slice a b f, yI 0] 41 (fun _:Unit=>.bool b2) _ (fun w U S=>((show Calls _ _ _ _ (RetV w (.bool b2)) by rw[←a0];exact Zat (0) S.1.1.2 qO)).mono (fun _ _ h=>zO h rfl)) fun xx=>?_
  refine xq 2 [yB 43 b2] [] ?_
  rcases bl2 (b2) with u|u
  ·rw[u]
   have k2:=uC (a0.trans u)
   rw[tH,rS] at k2
   refine xq 4 [yB 47 true] [] ?_
   refine yZ (xa (zB (xq 1 [eS1 48 a b f] [] ?_)))
   refine yD (d:=49) (fun F:Nat=>Υ F 1) (fun F zw=>Blk 84 zw F #[yX 1]) (fun w U S=>kJ (t:=97) (e:=84) (n:=1) (sz:=1) (z:=yX 0) (parts:=#[(0,Operand.const (Value.int IntKind.u64 1))]) qK qK qK qK qK qK) fun D0=>?_
   refine xr 0 [yB 0 s,yJ 2 e,Δ 10,yJ 11 0,yJ 12 (j+1:Nat),eS1 13 a b f,eS1 48 a b f,eS1 49 (yL D0) 1 1] [yF 10 99 false none 0 0 0] ?_
   refine xqc 124 [.slice a b f,Υ D0 1] 50 xI _ (fun w U S=>(iE S.1.1.1.1.2 (fP S.2) E wl_1).mono (fun _ _=>xG)) fun⟨k0,l0,m0⟩=>?_
   refine xq 1 [eS1 13 k0 l0 m0] [] ?_
   refine yZ (yY (xq 5 [yB 51 s,eS1 52 k0 l0 m0,yJ 55 (IntKind.i64.wrap (e+((j+1:Nat):Int)))] [] ?_))
   rw[yW (e+((j+1:Nat):Int)) (e+((j+1:Nat):Int)) qO]
   obtain⟨x,L⟩:=yE (xU s (n/2^(j+1)+1) ((e+((j+1:Nat):Int))))
   refine xqc 125 [.bool s,.slice k0 l0 m0, yI (e+((j+1:Nat):Int))] 56 (shNb x) _ (fun w U S=>((show Calls _ _ _ _ (wE w x) by rw[←L];exact kN s _ _ _ _ _ _ S.1.1.1.1.1.1.1.1.1 S.2 Y qO qO)).mono (fun _ _=>wG)) fun⟨n0,o0,p0⟩=>?_
   refine xq 4 [yJ 11 x.err] [yF 10 99 x.s n0 o0 p0 x.e] ?_
   refine yZ (zH ?_)
   refine yR (.tuple #[yV x.s n0 o0 p0 x.e, yI x.err]) fun w' U S=>?_
   rw[fV hj k1 (Or.inr (Or.inl k2)) X,L]
   exact⟨(n0,o0,p0),rfl,S.2,U⟩
  rw[u]
  have k2:=uD (a0.trans u)
  rw[tH,rS] at k2
  refine xq 1 [(44,.v (.func (.func 94) #[] #[.pointer (yL Q),.pointer (yL R),.pointer (yL T)]))] [] ?_
  refine xqc 94 [.pointer (yL Q),.pointer (yL R),.pointer (yL T)] 45 (fun _:Unit=>.bool b3) _ (fun w U S=>((show Calls _ _ _ _ (RetV w (.bool b3)) by rw[←b0];exact (fun h=>ZnM Q R T sh A1 l1 c1 r B m d n1 _ h.1.1.1.1 h.1.1.1.2 h.1.1.2 h.1.2 h.2 F0) S.1.1.1.1.1.2)).mono (fun _ _ h=>zO h rfl)) fun xx=>?_
  refine xq 2 [yB 47 b3] [] ?_
  refine xe (zA ?_)
  refine yQ (b3) (fun G=>?_) fun G=>?_
  ·have k3:=b0.trans G
   refine zB (xq 1 [eS1 48 a b f] [] ?_)
   refine yD (d:=49) (fun F:Nat=>Υ F 1) (fun F zw=>Blk 84 zw F #[yX 1]) (fun w U S=>kJ (t:=97) (e:=84) (n:=1) (sz:=1) (z:=yX 0) (parts:=#[(0,Operand.const (Value.int IntKind.u64 1))]) qK qK qK qK qK qK) fun E0=>?_
   refine xr 0 [yB 0 s,yJ 2 e,Δ 10,yJ 11 0,yJ 12 (j+1:Nat),eS1 13 a b f,eS1 48 a b f,eS1 49 (yL E0) 1 1] [yF 10 99 false none 0 0 0] ?_
   refine xqc 124 [.slice a b f,Υ E0 1] 50 xI _ (fun w U S=>(iE S.1.1.1.1.1.2 (fP S.2) E wl_1).mono (fun _ _=>xG)) fun⟨q0,r0,s0⟩=>?_
   refine xq 1 [eS1 13 q0 r0 s0] [] ?_
   refine yZ (yY (xq 5 [yB 51 s,eS1 52 q0 r0 s0,yJ 55 (IntKind.i64.wrap (e+((j+1:Nat):Int)))] [] ?_))
   rw[yW (e+((j+1:Nat):Int)) (e+((j+1:Nat):Int)) qO]
   obtain⟨y,M⟩:=yE (xU s (n/2^(j+1)+1) ((e+((j+1:Nat):Int))))
   refine xqc 125 [.bool s,.slice q0 r0 s0, yI (e+((j+1:Nat):Int))] 56 (shNb y) _ (fun w U S=>((show Calls _ _ _ _ (wE w y) by rw[←M];exact kN s _ _ _ _ _ _ S.1.1.1.1.1.1.1.1.1.1 S.2 Y qO qO)).mono (fun _ _=>wG)) fun⟨t0,u0,v0⟩=>?_
   refine xq 4 [yJ 11 y.err] [yF 10 99 y.s t0 u0 v0 y.e] ?_
   refine yZ (zH ?_)
   refine yR (.tuple #[yV y.s t0 u0 v0 y.e, yI y.err]) fun w' U S=>?_
   rw[fV hj k1 (Or.inr (Or.inr k3)) X,M]
   exact⟨(t0,u0,v0),rfl,S.2,U⟩
  have k3:=b0.trans G
  refine zJ (zA (yY (xq 5 [yB 51 s,eS1 52 a b f,yJ 55 (IntKind.i64.wrap (e+((j+1:Nat):Int)))] [] ?_)))
  rw[yW (e+((j+1:Nat):Int)) (e+((j+1:Nat):Int)) qO]
  obtain⟨C,hr25⟩:=yE (xU s (n/2^(j+1)) ((e+((j+1:Nat):Int))))
  refine xqc 125 [.bool s,.slice a b f, yI (e+((j+1:Nat):Int))] 56 (shNb C) _ (fun w U S=>((show Calls _ _ _ _ (wE w C) by rw[←hr25];exact kN s _ _ _ _ _ _ S.1.1.1.1.1.1.1.1 S.1.1.1.1.2 E qO qO)).mono (fun _ _=>wG)) fun⟨w0,x0,y0⟩=>?_
  refine xq 4 [yJ 11 C.err] [yF 10 99 C.s w0 x0 y0 C.e] ?_
  refine yZ (zH ?_)
  refine yR (.tuple #[yV C.s w0 x0 y0 C.e, yI C.err]) fun w' U S=>?_
  rw[cC hj X (fun h=>by rcases h.2 with h|h|h;exact k4 h;exact k2 h;rw[k3] at h;cases h),hr25]
  exact⟨(w0,x0,y0),rfl,S.2,U⟩
 rw[i]
 have k1:=uD (Z.trans i)
 refine xq 14 [yB 47 false] [] ?_
 refine yZ (xb (zJ (zA (yY (xq 5 [yB 51 s,eS1 52 a b f,yJ 55 (IntKind.i64.wrap (e+((j+1:Nat):Int)))] [] ?_)))))
 rw[yW (e+((j+1:Nat):Int)) (e+((j+1:Nat):Int)) qO]
 obtain⟨D,N⟩:=yE (xU s (n/2^(j+1)) ((e+((j+1:Nat):Int))))
 refine xqc 125 [.bool s,.slice a b f, yI (e+((j+1:Nat):Int))] 56 (shNb D) _ (fun w U S=>((show Calls _ _ _ _ (wE w D) by rw[←N];exact kN s _ _ _ _ _ _ S.1.1.1.1.1 S.1.2 E qO qO)).mono (fun _ _=>wG)) fun⟨z0,A0,B0⟩=>?_
 refine xq 4 [yJ 11 D.err] [yF 10 99 D.s z0 A0 B0 D.e] ?_
 refine yZ (zH ?_)
 refine yR (.tuple #[yV D.s z0 A0 B0 D.e, yI D.err]) fun w' U S=>?_
 rw[cC hj X (fun h=>k1 h.1),N]
 exact⟨(z0,A0,B0),rfl,S.2,U⟩
theorem ZnN (s:Bool)(A:qA)(l c x:Nat)(e:Int)(bits:Nat)(U0:0<bits)(hb:bits≤4096)(w:World)(hg:Glob w)(hX:zF w (.slice A l c) x)(V0:wl x≤100000)(W0 : -1073741824≤e)(X0:e≤1073741824)(g0:x=0∨x%2=1) :
 Ζ 67 #[yV s A l c e,.int .i64 ((bits:Nat):Int)] w (wE w (fX s x e bits)):=by
 refine zU (Φ:=fun w=>(Glob w∧zF w (.slice A l c) (x))) func67 rfl qK (fun w' hf=>⟨hg.ext hf,hX.ext hf⟩) ?_
 refine zC ?_
 have Y0:=hX.len0
 have Z0:=@lR x
 have a1:=dA x
 refine zB (xq 3 [Δ 2,Δ 4,yJ 5 0] [yF 4 99 false none 0 0 0,yF 2 99 s A l c e] ?_)
 refine yZ (zC (yY (xq 2 [yB 10 s] [] ?_)))
 refine xe (zA ?_)
 refine yQ (s) (fun b0=>?_) fun b0=>?_
 ·have J:=b0
  refine yY (xq 3 [yJ 5 3] [] ?_)
  refine yZ (zH (zL ?_))
  refine yR (.tuple #[yV false none 0 0 0, yI 3]) fun w' R Q=>?_
  rw[show fX s x e bits=⟨false,0,0,3⟩ from uM J]
  exact⟨(none,0,0),rfl,zF.zero _,R⟩
 have J:=b0
 refine zJ (zA (zC (yY (xq 4 [yB 15 (((l:Int):Int) == 0)] [] ?_))))
 refine xe (zA ?_)
 refine yQ ((((l:Int):Int) == 0)) (fun c0=>?_) fun c0=>?_
 ·have n0:=sZ.1 c0
  have h0:x=0:=qO
  refine yY (xq 3 [yJ 5 0] [] ?_)
  refine yZ (zH (zL ?_))
  refine yR (.tuple #[yV false none 0 0 0, yI 0]) fun w' R Q=>?_
  rw[show fX s x e bits=⟨false,0,0,0⟩ by unfold fX;rw[uI (by rw[J];decide),uM h0]]
  exact⟨(none,0,0),rfl,zF.zero _,R⟩
 have n0:=lQ c0
 have h0:¬ x=0:=qO
 refine zJ (zA (zC ?_))
 obtain⟨a,T0⟩:=yE (2*(bits:Int)+2-((blen x:Nat):Int))
 refine zB (xq 2 [yJ 18 (IntKind.i64.wrap (2*(bits:Int)))] [] ?_)
 rw[yW (2*(bits:Int)) (2*(bits:Int)) qO]
 refine xq 1 [(19,Γ (IntKind.i64.wrap ((2*(bits:Int))+2)))] [] ?_
 rw[yW ((2*(bits:Int))+2) (2*(bits:Int)+2) qO]
 refine xq 2 [eS1 21 A l c] [] ?_
 refine xqc 90 [.slice A l c] 22 (fun _:Unit=>yI (blen x:Nat)) _ (fun w R Q=>yN (jG Q.2 qO)) fun xx=>?_
 refine xq 1 [(23,Γ (IntKind.i64.wrap ((2*(bits:Int)+2)-((blen x:Nat):Int))))] [] ?_
 rw[yW ((2*(bits:Int)+2)-((blen x:Nat):Int)) (a) qO]
 refine xq 2 [Δ 6] [(6,3,[Γ a])] ?_
 refine yZ (zC (zC ?_))
 by_cases i0:(e-a)%2=0
 ·refine zB (xq 4 [yJ 27 (IntKind.i64.wrap (e-a))] [] ?_)
  rw[yW (e-a) (e-a) qO]
  refine xq 2 [(29,.v (.bool (((((e-a)).tmod 2):Int) != 0)))] [] ?_
  rw[show (((e-a).tmod 2:Int) != 0)=false from (by rw[bne_eq_false_iff_eq,ZrX];exact i0)]
  refine yZ (xb (zJ (zA (zC ?_))))
  obtain⟨sh,o0⟩:=yE a
  rw[o0]
  have d0:x%2=1:=g0.resolve_left h0
  have k:(e-sh)%2=0:=qO
  have e0:2*(bits:Int)+2≤((blen x:Nat):Int)+sh:=qO
  have f0:((blen x:Nat):Int)+sh≤2*(bits:Int)+3:=qO
  obtain⟨Y,K⟩:=yE (fq x 1 (-sh))
  have p0:=ZbN (show 0<x by omega) sh qO
  rw[K] at p0
  have q0:wl Y≤200:=Zmu qO
  have G0:=Zpy q0
  by_cases r0:0≤sh
  ·obtain⟨j,hj⟩:∃ j:Nat,sh=j:=uS r0
   have L:x*2^j/2^0=Y:=by rw[tH,rS,← K,hj,Zar]
   have s0:j≤10000000:=qO
   have t0:wl (x*2^j)≤4000000:=Zci qO qO
   refine yO 11 zM ?_
   refine xqg 4 [eS1 33 A l c,yJ 35 (if 0>sh then 0 else sh)] ?_
   rw[(show (if 0>sh then 0 else sh)=(j:Int) by split<;>omega)]
   refine xqd 70 [.slice A l c, yI j] 36 xI _ (fun w R Q=>yM xG (jZ j Q.1.2 qO qO)) fun⟨H0,I0,J0⟩=>?_
   refine xqg 2 [yJ 38 (IntKind.i64.wrap (0-(sh)))] ?_
   rw[show IntKind.i64.wrap (0-(sh)) = -sh by rw[IntKind.wrap_i64];omega]
   refine xqg 1 [yJ 39 (if 0>(-sh) then 0 else (-sh))] ?_
   rw[(show (if 0>(-sh) then 0 else (-sh))=((0:Nat):Int) by split<;>omega)]
   refine xqd 91 [.slice H0 I0 J0, yI (0:Nat)] 40 xI _ (fun w R Q=>(gX 0 Q.2 qO qO).mono (fun _ _ h=>xG (by rw[L] at h;exact h))) fun⟨m,n,o⟩=>?_
   refine xqf 2 [Δ 7] [(7,97,[Λ m n o]),(7,97,[Ω]),(6,3,[Γ sh]),yF 4 99 false none 0 0 0,yF 2 99 s A l c e] ?_
   refine xz (yZ (yY (xr 1 [yJ 1 bits,Δ 2,Δ 4,yJ 5 0,Δ 6,Δ 7,eS1 41 m n o] [(7,97,[Λ m n o]),(6,3,[Γ sh]),yF 4 99 false none 0 0 0,yF 2 99 s A l c e] ?_)))
   refine xqc 92 [.slice m n o] 42 xI _ (fun w R Q=>yM xG (Zcp m n o Y _ Q.2 qO)) fun⟨M,N,O⟩=>?_
   refine xq 2 [Δ 8] [(8,97,[Λ M N O])] ?_
   refine yZ (zC ?_)
   refine SXc.freeze 6 3 [yI sh] (fun b=>[yJ 1 bits,Δ 2,Δ 4,yJ 5 0,(6,.v (.pointer (yL b))),Δ 7,Δ 8]) [(8,97,[Λ M N O]),(7,97,[Λ m n o]),yF 4 99 false none 0 0 0,yF 2 99 s A l c e] qK (fun _=>qK) qK qK (fun _=>qK) fun b=>?_
   refine SXc.freeze 8 97 [.slice M N O] (fun d=>[yJ 1 bits,Δ 2,Δ 4,yJ 5 0,(6,.v (.pointer (yL b))),Δ 7,(8,.v (.pointer (yL d)))]) [(7,97,[Λ m n o]),yF 4 99 false none 0 0 0,yF 2 99 s A l c e] qK (fun _=>qK) qK qK (fun _=>qK) fun d=>?_
   refine SXc.freeze 7 97 [.slice m n o] (fun f=>[yJ 1 bits,Δ 2,Δ 4,yJ 5 0,(6,.v (.pointer (yL b))),(7,.v (.pointer (yL f))),(8,.v (.pointer (yL d)))]) [yF 4 99 false none 0 0 0,yF 2 99 s A l c e] qK (fun _=>qK) qK qK (fun _=>qK) fun f=>?_
   refine zB ?_
   refine xqk 43 (.slice M N O) (fun w R Q=>wN (t:=97) (x:=.tmp 8) (g:=d) (off:=0) (Blk.cell (Q.1.2) 0)) ?_
   refine xq 2 [yJ 45 e] [] ?_
   refine xqk 46 (yI sh) (fun w R Q=>wN (t:=3) (x:=.tmp 6) (g:=b) (off:=0) (Blk.cell (Q.1.1.2) 0)) ?_
   refine xq 1 [yJ 47 (IntKind.i64.wrap (e-sh))] [] ?_
   rw[yW (e-sh) (e-sh) qO]
   refine xq 1 [yJ 48 (IntKind.i64.wrap (((e-sh)).tdiv 2))] [] ?_
   rw[show IntKind.i64.wrap ((e-sh).tdiv 2)=(e-sh)/2 by rw[Zjb k,IntKind.wrap_i64];omega]
   refine xq 2 [yJ 49 bits,(50,.v (.func (.func 94) #[] #[.pointer (yL b),.pointer (yL d),.pointer (yL f)]))] [] ?_
   obtain⟨F,j0⟩:=yE (lJ false (isq Y) ((e-sh)/2) bits (decide (sh<0∨isq Y*isq Y≠Y)))
   refine xqc 93 [.bool false,.slice M N O, yI ((e-sh)/2), yI bits,.func (.func 94) #[] #[.pointer (yL b),.pointer (yL d),.pointer (yL f)]] 51 (shNb F) _ (fun w R Q=>yM wG ((show Calls _ _ _ _ (wE w F) by rw[←j0];exact Zbl false _ _ _ _ _ bits b d f sh M N O (isq Y) m n o Y _ Q.1.1.1.1.1.1.1.1 Q.1.1.1.2 qO qO qO qO Q.1.1.2 Q.1.2 Q.2 Q.1.1.1.2 Q.1.1.1.1.2 qO))) fun⟨u0,v0,w0⟩=>?_
   refine xq 4 [yJ 5 F.err] [yF 4 99 F.s u0 v0 w0 F.e] ?_
   refine yZ (zH ?_)
   refine yR (.tuple #[yV F.s u0 v0 w0 F.e, yI F.err]) fun w' R Q=>?_
   have i:=ZaO d0 e qO sh k e0 f0
   rw[K,show jT x sh=decide (sh<0∨isq Y*isq Y≠Y) by unfold jT;rw[K]] at i
   rw[show fX s x e bits=Zbf x e bits by unfold fX;rw[uI (by rw[J];decide),uI h0],← i,j0]
   exact⟨(u0,v0,w0),rfl,Q.2,R⟩
  obtain⟨j,hj⟩:∃ j:Nat,sh = -(j:Int):=⟨(-sh).toNat,qO⟩
  have L:x*2^0/2^j=Y:=by rw[tH,sH,← K,Zmt hj]
  have s0:j≤10000000:=qO
  have t0:wl (x*2^0)≤4000000:=Zci qO qO
  refine yO 11 zM ?_
  refine xqg 4 [eS1 33 A l c,yJ 35 (if 0>sh then 0 else sh)] ?_
  rw[(show (if 0>sh then 0 else sh)=((0:Nat):Int) by split<;>omega)]
  refine xqd 70 [.slice A l c, yI (0:Nat)] 36 xI _ (fun w R Q=>yM xG (jZ 0 Q.1.2 qO qO)) fun⟨K0,L0,M0⟩=>?_
  refine xqg 2 [yJ 38 (IntKind.i64.wrap (0-(sh)))] ?_
  rw[show IntKind.i64.wrap (0-(sh)) = -sh by rw[IntKind.wrap_i64];omega]
  refine xqg 1 [yJ 39 (if 0>(-sh) then 0 else (-sh))] ?_
  rw[(show (if 0>(-sh) then 0 else (-sh))=(j:Int) by split<;>omega)]
  refine xqd 91 [.slice K0 L0 M0, yI j] 40 xI _ (fun w R Q=>(gX j Q.2 qO qO).mono (fun _ _ h=>xG (by rw[L] at h;exact h))) fun⟨q,r,u⟩=>?_
  refine xqf 2 [Δ 7] [(7,97,[Λ q r u]),(7,97,[Ω]),(6,3,[Γ sh]),yF 4 99 false none 0 0 0,yF 2 99 s A l c e] ?_
  refine xz (yZ (yY (xr 1 [yJ 1 bits,Δ 2,Δ 4,yJ 5 0,Δ 6,Δ 7,eS1 41 q r u] [(7,97,[Λ q r u]),(6,3,[Γ sh]),yF 4 99 false none 0 0 0,yF 2 99 s A l c e] ?_)))
  refine xqc 92 [.slice q r u] 42 xI _ (fun w R Q=>yM xG (Zcp q r u Y _ Q.2 qO)) fun⟨P,S,T⟩=>?_
  refine xq 2 [Δ 8] [(8,97,[Λ P S T])] ?_
  refine yZ (zC ?_)
  refine SXc.freeze 6 3 [yI sh] (fun b=>[yJ 1 bits,Δ 2,Δ 4,yJ 5 0,(6,.v (.pointer (yL b))),Δ 7,Δ 8]) [(8,97,[Λ P S T]),(7,97,[Λ q r u]),yF 4 99 false none 0 0 0,yF 2 99 s A l c e] qK (fun _=>qK) qK qK (fun _=>qK) fun b=>?_
  refine SXc.freeze 8 97 [.slice P S T] (fun d=>[yJ 1 bits,Δ 2,Δ 4,yJ 5 0,(6,.v (.pointer (yL b))),Δ 7,(8,.v (.pointer (yL d)))]) [(7,97,[Λ q r u]),yF 4 99 false none 0 0 0,yF 2 99 s A l c e] qK (fun _=>qK) qK qK (fun _=>qK) fun d=>?_
  refine SXc.freeze 7 97 [.slice q r u] (fun f=>[yJ 1 bits,Δ 2,Δ 4,yJ 5 0,(6,.v (.pointer (yL b))),(7,.v (.pointer (yL f))),(8,.v (.pointer (yL d)))]) [yF 4 99 false none 0 0 0,yF 2 99 s A l c e] qK (fun _=>qK) qK qK (fun _=>qK) fun f=>?_
  refine zB ?_
  refine xqk 43 (.slice P S T) (fun w R Q=>wN (t:=97) (x:=.tmp 8) (g:=d) (off:=0) (Blk.cell (Q.1.2) 0)) ?_
  refine xq 2 [yJ 45 e] [] ?_
  refine xqk 46 (yI sh) (fun w R Q=>wN (t:=3) (x:=.tmp 6) (g:=b) (off:=0) (Blk.cell (Q.1.1.2) 0)) ?_
  refine xq 1 [yJ 47 (IntKind.i64.wrap (e-sh))] [] ?_
  rw[yW (e-sh) (e-sh) qO]
  refine xq 1 [yJ 48 (IntKind.i64.wrap (((e-sh)).tdiv 2))] [] ?_
  rw[show IntKind.i64.wrap ((e-sh).tdiv 2)=(e-sh)/2 by rw[Zjb k,IntKind.wrap_i64];omega]
  refine xq 2 [yJ 49 bits,(50,.v (.func (.func 94) #[] #[.pointer (yL b),.pointer (yL d),.pointer (yL f)]))] [] ?_
  obtain⟨G,k0⟩:=yE (lJ false (isq Y) ((e-sh)/2) bits (decide (sh<0∨isq Y*isq Y≠Y)))
  refine xqc 93 [.bool false,.slice P S T, yI ((e-sh)/2), yI bits,.func (.func 94) #[] #[.pointer (yL b),.pointer (yL d),.pointer (yL f)]] 51 (shNb G) _ (fun w R Q=>yM wG ((show Calls _ _ _ _ (wE w G) by rw[←k0];exact Zbl false _ _ _ _ _ bits b d f sh P S T (isq Y) q r u Y _ Q.1.1.1.1.1.1.1.1 Q.1.1.1.2 qO qO qO qO Q.1.1.2 Q.1.2 Q.2 Q.1.1.1.2 Q.1.1.1.1.2 qO))) fun⟨x0,y0,z0⟩=>?_
  refine xq 4 [yJ 5 G.err] [yF 4 99 G.s x0 y0 z0 G.e] ?_
  refine yZ (zH ?_)
  refine yR (.tuple #[yV G.s x0 y0 z0 G.e, yI G.err]) fun w' R Q=>?_
  have i:=ZaO d0 e qO sh k e0 f0
  rw[K,show jT x sh=decide (sh<0∨isq Y*isq Y≠Y) by unfold jT;rw[K]] at i
  rw[show fX s x e bits=Zbf x e bits by unfold fX;rw[uI (by rw[J];decide),uI h0],← i,k0]
  exact⟨(x0,y0,z0),rfl,Q.2,R⟩
 refine zB (xq 4 [yJ 27 (IntKind.i64.wrap (e-a))] [] ?_)
 rw[yW (e-a) (e-a) qO]
 refine xq 2 [(29,.v (.bool (((((e-a)).tmod 2):Int) != 0)))] [] ?_
 rw[show (((e-a).tmod 2:Int) != 0)=true from bne_iff_ne.2 (mt (ZrX _).1 i0)]
 refine yZ (xa (zB (xq 2 [yJ 31 (IntKind.i64.wrap (a+1))] [] ?_)))
 rw[yW (a+1) (a+1) qO]
 refine xq 1 [] [(6,3,[Γ (a+1)])] ?_
 refine yZ (zC ?_)
 obtain⟨sh,o0⟩:=yE (a+1)
 rw[o0]
 have d0:x%2=1:=g0.resolve_left h0
 have k:(e-sh)%2=0:=qO
 have e0:2*(bits:Int)+2≤((blen x:Nat):Int)+sh:=qO
 have f0:((blen x:Nat):Int)+sh≤2*(bits:Int)+3:=qO
 obtain⟨Y,K⟩:=yE (fq x 1 (-sh))
 have p0:=ZbN (show 0<x by omega) sh qO
 rw[K] at p0
 have q0:wl Y≤200:=Zmu qO
 have G0:=Zpy q0
 by_cases r0:0≤sh
 ·obtain⟨j,hj⟩:∃ j:Nat,sh=j:=uS r0
  have L:x*2^j/2^0=Y:=by rw[tH,rS,← K,hj,Zar]
  have s0:j≤10000000:=qO
  have t0:wl (x*2^j)≤4000000:=Zci qO qO
  refine yO 11 zM ?_
  refine xqg 4 [eS1 33 A l c,yJ 35 (if 0>sh then 0 else sh)] ?_
  rw[(show (if 0>sh then 0 else sh)=(j:Int) by split<;>omega)]
  refine xqd 70 [.slice A l c, yI j] 36 xI _ (fun w R Q=>yM xG (jZ j Q.1.2 qO qO)) fun⟨N0,O0,P0⟩=>?_
  refine xqg 2 [yJ 38 (IntKind.i64.wrap (0-(sh)))] ?_
  rw[show IntKind.i64.wrap (0-(sh)) = -sh by rw[IntKind.wrap_i64];omega]
  refine xqg 1 [yJ 39 (if 0>(-sh) then 0 else (-sh))] ?_
  rw[(show (if 0>(-sh) then 0 else (-sh))=((0:Nat):Int) by split<;>omega)]
  refine xqd 91 [.slice N0 O0 P0, yI (0:Nat)] 40 xI _ (fun w R Q=>(gX 0 Q.2 qO qO).mono (fun _ _ h=>xG (by rw[L] at h;exact h))) fun⟨y,z,B⟩=>?_
  refine xqf 2 [Δ 7] [(7,97,[Λ y z B]),(7,97,[Ω]),(6,3,[Γ sh]),yF 4 99 false none 0 0 0,yF 2 99 s A l c e] ?_
  refine xz (yZ (yY (xr 1 [yJ 1 bits,Δ 2,Δ 4,yJ 5 0,Δ 6,Δ 7,eS1 41 y z B] [(7,97,[Λ y z B]),(6,3,[Γ sh]),yF 4 99 false none 0 0 0,yF 2 99 s A l c e] ?_)))
  refine xqc 92 [.slice y z B] 42 xI _ (fun w R Q=>yM xG (Zcp y z B Y _ Q.2 qO)) fun⟨U,V,W⟩=>?_
  refine xq 2 [Δ 8] [(8,97,[Λ U V W])] ?_
  refine yZ (zC ?_)
  refine SXc.freeze 6 3 [yI sh] (fun b=>[yJ 1 bits,Δ 2,Δ 4,yJ 5 0,(6,.v (.pointer (yL b))),Δ 7,Δ 8]) [(8,97,[Λ U V W]),(7,97,[Λ y z B]),yF 4 99 false none 0 0 0,yF 2 99 s A l c e] qK (fun _=>qK) qK qK (fun _=>qK) fun b=>?_
  refine SXc.freeze 8 97 [.slice U V W] (fun d=>[yJ 1 bits,Δ 2,Δ 4,yJ 5 0,(6,.v (.pointer (yL b))),Δ 7,(8,.v (.pointer (yL d)))]) [(7,97,[Λ y z B]),yF 4 99 false none 0 0 0,yF 2 99 s A l c e] qK (fun _=>qK) qK qK (fun _=>qK) fun d=>?_
  refine SXc.freeze 7 97 [.slice y z B] (fun f=>[yJ 1 bits,Δ 2,Δ 4,yJ 5 0,(6,.v (.pointer (yL b))),(7,.v (.pointer (yL f))),(8,.v (.pointer (yL d)))]) [yF 4 99 false none 0 0 0,yF 2 99 s A l c e] qK (fun _=>qK) qK qK (fun _=>qK) fun f=>?_
  refine zB ?_
  refine xqk 43 (.slice U V W) (fun w R Q=>wN (t:=97) (x:=.tmp 8) (g:=d) (off:=0) (Blk.cell (Q.1.2) 0)) ?_
  refine xq 2 [yJ 45 e] [] ?_
  refine xqk 46 (yI sh) (fun w R Q=>wN (t:=3) (x:=.tmp 6) (g:=b) (off:=0) (Blk.cell (Q.1.1.2) 0)) ?_
  refine xq 1 [yJ 47 (IntKind.i64.wrap (e-sh))] [] ?_
  rw[yW (e-sh) (e-sh) qO]
  refine xq 1 [yJ 48 (IntKind.i64.wrap (((e-sh)).tdiv 2))] [] ?_
  rw[show IntKind.i64.wrap ((e-sh).tdiv 2)=(e-sh)/2 by rw[Zjb k,IntKind.wrap_i64];omega]
  refine xq 2 [yJ 49 bits,(50,.v (.func (.func 94) #[] #[.pointer (yL b),.pointer (yL d),.pointer (yL f)]))] [] ?_
  obtain⟨H,l0⟩:=yE (lJ false (isq Y) ((e-sh)/2) bits (decide (sh<0∨isq Y*isq Y≠Y)))
  refine xqc 93 [.bool false,.slice U V W, yI ((e-sh)/2), yI bits,.func (.func 94) #[] #[.pointer (yL b),.pointer (yL d),.pointer (yL f)]] 51 (shNb H) _ (fun w R Q=>yM wG ((show Calls _ _ _ _ (wE w H) by rw[←l0];exact Zbl false _ _ _ _ _ bits b d f sh U V W (isq Y) y z B Y _ Q.1.1.1.1.1.1.1.1 Q.1.1.1.2 qO qO qO qO Q.1.1.2 Q.1.2 Q.2 Q.1.1.1.2 Q.1.1.1.1.2 qO))) fun⟨A0,B0,C0⟩=>?_
  refine xq 4 [yJ 5 H.err] [yF 4 99 H.s A0 B0 C0 H.e] ?_
  refine yZ (zH ?_)
  refine yR (.tuple #[yV H.s A0 B0 C0 H.e, yI H.err]) fun w' R Q=>?_
  have i:=ZaO d0 e qO sh k e0 f0
  rw[K,show jT x sh=decide (sh<0∨isq Y*isq Y≠Y) by unfold jT;rw[K]] at i
  rw[show fX s x e bits=Zbf x e bits by unfold fX;rw[uI (by rw[J];decide),uI h0],← i,l0]
  exact⟨(A0,B0,C0),rfl,Q.2,R⟩
 obtain⟨j,hj⟩:∃ j:Nat,sh = -(j:Int):=⟨(-sh).toNat,qO⟩
 have L:x*2^0/2^j=Y:=by rw[tH,sH,← K,Zmt hj]
 have s0:j≤10000000:=qO
 have t0:wl (x*2^0)≤4000000:=Zci qO qO
 refine yO 11 zM ?_
 refine xqg 4 [eS1 33 A l c,yJ 35 (if 0>sh then 0 else sh)] ?_
 rw[(show (if 0>sh then 0 else sh)=((0:Nat):Int) by split<;>omega)]
 refine xqd 70 [.slice A l c, yI (0:Nat)] 36 xI _ (fun w R Q=>yM xG (jZ 0 Q.1.2 qO qO)) fun⟨Q0,R0,S0⟩=>?_
 refine xqg 2 [yJ 38 (IntKind.i64.wrap (0-(sh)))] ?_
 rw[show IntKind.i64.wrap (0-(sh)) = -sh by rw[IntKind.wrap_i64];omega]
 refine xqg 1 [yJ 39 (if 0>(-sh) then 0 else (-sh))] ?_
 rw[(show (if 0>(-sh) then 0 else (-sh))=(j:Int) by split<;>omega)]
 refine xqd 91 [.slice Q0 R0 S0, yI j] 40 xI _ (fun w R Q=>(gX j Q.2 qO qO).mono (fun _ _ h=>xG (by rw[L] at h;exact h))) fun⟨C,D,E⟩=>?_
 refine xqf 2 [Δ 7] [(7,97,[Λ C D E]),(7,97,[Ω]),(6,3,[Γ sh]),yF 4 99 false none 0 0 0,yF 2 99 s A l c e] ?_
 refine xz (yZ (yY (xr 1 [yJ 1 bits,Δ 2,Δ 4,yJ 5 0,Δ 6,Δ 7,eS1 41 C D E] [(7,97,[Λ C D E]),(6,3,[Γ sh]),yF 4 99 false none 0 0 0,yF 2 99 s A l c e] ?_)))
 refine xqc 92 [.slice C D E] 42 xI _ (fun w R Q=>yM xG (Zcp C D E Y _ Q.2 qO)) fun⟨X,Z,a0⟩=>?_
 refine xq 2 [Δ 8] [(8,97,[Λ X Z a0])] ?_
 refine yZ (zC ?_)
 refine SXc.freeze 6 3 [yI sh] (fun b=>[yJ 1 bits,Δ 2,Δ 4,yJ 5 0,(6,.v (.pointer (yL b))),Δ 7,Δ 8]) [(8,97,[Λ X Z a0]),(7,97,[Λ C D E]),yF 4 99 false none 0 0 0,yF 2 99 s A l c e] qK (fun _=>qK) qK qK (fun _=>qK) fun b=>?_
 refine SXc.freeze 8 97 [.slice X Z a0] (fun d=>[yJ 1 bits,Δ 2,Δ 4,yJ 5 0,(6,.v (.pointer (yL b))),Δ 7,(8,.v (.pointer (yL d)))]) [(7,97,[Λ C D E]),yF 4 99 false none 0 0 0,yF 2 99 s A l c e] qK (fun _=>qK) qK qK (fun _=>qK) fun d=>?_
 refine SXc.freeze 7 97 [.slice C D E] (fun f=>[yJ 1 bits,Δ 2,Δ 4,yJ 5 0,(6,.v (.pointer (yL b))),(7,.v (.pointer (yL f))),(8,.v (.pointer (yL d)))]) [yF 4 99 false none 0 0 0,yF 2 99 s A l c e] qK (fun _=>qK) qK qK (fun _=>qK) fun f=>?_
 refine zB ?_
 refine xqk 43 (.slice X Z a0) (fun w R Q=>wN (t:=97) (x:=.tmp 8) (g:=d) (off:=0) (Blk.cell (Q.1.2) 0)) ?_
 refine xq 2 [yJ 45 e] [] ?_
 refine xqk 46 (yI sh) (fun w R Q=>wN (t:=3) (x:=.tmp 6) (g:=b) (off:=0) (Blk.cell (Q.1.1.2) 0)) ?_
 refine xq 1 [yJ 47 (IntKind.i64.wrap (e-sh))] [] ?_
 rw[yW (e-sh) (e-sh) qO]
 refine xq 1 [yJ 48 (IntKind.i64.wrap (((e-sh)).tdiv 2))] [] ?_
 rw[show IntKind.i64.wrap ((e-sh).tdiv 2)=(e-sh)/2 by rw[Zjb k,IntKind.wrap_i64];omega]
 refine xq 2 [yJ 49 bits,(50,.v (.func (.func 94) #[] #[.pointer (yL b),.pointer (yL d),.pointer (yL f)]))] [] ?_
 obtain⟨I,m0⟩:=yE (lJ false (isq Y) ((e-sh)/2) bits (decide (sh<0∨isq Y*isq Y≠Y)))
 refine xqc 93 [.bool false,.slice X Z a0, yI ((e-sh)/2), yI bits,.func (.func 94) #[] #[.pointer (yL b),.pointer (yL d),.pointer (yL f)]] 51 (shNb I) _ (fun w R Q=>yM wG ((show Calls _ _ _ _ (wE w I) by rw[←m0];exact Zbl false _ _ _ _ _ bits b d f sh X Z a0 (isq Y) C D E Y _ Q.1.1.1.1.1.1.1.1 Q.1.1.1.2 qO qO qO qO Q.1.1.2 Q.1.2 Q.2 Q.1.1.1.2 Q.1.1.1.1.2 qO))) fun⟨D0,E0,F0⟩=>?_
 refine xq 4 [yJ 5 I.err] [yF 4 99 I.s D0 E0 F0 I.e] ?_
 refine yZ (zH ?_)
 refine yR (.tuple #[yV I.s D0 E0 F0 I.e, yI I.err]) fun w' R Q=>?_
 have i:=ZaO d0 e qO sh k e0 f0
 rw[K,show jT x sh=decide (sh<0∨isq Y*isq Y≠Y) by unfold jT;rw[K]] at i
 rw[show fX s x e bits=Zbf x e bits by unfold fX;rw[uI (by rw[J];decide),uI h0],← i,m0]
 exact⟨(D0,E0,F0),rfl,Q.2,R⟩
end Go.Proofs.YtmpffakfhcpjoaaGreatDoor
namespace Go.Proofs.YtmpffakfhcpjoaaGreatDoor
theorem Zq8 {z:Int}(h:z≠0):∃ (o:Int) (t:Nat),z=o*2^t∧o%2=1∧blen o.natAbs≤blen z.natAbs∧t≤blen z.natAbs:=by
 have a:0<z.natAbs:=qO
 obtain⟨b,c⟩:=kM a
 have d:=Zkm a
 refine⟨sg (decide (z<0)) (oddM z.natAbs),tzn z.natAbs,?_,Zo2 b,?_,qO⟩
 ·rw[Zkn,← c,ZbQ]
 rw[Zg2]
 refine xH.2 (vA ?_ (xH.1 (uF (blen z.natAbs))))
 unfold oddM
 exact vJ _ _
theorem Zq9 {z x:Int}{a:Nat}(j:blen z.natAbs≤a)(ha:a≤100000)(e : -100000≤x)(f:x≤100000):wO (qv z x):=by
 by_cases c:z=0
 ·subst c
  rw[ZhW]
  exact⟨by show ml 0≤100000;exact Zuj _,by show ml 1≤100000;exact uA ZiG qD⟩
 obtain⟨o,t,rfl,g,l,m⟩:=Zq8 c
 rw[Zer,← Zpt]
 by_cases d:0≤x+t
 ·obtain⟨k,b⟩:=uS d
  rw[Ze8 b]
  refine⟨?_,by show ml 1≤100000;exact uA ZiG qD⟩
  show ml (o*2^k).natAbs≤100000
  rw[oE,show ((2:Int)^k).natAbs=2^k by rw[Int.natAbs_pow];rfl]
  exact Zbw (ZfY (n:=a) qO qO)
 obtain⟨k,b⟩:=uS (show 0 ≤ -(x+t) by omega)
 obtain⟨h,i⟩:=Zg6 (k:=k) g
 rw[ZhV b d]
 unfold wO
 rw[h,i]
 exact⟨Zbw qO,Zbw (ZhX qO)⟩
theorem RF.of {z x:Int}{n:Nat}(a:0<n)(b:(z=0∧x=0)∨(z%2=1∧okE x))(h:blen z.natAbs≤n):RF (qv z x) n z x:=by
 have c:Rep n (qv z x):=by
  refine⟨decide (z<0),z.natAbs,x,?_,pA (xH.1 h)⟩
  have:=Zja (decide (z<0)) z.natAbs x
  rw[ZbQ] at this
  exact this
 exact⟨c.rnd a,b,h⟩
theorem Zpz {F n:Nat}(c:2*n+1≤blen F)(b:blen F≤2*n+2):2^n≤isq F∧isq F<2^(n+1):=by
 obtain⟨d,e⟩:=dM F
 have l:=iZ.1 (show 2*n<blen F by omega)
 have u:=xH.1 b
 constructor
 ·refine Nat.le_of_not_lt fun h=>?_
  have a:=vK (show isq F+1≤2^n by omega) (show isq F+1≤2^n by omega)
  rw[←uU,show n+n=2*n by omega] at a
  omega
 refine qY fun h=>?_
 have a:=vK h h
 rw[←uU,show n+1+(n+1)=2*n+2 by omega] at a
 omega
theorem ZpA {M n:Nat}{E:Int}(b:0<M)(e:0<n):2^(n-1)≤sqM M E n∧sqM M E n≤2^n:=by
 have f:(blen M:Int)+(E-2*sqK M E n+2)=2*n+1∨(blen M:Int)+(E-2*sqK M E n+2)=2*n+2:=by unfold sqK;omega
 have g:=ZbN b (E-2*sqK M E n+2) qO
 unfold sqM
 generalize fq M 1 (-(E-2*sqK M E n+2))=F at *
 obtain⟨h,i⟩:=Zpz (F:=F) (n:=n) qO qO
 generalize jT M (E-2*sqK M E n+2)=mk
 obtain⟨j,rfl⟩:∃ j,n=j+1:=⟨n-1,qO⟩
 obtain⟨m,a⟩:=yE (gB (isq F) 0 mk)
 have c:=Zpv a
 rw[a,tK]
 have k:2^(j+1)=2*2^j:=by rw[uO];omega
 have d:2^(j+1+1)=2*2^(j+1):=by rw[uO];omega
 omega
structure RtF (z x:Int) (n:Nat) (R:Nat) (e:Int):Prop where
 f:RF (qv (R:Int) e) n (R:Int) e
 e1 : -900≤e
 e2:e≤900
 lo:(qv R e-qv R e*2^(-(n:Int)))*(qv R e-qv R e*2^(-(n:Int)))≤qv z x
 hi:qv z x≤(qv R e+qv R e*2^(-(n:Int)))*(qv R e+qv R e*2^(-(n:Int)))
section
variable {z x:Int}
theorem Zun (a b x y:Int):qv a x*qv b y=qv (a*b) (x+y):=by
 unfold qv
 rw[eW,qL];grind
theorem Zuo (a b x:Int):qv a x-qv b x=qv (a-b) x:=by unfold qv;rw[Rat.intCast_sub];grind
theorem ZpB (a b x:Int):qv a x+qv b x=qv (a+b) x:=by unfold qv;rw[nI];grind
theorem Zup {p q:Rat}(h:p≤q):(p-q).num.sign≤0:=by
 have a:=Rat.num_nonneg.2 (show 0 ≤ -(p-q) by grind)
 rw[Rat.neg_num] at a
 rw[Int.sign_nonpos_iff];omega
theorem ZpC {a b:Int}{s t:Nat}(ha:blen a.natAbs≤s)(c:blen b.natAbs≤t):blen (a*b).natAbs≤s+t:=by
 rw[oE]
 refine xH.2 ?_
 rw[uU]
 exact pY (xH.1 ha) (xH.1 c)
theorem ZpD {a b:Int}{s:Nat}(ha:blen a.natAbs≤s)(c:blen b.natAbs≤s):blen (a+b).natAbs≤s+1:=by
 have d:=xH.1 ha
 have e:=xH.1 c
 refine xH.2 ?_
 rw[uO]
 omega
theorem ZpE {a b:Int}{s:Nat}(ha:blen a.natAbs≤s)(c:blen b.natAbs≤s):blen (a-b).natAbs≤s+1:=by
 have d:=xH.1 ha
 have e:=xH.1 c
 refine xH.2 ?_
 rw[uO]
 omega
end
end Go.Proofs.YtmpffakfhcpjoaaGreatDoor
namespace Go.Proofs.YtmpffakfhcpjoaaGreatDoor
open Go.RowKit Tryz
theorem ZnR (s:Bool)(A:qA)(l c:Nat)(e:Int)(w:World)(a:zF w (.slice A l c) 0) :
 Ζ 121 #[yV s A l c e] w (RetV w (yV s A l c e)):=by
 refine zU (Φ:=fun w=>zF w (.slice A l c) (0)) func121 rfl qK (fun w' b=>a.ext b) ?_
 refine zC ?_
 have d:=a.len0
 have f:=@lR 0
 refine zB (xq 2 [Δ 1,Δ 2] [yF 2 99 false none 0 0 0,yF 1 99 s A l c e] ?_)
 refine yZ (zC (yY (xq 4 [yB 6 (decide ((l:Int)>0))] [] ?_)))
 rw[show decide ((l:Int)>0)=false from uV qO]
 refine yZ (xb (zJ (zA (yY (xq 2 [] [yF 2 99 s A l c e] ?_)))))
 refine yZ (zH ?_)
 refine yR (yV s A l c e) fun w' R Q=>?_
 exact⟨rfl,R⟩
theorem ZpK (s:Bool)(A:qA)(l c x:Nat)(e:Int)(t:Bool)(B:qA)(m d y:Nat)(f:Int)(bits:Nat)(z:0<bits)(J:bits≤4096)(w:World)(K:Glob w)(L:zF w (.slice A l c) x)(C:wl x≤100000)(D : -1073741824≤e)(E:e≤1073741824)(M:zF w (.slice B m d) y)(F:wl y≤100000)(G : -1073741824≤f)(H:f≤1073741824) :
 Ζ 88 #[yV s A l c e, yV t B m d f,.int .i64 ((bits:Nat):Int)] w (wE w (sumR s x e (if y=0 then t else !t) y f bits)):=by
 refine zU (Φ:=fun w=>((Glob w∧zF w (.slice A l c) (x))∧zF w (.slice B m d) (y))) func88 rfl qK (fun w' I=>⟨⟨K.ext I,L.ext I⟩,M.ext I⟩) ?_
 refine yY (xq 4 [Δ 3,Δ 4,Δ 6,yJ 7 0] [yF 6 99 false none 0 0 0,yF 4 99 t B m d f,yF 3 99 s A l c e] ?_)
 refine yZ (zC ?_)
 by_cases j:y=0
 ·refine yO 9 zM ?_
  refine xqg 2 [(8,.v (yV s A l c e)),(9,.v (yV t B m d f))] ?_
  refine xqd 121 [yV t B m d f] 10 (fun _:Unit=>.agg #[.bool t,.slice B m d, yI f]) _ (fun w R Q=>yN (ZnR t B m d f _ (by have h:=Q.2;rw[j] at h;exact h))) fun N=>?_
  refine xqg 1 [yJ 11 bits] ?_
  obtain⟨a,g⟩:=yE (sumR s x e t y f bits)
  refine xqd 120 [yV s A l c e, yV t B m d f, yI bits] 12 (shNb a) _ (fun w R Q=>yM wG ((show Calls _ _ _ _ (wE w a) by rw[←g];exact Zix s A l c x e t B m d y f bits z J _ Q.1.1.1 Q.1.1.2 C D E Q.1.2 F G H))) fun⟨k,n,o⟩=>?_
  refine xqf 4 [yJ 7 a.err] [yF 6 99 a.s k n o a.e,yF 6 99 false none 0 0 0,yF 4 99 t B m d f,yF 3 99 s A l c e] ?_
  refine xz (yZ (zH ?_))
  refine yR (.tuple #[yV a.s k n o a.e, yI a.err]) fun w' R Q=>?_
  rw[show (if y=0 then t else !t)=t from uM j,g]
  exact⟨(k,n,o),rfl,Q.2,R⟩
 refine yO 9 zM ?_
 refine xqg 2 [(8,.v (yV s A l c e)),(9,.v (yV t B m d f))] ?_
 refine xqd 121 [yV t B m d f] 10 (fun _:Unit=>.agg #[.bool (!t),.slice B m d, yI f]) _ (fun w R Q=>yN (Zpu t B m d y f _ Q.2 qO)) fun N=>?_
 refine xqg 1 [yJ 11 bits] ?_
 obtain⟨b,i⟩:=yE (sumR s x e ((!t)) y f bits)
 refine xqd 120 [yV s A l c e, yV (!t) B m d f, yI bits] 12 (shNb b) _ (fun w R Q=>yM wG ((show Calls _ _ _ _ (wE w b) by rw[←i];exact Zix s A l c x e ((!t)) B m d y f bits z J _ Q.1.1.1 Q.1.1.2 C D E Q.1.2 F G H))) fun⟨q,r,u⟩=>?_
 refine xqf 4 [yJ 7 b.err] [yF 6 99 b.s q r u b.e,yF 6 99 false none 0 0 0,yF 4 99 t B m d f,yF 3 99 s A l c e] ?_
 refine xz (yZ (zH ?_))
 refine yR (.tuple #[yV b.s q r u b.e, yI b.err]) fun w' R Q=>?_
 rw[show (if y=0 then t else !t)=(!t) from uI j,i]
 exact⟨(q,r,u),rfl,Q.2,R⟩
end Go.Proofs.YtmpffakfhcpjoaaGreatDoor
