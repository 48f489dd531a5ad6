/-
 My texts Rw, Rw2, Rw3, Pd, Wp, Reduce, Frac, Ra, Num6, Num7, RStr, CrtM, Fermat, DecR, Rt, Reduce2, Vl, Whole, Ts, Ai, Fs, Cmp, Tx, Sign, Dc, Len, Sx26, Sx28, Sx10 put together.
-/
import Derived.Test.YtoanifijmlgcgaaGreatDoorD16
import Derived.Test.YtoanifijmlgcgaaGreatDoorD18
import Derived.Shelf.Strings.SplitCore
import Derived.Deep.RegionWith
import Derived.ArgAppend
import Derived.Test.YtoanifijmlgcgaaGreatDoorD15
import Derived.Test.YtoanifijmlgcgaaGreatDoorD11
import Derived.Test.YtoanifijmlgcgaaGreatDoorD10
import Derived.Test.YtoanifijmlgcgaaGreatDoorD08
import Derived.Test.YtoanifijmlgcgaaGreatDoorD02
import Derived.Laws.StructEq
set_option maxRecDepth 100000
set_option maxHeartbeats 8000000
namespace Go.Proofs.YtoanifijmlgcgaaGreatDoor
open Go.RowKit
structure LineAt (s:ByteArray) (p:Nat) (k:ByteArray) (ss:List ByteArray):Prop where
 rest:∃ r,s.data.toList.drop p=bytes k ++ wX ss ++ 10 :: r
 sp:∀ x∈k :: ss,(32:UInt8) ∉ bytes x
 nl:∀ x∈k :: ss,(10:UInt8) ∉ bytes x
def Zbp (zs:List Int):Array Value:=(zs.map (Value.int .i64)).toArray
theorem IRow.cells {w:World}{b:Nat}{zs:List Int}(h:Blk 3 w b (Zbp zs)):IRow w (some ⟨b,0,none⟩) zs:=fun i a=>by
 refine⟨b,0,rfl,h.lt,?_⟩
 rw[vO,h.cell]
 unfold Zbp nth
 simp[List.getElem?_eq_getElem a]
structure TermR where
 coef:ByteArray
 A:Option Addr
 cap:Nat
 exps:List Int
instance:Inhabited TermR:=⟨⟨⟨#[]⟩,none,0,[]⟩⟩
def TRow (w:World) (A:Option Addr) (ts:List TermR):Prop:=∀ i,i<ts.length→∃ b off,A=some ⟨b,off,none⟩∧b<w.heap.size∧w.cell? ⟨b,off+i*2,none⟩=some (.string ts[i]!.coef) ∧
 w.cell? ⟨b,off+i*2+1,none⟩=some (.slice ts[i]!.A ts[i]!.exps.length ts[i]!.cap)∧IRow w ts[i]!.A ts[i]!.exps
theorem TRow.ext {w w':World}{A:Option Addr}{ts:List TermR}(h:TRow w A ts)(c:Ext w w'):TRow w' A ts:=fun i g=>by
 obtain⟨b,a,e,d,j,k,l⟩:=h i g
 exact⟨b,a,e,uX d c.size,(c.cell (p:=⟨b,a+i*2,none⟩) d (fun f=>f)).trans j,(c.cell (p:=⟨b,a+i*2+1,none⟩) d (fun f=>f)).trans k,l.ext c⟩
def expB (e:Int):Bool:=decide (0≤e) && decide (e≤1048576)
def bD (l:List UInt8):Bool:=match xI l with
 | some q=>decide (q≠0)
 | none=>false
def xM (v:Int) (t:TermR):Bool:=bD (bytes t.coef) && (decide ((t.exps.length:Int)=v) && t.exps.all expB)
def wfT (v:Int) (ts:List TermR):Nat→Bool
 | 0=>true
 | k+1=>wfT v ts k && (xM v ts[k]! && (decide (k=0) || decide (0<ordF ts[k-1]!.exps ts[k]!.exps)))
def wP (v:Int) (ts:List TermR):Bool:=decide (ts.length≤4096) && (decide (0≤v) && (decide (v≤6) && (wfT v ts ts.length && (decide (ts.length=0) || decide ((0:Int)≤degF ts[0]!.exps)))))
theorem Zba {zs:List Int}{i:Nat}(h:i<zs.length):nth zs i∈zs:=by
 unfold nth;rw[List.getElem?_eq_getElem h];exact tY h
theorem Zmv {zs:List Int}(h:zs.all expB=true)(i:Nat):0≤nth zs i∧nth zs i≤1048576:=by
 rcases uZ i zs.length with a|a
 ·have:=vC.1 h _ (Zba a)
  unfold expB at this
  rw[vG,vF,vF] at this
  exact this
 unfold nth;rw[List.getElem?_eq_none a];simp
theorem xM.exp {v:Int}{t:TermR}(h:xM v t=true)(a:v≤6):cY t.exps∧(t.exps.length:Int)=v:=by
 unfold xM at h
 rw[vG,vG,vF] at h
 exact⟨⟨by have:=h.2.1;omega,Zmv h.2.2⟩,h.2.1⟩
theorem ZgX {zs:List Int}{i:Nat}(hi:i<zs.length)(h:expB (nth zs i)=false):zs.all expB=false:=by
 cases h2:zs.all expB with
 | false=>rfl
 | true=>have:=vC.1 h2 _ (Zba hi);rw[h] at this;cases this
theorem Zih {zs:List Int}(h:∀ i,i<zs.length→expB (nth zs i)=true):zs.all expB=true:=by
 rw[vC]
 intro x b
 obtain⟨i,a,e⟩:=List.mem_iff_getElem.1 b
 have:=h i a
 unfold nth at this
 rw[List.getElem?_eq_getElem a,e] at this
 exact this
theorem ZgY {v:Int}{ts:List TermR}{k:Nat}(h:wfT v ts k=false):∀ n,k≤n→wfT v ts n=false:=by
 intro n b
 induction n with
 | zero=>
  obtain rfl:k=0:=by omega
  exact h
 | succ n ih =>
  rcases (by omega:k=n+1∨k≤n) with rfl|a
  ·exact h
  unfold wfT;rw[ih a,qM]
section
variable {P:Program} {o:Oper} {ρ:Operand→Value} {w:World} {t e:TypeId} {x ix:Operand}
theorem IRow.ne {A:Option Addr}{zs:List Int}{i:Nat}(h:IRow w A zs)(hi:i<zs.length):A≠none:=by
 obtain⟨b,a,rfl,_⟩:=h i hi;simp
theorem TRow.ne {A:Option Addr}{ts:List TermR}{i:Nat}(h:TRow w A ts)(hi:i<ts.length):A≠none:=by
 obtain⟨b,a,rfl,_⟩:=h i hi;simp
theorem wT {A:Option Addr}{len cap i sz:Nat}(hA:A≠none)(h:i<len)(c:o.op=Op.indexAddr t x ix:=by kernel_rfl)(d:P.underlying t=some (.slice e):=by kernel_rfl)(f:(P.info? e).map (fun i=>i.size)=some sz:=by kernel_rfl)(g:ρ x=.slice A len cap:=by kernel_rfl)(hi:ρ ix=.int .i64 (i:Int):=by kernel_rfl):(execOp ρ o).run P w=.ok (.value (atA A (i*sz))) w:=by
 obtain⟨j,b,k⟩:=uV.1 f
 obtain⟨a,rfl⟩:∃ a,A=some a:=by cases A;exact absurd rfl hA;exact⟨_,rfl⟩
 have l:(0:Int)≤(i:Int)∧(i:Int)<(len:Int):=by omega
 simp[execOp,c,Instr.indexAt,asIntOf,underlying,d,g,hi,h,sizeOf,typeInfo,b,k,Result.andThen,atA]
theorem kI {A:Option Addr}{zs:List Int}{j:Nat}(a:IRow w A zs)(b:j<zs.length)(c:o.op=Op.load t x:=by kernel_rfl)(d:ρ x=atA A (j*1):=by kernel_rfl)(f:(teOf P t).map (fun e=>e.agg)=some false:=by kernel_rfl) :
 (execOp ρ o).run P w=.ok (.value (.int .i64 (nth zs j))) w:=by
 obtain⟨g,h,rfl,_,i⟩:=a j b
 exact gT i c (by rw[d,atA,sH,iC,Nat.mul_one]) f
theorem Zii {A:Option Addr}{ts:List TermR}{j:Nat}(c:TRow w A ts)(d:j<ts.length)(f:o.op=Op.load t x:=by kernel_rfl)(k:ρ x=atA A (j*2):=by kernel_rfl)(a:(teOf P t).map (fun e=>(e.agg,e.size))=some (true,2):=by kernel_rfl) :
 (execOp ρ o).run P w=.ok (.value (.agg #[.string ts[j]!.coef,.slice ts[j]!.A ts[j]!.exps.length ts[j]!.cap])) w:=by
 obtain⟨g,off,rfl,_,l,m,_⟩:=c j d
 obtain⟨p,b,h⟩:=uV.1 a
 injection h with a hn
 have:=fO (P:=P) (w:=w) b (g:=g) (off:=off+j*2) (cs:=[.string ts[j]!.coef,.slice ts[j]!.A ts[j]!.exps.length ts[j]!.cap]) hn.symm (fun i n=>by
  rcases (by simp at n;omega:i=0∨i=1) with rfl|rfl
  ·exact l
  exact m) a
 simp only[execOp,f,k,atA,sH,iC,Sem.run_bind,this,Result.andThen_ok,Sem.run_pure]
theorem Zmw {bt:TypeId}{g:Nat}{cs:List Value}(c:Blk bt w g cs.toArray)(d:o.op=Op.load t x:=by kernel_rfl)(f:ρ x=.pointer (some ⟨g,0,none⟩):=by kernel_rfl)(a:(teOf P t).map (fun e=>(e.agg,e.size))=some (true,cs.length):=by kernel_rfl) :
 (execOp ρ o).run P w=.ok (.value (.agg cs.toArray)) w:=by
 obtain⟨k,b,h⟩:=uV.1 a
 injection h with a hn
 have:=fO (P:=P) (w:=w) b (g:=g) (off:=0) (cs:=cs) hn.symm (fun i j=>by rw[vO,c.cell];simp[j]) a
 simp only[execOp,d,f,Sem.run_bind,this,Result.andThen_ok,Sem.run_pure]
theorem Zij {z:Int}(a:¬ z<0)(b:¬ 1048576<z):expB z=true:=by
 unfold expB;rw[vG,vF,vF];omega
theorem Zmx {A:Option Addr}{ts:List TermR}{j:Nat}(a:TRow w A ts)(b:j<ts.length)(c:o.op=Op.load t x:=by kernel_rfl)(d:ρ x=atA A (j*2+1):=by kernel_rfl)(f:(teOf P t).map (fun e=>e.agg)=some false:=by kernel_rfl) :
 (execOp ρ o).run P w=.ok (.value (.slice ts[j]!.A ts[j]!.exps.length ts[j]!.cap)) w:=by
 obtain⟨g,h,rfl,_,_,i,_⟩:=a j b
 exact gT i c (by rw[d,atA,sH,iC,tR]) f
end
def jP:ByteArray:=⟨#[112,111,108,121]⟩
def Zbq:ByteArray:=⟨#[116,101,114,109]⟩
def lN (t:TermR):List UInt8:=wY Zbq (t.coef :: t.exps.map zO)
def kZ (v:Int) (ts:List TermR):List UInt8:=wY jP [zO v,zO (ts.length:Int)] ++ ts.flatMap lN
theorem IRow.two {w:World}{b:Nat}{x y:Int}(h:Blk 3 w b #[.int .i64 x,.int .i64 y]):IRow w (some ⟨b,0,none⟩) [x,y]:=fun i a=>by
 refine⟨b,0,rfl,h.lt,?_⟩
 rw[vO,h.cell]
 match i,a with
 | 0,_=>rfl
 | 1,_=>rfl
theorem TRow.exps' {w:World}{A:Option Addr}{ts:List TermR}(h:TRow w A ts){i:Nat}(hi:i<ts.length):IRow w ts[i]!.A ts[i]!.exps:=by
 obtain⟨_,_,_,_,_,_,h⟩:=h i hi;exact h
section
variable {N:Nat} {S0:Nat→Prop} {w:World} {Φ:World→Prop} {P:Program}
theorem lW (S0:Nat→Prop){fn:Func}{f:FuncId}{c:Code}{a:List Value}{R:Ending→World→Prop}(k:P.funcs[f]? = some fn)(l:fn.body=some c)(m:Nat.ble a.length fn.ntmps=true)(Q:Box (fun _=>False) w Φ)(h:SXc P fn.ntmps S0 w (bodyPost P fn R) c (ofL (ZcI 0 a) []) Φ):Calls P f a.toArray w R:=by
 refine calls_of_wp k l (h (fun _=>0) _ w ⟨?_,rfl,fun i x n=>?_,⟨fun b t o e=>(by cases e),fun b c e=>(by cases e),fun b e=>(by cases e),Fr.refl _ _,fun i b off e=>?_,fun b t o e=>(by cases e)⟩,?_⟩)
 ·have:=vK m
  simp;omega
 ·obtain⟨_,v,hv,rfl⟩:=Zac a 0 i x n
  have g:i<a.length:=by
   rcases uZ i a.length with d|d
   ·exact d
   rw[List.getElem?_eq_none (by omega)] at hv;cases hv
  simp only[AV.conc]
  rw[Array.getElem?_append_left (by simpa using g)]
  simpa using hv
 ·obtain⟨_,v,hv,e'⟩:=Zac a 0 i _ e
  cases e'
 intro w' j
 exact Q w' (j.mono (fun i _ d=>by obtain⟨b,e,_⟩:=d;cases e))
end
instance ne_ge (n:Nat):Nonempty {b:Nat // n≤b}:=⟨⟨n,uR n⟩⟩
theorem Zkc {v:Int}{n:Nat}(a:wA v)(c:n≤4096):∀ i,i < [v,((n:Nat):Int)].length→wA (nth [v,((n:Nat):Int)] i):=fun i b=>by
 match i,b with
 | 0,_=>exact a
 | 1,_=>exact⟨by show (-9223372036854775808:Int)≤(n:Int);omega,by show (n:Int)≤9223372036854775807;omega⟩
theorem Zcj {ts:List TermR}{j:Nat}{t:TermR}(a:j<ts.length)(b:ts[j]! = t):(ts.take (j+1)).flatMap lN=(ts.take j).flatMap lN ++ lN t:=by
 rw[vE a,tI,← b,getElem!_pos ts j a]
 simp
theorem Zf9 (ts:List TermR)(j:Nat):((ts.take j).flatMap lN).length≤(ts.flatMap lN).length:=by
 conv=>rhs;rw[←tT j ts,tI,uA]
 omega
def AppG (lo b n m k:Nat) (cur news:List Value) (q:Nat × Nat × List Value):Prop:=lo≤q.1∧q.2.2.length=q.2.1*k∧n+m≤q.2.1∧q.2.1≤maxLen∧q.2.2.take ((n+m)*k)=cur ++ news∧(m=0→q=(b,n,cur))
theorem AppG.some {lo b n m k:Nat}{cur news:List Value}(d:news.length=m*k)(a:cur.length=n*k)(f:lo≤b)(c:n+m≤maxLen):Nonempty {q:Nat × Nat × List Value // AppG lo b n m k cur news q}:=by
 have e:(cur ++ news).length=(n+m)*k:=by rw[uA,a,d,uT]
 refine⟨⟨(b,n+m,cur ++ news),f,e,uR _,c,?_,fun h=>?_⟩⟩
 ·rw[←e,qT]
 subst h
 obtain rfl:news=[]:=sJ (by simpa using d)
 simp
theorem dU {P:Program}{o:Oper}{ρ:Operand→Value}{w:World}{lo k n m bytes:Nat}{t e:TypeId}{s0 x:Operand}{cur news:List Value}{z:Value}(b v c2:Nat)(O:Blk e w b cur.toArray)(Q:Blk e w v news.toArray)(G:news.length=m*k)(R:0<k)(T:z.cells.size=k)(c:cur.length=n*k)(U:lo≤b)(V:lo≤w.heap.size)(h1:∀ u∈news,u.oneCell'=true)(y:n+m≤maxLen)(d:(n+m)*bytes≤140737488355328)(H:o.op=.call { callee:=.builtin .append,args:=#[s0,x],argTypes:=#[t,t] }:=by kernel_rfl)(I:P.underlying t=some (.slice e):=by kernel_rfl)(l:(P.info? e).map (fun i=>(i.zero,i.size,i.bytes))=some (some z,k,bytes):=by kernel_rfl)(J:ρ s0=.slice (some ⟨b,0,none⟩) n n:=by kernel_rfl)(K:ρ x=.slice (some ⟨v,0,none⟩) m c2:=by kernel_rfl) :
 Does P o ρ w (DoR (fun q:{q:Nat × Nat × List Value // AppG lo b n m k cur news q}=>.slice (some ⟨q.1.1,0,none⟩) (n+m) q.1.2.1) (fun q w=>m=0∨Blk e w q.1.1 q.1.2.2.toArray) w):=by
 obtain⟨p,f,A⟩:=uV.1 l
 injection A with hz0 A
 injection A with hsize hby
 rcases uJ m with r|r
 ·obtain rfl:news=[]:=sJ (by rw[G,r,sU])
  have a:=run_append_room_cells (P:=P) w t o.type e p I f b 0 n n ⟨v,0,none⟩ m c2 [] (by rw[r];simp) (fun j u hj=>by simp at hj) (fun u hu=>by cases hu) (by omega) (fun j hj=>by cases hj) (fun j hj=>by cases hj)
  have e:w.setCells b (0+n*p.size) []=w:=rfl
  rw[e] at a
  refine Or.inl ⟨_,w,by simp[execOp,H,resolve,invoke,builtin,J,K,a,Result.andThen];rfl,⟨(b,n,cur),U,c,(show n+m≤n by omega),(show n≤maxLen by omega),?_,fun _=>rfl⟩,by rfl,Fr.refl _ w,fun S hS w'' hF=>Or.inl r⟩
  rw[r,tK,← c,qT,tP]
 obtain⟨v',w',a,⟨L,W⟩,X⟩:=run_append_arg_grows (P:=P) w t o.type e p z k bytes I f hz0 hsize hby T R ⟨b,0,none⟩ n n cur c (fun j u hj=>by rw[Lib.add_plain,vO,O.cell];simpa using hj) ⟨v,0,none⟩ m c2 news G (fun j u hj=>by rw[Lib.add_plain,vO,Q.cell];simpa using hj) (by omega) y d
 rcases W with ⟨rfl,h0⟩|⟨M,s,g,rfl,Y,Z,B,C,D,E⟩
 ·omega
 have F:Blk e w' M g.toList.toArray:=by rw[Array.toArray_toList];exact Z
 refine Or.inl ⟨_,w',by simp[execOp,H,resolve,invoke,builtin,J,K,a,Result.andThen];rfl,⟨(M,s,g.toList),by omega,by simpa using D,B,C,by simpa using E,fun h=>by omega⟩,by rfl,(Fr.ofGrown X).mono (fun i _ h=>by cases h),fun S hS w'' hF=>Or.inr (F.fr hF (fun h=>by have:=(hS _ h).1;omega))⟩
theorem Zfa {b n m:Nat}{cur:List Value}{q:Nat × Nat × List Value}{e:TypeId}{w:World}(a:m=0→q=(b,n,cur))(h:m=0∨Blk e w q.1 q.2.2.toArray)(c:Blk e w b cur.toArray):Blk e w q.1 q.2.2.toArray:=by
 rcases h with h|h
 ·rw[a h];exact c
 exact h
theorem ZgZ {lo g b' a:Nat}{l:List UInt8}{v:Int}{ts:List TermR}{j:Nat}{t:TermR}{w:World}{b:List Value}(i:WrIs lo g (l ++ wY jP [zO v,zO ((ts.length:Nat):Int)] ++ (ts.take j).flatMap lN) w)(k:Blk 9 w b' b.toArray)(d:b.take ((1+t.exps.length)*1)=[Value.string t.coef].take (1*1) ++ (t.exps.map zO).map Value.string)(f:j<ts.length)(m:ts[j]! = t)(q:t.exps.length≤6)(n:(l ++ kZ v ts).length≤1048576) :
 yA 83 #[.pointer (some ⟨g,0,none⟩),.string Zbq,.slice (some ⟨b',0,none⟩) (1+t.exps.length) a] w fun e w'=>e=.returned (.tuple #[])∧WrIs lo g (l ++ wY jP [zO v,zO ((ts.length:Nat):Int)] ++ (ts.take j).flatMap lN ++ lN t) w'∧WrFr lo g w w':=by
 have c:(t.coef :: t.exps.map zO).length=1+t.exps.length:=by simp;omega
 have o:SRow w (some ⟨b',0,none⟩) (t.coef :: t.exps.map zO):=SRow.ofStr k (by rw[c];simpa using d)
 have p:=Zf9 ts (j+1)
 rw[Zcj f m,uA] at p
 have h:=n
 unfold kZ at h
 rw[uA,uA] at h
 rw[←c]
 exact Zaj lo g _ Zbq _ a _ w i o (by rw[uA,uA];omega) (show (lN t).length≤70368744177664 by omega) (by omega)
theorem bN (wl:World)(lo g:Nat)(l:List UInt8)(A:Option Addr)(c:Nat)(ts:List TermR)(v:Int)(w:World)(s:wl.heap.size=lo)(y:lo≤g)(Y:Glob wl)(X:TRow wl A ts)(H:Ext wl w)(hW:WrIs lo g l w)(hv:wA v)(hx:∀ i,i<ts.length→ts[i]!.exps.length≤6∧∀ j,j<ts[i]!.exps.length→wA (nth ts[i]!.exps j))(hn:ts.length≤4096)(S:(l ++ kZ v ts).length≤1048576) :
 yA 86 #[.pointer (some ⟨g,0,none⟩),.agg #[.int .i64 v,.slice A ts.length c]] w (fun e w'=>e=.returned (.tuple #[])∧WrIs lo g (l ++ kZ v ts) w'∧Fr (SWr lo g w) w w'):=by
 have Z:l.length≤1048576:=by rw[uA] at S;omega
 have c0:(wY jP [zO v,zO ((ts.length:Nat):Int)]).length≤1048576:=by unfold kZ at S;rw[uA,uA] at S;omega
 refine lW (SWr lo g w) (Φ:=fun w=>WrIs lo g (l) w) Tryz.func86 rfl (by kernel_rfl) (fun w' hf=>WrIs.fr hW hf (fun f=>f) (fun _ _ f=>f)) ?_
 refine zD (zC (xq 1 [(3,.p 3 0)] [(3,111,[.v (.int .i64 v),.v (.slice A ts.length c)])] ?_))
 refine xe (zB (zD (zC (xq 6 [(6,.v (.pointer (some ⟨g,0,none⟩))),yJ 8 v,yJ 11 ((ts.length:Nat):Int)] [] ?_))))
 refine yD (d:=12) (fun B:Nat=>.slice (some ⟨B,0,none⟩) 2 2) (fun B T=>Blk 3 T B #[.int .i64 v,.int .i64 ((ts.length:Nat):Int)]) (fun w R Q=>gX (t:=22) (e:=3) (n:=2) (sz:=1) (z:=.int .i64 0) (parts:=#[(0,Operand.tmp 8),(1,Operand.tmp 11)]) (by kernel_rfl) (by kernel_rfl) (by kernel_rfl) (by kernel_rfl) (by kernel_rfl) (by kernel_rfl)) fun I=>?_
 refine xr 0 [(0,.v (.pointer (some ⟨g,0,none⟩))),(3,.p 3 0),(6,.v (.pointer (some ⟨g,0,none⟩))),eS1 12 (some ⟨I,0,none⟩) 2 2] [(3,111,[.v (.int .i64 v),.v (.slice A ts.length c)])] ?_
 refine xqc 84 [.slice (some ⟨I,0,none⟩) 2 2] 13 (fun b:Nat=>.slice (some ⟨b,0,none⟩) 2 2) _ (fun w R Q=>yM eY (dZ (some ⟨I,0,none⟩) 2 [v,((ts.length:Nat):Int)] _ (Y.ext (lT H s y R)) (IRow.two Q.2) (Zkc hv hn) (by simp))) fun U=>?_
 refine iS (d:=14) (lo:=lo) (g:=g) (l:=l) (l':=l ++ wY jP [zO v,zO ((ts.length:Nat):Int)]) (v:=.tuple #[]) 83 [.pointer (some ⟨g,0,none⟩),.string jP,.slice (some ⟨U,0,none⟩) 2 2] (fun _ _ h k=>WrFr.s0 h k) (by kernel_rfl) (fun w R Q=>Zaj lo g l jP (some ⟨U,0,none⟩) 2 [zO v,zO ((ts.length:Nat):Int)] _ Q.1.1 (SRow.ofStr Q.2 rfl) Z (by omega) (by simp)) (fun w Q=>Q.1.1) ?_
 refine xr 0 [(0,.v (.pointer (some ⟨g,0,none⟩))),(3,.p 3 0)] [(3,111,[.v (.int .i64 v),.v (.slice A ts.length c)])] ?_
 refine xe (zB (zD (zC (xq 4 [eS1 16 A ts.length c,yJ 17 ((ts.length:Nat):Int),yJ 18 0] [] ?_))))
 refine xe (zB (zN ?_))
 refine yC [(0,.v (.pointer (some ⟨g,0,none⟩))),eS1 16 A ts.length c,yJ 17 ((ts.length:Nat):Int),yJ 18 ((0:Nat):Int)] [] (fun w=>WrIs lo g (l ++ wY jP [zO v,zO ((ts.length:Nat):Int)] ++ (ts.take 0).flatMap lN) w) (fun w Q=>(by rw[qA,qF,tP];exact Q)) ?_
 refine xS (fun nn ss ff=>∃ (j:Nat),ss=ofL [(0,.v (.pointer (some ⟨g,0,none⟩))),eS1 16 A ts.length c,yJ 17 ((ts.length:Nat):Int),yJ 18 (j:Int)] []∧ff=(fun w=>WrIs lo g (l ++ wY jP [zO v,zO ((ts.length:Nat):Int)] ++ (ts.take j).flatMap lN) w)∧(j≤ts.length)∧nn=(1+(ts.length-j))) ((1+(ts.length-0))) ⟨0,rfl,rfl,(uM _),rfl⟩ ?_
 rintro nn ss ff ⟨j,rfl,rfl,hj,rfl⟩
 refine zD (zC (xq 1 [yB 19 (decide ((j:Int)<((ts.length:Nat):Int)))] [] ?_))
 refine xe (zB (zD ?_))
 refine yQ ((decide ((j:Int)<((ts.length:Nat):Int)))) (fun C=>?_) fun C=>?_
 ·have o:j<ts.length:=by have:=uF C;omega
  refine zJ (zB (zD (zN (zD (zC ?_)))))
  refine xqk 20 (atA A (j*2)) (fun w R Q=>wT (t:=109) (e:=108) (sz:=2) (x:=.tmp 16) (ix:=.tmp 18) (len:=ts.length) (cap:=c) (i:=j) ((X.ext (lT H s y R)).ne o) o) ?_
  obtain⟨t,G⟩:∃ x,ts[j]! = x:=⟨_,rfl⟩
  have a:=hx j o
  rw[G] at a
  refine xqk 21 (.agg #[.string t.coef,.slice t.A t.exps.length t.cap]) (fun w R Q=>by rw[←G];exact Zii (t:=108) (x:=.tmp 20) (ts:=ts) (j:=j) (X.ext (lT H s y R)) o) ?_
  refine xq 2 [(5,.p 5 0)] [(5,108,[.v (.string t.coef),.v (.slice t.A t.exps.length t.cap)])] ?_
  refine xe (zB ?_)
  refine Zkb 8 3 6 [0,1,2,4,5] [7] [(0,.v (.pointer (some ⟨g,0,none⟩))),eS1 16 A ts.length c,yJ 17 ((ts.length:Nat):Int),yJ 18 (j:Int),(22,.v (.pointer (some ⟨g,0,none⟩))),yT 24 t.coef,eS1 27 t.A t.exps.length t.cap] [(5,108,[.v (.string t.coef),.v (.slice t.A t.exps.length t.cap)])] (by kernel_rfl) (by kernel_rfl) zK (by kernel_rfl) ?_ ?_
  ·refine Zam 25 (fun B:{b:Nat // w.heap.size≤b}=>.slice (some ⟨B.1,0,none⟩) 1 1) (fun B T=>Blk 9 T B.1 #[.string t.coef]) (fun w R Q=>xF (m0:=_) R.size (t:=41) (e:=9) (n:=1) (sz:=1) (z:=.string ⟨#[]⟩) (parts:=#[(0,.tmp 24)]) (by kernel_rfl) (by kernel_rfl) (by kernel_rfl) (by kernel_rfl) (by kernel_rfl) (by kernel_rfl)) fun⟨J,D⟩=>?_
   refine ZgV 84 [.slice t.A t.exps.length t.cap] 28 (fun b:Nat=>.slice (some ⟨b,0,none⟩) t.exps.length t.exps.length) _ (fun w R Q=>yM eY (dZ t.A t.cap t.exps _ (Y.ext (lT H s y R)) (G ▸ (X.ext (lT H s y R)).exps' o) a.2 (by have:=a.1;omega))) fun K=>?_
   haveI:=AppG.some (lo:=w.heap.size) (b:=J) (n:=1) (m:=t.exps.length) (k:=1) (cur:=[Value.string t.coef]) (news:=((t.exps.map zO).map Value.string)) (by simp) rfl D (by have:=a.1;simp only[maxLen];omega)
   refine Zam 29 (fun q:{q:Nat × Nat × List Value // AppG w.heap.size J 1 t.exps.length 1 [Value.string t.coef] ((t.exps.map zO).map Value.string) q}=>.slice (some ⟨q.1.1,0,none⟩) (1+t.exps.length) q.1.2.1) (fun q w=>t.exps.length=0∨Blk 9 w q.1.1 q.1.2.2.toArray) (fun w R Q=>dU (z:=.string ⟨#[]⟩) (bytes:=16) (t:=41) (s0:=.tmp 25) (x:=.tmp 28) J K t.exps.length Q.1.2 Q.2 (by simp) (by decide) rfl rfl D R.size (fun u hu=>by obtain⟨q,_,rfl⟩:=rH.1 hu;rfl) (by have:=a.1;simp only[maxLen];omega) (by have:=a.1;omega)) fun qq=>?_
   obtain⟨⟨L,r,E⟩,a0,M,V,W,F,O⟩:=qq
   refine .done (SXi.weak (Ψ:=fun w=>WrIs lo g (l ++ wY jP [zO v,zO ((ts.length:Nat):Int)] ++ (ts.take j).flatMap lN) w∧Blk 9 w L E.toArray) [(0,.v (.pointer (some ⟨g,0,none⟩))),eS1 16 A ts.length c,yJ 17 ((ts.length:Nat):Int),yJ 18 (j:Int),(22,.v (.pointer (some ⟨g,0,none⟩))),eS1 29 (some ⟨L,0,none⟩) (1+t.exps.length) r] [] (fun w Q=>⟨Q.1.1.1,Zfa O Q.2 Q.1.1.2⟩) ?_ (zX.of (by kernel_rfl)))
   refine iS (d:=30) (lo:=lo) (g:=g) (l:=l ++ wY jP [zO v,zO ((ts.length:Nat):Int)] ++ (ts.take j).flatMap lN) (l':=l ++ wY jP [zO v,zO ((ts.length:Nat):Int)] ++ (ts.take j).flatMap lN ++ lN t) (v:=.tuple #[]) 83 [.pointer (some ⟨g,0,none⟩),.string Zbq,.slice (some ⟨L,0,none⟩) (1+t.exps.length) r] (fun _ _ h k=>WrFr.s0 h k) (by kernel_rfl) (fun w R Q=>ZgZ (ts:=ts) (j:=j) Q.1 Q.2 F o G a.1 S) (fun w Q=>Q.1) ?_
   refine xr 0 [(0,.v (.pointer (some ⟨g,0,none⟩))),eS1 16 A ts.length c,yJ 17 ((ts.length:Nat):Int),yJ 18 (j:Int)] [] ?_
   refine xe (xK (zB (zC (xq 1 [yJ 31 (IntKind.i64.wrap ((j:Int)+1))] [] ?_))))
   rw[(show IntKind.i64.wrap ((j:Int)+1)=((j+1:Nat):Int) by rw[IntKind.wrap_i64];omega)]
   refine xq 1 [yJ 18 ((j+1:Nat):Int)] [] ?_
   refine xe ?_
   refine yP [(0,.v (.pointer (some ⟨g,0,none⟩))),eS1 16 A ts.length c,yJ 17 ((ts.length:Nat):Int),yJ 18 (((j+1):Nat):Int)] [] (fun w=>WrIs lo g (l ++ wY jP [zO v,zO ((ts.length:Nat):Int)] ++ (ts.take (j+1)).flatMap lN) w) (fun w Q=>(by rw[Zcj o G,← uO];exact Q)) ?_
   exact xE ((1+(ts.length-(j+1)))) (by omega) ⟨(j+1),rfl,rfl,o,rfl⟩
  refine ZgV 84 [.slice t.A t.exps.length t.cap] 28 (fun b:Nat=>.slice (some ⟨b,0,none⟩) t.exps.length t.exps.length) _ (fun w R Q=>yM eY (dZ t.A t.cap t.exps _ (Y.ext (lT H s y R)) (G ▸ (X.ext (lT H s y R)).exps' o) a.2 (by have:=a.1;omega))) fun K=>?_
  refine Zam 25 (fun B:{b:Nat // w.heap.size≤b}=>.slice (some ⟨B.1,0,none⟩) 1 1) (fun B T=>Blk 9 T B.1 #[.string t.coef]) (fun w R Q=>xF (m0:=_) R.size (t:=41) (e:=9) (n:=1) (sz:=1) (z:=.string ⟨#[]⟩) (parts:=#[(0,.tmp 24)]) (by kernel_rfl) (by kernel_rfl) (by kernel_rfl) (by kernel_rfl) (by kernel_rfl) (by kernel_rfl)) fun⟨J,D⟩=>?_
  haveI:=AppG.some (lo:=w.heap.size) (b:=J) (n:=1) (m:=t.exps.length) (k:=1) (cur:=[Value.string t.coef]) (news:=((t.exps.map zO).map Value.string)) (by simp) rfl D (by have:=a.1;simp only[maxLen];omega)
  refine Zam 29 (fun q:{q:Nat × Nat × List Value // AppG w.heap.size J 1 t.exps.length 1 [Value.string t.coef] ((t.exps.map zO).map Value.string) q}=>.slice (some ⟨q.1.1,0,none⟩) (1+t.exps.length) q.1.2.1) (fun q w=>t.exps.length=0∨Blk 9 w q.1.1 q.1.2.2.toArray) (fun w R Q=>dU (z:=.string ⟨#[]⟩) (bytes:=16) (t:=41) (s0:=.tmp 25) (x:=.tmp 28) J K t.exps.length Q.2 Q.1.2 (by simp) (by decide) rfl rfl D R.size (fun u hu=>by obtain⟨q,_,rfl⟩:=rH.1 hu;rfl) (by have:=a.1;simp only[maxLen];omega) (by have:=a.1;omega)) fun qq=>?_
  obtain⟨⟨L,r,E⟩,a0,M,V,W,F,O⟩:=qq
  refine .done (SXi.weak (Ψ:=fun w=>WrIs lo g (l ++ wY jP [zO v,zO ((ts.length:Nat):Int)] ++ (ts.take j).flatMap lN) w∧Blk 9 w L E.toArray) [(0,.v (.pointer (some ⟨g,0,none⟩))),eS1 16 A ts.length c,yJ 17 ((ts.length:Nat):Int),yJ 18 (j:Int),(22,.v (.pointer (some ⟨g,0,none⟩))),eS1 29 (some ⟨L,0,none⟩) (1+t.exps.length) r] [] (fun w Q=>⟨Q.1.1.1,Zfa O Q.2 Q.1.2⟩) ?_ (zX.of (by kernel_rfl)))
  refine iS (d:=30) (lo:=lo) (g:=g) (l:=l ++ wY jP [zO v,zO ((ts.length:Nat):Int)] ++ (ts.take j).flatMap lN) (l':=l ++ wY jP [zO v,zO ((ts.length:Nat):Int)] ++ (ts.take j).flatMap lN ++ lN t) (v:=.tuple #[]) 83 [.pointer (some ⟨g,0,none⟩),.string Zbq,.slice (some ⟨L,0,none⟩) (1+t.exps.length) r] (fun _ _ h k=>WrFr.s0 h k) (by kernel_rfl) (fun w R Q=>ZgZ (ts:=ts) (j:=j) Q.1 Q.2 F o G a.1 S) (fun w Q=>Q.1) ?_
  refine xr 0 [(0,.v (.pointer (some ⟨g,0,none⟩))),eS1 16 A ts.length c,yJ 17 ((ts.length:Nat):Int),yJ 18 (j:Int)] [] ?_
  refine xe (xK (zB (zC (xq 1 [yJ 31 (IntKind.i64.wrap ((j:Int)+1))] [] ?_))))
  rw[(show IntKind.i64.wrap ((j:Int)+1)=((j+1:Nat):Int) by rw[IntKind.wrap_i64];omega)]
  refine xq 1 [yJ 18 ((j+1:Nat):Int)] [] ?_
  refine xe ?_
  refine yP [(0,.v (.pointer (some ⟨g,0,none⟩))),eS1 16 A ts.length c,yJ 17 ((ts.length:Nat):Int),yJ 18 (((j+1):Nat):Int)] [] (fun w=>WrIs lo g (l ++ wY jP [zO v,zO ((ts.length:Nat):Int)] ++ (ts.take (j+1)).flatMap lN) w) (fun w Q=>(by rw[Zcj o G,← uO];exact Q)) ?_
  exact xE ((1+(ts.length-(j+1)))) (by omega) ⟨(j+1),rfl,rfl,o,rfl⟩
 have b0:ts.length≤j:=by have:=uE C;omega
 refine xN (zH (zH (xX ?_)))
 refine Zic (v:=.tuple #[]) (by kernel_rfl) fun w' R Q=>?_
 exact⟨rfl,by have h:=Q;rw[uB b0,uO] at h;exact h,R⟩
theorem Zg0 {x y:Int}(c:0<y):(Rat.divInt x y).num=x.tdiv (Int.gcd x y:Int)∧((Rat.divInt x y).den:Int)=y.tdiv (Int.gcd x y:Int):=by
 have a:(Int.gcd x y:Int)∣x:=Int.gcd_dvd_left _ _
 have b:(Int.gcd x y:Int)∣y:=Int.gcd_dvd_right _ _
 rw[Rat.num_divInt,Rat.den_divInt,vP (by omega),Int.sign_eq_one_of_pos c,Int.one_mul,Int.gcd_comm y x,Int.tdiv_eq_ediv_of_dvd a,Int.tdiv_eq_ediv_of_dvd b]
 refine⟨rfl,?_⟩
 rw[vY]
 congr 1
 omega
theorem Zck {x y:Int}(a:0<y)(h:((Int.gcd x y:Nat):Int)=1):(Rat.divInt x y).num=x∧((Rat.divInt x y).den:Int)=y:=by
 have:=Zg0 (x:=x) a
 rwa [h,Int.tdiv_one,Int.tdiv_one] at this
theorem Zln (a b:Nat):(a:Int).tdiv (b:Int)=((a/b:Nat):Int):=by
 rw[tF (by omega)];rfl
theorem jU (a:Value)(q:Rat)(w:World)(e:xO w a q) :
 yA 233 #[a] w (RetV w (.bool (decide (q.num=0)))):=by
 obtain⟨s0,b,c,d,f,g,h,i,rfl⟩:=e.shp
 refine xB (Φ:=fun w=>xO w (.agg #[.bool s0,.slice b c d,.bool f,.slice g h i]) (q)) Tryz.func233 rfl (by kernel_rfl) (fun w' j=>e.ext j) ?_
 refine zD (zC (xr 2 [(1,.p 1 0),yB 2 false] [bR4 1 259 s0 b c d f g h i] ?_))
 refine xe (zB (zD (zC (xr 2 [yB 2 false,eI2 4 s0 b c d] [] ?_))))
 refine xc 273 [vI2 s0 b c d] 5 (fun _:Unit=>.bool (decide (q.num=0))) _ (fun w R Q=>yN (ZiY _ (q.num) _ Q.num)) fun k=>?_
 refine xr 1 [yB 2 (decide (q.num=0))] [] ?_
 refine xe (zB (zI ?_))
 refine zG (v:=.bool (decide (q.num=0))) (by kernel_rfl) fun w' R Q=>?_
 exact⟨rfl,R⟩
def gP (n:Nat) (xs:List Nat) (m:Nat):Prop:=Dig 1000000000 xs∧n=val 1000000000 xs+1000000000^xs.length*m
theorem gP.start (n:Nat):gP n [] n:=⟨Dig.nil,by simp⟩
theorem gP.step {n m:Nat}{xs:List Nat}(h:gP n xs m):gP n (xs ++ [m%1000000000]) (m/1000000000):=by
 obtain⟨a,b⟩:=h
 refine⟨a.append (Dig.nil.cons (uP _ (by omega))),?_⟩
 rw[kL,uA,qS,uW,tR,uQ,← uS,gH,eM,sS,tK,sG]
 exact b
theorem gP.len {n m C:Nat}{xs:List Nat}(h:gP n xs m)(b:0<m)(c:n<1000000000^C):xs.length<C:=by
 obtain⟨_,d⟩:=h
 rcases uZ xs.length C with a|a
 ·exact a
 have e:1000000000^C≤1000000000^xs.length:=vS (by omega) a
 have f:1000000000^xs.length*1≤1000000000^xs.length*m:=uK _ b
 generalize 1000000000^xs.length=P at *
 generalize 1000000000^C=Q at *
 omega
theorem Zlx {n C:Nat}(a:n<1000000000^C):ml n≤C:=fI.2 (uX a (rM (by rw[zU];omega) _))
theorem zP.len {w:World}{A:Option Addr}{l c n:Nat}(h:zP w (.slice A l c) n):l=ml n:=by
 obtain⟨f,g,i,a,j,k,b,d,e⟩:=h
 injection a with e1 e2 e3
 rw[e2,kG b d,e]
theorem Zbt (b:Nat):¬ xJ none b:=fun c=>by obtain⟨a,ha,_⟩:=c;cases ha
theorem ZmB {a:Nat}(h:a<4294967296):(a:Int)%4294967296=(a:Int):=by omega
def dive (e:Nat):Nat:=100000000/10^e
theorem Zko:dive 0=100000000:=by simp[dive]
theorem Zkp:dive 9=0:=by decide
theorem Zco (e:Nat):dive e/10=dive (e+1):=by unfold dive;rw[rC,uW]
theorem Zio {e:Nat}(h:e<9):dive e=10^(9-1-e):=by
 have:e=0∨e=1∨e=2∨e=3∨e=4∨e=5∨e=6∨e=7∨e=8:=by omega
 rcases this with rfl|rfl|rfl|rfl|rfl|rfl|rfl|rfl|rfl<;>decide
theorem ZmC (e:Nat):dive e≤100000000:=vU _ _
theorem Zly {e:Nat}(h:e<9):0<dive e:=by rw[Zio h];exact uU (by omega)
def Zip (C:Nat) (w wr:World) (n m:Nat) (xs:List Nat) (A:Option Addr) (cap:Nat) (mv:Value):Prop :=
 gP n xs m∧Buf .u32 292 wr A cap xs∧zP wr mv m∧Ext w wr∧ml m≤ml n∧(∀ b,xJ A b→w.heap.size≤b)∧xs.length≤C
theorem zP.fr {S:Nat→Prop}{w w':World}{v:Value}{n:Nat}(h:zP w v n)(d:Fr S w w')(e:∀ A l c,v=.slice A l c→0<l→∀ a,A=some a→¬ S a.block):zP w' v n:=by
 obtain⟨A,xs,c,b,f,g,i⟩:=h
 refine⟨A,xs,c,b,f,?_,i⟩
 cases xs with
 | nil=>exact zV.nil
 | cons x xs=>exact g.fr d (fun a j _=>e A _ c b (by simp) a j)
def aG (w wr:World) (xs:List Nat) (A:Option Addr) (cap h t:Nat) (A3:Option Addr) (cap3:Nat):Prop :=
 Buf .u32 292 wr A cap xs∧TBuf wr A3 cap3 (lH h)∧(lH h).length=t∧Ext w wr∧(∀ b,xJ A b→w.heap.size≤b)∧(∀ b,xJ A3 b→w.heap.size≤b)∧(∀ b,xJ A b→¬ xJ A3 b)
theorem Zg3 {w wr w2:World}{xs:List Nat}{A:Option Addr}{cap h g t c:Nat}{d j:Option Addr}{e cap4:Nat}{o:Obj}(s:aG w wr xs A cap h t d e)(l:lH g=lH h ++ [UInt8.ofNat (48+c)])(z:c<10)(u:Buf .u8 5 w2 j cap4 (nats (lH h) ++ [48+c]))(v:Fr (xJ d) (wr.alloc o) w2)(m:∀ b,xJ j b→xJ d b∨b=(wr.alloc o).heap.size):aG w w2 xs A cap g (t+1) j cap4:=by
 obtain⟨n,B,x,p,y,q,r⟩:=s
 have f:Fr (xJ d) wr w2:=((Fr.refl (xJ d) wr).alloc o).trans (v.mono (fun _ _ h=>h))
 refine⟨n.fr f r,?_,by rw[l];simp[x],p.next f (fun i C a=>by have:=q i a;omega),y,?_,?_⟩
 ·show Buf _ _ _ _ _ (nats (lH g))
  rw[l,Zhp]
  have:nats [UInt8.ofNat (48+c)]=[48+c]:=by
   simp[nats];omega
  rw[this];exact u
 ·intro b a
  rcases m b a with h|h
  ·exact q b h
  have:=p.size;simp at h;omega
 intro b a k
 rcases m b k with h|h
 ·exact r b a h
 have:=n.lt a;simp at h;omega
theorem Zjf (s:Bool)(A0:Option Addr)(l0 c0:Nat)(n:Nat)(w:World)(hN:zP w (.slice A0 l0 c0) n)(h0:0<n)(C:Nat)(hn:n<1000000000^C)(hC:C≤15637498706141) :
 yA 112 #[.agg #[.bool s,.slice A0 l0 c0]] w (RetV w (.string ⟨(Lib.decDigits n).toArray⟩)):=by
 have HN:=zh hN
 have H0:=zh h0
 have Hn:=zh hn
 have o0:Hid (C≤15637498706141):=hC
 have E0:Hid (ml n≤17592186044416):=by have:=Zlx hn;unfold Hid;omega
 have V0:((l0:Int) == 0)=false:=by
  obtain⟨A,o,c,h1,h2,h3,h4,h5,h6⟩:=hN
  injection h1 with e1 e2 e3
  subst e2
  have k1:=kG h4 h5
  rw[h6] at k1
  have k2:=Zef h0
  simp
  intro e
  rw[e] at k1
  simp at k1
  omega
 clear hN h0 hn hC
 go_enter Tryz.func112,Tryz.ntmps112
 go_wp2
 obtain⟨wb,Z⟩:=yE (w.alloc (.cells #[.bool s,.slice A0 l0 c0] 125))
 rw[Z]
 have p0:Hid (Ext w wb):=Z ▸ (Fr.refl _ _).alloc _
 clear Z
 go_loopw [3,4,5,6] (fun pv mv _ _ wr=>∃ (o:List Nat) (m:Nat) (A:Option Addr) (u:Nat) (A1:Option Addr) (l c:Nat),pv=.slice A o.length u∧mv=.slice A1 l c∧Hid (Zip C w wr n m o A u (.slice A1 l c))) (fun pv _ _ _ _=>match pv with | .slice _ k _=>C-k | _=>0)
 case atStart=>exact⟨[],n,none,0,A0,l0,c0,rfl,rfl,gP.start n,Buf.nil,HN.out.ext p0.out,p0.out,uR _,fun b I=>(Zbt b I).elim,by simp⟩
 case round =>
  obtain⟨o,m,A,u,A1,l,c,rfl,rfl,g⟩:=hrel
  have hl:=g.out.2.2.1.len
  by_cases hm:0<m
  ·have G:=g.out.1.len hm Hn.out
   have W0:0<l:=by rw[hl];exact Zef hm
   have F0:=E0.out
   have G0:=o0.out
   have I0:ml m≤17592186044416:=by have:=g.out.2.2.2.2.1;omega
   have HD:=zh (Zb9 _ m 1000000000 wr g.out.2.2.1 I0 (by omega) (by rw[zU];omega))
   obtain⟨k2,ek⟩:=yE C
   rw[ek] at G
   have X0:k2≤15637498706141:=by omega
   clear F0 G0
   have hr:=uP m (y:=1000000000) (by omega)
   have T:=zh g.out.1.step
   have q0:ml (m/1000000000)≤ml m:=aN (vU _ _)
   have r0:Hid (ml (m/1000000000)≤ml n):=uD q0 g.out.2.2.2.2.1
   obtain⟨r,er⟩:=yE (m%1000000000)
   obtain⟨m2,em⟩:=yE (m/1000000000)
   rw[er] at T
   rw[em] at T r0
   clear hl q0 hr
   go_wp2_with fail
   refine HD.out.mono ?_
   rintro e w1 ⟨l2,c2,rfl,a0,s0⟩
   rw[er]
   rw[em] at a0
   have t0:=zh a0
   have b0:=zh s0
   clear HD a0 s0 er em
   go_wp2_with (at_builtin;refine Hid.out ?_)
   refine zh ?_
   have E:Hid (zV .u32 (w1.alloc (.cells #[.int .u32 (r:Int)] 292)) (some ⟨w1.heap.size,0,none⟩) [r]):=(Own.new w1 292 .u32 [r] []).shows0
   have u0:Hid (Buf .u32 292 w1 A u o):=g.out.2.1.ext b0.out
   refine lC rfl _ _ _ rfl _ .u32 4 Tryz.underlying123 dQ A (some ⟨w1.heap.size,0,none⟩) o.length 1 u 1 rfl rfl o [r] rfl rfl (u0.out.ext ((Fr.refl _ _).alloc _)) E.out (by simp only[maxLen];omega) (by omega) ?_
   intro A2 W w2 v0 d0 w0
   have v:Hid (Zip C w w2 n m2 (o ++ [r]) A2 W (.slice (some ⟨wr.heap.size,0,none⟩) l2 c2)):=by
    have X:=g.out.2.2.2.2.2.1
    have x0:Ext w w1:=g.out.2.2.2.1.trans b0.out
    refine⟨T.out,v0,(t0.out.ext ((Fr.refl _ _).alloc _)).fr d0 ?_,(x0.alloc _).next d0 (fun i hi I=>by have:=X i I;omega),r0.out,?_,by rw[uA,qS];omega⟩
    ·intro A' l' F e _ a ha I
     injection e with e1 e2 e3
     rw[←e1] at ha
     injection ha with ha
     subst ha
     have:wr.heap.size<wr.heap.size:=g.out.2.1.lt I
     omega
    intro b I
    rcases w0 b I with h|h
    ·exact X b h
    have:=x0.size;simp at h;omega
   clear v0 d0 w0 E u0 t0 b0 T g
   have J0:=zh ek
   clear ek
   go_wp2
   go_roundw
   case rel=>exact⟨o ++ [r],m2,A2,W,_,l2,c2,by rw[uA];rfl,rfl,v⟩
   case measure =>
    simp
    rw[J0.out]
    omega
  obtain rfl:m=0:=by omega
  obtain⟨hC,hB,hM,Q,_,hA,K0⟩:=g.out
  have U0:o.length≤15637498706141:=by have:=o0.out;omega
  obtain rfl:l=0:=by rw[hl];rfl
  have HC:Hid (Dig 1000000000 o∧n=val 1000000000 o):=by
   obtain⟨c1,c2⟩:=hC
   exact⟨c1,by simpa using c2⟩
  have HB:=zh hB
  have HE:=zh Q
  have HA:=zh hA
  clear hC hB hM Q hA g hl hm K0
  go_wp2
  obtain⟨wo,rfl⟩:∃ wo:World,wo=wr:=⟨_,rfl⟩
  go_loopw [7,8,9,10] (fun ov iv _ _ wr=>∃ (k t:Nat) (B:Option Addr) (d:Nat),k≤o.length∧iv=.int .i64 ((k:Int)-1)∧ov=.slice B t d∧t≤9*(o.length-k)∧Hid (aG w wr o A u (val 1000000000 (o.drop k)) t B d)) (fun _ iv _ _ _=>(intOf iv+1).toNat)
  case atStart=>exact⟨o.length,0,none,0,uR _,rfl,rfl,by omega,HB.out,by rw[List.drop_length];exact Buf.nil,by rw[List.drop_length];rfl,HE.out,HA.out,fun b I=>(Zbt b I).elim,fun b _ I=>Zbt b I⟩
  case round =>
   obtain⟨k,t,B,d,hk,rfl,rfl,ht,g⟩:=hrel
   by_cases Y0:0<k
   ·obtain⟨k,rfl⟩:∃ j,k=j+1:=⟨k-1,by omega⟩
    have hi:((k+1:Nat):Int)-1=(k:Int):=by omega
    rw[hi]
    clear hi
    have y0:k<o.length:=by omega
    obtain⟨p,ep⟩:=yE (o[k]?.getD 0)
    have hp:p<1000000000:=ep ▸ HC.out.1.getD (by omega) k
    obtain⟨H,eH⟩:=yE (val 1000000000 (o.drop (k+1)))
    have e0:Hid (topE H p 9 9=val 1000000000 (o.drop k)):=by
     unfold Hid
     rw[Zk3,xR k y0,ep,eH,uG]
     omega
    have HP:=zh ep
    rw[eH] at g
    have z0:Hid (aG w wr o A u (topE H p 9 0) t B d):=by rw[ZiT (by omega)];exact g
    have L0:((100000000:Nat):Int)=((dive 0:Nat):Int):=by rw[Zko]
    clear ep eH g
    go_wp2
    obtain⟨Z0,rfl⟩:∃ wo:World,wo=wr:=⟨_,rfl⟩
    obtain⟨T0,eT⟩:=yE (9*(o.length-(k+1)))
    rw[eT] at ht
    go_loopw [7,9,10] (fun ov dv _ wr=>∃ (e t:Nat) (B:Option Addr) (d:Nat),e≤9∧dv=.int .u32 (dive e:Nat)∧ov=.slice B t d∧t≤T0+e∧Hid (aG w wr o A u (topE H p 9 e) t B d)) (fun _ dv _ _=>(intOf dv).toNat)
    case atStart=>exact⟨0,t,B,d,by omega,by rw[←L0];rfl,rfl,by omega,z0⟩
    case round =>
     clear ht z0
     obtain⟨e,t,B,d,he,rfl,rfl,ht,g⟩:=hrel
     by_cases f0:e<9
     ·have M0:=Zly f0
      have N0:=ZmC e
      have a1:T0≤140737488355260:=by omega
      obtain⟨b2,J,hA,_,O0⟩:=g.out.1.shows.at y0
      rw[HP.out] at O0
      have f:=zh (ZjK (H:=H) (p:=p) (k:=9) f0)
      rw[←Zio f0] at f
      have x:p/dive e%10<10:=uP _ (by omega)
      have q1:(p:Int).tdiv (dive e:Int)=((p/dive e:Nat):Int):=by rw[tF (by omega)];rfl
      have B0:(p:Int)/(dive e:Int)=((p/dive e:Nat):Int):=rfl
      have q2:((p/dive e:Nat):Int).tmod 10=((p/dive e%10:Nat):Int):=by rw[tJ (Int.natCast_nonneg _)];rfl
      have g0:((p/dive e:Nat):Int)%10=((p/dive e%10:Nat):Int):=rfl
      have i0:p/dive e≤p:=vU _ _
      have q3:((p/dive e:Nat):Int)%4294967296=((p/dive e:Nat):Int):=ZmB (uN i0 (by omega))
      have q5:(dive e:Int).tdiv 10=((dive (e+1):Nat):Int):=by rw[tF (by omega),← Zco];rfl
      have C0:(dive e:Int)/10=((dive (e+1):Nat):Int):=by rw[←Zco];rfl
      have K:dive (e+1)<dive e:=by rw[←Zco];omega
      have q6:((dive (e+1):Nat):Int)%4294967296=((dive (e+1):Nat):Int):=by omega
      obtain⟨D,eD⟩:=yE (dive e)
      obtain⟨D2,j0⟩:=yE (dive (e+1))
      have k0:=zh j0
      rw[eD] at M0 N0 f x q1 B0 q2 g0 i0 q3 q5 C0 K ⊢
      rw[j0] at q5 C0 K q6
      obtain⟨q,eq⟩:=yE (p/D)
      rw[eq] at q1 B0 q2 g0 f x q3 i0
      obtain⟨F,ec⟩:=yE (q%10)
      rw[ec] at q2 g0 f x
      have G:(0<t)↔0<topE H p 9 e:=by rw[←g.out.2.2.1];exact Zhq
      have q7:((48:Int)+(F:Int))%4294967296=((48+F:Nat):Int):=by omega
      have q8:((48+F:Nat):Int)%256=((48+F:Nat):Int):=by omega
      subst hA
      clear eD j0 eq ec
      by_cases m0:0<t∨F≠0
      ·have L:=g.out.2.2.1
       have M:=zh (Zb3 (h:=topE H p 9 e) x (by omega))
       rw[←f.out] at M
       have E:Hid (zV .u8 (wr.alloc (.cells #[.int .u8 (48+(F:Int))] 5)) (some ⟨wr.heap.size,0,none⟩) [48+F]):=(Own.new wr 5 .u8 [48+F] []).shows0
       have U:Hid (TBuf wr B d (lH (topE H p 9 e))):=g.out.2.1
       have Y:(decide (0<t) || ((48+F:Nat):Int) != 48)=true:=by
        rcases m0 with h|h
        ·simp[h]
        have:(((48+F:Nat):Int) != 48)=true:=by simp;omega
        rw[this,Bool.or_true]
       have N:=zh L
       have V:=zh g.out
       clear G L f g
       by_cases b1:0<t
       ·clear m0 Y
        go_wp2_with (at_builtin;refine Hid.out ?_)
        refine zh ?_
        refine lC rfl _ _ _ rfl _ .u8 1 Tryz.underlying99 ZlZ B (some ⟨wr.heap.size,0,none⟩) t 1 d 1 rfl rfl (nats (lH (topE H p 9 e))) [48+F] (by rw[ZaU];exact N.out) rfl (U.out.ext ((Fr.refl _ _).alloc _)) E.out (by simp only[maxLen];omega) (by omega) ?_
        intro A4 z w2 O R S
        have v:Hid (aG w w2 o (some ⟨b2,J,none⟩) u (topE H p 9 (e+1)) (t+1) A4 z):=Zg3 V.out M.out x O R S
        clear O R S E U V M
        go_wp2
        go_roundw
        case rel=>exact⟨e+1,t+1,A4,z,by omega,by rw[k0.out],rfl,by omega,v⟩
        case measure=>simp[intOf];omega
       have d1:(((48+F:Nat):Int) != 48)=true:=by simp;omega
       clear m0 Y
       go_wp2_with (at_builtin;refine Hid.out ?_)
       refine zh ?_
       refine lC rfl _ _ _ rfl _ .u8 1 Tryz.underlying99 ZlZ B (some ⟨wr.heap.size,0,none⟩) t 1 d 1 rfl rfl (nats (lH (topE H p 9 e))) [48+F] (by rw[ZaU];exact N.out) rfl (U.out.ext ((Fr.refl _ _).alloc _)) E.out (by simp only[maxLen];omega) (by omega) ?_
       intro A4 z w2 O R S
       have v:Hid (aG w w2 o (some ⟨b2,J,none⟩) u (topE H p 9 (e+1)) (t+1) A4 z):=Zg3 V.out M.out x O R S
       clear O R S E U V M
       go_wp2
       go_roundw
       case rel=>exact⟨e+1,t+1,A4,z,by omega,by rw[k0.out],rfl,by omega,v⟩
       case measure=>simp[intOf];omega
      obtain rfl:t=0:=by omega
      obtain rfl:F=0:=by omega
      have v:Hid (aG w wr o (some ⟨b2,J,none⟩) u (topE H p 9 (e+1)) 0 B d):=by
       have h0:topE H p 9 e=0:=by omega
       unfold Hid
       rw[f.out,h0]
       have:=g.out
       rw[h0] at this
       exact this
      clear g G f
      go_wp2
      go_roundw
      case rel=>exact⟨e+1,0,B,d,by omega,by rw[k0.out],rfl,by omega,v⟩
      case measure=>simp[intOf];omega
     obtain rfl:e=9:=by omega
     have P0:Hid (aG w wr o A u (val 1000000000 (o.drop k)) t B d):=by
      rw[←e0.out];exact g
     have Q0:t≤9*(o.length-k):=by omega
     rw[Zkp]
     clear g
     go_wp2
     go_roundw
     case rel=>exact⟨k,t,B,d,by omega,by go_num,rfl,Q0,P0⟩
     case measure=>simp[intOf]
   obtain rfl:k=0:=by omega
   obtain⟨_,n0,_,D0,_,_,_⟩:=g.out
   rw[sL,← HC.out.2,iQ H0.out] at n0
   have K:(Lib.decDigits n).length=t:=by
    have:=g.out.2.2.1
    rwa [sL,← HC.out.2,iQ H0.out] at this
   obtain⟨b,rfl,hc⟩:=TBuf.bytes n0 (lY n)
   have R0:=run_convert_bytes_back (P:=Tryz.prog) wr 99 9 5 ⟨b,0,none⟩ d (Lib.decDigits n) Tryz.underlying99 Tryz.underlying5 Tryz.underlying9 hc
   rw[K] at R0
   have S0:=zh D0
   generalize Lib.decDigits n=txt at *
   clear n0 D0 hc g K
   go_wp2
   go_ret
   exact⟨rfl,S0.out⟩
theorem ZhP (s:Bool)(b:Option Addr)(c0:Nat)(w:World) :
 yA 112 #[.agg #[.bool s,.slice b 0 c0]] w (RetV w (.string ⟨(Lib.decDigits 0).toArray⟩)):=by
 have a:Lib.decDigits 0=[48]:=Lib.decDigits_one (by omega)
 have c:=zh a
 clear a
 go_enter Tryz.func112,Tryz.ntmps112
 go_wp2
 go_ret
 exact⟨by rw[c.out];rfl,(Fr.refl _ _).alloc _⟩
theorem ZhQ (s:Bool)(a:Option Addr)(b c0:Nat)(n:Nat)(w:World)(c:zP w (.slice a b c0) n)(C:Nat)(e:n<1000000000^C)(f:C≤15637498706141) :
 yA 112 #[.agg #[.bool s,.slice a b c0]] w (RetV w (.string ⟨(Lib.decDigits n).toArray⟩)):=by
 rcases uJ n with h|h
 ·subst h
  have d:=c.len
  rw[ZeY] at d
  subst d
  exact ZhP s a c0 w
 exact Zjf s a b c0 n w c h C e f
def xA (q:Rat):List UInt8:=if q.den=1 then Lib.itoa q.num else Lib.itoa q.num ++ [47] ++ Lib.itoa (q.den:Int)
theorem ZcO {x:Int}(h:0≤x):Lib.itoa x=Lib.decDigits x.natAbs:=by
 unfold Lib.itoa
 rw[vP (by omega)]
 congr 1;omega
end Go.Proofs.YtoanifijmlgcgaaGreatDoor
namespace Go.Proofs.YtoanifijmlgcgaaGreatDoor
end Go.Proofs.YtoanifijmlgcgaaGreatDoor
namespace Go.Proofs.YtoanifijmlgcgaaGreatDoor
open Go.RowKit
theorem Zbu {n:Nat}(h:10≤n):Lib.decDigits n=Lib.decDigits (n/10) ++ [UInt8.ofNat (48+n%10)]:=by
 rw[Lib.decDigits,dif_neg (by omega)]
theorem aQ {n:Nat}(h:n<10):Lib.decDigits n=[UInt8.ofNat (48+n)]:=Lib.decDigits_one h
theorem bI {n:Nat}(h:n<10):(UInt8.ofNat (48+n)).toNat=48+n:=by
 rw[qI];omega
theorem Zdf {n:Nat}(h:n<10):xH (UInt8.ofNat (48+n))=true:=by
 unfold xH;rw[bI h];simp;omega
theorem aR:∀ n,(Lib.decDigits n).all xH=true:=by
 intro n
 induction n using Nat.strongRecOn with
 | _ n ih =>
  rcases uZ n 10 with h|h
  ·rw[aQ h,sZ,Zdf h];rfl
  rw[Zbu h,List.all_append,ih (n/10) (by omega),sZ,Zdf (uP n (by omega:0<10))];rfl
theorem ZcP:∀ n,zL (Lib.decDigits n)=n:=by
 intro n
 induction n using Nat.strongRecOn with
 | _ n ih =>
  rcases uZ n 10 with h|h
  ·rw[aQ h];simp only[zL,List.foldl_cons,List.foldl_nil];rw[bI h];omega
  rw[Zbu h,ZaW,ih (n/10) (by omega),bI (uP n (by omega:0<10))];omega
theorem cF:∀ n,0<n→(Lib.decDigits n).head? ≠ some 48:=by
 intro n
 induction n using Nat.strongRecOn with
 | _ n ih =>
  intro b
  rcases uZ n 10 with h|h
  ·rw[aQ h]
   intro e
   simp only[List.head?_cons,sC] at e
   have:=tC UInt8.toNat e
   rw[bI h] at this
   simp at this;omega
  have a:=ih (n/10) (by omega) (by omega)
  rw[Zbu h,List.head?_append]
  cases hc:(Lib.decDigits (n/10)).head? with
  | none=>exact absurd (List.head?_eq_none_iff.1 hc) (lY _)
  | some c=>rw[hc] at a;exact a
theorem aA {p:UInt8→Bool}{l:List UInt8}(h:l.all p=true):l.takeWhile p=l∧l.dropWhile p=[]:=by
 induction l with
 | nil=>exact⟨rfl,rfl⟩
 | cons x xs ih =>
  simp only[sZ,vG] at h
  obtain⟨a,b⟩:=ih h.2
  rw[List.takeWhile_cons,List.dropWhile_cons,h.1]
  simp[a,b]
theorem Zjh {l:List UInt8}(h:l.all xH=true):lM l=(false,l):=by
 unfold lM
 rw[vP]
 intro e
 cases l with
 | nil=>cases e
 | cons x xs =>
  simp only[List.head?_cons,sC] at e
  subst e
  simp only[sZ,vG] at h
  exact absurd h.1 (by decide)
theorem Zkr (n:Nat):lE (Lib.decDigits n)=(false,Lib.decDigits n,[],true):=by
 obtain⟨c,d⟩:=aA (aR n)
 unfold lE
 rw[Zjh (aR n)]
 simp only[]
 rw[c,d]
 rcases uJ n with a|a
 ·subst a;rw[aQ (by omega)];rfl
 have b:Lib.decDigits n≠[48]:=fun e=>cF n a (by rw[e];rfl)
 rw[vP b,vP (fun e=>e.elim (lY n) (cF n a)),tA rfl]
theorem Zks {n:Nat}(h:0<n):lE ([45] ++ Lib.decDigits n)=(true,Lib.decDigits n,[],true):=by
 obtain⟨b,c⟩:=aA (aR n)
 unfold lE
 have e:lM ([45] ++ Lib.decDigits n)=(true,Lib.decDigits n):=rfl
 rw[e]
 simp only[]
 rw[b,c]
 have a:Lib.decDigits n≠[48]:=fun e=>cF n h (by rw[e];rfl)
 rw[vP a,vP (fun e=>e.elim (lY n) (cF n h)),tA rfl]
theorem itoa_neg {z:Int}(h:z<0):Lib.itoa z=[45] ++ Lib.decDigits z.natAbs:=by
 unfold Lib.itoa
 rw[tA h]
 rfl
theorem Zji (z:Int):lE (Lib.itoa z)=(decide (z<0),Lib.decDigits z.natAbs,[],true):=by
 by_cases h:z<0
 ·rw[itoa_neg h,Zks (by omega),uI h]
 rw[ZcO (by omega),Zkr,uH h]
theorem ZaP (z:Int):xI (Lib.itoa z)=some (z:Rat):=by
 unfold xI
 rw[Zji]
 simp only[]
 rw[tA trivial,ZcP]
 congr 2
 unfold sg
 split
 ·rename_i h;have:=uF h;omega
 rename_i h;have:¬ z<0:=fun k=>h (uI k);omega
theorem Zex {c:UInt8}(h:xH c=true):UInt8.ofNat (48+(c.toNat-48))=c:=by
 have:=Zaf h
 apply UInt8.toNat.inj
 rw[qI]
 have:=c.toNat_lt
 omega
theorem Zkt:∀ (k:Nat) (l:List UInt8),l.length=k→l.all xH=true→l≠[]→l.head? ≠ some 48→Lib.decDigits (zL l)=l:=by
 intro k
 induction k with
 | zero=>intro l d _ g;exact absurd (vZ.1 d) g
 | succ k ih =>
  intro l d f g b
  obtain⟨l',c,rfl⟩:∃ l' c,l=l' ++ [c]:=by
   rcases List.eq_nil_or_concat l with h|⟨l',c,h⟩
   ·exact absurd h g
   exact⟨l',c,by simpa using h⟩
  rw[List.all_append,vG] at f
  have i:xH c=true:=by simpa using f.2
  have m:=Zaf i
  rw[ZaW]
  by_cases a:l'=[]
  ·subst a
   have e:zL []=0:=rfl
   rw[e,sS,vO,aQ (by omega),Zex i];rfl
  have j:l'.head? ≠ some 48:=by
   rw[List.head?_append] at b
   cases hx:l'.head? with
   | none=>exact absurd (List.head?_eq_none_iff.1 hx) a
   | some x=>rw[hx] at b;exact b
  have n:=ih l' (by simp at d;exact d) f.1 a j
  have o:=(Zbl f.1 a j).1
  rw[Zbu (by omega),show (10*zL l'+(c.toNat-48))/10=zL l' by omega,show (10*zL l'+(c.toNat-48))%10=c.toNat-48 by omega,n,Zex i]
theorem ZhR (n:Nat):(Lib.decDigits n).head? ≠ some 45:=by
 intro e
 cases h:Lib.decDigits n with
 | nil=>exact lY n h
 | cons x xs =>
  rw[h] at e
  simp only[List.head?_cons,sC] at e
  subst e
  have:=aR n
  rw[h] at this
  simp only[sZ,vG] at this
  exact absurd this.1 (by decide)
theorem Zfd {p:UInt8→Bool}{l r:List UInt8}{c:UInt8}(h:l.all p=true)(a:p c=false):(l ++ c :: r).takeWhile p=l∧(l ++ c :: r).dropWhile p=c :: r:=by
 induction l with
 | nil=>simp[a]
 | cons x xs ih =>
  simp only[sZ,vG] at h
  obtain⟨b,d⟩:=ih h.2
  rw[List.cons_append,List.takeWhile_cons,List.dropWhile_cons,h.1]
  simp[b,d]
theorem ZhS (z:Int)(r:List UInt8):lM (Lib.itoa z ++ r)=(decide (z<0),Lib.decDigits z.natAbs ++ r):=by
 by_cases h:z<0
 ·rw[itoa_neg h,uI h]
  unfold lM
  rw[tA (by simp)]
  rfl
 rw[ZcO (by omega),uH h]
 unfold lM
 rw[vP]
 intro e
 rw[List.head?_append] at e
 cases hx:(Lib.decDigits z.natAbs).head? with
 | none=>exact absurd (List.head?_eq_none_iff.1 hx) (lY _)
 | some c =>
  rw[hx] at e
  exact ZhR _ (hx.trans e)
theorem Znx (z:Int):sg (decide (z<0)) z.natAbs=z:=by
 unfold sg
 split
 ·rename_i h;have:=uF h;omega
 rename_i h;have:¬ z<0:=fun k=>h (uI k);omega
theorem Zjj {q:Rat}(h:q.den=1):((q.num:Int):Rat)=q:=by
 apply Rat.ext<;>simp[h]
theorem Zny {q:Rat}(h:q.den≠1):q.num≠0:=by
 intro e
 have:=q.reduced
 rw[e] at this
 simp[Nat.Coprime] at this
 exact h this
theorem ZdD (n:Nat):Lib.itoa (n:Int)=Lib.decDigits n:=by
 rw[ZcO (by omega),vT]
theorem Zjk {q:Rat}(h:q.den≠1):lE (xA q)=(decide (q.num<0),Lib.decDigits q.num.natAbs,Lib.decDigits q.den,true):=by
 have l:=Zny h
 have m:=q.den_nz
 unfold xA
 rw[vP h,ZdD,uO]
 unfold lE
 rw[ZhS]
 simp only[]
 obtain⟨g,i⟩:=Zfd (p:=xH) (r:=Lib.decDigits q.den) (c:=47) (aR q.num.natAbs) (by decide)
 have e:Lib.decDigits q.num.natAbs ++ ([47] ++ Lib.decDigits q.den)=Lib.decDigits q.num.natAbs ++ 47 :: Lib.decDigits q.den:=rfl
 rw[e,g,i]
 have f:=cF q.num.natAbs (by omega)
 rw[vP (fun e=>f (by rw[e];rfl)),vP (fun e=>e.elim (lY _) f),vP (by simp),vP (by simp)]
 simp only[List.tail_cons]
 obtain⟨j,k⟩:=aA (aR q.den)
 rw[j,k]
 have a:=cF q.den (by omega)
 have b:Lib.decDigits q.den≠[49]:=fun e=>by
  have:=ZcP q.den
  rw[e] at this
  exact h (by rw[←this];rfl)
 have d:=lY q.den
 simp[a,b,d]
theorem bP (q:Rat):xI (xA q)=some q:=by
 by_cases h:q.den=1
 ·unfold xA
  rw[tA h,ZaP,Zjj h]
 unfold xI
 rw[Zjk h]
 simp only[]
 rw[vP (lY _),ZcP,ZcP,tA q.reduced,Znx,Rat.mkRat_self]
theorem ZfQ {neg:Bool}{a:Nat}(h:a=0→neg=false):(sg neg a<0↔neg=true)∧(sg neg a).natAbs=a:=by
 cases neg with
 | false=>simp[sg]
 | true =>
  have:a≠0:=fun e=>by cases h e
  simp[sg];omega
theorem Ziq {neg:Bool}{a:Nat}(h:a=0→neg=false):Lib.itoa (sg neg a)=(if neg then [45] else []) ++ Lib.decDigits a:=by
 obtain⟨c,b⟩:=ZfQ h
 cases neg with
 | false=>rw[ZcO (by simp[sg]),b];rfl
 | true=>rw[itoa_neg (c.2 rfl),b];rfl
theorem ZhT {l r:List UInt8}{neg:Bool}(h:lM l=(neg,r)):l=(if neg then [45] else []) ++ r:=by
 unfold lM at h
 split at h
 ·rename_i hh
  injection h with h1 h2
  subst h1 h2
  cases l with
  | nil=>cases hh
  | cons x xs=>simp at hh;subst hh;rfl
 injection h with h1 h2
 subst h1 h2
 rfl
theorem Zg5 {l:List UInt8}{q:Rat}(h:xI l=some q):xA q=l:=by
 unfold xI at h
 cases hs:lE l with
 | mk neg r =>
  obtain⟨num,den,ok⟩:=r
  rw[hs] at h
  cases ok with
  | false=>cases h
  | true =>
   simp only[] at h
   have k:=eE hs
   obtain⟨A,m⟩:=Zen hs
   cases hu:lM l with
   | mk neg' t =>
    have j:=ZhT hu
    have a:t.takeWhile xH ++ t.dropWhile xH=t:=rK
    unfold lE at hs
    rw[hu] at hs
    simp only[] at hs
    split at hs
    ·-- zero
     rename_i f
     injection hs with e1 hs;injection hs with e2 hs;injection hs with e3 e4
     subst e1 e2 e3
     simp at e4
     rw[tA rfl,f] at h
     have B:zL [48]=0:=rfl
     rw[B] at h
     injection h with h
     rw[e4.1] at h j
     rw[←h,j,← a,f,e4.2]
     simp only[sg]
     unfold xA
     rw[tA (by simp)]
     have:Lib.itoa ((0:Nat):Int)=[48]:=by rw[ZdD,aQ (by omega)];rfl
     simpa using this
    split at hs
    ·injection hs with _ hs;injection hs with _ hs;injection hs with _ hs;cases hs
    rename_i z
    have n:t.takeWhile xH≠[]:=fun e=>z (Or.inl e)
    have o:(t.takeWhile xH).head? ≠ some 48:=fun e=>z (Or.inr e)
    have g:=Zkt _ _ rfl (kU (p:=xH) t) n o
    split at hs
    ·rename_i s
     injection hs with e1 hs;injection hs with e2 hs;injection hs with e3 _
     subst e1 e2 e3
     rw[tA rfl] at h
     injection h with h
     rw[←h]
     unfold xA
     rw[tA (by simp)]
     have i:(((sg neg' (zL (t.takeWhile xH)):Int)):Rat).num=sg neg' (zL (t.takeWhile xH)):=rfl
     rw[i,Ziq (fun e=>(m e).1),g,j]
     rw[s,tP] at a
     rw[a]
    split at hs
    ·injection hs with _ hs;injection hs with _ hs;injection hs with _ hs;cases hs
    rename_i s b
    injection hs with e1 hs;injection hs with e2 hs;injection hs with e3 e4
    subst e1 e2
    rw[e3] at e4
    simp at e4
    obtain⟨⟨⟨u,v⟩,C⟩,E⟩:=e4
    rw[vP v] at h
    split at h
    ·rename_i D
     injection h with h
     have F:=A v
     have w:q.num=sg neg' (zL (t.takeWhile xH))∧q.den=zL den:=by
      have:=Zck (x:=sg neg' (zL (t.takeWhile xH))) (y:=(zL den:Int)) (by omega) (by
       unfold Int.gcd
       rw[(ZfQ (fun e=>(m e).1)).2,vT,D];rfl)
      rw[Rat.divInt_ofNat,h] at this
      exact⟨this.1,by have:=this.2;omega⟩
     unfold xA
     rw[vP (by rw[w.2];omega),w.1,w.2,Ziq (fun e=>(m e).1),g,ZdD,Zkt _ _ rfl k.2.1 v C,j]
     have d:t.dropWhile xH=47 :: den:=by
      cases hx:t.dropWhile xH with
      | nil=>exact absurd hx s
      | cons c r =>
       rw[hx] at b u e3
       simp at b u e3
       subst b
       have:=rK (p:=xH) (l:=r)
       rw[e3,u,tP] at this
       rw[this]
     rw[d] at a
     rw[uO,uO]
     congr 1
    cases h
theorem ZdE {l:List UInt8}{q:Rat}:xI l=some q↔xA q=l :=
 ⟨Zg5,fun h=>by rw[←h];exact bP q⟩
theorem Zku {l:List UInt8}(b:l.all xH=true)(f:l.length≤570):wl (zL l)≤30:=by
 rw[fE]
 have c:=gF l b
 obtain⟨k,d⟩:∃ k,k=30:=⟨_,rfl⟩
 have a:10^l.length≤10^(19*k):=vS (by omega) (by omega)
 rw[←d]
 rw[Nat.pow_mul] at a
 have e:(10^19)^k≤W64^k:=rM (by rw[zM];decide) k
 exact uX c (uD a e)
theorem fY.of_len {l:List UInt8}(h:l.length≤570):fY l:=by
 refine⟨h,fun neg num den a _=>?_⟩
 obtain⟨b,c,e⟩:=eE a
 have f:=Zku b (by omega)
 have g:=Zku c (by omega)
 have d:(sg neg (zL num)).natAbs=zL num:=by unfold sg;split<;>omega
 exact Zbg.words (by rw[d];omega) (by rw[vT];omega)
theorem ZeC:∀ (k u:Nat),1≤k→u<10^k→Lib.nDigits u≤k
 | 0,_,h,_=>by omega
 | k+1,u,_,h=>by
  by_cases a:u<10
  ·rw[Lib.nDigits_small a];omega
  rw[Lib.nDigits_big a]
  have b:1≤k:=by
   rcases uJ k with e|e
   ·subst e;simp at h;omega
   exact e
  have c:u/10<10^k:=by
   rw[uW] at h
   exact sF (by rw[uG];exact h)
  have:=ZeC k (u/10) b c
  omega
theorem Ziw {z:Int}{k:Nat}(a:1≤k)(h:z.natAbs<10^k):(Lib.itoa z).length≤k+1:=by
 have b:=ZeC k z.natAbs a h
 have e:0≤z→z.toNat=z.natAbs:=fun h=>by omega
 unfold Lib.itoa
 split
 ·simp only[vM,Lib.decDigits_length]
  omega
 rename_i c
 rw[Lib.decDigits_length]
 first
  | omega
  | (rw[e (by omega)];omega)
end Go.Proofs.YtoanifijmlgcgaaGreatDoor
namespace Go.Proofs.YtoanifijmlgcgaaGreatDoor
open Go.RowKit Go.Sort
end Go.Proofs.YtoanifijmlgcgaaGreatDoor
namespace Go.Proofs.YtoanifijmlgcgaaGreatDoor
open Go.RowKit Go.Sort
end Go.Proofs.YtoanifijmlgcgaaGreatDoor
namespace Go.Proofs.YtoanifijmlgcgaaGreatDoor
open Go.RowKit
theorem Zjl {q:Rat}{n d:Int}(a:d≠0)(h:Rat.divInt n d=q):q.num*d=n*q.den:=by
 have b:=(Rat.divInt_eq_divInt_iff (denI q) a (n₁:=q.num) (n₂:=n)).1 (by rw[rE,h])
 exact b
theorem Zbx {q:Rat}{k:Nat}(a:1≤k)(b:q.num.natAbs<10^k)(c:q.den<10^k):(xA q).length≤2*k+3:=by
 have d:=Ziw a b
 have e:=Ziw (z:=(q.den:Int)) a (by rw[vT];exact c)
 unfold xA
 split
 ·omega
 simp only[uA,vM,sO]
 omega
theorem Zby {q:Rat}{n d:Int}{k:Nat}(j:d≠0)(h:Rat.divInt n d=q)(o:n.natAbs<10^k)(u:d.natAbs<10^k):q.num.natAbs<10^k∧q.den<10^k:=by
 have l:=Zjl j h
 have b:q.num.natAbs*d.natAbs=n.natAbs*q.den:=by
  have:=tC Int.natAbs l
  rwa [rF,rF,vT] at this
 have a:=q.reduced
 have c:q.den∣d.natAbs:=(Nat.Coprime.symm a).dvd_of_dvd_mul_left ⟨n.natAbs,by rw[b,uG]⟩
 have f:0<d.natAbs:=by omega
 have m:=qU f c
 refine⟨?_,by omega⟩
 have g:q.num.natAbs∣n.natAbs:=a.dvd_of_dvd_mul_right ⟨d.natAbs,b.symm⟩
 rcases uJ n.natAbs with e|e
 ·rw[e,sU] at b
  rcases Nat.mul_eq_zero.1 b with i|i
  ·rw[i];exact uU (by omega)
  omega
 have:=qU e g;omega
theorem Zkx {b:Rat}{n:Nat}(a:b.num.natAbs<n∧b.den<n):(-b).num.natAbs<n∧(-b).den<n:=by
 rw[ZdA,ZdB,Int.natAbs_neg];exact a
section
variable {s t:ByteArray} {p q r:Rat} {w:World}
end
section
variable {N:Nat} {S0:Nat→Prop} {w0:World} {s:St} {Φ Φ0:World→Prop} {P:Program} {ops:Array Oper} {Q:Exit→Act→World→Prop}
theorem cI {n i b:Nat}{α:Type}[z:Nonempty α](d:Nat)(f:FuncId)(g:List Value)(m:α→Value)(Ψ:World→Prop)(φ:α→World→Prop){c:Value}{j:Nat}(A:∀ w,Φ w→w.cell? ⟨b,j,none⟩=some c)(l:w0.heap.size≤b∨S0 b)(B:∀ w,Fr S0 w0 w→Φ w→Calls P f g.toArray w (fun en w'=>∃ x,en=.returned (m x)∧Fr (fun i=>i=b) w w'∧BoxT b w w' (φ x)))(C:∀ w w',Fr S0 w0 w'→Φ w→Fr (fun i=>i=b) w w'→Ψ w')(D:∀ x w,Ψ w∧φ x w→Φ0 w)(K:∀ x,StI P N S0 w0 ops Φ0 Q n (i+1) (s.put d (.v (m x))) (fun w=>Ψ w∧φ x w))(hi:Nat.blt i n=true:=by kernel_rfl)(E:cls (opAt ops i).op=2:=by kernel_rfl)(h:kX P N ops (opAt ops i) s=some (f,g,d):=by kernel_rfl):StI P N S0 w0 ops Φ0 Q n i s Φ:=by
 obtain⟨F,G,H,I,J,M,O⟩:=jB h
 have T:i<n:=vK hi
 unfold StI
 rw[show n-i=(n-(i+1))+1 by omega,List.range'_succ]
 refine .gen z m (fun x w w'=>Fr S0 w0 w∧Fr (fun i=>i=b) w w'∧BoxT b w w' (φ x)) (fun x w=>Ψ w∧φ x w) E F I J H O (fun w t R=>?_) (fun u L a w w' x hi S=>?_) D K
 ·exact Or.inr ⟨f,g.toArray,w,bL G M,(B w t R).mono (fun e w' h=>by
   obtain⟨x,U,o⟩:=h
   exact⟨_,U,x,rfl,t,o⟩)⟩
 obtain⟨_,V,W⟩:=S
 have k:¬ u.own L b:=hi.notOwn (c:=c) (j:=j) A
 have p:∀ r,u.own L r→r<w.heap.size∧r≠b∧NRB w r:=fun r q=>⟨(hi.own_nrb q).1,fun e=>k (e ▸ q),(hi.own_nrb q).2⟩
 exact hi.eff3 V k l (fun X y o Y Z h5=>⟨C X y o Y Z,W _ y p h5⟩)
end
section
variable {N:Nat} {S0:Nat→Prop} {w0:World} {s:St} {Φ Φ0:World→Prop} {P:Program} {ops:Array Oper} {Q:Exit→Act→World→Prop}
theorem Inv.facts {Ψ:World→Prop}{L:Nat→Nat}{a:Act}{w:World}(h:Inv N S0 w0 s Ψ L a w)(Q:∀ w,Ψ w→Φ w):Inv N S0 w0 s Φ L a w :=
 ⟨h.size,h.df,h.sl,h.mem,fun w' b=>Q _ (h.box w' b)⟩
theorem SXi.facts {n:Nat}{Ψ:World→Prop}(h:SXi P N S0 w0 ops Q n s Φ)(R:∀ w,Ψ w→Φ w):SXi P N S0 w0 ops Q n s Ψ:=fun L a w b=>h L a w (b.facts R)
def bJ (fin:St→(World→Prop)→Prop):Prop:=(∀ s s' Φ,fin s Φ→s'.bl=s.bl→(∀ t x,s.sl t=some x→s'.sl t=some x)→fin s' Φ)∧∀ s (Φ Ψ:World→Prop),(∀ w,Ψ w→Φ w)→fin s Φ→fin s Ψ
theorem Zfh (n:Nat):bJ (fun s Φ=>SXi P N S0 w0 ops Q n s Φ):=⟨fun s a Φ h b c=>Zab s a Φ h b c,fun _ _ _ h k=>k.facts h⟩
theorem Strat.facts {fin:St→(World→Prop)→Prop}(d:bJ fin){l:List Nat}{s:St}{Φ:World→Prop}(h:Strat P N S0 w0 ops Φ0 fin l s Φ):∀ Ψ:World→Prop,(∀ w,Ψ w→Φ w)→Strat P N S0 w0 ops Φ0 fin l s Ψ:=by
 induction h with
 | done h=>exact fun Ψ b=>.done (d.2 _ _ _ b h)
 | flt h hd hN _ ih=>exact fun Ψ b=>.flt h hd hN (ih Ψ b)
 | does hα sh φ hm hw hn hv hd hN hdo _ ih=>exact fun Ψ b=>.does hα sh φ hm hw hn hv hd hN (fun w c h=>hdo w c (b w h)) (fun x=>ih x _ (fun w h=>⟨b w h.1,h.2⟩))
 | gen hα sh E Ψ' hm hw hn hv hd hN hdo Q h0 _ ih=>exact fun Ψ b=>.gen hα sh E Ψ' hm hw hn hv hd hN (fun w c h=>hdo w c (b w h)) (fun e L a w w' x f=>Q e L a w w' x (f.facts b)) h0 (fun x=>ih x _ (fun w h=>h))
 | sto hm h hd _ ih=>exact fun Ψ b=>.sto hm h hd (ih Ψ b)
theorem Zm8 {fin:St→(World→Prop)→Prop}(c:bJ fin)(l:List Nat):bJ (fun s Φ=>Strat P N S0 w0 ops Φ0 fin l s Φ):=⟨fun _ _ _ h a b=>Strat.weak h a b (fun s d Φ h a b=>c.1 s d Φ h a b),fun _ _ _ h k=>k.facts c _ h⟩
theorem ZkR {f g:St→(World→Prop)→Prop}(a:bJ f)(b:bJ g):bJ (fun s Φ=>f s Φ∧g s Φ):=⟨fun s c Φ h d e=>⟨a.1 s c Φ h.1 d e,b.1 s c Φ h.2 d e⟩,fun s Φ Ψ h k=>⟨a.2 s Φ Ψ h k.1,b.2 s Φ Ψ h k.2⟩⟩
def SL (P:Program) (N:Nat) (S0:Nat→Prop) (w0:World) (ops:Array Oper) (Φ0:World→Prop) (Q:Exit→Act→World→Prop) (n:Nat) (l:List Nat) (s:St) (Φ:World→Prop):Prop:=Strat P N S0 w0 ops Φ0 (fun s Φ=>SXi P N S0 w0 ops Q n s Φ) l s Φ
def SP (P:Program) (N:Nat) (S0:Nat→Prop) (w0:World) (ops:Array Oper) (Φ0:World→Prop) (Q:Exit→Act→World→Prop) (n x0 y0:Nat) (RR l:List Nat) (s:St) (Φ:World→Prop):Prop:=Strat P N S0 w0 ops Φ0 (fun s Φ=>SL P N S0 w0 ops Φ0 Q n (x0 :: y0 :: RR) s Φ∧SL P N S0 w0 ops Φ0 Q n (y0 :: x0 :: RR) s Φ) l s Φ
theorem ZiG (n:Nat)(l:List Nat):bJ (fun s Φ=>SL P N S0 w0 ops Φ0 Q n l s Φ):=Zm8 (Zfh n) l
theorem Zm9 (n x0 y0:Nat)(RR:List Nat):bJ (fun s Φ=>SL P N S0 w0 ops Φ0 Q n (x0 :: y0 :: RR) s Φ∧SL P N S0 w0 ops Φ0 Q n (y0 :: x0 :: RR) s Φ):=ZkR (ZiG n _) (ZiG n _)
theorem Zna {id:Nat}(K n x0 y0:Nat)(a RR:List Nat){sl:SlL}{bl:BlL}(h:SP P N S0 w0 ops Φ Q n x0 y0 RR a (ofL sl bl) Φ)(b:Zeu K ops (ofL sl bl) n x0 y0 a RR=true:=by kernel_rfl)(c:aD ops sl=true:=by kernel_rfl)(d:P.follows .mixedOrders=true:=by exact zK):SXc P N S0 w0 Q (.region id ops true) (ofL sl bl) Φ :=
 ZgU K n x0 y0 a RR b c d h
theorem ZfZ {fin:St→(World→Prop)→Prop}{l2:List Nat}:∀ (l:List Nat) (s a:St),ZaH P N ops l s=some a→Strat P N S0 w0 ops Φ0 fin l2 a Φ→Strat P N S0 w0 ops Φ0 fin (l ++ l2) s Φ
 | [],s,a,h,K=>by simp only[ZaH,sC] at h;subst h;exact K
 | i :: l,s,a,h,K=>by
  unfold ZaH at h
  split at h
  ·rename_i c b
   exact Zbj b (ZfZ l _ a h K)
  cases h
def Zjv (ops:Array Oper) (l:List Nat):List Nat:=l.filterMap (fun i=>(opAt ops i).dst)
theorem ZiH {fin:St→(World→Prop)→Prop}(e:bJ fin)(k:Nat){l:List Nat}{s:St}(a:SlL)(b:BlL)(hr:cC P N ops (l.take k) s a=some (a.map (fun q=>some q.2),iJ b))(K:Strat P N S0 w0 ops Φ0 fin (l.drop k) (ofL a b) Φ):Strat P N S0 w0 ops Φ0 fin l s Φ:=by
 unfold cC at hr
 split at hr
 ·rename_i d i
  injection hr with h
  injection h with h2 h3
  have c:∀ t x,(ofL a b).sl t=some x→d.sl t=some x:=fun t x j=>gL (f:=fun q:Nat × AV=>d.sl q.1) (g:=fun q=>some q.2) h2 (lP j)
  rw[←tT k l]
  exact ZfZ _ _ _ i (Strat.weak K h3 c (fun s m Φ h o c=>e.1 s m Φ h o c))
 cases hr
theorem ZlR {fin:St→(World→Prop)→Prop}{i:Nat}{l:List Nat}(d:Nat)(y:Value)(hk:aZ (opAt ops i).op=true)(a:s.wantB ops (opAt ops i)=some true)(b:(opAt ops i).op.operands.toList.all s.vB=true)(c:(opAt ops i).dst=some d)(e:Nat.blt d N=true)(f:∀ w,Φ0 w→(execOp s.rho (opAt ops i)).run P w=.ok (.value y) w)(K:Strat P N S0 w0 ops Φ0 fin l (s.put d (.v y)) Φ):Strat P N S0 w0 ops Φ0 fin (i :: l) s Φ:=by
 have g:lF (opAt ops i).op=true:=by
  cases h:(opAt ops i).op<;>first|rfl | (rw[h] at hk;cases hk)
 exact .flt (r:=(.v y,none)) (Or.inr ⟨y,rfl,hk,a,g,b,f⟩) c (vK e) K
variable {n x0 y0:Nat} {RR:List Nat} {sl:SlL} {bl:BlL}
-- the part ahead of the pair
theorem xpg {l:List Nat}(k:Nat)(a:SlL)(K:SP P N S0 w0 ops Φ0 Q n x0 y0 RR (l.drop k) (ofL (a ++ fR (Zjv ops (l.take k)) sl) bl) Φ)(h:cC P N ops (l.take k) (ofL sl bl) (a ++ fR (Zjv ops (l.take k)) sl)=some ((a ++ fR (Zjv ops (l.take k)) sl).map (fun q=>some q.2),iJ bl):=by kernel_rfl):SP P N S0 w0 ops Φ0 Q n x0 y0 RR l (ofL sl bl) Φ :=
 ZiH (Zm9 n x0 y0 RR) k _ _ h K
theorem xpj {i:Nat}{l:List Nat}(d:Nat)(y:Value)(a:∀ w,Φ0 w→(execOp (ofL sl bl).rho (opAt ops i)).run P w=.ok (.value y) w)(K:SP P N S0 w0 ops Φ0 Q n x0 y0 RR l (ofL ((d,.v y) :: sl) bl) Φ)(b:aZ (opAt ops i).op=true:=by kernel_rfl)(c:(ofL sl bl).wantB ops (opAt ops i)=some true:=by kernel_rfl)(e:(opAt ops i).op.operands.toList.all (ofL sl bl).vB=true:=by kernel_rfl)(f:(opAt ops i).dst=some d:=by kernel_rfl)(g:Nat.blt d N=true:=by kernel_rfl):SP P N S0 w0 ops Φ0 Q n x0 y0 RR (i :: l) (ofL sl bl) Φ :=
 ZlR d y b c e f g a K
-- the part behind it
theorem xlf {l:List Nat}{s:St}(k:Nat)(a:SlL)(b:BlL)(K:SL P N S0 w0 ops Φ0 Q n (l.drop k) (ofL a b) Φ)(h:cC P N ops (l.take k) s a=some (a.map (fun q=>some q.2),iJ b):=by kernel_rfl):SL P N S0 w0 ops Φ0 Q n l s Φ :=
 ZiH (Zfh n) k _ _ h K
theorem xle {i:Nat}{l:List Nat}(d:Nat){α:Type}[k:Nonempty α](a:α→Value)(φ:α→World→Prop)(b:∀ w,Fr S0 w0 w→Φ w→Does P (opAt ops i) s.rho w (DoR a φ w))(K:∀ x,SL P N S0 w0 ops Φ0 Q n l (s.put d (.v (a x))) (fun w=>Φ w∧φ x w))(c:cls (opAt ops i).op=2:=by kernel_rfl)(e:s.wantB ops (opAt ops i)=some true:=by kernel_rfl)(f:lF (opAt ops i).op=true:=by kernel_rfl)(g:(opAt ops i).op.operands.toList.all s.vB=true:=by kernel_rfl)(h:(opAt ops i).dst=some d:=by kernel_rfl)(j:Nat.blt d N=true:=by kernel_rfl):SL P N S0 w0 ops Φ0 Q n (i :: l) s Φ :=
 Zam d a φ b K c e f g h j
theorem xlz (K:SXi P N S0 w0 ops Q n s Φ):SL P N S0 w0 ops Φ0 Q n [] s Φ:=.done K
structure IsDo (P:Program) (N:Nat) (S0:Nat→Prop) (w0:World) (ops:Array Oper) (s:St) (Φ:World→Prop) (i d:Nat) {α:Type} (sh:α→Value) (φ:α→World→Prop):Prop where
 hm:cls (opAt ops i).op=2
 hw:s.wantB ops (opAt ops i)=some true
 hn:lF (opAt ops i).op=true
 hv:(opAt ops i).op.operands.toList.all s.vB=true
 hd:(opAt ops i).dst=some d
 hN:d<N
 hdo:∀ w,Fr S0 w0 w→Φ w→Does P (opAt ops i) s.rho w (DoR sh φ w)
theorem isC {i:Nat}{α:Type}(f:FuncId)(a:List Value)(d:Nat)(b:α→Value)(φ:α→World→Prop)(c:∀ w,Fr S0 w0 w→Φ w→Calls P f a.toArray w (wS b φ w))(e:cls (opAt ops i).op=2:=by kernel_rfl)(h:kX P N ops (opAt ops i) s=some (f,a,d):=by kernel_rfl):IsDo P N S0 w0 ops s Φ i d b φ:=by
 obtain⟨g,j,k,l,m,o,p⟩:=jB h
 exact⟨e,g,l,m,k,p,fun w q Q=>ZaF j o (c w q Q)⟩
theorem isD {i:Nat}(d:Nat){α:Type}(b:α→Value)(φ:α→World→Prop)(a:∀ w,Fr S0 w0 w→Φ w→Does P (opAt ops i) s.rho w (DoR b φ w))(c:cls (opAt ops i).op=2:=by kernel_rfl)(e:s.wantB ops (opAt ops i)=some true:=by kernel_rfl)(f:lF (opAt ops i).op=true:=by kernel_rfl)(g:(opAt ops i).op.operands.toList.all s.vB=true:=by kernel_rfl)(h:(opAt ops i).dst=some d:=by kernel_rfl)(j:Nat.blt d N=true:=by kernel_rfl):IsDo P N S0 w0 ops s Φ i d b φ :=
 ⟨c,e,f,g,h,vK j,a⟩
theorem IsDo.up {i d d':Nat}{α:Type}{c:α→Value}{φ:α→World→Prop}{v:Value}{Ψ:World→Prop}(h:IsDo P N S0 w0 ops s Φ i d c φ)(g:((opAt ops i).looksAt ops).all (fun t => !(Nat.beq t d'))=true)(j:∀ w,Ψ w→Φ w):IsDo P N S0 w0 ops (s.put d' (.v v)) Ψ i d c φ:=by
 have a:kM ops (opAt ops i) s (s.put d' (.v v)):=fun t k x l=>by
  have f:=vC.1 g t k
  have b:t≠d':=fun e=>by rw[e] at f;simp at f
  show (upd s.sl d' _) t=_
  rw[xW _ _ b];exact l
 exact⟨h.hm,a.want h.hw,h.hn,a.vB h.hv,h.hd,h.hN,fun w m o=>by
  have:=h.hdo w m (j w o)
  unfold Does at this ⊢
  rw[a.exec h.hn h.hv];exact this⟩
theorem ZnR {d e:Nat}{α β:Type}[z:Nonempty α][A:Nonempty β]{c:α→Value}{k:α→World→Prop}{f:β→Value}{l:β→World→Prop}(i:IsDo P N S0 w0 ops s Φ x0 d c k)(j:IsDo P N S0 w0 ops s Φ y0 e f l)(K:∀ x y,SL P N S0 w0 ops Φ0 Q n RR ((s.put d (.v (c x))).put e (.v (f y))) (fun w=>(Φ w∧k x w)∧l y w))(o:((opAt ops x0).looksAt ops).all (fun t => !(Nat.beq t e))=true:=by kernel_rfl)(p:((opAt ops y0).looksAt ops).all (fun t => !(Nat.beq t d))=true:=by kernel_rfl)(m:Nat.beq d e=false:=by kernel_rfl):SP P N S0 w0 ops Φ0 Q n x0 y0 RR [] s Φ:=by
 have q:d≠e:=fun h=>by rw[h] at m;simp at m
 refine .done ⟨.does z c k i.hm i.hw i.hn i.hv i.hd i.hN i.hdo (fun a=>?_),.does A f l j.hm j.hw j.hn j.hv j.hd j.hN j.hdo (fun b=>?_)⟩
 ·have h:=j.up (v:=c a) (Ψ:=fun w=>Φ w∧k a w) p (fun w h=>h.1)
  exact .does A f l h.hm h.hw h.hn h.hv h.hd h.hN h.hdo (fun b=>K a b)
 have h:=i.up (v:=f b) (Ψ:=fun w=>Φ w∧l b w) o (fun w h=>h.1)
 refine .does z c k h.hm h.hw h.hn h.hv h.hd h.hN h.hdo fun a=>?_
 refine Strat.facts (Zfh n) (Φ:=fun w=>(Φ w∧k a w)∧l b w) (s:=(s.put e (.v (f b))).put d (.v (c a))) (Strat.weak (K a b) rfl (fun t x i=>?_) (fun s B Φ h C D=>Zab s B Φ h C D)) _ (fun w (h:(Φ w∧l b w)∧k a w)=>⟨⟨h.1.1,h.2⟩,h.1.2⟩)
 have g:(upd (upd s.sl d (AV.v (c a))) e (AV.v (f b))) t=some x:=i
 show (upd (upd s.sl e (AV.v (f b))) d (AV.v (c a))) t=some x
 by_cases r:t=d
 ·subst r
  rw[xW _ _ q,wV] at g
  rw[wV];exact g
 rw[xW _ _ r]
 by_cases u:t=e
 ·subst u
  rw[wV] at g ⊢;exact g
 rw[xW _ _ u,xW _ _ r] at g
 rw[xW _ _ u];exact g
end
theorem ZnT (a b a' b':ByteArray)(d d':Int)(w:World):(Op.equalIn 10000 38 (.agg #[.string a,.string b,.int .i64 d]) (.agg #[.string a',.string b',.int .i64 d'])).run Tryz.prog w =
 .ok ((a.toList == a'.toList) && ((b.toList == b'.toList) && (d == d'))) w:=by
 have c:Tryz.prog.underlying 38=some (.struct (Tryz.prog.fieldsOf 38)):=by kernel_rfl
 have e:Tryz.prog.stoodInHeld 38=false:=by kernel_rfl
 have f:=Tryz.underlying3
 have g:=Tryz.isAgg3
 have h:=Tryz.underlying9
 have i:=Tryz.isAgg9
 rw[show (10000:Nat)=9999+1 from rfl,run_equalIn_agg w 9999 _ _ _ c e]
 simp only[Program.fieldsOf,Tryz.underlying38]
 go_simp
 cases h1:(a.toList == a'.toList)<;>cases h2:(b.toList == b'.toList)<;>cases h3:(d == d')<;>simp_all
theorem Zne {o:Oper}{ρ:Operand→Value}{w:World}{x y:Operand}{k:TypeId}{a b a' b':ByteArray}{d d':Int}{r:Bool}(c:o.op=Op.binOp .neq 38 x y k)(e:ρ x=.agg #[.string a,.string b,.int .i64 d])(f:ρ y=.agg #[.string a',.string b',.int .i64 d'])(g:(!((a.toList == a'.toList) && ((b.toList == b'.toList) && (d == d'))))=r):(execOp ρ o).run Tryz.prog w=.ok (.value (.bool r)) w:=by
 have h:Tryz.prog.eqGuardType Tryz.prog.depth 38=false:=by kernel_rfl
 subst g
 simp only[execOp,c,e,f,Sem.run_bind,run_eqGuard_agg w _ _ _ _ _ _ h,Result.andThen_ok,run_neq_struct,ZnT,Sem.run_pure]
end Go.Proofs.YtoanifijmlgcgaaGreatDoor
