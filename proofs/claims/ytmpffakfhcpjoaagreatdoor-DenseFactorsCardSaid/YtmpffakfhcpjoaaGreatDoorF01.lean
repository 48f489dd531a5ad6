/-
 My texts.
-/
import Derived.WalkSpells
import Derived.WalkLawsBesides
import Derived.Lib.Hide
import Derived.Laws.CopyOwn
import Derived.Deep.OwnRows
set_option maxRecDepth 100000
set_option maxHeartbeats 8000000
namespace Go.Proofs.YtmpffakfhcpjoaaGreatDoor
open Go.RowKit
theorem yE {α:Sort _}(a:α):∃ x,a=x:=⟨_,rfl⟩
theorem qK {p:Prop}(h:p:=by kernel_rfl):p:=h
abbrev qA:=Option Addr
abbrev qN:=List Nat
theorem zh {p : Prop}(h : p) : Hid p := Lib.hid h
structure Fr (S:Nat→Prop) (w w':World):Prop where
 os:w'.os=w.os
 tape:w'.tape=w.tape
 output:w'.output=w.output
 size:w.heap.size≤w'.heap.size
 block:∀ i,i<w.heap.size→¬ S i→w'.heap[i]? = w.heap[i]?
abbrev Ext (w w':World):Prop:=Fr (fun _=>False) w w'
section
variable {S T:Nat→Prop} {w w' w'':World}
theorem Fr.refl (S:Nat→Prop)(w:World):Fr S w w:=⟨rfl,rfl,rfl,Nat.le_refl _,fun _ _ _=>rfl⟩
theorem Fr.trans (h:Fr S w w')(k:Fr S w' w''):Fr S w w'' :=
 ⟨k.os.trans h.os,k.tape.trans h.tape,k.output.trans h.output,Nat.le_trans h.size k.size,fun i hi a=>(k.block i (Nat.lt_of_lt_of_le hi h.size) a).trans (h.block i hi a)⟩
theorem Fr.mono (h:Fr S w w')(a:∀ i,i<w.heap.size→S i→T i):Fr T w w' :=
 ⟨h.os,h.tape,h.output,h.size,fun i hi c=>h.block i hi (fun d=>c (a i hi d))⟩
theorem Fr.next (h:Fr S w w')(k:Fr T w' w'')(c:∀ i,i<w.heap.size→T i→S i):Fr S w w'' :=
 ⟨k.os.trans h.os,k.tape.trans h.tape,k.output.trans h.output,Nat.le_trans h.size k.size,fun i hi a=>(k.block i (Nat.lt_of_lt_of_le hi h.size) (fun d=>a (c i hi d))).trans (h.block i hi a)⟩
theorem Fr.ext (h:Fr S w w')(k:Ext w' w''):Fr S w w'':=h.next k (fun _ _ a=>a.elim)
theorem Fr.alloc (h:Fr S w w')(o:Obj):Fr S w (w'.alloc o) :=
 h.next (T:=fun _=>False) ⟨rfl,rfl,rfl,by simp,fun i hi _=>Below.heap_alloc _ _ _ hi⟩ (fun _ _ a=>a.elim)
theorem Fr.drew (h:Fr S w w'):Fr S w w'.drew:=⟨h.os,h.tape,h.output,h.size,h.block⟩
theorem Fr.drewN (h:Fr S w w')(n:Nat):Fr S w (w'.drewN n):=⟨h.os,h.tape,h.output,h.size,h.block⟩
theorem Fr.setCell (h:Fr S w w'){p:Addr}(a:S p.block∨w.heap.size≤p.block)(u:Value):Fr S w (w'.setCell p u) :=
 h.next (T:=fun i=>i=p.block) ⟨rfl,rfl,rfl,by simp[World.setCell],fun i _ c=>Below.heap_setCell _ _ _ _ c⟩
  (fun i hi d=>by
   rcases a with a|a;· exact d ▸ a
   ·omega)
theorem Fr.ofGrown {row:Option Nat}(h:w.grownBy w' row):Fr (fun i=>row=some i) w w' :=
 ⟨h.os,h.tape,h.output,h.size,fun i hi a=>h.block i hi (fun e=>a e.symm)⟩
theorem Fr.toBelow (h:Ext w w'):Below w.heap.size w w':=⟨h.os,h.tape,h.output,h.size,fun i hi=>h.block i hi (fun f=>f)⟩
theorem Fr.ofBelow (h:Below w.heap.size w w'):Ext w w':=⟨h.os,h.tape,h.output,h.size,fun i hi _=>h.block i hi⟩
theorem Fr.cell (h:Fr S w w'){p:Addr}(a:p.block<w.heap.size)(c:¬ S p.block):w'.cell? p=w.cell? p :=
 World.cell?_of_block (w:=w) (h.block p.block a c)
end
def zI (k:IntKind) (w:World) (A:Option Addr) (xs:List Nat):Prop :=
 xs≠[]→∃ b off,A=some ⟨b,off,none⟩∧b<w.heap.size∧∀ i,i<xs.length→w.cell? ⟨b,off+i,none⟩=some (.int k ((xs[i]?.getD 0:Nat):Int))
section
variable {S:Nat→Prop} {k:IntKind} {w w':World} {A:Option Addr} {xs:List Nat}
theorem zI.nil:zI k w A []:=fun h=>absurd rfl h
theorem zI.fr (h:zI k w A xs)(f:Fr S w w')(g:∀ a,A=some a→a.block<w.heap.size→¬ S a.block):zI k w' A xs:=fun d=>by
 obtain⟨b,c,rfl,e,j⟩:=h d
 exact⟨b,c,rfl,Nat.lt_of_lt_of_le e f.size,fun i hi=>(f.cell (p:=⟨b,c+i,none⟩) e (g ⟨b,c,none⟩ rfl e)).trans (j i hi)⟩
theorem zI.ext (h:zI k w A xs)(a:Ext w w'):zI k w' A xs:=h.fr a (fun _ _ _ f=>f)
theorem zI.alloc (h:zI k w A xs)(o:Obj):zI k (w.alloc o) A xs:=h.ext ((Fr.refl _ w).alloc o)
theorem zI.drew (h:zI k w A xs):zI k w.drew A xs:=h
theorem zI.drewN (h:zI k w A xs)(n:Nat):zI k (w.drewN n) A xs:=h
theorem zI.take (h:zI k w A xs)(n:Nat):zI k w A (xs.take n):=fun a=>by
 obtain⟨b,c,rfl,d,f⟩:=h (fun e=>a (by simp[e]))
 refine⟨b,c,rfl,d,fun i hi=>?_⟩
 rw[List.length_take] at hi
 rw[f i (by omega),List.getElem?_take_of_lt (by omega)]
theorem zI.at (h:zI k w A xs){i:Nat}(hi:i<xs.length):∃ b a,A=some ⟨b,a,none⟩∧b<w.heap.size∧w.cell? ⟨b,a+i,none⟩=some (.int k ((xs[i]?.getD 0:Nat):Int)):=by
 obtain⟨b,a,c,d,f⟩:=h (by intro e;simp[e] at hi)
 exact⟨b,a,c,d,f i hi⟩
end
def lN (k:IntKind) (xs:List Nat) (tail:List Value):Array Value:=((xs.map fun x:Nat=>Value.int k (x:Int)) ++ tail).toArray
theorem ZmS {k:IntKind}{xs:List Nat}{tail:List Value}{i:Nat}(h:i<xs.length):(lN k xs tail)[i]? = some (.int k ((xs[i]?.getD 0:Nat):Int)):=by
 simp[lN,List.getElem?_append_left,h]
theorem ZkL (k:IntKind)(xs:List Nat)(tail:List Value)(i v:Nat)(h:i<xs.length):(lN k xs tail).setIfInBounds i (.int k (v:Int))=lN k (xs.set i v) tail:=by
 simp[lN,List.map_set,List.set_append_left,h]
theorem aT (k:IntKind)(xs:List Nat)(tail:List Value):(lN k xs tail).size=xs.length+tail.length:=by simp[lN]
def IsK (k:IntKind) (v:Value):Prop:=∃ z,v=.int k z
def Zf8 (p:Value→Prop) (w:World) (b:Nat):Prop:=∃ cur t,w.heap[b]? = some (.cells cur t (0,0))∧∀ v∈cur.toList,p v
def Own (k:IntKind) (t:TypeId) (w:World) (b:Nat) (xs:List Nat):Prop:=∃ tail,(∀ v∈tail,IsK k v)∧w.heap[b]? = some (.cells (lN k xs tail) t (0,0))
theorem ZkM {k:IntKind}{xs:List Nat}{tail:List Value}(h:∀ v∈tail,IsK k v):∀ v∈(lN k xs tail).toList,IsK k v:=fun v a=>by
 simp only[lN,List.toList_toArray,List.mem_append,List.mem_map] at a
 rcases a with ⟨x,_,rfl⟩|a
 ·exact⟨_,rfl⟩
 exact h v a
theorem Own.all {k:IntKind}{t:TypeId}{w:World}{b:Nat}{xs:List Nat}(h:Own k t w b xs):Zf8 (IsK k) w b:=by
 obtain⟨tail,a,c⟩:=h
 exact⟨_,_,c,ZkM a⟩
def fI (t:TypeId) (w:World) (b cap:Nat):Prop:=∃ cur,w.heap[b]? = some (.cells cur t (0,0))∧cur.size=cap
section
variable {S:Nat→Prop} {k:IntKind} {t:TypeId} {w w':World} {b cap:Nat} {xs:List Nat}
theorem Own.lt (h:Own k t w b xs):b<w.heap.size:=by
 rcases Nat.lt_or_ge b w.heap.size with a|c
 ·exact a
 obtain⟨tail,_,h⟩:=h;rw[Array.getElem?_eq_none c] at h;cases h
theorem Own.cell (h:Own k t w b xs){i:Nat}(hi:i<xs.length):w.cell? ⟨b,i,none⟩=some (.int k ((xs[i]?.getD 0:Nat):Int)):=by
 obtain⟨tail,_,h⟩:=h
 exact (cell_of_row w b i _ t (0,0) h).trans (ZmS hi)
theorem Own.frozen (h:Own k t w b xs)(i:Nat):w.frozen? ⟨b,i,none⟩=false:=by
 obtain⟨tail,_,h⟩:=h
 simp[World.frozen?,h]
theorem Own.new (w:World)(t:TypeId)(k:IntKind)(xs:List Nat)(tail:List Value)(a:∀ v∈tail,IsK k v:=by simp):Own k t (w.alloc (.cells (lN k xs tail) t)) w.heap.size xs:=⟨tail,a,heap_alloc_new w _⟩
theorem Own.drew (h:Own k t w b xs):Own k t w.drew b xs:=h
theorem Own.drewN (h:Own k t w b xs)(n:Nat):Own k t (w.drewN n) b xs:=h
theorem Own.fr (h:Own k t w b xs)(a:Fr S w w')(c:¬ S b):Own k t w' b xs:=by
 have d:=h.lt
 obtain⟨tail,e,h⟩:=h
 exact⟨tail,e,(a.block b d c).trans h⟩
theorem Own.ext (h:Own k t w b xs)(a:Ext w w'):Own k t w' b xs:=h.fr a (fun f=>f)
theorem Own.alloc (h:Own k t w b xs)(o:Obj):Own k t (w.alloc o) b xs:=h.ext ((Fr.refl _ w).alloc o)
theorem Own.set (h:Own k t w b xs)(i v:Nat)(hi:i<xs.length):Own k t (w.setCell ⟨b,i,none⟩ (.int k (v:Int))) b (xs.set i v):=by
 obtain⟨tail,a,h⟩:=h
 refine⟨tail,a,?_⟩
 rw[←ZkL _ _ _ _ _ hi]
 simp[World.setCell,Array.getElem?_modify,h]
theorem Own.far (h:Own k t w b xs){p:Addr}(a:b≠p.block)(u:Value):Own k t (w.setCell p u) b xs:=by
 obtain⟨tail,c,h⟩:=h
 exact⟨tail,c,(Below.heap_setCell w p u b a).trans h⟩
theorem Own.shows (h:Own k t w b xs)(off n:Nat):zI k w (some ⟨b,off,none⟩) ((xs.drop off).take n):=fun _=>by
 refine⟨b,off,rfl,h.lt,fun i hi=>?_⟩
 rw[List.length_take,List.length_drop] at hi
 rw[h.cell (by omega),List.getElem?_take_of_lt (by omega),List.getElem?_drop]
theorem Own.shows0 (h:Own k t w b xs):zI k w (some ⟨b,0,none⟩) xs:=by
 have:=h.shows 0 xs.length
 simpa using this
theorem Own.front {ys:List Nat}(h:Own k t w b (xs ++ ys)):Own k t w b xs:=by
 obtain⟨tail,c,h⟩:=h
 refine⟨(ys.map fun x:Nat=>Value.int k (x:Int)) ++ tail,fun v a=>?_,by rw[h];simp[lN]⟩
 rcases List.mem_append.1 a with a|a
 ·obtain⟨x,_,rfl⟩:=List.mem_map.1 a;exact⟨_,rfl⟩
 exact c v a
theorem Own.take (h:Own k t w b xs)(n:Nat):Own k t w b (xs.take n):=by
 have a:=h
 rw[←List.take_append_drop n xs] at a
 exact a.front
theorem fI.fr (h:fI t w b cap)(e:Fr S w w')(f:¬ S b):fI t w' b cap:=by
 obtain⟨a,h,g⟩:=h
 have i:b<w.heap.size:=by
  rcases Nat.lt_or_ge b w.heap.size with c|d
  ·exact c
  rw[Array.getElem?_eq_none d] at h;cases h
 exact⟨a,(e.block b i f).trans h,g⟩
theorem fI.setCell (h:fI t w b cap)(g i:Nat)(u:Value):fI t (w.setCell ⟨g,i,none⟩ u) b cap:=by
 obtain⟨a,h,c⟩:=h
 by_cases e:b=g
 ·subst e
  refine⟨a.setIfInBounds i u,?_,by simpa using c⟩
  simp[World.setCell,Array.getElem?_modify,h]
 exact⟨a,(Below.heap_setCell w ⟨g,i,none⟩ u b e).trans h,c⟩
theorem fI.setRow (h:fI t w b cap)(g:Nat)(cs:Array Value)(c:g=b→cs.size=cap):fI t (w.setRow g cs) b cap:=by
 obtain⟨a,h,d⟩:=h
 by_cases e:b=g
 ·subst e
  exact⟨cs,setRow_heap w b a cs t _ h,c rfl⟩
 exact⟨a,(setRow_other w g b cs e).trans h,d⟩
theorem Own.owns (h:Own k t w b xs)(d:fI t w b cap){base n:Nat}(e:base≤b)(f:xs.length=n)(g:cap≤maxLen) :
 w.ownsRow base t 1 (.slice (some ⟨b,0,none⟩) n cap) n (xs.map fun x:Nat=>Value.int k (x:Int)):=by
 obtain⟨tail,_,h⟩:=h
 obtain⟨i,a,c⟩:=d
 rw[h] at a
 injection a with a
 injection a with a
 subst a
 subst f
 rw[aT] at c
 refine⟨by simp,Or.inr ⟨b,cap,_,rfl,e,h,by omega,g,by rw[aT];omega,?_⟩⟩
 simp[lN]
def lT (t:TypeId) (b:Nat) (w w':World):Prop:=∀ cap,fI t w b cap→fI t w' b cap
theorem lT.refl (t:TypeId)(b:Nat)(w:World):lT t b w w:=fun _ h=>h
theorem lT.setCell (h:lT t b w w')(g i:Nat)(u:Value):lT t b w (w'.setCell ⟨g,i,none⟩ u):=fun cap a=>(h cap a).setCell g i u
theorem lT.fr (h:lT t b w w'){w'':World}(a:Fr S w' w'')(c:¬ S b):lT t b w w'':=fun cap d=>(h cap d).fr a c
end
theorem Zai (k:IntKind)(n:Nat):madeCells #[.int k 0] n=lN k (List.replicate n 0) []:=by
 apply Array.ext
 ·simp[madeCells,lN]
 intro i a c
 simp[madeCells,lN,Nat.mod_one]
theorem lA {P:Program}{w:World}{h:Array Oper}{rest:List Oper}{o:Oper}{a:Act}{Q:Exit→Act→World→Prop}(u:o.guard=none)(l c:Operand)(t:TypeId)(j:o.op=Op.makeSlice t l c)(e:TypeId)(k:IntKind)(bytes:Nat)(v:P.underlying t=some (.slice e))(g:(P.info? e).map (fun i=>(i.zero,i.size,i.bytes))=some (some (.int k 0),1,bytes))(kl kc:IntKind)(r s:Int)(n:Nat)(x:a.eval l=.int kl r)(y:a.eval c=.int kc s)(z:r=(n:Nat))(m:s=(n:Nat))(d:bytes*n≤281474976710656)(p:n≤9223372036854775807)(B:∀ (b:Nat) (w':World),w.heap.size=b→Own k e w' b (List.replicate n 0)→fI e w' b n→Ext w w'→w'.heap.size=b+1→wpList P h Q rest (a.put o.dst (.slice (some ⟨b,0,none⟩) n n)) w') :
 wpList P h Q (o :: rest) a w:=by
 subst z m
 refine wpList_plain u fun K q=>?_
 have f:=run_make_row' (P:=P) t e (.int k 0) bytes v g rfl kl kc n d p w
 rw[Zai] at f
 unfold Oper.wp
 simp[execOp,j,x,y,f,Result.andThen]
 exact q _ _ (B _ _ rfl (Own.new w e k _ _) ⟨_,heap_alloc_new w _,by simp[aT]⟩ ((Fr.refl _ w).alloc _) (by simp))
theorem Fr.setRow {S:Nat→Prop}{w w':World}(h:Fr S w w'){g:Nat}(a:S g∨w.heap.size≤g)(cs:Array Value):Fr S w (w'.setRow g cs) :=
 h.next (T:=fun i=>i=g) ⟨rfl,rfl,rfl,by simp[World.setRow],fun i _ c=>setRow_other w' g i cs c⟩
  (fun i hi d=>by
   rcases a with a|a;· exact d ▸ a
   ·omega)
theorem ZiO {P:Program}{w:World}{o:Oper}{a:Act}{K:Act→World→Prop}{Q:Exit→Act→World→Prop}(d s:Operand)(dT sT:TypeId)(U:o.op=.call { callee:=.builtin .copy,args:=#[d,s],argTypes:=#[dT,sT] })(e:TypeId)(k:IntKind)(V:P.underlying dT=some (.slice e))(D:(P.info? e).map (·.size)=some 1)(J sp:Option Addr)(n m i p:Nat)(W:a.eval d=.slice J n i)(X:a.eval s=.slice sp m p)(b z:Nat)(c mid f ys:List Nat)(Y:Nat.min ys.length mid.length=z)(hn:mid.length=n)(hm:ys.length=m)(B:Own k e w b (c ++ mid ++ f))(hY:zI k w sp ys)(L:0<mid.length→J=some ⟨b,c.length,none⟩)(h:∀ w',Own k e w' b (c ++ (ys.take mid.length ++ mid.drop ys.length) ++ f)→lT e b w w'→Fr (· = b) w w'→w'.heap.size=w.heap.size→K (a.put o.dst (goInt z)) w') :
 o.wp P a w K Q:=by
 subst hn hm
 by_cases C:Nat.min ys.length mid.length=0
 ·have:ys.take mid.length ++ mid.drop ys.length=mid:=by
   rcases (by simp only[Nat.min_def] at C;split at C<;>omega:ys.length=0∨mid.length=0) with u|u
   ·rw[List.length_eq_zero_iff.1 u];simp
   rw[List.length_eq_zero_iff.1 u];simp
  have Z:=h w (by rw[this];exact B) (fun _ H=>H) (Fr.refl _ _) rfl
  rw[←Y,C] at Z
  have g:=run_copy_none (P:=P) w dT sT o.type e J sp mid.length i ys.length p V D C
  unfold Oper.wp
  simp[execOp,U,resolve,invoke,builtin,W,X,g,Result.andThen]
  exact Z
 have q:0<ys.length∧0<mid.length:=by
  simp only[Nat.min_def] at C;split at C<;>omega
 obtain⟨b2,y,rfl,a0,M⟩:=hY (by intro e;rw[e] at q;simp at q)
 have E:=L q.2
 subst E
 obtain⟨tail,hT,B⟩:=B
 have R:(lN k (c ++ mid ++ f) tail).toList.take c.length ++ (((ys.take mid.length).map fun x:Nat=>Value.int k (x:Int)) ++ (lN k (c ++ mid ++ f) tail).toList.drop (c.length+((ys.take mid.length).map fun x:Nat=>Value.int k (x:Int)).length)) =
  ((c ++ (ys.take mid.length ++ mid.drop ys.length) ++ f).map fun x:Nat=>Value.int k (x:Int)) ++ tail:=by
  simp only[lN,List.map_append,List.toList_toArray,List.length_map,List.length_take,List.map_take,List.map_drop,List.append_assoc]
  rw[List.take_append_of_le_length (by simp)]
  rw[show c.length=(c.map fun x:Nat=>Value.int k (x:Int)).length by simp,List.take_length]
  congr 2
  rw[List.drop_append,List.drop_of_length_le (by simp)]
  simp only[List.length_map,List.nil_append,Nat.add_sub_cancel_left]
  rcases Nat.le_total ys.length mid.length with r|r
  ·rw[Nat.min_eq_right r,List.drop_append_of_le_length (by simpa using r)]
  rw[Nat.min_eq_left r,List.drop_append,List.drop_of_length_le (l:=List.map _ mid) (by simp),List.drop_of_length_le (l:=List.map _ mid) (by simpa using r)]
  simp
 have F:∀ (j:Nat) (v:Value),((ys.take mid.length).map fun x:Nat=>Value.int k (x:Int))[j]? = some v→w.cell? ((⟨b2,y,none⟩:Addr).add j)=some v:=by
  intro j v I
  rw[List.getElem?_map] at I
  obtain⟨x,hx,rfl⟩:=Option.map_eq_some_iff.1 I
  have G:j<(ys.take mid.length).length:=by
   rcases Nat.lt_or_ge j (ys.take mid.length).length with G|G
   ·exact G
   rw[List.getElem?_eq_none G] at hx;cases hx
  rw[List.length_take] at G
  have N:ys[j]? = some x:=by rw[←hx,List.getElem?_take_of_lt (by omega)]
  have:=M j (by omega)
  rw[N] at this
  by_cases e0:j=0
  ·subst e0;simpa [Addr.add] using this
  simpa [Addr.add,e0] using this
 have g:=run_copy_row (P:=P) w dT sT o.type e b c.length mid.length i ⟨b2,y,none⟩ ys.length p _ e ((ys.take mid.length).map fun x:Nat=>Value.int k (x:Int)) V D B (by simp[Nat.min_comm]) F (by simp[lN];omega) (fun v I=>by obtain⟨x,_,rfl⟩:=List.mem_map.1 I;rfl)
 rw[show goInt ((ys.take mid.length).map fun x:Nat=>Value.int k (x:Int)).length=goInt z by rw[←Y];simp[Nat.min_comm]] at g
 generalize O:w.setRow _ _=w1 at g
 unfold Oper.wp
 simp[execOp,U,resolve,invoke,builtin,W,X,g,Result.andThen]
 subst O
 refine h _ ?_ ?_ ((Fr.refl (· = b) w).setRow (Or.inl rfl) _) (by simp[World.setRow])
 ·refine⟨tail,hT,?_⟩
  rw[setRow_heap w b _ _ e _ B,List.append_assoc,R]
  rfl
 intro cap H
 refine H.setRow b _ (fun _=>?_)
 obtain⟨b0,u,h2⟩:=H
 rw[B] at u
 injection u with u
 injection u with u
 rw[←h2,← u,List.append_assoc,R,aT]
 simp
 omega
theorem Zd1 {P:Program}{w:World}{j:Array Oper}{rest:List Oper}{o:Oper}{a:Act}{Q:Exit→Act→World→Prop}(l:o.guard=none)(d s:Operand)(dT sT:TypeId)(u:o.op=.call { callee:=.builtin .copy,args:=#[d,s],argTypes:=#[dT,sT] })(e:TypeId)(k:IntKind)(v:P.underlying dT=some (.slice e))(p:(P.info? e).map (·.size)=some 1)(q sp:Option Addr)(n m g i:Nat)(x:a.eval d=.slice q n g)(y:a.eval s=.slice sp m i)(b z:Nat)(f mid c ys:List Nat)(B:Nat.min ys.length mid.length=z)(C:mid.length=n)(D:ys.length=m)(E:Own k e w b (f ++ mid ++ c))(F:zI k w sp ys)(r:0<mid.length→q=some ⟨b,f.length,none⟩)(h:∀ w',Own k e w' b (f ++ (ys.take mid.length ++ mid.drop ys.length) ++ c)→lT e b w w'→Fr (· = b) w w'→w'.heap.size=w.heap.size→wpList P j Q rest (a.put o.dst (goInt z)) w') :
 wpList P j Q (o :: rest) a w:=by
 exact wpList_plain l fun K G=>ZiO d s dT sT u e k v p q sp n m g i x y b z f mid c ys B C D E F r fun w' H I J L=>G _ _ (h w' H I J L)
theorem Zba {P:Program}{w:World}{j:Array Oper}{rest:List Oper}{o:Oper}{a:Act}{Q:Exit→Act→World→Prop}(l:o.guard=none)(d s:Operand)(dT sT:TypeId)(u:o.op=.call { callee:=.builtin .copy,args:=#[d,s],argTypes:=#[dT,sT] })(e:TypeId)(k:IntKind)(v:P.underlying dT=some (.slice e))(p:(P.info? e).map (·.size)=some 1)(q sp:Option Addr)(n m g i:Nat)(x:a.eval d=.slice q n g)(y:a.eval s=.slice sp m i)(b:Nat)(f mid c ys:List Nat)(B:mid.length=n)(C:ys.length=m)(D:Own k e w b (f ++ mid ++ c))(E:zI k w sp ys)(r:0<mid.length→q=some ⟨b,f.length,none⟩)(h:∀ w' z,Own k e w' b (f ++ (ys.take mid.length ++ mid.drop ys.length) ++ c)→lT e b w w'→Fr (· = b) w w'→w'.heap.size=w.heap.size→wpList P j Q rest (a.put o.dst z) w') :
 wpList P j Q (o :: rest) a w:=by
 exact Zd1 l d s dT sT u e k v p q sp n m g i x y b _ f mid c ys rfl B C D E r fun w'=>h w' _
def Buf (k:IntKind) (e:TypeId) (w:World) (A:Option Addr) (cap:Nat) (xs:List Nat):Prop :=
 (A=none∧xs=[]∧cap=0)∨∃ b,A=some ⟨b,0,none⟩∧Own k e w b xs∧fI e w b cap∧xs.length≤cap∧cap≤maxLen
def xQ (A:Option Addr) (i:Nat):Prop:=∃ a,A=some a∧a.block=i
section
variable {S:Nat→Prop} {k:IntKind} {e:TypeId} {w w':World} {A:Option Addr} {cap:Nat} {xs:List Nat}
theorem Buf.nil:Buf k e w none 0 []:=Or.inl ⟨rfl,rfl,rfl⟩
theorem Buf.fr (h:Buf k e w A cap xs)(a:Fr S w w')(c:∀ b,xQ A b→¬ S b):Buf k e w' A cap xs:=by
 rcases h with h|⟨b,rfl,d,f,g⟩
 ·exact Or.inl h
 have:=c b ⟨_,rfl,rfl⟩
 exact Or.inr ⟨b,rfl,d.fr a this,f.fr a this,g⟩
theorem Buf.ext (h:Buf k e w A cap xs)(a:Ext w w'):Buf k e w' A cap xs:=h.fr a (fun _ _ f=>f)
theorem Buf.shows (h:Buf k e w A cap xs):zI k w A xs:=by
 rcases h with ⟨_,rfl,_⟩|⟨b,rfl,a,_⟩
 ·exact zI.nil
 exact a.shows0
theorem Buf.len (h:Buf k e w A cap xs):xs.length≤cap:=by
 rcases h with ⟨_,rfl,rfl⟩|⟨b,rfl,_,_,h,_⟩
 ·exact Nat.le_refl _
 exact h
theorem Buf.lt (h:Buf k e w A cap xs){b:Nat}(c:xQ A b):b<w.heap.size:=by
 rcases h with ⟨rfl,_,_⟩|⟨f,rfl,d,_⟩
 ·obtain⟨a,ha,_⟩:=c;cases ha
 obtain⟨a,ha,rfl⟩:=c;injection ha with ha;subst ha;exact d.lt
theorem Buf.owns (h:Buf k e w A cap xs){base n:Nat}(c:∀ b,xQ A b→base≤b)(a:xs.length=n) :
 w.ownsRow base e 1 (.slice A n cap) n (xs.map fun x:Nat=>Value.int k (x:Int)):=by
 rcases h with ⟨rfl,rfl,rfl⟩|⟨b,rfl,d,f,i,g⟩
 ·subst a;exact⟨rfl,Or.inl ⟨rfl,rfl⟩⟩
 exact d.owns f (c b ⟨_,rfl,rfl⟩) a g
theorem Buf.of_owns {base n:Nat}(h:w.ownsRow base e 1 (.slice A n cap) n (xs.map fun x:Nat=>Value.int k (x:Int)))(q:∀ b,xQ A b→Zf8 (IsK k) w b):Buf k e w A cap xs:=by
 obtain⟨m,r⟩:=h
 rcases r with ⟨d,rfl⟩|⟨g,o,f,d,u,i,s,j,l,a⟩
 ·injection d with hA _ hc
  exact Or.inl ⟨hA,by simpa using m,hc⟩
 injection d with hA hn' hcap
 subst hA hcap
 simp only[List.length_map,Nat.mul_one] at m
 refine Or.inr ⟨g,rfl,⟨f.toList.drop n,fun v d=>?_,?_⟩,⟨f,i,by simpa using l⟩,by omega,j⟩
 ·obtain⟨p,y,c,t⟩:=q g ⟨_,rfl,rfl⟩
  rw[i] at c
  injection c with c;injection c with c
  subst c
  exact t v (List.mem_of_mem_drop d)
 rw[i]
 congr 2
 rw[Nat.mul_one] at a
 simp only[lN]
 rw[←a,List.take_append_drop]
theorem Buf.all (h:Buf k e w A cap xs){b:Nat}(c:xQ A b):Zf8 (IsK k) w b:=by
 rcases h with ⟨rfl,_,_⟩|⟨f,rfl,d,_⟩
 ·obtain⟨a,ha,_⟩:=c;cases ha
 obtain⟨a,ha,rfl⟩:=c;injection ha with ha;subst ha;exact d.all
end
theorem Zd5 {P:Program}(w:World)(base:Nat)(t f e:TypeId)(i:TypeInfo)(d:P.underlying t=some (.slice e))(hi:P.info? e=some i)(v:Value)(n:Nat)(xs:List Value)(a:w.ownsRow base e 1 v n xs)(c:Nat):(Builtin.append_ #[t,t] f #[v,.slice none 0 c]).run P w=.ok v w:=by
 rcases a.2 with ⟨rfl,rfl⟩|⟨g,cap,h,rfl,_,_,b,_⟩
 ·simp[Builtin.append_,run_underlying d,sizeOf,typeInfo,hi,Builtin.lenOf,Builtin.firstCells]
 simp[Builtin.append_,run_underlying d,sizeOf,typeInfo,hi,Builtin.lenOf,Builtin.firstCells,b,storeCells]
theorem Zfn (Z:Option Addr)(c d b:Nat):(Value.slice Z c d).ownBlock=some b↔xQ Z b:=by
 cases Z with
 | none=>simp[Value.ownBlock,xQ]
 | some a=>simp[Value.ownBlock,xQ]
theorem ZfF {P:Program}(p:Value→Prop)(w:World)(t H e:TypeId)(i:TypeInfo)(z:Value)(bytes:Nat)(L:P.underlying t=some (.slice e))(hi:P.info? e=some i)(O:i.zero=some z)(d:i.size=1)(x:i.bytes=bytes)(Q:z.cells.size=1)(v:Value)(n:Nat)(xs:List Value)(r:w.ownsRow 0 e 1 v n xs)(a:Addr)(m c:Nat)(news:List Value)(M:news.length=m*1)(h:∀ j u,news[j]? = some u→w.cell? (a.add j)=some u)(V:∀ u∈news,u.oneCell'=true)(I:n+m≤maxLen)(l:(n+m)*bytes≤140737488355328)(X:∀ g,v.ownBlock=some g→Zf8 p w g)(y:∀ u∈news,p u)(R:∀ u∈z.cells.toList,p u) :
 ∃ B w',(Builtin.append_ #[t,t] H #[v,.slice (some a) m c]).run P w=.ok B w'∧w'.ownsRow 0 e 1 B (n+m) (xs ++ news)∧w.grownBy w' v.ownBlock ∧
 (B.ownBlock=v.ownBlock∨B.ownBlock=some w.heap.size)∧∀ g,B.ownBlock=some g→Zf8 p w' g:=by
 obtain⟨B,w',f,Y,Z,h4,h5⟩:=run_append_own_at (P:=P) w 0 t H e i z 1 bytes L hi O d x Q (by omega) v n xs r a m c news M h V I l (Nat.zero_le _)
 refine⟨B,w',f,Y,Z,h5,fun g' o=>?_⟩
 have N:n+m≤9223372036854775807:=by simp only[maxLen] at I;omega
 have J:∀ q,∀ u∈(Builtin.zeroCells z.cells q).toList,p u:=by
  intro q u b
  rw[Array.mem_toList_iff] at b
  simp only[Builtin.zeroCells] at b
  obtain⟨j,_,rfl⟩:=Array.mem_map.1 b
  apply R
  have T:j%z.cells.size<z.cells.size:=Nat.mod_lt _ (by omega)
  rw[Array.mem_toList_iff,getElem!_pos z.cells _ T]
  exact Array.getElem_mem _
 rcases r.2 with ⟨rfl,rfl⟩|⟨g,cap,C,rfl,a0,U,b0,c0,d0,D⟩
 ·by_cases hm:m=0
  ·have:=h4.2 ⟨rfl,hm⟩
   subst this
   simp[Value.ownBlock] at o
  have K:=run_append_nil (P:=P) w t H e i z L hi O a m c news (by rw[d];exact M) h (by omega) (by omega) (by rw[x];simp only[Nat.zero_add] at l;omega)
  rw[K] at f
  injection f with hv hw
  subst hv hw
  simp only[Value.ownBlock,Option.some.injEq] at o
  subst o
  refine⟨_,e,heap_alloc_new w.drew _,fun u b=>?_⟩
  simp only[Array.toList_append,List.mem_append] at b
  rcases b with b|b
  ·exact y u b
  exact J _ u b
 have s:∀ u∈C.toList,p u:=by
  obtain⟨W,t2,G,k2⟩:=X g rfl
  rw[U] at G
  injection G with G;injection G with G
  subst G
  exact k2
 by_cases E:n+m≤cap
 ·have K:=run_append_room (P:=P) w t H e i L hi g n cap C U a m c news (by rw[d];exact M) h V E (by rw[d];omega)
  rw[K] at f
  injection f with hv hw
  subst hv hw
  simp only[Value.ownBlock,Option.some.injEq] at o
  subst o
  refine⟨_,e,setRow_heap w g C _ e _ U,fun u b=>?_⟩
  simp only[List.mem_append] at b
  rcases b with (b|b)|b
  ·exact s u (List.mem_of_mem_take b)
  ·exact y u b
  exact s u (List.mem_of_mem_drop b)
 have F:∀ j u,xs[j]? = some u→w.cell? ((⟨g,0,none⟩:Addr).add j)=some u:=r.cells (g:=g) rfl
 have K:=run_append_grow (P:=P) w t H e i z L hi O ⟨g,0,none⟩ n cap xs (by rw[d];exact r.1) F a m c news (by rw[d];exact M) h (by omega) (by omega) (growslice_fits (by omega) (by rw[x];exact l))
 rw[K] at f
 injection f with hv hw
 subst hv hw
 simp only[Value.ownBlock,Option.some.injEq] at o
 subst o
 refine⟨_,e,heap_alloc_new w.drew _,fun u b=>?_⟩
 simp only[Array.toList_append,List.mem_append] at b
 rcases b with (b|b)|b
 ·rw[←D] at b;exact s u (List.mem_of_mem_take b)
 ·exact y u b
 exact J _ u b
theorem ZbD {P:Program}(w:World)(t z e:TypeId)(k:IntKind)(bytes:Nat)(J:P.underlying t=some (.slice e))(q:(P.info? e).map (fun i=>(i.zero,i.size,i.bytes))=some (some (.int k 0),1,bytes))(A X:Option Addr)(n m cap c:Nat)(xs news:List Nat)(O:xs.length=n)(B:news.length=m)(C:Buf k e w A cap xs)(K:zI k w X news)(D:n+m≤maxLen)(d:(n+m)*bytes≤140737488355328) :
 ∃ f cap' w',(Builtin.append_ #[t,t] z #[.slice A n cap,.slice X m c]).run P w=.ok (.slice f (n+m) cap') w'∧Buf k e w' f cap' (xs ++ news)∧Fr (xQ A) w w' ∧
 (∀ b,xQ f b→xQ A b∨b=w.heap.size):=by
 obtain⟨i,hi,Q,R,E⟩:=info_parts q
 have p:=C.owns (base:=0) (fun _ _=>Nat.zero_le _) O
 rcases X with _|L
 ·have F:news=[]:=by
   rcases news with _|⟨y,ys⟩
   ·rfl
   obtain⟨b,G,h,_⟩:=K (by simp);cases h
  subst F
  simp only[List.length_nil] at B
  subst B
  exact⟨A,cap,w,Zd5 w 0 t z e i J hi _ n _ p c,by simpa using C,Fr.refl _ _,fun b r=>Or.inl r⟩
 have l:∀ j u,(news.map fun x:Nat=>Value.int k (x:Int))[j]? = some u→w.cell? (L.add j)=some u:=by
  intro j u o
  rw[List.getElem?_map] at o
  obtain⟨x,M,rfl⟩:=Option.map_eq_some_iff.1 o
  have T:j<news.length:=(List.getElem?_eq_some_iff.1 M).1
  obtain⟨b,G,h,_,H⟩:=K.at T
  injection h with h
  subst h
  rw[M] at H
  by_cases N:j=0
  ·subst N;simpa [Addr.add] using H
  simpa [Addr.add,N] using H
 obtain⟨U,w',s,I,V,v,W⟩:=ZfF (P:=P) (IsK k) w t z e i (.int k 0) bytes J hi Q R E rfl _ n _ p L m c (news.map fun x:Nat=>Value.int k (x:Int)) (by simp[B]) l
  (fun u o=>by obtain⟨x,_,rfl⟩:=List.mem_map.1 o;rfl) D d (fun g Y=>C.all ((Zfn _ _ _ _).1 Y)) (fun u o=>by obtain⟨x,_,rfl⟩:=List.mem_map.1 o;exact⟨_,rfl⟩) (fun u o=>by simp[Value.cells] at o;exact⟨_,o⟩)
 rw[←List.map_append] at I
 obtain⟨f,cap',rfl⟩:∃ f cap',U=.slice f (n+m) cap':=by
  rcases I.2 with ⟨rfl,F⟩|⟨g,cap',Z,rfl,_⟩
  ·rw[F];exact⟨none,0,rfl⟩
  exact⟨_,cap',rfl⟩
 have a:=Zfn
 refine⟨f,cap',w',s,Buf.of_owns I (fun b r=>W b ((a _ _ _ _).2 r)),(Fr.ofGrown V).mono (fun i _ hh=>(a _ _ _ _).1 hh),fun b r=>?_⟩
 rcases v with v|v
 ·exact Or.inl ((a _ _ _ _).1 (v ▸ (a f (n+m) cap' b).2 r))
 have:=(a f (n+m) cap' b).2 r
 rw[v] at this
 injection this with this
 exact Or.inr this.symm
theorem lF {P:Program}{w:World}{g:Array Oper}{rest:List Oper}{o:Oper}{a:Act}{Q:Exit→Act→World→Prop}(l:o.guard=none)(s x:Operand)(t:TypeId)(q:o.op=.call { callee:=.builtin .append,args:=#[s,x],argTypes:=#[t,t] })(e:TypeId)(k:IntKind)(bytes:Nat)(r:P.underlying t=some (.slice e))(f:(P.info? e).map (fun i=>(i.zero,i.size,i.bytes))=some (some (.int k 0),1,bytes))(A X:Option Addr)(n m cap c:Nat)(u:a.eval s=.slice A n cap)(v:a.eval x=.slice X m c)(xs news:List Nat)(y:xs.length=n)(z:news.length=m)(B:Buf k e w A cap xs)(C:zI k w X news)(p:n+m≤maxLen)(d:(n+m)*bytes≤140737488355328)(h:∀ A' cap' w',Buf k e w' A' cap' (xs ++ news)→Fr (xQ A) w w'→(∀ b,xQ A' b→xQ A b∨b=w.heap.size)→wpList P g Q rest (a.put o.dst (.slice A' (n+m) cap')) w'):wpList P g Q (o :: rest) a w:=by
 refine wpList_plain l fun _ D=>?_
 obtain⟨A',cap',w',j,E,F,G⟩:=ZbD (P:=P) w t o.type e k bytes r f A X n m cap c xs news y z B C p d
 unfold Oper.wp execOp
 simp only[q,resolve,invoke,builtin,Sem.run_bind,Sem.run_pure,Result.andThen_ok,List.map_toArray,List.map_cons,List.map_nil,u,v,j]
 exact D _ _ (h A' cap' w' E F G)
def Blk (t:TypeId) (w:World) (g:Nat) (cs:Array Value):Prop:=w.heap[g]? = some (.cells cs t (0,0))
section
variable {S:Nat→Prop} {w w':World} {g:Nat} {t:TypeId} {cs:Array Value}
theorem Blk.lt (h:Blk t w g cs):g<w.heap.size:=by
 rcases Nat.lt_or_ge g w.heap.size with a|b
 ·exact a
 unfold Blk at h;rw[Array.getElem?_eq_none b] at h;cases h
theorem Blk.cell (h:Blk t w g cs)(i:Nat):w.cell? ⟨g,i,none⟩=cs[i]? := cell_of_row w g i cs t (0,0) h
theorem Blk.frozen (h:Blk t w g cs)(i:Nat):w.frozen? ⟨g,i,none⟩=false:=by
 unfold Blk at h
 simp[World.frozen?,h]
theorem Blk.new (w:World)(t:TypeId)(cs:Array Value):Blk t (w.alloc (.cells cs t)) w.heap.size cs:=heap_alloc_new w _
theorem Blk.set_ (h:Blk t w g cs)(i:Nat)(u:Value):Blk t (w.setCell ⟨g,i,none⟩ u) g (cs.setIfInBounds i u):=by
 unfold Blk at h ⊢
 simp[World.setCell,Array.getElem?_modify,h]
theorem Blk.far (h:Blk t w g cs){p:Addr}(a:g≠p.block)(u:Value):Blk t (w.setCell p u) g cs:=(Below.heap_setCell w p u g a).trans h
theorem Blk.fr (h:Blk t w g cs)(a:Fr S w w')(b:¬ S g):Blk t w' g cs:=(a.block g h.lt b).trans h
theorem Blk.ext (h:Blk t w g cs)(a:Ext w w'):Blk t w' g cs:=h.fr a (fun f=>f)
theorem Blk.alloc (h:Blk t w g cs)(o:Obj):Blk t (w.alloc o) g cs:=h.ext ((Fr.refl _ w).alloc o)
theorem Blk.drewN (h:Blk t w g cs)(n:Nat):Blk t (w.drewN n) g cs:=h
end
end Go.Proofs.YtmpffakfhcpjoaaGreatDoor
