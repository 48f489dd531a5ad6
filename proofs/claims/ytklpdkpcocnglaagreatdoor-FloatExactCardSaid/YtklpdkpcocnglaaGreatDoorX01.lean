/-
 My texts Mem, Append, Blk, Vals put together.
-/
import Derived.WalkKit
import Derived.WalkSpells
import Derived.WalkLawsBesides
import Derived.Lib.Hide
import Derived.Deep.Draws
import Derived.Laws.Rows
import Derived.Laws.MakeOwn
import Derived.Laws.CopyOwn
import Derived.Deep.OwnRows
import Derived.OwnWalk
import Derived.Maps.AppendAt
set_option maxRecDepth 100000
set_option maxHeartbeats 8000000
namespace Go.Proofs.YtklpdkpcocnglaaGreatDoor
open Go.RowKit
theorem yE {α:Sort _}(a:α):∃ x,a=x:=⟨_,rfl⟩
theorem zh {p : Prop}(h : p) : Hid p := Lib.hid h
structure Fr (S:Nat→Prop) (w w':World):Prop where
 os:w'.os=w.os
 tape:w'.tape=w.tape
 output:w'.output=w.output
 size:w.heap.size≤w'.heap.size
 block:∀ i,i<w.heap.size→¬ S i→w'.heap[i]? = w.heap[i]?
abbrev Ext (w w':World):Prop:=Fr (fun _=>False) w w'
section
variable {S T:Nat→Prop} {w w' w'':World}
theorem Fr.refl (S:Nat→Prop)(w:World):Fr S w w:=⟨rfl,rfl,rfl,Nat.le_refl _,fun _ _ _=>rfl⟩
theorem Fr.trans (h:Fr S w w')(k:Fr S w' w''):Fr S w w'' :=
 ⟨k.os.trans h.os,k.tape.trans h.tape,k.output.trans h.output,Nat.le_trans h.size k.size,fun i a c=>(k.block i (Nat.lt_of_lt_of_le a h.size) c).trans (h.block i a c)⟩
theorem Fr.mono (h:Fr S w w')(c:∀ i,i<w.heap.size→S i→T i):Fr T w w' :=
 ⟨h.os,h.tape,h.output,h.size,fun i a d=>h.block i a (fun e=>d (c i a e))⟩
theorem Fr.next (h:Fr S w w')(k:Fr T w' w'')(d:∀ i,i<w.heap.size→T i→S i):Fr S w w'' :=
 ⟨k.os.trans h.os,k.tape.trans h.tape,k.output.trans h.output,Nat.le_trans h.size k.size,fun i a c=>(k.block i (Nat.lt_of_lt_of_le a h.size) (fun e=>c (d i a e))).trans (h.block i a c)⟩
theorem Fr.ext (h:Fr S w w')(k:Ext w' w''):Fr S w w'':=h.next k (fun _ _ a=>a.elim)
theorem Fr.alloc (h:Fr S w w')(o:Obj):Fr S w (w'.alloc o) :=
 h.next (T:=fun _=>False) ⟨rfl,rfl,rfl,by simp,fun i a _=>Below.heap_alloc _ _ _ a⟩ (fun _ _ c=>c.elim)
theorem Fr.drew (h:Fr S w w'):Fr S w w'.drew:=⟨h.os,h.tape,h.output,h.size,h.block⟩
theorem Fr.drewN (h:Fr S w w')(n:Nat):Fr S w (w'.drewN n):=⟨h.os,h.tape,h.output,h.size,h.block⟩
theorem Fr.setCell (h:Fr S w w'){p:Addr}(a:S p.block∨w.heap.size≤p.block)(u:Value):Fr S w (w'.setCell p u) :=
 h.next (T:=fun i=>i=p.block) ⟨rfl,rfl,rfl,by simp[World.setCell],fun i _ c=>Below.heap_setCell _ _ _ _ c⟩
  (fun i e d=>by
   rcases a with a|a;· exact d ▸ a
   ·omega)
theorem Fr.ofGrown {row:Option Nat}(h:w.grownBy w' row):Fr (fun i=>row=some i) w w' :=
 ⟨h.os,h.tape,h.output,h.size,fun i a c=>h.block i a (fun e=>c e.symm)⟩
theorem Fr.toBelow (h:Ext w w'):Below w.heap.size w w':=⟨h.os,h.tape,h.output,h.size,fun i a=>h.block i a (fun f=>f)⟩
theorem Fr.ofBelow (h:Below w.heap.size w w'):Ext w w':=⟨h.os,h.tape,h.output,h.size,fun i a _=>h.block i a⟩
theorem Fr.cell (h:Fr S w w'){p:Addr}(a:p.block<w.heap.size)(c:¬ S p.block):w'.cell? p=w.cell? p :=
 World.cell?_of_block (w:=w) (h.block p.block a c)
end
def zF (k:IntKind) (w:World) (A:Option Addr) (xs:List Nat):Prop :=
 xs≠[]→∃ b off,A=some ⟨b,off,none⟩∧b<w.heap.size∧∀ i,i<xs.length→w.cell? ⟨b,off+i,none⟩=some (.int k ((xs[i]?.getD 0:Nat):Int))
section
variable {S:Nat→Prop} {k:IntKind} {w w':World} {A:Option Addr} {xs:List Nat}
theorem zF.nil:zF k w A []:=fun h=>absurd rfl h
theorem zF.fr (h:zF k w A xs)(f:Fr S w w')(g:∀ a,A=some a→a.block<w.heap.size→¬ S a.block):zF k w' A xs:=fun d=>by
 obtain⟨b,c,rfl,e,j⟩:=h d
 exact⟨b,c,rfl,Nat.lt_of_lt_of_le e f.size,fun i l=>(f.cell (p:=⟨b,c+i,none⟩) e (g ⟨b,c,none⟩ rfl e)).trans (j i l)⟩
theorem zF.ext (h:zF k w A xs)(a:Ext w w'):zF k w' A xs:=h.fr a (fun _ _ _ f=>f)
theorem zF.alloc (h:zF k w A xs)(o:Obj):zF k (w.alloc o) A xs:=h.ext ((Fr.refl _ w).alloc o)
theorem zF.drew (h:zF k w A xs):zF k w.drew A xs:=h
theorem zF.drewN (h:zF k w A xs)(n:Nat):zF k (w.drewN n) A xs:=h
theorem zF.take (h:zF k w A xs)(n:Nat):zF k w A (xs.take n):=fun a=>by
 obtain⟨b,c,rfl,d,f⟩:=h (fun e=>a (by simp[e]))
 refine⟨b,c,rfl,d,fun i g=>?_⟩
 rw[List.length_take] at g
 rw[f i (by omega),List.getElem?_take_of_lt (by omega)]
theorem zF.at (h:zF k w A xs){i:Nat}(hi:i<xs.length):∃ b a,A=some ⟨b,a,none⟩∧b<w.heap.size∧w.cell? ⟨b,a+i,none⟩=some (.int k ((xs[i]?.getD 0:Nat):Int)):=by
 obtain⟨b,a,c,d,f⟩:=h (by intro e;simp[e] at hi)
 exact⟨b,a,c,d,f i hi⟩
end
def lG (k:IntKind) (xs:List Nat) (tail:List Value):Array Value:=((xs.map fun x:Nat=>Value.int k (x:Int)) ++ tail).toArray
theorem Zl8 {k:IntKind}{xs:List Nat}{tail:List Value}{i:Nat}(h:i<xs.length):(lG k xs tail)[i]? = some (.int k ((xs[i]?.getD 0:Nat):Int)):=by
 simp[lG,List.getElem?_append_left,h]
theorem Zkv (k:IntKind)(xs:List Nat)(tail:List Value)(i v:Nat)(h:i<xs.length):(lG k xs tail).setIfInBounds i (.int k (v:Int))=lG k (xs.set i v) tail:=by
 simp[lG,List.map_set,List.set_append_left,h]
theorem aU (k:IntKind)(xs:List Nat)(tail:List Value):(lG k xs tail).size=xs.length+tail.length:=by simp[lG]
def IsK (k:IntKind) (v:Value):Prop:=∃ z,v=.int k z
def ZfZ (p:Value→Prop) (w:World) (b:Nat):Prop:=∃ cur t,w.heap[b]? = some (.cells cur t (0,0))∧∀ v∈cur.toList,p v
def Own (k:IntKind) (t:TypeId) (w:World) (b:Nat) (xs:List Nat):Prop:=∃ tail,(∀ v∈tail,IsK k v)∧w.heap[b]? = some (.cells (lG k xs tail) t (0,0))
theorem Zkw {k:IntKind}{xs:List Nat}{tail:List Value}(h:∀ v∈tail,IsK k v):∀ v∈(lG k xs tail).toList,IsK k v:=fun v a=>by
 simp only[lG,List.toList_toArray,List.mem_append,List.mem_map] at a
 rcases a with ⟨x,_,rfl⟩|a
 ·exact⟨_,rfl⟩
 exact h v a
theorem Own.all {k:IntKind}{t:TypeId}{w:World}{b:Nat}{xs:List Nat}(h:Own k t w b xs):ZfZ (IsK k) w b:=by
 obtain⟨tail,a,c⟩:=h
 exact⟨_,_,c,Zkw a⟩
def gX (t:TypeId) (w:World) (b cap:Nat):Prop:=∃ cur,w.heap[b]? = some (.cells cur t (0,0))∧cur.size=cap
section
variable {S:Nat→Prop} {k:IntKind} {t:TypeId} {w w':World} {b cap:Nat} {xs:List Nat}
theorem Own.lt (h:Own k t w b xs):b<w.heap.size:=by
 rcases Nat.lt_or_ge b w.heap.size with a|c
 ·exact a
 obtain⟨tail,_,h⟩:=h;rw[Array.getElem?_eq_none c] at h;cases h
theorem Own.cell (h:Own k t w b xs){i:Nat}(hi:i<xs.length):w.cell? ⟨b,i,none⟩=some (.int k ((xs[i]?.getD 0:Nat):Int)):=by
 obtain⟨tail,_,h⟩:=h
 exact (cell_of_row w b i _ t (0,0) h).trans (Zl8 hi)
theorem Own.frozen (h:Own k t w b xs)(i:Nat):w.frozen? ⟨b,i,none⟩=false:=by
 obtain⟨tail,_,h⟩:=h
 simp[World.frozen?,h]
theorem Own.new (w:World)(t:TypeId)(k:IntKind)(xs:List Nat)(tail:List Value)(a:∀ v∈tail,IsK k v:=by simp):Own k t (w.alloc (.cells (lG k xs tail) t)) w.heap.size xs:=⟨tail,a,heap_alloc_new w _⟩
theorem Own.drew (h:Own k t w b xs):Own k t w.drew b xs:=h
theorem Own.drewN (h:Own k t w b xs)(n:Nat):Own k t (w.drewN n) b xs:=h
theorem Own.fr (h:Own k t w b xs)(a:Fr S w w')(c:¬ S b):Own k t w' b xs:=by
 have d:=h.lt
 obtain⟨tail,e,h⟩:=h
 exact⟨tail,e,(a.block b d c).trans h⟩
theorem Own.ext (h:Own k t w b xs)(a:Ext w w'):Own k t w' b xs:=h.fr a (fun f=>f)
theorem Own.alloc (h:Own k t w b xs)(o:Obj):Own k t (w.alloc o) b xs:=h.ext ((Fr.refl _ w).alloc o)
theorem Own.set (h:Own k t w b xs)(i v:Nat)(hi:i<xs.length):Own k t (w.setCell ⟨b,i,none⟩ (.int k (v:Int))) b (xs.set i v):=by
 obtain⟨tail,a,h⟩:=h
 refine⟨tail,a,?_⟩
 rw[←Zkv _ _ _ _ _ hi]
 simp[World.setCell,Array.getElem?_modify,h]
theorem Own.far (h:Own k t w b xs){p:Addr}(a:b≠p.block)(u:Value):Own k t (w.setCell p u) b xs:=by
 obtain⟨tail,c,h⟩:=h
 exact⟨tail,c,(Below.heap_setCell w p u b a).trans h⟩
theorem Own.shows (h:Own k t w b xs)(off n:Nat):zF k w (some ⟨b,off,none⟩) ((xs.drop off).take n):=fun _=>by
 refine⟨b,off,rfl,h.lt,fun i a=>?_⟩
 rw[List.length_take,List.length_drop] at a
 rw[h.cell (by omega),List.getElem?_take_of_lt (by omega),List.getElem?_drop]
theorem Own.shows0 (h:Own k t w b xs):zF k w (some ⟨b,0,none⟩) xs:=by
 have:=h.shows 0 xs.length
 simpa using this
theorem Own.front {ys:List Nat}(h:Own k t w b (xs ++ ys)):Own k t w b xs:=by
 obtain⟨tail,c,h⟩:=h
 refine⟨(ys.map fun x:Nat=>Value.int k (x:Int)) ++ tail,fun v a=>?_,by rw[h];simp[lG]⟩
 rcases List.mem_append.1 a with a|a
 ·obtain⟨x,_,rfl⟩:=List.mem_map.1 a;exact⟨_,rfl⟩
 exact c v a
theorem Own.take (h:Own k t w b xs)(n:Nat):Own k t w b (xs.take n):=by
 have a:=h
 rw[←List.take_append_drop n xs] at a
 exact a.front
theorem gX.fr (h:gX t w b cap)(e:Fr S w w')(f:¬ S b):gX t w' b cap:=by
 obtain⟨a,h,g⟩:=h
 have i:b<w.heap.size:=by
  rcases Nat.lt_or_ge b w.heap.size with c|d
  ·exact c
  rw[Array.getElem?_eq_none d] at h;cases h
 exact⟨a,(e.block b i f).trans h,g⟩
theorem gX.setCell (h:gX t w b cap)(g i:Nat)(u:Value):gX t (w.setCell ⟨g,i,none⟩ u) b cap:=by
 obtain⟨a,h,c⟩:=h
 by_cases e:b=g
 ·subst e
  refine⟨a.setIfInBounds i u,?_,by simpa using c⟩
  simp[World.setCell,Array.getElem?_modify,h]
 exact⟨a,(Below.heap_setCell w ⟨g,i,none⟩ u b e).trans h,c⟩
theorem gX.setRow (h:gX t w b cap)(g:Nat)(cs:Array Value)(c:g=b→cs.size=cap):gX t (w.setRow g cs) b cap:=by
 obtain⟨a,h,d⟩:=h
 by_cases e:b=g
 ·subst e
  exact⟨cs,setRow_heap w b a cs t _ h,c rfl⟩
 exact⟨a,(setRow_other w g b cs e).trans h,d⟩
theorem Own.owns (h:Own k t w b xs)(d:gX t w b cap){base n:Nat}(e:base≤b)(f:xs.length=n)(g:cap≤maxLen) :
 w.ownsRow base t 1 (.slice (some ⟨b,0,none⟩) n cap) n (xs.map fun x:Nat=>Value.int k (x:Int)):=by
 obtain⟨tail,_,h⟩:=h
 obtain⟨i,a,c⟩:=d
 rw[h] at a
 injection a with a
 injection a with a
 subst a
 subst f
 rw[aU] at c
 refine⟨by simp,Or.inr ⟨b,cap,_,rfl,e,h,by omega,g,by rw[aU];omega,?_⟩⟩
 simp[lG]
def lS (t:TypeId) (b:Nat) (w w':World):Prop:=∀ cap,gX t w b cap→gX t w' b cap
theorem lS.refl (t:TypeId)(b:Nat)(w:World):lS t b w w:=fun _ h=>h
theorem lS.setCell (h:lS t b w w')(g i:Nat)(u:Value):lS t b w (w'.setCell ⟨g,i,none⟩ u):=fun cap a=>(h cap a).setCell g i u
theorem lS.fr (h:lS t b w w'){w'':World}(a:Fr S w' w'')(c:¬ S b):lS t b w w'':=fun cap d=>(h cap d).fr a c
end
theorem Zaj (k:IntKind)(n:Nat):madeCells #[.int k 0] n=lG k (List.replicate n 0) []:=by
 apply Array.ext
 ·simp[madeCells,lG]
 intro i a c
 simp[madeCells,lG,Nat.mod_one]
theorem wO {P:Program}{w:World}{h:Array Oper}{rest:List Oper}{o:Oper}{a:Act}{Q:Exit→Act→World→Prop}(u:o.guard=none)(l c:Operand)(t:TypeId)(j:o.op=Op.makeSlice t l c)(e:TypeId)(k:IntKind)(bytes:Nat)(v:P.underlying t=some (.slice e))(g:(P.info? e).map (fun i=>(i.zero,i.size,i.bytes))=some (some (.int k 0),1,bytes))(kl kc:IntKind)(r s:Int)(n:Nat)(x:a.eval l=.int kl r)(y:a.eval c=.int kc s)(z:r=(n:Nat))(m:s=(n:Nat))(d:bytes*n≤281474976710656)(p:n≤9223372036854775807)(B:∀ (b:Nat) (w':World),w.heap.size=b→Own k e w' b (List.replicate n 0)→gX e w' b n→Ext w w'→w'.heap.size=b+1→wpList P h Q rest (a.put o.dst (.slice (some ⟨b,0,none⟩) n n)) w') :
 wpList P h Q (o :: rest) a w:=by
 subst z m
 refine wpList_plain u fun K q=>?_
 have f:=run_make_row' (P:=P) t e (.int k 0) bytes v g rfl kl kc n d p w
 rw[Zaj] at f
 unfold Oper.wp
 simp[execOp,j,x,y,f,Result.andThen]
 exact q _ _ (B _ _ rfl (Own.new w e k _ _) ⟨_,heap_alloc_new w _,by simp[aU]⟩ ((Fr.refl _ w).alloc _) (by simp))
theorem Fr.setRow {S:Nat→Prop}{w w':World}(h:Fr S w w'){g:Nat}(a:S g∨w.heap.size≤g)(cs:Array Value):Fr S w (w'.setRow g cs) :=
 h.next (T:=fun i=>i=g) ⟨rfl,rfl,rfl,by simp[World.setRow],fun i _ c=>setRow_other w' g i cs c⟩
  (fun i e d=>by
   rcases a with a|a;· exact d ▸ a
   ·omega)
theorem Za7 {P:Program}{w:World}{y:Array Oper}{rest:List Oper}{o:Oper}{a:Act}{Q:Exit→Act→World→Prop}(B:o.guard=none)(d s:Operand)(dT sT:TypeId)(N:o.op=.call { callee:=.builtin .copy,args:=#[d,s],argTypes:=#[dT,sT] })(e:TypeId)(k:IntKind)(O:P.underlying dT=some (.slice e))(C:(P.info? e).map (·.size)=some 1)(J sp:Option Addr)(n m q r:Nat)(U:a.eval d=.slice J n q)(V:a.eval s=.slice sp m r)(b:Nat)(c mid f ys:List Nat)(X:mid.length=n)(Y:ys.length=m)(u:Own k e w b (c ++ mid ++ f))(Z:zF k w sp ys)(K:0<mid.length→J=some ⟨b,c.length,none⟩)(h:∀ w' z,Own k e w' b (c ++ (ys.take mid.length ++ mid.drop ys.length) ++ f)→lS e b w w'→Fr (· = b) w w'→w'.heap.size=w.heap.size→wpList P y Q rest (a.put o.dst z) w') :
 wpList P y Q (o :: rest) a w:=by
 subst X Y
 by_cases D:Nat.min ys.length mid.length=0
 ·refine wpList_copy_nothing B d s dT sT N e O C J sp _ _ _ _ U V D (h w _ ?_ (fun _ H=>H) (Fr.refl _ _) rfl)
  have:ys.take mid.length ++ mid.drop ys.length=mid:=by
   rcases (by simp only[Nat.min_def] at D;split at D<;>omega:ys.length=0∨mid.length=0) with p|p
   ·rw[List.length_eq_zero_iff.1 p];simp
   rw[List.length_eq_zero_iff.1 p];simp
  rw[this];exact u
 have g:0<ys.length∧0<mid.length:=by
  simp only[Nat.min_def] at D;split at D<;>omega
 obtain⟨b2,E,rfl,a0,L⟩:=Z (by intro e;rw[e] at g;simp at g)
 have F:=K g.2
 subst F
 obtain⟨tail,hT,u⟩:=u
 have R:(lG k (c ++ mid ++ f) tail).toList.take c.length ++ (((ys.take mid.length).map fun x:Nat=>Value.int k (x:Int)) ++ (lG k (c ++ mid ++ f) tail).toList.drop (c.length+((ys.take mid.length).map fun x:Nat=>Value.int k (x:Int)).length)) =
  ((c ++ (ys.take mid.length ++ mid.drop ys.length) ++ f).map fun x:Nat=>Value.int k (x:Int)) ++ tail:=by
  simp only[lG,List.map_append,List.toList_toArray,List.length_map,List.length_take,List.map_take,List.map_drop,List.append_assoc]
  rw[List.take_append_of_le_length (by simp)]
  rw[show c.length=(c.map fun x:Nat=>Value.int k (x:Int)).length by simp,List.take_length]
  congr 2
  rw[List.drop_append,List.drop_of_length_le (by simp)]
  simp only[List.length_map,List.nil_append,Nat.add_sub_cancel_left]
  rcases Nat.le_total ys.length mid.length with i|i
  ·rw[Nat.min_eq_right i,List.drop_append_of_le_length (by simpa using i)]
  rw[Nat.min_eq_left i,List.drop_append,List.drop_of_length_le (l:=List.map _ mid) (by simp),List.drop_of_length_le (l:=List.map _ mid) (by simpa using i)]
  simp
 refine wpList_copy_own B d s dT sT N e O C b c.length mid.length q ⟨b2,E,none⟩ ys.length r U V _ e u ((ys.take mid.length).map fun x:Nat=>Value.int k (x:Int)) (by simp[Nat.min_comm]) ?_ (by simp[lG];omega) (fun v I=>by obtain⟨x,_,rfl⟩:=List.mem_map.1 I;rfl) (h _ _ ?_ ?_ ((Fr.refl (· = b) w).setRow (Or.inl rfl) _) (by simp[World.setRow]))
 ·intro j v I
  rw[List.getElem?_map] at I
  obtain⟨x,hx,rfl⟩:=Option.map_eq_some_iff.1 I
  have G:j<(ys.take mid.length).length:=by
   rcases Nat.lt_or_ge j (ys.take mid.length).length with G|G
   ·exact G
   rw[List.getElem?_eq_none G] at hx;cases hx
  rw[List.length_take] at G
  have M:ys[j]? = some x:=by rw[←hx,List.getElem?_take_of_lt (by omega)]
  have:=L j (by omega)
  rw[M] at this
  by_cases W:j=0
  ·subst W;simpa [Addr.add] using this
  simpa [Addr.add,W] using this
 ·refine⟨tail,hT,?_⟩
  rw[setRow_heap w b _ _ e _ u,R]
  rfl
 intro cap H
 refine H.setRow b _ (fun _=>?_)
 obtain⟨b0,p,h2⟩:=H
 rw[u] at p
 injection p with p
 injection p with p
 rw[←h2,← p,R,aU]
 simp
 omega
def Buf (k:IntKind) (e:TypeId) (w:World) (A:Option Addr) (cap:Nat) (xs:List Nat):Prop :=
 (A=none∧xs=[]∧cap=0)∨∃ b,A=some ⟨b,0,none⟩∧Own k e w b xs∧gX e w b cap∧xs.length≤cap∧cap≤maxLen
def xP (A:Option Addr) (i:Nat):Prop:=∃ a,A=some a∧a.block=i
section
variable {S:Nat→Prop} {k:IntKind} {e:TypeId} {w w':World} {A:Option Addr} {cap:Nat} {xs:List Nat}
theorem Buf.nil:Buf k e w none 0 []:=Or.inl ⟨rfl,rfl,rfl⟩
theorem Buf.fr (h:Buf k e w A cap xs)(a:Fr S w w')(c:∀ b,xP A b→¬ S b):Buf k e w' A cap xs:=by
 rcases h with h|⟨b,rfl,d,f,g⟩
 ·exact Or.inl h
 have:=c b ⟨_,rfl,rfl⟩
 exact Or.inr ⟨b,rfl,d.fr a this,f.fr a this,g⟩
theorem Buf.ext (h:Buf k e w A cap xs)(a:Ext w w'):Buf k e w' A cap xs:=h.fr a (fun _ _ f=>f)
theorem Buf.shows (h:Buf k e w A cap xs):zF k w A xs:=by
 rcases h with ⟨_,rfl,_⟩|⟨b,rfl,a,_⟩
 ·exact zF.nil
 exact a.shows0
theorem Buf.len (h:Buf k e w A cap xs):xs.length≤cap:=by
 rcases h with ⟨_,rfl,rfl⟩|⟨b,rfl,_,_,h,_⟩
 ·exact Nat.le_refl _
 exact h
theorem Buf.lt (h:Buf k e w A cap xs){b:Nat}(c:xP A b):b<w.heap.size:=by
 rcases h with ⟨rfl,_,_⟩|⟨f,rfl,d,_⟩
 ·obtain⟨a,ha,_⟩:=c;cases ha
 obtain⟨a,ha,rfl⟩:=c;injection ha with ha;subst ha;exact d.lt
theorem Buf.owns (h:Buf k e w A cap xs){base n:Nat}(c:∀ b,xP A b→base≤b)(a:xs.length=n) :
 w.ownsRow base e 1 (.slice A n cap) n (xs.map fun x:Nat=>Value.int k (x:Int)):=by
 rcases h with ⟨rfl,rfl,rfl⟩|⟨b,rfl,d,f,i,g⟩
 ·subst a;exact⟨rfl,Or.inl ⟨rfl,rfl⟩⟩
 exact d.owns f (c b ⟨_,rfl,rfl⟩) a g
theorem Buf.of_owns {base n:Nat}(h:w.ownsRow base e 1 (.slice A n cap) n (xs.map fun x:Nat=>Value.int k (x:Int)))(q:∀ b,xP A b→ZfZ (IsK k) w b):Buf k e w A cap xs:=by
 obtain⟨m,r⟩:=h
 rcases r with ⟨d,rfl⟩|⟨g,o,f,d,u,i,s,j,l,a⟩
 ·injection d with hA _ hc
  exact Or.inl ⟨hA,by simpa using m,hc⟩
 injection d with hA hn' hcap
 subst hA hcap
 simp only[List.length_map,Nat.mul_one] at m
 refine Or.inr ⟨g,rfl,⟨f.toList.drop n,fun v d=>?_,?_⟩,⟨f,i,by simpa using l⟩,by omega,j⟩
 ·obtain⟨p,y,c,t⟩:=q g ⟨_,rfl,rfl⟩
  rw[i] at c
  injection c with c;injection c with c
  subst c
  exact t v (List.mem_of_mem_drop d)
 rw[i]
 congr 2
 rw[Nat.mul_one] at a
 simp only[lG]
 rw[←a,List.take_append_drop]
theorem Buf.all (h:Buf k e w A cap xs){b:Nat}(c:xP A b):ZfZ (IsK k) w b:=by
 rcases h with ⟨rfl,_,_⟩|⟨f,rfl,d,_⟩
 ·obtain⟨a,ha,_⟩:=c;cases ha
 obtain⟨a,ha,rfl⟩:=c;injection ha with ha;subst ha;exact d.all
end
theorem ZdU {P:Program}(w:World)(base:Nat)(t f e:TypeId)(i:TypeInfo)(d:P.underlying t=some (.slice e))(hi:P.info? e=some i)(v:Value)(n:Nat)(xs:List Value)(a:w.ownsRow base e 1 v n xs)(c:Nat):(Builtin.append_ #[t,t] f #[v,.slice none 0 c]).run P w=.ok v w:=by
 rcases a.2 with ⟨rfl,rfl⟩|⟨g,cap,h,rfl,_,_,b,_⟩
 ·simp[Builtin.append_,run_underlying d,sizeOf,typeInfo,hi,Builtin.lenOf,Builtin.firstCells]
 simp[Builtin.append_,run_underlying d,sizeOf,typeInfo,hi,Builtin.lenOf,Builtin.firstCells,b,storeCells]
theorem Zfc (Z:Option Addr)(c d b:Nat):(Value.slice Z c d).ownBlock=some b↔xP Z b:=by
 cases Z with
 | none=>simp[Value.ownBlock,xP]
 | some a=>simp[Value.ownBlock,xP]
theorem Zfu {P:Program}(p:Value→Prop)(w:World)(t I e:TypeId)(i:TypeInfo)(z:Value)(bytes:Nat)(M:P.underlying t=some (.slice e))(hi:P.info? e=some i)(Q:i.zero=some z)(f:i.size=1)(y:i.bytes=bytes)(R:z.cells.size=1)(v:Value)(n:Nat)(xs:List Value)(s:w.ownsRow 0 e 1 v n xs)(a:Addr)(m c:Nat)(b:List Value)(N:b.length=m*1)(l:∀ j u,b[j]? = some u→w.cell? (a.add j)=some u)(W:∀ u∈b,u.oneCell'=true)(J:n+m≤maxLen)(o:(n+m)*bytes≤140737488355328)(Y:∀ g,v.ownBlock=some g→ZfZ p w g)(B:∀ u∈b,p u)(T:∀ u∈z.cells.toList,p u) :
 ∃ C w',(Builtin.append_ #[t,t] I #[v,.slice (some a) m c]).run P w=.ok C w'∧w'.ownsRow 0 e 1 C (n+m) (xs ++ b)∧w.grownBy w' v.ownBlock ∧
 (C.ownBlock=v.ownBlock∨C.ownBlock=some w.heap.size)∧∀ g,C.ownBlock=some g→ZfZ p w' g:=by
 obtain⟨C,w',h,Z,h3,h4,h5⟩:=run_append_own_at (P:=P) w 0 t I e i z 1 bytes M hi Q f y R (by omega) v n xs s a m c b N l W J o (Nat.zero_le _)
 refine⟨C,w',h,Z,h3,h5,fun g' r=>?_⟩
 have O:n+m≤9223372036854775807:=by simp only[maxLen] at J;omega
 have K:∀ q,∀ u∈(Builtin.zeroCells z.cells q).toList,p u:=by
  intro q u d
  rw[Array.mem_toList_iff] at d
  simp only[Builtin.zeroCells] at d
  obtain⟨j,_,rfl⟩:=Array.mem_map.1 d
  apply T
  have U:j%z.cells.size<z.cells.size:=Nat.mod_lt _ (by omega)
  rw[Array.mem_toList_iff,getElem!_pos z.cells _ U]
  exact Array.getElem_mem _
 rcases s.2 with ⟨rfl,rfl⟩|⟨g,cap,D,rfl,a0,V,b0,c0,d0,E⟩
 ·by_cases hm:m=0
  ·have:=h4.2 ⟨rfl,hm⟩
   subst this
   simp[Value.ownBlock] at r
  have L:=run_append_nil (P:=P) w t I e i z M hi Q a m c b (by rw[f];exact N) l (by omega) (by omega) (by rw[y];simp only[Nat.zero_add] at o;omega)
  rw[L] at h
  injection h with hv hw
  subst hv hw
  simp only[Value.ownBlock,Option.some.injEq] at r
  subst r
  refine⟨_,e,heap_alloc_new w.drew _,fun u d=>?_⟩
  simp only[Array.toList_append,List.mem_append] at d
  rcases d with d|d
  ·exact B u d
  exact K _ u d
 have x:∀ u∈D.toList,p u:=by
  obtain⟨X,t2,H,k2⟩:=Y g rfl
  rw[V] at H
  injection H with H;injection H with H
  subst H
  exact k2
 by_cases F:n+m≤cap
 ·have L:=run_append_room (P:=P) w t I e i M hi g n cap D V a m c b (by rw[f];exact N) l W F (by rw[f];omega)
  rw[L] at h
  injection h with hv hw
  subst hv hw
  simp only[Value.ownBlock,Option.some.injEq] at r
  subst r
  refine⟨_,e,setRow_heap w g D _ e _ V,fun u d=>?_⟩
  simp only[List.mem_append] at d
  rcases d with (d|d)|d
  ·exact x u (List.mem_of_mem_take d)
  ·exact B u d
  exact x u (List.mem_of_mem_drop d)
 have G:∀ j u,xs[j]? = some u→w.cell? ((⟨g,0,none⟩:Addr).add j)=some u:=s.cells (g:=g) rfl
 have L:=run_append_grow (P:=P) w t I e i z M hi Q ⟨g,0,none⟩ n cap xs (by rw[f];exact s.1) G a m c b (by rw[f];exact N) l (by omega) (by omega) (growslice_fits (by omega) (by rw[y];exact o))
 rw[L] at h
 injection h with hv hw
 subst hv hw
 simp only[Value.ownBlock,Option.some.injEq] at r
 subst r
 refine⟨_,e,heap_alloc_new w.drew _,fun u d=>?_⟩
 simp only[Array.toList_append,List.mem_append] at d
 rcases d with (d|d)|d
 ·rw[←E] at d;exact x u (List.mem_of_mem_take d)
 ·exact B u d
 exact K _ u d
theorem ZbB {P:Program}(w:World)(t B e:TypeId)(k:IntKind)(bytes:Nat)(K:P.underlying t=some (.slice e))(r:(P.info? e).map (fun i=>(i.zero,i.size,i.bytes))=some (some (.int k 0),1,bytes))(A X:Option Addr)(n m cap c:Nat)(xs a:List Nat)(R:xs.length=n)(C:a.length=m)(D:Buf k e w A cap xs)(L:zF k w X a)(E:n+m≤maxLen)(f:(n+m)*bytes≤140737488355328) :
 ∃ l cap' w',(Builtin.append_ #[t,t] B #[.slice A n cap,.slice X m c]).run P w=.ok (.slice l (n+m) cap') w'∧Buf k e w' l cap' (xs ++ a)∧Fr (xP A) w w' ∧
 (∀ b,xP l b→xP A b∨b=w.heap.size):=by
 obtain⟨i,M,T,U,F⟩:=info_parts r
 have q:=D.owns (base:=0) (fun _ _=>Nat.zero_le _) R
 rcases X with _|N
 ·have G:a=[]:=by
   rcases a with _|⟨y,ys⟩
   ·rfl
   obtain⟨b,H,h,_⟩:=L (by simp);cases h
  subst G
  simp only[List.length_nil] at C
  subst C
  exact⟨A,cap,w,ZdU w 0 t B e i K M _ n _ q c,by simpa using D,Fr.refl _ _,fun b s=>Or.inl s⟩
 have o:∀ j u,(a.map fun x:Nat=>Value.int k (x:Int))[j]? = some u→w.cell? (N.add j)=some u:=by
  intro j u p
  rw[List.getElem?_map] at p
  obtain⟨x,O,rfl⟩:=Option.map_eq_some_iff.1 p
  have V:j<a.length:=(List.getElem?_eq_some_iff.1 O).1
  obtain⟨b,H,h,_,I⟩:=L.at V
  injection h with h
  subst h
  rw[O] at I
  by_cases Q:j=0
  ·subst Q;simpa [Addr.add] using I
  simpa [Addr.add,Q] using I
 obtain⟨W,w',v,J,Y,z,Z⟩:=Zfu (P:=P) (IsK k) w t B e i (.int k 0) bytes K M T U F rfl _ n _ q N m c (a.map fun x:Nat=>Value.int k (x:Int)) (by simp[C]) o
  (fun u p=>by obtain⟨x,_,rfl⟩:=List.mem_map.1 p;rfl) E f (fun g hg=>D.all ((Zfc _ _ _ _).1 hg)) (fun u p=>by obtain⟨x,_,rfl⟩:=List.mem_map.1 p;exact⟨_,rfl⟩) (fun u p=>by simp[Value.cells] at p;exact⟨_,p⟩)
 rw[←List.map_append] at J
 obtain⟨l,cap',rfl⟩:∃ l cap',W=.slice l (n+m) cap':=by
  rcases J.2 with ⟨rfl,G⟩|⟨g,cap',a0,rfl,_⟩
  ·rw[G];exact⟨none,0,rfl⟩
  exact⟨_,cap',rfl⟩
 have d:=Zfc
 refine⟨l,cap',w',v,Buf.of_owns J (fun b s=>Z b ((d _ _ _ _).2 s)),(Fr.ofGrown Y).mono (fun i _ hh=>(d _ _ _ _).1 hh),fun b s=>?_⟩
 rcases z with z|z
 ·exact Or.inl ((d _ _ _ _).1 (z ▸ (d l (n+m) cap' b).2 s))
 have:=(d l (n+m) cap' b).2 s
 rw[z] at this
 injection this with this
 exact Or.inr this.symm
theorem wT {P:Program}{w:World}{j:Array Oper}{rest:List Oper}{o:Oper}{a:Act}{Q:Exit→Act→World→Prop}(p:o.guard=none)(s x:Operand)(t:TypeId)(r:o.op=.call { callee:=.builtin .append,args:=#[s,x],argTypes:=#[t,t] })(e:TypeId)(k:IntKind)(bytes:Nat)(u:P.underlying t=some (.slice e))(g:(P.info? e).map (fun i=>(i.zero,i.size,i.bytes))=some (some (.int k 0),1,bytes))(A X:Option Addr)(n m cap c:Nat)(v:a.eval s=.slice A n cap)(y:a.eval x=.slice X m c)(xs d:List Nat)(z:xs.length=n)(B:d.length=m)(C:Buf k e w A cap xs)(D:zF k w X d)(q:n+m≤maxLen)(f:(n+m)*bytes≤140737488355328)(h:∀ A' cap' w',Buf k e w' A' cap' (xs ++ d)→Fr (xP A) w w'→(∀ b,xP A' b→xP A b∨b=w.heap.size)→wpList P j Q rest (a.put o.dst (.slice A' (n+m) cap')) w'):wpList P j Q (o :: rest) a w:=by
 refine wpList_plain p fun _ E=>?_
 obtain⟨A',cap',w',l,F,G,H⟩:=ZbB (P:=P) w t o.type e k bytes u g A X n m cap c xs d z B C D q f
 unfold Oper.wp execOp
 simp only[r,resolve,invoke,builtin,Sem.run_bind,Sem.run_pure,Result.andThen_ok,List.map_toArray,List.map_cons,List.map_nil,v,y,l]
 exact E _ _ (h A' cap' w' F G H)
def Blk (t:TypeId) (w:World) (g:Nat) (cs:Array Value):Prop:=w.heap[g]? = some (.cells cs t (0,0))
section
variable {S:Nat→Prop} {w w':World} {g:Nat} {t:TypeId} {cs:Array Value}
theorem Blk.lt (h:Blk t w g cs):g<w.heap.size:=by
 rcases Nat.lt_or_ge g w.heap.size with a|b
 ·exact a
 unfold Blk at h;rw[Array.getElem?_eq_none b] at h;cases h
theorem Blk.cell (h:Blk t w g cs)(i:Nat):w.cell? ⟨g,i,none⟩=cs[i]? := cell_of_row w g i cs t (0,0) h
theorem Blk.frozen (h:Blk t w g cs)(i:Nat):w.frozen? ⟨g,i,none⟩=false:=by
 unfold Blk at h
 simp[World.frozen?,h]
theorem Blk.new (w:World)(t:TypeId)(cs:Array Value):Blk t (w.alloc (.cells cs t)) w.heap.size cs:=heap_alloc_new w _
theorem Blk.set_ (h:Blk t w g cs)(i:Nat)(u:Value):Blk t (w.setCell ⟨g,i,none⟩ u) g (cs.setIfInBounds i u):=by
 unfold Blk at h ⊢
 simp[World.setCell,Array.getElem?_modify,h]
theorem Blk.far (h:Blk t w g cs){p:Addr}(a:g≠p.block)(u:Value):Blk t (w.setCell p u) g cs:=(Below.heap_setCell w p u g a).trans h
theorem Blk.fr (h:Blk t w g cs)(a:Fr S w w')(b:¬ S g):Blk t w' g cs:=(a.block g h.lt b).trans h
theorem Blk.ext (h:Blk t w g cs)(a:Ext w w'):Blk t w' g cs:=h.fr a (fun f=>f)
theorem Blk.alloc (h:Blk t w g cs)(o:Obj):Blk t (w.alloc o) g cs:=h.ext ((Fr.refl _ w).alloc o)
theorem Blk.drewN (h:Blk t w g cs)(n:Nat):Blk t (w.drewN n) g cs:=h
end
section
variable {p:Value→Prop} {S:Nat→Prop} {e:TypeId} {w w':World} {A:Option Addr} {cap:Nat} {vs:List Value}
end
end Go.Proofs.YtklpdkpcocnglaaGreatDoor
