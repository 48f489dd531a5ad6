/-
 My texts Mem, Append, Blk, Vals put together.
-/
import Derived.WalkKit
import Derived.WalkSpells
import Derived.WalkLawsBesides
import Derived.Lib.Hide
import Derived.Deep.Draws
import Derived.Laws.Rows
import Derived.Laws.MakeOwn
import Derived.Laws.CopyOwn
import Derived.Deep.OwnRows
import Derived.OwnWalk
import Derived.Maps.AppendAt
set_option maxRecDepth 100000
namespace Go.Proofs.YtenchljfmfgeoaaGreatDoor
open Go.RowKit
theorem zh {p : Prop} (h : p) : Hid p := Lib.hid h
structure Fr (S:Nat→Prop) (w w':World):Prop where
 os:w'.os=w.os
 tape:w'.tape=w.tape
 output:w'.output=w.output
 size:w.heap.size≤w'.heap.size
 block:∀ i,i < w.heap.size→¬ S i→w'.heap[i]? = w.heap[i]?
abbrev Ext (w w':World):Prop:=Fr (fun _=>False) w w'
section
variable {S T:Nat→Prop} {w w' w'':World}
theorem Fr.refl (S:Nat→Prop) (w:World):Fr S w w:=⟨rfl,rfl,rfl,Nat.le_refl _,fun _ _ _=>rfl⟩
theorem Fr.trans (h:Fr S w w') (k:Fr S w' w''):Fr S w w'' :=
 ⟨k.os.trans h.os,k.tape.trans h.tape,k.output.trans h.output,Nat.le_trans h.size k.size,fun i hi hs=>(k.block i (Nat.lt_of_lt_of_le hi h.size) hs).trans (h.block i hi hs)⟩
theorem Fr.mono (h:Fr S w w') (hS:∀ i,i < w.heap.size→S i→T i):Fr T w w' :=
 ⟨h.os,h.tape,h.output,h.size,fun i hi ht=>h.block i hi (fun hs=>ht (hS i hi hs))⟩
theorem Fr.next (h:Fr S w w') (k:Fr T w' w'') (hT:∀ i,i < w.heap.size→T i→S i):Fr S w w'' :=
 ⟨k.os.trans h.os,k.tape.trans h.tape,k.output.trans h.output,Nat.le_trans h.size k.size,fun i hi hs=>(k.block i (Nat.lt_of_lt_of_le hi h.size) (fun ht=>hs (hT i hi ht))).trans (h.block i hi hs)⟩
theorem Fr.ext (h:Fr S w w') (k:Ext w' w''):Fr S w w'':=h.next k (fun _ _ hf=>hf.elim)
theorem Fr.alloc (h:Fr S w w') (o:Obj):Fr S w (w'.alloc o) :=
 h.next (T:=fun _=>False) ⟨rfl,rfl,rfl,by simp,fun i hi _=>Below.heap_alloc _ _ _ hi⟩ (fun _ _ hf=>hf.elim)
theorem Fr.drew (h:Fr S w w'):Fr S w w'.drew:=⟨h.os,h.tape,h.output,h.size,h.block⟩
theorem Fr.drewN (h:Fr S w w') (n:Nat):Fr S w (w'.drewN n):=⟨h.os,h.tape,h.output,h.size,h.block⟩
theorem Fr.setCell (h:Fr S w w') {p:Addr} (hp:S p.block∨w.heap.size≤p.block) (u:Value):Fr S w (w'.setCell p u) :=
 h.next (T:=fun i=>i=p.block) ⟨rfl,rfl,rfl,by simp [World.setCell],fun i _ hs=>Below.heap_setCell _ _ _ _ hs⟩
  (fun i hi he=>by rcases hp with hp | hp; · exact he ▸ hp
                   ·omega)
theorem Fr.ofGrown {row:Option Nat} (h:w.grownBy w' row):Fr (fun i=>row=some i) w w' :=
 ⟨h.os,h.tape,h.output,h.size,fun i hi hs=>h.block i hi (fun e=>hs e.symm)⟩
theorem Fr.toBelow (h:Ext w w'):Below w.heap.size w w':=⟨h.os,h.tape,h.output,h.size,fun i hi=>h.block i hi (fun f=>f)⟩
theorem Fr.ofBelow (h:Below w.heap.size w w'):Ext w w':=⟨h.os,h.tape,h.output,h.size,fun i hi _=>h.block i hi⟩
theorem Fr.cell (h:Fr S w w') {p:Addr} (hp:p.block < w.heap.size) (hs:¬ S p.block):w'.cell? p=w.cell? p :=
 World.cell?_of_block (w:=w) (h.block p.block hp hs)
end
def Zae (k:IntKind) (w:World) (A:Option Addr) (xs:List Nat):Prop :=
 xs≠[]→∃ b off,A=some ⟨b,off,none⟩∧b < w.heap.size∧∀ i,i < xs.length→w.cell? ⟨b,off + i,none⟩=some (.int k ((xs[i]?.getD 0:Nat):Int))
section
variable {S:Nat→Prop} {k:IntKind} {w w':World} {A:Option Addr} {xs:List Nat}
theorem Zae.nil:Zae k w A []:=fun h=>absurd rfl h
theorem Zae.fr (h:Zae k w A xs) (hf:Fr S w w') (hs:∀ a,A=some a→a.block < w.heap.size→¬ S a.block):Zae k w' A xs:=fun hne=>by
 obtain ⟨b,off,rfl,hb,hc⟩:=h hne
 exact ⟨b,off,rfl,Nat.lt_of_lt_of_le hb hf.size,fun i hi=>(hf.cell (p:=⟨b,off + i,none⟩) hb (hs ⟨b,off,none⟩ rfl hb)).trans (hc i hi)⟩
theorem Zae.ext (h:Zae k w A xs) (hf:Ext w w'):Zae k w' A xs:=h.fr hf (fun _ _ _ f=>f)
theorem Zae.alloc (h:Zae k w A xs) (o:Obj):Zae k (w.alloc o) A xs:=h.ext ((Fr.refl _ w).alloc o)
theorem Zae.drew (h:Zae k w A xs):Zae k w.drew A xs:=h
theorem Zae.drewN (h:Zae k w A xs) (n:Nat):Zae k (w.drewN n) A xs:=h
theorem Zae.take (h:Zae k w A xs) (n:Nat):Zae k w A (xs.take n):=fun hne=>by
 obtain ⟨b,off,rfl,hb,hc⟩:=h (fun e=>hne (by simp [e]))
 refine ⟨b,off,rfl,hb,fun i hi=>?_⟩
 rw [List.length_take] at hi
 rw [hc i (by omega),List.getElem?_take_of_lt (by omega)]
theorem Zae.at (h:Zae k w A xs) {i:Nat} (hi:i < xs.length):∃ b off,A=some ⟨b,off,none⟩∧b < w.heap.size∧w.cell? ⟨b,off + i,none⟩=some (.int k ((xs[i]?.getD 0:Nat):Int)):=by
 obtain ⟨b,off,he,hb,hc⟩:=h (by intro e; simp [e] at hi)
 exact ⟨b,off,he,hb,hc i hi⟩
end
def Zbq (k:IntKind) (xs:List Nat) (tail:List Value):Array Value:=((xs.map fun x:Nat=>Value.int k (x:Int)) ++ tail).toArray
theorem Zm6 {k:IntKind} {xs:List Nat} {tail:List Value} {i:Nat} (h:i < xs.length):(Zbq k xs tail)[i]? = some (.int k ((xs[i]?.getD 0:Nat):Int)):=by
 simp [Zbq,List.getElem?_append_left,h]
theorem ZlP (k:IntKind) (xs:List Nat) (tail:List Value) (i v:Nat) (h:i < xs.length):(Zbq k xs tail).setIfInBounds i (.int k (v:Int))=Zbq k (xs.set i v) tail:=by
 simp [Zbq,List.map_set,List.set_append_left,h]
theorem ZdV (k:IntKind) (xs:List Nat) (tail:List Value):(Zbq k xs tail).size=xs.length + tail.length:=by simp [Zbq]
def IsK (k:IntKind) (v:Value):Prop:=∃ z,v=.int k z
def Ziu (p:Value→Prop) (w:World) (b:Nat):Prop:=∃ cur t,w.heap[b]? = some (.cells cur t (0,0))∧∀ v ∈ cur.toList,p v
def Own (k:IntKind) (t:TypeId) (w:World) (b:Nat) (xs:List Nat):Prop:=∃ tail,(∀ v ∈ tail,IsK k v)∧w.heap[b]? = some (.cells (Zbq k xs tail) t (0,0))
theorem ZlQ {k:IntKind} {xs:List Nat} {tail:List Value} (h:∀ v ∈ tail,IsK k v):∀ v ∈ (Zbq k xs tail).toList,IsK k v:=fun v hv=>by
 simp only [Zbq,List.toList_toArray,List.mem_append,List.mem_map] at hv
 rcases hv with ⟨x,_,rfl⟩ | hv
 ·exact ⟨_,rfl⟩
 ·exact h v hv
theorem Own.all {k:IntKind} {t:TypeId} {w:World} {b:Nat} {xs:List Nat} (h:Own k t w b xs):Ziu (IsK k) w b:=by
 obtain ⟨tail,h1,h2⟩:=h
 exact ⟨_,_,h2,ZlQ h1⟩
def Zcn (t:TypeId) (w:World) (b cap:Nat):Prop:=∃ cur,w.heap[b]? = some (.cells cur t (0,0))∧cur.size=cap
section
variable {S:Nat→Prop} {k:IntKind} {t:TypeId} {w w':World} {b cap:Nat} {xs:List Nat}
theorem Own.lt (h:Own k t w b xs):b < w.heap.size:=by
 rcases Nat.lt_or_ge b w.heap.size with hlt | hge
 ·exact hlt
 ·obtain ⟨tail,_,h⟩:=h; rw [Array.getElem?_eq_none hge] at h; cases h
theorem Own.cell (h:Own k t w b xs) {i:Nat} (hi:i < xs.length):w.cell? ⟨b,i,none⟩=some (.int k ((xs[i]?.getD 0:Nat):Int)):=by
 obtain ⟨tail,_,h⟩:=h
 exact (cell_of_row w b i _ t (0,0) h).trans (Zm6 hi)
theorem Own.frozen (h:Own k t w b xs) (i:Nat):w.frozen? ⟨b,i,none⟩=false:=by
 obtain ⟨tail,_,h⟩:=h
 simp [World.frozen?,h]
theorem Own.new (w:World) (t:TypeId) (k:IntKind) (xs:List Nat) (tail:List Value) (ht:∀ v ∈ tail,IsK k v:=by simp):Own k t (w.alloc (.cells (Zbq k xs tail) t)) w.heap.size xs:=⟨tail,ht,heap_alloc_new w _⟩
theorem Own.drew (h:Own k t w b xs):Own k t w.drew b xs:=h
theorem Own.drewN (h:Own k t w b xs) (n:Nat):Own k t (w.drewN n) b xs:=h
theorem Own.fr (h:Own k t w b xs) (hf:Fr S w w') (hs:¬ S b):Own k t w' b xs:=by
 have hl:=h.lt
 obtain ⟨tail,ht,h⟩:=h
 exact ⟨tail,ht,(hf.block b hl hs).trans h⟩
theorem Own.ext (h:Own k t w b xs) (hf:Ext w w'):Own k t w' b xs:=h.fr hf (fun f=>f)
theorem Own.alloc (h:Own k t w b xs) (o:Obj):Own k t (w.alloc o) b xs:=h.ext ((Fr.refl _ w).alloc o)
theorem Own.set (h:Own k t w b xs) (i v:Nat) (hi:i < xs.length):Own k t (w.setCell ⟨b,i,none⟩ (.int k (v:Int))) b (xs.set i v):=by
 obtain ⟨tail,ht,h⟩:=h
 refine ⟨tail,ht,?_⟩
 rw [← ZlP _ _ _ _ _ hi]
 simp [World.setCell,Array.getElem?_modify,h]
theorem Own.far (h:Own k t w b xs) {p:Addr} (hp:b≠p.block) (u:Value):Own k t (w.setCell p u) b xs:=by
 obtain ⟨tail,ht,h⟩:=h
 exact ⟨tail,ht,(Below.heap_setCell w p u b hp).trans h⟩
theorem Own.shows (h:Own k t w b xs) (off n:Nat):Zae k w (some ⟨b,off,none⟩) ((xs.drop off).take n):=fun _=>by
 refine ⟨b,off,rfl,h.lt,fun i hi=>?_⟩
 rw [List.length_take,List.length_drop] at hi
 rw [h.cell (by omega),List.getElem?_take_of_lt (by omega),List.getElem?_drop]
theorem Own.shows0 (h:Own k t w b xs):Zae k w (some ⟨b,0,none⟩) xs:=by
 have:=h.shows 0 xs.length
 simpa using this
theorem Own.front {ys:List Nat} (h:Own k t w b (xs ++ ys)):Own k t w b xs:=by
 obtain ⟨tail,ht,h⟩:=h
 refine ⟨(ys.map fun x:Nat=>Value.int k (x:Int)) ++ tail,fun v hv=>?_,by rw [h]; simp [Zbq]⟩
 rcases List.mem_append.1 hv with hv | hv
 ·obtain ⟨x,_,rfl⟩:=List.mem_map.1 hv; exact ⟨_,rfl⟩
 ·exact ht v hv
theorem Own.take (h:Own k t w b xs) (n:Nat):Own k t w b (xs.take n):=by
 have h':=h
 rw [← List.take_append_drop n xs] at h'
 exact h'.front
theorem Zcn.fr (h:Zcn t w b cap) (hf:Fr S w w') (hs:¬ S b):Zcn t w' b cap:=by
 obtain ⟨cur,h,hc⟩:=h
 have hl:b < w.heap.size:=by
  rcases Nat.lt_or_ge b w.heap.size with hlt | hge
  ·exact hlt
  ·rw [Array.getElem?_eq_none hge] at h; cases h
 exact ⟨cur,(hf.block b hl hs).trans h,hc⟩
theorem Zcn.setCell (h:Zcn t w b cap) (g i:Nat) (u:Value):Zcn t (w.setCell ⟨g,i,none⟩ u) b cap:=by
 obtain ⟨cur,h,hc⟩:=h
 by_cases e:b=g
 ·subst e
  refine ⟨cur.setIfInBounds i u,?_,by simpa using hc⟩
  simp [World.setCell,Array.getElem?_modify,h]
 ·exact ⟨cur,(Below.heap_setCell w ⟨g,i,none⟩ u b e).trans h,hc⟩
theorem Zcn.setRow (h:Zcn t w b cap) (g:Nat) (cs:Array Value) (hcs:g=b→cs.size=cap):Zcn t (w.setRow g cs) b cap:=by
 obtain ⟨cur,h,hc⟩:=h
 by_cases e:b=g
 ·subst e
  exact ⟨cs,setRow_heap w b cur cs t _ h,hcs rfl⟩
 ·exact ⟨cur,(setRow_other w g b cs e).trans h,hc⟩
theorem Own.owns (h:Own k t w b xs) (hc:Zcn t w b cap) {base n:Nat} (hb:base≤b) (hn:xs.length=n) (hm:cap≤maxLen) :
 w.ownsRow base t 1 (.slice (some ⟨b,0,none⟩) n cap) n (xs.map fun x:Nat=>Value.int k (x:Int)):=by
 obtain ⟨tail,_,h⟩:=h
 obtain ⟨cur,h',hcs⟩:=hc
 rw [h] at h'
 injection h' with h'
 injection h' with h'
 subst h'
 subst hn
 rw [ZdV] at hcs
 refine ⟨by simp,Or.inr ⟨b,cap,_,rfl,hb,h,by omega,hm,by rw [ZdV]; omega,?_⟩⟩
 simp [Zbq]
def Zbl (t:TypeId) (b:Nat) (w w':World):Prop:=∀ cap,Zcn t w b cap→Zcn t w' b cap
theorem Zbl.refl (t:TypeId) (b:Nat) (w:World):Zbl t b w w:=fun _ h=>h
theorem Zbl.setCell (h:Zbl t b w w') (g i:Nat) (u:Value):Zbl t b w (w'.setCell ⟨g,i,none⟩ u):=fun cap hc=>(h cap hc).setCell g i u
theorem Zbl.fr (h:Zbl t b w w') {w'':World} (hf:Fr S w' w'') (hs:¬ S b):Zbl t b w w'':=fun cap hc=>(h cap hc).fr hf hs
end
theorem ZfL (k:IntKind) (n:Nat):madeCells #[.int k 0] n=Zbq k (List.replicate n 0) []:=by
 apply Array.ext
 ·simp [madeCells,Zbq]
 ·intro i h1 h2
  simp [madeCells,Zbq,Nat.mod_one]
theorem ZbR {P:Program} {w:World} {ops:Array Oper} {rest:List Oper} {o:Oper} {a:Act} {Q:Exit→Act→World→Prop}
 (hg:o.guard=none) (l c:Operand) (t:TypeId) (hop:o.op=Op.makeSlice t l c) (e:TypeId) (k:IntKind) (bytes:Nat) (ht:P.underlying t=some (.slice e))
 (hinfo:(P.info? e).map (fun i=>(i.zero,i.size,i.bytes))=some (some (.int k 0),1,bytes)) (kl kc:IntKind) (ni mi:Int) (n:Nat) (hl:a.eval l=.int kl ni) (hc:a.eval c=.int kc mi) (hn:ni=(n:Nat)) (hmi:mi=(n:Nat))
 (hbytes:bytes * n≤281474976710656) (h63:n≤9223372036854775807)
 (hK:∀ (b:Nat) (w':World),w.heap.size=b→Own k e w' b (List.replicate n 0)→Zcn e w' b n→Ext w w'→w'.heap.size=b + 1→wpList P ops Q rest (a.put o.dst (.slice (some ⟨b,0,none⟩) n n)) w') :
 wpList P ops Q (o :: rest) a w:=by
 subst hn hmi
 refine wpList_plain hg fun K hK'=>?_
 have hrun:=run_make_row' (P:=P) t e (.int k 0) bytes ht hinfo rfl kl kc n hbytes h63 w
 rw [ZfL] at hrun
 unfold Oper.wp
 simp [execOp,hop,hl,hc,hrun,Result.andThen]
 exact hK' _ _ (hK _ _ rfl (Own.new w e k _ _) ⟨_,heap_alloc_new w _,by simp [ZdV]⟩ ((Fr.refl _ w).alloc _) (by simp))
theorem Fr.setRow {S:Nat→Prop} {w w':World} (h:Fr S w w') {g:Nat} (hg:S g∨w.heap.size≤g) (cs:Array Value):Fr S w (w'.setRow g cs) :=
 h.next (T:=fun i=>i=g) ⟨rfl,rfl,rfl,by simp [World.setRow],fun i _ hs=>setRow_other w' g i cs hs⟩
  (fun i hi he=>by rcases hg with hg | hg; · exact he ▸ hg
                   ·omega)
theorem Zkj {P:Program} {w:World} {o:Oper} {a:Act} {K:Act→World→Prop} {Q:Exit→Act→World→Prop}
 (d s:Operand) (dT sT:TypeId) (ho:o.op=.call { callee:=.builtin .copy,args:=#[d,s],argTypes:=#[dT,sT] }) (e:TypeId) (k:IntKind)
 (hu:P.underlying dT=some (.slice e)) (hsz:(P.info? e).map (·.size)=some 1) (dp sp:Option Addr) (n m dCap sCap:Nat) (hd:a.eval d=.slice dp n dCap) (hs:a.eval s=.slice sp m sCap)
 (b z:Nat) (pre mid post ys:List Nat) (hz:Nat.min ys.length mid.length=z) (hn:mid.length=n) (hm:ys.length=m) (hO:Own k e w b (pre ++ mid ++ post)) (hY:Zae k w sp ys) (hdp:0 < mid.length→dp=some ⟨b,pre.length,none⟩)
 (h:∀ w',Own k e w' b (pre ++ (ys.take mid.length ++ mid.drop ys.length) ++ post)→Zbl e b w w'→Fr (· = b) w w'→w'.heap.size=w.heap.size→K (a.put o.dst (goInt z)) w') :
 o.wp P a w K Q:=by
 subst hn hm
 by_cases h0:Nat.min ys.length mid.length=0
 ·have:ys.take mid.length ++ mid.drop ys.length=mid:=by
   rcases (by simp only [Nat.min_def] at h0; split at h0<;>omega:ys.length=0∨mid.length=0) with h1 | h1
   ·rw [List.length_eq_zero_iff.1 h1]; simp
   ·rw [List.length_eq_zero_iff.1 h1]; simp
  have hh:=h w (by rw [this]; exact hO) (fun _ hc=>hc) (Fr.refl _ _) rfl
  rw [← hz,h0] at hh
  have hrun:=run_copy_none (P:=P) w dT sT o.type e dp sp mid.length dCap ys.length sCap hu hsz h0
  unfold Oper.wp
  simp [execOp,ho,resolve,invoke,builtin,hd,hs,hrun,Result.andThen]
  exact hh
 ·have hmin:0 < ys.length∧0 < mid.length:=by
   simp only [Nat.min_def] at h0; split at h0<;>omega
  obtain ⟨b2,off2,rfl,hb2,hcs⟩:=hY (by intro e; rw [e] at hmin; simp at hmin)
  have hdp':=hdp hmin.2
  subst hdp'
  obtain ⟨tail,hT,hO⟩:=hO
  have R:(Zbq k (pre ++ mid ++ post) tail).toList.take pre.length ++ (((ys.take mid.length).map fun x:Nat=>Value.int k (x:Int)) ++ (Zbq k (pre ++ mid ++ post) tail).toList.drop (pre.length + ((ys.take mid.length).map fun x:Nat=>Value.int k (x:Int)).length)) =
   ((pre ++ (ys.take mid.length ++ mid.drop ys.length) ++ post).map fun x:Nat=>Value.int k (x:Int)) ++ tail:=by
   simp only [Zbq,List.map_append,List.toList_toArray,List.length_map,List.length_take,List.map_take,List.map_drop,List.append_assoc]
   rw [List.take_append_of_le_length (by simp)]
   rw [show pre.length=(pre.map fun x:Nat=>Value.int k (x:Int)).length by simp,List.take_length]
   congr 2
   rw [List.drop_append,List.drop_of_length_le (by simp)]
   simp only [List.length_map,List.nil_append,Nat.add_sub_cancel_left]
   rcases Nat.le_total ys.length mid.length with hle | hle
   ·rw [Nat.min_eq_right hle,List.drop_append_of_le_length (by simpa using hle)]
   ·rw [Nat.min_eq_left hle,List.drop_append,List.drop_of_length_le (l:=List.map _ mid) (by simp),List.drop_of_length_le (l:=List.map _ mid) (by simpa using hle)]
    simp
  have hsrc:∀ (j:Nat) (v:Value),((ys.take mid.length).map fun x:Nat=>Value.int k (x:Int))[j]? = some v→w.cell? ((⟨b2,off2,none⟩:Addr).add j)=some v:=by
   intro j v hv
   rw [List.getElem?_map] at hv
   obtain ⟨x,hx,rfl⟩:=Option.map_eq_some_iff.1 hv
   have hj:j < (ys.take mid.length).length:=by
    rcases Nat.lt_or_ge j (ys.take mid.length).length with hj | hj
    ·exact hj
    ·rw [List.getElem?_eq_none hj] at hx; cases hx
   rw [List.length_take] at hj
   have hx':ys[j]? = some x:=by rw [← hx,List.getElem?_take_of_lt (by omega)]
   have:=hcs j (by omega)
   rw [hx'] at this
   by_cases e0:j=0
   ·subst e0; simpa [Addr.add] using this
   ·simpa [Addr.add,e0] using this
  have hrun:=run_copy_row (P:=P) w dT sT o.type e b pre.length mid.length dCap ⟨b2,off2,none⟩ ys.length sCap _ e ((ys.take mid.length).map fun x:Nat=>Value.int k (x:Int)) hu hsz hO (by simp [Nat.min_comm]) hsrc (by simp [Zbq]; omega) (fun v hv=>by obtain ⟨x,_,rfl⟩:=List.mem_map.1 hv; rfl)
  rw [show goInt ((ys.take mid.length).map fun x:Nat=>Value.int k (x:Int)).length=goInt z by rw [← hz]; simp [Nat.min_comm]] at hrun
  generalize hw1:w.setRow _ _=w1 at hrun
  unfold Oper.wp
  simp [execOp,ho,resolve,invoke,builtin,hd,hs,hrun,Result.andThen]
  subst hw1
  refine h _ ?_ ?_ ((Fr.refl (· = b) w).setRow (Or.inl rfl) _) (by simp [World.setRow])
  ·refine ⟨tail,hT,?_⟩
   rw [setRow_heap w b _ _ e _ hO,List.append_assoc,R]
   rfl
  ·intro cap hc
   refine hc.setRow b _ (fun _=>?_)
   obtain ⟨cur,h1,h2⟩:=hc
   rw [hO] at h1
   injection h1 with h1
   injection h1 with h1
   rw [← h2,← h1,List.append_assoc,R,ZdV]
   simp
   omega
theorem ZgU {P:Program} {w:World} {ops:Array Oper} {rest:List Oper} {o:Oper} {a:Act} {Q:Exit→Act→World→Prop}
 (hgd:o.guard=none) (d s:Operand) (dT sT:TypeId) (ho:o.op=.call { callee:=.builtin .copy,args:=#[d,s],argTypes:=#[dT,sT] }) (e:TypeId) (k:IntKind)
 (hu:P.underlying dT=some (.slice e)) (hsz:(P.info? e).map (·.size)=some 1) (dp sp:Option Addr) (n m dCap sCap:Nat) (hd:a.eval d=.slice dp n dCap) (hs:a.eval s=.slice sp m sCap)
 (b z:Nat) (pre mid post ys:List Nat) (hz:Nat.min ys.length mid.length=z) (hn:mid.length=n) (hm:ys.length=m) (hO:Own k e w b (pre ++ mid ++ post)) (hY:Zae k w sp ys) (hdp:0 < mid.length→dp=some ⟨b,pre.length,none⟩)
 (h:∀ w',Own k e w' b (pre ++ (ys.take mid.length ++ mid.drop ys.length) ++ post)→Zbl e b w w'→Fr (· = b) w w'→w'.heap.size=w.heap.size→wpList P ops Q rest (a.put o.dst (goInt z)) w') :
 wpList P ops Q (o :: rest) a w:=by
 exact wpList_plain hgd fun K hK=>Zkj d s dT sT ho e k hu hsz dp sp n m dCap sCap hd hs b z pre mid post ys hz hn hm hO hY hdp fun w' h1 h2 h3 h4=>hK _ _ (h w' h1 h2 h3 h4)
theorem ZeC {P:Program} {w:World} {ops:Array Oper} {rest:List Oper} {o:Oper} {a:Act} {Q:Exit→Act→World→Prop}
 (hgd:o.guard=none) (d s:Operand) (dT sT:TypeId) (ho:o.op=.call { callee:=.builtin .copy,args:=#[d,s],argTypes:=#[dT,sT] }) (e:TypeId) (k:IntKind)
 (hu:P.underlying dT=some (.slice e)) (hsz:(P.info? e).map (·.size)=some 1) (dp sp:Option Addr) (n m dCap sCap:Nat) (hd:a.eval d=.slice dp n dCap) (hs:a.eval s=.slice sp m sCap)
 (b:Nat) (pre mid post ys:List Nat) (hn:mid.length=n) (hm:ys.length=m) (hO:Own k e w b (pre ++ mid ++ post)) (hY:Zae k w sp ys) (hdp:0 < mid.length→dp=some ⟨b,pre.length,none⟩)
 (h:∀ w' z,Own k e w' b (pre ++ (ys.take mid.length ++ mid.drop ys.length) ++ post)→Zbl e b w w'→Fr (· = b) w w'→w'.heap.size=w.heap.size→wpList P ops Q rest (a.put o.dst z) w') :
 wpList P ops Q (o :: rest) a w:=by
 exact ZgU hgd d s dT sT ho e k hu hsz dp sp n m dCap sCap hd hs b _ pre mid post ys rfl hn hm hO hY hdp fun w'=>h w' _
end Go.Proofs.YtenchljfmfgeoaaGreatDoor

namespace Go.Proofs.YtenchljfmfgeoaaGreatDoor
open Go.RowKit
def Buf (k:IntKind) (e:TypeId) (w:World) (A:Option Addr) (cap:Nat) (xs:List Nat):Prop :=
 (A=none∧xs=[]∧cap=0)∨∃ b,A=some ⟨b,0,none⟩∧Own k e w b xs∧Zcn e w b cap∧xs.length≤cap∧cap≤maxLen
def ZaC (A:Option Addr) (i:Nat):Prop:=∃ a,A=some a∧a.block=i
section
variable {S:Nat→Prop} {k:IntKind} {e:TypeId} {w w':World} {A:Option Addr} {cap:Nat} {xs:List Nat}
theorem Buf.nil:Buf k e w none 0 []:=Or.inl ⟨rfl,rfl,rfl⟩
theorem Buf.fr (h:Buf k e w A cap xs) (hf:Fr S w w') (hs:∀ b,ZaC A b→¬ S b):Buf k e w' A cap xs:=by
 rcases h with h | ⟨b,rfl,h1,h2,h3⟩
 ·exact Or.inl h
 ·have:=hs b ⟨_,rfl,rfl⟩
  exact Or.inr ⟨b,rfl,h1.fr hf this,h2.fr hf this,h3⟩
theorem Buf.ext (h:Buf k e w A cap xs) (hf:Ext w w'):Buf k e w' A cap xs:=h.fr hf (fun _ _ f=>f)
theorem Buf.shows (h:Buf k e w A cap xs):Zae k w A xs:=by
 rcases h with ⟨_,rfl,_⟩ | ⟨b,rfl,h1,_⟩
 ·exact Zae.nil
 ·exact h1.shows0
theorem Buf.len (h:Buf k e w A cap xs):xs.length≤cap:=by
 rcases h with ⟨_,rfl,rfl⟩ | ⟨b,rfl,_,_,h,_⟩
 ·exact Nat.le_refl _
 ·exact h
theorem Buf.lt (h:Buf k e w A cap xs) {b:Nat} (hb:ZaC A b):b < w.heap.size:=by
 rcases h with ⟨rfl,_,_⟩ | ⟨b',rfl,h1,_⟩
 ·obtain ⟨a,ha,_⟩:=hb; cases ha
 ·obtain ⟨a,ha,rfl⟩:=hb; injection ha with ha; subst ha; exact h1.lt
theorem Buf.owns (h:Buf k e w A cap xs) {base n:Nat} (hb:∀ b,ZaC A b→base≤b) (hn:xs.length=n) :
 w.ownsRow base e 1 (.slice A n cap) n (xs.map fun x:Nat=>Value.int k (x:Int)):=by
 rcases h with ⟨rfl,rfl,rfl⟩ | ⟨b,rfl,h1,h2,h3,h4⟩
 ·subst hn; exact ⟨rfl,Or.inl ⟨rfl,rfl⟩⟩
 ·exact h1.owns h2 (hb b ⟨_,rfl,rfl⟩) hn h4
theorem Buf.of_owns {base n:Nat} (h:w.ownsRow base e 1 (.slice A n cap) n (xs.map fun x:Nat=>Value.int k (x:Int))) (hk:∀ b,ZaC A b→Ziu (IsK k) w b):Buf k e w A cap xs:=by
 obtain ⟨h1,h2⟩:=h
 rcases h2 with ⟨hv,rfl⟩ | ⟨g,cap',cur,hv,hg,hh,hnc,hcm,hcs,htake⟩
 ·injection hv with hA _ hc
  exact Or.inl ⟨hA,by simpa using h1,hc⟩
 ·injection hv with hA hn' hcap
  subst hA hcap
  simp only [List.length_map,Nat.mul_one] at h1
  refine Or.inr ⟨g,rfl,⟨cur.toList.drop n,fun v hv=>?_,?_⟩,⟨cur,hh,by simpa using hcs⟩,by omega,hcm⟩
  ·obtain ⟨cur2,t2,h3,h4⟩:=hk g ⟨_,rfl,rfl⟩
   rw [hh] at h3
   injection h3 with h3; injection h3 with h3
   subst h3
   exact h4 v (List.mem_of_mem_drop hv)
  ·rw [hh]
   congr 2
   rw [Nat.mul_one] at htake
   simp only [Zbq]
   rw [← htake,List.take_append_drop]
theorem Buf.all (h:Buf k e w A cap xs) {b:Nat} (hb:ZaC A b):Ziu (IsK k) w b:=by
 rcases h with ⟨rfl,_,_⟩ | ⟨b',rfl,h1,_⟩
 ·obtain ⟨a,ha,_⟩:=hb; cases ha
 ·obtain ⟨a,ha,rfl⟩:=hb; injection ha with ha; subst ha; exact h1.all
end
theorem ZgY {P:Program} (w:World) (base:Nat) (t ty e:TypeId) (i:TypeInfo) (ht:P.underlying t=some (.slice e)) (hi:P.info? e=some i)
 (v:Value) (n:Nat) (xs:List Value) (hown:w.ownsRow base e 1 v n xs) (c:Nat):(Builtin.append_ #[t,t] ty #[v, .slice none 0 c]).run P w=.ok v w:=by
 rcases hown.2 with ⟨rfl,rfl⟩ | ⟨g,cap,cur,rfl,_,_,hnc,_⟩
 ·simp [Builtin.append_,run_underlying ht,sizeOf,typeInfo,hi,Builtin.lenOf,Builtin.firstCells]
 ·simp [Builtin.append_,run_underlying ht,sizeOf,typeInfo,hi,Builtin.lenOf,Builtin.firstCells,hnc,storeCells]
theorem ZhX (Z:Option Addr) (z1 z2 b:Nat):(Value.slice Z z1 z2).ownBlock=some b ↔ ZaC Z b:=by
 cases Z with
 | none=>simp [Value.ownBlock,ZaC]
 | some a=>simp [Value.ownBlock,ZaC]
theorem Zid {P:Program} (p:Value→Prop) (w:World) (t ty e:TypeId) (i:TypeInfo) (z:Value) (bytes:Nat) (ht:P.underlying t=some (.slice e)) (hi:P.info? e=some i) (hz:i.zero=some z)
 (hsize:i.size=1) (hby:i.bytes=bytes) (hzs:z.cells.size=1) (v:Value) (n:Nat) (xs:List Value) (hown:w.ownsRow 0 e 1 v n xs)
 (a:Addr) (m c:Nat) (news:List Value) (hl:news.length=m * 1) (hnews:∀ j u,news[j]? = some u→w.cell? (a.add j)=some u) (h1:∀ u ∈ news,u.oneCell'=true)
 (h63:n + m≤maxLen) (hbytes:(n + m) * bytes≤140737488355328)
 (hp:∀ g,v.ownBlock=some g→Ziu p w g) (hpn:∀ u ∈ news,p u) (hpz:∀ u ∈ z.cells.toList,p u) :
 ∃ v' w',(Builtin.append_ #[t,t] ty #[v, .slice (some a) m c]).run P w=.ok v' w'∧w'.ownsRow 0 e 1 v' (n + m) (xs ++ news)∧w.grownBy w' v.ownBlock ∧
   (v'.ownBlock=v.ownBlock∨v'.ownBlock=some w.heap.size)∧∀ g,v'.ownBlock=some g→Ziu p w' g:=by
 obtain ⟨v',w',hrun,h2,h3,h4,h5⟩:=run_append_own_at (P:=P) w 0 t ty e i z 1 bytes ht hi hz hsize hby hzs (by omega) v n xs hown a m c news hl hnews h1 h63 hbytes (Nat.zero_le _)
 refine ⟨v',w',hrun,h2,h3,h5,fun g' hg'=>?_⟩
 have hsmall:n + m≤9223372036854775807:=by simp only [maxLen] at h63; omega
 have hzc:∀ q,∀ u ∈ (Builtin.zeroCells z.cells q).toList,p u:=by
  intro q u hu
  rw [Array.mem_toList_iff] at hu
  simp only [Builtin.zeroCells] at hu
  obtain ⟨j,_,rfl⟩:=Array.mem_map.1 hu
  apply hpz
  have hlt:j % z.cells.size < z.cells.size:=Nat.mod_lt _ (by omega)
  rw [Array.mem_toList_iff,getElem!_pos z.cells _ hlt]
  exact Array.getElem_mem _
 rcases hown.2 with ⟨rfl,rfl⟩ | ⟨g,cap,cur,rfl,hbg,hg,hnc,hcm,hcs,htake⟩
 ·by_cases hm:m=0
  ·have:=h4.2 ⟨rfl,hm⟩
   subst this
   simp [Value.ownBlock] at hg'
  ·have hr:=run_append_nil (P:=P) w t ty e i z ht hi hz a m c news (by rw [hsize]; exact hl) hnews (by omega) (by omega) (by rw [hby]; simp only [Nat.zero_add] at hbytes; omega)
   rw [hr] at hrun
   injection hrun with hv hw
   subst hv hw
   simp only [Value.ownBlock,Option.some.injEq] at hg'
   subst hg'
   refine ⟨_,e,heap_alloc_new w.drew _,fun u hu=>?_⟩
   simp only [Array.toList_append,List.mem_append] at hu
   rcases hu with hu | hu
   ·exact hpn u hu
   ·exact hzc _ u hu
 ·have hcur:∀ u ∈ cur.toList,p u:=by
   obtain ⟨cur2,t2,k1,k2⟩:=hp g rfl
   rw [hg] at k1
   injection k1 with k1; injection k1 with k1
   subst k1
   exact k2
  by_cases hroom:n + m≤cap
  ·have hr:=run_append_room (P:=P) w t ty e i ht hi g n cap cur hg a m c news (by rw [hsize]; exact hl) hnews h1 hroom (by rw [hsize]; omega)
   rw [hr] at hrun
   injection hrun with hv hw
   subst hv hw
   simp only [Value.ownBlock,Option.some.injEq] at hg'
   subst hg'
   refine ⟨_,e,setRow_heap w g cur _ e _ hg,fun u hu=>?_⟩
   simp only [List.mem_append] at hu
   rcases hu with (hu | hu) | hu
   ·exact hcur u (List.mem_of_mem_take hu)
   ·exact hpn u hu
   ·exact hcur u (List.mem_of_mem_drop hu)
  ·have holds:∀ j u,xs[j]? = some u→w.cell? ((⟨g,0,none⟩:Addr).add j)=some u:=hown.cells (g:=g) rfl
   have hr:=run_append_grow (P:=P) w t ty e i z ht hi hz ⟨g,0,none⟩ n cap xs (by rw [hsize]; exact hown.1) holds a m c news (by rw [hsize]; exact hl) hnews (by omega) (by omega) (growslice_fits (by omega) (by rw [hby]; exact hbytes))
   rw [hr] at hrun
   injection hrun with hv hw
   subst hv hw
   simp only [Value.ownBlock,Option.some.injEq] at hg'
   subst hg'
   refine ⟨_,e,heap_alloc_new w.drew _,fun u hu=>?_⟩
   simp only [Array.toList_append,List.mem_append] at hu
   rcases hu with (hu | hu) | hu
   ·rw [← htake] at hu; exact hcur u (List.mem_of_mem_take hu)
   ·exact hpn u hu
   ·exact hzc _ u hu
theorem Ze1 {P:Program} (w:World) (t ty e:TypeId) (k:IntKind) (bytes:Nat) (ht:P.underlying t=some (.slice e))
 (hinfo:(P.info? e).map (fun i=>(i.zero,i.size,i.bytes))=some (some (.int k 0),1,bytes)) (A X:Option Addr) (n m cap c:Nat) (xs news:List Nat) (hn:xs.length=n) (hm:news.length=m)
 (hB:Buf k e w A cap xs) (hX:Zae k w X news) (h63:n + m≤maxLen) (hbytes:(n + m) * bytes≤140737488355328) :
 ∃ A' cap' w',(Builtin.append_ #[t,t] ty #[.slice A n cap, .slice X m c]).run P w=.ok (.slice A' (n + m) cap') w'∧Buf k e w' A' cap' (xs ++ news)∧Fr (ZaC A) w w' ∧
   (∀ b,ZaC A' b→ZaC A b∨b=w.heap.size):=by
 obtain ⟨i,hi,hz,hs,hby⟩:=info_parts hinfo
 have hown:=hB.owns (base:=0) (fun _ _=>Nat.zero_le _) hn
 rcases X with _ | ad
 ·have h0:news=[]:=by
   rcases news with _ | ⟨y,ys⟩
   ·rfl
   ·obtain ⟨b,off,h,_⟩:=hX (by simp); cases h
  subst h0
  simp only [List.length_nil] at hm
  subst hm
  exact ⟨A,cap,w,ZgY w 0 t ty e i ht hi _ n _ hown c,by simpa using hB,Fr.refl _ _,fun b hb=>Or.inl hb⟩
 ·have hcells:∀ j u,(news.map fun x:Nat=>Value.int k (x:Int))[j]? = some u→w.cell? (ad.add j)=some u:=by
   intro j u hu
   rw [List.getElem?_map] at hu
   obtain ⟨x,hx,rfl⟩:=Option.map_eq_some_iff.1 hu
   have hj:j < news.length:=(List.getElem?_eq_some_iff.1 hx).1
   obtain ⟨b,off,h,_,hc⟩:=hX.at hj
   injection h with h
   subst h
   rw [hx] at hc
   by_cases e0:j=0
   ·subst e0; simpa [Addr.add] using hc
   ·simpa [Addr.add,e0] using hc
  obtain ⟨v',w',hrun,h2,h3,h5,h6⟩:=Zid (P:=P) (IsK k) w t ty e i (.int k 0) bytes ht hi hz hs hby rfl _ n _ hown ad m c (news.map fun x:Nat=>Value.int k (x:Int)) (by simp [hm]) hcells
   (fun u hu=>by obtain ⟨x,_,rfl⟩:=List.mem_map.1 hu; rfl) h63 hbytes (fun g hg=>hB.all ((ZhX _ _ _ _).1 hg)) (fun u hu=>by obtain ⟨x,_,rfl⟩:=List.mem_map.1 hu; exact ⟨_,rfl⟩) (fun u hu=>by simp [Value.cells] at hu; exact ⟨_,hu⟩)
  rw [← List.map_append] at h2
  obtain ⟨A',cap',rfl⟩:∃ A' cap',v'=.slice A' (n + m) cap':=by
   rcases h2.2 with ⟨rfl,h0⟩ | ⟨g,cap',cur,rfl,_⟩
   ·rw [h0]; exact ⟨none,0,rfl⟩
   ·exact ⟨_,cap',rfl⟩
  have hob:=ZhX
  refine ⟨A',cap',w',hrun,Buf.of_owns h2 (fun b hb=>h6 b ((hob _ _ _ _).2 hb)),(Fr.ofGrown h3).mono (fun i _ hh=>(hob _ _ _ _).1 hh),fun b hb=>?_⟩
  rcases h5 with h5 | h5
  ·exact Or.inl ((hob _ _ _ _).1 (h5 ▸ (hob A' (n + m) cap' b).2 hb))
  ·have:=(hob A' (n + m) cap' b).2 hb
   rw [h5] at this
   injection this with this
   exact Or.inr this.symm
theorem Za9 {P:Program} {w:World} {ops:Array Oper} {rest:List Oper} {o:Oper} {a:Act} {Q:Exit→Act→World→Prop} (hgd:o.guard=none) (s x:Operand) (t:TypeId)
 (ho:o.op=.call { callee:=.builtin .append,args:=#[s,x],argTypes:=#[t,t] }) (e:TypeId) (k:IntKind) (bytes:Nat) (ht:P.underlying t=some (.slice e))
 (hinfo:(P.info? e).map (fun i=>(i.zero,i.size,i.bytes))=some (some (.int k 0),1,bytes)) (A X:Option Addr) (n m cap c:Nat) (hs:a.eval s=.slice A n cap) (hx:a.eval x=.slice X m c)
 (xs news:List Nat) (hn:xs.length=n) (hm:news.length=m) (hB:Buf k e w A cap xs) (hX:Zae k w X news) (h63:n + m≤maxLen) (hbytes:(n + m) * bytes≤140737488355328)
 (h:∀ A' cap' w',Buf k e w' A' cap' (xs ++ news)→Fr (ZaC A) w w'→(∀ b,ZaC A' b→ZaC A b∨b=w.heap.size)→wpList P ops Q rest (a.put o.dst (.slice A' (n + m) cap')) w'):wpList P ops Q (o :: rest) a w:=by
 refine wpList_plain hgd fun _ hK=>?_
 obtain ⟨A',cap',w',hrun,h2,h3,h4⟩:=Ze1 (P:=P) w t o.type e k bytes ht hinfo A X n m cap c xs news hn hm hB hX h63 hbytes
 unfold Oper.wp execOp
 simp only [ho,resolve,invoke,builtin,Sem.run_bind,Sem.run_pure,Result.andThen_ok,List.map_toArray,List.map_cons,List.map_nil,hs,hx,hrun]
 exact hK _ _ (h A' cap' w' h2 h3 h4)
end Go.Proofs.YtenchljfmfgeoaaGreatDoor

namespace Go.Proofs.YtenchljfmfgeoaaGreatDoor
open Go.RowKit
def Blk (t:TypeId) (w:World) (g:Nat) (cs:Array Value):Prop:=w.heap[g]? = some (.cells cs t (0,0))
section
variable {S:Nat→Prop} {w w':World} {g:Nat} {t:TypeId} {cs:Array Value}
theorem Blk.lt (h:Blk t w g cs):g < w.heap.size:=by
 rcases Nat.lt_or_ge g w.heap.size with hlt | hge
 ·exact hlt
 ·unfold Blk at h; rw [Array.getElem?_eq_none hge] at h; cases h
theorem Blk.cell (h:Blk t w g cs) (i:Nat):w.cell? ⟨g,i,none⟩=cs[i]? := cell_of_row w g i cs t (0,0) h
theorem Blk.frozen (h:Blk t w g cs) (i:Nat):w.frozen? ⟨g,i,none⟩=false:=by
 unfold Blk at h
 simp [World.frozen?,h]
theorem Blk.new (w:World) (t:TypeId) (cs:Array Value):Blk t (w.alloc (.cells cs t)) w.heap.size cs:=heap_alloc_new w _
theorem Blk.set_ (h:Blk t w g cs) (i:Nat) (u:Value):Blk t (w.setCell ⟨g,i,none⟩ u) g (cs.setIfInBounds i u):=by
 unfold Blk at h ⊢
 simp [World.setCell,Array.getElem?_modify,h]
theorem Blk.far (h:Blk t w g cs) {p:Addr} (hp:g≠p.block) (u:Value):Blk t (w.setCell p u) g cs:=(Below.heap_setCell w p u g hp).trans h
theorem Blk.fr (h:Blk t w g cs) (hf:Fr S w w') (hs:¬ S g):Blk t w' g cs:=(hf.block g h.lt hs).trans h
theorem Blk.ext (h:Blk t w g cs) (hf:Ext w w'):Blk t w' g cs:=h.fr hf (fun f=>f)
theorem Blk.alloc (h:Blk t w g cs) (o:Obj):Blk t (w.alloc o) g cs:=h.ext ((Fr.refl _ w).alloc o)
theorem Blk.drewN (h:Blk t w g cs) (n:Nat):Blk t (w.drewN n) g cs:=h
end
end Go.Proofs.YtenchljfmfgeoaaGreatDoor

namespace Go.Proofs.YtenchljfmfgeoaaGreatDoor
open Go.RowKit
section
variable {p:Value→Prop} {S:Nat→Prop} {e:TypeId} {w w':World} {A:Option Addr} {cap:Nat} {vs:List Value}
end
end Go.Proofs.YtenchljfmfgeoaaGreatDoor
