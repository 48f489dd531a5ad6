/-
 My texts Sx, Sx2, Sx3, Sx4 put together.
-/
import Derived.Test.YtenchljfmfgeoaaGreatDoorL01
import Derived.OrdersHeld
import Derived.StillTail
set_option maxRecDepth 100000
namespace Go.Proofs.YtenchljfmfgeoaaGreatDoor
open Go.RowKit
inductive AV where
 | v (x:Value)
 | p (b off:Nat)
def AV.conc (L:Nat→Nat):AV→Value
 | .v x=>x
 | .p b off=>.pointer (some ⟨L b,off,none⟩)
structure St where
 sl:Nat→Option AV
 bl:Nat→Option (TypeId × List AV)
def upd {α:Type} (f:Nat→Option α) (k:Nat) (x:α):Nat→Option α:=fun i=>bif Nat.beq i k then some x else f i
theorem Zbv {α:Type} (f:Nat→Option α) (k:Nat) (x:α):upd f k x k=some x:=by simp [upd]
theorem Za3 {α:Type} (f:Nat→Option α) {k i:Nat} (x:α) (h:i≠k):upd f k x i=f i:=by
 have:Nat.beq i k=false:=Bool.eq_false_iff.2 (fun e=>h (Nat.eq_of_beq_eq_true e))
 simp [upd,this]
theorem Zgd {α:Type} (f:Nat→Option α) {k i:Nat} (x y:α) (h:i≠k):upd (upd f k x) i y=upd (upd f i y) k x:=by
 funext j
 by_cases h1:j=i
 ·subst h1; rw [Zbv,Za3 _ _ h,Zbv]
 ·rw [Za3 _ _ h1]
  by_cases h2:j=k
  ·subst h2; rw [Zbv,Zbv]
  ·rw [Za3 _ _ h2,Za3 _ _ h2,Za3 _ _ h1]
def Zco:AV→Bool
 | .p _ _=>true
 | .v (.bool _)=>true
 | .v (.int .i64 _)=>true
 | .v (.string _)=>true
 | .v (.pointer _)=>true
 | .v (.slice _ _ _)=>true
 | .v (.map _)=>true
 | .v (.func _ _ _)=>true
 | .v .nilFunc=>true
 | .v (.iface _ _)=>true
 | .v .nilIface=>true
 | _=>false
theorem Zog {x:AV} (L:Nat→Nat) (h:Zco x=true):(x.conc L).oneCell'=true:=by
 cases x with
 | p b off=>rfl
 | v x=>cases x<;>first | rfl | (simp [Zco] at h; done)
theorem Zoh {x:AV} {L:Nat→Nat} {k:IntKind} {z:Int} (h:Zco x=true) (e:x.conc L=.int k z):k=.i64:=by
 cases x with
 | p b off=>simp [AV.conc] at e
 | v x =>
   simp only [AV.conc] at e
   subst e
   cases k<;>simp [Zco] at h ⊢
structure MemI (S0:Nat→Prop) (w0:World) (s:St) (L:Nat→Nat) (w:World):Prop where
 blk:∀ b t cs,s.bl b=some (t,cs)→Blk t w (L b) (cs.map (AV.conc L)).toArray
 inj:∀ b c,(s.bl b).isSome=true→(s.bl c).isSome=true→L b=L c→b=c
 old:∀ b,(s.bl b).isSome=true→w0.heap.size≤L b∨S0 (L b)
 ext:Fr S0 w0 w
 slp:∀ i b off,s.sl i=some (.p b off)→(s.bl b).isSome=true
 cel:∀ b t cs,s.bl b=some (t,cs)→∀ x,x ∈ cs→Zco x=true∧∀ c off,x=.p c off→(s.bl c).isSome=true
def Box (S:Nat→Prop) (w:World) (Φ:World→Prop):Prop:=∀ w',Fr S w w'→Φ w'
theorem Box.self {S:Nat→Prop} {w:World} {Φ:World→Prop} (h:Box S w Φ):Φ w:=h w (Fr.refl _ _)
theorem Box.fr {S:Nat→Prop} {w w':World} {Φ:World→Prop} (h:Box S w Φ) (hf:Fr S w w'):Box S w' Φ:=fun w'' h'=>h w'' (hf.trans h')
theorem Box.ext {S:Nat→Prop} {w w':World} {Φ:World→Prop} (h:Box S w Φ) (hf:Ext w w'):Box S w' Φ:=h.fr (hf.mono (fun _ _ f=>f.elim))
theorem Box.and {S:Nat→Prop} {w:World} {Φ Ψ:World→Prop} (h:Box S w Φ) (k:Box S w Ψ):Box S w (fun w=>Φ w∧Ψ w):=fun w' hf=>⟨h w' hf,k w' hf⟩
theorem Box.mono {S:Nat→Prop} {w:World} {Φ Ψ:World→Prop} (h:Box S w Φ) (k:∀ w,Φ w→Ψ w):Box S w Ψ:=fun w' hf=>k _ (h w' hf)
def St.own (s:St) (L:Nat→Nat):Nat→Prop:=fun i=>∃ b,(s.bl b).isSome=true∧L b=i
structure Inv (N:Nat) (S0:Nat→Prop) (w0:World) (s:St) (Φ:World→Prop) (L:Nat→Nat) (a:Act) (w:World):Prop where
 size:a.tmps.size=N
 df:a.defers=[]
 sl:∀ i x,s.sl i=some x→a.tmps[i]? = some (x.conc L)
 mem:MemI S0 w0 s L w
 box:Box (s.own L) w Φ
def St.eval (s:St):Operand→Option AV
 | .tmp t=>s.sl t
 | .const v=>some (.v v)
 | .global g=>some (.v (.pointer (some ⟨g,0,none⟩)))
 | .func f=>some (.v (.func (.func f) #[] #[]))
section
variable {N:Nat} {S0:Nat→Prop} {w0:World} {s:St} {Φ:World→Prop} {L:Nat→Nat} {a:Act} {w:World} {P:Program} {ops:Array Oper}
theorem Inv.eval (h:Inv N S0 w0 s Φ L a w) {x:Operand} {y:AV} (hx:s.eval x=some y):a.eval x=y.conc L:=by
 cases x with
 | tmp t=>have:=h.sl t y hx; simp [Act.eval,this]
 | const v=>simp only [St.eval,Option.some.injEq] at hx; subst hx; rfl
 | global g=>simp only [St.eval,Option.some.injEq] at hx; subst hx; rfl
 | func f=>simp only [St.eval,Option.some.injEq] at hx; subst hx; rfl
theorem MemI.evp (h:MemI S0 w0 s L w) {x:Operand} {b off:Nat} (hx:s.eval x=some (.p b off)):(s.bl b).isSome=true:=by
 cases x with
 | tmp t=>exact h.slp t b off hx
 | const v=>simp [St.eval] at hx
 | global g=>simp [St.eval] at hx
 | func f=>simp [St.eval] at hx
def St.rho (s:St):Operand→Value:=fun x=>match s.eval x with | some (.v y)=>y | _=>undef
def St.vB (s:St) (x:Operand):Bool:=match s.eval x with | some (.v _)=>true | _=>false
theorem ZfO {x:Operand} (h:s.vB x=true):s.eval x=some (.v (s.rho x)):=by
 unfold St.vB at h; unfold St.rho
 split at h
 ·rename_i y e; rw [e]
 ·cases h
def ZbK:Op→Bool
 | .select _ _=>false
 | _=>true
theorem Inv.rho (h:Inv N S0 w0 s Φ L a w) {l:List Operand} (hl:l.all s.vB=true) {x:Operand} (hx:x ∈ l):a.eval x=s.rho x :=
 h.eval (ZfO (List.all_eq_true.1 hl x hx))
theorem Inv.exec (h:Inv N S0 w0 s Φ L a w) {o:Oper} (hs:ZbK o.op=true) (hl:o.op.operands.toList.all s.vB=true):execOp a.eval o=execOp s.rho o :=
 execOp_congr o (fun cs b e=>by rw [e] at hs; cases hs) (fun x hx=>h.rho hl (by simpa using hx))
def ZeN (P:Program) {α:Type}:Sem α→Option α
 | .pure a=>some a
 | .program k=>ZeN P (k P)
 | .mark _ k=>ZeN P k
 | _=>none
theorem ZfC {α:Type} {x:Sem α} {y:α} (h:ZeN P x=some y) (w:World):x.run P w=.ok y w:=by
 induction x with
 | pure a=>simp only [ZeN,Option.some.injEq] at h; subst h; rfl
 | program k ih=>exact ih P h
 | mark m k ih=>exact ih h
 | _=>simp [ZeN] at h
structure TE where
 size:Nat
 agg:Bool
 zero:List Value
 offs:List (Option Nat)
def ZkN (P:Program) (f:Field):Option Nat :=
 match P.info? f.type with
 | some j=>bif Nat.beq j.size 0 then none else some f.offset
 | none=>none
def ZiC (P:Program):TypeDesc→List (Option Nat)
 | .struct fs=>fs.toList.map (ZkN P)
 | _=>[]
def ZqH:TypeDesc→Bool
 | .struct _=>true
 | .array _ _=>true
 | _=>false
def teOf (P:Program) (t:TypeId):Option TE :=
 match P.info? t,P.underlying t with
 | some i,some d =>
   match i.zero with
   | some z=>some ⟨i.size,ZqH d,z.cells.toList,ZiC P d⟩
   | none=>none
 | _,_=>none
theorem Zfg {t:TypeId} {e:TE} (h:teOf P t=some e):∃ i d z,P.info? t=some i∧P.underlying t=some d∧i.zero=some z∧e.size=i.size∧e.zero=z.cells.toList ∧
 e.agg=ZqH d∧e.offs=ZiC P d:=by
 unfold teOf at h
 split at h
 ·rename_i i d hi hd
  split at h
  ·rename_i z hz
   injection h with h
   subst h
   exact ⟨i,d,z,hi,hd,hz,rfl,rfl,rfl,rfl⟩
  ·cases h
 ·cases h
theorem ZiD {t:TypeId} {e:TE} (h:teOf P t=some e):(sizeOf t).run P w=.ok e.size w:=by
 obtain ⟨i,d,z,hi,hd,hz,hs,_⟩:=Zfg h
 simp [sizeOf,typeInfo,hi,hs]
theorem ZjO {t:TypeId} {e:TE} (h:teOf P t=some e):(isAgg t).run P w=.ok e.agg w:=by
 obtain ⟨i,d,z,hi,hd,hz,hs,hz',ha,_⟩:=Zfg h
 simp only [isAgg,underlying,Sem.run_bind,run_program,Result.andThen_ok,hd,Sem.run_pure,ha]
 cases d<;>rfl
theorem ZcG (g off n:Nat):(⟨g,off,none⟩:Addr).add n=⟨g,off + n,none⟩:=by
 unfold Addr.add
 split
 ·subst_vars; rfl
 ·rfl
theorem ZgP {g off:Nat}:∀ (cs:List Value) (i:Nat) (acc:Array Value),(∀ j,j < cs.length→w.cell? ⟨g,off + (i + j),none⟩=some (cs[j]?.getD undef)) →
 (loadCellsFrom ⟨g,off,none⟩ i cs.length acc).run P w=.ok (acc ++ cs.toArray) w
 | [],i,acc,_=>by simp [loadCellsFrom]
 | c :: cs,i,acc,h=>by
   have h0:=h 0 (by simp)
   simp only [Nat.add_zero,List.getElem?_cons_zero,Option.getD_some] at h0
   have ih:=ZgP (g:=g) (off:=off) cs (i + 1) (acc.push c) (fun j hj=>by
    have:=h (j + 1) (by simp; omega)
    simp only [List.getElem?_cons_succ] at this
    rw [← this]; congr 2; omega)
   simp only [List.length_cons,loadCellsFrom,Sem.run_bind,run_load,ZcG,h0,Result.andThen_ok,ih]
   simp
theorem ZeE {t:TypeId} {e:TE} (h:teOf P t=some e) {g off:Nat} {cs:List Value} (hn:cs.length=e.size) (hc:∀ j,j < cs.length→w.cell? ⟨g,off + j,none⟩=some (cs[j]?.getD undef)) (ha:e.agg=true) :
 (Instr.loadAt t (.pointer (some ⟨g,off,none⟩))).run P w=.ok (.agg cs.toArray) w:=by
 have:=ZgP (P:=P) (w:=w) (g:=g) (off:=off) cs 0 #[] (fun j hj=>by rw [Nat.zero_add]; exact hc j hj)
 simp only [Instr.loadAt,Instr.sureAddr,Sem.run_bind,Sem.run_pure,Result.andThen_ok,loadVar,ZjO h,ha,if_true,ZiD h,loadCells,← hn,this]
 simp
theorem ZfD {t:TypeId} {e:TE} (h:teOf P t=some e) {g off:Nat} {c:Value} (hc:w.cell? ⟨g,off,none⟩=some c) (ha:e.agg=false) :
 (Instr.loadAt t (.pointer (some ⟨g,off,none⟩))).run P w=.ok c w:=by
 simp only [Instr.loadAt,Instr.sureAddr,Sem.run_bind,Sem.run_pure,Result.andThen_ok,loadVar,ZjO h,ha,Bool.false_eq_true,if_false,run_load,hc]
def Zbf {α:Type} (l:List α) (off:Nat) (cs:List α):List α:=l.take off ++ cs ++ l.drop (off + cs.length)
theorem ZfP {g bt:Nat}:∀ (cs:List Value) (i off:Nat) (cur:List Value) (w:World),Blk bt w g cur.toArray→off + i + cs.length≤cur.length→(∀ c,c ∈ cs→c.oneCell'=true) →
 ∃ w',(storeCells ⟨g,off,none⟩ cs i).run P w=.ok () w'∧Blk bt w' g (Zbf cur (off + i) cs).toArray∧Fr (fun k=>k=g) w w'
 | [],i,off,cur,w,hB,hl,_=>by
   refine ⟨w,by simp [storeCells],?_,Fr.refl _ _⟩
   simpa [Zbf] using hB
 | c :: cs,i,off,cur,w,hB,hl,h1=>by
   simp only [List.length_cons] at hl
   have hc:w.cell? ⟨g,off + i,none⟩=some (cur[off + i]?.getD undef):=by
    rw [hB.cell]
    simp [show off + i < cur.length by omega]
   have hB':=hB.set_ (off + i) c
   have e:(cur.toArray.setIfInBounds (off + i) c)=(cur.set (off + i) c).toArray:=by simp
   rw [e] at hB'
   obtain ⟨w',hr,hb,hf⟩:=ZfP cs (i + 1) off (cur.set (off + i) c) _ hB' (by simp; omega) (fun c hc=>h1 c (by simp [hc]))
   refine ⟨w',?_,?_,((Fr.refl (fun k=>k=g) w).setCell (p:=⟨g,off + i,none⟩) (Or.inl rfl) c).trans hf⟩
   ·simp only [storeCells,Sem.run_bind,ZcG,run_store P w ⟨g,off + i,none⟩ c .plain (h1 c (by simp)),hc,hB.frozen,Bool.false_eq_true,if_false,Result.andThen_ok,hr]
   ·have:Zbf (cur.set (off + i) c) (off + (i + 1)) cs=Zbf cur (off + i) (c :: cs):=by
     unfold Zbf
     rw [show off + (i + 1)=off + i + 1 by omega,List.take_succ_eq_append_getElem (by simp; omega)]
     simp only [List.length_cons,List.getElem_set_self,List.append_assoc,List.cons_append,List.nil_append]
     rw [List.take_set_of_le (by omega),List.drop_set_of_lt (by omega),show off + i + 1 + cs.length=off + i + (cs.length + 1) by omega]
    rw [this] at hb
    exact hb
theorem ZfE {t:TypeId} {e:TE} (h:teOf P t=some e) {g bt off:Nat} {cur:List Value} {v:Value} (hB:Blk bt w g cur.toArray) (hn:v.cells.toList.length=e.size) (hl:off + v.cells.toList.length≤cur.length) (h1:∀ c,c ∈ v.cells.toList→c.oneCell'=true) :
 ∃ w',(Instr.storeAt t (.pointer (some ⟨g,off,none⟩)) v).run P w=.ok () w'∧Blk bt w' g (Zbf cur off v.cells.toList).toArray∧Fr (fun k=>k=g) w w':=by
 obtain ⟨w',hr,hb,hf⟩:=ZfP (P:=P) v.cells.toList 0 off cur w hB (by simpa using hl) h1
 refine ⟨w',?_,by simpa using hb,hf⟩
 have:v.cells.size=e.size:=by simpa using hn
 simp only [Instr.storeAt,Instr.sureAddr,Sem.run_bind,Sem.run_pure,Result.andThen_ok,storeVar,ZiD h,this]
 simpa using hr
theorem Zoi {t:TypeId} {e:TE} (h:teOf P t=some e):(Instr.alloc t true (.tuple #[])).run P w=.ok (.pointer (some ⟨w.heap.size,0,none⟩)) (w.alloc (.cells e.zero.toArray t)):=by
 obtain ⟨i,d,z,hi,hd,hz,hs,hz',_⟩:=Zfg h
 simp [Instr.alloc,zeroValue,typeInfo,hi,hz,newVar,newRow,hz']
theorem Zrc {t:TypeId} {v:Value}:(Instr.box t v).run P w=.ok (.pointer (some ⟨w.heap.size,0,none⟩)) (w.alloc (.cells v.cells t)):=by
 simp [Instr.box,newVar,newRow]
theorem Zoj {t f g off k:Nat} {e:TE} (h:teOf P t=some e) (hk:e.offs[f]? = some (some k)):(Instr.fieldAt t (.pointer (some ⟨g,off,none⟩)) f).run P w=.ok (.pointer (some ⟨g,off + k,none⟩)) w:=by
 obtain ⟨i,d,z,hi,hd,hz,hs,hz',ha,ho⟩:=Zfg h
 rw [ho] at hk
 cases d with
 | struct fs =>
   simp only [ZiC,List.getElem?_map,Array.getElem?_toList,Option.map_eq_some_iff] at hk
   obtain ⟨fl,hfl,hq⟩:=hk
   unfold ZkN at hq
   split at hq
   ·rename_i j hj
    cases hb:Nat.beq j.size 0 with
    | true=>rw [hb] at hq; simp at hq
    | false =>
      rw [hb] at hq
      simp only [cond_false,Option.some.injEq] at hq
      have hj0:j.size≠0:=fun e=>by rw [e] at hb; simp at hb
      simp only [Instr.fieldAt,underlying,Sem.run_bind,run_program,Result.andThen_ok,hd,Sem.run_pure,hfl,Instr.sureAddr,fieldPlace,sizeOf,typeInfo,hj,hj0,if_false,ZcG,hq]
   ·cases hq
 | _=>simp [ZiC] at hk
end
end Go.Proofs.YtenchljfmfgeoaaGreatDoor

namespace Go.Proofs.YtenchljfmfgeoaaGreatDoor
open Go.RowKit
def ZfQ:List AV→Option (List Value)
 | []=>some []
 | .v x :: l=>match ZfQ l with | some m=>some (x :: m) | none=>none
 | .p _ _ :: _=>none
theorem ZlV {l:List AV} {m:List Value} (h:ZfQ l=some m) (L:Nat→Nat):l.map (AV.conc L)=m:=by
 induction l generalizing m with
 | nil=>simp only [ZfQ,Option.some.injEq] at h; subst h; rfl
 | cons x l ih =>
   cases x with
   | p b off=>simp [ZfQ] at h
   | v x =>
     unfold ZfQ at h
     split at h
     ·rename_i m' hm
      injection h with h
      subst h
      simp only [List.map_cons,ih hm,AV.conc]
     ·cases h
def Za6:AV→List AV
 | .v x=>x.cells.toList.map .v
 | .p b off=>[.p b off]
theorem Zg1 (L:Nat→Nat) (x:AV):(Za6 x).map (AV.conc L)=(x.conc L).cells.toList:=by
 cases x with
 | v x=>simp only [Za6,AV.conc,List.map_map]; exact (List.map_congr_left (fun _ _=>rfl)).trans (List.map_id _)
 | p b off=>rfl
theorem mapv (L:Nat→Nat) (l:List Value):(l.map AV.v).map (AV.conc L)=l:=by
 rw [List.map_map]; exact (List.map_congr_left (fun _ _=>rfl)).trans (List.map_id _)
abbrev NewB:=Option (TypeId × List AV)
def St.app (s:St) (d:Nat) (r:AV × NewB):St:={ sl:=upd s.sl d r.1,bl:=match r.2 with | none=>s.bl | some q=>upd s.bl d q }
def St.put (s:St) (d:Nat) (x:AV):St:={ s with sl:=upd s.sl d x }
def St.wantB (s:St) (ops:Array Oper) (o:Oper):Option Bool :=
 match o.guard with
 | none=>some true
 | some (g,want) =>
   match (ops[g]?).bind (·.dst) with
   | none=>none
   | some t=>match s.sl t with
     | some (.v (.bool b))=>some (b == want)
     | some (.v (.tuple _))=>some false
     | _=>none
def Zbs (P:Program) (o:Oper) (s:St):Option AV :=
 bif ZbK o.op && o.op.operands.toList.all s.vB then (match ZeN P (execOp s.rho o) with | some (.value y)=>some (.v y) | _=>none) else none
def Ze3 (P:Program) (s:St) (t:TypeId) (b off:Nat):Option AV :=
 match teOf P t,s.bl b with
 | some e,some (_,cs) =>
   bif e.agg then (bif Nat.ble (off + e.size) cs.length then (match ZfQ ((cs.drop off).take e.size) with | some l=>some (.v (.agg l.toArray)) | none=>none) else none)
   else cs[off]?
 | _,_=>none
def Zek (s:St) (d:Option Nat) (t:TypeId) (cs:List AV):Option (AV × NewB) :=
 match d with
 | some d=>bif (s.bl d).isNone && cs.all Zco then some (.p d 0,some (t,cs)) else none
 | none=>none
def noB (x:Option AV):Option (AV × NewB):=match x with | some y=>some (y,none) | none=>none
def ZbQ (P:Program) (ops:Array Oper) (o:Oper) (s:St):Option (AV × NewB) :=
 match s.wantB ops o with
 | none=>none
 | some false=>some (.v undef,none)
 | some true =>
   match o.op with
   | .move x=>noB (s.eval x)
   | .assign x=>noB (s.eval x)
   | .pick c x y=>match s.eval c with
     | some (.v (.bool b))=>noB (bif b then s.eval x else s.eval y)
     | _=>none
   | .alloc t=>match teOf P t with | some e=>Zek s o.dst t (e.zero.map .v) | none=>none
   | .box t x=>match s.eval x with | some y=>Zek s o.dst t (Za6 y) | none=>none
   | .fieldAddr t x f=>match s.eval x with
     | some (.p b off)=>match teOf P t with
       | some e=>match e.offs[f]? with | some (some k)=>some (.p b (off + k),none) | _=>none
       | none=>none
     | _=>noB (Zbs P o s)
   | .load t x=>match s.eval x with
     | some (.p b off)=>noB (Ze3 P s t b off)
     | _=>none
   | .nilCheck x=>match s.eval x with
     | some (.p b off)=>some (.p b off,none)
     | _=>noB (Zbs P o s)
   | _=>noB (Zbs P o s)
section
variable {N:Nat} {S0:Nat→Prop} {w0:World} {s:St} {Φ:World→Prop} {L:Nat→Nat} {a:Act} {w:World} {P:Program} {ops:Array Oper} {Q:Exit→Act→World→Prop}
theorem Inv.want (h:Inv N S0 w0 s Φ L a w) {o:Oper} {r:Bool} (hw:s.wantB ops o=some r):Region.wanted o (yielded ops a.tmps)=r:=by
 unfold St.wantB at hw
 unfold Region.wanted
 split at hw
 ·rename_i e; rw [e]; injection hw
 ·rename_i g want e
  rw [e]
  split at hw
  ·cases hw
  ·rename_i t ht
   split at hw
   ·rename_i b hb
    injection hw with hw
    subst hw
    have:=h.sl t _ hb
    simp only [AV.conc] at this
    simp only [yielded,ht,Option.bind_some,this]
    rfl
   ·rename_i vs hb
    injection hw with hw
    subst hw
    have:=h.sl t _ hb
    simp only [AV.conc] at this
    simp only [yielded,ht,Option.bind_some,this]
    rfl
   ·cases hw
def AV.al (s:St) (x:AV):Prop:=∀ b off,x=.p b off→(s.bl b).isSome=true
theorem al_v (x:Value):AV.al s (.v x):=fun _ _ e=>by cases e
theorem Inv.app0 (h:Inv N S0 w0 s Φ L a w) {d:Nat} (hd:d < N) {x:AV} (hx:x.al s):Inv N S0 w0 (s.app d (x,none)) Φ L (a.put (some d) (x.conc L)) w:=by
 refine ⟨by simp [Act.put,h.size],h.df,fun i y hy=>?_,⟨h.mem.blk,h.mem.inj,h.mem.old,h.mem.ext,fun i b off hi=>?_,h.mem.cel⟩,h.box⟩
 ·by_cases e:i=d
  ·subst e
   simp only [St.app,Zbv,Option.some.injEq] at hy
   subst hy
   simp [Act.put,h.size,hd]
  ·simp only [St.app,Za3 _ _ e] at hy
   simp only [Act.put]
   rw [Array.getElem?_setIfInBounds_ne (Ne.symm e)]
   exact h.sl i y hy
 ·by_cases e:i=d
  ·subst e
   simp only [St.app,Zbv,Option.some.injEq] at hi
   exact hx b off hi
  ·simp only [St.app,Za3 _ _ e] at hi
   exact h.mem.slp i b off hi
def newL (L:Nat→Nat) (d g:Nat):Nat→Nat:=fun b=>if b=d then g else L b
theorem ZkO {d g:Nat} (h0:s.bl d=none) {x:AV} (hx:x.al s):x.conc (newL L d g)=x.conc L:=by
 cases x with
 | v x=>rfl
 | p b off =>
   have:=hx b off rfl
   have hne:b≠d:=fun e=>by rw [e,h0] at this; cases this
   simp [AV.conc,newL,hne]
theorem Inv.appN (h:Inv N S0 w0 s Φ L a w) {d:Nat} (hd:d < N) (h0:s.bl d=none) {t:TypeId} {cs:List AV} (hc:∀ x,x ∈ cs→Zco x=true∧x.al s) :
 Inv N S0 w0 (s.app d (.p d 0,some (t,cs))) Φ (newL L d w.heap.size) (a.put (some d) (.pointer (some ⟨w.heap.size,0,none⟩))) (w.alloc (.cells (cs.map (AV.conc L)).toArray t)):=by
 have hlt:∀ b,(s.bl b).isSome=true→L b < w.heap.size:=fun b hb=>by
  obtain ⟨⟨t',cs'⟩,e⟩:=Option.isSome_iff_exists.1 hb
  exact (h.mem.blk b t' cs' e).lt
 have ne_of:∀ b,(s.bl b).isSome=true→b≠d:=fun b hb e=>by rw [e,h0] at hb; cases hb
 have hblne:∀ b,b≠d→(s.app d (.p d 0,some (t,cs))).bl b=s.bl b:=fun b e=>Za3 _ _ e
 have hbld:(s.app d (.p d 0,some (t,cs))).bl d=some (t,cs):=Zbv _ _ _
 have hmapold:∀ (l:List AV),(∀ x,x ∈ l→x.al s)→l.map (AV.conc (newL L d w.heap.size))=l.map (AV.conc L):=fun l hl=>List.map_congr_left (fun x hx=>ZkO h0 (hl x hx))
 have hLd:newL L d w.heap.size d=w.heap.size:=by simp [newL]
 have hLne:∀ b,b≠d→newL L d w.heap.size b=L b:=fun b e=>by simp [newL,e]
 refine ⟨by simp [Act.put,h.size],h.df,fun i y hy=>?_,⟨fun b t' cs' hb=>?_,fun b c hb hc' e=>?_,fun b hb=>?_,h.mem.ext.alloc _,fun i b off hi=>?_,fun b t' cs' hb x hx=>?_⟩,?_⟩
 ·by_cases e:i=d
  ·subst e
   simp only [St.app,Zbv,Option.some.injEq] at hy
   subst hy
   simp [Act.put,h.size,hd,AV.conc,newL]
  ·simp only [St.app,Za3 _ _ e] at hy
   simp only [Act.put]
   rw [Array.getElem?_setIfInBounds_ne (Ne.symm e),h.sl i y hy]
   rw [ZkO h0 (fun b off e'=>h.mem.slp i b off (by rw [hy,e']))]
 ·by_cases e:b=d
  ·subst e
   rw [hbld] at hb
   injection hb with hb
   injection hb with h1 h2
   subst h1; subst h2
   rw [hLd,hmapold _ (fun x hx=>(hc x hx).2)]
   exact Blk.new _ _ _
  ·rw [hblne b e] at hb
   rw [hLne b e,hmapold _ (fun x hx=>(h.mem.cel b t' cs' hb x hx).2)]
   exact (h.mem.blk b t' cs' hb).alloc _
 ·by_cases e1:b=d
  ·by_cases e2:c=d
   ·rw [e1,e2]
   ·rw [hblne c e2] at hc'
    rw [e1,hLd,hLne c e2] at e
    have:=hlt c hc'
    omega
  ·rw [hblne b e1] at hb
   by_cases e2:c=d
   ·rw [e2,hLd,hLne b e1] at e
    have:=hlt b hb
    omega
   ·rw [hblne c e2] at hc'
    rw [hLne b e1,hLne c e2] at e
    exact h.mem.inj b c hb hc' e
 ·by_cases e:b=d
  ·rw [e,hLd]; exact Or.inl h.mem.ext.size
  ·rw [hblne b e] at hb
   rw [hLne b e]; exact h.mem.old b hb
 ·by_cases e:b=d
  ·rw [e,hbld]; rfl
  ·rw [hblne b e]
   by_cases e2:i=d
   ·subst e2
    simp only [St.app,Zbv,Option.some.injEq] at hi
    injection hi with h1 h2
    exact absurd h1.symm e
   ·simp only [St.app,Za3 _ _ e2] at hi
    exact h.mem.slp i b off hi
 ·have key:Zco x=true∧x.al s:=by
   by_cases e:b=d
   ·subst e
    rw [hbld] at hb
    injection hb with hb
    injection hb with h1 h2
    subst h2
    exact hc x hx
   ·rw [hblne b e] at hb
    exact h.mem.cel b t' cs' hb x hx
  refine ⟨key.1,fun c off e=>?_⟩
  have:=key.2 c off e
  rw [hblne c (ne_of c this)]; exact this
 ·intro w' hf
  refine h.box w' (((Fr.refl (s.own L) w).alloc (.cells (cs.map (AV.conc L)).toArray t)).next hf (fun i hi hT=>?_))
  obtain ⟨b,hb,hL⟩:=hT
  by_cases e:b=d
  ·rw [e,hLd] at hL; omega
  ·rw [hblne b e] at hb
   rw [hLne b e] at hL
   exact ⟨b,hb,hL⟩
theorem Zkl (hi:Inv N S0 w0 s Φ L a w) {o:Oper} {x:AV} (h:Zbs P o s=some x):∃ y,x=.v y∧(execOp a.eval o).run P w=.ok (.value y) w:=by
 unfold Zbs at h
 cases hb:ZbK o.op && o.op.operands.toList.all s.vB with
 | false=>rw [hb] at h; cases h
 | true =>
   rw [hb] at h
   rw [Bool.and_eq_true] at hb
   simp only [cond_true] at h
   split at h
   ·rename_i y hy
    injection h with h
    refine ⟨y,h.symm,?_⟩
    rw [hi.exec hb.1 hb.2]
    exact ZfC hy w
   ·cases h
theorem Zg2 (hi:Inv N S0 w0 s Φ L a w) {t b off:Nat} {x:AV} (h:Ze3 P s t b off=some x):x.al s∧(Instr.loadAt t (.pointer (some ⟨L b,off,none⟩))).run P w=.ok (x.conc L) w:=by
 unfold Ze3 at h
 split at h
 ·rename_i e bt cs he hb
  have hB:=hi.mem.blk b bt cs hb
  cases ha:e.agg with
  | true =>
    rw [ha] at h
    simp only [cond_true] at h
    cases hle:Nat.ble (off + e.size) cs.length with
    | false=>rw [hle] at h; cases h
    | true =>
      rw [hle] at h
      simp only [cond_true] at h
      have hle':=Nat.le_of_ble_eq_true hle
      split at h
      ·rename_i l hl
       injection h with h
       subst h
       refine ⟨al_v _,?_⟩
       have hl':=ZlV hl L
       have hlen:l.length=e.size:=by rw [← hl',List.length_map,List.length_take,List.length_drop]; omega
       refine ZeE he hlen (fun j hj=>?_) ha
       rw [hB.cell,← hl']
       rw [List.getElem?_toArray,List.getElem?_map,List.getElem?_map,List.getElem?_take_of_lt (by omega),List.getElem?_drop]
       rw [List.getElem?_eq_getElem (by omega)]
       rfl
      ·cases h
  | false =>
    rw [ha] at h
    simp only [cond_false] at h
    have hm:x ∈ cs:=List.mem_of_getElem? h
    refine ⟨(hi.mem.cel b bt cs hb x hm).2,ZfD he ?_ ha⟩
    rw [hB.cell,List.getElem?_toArray,List.getElem?_map,h]
    rfl
 ·cases h
theorem ZeF {d:Option Nat} {t:TypeId} {cs:List AV} {r:AV × NewB} (h:Zek s d t cs=some r):∃ k,d=some k∧r=(.p k 0,some (t,cs))∧s.bl k=none∧∀ x,x ∈ cs→Zco x=true:=by
 unfold Zek at h
 split at h
 ·rename_i k
  cases hb:(s.bl k).isNone && cs.all Zco with
  | false=>rw [hb] at h; cases h
  | true =>
    rw [hb] at h
    simp only [cond_true,Option.some.injEq] at h
    rw [Bool.and_eq_true] at hb
    exact ⟨k,rfl,h.symm,Option.isNone_iff_eq_none.1 hb.1,fun x hx=>List.all_eq_true.1 hb.2 x hx⟩
 ·cases h
def Yld (N:Nat) (S0:Nat→Prop) (w0:World) (P:Program) (ops:Array Oper) (o:Oper) (s:St) (Φ:World→Prop) (a:Act) (w:World):Prop :=
 ∃ (v:Value) (w':World) (L':Nat→Nat),Inv N S0 w0 s Φ L' (a.put o.dst v) w' ∧
   ((Region.wanted o (yielded ops a.tmps)=true∧(execOp a.eval o).run P w=.ok (.value v) w')∨(Region.wanted o (yielded ops a.tmps)=false∧v=undef∧w'=w))
theorem Zbj {x:Option AV} {r:AV × NewB} (h:noB x=some r):∃ y,x=some y∧r=(y,none):=by
 cases x with
 | none=>cases h
 | some y=>injection h with h; exact ⟨y,rfl,h.symm⟩
theorem ZjP (hi:Inv N S0 w0 s Φ L a w) {o:Oper} {r:AV × NewB} (h:ZbQ P ops o s=some r) {d:Nat} (hd:o.dst=some d) (hN:d < N):Yld N S0 w0 P ops o (s.app d r) Φ a w:=by
 have same:∀ (x:AV),r=(x,none)→x.al s→Region.wanted o (yielded ops a.tmps)=true→(execOp a.eval o).run P w=.ok (.value (x.conc L)) w→Yld N S0 w0 P ops o (s.app d r) Φ a w :=
  fun x e hx hw hr=>by subst e; exact ⟨x.conc L,w,L,by rw [hd]; exact hi.app0 hN hx,Or.inl ⟨hw,hr⟩⟩
 have pur:noB (Zbs P o s)=some r→Region.wanted o (yielded ops a.tmps)=true→Yld N S0 w0 P ops o (s.app d r) Φ a w:=fun h hw=>by
  obtain ⟨x,hx,e⟩:=Zbj h
  obtain ⟨y,e2,hr⟩:=Zkl hi hx
  subst e2
  exact same (.v y) e (al_v y) hw hr
 have evl:∀ {x:Operand} {y:AV},s.eval x=some y→y.al s:=fun hx b off e=>hi.mem.evp (off:=off) (by subst e; exact hx)
 have new:∀ {t:TypeId} {cs:List AV} {c0:Array Value},Zek s o.dst t cs=some r→(∀ x,x ∈ cs→x.al s)→(cs.map (AV.conc L)).toArray=c0→Region.wanted o (yielded ops a.tmps)=true →
  (execOp a.eval o).run P w=.ok (.value (.pointer (some ⟨w.heap.size,0,none⟩))) (w.alloc (.cells c0 t))→Yld N S0 w0 P ops o (s.app d r) Φ a w:=fun h hal e hw hr=>by
  obtain ⟨k,hk,e1,h0,hc⟩:=ZeF h
  rw [hd] at hk
  injection hk with hk
  subst hk; subst e1; subst e
  exact ⟨_,_,_,by rw [hd]; exact hi.appN hN h0 (fun x hx=>⟨hc x hx,hal x hx⟩),Or.inl ⟨hw,hr⟩⟩
 unfold ZbQ at h
 split at h
 ·cases h
 ·rename_i hw
  injection h with h
  subst h
  exact ⟨undef,w,L,by rw [hd]; exact hi.app0 (x:=.v undef) hN (al_v _),Or.inr ⟨hi.want hw,rfl,rfl⟩⟩
 ·rename_i hw
  have hw':=hi.want hw
  split at h
  ·rename_i x ho
   obtain ⟨y,hy,e⟩:=Zbj h
   exact same y e (evl hy) hw' (by simp only [execOp,ho,Sem.run_pure,hi.eval hy])
  ·rename_i x ho
   obtain ⟨y,hy,e⟩:=Zbj h
   exact same y e (evl hy) hw' (by simp only [execOp,ho,Sem.run_pure,hi.eval hy])
  ·rename_i c x y ho
   split at h
   ·rename_i b hb
    obtain ⟨z,hz,e⟩:=Zbj h
    have hc:=hi.eval hb
    simp only [AV.conc] at hc
    cases b with
    | true =>
      simp only [cond_true] at hz
      exact same z e (evl hz) hw' (by simp only [execOp,ho,hc,asBool,Sem.run_bind,Sem.run_pure,Result.andThen_ok,if_true,hi.eval hz])
    | false =>
      simp only [cond_false] at hz
      exact same z e (evl hz) hw' (by simp only [execOp,ho,hc,asBool,Sem.run_bind,Sem.run_pure,Result.andThen_ok,Bool.false_eq_true,if_false,hi.eval hz])
   ·cases h
  ·rename_i t ho
   split at h
   ·rename_i e he
    refine new (c0:=e.zero.toArray) h (fun x hx=>?_) (by rw [mapv]) hw' (by simp only [execOp,ho,Sem.run_bind,Zoi he,Result.andThen_ok,Sem.run_pure])
    obtain ⟨y,_,rfl⟩:=List.mem_map.1 hx
    exact al_v y
   ·cases h
  ·rename_i t x ho
   split at h
   ·rename_i y hy
    refine new (c0:=(y.conc L).cells) h (fun z hz=>?_) (by rw [Zg1]) hw' (by simp only [execOp,ho,Sem.run_bind,hi.eval hy,Zrc,Result.andThen_ok,Sem.run_pure])
    cases y with
    | v y=>obtain ⟨c,_,rfl⟩:=List.mem_map.1 hz; exact al_v c
    | p b off=>simp only [Za6,List.mem_singleton] at hz; subst hz; exact evl hy
   ·cases h
  ·rename_i t x f ho
   split at h
   ·rename_i b off hb
    split at h
    ·rename_i e he
     split at h
     ·rename_i k hk
      injection h with h
      have hx:=hi.eval hb
      simp only [AV.conc] at hx
      refine same (.p b (off + k)) h.symm (fun c o' e'=>?_) hw' (by simp only [execOp,ho,Sem.run_bind,hx,Zoj he hk,Result.andThen_ok,Sem.run_pure,AV.conc])
      injection e' with e1 _
      rw [← e1]
      exact evl hb b off rfl
     ·cases h
    ·cases h
   ·exact pur h hw'
  ·rename_i t x ho
   split at h
   ·rename_i b off hb
    obtain ⟨z,hz,e⟩:=Zbj h
    obtain ⟨hal,hr⟩:=Zg2 hi hz
    have hx:=hi.eval hb
    simp only [AV.conc] at hx
    exact same z e hal hw' (by simp only [execOp,ho,Sem.run_bind,hx,hr,Result.andThen_ok,Sem.run_pure])
   ·cases h
  ·rename_i x ho
   split at h
   ·rename_i b off hb
    injection h with h
    have hx:=hi.eval hb
    simp only [AV.conc] at hx
    exact same (.p b off) h.symm (evl hb) hw' (by simp only [execOp,ho,hx,Sem.run_pure,AV.conc])
   ·exact pur h hw'
  ·exact pur h hw'
theorem Yld.step {o:Oper} (h:Yld N S0 w0 P ops o s Φ a w) {K:Act→World→Prop} (hK:∀ L a w,Inv N S0 w0 s Φ L a w→K a w) :
 if Region.wanted o (yielded ops a.tmps)=true then o.wp P a w K Q else K (a.put o.dst undef) w:=by
 obtain ⟨v,w',L',hi,h | ⟨hw,rfl,rfl⟩⟩:=h
 ·rw [if_pos h.1]
  unfold Oper.wp
  rw [h.2]
  exact hK _ _ _ hi
 ·rw [if_neg (by rw [hw]; simp)]
  exact hK _ _ _ hi
end
end Go.Proofs.YtenchljfmfgeoaaGreatDoor

namespace Go.Proofs.YtenchljfmfgeoaaGreatDoor
open Go.RowKit
def opAt (ops:Array Oper) (i:Nat):Oper:=ops.toList.getD i default
def Zcp (cs:Array Value):Prop:=∀ (i:Nat) (k:IntKind) (z:Int),cs[i]? = some (.int k z)→k=.i64
def NRB (w:World) (i:Nat):Prop:=∃ t cs,Blk t w i cs∧Zcp cs
def BoxN (w w':World) (φ:World→Prop):Prop:=∀ S:Nat→Prop,(∀ i,S i→i < w.heap.size∧NRB w i)→Box S w' φ
theorem BoxN.and {w w':World} {φ ψ:World→Prop} (h:BoxN w w' φ) (k:BoxN w w' ψ):BoxN w w' (fun w=>φ w∧ψ w):=fun S hS=>(h S hS).and (k S hS)
theorem BoxN.pure {w w':World} {p:Prop} (h:p):BoxN w w' (fun _=>p):=fun _ _ _ _=>h
def DoR {α:Type} (sh:α→Value) (φ:α→World→Prop) (w:World) (y:Value) (w':World):Prop:=∃ x:α,y=sh x∧Ext w w'∧BoxN w w' (φ x)
def ZbA {α:Type} (sh:α→Value) (φ:α→World→Prop) (w:World) (e:Ending) (w':World):Prop:=∃ x:α,e=.returned (sh x)∧Ext w w'∧BoxN w w' (φ x)
def Does (P:Program) (o:Oper) (ρ:Operand→Value) (w:World) (R:Value→World→Prop):Prop :=
 (∃ y w',(execOp ρ o).run P w=.ok (.value y) w'∧R y w') ∨
 (∃ f args w1,(execOp ρ o).run P w=.ok (.enter f args) w1∧Calls P f args w1 fun e w'=>∃ y,e=.returned y∧R y w')
def Zc9 {α:Type}:List (Nat × α)→Nat→Option α
 | []=>fun _=>none
 | q :: l=>upd (Zc9 l) q.1 q.2
theorem Zbp {α:Type} {l:List (Nat × α)} {i:Nat} {x:α} (h:Zc9 l i=some x):(i,x) ∈ l:=by
 induction l with
 | nil=>cases h
 | cons q l ih =>
   obtain ⟨k,y⟩:=q
   by_cases e:i=k
   ·subst e
    simp only [Zc9,Zbv,Option.some.injEq] at h
    subst h
    exact List.mem_cons_self
   ·simp only [Zc9,Za3 _ _ e] at h
    exact List.mem_cons_of_mem _ (ih h)
abbrev SlL:=List (Nat × AV)
abbrev BlL:=List (Nat × TypeId × List AV)
def ofL (sl:SlL) (bl:BlL):St:=⟨Zc9 sl,Zc9 bl⟩
def alB (bl:BlL):AV→Bool
 | .v _=>true
 | .p b _=>(Zc9 bl b).isSome
def wfB (sl:SlL) (bl:BlL):Bool:=sl.all (fun q=>alB bl q.2) && bl.all (fun q=>q.2.2.all (alB bl))
def Zax (s:St) (sl:SlL) (bl:BlL):Prop:=(sl.map (fun q=>s.sl q.1),bl.map (fun q=>s.bl q.1))=(sl.map (fun q=>some q.2),bl.map (fun q=>some q.2))
theorem Zca {α β:Type} {f g:α→β} {l:List α} (h:l.map f=l.map g) {x:α} (hx:x ∈ l):f x=g x:=by
 induction l with
 | nil=>cases hx
 | cons y l ih =>
   simp only [List.map_cons,List.cons.injEq] at h
   rcases List.mem_cons.1 hx with e | hx
   ·rw [e]; exact h.1
   ·exact ih h.2 hx
section
variable {N:Nat} {S0:Nat→Prop} {w0:World} {s:St} {Φ Ψ:World→Prop} {L:Nat→Nat} {a:Act} {w:World} {P:Program} {ops:Array Oper} {Q:Exit→Act→World→Prop}
theorem Inv.weak (h:Inv N S0 w0 s Φ L a w) {sl:SlL} {bl:BlL} (h1:Zax s sl bl) (h2:wfB sl bl=true) (Q:∀ w,Φ w→Ψ w):Inv N S0 w0 (ofL sl bl) Ψ L a w:=by
 unfold Zax at h1
 injection h1 with hs hb
 unfold wfB at h2
 rw [Bool.and_eq_true] at h2
 have hs':∀ i x,(ofL sl bl).sl i=some x→s.sl i=some x:=fun i x hx=>Zca (f:=fun q:Nat × AV=>s.sl q.1) (g:=fun q=>some q.2) hs (Zbp hx)
 have hb':∀ i x,(ofL sl bl).bl i=some x→s.bl i=some x:=fun i x hx=>Zca (f:=fun q:Nat × TypeId × List AV=>s.bl q.1) (g:=fun q=>some q.2) hb (Zbp hx)
 have hbs:∀ b,((ofL sl bl).bl b).isSome=true→(s.bl b).isSome=true:=fun b hb=>by
  obtain ⟨q,e⟩:=Option.isSome_iff_exists.1 hb
  rw [hb' b q e]; rfl
 refine ⟨h.size,h.df,fun i x hx=>h.sl i x (hs' i x hx),⟨fun b t cs e=>h.mem.blk b t cs (hb' b _ e),fun b c hb hc=>h.mem.inj b c (hbs b hb) (hbs c hc),fun b hb=>h.mem.old b (hbs b hb),h.mem.ext,fun i b off e=>?_,fun b t cs e x hx=>⟨(h.mem.cel b t cs (hb' b _ e) x hx).1,fun c off e'=>?_⟩⟩,fun w' hf=>Q _ (h.box w' (hf.mono (fun i _ hi=>?_)))⟩
 ·have:=List.all_eq_true.1 h2.1 _ (Zbp e)
  exact this
 ·have:=List.all_eq_true.1 (List.all_eq_true.1 h2.2 _ (Zbp e)) x hx
  rw [e'] at this
  exact this
 ·obtain ⟨b,hb,e⟩:=hi
  exact ⟨b,hbs b hb,e⟩
theorem Inv.own_nrb (h:Inv N S0 w0 s Φ L a w) {i:Nat} (hi:s.own L i):i < w.heap.size∧NRB w i:=by
 obtain ⟨b,hb,e⟩:=hi
 obtain ⟨⟨t,cs⟩,eb⟩:=Option.isSome_iff_exists.1 hb
 have hB:=h.mem.blk b t cs eb
 subst e
 refine ⟨hB.lt,t,_,hB,fun j k z hj=>?_⟩
 rw [List.getElem?_toArray,List.getElem?_map,Option.map_eq_some_iff] at hj
 obtain ⟨x,hx,ex⟩:=hj
 exact Zoh (h.mem.cel b t cs eb x (List.mem_of_getElem? hx)).1 ex
theorem Inv.called (h:Inv N S0 w0 s Φ L a w) {w':World} {φ:World→Prop} (he:Ext w w') (hb:BoxN w w' φ) {d:Nat} (hd:d < N) (v:Value):Inv N S0 w0 (s.app d (.v v,none)) (fun w=>Φ w∧φ w) L (a.put (some d) v) w':=by
 have h0:=h.app0 hd (al_v (s:=s) v)
 exact ⟨h0.size,h0.df,h0.sl,⟨fun b t cs e=>(h0.mem.blk b t cs e).ext he,h0.mem.inj,h0.mem.old,h0.mem.ext.ext he,h0.mem.slp,h0.mem.cel⟩,(h0.box.ext he).and (hb _ (fun i hi=>h.own_nrb hi))⟩
theorem ZkP (hi:Inv N S0 w0 s Φ L a w) {o:Oper} {d:Nat} {α:Type} {sh:α→Value} {φ:α→World→Prop} (hw:s.wantB ops o=some true) (hn:ZbK o.op=true) (hv:o.op.operands.toList.all s.vB=true) (hd:o.dst=some d) (hN:d < N)
 (hdo:∀ w,Fr S0 w0 w→Φ w→Does P o s.rho w (DoR sh φ w)) {K:Act→World→Prop} (hK:∀ x L a w,Inv N S0 w0 (s.app d (.v (sh x),none)) (fun w=>Φ w∧φ x w) L a w→K a w) :
 if Region.wanted o (yielded ops a.tmps)=true then o.wp P a w K Q else K (a.put o.dst undef) w:=by
 rw [if_pos (hi.want hw)]
 unfold Oper.wp
 rw [hi.exec hn hv]
 rcases hdo w hi.mem.ext hi.box.self with ⟨y,w',hr,x,rfl,he,hb⟩ | ⟨f,args,w1,hr,hc⟩
 ·rw [hr,Oper.upon_value,hd]
  exact hK x _ _ _ (hi.called he hb hN _)
 ·rw [hr,Oper.upon_enter]
  refine Calls.mono hc fun e w' h'=>?_
  obtain ⟨y,rfl,x,rfl,he,hb⟩:=h'
  simp only [hd]
  exact hK x _ _ _ (hi.called he hb hN _)
theorem Zrd (hi:Inv N S0 w0 s Φ L a w) {o:Oper} {d:Nat} {α:Type} {sh:α→Value} {E:α→World→World→Prop} (hw:s.wantB ops o=some true) (hn:ZbK o.op=true) (hv:o.op.operands.toList.all s.vB=true) (hd:o.dst=some d)
 (hdo:∀ w,Fr S0 w0 w→Φ w→Does P o s.rho w (fun y w'=>∃ x,y=sh x∧E x w w')) {K:Act→World→Prop} (hK:∀ x w',E x w w'→K (a.put (some d) (sh x)) w') :
 if Region.wanted o (yielded ops a.tmps)=true then o.wp P a w K Q else K (a.put o.dst undef) w:=by
 rw [if_pos (hi.want hw)]
 unfold Oper.wp
 rw [hi.exec hn hv]
 rcases hdo w hi.mem.ext hi.box.self with ⟨y,w',hr,x,rfl,he⟩ | ⟨f,args,w1,hr,hc⟩
 ·rw [hr,Oper.upon_value,hd]
  exact hK x _ he
 ·rw [hr,Oper.upon_enter]
  refine Calls.mono hc fun e w' h'=>?_
  obtain ⟨y,rfl,x,rfl,he⟩:=h'
  simp only [hd]
  exact hK x _ he
end
end Go.Proofs.YtenchljfmfgeoaaGreatDoor

namespace Go.Proofs.YtenchljfmfgeoaaGreatDoor
open Go.RowKit
def Zda (P:Program) (ops:Array Oper) (o:Oper) (s:St):Option St :=
 match s.wantB ops o with
 | none=>none
 | some false=>some s
 | some true =>
   match o.op with
   | .store t x y =>
     match s.eval x,s.eval y,teOf P t with
     | some (.p b off),some z,some e =>
       match s.bl b with
       | some (bt,cs)=>bif Nat.beq (Za6 z).length e.size && (Nat.ble (off + (Za6 z).length) cs.length && (Za6 z).all Zco) then some { s with bl:=upd s.bl b (bt,Zbf cs off (Za6 z)) } else none
       | none=>none
     | _,_,_=>none
   | _=>none
def stpL (P:Program) (N:Nat) (ops:Array Oper) (o:Oper) (s:St):Option St :=
 match o.dst with
 | some d=>bif Nat.blt d N then (match ZbQ P ops o s with | some r=>some (s.app d r) | none=>none) else none
 | none=>Zda P ops o s
def runL (P:Program) (N:Nat) (ops:Array Oper):List Oper→St→Option St
 | [],s=>some s
 | o :: l,s=>match stpL P N ops o s with | some s'=>runL P N ops l s' | none=>none
def ZiE (s:St) (o:Oper):Option (FuncId × List Value) :=
 match o.op with
 | .call c=>match c.callee with
   | .value fo=>match s.eval fo with
     | some (.v (.func (.func f) first captured))=>some (f,first.toList ++ c.args.toList.map s.rho ++ captured.toList)
     | _=>none
   | _=>none
 | _=>none
def ZfR (P:Program) (f:FuncId):Bool :=
 match P.funcs[f]? with
 | some fn => !(fn.name == "runtime.NumGoroutine") && !fn.body.isNone
 | none=>false
def ZcN (P:Program) (N:Nat) (ops:Array Oper) (o:Oper) (s:St):Option (FuncId × List Value × Nat) :=
 match s.wantB ops o,ZiE s o,o.dst with
 | some true,some q,some d=>bif ZbK o.op && (o.op.operands.toList.all s.vB && (ZfR P q.1 && Nat.blt d N)) then some (q.1,q.2,d) else none
 | _,_,_=>none
def Zky (P:Program) (s:St):ResultVar→Option Value
 | .tmp t=>match s.sl t with | some (.v x)=>some x | _=>none
 | .cell t ty=>match s.sl t with
   | some (.p b off)=>match Ze3 P s ty b off with | some (.v x)=>some x | _=>none
   | _=>none
def resL (P:Program) (s:St):List ResultVar→Option (List Value)
 | []=>some []
 | r :: l=>match Zky P s r,resL P s l with | some x,some m=>some (x :: m) | _,_=>none
def Zkz (P:Program) (fn:Func) (s:St):Option Value :=
 match resL P s fn.results.toList with
 | some [x]=>some x
 | some m=>some (.tuple m.toArray)
 | none=>none
def Zge:Nat→List Value→SlL
 | _,[]=>[]
 | k,x :: l=>(k, .v x) :: Zge (k + 1) l
section
variable {N:Nat} {S0:Nat→Prop} {w0:World} {s:St} {Φ Ψ:World→Prop} {L:Nat→Nat} {a:Act} {w:World} {P:Program} {ops:Array Oper} {Q:Exit→Act→World→Prop}
theorem Zna {α β:Type} (f:α→β) (l:List α) (off:Nat) (cs:List α):(Zbf l off cs).map f=Zbf (l.map f) off (cs.map f):=by
 simp [Zbf,List.map_take,List.map_drop]
theorem ZiF {α:Type} {l:List α} {off:Nat} {cs:List α} {x:α} (h:x ∈ Zbf l off cs):x ∈ l∨x ∈ cs:=by
 unfold Zbf at h
 rcases List.mem_append.1 h with h | h
 ·rcases List.mem_append.1 h with h | h
  ·exact Or.inl (List.mem_of_mem_take h)
  ·exact Or.inr h
 ·exact Or.inl (List.mem_of_mem_drop h)
theorem ZjQ (hi:Inv N S0 w0 s Φ L a w) {o:Oper} {s':St} (h:Zda P ops o s=some s') (hd:o.dst=none) {K:Act→World→Prop} (hK:∀ L a w,Inv N S0 w0 s' Φ L a w→K a w) :
 if Region.wanted o (yielded ops a.tmps)=true then o.wp P a w K Q else K (a.put o.dst undef) w:=by
 unfold Zda at h
 split at h
 ·cases h
 ·rename_i hw
  injection h with h
  subst h
  rw [if_neg (by rw [hi.want hw]; simp),hd]
  exact hK _ _ _ hi
 ·rename_i hw
  rw [if_pos (hi.want hw)]
  split at h
  ·rename_i t x y ho
   split at h
   ·rename_i b off z e hx hy he
    split at h
    ·rename_i bt cs hb
     cases hc:(Nat.beq (Za6 z).length e.size && (Nat.ble (off + (Za6 z).length) cs.length && (Za6 z).all Zco)) with
     | false=>rw [hc] at h; cases h
     | true =>
       rw [hc] at h
       simp only [cond_true,Option.some.injEq] at h
       simp only [Bool.and_eq_true] at hc
       have hn:=Nat.eq_of_beq_eq_true hc.1
       have hl:=Nat.le_of_ble_eq_true hc.2.1
       have hcb:∀ c,c ∈ Za6 z→Zco c=true:=fun c h'=>List.all_eq_true.1 hc.2.2 c h'
       have hbs:(s.bl b).isSome=true:=by rw [hb]; rfl
       have ex:=hi.eval hx
       have ey:=hi.eval hy
       simp only [AV.conc] at ex
       have hcells:=Zg1 L z
       have hB:=hi.mem.blk b bt cs hb
       have hal:∀ c,c ∈ Za6 z→c.al s:=fun c h'=>by
        cases z with
        | v y=>obtain ⟨c',_,rfl⟩:=List.mem_map.1 h'; exact al_v _
        | p b' off'=>simp only [Za6,List.mem_singleton] at h'; subst h'; exact fun b2 off2 e2=>by injection e2 with e3 _; rw [← e3]; exact hi.mem.evp hy
       obtain ⟨w',hr,hB',hf⟩:=ZfE (P:=P) he (v:=z.conc L) hB (by rw [← hcells]; simpa using hn) (by rw [← hcells]; simpa using hl) (fun c h'=>by
        rw [← hcells] at h'
        obtain ⟨c',hc',rfl⟩:=List.mem_map.1 h'
        exact Zog L (hcb c' hc'))
       unfold Oper.wp
       have hrun:(execOp a.eval o).run P w=.ok .skip w':=by simp only [execOp,ho,Sem.run_bind,ex,ey,hr,Result.andThen_ok,Sem.run_pure]
       rw [hrun,Oper.upon_skip,hd]
       subst h
       have bne:∀ c,c≠b→(s.bl c).isSome=true→L c≠L b:=fun c hne hcs e=>hne (hi.mem.inj c b hcs hbs e)
       have some_of:∀ c,((upd s.bl b (bt,Zbf cs off (Za6 z))) c).isSome=true→(s.bl c).isSome=true:=fun c h'=>by
        by_cases e:c=b
        ·rw [e]; exact hbs
        ·rw [Za3 _ _ e] at h'; exact h'
       have to_some:∀ c,(s.bl c).isSome=true→((upd s.bl b (bt,Zbf cs off (Za6 z))) c).isSome=true:=fun c h'=>by
        by_cases e:c=b
        ·rw [e,Zbv]; rfl
        ·rw [Za3 _ _ e]; exact h'
       refine hK L a w' ⟨hi.size,hi.df,hi.sl,⟨fun c t' cs' hc'=>?_,fun c d hc' hd' e=>hi.mem.inj c d (some_of c hc') (some_of d hd') e,fun c hc'=>hi.mem.old c (some_of c hc'),hi.mem.ext.next hf (fun i hi' e=>?_),fun i c off' h'=>to_some c (hi.mem.slp i c off' h'),fun c t' cs' hc' x' hx'=>?_⟩,fun w2 hf2=>?_⟩
       ·by_cases e:c=b
        ·subst e
         simp only [Zbv,Option.some.injEq] at hc'
         injection hc' with e1 e2
         subst e1; subst e2
         rw [Zna,hcells]
         exact hB'
        ·simp only [Za3 _ _ e] at hc'
         exact (hi.mem.blk c t' cs' hc').fr hf (bne c e (by rw [hc']; rfl))
       ·rcases hi.mem.old b hbs with h' | h'
        ·omega
        ·rw [e]; exact h'
       ·have key:Zco x'=true∧x'.al s:=by
         by_cases e:c=b
         ·subst e
          simp only [Zbv,Option.some.injEq] at hc'
          injection hc' with e1 e2
          subst e2
          rcases ZiF hx' with h' | h'
          ·exact hi.mem.cel c bt cs hb x' h'
          ·exact ⟨hcb x' h',hal x' h'⟩
         ·simp only [Za3 _ _ e] at hc'
          exact hi.mem.cel c t' cs' hc' x' hx'
        exact ⟨key.1,fun d off' e=>to_some d (key.2 d off' e)⟩
       ·refine hi.box w2 ((hf.mono (fun i _ e=>⟨b,hbs,e.symm⟩)).trans (hf2.mono (fun i _ h'=>?_)))
        obtain ⟨c,hc',e⟩:=h'
        exact ⟨c,some_of c hc',e⟩
    ·cases h
   ·cases h
  ·cases h
theorem Znb (hi:Inv N S0 w0 s Φ L a w) {o:Oper} {s':St} (h:stpL P N ops o s=some s') {K:Act→World→Prop} (hK:∀ L a w,Inv N S0 w0 s' Φ L a w→K a w) :
 if Region.wanted o (yielded ops a.tmps)=true then o.wp P a w K Q else K (a.put o.dst undef) w:=by
 unfold stpL at h
 split at h
 ·rename_i d hd
  cases hb:Nat.blt d N with
  | false=>rw [hb] at h; cases h
  | true =>
    rw [hb] at h
    simp only [cond_true] at h
    have hN:d < N:=Nat.le_of_ble_eq_true hb
    split at h
    ·rename_i r hr
     injection h with h
     subst h
     exact (ZjP hi hr hd hN).step hK
    ·cases h
 ·rename_i hd
  exact ZjQ hi h hd hK
def SXl (P:Program) (N:Nat) (S0:Nat→Prop) (w0:World) (ops:Array Oper) (Q:Exit→Act→World→Prop) (l:List Oper) (s:St) (Φ:World→Prop):Prop:=∀ L a w,Inv N S0 w0 s Φ L a w→wpList P ops Q l a w
def SXi (P:Program) (N:Nat) (S0:Nat→Prop) (w0:World) (ops:Array Oper) (Q:Exit→Act→World→Prop) (i:Nat) (s:St) (Φ:World→Prop):Prop:=SXl P N S0 w0 ops Q (ops.toList.drop i) s Φ
def SXq (N:Nat) (S0:Nat→Prop) (w0:World) (Q:Act→World→Prop) (s:St) (Φ:World→Prop):Prop:=∀ L a w,Inv N S0 w0 s Φ L a w→Q a w
def SXc (P:Program) (N:Nat) (S0:Nat→Prop) (w0:World) (Q:Exit→Act→World→Prop) (c:Code) (s:St) (Φ:World→Prop):Prop:=∀ L a w,Inv N S0 w0 s Φ L a w→c.wp P Q a w
theorem ZiG:∀ (l r:List Oper) (s s':St),runL P N ops l s=some s'→SXl P N S0 w0 ops Q r s' Φ→SXl P N S0 w0 ops Q (l ++ r) s Φ
 | [],r,s,s',h,k=>by simp only [runL,Option.some.injEq] at h; subst h; exact k
 | o :: l,r,s,s',h,k=>by
   unfold runL at h
   split at h
   ·rename_i s1 h1
    have ih:=ZiG l r s1 s' h k
    intro L a w hi
    exact wpList_step (fun K hK=>Znb hi h1 (fun L a w hi=>hK _ _ (ih L a w hi)))
   ·cases h
def ZiH (P:Program) (N:Nat) (ops:Array Oper) (i k:Nat) (s:St) (sl:SlL) (bl:BlL):Option (List (Option AV) × List (Option (TypeId × List AV))) :=
 match runL P N ops ((ops.toList.drop i).take k) s with
 | some s'=>some (sl.map (fun q=>s'.sl q.1),bl.map (fun q=>s'.bl q.1))
 | none=>none
theorem SXl.weak {l:List Oper} (sl:SlL) (bl:BlL) (h1:Zax s sl bl) (h2:wfB sl bl=true) (R:∀ w,Φ w→Ψ w) (h:SXl P N S0 w0 ops Q l (ofL sl bl) Ψ):SXl P N S0 w0 ops Q l s Φ :=
 fun L a w hi=>h L a w (hi.weak h1 h2 R)
theorem Zok {i:Nat} (k:Nat) (sl:SlL) (bl:BlL) (h:ZiH P N ops i k s sl bl=some (sl.map (fun q=>some q.2),bl.map (fun q=>some q.2))) (h2:wfB sl bl=true)
 (K:SXi P N S0 w0 ops Q (i + k) (ofL sl bl) Φ):SXi P N S0 w0 ops Q i s Φ:=by
 unfold ZiH at h
 split at h
 ·rename_i s' hs
  injection h with h
  unfold SXi at K ⊢
  have e:ops.toList.drop i=(ops.toList.drop i).take k ++ ops.toList.drop (i + k):=by rw [← List.drop_drop,List.take_append_drop]
  rw [e]
  exact ZiG _ _ s s' hs (SXl.weak sl bl h h2 (fun _ h=>h) K)
 ·cases h
theorem Zcx {i:Nat} (h:Nat.blt i ops.size=true):ops.toList.drop i=opAt ops i :: ops.toList.drop (i + 1):=by
 have hl:i < ops.size:=Nat.le_of_ble_eq_true h
 rw [List.drop_eq_getElem_cons (by simpa using hl)]
 simp [opAt,hl]
theorem Zfh {o:Oper} {f:FuncId} {args:List Value} (h:ZiE s o=some (f,args)) (hk:ZfR P f=true):(execOp s.rho o).run P w=.ok (.enter f args.toArray) w:=by
 unfold ZiE at h
 split at h
 ·rename_i c ho
  split at h
  ·rename_i fo hc
   split at h
   ·rename_i f' first captured hf
    injection h with h
    injection h with h1 h2
    subst h1; subst h2
    have e1:s.rho fo=.func (.func f') first captured:=by simp [St.rho,hf]
    have e2:(first.toList ++ c.args.toList.map s.rho ++ captured.toList).toArray=first ++ c.args.map s.rho ++ captured:=by apply Array.toList_inj.1; simp
    unfold ZfR at hk
    split at hk
    ·rename_i fn hfn
     rw [Bool.and_eq_true] at hk
     have n1 : (fn.name == "runtime.NumGoroutine") = false := by simpa using hk.1
     have n2:fn.body.isNone=false:=by simpa using hk.2
     simp only [execOp,ho,resolve,hc,e1,Deferred.ofValue,Sem.run_bind,Sem.run_pure,Result.andThen_ok,invoke,callFunc,run_program,hfn,n1,n2,Bool.false_eq_true,if_false,e2]
    ·cases hk
   ·cases h
  ·cases h
 ·cases h
theorem Zdi {o:Oper} {f d:Nat} {args:List Value} (h:ZcN P N ops o s=some (f,args,d)):s.wantB ops o=some true∧ZiE s o=some (f,args)∧o.dst=some d∧ZbK o.op=true∧o.op.operands.toList.all s.vB=true∧ZfR P f=true∧d < N:=by
 unfold ZcN at h
 split at h
 ·rename_i q d' hw hq hd
  cases hb:(ZbK o.op && (o.op.operands.toList.all s.vB && (ZfR P q.1 && Nat.blt d' N))) with
  | false=>rw [hb] at h; cases h
  | true =>
    rw [hb] at h
    simp only [cond_true,Option.some.injEq,Prod.mk.injEq] at h
    simp only [Bool.and_eq_true] at hb
    obtain ⟨h1,h2,h3⟩:=h
    subst h1; subst h2; subst h3
    exact ⟨hw,hq,hd,hb.1,hb.2.1,hb.2.2.1,Nat.le_of_ble_eq_true hb.2.2.2⟩
 ·cases h
theorem ZjR {o:Oper} {f:Nat} {args:List Value} {α:Type} {sh:α→Value} {φ:α→World→Prop} (h:ZiE s o=some (f,args)) (hk:ZfR P f=true) (hC:Calls P f args.toArray w (ZbA sh φ w)):Does P o s.rho w (DoR sh φ w) :=
 Or.inr ⟨f,args.toArray,w,Zfh h hk,hC.mono (fun e w' h=>by
  obtain ⟨x,e1,h⟩:=h
  exact ⟨_,e1,x,rfl,h⟩)⟩
theorem Zbx {i:Nat} {α:Type} {d:Nat} (sh:α→Value) (φ:α→World→Prop) (hsz:Nat.blt i ops.size=true) (hw:s.wantB ops (opAt ops i)=some true) (hn:ZbK (opAt ops i).op=true) (hv:(opAt ops i).op.operands.toList.all s.vB=true) (hd:(opAt ops i).dst=some d) (hN:Nat.blt d N=true)
 (hdo:∀ w,Fr S0 w0 w→Φ w→Does P (opAt ops i) s.rho w (DoR sh φ w)) (K:∀ x,SXi P N S0 w0 ops Q (i + 1) (s.put d (.v (sh x))) (fun w=>Φ w∧φ x w)):SXi P N S0 w0 ops Q i s Φ:=by
 unfold SXi
 rw [Zcx hsz]
 intro L a w hi
 exact wpList_step (fun K' hK=>ZkP hi hw hn hv hd (Nat.le_of_ble_eq_true hN) hdo (fun x L a w hi=>hK _ _ (K x L a w hi)))
theorem Zmm {i:Nat} (f:FuncId) (args:List Value) (d:Nat) {α:Type} (sh:α→Value) (φ:α→World→Prop) (hsz:Nat.blt i ops.size=true) (h:ZcN P N ops (opAt ops i) s=some (f,args,d))
 (hC:∀ w,Fr S0 w0 w→Φ w→Calls P f args.toArray w (ZbA sh φ w)) (K:∀ x,SXi P N S0 w0 ops Q (i + 1) (s.put d (.v (sh x))) (fun w=>Φ w∧φ x w)):SXi P N S0 w0 ops Q i s Φ:=by
 obtain ⟨hw,hq,hd,hn,hv,hk,hN⟩:=Zdi h
 exact Zbx sh φ hsz hw hn hv hd (by rw [Nat.blt_eq]; exact hN) (fun w hf R=>ZjR hq hk (hC w hf R)) K
theorem Zsb {i:Nat} (h:Nat.ble ops.size i=true) (K:SXq N S0 w0 (Q .normal) s Φ):SXi P N S0 w0 ops Q i s Φ:=by
 unfold SXi
 rw [List.drop_of_length_le (by simpa using Nat.le_of_ble_eq_true h)]
 exact fun L a w hi=>K L a w hi
end
end Go.Proofs.YtenchljfmfgeoaaGreatDoor
