/-
 My texts Sx, Sx2, Sx3, Sx4, Sx5, Sx6, Sx7 put together.
-/
import Derived.Test.YtcpjeaaapocoeaaGreatDoorG01
import Derived.OrdersHeld
import Derived.StillTail
import Derived.Test.YtcpjeaaapocoeaaGreatDoorG11
set_option maxRecDepth 100000
namespace Go.Proofs.YtcpjeaaapocoeaaGreatDoor
open Go.RowKit
inductive AV where
 | v (x:Value)
 | p (b off:Nat)
def AV.conc (L:Nat→Nat):AV→Value
 | .v x=>x
 | .p b off=>.pointer (some ⟨L b,off,none⟩)
structure St where
 sl:Nat→Option AV
 bl:Nat→Option (TypeId × List AV)
def upd {α:Type} (f:Nat→Option α) (k:Nat) (x:α):Nat→Option α:=fun i=>bif Nat.beq i k then some x else f i
theorem ZaM {α:Type} (f:Nat→Option α) (k:Nat) (x:α):upd f k x k=some x:=by simp [upd]
theorem Zay {α:Type} (f:Nat→Option α) {k i:Nat} (x:α) (h:i≠k):upd f k x i=f i:=by
 have:Nat.beq i k=false:=Bool.eq_false_iff.2 (fun e=>h (Nat.eq_of_beq_eq_true e))
 simp [upd,this]
theorem Zee {α:Type} (f:Nat→Option α) {k i:Nat} (x y:α) (h:i≠k):upd (upd f k x) i y=upd (upd f i y) k x:=by
 funext j
 by_cases h1:j=i
 ·subst h1; rw [ZaM,Zay _ _ h,ZaM]
 ·rw [Zay _ _ h1]
  by_cases h2:j=k
  ·subst h2; rw [ZaM,ZaM]
  ·rw [Zay _ _ h2,Zay _ _ h2,Zay _ _ h1]
def Zbu:AV→Bool
 | .p _ _=>true
 | .v (.bool _)=>true
 | .v (.int .i64 _)=>true
 | .v (.string _)=>true
 | .v (.pointer _)=>true
 | .v (.slice _ _ _)=>true
 | .v (.map _)=>true
 | .v (.func _ _ _)=>true
 | .v .nilFunc=>true
 | .v (.iface _ _)=>true
 | .v .nilIface=>true
 | _=>false
theorem Zkc {x:AV} (L:Nat→Nat) (h:Zbu x=true):(x.conc L).oneCell'=true:=by
 cases x with
 | p b off=>rfl
 | v x=>cases x<;>first | rfl | (simp [Zbu] at h; done)
theorem Zkd {x:AV} {L:Nat→Nat} {k:IntKind} {z:Int} (h:Zbu x=true) (e:x.conc L=.int k z):k=.i64:=by
 cases x with
 | p b off=>simp [AV.conc] at e
 | v x =>
   simp only [AV.conc] at e
   subst e
   cases k<;>simp [Zbu] at h ⊢
structure MemI (S0:Nat→Prop) (w0:World) (s:St) (L:Nat→Nat) (w:World):Prop where
 blk:∀ b t cs,s.bl b=some (t,cs)→Blk t w (L b) (cs.map (AV.conc L)).toArray
 inj:∀ b c,(s.bl b).isSome=true→(s.bl c).isSome=true→L b=L c→b=c
 old:∀ b,(s.bl b).isSome=true→w0.heap.size≤L b∨S0 (L b)
 ext:Fr S0 w0 w
 slp:∀ i b off,s.sl i=some (.p b off)→(s.bl b).isSome=true
 cel:∀ b t cs,s.bl b=some (t,cs)→∀ x,x ∈ cs→Zbu x=true∧∀ c off,x=.p c off→(s.bl c).isSome=true
def Box (S:Nat→Prop) (w:World) (Φ:World→Prop):Prop:=∀ w',Fr S w w'→Φ w'
theorem Box.self {S:Nat→Prop} {w:World} {Φ:World→Prop} (h:Box S w Φ):Φ w:=h w (Fr.refl _ _)
theorem Box.fr {S:Nat→Prop} {w w':World} {Φ:World→Prop} (h:Box S w Φ) (hf:Fr S w w'):Box S w' Φ:=fun w'' h'=>h w'' (hf.trans h')
theorem Box.ext {S:Nat→Prop} {w w':World} {Φ:World→Prop} (h:Box S w Φ) (hf:Ext w w'):Box S w' Φ:=h.fr (hf.mono (fun _ _ f=>f.elim))
theorem Box.and {S:Nat→Prop} {w:World} {Φ Ψ:World→Prop} (h:Box S w Φ) (k:Box S w Ψ):Box S w (fun w=>Φ w∧Ψ w):=fun w' hf=>⟨h w' hf,k w' hf⟩
theorem Box.mono {S:Nat→Prop} {w:World} {Φ Ψ:World→Prop} (h:Box S w Φ) (k:∀ w,Φ w→Ψ w):Box S w Ψ:=fun w' hf=>k _ (h w' hf)
def St.own (s:St) (L:Nat→Nat):Nat→Prop:=fun i=>∃ b,(s.bl b).isSome=true∧L b=i
structure Inv (N:Nat) (S0:Nat→Prop) (w0:World) (s:St) (Φ:World→Prop) (L:Nat→Nat) (a:Act) (w:World):Prop where
 size:a.tmps.size=N
 df:a.defers=[]
 sl:∀ i x,s.sl i=some x→a.tmps[i]? = some (x.conc L)
 mem:MemI S0 w0 s L w
 box:Box (s.own L) w Φ
def St.eval (s:St):Operand→Option AV
 | .tmp t=>s.sl t
 | .const v=>some (.v v)
 | .global g=>some (.v (.pointer (some ⟨g,0,none⟩)))
 | .func f=>some (.v (.func (.func f) #[] #[]))
section
variable {N:Nat} {S0:Nat→Prop} {w0:World} {s:St} {Φ:World→Prop} {L:Nat→Nat} {a:Act} {w:World} {P:Program} {ops:Array Oper}
theorem Inv.eval (h:Inv N S0 w0 s Φ L a w) {x:Operand} {y:AV} (hx:s.eval x=some y):a.eval x=y.conc L:=by
 cases x with
 | tmp t=>have:=h.sl t y hx; simp [Act.eval,this]
 | const v=>simp only [St.eval,Option.some.injEq] at hx; subst hx; rfl
 | global g=>simp only [St.eval,Option.some.injEq] at hx; subst hx; rfl
 | func f=>simp only [St.eval,Option.some.injEq] at hx; subst hx; rfl
theorem MemI.evp (h:MemI S0 w0 s L w) {x:Operand} {b off:Nat} (hx:s.eval x=some (.p b off)):(s.bl b).isSome=true:=by
 cases x with
 | tmp t=>exact h.slp t b off hx
 | const v=>simp [St.eval] at hx
 | global g=>simp [St.eval] at hx
 | func f=>simp [St.eval] at hx
def St.rho (s:St):Operand→Value:=fun x=>match s.eval x with | some (.v y)=>y | _=>undef
def St.vB (s:St) (x:Operand):Bool:=match s.eval x with | some (.v _)=>true | _=>false
theorem Zd2 {x:Operand} (h:s.vB x=true):s.eval x=some (.v (s.rho x)):=by
 unfold St.vB at h; unfold St.rho
 split at h
 ·rename_i y e; rw [e]
 ·cases h
def Za0:Op→Bool
 | .select _ _=>false
 | _=>true
theorem Inv.rho (h:Inv N S0 w0 s Φ L a w) {l:List Operand} (hl:l.all s.vB=true) {x:Operand} (hx:x ∈ l):a.eval x=s.rho x :=
 h.eval (Zd2 (List.all_eq_true.1 hl x hx))
theorem Inv.exec (h:Inv N S0 w0 s Φ L a w) {o:Oper} (hs:Za0 o.op=true) (hl:o.op.operands.toList.all s.vB=true):execOp a.eval o=execOp s.rho o :=
 execOp_congr o (fun cs b e=>by rw [e] at hs; cases hs) (fun x hx=>h.rho hl (by simpa using hx))
def Zdf (P:Program) {α:Type}:Sem α→Option α
 | .pure a=>some a
 | .program k=>Zdf P (k P)
 | .mark _ k=>Zdf P k
 | _=>none
theorem Zfw {α:Type} {x:Sem α} {y:α} (h:Zdf P x=some y) (w:World):x.run P w=.ok y w:=by
 induction x with
 | pure a=>simp only [Zdf,Option.some.injEq] at h; subst h; rfl
 | program k ih=>exact ih P h
 | mark m k ih=>exact ih h
 | _=>simp [Zdf] at h
structure TE where
 size:Nat
 agg:Bool
 zero:List Value
 offs:List (Option Nat)
def Zic (P:Program) (f:Field):Option Nat :=
 match P.info? f.type with
 | some j=>bif Nat.beq j.size 0 then none else some f.offset
 | none=>none
def Zgm (P:Program):TypeDesc→List (Option Nat)
 | .struct fs=>fs.toList.map (Zic P)
 | _=>[]
def Zlq:TypeDesc→Bool
 | .struct _=>true
 | .array _ _=>true
 | _=>false
def teOf (P:Program) (t:TypeId):Option TE :=
 match P.info? t,P.underlying t with
 | some i,some d =>
   match i.zero with
   | some z=>some ⟨i.size,Zlq d,z.cells.toList,Zgm P d⟩
   | none=>none
 | _,_=>none
theorem ZdF {t:TypeId} {e:TE} (h:teOf P t=some e):∃ i d z,P.info? t=some i∧P.underlying t=some d∧i.zero=some z∧e.size=i.size∧e.zero=z.cells.toList ∧
 e.agg=Zlq d∧e.offs=Zgm P d:=by
 unfold teOf at h
 split at h
 ·rename_i i d hi hd
  split at h
  ·rename_i z hz
   injection h with h
   subst h
   exact ⟨i,d,z,hi,hd,hz,rfl,rfl,rfl,rfl⟩
  ·cases h
 ·cases h
theorem Zgn {t:TypeId} {e:TE} (h:teOf P t=some e):(sizeOf t).run P w=.ok e.size w:=by
 obtain ⟨i,d,z,hi,hd,hz,hs,_⟩:=ZdF h
 simp [sizeOf,typeInfo,hi,hs]
theorem Zhi {t:TypeId} {e:TE} (h:teOf P t=some e):(isAgg t).run P w=.ok e.agg w:=by
 obtain ⟨i,d,z,hi,hd,hz,hs,hz',ha,_⟩:=ZdF h
 simp only [isAgg,underlying,Sem.run_bind,run_program,Result.andThen_ok,hd,Sem.run_pure,ha]
 cases d<;>rfl
theorem ZbR (g off n:Nat):(⟨g,off,none⟩:Addr).add n=⟨g,off + n,none⟩:=by
 unfold Addr.add
 split
 ·subst_vars; rfl
 ·rfl
theorem Zex {g off:Nat}:∀ (cs:List Value) (i:Nat) (acc:Array Value),(∀ j,j < cs.length→w.cell? ⟨g,off + (i + j),none⟩=some (cs[j]?.getD undef)) →
 (loadCellsFrom ⟨g,off,none⟩ i cs.length acc).run P w=.ok (acc ++ cs.toArray) w
 | [],i,acc,_=>by simp [loadCellsFrom]
 | c :: cs,i,acc,h=>by
   have h0:=h 0 (by simp)
   simp only [Nat.add_zero,List.getElem?_cons_zero,Option.getD_some] at h0
   have ih:=Zex (g:=g) (off:=off) cs (i + 1) (acc.push c) (fun j hj=>by
    have:=h (j + 1) (by simp; omega)
    simp only [List.getElem?_cons_succ] at this
    rw [← this]; congr 2; omega)
   simp only [List.length_cons,loadCellsFrom,Sem.run_bind,run_load,ZbR,h0,Result.andThen_ok,ih]
   simp
theorem Zc6 {t:TypeId} {e:TE} (h:teOf P t=some e) {g off:Nat} {cs:List Value} (hn:cs.length=e.size) (hc:∀ j,j < cs.length→w.cell? ⟨g,off + j,none⟩=some (cs[j]?.getD undef)) (ha:e.agg=true) :
 (Instr.loadAt t (.pointer (some ⟨g,off,none⟩))).run P w=.ok (.agg cs.toArray) w:=by
 have:=Zex (P:=P) (w:=w) (g:=g) (off:=off) cs 0 #[] (fun j hj=>by rw [Nat.zero_add]; exact hc j hj)
 simp only [Instr.loadAt,Instr.sureAddr,Sem.run_bind,Sem.run_pure,Result.andThen_ok,loadVar,Zhi h,ha,if_true,Zgn h,loadCells,← hn,this]
 simp
theorem ZdT {t:TypeId} {e:TE} (h:teOf P t=some e) {g off:Nat} {c:Value} (hc:w.cell? ⟨g,off,none⟩=some c) (ha:e.agg=false) :
 (Instr.loadAt t (.pointer (some ⟨g,off,none⟩))).run P w=.ok c w:=by
 simp only [Instr.loadAt,Instr.sureAddr,Sem.run_bind,Sem.run_pure,Result.andThen_ok,loadVar,Zhi h,ha,Bool.false_eq_true,if_false,run_load,hc]
def ZbB {α:Type} (l:List α) (off:Nat) (cs:List α):List α:=l.take off ++ cs ++ l.drop (off + cs.length)
theorem Zd3 {g bt:Nat}:∀ (cs:List Value) (i off:Nat) (cur:List Value) (w:World),Blk bt w g cur.toArray→off + i + cs.length≤cur.length→(∀ c,c ∈ cs→c.oneCell'=true) →
 ∃ w',(storeCells ⟨g,off,none⟩ cs i).run P w=.ok () w'∧Blk bt w' g (ZbB cur (off + i) cs).toArray∧Fr (fun k=>k=g) w w'
 | [],i,off,cur,w,hB,hl,_=>by
   refine ⟨w,by simp [storeCells],?_,Fr.refl _ _⟩
   simpa [ZbB] using hB
 | c :: cs,i,off,cur,w,hB,hl,h1=>by
   simp only [List.length_cons] at hl
   have hc:w.cell? ⟨g,off + i,none⟩=some (cur[off + i]?.getD undef):=by
    rw [hB.cell]
    simp [show off + i < cur.length by omega]
   have hB':=hB.set_ (off + i) c
   have e:(cur.toArray.setIfInBounds (off + i) c)=(cur.set (off + i) c).toArray:=by simp
   rw [e] at hB'
   obtain ⟨w',hr,hb,hf⟩:=Zd3 cs (i + 1) off (cur.set (off + i) c) _ hB' (by simp; omega) (fun c hc=>h1 c (by simp [hc]))
   refine ⟨w',?_,?_,((Fr.refl (fun k=>k=g) w).setCell (p:=⟨g,off + i,none⟩) (Or.inl rfl) c).trans hf⟩
   ·simp only [storeCells,Sem.run_bind,ZbR,run_store P w ⟨g,off + i,none⟩ c .plain (h1 c (by simp)),hc,hB.frozen,Bool.false_eq_true,if_false,Result.andThen_ok,hr]
   ·have:ZbB (cur.set (off + i) c) (off + (i + 1)) cs=ZbB cur (off + i) (c :: cs):=by
     unfold ZbB
     rw [show off + (i + 1)=off + i + 1 by omega,List.take_succ_eq_append_getElem (by simp; omega)]
     simp only [List.length_cons,List.getElem_set_self,List.append_assoc,List.cons_append,List.nil_append]
     rw [List.take_set_of_le (by omega),List.drop_set_of_lt (by omega),show off + i + 1 + cs.length=off + i + (cs.length + 1) by omega]
    rw [this] at hb
    exact hb
theorem ZiN {t:TypeId} {e:TE} (h:teOf P t=some e) {g bt off:Nat} {cur:List Value} {v:Value} (hB:Blk bt w g cur.toArray) (hn:v.cells.toList.length=e.size) (hl:off + v.cells.toList.length≤cur.length) (h1:∀ c,c ∈ v.cells.toList→c.oneCell'=true) :
 ∃ w',(Instr.storeAt t (.pointer (some ⟨g,off,none⟩)) v).run P w=.ok () w'∧Blk bt w' g (ZbB cur off v.cells.toList).toArray∧Fr (fun k=>k=g) w w':=by
 obtain ⟨w',hr,hb,hf⟩:=Zd3 (P:=P) v.cells.toList 0 off cur w hB (by simpa using hl) h1
 refine ⟨w',?_,by simpa using hb,hf⟩
 have:v.cells.size=e.size:=by simpa using hn
 simp only [Instr.storeAt,Instr.sureAddr,Sem.run_bind,Sem.run_pure,Result.andThen_ok,storeVar,Zgn h,this]
 simpa using hr
theorem Zke {t:TypeId} {e:TE} (h:teOf P t=some e):(Instr.alloc t true (.tuple #[])).run P w=.ok (.pointer (some ⟨w.heap.size,0,none⟩)) (w.alloc (.cells e.zero.toArray t)):=by
 obtain ⟨i,d,z,hi,hd,hz,hs,hz',_⟩:=ZdF h
 simp [Instr.alloc,zeroValue,typeInfo,hi,hz,newVar,newRow,hz']
theorem ZlJ {t:TypeId} {v:Value}:(Instr.box t v).run P w=.ok (.pointer (some ⟨w.heap.size,0,none⟩)) (w.alloc (.cells v.cells t)):=by
 simp [Instr.box,newVar,newRow]
theorem Zkf {t f g off k:Nat} {e:TE} (h:teOf P t=some e) (hk:e.offs[f]? = some (some k)):(Instr.fieldAt t (.pointer (some ⟨g,off,none⟩)) f).run P w=.ok (.pointer (some ⟨g,off + k,none⟩)) w:=by
 obtain ⟨i,d,z,hi,hd,hz,hs,hz',ha,ho⟩:=ZdF h
 rw [ho] at hk
 cases d with
 | struct fs =>
   simp only [Zgm,List.getElem?_map,Array.getElem?_toList,Option.map_eq_some_iff] at hk
   obtain ⟨fl,hfl,hq⟩:=hk
   unfold Zic at hq
   split at hq
   ·rename_i j hj
    cases hb:Nat.beq j.size 0 with
    | true=>rw [hb] at hq; simp at hq
    | false =>
      rw [hb] at hq
      simp only [cond_false,Option.some.injEq] at hq
      have hj0:j.size≠0:=fun e=>by rw [e] at hb; simp at hb
      simp only [Instr.fieldAt,underlying,Sem.run_bind,run_program,Result.andThen_ok,hd,Sem.run_pure,hfl,Instr.sureAddr,fieldPlace,sizeOf,typeInfo,hj,hj0,if_false,ZbR,hq]
   ·cases hq
 | _=>simp [Zgm] at hk
end
end Go.Proofs.YtcpjeaaapocoeaaGreatDoor

namespace Go.Proofs.YtcpjeaaapocoeaaGreatDoor
open Go.RowKit
def Zd4:List AV→Option (List Value)
 | []=>some []
 | .v x :: l=>match Zd4 l with | some m=>some (x :: m) | none=>none
 | .p _ _ :: _=>none
theorem ZiO {l:List AV} {m:List Value} (h:Zd4 l=some m) (L:Nat→Nat):l.map (AV.conc L)=m:=by
 induction l generalizing m with
 | nil=>simp only [Zd4,Option.some.injEq] at h; subst h; rfl
 | cons x l ih =>
   cases x with
   | p b off=>simp [Zd4] at h
   | v x =>
     unfold Zd4 at h
     split at h
     ·rename_i m' hm
      injection h with h
      subst h
      simp only [List.map_cons,ih hm,AV.conc]
     ·cases h
def Zaw:AV→List AV
 | .v x=>x.cells.toList.map .v
 | .p b off=>[.p b off]
theorem ZeW (L:Nat→Nat) (x:AV):(Zaw x).map (AV.conc L)=(x.conc L).cells.toList:=by
 cases x with
 | v x=>simp only [Zaw,AV.conc,List.map_map]; exact (List.map_congr_left (fun _ _=>rfl)).trans (List.map_id _)
 | p b off=>rfl
theorem mapv (L:Nat→Nat) (l:List Value):(l.map AV.v).map (AV.conc L)=l:=by
 rw [List.map_map]; exact (List.map_congr_left (fun _ _=>rfl)).trans (List.map_id _)
abbrev NewB:=Option (TypeId × List AV)
def St.app (s:St) (d:Nat) (r:AV × NewB):St:={ sl:=upd s.sl d r.1,bl:=match r.2 with | none=>s.bl | some q=>upd s.bl d q }
def St.put (s:St) (d:Nat) (x:AV):St:={ s with sl:=upd s.sl d x }
def St.wantB (s:St) (ops:Array Oper) (o:Oper):Option Bool :=
 match o.guard with
 | none=>some true
 | some (g,want) =>
   match (ops[g]?).bind (·.dst) with
   | none=>none
   | some t=>match s.sl t with
     | some (.v (.bool b))=>some (b == want)
     | some (.v (.tuple _))=>some false
     | _=>none
def ZaS (P:Program) (o:Oper) (s:St):Option AV :=
 bif Za0 o.op && o.op.operands.toList.all s.vB then (match Zdf P (execOp s.rho o) with | some (.value y)=>some (.v y) | _=>none) else none
def Zdp (P:Program) (s:St) (t:TypeId) (b off:Nat):Option AV :=
 match teOf P t,s.bl b with
 | some e,some (_,cs) =>
   bif e.agg then (bif Nat.ble (off + e.size) cs.length then (match Zd4 ((cs.drop off).take e.size) with | some l=>some (.v (.agg l.toArray)) | none=>none) else none)
   else cs[off]?
 | _,_=>none
def ZcY (s:St) (d:Option Nat) (t:TypeId) (cs:List AV):Option (AV × NewB) :=
 match d with
 | some d=>bif (s.bl d).isNone && cs.all Zbu then some (.p d 0,some (t,cs)) else none
 | none=>none
def noB (x:Option AV):Option (AV × NewB):=match x with | some y=>some (y,none) | none=>none
def Za6 (P:Program) (ops:Array Oper) (o:Oper) (s:St):Option (AV × NewB) :=
 match s.wantB ops o with
 | none=>none
 | some false=>some (.v undef,none)
 | some true =>
   match o.op with
   | .move x=>noB (s.eval x)
   | .assign x=>noB (s.eval x)
   | .pick c x y=>match s.eval c with
     | some (.v (.bool b))=>noB (bif b then s.eval x else s.eval y)
     | _=>none
   | .alloc t=>match teOf P t with | some e=>ZcY s o.dst t (e.zero.map .v) | none=>none
   | .box t x=>match s.eval x with | some y=>ZcY s o.dst t (Zaw y) | none=>none
   | .fieldAddr t x f=>match s.eval x with
     | some (.p b off)=>match teOf P t with
       | some e=>match e.offs[f]? with | some (some k)=>some (.p b (off + k),none) | _=>none
       | none=>none
     | _=>noB (ZaS P o s)
   | .load t x=>match s.eval x with
     | some (.p b off)=>noB (Zdp P s t b off)
     | _=>none
   | .nilCheck x=>match s.eval x with
     | some (.p b off)=>some (.p b off,none)
     | _=>noB (ZaS P o s)
   | _=>noB (ZaS P o s)
section
variable {N:Nat} {S0:Nat→Prop} {w0:World} {s:St} {Φ:World→Prop} {L:Nat→Nat} {a:Act} {w:World} {P:Program} {ops:Array Oper} {Q:Exit→Act→World→Prop}
theorem Inv.want (h:Inv N S0 w0 s Φ L a w) {o:Oper} {r:Bool} (hw:s.wantB ops o=some r):Region.wanted o (yielded ops a.tmps)=r:=by
 unfold St.wantB at hw
 unfold Region.wanted
 split at hw
 ·rename_i e; rw [e]; injection hw
 ·rename_i g want e
  rw [e]
  split at hw
  ·cases hw
  ·rename_i t ht
   split at hw
   ·rename_i b hb
    injection hw with hw
    subst hw
    have:=h.sl t _ hb
    simp only [AV.conc] at this
    simp only [yielded,ht,Option.bind_some,this]
    rfl
   ·rename_i vs hb
    injection hw with hw
    subst hw
    have:=h.sl t _ hb
    simp only [AV.conc] at this
    simp only [yielded,ht,Option.bind_some,this]
    rfl
   ·cases hw
def AV.al (s:St) (x:AV):Prop:=∀ b off,x=.p b off→(s.bl b).isSome=true
theorem al_v (x:Value):AV.al s (.v x):=fun _ _ e=>by cases e
theorem Inv.app0 (h:Inv N S0 w0 s Φ L a w) {d:Nat} (hd:d < N) {x:AV} (hx:x.al s):Inv N S0 w0 (s.app d (x,none)) Φ L (a.put (some d) (x.conc L)) w:=by
 refine ⟨by simp [Act.put,h.size],h.df,fun i y hy=>?_,⟨h.mem.blk,h.mem.inj,h.mem.old,h.mem.ext,fun i b off hi=>?_,h.mem.cel⟩,h.box⟩
 ·by_cases e:i=d
  ·subst e
   simp only [St.app,ZaM,Option.some.injEq] at hy
   subst hy
   simp [Act.put,h.size,hd]
  ·simp only [St.app,Zay _ _ e] at hy
   simp only [Act.put]
   rw [Array.getElem?_setIfInBounds_ne (Ne.symm e)]
   exact h.sl i y hy
 ·by_cases e:i=d
  ·subst e
   simp only [St.app,ZaM,Option.some.injEq] at hi
   exact hx b off hi
  ·simp only [St.app,Zay _ _ e] at hi
   exact h.mem.slp i b off hi
def newL (L:Nat→Nat) (d g:Nat):Nat→Nat:=fun b=>if b=d then g else L b
theorem Zid {d g:Nat} (h0:s.bl d=none) {x:AV} (hx:x.al s):x.conc (newL L d g)=x.conc L:=by
 cases x with
 | v x=>rfl
 | p b off =>
   have:=hx b off rfl
   have hne:b≠d:=fun e=>by rw [e,h0] at this; cases this
   simp [AV.conc,newL,hne]
theorem Inv.appN (h:Inv N S0 w0 s Φ L a w) {d:Nat} (hd:d < N) (h0:s.bl d=none) {t:TypeId} {cs:List AV} (hc:∀ x,x ∈ cs→Zbu x=true∧x.al s) :
 Inv N S0 w0 (s.app d (.p d 0,some (t,cs))) Φ (newL L d w.heap.size) (a.put (some d) (.pointer (some ⟨w.heap.size,0,none⟩))) (w.alloc (.cells (cs.map (AV.conc L)).toArray t)):=by
 have hlt:∀ b,(s.bl b).isSome=true→L b < w.heap.size:=fun b hb=>by
  obtain ⟨⟨t',cs'⟩,e⟩:=Option.isSome_iff_exists.1 hb
  exact (h.mem.blk b t' cs' e).lt
 have ne_of:∀ b,(s.bl b).isSome=true→b≠d:=fun b hb e=>by rw [e,h0] at hb; cases hb
 have hblne:∀ b,b≠d→(s.app d (.p d 0,some (t,cs))).bl b=s.bl b:=fun b e=>Zay _ _ e
 have hbld:(s.app d (.p d 0,some (t,cs))).bl d=some (t,cs):=ZaM _ _ _
 have hmapold:∀ (l:List AV),(∀ x,x ∈ l→x.al s)→l.map (AV.conc (newL L d w.heap.size))=l.map (AV.conc L):=fun l hl=>List.map_congr_left (fun x hx=>Zid h0 (hl x hx))
 have hLd:newL L d w.heap.size d=w.heap.size:=by simp [newL]
 have hLne:∀ b,b≠d→newL L d w.heap.size b=L b:=fun b e=>by simp [newL,e]
 refine ⟨by simp [Act.put,h.size],h.df,fun i y hy=>?_,⟨fun b t' cs' hb=>?_,fun b c hb hc' e=>?_,fun b hb=>?_,h.mem.ext.alloc _,fun i b off hi=>?_,fun b t' cs' hb x hx=>?_⟩,?_⟩
 ·by_cases e:i=d
  ·subst e
   simp only [St.app,ZaM,Option.some.injEq] at hy
   subst hy
   simp [Act.put,h.size,hd,AV.conc,newL]
  ·simp only [St.app,Zay _ _ e] at hy
   simp only [Act.put]
   rw [Array.getElem?_setIfInBounds_ne (Ne.symm e),h.sl i y hy]
   rw [Zid h0 (fun b off e'=>h.mem.slp i b off (by rw [hy,e']))]
 ·by_cases e:b=d
  ·subst e
   rw [hbld] at hb
   injection hb with hb
   injection hb with h1 h2
   subst h1; subst h2
   rw [hLd,hmapold _ (fun x hx=>(hc x hx).2)]
   exact Blk.new _ _ _
  ·rw [hblne b e] at hb
   rw [hLne b e,hmapold _ (fun x hx=>(h.mem.cel b t' cs' hb x hx).2)]
   exact (h.mem.blk b t' cs' hb).alloc _
 ·by_cases e1:b=d
  ·by_cases e2:c=d
   ·rw [e1,e2]
   ·rw [hblne c e2] at hc'
    rw [e1,hLd,hLne c e2] at e
    have:=hlt c hc'
    omega
  ·rw [hblne b e1] at hb
   by_cases e2:c=d
   ·rw [e2,hLd,hLne b e1] at e
    have:=hlt b hb
    omega
   ·rw [hblne c e2] at hc'
    rw [hLne b e1,hLne c e2] at e
    exact h.mem.inj b c hb hc' e
 ·by_cases e:b=d
  ·rw [e,hLd]; exact Or.inl h.mem.ext.size
  ·rw [hblne b e] at hb
   rw [hLne b e]; exact h.mem.old b hb
 ·by_cases e:b=d
  ·rw [e,hbld]; rfl
  ·rw [hblne b e]
   by_cases e2:i=d
   ·subst e2
    simp only [St.app,ZaM,Option.some.injEq] at hi
    injection hi with h1 h2
    exact absurd h1.symm e
   ·simp only [St.app,Zay _ _ e2] at hi
    exact h.mem.slp i b off hi
 ·have key:Zbu x=true∧x.al s:=by
   by_cases e:b=d
   ·subst e
    rw [hbld] at hb
    injection hb with hb
    injection hb with h1 h2
    subst h2
    exact hc x hx
   ·rw [hblne b e] at hb
    exact h.mem.cel b t' cs' hb x hx
  refine ⟨key.1,fun c off e=>?_⟩
  have:=key.2 c off e
  rw [hblne c (ne_of c this)]; exact this
 ·intro w' hf
  refine h.box w' (((Fr.refl (s.own L) w).alloc (.cells (cs.map (AV.conc L)).toArray t)).next hf (fun i hi hT=>?_))
  obtain ⟨b,hb,hL⟩:=hT
  by_cases e:b=d
  ·rw [e,hLd] at hL; omega
  ·rw [hblne b e] at hb
   rw [hLne b e] at hL
   exact ⟨b,hb,hL⟩
theorem ZhB (hi:Inv N S0 w0 s Φ L a w) {o:Oper} {x:AV} (h:ZaS P o s=some x):∃ y,x=.v y∧(execOp a.eval o).run P w=.ok (.value y) w:=by
 unfold ZaS at h
 cases hb:Za0 o.op && o.op.operands.toList.all s.vB with
 | false=>rw [hb] at h; cases h
 | true =>
   rw [hb] at h
   rw [Bool.and_eq_true] at hb
   simp only [cond_true] at h
   split at h
   ·rename_i y hy
    injection h with h
    refine ⟨y,h.symm,?_⟩
    rw [hi.exec hb.1 hb.2]
    exact Zfw hy w
   ·cases h
theorem ZeX (hi:Inv N S0 w0 s Φ L a w) {t b off:Nat} {x:AV} (h:Zdp P s t b off=some x):x.al s∧(Instr.loadAt t (.pointer (some ⟨L b,off,none⟩))).run P w=.ok (x.conc L) w:=by
 unfold Zdp at h
 split at h
 ·rename_i e bt cs he hb
  have hB:=hi.mem.blk b bt cs hb
  cases ha:e.agg with
  | true =>
    rw [ha] at h
    simp only [cond_true] at h
    cases hle:Nat.ble (off + e.size) cs.length with
    | false=>rw [hle] at h; cases h
    | true =>
      rw [hle] at h
      simp only [cond_true] at h
      have hle':=Nat.le_of_ble_eq_true hle
      split at h
      ·rename_i l hl
       injection h with h
       subst h
       refine ⟨al_v _,?_⟩
       have hl':=ZiO hl L
       have hlen:l.length=e.size:=by rw [← hl',List.length_map,List.length_take,List.length_drop]; omega
       refine Zc6 he hlen (fun j hj=>?_) ha
       rw [hB.cell,← hl']
       rw [List.getElem?_toArray,List.getElem?_map,List.getElem?_map,List.getElem?_take_of_lt (by omega),List.getElem?_drop]
       rw [List.getElem?_eq_getElem (by omega)]
       rfl
      ·cases h
  | false =>
    rw [ha] at h
    simp only [cond_false] at h
    have hm:x ∈ cs:=List.mem_of_getElem? h
    refine ⟨(hi.mem.cel b bt cs hb x hm).2,ZdT he ?_ ha⟩
    rw [hB.cell,List.getElem?_toArray,List.getElem?_map,h]
    rfl
 ·cases h
theorem Zc7 {d:Option Nat} {t:TypeId} {cs:List AV} {r:AV × NewB} (h:ZcY s d t cs=some r):∃ k,d=some k∧r=(.p k 0,some (t,cs))∧s.bl k=none∧∀ x,x ∈ cs→Zbu x=true:=by
 unfold ZcY at h
 split at h
 ·rename_i k
  cases hb:(s.bl k).isNone && cs.all Zbu with
  | false=>rw [hb] at h; cases h
  | true =>
    rw [hb] at h
    simp only [cond_true,Option.some.injEq] at h
    rw [Bool.and_eq_true] at hb
    exact ⟨k,rfl,h.symm,Option.isNone_iff_eq_none.1 hb.1,fun x hx=>List.all_eq_true.1 hb.2 x hx⟩
 ·cases h
def Yld (N:Nat) (S0:Nat→Prop) (w0:World) (P:Program) (ops:Array Oper) (o:Oper) (s:St) (Φ:World→Prop) (a:Act) (w:World):Prop :=
 ∃ (v:Value) (w':World) (L':Nat→Nat),Inv N S0 w0 s Φ L' (a.put o.dst v) w' ∧
   ((Region.wanted o (yielded ops a.tmps)=true∧(execOp a.eval o).run P w=.ok (.value v) w')∨(Region.wanted o (yielded ops a.tmps)=false∧v=undef∧w'=w))
theorem ZaJ {x:Option AV} {r:AV × NewB} (h:noB x=some r):∃ y,x=some y∧r=(y,none):=by
 cases x with
 | none=>cases h
 | some y=>injection h with h; exact ⟨y,rfl,h.symm⟩
theorem Zhj (hi:Inv N S0 w0 s Φ L a w) {o:Oper} {r:AV × NewB} (h:Za6 P ops o s=some r) {d:Nat} (hd:o.dst=some d) (hN:d < N):Yld N S0 w0 P ops o (s.app d r) Φ a w:=by
 have same:∀ (x:AV),r=(x,none)→x.al s→Region.wanted o (yielded ops a.tmps)=true→(execOp a.eval o).run P w=.ok (.value (x.conc L)) w→Yld N S0 w0 P ops o (s.app d r) Φ a w :=
  fun x e hx hw hr=>by subst e; exact ⟨x.conc L,w,L,by rw [hd]; exact hi.app0 hN hx,Or.inl ⟨hw,hr⟩⟩
 have pur:noB (ZaS P o s)=some r→Region.wanted o (yielded ops a.tmps)=true→Yld N S0 w0 P ops o (s.app d r) Φ a w:=fun h hw=>by
  obtain ⟨x,hx,e⟩:=ZaJ h
  obtain ⟨y,e2,hr⟩:=ZhB hi hx
  subst e2
  exact same (.v y) e (al_v y) hw hr
 have evl:∀ {x:Operand} {y:AV},s.eval x=some y→y.al s:=fun hx b off e=>hi.mem.evp (off:=off) (by subst e; exact hx)
 have new:∀ {t:TypeId} {cs:List AV} {c0:Array Value},ZcY s o.dst t cs=some r→(∀ x,x ∈ cs→x.al s)→(cs.map (AV.conc L)).toArray=c0→Region.wanted o (yielded ops a.tmps)=true →
  (execOp a.eval o).run P w=.ok (.value (.pointer (some ⟨w.heap.size,0,none⟩))) (w.alloc (.cells c0 t))→Yld N S0 w0 P ops o (s.app d r) Φ a w:=fun h hal e hw hr=>by
  obtain ⟨k,hk,e1,h0,hc⟩:=Zc7 h
  rw [hd] at hk
  injection hk with hk
  subst hk; subst e1; subst e
  exact ⟨_,_,_,by rw [hd]; exact hi.appN hN h0 (fun x hx=>⟨hc x hx,hal x hx⟩),Or.inl ⟨hw,hr⟩⟩
 unfold Za6 at h
 split at h
 ·cases h
 ·rename_i hw
  injection h with h
  subst h
  exact ⟨undef,w,L,by rw [hd]; exact hi.app0 (x:=.v undef) hN (al_v _),Or.inr ⟨hi.want hw,rfl,rfl⟩⟩
 ·rename_i hw
  have hw':=hi.want hw
  split at h
  ·rename_i x ho
   obtain ⟨y,hy,e⟩:=ZaJ h
   exact same y e (evl hy) hw' (by simp only [execOp,ho,Sem.run_pure,hi.eval hy])
  ·rename_i x ho
   obtain ⟨y,hy,e⟩:=ZaJ h
   exact same y e (evl hy) hw' (by simp only [execOp,ho,Sem.run_pure,hi.eval hy])
  ·rename_i c x y ho
   split at h
   ·rename_i b hb
    obtain ⟨z,hz,e⟩:=ZaJ h
    have hc:=hi.eval hb
    simp only [AV.conc] at hc
    cases b with
    | true =>
      simp only [cond_true] at hz
      exact same z e (evl hz) hw' (by simp only [execOp,ho,hc,asBool,Sem.run_bind,Sem.run_pure,Result.andThen_ok,if_true,hi.eval hz])
    | false =>
      simp only [cond_false] at hz
      exact same z e (evl hz) hw' (by simp only [execOp,ho,hc,asBool,Sem.run_bind,Sem.run_pure,Result.andThen_ok,Bool.false_eq_true,if_false,hi.eval hz])
   ·cases h
  ·rename_i t ho
   split at h
   ·rename_i e he
    refine new (c0:=e.zero.toArray) h (fun x hx=>?_) (by rw [mapv]) hw' (by simp only [execOp,ho,Sem.run_bind,Zke he,Result.andThen_ok,Sem.run_pure])
    obtain ⟨y,_,rfl⟩:=List.mem_map.1 hx
    exact al_v y
   ·cases h
  ·rename_i t x ho
   split at h
   ·rename_i y hy
    refine new (c0:=(y.conc L).cells) h (fun z hz=>?_) (by rw [ZeW]) hw' (by simp only [execOp,ho,Sem.run_bind,hi.eval hy,ZlJ,Result.andThen_ok,Sem.run_pure])
    cases y with
    | v y=>obtain ⟨c,_,rfl⟩:=List.mem_map.1 hz; exact al_v c
    | p b off=>simp only [Zaw,List.mem_singleton] at hz; subst hz; exact evl hy
   ·cases h
  ·rename_i t x f ho
   split at h
   ·rename_i b off hb
    split at h
    ·rename_i e he
     split at h
     ·rename_i k hk
      injection h with h
      have hx:=hi.eval hb
      simp only [AV.conc] at hx
      refine same (.p b (off + k)) h.symm (fun c o' e'=>?_) hw' (by simp only [execOp,ho,Sem.run_bind,hx,Zkf he hk,Result.andThen_ok,Sem.run_pure,AV.conc])
      injection e' with e1 _
      rw [← e1]
      exact evl hb b off rfl
     ·cases h
    ·cases h
   ·exact pur h hw'
  ·rename_i t x ho
   split at h
   ·rename_i b off hb
    obtain ⟨z,hz,e⟩:=ZaJ h
    obtain ⟨hal,hr⟩:=ZeX hi hz
    have hx:=hi.eval hb
    simp only [AV.conc] at hx
    exact same z e hal hw' (by simp only [execOp,ho,Sem.run_bind,hx,hr,Result.andThen_ok,Sem.run_pure])
   ·cases h
  ·rename_i x ho
   split at h
   ·rename_i b off hb
    injection h with h
    have hx:=hi.eval hb
    simp only [AV.conc] at hx
    exact same (.p b off) h.symm (evl hb) hw' (by simp only [execOp,ho,hx,Sem.run_pure,AV.conc])
   ·exact pur h hw'
  ·exact pur h hw'
theorem Yld.step {o:Oper} (h:Yld N S0 w0 P ops o s Φ a w) {K:Act→World→Prop} (hK:∀ L a w,Inv N S0 w0 s Φ L a w→K a w) :
 if Region.wanted o (yielded ops a.tmps)=true then o.wp P a w K Q else K (a.put o.dst undef) w:=by
 obtain ⟨v,w',L',hi,h | ⟨hw,rfl,rfl⟩⟩:=h
 ·rw [if_pos h.1]
  unfold Oper.wp
  rw [h.2]
  exact hK _ _ _ hi
 ·rw [if_neg (by rw [hw]; simp)]
  exact hK _ _ _ hi
end
end Go.Proofs.YtcpjeaaapocoeaaGreatDoor

namespace Go.Proofs.YtcpjeaaapocoeaaGreatDoor
open Go.RowKit
def opAt (ops:Array Oper) (i:Nat):Oper:=ops.toList.getD i default
def Zmw (cs:Array Value):Prop:=∀ (i:Nat) (k:IntKind) (z:Int),cs[i]? = some (.int k z)→k=.i64
def NRB (w:World) (i:Nat):Prop:=∃ t cs,Blk t w i cs∧Zmw cs
def BoxN (w w':World) (φ:World→Prop):Prop:=∀ S:Nat→Prop,(∀ i,S i→i < w.heap.size∧NRB w i)→Box S w' φ
theorem BoxN.pure {w w':World} {p:Prop} (h:p):BoxN w w' (fun _=>p):=fun _ _ _ _=>h
def DoR {α:Type} (sh:α→Value) (φ:α→World→Prop) (w:World) (y:Value) (w':World):Prop:=∃ x:α,y=sh x∧Ext w w'∧BoxN w w' (φ x)
def Zba {α:Type} (sh:α→Value) (φ:α→World→Prop) (w:World) (e:Ending) (w':World):Prop:=∃ x:α,e=.returned (sh x)∧Ext w w'∧BoxN w w' (φ x)
def Does (P:Program) (o:Oper) (ρ:Operand→Value) (w:World) (R:Value→World→Prop):Prop :=
 (∃ y w',(execOp ρ o).run P w=.ok (.value y) w'∧R y w') ∨
 (∃ f args w1,(execOp ρ o).run P w=.ok (.enter f args) w1∧Calls P f args w1 fun e w'=>∃ y,e=.returned y∧R y w')
def ZbZ {α:Type}:List (Nat × α)→Nat→Option α
 | []=>fun _=>none
 | q :: l=>upd (ZbZ l) q.1 q.2
theorem ZaO {α:Type} {l:List (Nat × α)} {i:Nat} {x:α} (h:ZbZ l i=some x):(i,x) ∈ l:=by
 induction l with
 | nil=>cases h
 | cons q l ih =>
   obtain ⟨k,y⟩:=q
   by_cases e:i=k
   ·subst e
    simp only [ZbZ,ZaM,Option.some.injEq] at h
    subst h
    exact List.mem_cons_self
   ·simp only [ZbZ,Zay _ _ e] at h
    exact List.mem_cons_of_mem _ (ih h)
abbrev SlL:=List (Nat × AV)
abbrev BlL:=List (Nat × TypeId × List AV)
def ofL (sl:SlL) (bl:BlL):St:=⟨ZbZ sl,ZbZ bl⟩
def alB (bl:BlL):AV→Bool
 | .v _=>true
 | .p b _=>(ZbZ bl b).isSome
def wfB (sl:SlL) (bl:BlL):Bool:=sl.all (fun q=>alB bl q.2) && bl.all (fun q=>q.2.2.all (alB bl))
def ZaX (s:St) (sl:SlL) (bl:BlL):Prop:=(sl.map (fun q=>s.sl q.1),bl.map (fun q=>s.bl q.1))=(sl.map (fun q=>some q.2),bl.map (fun q=>some q.2))
theorem ZbC {α β:Type} {f g:α→β} {l:List α} (h:l.map f=l.map g) {x:α} (hx:x ∈ l):f x=g x:=by
 induction l with
 | nil=>cases hx
 | cons y l ih =>
   simp only [List.map_cons,List.cons.injEq] at h
   rcases List.mem_cons.1 hx with e | hx
   ·rw [e]; exact h.1
   ·exact ih h.2 hx
section
variable {N:Nat} {S0:Nat→Prop} {w0:World} {s:St} {Φ Ψ:World→Prop} {L:Nat→Nat} {a:Act} {w:World} {P:Program} {ops:Array Oper} {Q:Exit→Act→World→Prop}
theorem Inv.weak (h:Inv N S0 w0 s Φ L a w) {sl:SlL} {bl:BlL} (h1:ZaX s sl bl) (h2:wfB sl bl=true) (Q:∀ w,Φ w→Ψ w):Inv N S0 w0 (ofL sl bl) Ψ L a w:=by
 unfold ZaX at h1
 injection h1 with hs hb
 unfold wfB at h2
 rw [Bool.and_eq_true] at h2
 have hs':∀ i x,(ofL sl bl).sl i=some x→s.sl i=some x:=fun i x hx=>ZbC (f:=fun q:Nat × AV=>s.sl q.1) (g:=fun q=>some q.2) hs (ZaO hx)
 have hb':∀ i x,(ofL sl bl).bl i=some x→s.bl i=some x:=fun i x hx=>ZbC (f:=fun q:Nat × TypeId × List AV=>s.bl q.1) (g:=fun q=>some q.2) hb (ZaO hx)
 have hbs:∀ b,((ofL sl bl).bl b).isSome=true→(s.bl b).isSome=true:=fun b hb=>by
  obtain ⟨q,e⟩:=Option.isSome_iff_exists.1 hb
  rw [hb' b q e]; rfl
 refine ⟨h.size,h.df,fun i x hx=>h.sl i x (hs' i x hx),⟨fun b t cs e=>h.mem.blk b t cs (hb' b _ e),fun b c hb hc=>h.mem.inj b c (hbs b hb) (hbs c hc),fun b hb=>h.mem.old b (hbs b hb),h.mem.ext,fun i b off e=>?_,fun b t cs e x hx=>⟨(h.mem.cel b t cs (hb' b _ e) x hx).1,fun c off e'=>?_⟩⟩,fun w' hf=>Q _ (h.box w' (hf.mono (fun i _ hi=>?_)))⟩
 ·have:=List.all_eq_true.1 h2.1 _ (ZaO e)
  exact this
 ·have:=List.all_eq_true.1 (List.all_eq_true.1 h2.2 _ (ZaO e)) x hx
  rw [e'] at this
  exact this
 ·obtain ⟨b,hb,e⟩:=hi
  exact ⟨b,hbs b hb,e⟩
theorem Inv.own_nrb (h:Inv N S0 w0 s Φ L a w) {i:Nat} (hi:s.own L i):i < w.heap.size∧NRB w i:=by
 obtain ⟨b,hb,e⟩:=hi
 obtain ⟨⟨t,cs⟩,eb⟩:=Option.isSome_iff_exists.1 hb
 have hB:=h.mem.blk b t cs eb
 subst e
 refine ⟨hB.lt,t,_,hB,fun j k z hj=>?_⟩
 rw [List.getElem?_toArray,List.getElem?_map,Option.map_eq_some_iff] at hj
 obtain ⟨x,hx,ex⟩:=hj
 exact Zkd (h.mem.cel b t cs eb x (List.mem_of_getElem? hx)).1 ex
theorem Inv.called (h:Inv N S0 w0 s Φ L a w) {w':World} {φ:World→Prop} (he:Ext w w') (hb:BoxN w w' φ) {d:Nat} (hd:d < N) (v:Value):Inv N S0 w0 (s.app d (.v v,none)) (fun w=>Φ w∧φ w) L (a.put (some d) v) w':=by
 have h0:=h.app0 hd (al_v (s:=s) v)
 exact ⟨h0.size,h0.df,h0.sl,⟨fun b t cs e=>(h0.mem.blk b t cs e).ext he,h0.mem.inj,h0.mem.old,h0.mem.ext.ext he,h0.mem.slp,h0.mem.cel⟩,(h0.box.ext he).and (hb _ (fun i hi=>h.own_nrb hi))⟩
theorem Zie (hi:Inv N S0 w0 s Φ L a w) {o:Oper} {d:Nat} {α:Type} {sh:α→Value} {φ:α→World→Prop} (hw:s.wantB ops o=some true) (hn:Za0 o.op=true) (hv:o.op.operands.toList.all s.vB=true) (hd:o.dst=some d) (hN:d < N)
 (hdo:∀ w,Fr S0 w0 w→Φ w→Does P o s.rho w (DoR sh φ w)) {K:Act→World→Prop} (hK:∀ x L a w,Inv N S0 w0 (s.app d (.v (sh x),none)) (fun w=>Φ w∧φ x w) L a w→K a w) :
 if Region.wanted o (yielded ops a.tmps)=true then o.wp P a w K Q else K (a.put o.dst undef) w:=by
 rw [if_pos (hi.want hw)]
 unfold Oper.wp
 rw [hi.exec hn hv]
 rcases hdo w hi.mem.ext hi.box.self with ⟨y,w',hr,x,rfl,he,hb⟩ | ⟨f,args,w1,hr,hc⟩
 ·rw [hr,Oper.upon_value,hd]
  exact hK x _ _ _ (hi.called he hb hN _)
 ·rw [hr,Oper.upon_enter]
  refine Calls.mono hc fun e w' h'=>?_
  obtain ⟨y,rfl,x,rfl,he,hb⟩:=h'
  simp only [hd]
  exact hK x _ _ _ (hi.called he hb hN _)
end
end Go.Proofs.YtcpjeaaapocoeaaGreatDoor

namespace Go.Proofs.YtcpjeaaapocoeaaGreatDoor
open Go.RowKit
def Zb0 (P:Program) (ops:Array Oper) (o:Oper) (s:St):Option St :=
 match s.wantB ops o with
 | none=>none
 | some false=>some s
 | some true =>
   match o.op with
   | .store t x y =>
     match s.eval x,s.eval y,teOf P t with
     | some (.p b off),some z,some e =>
       match s.bl b with
       | some (bt,cs)=>bif Nat.beq (Zaw z).length e.size && (Nat.ble (off + (Zaw z).length) cs.length && (Zaw z).all Zbu) then some { s with bl:=upd s.bl b (bt,ZbB cs off (Zaw z)) } else none
       | none=>none
     | _,_,_=>none
   | _=>none
def stpL (P:Program) (N:Nat) (ops:Array Oper) (o:Oper) (s:St):Option St :=
 match o.dst with
 | some d=>bif Nat.blt d N then (match Za6 P ops o s with | some r=>some (s.app d r) | none=>none) else none
 | none=>Zb0 P ops o s
def runL (P:Program) (N:Nat) (ops:Array Oper):List Oper→St→Option St
 | [],s=>some s
 | o :: l,s=>match stpL P N ops o s with | some s'=>runL P N ops l s' | none=>none
def Zgo (s:St) (o:Oper):Option (FuncId × List Value) :=
 match o.op with
 | .call c=>match c.callee with
   | .value fo=>match s.eval fo with
     | some (.v (.func (.func f) first captured))=>some (f,first.toList ++ c.args.toList.map s.rho ++ captured.toList)
     | _=>none
   | _=>none
 | _=>none
def Zd5 (P:Program) (f:FuncId):Bool :=
 match P.funcs[f]? with
 | some fn => !(fn.name == "runtime.NumGoroutine") && !fn.body.isNone
 | none=>false
def Zbx (P:Program) (N:Nat) (ops:Array Oper) (o:Oper) (s:St):Option (FuncId × List Value × Nat) :=
 match s.wantB ops o,Zgo s o,o.dst with
 | some true,some q,some d=>bif Za0 o.op && (o.op.operands.toList.all s.vB && (Zd5 P q.1 && Nat.blt d N)) then some (q.1,q.2,d) else none
 | _,_,_=>none
def ZhN (P:Program) (s:St):ResultVar→Option Value
 | .tmp t=>match s.sl t with | some (.v x)=>some x | _=>none
 | .cell t ty=>match s.sl t with
   | some (.p b off)=>match Zdp P s ty b off with | some (.v x)=>some x | _=>none
   | _=>none
def resL (P:Program) (s:St):List ResultVar→Option (List Value)
 | []=>some []
 | r :: l=>match ZhN P s r,resL P s l with | some x,some m=>some (x :: m) | _,_=>none
def ZhO (P:Program) (fn:Func) (s:St):Option Value :=
 match resL P s fn.results.toList with
 | some [x]=>some x
 | some m=>some (.tuple m.toArray)
 | none=>none
def Zfg:Nat→List Value→SlL
 | _,[]=>[]
 | k,x :: l=>(k, .v x) :: Zfg (k + 1) l
section
variable {N:Nat} {S0:Nat→Prop} {w0:World} {s:St} {Φ Ψ:World→Prop} {L:Nat→Nat} {a:Act} {w:World} {P:Program} {ops:Array Oper} {Q:Exit→Act→World→Prop}
theorem Zjx {α β:Type} (f:α→β) (l:List α) (off:Nat) (cs:List α):(ZbB l off cs).map f=ZbB (l.map f) off (cs.map f):=by
 simp [ZbB,List.map_take,List.map_drop]
theorem Zgp {α:Type} {l:List α} {off:Nat} {cs:List α} {x:α} (h:x ∈ ZbB l off cs):x ∈ l∨x ∈ cs:=by
 unfold ZbB at h
 rcases List.mem_append.1 h with h | h
 ·rcases List.mem_append.1 h with h | h
  ·exact Or.inl (List.mem_of_mem_take h)
  ·exact Or.inr h
 ·exact Or.inl (List.mem_of_mem_drop h)
theorem Zhk (hi:Inv N S0 w0 s Φ L a w) {o:Oper} {s':St} (h:Zb0 P ops o s=some s') (hd:o.dst=none) {K:Act→World→Prop} (hK:∀ L a w,Inv N S0 w0 s' Φ L a w→K a w) :
 if Region.wanted o (yielded ops a.tmps)=true then o.wp P a w K Q else K (a.put o.dst undef) w:=by
 unfold Zb0 at h
 split at h
 ·cases h
 ·rename_i hw
  injection h with h
  subst h
  rw [if_neg (by rw [hi.want hw]; simp),hd]
  exact hK _ _ _ hi
 ·rename_i hw
  rw [if_pos (hi.want hw)]
  split at h
  ·rename_i t x y ho
   split at h
   ·rename_i b off z e hx hy he
    split at h
    ·rename_i bt cs hb
     cases hc:(Nat.beq (Zaw z).length e.size && (Nat.ble (off + (Zaw z).length) cs.length && (Zaw z).all Zbu)) with
     | false=>rw [hc] at h; cases h
     | true =>
       rw [hc] at h
       simp only [cond_true,Option.some.injEq] at h
       simp only [Bool.and_eq_true] at hc
       have hn:=Nat.eq_of_beq_eq_true hc.1
       have hl:=Nat.le_of_ble_eq_true hc.2.1
       have hcb:∀ c,c ∈ Zaw z→Zbu c=true:=fun c h'=>List.all_eq_true.1 hc.2.2 c h'
       have hbs:(s.bl b).isSome=true:=by rw [hb]; rfl
       have ex:=hi.eval hx
       have ey:=hi.eval hy
       simp only [AV.conc] at ex
       have hcells:=ZeW L z
       have hB:=hi.mem.blk b bt cs hb
       have hal:∀ c,c ∈ Zaw z→c.al s:=fun c h'=>by
        cases z with
        | v y=>obtain ⟨c',_,rfl⟩:=List.mem_map.1 h'; exact al_v _
        | p b' off'=>simp only [Zaw,List.mem_singleton] at h'; subst h'; exact fun b2 off2 e2=>by injection e2 with e3 _; rw [← e3]; exact hi.mem.evp hy
       obtain ⟨w',hr,hB',hf⟩:=ZiN (P:=P) he (v:=z.conc L) hB (by rw [← hcells]; simpa using hn) (by rw [← hcells]; simpa using hl) (fun c h'=>by
        rw [← hcells] at h'
        obtain ⟨c',hc',rfl⟩:=List.mem_map.1 h'
        exact Zkc L (hcb c' hc'))
       unfold Oper.wp
       have hrun:(execOp a.eval o).run P w=.ok .skip w':=by simp only [execOp,ho,Sem.run_bind,ex,ey,hr,Result.andThen_ok,Sem.run_pure]
       rw [hrun,Oper.upon_skip,hd]
       subst h
       have bne:∀ c,c≠b→(s.bl c).isSome=true→L c≠L b:=fun c hne hcs e=>hne (hi.mem.inj c b hcs hbs e)
       have some_of:∀ c,((upd s.bl b (bt,ZbB cs off (Zaw z))) c).isSome=true→(s.bl c).isSome=true:=fun c h'=>by
        by_cases e:c=b
        ·rw [e]; exact hbs
        ·rw [Zay _ _ e] at h'; exact h'
       have to_some:∀ c,(s.bl c).isSome=true→((upd s.bl b (bt,ZbB cs off (Zaw z))) c).isSome=true:=fun c h'=>by
        by_cases e:c=b
        ·rw [e,ZaM]; rfl
        ·rw [Zay _ _ e]; exact h'
       refine hK L a w' ⟨hi.size,hi.df,hi.sl,⟨fun c t' cs' hc'=>?_,fun c d hc' hd' e=>hi.mem.inj c d (some_of c hc') (some_of d hd') e,fun c hc'=>hi.mem.old c (some_of c hc'),hi.mem.ext.next hf (fun i hi' e=>?_),fun i c off' h'=>to_some c (hi.mem.slp i c off' h'),fun c t' cs' hc' x' hx'=>?_⟩,fun w2 hf2=>?_⟩
       ·by_cases e:c=b
        ·subst e
         simp only [ZaM,Option.some.injEq] at hc'
         injection hc' with e1 e2
         subst e1; subst e2
         rw [Zjx,hcells]
         exact hB'
        ·simp only [Zay _ _ e] at hc'
         exact (hi.mem.blk c t' cs' hc').fr hf (bne c e (by rw [hc']; rfl))
       ·rcases hi.mem.old b hbs with h' | h'
        ·omega
        ·rw [e]; exact h'
       ·have key:Zbu x'=true∧x'.al s:=by
         by_cases e:c=b
         ·subst e
          simp only [ZaM,Option.some.injEq] at hc'
          injection hc' with e1 e2
          subst e2
          rcases Zgp hx' with h' | h'
          ·exact hi.mem.cel c bt cs hb x' h'
          ·exact ⟨hcb x' h',hal x' h'⟩
         ·simp only [Zay _ _ e] at hc'
          exact hi.mem.cel c t' cs' hc' x' hx'
        exact ⟨key.1,fun d off' e=>to_some d (key.2 d off' e)⟩
       ·refine hi.box w2 ((hf.mono (fun i _ e=>⟨b,hbs,e.symm⟩)).trans (hf2.mono (fun i _ h'=>?_)))
        obtain ⟨c,hc',e⟩:=h'
        exact ⟨c,some_of c hc',e⟩
    ·cases h
   ·cases h
  ·cases h
theorem Zjy (hi:Inv N S0 w0 s Φ L a w) {o:Oper} {s':St} (h:stpL P N ops o s=some s') {K:Act→World→Prop} (hK:∀ L a w,Inv N S0 w0 s' Φ L a w→K a w) :
 if Region.wanted o (yielded ops a.tmps)=true then o.wp P a w K Q else K (a.put o.dst undef) w:=by
 unfold stpL at h
 split at h
 ·rename_i d hd
  cases hb:Nat.blt d N with
  | false=>rw [hb] at h; cases h
  | true =>
    rw [hb] at h
    simp only [cond_true] at h
    have hN:d < N:=Nat.le_of_ble_eq_true hb
    split at h
    ·rename_i r hr
     injection h with h
     subst h
     exact (Zhj hi hr hd hN).step hK
    ·cases h
 ·rename_i hd
  exact Zhk hi h hd hK
def SXl (P:Program) (N:Nat) (S0:Nat→Prop) (w0:World) (ops:Array Oper) (Q:Exit→Act→World→Prop) (l:List Oper) (s:St) (Φ:World→Prop):Prop:=∀ L a w,Inv N S0 w0 s Φ L a w→wpList P ops Q l a w
def SXi (P:Program) (N:Nat) (S0:Nat→Prop) (w0:World) (ops:Array Oper) (Q:Exit→Act→World→Prop) (i:Nat) (s:St) (Φ:World→Prop):Prop:=SXl P N S0 w0 ops Q (ops.toList.drop i) s Φ
def SXq (N:Nat) (S0:Nat→Prop) (w0:World) (Q:Act→World→Prop) (s:St) (Φ:World→Prop):Prop:=∀ L a w,Inv N S0 w0 s Φ L a w→Q a w
def SXc (P:Program) (N:Nat) (S0:Nat→Prop) (w0:World) (Q:Exit→Act→World→Prop) (c:Code) (s:St) (Φ:World→Prop):Prop:=∀ L a w,Inv N S0 w0 s Φ L a w→c.wp P Q a w
theorem Zgq:∀ (l r:List Oper) (s s':St),runL P N ops l s=some s'→SXl P N S0 w0 ops Q r s' Φ→SXl P N S0 w0 ops Q (l ++ r) s Φ
 | [],r,s,s',h,k=>by simp only [runL,Option.some.injEq] at h; subst h; exact k
 | o :: l,r,s,s',h,k=>by
   unfold runL at h
   split at h
   ·rename_i s1 h1
    have ih:=Zgq l r s1 s' h k
    intro L a w hi
    exact wpList_step (fun K hK=>Zjy hi h1 (fun L a w hi=>hK _ _ (ih L a w hi)))
   ·cases h
def Zgr (P:Program) (N:Nat) (ops:Array Oper) (i k:Nat) (s:St) (sl:SlL) (bl:BlL):Option (List (Option AV) × List (Option (TypeId × List AV))) :=
 match runL P N ops ((ops.toList.drop i).take k) s with
 | some s'=>some (sl.map (fun q=>s'.sl q.1),bl.map (fun q=>s'.bl q.1))
 | none=>none
theorem SXl.weak {l:List Oper} (sl:SlL) (bl:BlL) (h1:ZaX s sl bl) (h2:wfB sl bl=true) (R:∀ w,Φ w→Ψ w) (h:SXl P N S0 w0 ops Q l (ofL sl bl) Ψ):SXl P N S0 w0 ops Q l s Φ :=
 fun L a w hi=>h L a w (hi.weak h1 h2 R)
theorem Zkg {i:Nat} (k:Nat) (sl:SlL) (bl:BlL) (h:Zgr P N ops i k s sl bl=some (sl.map (fun q=>some q.2),bl.map (fun q=>some q.2))) (h2:wfB sl bl=true)
 (K:SXi P N S0 w0 ops Q (i + k) (ofL sl bl) Φ):SXi P N S0 w0 ops Q i s Φ:=by
 unfold Zgr at h
 split at h
 ·rename_i s' hs
  injection h with h
  unfold SXi at K ⊢
  have e:ops.toList.drop i=(ops.toList.drop i).take k ++ ops.toList.drop (i + k):=by rw [← List.drop_drop,List.take_append_drop]
  rw [e]
  exact Zgq _ _ s s' hs (SXl.weak sl bl h h2 (fun _ h=>h) K)
 ·cases h
theorem Zb8 {i:Nat} (h:Nat.blt i ops.size=true):ops.toList.drop i=opAt ops i :: ops.toList.drop (i + 1):=by
 have hl:i < ops.size:=Nat.le_of_ble_eq_true h
 rw [List.drop_eq_getElem_cons (by simpa using hl)]
 simp [opAt,hl]
theorem ZeY {o:Oper} {f:FuncId} {args:List Value} (h:Zgo s o=some (f,args)) (hk:Zd5 P f=true):(execOp s.rho o).run P w=.ok (.enter f args.toArray) w:=by
 unfold Zgo at h
 split at h
 ·rename_i c ho
  split at h
  ·rename_i fo hc
   split at h
   ·rename_i f' first captured hf
    injection h with h
    injection h with h1 h2
    subst h1; subst h2
    have e1:s.rho fo=.func (.func f') first captured:=by simp [St.rho,hf]
    have e2:(first.toList ++ c.args.toList.map s.rho ++ captured.toList).toArray=first ++ c.args.map s.rho ++ captured:=by apply Array.toList_inj.1; simp
    unfold Zd5 at hk
    split at hk
    ·rename_i fn hfn
     rw [Bool.and_eq_true] at hk
     have n1 : (fn.name == "runtime.NumGoroutine") = false := by simpa using hk.1
     have n2:fn.body.isNone=false:=by simpa using hk.2
     simp only [execOp,ho,resolve,hc,e1,Deferred.ofValue,Sem.run_bind,Sem.run_pure,Result.andThen_ok,invoke,callFunc,run_program,hfn,n1,n2,Bool.false_eq_true,if_false,e2]
    ·cases hk
   ·cases h
  ·cases h
 ·cases h
theorem Zb9 {o:Oper} {f d:Nat} {args:List Value} (h:Zbx P N ops o s=some (f,args,d)):s.wantB ops o=some true∧Zgo s o=some (f,args)∧o.dst=some d∧Za0 o.op=true∧o.op.operands.toList.all s.vB=true∧Zd5 P f=true∧d < N:=by
 unfold Zbx at h
 split at h
 ·rename_i q d' hw hq hd
  cases hb:(Za0 o.op && (o.op.operands.toList.all s.vB && (Zd5 P q.1 && Nat.blt d' N))) with
  | false=>rw [hb] at h; cases h
  | true =>
    rw [hb] at h
    simp only [cond_true,Option.some.injEq,Prod.mk.injEq] at h
    simp only [Bool.and_eq_true] at hb
    obtain ⟨h1,h2,h3⟩:=h
    subst h1; subst h2; subst h3
    exact ⟨hw,hq,hd,hb.1,hb.2.1,hb.2.2.1,Nat.le_of_ble_eq_true hb.2.2.2⟩
 ·cases h
theorem ZeZ {o:Oper} {f:Nat} {args:List Value} {α:Type} {sh:α→Value} {φ:α→World→Prop} (h:Zgo s o=some (f,args)) (hk:Zd5 P f=true) (hC:Calls P f args.toArray w (Zba sh φ w)):Does P o s.rho w (DoR sh φ w) :=
 Or.inr ⟨f,args.toArray,w,ZeY h hk,hC.mono (fun e w' h=>by
  obtain ⟨x,e1,h⟩:=h
  exact ⟨_,e1,x,rfl,h⟩)⟩
theorem Zcy {i:Nat} {α:Type} {d:Nat} (sh:α→Value) (φ:α→World→Prop) (hsz:Nat.blt i ops.size=true) (hw:s.wantB ops (opAt ops i)=some true) (hn:Za0 (opAt ops i).op=true) (hv:(opAt ops i).op.operands.toList.all s.vB=true) (hd:(opAt ops i).dst=some d) (hN:Nat.blt d N=true)
 (hdo:∀ w,Fr S0 w0 w→Φ w→Does P (opAt ops i) s.rho w (DoR sh φ w)) (K:∀ x,SXi P N S0 w0 ops Q (i + 1) (s.put d (.v (sh x))) (fun w=>Φ w∧φ x w)):SXi P N S0 w0 ops Q i s Φ:=by
 unfold SXi
 rw [Zb8 hsz]
 intro L a w hi
 exact wpList_step (fun K' hK=>Zie hi hw hn hv hd (Nat.le_of_ble_eq_true hN) hdo (fun x L a w hi=>hK _ _ (K x L a w hi)))
theorem Zi5 {i:Nat} (f:FuncId) (args:List Value) (d:Nat) {α:Type} (sh:α→Value) (φ:α→World→Prop) (hsz:Nat.blt i ops.size=true) (h:Zbx P N ops (opAt ops i) s=some (f,args,d))
 (hC:∀ w,Fr S0 w0 w→Φ w→Calls P f args.toArray w (Zba sh φ w)) (K:∀ x,SXi P N S0 w0 ops Q (i + 1) (s.put d (.v (sh x))) (fun w=>Φ w∧φ x w)):SXi P N S0 w0 ops Q i s Φ:=by
 obtain ⟨hw,hq,hd,hn,hv,hk,hN⟩:=Zb9 h
 exact Zcy sh φ hsz hw hn hv hd (by rw [Nat.blt_eq]; exact hN) (fun w hf R=>ZeZ hq hk (hC w hf R)) K
theorem Zmj {i:Nat} (h:Nat.ble ops.size i=true) (K:SXq N S0 w0 (Q .normal) s Φ):SXi P N S0 w0 ops Q i s Φ:=by
 unfold SXi
 rw [List.drop_of_length_le (by simpa using Nat.le_of_ble_eq_true h)]
 exact fun L a w hi=>K L a w hi
end
end Go.Proofs.YtcpjeaaapocoeaaGreatDoor

namespace Go.Proofs.YtcpjeaaapocoeaaGreatDoor
open Go.RowKit
section
variable {N:Nat} {S0:Nat→Prop} {w0:World} {s s':St} {Φ Ψ Φ0:World→Prop} {L:Nat→Nat} {a:Act} {w:World} {P:Program} {ops:Array Oper} {Q:Exit→Act→World→Prop} {o:Oper}
def Zbb (ops:Array Oper) (o:Oper) (s s':St):Prop:=∀ t,t ∈ o.looksAt ops→∀ x,s.sl t=some x→s'.sl t=some x
theorem Zbb.eval (h:Zbb ops o s s') {x:Operand} (hx:x ∈ o.op.operands.toList) {y:AV} (e:s.eval x=some y):s'.eval x=some y:=by
 cases x with
 | tmp t=>exact h t (List.mem_append_left _ (List.mem_filterMap.2 ⟨.tmp t,hx,rfl⟩)) y e
 | const v=>exact e
 | global g=>exact e
 | func f=>exact e
theorem Zbb.want (h:Zbb ops o s s') {r:Bool} (e:s.wantB ops o=some r):s'.wantB ops o=some r:=by
 unfold St.wantB at e ⊢
 split at e
 ·exact e
 ·rename_i g want hg
  split at e
  ·cases e
  ·rename_i t ht
   have hm:t ∈ o.looksAt ops:=List.mem_append_right _ (by rw [hg]; simp [ht])
   split at e
   ·rename_i b hb; rw [h t hm _ hb]; exact e
   ·rename_i vs hb; rw [h t hm _ hb]; exact e
   ·cases e
theorem Zbb.vB (h:Zbb ops o s s') (e:o.op.operands.toList.all s.vB=true):o.op.operands.toList.all s'.vB=true:=by
 rw [List.all_eq_true] at e ⊢
 intro x hx
 have:=h.eval hx (Zd2 (e x hx))
 unfold St.vB
 rw [this]
theorem Zbb.rho (h:Zbb ops o s s') (e:o.op.operands.toList.all s.vB=true) {x:Operand} (hx:x ∈ o.op.operands.toList):s'.rho x=s.rho x:=by
 have:=h.eval hx (Zd2 (List.all_eq_true.1 e x hx))
 show (match s'.eval x with | some (.v y)=>y | _=>undef)=_
 rw [this]
theorem Zbb.exec (h:Zbb ops o s s') (hs:Za0 o.op=true) (e:o.op.operands.toList.all s.vB=true):execOp s'.rho o=execOp s.rho o :=
 execOp_congr o (fun cs b e'=>by rw [e'] at hs; cases hs) (fun x hx=>h.rho e (by simpa using hx))
theorem Zbb.pure (h:Zbb ops o s s') {x:AV} (e:ZaS P o s=some x):ZaS P o s'=some x:=by
 unfold ZaS at e ⊢
 cases hb:Za0 o.op && o.op.operands.toList.all s.vB with
 | false=>rw [hb] at e; cases e
 | true =>
   rw [hb] at e
   rw [Bool.and_eq_true] at hb
   rw [hb.1,h.vB hb.2,h.exec hb.1 hb.2]
   exact e
theorem Zbb.pure' (h:Zbb ops o s s') {r:AV × NewB} (e:noB (ZaS P o s)=some r):noB (ZaS P o s')=some r:=by
 obtain ⟨x,hx,_⟩:=ZaJ e
 rw [hx] at e
 rw [h.pure hx]
 exact e
def cls:Op→Nat
 | .call c=>match c.callee with
   | .builtin .len=>0
   | .builtin .cap=>0
   | .builtin .min=>0
   | .builtin .max=>0
   | _=>2
 | .move _=>0
 | .assign _=>0
 | .pick _ _ _=>0
 | .alloc _=>0
 | .box _ _=>0
 | .load _ _=>1
 | .store _ _ _=>3
 | .fieldAddr _ _ _=>0
 | .field _ _ _=>0
 | .extract _ _=>0
 | .binOp _ _ _ _ _=>0
 | .unOp _ _ _=>0
 | .nilCheck _=>0
 | .build _ _=>0
 | .indexAddr _ _ _=>0
 | .index _ _ _=>0
 | .slice _ _ _ _ _=>0
 | .convert _ _ _=>0
 | _=>2
def ZbD (x y:Op):Bool :=
 match cls x,cls y with
 | 0,_=>true
 | _,0=>true
 | 1,1=>true
 | 1,2=>true
 | 2,1=>true
 | _,_=>false
def lsB (x y:Op):Bool :=
 match cls x,cls y with
 | 1,3=>true
 | 3,1=>true
 | _,_=>false
def Zif:Op→Option Operand
 | .load _ x=>some x
 | .store _ x _=>some x
 | _=>none
def Zcj (o:Oper) (s:St) (b:Nat):Prop:=∃ x off,Zif o.op=some x∧s.eval x=some (.p b off)
def Far (x y:Oper) (s:St):Prop:=∀ b c,Zcj x s b→Zcj y s c→b≠c
def Zb1 (o:Oper) (s:St) (b:Nat):Prop:=∃ x off,x ∈ o.op.operands.toList∧s.eval x=some (.p b off)
theorem Zb1.addr {b:Nat} (h:Zb1 o s b) (hc:cls o.op=1):Zcj o s b:=by
 obtain ⟨x,off,hx,e⟩:=h
 cases ho:o.op with
 | load t y =>
   rw [ho] at hx
   simp only [Op.operands,List.mem_singleton] at hx
   exact ⟨y,off,by rw [ho]; rfl,by rw [← hx]; exact e⟩
 | call c =>
   rw [ho] at hc
   unfold cls at hc
   simp only at hc
   split at hc<;>cases hc
 | _=>rw [ho] at hc; cases hc
theorem Zcj.leads {b:Nat} (h:Zcj o s b):Zb1 o s b:=by
 obtain ⟨x,off,hx,e⟩:=h
 refine ⟨x,off,?_,e⟩
 cases ho:o.op with
 | load t y=>rw [ho] at hx; injection hx with hx; simp [Op.operands,hx]
 | store t y z=>rw [ho] at hx; injection hx with hx; simp [Op.operands,hx]
 | _=>rw [ho] at hx; cases hx
theorem Zgs {t:TypeId} {cs:List AV} {r:AV × NewB} {d:Option Nat} (hn:∀ k,d=some k→s.bl k=none→s'.bl k=none) (h:ZcY s d t cs=some r):ZcY s' d t cs=some r:=by
 obtain ⟨k,hk,e,h0,hc⟩:=Zc7 h
 subst hk; subst e
 have h1:=hn k rfl h0
 have h2:cs.all Zbu=true:=List.all_eq_true.2 hc
 simp [ZcY,h1,h2]
theorem Zk7 (h:Zbb ops o s s') (hb:cls o.op=1→∀ b q,Zb1 o s b→s.bl b=some q→s'.bl b=some q) (hn:∀ d,o.dst=some d→s.bl d=none→s'.bl d=none) {r:AV × NewB} (e:Za6 P ops o s=some r):Za6 P ops o s'=some r:=by
 unfold Za6 at e ⊢
 split at e
 ·cases e
 ·rename_i hw
  rw [h.want hw]; exact e
 ·rename_i hw
  rw [h.want hw]
  simp only
  split at e
  ·rename_i x ho
   obtain ⟨y,hy,_⟩:=ZaJ e
   rw [hy] at e
   rw [h.eval (by simp [ho,Op.operands]) hy]; exact e
  ·rename_i x ho
   obtain ⟨y,hy,_⟩:=ZaJ e
   rw [hy] at e
   rw [h.eval (by simp [ho,Op.operands]) hy]; exact e
  ·rename_i c x y ho
   split at e
   ·rename_i b hc
    rw [h.eval (by simp [ho,Op.operands]) hc]
    simp only
    obtain ⟨z,hz,_⟩:=ZaJ e
    rw [hz] at e
    cases b with
    | true=>simp only [cond_true] at hz ⊢; rw [h.eval (by simp [ho,Op.operands]) hz]; exact e
    | false=>simp only [cond_false] at hz ⊢; rw [h.eval (by simp [ho,Op.operands]) hz]; exact e
   ·cases e
  ·split at e
   ·exact Zgs hn e
   ·cases e
  ·rename_i t x ho
   split at e
   ·rename_i y hy
    rw [h.eval (by simp [ho,Op.operands]) hy]
    exact Zgs hn e
   ·cases e
  ·rename_i t x f ho
   split at e
   ·rename_i b off hx
    rw [h.eval (by simp [ho,Op.operands]) hx]
    exact e
   ·rename_i hx
    obtain ⟨z,hz,_⟩:=ZaJ e
    have hv:s.vB x=true:=by
     unfold ZaS at hz
     cases hb':Za0 o.op && o.op.operands.toList.all s.vB with
     | false=>rw [hb'] at hz; cases hz
     | true=>rw [Bool.and_eq_true] at hb'; exact List.all_eq_true.1 hb'.2 x (by simp [ho,Op.operands])
    rw [h.eval (by simp [ho,Op.operands]) (Zd2 hv)]
    exact h.pure' e
  ·rename_i t x ho
   split at e
   ·rename_i b off hx
    have hx':=h.eval (by simp [ho,Op.operands]) hx
    rw [hx']
    simp only
    obtain ⟨z,hz,_⟩:=ZaJ e
    rw [hz] at e
    have:Zdp P s' t b off=some z:=by
     unfold Zdp at hz ⊢
     split at hz
     ·rename_i e1 bt cs he hq
      rw [he,hb (by rw [ho]; rfl) b _ ⟨x,off,by simp [ho,Op.operands],hx⟩ hq]
      exact hz
     ·cases hz
    rw [this]; exact e
   ·cases e
  ·rename_i x ho
   split at e
   ·rename_i b off hx
    rw [h.eval (by simp [ho,Op.operands]) hx]
    exact e
   ·rename_i hx
    obtain ⟨z,hz,_⟩:=ZaJ e
    have hv:s.vB x=true:=by
     unfold ZaS at hz
     cases hb':Za0 o.op && o.op.operands.toList.all s.vB with
     | false=>rw [hb'] at hz; cases hz
     | true=>rw [Bool.and_eq_true] at hb'; exact List.all_eq_true.1 hb'.2 x (by simp [ho,Op.operands])
    rw [h.eval (by simp [ho,Op.operands]) (Zd2 hv)]
    exact h.pure' e
  ·exact h.pure' e
structure WF (s:St):Prop where
 slp:∀ i b off,s.sl i=some (.p b off)→(s.bl b).isSome=true
 cel:∀ b t cs,s.bl b=some (t,cs)→∀ x,x ∈ cs→x.al s
theorem Inv.wf (h:Inv N S0 w0 s Φ L a w):WF s:=⟨h.mem.slp,fun b t cs e x hx=>(h.mem.cel b t cs e x hx).2⟩
theorem WF.evl (h:WF s) {x:Operand} {y:AV} (hx:s.eval x=some y):y.al s:=fun b off e=>by
 subst e
 cases x with
 | tmp t=>exact h.slp t b off hx
 | const v=>simp [St.eval] at hx
 | global g=>simp [St.eval] at hx
 | func f=>simp [St.eval] at hx
theorem WF.app0 (h:WF s) (d:Nat) {x:AV} (hx:x.al s):WF (s.app d (x,none)) :=
 ⟨fun i b off e=>by
  by_cases e1:i=d
  ·subst e1
   simp only [St.app,ZaM,Option.some.injEq] at e
   exact hx b off e
  ·simp only [St.app,Zay _ _ e1] at e
   exact h.slp i b off e,h.cel⟩
theorem WF.appN (h:WF s) {d:Nat} {t:TypeId} {cs:List AV} (hc:∀ x,x ∈ cs→x.al s):WF (s.app d (.p d 0,some (t,cs))):=by
 have up:∀ {x:AV},x.al s→x.al (s.app d (.p d 0,some (t,cs))):=fun {x} hx b off e=>by
  by_cases e1:b=d
  ·subst e1; simp [St.app,ZaM]
  ·simp only [St.app,Zay _ _ e1]; exact hx b off e
 refine ⟨fun i b off e=>?_,fun b t' cs' e x hx=>?_⟩
 ·by_cases e1:i=d
  ·subst e1
   simp only [St.app,ZaM,Option.some.injEq] at e
   injection e with e1 e2
   subst e1
   simp [St.app,ZaM]
  ·simp only [St.app,Zay _ _ e1] at e
   exact up (x:=.p b off) (fun b' off' e'=>by injection e' with e2 _; rw [← e2]; exact h.slp i b off e) b off rfl
 ·by_cases e1:b=d
  ·subst e1
   simp only [St.app,ZaM,Option.some.injEq,Prod.mk.injEq] at e
   rw [← e.2] at hx
   exact up (hc x hx)
  ·simp only [St.app,Zay _ _ e1] at e
   exact up (h.cel b t' cs' e x hx)
theorem Zhl {x:AV} (h:ZaS P o s=some x):∃ y,x=.v y:=by
 unfold ZaS at h
 cases hb:Za0 o.op && o.op.operands.toList.all s.vB with
 | false=>rw [hb] at h; cases h
 | true =>
   rw [hb] at h
   simp only [cond_true] at h
   split at h
   ·injection h with h; exact ⟨_,h.symm⟩
   ·cases h
theorem Zmk (hW:WF s) {r:AV × NewB} (h:Za6 P ops o s=some r) {d:Nat} (hd:o.dst=some d):WF (s.app d r)∧(∀ q,r.2=some q→s.bl d=none):=by
 have same:∀ (x:AV),r=(x,none)→x.al s→WF (s.app d r)∧(∀ q,r.2=some q→s.bl d=none):=fun x e hx=>by subst e; exact ⟨hW.app0 d hx,fun q e=>by cases e⟩
 have pur:noB (ZaS P o s)=some r→WF (s.app d r)∧(∀ q,r.2=some q→s.bl d=none):=fun h=>by
  obtain ⟨x,hx,e⟩:=ZaJ h
  obtain ⟨y,e2⟩:=Zhl hx
  subst e2
  exact same _ e (al_v y)
 have new:∀ {t:TypeId} {cs:List AV},ZcY s o.dst t cs=some r→(∀ x,x ∈ cs→x.al s)→WF (s.app d r)∧(∀ q,r.2=some q→s.bl d=none):=fun h hal=>by
  obtain ⟨k,hk,e1,h0,hc⟩:=Zc7 h
  rw [hd] at hk
  injection hk with hk
  subst hk; subst e1
  exact ⟨hW.appN hal,fun _ _=>h0⟩
 unfold Za6 at h
 split at h
 ·cases h
 ·injection h with h
  exact same _ h.symm (al_v _)
 ·split at h
  ·obtain ⟨y,hy,e⟩:=ZaJ h
   exact same y e (hW.evl hy)
  ·obtain ⟨y,hy,e⟩:=ZaJ h
   exact same y e (hW.evl hy)
  ·split at h
   ·rename_i b hb
    obtain ⟨z,hz,e⟩:=ZaJ h
    cases b with
    | true=>exact same z e (hW.evl hz)
    | false=>exact same z e (hW.evl hz)
   ·cases h
  ·split at h
   ·refine new h (fun x hx=>?_)
    obtain ⟨y,_,rfl⟩:=List.mem_map.1 hx
    exact al_v y
   ·cases h
  ·split at h
   ·rename_i y hy
    refine new h (fun z hz=>?_)
    cases y with
    | v y=>obtain ⟨c,_,rfl⟩:=List.mem_map.1 hz; exact al_v c
    | p b off=>simp only [Zaw,List.mem_singleton] at hz; subst hz; exact hW.evl hy
   ·cases h
  ·split at h
   ·rename_i b off hb
    split at h
    ·split at h
     ·injection h with h
      exact same _ h.symm (fun c o' e'=>by injection e' with e1 _; rw [← e1]; exact hW.evl hb b off rfl)
     ·cases h
    ·cases h
   ·exact pur h
  ·split at h
   ·obtain ⟨z,hz,e⟩:=ZaJ h
    refine same z e ?_
    unfold Zdp at hz
    split at hz
    ·rename_i e1 bt cs he hq
     cases ha:e1.agg with
     | true =>
       rw [ha] at hz
       simp only [cond_true] at hz
       cases hle:Nat.ble _ cs.length with
       | false=>rw [hle] at hz; cases hz
       | true =>
         rw [hle] at hz
         simp only [cond_true] at hz
         split at hz
         ·injection hz with hz; rw [← hz]; exact al_v _
         ·cases hz
     | false =>
       rw [ha] at hz
       simp only [cond_false] at hz
       exact hW.cel _ bt cs hq z (List.mem_of_getElem? hz)
    ·cases hz
   ·cases h
  ·split at h
   ·rename_i b off hb
    injection h with h
    exact same _ h.symm (hW.evl hb)
   ·exact pur h
  ·exact pur h
def Zgt:Op→Bool
 | .load _ _=>true
 | .indexAddr _ _ _=>true
 | .index _ _ _=>true
 | .binOp _ _ _ _ _=>true
 | .unOp _ _ _=>true
 | .slice _ _ _ _ _=>true
 | .convert _ _ _=>true
 | _=>false
def FV (P:Program) (ops:Array Oper) (Φ0:World→Prop) (o:Oper) (s:St) (r:AV × NewB):Prop :=
 Za6 P ops o s=some r∨∃ y,r=(.v y,none)∧Zgt o.op=true∧s.wantB ops o=some true∧Za0 o.op=true∧o.op.operands.toList.all s.vB=true∧∀ w,Φ0 w→(execOp s.rho o).run P w=.ok (.value y) w
theorem FV.mono (h:Zbb ops o s s') (hb:cls o.op=1→∀ b q,Zb1 o s b→s.bl b=some q→s'.bl b=some q) (hn:∀ d,o.dst=some d→s.bl d=none→s'.bl d=none) {r:AV × NewB} (e:FV P ops Φ0 o s r):FV P ops Φ0 o s' r:=by
 rcases e with e | ⟨y,hr,hk,hw,hs,hv,hx⟩
 ·exact Or.inl (Zk7 h hb hn e)
 ·exact Or.inr ⟨y,hr,hk,h.want hw,hs,h.vB hv,fun w hw'=>by rw [h.exec hs hv]; exact hx w hw'⟩
theorem FV.wf (hW:WF s) {r:AV × NewB} (h:FV P ops Φ0 o s r) {d:Nat} (hd:o.dst=some d):WF (s.app d r)∧(∀ q,r.2=some q→s.bl d=none):=by
 rcases h with h | ⟨y,rfl,_⟩
 ·exact Zmk hW h hd
 ·exact ⟨hW.app0 d (al_v y),fun q e=>by cases e⟩
theorem FV.yld (hi:Inv N S0 w0 s Φ L a w) (Q:∀ w,Φ w→Φ0 w) {r:AV × NewB} (h:FV P ops Φ0 o s r) {d:Nat} (hd:o.dst=some d) (hN:d < N):Yld N S0 w0 P ops o (s.app d r) Φ a w:=by
 rcases h with h | ⟨y,rfl,_,hw,hs,hv,hx⟩
 ·exact Zhj hi h hd hN
 ·exact ⟨y,w,L,by rw [hd]; exact hi.app0 hN (al_v y),Or.inl ⟨hi.want hw,by rw [hi.exec hs hv]; exact hx w (Q w hi.box.self)⟩⟩
theorem Zhm {r:AV × NewB} {y:Value} (h:Za6 P ops o s=some r) (hk:Zgt o.op=true) (hw:s.wantB ops o=some true) (hv:o.op.operands.toList.all s.vB=true) (hx:(execOp s.rho o).run P w=.ok (.value y) w):r=(.v y,none):=by
 have pur:noB (ZaS P o s)=some r→r=(.v y,none):=fun h=>by
  obtain ⟨x,hx',e⟩:=ZaJ h
  unfold ZaS at hx'
  cases hb:Za0 o.op && o.op.operands.toList.all s.vB with
  | false=>rw [hb] at hx'; cases hx'
  | true =>
    rw [hb] at hx'
    simp only [cond_true] at hx'
    split at hx'
    ·rename_i y' hy'
     injection hx' with hx'
     have:=Zfw hy' w
     rw [hx] at this
     injection this with h1 _
     injection h1 with h1
     rw [e,← hx',h1]
    ·cases hx'
 unfold Za6 at h
 rw [hw] at h
 simp only at h
 split at h
 case h_7 t x ho =>
  split at h
  ·rename_i b off hx'
   have:=List.all_eq_true.1 hv x (by simp [ho,Op.operands])
   unfold St.vB at this
   rw [hx'] at this
   cases this
  ·cases h
 case h_9=>exact pur h
 all_goals (rename_i ho; rw [ho] at hk; cases hk)
theorem FV.uniq (hne:∃ w,Φ0 w) {r q:AV × NewB} (h1:FV P ops Φ0 o s r) (h2:FV P ops Φ0 o s q):r=q:=by
 obtain ⟨w,hw0⟩:=hne
 rcases h1 with h1 | ⟨y,rfl,hk,hw,hs,hv,hx⟩
 ·rcases h2 with h2 | ⟨y,rfl,hk,hw,hs,hv,hx⟩
  ·rw [h1] at h2; injection h2
  ·exact Zhm h1 hk hw hv (hx w hw0)
 ·rcases h2 with h2 | ⟨y',rfl,hk',hw',hs',hv',hx'⟩
  ·exact (Zhm h2 hk hw hv (hx w hw0)).symm
  ·have:=hx w hw0
   rw [hx' w hw0] at this
   injection this with h1 _
   injection h1 with h1
   rw [h1]
inductive Strat (P:Program) (N:Nat) (S0:Nat→Prop) (w0:World) (ops:Array Oper) (Φ0:World→Prop) (fin:St→(World→Prop)→Prop):List Nat→St→(World→Prop)→Prop
 | done {s:St} {Φ:World→Prop} (h:fin s Φ):Strat P N S0 w0 ops Φ0 fin [] s Φ
 | flt {i:Nat} {l:List Nat} {s:St} {Φ:World→Prop} {r:AV × NewB} {d:Nat} (h:FV P ops Φ0 (opAt ops i) s r) (hd:(opAt ops i).dst=some d) (hN:d < N) (K:Strat P N S0 w0 ops Φ0 fin l (s.app d r) Φ):Strat P N S0 w0 ops Φ0 fin (i :: l) s Φ
 | does {i:Nat} {l:List Nat} {s:St} {Φ:World→Prop} {d:Nat} {α:Type} (hα:Nonempty α) (sh:α→Value) (φ:α→World→Prop) (hm:cls (opAt ops i).op=2) (hw:s.wantB ops (opAt ops i)=some true) (hn:Za0 (opAt ops i).op=true)
  (hv:(opAt ops i).op.operands.toList.all s.vB=true) (hd:(opAt ops i).dst=some d) (hN:d < N) (hdo:∀ w,Fr S0 w0 w→Φ w→Does P (opAt ops i) s.rho w (DoR sh φ w))
  (K:∀ x,Strat P N S0 w0 ops Φ0 fin l (s.app d (.v (sh x),none)) (fun w=>Φ w∧φ x w)):Strat P N S0 w0 ops Φ0 fin (i :: l) s Φ
 | sto {i:Nat} {l:List Nat} {s s':St} {Φ:World→Prop} (hm:cls (opAt ops i).op=3) (h:Zb0 P ops (opAt ops i) s=some s') (hd:(opAt ops i).dst=none) (K:Strat P N S0 w0 ops Φ0 fin l s' Φ):Strat P N S0 w0 ops Φ0 fin (i :: l) s Φ
theorem Zig (h:Zb0 P ops o s=some s'):s'=s∨∃ b q q',s.bl b=some q∧s'={ s with bl:=upd s.bl b q' }∧Zcj o s b:=by
 unfold Zb0 at h
 split at h
 ·cases h
 ·injection h with h; exact Or.inl h.symm
 ·split at h
  ·rename_i t x y ho
   split at h
   ·rename_i b off z e hx hy he
    split at h
    ·rename_i bt cs hb
     cases hc:(Nat.beq (Zaw z).length e.size && (Nat.ble (off + (Zaw z).length) cs.length && (Zaw z).all Zbu)) with
     | false=>rw [hc] at h; cases h
     | true =>
       rw [hc] at h
       simp only [cond_true,Option.some.injEq] at h
       exact Or.inr ⟨b,_,_,hb,h.symm,x,off,by rw [ho]; rfl,hx⟩
    ·cases h
   ·cases h
  ·cases h
theorem Zml (hW:WF s) (h:Zb0 P ops o s=some s'):WF s':=by
 have some_up:∀ {b q' c:Nat} {z:TypeId × List AV},(s.bl c).isSome=true→((upd s.bl b z) c).isSome=true:=fun {b q' c z} h'=>by
  by_cases e:c=b
  ·rw [e,ZaM]; rfl
  ·rw [Zay _ _ e]; exact h'
 unfold Zb0 at h
 split at h
 ·cases h
 ·injection h with h; subst h; exact hW
 ·split at h
  ·rename_i t x y ho
   split at h
   ·rename_i b off z e hx hy he
    split at h
    ·rename_i bt cs hb
     cases hc:(Nat.beq (Zaw z).length e.size && (Nat.ble (off + (Zaw z).length) cs.length && (Zaw z).all Zbu)) with
     | false=>rw [hc] at h; cases h
     | true =>
       rw [hc] at h
       simp only [cond_true,Option.some.injEq] at h
       subst h
       refine ⟨fun i c off' e'=>some_up (q':=0) (hW.slp i c off' e'),fun c t' cs' hc' x' hx'=>?_⟩
       have key:x'.al s:=by
        by_cases e1:c=b
        ·subst e1
         simp only [ZaM,Option.some.injEq,Prod.mk.injEq] at hc'
         rw [← hc'.2] at hx'
         rcases Zgp hx' with h' | h'
         ·exact hW.cel c bt cs hb x' h'
         ·cases z with
          | v y=>obtain ⟨c',_,rfl⟩:=List.mem_map.1 h'; exact al_v _
          | p b' off'=>simp only [Zaw,List.mem_singleton] at h'; subst h'; exact hW.evl hy
        ·simp only [Zay _ _ e1] at hc'
         exact hW.cel c t' cs' hc' x' hx'
       exact fun d off' e'=>some_up (q':=0) (key d off' e')
    ·cases h
   ·cases h
  ·cases h
theorem Zef (h:Zbb ops o s s') (hb:∀ b q,Zb1 o s b→s.bl b=some q→s'.bl b=some q) {s1:St} (e:Zb0 P ops o s=some s1):(s1=s∧Zb0 P ops o s'=some s')∨∃ b q q',s.bl b=some q∧Zcj o s b∧s1={ s with bl:=upd s.bl b q' }∧Zb0 P ops o s'=some { s' with bl:=upd s'.bl b q' }:=by
 unfold Zb0 at e ⊢
 split at e
 ·cases e
 ·rename_i hw
  injection e with e
  rw [h.want hw]
  exact Or.inl ⟨e.symm,rfl⟩
 ·rename_i hw
  rw [h.want hw]
  simp only
  split at e
  ·rename_i t x y ho
   split at e
   ·rename_i b off z te hx hy he
    rw [h.eval (by simp [ho,Op.operands]) hx,h.eval (by simp [ho,Op.operands]) hy,he]
    simp only
    split at e
    ·rename_i bt cs hq
     have hl:Zcj o s b:=⟨x,off,by rw [ho]; rfl,hx⟩
     rw [hb b _ hl.leads hq]
     simp only
     cases hc:(Nat.beq (Zaw z).length te.size && (Nat.ble (off + (Zaw z).length) cs.length && (Zaw z).all Zbu)) with
     | false=>rw [hc] at e; cases e
     | true =>
       rw [hc] at e
       simp only [cond_true,Option.some.injEq] at e ⊢
       exact Or.inr ⟨b,_,_,hq,hl,e.symm,rfl⟩
    ·cases e
   ·cases e
  ·cases e
theorem ZfP (s:St) {d e:Nat} (h:d≠e) (r q:AV × NewB):(s.app d r).app e q=(s.app e q).app d r:=by
 obtain ⟨x,nx⟩:=r
 obtain ⟨y,ny⟩:=q
 cases nx<;>cases ny<;>simp [St.app,Zee _ _ _ h.symm]
theorem Zhn (s:St) {d t:Nat} (h:t≠d) (r:AV × NewB):(s.app d r).sl t=s.sl t:=Zay _ _ h
theorem Zca (s:St) {d b:Nat} (h:b≠d) (r:AV × NewB):(s.app d r).bl b=s.bl b:=by
 obtain ⟨x,nx⟩:=r
 cases nx with
 | none=>rfl
 | some q=>exact Zay _ _ h
theorem Zc2 {d:Nat} (h:d ∉ o.looksAt ops) (s:St) (r:AV × NewB):Zbb ops o s (s.app d r):=fun t ht x hx=>by
 rw [Zhn s (fun e=>h (by rw [← e]; exact ht))]; exact hx
theorem ZbY {d:Nat} (h:d ∉ o.looksAt ops) (s:St) (r:AV × NewB):Zbb ops o (s.app d r) s:=fun t ht x hx=>by
 rw [Zhn s (fun e=>h (by rw [← e]; exact ht))] at hx; exact hx
theorem Zfx {d b:Nat} (h:d ∉ o.looksAt ops) {r:AV × NewB} (hl:Zb1 o (s.app d r) b):Zb1 o s b:=by
 obtain ⟨x,off,hx,e⟩:=hl
 exact ⟨x,off,hx,(ZbY h s r).eval hx e⟩
theorem Strat.swap {fin:St→(World→Prop)→Prop} {x j:Nat} {l:List Nat} (hne0:∃ w,Φ0 w) (hW:WF s) (hap:(opAt ops x).apart ops (opAt ops j)=true) (hm:ZbD (opAt ops x).op (opAt ops j).op=true∨(lsB (opAt ops x).op (opAt ops j).op=true∧Far (opAt ops x) (opAt ops j) s))
 (h:Strat P N S0 w0 ops Φ0 fin (x :: j :: l) s Φ):Strat P N S0 w0 ops Φ0 fin (j :: x :: l) s Φ:=by
 obtain ⟨a1,a2,a3⟩:=Oper.apart_spec hap
 cases h with
 | flt hx hdx hNx K =>
   rename_i rx dx
   have hwx:=hx.wf hW hdx
   have n1:dx ∉ (opAt ops j).looksAt ops:=a1 dx hdx
   cases K with
   | flt hj hdj hNj K =>
     rename_i rj dj
     have n2:dj ∉ (opAt ops x).looksAt ops:=a3 dj hdj
     have hne:dx≠dj:=fun e=>a2 dx hdx (by rw [hdj,e])
     have hj':FV P ops Φ0 (opAt ops j) s rj:=hj.mono (ZbY n1 s rx) (fun _ b q hl hq=>by
      have hal:(s.bl b).isSome=true:=by
       obtain ⟨y,off,_,e⟩:=Zfx n1 hl
       exact hW.evl e b off rfl
      by_cases e:b=dx
      ·subst e
       obtain ⟨av,nb⟩:=rx
       cases nb with
       | none=>exact hq
       | some q'=>rw [hwx.2 q' rfl] at hal; cases hal
      ·rw [Zca s e] at hq; exact hq)
      (fun d hd h0=>by
       rw [hdj] at hd
       injection hd with hd
       subst hd
       rw [Zca s (Ne.symm hne)] at h0; exact h0)
     have hwj:=hj'.wf hW hdj
     have hx':FV P ops Φ0 (opAt ops x) (s.app dj rj) rx:=hx.mono (Zc2 n2 s rj) (fun _ b q _ hq=>by
      by_cases e:b=dj
      ·subst e
       obtain ⟨av,nb⟩:=rj
       cases nb with
       | none=>exact hq
       | some q'=>rw [hwj.2 q' rfl] at hq; cases hq
      ·rw [Zca s e]; exact hq)
      (fun d hd h0=>by
       rw [hdx] at hd
       injection hd with hd
       subst hd
       rw [Zca s hne]; exact h0)
     rw [ZfP s hne] at K
     exact .flt hj' hdj hNj (.flt hx' hdx hNx K)
   | does hα sh φ hmj hw hn hv hdj hNj hdo K =>
     rename_i dj α
     have n2:dj ∉ (opAt ops x).looksAt ops:=a3 dj hdj
     have hne:dx≠dj:=fun e=>a2 dx hdx (by rw [hdj,e])
     have kn:=ZbY n1 s rx
     refine .does hα sh φ hmj (kn.want hw) hn (kn.vB hv) hdj hNj (fun w hf Q=>?_) (fun z=>?_)
     ·have:=hdo w hf Q
      unfold Does at this ⊢
      rw [kn.exec hn hv]; exact this
     ·refine .flt (r:=rx) (hx.mono (Zc2 n2 s (.v (sh z),none)) (fun _ b q _ hq=>hq) (fun d _ h0=>h0)) hdx hNx ?_
      have:=K z
      rw [ZfP s hne] at this
      exact this
   | sto hmj hsj hdj K =>
     rename_i s2
     have kn:=ZbY n1 s rx
     have nol:∀ b,Zcj (opAt ops j) (s.app dx rx) b→cls (opAt ops x).op=1→∀ b0,Zb1 (opAt ops x) s b0→b0≠b:=fun b hb e b0 h0=>by
      rcases hm with hm | ⟨_,hm⟩
      ·simp [ZbD,e,hmj] at hm
      ·obtain ⟨y,off,hy,e'⟩:=hb
       refine hm b0 b (h0.addr e) ⟨y,off,hy,kn.eval ?_ e'⟩
       cases ho:(opAt ops j).op with
       | load t z=>rw [ho] at hy; injection hy with hy; simp [Op.operands,hy]
       | store t z u=>rw [ho] at hy; injection hy with hy; simp [Op.operands,hy]
       | _=>rw [ho] at hy; cases hy
     have hbl:∀ b q,Zb1 (opAt ops j) (s.app dx rx) b→(s.app dx rx).bl b=some q→s.bl b=some q:=fun b q hl hq=>by
      have hal:(s.bl b).isSome=true:=by
       obtain ⟨y,off,_,e⟩:=Zfx n1 hl
       exact hW.evl e b off rfl
      by_cases e:b=dx
      ·subst e
       obtain ⟨av,nb⟩:=rx
       cases nb with
       | none=>exact hq
       | some q'=>rw [hwx.2 q' rfl] at hal; cases hal
      ·rw [Zca s e] at hq; exact hq
     rcases Zef kn hbl hsj with ⟨e1,e2⟩ | ⟨b,q,q',hq,hl,e1,e2⟩
     ·subst e1
      exact .sto hmj e2 hdj (.flt hx hdx hNx K)
     ·subst e1
      have hsb:=hbl b q hl.leads hq
      refine .sto hmj e2 hdj (.flt (FV.mono (s:=s) (s':={ s with bl:=upd s.bl b q' }) (fun t _ x hx=>hx) (fun e b0 q0 hl0 hq0=>by show upd s.bl b q' b0=some q0; rw [Zay _ _ (nol b hl e b0 hl0)]; exact hq0) (fun d hd h0=>?_) hx) hdx hNx ?_)
      ·show upd s.bl b q' d=none
       have:d≠b:=fun e=>by subst e; rw [h0] at hsb; cases hsb
       rw [Zay _ _ this]; exact h0
      ·have:({ s with bl:=upd s.bl b q' }:St).app dx rx={ s.app dx rx with bl:=upd (s.app dx rx).bl b q' }:=by
        obtain ⟨av,nb⟩:=rx
        cases nb with
        | none=>rfl
        | some z =>
          have hne:b≠dx:=fun e=>by
           subst e
           rw [hwx.2 z rfl] at hsb; cases hsb
          simp only [St.app]
          rw [Zee _ _ _ hne.symm]
       rw [this]; exact K
 | sto hmx hsx hdx K =>
   rename_i s1
   cases K with
   | flt hj hdj hNj K =>
     rename_i rj dj
     have nol:∀ b,Zcj (opAt ops x) s b→cls (opAt ops j).op=1→∀ b0,Zb1 (opAt ops j) s b0→b0≠b:=fun b hb e b0 h0=>by
      rcases hm with hm | ⟨_,hm⟩
      ·simp [ZbD,e,hmx] at hm
      ·exact fun e'=>hm b b0 hb (h0.addr e) e'.symm
     have n2:dj ∉ (opAt ops x).looksAt ops:=a3 dj hdj
     rcases Zig hsx with e1 | ⟨b,q,q',hq,e1,hl⟩
     ·subst e1
      have hwj:=hj.wf hW hdj
      have hbl:∀ b q,Zb1 (opAt ops x) s1 b→s1.bl b=some q→(s1.app dj rj).bl b=some q:=fun b q _ hq=>by
       by_cases e:b=dj
       ·subst e
        obtain ⟨av,nb⟩:=rj
        cases nb with
        | none=>exact hq
        | some q'=>rw [hwj.2 q' rfl] at hq; cases hq
       ·rw [Zca s1 e]; exact hq
      rcases Zef (Zc2 n2 s1 rj) hbl hsx with ⟨_,e2⟩ | ⟨b,q,q',hq,hl,e1,e2⟩
      ·exact .flt hj hdj hNj (.sto hmx e2 hdx K)
      ·refine .flt hj hdj hNj (.sto hmx e2 hdx ?_)
       have e3:upd s1.bl b q'=s1.bl:=(congrArg St.bl e1).symm
       have hne:∀ z,rj.2=some z→b≠dj:=fun z hz e=>by
        subst e
        rw [hwj.2 z hz] at hq; cases hq
       have:({ s1.app dj rj with bl:=upd (s1.app dj rj).bl b q' }:St)=s1.app dj rj:=by
        obtain ⟨av,nb⟩:=rj
        cases nb with
        | none=>simp only [St.app]; rw [e3]
        | some z=>simp only [St.app]; rw [Zee _ _ _ (hne z rfl),e3]
       rw [this]; exact K
     ·have hj':FV P ops Φ0 (opAt ops j) s rj:=hj.mono (fun t _ x hx=>by rw [e1] at hx; exact hx) (fun e b0 q0 hl0 hq0=>by
       have hl1:Zb1 (opAt ops j) s b0:=by rw [e1] at hl0; exact hl0
       rw [e1] at hq0
       simp only [Zay _ _ (nol b hl e b0 hl1)] at hq0; exact hq0) (fun d hd h0=>by
       rw [e1] at h0
       have:d≠b:=fun e=>by subst e; simp [ZaM] at h0
       simp only [Zay _ _ this] at h0; exact h0)
      have hwj:=hj'.wf hW hdj
      have hbl:∀ b q,Zb1 (opAt ops x) s b→s.bl b=some q→(s.app dj rj).bl b=some q:=fun b q _ hq=>by
       by_cases e:b=dj
       ·subst e
        obtain ⟨av,nb⟩:=rj
        cases nb with
        | none=>exact hq
        | some q'=>rw [hwj.2 q' rfl] at hq; cases hq
       ·rw [Zca s e]; exact hq
      rcases Zef (Zc2 n2 s rj) hbl hsx with ⟨e3,e2⟩ | ⟨b2,q2,q3,hq2,hl2,e3,e2⟩
      ·refine .flt hj' hdj hNj (.sto hmx e2 hdx ?_)
       rw [e3] at K; exact K
      ·refine .flt hj' hdj hNj (.sto hmx e2 hdx ?_)
       have hne:∀ z,rj.2=some z→b2≠dj:=fun z hz e=>by
        subst e
        rw [hwj.2 z hz] at hq2; cases hq2
       have:({ s.app dj rj with bl:=upd (s.app dj rj).bl b2 q3 }:St)=s1.app dj rj:=by
        rw [e3]
        obtain ⟨av,nb⟩:=rj
        cases nb with
        | none=>rfl
        | some z=>simp only [St.app]; rw [Zee _ _ _ (hne z rfl)]
       rw [this]; exact K
   | does hα sh φ hmj _ _ _ _ _ _ _=>simp [ZbD,lsB,hmx,hmj] at hm
   | sto hmj _ _ _=>simp [ZbD,lsB,hmx,hmj] at hm
 | does hα sh φ hmx hw hn hv hdx hNx hdo K =>
   rename_i dx α
   have n1:dx ∉ (opAt ops j).looksAt ops:=a1 dx hdx
   obtain ⟨z0⟩:=hα
   have Kj:∀ z,∃ rj dj,FV P ops Φ0 (opAt ops j) s rj∧(opAt ops j).dst=some dj∧dj < N∧Strat P N S0 w0 ops Φ0 fin l ((s.app dx (.v (sh z),none)).app dj rj) (fun w=>Φ w∧φ z w):=fun z=>by
    have K1:=K z
    cases K1 with
    | flt hj hdj hNj K=>exact ⟨_,_,hj.mono (ZbY n1 s (.v (sh z),none)) (fun _ b q _ hq=>hq) (fun d _ h0=>h0),hdj,hNj,K⟩
    | does hα sh' φ' hmj _ _ _ _ _ _ _=>simp [ZbD,lsB,hmx,hmj] at hm
    | sto hmj _ _ _=>simp [ZbD,lsB,hmx,hmj] at hm
   obtain ⟨rj,dj,hj,hdj,hNj,_⟩:=Kj z0
   have n2:dj ∉ (opAt ops x).looksAt ops:=a3 dj hdj
   have hne:dx≠dj:=fun e=>a2 dx hdx (by rw [hdj,e])
   have kn:=Zc2 n2 s rj
   refine .flt hj hdj hNj (.does ⟨z0⟩ sh φ hmx (kn.want hw) hn (kn.vB hv) hdx hNx (fun w hf Q=>?_) (fun z=>?_))
   ·have:=hdo w hf Q
    unfold Does at this ⊢
    rw [kn.exec hn hv]; exact this
   ·have K1:=K z
    cases K1 with
    | flt hj2 hdj2 hNj2 K2 =>
      rename_i rj2 dj2
      have hj3:FV P ops Φ0 (opAt ops j) s rj2:=hj2.mono (ZbY n1 s (.v (sh z),none)) (fun _ b q _ hq=>hq) (fun d _ h0=>h0)
      have e1:dj2=dj:=by rw [hdj] at hdj2; injection hdj2 with e; exact e.symm
      subst e1
      rw [FV.uniq hne0 hj hj3]
      rw [ZfP s hne] at K2
      exact K2
    | does _ _ _ hmj _ _ _ _ _ _ _=>simp [ZbD,lsB,hmx,hmj] at hm
    | sto hmj _ _ _=>simp [ZbD,lsB,hmx,hmj] at hm
end
end Go.Proofs.YtcpjeaaapocoeaaGreatDoor

namespace Go.Proofs.YtcpjeaaapocoeaaGreatDoor
open Go.RowKit
section
variable {N:Nat} {S0:Nat→Prop} {w0:World} {s s':St} {Φ Ψ Φ0:World→Prop} {L:Nat→Nat} {a:Act} {w:World} {P:Program} {ops:Array Oper} {Q:Exit→Act→World→Prop} {o:Oper} {fin:St→(World→Prop)→Prop}
def Zgu (ops:Array Oper) (t:Nat):Nat:=ops.toList.findIdx fun o=>match o.dst with | some d=>Nat.beq d t | none=>false
def srcT:Op→Option Nat
 | .fieldAddr _ (.tmp u) _=>some u
 | .nilCheck (.tmp u)=>some u
 | .move (.tmp u)=>some u
 | _=>none
def pmF (ops:Array Oper) (s0:St):Nat→Nat→Option Nat
 | 0,_=>none
 | f + 1,t=>bif Nat.blt (Zgu ops t) ops.size then (match (opAt ops (Zgu ops t)).op with | .alloc _=>some t | .box _ _=>some t | o=>match srcT o with | some u=>pmF ops s0 f u | none=>none)
   else (match s0.sl t with | some (.p b _)=>some b | _=>none)
def BI (ops:Array Oper) (s0 s:St):Prop:=∀ f t b',pmF ops s0 f t=some b'→∀ b off,s.sl t=some (.p b off)→b=b'
def Zco (ops:Array Oper):Bool:=(List.range ops.size).all fun i=>match (opAt ops i).dst with | some d=>Nat.beq (Zgu ops d) i | none=>true
def Zeg (ops:Array Oper) (sl:SlL):Bool:=sl.all fun q=>match q.2 with | .p _ _ => !(Nat.blt (Zgu ops q.1) ops.size) | _=>true
theorem BI.init {sl:SlL} {bl:BlL} (h:Zeg ops sl=true):BI ops (ofL sl bl) (ofL sl bl):=by
 intro f t b' hp b off hs
 have h1:=List.all_eq_true.1 h _ (ZaO (i:=t) hs)
 simp only at h1
 cases f with
 | zero=>cases hp
 | succ f =>
   unfold pmF at hp
   cases hb:Nat.blt (Zgu ops t) ops.size with
   | true=>rw [hb] at h1; cases h1
   | false =>
     rw [hb] at hp
     simp only [cond_false,hs,Option.some.injEq] at hp
     exact hp
theorem Zkh {r:AV × NewB} (h:Za6 P ops o s=some r) {u b off:Nat} (ho:srcT o.op=some u) (hr:r.1=.p b off):∃ off',s.sl u=some (.p b off'):=by
 have pure_no:∀ {x:Option AV},x=ZaS P o s→noB x=some r→False:=fun e h=>by
  obtain ⟨x,hx,e2⟩:=ZaJ h
  rw [e] at hx
  obtain ⟨y,e3⟩:=Zhl hx
  subst e3; subst e2; cases hr
 unfold srcT at ho
 split at ho
 ·rename_i t u' k hop
  injection ho with ho
  subst ho
  unfold Za6 at h
  rw [hop] at h
  simp only at h
  split at h
  ·cases h
  ·injection h with h; subst h; cases hr
  ·split at h
   ·rename_i b2 off2 hb
    split at h
    ·split at h
     ·injection h with h
      subst h
      injection hr with e1 _
      subst e1
      exact ⟨off2,hb⟩
     ·cases h
    ·cases h
   ·exact (pure_no rfl h).elim
 ·rename_i u' hop
  injection ho with ho
  subst ho
  unfold Za6 at h
  rw [hop] at h
  simp only at h
  split at h
  ·cases h
  ·injection h with h; subst h; cases hr
  ·split at h
   ·rename_i b2 off2 hb
    injection h with h
    subst h
    injection hr with e1 _
    subst e1
    exact ⟨off2,hb⟩
   ·exact (pure_no rfl h).elim
 ·rename_i u' hop
  injection ho with ho
  subst ho
  unfold Za6 at h
  rw [hop] at h
  simp only at h
  split at h
  ·cases h
  ·injection h with h; subst h; cases hr
  ·obtain ⟨x,hx,e⟩:=ZaJ h
   subst e
   simp only at hr
   subst hr
   exact ⟨off,hx⟩
 ·cases ho
def Zjz:Op→Bool
 | .alloc _=>true
 | .box _ _=>true
 | _=>false
theorem ZlK {r:AV × NewB} (h:Za6 P ops o s=some r) (ho:Zjz o.op=true) {b off d:Nat} (hr:r.1=.p b off) (hd:o.dst=some d):b=d:=by
 have key:∀ {t:TypeId} {cs:List AV},ZcY s o.dst t cs=some r→b=d:=fun h=>by
  obtain ⟨k,hk,e,_⟩:=Zc7 h
  rw [hd] at hk
  injection hk with hk
  subst hk; subst e
  injection hr with e1 _
  exact e1.symm
 unfold Za6 at h
 split at h
 ·cases h
 ·injection h with h; subst h; cases hr
 ·cases hop:o.op with
  | alloc t =>
    rw [hop] at h
    simp only at h
    split at h
    ·exact key h
    ·cases h
  | box t x =>
    rw [hop] at h
    simp only at h
    split at h
    ·exact key h
    ·cases h
  | _=>rw [hop] at ho; cases ho
theorem FV.new {r:AV × NewB} (h:FV P ops Φ0 o s r) (ho:Zjz o.op=true) {b off d:Nat} (hr:r.1=.p b off) (hd:o.dst=some d):b=d:=by
 rcases h with h | ⟨y,rfl,_⟩
 ·exact ZlK h ho hr hd
 ·cases hr
theorem BI.app {s0:St} {i d:Nat} (h:BI ops s0 s) (hu:Zco ops=true) (hi:i < ops.size) (hd:(opAt ops i).dst=some d) {r:AV × NewB} (hn:∀ b off,r.1=.p b off→Zjz (opAt ops i).op=true→b=d) (hr:∀ b off,r.1=.p b off→∀ u,srcT (opAt ops i).op=some u→∃ off',s.sl u=some (.p b off')):BI ops s0 (s.app d r):=by
 intro f t b' hp b off hs
 by_cases e:t=d
 ·subst e
  simp only [St.app,ZaM,Option.some.injEq] at hs
  have h1:=List.all_eq_true.1 hu i (List.mem_range.2 hi)
  rw [hd] at h1
  have h2:=Nat.eq_of_beq_eq_true h1
  cases f with
  | zero=>cases hp
  | succ f =>
    unfold pmF at hp
    rw [h2] at hp
    have:Nat.blt i ops.size=true:=by rw [Nat.blt_eq]; exact hi
    rw [this] at hp
    simp only [cond_true] at hp
    split at hp
    ·rename_i ho
     injection hp with hp
     rw [← hp]; exact hn b off hs (by rw [ho]; rfl)
    ·rename_i ho
     injection hp with hp
     rw [← hp]; exact hn b off hs (by rw [ho]; rfl)
    ·split at hp
     ·rename_i u hu
      obtain ⟨off',hu'⟩:=hr b off hs u hu
      exact h f u b' hp b off' hu'
     ·cases hp
 ·simp only [St.app,Zay _ _ e] at hs
  exact h f t b' hp b off hs
theorem FV.field {r:AV × NewB} (h:FV P ops Φ0 o s r) {b off:Nat} (hr:r.1=.p b off) {u:Nat} (ho:srcT o.op=some u):∃ off',s.sl u=some (.p b off'):=by
 rcases h with h | ⟨y,rfl,_⟩
 ·exact Zkh h ho hr
 ·cases hr
theorem Zki (h:Zb0 P ops o s=some s'):s'.sl=s.sl:=by
 rcases Zig h with e | ⟨b,q,q',_,e,_⟩
 ·rw [e]
 ·rw [e]
def farB (ops:Array Oper) (s0:St) (x j:Oper):Bool :=
 match Zif x.op,Zif j.op with
 | some (.tmp t),some (.tmp u)=>match pmF ops s0 4 t,pmF ops s0 4 u with
   | some b,some c => !(Nat.beq b c)
   | _,_=>false
 | _,_=>false
theorem Zk8 {s0:St} {x j:Oper} (h:farB ops s0 x j=true) (hB:BI ops s0 s):Far x j s:=by
 intro b c ⟨y,off,hy,ey⟩ ⟨z,off',hz,ez⟩
 unfold farB at h
 rw [hy,hz] at h
 split at h
 ·rename_i t u e1 e2
  injection e1 with e1
  injection e2 with e2
  subst e1; subst e2
  split at h
  ·rename_i b' c' hb hc
   have h1:=hB 4 t b' hb b off ey
   have h2:=hB 4 u c' hc c off' ez
   intro e
   rw [h1,h2] at e
   rw [e] at h
   simp at h
  ·cases h
 ·cases h
theorem Strat.under {s0:St} {x:Nat} {l l':List Nat} (hu:Zco ops=true) (hx:x < ops.size) (hW:WF s) (hB:BI ops s0 s) (H:∀ s Φ,WF s→BI ops s0 s→Strat P N S0 w0 ops Φ0 fin l s Φ→Strat P N S0 w0 ops Φ0 fin l' s Φ) (h:Strat P N S0 w0 ops Φ0 fin (x :: l) s Φ):Strat P N S0 w0 ops Φ0 fin (x :: l') s Φ:=by
 cases h with
 | flt hf hd hN K=>exact .flt hf hd hN (H _ _ (hf.wf hW hd).1 (hB.app hu hx hd (fun b off hr ho=>hf.new ho hr hd) (fun b off hr u ho=>hf.field hr ho)) K)
 | does hα sh φ hm hw hn hv hd hN hdo K=>exact .does hα sh φ hm hw hn hv hd hN hdo (fun z=>H _ _ (hW.app0 _ (al_v _)) (hB.app hu hx hd (fun b off hr=>by cases hr) (fun b off hr=>by cases hr)) (K z))
 | sto hm h hd K=>exact .sto hm h hd (H _ _ (Zml hW h) (fun f t b' hp b off hs=>hB f t b' hp b off (by rw [Zki h] at hs; exact hs)) K)
theorem Strat.front {s0:St} (hu:Zco ops=true) (hne:∃ w,Φ0 w) {j:Nat}:∀ (l1 l2:List Nat) (s:St) (Φ:World→Prop),WF s→BI ops s0 s→(∀ x,x ∈ l1→x < ops.size∧(opAt ops x).apart ops (opAt ops j)=true∧(ZbD (opAt ops x).op (opAt ops j).op=true∨(lsB (opAt ops x).op (opAt ops j).op=true∧farB ops s0 (opAt ops x) (opAt ops j)=true))) →
 Strat P N S0 w0 ops Φ0 fin (l1 ++ j :: l2) s Φ→Strat P N S0 w0 ops Φ0 fin (j :: (l1 ++ l2)) s Φ
 | [],l2,s,Φ,_,_,_,h=>h
 | x :: l1,l2,s,Φ,hW,hB,hx,h=>by
   have hxx:=hx x List.mem_cons_self
   have h1:Strat P N S0 w0 ops Φ0 fin (x :: j :: (l1 ++ l2)) s Φ:=Strat.under hu hxx.1 hW hB (fun s Φ hW' hB' h'=>Strat.front hu hne l1 l2 s Φ hW' hB' (fun y hy=>hx y (List.mem_cons_of_mem _ hy)) h') h
   exact Strat.swap hne hW hxx.2.1 (hxx.2.2.imp id (fun h=>⟨h.1,Zk8 h.2 hB⟩)) h1
theorem Zct {i:Nat} (h:i < ops.size):ops[i]? = some (opAt ops i):=by simp [opAt,h]
theorem Strat.exec {s0:St} {j:Nat} {l:List Nat} (hu:Zco ops=true) (hB:BI ops s0 s) (hj:j < ops.size) (hi:Inv N S0 w0 s Φ L a w) (R:∀ w,Φ w→Φ0 w) (h:Strat P N S0 w0 ops Φ0 fin (j :: l) s Φ) {K:Act→World→Prop}
 (hK:∀ s' Φ' L a w,BI ops s0 s'→(∀ w,Φ' w→Φ0 w)→Inv N S0 w0 s' Φ' L a w→Strat P N S0 w0 ops Φ0 fin l s' Φ'→K a w):wpOp P ops Q j K a w:=by
 unfold wpOp
 rw [Zct hj]
 simp only
 have key:if Region.wanted (opAt ops j) (yielded ops a.tmps)=true then (opAt ops j).wp P a w K Q else K (a.put (opAt ops j).dst undef) w:=by
  cases h with
  | flt hx hd hN K'=>exact (hx.yld hi R hd hN).step (fun L a w hi'=>hK _ _ L a w (hB.app hu hj hd (fun b off hr ho=>hx.new ho hr hd) (fun b off hr u ho=>hx.field hr ho)) R hi' K')
  | does hα sh φ hm hw hn hv hd hN hdo K'=>exact Zie hi hw hn hv hd hN hdo (fun z L a w hi'=>hK _ _ L a w (hB.app hu hj hd (fun b off hr=>by cases hr) (fun b off hr=>by cases hr)) (fun w h=>R w h.1) hi' (K' z))
  | sto hm h hd K'=>exact Zhk hi h hd (fun L a w hi'=>hK _ _ L a w (fun f t b' hp b off hs=>hB f t b' hp b off (by rw [Zki h] at hs; exact hs)) R hi' K')
 by_cases hw:Region.wanted (opAt ops j) (yielded ops a.tmps)=true
 ·rw [if_pos hw] at key ⊢; exact Or.inl key
 ·rw [if_neg hw] at key ⊢; exact key
def un (n:Nat) (listed:Array Bool):List Nat:=(List.range n).filter fun i => !listed.getD i true
theorem ZcK {n i:Nat} {listed:Array Bool}:i ∈ un n listed ↔ i < n∧listed.getD i true=false:=by
 simp [un,List.mem_filter]
theorem ZdG (n:Nat) (listed:Array Bool):(un n listed).Pairwise (· < ·):=List.Pairwise.filter _ List.pairwise_lt_range
theorem ZiP {listed:Array Bool} {j:Nat} (h:listed.getD j true=false):(listed.setIfInBounds j true).getD j true=true:=by
 have hlt:j < listed.size:=by
  rcases Nat.lt_or_ge j listed.size with h' | h'
  ·exact h'
  ·simp [Array.getElem?_eq_none h'] at h
 simp [hlt]
theorem Zmm {n j:Nat} {listed:Array Bool} {l1 l2:List Nat} (h:un n listed=l1 ++ j :: l2):un n (listed.setIfInBounds j true)=l1 ++ l2:=by
 have hj:listed.getD j true=false:=(ZcK.1 (by rw [h]; simp:j ∈ un n listed)).2
 have e:un n (listed.setIfInBounds j true)=(un n listed).filter (fun i=>i != j):=by
  unfold un
  rw [List.filter_filter]
  refine List.filter_congr (fun i _=>?_)
  by_cases hij:i=j
  ·subst hij; rw [ZiP hj]; simp
  ·rw [getD_set_ne true (Ne.symm hij)]; simp [hij]
 rw [e,h,List.filter_append,List.filter_cons]
 have hs:=ZdG n listed
 rw [h] at hs
 obtain ⟨_,h2,h3⟩:=List.pairwise_append.1 hs
 have h4:=(List.pairwise_cons.1 h2).1
 rw [List.filter_eq_self.2 (fun x hx=>by have:=h3 x hx j List.mem_cons_self; simp; omega),List.filter_eq_self.2 (fun x hx=>by have:=h4 x hx; simp; omega)]
 simp
def ZcL (ops:Array Oper):Bool:=(List.range ops.size).all fun j=>match ops[j]? with | some o=>o.after.all (fun e => !Region.binds .any e || Nat.blt e.on j) | none=>true
def ZhP (R:Nat→Nat→Bool) (ops:Array Oper) (s0:St) (n:Nat):Bool:=(List.range n).all fun j=>(List.range j).all fun x=>R j x || ((opAt ops x).apart ops (opAt ops j) && (ZbD (opAt ops x).op (opAt ops j).op || (lsB (opAt ops x).op (opAt ops j).op && farB ops s0 (opAt ops x) (opAt ops j))))
def ZbH (ops:Array Oper) (n:Nat):Array Bool:=(List.replicate n true ++ List.replicate (ops.size - n) false).toArray
def ZdH (ops:Array Oper) (R:Nat→Nat→Bool):Prop:=∀ (listed:Array Bool),Zb5 .any ops listed→∀ j x,R j x=true→(∀ ot,ops[j]? = some ot→∀ e ∈ ot.after,Region.binds .any e=true→listed.getD e.on false=true)→listed.getD x false=true
theorem Zfy (ops:Array Oper):ZdH ops (ZcW .any ops 4):=fun _ hc j _ h hall=>ZeI hc 4 j h hall
def upM (masks:List Nat) (l:List Edge) (m:Nat):Nat:=l.foldl (fun m e=>bif Region.binds .any e then m ||| (masks.getD e.on 0 ||| 1 <<< e.on) else m) m
def Zlr (ops:Array Oper) (masks:List Nat):Bool:=(List.range ops.size).all fun j=>Nat.beq (masks.getD j 0 ||| upM masks (opAt ops j).after.toList 0) (upM masks (opAt ops j).after.toList 0)
theorem Zih {masks:List Nat} {x:Nat}:∀ (l:List Edge) (m:Nat),(upM masks l m).testBit x=true→m.testBit x=true∨∃ e ∈ l,Region.binds .any e=true∧(x=e.on∨(masks.getD e.on 0).testBit x=true)
 | [],m,h=>Or.inl h
 | e :: l,m,h=>by
   have h':(upM masks l (bif Region.binds .any e then m ||| (masks.getD e.on 0 ||| 1 <<< e.on) else m)).testBit x=true:=h
   rcases Zih l _ h' with h1 | ⟨e',he,h1⟩
   ·cases hb:Region.binds .any e with
    | false=>rw [hb] at h1; exact Or.inl h1
    | true =>
      rw [hb] at h1
      simp only [cond_true,Nat.testBit_or,Bool.or_eq_true] at h1
      rcases h1 with h1 | h1 | h1
      ·exact Or.inl h1
      ·exact Or.inr ⟨e,List.mem_cons_self,hb,Or.inr h1⟩
      ·refine Or.inr ⟨e,List.mem_cons_self,hb,Or.inl ?_⟩
       rw [Nat.one_shiftLeft,Nat.testBit_two_pow] at h1
       have:=of_decide_eq_true h1
       omega
   ·exact Or.inr ⟨e',List.mem_cons_of_mem _ he,h1⟩
theorem ZjA {masks:List Nat} (hback:ZcL ops=true) (hl:Nat.ble masks.length ops.size=true) (h:Zlr ops masks=true):ZdH ops (fun j x=>(masks.getD j 0).testBit x):=by
 intro listed hc j
 induction j using Nat.strongRecOn with
 | ind j ih =>
   intro x hx hall
   have hx:(masks.getD j 0).testBit x=true:=hx
   have hj:j < ops.size:=by
    rcases Nat.lt_or_ge j ops.size with h' | h'
    ·exact h'
    ·have:=Nat.le_of_ble_eq_true hl
     rw [List.getD_eq_getElem?_getD,List.getElem?_eq_none (by omega)] at hx
     simp at hx
   have h1:=Nat.eq_of_beq_eq_true (List.all_eq_true.1 h j (List.mem_range.2 hj))
   have h2:(upM masks (opAt ops j).after.toList 0).testBit x=true:=by
    rw [← h1,Nat.testBit_or,hx,Bool.true_or]
   rcases Zih _ _ h2 with h3 | ⟨e,he,hb,h3⟩
   ·simp at h3
   ·have he':e ∈ (opAt ops j).after:=by simpa using he
    have hon:=hall _ (Zct hj) e he' hb
    rcases h3 with rfl | h3
    ·exact hon
    ·have h4:=List.all_eq_true.1 hback j (List.mem_range.2 hj)
     rw [Zct hj] at h4
     have h5:=Array.all_eq_true'.1 h4 e he'
     rw [hb] at h5
     have h6:=Nat.le_of_ble_eq_true h5
     exact ih e.on h6 x h3 (fun ot ho e2 he2 hb2=>hc e.on ot ho hon e2 he2 hb2)
def Zls (ops:Array Oper) (s0:St) (n:Nat):Bool:=Nat.ble n ops.size && (Zco ops && ZcL ops && ((List.range n).all (fun i=>ZbA .any ops n i) && (ZhP (ZcW .any ops 4) ops s0 n && Region.seqB .any ops (ops.size - n) n (ZbH ops n))))
theorem Zkj {s0:St} {n:Nat} {R:Nat→Nat→Bool} (hR:ZdH ops R) (hu:Zco ops=true) (hn:n≤ops.size) (hback:ZcL ops=true) (htail:∀ i,i < n→ZbA .any ops n i=true) (hpair:ZhP R ops s0 n=true) (hseq:Region.seqB .any ops (ops.size - n) n (ZbH ops n)=true) (hne:∃ w,Φ0 w)
 (hfin:∀ s Φ,fin s Φ→∀ L a w,Inv N S0 w0 s Φ L a w→wpList P ops Q (ops.toList.drop n) a w) :
 ∀ (k:Nat) (listed:Array Bool) (s:St) (Φ:World→Prop) (L:Nat→Nat) (a:Act) (w:World),(un n listed).length=k→listed.size=ops.size→(∀ i,n≤i→i < ops.size→listed.getD i true=false)→Zb5 .any ops listed →
   BI ops s0 s→(∀ w,Φ w→Φ0 w)→Inv N S0 w0 s Φ L a w→Strat P N S0 w0 ops Φ0 fin (un n listed) s Φ→wpAny P .any ops Q (k + (ops.size - n)) listed a w:=by
 intro k
 induction k with
 | zero =>
   intro listed s Φ L a w hk hsz htl hcl hBI S hi hS
   have hnil:un n listed=[]:=List.length_eq_zero_iff.1 hk
   rw [hnil] at hS
   have hl:listed=ZbH ops n:=by
    refine Array.ext (by simp [ZbH,hsz]; omega) (fun i h1 h2=>?_)
    have hi':i < ops.size:=by rw [← hsz]; exact h1
    have e:listed.getD i true=listed[i]:=by simp [h1]
    rw [← e]
    by_cases hin:i < n
    ·have:listed.getD i true≠false:=fun h=>by
      have:=ZcK.2 ⟨hin,h⟩
      rw [hnil] at this
      cases this
     simp only [ZbH,List.getElem_toArray]
     rw [List.getElem_append_left (by simpa using hin),List.getElem_replicate]
     cases h:listed.getD i true with
     | true=>rfl
     | false=>exact absurd h this
    ·rw [htl i (by omega) hi']
     simp only [ZbH,List.getElem_toArray]
     rw [List.getElem_append_right (by simpa using hin),List.getElem_replicate]
   have hdl:(ops.toList.drop n).length=ops.size - n:=by simp
   cases hS with
   | done hf =>
     have:=wpAny_of_seq (md:=.any) (Q':=Q) (ops.toList.drop n) n listed a w (fun j=>by simp [List.getElem?_drop]) (by rw [hdl,hl]; exact hseq) (hfin _ _ hf L a w hi)
     rw [hdl] at this
     rw [Nat.zero_add]; exact this
 | succ k ih =>
   intro listed s Φ L a w hk hsz htl hcl hBI S hi hS
   rw [show k + 1 + (ops.size - n)=(k + (ops.size - n)) + 1 by omega]
   obtain ⟨x,R',hR'⟩:∃ x R,un n listed=x :: R:=by
    cases h:un n listed with
    | nil=>rw [h] at hk; cases hk
    | cons x R=>exact ⟨x,R,rfl⟩
   have hx:=ZcK.1 (by rw [hR']; exact List.mem_cons_self:x ∈ un n listed)
   have hmin:∀ i,i < x→listed.getD i true=true:=fun i hix=>by
    cases h:listed.getD i true with
    | true=>rfl
    | false =>
      have:=ZcK.2 ⟨(by omega:i < n),h⟩
      rw [hR'] at this
      have hs:=ZdG n listed
      rw [hR'] at hs
      rcases List.mem_cons.1 this with e | e
      ·omega
      ·have:=(List.pairwise_cons.1 hs).1 i e; omega
   have hxr:x ∈ Region.ready .any ops listed:=by
    have hxs:x < ops.size:=by omega
    refine mem_ready.2 ⟨hx.2,opAt ops x,Zct hxs,fun e he heb=>?_⟩
    have h1:=List.all_eq_true.1 hback x (List.mem_range.2 hxs)
    rw [Zct hxs] at h1
    have h2':=Array.all_eq_true'.1 h1 e he
    rw [heb] at h2'
    have h2:=Nat.le_of_ble_eq_true h2'
    have h3:=hmin e.on h2
    have h4:e.on < listed.size:=by rw [hsz]; exact Nat.lt_trans h2 hxs
    simp [h4] at h3 ⊢; exact h3
   refine ⟨fun h=>(by rw [h] at hxr; cases hxr),fun j hj=>?_⟩
   have hjn:j < n:=ZfK (htail x hx.1) hcl hx.2 hj
   obtain ⟨hjun,oj,hoj,hall⟩:=mem_ready.1 hj
   have hjm:j ∈ un n listed:=ZcK.2 ⟨hjn,hjun⟩
   obtain ⟨l1,l2,hl⟩:=List.append_of_mem hjm
   have hs:=ZdG n listed
   rw [hl] at hs
   have hap:∀ y,y ∈ l1→y < ops.size∧(opAt ops y).apart ops (opAt ops j)=true∧(ZbD (opAt ops y).op (opAt ops j).op=true∨(lsB (opAt ops y).op (opAt ops j).op=true∧farB ops s0 (opAt ops y) (opAt ops j)=true)):=fun y hy=>by
    have hyj:y < j:=(List.pairwise_append.1 hs).2.2 y hy j List.mem_cons_self
    have hyu:=(ZcK.1 (by rw [hl]; exact List.mem_append_left _ hy:y ∈ un n listed)).2
    have h1:=List.all_eq_true.1 (List.all_eq_true.1 hpair j (List.mem_range.2 hjn)) y (List.mem_range.2 hyj)
    rw [Bool.or_eq_true] at h1
    rcases h1 with h1 | h1
    ·have h2:=hR listed hcl j y h1 (fun o ho=>by
      have:o=oj:=Option.some.inj (ho.symm.trans hoj)
      subst this
      exact hall)
     rw [getD_both hyu] at h2
     cases h2
    ·simp only [Bool.and_eq_true,Bool.or_eq_true] at h1
     exact ⟨by omega,h1⟩
   rw [hl] at hS
   have hS':=Strat.front hu hne l1 l2 s Φ hi.wf hBI hap hS
   refine Strat.exec hu hBI (by omega) hi S hS' (fun s' Φ' L' a' w' hBI' hΦ' hi' K'=>?_)
   have hun':=Zmm hl
   refine ih (listed.setIfInBounds j true) s' Φ' L' a' w' ?_ (by simp [hsz]) (fun i h1 h2=>?_) (hcl.set hj) hBI' hΦ' hi' (by rw [hun']; exact K')
   ·rw [hun']
    rw [hl] at hk
    simp only [List.length_append,List.length_cons] at hk ⊢
    omega
   ·rw [getD_set_ne true (by omega)]; exact htl i h1 h2
theorem MemI.drew (h:MemI S0 w0 s L w):MemI S0 w0 s L w.drew:=⟨h.blk,h.inj,h.old,h.ext.drew,h.slp,h.cel⟩
theorem Inv.drew (h:Inv N S0 w0 s Φ L a w):Inv N S0 w0 s Φ L a w.drew:=⟨h.size,h.df,h.sl,h.mem.drew,h.box.ext (Fr.refl _ w).drew⟩
theorem Zho {id:Nat} (n:Nat) {sl:SlL} {bl:BlL} {R:Nat→Nat→Bool} (hR:ZdH ops R) (hB:(Nat.ble n ops.size && (Zco ops && ZcL ops && ((List.range n).all (fun i=>ZbA .any ops n i) && (ZhP R ops (ofL sl bl) n && Region.seqB .any ops (ops.size - n) n (ZbH ops n)))))=true) (hI:Zeg ops sl=true) (hm:P.follows .mixedOrders=true)
 (h:Strat P N S0 w0 ops Φ (fun s Φ=>SXi P N S0 w0 ops Q n s Φ) (List.range n) (ofL sl bl) Φ):SXc P N S0 w0 Q (.region id ops true) (ofL sl bl) Φ:=by
 simp only [Bool.and_eq_true] at hB
 obtain ⟨h1,⟨h0,h2⟩,h3,h4,h5⟩:=hB
 have hn:=Nat.le_of_ble_eq_true h1
 intro L a w hi
 refine wp_region_any hm ?_
 have hun:un n (Array.replicate ops.size false)=List.range n:=by
  unfold un
  refine List.filter_eq_self.2 (fun i hi'=>?_)
  have:=List.mem_range.1 hi'
  simp [show i < ops.size by omega]
 have:=Zkj hR (Q:=Q) (fin:=fun s Φ=>SXi P N S0 w0 ops Q n s Φ) h0 hn h2 (fun i hi'=>List.all_eq_true.1 h3 i (List.mem_range.2 hi')) h4 h5 ⟨w,hi.box.self⟩ (fun s Φ hf L a w hi'=>hf L a w hi') (un n (Array.replicate ops.size false)).length (Array.replicate ops.size false) _ Φ L a w.drew rfl (by simp)
  (fun i _ h'=>by simp [h']) (fun j oj _ hl=>by rw [getD_replicate_false] at hl; cases hl) (BI.init hI) (fun _ h=>h) hi.drew (by rw [hun]; exact h)
 rw [hun,List.length_range,show n + (ops.size - n)=ops.size by omega] at this
 exact this
theorem Zk9 {id:Nat} (n:Nat) {sl:SlL} {bl:BlL} (hB:Zls ops (ofL sl bl) n=true) (hI:Zeg ops sl=true) (hm:P.follows .mixedOrders=true)
 (h:Strat P N S0 w0 ops Φ (fun s Φ=>SXi P N S0 w0 ops Q n s Φ) (List.range n) (ofL sl bl) Φ):SXc P N S0 w0 Q (.region id ops true) (ofL sl bl) Φ:=Zho n (Zfy ops) hB hI hm h
def Zlt (ops:Array Oper) (s0:St) (n:Nat) (masks:List Nat):Bool:=(Nat.ble masks.length ops.size && Zlr ops masks) && (Nat.ble n ops.size && (Zco ops && ZcL ops && ((List.range n).all (fun i=>ZbA .any ops n i) && (ZhP (fun j x=>(masks.getD j 0).testBit x) ops s0 n && Region.seqB .any ops (ops.size - n) n (ZbH ops n)))))
def stpF (P:Program) (N:Nat) (ops:Array Oper) (o:Oper) (s:St):Option St :=
 match o.dst with
 | some d=>bif Nat.blt d N then (match Za6 P ops o s with | some r=>some (s.app d r) | none=>none) else none
 | none=>bif Nat.beq (cls o.op) 3 then Zb0 P ops o s else none
def runF (P:Program) (N:Nat) (ops:Array Oper):Nat→Nat→St→Option St
 | 0,_,s=>some s
 | k + 1,i,s=>match stpF P N ops (opAt ops i) s with
   | some s'=>runF P N ops k (i + 1) s'
   | none=>none
theorem Zgv {i:Nat} {l:List Nat} (h:stpF P N ops (opAt ops i) s=some s') (K:Strat P N S0 w0 ops Φ0 fin l s' Φ):Strat P N S0 w0 ops Φ0 fin (i :: l) s Φ:=by
 unfold stpF at h
 split at h
 ·rename_i d hd
  cases hb:Nat.blt d N with
  | false=>rw [hb] at h; cases h
  | true =>
    rw [hb] at h
    simp only [cond_true] at h
    split at h
    ·rename_i r hr
     injection h with h
     subst h
     exact .flt (Or.inl hr) hd (Nat.le_of_ble_eq_true hb) K
    ·cases h
 ·rename_i hd
  cases hb:Nat.beq (cls (opAt ops i).op) 3 with
  | false=>rw [hb] at h; cases h
  | true =>
    rw [hb] at h
    exact .sto (Nat.eq_of_beq_eq_true hb) h hd K
theorem Zgw {n:Nat}:∀ (k i:Nat) (s s':St),runF P N ops k i s=some s'→i + k≤n→Strat P N S0 w0 ops Φ0 fin (List.range' (i + k) (n - (i + k))) s' Φ→Strat P N S0 w0 ops Φ0 fin (List.range' i (n - i)) s Φ
 | 0,i,s,s',h,hk,K=>by simp only [runF,Option.some.injEq] at h; subst h; exact K
 | k + 1,i,s,s',h,hk,K=>by
   unfold runF at h
   split at h
   ·rename_i s1 hs
    have ih:=Zgw (n:=n) k (i + 1) _ s' h (by omega) (by rw [show i + 1 + k=i + (k + 1) by omega]; exact K)
    rw [show n - i=(n - (i + 1)) + 1 by omega,List.range'_succ]
    exact Zgv hs ih
   ·cases h
def StI (P:Program) (N:Nat) (S0:Nat→Prop) (w0:World) (ops:Array Oper) (Φ0:World→Prop) (Q:Exit→Act→World→Prop) (n i:Nat) (s:St) (Φ:World→Prop):Prop :=
 Strat P N S0 w0 ops Φ0 (fun s Φ=>SXi P N S0 w0 ops Q n s Φ) (List.range' i (n - i)) s Φ
theorem Zfh {id:Nat} (n:Nat) {sl:SlL} {bl:BlL} (hB:Zls ops (ofL sl bl) n=true) (hI:Zeg ops sl=true) (hm:P.follows .mixedOrders=true) (h:StI P N S0 w0 ops Φ Q n 0 (ofL sl bl) Φ):SXc P N S0 w0 Q (.region id ops true) (ofL sl bl) Φ :=
 Zk9 n hB hI hm (by rw [List.range_eq_range']; exact h)
theorem Zcu {id:Nat} (n:Nat) (masks:List Nat) {sl:SlL} {bl:BlL} (hB:Zlt ops (ofL sl bl) n masks=true) (hI:Zeg ops sl=true) (hm:P.follows .mixedOrders=true) (h:StI P N S0 w0 ops Φ Q n 0 (ofL sl bl) Φ):SXc P N S0 w0 Q (.region id ops true) (ofL sl bl) Φ:=by
 unfold Zlt at hB
 obtain ⟨h1,h2⟩:=(Bool.and_eq_true _ _).mp hB
 obtain ⟨h3,h4⟩:=(Bool.and_eq_true _ _).mp h1
 have hb:ZcL ops=true:=by
  simp only [Bool.and_eq_true] at h2
  exact h2.2.1.2
 exact Zho n (ZjA hb h3 h4) h2 hI hm (by rw [List.range_eq_range']; exact h)
end
end Go.Proofs.YtcpjeaaapocoeaaGreatDoor

namespace Go.Proofs.YtcpjeaaapocoeaaGreatDoor
open Go.RowKit
section
variable {N:Nat} {S0:Nat→Prop} {w0:World} {s s':St} {Φ Ψ Φ0:World→Prop} {L:Nat→Nat} {a:Act} {w:World} {P:Program} {ops:Array Oper} {Q:Exit→Act→World→Prop} {o:Oper} {fin:St→(World→Prop)→Prop}
/-! ### inside a region that draws -/
theorem Strat.weak {l:List Nat} (h:Strat P N S0 w0 ops Φ0 fin l s Φ):∀ {s':St},s'.bl=s.bl→(∀ t x,s.sl t=some x→s'.sl t=some x)→(∀ s s' Φ,fin s Φ→s'.bl=s.bl→(∀ t x,s.sl t=some x→s'.sl t=some x)→fin s' Φ)→Strat P N S0 w0 ops Φ0 fin l s' Φ:=by
 induction h with
 | done h=>intro s' hb hs hf; exact .done (hf _ _ _ h hb hs)
 | flt h hd hN K ih =>
   rename_i i l s Φ r d
   intro s' hb hs hf
   refine .flt (h.mono (fun t _ x hx=>hs t x hx) (fun _ b q _ hq=>by rw [hb]; exact hq) (fun d _ h0=>by rw [hb]; exact h0)) hd hN (ih (by obtain ⟨x,nx⟩:=r; cases nx<;>simp [St.app,hb]) (fun t x hx=>?_) hf)
   by_cases e:t=d
   ·subst e
    simp only [St.app,ZaM] at hx ⊢
    exact hx
   ·simp only [St.app,Zay _ _ e] at hx ⊢
    exact hs t x hx
 | does hα sh φ hm hw hn hv hd hN hdo K ih =>
   rename_i i l s Φ d α
   intro s' hb hs hf
   have kn:Zbb ops (opAt ops i) s s':=fun t _ x hx=>hs t x hx
   refine .does hα sh φ hm (kn.want hw) hn (kn.vB hv) hd hN (fun w hf' Q=>?_) (fun z=>ih z (by simp [St.app,hb]) (fun t x hx=>?_) hf)
   ·have:=hdo w hf' Q
    unfold Does at this ⊢
    rw [kn.exec hn hv]; exact this
   ·by_cases e:t=d
    ·subst e
     simp only [St.app,ZaM] at hx ⊢
     exact hx
    ·simp only [St.app,Zay _ _ e] at hx ⊢
     exact hs t x hx
 | sto hm h hd K ih =>
   rename_i i l s s1 Φ
   intro s' hb hs hf
   have kn:Zbb ops (opAt ops i) s s':=fun t _ x hx=>hs t x hx
   rcases Zef kn (fun b q _ hq=>by rw [hb]; exact hq) h with ⟨e1,e2⟩ | ⟨b,q,q',hq,hl,e1,e2⟩
   ·subst e1
    exact .sto hm e2 hd (ih hb hs hf)
   ·subst e1
    exact .sto hm e2 hd (ih (by simp only [hb]) (fun t x hx=>hs t x hx) hf)
theorem ZfQ {n:Nat} (s s':St) (Φ:World→Prop) (h:SXi P N S0 w0 ops Q n s Φ) (hb:s'.bl=s.bl) (hs:∀ t x,s.sl t=some x→s'.sl t=some x):SXi P N S0 w0 ops Q n s' Φ:=fun L a w hi =>
 h L a w ⟨hi.size,hi.df,fun i x hx=>hi.sl i x (hs i x hx),⟨fun b t cs e=>hi.mem.blk b t cs (by rw [hb]; exact e),fun b c=>by rw [← hb]; exact hi.mem.inj b c,fun b=>by rw [← hb]; exact hi.mem.old b,hi.mem.ext,fun i b off e=>by rw [← hb]; exact hi.mem.slp i b off (hs i _ e),fun b t cs e x hx=>by
   have:=hi.mem.cel b t cs (by rw [hb]; exact e) x hx
   rw [← hb]; exact this⟩,fun w' hf=>hi.box w' (hf.mono (fun i _ h'=>by obtain ⟨b,hb',e⟩:=h'; exact ⟨b,by rw [hb]; exact hb',e⟩))⟩
def Zfi (P:Program) (N:Nat) (ops:Array Oper) (k i:Nat) (s:St) (sl:SlL):Option (List (Option AV) × (Nat→Option (TypeId × List AV))) :=
 match runF P N ops k i s with
 | some s'=>some (sl.map (fun q=>s'.sl q.1),s'.bl)
 | none=>none
theorem Zkk {n i:Nat} (k:Nat) (sl:SlL) (bl:BlL) (h:Zfi P N ops k i s sl=some (sl.map (fun q=>some q.2),ZbZ bl)) (hk:Nat.ble (i + k) n=true) (K:StI P N S0 w0 ops Φ0 Q n (i + k) (ofL sl bl) Φ):StI P N S0 w0 ops Φ0 Q n i s Φ:=by
 unfold Zfi at h
 split at h
 ·rename_i s1 h1
  injection h with h
  injection h with h2 h3
  refine Zgw k i s s1 h1 (Nat.le_of_ble_eq_true hk) (Strat.weak K h3 (fun t x hx=>?_) (fun s s' Φ h hb hs=>ZfQ s s' Φ h hb hs))
  exact ZbC (f:=fun q:Nat × AV=>s1.sl q.1) (g:=fun q=>some q.2) h2 (ZaO hx)
 ·cases h
theorem Zi6 {n i:Nat} (f:FuncId) (args:List Value) (d:Nat) {α:Type} [hα:Nonempty α] (sh:α→Value) (φ:α→World→Prop) (hi:Nat.blt i n=true) (hm:cls (opAt ops i).op=2) (h:Zbx P N ops (opAt ops i) s=some (f,args,d))
 (hC:∀ w,Fr S0 w0 w→Φ w→Calls P f args.toArray w (Zba sh φ w)) (K:∀ x,StI P N S0 w0 ops Φ0 Q n (i + 1) (s.put d (.v (sh x))) (fun w=>Φ w∧φ x w)):StI P N S0 w0 ops Φ0 Q n i s Φ:=by
 obtain ⟨hw,hq,hd,hn,hv,hk,hN⟩:=Zb9 h
 have hi':i < n:=Nat.le_of_ble_eq_true hi
 unfold StI
 rw [show n - i=(n - (i + 1)) + 1 by omega,List.range'_succ]
 exact .does hα sh φ hm hw hn hv hd hN (fun w hf R=>ZeZ hq hk (hC w hf R)) K
theorem ZlL {n i:Nat} (d:Nat) (y:Value) (hi:Nat.blt i n=true) (hk:Zgt (opAt ops i).op=true) (hw:s.wantB ops (opAt ops i)=some true) (hv:(opAt ops i).op.operands.toList.all s.vB=true) (hd:(opAt ops i).dst=some d) (hN:Nat.blt d N=true)
 (hx:∀ w,Φ0 w→(execOp s.rho (opAt ops i)).run P w=.ok (.value y) w) (K:StI P N S0 w0 ops Φ0 Q n (i + 1) (s.put d (.v y)) Φ):StI P N S0 w0 ops Φ0 Q n i s Φ:=by
 have hi':i < n:=Nat.le_of_ble_eq_true hi
 have hs:Za0 (opAt ops i).op=true:=by
  cases h:(opAt ops i).op<;>first | rfl | (rw [h] at hk; cases hk)
 unfold StI
 rw [show n - i=(n - (i + 1)) + 1 by omega,List.range'_succ]
 exact .flt (r:=(.v y,none)) (Or.inr ⟨y,rfl,hk,hw,hs,hv,hx⟩) hd (Nat.le_of_ble_eq_true hN) K
theorem Zmn {n i:Nat} (h:Nat.ble n i=true) (K:SXi P N S0 w0 ops Q n s Φ):StI P N S0 w0 ops Φ0 Q n i s Φ:=by
 unfold StI
 rw [show n - i=0 by have:=Nat.le_of_ble_eq_true h; omega]
 exact .done K
/-! ### one look in a list -/
theorem ZlM {i:Nat} (d:Nat) (y:Value) (hi:Nat.blt i ops.size=true) (hs:Za0 (opAt ops i).op=true) (hw:s.wantB ops (opAt ops i)=some true) (hv:(opAt ops i).op.operands.toList.all s.vB=true) (hd:(opAt ops i).dst=some d) (hN:Nat.blt d N=true)
 (hx:∀ w,Fr S0 w0 w→Φ w→(execOp s.rho (opAt ops i)).run P w=.ok (.value y) w) (K:SXi P N S0 w0 ops Q (i + 1) (s.put d (.v y)) Φ):SXi P N S0 w0 ops Q i s Φ:=by
 refine Zcy (α:=Unit) (fun _=>y) (fun _ _=>True) hi hw hs hv hd hN (fun w hf R=>Or.inl ⟨y,w,hx w hf R,(),rfl,Fr.refl _ _,BoxN.pure trivial⟩) (fun _=>?_)
 intro L a w h
 exact K L a w ⟨h.size,h.df,h.sl,h.mem,h.box.mono (fun w h=>h.1)⟩
/-! ### code -/
theorem Zad {x y:Code} (h:SXc P N S0 w0 (Exit.then (y.wp P Q) Q) x s Φ):SXc P N S0 w0 Q (.seq x y) s Φ:=fun L a w hi=>wp_seq (h L a w hi)
theorem Zaa {y:Code} (h:SXc P N S0 w0 Q y s Φ):SXq N S0 w0 (Exit.then (y.wp P Q) Q .normal) s Φ:=h
theorem Za8 {id:Nat} {c:Code} (h:SXc P N S0 w0 (Exit.inBlock id Q) c s Φ):SXc P N S0 w0 Q (.block id c) s Φ:=fun L a w hi=>wp_block (h L a w hi)
theorem Zc3 {id:Nat} (h:SXq N S0 w0 (Q .normal) s Φ):SXq N S0 w0 (Exit.inBlock id Q .normal) s Φ:=h
theorem Zdq {id:Nat} (h:SXq N S0 w0 (Q .normal) s Φ):SXq N S0 w0 (Exit.inBlock id Q (.exit id)) s Φ:=fun L a w hi=>by
 have:=h L a w hi
 simpa [Exit.inBlock] using this
theorem ZaE {id:Nat} {nx:Act→World→Prop} (h:SXq N S0 w0 (Q (.exit id)) s Φ):SXq N S0 w0 (Exit.then nx Q (.exit id)) s Φ:=h
theorem Zak {nx:Act→World→Prop} (h:SXq N S0 w0 (Q .ret) s Φ):SXq N S0 w0 (Exit.then nx Q .ret) s Φ:=h
theorem ZbK {id:Nat} (h:SXq N S0 w0 (Q .ret) s Φ):SXq N S0 w0 (Exit.inBlock id Q .ret) s Φ:=h
theorem ZcQ {id:Nat} (h:SXq N S0 w0 (Q (.exit id)) s Φ):SXc P N S0 w0 Q (.exit id) s Φ:=fun L a w hi=>wp_exit (h L a w hi)
theorem Zau (h:SXq N S0 w0 (Q .ret) s Φ):SXc P N S0 w0 Q .ret s Φ:=fun L a w hi=>wp_ret (h L a w hi)
theorem ZaK (h:SXq N S0 w0 (Q .normal) s Φ):SXc P N S0 w0 Q .skip s Φ:=fun L a w hi=>wp_skip (h L a w hi)
theorem Zcz {c:Operand} {x y:Code} (b:Bool) (hc:s.eval c=some (.v (.bool b))) (ht:b=true→SXc P N S0 w0 Q x s Φ) (hf:b=false→SXc P N S0 w0 Q y s Φ):SXc P N S0 w0 Q (.cond c x y) s Φ:=fun L a w hi=>by
 have h:=hi.eval hc
 exact wp_cond_split h (fun e=>ht e L a w hi) (fun e=>hf e L a w hi)
theorem Zkl {c:Operand} {x y:Code} (hc:s.eval c=some (.v (.bool true))) (h:SXc P N S0 w0 Q x s Φ):SXc P N S0 w0 Q (.cond c x y) s Φ:=Zcz true hc (fun _=>h) (fun e=>by cases e)
theorem Zkm {c:Operand} {x y:Code} (hc:s.eval c=some (.v (.bool false))) (h:SXc P N S0 w0 Q y s Φ):SXc P N S0 w0 Q (.cond c x y) s Φ:=Zcz false hc (fun e=>by cases e) (fun _=>h)
theorem Zab {id:Nat} (h:SXi P N S0 w0 ops Q 0 s Φ):SXc P N S0 w0 Q (.region id ops false) s Φ:=fun L a w hi=>wp_region_list (h L a w hi)
theorem SXc.know {c:Code} {p:Prop} (h:∀ w,Fr S0 w0 w→Φ w→p) (K:p→SXc P N S0 w0 Q c s Φ):SXc P N S0 w0 Q c s Φ:=fun L a w hi=>K (h w hi.mem.ext hi.box.self) L a w hi
theorem SXc.weak {c:Code} (sl:SlL) (bl:BlL) (h1:ZaX s sl bl) (h2:wfB sl bl=true) (R:∀ w,Φ w→Ψ w) (h:SXc P N S0 w0 Q c (ofL sl bl) Ψ):SXc P N S0 w0 Q c s Φ:=fun L a w hi=>h L a w (hi.weak h1 h2 R)
theorem SXq.weak {q:Act→World→Prop} (sl:SlL) (bl:BlL) (h1:ZaX s sl bl) (h2:wfB sl bl=true) (Q:∀ w,Φ w→Ψ w) (h:SXq N S0 w0 q (ofL sl bl) Ψ):SXq N S0 w0 q s Φ:=fun L a w hi=>h L a w (hi.weak h1 h2 Q)
/-! ### the beginning and the end of a function -/
theorem Zdr:∀ (l:List Value) (k i:Nat) (x:AV),ZbZ (Zfg k l) i=some x→k≤i∧∃ v,l[i - k]? = some v∧x=.v v
 | [],k,i,x,h=>by cases h
 | v :: l,k,i,x,h=>by
   by_cases e:i=k
   ·subst e
    simp only [Zfg,ZbZ,ZaM,Option.some.injEq] at h
    exact ⟨Nat.le_refl _,v,by simp,h.symm⟩
   ·simp only [Zfg,ZbZ,Zay _ _ e] at h
    obtain ⟨h1,u,h2,h3⟩:=Zdr l (k + 1) i x h
    refine ⟨by omega,u,?_,h3⟩
    rw [show i - k=(i - (k + 1)) + 1 by omega]
    simpa using h2
theorem Za9 {fn:Func} {f:FuncId} {c:Code} {args:List Value} {R:Ending→World→Prop} (hf:P.funcs[f]? = some fn) (hb:fn.body=some c) (hl:Nat.ble args.length fn.ntmps=true) (Q:Box (fun _=>False) w Φ)
 (h:SXc P fn.ntmps (fun _=>False) w (bodyPost P fn R) c (ofL (Zfg 0 args) []) Φ):Calls P f args.toArray w R:=by
 refine calls_of_wp hf hb (h (fun _=>0) _ w ⟨?_,rfl,fun i x hx=>?_,⟨fun b t cs e=>(by cases e),fun b c e=>(by cases e),fun b e=>(by cases e),Fr.refl _ _,fun i b off e=>?_,fun b t cs e=>(by cases e)⟩,?_⟩)
 ·have:=Nat.le_of_ble_eq_true hl
  simp; omega
 ·obtain ⟨_,v,hv,rfl⟩:=Zdr args 0 i x hx
  have hlt:i < args.length:=by
   rcases Nat.lt_or_ge i args.length with h' | h'
   ·exact h'
   ·rw [List.getElem?_eq_none (by omega)] at hv; cases hv
  simp only [AV.conc]
  rw [Array.getElem?_append_left (by simpa using hlt)]
  simpa using hv
 ·obtain ⟨_,v,hv,e'⟩:=Zdr args 0 i _ e
  cases e'
 ·intro w' hf'
  exact Q w' (hf'.mono (fun i _ h'=>by obtain ⟨b,e,_⟩:=h'; cases e))
def Zd6 (tmps:Array Value):ResultVar→Sem Value
 | .tmp t=>pure (tmps.getD t undef)
 | .cell t ty=>do loadVar ty (← asAddr (tmps.getD t undef))
theorem Zgx (fn:Func) (tmps:Array Value):results fn tmps=(do
 let vs ← fn.results.mapM (Zd6 tmps)
 pure (if h:vs.size=1 then vs[0] else .tuple vs)):=by
 unfold results
 congr
theorem Zkn (hi:Inv N S0 w0 s Φ L a w) {r:ResultVar} {x:Value} (h:ZhN P s r=some x):(Zd6 a.tmps r).run P w=.ok x w:=by
 cases r with
 | tmp t =>
   simp only [ZhN] at h
   split at h
   ·rename_i y hy
    injection h with h
    subst h
    have:=hi.sl t _ hy
    simp [Zd6,this,AV.conc]
   ·cases h
 | cell t ty =>
   simp only [ZhN] at h
   split at h
   ·rename_i b off hb
    split at h
    ·rename_i y hy
     injection h with h
     subst h
     have h1:=hi.sl t _ hb
     have h2:=(ZeX hi hy).2
     simp only [Instr.loadAt,Instr.sureAddr,Sem.run_bind,Sem.run_pure,Result.andThen_ok] at h2
     simp [Zd6,h1,AV.conc,asAddr,h2]
    ·cases h
   ·cases h
theorem Zii (hi:Inv N S0 w0 s Φ L a w):∀ (l:List ResultVar) (m:List Value),resL P s l=some m→(l.mapM (Zd6 a.tmps)).run P w=.ok m w
 | [],m,h=>by simp only [resL,Option.some.injEq] at h; subst h; rfl
 | r :: l,m,h=>by
   unfold resL at h
   split at h
   ·rename_i x m' hx hm
    injection h with h
    subst h
    have h1:=Zkn hi hx
    have h2:=Zii hi l m' hm
    rw [List.mapM_cons]
    simp only [Sem.run_bind,h1,h2,Result.andThen_ok,Sem.run_pure]
   ·cases h
theorem Zhp (hi:Inv N S0 w0 s Φ L a w) {fn:Func} {v:Value} (h:ZhO P fn s=some v):(results fn a.tmps).run P w=.ok v w:=by
 have key:∀ m,resL P s fn.results.toList=some m→(results fn a.tmps).run P w=.ok (if h:m.toArray.size=1 then m.toArray[0] else .tuple m.toArray) w:=fun m hm=>by
  have:=Zii hi _ m hm
  rw [Zgx,Array.mapM_eq_mapM_toList]
  simp only [Sem.run_bind,Sem.run_map,this,Result.andThen_ok,Sem.run_pure]
 unfold ZhO at h
 split at h
 ·rename_i x hx
  injection h with h
  rw [key [x] hx,← h]
  simp
 ·rename_i m hne hm
  injection h with h
  rw [key m hm,← h]
  have:m.toArray.size≠1:=fun e=>by
   obtain ⟨x,hx⟩:=List.length_eq_one_iff.1 (by simpa using e)
   exact hne x hx
  rw [dif_neg this]
 ·cases h
theorem Zaq {fn:Func} {R:Ending→World→Prop} {v:Value} (h:ZhO P fn s=some v) (hR:∀ w,Fr S0 w0 w→Φ w→R (.returned v) w):SXq N S0 w0 (bodyPost P fn R .ret) s Φ:=fun _ _ w hi =>
 ⟨hi.df,v,Zhp hi h,hR w hi.mem.ext hi.box.self⟩
theorem ZlN {fn:Func} {R:Ending→World→Prop} {v:Value} (h:ZhO P fn s=some v) (hR:∀ w,Fr S0 w0 w→Φ w→R (.returned v) w):SXq N S0 w0 (bodyPost P fn R .normal) s Φ:=fun _ _ w hi =>
 ⟨hi.df,v,Zhp hi h,hR w hi.mem.ext hi.box.self⟩
/-! ### the same rules in short (the proofs that the kernel works out need not be written) -/
theorem xr {i:Nat} (k:Nat) (sl:SlL) (bl:BlL) (K:SXi P N S0 w0 ops Q (i + k) (ofL sl bl) Φ) (h:Zgr P N ops i k s sl bl=some (sl.map (fun q=>some q.2),bl.map (fun q=>some q.2)):=by kernel_rfl) (h2:wfB sl bl=true:=by kernel_rfl):SXi P N S0 w0 ops Q i s Φ:=Zkg k sl bl h h2 K
theorem xc {i:Nat} (f:FuncId) (args:List Value) (d:Nat) {α:Type} (sh:α→Value) (φ:α→World→Prop) (hC:∀ w,Fr S0 w0 w→Φ w→Calls P f args.toArray w (Zba sh φ w)) (K:∀ x,SXi P N S0 w0 ops Q (i + 1) (s.put d (.v (sh x))) (fun w=>Φ w∧φ x w))
 (hsz:Nat.blt i ops.size=true:=by kernel_rfl) (h:Zbx P N ops (opAt ops i) s=some (f,args,d):=by kernel_rfl):SXi P N S0 w0 ops Q i s Φ:=Zi5 f args d sh φ hsz h hC K
theorem xe {i:Nat} (K:SXq N S0 w0 (Q .normal) s Φ) (h:Nat.ble ops.size i=true:=by kernel_rfl):SXi P N S0 w0 ops Q i s Φ:=Zmj h K
theorem xf {n i:Nat} (k:Nat) (sl:SlL) (bl:BlL) (K:StI P N S0 w0 ops Φ0 Q n (i + k) (ofL sl bl) Φ) (h:Zfi P N ops k i s sl=some (sl.map (fun q=>some q.2),ZbZ bl):=by kernel_rfl) (hk:Nat.ble (i + k) n=true:=by kernel_rfl):StI P N S0 w0 ops Φ0 Q n i s Φ:=Zkk k sl bl h hk K
theorem xd {n i:Nat} (f:FuncId) (args:List Value) (d:Nat) {α:Type} [hα:Nonempty α] (sh:α→Value) (φ:α→World→Prop) (hC:∀ w,Fr S0 w0 w→Φ w→Calls P f args.toArray w (Zba sh φ w)) (K:∀ x,StI P N S0 w0 ops Φ0 Q n (i + 1) (s.put d (.v (sh x))) (fun w=>Φ w∧φ x w))
 (hi:Nat.blt i n=true:=by kernel_rfl) (hm:cls (opAt ops i).op=2:=by kernel_rfl) (h:Zbx P N ops (opAt ops i) s=some (f,args,d):=by kernel_rfl):StI P N S0 w0 ops Φ0 Q n i s Φ:=Zi6 f args d sh φ hi hm h hC K
theorem xz {n i:Nat} (K:SXi P N S0 w0 ops Q n s Φ) (h:Nat.ble n i=true:=by kernel_rfl):StI P N S0 w0 ops Φ0 Q n i s Φ:=Zmn h K
theorem xa {c:Operand} {x y:Code} (h:SXc P N S0 w0 Q x s Φ) (hc:s.eval c=some (.v (.bool true)):=by kernel_rfl):SXc P N S0 w0 Q (.cond c x y) s Φ:=Zkl hc h
theorem xb {c:Operand} {x y:Code} (h:SXc P N S0 w0 Q y s Φ) (hc:s.eval c=some (.v (.bool false)):=by kernel_rfl):SXc P N S0 w0 Q (.cond c x y) s Φ:=Zkm hc h
end
/-! ### states in short -/
abbrev vI2 (x:Bool) (A:Option Addr) (l c:Nat):Value:=.agg #[.bool x, .slice A l c]
abbrev vR4 (x:Bool) (A:Option Addr) (l c:Nat) (y:Bool) (B:Option Addr) (m d:Nat):Value:=.agg #[.bool x, .slice A l c, .bool y, .slice B m d]
abbrev eS1 (k:Nat) (A:Option Addr) (l c:Nat):Nat × AV:=(k, .v (.slice A l c))
abbrev eI2 (k:Nat) (x:Bool) (A:Option Addr) (l c:Nat):Nat × AV:=(k, .v (.agg #[.bool x, .slice A l c]))
abbrev eR4 (k:Nat) (x:Bool) (A:Option Addr) (l c:Nat) (y:Bool) (B:Option Addr) (m d:Nat):Nat × AV:=(k, .v (.agg #[.bool x, .slice A l c, .bool y, .slice B m d]))
abbrev bR4 (k:Nat) (t:TypeId) (x:Bool) (A:Option Addr) (l c:Nat) (y:Bool) (B:Option Addr) (m d:Nat):Nat × TypeId × List AV:=(k,t,[.v (.bool x), .v (.slice A l c), .v (.bool y), .v (.slice B m d)])
end Go.Proofs.YtcpjeaaapocoeaaGreatDoor
