/-
 My texts Sx, Sx2, Sx3, Sx4, Sx5, Sx6, Sx7 put together.
-/
import Derived.Test.YtklpdkpcocnglaaGreatDoorX01
import Derived.OrdersHeld
import Derived.StillTail
import Derived.Test.YtklpdkpcocnglaaGreatDoorX13
set_option maxRecDepth 100000
set_option maxHeartbeats 8000000
namespace Go.Proofs.YtklpdkpcocnglaaGreatDoor
open Go.RowKit
inductive AV where
 | v (x:Value)
 | p (b off:Nat)
def AV.conc (L:Nat→Nat):AV→Value
 | .v x=>x
 | .p b off=>.pointer (some ⟨L b,off,none⟩)
structure St where
 sl:Nat→Option AV
 bl:Nat→Option (TypeId×List AV)
def upd {α:Type} (f:Nat→Option α) (k:Nat) (x:α):Nat→Option α:=fun i=>bif Nat.beq i k then some x else f i
theorem lY {α:Type}(f:Nat→Option α)(k:Nat)(x:α):upd f k x k=some x:=by simp[upd]
theorem lD {α:Type}(f:Nat→Option α){k i:Nat}(x:α)(h:i≠k):upd f k x i=f i:=by
 have:Nat.beq i k=false:=Bool.eq_false_iff.2 (fun e=>h (Nat.eq_of_beq_eq_true e))
 simp[upd,this]
theorem Zdd {α:Type}(f:Nat→Option α){k i:Nat}(x y:α)(h:i≠k):upd (upd f k x) i y=upd (upd f i y) k x:=by
 funext j
 by_cases b:j=i
 ·subst b;rw[lY,lD _ _ h,lY]
 rw[lD _ _ b]
 by_cases c:j=k
 ·subst c;rw[lY,lY]
 rw[lD _ _ c,lD _ _ c,lD _ _ b]
def gY:AV→Bool
 | .p _ _=>true
 | .v (.bool _)=>true
 | .v (.int .i64 _)=>true
 | .v (.string _)=>true
 | .v (.pointer _)=>true
 | .v (.slice _ _ _)=>true
 | .v (.map _)=>true
 | .v (.func _ _ _)=>true
 | .v .nilFunc=>true
 | .v (.iface _ _)=>true
 | .v .nilIface=>true
 | _=>false
theorem ZnF {x:AV}(L:Nat→Nat)(h:gY x=true):(x.conc L).oneCell'=true:=by
 cases x with
 | p b off=>rfl
 | v x=>cases x<;>first|rfl | (simp[gY] at h;done)
theorem ZnG {x:AV}{L:Nat→Nat}{k:IntKind}{z:Int}(h:gY x=true)(e:x.conc L=.int k z):k=.i64:=by
 cases x with
 | p b off=>simp[AV.conc] at e
 | v x =>
  simp only[AV.conc] at e
  subst e
  cases k<;>simp[gY] at h ⊢
structure MemI (S0:Nat→Prop) (w0:World) (s:St) (L:Nat→Nat) (w:World):Prop where
 blk:∀ b t cs,s.bl b=some (t,cs)→Blk t w (L b) (cs.map (AV.conc L)).toArray
 inj:∀ b c,(s.bl b).isSome=true→(s.bl c).isSome=true→L b=L c→b=c
 old:∀ b,(s.bl b).isSome=true→w0.heap.size≤L b∨S0 (L b)
 ext:Fr S0 w0 w
 slp:∀ i b off,s.sl i=some (.p b off)→(s.bl b).isSome=true
 cel:∀ b t cs,s.bl b=some (t,cs)→∀ x,x∈cs→gY x=true∧∀ c off,x=.p c off→(s.bl c).isSome=true
def Box (S:Nat→Prop) (w:World) (Φ:World→Prop):Prop:=∀ w',Fr S w w'→Φ w'
theorem Box.self {S:Nat→Prop}{w:World}{Φ:World→Prop}(h:Box S w Φ):Φ w:=h w (Fr.refl _ _)
theorem Box.fr {S:Nat→Prop}{w w':World}{Φ:World→Prop}(h:Box S w Φ)(c:Fr S w w'):Box S w' Φ:=fun b d=>h b (c.trans d)
theorem Box.ext {S:Nat→Prop}{w w':World}{Φ:World→Prop}(h:Box S w Φ)(b:Ext w w'):Box S w' Φ:=h.fr (b.mono (fun _ _ f=>f.elim))
theorem Box.and {S:Nat→Prop}{w:World}{Φ Ψ:World→Prop}(h:Box S w Φ)(k:Box S w Ψ):Box S w (fun w=>Φ w∧Ψ w):=fun w' b=>⟨h w' b,k w' b⟩
theorem Box.mono {S:Nat→Prop}{w:World}{Φ Ψ:World→Prop}(h:Box S w Φ)(k:∀ w,Φ w→Ψ w):Box S w Ψ:=fun w' b=>k _ (h w' b)
def St.own (s:St) (L:Nat→Nat):Nat→Prop:=fun i=>∃ b,(s.bl b).isSome=true∧L b=i
structure Inv (N:Nat) (S0:Nat→Prop) (w0:World) (s:St) (Φ:World→Prop) (L:Nat→Nat) (a:Act) (w:World):Prop where
 size:a.tmps.size=N
 df:a.defers=[]
 sl:∀ i x,s.sl i=some x→a.tmps[i]? = some (x.conc L)
 mem:MemI S0 w0 s L w
 box:Box (s.own L) w Φ
def St.eval (s:St):Operand→Option AV
 | .tmp t=>s.sl t
 | .const v=>some (.v v)
 | .global g=>some (.v (.pointer (some ⟨g,0,none⟩)))
 | .func f=>some (.v (.func (.func f) #[] #[]))
section
variable {N:Nat} {S0:Nat→Prop} {w0:World} {s:St} {Φ:World→Prop} {L:Nat→Nat} {a:Act} {w:World} {P:Program} {ops:Array Oper}
theorem Inv.eval (h:Inv N S0 w0 s Φ L a w){x:Operand}{y:AV}(b:s.eval x=some y):a.eval x=y.conc L:=by
 cases x with
 | tmp t=>have:=h.sl t y b;simp[Act.eval,this]
 | const v=>simp only[St.eval,Option.some.injEq] at b;subst b;rfl
 | global g=>simp only[St.eval,Option.some.injEq] at b;subst b;rfl
 | func f=>simp only[St.eval,Option.some.injEq] at b;subst b;rfl
theorem MemI.evp (h:MemI S0 w0 s L w){x:Operand}{b off:Nat}(c:s.eval x=some (.p b off)):(s.bl b).isSome=true:=by
 cases x with
 | tmp t=>exact h.slp t b off c
 | const v=>simp[St.eval] at c
 | global g=>simp[St.eval] at c
 | func f=>simp[St.eval] at c
def St.rho (s:St):Operand→Value:=fun x=>match s.eval x with | some (.v y)=>y | _=>undef
def St.vB (s:St) (x:Operand):Bool:=match s.eval x with | some (.v _)=>true | _=>false
theorem ZcF {x:Operand}(h:s.vB x=true):s.eval x=some (.v (s.rho x)):=by
 unfold St.vB at h;unfold St.rho
 split at h
 ·rename_i y e;rw[e]
 cases h
def iE:Op→Bool
 | .select _ _=>false
 | _=>true
theorem Inv.rho (h:Inv N S0 w0 s Φ L a w){l:List Operand}(b:l.all s.vB=true){x:Operand}(c:x∈l):a.eval x=s.rho x :=
 h.eval (ZcF (List.all_eq_true.1 b x c))
theorem Inv.exec (h:Inv N S0 w0 s Φ L a w){o:Oper}(hs:iE o.op=true)(c:o.op.operands.toList.all s.vB=true):execOp a.eval o=execOp s.rho o :=
 execOp_congr o (fun d b e=>by rw[e] at hs;cases hs) (fun x hx=>h.rho c (by simpa using hx))
def Zbm (P:Program) {α:Type}:Sem α→Option α
 | .pure a=>some a
 | .program k=>Zbm P (k P)
 | .mark _ k=>Zbm P k
 | _=>none
theorem Zfi {α:Type}{x:Sem α}{y:α}(h:Zbm P x=some y)(w:World):x.run P w=.ok y w:=by
 induction x with
 | pure a=>simp only[Zbm,Option.some.injEq] at h;subst h;rfl
 | program k ih=>exact ih P h
 | mark m k ih=>exact ih h
 | _=>simp[Zbm] at h
structure TE where
 size:Nat
 agg:Bool
 zero:List Value
 offs:List (Option Nat)
def ZjC (P:Program) (f:Field):Option Nat :=
 match P.info? f.type with
 | some j=>bif Nat.beq j.size 0 then none else some f.offset
 | none=>none
def Zgo (P:Program):TypeDesc→List (Option Nat)
 | .struct fs=>fs.toList.map (ZjC P)
 | _=>[]
def ZpX:TypeDesc→Bool
 | .struct _=>true
 | .array _ _=>true
 | _=>false
def teOf (P:Program) (t:TypeId):Option TE :=
 match P.info? t,P.underlying t with
 | some i,some d =>
  match i.zero with
  | some z=>some ⟨i.size,ZpX d,z.cells.toList,Zgo P d⟩
  | none=>none
 | _,_=>none
theorem Zcc {t:TypeId}{e:TE}(h:teOf P t=some e):∃ i d z,P.info? t=some i∧P.underlying t=some d∧i.zero=some z∧e.size=i.size∧e.zero=z.cells.toList ∧
 e.agg=ZpX d∧e.offs=Zgo P d:=by
 unfold teOf at h
 split at h
 ·rename_i i d b c
  split at h
  ·rename_i z f
   injection h with h
   subst h
   exact⟨i,d,z,b,c,f,rfl,rfl,rfl,rfl⟩
  cases h
 cases h
theorem Zgp {t:TypeId}{e:TE}(h:teOf P t=some e):(sizeOf t).run P w=.ok e.size w:=by
 obtain⟨i,d,z,b,f,g,c,_⟩:=Zcc h
 simp[sizeOf,typeInfo,b,c]
theorem Zh4 {t:TypeId}{e:TE}(h:teOf P t=some e):(isAgg t).run P w=.ok e.agg w:=by
 obtain⟨i,d,z,g,b,j,k,c,f,_⟩:=Zcc h
 simp only[isAgg,underlying,Sem.run_bind,run_program,Result.andThen_ok,b,Sem.run_pure,f]
 cases d<;>rfl
theorem aE (g off n:Nat):(⟨g,off,none⟩:Addr).add n=⟨g,off+n,none⟩:=by
 unfold Addr.add
 split
 ·subst_vars;rfl
 rfl
theorem ZdH {g off:Nat}:∀ (d:List Value) (i:Nat) (b:Array Value),(∀ j,j<d.length→w.cell? ⟨g,off+(i+j),none⟩=some (d[j]?.getD undef)) →
 (loadCellsFrom ⟨g,off,none⟩ i d.length b).run P w=.ok (b ++ d.toArray) w
 | [],i,b,_=>by simp[loadCellsFrom]
 | c :: d,i,b,h=>by
  have e:=h 0 (by simp)
  simp only[Nat.add_zero,List.getElem?_cons_zero,Option.getD_some] at e
  have f:=ZdH (g:=g) (off:=off) d (i+1) (b.push c) (fun j k=>by
   have:=h (j+1) (by simp;omega)
   simp only[List.getElem?_cons_succ] at this
   rw[←this];congr 2;omega)
  simp only[List.length_cons,loadCellsFrom,Sem.run_bind,run_load,aE,e,Result.andThen_ok,f]
  simp
theorem Zms {t:TypeId}{e:TE}(h:teOf P t=some e){g off:Nat}{cs:List Value}(b:cs.length=e.size)(c:∀ j,j<cs.length→w.cell? ⟨g,off+j,none⟩=some (cs[j]?.getD undef))(ha:e.agg=true) :
 (Instr.loadAt t (.pointer (some ⟨g,off,none⟩))).run P w=.ok (.agg cs.toArray) w:=by
 have:=ZdH (P:=P) (w:=w) (g:=g) (off:=off) cs 0 #[] (fun j d=>by rw[Nat.zero_add];exact c j d)
 simp only[Instr.loadAt,Instr.sureAddr,Sem.run_bind,Sem.run_pure,Result.andThen_ok,loadVar,Zh4 h,ha,if_true,Zgp h,loadCells,← b,this]
 simp
theorem Zfj {t:TypeId}{e:TE}(h:teOf P t=some e){g off:Nat}{c:Value}(b:w.cell? ⟨g,off,none⟩=some c)(ha:e.agg=false) :
 (Instr.loadAt t (.pointer (some ⟨g,off,none⟩))).run P w=.ok c w:=by
 simp only[Instr.loadAt,Instr.sureAddr,Sem.run_bind,Sem.run_pure,Result.andThen_ok,loadVar,Zh4 h,ha,Bool.false_eq_true,if_false,run_load,b]
def iJ {α:Type} (l:List α) (off:Nat) (cs:List α):List α:=l.take off ++ cs ++ l.drop (off+cs.length)
theorem ZcG {g bt:Nat}:∀ (f:List Value) (i b:Nat) (d:List Value) (w:World),Blk bt w g d.toArray→b+i+f.length≤d.length→(∀ c,c∈f→c.oneCell'=true) →
 ∃ w',(storeCells ⟨g,b,none⟩ f i).run P w=.ok () w'∧Blk bt w' g (iJ d (b+i) f).toArray∧Fr (fun k=>k=g) w w'
 | [],i,b,d,w,hB,hl,_=>by
  refine⟨w,by simp[storeCells],?_,Fr.refl _ _⟩
  simpa [iJ] using hB
 | c :: f,i,b,d,w,hB,hl,h1=>by
  simp only[List.length_cons] at hl
  have j:w.cell? ⟨g,b+i,none⟩=some (d[b+i]?.getD undef):=by
   rw[hB.cell]
   simp[show b+i<d.length by omega]
  have h:=hB.set_ (b+i) c
  have e:(d.toArray.setIfInBounds (b+i) c)=(d.set (b+i) c).toArray:=by simp
  rw[e] at h
  obtain⟨w',m,l,n⟩:=ZcG f (i+1) b (d.set (b+i) c) _ h (by simp;omega) (fun c j=>h1 c (by simp[j]))
  refine⟨w',?_,?_,((Fr.refl (fun k=>k=g) w).setCell (p:=⟨g,b+i,none⟩) (Or.inl rfl) c).trans n⟩
  ·simp only[storeCells,Sem.run_bind,aE,run_store P w ⟨g,b+i,none⟩ c .plain (h1 c (by simp)),j,hB.frozen,Bool.false_eq_true,if_false,Result.andThen_ok,m]
  have:iJ (d.set (b+i) c) (b+(i+1)) f=iJ d (b+i) (c :: f):=by
   unfold iJ
   rw[show b+(i+1)=b+i+1 by omega,List.take_succ_eq_append_getElem (by simp;omega)]
   simp only[List.length_cons,List.getElem_set_self,List.append_assoc,List.cons_append,List.nil_append]
   rw[List.take_set_of_le (by omega),List.drop_set_of_lt (by omega),show b+i+1+f.length=b+i+(f.length+1) by omega]
  rw[this] at l
  exact l
theorem Zct {t:TypeId}{e:TE}(h:teOf P t=some e){g bt off:Nat}{cur:List Value}{v:Value}(b:Blk bt w g cur.toArray)(d:v.cells.toList.length=e.size)(f:off+v.cells.toList.length≤cur.length)(i:∀ c,c∈v.cells.toList→c.oneCell'=true) :
 ∃ w',(Instr.storeAt t (.pointer (some ⟨g,off,none⟩)) v).run P w=.ok () w'∧Blk bt w' g (iJ cur off v.cells.toList).toArray∧Fr (fun k=>k=g) w w':=by
 obtain⟨w',j,l,m⟩:=ZcG (P:=P) v.cells.toList 0 off cur w b (by simpa using f) i
 refine⟨w',?_,by simpa using l,m⟩
 have:v.cells.size=e.size:=by simpa using d
 simp only[Instr.storeAt,Instr.sureAddr,Sem.run_bind,Sem.run_pure,Result.andThen_ok,storeVar,Zgp h,this]
 simpa using j
theorem ZnH {t:TypeId}{e:TE}(h:teOf P t=some e):(Instr.alloc t true (.tuple #[])).run P w=.ok (.pointer (some ⟨w.heap.size,0,none⟩)) (w.alloc (.cells e.zero.toArray t)):=by
 obtain⟨i,d,z,c,g,f,j,b,_⟩:=Zcc h
 simp[Instr.alloc,zeroValue,typeInfo,c,f,newVar,newRow,b]
theorem Zqx {t:TypeId}{v:Value}:(Instr.box t v).run P w=.ok (.pointer (some ⟨w.heap.size,0,none⟩)) (w.alloc (.cells v.cells t)):=by
 simp[Instr.box,newVar,newRow]
theorem ZnI {t f g off k:Nat}{e:TE}(h:teOf P t=some e)(b:e.offs[f]? = some (some k)):(Instr.fieldAt t (.pointer (some ⟨g,off,none⟩)) f).run P w=.ok (.pointer (some ⟨g,off+k,none⟩)) w:=by
 obtain⟨i,d,z,q,m,r,u,n,v,o⟩:=Zcc h
 rw[o] at b
 cases d with
 | struct fs =>
  simp only[Zgo,List.getElem?_map,Array.getElem?_toList,Option.map_eq_some_iff] at b
  obtain⟨x,c,hq⟩:=b
  unfold ZjC at hq
  split at hq
  ·rename_i j p
   cases hb:Nat.beq j.size 0 with
   | true=>rw[hb] at hq;simp at hq
   | false =>
    rw[hb] at hq
    simp only[cond_false,Option.some.injEq] at hq
    have l:j.size≠0:=fun e=>by rw[e] at hb;simp at hb
    simp only[Instr.fieldAt,underlying,Sem.run_bind,run_program,Result.andThen_ok,m,Sem.run_pure,c,Instr.sureAddr,fieldPlace,sizeOf,typeInfo,p,l,if_false,aE,hq]
  cases hq
 | _=>simp[Zgo] at b
end
def ZcH:List AV→Option (List Value)
 | []=>some []
 | .v x :: l=>match ZcH l with | some m=>some (x :: m) | none=>none
 | .p _ _ :: _=>none
theorem ZkT {l:List AV}{m:List Value}(h:ZcH l=some m)(L:Nat→Nat):l.map (AV.conc L)=m:=by
 induction l generalizing m with
 | nil=>simp only[ZcH,Option.some.injEq] at h;subst h;rfl
 | cons x l ih =>
  cases x with
  | p b off=>simp[ZcH] at h
  | v x =>
   unfold ZcH at h
   split at h
   ·rename_i d c
    injection h with h
    subst h
    simp only[List.map_cons,ih c,AV.conc]
   cases h
def wZ:AV→List AV
 | .v x=>x.cells.toList.map .v
 | .p b off=>[.p b off]
theorem Zec (L:Nat→Nat)(x:AV):(wZ x).map (AV.conc L)=(x.conc L).cells.toList:=by
 cases x with
 | v x=>simp only[wZ,AV.conc,List.map_map];exact (List.map_congr_left (fun _ _=>rfl)).trans (List.map_id _)
 | p b off=>rfl
theorem mapv (L:Nat→Nat)(l:List Value):(l.map AV.v).map (AV.conc L)=l:=by
 rw[List.map_map];exact (List.map_congr_left (fun _ _=>rfl)).trans (List.map_id _)
abbrev NewB:=Option (TypeId×List AV)
def St.app (s:St) (d:Nat) (r:AV×NewB):St:={ sl:=upd s.sl d r.1,bl:=match r.2 with | none=>s.bl | some q=>upd s.bl d q }
def St.put (s:St) (d:Nat) (x:AV):St:={ s with sl:=upd s.sl d x }
def St.wantB (s:St) (ops:Array Oper) (o:Oper):Option Bool :=
 match o.guard with
 | none=>some true
 | some (g,want) =>
  match (ops[g]?).bind (·.dst) with
  | none=>none
  | some t=>match s.sl t with
    | some (.v (.bool b))=>some (b == want)
    | some (.v (.tuple _))=>some false
    | _=>none
def kV (P:Program) (o:Oper) (s:St):Option AV :=
 bif iE o.op && o.op.operands.toList.all s.vB then (match Zbm P (execOp s.rho o) with | some (.value y)=>some (.v y) | _=>none) else none
def ZbN (P:Program) (s:St) (t:TypeId) (b off:Nat):Option AV :=
 match teOf P t,s.bl b with
 | some e,some (_,cs) =>
  bif e.agg then (bif Nat.ble (off+e.size) cs.length then (match ZcH ((cs.drop off).take e.size) with | some l=>some (.v (.agg l.toArray)) | none=>none) else none)
  else cs[off]?
 | _,_=>none
def ZaG (s:St) (d:Option Nat) (t:TypeId) (cs:List AV):Option (AV×NewB) :=
 match d with
 | some d=>bif (s.bl d).isNone && cs.all gY then some (.p d 0,some (t,cs)) else none
 | none=>none
def noB (x:Option AV):Option (AV×NewB):=match x with | some y=>some (y,none) | none=>none
def iA (P:Program) (ops:Array Oper) (o:Oper) (s:St):Option (AV × NewB) :=
 match s.wantB ops o with
 | none=>none
 | some false=>some (.v undef,none)
 | some true =>
  match o.op with
  | .move x=>noB (s.eval x)
  | .assign x=>noB (s.eval x)
  | .pick c x y=>match s.eval c with
    | some (.v (.bool b))=>noB (bif b then s.eval x else s.eval y)
    | _=>none
  | .alloc t=>match teOf P t with | some e=>ZaG s o.dst t (e.zero.map .v) | none=>none
  | .box t x=>match s.eval x with | some y=>ZaG s o.dst t (wZ y) | none=>none
  | .fieldAddr t x f=>match s.eval x with
    | some (.p b off)=>match teOf P t with
      | some e=>match e.offs[f]? with | some (some k)=>some (.p b (off + k),none) | _=>none
      | none=>none
    | _=>noB (kV P o s)
  | .load t x=>match s.eval x with
    | some (.p b off)=>noB (ZbN P s t b off)
    | _=>none
  | .nilCheck x=>match s.eval x with
    | some (.p b off)=>some (.p b off,none)
    | _=>noB (kV P o s)
  | _=>noB (kV P o s)
section
variable {N:Nat} {S0:Nat→Prop} {w0:World} {s:St} {Φ:World→Prop} {L:Nat→Nat} {a:Act} {w:World} {P:Program} {ops:Array Oper} {Q:Exit→Act→World→Prop}
theorem Inv.want (h:Inv N S0 w0 s Φ L a w){o:Oper}{r:Bool}(hw:s.wantB ops o=some r):Region.wanted o (yielded ops a.tmps)=r:=by
 unfold St.wantB at hw
 unfold Region.wanted
 split at hw
 ·rename_i e;rw[e];injection hw
 rename_i g want e
 rw[e]
 split at hw
 ·cases hw
 rename_i t d
 split at hw
 ·rename_i b c
  injection hw with hw
  subst hw
  have:=h.sl t _ c
  simp only[AV.conc] at this
  simp only[yielded,d,Option.bind_some,this]
  rfl
 ·rename_i f c
  injection hw with hw
  subst hw
  have:=h.sl t _ c
  simp only[AV.conc] at this
  simp only[yielded,d,Option.bind_some,this]
  rfl
 cases hw
def AV.al (s:St) (x:AV):Prop:=∀ b off,x=.p b off→(s.bl b).isSome=true
theorem al_v (x:Value):AV.al s (.v x):=fun _ _ e=>by cases e
theorem Inv.app0 (h:Inv N S0 w0 s Φ L a w){d:Nat}(j:d<N){x:AV}(k:x.al s):Inv N S0 w0 (s.app d (x,none)) Φ L (a.put (some d) (x.conc L)) w:=by
 refine⟨by simp[Act.put,h.size],h.df,fun i y f=>?_,⟨h.mem.blk,h.mem.inj,h.mem.old,h.mem.ext,fun i b c g=>?_,h.mem.cel⟩,h.box⟩
 ·by_cases e:i=d
  ·subst e
   simp only[St.app,lY,Option.some.injEq] at f
   subst f
   simp[Act.put,h.size,j]
  simp only[St.app,lD _ _ e] at f
  simp only[Act.put]
  rw[Array.getElem?_setIfInBounds_ne (Ne.symm e)]
  exact h.sl i y f
 by_cases e:i=d
 ·subst e
  simp only[St.app,lY,Option.some.injEq] at g
  exact k b c g
 simp only[St.app,lD _ _ e] at g
 exact h.mem.slp i b c g
def newL (L:Nat→Nat) (d g:Nat):Nat→Nat:=fun b=>if b=d then g else L b
theorem ZjD {d g:Nat}(f:s.bl d=none){x:AV}(h:x.al s):x.conc (newL L d g)=x.conc L:=by
 cases x with
 | v x=>rfl
 | p b off =>
  have:=h b off rfl
  have c:b≠d:=fun e=>by rw[e,f] at this;cases this
  simp[AV.conc,newL,c]
theorem Inv.appN (h:Inv N S0 w0 s Φ L a w){d:Nat}(I:d<N)(F:s.bl d=none){t:TypeId}{cs:List AV}(H:∀ x,x∈cs→gY x=true∧x.al s) :
 Inv N S0 w0 (s.app d (.p d 0,some (t,cs))) Φ (newL L d w.heap.size) (a.put (some d) (.pointer (some ⟨w.heap.size,0,none⟩))) (w.alloc (.cells (cs.map (AV.conc L)).toArray t)):=by
 have A:∀ b,(s.bl b).isSome=true→L b<w.heap.size:=fun b hb=>by
  obtain⟨⟨z,k⟩,e⟩:=Option.isSome_iff_exists.1 hb
  exact (h.mem.blk b z k e).lt
 have v:∀ b,(s.bl b).isSome=true→b≠d:=fun b hb e=>by rw[e,F] at hb;cases hb
 have f:∀ b,b≠d→(s.app d (.p d 0,some (t,cs))).bl b=s.bl b:=fun b e=>lD _ _ e
 have m:(s.app d (.p d 0,some (t,cs))).bl d=some (t,cs):=lY _ _ _
 have j:∀ (l:List AV),(∀ x,x∈l→x.al s)→l.map (AV.conc (newL L d w.heap.size))=l.map (AV.conc L):=fun l J=>List.map_congr_left (fun x u=>ZjD F (J x u))
 have n:newL L d w.heap.size d=w.heap.size:=by simp[newL]
 have g:∀ b,b≠d→newL L d w.heap.size b=L b:=fun b e=>by simp[newL,e]
 refine⟨by simp[Act.put,h.size],h.df,fun i y B=>?_,⟨fun b z k hb=>?_,fun b c hb r e=>?_,fun b hb=>?_,h.mem.ext.alloc _,fun i b o C=>?_,fun b z k hb x u=>?_⟩,?_⟩
 ·by_cases e:i=d
  ·subst e
   simp only[St.app,lY,Option.some.injEq] at B
   subst B
   simp[Act.put,h.size,I,AV.conc,newL]
  simp only[St.app,lD _ _ e] at B
  simp only[Act.put]
  rw[Array.getElem?_setIfInBounds_ne (Ne.symm e),h.sl i y B]
  rw[ZjD F (fun b o K=>h.mem.slp i b o (by rw[B,K]))]
 ·by_cases e:b=d
  ·subst e
   rw[m] at hb
   injection hb with hb
   injection hb with h1 h2
   subst h1;subst h2
   rw[n,j _ (fun x u=>(H x u).2)]
   exact Blk.new _ _ _
  rw[f b e] at hb
  rw[g b e,j _ (fun x u=>(h.mem.cel b z k hb x u).2)]
  exact (h.mem.blk b z k hb).alloc _
 ·by_cases D:b=d
  ·by_cases q:c=d
   ·rw[D,q]
   rw[f c q] at r
   rw[D,n,g c q] at e
   have:=A c r
   omega
  rw[f b D] at hb
  by_cases q:c=d
  ·rw[q,n,g b D] at e
   have:=A b hb
   omega
  rw[f c q] at r
  rw[g b D,g c q] at e
  exact h.mem.inj b c hb r e
 ·by_cases e:b=d
  ·rw[e,n];exact Or.inl h.mem.ext.size
  rw[f b e] at hb
  rw[g b e];exact h.mem.old b hb
 ·by_cases e:b=d
  ·rw[e,m];rfl
  rw[f b e]
  by_cases q:i=d
  ·subst q
   simp only[St.app,lY,Option.some.injEq] at C
   injection C with h1 h2
   exact absurd h1.symm e
  simp only[St.app,lD _ _ q] at C
  exact h.mem.slp i b o C
 ·have E:gY x=true∧x.al s:=by
   by_cases e:b=d
   ·subst e
    rw[m] at hb
    injection hb with hb
    injection hb with h1 h2
    subst h2
    exact H x u
   rw[f b e] at hb
   exact h.mem.cel b z k hb x u
  refine⟨E.1,fun c o e=>?_⟩
  have:=E.2 c o e
  rw[f c (v c this)];exact this
 intro w' M
 refine h.box w' (((Fr.refl (s.own L) w).alloc (.cells (cs.map (AV.conc L)).toArray t)).next M (fun i C O=>?_))
 obtain⟨b,hb,G⟩:=O
 by_cases e:b=d
 ·rw[e,n] at G;omega
 rw[f b e] at hb
 rw[g b e] at G
 exact⟨b,hb,G⟩
theorem ZiC (hi:Inv N S0 w0 s Φ L a w){o:Oper}{x:AV}(h:kV P o s=some x):∃ y,x=.v y∧(execOp a.eval o).run P w=.ok (.value y) w:=by
 unfold kV at h
 cases hb:iE o.op && o.op.operands.toList.all s.vB with
 | false=>rw[hb] at h;cases h
 | true =>
  rw[hb] at h
  rw[Bool.and_eq_true] at hb
  simp only[cond_true] at h
  split at h
  ·rename_i y b
   injection h with h
   refine⟨y,h.symm,?_⟩
   rw[hi.exec hb.1 hb.2]
   exact Zfi b w
  cases h
theorem Zed (hi:Inv N S0 w0 s Φ L a w){t b off:Nat}{x:AV}(h:ZbN P s t b off=some x):x.al s∧(Instr.loadAt t (.pointer (some ⟨L b,off,none⟩))).run P w=.ok (x.conc L) w:=by
 unfold ZbN at h
 split at h
 ·rename_i e f cs g i
  have k:=hi.mem.blk b f cs i
  cases ha:e.agg with
  | true =>
   rw[ha] at h
   simp only[cond_true] at h
   cases hle:Nat.ble (off+e.size) cs.length with
   | false=>rw[hle] at h;cases h
   | true =>
    rw[hle] at h
    simp only[cond_true] at h
    have m:=Nat.le_of_ble_eq_true hle
    split at h
    ·rename_i l n
     injection h with h
     subst h
     refine⟨al_v _,?_⟩
     have c:=ZkT n L
     have d:l.length=e.size:=by rw[←c,List.length_map,List.length_take,List.length_drop];omega
     refine Zms g d (fun j p=>?_) ha
     rw[k.cell,← c]
     rw[List.getElem?_toArray,List.getElem?_map,List.getElem?_map,List.getElem?_take_of_lt (by omega),List.getElem?_drop]
     rw[List.getElem?_eq_getElem (by omega)]
     rfl
    cases h
  | false =>
   rw[ha] at h
   simp only[cond_false] at h
   have o:x∈cs:=List.mem_of_getElem? h
   refine⟨(hi.mem.cel b f cs i x o).2,Zfj g ?_ ha⟩
   rw[k.cell,List.getElem?_toArray,List.getElem?_map,h]
   rfl
 cases h
theorem Zbb {d:Option Nat}{t:TypeId}{cs:List AV}{r:AV×NewB}(h:ZaG s d t cs=some r):∃ k,d=some k∧r=(.p k 0,some (t,cs))∧s.bl k=none∧∀ x,x∈cs→gY x=true:=by
 unfold ZaG at h
 split at h
 ·rename_i k
  cases hb:(s.bl k).isNone && cs.all gY with
  | false=>rw[hb] at h;cases h
  | true =>
   rw[hb] at h
   simp only[cond_true,Option.some.injEq] at h
   rw[Bool.and_eq_true] at hb
   exact⟨k,rfl,h.symm,Option.isNone_iff_eq_none.1 hb.1,fun x b=>List.all_eq_true.1 hb.2 x b⟩
 cases h
def Yld (N:Nat) (S0:Nat→Prop) (w0:World) (P:Program) (ops:Array Oper) (o:Oper) (s:St) (Φ:World→Prop) (a:Act) (w:World):Prop :=
 ∃ (v:Value) (w':World) (L':Nat→Nat),Inv N S0 w0 s Φ L' (a.put o.dst v) w' ∧
   ((Region.wanted o (yielded ops a.tmps)=true∧(execOp a.eval o).run P w=.ok (.value v) w')∨(Region.wanted o (yielded ops a.tmps)=false∧v=undef∧w'=w))
theorem lM {x:Option AV}{r:AV×NewB}(h:noB x=some r):∃ y,x=some y∧r=(y,none):=by
 cases x with
 | none=>cases h
 | some y=>injection h with h;exact⟨y,rfl,h.symm⟩
theorem Zh5 (hi:Inv N S0 w0 s Φ L a w){o:Oper}{r:AV×NewB}(h:iA P ops o s=some r){d:Nat}(E:o.dst=some d)(F:d<N):Yld N S0 w0 P ops o (s.app d r) Φ a w:=by
 have same:∀ (x:AV),r=(x,none)→x.al s→Region.wanted o (yielded ops a.tmps)=true→(execOp a.eval o).run P w=.ok (.value (x.conc L)) w→Yld N S0 w0 P ops o (s.app d r) Φ a w :=
  fun x e i m u=>by subst e;exact⟨x.conc L,w,L,by rw[E];exact hi.app0 F i,Or.inl ⟨m,u⟩⟩
 have A:noB (kV P o s)=some r→Region.wanted o (yielded ops a.tmps)=true→Yld N S0 w0 P ops o (s.app d r) Φ a w:=fun h m=>by
  obtain⟨x,i,e⟩:=lM h
  obtain⟨y,I,u⟩:=ZiC hi i
  subst I
  exact same (.v y) e (al_v y) m u
 have evl:∀ {x:Operand} {y:AV},s.eval x=some y→y.al s:=fun i b off e=>hi.mem.evp (off:=off) (by subst e;exact i)
 have new:∀ {t:TypeId} {cs:List AV} {c0:Array Value},ZaG s o.dst t cs=some r→(∀ x,x∈cs→x.al s)→(cs.map (AV.conc L)).toArray=c0→Region.wanted o (yielded ops a.tmps)=true →
  (execOp a.eval o).run P w=.ok (.value (.pointer (some ⟨w.heap.size,0,none⟩))) (w.alloc (.cells c0 t))→Yld N S0 w0 P ops o (s.app d r) Φ a w:=fun h B e m u=>by
  obtain⟨k,C,G,J,D⟩:=Zbb h
  rw[E] at C
  injection C with C
  subst C;subst G;subst e
  exact⟨_,_,_,by rw[E];exact hi.appN F J (fun x i=>⟨D x i,B x i⟩),Or.inl ⟨m,u⟩⟩
 unfold iA at h
 split at h
 ·cases h
 ·rename_i m
  injection h with h
  subst h
  exact⟨undef,w,L,by rw[E];exact hi.app0 (x:=.v undef) F (al_v _),Or.inr ⟨hi.want m,rfl,rfl⟩⟩
 rename_i m
 have g:=hi.want m
 split at h
 ·rename_i x j
  obtain⟨y,q,e⟩:=lM h
  exact same y e (evl q) g (by simp only[execOp,j,Sem.run_pure,hi.eval q])
 ·rename_i x j
  obtain⟨y,q,e⟩:=lM h
  exact same y e (evl q) g (by simp only[execOp,j,Sem.run_pure,hi.eval q])
 ·rename_i c x y j
  split at h
  ·rename_i b n
   obtain⟨z,l,e⟩:=lM h
   have D:=hi.eval n
   simp only[AV.conc] at D
   cases b with
   | true =>
    simp only[cond_true] at l
    exact same z e (evl l) g (by simp only[execOp,j,D,asBool,Sem.run_bind,Sem.run_pure,Result.andThen_ok,if_true,hi.eval l])
   | false =>
    simp only[cond_false] at l
    exact same z e (evl l) g (by simp only[execOp,j,D,asBool,Sem.run_bind,Sem.run_pure,Result.andThen_ok,Bool.false_eq_true,if_false,hi.eval l])
  cases h
 ·rename_i t j
  split at h
  ·rename_i e H
   refine new (c0:=e.zero.toArray) h (fun x i=>?_) (by rw[mapv]) g (by simp only[execOp,j,Sem.run_bind,ZnH H,Result.andThen_ok,Sem.run_pure])
   obtain⟨y,_,rfl⟩:=List.mem_map.1 i
   exact al_v y
  cases h
 ·rename_i t x j
  split at h
  ·rename_i y q
   refine new (c0:=(y.conc L).cells) h (fun z l=>?_) (by rw[Zec]) g (by simp only[execOp,j,Sem.run_bind,hi.eval q,Zqx,Result.andThen_ok,Sem.run_pure])
   cases y with
   | v y=>obtain⟨c,_,rfl⟩:=List.mem_map.1 l;exact al_v c
   | p b off=>simp only[wZ,List.mem_singleton] at l;subst l;exact evl q
  cases h
 ·rename_i t x f j
  split at h
  ·rename_i b off n
   split at h
   ·rename_i e H
    split at h
    ·rename_i k C
     injection h with h
     have i:=hi.eval n
     simp only[AV.conc] at i
     refine same (.p b (off+k)) h.symm (fun c M K=>?_) g (by simp only[execOp,j,Sem.run_bind,i,ZnI H C,Result.andThen_ok,Sem.run_pure,AV.conc])
     injection K with G _
     rw[←G]
     exact evl n b off rfl
    cases h
   cases h
  exact A h g
 ·rename_i t x j
  split at h
  ·rename_i b off n
   obtain⟨z,l,e⟩:=lM h
   obtain⟨B,u⟩:=Zed hi l
   have i:=hi.eval n
   simp only[AV.conc] at i
   exact same z e B g (by simp only[execOp,j,Sem.run_bind,i,u,Result.andThen_ok,Sem.run_pure])
  cases h
 ·rename_i x j
  split at h
  ·rename_i b off n
   injection h with h
   have i:=hi.eval n
   simp only[AV.conc] at i
   exact same (.p b off) h.symm (evl n) g (by simp only[execOp,j,i,Sem.run_pure,AV.conc])
  exact A h g
 exact A h g
theorem Yld.step {o:Oper}(h:Yld N S0 w0 P ops o s Φ a w){K:Act→World→Prop}(b:∀ L a w,Inv N S0 w0 s Φ L a w→K a w) :
 if Region.wanted o (yielded ops a.tmps)=true then o.wp P a w K Q else K (a.put o.dst undef) w:=by
 obtain⟨v,w',e,c,h|⟨d,rfl,rfl⟩⟩:=h
 ·rw[if_pos h.1]
  unfold Oper.wp
  rw[h.2]
  exact b _ _ _ c
 rw[if_neg (by rw[d];simp)]
 exact b _ _ _ c
end
def opAt (ops:Array Oper) (i:Nat):Oper:=ops.toList.getD i default
def Zr7 (cs:Array Value):Prop:=∀ (i:Nat) (k:IntKind) (z:Int),cs[i]? = some (.int k z)→k=.i64
def NRB (w:World) (i:Nat):Prop:=∃ t cs,Blk t w i cs∧Zr7 cs
def BoxN (w w':World) (φ:World→Prop):Prop:=∀ S:Nat→Prop,(∀ i,S i→i<w.heap.size∧NRB w i)→Box S w' φ
theorem BoxN.pure {w w':World}{p:Prop}(h:p):BoxN w w' (fun _=>p):=fun _ _ _ _=>h
def DoR {α:Type} (sh:α→Value) (φ:α→World→Prop) (w:World) (y:Value) (w':World):Prop:=∃ x:α,y=sh x∧Ext w w'∧BoxN w w' (φ x)
def kM {α:Type} (sh:α→Value) (φ:α→World→Prop) (w:World) (e:Ending) (w':World):Prop:=∃ x:α,e=.returned (sh x)∧Ext w w'∧BoxN w w' (φ x)
def Does (P:Program) (o:Oper) (ρ:Operand→Value) (w:World) (R:Value→World→Prop):Prop :=
 (∃ y w',(execOp ρ o).run P w=.ok (.value y) w'∧R y w') ∨
 (∃ f args w1,(execOp ρ o).run P w=.ok (.enter f args) w1∧Calls P f args w1 fun e w'=>∃ y,e=.returned y∧R y w')
def dS {α:Type}:List (Nat × α)→Nat→Option α
 | []=>fun _=>none
 | q :: l=>upd (dS l) q.1 q.2
theorem iK {α:Type}{l:List (Nat × α)}{i:Nat}{x:α}(h:dS l i=some x):(i,x)∈l:=by
 induction l with
 | nil=>cases h
 | cons q l ih =>
  obtain⟨k,y⟩:=q
  by_cases e:i=k
  ·subst e
   simp only[dS,lY,Option.some.injEq] at h
   subst h
   exact List.mem_cons_self
  simp only[dS,lD _ _ e] at h
  exact List.mem_cons_of_mem _ (ih h)
abbrev SlL:=List (Nat × AV)
abbrev BlL:=List (Nat × TypeId×List AV)
def ofL (sl:SlL) (bl:BlL):St:=⟨dS sl,dS bl⟩
def alB (bl:BlL):AV→Bool
 | .v _=>true
 | .p b _=>(dS bl b).isSome
def wfB (sl:SlL) (bl:BlL):Bool:=sl.all (fun q=>alB bl q.2) && bl.all (fun q=>q.2.2.all (alB bl))
def xK (s:St) (sl:SlL) (bl:BlL):Prop:=(sl.map (fun q=>s.sl q.1),bl.map (fun q=>s.bl q.1))=(sl.map (fun q=>some q.2),bl.map (fun q=>some q.2))
theorem Zaa {α β:Type}{f g:α→β}{l:List α}(h:l.map f=l.map g){x:α}(hx:x∈l):f x=g x:=by
 induction l with
 | nil=>cases hx
 | cons y l ih =>
  simp only[List.map_cons,List.cons.injEq] at h
  rcases List.mem_cons.1 hx with e|hx
  ·rw[e];exact h.1
  exact ih h.2 hx
section
variable {N:Nat} {S0:Nat→Prop} {w0:World} {s:St} {Φ Ψ:World→Prop} {L:Nat→Nat} {a:Act} {w:World} {P:Program} {ops:Array Oper} {Q:Exit→Act→World→Prop}
theorem Inv.weak (h:Inv N S0 w0 s Φ L a w){l:SlL}{m:BlL}(u:xK s l m)(n:wfB l m=true)(Q:∀ w,Φ w→Ψ w):Inv N S0 w0 (ofL l m) Ψ L a w:=by
 unfold xK at u
 injection u with hs hb
 unfold wfB at n
 rw[Bool.and_eq_true] at n
 have o:∀ i x,(ofL l m).sl i=some x→s.sl i=some x:=fun i x j=>Zaa (f:=fun q:Nat × AV=>s.sl q.1) (g:=fun q=>some q.2) hs (iK j)
 have k:∀ i x,(ofL l m).bl i=some x→s.bl i=some x:=fun i x j=>Zaa (f:=fun q:Nat × TypeId×List AV=>s.bl q.1) (g:=fun q=>some q.2) hb (iK j)
 have d:∀ b,((ofL l m).bl b).isSome=true→(s.bl b).isSome=true:=fun b hb=>by
  obtain⟨q,e⟩:=Option.isSome_iff_exists.1 hb
  rw[k b q e];rfl
 refine⟨h.size,h.df,fun i x j=>h.sl i x (o i x j),⟨fun b t p e=>h.mem.blk b t p (k b _ e),fun b c hb v=>h.mem.inj b c (d b hb) (d c v),fun b hb=>h.mem.old b (d b hb),h.mem.ext,fun i b r e=>?_,fun b t p e x j=>⟨(h.mem.cel b t p (k b _ e) x j).1,fun c r y=>?_⟩⟩,fun w' z=>Q _ (h.box w' (z.mono (fun i _ A=>?_)))⟩
 ·have:=List.all_eq_true.1 n.1 _ (iK e)
  exact this
 ·have:=List.all_eq_true.1 (List.all_eq_true.1 n.2 _ (iK e)) x j
  rw[y] at this
  exact this
 obtain⟨b,hb,e⟩:=A
 exact⟨b,d b hb,e⟩
theorem Inv.own_nrb (h:Inv N S0 w0 s Φ L a w){i:Nat}(hi:s.own L i):i<w.heap.size∧NRB w i:=by
 obtain⟨b,l,e⟩:=hi
 obtain⟨⟨t,c⟩,d⟩:=Option.isSome_iff_exists.1 l
 have f:=h.mem.blk b t c d
 subst e
 refine⟨f.lt,t,_,f,fun j k z g=>?_⟩
 rw[List.getElem?_toArray,List.getElem?_map,Option.map_eq_some_iff] at g
 obtain⟨x,m,ex⟩:=g
 exact ZnG (h.mem.cel b t c d x (List.mem_of_getElem? m)).1 ex
theorem Inv.called (h:Inv N S0 w0 s Φ L a w){w':World}{φ:World→Prop}(f:Ext w w')(g:BoxN w w' φ){d:Nat}(j:d<N)(v:Value):Inv N S0 w0 (s.app d (.v v,none)) (fun w=>Φ w∧φ w) L (a.put (some d) v) w':=by
 have c:=h.app0 j (al_v (s:=s) v)
 exact⟨c.size,c.df,c.sl,⟨fun b t k e=>(c.mem.blk b t k e).ext f,c.mem.inj,c.mem.old,c.mem.ext.ext f,c.mem.slp,c.mem.cel⟩,(c.box.ext f).and (g _ (fun i l=>h.own_nrb l))⟩
theorem ZjE (hi:Inv N S0 w0 s Φ L a w){o:Oper}{d:Nat}{α:Type}{i:α→Value}{φ:α→World→Prop}(n:s.wantB ops o=some true)(p:iE o.op=true)(q:o.op.operands.toList.all s.vB=true)(j:o.dst=some d)(k:d<N)(b:∀ w,Fr S0 w0 w→Φ w→Does P o s.rho w (DoR i φ w)){K:Act→World→Prop}(l:∀ x L a w,Inv N S0 w0 (s.app d (.v (i x),none)) (fun w=>Φ w∧φ x w) L a w→K a w) :
 if Region.wanted o (yielded ops a.tmps)=true then o.wp P a w K Q else K (a.put o.dst undef) w:=by
 rw[if_pos (hi.want n)]
 unfold Oper.wp
 rw[hi.exec p q]
 rcases b w hi.mem.ext hi.box.self with ⟨y,w',c,x,rfl,g,h⟩|⟨f,m,u,c,r⟩
 ·rw[c,Oper.upon_value,j]
  exact l x _ _ _ (hi.called g h k _)
 rw[c,Oper.upon_enter]
 refine Calls.mono r fun e w' t=>?_
 obtain⟨y,rfl,x,rfl,g,h⟩:=t
 simp only[j]
 exact l x _ _ _ (hi.called g h k _)
end
def dU (P:Program) (ops:Array Oper) (o:Oper) (s:St):Option St :=
 match s.wantB ops o with
 | none=>none
 | some false=>some s
 | some true =>
  match o.op with
  | .store t x y =>
   match s.eval x,s.eval y,teOf P t with
   | some (.p b off),some z,some e =>
    match s.bl b with
    | some (bt,cs)=>bif Nat.beq (wZ z).length e.size && (Nat.ble (off+(wZ z).length) cs.length && (wZ z).all gY) then some { s with bl:=upd s.bl b (bt,iJ cs off (wZ z)) } else none
    | none=>none
   | _,_,_=>none
  | _=>none
def stpL (P:Program) (N:Nat) (ops:Array Oper) (o:Oper) (s:St):Option St :=
 match o.dst with
 | some d=>bif Nat.blt d N then (match iA P ops o s with | some r=>some (s.app d r) | none=>none) else none
 | none=>dU P ops o s
def runL (P:Program) (N:Nat) (ops:Array Oper):List Oper→St→Option St
 | [],s=>some s
 | o :: l,s=>match stpL P N ops o s with | some s'=>runL P N ops l s' | none=>none
def Zgq (s:St) (o:Oper):Option (FuncId × List Value) :=
 match o.op with
 | .call c=>match c.callee with
   | .value fo=>match s.eval fo with
     | some (.v (.func (.func f) first captured))=>some (f,first.toList ++ c.args.toList.map s.rho ++ captured.toList)
     | _=>none
   | _=>none
 | _=>none
def ZcI (P:Program) (f:FuncId):Bool :=
 match P.funcs[f]? with
 | some fn => !(fn.name == "runtime.NumGoroutine") && !fn.body.isNone
 | none=>false
def eG (P:Program) (N:Nat) (ops:Array Oper) (o:Oper) (s:St):Option (FuncId×List Value×Nat) :=
 match s.wantB ops o,Zgq s o,o.dst with
 | some true,some q,some d=>bif iE o.op && (o.op.operands.toList.all s.vB && (ZcI P q.1 && Nat.blt d N)) then some (q.1,q.2,d) else none
 | _,_,_=>none
def Zi2 (P:Program) (s:St):ResultVar→Option Value
 | .tmp t=>match s.sl t with | some (.v x)=>some x | _=>none
 | .cell t ty=>match s.sl t with
   | some (.p b off)=>match ZbN P s ty b off with | some (.v x)=>some x | _=>none
   | _=>none
def resL (P:Program) (s:St):List ResultVar→Option (List Value)
 | []=>some []
 | r :: l=>match Zi2 P s r,resL P s l with | some x,some m=>some (x :: m) | _,_=>none
def Zmt (P:Program) (fn:Func) (s:St):Option Value :=
 match resL P s fn.results.toList with
 | some [x]=>some x
 | some m=>some (.tuple m.toArray)
 | none=>none
def ZeP:Nat→List Value→SlL
 | _,[]=>[]
 | k,x :: l=>(k,.v x) :: ZeP (k+1) l
section
variable {N:Nat} {S0:Nat→Prop} {w0:World} {s:St} {Φ Ψ:World→Prop} {L:Nat→Nat} {a:Act} {w:World} {P:Program} {ops:Array Oper} {Q:Exit→Act→World→Prop}
theorem Zmu {α β:Type}(f:α→β)(l:List α)(off:Nat)(cs:List α):(iJ l off cs).map f=iJ (l.map f) off (cs.map f):=by
 simp[iJ,List.map_take,List.map_drop]
theorem Zgr {α:Type}{l:List α}{off:Nat}{cs:List α}{x:α}(h:x∈iJ l off cs):x∈l∨x∈cs:=by
 unfold iJ at h
 rcases List.mem_append.1 h with h|h
 ·rcases List.mem_append.1 h with h|h
  ·exact Or.inl (List.mem_of_mem_take h)
  exact Or.inr h
 exact Or.inl (List.mem_of_mem_drop h)
theorem Zh6 (hi:Inv N S0 w0 s Φ L a w){o:Oper}{s':St}(h:dU P ops o s=some s')(U:o.dst=none){K:Act→World→Prop}(V:∀ L a w,Inv N S0 w0 s' Φ L a w→K a w) :
 if Region.wanted o (yielded ops a.tmps)=true then o.wp P a w K Q else K (a.put o.dst undef) w:=by
 unfold dU at h
 split at h
 ·cases h
 ·rename_i E
  injection h with h
  subst h
  rw[if_neg (by rw[hi.want E];simp),U]
  exact V _ _ _ hi
 rename_i E
 rw[if_pos (hi.want E)]
 split at h
 ·rename_i t x y Z
  split at h
  ·rename_i b off z e hx W he
   split at h
   ·rename_i D cs F
    cases hc:(Nat.beq (wZ z).length e.size && (Nat.ble (off+(wZ z).length) cs.length && (wZ z).all gY)) with
    | false=>rw[hc] at h;cases h
    | true =>
     rw[hc] at h
     simp only[cond_true,Option.some.injEq] at h
     simp only[Bool.and_eq_true] at hc
     have hn:=Nat.eq_of_beq_eq_true hc.1
     have hl:=Nat.le_of_ble_eq_true hc.2.1
     have r:∀ c,c∈wZ z→gY c=true:=fun c j=>List.all_eq_true.1 hc.2.2 c j
     have m:(s.bl b).isSome=true:=by rw[F];rfl
     have ex:=hi.eval hx
     have ey:=hi.eval W
     simp only[AV.conc] at ex
     have k:=Zec L z
     have hB:=hi.mem.blk b D cs F
     have G:∀ c,c∈wZ z→c.al s:=fun c j=>by
      cases z with
      | v y=>obtain⟨X,_,rfl⟩:=List.mem_map.1 j;exact al_v _
      | p b' off'=>simp only[wZ,List.mem_singleton] at j;subst j;exact fun b2 Y u=>by injection u with e3 _;rw[←e3];exact hi.mem.evp W
     obtain⟨w',hr,H,I⟩:=Zct (P:=P) he (v:=z.conc L) hB (by rw[←k];simpa using hn) (by rw[←k];simpa using hl) (fun c j=>by
      rw[←k] at j
      obtain⟨X,f,rfl⟩:=List.mem_map.1 j
      exact ZnF L (r X f))
     unfold Oper.wp
     have A:(execOp a.eval o).run P w=.ok .skip w':=by simp only[execOp,Z,Sem.run_bind,ex,ey,hr,Result.andThen_ok,Sem.run_pure]
     rw[A,Oper.upon_skip,U]
     subst h
     have J:∀ c,c≠b→(s.bl c).isSome=true→L c≠L b:=fun c M O e=>M (hi.mem.inj c b O m e)
     have g:∀ c,((upd s.bl b (D,iJ cs off (wZ z))) c).isSome=true→(s.bl c).isSome=true:=fun c j=>by
      by_cases e:c=b
      ·rw[e];exact m
      rw[lD _ _ e] at j;exact j
     have l:∀ c,(s.bl c).isSome=true→((upd s.bl b (D,iJ cs off (wZ z))) c).isSome=true:=fun c j=>by
      by_cases e:c=b
      ·rw[e,lY];rfl
      rw[lD _ _ e];exact j
     refine V L a w' ⟨hi.size,hi.df,hi.sl,⟨fun c R n f=>?_,fun c d f S e=>hi.mem.inj c d (g c f) (g d S) e,fun c f=>hi.mem.old c (g c f),hi.mem.ext.next I (fun i a0 e=>?_),fun i c off' j=>l c (hi.mem.slp i c off' j),fun c R n f q B=>?_⟩,fun w2 T=>?_⟩
     ·by_cases e:c=b
      ·subst e
       simp only[lY,Option.some.injEq] at f
       injection f with e1 u
       subst e1;subst u
       rw[Zmu,k]
       exact H
      simp only[lD _ _ e] at f
      exact (hi.mem.blk c R n f).fr I (J c e (by rw[f];rfl))
     ·rcases hi.mem.old b m with j|j
      ·omega
      rw[e];exact j
     ·have C:gY q=true∧q.al s:=by
       by_cases e:c=b
       ·subst e
        simp only[lY,Option.some.injEq] at f
        injection f with e1 u
        subst u
        rcases Zgr B with j|j
        ·exact hi.mem.cel c D cs F q j
        exact⟨r q j,G q j⟩
       simp only[lD _ _ e] at f
       exact hi.mem.cel c R n f q B
      exact⟨C.1,fun d off' e=>l d (C.2 d off' e)⟩
     refine hi.box w2 ((I.mono (fun i _ e=>⟨b,m,e.symm⟩)).trans (T.mono (fun i _ j=>?_)))
     obtain⟨c,f,e⟩:=j
     exact⟨c,g c f,e⟩
   cases h
  cases h
 cases h
theorem Zmv (hi:Inv N S0 w0 s Φ L a w){o:Oper}{s':St}(h:stpL P N ops o s=some s'){K:Act→World→Prop}(c:∀ L a w,Inv N S0 w0 s' Φ L a w→K a w) :
 if Region.wanted o (yielded ops a.tmps)=true then o.wp P a w K Q else K (a.put o.dst undef) w:=by
 unfold stpL at h
 split at h
 ·rename_i d b
  cases hb:Nat.blt d N with
  | false=>rw[hb] at h;cases h
  | true =>
   rw[hb] at h
   simp only[cond_true] at h
   have e:d<N:=Nat.le_of_ble_eq_true hb
   split at h
   ·rename_i r f
    injection h with h
    subst h
    exact (Zh5 hi f b e).step c
   cases h
 rename_i b
 exact Zh6 hi h b c
def SXl (P:Program) (N:Nat) (S0:Nat→Prop) (w0:World) (ops:Array Oper) (Q:Exit→Act→World→Prop) (l:List Oper) (s:St) (Φ:World→Prop):Prop:=∀ L a w,Inv N S0 w0 s Φ L a w→wpList P ops Q l a w
def SXi (P:Program) (N:Nat) (S0:Nat→Prop) (w0:World) (ops:Array Oper) (Q:Exit→Act→World→Prop) (i:Nat) (s:St) (Φ:World→Prop):Prop:=SXl P N S0 w0 ops Q (ops.toList.drop i) s Φ
def SXq (N:Nat) (S0:Nat→Prop) (w0:World) (Q:Act→World→Prop) (s:St) (Φ:World→Prop):Prop:=∀ L a w,Inv N S0 w0 s Φ L a w→Q a w
def SXc (P:Program) (N:Nat) (S0:Nat→Prop) (w0:World) (Q:Exit→Act→World→Prop) (c:Code) (s:St) (Φ:World→Prop):Prop:=∀ L a w,Inv N S0 w0 s Φ L a w→c.wp P Q a w
theorem Zgs:∀ (l r:List Oper) (s b:St),runL P N ops l s=some b→SXl P N S0 w0 ops Q r b Φ→SXl P N S0 w0 ops Q (l ++ r) s Φ
 | [],r,s,b,h,k=>by simp only[runL,Option.some.injEq] at h;subst h;exact k
 | o :: l,r,s,b,h,k=>by
  unfold runL at h
  split at h
  ·rename_i d e
   have f:=Zgs l r d b h k
   intro L a w c
   exact wpList_step (fun K g=>Zmv c e (fun L a w c=>g _ _ (f L a w c)))
  cases h
def Zgt (P:Program) (N:Nat) (ops:Array Oper) (i k:Nat) (s:St) (sl:SlL) (bl:BlL):Option (List (Option AV)×List (Option (TypeId×List AV))) :=
 match runL P N ops ((ops.toList.drop i).take k) s with
 | some s'=>some (sl.map (fun q=>s'.sl q.1),bl.map (fun q=>s'.bl q.1))
 | none=>none
theorem SXl.weak {l:List Oper}(b:SlL)(c:BlL)(d:xK s b c)(e:wfB b c=true)(R:∀ w,Φ w→Ψ w)(h:SXl P N S0 w0 ops Q l (ofL b c) Ψ):SXl P N S0 w0 ops Q l s Φ :=
 fun L a w f=>h L a w (f.weak d e R)
theorem ZnJ {i:Nat}(k:Nat)(b:SlL)(c:BlL)(h:Zgt P N ops i k s b c=some (b.map (fun q=>some q.2),c.map (fun q=>some q.2)))(d:wfB b c=true)(K:SXi P N S0 w0 ops Q (i+k) (ofL b c) Φ):SXi P N S0 w0 ops Q i s Φ:=by
 unfold Zgt at h
 split at h
 ·rename_i f g
  injection h with h
  unfold SXi at K ⊢
  have e:ops.toList.drop i=(ops.toList.drop i).take k ++ ops.toList.drop (i+k):=by rw[←List.drop_drop,List.take_append_drop]
  rw[e]
  exact Zgs _ _ s f g (SXl.weak b c h d (fun _ h=>h) K)
 cases h
theorem eJ {i:Nat}(h:Nat.blt i ops.size=true):ops.toList.drop i=opAt ops i :: ops.toList.drop (i+1):=by
 have b:i<ops.size:=Nat.le_of_ble_eq_true h
 rw[List.drop_eq_getElem_cons (by simpa using b)]
 simp[opAt,b]
theorem Zcd {o:Oper}{f:FuncId}{args:List Value}(h:Zgq s o=some (f,args))(hk:ZcI P f=true):(execOp s.rho o).run P w=.ok (.enter f args.toArray) w:=by
 unfold Zgq at h
 split at h
 ·rename_i c ho
  split at h
  ·rename_i fo hc
   split at h
   ·rename_i f' first captured hf
    injection h with h
    injection h with h1 h2
    subst h1;subst h2
    have e1:s.rho fo=.func (.func f') first captured:=by simp[St.rho,hf]
    have e2:(first.toList ++ c.args.toList.map s.rho ++ captured.toList).toArray=first ++ c.args.map s.rho ++ captured:=by apply Array.toList_inj.1;simp
    unfold ZcI at hk
    split at hk
    ·rename_i fn hfn
     rw[Bool.and_eq_true] at hk
     have n1 : (fn.name == "runtime.NumGoroutine") = false := by simpa using hk.1
     have n2:fn.body.isNone=false:=by simpa using hk.2
     simp only[execOp,ho,resolve,hc,e1,Deferred.ofValue,Sem.run_bind,Sem.run_pure,Result.andThen_ok,invoke,callFunc,run_program,hfn,n1,n2,Bool.false_eq_true,if_false,e2]
    cases hk
   cases h
  cases h
 cases h
theorem cO {o:Oper}{f d:Nat}{args:List Value}(h:eG P N ops o s=some (f,args,d)):s.wantB ops o=some true∧Zgq s o=some (f,args)∧o.dst=some d∧iE o.op=true∧o.op.operands.toList.all s.vB=true∧ZcI P f=true∧d<N:=by
 unfold eG at h
 split at h
 ·rename_i q d' b c e
  cases hb:(iE o.op && (o.op.operands.toList.all s.vB && (ZcI P q.1 && Nat.blt d' N))) with
  | false=>rw[hb] at h;cases h
  | true =>
   rw[hb] at h
   simp only[cond_true,Option.some.injEq,Prod.mk.injEq] at h
   simp only[Bool.and_eq_true] at hb
   obtain⟨g,i,j⟩:=h
   subst g;subst i;subst j
   exact⟨b,c,e,hb.1,hb.2.1,hb.2.2.1,Nat.le_of_ble_eq_true hb.2.2.2⟩
 cases h
theorem Zh7 {o:Oper}{f:Nat}{args:List Value}{α:Type}{b:α→Value}{φ:α→World→Prop}(h:Zgq s o=some (f,args))(c:ZcI P f=true)(d:Calls P f args.toArray w (kM b φ w)):Does P o s.rho w (DoR b φ w) :=
 Or.inr ⟨f,args.toArray,w,Zcd h c,d.mono (fun e w' h=>by
  obtain⟨x,g,h⟩:=h
  exact⟨_,g,x,rfl,h⟩)⟩
theorem iB {i:Nat}{α:Type}{d:Nat}(f:α→Value)(φ:α→World→Prop)(b:Nat.blt i ops.size=true)(g:s.wantB ops (opAt ops i)=some true)(h:iE (opAt ops i).op=true)(j:(opAt ops i).op.operands.toList.all s.vB=true)(k:(opAt ops i).dst=some d)(l:Nat.blt d N=true)(c:∀ w,Fr S0 w0 w→Φ w→Does P (opAt ops i) s.rho w (DoR f φ w))(K:∀ x,SXi P N S0 w0 ops Q (i+1) (s.put d (.v (f x))) (fun w=>Φ w∧φ x w)):SXi P N S0 w0 ops Q i s Φ:=by
 unfold SXi
 rw[eJ b]
 intro L a w e
 exact wpList_step (fun n m=>ZjE e g h j k (Nat.le_of_ble_eq_true l) c (fun x L a w e=>m _ _ (K x L a w e)))
theorem ZlC {i:Nat}(f:FuncId)(args:List Value)(d:Nat){α:Type}(b:α→Value)(φ:α→World→Prop)(c:Nat.blt i ops.size=true)(h:eG P N ops (opAt ops i) s=some (f,args,d))(e:∀ w,Fr S0 w0 w→Φ w→Calls P f args.toArray w (kM b φ w))(K:∀ x,SXi P N S0 w0 ops Q (i+1) (s.put d (.v (b x))) (fun w=>Φ w∧φ x w)):SXi P N S0 w0 ops Q i s Φ:=by
 obtain⟨g,j,k,l,m,n,o⟩:=cO h
 exact iB b φ c g l m k (by rw[Nat.blt_eq];exact o) (fun w p R=>Zh7 j n (e w p R)) K
theorem Zrt {i:Nat}(h:Nat.ble ops.size i=true)(K:SXq N S0 w0 (Q .normal) s Φ):SXi P N S0 w0 ops Q i s Φ:=by
 unfold SXi
 rw[List.drop_of_length_le (by simpa using Nat.le_of_ble_eq_true h)]
 exact fun L a w b=>K L a w b
end
section
variable {N:Nat} {S0:Nat→Prop} {w0:World} {s s':St} {Φ Ψ Φ0:World→Prop} {L:Nat→Nat} {a:Act} {w:World} {P:Program} {ops:Array Oper} {Q:Exit→Act→World→Prop} {o:Oper}
def iF (ops:Array Oper) (o:Oper) (s s':St):Prop:=∀ t,t∈o.looksAt ops→∀ x,s.sl t=some x→s'.sl t=some x
theorem iF.eval (h:iF ops o s s'){x:Operand}(b:x∈o.op.operands.toList){y:AV}(e:s.eval x=some y):s'.eval x=some y:=by
 cases x with
 | tmp t=>exact h t (List.mem_append_left _ (List.mem_filterMap.2 ⟨.tmp t,b,rfl⟩)) y e
 | const v=>exact e
 | global g=>exact e
 | func f=>exact e
theorem iF.want (h:iF ops o s s'){r:Bool}(e:s.wantB ops o=some r):s'.wantB ops o=some r:=by
 unfold St.wantB at e ⊢
 split at e
 ·exact e
 rename_i g want f
 split at e
 ·cases e
 rename_i t i
 have d:t∈o.looksAt ops:=List.mem_append_right _ (by rw[f];simp[i])
 split at e
 ·rename_i b c;rw[h t d _ c];exact e
 ·rename_i j c;rw[h t d _ c];exact e
 cases e
theorem iF.vB (h:iF ops o s s')(e:o.op.operands.toList.all s.vB=true):o.op.operands.toList.all s'.vB=true:=by
 rw[List.all_eq_true] at e ⊢
 intro x b
 have:=h.eval b (ZcF (e x b))
 unfold St.vB
 rw[this]
theorem iF.rho (h:iF ops o s s')(e:o.op.operands.toList.all s.vB=true){x:Operand}(b:x∈o.op.operands.toList):s'.rho x=s.rho x:=by
 have:=h.eval b (ZcF (List.all_eq_true.1 e x b))
 show (match s'.eval x with | some (.v y)=>y | _=>undef)=_
 rw[this]
theorem iF.exec (h:iF ops o s s')(hs:iE o.op=true)(e:o.op.operands.toList.all s.vB=true):execOp s'.rho o=execOp s.rho o :=
 execOp_congr o (fun d b c=>by rw[c] at hs;cases hs) (fun x hx=>h.rho e (by simpa using hx))
theorem iF.pure (h:iF ops o s s'){x:AV}(e:kV P o s=some x):kV P o s'=some x:=by
 unfold kV at e ⊢
 cases hb:iE o.op && o.op.operands.toList.all s.vB with
 | false=>rw[hb] at e;cases e
 | true =>
  rw[hb] at e
  rw[Bool.and_eq_true] at hb
  rw[hb.1,h.vB hb.2,h.exec hb.1 hb.2]
  exact e
theorem iF.pure' (h:iF ops o s s'){r:AV×NewB}(e:noB (kV P o s)=some r):noB (kV P o s')=some r:=by
 obtain⟨x,b,_⟩:=lM e
 rw[b] at e
 rw[h.pure b]
 exact e
def cls:Op→Nat
 | .call c=>match c.callee with
   | .builtin .len=>0
   | .builtin .cap=>0
   | .builtin .min=>0
   | .builtin .max=>0
   | _=>2
 | .move _=>0
 | .assign _=>0
 | .pick _ _ _=>0
 | .alloc _=>0
 | .box _ _=>0
 | .load _ _=>1
 | .store _ _ _=>3
 | .fieldAddr _ _ _=>0
 | .field _ _ _=>0
 | .extract _ _=>0
 | .binOp _ _ _ _ _=>0
 | .unOp _ _ _=>0
 | .nilCheck _=>0
 | .build _ _=>0
 | .indexAddr _ _ _=>0
 | .index _ _ _=>0
 | .slice _ _ _ _ _=>0
 | .convert _ _ _=>0
 | _=>2
def aA (x y:Op):Bool :=
 match cls x,cls y with
 | 0,_=>true
 | _,0=>true
 | 1,1=>true
 | 1,2=>true
 | 2,1=>true
 | _,_=>false
def lsB (x y:Op):Bool :=
 match cls x,cls y with
 | 1,3=>true
 | 3,1=>true
 | _,_=>false
def ZjF:Op→Option Operand
 | .load _ x=>some x
 | .store _ x _=>some x
 | _=>none
def bT (o:Oper) (s:St) (b:Nat):Prop:=∃ x off,ZjF o.op=some x∧s.eval x=some (.p b off)
def Far (x y:Oper) (s:St):Prop:=∀ b c,bT x s b→bT y s c→b≠c
def dV (o:Oper) (s:St) (b:Nat):Prop:=∃ x off,x∈o.op.operands.toList∧s.eval x=some (.p b off)
theorem dV.addr {b:Nat}(h:dV o s b)(hc:cls o.op=1):bT o s b:=by
 obtain⟨x,d,f,e⟩:=h
 cases ho:o.op with
 | load t y =>
  rw[ho] at f
  simp only[Op.operands,List.mem_singleton] at f
  exact⟨y,d,by rw[ho];rfl,by rw[←f];exact e⟩
 | call c =>
  rw[ho] at hc
  unfold cls at hc
  simp only at hc
  split at hc<;>cases hc
 | _=>rw[ho] at hc;cases hc
theorem bT.leads {b:Nat}(h:bT o s b):dV o s b:=by
 obtain⟨x,c,hx,e⟩:=h
 refine⟨x,c,?_,e⟩
 cases ho:o.op with
 | load t y=>rw[ho] at hx;injection hx with hx;simp[Op.operands,hx]
 | store t y z=>rw[ho] at hx;injection hx with hx;simp[Op.operands,hx]
 | _=>rw[ho] at hx;cases hx
theorem Zgu {t:TypeId}{cs:List AV}{r:AV×NewB}{d:Option Nat}(b:∀ k,d=some k→s.bl k=none→s'.bl k=none)(h:ZaG s d t cs=some r):ZaG s' d t cs=some r:=by
 obtain⟨k,c,e,f,g⟩:=Zbb h
 subst c;subst e
 have i:=b k rfl f
 have j:cs.all gY=true:=List.all_eq_true.2 g
 simp[ZaG,i,j]
theorem Zpj (h:iF ops o s s')(u:cls o.op=1→∀ b q,dV o s b→s.bl b=some q→s'.bl b=some q)(p:∀ d,o.dst=some d→s.bl d=none→s'.bl d=none){r:AV×NewB}(e:iA P ops o s=some r):iA P ops o s'=some r:=by
 unfold iA at e ⊢
 split at e
 ·cases e
 ·rename_i l
  rw[h.want l];exact e
 rename_i l
 rw[h.want l]
 simp only
 split at e
 ·rename_i x g
  obtain⟨y,k,_⟩:=lM e
  rw[k] at e
  rw[h.eval (by simp[g,Op.operands]) k];exact e
 ·rename_i x g
  obtain⟨y,k,_⟩:=lM e
  rw[k] at e
  rw[h.eval (by simp[g,Op.operands]) k];exact e
 ·rename_i c x y g
  split at e
  ·rename_i b v
   rw[h.eval (by simp[g,Op.operands]) v]
   simp only
   obtain⟨z,hz,_⟩:=lM e
   rw[hz] at e
   cases b with
   | true=>simp only[cond_true] at hz ⊢;rw[h.eval (by simp[g,Op.operands]) hz];exact e
   | false=>simp only[cond_false] at hz ⊢;rw[h.eval (by simp[g,Op.operands]) hz];exact e
  cases e
 ·split at e
  ·exact Zgu p e
  cases e
 ·rename_i t x g
  split at e
  ·rename_i y k
   rw[h.eval (by simp[g,Op.operands]) k]
   exact Zgu p e
  cases e
 ·rename_i t x f g
  split at e
  ·rename_i b i j
   rw[h.eval (by simp[g,Op.operands]) j]
   exact e
  rename_i j
  obtain⟨z,hz,_⟩:=lM e
  have m:s.vB x=true:=by
   unfold kV at hz
   cases hb':iE o.op && o.op.operands.toList.all s.vB with
   | false=>rw[hb'] at hz;cases hz
   | true=>rw[Bool.and_eq_true] at hb';exact List.all_eq_true.1 hb'.2 x (by simp[g,Op.operands])
  rw[h.eval (by simp[g,Op.operands]) (ZcF m)]
  exact h.pure' e
 ·rename_i t x g
  split at e
  ·rename_i b i j
   have n:=h.eval (by simp[g,Op.operands]) j
   rw[n]
   simp only
   obtain⟨z,hz,_⟩:=lM e
   rw[hz] at e
   have:ZbN P s' t b i=some z:=by
    unfold ZbN at hz ⊢
    split at hz
    ·rename_i C D E A B
     rw[A,u (by rw[g];rfl) b _ ⟨x,i,by simp[g,Op.operands],j⟩ B]
     exact hz
    cases hz
   rw[this];exact e
  cases e
 ·rename_i x g
  split at e
  ·rename_i b i j
   rw[h.eval (by simp[g,Op.operands]) j]
   exact e
  rename_i j
  obtain⟨z,hz,_⟩:=lM e
  have m:s.vB x=true:=by
   unfold kV at hz
   cases hb':iE o.op && o.op.operands.toList.all s.vB with
   | false=>rw[hb'] at hz;cases hz
   | true=>rw[Bool.and_eq_true] at hb';exact List.all_eq_true.1 hb'.2 x (by simp[g,Op.operands])
  rw[h.eval (by simp[g,Op.operands]) (ZcF m)]
  exact h.pure' e
 exact h.pure' e
structure WF (s:St):Prop where
 slp:∀ i b off,s.sl i=some (.p b off)→(s.bl b).isSome=true
 cel:∀ b t cs,s.bl b=some (t,cs)→∀ x,x∈cs→x.al s
theorem Inv.wf (h:Inv N S0 w0 s Φ L a w):WF s:=⟨h.mem.slp,fun b t c e x d=>(h.mem.cel b t c e x d).2⟩
theorem WF.evl (h:WF s){x:Operand}{y:AV}(c:s.eval x=some y):y.al s:=fun b d e=>by
 subst e
 cases x with
 | tmp t=>exact h.slp t b d c
 | const v=>simp[St.eval] at c
 | global g=>simp[St.eval] at c
 | func f=>simp[St.eval] at c
theorem WF.app0 (h:WF s)(d:Nat){x:AV}(g:x.al s):WF (s.app d (x,none)) :=
 ⟨fun i b c e=>by
  by_cases f:i=d
  ·subst f
   simp only[St.app,lY,Option.some.injEq] at e
   exact g b c e
  simp only[St.app,lD _ _ f] at e
  exact h.slp i b c e,h.cel⟩
theorem WF.appN (h:WF s){d:Nat}{t:TypeId}{cs:List AV}(k:∀ x,x∈cs→x.al s):WF (s.app d (.p d 0,some (t,cs))):=by
 have f:∀ {x:AV},x.al s→x.al (s.app d (.p d 0,some (t,cs))):=fun {x} hx b off e=>by
  by_cases c:b=d
  ·subst c;simp[St.app,lY]
  simp only[St.app,lD _ _ c];exact hx b off e
 refine⟨fun i b off e=>?_,fun b l g e x hx=>?_⟩
 ·by_cases c:i=d
  ·subst c
   simp only[St.app,lY,Option.some.injEq] at e
   injection e with c e2
   subst c
   simp[St.app,lY]
  simp only[St.app,lD _ _ c] at e
  exact f (x:=.p b off) (fun n j m=>by injection m with e2 _;rw[←e2];exact h.slp i b off e) b off rfl
 by_cases c:b=d
 ·subst c
  simp only[St.app,lY,Option.some.injEq,Prod.mk.injEq] at e
  rw[←e.2] at hx
  exact f (k x hx)
 simp only[St.app,lD _ _ c] at e
 exact f (h.cel b l g e x hx)
theorem Zh8 {x:AV}(h:kV P o s=some x):∃ y,x=.v y:=by
 unfold kV at h
 cases hb:iE o.op && o.op.operands.toList.all s.vB with
 | false=>rw[hb] at h;cases h
 | true =>
  rw[hb] at h
  simp only[cond_true] at h
  split at h
  ·injection h with h;exact⟨_,h.symm⟩
  cases h
theorem Zru (f:WF s){r:AV×NewB}(h:iA P ops o s=some r){d:Nat}(u:o.dst=some d):WF (s.app d r)∧(∀ q,r.2=some q→s.bl d=none):=by
 have same:∀ (x:AV),r=(x,none)→x.al s→WF (s.app d r)∧(∀ q,r.2=some q→s.bl d=none):=fun x e i=>by subst e;exact⟨f.app0 d i,fun q e=>by cases e⟩
 have g:noB (kV P o s)=some r→WF (s.app d r)∧(∀ q,r.2=some q→s.bl d=none):=fun h=>by
  obtain⟨x,i,e⟩:=lM h
  obtain⟨y,A⟩:=Zh8 i
  subst A
  exact same _ e (al_v y)
 have new:∀ {t:TypeId} {cs:List AV},ZaG s o.dst t cs=some r→(∀ x,x∈cs→x.al s)→WF (s.app d r)∧(∀ q,r.2=some q→s.bl d=none):=fun h n=>by
  obtain⟨k,l,e1,B,F⟩:=Zbb h
  rw[u] at l
  injection l with l
  subst l;subst e1
  exact⟨f.appN n,fun _ _=>B⟩
 unfold iA at h
 split at h
 ·cases h
 ·injection h with h
  exact same _ h.symm (al_v _)
 split at h
 ·obtain⟨y,j,e⟩:=lM h
  exact same y e (f.evl j)
 ·obtain⟨y,j,e⟩:=lM h
  exact same y e (f.evl j)
 ·split at h
  ·rename_i b m
   obtain⟨z,hz,e⟩:=lM h
   cases b with
   | true=>exact same z e (f.evl hz)
   | false=>exact same z e (f.evl hz)
  cases h
 ·split at h
  ·refine new h (fun x i=>?_)
   obtain⟨y,_,rfl⟩:=List.mem_map.1 i
   exact al_v y
  cases h
 ·split at h
  ·rename_i y j
   refine new h (fun z hz=>?_)
   cases y with
   | v y=>obtain⟨c,_,rfl⟩:=List.mem_map.1 hz;exact al_v c
   | p b off=>simp only[wZ,List.mem_singleton] at hz;subst hz;exact f.evl j
  cases h
 ·split at h
  ·rename_i b off m
   split at h
   ·split at h
    ·injection h with h
     exact same _ h.symm (fun c G C=>by injection C with e1 _;rw[←e1];exact f.evl m b off rfl)
    cases h
   cases h
  exact g h
 ·split at h
  ·obtain⟨z,hz,e⟩:=lM h
   refine same z e ?_
   unfold ZbN at hz
   split at hz
   ·rename_i e1 D cs H E
    cases ha:e1.agg with
    | true =>
     rw[ha] at hz
     simp only[cond_true] at hz
     cases hle:Nat.ble _ cs.length with
     | false=>rw[hle] at hz;cases hz
     | true =>
      rw[hle] at hz
      simp only[cond_true] at hz
      split at hz
      ·injection hz with hz;rw[←hz];exact al_v _
      cases hz
    | false =>
     rw[ha] at hz
     simp only[cond_false] at hz
     exact f.cel _ D cs E z (List.mem_of_getElem? hz)
   cases hz
  cases h
 ·split at h
  ·rename_i b off m
   injection h with h
   exact same _ h.symm (f.evl m)
  exact g h
 exact g h
def Zee:Op→Bool
 | .load _ _=>true
 | .indexAddr _ _ _=>true
 | .index _ _ _=>true
 | .binOp _ _ _ _ _=>true
 | .unOp _ _ _=>true
 | .slice _ _ _ _ _=>true
 | .convert _ _ _=>true
 | _=>false
def FV (P:Program) (ops:Array Oper) (Φ0:World→Prop) (o:Oper) (s:St) (r:AV×NewB):Prop :=
 iA P ops o s=some r∨∃ y,r=(.v y,none)∧Zee o.op=true∧s.wantB ops o=some true∧iE o.op=true∧o.op.operands.toList.all s.vB=true∧∀ w,Φ0 w→(execOp s.rho o).run P w=.ok (.value y) w
theorem FV.mono (h:iF ops o s s')(i:cls o.op=1→∀ b q,dV o s b→s.bl b=some q→s'.bl b=some q)(j:∀ d,o.dst=some d→s.bl d=none→s'.bl d=none){r:AV×NewB}(e:FV P ops Φ0 o s r):FV P ops Φ0 o s' r:=by
 rcases e with e|⟨y,k,l,m,f,g,n⟩
 ·exact Or.inl (Zpj h i j e)
 exact Or.inr ⟨y,k,l,h.want m,f,h.vB g,fun w c=>by rw[h.exec f g];exact n w c⟩
theorem FV.wf (b:WF s){r:AV×NewB}(h:FV P ops Φ0 o s r){d:Nat}(c:o.dst=some d):WF (s.app d r)∧(∀ q,r.2=some q→s.bl d=none):=by
 rcases h with h|⟨y,rfl,_⟩
 ·exact Zru b h c
 exact⟨b.app0 d (al_v y),fun q e=>by cases e⟩
theorem FV.yld (hi:Inv N S0 w0 s Φ L a w)(Q:∀ w,Φ w→Φ0 w){r:AV×NewB}(h:FV P ops Φ0 o s r){d:Nat}(b:o.dst=some d)(c:d<N):Yld N S0 w0 P ops o (s.app d r) Φ a w:=by
 rcases h with h|⟨y,rfl,_,e,f,g,i⟩
 ·exact Zh5 hi h b c
 exact⟨y,w,L,by rw[b];exact hi.app0 c (al_v y),Or.inl ⟨hi.want e,by rw[hi.exec f g];exact i w (Q w hi.box.self)⟩⟩
theorem Zh9 {r:AV×NewB}{y:Value}(h:iA P ops o s=some r)(hk:Zee o.op=true)(f:s.wantB ops o=some true)(g:o.op.operands.toList.all s.vB=true)(i:(execOp s.rho o).run P w=.ok (.value y) w):r=(.v y,none):=by
 have c:noB (kV P o s)=some r→r=(.v y,none):=fun h=>by
  obtain⟨x,hx',e⟩:=lM h
  unfold kV at hx'
  cases hb:iE o.op && o.op.operands.toList.all s.vB with
  | false=>rw[hb] at hx';cases hx'
  | true =>
   rw[hb] at hx'
   simp only[cond_true] at hx'
   split at hx'
   ·rename_i k d
    injection hx' with hx'
    have:=Zfi d w
    rw[i] at this
    injection this with h1 _
    injection h1 with h1
    rw[e,← hx',h1]
   cases hx'
 unfold iA at h
 rw[f] at h
 simp only at h
 split at h
 case h_7 t x ho =>
  split at h
  ·rename_i b j hx'
   have:=List.all_eq_true.1 g x (by simp[ho,Op.operands])
   unfold St.vB at this
   rw[hx'] at this
   cases this
  cases h
 case h_9=>exact c h
 all_goals (rename_i ho;rw[ho] at hk;cases hk)
theorem FV.uniq (f:∃ w,Φ0 w){r q:AV×NewB}(c:FV P ops Φ0 o s r)(d:FV P ops Φ0 o s q):r=q:=by
 obtain⟨w,b⟩:=f
 rcases c with c|⟨y,rfl,g,h,k,i,e⟩
 ·rcases d with d|⟨y,rfl,g,h,k,i,e⟩
  ·rw[c] at d;injection d
  exact Zh9 c g h i (e w b)
 rcases d with d|⟨t,rfl,l,m,n,p,j⟩
 ·exact (Zh9 d g h i (e w b)).symm
 have:=e w b
 rw[j w b] at this
 injection this with c _
 injection c with c
 rw[c]
inductive Strat (P:Program) (N:Nat) (S0:Nat→Prop) (w0:World) (ops:Array Oper) (Φ0:World→Prop) (fin:St→(World→Prop)→Prop):List Nat→St→(World→Prop)→Prop
 | done {s:St} {Φ:World→Prop} (h:fin s Φ):Strat P N S0 w0 ops Φ0 fin [] s Φ
 | flt {i:Nat} {l:List Nat} {s:St} {Φ:World→Prop} {r:AV×NewB} {d:Nat} (h:FV P ops Φ0 (opAt ops i) s r) (hd:(opAt ops i).dst=some d) (hN:d<N) (K:Strat P N S0 w0 ops Φ0 fin l (s.app d r) Φ):Strat P N S0 w0 ops Φ0 fin (i :: l) s Φ
 | does {i:Nat} {l:List Nat} {s:St} {Φ:World→Prop} {d:Nat} {α:Type} (hα:Nonempty α) (sh:α→Value) (φ:α→World→Prop) (hm:cls (opAt ops i).op=2) (hw:s.wantB ops (opAt ops i)=some true) (hn:iE (opAt ops i).op=true)
  (hv:(opAt ops i).op.operands.toList.all s.vB=true) (hd:(opAt ops i).dst=some d) (hN:d<N) (hdo:∀ w,Fr S0 w0 w→Φ w→Does P (opAt ops i) s.rho w (DoR sh φ w))
  (K:∀ x,Strat P N S0 w0 ops Φ0 fin l (s.app d (.v (sh x),none)) (fun w=>Φ w∧φ x w)):Strat P N S0 w0 ops Φ0 fin (i :: l) s Φ
 | sto {i:Nat} {l:List Nat} {s s':St} {Φ:World→Prop} (hm:cls (opAt ops i).op=3) (h:dU P ops (opAt ops i) s=some s') (hd:(opAt ops i).dst=none) (K:Strat P N S0 w0 ops Φ0 fin l s' Φ):Strat P N S0 w0 ops Φ0 fin (i :: l) s Φ
theorem ZjG (h:dU P ops o s=some s'):s'=s∨∃ b q c,s.bl b=some q∧s'={ s with bl:=upd s.bl b c }∧bT o s b:=by
 unfold dU at h
 split at h
 ·cases h
 ·injection h with h;exact Or.inl h.symm
 split at h
 ·rename_i t x y d
  split at h
  ·rename_i b off z e f i j
   split at h
   ·rename_i k cs g
    cases hc:(Nat.beq (wZ z).length e.size && (Nat.ble (off+(wZ z).length) cs.length && (wZ z).all gY)) with
    | false=>rw[hc] at h;cases h
    | true =>
     rw[hc] at h
     simp only[cond_true,Option.some.injEq] at h
     exact Or.inr ⟨b,_,_,g,h.symm,x,off,by rw[d];rfl,f⟩
   cases h
  cases h
 cases h
theorem Zrv (l:WF s)(h:dU P ops o s=some s'):WF s':=by
 have f:∀ {b q' c:Nat} {z:TypeId×List AV},(s.bl c).isSome=true→((upd s.bl b z) c).isSome=true:=fun {b q' c z} h'=>by
  by_cases e:c=b
  ·rw[e,lY];rfl
  rw[lD _ _ e];exact h'
 unfold dU at h
 split at h
 ·cases h
 ·injection h with h;subst h;exact l
 split at h
 ·rename_i t x y E
  split at h
  ·rename_i b off z e F A G
   split at h
   ·rename_i B cs C
    cases hc:(Nat.beq (wZ z).length e.size && (Nat.ble (off+(wZ z).length) cs.length && (wZ z).all gY)) with
    | false=>rw[hc] at h;cases h
    | true =>
     rw[hc] at h
     simp only[cond_true,Option.some.injEq] at h
     subst h
     refine⟨fun i c g m=>f (q':=0) (l.slp i c g m),fun c D n j q k=>?_⟩
     have r:q.al s:=by
      by_cases u:c=b
      ·subst u
       simp only[lY,Option.some.injEq,Prod.mk.injEq] at j
       rw[←j.2] at k
       rcases Zgr k with h'|h'
       ·exact l.cel c B cs C q h'
       cases z with
       | v y=>obtain⟨H,_,rfl⟩:=List.mem_map.1 h';exact al_v _
       | p b' g=>simp only[wZ,List.mem_singleton] at h';subst h';exact l.evl A
      simp only[lD _ _ u] at j
      exact l.cel c D n j q k
     exact fun d g m=>f (q':=0) (r d g m)
   cases h
  cases h
 cases h
theorem Zde (h:iF ops o s s')(l:∀ b q,dV o s b→s.bl b=some q→s'.bl b=some q){c:St}(e:dU P ops o s=some c):(c=s∧dU P ops o s'=some s')∨∃ b q g,s.bl b=some q∧bT o s b∧c={ s with bl:=upd s.bl b g }∧dU P ops o s'=some { s' with bl:=upd s'.bl b g }:=by
 unfold dU at e ⊢
 split at e
 ·cases e
 ·rename_i d
  injection e with e
  rw[h.want d]
  exact Or.inl ⟨e.symm,rfl⟩
 rename_i d
 rw[h.want d]
 simp only
 split at e
 ·rename_i t x y f
  split at e
  ·rename_i b off z te i m n
   rw[h.eval (by simp[f,Op.operands]) i,h.eval (by simp[f,Op.operands]) m,n]
   simp only
   split at e
   ·rename_i p cs j
    have k:bT o s b:=⟨x,off,by rw[f];rfl,i⟩
    rw[l b _ k.leads j]
    simp only
    cases hc:(Nat.beq (wZ z).length te.size && (Nat.ble (off+(wZ z).length) cs.length && (wZ z).all gY)) with
    | false=>rw[hc] at e;cases e
    | true =>
     rw[hc] at e
     simp only[cond_true,Option.some.injEq] at e ⊢
     exact Or.inr ⟨b,_,_,j,k,e.symm,rfl⟩
   cases e
  cases e
 cases e
theorem ZfF (s:St){d e:Nat}(h:d≠e)(r q:AV×NewB):(s.app d r).app e q=(s.app e q).app d r:=by
 obtain⟨x,nx⟩:=r
 obtain⟨y,ny⟩:=q
 cases nx<;>cases ny<;>simp[St.app,Zdd _ _ _ h.symm]
theorem Zia (s:St){d t:Nat}(h:t≠d)(r:AV×NewB):(s.app d r).sl t=s.sl t:=lD _ _ h
theorem cS (s:St){d b:Nat}(h:b≠d)(r:AV×NewB):(s.app d r).bl b=s.bl b:=by
 obtain⟨x,nx⟩:=r
 cases nx with
 | none=>rfl
 | some q=>exact lD _ _ h
theorem ZaW {d:Nat}(h:d ∉ o.looksAt ops)(s:St)(r:AV×NewB):iF ops o s (s.app d r):=fun t b x c=>by
 rw[Zia s (fun e=>h (by rw[←e];exact b))];exact c
theorem dL {d:Nat}(h:d ∉ o.looksAt ops)(s:St)(r:AV×NewB):iF ops o (s.app d r) s:=fun t c x b=>by
 rw[Zia s (fun e=>h (by rw[←e];exact c))] at b;exact b
theorem Zfk {d b:Nat}(h:d ∉ o.looksAt ops){r:AV×NewB}(g:dV o (s.app d r) b):dV o s b:=by
 obtain⟨x,c,f,e⟩:=g
 exact⟨x,c,f,(dL h s r).eval f e⟩
theorem Strat.swap {fin:St→(World→Prop)→Prop}{x j:Nat}{l:List Nat}(V:∃ w,Φ0 w)(T:WF s)(X:(opAt ops x).apart ops (opAt ops j)=true)(k:aA (opAt ops x).op (opAt ops j).op=true∨(lsB (opAt ops x).op (opAt ops j).op=true∧Far (opAt ops x) (opAt ops j) s))(h:Strat P N S0 w0 ops Φ0 fin (x :: j :: l) s Φ):Strat P N S0 w0 ops Φ0 fin (j :: x :: l) s Φ:=by
 obtain⟨a1,Y,W⟩:=Oper.apart_spec X
 cases h with
 | flt hx hdx hNx K =>
  rename_i rx i
  have O:=hx.wf T hdx
  have J:i ∉ (opAt ops j).looksAt ops:=a1 i hdx
  cases K with
  | flt hj hdj hNj K =>
   rename_i rj c
   have M:c ∉ (opAt ops x).looksAt ops:=W c hdj
   have f:i≠c:=fun e=>Y i hdx (by rw[hdj,e])
   have p:FV P ops Φ0 (opAt ops j) s rj:=hj.mono (dL J s rx) (fun _ b q H hq=>by
    have hal:(s.bl b).isSome=true:=by
     obtain⟨y,B,_,e⟩:=Zfk J H
     exact T.evl e b B rfl
    by_cases e:b=i
    ·subst e
     obtain⟨R,nb⟩:=rx
     cases nb with
     | none=>exact hq
     | some q'=>rw[O.2 q' rfl] at hal;cases hal
    ·rw[cS s e] at hq;exact hq)
    (fun d C g=>by
     rw[hdj] at C
     injection C with C
     subst C
     rw[cS s (Ne.symm f)] at g;exact g)
   have m:=p.wf T hdj
   have Z:FV P ops Φ0 (opAt ops x) (s.app c rj) rx:=hx.mono (ZaW M s rj) (fun _ b q _ hq=>by
    by_cases e:b=c
    ·subst e
     obtain⟨R,nb⟩:=rj
     cases nb with
     | none=>exact hq
     | some q'=>rw[m.2 q' rfl] at hq;cases hq
    ·rw[cS s e];exact hq)
    (fun d C g=>by
     rw[hdx] at C
     injection C with C
     subst C
     rw[cS s f];exact g)
   rw[ZfF s f] at K
   exact .flt p hdj hNj (.flt Z hdx hNx K)
  | does hα sh φ hmj hw hn hv hdj hNj hdo K =>
   rename_i c α
   have M:c ∉ (opAt ops x).looksAt ops:=W c hdj
   have f:i≠c:=fun e=>Y i hdx (by rw[hdj,e])
   have G:=dL J s rx
   refine .does hα sh φ hmj (G.want hw) hn (G.vB hv) hdj hNj (fun w hf Q=>?_) (fun z=>?_)
   ·have:=hdo w hf Q
    unfold Does at this ⊢
    rw[G.exec hn hv];exact this
   refine .flt (r:=rx) (hx.mono (ZaW M s (.v (sh z),none)) (fun _ b q _ hq=>hq) (fun d _ g=>g)) hdx hNx ?_
   have:=K z
   rw[ZfF s f] at this
   exact this
  | sto hmj hsj hdj K =>
   rename_i s2
   have G:=dL J s rx
   have S:∀ b,bT (opAt ops j) (s.app i rx) b→cls (opAt ops x).op=1→∀ b0,dV (opAt ops x) s b0→b0≠b:=fun b hb e b0 g=>by
    rcases k with k|⟨_,k⟩
    ·simp[aA,e,hmj] at k
    obtain⟨y,B,hy,e'⟩:=hb
    refine k b0 b (g.addr e) ⟨y,B,hy,G.eval ?_ e'⟩
    cases ho:(opAt ops j).op with
    | load t z=>rw[ho] at hy;injection hy with hy;simp[Op.operands,hy]
    | store t z u=>rw[ho] at hy;injection hy with hy;simp[Op.operands,hy]
    | _=>rw[ho] at hy;cases hy
   have A:∀ b q,dV (opAt ops j) (s.app i rx) b→(s.app i rx).bl b=some q→s.bl b=some q:=fun b q H hq=>by
    have hal:(s.bl b).isSome=true:=by
     obtain⟨y,B,_,e⟩:=Zfk J H
     exact T.evl e b B rfl
    by_cases e:b=i
    ·subst e
     obtain⟨R,nb⟩:=rx
     cases nb with
     | none=>exact hq
     | some q'=>rw[O.2 q' rfl] at hal;cases hal
    rw[cS s e] at hq;exact hq
   rcases Zde G A hsj with ⟨n,D⟩|⟨b,q,q',hq,H,n,D⟩
   ·subst n
    exact .sto hmj D hdj (.flt hx hdx hNx K)
   subst n
   have hsb:=A b q H.leads hq
   refine .sto hmj D hdj (.flt (FV.mono (s:=s) (s':={ s with bl:=upd s.bl b q' }) (fun t _ x hx=>hx) (fun e b0 q0 I E=>by show upd s.bl b q' b0=some q0;rw[lD _ _ (S b H e b0 I)];exact E) (fun d C g=>?_) hx) hdx hNx ?_)
   ·show upd s.bl b q' d=none
    have:d≠b:=fun e=>by subst e;rw[g] at hsb;cases hsb
    rw[lD _ _ this];exact g
   have:({ s with bl:=upd s.bl b q' }:St).app i rx={ s.app i rx with bl:=upd (s.app i rx).bl b q' }:=by
    obtain⟨R,nb⟩:=rx
    cases nb with
    | none=>rfl
    | some z =>
     have f:b≠i:=fun e=>by
      subst e
      rw[O.2 z rfl] at hsb;cases hsb
     simp only[St.app]
     rw[Zdd _ _ _ f.symm]
   rw[this];exact K
 | sto hmx hsx hdx K =>
  rename_i F
  cases K with
  | flt hj hdj hNj K =>
   rename_i rj c
   have S:∀ b,bT (opAt ops x) s b→cls (opAt ops j).op=1→∀ b0,dV (opAt ops j) s b0→b0≠b:=fun b hb e b0 g=>by
    rcases k with k|⟨_,k⟩
    ·simp[aA,e,hmx] at k
    exact fun e'=>k b b0 hb (g.addr e) e'.symm
   have M:c ∉ (opAt ops x).looksAt ops:=W c hdj
   rcases ZjG hsx with n|⟨b,q,q',hq,n,H⟩
   ·subst n
    have m:=hj.wf T hdj
    have A:∀ b q,dV (opAt ops x) F b→F.bl b=some q→(F.app c rj).bl b=some q:=fun b q _ hq=>by
     by_cases e:b=c
     ·subst e
      obtain⟨R,nb⟩:=rj
      cases nb with
      | none=>exact hq
      | some q'=>rw[m.2 q' rfl] at hq;cases hq
     rw[cS F e];exact hq
    rcases Zde (ZaW M F rj) A hsx with ⟨_,D⟩|⟨b,q,q',hq,H,n,D⟩
    ·exact .flt hj hdj hNj (.sto hmx D hdx K)
    refine .flt hj hdj hNj (.sto hmx D hdx ?_)
    have U:upd F.bl b q'=F.bl:=(congrArg St.bl n).symm
    have f:∀ z,rj.2=some z→b≠c:=fun z hz e=>by
     subst e
     rw[m.2 z hz] at hq;cases hq
    have:({ F.app c rj with bl:=upd (F.app c rj).bl b q' }:St)=F.app c rj:=by
     obtain⟨R,nb⟩:=rj
     cases nb with
     | none=>simp only[St.app];rw[U]
     | some z=>simp only[St.app];rw[Zdd _ _ _ (f z rfl),U]
    rw[this];exact K
   have p:FV P ops Φ0 (opAt ops j) s rj:=hj.mono (fun t _ x hx=>by rw[n] at hx;exact hx) (fun e b0 q0 I E=>by
    have a0:dV (opAt ops j) s b0:=by rw[n] at I;exact I
    rw[n] at E
    simp only[lD _ _ (S b H e b0 a0)] at E;exact E) (fun d C g=>by
    rw[n] at g
    have:d≠b:=fun e=>by subst e;simp[lY] at g
    simp only[lD _ _ this] at g;exact g)
   have m:=p.wf T hdj
   have A:∀ b q,dV (opAt ops x) s b→s.bl b=some q→(s.app c rj).bl b=some q:=fun b q _ hq=>by
    by_cases e:b=c
    ·subst e
     obtain⟨R,nb⟩:=rj
     cases nb with
     | none=>exact hq
     | some q'=>rw[m.2 q' rfl] at hq;cases hq
    rw[cS s e];exact hq
   rcases Zde (ZaW M s rj) A hsx with ⟨U,D⟩|⟨b2,q2,q3,hq2,e0,U,D⟩
   ·refine .flt p hdj hNj (.sto hmx D hdx ?_)
    rw[U] at K;exact K
   refine .flt p hdj hNj (.sto hmx D hdx ?_)
   have f:∀ z,rj.2=some z→b2≠c:=fun z hz e=>by
    subst e
    rw[m.2 z hz] at hq2;cases hq2
   have:({ s.app c rj with bl:=upd (s.app c rj).bl b2 q3 }:St)=F.app c rj:=by
    rw[U]
    obtain⟨R,nb⟩:=rj
    cases nb with
    | none=>rfl
    | some z=>simp only[St.app];rw[Zdd _ _ _ (f z rfl)]
   rw[this];exact K
  | does hα sh φ hmj _ _ _ _ _ _ _=>simp[aA,lsB,hmx,hmj] at k
  | sto hmj _ _ _=>simp[aA,lsB,hmx,hmj] at k
 | does hα sh φ hmx hw hn hv hdx hNx hdo K =>
  rename_i i α
  have J:i ∉ (opAt ops j).looksAt ops:=a1 i hdx
  obtain⟨z0⟩:=hα
  have Kj:∀ z,∃ rj c,FV P ops Φ0 (opAt ops j) s rj∧(opAt ops j).dst=some c∧c<N∧Strat P N S0 w0 ops Φ0 fin l ((s.app i (.v (sh z),none)).app c rj) (fun w=>Φ w∧φ z w):=fun z=>by
   have K1:=K z
   cases K1 with
   | flt hj hdj hNj K=>exact⟨_,_,hj.mono (dL J s (.v (sh z),none)) (fun _ b q _ hq=>hq) (fun d _ g=>g),hdj,hNj,K⟩
   | does hα sh' φ' hmj _ _ _ _ _ _ _=>simp[aA,lsB,hmx,hmj] at k
   | sto hmj _ _ _=>simp[aA,lsB,hmx,hmj] at k
  obtain⟨rj,c,hj,hdj,hNj,_⟩:=Kj z0
  have M:c ∉ (opAt ops x).looksAt ops:=W c hdj
  have f:i≠c:=fun e=>Y i hdx (by rw[hdj,e])
  have G:=ZaW M s rj
  refine .flt hj hdj hNj (.does ⟨z0⟩ sh φ hmx (G.want hw) hn (G.vB hv) hdx hNx (fun w hf Q=>?_) (fun z=>?_))
  ·have:=hdo w hf Q
   unfold Does at this ⊢
   rw[G.exec hn hv];exact this
  have K1:=K z
  cases K1 with
  | flt hj2 hdj2 hNj2 K2 =>
   rename_i rj2 c0
   have d0:FV P ops Φ0 (opAt ops j) s rj2:=hj2.mono (dL J s (.v (sh z),none)) (fun _ b q _ hq=>hq) (fun d _ g=>g)
   have n:c0=c:=by rw[hdj] at hdj2;injection hdj2 with e;exact e.symm
   subst n
   rw[FV.uniq V hj d0]
   rw[ZfF s f] at K2
   exact K2
  | does _ _ _ hmj _ _ _ _ _ _ _=>simp[aA,lsB,hmx,hmj] at k
  | sto hmj _ _ _=>simp[aA,lsB,hmx,hmj] at k
end
section
variable {N:Nat} {S0:Nat→Prop} {w0:World} {s s':St} {Φ Ψ Φ0:World→Prop} {L:Nat→Nat} {a:Act} {w:World} {P:Program} {ops:Array Oper} {Q:Exit→Act→World→Prop} {o:Oper} {fin:St→(World→Prop)→Prop}
def Zgv (ops:Array Oper) (t:Nat):Nat:=ops.toList.findIdx fun o=>match o.dst with | some d=>Nat.beq d t | none=>false
def srcT:Op→Option Nat
 | .fieldAddr _ (.tmp u) _=>some u
 | .nilCheck (.tmp u)=>some u
 | .move (.tmp u)=>some u
 | _=>none
def pmF (ops:Array Oper) (s0:St):Nat→Nat→Option Nat
 | 0,_=>none
 | f + 1,t=>bif Nat.blt (Zgv ops t) ops.size then (match (opAt ops (Zgv ops t)).op with | .alloc _=>some t | .box _ _=>some t | o=>match srcT o with | some u=>pmF ops s0 f u | none=>none)
   else (match s0.sl t with | some (.p b _)=>some b | _=>none)
def BI (ops:Array Oper) (s0 s:St):Prop:=∀ f t b',pmF ops s0 f t=some b'→∀ b off,s.sl t=some (.p b off)→b=b'
def Zce (ops:Array Oper):Bool:=(List.range ops.size).all fun i=>match (opAt ops i).dst with | some d=>Nat.beq (Zgv ops d) i | none=>true
def Zgw (ops:Array Oper) (sl:SlL):Bool:=sl.all fun q=>match q.2 with | .p _ _ => !(Nat.blt (Zgv ops q.1) ops.size) | _=>true
theorem BI.init {c:SlL}{d:BlL}(h:Zgw ops c=true):BI ops (ofL c d) (ofL c d):=by
 intro f t j hp b g e
 have h1:=List.all_eq_true.1 h _ (iK (i:=t) e)
 simp only at h1
 cases f with
 | zero=>cases hp
 | succ f =>
  unfold pmF at hp
  cases hb:Nat.blt (Zgv ops t) ops.size with
  | true=>rw[hb] at h1;cases h1
  | false =>
   rw[hb] at hp
   simp only[cond_false,e,Option.some.injEq] at hp
   exact hp
theorem ZnK {r:AV×NewB}(h:iA P ops o s=some r){u b off:Nat}(ho:srcT o.op=some u)(hr:r.1=.p b off):∃ g,s.sl u=some (.p b g):=by
 have c:∀ {x:Option AV},x=kV P o s→noB x=some r→False:=fun e h=>by
  obtain⟨x,i,m⟩:=lM h
  rw[e] at i
  obtain⟨y,n⟩:=Zh8 i
  subst n;subst m;cases hr
 unfold srcT at ho
 split at ho
 ·rename_i t l k d
  injection ho with ho
  subst ho
  unfold iA at h
  rw[d] at h
  simp only at h
  split at h
  ·cases h
  ·injection h with h;subst h;cases hr
  split at h
  ·rename_i q f j
   split at h
   ·split at h
    ·injection h with h
     subst h
     injection hr with e1 _
     subst e1
     exact⟨f,j⟩
    cases h
   cases h
  exact (c rfl h).elim
 ·rename_i l d
  injection ho with ho
  subst ho
  unfold iA at h
  rw[d] at h
  simp only at h
  split at h
  ·cases h
  ·injection h with h;subst h;cases hr
  split at h
  ·rename_i q f j
   injection h with h
   subst h
   injection hr with e1 _
   subst e1
   exact⟨f,j⟩
  exact (c rfl h).elim
 ·rename_i l d
  injection ho with ho
  subst ho
  unfold iA at h
  rw[d] at h
  simp only at h
  split at h
  ·cases h
  ·injection h with h;subst h;cases hr
  obtain⟨x,i,e⟩:=lM h
  subst e
  simp only at hr
  subst hr
  exact⟨off,i⟩
 cases ho
def Zmw:Op→Bool
 | .alloc _=>true
 | .box _ _=>true
 | _=>false
theorem Zqy {r:AV×NewB}(h:iA P ops o s=some r)(ho:Zmw o.op=true){b off d:Nat}(hr:r.1=.p b off)(g:o.dst=some d):b=d:=by
 have c:∀ {t:TypeId} {cs:List AV},ZaG s o.dst t cs=some r→b=d:=fun h=>by
  obtain⟨k,f,e,_⟩:=Zbb h
  rw[g] at f
  injection f with f
  subst f;subst e
  injection hr with e1 _
  exact e1.symm
 unfold iA at h
 split at h
 ·cases h
 ·injection h with h;subst h;cases hr
 cases hop:o.op with
 | alloc t =>
  rw[hop] at h
  simp only at h
  split at h
  ·exact c h
  cases h
 | box t x =>
  rw[hop] at h
  simp only at h
  split at h
  ·exact c h
  cases h
 | _=>rw[hop] at ho;cases ho
theorem FV.new {r:AV×NewB}(h:FV P ops Φ0 o s r)(c:Zmw o.op=true){b off d:Nat}(hr:r.1=.p b off)(e:o.dst=some d):b=d:=by
 rcases h with h|⟨y,rfl,_⟩
 ·exact Zqy h c hr e
 cases hr
theorem BI.app {l:St}{i d:Nat}(h:BI ops l s)(g:Zce ops=true)(hi:i<ops.size)(v:(opAt ops i).dst=some d){r:AV×NewB}(m:∀ b off,r.1=.p b off→Zmw (opAt ops i).op=true→b=d)(x:∀ b off,r.1=.p b off→∀ u,srcT (opAt ops i).op=some u→∃ off',s.sl u=some (.p b off')):BI ops l (s.app d r):=by
 intro f t n hp b off c
 by_cases e:t=d
 ·subst e
  simp only[St.app,lY,Option.some.injEq] at c
  have q:=List.all_eq_true.1 g i (List.mem_range.2 hi)
  rw[v] at q
  have y:=Nat.eq_of_beq_eq_true q
  cases f with
  | zero=>cases hp
  | succ f =>
   unfold pmF at hp
   rw[y] at hp
   have:Nat.blt i ops.size=true:=by rw[Nat.blt_eq];exact hi
   rw[this] at hp
   simp only[cond_true] at hp
   split at hp
   ·rename_i j
    injection hp with hp
    rw[←hp];exact m b off c (by rw[j];rfl)
   ·rename_i j
    injection hp with hp
    rw[←hp];exact m b off c (by rw[j];rfl)
   split at hp
   ·rename_i u g
    obtain⟨off',k⟩:=x b off c u g
    exact h f u n hp b off' k
   cases hp
 simp only[St.app,lD _ _ e] at c
 exact h f t n hp b off c
theorem FV.field {r:AV×NewB}(h:FV P ops Φ0 o s r){b off:Nat}(hr:r.1=.p b off){u:Nat}(d:srcT o.op=some u):∃ c,s.sl u=some (.p b c):=by
 rcases h with h|⟨y,rfl,_⟩
 ·exact ZnK h d hr
 cases hr
theorem ZnL (h:dU P ops o s=some s'):s'.sl=s.sl:=by
 rcases ZjG h with e|⟨b,q,c,_,e,_⟩
 ·rw[e]
 rw[e]
def farB (ops:Array Oper) (s0:St) (x j:Oper):Bool :=
 match ZjF x.op,ZjF j.op with
 | some (.tmp t),some (.tmp u)=>match pmF ops s0 4 t,pmF ops s0 4 u with
   | some b,some c => !(Nat.beq b c)
   | _,_=>false
 | _,_=>false
theorem Zpk {g:St}{x j:Oper}(h:farB ops g x j=true)(i:BI ops g s):Far x j s:=by
 intro b c ⟨y,off,hy,ey⟩ ⟨z,off',hz,ez⟩
 unfold farB at h
 rw[hy,hz] at h
 split at h
 ·rename_i t u d f
  injection d with d
  injection f with f
  subst d;subst f
  split at h
  ·rename_i k l m n
   have p:=i 4 t k m b off ey
   have q:=i 4 u l n c off' ez
   intro e
   rw[p,q] at e
   rw[e] at h
   simp at h
  cases h
 cases h
theorem Strat.under {g:St}{x:Nat}{l i:List Nat}(j:Zce ops=true)(k:x<ops.size)(c:WF s)(d:BI ops g s)(H:∀ s Φ,WF s→BI ops g s→Strat P N S0 w0 ops Φ0 fin l s Φ→Strat P N S0 w0 ops Φ0 fin i s Φ)(h:Strat P N S0 w0 ops Φ0 fin (x :: l) s Φ):Strat P N S0 w0 ops Φ0 fin (x :: i) s Φ:=by
 cases h with
 | flt hf hd hN K=>exact .flt hf hd hN (H _ _ (hf.wf c hd).1 (d.app j k hd (fun b off hr e=>hf.new e hr hd) (fun b off hr u e=>hf.field hr e)) K)
 | does hα sh φ hm hw hn hv hd hN hdo K=>exact .does hα sh φ hm hw hn hv hd hN hdo (fun z=>H _ _ (c.app0 _ (al_v _)) (d.app j k hd (fun b off hr=>by cases hr) (fun b off hr=>by cases hr)) (K z))
 | sto hm h hd K=>exact .sto hm h hd (H _ _ (Zrv c h) (fun f t n p b off m=>d f t n p b off (by rw[ZnL h] at m;exact m)) K)
theorem Strat.front {i:St}(k:Zce ops=true)(e:∃ w,Φ0 w){j:Nat}:∀ (c d:List Nat) (s:St) (Φ:World→Prop),WF s→BI ops i s→(∀ x,x∈c→x<ops.size∧(opAt ops x).apart ops (opAt ops j)=true∧(aA (opAt ops x).op (opAt ops j).op=true∨(lsB (opAt ops x).op (opAt ops j).op=true∧farB ops i (opAt ops x) (opAt ops j)=true))) →
 Strat P N S0 w0 ops Φ0 fin (c ++ j :: d) s Φ→Strat P N S0 w0 ops Φ0 fin (j :: (c ++ d)) s Φ
 | [],d,s,Φ,_,_,_,h=>h
 | x :: c,d,s,Φ,hW,hB,hx,h=>by
  have b:=hx x List.mem_cons_self
  have l:Strat P N S0 w0 ops Φ0 fin (x :: j :: (c ++ d)) s Φ:=Strat.under k b.1 hW hB (fun s Φ f g m=>Strat.front k e c d s Φ f g (fun y n=>hx y (List.mem_cons_of_mem _ n)) m) h
  exact Strat.swap e hW b.2.1 (b.2.2.imp id (fun h=>⟨h.1,Zpk h.2 hB⟩)) l
theorem ZbO {i:Nat}(h:i<ops.size):ops[i]? = some (opAt ops i):=by simp[opAt,h]
theorem Strat.exec {m:St}{j:Nat}{l:List Nat}(n:Zce ops=true)(e:BI ops m s)(g:j<ops.size)(hi:Inv N S0 w0 s Φ L a w)(R:∀ w,Φ w→Φ0 w)(h:Strat P N S0 w0 ops Φ0 fin (j :: l) s Φ){K:Act→World→Prop}(i:∀ s' Φ' L a w,BI ops m s'→(∀ w,Φ' w→Φ0 w)→Inv N S0 w0 s' Φ' L a w→Strat P N S0 w0 ops Φ0 fin l s' Φ'→K a w):wpOp P ops Q j K a w:=by
 unfold wpOp
 rw[ZbO g]
 simp only
 have d:if Region.wanted (opAt ops j) (yielded ops a.tmps)=true then (opAt ops j).wp P a w K Q else K (a.put (opAt ops j).dst undef) w:=by
  cases h with
  | flt hx hd hN K'=>exact (hx.yld hi R hd hN).step (fun L a w c=>i _ _ L a w (e.app n g hd (fun b off hr k=>hx.new k hr hd) (fun b off hr u k=>hx.field hr k)) R c K')
  | does hα sh φ hm hw hn hv hd hN hdo K'=>exact ZjE hi hw hn hv hd hN hdo (fun z L a w c=>i _ _ L a w (e.app n g hd (fun b off hr=>by cases hr) (fun b off hr=>by cases hr)) (fun w h=>R w h.1) c (K' z))
  | sto hm h hd K'=>exact Zh6 hi h hd (fun L a w c=>i _ _ L a w (fun f t q r b off p=>e f t q r b off (by rw[ZnL h] at p;exact p)) R c K')
 by_cases hw:Region.wanted (opAt ops j) (yielded ops a.tmps)=true
 ·rw[if_pos hw] at d ⊢;exact Or.inl d
 rw[if_neg hw] at d ⊢;exact d
def un (n:Nat) (listed:Array Bool):List Nat:=(List.range n).filter fun i => !listed.getD i true
theorem ZcJ {n i:Nat}{b:Array Bool}:i∈un n b↔i<n∧b.getD i true=false:=by
 simp[un,List.mem_filter]
theorem Zef (n:Nat)(b:Array Bool):(un n b).Pairwise (· < ·):=List.Pairwise.filter _ List.pairwise_lt_range
theorem ZkU {b:Array Bool}{j:Nat}(h:b.getD j true=false):(b.setIfInBounds j true).getD j true=true:=by
 have c:j<b.size:=by
  rcases Nat.lt_or_ge j b.size with d|d
  ·exact d
  simp[Array.getElem?_eq_none d] at h
 simp[c]
theorem Zrw {n j:Nat}{b:Array Bool}{f l2:List Nat}(h:un n b=f ++ j :: l2):un n (b.setIfInBounds j true)=f ++ l2:=by
 have k:b.getD j true=false:=(ZcJ.1 (by rw[h];simp:j∈un n b)).2
 have e:un n (b.setIfInBounds j true)=(un n b).filter (fun i=>i != j):=by
  unfold un
  rw[List.filter_filter]
  refine List.filter_congr (fun i _=>?_)
  by_cases c:i=j
  ·subst c;rw[ZkU k];simp
  rw[getD_set_ne true (Ne.symm c)];simp[c]
 rw[e,h,List.filter_append,List.filter_cons]
 have g:=Zef n b
 rw[h] at g
 obtain⟨_,l,m⟩:=List.pairwise_append.1 g
 have p:=(List.pairwise_cons.1 l).1
 rw[List.filter_eq_self.2 (fun x d=>by have:=m x d j List.mem_cons_self;simp;omega),List.filter_eq_self.2 (fun x d=>by have:=p x d;simp;omega)]
 simp
def ZeQ (ops:Array Oper):Bool:=(List.range ops.size).all fun j=>match ops[j]? with | some o=>o.after.all (fun e => !Region.binds .any e || Nat.blt e.on j) | none=>true
def Zi3 (R:Nat→Nat→Bool) (ops:Array Oper) (s0:St) (n:Nat):Bool:=(List.range n).all fun j=>(List.range j).all fun x=>R j x || ((opAt ops x).apart ops (opAt ops j) && (aA (opAt ops x).op (opAt ops j).op || (lsB (opAt ops x).op (opAt ops j).op && farB ops s0 (opAt ops x) (opAt ops j))))
def Zcf (ops:Array Oper) (n:Nat):Array Bool:=(List.replicate n true ++ List.replicate (ops.size-n) false).toArray
def Zi4 (ops:Array Oper) (R:Nat→Nat→Bool):Prop:=∀ (listed:Array Bool),aZ .any ops listed→∀ j x,R j x=true→(∀ ot,ops[j]? = some ot→∀ e∈ot.after,Region.binds .any e=true→listed.getD e.on false=true)→listed.getD x false=true
theorem ZkV (ops:Array Oper):Zi4 ops (Zc4 .any ops 4):=fun _ c j _ h b=>ZdZ c 4 j h b
def upM (masks:List Nat) (l:List Edge) (m:Nat):Nat:=l.foldl (fun m e=>bif Region.binds .any e then m ||| (masks.getD e.on 0 ||| 1 <<< e.on) else m) m
def ZpY (ops:Array Oper) (masks:List Nat):Bool:=(List.range ops.size).all fun j=>Nat.beq (masks.getD j 0 ||| upM masks (opAt ops j).after.toList 0) (upM masks (opAt ops j).after.toList 0)
theorem ZjH {b:List Nat}{x:Nat}:∀ (l:List Edge) (m:Nat),(upM b l m).testBit x=true→m.testBit x=true∨∃ e∈l,Region.binds .any e=true∧(x=e.on∨(b.getD e.on 0).testBit x=true)
 | [],m,h=>Or.inl h
 | e :: l,m,h=>by
  have d:(upM b l (bif Region.binds .any e then m ||| (b.getD e.on 0 ||| 1 <<< e.on) else m)).testBit x=true:=h
  rcases ZjH l _ d with c|⟨f,g,c⟩
  ·cases hb:Region.binds .any e with
   | false=>rw[hb] at c;exact Or.inl c
   | true =>
    rw[hb] at c
    simp only[cond_true,Nat.testBit_or,Bool.or_eq_true] at c
    rcases c with c|c|c
    ·exact Or.inl c
    ·exact Or.inr ⟨e,List.mem_cons_self,hb,Or.inr c⟩
    refine Or.inr ⟨e,List.mem_cons_self,hb,Or.inl ?_⟩
    rw[Nat.one_shiftLeft,Nat.testBit_two_pow] at c
    have:=of_decide_eq_true c
    omega
  exact Or.inr ⟨f,List.mem_cons_of_mem _ g,c⟩
theorem Zmx {b:List Nat}(c:ZeQ ops=true)(v:Nat.ble b.length ops.size=true)(h:ZpY ops b=true):Zi4 ops (fun j x=>(b.getD j 0).testBit x):=by
 intro l y j
 induction j using Nat.strongRecOn with
 | ind j ih =>
  intro x d f
  have d:(b.getD j 0).testBit x=true:=d
  have m:j<ops.size:=by
   rcases Nat.lt_or_ge j ops.size with q|q
   ·exact q
   have:=Nat.le_of_ble_eq_true v
   rw[List.getD_eq_getElem?_getD,List.getElem?_eq_none (by omega)] at d
   simp at d
  have z:=Nat.eq_of_beq_eq_true (List.all_eq_true.1 h j (List.mem_range.2 m))
  have A:(upM b (opAt ops j).after.toList 0).testBit x=true:=by
   rw[←z,Nat.testBit_or,d,Bool.true_or]
  rcases ZjH _ _ A with g|⟨e,B,r,g⟩
  ·simp at g
  have i:e∈(opAt ops j).after:=by simpa using B
  have k:=f _ (ZbO m) e i r
  rcases g with rfl|g
  ·exact k
  have t:=List.all_eq_true.1 c j (List.mem_range.2 m)
  rw[ZbO m] at t
  have u:=Array.all_eq_true'.1 t e i
  rw[r] at u
  have C:=Nat.le_of_ble_eq_true u
  exact ih e.on C x g (fun D E F n p=>y e.on D E k F n p)
def ZpZ (ops:Array Oper) (s0:St) (n:Nat):Bool:=Nat.ble n ops.size && (Zce ops && ZeQ ops && ((List.range n).all (fun i=>cG .any ops n i) && (Zi3 (Zc4 .any ops 4) ops s0 n && Region.seqB .any ops (ops.size-n) n (Zcf ops n))))
theorem ZnM {O:St}{n:Nat}{R:Nat→Nat→Bool}(hR:Zi4 ops R)(hu:Zce ops=true)(hn:n≤ops.size)(m:ZeQ ops=true)(p:∀ i,i<n→cG .any ops n i=true)(q:Zi3 R ops O n=true)(B:Region.seqB .any ops (ops.size-n) n (Zcf ops n)=true)(T:∃ w,Φ0 w)(C:∀ s Φ,fin s Φ→∀ L a w,Inv N S0 w0 s Φ L a w→wpList P ops Q (ops.toList.drop n) a w) :
 ∀ (k:Nat) (listed:Array Bool) (s:St) (Φ:World→Prop) (L:Nat→Nat) (a:Act) (w:World),(un n listed).length=k→listed.size=ops.size→(∀ i,n≤i→i<ops.size→listed.getD i true=false)→aZ .any ops listed →
 BI ops O s→(∀ w,Φ w→Φ0 w)→Inv N S0 w0 s Φ L a w→Strat P N S0 w0 ops Φ0 fin (un n listed) s Φ→wpAny P .any ops Q (k+(ops.size-n)) listed a w:=by
 intro k
 induction k with
 | zero =>
  intro listed s Φ L a w hk c r d t S M hS
  have g:un n listed=[]:=List.length_eq_zero_iff.1 hk
  rw[g] at hS
  have u:listed=Zcf ops n:=by
   refine Array.ext (by simp[Zcf,c];omega) (fun i b h2=>?_)
   have v:i<ops.size:=by rw[←c];exact b
   have e:listed.getD i true=listed[i]:=by simp[b]
   rw[←e]
   by_cases z:i<n
   ·have:listed.getD i true≠false:=fun h=>by
     have:=ZcJ.2 ⟨z,h⟩
     rw[g] at this
     cases this
    simp only[Zcf,List.getElem_toArray]
    rw[List.getElem_append_left (by simpa using z),List.getElem_replicate]
    cases h:listed.getD i true with
    | true=>rfl
    | false=>exact absurd h this
   rw[r i (by omega) v]
   simp only[Zcf,List.getElem_toArray]
   rw[List.getElem_append_right (by simpa using z),List.getElem_replicate]
  have D:(ops.toList.drop n).length=ops.size-n:=by simp
  cases hS with
  | done hf =>
   have:=wpAny_of_seq (md:=.any) (Q':=Q) (ops.toList.drop n) n listed a w (fun j=>by simp[List.getElem?_drop]) (by rw[D,u];exact B) (C _ _ hf L a w M)
   rw[D] at this
   rw[Nat.zero_add];exact this
 | succ k ih =>
  intro listed s Φ L a w hk c r d t S M hS
  rw[show k+1+(ops.size-n)=(k+(ops.size-n))+1 by omega]
  obtain⟨x,R',A⟩:∃ x R,un n listed=x :: R:=by
   cases h:un n listed with
   | nil=>rw[h] at hk;cases hk
   | cons x R=>exact⟨x,R,rfl⟩
  have U:=ZcJ.1 (by rw[A];exact List.mem_cons_self:x∈un n listed)
  have E:∀ i,i<x→listed.getD i true=true:=fun i d0=>by
   cases h:listed.getD i true with
   | true=>rfl
   | false =>
    have:=ZcJ.2 ⟨(by omega:i<n),h⟩
    rw[A] at this
    have F:=Zef n listed
    rw[A] at F
    rcases List.mem_cons.1 this with e|e
    ·omega
    have:=(List.pairwise_cons.1 F).1 i e;omega
  have hxr:x∈Region.ready .any ops listed:=by
   have f:x<ops.size:=by omega
   refine mem_ready.2 ⟨U.2,opAt ops x,ZbO f,fun e he V=>?_⟩
   have b:=List.all_eq_true.1 m x (List.mem_range.2 f)
   rw[ZbO f] at b
   have G:=Array.all_eq_true'.1 b e he
   rw[V] at G
   have h2:=Nat.le_of_ble_eq_true G
   have h3:=E e.on h2
   have h4:e.on<listed.size:=by rw[c];exact Nat.lt_trans h2 f
   simp[h4] at h3 ⊢;exact h3
  refine⟨fun h=>(by rw[h] at hxr;cases hxr),fun j hj=>?_⟩
  have H:j<n:=Zjm (p x U.1) d U.2 hj
  obtain⟨I,oj,W,J⟩:=mem_ready.1 hj
  have X:j∈un n listed:=ZcJ.2 ⟨H,I⟩
  obtain⟨l1,l2,u⟩:=List.append_of_mem X
  have F:=Zef n listed
  rw[u] at F
  have Y:∀ y,y∈l1→y<ops.size∧(opAt ops y).apart ops (opAt ops j)=true∧(aA (opAt ops y).op (opAt ops j).op=true∨(lsB (opAt ops y).op (opAt ops j).op=true∧farB ops O (opAt ops y) (opAt ops j)=true)):=fun y hy=>by
   have Z:y<j:=(List.pairwise_append.1 F).2.2 y hy j List.mem_cons_self
   have a0:=(ZcJ.1 (by rw[u];exact List.mem_append_left _ hy:y∈un n listed)).2
   have b:=List.all_eq_true.1 (List.all_eq_true.1 q j (List.mem_range.2 H)) y (List.mem_range.2 Z)
   rw[Bool.or_eq_true] at b
   rcases b with b|b
   ·have h2:=hR listed d j y b (fun o ho=>by
     have:o=oj:=Option.some.inj (ho.symm.trans W)
     subst this
     exact J)
    rw[getD_both a0] at h2
    cases h2
   simp only[Bool.and_eq_true,Bool.or_eq_true] at b
   exact⟨by omega,b⟩
  rw[u] at hS
  have b0:=Strat.front hu T l1 l2 s Φ M.wf t Y hS
  refine Strat.exec hu t (by omega) M S b0 (fun s' Φ' L' a' w' K c0 v K'=>?_)
  have l:=Zrw u
  refine ih (listed.setIfInBounds j true) s' Φ' L' a' w' ?_ (by simp[c]) (fun i b h2=>?_) (d.set hj) K c0 v (by rw[l];exact K')
  ·rw[l]
   rw[u] at hk
   simp only[List.length_append,List.length_cons] at hk ⊢
   omega
  rw[getD_set_ne true (by omega)];exact r i b h2
theorem MemI.drew (h:MemI S0 w0 s L w):MemI S0 w0 s L w.drew:=⟨h.blk,h.inj,h.old,h.ext.drew,h.slp,h.cel⟩
theorem Inv.drew (h:Inv N S0 w0 s Φ L a w):Inv N S0 w0 s Φ L a w.drew:=⟨h.size,h.df,h.sl,h.mem.drew,h.box.ext (Fr.refl _ w).drew⟩
theorem Zib {id:Nat}(n:Nat){d:SlL}{e:BlL}{R:Nat→Nat→Bool}(k:Zi4 ops R)(f:(Nat.ble n ops.size && (Zce ops && ZeQ ops && ((List.range n).all (fun i=>cG .any ops n i) && (Zi3 R ops (ofL d e) n && Region.seqB .any ops (ops.size-n) n (Zcf ops n)))))=true)(hI:Zgw ops d=true)(l:P.follows .mixedOrders=true)(h:Strat P N S0 w0 ops Φ (fun s Φ=>SXi P N S0 w0 ops Q n s Φ) (List.range n) (ofL d e) Φ):SXc P N S0 w0 Q (.region id ops true) (ofL d e) Φ:=by
 simp only[Bool.and_eq_true] at f
 obtain⟨m,⟨p,q⟩,r,t,u⟩:=f
 have v:=Nat.le_of_ble_eq_true m
 intro L a w g
 refine wp_region_any l ?_
 have c:un n (Array.replicate ops.size false)=List.range n:=by
  unfold un
  refine List.filter_eq_self.2 (fun i b=>?_)
  have:=List.mem_range.1 b
  simp[show i<ops.size by omega]
 have:=ZnM k (Q:=Q) (fin:=fun s Φ=>SXi P N S0 w0 ops Q n s Φ) p v q (fun i b=>List.all_eq_true.1 r i (List.mem_range.2 b)) t u ⟨w,g.box.self⟩ (fun s Φ x L a w b=>x L a w b) (un n (Array.replicate ops.size false)).length (Array.replicate ops.size false) _ Φ L a w.drew rfl (by simp)
  (fun i _ y=>by simp[y]) (fun j z _ hl=>by rw[getD_replicate_false] at hl;cases hl) (BI.init hI) (fun _ h=>h) g.drew (by rw[c];exact h)
 rw[c,List.length_range,show n+(ops.size-n)=ops.size by omega] at this
 exact this
theorem Zpl {id:Nat}(n:Nat){b:SlL}{c:BlL}(d:ZpZ ops (ofL b c) n=true)(e:Zgw ops b=true)(f:P.follows .mixedOrders=true)(h:Strat P N S0 w0 ops Φ (fun s Φ=>SXi P N S0 w0 ops Q n s Φ) (List.range n) (ofL b c) Φ):SXc P N S0 w0 Q (.region id ops true) (ofL b c) Φ:=Zib n (ZkV ops) d e f h
def Zp0 (ops:Array Oper) (s0:St) (n:Nat) (masks:List Nat):Bool:=(Nat.ble masks.length ops.size && ZpY ops masks) && (Nat.ble n ops.size && (Zce ops && ZeQ ops && ((List.range n).all (fun i=>cG .any ops n i) && (Zi3 (fun j x=>(masks.getD j 0).testBit x) ops s0 n && Region.seqB .any ops (ops.size-n) n (Zcf ops n)))))
def stpF (P:Program) (N:Nat) (ops:Array Oper) (o:Oper) (s:St):Option St :=
 match o.dst with
 | some d=>bif Nat.blt d N then (match iA P ops o s with | some r=>some (s.app d r) | none=>none) else none
 | none=>bif Nat.beq (cls o.op) 3 then dU P ops o s else none
def runF (P:Program) (N:Nat) (ops:Array Oper):Nat→Nat→St→Option St
 | 0,_,s=>some s
 | k + 1,i,s=>match stpF P N ops (opAt ops i) s with
   | some s'=>runF P N ops k (i + 1) s'
   | none=>none
theorem Zmy {i:Nat}{l:List Nat}(h:stpF P N ops (opAt ops i) s=some s')(K:Strat P N S0 w0 ops Φ0 fin l s' Φ):Strat P N S0 w0 ops Φ0 fin (i :: l) s Φ:=by
 unfold stpF at h
 split at h
 ·rename_i d b
  cases hb:Nat.blt d N with
  | false=>rw[hb] at h;cases h
  | true =>
   rw[hb] at h
   simp only[cond_true] at h
   split at h
   ·rename_i r c
    injection h with h
    subst h
    exact .flt (Or.inl c) b (Nat.le_of_ble_eq_true hb) K
   cases h
 rename_i b
 cases hb:Nat.beq (cls (opAt ops i).op) 3 with
 | false=>rw[hb] at h;cases h
 | true =>
  rw[hb] at h
  exact .sto (Nat.eq_of_beq_eq_true hb) h b K
theorem Zgx {n:Nat}:∀ (k i:Nat) (s s':St),runF P N ops k i s=some s'→i+k≤n→Strat P N S0 w0 ops Φ0 fin (List.range' (i+k) (n-(i+k))) s' Φ→Strat P N S0 w0 ops Φ0 fin (List.range' i (n-i)) s Φ
 | 0,i,s,s',h,hk,K=>by simp only[runF,Option.some.injEq] at h;subst h;exact K
 | k+1,i,s,s',h,hk,K=>by
  unfold runF at h
  split at h
  ·rename_i d b
   have c:=Zgx (n:=n) k (i+1) _ s' h (by omega) (by rw[show i+1+k=i+(k+1) by omega];exact K)
   rw[show n-i=(n-(i+1))+1 by omega,List.range'_succ]
   exact Zmy b c
  cases h
def StI (P:Program) (N:Nat) (S0:Nat→Prop) (w0:World) (ops:Array Oper) (Φ0:World→Prop) (Q:Exit→Act→World→Prop) (n i:Nat) (s:St) (Φ:World→Prop):Prop :=
 Strat P N S0 w0 ops Φ0 (fun s Φ=>SXi P N S0 w0 ops Q n s Φ) (List.range' i (n-i)) s Φ
theorem xG {id:Nat}(n:Nat){b:SlL}{c:BlL}(d:ZpZ ops (ofL b c) n=true)(e:Zgw ops b=true)(f:P.follows .mixedOrders=true)(h:StI P N S0 w0 ops Φ Q n 0 (ofL b c) Φ):SXc P N S0 w0 Q (.region id ops true) (ofL b c) Φ :=
 Zpl n d e f (by rw[List.range_eq_range'];exact h)
theorem gT {id:Nat}(n:Nat)(b:List Nat){c:SlL}{d:BlL}(f:Zp0 ops (ofL c d) n b=true)(g:Zgw ops c=true)(i:P.follows .mixedOrders=true)(h:StI P N S0 w0 ops Φ Q n 0 (ofL c d) Φ):SXc P N S0 w0 Q (.region id ops true) (ofL c d) Φ:=by
 unfold Zp0 at f
 obtain⟨j,e⟩:=(Bool.and_eq_true _ _).mp f
 obtain⟨k,l⟩:=(Bool.and_eq_true _ _).mp j
 have m:ZeQ ops=true:=by
  simp only[Bool.and_eq_true] at e
  exact e.2.1.2
 exact Zib n (Zmx m k l) e g i (by rw[List.range_eq_range'];exact h)
end
section
variable {N:Nat} {S0:Nat→Prop} {w0:World} {s s':St} {Φ Ψ Φ0:World→Prop} {L:Nat→Nat} {a:Act} {w:World} {P:Program} {ops:Array Oper} {Q:Exit→Act→World→Prop} {o:Oper} {fin:St→(World→Prop)→Prop}
/-! ### inside a region that draws -/
theorem Strat.weak {l:List Nat}(h:Strat P N S0 w0 ops Φ0 fin l s Φ):∀ {s':St},s'.bl=s.bl→(∀ t x,s.sl t=some x→s'.sl t=some x)→(∀ s s' Φ,fin s Φ→s'.bl=s.bl→(∀ t x,s.sl t=some x→s'.sl t=some x)→fin s' Φ)→Strat P N S0 w0 ops Φ0 fin l s' Φ:=by
 induction h with
 | done h=>intro s' hb c f;exact .done (f _ _ _ h hb c)
 | flt h hd hN K ih =>
  rename_i i l s Φ r d
  intro s' hb c f
  refine .flt (h.mono (fun t _ x hx=>c t x hx) (fun _ b q _ j=>by rw[hb];exact j) (fun d _ p=>by rw[hb];exact p)) hd hN (ih (by obtain⟨x,nx⟩:=r;cases nx<;>simp[St.app,hb]) (fun t x hx=>?_) f)
  by_cases e:t=d
  ·subst e
   simp only[St.app,lY] at hx ⊢
   exact hx
  simp only[St.app,lD _ _ e] at hx ⊢
  exact c t x hx
 | does hα sh φ hm hw hn hv hd hN hdo K ih =>
  rename_i i l s Φ d α
  intro s' hb c f
  have g:iF ops (opAt ops i) s s':=fun t _ x hx=>c t x hx
  refine .does hα sh φ hm (g.want hw) hn (g.vB hv) hd hN (fun w k Q=>?_) (fun z=>ih z (by simp[St.app,hb]) (fun t x hx=>?_) f)
  ·have:=hdo w k Q
   unfold Does at this ⊢
   rw[g.exec hn hv];exact this
  by_cases e:t=d
  ·subst e
   simp only[St.app,lY] at hx ⊢
   exact hx
  simp only[St.app,lD _ _ e] at hx ⊢
  exact c t x hx
 | sto hm h hd K ih =>
  rename_i i l s u Φ
  intro s' hb c f
  have g:iF ops (opAt ops i) s s':=fun t _ x hx=>c t x hx
  rcases Zde g (fun b q _ j=>by rw[hb];exact j) h with ⟨m,n⟩|⟨b,q,v,j,y,m,n⟩
  ·subst m
   exact .sto hm n hd (ih hb c f)
  subst m
  exact .sto hm n hd (ih (by simp only[hb]) (fun t x hx=>c t x hx) f)
theorem Zpm {n:Nat}(s s':St)(Φ:World→Prop)(h:SXi P N S0 w0 ops Q n s Φ)(f:s'.bl=s.bl)(m:∀ t x,s.sl t=some x→s'.sl t=some x):SXi P N S0 w0 ops Q n s' Φ:=fun L a w d =>
 h L a w ⟨d.size,d.df,fun i x g=>d.sl i x (m i x g),⟨fun b t j e=>d.mem.blk b t j (by rw[f];exact e),fun b c=>by rw[←f];exact d.mem.inj b c,fun b=>by rw[←f];exact d.mem.old b,d.mem.ext,fun i b k e=>by rw[←f];exact d.mem.slp i b k (m i _ e),fun b t j e x g=>by
  have:=d.mem.cel b t j (by rw[f];exact e) x g
  rw[←f];exact this⟩,fun w' p=>d.box w' (p.mono (fun i _ q=>by obtain⟨b,l,e⟩:=q;exact⟨b,by rw[f];exact l,e⟩))⟩
def ZcK (P:Program) (N:Nat) (ops:Array Oper) (k i:Nat) (s:St) (sl:SlL):Option (List (Option AV)×(Nat→Option (TypeId×List AV))) :=
 match runF P N ops k i s with
 | some s'=>some (sl.map (fun q=>s'.sl q.1),s'.bl)
 | none=>none
theorem ZjI {n i:Nat}(k:Nat)(b:SlL)(c:BlL)(h:ZcK P N ops k i s b=some (b.map (fun q=>some q.2),dS c))(e:Nat.ble (i+k) n=true)(K:StI P N S0 w0 ops Φ0 Q n (i+k) (ofL b c) Φ):StI P N S0 w0 ops Φ0 Q n i s Φ:=by
 unfold ZcK at h
 split at h
 ·rename_i d j
  injection h with h
  injection h with h2 h3
  refine Zgx k i s d j (Nat.le_of_ble_eq_true e) (Strat.weak K h3 (fun t x l=>?_) (fun s s' Φ h m p=>Zpm s s' Φ h m p))
  exact Zaa (f:=fun q:Nat × AV=>d.sl q.1) (g:=fun q=>some q.2) h2 (iK l)
 cases h
theorem ZlD {n i:Nat}(f:FuncId)(args:List Value)(d:Nat){α:Type}[c:Nonempty α](b:α→Value)(φ:α→World→Prop)(hi:Nat.blt i n=true)(e:cls (opAt ops i).op=2)(h:eG P N ops (opAt ops i) s=some (f,args,d))(g:∀ w,Fr S0 w0 w→Φ w→Calls P f args.toArray w (kM b φ w))(K:∀ x,StI P N S0 w0 ops Φ0 Q n (i+1) (s.put d (.v (b x))) (fun w=>Φ w∧φ x w)):StI P N S0 w0 ops Φ0 Q n i s Φ:=by
 obtain⟨j,k,l,m,p,q,r⟩:=cO h
 have t:i<n:=Nat.le_of_ble_eq_true hi
 unfold StI
 rw[show n-i=(n-(i+1))+1 by omega,List.range'_succ]
 exact .does c b φ e j m p l r (fun w u R=>Zh7 k q (g w u R)) K
theorem Zbn {n i:Nat}(d:Nat)(y:Value)(hi:Nat.blt i n=true)(hk:Zee (opAt ops i).op=true)(b:s.wantB ops (opAt ops i)=some true)(c:(opAt ops i).op.operands.toList.all s.vB=true)(e:(opAt ops i).dst=some d)(f:Nat.blt d N=true)(g:∀ w,Φ0 w→(execOp s.rho (opAt ops i)).run P w=.ok (.value y) w)(K:StI P N S0 w0 ops Φ0 Q n (i+1) (s.put d (.v y)) Φ):StI P N S0 w0 ops Φ0 Q n i s Φ:=by
 have j:i<n:=Nat.le_of_ble_eq_true hi
 have k:iE (opAt ops i).op=true:=by
  cases h:(opAt ops i).op<;>first|rfl | (rw[h] at hk;cases hk)
 unfold StI
 rw[show n-i=(n-(i+1))+1 by omega,List.range'_succ]
 exact .flt (r:=(.v y,none)) (Or.inr ⟨y,rfl,hk,b,k,c,g⟩) e (Nat.le_of_ble_eq_true f) K
theorem Zrx {n i:Nat}(h:Nat.ble n i=true)(K:SXi P N S0 w0 ops Q n s Φ):StI P N S0 w0 ops Φ0 Q n i s Φ:=by
 unfold StI
 rw[show n-i=0 by have:=Nat.le_of_ble_eq_true h;omega]
 exact .done K
/-! ### one look in a list -/
theorem iT {i:Nat}(d:Nat)(y:Value)(hi:Nat.blt i ops.size=true)(b:iE (opAt ops i).op=true)(c:s.wantB ops (opAt ops i)=some true)(e:(opAt ops i).op.operands.toList.all s.vB=true)(f:(opAt ops i).dst=some d)(g:Nat.blt d N=true)(j:∀ w,Fr S0 w0 w→Φ w→(execOp s.rho (opAt ops i)).run P w=.ok (.value y) w)(K:SXi P N S0 w0 ops Q (i+1) (s.put d (.v y)) Φ):SXi P N S0 w0 ops Q i s Φ:=by
 refine iB (α:=Unit) (fun _=>y) (fun _ _=>True) hi c b e f g (fun w k R=>Or.inl ⟨y,w,j w k R,(),rfl,Fr.refl _ _,BoxN.pure trivial⟩) (fun _=>?_)
 intro L a w h
 exact K L a w ⟨h.size,h.df,h.sl,h.mem,h.box.mono (fun w h=>h.1)⟩
/-! ### code -/
theorem zC {x y:Code}(h:SXc P N S0 w0 (Exit.then (y.wp P Q) Q) x s Φ):SXc P N S0 w0 Q (.seq x y) s Φ:=fun L a w b=>wp_seq (h L a w b)
theorem zA {y:Code}(h:SXc P N S0 w0 Q y s Φ):SXq N S0 w0 (Exit.then (y.wp P Q) Q .normal) s Φ:=h
theorem xM {id:Nat}{c:Code}(h:SXc P N S0 w0 (Exit.inBlock id Q) c s Φ):SXc P N S0 w0 Q (.block id c) s Φ:=fun L a w b=>wp_block (h L a w b)
theorem lN {id:Nat}(h:SXq N S0 w0 (Q .normal) s Φ):SXq N S0 w0 (Exit.inBlock id Q .normal) s Φ:=h
theorem kQ {id:Nat}(h:SXq N S0 w0 (Q .normal) s Φ):SXq N S0 w0 (Exit.inBlock id Q (.exit id)) s Φ:=fun L a w b=>by
 have:=h L a w b
 simpa [Exit.inBlock] using this
theorem ZcL {id b:Nat}(d:Nat.beq b id=false)(h:SXq N S0 w0 (Q (.exit b)) s Φ):SXq N S0 w0 (Exit.inBlock id Q (.exit b)) s Φ:=fun L a w f=>by
 have c:b≠id:=fun e=>by subst e;simp at d
 have:=h L a w f
 simpa [Exit.inBlock,c] using this
theorem xC {id:Nat}{b:Act→World→Prop}(h:SXq N S0 w0 (Q (.exit id)) s Φ):SXq N S0 w0 (Exit.then b Q (.exit id)) s Φ:=h
theorem zI {b:Act→World→Prop}(h:SXq N S0 w0 (Q .ret) s Φ):SXq N S0 w0 (Exit.then b Q .ret) s Φ:=h
theorem wU {id:Nat}(h:SXq N S0 w0 (Q .ret) s Φ):SXq N S0 w0 (Exit.inBlock id Q .ret) s Φ:=h
theorem lO {id:Nat}(h:SXq N S0 w0 (Q (.exit id)) s Φ):SXc P N S0 w0 Q (.exit id) s Φ:=fun L a w b=>wp_exit (h L a w b)
theorem zG (h:SXq N S0 w0 (Q .ret) s Φ):SXc P N S0 w0 Q .ret s Φ:=fun L a w b=>wp_ret (h L a w b)
theorem zN (h:SXq N S0 w0 (Q .normal) s Φ):SXc P N S0 w0 Q .skip s Φ:=fun L a w b=>wp_skip (h L a w b)
theorem zW {c:Operand}{x y:Code}(b:Bool)(f:s.eval c=some (.v (.bool b)))(g:b=true→SXc P N S0 w0 Q x s Φ)(i:b=false→SXc P N S0 w0 Q y s Φ):SXc P N S0 w0 Q (.cond c x y) s Φ:=fun L a w d=>by
 have h:=d.eval f
 exact wp_cond_split h (fun e=>g e L a w d) (fun e=>i e L a w d)
theorem ZnN {c:Operand}{x y:Code}(b:s.eval c=some (.v (.bool true)))(h:SXc P N S0 w0 Q x s Φ):SXc P N S0 w0 Q (.cond c x y) s Φ:=zW true b (fun _=>h) (fun e=>by cases e)
theorem ZnO {c:Operand}{x y:Code}(b:s.eval c=some (.v (.bool false)))(h:SXc P N S0 w0 Q y s Φ):SXc P N S0 w0 Q (.cond c x y) s Φ:=zW false b (fun e=>by cases e) (fun _=>h)
theorem zB {id:Nat}(h:SXi P N S0 w0 ops Q 0 s Φ):SXc P N S0 w0 Q (.region id ops false) s Φ:=fun L a w b=>wp_region_list (h L a w b)
theorem SXc.know {c:Code}{p:Prop}(h:∀ w,Fr S0 w0 w→Φ w→p)(K:p→SXc P N S0 w0 Q c s Φ):SXc P N S0 w0 Q c s Φ:=fun L a w b=>K (h w b.mem.ext b.box.self) L a w b
theorem SXc.weak {c:Code}(b:SlL)(d:BlL)(e:xK s b d)(f:wfB b d=true)(R:∀ w,Φ w→Ψ w)(h:SXc P N S0 w0 Q c (ofL b d) Ψ):SXc P N S0 w0 Q c s Φ:=fun L a w g=>h L a w (g.weak e f R)
theorem SXq.weak {q:Act→World→Prop}(b:SlL)(c:BlL)(d:xK s b c)(e:wfB b c=true)(Q:∀ w,Φ w→Ψ w)(h:SXq N S0 w0 q (ofL b c) Ψ):SXq N S0 w0 q s Φ:=fun L a w f=>h L a w (f.weak d e Q)
/-! ### the beginning and the end of a function -/
theorem ZbP:∀ (l:List Value) (k i:Nat) (x:AV),dS (ZeP k l) i=some x→k≤i∧∃ v,l[i-k]? = some v∧x=.v v
 | [],k,i,x,h=>by cases h
 | v :: l,k,i,x,h=>by
  by_cases e:i=k
  ·subst e
   simp only[ZeP,dS,lY,Option.some.injEq] at h
   exact⟨Nat.le_refl _,v,by simp,h.symm⟩
  simp only[ZeP,dS,lD _ _ e] at h
  obtain⟨d,u,b,c⟩:=ZbP l (k+1) i x h
  refine⟨by omega,u,?_,c⟩
  rw[show i-k=(i-(k+1))+1 by omega]
  simpa using b
theorem zV {fn:Func}{f:FuncId}{c:Code}{args:List Value}{R:Ending→World→Prop}(k:P.funcs[f]? = some fn)(l:fn.body=some c)(m:Nat.ble args.length fn.ntmps=true)(Q:Box (fun _=>False) w Φ)(h:SXc P fn.ntmps (fun _=>False) w (bodyPost P fn R) c (ofL (ZeP 0 args) []) Φ):Calls P f args.toArray w R:=by
 refine calls_of_wp k l (h (fun _=>0) _ w ⟨?_,rfl,fun i x n=>?_,⟨fun b t p e=>(by cases e),fun b c e=>(by cases e),fun b e=>(by cases e),Fr.refl _ _,fun i b off e=>?_,fun b t p e=>(by cases e)⟩,?_⟩)
 ·have:=Nat.le_of_ble_eq_true m
  simp;omega
 ·obtain⟨_,v,hv,rfl⟩:=ZbP args 0 i x n
  have g:i<args.length:=by
   rcases Nat.lt_or_ge i args.length with d|d
   ·exact d
   rw[List.getElem?_eq_none (by omega)] at hv;cases hv
  simp only[AV.conc]
  rw[Array.getElem?_append_left (by simpa using g)]
  simpa using hv
 ·obtain⟨_,v,hv,e'⟩:=ZbP args 0 i _ e
  cases e'
 intro w' j
 exact Q w' (j.mono (fun i _ d=>by obtain⟨b,e,_⟩:=d;cases e))
def Zeg (tmps:Array Value):ResultVar→Sem Value
 | .tmp t=>pure (tmps.getD t undef)
 | .cell t ty=>do loadVar ty (← asAddr (tmps.getD t undef))
theorem Zmz (fn:Func)(b:Array Value):results fn b=(do
 let c ← fn.results.mapM (Zeg b)
 pure (if h:c.size=1 then c[0] else .tuple c)):=by
 unfold results
 congr
theorem ZnP (hi:Inv N S0 w0 s Φ L a w){r:ResultVar}{x:Value}(h:Zi2 P s r=some x):(Zeg a.tmps r).run P w=.ok x w:=by
 cases r with
 | tmp t =>
  simp only[Zi2] at h
  split at h
  ·rename_i y c
   injection h with h
   subst h
   have:=hi.sl t _ c
   simp[Zeg,this,AV.conc]
  cases h
 | cell t ty =>
  simp only[Zi2] at h
  split at h
  ·rename_i b e f
   split at h
   ·rename_i y c
    injection h with h
    subst h
    have g:=hi.sl t _ f
    have d:=(Zed hi c).2
    simp only[Instr.loadAt,Instr.sureAddr,Sem.run_bind,Sem.run_pure,Result.andThen_ok] at d
    simp[Zeg,g,AV.conc,asAddr,d]
   cases h
  cases h
theorem ZjJ (hi:Inv N S0 w0 s Φ L a w):∀ (l:List ResultVar) (m:List Value),resL P s l=some m→(l.mapM (Zeg a.tmps)).run P w=.ok m w
 | [],m,h=>by simp only[resL,Option.some.injEq] at h;subst h;rfl
 | r :: l,m,h=>by
  unfold resL at h
  split at h
  ·rename_i x b c d
   injection h with h
   subst h
   have e:=ZnP hi c
   have f:=ZjJ hi l b d
   rw[List.mapM_cons]
   simp only[Sem.run_bind,e,f,Result.andThen_ok,Sem.run_pure]
  cases h
theorem ZnQ (hi:Inv N S0 w0 s Φ L a w){fn:Func}{v:Value}(h:Zmt P fn s=some v):(results fn a.tmps).run P w=.ok v w:=by
 have b:∀ m,resL P s fn.results.toList=some m→(results fn a.tmps).run P w=.ok (if h:m.toArray.size=1 then m.toArray[0] else .tuple m.toArray) w:=fun m c=>by
  have:=ZjJ hi _ m c
  rw[Zmz,Array.mapM_eq_mapM_toList]
  simp only[Sem.run_bind,Sem.run_map,this,Result.andThen_ok,Sem.run_pure]
 unfold Zmt at h
 split at h
 ·rename_i x d
  injection h with h
  rw[b [x] d,← h]
  simp
 ·rename_i m f c
  injection h with h
  rw[b m c,← h]
  have:m.toArray.size≠1:=fun e=>by
   obtain⟨x,d⟩:=List.length_eq_one_iff.1 (by simpa using e)
   exact f x d
  rw[dif_neg this]
 cases h
theorem zE {fn:Func}{R:Ending→World→Prop}{v:Value}(h:Zmt P fn s=some v)(c:∀ w,Fr S0 w0 w→Φ w→R (.returned v) w):SXq N S0 w0 (bodyPost P fn R .ret) s Φ:=fun _ _ w b =>
 ⟨b.df,v,ZnQ b h,c w b.mem.ext b.box.self⟩
/-! ### the same rules in short (the proofs that the kernel works out need not be written) -/
theorem xr {i:Nat}(k:Nat)(b:SlL)(c:BlL)(K:SXi P N S0 w0 ops Q (i+k) (ofL b c) Φ)(h:Zgt P N ops i k s b c=some (b.map (fun q=>some q.2),c.map (fun q=>some q.2)):=by kernel_rfl)(d:wfB b c=true:=by kernel_rfl):SXi P N S0 w0 ops Q i s Φ:=ZnJ k b c h d K
theorem xc {i:Nat}(f:FuncId)(args:List Value)(d:Nat){α:Type}(b:α→Value)(φ:α→World→Prop)(e:∀ w,Fr S0 w0 w→Φ w→Calls P f args.toArray w (kM b φ w))(K:∀ x,SXi P N S0 w0 ops Q (i+1) (s.put d (.v (b x))) (fun w=>Φ w∧φ x w))(c:Nat.blt i ops.size=true:=by kernel_rfl)(h:eG P N ops (opAt ops i) s=some (f,args,d):=by kernel_rfl):SXi P N S0 w0 ops Q i s Φ:=ZlC f args d b φ c h e K
theorem xe {i:Nat}(K:SXq N S0 w0 (Q .normal) s Φ)(h:Nat.ble ops.size i=true:=by kernel_rfl):SXi P N S0 w0 ops Q i s Φ:=Zrt h K
theorem xf {n i:Nat}(k:Nat)(b:SlL)(c:BlL)(K:StI P N S0 w0 ops Φ0 Q n (i+k) (ofL b c) Φ)(h:ZcK P N ops k i s b=some (b.map (fun q=>some q.2),dS c):=by kernel_rfl)(d:Nat.ble (i+k) n=true:=by kernel_rfl):StI P N S0 w0 ops Φ0 Q n i s Φ:=ZjI k b c h d K
theorem xd {n i:Nat}(f:FuncId)(args:List Value)(d:Nat){α:Type}[g:Nonempty α](b:α→Value)(φ:α→World→Prop)(c:∀ w,Fr S0 w0 w→Φ w→Calls P f args.toArray w (kM b φ w))(K:∀ x,StI P N S0 w0 ops Φ0 Q n (i+1) (s.put d (.v (b x))) (fun w=>Φ w∧φ x w))(hi:Nat.blt i n=true:=by kernel_rfl)(e:cls (opAt ops i).op=2:=by kernel_rfl)(h:eG P N ops (opAt ops i) s=some (f,args,d):=by kernel_rfl):StI P N S0 w0 ops Φ0 Q n i s Φ:=ZlD f args d b φ hi e h c K
theorem xz {n i:Nat}(K:SXi P N S0 w0 ops Q n s Φ)(h:Nat.ble n i=true:=by kernel_rfl):StI P N S0 w0 ops Φ0 Q n i s Φ:=Zrx h K
theorem xa {c:Operand}{x y:Code}(h:SXc P N S0 w0 Q x s Φ)(b:s.eval c=some (.v (.bool true)):=by kernel_rfl):SXc P N S0 w0 Q (.cond c x y) s Φ:=ZnN b h
theorem xb {c:Operand}{x y:Code}(h:SXc P N S0 w0 Q y s Φ)(b:s.eval c=some (.v (.bool false)):=by kernel_rfl):SXc P N S0 w0 Q (.cond c x y) s Φ:=ZnO b h
end
/-! ### states in short -/
abbrev vI2 (x:Bool) (A:Option Addr) (l c:Nat):Value:=.agg #[.bool x,.slice A l c]
abbrev vR4 (x:Bool) (A:Option Addr) (l c:Nat) (y:Bool) (B:Option Addr) (m d:Nat):Value:=.agg #[.bool x,.slice A l c,.bool y,.slice B m d]
abbrev eS1 (k:Nat) (A:Option Addr) (l c:Nat):Nat × AV:=(k,.v (.slice A l c))
abbrev eI2 (k:Nat) (x:Bool) (A:Option Addr) (l c:Nat):Nat × AV:=(k,.v (.agg #[.bool x,.slice A l c]))
abbrev eR4 (k:Nat) (x:Bool) (A:Option Addr) (l c:Nat) (y:Bool) (B:Option Addr) (m d:Nat):Nat × AV:=(k,.v (.agg #[.bool x,.slice A l c,.bool y,.slice B m d]))
abbrev yJ (k:Nat) (x:Int):Nat × AV:=(k,.v (.int .i64 x))
abbrev yU (k:Nat) (x:Int):Nat × AV:=(k,.v (.int .u64 x))
abbrev yB (k:Nat) (x:Bool):Nat × AV:=(k,.v (.bool x))
abbrev yT (k:Nat) (x:ByteArray):Nat × AV:=(k,.v (.string x))
abbrev yF (k:Nat) (t:TypeId) (x:Bool) (A:Option Addr) (l c:Nat) (e:Int):Nat × TypeId×List AV:=(k,t,[.v (.bool x),.v (.slice A l c),.v (.int .i64 e)])
abbrev yG (k:Nat) (t:TypeId) (x:ByteArray) (e:Int):Nat × TypeId×List AV:=(k,t,[.v (.string x),.v (.int .i64 e)])
abbrev yV (x:Bool) (A:Option Addr) (l c:Nat) (e:Int):Value:=.agg #[.bool x,.slice A l c,.int .i64 e]
abbrev yS (x:ByteArray) (e:Int):Value:=.agg #[.string x,.int .i64 e]
theorem yW (x y:Int)(h:(x+9223372036854775808)%18446744073709551616-9223372036854775808=y):IntKind.i64.wrap x=y:=by rw[IntKind.wrap_i64];exact h
abbrev bI2 (k:Nat) (t:TypeId) (x:Bool) (A:Option Addr) (l c:Nat):Nat × TypeId×List AV:=(k,t,[.v (.bool x),.v (.slice A l c)])
abbrev bR4 (k:Nat) (t:TypeId) (x:Bool) (A:Option Addr) (l c:Nat) (y:Bool) (B:Option Addr) (m d:Nat):Nat × TypeId×List AV:=(k,t,[.v (.bool x),.v (.slice A l c),.v (.bool y),.v (.slice B m d)])
end Go.Proofs.YtklpdkpcocnglaaGreatDoor
