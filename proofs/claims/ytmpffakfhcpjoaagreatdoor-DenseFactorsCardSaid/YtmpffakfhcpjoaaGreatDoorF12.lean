/-
 My texts.
-/
import Derived.Test.YtmpffakfhcpjoaaGreatDoorF01
import Derived.OrdersHeld
import Derived.StillTail
set_option maxRecDepth 100000
set_option maxHeartbeats 8000000
namespace Go.Proofs.YtmpffakfhcpjoaaGreatDoor
open Go.RowKit
inductive AV where
 | v (x:Value)
 | p (b off:Nat)
def AV.conc (L:Nat→Nat):AV→Value
 | .v x=>x
 | .p b off=>.pointer (some ⟨L b,off,none⟩)
structure St where
 sl:Nat→Option AV
 bl:Nat→Option (TypeId×List AV)
def upd {α:Type} (f:Nat→Option α) (k:Nat) (x:α):Nat→Option α:=fun i=>bif Nat.beq i k then some x else f i
theorem kC {α:Type}(f:Nat→Option α)(k:Nat)(x:α):upd f k x k=some x:=by simp[upd]
theorem lI {α:Type}(f:Nat→Option α){k i:Nat}(x:α)(h:i≠k):upd f k x i=f i:=by
 have:Nat.beq i k=false:=Bool.eq_false_iff.2 (fun e=>h (Nat.eq_of_beq_eq_true e))
 simp[upd,this]
theorem Zdb {α:Type}(f:Nat→Option α){k i:Nat}(x y:α)(h:i≠k):upd (upd f k x) i y=upd (upd f i y) k x:=by
 funext j
 by_cases b:j=i
 ·subst b;rw[kC,lI _ _ h,kC]
 rw[lI _ _ b]
 by_cases c:j=k
 ·subst c;rw[kC,kC]
 rw[lI _ _ c,lI _ _ c,lI _ _ b]
def fJ:AV→Bool
 | .p _ _=>true
 | .v (.bool _)=>true
 | .v (.int .i64 _)=>true
 | .v (.string _)=>true
 | .v (.pointer _)=>true
 | .v (.slice _ _ _)=>true
 | .v (.map _)=>true
 | .v (.func _ _ _)=>true
 | .v .nilFunc=>true
 | .v (.iface _ _)=>true
 | .v .nilIface=>true
 | _=>false
theorem Zoh {x:AV}(L:Nat→Nat)(h:fJ x=true):(x.conc L).oneCell'=true:=by
 cases x with
 | p b off=>rfl
 | v x=>cases x<;>first|rfl | (simp[fJ] at h;done)
theorem Zoi {x:AV}{L:Nat→Nat}{k:IntKind}{z:Int}(h:fJ x=true)(e:x.conc L=.int k z):k=.i64:=by
 cases x with
 | p b off=>simp[AV.conc] at e
 | v x =>
  simp only[AV.conc] at e
  subst e
  cases k<;>simp[fJ] at h ⊢
structure MemI (S0:Nat→Prop) (w0:World) (s:St) (L:Nat→Nat) (w:World):Prop where
 blk:∀ b t cs,s.bl b=some (t,cs)→Blk t w (L b) (cs.map (AV.conc L)).toArray
 inj:∀ b c,(s.bl b).isSome=true→(s.bl c).isSome=true→L b=L c→b=c
 old:∀ b,(s.bl b).isSome=true→w0.heap.size≤L b∨S0 (L b)
 ext:Fr S0 w0 w
 slp:∀ i b off,s.sl i=some (.p b off)→(s.bl b).isSome=true
 cel:∀ b t cs,s.bl b=some (t,cs)→∀ x,x∈cs→fJ x=true∧∀ c off,x=.p c off→(s.bl c).isSome=true
def Box (S:Nat→Prop) (w:World) (Φ:World→Prop):Prop:=∀ w',Fr S w w'→Φ w'
theorem Box.self {S:Nat→Prop}{w:World}{Φ:World→Prop}(h:Box S w Φ):Φ w:=h w (Fr.refl _ _)
theorem Box.fr {S:Nat→Prop}{w w':World}{Φ:World→Prop}(h:Box S w Φ)(c:Fr S w w'):Box S w' Φ:=fun b d=>h b (c.trans d)
theorem Box.ext {S:Nat→Prop}{w w':World}{Φ:World→Prop}(h:Box S w Φ)(b:Ext w w'):Box S w' Φ:=h.fr (b.mono (fun _ _ f=>f.elim))
theorem Box.and {S:Nat→Prop}{w:World}{Φ Ψ:World→Prop}(h:Box S w Φ)(k:Box S w Ψ):Box S w (fun w=>Φ w∧Ψ w):=fun w' b=>⟨h w' b,k w' b⟩
theorem Box.mono {S:Nat→Prop}{w:World}{Φ Ψ:World→Prop}(h:Box S w Φ)(k:∀ w,Φ w→Ψ w):Box S w Ψ:=fun w' b=>k _ (h w' b)
def St.own (s:St) (L:Nat→Nat):Nat→Prop:=fun i=>∃ b,(s.bl b).isSome=true∧L b=i
structure Inv (N:Nat) (S0:Nat→Prop) (w0:World) (s:St) (Φ:World→Prop) (L:Nat→Nat) (a:Act) (w:World):Prop where
 size:a.tmps.size=N
 df:a.defers=[]
 sl:∀ i x,s.sl i=some x→a.tmps[i]? = some (x.conc L)
 mem:MemI S0 w0 s L w
 box:Box (s.own L) w Φ
def St.eval (s:St):Operand→Option AV
 | .tmp t=>s.sl t
 | .const v=>some (.v v)
 | .global g=>some (.v (.pointer (some ⟨g,0,none⟩)))
 | .func f=>some (.v (.func (.func f) #[] #[]))
section
variable {N:Nat} {S0:Nat→Prop} {w0:World} {s:St} {Φ:World→Prop} {L:Nat→Nat} {a:Act} {w:World} {P:Program} {ops:Array Oper}
theorem Inv.eval (h:Inv N S0 w0 s Φ L a w){x:Operand}{y:AV}(b:s.eval x=some y):a.eval x=y.conc L:=by
 cases x with
 | tmp t=>have:=h.sl t y b;simp[Act.eval,this]
 | const v=>simp only[St.eval,Option.some.injEq] at b;subst b;rfl
 | global g=>simp only[St.eval,Option.some.injEq] at b;subst b;rfl
 | func f=>simp only[St.eval,Option.some.injEq] at b;subst b;rfl
theorem MemI.evp (h:MemI S0 w0 s L w){x:Operand}{b off:Nat}(c:s.eval x=some (.p b off)):(s.bl b).isSome=true:=by
 cases x with
 | tmp t=>exact h.slp t b off c
 | const v=>simp[St.eval] at c
 | global g=>simp[St.eval] at c
 | func f=>simp[St.eval] at c
def St.rho (s:St):Operand→Value:=fun x=>match s.eval x with | some (.v y)=>y | _=>undef
def St.vB (s:St) (x:Operand):Bool:=match s.eval x with | some (.v _)=>true | _=>false
theorem ZcJ {x:Operand}(h:s.vB x=true):s.eval x=some (.v (s.rho x)):=by
 unfold St.vB at h;unfold St.rho
 split at h
 ·rename_i y e;rw[e]
 cases h
def jD:Op→Bool
 | .select _ _=>false
 | _=>true
theorem Inv.rho (h:Inv N S0 w0 s Φ L a w){l:List Operand}(b:l.all s.vB=true){x:Operand}(c:x∈l):a.eval x=s.rho x :=
 h.eval (ZcJ (List.all_eq_true.1 b x c))
theorem Inv.exec (h:Inv N S0 w0 s Φ L a w){o:Oper}(hs:jD o.op=true)(c:o.op.operands.toList.all s.vB=true):execOp a.eval o=execOp s.rho o :=
 execOp_congr o (fun d b e=>by rw[e] at hs;cases hs) (fun x hx=>h.rho c (by simpa using hx))
def Zbp (P:Program) {α:Type}:Sem α→Option α
 | .pure a=>some a
 | .program k=>Zbp P (k P)
 | .mark _ k=>Zbp P k
 | _=>none
theorem Zcw {α:Type}{x:Sem α}{y:α}(h:Zbp P x=some y)(w:World):x.run P w=.ok y w:=by
 induction x with
 | pure a=>simp only[Zbp,Option.some.injEq] at h;subst h;rfl
 | program k ih=>exact ih P h
 | mark m k ih=>exact ih h
 | _=>simp[Zbp] at h
structure TE where
 size:Nat
 agg:Bool
 zero:List Value
 offs:List (Option Nat)
def Zjt (P:Program) (f:Field):Option Nat :=
 match P.info? f.type with
 | some j=>bif Nat.beq j.size 0 then none else some f.offset
 | none=>none
def Zgl (P:Program):TypeDesc→List (Option Nat)
 | .struct fs=>fs.toList.map (Zjt P)
 | _=>[]
def ZrJ:TypeDesc→Bool
 | .struct _=>true
 | .array _ _=>true
 | _=>false
def teOf (P:Program) (t:TypeId):Option TE :=
 match P.info? t,P.underlying t with
 | some i,some d =>
  match i.zero with
  | some z=>some ⟨i.size,ZrJ d,z.cells.toList,Zgl P d⟩
  | none=>none
 | _,_=>none
theorem Zb7 {t:TypeId}{e:TE}(h:teOf P t=some e):∃ i d z,P.info? t=some i∧P.underlying t=some d∧i.zero=some z∧e.size=i.size∧e.zero=z.cells.toList ∧
 e.agg=ZrJ d∧e.offs=Zgl P d:=by
 unfold teOf at h
 split at h
 ·rename_i i d hi b
  split at h
  ·rename_i z c
   injection h with h
   subst h
   exact⟨i,d,z,hi,b,c,rfl,rfl,rfl,rfl⟩
  cases h
 cases h
theorem Zgm {t:TypeId}{e:TE}(h:teOf P t=some e):(sizeOf t).run P w=.ok e.size w:=by
 obtain⟨i,d,z,hi,c,f,b,_⟩:=Zb7 h
 simp[sizeOf,typeInfo,hi,b]
theorem Zic {t:TypeId}{e:TE}(h:teOf P t=some e):(isAgg t).run P w=.ok e.agg w:=by
 obtain⟨i,d,z,hi,b,g,j,c,f,_⟩:=Zb7 h
 simp only[isAgg,underlying,Sem.run_bind,run_program,Result.andThen_ok,b,Sem.run_pure,f]
 cases d<;>rfl
theorem jL (g off n:Nat):(⟨g,off,none⟩:Addr).add n=⟨g,off+n,none⟩:=by
 unfold Addr.add
 split
 ·subst_vars;rfl
 rfl
theorem ZdP {g off:Nat}:∀ (d:List Value) (i:Nat) (b:Array Value),(∀ j,j<d.length→w.cell? ⟨g,off+(i+j),none⟩=some (d[j]?.getD undef)) →
 (loadCellsFrom ⟨g,off,none⟩ i d.length b).run P w=.ok (b ++ d.toArray) w
 | [],i,b,_=>by simp[loadCellsFrom]
 | c :: d,i,b,h=>by
  have e:=h 0 (by simp)
  simp only[Nat.add_zero,List.getElem?_cons_zero,Option.getD_some] at e
  have f:=ZdP (g:=g) (off:=off) d (i+1) (b.push c) (fun j k=>by
   have:=h (j+1) (by simp;omega)
   simp only[List.getElem?_cons_succ] at this
   rw[←this];congr 2;omega)
  simp only[List.length_cons,loadCellsFrom,Sem.run_bind,run_load,jL,e,Result.andThen_ok,f]
  simp
theorem Zaa {t:TypeId}{e:TE}(h:teOf P t=some e){g off:Nat}{cs:List Value}(b:cs.length=e.size)(c:∀ j,j<cs.length→w.cell? ⟨g,off+j,none⟩=some (cs[j]?.getD undef))(ha:e.agg=true) :
 (Instr.loadAt t (.pointer (some ⟨g,off,none⟩))).run P w=.ok (.agg cs.toArray) w:=by
 have:=ZdP (P:=P) (w:=w) (g:=g) (off:=off) cs 0 #[] (fun j d=>by rw[Nat.zero_add];exact c j d)
 simp only[Instr.loadAt,Instr.sureAddr,Sem.run_bind,Sem.run_pure,Result.andThen_ok,loadVar,Zic h,ha,if_true,Zgm h,loadCells,← b,this]
 simp
theorem Zcx {t:TypeId}{e:TE}(h:teOf P t=some e){g off:Nat}{c:Value}(b:w.cell? ⟨g,off,none⟩=some c)(ha:e.agg=false) :
 (Instr.loadAt t (.pointer (some ⟨g,off,none⟩))).run P w=.ok c w:=by
 simp only[Instr.loadAt,Instr.sureAddr,Sem.run_bind,Sem.run_pure,Result.andThen_ok,loadVar,Zic h,ha,Bool.false_eq_true,if_false,run_load,b]
def lM {α:Type} (l:List α) (off:Nat) (cs:List α):List α:=l.take off ++ cs ++ l.drop (off+cs.length)
theorem ZcK {g bt:Nat}:∀ (f:List Value) (i b:Nat) (d:List Value) (w:World),Blk bt w g d.toArray→b+i+f.length≤d.length→(∀ c,c∈f→c.oneCell'=true) →
 ∃ w',(storeCells ⟨g,b,none⟩ f i).run P w=.ok () w'∧Blk bt w' g (lM d (b+i) f).toArray∧Fr (fun k=>k=g) w w'
 | [],i,b,d,w,hB,hl,_=>by
  refine⟨w,by simp[storeCells],?_,Fr.refl _ _⟩
  simpa [lM] using hB
 | c :: f,i,b,d,w,hB,hl,h1=>by
  simp only[List.length_cons] at hl
  have j:w.cell? ⟨g,b+i,none⟩=some (d[b+i]?.getD undef):=by
   rw[hB.cell]
   simp[show b+i<d.length by omega]
  have h:=hB.set_ (b+i) c
  have e:(d.toArray.setIfInBounds (b+i) c)=(d.set (b+i) c).toArray:=by simp
  rw[e] at h
  obtain⟨w',m,l,n⟩:=ZcK f (i+1) b (d.set (b+i) c) _ h (by simp;omega) (fun c j=>h1 c (by simp[j]))
  refine⟨w',?_,?_,((Fr.refl (fun k=>k=g) w).setCell (p:=⟨g,b+i,none⟩) (Or.inl rfl) c).trans n⟩
  ·simp only[storeCells,Sem.run_bind,jL,run_store P w ⟨g,b+i,none⟩ c .plain (h1 c (by simp)),j,hB.frozen,Bool.false_eq_true,if_false,Result.andThen_ok,m]
  have:lM (d.set (b+i) c) (b+(i+1)) f=lM d (b+i) (c :: f):=by
   unfold lM
   rw[show b+(i+1)=b+i+1 by omega,List.take_succ_eq_append_getElem (by simp;omega)]
   simp only[List.length_cons,List.getElem_set_self,List.append_assoc,List.cons_append,List.nil_append]
   rw[List.take_set_of_le (by omega),List.drop_set_of_lt (by omega),show b+i+1+f.length=b+i+(f.length+1) by omega]
  rw[this] at l
  exact l
theorem ZaE {t:TypeId}{e:TE}(h:teOf P t=some e){g bt off:Nat}{cur:List Value}{v:Value}(b:Blk bt w g cur.toArray)(d:v.cells.toList.length=e.size)(f:off+v.cells.toList.length≤cur.length)(i:∀ c,c∈v.cells.toList→c.oneCell'=true) :
 ∃ w',(Instr.storeAt t (.pointer (some ⟨g,off,none⟩)) v).run P w=.ok () w'∧Blk bt w' g (lM cur off v.cells.toList).toArray∧Fr (fun k=>k=g) w w':=by
 obtain⟨w',j,l,m⟩:=ZcK (P:=P) v.cells.toList 0 off cur w b (by simpa using f) i
 refine⟨w',?_,by simpa using l,m⟩
 have:v.cells.size=e.size:=by simpa using d
 simp only[Instr.storeAt,Instr.sureAddr,Sem.run_bind,Sem.run_pure,Result.andThen_ok,storeVar,Zgm h,this]
 simpa using j
theorem Zoj {t:TypeId}{e:TE}(h:teOf P t=some e):(Instr.alloc t true (.tuple #[])).run P w=.ok (.pointer (some ⟨w.heap.size,0,none⟩)) (w.alloc (.cells e.zero.toArray t)):=by
 obtain⟨i,d,z,hi,f,c,g,b,_⟩:=Zb7 h
 simp[Instr.alloc,zeroValue,typeInfo,hi,c,newVar,newRow,b]
theorem Zse {t:TypeId}{v:Value}:(Instr.box t v).run P w=.ok (.pointer (some ⟨w.heap.size,0,none⟩)) (w.alloc (.cells v.cells t)):=by
 simp[Instr.box,newVar,newRow]
theorem Zok {t f g off k:Nat}{e:TE}(h:teOf P t=some e)(b:e.offs[f]? = some (some k)):(Instr.fieldAt t (.pointer (some ⟨g,off,none⟩)) f).run P w=.ok (.pointer (some ⟨g,off+k,none⟩)) w:=by
 obtain⟨i,d,z,hi,m,q,r,n,u,o⟩:=Zb7 h
 rw[o] at b
 cases d with
 | struct fs =>
  simp only[Zgl,List.getElem?_map,Array.getElem?_toList,Option.map_eq_some_iff] at b
  obtain⟨fl,c,hq⟩:=b
  unfold Zjt at hq
  split at hq
  ·rename_i j p
   cases hb:Nat.beq j.size 0 with
   | true=>rw[hb] at hq;simp at hq
   | false =>
    rw[hb] at hq
    simp only[cond_false,Option.some.injEq] at hq
    have l:j.size≠0:=fun e=>by rw[e] at hb;simp at hb
    simp only[Instr.fieldAt,underlying,Sem.run_bind,run_program,Result.andThen_ok,m,Sem.run_pure,c,Instr.sureAddr,fieldPlace,sizeOf,typeInfo,p,l,if_false,jL,hq]
  cases hq
 | _=>simp[Zgl] at b
end
def ZcL:List AV→Option (List Value)
 | []=>some []
 | .v x :: l=>match ZcL l with | some m=>some (x :: m) | none=>none
 | .p _ _ :: _=>none
theorem ZkY {l:List AV}{m:List Value}(h:ZcL l=some m)(L:Nat→Nat):l.map (AV.conc L)=m:=by
 induction l generalizing m with
 | nil=>simp only[ZcL,Option.some.injEq] at h;subst h;rfl
 | cons x l ih =>
  cases x with
  | p b off=>simp[ZcL] at h
  | v x =>
   unfold ZcL at h
   split at h
   ·rename_i d c
    injection h with h
    subst h
    simp only[List.map_cons,ih c,AV.conc]
   cases h
def lK:AV→List AV
 | .v x=>x.cells.toList.map .v
 | .p b off=>[.p b off]
theorem Zea (L:Nat→Nat)(x:AV):(lK x).map (AV.conc L)=(x.conc L).cells.toList:=by
 cases x with
 | v x=>simp only[lK,AV.conc,List.map_map];exact (List.map_congr_left (fun _ _=>rfl)).trans (List.map_id _)
 | p b off=>rfl
theorem mapv (L:Nat→Nat)(l:List Value):(l.map AV.v).map (AV.conc L)=l:=by
 rw[List.map_map];exact (List.map_congr_left (fun _ _=>rfl)).trans (List.map_id _)
abbrev NewB:=Option (TypeId×List AV)
def St.app (s:St) (d:Nat) (r:AV×NewB):St:={ sl:=upd s.sl d r.1,bl:=match r.2 with | none=>s.bl | some q=>upd s.bl d q }
def St.put (s:St) (d:Nat) (x:AV):St:={ s with sl:=upd s.sl d x }
def St.wantB (s:St) (ops:Array Oper) (o:Oper):Option Bool :=
 match o.guard with
 | none=>some true
 | some (g,want) =>
  match (ops[g]?).bind (·.dst) with
  | none=>none
  | some t=>match s.sl t with
    | some (.v (.bool b))=>some (b == want)
    | some (.v (.tuple _))=>some false
    | _=>none
def lY (P:Program) (o:Oper) (s:St):Option AV :=
 bif jD o.op && o.op.operands.toList.all s.vB then (match Zbp P (execOp s.rho o) with | some (.value y)=>some (.v y) | _=>none) else none
def ZbF (P:Program) (s:St) (t:TypeId) (b off:Nat):Option AV :=
 match teOf P t,s.bl b with
 | some e,some (_,cs) =>
  bif e.agg then (bif Nat.ble (off+e.size) cs.length then (match ZcL ((cs.drop off).take e.size) with | some l=>some (.v (.agg l.toArray)) | none=>none) else none)
  else cs[off]?
 | _,_=>none
def ZaF (s:St) (d:Option Nat) (t:TypeId) (cs:List AV):Option (AV×NewB) :=
 match d with
 | some d=>bif (s.bl d).isNone && cs.all fJ then some (.p d 0,some (t,cs)) else none
 | none=>none
def noB (x:Option AV):Option (AV×NewB):=match x with | some y=>some (y,none) | none=>none
def jR (P:Program) (ops:Array Oper) (o:Oper) (s:St):Option (AV × NewB) :=
 match s.wantB ops o with
 | none=>none
 | some false=>some (.v undef,none)
 | some true =>
  match o.op with
  | .move x=>noB (s.eval x)
  | .assign x=>noB (s.eval x)
  | .pick c x y=>match s.eval c with
    | some (.v (.bool b))=>noB (bif b then s.eval x else s.eval y)
    | _=>none
  | .alloc t=>match teOf P t with | some e=>ZaF s o.dst t (e.zero.map .v) | none=>none
  | .box t x=>match s.eval x with | some y=>ZaF s o.dst t (lK y) | none=>none
  | .fieldAddr t x f=>match s.eval x with
    | some (.p b off)=>match teOf P t with
      | some e=>match e.offs[f]? with | some (some k)=>some (.p b (off + k),none) | _=>none
      | none=>none
    | _=>noB (lY P o s)
  | .load t x=>match s.eval x with
    | some (.p b off)=>noB (ZbF P s t b off)
    | _=>none
  | .nilCheck x=>match s.eval x with
    | some (.p b off)=>some (.p b off,none)
    | _=>noB (lY P o s)
  | _=>noB (lY P o s)
section
variable {N:Nat} {S0:Nat→Prop} {w0:World} {s:St} {Φ:World→Prop} {L:Nat→Nat} {a:Act} {w:World} {P:Program} {ops:Array Oper} {Q:Exit→Act→World→Prop}
theorem Inv.want (h:Inv N S0 w0 s Φ L a w){o:Oper}{r:Bool}(hw:s.wantB ops o=some r):Region.wanted o (yielded ops a.tmps)=r:=by
 unfold St.wantB at hw
 unfold Region.wanted
 split at hw
 ·rename_i e;rw[e];injection hw
 rename_i g want e
 rw[e]
 split at hw
 ·cases hw
 rename_i t d
 split at hw
 ·rename_i b c
  injection hw with hw
  subst hw
  have:=h.sl t _ c
  simp only[AV.conc] at this
  simp only[yielded,d,Option.bind_some,this]
  rfl
 ·rename_i f c
  injection hw with hw
  subst hw
  have:=h.sl t _ c
  simp only[AV.conc] at this
  simp only[yielded,d,Option.bind_some,this]
  rfl
 cases hw
def AV.al (s:St) (x:AV):Prop:=∀ b off,x=.p b off→(s.bl b).isSome=true
theorem al_v (x:Value):AV.al s (.v x):=fun _ _ e=>by cases e
theorem Inv.app0 (h:Inv N S0 w0 s Φ L a w){d:Nat}(g:d<N){x:AV}(j:x.al s):Inv N S0 w0 (s.app d (x,none)) Φ L (a.put (some d) (x.conc L)) w:=by
 refine⟨by simp[Act.put,h.size],h.df,fun i y f=>?_,⟨h.mem.blk,h.mem.inj,h.mem.old,h.mem.ext,fun i b c hi=>?_,h.mem.cel⟩,h.box⟩
 ·by_cases e:i=d
  ·subst e
   simp only[St.app,kC,Option.some.injEq] at f
   subst f
   simp[Act.put,h.size,g]
  simp only[St.app,lI _ _ e] at f
  simp only[Act.put]
  rw[Array.getElem?_setIfInBounds_ne (Ne.symm e)]
  exact h.sl i y f
 by_cases e:i=d
 ·subst e
  simp only[St.app,kC,Option.some.injEq] at hi
  exact j b c hi
 simp only[St.app,lI _ _ e] at hi
 exact h.mem.slp i b c hi
def newL (L:Nat→Nat) (d g:Nat):Nat→Nat:=fun b=>if b=d then g else L b
theorem Zju {d g:Nat}(f:s.bl d=none){x:AV}(h:x.al s):x.conc (newL L d g)=x.conc L:=by
 cases x with
 | v x=>rfl
 | p b off =>
  have:=h b off rfl
  have c:b≠d:=fun e=>by rw[e,f] at this;cases this
  simp[AV.conc,newL,c]
theorem Inv.appN (h:Inv N S0 w0 s Φ L a w){d:Nat}(H:d<N)(E:s.bl d=none){t:TypeId}{cs:List AV}(G:∀ x,x∈cs→fJ x=true∧x.al s) :
 Inv N S0 w0 (s.app d (.p d 0,some (t,cs))) Φ (newL L d w.heap.size) (a.put (some d) (.pointer (some ⟨w.heap.size,0,none⟩))) (w.alloc (.cells (cs.map (AV.conc L)).toArray t)):=by
 have A:∀ b,(s.bl b).isSome=true→L b<w.heap.size:=fun b hb=>by
  obtain⟨⟨z,k⟩,e⟩:=Option.isSome_iff_exists.1 hb
  exact (h.mem.blk b z k e).lt
 have v:∀ b,(s.bl b).isSome=true→b≠d:=fun b hb e=>by rw[e,E] at hb;cases hb
 have f:∀ b,b≠d→(s.app d (.p d 0,some (t,cs))).bl b=s.bl b:=fun b e=>lI _ _ e
 have m:(s.app d (.p d 0,some (t,cs))).bl d=some (t,cs):=kC _ _ _
 have j:∀ (l:List AV),(∀ x,x∈l→x.al s)→l.map (AV.conc (newL L d w.heap.size))=l.map (AV.conc L):=fun l I=>List.map_congr_left (fun x u=>Zju E (I x u))
 have n:newL L d w.heap.size d=w.heap.size:=by simp[newL]
 have g:∀ b,b≠d→newL L d w.heap.size b=L b:=fun b e=>by simp[newL,e]
 refine⟨by simp[Act.put,h.size],h.df,fun i y B=>?_,⟨fun b z k hb=>?_,fun b c hb r e=>?_,fun b hb=>?_,h.mem.ext.alloc _,fun i b o hi=>?_,fun b z k hb x u=>?_⟩,?_⟩
 ·by_cases e:i=d
  ·subst e
   simp only[St.app,kC,Option.some.injEq] at B
   subst B
   simp[Act.put,h.size,H,AV.conc,newL]
  simp only[St.app,lI _ _ e] at B
  simp only[Act.put]
  rw[Array.getElem?_setIfInBounds_ne (Ne.symm e),h.sl i y B]
  rw[Zju E (fun b o J=>h.mem.slp i b o (by rw[B,J]))]
 ·by_cases e:b=d
  ·subst e
   rw[m] at hb
   injection hb with hb
   injection hb with h1 h2
   subst h1;subst h2
   rw[n,j _ (fun x u=>(G x u).2)]
   exact Blk.new _ _ _
  rw[f b e] at hb
  rw[g b e,j _ (fun x u=>(h.mem.cel b z k hb x u).2)]
  exact (h.mem.blk b z k hb).alloc _
 ·by_cases C:b=d
  ·by_cases q:c=d
   ·rw[C,q]
   rw[f c q] at r
   rw[C,n,g c q] at e
   have:=A c r
   omega
  rw[f b C] at hb
  by_cases q:c=d
  ·rw[q,n,g b C] at e
   have:=A b hb
   omega
  rw[f c q] at r
  rw[g b C,g c q] at e
  exact h.mem.inj b c hb r e
 ·by_cases e:b=d
  ·rw[e,n];exact Or.inl h.mem.ext.size
  rw[f b e] at hb
  rw[g b e];exact h.mem.old b hb
 ·by_cases e:b=d
  ·rw[e,m];rfl
  rw[f b e]
  by_cases q:i=d
  ·subst q
   simp only[St.app,kC,Option.some.injEq] at hi
   injection hi with h1 h2
   exact absurd h1.symm e
  simp only[St.app,lI _ _ q] at hi
  exact h.mem.slp i b o hi
 ·have D:fJ x=true∧x.al s:=by
   by_cases e:b=d
   ·subst e
    rw[m] at hb
    injection hb with hb
    injection hb with h1 h2
    subst h2
    exact G x u
   rw[f b e] at hb
   exact h.mem.cel b z k hb x u
  refine⟨D.1,fun c o e=>?_⟩
  have:=D.2 c o e
  rw[f c (v c this)];exact this
 intro w' K
 refine h.box w' (((Fr.refl (s.own L) w).alloc (.cells (cs.map (AV.conc L)).toArray t)).next K (fun i hi M=>?_))
 obtain⟨b,hb,F⟩:=M
 by_cases e:b=d
 ·rw[e,n] at F;omega
 rw[f b e] at hb
 rw[g b e] at F
 exact⟨b,hb,F⟩
theorem ZiV (hi:Inv N S0 w0 s Φ L a w){o:Oper}{x:AV}(h:lY P o s=some x):∃ y,x=.v y∧(execOp a.eval o).run P w=.ok (.value y) w:=by
 unfold lY at h
 cases hb:jD o.op && o.op.operands.toList.all s.vB with
 | false=>rw[hb] at h;cases h
 | true =>
  rw[hb] at h
  rw[Bool.and_eq_true] at hb
  simp only[cond_true] at h
  split at h
  ·rename_i y b
   injection h with h
   refine⟨y,h.symm,?_⟩
   rw[hi.exec hb.1 hb.2]
   exact Zcw b w
  cases h
theorem Zeb (hi:Inv N S0 w0 s Φ L a w){t b off:Nat}{x:AV}(h:ZbF P s t b off=some x):x.al s∧(Instr.loadAt t (.pointer (some ⟨L b,off,none⟩))).run P w=.ok (x.conc L) w:=by
 unfold ZbF at h
 split at h
 ·rename_i e f cs g i
  have k:=hi.mem.blk b f cs i
  cases ha:e.agg with
  | true =>
   rw[ha] at h
   simp only[cond_true] at h
   cases hle:Nat.ble (off+e.size) cs.length with
   | false=>rw[hle] at h;cases h
   | true =>
    rw[hle] at h
    simp only[cond_true] at h
    have m:=Nat.le_of_ble_eq_true hle
    split at h
    ·rename_i l n
     injection h with h
     subst h
     refine⟨al_v _,?_⟩
     have c:=ZkY n L
     have d:l.length=e.size:=by rw[←c,List.length_map,List.length_take,List.length_drop];omega
     refine Zaa g d (fun j p=>?_) ha
     rw[k.cell,← c]
     rw[List.getElem?_toArray,List.getElem?_map,List.getElem?_map,List.getElem?_take_of_lt (by omega),List.getElem?_drop]
     rw[List.getElem?_eq_getElem (by omega)]
     rfl
    cases h
  | false =>
   rw[ha] at h
   simp only[cond_false] at h
   have o:x∈cs:=List.mem_of_getElem? h
   refine⟨(hi.mem.cel b f cs i x o).2,Zcx g ?_ ha⟩
   rw[k.cell,List.getElem?_toArray,List.getElem?_map,h]
   rfl
 cases h
theorem Zbb {d:Option Nat}{t:TypeId}{cs:List AV}{r:AV×NewB}(h:ZaF s d t cs=some r):∃ k,d=some k∧r=(.p k 0,some (t,cs))∧s.bl k=none∧∀ x,x∈cs→fJ x=true:=by
 unfold ZaF at h
 split at h
 ·rename_i k
  cases hb:(s.bl k).isNone && cs.all fJ with
  | false=>rw[hb] at h;cases h
  | true =>
   rw[hb] at h
   simp only[cond_true,Option.some.injEq] at h
   rw[Bool.and_eq_true] at hb
   exact⟨k,rfl,h.symm,Option.isNone_iff_eq_none.1 hb.1,fun x b=>List.all_eq_true.1 hb.2 x b⟩
 cases h
def Yld (N:Nat) (S0:Nat→Prop) (w0:World) (P:Program) (ops:Array Oper) (o:Oper) (s:St) (Φ:World→Prop) (a:Act) (w:World):Prop :=
 ∃ (v:Value) (w':World) (L':Nat→Nat),Inv N S0 w0 s Φ L' (a.put o.dst v) w' ∧
   ((Region.wanted o (yielded ops a.tmps)=true∧(execOp a.eval o).run P w=.ok (.value v) w')∨(Region.wanted o (yielded ops a.tmps)=false∧v=undef∧w'=w))
theorem lS {x:Option AV}{r:AV×NewB}(h:noB x=some r):∃ y,x=some y∧r=(y,none):=by
 cases x with
 | none=>cases h
 | some y=>injection h with h;exact⟨y,rfl,h.symm⟩
theorem Zid (hi:Inv N S0 w0 s Φ L a w){o:Oper}{r:AV×NewB}(h:jR P ops o s=some r){d:Nat}(E:o.dst=some d)(F:d<N):Yld N S0 w0 P ops o (s.app d r) Φ a w:=by
 have same:∀ (x:AV),r=(x,none)→x.al s→Region.wanted o (yielded ops a.tmps)=true→(execOp a.eval o).run P w=.ok (.value (x.conc L)) w→Yld N S0 w0 P ops o (s.app d r) Φ a w :=
  fun x e i m u=>by subst e;exact⟨x.conc L,w,L,by rw[E];exact hi.app0 F i,Or.inl ⟨m,u⟩⟩
 have A:noB (lY P o s)=some r→Region.wanted o (yielded ops a.tmps)=true→Yld N S0 w0 P ops o (s.app d r) Φ a w:=fun h m=>by
  obtain⟨x,i,e⟩:=lS h
  obtain⟨y,I,u⟩:=ZiV hi i
  subst I
  exact same (.v y) e (al_v y) m u
 have evl:∀ {x:Operand} {y:AV},s.eval x=some y→y.al s:=fun i b off e=>hi.mem.evp (off:=off) (by subst e;exact i)
 have new:∀ {t:TypeId} {cs:List AV} {c0:Array Value},ZaF s o.dst t cs=some r→(∀ x,x∈cs→x.al s)→(cs.map (AV.conc L)).toArray=c0→Region.wanted o (yielded ops a.tmps)=true →
  (execOp a.eval o).run P w=.ok (.value (.pointer (some ⟨w.heap.size,0,none⟩))) (w.alloc (.cells c0 t))→Yld N S0 w0 P ops o (s.app d r) Φ a w:=fun h B e m u=>by
  obtain⟨k,C,G,J,D⟩:=Zbb h
  rw[E] at C
  injection C with C
  subst C;subst G;subst e
  exact⟨_,_,_,by rw[E];exact hi.appN F J (fun x i=>⟨D x i,B x i⟩),Or.inl ⟨m,u⟩⟩
 unfold jR at h
 split at h
 ·cases h
 ·rename_i m
  injection h with h
  subst h
  exact⟨undef,w,L,by rw[E];exact hi.app0 (x:=.v undef) F (al_v _),Or.inr ⟨hi.want m,rfl,rfl⟩⟩
 rename_i m
 have g:=hi.want m
 split at h
 ·rename_i x j
  obtain⟨y,q,e⟩:=lS h
  exact same y e (evl q) g (by simp only[execOp,j,Sem.run_pure,hi.eval q])
 ·rename_i x j
  obtain⟨y,q,e⟩:=lS h
  exact same y e (evl q) g (by simp only[execOp,j,Sem.run_pure,hi.eval q])
 ·rename_i c x y j
  split at h
  ·rename_i b n
   obtain⟨z,l,e⟩:=lS h
   have D:=hi.eval n
   simp only[AV.conc] at D
   cases b with
   | true =>
    simp only[cond_true] at l
    exact same z e (evl l) g (by simp only[execOp,j,D,asBool,Sem.run_bind,Sem.run_pure,Result.andThen_ok,if_true,hi.eval l])
   | false =>
    simp only[cond_false] at l
    exact same z e (evl l) g (by simp only[execOp,j,D,asBool,Sem.run_bind,Sem.run_pure,Result.andThen_ok,Bool.false_eq_true,if_false,hi.eval l])
  cases h
 ·rename_i t j
  split at h
  ·rename_i e H
   refine new (c0:=e.zero.toArray) h (fun x i=>?_) (by rw[mapv]) g (by simp only[execOp,j,Sem.run_bind,Zoj H,Result.andThen_ok,Sem.run_pure])
   obtain⟨y,_,rfl⟩:=List.mem_map.1 i
   exact al_v y
  cases h
 ·rename_i t x j
  split at h
  ·rename_i y q
   refine new (c0:=(y.conc L).cells) h (fun z l=>?_) (by rw[Zea]) g (by simp only[execOp,j,Sem.run_bind,hi.eval q,Zse,Result.andThen_ok,Sem.run_pure])
   cases y with
   | v y=>obtain⟨c,_,rfl⟩:=List.mem_map.1 l;exact al_v c
   | p b off=>simp only[lK,List.mem_singleton] at l;subst l;exact evl q
  cases h
 ·rename_i t x f j
  split at h
  ·rename_i b off n
   split at h
   ·rename_i e H
    split at h
    ·rename_i k C
     injection h with h
     have i:=hi.eval n
     simp only[AV.conc] at i
     refine same (.p b (off+k)) h.symm (fun c M K=>?_) g (by simp only[execOp,j,Sem.run_bind,i,Zok H C,Result.andThen_ok,Sem.run_pure,AV.conc])
     injection K with G _
     rw[←G]
     exact evl n b off rfl
    cases h
   cases h
  exact A h g
 ·rename_i t x j
  split at h
  ·rename_i b off n
   obtain⟨z,l,e⟩:=lS h
   obtain⟨B,u⟩:=Zeb hi l
   have i:=hi.eval n
   simp only[AV.conc] at i
   exact same z e B g (by simp only[execOp,j,Sem.run_bind,i,u,Result.andThen_ok,Sem.run_pure])
  cases h
 ·rename_i x j
  split at h
  ·rename_i b off n
   injection h with h
   have i:=hi.eval n
   simp only[AV.conc] at i
   exact same (.p b off) h.symm (evl n) g (by simp only[execOp,j,i,Sem.run_pure,AV.conc])
  exact A h g
 exact A h g
theorem Yld.step {o:Oper}(h:Yld N S0 w0 P ops o s Φ a w){K:Act→World→Prop}(b:∀ L a w,Inv N S0 w0 s Φ L a w→K a w) :
 if Region.wanted o (yielded ops a.tmps)=true then o.wp P a w K Q else K (a.put o.dst undef) w:=by
 obtain⟨v,w',d,hi,h|⟨c,rfl,rfl⟩⟩:=h
 ·rw[if_pos h.1]
  unfold Oper.wp
  rw[h.2]
  exact b _ _ _ hi
 rw[if_neg (by rw[c];simp)]
 exact b _ _ _ hi
end
def opAt (ops:Array Oper) (i:Nat):Oper:=ops.toList.getD i default
def iX (cs:Array Value):Prop:=∀ (i:Nat) (k:IntKind) (z:Int),cs[i]? = some (.int k z)→k=.i64
def NRB (w:World) (i:Nat):Prop:=∃ t cs,Blk t w i cs∧iX cs
def BoxN (w w':World) (φ:World→Prop):Prop:=∀ S:Nat→Prop,(∀ i,S i→i<w.heap.size∧NRB w i)→Box S w' φ
theorem BoxN.and {w w':World}{φ ψ:World→Prop}(h:BoxN w w' φ)(k:BoxN w w' ψ):BoxN w w' (fun w=>φ w∧ψ w):=fun S b=>(h S b).and (k S b)
theorem BoxN.pure {w w':World}{p:Prop}(h:p):BoxN w w' (fun _=>p):=fun _ _ _ _=>h
def DoR {α:Type} (sh:α→Value) (φ:α→World→Prop) (w:World) (y:Value) (w':World):Prop:=∃ x:α,y=sh x∧Ext w w'∧BoxN w w' (φ x)
def lD {α:Type} (sh:α→Value) (φ:α→World→Prop) (w:World) (e:Ending) (w':World):Prop:=∃ x:α,e=.returned (sh x)∧Ext w w'∧BoxN w w' (φ x)
def Does (P:Program) (o:Oper) (ρ:Operand→Value) (w:World) (R:Value→World→Prop):Prop :=
 (∃ y w',(execOp ρ o).run P w=.ok (.value y) w'∧R y w') ∨
 (∃ f args w1,(execOp ρ o).run P w=.ok (.enter f args) w1∧Calls P f args w1 fun e w'=>∃ y,e=.returned y∧R y w')
def cF {α:Type}:List (Nat × α)→Nat→Option α
 | []=>fun _=>none
 | q :: l=>upd (cF l) q.1 q.2
theorem lV {α:Type}{l:List (Nat × α)}{i:Nat}{x:α}(h:cF l i=some x):(i,x)∈l:=by
 induction l with
 | nil=>cases h
 | cons q l ih =>
  obtain⟨k,y⟩:=q
  by_cases e:i=k
  ·subst e
   simp only[cF,kC,Option.some.injEq] at h
   subst h
   exact List.mem_cons_self
  simp only[cF,lI _ _ e] at h
  exact List.mem_cons_of_mem _ (ih h)
abbrev SlL:=List (Nat × AV)
abbrev BlL:=List (Nat × TypeId×List AV)
def ofL (sl:SlL) (bl:BlL):St:=⟨cF sl,cF bl⟩
def alB (bl:BlL):AV→Bool
 | .v _=>true
 | .p b _=>(cF bl b).isSome
def wfB (sl:SlL) (bl:BlL):Bool:=sl.all (fun q=>alB bl q.2) && bl.all (fun q=>q.2.2.all (alB bl))
def iN (s:St) (sl:SlL) (bl:BlL):Prop:=(sl.map (fun q=>s.sl q.1),bl.map (fun q=>s.bl q.1))=(sl.map (fun q=>some q.2),bl.map (fun q=>some q.2))
theorem gO {α β:Type}{f g:α→β}{l:List α}(h:l.map f=l.map g){x:α}(hx:x∈l):f x=g x:=by
 induction l with
 | nil=>cases hx
 | cons y l ih =>
  simp only[List.map_cons,List.cons.injEq] at h
  rcases List.mem_cons.1 hx with e|hx
  ·rw[e];exact h.1
  exact ih h.2 hx
section
variable {N:Nat} {S0:Nat→Prop} {w0:World} {s:St} {Φ Ψ:World→Prop} {L:Nat→Nat} {a:Act} {w:World} {P:Program} {ops:Array Oper} {Q:Exit→Act→World→Prop}
theorem Inv.weak (h:Inv N S0 w0 s Φ L a w){sl:SlL}{l:BlL}(r:iN s sl l)(m:wfB sl l=true)(Q:∀ w,Φ w→Ψ w):Inv N S0 w0 (ofL sl l) Ψ L a w:=by
 unfold iN at r
 injection r with hs hb
 unfold wfB at m
 rw[Bool.and_eq_true] at m
 have n:∀ i x,(ofL sl l).sl i=some x→s.sl i=some x:=fun i x j=>gO (f:=fun q:Nat × AV=>s.sl q.1) (g:=fun q=>some q.2) hs (lV j)
 have k:∀ i x,(ofL sl l).bl i=some x→s.bl i=some x:=fun i x j=>gO (f:=fun q:Nat × TypeId×List AV=>s.bl q.1) (g:=fun q=>some q.2) hb (lV j)
 have d:∀ b,((ofL sl l).bl b).isSome=true→(s.bl b).isSome=true:=fun b hb=>by
  obtain⟨q,e⟩:=Option.isSome_iff_exists.1 hb
  rw[k b q e];rfl
 refine⟨h.size,h.df,fun i x j=>h.sl i x (n i x j),⟨fun b t o e=>h.mem.blk b t o (k b _ e),fun b c hb u=>h.mem.inj b c (d b hb) (d c u),fun b hb=>h.mem.old b (d b hb),h.mem.ext,fun i b p e=>?_,fun b t o e x j=>⟨(h.mem.cel b t o (k b _ e) x j).1,fun c p v=>?_⟩⟩,fun w' y=>Q _ (h.box w' (y.mono (fun i _ hi=>?_)))⟩
 ·have:=List.all_eq_true.1 m.1 _ (lV e)
  exact this
 ·have:=List.all_eq_true.1 (List.all_eq_true.1 m.2 _ (lV e)) x j
  rw[v] at this
  exact this
 obtain⟨b,hb,e⟩:=hi
 exact⟨b,d b hb,e⟩
theorem Inv.own_nrb (h:Inv N S0 w0 s Φ L a w){i:Nat}(hi:s.own L i):i<w.heap.size∧NRB w i:=by
 obtain⟨b,l,e⟩:=hi
 obtain⟨⟨t,c⟩,d⟩:=Option.isSome_iff_exists.1 l
 have f:=h.mem.blk b t c d
 subst e
 refine⟨f.lt,t,_,f,fun j k z g=>?_⟩
 rw[List.getElem?_toArray,List.getElem?_map,Option.map_eq_some_iff] at g
 obtain⟨x,m,ex⟩:=g
 exact Zoi (h.mem.cel b t c d x (List.mem_of_getElem? m)).1 ex
theorem Inv.called (h:Inv N S0 w0 s Φ L a w){w':World}{φ:World→Prop}(f:Ext w w')(g:BoxN w w' φ){d:Nat}(j:d<N)(v:Value):Inv N S0 w0 (s.app d (.v v,none)) (fun w=>Φ w∧φ w) L (a.put (some d) v) w':=by
 have c:=h.app0 j (al_v (s:=s) v)
 exact⟨c.size,c.df,c.sl,⟨fun b t k e=>(c.mem.blk b t k e).ext f,c.mem.inj,c.mem.old,c.mem.ext.ext f,c.mem.slp,c.mem.cel⟩,(c.box.ext f).and (g _ (fun i hi=>h.own_nrb hi))⟩
theorem Zjv (hi:Inv N S0 w0 s Φ L a w){o:Oper}{d:Nat}{α:Type}{sh:α→Value}{φ:α→World→Prop}(m:s.wantB ops o=some true)(n:jD o.op=true)(p:o.op.operands.toList.all s.vB=true)(i:o.dst=some d)(j:d<N)(b:∀ w,Fr S0 w0 w→Φ w→Does P o s.rho w (DoR sh φ w)){K:Act→World→Prop}(k:∀ x L a w,Inv N S0 w0 (s.app d (.v (sh x),none)) (fun w=>Φ w∧φ x w) L a w→K a w) :
 if Region.wanted o (yielded ops a.tmps)=true then o.wp P a w K Q else K (a.put o.dst undef) w:=by
 rw[if_pos (hi.want m)]
 unfold Oper.wp
 rw[hi.exec n p]
 rcases b w hi.mem.ext hi.box.self with ⟨y,w',c,x,rfl,g,h⟩|⟨f,l,t,c,q⟩
 ·rw[c,Oper.upon_value,i]
  exact k x _ _ _ (hi.called g h j _)
 rw[c,Oper.upon_enter]
 refine Calls.mono q fun e w' r=>?_
 obtain⟨y,rfl,x,rfl,g,h⟩:=r
 simp only[i]
 exact k x _ _ _ (hi.called g h j _)
theorem Zsf (hi:Inv N S0 w0 s Φ L a w){o:Oper}{d:Nat}{α:Type}{sh:α→Value}{E:α→World→World→Prop}(k:s.wantB ops o=some true)(l:jD o.op=true)(m:o.op.operands.toList.all s.vB=true)(h:o.dst=some d)(b:∀ w,Fr S0 w0 w→Φ w→Does P o s.rho w (fun y w'=>∃ x,y=sh x∧E x w w')){K:Act→World→Prop}(i:∀ x w',E x w w'→K (a.put (some d) (sh x)) w') :
 if Region.wanted o (yielded ops a.tmps)=true then o.wp P a w K Q else K (a.put o.dst undef) w:=by
 rw[if_pos (hi.want k)]
 unfold Oper.wp
 rw[hi.exec l m]
 rcases b w hi.mem.ext hi.box.self with ⟨y,w',c,x,rfl,g⟩|⟨f,j,q,c,n⟩
 ·rw[c,Oper.upon_value,h]
  exact i x _ g
 rw[c,Oper.upon_enter]
 refine Calls.mono n fun e w' p=>?_
 obtain⟨y,rfl,x,rfl,g⟩:=p
 simp only[h]
 exact i x _ g
end
def cG (P:Program) (ops:Array Oper) (o:Oper) (s:St):Option St :=
 match s.wantB ops o with
 | none=>none
 | some false=>some s
 | some true =>
  match o.op with
  | .store t x y =>
   match s.eval x,s.eval y,teOf P t with
   | some (.p b off),some z,some e =>
    match s.bl b with
    | some (bt,cs)=>bif Nat.beq (lK z).length e.size && (Nat.ble (off+(lK z).length) cs.length && (lK z).all fJ) then some { s with bl:=upd s.bl b (bt,lM cs off (lK z)) } else none
    | none=>none
   | _,_,_=>none
  | _=>none
def stpL (P:Program) (N:Nat) (ops:Array Oper) (o:Oper) (s:St):Option St :=
 match o.dst with
 | some d=>bif Nat.blt d N then (match jR P ops o s with | some r=>some (s.app d r) | none=>none) else none
 | none=>cG P ops o s
def runL (P:Program) (N:Nat) (ops:Array Oper):List Oper→St→Option St
 | [],s=>some s
 | o :: l,s=>match stpL P N ops o s with | some s'=>runL P N ops l s' | none=>none
def Zgn (s:St) (o:Oper):Option (FuncId × List Value) :=
 match o.op with
 | .call c=>match c.callee with
   | .value fo=>match s.eval fo with
     | some (.v (.func (.func f) first captured))=>some (f,first.toList ++ c.args.toList.map s.rho ++ captured.toList)
     | _=>none
   | _=>none
 | _=>none
def ZcM (P:Program) (f:FuncId):Bool :=
 match P.funcs[f]? with
 | some fn => !(fn.name == "runtime.NumGoroutine") && !fn.body.isNone
 | none=>false
def fL (P:Program) (N:Nat) (ops:Array Oper) (o:Oper) (s:St):Option (FuncId×List Value×Nat) :=
 match s.wantB ops o,Zgn s o,o.dst with
 | some true,some q,some d=>bif jD o.op && (o.op.operands.toList.all s.vB && (ZcM P q.1 && Nat.blt d N)) then some (q.1,q.2,d) else none
 | _,_,_=>none
def Zi5 (P:Program) (s:St):ResultVar→Option Value
 | .tmp t=>match s.sl t with | some (.v x)=>some x | _=>none
 | .cell t ty=>match s.sl t with
   | some (.p b off)=>match ZbF P s ty b off with | some (.v x)=>some x | _=>none
   | _=>none
def resL (P:Program) (s:St):List ResultVar→Option (List Value)
 | []=>some []
 | r :: l=>match Zi5 P s r,resL P s l with | some x,some m=>some (x :: m) | _,_=>none
def Zi6 (P:Program) (fn:Func) (s:St):Option Value :=
 match resL P s fn.results.toList with
 | some [x]=>some x
 | some m=>some (.tuple m.toArray)
 | none=>none
def Zdc:Nat→List Value→SlL
 | _,[]=>[]
 | k,x :: l=>(k,.v x) :: Zdc (k+1) l
section
variable {N:Nat} {S0:Nat→Prop} {w0:World} {s:St} {Φ Ψ:World→Prop} {L:Nat→Nat} {a:Act} {w:World} {P:Program} {ops:Array Oper} {Q:Exit→Act→World→Prop}
theorem Zm3 {α β:Type}(f:α→β)(l:List α)(off:Nat)(cs:List α):(lM l off cs).map f=lM (l.map f) off (cs.map f):=by
 simp[lM,List.map_take,List.map_drop]
theorem Zgo {α:Type}{l:List α}{off:Nat}{cs:List α}{x:α}(h:x∈lM l off cs):x∈l∨x∈cs:=by
 unfold lM at h
 rcases List.mem_append.1 h with h|h
 ·rcases List.mem_append.1 h with h|h
  ·exact Or.inl (List.mem_of_mem_take h)
  exact Or.inr h
 exact Or.inl (List.mem_of_mem_drop h)
theorem Zie (hi:Inv N S0 w0 s Φ L a w){o:Oper}{s':St}(h:cG P ops o s=some s')(U:o.dst=none){K:Act→World→Prop}(V:∀ L a w,Inv N S0 w0 s' Φ L a w→K a w) :
 if Region.wanted o (yielded ops a.tmps)=true then o.wp P a w K Q else K (a.put o.dst undef) w:=by
 unfold cG at h
 split at h
 ·cases h
 ·rename_i E
  injection h with h
  subst h
  rw[if_neg (by rw[hi.want E];simp),U]
  exact V _ _ _ hi
 rename_i E
 rw[if_pos (hi.want E)]
 split at h
 ·rename_i t x y Z
  split at h
  ·rename_i b off z e hx W he
   split at h
   ·rename_i D cs F
    cases hc:(Nat.beq (lK z).length e.size && (Nat.ble (off+(lK z).length) cs.length && (lK z).all fJ)) with
    | false=>rw[hc] at h;cases h
    | true =>
     rw[hc] at h
     simp only[cond_true,Option.some.injEq] at h
     simp only[Bool.and_eq_true] at hc
     have hn:=Nat.eq_of_beq_eq_true hc.1
     have hl:=Nat.le_of_ble_eq_true hc.2.1
     have r:∀ c,c∈lK z→fJ c=true:=fun c j=>List.all_eq_true.1 hc.2.2 c j
     have m:(s.bl b).isSome=true:=by rw[F];rfl
     have ex:=hi.eval hx
     have ey:=hi.eval W
     simp only[AV.conc] at ex
     have k:=Zea L z
     have hB:=hi.mem.blk b D cs F
     have G:∀ c,c∈lK z→c.al s:=fun c j=>by
      cases z with
      | v y=>obtain⟨X,_,rfl⟩:=List.mem_map.1 j;exact al_v _
      | p b' off'=>simp only[lK,List.mem_singleton] at j;subst j;exact fun b2 Y u=>by injection u with e3 _;rw[←e3];exact hi.mem.evp W
     obtain⟨w',hr,H,I⟩:=ZaE (P:=P) he (v:=z.conc L) hB (by rw[←k];simpa using hn) (by rw[←k];simpa using hl) (fun c j=>by
      rw[←k] at j
      obtain⟨X,f,rfl⟩:=List.mem_map.1 j
      exact Zoh L (r X f))
     unfold Oper.wp
     have A:(execOp a.eval o).run P w=.ok .skip w':=by simp only[execOp,Z,Sem.run_bind,ex,ey,hr,Result.andThen_ok,Sem.run_pure]
     rw[A,Oper.upon_skip,U]
     subst h
     have J:∀ c,c≠b→(s.bl c).isSome=true→L c≠L b:=fun c M O e=>M (hi.mem.inj c b O m e)
     have g:∀ c,((upd s.bl b (D,lM cs off (lK z))) c).isSome=true→(s.bl c).isSome=true:=fun c j=>by
      by_cases e:c=b
      ·rw[e];exact m
      rw[lI _ _ e] at j;exact j
     have l:∀ c,(s.bl c).isSome=true→((upd s.bl b (D,lM cs off (lK z))) c).isSome=true:=fun c j=>by
      by_cases e:c=b
      ·rw[e,kC];rfl
      rw[lI _ _ e];exact j
     refine V L a w' ⟨hi.size,hi.df,hi.sl,⟨fun c R n f=>?_,fun c d f S e=>hi.mem.inj c d (g c f) (g d S) e,fun c f=>hi.mem.old c (g c f),hi.mem.ext.next I (fun i a0 e=>?_),fun i c off' j=>l c (hi.mem.slp i c off' j),fun c R n f q B=>?_⟩,fun w2 T=>?_⟩
     ·by_cases e:c=b
      ·subst e
       simp only[kC,Option.some.injEq] at f
       injection f with e1 u
       subst e1;subst u
       rw[Zm3,k]
       exact H
      simp only[lI _ _ e] at f
      exact (hi.mem.blk c R n f).fr I (J c e (by rw[f];rfl))
     ·rcases hi.mem.old b m with j|j
      ·omega
      rw[e];exact j
     ·have C:fJ q=true∧q.al s:=by
       by_cases e:c=b
       ·subst e
        simp only[kC,Option.some.injEq] at f
        injection f with e1 u
        subst u
        rcases Zgo B with j|j
        ·exact hi.mem.cel c D cs F q j
        exact⟨r q j,G q j⟩
       simp only[lI _ _ e] at f
       exact hi.mem.cel c R n f q B
      exact⟨C.1,fun d off' e=>l d (C.2 d off' e)⟩
     refine hi.box w2 ((I.mono (fun i _ e=>⟨b,m,e.symm⟩)).trans (T.mono (fun i _ j=>?_)))
     obtain⟨c,f,e⟩:=j
     exact⟨c,g c f,e⟩
   cases h
  cases h
 cases h
theorem Zm4 (hi:Inv N S0 w0 s Φ L a w){o:Oper}{s':St}(h:stpL P N ops o s=some s'){K:Act→World→Prop}(c:∀ L a w,Inv N S0 w0 s' Φ L a w→K a w) :
 if Region.wanted o (yielded ops a.tmps)=true then o.wp P a w K Q else K (a.put o.dst undef) w:=by
 unfold stpL at h
 split at h
 ·rename_i d b
  cases hb:Nat.blt d N with
  | false=>rw[hb] at h;cases h
  | true =>
   rw[hb] at h
   simp only[cond_true] at h
   have e:d<N:=Nat.le_of_ble_eq_true hb
   split at h
   ·rename_i r f
    injection h with h
    subst h
    exact (Zid hi f b e).step c
   cases h
 rename_i b
 exact Zie hi h b c
def SXl (P:Program) (N:Nat) (S0:Nat→Prop) (w0:World) (ops:Array Oper) (Q:Exit→Act→World→Prop) (l:List Oper) (s:St) (Φ:World→Prop):Prop:=∀ L a w,Inv N S0 w0 s Φ L a w→wpList P ops Q l a w
def SXi (P:Program) (N:Nat) (S0:Nat→Prop) (w0:World) (ops:Array Oper) (Q:Exit→Act→World→Prop) (i:Nat) (s:St) (Φ:World→Prop):Prop:=SXl P N S0 w0 ops Q (ops.toList.drop i) s Φ
def SXq (N:Nat) (S0:Nat→Prop) (w0:World) (Q:Act→World→Prop) (s:St) (Φ:World→Prop):Prop:=∀ L a w,Inv N S0 w0 s Φ L a w→Q a w
def SXc (P:Program) (N:Nat) (S0:Nat→Prop) (w0:World) (Q:Exit→Act→World→Prop) (c:Code) (s:St) (Φ:World→Prop):Prop:=∀ L a w,Inv N S0 w0 s Φ L a w→c.wp P Q a w
theorem Zgp:∀ (l r:List Oper) (s b:St),runL P N ops l s=some b→SXl P N S0 w0 ops Q r b Φ→SXl P N S0 w0 ops Q (l ++ r) s Φ
 | [],r,s,b,h,k=>by simp only[runL,Option.some.injEq] at h;subst h;exact k
 | o :: l,r,s,b,h,k=>by
  unfold runL at h
  split at h
  ·rename_i c d
   have e:=Zgp l r c b h k
   intro L a w hi
   exact wpList_step (fun K f=>Zm4 hi d (fun L a w hi=>f _ _ (e L a w hi)))
  cases h
def Zgq (P:Program) (N:Nat) (ops:Array Oper) (i k:Nat) (s:St) (sl:SlL) (bl:BlL):Option (List (Option AV)×List (Option (TypeId×List AV))) :=
 match runL P N ops ((ops.toList.drop i).take k) s with
 | some s'=>some (sl.map (fun q=>s'.sl q.1),bl.map (fun q=>s'.bl q.1))
 | none=>none
theorem SXl.weak {l:List Oper}(sl:SlL)(b:BlL)(c:iN s sl b)(d:wfB sl b=true)(R:∀ w,Φ w→Ψ w)(h:SXl P N S0 w0 ops Q l (ofL sl b) Ψ):SXl P N S0 w0 ops Q l s Φ :=
 fun L a w hi=>h L a w (hi.weak c d R)
theorem Zol {i:Nat}(k:Nat)(sl:SlL)(b:BlL)(h:Zgq P N ops i k s sl b=some (sl.map (fun q=>some q.2),b.map (fun q=>some q.2)))(c:wfB sl b=true)(K:SXi P N S0 w0 ops Q (i+k) (ofL sl b) Φ):SXi P N S0 w0 ops Q i s Φ:=by
 unfold Zgq at h
 split at h
 ·rename_i d f
  injection h with h
  unfold SXi at K ⊢
  have e:ops.toList.drop i=(ops.toList.drop i).take k ++ ops.toList.drop (i+k):=by rw[←List.drop_drop,List.take_append_drop]
  rw[e]
  exact Zgp _ _ s d f (SXl.weak sl b h c (fun _ h=>h) K)
 cases h
theorem gU {i:Nat}(h:Nat.blt i ops.size=true):ops.toList.drop i=opAt ops i :: ops.toList.drop (i+1):=by
 have b:i<ops.size:=Nat.le_of_ble_eq_true h
 rw[List.drop_eq_getElem_cons (by simpa using b)]
 simp[opAt,b]
theorem ZaX {o:Oper}{f:FuncId}{args:List Value}(h:Zgn s o=some (f,args))(hk:ZcM P f=true):(execOp s.rho o).run P w=.ok (.enter f args.toArray) w:=by
 unfold Zgn at h
 split at h
 ·rename_i c ho
  split at h
  ·rename_i fo hc
   split at h
   ·rename_i f' first captured hf
    injection h with h
    injection h with h1 h2
    subst h1;subst h2
    have e1:s.rho fo=.func (.func f') first captured:=by simp[St.rho,hf]
    have e2:(first.toList ++ c.args.toList.map s.rho ++ captured.toList).toArray=first ++ c.args.map s.rho ++ captured:=by apply Array.toList_inj.1;simp
    unfold ZcM at hk
    split at hk
    ·rename_i fn hfn
     rw[Bool.and_eq_true] at hk
     have n1 : (fn.name == "runtime.NumGoroutine") = false := by simpa using hk.1
     have n2:fn.body.isNone=false:=by simpa using hk.2
     simp only[execOp,ho,resolve,hc,e1,Deferred.ofValue,Sem.run_bind,Sem.run_pure,Result.andThen_ok,invoke,callFunc,run_program,hfn,n1,n2,Bool.false_eq_true,if_false,e2]
    cases hk
   cases h
  cases h
 cases h
theorem eO {o:Oper}{f d:Nat}{args:List Value}(h:fL P N ops o s=some (f,args,d)):s.wantB ops o=some true∧Zgn s o=some (f,args)∧o.dst=some d∧jD o.op=true∧o.op.operands.toList.all s.vB=true∧ZcM P f=true∧d<N:=by
 unfold fL at h
 split at h
 ·rename_i q d' b c e
  cases hb:(jD o.op && (o.op.operands.toList.all s.vB && (ZcM P q.1 && Nat.blt d' N))) with
  | false=>rw[hb] at h;cases h
  | true =>
   rw[hb] at h
   simp only[cond_true,Option.some.injEq,Prod.mk.injEq] at h
   simp only[Bool.and_eq_true] at hb
   obtain⟨g,i,j⟩:=h
   subst g;subst i;subst j
   exact⟨b,c,e,hb.1,hb.2.1,hb.2.2.1,Nat.le_of_ble_eq_true hb.2.2.2⟩
 cases h
theorem Zif {o:Oper}{f:Nat}{args:List Value}{α:Type}{sh:α→Value}{φ:α→World→Prop}(h:Zgn s o=some (f,args))(b:ZcM P f=true)(c:Calls P f args.toArray w (lD sh φ w)):Does P o s.rho w (DoR sh φ w) :=
 Or.inr ⟨f,args.toArray,w,ZaX h b,c.mono (fun e w' h=>by
  obtain⟨x,d,h⟩:=h
  exact⟨_,d,x,rfl,h⟩)⟩
theorem lU {i:Nat}{α:Type}{d:Nat}(sh:α→Value)(φ:α→World→Prop)(b:Nat.blt i ops.size=true)(e:s.wantB ops (opAt ops i)=some true)(f:jD (opAt ops i).op=true)(g:(opAt ops i).op.operands.toList.all s.vB=true)(h:(opAt ops i).dst=some d)(j:Nat.blt d N=true)(c:∀ w,Fr S0 w0 w→Φ w→Does P (opAt ops i) s.rho w (DoR sh φ w))(K:∀ x,SXi P N S0 w0 ops Q (i+1) (s.put d (.v (sh x))) (fun w=>Φ w∧φ x w)):SXi P N S0 w0 ops Q i s Φ:=by
 unfold SXi
 rw[gU b]
 intro L a w hi
 exact wpList_step (fun l k=>Zjv hi e f g h (Nat.le_of_ble_eq_true j) c (fun x L a w hi=>k _ _ (K x L a w hi)))
theorem ZlI {i:Nat}(f:FuncId)(args:List Value)(d:Nat){α:Type}(sh:α→Value)(φ:α→World→Prop)(b:Nat.blt i ops.size=true)(h:fL P N ops (opAt ops i) s=some (f,args,d))(c:∀ w,Fr S0 w0 w→Φ w→Calls P f args.toArray w (lD sh φ w))(K:∀ x,SXi P N S0 w0 ops Q (i+1) (s.put d (.v (sh x))) (fun w=>Φ w∧φ x w)):SXi P N S0 w0 ops Q i s Φ:=by
 obtain⟨e,g,j,k,l,m,n⟩:=eO h
 exact lU sh φ b e k l j (by rw[Nat.blt_eq];exact n) (fun w o R=>Zif g m (c w o R)) K
theorem ZtK {i:Nat}(h:Nat.ble ops.size i=true)(K:SXq N S0 w0 (Q .normal) s Φ):SXi P N S0 w0 ops Q i s Φ:=by
 unfold SXi
 rw[List.drop_of_length_le (by simpa using Nat.le_of_ble_eq_true h)]
 exact fun L a w hi=>K L a w hi
end
end Go.Proofs.YtmpffakfhcpjoaaGreatDoor
