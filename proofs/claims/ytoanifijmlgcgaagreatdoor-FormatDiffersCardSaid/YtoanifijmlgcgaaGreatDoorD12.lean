/-
 My texts Sx, Sx2, Sx3, Sx4 put together.
-/
import Derived.Test.YtoanifijmlgcgaaGreatDoorD01
import Derived.OrdersHeld
import Derived.StillTail
set_option maxRecDepth 100000
set_option maxHeartbeats 8000000
namespace Go.Proofs.YtoanifijmlgcgaaGreatDoor
open Go.RowKit
inductive AV where
 | v (x:Value)
 | p (b off:Nat)
def AV.conc (L:Nat→Nat):AV→Value
 | .v x=>x
 | .p b off=>.pointer (some ⟨L b,off,none⟩)
structure St where
 sl:Nat→Option AV
 bl:Nat→Option (TypeId×List AV)
def upd {α:Type} (f:Nat→Option α) (k:Nat) (x:α):Nat→Option α:=fun i=>bif Nat.beq i k then some x else f i
theorem wV {α:Type}(f:Nat→Option α)(k:Nat)(x:α):upd f k x k=some x:=by simp[upd]
theorem xW {α:Type}(f:Nat→Option α){k i:Nat}(x:α)(h:i≠k):upd f k x i=f i:=by
 have:Nat.beq i k=false:=Bool.eq_false_iff.2 (fun e=>h (Nat.eq_of_beq_eq_true e))
 simp[upd,this]
theorem Zbh {α:Type}(f:Nat→Option α){k i:Nat}(x y:α)(h:i≠k):upd (upd f k x) i y=upd (upd f i y) k x:=by
 funext j
 by_cases b:j=i
 ·subst b;rw[wV,xW _ _ h,wV]
 rw[xW _ _ b]
 by_cases c:j=k
 ·subst c;rw[wV,wV]
 rw[xW _ _ c,xW _ _ c,xW _ _ b]
def iI:AV→Bool
 | .p _ _=>true
 | .v (.bool _)=>true
 | .v (.int .i64 _)=>true
 | .v (.string _)=>true
 | .v (.pointer _)=>true
 | .v (.slice _ _ _)=>true
 | .v (.map _)=>true
 | .v (.func _ _ _)=>true
 | .v .nilFunc=>true
 | .v (.iface _ _)=>true
 | .v .nilIface=>true
 | _=>false
theorem ZjQ {x:AV}(L:Nat→Nat)(h:iI x=true):(x.conc L).oneCell'=true:=by
 cases x with
 | p b off=>rfl
 | v x=>cases x<;>first|rfl | (simp[iI] at h;done)
theorem ZjR {x:AV}{L:Nat→Nat}{k:IntKind}{z:Int}(h:iI x=true)(e:x.conc L=.int k z):k=.i64:=by
 cases x with
 | p b off=>simp[AV.conc] at e
 | v x =>
  simp only[AV.conc] at e
  subst e
  cases k<;>simp[iI] at h ⊢
structure MemI (S0:Nat→Prop) (w0:World) (s:St) (L:Nat→Nat) (w:World):Prop where
 blk:∀ b t cs,s.bl b=some (t,cs)→Blk t w (L b) (cs.map (AV.conc L)).toArray
 inj:∀ b c,(s.bl b).isSome=true→(s.bl c).isSome=true→L b=L c→b=c
 old:∀ b,(s.bl b).isSome=true→w0.heap.size≤L b∨S0 (L b)
 ext:Fr S0 w0 w
 slp:∀ i b off,s.sl i=some (.p b off)→(s.bl b).isSome=true
 cel:∀ b t cs,s.bl b=some (t,cs)→∀ x,x∈cs→iI x=true∧∀ c off,x=.p c off→(s.bl c).isSome=true
def Box (S:Nat→Prop) (w:World) (Φ:World→Prop):Prop:=∀ w',Fr S w w'→Φ w'
theorem Box.self {S:Nat→Prop}{w:World}{Φ:World→Prop}(h:Box S w Φ):Φ w:=h w (Fr.refl _ _)
theorem Box.fr {S:Nat→Prop}{w w':World}{Φ:World→Prop}(h:Box S w Φ)(c:Fr S w w'):Box S w' Φ:=fun b d=>h b (c.trans d)
theorem Box.ext {S:Nat→Prop}{w w':World}{Φ:World→Prop}(h:Box S w Φ)(b:Ext w w'):Box S w' Φ:=h.fr (b.mono (fun _ _ f=>f.elim))
theorem Box.and {S:Nat→Prop}{w:World}{Φ Ψ:World→Prop}(h:Box S w Φ)(k:Box S w Ψ):Box S w (fun w=>Φ w∧Ψ w):=fun w' b=>⟨h w' b,k w' b⟩
theorem Box.mono {S:Nat→Prop}{w:World}{Φ Ψ:World→Prop}(h:Box S w Φ)(k:∀ w,Φ w→Ψ w):Box S w Ψ:=fun w' b=>k _ (h w' b)
def St.own (s:St) (L:Nat→Nat):Nat→Prop:=fun i=>∃ b,(s.bl b).isSome=true∧L b=i
structure Inv (N:Nat) (S0:Nat→Prop) (w0:World) (s:St) (Φ:World→Prop) (L:Nat→Nat) (a:Act) (w:World):Prop where
 size:a.tmps.size=N
 df:a.defers=[]
 sl:∀ i x,s.sl i=some x→a.tmps[i]? = some (x.conc L)
 mem:MemI S0 w0 s L w
 box:Box (s.own L) w Φ
def St.eval (s:St):Operand→Option AV
 | .tmp t=>s.sl t
 | .const v=>some (.v v)
 | .global g=>some (.v (.pointer (some ⟨g,0,none⟩)))
 | .func f=>some (.v (.func (.func f) #[] #[]))
section
variable {N:Nat} {S0:Nat→Prop} {w0:World} {s:St} {Φ:World→Prop} {L:Nat→Nat} {a:Act} {w:World} {P:Program} {ops:Array Oper}
theorem Inv.eval (h:Inv N S0 w0 s Φ L a w){x:Operand}{y:AV}(b:s.eval x=some y):a.eval x=y.conc L:=by
 cases x with
 | tmp t=>have:=h.sl t y b;simp[Act.eval,this]
 | const v=>simp only[St.eval,Option.some.injEq] at b;subst b;rfl
 | global g=>simp only[St.eval,Option.some.injEq] at b;subst b;rfl
 | func f=>simp only[St.eval,Option.some.injEq] at b;subst b;rfl
theorem MemI.evp (h:MemI S0 w0 s L w){x:Operand}{b off:Nat}(c:s.eval x=some (.p b off)):(s.bl b).isSome=true:=by
 cases x with
 | tmp t=>exact h.slp t b off c
 | const v=>simp[St.eval] at c
 | global g=>simp[St.eval] at c
 | func f=>simp[St.eval] at c
def St.rho (s:St):Operand→Value:=fun x=>match s.eval x with | some (.v y)=>y | _=>undef
def St.vB (s:St) (x:Operand):Bool:=match s.eval x with | some (.v _)=>true | _=>false
theorem Za4 {x:Operand}(h:s.vB x=true):s.eval x=some (.v (s.rho x)):=by
 unfold St.vB at h;unfold St.rho
 split at h
 ·rename_i y e;rw[e]
 cases h
def lF:Op→Bool
 | .select _ _=>false
 | _=>true
theorem Inv.rho (h:Inv N S0 w0 s Φ L a w){l:List Operand}(b:l.all s.vB=true){x:Operand}(c:x∈l):a.eval x=s.rho x :=
 h.eval (Za4 (List.all_eq_true.1 b x c))
theorem Inv.exec (h:Inv N S0 w0 s Φ L a w){o:Oper}(hs:lF o.op=true)(c:o.op.operands.toList.all s.vB=true):execOp a.eval o=execOp s.rho o :=
 execOp_congr o (fun d b e=>by rw[e] at hs;cases hs) (fun x hx=>h.rho c (by simpa using hx))
def aM (P:Program) {α:Type}:Sem α→Option α
 | .pure a=>some a
 | .program k=>aM P (k P)
 | .mark _ k=>aM P k
 | _=>none
theorem Zc4 {α:Type}{x:Sem α}{y:α}(h:aM P x=some y)(w:World):x.run P w=.ok y w:=by
 induction x with
 | pure a=>simp only[aM,Option.some.injEq] at h;subst h;rfl
 | program k ih=>exact ih P h
 | mark m k ih=>exact ih h
 | _=>simp[aM] at h
structure TE where
 size:Nat
 agg:Bool
 zero:List Value
 offs:List (Option Nat)
def ZgE (P:Program) (f:Field):Option Nat :=
 match P.info? f.type with
 | some j=>bif Nat.beq j.size 0 then none else some f.offset
 | none=>none
def Zd4 (P:Program):TypeDesc→List (Option Nat)
 | .struct fs=>fs.toList.map (ZgE P)
 | _=>[]
def Zl0:TypeDesc→Bool
 | .struct _=>true
 | .array _ _=>true
 | _=>false
def teOf (P:Program) (t:TypeId):Option TE :=
 match P.info? t,P.underlying t with
 | some i,some d =>
  match i.zero with
  | some z=>some ⟨i.size,Zl0 d,z.cells.toList,Zd4 P d⟩
  | none=>none
 | _,_=>none
theorem ZaE {t:TypeId}{e:TE}(h:teOf P t=some e):∃ i d z,P.info? t=some i∧P.underlying t=some d∧i.zero=some z∧e.size=i.size∧e.zero=z.cells.toList ∧
 e.agg=Zl0 d∧e.offs=Zd4 P d:=by
 unfold teOf at h
 split at h
 ·rename_i i d b c
  split at h
  ·rename_i z f
   injection h with h
   subst h
   exact⟨i,d,z,b,c,f,rfl,rfl,rfl,rfl⟩
  cases h
 cases h
theorem Zd5 {t:TypeId}{e:TE}(h:teOf P t=some e):(sizeOf t).run P w=.ok e.size w:=by
 obtain⟨i,d,z,b,f,g,c,_⟩:=ZaE h
 simp[sizeOf,typeInfo,b,c]
theorem Zfv {t:TypeId}{e:TE}(h:teOf P t=some e):(isAgg t).run P w=.ok e.agg w:=by
 obtain⟨i,d,z,g,b,j,k,c,f,_⟩:=ZaE h
 simp only[isAgg,underlying,Sem.run_bind,run_program,Result.andThen_ok,b,Sem.run_pure,f]
 cases d<;>rfl
theorem iC (g off n:Nat):(⟨g,off,none⟩:Addr).add n=⟨g,off+n,none⟩:=by
 unfold Addr.add
 split
 ·subst_vars;rfl
 rfl
theorem ZbF {g off:Nat}:∀ (d:List Value) (i:Nat) (b:Array Value),(∀ j,j<d.length→w.cell? ⟨g,off+(i+j),none⟩=some (d[j]?.getD undef)) →
 (loadCellsFrom ⟨g,off,none⟩ i d.length b).run P w=.ok (b ++ d.toArray) w
 | [],i,b,_=>by simp[loadCellsFrom]
 | c :: d,i,b,h=>by
  have e:=h 0 (by simp)
  simp only[Nat.add_zero,List.getElem?_cons_zero,Option.getD_some] at e
  have f:=ZbF (g:=g) (off:=off) d (i+1) (b.push c) (fun j k=>by
   have:=h (j+1) (by simp;omega)
   simp only[List.getElem?_cons_succ] at this
   rw[←this];congr 2;omega)
  simp only[List.length_cons,loadCellsFrom,Sem.run_bind,run_load,iC,e,Result.andThen_ok,f]
  simp
theorem fO {t:TypeId}{e:TE}(h:teOf P t=some e){g off:Nat}{cs:List Value}(b:cs.length=e.size)(c:∀ j,j<cs.length→w.cell? ⟨g,off+j,none⟩=some (cs[j]?.getD undef))(d:e.agg=true) :
 (Instr.loadAt t (.pointer (some ⟨g,off,none⟩))).run P w=.ok (.agg cs.toArray) w:=by
 have:=ZbF (P:=P) (w:=w) (g:=g) (off:=off) cs 0 #[] (fun j f=>by rw[Nat.zero_add];exact c j f)
 simp only[Instr.loadAt,Instr.sureAddr,Sem.run_bind,Sem.run_pure,Result.andThen_ok,loadVar,Zfv h,d,if_true,Zd5 h,loadCells,← b,this]
 simp
theorem Zc5 {t:TypeId}{e:TE}(h:teOf P t=some e){g off:Nat}{c:Value}(b:w.cell? ⟨g,off,none⟩=some c)(d:e.agg=false) :
 (Instr.loadAt t (.pointer (some ⟨g,off,none⟩))).run P w=.ok c w:=by
 simp only[Instr.loadAt,Instr.sureAddr,Sem.run_bind,Sem.run_pure,Result.andThen_ok,loadVar,Zfv h,d,Bool.false_eq_true,if_false,run_load,b]
def jO {α:Type} (l:List α) (off:Nat) (cs:List α):List α:=l.take off ++ cs ++ l.drop (off+cs.length)
theorem Za5 {g bt:Nat}:∀ (f:List Value) (i b:Nat) (d:List Value) (w:World),Blk bt w g d.toArray→b+i+f.length≤d.length→(∀ c,c∈f→c.oneCell'=true) →
 ∃ w',(storeCells ⟨g,b,none⟩ f i).run P w=.ok () w'∧Blk bt w' g (jO d (b+i) f).toArray∧Fr (fun k=>k=g) w w'
 | [],i,b,d,w,hB,hl,_=>by
  refine⟨w,by simp[storeCells],?_,Fr.refl _ _⟩
  simpa [jO] using hB
 | c :: f,i,b,d,w,hB,hl,h1=>by
  simp only[List.length_cons] at hl
  have j:w.cell? ⟨g,b+i,none⟩=some (d[b+i]?.getD undef):=by
   rw[hB.cell]
   simp[show b+i<d.length by omega]
  have h:=hB.set_ (b+i) c
  have e:(d.toArray.setIfInBounds (b+i) c)=(d.set (b+i) c).toArray:=by simp
  rw[e] at h
  obtain⟨w',m,l,n⟩:=Za5 f (i+1) b (d.set (b+i) c) _ h (by simp;omega) (fun c j=>h1 c (by simp[j]))
  refine⟨w',?_,?_,((Fr.refl (fun k=>k=g) w).setCell (p:=⟨g,b+i,none⟩) (Or.inl rfl) c).trans n⟩
  ·simp only[storeCells,Sem.run_bind,iC,run_store P w ⟨g,b+i,none⟩ c .plain (h1 c (by simp)),j,hB.frozen,Bool.false_eq_true,if_false,Result.andThen_ok,m]
  have:jO (d.set (b+i) c) (b+(i+1)) f=jO d (b+i) (c :: f):=by
   unfold jO
   rw[show b+(i+1)=b+i+1 by omega,List.take_succ_eq_append_getElem (by simp;omega)]
   simp only[List.length_cons,List.getElem_set_self,List.append_assoc,List.cons_append,List.nil_append]
   rw[List.take_set_of_le (by omega),List.drop_set_of_lt (by omega),show b+i+1+f.length=b+i+(f.length+1) by omega]
  rw[this] at l
  exact l
theorem Zc6 {t:TypeId}{e:TE}(h:teOf P t=some e){g bt off:Nat}{cur:List Value}{v:Value}(b:Blk bt w g cur.toArray)(d:v.cells.toList.length=e.size)(f:off+v.cells.toList.length≤cur.length)(i:∀ c,c∈v.cells.toList→c.oneCell'=true) :
 ∃ w',(Instr.storeAt t (.pointer (some ⟨g,off,none⟩)) v).run P w=.ok () w'∧Blk bt w' g (jO cur off v.cells.toList).toArray∧Fr (fun k=>k=g) w w':=by
 obtain⟨w',j,l,m⟩:=Za5 (P:=P) v.cells.toList 0 off cur w b (by simpa using f) i
 refine⟨w',?_,by simpa using l,m⟩
 have:v.cells.size=e.size:=by simpa using d
 simp only[Instr.storeAt,Instr.sureAddr,Sem.run_bind,Sem.run_pure,Result.andThen_ok,storeVar,Zd5 h,this]
 simpa using j
theorem ZjS {t:TypeId}{e:TE}(h:teOf P t=some e):(Instr.alloc t true (.tuple #[])).run P w=.ok (.pointer (some ⟨w.heap.size,0,none⟩)) (w.alloc (.cells e.zero.toArray t)):=by
 obtain⟨i,d,z,c,g,f,j,b,_⟩:=ZaE h
 simp[Instr.alloc,zeroValue,typeInfo,c,f,newVar,newRow,b]
theorem Zmj {t:TypeId}{v:Value}:(Instr.box t v).run P w=.ok (.pointer (some ⟨w.heap.size,0,none⟩)) (w.alloc (.cells v.cells t)):=by
 simp[Instr.box,newVar,newRow]
theorem ZjT {t f g off k:Nat}{e:TE}(h:teOf P t=some e)(b:e.offs[f]? = some (some k)):(Instr.fieldAt t (.pointer (some ⟨g,off,none⟩)) f).run P w=.ok (.pointer (some ⟨g,off+k,none⟩)) w:=by
 obtain⟨i,d,z,q,m,r,u,n,v,o⟩:=ZaE h
 rw[o] at b
 cases d with
 | struct fs =>
  simp only[Zd4,List.getElem?_map,Array.getElem?_toList,Option.map_eq_some_iff] at b
  obtain⟨x,c,hq⟩:=b
  unfold ZgE at hq
  split at hq
  ·rename_i j p
   cases hb:Nat.beq j.size 0 with
   | true=>rw[hb] at hq;simp at hq
   | false =>
    rw[hb] at hq
    simp only[cond_false,Option.some.injEq] at hq
    have l:j.size≠0:=fun e=>by rw[e] at hb;simp at hb
    simp only[Instr.fieldAt,underlying,Sem.run_bind,run_program,Result.andThen_ok,m,Sem.run_pure,c,Instr.sureAddr,fieldPlace,sizeOf,typeInfo,p,l,if_false,iC,hq]
  cases hq
 | _=>simp[Zd4] at b
end
def Za6:List AV→Option (List Value)
 | []=>some []
 | .v x :: l=>match Za6 l with | some m=>some (x :: m) | none=>none
 | .p _ _ :: _=>none
theorem Zhw {l:List AV}{m:List Value}(h:Za6 l=some m)(L:Nat→Nat):l.map (AV.conc L)=m:=by
 induction l generalizing m with
 | nil=>simp only[Za6,Option.some.injEq] at h;subst h;rfl
 | cons x l ih =>
  cases x with
  | p b off=>simp[Za6] at h
  | v x =>
   unfold Za6 at h
   split at h
   ·rename_i d c
    injection h with h
    subst h
    simp only[List.map_cons,ih c,AV.conc]
   cases h
def wN:AV→List AV
 | .v x=>x.cells.toList.map .v
 | .p b off=>[.p b off]
theorem Zb6 (L:Nat→Nat)(x:AV):(wN x).map (AV.conc L)=(x.conc L).cells.toList:=by
 cases x with
 | v x=>simp only[wN,AV.conc,List.map_map];exact (List.map_congr_left (fun _ _=>rfl)).trans (List.map_id _)
 | p b off=>rfl
theorem mapv (L:Nat→Nat)(l:List Value):(l.map AV.v).map (AV.conc L)=l:=by
 rw[List.map_map];exact (List.map_congr_left (fun _ _=>rfl)).trans (List.map_id _)
abbrev NewB:=Option (TypeId×List AV)
def St.app (s:St) (d:Nat) (r:AV×NewB):St:={ sl:=upd s.sl d r.1,bl:=match r.2 with | none=>s.bl | some q=>upd s.bl d q }
def St.put (s:St) (d:Nat) (x:AV):St:={ s with sl:=upd s.sl d x }
def St.wantB (s:St) (ops:Array Oper) (o:Oper):Option Bool :=
 match o.guard with
 | none=>some true
 | some (g,want) =>
  match (ops[g]?).bind (·.dst) with
  | none=>none
  | some t=>match s.sl t with
    | some (.v (.bool b))=>some (b == want)
    | some (.v (.tuple _))=>some false
    | _=>none
def lS (P:Program) (o:Oper) (s:St):Option AV :=
 bif lF o.op && o.op.operands.toList.all s.vB then (match aM P (execOp s.rho o) with | some (.value y)=>some (.v y) | _=>none) else none
def aX (P:Program) (s:St) (t:TypeId) (b off:Nat):Option AV :=
 match teOf P t,s.bl b with
 | some e,some (_,cs) =>
  bif e.agg then (bif Nat.ble (off+e.size) cs.length then (match Za6 ((cs.drop off).take e.size) with | some l=>some (.v (.agg l.toArray)) | none=>none) else none)
  else cs[off]?
 | _,_=>none
def cS (s:St) (d:Option Nat) (t:TypeId) (cs:List AV):Option (AV×NewB) :=
 match d with
 | some d=>bif (s.bl d).isNone && cs.all iI then some (.p d 0,some (t,cs)) else none
 | none=>none
def noB (x:Option AV):Option (AV×NewB):=match x with | some y=>some (y,none) | none=>none
def kW (P:Program) (ops:Array Oper) (o:Oper) (s:St):Option (AV × NewB) :=
 match s.wantB ops o with
 | none=>none
 | some false=>some (.v undef,none)
 | some true =>
  match o.op with
  | .move x=>noB (s.eval x)
  | .assign x=>noB (s.eval x)
  | .pick c x y=>match s.eval c with
    | some (.v (.bool b))=>noB (bif b then s.eval x else s.eval y)
    | _=>none
  | .alloc t=>match teOf P t with | some e=>cS s o.dst t (e.zero.map .v) | none=>none
  | .box t x=>match s.eval x with | some y=>cS s o.dst t (wN y) | none=>none
  | .fieldAddr t x f=>match s.eval x with
    | some (.p b off)=>match teOf P t with
      | some e=>match e.offs[f]? with | some (some k)=>some (.p b (off + k),none) | _=>none
      | none=>none
    | _=>noB (lS P o s)
  | .load t x=>match s.eval x with
    | some (.p b off)=>noB (aX P s t b off)
    | _=>none
  | .nilCheck x=>match s.eval x with
    | some (.p b off)=>some (.p b off,none)
    | _=>noB (lS P o s)
  | _=>noB (lS P o s)
section
variable {N:Nat} {S0:Nat→Prop} {w0:World} {s:St} {Φ:World→Prop} {L:Nat→Nat} {a:Act} {w:World} {P:Program} {ops:Array Oper} {Q:Exit→Act→World→Prop}
theorem Inv.want (h:Inv N S0 w0 s Φ L a w){o:Oper}{r:Bool}(hw:s.wantB ops o=some r):Region.wanted o (yielded ops a.tmps)=r:=by
 unfold St.wantB at hw
 unfold Region.wanted
 split at hw
 ·rename_i e;rw[e];injection hw
 rename_i g want e
 rw[e]
 split at hw
 ·cases hw
 rename_i t d
 split at hw
 ·rename_i b c
  injection hw with hw
  subst hw
  have:=h.sl t _ c
  simp only[AV.conc] at this
  simp only[yielded,d,Option.bind_some,this]
  rfl
 ·rename_i f c
  injection hw with hw
  subst hw
  have:=h.sl t _ c
  simp only[AV.conc] at this
  simp only[yielded,d,Option.bind_some,this]
  rfl
 cases hw
def AV.al (s:St) (x:AV):Prop:=∀ b off,x=.p b off→(s.bl b).isSome=true
theorem al_v (x:Value):AV.al s (.v x):=fun _ _ e=>by cases e
theorem Inv.app0 (h:Inv N S0 w0 s Φ L a w){d:Nat}(j:d<N){x:AV}(k:x.al s):Inv N S0 w0 (s.app d (x,none)) Φ L (a.put (some d) (x.conc L)) w:=by
 refine⟨by simp[Act.put,h.size],h.df,fun i y f=>?_,⟨h.mem.blk,h.mem.inj,h.mem.old,h.mem.ext,fun i b c g=>?_,h.mem.cel⟩,h.box⟩
 ·by_cases e:i=d
  ·subst e
   simp only[St.app,wV,Option.some.injEq] at f
   subst f
   simp[Act.put,h.size,j]
  simp only[St.app,xW _ _ e] at f
  simp only[Act.put]
  rw[Array.getElem?_setIfInBounds_ne (Ne.symm e)]
  exact h.sl i y f
 by_cases e:i=d
 ·subst e
  simp only[St.app,wV,Option.some.injEq] at g
  exact k b c g
 simp only[St.app,xW _ _ e] at g
 exact h.mem.slp i b c g
def newL (L:Nat→Nat) (d g:Nat):Nat→Nat:=fun b=>if b=d then g else L b
theorem ZgF {d g:Nat}(f:s.bl d=none){x:AV}(h:x.al s):x.conc (newL L d g)=x.conc L:=by
 cases x with
 | v x=>rfl
 | p b off =>
  have:=h b off rfl
  have c:b≠d:=fun e=>by rw[e,f] at this;cases this
  simp[AV.conc,newL,c]
theorem Inv.appN (h:Inv N S0 w0 s Φ L a w){d:Nat}(I:d<N)(F:s.bl d=none){t:TypeId}{cs:List AV}(H:∀ x,x∈cs→iI x=true∧x.al s) :
 Inv N S0 w0 (s.app d (.p d 0,some (t,cs))) Φ (newL L d w.heap.size) (a.put (some d) (.pointer (some ⟨w.heap.size,0,none⟩))) (w.alloc (.cells (cs.map (AV.conc L)).toArray t)):=by
 have A:∀ b,(s.bl b).isSome=true→L b<w.heap.size:=fun b hb=>by
  obtain⟨⟨z,k⟩,e⟩:=Option.isSome_iff_exists.1 hb
  exact (h.mem.blk b z k e).lt
 have v:∀ b,(s.bl b).isSome=true→b≠d:=fun b hb e=>by rw[e,F] at hb;cases hb
 have f:∀ b,b≠d→(s.app d (.p d 0,some (t,cs))).bl b=s.bl b:=fun b e=>xW _ _ e
 have m:(s.app d (.p d 0,some (t,cs))).bl d=some (t,cs):=wV _ _ _
 have j:∀ (l:List AV),(∀ x,x∈l→x.al s)→l.map (AV.conc (newL L d w.heap.size))=l.map (AV.conc L):=fun l J=>List.map_congr_left (fun x u=>ZgF F (J x u))
 have n:newL L d w.heap.size d=w.heap.size:=by simp[newL]
 have g:∀ b,b≠d→newL L d w.heap.size b=L b:=fun b e=>by simp[newL,e]
 refine⟨by simp[Act.put,h.size],h.df,fun i y B=>?_,⟨fun b z k hb=>?_,fun b c hb r e=>?_,fun b hb=>?_,h.mem.ext.alloc _,fun i b o C=>?_,fun b z k hb x u=>?_⟩,?_⟩
 ·by_cases e:i=d
  ·subst e
   simp only[St.app,wV,Option.some.injEq] at B
   subst B
   simp[Act.put,h.size,I,AV.conc,newL]
  simp only[St.app,xW _ _ e] at B
  simp only[Act.put]
  rw[Array.getElem?_setIfInBounds_ne (Ne.symm e),h.sl i y B]
  rw[ZgF F (fun b o K=>h.mem.slp i b o (by rw[B,K]))]
 ·by_cases e:b=d
  ·subst e
   rw[m] at hb
   injection hb with hb
   injection hb with h1 h2
   subst h1;subst h2
   rw[n,j _ (fun x u=>(H x u).2)]
   exact Blk.new _ _ _
  rw[f b e] at hb
  rw[g b e,j _ (fun x u=>(h.mem.cel b z k hb x u).2)]
  exact (h.mem.blk b z k hb).alloc _
 ·by_cases D:b=d
  ·by_cases q:c=d
   ·rw[D,q]
   rw[f c q] at r
   rw[D,n,g c q] at e
   have:=A c r
   omega
  rw[f b D] at hb
  by_cases q:c=d
  ·rw[q,n,g b D] at e
   have:=A b hb
   omega
  rw[f c q] at r
  rw[g b D,g c q] at e
  exact h.mem.inj b c hb r e
 ·by_cases e:b=d
  ·rw[e,n];exact Or.inl h.mem.ext.size
  rw[f b e] at hb
  rw[g b e];exact h.mem.old b hb
 ·by_cases e:b=d
  ·rw[e,m];rfl
  rw[f b e]
  by_cases q:i=d
  ·subst q
   simp only[St.app,wV,Option.some.injEq] at C
   injection C with h1 h2
   exact absurd h1.symm e
  simp only[St.app,xW _ _ q] at C
  exact h.mem.slp i b o C
 ·have E:iI x=true∧x.al s:=by
   by_cases e:b=d
   ·subst e
    rw[m] at hb
    injection hb with hb
    injection hb with h1 h2
    subst h2
    exact H x u
   rw[f b e] at hb
   exact h.mem.cel b z k hb x u
  refine⟨E.1,fun c o e=>?_⟩
  have:=E.2 c o e
  rw[f c (v c this)];exact this
 intro w' M
 refine h.box w' (((Fr.refl (s.own L) w).alloc (.cells (cs.map (AV.conc L)).toArray t)).next M (fun i C O=>?_))
 obtain⟨b,hb,G⟩:=O
 by_cases e:b=d
 ·rw[e,n] at G;omega
 rw[f b e] at hb
 rw[g b e] at G
 exact⟨b,hb,G⟩
theorem Zf7 (hi:Inv N S0 w0 s Φ L a w){o:Oper}{x:AV}(h:lS P o s=some x):∃ y,x=.v y∧(execOp a.eval o).run P w=.ok (.value y) w:=by
 unfold lS at h
 cases hb:lF o.op && o.op.operands.toList.all s.vB with
 | false=>rw[hb] at h;cases h
 | true =>
  rw[hb] at h
  rw[Bool.and_eq_true] at hb
  simp only[cond_true] at h
  split at h
  ·rename_i y b
   injection h with h
   refine⟨y,h.symm,?_⟩
   rw[hi.exec hb.1 hb.2]
   exact Zc4 b w
  cases h
theorem Zb7 (hi:Inv N S0 w0 s Φ L a w){t b off:Nat}{x:AV}(h:aX P s t b off=some x):x.al s∧(Instr.loadAt t (.pointer (some ⟨L b,off,none⟩))).run P w=.ok (x.conc L) w:=by
 unfold aX at h
 split at h
 ·rename_i e f cs g i
  have k:=hi.mem.blk b f cs i
  cases ha:e.agg with
  | true =>
   rw[ha] at h
   simp only[cond_true] at h
   cases hle:Nat.ble (off+e.size) cs.length with
   | false=>rw[hle] at h;cases h
   | true =>
    rw[hle] at h
    simp only[cond_true] at h
    have m:=Nat.le_of_ble_eq_true hle
    split at h
    ·rename_i l n
     injection h with h
     subst h
     refine⟨al_v _,?_⟩
     have c:=Zhw n L
     have d:l.length=e.size:=by rw[←c,List.length_map,List.length_take,List.length_drop];omega
     refine fO g d (fun j p=>?_) ha
     rw[k.cell,← c]
     rw[List.getElem?_toArray,List.getElem?_map,List.getElem?_map,List.getElem?_take_of_lt (by omega),List.getElem?_drop]
     rw[List.getElem?_eq_getElem (by omega)]
     rfl
    cases h
  | false =>
   rw[ha] at h
   simp only[cond_false] at h
   have o:x∈cs:=List.mem_of_getElem? h
   refine⟨(hi.mem.cel b f cs i x o).2,Zc5 g ?_ ha⟩
   rw[k.cell,List.getElem?_toArray,List.getElem?_map,h]
   rfl
 cases h
theorem aC {d:Option Nat}{t:TypeId}{cs:List AV}{r:AV×NewB}(h:cS s d t cs=some r):∃ k,d=some k∧r=(.p k 0,some (t,cs))∧s.bl k=none∧∀ x,x∈cs→iI x=true:=by
 unfold cS at h
 split at h
 ·rename_i k
  cases hb:(s.bl k).isNone && cs.all iI with
  | false=>rw[hb] at h;cases h
  | true =>
   rw[hb] at h
   simp only[cond_true,Option.some.injEq] at h
   rw[Bool.and_eq_true] at hb
   exact⟨k,rfl,h.symm,Option.isNone_iff_eq_none.1 hb.1,fun x b=>List.all_eq_true.1 hb.2 x b⟩
 cases h
def Yld (N:Nat) (S0:Nat→Prop) (w0:World) (P:Program) (ops:Array Oper) (o:Oper) (s:St) (Φ:World→Prop) (a:Act) (w:World):Prop :=
 ∃ (v:Value) (w':World) (L':Nat→Nat),Inv N S0 w0 s Φ L' (a.put o.dst v) w' ∧
   ((Region.wanted o (yielded ops a.tmps)=true∧(execOp a.eval o).run P w=.ok (.value v) w')∨(Region.wanted o (yielded ops a.tmps)=false∧v=undef∧w'=w))
theorem lD {x:Option AV}{r:AV×NewB}(h:noB x=some r):∃ y,x=some y∧r=(y,none):=by
 cases x with
 | none=>cases h
 | some y=>injection h with h;exact⟨y,rfl,h.symm⟩
theorem Zfw (hi:Inv N S0 w0 s Φ L a w){o:Oper}{r:AV×NewB}(h:kW P ops o s=some r){d:Nat}(F:o.dst=some d)(G:d<N):Yld N S0 w0 P ops o (s.app d r) Φ a w:=by
 have g:∀ (x:AV),r=(x,none)→x.al s→Region.wanted o (yielded ops a.tmps)=true→(execOp a.eval o).run P w=.ok (.value (x.conc L)) w→Yld N S0 w0 P ops o (s.app d r) Φ a w :=
  fun x e j n A=>by subst e;exact⟨x.conc L,w,L,by rw[F];exact hi.app0 G j,Or.inl ⟨n,A⟩⟩
 have B:noB (lS P o s)=some r→Region.wanted o (yielded ops a.tmps)=true→Yld N S0 w0 P ops o (s.app d r) Φ a w:=fun h n=>by
  obtain⟨x,j,e⟩:=lD h
  obtain⟨y,J,A⟩:=Zf7 hi j
  subst J
  exact g (.v y) e (al_v y) n A
 have evl:∀ {x:Operand} {y:AV},s.eval x=some y→y.al s:=fun j b off e=>hi.mem.evp (off:=off) (by subst e;exact j)
 have new:∀ {t:TypeId} {cs:List AV} {c0:Array Value},cS s o.dst t cs=some r→(∀ x,x∈cs→x.al s)→(cs.map (AV.conc L)).toArray=c0→Region.wanted o (yielded ops a.tmps)=true →
  (execOp a.eval o).run P w=.ok (.value (.pointer (some ⟨w.heap.size,0,none⟩))) (w.alloc (.cells c0 t))→Yld N S0 w0 P ops o (s.app d r) Φ a w:=fun h C e n A=>by
  obtain⟨k,D,H,K,E⟩:=aC h
  rw[F] at D
  injection D with D
  subst D;subst H;subst e
  exact⟨_,_,_,by rw[F];exact hi.appN G K (fun x j=>⟨E x j,C x j⟩),Or.inl ⟨n,A⟩⟩
 unfold kW at h
 split at h
 ·cases h
 ·rename_i n
  injection h with h
  subst h
  exact⟨undef,w,L,by rw[F];exact hi.app0 (x:=.v undef) G (al_v _),Or.inr ⟨hi.want n,rfl,rfl⟩⟩
 rename_i n
 have i:=hi.want n
 split at h
 ·rename_i x l
  obtain⟨y,u,e⟩:=lD h
  exact g y e (evl u) i (by simp only[execOp,l,Sem.run_pure,hi.eval u])
 ·rename_i x l
  obtain⟨y,u,e⟩:=lD h
  exact g y e (evl u) i (by simp only[execOp,l,Sem.run_pure,hi.eval u])
 ·rename_i c x y l
  split at h
  ·rename_i b q
   obtain⟨z,m,e⟩:=lD h
   have E:=hi.eval q
   simp only[AV.conc] at E
   cases b with
   | true =>
    simp only[cond_true] at m
    exact g z e (evl m) i (by simp only[execOp,l,E,asBool,Sem.run_bind,Sem.run_pure,Result.andThen_ok,if_true,hi.eval m])
   | false =>
    simp only[cond_false] at m
    exact g z e (evl m) i (by simp only[execOp,l,E,asBool,Sem.run_bind,Sem.run_pure,Result.andThen_ok,Bool.false_eq_true,if_false,hi.eval m])
  cases h
 ·rename_i t l
  split at h
  ·rename_i e I
   refine new (c0:=e.zero.toArray) h (fun x j=>?_) (by rw[mapv]) i (by simp only[execOp,l,Sem.run_bind,ZjS I,Result.andThen_ok,Sem.run_pure])
   obtain⟨y,_,rfl⟩:=List.mem_map.1 j
   exact al_v y
  cases h
 ·rename_i t x l
  split at h
  ·rename_i y u
   refine new (c0:=(y.conc L).cells) h (fun z m=>?_) (by rw[Zb6]) i (by simp only[execOp,l,Sem.run_bind,hi.eval u,Zmj,Result.andThen_ok,Sem.run_pure])
   cases y with
   | v y=>obtain⟨c,_,rfl⟩:=List.mem_map.1 m;exact al_v c
   | p b off=>simp only[wN,List.mem_singleton] at m;subst m;exact evl u
  cases h
 ·rename_i t x f l
  split at h
  ·rename_i b off q
   split at h
   ·rename_i e I
    split at h
    ·rename_i k D
     injection h with h
     have j:=hi.eval q
     simp only[AV.conc] at j
     refine g (.p b (off+k)) h.symm (fun c O M=>?_) i (by simp only[execOp,l,Sem.run_bind,j,ZjT I D,Result.andThen_ok,Sem.run_pure,AV.conc])
     injection M with H _
     rw[←H]
     exact evl q b off rfl
    cases h
   cases h
  exact B h i
 ·rename_i t x l
  split at h
  ·rename_i b off q
   obtain⟨z,m,e⟩:=lD h
   obtain⟨C,A⟩:=Zb7 hi m
   have j:=hi.eval q
   simp only[AV.conc] at j
   exact g z e C i (by simp only[execOp,l,Sem.run_bind,j,A,Result.andThen_ok,Sem.run_pure])
  cases h
 ·rename_i x l
  split at h
  ·rename_i b off q
   injection h with h
   have j:=hi.eval q
   simp only[AV.conc] at j
   exact g (.p b off) h.symm (evl q) i (by simp only[execOp,l,j,Sem.run_pure,AV.conc])
  exact B h i
 exact B h i
theorem Yld.step {o:Oper}(h:Yld N S0 w0 P ops o s Φ a w){K:Act→World→Prop}(b:∀ L a w,Inv N S0 w0 s Φ L a w→K a w) :
 if Region.wanted o (yielded ops a.tmps)=true then o.wp P a w K Q else K (a.put o.dst undef) w:=by
 obtain⟨v,w',e,c,h|⟨d,rfl,rfl⟩⟩:=h
 ·rw[if_pos h.1]
  unfold Oper.wp
  rw[h.2]
  exact b _ _ _ c
 rw[if_neg (by rw[d];simp)]
 exact b _ _ _ c
end
def opAt (ops:Array Oper) (i:Nat):Oper:=ops.toList.getD i default
def wG (cs:Array Value):Prop:=∀ (i:Nat) (k:IntKind) (z:Int),cs[i]? = some (.int k z)→k=.i64
def NRB (w:World) (i:Nat):Prop:=∃ t cs,Blk t w i cs∧wG cs
def BoxN (w w':World) (φ:World→Prop):Prop:=∀ S:Nat→Prop,(∀ i,S i→i<w.heap.size∧NRB w i)→Box S w' φ
theorem BoxN.pure {w w':World}{p:Prop}(h:p):BoxN w w' (fun _=>p):=fun _ _ _ _=>h
def DoR {α:Type} (sh:α→Value) (φ:α→World→Prop) (w:World) (y:Value) (w':World):Prop:=∃ x:α,y=sh x∧Ext w w'∧BoxN w w' (φ x)
def wS {α:Type} (sh:α→Value) (φ:α→World→Prop) (w:World) (e:Ending) (w':World):Prop:=∃ x:α,e=.returned (sh x)∧Ext w w'∧BoxN w w' (φ x)
def Does (P:Program) (o:Oper) (ρ:Operand→Value) (w:World) (R:Value→World→Prop):Prop :=
 (∃ y w',(execOp ρ o).run P w=.ok (.value y) w'∧R y w') ∨
 (∃ f args w1,(execOp ρ o).run P w=.ok (.enter f args) w1∧Calls P f args w1 fun e w'=>∃ y,e=.returned y∧R y w')
def iJ {α:Type}:List (Nat × α)→Nat→Option α
 | []=>fun _=>none
 | q :: l=>upd (iJ l) q.1 q.2
theorem lP {α:Type}{l:List (Nat × α)}{i:Nat}{x:α}(h:iJ l i=some x):(i,x)∈l:=by
 induction l with
 | nil=>cases h
 | cons q l ih =>
  obtain⟨k,y⟩:=q
  by_cases e:i=k
  ·subst e
   simp only[iJ,wV,Option.some.injEq] at h
   subst h
   exact List.mem_cons_self
  simp only[iJ,xW _ _ e] at h
  exact List.mem_cons_of_mem _ (ih h)
abbrev SlL:=List (Nat × AV)
abbrev BlL:=List (Nat × TypeId×List AV)
def ofL (sl:SlL) (bl:BlL):St:=⟨iJ sl,iJ bl⟩
def alB (bl:BlL):AV→Bool
 | .v _=>true
 | .p b _=>(iJ bl b).isSome
def wfB (sl:SlL) (bl:BlL):Bool:=sl.all (fun q=>alB bl q.2) && bl.all (fun q=>q.2.2.all (alB bl))
def zX (s:St) (sl:SlL) (bl:BlL):Prop:=(sl.map (fun q=>s.sl q.1),bl.map (fun q=>s.bl q.1))=(sl.map (fun q=>some q.2),bl.map (fun q=>some q.2))
theorem gL {α β:Type}{f g:α→β}{l:List α}(h:l.map f=l.map g){x:α}(hx:x∈l):f x=g x:=by
 induction l with
 | nil=>cases hx
 | cons y l ih =>
  simp only[List.map_cons,List.cons.injEq] at h
  rcases List.mem_cons.1 hx with e|hx
  ·rw[e];exact h.1
  exact ih h.2 hx
section
variable {N:Nat} {S0:Nat→Prop} {w0:World} {s:St} {Φ Ψ:World→Prop} {L:Nat→Nat} {a:Act} {w:World} {P:Program} {ops:Array Oper} {Q:Exit→Act→World→Prop}
theorem Inv.weak (h:Inv N S0 w0 s Φ L a w){l:SlL}{m:BlL}(u:zX s l m)(n:wfB l m=true)(Q:∀ w,Φ w→Ψ w):Inv N S0 w0 (ofL l m) Ψ L a w:=by
 unfold zX at u
 injection u with hs hb
 unfold wfB at n
 rw[Bool.and_eq_true] at n
 have o:∀ i x,(ofL l m).sl i=some x→s.sl i=some x:=fun i x j=>gL (f:=fun q:Nat × AV=>s.sl q.1) (g:=fun q=>some q.2) hs (lP j)
 have k:∀ i x,(ofL l m).bl i=some x→s.bl i=some x:=fun i x j=>gL (f:=fun q:Nat × TypeId×List AV=>s.bl q.1) (g:=fun q=>some q.2) hb (lP j)
 have d:∀ b,((ofL l m).bl b).isSome=true→(s.bl b).isSome=true:=fun b hb=>by
  obtain⟨q,e⟩:=Option.isSome_iff_exists.1 hb
  rw[k b q e];rfl
 refine⟨h.size,h.df,fun i x j=>h.sl i x (o i x j),⟨fun b t p e=>h.mem.blk b t p (k b _ e),fun b c hb v=>h.mem.inj b c (d b hb) (d c v),fun b hb=>h.mem.old b (d b hb),h.mem.ext,fun i b r e=>?_,fun b t p e x j=>⟨(h.mem.cel b t p (k b _ e) x j).1,fun c r y=>?_⟩⟩,fun w' z=>Q _ (h.box w' (z.mono (fun i _ A=>?_)))⟩
 ·have:=List.all_eq_true.1 n.1 _ (lP e)
  exact this
 ·have:=List.all_eq_true.1 (List.all_eq_true.1 n.2 _ (lP e)) x j
  rw[y] at this
  exact this
 obtain⟨b,hb,e⟩:=A
 exact⟨b,d b hb,e⟩
theorem Inv.own_nrb (h:Inv N S0 w0 s Φ L a w){i:Nat}(hi:s.own L i):i<w.heap.size∧NRB w i:=by
 obtain⟨b,l,e⟩:=hi
 obtain⟨⟨t,c⟩,d⟩:=Option.isSome_iff_exists.1 l
 have f:=h.mem.blk b t c d
 subst e
 refine⟨f.lt,t,_,f,fun j k z g=>?_⟩
 rw[List.getElem?_toArray,List.getElem?_map,Option.map_eq_some_iff] at g
 obtain⟨x,m,n⟩:=g
 exact ZjR (h.mem.cel b t c d x (List.mem_of_getElem? m)).1 n
theorem Inv.called (h:Inv N S0 w0 s Φ L a w){w':World}{φ:World→Prop}(f:Ext w w')(g:BoxN w w' φ){d:Nat}(j:d<N)(v:Value):Inv N S0 w0 (s.app d (.v v,none)) (fun w=>Φ w∧φ w) L (a.put (some d) v) w':=by
 have c:=h.app0 j (al_v (s:=s) v)
 exact⟨c.size,c.df,c.sl,⟨fun b t k e=>(c.mem.blk b t k e).ext f,c.mem.inj,c.mem.old,c.mem.ext.ext f,c.mem.slp,c.mem.cel⟩,(c.box.ext f).and (g _ (fun i l=>h.own_nrb l))⟩
theorem ZgG (hi:Inv N S0 w0 s Φ L a w){o:Oper}{d:Nat}{α:Type}{i:α→Value}{φ:α→World→Prop}(n:s.wantB ops o=some true)(p:lF o.op=true)(q:o.op.operands.toList.all s.vB=true)(j:o.dst=some d)(k:d<N)(b:∀ w,Fr S0 w0 w→Φ w→Does P o s.rho w (DoR i φ w)){K:Act→World→Prop}(l:∀ x L a w,Inv N S0 w0 (s.app d (.v (i x),none)) (fun w=>Φ w∧φ x w) L a w→K a w) :
 if Region.wanted o (yielded ops a.tmps)=true then o.wp P a w K Q else K (a.put o.dst undef) w:=by
 rw[if_pos (hi.want n)]
 unfold Oper.wp
 rw[hi.exec p q]
 rcases b w hi.mem.ext hi.box.self with ⟨y,w',c,x,rfl,g,h⟩|⟨f,m,u,c,r⟩
 ·rw[c,Oper.upon_value,j]
  exact l x _ _ _ (hi.called g h k _)
 rw[c,Oper.upon_enter]
 refine Calls.mono r fun e w' t=>?_
 obtain⟨y,rfl,x,rfl,g,h⟩:=t
 simp only[j]
 exact l x _ _ _ (hi.called g h k _)
theorem Zmk (hi:Inv N S0 w0 s Φ L a w){o:Oper}{d:Nat}{α:Type}{h:α→Value}{E:α→World→World→Prop}(l:s.wantB ops o=some true)(m:lF o.op=true)(n:o.op.operands.toList.all s.vB=true)(i:o.dst=some d)(b:∀ w,Fr S0 w0 w→Φ w→Does P o s.rho w (fun y w'=>∃ x,y=h x∧E x w w')){K:Act→World→Prop}(j:∀ x w',E x w w'→K (a.put (some d) (h x)) w') :
 if Region.wanted o (yielded ops a.tmps)=true then o.wp P a w K Q else K (a.put o.dst undef) w:=by
 rw[if_pos (hi.want l)]
 unfold Oper.wp
 rw[hi.exec m n]
 rcases b w hi.mem.ext hi.box.self with ⟨y,w',c,x,rfl,g⟩|⟨f,k,r,c,p⟩
 ·rw[c,Oper.upon_value,i]
  exact j x _ g
 rw[c,Oper.upon_enter]
 refine Calls.mono p fun e w' q=>?_
 obtain⟨y,rfl,x,rfl,g⟩:=q
 simp only[i]
 exact j x _ g
end
def gZ (P:Program) (ops:Array Oper) (o:Oper) (s:St):Option St :=
 match s.wantB ops o with
 | none=>none
 | some false=>some s
 | some true =>
  match o.op with
  | .store t x y =>
   match s.eval x,s.eval y,teOf P t with
   | some (.p b off),some z,some e =>
    match s.bl b with
    | some (bt,cs)=>bif Nat.beq (wN z).length e.size && (Nat.ble (off+(wN z).length) cs.length && (wN z).all iI) then some { s with bl:=upd s.bl b (bt,jO cs off (wN z)) } else none
    | none=>none
   | _,_,_=>none
  | _=>none
def stpL (P:Program) (N:Nat) (ops:Array Oper) (o:Oper) (s:St):Option St :=
 match o.dst with
 | some d=>bif Nat.blt d N then (match kW P ops o s with | some r=>some (s.app d r) | none=>none) else none
 | none=>gZ P ops o s
def runL (P:Program) (N:Nat) (ops:Array Oper):List Oper→St→Option St
 | [],s=>some s
 | o :: l,s=>match stpL P N ops o s with | some s'=>runL P N ops l s' | none=>none
def Zd6 (s:St) (o:Oper):Option (FuncId × List Value) :=
 match o.op with
 | .call c=>match c.callee with
   | .value fo=>match s.eval fo with
     | some (.v (.func (.func f) first captured))=>some (f,first.toList ++ c.args.toList.map s.rho ++ captured.toList)
     | _=>none
   | _=>none
 | _=>none
def Za7 (P:Program) (f:FuncId):Bool :=
 match P.funcs[f]? with
 | some fn => !(fn.name == "runtime.NumGoroutine") && !fn.body.isNone
 | none=>false
def kX (P:Program) (N:Nat) (ops:Array Oper) (o:Oper) (s:St):Option (FuncId×List Value×Nat) :=
 match s.wantB ops o,Zd6 s o,o.dst with
 | some true,some q,some d=>bif lF o.op && (o.op.operands.toList.all s.vB && (Za7 P q.1 && Nat.blt d N)) then some (q.1,q.2,d) else none
 | _,_,_=>none
def Zgh (P:Program) (s:St):ResultVar→Option Value
 | .tmp t=>match s.sl t with | some (.v x)=>some x | _=>none
 | .cell t ty=>match s.sl t with
   | some (.p b off)=>match aX P s ty b off with | some (.v x)=>some x | _=>none
   | _=>none
def resL (P:Program) (s:St):List ResultVar→Option (List Value)
 | []=>some []
 | r :: l=>match Zgh P s r,resL P s l with | some x,some m=>some (x :: m) | _,_=>none
def Zgi (P:Program) (fn:Func) (s:St):Option Value :=
 match resL P s fn.results.toList with
 | some [x]=>some x
 | some m=>some (.tuple m.toArray)
 | none=>none
def ZcI:Nat→List Value→SlL
 | _,[]=>[]
 | k,x :: l=>(k,.v x) :: ZcI (k+1) l
section
variable {N:Nat} {S0:Nat→Prop} {w0:World} {s:St} {Φ Ψ:World→Prop} {L:Nat→Nat} {a:Act} {w:World} {P:Program} {ops:Array Oper} {Q:Exit→Act→World→Prop}
theorem Zi0 {α β:Type}(f:α→β)(l:List α)(off:Nat)(cs:List α):(jO l off cs).map f=jO (l.map f) off (cs.map f):=by
 simp[jO,List.map_take,List.map_drop]
theorem Zd7 {α:Type}{l:List α}{off:Nat}{cs:List α}{x:α}(h:x∈jO l off cs):x∈l∨x∈cs:=by
 unfold jO at h
 rcases List.mem_append.1 h with h|h
 ·rcases List.mem_append.1 h with h|h
  ·exact Or.inl (List.mem_of_mem_take h)
  exact Or.inr h
 exact Or.inl (List.mem_of_mem_drop h)
theorem Zfx (hi:Inv N S0 w0 s Φ L a w){o:Oper}{s':St}(h:gZ P ops o s=some s')(U:o.dst=none){K:Act→World→Prop}(V:∀ L a w,Inv N S0 w0 s' Φ L a w→K a w) :
 if Region.wanted o (yielded ops a.tmps)=true then o.wp P a w K Q else K (a.put o.dst undef) w:=by
 unfold gZ at h
 split at h
 ·cases h
 ·rename_i E
  injection h with h
  subst h
  rw[if_neg (by rw[hi.want E];simp),U]
  exact V _ _ _ hi
 rename_i E
 rw[if_pos (hi.want E)]
 split at h
 ·rename_i t x y ho
  split at h
  ·rename_i b off z e hx W he
   split at h
   ·rename_i D cs F
    cases hc:(Nat.beq (wN z).length e.size && (Nat.ble (off+(wN z).length) cs.length && (wN z).all iI)) with
    | false=>rw[hc] at h;cases h
    | true =>
     rw[hc] at h
     simp only[cond_true,Option.some.injEq] at h
     simp only[Bool.and_eq_true] at hc
     have hn:=Nat.eq_of_beq_eq_true hc.1
     have hl:=Nat.le_of_ble_eq_true hc.2.1
     have r:∀ c,c∈wN z→iI c=true:=fun c j=>List.all_eq_true.1 hc.2.2 c j
     have m:(s.bl b).isSome=true:=by rw[F];rfl
     have X:=hi.eval hx
     have ey:=hi.eval W
     simp only[AV.conc] at X
     have k:=Zb6 L z
     have hB:=hi.mem.blk b D cs F
     have G:∀ c,c∈wN z→c.al s:=fun c j=>by
      cases z with
      | v y=>obtain⟨Y,_,rfl⟩:=List.mem_map.1 j;exact al_v _
      | p b' off'=>simp only[wN,List.mem_singleton] at j;subst j;exact fun b2 Z u=>by injection u with e3 _;rw[←e3];exact hi.mem.evp W
     obtain⟨w',hr,H,I⟩:=Zc6 (P:=P) he (v:=z.conc L) hB (by rw[←k];simpa using hn) (by rw[←k];simpa using hl) (fun c j=>by
      rw[←k] at j
      obtain⟨Y,f,rfl⟩:=List.mem_map.1 j
      exact ZjQ L (r Y f))
     unfold Oper.wp
     have A:(execOp a.eval o).run P w=.ok .skip w':=by simp only[execOp,ho,Sem.run_bind,X,ey,hr,Result.andThen_ok,Sem.run_pure]
     rw[A,Oper.upon_skip,U]
     subst h
     have J:∀ c,c≠b→(s.bl c).isSome=true→L c≠L b:=fun c M O e=>M (hi.mem.inj c b O m e)
     have g:∀ c,((upd s.bl b (D,jO cs off (wN z))) c).isSome=true→(s.bl c).isSome=true:=fun c j=>by
      by_cases e:c=b
      ·rw[e];exact m
      rw[xW _ _ e] at j;exact j
     have l:∀ c,(s.bl c).isSome=true→((upd s.bl b (D,jO cs off (wN z))) c).isSome=true:=fun c j=>by
      by_cases e:c=b
      ·rw[e,wV];rfl
      rw[xW _ _ e];exact j
     refine V L a w' ⟨hi.size,hi.df,hi.sl,⟨fun c R n f=>?_,fun c d f S e=>hi.mem.inj c d (g c f) (g d S) e,fun c f=>hi.mem.old c (g c f),hi.mem.ext.next I (fun i a0 e=>?_),fun i c off' j=>l c (hi.mem.slp i c off' j),fun c R n f q B=>?_⟩,fun w2 T=>?_⟩
     ·by_cases e:c=b
      ·subst e
       simp only[wV,Option.some.injEq] at f
       injection f with e1 u
       subst e1;subst u
       rw[Zi0,k]
       exact H
      simp only[xW _ _ e] at f
      exact (hi.mem.blk c R n f).fr I (J c e (by rw[f];rfl))
     ·rcases hi.mem.old b m with j|j
      ·omega
      rw[e];exact j
     ·have C:iI q=true∧q.al s:=by
       by_cases e:c=b
       ·subst e
        simp only[wV,Option.some.injEq] at f
        injection f with e1 u
        subst u
        rcases Zd7 B with j|j
        ·exact hi.mem.cel c D cs F q j
        exact⟨r q j,G q j⟩
       simp only[xW _ _ e] at f
       exact hi.mem.cel c R n f q B
      exact⟨C.1,fun d off' e=>l d (C.2 d off' e)⟩
     refine hi.box w2 ((I.mono (fun i _ e=>⟨b,m,e.symm⟩)).trans (T.mono (fun i _ j=>?_)))
     obtain⟨c,f,e⟩:=j
     exact⟨c,g c f,e⟩
   cases h
  cases h
 cases h
theorem Zi1 (hi:Inv N S0 w0 s Φ L a w){o:Oper}{s':St}(h:stpL P N ops o s=some s'){K:Act→World→Prop}(c:∀ L a w,Inv N S0 w0 s' Φ L a w→K a w) :
 if Region.wanted o (yielded ops a.tmps)=true then o.wp P a w K Q else K (a.put o.dst undef) w:=by
 unfold stpL at h
 split at h
 ·rename_i d b
  cases hb:Nat.blt d N with
  | false=>rw[hb] at h;cases h
  | true =>
   rw[hb] at h
   simp only[cond_true] at h
   have e:d<N:=Nat.le_of_ble_eq_true hb
   split at h
   ·rename_i r f
    injection h with h
    subst h
    exact (Zfw hi f b e).step c
   cases h
 rename_i b
 exact Zfx hi h b c
def SXl (P:Program) (N:Nat) (S0:Nat→Prop) (w0:World) (ops:Array Oper) (Q:Exit→Act→World→Prop) (l:List Oper) (s:St) (Φ:World→Prop):Prop:=∀ L a w,Inv N S0 w0 s Φ L a w→wpList P ops Q l a w
def SXi (P:Program) (N:Nat) (S0:Nat→Prop) (w0:World) (ops:Array Oper) (Q:Exit→Act→World→Prop) (i:Nat) (s:St) (Φ:World→Prop):Prop:=SXl P N S0 w0 ops Q (ops.toList.drop i) s Φ
def SXq (N:Nat) (S0:Nat→Prop) (w0:World) (Q:Act→World→Prop) (s:St) (Φ:World→Prop):Prop:=∀ L a w,Inv N S0 w0 s Φ L a w→Q a w
def SXc (P:Program) (N:Nat) (S0:Nat→Prop) (w0:World) (Q:Exit→Act→World→Prop) (c:Code) (s:St) (Φ:World→Prop):Prop:=∀ L a w,Inv N S0 w0 s Φ L a w→c.wp P Q a w
theorem Zd8:∀ (l r:List Oper) (s b:St),runL P N ops l s=some b→SXl P N S0 w0 ops Q r b Φ→SXl P N S0 w0 ops Q (l ++ r) s Φ
 | [],r,s,b,h,k=>by simp only[runL,Option.some.injEq] at h;subst h;exact k
 | o :: l,r,s,b,h,k=>by
  unfold runL at h
  split at h
  ·rename_i d e
   have f:=Zd8 l r d b h k
   intro L a w c
   exact wpList_step (fun K g=>Zi1 c e (fun L a w c=>g _ _ (f L a w c)))
  cases h
def Zd9 (P:Program) (N:Nat) (ops:Array Oper) (i k:Nat) (s:St) (sl:SlL) (bl:BlL):Option (List (Option AV)×List (Option (TypeId×List AV))) :=
 match runL P N ops ((ops.toList.drop i).take k) s with
 | some s'=>some (sl.map (fun q=>s'.sl q.1),bl.map (fun q=>s'.bl q.1))
 | none=>none
theorem SXl.weak {l:List Oper}(b:SlL)(c:BlL)(d:zX s b c)(e:wfB b c=true)(R:∀ w,Φ w→Ψ w)(h:SXl P N S0 w0 ops Q l (ofL b c) Ψ):SXl P N S0 w0 ops Q l s Φ :=
 fun L a w f=>h L a w (f.weak d e R)
theorem ZjU {i:Nat}(k:Nat)(b:SlL)(c:BlL)(h:Zd9 P N ops i k s b c=some (b.map (fun q=>some q.2),c.map (fun q=>some q.2)))(d:wfB b c=true)(K:SXi P N S0 w0 ops Q (i+k) (ofL b c) Φ):SXi P N S0 w0 ops Q i s Φ:=by
 unfold Zd9 at h
 split at h
 ·rename_i f g
  injection h with h
  unfold SXi at K ⊢
  have e:ops.toList.drop i=(ops.toList.drop i).take k ++ ops.toList.drop (i+k):=by rw[←List.drop_drop,List.take_append_drop]
  rw[e]
  exact Zd8 _ _ s f g (SXl.weak b c h d (fun _ h=>h) K)
 cases h
theorem jS {i:Nat}(h:Nat.blt i ops.size=true):ops.toList.drop i=opAt ops i :: ops.toList.drop (i+1):=by
 have b:i<ops.size:=Nat.le_of_ble_eq_true h
 rw[List.drop_eq_getElem_cons (by simpa using b)]
 simp[opAt,b]
theorem bL {o:Oper}{f:FuncId}{args:List Value}(h:Zd6 s o=some (f,args))(hk:Za7 P f=true):(execOp s.rho o).run P w=.ok (.enter f args.toArray) w:=by
 unfold Zd6 at h
 split at h
 ·rename_i c ho
  split at h
  ·rename_i fo hc
   split at h
   ·rename_i f' first captured hf
    injection h with h
    injection h with h1 h2
    subst h1;subst h2
    have e1:s.rho fo=.func (.func f') first captured:=by simp[St.rho,hf]
    have e2:(first.toList ++ c.args.toList.map s.rho ++ captured.toList).toArray=first ++ c.args.map s.rho ++ captured:=by apply Array.toList_inj.1;simp
    unfold Za7 at hk
    split at hk
    ·rename_i fn hfn
     rw[Bool.and_eq_true] at hk
     have n1 : (fn.name == "runtime.NumGoroutine") = false := by simpa using hk.1
     have n2:fn.body.isNone=false:=by simpa using hk.2
     simp only[execOp,ho,resolve,hc,e1,Deferred.ofValue,Sem.run_bind,Sem.run_pure,Result.andThen_ok,invoke,callFunc,run_program,hfn,n1,n2,Bool.false_eq_true,if_false,e2]
    cases hk
   cases h
  cases h
 cases h
theorem jB {o:Oper}{f d:Nat}{b:List Value}(h:kX P N ops o s=some (f,b,d)):s.wantB ops o=some true∧Zd6 s o=some (f,b)∧o.dst=some d∧lF o.op=true∧o.op.operands.toList.all s.vB=true∧Za7 P f=true∧d<N:=by
 unfold kX at h
 split at h
 ·rename_i q d' c e g
  cases hb:(lF o.op && (o.op.operands.toList.all s.vB && (Za7 P q.1 && Nat.blt d' N))) with
  | false=>rw[hb] at h;cases h
  | true =>
   rw[hb] at h
   simp only[cond_true,Option.some.injEq,Prod.mk.injEq] at h
   simp only[Bool.and_eq_true] at hb
   obtain⟨i,j,k⟩:=h
   subst i;subst j;subst k
   exact⟨c,e,g,hb.1,hb.2.1,hb.2.2.1,Nat.le_of_ble_eq_true hb.2.2.2⟩
 cases h
theorem ZaF {o:Oper}{f:Nat}{b:List Value}{α:Type}{c:α→Value}{φ:α→World→Prop}(h:Zd6 s o=some (f,b))(d:Za7 P f=true)(g:Calls P f b.toArray w (wS c φ w)):Does P o s.rho w (DoR c φ w) :=
 Or.inr ⟨f,b.toArray,w,bL h d,g.mono (fun e w' h=>by
  obtain⟨x,i,h⟩:=h
  exact⟨_,i,x,rfl,h⟩)⟩
theorem wO {i:Nat}{α:Type}{d:Nat}(f:α→Value)(φ:α→World→Prop)(b:Nat.blt i ops.size=true)(g:s.wantB ops (opAt ops i)=some true)(h:lF (opAt ops i).op=true)(j:(opAt ops i).op.operands.toList.all s.vB=true)(k:(opAt ops i).dst=some d)(l:Nat.blt d N=true)(c:∀ w,Fr S0 w0 w→Φ w→Does P (opAt ops i) s.rho w (DoR f φ w))(K:∀ x,SXi P N S0 w0 ops Q (i+1) (s.put d (.v (f x))) (fun w=>Φ w∧φ x w)):SXi P N S0 w0 ops Q i s Φ:=by
 unfold SXi
 rw[jS b]
 intro L a w e
 exact wpList_step (fun n m=>ZgG e g h j k (Nat.le_of_ble_eq_true l) c (fun x L a w e=>m _ _ (K x L a w e)))
theorem Zh7 {i:Nat}(f:FuncId)(b:List Value)(d:Nat){α:Type}(c:α→Value)(φ:α→World→Prop)(e:Nat.blt i ops.size=true)(h:kX P N ops (opAt ops i) s=some (f,b,d))(g:∀ w,Fr S0 w0 w→Φ w→Calls P f b.toArray w (wS c φ w))(K:∀ x,SXi P N S0 w0 ops Q (i+1) (s.put d (.v (c x))) (fun w=>Φ w∧φ x w)):SXi P N S0 w0 ops Q i s Φ:=by
 obtain⟨j,k,l,m,n,o,p⟩:=jB h
 exact wO c φ e j m n l (by rw[Nat.blt_eq];exact p) (fun w q R=>ZaF k o (g w q R)) K
theorem Znl {i:Nat}(h:Nat.ble ops.size i=true)(K:SXq N S0 w0 (Q .normal) s Φ):SXi P N S0 w0 ops Q i s Φ:=by
 unfold SXi
 rw[List.drop_of_length_le (by simpa using Nat.le_of_ble_eq_true h)]
 exact fun L a w b=>K L a w b
end
end Go.Proofs.YtoanifijmlgcgaaGreatDoor
