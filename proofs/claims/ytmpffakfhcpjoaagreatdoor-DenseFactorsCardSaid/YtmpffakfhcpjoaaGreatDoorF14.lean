/-
 My texts.
-/
import Derived.Test.YtmpffakfhcpjoaaGreatDoorF12
import Derived.Test.YtmpffakfhcpjoaaGreatDoorF13
set_option maxRecDepth 100000
set_option maxHeartbeats 8000000
namespace Go.Proofs.YtmpffakfhcpjoaaGreatDoor
open Go.RowKit
section
variable {N:Nat} {S0:Nat→Prop} {w0:World} {s s':St} {Φ Ψ Φ0:World→Prop} {L:Nat→Nat} {a:Act} {w:World} {P:Program} {ops:Array Oper} {Q:Exit→Act→World→Prop} {o:Oper}
def iH (ops:Array Oper) (o:Oper) (s s':St):Prop:=∀ t,t∈o.looksAt ops→∀ x,s.sl t=some x→s'.sl t=some x
theorem iH.eval (h:iH ops o s s'){x:Operand}(b:x∈o.op.operands.toList){y:AV}(e:s.eval x=some y):s'.eval x=some y:=by
 cases x with
 | tmp t=>exact h t (List.mem_append_left _ (List.mem_filterMap.2 ⟨.tmp t,b,rfl⟩)) y e
 | const v=>exact e
 | global g=>exact e
 | func f=>exact e
theorem iH.want (h:iH ops o s s'){r:Bool}(e:s.wantB ops o=some r):s'.wantB ops o=some r:=by
 unfold St.wantB at e ⊢
 split at e
 ·exact e
 rename_i g want f
 split at e
 ·cases e
 rename_i t i
 have d:t∈o.looksAt ops:=List.mem_append_right _ (by rw[f];simp[i])
 split at e
 ·rename_i b c;rw[h t d _ c];exact e
 ·rename_i j c;rw[h t d _ c];exact e
 cases e
theorem iH.vB (h:iH ops o s s')(e:o.op.operands.toList.all s.vB=true):o.op.operands.toList.all s'.vB=true:=by
 rw[List.all_eq_true] at e ⊢
 intro x b
 have:=h.eval b (ZcJ (e x b))
 unfold St.vB
 rw[this]
theorem iH.rho (h:iH ops o s s')(e:o.op.operands.toList.all s.vB=true){x:Operand}(b:x∈o.op.operands.toList):s'.rho x=s.rho x:=by
 have:=h.eval b (ZcJ (List.all_eq_true.1 e x b))
 show (match s'.eval x with | some (.v y)=>y | _=>undef)=_
 rw[this]
theorem iH.exec (h:iH ops o s s')(hs:jD o.op=true)(e:o.op.operands.toList.all s.vB=true):execOp s'.rho o=execOp s.rho o :=
 execOp_congr o (fun d b c=>by rw[c] at hs;cases hs) (fun x hx=>h.rho e (by simpa using hx))
theorem iH.pure (h:iH ops o s s'){x:AV}(e:lY P o s=some x):lY P o s'=some x:=by
 unfold lY at e ⊢
 cases hb:jD o.op && o.op.operands.toList.all s.vB with
 | false=>rw[hb] at e;cases e
 | true =>
  rw[hb] at e
  rw[Bool.and_eq_true] at hb
  rw[hb.1,h.vB hb.2,h.exec hb.1 hb.2]
  exact e
theorem iH.pure' (h:iH ops o s s'){r:AV×NewB}(e:noB (lY P o s)=some r):noB (lY P o s')=some r:=by
 obtain⟨x,b,_⟩:=lS e
 rw[b] at e
 rw[h.pure b]
 exact e
def cls:Op→Nat
 | .call c=>match c.callee with
   | .builtin .len=>0
   | .builtin .cap=>0
   | .builtin .min=>0
   | .builtin .max=>0
   | _=>2
 | .move _=>0
 | .assign _=>0
 | .pick _ _ _=>0
 | .alloc _=>0
 | .box _ _=>0
 | .load _ _=>1
 | .store _ _ _=>3
 | .fieldAddr _ _ _=>0
 | .field _ _ _=>0
 | .extract _ _=>0
 | .binOp _ _ _ _ _=>0
 | .unOp _ _ _=>0
 | .nilCheck _=>0
 | .build _ _=>0
 | .indexAddr _ _ _=>0
 | .index _ _ _=>0
 | .slice _ _ _ _ _=>0
 | .convert _ _ _=>0
 | _=>2
def gP (x y:Op):Bool :=
 match cls x,cls y with
 | 0,_=>true
 | _,0=>true
 | 1,1=>true
 | 1,2=>true
 | 2,1=>true
 | _,_=>false
def lsB (x y:Op):Bool :=
 match cls x,cls y with
 | 1,3=>true
 | 3,1=>true
 | _,_=>false
def Zjy:Op→Option Operand
 | .load _ x=>some x
 | .store _ x _=>some x
 | _=>none
def bT (o:Oper) (s:St) (b:Nat):Prop:=∃ x off,Zjy o.op=some x∧s.eval x=some (.p b off)
def Far (x y:Oper) (s:St):Prop:=∀ b c,bT x s b→bT y s c→b≠c
def cH (o:Oper) (s:St) (b:Nat):Prop:=∃ x off,x∈o.op.operands.toList∧s.eval x=some (.p b off)
theorem cH.addr {b:Nat}(h:cH o s b)(hc:cls o.op=1):bT o s b:=by
 obtain⟨x,d,f,e⟩:=h
 cases ho:o.op with
 | load t y =>
  rw[ho] at f
  simp only[Op.operands,List.mem_singleton] at f
  exact⟨y,d,by rw[ho];rfl,by rw[←f];exact e⟩
 | call c =>
  rw[ho] at hc
  unfold cls at hc
  simp only at hc
  split at hc<;>cases hc
 | _=>rw[ho] at hc;cases hc
theorem bT.leads {b:Nat}(h:bT o s b):cH o s b:=by
 obtain⟨x,c,hx,e⟩:=h
 refine⟨x,c,?_,e⟩
 cases ho:o.op with
 | load t y=>rw[ho] at hx;injection hx with hx;simp[Op.operands,hx]
 | store t y z=>rw[ho] at hx;injection hx with hx;simp[Op.operands,hx]
 | _=>rw[ho] at hx;cases hx
theorem Zgs {t:TypeId}{cs:List AV}{r:AV×NewB}{d:Option Nat}(b:∀ k,d=some k→s.bl k=none→s'.bl k=none)(h:ZaF s d t cs=some r):ZaF s' d t cs=some r:=by
 obtain⟨k,c,e,f,g⟩:=Zbb h
 subst c;subst e
 have i:=b k rfl f
 have j:cs.all fJ=true:=List.all_eq_true.2 g
 simp[ZaF,i,j]
theorem Zqn (h:iH ops o s s')(u:cls o.op=1→∀ b q,cH o s b→s.bl b=some q→s'.bl b=some q)(p:∀ d,o.dst=some d→s.bl d=none→s'.bl d=none){r:AV×NewB}(e:jR P ops o s=some r):jR P ops o s'=some r:=by
 unfold jR at e ⊢
 split at e
 ·cases e
 ·rename_i l
  rw[h.want l];exact e
 rename_i l
 rw[h.want l]
 simp only
 split at e
 ·rename_i x g
  obtain⟨y,k,_⟩:=lS e
  rw[k] at e
  rw[h.eval (by simp[g,Op.operands]) k];exact e
 ·rename_i x g
  obtain⟨y,k,_⟩:=lS e
  rw[k] at e
  rw[h.eval (by simp[g,Op.operands]) k];exact e
 ·rename_i c x y g
  split at e
  ·rename_i b v
   rw[h.eval (by simp[g,Op.operands]) v]
   simp only
   obtain⟨z,hz,_⟩:=lS e
   rw[hz] at e
   cases b with
   | true=>simp only[cond_true] at hz ⊢;rw[h.eval (by simp[g,Op.operands]) hz];exact e
   | false=>simp only[cond_false] at hz ⊢;rw[h.eval (by simp[g,Op.operands]) hz];exact e
  cases e
 ·split at e
  ·exact Zgs p e
  cases e
 ·rename_i t x g
  split at e
  ·rename_i y k
   rw[h.eval (by simp[g,Op.operands]) k]
   exact Zgs p e
  cases e
 ·rename_i t x f g
  split at e
  ·rename_i b i j
   rw[h.eval (by simp[g,Op.operands]) j]
   exact e
  rename_i j
  obtain⟨z,hz,_⟩:=lS e
  have m:s.vB x=true:=by
   unfold lY at hz
   cases hb':jD o.op && o.op.operands.toList.all s.vB with
   | false=>rw[hb'] at hz;cases hz
   | true=>rw[Bool.and_eq_true] at hb';exact List.all_eq_true.1 hb'.2 x (by simp[g,Op.operands])
  rw[h.eval (by simp[g,Op.operands]) (ZcJ m)]
  exact h.pure' e
 ·rename_i t x g
  split at e
  ·rename_i b i j
   have n:=h.eval (by simp[g,Op.operands]) j
   rw[n]
   simp only
   obtain⟨z,hz,_⟩:=lS e
   rw[hz] at e
   have:ZbF P s' t b i=some z:=by
    unfold ZbF at hz ⊢
    split at hz
    ·rename_i C D E A B
     rw[A,u (by rw[g];rfl) b _ ⟨x,i,by simp[g,Op.operands],j⟩ B]
     exact hz
    cases hz
   rw[this];exact e
  cases e
 ·rename_i x g
  split at e
  ·rename_i b i j
   rw[h.eval (by simp[g,Op.operands]) j]
   exact e
  rename_i j
  obtain⟨z,hz,_⟩:=lS e
  have m:s.vB x=true:=by
   unfold lY at hz
   cases hb':jD o.op && o.op.operands.toList.all s.vB with
   | false=>rw[hb'] at hz;cases hz
   | true=>rw[Bool.and_eq_true] at hb';exact List.all_eq_true.1 hb'.2 x (by simp[g,Op.operands])
  rw[h.eval (by simp[g,Op.operands]) (ZcJ m)]
  exact h.pure' e
 exact h.pure' e
structure WF (s:St):Prop where
 slp:∀ i b off,s.sl i=some (.p b off)→(s.bl b).isSome=true
 cel:∀ b t cs,s.bl b=some (t,cs)→∀ x,x∈cs→x.al s
theorem Inv.wf (h:Inv N S0 w0 s Φ L a w):WF s:=⟨h.mem.slp,fun b t c e x d=>(h.mem.cel b t c e x d).2⟩
theorem WF.evl (h:WF s){x:Operand}{y:AV}(c:s.eval x=some y):y.al s:=fun b d e=>by
 subst e
 cases x with
 | tmp t=>exact h.slp t b d c
 | const v=>simp[St.eval] at c
 | global g=>simp[St.eval] at c
 | func f=>simp[St.eval] at c
theorem WF.app0 (h:WF s)(d:Nat){x:AV}(g:x.al s):WF (s.app d (x,none)) :=
 ⟨fun i b c e=>by
  by_cases f:i=d
  ·subst f
   simp only[St.app,kC,Option.some.injEq] at e
   exact g b c e
  simp only[St.app,lI _ _ f] at e
  exact h.slp i b c e,h.cel⟩
theorem WF.appN (h:WF s){d:Nat}{t:TypeId}{cs:List AV}(j:∀ x,x∈cs→x.al s):WF (s.app d (.p d 0,some (t,cs))):=by
 have up:∀ {x:AV},x.al s→x.al (s.app d (.p d 0,some (t,cs))):=fun {x} hx b off e=>by
  by_cases c:b=d
  ·subst c;simp[St.app,kC]
  simp only[St.app,lI _ _ c];exact hx b off e
 refine⟨fun i b off e=>?_,fun b k f e x hx=>?_⟩
 ·by_cases c:i=d
  ·subst c
   simp only[St.app,kC,Option.some.injEq] at e
   injection e with c e2
   subst c
   simp[St.app,kC]
  simp only[St.app,lI _ _ c] at e
  exact up (x:=.p b off) (fun m g l=>by injection l with e2 _;rw[←e2];exact h.slp i b off e) b off rfl
 by_cases c:b=d
 ·subst c
  simp only[St.app,kC,Option.some.injEq,Prod.mk.injEq] at e
  rw[←e.2] at hx
  exact up (j x hx)
 simp only[St.app,lI _ _ c] at e
 exact up (h.cel b k f e x hx)
theorem Zed {x:AV}(h:lY P o s=some x):∃ y,x=.v y:=by
 unfold lY at h
 cases hb:jD o.op && o.op.operands.toList.all s.vB with
 | false=>rw[hb] at h;cases h
 | true =>
  rw[hb] at h
  simp only[cond_true] at h
  split at h
  ·injection h with h;exact⟨_,h.symm⟩
  cases h
theorem ZtL (f:WF s){r:AV×NewB}(h:jR P ops o s=some r){d:Nat}(u:o.dst=some d):WF (s.app d r)∧(∀ q,r.2=some q→s.bl d=none):=by
 have same:∀ (x:AV),r=(x,none)→x.al s→WF (s.app d r)∧(∀ q,r.2=some q→s.bl d=none):=fun x e i=>by subst e;exact⟨f.app0 d i,fun q e=>by cases e⟩
 have g:noB (lY P o s)=some r→WF (s.app d r)∧(∀ q,r.2=some q→s.bl d=none):=fun h=>by
  obtain⟨x,i,e⟩:=lS h
  obtain⟨y,A⟩:=Zed i
  subst A
  exact same _ e (al_v y)
 have new:∀ {t:TypeId} {cs:List AV},ZaF s o.dst t cs=some r→(∀ x,x∈cs→x.al s)→WF (s.app d r)∧(∀ q,r.2=some q→s.bl d=none):=fun h n=>by
  obtain⟨k,l,e1,B,F⟩:=Zbb h
  rw[u] at l
  injection l with l
  subst l;subst e1
  exact⟨f.appN n,fun _ _=>B⟩
 unfold jR at h
 split at h
 ·cases h
 ·injection h with h
  exact same _ h.symm (al_v _)
 split at h
 ·obtain⟨y,j,e⟩:=lS h
  exact same y e (f.evl j)
 ·obtain⟨y,j,e⟩:=lS h
  exact same y e (f.evl j)
 ·split at h
  ·rename_i b m
   obtain⟨z,hz,e⟩:=lS h
   cases b with
   | true=>exact same z e (f.evl hz)
   | false=>exact same z e (f.evl hz)
  cases h
 ·split at h
  ·refine new h (fun x i=>?_)
   obtain⟨y,_,rfl⟩:=List.mem_map.1 i
   exact al_v y
  cases h
 ·split at h
  ·rename_i y j
   refine new h (fun z hz=>?_)
   cases y with
   | v y=>obtain⟨c,_,rfl⟩:=List.mem_map.1 hz;exact al_v c
   | p b off=>simp only[lK,List.mem_singleton] at hz;subst hz;exact f.evl j
  cases h
 ·split at h
  ·rename_i b off m
   split at h
   ·split at h
    ·injection h with h
     exact same _ h.symm (fun c G C=>by injection C with e1 _;rw[←e1];exact f.evl m b off rfl)
    cases h
   cases h
  exact g h
 ·split at h
  ·obtain⟨z,hz,e⟩:=lS h
   refine same z e ?_
   unfold ZbF at hz
   split at hz
   ·rename_i e1 D cs H E
    cases ha:e1.agg with
    | true =>
     rw[ha] at hz
     simp only[cond_true] at hz
     cases hle:Nat.ble _ cs.length with
     | false=>rw[hle] at hz;cases hz
     | true =>
      rw[hle] at hz
      simp only[cond_true] at hz
      split at hz
      ·injection hz with hz;rw[←hz];exact al_v _
      cases hz
    | false =>
     rw[ha] at hz
     simp only[cond_false] at hz
     exact f.cel _ D cs E z (List.mem_of_getElem? hz)
   cases hz
  cases h
 ·split at h
  ·rename_i b off m
   injection h with h
   exact same _ h.symm (f.evl m)
  exact g h
 exact g h
def Zee:Op→Bool
 | .load _ _=>true
 | .indexAddr _ _ _=>true
 | .index _ _ _=>true
 | .binOp _ _ _ _ _=>true
 | .unOp _ _ _=>true
 | .slice _ _ _ _ _=>true
 | .convert _ _ _=>true
 | _=>false
def FV (P:Program) (ops:Array Oper) (Φ0:World→Prop) (o:Oper) (s:St) (r:AV×NewB):Prop :=
 jR P ops o s=some r∨∃ y,r=(.v y,none)∧Zee o.op=true∧s.wantB ops o=some true∧jD o.op=true∧o.op.operands.toList.all s.vB=true∧∀ w,Φ0 w→(execOp s.rho o).run P w=.ok (.value y) w
theorem FV.mono (h:iH ops o s s')(i:cls o.op=1→∀ b q,cH o s b→s.bl b=some q→s'.bl b=some q)(j:∀ d,o.dst=some d→s.bl d=none→s'.bl d=none){r:AV×NewB}(e:FV P ops Φ0 o s r):FV P ops Φ0 o s' r:=by
 rcases e with e|⟨y,k,l,m,f,g,n⟩
 ·exact Or.inl (Zqn h i j e)
 exact Or.inr ⟨y,k,l,h.want m,f,h.vB g,fun w c=>by rw[h.exec f g];exact n w c⟩
theorem FV.wf (b:WF s){r:AV×NewB}(h:FV P ops Φ0 o s r){d:Nat}(c:o.dst=some d):WF (s.app d r)∧(∀ q,r.2=some q→s.bl d=none):=by
 rcases h with h|⟨y,rfl,_⟩
 ·exact ZtL b h c
 exact⟨b.app0 d (al_v y),fun q e=>by cases e⟩
theorem FV.yld (hi:Inv N S0 w0 s Φ L a w)(Q:∀ w,Φ w→Φ0 w){r:AV×NewB}(h:FV P ops Φ0 o s r){d:Nat}(b:o.dst=some d)(c:d<N):Yld N S0 w0 P ops o (s.app d r) Φ a w:=by
 rcases h with h|⟨y,rfl,_,e,f,g,i⟩
 ·exact Zid hi h b c
 exact⟨y,w,L,by rw[b];exact hi.app0 c (al_v y),Or.inl ⟨hi.want e,by rw[hi.exec f g];exact i w (Q w hi.box.self)⟩⟩
theorem Zig {r:AV×NewB}{y:Value}(h:jR P ops o s=some r)(hk:Zee o.op=true)(f:s.wantB ops o=some true)(g:o.op.operands.toList.all s.vB=true)(i:(execOp s.rho o).run P w=.ok (.value y) w):r=(.v y,none):=by
 have c:noB (lY P o s)=some r→r=(.v y,none):=fun h=>by
  obtain⟨x,hx',e⟩:=lS h
  unfold lY at hx'
  cases hb:jD o.op && o.op.operands.toList.all s.vB with
  | false=>rw[hb] at hx';cases hx'
  | true =>
   rw[hb] at hx'
   simp only[cond_true] at hx'
   split at hx'
   ·rename_i k d
    injection hx' with hx'
    have:=Zcw d w
    rw[i] at this
    injection this with h1 _
    injection h1 with h1
    rw[e,← hx',h1]
   cases hx'
 unfold jR at h
 rw[f] at h
 simp only at h
 split at h
 case h_7 t x ho =>
  split at h
  ·rename_i b j hx'
   have:=List.all_eq_true.1 g x (by simp[ho,Op.operands])
   unfold St.vB at this
   rw[hx'] at this
   cases this
  cases h
 case h_9=>exact c h
 all_goals (rename_i ho;rw[ho] at hk;cases hk)
theorem FV.uniq (f:∃ w,Φ0 w){r q:AV×NewB}(c:FV P ops Φ0 o s r)(d:FV P ops Φ0 o s q):r=q:=by
 obtain⟨w,b⟩:=f
 rcases c with c|⟨y,rfl,g,h,k,i,e⟩
 ·rcases d with d|⟨y,rfl,g,h,k,i,e⟩
  ·rw[c] at d;injection d
  exact Zig c g h i (e w b)
 rcases d with d|⟨t,rfl,l,m,n,p,j⟩
 ·exact (Zig d g h i (e w b)).symm
 have:=e w b
 rw[j w b] at this
 injection this with c _
 injection c with c
 rw[c]
inductive Strat (P:Program) (N:Nat) (S0:Nat→Prop) (w0:World) (ops:Array Oper) (Φ0:World→Prop) (fin:St→(World→Prop)→Prop):List Nat→St→(World→Prop)→Prop
 | done {s:St} {Φ:World→Prop} (h:fin s Φ):Strat P N S0 w0 ops Φ0 fin [] s Φ
 | flt {i:Nat} {l:List Nat} {s:St} {Φ:World→Prop} {r:AV×NewB} {d:Nat} (h:FV P ops Φ0 (opAt ops i) s r) (hd:(opAt ops i).dst=some d) (hN:d<N) (K:Strat P N S0 w0 ops Φ0 fin l (s.app d r) Φ):Strat P N S0 w0 ops Φ0 fin (i :: l) s Φ
 | does {i:Nat} {l:List Nat} {s:St} {Φ:World→Prop} {d:Nat} {α:Type} (hα:Nonempty α) (sh:α→Value) (φ:α→World→Prop) (hm:cls (opAt ops i).op=2) (hw:s.wantB ops (opAt ops i)=some true) (hn:jD (opAt ops i).op=true)
  (hv:(opAt ops i).op.operands.toList.all s.vB=true) (hd:(opAt ops i).dst=some d) (hN:d<N) (hdo:∀ w,Fr S0 w0 w→Φ w→Does P (opAt ops i) s.rho w (DoR sh φ w))
  (K:∀ x,Strat P N S0 w0 ops Φ0 fin l (s.app d (.v (sh x),none)) (fun w=>Φ w∧φ x w)):Strat P N S0 w0 ops Φ0 fin (i :: l) s Φ
 | gen {i:Nat} {l:List Nat} {s:St} {Φ:World→Prop} {d:Nat} {α:Type} (hα:Nonempty α) (sh:α→Value) (E:α→World→World→Prop) (Ψ:α→World→Prop) (hm:cls (opAt ops i).op=2) (hw:s.wantB ops (opAt ops i)=some true) (hn:jD (opAt ops i).op=true)
  (hv:(opAt ops i).op.operands.toList.all s.vB=true) (hd:(opAt ops i).dst=some d) (hN:d<N) (hdo:∀ w,Fr S0 w0 w→Φ w→Does P (opAt ops i) s.rho w (fun y w'=>∃ x,y=sh x∧E x w w'))
  (Q:∀ (s':St) (L:Nat→Nat) (a:Act) (w w':World) (x:α),Inv N S0 w0 s' Φ L a w→E x w w'→Inv N S0 w0 s' (Ψ x) L a w') (h0:∀ x w,Ψ x w→Φ0 w)
  (K:∀ x,Strat P N S0 w0 ops Φ0 fin l (s.app d (.v (sh x),none)) (Ψ x)):Strat P N S0 w0 ops Φ0 fin (i :: l) s Φ
 | sto {i:Nat} {l:List Nat} {s s':St} {Φ:World→Prop} (hm:cls (opAt ops i).op=3) (h:cG P ops (opAt ops i) s=some s') (hd:(opAt ops i).dst=none) (K:Strat P N S0 w0 ops Φ0 fin l s' Φ):Strat P N S0 w0 ops Φ0 fin (i :: l) s Φ
theorem Zjz (h:cG P ops o s=some s'):s'=s∨∃ b q c,s.bl b=some q∧s'={ s with bl:=upd s.bl b c }∧bT o s b:=by
 unfold cG at h
 split at h
 ·cases h
 ·injection h with h;exact Or.inl h.symm
 split at h
 ·rename_i t x y d
  split at h
  ·rename_i b off z e f i j
   split at h
   ·rename_i k cs g
    cases hc:(Nat.beq (lK z).length e.size && (Nat.ble (off+(lK z).length) cs.length && (lK z).all fJ)) with
    | false=>rw[hc] at h;cases h
    | true =>
     rw[hc] at h
     simp only[cond_true,Option.some.injEq] at h
     exact Or.inr ⟨b,_,_,g,h.symm,x,off,by rw[d];rfl,f⟩
   cases h
  cases h
 cases h
theorem ZtM (l:WF s)(h:cG P ops o s=some s'):WF s':=by
 have f:∀ {b q' c:Nat} {z:TypeId×List AV},(s.bl c).isSome=true→((upd s.bl b z) c).isSome=true:=fun {b q' c z} h'=>by
  by_cases e:c=b
  ·rw[e,kC];rfl
  rw[lI _ _ e];exact h'
 unfold cG at h
 split at h
 ·cases h
 ·injection h with h;subst h;exact l
 split at h
 ·rename_i t x y E
  split at h
  ·rename_i b off z e F A G
   split at h
   ·rename_i B cs C
    cases hc:(Nat.beq (lK z).length e.size && (Nat.ble (off+(lK z).length) cs.length && (lK z).all fJ)) with
    | false=>rw[hc] at h;cases h
    | true =>
     rw[hc] at h
     simp only[cond_true,Option.some.injEq] at h
     subst h
     refine⟨fun i c g m=>f (q':=0) (l.slp i c g m),fun c D n j q k=>?_⟩
     have r:q.al s:=by
      by_cases u:c=b
      ·subst u
       simp only[kC,Option.some.injEq,Prod.mk.injEq] at j
       rw[←j.2] at k
       rcases Zgo k with h'|h'
       ·exact l.cel c B cs C q h'
       cases z with
       | v y=>obtain⟨H,_,rfl⟩:=List.mem_map.1 h';exact al_v _
       | p b' g=>simp only[lK,List.mem_singleton] at h';subst h';exact l.evl A
      simp only[lI _ _ u] at j
      exact l.cel c D n j q k
     exact fun d g m=>f (q':=0) (r d g m)
   cases h
  cases h
 cases h
theorem Zdd (h:iH ops o s s')(l:∀ b q,cH o s b→s.bl b=some q→s'.bl b=some q){c:St}(e:cG P ops o s=some c):(c=s∧cG P ops o s'=some s')∨∃ b q g,s.bl b=some q∧bT o s b∧c={ s with bl:=upd s.bl b g }∧cG P ops o s'=some { s' with bl:=upd s'.bl b g }:=by
 unfold cG at e ⊢
 split at e
 ·cases e
 ·rename_i d
  injection e with e
  rw[h.want d]
  exact Or.inl ⟨e.symm,rfl⟩
 rename_i d
 rw[h.want d]
 simp only
 split at e
 ·rename_i t x y f
  split at e
  ·rename_i b off z te i m n
   rw[h.eval (by simp[f,Op.operands]) i,h.eval (by simp[f,Op.operands]) m,n]
   simp only
   split at e
   ·rename_i p cs j
    have k:bT o s b:=⟨x,off,by rw[f];rfl,i⟩
    rw[l b _ k.leads j]
    simp only
    cases hc:(Nat.beq (lK z).length te.size && (Nat.ble (off+(lK z).length) cs.length && (lK z).all fJ)) with
    | false=>rw[hc] at e;cases e
    | true =>
     rw[hc] at e
     simp only[cond_true,Option.some.injEq] at e ⊢
     exact Or.inr ⟨b,_,_,j,k,e.symm,rfl⟩
   cases e
  cases e
 cases e
theorem ZbG (s:St){d e:Nat}(h:d≠e)(r q:AV×NewB):(s.app d r).app e q=(s.app e q).app d r:=by
 obtain⟨x,nx⟩:=r
 obtain⟨y,ny⟩:=q
 cases nx<;>cases ny<;>simp[St.app,Zdb _ _ _ h.symm]
theorem Zih (s:St){d t:Nat}(h:t≠d)(r:AV×NewB):(s.app d r).sl t=s.sl t:=lI _ _ h
theorem cW (s:St){d b:Nat}(h:b≠d)(r:AV×NewB):(s.app d r).bl b=s.bl b:=by
 obtain⟨x,nx⟩:=r
 cases nx with
 | none=>rfl
 | some q=>exact lI _ _ h
theorem cX {d:Nat}(h:d ∉ o.looksAt ops)(s:St)(r:AV×NewB):iH ops o s (s.app d r):=fun t b x c=>by
 rw[Zih s (fun e=>h (by rw[←e];exact b))];exact c
theorem gV {d:Nat}(h:d ∉ o.looksAt ops)(s:St)(r:AV×NewB):iH ops o (s.app d r) s:=fun t c x b=>by
 rw[Zih s (fun e=>h (by rw[←e];exact c))] at b;exact b
theorem Zfo {d b:Nat}(h:d ∉ o.looksAt ops){r:AV×NewB}(g:cH o (s.app d r) b):cH o s b:=by
 obtain⟨x,c,f,e⟩:=g
 exact⟨x,c,f,(gV h s r).eval f e⟩
theorem Strat.swap {fin:St→(World→Prop)→Prop}{x j:Nat}{l:List Nat}(T:∃ w,Φ0 w)(hW:WF s)(c0:(opAt ops x).apart ops (opAt ops j)=true)(k:gP (opAt ops x).op (opAt ops j).op=true∨(lsB (opAt ops x).op (opAt ops j).op=true∧Far (opAt ops x) (opAt ops j) s))(h:Strat P N S0 w0 ops Φ0 fin (x :: j :: l) s Φ):Strat P N S0 w0 ops Φ0 fin (j :: x :: l) s Φ:=by
 obtain⟨a1,a2,a3⟩:=Oper.apart_spec c0
 cases h with
 | flt hx hdx hNx K =>
  rename_i rx i
  have U:=hx.wf hW hdx
  have F:i ∉ (opAt ops j).looksAt ops:=a1 i hdx
  cases K with
  | flt hj hdj hNj K =>
   rename_i rj c
   have D:c ∉ (opAt ops x).looksAt ops:=a3 c hdj
   have f:i≠c:=fun e=>a2 i hdx (by rw[hdj,e])
   have B:FV P ops Φ0 (opAt ops j) s rj:=hj.mono (gV F s rx) (fun _ b q O hq=>by
    have hal:(s.bl b).isSome=true:=by
     obtain⟨y,G,_,e⟩:=Zfo F O
     exact hW.evl e b G rfl
    by_cases e:b=i
    ·subst e
     obtain⟨V,nb⟩:=rx
     cases nb with
     | none=>exact hq
     | some q'=>rw[U.2 q' rfl] at hal;cases hal
    ·rw[cW s e] at hq;exact hq)
    (fun d H g=>by
     rw[hdj] at H
     injection H with H
     subst H
     rw[cW s (Ne.symm f)] at g;exact g)
   have A:=B.wf hW hdj
   have d0:FV P ops Φ0 (opAt ops x) (s.app c rj) rx:=hx.mono (cX D s rj) (fun _ b q _ hq=>by
    by_cases e:b=c
    ·subst e
     obtain⟨V,nb⟩:=rj
     cases nb with
     | none=>exact hq
     | some q'=>rw[A.2 q' rfl] at hq;cases hq
    ·rw[cW s e];exact hq)
    (fun d H g=>by
     rw[hdx] at H
     injection H with H
     subst H
     rw[cW s f];exact g)
   rw[ZbG s f] at K
   exact .flt B hdj hNj (.flt d0 hdx hNx K)
  | does hα sh φ hmj hw hn hv hdj hNj hdo K =>
   rename_i c α
   have D:c ∉ (opAt ops x).looksAt ops:=a3 c hdj
   have f:i≠c:=fun e=>a2 i hdx (by rw[hdj,e])
   have m:=gV F s rx
   refine .does hα sh φ hmj (m.want hw) hn (m.vB hv) hdj hNj (fun w W Q=>?_) (fun z=>?_)
   ·have:=hdo w W Q
    unfold Does at this ⊢
    rw[m.exec hn hv];exact this
   refine .flt (r:=rx) (hx.mono (cX D s (.v (sh z),none)) (fun _ b q _ hq=>hq) (fun d _ g=>g)) hdx hNx ?_
   have:=K z
   rw[ZbG s f] at this
   exact this
  | gen hα sh E Ψ hmj hw hn hv hdj hNj hdo R g K =>
   rename_i c α
   have D:c ∉ (opAt ops x).looksAt ops:=a3 c hdj
   have f:i≠c:=fun e=>a2 i hdx (by rw[hdj,e])
   have m:=gV F s rx
   refine .gen hα sh E Ψ hmj (m.want hw) hn (m.vB hv) hdj hNj (fun w W Q=>?_) R g (fun z=>?_)
   ·have:=hdo w W Q
    unfold Does at this ⊢
    rw[m.exec hn hv];exact this
   refine .flt (r:=rx) (hx.mono (cX D s (.v (sh z),none)) (fun _ b q _ hq=>hq) (fun d _ g=>g)) hdx hNx ?_
   have:=K z
   rw[ZbG s f] at this
   exact this
  | sto hmj hsj hdj K =>
   rename_i s2
   have m:=gV F s rx
   have X:∀ b,bT (opAt ops j) (s.app i rx) b→cls (opAt ops x).op=1→∀ b0,cH (opAt ops x) s b0→b0≠b:=fun b hb e b0 g=>by
    rcases k with k|⟨_,k⟩
    ·simp[gP,e,hmj] at k
    obtain⟨y,G,hy,e'⟩:=hb
    refine k b0 b (g.addr e) ⟨y,G,hy,m.eval ?_ e'⟩
    cases ho:(opAt ops j).op with
    | load t z=>rw[ho] at hy;injection hy with hy;simp[Op.operands,hy]
    | store t z u=>rw[ho] at hy;injection hy with hy;simp[Op.operands,hy]
    | _=>rw[ho] at hy;cases hy
   have C:∀ b q,cH (opAt ops j) (s.app i rx) b→(s.app i rx).bl b=some q→s.bl b=some q:=fun b q O hq=>by
    have hal:(s.bl b).isSome=true:=by
     obtain⟨y,G,_,e⟩:=Zfo F O
     exact hW.evl e b G rfl
    by_cases e:b=i
    ·subst e
     obtain⟨V,nb⟩:=rx
     cases nb with
     | none=>exact hq
     | some q'=>rw[U.2 q' rfl] at hal;cases hal
    rw[cW s e] at hq;exact hq
   rcases Zdd m C hsj with ⟨p,I⟩|⟨b,q,q',hq,O,p,I⟩
   ·subst p
    exact .sto hmj I hdj (.flt hx hdx hNx K)
   subst p
   have hsb:=C b q O.leads hq
   refine .sto hmj I hdj (.flt (FV.mono (s:=s) (s':={ s with bl:=upd s.bl b q' }) (fun t _ x hx=>hx) (fun e b0 q0 S J=>by show upd s.bl b q' b0=some q0;rw[lI _ _ (X b O e b0 S)];exact J) (fun d H g=>?_) hx) hdx hNx ?_)
   ·show upd s.bl b q' d=none
    have:d≠b:=fun e=>by subst e;rw[g] at hsb;cases hsb
    rw[lI _ _ this];exact g
   have:({ s with bl:=upd s.bl b q' }:St).app i rx={ s.app i rx with bl:=upd (s.app i rx).bl b q' }:=by
    obtain⟨V,nb⟩:=rx
    cases nb with
    | none=>rfl
    | some z =>
     have f:b≠i:=fun e=>by
      subst e
      rw[U.2 z rfl] at hsb;cases hsb
     simp only[St.app]
     rw[Zdb _ _ _ f.symm]
   rw[this];exact K
 | sto hmx hsx hdx K =>
  rename_i M
  cases K with
  | flt hj hdj hNj K =>
   rename_i rj c
   have X:∀ b,bT (opAt ops x) s b→cls (opAt ops j).op=1→∀ b0,cH (opAt ops j) s b0→b0≠b:=fun b hb e b0 g=>by
    rcases k with k|⟨_,k⟩
    ·simp[gP,e,hmx] at k
    exact fun e'=>k b b0 hb (g.addr e) e'.symm
   have D:c ∉ (opAt ops x).looksAt ops:=a3 c hdj
   rcases Zjz hsx with p|⟨b,q,q',hq,p,O⟩
   ·subst p
    have A:=hj.wf hW hdj
    have C:∀ b q,cH (opAt ops x) M b→M.bl b=some q→(M.app c rj).bl b=some q:=fun b q _ hq=>by
     by_cases e:b=c
     ·subst e
      obtain⟨V,nb⟩:=rj
      cases nb with
      | none=>exact hq
      | some q'=>rw[A.2 q' rfl] at hq;cases hq
     rw[cW M e];exact hq
    rcases Zdd (cX D M rj) C hsx with ⟨_,I⟩|⟨b,q,q',hq,O,p,I⟩
    ·exact .flt hj hdj hNj (.sto hmx I hdx K)
    refine .flt hj hdj hNj (.sto hmx I hdx ?_)
    have e3:upd M.bl b q'=M.bl:=(congrArg St.bl p).symm
    have f:∀ z,rj.2=some z→b≠c:=fun z hz e=>by
     subst e
     rw[A.2 z hz] at hq;cases hq
    have:({ M.app c rj with bl:=upd (M.app c rj).bl b q' }:St)=M.app c rj:=by
     obtain⟨V,nb⟩:=rj
     cases nb with
     | none=>simp only[St.app];rw[e3]
     | some z=>simp only[St.app];rw[Zdb _ _ _ (f z rfl),e3]
    rw[this];exact K
   have B:FV P ops Φ0 (opAt ops j) s rj:=hj.mono (fun t _ x hx=>by rw[p] at hx;exact hx) (fun e b0 q0 S J=>by
    have e0:cH (opAt ops j) s b0:=by rw[p] at S;exact S
    rw[p] at J
    simp only[lI _ _ (X b O e b0 e0)] at J;exact J) (fun d H g=>by
    rw[p] at g
    have:d≠b:=fun e=>by subst e;simp[kC] at g
    simp only[lI _ _ this] at g;exact g)
   have A:=B.wf hW hdj
   have C:∀ b q,cH (opAt ops x) s b→s.bl b=some q→(s.app c rj).bl b=some q:=fun b q _ hq=>by
    by_cases e:b=c
    ·subst e
     obtain⟨V,nb⟩:=rj
     cases nb with
     | none=>exact hq
     | some q'=>rw[A.2 q' rfl] at hq;cases hq
    rw[cW s e];exact hq
   rcases Zdd (cX D s rj) C hsx with ⟨e3,I⟩|⟨b2,q2,q3,hq2,f0,e3,I⟩
   ·refine .flt B hdj hNj (.sto hmx I hdx ?_)
    rw[e3] at K;exact K
   refine .flt B hdj hNj (.sto hmx I hdx ?_)
   have f:∀ z,rj.2=some z→b2≠c:=fun z hz e=>by
    subst e
    rw[A.2 z hz] at hq2;cases hq2
   have:({ s.app c rj with bl:=upd (s.app c rj).bl b2 q3 }:St)=M.app c rj:=by
    rw[e3]
    obtain⟨V,nb⟩:=rj
    cases nb with
    | none=>rfl
    | some z=>simp only[St.app];rw[Zdb _ _ _ (f z rfl)]
   rw[this];exact K
  | does hα sh φ hmj _ _ _ _ _ _ _=>simp[gP,lsB,hmx,hmj] at k
  | gen hα sh E Ψ hmj _ _ _ _ _ _ _ _ _=>simp[gP,lsB,hmx,hmj] at k
  | sto hmj _ _ _=>simp[gP,lsB,hmx,hmj] at k
 | gen hα sh E Ψ hmx hw hn hv hdx hNx hdo R g K =>
  rename_i i α
  have F:i ∉ (opAt ops j).looksAt ops:=a1 i hdx
  obtain⟨z0⟩:=hα
  have Kj:∀ z,∃ rj c,FV P ops Φ0 (opAt ops j) s rj∧(opAt ops j).dst=some c∧c<N∧Strat P N S0 w0 ops Φ0 fin l ((s.app i (.v (sh z),none)).app c rj) (Ψ z):=fun z=>by
   have K1:=K z
   cases K1 with
   | flt hj hdj hNj K=>exact⟨_,_,hj.mono (gV F s (.v (sh z),none)) (fun _ b q _ hq=>hq) (fun d _ g=>g),hdj,hNj,K⟩
   | does hα sh' φ' hmj _ _ _ _ _ _ _=>simp[gP,lsB,hmx,hmj] at k
   | gen hα sh' E' Ψ' hmj _ _ _ _ _ _ _ _ _=>simp[gP,lsB,hmx,hmj] at k
   | sto hmj _ _ _=>simp[gP,lsB,hmx,hmj] at k
  obtain⟨rj,c,hj,hdj,hNj,_⟩:=Kj z0
  have D:c ∉ (opAt ops x).looksAt ops:=a3 c hdj
  have f:i≠c:=fun e=>a2 i hdx (by rw[hdj,e])
  have m:=cX D s rj
  refine .flt hj hdj hNj (.gen ⟨z0⟩ sh E Ψ hmx (m.want hw) hn (m.vB hv) hdx hNx (fun w W Q=>?_) R g (fun z=>?_))
  ·have:=hdo w W Q
   unfold Does at this ⊢
   rw[m.exec hn hv];exact this
  obtain⟨rj2,Y,Z,n,a0,K2⟩:=Kj z
  have p:Y=c:=by rw[hdj] at n;injection n with e;exact e.symm
  subst p
  rw[FV.uniq T hj Z]
  rw[ZbG s f] at K2
  exact K2
 | does hα sh φ hmx hw hn hv hdx hNx hdo K =>
  rename_i i α
  have F:i ∉ (opAt ops j).looksAt ops:=a1 i hdx
  obtain⟨z0⟩:=hα
  have Kj:∀ z,∃ rj c,FV P ops Φ0 (opAt ops j) s rj∧(opAt ops j).dst=some c∧c<N∧Strat P N S0 w0 ops Φ0 fin l ((s.app i (.v (sh z),none)).app c rj) (fun w=>Φ w∧φ z w):=fun z=>by
   have K1:=K z
   cases K1 with
   | flt hj hdj hNj K=>exact⟨_,_,hj.mono (gV F s (.v (sh z),none)) (fun _ b q _ hq=>hq) (fun d _ g=>g),hdj,hNj,K⟩
   | does hα sh' φ' hmj _ _ _ _ _ _ _=>simp[gP,lsB,hmx,hmj] at k
   | gen hα sh' E' Ψ' hmj _ _ _ _ _ _ _ _ _=>simp[gP,lsB,hmx,hmj] at k
   | sto hmj _ _ _=>simp[gP,lsB,hmx,hmj] at k
  obtain⟨rj,c,hj,hdj,hNj,_⟩:=Kj z0
  have D:c ∉ (opAt ops x).looksAt ops:=a3 c hdj
  have f:i≠c:=fun e=>a2 i hdx (by rw[hdj,e])
  have m:=cX D s rj
  refine .flt hj hdj hNj (.does ⟨z0⟩ sh φ hmx (m.want hw) hn (m.vB hv) hdx hNx (fun w W Q=>?_) (fun z=>?_))
  ·have:=hdo w W Q
   unfold Does at this ⊢
   rw[m.exec hn hv];exact this
  have K1:=K z
  cases K1 with
  | flt hj2 n a0 K2 =>
   rename_i rj2 Y
   have Z:FV P ops Φ0 (opAt ops j) s rj2:=hj2.mono (gV F s (.v (sh z),none)) (fun _ b q _ hq=>hq) (fun d _ g=>g)
   have p:Y=c:=by rw[hdj] at n;injection n with e;exact e.symm
   subst p
   rw[FV.uniq T hj Z]
   rw[ZbG s f] at K2
   exact K2
  | does _ _ _ hmj _ _ _ _ _ _ _=>simp[gP,lsB,hmx,hmj] at k
  | gen _ _ _ _ hmj _ _ _ _ _ _ _ _ _=>simp[gP,lsB,hmx,hmj] at k
  | sto hmj _ _ _=>simp[gP,lsB,hmx,hmj] at k
end
section
variable {N:Nat} {S0:Nat→Prop} {w0:World} {s s':St} {Φ Ψ Φ0:World→Prop} {L:Nat→Nat} {a:Act} {w:World} {P:Program} {ops:Array Oper} {Q:Exit→Act→World→Prop} {o:Oper} {fin:St→(World→Prop)→Prop}
def Zgt (ops:Array Oper) (t:Nat):Nat:=ops.toList.findIdx fun o=>match o.dst with | some d=>Nat.beq d t | none=>false
def srcT:Op→Option Nat
 | .fieldAddr _ (.tmp u) _=>some u
 | .nilCheck (.tmp u)=>some u
 | .move (.tmp u)=>some u
 | _=>none
def pmF (ops:Array Oper) (s0:St):Nat→Nat→Option Nat
 | 0,_=>none
 | f + 1,t=>bif Nat.blt (Zgt ops t) ops.size then (match (opAt ops (Zgt ops t)).op with | .alloc _=>some t | .box _ _=>some t | o=>match srcT o with | some u=>pmF ops s0 f u | none=>none)
   else (match s0.sl t with | some (.p b _)=>some b | _=>none)
def BI (ops:Array Oper) (s0 s:St):Prop:=∀ f t b',pmF ops s0 f t=some b'→∀ b off,s.sl t=some (.p b off)→b=b'
def ZaG (ops:Array Oper):Bool:=(List.range ops.size).all fun i=>match (opAt ops i).dst with | some d=>Nat.beq (Zgt ops d) i | none=>true
def Ze0 (ops:Array Oper) (sl:SlL):Bool:=sl.all fun q=>match q.2 with | .p _ _ => !(Nat.blt (Zgt ops q.1) ops.size) | _=>true
theorem BI.init {sl:SlL}{c:BlL}(h:Ze0 ops sl=true):BI ops (ofL sl c) (ofL sl c):=by
 intro f t g hp b e d
 have h1:=List.all_eq_true.1 h _ (lV (i:=t) d)
 simp only at h1
 cases f with
 | zero=>cases hp
 | succ f =>
  unfold pmF at hp
  cases hb:Nat.blt (Zgt ops t) ops.size with
  | true=>rw[hb] at h1;cases h1
  | false =>
   rw[hb] at hp
   simp only[cond_false,d,Option.some.injEq] at hp
   exact hp
theorem Zon {r:AV×NewB}(h:jR P ops o s=some r){u b off:Nat}(ho:srcT o.op=some u)(hr:r.1=.p b off):∃ g,s.sl u=some (.p b g):=by
 have c:∀ {x:Option AV},x=lY P o s→noB x=some r→False:=fun e h=>by
  obtain⟨x,i,m⟩:=lS h
  rw[e] at i
  obtain⟨y,n⟩:=Zed i
  subst n;subst m;cases hr
 unfold srcT at ho
 split at ho
 ·rename_i t l k d
  injection ho with ho
  subst ho
  unfold jR at h
  rw[d] at h
  simp only at h
  split at h
  ·cases h
  ·injection h with h;subst h;cases hr
  split at h
  ·rename_i q f j
   split at h
   ·split at h
    ·injection h with h
     subst h
     injection hr with e1 _
     subst e1
     exact⟨f,j⟩
    cases h
   cases h
  exact (c rfl h).elim
 ·rename_i l d
  injection ho with ho
  subst ho
  unfold jR at h
  rw[d] at h
  simp only at h
  split at h
  ·cases h
  ·injection h with h;subst h;cases hr
  split at h
  ·rename_i q f j
   injection h with h
   subst h
   injection hr with e1 _
   subst e1
   exact⟨f,j⟩
  exact (c rfl h).elim
 ·rename_i l d
  injection ho with ho
  subst ho
  unfold jR at h
  rw[d] at h
  simp only at h
  split at h
  ·cases h
  ·injection h with h;subst h;cases hr
  obtain⟨x,i,e⟩:=lS h
  subst e
  simp only at hr
  subst hr
  exact⟨off,i⟩
 cases ho
def Zm5:Op→Bool
 | .alloc _=>true
 | .box _ _=>true
 | _=>false
theorem Zsg {r:AV×NewB}(h:jR P ops o s=some r)(ho:Zm5 o.op=true){b off d:Nat}(hr:r.1=.p b off)(g:o.dst=some d):b=d:=by
 have c:∀ {t:TypeId} {cs:List AV},ZaF s o.dst t cs=some r→b=d:=fun h=>by
  obtain⟨k,f,e,_⟩:=Zbb h
  rw[g] at f
  injection f with f
  subst f;subst e
  injection hr with e1 _
  exact e1.symm
 unfold jR at h
 split at h
 ·cases h
 ·injection h with h;subst h;cases hr
 cases hop:o.op with
 | alloc t =>
  rw[hop] at h
  simp only at h
  split at h
  ·exact c h
  cases h
 | box t x =>
  rw[hop] at h
  simp only at h
  split at h
  ·exact c h
  cases h
 | _=>rw[hop] at ho;cases ho
theorem FV.new {r:AV×NewB}(h:FV P ops Φ0 o s r)(c:Zm5 o.op=true){b off d:Nat}(hr:r.1=.p b off)(e:o.dst=some d):b=d:=by
 rcases h with h|⟨y,rfl,_⟩
 ·exact Zsg h c hr e
 cases hr
theorem BI.app {s0:St}{i d:Nat}(h:BI ops s0 s)(g:ZaG ops=true)(hi:i<ops.size)(q:(opAt ops i).dst=some d){r:AV×NewB}(l:∀ b off,r.1=.p b off→Zm5 (opAt ops i).op=true→b=d)(v:∀ b off,r.1=.p b off→∀ u,srcT (opAt ops i).op=some u→∃ off',s.sl u=some (.p b off')):BI ops s0 (s.app d r):=by
 intro f t m hp b off c
 by_cases e:t=d
 ·subst e
  simp only[St.app,kC,Option.some.injEq] at c
  have n:=List.all_eq_true.1 g i (List.mem_range.2 hi)
  rw[q] at n
  have x:=Nat.eq_of_beq_eq_true n
  cases f with
  | zero=>cases hp
  | succ f =>
   unfold pmF at hp
   rw[x] at hp
   have:Nat.blt i ops.size=true:=by rw[Nat.blt_eq];exact hi
   rw[this] at hp
   simp only[cond_true] at hp
   split at hp
   ·rename_i j
    injection hp with hp
    rw[←hp];exact l b off c (by rw[j];rfl)
   ·rename_i j
    injection hp with hp
    rw[←hp];exact l b off c (by rw[j];rfl)
   split at hp
   ·rename_i u g
    obtain⟨off',k⟩:=v b off c u g
    exact h f u m hp b off' k
   cases hp
 simp only[St.app,lI _ _ e] at c
 exact h f t m hp b off c
theorem FV.field {r:AV×NewB}(h:FV P ops Φ0 o s r){b off:Nat}(hr:r.1=.p b off){u:Nat}(d:srcT o.op=some u):∃ c,s.sl u=some (.p b c):=by
 rcases h with h|⟨y,rfl,_⟩
 ·exact Zon h d hr
 cases hr
theorem Zoo (h:cG P ops o s=some s'):s'.sl=s.sl:=by
 rcases Zjz h with e|⟨b,q,c,_,e,_⟩
 ·rw[e]
 rw[e]
def farB (ops:Array Oper) (s0:St) (x j:Oper):Bool :=
 match Zjy x.op,Zjy j.op with
 | some (.tmp t),some (.tmp u)=>match pmF ops s0 4 t,pmF ops s0 4 u with
   | some b,some c => !(Nat.beq b c)
   | _,_=>false
 | _,_=>false
theorem Zqo {s0:St}{x j:Oper}(h:farB ops s0 x j=true)(g:BI ops s0 s):Far x j s:=by
 intro b c ⟨y,off,hy,ey⟩ ⟨z,off',hz,ez⟩
 unfold farB at h
 rw[hy,hz] at h
 split at h
 ·rename_i t u d f
  injection d with d
  injection f with f
  subst d;subst f
  split at h
  ·rename_i i k l m
   have n:=g 4 t i l b off ey
   have p:=g 4 u k m c off' ez
   intro e
   rw[n,p] at e
   rw[e] at h
   simp at h
  cases h
 cases h
theorem Strat.under {s0:St}{x:Nat}{l j:List Nat}(e:ZaG ops=true)(g:x<ops.size)(c:WF s)(d:BI ops s0 s)(H:∀ s Φ,WF s→BI ops s0 s→Strat P N S0 w0 ops Φ0 fin l s Φ→Strat P N S0 w0 ops Φ0 fin j s Φ)(h:Strat P N S0 w0 ops Φ0 fin (x :: l) s Φ):Strat P N S0 w0 ops Φ0 fin (x :: j) s Φ:=by
 cases h with
 | flt hf hd hN K=>exact .flt hf hd hN (H _ _ (hf.wf c hd).1 (d.app e g hd (fun b off hr i=>hf.new i hr hd) (fun b off hr u i=>hf.field hr i)) K)
 | does hα sh φ hm hw hn hv hd hN hdo K=>exact .does hα sh φ hm hw hn hv hd hN hdo (fun z=>H _ _ (c.app0 _ (al_v _)) (d.app e g hd (fun b off hr=>by cases hr) (fun b off hr=>by cases hr)) (K z))
 | gen hα sh E Ψ hm hw hn hv hd hN hdo Q h0 K=>exact .gen hα sh E Ψ hm hw hn hv hd hN hdo Q h0 (fun z=>H _ _ (c.app0 _ (al_v _)) (d.app e g hd (fun b off hr=>by cases hr) (fun b off hr=>by cases hr)) (K z))
 | sto hm h hd K=>exact .sto hm h hd (H _ _ (ZtM c h) (fun f t m n b off k=>d f t m n b off (by rw[Zoo h] at k;exact k)) K)
theorem Strat.front {s0:St}(i:ZaG ops=true)(e:∃ w,Φ0 w){j:Nat}:∀ (c d:List Nat) (s:St) (Φ:World→Prop),WF s→BI ops s0 s→(∀ x,x∈c→x<ops.size∧(opAt ops x).apart ops (opAt ops j)=true∧(gP (opAt ops x).op (opAt ops j).op=true∨(lsB (opAt ops x).op (opAt ops j).op=true∧farB ops s0 (opAt ops x) (opAt ops j)=true))) →
 Strat P N S0 w0 ops Φ0 fin (c ++ j :: d) s Φ→Strat P N S0 w0 ops Φ0 fin (j :: (c ++ d)) s Φ
 | [],d,s,Φ,_,_,_,h=>h
 | x :: c,d,s,Φ,hW,hB,hx,h=>by
  have b:=hx x List.mem_cons_self
  have k:Strat P N S0 w0 ops Φ0 fin (x :: j :: (c ++ d)) s Φ:=Strat.under i b.1 hW hB (fun s Φ f g l=>Strat.front i e c d s Φ f g (fun y m=>hx y (List.mem_cons_of_mem _ m)) l) h
  exact Strat.swap e hW b.2.1 (b.2.2.imp id (fun h=>⟨h.1,Zqo h.2 hB⟩)) k
theorem dJ {i:Nat}(h:i<ops.size):ops[i]? = some (opAt ops i):=by simp[opAt,h]
theorem Strat.exec {s0:St}{j:Nat}{l:List Nat}(k:ZaG ops=true)(e:BI ops s0 s)(g:j<ops.size)(hi:Inv N S0 w0 s Φ L a w)(R:∀ w,Φ w→Φ0 w)(h:Strat P N S0 w0 ops Φ0 fin (j :: l) s Φ){K:Act→World→Prop}(i:∀ s' Φ' L a w,BI ops s0 s'→(∀ w,Φ' w→Φ0 w)→Inv N S0 w0 s' Φ' L a w→Strat P N S0 w0 ops Φ0 fin l s' Φ'→K a w):wpOp P ops Q j K a w:=by
 unfold wpOp
 rw[dJ g]
 simp only
 have d:if Region.wanted (opAt ops j) (yielded ops a.tmps)=true then (opAt ops j).wp P a w K Q else K (a.put (opAt ops j).dst undef) w:=by
  cases h with
  | flt hx hd hN K'=>exact (hx.yld hi R hd hN).step (fun L a w c=>i _ _ L a w (e.app k g hd (fun b off hr m=>hx.new m hr hd) (fun b off hr u m=>hx.field hr m)) R c K')
  | does hα sh φ hm hw hn hv hd hN hdo K'=>exact Zjv hi hw hn hv hd hN hdo (fun z L a w c=>i _ _ L a w (e.app k g hd (fun b off hr=>by cases hr) (fun b off hr=>by cases hr)) (fun w h=>R w h.1) c (K' z))
  | gen hα sh E Ψ hm hw hn hv hd hN hdo S h0 K'=>exact Zsf hi hw hn hv hd hdo (fun z w' he=>i _ _ L _ _ (e.app k g hd (fun b off hr=>by cases hr) (fun b off hr=>by cases hr)) (h0 z) ((S _ _ _ _ _ z hi he).app0 hN (al_v _)) (K' z))
  | sto hm h hd K'=>exact Zie hi h hd (fun L a w c=>i _ _ L a w (fun f t p q b off n=>e f t p q b off (by rw[Zoo h] at n;exact n)) R c K')
 by_cases hw:Region.wanted (opAt ops j) (yielded ops a.tmps)=true
 ·rw[if_pos hw] at d ⊢;exact Or.inl d
 rw[if_neg hw] at d ⊢;exact d
def un (n:Nat) (listed:Array Bool):List Nat:=(List.range n).filter fun i => !listed.getD i true
theorem eP {n i:Nat}{b:Array Bool}:i∈un n b↔i<n∧b.getD i true=false:=by
 simp[un,List.mem_filter]
theorem aJ (n:Nat)(b:Array Bool):(un n b).Pairwise (· < ·):=List.Pairwise.filter _ List.pairwise_lt_range
theorem Zk0 {b:Array Bool}{j:Nat}(h:b.getD j true=false):(b.setIfInBounds j true).getD j true=true:=by
 have c:j<b.size:=by
  rcases Nat.lt_or_ge j b.size with d|d
  ·exact d
  simp[Array.getElem?_eq_none d] at h
 simp[c]
theorem ZjA {n j:Nat}{b:Array Bool}{l1 l2:List Nat}(h:un n b=l1 ++ j :: l2):un n (b.setIfInBounds j true)=l1 ++ l2:=by
 have g:b.getD j true=false:=(eP.1 (by rw[h];simp:j∈un n b)).2
 have e:un n (b.setIfInBounds j true)=(un n b).filter (fun i=>i != j):=by
  unfold un
  rw[List.filter_filter]
  refine List.filter_congr (fun i _=>?_)
  by_cases c:i=j
  ·subst c;rw[Zk0 g];simp
  rw[getD_set_ne true (Ne.symm c)];simp[c]
 rw[e,h,List.filter_append,List.filter_cons]
 have f:=aJ n b
 rw[h] at f
 obtain⟨_,k,l⟩:=List.pairwise_append.1 f
 have m:=(List.pairwise_cons.1 k).1
 rw[List.filter_eq_self.2 (fun x d=>by have:=l x d j List.mem_cons_self;simp;omega),List.filter_eq_self.2 (fun x d=>by have:=m x d;simp;omega)]
 simp
def Zb9 (ops:Array Oper):Bool:=(List.range ops.size).all fun j=>match ops[j]? with | some o=>o.after.all (fun e => !Region.binds .any e || Nat.blt e.on j) | none=>true
def Ze1 (R:Nat→Nat→Bool) (ops:Array Oper) (s0:St) (n:Nat):Bool:=(List.range n).all fun j=>(List.range j).all fun x=>R j x || ((opAt ops x).apart ops (opAt ops j) && (gP (opAt ops x).op (opAt ops j).op || (lsB (opAt ops x).op (opAt ops j).op && farB ops s0 (opAt ops x) (opAt ops j))))
def cI (ops:Array Oper) (n:Nat):Array Bool:=(List.replicate n true ++ List.replicate (ops.size-n) false).toArray
def Zgu (ops:Array Oper) (R:Nat→Nat→Bool):Prop:=∀ (listed:Array Bool),bS .any ops listed→∀ j x,R j x=true→(∀ ot,ops[j]? = some ot→∀ e∈ot.after,Region.binds .any e=true→listed.getD e.on false=true)→listed.getD x false=true
theorem Zfp (ops:Array Oper):Zgu ops (Zb8 .any ops 4):=fun _ c j _ h b=>Zec c 4 j h b
def upM (masks:List Nat) (l:List Edge) (m:Nat):Nat:=l.foldl (fun m e=>bif Region.binds .any e then m ||| (masks.getD e.on 0 ||| 1 <<< e.on) else m) m
def ZrK (ops:Array Oper) (masks:List Nat):Bool:=(List.range ops.size).all fun j=>Nat.beq (masks.getD j 0 ||| upM masks (opAt ops j).after.toList 0) (upM masks (opAt ops j).after.toList 0)
theorem ZjB {b:List Nat}{x:Nat}:∀ (l:List Edge) (m:Nat),(upM b l m).testBit x=true→m.testBit x=true∨∃ e∈l,Region.binds .any e=true∧(x=e.on∨(b.getD e.on 0).testBit x=true)
 | [],m,h=>Or.inl h
 | e :: l,m,h=>by
  have d:(upM b l (bif Region.binds .any e then m ||| (b.getD e.on 0 ||| 1 <<< e.on) else m)).testBit x=true:=h
  rcases ZjB l _ d with c|⟨f,g,c⟩
  ·cases hb:Region.binds .any e with
   | false=>rw[hb] at c;exact Or.inl c
   | true =>
    rw[hb] at c
    simp only[cond_true,Nat.testBit_or,Bool.or_eq_true] at c
    rcases c with c|c|c
    ·exact Or.inl c
    ·exact Or.inr ⟨e,List.mem_cons_self,hb,Or.inr c⟩
    refine Or.inr ⟨e,List.mem_cons_self,hb,Or.inl ?_⟩
    rw[Nat.one_shiftLeft,Nat.testBit_two_pow] at c
    have:=of_decide_eq_true c
    omega
  exact Or.inr ⟨f,List.mem_cons_of_mem _ g,c⟩
theorem Zm6 {b:List Nat}(c:Zb9 ops=true)(v:Nat.ble b.length ops.size=true)(h:ZrK ops b=true):Zgu ops (fun j x=>(b.getD j 0).testBit x):=by
 intro l y j
 induction j using Nat.strongRecOn with
 | ind j ih =>
  intro x d f
  have d:(b.getD j 0).testBit x=true:=d
  have m:j<ops.size:=by
   rcases Nat.lt_or_ge j ops.size with q|q
   ·exact q
   have:=Nat.le_of_ble_eq_true v
   rw[List.getD_eq_getElem?_getD,List.getElem?_eq_none (by omega)] at d
   simp at d
  have z:=Nat.eq_of_beq_eq_true (List.all_eq_true.1 h j (List.mem_range.2 m))
  have A:(upM b (opAt ops j).after.toList 0).testBit x=true:=by
   rw[←z,Nat.testBit_or,d,Bool.true_or]
  rcases ZjB _ _ A with g|⟨e,B,r,g⟩
  ·simp at g
  have i:e∈(opAt ops j).after:=by simpa using B
  have k:=f _ (dJ m) e i r
  rcases g with rfl|g
  ·exact k
  have t:=List.all_eq_true.1 c j (List.mem_range.2 m)
  rw[dJ m] at t
  have u:=Array.all_eq_true'.1 t e i
  rw[r] at u
  have C:=Nat.le_of_ble_eq_true u
  exact ih e.on C x g (fun D E F n p=>y e.on D E k F n p)
def ZrL (ops:Array Oper) (s0:St) (n:Nat):Bool:=Nat.ble n ops.size && (ZaG ops && Zb9 ops && ((List.range n).all (fun i=>fT .any ops n i) && (Ze1 (Zb8 .any ops 4) ops s0 n && Region.seqB .any ops (ops.size-n) n (cI ops n))))
theorem Zop {s0:St}{n:Nat}{R:Nat→Nat→Bool}(hR:Zgu ops R)(hu:ZaG ops=true)(hn:n≤ops.size)(m:Zb9 ops=true)(p:∀ i,i<n→fT .any ops n i=true)(q:Ze1 R ops s0 n=true)(B:Region.seqB .any ops (ops.size-n) n (cI ops n)=true)(M:∃ w,Φ0 w)(C:∀ s Φ,fin s Φ→∀ L a w,Inv N S0 w0 s Φ L a w→wpList P ops Q (ops.toList.drop n) a w) :
 ∀ (k:Nat) (listed:Array Bool) (s:St) (Φ:World→Prop) (L:Nat→Nat) (a:Act) (w:World),(un n listed).length=k→listed.size=ops.size→(∀ i,n≤i→i<ops.size→listed.getD i true=false)→bS .any ops listed →
 BI ops s0 s→(∀ w,Φ w→Φ0 w)→Inv N S0 w0 s Φ L a w→Strat P N S0 w0 ops Φ0 fin (un n listed) s Φ→wpAny P .any ops Q (k+(ops.size-n)) listed a w:=by
 intro k
 induction k with
 | zero =>
  intro listed s Φ L a w hk c r d t S hi hS
  have g:un n listed=[]:=List.length_eq_zero_iff.1 hk
  rw[g] at hS
  have u:listed=cI ops n:=by
   refine Array.ext (by simp[cI,c];omega) (fun i b h2=>?_)
   have v:i<ops.size:=by rw[←c];exact b
   have e:listed.getD i true=listed[i]:=by simp[b]
   rw[←e]
   by_cases z:i<n
   ·have:listed.getD i true≠false:=fun h=>by
     have:=eP.2 ⟨z,h⟩
     rw[g] at this
     cases this
    simp only[cI,List.getElem_toArray]
    rw[List.getElem_append_left (by simpa using z),List.getElem_replicate]
    cases h:listed.getD i true with
    | true=>rfl
    | false=>exact absurd h this
   rw[r i (by omega) v]
   simp only[cI,List.getElem_toArray]
   rw[List.getElem_append_right (by simpa using z),List.getElem_replicate]
  have D:(ops.toList.drop n).length=ops.size-n:=by simp
  cases hS with
  | done hf =>
   have:=wpAny_of_seq (md:=.any) (Q':=Q) (ops.toList.drop n) n listed a w (fun j=>by simp[List.getElem?_drop]) (by rw[D,u];exact B) (C _ _ hf L a w hi)
   rw[D] at this
   rw[Nat.zero_add];exact this
 | succ k ih =>
  intro listed s Φ L a w hk c r d t S hi hS
  rw[show k+1+(ops.size-n)=(k+(ops.size-n))+1 by omega]
  obtain⟨x,R',A⟩:∃ x R,un n listed=x :: R:=by
   cases h:un n listed with
   | nil=>rw[h] at hk;cases hk
   | cons x R=>exact⟨x,R,rfl⟩
  have O:=eP.1 (by rw[A];exact List.mem_cons_self:x∈un n listed)
  have E:∀ i,i<x→listed.getD i true=true:=fun i b0=>by
   cases h:listed.getD i true with
   | true=>rfl
   | false =>
    have:=eP.2 ⟨(by omega:i<n),h⟩
    rw[A] at this
    have F:=aJ n listed
    rw[A] at F
    rcases List.mem_cons.1 this with e|e
    ·omega
    have:=(List.pairwise_cons.1 F).1 i e;omega
  have hxr:x∈Region.ready .any ops listed:=by
   have f:x<ops.size:=by omega
   refine mem_ready.2 ⟨O.2,opAt ops x,dJ f,fun e he T=>?_⟩
   have b:=List.all_eq_true.1 m x (List.mem_range.2 f)
   rw[dJ f] at b
   have G:=Array.all_eq_true'.1 b e he
   rw[T] at G
   have h2:=Nat.le_of_ble_eq_true G
   have h3:=E e.on h2
   have h4:e.on<listed.size:=by rw[c];exact Nat.lt_trans h2 f
   simp[h4] at h3 ⊢;exact h3
  refine⟨fun h=>(by rw[h] at hxr;cases hxr),fun j hj=>?_⟩
  have H:j<n:=ZfJ (p x O.1) d O.2 hj
  obtain⟨I,oj,U,J⟩:=mem_ready.1 hj
  have V:j∈un n listed:=eP.2 ⟨H,I⟩
  obtain⟨l1,l2,u⟩:=List.append_of_mem V
  have F:=aJ n listed
  rw[u] at F
  have W:∀ y,y∈l1→y<ops.size∧(opAt ops y).apart ops (opAt ops j)=true∧(gP (opAt ops y).op (opAt ops j).op=true∨(lsB (opAt ops y).op (opAt ops j).op=true∧farB ops s0 (opAt ops y) (opAt ops j)=true)):=fun y hy=>by
   have X:y<j:=(List.pairwise_append.1 F).2.2 y hy j List.mem_cons_self
   have Y:=(eP.1 (by rw[u];exact List.mem_append_left _ hy:y∈un n listed)).2
   have b:=List.all_eq_true.1 (List.all_eq_true.1 q j (List.mem_range.2 H)) y (List.mem_range.2 X)
   rw[Bool.or_eq_true] at b
   rcases b with b|b
   ·have h2:=hR listed d j y b (fun o ho=>by
     have:o=oj:=Option.some.inj (ho.symm.trans U)
     subst this
     exact J)
    rw[getD_both Y] at h2
    cases h2
   simp only[Bool.and_eq_true,Bool.or_eq_true] at b
   exact⟨by omega,b⟩
  rw[u] at hS
  have Z:=Strat.front hu M l1 l2 s Φ hi.wf t W hS
  refine Strat.exec hu t (by omega) hi S Z (fun s' Φ' L' a' w' K a0 v K'=>?_)
  have l:=ZjA u
  refine ih (listed.setIfInBounds j true) s' Φ' L' a' w' ?_ (by simp[c]) (fun i b h2=>?_) (d.set hj) K a0 v (by rw[l];exact K')
  ·rw[l]
   rw[u] at hk
   simp only[List.length_append,List.length_cons] at hk ⊢
   omega
  rw[getD_set_ne true (by omega)];exact r i b h2
theorem MemI.drew (h:MemI S0 w0 s L w):MemI S0 w0 s L w.drew:=⟨h.blk,h.inj,h.old,h.ext.drew,h.slp,h.cel⟩
theorem Inv.drew (h:Inv N S0 w0 s Φ L a w):Inv N S0 w0 s Φ L a w.drew:=⟨h.size,h.df,h.sl,h.mem.drew,h.box.ext (Fr.refl _ w).drew⟩
theorem Zii {id:Nat}(n:Nat){sl:SlL}{d:BlL}{R:Nat→Nat→Bool}(f:Zgu ops R)(e:(Nat.ble n ops.size && (ZaG ops && Zb9 ops && ((List.range n).all (fun i=>fT .any ops n i) && (Ze1 R ops (ofL sl d) n && Region.seqB .any ops (ops.size-n) n (cI ops n)))))=true)(hI:Ze0 ops sl=true)(g:P.follows .mixedOrders=true)(h:Strat P N S0 w0 ops Φ (fun s Φ=>SXi P N S0 w0 ops Q n s Φ) (List.range n) (ofL sl d) Φ):SXc P N S0 w0 Q (.region id ops true) (ofL sl d) Φ:=by
 simp only[Bool.and_eq_true] at e
 obtain⟨k,⟨l,m⟩,p,q,r⟩:=e
 have t:=Nat.le_of_ble_eq_true k
 intro L a w hi
 refine wp_region_any g ?_
 have c:un n (Array.replicate ops.size false)=List.range n:=by
  unfold un
  refine List.filter_eq_self.2 (fun i b=>?_)
  have:=List.mem_range.1 b
  simp[show i<ops.size by omega]
 have:=Zop f (Q:=Q) (fin:=fun s Φ=>SXi P N S0 w0 ops Q n s Φ) l t m (fun i b=>List.all_eq_true.1 p i (List.mem_range.2 b)) q r ⟨w,hi.box.self⟩ (fun s Φ u L a w b=>u L a w b) (un n (Array.replicate ops.size false)).length (Array.replicate ops.size false) _ Φ L a w.drew rfl (by simp)
  (fun i _ v=>by simp[v]) (fun j x _ hl=>by rw[getD_replicate_false] at hl;cases hl) (BI.init hI) (fun _ h=>h) hi.drew (by rw[c];exact h)
 rw[c,List.length_range,show n+(ops.size-n)=ops.size by omega] at this
 exact this
theorem Zqp {id:Nat}(n:Nat){sl:SlL}{b:BlL}(c:ZrL ops (ofL sl b) n=true)(d:Ze0 ops sl=true)(e:P.follows .mixedOrders=true)(h:Strat P N S0 w0 ops Φ (fun s Φ=>SXi P N S0 w0 ops Q n s Φ) (List.range n) (ofL sl b) Φ):SXc P N S0 w0 Q (.region id ops true) (ofL sl b) Φ:=Zii n (Zfp ops) c d e h
def ZrM (ops:Array Oper) (s0:St) (n:Nat) (masks:List Nat):Bool:=(Nat.ble masks.length ops.size && ZrK ops masks) && (Nat.ble n ops.size && (ZaG ops && Zb9 ops && ((List.range n).all (fun i=>fT .any ops n i) && (Ze1 (fun j x=>(masks.getD j 0).testBit x) ops s0 n && Region.seqB .any ops (ops.size-n) n (cI ops n)))))
def stpF (P:Program) (N:Nat) (ops:Array Oper) (o:Oper) (s:St):Option St :=
 match o.dst with
 | some d=>bif Nat.blt d N then (match jR P ops o s with | some r=>some (s.app d r) | none=>none) else none
 | none=>bif Nat.beq (cls o.op) 3 then cG P ops o s else none
def runF (P:Program) (N:Nat) (ops:Array Oper):Nat→Nat→St→Option St
 | 0,_,s=>some s
 | k + 1,i,s=>match stpF P N ops (opAt ops i) s with
   | some s'=>runF P N ops k (i + 1) s'
   | none=>none
theorem Zm7 {i:Nat}{l:List Nat}(h:stpF P N ops (opAt ops i) s=some s')(K:Strat P N S0 w0 ops Φ0 fin l s' Φ):Strat P N S0 w0 ops Φ0 fin (i :: l) s Φ:=by
 unfold stpF at h
 split at h
 ·rename_i d b
  cases hb:Nat.blt d N with
  | false=>rw[hb] at h;cases h
  | true =>
   rw[hb] at h
   simp only[cond_true] at h
   split at h
   ·rename_i r c
    injection h with h
    subst h
    exact .flt (Or.inl c) b (Nat.le_of_ble_eq_true hb) K
   cases h
 rename_i b
 cases hb:Nat.beq (cls (opAt ops i).op) 3 with
 | false=>rw[hb] at h;cases h
 | true =>
  rw[hb] at h
  exact .sto (Nat.eq_of_beq_eq_true hb) h b K
theorem Zgv {n:Nat}:∀ (k i:Nat) (s s':St),runF P N ops k i s=some s'→i+k≤n→Strat P N S0 w0 ops Φ0 fin (List.range' (i+k) (n-(i+k))) s' Φ→Strat P N S0 w0 ops Φ0 fin (List.range' i (n-i)) s Φ
 | 0,i,s,s',h,hk,K=>by simp only[runF,Option.some.injEq] at h;subst h;exact K
 | k+1,i,s,s',h,hk,K=>by
  unfold runF at h
  split at h
  ·rename_i d b
   have c:=Zgv (n:=n) k (i+1) _ s' h (by omega) (by rw[show i+1+k=i+(k+1) by omega];exact K)
   rw[show n-i=(n-(i+1))+1 by omega,List.range'_succ]
   exact Zm7 b c
  cases h
def StI (P:Program) (N:Nat) (S0:Nat→Prop) (w0:World) (ops:Array Oper) (Φ0:World→Prop) (Q:Exit→Act→World→Prop) (n i:Nat) (s:St) (Φ:World→Prop):Prop :=
 Strat P N S0 w0 ops Φ0 (fun s Φ=>SXi P N S0 w0 ops Q n s Φ) (List.range' i (n-i)) s Φ
theorem xS {id:Nat}(n:Nat){sl:SlL}{b:BlL}(c:ZrL ops (ofL sl b) n=true)(d:Ze0 ops sl=true)(e:P.follows .mixedOrders=true)(h:StI P N S0 w0 ops Φ Q n 0 (ofL sl b) Φ):SXc P N S0 w0 Q (.region id ops true) (ofL sl b) Φ :=
 Zqp n c d e (by rw[List.range_eq_range'];exact h)
theorem iK {id:Nat}(n:Nat)(b:List Nat){sl:SlL}{c:BlL}(e:ZrM ops (ofL sl c) n b=true)(f:Ze0 ops sl=true)(g:P.follows .mixedOrders=true)(h:StI P N S0 w0 ops Φ Q n 0 (ofL sl c) Φ):SXc P N S0 w0 Q (.region id ops true) (ofL sl c) Φ:=by
 unfold ZrM at e
 obtain⟨i,d⟩:=(Bool.and_eq_true _ _).mp e
 obtain⟨j,k⟩:=(Bool.and_eq_true _ _).mp i
 have l:Zb9 ops=true:=by
  simp only[Bool.and_eq_true] at d
  exact d.2.1.2
 exact Zii n (Zm6 l j k) d f g (by rw[List.range_eq_range'];exact h)
end
section
variable {N:Nat} {S0:Nat→Prop} {w0:World} {s s':St} {Φ Ψ Φ0:World→Prop} {L:Nat→Nat} {a:Act} {w:World} {P:Program} {ops:Array Oper} {Q:Exit→Act→World→Prop} {o:Oper} {fin:St→(World→Prop)→Prop}
theorem Strat.weak {l:List Nat}(h:Strat P N S0 w0 ops Φ0 fin l s Φ):∀ {s':St},s'.bl=s.bl→(∀ t x,s.sl t=some x→s'.sl t=some x)→(∀ s s' Φ,fin s Φ→s'.bl=s.bl→(∀ t x,s.sl t=some x→s'.sl t=some x)→fin s' Φ)→Strat P N S0 w0 ops Φ0 fin l s' Φ:=by
 induction h with
 | done h=>intro s' hb c f;exact .done (f _ _ _ h hb c)
 | flt h hd hN K ih =>
  rename_i i l s Φ r d
  intro s' hb c f
  refine .flt (h.mono (fun t _ x hx=>c t x hx) (fun _ b q _ k=>by rw[hb];exact k) (fun d _ m=>by rw[hb];exact m)) hd hN (ih (by obtain⟨x,nx⟩:=r;cases nx<;>simp[St.app,hb]) (fun t x hx=>?_) f)
  by_cases e:t=d
  ·subst e
   simp only[St.app,kC] at hx ⊢
   exact hx
  simp only[St.app,lI _ _ e] at hx ⊢
  exact c t x hx
 | does hα sh φ hm hw hn hv hd hN hdo K ih =>
  rename_i i l s Φ d α
  intro s' hb c f
  have g:iH ops (opAt ops i) s s':=fun t _ x hx=>c t x hx
  refine .does hα sh φ hm (g.want hw) hn (g.vB hv) hd hN (fun w j Q=>?_) (fun z=>ih z (by simp[St.app,hb]) (fun t x hx=>?_) f)
  ·have:=hdo w j Q
   unfold Does at this ⊢
   rw[g.exec hn hv];exact this
  by_cases e:t=d
  ·subst e
   simp only[St.app,kC] at hx ⊢
   exact hx
  simp only[St.app,lI _ _ e] at hx ⊢
  exact c t x hx
 | gen hα sh E Ψ hm hw hn hv hd hN hdo R m K ih =>
  rename_i i l s Φ d α
  intro s' hb c f
  have g:iH ops (opAt ops i) s s':=fun t _ x hx=>c t x hx
  refine .gen hα sh E Ψ hm (g.want hw) hn (g.vB hv) hd hN (fun w j Q=>?_) R m (fun z=>ih z (by simp[St.app,hb]) (fun t x hx=>?_) f)
  ·have:=hdo w j Q
   unfold Does at this ⊢
   rw[g.exec hn hv];exact this
  by_cases e:t=d
  ·subst e
   simp only[St.app,kC] at hx ⊢
   exact hx
  simp only[St.app,lI _ _ e] at hx ⊢
  exact c t x hx
 | sto hm h hd K ih =>
  rename_i i l s u Φ
  intro s' hb c f
  have g:iH ops (opAt ops i) s s':=fun t _ x hx=>c t x hx
  rcases Zdd g (fun b q _ k=>by rw[hb];exact k) h with ⟨n,p⟩|⟨b,q,v,k,y,n,p⟩
  ·subst n
   exact .sto hm p hd (ih hb c f)
  subst n
  exact .sto hm p hd (ih (by simp only[hb]) (fun t x hx=>c t x hx) f)
theorem Zqq {n:Nat}(s s':St)(Φ:World→Prop)(h:SXi P N S0 w0 ops Q n s Φ)(d:s'.bl=s.bl)(l:∀ t x,s.sl t=some x→s'.sl t=some x):SXi P N S0 w0 ops Q n s' Φ:=fun L a w hi =>
 h L a w ⟨hi.size,hi.df,fun i x f=>hi.sl i x (l i x f),⟨fun b t g e=>hi.mem.blk b t g (by rw[d];exact e),fun b c=>by rw[←d];exact hi.mem.inj b c,fun b=>by rw[←d];exact hi.mem.old b,hi.mem.ext,fun i b j e=>by rw[←d];exact hi.mem.slp i b j (l i _ e),fun b t g e x f=>by
  have:=hi.mem.cel b t g (by rw[d];exact e) x f
  rw[←d];exact this⟩,fun w' m=>hi.box w' (m.mono (fun i _ p=>by obtain⟨b,k,e⟩:=p;exact⟨b,by rw[d];exact k,e⟩))⟩
def ZcN (P:Program) (N:Nat) (ops:Array Oper) (k i:Nat) (s:St) (sl:SlL):Option (List (Option AV)×(Nat→Option (TypeId×List AV))) :=
 match runF P N ops k i s with
 | some s'=>some (sl.map (fun q=>s'.sl q.1),s'.bl)
 | none=>none
theorem ZjC {n i:Nat}(k:Nat)(sl:SlL)(b:BlL)(h:ZcN P N ops k i s sl=some (sl.map (fun q=>some q.2),cF b))(d:Nat.ble (i+k) n=true)(K:StI P N S0 w0 ops Φ0 Q n (i+k) (ofL sl b) Φ):StI P N S0 w0 ops Φ0 Q n i s Φ:=by
 unfold ZcN at h
 split at h
 ·rename_i c e
  injection h with h
  injection h with h2 h3
  refine Zgv k i s c e (Nat.le_of_ble_eq_true d) (Strat.weak K h3 (fun t x j=>?_) (fun s s' Φ h l m=>Zqq s s' Φ h l m))
  exact gO (f:=fun q:Nat × AV=>c.sl q.1) (g:=fun q=>some q.2) h2 (lV j)
 cases h
theorem ZlK {n i:Nat}(f:FuncId)(args:List Value)(d:Nat){α:Type}[b:Nonempty α](sh:α→Value)(φ:α→World→Prop)(hi:Nat.blt i n=true)(c:cls (opAt ops i).op=2)(h:fL P N ops (opAt ops i) s=some (f,args,d))(e:∀ w,Fr S0 w0 w→Φ w→Calls P f args.toArray w (lD sh φ w))(K:∀ x,StI P N S0 w0 ops Φ0 Q n (i+1) (s.put d (.v (sh x))) (fun w=>Φ w∧φ x w)):StI P N S0 w0 ops Φ0 Q n i s Φ:=by
 obtain⟨g,j,k,l,m,p,q⟩:=eO h
 have r:i<n:=Nat.le_of_ble_eq_true hi
 unfold StI
 rw[show n-i=(n-(i+1))+1 by omega,List.range'_succ]
 exact .does b sh φ c g l m k q (fun w t R=>Zif j p (e w t R)) K
theorem Ze2 {n i:Nat}(d:Nat)(y:Value)(hi:Nat.blt i n=true)(hk:Zee (opAt ops i).op=true)(b:s.wantB ops (opAt ops i)=some true)(c:(opAt ops i).op.operands.toList.all s.vB=true)(e:(opAt ops i).dst=some d)(f:Nat.blt d N=true)(g:∀ w,Φ0 w→(execOp s.rho (opAt ops i)).run P w=.ok (.value y) w)(K:StI P N S0 w0 ops Φ0 Q n (i+1) (s.put d (.v y)) Φ):StI P N S0 w0 ops Φ0 Q n i s Φ:=by
 have j:i<n:=Nat.le_of_ble_eq_true hi
 have k:jD (opAt ops i).op=true:=by
  cases h:(opAt ops i).op<;>first|rfl | (rw[h] at hk;cases hk)
 unfold StI
 rw[show n-i=(n-(i+1))+1 by omega,List.range'_succ]
 exact .flt (r:=(.v y,none)) (Or.inr ⟨y,rfl,hk,b,k,c,g⟩) e (Nat.le_of_ble_eq_true f) K
theorem ZtN {n i:Nat}(h:Nat.ble n i=true)(K:SXi P N S0 w0 ops Q n s Φ):StI P N S0 w0 ops Φ0 Q n i s Φ:=by
 unfold StI
 rw[show n-i=0 by have:=Nat.le_of_ble_eq_true h;omega]
 exact .done K
theorem Zhy {i:Nat}(d:Nat)(y:Value)(hi:Nat.blt i ops.size=true)(b:jD (opAt ops i).op=true)(c:s.wantB ops (opAt ops i)=some true)(e:(opAt ops i).op.operands.toList.all s.vB=true)(f:(opAt ops i).dst=some d)(g:Nat.blt d N=true)(j:∀ w,Fr S0 w0 w→Φ w→(execOp s.rho (opAt ops i)).run P w=.ok (.value y) w)(K:SXi P N S0 w0 ops Q (i+1) (s.put d (.v y)) Φ):SXi P N S0 w0 ops Q i s Φ:=by
 refine lU (α:=Unit) (fun _=>y) (fun _ _=>True) hi c b e f g (fun w k R=>Or.inl ⟨y,w,j w k R,(),rfl,Fr.refl _ _,BoxN.pure trivial⟩) (fun _=>?_)
 intro L a w h
 exact K L a w ⟨h.size,h.df,h.sl,h.mem,h.box.mono (fun w h=>h.1)⟩
theorem zC {x y:Code}(h:SXc P N S0 w0 (Exit.then (y.wp P Q) Q) x s Φ):SXc P N S0 w0 Q (.seq x y) s Φ:=fun L a w hi=>wp_seq (h L a w hi)
theorem zA {y:Code}(h:SXc P N S0 w0 Q y s Φ):SXq N S0 w0 (Exit.then (y.wp P Q) Q .normal) s Φ:=h
theorem zQ {id:Nat}{c:Code}(h:SXc P N S0 w0 (Exit.inBlock id Q) c s Φ):SXc P N S0 w0 Q (.block id c) s Φ:=fun L a w hi=>wp_block (h L a w hi)
theorem xR {id:Nat}(h:SXq N S0 w0 (Q .normal) s Φ):SXq N S0 w0 (Exit.inBlock id Q .normal) s Φ:=h
theorem xW {id:Nat}(h:SXq N S0 w0 (Q .normal) s Φ):SXq N S0 w0 (Exit.inBlock id Q (.exit id)) s Φ:=fun L a w hi=>by
 have:=h L a w hi
 simpa [Exit.inBlock] using this
theorem ZcO {id b:Nat}(d:Nat.beq b id=false)(h:SXq N S0 w0 (Q (.exit b)) s Φ):SXq N S0 w0 (Exit.inBlock id Q (.exit b)) s Φ:=fun L a w hi=>by
 have c:b≠id:=fun e=>by subst e;simp at d
 have:=h L a w hi
 simpa [Exit.inBlock,c] using this
theorem zE {id:Nat}{b:Act→World→Prop}(h:SXq N S0 w0 (Q (.exit id)) s Φ):SXq N S0 w0 (Exit.then b Q (.exit id)) s Φ:=h
theorem zL {b:Act→World→Prop}(h:SXq N S0 w0 (Q .ret) s Φ):SXq N S0 w0 (Exit.then b Q .ret) s Φ:=h
theorem wY {id:Nat}(h:SXq N S0 w0 (Q .ret) s Φ):SXq N S0 w0 (Exit.inBlock id Q .ret) s Φ:=h
theorem xM {id:Nat}(h:SXq N S0 w0 (Q (.exit id)) s Φ):SXc P N S0 w0 Q (.exit id) s Φ:=fun L a w hi=>wp_exit (h L a w hi)
theorem zH (h:SXq N S0 w0 (Q .ret) s Φ):SXc P N S0 w0 Q .ret s Φ:=fun L a w hi=>wp_ret (h L a w hi)
theorem zJ (h:SXq N S0 w0 (Q .normal) s Φ):SXc P N S0 w0 Q .skip s Φ:=fun L a w hi=>wp_skip (h L a w hi)
theorem zS {c:Operand}{x y:Code}(b:Bool)(d:s.eval c=some (.v (.bool b)))(f:b=true→SXc P N S0 w0 Q x s Φ)(g:b=false→SXc P N S0 w0 Q y s Φ):SXc P N S0 w0 Q (.cond c x y) s Φ:=fun L a w hi=>by
 have h:=hi.eval d
 exact wp_cond_split h (fun e=>f e L a w hi) (fun e=>g e L a w hi)
theorem Zoq {c:Operand}{x y:Code}(b:s.eval c=some (.v (.bool true)))(h:SXc P N S0 w0 Q x s Φ):SXc P N S0 w0 Q (.cond c x y) s Φ:=zS true b (fun _=>h) (fun e=>by cases e)
theorem Zor {c:Operand}{x y:Code}(b:s.eval c=some (.v (.bool false)))(h:SXc P N S0 w0 Q y s Φ):SXc P N S0 w0 Q (.cond c x y) s Φ:=zS false b (fun e=>by cases e) (fun _=>h)
theorem zB {id:Nat}(h:SXi P N S0 w0 ops Q 0 s Φ):SXc P N S0 w0 Q (.region id ops false) s Φ:=fun L a w hi=>wp_region_list (h L a w hi)
theorem SXc.know {c:Code}{p:Prop}(h:∀ w,Fr S0 w0 w→Φ w→p)(K:p→SXc P N S0 w0 Q c s Φ):SXc P N S0 w0 Q c s Φ:=fun L a w hi=>K (h w hi.mem.ext hi.box.self) L a w hi
theorem SXc.weak {c:Code}(sl:SlL)(b:BlL)(d:iN s sl b)(e:wfB sl b=true)(R:∀ w,Φ w→Ψ w)(h:SXc P N S0 w0 Q c (ofL sl b) Ψ):SXc P N S0 w0 Q c s Φ:=fun L a w hi=>h L a w (hi.weak d e R)
theorem SXq.weak {q:Act→World→Prop}(sl:SlL)(b:BlL)(c:iN s sl b)(d:wfB sl b=true)(Q:∀ w,Φ w→Ψ w)(h:SXq N S0 w0 q (ofL sl b) Ψ):SXq N S0 w0 q s Φ:=fun L a w hi=>h L a w (hi.weak c d Q)
theorem aD:∀ (l:List Value) (k i:Nat) (x:AV),cF (Zdc k l) i=some x→k≤i∧∃ v,l[i-k]? = some v∧x=.v v
 | [],k,i,x,h=>by cases h
 | v :: l,k,i,x,h=>by
  by_cases e:i=k
  ·subst e
   simp only[Zdc,cF,kC,Option.some.injEq] at h
   exact⟨Nat.le_refl _,v,by simp,h.symm⟩
  simp only[Zdc,cF,lI _ _ e] at h
  obtain⟨d,u,b,c⟩:=aD l (k+1) i x h
  refine⟨by omega,u,?_,c⟩
  rw[show i-k=(i-(k+1))+1 by omega]
  simpa using b
theorem zU {fn:Func}{f:FuncId}{c:Code}{args:List Value}{R:Ending→World→Prop}(k:P.funcs[f]? = some fn)(l:fn.body=some c)(m:Nat.ble args.length fn.ntmps=true)(Q:Box (fun _=>False) w Φ)(h:SXc P fn.ntmps (fun _=>False) w (bodyPost P fn R) c (ofL (Zdc 0 args) []) Φ):Calls P f args.toArray w R:=by
 refine calls_of_wp k l (h (fun _=>0) _ w ⟨?_,rfl,fun i x n=>?_,⟨fun b t p e=>(by cases e),fun b c e=>(by cases e),fun b e=>(by cases e),Fr.refl _ _,fun i b off e=>?_,fun b t p e=>(by cases e)⟩,?_⟩)
 ·have:=Nat.le_of_ble_eq_true m
  simp;omega
 ·obtain⟨_,v,hv,rfl⟩:=aD args 0 i x n
  have g:i<args.length:=by
   rcases Nat.lt_or_ge i args.length with d|d
   ·exact d
   rw[List.getElem?_eq_none (by omega)] at hv;cases hv
  simp only[AV.conc]
  rw[Array.getElem?_append_left (by simpa using g)]
  simpa using hv
 ·obtain⟨_,v,hv,e'⟩:=aD args 0 i _ e
  cases e'
 intro w' j
 exact Q w' (j.mono (fun i _ d=>by obtain⟨b,e,_⟩:=d;cases e))
def ZcP (tmps:Array Value):ResultVar→Sem Value
 | .tmp t=>pure (tmps.getD t undef)
 | .cell t ty=>do loadVar ty (← asAddr (tmps.getD t undef))
theorem Zgw (fn:Func)(b:Array Value):results fn b=(do
 let c ← fn.results.mapM (ZcP b)
 pure (if h:c.size=1 then c[0] else .tuple c)):=by
 unfold results
 congr
theorem Zos (hi:Inv N S0 w0 s Φ L a w){r:ResultVar}{x:Value}(h:Zi5 P s r=some x):(ZcP a.tmps r).run P w=.ok x w:=by
 cases r with
 | tmp t =>
  simp only[Zi5] at h
  split at h
  ·rename_i y c
   injection h with h
   subst h
   have:=hi.sl t _ c
   simp[ZcP,this,AV.conc]
  cases h
 | cell t ty =>
  simp only[Zi5] at h
  split at h
  ·rename_i b e f
   split at h
   ·rename_i y c
    injection h with h
    subst h
    have g:=hi.sl t _ f
    have d:=(Zeb hi c).2
    simp only[Instr.loadAt,Instr.sureAddr,Sem.run_bind,Sem.run_pure,Result.andThen_ok] at d
    simp[ZcP,g,AV.conc,asAddr,d]
   cases h
  cases h
theorem ZjD (hi:Inv N S0 w0 s Φ L a w):∀ (l:List ResultVar) (m:List Value),resL P s l=some m→(l.mapM (ZcP a.tmps)).run P w=.ok m w
 | [],m,h=>by simp only[resL,Option.some.injEq] at h;subst h;rfl
 | r :: l,m,h=>by
  unfold resL at h
  split at h
  ·rename_i x b c d
   injection h with h
   subst h
   have e:=Zos hi c
   have f:=ZjD hi l b d
   rw[List.mapM_cons]
   simp only[Sem.run_bind,e,f,Result.andThen_ok,Sem.run_pure]
  cases h
theorem Zij (hi:Inv N S0 w0 s Φ L a w){fn:Func}{v:Value}(h:Zi6 P fn s=some v):(results fn a.tmps).run P w=.ok v w:=by
 have b:∀ m,resL P s fn.results.toList=some m→(results fn a.tmps).run P w=.ok (if h:m.toArray.size=1 then m.toArray[0] else .tuple m.toArray) w:=fun m c=>by
  have:=ZjD hi _ m c
  rw[Zgw,Array.mapM_eq_mapM_toList]
  simp only[Sem.run_bind,Sem.run_map,this,Result.andThen_ok,Sem.run_pure]
 unfold Zi6 at h
 split at h
 ·rename_i x d
  injection h with h
  rw[b [x] d,← h]
  simp
 ·rename_i m f c
  injection h with h
  rw[b m c,← h]
  have:m.toArray.size≠1:=fun e=>by
   obtain⟨x,d⟩:=List.length_eq_one_iff.1 (by simpa using e)
   exact f x d
  rw[dif_neg this]
 cases h
theorem zD {fn:Func}{R:Ending→World→Prop}{v:Value}(h:Zi6 P fn s=some v)(b:∀ w,Fr S0 w0 w→Φ w→R (.returned v) w):SXq N S0 w0 (bodyPost P fn R .ret) s Φ:=fun _ _ w hi =>
 ⟨hi.df,v,Zij hi h,b w hi.mem.ext hi.box.self⟩
theorem Zsh {fn:Func}{R:Ending→World→Prop}{v:Value}(h:Zi6 P fn s=some v)(b:∀ w,Fr S0 w0 w→Φ w→R (.returned v) w):SXq N S0 w0 (bodyPost P fn R .normal) s Φ:=fun _ _ w hi =>
 ⟨hi.df,v,Zij hi h,b w hi.mem.ext hi.box.self⟩
theorem xr {i:Nat}(k:Nat)(sl:SlL)(b:BlL)(K:SXi P N S0 w0 ops Q (i+k) (ofL sl b) Φ)(h:Zgq P N ops i k s sl b=some (sl.map (fun q=>some q.2),b.map (fun q=>some q.2)):=by kernel_rfl)(c:wfB sl b=true:=by kernel_rfl):SXi P N S0 w0 ops Q i s Φ:=Zol k sl b h c K
theorem xc {i:Nat}(f:FuncId)(args:List Value)(d:Nat){α:Type}(sh:α→Value)(φ:α→World→Prop)(c:∀ w,Fr S0 w0 w→Φ w→Calls P f args.toArray w (lD sh φ w))(K:∀ x,SXi P N S0 w0 ops Q (i+1) (s.put d (.v (sh x))) (fun w=>Φ w∧φ x w))(b:Nat.blt i ops.size=true:=by kernel_rfl)(h:fL P N ops (opAt ops i) s=some (f,args,d):=by kernel_rfl):SXi P N S0 w0 ops Q i s Φ:=ZlI f args d sh φ b h c K
theorem xe {i:Nat}(K:SXq N S0 w0 (Q .normal) s Φ)(h:Nat.ble ops.size i=true:=by kernel_rfl):SXi P N S0 w0 ops Q i s Φ:=ZtK h K
theorem xf {n i:Nat}(k:Nat)(sl:SlL)(b:BlL)(K:StI P N S0 w0 ops Φ0 Q n (i+k) (ofL sl b) Φ)(h:ZcN P N ops k i s sl=some (sl.map (fun q=>some q.2),cF b):=by kernel_rfl)(c:Nat.ble (i+k) n=true:=by kernel_rfl):StI P N S0 w0 ops Φ0 Q n i s Φ:=ZjC k sl b h c K
theorem xd {n i:Nat}(f:FuncId)(args:List Value)(d:Nat){α:Type}[e:Nonempty α](sh:α→Value)(φ:α→World→Prop)(b:∀ w,Fr S0 w0 w→Φ w→Calls P f args.toArray w (lD sh φ w))(K:∀ x,StI P N S0 w0 ops Φ0 Q n (i+1) (s.put d (.v (sh x))) (fun w=>Φ w∧φ x w))(hi:Nat.blt i n=true:=by kernel_rfl)(c:cls (opAt ops i).op=2:=by kernel_rfl)(h:fL P N ops (opAt ops i) s=some (f,args,d):=by kernel_rfl):StI P N S0 w0 ops Φ0 Q n i s Φ:=ZlK f args d sh φ hi c h b K
theorem xz {n i:Nat}(K:SXi P N S0 w0 ops Q n s Φ)(h:Nat.ble n i=true:=by kernel_rfl):StI P N S0 w0 ops Φ0 Q n i s Φ:=ZtN h K
theorem xa {c:Operand}{x y:Code}(h:SXc P N S0 w0 Q x s Φ)(b:s.eval c=some (.v (.bool true)):=by kernel_rfl):SXc P N S0 w0 Q (.cond c x y) s Φ:=Zoq b h
theorem xb {c:Operand}{x y:Code}(h:SXc P N S0 w0 Q y s Φ)(b:s.eval c=some (.v (.bool false)):=by kernel_rfl):SXc P N S0 w0 Q (.cond c x y) s Φ:=Zor b h
end
abbrev vI2 (x:Bool) (A:Option Addr) (l c:Nat):Value:=.agg #[.bool x,.slice A l c]
abbrev vR4 (x:Bool) (A:Option Addr) (l c:Nat) (y:Bool) (B:Option Addr) (m d:Nat):Value:=.agg #[.bool x,.slice A l c,.bool y,.slice B m d]
abbrev eS1 (k:Nat) (A:Option Addr) (l c:Nat):Nat × AV:=(k,.v (.slice A l c))
abbrev eI2 (k:Nat) (x:Bool) (A:Option Addr) (l c:Nat):Nat × AV:=(k,.v (.agg #[.bool x,.slice A l c]))
abbrev eR4 (k:Nat) (x:Bool) (A:Option Addr) (l c:Nat) (y:Bool) (B:Option Addr) (m d:Nat):Nat × AV:=(k,.v (.agg #[.bool x,.slice A l c,.bool y,.slice B m d]))
abbrev yL (b:Nat):Option Addr:=some ⟨b,0,none⟩
abbrev yI (x:Int):Value:=.int .i64 x
abbrev yX (x:Int):Value:=.int .u64 x
abbrev yJ (k:Nat) (x:Int):Nat × AV:=(k,.v (.int .i64 x))
abbrev yU (k:Nat) (x:Int):Nat × AV:=(k,.v (.int .u64 x))
abbrev yB (k:Nat) (x:Bool):Nat × AV:=(k,.v (.bool x))
abbrev yT (k:Nat) (x:ByteArray):Nat × AV:=(k,.v (.string x))
abbrev yF (k:Nat) (t:TypeId) (x:Bool) (A:Option Addr) (l c:Nat) (e:Int):Nat × TypeId×List AV:=(k,t,[.v (.bool x),.v (.slice A l c),.v (.int .i64 e)])
abbrev yG (k:Nat) (t:TypeId) (x:ByteArray) (e:Int):Nat × TypeId×List AV:=(k,t,[.v (.string x),.v (.int .i64 e)])
abbrev yV (x:Bool) (A:Option Addr) (l c:Nat) (e:Int):Value:=.agg #[.bool x,.slice A l c,.int .i64 e]
abbrev yS (x:ByteArray) (e:Int):Value:=.agg #[.string x,.int .i64 e]
theorem yW (x y:Int)(h:(x+9223372036854775808)%18446744073709551616-9223372036854775808=y):IntKind.i64.wrap x=y:=by rw[IntKind.wrap_i64];exact h
abbrev Ξ:Value:=.slice none 0 0
abbrev Ω:AV:=.v (.slice none 0 0)
abbrev Λ (A:Option Addr) (l c:Nat):AV:=.v (.slice A l c)
abbrev Γ (x:Int):AV:=.v (.int .i64 x)
abbrev Δ (k:Nat):Nat × AV:=(k,.p k 0)
abbrev Θ (k:Nat) (t:TypeId):Nat × TypeId×List AV:=(k,t,[.v (.bool false),.v (.slice none 0 0),.v (.bool false),.v (.slice none 0 0)])
abbrev Υ (b n:Nat):Value:=.slice (some ⟨b,0,none⟩) n n
abbrev bI2 (k:Nat) (t:TypeId) (x:Bool) (A:Option Addr) (l c:Nat):Nat × TypeId×List AV:=(k,t,[.v (.bool x),.v (.slice A l c)])
abbrev bR4 (k:Nat) (t:TypeId) (x:Bool) (A:Option Addr) (l c:Nat) (y:Bool) (B:Option Addr) (m d:Nat):Nat × TypeId×List AV:=(k,t,[.v (.bool x),.v (.slice A l c),.v (.bool y),.v (.slice B m d)])
end Go.Proofs.YtmpffakfhcpjoaaGreatDoor
