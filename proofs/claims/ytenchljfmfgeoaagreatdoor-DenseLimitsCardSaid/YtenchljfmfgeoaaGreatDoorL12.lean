/-
 My texts Sx5, Sx6, Sx7 put together.
-/
import Derived.Test.YtenchljfmfgeoaaGreatDoorL10
import Derived.Test.YtenchljfmfgeoaaGreatDoorL11
set_option maxRecDepth 100000
namespace Go.Proofs.YtenchljfmfgeoaaGreatDoor
open Go.RowKit
section
variable {N:Nat} {S0:Nat→Prop} {w0:World} {s s':St} {Φ Ψ Φ0:World→Prop} {L:Nat→Nat} {a:Act} {w:World} {P:Program} {ops:Array Oper} {Q:Exit→Act→World→Prop} {o:Oper}
def ZbX (ops:Array Oper) (o:Oper) (s s':St):Prop:=∀ t,t ∈ o.looksAt ops→∀ x,s.sl t=some x→s'.sl t=some x
theorem ZbX.eval (h:ZbX ops o s s') {x:Operand} (hx:x ∈ o.op.operands.toList) {y:AV} (e:s.eval x=some y):s'.eval x=some y:=by
 cases x with
 | tmp t=>exact h t (List.mem_append_left _ (List.mem_filterMap.2 ⟨.tmp t,hx,rfl⟩)) y e
 | const v=>exact e
 | global g=>exact e
 | func f=>exact e
theorem ZbX.want (h:ZbX ops o s s') {r:Bool} (e:s.wantB ops o=some r):s'.wantB ops o=some r:=by
 unfold St.wantB at e ⊢
 split at e
 ·exact e
 ·rename_i g want hg
  split at e
  ·cases e
  ·rename_i t ht
   have hm:t ∈ o.looksAt ops:=List.mem_append_right _ (by rw [hg]; simp [ht])
   split at e
   ·rename_i b hb; rw [h t hm _ hb]; exact e
   ·rename_i vs hb; rw [h t hm _ hb]; exact e
   ·cases e
theorem ZbX.vB (h:ZbX ops o s s') (e:o.op.operands.toList.all s.vB=true):o.op.operands.toList.all s'.vB=true:=by
 rw [List.all_eq_true] at e ⊢
 intro x hx
 have:=h.eval hx (ZfO (e x hx))
 unfold St.vB
 rw [this]
theorem ZbX.rho (h:ZbX ops o s s') (e:o.op.operands.toList.all s.vB=true) {x:Operand} (hx:x ∈ o.op.operands.toList):s'.rho x=s.rho x:=by
 have:=h.eval hx (ZfO (List.all_eq_true.1 e x hx))
 show (match s'.eval x with | some (.v y)=>y | _=>undef)=_
 rw [this]
theorem ZbX.exec (h:ZbX ops o s s') (hs:ZbK o.op=true) (e:o.op.operands.toList.all s.vB=true):execOp s'.rho o=execOp s.rho o :=
 execOp_congr o (fun cs b e'=>by rw [e'] at hs; cases hs) (fun x hx=>h.rho e (by simpa using hx))
theorem ZbX.pure (h:ZbX ops o s s') {x:AV} (e:Zbs P o s=some x):Zbs P o s'=some x:=by
 unfold Zbs at e ⊢
 cases hb:ZbK o.op && o.op.operands.toList.all s.vB with
 | false=>rw [hb] at e; cases e
 | true =>
   rw [hb] at e
   rw [Bool.and_eq_true] at hb
   rw [hb.1,h.vB hb.2,h.exec hb.1 hb.2]
   exact e
theorem ZbX.pure' (h:ZbX ops o s s') {r:AV × NewB} (e:noB (Zbs P o s)=some r):noB (Zbs P o s')=some r:=by
 obtain ⟨x,hx,_⟩:=Zbj e
 rw [hx] at e
 rw [h.pure hx]
 exact e
def cls:Op→Nat
 | .call c=>match c.callee with
   | .builtin .len=>0
   | .builtin .cap=>0
   | .builtin .min=>0
   | .builtin .max=>0
   | _=>2
 | .move _=>0
 | .assign _=>0
 | .pick _ _ _=>0
 | .alloc _=>0
 | .box _ _=>0
 | .load _ _=>1
 | .store _ _ _=>3
 | .fieldAddr _ _ _=>0
 | .field _ _ _=>0
 | .extract _ _=>0
 | .binOp _ _ _ _ _=>0
 | .unOp _ _ _=>0
 | .nilCheck _=>0
 | .build _ _=>0
 | .indexAddr _ _ _=>0
 | .index _ _ _=>0
 | .slice _ _ _ _ _=>0
 | .convert _ _ _=>0
 | _=>2
def Zcb (x y:Op):Bool :=
 match cls x,cls y with
 | 0,_=>true
 | _,0=>true
 | 1,1=>true
 | 1,2=>true
 | 2,1=>true
 | _,_=>false
def lsB (x y:Op):Bool :=
 match cls x,cls y with
 | 1,3=>true
 | 3,1=>true
 | _,_=>false
def ZkR:Op→Option Operand
 | .load _ x=>some x
 | .store _ x _=>some x
 | _=>none
def Zdz (o:Oper) (s:St) (b:Nat):Prop:=∃ x off,ZkR o.op=some x∧s.eval x=some (.p b off)
def Far (x y:Oper) (s:St):Prop:=∀ b c,Zdz x s b→Zdz y s c→b≠c
def Zdb (o:Oper) (s:St) (b:Nat):Prop:=∃ x off,x ∈ o.op.operands.toList∧s.eval x=some (.p b off)
theorem Zdb.addr {b:Nat} (h:Zdb o s b) (hc:cls o.op=1):Zdz o s b:=by
 obtain ⟨x,off,hx,e⟩:=h
 cases ho:o.op with
 | load t y =>
   rw [ho] at hx
   simp only [Op.operands,List.mem_singleton] at hx
   exact ⟨y,off,by rw [ho]; rfl,by rw [← hx]; exact e⟩
 | call c =>
   rw [ho] at hc
   unfold cls at hc
   simp only at hc
   split at hc<;>cases hc
 | _=>rw [ho] at hc; cases hc
theorem Zdz.leads {b:Nat} (h:Zdz o s b):Zdb o s b:=by
 obtain ⟨x,off,hx,e⟩:=h
 refine ⟨x,off,?_,e⟩
 cases ho:o.op with
 | load t y=>rw [ho] at hx; injection hx with hx; simp [Op.operands,hx]
 | store t y z=>rw [ho] at hx; injection hx with hx; simp [Op.operands,hx]
 | _=>rw [ho] at hx; cases hx
theorem ZiI {t:TypeId} {cs:List AV} {r:AV × NewB} {d:Option Nat} (hn:∀ k,d=some k→s.bl k=none→s'.bl k=none) (h:Zek s d t cs=some r):Zek s' d t cs=some r:=by
 obtain ⟨k,hk,e,h0,hc⟩:=ZeF h
 subst hk; subst e
 have h1:=hn k rfl h0
 have h2:cs.all Zco=true:=List.all_eq_true.2 hc
 simp [Zek,h1,h2]
theorem ZpI (h:ZbX ops o s s') (hb:cls o.op=1→∀ b q,Zdb o s b→s.bl b=some q→s'.bl b=some q) (hn:∀ d,o.dst=some d→s.bl d=none→s'.bl d=none) {r:AV × NewB} (e:ZbQ P ops o s=some r):ZbQ P ops o s'=some r:=by
 unfold ZbQ at e ⊢
 split at e
 ·cases e
 ·rename_i hw
  rw [h.want hw]; exact e
 ·rename_i hw
  rw [h.want hw]
  simp only
  split at e
  ·rename_i x ho
   obtain ⟨y,hy,_⟩:=Zbj e
   rw [hy] at e
   rw [h.eval (by simp [ho,Op.operands]) hy]; exact e
  ·rename_i x ho
   obtain ⟨y,hy,_⟩:=Zbj e
   rw [hy] at e
   rw [h.eval (by simp [ho,Op.operands]) hy]; exact e
  ·rename_i c x y ho
   split at e
   ·rename_i b hc
    rw [h.eval (by simp [ho,Op.operands]) hc]
    simp only
    obtain ⟨z,hz,_⟩:=Zbj e
    rw [hz] at e
    cases b with
    | true=>simp only [cond_true] at hz ⊢; rw [h.eval (by simp [ho,Op.operands]) hz]; exact e
    | false=>simp only [cond_false] at hz ⊢; rw [h.eval (by simp [ho,Op.operands]) hz]; exact e
   ·cases e
  ·split at e
   ·exact ZiI hn e
   ·cases e
  ·rename_i t x ho
   split at e
   ·rename_i y hy
    rw [h.eval (by simp [ho,Op.operands]) hy]
    exact ZiI hn e
   ·cases e
  ·rename_i t x f ho
   split at e
   ·rename_i b off hx
    rw [h.eval (by simp [ho,Op.operands]) hx]
    exact e
   ·rename_i hx
    obtain ⟨z,hz,_⟩:=Zbj e
    have hv:s.vB x=true:=by
     unfold Zbs at hz
     cases hb':ZbK o.op && o.op.operands.toList.all s.vB with
     | false=>rw [hb'] at hz; cases hz
     | true=>rw [Bool.and_eq_true] at hb'; exact List.all_eq_true.1 hb'.2 x (by simp [ho,Op.operands])
    rw [h.eval (by simp [ho,Op.operands]) (ZfO hv)]
    exact h.pure' e
  ·rename_i t x ho
   split at e
   ·rename_i b off hx
    have hx':=h.eval (by simp [ho,Op.operands]) hx
    rw [hx']
    simp only
    obtain ⟨z,hz,_⟩:=Zbj e
    rw [hz] at e
    have:Ze3 P s' t b off=some z:=by
     unfold Ze3 at hz ⊢
     split at hz
     ·rename_i e1 bt cs he hq
      rw [he,hb (by rw [ho]; rfl) b _ ⟨x,off,by simp [ho,Op.operands],hx⟩ hq]
      exact hz
     ·cases hz
    rw [this]; exact e
   ·cases e
  ·rename_i x ho
   split at e
   ·rename_i b off hx
    rw [h.eval (by simp [ho,Op.operands]) hx]
    exact e
   ·rename_i hx
    obtain ⟨z,hz,_⟩:=Zbj e
    have hv:s.vB x=true:=by
     unfold Zbs at hz
     cases hb':ZbK o.op && o.op.operands.toList.all s.vB with
     | false=>rw [hb'] at hz; cases hz
     | true=>rw [Bool.and_eq_true] at hb'; exact List.all_eq_true.1 hb'.2 x (by simp [ho,Op.operands])
    rw [h.eval (by simp [ho,Op.operands]) (ZfO hv)]
    exact h.pure' e
  ·exact h.pure' e
structure WF (s:St):Prop where
 slp:∀ i b off,s.sl i=some (.p b off)→(s.bl b).isSome=true
 cel:∀ b t cs,s.bl b=some (t,cs)→∀ x,x ∈ cs→x.al s
theorem Inv.wf (h:Inv N S0 w0 s Φ L a w):WF s:=⟨h.mem.slp,fun b t cs e x hx=>(h.mem.cel b t cs e x hx).2⟩
theorem WF.evl (h:WF s) {x:Operand} {y:AV} (hx:s.eval x=some y):y.al s:=fun b off e=>by
 subst e
 cases x with
 | tmp t=>exact h.slp t b off hx
 | const v=>simp [St.eval] at hx
 | global g=>simp [St.eval] at hx
 | func f=>simp [St.eval] at hx
theorem WF.app0 (h:WF s) (d:Nat) {x:AV} (hx:x.al s):WF (s.app d (x,none)) :=
 ⟨fun i b off e=>by
  by_cases e1:i=d
  ·subst e1
   simp only [St.app,Zbv,Option.some.injEq] at e
   exact hx b off e
  ·simp only [St.app,Za3 _ _ e1] at e
   exact h.slp i b off e,h.cel⟩
theorem WF.appN (h:WF s) {d:Nat} {t:TypeId} {cs:List AV} (hc:∀ x,x ∈ cs→x.al s):WF (s.app d (.p d 0,some (t,cs))):=by
 have up:∀ {x:AV},x.al s→x.al (s.app d (.p d 0,some (t,cs))):=fun {x} hx b off e=>by
  by_cases e1:b=d
  ·subst e1; simp [St.app,Zbv]
  ·simp only [St.app,Za3 _ _ e1]; exact hx b off e
 refine ⟨fun i b off e=>?_,fun b t' cs' e x hx=>?_⟩
 ·by_cases e1:i=d
  ·subst e1
   simp only [St.app,Zbv,Option.some.injEq] at e
   injection e with e1 e2
   subst e1
   simp [St.app,Zbv]
  ·simp only [St.app,Za3 _ _ e1] at e
   exact up (x:=.p b off) (fun b' off' e'=>by injection e' with e2 _; rw [← e2]; exact h.slp i b off e) b off rfl
 ·by_cases e1:b=d
  ·subst e1
   simp only [St.app,Zbv,Option.some.injEq,Prod.mk.injEq] at e
   rw [← e.2] at hx
   exact up (hc x hx)
  ·simp only [St.app,Za3 _ _ e1] at e
   exact up (h.cel b t' cs' e x hx)
theorem Zg4 {x:AV} (h:Zbs P o s=some x):∃ y,x=.v y:=by
 unfold Zbs at h
 cases hb:ZbK o.op && o.op.operands.toList.all s.vB with
 | false=>rw [hb] at h; cases h
 | true =>
   rw [hb] at h
   simp only [cond_true] at h
   split at h
   ·injection h with h; exact ⟨_,h.symm⟩
   ·cases h
theorem Zsc (hW:WF s) {r:AV × NewB} (h:ZbQ P ops o s=some r) {d:Nat} (hd:o.dst=some d):WF (s.app d r)∧(∀ q,r.2=some q→s.bl d=none):=by
 have same:∀ (x:AV),r=(x,none)→x.al s→WF (s.app d r)∧(∀ q,r.2=some q→s.bl d=none):=fun x e hx=>by subst e; exact ⟨hW.app0 d hx,fun q e=>by cases e⟩
 have pur:noB (Zbs P o s)=some r→WF (s.app d r)∧(∀ q,r.2=some q→s.bl d=none):=fun h=>by
  obtain ⟨x,hx,e⟩:=Zbj h
  obtain ⟨y,e2⟩:=Zg4 hx
  subst e2
  exact same _ e (al_v y)
 have new:∀ {t:TypeId} {cs:List AV},Zek s o.dst t cs=some r→(∀ x,x ∈ cs→x.al s)→WF (s.app d r)∧(∀ q,r.2=some q→s.bl d=none):=fun h hal=>by
  obtain ⟨k,hk,e1,h0,hc⟩:=ZeF h
  rw [hd] at hk
  injection hk with hk
  subst hk; subst e1
  exact ⟨hW.appN hal,fun _ _=>h0⟩
 unfold ZbQ at h
 split at h
 ·cases h
 ·injection h with h
  exact same _ h.symm (al_v _)
 ·split at h
  ·obtain ⟨y,hy,e⟩:=Zbj h
   exact same y e (hW.evl hy)
  ·obtain ⟨y,hy,e⟩:=Zbj h
   exact same y e (hW.evl hy)
  ·split at h
   ·rename_i b hb
    obtain ⟨z,hz,e⟩:=Zbj h
    cases b with
    | true=>exact same z e (hW.evl hz)
    | false=>exact same z e (hW.evl hz)
   ·cases h
  ·split at h
   ·refine new h (fun x hx=>?_)
    obtain ⟨y,_,rfl⟩:=List.mem_map.1 hx
    exact al_v y
   ·cases h
  ·split at h
   ·rename_i y hy
    refine new h (fun z hz=>?_)
    cases y with
    | v y=>obtain ⟨c,_,rfl⟩:=List.mem_map.1 hz; exact al_v c
    | p b off=>simp only [Za6,List.mem_singleton] at hz; subst hz; exact hW.evl hy
   ·cases h
  ·split at h
   ·rename_i b off hb
    split at h
    ·split at h
     ·injection h with h
      exact same _ h.symm (fun c o' e'=>by injection e' with e1 _; rw [← e1]; exact hW.evl hb b off rfl)
     ·cases h
    ·cases h
   ·exact pur h
  ·split at h
   ·obtain ⟨z,hz,e⟩:=Zbj h
    refine same z e ?_
    unfold Ze3 at hz
    split at hz
    ·rename_i e1 bt cs he hq
     cases ha:e1.agg with
     | true =>
       rw [ha] at hz
       simp only [cond_true] at hz
       cases hle:Nat.ble _ cs.length with
       | false=>rw [hle] at hz; cases hz
       | true =>
         rw [hle] at hz
         simp only [cond_true] at hz
         split at hz
         ·injection hz with hz; rw [← hz]; exact al_v _
         ·cases hz
     | false =>
       rw [ha] at hz
       simp only [cond_false] at hz
       exact hW.cel _ bt cs hq z (List.mem_of_getElem? hz)
    ·cases hz
   ·cases h
  ·split at h
   ·rename_i b off hb
    injection h with h
    exact same _ h.symm (hW.evl hb)
   ·exact pur h
  ·exact pur h
def Zg5:Op→Bool
 | .load _ _=>true
 | .indexAddr _ _ _=>true
 | .index _ _ _=>true
 | .binOp _ _ _ _ _=>true
 | .unOp _ _ _=>true
 | .slice _ _ _ _ _=>true
 | .convert _ _ _=>true
 | _=>false
def FV (P:Program) (ops:Array Oper) (Φ0:World→Prop) (o:Oper) (s:St) (r:AV × NewB):Prop :=
 ZbQ P ops o s=some r∨∃ y,r=(.v y,none)∧Zg5 o.op=true∧s.wantB ops o=some true∧ZbK o.op=true∧o.op.operands.toList.all s.vB=true∧∀ w,Φ0 w→(execOp s.rho o).run P w=.ok (.value y) w
theorem FV.mono (h:ZbX ops o s s') (hb:cls o.op=1→∀ b q,Zdb o s b→s.bl b=some q→s'.bl b=some q) (hn:∀ d,o.dst=some d→s.bl d=none→s'.bl d=none) {r:AV × NewB} (e:FV P ops Φ0 o s r):FV P ops Φ0 o s' r:=by
 rcases e with e | ⟨y,hr,hk,hw,hs,hv,hx⟩
 ·exact Or.inl (ZpI h hb hn e)
 ·exact Or.inr ⟨y,hr,hk,h.want hw,hs,h.vB hv,fun w hw'=>by rw [h.exec hs hv]; exact hx w hw'⟩
theorem FV.wf (hW:WF s) {r:AV × NewB} (h:FV P ops Φ0 o s r) {d:Nat} (hd:o.dst=some d):WF (s.app d r)∧(∀ q,r.2=some q→s.bl d=none):=by
 rcases h with h | ⟨y,rfl,_⟩
 ·exact Zsc hW h hd
 ·exact ⟨hW.app0 d (al_v y),fun q e=>by cases e⟩
theorem FV.yld (hi:Inv N S0 w0 s Φ L a w) (Q:∀ w,Φ w→Φ0 w) {r:AV × NewB} (h:FV P ops Φ0 o s r) {d:Nat} (hd:o.dst=some d) (hN:d < N):Yld N S0 w0 P ops o (s.app d r) Φ a w:=by
 rcases h with h | ⟨y,rfl,_,hw,hs,hv,hx⟩
 ·exact ZjP hi h hd hN
 ·exact ⟨y,w,L,by rw [hd]; exact hi.app0 hN (al_v y),Or.inl ⟨hi.want hw,by rw [hi.exec hs hv]; exact hx w (Q w hi.box.self)⟩⟩
theorem ZjS {r:AV × NewB} {y:Value} (h:ZbQ P ops o s=some r) (hk:Zg5 o.op=true) (hw:s.wantB ops o=some true) (hv:o.op.operands.toList.all s.vB=true) (hx:(execOp s.rho o).run P w=.ok (.value y) w):r=(.v y,none):=by
 have pur:noB (Zbs P o s)=some r→r=(.v y,none):=fun h=>by
  obtain ⟨x,hx',e⟩:=Zbj h
  unfold Zbs at hx'
  cases hb:ZbK o.op && o.op.operands.toList.all s.vB with
  | false=>rw [hb] at hx'; cases hx'
  | true =>
    rw [hb] at hx'
    simp only [cond_true] at hx'
    split at hx'
    ·rename_i y' hy'
     injection hx' with hx'
     have:=ZfC hy' w
     rw [hx] at this
     injection this with h1 _
     injection h1 with h1
     rw [e,← hx',h1]
    ·cases hx'
 unfold ZbQ at h
 rw [hw] at h
 simp only at h
 split at h
 case h_7 t x ho =>
  split at h
  ·rename_i b off hx'
   have:=List.all_eq_true.1 hv x (by simp [ho,Op.operands])
   unfold St.vB at this
   rw [hx'] at this
   cases this
  ·cases h
 case h_9=>exact pur h
 all_goals (rename_i ho; rw [ho] at hk; cases hk)
theorem FV.uniq (hne:∃ w,Φ0 w) {r q:AV × NewB} (h1:FV P ops Φ0 o s r) (h2:FV P ops Φ0 o s q):r=q:=by
 obtain ⟨w,hw0⟩:=hne
 rcases h1 with h1 | ⟨y,rfl,hk,hw,hs,hv,hx⟩
 ·rcases h2 with h2 | ⟨y,rfl,hk,hw,hs,hv,hx⟩
  ·rw [h1] at h2; injection h2
  ·exact ZjS h1 hk hw hv (hx w hw0)
 ·rcases h2 with h2 | ⟨y',rfl,hk',hw',hs',hv',hx'⟩
  ·exact (ZjS h2 hk hw hv (hx w hw0)).symm
  ·have:=hx w hw0
   rw [hx' w hw0] at this
   injection this with h1 _
   injection h1 with h1
   rw [h1]
inductive Strat (P:Program) (N:Nat) (S0:Nat→Prop) (w0:World) (ops:Array Oper) (Φ0:World→Prop) (fin:St→(World→Prop)→Prop):List Nat→St→(World→Prop)→Prop
 | done {s:St} {Φ:World→Prop} (h:fin s Φ):Strat P N S0 w0 ops Φ0 fin [] s Φ
 | flt {i:Nat} {l:List Nat} {s:St} {Φ:World→Prop} {r:AV × NewB} {d:Nat} (h:FV P ops Φ0 (opAt ops i) s r) (hd:(opAt ops i).dst=some d) (hN:d < N) (K:Strat P N S0 w0 ops Φ0 fin l (s.app d r) Φ):Strat P N S0 w0 ops Φ0 fin (i :: l) s Φ
 | does {i:Nat} {l:List Nat} {s:St} {Φ:World→Prop} {d:Nat} {α:Type} (hα:Nonempty α) (sh:α→Value) (φ:α→World→Prop) (hm:cls (opAt ops i).op=2) (hw:s.wantB ops (opAt ops i)=some true) (hn:ZbK (opAt ops i).op=true)
  (hv:(opAt ops i).op.operands.toList.all s.vB=true) (hd:(opAt ops i).dst=some d) (hN:d < N) (hdo:∀ w,Fr S0 w0 w→Φ w→Does P (opAt ops i) s.rho w (DoR sh φ w))
  (K:∀ x,Strat P N S0 w0 ops Φ0 fin l (s.app d (.v (sh x),none)) (fun w=>Φ w∧φ x w)):Strat P N S0 w0 ops Φ0 fin (i :: l) s Φ
 | gen {i:Nat} {l:List Nat} {s:St} {Φ:World→Prop} {d:Nat} {α:Type} (hα:Nonempty α) (sh:α→Value) (E:α→World→World→Prop) (Ψ:α→World→Prop) (hm:cls (opAt ops i).op=2) (hw:s.wantB ops (opAt ops i)=some true) (hn:ZbK (opAt ops i).op=true)
  (hv:(opAt ops i).op.operands.toList.all s.vB=true) (hd:(opAt ops i).dst=some d) (hN:d < N) (hdo:∀ w,Fr S0 w0 w→Φ w→Does P (opAt ops i) s.rho w (fun y w'=>∃ x,y=sh x∧E x w w'))
  (Q:∀ (s':St) (L:Nat→Nat) (a:Act) (w w':World) (x:α),Inv N S0 w0 s' Φ L a w→E x w w'→Inv N S0 w0 s' (Ψ x) L a w') (h0:∀ x w,Ψ x w→Φ0 w)
  (K:∀ x,Strat P N S0 w0 ops Φ0 fin l (s.app d (.v (sh x),none)) (Ψ x)):Strat P N S0 w0 ops Φ0 fin (i :: l) s Φ
 | sto {i:Nat} {l:List Nat} {s s':St} {Φ:World→Prop} (hm:cls (opAt ops i).op=3) (h:Zda P ops (opAt ops i) s=some s') (hd:(opAt ops i).dst=none) (K:Strat P N S0 w0 ops Φ0 fin l s' Φ):Strat P N S0 w0 ops Φ0 fin (i :: l) s Φ
theorem ZkS (h:Zda P ops o s=some s'):s'=s∨∃ b q q',s.bl b=some q∧s'={ s with bl:=upd s.bl b q' }∧Zdz o s b:=by
 unfold Zda at h
 split at h
 ·cases h
 ·injection h with h; exact Or.inl h.symm
 ·split at h
  ·rename_i t x y ho
   split at h
   ·rename_i b off z e hx hy he
    split at h
    ·rename_i bt cs hb
     cases hc:(Nat.beq (Za6 z).length e.size && (Nat.ble (off + (Za6 z).length) cs.length && (Za6 z).all Zco)) with
     | false=>rw [hc] at h; cases h
     | true =>
       rw [hc] at h
       simp only [cond_true,Option.some.injEq] at h
       exact Or.inr ⟨b,_,_,hb,h.symm,x,off,by rw [ho]; rfl,hx⟩
    ·cases h
   ·cases h
  ·cases h
theorem Zsd (hW:WF s) (h:Zda P ops o s=some s'):WF s':=by
 have some_up:∀ {b q' c:Nat} {z:TypeId × List AV},(s.bl c).isSome=true→((upd s.bl b z) c).isSome=true:=fun {b q' c z} h'=>by
  by_cases e:c=b
  ·rw [e,Zbv]; rfl
  ·rw [Za3 _ _ e]; exact h'
 unfold Zda at h
 split at h
 ·cases h
 ·injection h with h; subst h; exact hW
 ·split at h
  ·rename_i t x y ho
   split at h
   ·rename_i b off z e hx hy he
    split at h
    ·rename_i bt cs hb
     cases hc:(Nat.beq (Za6 z).length e.size && (Nat.ble (off + (Za6 z).length) cs.length && (Za6 z).all Zco)) with
     | false=>rw [hc] at h; cases h
     | true =>
       rw [hc] at h
       simp only [cond_true,Option.some.injEq] at h
       subst h
       refine ⟨fun i c off' e'=>some_up (q':=0) (hW.slp i c off' e'),fun c t' cs' hc' x' hx'=>?_⟩
       have key:x'.al s:=by
        by_cases e1:c=b
        ·subst e1
         simp only [Zbv,Option.some.injEq,Prod.mk.injEq] at hc'
         rw [← hc'.2] at hx'
         rcases ZiF hx' with h' | h'
         ·exact hW.cel c bt cs hb x' h'
         ·cases z with
          | v y=>obtain ⟨c',_,rfl⟩:=List.mem_map.1 h'; exact al_v _
          | p b' off'=>simp only [Za6,List.mem_singleton] at h'; subst h'; exact hW.evl hy
        ·simp only [Za3 _ _ e1] at hc'
         exact hW.cel c t' cs' hc' x' hx'
       exact fun d off' e'=>some_up (q':=0) (key d off' e')
    ·cases h
   ·cases h
  ·cases h
theorem Zgf (h:ZbX ops o s s') (hb:∀ b q,Zdb o s b→s.bl b=some q→s'.bl b=some q) {s1:St} (e:Zda P ops o s=some s1):(s1=s∧Zda P ops o s'=some s')∨∃ b q q',s.bl b=some q∧Zdz o s b∧s1={ s with bl:=upd s.bl b q' }∧Zda P ops o s'=some { s' with bl:=upd s'.bl b q' }:=by
 unfold Zda at e ⊢
 split at e
 ·cases e
 ·rename_i hw
  injection e with e
  rw [h.want hw]
  exact Or.inl ⟨e.symm,rfl⟩
 ·rename_i hw
  rw [h.want hw]
  simp only
  split at e
  ·rename_i t x y ho
   split at e
   ·rename_i b off z te hx hy he
    rw [h.eval (by simp [ho,Op.operands]) hx,h.eval (by simp [ho,Op.operands]) hy,he]
    simp only
    split at e
    ·rename_i bt cs hq
     have hl:Zdz o s b:=⟨x,off,by rw [ho]; rfl,hx⟩
     rw [hb b _ hl.leads hq]
     simp only
     cases hc:(Nat.beq (Za6 z).length te.size && (Nat.ble (off + (Za6 z).length) cs.length && (Za6 z).all Zco)) with
     | false=>rw [hc] at e; cases e
     | true =>
       rw [hc] at e
       simp only [cond_true,Option.some.injEq] at e ⊢
       exact Or.inr ⟨b,_,_,hq,hl,e.symm,rfl⟩
    ·cases e
   ·cases e
  ·cases e
theorem Ze4 (s:St) {d e:Nat} (h:d≠e) (r q:AV × NewB):(s.app d r).app e q=(s.app e q).app d r:=by
 obtain ⟨x,nx⟩:=r
 obtain ⟨y,ny⟩:=q
 cases nx<;>cases ny<;>simp [St.app,Zgd _ _ _ h.symm]
theorem ZjT (s:St) {d t:Nat} (h:t≠d) (r:AV × NewB):(s.app d r).sl t=s.sl t:=Za3 _ _ h
theorem Zdk (s:St) {d b:Nat} (h:b≠d) (r:AV × NewB):(s.app d r).bl b=s.bl b:=by
 obtain ⟨x,nx⟩:=r
 cases nx with
 | none=>rfl
 | some q=>exact Za3 _ _ h
theorem Zdl {d:Nat} (h:d ∉ o.looksAt ops) (s:St) (r:AV × NewB):ZbX ops o s (s.app d r):=fun t ht x hx=>by
 rw [ZjT s (fun e=>h (by rw [← e]; exact ht))]; exact hx
theorem Zcg {d:Nat} (h:d ∉ o.looksAt ops) (s:St) (r:AV × NewB):ZbX ops o (s.app d r) s:=fun t ht x hx=>by
 rw [ZjT s (fun e=>h (by rw [← e]; exact ht))] at hx; exact hx
theorem ZhY {d b:Nat} (h:d ∉ o.looksAt ops) {r:AV × NewB} (hl:Zdb o (s.app d r) b):Zdb o s b:=by
 obtain ⟨x,off,hx,e⟩:=hl
 exact ⟨x,off,hx,(Zcg h s r).eval hx e⟩
theorem Strat.swap {fin:St→(World→Prop)→Prop} {x j:Nat} {l:List Nat} (hne0:∃ w,Φ0 w) (hW:WF s) (hap:(opAt ops x).apart ops (opAt ops j)=true) (hm:Zcb (opAt ops x).op (opAt ops j).op=true∨(lsB (opAt ops x).op (opAt ops j).op=true∧Far (opAt ops x) (opAt ops j) s))
 (h:Strat P N S0 w0 ops Φ0 fin (x :: j :: l) s Φ):Strat P N S0 w0 ops Φ0 fin (j :: x :: l) s Φ:=by
 obtain ⟨a1,a2,a3⟩:=Oper.apart_spec hap
 cases h with
 | flt hx hdx hNx K =>
   rename_i rx dx
   have hwx:=hx.wf hW hdx
   have n1:dx ∉ (opAt ops j).looksAt ops:=a1 dx hdx
   cases K with
   | flt hj hdj hNj K =>
     rename_i rj dj
     have n2:dj ∉ (opAt ops x).looksAt ops:=a3 dj hdj
     have hne:dx≠dj:=fun e=>a2 dx hdx (by rw [hdj,e])
     have hj':FV P ops Φ0 (opAt ops j) s rj:=hj.mono (Zcg n1 s rx) (fun _ b q hl hq=>by
      have hal:(s.bl b).isSome=true:=by
       obtain ⟨y,off,_,e⟩:=ZhY n1 hl
       exact hW.evl e b off rfl
      by_cases e:b=dx
      ·subst e
       obtain ⟨av,nb⟩:=rx
       cases nb with
       | none=>exact hq
       | some q'=>rw [hwx.2 q' rfl] at hal; cases hal
      ·rw [Zdk s e] at hq; exact hq)
      (fun d hd h0=>by
       rw [hdj] at hd
       injection hd with hd
       subst hd
       rw [Zdk s (Ne.symm hne)] at h0; exact h0)
     have hwj:=hj'.wf hW hdj
     have hx':FV P ops Φ0 (opAt ops x) (s.app dj rj) rx:=hx.mono (Zdl n2 s rj) (fun _ b q _ hq=>by
      by_cases e:b=dj
      ·subst e
       obtain ⟨av,nb⟩:=rj
       cases nb with
       | none=>exact hq
       | some q'=>rw [hwj.2 q' rfl] at hq; cases hq
      ·rw [Zdk s e]; exact hq)
      (fun d hd h0=>by
       rw [hdx] at hd
       injection hd with hd
       subst hd
       rw [Zdk s hne]; exact h0)
     rw [Ze4 s hne] at K
     exact .flt hj' hdj hNj (.flt hx' hdx hNx K)
   | does hα sh φ hmj hw hn hv hdj hNj hdo K =>
     rename_i dj α
     have n2:dj ∉ (opAt ops x).looksAt ops:=a3 dj hdj
     have hne:dx≠dj:=fun e=>a2 dx hdx (by rw [hdj,e])
     have kn:=Zcg n1 s rx
     refine .does hα sh φ hmj (kn.want hw) hn (kn.vB hv) hdj hNj (fun w hf Q=>?_) (fun z=>?_)
     ·have:=hdo w hf Q
      unfold Does at this ⊢
      rw [kn.exec hn hv]; exact this
     ·refine .flt (r:=rx) (hx.mono (Zdl n2 s (.v (sh z),none)) (fun _ b q _ hq=>hq) (fun d _ h0=>h0)) hdx hNx ?_
      have:=K z
      rw [Ze4 s hne] at this
      exact this
   | gen hα sh E Ψ hmj hw hn hv hdj hNj hdo R h0 K =>
     rename_i dj α
     have n2:dj ∉ (opAt ops x).looksAt ops:=a3 dj hdj
     have hne:dx≠dj:=fun e=>a2 dx hdx (by rw [hdj,e])
     have kn:=Zcg n1 s rx
     refine .gen hα sh E Ψ hmj (kn.want hw) hn (kn.vB hv) hdj hNj (fun w hf Q=>?_) R h0 (fun z=>?_)
     ·have:=hdo w hf Q
      unfold Does at this ⊢
      rw [kn.exec hn hv]; exact this
     ·refine .flt (r:=rx) (hx.mono (Zdl n2 s (.v (sh z),none)) (fun _ b q _ hq=>hq) (fun d _ h0=>h0)) hdx hNx ?_
      have:=K z
      rw [Ze4 s hne] at this
      exact this
   | sto hmj hsj hdj K =>
     rename_i s2
     have kn:=Zcg n1 s rx
     have nol:∀ b,Zdz (opAt ops j) (s.app dx rx) b→cls (opAt ops x).op=1→∀ b0,Zdb (opAt ops x) s b0→b0≠b:=fun b hb e b0 h0=>by
      rcases hm with hm | ⟨_,hm⟩
      ·simp [Zcb,e,hmj] at hm
      ·obtain ⟨y,off,hy,e'⟩:=hb
       refine hm b0 b (h0.addr e) ⟨y,off,hy,kn.eval ?_ e'⟩
       cases ho:(opAt ops j).op with
       | load t z=>rw [ho] at hy; injection hy with hy; simp [Op.operands,hy]
       | store t z u=>rw [ho] at hy; injection hy with hy; simp [Op.operands,hy]
       | _=>rw [ho] at hy; cases hy
     have hbl:∀ b q,Zdb (opAt ops j) (s.app dx rx) b→(s.app dx rx).bl b=some q→s.bl b=some q:=fun b q hl hq=>by
      have hal:(s.bl b).isSome=true:=by
       obtain ⟨y,off,_,e⟩:=ZhY n1 hl
       exact hW.evl e b off rfl
      by_cases e:b=dx
      ·subst e
       obtain ⟨av,nb⟩:=rx
       cases nb with
       | none=>exact hq
       | some q'=>rw [hwx.2 q' rfl] at hal; cases hal
      ·rw [Zdk s e] at hq; exact hq
     rcases Zgf kn hbl hsj with ⟨e1,e2⟩ | ⟨b,q,q',hq,hl,e1,e2⟩
     ·subst e1
      exact .sto hmj e2 hdj (.flt hx hdx hNx K)
     ·subst e1
      have hsb:=hbl b q hl.leads hq
      refine .sto hmj e2 hdj (.flt (FV.mono (s:=s) (s':={ s with bl:=upd s.bl b q' }) (fun t _ x hx=>hx) (fun e b0 q0 hl0 hq0=>by show upd s.bl b q' b0=some q0; rw [Za3 _ _ (nol b hl e b0 hl0)]; exact hq0) (fun d hd h0=>?_) hx) hdx hNx ?_)
      ·show upd s.bl b q' d=none
       have:d≠b:=fun e=>by subst e; rw [h0] at hsb; cases hsb
       rw [Za3 _ _ this]; exact h0
      ·have:({ s with bl:=upd s.bl b q' }:St).app dx rx={ s.app dx rx with bl:=upd (s.app dx rx).bl b q' }:=by
        obtain ⟨av,nb⟩:=rx
        cases nb with
        | none=>rfl
        | some z =>
          have hne:b≠dx:=fun e=>by
           subst e
           rw [hwx.2 z rfl] at hsb; cases hsb
          simp only [St.app]
          rw [Zgd _ _ _ hne.symm]
       rw [this]; exact K
 | sto hmx hsx hdx K =>
   rename_i s1
   cases K with
   | flt hj hdj hNj K =>
     rename_i rj dj
     have nol:∀ b,Zdz (opAt ops x) s b→cls (opAt ops j).op=1→∀ b0,Zdb (opAt ops j) s b0→b0≠b:=fun b hb e b0 h0=>by
      rcases hm with hm | ⟨_,hm⟩
      ·simp [Zcb,e,hmx] at hm
      ·exact fun e'=>hm b b0 hb (h0.addr e) e'.symm
     have n2:dj ∉ (opAt ops x).looksAt ops:=a3 dj hdj
     rcases ZkS hsx with e1 | ⟨b,q,q',hq,e1,hl⟩
     ·subst e1
      have hwj:=hj.wf hW hdj
      have hbl:∀ b q,Zdb (opAt ops x) s1 b→s1.bl b=some q→(s1.app dj rj).bl b=some q:=fun b q _ hq=>by
       by_cases e:b=dj
       ·subst e
        obtain ⟨av,nb⟩:=rj
        cases nb with
        | none=>exact hq
        | some q'=>rw [hwj.2 q' rfl] at hq; cases hq
       ·rw [Zdk s1 e]; exact hq
      rcases Zgf (Zdl n2 s1 rj) hbl hsx with ⟨_,e2⟩ | ⟨b,q,q',hq,hl,e1,e2⟩
      ·exact .flt hj hdj hNj (.sto hmx e2 hdx K)
      ·refine .flt hj hdj hNj (.sto hmx e2 hdx ?_)
       have e3:upd s1.bl b q'=s1.bl:=(congrArg St.bl e1).symm
       have hne:∀ z,rj.2=some z→b≠dj:=fun z hz e=>by
        subst e
        rw [hwj.2 z hz] at hq; cases hq
       have:({ s1.app dj rj with bl:=upd (s1.app dj rj).bl b q' }:St)=s1.app dj rj:=by
        obtain ⟨av,nb⟩:=rj
        cases nb with
        | none=>simp only [St.app]; rw [e3]
        | some z=>simp only [St.app]; rw [Zgd _ _ _ (hne z rfl),e3]
       rw [this]; exact K
     ·have hj':FV P ops Φ0 (opAt ops j) s rj:=hj.mono (fun t _ x hx=>by rw [e1] at hx; exact hx) (fun e b0 q0 hl0 hq0=>by
       have hl1:Zdb (opAt ops j) s b0:=by rw [e1] at hl0; exact hl0
       rw [e1] at hq0
       simp only [Za3 _ _ (nol b hl e b0 hl1)] at hq0; exact hq0) (fun d hd h0=>by
       rw [e1] at h0
       have:d≠b:=fun e=>by subst e; simp [Zbv] at h0
       simp only [Za3 _ _ this] at h0; exact h0)
      have hwj:=hj'.wf hW hdj
      have hbl:∀ b q,Zdb (opAt ops x) s b→s.bl b=some q→(s.app dj rj).bl b=some q:=fun b q _ hq=>by
       by_cases e:b=dj
       ·subst e
        obtain ⟨av,nb⟩:=rj
        cases nb with
        | none=>exact hq
        | some q'=>rw [hwj.2 q' rfl] at hq; cases hq
       ·rw [Zdk s e]; exact hq
      rcases Zgf (Zdl n2 s rj) hbl hsx with ⟨e3,e2⟩ | ⟨b2,q2,q3,hq2,hl2,e3,e2⟩
      ·refine .flt hj' hdj hNj (.sto hmx e2 hdx ?_)
       rw [e3] at K; exact K
      ·refine .flt hj' hdj hNj (.sto hmx e2 hdx ?_)
       have hne:∀ z,rj.2=some z→b2≠dj:=fun z hz e=>by
        subst e
        rw [hwj.2 z hz] at hq2; cases hq2
       have:({ s.app dj rj with bl:=upd (s.app dj rj).bl b2 q3 }:St)=s1.app dj rj:=by
        rw [e3]
        obtain ⟨av,nb⟩:=rj
        cases nb with
        | none=>rfl
        | some z=>simp only [St.app]; rw [Zgd _ _ _ (hne z rfl)]
       rw [this]; exact K
   | does hα sh φ hmj _ _ _ _ _ _ _=>simp [Zcb,lsB,hmx,hmj] at hm
   | gen hα sh E Ψ hmj _ _ _ _ _ _ _ _ _=>simp [Zcb,lsB,hmx,hmj] at hm
   | sto hmj _ _ _=>simp [Zcb,lsB,hmx,hmj] at hm
 | gen hα sh E Ψ hmx hw hn hv hdx hNx hdo R h0 K =>
   rename_i dx α
   have n1:dx ∉ (opAt ops j).looksAt ops:=a1 dx hdx
   obtain ⟨z0⟩:=hα
   have Kj:∀ z,∃ rj dj,FV P ops Φ0 (opAt ops j) s rj∧(opAt ops j).dst=some dj∧dj < N∧Strat P N S0 w0 ops Φ0 fin l ((s.app dx (.v (sh z),none)).app dj rj) (Ψ z):=fun z=>by
    have K1:=K z
    cases K1 with
    | flt hj hdj hNj K=>exact ⟨_,_,hj.mono (Zcg n1 s (.v (sh z),none)) (fun _ b q _ hq=>hq) (fun d _ h0=>h0),hdj,hNj,K⟩
    | does hα sh' φ' hmj _ _ _ _ _ _ _=>simp [Zcb,lsB,hmx,hmj] at hm
    | gen hα sh' E' Ψ' hmj _ _ _ _ _ _ _ _ _=>simp [Zcb,lsB,hmx,hmj] at hm
    | sto hmj _ _ _=>simp [Zcb,lsB,hmx,hmj] at hm
   obtain ⟨rj,dj,hj,hdj,hNj,_⟩:=Kj z0
   have n2:dj ∉ (opAt ops x).looksAt ops:=a3 dj hdj
   have hne:dx≠dj:=fun e=>a2 dx hdx (by rw [hdj,e])
   have kn:=Zdl n2 s rj
   refine .flt hj hdj hNj (.gen ⟨z0⟩ sh E Ψ hmx (kn.want hw) hn (kn.vB hv) hdx hNx (fun w hf Q=>?_) R h0 (fun z=>?_))
   ·have:=hdo w hf Q
    unfold Does at this ⊢
    rw [kn.exec hn hv]; exact this
   ·obtain ⟨rj2,dj2,hj3,hdj2,hNj2,K2⟩:=Kj z
    have e1:dj2=dj:=by rw [hdj] at hdj2; injection hdj2 with e; exact e.symm
    subst e1
    rw [FV.uniq hne0 hj hj3]
    rw [Ze4 s hne] at K2
    exact K2
 | does hα sh φ hmx hw hn hv hdx hNx hdo K =>
   rename_i dx α
   have n1:dx ∉ (opAt ops j).looksAt ops:=a1 dx hdx
   obtain ⟨z0⟩:=hα
   have Kj:∀ z,∃ rj dj,FV P ops Φ0 (opAt ops j) s rj∧(opAt ops j).dst=some dj∧dj < N∧Strat P N S0 w0 ops Φ0 fin l ((s.app dx (.v (sh z),none)).app dj rj) (fun w=>Φ w∧φ z w):=fun z=>by
    have K1:=K z
    cases K1 with
    | flt hj hdj hNj K=>exact ⟨_,_,hj.mono (Zcg n1 s (.v (sh z),none)) (fun _ b q _ hq=>hq) (fun d _ h0=>h0),hdj,hNj,K⟩
    | does hα sh' φ' hmj _ _ _ _ _ _ _=>simp [Zcb,lsB,hmx,hmj] at hm
    | gen hα sh' E' Ψ' hmj _ _ _ _ _ _ _ _ _=>simp [Zcb,lsB,hmx,hmj] at hm
    | sto hmj _ _ _=>simp [Zcb,lsB,hmx,hmj] at hm
   obtain ⟨rj,dj,hj,hdj,hNj,_⟩:=Kj z0
   have n2:dj ∉ (opAt ops x).looksAt ops:=a3 dj hdj
   have hne:dx≠dj:=fun e=>a2 dx hdx (by rw [hdj,e])
   have kn:=Zdl n2 s rj
   refine .flt hj hdj hNj (.does ⟨z0⟩ sh φ hmx (kn.want hw) hn (kn.vB hv) hdx hNx (fun w hf Q=>?_) (fun z=>?_))
   ·have:=hdo w hf Q
    unfold Does at this ⊢
    rw [kn.exec hn hv]; exact this
   ·have K1:=K z
    cases K1 with
    | flt hj2 hdj2 hNj2 K2 =>
      rename_i rj2 dj2
      have hj3:FV P ops Φ0 (opAt ops j) s rj2:=hj2.mono (Zcg n1 s (.v (sh z),none)) (fun _ b q _ hq=>hq) (fun d _ h0=>h0)
      have e1:dj2=dj:=by rw [hdj] at hdj2; injection hdj2 with e; exact e.symm
      subst e1
      rw [FV.uniq hne0 hj hj3]
      rw [Ze4 s hne] at K2
      exact K2
    | does _ _ _ hmj _ _ _ _ _ _ _=>simp [Zcb,lsB,hmx,hmj] at hm
    | gen _ _ _ _ hmj _ _ _ _ _ _ _ _ _=>simp [Zcb,lsB,hmx,hmj] at hm
    | sto hmj _ _ _=>simp [Zcb,lsB,hmx,hmj] at hm
end
end Go.Proofs.YtenchljfmfgeoaaGreatDoor

namespace Go.Proofs.YtenchljfmfgeoaaGreatDoor
open Go.RowKit
section
variable {N:Nat} {S0:Nat→Prop} {w0:World} {s s':St} {Φ Ψ Φ0:World→Prop} {L:Nat→Nat} {a:Act} {w:World} {P:Program} {ops:Array Oper} {Q:Exit→Act→World→Prop} {o:Oper} {fin:St→(World→Prop)→Prop}
def ZiJ (ops:Array Oper) (t:Nat):Nat:=ops.toList.findIdx fun o=>match o.dst with | some d=>Nat.beq d t | none=>false
def srcT:Op→Option Nat
 | .fieldAddr _ (.tmp u) _=>some u
 | .nilCheck (.tmp u)=>some u
 | .move (.tmp u)=>some u
 | _=>none
def pmF (ops:Array Oper) (s0:St):Nat→Nat→Option Nat
 | 0,_=>none
 | f + 1,t=>bif Nat.blt (ZiJ ops t) ops.size then (match (opAt ops (ZiJ ops t)).op with | .alloc _=>some t | .box _ _=>some t | o=>match srcT o with | some u=>pmF ops s0 f u | none=>none)
   else (match s0.sl t with | some (.p b _)=>some b | _=>none)
def BI (ops:Array Oper) (s0 s:St):Prop:=∀ f t b',pmF ops s0 f t=some b'→∀ b off,s.sl t=some (.p b off)→b=b'
def Zel (ops:Array Oper):Bool:=(List.range ops.size).all fun i=>match (opAt ops i).dst with | some d=>Nat.beq (ZiJ ops d) i | none=>true
def ZhC (ops:Array Oper) (sl:SlL):Bool:=sl.all fun q=>match q.2 with | .p _ _ => !(Nat.blt (ZiJ ops q.1) ops.size) | _=>true
theorem BI.init {sl:SlL} {bl:BlL} (h:ZhC ops sl=true):BI ops (ofL sl bl) (ofL sl bl):=by
 intro f t b' hp b off hs
 have h1:=List.all_eq_true.1 h _ (Zbp (i:=t) hs)
 simp only at h1
 cases f with
 | zero=>cases hp
 | succ f =>
   unfold pmF at hp
   cases hb:Nat.blt (ZiJ ops t) ops.size with
   | true=>rw [hb] at h1; cases h1
   | false =>
     rw [hb] at hp
     simp only [cond_false,hs,Option.some.injEq] at hp
     exact hp
theorem Zol {r:AV × NewB} (h:ZbQ P ops o s=some r) {u b off:Nat} (ho:srcT o.op=some u) (hr:r.1=.p b off):∃ off',s.sl u=some (.p b off'):=by
 have pure_no:∀ {x:Option AV},x=Zbs P o s→noB x=some r→False:=fun e h=>by
  obtain ⟨x,hx,e2⟩:=Zbj h
  rw [e] at hx
  obtain ⟨y,e3⟩:=Zg4 hx
  subst e3; subst e2; cases hr
 unfold srcT at ho
 split at ho
 ·rename_i t u' k hop
  injection ho with ho
  subst ho
  unfold ZbQ at h
  rw [hop] at h
  simp only at h
  split at h
  ·cases h
  ·injection h with h; subst h; cases hr
  ·split at h
   ·rename_i b2 off2 hb
    split at h
    ·split at h
     ·injection h with h
      subst h
      injection hr with e1 _
      subst e1
      exact ⟨off2,hb⟩
     ·cases h
    ·cases h
   ·exact (pure_no rfl h).elim
 ·rename_i u' hop
  injection ho with ho
  subst ho
  unfold ZbQ at h
  rw [hop] at h
  simp only at h
  split at h
  ·cases h
  ·injection h with h; subst h; cases hr
  ·split at h
   ·rename_i b2 off2 hb
    injection h with h
    subst h
    injection hr with e1 _
    subst e1
    exact ⟨off2,hb⟩
   ·exact (pure_no rfl h).elim
 ·rename_i u' hop
  injection ho with ho
  subst ho
  unfold ZbQ at h
  rw [hop] at h
  simp only at h
  split at h
  ·cases h
  ·injection h with h; subst h; cases hr
  ·obtain ⟨x,hx,e⟩:=Zbj h
   subst e
   simp only at hr
   subst hr
   exact ⟨off,hx⟩
 ·cases ho
def Znc:Op→Bool
 | .alloc _=>true
 | .box _ _=>true
 | _=>false
theorem Zre {r:AV × NewB} (h:ZbQ P ops o s=some r) (ho:Znc o.op=true) {b off d:Nat} (hr:r.1=.p b off) (hd:o.dst=some d):b=d:=by
 have key:∀ {t:TypeId} {cs:List AV},Zek s o.dst t cs=some r→b=d:=fun h=>by
  obtain ⟨k,hk,e,_⟩:=ZeF h
  rw [hd] at hk
  injection hk with hk
  subst hk; subst e
  injection hr with e1 _
  exact e1.symm
 unfold ZbQ at h
 split at h
 ·cases h
 ·injection h with h; subst h; cases hr
 ·cases hop:o.op with
  | alloc t =>
    rw [hop] at h
    simp only at h
    split at h
    ·exact key h
    ·cases h
  | box t x =>
    rw [hop] at h
    simp only at h
    split at h
    ·exact key h
    ·cases h
  | _=>rw [hop] at ho; cases ho
theorem FV.new {r:AV × NewB} (h:FV P ops Φ0 o s r) (ho:Znc o.op=true) {b off d:Nat} (hr:r.1=.p b off) (hd:o.dst=some d):b=d:=by
 rcases h with h | ⟨y,rfl,_⟩
 ·exact Zre h ho hr hd
 ·cases hr
theorem BI.app {s0:St} {i d:Nat} (h:BI ops s0 s) (hu:Zel ops=true) (hi:i < ops.size) (hd:(opAt ops i).dst=some d) {r:AV × NewB} (hn:∀ b off,r.1=.p b off→Znc (opAt ops i).op=true→b=d) (hr:∀ b off,r.1=.p b off→∀ u,srcT (opAt ops i).op=some u→∃ off',s.sl u=some (.p b off')):BI ops s0 (s.app d r):=by
 intro f t b' hp b off hs
 by_cases e:t=d
 ·subst e
  simp only [St.app,Zbv,Option.some.injEq] at hs
  have h1:=List.all_eq_true.1 hu i (List.mem_range.2 hi)
  rw [hd] at h1
  have h2:=Nat.eq_of_beq_eq_true h1
  cases f with
  | zero=>cases hp
  | succ f =>
    unfold pmF at hp
    rw [h2] at hp
    have:Nat.blt i ops.size=true:=by rw [Nat.blt_eq]; exact hi
    rw [this] at hp
    simp only [cond_true] at hp
    split at hp
    ·rename_i ho
     injection hp with hp
     rw [← hp]; exact hn b off hs (by rw [ho]; rfl)
    ·rename_i ho
     injection hp with hp
     rw [← hp]; exact hn b off hs (by rw [ho]; rfl)
    ·split at hp
     ·rename_i u hu
      obtain ⟨off',hu'⟩:=hr b off hs u hu
      exact h f u b' hp b off' hu'
     ·cases hp
 ·simp only [St.app,Za3 _ _ e] at hs
  exact h f t b' hp b off hs
theorem FV.field {r:AV × NewB} (h:FV P ops Φ0 o s r) {b off:Nat} (hr:r.1=.p b off) {u:Nat} (ho:srcT o.op=some u):∃ off',s.sl u=some (.p b off'):=by
 rcases h with h | ⟨y,rfl,_⟩
 ·exact Zol h ho hr
 ·cases hr
theorem Zom (h:Zda P ops o s=some s'):s'.sl=s.sl:=by
 rcases ZkS h with e | ⟨b,q,q',_,e,_⟩
 ·rw [e]
 ·rw [e]
def farB (ops:Array Oper) (s0:St) (x j:Oper):Bool :=
 match ZkR x.op,ZkR j.op with
 | some (.tmp t),some (.tmp u)=>match pmF ops s0 4 t,pmF ops s0 4 u with
   | some b,some c => !(Nat.beq b c)
   | _,_=>false
 | _,_=>false
theorem ZpJ {s0:St} {x j:Oper} (h:farB ops s0 x j=true) (hB:BI ops s0 s):Far x j s:=by
 intro b c ⟨y,off,hy,ey⟩ ⟨z,off',hz,ez⟩
 unfold farB at h
 rw [hy,hz] at h
 split at h
 ·rename_i t u e1 e2
  injection e1 with e1
  injection e2 with e2
  subst e1; subst e2
  split at h
  ·rename_i b' c' hb hc
   have h1:=hB 4 t b' hb b off ey
   have h2:=hB 4 u c' hc c off' ez
   intro e
   rw [h1,h2] at e
   rw [e] at h
   simp at h
  ·cases h
 ·cases h
theorem Strat.under {s0:St} {x:Nat} {l l':List Nat} (hu:Zel ops=true) (hx:x < ops.size) (hW:WF s) (hB:BI ops s0 s) (H:∀ s Φ,WF s→BI ops s0 s→Strat P N S0 w0 ops Φ0 fin l s Φ→Strat P N S0 w0 ops Φ0 fin l' s Φ) (h:Strat P N S0 w0 ops Φ0 fin (x :: l) s Φ):Strat P N S0 w0 ops Φ0 fin (x :: l') s Φ:=by
 cases h with
 | flt hf hd hN K=>exact .flt hf hd hN (H _ _ (hf.wf hW hd).1 (hB.app hu hx hd (fun b off hr ho=>hf.new ho hr hd) (fun b off hr u ho=>hf.field hr ho)) K)
 | does hα sh φ hm hw hn hv hd hN hdo K=>exact .does hα sh φ hm hw hn hv hd hN hdo (fun z=>H _ _ (hW.app0 _ (al_v _)) (hB.app hu hx hd (fun b off hr=>by cases hr) (fun b off hr=>by cases hr)) (K z))
 | gen hα sh E Ψ hm hw hn hv hd hN hdo Q h0 K=>exact .gen hα sh E Ψ hm hw hn hv hd hN hdo Q h0 (fun z=>H _ _ (hW.app0 _ (al_v _)) (hB.app hu hx hd (fun b off hr=>by cases hr) (fun b off hr=>by cases hr)) (K z))
 | sto hm h hd K=>exact .sto hm h hd (H _ _ (Zsd hW h) (fun f t b' hp b off hs=>hB f t b' hp b off (by rw [Zom h] at hs; exact hs)) K)
theorem Strat.front {s0:St} (hu:Zel ops=true) (hne:∃ w,Φ0 w) {j:Nat}:∀ (l1 l2:List Nat) (s:St) (Φ:World→Prop),WF s→BI ops s0 s→(∀ x,x ∈ l1→x < ops.size∧(opAt ops x).apart ops (opAt ops j)=true∧(Zcb (opAt ops x).op (opAt ops j).op=true∨(lsB (opAt ops x).op (opAt ops j).op=true∧farB ops s0 (opAt ops x) (opAt ops j)=true))) →
 Strat P N S0 w0 ops Φ0 fin (l1 ++ j :: l2) s Φ→Strat P N S0 w0 ops Φ0 fin (j :: (l1 ++ l2)) s Φ
 | [],l2,s,Φ,_,_,_,h=>h
 | x :: l1,l2,s,Φ,hW,hB,hx,h=>by
   have hxx:=hx x List.mem_cons_self
   have h1:Strat P N S0 w0 ops Φ0 fin (x :: j :: (l1 ++ l2)) s Φ:=Strat.under hu hxx.1 hW hB (fun s Φ hW' hB' h'=>Strat.front hu hne l1 l2 s Φ hW' hB' (fun y hy=>hx y (List.mem_cons_of_mem _ hy)) h') h
   exact Strat.swap hne hW hxx.2.1 (hxx.2.2.imp id (fun h=>⟨h.1,ZpJ h.2 hB⟩)) h1
theorem ZcZ {i:Nat} (h:i < ops.size):ops[i]? = some (opAt ops i):=by simp [opAt,h]
theorem Strat.exec {s0:St} {j:Nat} {l:List Nat} (hu:Zel ops=true) (hB:BI ops s0 s) (hj:j < ops.size) (hi:Inv N S0 w0 s Φ L a w) (R:∀ w,Φ w→Φ0 w) (h:Strat P N S0 w0 ops Φ0 fin (j :: l) s Φ) {K:Act→World→Prop}
 (hK:∀ s' Φ' L a w,BI ops s0 s'→(∀ w,Φ' w→Φ0 w)→Inv N S0 w0 s' Φ' L a w→Strat P N S0 w0 ops Φ0 fin l s' Φ'→K a w):wpOp P ops Q j K a w:=by
 unfold wpOp
 rw [ZcZ hj]
 simp only
 have key:if Region.wanted (opAt ops j) (yielded ops a.tmps)=true then (opAt ops j).wp P a w K Q else K (a.put (opAt ops j).dst undef) w:=by
  cases h with
  | flt hx hd hN K'=>exact (hx.yld hi R hd hN).step (fun L a w hi'=>hK _ _ L a w (hB.app hu hj hd (fun b off hr ho=>hx.new ho hr hd) (fun b off hr u ho=>hx.field hr ho)) R hi' K')
  | does hα sh φ hm hw hn hv hd hN hdo K'=>exact ZkP hi hw hn hv hd hN hdo (fun z L a w hi'=>hK _ _ L a w (hB.app hu hj hd (fun b off hr=>by cases hr) (fun b off hr=>by cases hr)) (fun w h=>R w h.1) hi' (K' z))
  | gen hα sh E Ψ hm hw hn hv hd hN hdo S h0 K'=>exact Zrd hi hw hn hv hd hdo (fun z w' he=>hK _ _ L _ _ (hB.app hu hj hd (fun b off hr=>by cases hr) (fun b off hr=>by cases hr)) (h0 z) ((S _ _ _ _ _ z hi he).app0 hN (al_v _)) (K' z))
  | sto hm h hd K'=>exact ZjQ hi h hd (fun L a w hi'=>hK _ _ L a w (fun f t b' hp b off hs=>hB f t b' hp b off (by rw [Zom h] at hs; exact hs)) R hi' K')
 by_cases hw:Region.wanted (opAt ops j) (yielded ops a.tmps)=true
 ·rw [if_pos hw] at key ⊢; exact Or.inl key
 ·rw [if_neg hw] at key ⊢; exact key
def un (n:Nat) (listed:Array Bool):List Nat:=(List.range n).filter fun i => !listed.getD i true
theorem ZcO {n i:Nat} {listed:Array Bool}:i ∈ un n listed ↔ i < n∧listed.getD i true=false:=by
 simp [un,List.mem_filter]
theorem ZdL (n:Nat) (listed:Array Bool):(un n listed).Pairwise (· < ·):=List.Pairwise.filter _ List.pairwise_lt_range
theorem ZlW {listed:Array Bool} {j:Nat} (h:listed.getD j true=false):(listed.setIfInBounds j true).getD j true=true:=by
 have hlt:j < listed.size:=by
  rcases Nat.lt_or_ge j listed.size with h' | h'
  ·exact h'
  ·simp [Array.getElem?_eq_none h'] at h
 simp [hlt]
theorem ZkT {n j:Nat} {listed:Array Bool} {l1 l2:List Nat} (h:un n listed=l1 ++ j :: l2):un n (listed.setIfInBounds j true)=l1 ++ l2:=by
 have hj:listed.getD j true=false:=(ZcO.1 (by rw [h]; simp:j ∈ un n listed)).2
 have e:un n (listed.setIfInBounds j true)=(un n listed).filter (fun i=>i != j):=by
  unfold un
  rw [List.filter_filter]
  refine List.filter_congr (fun i _=>?_)
  by_cases hij:i=j
  ·subst hij; rw [ZlW hj]; simp
  ·rw [getD_set_ne true (Ne.symm hij)]; simp [hij]
 rw [e,h,List.filter_append,List.filter_cons]
 have hs:=ZdL n listed
 rw [h] at hs
 obtain ⟨_,h2,h3⟩:=List.pairwise_append.1 hs
 have h4:=(List.pairwise_cons.1 h2).1
 rw [List.filter_eq_self.2 (fun x hx=>by have:=h3 x hx j List.mem_cons_self; simp; omega),List.filter_eq_self.2 (fun x hx=>by have:=h4 x hx; simp; omega)]
 simp
def Zfj (ops:Array Oper):Bool:=(List.range ops.size).all fun j=>match ops[j]? with | some o=>o.after.all (fun e => !Region.binds .any e || Nat.blt e.on j) | none=>true
def ZhD (R:Nat→Nat→Bool) (ops:Array Oper) (s0:St) (n:Nat):Bool:=(List.range n).all fun j=>(List.range j).all fun x=>R j x || ((opAt ops x).apart ops (opAt ops j) && (Zcb (opAt ops x).op (opAt ops j).op || (lsB (opAt ops x).op (opAt ops j).op && farB ops s0 (opAt ops x) (opAt ops j))))
def Zdc (ops:Array Oper) (n:Nat):Array Bool:=(List.replicate n true ++ List.replicate (ops.size - n) false).toArray
def ZiK (ops:Array Oper) (R:Nat→Nat→Bool):Prop:=∀ (listed:Array Bool),Zet .any ops listed→∀ j x,R j x=true→(∀ ot,ops[j]? = some ot→∀ e ∈ ot.after,Region.binds .any e=true→listed.getD e.on false=true)→listed.getD x false=true
theorem ZhZ (ops:Array Oper):ZiK ops (Zfi .any ops 4):=fun _ hc j _ h hall=>Zg3 hc 4 j h hall
def upM (masks:List Nat) (l:List Edge) (m:Nat):Nat:=l.foldl (fun m e=>bif Region.binds .any e then m ||| (masks.getD e.on 0 ||| 1 <<< e.on) else m) m
def ZqI (ops:Array Oper) (masks:List Nat):Bool:=(List.range ops.size).all fun j=>Nat.beq (masks.getD j 0 ||| upM masks (opAt ops j).after.toList 0) (upM masks (opAt ops j).after.toList 0)
theorem ZkU {masks:List Nat} {x:Nat}:∀ (l:List Edge) (m:Nat),(upM masks l m).testBit x=true→m.testBit x=true∨∃ e ∈ l,Region.binds .any e=true∧(x=e.on∨(masks.getD e.on 0).testBit x=true)
 | [],m,h=>Or.inl h
 | e :: l,m,h=>by
   have h':(upM masks l (bif Region.binds .any e then m ||| (masks.getD e.on 0 ||| 1 <<< e.on) else m)).testBit x=true:=h
   rcases ZkU l _ h' with h1 | ⟨e',he,h1⟩
   ·cases hb:Region.binds .any e with
    | false=>rw [hb] at h1; exact Or.inl h1
    | true =>
      rw [hb] at h1
      simp only [cond_true,Nat.testBit_or,Bool.or_eq_true] at h1
      rcases h1 with h1 | h1 | h1
      ·exact Or.inl h1
      ·exact Or.inr ⟨e,List.mem_cons_self,hb,Or.inr h1⟩
      ·refine Or.inr ⟨e,List.mem_cons_self,hb,Or.inl ?_⟩
       rw [Nat.one_shiftLeft,Nat.testBit_two_pow] at h1
       have:=of_decide_eq_true h1
       omega
   ·exact Or.inr ⟨e',List.mem_cons_of_mem _ he,h1⟩
theorem Znd {masks:List Nat} (hback:Zfj ops=true) (hl:Nat.ble masks.length ops.size=true) (h:ZqI ops masks=true):ZiK ops (fun j x=>(masks.getD j 0).testBit x):=by
 intro listed hc j
 induction j using Nat.strongRecOn with
 | ind j ih =>
   intro x hx hall
   have hx:(masks.getD j 0).testBit x=true:=hx
   have hj:j < ops.size:=by
    rcases Nat.lt_or_ge j ops.size with h' | h'
    ·exact h'
    ·have:=Nat.le_of_ble_eq_true hl
     rw [List.getD_eq_getElem?_getD,List.getElem?_eq_none (by omega)] at hx
     simp at hx
   have h1:=Nat.eq_of_beq_eq_true (List.all_eq_true.1 h j (List.mem_range.2 hj))
   have h2:(upM masks (opAt ops j).after.toList 0).testBit x=true:=by
    rw [← h1,Nat.testBit_or,hx,Bool.true_or]
   rcases ZkU _ _ h2 with h3 | ⟨e,he,hb,h3⟩
   ·simp at h3
   ·have he':e ∈ (opAt ops j).after:=by simpa using he
    have hon:=hall _ (ZcZ hj) e he' hb
    rcases h3 with rfl | h3
    ·exact hon
    ·have h4:=List.all_eq_true.1 hback j (List.mem_range.2 hj)
     rw [ZcZ hj] at h4
     have h5:=Array.all_eq_true'.1 h4 e he'
     rw [hb] at h5
     have h6:=Nat.le_of_ble_eq_true h5
     exact ih e.on h6 x h3 (fun ot ho e2 he2 hb2=>hc e.on ot ho hon e2 he2 hb2)
def ZqJ (ops:Array Oper) (s0:St) (n:Nat):Bool:=Nat.ble n ops.size && (Zel ops && Zfj ops && ((List.range n).all (fun i=>Zdj .any ops n i) && (ZhD (Zfi .any ops 4) ops s0 n && Region.seqB .any ops (ops.size - n) n (Zdc ops n))))
theorem Zon {s0:St} {n:Nat} {R:Nat→Nat→Bool} (hR:ZiK ops R) (hu:Zel ops=true) (hn:n≤ops.size) (hback:Zfj ops=true) (htail:∀ i,i < n→Zdj .any ops n i=true) (hpair:ZhD R ops s0 n=true) (hseq:Region.seqB .any ops (ops.size - n) n (Zdc ops n)=true) (hne:∃ w,Φ0 w)
 (hfin:∀ s Φ,fin s Φ→∀ L a w,Inv N S0 w0 s Φ L a w→wpList P ops Q (ops.toList.drop n) a w) :
 ∀ (k:Nat) (listed:Array Bool) (s:St) (Φ:World→Prop) (L:Nat→Nat) (a:Act) (w:World),(un n listed).length=k→listed.size=ops.size→(∀ i,n≤i→i < ops.size→listed.getD i true=false)→Zet .any ops listed →
   BI ops s0 s→(∀ w,Φ w→Φ0 w)→Inv N S0 w0 s Φ L a w→Strat P N S0 w0 ops Φ0 fin (un n listed) s Φ→wpAny P .any ops Q (k + (ops.size - n)) listed a w:=by
 intro k
 induction k with
 | zero =>
   intro listed s Φ L a w hk hsz htl hcl hBI S hi hS
   have hnil:un n listed=[]:=List.length_eq_zero_iff.1 hk
   rw [hnil] at hS
   have hl:listed=Zdc ops n:=by
    refine Array.ext (by simp [Zdc,hsz]; omega) (fun i h1 h2=>?_)
    have hi':i < ops.size:=by rw [← hsz]; exact h1
    have e:listed.getD i true=listed[i]:=by simp [h1]
    rw [← e]
    by_cases hin:i < n
    ·have:listed.getD i true≠false:=fun h=>by
      have:=ZcO.2 ⟨hin,h⟩
      rw [hnil] at this
      cases this
     simp only [Zdc,List.getElem_toArray]
     rw [List.getElem_append_left (by simpa using hin),List.getElem_replicate]
     cases h:listed.getD i true with
     | true=>rfl
     | false=>exact absurd h this
    ·rw [htl i (by omega) hi']
     simp only [Zdc,List.getElem_toArray]
     rw [List.getElem_append_right (by simpa using hin),List.getElem_replicate]
   have hdl:(ops.toList.drop n).length=ops.size - n:=by simp
   cases hS with
   | done hf =>
     have:=wpAny_of_seq (md:=.any) (Q':=Q) (ops.toList.drop n) n listed a w (fun j=>by simp [List.getElem?_drop]) (by rw [hdl,hl]; exact hseq) (hfin _ _ hf L a w hi)
     rw [hdl] at this
     rw [Nat.zero_add]; exact this
 | succ k ih =>
   intro listed s Φ L a w hk hsz htl hcl hBI S hi hS
   rw [show k + 1 + (ops.size - n)=(k + (ops.size - n)) + 1 by omega]
   obtain ⟨x,R',hR'⟩:∃ x R,un n listed=x :: R:=by
    cases h:un n listed with
    | nil=>rw [h] at hk; cases hk
    | cons x R=>exact ⟨x,R,rfl⟩
   have hx:=ZcO.1 (by rw [hR']; exact List.mem_cons_self:x ∈ un n listed)
   have hmin:∀ i,i < x→listed.getD i true=true:=fun i hix=>by
    cases h:listed.getD i true with
    | true=>rfl
    | false =>
      have:=ZcO.2 ⟨(by omega:i < n),h⟩
      rw [hR'] at this
      have hs:=ZdL n listed
      rw [hR'] at hs
      rcases List.mem_cons.1 this with e | e
      ·omega
      ·have:=(List.pairwise_cons.1 hs).1 i e; omega
   have hxr:x ∈ Region.ready .any ops listed:=by
    have hxs:x < ops.size:=by omega
    refine mem_ready.2 ⟨hx.2,opAt ops x,ZcZ hxs,fun e he heb=>?_⟩
    have h1:=List.all_eq_true.1 hback x (List.mem_range.2 hxs)
    rw [ZcZ hxs] at h1
    have h2':=Array.all_eq_true'.1 h1 e he
    rw [heb] at h2'
    have h2:=Nat.le_of_ble_eq_true h2'
    have h3:=hmin e.on h2
    have h4:e.on < listed.size:=by rw [hsz]; exact Nat.lt_trans h2 hxs
    simp [h4] at h3 ⊢; exact h3
   refine ⟨fun h=>(by rw [h] at hxr; cases hxr),fun j hj=>?_⟩
   have hjn:j < n:=ZkQ (htail x hx.1) hcl hx.2 hj
   obtain ⟨hjun,oj,hoj,hall⟩:=mem_ready.1 hj
   have hjm:j ∈ un n listed:=ZcO.2 ⟨hjn,hjun⟩
   obtain ⟨l1,l2,hl⟩:=List.append_of_mem hjm
   have hs:=ZdL n listed
   rw [hl] at hs
   have hap:∀ y,y ∈ l1→y < ops.size∧(opAt ops y).apart ops (opAt ops j)=true∧(Zcb (opAt ops y).op (opAt ops j).op=true∨(lsB (opAt ops y).op (opAt ops j).op=true∧farB ops s0 (opAt ops y) (opAt ops j)=true)):=fun y hy=>by
    have hyj:y < j:=(List.pairwise_append.1 hs).2.2 y hy j List.mem_cons_self
    have hyu:=(ZcO.1 (by rw [hl]; exact List.mem_append_left _ hy:y ∈ un n listed)).2
    have h1:=List.all_eq_true.1 (List.all_eq_true.1 hpair j (List.mem_range.2 hjn)) y (List.mem_range.2 hyj)
    rw [Bool.or_eq_true] at h1
    rcases h1 with h1 | h1
    ·have h2:=hR listed hcl j y h1 (fun o ho=>by
      have:o=oj:=Option.some.inj (ho.symm.trans hoj)
      subst this
      exact hall)
     rw [getD_both hyu] at h2
     cases h2
    ·simp only [Bool.and_eq_true,Bool.or_eq_true] at h1
     exact ⟨by omega,h1⟩
   rw [hl] at hS
   have hS':=Strat.front hu hne l1 l2 s Φ hi.wf hBI hap hS
   refine Strat.exec hu hBI (by omega) hi S hS' (fun s' Φ' L' a' w' hBI' hΦ' hi' K'=>?_)
   have hun':=ZkT hl
   refine ih (listed.setIfInBounds j true) s' Φ' L' a' w' ?_ (by simp [hsz]) (fun i h1 h2=>?_) (hcl.set hj) hBI' hΦ' hi' (by rw [hun']; exact K')
   ·rw [hun']
    rw [hl] at hk
    simp only [List.length_append,List.length_cons] at hk ⊢
    omega
   ·rw [getD_set_ne true (by omega)]; exact htl i h1 h2
theorem MemI.drew (h:MemI S0 w0 s L w):MemI S0 w0 s L w.drew:=⟨h.blk,h.inj,h.old,h.ext.drew,h.slp,h.cel⟩
theorem Inv.drew (h:Inv N S0 w0 s Φ L a w):Inv N S0 w0 s Φ L a w.drew:=⟨h.size,h.df,h.sl,h.mem.drew,h.box.ext (Fr.refl _ w).drew⟩
theorem ZjU {id:Nat} (n:Nat) {sl:SlL} {bl:BlL} {R:Nat→Nat→Bool} (hR:ZiK ops R) (hB:(Nat.ble n ops.size && (Zel ops && Zfj ops && ((List.range n).all (fun i=>Zdj .any ops n i) && (ZhD R ops (ofL sl bl) n && Region.seqB .any ops (ops.size - n) n (Zdc ops n)))))=true) (hI:ZhC ops sl=true) (hm:P.follows .mixedOrders=true)
 (h:Strat P N S0 w0 ops Φ (fun s Φ=>SXi P N S0 w0 ops Q n s Φ) (List.range n) (ofL sl bl) Φ):SXc P N S0 w0 Q (.region id ops true) (ofL sl bl) Φ:=by
 simp only [Bool.and_eq_true] at hB
 obtain ⟨h1,⟨h0,h2⟩,h3,h4,h5⟩:=hB
 have hn:=Nat.le_of_ble_eq_true h1
 intro L a w hi
 refine wp_region_any hm ?_
 have hun:un n (Array.replicate ops.size false)=List.range n:=by
  unfold un
  refine List.filter_eq_self.2 (fun i hi'=>?_)
  have:=List.mem_range.1 hi'
  simp [show i < ops.size by omega]
 have:=Zon hR (Q:=Q) (fin:=fun s Φ=>SXi P N S0 w0 ops Q n s Φ) h0 hn h2 (fun i hi'=>List.all_eq_true.1 h3 i (List.mem_range.2 hi')) h4 h5 ⟨w,hi.box.self⟩ (fun s Φ hf L a w hi'=>hf L a w hi') (un n (Array.replicate ops.size false)).length (Array.replicate ops.size false) _ Φ L a w.drew rfl (by simp)
  (fun i _ h'=>by simp [h']) (fun j oj _ hl=>by rw [getD_replicate_false] at hl; cases hl) (BI.init hI) (fun _ h=>h) hi.drew (by rw [hun]; exact h)
 rw [hun,List.length_range,show n + (ops.size - n)=ops.size by omega] at this
 exact this
theorem ZpK {id:Nat} (n:Nat) {sl:SlL} {bl:BlL} (hB:ZqJ ops (ofL sl bl) n=true) (hI:ZhC ops sl=true) (hm:P.follows .mixedOrders=true)
 (h:Strat P N S0 w0 ops Φ (fun s Φ=>SXi P N S0 w0 ops Q n s Φ) (List.range n) (ofL sl bl) Φ):SXc P N S0 w0 Q (.region id ops true) (ofL sl bl) Φ:=ZjU n (ZhZ ops) hB hI hm h
def ZqK (ops:Array Oper) (s0:St) (n:Nat) (masks:List Nat):Bool:=(Nat.ble masks.length ops.size && ZqI ops masks) && (Nat.ble n ops.size && (Zel ops && Zfj ops && ((List.range n).all (fun i=>Zdj .any ops n i) && (ZhD (fun j x=>(masks.getD j 0).testBit x) ops s0 n && Region.seqB .any ops (ops.size - n) n (Zdc ops n)))))
def stpF (P:Program) (N:Nat) (ops:Array Oper) (o:Oper) (s:St):Option St :=
 match o.dst with
 | some d=>bif Nat.blt d N then (match ZbQ P ops o s with | some r=>some (s.app d r) | none=>none) else none
 | none=>bif Nat.beq (cls o.op) 3 then Zda P ops o s else none
def runF (P:Program) (N:Nat) (ops:Array Oper):Nat→Nat→St→Option St
 | 0,_,s=>some s
 | k + 1,i,s=>match stpF P N ops (opAt ops i) s with
   | some s'=>runF P N ops k (i + 1) s'
   | none=>none
theorem Zne {i:Nat} {l:List Nat} (h:stpF P N ops (opAt ops i) s=some s') (K:Strat P N S0 w0 ops Φ0 fin l s' Φ):Strat P N S0 w0 ops Φ0 fin (i :: l) s Φ:=by
 unfold stpF at h
 split at h
 ·rename_i d hd
  cases hb:Nat.blt d N with
  | false=>rw [hb] at h; cases h
  | true =>
    rw [hb] at h
    simp only [cond_true] at h
    split at h
    ·rename_i r hr
     injection h with h
     subst h
     exact .flt (Or.inl hr) hd (Nat.le_of_ble_eq_true hb) K
    ·cases h
 ·rename_i hd
  cases hb:Nat.beq (cls (opAt ops i).op) 3 with
  | false=>rw [hb] at h; cases h
  | true =>
    rw [hb] at h
    exact .sto (Nat.eq_of_beq_eq_true hb) h hd K
theorem ZiL {n:Nat}:∀ (k i:Nat) (s s':St),runF P N ops k i s=some s'→i + k≤n→Strat P N S0 w0 ops Φ0 fin (List.range' (i + k) (n - (i + k))) s' Φ→Strat P N S0 w0 ops Φ0 fin (List.range' i (n - i)) s Φ
 | 0,i,s,s',h,hk,K=>by simp only [runF,Option.some.injEq] at h; subst h; exact K
 | k + 1,i,s,s',h,hk,K=>by
   unfold runF at h
   split at h
   ·rename_i s1 hs
    have ih:=ZiL (n:=n) k (i + 1) _ s' h (by omega) (by rw [show i + 1 + k=i + (k + 1) by omega]; exact K)
    rw [show n - i=(n - (i + 1)) + 1 by omega,List.range'_succ]
    exact Zne hs ih
   ·cases h
def StI (P:Program) (N:Nat) (S0:Nat→Prop) (w0:World) (ops:Array Oper) (Φ0:World→Prop) (Q:Exit→Act→World→Prop) (n i:Nat) (s:St) (Φ:World→Prop):Prop :=
 Strat P N S0 w0 ops Φ0 (fun s Φ=>SXi P N S0 w0 ops Q n s Φ) (List.range' i (n - i)) s Φ
theorem ZaK {id:Nat} (n:Nat) {sl:SlL} {bl:BlL} (hB:ZqJ ops (ofL sl bl) n=true) (hI:ZhC ops sl=true) (hm:P.follows .mixedOrders=true) (h:StI P N S0 w0 ops Φ Q n 0 (ofL sl bl) Φ):SXc P N S0 w0 Q (.region id ops true) (ofL sl bl) Φ :=
 ZpK n hB hI hm (by rw [List.range_eq_range']; exact h)
theorem Zif {id:Nat} (n:Nat) (masks:List Nat) {sl:SlL} {bl:BlL} (hB:ZqK ops (ofL sl bl) n masks=true) (hI:ZhC ops sl=true) (hm:P.follows .mixedOrders=true) (h:StI P N S0 w0 ops Φ Q n 0 (ofL sl bl) Φ):SXc P N S0 w0 Q (.region id ops true) (ofL sl bl) Φ:=by
 unfold ZqK at hB
 obtain ⟨h1,h2⟩:=(Bool.and_eq_true _ _).mp hB
 obtain ⟨h3,h4⟩:=(Bool.and_eq_true _ _).mp h1
 have hb:Zfj ops=true:=by
  simp only [Bool.and_eq_true] at h2
  exact h2.2.1.2
 exact ZjU n (Znd hb h3 h4) h2 hI hm (by rw [List.range_eq_range']; exact h)
end
end Go.Proofs.YtenchljfmfgeoaaGreatDoor

namespace Go.Proofs.YtenchljfmfgeoaaGreatDoor
open Go.RowKit
section
variable {N:Nat} {S0:Nat→Prop} {w0:World} {s s':St} {Φ Ψ Φ0:World→Prop} {L:Nat→Nat} {a:Act} {w:World} {P:Program} {ops:Array Oper} {Q:Exit→Act→World→Prop} {o:Oper} {fin:St→(World→Prop)→Prop}
/-! ### inside a region that draws -/
theorem Strat.weak {l:List Nat} (h:Strat P N S0 w0 ops Φ0 fin l s Φ):∀ {s':St},s'.bl=s.bl→(∀ t x,s.sl t=some x→s'.sl t=some x)→(∀ s s' Φ,fin s Φ→s'.bl=s.bl→(∀ t x,s.sl t=some x→s'.sl t=some x)→fin s' Φ)→Strat P N S0 w0 ops Φ0 fin l s' Φ:=by
 induction h with
 | done h=>intro s' hb hs hf; exact .done (hf _ _ _ h hb hs)
 | flt h hd hN K ih =>
   rename_i i l s Φ r d
   intro s' hb hs hf
   refine .flt (h.mono (fun t _ x hx=>hs t x hx) (fun _ b q _ hq=>by rw [hb]; exact hq) (fun d _ h0=>by rw [hb]; exact h0)) hd hN (ih (by obtain ⟨x,nx⟩:=r; cases nx<;>simp [St.app,hb]) (fun t x hx=>?_) hf)
   by_cases e:t=d
   ·subst e
    simp only [St.app,Zbv] at hx ⊢
    exact hx
   ·simp only [St.app,Za3 _ _ e] at hx ⊢
    exact hs t x hx
 | does hα sh φ hm hw hn hv hd hN hdo K ih =>
   rename_i i l s Φ d α
   intro s' hb hs hf
   have kn:ZbX ops (opAt ops i) s s':=fun t _ x hx=>hs t x hx
   refine .does hα sh φ hm (kn.want hw) hn (kn.vB hv) hd hN (fun w hf' Q=>?_) (fun z=>ih z (by simp [St.app,hb]) (fun t x hx=>?_) hf)
   ·have:=hdo w hf' Q
    unfold Does at this ⊢
    rw [kn.exec hn hv]; exact this
   ·by_cases e:t=d
    ·subst e
     simp only [St.app,Zbv] at hx ⊢
     exact hx
    ·simp only [St.app,Za3 _ _ e] at hx ⊢
     exact hs t x hx
 | gen hα sh E Ψ hm hw hn hv hd hN hdo R h0 K ih =>
   rename_i i l s Φ d α
   intro s' hb hs hf
   have kn:ZbX ops (opAt ops i) s s':=fun t _ x hx=>hs t x hx
   refine .gen hα sh E Ψ hm (kn.want hw) hn (kn.vB hv) hd hN (fun w hf' Q=>?_) R h0 (fun z=>ih z (by simp [St.app,hb]) (fun t x hx=>?_) hf)
   ·have:=hdo w hf' Q
    unfold Does at this ⊢
    rw [kn.exec hn hv]; exact this
   ·by_cases e:t=d
    ·subst e
     simp only [St.app,Zbv] at hx ⊢
     exact hx
    ·simp only [St.app,Za3 _ _ e] at hx ⊢
     exact hs t x hx
 | sto hm h hd K ih =>
   rename_i i l s s1 Φ
   intro s' hb hs hf
   have kn:ZbX ops (opAt ops i) s s':=fun t _ x hx=>hs t x hx
   rcases Zgf kn (fun b q _ hq=>by rw [hb]; exact hq) h with ⟨e1,e2⟩ | ⟨b,q,q',hq,hl,e1,e2⟩
   ·subst e1
    exact .sto hm e2 hd (ih hb hs hf)
   ·subst e1
    exact .sto hm e2 hd (ih (by simp only [hb]) (fun t x hx=>hs t x hx) hf)
theorem ZpL {n:Nat} (s s':St) (Φ:World→Prop) (h:SXi P N S0 w0 ops Q n s Φ) (hb:s'.bl=s.bl) (hs:∀ t x,s.sl t=some x→s'.sl t=some x):SXi P N S0 w0 ops Q n s' Φ:=fun L a w hi =>
 h L a w ⟨hi.size,hi.df,fun i x hx=>hi.sl i x (hs i x hx),⟨fun b t cs e=>hi.mem.blk b t cs (by rw [hb]; exact e),fun b c=>by rw [← hb]; exact hi.mem.inj b c,fun b=>by rw [← hb]; exact hi.mem.old b,hi.mem.ext,fun i b off e=>by rw [← hb]; exact hi.mem.slp i b off (hs i _ e),fun b t cs e x hx=>by
   have:=hi.mem.cel b t cs (by rw [hb]; exact e) x hx
   rw [← hb]; exact this⟩,fun w' hf=>hi.box w' (hf.mono (fun i _ h'=>by obtain ⟨b,hb',e⟩:=h'; exact ⟨b,by rw [hb]; exact hb',e⟩))⟩
def ZfS (P:Program) (N:Nat) (ops:Array Oper) (k i:Nat) (s:St) (sl:SlL):Option (List (Option AV) × (Nat→Option (TypeId × List AV))) :=
 match runF P N ops k i s with
 | some s'=>some (sl.map (fun q=>s'.sl q.1),s'.bl)
 | none=>none
theorem ZkV {n i:Nat} (k:Nat) (sl:SlL) (bl:BlL) (h:ZfS P N ops k i s sl=some (sl.map (fun q=>some q.2),Zc9 bl)) (hk:Nat.ble (i + k) n=true) (K:StI P N S0 w0 ops Φ0 Q n (i + k) (ofL sl bl) Φ):StI P N S0 w0 ops Φ0 Q n i s Φ:=by
 unfold ZfS at h
 split at h
 ·rename_i s1 h1
  injection h with h
  injection h with h2 h3
  refine ZiL k i s s1 h1 (Nat.le_of_ble_eq_true hk) (Strat.weak K h3 (fun t x hx=>?_) (fun s s' Φ h hb hs=>ZpL s s' Φ h hb hs))
  exact Zca (f:=fun q:Nat × AV=>s1.sl q.1) (g:=fun q=>some q.2) h2 (Zbp hx)
 ·cases h
theorem Zmn {n i:Nat} (f:FuncId) (args:List Value) (d:Nat) {α:Type} [hα:Nonempty α] (sh:α→Value) (φ:α→World→Prop) (hi:Nat.blt i n=true) (hm:cls (opAt ops i).op=2) (h:ZcN P N ops (opAt ops i) s=some (f,args,d))
 (hC:∀ w,Fr S0 w0 w→Φ w→Calls P f args.toArray w (ZbA sh φ w)) (K:∀ x,StI P N S0 w0 ops Φ0 Q n (i + 1) (s.put d (.v (sh x))) (fun w=>Φ w∧φ x w)):StI P N S0 w0 ops Φ0 Q n i s Φ:=by
 obtain ⟨hw,hq,hd,hn,hv,hk,hN⟩:=Zdi h
 have hi':i < n:=Nat.le_of_ble_eq_true hi
 unfold StI
 rw [show n - i=(n - (i + 1)) + 1 by omega,List.range'_succ]
 exact .does hα sh φ hm hw hn hv hd hN (fun w hf R=>ZjR hq hk (hC w hf R)) K
theorem ZeO {n i:Nat} (d:Nat) (y:Value) (hi:Nat.blt i n=true) (hk:Zg5 (opAt ops i).op=true) (hw:s.wantB ops (opAt ops i)=some true) (hv:(opAt ops i).op.operands.toList.all s.vB=true) (hd:(opAt ops i).dst=some d) (hN:Nat.blt d N=true)
 (hx:∀ w,Φ0 w→(execOp s.rho (opAt ops i)).run P w=.ok (.value y) w) (K:StI P N S0 w0 ops Φ0 Q n (i + 1) (s.put d (.v y)) Φ):StI P N S0 w0 ops Φ0 Q n i s Φ:=by
 have hi':i < n:=Nat.le_of_ble_eq_true hi
 have hs:ZbK (opAt ops i).op=true:=by
  cases h:(opAt ops i).op<;>first | rfl | (rw [h] at hk; cases hk)
 unfold StI
 rw [show n - i=(n - (i + 1)) + 1 by omega,List.range'_succ]
 exact .flt (r:=(.v y,none)) (Or.inr ⟨y,rfl,hk,hw,hs,hv,hx⟩) hd (Nat.le_of_ble_eq_true hN) K
theorem Zse {n i:Nat} (h:Nat.ble n i=true) (K:SXi P N S0 w0 ops Q n s Φ):StI P N S0 w0 ops Φ0 Q n i s Φ:=by
 unfold StI
 rw [show n - i=0 by have:=Nat.le_of_ble_eq_true h; omega]
 exact .done K
/-! ### one look in a list -/
theorem ZhE {i:Nat} (d:Nat) (y:Value) (hi:Nat.blt i ops.size=true) (hs:ZbK (opAt ops i).op=true) (hw:s.wantB ops (opAt ops i)=some true) (hv:(opAt ops i).op.operands.toList.all s.vB=true) (hd:(opAt ops i).dst=some d) (hN:Nat.blt d N=true)
 (hx:∀ w,Fr S0 w0 w→Φ w→(execOp s.rho (opAt ops i)).run P w=.ok (.value y) w) (K:SXi P N S0 w0 ops Q (i + 1) (s.put d (.v y)) Φ):SXi P N S0 w0 ops Q i s Φ:=by
 refine Zbx (α:=Unit) (fun _=>y) (fun _ _=>True) hi hw hs hv hd hN (fun w hf R=>Or.inl ⟨y,w,hx w hf R,(),rfl,Fr.refl _ _,BoxN.pure trivial⟩) (fun _=>?_)
 intro L a w h
 exact K L a w ⟨h.size,h.df,h.sl,h.mem,h.box.mono (fun w h=>h.1)⟩
/-! ### code -/
theorem Zac {x y:Code} (h:SXc P N S0 w0 (Exit.then (y.wp P Q) Q) x s Φ):SXc P N S0 w0 Q (.seq x y) s Φ:=fun L a w hi=>wp_seq (h L a w hi)
theorem Zaa {y:Code} (h:SXc P N S0 w0 Q y s Φ):SXq N S0 w0 (Exit.then (y.wp P Q) Q .normal) s Φ:=h
theorem Zar {id:Nat} {c:Code} (h:SXc P N S0 w0 (Exit.inBlock id Q) c s Φ):SXc P N S0 w0 Q (.block id c) s Φ:=fun L a w hi=>wp_block (h L a w hi)
theorem ZaO {id:Nat} (h:SXq N S0 w0 (Q .normal) s Φ):SXq N S0 w0 (Exit.inBlock id Q .normal) s Φ:=h
theorem ZaV {id:Nat} (h:SXq N S0 w0 (Q .normal) s Φ):SXq N S0 w0 (Exit.inBlock id Q (.exit id)) s Φ:=fun L a w hi=>by
 have:=h L a w hi
 simpa [Exit.inBlock] using this
theorem ZhF {id id':Nat} (hne:Nat.beq id' id=false) (h:SXq N S0 w0 (Q (.exit id')) s Φ):SXq N S0 w0 (Exit.inBlock id Q (.exit id')) s Φ:=fun L a w hi=>by
 have hne':id'≠id:=fun e=>by subst e; simp at hne
 have:=h L a w hi
 simpa [Exit.inBlock,hne'] using this
theorem Zaj {id:Nat} {nx:Act→World→Prop} (h:SXq N S0 w0 (Q (.exit id)) s Φ):SXq N S0 w0 (Exit.then nx Q (.exit id)) s Φ:=h
theorem Zai {nx:Act→World→Prop} (h:SXq N S0 w0 (Q .ret) s Φ):SXq N S0 w0 (Exit.then nx Q .ret) s Φ:=h
theorem ZaQ {id:Nat} (h:SXq N S0 w0 (Q .ret) s Φ):SXq N S0 w0 (Exit.inBlock id Q .ret) s Φ:=h
theorem ZaM {id:Nat} (h:SXq N S0 w0 (Q (.exit id)) s Φ):SXc P N S0 w0 Q (.exit id) s Φ:=fun L a w hi=>wp_exit (h L a w hi)
theorem Zag (h:SXq N S0 w0 (Q .ret) s Φ):SXc P N S0 w0 Q .ret s Φ:=fun L a w hi=>wp_ret (h L a w hi)
theorem Zal (h:SXq N S0 w0 (Q .normal) s Φ):SXc P N S0 w0 Q .skip s Φ:=fun L a w hi=>wp_skip (h L a w hi)
theorem Zap {c:Operand} {x y:Code} (b:Bool) (hc:s.eval c=some (.v (.bool b))) (ht:b=true→SXc P N S0 w0 Q x s Φ) (hf:b=false→SXc P N S0 w0 Q y s Φ):SXc P N S0 w0 Q (.cond c x y) s Φ:=fun L a w hi=>by
 have h:=hi.eval hc
 exact wp_cond_split h (fun e=>ht e L a w hi) (fun e=>hf e L a w hi)
theorem Zoo {c:Operand} {x y:Code} (hc:s.eval c=some (.v (.bool true))) (h:SXc P N S0 w0 Q x s Φ):SXc P N S0 w0 Q (.cond c x y) s Φ:=Zap true hc (fun _=>h) (fun e=>by cases e)
theorem Zop {c:Operand} {x y:Code} (hc:s.eval c=some (.v (.bool false))) (h:SXc P N S0 w0 Q y s Φ):SXc P N S0 w0 Q (.cond c x y) s Φ:=Zap false hc (fun e=>by cases e) (fun _=>h)
theorem Zab {id:Nat} (h:SXi P N S0 w0 ops Q 0 s Φ):SXc P N S0 w0 Q (.region id ops false) s Φ:=fun L a w hi=>wp_region_list (h L a w hi)
theorem SXc.know {c:Code} {p:Prop} (h:∀ w,Fr S0 w0 w→Φ w→p) (K:p→SXc P N S0 w0 Q c s Φ):SXc P N S0 w0 Q c s Φ:=fun L a w hi=>K (h w hi.mem.ext hi.box.self) L a w hi
theorem SXc.weak {c:Code} (sl:SlL) (bl:BlL) (h1:Zax s sl bl) (h2:wfB sl bl=true) (R:∀ w,Φ w→Ψ w) (h:SXc P N S0 w0 Q c (ofL sl bl) Ψ):SXc P N S0 w0 Q c s Φ:=fun L a w hi=>h L a w (hi.weak h1 h2 R)
theorem SXq.weak {q:Act→World→Prop} (sl:SlL) (bl:BlL) (h1:Zax s sl bl) (h2:wfB sl bl=true) (Q:∀ w,Φ w→Ψ w) (h:SXq N S0 w0 q (ofL sl bl) Ψ):SXq N S0 w0 q s Φ:=fun L a w hi=>h L a w (hi.weak h1 h2 Q)
/-! ### the beginning and the end of a function -/
theorem ZdG:∀ (l:List Value) (k i:Nat) (x:AV),Zc9 (Zge k l) i=some x→k≤i∧∃ v,l[i - k]? = some v∧x=.v v
 | [],k,i,x,h=>by cases h
 | v :: l,k,i,x,h=>by
   by_cases e:i=k
   ·subst e
    simp only [Zge,Zc9,Zbv,Option.some.injEq] at h
    exact ⟨Nat.le_refl _,v,by simp,h.symm⟩
   ·simp only [Zge,Zc9,Za3 _ _ e] at h
    obtain ⟨h1,u,h2,h3⟩:=ZdG l (k + 1) i x h
    refine ⟨by omega,u,?_,h3⟩
    rw [show i - k=(i - (k + 1)) + 1 by omega]
    simpa using h2
theorem Zas {fn:Func} {f:FuncId} {c:Code} {args:List Value} {R:Ending→World→Prop} (hf:P.funcs[f]? = some fn) (hb:fn.body=some c) (hl:Nat.ble args.length fn.ntmps=true) (Q:Box (fun _=>False) w Φ)
 (h:SXc P fn.ntmps (fun _=>False) w (bodyPost P fn R) c (ofL (Zge 0 args) []) Φ):Calls P f args.toArray w R:=by
 refine calls_of_wp hf hb (h (fun _=>0) _ w ⟨?_,rfl,fun i x hx=>?_,⟨fun b t cs e=>(by cases e),fun b c e=>(by cases e),fun b e=>(by cases e),Fr.refl _ _,fun i b off e=>?_,fun b t cs e=>(by cases e)⟩,?_⟩)
 ·have:=Nat.le_of_ble_eq_true hl
  simp; omega
 ·obtain ⟨_,v,hv,rfl⟩:=ZdG args 0 i x hx
  have hlt:i < args.length:=by
   rcases Nat.lt_or_ge i args.length with h' | h'
   ·exact h'
   ·rw [List.getElem?_eq_none (by omega)] at hv; cases hv
  simp only [AV.conc]
  rw [Array.getElem?_append_left (by simpa using hlt)]
  simpa using hv
 ·obtain ⟨_,v,hv,e'⟩:=ZdG args 0 i _ e
  cases e'
 ·intro w' hf'
  exact Q w' (hf'.mono (fun i _ h'=>by obtain ⟨b,e,_⟩:=h'; cases e))
def ZfT (tmps:Array Value):ResultVar→Sem Value
 | .tmp t=>pure (tmps.getD t undef)
 | .cell t ty=>do loadVar ty (← asAddr (tmps.getD t undef))
theorem ZiM (fn:Func) (tmps:Array Value):results fn tmps=(do
 let vs ← fn.results.mapM (ZfT tmps)
 pure (if h:vs.size=1 then vs[0] else .tuple vs)):=by
 unfold results
 congr
theorem Zoq (hi:Inv N S0 w0 s Φ L a w) {r:ResultVar} {x:Value} (h:Zky P s r=some x):(ZfT a.tmps r).run P w=.ok x w:=by
 cases r with
 | tmp t =>
   simp only [Zky] at h
   split at h
   ·rename_i y hy
    injection h with h
    subst h
    have:=hi.sl t _ hy
    simp [ZfT,this,AV.conc]
   ·cases h
 | cell t ty =>
   simp only [Zky] at h
   split at h
   ·rename_i b off hb
    split at h
    ·rename_i y hy
     injection h with h
     subst h
     have h1:=hi.sl t _ hb
     have h2:=(Zg2 hi hy).2
     simp only [Instr.loadAt,Instr.sureAddr,Sem.run_bind,Sem.run_pure,Result.andThen_ok] at h2
     simp [ZfT,h1,AV.conc,asAddr,h2]
    ·cases h
   ·cases h
theorem ZkW (hi:Inv N S0 w0 s Φ L a w):∀ (l:List ResultVar) (m:List Value),resL P s l=some m→(l.mapM (ZfT a.tmps)).run P w=.ok m w
 | [],m,h=>by simp only [resL,Option.some.injEq] at h; subst h; rfl
 | r :: l,m,h=>by
   unfold resL at h
   split at h
   ·rename_i x m' hx hm
    injection h with h
    subst h
    have h1:=Zoq hi hx
    have h2:=ZkW hi l m' hm
    rw [List.mapM_cons]
    simp only [Sem.run_bind,h1,h2,Result.andThen_ok,Sem.run_pure]
   ·cases h
theorem ZjV (hi:Inv N S0 w0 s Φ L a w) {fn:Func} {v:Value} (h:Zkz P fn s=some v):(results fn a.tmps).run P w=.ok v w:=by
 have key:∀ m,resL P s fn.results.toList=some m→(results fn a.tmps).run P w=.ok (if h:m.toArray.size=1 then m.toArray[0] else .tuple m.toArray) w:=fun m hm=>by
  have:=ZkW hi _ m hm
  rw [ZiM,Array.mapM_eq_mapM_toList]
  simp only [Sem.run_bind,Sem.run_map,this,Result.andThen_ok,Sem.run_pure]
 unfold Zkz at h
 split at h
 ·rename_i x hx
  injection h with h
  rw [key [x] hx,← h]
  simp
 ·rename_i m hne hm
  injection h with h
  rw [key m hm,← h]
  have:m.toArray.size≠1:=fun e=>by
   obtain ⟨x,hx⟩:=List.length_eq_one_iff.1 (by simpa using e)
   exact hne x hx
  rw [dif_neg this]
 ·cases h
theorem Zaf {fn:Func} {R:Ending→World→Prop} {v:Value} (h:Zkz P fn s=some v) (hR:∀ w,Fr S0 w0 w→Φ w→R (.returned v) w):SXq N S0 w0 (bodyPost P fn R .ret) s Φ:=fun _ _ w hi =>
 ⟨hi.df,v,ZjV hi h,hR w hi.mem.ext hi.box.self⟩
theorem Zrf {fn:Func} {R:Ending→World→Prop} {v:Value} (h:Zkz P fn s=some v) (hR:∀ w,Fr S0 w0 w→Φ w→R (.returned v) w):SXq N S0 w0 (bodyPost P fn R .normal) s Φ:=fun _ _ w hi =>
 ⟨hi.df,v,ZjV hi h,hR w hi.mem.ext hi.box.self⟩
/-! ### the same rules in short (the proofs that the kernel works out need not be written) -/
theorem xr {i:Nat} (k:Nat) (sl:SlL) (bl:BlL) (K:SXi P N S0 w0 ops Q (i + k) (ofL sl bl) Φ) (h:ZiH P N ops i k s sl bl=some (sl.map (fun q=>some q.2),bl.map (fun q=>some q.2)):=by kernel_rfl) (h2:wfB sl bl=true:=by kernel_rfl):SXi P N S0 w0 ops Q i s Φ:=Zok k sl bl h h2 K
theorem xc {i:Nat} (f:FuncId) (args:List Value) (d:Nat) {α:Type} (sh:α→Value) (φ:α→World→Prop) (hC:∀ w,Fr S0 w0 w→Φ w→Calls P f args.toArray w (ZbA sh φ w)) (K:∀ x,SXi P N S0 w0 ops Q (i + 1) (s.put d (.v (sh x))) (fun w=>Φ w∧φ x w))
 (hsz:Nat.blt i ops.size=true:=by kernel_rfl) (h:ZcN P N ops (opAt ops i) s=some (f,args,d):=by kernel_rfl):SXi P N S0 w0 ops Q i s Φ:=Zmm f args d sh φ hsz h hC K
theorem xe {i:Nat} (K:SXq N S0 w0 (Q .normal) s Φ) (h:Nat.ble ops.size i=true:=by kernel_rfl):SXi P N S0 w0 ops Q i s Φ:=Zsb h K
theorem xf {n i:Nat} (k:Nat) (sl:SlL) (bl:BlL) (K:StI P N S0 w0 ops Φ0 Q n (i + k) (ofL sl bl) Φ) (h:ZfS P N ops k i s sl=some (sl.map (fun q=>some q.2),Zc9 bl):=by kernel_rfl) (hk:Nat.ble (i + k) n=true:=by kernel_rfl):StI P N S0 w0 ops Φ0 Q n i s Φ:=ZkV k sl bl h hk K
theorem xd {n i:Nat} (f:FuncId) (args:List Value) (d:Nat) {α:Type} [hα:Nonempty α] (sh:α→Value) (φ:α→World→Prop) (hC:∀ w,Fr S0 w0 w→Φ w→Calls P f args.toArray w (ZbA sh φ w)) (K:∀ x,StI P N S0 w0 ops Φ0 Q n (i + 1) (s.put d (.v (sh x))) (fun w=>Φ w∧φ x w))
 (hi:Nat.blt i n=true:=by kernel_rfl) (hm:cls (opAt ops i).op=2:=by kernel_rfl) (h:ZcN P N ops (opAt ops i) s=some (f,args,d):=by kernel_rfl):StI P N S0 w0 ops Φ0 Q n i s Φ:=Zmn f args d sh φ hi hm h hC K
theorem xz {n i:Nat} (K:SXi P N S0 w0 ops Q n s Φ) (h:Nat.ble n i=true:=by kernel_rfl):StI P N S0 w0 ops Φ0 Q n i s Φ:=Zse h K
theorem xa {c:Operand} {x y:Code} (h:SXc P N S0 w0 Q x s Φ) (hc:s.eval c=some (.v (.bool true)):=by kernel_rfl):SXc P N S0 w0 Q (.cond c x y) s Φ:=Zoo hc h
theorem xb {c:Operand} {x y:Code} (h:SXc P N S0 w0 Q y s Φ) (hc:s.eval c=some (.v (.bool false)):=by kernel_rfl):SXc P N S0 w0 Q (.cond c x y) s Φ:=Zop hc h
end
/-! ### states in short -/
abbrev vI2 (x:Bool) (A:Option Addr) (l c:Nat):Value:=.agg #[.bool x, .slice A l c]
abbrev vR4 (x:Bool) (A:Option Addr) (l c:Nat) (y:Bool) (B:Option Addr) (m d:Nat):Value:=.agg #[.bool x, .slice A l c, .bool y, .slice B m d]
abbrev eS1 (k:Nat) (A:Option Addr) (l c:Nat):Nat × AV:=(k, .v (.slice A l c))
abbrev eI2 (k:Nat) (x:Bool) (A:Option Addr) (l c:Nat):Nat × AV:=(k, .v (.agg #[.bool x, .slice A l c]))
end Go.Proofs.YtenchljfmfgeoaaGreatDoor
