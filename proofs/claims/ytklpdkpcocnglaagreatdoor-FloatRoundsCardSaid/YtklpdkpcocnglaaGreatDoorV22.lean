/-
 My texts Rn0, Ro, Rg, Nss, Rb, Rnd, Sx14 put together.
-/
import Derived.Test.YtklpdkpcocnglaaGreatDoorV17
import Derived.Test.YtklpdkpcocnglaaGreatDoorV07
import Derived.Test.YtklpdkpcocnglaaGreatDoorV16
import Derived.Test.YtklpdkpcocnglaaGreatDoorV18
set_option maxRecDepth 100000
namespace Go.Proofs.YtklpdkpcocnglaaGreatDoor
open Go.RowKit
theorem Zmd {xs:List Nat} {i x:Nat} (hd:Dig W32 xs) (hk:i / 32 < xs.length) (hx:xs[i / 32]?.getD 0=x):x / 2 ^ (i % 32) % 2=val W32 xs / 2 ^ i % 2:=by
 have h1:=ZlL xs (i / 32) (i % 32) hd (by omega)
 rw [show 32 * (i / 32) + i % 32=i by omega] at h1
 rw [← h1,ZaL _ hk,hx]
 have ht:i % 32 < 32:=Nat.mod_lt _ (by decide)
 generalize i % 32=t at *
 generalize val W32 (xs.drop (i / 32 + 1))=r
 have e:W32 * r=2 ^ t * (2 ^ (32 - t) * r):=by rw [← Nat.mul_assoc,← Nat.pow_add,show t + (32 - t)=32 by omega,Zaq]
 have h5:2 ^ (32 - t)=2 * 2 ^ (31 - t):=by rw [show 32 - t=(31 - t) + 1 by omega,Nat.pow_succ,Nat.mul_comm]
 rw [e,Nat.add_mul_div_left _ _ (p2 t),h5,Nat.mul_assoc,Nat.add_mul_mod_self_left]
theorem ZrW {n k:Nat} (h0:0 < n) (hk:k≤tzn n):n / 2 ^ k=oddM n * 2 ^ (tzn n - k):=by
 obtain ⟨h1,h2⟩:=Zdk h0
 have e:n=oddM n * 2 ^ (tzn n - k) * 2 ^ k:=by rw [Nat.mul_assoc,← Nat.pow_add,Nat.sub_add_cancel hk]; exact h2
 have:=congrArg (· / 2 ^ k) e
 simp only [Nat.mul_div_cancel _ (p2 k)] at this
 exact this
theorem Zt0 {n k:Nat} (h0:0 < n) (hk:k≤tzn n) (h:n / 2 ^ k % 2=0):k + 1≤tzn n:=by
 rcases Nat.lt_or_ge k (tzn n) with h1 | h1
 ·omega
 ·have:=Zdk h0
  rw [ZrW h0 hk,show tzn n - k=0 by omega,Nat.pow_zero,Nat.mul_one] at h
  omega
theorem Zt1 {n k:Nat} (h0:0 < n) (hk:k≤tzn n) (h:n / 2 ^ k % 2≠0):k=tzn n:=by
 rcases Nat.lt_or_ge k (tzn n) with h1 | h1
 ·rw [ZrW h0 hk,show tzn n - k=(tzn n - k - 1) + 1 by omega,Nat.pow_succ,← Nat.mul_assoc] at h
  omega
 ·omega
theorem ZrX {xs:List Nat} (hd:Dig W32 xs) (h0:0 < val W32 xs) {k:Nat} (hk:k≤tzn (val W32 xs)):k / 32 < xs.length:=by
 obtain ⟨h1,h2⟩:=Zdk h0
 have h3:=ZaQ hd
 refine Nat.lt_of_not_le fun hc=>?_
 have h4:2 ^ (32 * xs.length)≤2 ^ tzn (val W32 xs):=Nat.pow_le_pow_right (by decide) (by omega)
 have h5:1 * 2 ^ tzn (val W32 xs)≤oddM (val W32 xs) * 2 ^ tzn (val W32 xs):=Nat.mul_le_mul_right _ (by omega)
 have h6:W32 ^ xs.length=2 ^ (32 * xs.length):=by rw [show W32=2 ^ 32 by rw [Zaq],← Nat.pow_mul]
 omega
/-! ### the search for the exponent -/
theorem Zpx (n d bits:Nat):rndK n d bits=rk0 n d bits∨rndK n d bits=rk0 n d bits + 1:=by
 unfold rndK; split
 ·exact Or.inl rfl
 ·exact Or.inr rfl
theorem Zpy {n d bits:Nat} (hn:0 < n) (hd:0 < d) (hb:0 < bits) {k:Int} (hk:k=rk0 n d bits∨k=rndK n d bits) (h:bits < blen (fq n d k)):k + 1=rndK n d bits∧(rndK n d bits - k).toNat=1:=by
 have h2:=Zfn hn hd hb
 have hne:k≠rndK n d bits:=fun e=>by rw [e,h2] at h; omega
 have h0:k=rk0 n d bits:=hk.resolve_right hne
 rcases Zpx n d bits with e | e
 ·exact absurd (h0.trans e.symm) hne
 ·omega
theorem Zpz {n d bits:Nat} (hn:0 < n) (hd:0 < d) (hb:0 < bits) {k:Int} (hk:k=rk0 n d bits∨k=rndK n d bits) (h:¬ bits < blen (fq n d k)):k=rndK n d bits:=by
 rcases hk with e | e
 ·have h1:=(ZjE hn hd hb).1
  unfold rndK
  rw [e] at h
  rw [if_pos (by omega)]; exact e
 ·exact e
theorem Zt2 {n d bits:Nat} {k:Int} (hk:k=rk0 n d bits∨k=rndK n d bits):(blen n:Int) - blen d - bits≤k∧k≤(blen n:Int) - blen d - bits + 1:=by
 have h:=Zpx n d bits
 unfold rk0 at *
 omega
theorem ZuJ {n:Nat} {k:Int} (h:0≤k):fa n k=n:=by unfold fa; rw [show (-k).toNat=0 by omega]; simp
theorem ZuK {d:Nat} {k:Int} (h:¬ 0≤k):fb d k=d:=by unfold fb; rw [show k.toNat=0 by omega]; simp
/-! ### the nearest integer -/
theorem ZpA {a b:Nat} (h:0 < ((2 * (a % b):Nat):Int) - (b:Int)∨((2 * (a % b):Nat):Int) - (b:Int)=0∧a / b % 2=1):Zb0 a b=a / b + 1:=if_pos (by omega)
theorem Zlj {a b:Nat} (h:¬ (0 < ((2 * (a % b):Nat):Int) - (b:Int)∨((2 * (a % b):Nat):Int) - (b:Int)=0∧a / b % 2=1)):Zb0 a b=a / b:=if_neg (by omega)
/-! ### roots -/
end Go.Proofs.YtklpdkpcocnglaaGreatDoor

namespace Go.Proofs.YtklpdkpcocnglaaGreatDoor
open Go.RowKit
/-! ### Newton's step -/
theorem rw1 {k:Nat} (h:k≤100000):IntKind.i64.wrap ((k:Int) + 1)=((k + 1:Nat):Int):=by rw [IntKind.wrap_i64]; omega
end Go.Proofs.YtklpdkpcocnglaaGreatDoor

namespace Go.Proofs.YtklpdkpcocnglaaGreatDoor
open Go.RowKit
end Go.Proofs.YtklpdkpcocnglaaGreatDoor

namespace Go.Proofs.YtklpdkpcocnglaaGreatDoor
open Go.RowKit
end Go.Proofs.YtklpdkpcocnglaaGreatDoor

namespace Go.Proofs.YtklpdkpcocnglaaGreatDoor
open Go.RowKit
end Go.Proofs.YtklpdkpcocnglaaGreatDoor

namespace Go.Proofs.YtklpdkpcocnglaaGreatDoor
open Go.RowKit
theorem Zt3 (n:Nat):blen n≤32 * ml n:=by
 refine ZbH.2 ?_
 have:=Zg6 n
 rwa [ZeS] at this
section
variable {a b:Value} {x r k:Nat} {w:World}
theorem ZjR (ha:Zai w a ((x:Nat):Int)) (hb:Zai w b ((r:Nat):Int)) (hx:ml x≤100000) (hr:ml r≤100000) (h0:0 < r):Calls Tryz.prog 70 #[a,b] w (ZiM w ((x / r:Nat):Int) ((x % r:Nat):Int)):=by
 have h:=Zef a b x r w ha hb (nfit (mlc hx) (by decide)) (nfit (mlc hr) (by decide)) (by omega)
 rwa [← Int.ofNat_tdiv,← Int.ofNat_tmod] at h
theorem ZnW (ha:Zai w a ((x:Nat):Int)) (hb:Zai w b ((r:Nat):Int)) (hx:ml x≤100000) (hr:ml r≤100000):Calls Tryz.prog 77 #[a,b] w (Zba w ((x + r:Nat):Int)) :=
 ZfZ a b x r w ha hb (nfit (mlc hx) (by decide)) (nfit (mlc hr) (by decide))
end
inductive RootIs (p:Rat):ByteArray→Bool→Prop
 | neg (h:p.num < 0):RootIs p ⟨#[]⟩ false
 | no1 (n d:Nat) (h0:0≤p.num) (hn1:n * n≤p.num.natAbs) (hn2:p.num.natAbs < (n + 1) * (n + 1)) (hd1:d * d≤(p.den:Int).natAbs) (hd2:(p.den:Int).natAbs < (d + 1) * (d + 1)) (h:¬ n * n=p.num.natAbs):RootIs p ⟨#[]⟩ false
 | no2 (n d:Nat) (h0:0≤p.num) (hn1:n * n≤p.num.natAbs) (hn2:p.num.natAbs < (n + 1) * (n + 1)) (hd1:d * d≤(p.den:Int).natAbs) (hd2:(p.den:Int).natAbs < (d + 1) * (d + 1)) (hnn:n * n=p.num.natAbs) (h:¬ d * d=(p.den:Int).natAbs):RootIs p ⟨#[]⟩ false
 | yes (n d:Nat) (Q:Rat) (h0:0≤p.num) (hn1:n * n≤p.num.natAbs) (hn2:p.num.natAbs < (n + 1) * (n + 1)) (hd1:d * d≤(p.den:Int).natAbs) (hd2:(p.den:Int).natAbs < (d + 1) * (d + 1)) (hnn:n * n=p.num.natAbs) (hdd:d * d=(p.den:Int).natAbs) (hQn:Q.num=(n:Int)) (hQd:(Q.den:Int)=(d:Int)):RootIs p ⟨(ZaB Q).toArray⟩ true
end Go.Proofs.YtklpdkpcocnglaaGreatDoor

namespace Go.Proofs.YtklpdkpcocnglaaGreatDoor
open Go.RowKit
def ZmE (s:St) (o:Oper):Option (FuncId × Nat × List Value) :=
 match o.op with
 | .call c=>match c.callee with
   | .value fo=>match s.eval fo,c.args.toList with
     | some (.v (.func (.func f) first captured)),x :: l=>match s.eval x with
       | some (.p b 0)=>bif first.isEmpty && (captured.isEmpty && l.all s.vB) then some (f,b,l.map s.rho) else none
       | _=>none
     | _,_=>none
   | _=>none
 | _=>none
def ZjS (P:Program) (N:Nat) (ops:Array Oper) (o:Oper) (s:St):Option (FuncId × Nat × List Value × Nat) :=
 match s.wantB ops o,ZmE s o,o.dst with
 | some true,some q,some d=>bif ZdP P q.1 && Nat.blt d N then some (q.1,q.2.1,q.2.2,d) else none
 | _,_,_=>none
section
variable {N:Nat} {S0:Nat→Prop} {w0:World} {s:St} {Φ Ψ:World→Prop} {L:Nat→Nat} {a:Act} {w:World} {P:Program} {ops:Array Oper} {Q:Exit→Act→World→Prop}
theorem Zr1 (hi:Inv N S0 w0 s Φ L a w) {o:Oper} {f b:Nat} {vs:List Value} (h:ZmE s o=some (f,b,vs)) (hk:ZdP P f=true):(execOp a.eval o).run P w=.ok (.enter f (.pointer (some ⟨L b,0,none⟩) :: vs).toArray) w∧(s.bl b).isSome=true:=by
 unfold ZmE at h
 split at h
 ·rename_i c ho
  split at h
  ·rename_i fo hc
   split at h
   ·rename_i f' first captured x l hf hl
    split at h
    ·rename_i b' hx
     cases hq:(first.isEmpty && (captured.isEmpty && l.all s.vB)) with
     | false=>rw [hq] at h; cases h
     | true =>
       rw [hq] at h
       simp only [cond_true,Option.some.injEq,Prod.mk.injEq] at h
       simp only [Bool.and_eq_true] at hq
       obtain ⟨h1,h2,h3⟩:=h
       subst h1; subst h2; subst h3
       have e0:first=#[]:=Array.isEmpty_iff.1 hq.1
       have e0':captured=#[]:=Array.isEmpty_iff.1 hq.2.1
       subst e0; subst e0'
       have e1:a.eval fo=.func (.func f') #[] #[]:=hi.eval hf
       have e3:a.eval x=.pointer (some ⟨L b',0,none⟩):=hi.eval hx
       have e4:l.map a.eval=l.map s.rho:=List.map_congr_left (fun y hy=>hi.rho hq.2.2 hy)
       have e2:(#[] ++ c.args.map a.eval ++ #[]:Array Value)=(.pointer (some ⟨L b',0,none⟩) :: l.map s.rho).toArray:=by
        apply Array.toList_inj.1
        simp only [Array.toList_append,Array.toList_map,hl,List.map_cons,e3,e4,List.nil_append,List.append_nil]
       refine ⟨?_,hi.mem.evp hx⟩
       unfold ZdP at hk
       split at hk
       ·rename_i fn hfn
        rw [Bool.and_eq_true] at hk
        have n1 : (fn.name == "runtime.NumGoroutine") = false := by simpa using hk.1
        have n2:fn.body.isNone=false:=by simpa using hk.2
        simp only [execOp,ho,resolve,hc,e1,Deferred.ofValue,Sem.run_bind,Sem.run_pure,Result.andThen_ok,invoke,callFunc,run_program,hfn,n1,n2,Bool.false_eq_true,if_false,e2]
       ·cases hk
    ·cases h
   ·cases h
  ·cases h
 ·cases h
theorem Zmu {o:Oper} {f b d:Nat} {vs:List Value} (h:ZjS P N ops o s=some (f,b,vs,d)):s.wantB ops o=some true∧ZmE s o=some (f,b,vs)∧o.dst=some d∧ZdP P f=true∧d < N:=by
 unfold ZjS at h
 split at h
 ·rename_i q d' hw hq hd
  cases hb:(ZdP P q.1 && Nat.blt d' N) with
  | false=>rw [hb] at h; cases h
  | true =>
    rw [hb] at h
    simp only [cond_true,Option.some.injEq,Prod.mk.injEq] at h
    simp only [Bool.and_eq_true] at hb
    obtain ⟨h1,h2,h3,h4⟩:=h
    subst h1; subst h2; subst h3; subst h4
    exact ⟨hw,hq,hd,hb.1,Nat.le_of_ble_eq_true hb.2⟩
 ·cases h
theorem Inv.blkset (hi:Inv N S0 w0 s Φ L a w) {w':World} {b:Nat} {t:TypeId} {cs cs':List AV} (hb:s.bl b=some (t,cs)) (hf:Fr (fun i=>i=L b) w w') (hB:Blk t w' (L b) (cs'.map (AV.conc L)).toArray) (hc:∀ c,c ∈ cs'→Zb5 c=true∧c.al s) :
 Inv N S0 w0 { s with bl:=upd s.bl b (t,cs') } Φ L a w':=by
 have hbs:(s.bl b).isSome=true:=by rw [hb]; rfl
 have bne:∀ c,c≠b→(s.bl c).isSome=true→L c≠L b:=fun c hne hcs e=>hne (hi.mem.inj c b hcs hbs e)
 have some_of:∀ c,((upd s.bl b (t,cs')) c).isSome=true→(s.bl c).isSome=true:=fun c h'=>by
  by_cases e:c=b
  ·rw [e]; exact hbs
  ·rw [Za2 _ _ e] at h'; exact h'
 have to_some:∀ c,(s.bl c).isSome=true→((upd s.bl b (t,cs')) c).isSome=true:=fun c h'=>by
  by_cases e:c=b
  ·rw [e,Zbk]; rfl
  ·rw [Za2 _ _ e]; exact h'
 refine ⟨hi.size,hi.df,hi.sl,⟨fun c t' cs2 hc'=>?_,fun c d hc' hd' e=>hi.mem.inj c d (some_of c hc') (some_of d hd') e,fun c hc'=>hi.mem.old c (some_of c hc'),hi.mem.ext.next hf (fun i hi' e=>?_),fun i c off' h'=>to_some c (hi.mem.slp i c off' h'),fun c t' cs2 hc' x' hx'=>?_⟩,fun w2 hf2=>?_⟩
 ·by_cases e:c=b
  ·subst e
   simp only [Zbk,Option.some.injEq] at hc'
   injection hc' with e1 e2
   subst e1; subst e2
   exact hB
  ·simp only [Za2 _ _ e] at hc'
   exact (hi.mem.blk c t' cs2 hc').fr hf (bne c e (by rw [hc']; rfl))
 ·rcases hi.mem.old b hbs with h' | h'
  ·omega
  ·rw [e]; exact h'
 ·have key:Zb5 x'=true∧x'.al s:=by
   by_cases e:c=b
   ·subst e
    simp only [Zbk,Option.some.injEq] at hc'
    injection hc' with e1 e2
    subst e2
    exact hc x' hx'
   ·simp only [Za2 _ _ e] at hc'
    exact hi.mem.cel c t' cs2 hc' x' hx'
  exact ⟨key.1,fun d off' e=>to_some d (key.2 d off' e)⟩
 ·refine hi.box w2 ((hf.mono (fun i _ e=>⟨b,hbs,e.symm⟩)).trans (hf2.mono (fun i _ h'=>?_)))
  obtain ⟨c,hc',e⟩:=h'
  exact ⟨c,some_of c hc',e⟩
theorem ZsR {i d b:Nat} {t:TypeId} {cs:List AV} {α:Type} (f:FuncId) (vs:List Value) (sh:α→Value) (cs':α→List Value) (φ:α→World→Prop) (h:ZjS P N ops (opAt ops i) s=some (f,b,vs,d)) (hb:s.bl b=some (t,cs)) (hall:cs.all (fun c=>match c with | .v _=>true | _=>false)=true)
 (hC:∀ w g,Fr S0 w0 w→Φ w→Blk t w g (cs.map (AV.conc (fun _=>0))).toArray→Calls P f (.pointer (some ⟨g,0,none⟩) :: vs).toArray w (fun en w'=>∃ x,en=.returned (sh x)∧Fr (fun i=>i=g) w w'∧Blk t w' g (cs' x).toArray∧(∀ c,c ∈ cs' x→Zb5 (.v c)=true)∧BoxN w w' (φ x)))
 (K:∀ x,SXi P N S0 w0 ops Q (i + 1) ⟨upd s.sl d (.v (sh x)),upd s.bl b (t,(cs' x).map .v)⟩ (fun w=>Φ w∧φ x w)) (hsz:Nat.blt i ops.size=true:=by kernel_rfl):SXi P N S0 w0 ops Q i s Φ:=by
 obtain ⟨hw,hq,hd,hk,hN⟩:=Zmu h
 unfold SXi
 rw [Zc8 hsz]
 intro L a w hi
 refine wpList_step (fun K' hK=>?_)
 rw [if_pos (hi.want hw)]
 unfold Oper.wp
 obtain ⟨hrun,hbs⟩:=Zr1 hi hq hk
 rw [hrun,Oper.upon_enter]
 have ec:cs.map (AV.conc L)=cs.map (AV.conc (fun _=>0)):=List.map_congr_left (fun c hc=>by
  have:=List.all_eq_true.1 hall c hc
  cases c with
  | v x=>rfl
  | p b o=>cases this)
 have hB:=hi.mem.blk b t cs hb
 rw [ec] at hB
 refine Calls.mono (hC w (L b) hi.mem.ext hi.box.self hB) fun en w' h'=>?_
 obtain ⟨x,rfl,hF,hB2,hcb,hbx⟩:=h'
 simp only [hd]
 have h0:=hi.app0 (d:=d) hN (al_v (s:=s) (sh x))
 have h1:=h0.blkset (b:=b) (t:=t) (cs:=cs) (cs':=(cs' x).map .v) hb hF (by rw [List.map_map]; simpa [Function.comp_def,AV.conc] using hB2) (fun c hc=>by
  obtain ⟨v,hv,rfl⟩:=List.mem_map.1 hc
  exact ⟨hcb v hv,al_v _⟩)
 have h2:=hbx (s.own L) (fun i h=>hi.own_nrb h)
 have some_of:∀ c,((upd s.bl b (t,(cs' x).map .v)) c).isSome=true→(s.bl c).isSome=true:=fun c h'=>by
  by_cases e:c=b
  ·rw [e]; exact hbs
  ·rw [Za2 _ _ e] at h'; exact h'
 refine hK _ _ (K x L _ _ ⟨h1.size,h1.df,h1.sl,h1.mem,h1.box.and (fun w2 hf=>h2 w2 (hf.mono (fun i _ hi'=>?_)))⟩)
 obtain ⟨c,hc,e⟩:=hi'
 exact ⟨c,some_of c hc,e⟩
theorem Zf7 {i d b:Nat} {t:TypeId} {cs:Array Value} {α:Type} (f:FuncId) (args:List Value) (sh:α→Value) (cs':α→Array Value) (φ:α→World→Prop) (Ψ:World→Prop) (hO:∀ w,Φ w→Blk t w b cs) (hj:0 < cs.size) (hnew:w0.heap.size≤b∨S0 b)
 (hC:∀ w,Fr S0 w0 w→Φ w→Calls P f args.toArray w (fun en w'=>∃ x,en=.returned (sh x)∧Fr (fun i=>i=b) w w'∧Blk t w' b (cs' x)∧BoxN w w' (φ x)))
 (hΨ:∀ w w',Φ w→Fr (fun i=>i=b) w w'→Ψ w') (K:∀ x,SXi P N S0 w0 ops Q (i + 1) (s.put d (.v (sh x))) (fun w=>(Ψ w∧Blk t w b (cs' x))∧φ x w))
 (hsz:Nat.blt i ops.size=true:=by kernel_rfl) (h:Zc3 P N ops (opAt ops i) s=some (f,args,d):=by kernel_rfl):SXi P N S0 w0 ops Q i s Φ:=by
 obtain ⟨hw,hq,hd,hn,hv,hk,hN⟩:=ZdQ h
 unfold SXi
 rw [Zc8 hsz]
 intro L a w hi
 refine wpList_step (fun K' hK=>?_)
 rw [if_pos (hi.want hw)]
 unfold Oper.wp
 rw [hi.exec hn hv,Zgg hq hk,Oper.upon_enter]
 refine Calls.mono (hC w hi.mem.ext hi.box.self) fun en w' h'=>?_
 obtain ⟨x,rfl,hF,hB2,hbx⟩:=h'
 simp only [hd]
 have h0:=hi.app0 (d:=d) hN (al_v (s:=s) (sh x))
 have h1:=h0.eff (Ψ:=fun w=>Ψ w∧Blk t w b (cs' x)) hF (hi.notOwn (c:=cs[0]'hj) (j:=0) (fun w R=>by have:=(hO w R).cell 0; rw [this]; simp [hj])) hnew (hO w hi.box.self).lt (fun w1 w2 k1 k2 k3=>⟨hΨ w1 w2 k1 k2,k3.trans hB2⟩)
 exact hK _ _ (K x L _ _ ⟨h1.size,h1.df,h1.sl,h1.mem,h1.box.and (hbx _ (fun i h=>hi.own_nrb h))⟩)
end
end Go.Proofs.YtklpdkpcocnglaaGreatDoor
