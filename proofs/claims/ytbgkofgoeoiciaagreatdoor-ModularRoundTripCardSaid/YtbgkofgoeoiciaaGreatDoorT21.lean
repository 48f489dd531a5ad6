/-
 My texts RtB, RtQ, Sx11 put together.
-/
import Derived.Test.YtbgkofgoeoiciaaGreatDoorT20
import Derived.Test.YtbgkofgoeoiciaaGreatDoorT19
import Derived.Test.YtbgkofgoeoiciaaGreatDoorT17
namespace Go.Proofs.YtbgkofgoeoiciaaGreatDoor
open Go.RowKit
def ints (xs:List Nat):List Int:=xs.map fun x:Nat=>(x:Int)
theorem ints_length (xs:List Nat):(ints xs).length=xs.length:=by simp [ints]
theorem ints_at' (xs:List Nat) (i:Nat):(ints xs).getD i 0=((xs[i]?.getD 0:Nat):Int):=by
 rw [List.getD_eq_getElem?_getD,ints,List.getElem?_map]
 cases xs[i]? <;> rfl
theorem Shows.ints {w:World} {A:Option Addr} {xs:List Nat} (h:Shows .i64 w A xs):IShows w A (ints xs):=fun hne=>by
 obtain ⟨b,off,rfl,hb,hc⟩:=h (by intro e; subst e; exact hne rfl)
 refine ⟨b,off,rfl,hb,fun i hi=>?_⟩
 rw [ints_length] at hi
 rw [hc i hi,ints_at']
def Found (xs:List Nat) (p:Int):Prop:=(∀ x ∈ xs,Pr (x:Int)∧(x:Int)≤p)∧xs.Nodup
theorem Found.start (p:Int):Found [] p:=⟨fun x hx=>by simp at hx,by simp⟩
theorem Found.next {xs:List Nat} {p:Int} {q:Nat} (h:Found xs p) (hq:Pr (q:Int)) (hlt:p < (q:Int)):Found (xs ++ [q]) (q:Int):=by
 refine ⟨fun x hx=>?_,?_⟩
 ·rcases List.mem_append.1 hx with k | k
  ·have:=h.1 x k; exact ⟨this.1,by omega⟩
  ·simp at k; subst k; exact ⟨hq,by omega⟩
 ·rw [List.nodup_append]
  refine ⟨h.2,by simp,fun a ha b hb e=>?_⟩
  simp at hb; subst hb; subst e
  have:=(h.1 a ha).2; omega
theorem Found.all {xs:List Nat} {p:Int} (h:Found xs p):(∀ x ∈ ints xs,Pr x)∧(ints xs).Nodup∧Int64s (ints xs):=by
 have h1:∀ x ∈ ints xs,Pr x:=fun x hx=>by
  obtain ⟨n,hn,rfl⟩:=List.mem_map.1 hx
  exact (h.1 n hn).1
 refine ⟨h1,?_,fun z hz=>?_⟩
 ·unfold ints
  exact List.pairwise_map.2 (h.2.imp (fun hne e=>hne (by omega)))
 ·have h2:=h1 z hz
  have:=h2.1; have:=h2.2.1; omega
theorem NpIs.below {n p k:Int} {ok:Bool} (h:NpIs n p ok) (hk:Pr k) (hlt:n < k):ok=true∧Pr p∧n < p∧p≤k:=by
 rcases h with ⟨rfl,h1,h2,h3⟩ | ⟨rfl,rfl,h1⟩
 ·refine ⟨rfl,h1,h2,?_⟩
  rcases Int.lt_or_le k p with h4 | h4
  ·exact absurd hk (h3 k hlt h4)
  ·exact h4
 ·exact absurd hk (h1 k hlt)
end Go.Proofs.YtbgkofgoeoiciaaGreatDoor

namespace Go.Proofs.YtbgkofgoeoiciaaGreatDoor
open Go.RowKit
def kqN:List Nat:=[2000003,2000029,2000039,2000081,2000083,2000093,2000107,2000113,2000143,2000147,2000153,2000177,2000209,2000221,2000227,2000249,2000261,2000269,2000281,2000291,2000293,2000303,2000309,2000321,2000329,2000351,2000353,2000371,2000381,2000387,2000389,2000393,2000413,2000417,2000423,2000429]
def kq (i:Nat):Int:=((kqN.getD i 0:Nat):Int)
theorem pr_big {n:Nat} (h2:2≤n) (hm:n < 4202500) (h:noDivN n 11 2=true):Pr (n:Int):=by
 refine ⟨by omega,by omega,fun d h1 h3 h4=>?_⟩
 obtain ⟨D,rfl⟩:=Int.eq_ofNat_of_zero_le (show 0≤d by omega)
 have hD:D < 2050:=by
  rcases Nat.lt_or_ge D 2050 with k | k
  ·exact k
  ·have h5:2050 * 2050≤D * D:=Nat.mul_le_mul k k
   rw [← Int.natCast_mul] at h3
   omega
 have h6:=noDivN_spec n 11 2 h D (by omega) (by omega)
 rw [← Int.natCast_emod] at h4
 omega
theorem kq_pr {i:Nat} (h:i < 36):Pr (kq i):=by
 have h1:(kqN.all fun n=>noDivN n 11 2 && decide (2≤n) && decide (n < 4202500))=true:=by decide +kernel
 have h2:=List.all_eq_true.1 h1 (kqN.getD i 0) (by rw [List.getD_eq_getElem?_getD,List.getElem?_eq_getElem (show i < kqN.length from h)]; exact List.getElem_mem _)
 simp only [Bool.and_eq_true,decide_eq_true_eq] at h2
 exact pr_big h2.1.2 h2.2 h2.1.1
theorem kq_next {i:Nat} (h:i < 35):kq i < kq (i + 1):=by
 have key:((List.range 35).all fun i=>decide (kq i < kq (i + 1)))=true:=by decide
 exact of_decide_eq_true (List.all_eq_true.1 key i (List.mem_range.2 h))
theorem kq_bound {i:Nat} (h:i < 36):kq i≤2000429:=by
 have key:((List.range 36).all fun i=>decide (kq i≤2000429))=true:=by decide
 exact of_decide_eq_true (List.all_eq_true.1 key i (List.mem_range.2 h))
def prodN:List Nat→Nat
 | []=>1
 | y :: ys=>y * prodN ys
theorem prodN_snoc:∀ (ys:List Nat) (q:Nat),prodN (ys ++ [q])=prodN ys * q
 | [],q=>by simp [prodN]
 | y :: ys,q=>by simp only [List.cons_append,prodN,prodN_snoc ys q,Nat.mul_assoc]
theorem prodN_big:∀ (ys:List Nat),(∀ y ∈ ys,1000000≤y)→1000000 ^ ys.length≤prodN ys
 | [],_=>by simp [prodN]
 | y :: ys,h=>by
   have h1:=prodN_big ys (fun z hz=>h z (List.mem_cons_of_mem _ hz))
   have h2:=h y (List.mem_cons_self ..)
   simp only [List.length_cons,prodN,Nat.pow_succ]
   rw [Nat.mul_comm]
   exact Nat.mul_le_mul h2 h1
theorem foldl_two:∀ (rs:List Int) (ys:List Nat) (s:Int × Int),rs.length=ys.length→((rs.zip (ints ys)).foldl crtStep s).2=s.2 * (prodN ys:Int)
 | [],[],s,_=>by simp [prodN]
 | r :: rs,y :: ys,s,h=>by
   have ih:=foldl_two rs ys (crtStep s (r,(y:Int))) (by simpa using h)
   show ((rs.zip (ints ys)).foldl crtStep (crtStep s (r,(y:Int)))).2=_
   rw [ih]
   show s.2 * (y:Int) * (prodN ys:Int)=s.2 * ((y * prodN ys:Nat):Int)
   rw [Int.natCast_mul,Int.mul_assoc]
theorem crt_prod {rs:List Int} {ys:List Nat} (hl:rs.length=ys.length):(crt (rs.zip (ints ys))).2=(prodN ys:Int):=by
 unfold crt; rw [foldl_two rs ys (0,1) hl]; show (1:Int) * _=_; rw [Int.one_mul]
theorem cop_prod {q:Nat} (hq:Pr (q:Int)):∀ (ys:List Nat),(∀ y ∈ ys,Pr (y:Int)∧y≠q)→Nat.Coprime q (prodN ys)
 | [],_=>Nat.coprime_one_right q
 | y :: ys,h=>by
   have h1:=h y (List.mem_cons_self ..)
   exact (pr_coprime hq h1.1 (fun e=>h1.2 e.symm)).mul_right (cop_prod hq ys (fun z hz=>h z (List.mem_cons_of_mem _ hz)))
theorem prod_dvd:∀ (ys:List Nat) (z:Nat),(∀ y ∈ ys,Pr (y:Int))→ys.Nodup→(∀ y ∈ ys,y ∣ z)→prodN ys ∣ z
 | [],z,_,_,_=>Nat.one_dvd z
 | y :: ys,z,h,hn,hd=>by
   rw [List.nodup_cons] at hn
   have h1:=h y (List.mem_cons_self ..)
   refine Nat.Coprime.mul_dvd_of_dvd_of_dvd ?_ (hd y (List.mem_cons_self ..)) (prod_dvd ys z (fun x hx=>h x (List.mem_cons_of_mem _ hx)) hn.2 (fun x hx=>hd x (List.mem_cons_of_mem _ hx)))
   exact cop_prod h1 ys (fun x hx=>⟨h x (List.mem_cons_of_mem _ hx),fun e=>hn.1 (e ▸ hx)⟩)
theorem dvd_prod:∀ (ys:List Nat) (y:Nat),y ∈ ys→y ∣ prodN ys
 | [],_,h=>by simp at h
 | x :: ys,y,h=>by
   rcases List.mem_cons.1 h with rfl | h
   ·exact Nat.dvd_mul_right _ _
   ·exact Nat.dvd_mul_left_of_dvd (dvd_prod ys y h) _
theorem cop_all {d:Nat}:∀ (ys:List Nat),(∀ y ∈ ys,Nat.Coprime d y)→Nat.Coprime d (prodN ys)
 | [],_=>Nat.coprime_one_right d
 | y :: ys,h=>(h y (List.mem_cons_self ..)).mul_right (cop_all ys (fun z hz=>h z (List.mem_cons_of_mem _ hz)))
structure RtS (n:Int) (d i:Nat) (p:Int) (xs ys:List Nat):Prop where
 len:xs.length=ys.length
 lo:1000000≤p
 fnd:Found ys p
 big:∀ y ∈ ys,1000000≤y
 res:∀ x y,(x,y) ∈ xs.zip ys→((n - (d:Int) * (x:Int)) % (y:Int)=0)
 cop:∀ y ∈ ys,¬ y ∣ d
 skp:∃ S e j:Nat,d=S * e∧1000000 ^ j≤S∧i=ys.length + j∧∀ r:Nat,Pr (r:Int)→p < (r:Int)→Nat.Coprime r S
section
variable {n:Int} {d i:Nat} {p:Int} {xs ys:List Nat} {q x:Nat}
theorem RtS.start (hp:1000000≤p):RtS n d 0 p [] [] :=
 ⟨rfl,hp,Found.start p,fun y hy=>by simp at hy,fun x y h=>by simp at h,fun y hy=>by simp at hy,1,d,0,by omega,by decide,rfl,fun r _ _=>Nat.coprime_one_right r⟩
theorem RtS.take (h:RtS n d i p xs ys) (hq:Pr (q:Int)) (hlt:p < (q:Int)) (hr:(n - (d:Int) * (x:Int)) % (q:Int)=0) (hd:¬ q ∣ d):RtS n d (i + 1) (q:Int) (xs ++ [x]) (ys ++ [q]):=by
 obtain ⟨S,e,j,h1,h2,h3,h4⟩:=h.skp
 have hlo:=h.lo
 refine ⟨by simp [h.len],by omega,h.fnd.next hq hlt,fun y hy=>?_,fun a b hab=>?_,fun y hy=>?_,S,e,j,h1,h2,by simp; omega,fun r hr h5=>h4 r hr (by omega)⟩
 ·rcases List.mem_append.1 hy with k | k
  ·exact h.big y k
  ·simp at k; subst k; omega
 ·rw [List.zip_append h.len] at hab
  rcases List.mem_append.1 hab with k | k
  ·exact h.res a b k
  ·simp at k; obtain ⟨rfl,rfl⟩:=k; exact hr
 ·rcases List.mem_append.1 hy with k | k
  ·exact h.cop y k
  ·simp at k; subst k; exact hd
theorem RtS.skip (h:RtS n d i p xs ys) (hq:Pr (q:Int)) (hlt:p < (q:Int)) (hd:q ∣ d):RtS n d (i + 1) (q:Int) xs ys:=by
 obtain ⟨S,e,j,h1,h2,h3,h4⟩:=h.skp
 have hlo:=h.lo
 have hqe:q ∣ e:=(h4 q hq hlt).dvd_of_dvd_mul_left (h1 ▸ hd)
 obtain ⟨f,rfl⟩:=hqe
 refine ⟨h.len,by omega,⟨fun x hx=>⟨(h.fnd.1 x hx).1,by have:=(h.fnd.1 x hx).2; omega⟩,h.fnd.2⟩,h.big,h.res,h.cop,S * q,f,j + 1,by rw [h1,Nat.mul_assoc],?_,by omega,fun r hr h5=>?_⟩
 ·rw [Nat.pow_succ]; exact Nat.mul_le_mul h2 (by omega)
 ·exact (h4 r hr (by omega)).mul_right (pr_coprime hr hq (by omega))
theorem RtS.count (h:RtS n d i p xs ys) (hB:prodN ys≤2 * 10 ^ 120) (h0:0 < d) (hd:d < 10 ^ 60):i≤29∧ys.length≤20:=by
 obtain ⟨S,e,j,h1,h2,h3,h4⟩:=h.skp
 have k1:ys.length≤20:=by
  refine Decidable.byContradiction fun hc=>?_
  have a1:1000000 ^ 21≤1000000 ^ ys.length:=Nat.pow_le_pow_right (by decide) (by omega)
  have a2:=prodN_big ys h.big
  have a3:2 * 10 ^ 120 < 1000000 ^ 21:=by decide
  omega
 have k2:j≤9:=by
  refine Decidable.byContradiction fun hc=>?_
  have a1:1000000 ^ 10≤1000000 ^ j:=Nat.pow_le_pow_right (by decide) (by omega)
  have a3:10 ^ 60≤1000000 ^ 10:=by decide
  have a4:S≤d:=by
   rw [h1]; refine Nat.le_mul_of_pos_right _ (Nat.pos_of_ne_zero fun e0=>?_)
   subst e0; omega
  omega
 omega
theorem RtS.prime (h:RtS n d i p xs ys):∀ y ∈ ys,Pr (y:Int):=fun y hy=>(h.fnd.1 y hy).1
theorem mem_zip_left:∀ (xs ys:List Nat),xs.length=ys.length→∀ y ∈ ys,∃ k,k < ys.length∧ys[k]? = some y∧∃ x,xs[k]? = some x∧(x,y) ∈ xs.zip ys
 | [],[],_,y,h=>by simp at h
 | x :: xs,z :: ys,hl,y,h=>by
   rcases List.mem_cons.1 h with rfl | h
   ·exact ⟨0,by simp,by simp,x,by simp,by simp⟩
   ·obtain ⟨k,h1,h2,x',h3,h4⟩:=mem_zip_left xs ys (by simpa using hl) y h
    exact ⟨k + 1,by simp; omega,by simpa using h2,x',by simpa using h3,by simp [h4]⟩
theorem RtS.done (h:RtS n d i p xs ys) {v:Int} (h0:0 < d) (hg:Int.gcd n (d:Int)=1) (hn:n * n * 2 < (prodN ys:Int)) (hd:(d:Int) * (d:Int) * 2 < (prodN ys:Int)) (hv:∀ k,k < ys.length→v % (ints ys).getD k 0=(ints xs).getD k 0 % (ints ys).getD k 0) :
 RecIs v (prodN ys:Int) (Rat.divInt n (d:Int)) true:=by
 have hd1:(1:Int)≤(d:Int) * (d:Int):=by
  have:(1:Int) * 1≤(d:Int) * (d:Int):=Int.mul_le_mul (by omega) (by omega) (by omega) (by omega)
  omega
 have hm:(2:Int)≤(prodN ys:Int):=by omega
 refine rec_finds hm hg ?_ hn hd ?_
 ·show Nat.gcd d (prodN ys)=1
  refine cop_all ys (fun y hy=>?_)
  have hp:=h.prime y hy
  have hc:=h.cop y hy
  obtain ⟨g,hgg⟩:∃ g,Nat.gcd d y=g:=⟨_,rfl⟩
  have h1:g ∣ d:=hgg ▸ Nat.gcd_dvd_left d y
  have h2:g ∣ y:=hgg ▸ Nat.gcd_dvd_right d y
  have hg0:g≠0:=fun e=>by subst e; have:=Nat.eq_zero_of_zero_dvd h1; omega
  rcases (by omega:g=1∨2≤g) with e | e
  ·rw [Nat.Coprime,hgg,e]
  ·exfalso
   have k2:=hp.divisor (d:=(g:Int)) (by omega) (by rw [← Int.natCast_emod,Nat.mod_eq_zero_of_dvd h2]; rfl)
   have:g=y:=by omega
   subst this; exact hc h1
 ·have key:prodN ys ∣ (n - (d:Int) * (v % (prodN ys:Int))).natAbs:=by
   refine prod_dvd ys _ h.prime h.fnd.2 (fun y hy=>?_)
   obtain ⟨k,hk,hy2,x,hx2,hz⟩:=mem_zip_left xs ys h.len y hy
   have h1:=h.res x y hz
   have h2:=hv k hk
   rw [ints_at',ints_at',hy2,hx2] at h2
   simp only [Option.getD_some] at h2
   have hyp:(0:Int) < (y:Int):=by have:=(h.prime y hy).1; omega
   have hym:(y:Int) ∣ (prodN ys:Int):=Int.natCast_dvd_natCast.2 (dvd_prod ys y hy)
   have h3:v % (prodN ys:Int) % (y:Int)=v % (y:Int):=Int.emod_emod_of_dvd _ hym
   refine Int.ofNat_dvd_left.1 ?_
   have h4:(y:Int) ∣ v % (prodN ys:Int) - (x:Int):=by
    refine Int.dvd_of_emod_eq_zero ?_
    rw [Int.sub_emod,h3,h2]; simp
   have h5:(y:Int) ∣ n - (d:Int) * (x:Int):=Int.dvd_of_emod_eq_zero h1
   obtain ⟨u,hu⟩:=h4
   obtain ⟨t,ht⟩:=h5
   refine ⟨t - (d:Int) * u,?_⟩
   have e:v % (prodN ys:Int)=(x:Int) + (y:Int) * u:=by omega
   rw [e]; grind
  exact Int.ofNat_dvd_left.2 key
end
end Go.Proofs.YtbgkofgoeoiciaaGreatDoor

namespace Go.Proofs.YtbgkofgoeoiciaaGreatDoor
open Go.RowKit
section
variable {N:Nat} {S0:Nat→Prop} {w0:World} {s:St} {Φ:World→Prop} {L:Nat→Nat} {a:Act} {w:World} {P:Program} {ops:Array Oper} {Q:Exit→Act→World→Prop}
theorem sx_own0 {i d:Nat} {α:Type} (sh:α→Value) (Ψ:α→World→Prop) (hsz:Nat.blt i ops.size=true) (hw:s.wantB ops (opAt ops i)=some true) (hn:noSel (opAt ops i).op=true) (hv:(opAt ops i).op.operands.toList.all s.vB=true) (hd:(opAt ops i).dst=some d) (hN:Nat.blt d N=true) (hb:∀ b,s.bl b=none)
 (hdo:∀ w,Fr S0 w0 w→Φ w→∃ x w',(execOp s.rho (opAt ops i)).run P w=.ok (.value (sh x)) w'∧Fr S0 w0 w'∧∀ w'',Ext w' w''→Ψ x w'')
 (K:∀ x,SXi P N S0 w0 ops Q (i + 1) (s.put d (.v (sh x))) (Ψ x)):SXi P N S0 w0 ops Q i s Φ:=by
 unfold SXi
 rw [drop_opAt hsz]
 intro L a w hi
 refine wpList_step (fun K' hK=>?_)
 rw [if_pos (hi.want hw)]
 unfold Oper.wp
 rw [hi.exec hn hv]
 obtain ⟨x,w',hr,hE,hΨ⟩:=hdo w hi.mem.ext hi.box.self
 rw [hr,Oper.upon_value,hd]
 have h0:=hi.app0 (d:=d) (Nat.le_of_ble_eq_true hN) (al_v (s:=s) (sh x))
 have hb':∀ b,(s.app d (.v (sh x),none)).bl b=none:=hb
 refine hK _ _ (K x L _ _ ⟨h0.size,h0.df,h0.sl,⟨fun b t cs e=>?_,h0.mem.inj,fun b e=>?_,hE,h0.mem.slp,h0.mem.cel⟩,fun w'' hF=>hΨ w'' (hF.mono fun i _ hi=>?_)⟩)
 ·have e':some (t,cs)=none:=e.symm.trans (hb' b); cases e'
 ·have e':=e; rw [show (s.put d (.v (sh x))).bl b=none from hb' b] at e'; cases e'
 ·obtain ⟨b,h1,_⟩:=hi
  rw [show (s.put d (.v (sh x))).bl b=none from hb' b] at h1; cases h1
end
structure IB2 (w0 w:World) (A1:Option Addr) (c1:Nat) (xs:List Nat) (A2:Option Addr) (c2:Nat) (ys:List Nat):Prop where
 b1:Buf .i64 3 w A1 c1 xs
 b2:Buf .i64 3 w A2 c2 ys
 n1:∀ b,AtBlock A1 b→w0.heap.size≤b
 n2:∀ b,AtBlock A2 b→w0.heap.size≤b
 dj:∀ b,AtBlock A1 b→¬ AtBlock A2 b
theorem IB2.nil (w0 w:World):IB2 w0 w none 0 [] none 0 []:=⟨Buf.nil,Buf.nil,fun b h=>(noneB b h).elim,fun b h=>(noneB b h).elim,fun b h=>(noneB b h).elim⟩
theorem IB2.ext {w0 w w':World} {A1 A2:Option Addr} {c1 c2:Nat} {xs ys:List Nat} (h:IB2 w0 w A1 c1 xs A2 c2 ys) (hE:Ext w w'):IB2 w0 w' A1 c1 xs A2 c2 ys:=⟨h.b1.ext hE,h.b2.ext hE,h.n1,h.n2,h.dj⟩
theorem IB2.swap {w0 w:World} {A1 A2:Option Addr} {c1 c2:Nat} {xs ys:List Nat} (h:IB2 w0 w A1 c1 xs A2 c2 ys):IB2 w0 w A2 c2 ys A1 c1 xs:=⟨h.b2,h.b1,h.n2,h.n1,fun b h2 h1=>h.dj b h1 h2⟩
theorem IB2.grow {w0 w w':World} {A1 A2 A1':Option Addr} {c1 c2 c1':Nat} {xs ys zs:List Nat} (h:IB2 w0 w A1 c1 xs A2 c2 ys) (hE:Ext w0 w) (hB:Buf .i64 3 w' A1' c1' zs) (hF:Fr (AtBlock A1) w w') (hA:∀ b,AtBlock A1' b→AtBlock A1 b∨b=w.heap.size):IB2 w0 w' A1' c1' zs A2 c2 ys:=by
 refine ⟨hB,h.b2.fr hF (fun b h2 h1=>h.dj b h1 h2),fun b hb=>?_,h.n2,fun b hb h2=>?_⟩
 ·rcases hA b hb with k | k
  ·exact h.n1 b k
  ·have:=hE.size; omega
 ·rcases hA b hb with k | k
  ·exact h.dj b k h2
  ·have:=h.b2.lt h2; omega
theorem shows_one {w:World} {e:TypeId} {b x:Nat} (h:Blk e w b #[.int .i64 ((x:Nat):Int)]):Shows .i64 w (some ⟨b,0,none⟩) [x]:=fun _ =>
 ⟨b,0,rfl,h.lt,fun i hi=>by
  have:i=0:=by simp at hi; omega
  subst this
  rw [show (0:Nat) + 0=0 from rfl,h.cell]; rfl⟩
theorem app_run {P:Program} {o:Oper} {ρ:Operand→Value} {w0 w:World} {x y:Operand} {t:TypeId} (ho:o.op=.call { callee:=.builtin .append,args:=#[x,y],argTypes:=#[t,t] }) (ht:P.underlying t=some (.slice 3))
 (hinfo:(P.info? 3).map (fun i=>(i.zero,i.size,i.bytes))=some (some (.int .i64 0),1,8)) {A1 A2:Option Addr} {n c1 c2 b q:Nat} {xs ys:List Nat} (hx:ρ x=.slice A1 n c1) (hy:ρ y=.slice (some ⟨b,0,none⟩) 1 1) (hn:xs.length=n) (hlim:n≤1000)
 (hE:Ext w0 w) (hI:IB2 w0 w A1 c1 xs A2 c2 ys) (hq:Shows .i64 w (some ⟨b,0,none⟩) [q]) :
 ∃ (z:Option Addr × Nat) (w':World),(execOp ρ o).run P w=.ok (.value (.slice z.1 (n + 1) z.2)) w'∧Ext w0 w'∧∀ w'',Ext w' w''→IB2 w0 w'' z.1 z.2 (xs ++ [q]) A2 c2 ys:=by
 obtain ⟨A',cap',w',hrun,h2,h3,h4⟩:=run_append_words (P:=P) w t o.type 3 .i64 8 ht hinfo A1 (some ⟨b,0,none⟩) n 1 c1 1 xs [q] hn rfl hI.b1 hq (by simp only [maxLen]; omega) (by omega)
 refine ⟨(A',cap'),w',?_,hE.next h3 (fun j hj hb=>by have:=hI.n1 j hb; omega),fun w'' hw=>(hI.grow hE h2 h3 h4).ext hw⟩
 simp only [execOp,ho,resolve,invoke,builtin,Sem.run_bind,Sem.run_pure,Result.andThen_ok,List.map_toArray,List.map_cons,List.map_nil,hx,hy,hrun]
end Go.Proofs.YtbgkofgoeoiciaaGreatDoor
