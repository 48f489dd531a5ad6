/-
 My texts Ro, Rg, Rb put together.
-/
import Derived.Test.YthlipnahcbcjkaaGreatDoorM16
import Derived.Test.YthlipnahcbcjkaaGreatDoorM17
import Derived.Test.YthlipnahcbcjkaaGreatDoorM20
import Derived.Test.YthlipnahcbcjkaaGreatDoorM19
import Derived.Test.YthlipnahcbcjkaaGreatDoorM07
set_option maxRecDepth 100000
namespace Go.Proofs.YthlipnahcbcjkaaGreatDoor
open Go.RowKit
theorem ZnK {ys:List Nat} {t k:Nat} (hd:Dig W64 (ys ++ [t])) (hk:t < 2 ^ k):val W64 (ys ++ [t]) < 2 ^ (64 * ys.length + k):=by
 have h1:val W64 ys < W64 ^ ys.length:=ZaX (fun x hx=>hd x (List.mem_append_left _ hx))
 rw [Za6]
 have h2:W64 ^ ys.length=2 ^ (64 * ys.length):=by rw [Zai,show (18446744073709551616:Nat)=2 ^ 64 from rfl,← Nat.pow_mul]
 have h3:val W64 [t]=t:=by simp
 rw [h3,Nat.pow_add,← h2]
 have h4:W64 ^ ys.length * (t + 1)≤W64 ^ ys.length * 2 ^ k:=Nat.mul_le_mul_left _ hk
 rw [Nat.mul_add,Nat.mul_one] at h4
 omega
set_option maxHeartbeats 1000000 in
theorem Zmu (a:Value) (n:Nat) (w:World) (ha:Zak w a n) (h0:0 < n) (hl:wl n≤1000) :
 Calls Tryz.prog 173 #[a] w (fun e w'=>∃ k:Nat,e=.returned (.int .i64 (k:Int))∧n < 2 ^ k∧k≤64 * wl n∧Ext w w'):=by
 obtain ⟨A,xs,c,rfl,hc,h1,h2,h3,h4⟩:=ha
 have hlen:=ZaU h2 h3
 rw [h4] at hlen
 have hne:xs≠[]:=fun e=>by subst e; simp at h4; omega
 obtain ⟨ys,t,rfl⟩:∃ ys t,xs=ys ++ [t]:=⟨xs.dropLast,xs.getLast hne,(List.dropLast_concat_getLast hne).symm⟩
 obtain ⟨b,o,rfl,hb,hcell⟩:=h1.at (i:=ys.length) (by simp)
 have ht:t < W64:=h2 t (List.mem_append_right _ List.mem_cons_self)
 simp at hcell
 rw [Zai] at ht
 obtain ⟨k,hk,hk64,hk1⟩:=Zpo ht
 have hkt:t < 2 ^ k:=by
  rw [Nat.shiftRight_eq_div_pow] at hk1
  exact (Nat.div_eq_zero_iff_lt (Nat.pow_pos (by omega))).1 hk1
 have HB:=zh (ZnK h2 hkt)
 rw [h4] at HB
 have hys:ys.length < 1000:=by simp at hlen; omega
 have HW:=zh hlen
 rw [List.length_append,List.length_singleton] at HW
 generalize hyl:ys.length=L at *
 have hxl:(ys ++ [t]).length=L + 1:=by simp [hyl]
 rw [hxl]
 clear h1 h2 h3 h4 hc hlen hne hxl hk1 hkt
 have e1:(((L + 1:Nat):Int) == 0)=false:=by simp; omega
 have e2:IntKind.i64.wrap (((L + 1:Nat):Int) - 1)=(L:Int):=by rw [IntKind.wrap_i64]; omega
 have e3:IntKind.i64.wrap (64 * (L:Int))=((64 * L:Nat):Int):=by rw [IntKind.wrap_i64]; omega
 have e4:IntKind.i64.wrap (((64 * L:Nat):Int) + (k:Int))=((64 * L + k:Nat):Int):=by rw [IntKind.wrap_i64]; omega
 have HL:Hid (∀ W:World,Calls Tryz.prog 235 #[.int .u64 (t:Int)] W fun e w'=>e=.returned (.int .i64 (k:Int))∧w'=W):=fun W=>by
  have:=Tryz.bits_Len64 (t:Int) W (by omega) (by omega)
  rwa [Int.toNat_natCast,hk] at this
 have HK:=zh hk64
 have HY:=zh hys
 clear hk ht hk64 h0 hl
 go_enter Tryz.func173,Tryz.ntmps173
 go_wp2_with fail
 refine (HL.out _).mono ?_
 rintro e w' ⟨rfl,rfl⟩
 go_wp2
 go_ret
 have hw:wrap64 (64 * (L:Int) + (k:Int))=((64 * L + k:Nat):Int):=by
  have:=HK.out; have:=HY.out
  unfold wrap64; omega
 exact ⟨64 * L + k,by rw [← hw]; rfl,HB.out,by have:=HK.out; have:=HW.out; omega,Fr.refl _ _⟩
/-! ### Newton's step -/
theorem ZiK {x r:Nat} (hr0:0 < r) (hx:0 < x):x < ((r + x / r) / 2 ^ 1 + 1) * ((r + x / r) / 2 ^ 1 + 1)∧0 < (r + x / r) / 2 ^ 1:=by
 obtain ⟨q,hq⟩:∃ q,x / r=q:=⟨_,rfl⟩
 have h1:=Nat.div_add_mod x r
 have h2:=Nat.mod_lt x hr0
 rw [hq] at h1 ⊢
 obtain ⟨m,hm⟩:∃ m,(r + q) / 2 ^ 1=m:=⟨_,rfl⟩
 rw [hm]
 have hm2:r + q≤2 * m + 1:=by omega
 have hlt:x < r * (q + 1):=by rw [Nat.mul_add,Nat.mul_one]; omega
 have h4:4 * (r * (q + 1))≤(r + q + 1) * (r + q + 1):=by
  rcases Nat.le_total r (q + 1) with h | h
  ·obtain ⟨d,hd⟩:=Nat.exists_eq_add_of_le h
   have e:r + q + 1=r + (r + d):=by omega
   rw [e,hd]
   simp only [Nat.mul_add,Nat.add_mul]
   have:=Nat.zero_le (d * d)
   rw [Nat.mul_comm d r]; omega
  ·obtain ⟨d,hd⟩:=Nat.exists_eq_add_of_le h
   have e:r + q + 1=(q + 1 + d) + (q + 1):=by omega
   rw [e,hd]
   generalize q + 1=p
   simp only [Nat.mul_add,Nat.add_mul]
   have:=Nat.zero_le (d * d)
   rw [Nat.mul_comm d p]; omega
 have h5:(r + q + 1) * (r + q + 1)≤(2 * (m + 1)) * (2 * (m + 1)):=Nat.mul_le_mul (by omega) (by omega)
 have h6:(2 * (m + 1)) * (2 * (m + 1))=4 * ((m + 1) * (m + 1)):=by
  rw [Nat.mul_mul_mul_comm]
 refine ⟨by omega,?_⟩
 rcases Nat.eq_zero_or_pos m with e | e
 ·exfalso
  subst e
  have:r=1:=by omega
  subst this
  have:q=0:=by omega
  subst this
  omega
 ·exact e
theorem ZqO {x r r0:Nat} (h:¬ (r + x / r) / 2 ^ 1 < r) (h1:x < (r + 1) * (r + 1)) (h2:r0 * r0≤x) (h3:x < (r0 + 1) * (r0 + 1)):r=r0:=by
 have hq:r≤x / r:=by omega
 have h4:r * r≤x:=by
  have:=Nat.div_mul_le_self x r
  have:=Nat.mul_le_mul_right r hq
  omega
 rcases Nat.lt_trichotomy r r0 with h5 | h5 | h5
 ·have:=Nat.mul_le_mul (show r + 1≤r0 by omega) (show r + 1≤r0 by omega); omega
 ·exact h5
 ·have:=Nat.mul_le_mul (show r0 + 1≤r by omega) (show r0 + 1≤r by omega); omega
theorem Zhu {x k:Nat} (h:x < 2 ^ k):x < (1 * 2 ^ ((k + 1) / 2) + 1) * (1 * 2 ^ ((k + 1) / 2) + 1)∧0 < 1 * 2 ^ ((k + 1) / 2):=by
 rw [Nat.one_mul]
 have h1:2 ^ k≤2 ^ ((k + 1) / 2) * 2 ^ ((k + 1) / 2):=by rw [← Nat.pow_add]; exact Nat.pow_le_pow_right (by omega) (by omega)
 have h2:=Nat.pow_pos (n:=(k + 1) / 2) (show 0 < 2 by omega)
 refine ⟨?_,h2⟩
 have:=Nat.mul_le_mul (Nat.le_succ (2 ^ ((k + 1) / 2))) (Nat.le_succ (2 ^ ((k + 1) / 2)))
 simp only [Nat.succ_eq_add_one] at this
 omega
theorem Zuj {k m:Nat} (h:k≤64 * m):wl (1 * 2 ^ ((k + 1) / 2))≤m + 1:=by
 rw [Nat.one_mul]
 refine ZbA.2 ?_
 rw [Zai,show (18446744073709551616:Nat)=2 ^ 64 from rfl,← Nat.pow_mul]
 exact Nat.pow_lt_pow_right (by omega) (by omega)
theorem Zta {n:Nat} {w w':World} {e:Ending} (h:∃ k:Nat,e=.returned (.int .i64 (k:Int))∧n < 2 ^ k∧k≤64 * wl n∧Ext w w'):Zby (fun k:{k:Nat // n < 2 ^ k∧k≤64 * wl n}=>.int .i64 (k.1:Int)) (fun _ _=>True) w e w':=by
 obtain ⟨k,rfl,h1,h2,Q⟩:=h
 exact ⟨⟨k,h1,h2⟩,rfl,Q,BoxN.pure trivial⟩
theorem ZqP {q r:Nat} {w w':World} {e:Ending} (h:ZgB w q r e w'):Zby (fun x:ShN × ShN=>.tuple #[Zbz x.1,Zbz x.2]) (fun x w=>Zak w (Zbz x.1) q∧Zak w (Zbz x.2) r) w e w':=by
 obtain ⟨u,v,rfl,h1,h2,Q⟩:=h
 obtain ⟨A,l,c,rfl⟩:=h1.slice
 obtain ⟨A2,l2,c2,rfl⟩:=h2.slice
 exact ⟨((A,l,c),(A2,l2,c2)),rfl,Q,boxn Q (fun S w'' hS hF=>⟨h1.nrb hS hF,h2.nrb hS hF⟩)⟩
theorem ZiL {u v:Value} {m n:Nat} {w:World} (hu:Zak w u m) (hv:Zak w v n) (hm:wl m≤1000) (hn:wl n≤1000):Calls Tryz.prog 152 #[u,v] w (RetV w (.int .i64 (cmpI m n))):=by
 refine (Zbv u v m n w hu hv (by omega) (by omega)).mono ?_
 rintro e w' ⟨rfl,k,rfl⟩
 exact ⟨rfl,(Fr.refl _ _).drewN k⟩
theorem ZtW {a b:Nat} (h:a < b):decide (cmpI a b ≥ 0)=false:=decide_eq_false (by have:=ZcM.2 h; omega)
theorem ZtX {a b:Nat} (h:¬ a < b):decide (cmpI a b ≥ 0)=true:=decide_eq_true (by
 rcases Int.lt_or_le (cmpI a b) 0 with h1 | h1
 ·exact absurd (ZcM.1 h1) h
 ·exact h1)
theorem ZtY {a b:Nat} (h:a=b):((cmpI a b:Int) == 0)=true:=by subst h; simp [cmpI]
theorem ZtZ {a b:Nat} (h:¬ a=b):((cmpI a b:Int) == 0)=false:=by
 have:cmpI a b≠0:=by unfold cmpI; split<;>(try split)<;>omega
 simpa using this
theorem l_nz {n:Nat} (h:¬ n=0):(((n:Nat):Int) == 0)=false:=by simp; omega
theorem rw1 {k:Nat} (h:k≤100000):IntKind.i64.wrap ((k:Int) + 1)=((k + 1:Nat):Int):=by rw [IntKind.wrap_i64]; omega
theorem rw2 {k:Nat} (h:k≤100000):IntKind.u64.wrap ((k + 1:Nat):Int)=((k + 1:Nat):Int):=by rw [IntKind.wrap_u64]; omega
theorem rw3 {k:Nat} (h:k≤100000):IntKind.u64.wrap ((((k + 1:Nat):Int)).tdiv 2)=(((k + 1) / 2:Nat):Int):=by
 rw [Int.tdiv_eq_ediv_of_nonneg (by omega),IntKind.wrap_u64]; omega
def ZpH (w:World) (z:Int) (b:Bool) (e:Ending) (w':World):Prop:=∃ v,e=.returned (.tuple #[v, .bool b])∧Zav w' v z∧Ext w w'
theorem ZfI {w w':World} {e:Ending} {z:Int} {b:Bool} (h:ZpH w z b e w'):Zby (fun x:ShI=>.tuple #[Zam x, .bool b]) (fun x w=>Zav w (Zam x) z) w e w':=by
 obtain ⟨v,rfl,hI,Q⟩:=h
 obtain ⟨s,A,l,c,rfl⟩:=hI.shape
 exact ⟨(s,A,l,c),rfl,Q,boxn Q (fun S w'' hS hF=>hI.nrb hS hF)⟩
theorem Zav.ofNat {w:World} {A:Option Addr} {l c n:Nat} (h:Zak w (.slice A l c) n):Zav w (.agg #[.bool false, .slice A l c]) (n:Int):=⟨false,_,n,rfl,h,fun _=>rfl,rfl⟩
theorem Zhv {r x:Nat} (h:r * r≤x):wl r≤wl x:=by
 refine Za0 ?_
 rcases Nat.eq_zero_or_pos r with e | e
 ·omega
 ·exact Nat.le_trans (Nat.le_mul_of_pos_right r e) h
theorem Zmv (a:Value) (x r0:Nat) (w:World) (ha:Zak w a x) (h0:0 < x) (hx:wl x≤70) (h1:r0 * r0≤x) (h2:x < (r0 + 1) * (r0 + 1)) :
 Calls Tryz.prog 151 #[a] w (Zbh w r0):=by
 obtain ⟨A0,l0,c0,rfl⟩:=ha.slice
 have hl0:¬ l0=0:=by have:=ha.len0; have:=Zfh h0; omega
 refine ZaB (Φ:=fun w=>Zak w (.slice A0 l0 c0) (x)) Tryz.func151 rfl (by kernel_rfl) (fun w' hf=>ha.ext hf) ?_
 refine Zac (Zab (xr 1 [eS1 0 A0 l0 c0,eS1 2 none 0 0] [] ?_))
 refine xe (Zaa (Zac (Zac (Zab (xr 3 [eS1 0 A0 l0 c0,eS1 2 none 0 0,(9, .v (.bool ((((l0:Nat):Int):Int) == 0)))] [] ?_)))))
 rw [l_nz hl0]
 refine xr 0 [eS1 0 A0 l0 c0,eS1 2 none 0 0,(9, .v (.bool false))] [] ?_
 refine xe (Zaa (xb (ZaA (Zaa (Zac (Zab ?_))))))
 refine ZgJ (d:=10) Zbz (fun x w=>Zak w (Zbz x) 1) (by kernel_rfl) (by kernel_rfl) (by kernel_rfl) (by kernel_rfl) (by kernel_rfl) (by kernel_rfl) (fun w R Q=>Zpp (t:=93) (by kernel_rfl) (by kernel_rfl) (by kernel_rfl) (by kernel_rfl)) (fun xx=>?_)
 obtain ⟨A10,l10,c10⟩:=xx
 refine xr 1 [eS1 0 A0 l0 c0,eS1 2 none 0 0,eS1 10 A10 l10 c10,eS1 11 A0 l0 c0] [] ?_
 refine xc 173 [.slice A0 l0 c0] 12 (fun k:{k:Nat // x < 2 ^ k∧k≤64 * wl x}=>.int .i64 (k.1:Int)) _ (fun w R Q=>(Zmu _ (x) _ Q.1 h0 (by omega)).mono (fun _ _=>Zta)) (fun xx=>?_)
 obtain ⟨k,hk1,hk2⟩:=xx
 refine xr 1 [eS1 0 A0 l0 c0,eS1 2 none 0 0,eS1 10 A10 l10 c10,(13, .v (.int .i64 (IntKind.i64.wrap ((k:Int) + 1))))] [] ?_
 rw [rw1 (k:=k) (by omega)]
 refine xr 1 [eS1 0 A0 l0 c0,eS1 2 none 0 0,eS1 10 A10 l10 c10,(14, .v (.int .u64 (IntKind.u64.wrap (((k + 1:Nat):Int)))))] [] ?_
 rw [rw2 (k:=k) (by omega)]
 refine xr 1 [eS1 0 A0 l0 c0,eS1 2 none 0 0,eS1 10 A10 l10 c10,(15, .v (.int .u64 (IntKind.u64.wrap ((((k + 1:Nat):Int)).tdiv 2))))] [] ?_
 rw [rw3 (k:=k) (by omega)]
 refine xc 217 [.slice A10 l10 c10, .int .u64 (((k + 1) / 2:Nat):Int)] 16 Zbz _ (fun w R Q=>(Zfm _ 1 ((k + 1) / 2) _ Q.1.2 (Nat.le_trans (Zdh.2 (by rw [Zai]; decide)) (by decide)) (by omega)).mono (fun _ _=>Ze3)) (fun xx=>?_)
 obtain ⟨A11,l11,c11⟩:=xx
 refine xr 1 [eS1 0 A0 l0 c0,eS1 2 none 0 0,eS1 3 A11 l11 c11] [] ?_
 refine xe (Zaa (ZbD ?_))
 refine SXc.weak [(0, .v (.slice A0 l0 c0)),(2, .v (.slice none 0 0)),(3, .v (.slice A11 l11 c11))] [] (Ψ:=fun w=>(Zak w (.slice A0 l0 c0) (x)∧Zak w (.slice A11 l11 c11) ((1 * 2 ^ ((k + 1) / 2))))) (Zb8.of (by kernel_rfl)) (by kernel_rfl) (fun w Q=>⟨Q.1.1.1,Q.2⟩) ?_
 refine ZiH (fun nn ss ff=>∃ (gA:Option Addr) (gl gc r:Nat),ss=ofL [(0, .v (.slice A0 l0 c0)),(2, .v (.slice none 0 0)),(3, .v (.slice gA gl gc))] []∧ff=(fun w=>(Zak w (.slice A0 l0 c0) (x)∧Zak w (.slice gA gl gc) (r)))∧(x < (r + 1) * (r + 1))∧(0 < r)∧(wl r≤71)∧nn=(1 + r)) ((1 + (1 * 2 ^ ((k + 1) / 2)))) ⟨A11,l11,c11,(1 * 2 ^ ((k + 1) / 2)),rfl,rfl,(Zhu hk1).1,(Zhu hk1).2,(Nat.le_trans (Zuj (m:=wl x) hk2) (by omega)),rfl⟩ ?_
 rintro nn ss ff ⟨gA,gl,gc,r,rfl,rfl,hr,hr0,hw,rfl⟩
 refine ZbD (Zac (Zab (xr 2 [eS1 0 A0 l0 c0,eS1 2 none 0 0,eS1 3 gA gl gc,eS1 18 A0 l0 c0,eS1 19 gA gl gc] [] ?_)))
 refine xc 218 [.slice A0 l0 c0, .slice gA gl gc] 20 (fun x:ShN × ShN=>.tuple #[Zbz x.1,Zbz x.2]) _ (fun w R Q=>(ZcZ _ _ (x) (r) _ Q.1 Q.2 (by omega) (by omega) hr0).mono (fun _ _=>ZqP)) (fun xx=>?_)
 obtain ⟨⟨A12,l12,c12⟩,⟨A13,l13,c13⟩⟩:=xx
 refine xr 5 [eS1 0 A0 l0 c0,eS1 2 none 0 0,eS1 3 gA gl gc,eS1 4 A12 l12 c12] [] ?_
 refine xe (Zaa (Zac (Zab (xr 2 [eS1 0 A0 l0 c0,eS1 2 none 0 0,eS1 3 gA gl gc,eS1 23 gA gl gc,eS1 24 A12 l12 c12] [] ?_))))
 refine xc 203 [.slice gA gl gc, .slice A12 l12 c12] 25 Zbz _ (fun w R Q=>(ZfO _ _ (r) (x / r) _ Q.1.2 Q.2.1 (by omega) (Nat.le_trans (Za0 (Nat.div_le_self x r)) (by omega))).mono (fun _ _=>Ze3)) (fun xx=>?_)
 obtain ⟨A14,l14,c14⟩:=xx
 refine xr 0 [eS1 0 A0 l0 c0,eS1 2 none 0 0,eS1 3 gA gl gc,eS1 25 A14 l14 c14] [] ?_
 refine xc 219 [.slice A14 l14 c14, .int .u64 1] 26 Zbz _ (fun w R Q=>(ZgA _ (r + x / r) 1 _ Q.2 (Nat.le_trans (Zj1 (k:=71) (by omega) (Nat.le_trans (Za0 (Nat.div_le_self x r)) (by omega))) (by decide)) (by decide)).mono (fun _ _=>Ze3)) (fun xx=>?_)
 obtain ⟨A15,l15,c15⟩:=xx
 refine xr 1 [eS1 0 A0 l0 c0,eS1 2 none 0 0,eS1 3 gA gl gc,eS1 6 A15 l15 c15] [] ?_
 refine xe (Zaa (Zac (Zac ?_)))
 by_cases hlt:(r + x / r) / 2 ^ 1 < r
 ·refine Zab (xr 2 [eS1 0 A0 l0 c0,eS1 2 none 0 0,eS1 3 gA gl gc,eS1 6 A15 l15 c15,eS1 27 A15 l15 c15,eS1 28 gA gl gc] [] ?_)
  refine xc 152 [.slice A15 l15 c15, .slice gA gl gc] 29 (fun _:Unit=>.int .i64 (cmpI (((r + x / r) / 2 ^ 1:Nat):Int) ((r:Nat):Int))) _ (fun w R Q=>(ZiL Q.2 Q.1.1.1.2 (Nat.le_trans (Za0 (Nat.div_le_self _ _)) (Nat.le_trans (Zj1 (k:=71) (by omega) (Nat.le_trans (Za0 (Nat.div_le_self x r)) (by omega))) (by decide))) (by omega)).mono (fun _ _ h=>Zae h rfl)) (fun xx=>?_)
  refine xr 1 [eS1 0 A0 l0 c0,eS1 2 none 0 0,eS1 3 gA gl gc,eS1 6 A15 l15 c15,(30, .v (.bool (decide ((cmpI (((r + x / r) / 2 ^ 1:Nat):Int) ((r:Nat):Int)) ≥ 0))))] [] ?_
  rw [ZtW hlt]
  refine xr 0 [eS1 0 A0 l0 c0,eS1 2 none 0 0,eS1 3 gA gl gc,eS1 6 A15 l15 c15,(30, .v (.bool false))] [] ?_
  refine xe (Zaa (xb (ZaA (Zaa (Zab (xr 2 [eS1 0 A0 l0 c0,eS1 2 none 0 0,eS1 3 A15 l15 c15] [] ?_))))))
  refine xe (ZeM ?_)
  refine SXq.weak [(0, .v (.slice A0 l0 c0)),(2, .v (.slice none 0 0)),(3, .v (.slice A15 l15 c15))] [] (Ψ:=fun w=>(Zak w (.slice A0 l0 c0) (x)∧Zak w (.slice A15 l15 c15) (((r + x / r) / 2 ^ 1)))) (Zb8.of (by kernel_rfl)) (by kernel_rfl) (fun w Q=>⟨Q.1.1.1.1.1,Q.1.2⟩) ?_
  exact Zhn ((1 + ((r + x / r) / 2 ^ 1))) (by omega) ⟨A15,l15,c15,((r + x / r) / 2 ^ 1),rfl,rfl,(ZiK hr0 h0).1,(ZiK hr0 h0).2,(Nat.le_trans (Za0 (Nat.le_of_lt hlt)) hw),rfl⟩
 ·refine Zab (xr 2 [eS1 0 A0 l0 c0,eS1 2 none 0 0,eS1 3 gA gl gc,eS1 6 A15 l15 c15,eS1 27 A15 l15 c15,eS1 28 gA gl gc] [] ?_)
  refine xc 152 [.slice A15 l15 c15, .slice gA gl gc] 29 (fun _:Unit=>.int .i64 (cmpI (((r + x / r) / 2 ^ 1:Nat):Int) ((r:Nat):Int))) _ (fun w R Q=>(ZiL Q.2 Q.1.1.1.2 (Nat.le_trans (Za0 (Nat.div_le_self _ _)) (Nat.le_trans (Zj1 (k:=71) (by omega) (Nat.le_trans (Za0 (Nat.div_le_self x r)) (by omega))) (by decide))) (by omega)).mono (fun _ _ h=>Zae h rfl)) (fun xx=>?_)
  refine xr 1 [eS1 0 A0 l0 c0,eS1 2 none 0 0,eS1 3 gA gl gc,eS1 6 A15 l15 c15,(30, .v (.bool (decide ((cmpI (((r + x / r) / 2 ^ 1:Nat):Int) ((r:Nat):Int)) ≥ 0))))] [] ?_
  rw [ZtX hlt]
  refine xr 0 [eS1 0 A0 l0 c0,eS1 2 none 0 0,eS1 3 gA gl gc,eS1 6 A15 l15 c15,(30, .v (.bool true))] [] ?_
  refine xe (Zaa (xa (Zac (Zab (xr 2 [eS1 0 A0 l0 c0,eS1 2 gA gl gc,eS1 3 gA gl gc,eS1 6 A15 l15 c15] [] ?_)))))
  refine xe (Zaa (Zan (Zao (Zcj (Zao (Zcj ?_))))))
  refine Zag (v:=.slice gA gl gc) (by kernel_rfl) (fun w' R Q=>?_)
  exact ⟨_,rfl,by have h:=Q.1.1.1.1.2; rwa [ZqO hlt hr h1 h2] at h,R⟩
theorem Zlw (a:Value) (w:World) (ha:Zak w a 0) :
 Calls Tryz.prog 151 #[a] w (Zbh w 0):=by
 obtain ⟨A0,l0,c0,rfl⟩:=ha.slice
 obtain rfl:l0=0:=by have:=ha.len0; rw [Zep] at this; exact this
 refine ZaB (Φ:=fun w=>Zak w (.slice A0 0 c0) (0)) Tryz.func151 rfl (by kernel_rfl) (fun w' hf=>ha.ext hf) ?_
 refine Zac (Zab (xr 1 [eS1 0 A0 0 c0,eS1 2 none 0 0] [] ?_))
 refine xe (Zaa (Zac (Zac (Zab (xr 3 [eS1 0 A0 0 c0,eS1 2 none 0 0,(9, .v (.bool true))] [] ?_)))))
 refine xe (Zaa (xa (Zac (Zab (xr 1 [eS1 0 A0 0 c0,eS1 2 none 0 0] [] ?_)))))
 refine xe (Zaa (Zan (Zao ?_)))
 refine Zag (v:=.slice none 0 0) (by kernel_rfl) (fun w' R Q=>?_)
 exact ⟨_,rfl,Zak.zero _,R⟩
theorem Zmw (a:Value) (x r0:Nat) (w:World) (ha:Zak w a x) (hx:wl x≤70) (h1:r0 * r0≤x) (h2:x < (r0 + 1) * (r0 + 1)):Calls Tryz.prog 151 #[a] w (Zbh w r0):=by
 rcases Nat.eq_zero_or_pos x with rfl | h0
 ·obtain rfl:r0=0:=by
   rcases Nat.eq_zero_or_pos r0 with e | e
   ·exact e
   ·have:=Nat.mul_le_mul e e; omega
  exact Zlw a w ha
 ·exact Zmv a x r0 w ha h0 hx h1 h2
theorem Zfl (a:Value) (x:Int) (r0:Nat) (w:World) (ha:Zav w a x) (h0:0≤x) (hx:wl x.natAbs≤70) (h39:wl r0 < 40) (h1:r0 * r0≤x.natAbs) (h2:x.natAbs < (r0 + 1) * (r0 + 1)) :
 Calls Tryz.prog 73 #[a] w (ZpH w (r0:Int) (decide (r0 * r0=x.natAbs))):=by
 obtain ⟨A0,l0,c0,rfl⟩:=ZsW ha h0
 refine ZaB (Φ:=fun w=>Zav w (.agg #[.bool false, .slice A0 l0 c0]) (x)) Tryz.func73 rfl (by kernel_rfl) (fun w' hf=>ha.ext hf) ?_
 refine Zac (Zab (xr 3 [(1, .p 1 0),(2, .p 2 0),(3, .v (.bool false))] [bI2 2 105 false none 0 0,bI2 1 105 false A0 l0 c0] ?_))
 refine xe (Zaa (Zac (Zac (Zab (xr 2 [(1, .p 1 0),(2, .p 2 0),(3, .v (.bool false)),(6, .v (.bool false))] [bI2 2 105 false none 0 0,bI2 1 105 false A0 l0 c0] ?_)))))
 refine xe (Zaa (xb (ZaA (Zaa (Zac (Zab (xr 2 [(1, .p 1 0),(2, .p 2 0),(3, .v (.bool false)),eS1 9 A0 l0 c0] [bI2 2 105 false none 0 0,bI2 1 105 false A0 l0 c0] ?_)))))))
 refine xc 151 [.slice A0 l0 c0] 10 Zbz _ (fun w R Q=>(Zmw _ x.natAbs r0 _ Q.mag hx h1 h2).mono (fun _ _=>Ze3)) (fun xx=>?_)
 obtain ⟨A10,l10,c10⟩:=xx
 refine xr 1 [(1, .p 1 0),(2, .p 2 0),(3, .v (.bool false)),eS1 4 A10 l10 c10] [bI2 2 105 false none 0 0,bI2 1 105 false A0 l0 c0] ?_
 refine xe (Zaa (Zac ?_))
 by_cases hsq:r0 * r0=x.natAbs
 ·refine ZaE 11 (by kernel_rfl) (by kernel_rfl) Zaj ?_
  refine xf 4 [(1, .p 1 0),(2, .p 2 0),(3, .v (.bool false)),eI2 12 false A10 l10 c10,eS1 13 A10 l10 c10,eS1 14 A10 l10 c10] [bI2 2 105 false none 0 0,bI2 1 105 false A0 l0 c0] ?_
  refine xd 153 [.slice A10 l10 c10, .slice A10 l10 c10] 15 Zbz _ (fun w R Q=>(ZbJ _ _ r0 r0 _ Q.2 Q.2 (by omega) (by omega) (Or.inl h39)).mono (fun _ _=>Ze3)) (fun xx=>?_)
  obtain ⟨A11,l11,c11⟩:=xx
  refine xf 2 [(2, .p 2 0),(3, .v (.bool false)),eI2 12 false A10 l10 c10,eS1 15 A11 l11 c11,eS1 17 A0 l0 c0] [bI2 2 105 false none 0 0,bI2 1 105 false A0 l0 c0] ?_
  refine xd 152 [.slice A11 l11 c11, .slice A0 l0 c0] 18 (fun _:Unit=>.int .i64 (cmpI ((r0 * r0:Nat):Int) ((x.natAbs:Nat):Int))) _ (fun w R Q=>(ZiL Q.2 Q.1.1.mag (Nat.le_trans (Za0 h1) (by omega)) (by omega)).mono (fun _ _ h=>Zae h rfl)) (fun xx=>?_)
  refine xf 1 [(2, .p 2 0),(3, .v (.bool false)),eI2 12 false A10 l10 c10,(19, .v (.bool (((cmpI ((r0 * r0:Nat):Int) ((x.natAbs:Nat):Int)):Int) == 0)))] [bI2 2 105 false none 0 0,bI2 1 105 false A0 l0 c0] ?_
  rw [ZtY hsq]
  refine xf 2 [(2, .p 2 0),(3, .v (.bool true))] [bI2 2 105 false A10 l10 c10,bI2 2 105 false none 0 0,bI2 1 105 false A0 l0 c0] ?_
  refine xz (xe (Zaa (Zan ?_)))
  refine Zag (v:=.tuple #[.agg #[.bool false, .slice A10 l10 c10], .bool true]) (by kernel_rfl) (fun w' R Q=>?_)
  exact ⟨_,by rw [decide_eq_true hsq],Zav.ofNat Q.1.1.2,R⟩
 ·refine ZaE 11 (by kernel_rfl) (by kernel_rfl) Zaj ?_
  refine xf 4 [(1, .p 1 0),(2, .p 2 0),(3, .v (.bool false)),eI2 12 false A10 l10 c10,eS1 13 A10 l10 c10,eS1 14 A10 l10 c10] [bI2 2 105 false none 0 0,bI2 1 105 false A0 l0 c0] ?_
  refine xd 153 [.slice A10 l10 c10, .slice A10 l10 c10] 15 Zbz _ (fun w R Q=>(ZbJ _ _ r0 r0 _ Q.2 Q.2 (by omega) (by omega) (Or.inl h39)).mono (fun _ _=>Ze3)) (fun xx=>?_)
  obtain ⟨A12,l12,c12⟩:=xx
  refine xf 2 [(2, .p 2 0),(3, .v (.bool false)),eI2 12 false A10 l10 c10,eS1 15 A12 l12 c12,eS1 17 A0 l0 c0] [bI2 2 105 false none 0 0,bI2 1 105 false A0 l0 c0] ?_
  refine xd 152 [.slice A12 l12 c12, .slice A0 l0 c0] 18 (fun _:Unit=>.int .i64 (cmpI ((r0 * r0:Nat):Int) ((x.natAbs:Nat):Int))) _ (fun w R Q=>(ZiL Q.2 Q.1.1.mag (Nat.le_trans (Za0 h1) (by omega)) (by omega)).mono (fun _ _ h=>Zae h rfl)) (fun xx=>?_)
  refine xf 1 [(2, .p 2 0),(3, .v (.bool false)),eI2 12 false A10 l10 c10,(19, .v (.bool (((cmpI ((r0 * r0:Nat):Int) ((x.natAbs:Nat):Int)):Int) == 0)))] [bI2 2 105 false none 0 0,bI2 1 105 false A0 l0 c0] ?_
  rw [ZtZ hsq]
  refine xf 2 [(2, .p 2 0),(3, .v (.bool false))] [bI2 2 105 false A10 l10 c10,bI2 2 105 false none 0 0,bI2 1 105 false A0 l0 c0] ?_
  refine xz (xe (Zaa (Zan ?_)))
  refine Zag (v:=.tuple #[.agg #[.bool false, .slice A10 l10 c10], .bool false]) (by kernel_rfl) (fun w' R Q=>?_)
  exact ⟨_,by rw [decide_eq_false hsq],Zav.ofNat Q.1.1.2,R⟩
theorem Zr0 (s:ByteArray) (Q:Rat) (n d:Nat) (w:World) (hg:Glob w) (hs:(bytes s).length≤570) (hn0:0≤(valF (bytes s)).num) (hn:n * n≤(valF (bytes s)).num.natAbs∧(valF (bytes s)).num.natAbs < (n + 1) * (n + 1)∧n * n=(valF (bytes s)).num.natAbs) (hd:d * d≤((valF (bytes s)).den:Int).natAbs∧((valF (bytes s)).den:Int).natAbs < (d + 1) * (d + 1)∧d * d=((valF (bytes s)).den:Int).natAbs) (hQn:Q.num=(n:Int)) (hQd:(Q.den:Int)=(d:Int)) :
 Calls Tryz.prog 22 #[.string s] w (RetV w (.tuple #[.string ⟨(Zaf Q).toArray⟩, .bool true])):=by
 have fa:=Zbr hs
 have hd0:(0:Int)≤((valF (bytes s)).den:Int):=by omega
 have HP:Zbn Q.num.natAbs∧Zbn Q.den:=by
  have e1:Q.num.natAbs=n:=by omega
  have e2:Q.den=d:=by omega
  rw [e1,e2]
  have h1:=Nat.le_trans (Zhv hn.1) fa.1
  have h2:=Nat.le_trans (Zhv hd.1) (wlc fa.2)
  unfold Zbn; omega
 refine ZaB (Φ:=fun w=>Glob w) Tryz.func22 rfl (by kernel_rfl) (fun w' hf=>hg.ext hf) ?_
 refine Zac (Zab (xr 2 [(0, .v (.string s)),(2, .v (.string ⟨#[]⟩)),(3, .v (.bool false))] [] ?_))
 refine xe (Zaa (Zac (Zab (xr 1 [(2, .v (.string ⟨#[]⟩)),(3, .v (.bool false)),(9, .v (.string s))] [] ?_))))
 refine xc 72 [.string s] 10 ZaJ _ (fun w S R=>(Zbj s _ R (ZbC.of_len hs)).mono (fun _ _=>ZaL)) (fun xx=>?_)
 obtain ⟨s10,A10,l10,c10,t10,B10,m10,d10⟩:=xx
 refine xr 2 [(2, .v (.string ⟨#[]⟩)),(3, .v (.bool false)),(4, .p 4 0)] [bR4 4 107 s10 A10 l10 c10 t10 B10 m10 d10] ?_
 refine xe (Zaa (Zac (Zab (xr 2 [(2, .v (.string ⟨#[]⟩)),(3, .v (.bool false)),(4, .p 4 0),eI2 13 s10 A10 l10 c10] [bR4 4 107 s10 A10 l10 c10 t10 B10 m10 d10] ?_))))
 refine xc 73 [vI2 s10 A10 l10 c10] 14 (fun x:ShI=>.tuple #[Zam x, .bool true]) _ (fun w S R=>(Zfl _ ((valF (bytes s)).num) n _ R.2.num hn0 (Nat.le_trans fa.1 (by decide)) (Nat.lt_of_le_of_lt (Nat.le_trans (Zhv hn.1) fa.1) (by decide)) hn.1 hn.2.1).mono (fun _ _ h=>ZfI (by rw [decide_eq_true hn.2.2] at h; exact h))) (fun xx=>?_)
 obtain ⟨s11,A11,l11,c11⟩:=xx
 refine xr 6 [(2, .v (.string ⟨#[]⟩)),(3, .v (.bool false)),(4, .p 4 0),(5, .p 5 0),(6, .v (.bool true))] [bI2 5 105 s11 A11 l11 c11,bR4 4 107 s10 A10 l10 c10 t10 B10 m10 d10] ?_
 refine xe (Zaa (Zac (Zac (Zab (xr 2 [(2, .v (.string ⟨#[]⟩)),(3, .v (.bool false)),(4, .p 4 0),(5, .p 5 0),(18, .v (.bool false))] [bI2 5 105 s11 A11 l11 c11,bR4 4 107 s10 A10 l10 c10 t10 B10 m10 d10] ?_)))))
 refine xe (Zaa (xb (ZaA (Zaa (Zac (Zab (xr 1 [(2, .v (.string ⟨#[]⟩)),(3, .v (.bool false)),(5, .p 5 0),eR4 20 s10 A10 l10 c10 t10 B10 m10 d10] [bI2 5 105 s11 A11 l11 c11] ?_)))))))
 refine xc 74 [vR4 s10 A10 l10 c10 t10 B10 m10 d10] 21 Zam _ (fun w S R=>(Zbg _ (valF (bytes s)) _ R.1.2).mono (fun _ _=>Zaq)) (fun xx=>?_)
 obtain ⟨s12,A12,l12,c12⟩:=xx
 refine xr 0 [(2, .v (.string ⟨#[]⟩)),(3, .v (.bool false)),(5, .p 5 0),eI2 21 s12 A12 l12 c12] [bI2 5 105 s11 A11 l11 c11] ?_
 refine xc 73 [vI2 s12 A12 l12 c12] 22 (fun x:ShI=>.tuple #[Zam x, .bool true]) _ (fun w S R=>(Zfl _ (((valF (bytes s)).den:Int)) d _ R.2 hd0 (Nat.le_trans (wlc fa.2) (by decide)) (Nat.lt_of_le_of_lt (Nat.le_trans (Zhv hd.1) (wlc fa.2)) (by decide)) hd.1 hd.2.1).mono (fun _ _ h=>ZfI (by rw [decide_eq_true hd.2.2] at h; exact h))) (fun xx=>?_)
 obtain ⟨s13,A13,l13,c13⟩:=xx
 refine xr 6 [(2, .v (.string ⟨#[]⟩)),(3, .v (.bool false)),(5, .p 5 0),(7, .p 7 0),(8, .v (.bool true))] [bI2 7 105 s13 A13 l13 c13,bI2 5 105 s11 A11 l11 c11] ?_
 refine xe (Zaa (Zac (Zac (Zab (xr 2 [(2, .v (.string ⟨#[]⟩)),(3, .v (.bool false)),(5, .p 5 0),(7, .p 7 0),(26, .v (.bool false))] [bI2 7 105 s13 A13 l13 c13,bI2 5 105 s11 A11 l11 c11] ?_)))))
 refine xe (Zaa (xb (ZaA (Zaa (Zac (Zab (xr 2 [(2, .v (.string ⟨#[]⟩)),(3, .v (.bool false)),eI2 27 s11 A11 l11 c11,eI2 28 s13 A13 l13 c13] [] ?_)))))))
 refine xc 75 [vI2 s11 A11 l11 c11,vI2 s13 A13 l13 c13] 29 ZaJ _ (fun w S R=>(Zb0 _ _ ((n:Int)) ((d:Int)) Q _ R.1.1.2 R.2 ⟨hQn,hQd⟩).mono (fun _ _=>ZaL)) (fun xx=>?_)
 obtain ⟨s14,A14,l14,c14,t14,B14,m14,d14⟩:=xx
 refine xr 0 [(2, .v (.string ⟨#[]⟩)),(3, .v (.bool false)),eR4 29 s14 A14 l14 c14 t14 B14 m14 d14] [] ?_
 refine xc 76 [vR4 s14 A14 l14 c14 t14 B14 m14 d14] 30 (fun _:Unit=>.string ⟨(Zaf Q).toArray⟩) _ (fun w S R=>(Zda _ Q _ R.1.1.1.1.1 R.2 HP.1 HP.2).mono (fun _ _ h=>Zae h rfl)) (fun xx=>?_)
 refine xr 2 [(2, .v (.string ⟨(Zaf Q).toArray⟩)),(3, .v (.bool true))] [] ?_
 refine xe (Zaa (Zan ?_))
 refine Zag (v:=.tuple #[.string ⟨(Zaf Q).toArray⟩, .bool true]) (by kernel_rfl) (fun w' S R=>?_)
 exact ⟨rfl,S⟩
theorem Zr1 (s:ByteArray) (n:Nat) (w:World) (hg:Glob w) (hs:(bytes s).length≤570) (hn0:0≤(valF (bytes s)).num) (hn:n * n≤(valF (bytes s)).num.natAbs∧(valF (bytes s)).num.natAbs < (n + 1) * (n + 1)∧¬ n * n=(valF (bytes s)).num.natAbs) :
 Calls Tryz.prog 22 #[.string s] w (RetV w (.tuple #[.string ⟨#[]⟩, .bool false])):=by
 have fa:=Zbr hs
 refine ZaB (Φ:=fun w=>Glob w) Tryz.func22 rfl (by kernel_rfl) (fun w' hf=>hg.ext hf) ?_
 refine Zac (Zab (xr 2 [(0, .v (.string s)),(2, .v (.string ⟨#[]⟩)),(3, .v (.bool false))] [] ?_))
 refine xe (Zaa (Zac (Zab (xr 1 [(2, .v (.string ⟨#[]⟩)),(3, .v (.bool false)),(9, .v (.string s))] [] ?_))))
 refine xc 72 [.string s] 10 ZaJ _ (fun w R Q=>(Zbj s _ Q (ZbC.of_len hs)).mono (fun _ _=>ZaL)) (fun xx=>?_)
 obtain ⟨s10,A10,l10,c10,t10,B10,m10,d10⟩:=xx
 refine xr 2 [(2, .v (.string ⟨#[]⟩)),(3, .v (.bool false)),(4, .p 4 0)] [bR4 4 107 s10 A10 l10 c10 t10 B10 m10 d10] ?_
 refine xe (Zaa (Zac (Zab (xr 2 [(2, .v (.string ⟨#[]⟩)),(3, .v (.bool false)),(4, .p 4 0),eI2 13 s10 A10 l10 c10] [bR4 4 107 s10 A10 l10 c10 t10 B10 m10 d10] ?_))))
 refine xc 73 [vI2 s10 A10 l10 c10] 14 (fun x:ShI=>.tuple #[Zam x, .bool false]) _ (fun w R Q=>(Zfl _ ((valF (bytes s)).num) n _ Q.2.num hn0 (Nat.le_trans fa.1 (by decide)) (Nat.lt_of_le_of_lt (Nat.le_trans (Zhv hn.1) fa.1) (by decide)) hn.1 hn.2.1).mono (fun _ _ h=>ZfI (by rw [decide_eq_false hn.2.2] at h; exact h))) (fun xx=>?_)
 obtain ⟨s11,A11,l11,c11⟩:=xx
 refine xr 6 [(2, .v (.string ⟨#[]⟩)),(3, .v (.bool false)),(4, .p 4 0),(5, .p 5 0),(6, .v (.bool false))] [bI2 5 105 s11 A11 l11 c11,bR4 4 107 s10 A10 l10 c10 t10 B10 m10 d10] ?_
 refine xe (Zaa (Zac (Zac (Zab (xr 2 [(2, .v (.string ⟨#[]⟩)),(3, .v (.bool false)),(4, .p 4 0),(5, .p 5 0),(18, .v (.bool true))] [bI2 5 105 s11 A11 l11 c11,bR4 4 107 s10 A10 l10 c10 t10 B10 m10 d10] ?_)))))
 refine xe (Zaa (xa (Zac (Zab (xr 2 [(2, .v (.string ⟨#[]⟩)),(3, .v (.bool false)),(4, .p 4 0),(5, .p 5 0)] [bI2 5 105 s11 A11 l11 c11,bR4 4 107 s10 A10 l10 c10 t10 B10 m10 d10] ?_)))))
 refine xe (Zaa (Zan (Zao ?_)))
 refine Zag (v:=.tuple #[.string ⟨#[]⟩, .bool false]) (by kernel_rfl) (fun w' R Q=>?_)
 exact ⟨rfl,R⟩
end Go.Proofs.YthlipnahcbcjkaaGreatDoor

namespace Go.Proofs.YthlipnahcbcjkaaGreatDoor
open Go.RowKit
theorem Ztb (a b:Rat):((a.den:Int) * b.den)≠0:=by have:=ZkM a b; omega
theorem ZiM (q:Rat):(-q).num / ((-q).den:Int) = -q.num / (q.den:Int):=by rw [Zf1,ZjF]
theorem ZkT (a:Value) (q:Rat) (w:World) (ha:Zaz w a q) (hq:ZmE q) :
 Calls Tryz.prog 85 #[a] w (Za1 w ((q).num / (q.den:Int))):=by
 obtain ⟨s0,A0,l0,c0,t0,B0,m0,d0,rfl⟩:=ha.shp
 refine ZaB (Φ:=fun w=>Zaz w (.agg #[.bool s0, .slice A0 l0 c0, .bool t0, .slice B0 m0 d0]) (q)) Tryz.func85 rfl (by kernel_rfl) (fun w' hf=>ha.ext hf) ?_
 refine Zac (Zab (xr 2 [(1, .p 1 0),(2, .p 2 0)] [bI2 2 43 false none 0 0,bR4 1 45 s0 A0 l0 c0 t0 B0 m0 d0] ?_))
 refine xe (Zaa (Zac ?_))
 refine ZaE 12 (by kernel_rfl) (by kernel_rfl) Zaj ?_
 refine xf 3 [(2, .p 2 0),eI2 7 s0 A0 l0 c0,eR4 8 s0 A0 l0 c0 t0 B0 m0 d0] [bI2 2 43 false none 0 0,bR4 1 45 s0 A0 l0 c0 t0 B0 m0 d0] ?_
 refine xd 160 [vR4 s0 A0 l0 c0 t0 B0 m0 d0] 9 Zam _ (fun w R Q=>(ZnC _ (q) _ Q).mono (fun _ _=>ZaK)) (fun xx=>?_)
 obtain ⟨s10,A10,l10,c10⟩:=xx
 refine xf 0 [(2, .p 2 0),eI2 7 s0 A0 l0 c0,eI2 9 s10 A10 l10 c10] [bI2 2 43 false none 0 0,bR4 1 45 s0 A0 l0 c0 t0 B0 m0 d0] ?_
 refine xd 158 [vI2 s0 A0 l0 c0,vI2 s10 A10 l10 c10] 10 Zdp _ (fun w R Q=>(ZdJ _ _ ((q).num) ((q.den:Int)) _ Q.1.num Q.2 (nfit hq.1 (by decide)) (nfit (mlc hq.2) (by decide)) (denI q)).mono (fun _ _=>Zez)) (fun xx=>?_)
 obtain ⟨⟨s11,A11,l11,c11⟩,⟨s12,A12,l12,c12⟩⟩:=xx
 refine xf 7 [(2, .p 2 0),(3, .p 3 0),(4, .p 4 0)] [bI2 4 43 s12 A12 l12 c12,bI2 3 43 s11 A11 l11 c11,bI2 4 43 false none 0 0,bI2 3 43 false none 0 0,bI2 2 43 false none 0 0,bR4 1 45 s0 A0 l0 c0 t0 B0 m0 d0] ?_
 refine xz (xe (Zaa (Zac (Zac ?_))))
 refine SXc.know (p:=((q).num.tmod (q.den:Int) < 0→s12=true)∧(¬ (q).num.tmod (q.den:Int) < 0→s12=false)) (fun w _ Q=>⟨fun h=>(Q.2.2).sneg h,fun h=>(Q.2.2).spos (by omega)⟩) (fun HK=>?_)
 have hd:(0:Int) < (q.den:Int):=by have:=Rat.den_pos q; omega
 by_cases hr:(q).num.tmod (q.den:Int) < 0
 ·obtain rfl:=HK.1 hr
  refine Zab (xr 2 [(2, .p 2 0),(3, .p 3 0),(14, .v (.bool true))] [bI2 3 43 s11 A11 l11 c11,bI2 2 43 false none 0 0] ?_)
  refine xe (Zaa (xa (Zac ?_)))
  refine ZaE 4 (by kernel_rfl) (by kernel_rfl) Zaj ?_
  refine xf 1 [(2, .p 2 0),(3, .p 3 0),eI2 15 s11 A11 l11 c11] [bI2 3 43 s11 A11 l11 c11,bI2 2 43 false none 0 0] ?_
  refine xd 103 [.int .i64 1] 16 Zam _ (fun w R Q=>(ZeN 1 _ (by decide) (by decide)).mono (fun _ _=>ZaK)) (fun xx=>?_)
  obtain ⟨s13,A13,l13,c13⟩:=xx
  refine xf 0 [(2, .p 2 0),(3, .p 3 0),eI2 15 s11 A11 l11 c11,eI2 16 s13 A13 l13 c13] [bI2 3 43 s11 A11 l11 c11,bI2 2 43 false none 0 0] ?_
  refine xd 161 [vI2 s11 A11 l11 c11,vI2 s13 A13 l13 c13] 17 Zam _ (fun w R Q=>(ZnB _ _ ((q).num.tdiv (q.den:Int)) (1) _ Q.1.2.1 Q.2 (ZaT.tdiv (nfit hq.1 (by decide))) (nfit (k:=1) (ZbK.2 (by rw [Zaw]; decide)) (by decide))).mono (fun _ _ h=>ZaK (by rw [Zqz hd hr] at h; exact h))) (fun xx=>?_)
  obtain ⟨s14,A14,l14,c14⟩:=xx
  refine xf 1 [(2, .p 2 0),(3, .p 3 0)] [bI2 2 43 s14 A14 l14 c14,bI2 3 43 s11 A11 l11 c11,bI2 2 43 false none 0 0] ?_
  refine xz (xe (Zaa (Zan (Zao ?_))))
  refine Zag (v:=.agg #[.bool s14, .slice A14 l14 c14]) (by kernel_rfl) (fun w' R Q=>?_)
  exact ⟨_,rfl,Q.2,R⟩
 ·obtain rfl:=HK.2 hr
  refine Zab (xr 2 [(2, .p 2 0),(3, .p 3 0),(14, .v (.bool false))] [bI2 3 43 s11 A11 l11 c11,bI2 2 43 false none 0 0] ?_)
  refine xe (Zaa (xb (ZaA (Zaa (Zac (Zab (xr 2 [(2, .p 2 0)] [bI2 2 43 s11 A11 l11 c11] ?_)))))))
  refine xe (Zaa (Zan ?_))
  refine Zag (v:=.agg #[.bool s11, .slice A11 l11 c11]) (by kernel_rfl) (fun w' R Q=>?_)
  exact ⟨_,rfl,(by rw [← ZqA hd hr]; exact Q.2.1),R⟩
theorem ZpI (s:ByteArray) (w:World) (hs:(bytes s).length≤200) :
 Calls Tryz.prog 25 #[.string s] w (RetV w (.string ⟨(Lib.itoa ((valF (bytes s)).num / ((valF (bytes s)).den:Int))).toArray⟩)):=by
 have HQ:=Zdb hs (by decide)
 refine ZaB (Φ:=fun w=>True) Tryz.func25 rfl (by kernel_rfl) (fun w' hf=>trivial) ?_
 refine Zac (Zab (xr 1 [(0, .v (.string s)),(2, .v (.string ⟨#[]⟩))] [] ?_))
 refine xe (Zaa (Zac (Zab (xr 1 [(2, .v (.string ⟨#[]⟩)),(3, .v (.string s))] [] ?_))))
 refine xc 31 [.string s] 4 ZaJ _ (fun w R Q=>(Zdw s _ (by rw [← Zah]; omega)).mono (fun _ _=>ZbE)) (fun xx=>?_)
 obtain ⟨s10,A10,l10,c10,t10,B10,m10,d10⟩:=xx
 refine xr 0 [(2, .v (.string ⟨#[]⟩)),eR4 4 s10 A10 l10 c10 t10 B10 m10 d10] [] ?_
 refine xc 85 [vR4 s10 A10 l10 c10 t10 B10 m10 d10] 5 Zam _ (fun w R Q=>(ZkT _ (valF (bytes s)) _ Q.2 (Zfz HQ (by decide))).mono (fun _ _=>ZaK)) (fun xx=>?_)
 obtain ⟨s11,A11,l11,c11⟩:=xx
 refine xr 1 [(2, .v (.string ⟨#[]⟩)),eR4 6 s11 A11 l11 c11 false none 0 0] [] ?_
 refine xc 29 [vR4 s11 A11 l11 c11 false none 0 0] 7 (fun _:Unit=>.string ⟨(Lib.itoa ((valF (bytes s)).num / ((valF (bytes s)).den:Int))).toArray⟩) _ (fun w R Q=>(ZmF (k:=201) (Zaz.whole Q.2) ⟨Nat.lt_of_lt_of_le (show ((valF (bytes s)).num / ((valF (bytes s)).den:Int)).natAbs < 10 ^ 200 from Nat.lt_of_le_of_lt (ZkN _) HQ.1) (Nat.pow_le_pow_right (by omega) (by decide)),Nat.one_lt_pow (by decide) (by omega)⟩ (by decide)).mono (fun _ _ h=>Zae h (by rw [ZjO]))) (fun xx=>?_)
 refine xr 1 [(2, .v (.string ⟨(Lib.itoa ((valF (bytes s)).num / ((valF (bytes s)).den:Int))).toArray⟩))] [] ?_
 refine xe (Zaa (Zan ?_))
 refine Zag (v:=.string ⟨(Lib.itoa ((valF (bytes s)).num / ((valF (bytes s)).den:Int))).toArray⟩) (by kernel_rfl) (fun w' R Q=>?_)
 exact ⟨rfl,R⟩
theorem ZqQ (s:ByteArray) (w:World) (hs:(bytes s).length≤200) :
 Calls Tryz.prog 27 #[.string s] w (RetV w (.string ⟨(Lib.itoa (-(-(valF (bytes s)).num / ((valF (bytes s)).den:Int)))).toArray⟩)):=by
 have HQ:=Zdb hs (by decide)
 refine ZaB (Φ:=fun w=>True) Tryz.func27 rfl (by kernel_rfl) (fun w' hf=>trivial) ?_
 refine Zac (Zab (xr 1 [(0, .v (.string s)),(2, .v (.string ⟨#[]⟩))] [] ?_))
 refine xe (Zaa (Zac (Zab (xr 1 [(2, .v (.string ⟨#[]⟩)),(3, .v (.string s))] [] ?_))))
 refine xc 31 [.string s] 4 ZaJ _ (fun w R Q=>(Zdw s _ (by rw [← Zah]; omega)).mono (fun _ _=>ZbE)) (fun xx=>?_)
 obtain ⟨s10,A10,l10,c10,t10,B10,m10,d10⟩:=xx
 refine xr 0 [(2, .v (.string ⟨#[]⟩)),eR4 4 s10 A10 l10 c10 t10 B10 m10 d10] [] ?_
 refine xc 88 [vR4 s10 A10 l10 c10 t10 B10 m10 d10] 5 ZaJ _ (fun w R Q=>(ZqI _ (valF (bytes s)) _ Q.2).mono (fun _ _=>ZbE)) (fun xx=>?_)
 obtain ⟨s11,A11,l11,c11,t11,B11,m11,d11⟩:=xx
 refine xr 0 [(2, .v (.string ⟨#[]⟩)),eR4 5 s11 A11 l11 c11 t11 B11 m11 d11] [] ?_
 refine xc 85 [vR4 s11 A11 l11 c11 t11 B11 m11 d11] 6 Zam _ (fun w R Q=>(ZkT _ (-(valF (bytes s))) _ Q.2 (Zfz (Zl0 HQ) (by decide))).mono (fun _ _ h=>ZaK (by rw [ZiM] at h; exact h))) (fun xx=>?_)
 obtain ⟨s12,A12,l12,c12⟩:=xx
 refine xr 0 [(2, .v (.string ⟨#[]⟩)),eI2 6 s12 A12 l12 c12] [] ?_
 refine xc 87 [vI2 s12 A12 l12 c12] 7 Zam _ (fun w R Q=>(Zf2 _ (-(valF (bytes s)).num / ((valF (bytes s)).den:Int)) _ Q.2).mono (fun _ _=>ZaK)) (fun xx=>?_)
 obtain ⟨s13,A13,l13,c13⟩:=xx
 refine xr 1 [(2, .v (.string ⟨#[]⟩)),eR4 8 s13 A13 l13 c13 false none 0 0] [] ?_
 refine xc 29 [vR4 s13 A13 l13 c13 false none 0 0] 9 (fun _:Unit=>.string ⟨(Lib.itoa (-(-(valF (bytes s)).num / ((valF (bytes s)).den:Int)))).toArray⟩) _ (fun w R Q=>(ZmF (k:=201) (Zaz.whole Q.2) ⟨Nat.lt_of_lt_of_le (show (-(-(valF (bytes s)).num / ((valF (bytes s)).den:Int))).natAbs < 10 ^ 200 from by rw [Int.natAbs_neg,← ZiM]; exact Nat.lt_of_le_of_lt (ZkN _) (Zl0 HQ).1) (Nat.pow_le_pow_right (by omega) (by decide)),Nat.one_lt_pow (by decide) (by omega)⟩ (by decide)).mono (fun _ _ h=>Zae h (by rw [ZjO]))) (fun xx=>?_)
 refine xr 1 [(2, .v (.string ⟨(Lib.itoa (-(-(valF (bytes s)).num / ((valF (bytes s)).den:Int)))).toArray⟩))] [] ?_
 refine xe (Zaa (Zan ?_))
 refine Zag (v:=.string ⟨(Lib.itoa (-(-(valF (bytes s)).num / ((valF (bytes s)).den:Int)))).toArray⟩) (by kernel_rfl) (fun w' R Q=>?_)
 exact ⟨rfl,R⟩
theorem ZqR (a:Value) (q:Rat) (w:World) (ha:ZaC w a q) (hq:Zbb q 38) :
 Calls Tryz.prog 86 #[a] w (Zbp w (-(-(q).num / ((q).den:Int)))):=by
 obtain ⟨s0,A0,l0,c0,t0,B0,m0,d0,rfl⟩:=ha.shp
 refine ZaB (Φ:=fun w=>ZaC w (.agg #[.bool s0, .slice A0 l0 c0, .bool t0, .slice B0 m0 d0]) (q)) Tryz.func86 rfl (by kernel_rfl) (fun w' hf=>ha.ext hf) ?_
 refine Zac (Zab (xr 2 [(1, .p 1 0),(2, .p 2 0)] [bI2 2 105 false none 0 0,bR4 1 107 s0 A0 l0 c0 t0 B0 m0 d0] ?_))
 refine xe (Zaa (Zac (Zab (xr 1 [(2, .p 2 0),eR4 3 s0 A0 l0 c0 t0 B0 m0 d0] [bI2 2 105 false none 0 0] ?_))))
 refine xc 165 [vR4 s0 A0 l0 c0 t0 B0 m0 d0] 4 ZaJ _ (fun w R Q=>(ZrI _ (q) _ Q).mono (fun _ _=>ZaL)) (fun xx=>?_)
 obtain ⟨s10,A10,l10,c10,t10,B10,m10,d10⟩:=xx
 refine xr 0 [(2, .p 2 0),eR4 4 s10 A10 l10 c10 t10 B10 m10 d10] [bI2 2 105 false none 0 0] ?_
 refine xc 83 [vR4 s10 A10 l10 c10 t10 B10 m10 d10] 5 Zam _ (fun w R Q=>(ZkO _ (-q) _ Q.2 hq.neg).mono (fun _ _ h=>Zaq (by rw [ZiM] at h; exact h))) (fun xx=>?_)
 obtain ⟨s11,A11,l11,c11⟩:=xx
 refine xr 0 [(2, .p 2 0),eI2 5 s11 A11 l11 c11] [bI2 2 105 false none 0 0] ?_
 refine xc 142 [vI2 s11 A11 l11 c11] 6 Zam _ (fun w R Q=>(ZdF _ (-(q).num / ((q).den:Int)) _ Q.2).mono (fun _ _=>Zaq)) (fun xx=>?_)
 obtain ⟨s12,A12,l12,c12⟩:=xx
 refine xr 1 [(2, .p 2 0)] [bI2 2 105 s12 A12 l12 c12] ?_
 refine xe (Zaa (Zan ?_))
 refine Zag (v:=.agg #[.bool s12, .slice A12 l12 c12]) (by kernel_rfl) (fun w' R Q=>?_)
 exact ⟨_,rfl,Q.2,R⟩
theorem ZqS (s:ByteArray) (w:World) (hg:Glob w) (hs:(bytes s).length≤570) :
 Calls Tryz.prog 26 #[.string s] w (RetV w (.string ⟨(Lib.itoa (-(-(valF (bytes s)).num / ((valF (bytes s)).den:Int)))).toArray⟩)):=by
 have fa:=Zbr hs
 refine ZaB (Φ:=fun w=>Glob w) Tryz.func26 rfl (by kernel_rfl) (fun w' hf=>hg.ext hf) ?_
 refine Zac (Zab (xr 1 [(0, .v (.string s)),(2, .v (.string ⟨#[]⟩))] [] ?_))
 refine xe (Zaa (Zac (Zab (xr 1 [(2, .v (.string ⟨#[]⟩)),(3, .v (.string s))] [] ?_))))
 refine xc 72 [.string s] 4 ZaJ _ (fun w R Q=>(Zbj s _ Q (ZbC.of_len hs)).mono (fun _ _=>ZaL)) (fun xx=>?_)
 obtain ⟨s10,A10,l10,c10,t10,B10,m10,d10⟩:=xx
 refine xr 0 [(2, .v (.string ⟨#[]⟩)),eR4 4 s10 A10 l10 c10 t10 B10 m10 d10] [] ?_
 refine xc 86 [vR4 s10 A10 l10 c10 t10 B10 m10 d10] 5 Zam _ (fun w R Q=>(ZqR _ (valF (bytes s)) _ Q.2 (fa.up (by decide))).mono (fun _ _=>Zaq)) (fun xx=>?_)
 obtain ⟨s11,A11,l11,c11⟩:=xx
 refine xr 0 [(2, .v (.string ⟨#[]⟩)),eI2 5 s11 A11 l11 c11] [] ?_
 refine xc 84 [vI2 s11 A11 l11 c11] 6 (fun _:Unit=>.string ⟨(Lib.itoa (-(-(valF (bytes s)).num / ((valF (bytes s)).den:Int)))).toArray⟩) _ (fun w R Q=>(Zg3 _ (-(-(valF (bytes s)).num / ((valF (bytes s)).den:Int))) _ Q.1.1 Q.2 (by rw [Int.natAbs_neg,← ZiM]; have:=Nat.le_trans (Za0 (ZkN (-(valF (bytes s))))) fa.neg.1; unfold Zbn; omega)).mono (fun _ _ h=>Zae h rfl)) (fun xx=>?_)
 refine xr 1 [(2, .v (.string ⟨(Lib.itoa (-(-(valF (bytes s)).num / ((valF (bytes s)).den:Int)))).toArray⟩))] [] ?_
 refine xe (Zaa (Zan ?_))
 refine Zag (v:=.string ⟨(Lib.itoa (-(-(valF (bytes s)).num / ((valF (bytes s)).den:Int)))).toArray⟩) (by kernel_rfl) (fun w' R Q=>?_)
 exact ⟨rfl,R⟩
theorem Zt0 {x y:Int} (hx:ml x.natAbs≤200000) (hy:ml y.natAbs≤200000):ZaT ((Int.gcd x y:Nat):Int):=by
 by_cases h0:y=0
 ·subst h0; rw [Int.gcd_zero]; exact nfit (mlc hx) (by decide)
 ·exact ZaT.gcd (nfit hy (by decide)) h0
theorem Zr2 (a b:Value) (p q:Rat) (w:World) (ha:Zaz w a p) (hb:Zaz w b q) (hp:ZmE p) (hq:ZmE q) :
 Calls Tryz.prog 30 #[a,b] w (Zex w (gcdQ p q)):=by
 obtain ⟨s0,A0,l0,c0,t0,B0,m0,d0,rfl⟩:=ha.shp
 obtain ⟨s1,A1,l1,c1,t1,B1,m1,d1,rfl⟩:=hb.shp
 refine ZaB (Φ:=fun w=>(Zaz w (.agg #[.bool s0, .slice A0 l0 c0, .bool t0, .slice B0 m0 d0]) (p)∧Zaz w (.agg #[.bool s1, .slice A1 l1 c1, .bool t1, .slice B1 m1 d1]) (q))) Tryz.func30 rfl (by kernel_rfl) (fun w' hf=>⟨ha.ext hf,hb.ext hf⟩) ?_
 refine Zac (Zab (xr 3 [(2, .p 2 0),(3, .p 3 0),(4, .p 4 0)] [bR4 4 45 false none 0 0 false none 0 0,bR4 3 45 s1 A1 l1 c1 t1 B1 m1 d1,bR4 2 45 s0 A0 l0 c0 t0 B0 m0 d0] ?_))
 refine xe (Zaa (Zac ?_))
 refine ZaE 13 (by kernel_rfl) (by kernel_rfl) Zaj ?_
 refine xf 3 [(2, .p 2 0),(3, .p 3 0),(4, .p 4 0),eI2 7 s0 A0 l0 c0,eR4 8 s1 A1 l1 c1 t1 B1 m1 d1] [bR4 4 45 false none 0 0 false none 0 0,bR4 3 45 s1 A1 l1 c1 t1 B1 m1 d1,bR4 2 45 s0 A0 l0 c0 t0 B0 m0 d0] ?_
 refine xd 79 [vR4 s1 A1 l1 c1 t1 B1 m1 d1] 9 Zam _ (fun w R Q=>(Zdc _ (q) _ Q.2).mono (fun _ _=>ZaK)) (fun xx=>?_)
 obtain ⟨s10,A10,l10,c10⟩:=xx
 refine xf 0 [(2, .p 2 0),(3, .p 3 0),(4, .p 4 0),eI2 7 s0 A0 l0 c0,eI2 9 s10 A10 l10 c10] [bR4 4 45 false none 0 0 false none 0 0,bR4 3 45 s1 A1 l1 c1 t1 B1 m1 d1,bR4 2 45 s0 A0 l0 c0 t0 B0 m0 d0] ?_
 refine xd 81 [vI2 s0 A0 l0 c0,vI2 s10 A10 l10 c10] 10 Zam _ (fun w R Q=>(Zhf _ _ ((p).num) (((q).den:Int)) _ Q.1.1.num Q.2 (nfit hp.1 (by decide)) (nfit (mlc hq.2) (by decide))).mono (fun _ _=>ZaK)) (fun xx=>?_)
 obtain ⟨s11,A11,l11,c11⟩:=xx
 refine xf 3 [(2, .p 2 0),(3, .p 3 0),(4, .p 4 0),eI2 10 s11 A11 l11 c11,eI2 12 s1 A1 l1 c1,eR4 13 s0 A0 l0 c0 t0 B0 m0 d0] [bR4 4 45 false none 0 0 false none 0 0,bR4 3 45 s1 A1 l1 c1 t1 B1 m1 d1,bR4 2 45 s0 A0 l0 c0 t0 B0 m0 d0] ?_
 refine xd 79 [vR4 s0 A0 l0 c0 t0 B0 m0 d0] 14 Zam _ (fun w R Q=>(Zdc _ (p) _ Q.1.1.1).mono (fun _ _=>ZaK)) (fun xx=>?_)
 obtain ⟨s12,A12,l12,c12⟩:=xx
 refine xf 0 [(2, .p 2 0),(3, .p 3 0),(4, .p 4 0),eI2 10 s11 A11 l11 c11,eI2 12 s1 A1 l1 c1,eI2 14 s12 A12 l12 c12] [bR4 4 45 false none 0 0 false none 0 0,bR4 3 45 s1 A1 l1 c1 t1 B1 m1 d1,bR4 2 45 s0 A0 l0 c0 t0 B0 m0 d0] ?_
 refine xd 81 [vI2 s1 A1 l1 c1,vI2 s12 A12 l12 c12] 15 Zam _ (fun w R Q=>(Zhf _ _ ((q).num) (((p).den:Int)) _ Q.1.1.1.2.num Q.2 (nfit hq.1 (by decide)) (nfit (mlc hp.2) (by decide))).mono (fun _ _=>ZaK)) (fun xx=>?_)
 obtain ⟨s13,A13,l13,c13⟩:=xx
 refine xf 0 [(2, .p 2 0),(3, .p 3 0),(4, .p 4 0),eI2 10 s11 A11 l11 c11,eI2 15 s13 A13 l13 c13] [bR4 4 45 false none 0 0 false none 0 0,bR4 3 45 s1 A1 l1 c1 t1 B1 m1 d1,bR4 2 45 s0 A0 l0 c0 t0 B0 m0 d0] ?_
 refine xd 93 [vI2 s11 A11 l11 c11,vI2 s13 A13 l13 c13] 16 Zam _ (fun w R Q=>(ZjM _ _ ((p).num * ((q).den:Int)) ((q).num * ((p).den:Int)) _ Q.1.1.2 Q.2 (nfit (mlm hp.1 (mlc hq.2)) (by decide)) (nfit (mlm hq.1 (mlc hp.2)) (by decide))).mono (fun _ _=>ZaK)) (fun xx=>?_)
 obtain ⟨s14,A14,l14,c14⟩:=xx
 refine xf 2 [(2, .p 2 0),(3, .p 3 0),(4, .p 4 0),(5, .p 5 0)] [bI2 5 43 s14 A14 l14 c14,bI2 5 43 false none 0 0,bR4 4 45 false none 0 0 false none 0 0,bR4 3 45 s1 A1 l1 c1 t1 B1 m1 d1,bR4 2 45 s0 A0 l0 c0 t0 B0 m0 d0] ?_
 refine xz (xe (Zaa (Zac ?_)))
 refine ZaE 8 (by kernel_rfl) (by kernel_rfl) Zaj ?_
 refine xf 2 [(3, .p 3 0),(4, .p 4 0),eI2 17 s14 A14 l14 c14,eR4 18 s0 A0 l0 c0 t0 B0 m0 d0] [bI2 5 43 s14 A14 l14 c14,bI2 5 43 false none 0 0,bR4 4 45 false none 0 0 false none 0 0,bR4 3 45 s1 A1 l1 c1 t1 B1 m1 d1,bR4 2 45 s0 A0 l0 c0 t0 B0 m0 d0] ?_
 refine xd 79 [vR4 s0 A0 l0 c0 t0 B0 m0 d0] 19 Zam _ (fun w R Q=>(Zdc _ (p) _ Q.1.1.1.1.1.1).mono (fun _ _=>ZaK)) (fun xx=>?_)
 obtain ⟨s15,A15,l15,c15⟩:=xx
 refine xf 1 [(4, .p 4 0),eI2 17 s14 A14 l14 c14,eI2 19 s15 A15 l15 c15,eR4 20 s1 A1 l1 c1 t1 B1 m1 d1] [bI2 5 43 s14 A14 l14 c14,bI2 5 43 false none 0 0,bR4 4 45 false none 0 0 false none 0 0,bR4 3 45 s1 A1 l1 c1 t1 B1 m1 d1,bR4 2 45 s0 A0 l0 c0 t0 B0 m0 d0] ?_
 refine xd 79 [vR4 s1 A1 l1 c1 t1 B1 m1 d1] 21 Zam _ (fun w R Q=>(Zdc _ (q) _ Q.1.1.1.1.1.1.2).mono (fun _ _=>ZaK)) (fun xx=>?_)
 obtain ⟨s16,A16,l16,c16⟩:=xx
 refine xf 0 [(4, .p 4 0),eI2 17 s14 A14 l14 c14,eI2 19 s15 A15 l15 c15,eI2 21 s16 A16 l16 c16] [bI2 5 43 s14 A14 l14 c14,bI2 5 43 false none 0 0,bR4 4 45 false none 0 0 false none 0 0,bR4 3 45 s1 A1 l1 c1 t1 B1 m1 d1,bR4 2 45 s0 A0 l0 c0 t0 B0 m0 d0] ?_
 refine xd 81 [vI2 s15 A15 l15 c15,vI2 s16 A16 l16 c16] 22 Zam _ (fun w R Q=>(Zhf _ _ (((p).den:Int)) (((q).den:Int)) _ Q.1.2 Q.2 (nfit (mlc hp.2) (by decide)) (nfit (mlc hq.2) (by decide))).mono (fun _ _=>ZaK)) (fun xx=>?_)
 obtain ⟨s17,A17,l17,c17⟩:=xx
 refine xf 0 [(4, .p 4 0),eI2 17 s14 A14 l14 c14,eI2 22 s17 A17 l17 c17] [bI2 5 43 s14 A14 l14 c14,bI2 5 43 false none 0 0,bR4 4 45 false none 0 0 false none 0 0,bR4 3 45 s1 A1 l1 c1 t1 B1 m1 d1,bR4 2 45 s0 A0 l0 c0 t0 B0 m0 d0] ?_
 refine xd 82 [vI2 s14 A14 l14 c14,vI2 s17 A17 l17 c17] 23 ZaJ _ (fun w R Q=>(Zip _ _ (((Int.gcd ((p).num * ((q).den:Int)) ((q).num * ((p).den:Int)):Nat):Int)) (((p).den:Int) * ((q).den:Int)) _ Q.1.1.1.2 Q.2 (Zt0 (mlm hp.1 (mlc hq.2)) (mlm hq.1 (mlc hp.2))) (nfit (mlm (mlc hp.2) (mlc hq.2)) (by decide)) (Ztb p q)).mono (fun _ _ h=>ZbE (by rw [show Rat.divInt (((Int.gcd ((p).num * ((q).den:Int)) ((q).num * ((p).den:Int)):Nat):Int)) (((p).den:Int) * ((q).den:Int))=gcdQ p q from rfl] at h; exact h))) (fun xx=>?_)
 obtain ⟨s18,A18,l18,c18,t18,B18,m18,d18⟩:=xx
 refine xf 1 [(4, .p 4 0)] [bR4 4 45 s18 A18 l18 c18 t18 B18 m18 d18,bI2 5 43 s14 A14 l14 c14,bI2 5 43 false none 0 0,bR4 4 45 false none 0 0 false none 0 0,bR4 3 45 s1 A1 l1 c1 t1 B1 m1 d1,bR4 2 45 s0 A0 l0 c0 t0 B0 m0 d0] ?_
 refine xz (xe (Zaa (Zan ?_)))
 refine Zag (v:=.agg #[.bool s18, .slice A18 l18 c18, .bool t18, .slice B18 m18 d18]) (by kernel_rfl) (fun w' R Q=>?_)
 exact ⟨_,rfl,Q.2,R⟩
end Go.Proofs.YthlipnahcbcjkaaGreatDoor

namespace Go.Proofs.YthlipnahcbcjkaaGreatDoor
open Go.RowKit
theorem Zr6 {ys:List Nat} {t k:Nat} (hd:Dig W64 (ys ++ [t])) (hk:1≤k) (h1:2 ^ (k - 1)≤t) (h2:t < 2 ^ k):blen (val W64 (ys ++ [t]))=64 * ys.length + k:=by
 have hi:=ZcX.2 (ZnK hd h2)
 have lo:¬ blen (val W64 (ys ++ [t]))≤64 * ys.length + (k - 1):=fun h=>by
  have h3:=ZcX.1 h
  rw [Za6] at h3
  have e:W64 ^ ys.length=2 ^ (64 * ys.length):=by rw [Zai,show (18446744073709551616:Nat)=2 ^ 64 from rfl,← Nat.pow_mul]
  have h4:val W64 [t]=t:=by simp
  rw [h4,e,Nat.pow_add] at h3
  have h5:=Nat.mul_le_mul_left (2 ^ (64 * ys.length)) h1
  omega
 omega
set_option maxHeartbeats 1000000 in
theorem Zmx (a:Value) (n:Nat) (w:World) (ha:Zak w a n) (h0:0 < n) (hl:wl n≤1000) :
 Calls Tryz.prog 173 #[a] w (RetV w (.int .i64 ((blen n:Nat):Int))):=by
 obtain ⟨A,xs,c,rfl,hc,h1,h2,h3,h4⟩:=ha
 have hlen:=ZaU h2 h3
 rw [h4] at hlen
 have hne:xs≠[]:=fun e=>by subst e; simp at h4; omega
 obtain ⟨ys,t,rfl⟩:∃ ys t,xs=ys ++ [t]:=⟨xs.dropLast,xs.getLast hne,(List.dropLast_concat_getLast hne).symm⟩
 obtain ⟨b,o,rfl,hb,hcell⟩:=h1.at (i:=ys.length) (by simp)
 have ht:t < W64:=h2 t (List.mem_append_right _ List.mem_cons_self)
 simp at hcell
 rw [Zai] at ht
 have ht0:0 < t:=by
  refine Nat.pos_of_ne_zero fun e=>?_
  subst e
  have hv:val W64 (ys ++ [0]) < W64 ^ ys.length:=by
   rw [Za6]
   have:=ZaX (B:=W64) (xs:=ys) (fun x hx=>h2 x (List.mem_append_left _ hx))
   simpa using this
  rw [h4] at hv
  have:=ZbA.2 hv
  simp at hlen; omega
 obtain ⟨k,hk⟩:∃ k,Lib.bitLen t=k:=⟨_,rfl⟩
 have hbb:=Zdx ht0 (by rw [Zai]; exact ht)
 rw [hk] at hbb
 obtain ⟨hk1,hk64,hklo,hkt⟩:=hbb
 have HB:=zh (Zr6 h2 hk1 hklo hkt)
 rw [h4] at HB
 have hys:ys.length < 1000:=by simp at hlen; omega
 generalize hyl:ys.length=L at *
 have hxl:(ys ++ [t]).length=L + 1:=by simp [hyl]
 rw [hxl]
 clear h1 h2 h3 h4 hc hlen hne hxl hk1 hkt hklo ht0
 have e1:(((L + 1:Nat):Int) == 0)=false:=by simp; omega
 have e2:IntKind.i64.wrap (((L + 1:Nat):Int) - 1)=(L:Int):=by rw [IntKind.wrap_i64]; omega
 have e3:IntKind.i64.wrap (64 * (L:Int))=((64 * L:Nat):Int):=by rw [IntKind.wrap_i64]; omega
 have e4:IntKind.i64.wrap (((64 * L:Nat):Int) + (k:Int))=((64 * L + k:Nat):Int):=by rw [IntKind.wrap_i64]; omega
 have HL:Hid (∀ W:World,Calls Tryz.prog 235 #[.int .u64 (t:Int)] W fun e w'=>e=.returned (.int .i64 (k:Int))∧w'=W):=fun W=>by
  have:=Tryz.bits_Len64 (t:Int) W (by omega) (by omega)
  rwa [Int.toNat_natCast,hk] at this
 have HK:=zh hk64
 have HY:=zh hys
 clear hk ht hk64 h0 hl
 go_enter Tryz.func173,Tryz.ntmps173
 go_wp2_with fail
 refine (HL.out _).mono ?_
 rintro e w' ⟨rfl,rfl⟩
 go_wp2
 go_ret
 have hw:wrap64 (64 * (L:Int) + (k:Int))=((64 * L + k:Nat):Int):=by
  have:=HK.out; have:=HY.out
  unfold wrap64; omega
 exact ⟨by rw [HB.out,← hw]; rfl,Fr.refl _ _⟩
theorem Zlx (a:Value) (w:World) (ha:Zak w a 0):Calls Tryz.prog 173 #[a] w (RetV w (.int .i64 0)):=by
 obtain ⟨A0,l0,c0,rfl⟩:=ha.slice
 obtain rfl:l0=0:=by have:=ha.len0; rw [Zep] at this; exact this
 go_enter Tryz.func173,Tryz.ntmps173
 go_wp2
 go_ret
 exact ⟨rfl,Fr.refl _ _⟩
theorem Zly (a:Value) (n:Nat) (w:World) (ha:Zak w a n) (hl:wl n≤1000):Calls Tryz.prog 173 #[a] w (RetV w (.int .i64 ((blen n:Nat):Int))):=by
 rcases Nat.eq_zero_or_pos n with rfl | h0
 ·exact Zlx a w ha
 ·exact Zmx a n w ha h0 hl
end Go.Proofs.YthlipnahcbcjkaaGreatDoor
