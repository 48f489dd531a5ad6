/-
 My texts Rnd, RndL put together.
-/
import Derived.Test.YthlipnahcbcjkaaGreatDoorM21
import Derived.Test.YthlipnahcbcjkaaGreatDoorM22
import Derived.Test.YthlipnahcbcjkaaGreatDoorM17
import Derived.Test.YthlipnahcbcjkaaGreatDoorM16
import Derived.Test.YthlipnahcbcjkaaGreatDoorM19
set_option maxRecDepth 100000
namespace Go.Proofs.YthlipnahcbcjkaaGreatDoor
open Go.RowKit
theorem ZoW (n:Nat):∃ r:Nat,r * r≤n∧n < (r + 1) * (r + 1):=by
 induction n with
 | zero=>exact ⟨0,by omega,by omega⟩
 | succ n ih =>
   obtain ⟨r,h1,h2⟩:=ih
   by_cases h:n + 1 < (r + 1) * (r + 1)
   ·exact ⟨r,by omega,h⟩
   ·refine ⟨r + 1,by omega,?_⟩
    have:(r + 1 + 1) * (r + 1 + 1)=(r + 1) * (r + 1) + 2 * (r + 1) + 1:=by simp only [Nat.mul_add,Nat.add_mul]; omega
    omega
theorem Zum {k m:Nat} (h:k≤32 * m):ml (1 * 2 ^ ((k + 1) / 2))≤m + 1:=by
 rw [Nat.one_mul]
 refine ZbK.2 ?_
 rw [ZfD]
 exact Nat.pow_lt_pow_right (by omega) (by omega)
theorem ZiN (n:Nat):blen n≤32 * ml n:=by
 refine ZcX.2 ?_
 have:=Zgh n
 rwa [ZfD] at this
section
variable {a b:Value} {x r k:Nat} {w:World}
theorem Zr7 (ha:Zap w a ((x:Nat):Int)) (hx:ml x≤100000) (h0:0 < x):Calls Tryz.prog 157 #[a, .int .i64 (-1)] w (Za1 w ((x / 2 ^ 1:Nat):Int)) :=
 Zr5 a x _ w ha (nfit (mlc hx) (by decide)) h0 (by rw [Nat.pow_one]; exact Zt2)
theorem Zr8 (ha:Zap w a 1) (hk:k≤1099511627776):Calls Tryz.prog 157 #[a, .int .i64 (k:Int)] w (Za1 w ((1 * 2 ^ k:Nat):Int)):=by
 have h:=ZqV a 1 k w ha (nfit (k:=1) (ZbK.2 (by rw [Zaw]; decide)) (by decide)) hk
 rwa [show (1:Int) * 2 ^ k=((1 * 2 ^ k:Nat):Int) by simp] at h
theorem Zr9 (ha:Zap w a ((x:Nat):Int)) (hb:Zap w b ((r:Nat):Int)) (hx:ml x≤100000) (hr:ml r≤100000) (h0:0 < r):Calls Tryz.prog 158 #[a,b] w (ZiI w ((x / r:Nat):Int) ((x % r:Nat):Int)):=by
 have h:=ZdJ a b x r w ha hb (nfit (mlc hx) (by decide)) (nfit (mlc hr) (by decide)) (by omega)
 rwa [← Int.ofNat_tdiv,← Int.ofNat_tmod] at h
theorem Zsa (ha:Zap w a ((x:Nat):Int)) (hb:Zap w b ((r:Nat):Int)) (hx:ml x≤100000) (hr:ml r≤100000):Calls Tryz.prog 159 #[a,b] w (Za1 w ((x + r:Nat):Int)) :=
 Zne a b x r w ha hb (nfit (mlc hx) (by decide)) (nfit (mlc hr) (by decide))
theorem ZnL (ha:Zap w a ((x:Nat):Int)) (hb:Zap w b ((r:Nat):Int)) (hx:ml x≤100000) (hr:ml r≤100000):Calls Tryz.prog 80 #[a,b] w (RetV w (.int .i64 (((x:Nat):Int) - ((r:Nat):Int)).sign)) :=
 Ze4 a b x r w ha hb (nfit (mlc hx) (by decide)) (nfit (mlc hr) (by decide))
theorem Zsb (ha:Zap w a ((x:Nat):Int)) (hb:Zap w b ((r:Nat):Int)) (hx:ml x≤100000) (hr:ml r≤100000):Calls Tryz.prog 81 #[a,b] w (Za1 w ((x * r:Nat):Int)):=by
 have h:=Zhf a b x r w ha hb (nfit (mlc hx) (by decide)) (nfit (mlc hr) (by decide))
 rwa [← Int.natCast_mul] at h
end
theorem Ztc {x r:Nat} (h:x < r):decide ((((x:Nat):Int) - ((r:Nat):Int)).sign ≥ 0)=false:=decide_eq_false (fun e=>by
 have:=Int.sign_eq_neg_one_of_neg (show ((x:Nat):Int) - ((r:Nat):Int) < 0 by omega)
 omega)
theorem Ztd {x r:Nat} (h:¬ x < r):decide ((((x:Nat):Int) - ((r:Nat):Int)).sign ≥ 0)=true:=decide_eq_true (by
 have:=Int.sign_nonneg_iff.2 (show 0≤((x:Nat):Int) - ((r:Nat):Int) by omega)
 exact this)
theorem rs1 {k:Nat} (h:k≤100000):IntKind.i64.wrap ((k:Int) + 1)=((k + 1:Nat):Int):=by rw [IntKind.wrap_i64]; omega
theorem rs2 {k:Nat} (h:k≤100000):IntKind.i64.wrap (((k + 1:Nat):Int).tdiv 2)=(((k + 1) / 2:Nat):Int):=by
 rw [show (2:Int)=((2:Nat):Int) from rfl,← Int.ofNat_tdiv,IntKind.wrap_i64]; omega
theorem rs3 {j k:Nat} (hj:j≤100000) (hk:k≤100000):IntKind.i64.wrap ((j:Int) + (k:Int))=((j + k:Nat):Int):=by rw [IntKind.wrap_i64]; omega
theorem Zsp {x r:Nat} (hr:ml r≤1001) (hx:ml x≤1000):ml (r + x / r)≤1002:=ZtG hr (Nat.le_trans (ZcG (Nat.div_le_self _ _)) (by omega))
theorem ZqW {x r:Nat} (hr:ml r≤1001) (hx:ml x≤1000):ml ((r + x / r) / 2 ^ 1)≤1002:=Nat.le_trans (ZcG (Nat.div_le_self _ _)) (Zsp hr hx)
theorem ZqX (a:Value) (x r0:Nat) (w:World) (ha:Zap w a ((x:Nat):Int)) (h0:0 < x) (hx:ml x≤1000) (h1:r0 * r0≤x) (h2:x < (r0 + 1) * (r0 + 1)) :
 Calls Tryz.prog 78 #[a] w (Za1 w ((r0:Nat):Int)):=by
 obtain ⟨s0,A0,l0,c0,rfl⟩:=ha.shp
 have hl0:¬ l0=0:=by have:=ha.lenp (by omega); omega
 refine ZaB (Φ:=fun w=>Zap w (.agg #[.bool s0, .slice A0 l0 c0]) (((x:Nat):Int))) Tryz.func78 rfl (by kernel_rfl) (fun w' hf=>ha.ext hf) ?_
 refine Zac (Zab (xr 2 [(1, .p 1 0),(2, .p 2 0)] [bI2 2 43 false none 0 0,bI2 1 43 s0 A0 l0 c0] ?_))
 refine xe (Zaa (Zac (Zac (Zab (xr 4 [(1, .p 1 0),(2, .p 2 0),(10, .v (.bool ((((l0:Nat):Int):Int) == 0)))] [bI2 2 43 false none 0 0,bI2 1 43 s0 A0 l0 c0] ?_)))))
 rw [l_nz hl0]
 refine xr 0 [(1, .p 1 0),(2, .p 2 0),(10, .v (.bool false))] [bI2 2 43 false none 0 0,bI2 1 43 s0 A0 l0 c0] ?_
 refine xe (Zaa (xb (ZaA (Zaa (Zac ?_)))))
 refine ZaE 8 (by kernel_rfl) (by kernel_rfl) Zaj ?_
 refine xd 103 [.int .i64 1] 12 Zam _ (fun w R Q=>(ZeN 1 _ (by decide) (by decide)).mono (fun _ _=>ZaK)) (fun xx=>?_)
 obtain ⟨s10,A10,l10,c10⟩:=xx
 refine xf 1 [(1, .p 1 0),(2, .p 2 0),eI2 12 s10 A10 l10 c10,eI2 13 s0 A0 l0 c0] [bI2 2 43 false none 0 0,bI2 1 43 s0 A0 l0 c0] ?_
 refine xd 96 [vI2 s0 A0 l0 c0] 14 (fun _:Unit=>.int .i64 ((blen x:Nat):Int)) _ (fun w R Q=>(Zc6 _ ((x:Nat):Int) _ Q.1 (nfit (mlc hx) (by decide))).mono (fun _ _ h=>Zae h rfl)) (fun xx=>?_)
 refine xf 1 [(1, .p 1 0),(2, .p 2 0),eI2 12 s10 A10 l10 c10,(15, .v (.int .i64 (IntKind.i64.wrap (((blen x:Nat):Int) + 1))))] [bI2 2 43 false none 0 0,bI2 1 43 s0 A0 l0 c0] ?_
 rw [rs1 (k:=blen x) (by have:=ZiN x; omega)]
 refine xf 1 [(1, .p 1 0),(2, .p 2 0),eI2 12 s10 A10 l10 c10,(16, .v (.int .i64 (IntKind.i64.wrap ((((blen x + 1:Nat):Int)).tdiv 2))))] [bI2 2 43 false none 0 0,bI2 1 43 s0 A0 l0 c0] ?_
 rw [rs2 (k:=blen x) (by have:=ZiN x; omega)]
 refine xd 157 [vI2 s10 A10 l10 c10, .int .i64 (((blen x + 1) / 2:Nat):Int)] 17 Zam _ (fun w R Q=>(Zr8 (k:=(blen x + 1) / 2) Q.1.2 (by have:=ZiN x; omega)).mono (fun _ _=>ZaK)) (fun xx=>?_)
 obtain ⟨s11,A11,l11,c11⟩:=xx
 refine xf 2 [(1, .p 1 0),(2, .p 2 0),(3, .p 3 0)] [bI2 3 43 s11 A11 l11 c11,bI2 3 43 false none 0 0,bI2 2 43 false none 0 0,bI2 1 43 s0 A0 l0 c0] ?_
 refine xz (xe (Zaa (ZbD ?_)))
 refine SXc.weak [(1, .p 1 0),(2, .p 2 0),(3, .p 3 0)] [(3,43,[.v (.bool s11), .v (.slice A11 l11 c11)]),(2,43,[.v (.bool false), .v (.slice none 0 0)]),(1,43,[.v (.bool s0), .v (.slice A0 l0 c0)])] (Ψ:=fun w=>(Zap w (.agg #[.bool s0, .slice A0 l0 c0]) (((x:Nat):Int))∧Zap w (.agg #[.bool s11, .slice A11 l11 c11]) ((((1 * 2 ^ ((blen x + 1) / 2)):Nat):Int)))) (Zb8.of (by kernel_rfl)) (by kernel_rfl) (fun w Q=>⟨Q.1.1.1,Q.2⟩) ?_
 refine ZiH (fun nn ss ff=>∃ (gs:Bool) (gA:Option Addr) (gl gc r:Nat),ss=ofL [(1, .p 1 0),(2, .p 2 0),(3, .p 3 0)] [(3,43,[.v (.bool gs), .v (.slice gA gl gc)]),(2,43,[.v (.bool false), .v (.slice none 0 0)]),(1,43,[.v (.bool s0), .v (.slice A0 l0 c0)])]∧ff=(fun w=>(Zap w (.agg #[.bool s0, .slice A0 l0 c0]) (((x:Nat):Int))∧Zap w (.agg #[.bool gs, .slice gA gl gc]) (((r:Nat):Int))))∧(x < (r + 1) * (r + 1))∧(0 < r)∧(ml r≤1001)∧nn=(1 + r)) ((1 + (1 * 2 ^ ((blen x + 1) / 2)))) ⟨s11,A11,l11,c11,(1 * 2 ^ ((blen x + 1) / 2)),rfl,rfl,(Zhu (ZfG x)).1,(Zhu (ZfG x)).2,(Nat.le_trans (Zum (m:=ml x) (ZiN x)) (by omega)),rfl⟩ ?_
 rintro nn ss ff ⟨gs,gA,gl,gc,r,rfl,rfl,hr,hr0,hw,rfl⟩
 refine ZbD (Zac (Zab (xr 2 [(1, .p 1 0),(2, .p 2 0),(3, .p 3 0),eI2 19 s0 A0 l0 c0,eI2 20 gs gA gl gc] [bI2 3 43 gs gA gl gc,bI2 2 43 false none 0 0,bI2 1 43 s0 A0 l0 c0] ?_)))
 refine xc 158 [vI2 s0 A0 l0 c0,vI2 gs gA gl gc] 21 Zdp _ (fun w R Q=>(Zr9 Q.1 Q.2 (Nat.le_trans hx (by decide)) (Nat.le_trans hw (by decide)) hr0).mono (fun _ _=>Zez)) (fun xx=>?_)
 obtain ⟨⟨s12,A12,l12,c12⟩,⟨s13,A13,l13,c13⟩⟩:=xx
 refine xr 7 [(1, .p 1 0),(2, .p 2 0),(3, .p 3 0),(4, .p 4 0)] [bI2 4 43 s12 A12 l12 c12,bI2 3 43 gs gA gl gc,bI2 2 43 false none 0 0,bI2 1 43 s0 A0 l0 c0] ?_
 refine xe (Zaa (Zac (Zab (xr 2 [(1, .p 1 0),(2, .p 2 0),(3, .p 3 0),eI2 24 gs gA gl gc,eI2 25 s12 A12 l12 c12] [bI2 3 43 gs gA gl gc,bI2 2 43 false none 0 0,bI2 1 43 s0 A0 l0 c0] ?_))))
 refine xc 159 [vI2 gs gA gl gc,vI2 s12 A12 l12 c12] 26 Zam _ (fun w R Q=>(Zsa (x:=r) (r:=x / r) Q.1.2 Q.2.1 (Nat.le_trans hw (by decide)) (Nat.le_trans (ZcG (Nat.div_le_self x r)) (Nat.le_trans hx (by decide)))).mono (fun _ _=>ZaK)) (fun xx=>?_)
 obtain ⟨s14,A14,l14,c14⟩:=xx
 refine xr 0 [(1, .p 1 0),(2, .p 2 0),(3, .p 3 0),eI2 26 s14 A14 l14 c14] [bI2 3 43 gs gA gl gc,bI2 2 43 false none 0 0,bI2 1 43 s0 A0 l0 c0] ?_
 refine xc 157 [vI2 s14 A14 l14 c14, .int .i64 (-1)] 27 Zam _ (fun w R Q=>(Zr7 (x:=r + x / r) Q.2 (Nat.le_trans (Zsp hw hx) (by decide)) (Nat.add_pos_left hr0 _)).mono (fun _ _=>ZaK)) (fun xx=>?_)
 obtain ⟨s15,A15,l15,c15⟩:=xx
 refine xr 2 [(1, .p 1 0),(2, .p 2 0),(3, .p 3 0),(6, .p 6 0)] [bI2 6 43 s15 A15 l15 c15,bI2 3 43 gs gA gl gc,bI2 2 43 false none 0 0,bI2 1 43 s0 A0 l0 c0] ?_
 refine xe (Zaa (Zac (Zac ?_)))
 by_cases hlt:(r + x / r) / 2 ^ 1 < r
 ·refine Zab (xr 2 [(1, .p 1 0),(2, .p 2 0),(3, .p 3 0),(6, .p 6 0),eI2 28 s15 A15 l15 c15,eI2 29 gs gA gl gc] [bI2 6 43 s15 A15 l15 c15,bI2 3 43 gs gA gl gc,bI2 2 43 false none 0 0,bI2 1 43 s0 A0 l0 c0] ?_)
  refine xc 80 [vI2 s15 A15 l15 c15,vI2 gs gA gl gc] 30 (fun _:Unit=>.int .i64 ((((r + x / r) / 2 ^ 1:Nat):Int) - ((r:Nat):Int)).sign) _ (fun w R Q=>(ZnL (x:=(r + x / r) / 2 ^ 1) (r:=r) Q.2 Q.1.1.1.2 (Nat.le_trans (ZqW hw hx) (by decide)) (Nat.le_trans hw (by decide))).mono (fun _ _ h=>Zae h rfl)) (fun xx=>?_)
  refine xr 1 [(1, .p 1 0),(2, .p 2 0),(3, .p 3 0),(6, .p 6 0),(31, .v (.bool (decide (((((r + x / r) / 2 ^ 1:Nat):Int) - ((r:Nat):Int)).sign ≥ 0))))] [bI2 6 43 s15 A15 l15 c15,bI2 3 43 gs gA gl gc,bI2 2 43 false none 0 0,bI2 1 43 s0 A0 l0 c0] ?_
  rw [Ztc hlt]
  refine xr 0 [(1, .p 1 0),(2, .p 2 0),(3, .p 3 0),(6, .p 6 0),(31, .v (.bool false))] [bI2 6 43 s15 A15 l15 c15,bI2 3 43 gs gA gl gc,bI2 2 43 false none 0 0,bI2 1 43 s0 A0 l0 c0] ?_
  refine xe (Zaa (xb (ZaA (Zaa (Zab (xr 2 [(1, .p 1 0),(2, .p 2 0),(3, .p 3 0)] [bI2 3 43 s15 A15 l15 c15,bI2 2 43 false none 0 0,bI2 1 43 s0 A0 l0 c0] ?_))))))
  refine xe (ZeM ?_)
  refine SXq.weak [(1, .p 1 0),(2, .p 2 0),(3, .p 3 0)] [(3,43,[.v (.bool s15), .v (.slice A15 l15 c15)]),(2,43,[.v (.bool false), .v (.slice none 0 0)]),(1,43,[.v (.bool s0), .v (.slice A0 l0 c0)])] (Ψ:=fun w=>(Zap w (.agg #[.bool s0, .slice A0 l0 c0]) (((x:Nat):Int))∧Zap w (.agg #[.bool s15, .slice A15 l15 c15]) (((((r + x / r) / 2 ^ 1):Nat):Int)))) (Zb8.of (by kernel_rfl)) (by kernel_rfl) (fun w Q=>⟨Q.1.1.1.1.1,Q.1.2⟩) ?_
  exact Zhn ((1 + ((r + x / r) / 2 ^ 1))) (by omega) ⟨s15,A15,l15,c15,((r + x / r) / 2 ^ 1),rfl,rfl,(ZiK hr0 h0).1,(ZiK hr0 h0).2,(Nat.le_trans (ZcG (Nat.le_of_lt hlt)) hw),rfl⟩
 ·refine Zab (xr 2 [(1, .p 1 0),(2, .p 2 0),(3, .p 3 0),(6, .p 6 0),eI2 28 s15 A15 l15 c15,eI2 29 gs gA gl gc] [bI2 6 43 s15 A15 l15 c15,bI2 3 43 gs gA gl gc,bI2 2 43 false none 0 0,bI2 1 43 s0 A0 l0 c0] ?_)
  refine xc 80 [vI2 s15 A15 l15 c15,vI2 gs gA gl gc] 30 (fun _:Unit=>.int .i64 ((((r + x / r) / 2 ^ 1:Nat):Int) - ((r:Nat):Int)).sign) _ (fun w R Q=>(ZnL (x:=(r + x / r) / 2 ^ 1) (r:=r) Q.2 Q.1.1.1.2 (Nat.le_trans (ZqW hw hx) (by decide)) (Nat.le_trans hw (by decide))).mono (fun _ _ h=>Zae h rfl)) (fun xx=>?_)
  refine xr 1 [(1, .p 1 0),(2, .p 2 0),(3, .p 3 0),(6, .p 6 0),(31, .v (.bool (decide (((((r + x / r) / 2 ^ 1:Nat):Int) - ((r:Nat):Int)).sign ≥ 0))))] [bI2 6 43 s15 A15 l15 c15,bI2 3 43 gs gA gl gc,bI2 2 43 false none 0 0,bI2 1 43 s0 A0 l0 c0] ?_
  rw [Ztd hlt]
  refine xr 0 [(1, .p 1 0),(2, .p 2 0),(3, .p 3 0),(6, .p 6 0),(31, .v (.bool true))] [bI2 6 43 s15 A15 l15 c15,bI2 3 43 gs gA gl gc,bI2 2 43 false none 0 0,bI2 1 43 s0 A0 l0 c0] ?_
  refine xe (Zaa (xa (Zac (Zab (xr 2 [(1, .p 1 0),(2, .p 2 0),(3, .p 3 0),(6, .p 6 0)] [bI2 6 43 s15 A15 l15 c15,bI2 3 43 gs gA gl gc,bI2 2 43 gs gA gl gc,bI2 1 43 s0 A0 l0 c0] ?_)))))
  refine xe (Zaa (Zan (Zao (Zcj (Zao (Zcj ?_))))))
  refine Zag (v:=.agg #[.bool gs, .slice gA gl gc]) (by kernel_rfl) (fun w' R Q=>?_)
  exact ⟨_,rfl,by have h:=Q.1.1.1.1.2; rwa [ZqO hlt hr h1 h2] at h,R⟩
theorem ZpJ (a:Value) (w:World) (ha:Zap w a 0) :
 Calls Tryz.prog 78 #[a] w (Za1 w 0):=by
 obtain ⟨s0,A0,l0,c0,rfl⟩:=ha.shp
 obtain rfl:l0=0:=ha.len0 rfl
 refine ZaB (Φ:=fun w=>Zap w (.agg #[.bool s0, .slice A0 0 c0]) (0)) Tryz.func78 rfl (by kernel_rfl) (fun w' hf=>ha.ext hf) ?_
 refine Zac (Zab (xr 2 [(1, .p 1 0),(2, .p 2 0)] [bI2 2 43 false none 0 0,bI2 1 43 s0 A0 0 c0] ?_))
 refine xe (Zaa (Zac (Zac (Zab (xr 4 [(1, .p 1 0),(2, .p 2 0),(10, .v (.bool true))] [bI2 2 43 false none 0 0,bI2 1 43 s0 A0 0 c0] ?_)))))
 refine xe (Zaa (xa (Zac (Zab (xr 2 [(1, .p 1 0),(2, .p 2 0)] [bI2 2 43 false none 0 0,bI2 1 43 s0 A0 0 c0] ?_)))))
 refine xe (Zaa (Zan (Zao ?_)))
 refine Zag (v:=.agg #[.bool false, .slice none 0 0]) (by kernel_rfl) (fun w' R Q=>?_)
 exact ⟨_,rfl,Zap.nil _,R⟩
theorem ZeB (a:Value) (x:Int) (r0:Nat) (w:World) (ha:Zap w a x) (h0:0≤x) (hx:ml x.natAbs≤1000) (h1:r0 * r0≤x.natAbs) (h2:x.natAbs < (r0 + 1) * (r0 + 1)):Calls Tryz.prog 78 #[a] w (Za1 w ((r0:Nat):Int)):=by
 obtain ⟨n,rfl⟩:=Int.eq_ofNat_of_zero_le h0
 rw [Int.natAbs_natCast] at hx h1 h2
 rcases Nat.eq_zero_or_pos n with rfl | hp
 ·obtain rfl:r0=0:=by
   rcases Nat.eq_zero_or_pos r0 with e | e
   ·exact e
   ·have:=Nat.mul_le_mul e e; omega
  exact ZpJ a w ha
 ·exact ZqX a n r0 w ha hp hx h1 h2
theorem ZkU (a:Value) (x:Int) (w:World) (ha:Zav w a x) (hx:wl x.natAbs≤1000) :
 Calls Tryz.prog 95 #[a] w (RetV w (.int .i64 ((blen (x).natAbs:Nat):Int))):=by
 obtain ⟨s0,A0,l0,c0,rfl⟩:=ha.shp
 refine ZaB (Φ:=fun w=>Zav w (.agg #[.bool s0, .slice A0 l0 c0]) (x)) Tryz.func95 rfl (by kernel_rfl) (fun w' hf=>ha.ext hf) ?_
 refine Zac (Zab (xr 2 [(1, .p 1 0),(2, .v (.int .i64 0))] [bI2 1 105 s0 A0 l0 c0] ?_))
 refine xe (Zaa (Zac (Zab (xr 2 [(2, .v (.int .i64 0)),eS1 4 A0 l0 c0] [] ?_))))
 refine xc 173 [.slice A0 l0 c0] 5 (fun _:Unit=>.int .i64 ((blen (x).natAbs:Nat):Int)) _ (fun w R Q=>(Zly _ (x).natAbs _ Q.mag hx).mono (fun _ _ h=>Zae h rfl)) (fun xx=>?_)
 refine xr 1 [(2, .v (.int .i64 ((blen (x).natAbs:Nat):Int)))] [] ?_
 refine xe (Zaa (Zan ?_))
 refine Zag (v:=.int .i64 ((blen (x).natAbs:Nat):Int)) (by kernel_rfl) (fun w' R Q=>?_)
 exact ⟨rfl,R⟩
theorem Zte (k:Nat):10 ^ k≤2 ^ (4 * k):=by rw [Nat.pow_mul]; exact Nat.pow_le_pow_left (by decide) k
theorem Zsq {n k:Nat} (h:n < 10 ^ k):blen n≤4 * k:=ZcX.2 (Nat.lt_of_lt_of_le h (Zte k))
theorem ZqY {q:Rat} (h:q.num.natAbs < 10 ^ 200∧q.den < 10 ^ 200):blen q.num.natAbs≤100000:=Nat.le_trans (Zsq h.1) (by decide)
theorem ZqZ {q:Rat} (h:q.num.natAbs < 10 ^ 200∧q.den < 10 ^ 200):blen (q.den:Int).natAbs≤100000:=by
 rw [Int.natAbs_natCast]; exact Nat.le_trans (Zsq h.2) (by decide)
theorem Zq0 (s:ByteArray) (w:World) (hg:Glob w) (hs:(bytes s).length≤200) :
 Calls Tryz.prog 32 #[.string s] w (RetV w (.int .i64 ((blen (valF (bytes s)).num.natAbs + blen ((valF (bytes s)).den:Int).natAbs:Nat):Int))):=by
 have HQ:=Zdb hs (by decide)
 have hs5:(bytes s).length≤570:=by omega
 have fa:=Zbr hs5
 refine ZaB (Φ:=fun w=>Glob w) Tryz.func32 rfl (by kernel_rfl) (fun w' hf=>hg.ext hf) ?_
 refine Zac (Zab (xr 1 [(0, .v (.string s)),(2, .v (.int .i64 0))] [] ?_))
 refine xe (Zaa (Zac (Zab (xr 1 [(2, .v (.int .i64 0)),(4, .v (.string s))] [] ?_))))
 refine xc 72 [.string s] 5 ZaJ _ (fun w R Q=>(Zbj s _ Q (ZbC.of_len hs5)).mono (fun _ _=>ZaL)) (fun xx=>?_)
 obtain ⟨s10,A10,l10,c10,t10,B10,m10,d10⟩:=xx
 refine xr 2 [(2, .v (.int .i64 0)),(3, .p 3 0)] [bR4 3 107 s10 A10 l10 c10 t10 B10 m10 d10] ?_
 refine xe (Zaa (Zac ?_))
 refine ZaE 8 (by kernel_rfl) (by kernel_rfl) Zaj ?_
 refine xf 2 [(2, .v (.int .i64 0)),(3, .p 3 0),eI2 7 s10 A10 l10 c10] [bR4 3 107 s10 A10 l10 c10 t10 B10 m10 d10] ?_
 refine xd 95 [vI2 s10 A10 l10 c10] 8 (fun _:Unit=>.int .i64 ((blen ((valF (bytes s)).num).natAbs:Nat):Int)) _ (fun w R Q=>(ZkU _ ((valF (bytes s)).num) _ Q.2.num (Nat.le_trans fa.1 (by decide))).mono (fun _ _ h=>Zae h rfl)) (fun xx=>?_)
 refine xf 1 [(2, .v (.int .i64 0)),(8, .v (.int .i64 ((blen ((valF (bytes s)).num).natAbs:Nat):Int))),eR4 9 s10 A10 l10 c10 t10 B10 m10 d10] [bR4 3 107 s10 A10 l10 c10 t10 B10 m10 d10] ?_
 refine xd 74 [vR4 s10 A10 l10 c10 t10 B10 m10 d10] 10 Zam _ (fun w R Q=>(Zbg _ (valF (bytes s)) _ Q.1.2).mono (fun _ _=>Zaq)) (fun xx=>?_)
 obtain ⟨s11,A11,l11,c11⟩:=xx
 refine xf 0 [(2, .v (.int .i64 0)),(8, .v (.int .i64 ((blen ((valF (bytes s)).num).natAbs:Nat):Int))),eI2 10 s11 A11 l11 c11] [bR4 3 107 s10 A10 l10 c10 t10 B10 m10 d10] ?_
 refine xd 95 [vI2 s11 A11 l11 c11] 11 (fun _:Unit=>.int .i64 ((blen (((valF (bytes s)).den:Int)).natAbs:Nat):Int)) _ (fun w R Q=>(ZkU _ (((valF (bytes s)).den:Int)) _ Q.2 (Nat.le_trans (wlc fa.2) (by decide))).mono (fun _ _ h=>Zae h rfl)) (fun xx=>?_)
 refine xf 1 [(2, .v (.int .i64 0)),(12, .v (.int .i64 (IntKind.i64.wrap (((blen ((valF (bytes s)).num).natAbs:Nat):Int) + ((blen (((valF (bytes s)).den:Int)).natAbs:Nat):Int)))))] [bR4 3 107 s10 A10 l10 c10 t10 B10 m10 d10] ?_
 rw [rs3 (ZqY HQ) (ZqZ HQ)]
 refine xf 1 [(2, .v (.int .i64 ((blen (valF (bytes s)).num.natAbs + blen ((valF (bytes s)).den:Int).natAbs:Nat):Int)))] [bR4 3 107 s10 A10 l10 c10 t10 B10 m10 d10] ?_
 refine xz (xe (Zaa (Zan ?_)))
 refine Zag (v:=.int .i64 ((blen (valF (bytes s)).num.natAbs + blen ((valF (bytes s)).den:Int).natAbs:Nat):Int)) (by kernel_rfl) (fun w' R Q=>?_)
 exact ⟨rfl,R⟩
theorem Zq1 (s:ByteArray) (w:World) (hs:(bytes s).length≤200) :
 Calls Tryz.prog 33 #[.string s] w (RetV w (.int .i64 ((blen (valF (bytes s)).num.natAbs + blen ((valF (bytes s)).den:Int).natAbs:Nat):Int))):=by
 have HQ:=Zdb hs (by decide)
 refine ZaB (Φ:=fun w=>True) Tryz.func33 rfl (by kernel_rfl) (fun w' hf=>trivial) ?_
 refine Zac (Zab (xr 1 [(0, .v (.string s)),(2, .v (.int .i64 0))] [] ?_))
 refine xe (Zaa (Zac (Zab (xr 1 [(2, .v (.int .i64 0)),(4, .v (.string s))] [] ?_))))
 refine xc 31 [.string s] 5 ZaJ _ (fun w R Q=>(Zdw s _ (by rw [← Zah]; omega)).mono (fun _ _=>ZbE)) (fun xx=>?_)
 obtain ⟨s10,A10,l10,c10,t10,B10,m10,d10⟩:=xx
 refine xr 2 [(2, .v (.int .i64 0)),(3, .p 3 0)] [bR4 3 45 s10 A10 l10 c10 t10 B10 m10 d10] ?_
 refine xe (Zaa (Zac ?_))
 refine ZaE 8 (by kernel_rfl) (by kernel_rfl) Zaj ?_
 refine xf 2 [(2, .v (.int .i64 0)),(3, .p 3 0),eI2 7 s10 A10 l10 c10] [bR4 3 45 s10 A10 l10 c10 t10 B10 m10 d10] ?_
 refine xd 96 [vI2 s10 A10 l10 c10] 8 (fun _:Unit=>.int .i64 ((blen ((valF (bytes s)).num).natAbs:Nat):Int)) _ (fun w R Q=>(Zc6 _ ((valF (bytes s)).num) _ Q.2.num (nfit (k:=200) (Za8 HQ.1) (by decide))).mono (fun _ _ h=>Zae h rfl)) (fun xx=>?_)
 refine xf 1 [(2, .v (.int .i64 0)),(8, .v (.int .i64 ((blen ((valF (bytes s)).num).natAbs:Nat):Int))),eR4 9 s10 A10 l10 c10 t10 B10 m10 d10] [bR4 3 45 s10 A10 l10 c10 t10 B10 m10 d10] ?_
 refine xd 79 [vR4 s10 A10 l10 c10 t10 B10 m10 d10] 10 Zam _ (fun w R Q=>(Zdc _ (valF (bytes s)) _ Q.1.2).mono (fun _ _=>ZaK)) (fun xx=>?_)
 obtain ⟨s11,A11,l11,c11⟩:=xx
 refine xf 0 [(2, .v (.int .i64 0)),(8, .v (.int .i64 ((blen ((valF (bytes s)).num).natAbs:Nat):Int))),eI2 10 s11 A11 l11 c11] [bR4 3 45 s10 A10 l10 c10 t10 B10 m10 d10] ?_
 refine xd 96 [vI2 s11 A11 l11 c11] 11 (fun _:Unit=>.int .i64 ((blen (((valF (bytes s)).den:Int)).natAbs:Nat):Int)) _ (fun w R Q=>(Zc6 _ (((valF (bytes s)).den:Int)) _ Q.2 (nfit (k:=200) (mlc (Za8 HQ.2)) (by decide))).mono (fun _ _ h=>Zae h rfl)) (fun xx=>?_)
 refine xf 1 [(2, .v (.int .i64 0)),(12, .v (.int .i64 (IntKind.i64.wrap (((blen ((valF (bytes s)).num).natAbs:Nat):Int) + ((blen (((valF (bytes s)).den:Int)).natAbs:Nat):Int)))))] [bR4 3 45 s10 A10 l10 c10 t10 B10 m10 d10] ?_
 rw [rs3 (ZqY HQ) (ZqZ HQ)]
 refine xf 1 [(2, .v (.int .i64 ((blen (valF (bytes s)).num.natAbs + blen ((valF (bytes s)).den:Int).natAbs:Nat):Int)))] [bR4 3 45 s10 A10 l10 c10 t10 B10 m10 d10] ?_
 refine xz (xe (Zaa (Zan ?_)))
 refine Zag (v:=.int .i64 ((blen (valF (bytes s)).num.natAbs + blen ((valF (bytes s)).den:Int).natAbs:Nat):Int)) (by kernel_rfl) (fun w' R Q=>?_)
 exact ⟨rfl,R⟩
inductive RootIs (p:Rat):ByteArray→Bool→Prop
 | neg (h:p.num < 0):RootIs p ⟨#[]⟩ false
 | no1 (n d:Nat) (h0:0≤p.num) (hn1:n * n≤p.num.natAbs) (hn2:p.num.natAbs < (n + 1) * (n + 1)) (hd1:d * d≤(p.den:Int).natAbs) (hd2:(p.den:Int).natAbs < (d + 1) * (d + 1)) (h:¬ n * n=p.num.natAbs):RootIs p ⟨#[]⟩ false
 | no2 (n d:Nat) (h0:0≤p.num) (hn1:n * n≤p.num.natAbs) (hn2:p.num.natAbs < (n + 1) * (n + 1)) (hd1:d * d≤(p.den:Int).natAbs) (hd2:(p.den:Int).natAbs < (d + 1) * (d + 1)) (hnn:n * n=p.num.natAbs) (h:¬ d * d=(p.den:Int).natAbs):RootIs p ⟨#[]⟩ false
 | yes (n d:Nat) (Q:Rat) (h0:0≤p.num) (hn1:n * n≤p.num.natAbs) (hn2:p.num.natAbs < (n + 1) * (n + 1)) (hd1:d * d≤(p.den:Int).natAbs) (hd2:(p.den:Int).natAbs < (d + 1) * (d + 1)) (hnn:n * n=p.num.natAbs) (hdd:d * d=(p.den:Int).natAbs) (hQn:Q.num=(n:Int)) (hQd:(Q.den:Int)=(d:Int)):RootIs p ⟨(Zaf Q).toArray⟩ true
theorem Ztf (p:Rat):∃ t b,RootIs p t b:=by
 by_cases h0:p.num < 0
 ·exact ⟨_,_, .neg h0⟩
 ·obtain ⟨n,hn1,hn2⟩:=ZoW p.num.natAbs
  obtain ⟨d,hd1,hd2⟩:=ZoW (p.den:Int).natAbs
  by_cases hn:n * n=p.num.natAbs
  ·by_cases hd:d * d=(p.den:Int).natAbs
   ·have hd0:d≠0:=by
     rintro rfl
     rw [Int.natAbs_natCast] at hd
     exact p.den_nz hd.symm
    have hc:Nat.Coprime n d:=by
     have h:=p.reduced
     rw [← hn,show p.den=d * d by rw [hd,Int.natAbs_natCast]] at h
     exact Nat.Coprime.coprime_dvd_left (Nat.dvd_mul_left n n) (Nat.Coprime.coprime_dvd_right (Nat.dvd_mul_left d d) h)
    exact ⟨_,_, .yes n d ⟨(n:Int),d,hd0,by rw [Int.natAbs_natCast]; exact hc⟩ (by omega) hn1 hn2 hd1 hd2 hn hd rfl rfl⟩
   ·exact ⟨_,_, .no2 n d (by omega) hn1 hn2 hd1 hd2 hn hd⟩
  ·exact ⟨_,_, .no1 n d (by omega) hn1 hn2 hd1 hd2 hn⟩
theorem Zt3 {z:Int} (h:z < 0):decide (z.sign < 0)=true:=decide_eq_true (by rw [Int.sign_eq_neg_one_of_neg h]; omega)
theorem ZnM {z:Int} (h:0≤z):decide (z.sign < 0)=false:=decide_eq_false (by have:=Int.sign_nonneg_iff.2 h; omega)
theorem ZnN {x:Nat} {z:Int} (h:x=z.natAbs) (h0:0≤z):((((x:Nat):Int) - z).sign != 0)=false:=by
 rw [show ((x:Nat):Int) - z=0 by omega]; rfl
theorem Zq2 {x:Nat} {z:Int} (h:¬ x=z.natAbs):((((x:Nat):Int) - z).sign != 0)=true:=by
 rw [bne_iff_ne]; intro e; have:=Int.sign_eq_zero_iff_zero.1 e; omega
theorem ZdP {n k:Nat} {z:Int} (h:n * n≤z.natAbs) (hz:ml z.natAbs≤k):ml n≤k:=by
 refine Nat.le_trans (ZcG ?_) hz
 rcases Nat.eq_zero_or_pos n with rfl | hp
 ·omega
 ·exact Nat.le_trans (Nat.le_mul_of_pos_right _ hp) h
theorem ZgP {a b:Value} {n:Nat} {w:World} (ha:Zap w a ((n:Nat):Int)) (hb:Zap w b ((n:Nat):Int)) (hx:ml n≤100000):Calls Tryz.prog 81 #[a,b] w (Za1 w ((n * n:Nat):Int)):=Zsb ha hb hx hx
theorem Zsc {Q:Rat} {n d:Nat} (hn:Q.num=(n:Int)) (hd:(Q.den:Int)=(d:Int)):Rat.divInt (n:Int) (d:Int)=Q:=by rw [← hn,← hd]; exact Rat.num_divInt_den Q
theorem Zq3 (a:Value) (x:Int) (w:World) (ha:Zav w a x) (h0:x < 0) :
 Calls Tryz.prog 73 #[a] w (ZpH w 0 false):=by
 obtain ⟨A0,l0,c0,rfl⟩:=ZsX ha h0
 refine ZaB (Φ:=fun w=>Zav w (.agg #[.bool true, .slice A0 l0 c0]) (x)) Tryz.func73 rfl (by kernel_rfl) (fun w' hf=>ha.ext hf) ?_
 refine Zac (Zab (xr 3 [(1, .p 1 0),(2, .p 2 0),(3, .v (.bool false))] [bI2 2 105 false none 0 0,bI2 1 105 true A0 l0 c0] ?_))
 refine xe (Zaa (Zac (Zac (Zab (xr 2 [(1, .p 1 0),(2, .p 2 0),(3, .v (.bool false)),(6, .v (.bool true))] [bI2 2 105 false none 0 0,bI2 1 105 true A0 l0 c0] ?_)))))
 refine xe (Zaa (xa (Zac (Zab (xr 3 [(1, .p 1 0),(2, .p 2 0),(3, .v (.bool false))] [bI2 2 105 false none 0 0,bI2 1 105 true A0 l0 c0] ?_)))))
 refine xe (Zaa (Zan (Zao ?_)))
 refine Zag (v:=.tuple #[.agg #[.bool false, .slice none 0 0], .bool false]) (by kernel_rfl) (fun w' R Q=>?_)
 exact ⟨_,rfl,Zav.zero _,R⟩
theorem Zq4 (s:ByteArray) (w:World) (hg:Glob w) (hs5:(bytes s).length≤570) (h:(valF (bytes s)).num < 0) :
 Calls Tryz.prog 22 #[.string s] w (RetV w (.tuple #[.string ⟨#[]⟩, .bool false])):=by
 have fa:=Zbr hs5
 refine ZaB (Φ:=fun w=>Glob w) Tryz.func22 rfl (by kernel_rfl) (fun w' hf=>hg.ext hf) ?_
 refine Zac (Zab (xr 2 [(0, .v (.string s)),(2, .v (.string ⟨#[]⟩)),(3, .v (.bool false))] [] ?_))
 refine xe (Zaa (Zac (Zab (xr 1 [(2, .v (.string ⟨#[]⟩)),(3, .v (.bool false)),(9, .v (.string s))] [] ?_))))
 refine xc 72 [.string s] 10 ZaJ _ (fun w R Q=>(Zbj s _ Q (ZbC.of_len hs5)).mono (fun _ _=>ZaL)) (fun xx=>?_)
 obtain ⟨s10,A10,l10,c10,t10,B10,m10,d10⟩:=xx
 refine xr 2 [(2, .v (.string ⟨#[]⟩)),(3, .v (.bool false)),(4, .p 4 0)] [bR4 4 107 s10 A10 l10 c10 t10 B10 m10 d10] ?_
 refine xe (Zaa (Zac (Zab (xr 2 [(2, .v (.string ⟨#[]⟩)),(3, .v (.bool false)),(4, .p 4 0),eI2 13 s10 A10 l10 c10] [bR4 4 107 s10 A10 l10 c10 t10 B10 m10 d10] ?_))))
 refine xc 73 [vI2 s10 A10 l10 c10] 14 (fun x:ShI=>.tuple #[Zam x, .bool false]) _ (fun w R Q=>(Zq3 _ ((valF (bytes s)).num) _ Q.2.num h).mono (fun _ _=>ZfI)) (fun xx=>?_)
 obtain ⟨s11,A11,l11,c11⟩:=xx
 refine xr 6 [(2, .v (.string ⟨#[]⟩)),(3, .v (.bool false)),(4, .p 4 0),(5, .p 5 0),(6, .v (.bool false))] [bI2 5 105 s11 A11 l11 c11,bR4 4 107 s10 A10 l10 c10 t10 B10 m10 d10] ?_
 refine xe (Zaa (Zac (Zac (Zab (xr 2 [(2, .v (.string ⟨#[]⟩)),(3, .v (.bool false)),(4, .p 4 0),(5, .p 5 0),(18, .v (.bool true))] [bI2 5 105 s11 A11 l11 c11,bR4 4 107 s10 A10 l10 c10 t10 B10 m10 d10] ?_)))))
 refine xe (Zaa (xa (Zac (Zab (xr 2 [(2, .v (.string ⟨#[]⟩)),(3, .v (.bool false)),(4, .p 4 0),(5, .p 5 0)] [bI2 5 105 s11 A11 l11 c11,bR4 4 107 s10 A10 l10 c10 t10 B10 m10 d10] ?_)))))
 refine xe (Zaa (Zan (Zao ?_)))
 refine Zag (v:=.tuple #[.string ⟨#[]⟩, .bool false]) (by kernel_rfl) (fun w' R Q=>?_)
 exact ⟨rfl,R⟩
theorem Zq5 (s:ByteArray) (n d:Nat) (w:World) (hg:Glob w) (hs5:(bytes s).length≤570) (h0:0≤(valF (bytes s)).num) (hn1:n * n≤(valF (bytes s)).num.natAbs) (hn2:(valF (bytes s)).num.natAbs < (n + 1) * (n + 1)) (hd1:d * d≤((valF (bytes s)).den:Int).natAbs) (hd2:((valF (bytes s)).den:Int).natAbs < (d + 1) * (d + 1)) (hnn:n * n=(valF (bytes s)).num.natAbs) (h':¬ d * d=((valF (bytes s)).den:Int).natAbs) :
 Calls Tryz.prog 22 #[.string s] w (RetV w (.tuple #[.string ⟨#[]⟩, .bool false])):=by
 have fa:=Zbr hs5
 refine ZaB (Φ:=fun w=>Glob w) Tryz.func22 rfl (by kernel_rfl) (fun w' hf=>hg.ext hf) ?_
 refine Zac (Zab (xr 2 [(0, .v (.string s)),(2, .v (.string ⟨#[]⟩)),(3, .v (.bool false))] [] ?_))
 refine xe (Zaa (Zac (Zab (xr 1 [(2, .v (.string ⟨#[]⟩)),(3, .v (.bool false)),(9, .v (.string s))] [] ?_))))
 refine xc 72 [.string s] 10 ZaJ _ (fun w R Q=>(Zbj s _ Q (ZbC.of_len hs5)).mono (fun _ _=>ZaL)) (fun xx=>?_)
 obtain ⟨s10,A10,l10,c10,t10,B10,m10,d10⟩:=xx
 refine xr 2 [(2, .v (.string ⟨#[]⟩)),(3, .v (.bool false)),(4, .p 4 0)] [bR4 4 107 s10 A10 l10 c10 t10 B10 m10 d10] ?_
 refine xe (Zaa (Zac (Zab (xr 2 [(2, .v (.string ⟨#[]⟩)),(3, .v (.bool false)),(4, .p 4 0),eI2 13 s10 A10 l10 c10] [bR4 4 107 s10 A10 l10 c10 t10 B10 m10 d10] ?_))))
 refine xc 73 [vI2 s10 A10 l10 c10] 14 (fun x:ShI=>.tuple #[Zam x, .bool true]) _ (fun w R Q=>(Zfl _ ((valF (bytes s)).num) n _ Q.2.num h0 (Nat.le_trans fa.1 (by decide)) (Nat.lt_of_le_of_lt (Nat.le_trans (Zhv hn1) fa.1) (by decide)) hn1 hn2).mono (fun _ _ h=>ZfI (by rw [decide_eq_true hnn] at h; exact h))) (fun xx=>?_)
 obtain ⟨s11,A11,l11,c11⟩:=xx
 refine xr 6 [(2, .v (.string ⟨#[]⟩)),(3, .v (.bool false)),(4, .p 4 0),(5, .p 5 0),(6, .v (.bool true))] [bI2 5 105 s11 A11 l11 c11,bR4 4 107 s10 A10 l10 c10 t10 B10 m10 d10] ?_
 refine xe (Zaa (Zac (Zac (Zab (xr 2 [(2, .v (.string ⟨#[]⟩)),(3, .v (.bool false)),(4, .p 4 0),(5, .p 5 0),(18, .v (.bool false))] [bI2 5 105 s11 A11 l11 c11,bR4 4 107 s10 A10 l10 c10 t10 B10 m10 d10] ?_)))))
 refine xe (Zaa (xb (ZaA (Zaa (Zac (Zab (xr 1 [(2, .v (.string ⟨#[]⟩)),(3, .v (.bool false)),(5, .p 5 0),eR4 20 s10 A10 l10 c10 t10 B10 m10 d10] [bI2 5 105 s11 A11 l11 c11] ?_)))))))
 refine xc 74 [vR4 s10 A10 l10 c10 t10 B10 m10 d10] 21 Zam _ (fun w R Q=>(Zbg _ (valF (bytes s)) _ Q.1.2).mono (fun _ _=>Zaq)) (fun xx=>?_)
 obtain ⟨s12,A12,l12,c12⟩:=xx
 refine xr 0 [(2, .v (.string ⟨#[]⟩)),(3, .v (.bool false)),(5, .p 5 0),eI2 21 s12 A12 l12 c12] [bI2 5 105 s11 A11 l11 c11] ?_
 refine xc 73 [vI2 s12 A12 l12 c12] 22 (fun x:ShI=>.tuple #[Zam x, .bool false]) _ (fun w R Q=>(Zfl _ (((valF (bytes s)).den:Int)) d _ Q.2 (by omega) (Nat.le_trans (wlc fa.2) (by decide)) (Nat.lt_of_le_of_lt (Nat.le_trans (Zhv hd1) (wlc fa.2)) (by decide)) hd1 hd2).mono (fun _ _ h=>ZfI (by rw [decide_eq_false h'] at h; exact h))) (fun xx=>?_)
 obtain ⟨s13,A13,l13,c13⟩:=xx
 refine xr 6 [(2, .v (.string ⟨#[]⟩)),(3, .v (.bool false)),(5, .p 5 0),(7, .p 7 0),(8, .v (.bool false))] [bI2 7 105 s13 A13 l13 c13,bI2 5 105 s11 A11 l11 c11] ?_
 refine xe (Zaa (Zac (Zac (Zab (xr 2 [(2, .v (.string ⟨#[]⟩)),(3, .v (.bool false)),(5, .p 5 0),(7, .p 7 0),(26, .v (.bool true))] [bI2 7 105 s13 A13 l13 c13,bI2 5 105 s11 A11 l11 c11] ?_)))))
 refine xe (Zaa (xa (Zac (Zab (xr 2 [(2, .v (.string ⟨#[]⟩)),(3, .v (.bool false)),(5, .p 5 0),(7, .p 7 0)] [bI2 7 105 s13 A13 l13 c13,bI2 5 105 s11 A11 l11 c11] ?_)))))
 refine xe (Zaa (Zan (Zao ?_)))
 refine Zag (v:=.tuple #[.string ⟨#[]⟩, .bool false]) (by kernel_rfl) (fun w' R Q=>?_)
 exact ⟨rfl,R⟩
theorem Zq6 (s:ByteArray) (t:ByteArray) (b:Bool) (w:World) (hg:Glob w) (hs:(bytes s).length≤200) (hr:RootIs (valF (bytes s)) t b):Calls Tryz.prog 22 #[.string s] w (RetV w (.tuple #[.string t, .bool b])):=by
 have hs5:(bytes s).length≤570:=by omega
 cases hr with
 | neg h=>exact Zq4 s w hg hs5 h
 | no1 n d h0 hn1 hn2 hd1 hd2 h=>exact Zr1 s n w hg hs5 h0 ⟨hn1,hn2,h⟩
 | no2 n d h0 hn1 hn2 hd1 hd2 hnn h=>exact Zq5 s n d w hg hs5 h0 hn1 hn2 hd1 hd2 hnn h
 | yes n d Q h0 hn1 hn2 hd1 hd2 hnn hdd hQn hQd=>exact Zr0 s Q n d w hg hs5 h0 ⟨hn1,hn2,hnn⟩ ⟨hd1,hd2,hdd⟩ hQn hQd
theorem ZkV {n:Nat} (h:ml n≤200):ml (n * n)≤400:=by have:=Zqp n n; omega
theorem Zq7 (s:ByteArray) (w:World) (hs:(bytes s).length≤200) (h:(valF (bytes s)).num < 0) :
 Calls Tryz.prog 23 #[.string s] w (RetV w (.tuple #[.string ⟨#[]⟩, .bool false])):=by
 have HQ:=Zdb hs (by decide)
 refine ZaB (Φ:=fun w=>True) Tryz.func23 rfl (by kernel_rfl) (fun w' hf=>trivial) ?_
 refine Zac (Zab (xr 2 [(0, .v (.string s)),(2, .v (.string ⟨#[]⟩)),(3, .v (.bool false))] [] ?_))
 refine xe (Zaa (Zac (Zab (xr 1 [(2, .v (.string ⟨#[]⟩)),(3, .v (.bool false)),(7, .v (.string s))] [] ?_))))
 refine xc 31 [.string s] 8 ZaJ _ (fun w R Q=>(Zdw s _ (by rw [← Zah]; omega)).mono (fun _ _=>ZbE)) (fun xx=>?_)
 obtain ⟨s10,A10,l10,c10,t10,B10,m10,d10⟩:=xx
 refine xr 2 [(2, .v (.string ⟨#[]⟩)),(3, .v (.bool false)),(4, .p 4 0)] [bR4 4 45 s10 A10 l10 c10 t10 B10 m10 d10] ?_
 refine xe (Zaa (Zac (Zac (Zab (xr 1 [(2, .v (.string ⟨#[]⟩)),(3, .v (.bool false)),(4, .p 4 0),eR4 9 s10 A10 l10 c10 t10 B10 m10 d10] [bR4 4 45 s10 A10 l10 c10 t10 B10 m10 d10] ?_)))))
 refine xc 77 [vR4 s10 A10 l10 c10 t10 B10 m10 d10] 10 (fun _:Unit=>.int .i64 (valF (bytes s)).num.sign) _ (fun w R Q=>(Zfx _ (valF (bytes s)) _ Q.2).mono (fun _ _ h=>Zae h rfl)) (fun xx=>?_)
 refine xr 1 [(2, .v (.string ⟨#[]⟩)),(3, .v (.bool false)),(4, .p 4 0),(11, .v (.bool (decide ((valF (bytes s)).num.sign < 0))))] [bR4 4 45 s10 A10 l10 c10 t10 B10 m10 d10] ?_
 rw [Zt3 h]
 refine xr 0 [(2, .v (.string ⟨#[]⟩)),(3, .v (.bool false)),(4, .p 4 0),(11, .v (.bool true))] [bR4 4 45 s10 A10 l10 c10 t10 B10 m10 d10] ?_
 refine xe (Zaa (xa (Zac (Zab (xr 2 [(2, .v (.string ⟨#[]⟩)),(3, .v (.bool false)),(4, .p 4 0)] [bR4 4 45 s10 A10 l10 c10 t10 B10 m10 d10] ?_)))))
 refine xe (Zaa (Zan (Zao ?_)))
 refine Zag (v:=.tuple #[.string ⟨#[]⟩, .bool false]) (by kernel_rfl) (fun w' R Q=>?_)
 exact ⟨rfl,R⟩
theorem Zq8 (s:ByteArray) (n d:Nat) (w:World) (hs:(bytes s).length≤200) (h0:0≤(valF (bytes s)).num) (hn1:n * n≤(valF (bytes s)).num.natAbs) (hn2:(valF (bytes s)).num.natAbs < (n + 1) * (n + 1)) (hd1:d * d≤((valF (bytes s)).den:Int).natAbs) (hd2:((valF (bytes s)).den:Int).natAbs < (d + 1) * (d + 1)) (h':¬ n * n=(valF (bytes s)).num.natAbs) :
 Calls Tryz.prog 23 #[.string s] w (RetV w (.tuple #[.string ⟨#[]⟩, .bool false])):=by
 have HQ:=Zdb hs (by decide)
 refine ZaB (Φ:=fun w=>True) Tryz.func23 rfl (by kernel_rfl) (fun w' hf=>trivial) ?_
 refine Zac (Zab (xr 2 [(0, .v (.string s)),(2, .v (.string ⟨#[]⟩)),(3, .v (.bool false))] [] ?_))
 refine xe (Zaa (Zac (Zab (xr 1 [(2, .v (.string ⟨#[]⟩)),(3, .v (.bool false)),(7, .v (.string s))] [] ?_))))
 refine xc 31 [.string s] 8 ZaJ _ (fun w R Q=>(Zdw s _ (by rw [← Zah]; omega)).mono (fun _ _=>ZbE)) (fun xx=>?_)
 obtain ⟨s10,A10,l10,c10,t10,B10,m10,d10⟩:=xx
 refine xr 2 [(2, .v (.string ⟨#[]⟩)),(3, .v (.bool false)),(4, .p 4 0)] [bR4 4 45 s10 A10 l10 c10 t10 B10 m10 d10] ?_
 refine xe (Zaa (Zac (Zac (Zab (xr 1 [(2, .v (.string ⟨#[]⟩)),(3, .v (.bool false)),(4, .p 4 0),eR4 9 s10 A10 l10 c10 t10 B10 m10 d10] [bR4 4 45 s10 A10 l10 c10 t10 B10 m10 d10] ?_)))))
 refine xc 77 [vR4 s10 A10 l10 c10 t10 B10 m10 d10] 10 (fun _:Unit=>.int .i64 (valF (bytes s)).num.sign) _ (fun w R Q=>(Zfx _ (valF (bytes s)) _ Q.2).mono (fun _ _ h=>Zae h rfl)) (fun xx=>?_)
 refine xr 1 [(2, .v (.string ⟨#[]⟩)),(3, .v (.bool false)),(4, .p 4 0),(11, .v (.bool (decide ((valF (bytes s)).num.sign < 0))))] [bR4 4 45 s10 A10 l10 c10 t10 B10 m10 d10] ?_
 rw [ZnM h0]
 refine xr 0 [(2, .v (.string ⟨#[]⟩)),(3, .v (.bool false)),(4, .p 4 0),(11, .v (.bool false))] [bR4 4 45 s10 A10 l10 c10 t10 B10 m10 d10] ?_
 refine xe (Zaa (xb (ZaA (Zaa (Zac ?_)))))
 refine ZaE 10 (by kernel_rfl) (by kernel_rfl) Zaj ?_
 refine xf 2 [(2, .v (.string ⟨#[]⟩)),(3, .v (.bool false)),(4, .p 4 0),eI2 13 s10 A10 l10 c10] [bR4 4 45 s10 A10 l10 c10 t10 B10 m10 d10] ?_
 refine xd 78 [vI2 s10 A10 l10 c10] 14 Zam _ (fun w R Q=>(ZeB _ ((valF (bytes s)).num) n _ Q.1.2.num h0 (Nat.le_trans (Za8 HQ.1) (by decide)) hn1 hn2).mono (fun _ _=>ZaK)) (fun xx=>?_)
 obtain ⟨s11,A11,l11,c11⟩:=xx
 refine xf 1 [(2, .v (.string ⟨#[]⟩)),(3, .v (.bool false)),(4, .p 4 0),eI2 14 s11 A11 l11 c11,eR4 15 s10 A10 l10 c10 t10 B10 m10 d10] [bR4 4 45 s10 A10 l10 c10 t10 B10 m10 d10] ?_
 refine xd 79 [vR4 s10 A10 l10 c10 t10 B10 m10 d10] 16 Zam _ (fun w R Q=>(Zdc _ (valF (bytes s)) _ Q.1.1.2).mono (fun _ _=>ZaK)) (fun xx=>?_)
 obtain ⟨s12,A12,l12,c12⟩:=xx
 refine xf 0 [(2, .v (.string ⟨#[]⟩)),(3, .v (.bool false)),(4, .p 4 0),eI2 14 s11 A11 l11 c11,eI2 16 s12 A12 l12 c12] [bR4 4 45 s10 A10 l10 c10 t10 B10 m10 d10] ?_
 refine xd 78 [vI2 s12 A12 l12 c12] 17 Zam _ (fun w R Q=>(ZeB _ (((valF (bytes s)).den:Int)) d _ Q.2 (by omega) (Nat.le_trans (mlc (Za8 HQ.2)) (by decide)) hd1 hd2).mono (fun _ _=>ZaK)) (fun xx=>?_)
 obtain ⟨s13,A13,l13,c13⟩:=xx
 refine xf 4 [(2, .v (.string ⟨#[]⟩)),(3, .v (.bool false)),(4, .p 4 0),(5, .p 5 0),(6, .p 6 0)] [bI2 6 43 s13 A13 l13 c13,bI2 5 43 s11 A11 l11 c11,bI2 6 43 false none 0 0,bI2 5 43 false none 0 0,bR4 4 45 s10 A10 l10 c10 t10 B10 m10 d10] ?_
 refine xz (xe (Zaa (Zac (Zac ?_))))
 refine ZaE 16 (by kernel_rfl) (by kernel_rfl) Zaj ?_
 refine xf 2 [(2, .v (.string ⟨#[]⟩)),(3, .v (.bool false)),(4, .p 4 0),(5, .p 5 0),(6, .p 6 0),eI2 18 s11 A11 l11 c11,eI2 19 s11 A11 l11 c11] [bI2 6 43 s13 A13 l13 c13,bI2 5 43 s11 A11 l11 c11,bI2 6 43 false none 0 0,bI2 5 43 false none 0 0,bR4 4 45 s10 A10 l10 c10 t10 B10 m10 d10] ?_
 refine xd 81 [vI2 s11 A11 l11 c11,vI2 s11 A11 l11 c11] 20 Zam _ (fun w R Q=>(ZgP (n:=n) Q.1.1.2 Q.1.1.2 (Nat.le_trans (ZdP hn1 (Za8 HQ.1)) (by decide))).mono (fun _ _=>ZaK)) (fun xx=>?_)
 obtain ⟨s14,A14,l14,c14⟩:=xx
 refine xf 2 [(2, .v (.string ⟨#[]⟩)),(3, .v (.bool false)),(4, .p 4 0),(5, .p 5 0),(6, .p 6 0),eI2 20 s14 A14 l14 c14,eI2 22 s10 A10 l10 c10] [bI2 6 43 s13 A13 l13 c13,bI2 5 43 s11 A11 l11 c11,bI2 6 43 false none 0 0,bI2 5 43 false none 0 0,bR4 4 45 s10 A10 l10 c10 t10 B10 m10 d10] ?_
 refine xd 80 [vI2 s14 A14 l14 c14,vI2 s10 A10 l10 c10] 23 (fun _:Unit=>.int .i64 ((((n * n:Nat):Int)) - ((valF (bytes s)).num)).sign) _ (fun w R Q=>(Ze4 _ _ (((n * n:Nat):Int)) ((valF (bytes s)).num) _ Q.2 Q.1.1.1.1.1.2.num (nfit (k:=400) (mlc (ZkV (ZdP hn1 (Za8 HQ.1)))) (by decide)) (nfit (k:=200) (Za8 HQ.1) (by decide))).mono (fun _ _ h=>Zae h rfl)) (fun xx=>?_)
 refine xf 1 [(2, .v (.string ⟨#[]⟩)),(3, .v (.bool false)),(4, .p 4 0),(5, .p 5 0),(6, .p 6 0),(24, .v (.bool ((((((n * n:Nat):Int)) - ((valF (bytes s)).num)).sign:Int) != 0)))] [bI2 6 43 s13 A13 l13 c13,bI2 5 43 s11 A11 l11 c11,bI2 6 43 false none 0 0,bI2 5 43 false none 0 0,bR4 4 45 s10 A10 l10 c10 t10 B10 m10 d10] ?_
 rw [Zq2 h']
 refine xf 9 [(2, .v (.string ⟨#[]⟩)),(3, .v (.bool false)),(5, .p 5 0),(6, .p 6 0),(33, .v (.bool true))] [bI2 6 43 s13 A13 l13 c13,bI2 5 43 s11 A11 l11 c11,bI2 6 43 false none 0 0,bI2 5 43 false none 0 0,bR4 4 45 s10 A10 l10 c10 t10 B10 m10 d10] ?_
 refine xz (xe (Zaa (xa (Zac (Zab (xr 2 [(2, .v (.string ⟨#[]⟩)),(3, .v (.bool false)),(5, .p 5 0),(6, .p 6 0)] [bI2 6 43 s13 A13 l13 c13,bI2 5 43 s11 A11 l11 c11] ?_))))))
 refine xe (Zaa (Zan (Zao ?_)))
 refine Zag (v:=.tuple #[.string ⟨#[]⟩, .bool false]) (by kernel_rfl) (fun w' R Q=>?_)
 exact ⟨rfl,R⟩
theorem Zq9 (s:ByteArray) (n d:Nat) (w:World) (hs:(bytes s).length≤200) (h0:0≤(valF (bytes s)).num) (hn1:n * n≤(valF (bytes s)).num.natAbs) (hn2:(valF (bytes s)).num.natAbs < (n + 1) * (n + 1)) (hd1:d * d≤((valF (bytes s)).den:Int).natAbs) (hd2:((valF (bytes s)).den:Int).natAbs < (d + 1) * (d + 1)) (hnn:n * n=(valF (bytes s)).num.natAbs) (h':¬ d * d=((valF (bytes s)).den:Int).natAbs) :
 Calls Tryz.prog 23 #[.string s] w (RetV w (.tuple #[.string ⟨#[]⟩, .bool false])):=by
 have HQ:=Zdb hs (by decide)
 refine ZaB (Φ:=fun w=>True) Tryz.func23 rfl (by kernel_rfl) (fun w' hf=>trivial) ?_
 refine Zac (Zab (xr 2 [(0, .v (.string s)),(2, .v (.string ⟨#[]⟩)),(3, .v (.bool false))] [] ?_))
 refine xe (Zaa (Zac (Zab (xr 1 [(2, .v (.string ⟨#[]⟩)),(3, .v (.bool false)),(7, .v (.string s))] [] ?_))))
 refine xc 31 [.string s] 8 ZaJ _ (fun w R Q=>(Zdw s _ (by rw [← Zah]; omega)).mono (fun _ _=>ZbE)) (fun xx=>?_)
 obtain ⟨s10,A10,l10,c10,t10,B10,m10,d10⟩:=xx
 refine xr 2 [(2, .v (.string ⟨#[]⟩)),(3, .v (.bool false)),(4, .p 4 0)] [bR4 4 45 s10 A10 l10 c10 t10 B10 m10 d10] ?_
 refine xe (Zaa (Zac (Zac (Zab (xr 1 [(2, .v (.string ⟨#[]⟩)),(3, .v (.bool false)),(4, .p 4 0),eR4 9 s10 A10 l10 c10 t10 B10 m10 d10] [bR4 4 45 s10 A10 l10 c10 t10 B10 m10 d10] ?_)))))
 refine xc 77 [vR4 s10 A10 l10 c10 t10 B10 m10 d10] 10 (fun _:Unit=>.int .i64 (valF (bytes s)).num.sign) _ (fun w R Q=>(Zfx _ (valF (bytes s)) _ Q.2).mono (fun _ _ h=>Zae h rfl)) (fun xx=>?_)
 refine xr 1 [(2, .v (.string ⟨#[]⟩)),(3, .v (.bool false)),(4, .p 4 0),(11, .v (.bool (decide ((valF (bytes s)).num.sign < 0))))] [bR4 4 45 s10 A10 l10 c10 t10 B10 m10 d10] ?_
 rw [ZnM h0]
 refine xr 0 [(2, .v (.string ⟨#[]⟩)),(3, .v (.bool false)),(4, .p 4 0),(11, .v (.bool false))] [bR4 4 45 s10 A10 l10 c10 t10 B10 m10 d10] ?_
 refine xe (Zaa (xb (ZaA (Zaa (Zac ?_)))))
 refine ZaE 10 (by kernel_rfl) (by kernel_rfl) Zaj ?_
 refine xf 2 [(2, .v (.string ⟨#[]⟩)),(3, .v (.bool false)),(4, .p 4 0),eI2 13 s10 A10 l10 c10] [bR4 4 45 s10 A10 l10 c10 t10 B10 m10 d10] ?_
 refine xd 78 [vI2 s10 A10 l10 c10] 14 Zam _ (fun w R Q=>(ZeB _ ((valF (bytes s)).num) n _ Q.1.2.num h0 (Nat.le_trans (Za8 HQ.1) (by decide)) hn1 hn2).mono (fun _ _=>ZaK)) (fun xx=>?_)
 obtain ⟨s11,A11,l11,c11⟩:=xx
 refine xf 1 [(2, .v (.string ⟨#[]⟩)),(3, .v (.bool false)),(4, .p 4 0),eI2 14 s11 A11 l11 c11,eR4 15 s10 A10 l10 c10 t10 B10 m10 d10] [bR4 4 45 s10 A10 l10 c10 t10 B10 m10 d10] ?_
 refine xd 79 [vR4 s10 A10 l10 c10 t10 B10 m10 d10] 16 Zam _ (fun w R Q=>(Zdc _ (valF (bytes s)) _ Q.1.1.2).mono (fun _ _=>ZaK)) (fun xx=>?_)
 obtain ⟨s12,A12,l12,c12⟩:=xx
 refine xf 0 [(2, .v (.string ⟨#[]⟩)),(3, .v (.bool false)),(4, .p 4 0),eI2 14 s11 A11 l11 c11,eI2 16 s12 A12 l12 c12] [bR4 4 45 s10 A10 l10 c10 t10 B10 m10 d10] ?_
 refine xd 78 [vI2 s12 A12 l12 c12] 17 Zam _ (fun w R Q=>(ZeB _ (((valF (bytes s)).den:Int)) d _ Q.2 (by omega) (Nat.le_trans (mlc (Za8 HQ.2)) (by decide)) hd1 hd2).mono (fun _ _=>ZaK)) (fun xx=>?_)
 obtain ⟨s13,A13,l13,c13⟩:=xx
 refine xf 4 [(2, .v (.string ⟨#[]⟩)),(3, .v (.bool false)),(4, .p 4 0),(5, .p 5 0),(6, .p 6 0)] [bI2 6 43 s13 A13 l13 c13,bI2 5 43 s11 A11 l11 c11,bI2 6 43 false none 0 0,bI2 5 43 false none 0 0,bR4 4 45 s10 A10 l10 c10 t10 B10 m10 d10] ?_
 refine xz (xe (Zaa (Zac (Zac ?_))))
 refine ZaE 16 (by kernel_rfl) (by kernel_rfl) Zaj ?_
 refine xf 2 [(2, .v (.string ⟨#[]⟩)),(3, .v (.bool false)),(4, .p 4 0),(5, .p 5 0),(6, .p 6 0),eI2 18 s11 A11 l11 c11,eI2 19 s11 A11 l11 c11] [bI2 6 43 s13 A13 l13 c13,bI2 5 43 s11 A11 l11 c11,bI2 6 43 false none 0 0,bI2 5 43 false none 0 0,bR4 4 45 s10 A10 l10 c10 t10 B10 m10 d10] ?_
 refine xd 81 [vI2 s11 A11 l11 c11,vI2 s11 A11 l11 c11] 20 Zam _ (fun w R Q=>(ZgP (n:=n) Q.1.1.2 Q.1.1.2 (Nat.le_trans (ZdP hn1 (Za8 HQ.1)) (by decide))).mono (fun _ _=>ZaK)) (fun xx=>?_)
 obtain ⟨s14,A14,l14,c14⟩:=xx
 refine xf 2 [(2, .v (.string ⟨#[]⟩)),(3, .v (.bool false)),(4, .p 4 0),(5, .p 5 0),(6, .p 6 0),eI2 20 s14 A14 l14 c14,eI2 22 s10 A10 l10 c10] [bI2 6 43 s13 A13 l13 c13,bI2 5 43 s11 A11 l11 c11,bI2 6 43 false none 0 0,bI2 5 43 false none 0 0,bR4 4 45 s10 A10 l10 c10 t10 B10 m10 d10] ?_
 refine xd 80 [vI2 s14 A14 l14 c14,vI2 s10 A10 l10 c10] 23 (fun _:Unit=>.int .i64 ((((n * n:Nat):Int)) - ((valF (bytes s)).num)).sign) _ (fun w R Q=>(Ze4 _ _ (((n * n:Nat):Int)) ((valF (bytes s)).num) _ Q.2 Q.1.1.1.1.1.2.num (nfit (k:=400) (mlc (ZkV (ZdP hn1 (Za8 HQ.1)))) (by decide)) (nfit (k:=200) (Za8 HQ.1) (by decide))).mono (fun _ _ h=>Zae h rfl)) (fun xx=>?_)
 refine xf 1 [(2, .v (.string ⟨#[]⟩)),(3, .v (.bool false)),(4, .p 4 0),(5, .p 5 0),(6, .p 6 0),(24, .v (.bool ((((((n * n:Nat):Int)) - ((valF (bytes s)).num)).sign:Int) != 0)))] [bI2 6 43 s13 A13 l13 c13,bI2 5 43 s11 A11 l11 c11,bI2 6 43 false none 0 0,bI2 5 43 false none 0 0,bR4 4 45 s10 A10 l10 c10 t10 B10 m10 d10] ?_
 rw [ZnN hnn h0]
 refine xf 3 [(2, .v (.string ⟨#[]⟩)),(3, .v (.bool false)),(4, .p 4 0),(5, .p 5 0),(6, .p 6 0),(25, .v (.bool false)),eI2 26 s13 A13 l13 c13,eI2 27 s13 A13 l13 c13] [bI2 6 43 s13 A13 l13 c13,bI2 5 43 s11 A11 l11 c11,bI2 6 43 false none 0 0,bI2 5 43 false none 0 0,bR4 4 45 s10 A10 l10 c10 t10 B10 m10 d10] ?_
 refine xd 81 [vI2 s13 A13 l13 c13,vI2 s13 A13 l13 c13] 28 Zam _ (fun w R Q=>(ZgP (n:=d) Q.1.1.2 Q.1.1.2 (Nat.le_trans (ZdP hd1 (mlc (Za8 HQ.2))) (by decide))).mono (fun _ _=>ZaK)) (fun xx=>?_)
 obtain ⟨s15,A15,l15,c15⟩:=xx
 refine xf 1 [(2, .v (.string ⟨#[]⟩)),(3, .v (.bool false)),(5, .p 5 0),(6, .p 6 0),(25, .v (.bool false)),eI2 28 s15 A15 l15 c15,eR4 29 s10 A10 l10 c10 t10 B10 m10 d10] [bI2 6 43 s13 A13 l13 c13,bI2 5 43 s11 A11 l11 c11,bI2 6 43 false none 0 0,bI2 5 43 false none 0 0,bR4 4 45 s10 A10 l10 c10 t10 B10 m10 d10] ?_
 refine xd 79 [vR4 s10 A10 l10 c10 t10 B10 m10 d10] 30 Zam _ (fun w R Q=>(Zdc _ (valF (bytes s)) _ Q.1.1.1.1.1.1.1.2).mono (fun _ _=>ZaK)) (fun xx=>?_)
 obtain ⟨s16,A16,l16,c16⟩:=xx
 refine xf 0 [(2, .v (.string ⟨#[]⟩)),(3, .v (.bool false)),(5, .p 5 0),(6, .p 6 0),(25, .v (.bool false)),eI2 28 s15 A15 l15 c15,eI2 30 s16 A16 l16 c16] [bI2 6 43 s13 A13 l13 c13,bI2 5 43 s11 A11 l11 c11,bI2 6 43 false none 0 0,bI2 5 43 false none 0 0,bR4 4 45 s10 A10 l10 c10 t10 B10 m10 d10] ?_
 refine xd 80 [vI2 s15 A15 l15 c15,vI2 s16 A16 l16 c16] 31 (fun _:Unit=>.int .i64 ((((d * d:Nat):Int)) - (((valF (bytes s)).den:Int))).sign) _ (fun w R Q=>(Ze4 _ _ (((d * d:Nat):Int)) (((valF (bytes s)).den:Int)) _ Q.1.2 Q.2 (nfit (k:=400) (mlc (ZkV (ZdP hd1 (mlc (Za8 HQ.2))))) (by decide)) (nfit (k:=200) (mlc (Za8 HQ.2)) (by decide))).mono (fun _ _ h=>Zae h rfl)) (fun xx=>?_)
 refine xf 1 [(2, .v (.string ⟨#[]⟩)),(3, .v (.bool false)),(5, .p 5 0),(6, .p 6 0),(25, .v (.bool false)),(32, .v (.bool ((((((d * d:Nat):Int)) - (((valF (bytes s)).den:Int))).sign:Int) != 0)))] [bI2 6 43 s13 A13 l13 c13,bI2 5 43 s11 A11 l11 c11,bI2 6 43 false none 0 0,bI2 5 43 false none 0 0,bR4 4 45 s10 A10 l10 c10 t10 B10 m10 d10] ?_
 rw [Zq2 h']
 refine xf 1 [(2, .v (.string ⟨#[]⟩)),(3, .v (.bool false)),(5, .p 5 0),(6, .p 6 0),(33, .v (.bool true))] [bI2 6 43 s13 A13 l13 c13,bI2 5 43 s11 A11 l11 c11,bI2 6 43 false none 0 0,bI2 5 43 false none 0 0,bR4 4 45 s10 A10 l10 c10 t10 B10 m10 d10] ?_
 refine xz (xe (Zaa (xa (Zac (Zab (xr 2 [(2, .v (.string ⟨#[]⟩)),(3, .v (.bool false)),(5, .p 5 0),(6, .p 6 0)] [bI2 6 43 s13 A13 l13 c13,bI2 5 43 s11 A11 l11 c11] ?_))))))
 refine xe (Zaa (Zan (Zao ?_)))
 refine Zag (v:=.tuple #[.string ⟨#[]⟩, .bool false]) (by kernel_rfl) (fun w' R Q=>?_)
 exact ⟨rfl,R⟩
theorem Zra (s:ByteArray) (n d:Nat) (Q:Rat) (w:World) (hs:(bytes s).length≤200) (h0:0≤(valF (bytes s)).num) (hn1:n * n≤(valF (bytes s)).num.natAbs) (hn2:(valF (bytes s)).num.natAbs < (n + 1) * (n + 1)) (hd1:d * d≤((valF (bytes s)).den:Int).natAbs) (hd2:((valF (bytes s)).den:Int).natAbs < (d + 1) * (d + 1)) (hnn:n * n=(valF (bytes s)).num.natAbs) (hdd:d * d=((valF (bytes s)).den:Int).natAbs) (hQn:Q.num=(n:Int)) (hQd:(Q.den:Int)=(d:Int)) :
 Calls Tryz.prog 23 #[.string s] w (RetV w (.tuple #[.string ⟨(Zaf Q).toArray⟩, .bool true])):=by
 have HQ:=Zdb hs (by decide)
 have hd0:((d:Nat):Int)≠0:=by rw [← hQd]; have:=Q.den_nz; omega
 have hQ1:ml Q.num.natAbs≤65536:=by rw [hQn]; exact Nat.le_trans (mlc (ZdP hn1 (Za8 HQ.1))) (by decide)
 have hQ2:ml Q.den≤65536:=by rw [show Q.den=d by omega]; exact Nat.le_trans (ZdP hd1 (mlc (Za8 HQ.2))) (by decide)
 refine ZaB (Φ:=fun w=>True) Tryz.func23 rfl (by kernel_rfl) (fun w' hf=>trivial) ?_
 refine Zac (Zab (xr 2 [(0, .v (.string s)),(2, .v (.string ⟨#[]⟩)),(3, .v (.bool false))] [] ?_))
 refine xe (Zaa (Zac (Zab (xr 1 [(2, .v (.string ⟨#[]⟩)),(3, .v (.bool false)),(7, .v (.string s))] [] ?_))))
 refine xc 31 [.string s] 8 ZaJ _ (fun w S R=>(Zdw s _ (by rw [← Zah]; omega)).mono (fun _ _=>ZbE)) (fun xx=>?_)
 obtain ⟨s10,A10,l10,c10,t10,B10,m10,d10⟩:=xx
 refine xr 2 [(2, .v (.string ⟨#[]⟩)),(3, .v (.bool false)),(4, .p 4 0)] [bR4 4 45 s10 A10 l10 c10 t10 B10 m10 d10] ?_
 refine xe (Zaa (Zac (Zac (Zab (xr 1 [(2, .v (.string ⟨#[]⟩)),(3, .v (.bool false)),(4, .p 4 0),eR4 9 s10 A10 l10 c10 t10 B10 m10 d10] [bR4 4 45 s10 A10 l10 c10 t10 B10 m10 d10] ?_)))))
 refine xc 77 [vR4 s10 A10 l10 c10 t10 B10 m10 d10] 10 (fun _:Unit=>.int .i64 (valF (bytes s)).num.sign) _ (fun w S R=>(Zfx _ (valF (bytes s)) _ R.2).mono (fun _ _ h=>Zae h rfl)) (fun xx=>?_)
 refine xr 1 [(2, .v (.string ⟨#[]⟩)),(3, .v (.bool false)),(4, .p 4 0),(11, .v (.bool (decide ((valF (bytes s)).num.sign < 0))))] [bR4 4 45 s10 A10 l10 c10 t10 B10 m10 d10] ?_
 rw [ZnM h0]
 refine xr 0 [(2, .v (.string ⟨#[]⟩)),(3, .v (.bool false)),(4, .p 4 0),(11, .v (.bool false))] [bR4 4 45 s10 A10 l10 c10 t10 B10 m10 d10] ?_
 refine xe (Zaa (xb (ZaA (Zaa (Zac ?_)))))
 refine ZaE 10 (by kernel_rfl) (by kernel_rfl) Zaj ?_
 refine xf 2 [(2, .v (.string ⟨#[]⟩)),(3, .v (.bool false)),(4, .p 4 0),eI2 13 s10 A10 l10 c10] [bR4 4 45 s10 A10 l10 c10 t10 B10 m10 d10] ?_
 refine xd 78 [vI2 s10 A10 l10 c10] 14 Zam _ (fun w S R=>(ZeB _ ((valF (bytes s)).num) n _ R.1.2.num h0 (Nat.le_trans (Za8 HQ.1) (by decide)) hn1 hn2).mono (fun _ _=>ZaK)) (fun xx=>?_)
 obtain ⟨s11,A11,l11,c11⟩:=xx
 refine xf 1 [(2, .v (.string ⟨#[]⟩)),(3, .v (.bool false)),(4, .p 4 0),eI2 14 s11 A11 l11 c11,eR4 15 s10 A10 l10 c10 t10 B10 m10 d10] [bR4 4 45 s10 A10 l10 c10 t10 B10 m10 d10] ?_
 refine xd 79 [vR4 s10 A10 l10 c10 t10 B10 m10 d10] 16 Zam _ (fun w S R=>(Zdc _ (valF (bytes s)) _ R.1.1.2).mono (fun _ _=>ZaK)) (fun xx=>?_)
 obtain ⟨s12,A12,l12,c12⟩:=xx
 refine xf 0 [(2, .v (.string ⟨#[]⟩)),(3, .v (.bool false)),(4, .p 4 0),eI2 14 s11 A11 l11 c11,eI2 16 s12 A12 l12 c12] [bR4 4 45 s10 A10 l10 c10 t10 B10 m10 d10] ?_
 refine xd 78 [vI2 s12 A12 l12 c12] 17 Zam _ (fun w S R=>(ZeB _ (((valF (bytes s)).den:Int)) d _ R.2 (by omega) (Nat.le_trans (mlc (Za8 HQ.2)) (by decide)) hd1 hd2).mono (fun _ _=>ZaK)) (fun xx=>?_)
 obtain ⟨s13,A13,l13,c13⟩:=xx
 refine xf 4 [(2, .v (.string ⟨#[]⟩)),(3, .v (.bool false)),(4, .p 4 0),(5, .p 5 0),(6, .p 6 0)] [bI2 6 43 s13 A13 l13 c13,bI2 5 43 s11 A11 l11 c11,bI2 6 43 false none 0 0,bI2 5 43 false none 0 0,bR4 4 45 s10 A10 l10 c10 t10 B10 m10 d10] ?_
 refine xz (xe (Zaa (Zac (Zac ?_))))
 refine ZaE 16 (by kernel_rfl) (by kernel_rfl) Zaj ?_
 refine xf 2 [(2, .v (.string ⟨#[]⟩)),(3, .v (.bool false)),(4, .p 4 0),(5, .p 5 0),(6, .p 6 0),eI2 18 s11 A11 l11 c11,eI2 19 s11 A11 l11 c11] [bI2 6 43 s13 A13 l13 c13,bI2 5 43 s11 A11 l11 c11,bI2 6 43 false none 0 0,bI2 5 43 false none 0 0,bR4 4 45 s10 A10 l10 c10 t10 B10 m10 d10] ?_
 refine xd 81 [vI2 s11 A11 l11 c11,vI2 s11 A11 l11 c11] 20 Zam _ (fun w S R=>(ZgP (n:=n) R.1.1.2 R.1.1.2 (Nat.le_trans (ZdP hn1 (Za8 HQ.1)) (by decide))).mono (fun _ _=>ZaK)) (fun xx=>?_)
 obtain ⟨s14,A14,l14,c14⟩:=xx
 refine xf 2 [(2, .v (.string ⟨#[]⟩)),(3, .v (.bool false)),(4, .p 4 0),(5, .p 5 0),(6, .p 6 0),eI2 20 s14 A14 l14 c14,eI2 22 s10 A10 l10 c10] [bI2 6 43 s13 A13 l13 c13,bI2 5 43 s11 A11 l11 c11,bI2 6 43 false none 0 0,bI2 5 43 false none 0 0,bR4 4 45 s10 A10 l10 c10 t10 B10 m10 d10] ?_
 refine xd 80 [vI2 s14 A14 l14 c14,vI2 s10 A10 l10 c10] 23 (fun _:Unit=>.int .i64 ((((n * n:Nat):Int)) - ((valF (bytes s)).num)).sign) _ (fun w S R=>(Ze4 _ _ (((n * n:Nat):Int)) ((valF (bytes s)).num) _ R.2 R.1.1.1.1.1.2.num (nfit (k:=400) (mlc (ZkV (ZdP hn1 (Za8 HQ.1)))) (by decide)) (nfit (k:=200) (Za8 HQ.1) (by decide))).mono (fun _ _ h=>Zae h rfl)) (fun xx=>?_)
 refine xf 1 [(2, .v (.string ⟨#[]⟩)),(3, .v (.bool false)),(4, .p 4 0),(5, .p 5 0),(6, .p 6 0),(24, .v (.bool ((((((n * n:Nat):Int)) - ((valF (bytes s)).num)).sign:Int) != 0)))] [bI2 6 43 s13 A13 l13 c13,bI2 5 43 s11 A11 l11 c11,bI2 6 43 false none 0 0,bI2 5 43 false none 0 0,bR4 4 45 s10 A10 l10 c10 t10 B10 m10 d10] ?_
 rw [ZnN hnn h0]
 refine xf 3 [(2, .v (.string ⟨#[]⟩)),(3, .v (.bool false)),(4, .p 4 0),(5, .p 5 0),(6, .p 6 0),(25, .v (.bool false)),eI2 26 s13 A13 l13 c13,eI2 27 s13 A13 l13 c13] [bI2 6 43 s13 A13 l13 c13,bI2 5 43 s11 A11 l11 c11,bI2 6 43 false none 0 0,bI2 5 43 false none 0 0,bR4 4 45 s10 A10 l10 c10 t10 B10 m10 d10] ?_
 refine xd 81 [vI2 s13 A13 l13 c13,vI2 s13 A13 l13 c13] 28 Zam _ (fun w S R=>(ZgP (n:=d) R.1.1.2 R.1.1.2 (Nat.le_trans (ZdP hd1 (mlc (Za8 HQ.2))) (by decide))).mono (fun _ _=>ZaK)) (fun xx=>?_)
 obtain ⟨s15,A15,l15,c15⟩:=xx
 refine xf 1 [(2, .v (.string ⟨#[]⟩)),(3, .v (.bool false)),(5, .p 5 0),(6, .p 6 0),(25, .v (.bool false)),eI2 28 s15 A15 l15 c15,eR4 29 s10 A10 l10 c10 t10 B10 m10 d10] [bI2 6 43 s13 A13 l13 c13,bI2 5 43 s11 A11 l11 c11,bI2 6 43 false none 0 0,bI2 5 43 false none 0 0,bR4 4 45 s10 A10 l10 c10 t10 B10 m10 d10] ?_
 refine xd 79 [vR4 s10 A10 l10 c10 t10 B10 m10 d10] 30 Zam _ (fun w S R=>(Zdc _ (valF (bytes s)) _ R.1.1.1.1.1.1.1.2).mono (fun _ _=>ZaK)) (fun xx=>?_)
 obtain ⟨s16,A16,l16,c16⟩:=xx
 refine xf 0 [(2, .v (.string ⟨#[]⟩)),(3, .v (.bool false)),(5, .p 5 0),(6, .p 6 0),(25, .v (.bool false)),eI2 28 s15 A15 l15 c15,eI2 30 s16 A16 l16 c16] [bI2 6 43 s13 A13 l13 c13,bI2 5 43 s11 A11 l11 c11,bI2 6 43 false none 0 0,bI2 5 43 false none 0 0,bR4 4 45 s10 A10 l10 c10 t10 B10 m10 d10] ?_
 refine xd 80 [vI2 s15 A15 l15 c15,vI2 s16 A16 l16 c16] 31 (fun _:Unit=>.int .i64 ((((d * d:Nat):Int)) - (((valF (bytes s)).den:Int))).sign) _ (fun w S R=>(Ze4 _ _ (((d * d:Nat):Int)) (((valF (bytes s)).den:Int)) _ R.1.2 R.2 (nfit (k:=400) (mlc (ZkV (ZdP hd1 (mlc (Za8 HQ.2))))) (by decide)) (nfit (k:=200) (mlc (Za8 HQ.2)) (by decide))).mono (fun _ _ h=>Zae h rfl)) (fun xx=>?_)
 refine xf 1 [(2, .v (.string ⟨#[]⟩)),(3, .v (.bool false)),(5, .p 5 0),(6, .p 6 0),(25, .v (.bool false)),(32, .v (.bool ((((((d * d:Nat):Int)) - (((valF (bytes s)).den:Int))).sign:Int) != 0)))] [bI2 6 43 s13 A13 l13 c13,bI2 5 43 s11 A11 l11 c11,bI2 6 43 false none 0 0,bI2 5 43 false none 0 0,bR4 4 45 s10 A10 l10 c10 t10 B10 m10 d10] ?_
 rw [ZnN hdd (by omega)]
 refine xf 1 [(2, .v (.string ⟨#[]⟩)),(3, .v (.bool false)),(5, .p 5 0),(6, .p 6 0),(33, .v (.bool false))] [bI2 6 43 s13 A13 l13 c13,bI2 5 43 s11 A11 l11 c11,bI2 6 43 false none 0 0,bI2 5 43 false none 0 0,bR4 4 45 s10 A10 l10 c10 t10 B10 m10 d10] ?_
 refine xz (xe (Zaa (xb (ZaA (Zaa (Zac (Zab (xr 2 [(2, .v (.string ⟨#[]⟩)),(3, .v (.bool false)),eI2 34 s11 A11 l11 c11,eI2 35 s13 A13 l13 c13] [] ?_))))))))
 refine xc 82 [vI2 s11 A11 l11 c11,vI2 s13 A13 l13 c13] 36 ZaJ _ (fun w S R=>(Zip _ _ (((n:Nat):Int)) (((d:Nat):Int)) _ R.1.1.1.1.1.1.1.2 R.1.1.1.1.1.2 (nfit (k:=200) (mlc (ZdP hn1 (Za8 HQ.1))) (by decide)) (nfit (k:=200) (mlc (ZdP hd1 (mlc (Za8 HQ.2)))) (by decide)) hd0).mono (fun _ _ h=>ZbE (by rw [Zsc hQn hQd] at h; exact h))) (fun xx=>?_)
 obtain ⟨s17,A17,l17,c17,t17,B17,m17,d17⟩:=xx
 refine xr 0 [(2, .v (.string ⟨#[]⟩)),(3, .v (.bool false)),eR4 36 s17 A17 l17 c17 t17 B17 m17 d17] [] ?_
 refine xc 29 [vR4 s17 A17 l17 c17 t17 B17 m17 d17] 37 (fun _:Unit=>.string ⟨(Zaf Q).toArray⟩) _ (fun w S R=>(Zgp _ Q _ R.2 hQ1 hQ2).mono (fun _ _ h=>Zae h rfl)) (fun xx=>?_)
 refine xr 2 [(2, .v (.string ⟨(Zaf Q).toArray⟩)),(3, .v (.bool true))] [] ?_
 refine xe (Zaa (Zan ?_))
 refine Zag (v:=.tuple #[.string ⟨(Zaf Q).toArray⟩, .bool true]) (by kernel_rfl) (fun w' S R=>?_)
 exact ⟨rfl,S⟩
theorem Zrb (s:ByteArray) (t:ByteArray) (b:Bool) (w:World) (hs:(bytes s).length≤200) (hr:RootIs (valF (bytes s)) t b):Calls Tryz.prog 23 #[.string s] w (RetV w (.tuple #[.string t, .bool b])):=by
 cases hr with
 | neg h=>exact Zq7 s w hs h
 | no1 n d h0 hn1 hn2 hd1 hd2 h=>exact Zq8 s n d w hs h0 hn1 hn2 hd1 hd2 h
 | no2 n d h0 hn1 hn2 hd1 hd2 hnn h=>exact Zq9 s n d w hs h0 hn1 hn2 hd1 hd2 hnn h
 | yes n d Q h0 hn1 hn2 hd1 hd2 hnn hdd hQn hQd=>exact Zra s n d Q w hs h0 hn1 hn2 hd1 hd2 hnn hdd hQn hQd
end Go.Proofs.YthlipnahcbcjkaaGreatDoor

namespace Go.Proofs.YthlipnahcbcjkaaGreatDoor
open Go.RowKit
theorem Zrc {k:Nat} {a b:Rat} (ha:a.num.natAbs < 10 ^ k∧a.den < 10 ^ k) (hb:b.num.natAbs < 10 ^ k∧b.den < 10 ^ k):(gcdQ a b).num.natAbs < 10 ^ (2 * k + 1)∧(gcdQ a b).den < 10 ^ (2 * k + 1):=by
 have mm:∀ x y:Nat,x < 10 ^ k→y < 10 ^ k→x * y < 10 ^ (2 * k):=fun x y hx hy=>by
  have:=Nat.mul_lt_mul'' hx hy
  rwa [← Nat.pow_add,show k + k=2 * k by omega] at this
 have m1:=mm _ _ ha.1 hb.2
 have m2:=mm _ _ hb.1 ha.2
 have m3:=mm _ _ ha.2 hb.2
 refine ZkL (by have:=ZkM a b; omega) rfl ?_ ?_
 ·rw [Int.natAbs_natCast,Nat.pow_succ]
  have e1:(a.num * b.den).natAbs=a.num.natAbs * b.den:=by rw [Int.natAbs_mul,Int.natAbs_natCast]
  have e2:(b.num * a.den).natAbs=b.num.natAbs * a.den:=by rw [Int.natAbs_mul,Int.natAbs_natCast]
  rcases Nat.eq_zero_or_pos (a.num * b.den).natAbs with h | h
  ·have:Int.gcd (a.num * b.den) (b.num * a.den)=(b.num * a.den).natAbs:=by unfold Int.gcd; rw [h,Nat.gcd_zero_left]
   rw [this,e2]; omega
  ·have:Int.gcd (a.num * b.den) (b.num * a.den)≤(a.num * b.den).natAbs:=Nat.gcd_le_left _ h
   omega
 ·rw [Int.natAbs_mul,Int.natAbs_natCast,Int.natAbs_natCast,Nat.pow_succ]; omega
theorem Zhw (a b:ByteArray) (w:World) (hg:Glob w) :
 Calls Tryz.prog 5 #[.string a, .string b] w (RetV w (.bool true)):=by
 obtain ⟨r,hr⟩:∃ r,[a,b].all (fun s=>decide ((s.size:Int)≤200))=r:=⟨_,rfl⟩
 obtain ⟨t,k,hR⟩:=Ztf (valF (bytes a))
 refine ZaB (Φ:=fun w=>Glob w) Tryz.func5 rfl (by kernel_rfl) (fun w' hf=>hg.ext hf) ?_
 refine Zac (Zab (xr 1 [(0, .v (.string a)),(1, .v (.string b)),(4, .v (.bool false))] [] ?_))
 refine xe (Zaa (Zac (Zac (Zab (xr 2 [(0, .v (.string a)),(1, .v (.string b)),(4, .v (.bool false)),(9, .v (.string a)),(10, .v (.string b))] [] ?_)))))
 refine ZgJ (d:=11) (fun zb:Nat=>.slice (some ⟨zb,0,none⟩) 2 2) (fun zb zw=>Blk 9 zw zb #[.string a, .string b]) (by kernel_rfl) (by kernel_rfl) (by kernel_rfl) (by kernel_rfl) (by kernel_rfl) (by kernel_rfl) (fun w R Q=>Zom (t:=100) (e:=9) (n:=2) (sz:=1) (z:=.string ⟨#[]⟩) (parts:=#[(0,Operand.tmp 9),(1,Operand.tmp 10)]) (by kernel_rfl) (by kernel_rfl) (by kernel_rfl) (by kernel_rfl) (by kernel_rfl) (by kernel_rfl)) (fun b10=>?_)
 refine xr 0 [(0, .v (.string a)),(1, .v (.string b)),(4, .v (.bool false)),eS1 11 (some ⟨b10,0,none⟩) 2 2] [] ?_
 refine xc 20 [.int .i64 200, .slice (some ⟨b10,0,none⟩) 2 2] 12 (fun _:Unit=>.bool r) _ (fun w R Q=>(ZtO Q.2 hr).mono (fun _ _ h=>Zae h rfl)) (fun xx=>?_)
 rcases r with _ | _
 ·refine xr 1 [(0, .v (.string a)),(1, .v (.string b)),(4, .v (.bool false)),(13, .v (.bool true))] [] ?_
  refine xe (Zaa (xa (Zac (Zab ?_))))
  refine xc 21 [] 14 (fun _:Unit=>.bool true) _ (fun w R Q=>(Zfw _ Q.1.1).mono (fun _ _ h=>Zae h rfl)) (fun xx=>?_)
  refine xr 1 [(0, .v (.string a)),(1, .v (.string b)),(4, .v (.bool true))] [] ?_
  refine xe (Zaa (Zan (Zao ?_)))
  refine Zag (v:=.bool true) (by kernel_rfl) (fun w' R Q=>?_)
  exact ⟨rfl,R⟩
 ·have HL:=Zpu hr
  have La:(bytes a).length≤200:=by have:=HL.1; omega
  have Lb:(bytes b).length≤200:=by have:=HL.2; omega
  have Da:=Zdb La (by decide)
  have Db:=Zdb Lb (by decide)
  refine xr 1 [(0, .v (.string a)),(1, .v (.string b)),(4, .v (.bool false)),(13, .v (.bool false))] [] ?_
  refine xe (Zaa (xb (ZaA (Zaa (Zac (Zab (xr 1 [(0, .v (.string a)),(1, .v (.string b)),(4, .v (.bool false)),(16, .v (.string a))] [] ?_)))))))
  refine xc 22 [.string a] 17 (fun _:Unit=>.tuple #[.string t, .bool k]) _ (fun w R Q=>(Zq6 a t k _ Q.1.1 La hR).mono (fun _ _ h=>Zae h rfl)) (fun xx=>?_)
  refine xr 5 [(0, .v (.string a)),(1, .v (.string b)),(4, .v (.bool false)),(5, .v (.string t)),(6, .v (.bool k))] [] ?_
  refine xe (Zaa (Zac (Zab (xr 1 [(0, .v (.string a)),(1, .v (.string b)),(4, .v (.bool false)),(5, .v (.string t)),(6, .v (.bool k)),(21, .v (.string a))] [] ?_))))
  refine xc 23 [.string a] 22 (fun _:Unit=>.tuple #[.string t, .bool k]) _ (fun w R Q=>(Zrb a t k _ La hR).mono (fun _ _ h=>Zae h rfl)) (fun xx=>?_)
  refine xr 5 [(0, .v (.string a)),(1, .v (.string b)),(4, .v (.bool false)),(5, .v (.string t)),(6, .v (.bool k)),(7, .v (.string t)),(8, .v (.bool k))] [] ?_
  refine xe (Zaa (Zac (Zab (xr 1 [(0, .v (.string a)),(1, .v (.string b)),(4, .v (.bool false)),(5, .v (.string t)),(6, .v (.bool k)),(7, .v (.string t)),(8, .v (.bool k)),(25, .v (.string a))] [] ?_))))
  refine xc 24 [.string a] 26 (fun _:Unit=>.string ⟨(Lib.itoa ((valF (bytes a)).num / ((valF (bytes a)).den:Int))).toArray⟩) _ (fun w R Q=>(Zpx a _ Q.1.1.1.1 (by omega)).mono (fun _ _ h=>Zae h rfl)) (fun xx=>?_)
  refine xr 1 [(0, .v (.string a)),(1, .v (.string b)),(4, .v (.bool false)),(5, .v (.string t)),(6, .v (.bool k)),(7, .v (.string t)),(8, .v (.bool k)),(26, .v (.string ⟨(Lib.itoa ((valF (bytes a)).num / ((valF (bytes a)).den:Int))).toArray⟩)),(27, .v (.string a))] [] ?_
  refine xc 25 [.string a] 28 (fun _:Unit=>.string ⟨(Lib.itoa ((valF (bytes a)).num / ((valF (bytes a)).den:Int))).toArray⟩) _ (fun w R Q=>(ZpI a _ La).mono (fun _ _ h=>Zae h rfl)) (fun xx=>?_)
  refine xr 1 [(0, .v (.string a)),(1, .v (.string b)),(4, .v (.bool false)),(5, .v (.string t)),(6, .v (.bool k)),(7, .v (.string t)),(8, .v (.bool k)),(29, .v (.bool ((⟨(Lib.itoa ((valF (bytes a)).num / ((valF (bytes a)).den:Int))).toArray⟩:ByteArray).toList == (⟨(Lib.itoa ((valF (bytes a)).num / ((valF (bytes a)).den:Int))).toArray⟩:ByteArray).toList)))] [] ?_
  rw [ZcP]
  refine xr 2 [(0, .v (.string a)),(1, .v (.string b)),(4, .v (.bool false)),(5, .v (.string t)),(6, .v (.bool k)),(7, .v (.string t)),(8, .v (.bool k)),(30, .v (.bool true)),(31, .v (.string a))] [] ?_
  refine xc 26 [.string a] 32 (fun _:Unit=>.string ⟨(Lib.itoa (-(-(valF (bytes a)).num / ((valF (bytes a)).den:Int)))).toArray⟩) _ (fun w R Q=>(ZqS a _ Q.1.1.1.1.1.1 (by omega)).mono (fun _ _ h=>Zae h rfl)) (fun xx=>?_)
  refine xr 1 [(0, .v (.string a)),(1, .v (.string b)),(4, .v (.bool false)),(5, .v (.string t)),(6, .v (.bool k)),(7, .v (.string t)),(8, .v (.bool k)),(30, .v (.bool true)),(32, .v (.string ⟨(Lib.itoa (-(-(valF (bytes a)).num / ((valF (bytes a)).den:Int)))).toArray⟩)),(33, .v (.string a))] [] ?_
  refine xc 27 [.string a] 34 (fun _:Unit=>.string ⟨(Lib.itoa (-(-(valF (bytes a)).num / ((valF (bytes a)).den:Int)))).toArray⟩) _ (fun w R Q=>(ZqQ a _ La).mono (fun _ _ h=>Zae h rfl)) (fun xx=>?_)
  refine xr 1 [(0, .v (.string a)),(1, .v (.string b)),(4, .v (.bool false)),(5, .v (.string t)),(6, .v (.bool k)),(7, .v (.string t)),(8, .v (.bool k)),(30, .v (.bool true)),(35, .v (.bool ((⟨(Lib.itoa (-(-(valF (bytes a)).num / ((valF (bytes a)).den:Int)))).toArray⟩:ByteArray).toList == (⟨(Lib.itoa (-(-(valF (bytes a)).num / ((valF (bytes a)).den:Int)))).toArray⟩:ByteArray).toList)))] [] ?_
  rw [ZcP]
  refine xr 4 [(0, .v (.string a)),(1, .v (.string b)),(4, .v (.bool false)),(5, .v (.string t)),(6, .v (.bool k)),(7, .v (.string t)),(8, .v (.bool k)),(37, .v (.bool true)),(38, .v (.string a)),(39, .v (.string b))] [] ?_
  refine xc 28 [.string a, .string b] 40 (fun _:Unit=>.string ⟨(Zaf (gcdQ (valF (bytes a)) (valF (bytes b)))).toArray⟩) _ (fun w R Q=>(ZrO a b _ Q.1.1.1.1.1.1.1.1 (by omega) (by omega)).mono (fun _ _ h=>Zae h rfl)) (fun xx=>?_)
  refine xr 1 [(0, .v (.string a)),(1, .v (.string b)),(4, .v (.bool false)),(5, .v (.string t)),(6, .v (.bool k)),(7, .v (.string t)),(8, .v (.bool k)),(37, .v (.bool true)),(40, .v (.string ⟨(Zaf (gcdQ (valF (bytes a)) (valF (bytes b)))).toArray⟩)),(41, .v (.string a))] [] ?_
  refine xc 31 [.string a] 42 ZaJ _ (fun w R Q=>(Zdw a _ (by rw [← Zah]; omega)).mono (fun _ _=>ZbE)) (fun xx=>?_)
  obtain ⟨s11,A11,l11,c11,t11,B11,m11,d11⟩:=xx
  refine xr 1 [(0, .v (.string a)),(4, .v (.bool false)),(5, .v (.string t)),(6, .v (.bool k)),(7, .v (.string t)),(8, .v (.bool k)),(37, .v (.bool true)),(40, .v (.string ⟨(Zaf (gcdQ (valF (bytes a)) (valF (bytes b)))).toArray⟩)),eR4 42 s11 A11 l11 c11 t11 B11 m11 d11,(43, .v (.string b))] [] ?_
  refine xc 31 [.string b] 44 ZaJ _ (fun w R Q=>(Zdw b _ (by rw [← Zah]; omega)).mono (fun _ _=>ZbE)) (fun xx=>?_)
  obtain ⟨s12,A12,l12,c12,t12,B12,m12,d12⟩:=xx
  refine xr 0 [(0, .v (.string a)),(4, .v (.bool false)),(5, .v (.string t)),(6, .v (.bool k)),(7, .v (.string t)),(8, .v (.bool k)),(37, .v (.bool true)),(40, .v (.string ⟨(Zaf (gcdQ (valF (bytes a)) (valF (bytes b)))).toArray⟩)),eR4 42 s11 A11 l11 c11 t11 B11 m11 d11,eR4 44 s12 A12 l12 c12 t12 B12 m12 d12] [] ?_
  refine xc 30 [vR4 s11 A11 l11 c11 t11 B11 m11 d11,vR4 s12 A12 l12 c12 t12 B12 m12 d12] 45 ZaJ _ (fun w R Q=>(Zr2 _ _ (valF (bytes a)) (valF (bytes b)) _ Q.1.2 Q.2 (Zfz Da (by decide)) (Zfz Db (by decide))).mono (fun _ _=>ZbE)) (fun xx=>?_)
  obtain ⟨s13,A13,l13,c13,t13,B13,m13,d13⟩:=xx
  refine xr 0 [(0, .v (.string a)),(4, .v (.bool false)),(5, .v (.string t)),(6, .v (.bool k)),(7, .v (.string t)),(8, .v (.bool k)),(37, .v (.bool true)),(40, .v (.string ⟨(Zaf (gcdQ (valF (bytes a)) (valF (bytes b)))).toArray⟩)),eR4 45 s13 A13 l13 c13 t13 B13 m13 d13] [] ?_
  refine xc 29 [vR4 s13 A13 l13 c13 t13 B13 m13 d13] 46 (fun _:Unit=>.string ⟨(Zaf (gcdQ (valF (bytes a)) (valF (bytes b)))).toArray⟩) _ (fun w R Q=>(ZmF Q.2 (Zrc (k:=200) Da Db) (by decide)).mono (fun _ _ h=>Zae h rfl)) (fun xx=>?_)
  refine xr 1 [(0, .v (.string a)),(4, .v (.bool false)),(5, .v (.string t)),(6, .v (.bool k)),(7, .v (.string t)),(8, .v (.bool k)),(37, .v (.bool true)),(47, .v (.bool ((⟨(Zaf (gcdQ (valF (bytes a)) (valF (bytes b)))).toArray⟩:ByteArray).toList == (⟨(Zaf (gcdQ (valF (bytes a)) (valF (bytes b)))).toArray⟩:ByteArray).toList)))] [] ?_
  rw [ZcP]
  refine xr 5 [(0, .v (.string a)),(4, .v (.bool false)),(6, .v (.bool k)),(8, .v (.bool k)),(49, .v (.bool true)),(52, .v (.bool ((t:ByteArray).toList == (t:ByteArray).toList)))] [] ?_
  rw [ZcP]
  refine xr 5 [(0, .v (.string a)),(4, .v (.bool false)),(54, .v (.bool true)),(57, .v (.bool (k == k)))] [] ?_
  rw [(beq_self_eq_true k)]
  refine xr 3 [(0, .v (.string a)),(4, .v (.bool false)),(59, .v (.bool true)),(60, .v (.string a))] [] ?_
  refine xc 32 [.string a] 61 (fun _:Unit=>.int .i64 ((blen (valF (bytes a)).num.natAbs + blen ((valF (bytes a)).den:Int).natAbs:Nat):Int)) _ (fun w R Q=>(Zq0 a _ Q.1.1.1.1.1.1.1.1.1.1.1.1.1 La).mono (fun _ _ h=>Zae h rfl)) (fun xx=>?_)
  refine xr 1 [(4, .v (.bool false)),(59, .v (.bool true)),(61, .v (.int .i64 ((blen (valF (bytes a)).num.natAbs + blen ((valF (bytes a)).den:Int).natAbs:Nat):Int))),(62, .v (.string a))] [] ?_
  refine xc 33 [.string a] 63 (fun _:Unit=>.int .i64 ((blen (valF (bytes a)).num.natAbs + blen ((valF (bytes a)).den:Int).natAbs:Nat):Int)) _ (fun w R Q=>(Zq1 a _ La).mono (fun _ _ h=>Zae h rfl)) (fun xx=>?_)
  refine xr 1 [(4, .v (.bool false)),(59, .v (.bool true)),(64, .v (.bool ((((blen (valF (bytes a)).num.natAbs + blen ((valF (bytes a)).den:Int).natAbs:Nat):Int):Int) == ((blen (valF (bytes a)).num.natAbs + blen ((valF (bytes a)).den:Int).natAbs:Nat):Int))))] [] ?_
  rw [ZjH]
  refine xr 2 [(4, .v (.bool false)),(66, .v (.bool true))] [] ?_
  refine xc 21 [] 67 (fun _:Unit=>.bool true) _ (fun w R Q=>(Zfw _ Q.1.1.1.1.1.1.1.1.1.1.1.1.1.1.1).mono (fun _ _ h=>Zae h rfl)) (fun xx=>?_)
  refine xr 2 [(4, .v (.bool true))] [] ?_
  refine xe (Zaa (Zan ?_))
  refine Zag (v:=.bool true) (by kernel_rfl) (fun w' R Q=>?_)
  exact ⟨rfl,R⟩
end Go.Proofs.YthlipnahcbcjkaaGreatDoor
