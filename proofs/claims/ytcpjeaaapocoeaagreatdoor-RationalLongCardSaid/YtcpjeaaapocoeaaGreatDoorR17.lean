/-
 My texts Whole, Ra, Reduce2, Ts, PaM, Vl, Ai, Fs, Cmp, Tx, Sign, Dc, Len, Pa, Parse3, Pl, Px, Aw1, Num6, Num7, Ref1, Keep, RlL put together.
-/
import Derived.Test.YtcpjeaaapocoeaaGreatDoorR16
import Derived.Test.YtcpjeaaapocoeaaGreatDoorR15
import Derived.Test.YtcpjeaaapocoeaaGreatDoorR08
import Derived.Test.YtcpjeaaapocoeaaGreatDoorR10
import Derived.Test.YtcpjeaaapocoeaaGreatDoorR02
import Derived.Laws.IdiomStrings
set_option maxRecDepth 100000
namespace Go.Proofs.YtcpjeaaapocoeaaGreatDoor
open Go.RowKit
theorem ZcR (n:Int) (w:World) (hg:Glob w) (h0 : -9223372036854775808≤n) (h1:n≤9223372036854775807) :
 Calls Tryz.prog 231 #[.int .i64 n, .int .i64 10] w (RetV w (.string ⟨(Lib.itoa n).toArray⟩)) :=
 (Tryz.strconv_FormatInt_10 n h0 h1 w hg.1).mono (by
  rintro e w' ⟨rfl,k,os,rfl⟩
  exact ⟨rfl,Fr.ofBelow (Lib.below_grow _ w (Nat.le_refl _) k os)⟩)
set_option maxHeartbeats 1000000 in
theorem ZlF (n:Int) (w:World) (hg:Glob w) (h0 : -9223372036854775808≤n) (h1:n≤9223372036854775807) :
 Calls Tryz.prog 125 #[.int .i64 n] w (RetV w (.string ⟨(Lib.itoa n).toArray⟩)):=by
 have H:=zh (ZcR n w hg h0 h1)
 generalize Lib.itoa n=t at *
 clear hg
 go_enter Tryz.func125,Tryz.ntmps125
 go_wp2_with fail
 refine H.out.mono ?_
 rintro e w1 ⟨rfl,hF⟩
 have HF:=zh hF
 clear hF
 go_wp2
 go_ret
 exact ⟨rfl,HF.out⟩
set_option maxHeartbeats 1000000 in
theorem ZiX (n:Int) (w:World) (hg:Glob w) (h0 : -9223372036854775808≤n) (h1:n≤9223372036854775807) :
 Calls Tryz.prog 129 #[.int .i64 n, .int .i64 1] w (RetV w (.string ⟨(Lib.itoa n).toArray⟩)):=by
 have H:=zh (ZcR n w hg h0 h1)
 generalize Lib.itoa n=t at *
 clear hg
 go_enter Tryz.func129,Tryz.ntmps129
 go_wp2_with fail
 refine H.out.mono ?_
 rintro e w1 ⟨rfl,hF⟩
 have HF:=zh hF
 clear hF
 go_wp2
 go_ret
 exact ⟨rfl,HF.out⟩
def Zpo (w:World) (z:Int) (e:Ending) (w':World):Prop :=
 ∃ (z':Int) (ok:Bool),e=.returned (.tuple #[.int .i64 z', .bool ok])∧Hid (ok=true→z'=z ∧ -9223372036854775808≤z∧z≤9223372036854775807)∧Ext w w'
set_option maxHeartbeats 1000000 in
theorem Znw (a:Value) (z:Int) (w:World) (ha:Zap w a z):Calls Tryz.prog 124 #[a] w (Zpo w z):=by
 obtain ⟨s,A,l,c,rfl,hN,hz,h0⟩:=ha.open
 obtain ⟨A',xs,c',he,hc,hX,hd,ht,hv⟩:=hN
 injection he with e1 e2 e3
 subst e1 e2 e3
 match xs,hX,hd,ht,hv with
 | [],hX,hd,ht,hv =>
   have hz0:z=0:=by simp at hv; omega
   have HZ:Hid ((0:Int)=z ∧ -9223372036854775808≤z∧z≤9223372036854775807):=by unfold Hid; omega
   clear hX hd ht hv hz h0 hc hz0
   go_enter Tryz.func124,Tryz.ntmps124
   go_wp2
   go_ret2
   exact ⟨0,true,rfl,(fun _=>HZ.out),(Fr.refl _ _).alloc _⟩
 | [x],hX,hd,ht,hv =>
   obtain ⟨b,off,rfl,hb,hc0⟩:=hX.at (i:=0) (by simp)
   simp at hc0
   have hne:=Nat.ne_of_lt hb
   have hxv:x=z.natAbs:=by simpa using hv
   have hxW:x < 18446744073709551616:=by have:=hd x (by simp); rwa [Zal] at this
   cases s with
   | false =>
     have hzz:z=(x:Int):=by simp [sg] at hz; omega
     by_cases hle:x≤9223372036854775807
     ·have HZ:Hid ((x:Int)=z ∧ -9223372036854775808≤z∧z≤9223372036854775807):=by unfold Hid; omega
      have f1:IntKind.i64.wrap (x:Int)=(x:Int):=IntWalk.i64_in _ (by omega)
      have t1:decide ((x:Int)≤9223372036854775807)=true:=by simp; omega
      clear hX hd ht hv hz h0 hc hxv hzz hle hxW
      go_enter Tryz.func124,Tryz.ntmps124
      go_wp2
      go_ret2
      exact ⟨x,true,rfl,(fun _=>HZ.out),(Fr.refl _ _).alloc _⟩
     ·have t1:decide ((x:Int)≤9223372036854775807)=false:=by simp; omega
      clear hX hd ht hv hz h0 hc hxv hzz hle hxW
      go_enter Tryz.func124,Tryz.ntmps124
      go_wp2
      go_ret2
      exact ⟨0,false,rfl,(fun h=>by cases h),(Fr.refl _ _).alloc _⟩
   | true =>
     have hzz:z = -(x:Int):=by simp [sg] at hz; omega
     by_cases hle:x≤9223372036854775808
     ·have HZ:Hid (-(x:Int)=z ∧ -9223372036854775808≤z∧z≤9223372036854775807):=by unfold Hid; omega
      have f1:IntKind.i64.wrap (IntKind.u64.wrap (-(x:Int))) = -(x:Int):=by
       rw [IntKind.wrap_u64,IntKind.wrap_i64]; omega
      have t1:decide ((x:Int)≤9223372036854775808)=true:=by simp; omega
      clear hX hd ht hv hz h0 hc hxv hzz hle hxW
      go_enter Tryz.func124,Tryz.ntmps124
      go_wp2
      go_ret2
      exact ⟨-(x:Int),true,rfl,(fun _=>HZ.out),(Fr.refl _ _).alloc _⟩
     ·have t1:decide ((x:Int)≤9223372036854775808)=false:=by simp; omega
      clear hX hd ht hv hz h0 hc hxv hzz hle hxW
      go_enter Tryz.func124,Tryz.ntmps124
      go_wp2
      go_ret2
      exact ⟨0,false,rfl,(fun h=>by cases h),(Fr.refl _ _).alloc _⟩
 | x :: y :: ys,hX,hd,ht,hv =>
   obtain ⟨b,off,rfl,hb,hc0⟩:=hX.at (i:=0) (by simp)
   simp at hc0
   have hne:=Nat.ne_of_lt hb
   obtain ⟨k,hk⟩:∃ k,(x :: y :: ys).length=k:=⟨_,rfl⟩
   have hk2:2≤k:=by simp at hk; omega
   rw [hk]
   have t0:((k:Int) == 0)=false:=by simp; omega
   clear hX hd ht hv hz h0 hc hk
   go_enter Tryz.func124,Tryz.ntmps124
   go_wp2
   go_ret2
   exact ⟨0,false,rfl,(fun h=>by cases h),(Fr.refl _ _).alloc _⟩
set_option maxHeartbeats 1000000 in
theorem Zka (a:Value) (q:Rat) (w:World) (hg:Glob w) (ha:Zat w a q) (h1:q.den=1) (hp:Zbc q.num.natAbs) :
 Calls Tryz.prog 58 #[a] w (RetV w (.string ⟨(Lib.itoa q.num).toArray⟩)):=by
 obtain ⟨s,t,A,B,l,c,l',c',rfl,hn,hd⟩:=ha
 rw [Zet.2 h1] at hd
 generalize q.num=z at *
 have HN:=zh hn
 have HD:=zh hd
 have HG:=zh hg
 have HP:=zh hp
 clear hn hd h1 hg hp
 go_enter Tryz.func58,Tryz.ntmps58
 go_wp2_with fail
 generalize hwb:World.alloc w _=wb
 obtain ⟨hB0,hE0⟩:=Blk.one hwb
 clear hwb
 refine (Zau _ 0 _ (HD.out.ext hE0)).mono ?_
 rw [decide_eq_true rfl]
 rintro e w1 ⟨rfl,hF1⟩
 have HB1:=zh (hB0.ext hF1)
 have HE1:=zh (hE0.trans hF1)
 obtain ⟨x0,x1,x2,x3,_⟩:=(hB0.ext hF1).cell4
 clear hB0 hE0 hF1
 go_wp2_with fail
 refine (Znw _ z _ (HN.out.ext HE1.out)).mono ?_
 rintro e w2 ⟨z',ok,rfl,hR,hF2⟩
 have HB2:=zh (HB1.out.ext hF2)
 have HE2:=zh (HE1.out.trans hF2)
 obtain ⟨y0,y1,y2,y3,_⟩:=(HB1.out.ext hF2).cell4
 clear hF2 x0 x1 x2 x3 HB1 HE1
 cases ok with
 | true =>
   obtain ⟨rfl,r1,r2⟩:=hR.out rfl
   have HC:=zh (ZlF z' w2 (HG.out.ext HE2.out) r1 r2)
   generalize Lib.itoa z'=txt at *
   clear r1 r2
   go_wp2_with fail
   refine HC.out.mono ?_
   rintro e w3 ⟨rfl,hF3⟩
   have HE3:=zh (HE2.out.trans hF3)
   clear hF3
   go_wp2
   go_ret
   exact ⟨rfl,HE3.out⟩
 | false =>
   have HC:=zh (Zmw _ z w2 (HG.out.ext HE2.out) (HN.out.ext HE2.out) HP.out)
   generalize Lib.itoa z=txt at *
   clear hR
   go_wp2_with fail
   refine HC.out.mono ?_
   rintro e w3 ⟨rfl,hF3⟩
   have HE3:=zh (HE2.out.trans hF3)
   clear hF3
   go_wp2
   go_ret
   exact ⟨rfl,HE3.out⟩
end Go.Proofs.YtcpjeaaapocoeaaGreatDoor

namespace Go.Proofs.YtcpjeaaapocoeaaGreatDoor
open Go.RowKit
def Zbj (q:Rat) (k:Nat):Prop:=wl q.num.natAbs≤k∧wl q.den≤k
theorem wlm {x y:Int} {a b:Nat} (hx:wl x.natAbs≤a) (hy:wl y.natAbs≤b):wl (x * y).natAbs≤a + b:=by
 have h:=Zdl x.natAbs y.natAbs
 rw [← Int.natAbs_mul] at h
 omega
theorem wla {x y:Int} {a:Nat} (hx:wl x.natAbs≤a) (hy:wl y.natAbs≤a):wl (x + y).natAbs≤a + 1 :=
 Nat.le_trans (ZaS (Int.natAbs_add_le x y)) (Zgx hx hy)
theorem wlc {n k:Nat} (h:wl n≤k):wl ((n:Int)).natAbs≤k:=by rw [Int.natAbs_natCast]; exact h
theorem wlq {x y:Int} {k:Nat} (h:wl x.natAbs≤k):wl (x.tdiv y).natAbs≤k:=by
 rw [Int.natAbs_tdiv]; exact Nat.le_trans (ZaS (Nat.div_le_self _ _)) h
theorem wld {n m k:Nat} (h:wl n≤k):wl (n / m)≤k:=Nat.le_trans (ZaS (Nat.div_le_self _ _)) h
theorem wlg {x y:Int} {k:Nat} (h:wl y.natAbs≤k) (h0:y≠0):wl (Int.gcd x y)≤k :=
 Nat.le_trans (ZaS (Nat.gcd_le_right _ (by omega))) h
theorem fit {x:Int} {k:Nat} (h:wl x.natAbs≤k) (hk:k≤1048576):Fits x:=Nat.le_trans h hk
theorem ZdB (a b:Nat):(a:Int).tdiv (b:Int)=((a / b:Nat):Int):=by
 rw [Int.tdiv_eq_ediv_of_nonneg (by omega)]; rfl
theorem ZiY {p q:Rat} (h:p.den=1):(p + q).num=p.num * (q.den:Int) + q.num∧(p + q).den=q.den:=by
 have:=Zk2 (p:=p) (q:=q) (by rw [h]; exact Nat.gcd_one_left _)
 rw [h] at this
 simpa using this
theorem Zl3 {q:Rat} {n:Nat} (h:q.den=n) (h1:n≠1):denF q=(n:Int):=by rw [Ze6 (by rw [h]; exact h1),h]
theorem ZiZ {x:Int} {y:Int} (h:y≠0):((Int.gcd x y:Nat):Int)≠0:=fun e=>h ((Int.gcd_eq_zero_iff.1 (Int.ofNat_eq_zero.1 e)).2)
theorem Zbj.inv {q:Rat} {k:Nat} (h:Zbj q k):Zbj (q⁻¹) k:=by
 obtain ⟨h1,h2⟩:=h
 rcases Zk7 q.num with ⟨h,_⟩ | ⟨h,_⟩ | ⟨h,_⟩
 ·obtain ⟨e1,e2⟩:=Zk6 h
  refine ⟨by rw [e1,Int.natAbs_neg,Int.natAbs_natCast]; exact h2,?_⟩
  have:(q⁻¹).den=q.num.natAbs:=by omega
  rw [this]; exact h1
 ·rw [ZjW h]; exact ⟨by rw [show (0:Rat).num.natAbs=0 from rfl]; exact Nat.le_trans (ZaS (Nat.zero_le _)) h1,Nat.le_trans (ZaS (by have:=q.den_nz; show 1≤q.den; omega)) h2⟩
 ·obtain ⟨e1,e2⟩:=Zk5 h
  refine ⟨by rw [e1,Int.natAbs_natCast]; exact h2,?_⟩
  have:(q⁻¹).den=q.num.natAbs:=by omega
  rw [this]; exact h1
theorem ZoZ (a b:Value) (p q:Rat) (w:World) (ha:Zat w a p) (hb:Zat w b q) (hp:Zbj p 38) (hq:Zbj q 38) (h1:p.den=1) (h2:q.den=1) :
 Calls Tryz.prog 133 #[a,b] w (Zcu w (p + q)):=by
 obtain ⟨s0,A0,l0,c0,t0,B0,m0,d0,rfl⟩:=ha.shp
 obtain ⟨s1,A1,l1,c1,t1,B1,m1,d1,rfl⟩:=hb.shp
 have S1:wl p.num.natAbs≤38:=hp.1
 have S2:wl q.num.natAbs≤38:=hq.1
 have hp2:wl p.den≤38:=hp.2
 have hq2:wl q.den≤38:=hq.2
 have S3:wl ((p.den:Nat):Int).natAbs≤38:=wlc hp2
 have S4:wl ((q.den:Nat):Int).natAbs≤38:=wlc hq2
 have HW:=Zkb h1 h2
 refine ZaA (Φ:=fun w=>(((Zat w (.agg #[.bool s0, .slice A0 l0 c0, .bool t0, .slice B0 m0 d0]) (p)∧Zat w (.agg #[.bool s1, .slice A1 l1 c1, .bool t1, .slice B1 m1 d1]) (q))∧Zap w (.agg #[.bool t0, .slice B0 m0 d0]) (0))∧Zap w (.agg #[.bool t1, .slice B1 m1 d1]) (0))) Tryz.func133 rfl (by kernel_rfl) (fun w' hf=>⟨⟨⟨ha.ext hf,hb.ext hf⟩,(by have h:=ha.den; rw [Zeb h1] at h; exact h.ext hf)⟩,(by have h:=hb.den; rw [Zeb h2] at h; exact h.ext hf)⟩) ?_
 refine Zac (Zab (xr 3 [(2, .p 2 0),(3, .p 3 0),(4, .p 4 0)] [bR4 4 142 false none 0 0 false none 0 0,bR4 3 142 s1 A1 l1 c1 t1 B1 m1 d1,bR4 2 142 s0 A0 l0 c0 t0 B0 m0 d0] ?_))
 refine xe (Zaa (Zac (Za4 (Zac (Zab (xr 2 [(2, .p 2 0),(3, .p 3 0),(4, .p 4 0),eI2 12 t0 B0 m0 d0] [bR4 4 142 false none 0 0 false none 0 0,bR4 3 142 s1 A1 l1 c1 t1 B1 m1 d1,bR4 2 142 s0 A0 l0 c0 t0 B0 m0 d0] ?_))))))
 refine xc 55 [vI2 t0 B0 m0 d0] 13 (fun _:Unit=>.bool true) _ (fun w R Q=>(Zau _ (0) _ Q.1.2).mono (fun _ _ h=>Zae h (by rw [decide_eq_true (p:=(0)=0) rfl]))) (fun xx=>?_)
 refine xr 3 [(2, .p 2 0),(3, .p 3 0),(4, .p 4 0),(14, .v (.bool true)),eI2 16 t1 B1 m1 d1] [bR4 4 142 false none 0 0 false none 0 0,bR4 3 142 s1 A1 l1 c1 t1 B1 m1 d1,bR4 2 142 s0 A0 l0 c0 t0 B0 m0 d0] ?_
 refine xc 55 [vI2 t1 B1 m1 d1] 17 (fun _:Unit=>.bool true) _ (fun w R Q=>(Zau _ (0) _ Q.1.2).mono (fun _ _ h=>Zae h (by rw [decide_eq_true (p:=(0)=0) rfl]))) (fun xx=>?_)
 refine xr 2 [(2, .p 2 0),(3, .p 3 0),(4, .p 4 0),(10, .v (.bool true))] [bR4 4 142 false none 0 0 false none 0 0,bR4 3 142 s1 A1 l1 c1 t1 B1 m1 d1,bR4 2 142 s0 A0 l0 c0 t0 B0 m0 d0] ?_
 refine xe (Zaa (xa (Zac (Zab (xr 4 [(2, .p 2 0),(3, .p 3 0),(4, .p 4 0),eI2 20 s0 A0 l0 c0,eI2 22 s1 A1 l1 c1] [bR4 4 142 false none 0 0 false none 0 0,bR4 3 142 s1 A1 l1 c1 t1 B1 m1 d1,bR4 2 142 s0 A0 l0 c0 t0 B0 m0 d0] ?_)))))
 refine xc 238 [vI2 s0 A0 l0 c0,vI2 s1 A1 l1 c1] 23 Zav _ (fun w R Q=>(Zhi _ _ ((p).num) ((q).num) _ Q.1.1.1.1.1.num Q.1.1.1.1.2.num (fit S1 (by decide)) (fit S2 (by decide))).mono (fun _ _=>Zak)) (fun xx=>?_)
 obtain ⟨s10,A10,l10,c10⟩:=xx
 refine xr 2 [(2, .p 2 0),(3, .p 3 0),(4, .p 4 0)] [bR4 4 142 s10 A10 l10 c10 false none 0 0,bR4 3 142 s1 A1 l1 c1 t1 B1 m1 d1,bR4 2 142 s0 A0 l0 c0 t0 B0 m0 d0] ?_
 refine xe (Zaa (Zas (Zc7 (Zar ?_))))
 refine Zam (v:=.agg #[.bool s10, .slice A10 l10 c10, .bool false, .slice none 0 0]) (by kernel_rfl) (fun w' R Q=>?_)
 exact ⟨_,rfl,Zat.of (by rw [HW.1]; exact Q.2) (by rw [Zeb HW.2]; exact (Zap.nil _)),R⟩
theorem Zo0 (a b:Value) (p q:Rat) (w:World) (ha:Zat w a p) (hb:Zat w b q) (hp:Zbj p 38) (hq:Zbj q 38) (h1:p.den=1) (h2:¬ q.den=1) :
 Calls Tryz.prog 133 #[a,b] w (Zcu w (p + q)):=by
 obtain ⟨s0,A0,l0,c0,t0,B0,m0,d0,rfl⟩:=ha.shp
 obtain ⟨s1,A1,l1,c1,t1,B1,m1,d1,rfl⟩:=hb.shp
 have S1:wl p.num.natAbs≤38:=hp.1
 have S2:wl q.num.natAbs≤38:=hq.1
 have hp2:wl p.den≤38:=hp.2
 have hq2:wl q.den≤38:=hq.2
 have S3:wl ((p.den:Nat):Int).natAbs≤38:=wlc hp2
 have S4:wl ((q.den:Nat):Int).natAbs≤38:=wlc hq2
 have HW:=ZiY (q:=q) h1
 refine ZaA (Φ:=fun w=>(((Zat w (.agg #[.bool s0, .slice A0 l0 c0, .bool t0, .slice B0 m0 d0]) (p)∧Zat w (.agg #[.bool s1, .slice A1 l1 c1, .bool t1, .slice B1 m1 d1]) (q))∧Zap w (.agg #[.bool t0, .slice B0 m0 d0]) (0))∧Zap w (.agg #[.bool t1, .slice B1 m1 d1]) ((q.den:Int)))) Tryz.func133 rfl (by kernel_rfl) (fun w' hf=>⟨⟨⟨ha.ext hf,hb.ext hf⟩,(by have h:=ha.den; rw [Zeb h1] at h; exact h.ext hf)⟩,(by have h:=hb.den; rw [Ze6 h2] at h; exact h.ext hf)⟩) ?_
 refine Zac (Zab (xr 3 [(2, .p 2 0),(3, .p 3 0),(4, .p 4 0)] [bR4 4 142 false none 0 0 false none 0 0,bR4 3 142 s1 A1 l1 c1 t1 B1 m1 d1,bR4 2 142 s0 A0 l0 c0 t0 B0 m0 d0] ?_))
 refine xe (Zaa (Zac (Za4 (Zac (Zab (xr 2 [(2, .p 2 0),(3, .p 3 0),(4, .p 4 0),eI2 12 t0 B0 m0 d0] [bR4 4 142 false none 0 0 false none 0 0,bR4 3 142 s1 A1 l1 c1 t1 B1 m1 d1,bR4 2 142 s0 A0 l0 c0 t0 B0 m0 d0] ?_))))))
 refine xc 55 [vI2 t0 B0 m0 d0] 13 (fun _:Unit=>.bool true) _ (fun w R Q=>(Zau _ (0) _ Q.1.2).mono (fun _ _ h=>Zae h (by rw [decide_eq_true (p:=(0)=0) rfl]))) (fun xx=>?_)
 refine xr 3 [(2, .p 2 0),(3, .p 3 0),(4, .p 4 0),(14, .v (.bool true)),eI2 16 t1 B1 m1 d1] [bR4 4 142 false none 0 0 false none 0 0,bR4 3 142 s1 A1 l1 c1 t1 B1 m1 d1,bR4 2 142 s0 A0 l0 c0 t0 B0 m0 d0] ?_
 refine xc 55 [vI2 t1 B1 m1 d1] 17 (fun _:Unit=>.bool false) _ (fun w R Q=>(Zau _ ((q.den:Int)) _ Q.1.2).mono (fun _ _ h=>Zae h (by rw [decide_eq_false (p:=((q.den:Int))=0) (denI q)]))) (fun xx=>?_)
 refine xr 2 [(2, .p 2 0),(3, .p 3 0),(4, .p 4 0),(10, .v (.bool false))] [bR4 4 142 false none 0 0 false none 0 0,bR4 3 142 s1 A1 l1 c1 t1 B1 m1 d1,bR4 2 142 s0 A0 l0 c0 t0 B0 m0 d0] ?_
 refine xe (Zaa (xb (Zac (Zab (xr 2 [(2, .p 2 0),(3, .p 3 0),(4, .p 4 0),eI2 27 t0 B0 m0 d0] [bR4 4 142 false none 0 0 false none 0 0,bR4 3 142 s1 A1 l1 c1 t1 B1 m1 d1,bR4 2 142 s0 A0 l0 c0 t0 B0 m0 d0] ?_)))))
 refine xc 55 [vI2 t0 B0 m0 d0] 28 (fun _:Unit=>.bool true) _ (fun w R Q=>(Zau _ (0) _ Q.1.1.1.2).mono (fun _ _ h=>Zae h (by rw [decide_eq_true (p:=(0)=0) rfl]))) (fun xx=>?_)
 refine xr 1 [(2, .p 2 0),(3, .p 3 0),(4, .p 4 0),(25, .v (.bool true))] [bR4 4 142 false none 0 0 false none 0 0,bR4 3 142 s1 A1 l1 c1 t1 B1 m1 d1,bR4 2 142 s0 A0 l0 c0 t0 B0 m0 d0] ?_
 refine xe (Zaa (xa (Zac ?_)))
 refine ZaI 12 (by kernel_rfl) (by kernel_rfl) Zaq ?_
 refine xf 4 [(2, .p 2 0),(3, .p 3 0),(4, .p 4 0),eI2 30 s0 A0 l0 c0,eI2 32 t1 B1 m1 d1] [bR4 4 142 false none 0 0 false none 0 0,bR4 3 142 s1 A1 l1 c1 t1 B1 m1 d1,bR4 2 142 s0 A0 l0 c0 t0 B0 m0 d0] ?_
 refine xd 239 [vI2 s0 A0 l0 c0,vI2 t1 B1 m1 d1] 33 Zav _ (fun w R Q=>(Za7 _ _ ((p).num) ((q.den:Int)) _ Q.1.1.1.1.1.1.num Q.1.1.1.2 (fit S1 (by decide)) (fit S4 (by decide)) (Or.inl (Nat.lt_of_le_of_lt S1 (by decide)))).mono (fun _ _=>Zak)) (fun xx=>?_)
 obtain ⟨s10,A10,l10,c10⟩:=xx
 refine xf 2 [(2, .p 2 0),(3, .p 3 0),(4, .p 4 0),eI2 33 s10 A10 l10 c10,eI2 35 s1 A1 l1 c1] [bR4 4 142 false none 0 0 false none 0 0,bR4 3 142 s1 A1 l1 c1 t1 B1 m1 d1,bR4 2 142 s0 A0 l0 c0 t0 B0 m0 d0] ?_
 refine xd 238 [vI2 s10 A10 l10 c10,vI2 s1 A1 l1 c1] 36 Zav _ (fun w R Q=>(Zhi _ _ (((p).num) * ((q.den:Int))) ((q).num) _ Q.2 Q.1.1.1.1.1.1.2.num (fit (wlm S1 S4) (by decide)) (fit S2 (by decide))).mono (fun _ _=>Zak)) (fun xx=>?_)
 obtain ⟨s11,A11,l11,c11⟩:=xx
 refine xf 4 [(2, .p 2 0),(3, .p 3 0),(4, .p 4 0)] [bR4 4 142 s11 A11 l11 c11 t1 B1 m1 d1,bR4 4 142 false none 0 0 false none 0 0,bR4 3 142 s1 A1 l1 c1 t1 B1 m1 d1,bR4 2 142 s0 A0 l0 c0 t0 B0 m0 d0] ?_
 refine xz (xe (Zaa (Zas (Zc7 (Zar ?_)))))
 refine Zam (v:=.agg #[.bool s11, .slice A11 l11 c11, .bool t1, .slice B1 m1 d1]) (by kernel_rfl) (fun w' R Q=>?_)
 exact ⟨_,rfl,Zat.of (by rw [HW.1]; exact Q.2) (by rw [Zl3 HW.2 h2]; exact Q.1.1.1.1.1.2),R⟩
theorem Zo1 (a b:Value) (p q:Rat) (w:World) (ha:Zat w a p) (hb:Zat w b q) (hp:Zbj p 38) (hq:Zbj q 38) (h1:¬ p.den=1) (h2:q.den=1) :
 Calls Tryz.prog 133 #[a,b] w (Zcu w (p + q)):=by
 obtain ⟨s0,A0,l0,c0,t0,B0,m0,d0,rfl⟩:=ha.shp
 obtain ⟨s1,A1,l1,c1,t1,B1,m1,d1,rfl⟩:=hb.shp
 have S1:wl p.num.natAbs≤38:=hp.1
 have S2:wl q.num.natAbs≤38:=hq.1
 have hp2:wl p.den≤38:=hp.2
 have hq2:wl q.den≤38:=hq.2
 have S3:wl ((p.den:Nat):Int).natAbs≤38:=wlc hp2
 have S4:wl ((q.den:Nat):Int).natAbs≤38:=wlc hq2
 have HW:=(show (p + q).num=q.num * (p.den:Int) + p.num∧(p + q).den=p.den by rw [Rat.add_comm]; exact ZiY h2)
 refine ZaA (Φ:=fun w=>(((Zat w (.agg #[.bool s0, .slice A0 l0 c0, .bool t0, .slice B0 m0 d0]) (p)∧Zat w (.agg #[.bool s1, .slice A1 l1 c1, .bool t1, .slice B1 m1 d1]) (q))∧Zap w (.agg #[.bool t0, .slice B0 m0 d0]) ((p.den:Int)))∧Zap w (.agg #[.bool t1, .slice B1 m1 d1]) (0))) Tryz.func133 rfl (by kernel_rfl) (fun w' hf=>⟨⟨⟨ha.ext hf,hb.ext hf⟩,(by have h:=ha.den; rw [Ze6 h1] at h; exact h.ext hf)⟩,(by have h:=hb.den; rw [Zeb h2] at h; exact h.ext hf)⟩) ?_
 refine Zac (Zab (xr 3 [(2, .p 2 0),(3, .p 3 0),(4, .p 4 0)] [bR4 4 142 false none 0 0 false none 0 0,bR4 3 142 s1 A1 l1 c1 t1 B1 m1 d1,bR4 2 142 s0 A0 l0 c0 t0 B0 m0 d0] ?_))
 refine xe (Zaa (Zac (Za4 (Zac (Zab (xr 2 [(2, .p 2 0),(3, .p 3 0),(4, .p 4 0),eI2 12 t0 B0 m0 d0] [bR4 4 142 false none 0 0 false none 0 0,bR4 3 142 s1 A1 l1 c1 t1 B1 m1 d1,bR4 2 142 s0 A0 l0 c0 t0 B0 m0 d0] ?_))))))
 refine xc 55 [vI2 t0 B0 m0 d0] 13 (fun _:Unit=>.bool false) _ (fun w R Q=>(Zau _ ((p.den:Int)) _ Q.1.2).mono (fun _ _ h=>Zae h (by rw [decide_eq_false (p:=((p.den:Int))=0) (denI p)]))) (fun xx=>?_)
 refine xr 6 [(2, .p 2 0),(3, .p 3 0),(4, .p 4 0),(10, .v (.bool false))] [bR4 4 142 false none 0 0 false none 0 0,bR4 3 142 s1 A1 l1 c1 t1 B1 m1 d1,bR4 2 142 s0 A0 l0 c0 t0 B0 m0 d0] ?_
 refine xe (Zaa (xb (Zac (Zab (xr 2 [(2, .p 2 0),(3, .p 3 0),(4, .p 4 0),eI2 27 t0 B0 m0 d0] [bR4 4 142 false none 0 0 false none 0 0,bR4 3 142 s1 A1 l1 c1 t1 B1 m1 d1,bR4 2 142 s0 A0 l0 c0 t0 B0 m0 d0] ?_)))))
 refine xc 55 [vI2 t0 B0 m0 d0] 28 (fun _:Unit=>.bool false) _ (fun w R Q=>(Zau _ ((p.den:Int)) _ Q.1.1.2).mono (fun _ _ h=>Zae h (by rw [decide_eq_false (p:=((p.den:Int))=0) (denI p)]))) (fun xx=>?_)
 refine xr 1 [(2, .p 2 0),(3, .p 3 0),(4, .p 4 0),(25, .v (.bool false))] [bR4 4 142 false none 0 0 false none 0 0,bR4 3 142 s1 A1 l1 c1 t1 B1 m1 d1,bR4 2 142 s0 A0 l0 c0 t0 B0 m0 d0] ?_
 refine xe (Zaa (xb (Zac (Zab (xr 2 [(2, .p 2 0),(3, .p 3 0),(4, .p 4 0),eI2 42 t1 B1 m1 d1] [bR4 4 142 false none 0 0 false none 0 0,bR4 3 142 s1 A1 l1 c1 t1 B1 m1 d1,bR4 2 142 s0 A0 l0 c0 t0 B0 m0 d0] ?_)))))
 refine xc 55 [vI2 t1 B1 m1 d1] 43 (fun _:Unit=>.bool true) _ (fun w R Q=>(Zau _ (0) _ Q.1.1.2).mono (fun _ _ h=>Zae h (by rw [decide_eq_true (p:=(0)=0) rfl]))) (fun xx=>?_)
 refine xr 1 [(2, .p 2 0),(3, .p 3 0),(4, .p 4 0),(40, .v (.bool true))] [bR4 4 142 false none 0 0 false none 0 0,bR4 3 142 s1 A1 l1 c1 t1 B1 m1 d1,bR4 2 142 s0 A0 l0 c0 t0 B0 m0 d0] ?_
 refine xe (Zaa (xa (Zac ?_)))
 refine ZaI 12 (by kernel_rfl) (by kernel_rfl) Zaq ?_
 refine xf 4 [(2, .p 2 0),(3, .p 3 0),(4, .p 4 0),eI2 45 s1 A1 l1 c1,eI2 47 t0 B0 m0 d0] [bR4 4 142 false none 0 0 false none 0 0,bR4 3 142 s1 A1 l1 c1 t1 B1 m1 d1,bR4 2 142 s0 A0 l0 c0 t0 B0 m0 d0] ?_
 refine xd 239 [vI2 s1 A1 l1 c1,vI2 t0 B0 m0 d0] 48 Zav _ (fun w R Q=>(Za7 _ _ ((q).num) ((p.den:Int)) _ Q.1.1.1.1.1.2.num Q.1.1.1.1.2 (fit S2 (by decide)) (fit S3 (by decide)) (Or.inl (Nat.lt_of_le_of_lt S2 (by decide)))).mono (fun _ _=>Zak)) (fun xx=>?_)
 obtain ⟨s10,A10,l10,c10⟩:=xx
 refine xf 2 [(2, .p 2 0),(3, .p 3 0),(4, .p 4 0),eI2 48 s10 A10 l10 c10,eI2 50 s0 A0 l0 c0] [bR4 4 142 false none 0 0 false none 0 0,bR4 3 142 s1 A1 l1 c1 t1 B1 m1 d1,bR4 2 142 s0 A0 l0 c0 t0 B0 m0 d0] ?_
 refine xd 238 [vI2 s10 A10 l10 c10,vI2 s0 A0 l0 c0] 51 Zav _ (fun w R Q=>(Zhi _ _ (((q).num) * ((p.den:Int))) ((p).num) _ Q.2 Q.1.1.1.1.1.1.1.num (fit (wlm S2 S3) (by decide)) (fit S1 (by decide))).mono (fun _ _=>Zak)) (fun xx=>?_)
 obtain ⟨s11,A11,l11,c11⟩:=xx
 refine xf 4 [(2, .p 2 0),(3, .p 3 0),(4, .p 4 0)] [bR4 4 142 s11 A11 l11 c11 t0 B0 m0 d0,bR4 4 142 false none 0 0 false none 0 0,bR4 3 142 s1 A1 l1 c1 t1 B1 m1 d1,bR4 2 142 s0 A0 l0 c0 t0 B0 m0 d0] ?_
 refine xz (xe (Zaa (Zas (Zc7 (Zar ?_)))))
 refine Zam (v:=.agg #[.bool s11, .slice A11 l11 c11, .bool t0, .slice B0 m0 d0]) (by kernel_rfl) (fun w' R Q=>?_)
 exact ⟨_,rfl,Zat.of (by rw [HW.1]; exact Q.2) (by rw [Zl3 HW.2 h1]; exact Q.1.1.1.1.1.1.2),R⟩
theorem Zo2 (a b:Value) (p q:Rat) (w:World) (hg:Glob w) (ha:Zat w a p) (hb:Zat w b q) (hp:Zbj p 38) (hq:Zbj q 38) (h1:¬ p.den=1) (h2:¬ q.den=1) :
 Calls Tryz.prog 133 #[a,b] w (Zcu w (p + q)):=by
 obtain ⟨s0,A0,l0,c0,t0,B0,m0,d0,rfl⟩:=ha.shp
 obtain ⟨s1,A1,l1,c1,t1,B1,m1,d1,rfl⟩:=hb.shp
 have S1:wl p.num.natAbs≤38:=hp.1
 have S2:wl q.num.natAbs≤38:=hq.1
 have hp2:wl p.den≤38:=hp.2
 have hq2:wl q.den≤38:=hq.2
 have S3:wl ((p.den:Nat):Int).natAbs≤38:=wlc hp2
 have S4:wl ((q.den:Nat):Int).natAbs≤38:=wlc hq2
 obtain ⟨c,ec⟩:∃ c,Nat.gcd p.den q.den=c:=⟨_,rfl⟩
 have hc0:c≠0:=by have:=p.den_nz; rw [← ec]; exact fun e=>this (Nat.gcd_eq_zero_iff.1 e).1
 have Sc:wl c≤38:=by rw [← ec]; exact Nat.le_trans (ZaS (Nat.gcd_le_right _ (Nat.pos_of_ne_zero q.den_nz))) hq.2
 obtain ⟨n,en⟩:∃ n,(p).num * ((q.den / c:Nat):Int) + (q).num * ((p.den / c:Nat):Int)=n:=⟨_,rfl⟩
 have Sn:wl n.natAbs≤77:=by rw [← en]; exact wla (wlm S1 (wlc (wld hq2))) (wlm S2 (wlc (wld hp2)))
 have HA1:c=1→(p + q).num=n∧(p + q).den=p.den * q.den:=fun e=>by have h:=Zk2 (p:=p) (q:=q) (by rw [ec]; exact e); rw [← en,e,Nat.div_one,Nat.div_one]; exact h
 have HA2:c≠1→(p + q).num=n.tdiv (Int.gcd n c:Int)∧(p + q).den=p.den / c * (q.den / Int.gcd n c):=fun e=>Zoh ec e en
 have HA0:n=0→p + q=0:=fun e=>Rat.num_eq_zero.1 ((Decidable.em (c=1)).elim (fun h=>by rw [(HA1 h).1,e]) (fun h=>by rw [(HA2 h).1,e,Int.zero_tdiv]))
 have hci:(c:Int)≠0:=by omega
 refine ZaA (Φ:=fun w=>((((Zat w (.agg #[.bool s0, .slice A0 l0 c0, .bool t0, .slice B0 m0 d0]) (p)∧Zat w (.agg #[.bool s1, .slice A1 l1 c1, .bool t1, .slice B1 m1 d1]) (q))∧Glob w)∧Zap w (.agg #[.bool t0, .slice B0 m0 d0]) ((p.den:Int)))∧Zap w (.agg #[.bool t1, .slice B1 m1 d1]) ((q.den:Int)))) Tryz.func133 rfl (by kernel_rfl) (fun w' hf=>⟨⟨⟨⟨ha.ext hf,hb.ext hf⟩,hg.ext hf⟩,(by have h:=ha.den; rw [Ze6 h1] at h; exact h.ext hf)⟩,(by have h:=hb.den; rw [Ze6 h2] at h; exact h.ext hf)⟩) ?_
 refine Zac (Zab (xr 3 [(2, .p 2 0),(3, .p 3 0),(4, .p 4 0)] [bR4 4 142 false none 0 0 false none 0 0,bR4 3 142 s1 A1 l1 c1 t1 B1 m1 d1,bR4 2 142 s0 A0 l0 c0 t0 B0 m0 d0] ?_))
 refine xe (Zaa (Zac (Za4 (Zac (Zab (xr 2 [(2, .p 2 0),(3, .p 3 0),(4, .p 4 0),eI2 12 t0 B0 m0 d0] [bR4 4 142 false none 0 0 false none 0 0,bR4 3 142 s1 A1 l1 c1 t1 B1 m1 d1,bR4 2 142 s0 A0 l0 c0 t0 B0 m0 d0] ?_))))))
 refine xc 55 [vI2 t0 B0 m0 d0] 13 (fun _:Unit=>.bool false) _ (fun w R Q=>(Zau _ ((p.den:Int)) _ Q.1.2).mono (fun _ _ h=>Zae h (by rw [decide_eq_false (p:=((p.den:Int))=0) (denI p)]))) (fun xx=>?_)
 refine xr 6 [(2, .p 2 0),(3, .p 3 0),(4, .p 4 0),(10, .v (.bool false))] [bR4 4 142 false none 0 0 false none 0 0,bR4 3 142 s1 A1 l1 c1 t1 B1 m1 d1,bR4 2 142 s0 A0 l0 c0 t0 B0 m0 d0] ?_
 refine xe (Zaa (xb (Zac (Zab (xr 2 [(2, .p 2 0),(3, .p 3 0),(4, .p 4 0),eI2 27 t0 B0 m0 d0] [bR4 4 142 false none 0 0 false none 0 0,bR4 3 142 s1 A1 l1 c1 t1 B1 m1 d1,bR4 2 142 s0 A0 l0 c0 t0 B0 m0 d0] ?_)))))
 refine xc 55 [vI2 t0 B0 m0 d0] 28 (fun _:Unit=>.bool false) _ (fun w R Q=>(Zau _ ((p.den:Int)) _ Q.1.1.2).mono (fun _ _ h=>Zae h (by rw [decide_eq_false (p:=((p.den:Int))=0) (denI p)]))) (fun xx=>?_)
 refine xr 1 [(2, .p 2 0),(3, .p 3 0),(4, .p 4 0),(25, .v (.bool false))] [bR4 4 142 false none 0 0 false none 0 0,bR4 3 142 s1 A1 l1 c1 t1 B1 m1 d1,bR4 2 142 s0 A0 l0 c0 t0 B0 m0 d0] ?_
 refine xe (Zaa (xb (Zac (Zab (xr 2 [(2, .p 2 0),(3, .p 3 0),(4, .p 4 0),eI2 42 t1 B1 m1 d1] [bR4 4 142 false none 0 0 false none 0 0,bR4 3 142 s1 A1 l1 c1 t1 B1 m1 d1,bR4 2 142 s0 A0 l0 c0 t0 B0 m0 d0] ?_)))))
 refine xc 55 [vI2 t1 B1 m1 d1] 43 (fun _:Unit=>.bool false) _ (fun w R Q=>(Zau _ ((q.den:Int)) _ Q.1.1.2).mono (fun _ _ h=>Zae h (by rw [decide_eq_false (p:=((q.den:Int))=0) (denI q)]))) (fun xx=>?_)
 refine xr 1 [(2, .p 2 0),(3, .p 3 0),(4, .p 4 0),(40, .v (.bool false))] [bR4 4 142 false none 0 0 false none 0 0,bR4 3 142 s1 A1 l1 c1 t1 B1 m1 d1,bR4 2 142 s0 A0 l0 c0 t0 B0 m0 d0] ?_
 refine xe (Zaa (xb (Zax (Zdq (Zaa (Zac (Zab (xr 4 [(2, .p 2 0),(3, .p 3 0),(4, .p 4 0),eI2 56 t0 B0 m0 d0,eI2 58 t1 B1 m1 d1] [bR4 4 142 false none 0 0 false none 0 0,bR4 3 142 s1 A1 l1 c1 t1 B1 m1 d1,bR4 2 142 s0 A0 l0 c0 t0 B0 m0 d0] ?_))))))))
 refine xc 121 [vI2 t0 B0 m0 d0,vI2 t1 B1 m1 d1] 59 Zav _ (fun w R Q=>(Zd4 _ _ ((p.den:Int)) ((q.den:Int)) _ Q.1.1.1.1.1.2 Q.1.1.1.1.2 Q.1.1.1.2 (fit S3 (by decide)) (fit S4 (by decide)) (ZcL.words (Nat.le_trans S3 (by decide)) (Nat.le_trans S4 (by decide)))).mono (fun _ _ h=>Zak (by rw [(show Int.gcd (p.den:Int) (q.den:Int)=c from ec)] at h; exact h))) (fun xx=>?_)
 obtain ⟨s10,A10,l10,c10⟩:=xx
 refine xr 2 [(2, .p 2 0),(3, .p 3 0),(4, .p 4 0),(5, .p 5 0)] [bI2 5 135 s10 A10 l10 c10,bR4 4 142 false none 0 0 false none 0 0,bR4 3 142 s1 A1 l1 c1 t1 B1 m1 d1,bR4 2 142 s0 A0 l0 c0 t0 B0 m0 d0] ?_
 refine xe (Zaa (Zac ?_))
 refine ZaI 12 (by kernel_rfl) (by kernel_rfl) Zaq ?_
 refine xf 3 [(2, .p 2 0),(3, .p 3 0),(4, .p 4 0),(5, .p 5 0),eI2 61 t1 B1 m1 d1,eI2 62 s10 A10 l10 c10] [bI2 5 135 s10 A10 l10 c10,bR4 4 142 false none 0 0 false none 0 0,bR4 3 142 s1 A1 l1 c1 t1 B1 m1 d1,bR4 2 142 s0 A0 l0 c0 t0 B0 m0 d0] ?_
 refine xd 122 [vI2 t1 B1 m1 d1,vI2 s10 A10 l10 c10] 63 Zav _ (fun w R Q=>(ZcW _ _ ((q.den:Int)) ((c:Int)) _ Q.1.1.1.1.2 Q.2 (fit S4 (by decide)) (Nat.lt_of_le_of_lt (wlc Sc) (by decide)) hci).mono (fun _ _ h=>Zak (by rw [ZdB] at h; exact h))) (fun xx=>?_)
 obtain ⟨s11,A11,l11,c11⟩:=xx
 refine xf 3 [(2, .p 2 0),(3, .p 3 0),(4, .p 4 0),(5, .p 5 0),eI2 63 s11 A11 l11 c11,eI2 65 t0 B0 m0 d0,eI2 66 s10 A10 l10 c10] [bI2 5 135 s10 A10 l10 c10,bR4 4 142 false none 0 0 false none 0 0,bR4 3 142 s1 A1 l1 c1 t1 B1 m1 d1,bR4 2 142 s0 A0 l0 c0 t0 B0 m0 d0] ?_
 refine xd 122 [vI2 t0 B0 m0 d0,vI2 s10 A10 l10 c10] 67 Zav _ (fun w R Q=>(ZcW _ _ ((p.den:Int)) ((c:Int)) _ Q.1.1.1.1.1.1.2 Q.1.2 (fit S3 (by decide)) (Nat.lt_of_le_of_lt (wlc Sc) (by decide)) hci).mono (fun _ _ h=>Zak (by rw [ZdB] at h; exact h))) (fun xx=>?_)
 obtain ⟨s12,A12,l12,c12⟩:=xx
 refine xf 4 [(2, .p 2 0),(3, .p 3 0),(4, .p 4 0),(5, .p 5 0),(6, .p 6 0),(7, .p 7 0)] [bI2 7 135 s12 A12 l12 c12,bI2 6 135 s11 A11 l11 c11,bI2 7 135 false none 0 0,bI2 6 135 false none 0 0,bI2 5 135 s10 A10 l10 c10,bR4 4 142 false none 0 0 false none 0 0,bR4 3 142 s1 A1 l1 c1 t1 B1 m1 d1,bR4 2 142 s0 A0 l0 c0 t0 B0 m0 d0] ?_
 refine xz (xe (Zaa (Zac ?_)))
 refine ZaI 11 (by kernel_rfl) (by kernel_rfl) Zaq ?_
 refine xf 3 [(2, .p 2 0),(3, .p 3 0),(4, .p 4 0),(5, .p 5 0),(7, .p 7 0),eI2 69 s0 A0 l0 c0,eI2 70 s11 A11 l11 c11] [bI2 7 135 s12 A12 l12 c12,bI2 6 135 s11 A11 l11 c11,bI2 7 135 false none 0 0,bI2 6 135 false none 0 0,bI2 5 135 s10 A10 l10 c10,bR4 4 142 false none 0 0 false none 0 0,bR4 3 142 s1 A1 l1 c1 t1 B1 m1 d1,bR4 2 142 s0 A0 l0 c0 t0 B0 m0 d0] ?_
 refine xd 239 [vI2 s0 A0 l0 c0,vI2 s11 A11 l11 c11] 71 Zav _ (fun w R Q=>(Za7 _ _ ((p).num) (((q.den / c:Nat):Int)) _ Q.1.1.1.1.1.1.1.1.1.1.num Q.1.2 (fit S1 (by decide)) (fit (wlc (wld hq2)) (by decide)) (Or.inl (Nat.lt_of_le_of_lt S1 (by decide)))).mono (fun _ _=>Zak)) (fun xx=>?_)
 obtain ⟨s13,A13,l13,c13⟩:=xx
 refine xf 3 [(2, .p 2 0),(3, .p 3 0),(4, .p 4 0),(5, .p 5 0),(7, .p 7 0),eI2 71 s13 A13 l13 c13,eI2 73 s1 A1 l1 c1,eI2 74 s12 A12 l12 c12] [bI2 7 135 s12 A12 l12 c12,bI2 6 135 s11 A11 l11 c11,bI2 7 135 false none 0 0,bI2 6 135 false none 0 0,bI2 5 135 s10 A10 l10 c10,bR4 4 142 false none 0 0 false none 0 0,bR4 3 142 s1 A1 l1 c1 t1 B1 m1 d1,bR4 2 142 s0 A0 l0 c0 t0 B0 m0 d0] ?_
 refine xd 239 [vI2 s1 A1 l1 c1,vI2 s12 A12 l12 c12] 75 Zav _ (fun w R Q=>(Za7 _ _ ((q).num) (((p.den / c:Nat):Int)) _ Q.1.1.1.1.1.1.1.1.1.1.2.num Q.1.2 (fit S2 (by decide)) (fit (wlc (wld hp2)) (by decide)) (Or.inl (Nat.lt_of_le_of_lt S2 (by decide)))).mono (fun _ _=>Zak)) (fun xx=>?_)
 obtain ⟨s14,A14,l14,c14⟩:=xx
 refine xf 0 [(2, .p 2 0),(3, .p 3 0),(4, .p 4 0),(5, .p 5 0),(7, .p 7 0),eI2 71 s13 A13 l13 c13,eI2 75 s14 A14 l14 c14] [bI2 7 135 s12 A12 l12 c12,bI2 6 135 s11 A11 l11 c11,bI2 7 135 false none 0 0,bI2 6 135 false none 0 0,bI2 5 135 s10 A10 l10 c10,bR4 4 142 false none 0 0 false none 0 0,bR4 3 142 s1 A1 l1 c1 t1 B1 m1 d1,bR4 2 142 s0 A0 l0 c0 t0 B0 m0 d0] ?_
 refine xd 238 [vI2 s13 A13 l13 c13,vI2 s14 A14 l14 c14] 76 Zav _ (fun w R Q=>(Zhi _ _ (((p).num) * (((q.den / c:Nat):Int))) (((q).num) * (((p.den / c:Nat):Int))) _ Q.1.2 Q.2 (fit (wlm S1 (wlc (wld hq2))) (by decide)) (fit (wlm S2 (wlc (wld hp2))) (by decide))).mono (fun _ _ h=>Zak (by rw [en] at h; exact h))) (fun xx=>?_)
 obtain ⟨s15,A15,l15,c15⟩:=xx
 refine xf 2 [(2, .p 2 0),(3, .p 3 0),(4, .p 4 0),(5, .p 5 0),(7, .p 7 0),(8, .p 8 0)] [bI2 8 135 s15 A15 l15 c15,bI2 8 135 false none 0 0,bI2 7 135 s12 A12 l12 c12,bI2 6 135 s11 A11 l11 c11,bI2 7 135 false none 0 0,bI2 6 135 false none 0 0,bI2 5 135 s10 A10 l10 c10,bR4 4 142 false none 0 0 false none 0 0,bR4 3 142 s1 A1 l1 c1 t1 B1 m1 d1,bR4 2 142 s0 A0 l0 c0 t0 B0 m0 d0] ?_
 refine xz (xe (Zaa (Zac (Zac (Zab (xr 1 [(2, .p 2 0),(3, .p 3 0),(4, .p 4 0),(5, .p 5 0),(7, .p 7 0),(8, .p 8 0),eI2 77 s15 A15 l15 c15] [bI2 8 135 s15 A15 l15 c15,bI2 7 135 s12 A12 l12 c12,bI2 5 135 s10 A10 l10 c10,bR4 4 142 false none 0 0 false none 0 0,bR4 3 142 s1 A1 l1 c1 t1 B1 m1 d1,bR4 2 142 s0 A0 l0 c0 t0 B0 m0 d0] ?_))))))
 by_cases hz16:(n)=0
 ·refine xc 55 [vI2 s15 A15 l15 c15] 78 (fun _:Unit=>.bool true) _ (fun w R Q=>(Zau _ (n) _ Q.2).mono (fun _ _ h=>Zae h (by rw [decide_eq_true (p:=(n)=0) hz16]))) (fun xx=>?_)
  refine xr 0 [(2, .p 2 0),(3, .p 3 0),(4, .p 4 0),(5, .p 5 0),(7, .p 7 0),(8, .p 8 0),(78, .v (.bool true))] [bI2 8 135 s15 A15 l15 c15,bI2 7 135 s12 A12 l12 c12,bI2 5 135 s10 A10 l10 c10,bR4 4 142 false none 0 0 false none 0 0,bR4 3 142 s1 A1 l1 c1 t1 B1 m1 d1,bR4 2 142 s0 A0 l0 c0 t0 B0 m0 d0] ?_
  refine xe (Zaa (xa (Zac (Zab (xr 2 [(2, .p 2 0),(3, .p 3 0),(4, .p 4 0),(5, .p 5 0),(7, .p 7 0),(8, .p 8 0)] [bI2 8 135 s15 A15 l15 c15,bI2 7 135 s12 A12 l12 c12,bI2 5 135 s10 A10 l10 c10,bR4 4 142 false none 0 0 false none 0 0,bR4 3 142 s1 A1 l1 c1 t1 B1 m1 d1,bR4 2 142 s0 A0 l0 c0 t0 B0 m0 d0] ?_)))))
  refine xe (Zaa (Zas (Zar ?_)))
  refine Zam (v:=.agg #[.bool false, .slice none 0 0, .bool false, .slice none 0 0]) (by kernel_rfl) (fun w' R Q=>?_)
  exact ⟨_,rfl,by rw [HA0 hz16]; exact (Zat.nil _),R⟩
 ·refine xc 55 [vI2 s15 A15 l15 c15] 78 (fun _:Unit=>.bool false) _ (fun w R Q=>(Zau _ (n) _ Q.2).mono (fun _ _ h=>Zae h (by rw [decide_eq_false (p:=(n)=0) hz16]))) (fun xx=>?_)
  refine xr 0 [(2, .p 2 0),(3, .p 3 0),(4, .p 4 0),(5, .p 5 0),(7, .p 7 0),(8, .p 8 0),(78, .v (.bool false))] [bI2 8 135 s15 A15 l15 c15,bI2 7 135 s12 A12 l12 c12,bI2 5 135 s10 A10 l10 c10,bR4 4 142 false none 0 0 false none 0 0,bR4 3 142 s1 A1 l1 c1 t1 B1 m1 d1,bR4 2 142 s0 A0 l0 c0 t0 B0 m0 d0] ?_
  refine xe (Zaa (xb (Zax (Zaa (Zac (Zac (Zab (xr 1 [(2, .p 2 0),(3, .p 3 0),(4, .p 4 0),(5, .p 5 0),(7, .p 7 0),(8, .p 8 0),eI2 80 s10 A10 l10 c10] [bI2 8 135 s15 A15 l15 c15,bI2 7 135 s12 A12 l12 c12,bI2 5 135 s10 A10 l10 c10,bR4 4 142 false none 0 0 false none 0 0,bR4 3 142 s1 A1 l1 c1 t1 B1 m1 d1,bR4 2 142 s0 A0 l0 c0 t0 B0 m0 d0] ?_))))))))
  by_cases hz17:((c:Int))=1
  ·refine xc 120 [vI2 s10 A10 l10 c10] 81 (fun _:Unit=>.bool true) _ (fun w R Q=>(Za9 _ ((c:Int)) _ Q.1.1.1.1.1.1.2).mono (fun _ _ h=>Zae h (by rw [decide_eq_true (p:=((c:Int))=1) hz17]))) (fun xx=>?_)
   refine xr 0 [(2, .p 2 0),(3, .p 3 0),(4, .p 4 0),(5, .p 5 0),(7, .p 7 0),(8, .p 8 0),(81, .v (.bool true))] [bI2 8 135 s15 A15 l15 c15,bI2 7 135 s12 A12 l12 c12,bI2 5 135 s10 A10 l10 c10,bR4 4 142 false none 0 0 false none 0 0,bR4 3 142 s1 A1 l1 c1 t1 B1 m1 d1,bR4 2 142 s0 A0 l0 c0 t0 B0 m0 d0] ?_
   refine xe (Zaa (xa (Zac ?_)))
   refine ZaI 8 (by kernel_rfl) (by kernel_rfl) Zaq ?_
   refine xf 5 [(3, .p 3 0),(4, .p 4 0),(5, .p 5 0),(7, .p 7 0),(8, .p 8 0),eI2 82 s15 A15 l15 c15,eI2 84 t0 B0 m0 d0,eI2 86 t1 B1 m1 d1] [bI2 8 135 s15 A15 l15 c15,bI2 7 135 s12 A12 l12 c12,bI2 5 135 s10 A10 l10 c10,bR4 4 142 false none 0 0 false none 0 0,bR4 3 142 s1 A1 l1 c1 t1 B1 m1 d1,bR4 2 142 s0 A0 l0 c0 t0 B0 m0 d0] ?_
   refine xd 239 [vI2 t0 B0 m0 d0,vI2 t1 B1 m1 d1] 87 Zav _ (fun w R Q=>(Za7 _ _ ((p.den:Int)) ((q.den:Int)) _ Q.1.1.1.1.1.1.1.1.1.1.1.1.2 Q.1.1.1.1.1.1.1.1.1.1.1.2 (fit S3 (by decide)) (fit S4 (by decide)) (Or.inl (Nat.lt_of_le_of_lt S3 (by decide)))).mono (fun _ _=>Zak)) (fun xx=>?_)
   obtain ⟨s18,A18,l18,c18⟩:=xx
   refine xf 0 [(3, .p 3 0),(4, .p 4 0),(5, .p 5 0),(7, .p 7 0),(8, .p 8 0),eI2 82 s15 A15 l15 c15,eI2 87 s18 A18 l18 c18] [bI2 8 135 s15 A15 l15 c15,bI2 7 135 s12 A12 l12 c12,bI2 5 135 s10 A10 l10 c10,bR4 4 142 false none 0 0 false none 0 0,bR4 3 142 s1 A1 l1 c1 t1 B1 m1 d1,bR4 2 142 s0 A0 l0 c0 t0 B0 m0 d0] ?_
   refine xd 123 [vI2 s15 A15 l15 c15,vI2 s18 A18 l18 c18] 88 Zbf _ (fun w R Q=>(ZbO _ _ (n) (((p.den:Int)) * ((q.den:Int))) (p + q) _ Q.1.1.1.2 Q.2 (by obtain ⟨k1,k2⟩:=HA1 (by omega); exact ⟨k1,by rw [k2,Int.natCast_mul]⟩)).mono (fun _ _=>ZaK)) (fun xx=>?_)
   obtain ⟨s19,A19,l19,c19,t19,B19,m19,d19⟩:=xx
   refine xf 1 [(3, .p 3 0),(4, .p 4 0),(5, .p 5 0),(7, .p 7 0),(8, .p 8 0)] [bR4 4 142 s19 A19 l19 c19 t19 B19 m19 d19,bI2 8 135 s15 A15 l15 c15,bI2 7 135 s12 A12 l12 c12,bI2 5 135 s10 A10 l10 c10,bR4 4 142 false none 0 0 false none 0 0,bR4 3 142 s1 A1 l1 c1 t1 B1 m1 d1,bR4 2 142 s0 A0 l0 c0 t0 B0 m0 d0] ?_
   refine xz (xe (Zaa (Zas (Zar ?_))))
   refine Zam (v:=.agg #[.bool s19, .slice A19 l19 c19, .bool t19, .slice B19 m19 d19]) (by kernel_rfl) (fun w' R Q=>?_)
   exact ⟨_,rfl,Q.2,R⟩
  ·refine xc 120 [vI2 s10 A10 l10 c10] 81 (fun _:Unit=>.bool false) _ (fun w R Q=>(Za9 _ ((c:Int)) _ Q.1.1.1.1.1.1.2).mono (fun _ _ h=>Zae h (by rw [decide_eq_false (p:=((c:Int))=1) hz17]))) (fun xx=>?_)
   refine xr 0 [(2, .p 2 0),(3, .p 3 0),(4, .p 4 0),(5, .p 5 0),(7, .p 7 0),(8, .p 8 0),(81, .v (.bool false))] [bI2 8 135 s15 A15 l15 c15,bI2 7 135 s12 A12 l12 c12,bI2 5 135 s10 A10 l10 c10,bR4 4 142 false none 0 0 false none 0 0,bR4 3 142 s1 A1 l1 c1 t1 B1 m1 d1,bR4 2 142 s0 A0 l0 c0 t0 B0 m0 d0] ?_
   refine xe (Zaa (xb (Zax (Zaa (Zac (Zab (xr 2 [(3, .p 3 0),(4, .p 4 0),(7, .p 7 0),(8, .p 8 0),eI2 89 s15 A15 l15 c15,eI2 90 s10 A10 l10 c10] [bI2 8 135 s15 A15 l15 c15,bI2 7 135 s12 A12 l12 c12,bR4 4 142 false none 0 0 false none 0 0,bR4 3 142 s1 A1 l1 c1 t1 B1 m1 d1] ?_)))))))
   refine xc 121 [vI2 s15 A15 l15 c15,vI2 s10 A10 l10 c10] 91 Zav _ (fun w R Q=>(Zd4 _ _ (n) ((c:Int)) _ Q.1.1.1.1.1.1.1.1.1.1.1.1.1.2 Q.1.1.2 Q.1.1.1.1.1.1.1.2 (fit Sn (by decide)) (fit (wlc Sc) (by decide)) (ZcL.words (Nat.le_trans Sn (by decide)) (Nat.le_trans (wlc Sc) (by decide)))).mono (fun _ _=>Zak)) (fun xx=>?_)
   obtain ⟨s20,A20,l20,c20⟩:=xx
   refine xr 2 [(3, .p 3 0),(4, .p 4 0),(7, .p 7 0),(8, .p 8 0),(9, .p 9 0)] [bI2 9 135 s20 A20 l20 c20,bI2 8 135 s15 A15 l15 c15,bI2 7 135 s12 A12 l12 c12,bR4 4 142 false none 0 0 false none 0 0,bR4 3 142 s1 A1 l1 c1 t1 B1 m1 d1] ?_
   refine xe (Zaa (Zac ?_))
   refine ZaI 11 (by kernel_rfl) (by kernel_rfl) Zaq ?_
   refine xf 2 [(3, .p 3 0),(4, .p 4 0),(7, .p 7 0),(9, .p 9 0),eI2 92 s15 A15 l15 c15,eI2 93 s20 A20 l20 c20] [bI2 9 135 s20 A20 l20 c20,bI2 8 135 s15 A15 l15 c15,bI2 7 135 s12 A12 l12 c12,bR4 4 142 false none 0 0 false none 0 0,bR4 3 142 s1 A1 l1 c1 t1 B1 m1 d1] ?_
   refine xd 122 [vI2 s15 A15 l15 c15,vI2 s20 A20 l20 c20] 94 Zav _ (fun w R Q=>(ZcW _ _ (n) (((Int.gcd (n) ((c:Int)):Nat):Int)) _ Q.1.1.1.2 Q.2 (fit Sn (by decide)) (Nat.lt_of_le_of_lt (wlc (wlg (wlc Sc) hci)) (by decide)) (ZiZ hci)).mono (fun _ _=>Zak)) (fun xx=>?_)
   obtain ⟨s21,A21,l21,c21⟩:=xx
   refine xf 4 [(4, .p 4 0),eI2 94 s21 A21 l21 c21,eI2 95 s12 A12 l12 c12,eI2 97 t1 B1 m1 d1,eI2 98 s20 A20 l20 c20] [bI2 9 135 s20 A20 l20 c20,bI2 8 135 s15 A15 l15 c15,bI2 7 135 s12 A12 l12 c12,bR4 4 142 false none 0 0 false none 0 0,bR4 3 142 s1 A1 l1 c1 t1 B1 m1 d1] ?_
   refine xd 122 [vI2 t1 B1 m1 d1,vI2 s20 A20 l20 c20] 99 Zav _ (fun w R Q=>(ZcW _ _ ((q.den:Int)) (((Int.gcd (n) ((c:Int)):Nat):Int)) _ Q.1.1.1.1.1.1.1.1.1.1.1.1.1.2 Q.1.2 (fit S4 (by decide)) (Nat.lt_of_le_of_lt (wlc (wlg (wlc Sc) hci)) (by decide)) (ZiZ hci)).mono (fun _ _ h=>Zak (by rw [ZdB] at h; exact h))) (fun xx=>?_)
   obtain ⟨s22,A22,l22,c22⟩:=xx
   refine xf 0 [(4, .p 4 0),eI2 94 s21 A21 l21 c21,eI2 95 s12 A12 l12 c12,eI2 99 s22 A22 l22 c22] [bI2 9 135 s20 A20 l20 c20,bI2 8 135 s15 A15 l15 c15,bI2 7 135 s12 A12 l12 c12,bR4 4 142 false none 0 0 false none 0 0,bR4 3 142 s1 A1 l1 c1 t1 B1 m1 d1] ?_
   refine xd 239 [vI2 s12 A12 l12 c12,vI2 s22 A22 l22 c22] 100 Zav _ (fun w R Q=>(Za7 _ _ (((p.den / c:Nat):Int)) (((q.den / Int.gcd (n) ((c:Int)):Nat):Int)) _ Q.1.1.1.1.1.1.1.1.2 Q.2 (fit (wlc (wld hp2)) (by decide)) (fit (wlc (wld hq2)) (by decide)) (Or.inl (Nat.lt_of_le_of_lt (wlc (wld hp2)) (by decide)))).mono (fun _ _=>Zak)) (fun xx=>?_)
   obtain ⟨s23,A23,l23,c23⟩:=xx
   refine xf 0 [(4, .p 4 0),eI2 94 s21 A21 l21 c21,eI2 100 s23 A23 l23 c23] [bI2 9 135 s20 A20 l20 c20,bI2 8 135 s15 A15 l15 c15,bI2 7 135 s12 A12 l12 c12,bR4 4 142 false none 0 0 false none 0 0,bR4 3 142 s1 A1 l1 c1 t1 B1 m1 d1] ?_
   refine xd 123 [vI2 s21 A21 l21 c21,vI2 s23 A23 l23 c23] 101 Zbf _ (fun w R Q=>(ZbO _ _ ((n).tdiv (((Int.gcd (n) ((c:Int)):Nat):Int))) ((((p.den / c:Nat):Int)) * (((q.den / Int.gcd (n) ((c:Int)):Nat):Int))) (p + q) _ Q.1.1.2 Q.2 (by obtain ⟨k1,k2⟩:=HA2 (by omega); exact ⟨k1,by rw [k2,Int.natCast_mul]⟩)).mono (fun _ _=>ZaK)) (fun xx=>?_)
   obtain ⟨s24,A24,l24,c24,t24,B24,m24,d24⟩:=xx
   refine xf 1 [(4, .p 4 0)] [bR4 4 142 s24 A24 l24 c24 t24 B24 m24 d24,bI2 9 135 s20 A20 l20 c20,bI2 8 135 s15 A15 l15 c15,bI2 7 135 s12 A12 l12 c12,bR4 4 142 false none 0 0 false none 0 0,bR4 3 142 s1 A1 l1 c1 t1 B1 m1 d1] ?_
   refine xz (xe (Zaa (Zas ?_)))
   refine Zam (v:=.agg #[.bool s24, .slice A24 l24 c24, .bool t24, .slice B24 m24 d24]) (by kernel_rfl) (fun w' R Q=>?_)
   exact ⟨_,rfl,Q.2,R⟩
theorem Zoi (a b:Value) (p q:Rat) (w:World) (hg:Glob w) (ha:Zat w a p) (hb:Zat w b q) (hp:Zbj p 38) (hq:Zbj q 38):Calls Tryz.prog 133 #[a,b] w (Zcu w (p + q)):=by
 by_cases h1:p.den=1
 ·by_cases h2:q.den=1
  ·exact ZoZ a b p q w ha hb hp hq h1 h2
  ·exact Zo0 a b p q w ha hb hp hq h1 h2
 ·by_cases h2:q.den=1
  ·exact Zo1 a b p q w ha hb hp hq h1 h2
  ·exact Zo2 a b p q w hg ha hb hp hq h1 h2
theorem ZhQ (a:Value) (q:Rat) (w:World) (ha:Zat w a q) :
 Calls Tryz.prog 131 #[a] w (RetV w (.bool (decide (q.num=0)))):=by
 obtain ⟨s0,A0,l0,c0,t0,B0,m0,d0,rfl⟩:=ha.shp
 refine ZaA (Φ:=fun w=>Zat w (.agg #[.bool s0, .slice A0 l0 c0, .bool t0, .slice B0 m0 d0]) (q)) Tryz.func131 rfl (by kernel_rfl) (fun w' hf=>ha.ext hf) ?_
 refine Zac (Zab (xr 2 [(1, .p 1 0),(2, .v (.bool false))] [bR4 1 142 s0 A0 l0 c0 t0 B0 m0 d0] ?_))
 refine xe (Zaa (Zac (Zab (xr 2 [(2, .v (.bool false)),eI2 4 s0 A0 l0 c0] [] ?_))))
 refine xc 55 [vI2 s0 A0 l0 c0] 5 (fun _:Unit=>.bool (decide (q.num=0))) _ (fun w R Q=>(Zau _ (q.num) _ Q.num).mono (fun _ _ h=>Zae h rfl)) (fun xx=>?_)
 refine xr 1 [(2, .v (.bool (decide (q.num=0))))] [] ?_
 refine xe (Zaa (Zas ?_))
 refine Zam (v:=.bool (decide (q.num=0))) (by kernel_rfl) (fun w' R Q=>?_)
 exact ⟨rfl,R⟩
theorem ZaM (a:Value) (q:Rat) (w:World) (ha:Zat w a q) :
 Calls Tryz.prog 243 #[a] w (RetV w (.int .i64 q.num.sign)):=by
 obtain ⟨s0,A0,l0,c0,t0,B0,m0,d0,rfl⟩:=ha.shp
 refine ZaA (Φ:=fun w=>Zat w (.agg #[.bool s0, .slice A0 l0 c0, .bool t0, .slice B0 m0 d0]) (q)) Tryz.func243 rfl (by kernel_rfl) (fun w' hf=>ha.ext hf) ?_
 refine Zac (Zab (xr 2 [(1, .p 1 0),(2, .v (.int .i64 0))] [bR4 1 142 s0 A0 l0 c0 t0 B0 m0 d0] ?_))
 refine xe (Zaa (Zac (Zab (xr 2 [(2, .v (.int .i64 0)),eI2 4 s0 A0 l0 c0] [] ?_))))
 refine xc 119 [vI2 s0 A0 l0 c0] 5 (fun _:Unit=>.int .i64 q.num.sign) _ (fun w R Q=>(Zdx _ (q.num) _ Q.num).mono (fun _ _ h=>Zae h rfl)) (fun xx=>?_)
 refine xr 1 [(2, .v (.int .i64 q.num.sign))] [] ?_
 refine xe (Zaa (Zas ?_))
 refine Zam (v:=.int .i64 q.num.sign) (by kernel_rfl) (fun w' R Q=>?_)
 exact ⟨rfl,R⟩
theorem ZeH (a b:Value) (x y:Int) (w:World) (hg:Glob w) (ha:Zap w a x) (hb:Zap w b y) (hx:wl x.natAbs≤38) (hy:wl y.natAbs≤38) (h0:y≠0) :
 Calls Tryz.prog 240 #[a,b] w (ZlS w (x.tdiv ((Int.gcd x y:Nat):Int)) (y.tdiv ((Int.gcd x y:Nat):Int))):=by
 obtain ⟨s0,A0,l0,c0,rfl⟩:=ha.shp
 obtain ⟨s1,A1,l1,c1,rfl⟩:=hb.shp
 refine ZaA (Φ:=fun w=>((Zap w (.agg #[.bool s0, .slice A0 l0 c0]) (x)∧Zap w (.agg #[.bool s1, .slice A1 l1 c1]) (y))∧Glob w)) Tryz.func240 rfl (by kernel_rfl) (fun w' hf=>⟨⟨ha.ext hf,hb.ext hf⟩,hg.ext hf⟩) ?_
 refine Zac (Zab (xr 4 [(2, .p 2 0),(3, .p 3 0),(4, .p 4 0),(5, .p 5 0)] [bI2 5 135 false none 0 0,bI2 4 135 false none 0 0,bI2 3 135 s1 A1 l1 c1,bI2 2 135 s0 A0 l0 c0] ?_))
 refine xe (Zaa (Zac (Zac (Zab (xr 1 [(2, .p 2 0),(3, .p 3 0),(4, .p 4 0),(5, .p 5 0),eI2 7 s1 A1 l1 c1] [bI2 5 135 false none 0 0,bI2 4 135 false none 0 0,bI2 3 135 s1 A1 l1 c1,bI2 2 135 s0 A0 l0 c0] ?_)))))
 by_cases hz10:(y)=1
 ·refine xc 120 [vI2 s1 A1 l1 c1] 8 (fun _:Unit=>.bool true) _ (fun w R Q=>(Za9 _ (y) _ Q.1.2).mono (fun _ _ h=>Zae h (by rw [decide_eq_true (p:=(y)=1) hz10]))) (fun xx=>?_)
  refine xr 0 [(2, .p 2 0),(3, .p 3 0),(4, .p 4 0),(5, .p 5 0),(8, .v (.bool true))] [bI2 5 135 false none 0 0,bI2 4 135 false none 0 0,bI2 3 135 s1 A1 l1 c1,bI2 2 135 s0 A0 l0 c0] ?_
  refine xe (Zaa (xa (Zac ?_)))
  refine ZaI 4 (by kernel_rfl) (by kernel_rfl) Zaq ?_
  refine xf 4 [(2, .p 2 0),(3, .p 3 0),(4, .p 4 0),(5, .p 5 0)] [bI2 5 135 s1 A1 l1 c1,bI2 4 135 s0 A0 l0 c0,bI2 5 135 false none 0 0,bI2 4 135 false none 0 0,bI2 3 135 s1 A1 l1 c1,bI2 2 135 s0 A0 l0 c0] ?_
  refine xz (xe (Zaa (Zas (Zar ?_))))
  refine Zam (v:=.tuple #[.agg #[.bool s0, .slice A0 l0 c0], .agg #[.bool s1, .slice A1 l1 c1]]) (by kernel_rfl) (fun w' R Q=>?_)
  exact ⟨_,_,rfl,by rw [hz10,Int.gcd_one_right]; simpa using Q.1.1.1,by rw [hz10,Int.gcd_one_right]; simpa [hz10] using Q.1.1.2,R⟩
 ·refine xc 120 [vI2 s1 A1 l1 c1] 8 (fun _:Unit=>.bool false) _ (fun w R Q=>(Za9 _ (y) _ Q.1.2).mono (fun _ _ h=>Zae h (by rw [decide_eq_false (p:=(y)=1) hz10]))) (fun xx=>?_)
  refine xr 0 [(2, .p 2 0),(3, .p 3 0),(4, .p 4 0),(5, .p 5 0),(8, .v (.bool false))] [bI2 5 135 false none 0 0,bI2 4 135 false none 0 0,bI2 3 135 s1 A1 l1 c1,bI2 2 135 s0 A0 l0 c0] ?_
  refine xe (Zaa (xb (Zax (Zaa (Zac (Zab (xr 2 [(2, .p 2 0),(3, .p 3 0),(4, .p 4 0),(5, .p 5 0),eI2 11 s0 A0 l0 c0,eI2 12 s1 A1 l1 c1] [bI2 5 135 false none 0 0,bI2 4 135 false none 0 0,bI2 3 135 s1 A1 l1 c1,bI2 2 135 s0 A0 l0 c0] ?_)))))))
  refine xc 121 [vI2 s0 A0 l0 c0,vI2 s1 A1 l1 c1] 13 Zav _ (fun w R Q=>(Zd4 _ _ (x) (y) _ Q.1.2 Q.1.1.1 Q.1.1.2 (fit hx (by decide)) (fit hy (by decide)) (ZcL.words (Nat.le_trans hx (by decide)) (Nat.le_trans hy (by decide)))).mono (fun _ _=>Zak)) (fun xx=>?_)
  obtain ⟨s11,A11,l11,c11⟩:=xx
  refine xr 2 [(2, .p 2 0),(3, .p 3 0),(4, .p 4 0),(5, .p 5 0),(6, .p 6 0)] [bI2 6 135 s11 A11 l11 c11,bI2 5 135 false none 0 0,bI2 4 135 false none 0 0,bI2 3 135 s1 A1 l1 c1,bI2 2 135 s0 A0 l0 c0] ?_
  refine xe (Zaa (Zac ?_))
  refine ZaI 8 (by kernel_rfl) (by kernel_rfl) Zaq ?_
  refine xf 2 [(3, .p 3 0),(4, .p 4 0),(5, .p 5 0),(6, .p 6 0),eI2 14 s0 A0 l0 c0,eI2 15 s11 A11 l11 c11] [bI2 6 135 s11 A11 l11 c11,bI2 5 135 false none 0 0,bI2 4 135 false none 0 0,bI2 3 135 s1 A1 l1 c1,bI2 2 135 s0 A0 l0 c0] ?_
  refine xd 122 [vI2 s0 A0 l0 c0,vI2 s11 A11 l11 c11] 16 Zav _ (fun w R Q=>(ZcW _ _ (x) (((Int.gcd (x) (y):Nat):Int)) _ Q.1.1.1.1 Q.2 (fit hx (by decide)) (Nat.lt_of_le_of_lt (wlc (wlg hy h0)) (by decide)) (ZiZ h0)).mono (fun _ _=>Zak)) (fun xx=>?_)
  obtain ⟨s12,A12,l12,c12⟩:=xx
  refine xf 2 [(4, .p 4 0),(5, .p 5 0),eI2 16 s12 A12 l12 c12,eI2 17 s1 A1 l1 c1,eI2 18 s11 A11 l11 c11] [bI2 6 135 s11 A11 l11 c11,bI2 5 135 false none 0 0,bI2 4 135 false none 0 0,bI2 3 135 s1 A1 l1 c1,bI2 2 135 s0 A0 l0 c0] ?_
  refine xd 122 [vI2 s1 A1 l1 c1,vI2 s11 A11 l11 c11] 19 Zav _ (fun w R Q=>(ZcW _ _ (y) (((Int.gcd (x) (y):Nat):Int)) _ Q.1.1.1.1.2 Q.1.2 (fit hy (by decide)) (Nat.lt_of_le_of_lt (wlc (wlg hy h0)) (by decide)) (ZiZ h0)).mono (fun _ _=>Zak)) (fun xx=>?_)
  obtain ⟨s13,A13,l13,c13⟩:=xx
  refine xf 2 [(4, .p 4 0),(5, .p 5 0)] [bI2 5 135 s13 A13 l13 c13,bI2 4 135 s12 A12 l12 c12,bI2 6 135 s11 A11 l11 c11,bI2 5 135 false none 0 0,bI2 4 135 false none 0 0,bI2 3 135 s1 A1 l1 c1,bI2 2 135 s0 A0 l0 c0] ?_
  refine xz (xe (Zaa (Zas ?_)))
  refine Zam (v:=.tuple #[.agg #[.bool s12, .slice A12 l12 c12], .agg #[.bool s13, .slice A13 l13 c13]]) (by kernel_rfl) (fun w' R Q=>?_)
  exact ⟨_,_,rfl,Q.1.2,Q.2,R⟩
theorem Zk8 (a b:Value) (p q:Rat) (w:World) (hg:Glob w) (ha:Zat w a p) (hb:Zat w b q) (hp:Zbj p 38) (hq:Zbj q 38) :
 Calls Tryz.prog 134 #[a,b] w (Zcu w (p * q)):=by
 obtain ⟨s0,A0,l0,c0,t0,B0,m0,d0,rfl⟩:=ha.shp
 obtain ⟨s1,A1,l1,c1,t1,B1,m1,d1,rfl⟩:=hb.shp
 have S1:wl p.num.natAbs≤38:=hp.1
 have S2:wl q.num.natAbs≤38:=hq.1
 have hp2:wl p.den≤38:=hp.2
 have hq2:wl q.den≤38:=hq.2
 have S3:wl ((p.den:Nat):Int).natAbs≤38:=wlc hp2
 have S4:wl ((q.den:Nat):Int).natAbs≤38:=wlc hq2
 refine ZaA (Φ:=fun w=>((Zat w (.agg #[.bool s0, .slice A0 l0 c0, .bool t0, .slice B0 m0 d0]) (p)∧Zat w (.agg #[.bool s1, .slice A1 l1 c1, .bool t1, .slice B1 m1 d1]) (q))∧Glob w)) Tryz.func134 rfl (by kernel_rfl) (fun w' hf=>⟨⟨ha.ext hf,hb.ext hf⟩,hg.ext hf⟩) ?_
 refine Zac (Zab (xr 3 [(2, .p 2 0),(3, .p 3 0),(4, .p 4 0)] [bR4 4 142 false none 0 0 false none 0 0,bR4 3 142 s1 A1 l1 c1 t1 B1 m1 d1,bR4 2 142 s0 A0 l0 c0 t0 B0 m0 d0] ?_))
 refine xe (Zaa (Zac (Zac (Zab (xr 2 [(2, .p 2 0),(3, .p 3 0),(4, .p 4 0),eI2 10 s0 A0 l0 c0] [bR4 4 142 false none 0 0 false none 0 0,bR4 3 142 s1 A1 l1 c1 t1 B1 m1 d1,bR4 2 142 s0 A0 l0 c0 t0 B0 m0 d0] ?_)))))
 by_cases hz10:((p).num)=0
 ·refine xc 55 [vI2 s0 A0 l0 c0] 11 (fun _:Unit=>.bool true) _ (fun w R Q=>(Zau _ ((p).num) _ Q.1.1.num).mono (fun _ _ h=>Zae h (by rw [decide_eq_true (p:=((p).num)=0) hz10]))) (fun xx=>?_)
  refine xr 5 [(2, .p 2 0),(3, .p 3 0),(4, .p 4 0),(16, .v (.bool true))] [bR4 4 142 false none 0 0 false none 0 0,bR4 3 142 s1 A1 l1 c1 t1 B1 m1 d1,bR4 2 142 s0 A0 l0 c0 t0 B0 m0 d0] ?_
  refine xe (Zaa (xa (Zac (Zab (xr 2 [(2, .p 2 0),(3, .p 3 0),(4, .p 4 0)] [bR4 4 142 false none 0 0 false none 0 0,bR4 3 142 s1 A1 l1 c1 t1 B1 m1 d1,bR4 2 142 s0 A0 l0 c0 t0 B0 m0 d0] ?_)))))
  refine xe (Zaa (Zas (Zar ?_)))
  refine Zam (v:=.agg #[.bool false, .slice none 0 0, .bool false, .slice none 0 0]) (by kernel_rfl) (fun w' R Q=>?_)
  exact ⟨_,rfl,by rw [ZlG hz10]; exact Zat.nil _,R⟩
 ·refine xc 55 [vI2 s0 A0 l0 c0] 11 (fun _:Unit=>.bool false) _ (fun w R Q=>(Zau _ ((p).num) _ Q.1.1.num).mono (fun _ _ h=>Zae h (by rw [decide_eq_false (p:=((p).num)=0) hz10]))) (fun xx=>?_)
  refine xr 3 [(2, .p 2 0),(3, .p 3 0),(4, .p 4 0),(12, .v (.bool false)),eI2 14 s1 A1 l1 c1] [bR4 4 142 false none 0 0 false none 0 0,bR4 3 142 s1 A1 l1 c1 t1 B1 m1 d1,bR4 2 142 s0 A0 l0 c0 t0 B0 m0 d0] ?_
  by_cases hz11:((q).num)=0
  ·refine xc 55 [vI2 s1 A1 l1 c1] 15 (fun _:Unit=>.bool true) _ (fun w R Q=>(Zau _ ((q).num) _ Q.1.1.2.num).mono (fun _ _ h=>Zae h (by rw [decide_eq_true (p:=((q).num)=0) hz11]))) (fun xx=>?_)
   refine xr 1 [(2, .p 2 0),(3, .p 3 0),(4, .p 4 0),(16, .v (.bool true))] [bR4 4 142 false none 0 0 false none 0 0,bR4 3 142 s1 A1 l1 c1 t1 B1 m1 d1,bR4 2 142 s0 A0 l0 c0 t0 B0 m0 d0] ?_
   refine xe (Zaa (xa (Zac (Zab (xr 2 [(2, .p 2 0),(3, .p 3 0),(4, .p 4 0)] [bR4 4 142 false none 0 0 false none 0 0,bR4 3 142 s1 A1 l1 c1 t1 B1 m1 d1,bR4 2 142 s0 A0 l0 c0 t0 B0 m0 d0] ?_)))))
   refine xe (Zaa (Zas (Zar ?_)))
   refine Zam (v:=.agg #[.bool false, .slice none 0 0, .bool false, .slice none 0 0]) (by kernel_rfl) (fun w' R Q=>?_)
   exact ⟨_,rfl,by rw [ZlH hz11]; exact Zat.nil _,R⟩
  ·refine xc 55 [vI2 s1 A1 l1 c1] 15 (fun _:Unit=>.bool false) _ (fun w R Q=>(Zau _ ((q).num) _ Q.1.1.2.num).mono (fun _ _ h=>Zae h (by rw [decide_eq_false (p:=((q).num)=0) hz11]))) (fun xx=>?_)
   refine xr 1 [(2, .p 2 0),(3, .p 3 0),(4, .p 4 0),(16, .v (.bool false))] [bR4 4 142 false none 0 0 false none 0 0,bR4 3 142 s1 A1 l1 c1 t1 B1 m1 d1,bR4 2 142 s0 A0 l0 c0 t0 B0 m0 d0] ?_
   refine xe (Zaa (xb (Zax (Zaa (Zac (Zac (Zab (xr 2 [(2, .p 2 0),(3, .p 3 0),(4, .p 4 0),eI2 19 t0 B0 m0 d0] [bR4 4 142 false none 0 0 false none 0 0,bR4 3 142 s1 A1 l1 c1 t1 B1 m1 d1,bR4 2 142 s0 A0 l0 c0 t0 B0 m0 d0] ?_))))))))
   by_cases hz12:(denF (p))=0
   ·refine xc 55 [vI2 t0 B0 m0 d0] 20 (fun _:Unit=>.bool true) _ (fun w R Q=>(Zau _ (denF (p)) _ Q.1.1.1.1.den).mono (fun _ _ h=>Zae h (by rw [decide_eq_true (p:=(denF (p))=0) hz12]))) (fun xx=>?_)
    refine xr 3 [(2, .p 2 0),(3, .p 3 0),(4, .p 4 0),(21, .v (.bool true)),eI2 23 t1 B1 m1 d1] [bR4 4 142 false none 0 0 false none 0 0,bR4 3 142 s1 A1 l1 c1 t1 B1 m1 d1,bR4 2 142 s0 A0 l0 c0 t0 B0 m0 d0] ?_
    by_cases hz13:(denF (q))=0
    ·refine xc 55 [vI2 t1 B1 m1 d1] 24 (fun _:Unit=>.bool true) _ (fun w R Q=>(Zau _ (denF (q)) _ Q.1.1.1.1.2.den).mono (fun _ _ h=>Zae h (by rw [decide_eq_true (p:=(denF (q))=0) hz13]))) (fun xx=>?_)
     refine xr 1 [(2, .p 2 0),(3, .p 3 0),(4, .p 4 0),(25, .v (.bool true))] [bR4 4 142 false none 0 0 false none 0 0,bR4 3 142 s1 A1 l1 c1 t1 B1 m1 d1,bR4 2 142 s0 A0 l0 c0 t0 B0 m0 d0] ?_
     refine xe (Zaa (xa (Zac (Zab (xr 4 [(2, .p 2 0),(3, .p 3 0),(4, .p 4 0),eI2 27 s0 A0 l0 c0,eI2 29 s1 A1 l1 c1] [bR4 4 142 false none 0 0 false none 0 0,bR4 3 142 s1 A1 l1 c1 t1 B1 m1 d1,bR4 2 142 s0 A0 l0 c0 t0 B0 m0 d0] ?_)))))
     refine xc 239 [vI2 s0 A0 l0 c0,vI2 s1 A1 l1 c1] 30 Zav _ (fun w R Q=>(Za7 _ _ ((p).num) ((q).num) _ Q.1.1.1.1.1.1.num Q.1.1.1.1.1.2.num (fit S1 (by decide)) (fit S2 (by decide)) (Or.inl (Nat.lt_of_le_of_lt S1 (by decide)))).mono (fun _ _=>Zak)) (fun xx=>?_)
     obtain ⟨s14,A14,l14,c14⟩:=xx
     refine xr 2 [(2, .p 2 0),(3, .p 3 0),(4, .p 4 0)] [bR4 4 142 s14 A14 l14 c14 false none 0 0,bR4 3 142 s1 A1 l1 c1 t1 B1 m1 d1,bR4 2 142 s0 A0 l0 c0 t0 B0 m0 d0] ?_
     refine xe (Zaa (Zas (Zar ?_)))
     refine Zam (v:=.agg #[.bool s14, .slice A14 l14 c14, .bool false, .slice none 0 0]) (by kernel_rfl) (fun w' R Q=>?_)
     have HW:=Zkc (Zgh.1 hz12) (Zgh.1 hz13)
     exact ⟨_,rfl,Zat.of (by rw [HW.1]; exact Q.2) (by rw [Zeb HW.2]; exact (Zap.nil _)),R⟩
    ·refine xc 55 [vI2 t1 B1 m1 d1] 24 (fun _:Unit=>.bool false) _ (fun w R Q=>(Zau _ (denF (q)) _ Q.1.1.1.1.2.den).mono (fun _ _ h=>Zae h (by rw [decide_eq_false (p:=(denF (q))=0) hz13]))) (fun xx=>?_)
     refine xr 1 [(2, .p 2 0),(3, .p 3 0),(4, .p 4 0),(25, .v (.bool false))] [bR4 4 142 false none 0 0 false none 0 0,bR4 3 142 s1 A1 l1 c1 t1 B1 m1 d1,bR4 2 142 s0 A0 l0 c0 t0 B0 m0 d0] ?_
     refine xe (Zaa (xb (Zax (Zaa (Zac ?_)))))
     refine ZaI 12 (by kernel_rfl) (by kernel_rfl) Zaq ?_
     refine xf 3 [(2, .p 2 0),(3, .p 3 0),(4, .p 4 0),eI2 34 s0 A0 l0 c0,eR4 35 s1 A1 l1 c1 t1 B1 m1 d1] [bR4 4 142 false none 0 0 false none 0 0,bR4 3 142 s1 A1 l1 c1 t1 B1 m1 d1,bR4 2 142 s0 A0 l0 c0 t0 B0 m0 d0] ?_
     refine xd 241 [vR4 s1 A1 l1 c1 t1 B1 m1 d1] 36 Zav _ (fun w R Q=>(Zbt _ (q) _ Q.1.1.1.1.1.2).mono (fun _ _=>Zak)) (fun xx=>?_)
     obtain ⟨s15,A15,l15,c15⟩:=xx
     refine xf 0 [(2, .p 2 0),(3, .p 3 0),(4, .p 4 0),eI2 34 s0 A0 l0 c0,eI2 36 s15 A15 l15 c15] [bR4 4 142 false none 0 0 false none 0 0,bR4 3 142 s1 A1 l1 c1 t1 B1 m1 d1,bR4 2 142 s0 A0 l0 c0 t0 B0 m0 d0] ?_
     refine xd 240 [vI2 s0 A0 l0 c0,vI2 s15 A15 l15 c15] 37 ZgS _ (fun w R Q=>(ZeH _ _ ((p).num) (((q).den:Int)) _ Q.1.1.1.1.1.2 Q.1.1.1.1.1.1.1.num Q.2 S1 S4 (denI q)).mono (fun _ _=>Zfk)) (fun xx=>?_)
     obtain ⟨⟨s16,A16,l16,c16⟩,⟨s17,A17,l17,c17⟩⟩:=xx
     refine xf 7 [(2, .p 2 0),(3, .p 3 0),(4, .p 4 0),(5, .p 5 0),(6, .p 6 0)] [bI2 6 135 s17 A17 l17 c17,bI2 5 135 s16 A16 l16 c16,bI2 6 135 false none 0 0,bI2 5 135 false none 0 0,bR4 4 142 false none 0 0 false none 0 0,bR4 3 142 s1 A1 l1 c1 t1 B1 m1 d1,bR4 2 142 s0 A0 l0 c0 t0 B0 m0 d0] ?_
     refine xz (xe (Zaa (Zac ?_)))
     refine ZaI 12 (by kernel_rfl) (by kernel_rfl) Zaq ?_
     refine xf 3 [(4, .p 4 0),(5, .p 5 0),(6, .p 6 0),eI2 42 s1 A1 l1 c1,eR4 43 s0 A0 l0 c0 t0 B0 m0 d0] [bI2 6 135 s17 A17 l17 c17,bI2 5 135 s16 A16 l16 c16,bI2 6 135 false none 0 0,bI2 5 135 false none 0 0,bR4 4 142 false none 0 0 false none 0 0,bR4 3 142 s1 A1 l1 c1 t1 B1 m1 d1,bR4 2 142 s0 A0 l0 c0 t0 B0 m0 d0] ?_
     refine xd 241 [vR4 s0 A0 l0 c0 t0 B0 m0 d0] 44 Zav _ (fun w R Q=>(Zbt _ (p) _ Q.1.1.1.1.1.1.1.1).mono (fun _ _=>Zak)) (fun xx=>?_)
     obtain ⟨s18,A18,l18,c18⟩:=xx
     refine xf 0 [(4, .p 4 0),(5, .p 5 0),(6, .p 6 0),eI2 42 s1 A1 l1 c1,eI2 44 s18 A18 l18 c18] [bI2 6 135 s17 A17 l17 c17,bI2 5 135 s16 A16 l16 c16,bI2 6 135 false none 0 0,bI2 5 135 false none 0 0,bR4 4 142 false none 0 0 false none 0 0,bR4 3 142 s1 A1 l1 c1 t1 B1 m1 d1,bR4 2 142 s0 A0 l0 c0 t0 B0 m0 d0] ?_
     refine xd 240 [vI2 s1 A1 l1 c1,vI2 s18 A18 l18 c18] 45 ZgS _ (fun w R Q=>(ZeH _ _ ((q).num) (((p).den:Int)) _ Q.1.1.1.1.1.1.1.2 Q.1.1.1.1.1.1.1.1.2.num Q.2 S2 S3 (denI p)).mono (fun _ _=>Zfk)) (fun xx=>?_)
     obtain ⟨⟨s19,A19,l19,c19⟩,⟨s20,A20,l20,c20⟩⟩:=xx
     refine xf 7 [(4, .p 4 0),(5, .p 5 0),(6, .p 6 0),(7, .p 7 0),(8, .p 8 0)] [bI2 8 135 s20 A20 l20 c20,bI2 7 135 s19 A19 l19 c19,bI2 8 135 false none 0 0,bI2 7 135 false none 0 0,bI2 6 135 s17 A17 l17 c17,bI2 5 135 s16 A16 l16 c16,bI2 6 135 false none 0 0,bI2 5 135 false none 0 0,bR4 4 142 false none 0 0 false none 0 0,bR4 3 142 s1 A1 l1 c1 t1 B1 m1 d1,bR4 2 142 s0 A0 l0 c0 t0 B0 m0 d0] ?_
     refine xz (xe (Zaa (Zac ?_)))
     refine ZaI 8 (by kernel_rfl) (by kernel_rfl) Zaq ?_
     refine xf 2 [(4, .p 4 0),(6, .p 6 0),(8, .p 8 0),eI2 48 s16 A16 l16 c16,eI2 49 s19 A19 l19 c19] [bI2 8 135 s20 A20 l20 c20,bI2 7 135 s19 A19 l19 c19,bI2 8 135 false none 0 0,bI2 7 135 false none 0 0,bI2 6 135 s17 A17 l17 c17,bI2 5 135 s16 A16 l16 c16,bI2 6 135 false none 0 0,bI2 5 135 false none 0 0,bR4 4 142 false none 0 0 false none 0 0,bR4 3 142 s1 A1 l1 c1 t1 B1 m1 d1,bR4 2 142 s0 A0 l0 c0 t0 B0 m0 d0] ?_
     refine xd 239 [vI2 s16 A16 l16 c16,vI2 s19 A19 l19 c19] 50 Zav _ (fun w R Q=>(Za7 _ _ (((p).num).tdiv (((Int.gcd ((p).num) (((q).den:Int)):Nat):Int))) (((q).num).tdiv (((Int.gcd ((q).num) (((p).den:Int)):Nat):Int))) _ Q.1.1.2.1 Q.2.1 (fit (wlq S1) (by decide)) (fit (wlq S2) (by decide)) (Or.inl (Nat.lt_of_le_of_lt (wlq S1) (by decide)))).mono (fun _ _=>Zak)) (fun xx=>?_)
     obtain ⟨s21,A21,l21,c21⟩:=xx
     refine xf 2 [(4, .p 4 0),eI2 50 s21 A21 l21 c21,eI2 51 s20 A20 l20 c20,eI2 52 s17 A17 l17 c17] [bI2 8 135 s20 A20 l20 c20,bI2 7 135 s19 A19 l19 c19,bI2 8 135 false none 0 0,bI2 7 135 false none 0 0,bI2 6 135 s17 A17 l17 c17,bI2 5 135 s16 A16 l16 c16,bI2 6 135 false none 0 0,bI2 5 135 false none 0 0,bR4 4 142 false none 0 0 false none 0 0,bR4 3 142 s1 A1 l1 c1 t1 B1 m1 d1,bR4 2 142 s0 A0 l0 c0 t0 B0 m0 d0] ?_
     refine xd 239 [vI2 s20 A20 l20 c20,vI2 s17 A17 l17 c17] 53 Zav _ (fun w R Q=>(Za7 _ _ ((((p).den:Int)).tdiv (((Int.gcd ((q).num) (((p).den:Int)):Nat):Int))) ((((q).den:Int)).tdiv (((Int.gcd ((p).num) (((q).den:Int)):Nat):Int))) _ Q.1.2.2 Q.1.1.1.2.2 (fit (wlq S3) (by decide)) (fit (wlq S4) (by decide)) (Or.inl (Nat.lt_of_le_of_lt (wlq S3) (by decide)))).mono (fun _ _=>Zak)) (fun xx=>?_)
     obtain ⟨s22,A22,l22,c22⟩:=xx
     refine xf 0 [(4, .p 4 0),eI2 50 s21 A21 l21 c21,eI2 53 s22 A22 l22 c22] [bI2 8 135 s20 A20 l20 c20,bI2 7 135 s19 A19 l19 c19,bI2 8 135 false none 0 0,bI2 7 135 false none 0 0,bI2 6 135 s17 A17 l17 c17,bI2 5 135 s16 A16 l16 c16,bI2 6 135 false none 0 0,bI2 5 135 false none 0 0,bR4 4 142 false none 0 0 false none 0 0,bR4 3 142 s1 A1 l1 c1 t1 B1 m1 d1,bR4 2 142 s0 A0 l0 c0 t0 B0 m0 d0] ?_
     refine xd 123 [vI2 s21 A21 l21 c21,vI2 s22 A22 l22 c22] 54 Zbf _ (fun w R Q=>(ZbO _ _ ((((p).num).tdiv (((Int.gcd ((p).num) (((q).den:Int)):Nat):Int))) * (((q).num).tdiv (((Int.gcd ((q).num) (((p).den:Int)):Nat):Int)))) (((((p).den:Int)).tdiv (((Int.gcd ((q).num) (((p).den:Int)):Nat):Int))) * ((((q).den:Int)).tdiv (((Int.gcd ((p).num) (((q).den:Int)):Nat):Int)))) (p * q) _ Q.1.2 Q.2 (by obtain ⟨k1,k2⟩:=Zgg p q; exact ⟨k1,by rw [k2,Int.natCast_mul,← ZdB,← ZdB]⟩)).mono (fun _ _=>ZaK)) (fun xx=>?_)
     obtain ⟨s23,A23,l23,c23,t23,B23,m23,d23⟩:=xx
     refine xf 1 [(4, .p 4 0)] [bR4 4 142 s23 A23 l23 c23 t23 B23 m23 d23,bI2 8 135 s20 A20 l20 c20,bI2 7 135 s19 A19 l19 c19,bI2 8 135 false none 0 0,bI2 7 135 false none 0 0,bI2 6 135 s17 A17 l17 c17,bI2 5 135 s16 A16 l16 c16,bI2 6 135 false none 0 0,bI2 5 135 false none 0 0,bR4 4 142 false none 0 0 false none 0 0,bR4 3 142 s1 A1 l1 c1 t1 B1 m1 d1,bR4 2 142 s0 A0 l0 c0 t0 B0 m0 d0] ?_
     refine xz (xe (Zaa (Zas ?_)))
     refine Zam (v:=.agg #[.bool s23, .slice A23 l23 c23, .bool t23, .slice B23 m23 d23]) (by kernel_rfl) (fun w' R Q=>?_)
     exact ⟨_,rfl,Q.2,R⟩
   ·refine xc 55 [vI2 t0 B0 m0 d0] 20 (fun _:Unit=>.bool false) _ (fun w R Q=>(Zau _ (denF (p)) _ Q.1.1.1.1.den).mono (fun _ _ h=>Zae h (by rw [decide_eq_false (p:=(denF (p))=0) hz12]))) (fun xx=>?_)
    refine xr 5 [(2, .p 2 0),(3, .p 3 0),(4, .p 4 0),(25, .v (.bool false))] [bR4 4 142 false none 0 0 false none 0 0,bR4 3 142 s1 A1 l1 c1 t1 B1 m1 d1,bR4 2 142 s0 A0 l0 c0 t0 B0 m0 d0] ?_
    refine xe (Zaa (xb (Zax (Zaa (Zac ?_)))))
    refine ZaI 12 (by kernel_rfl) (by kernel_rfl) Zaq ?_
    refine xf 3 [(2, .p 2 0),(3, .p 3 0),(4, .p 4 0),eI2 34 s0 A0 l0 c0,eR4 35 s1 A1 l1 c1 t1 B1 m1 d1] [bR4 4 142 false none 0 0 false none 0 0,bR4 3 142 s1 A1 l1 c1 t1 B1 m1 d1,bR4 2 142 s0 A0 l0 c0 t0 B0 m0 d0] ?_
    refine xd 241 [vR4 s1 A1 l1 c1 t1 B1 m1 d1] 36 Zav _ (fun w R Q=>(Zbt _ (q) _ Q.1.1.1.1.2).mono (fun _ _=>Zak)) (fun xx=>?_)
    obtain ⟨s24,A24,l24,c24⟩:=xx
    refine xf 0 [(2, .p 2 0),(3, .p 3 0),(4, .p 4 0),eI2 34 s0 A0 l0 c0,eI2 36 s24 A24 l24 c24] [bR4 4 142 false none 0 0 false none 0 0,bR4 3 142 s1 A1 l1 c1 t1 B1 m1 d1,bR4 2 142 s0 A0 l0 c0 t0 B0 m0 d0] ?_
    refine xd 240 [vI2 s0 A0 l0 c0,vI2 s24 A24 l24 c24] 37 ZgS _ (fun w R Q=>(ZeH _ _ ((p).num) (((q).den:Int)) _ Q.1.1.1.1.2 Q.1.1.1.1.1.1.num Q.2 S1 S4 (denI q)).mono (fun _ _=>Zfk)) (fun xx=>?_)
    obtain ⟨⟨s25,A25,l25,c25⟩,⟨s26,A26,l26,c26⟩⟩:=xx
    refine xf 7 [(2, .p 2 0),(3, .p 3 0),(4, .p 4 0),(5, .p 5 0),(6, .p 6 0)] [bI2 6 135 s26 A26 l26 c26,bI2 5 135 s25 A25 l25 c25,bI2 6 135 false none 0 0,bI2 5 135 false none 0 0,bR4 4 142 false none 0 0 false none 0 0,bR4 3 142 s1 A1 l1 c1 t1 B1 m1 d1,bR4 2 142 s0 A0 l0 c0 t0 B0 m0 d0] ?_
    refine xz (xe (Zaa (Zac ?_)))
    refine ZaI 12 (by kernel_rfl) (by kernel_rfl) Zaq ?_
    refine xf 3 [(4, .p 4 0),(5, .p 5 0),(6, .p 6 0),eI2 42 s1 A1 l1 c1,eR4 43 s0 A0 l0 c0 t0 B0 m0 d0] [bI2 6 135 s26 A26 l26 c26,bI2 5 135 s25 A25 l25 c25,bI2 6 135 false none 0 0,bI2 5 135 false none 0 0,bR4 4 142 false none 0 0 false none 0 0,bR4 3 142 s1 A1 l1 c1 t1 B1 m1 d1,bR4 2 142 s0 A0 l0 c0 t0 B0 m0 d0] ?_
    refine xd 241 [vR4 s0 A0 l0 c0 t0 B0 m0 d0] 44 Zav _ (fun w R Q=>(Zbt _ (p) _ Q.1.1.1.1.1.1.1).mono (fun _ _=>Zak)) (fun xx=>?_)
    obtain ⟨s27,A27,l27,c27⟩:=xx
    refine xf 0 [(4, .p 4 0),(5, .p 5 0),(6, .p 6 0),eI2 42 s1 A1 l1 c1,eI2 44 s27 A27 l27 c27] [bI2 6 135 s26 A26 l26 c26,bI2 5 135 s25 A25 l25 c25,bI2 6 135 false none 0 0,bI2 5 135 false none 0 0,bR4 4 142 false none 0 0 false none 0 0,bR4 3 142 s1 A1 l1 c1 t1 B1 m1 d1,bR4 2 142 s0 A0 l0 c0 t0 B0 m0 d0] ?_
    refine xd 240 [vI2 s1 A1 l1 c1,vI2 s27 A27 l27 c27] 45 ZgS _ (fun w R Q=>(ZeH _ _ ((q).num) (((p).den:Int)) _ Q.1.1.1.1.1.1.2 Q.1.1.1.1.1.1.1.2.num Q.2 S2 S3 (denI p)).mono (fun _ _=>Zfk)) (fun xx=>?_)
    obtain ⟨⟨s28,A28,l28,c28⟩,⟨s29,A29,l29,c29⟩⟩:=xx
    refine xf 7 [(4, .p 4 0),(5, .p 5 0),(6, .p 6 0),(7, .p 7 0),(8, .p 8 0)] [bI2 8 135 s29 A29 l29 c29,bI2 7 135 s28 A28 l28 c28,bI2 8 135 false none 0 0,bI2 7 135 false none 0 0,bI2 6 135 s26 A26 l26 c26,bI2 5 135 s25 A25 l25 c25,bI2 6 135 false none 0 0,bI2 5 135 false none 0 0,bR4 4 142 false none 0 0 false none 0 0,bR4 3 142 s1 A1 l1 c1 t1 B1 m1 d1,bR4 2 142 s0 A0 l0 c0 t0 B0 m0 d0] ?_
    refine xz (xe (Zaa (Zac ?_)))
    refine ZaI 8 (by kernel_rfl) (by kernel_rfl) Zaq ?_
    refine xf 2 [(4, .p 4 0),(6, .p 6 0),(8, .p 8 0),eI2 48 s25 A25 l25 c25,eI2 49 s28 A28 l28 c28] [bI2 8 135 s29 A29 l29 c29,bI2 7 135 s28 A28 l28 c28,bI2 8 135 false none 0 0,bI2 7 135 false none 0 0,bI2 6 135 s26 A26 l26 c26,bI2 5 135 s25 A25 l25 c25,bI2 6 135 false none 0 0,bI2 5 135 false none 0 0,bR4 4 142 false none 0 0 false none 0 0,bR4 3 142 s1 A1 l1 c1 t1 B1 m1 d1,bR4 2 142 s0 A0 l0 c0 t0 B0 m0 d0] ?_
    refine xd 239 [vI2 s25 A25 l25 c25,vI2 s28 A28 l28 c28] 50 Zav _ (fun w R Q=>(Za7 _ _ (((p).num).tdiv (((Int.gcd ((p).num) (((q).den:Int)):Nat):Int))) (((q).num).tdiv (((Int.gcd ((q).num) (((p).den:Int)):Nat):Int))) _ Q.1.1.2.1 Q.2.1 (fit (wlq S1) (by decide)) (fit (wlq S2) (by decide)) (Or.inl (Nat.lt_of_le_of_lt (wlq S1) (by decide)))).mono (fun _ _=>Zak)) (fun xx=>?_)
    obtain ⟨s30,A30,l30,c30⟩:=xx
    refine xf 2 [(4, .p 4 0),eI2 50 s30 A30 l30 c30,eI2 51 s29 A29 l29 c29,eI2 52 s26 A26 l26 c26] [bI2 8 135 s29 A29 l29 c29,bI2 7 135 s28 A28 l28 c28,bI2 8 135 false none 0 0,bI2 7 135 false none 0 0,bI2 6 135 s26 A26 l26 c26,bI2 5 135 s25 A25 l25 c25,bI2 6 135 false none 0 0,bI2 5 135 false none 0 0,bR4 4 142 false none 0 0 false none 0 0,bR4 3 142 s1 A1 l1 c1 t1 B1 m1 d1,bR4 2 142 s0 A0 l0 c0 t0 B0 m0 d0] ?_
    refine xd 239 [vI2 s29 A29 l29 c29,vI2 s26 A26 l26 c26] 53 Zav _ (fun w R Q=>(Za7 _ _ ((((p).den:Int)).tdiv (((Int.gcd ((q).num) (((p).den:Int)):Nat):Int))) ((((q).den:Int)).tdiv (((Int.gcd ((p).num) (((q).den:Int)):Nat):Int))) _ Q.1.2.2 Q.1.1.1.2.2 (fit (wlq S3) (by decide)) (fit (wlq S4) (by decide)) (Or.inl (Nat.lt_of_le_of_lt (wlq S3) (by decide)))).mono (fun _ _=>Zak)) (fun xx=>?_)
    obtain ⟨s31,A31,l31,c31⟩:=xx
    refine xf 0 [(4, .p 4 0),eI2 50 s30 A30 l30 c30,eI2 53 s31 A31 l31 c31] [bI2 8 135 s29 A29 l29 c29,bI2 7 135 s28 A28 l28 c28,bI2 8 135 false none 0 0,bI2 7 135 false none 0 0,bI2 6 135 s26 A26 l26 c26,bI2 5 135 s25 A25 l25 c25,bI2 6 135 false none 0 0,bI2 5 135 false none 0 0,bR4 4 142 false none 0 0 false none 0 0,bR4 3 142 s1 A1 l1 c1 t1 B1 m1 d1,bR4 2 142 s0 A0 l0 c0 t0 B0 m0 d0] ?_
    refine xd 123 [vI2 s30 A30 l30 c30,vI2 s31 A31 l31 c31] 54 Zbf _ (fun w R Q=>(ZbO _ _ ((((p).num).tdiv (((Int.gcd ((p).num) (((q).den:Int)):Nat):Int))) * (((q).num).tdiv (((Int.gcd ((q).num) (((p).den:Int)):Nat):Int)))) (((((p).den:Int)).tdiv (((Int.gcd ((q).num) (((p).den:Int)):Nat):Int))) * ((((q).den:Int)).tdiv (((Int.gcd ((p).num) (((q).den:Int)):Nat):Int)))) (p * q) _ Q.1.2 Q.2 (by obtain ⟨k1,k2⟩:=Zgg p q; exact ⟨k1,by rw [k2,Int.natCast_mul,← ZdB,← ZdB]⟩)).mono (fun _ _=>ZaK)) (fun xx=>?_)
    obtain ⟨s32,A32,l32,c32,t32,B32,m32,d32⟩:=xx
    refine xf 1 [(4, .p 4 0)] [bR4 4 142 s32 A32 l32 c32 t32 B32 m32 d32,bI2 8 135 s29 A29 l29 c29,bI2 7 135 s28 A28 l28 c28,bI2 8 135 false none 0 0,bI2 7 135 false none 0 0,bI2 6 135 s26 A26 l26 c26,bI2 5 135 s25 A25 l25 c25,bI2 6 135 false none 0 0,bI2 5 135 false none 0 0,bR4 4 142 false none 0 0 false none 0 0,bR4 3 142 s1 A1 l1 c1 t1 B1 m1 d1,bR4 2 142 s0 A0 l0 c0 t0 B0 m0 d0] ?_
    refine xz (xe (Zaa (Zas ?_)))
    refine Zam (v:=.agg #[.bool s32, .slice A32 l32 c32, .bool t32, .slice B32 m32 d32]) (by kernel_rfl) (fun w' R Q=>?_)
    exact ⟨_,rfl,Q.2,R⟩
theorem Zk9 (a:Value) (q:Rat) (w:World) (ha:Zat w a q) :
 Calls Tryz.prog 237 #[a] w (Zcu w (q⁻¹)):=by
 obtain ⟨s0,A0,l0,c0,t0,B0,m0,d0,rfl⟩:=ha.shp
 refine ZaA (Φ:=fun w=>Zat w (.agg #[.bool s0, .slice A0 l0 c0, .bool t0, .slice B0 m0 d0]) (q)) Tryz.func237 rfl (by kernel_rfl) (fun w' hf=>ha.ext hf) ?_
 refine Zac (Zab (xr 2 [(1, .p 1 0),(2, .p 2 0)] [bR4 2 142 false none 0 0 false none 0 0,bR4 1 142 s0 A0 l0 c0 t0 B0 m0 d0] ?_))
 refine xe (Zaa (Zac (Zac (Zab (xr 2 [(1, .p 1 0),(2, .p 2 0),eI2 4 s0 A0 l0 c0] [bR4 2 142 false none 0 0 false none 0 0,bR4 1 142 s0 A0 l0 c0 t0 B0 m0 d0] ?_)))))
 rcases ZeG ((q).num) with ⟨hz10,hs10⟩ | ⟨hz10,hs10⟩ | ⟨hz10,hs10⟩
 ·refine xc 119 [vI2 s0 A0 l0 c0] 5 (fun _:Unit=>.int .i64 (-1)) _ (fun w R Q=>(Zdx _ _ _ Q.num).mono (fun _ _ h=>Zae h (by rw [hs10]))) (fun xx=>?_)
  refine xr 0 [(1, .p 1 0),(2, .p 2 0),(5, .v (.int .i64 (-1)))] [bR4 2 142 false none 0 0 false none 0 0,bR4 1 142 s0 A0 l0 c0 t0 B0 m0 d0] ?_
  refine xe (Zaa (Za4 (Zac (Zab (xr 2 [(1, .p 1 0),(2, .p 2 0),(5, .v (.int .i64 (-1))),(6, .v (.bool false))] [bR4 2 142 false none 0 0 false none 0 0,bR4 1 142 s0 A0 l0 c0 t0 B0 m0 d0] ?_)))))
  refine xe (Zaa (xb (Zac (Zab (xr 2 [(1, .p 1 0),(2, .p 2 0),(9, .v (.bool true))] [bR4 2 142 false none 0 0 false none 0 0,bR4 1 142 s0 A0 l0 c0 t0 B0 m0 d0] ?_)))))
  refine xe (Zaa (xa (Zac ?_)))
  refine ZaI 8 (by kernel_rfl) (by kernel_rfl) Zaq ?_
  refine xf 1 [(1, .p 1 0),(2, .p 2 0),eR4 11 s0 A0 l0 c0 t0 B0 m0 d0] [bR4 2 142 false none 0 0 false none 0 0,bR4 1 142 s0 A0 l0 c0 t0 B0 m0 d0] ?_
  refine xd 241 [vR4 s0 A0 l0 c0 t0 B0 m0 d0] 12 Zav _ (fun w R Q=>(Zbt _ (q) _ Q.1).mono (fun _ _=>Zak)) (fun xx=>?_)
  obtain ⟨s11,A11,l11,c11⟩:=xx
  refine xf 0 [(1, .p 1 0),(2, .p 2 0),eI2 12 s11 A11 l11 c11] [bR4 2 142 false none 0 0 false none 0 0,bR4 1 142 s0 A0 l0 c0 t0 B0 m0 d0] ?_
  refine xd 56 [vI2 s11 A11 l11 c11] 13 Zav _ (fun w R Q=>(Zd2 _ (((q).den:Int)) _ Q.2).mono (fun _ _=>Zak)) (fun xx=>?_)
  obtain ⟨s12,A12,l12,c12⟩:=xx
  refine xf 2 [(1, .p 1 0),(2, .p 2 0),eI2 13 s12 A12 l12 c12,eI2 15 s0 A0 l0 c0] [bR4 2 142 false none 0 0 false none 0 0,bR4 1 142 s0 A0 l0 c0 t0 B0 m0 d0] ?_
  refine xd 56 [vI2 s0 A0 l0 c0] 16 Zav _ (fun w R Q=>(Zd2 _ ((q).num) _ Q.1.1.1.num).mono (fun _ _=>Zak)) (fun xx=>?_)
  obtain ⟨s13,A13,l13,c13⟩:=xx
  refine xf 0 [(1, .p 1 0),(2, .p 2 0),eI2 13 s12 A12 l12 c12,eI2 16 s13 A13 l13 c13] [bR4 2 142 false none 0 0 false none 0 0,bR4 1 142 s0 A0 l0 c0 t0 B0 m0 d0] ?_
  refine xd 123 [vI2 s12 A12 l12 c12,vI2 s13 A13 l13 c13] 17 Zbf _ (fun w R Q=>(ZbO _ _ (-(((q).den:Int))) (-((q).num)) (q⁻¹) _ Q.1.2 Q.2 (Zk6 hz10)).mono (fun _ _=>ZaK)) (fun xx=>?_)
  obtain ⟨s14,A14,l14,c14,t14,B14,m14,d14⟩:=xx
  refine xf 1 [(1, .p 1 0),(2, .p 2 0)] [bR4 2 142 s14 A14 l14 c14 t14 B14 m14 d14,bR4 2 142 false none 0 0 false none 0 0,bR4 1 142 s0 A0 l0 c0 t0 B0 m0 d0] ?_
  refine xz (xe (Zaa (Zas (Zc7 (Zar ?_)))))
  refine Zam (v:=.agg #[.bool s14, .slice A14 l14 c14, .bool t14, .slice B14 m14 d14]) (by kernel_rfl) (fun w' R Q=>?_)
  exact ⟨_,rfl,Q.2,R⟩
 ·refine xc 119 [vI2 s0 A0 l0 c0] 5 (fun _:Unit=>.int .i64 0) _ (fun w R Q=>(Zdx _ _ _ Q.num).mono (fun _ _ h=>Zae h (by rw [hs10]))) (fun xx=>?_)
  refine xr 0 [(1, .p 1 0),(2, .p 2 0),(5, .v (.int .i64 0))] [bR4 2 142 false none 0 0 false none 0 0,bR4 1 142 s0 A0 l0 c0 t0 B0 m0 d0] ?_
  refine xe (Zaa (Za4 (Zac (Zab (xr 2 [(1, .p 1 0),(2, .p 2 0),(5, .v (.int .i64 0)),(6, .v (.bool true))] [bR4 2 142 false none 0 0 false none 0 0,bR4 1 142 s0 A0 l0 c0 t0 B0 m0 d0] ?_)))))
  refine xe (Zaa (xa (Zac (Zab (xr 2 [(1, .p 1 0),(2, .p 2 0)] [bR4 2 142 false none 0 0 false none 0 0,bR4 1 142 s0 A0 l0 c0 t0 B0 m0 d0] ?_)))))
  refine xe (Zaa (Zas (Zc7 (Zar ?_))))
  refine Zam (v:=.agg #[.bool false, .slice none 0 0, .bool false, .slice none 0 0]) (by kernel_rfl) (fun w' R Q=>?_)
  exact ⟨_,rfl,by rw [ZjW hz10]; exact Zat.nil _,R⟩
 ·refine xc 119 [vI2 s0 A0 l0 c0] 5 (fun _:Unit=>.int .i64 1) _ (fun w R Q=>(Zdx _ _ _ Q.num).mono (fun _ _ h=>Zae h (by rw [hs10]))) (fun xx=>?_)
  refine xr 0 [(1, .p 1 0),(2, .p 2 0),(5, .v (.int .i64 1))] [bR4 2 142 false none 0 0 false none 0 0,bR4 1 142 s0 A0 l0 c0 t0 B0 m0 d0] ?_
  refine xe (Zaa (Za4 (Zac (Zab (xr 2 [(1, .p 1 0),(2, .p 2 0),(5, .v (.int .i64 1)),(6, .v (.bool false))] [bR4 2 142 false none 0 0 false none 0 0,bR4 1 142 s0 A0 l0 c0 t0 B0 m0 d0] ?_)))))
  refine xe (Zaa (xb (Zac (Zab (xr 2 [(1, .p 1 0),(2, .p 2 0),(9, .v (.bool false))] [bR4 2 142 false none 0 0 false none 0 0,bR4 1 142 s0 A0 l0 c0 t0 B0 m0 d0] ?_)))))
  refine xe (Zaa (xb (Zax (Zdq (Zaa (Zac ?_))))))
  refine ZaI 6 (by kernel_rfl) (by kernel_rfl) Zaq ?_
  refine xf 1 [(1, .p 1 0),(2, .p 2 0),eR4 18 s0 A0 l0 c0 t0 B0 m0 d0] [bR4 2 142 false none 0 0 false none 0 0,bR4 1 142 s0 A0 l0 c0 t0 B0 m0 d0] ?_
  refine xd 241 [vR4 s0 A0 l0 c0 t0 B0 m0 d0] 19 Zav _ (fun w R Q=>(Zbt _ (q) _ Q.1).mono (fun _ _=>Zak)) (fun xx=>?_)
  obtain ⟨s15,A15,l15,c15⟩:=xx
  refine xf 2 [(2, .p 2 0),eI2 19 s15 A15 l15 c15,eI2 21 s0 A0 l0 c0] [bR4 2 142 false none 0 0 false none 0 0,bR4 1 142 s0 A0 l0 c0 t0 B0 m0 d0] ?_
  refine xd 123 [vI2 s15 A15 l15 c15,vI2 s0 A0 l0 c0] 22 Zbf _ (fun w R Q=>(ZbO _ _ (((q).den:Int)) ((q).num) (q⁻¹) _ Q.2 Q.1.1.num (Zk5 hz10)).mono (fun _ _=>ZaK)) (fun xx=>?_)
  obtain ⟨s16,A16,l16,c16,t16,B16,m16,d16⟩:=xx
  refine xf 1 [(2, .p 2 0)] [bR4 2 142 s16 A16 l16 c16 t16 B16 m16 d16,bR4 2 142 false none 0 0 false none 0 0,bR4 1 142 s0 A0 l0 c0 t0 B0 m0 d0] ?_
  refine xz (xe (Zaa (Zas ?_)))
  refine Zam (v:=.agg #[.bool s16, .slice A16 l16 c16, .bool t16, .slice B16 m16 d16]) (by kernel_rfl) (fun w' R Q=>?_)
  exact ⟨_,rfl,Q.2,R⟩
theorem Zla (a b:Value) (p q:Rat) (w:World) (hg:Glob w) (ha:Zat w a p) (hb:Zat w b q) (hp:Zbj p 38) (hq:Zbj q 38) :
 Calls Tryz.prog 132 #[a,b] w (Zcu w (p / q)):=by
 obtain ⟨s0,A0,l0,c0,t0,B0,m0,d0,rfl⟩:=ha.shp
 obtain ⟨s1,A1,l1,c1,t1,B1,m1,d1,rfl⟩:=hb.shp
 refine ZaA (Φ:=fun w=>((Zat w (.agg #[.bool s0, .slice A0 l0 c0, .bool t0, .slice B0 m0 d0]) (p)∧Zat w (.agg #[.bool s1, .slice A1 l1 c1, .bool t1, .slice B1 m1 d1]) (q))∧Glob w)) Tryz.func132 rfl (by kernel_rfl) (fun w' hf=>⟨⟨ha.ext hf,hb.ext hf⟩,hg.ext hf⟩) ?_
 refine Zac (Zab (xr 3 [(2, .p 2 0),(3, .p 3 0),(4, .p 4 0)] [bR4 4 142 false none 0 0 false none 0 0,bR4 3 142 s1 A1 l1 c1 t1 B1 m1 d1,bR4 2 142 s0 A0 l0 c0 t0 B0 m0 d0] ?_))
 refine xe (Zaa (Zac ?_))
 refine ZaI 5 (by kernel_rfl) (by kernel_rfl) Zaq ?_
 refine xf 2 [(4, .p 4 0),eR4 5 s0 A0 l0 c0 t0 B0 m0 d0,eR4 6 s1 A1 l1 c1 t1 B1 m1 d1] [bR4 4 142 false none 0 0 false none 0 0,bR4 3 142 s1 A1 l1 c1 t1 B1 m1 d1,bR4 2 142 s0 A0 l0 c0 t0 B0 m0 d0] ?_
 refine xd 237 [vR4 s1 A1 l1 c1 t1 B1 m1 d1] 7 Zbf _ (fun w R Q=>(Zk9 _ (q) _ Q.1.2).mono (fun _ _=>ZaK)) (fun xx=>?_)
 obtain ⟨s10,A10,l10,c10,t10,B10,m10,d10⟩:=xx
 refine xf 0 [(4, .p 4 0),eR4 5 s0 A0 l0 c0 t0 B0 m0 d0,eR4 7 s10 A10 l10 c10 t10 B10 m10 d10] [bR4 4 142 false none 0 0 false none 0 0,bR4 3 142 s1 A1 l1 c1 t1 B1 m1 d1,bR4 2 142 s0 A0 l0 c0 t0 B0 m0 d0] ?_
 refine xd 134 [vR4 s0 A0 l0 c0 t0 B0 m0 d0,vR4 s10 A10 l10 c10 t10 B10 m10 d10] 8 Zbf _ (fun w R Q=>(Zk8 _ _ (p) ((q)⁻¹) _ Q.1.2 Q.1.1.1 Q.2 hp hq.inv).mono (fun _ _ h=>ZaK (by rw [← Rat.div_def] at h; exact h))) (fun xx=>?_)
 obtain ⟨s11,A11,l11,c11,t11,B11,m11,d11⟩:=xx
 refine xf 1 [(4, .p 4 0)] [bR4 4 142 s11 A11 l11 c11 t11 B11 m11 d11,bR4 4 142 false none 0 0 false none 0 0,bR4 3 142 s1 A1 l1 c1 t1 B1 m1 d1,bR4 2 142 s0 A0 l0 c0 t0 B0 m0 d0] ?_
 refine xz (xe (Zaa (Zas ?_)))
 refine Zam (v:=.agg #[.bool s11, .slice A11 l11 c11, .bool t11, .slice B11 m11 d11]) (by kernel_rfl) (fun w' R Q=>?_)
 exact ⟨_,rfl,Q.2,R⟩
theorem Zlb (a b:Value) (p q:Rat) (w:World) (ha:Zat w a p) (hb:Zat w b q) (hp:Zbj p 38) (hq:Zbj q 38) :
 Calls Tryz.prog 136 #[a,b] w (RetV w (.int .i64 (p - q).num.sign)):=by
 obtain ⟨s0,A0,l0,c0,t0,B0,m0,d0,rfl⟩:=ha.shp
 obtain ⟨s1,A1,l1,c1,t1,B1,m1,d1,rfl⟩:=hb.shp
 have S1:wl p.num.natAbs≤38:=hp.1
 have S2:wl q.num.natAbs≤38:=hq.1
 have hp2:wl p.den≤38:=hp.2
 have hq2:wl q.den≤38:=hq.2
 have S3:wl ((p.den:Nat):Int).natAbs≤38:=wlc hp2
 have S4:wl ((q.den:Nat):Int).natAbs≤38:=wlc hq2
 refine ZaA (Φ:=fun w=>(Zat w (.agg #[.bool s0, .slice A0 l0 c0, .bool t0, .slice B0 m0 d0]) (p)∧Zat w (.agg #[.bool s1, .slice A1 l1 c1, .bool t1, .slice B1 m1 d1]) (q))) Tryz.func136 rfl (by kernel_rfl) (fun w' hf=>⟨ha.ext hf,hb.ext hf⟩) ?_
 refine Zac (Zab (xr 3 [(2, .p 2 0),(3, .p 3 0),(4, .v (.int .i64 0))] [bR4 3 142 s1 A1 l1 c1 t1 B1 m1 d1,bR4 2 142 s0 A0 l0 c0 t0 B0 m0 d0] ?_))
 refine xe (Zaa (Zac (Zac ?_)))
 refine ZaI 15 (by kernel_rfl) (by kernel_rfl) Zaq ?_
 refine xf 2 [(2, .p 2 0),(3, .p 3 0),(4, .v (.int .i64 0)),eI2 6 t0 B0 m0 d0] [bR4 3 142 s1 A1 l1 c1 t1 B1 m1 d1,bR4 2 142 s0 A0 l0 c0 t0 B0 m0 d0] ?_
 by_cases hz10:(denF (p))=0
 ·refine xd 55 [vI2 t0 B0 m0 d0] 7 (fun _:Unit=>.bool true) _ (fun w R Q=>(Zau _ (denF (p)) _ Q.1.den).mono (fun _ _ h=>Zae h (by rw [decide_eq_true (p:=(denF (p))=0) hz10]))) (fun xx=>?_)
  refine xf 3 [(2, .p 2 0),(3, .p 3 0),(4, .v (.int .i64 0)),(8, .v (.bool true)),eI2 10 t1 B1 m1 d1] [bR4 3 142 s1 A1 l1 c1 t1 B1 m1 d1,bR4 2 142 s0 A0 l0 c0 t0 B0 m0 d0] ?_
  by_cases hz11:(denF (q))=0
  ·refine xd 55 [vI2 t1 B1 m1 d1] 11 (fun _:Unit=>.bool true) _ (fun w R Q=>(Zau _ (denF (q)) _ Q.1.2.den).mono (fun _ _ h=>Zae h (by rw [decide_eq_true (p:=(denF (q))=0) hz11]))) (fun xx=>?_)
   refine xf 8 [(2, .p 2 0),(3, .p 3 0),(4, .v (.int .i64 0)),(19, .v (.bool true))] [bR4 3 142 s1 A1 l1 c1 t1 B1 m1 d1,bR4 2 142 s0 A0 l0 c0 t0 B0 m0 d0] ?_
   refine xz (xe (Zaa (xa (Zac (Zab (xr 4 [(2, .p 2 0),(3, .p 3 0),(4, .v (.int .i64 0)),eI2 21 s0 A0 l0 c0,eI2 23 s1 A1 l1 c1] [bR4 3 142 s1 A1 l1 c1 t1 B1 m1 d1,bR4 2 142 s0 A0 l0 c0 t0 B0 m0 d0] ?_))))))
   refine xc 244 [vI2 s0 A0 l0 c0,vI2 s1 A1 l1 c1] 24 (fun _:Unit=>.int .i64 (p - q).num.sign) _ (fun w R Q=>(ZaP _ _ ((p).num) ((q).num) _ Q.1.1.1.num Q.1.1.2.num (fit S1 (by decide)) (fit S2 (by decide))).mono (fun _ _ h=>Zae h (by rw [Znx (Zgh.1 hz10) (Zgh.1 hz11)]))) (fun xx=>?_)
   refine xr 1 [(2, .p 2 0),(3, .p 3 0),(4, .v (.int .i64 (p - q).num.sign))] [bR4 3 142 s1 A1 l1 c1 t1 B1 m1 d1,bR4 2 142 s0 A0 l0 c0 t0 B0 m0 d0] ?_
   refine xe (Zaa (Zas (Zar ?_)))
   refine Zam (v:=.int .i64 (p - q).num.sign) (by kernel_rfl) (fun w' R Q=>?_)
   exact ⟨rfl,R⟩
  ·refine xd 55 [vI2 t1 B1 m1 d1] 11 (fun _:Unit=>.bool false) _ (fun w R Q=>(Zau _ (denF (q)) _ Q.1.2.den).mono (fun _ _ h=>Zae h (by rw [decide_eq_false (p:=(denF (q))=0) hz11]))) (fun xx=>?_)
   refine xf 3 [(2, .p 2 0),(3, .p 3 0),(4, .v (.int .i64 0)),(13, .v (.bool false)),eR4 14 s0 A0 l0 c0 t0 B0 m0 d0] [bR4 3 142 s1 A1 l1 c1 t1 B1 m1 d1,bR4 2 142 s0 A0 l0 c0 t0 B0 m0 d0] ?_
   rcases ZeG (p.num) with ⟨hz12,hs12⟩ | ⟨hz12,hs12⟩ | ⟨hz12,hs12⟩
   ·refine xd 243 [vR4 s0 A0 l0 c0 t0 B0 m0 d0] 15 (fun _:Unit=>.int .i64 (-1)) _ (fun w R Q=>(ZaM _ _ _ Q.1.1.1).mono (fun _ _ h=>Zae h (by rw [hs12]))) (fun xx=>?_)
    refine xf 1 [(2, .p 2 0),(3, .p 3 0),(4, .v (.int .i64 0)),(13, .v (.bool false)),(15, .v (.int .i64 (-1))),eR4 16 s1 A1 l1 c1 t1 B1 m1 d1] [bR4 3 142 s1 A1 l1 c1 t1 B1 m1 d1,bR4 2 142 s0 A0 l0 c0 t0 B0 m0 d0] ?_
    rcases ZeG (q.num) with ⟨hz13,hs13⟩ | ⟨hz13,hs13⟩ | ⟨hz13,hs13⟩
    ·refine xd 243 [vR4 s1 A1 l1 c1 t1 B1 m1 d1] 17 (fun _:Unit=>.int .i64 (-1)) _ (fun w R Q=>(ZaM _ _ _ Q.1.1.1.2).mono (fun _ _ h=>Zae h (by rw [hs13]))) (fun xx=>?_)
     refine xf 2 [(2, .p 2 0),(3, .p 3 0),(4, .v (.int .i64 0)),(19, .v (.bool false))] [bR4 3 142 s1 A1 l1 c1 t1 B1 m1 d1,bR4 2 142 s0 A0 l0 c0 t0 B0 m0 d0] ?_
     refine xz (xe (Zaa (xb (Zax (Zaa (Zac ?_))))))
     refine ZaI 12 (by kernel_rfl) (by kernel_rfl) Zaq ?_
     refine xf 3 [(2, .p 2 0),(3, .p 3 0),(4, .v (.int .i64 0)),eI2 26 s0 A0 l0 c0,eR4 27 s1 A1 l1 c1 t1 B1 m1 d1] [bR4 3 142 s1 A1 l1 c1 t1 B1 m1 d1,bR4 2 142 s0 A0 l0 c0 t0 B0 m0 d0] ?_
     refine xd 241 [vR4 s1 A1 l1 c1 t1 B1 m1 d1] 28 Zav _ (fun w R Q=>(Zbt _ (q) _ Q.1.1.1.1.2).mono (fun _ _=>Zak)) (fun xx=>?_)
     obtain ⟨s14,A14,l14,c14⟩:=xx
     refine xf 0 [(2, .p 2 0),(3, .p 3 0),(4, .v (.int .i64 0)),eI2 26 s0 A0 l0 c0,eI2 28 s14 A14 l14 c14] [bR4 3 142 s1 A1 l1 c1 t1 B1 m1 d1,bR4 2 142 s0 A0 l0 c0 t0 B0 m0 d0] ?_
     refine xd 239 [vI2 s0 A0 l0 c0,vI2 s14 A14 l14 c14] 29 Zav _ (fun w R Q=>(Za7 _ _ ((p).num) (((q).den:Int)) _ Q.1.1.1.1.1.1.num Q.2 (fit S1 (by decide)) (fit S4 (by decide)) (Or.inl (Nat.lt_of_le_of_lt S1 (by decide)))).mono (fun _ _=>Zak)) (fun xx=>?_)
     obtain ⟨s15,A15,l15,c15⟩:=xx
     refine xf 3 [(4, .v (.int .i64 0)),eI2 29 s15 A15 l15 c15,eI2 31 s1 A1 l1 c1,eR4 32 s0 A0 l0 c0 t0 B0 m0 d0] [bR4 3 142 s1 A1 l1 c1 t1 B1 m1 d1,bR4 2 142 s0 A0 l0 c0 t0 B0 m0 d0] ?_
     refine xd 241 [vR4 s0 A0 l0 c0 t0 B0 m0 d0] 33 Zav _ (fun w R Q=>(Zbt _ (p) _ Q.1.1.1.1.1.1.1).mono (fun _ _=>Zak)) (fun xx=>?_)
     obtain ⟨s16,A16,l16,c16⟩:=xx
     refine xf 0 [(4, .v (.int .i64 0)),eI2 29 s15 A15 l15 c15,eI2 31 s1 A1 l1 c1,eI2 33 s16 A16 l16 c16] [bR4 3 142 s1 A1 l1 c1 t1 B1 m1 d1,bR4 2 142 s0 A0 l0 c0 t0 B0 m0 d0] ?_
     refine xd 239 [vI2 s1 A1 l1 c1,vI2 s16 A16 l16 c16] 34 Zav _ (fun w R Q=>(Za7 _ _ ((q).num) (((p).den:Int)) _ Q.1.1.1.1.1.1.1.2.num Q.2 (fit S2 (by decide)) (fit S3 (by decide)) (Or.inl (Nat.lt_of_le_of_lt S2 (by decide)))).mono (fun _ _=>Zak)) (fun xx=>?_)
     obtain ⟨s17,A17,l17,c17⟩:=xx
     refine xf 0 [(4, .v (.int .i64 0)),eI2 29 s15 A15 l15 c15,eI2 34 s17 A17 l17 c17] [bR4 3 142 s1 A1 l1 c1 t1 B1 m1 d1,bR4 2 142 s0 A0 l0 c0 t0 B0 m0 d0] ?_
     refine xd 244 [vI2 s15 A15 l15 c15,vI2 s17 A17 l17 c17] 35 (fun _:Unit=>.int .i64 (p - q).num.sign) _ (fun w R Q=>(ZaP _ _ (((p).num) * (((q).den:Int))) (((q).num) * (((p).den:Int))) _ Q.1.1.2 Q.2 (fit (wlm S1 S4) (by decide)) (fit (wlm S2 S3) (by decide))).mono (fun _ _ h=>Zae h (by rw [Zcv]))) (fun xx=>?_)
     refine xf 1 [(4, .v (.int .i64 (p - q).num.sign))] [bR4 3 142 s1 A1 l1 c1 t1 B1 m1 d1,bR4 2 142 s0 A0 l0 c0 t0 B0 m0 d0] ?_
     refine xz (xe (Zaa (Zas ?_)))
     refine Zam (v:=.int .i64 (p - q).num.sign) (by kernel_rfl) (fun w' R Q=>?_)
     exact ⟨rfl,R⟩
    ·refine xd 243 [vR4 s1 A1 l1 c1 t1 B1 m1 d1] 17 (fun _:Unit=>.int .i64 0) _ (fun w R Q=>(ZaM _ _ _ Q.1.1.1.2).mono (fun _ _ h=>Zae h (by rw [hs13]))) (fun xx=>?_)
     refine xf 2 [(2, .p 2 0),(3, .p 3 0),(4, .v (.int .i64 0)),(19, .v (.bool true))] [bR4 3 142 s1 A1 l1 c1 t1 B1 m1 d1,bR4 2 142 s0 A0 l0 c0 t0 B0 m0 d0] ?_
     refine xz (xe (Zaa (xa (Zac (Zab (xr 4 [(2, .p 2 0),(3, .p 3 0),(4, .v (.int .i64 0)),eI2 21 s0 A0 l0 c0,eI2 23 s1 A1 l1 c1] [bR4 3 142 s1 A1 l1 c1 t1 B1 m1 d1,bR4 2 142 s0 A0 l0 c0 t0 B0 m0 d0] ?_))))))
     refine xc 244 [vI2 s0 A0 l0 c0,vI2 s1 A1 l1 c1] 24 (fun _:Unit=>.int .i64 (p - q).num.sign) _ (fun w R Q=>(ZaP _ _ ((p).num) ((q).num) _ Q.1.1.1.1.1.num Q.1.1.1.1.2.num (fit S1 (by decide)) (fit S2 (by decide))).mono (fun _ _ h=>Zae h (by rw [ZbG (p:=p) (q:=q) (by rw [hs12,hs13]; decide)]))) (fun xx=>?_)
     refine xr 1 [(2, .p 2 0),(3, .p 3 0),(4, .v (.int .i64 (p - q).num.sign))] [bR4 3 142 s1 A1 l1 c1 t1 B1 m1 d1,bR4 2 142 s0 A0 l0 c0 t0 B0 m0 d0] ?_
     refine xe (Zaa (Zas (Zar ?_)))
     refine Zam (v:=.int .i64 (p - q).num.sign) (by kernel_rfl) (fun w' R Q=>?_)
     exact ⟨rfl,R⟩
    ·refine xd 243 [vR4 s1 A1 l1 c1 t1 B1 m1 d1] 17 (fun _:Unit=>.int .i64 1) _ (fun w R Q=>(ZaM _ _ _ Q.1.1.1.2).mono (fun _ _ h=>Zae h (by rw [hs13]))) (fun xx=>?_)
     refine xf 2 [(2, .p 2 0),(3, .p 3 0),(4, .v (.int .i64 0)),(19, .v (.bool true))] [bR4 3 142 s1 A1 l1 c1 t1 B1 m1 d1,bR4 2 142 s0 A0 l0 c0 t0 B0 m0 d0] ?_
     refine xz (xe (Zaa (xa (Zac (Zab (xr 4 [(2, .p 2 0),(3, .p 3 0),(4, .v (.int .i64 0)),eI2 21 s0 A0 l0 c0,eI2 23 s1 A1 l1 c1] [bR4 3 142 s1 A1 l1 c1 t1 B1 m1 d1,bR4 2 142 s0 A0 l0 c0 t0 B0 m0 d0] ?_))))))
     refine xc 244 [vI2 s0 A0 l0 c0,vI2 s1 A1 l1 c1] 24 (fun _:Unit=>.int .i64 (p - q).num.sign) _ (fun w R Q=>(ZaP _ _ ((p).num) ((q).num) _ Q.1.1.1.1.1.num Q.1.1.1.1.2.num (fit S1 (by decide)) (fit S2 (by decide))).mono (fun _ _ h=>Zae h (by rw [ZbG (p:=p) (q:=q) (by rw [hs12,hs13]; decide)]))) (fun xx=>?_)
     refine xr 1 [(2, .p 2 0),(3, .p 3 0),(4, .v (.int .i64 (p - q).num.sign))] [bR4 3 142 s1 A1 l1 c1 t1 B1 m1 d1,bR4 2 142 s0 A0 l0 c0 t0 B0 m0 d0] ?_
     refine xe (Zaa (Zas (Zar ?_)))
     refine Zam (v:=.int .i64 (p - q).num.sign) (by kernel_rfl) (fun w' R Q=>?_)
     exact ⟨rfl,R⟩
   ·refine xd 243 [vR4 s0 A0 l0 c0 t0 B0 m0 d0] 15 (fun _:Unit=>.int .i64 0) _ (fun w R Q=>(ZaM _ _ _ Q.1.1.1).mono (fun _ _ h=>Zae h (by rw [hs12]))) (fun xx=>?_)
    refine xf 1 [(2, .p 2 0),(3, .p 3 0),(4, .v (.int .i64 0)),(13, .v (.bool false)),(15, .v (.int .i64 0)),eR4 16 s1 A1 l1 c1 t1 B1 m1 d1] [bR4 3 142 s1 A1 l1 c1 t1 B1 m1 d1,bR4 2 142 s0 A0 l0 c0 t0 B0 m0 d0] ?_
    rcases ZeG (q.num) with ⟨hz18,hs18⟩ | ⟨hz18,hs18⟩ | ⟨hz18,hs18⟩
    ·refine xd 243 [vR4 s1 A1 l1 c1 t1 B1 m1 d1] 17 (fun _:Unit=>.int .i64 (-1)) _ (fun w R Q=>(ZaM _ _ _ Q.1.1.1.2).mono (fun _ _ h=>Zae h (by rw [hs18]))) (fun xx=>?_)
     refine xf 2 [(2, .p 2 0),(3, .p 3 0),(4, .v (.int .i64 0)),(19, .v (.bool true))] [bR4 3 142 s1 A1 l1 c1 t1 B1 m1 d1,bR4 2 142 s0 A0 l0 c0 t0 B0 m0 d0] ?_
     refine xz (xe (Zaa (xa (Zac (Zab (xr 4 [(2, .p 2 0),(3, .p 3 0),(4, .v (.int .i64 0)),eI2 21 s0 A0 l0 c0,eI2 23 s1 A1 l1 c1] [bR4 3 142 s1 A1 l1 c1 t1 B1 m1 d1,bR4 2 142 s0 A0 l0 c0 t0 B0 m0 d0] ?_))))))
     refine xc 244 [vI2 s0 A0 l0 c0,vI2 s1 A1 l1 c1] 24 (fun _:Unit=>.int .i64 (p - q).num.sign) _ (fun w R Q=>(ZaP _ _ ((p).num) ((q).num) _ Q.1.1.1.1.1.num Q.1.1.1.1.2.num (fit S1 (by decide)) (fit S2 (by decide))).mono (fun _ _ h=>Zae h (by rw [ZbG (p:=p) (q:=q) (by rw [hs12,hs18]; decide)]))) (fun xx=>?_)
     refine xr 1 [(2, .p 2 0),(3, .p 3 0),(4, .v (.int .i64 (p - q).num.sign))] [bR4 3 142 s1 A1 l1 c1 t1 B1 m1 d1,bR4 2 142 s0 A0 l0 c0 t0 B0 m0 d0] ?_
     refine xe (Zaa (Zas (Zar ?_)))
     refine Zam (v:=.int .i64 (p - q).num.sign) (by kernel_rfl) (fun w' R Q=>?_)
     exact ⟨rfl,R⟩
    ·refine xd 243 [vR4 s1 A1 l1 c1 t1 B1 m1 d1] 17 (fun _:Unit=>.int .i64 0) _ (fun w R Q=>(ZaM _ _ _ Q.1.1.1.2).mono (fun _ _ h=>Zae h (by rw [hs18]))) (fun xx=>?_)
     refine xf 2 [(2, .p 2 0),(3, .p 3 0),(4, .v (.int .i64 0)),(19, .v (.bool false))] [bR4 3 142 s1 A1 l1 c1 t1 B1 m1 d1,bR4 2 142 s0 A0 l0 c0 t0 B0 m0 d0] ?_
     refine xz (xe (Zaa (xb (Zax (Zaa (Zac ?_))))))
     refine ZaI 12 (by kernel_rfl) (by kernel_rfl) Zaq ?_
     refine xf 3 [(2, .p 2 0),(3, .p 3 0),(4, .v (.int .i64 0)),eI2 26 s0 A0 l0 c0,eR4 27 s1 A1 l1 c1 t1 B1 m1 d1] [bR4 3 142 s1 A1 l1 c1 t1 B1 m1 d1,bR4 2 142 s0 A0 l0 c0 t0 B0 m0 d0] ?_
     refine xd 241 [vR4 s1 A1 l1 c1 t1 B1 m1 d1] 28 Zav _ (fun w R Q=>(Zbt _ (q) _ Q.1.1.1.1.2).mono (fun _ _=>Zak)) (fun xx=>?_)
     obtain ⟨s19,A19,l19,c19⟩:=xx
     refine xf 0 [(2, .p 2 0),(3, .p 3 0),(4, .v (.int .i64 0)),eI2 26 s0 A0 l0 c0,eI2 28 s19 A19 l19 c19] [bR4 3 142 s1 A1 l1 c1 t1 B1 m1 d1,bR4 2 142 s0 A0 l0 c0 t0 B0 m0 d0] ?_
     refine xd 239 [vI2 s0 A0 l0 c0,vI2 s19 A19 l19 c19] 29 Zav _ (fun w R Q=>(Za7 _ _ ((p).num) (((q).den:Int)) _ Q.1.1.1.1.1.1.num Q.2 (fit S1 (by decide)) (fit S4 (by decide)) (Or.inl (Nat.lt_of_le_of_lt S1 (by decide)))).mono (fun _ _=>Zak)) (fun xx=>?_)
     obtain ⟨s20,A20,l20,c20⟩:=xx
     refine xf 3 [(4, .v (.int .i64 0)),eI2 29 s20 A20 l20 c20,eI2 31 s1 A1 l1 c1,eR4 32 s0 A0 l0 c0 t0 B0 m0 d0] [bR4 3 142 s1 A1 l1 c1 t1 B1 m1 d1,bR4 2 142 s0 A0 l0 c0 t0 B0 m0 d0] ?_
     refine xd 241 [vR4 s0 A0 l0 c0 t0 B0 m0 d0] 33 Zav _ (fun w R Q=>(Zbt _ (p) _ Q.1.1.1.1.1.1.1).mono (fun _ _=>Zak)) (fun xx=>?_)
     obtain ⟨s21,A21,l21,c21⟩:=xx
     refine xf 0 [(4, .v (.int .i64 0)),eI2 29 s20 A20 l20 c20,eI2 31 s1 A1 l1 c1,eI2 33 s21 A21 l21 c21] [bR4 3 142 s1 A1 l1 c1 t1 B1 m1 d1,bR4 2 142 s0 A0 l0 c0 t0 B0 m0 d0] ?_
     refine xd 239 [vI2 s1 A1 l1 c1,vI2 s21 A21 l21 c21] 34 Zav _ (fun w R Q=>(Za7 _ _ ((q).num) (((p).den:Int)) _ Q.1.1.1.1.1.1.1.2.num Q.2 (fit S2 (by decide)) (fit S3 (by decide)) (Or.inl (Nat.lt_of_le_of_lt S2 (by decide)))).mono (fun _ _=>Zak)) (fun xx=>?_)
     obtain ⟨s22,A22,l22,c22⟩:=xx
     refine xf 0 [(4, .v (.int .i64 0)),eI2 29 s20 A20 l20 c20,eI2 34 s22 A22 l22 c22] [bR4 3 142 s1 A1 l1 c1 t1 B1 m1 d1,bR4 2 142 s0 A0 l0 c0 t0 B0 m0 d0] ?_
     refine xd 244 [vI2 s20 A20 l20 c20,vI2 s22 A22 l22 c22] 35 (fun _:Unit=>.int .i64 (p - q).num.sign) _ (fun w R Q=>(ZaP _ _ (((p).num) * (((q).den:Int))) (((q).num) * (((p).den:Int))) _ Q.1.1.2 Q.2 (fit (wlm S1 S4) (by decide)) (fit (wlm S2 S3) (by decide))).mono (fun _ _ h=>Zae h (by rw [Zcv]))) (fun xx=>?_)
     refine xf 1 [(4, .v (.int .i64 (p - q).num.sign))] [bR4 3 142 s1 A1 l1 c1 t1 B1 m1 d1,bR4 2 142 s0 A0 l0 c0 t0 B0 m0 d0] ?_
     refine xz (xe (Zaa (Zas ?_)))
     refine Zam (v:=.int .i64 (p - q).num.sign) (by kernel_rfl) (fun w' R Q=>?_)
     exact ⟨rfl,R⟩
    ·refine xd 243 [vR4 s1 A1 l1 c1 t1 B1 m1 d1] 17 (fun _:Unit=>.int .i64 1) _ (fun w R Q=>(ZaM _ _ _ Q.1.1.1.2).mono (fun _ _ h=>Zae h (by rw [hs18]))) (fun xx=>?_)
     refine xf 2 [(2, .p 2 0),(3, .p 3 0),(4, .v (.int .i64 0)),(19, .v (.bool true))] [bR4 3 142 s1 A1 l1 c1 t1 B1 m1 d1,bR4 2 142 s0 A0 l0 c0 t0 B0 m0 d0] ?_
     refine xz (xe (Zaa (xa (Zac (Zab (xr 4 [(2, .p 2 0),(3, .p 3 0),(4, .v (.int .i64 0)),eI2 21 s0 A0 l0 c0,eI2 23 s1 A1 l1 c1] [bR4 3 142 s1 A1 l1 c1 t1 B1 m1 d1,bR4 2 142 s0 A0 l0 c0 t0 B0 m0 d0] ?_))))))
     refine xc 244 [vI2 s0 A0 l0 c0,vI2 s1 A1 l1 c1] 24 (fun _:Unit=>.int .i64 (p - q).num.sign) _ (fun w R Q=>(ZaP _ _ ((p).num) ((q).num) _ Q.1.1.1.1.1.num Q.1.1.1.1.2.num (fit S1 (by decide)) (fit S2 (by decide))).mono (fun _ _ h=>Zae h (by rw [ZbG (p:=p) (q:=q) (by rw [hs12,hs18]; decide)]))) (fun xx=>?_)
     refine xr 1 [(2, .p 2 0),(3, .p 3 0),(4, .v (.int .i64 (p - q).num.sign))] [bR4 3 142 s1 A1 l1 c1 t1 B1 m1 d1,bR4 2 142 s0 A0 l0 c0 t0 B0 m0 d0] ?_
     refine xe (Zaa (Zas (Zar ?_)))
     refine Zam (v:=.int .i64 (p - q).num.sign) (by kernel_rfl) (fun w' R Q=>?_)
     exact ⟨rfl,R⟩
   ·refine xd 243 [vR4 s0 A0 l0 c0 t0 B0 m0 d0] 15 (fun _:Unit=>.int .i64 1) _ (fun w R Q=>(ZaM _ _ _ Q.1.1.1).mono (fun _ _ h=>Zae h (by rw [hs12]))) (fun xx=>?_)
    refine xf 1 [(2, .p 2 0),(3, .p 3 0),(4, .v (.int .i64 0)),(13, .v (.bool false)),(15, .v (.int .i64 1)),eR4 16 s1 A1 l1 c1 t1 B1 m1 d1] [bR4 3 142 s1 A1 l1 c1 t1 B1 m1 d1,bR4 2 142 s0 A0 l0 c0 t0 B0 m0 d0] ?_
    rcases ZeG (q.num) with ⟨hz23,hs23⟩ | ⟨hz23,hs23⟩ | ⟨hz23,hs23⟩
    ·refine xd 243 [vR4 s1 A1 l1 c1 t1 B1 m1 d1] 17 (fun _:Unit=>.int .i64 (-1)) _ (fun w R Q=>(ZaM _ _ _ Q.1.1.1.2).mono (fun _ _ h=>Zae h (by rw [hs23]))) (fun xx=>?_)
     refine xf 2 [(2, .p 2 0),(3, .p 3 0),(4, .v (.int .i64 0)),(19, .v (.bool true))] [bR4 3 142 s1 A1 l1 c1 t1 B1 m1 d1,bR4 2 142 s0 A0 l0 c0 t0 B0 m0 d0] ?_
     refine xz (xe (Zaa (xa (Zac (Zab (xr 4 [(2, .p 2 0),(3, .p 3 0),(4, .v (.int .i64 0)),eI2 21 s0 A0 l0 c0,eI2 23 s1 A1 l1 c1] [bR4 3 142 s1 A1 l1 c1 t1 B1 m1 d1,bR4 2 142 s0 A0 l0 c0 t0 B0 m0 d0] ?_))))))
     refine xc 244 [vI2 s0 A0 l0 c0,vI2 s1 A1 l1 c1] 24 (fun _:Unit=>.int .i64 (p - q).num.sign) _ (fun w R Q=>(ZaP _ _ ((p).num) ((q).num) _ Q.1.1.1.1.1.num Q.1.1.1.1.2.num (fit S1 (by decide)) (fit S2 (by decide))).mono (fun _ _ h=>Zae h (by rw [ZbG (p:=p) (q:=q) (by rw [hs12,hs23]; decide)]))) (fun xx=>?_)
     refine xr 1 [(2, .p 2 0),(3, .p 3 0),(4, .v (.int .i64 (p - q).num.sign))] [bR4 3 142 s1 A1 l1 c1 t1 B1 m1 d1,bR4 2 142 s0 A0 l0 c0 t0 B0 m0 d0] ?_
     refine xe (Zaa (Zas (Zar ?_)))
     refine Zam (v:=.int .i64 (p - q).num.sign) (by kernel_rfl) (fun w' R Q=>?_)
     exact ⟨rfl,R⟩
    ·refine xd 243 [vR4 s1 A1 l1 c1 t1 B1 m1 d1] 17 (fun _:Unit=>.int .i64 0) _ (fun w R Q=>(ZaM _ _ _ Q.1.1.1.2).mono (fun _ _ h=>Zae h (by rw [hs23]))) (fun xx=>?_)
     refine xf 2 [(2, .p 2 0),(3, .p 3 0),(4, .v (.int .i64 0)),(19, .v (.bool true))] [bR4 3 142 s1 A1 l1 c1 t1 B1 m1 d1,bR4 2 142 s0 A0 l0 c0 t0 B0 m0 d0] ?_
     refine xz (xe (Zaa (xa (Zac (Zab (xr 4 [(2, .p 2 0),(3, .p 3 0),(4, .v (.int .i64 0)),eI2 21 s0 A0 l0 c0,eI2 23 s1 A1 l1 c1] [bR4 3 142 s1 A1 l1 c1 t1 B1 m1 d1,bR4 2 142 s0 A0 l0 c0 t0 B0 m0 d0] ?_))))))
     refine xc 244 [vI2 s0 A0 l0 c0,vI2 s1 A1 l1 c1] 24 (fun _:Unit=>.int .i64 (p - q).num.sign) _ (fun w R Q=>(ZaP _ _ ((p).num) ((q).num) _ Q.1.1.1.1.1.num Q.1.1.1.1.2.num (fit S1 (by decide)) (fit S2 (by decide))).mono (fun _ _ h=>Zae h (by rw [ZbG (p:=p) (q:=q) (by rw [hs12,hs23]; decide)]))) (fun xx=>?_)
     refine xr 1 [(2, .p 2 0),(3, .p 3 0),(4, .v (.int .i64 (p - q).num.sign))] [bR4 3 142 s1 A1 l1 c1 t1 B1 m1 d1,bR4 2 142 s0 A0 l0 c0 t0 B0 m0 d0] ?_
     refine xe (Zaa (Zas (Zar ?_)))
     refine Zam (v:=.int .i64 (p - q).num.sign) (by kernel_rfl) (fun w' R Q=>?_)
     exact ⟨rfl,R⟩
    ·refine xd 243 [vR4 s1 A1 l1 c1 t1 B1 m1 d1] 17 (fun _:Unit=>.int .i64 1) _ (fun w R Q=>(ZaM _ _ _ Q.1.1.1.2).mono (fun _ _ h=>Zae h (by rw [hs23]))) (fun xx=>?_)
     refine xf 2 [(2, .p 2 0),(3, .p 3 0),(4, .v (.int .i64 0)),(19, .v (.bool false))] [bR4 3 142 s1 A1 l1 c1 t1 B1 m1 d1,bR4 2 142 s0 A0 l0 c0 t0 B0 m0 d0] ?_
     refine xz (xe (Zaa (xb (Zax (Zaa (Zac ?_))))))
     refine ZaI 12 (by kernel_rfl) (by kernel_rfl) Zaq ?_
     refine xf 3 [(2, .p 2 0),(3, .p 3 0),(4, .v (.int .i64 0)),eI2 26 s0 A0 l0 c0,eR4 27 s1 A1 l1 c1 t1 B1 m1 d1] [bR4 3 142 s1 A1 l1 c1 t1 B1 m1 d1,bR4 2 142 s0 A0 l0 c0 t0 B0 m0 d0] ?_
     refine xd 241 [vR4 s1 A1 l1 c1 t1 B1 m1 d1] 28 Zav _ (fun w R Q=>(Zbt _ (q) _ Q.1.1.1.1.2).mono (fun _ _=>Zak)) (fun xx=>?_)
     obtain ⟨s24,A24,l24,c24⟩:=xx
     refine xf 0 [(2, .p 2 0),(3, .p 3 0),(4, .v (.int .i64 0)),eI2 26 s0 A0 l0 c0,eI2 28 s24 A24 l24 c24] [bR4 3 142 s1 A1 l1 c1 t1 B1 m1 d1,bR4 2 142 s0 A0 l0 c0 t0 B0 m0 d0] ?_
     refine xd 239 [vI2 s0 A0 l0 c0,vI2 s24 A24 l24 c24] 29 Zav _ (fun w R Q=>(Za7 _ _ ((p).num) (((q).den:Int)) _ Q.1.1.1.1.1.1.num Q.2 (fit S1 (by decide)) (fit S4 (by decide)) (Or.inl (Nat.lt_of_le_of_lt S1 (by decide)))).mono (fun _ _=>Zak)) (fun xx=>?_)
     obtain ⟨s25,A25,l25,c25⟩:=xx
     refine xf 3 [(4, .v (.int .i64 0)),eI2 29 s25 A25 l25 c25,eI2 31 s1 A1 l1 c1,eR4 32 s0 A0 l0 c0 t0 B0 m0 d0] [bR4 3 142 s1 A1 l1 c1 t1 B1 m1 d1,bR4 2 142 s0 A0 l0 c0 t0 B0 m0 d0] ?_
     refine xd 241 [vR4 s0 A0 l0 c0 t0 B0 m0 d0] 33 Zav _ (fun w R Q=>(Zbt _ (p) _ Q.1.1.1.1.1.1.1).mono (fun _ _=>Zak)) (fun xx=>?_)
     obtain ⟨s26,A26,l26,c26⟩:=xx
     refine xf 0 [(4, .v (.int .i64 0)),eI2 29 s25 A25 l25 c25,eI2 31 s1 A1 l1 c1,eI2 33 s26 A26 l26 c26] [bR4 3 142 s1 A1 l1 c1 t1 B1 m1 d1,bR4 2 142 s0 A0 l0 c0 t0 B0 m0 d0] ?_
     refine xd 239 [vI2 s1 A1 l1 c1,vI2 s26 A26 l26 c26] 34 Zav _ (fun w R Q=>(Za7 _ _ ((q).num) (((p).den:Int)) _ Q.1.1.1.1.1.1.1.2.num Q.2 (fit S2 (by decide)) (fit S3 (by decide)) (Or.inl (Nat.lt_of_le_of_lt S2 (by decide)))).mono (fun _ _=>Zak)) (fun xx=>?_)
     obtain ⟨s27,A27,l27,c27⟩:=xx
     refine xf 0 [(4, .v (.int .i64 0)),eI2 29 s25 A25 l25 c25,eI2 34 s27 A27 l27 c27] [bR4 3 142 s1 A1 l1 c1 t1 B1 m1 d1,bR4 2 142 s0 A0 l0 c0 t0 B0 m0 d0] ?_
     refine xd 244 [vI2 s25 A25 l25 c25,vI2 s27 A27 l27 c27] 35 (fun _:Unit=>.int .i64 (p - q).num.sign) _ (fun w R Q=>(ZaP _ _ (((p).num) * (((q).den:Int))) (((q).num) * (((p).den:Int))) _ Q.1.1.2 Q.2 (fit (wlm S1 S4) (by decide)) (fit (wlm S2 S3) (by decide))).mono (fun _ _ h=>Zae h (by rw [Zcv]))) (fun xx=>?_)
     refine xf 1 [(4, .v (.int .i64 (p - q).num.sign))] [bR4 3 142 s1 A1 l1 c1 t1 B1 m1 d1,bR4 2 142 s0 A0 l0 c0 t0 B0 m0 d0] ?_
     refine xz (xe (Zaa (Zas ?_)))
     refine Zam (v:=.int .i64 (p - q).num.sign) (by kernel_rfl) (fun w' R Q=>?_)
     exact ⟨rfl,R⟩
 ·refine xd 55 [vI2 t0 B0 m0 d0] 7 (fun _:Unit=>.bool false) _ (fun w R Q=>(Zau _ (denF (p)) _ Q.1.den).mono (fun _ _ h=>Zae h (by rw [decide_eq_false (p:=(denF (p))=0) hz10]))) (fun xx=>?_)
  refine xf 7 [(2, .p 2 0),(3, .p 3 0),(4, .v (.int .i64 0)),(13, .v (.bool false)),eR4 14 s0 A0 l0 c0 t0 B0 m0 d0] [bR4 3 142 s1 A1 l1 c1 t1 B1 m1 d1,bR4 2 142 s0 A0 l0 c0 t0 B0 m0 d0] ?_
  rcases ZeG (p.num) with ⟨hz28,hs28⟩ | ⟨hz28,hs28⟩ | ⟨hz28,hs28⟩
  ·refine xd 243 [vR4 s0 A0 l0 c0 t0 B0 m0 d0] 15 (fun _:Unit=>.int .i64 (-1)) _ (fun w R Q=>(ZaM _ _ _ Q.1.1).mono (fun _ _ h=>Zae h (by rw [hs28]))) (fun xx=>?_)
   refine xf 1 [(2, .p 2 0),(3, .p 3 0),(4, .v (.int .i64 0)),(13, .v (.bool false)),(15, .v (.int .i64 (-1))),eR4 16 s1 A1 l1 c1 t1 B1 m1 d1] [bR4 3 142 s1 A1 l1 c1 t1 B1 m1 d1,bR4 2 142 s0 A0 l0 c0 t0 B0 m0 d0] ?_
   rcases ZeG (q.num) with ⟨hz29,hs29⟩ | ⟨hz29,hs29⟩ | ⟨hz29,hs29⟩
   ·refine xd 243 [vR4 s1 A1 l1 c1 t1 B1 m1 d1] 17 (fun _:Unit=>.int .i64 (-1)) _ (fun w R Q=>(ZaM _ _ _ Q.1.1.2).mono (fun _ _ h=>Zae h (by rw [hs29]))) (fun xx=>?_)
    refine xf 2 [(2, .p 2 0),(3, .p 3 0),(4, .v (.int .i64 0)),(19, .v (.bool false))] [bR4 3 142 s1 A1 l1 c1 t1 B1 m1 d1,bR4 2 142 s0 A0 l0 c0 t0 B0 m0 d0] ?_
    refine xz (xe (Zaa (xb (Zax (Zaa (Zac ?_))))))
    refine ZaI 12 (by kernel_rfl) (by kernel_rfl) Zaq ?_
    refine xf 3 [(2, .p 2 0),(3, .p 3 0),(4, .v (.int .i64 0)),eI2 26 s0 A0 l0 c0,eR4 27 s1 A1 l1 c1 t1 B1 m1 d1] [bR4 3 142 s1 A1 l1 c1 t1 B1 m1 d1,bR4 2 142 s0 A0 l0 c0 t0 B0 m0 d0] ?_
    refine xd 241 [vR4 s1 A1 l1 c1 t1 B1 m1 d1] 28 Zav _ (fun w R Q=>(Zbt _ (q) _ Q.1.1.1.2).mono (fun _ _=>Zak)) (fun xx=>?_)
    obtain ⟨s30,A30,l30,c30⟩:=xx
    refine xf 0 [(2, .p 2 0),(3, .p 3 0),(4, .v (.int .i64 0)),eI2 26 s0 A0 l0 c0,eI2 28 s30 A30 l30 c30] [bR4 3 142 s1 A1 l1 c1 t1 B1 m1 d1,bR4 2 142 s0 A0 l0 c0 t0 B0 m0 d0] ?_
    refine xd 239 [vI2 s0 A0 l0 c0,vI2 s30 A30 l30 c30] 29 Zav _ (fun w R Q=>(Za7 _ _ ((p).num) (((q).den:Int)) _ Q.1.1.1.1.1.num Q.2 (fit S1 (by decide)) (fit S4 (by decide)) (Or.inl (Nat.lt_of_le_of_lt S1 (by decide)))).mono (fun _ _=>Zak)) (fun xx=>?_)
    obtain ⟨s31,A31,l31,c31⟩:=xx
    refine xf 3 [(4, .v (.int .i64 0)),eI2 29 s31 A31 l31 c31,eI2 31 s1 A1 l1 c1,eR4 32 s0 A0 l0 c0 t0 B0 m0 d0] [bR4 3 142 s1 A1 l1 c1 t1 B1 m1 d1,bR4 2 142 s0 A0 l0 c0 t0 B0 m0 d0] ?_
    refine xd 241 [vR4 s0 A0 l0 c0 t0 B0 m0 d0] 33 Zav _ (fun w R Q=>(Zbt _ (p) _ Q.1.1.1.1.1.1).mono (fun _ _=>Zak)) (fun xx=>?_)
    obtain ⟨s32,A32,l32,c32⟩:=xx
    refine xf 0 [(4, .v (.int .i64 0)),eI2 29 s31 A31 l31 c31,eI2 31 s1 A1 l1 c1,eI2 33 s32 A32 l32 c32] [bR4 3 142 s1 A1 l1 c1 t1 B1 m1 d1,bR4 2 142 s0 A0 l0 c0 t0 B0 m0 d0] ?_
    refine xd 239 [vI2 s1 A1 l1 c1,vI2 s32 A32 l32 c32] 34 Zav _ (fun w R Q=>(Za7 _ _ ((q).num) (((p).den:Int)) _ Q.1.1.1.1.1.1.2.num Q.2 (fit S2 (by decide)) (fit S3 (by decide)) (Or.inl (Nat.lt_of_le_of_lt S2 (by decide)))).mono (fun _ _=>Zak)) (fun xx=>?_)
    obtain ⟨s33,A33,l33,c33⟩:=xx
    refine xf 0 [(4, .v (.int .i64 0)),eI2 29 s31 A31 l31 c31,eI2 34 s33 A33 l33 c33] [bR4 3 142 s1 A1 l1 c1 t1 B1 m1 d1,bR4 2 142 s0 A0 l0 c0 t0 B0 m0 d0] ?_
    refine xd 244 [vI2 s31 A31 l31 c31,vI2 s33 A33 l33 c33] 35 (fun _:Unit=>.int .i64 (p - q).num.sign) _ (fun w R Q=>(ZaP _ _ (((p).num) * (((q).den:Int))) (((q).num) * (((p).den:Int))) _ Q.1.1.2 Q.2 (fit (wlm S1 S4) (by decide)) (fit (wlm S2 S3) (by decide))).mono (fun _ _ h=>Zae h (by rw [Zcv]))) (fun xx=>?_)
    refine xf 1 [(4, .v (.int .i64 (p - q).num.sign))] [bR4 3 142 s1 A1 l1 c1 t1 B1 m1 d1,bR4 2 142 s0 A0 l0 c0 t0 B0 m0 d0] ?_
    refine xz (xe (Zaa (Zas ?_)))
    refine Zam (v:=.int .i64 (p - q).num.sign) (by kernel_rfl) (fun w' R Q=>?_)
    exact ⟨rfl,R⟩
   ·refine xd 243 [vR4 s1 A1 l1 c1 t1 B1 m1 d1] 17 (fun _:Unit=>.int .i64 0) _ (fun w R Q=>(ZaM _ _ _ Q.1.1.2).mono (fun _ _ h=>Zae h (by rw [hs29]))) (fun xx=>?_)
    refine xf 2 [(2, .p 2 0),(3, .p 3 0),(4, .v (.int .i64 0)),(19, .v (.bool true))] [bR4 3 142 s1 A1 l1 c1 t1 B1 m1 d1,bR4 2 142 s0 A0 l0 c0 t0 B0 m0 d0] ?_
    refine xz (xe (Zaa (xa (Zac (Zab (xr 4 [(2, .p 2 0),(3, .p 3 0),(4, .v (.int .i64 0)),eI2 21 s0 A0 l0 c0,eI2 23 s1 A1 l1 c1] [bR4 3 142 s1 A1 l1 c1 t1 B1 m1 d1,bR4 2 142 s0 A0 l0 c0 t0 B0 m0 d0] ?_))))))
    refine xc 244 [vI2 s0 A0 l0 c0,vI2 s1 A1 l1 c1] 24 (fun _:Unit=>.int .i64 (p - q).num.sign) _ (fun w R Q=>(ZaP _ _ ((p).num) ((q).num) _ Q.1.1.1.1.num Q.1.1.1.2.num (fit S1 (by decide)) (fit S2 (by decide))).mono (fun _ _ h=>Zae h (by rw [ZbG (p:=p) (q:=q) (by rw [hs28,hs29]; decide)]))) (fun xx=>?_)
    refine xr 1 [(2, .p 2 0),(3, .p 3 0),(4, .v (.int .i64 (p - q).num.sign))] [bR4 3 142 s1 A1 l1 c1 t1 B1 m1 d1,bR4 2 142 s0 A0 l0 c0 t0 B0 m0 d0] ?_
    refine xe (Zaa (Zas (Zar ?_)))
    refine Zam (v:=.int .i64 (p - q).num.sign) (by kernel_rfl) (fun w' R Q=>?_)
    exact ⟨rfl,R⟩
   ·refine xd 243 [vR4 s1 A1 l1 c1 t1 B1 m1 d1] 17 (fun _:Unit=>.int .i64 1) _ (fun w R Q=>(ZaM _ _ _ Q.1.1.2).mono (fun _ _ h=>Zae h (by rw [hs29]))) (fun xx=>?_)
    refine xf 2 [(2, .p 2 0),(3, .p 3 0),(4, .v (.int .i64 0)),(19, .v (.bool true))] [bR4 3 142 s1 A1 l1 c1 t1 B1 m1 d1,bR4 2 142 s0 A0 l0 c0 t0 B0 m0 d0] ?_
    refine xz (xe (Zaa (xa (Zac (Zab (xr 4 [(2, .p 2 0),(3, .p 3 0),(4, .v (.int .i64 0)),eI2 21 s0 A0 l0 c0,eI2 23 s1 A1 l1 c1] [bR4 3 142 s1 A1 l1 c1 t1 B1 m1 d1,bR4 2 142 s0 A0 l0 c0 t0 B0 m0 d0] ?_))))))
    refine xc 244 [vI2 s0 A0 l0 c0,vI2 s1 A1 l1 c1] 24 (fun _:Unit=>.int .i64 (p - q).num.sign) _ (fun w R Q=>(ZaP _ _ ((p).num) ((q).num) _ Q.1.1.1.1.num Q.1.1.1.2.num (fit S1 (by decide)) (fit S2 (by decide))).mono (fun _ _ h=>Zae h (by rw [ZbG (p:=p) (q:=q) (by rw [hs28,hs29]; decide)]))) (fun xx=>?_)
    refine xr 1 [(2, .p 2 0),(3, .p 3 0),(4, .v (.int .i64 (p - q).num.sign))] [bR4 3 142 s1 A1 l1 c1 t1 B1 m1 d1,bR4 2 142 s0 A0 l0 c0 t0 B0 m0 d0] ?_
    refine xe (Zaa (Zas (Zar ?_)))
    refine Zam (v:=.int .i64 (p - q).num.sign) (by kernel_rfl) (fun w' R Q=>?_)
    exact ⟨rfl,R⟩
  ·refine xd 243 [vR4 s0 A0 l0 c0 t0 B0 m0 d0] 15 (fun _:Unit=>.int .i64 0) _ (fun w R Q=>(ZaM _ _ _ Q.1.1).mono (fun _ _ h=>Zae h (by rw [hs28]))) (fun xx=>?_)
   refine xf 1 [(2, .p 2 0),(3, .p 3 0),(4, .v (.int .i64 0)),(13, .v (.bool false)),(15, .v (.int .i64 0)),eR4 16 s1 A1 l1 c1 t1 B1 m1 d1] [bR4 3 142 s1 A1 l1 c1 t1 B1 m1 d1,bR4 2 142 s0 A0 l0 c0 t0 B0 m0 d0] ?_
   rcases ZeG (q.num) with ⟨hz34,hs34⟩ | ⟨hz34,hs34⟩ | ⟨hz34,hs34⟩
   ·refine xd 243 [vR4 s1 A1 l1 c1 t1 B1 m1 d1] 17 (fun _:Unit=>.int .i64 (-1)) _ (fun w R Q=>(ZaM _ _ _ Q.1.1.2).mono (fun _ _ h=>Zae h (by rw [hs34]))) (fun xx=>?_)
    refine xf 2 [(2, .p 2 0),(3, .p 3 0),(4, .v (.int .i64 0)),(19, .v (.bool true))] [bR4 3 142 s1 A1 l1 c1 t1 B1 m1 d1,bR4 2 142 s0 A0 l0 c0 t0 B0 m0 d0] ?_
    refine xz (xe (Zaa (xa (Zac (Zab (xr 4 [(2, .p 2 0),(3, .p 3 0),(4, .v (.int .i64 0)),eI2 21 s0 A0 l0 c0,eI2 23 s1 A1 l1 c1] [bR4 3 142 s1 A1 l1 c1 t1 B1 m1 d1,bR4 2 142 s0 A0 l0 c0 t0 B0 m0 d0] ?_))))))
    refine xc 244 [vI2 s0 A0 l0 c0,vI2 s1 A1 l1 c1] 24 (fun _:Unit=>.int .i64 (p - q).num.sign) _ (fun w R Q=>(ZaP _ _ ((p).num) ((q).num) _ Q.1.1.1.1.num Q.1.1.1.2.num (fit S1 (by decide)) (fit S2 (by decide))).mono (fun _ _ h=>Zae h (by rw [ZbG (p:=p) (q:=q) (by rw [hs28,hs34]; decide)]))) (fun xx=>?_)
    refine xr 1 [(2, .p 2 0),(3, .p 3 0),(4, .v (.int .i64 (p - q).num.sign))] [bR4 3 142 s1 A1 l1 c1 t1 B1 m1 d1,bR4 2 142 s0 A0 l0 c0 t0 B0 m0 d0] ?_
    refine xe (Zaa (Zas (Zar ?_)))
    refine Zam (v:=.int .i64 (p - q).num.sign) (by kernel_rfl) (fun w' R Q=>?_)
    exact ⟨rfl,R⟩
   ·refine xd 243 [vR4 s1 A1 l1 c1 t1 B1 m1 d1] 17 (fun _:Unit=>.int .i64 0) _ (fun w R Q=>(ZaM _ _ _ Q.1.1.2).mono (fun _ _ h=>Zae h (by rw [hs34]))) (fun xx=>?_)
    refine xf 2 [(2, .p 2 0),(3, .p 3 0),(4, .v (.int .i64 0)),(19, .v (.bool false))] [bR4 3 142 s1 A1 l1 c1 t1 B1 m1 d1,bR4 2 142 s0 A0 l0 c0 t0 B0 m0 d0] ?_
    refine xz (xe (Zaa (xb (Zax (Zaa (Zac ?_))))))
    refine ZaI 12 (by kernel_rfl) (by kernel_rfl) Zaq ?_
    refine xf 3 [(2, .p 2 0),(3, .p 3 0),(4, .v (.int .i64 0)),eI2 26 s0 A0 l0 c0,eR4 27 s1 A1 l1 c1 t1 B1 m1 d1] [bR4 3 142 s1 A1 l1 c1 t1 B1 m1 d1,bR4 2 142 s0 A0 l0 c0 t0 B0 m0 d0] ?_
    refine xd 241 [vR4 s1 A1 l1 c1 t1 B1 m1 d1] 28 Zav _ (fun w R Q=>(Zbt _ (q) _ Q.1.1.1.2).mono (fun _ _=>Zak)) (fun xx=>?_)
    obtain ⟨s35,A35,l35,c35⟩:=xx
    refine xf 0 [(2, .p 2 0),(3, .p 3 0),(4, .v (.int .i64 0)),eI2 26 s0 A0 l0 c0,eI2 28 s35 A35 l35 c35] [bR4 3 142 s1 A1 l1 c1 t1 B1 m1 d1,bR4 2 142 s0 A0 l0 c0 t0 B0 m0 d0] ?_
    refine xd 239 [vI2 s0 A0 l0 c0,vI2 s35 A35 l35 c35] 29 Zav _ (fun w R Q=>(Za7 _ _ ((p).num) (((q).den:Int)) _ Q.1.1.1.1.1.num Q.2 (fit S1 (by decide)) (fit S4 (by decide)) (Or.inl (Nat.lt_of_le_of_lt S1 (by decide)))).mono (fun _ _=>Zak)) (fun xx=>?_)
    obtain ⟨s36,A36,l36,c36⟩:=xx
    refine xf 3 [(4, .v (.int .i64 0)),eI2 29 s36 A36 l36 c36,eI2 31 s1 A1 l1 c1,eR4 32 s0 A0 l0 c0 t0 B0 m0 d0] [bR4 3 142 s1 A1 l1 c1 t1 B1 m1 d1,bR4 2 142 s0 A0 l0 c0 t0 B0 m0 d0] ?_
    refine xd 241 [vR4 s0 A0 l0 c0 t0 B0 m0 d0] 33 Zav _ (fun w R Q=>(Zbt _ (p) _ Q.1.1.1.1.1.1).mono (fun _ _=>Zak)) (fun xx=>?_)
    obtain ⟨s37,A37,l37,c37⟩:=xx
    refine xf 0 [(4, .v (.int .i64 0)),eI2 29 s36 A36 l36 c36,eI2 31 s1 A1 l1 c1,eI2 33 s37 A37 l37 c37] [bR4 3 142 s1 A1 l1 c1 t1 B1 m1 d1,bR4 2 142 s0 A0 l0 c0 t0 B0 m0 d0] ?_
    refine xd 239 [vI2 s1 A1 l1 c1,vI2 s37 A37 l37 c37] 34 Zav _ (fun w R Q=>(Za7 _ _ ((q).num) (((p).den:Int)) _ Q.1.1.1.1.1.1.2.num Q.2 (fit S2 (by decide)) (fit S3 (by decide)) (Or.inl (Nat.lt_of_le_of_lt S2 (by decide)))).mono (fun _ _=>Zak)) (fun xx=>?_)
    obtain ⟨s38,A38,l38,c38⟩:=xx
    refine xf 0 [(4, .v (.int .i64 0)),eI2 29 s36 A36 l36 c36,eI2 34 s38 A38 l38 c38] [bR4 3 142 s1 A1 l1 c1 t1 B1 m1 d1,bR4 2 142 s0 A0 l0 c0 t0 B0 m0 d0] ?_
    refine xd 244 [vI2 s36 A36 l36 c36,vI2 s38 A38 l38 c38] 35 (fun _:Unit=>.int .i64 (p - q).num.sign) _ (fun w R Q=>(ZaP _ _ (((p).num) * (((q).den:Int))) (((q).num) * (((p).den:Int))) _ Q.1.1.2 Q.2 (fit (wlm S1 S4) (by decide)) (fit (wlm S2 S3) (by decide))).mono (fun _ _ h=>Zae h (by rw [Zcv]))) (fun xx=>?_)
    refine xf 1 [(4, .v (.int .i64 (p - q).num.sign))] [bR4 3 142 s1 A1 l1 c1 t1 B1 m1 d1,bR4 2 142 s0 A0 l0 c0 t0 B0 m0 d0] ?_
    refine xz (xe (Zaa (Zas ?_)))
    refine Zam (v:=.int .i64 (p - q).num.sign) (by kernel_rfl) (fun w' R Q=>?_)
    exact ⟨rfl,R⟩
   ·refine xd 243 [vR4 s1 A1 l1 c1 t1 B1 m1 d1] 17 (fun _:Unit=>.int .i64 1) _ (fun w R Q=>(ZaM _ _ _ Q.1.1.2).mono (fun _ _ h=>Zae h (by rw [hs34]))) (fun xx=>?_)
    refine xf 2 [(2, .p 2 0),(3, .p 3 0),(4, .v (.int .i64 0)),(19, .v (.bool true))] [bR4 3 142 s1 A1 l1 c1 t1 B1 m1 d1,bR4 2 142 s0 A0 l0 c0 t0 B0 m0 d0] ?_
    refine xz (xe (Zaa (xa (Zac (Zab (xr 4 [(2, .p 2 0),(3, .p 3 0),(4, .v (.int .i64 0)),eI2 21 s0 A0 l0 c0,eI2 23 s1 A1 l1 c1] [bR4 3 142 s1 A1 l1 c1 t1 B1 m1 d1,bR4 2 142 s0 A0 l0 c0 t0 B0 m0 d0] ?_))))))
    refine xc 244 [vI2 s0 A0 l0 c0,vI2 s1 A1 l1 c1] 24 (fun _:Unit=>.int .i64 (p - q).num.sign) _ (fun w R Q=>(ZaP _ _ ((p).num) ((q).num) _ Q.1.1.1.1.num Q.1.1.1.2.num (fit S1 (by decide)) (fit S2 (by decide))).mono (fun _ _ h=>Zae h (by rw [ZbG (p:=p) (q:=q) (by rw [hs28,hs34]; decide)]))) (fun xx=>?_)
    refine xr 1 [(2, .p 2 0),(3, .p 3 0),(4, .v (.int .i64 (p - q).num.sign))] [bR4 3 142 s1 A1 l1 c1 t1 B1 m1 d1,bR4 2 142 s0 A0 l0 c0 t0 B0 m0 d0] ?_
    refine xe (Zaa (Zas (Zar ?_)))
    refine Zam (v:=.int .i64 (p - q).num.sign) (by kernel_rfl) (fun w' R Q=>?_)
    exact ⟨rfl,R⟩
  ·refine xd 243 [vR4 s0 A0 l0 c0 t0 B0 m0 d0] 15 (fun _:Unit=>.int .i64 1) _ (fun w R Q=>(ZaM _ _ _ Q.1.1).mono (fun _ _ h=>Zae h (by rw [hs28]))) (fun xx=>?_)
   refine xf 1 [(2, .p 2 0),(3, .p 3 0),(4, .v (.int .i64 0)),(13, .v (.bool false)),(15, .v (.int .i64 1)),eR4 16 s1 A1 l1 c1 t1 B1 m1 d1] [bR4 3 142 s1 A1 l1 c1 t1 B1 m1 d1,bR4 2 142 s0 A0 l0 c0 t0 B0 m0 d0] ?_
   rcases ZeG (q.num) with ⟨hz39,hs39⟩ | ⟨hz39,hs39⟩ | ⟨hz39,hs39⟩
   ·refine xd 243 [vR4 s1 A1 l1 c1 t1 B1 m1 d1] 17 (fun _:Unit=>.int .i64 (-1)) _ (fun w R Q=>(ZaM _ _ _ Q.1.1.2).mono (fun _ _ h=>Zae h (by rw [hs39]))) (fun xx=>?_)
    refine xf 2 [(2, .p 2 0),(3, .p 3 0),(4, .v (.int .i64 0)),(19, .v (.bool true))] [bR4 3 142 s1 A1 l1 c1 t1 B1 m1 d1,bR4 2 142 s0 A0 l0 c0 t0 B0 m0 d0] ?_
    refine xz (xe (Zaa (xa (Zac (Zab (xr 4 [(2, .p 2 0),(3, .p 3 0),(4, .v (.int .i64 0)),eI2 21 s0 A0 l0 c0,eI2 23 s1 A1 l1 c1] [bR4 3 142 s1 A1 l1 c1 t1 B1 m1 d1,bR4 2 142 s0 A0 l0 c0 t0 B0 m0 d0] ?_))))))
    refine xc 244 [vI2 s0 A0 l0 c0,vI2 s1 A1 l1 c1] 24 (fun _:Unit=>.int .i64 (p - q).num.sign) _ (fun w R Q=>(ZaP _ _ ((p).num) ((q).num) _ Q.1.1.1.1.num Q.1.1.1.2.num (fit S1 (by decide)) (fit S2 (by decide))).mono (fun _ _ h=>Zae h (by rw [ZbG (p:=p) (q:=q) (by rw [hs28,hs39]; decide)]))) (fun xx=>?_)
    refine xr 1 [(2, .p 2 0),(3, .p 3 0),(4, .v (.int .i64 (p - q).num.sign))] [bR4 3 142 s1 A1 l1 c1 t1 B1 m1 d1,bR4 2 142 s0 A0 l0 c0 t0 B0 m0 d0] ?_
    refine xe (Zaa (Zas (Zar ?_)))
    refine Zam (v:=.int .i64 (p - q).num.sign) (by kernel_rfl) (fun w' R Q=>?_)
    exact ⟨rfl,R⟩
   ·refine xd 243 [vR4 s1 A1 l1 c1 t1 B1 m1 d1] 17 (fun _:Unit=>.int .i64 0) _ (fun w R Q=>(ZaM _ _ _ Q.1.1.2).mono (fun _ _ h=>Zae h (by rw [hs39]))) (fun xx=>?_)
    refine xf 2 [(2, .p 2 0),(3, .p 3 0),(4, .v (.int .i64 0)),(19, .v (.bool true))] [bR4 3 142 s1 A1 l1 c1 t1 B1 m1 d1,bR4 2 142 s0 A0 l0 c0 t0 B0 m0 d0] ?_
    refine xz (xe (Zaa (xa (Zac (Zab (xr 4 [(2, .p 2 0),(3, .p 3 0),(4, .v (.int .i64 0)),eI2 21 s0 A0 l0 c0,eI2 23 s1 A1 l1 c1] [bR4 3 142 s1 A1 l1 c1 t1 B1 m1 d1,bR4 2 142 s0 A0 l0 c0 t0 B0 m0 d0] ?_))))))
    refine xc 244 [vI2 s0 A0 l0 c0,vI2 s1 A1 l1 c1] 24 (fun _:Unit=>.int .i64 (p - q).num.sign) _ (fun w R Q=>(ZaP _ _ ((p).num) ((q).num) _ Q.1.1.1.1.num Q.1.1.1.2.num (fit S1 (by decide)) (fit S2 (by decide))).mono (fun _ _ h=>Zae h (by rw [ZbG (p:=p) (q:=q) (by rw [hs28,hs39]; decide)]))) (fun xx=>?_)
    refine xr 1 [(2, .p 2 0),(3, .p 3 0),(4, .v (.int .i64 (p - q).num.sign))] [bR4 3 142 s1 A1 l1 c1 t1 B1 m1 d1,bR4 2 142 s0 A0 l0 c0 t0 B0 m0 d0] ?_
    refine xe (Zaa (Zas (Zar ?_)))
    refine Zam (v:=.int .i64 (p - q).num.sign) (by kernel_rfl) (fun w' R Q=>?_)
    exact ⟨rfl,R⟩
   ·refine xd 243 [vR4 s1 A1 l1 c1 t1 B1 m1 d1] 17 (fun _:Unit=>.int .i64 1) _ (fun w R Q=>(ZaM _ _ _ Q.1.1.2).mono (fun _ _ h=>Zae h (by rw [hs39]))) (fun xx=>?_)
    refine xf 2 [(2, .p 2 0),(3, .p 3 0),(4, .v (.int .i64 0)),(19, .v (.bool false))] [bR4 3 142 s1 A1 l1 c1 t1 B1 m1 d1,bR4 2 142 s0 A0 l0 c0 t0 B0 m0 d0] ?_
    refine xz (xe (Zaa (xb (Zax (Zaa (Zac ?_))))))
    refine ZaI 12 (by kernel_rfl) (by kernel_rfl) Zaq ?_
    refine xf 3 [(2, .p 2 0),(3, .p 3 0),(4, .v (.int .i64 0)),eI2 26 s0 A0 l0 c0,eR4 27 s1 A1 l1 c1 t1 B1 m1 d1] [bR4 3 142 s1 A1 l1 c1 t1 B1 m1 d1,bR4 2 142 s0 A0 l0 c0 t0 B0 m0 d0] ?_
    refine xd 241 [vR4 s1 A1 l1 c1 t1 B1 m1 d1] 28 Zav _ (fun w R Q=>(Zbt _ (q) _ Q.1.1.1.2).mono (fun _ _=>Zak)) (fun xx=>?_)
    obtain ⟨s40,A40,l40,c40⟩:=xx
    refine xf 0 [(2, .p 2 0),(3, .p 3 0),(4, .v (.int .i64 0)),eI2 26 s0 A0 l0 c0,eI2 28 s40 A40 l40 c40] [bR4 3 142 s1 A1 l1 c1 t1 B1 m1 d1,bR4 2 142 s0 A0 l0 c0 t0 B0 m0 d0] ?_
    refine xd 239 [vI2 s0 A0 l0 c0,vI2 s40 A40 l40 c40] 29 Zav _ (fun w R Q=>(Za7 _ _ ((p).num) (((q).den:Int)) _ Q.1.1.1.1.1.num Q.2 (fit S1 (by decide)) (fit S4 (by decide)) (Or.inl (Nat.lt_of_le_of_lt S1 (by decide)))).mono (fun _ _=>Zak)) (fun xx=>?_)
    obtain ⟨s41,A41,l41,c41⟩:=xx
    refine xf 3 [(4, .v (.int .i64 0)),eI2 29 s41 A41 l41 c41,eI2 31 s1 A1 l1 c1,eR4 32 s0 A0 l0 c0 t0 B0 m0 d0] [bR4 3 142 s1 A1 l1 c1 t1 B1 m1 d1,bR4 2 142 s0 A0 l0 c0 t0 B0 m0 d0] ?_
    refine xd 241 [vR4 s0 A0 l0 c0 t0 B0 m0 d0] 33 Zav _ (fun w R Q=>(Zbt _ (p) _ Q.1.1.1.1.1.1).mono (fun _ _=>Zak)) (fun xx=>?_)
    obtain ⟨s42,A42,l42,c42⟩:=xx
    refine xf 0 [(4, .v (.int .i64 0)),eI2 29 s41 A41 l41 c41,eI2 31 s1 A1 l1 c1,eI2 33 s42 A42 l42 c42] [bR4 3 142 s1 A1 l1 c1 t1 B1 m1 d1,bR4 2 142 s0 A0 l0 c0 t0 B0 m0 d0] ?_
    refine xd 239 [vI2 s1 A1 l1 c1,vI2 s42 A42 l42 c42] 34 Zav _ (fun w R Q=>(Za7 _ _ ((q).num) (((p).den:Int)) _ Q.1.1.1.1.1.1.2.num Q.2 (fit S2 (by decide)) (fit S3 (by decide)) (Or.inl (Nat.lt_of_le_of_lt S2 (by decide)))).mono (fun _ _=>Zak)) (fun xx=>?_)
    obtain ⟨s43,A43,l43,c43⟩:=xx
    refine xf 0 [(4, .v (.int .i64 0)),eI2 29 s41 A41 l41 c41,eI2 34 s43 A43 l43 c43] [bR4 3 142 s1 A1 l1 c1 t1 B1 m1 d1,bR4 2 142 s0 A0 l0 c0 t0 B0 m0 d0] ?_
    refine xd 244 [vI2 s41 A41 l41 c41,vI2 s43 A43 l43 c43] 35 (fun _:Unit=>.int .i64 (p - q).num.sign) _ (fun w R Q=>(ZaP _ _ (((p).num) * (((q).den:Int))) (((q).num) * (((p).den:Int))) _ Q.1.1.2 Q.2 (fit (wlm S1 S4) (by decide)) (fit (wlm S2 S3) (by decide))).mono (fun _ _ h=>Zae h (by rw [Zcv]))) (fun xx=>?_)
    refine xf 1 [(4, .v (.int .i64 (p - q).num.sign))] [bR4 3 142 s1 A1 l1 c1 t1 B1 m1 d1,bR4 2 142 s0 A0 l0 c0 t0 B0 m0 d0] ?_
    refine xz (xe (Zaa (Zas ?_)))
    refine Zam (v:=.int .i64 (p - q).num.sign) (by kernel_rfl) (fun w' R Q=>?_)
    exact ⟨rfl,R⟩
end Go.Proofs.YtcpjeaaapocoeaaGreatDoor

namespace Go.Proofs.YtcpjeaaapocoeaaGreatDoor
open Go.RowKit
theorem Zi0 {l:List UInt8} (hd:l.all Zao=true) (hl:l.length≤570):wl (Zaf l)≤30:=by
 rw [ZaC]
 have h1:=ZbE l hd
 obtain ⟨k,hk⟩:∃ k,k=30:=⟨_,rfl⟩
 have h2:10 ^ l.length≤10 ^ (19 * k):=Nat.pow_le_pow_right (by omega) (by omega)
 rw [← hk]
 rw [Nat.pow_mul] at h2
 have h3:(10 ^ 19) ^ k≤W64 ^ k:=Nat.pow_le_pow_left (by rw [Zal]; decide) k
 exact Nat.lt_of_lt_of_le h1 (Nat.le_trans h2 h3)
theorem Zct.of_len {l:List UInt8} (h:l.length≤570):Zct l:=by
 refine ⟨h,fun neg num den hs _=>?_⟩
 obtain ⟨d1,d2,d3⟩:=Zcn hs
 have w1:=Zi0 d1 (by omega)
 have w2:=Zi0 d2 (by omega)
 have hn:(sg neg (Zaf num)).natAbs=Zaf num:=by unfold sg; split<;>omega
 exact ZcL.words (by rw [hn]; omega) (by rw [Int.natAbs_natCast]; omega)
theorem ZlI {l:List UInt8} {q:Rat} (h:Za3 l=some q) (hl:l.length≤570):wl q.num.natAbs≤30∧wl q.den≤30:=by
 unfold Za3 at h
 obtain ⟨⟨neg,num,den,ok⟩,hS⟩:∃ x,Za1 l=x:=⟨_,rfl⟩
 rw [hS] at h
 cases ok with
 | false=>cases h
 | true =>
   obtain ⟨d1,d2,d3⟩:=Zcn hS
   have hn:∀ z,(sg neg z).natAbs=z:=fun z=>by unfold sg; split<;>omega
   have w1:=Zi0 d1 (by omega)
   have w2:=Zi0 d2 (by omega)
   simp only [] at h
   split at h
   ·injection h with h
    subst h
    refine ⟨?_,?_⟩
    ·show wl (sg neg (Zaf num)).natAbs≤30
     rw [hn]; exact w1
    ·show wl 1≤30
     have:wl 1≤1:=ZcN.2 Zck
     omega
   ·split at h
    ·rename_i hne hg
     injection h with h
     subst h
     have h2:=(ZeF hS).1 hne
     obtain ⟨e1,e2⟩:=Zej (z:=sg neg (Zaf num)) h2 (by rw [hn]; exact hg)
     refine ⟨by rw [e1,hn]; exact w1,?_⟩
     have e3:(mkRat (sg neg (Zaf num)) (Zaf den)).den=Zaf den:=by
      unfold denF at e2
      split at e2<;>omega
     rw [e3]; exact w2
    ·cases h
end Go.Proofs.YtcpjeaaapocoeaaGreatDoor

namespace Go.Proofs.YtcpjeaaapocoeaaGreatDoor
open Go.RowKit
theorem Zi1:∀ (k u:Nat),1≤k→u < 10 ^ k→Lib.nDigits u≤k
 | 0,_,h,_=>by omega
 | k + 1,u,_,h=>by
   by_cases h0:u < 10
   ·rw [Lib.nDigits_small h0]; omega
   ·rw [Lib.nDigits_big h0]
    have hk:1≤k:=by
     rcases Nat.eq_zero_or_pos k with e | e
     ·subst e; simp at h; omega
     ·exact e
    have h1:u / 10 < 10 ^ k:=by
     rw [Nat.pow_succ] at h
     exact Nat.div_lt_of_lt_mul (by rw [Nat.mul_comm]; exact h)
    have:=Zi1 k (u / 10) hk h1
    omega
theorem Zo3 {z:Int} {k:Nat} (hk:1≤k) (h:z.natAbs < 10 ^ k):(Lib.itoa z).length≤k + 1:=by
 have h1:=Zi1 k z.natAbs hk h
 have e:0≤z→z.toNat=z.natAbs:=fun h=>by omega
 unfold Lib.itoa
 split
 ·simp only [List.length_cons,Lib.decDigits_length]
  omega
 ·rename_i hz
  rw [Lib.decDigits_length]
  first
   | omega
   | (rw [e (by omega)]; omega)
theorem Zpp {n k:Nat} (h:wl n≤k):n < 10 ^ (20 * k):=by
 have h1:n < W64 ^ k:=ZaC.1 h
 have h2:W64 ^ k≤(10 ^ 20) ^ k:=Nat.pow_le_pow_left (by rw [Zal]; decide) k
 rw [← Nat.pow_mul] at h2
 omega
theorem ZcX (a:Value) (q:Rat) (w:World) (hg:Glob w) (ha:Zat w a q) (hn:Zbc q.num.natAbs) (hd:Zbc q.den):Calls Tryz.prog 58 #[a] w (RetV w (.string ⟨(Zan q).toArray⟩)):=by
 by_cases h:q.den=1
 ·have:=Zka a q w hg ha h hn
  unfold Zan
  rw [if_pos h]; exact this
 ·refine ZkY a q w hg ha hn hd h ?_
  unfold Zbc at hn
  have h1:=Zpp (show wl q.num.natAbs≤500 by omega)
  have h2:=Zo3 (z:=q.num) (k:=20 * 500) (by decide) h1
  omega
theorem Zny {l:List UInt8} (h:Za3 l=none):valF l=0:=by unfold valF; rw [h]; rfl
theorem Zfn {l:List UInt8} {q:Rat} (h:Za3 l=some q):valF l=q:=by unfold valF; rw [h]; rfl
theorem ZcG {l:List UInt8} (hl:l.length≤570):Zbj (valF l) 30:=by
 cases h:Za3 l with
 | none=>rw [Zny h]; exact ⟨by rw [show (0:Rat).num.natAbs=0 from rfl,Zcl]; omega,Nat.le_trans (ZcN.2 (by rw [Zal]; decide)) (by decide)⟩
 | some q=>rw [Zfn h]; exact ZlI h hl
theorem Zbj.up {q:Rat} {k m:Nat} (h:Zbj q k) (hk:k≤m):Zbj q m:=⟨Nat.le_trans h.1 hk,Nat.le_trans h.2 hk⟩
end Go.Proofs.YtcpjeaaapocoeaaGreatDoor

namespace Go.Proofs.YtcpjeaaapocoeaaGreatDoor
open Go.RowKit
section
variable {l r a t b:List UInt8} {neg:Bool} {c:UInt8}
end
/-! ### texts of small numbers -/
theorem Zgi {n:Nat} (h:n < 10):Lib.itoa (n:Int)=[UInt8.ofNat (48 + n)]:=by
 unfold Lib.itoa
 rw [if_neg (by omega),Int.toNat_natCast,Lib.decDigits,dif_pos h]
theorem ZjX {n:Nat} (h0:0 < n) (h:n < 10):Lib.itoa (-(n:Int))=[45,UInt8.ofNat (48 + n)]:=by
 rw [Zgf (by omega),show (-(n:Int)).natAbs=n by omega,Zd8 h]; rfl
theorem Zlc {q:Rat} {n:Nat} (h:n < 10) (h1:q.num=(n:Int)) (h2:q.den=1):Zan q=[UInt8.ofNat (48 + n)]:=by
 unfold Zan; rw [if_pos h2,h1,Zgi h]
theorem Znz {q:Rat} {n:Nat} (h0:0 < n) (h:n < 10) (h1:q.num = -(n:Int)) (h2:q.den=1):Zan q=[45,UInt8.ofNat (48 + n)]:=by
 unfold Zan; rw [if_pos h2,h1,ZjX h0 h]
theorem Zjx {q:Rat} {n d:Nat} (h:n < 10) (hd:d < 10) (h1:q.num=(n:Int)) (h2:q.den=d) (h3:d≠1):Zan q=[UInt8.ofNat (48 + n),47,UInt8.ofNat (48 + d)]:=by
 unfold Zan; rw [h2,if_neg h3,h1,Zgi h,Zgi hd]; rfl
theorem Zld {q:Rat} {n d:Nat} (h0:0 < n) (h:n < 10) (hd:d < 10) (h1:q.num = -(n:Int)) (h2:q.den=d) (h3:d≠1):Zan q=[45,UInt8.ofNat (48 + n),47,UInt8.ofNat (48 + d)]:=by
 unfold Zan; rw [h2,if_neg h3,h1,ZjX h0 h,Zgi hd]; rfl
theorem Zdh {l:List UInt8} {q:Rat} (h:Zan q=l):valF l=q:=Zfn (Zof.2 h)
theorem t1:Zan (mkRat 1 1)=[49]:=Zlc (n:=1) (by decide) (by decide) (by decide)
theorem t3:Zan (mkRat 3 1)=[51]:=Zlc (n:=3) (by decide) (by decide) (by decide)
theorem tm2:Zan (mkRat (-2) 1)=[45,50]:=Znz (n:=2) (by decide) (by decide) (by decide) (by decide)
theorem t13:Zan (mkRat 1 3)=[49,47,51]:=Zjx (n:=1) (d:=3) (by decide) (by decide) (by decide) (by decide) (by decide)
theorem t12:Zan (mkRat 1 2)=[49,47,50]:=Zjx (n:=1) (d:=2) (by decide) (by decide) (by decide) (by decide) (by decide)
theorem t56:Zan (mkRat 5 6)=[53,47,54]:=Zjx (n:=5) (d:=6) (by decide) (by decide) (by decide) (by decide) (by decide)
theorem tm23:Zan (mkRat (-2) 3)=[45,50,47,51]:=Zld (n:=2) (d:=3) (by decide) (by decide) (by decide) (by decide) (by decide) (by decide)
theorem tm32:Zan (Rat.divInt (-6) 4)=[45,51,47,50]:=Zld (n:=3) (d:=2) (by decide) (by decide) (by decide) (by decide) (by decide) (by decide)
theorem Zpq:Zan (valF [49] / valF [51])=[49,47,51]:=by
 rw [Zdh t1,Zdh t3,show mkRat 1 1 / mkRat 3 1=mkRat 1 3 by decide +kernel,t13]
theorem Zpr:Zan (valF [49,47,50] + valF [49,47,51])=[53,47,54]:=by
 rw [Zdh t12,Zdh t13,show mkRat 1 2 + mkRat 1 3=mkRat 5 6 by decide +kernel,t56]
theorem Zps:Zan (valF [45,50,47,51] * valF [51])=[45,50]:=by
 rw [Zdh tm23,Zdh t3,show mkRat (-2) 3 * mkRat 3 1=mkRat (-2) 1 by decide +kernel,tm2]
theorem Zpt:(valF [49,47,51] - valF [49,47,50]).num.sign = -1:=by
 rw [Zdh t12,Zdh t13]; decide +kernel
theorem ZpB:¬ (valF [51]).num=0:=by rw [Zdh t3]; decide
end Go.Proofs.YtcpjeaaapocoeaaGreatDoor

namespace Go.Proofs.YtcpjeaaapocoeaaGreatDoor
open Go.RowKit
theorem Zo4 {x:ByteArray} (h:¬ bytes x=[]):(x.toList == (⟨#[]⟩:ByteArray).toList)=false:=by
 rw [Lib.toList_data,Lib.toList_data]
 exact beq_eq_false_iff_ne.2 h
end Go.Proofs.YtcpjeaaapocoeaaGreatDoor

namespace Go.Proofs.YtcpjeaaapocoeaaGreatDoor
open Go.RowKit Go.Sort
set_option maxHeartbeats 2000000 in
theorem Zgj (T:TypeId) (b cap n u:Nat) (l:List UInt8) (w:World) (hn:l.length=n) (hu:u < 100) (hB:Room .u8 T w b cap (nats l)) (hr:n + 20≤cap) :
 Calls Tryz.prog 365 #[.slice (some ⟨b,0,none⟩) n cap, .int .u64 (u:Int), .int .i64 10] w (ZcF T w b cap (l ++ Lib.decDigits u)):=by
 have HB:=zh hB
 have HN:=zh hn
 have hlen:=ZcE u (by have:=Zal; omega)
 have hsz:(⟨(Lib.decDigits u).toArray⟩:ByteArray).size=(Lib.decDigits u).length:=by simp [ByteArray.size]
 have Hsz:=zh hsz
 have Hr:Hid (n + (Lib.decDigits u).length≤cap):=by unfold Hid; omega
 clear hB hsz hn
 go_enter Tryz.func365,Tryz.ntmps365
 go_wp2_with (first
  | (go_at_call 349; refine (Tryz.internal_strconv_small u hu _).mono ?_; rintro e w' ⟨rfl,rfl⟩)
  | (at_builtin
     refine Zdn rfl _ _ _ _ rfl _ T Tryz.underlying37 Tryz.underlying9 Zcq b cap n rfl ⟨(Lib.decDigits u).toArray⟩ rfl (nats l) (by rw [Zaz]; exact HN.out) HB.out (by rw [Hsz.out]; exact Hr.out) ?_
     intro w1 hB1 hF1
     have HB1:=zh hB1
     have HF1:=zh hF1
     clear hB1 hF1))
 go_ret
 refine ⟨?_,by rw [Zbu]; exact HB1.out,HF1.out⟩
 rw [List.length_append,HN.out,← Hsz.out]; rfl
set_option maxHeartbeats 4000000 in
theorem Zg5 (T:TypeId) (b cap n u nd:Nat) (l:List UInt8) (w:World) (hn:l.length=n) (hg:Glob w) (hu:100≤u) (hu64:u < 18446744073709551616) (hB:Room .u8 T w b cap (nats l)) (hr:n + 20≤cap) (hnd:Lib.nDigits u=nd) :
 Calls Tryz.prog 365 #[.slice (some ⟨b,0,none⟩) n cap, .int .u64 (u:Int), .int .i64 10] w (ZcF T w b cap (l ++ Lib.decDigits u)):=by
 have hlen:=ZcE u (by rw [Zal]; exact hu64)
 have hln:=Lib.decDigits_length u
 rw [hnd] at hln
 rw [hln] at hlen
 have hal:Tryz.prog.arrayLen 420=24:=by simp [Program.arrayLen,Tryz.underlying420]
 have hsl:∀ W,(Instr.sliceAt 420 (.pointer (some ⟨w.heap.size,0,none⟩)) none (some (.int .i64 (nd:Int))) none).run Tryz.prog W=.ok (.slice (some ⟨w.heap.size,0,none⟩) nd 24) W:=fun W=>by
  rw [run_sliceAt_array_h W 420 ⟨w.heap.size,0,none⟩ (by simp [Program.arrayLen,Program.elem,Tryz.underlying420]) .i64 (nd:Int) (by omega) (by rw [hal]; omega)]
  go_simp
 have hH0:=Lib.holds_zero0 w 420 nd (by omega)
 have hfmt:=Tryz.internal_strconv_formatBase10 w.heap.size 0 24 u (Array.replicate nd 0) (w.alloc (.cells Lib.zeros24 420)) hH0 (by rw [Array.size_replicate,← hnd]; exact Lib.lt_pow_nDigits u) hu64 (by rw [Array.size_replicate]; omega)
 have hnum:=Tryz.internal_strconv_numDigits u (by omega) hu64 (w.alloc (.cells Lib.zeros24 420)) (Lib.tabIs_alloc hg.1 _)
 rw [Array.size_replicate] at hfmt
 rw [hnd] at hnum
 have HH0:=zh hH0
 have HB:=zh hB
 have HN:=zh hn
 have HD:=zh hln
 have HND:=zh hnd
 have Hr:Hid (n + nd≤cap):=by unfold Hid; omega
 have iu:(100:Int)≤(u:Int):=by omega
 clear hH0 hal hB hln hnd hg hn
 go_enter Tryz.func365,Tryz.ntmps365
 go_wp2_with (go_at_call 350; refine hnum.mono ?_; rintro e w' ⟨rfl,rfl⟩)
 go_at_call 351
 refine hfmt.mono ?_
 rintro e w' ⟨rfl,k,v',dk,rfl,hF⟩
 obtain ⟨os,eo⟩:=Lib.fin_at w (.cells Lib.zeros24 420) dk k 0
 have Q:Ext w ((putRow (fun (b:UInt8)=>Value.int .u8 (b.toNat:Int)) (w.alloc (.cells Lib.zeros24 420)) w.heap.size 0 dk).drewN k):=by
  rw [eo]; exact Fr.ofBelow (Lib.below_grow _ w (Nat.le_refl _) k os)
 have hS:Zai .u8 ((putRow (fun (b:UInt8)=>Value.int .u8 (b.toNat:Int)) (w.alloc (.cells Lib.zeros24 420)) w.heap.size 0 dk).drewN k) (some ⟨w.heap.size,0,none⟩) (nats (Lib.decDigits u)):=by
  intro _
  refine ⟨w.heap.size,0,rfl,?_,fun i hi=>?_⟩
  ·have:=Q.size
   have h2:((putRow (fun (b:UInt8)=>Value.int .u8 (b.toNat:Int)) (w.alloc (.cells Lib.zeros24 420)) w.heap.size 0 dk).drewN k).heap.size=w.heap.size + 1:=by simp [putRow,mapBlock]
   omega
  ·rw [Zaz] at hi
   have e5:(nats (Lib.decDigits u))[i]?.getD 0=(Lib.decDigits u)[i].toNat:=by simp [nats,hi]
   rw [e5,Lib.row_is_numeral (by rw [HND.out]; exact hF) i hi,World.cell?_drewN]
   exact cell?_putRow (fun (b:UInt8)=>Value.int .u8 (b.toNat:Int)) _ w.heap.size 0 _ dk HH0.out (by rw [hF.size,Array.size_replicate]) i (by rw [hF.size]; rw [HD.out] at hi; exact hi)
 generalize (putRow (fun (b:UInt8)=>Value.int .u8 (b.toNat:Int)) (w.alloc (.cells Lib.zeros24 420)) w.heap.size 0 dk).drewN k=w1 at Q hS ⊢
 have HE:=zh Q
 have HS:=zh hS
 have HNe:Hid (nats (Lib.decDigits u)≠[]):=fun h=>by
  have h1:=congrArg List.length h
  rw [Zaz] at h1
  have h2:=Lib.nDigits_pos u
  rw [Lib.decDigits_length] at h1
  simp at h1; omega
 clear Q hS eo hF hfmt hnum
 go_wp2_with (at_builtin
              refine ZbT rfl _ _ _ rfl _ T .u8 1 Tryz.underlying37 Zcq b cap n nd 24 (some ⟨w.heap.size,0,none⟩) rfl rfl (nats l) (nats (Lib.decDigits u)) (by rw [Zaz]; exact HN.out) (by rw [Zaz]; exact HD.out) HNe.out (HB.out.ext HE.out) HS.out Hr.out ?_
              intro w2 hB1 hF1
              have HB1:=zh hB1
              have HF1:=zh hF1
              clear hB1 hF1)
 go_ret
 refine ⟨?_,by rw [Zbu]; exact HB1.out,((HE.out.mono (fun _ _ h=>h.elim))).trans HF1.out⟩
 rw [List.length_append,HN.out,HD.out]; rfl
theorem Zex (T:TypeId) (b cap n u:Nat) (l:List UInt8) (w:World) (hn:l.length=n) (hg:Glob w) (hu:u < W64) (hB:Room .u8 T w b cap (nats l)) (hr:n + 20≤cap) :
 Calls Tryz.prog 365 #[.slice (some ⟨b,0,none⟩) n cap, .int .u64 (u:Int), .int .i64 10] w (ZcF T w b cap (l ++ Lib.decDigits u)):=by
 rcases Nat.lt_or_ge u 100 with h | h
 ·exact Zgj T b cap n u l w hn h hB hr
 ·exact Zg5 T b cap n u _ l w hn hg h (by rw [Zal] at hu; exact hu) hB hr rfl
set_option maxHeartbeats 1000000 in
theorem ZhB (T:TypeId) (b cap n m:Nat) (l:List UInt8) (w:World) (hn:l.length=n) (hg:Glob w) (hm:m≤9223372036854775807) (hB:Room .u8 T w b cap (nats l)) (hr:n + 20≤cap) :
 Calls Tryz.prog 316 #[.slice (some ⟨b,0,none⟩) n cap, .int .i64 (m:Int), .int .i64 10] w (ZcF T w b cap (l ++ Lib.decDigits m)):=by
 have hW:m < W64:=by rw [Zal]; omega
 have q0:=Zbz m hW
 have H:=zh (Zex T b cap n m l w hn hg hW hB hr)
 have hneg:¬ ((m:Int) < 0):=by omega
 clear hg hm hn hB hW
 go_enter Tryz.func316,Tryz.ntmps316
 go_wp2_with fail
 refine H.out.mono ?_
 rintro e w' ⟨rfl,hB,hF⟩
 have HB:=zh hB
 have HF:=zh hF
 clear hB hF
 go_wp2
 go_ret
 exact ⟨by rw [List.length_append]; rfl,HB.out,HF.out⟩
set_option maxHeartbeats 2000000 in
theorem ZhC (T:TypeId) (b cap n m:Nat) (l:List UInt8) (w:World) (hn:l.length=n) (hg:∀ w',Fr (· = b) w w'→Glob w') (h1:1≤m) (hm:m≤9223372036854775808) (hB:Room .u8 T w b cap (nats l)) (hr:n + 21≤cap) :
 Calls Tryz.prog 316 #[.slice (some ⟨b,0,none⟩) n cap, .int .i64 (-(m:Int)), .int .i64 10] w (ZcF T w b cap (l ++ [45] ++ Lib.decDigits m)):=by
 have hW:m < W64:=by rw [Zal]; omega
 have q0:IntKind.u64.wrap (-IntKind.u64.wrap (-(m:Int)))=(m:Int):=by
  rw [Zal] at hW
  rw [IntKind.wrap_u64,IntKind.wrap_u64]; omega
 have HW:=zh hW
 have HG:=zh hg
 have HB:=zh hB
 have HN:=zh hn
 have hneg:(-(m:Int)) < 0:=by omega
 have HS:Hid (Zai .u8 (w.alloc (.cells #[.int .u8 45] 5)) (some ⟨w.heap.size,0,none⟩) (nats [45])):=(Own.new w 5 .u8 [45] []).shows0
 generalize hM:l ++ [45] ++ Lib.decDigits m=t
 have HM:=zh hM
 clear hg hm hn hB hW h1 hM
 go_enter Tryz.func316,Tryz.ntmps316
 go_wp2_with (at_builtin; refine Hid.out ?_)
 refine zh ?_
 refine ZbT rfl _ _ _ rfl _ T .u8 1 Tryz.underlying37 Zcq b cap n 1 1 (some ⟨w.heap.size,0,none⟩) rfl rfl (nats l) (nats [45]) (by rw [Zaz]; exact HN.out) rfl (by simp [nats]) (HB.out.ext ((Fr.refl _ _).alloc _)) HS.out (by omega) ?_
 intro w1 hB1 hF1
 have HE1:Hid (Fr (· = b) w w1):=((Fr.refl _ _).alloc _).trans hF1
 have HB1:=zh hB1
 clear hB1 hF1
 go_wp2_with fail
 refine (Zex T b cap (n + 1) m (l ++ [45]) w1 (by rw [List.length_append,HN.out]; rfl) (HG.out _ HE1.out) HW.out (by rw [Zbu]; exact HB1.out) (by omega)).mono ?_
 rw [HM.out]
 rintro e w' ⟨rfl,hB,hF⟩
 have HB:=zh hB
 have HF:=zh (HE1.out.trans hF)
 clear hB hF
 go_wp2
 go_ret
 exact ⟨rfl,HB.out,HF.out⟩
set_option maxHeartbeats 1000000 in
theorem Zdj (T:TypeId) (b cap n:Nat) (z:Int) (l:List UInt8) (w:World) (hn:l.length=n) (hg:∀ w',Fr (· = b) w w'→Glob w') (hz : -9223372036854775808≤z) (hz1:z≤9223372036854775807) (hB:Room .u8 T w b cap (nats l)) (hr:n + 21≤cap) :
 Calls Tryz.prog 235 #[.slice (some ⟨b,0,none⟩) n cap, .int .i64 z, .int .i64 10] w (ZcF T w b cap (l ++ Lib.itoa z)):=by
 have h:Calls Tryz.prog 316 #[.slice (some ⟨b,0,none⟩) n cap, .int .i64 z, .int .i64 10] w (ZcF T w b cap (l ++ Lib.itoa z)):=by
  rcases (by omega:z < 0∨0≤z) with h | h
  ·obtain ⟨m,rfl⟩:∃ m:Nat,z = -(m:Int):=⟨z.natAbs,by omega⟩
   have e:Lib.itoa (-(m:Int))=[45] ++ Lib.decDigits m:=by
    unfold Lib.itoa
    rw [if_pos h]
    simp
   rw [e,← List.append_assoc]
   exact ZhC T b cap n m l w hn hg (by omega) (by omega) hB hr
  ·obtain ⟨m,rfl⟩:∃ m:Nat,z=(m:Int):=⟨z.natAbs,by omega⟩
   have e:Lib.itoa (m:Int)=Lib.decDigits m:=by
    unfold Lib.itoa
    rw [if_neg (by omega)]
    simp
   rw [e]
   exact ZhB T b cap n m l w hn (hg _ (Fr.refl _ _)) (by omega) hB (by omega)
 have H:=zh h
 clear h hg hn hB hz hz1
 go_enter Tryz.func235,Tryz.ntmps235
 go_wp2_with fail
 refine H.out.mono ?_
 rintro e w' ⟨rfl,hB,hF⟩
 have HB:=zh hB
 have HF:=zh hF
 clear hB hF
 go_wp2
 go_ret
 exact ⟨by rw [List.length_append]; rfl,HB.out,HF.out⟩
end Go.Proofs.YtcpjeaaapocoeaaGreatDoor

namespace Go.Proofs.YtcpjeaaapocoeaaGreatDoor
open Go.RowKit Go.Sort
theorem Zg6 {w wb:World} (h:w.alloc (.cells (Array.replicate 48 (.int .u8 0)) 322)=wb):Room .u8 322 wb w.heap.size 48 (nats []):=by
 subst h
 refine ⟨⟨List.replicate 48 (.int .u8 0),fun v hv=>⟨0,List.eq_of_mem_replicate hv⟩,?_⟩,_,heap_alloc_new w _,by simp⟩
 rw [heap_alloc_new]; rfl
theorem Room.bytes {T:TypeId} {w:World} {b cap:Nat} {l:List UInt8} (h:Room .u8 T w b cap (nats l)):∀ j (hj:j < l.length),w.cell? ((⟨b,0,none⟩:Addr).add j)=some (.int .u8 (l[j].toNat:Int)):=fun j hj=>by
 have:=h.1.cell (i:=j) (by rw [Zaz]; exact hj)
 rw [Lib.add_plain,Nat.zero_add,this]
 simp [nats,hj]
theorem Zi2 {z:Int} (h : -4000000000000000000≤z) (h1:z≤4000000000000000000):(Lib.itoa z).length≤20:=by
 have hn:∀ u:Nat,u≤4000000000000000000→Lib.nDigits u≤19:=fun u hu=>by
  rcases Nat.eq_zero_or_pos u with e | e
  ·subst e; rw [Lib.nDigits_small (by omega)]; omega
  ·have h2:=Lib.lt_pow_nDigits u
   rcases Nat.lt_or_ge 19 (Lib.nDigits u) with hlt | hge
   ·exfalso
    have h3:=Lib.nDigits_unique 19 (10 ^ 19)
    have h4:=(Lib.numDigits_eq u e (by omega))
    have:=h4.2
    have h5:=h4.1
    split at h5
    ·rename_i h6
     have h7:Lib.l10 (Lib.bitLen u)=19:=by omega
     rw [h7] at h6
     omega
    ·omega
   ·exact hge
 unfold Lib.itoa
 split
 ·simp only [List.length_cons,Lib.decDigits_length]
  have:=hn z.natAbs (by omega)
  omega
 ·have e:z.toNat=z.natAbs:=by omega
  rw [Lib.decDigits_length]
  have:=hn z.natAbs (by omega)
  first | omega | (rw [e]; omega)
set_option maxHeartbeats 4000000 in
theorem Zii (N n':Int) (D M G d':Nat) (w:World) (hg:Glob w) (hM:max N (-N)=(M:Int)) (hN : -4000000000000000000≤N) (hN1:N≤4000000000000000000) (hD:2≤D) (hD1:D≤4000000000000000000) (hG:Nat.gcd M D=G) (hG0:1≤G)
 (q1:N.tdiv (G:Int)=n') (q2:(D:Int).tdiv (G:Int)=(d':Int)) (hn : -4000000000000000000≤n') (hn1:n'≤4000000000000000000) (hd:1≤d') (hd1:d'≤4000000000000000000) (t:List UInt8) (ht:t=if d'=1 then Lib.itoa n' else Lib.itoa n' ++ [47] ++ Lib.itoa (d':Int)) :
 Calls Tryz.prog 129 #[.int .i64 N, .int .i64 (D:Int)] w (RetV w (.string ⟨t.toArray⟩)):=by
 have h1:¬ ((D:Int) < 0):=by omega
 have hMb:M≤4000000000000000000:=by omega
 have h2:((D:Int) != 1)=true:=by simp; omega
 have g0:((G:Int) == 0)=false:=by simp; omega
 have g1:¬ (G:Int)=0:=by omega
 have q3:(D:Int) / (G:Int)=(d':Int):=by rw [← q2,Int.tdiv_eq_ediv_of_nonneg (by omega)]
 have HF:=zh (ZcR n' · · (by omega) (by omega))
 have HG:=zh hg
 have HGc:=zh (Zg4 M D · (by omega) (by omega))
 rw [hG] at HGc
 by_cases e1:d'=1
 ·have HT2:Hid (t=Lib.itoa n'):=by unfold Hid; rw [ht,if_pos e1]
  generalize Lib.itoa n'=t1 at *
  clear hg hG ht
  go_enter Tryz.func129,Tryz.ntmps129
  go_wp2_with (go_at_call 234; refine (HGc.out _).mono ?_; rintro e w1 ⟨rfl,n,rfl⟩)
  go_region
  go_wp2_with fail
  refine (HF.out _ (HG.out.ext ((Fr.refl _ _).drewN n).drew)).mono ?_
  rintro e w2 ⟨rfl,hF⟩
  have HE:Hid (Ext w w2):=((Fr.refl _ w).drewN n).drew.trans hF
  clear hF
  go_wp2
  go_ret
  exact ⟨by rw [HT2.out]; rfl,HE.out⟩
 ·have e2:((d':Int) == 1)=false:=by simp; omega
  have e3:¬ (d':Int)=1:=by omega
  have HT2:Hid (t=Lib.itoa n' ++ [47] ++ Lib.itoa (d':Int)):=by unfold Hid; rw [ht,if_neg e1]
  have hl1:=Zi2 hn hn1
  have hl2:=Zi2 (z:=(d':Int)) (by omega) (by omega)
  have HA1:=zh (fun b W (hgW:∀ w',Fr (· = b) W w'→Glob w') hB=>Zdj 322 b 48 0 n' [] W rfl hgW (by omega) (by omega) hB (by omega))
  have HA2:=zh (fun b n W l (hnl:l.length=n) (hgW:∀ w',Fr (· = b) W w'→Glob w') hB (h27:n≤27)=>Zdj 322 b 48 n (d':Int) l W hnl hgW (by omega) (by omega) hB (by omega))
  simp only [List.nil_append] at HA1
  generalize Lib.itoa n'=t1 at *
  generalize Lib.itoa (d':Int)=t2 at *
  clear hg hG ht
  go_enter Tryz.func129,Tryz.ntmps129
  go_wp2_with (go_at_call 234; refine (HGc.out _).mono ?_; rintro e w1 ⟨rfl,n,rfl⟩)
  go_region
  have HEr:Hid (Ext w (w.drewN n).drew):=((Fr.refl _ w).drewN n).drew
  generalize (w.drewN n).drew=wr at *
  have hal:Tryz.prog.arrayLen 322=48:=by simp [Program.arrayLen,Tryz.underlying322]
  have hsl:∀ W,(Instr.sliceAt 322 (.pointer (some ⟨wr.heap.size,0,none⟩)) none (some (.int .i64 0)) none).run Tryz.prog W=.ok (.slice (some ⟨wr.heap.size,0,none⟩) 0 48) W:=fun W=>by
   rw [run_sliceAt_array_h W 322 ⟨wr.heap.size,0,none⟩ (by simp [Program.arrayLen,Program.elem,Tryz.underlying322]) .i64 0 (by omega) (by rw [hal]; omega)]
   go_simp
  go_wp2_with fail
  generalize hwb:World.alloc wr _=wb
  have HR:=zh (Zg6 hwb)
  have HEb:Hid (Ext wr wb):=hwb ▸ (Fr.refl _ _).alloc _
  have HL:Hid (w.heap.size≤wr.heap.size):=HEr.out.size
  clear hwb hal hsl
  generalize wr.heap.size=g at *
  have HGl:Hid (∀ W,Fr (· = g) wb W→Glob W):=fun W hF=>HG.out.ext (((HEr.out.trans HEb.out).mono (fun _ _ h=>h.elim)).next hF (fun i hi e=>by have:=HL.out; omega))
  refine (HA1.out g wb HGl.out HR.out).mono ?_
  rintro e w3 ⟨rfl,hB3,hF3⟩
  have HB3:=zh hB3
  have HF3:=zh hF3
  obtain ⟨k,hk⟩:∃ k,t1.length=k:=⟨_,rfl⟩
  rw [hk] at hl1 ⊢
  have HK:=zh hk
  clear hB3 hF3 hk
  have HS:Hid (Zai .u8 (w3.alloc (.cells #[.int .u8 47] 5)) (some ⟨w3.heap.size,0,none⟩) (nats [47])):=(Own.new w3 5 .u8 [47] []).shows0
  go_wp2_with (at_builtin; refine Hid.out ?_)
  refine zh ?_
  refine ZbT rfl _ _ _ rfl _ 322 .u8 1 Tryz.underlying37 Zcq g 48 k 1 1 (some ⟨w3.heap.size,0,none⟩) rfl rfl (nats t1) (nats [47]) (by rw [Zaz]; exact HK.out) rfl (by simp [nats]) (HB3.out.ext ((Fr.refl _ _).alloc _)) HS.out (by omega) ?_
  intro w4 hB4 hF4
  have HF4:Hid (Fr (· = g) wb w4):=HF3.out.trans (((Fr.refl _ _).alloc _).trans hF4)
  have HB4:Hid (Room .u8 322 w4 g 48 (nats (t1 ++ [47]))):=by unfold Hid; rw [Zbu]; exact hB4
  clear hB4 hF4
  go_wp2_with fail
  refine (HA2.out g (k + 1) w4 (t1 ++ [47]) (by rw [List.length_append,HK.out]; rfl) (fun W hF=>HGl.out W (HF4.out.trans hF)) HB4.out (by omega)).mono ?_
  rw [← HT2.out]
  rintro e w5 ⟨rfl,hB5,hF5⟩
  have hc:=Room.bytes hB5
  have hcv:=run_convert_bytes_back (P:=Tryz.prog) w5 37 9 5 ⟨g,0,none⟩ 48 t Tryz.underlying37 Tryz.underlying5 Tryz.underlying9 hc
  have HE:Hid (Ext w w5):=((HEr.out.trans HEb.out)).next (HF4.out.trans hF5) (fun i hi e=>by have:=HL.out; omega)
  clear hB5 hF5 hc
  go_wp2
  go_ret
  exact ⟨rfl,HE.out⟩
set_option maxHeartbeats 4000000 in
theorem ZhD (N n':Int) (D M G d':Nat) (w:World) (hg:Glob w) (hM:max N (-N)=(M:Int)) (hN : -4000000000000000000≤N) (hN1:N≤4000000000000000000) (hD:2≤D) (hD1:D≤4000000000000000000) (hG:Nat.gcd M D=G) (hG0:1≤G)
 (q1:N.tdiv (G:Int)=n') (q2:(D:Int).tdiv (G:Int)=(d':Int)) (hn : -4000000000000000000≤n') (hn1:n'≤4000000000000000000) (hd:1≤d') (hd1:d'≤4000000000000000000) (t:List UInt8) (ht:t=if d'=1 then Lib.itoa n' else Lib.itoa n' ++ [47] ++ Lib.itoa (d':Int)) :
 Calls Tryz.prog 129 #[.int .i64 (-N), .int .i64 (-(D:Int))] w (RetV w (.string ⟨t.toArray⟩)):=by
 have h1 : -(D:Int) < 0:=by omega
 have hMb:M≤4000000000000000000:=by omega
 have h2:((D:Int) != 1)=true:=by simp; omega
 have g0:((G:Int) == 0)=false:=by simp; omega
 have g1:¬ (G:Int)=0:=by omega
 have q3:(D:Int) / (G:Int)=(d':Int):=by rw [← q2,Int.tdiv_eq_ediv_of_nonneg (by omega)]
 have HF:=zh (ZcR n' · · (by omega) (by omega))
 have HG:=zh hg
 have HGc:=zh (Zg4 M D · (by omega) (by omega))
 rw [hG] at HGc
 by_cases e1:d'=1
 ·have HT2:Hid (t=Lib.itoa n'):=by unfold Hid; rw [ht,if_pos e1]
  generalize Lib.itoa n'=t1 at *
  clear hg hG ht
  go_enter Tryz.func129,Tryz.ntmps129
  go_wp2_with (go_at_call 234; refine (HGc.out _).mono ?_; rintro e w1 ⟨rfl,n,rfl⟩)
  go_region
  go_wp2_with fail
  refine (HF.out _ (HG.out.ext ((Fr.refl _ _).drewN n).drew)).mono ?_
  rintro e w2 ⟨rfl,hF⟩
  have HE:Hid (Ext w w2):=((Fr.refl _ w).drewN n).drew.trans hF
  clear hF
  go_wp2
  go_ret
  exact ⟨by rw [HT2.out]; rfl,HE.out⟩
 ·have e2:((d':Int) == 1)=false:=by simp; omega
  have e3:¬ (d':Int)=1:=by omega
  have HT2:Hid (t=Lib.itoa n' ++ [47] ++ Lib.itoa (d':Int)):=by unfold Hid; rw [ht,if_neg e1]
  have hl1:=Zi2 hn hn1
  have hl2:=Zi2 (z:=(d':Int)) (by omega) (by omega)
  have HA1:=zh (fun b W (hgW:∀ w',Fr (· = b) W w'→Glob w') hB=>Zdj 322 b 48 0 n' [] W rfl hgW (by omega) (by omega) hB (by omega))
  have HA2:=zh (fun b n W l (hnl:l.length=n) (hgW:∀ w',Fr (· = b) W w'→Glob w') hB (h27:n≤27)=>Zdj 322 b 48 n (d':Int) l W hnl hgW (by omega) (by omega) hB (by omega))
  simp only [List.nil_append] at HA1
  generalize Lib.itoa n'=t1 at *
  generalize Lib.itoa (d':Int)=t2 at *
  clear hg hG ht
  go_enter Tryz.func129,Tryz.ntmps129
  go_wp2_with (go_at_call 234; refine (HGc.out _).mono ?_; rintro e w1 ⟨rfl,n,rfl⟩)
  go_region
  have HEr:Hid (Ext w (w.drewN n).drew):=((Fr.refl _ w).drewN n).drew
  generalize (w.drewN n).drew=wr at *
  have hal:Tryz.prog.arrayLen 322=48:=by simp [Program.arrayLen,Tryz.underlying322]
  have hsl:∀ W,(Instr.sliceAt 322 (.pointer (some ⟨wr.heap.size,0,none⟩)) none (some (.int .i64 0)) none).run Tryz.prog W=.ok (.slice (some ⟨wr.heap.size,0,none⟩) 0 48) W:=fun W=>by
   rw [run_sliceAt_array_h W 322 ⟨wr.heap.size,0,none⟩ (by simp [Program.arrayLen,Program.elem,Tryz.underlying322]) .i64 0 (by omega) (by rw [hal]; omega)]
   go_simp
  go_wp2_with fail
  generalize hwb:World.alloc wr _=wb
  have HR:=zh (Zg6 hwb)
  have HEb:Hid (Ext wr wb):=hwb ▸ (Fr.refl _ _).alloc _
  have HL:Hid (w.heap.size≤wr.heap.size):=HEr.out.size
  clear hwb hal hsl
  generalize wr.heap.size=g at *
  have HGl:Hid (∀ W,Fr (· = g) wb W→Glob W):=fun W hF=>HG.out.ext (((HEr.out.trans HEb.out).mono (fun _ _ h=>h.elim)).next hF (fun i hi e=>by have:=HL.out; omega))
  refine (HA1.out g wb HGl.out HR.out).mono ?_
  rintro e w3 ⟨rfl,hB3,hF3⟩
  have HB3:=zh hB3
  have HF3:=zh hF3
  obtain ⟨k,hk⟩:∃ k,t1.length=k:=⟨_,rfl⟩
  rw [hk] at hl1 ⊢
  have HK:=zh hk
  clear hB3 hF3 hk
  have HS:Hid (Zai .u8 (w3.alloc (.cells #[.int .u8 47] 5)) (some ⟨w3.heap.size,0,none⟩) (nats [47])):=(Own.new w3 5 .u8 [47] []).shows0
  go_wp2_with (at_builtin; refine Hid.out ?_)
  refine zh ?_
  refine ZbT rfl _ _ _ rfl _ 322 .u8 1 Tryz.underlying37 Zcq g 48 k 1 1 (some ⟨w3.heap.size,0,none⟩) rfl rfl (nats t1) (nats [47]) (by rw [Zaz]; exact HK.out) rfl (by simp [nats]) (HB3.out.ext ((Fr.refl _ _).alloc _)) HS.out (by omega) ?_
  intro w4 hB4 hF4
  have HF4:Hid (Fr (· = g) wb w4):=HF3.out.trans (((Fr.refl _ _).alloc _).trans hF4)
  have HB4:Hid (Room .u8 322 w4 g 48 (nats (t1 ++ [47]))):=by unfold Hid; rw [Zbu]; exact hB4
  clear hB4 hF4
  go_wp2_with fail
  refine (HA2.out g (k + 1) w4 (t1 ++ [47]) (by rw [List.length_append,HK.out]; rfl) (fun W hF=>HGl.out W (HF4.out.trans hF)) HB4.out (by omega)).mono ?_
  rw [← HT2.out]
  rintro e w5 ⟨rfl,hB5,hF5⟩
  have hc:=Room.bytes hB5
  have hcv:=run_convert_bytes_back (P:=Tryz.prog) w5 37 9 5 ⟨g,0,none⟩ 48 t Tryz.underlying37 Tryz.underlying5 Tryz.underlying9 hc
  have HE:Hid (Ext w w5):=((HEr.out.trans HEb.out)).next (HF4.out.trans hF5) (fun i hi e=>by have:=HL.out; omega)
  clear hB5 hF5 hc
  go_wp2
  go_ret
  exact ⟨rfl,HE.out⟩
set_option maxHeartbeats 1000000 in
theorem Zij (n:Int) (w:World) (hg:Glob w) (h0 : -9223372036854775807≤n) (h1:n≤9223372036854775807) :
 Calls Tryz.prog 129 #[.int .i64 (-n), .int .i64 (-1)] w (RetV w (.string ⟨(Lib.itoa n).toArray⟩)):=by
 have H:=zh (ZcR n w hg (by omega) h1)
 generalize Lib.itoa n=t at *
 clear hg
 go_enter Tryz.func129,Tryz.ntmps129
 go_wp2_with fail
 refine H.out.mono ?_
 rintro e w1 ⟨rfl,hF⟩
 have HF:=zh hF
 clear hF
 go_wp2
 go_ret
 exact ⟨rfl,HF.out⟩
theorem ZdV (N:Int) (D:Nat) (hD:D≠0):(mkRat N D).num=N.tdiv ((Nat.gcd N.natAbs D:Nat):Int)∧(mkRat N D).den=D / Nat.gcd N.natAbs D:=by
 rw [← Rat.normalize_eq_mkRat hD,Rat.normalize_eq]
 exact ⟨(Int.tdiv_eq_ediv_of_dvd (Int.ofNat_dvd_left.2 (Nat.gcd_dvd_left _ _))).symm,rfl⟩
theorem ZeC (N:Int) (D:Nat) (q:Rat) (hN:N.natAbs≤4000000000000000000) (hD:2≤D) (hD1:D≤4000000000000000000) (hq:mkRat N D=q) :
 ∃ (n':Int) (M G d':Nat),max N (-N)=(M:Int)∧Nat.gcd M D=G∧1≤G∧N.tdiv (G:Int)=n'∧(D:Int).tdiv (G:Int)=(d':Int) ∧ -4000000000000000000≤n'∧n'≤4000000000000000000∧1≤d'∧d'≤4000000000000000000∧Zan q=if d'=1 then Lib.itoa n' else Lib.itoa n' ++ [47] ++ Lib.itoa (d':Int):=by
 obtain ⟨e1,e2⟩:=ZdV N D (by omega)
 have hG:1≤Nat.gcd N.natAbs D:=Nat.gcd_pos_of_pos_right _ (by omega)
 have hd:1≤D / Nat.gcd N.natAbs D:=Nat.div_pos (Nat.le_of_dvd (by omega) (Nat.gcd_dvd_right _ _)) hG
 have hd2:D / Nat.gcd N.natAbs D≤D:=Nat.div_le_self _ _
 have hn:(N.tdiv ((Nat.gcd N.natAbs D:Nat):Int)).natAbs≤N.natAbs:=by rw [Int.natAbs_tdiv]; exact Nat.div_le_self _ _
 refine ⟨_,N.natAbs,_,D / Nat.gcd N.natAbs D,by omega,rfl,hG,rfl,?_,by omega,by omega,hd,by omega,?_⟩
 ·rw [Int.tdiv_eq_ediv_of_nonneg (by omega)]; rfl
 ·rw [← hq]
  unfold Zan
  rw [e1,e2]
theorem ZdW (N D:Int) (q:Rat) (w:World) (hg:Glob w) (hN:N.natAbs≤4000000000000000000) (hD:D.natAbs≤4000000000000000000) (h0:D≠0) (hq:Rat.divInt N D=q) :
 Calls Tryz.prog 129 #[.int .i64 N, .int .i64 D] w (RetV w (.string ⟨(Zan q).toArray⟩)):=by
 rcases (by omega:0 < D∨D < 0) with hp | hp
 ·obtain ⟨d,rfl⟩:∃ d:Nat,D=(d:Int):=⟨D.natAbs,by omega⟩
  have hm:mkRat N d=q:=by rw [← hq]; rfl
  by_cases h1:d=1
  ·subst h1
   have e:Zan q=Lib.itoa N:=by
    rw [← hm]
    unfold Zan
    have:=ZdV N 1 (by decide)
    simp only [Nat.gcd_one_right] at this
    rw [this.1,this.2]
    simp
   rw [e]
   exact ZiX N w hg (by omega) (by omega)
  ·obtain ⟨n',M,G,d',k1,k2,k3,k4,k5,k6,k7,k8,k9,k10⟩:=ZeC N d q hN (by omega) (by omega) hm
   exact Zii N n' d M G d' w hg k1 (by omega) (by omega) (by omega) (by omega) k2 k3 k4 k5 k6 k7 k8 k9 _ k10
 ·obtain ⟨d,rfl⟩:∃ d:Nat,D = -(d:Int):=⟨D.natAbs,by omega⟩
  obtain ⟨m,rfl⟩:∃ m:Int,N = -m:=⟨-N,by omega⟩
  have hm:mkRat m d=q:=by rw [← hq,Rat.neg_divInt_neg]; rfl
  by_cases h1:d=1
  ·subst h1
   have e:Zan q=Lib.itoa m:=by
    rw [← hm]
    unfold Zan
    have:=ZdV m 1 (by decide)
    simp only [Nat.gcd_one_right] at this
    rw [this.1,this.2]
    simp
   rw [e]
   exact Zij m w hg (by omega) (by omega)
  ·obtain ⟨n',M,G,d',k1,k2,k3,k4,k5,k6,k7,k8,k9,k10⟩:=ZeC m d q (by omega) (by omega) (by omega) hm
   exact ZhD m n' d M G d' w hg k1 (by omega) (by omega) (by omega) (by omega) k2 k3 k4 k5 k6 k7 k8 k9 _ k10
end Go.Proofs.YtcpjeaaapocoeaaGreatDoor

namespace Go.Proofs.YtcpjeaaapocoeaaGreatDoor
open Go.RowKit
set_option maxHeartbeats 1000000 in
theorem Zi3 (a b:Int) (w:World):Calls Tryz.prog 135 #[.int .i64 a, .int .i64 b] w fun e w'=>e=.returned (.int .i64 (cmpI a b))∧w=w':=by
 rcases Int.lt_trichotomy a b with h | h | h
 ·have HC:Hid (cmpI a b = -1):=by unfold Hid cmpI; rw [if_pos h]
  go_enter Tryz.func135,Tryz.ntmps135
  go_wp2
  go_ret
  exact ⟨by rw [HC.out]; rfl,rfl⟩
 ·subst h
  have HC:Hid (cmpI a a=0):=by unfold Hid cmpI; rw [if_neg (by omega),if_neg (by omega)]
  go_enter Tryz.func135,Tryz.ntmps135
  go_wp2
  go_ret
  exact ⟨by rw [HC.out]; rfl,rfl⟩
 ·have HC:Hid (cmpI a b=1):=by unfold Hid cmpI; rw [if_neg (by omega),if_pos h]
  have h':¬ a < b:=by omega
  go_enter Tryz.func135,Tryz.ntmps135
  go_wp2
  go_ret
  exact ⟨by rw [HC.out]; rfl,rfl⟩
end Go.Proofs.YtcpjeaaapocoeaaGreatDoor

namespace Go.Proofs.YtcpjeaaapocoeaaGreatDoor
open Go.RowKit
abbrev Sh5:=Int × Int × Int × Int × Bool
def Zg7 (x:Sh5):Value:=.tuple #[.agg #[.int .i64 x.1, .int .i64 x.2.1], .agg #[.int .i64 x.2.2.1, .int .i64 x.2.2.2.1], .bool x.2.2.2.2]
theorem Zfp {w w':World} {e:Ending} {l l':List UInt8} (h:Zfw w l l' e w'):ZbI Zg7 (fun x _=>x.2.2.2.2=true→Zba l x.1 x.2.1 true∧Zba l' x.2.2.1 x.2.2.2.1 true) w e w':=by
 obtain ⟨a,b,a',b',ok,rfl,hS,Q⟩:=h
 exact ⟨(a,b,a',b',ok),rfl,Q,BoxN.pure hS⟩
theorem Zfq {l l':List UInt8} {a b a' b':Int} (h:Zba l a b true∧Zba l' a' b' true) :
 ∃ p q:Rat,valF l=p∧valF l'=q∧p.num=a∧(p.den:Int)=b∧q.num=a'∧(q.den:Int)=b' ∧ -1000000000 < a∧a < 1000000000∧1≤b∧b < 1000000000 ∧ -1000000000 < a'∧a' < 1000000000∧1≤b'∧b' < 1000000000:=by
 obtain ⟨p,h1,h2,h3,h4,h5,h6,h7⟩:=h.1.ok
 obtain ⟨q,k1,k2,k3,k4,k5,k6,k7⟩:=h.2.ok
 exact ⟨p,q,Zfn h1,Zfn k1,h2,h3,k2,k3,h4,h5,h6,h7,k4,k5,k6,k7⟩
theorem Zcx {a b:Int} (h1 : -1000000000 < a) (h2:a < 1000000000) (h3 : -1000000000 < b) (h4:b < 1000000000) : -1000000000000000000≤a * b∧a * b≤1000000000000000000:=by
 have ha:a.natAbs≤1000000000:=by omega
 have hb:b.natAbs≤1000000000:=by omega
 have h:=Nat.mul_le_mul ha hb
 rw [← Int.natAbs_mul] at h
 omega
theorem ZcY {x:Int} (h1 : -9223372036854775808≤x) (h2:x≤9223372036854775807):IntKind.i64.wrap x=x:=by
 rw [IntKind.wrap_i64]
 omega
theorem wAdd {l l':List UInt8} {a b a' b':Int} (h:Zba l a b true∧Zba l' a' b' true) :
 ∃ N D:Int,IntKind.i64.wrap (IntKind.i64.wrap (a * b') + IntKind.i64.wrap (a' * b))=N∧IntKind.i64.wrap (b * b')=D∧1≤D∧N.natAbs≤4000000000000000000∧D.natAbs≤4000000000000000000∧Rat.divInt N D=valF l + valF l':=by
 obtain ⟨p,q,rfl,rfl,e1,e2,e3,e4,b1,b2,b3,b4,b5,b6,b7,b8⟩:=Zfq h
 have m1:=Zcx b1 b2 (show -1000000000 < b' by omega) b8
 have m2:=Zcx b5 b6 (show -1000000000 < b by omega) b4
 have m3:=Zcx (show -1000000000 < b by omega) b4 (show -1000000000 < b' by omega) b8
 have m4:1≤b * b':=Int.mul_pos (by omega) (by omega)
 refine ⟨_,_,rfl,rfl,?_⟩
 rw [ZcY (x:=a * b') (by omega) (by omega),ZcY (x:=a' * b) (by omega) (by omega),ZcY (x:=b * b') (by omega) (by omega),ZcY (by omega) (by omega)]
 refine ⟨m4,by omega,by omega,?_⟩
 rw [← e1,← e2,← e3,← e4]
 exact Zg3 _ _
theorem wMul {l l':List UInt8} {a b a' b':Int} (h:Zba l a b true∧Zba l' a' b' true) :
 ∃ N D:Int,IntKind.i64.wrap (a * a')=N∧IntKind.i64.wrap (b * b')=D∧1≤D∧N.natAbs≤4000000000000000000∧D.natAbs≤4000000000000000000∧Rat.divInt N D=valF l * valF l':=by
 obtain ⟨p,q,rfl,rfl,e1,e2,e3,e4,b1,b2,b3,b4,b5,b6,b7,b8⟩:=Zfq h
 have m1:=Zcx b1 b2 b5 b6
 have m3:=Zcx (show -1000000000 < b by omega) b4 (show -1000000000 < b' by omega) b8
 have m4:1≤b * b':=Int.mul_pos (by omega) (by omega)
 refine ⟨_,_,rfl,rfl,?_⟩
 rw [ZcY (x:=a * a') (by omega) (by omega),ZcY (x:=b * b') (by omega) (by omega)]
 refine ⟨m4,by omega,by omega,?_⟩
 rw [← e1,← e2,← e3,← e4]
 exact Zk3 _ _
theorem wDiv {l l':List UInt8} {a b a' b':Int} (h:Zba l a b true∧Zba l' a' b' true) (h0:a'≠0) :
 ∃ N D:Int,IntKind.i64.wrap (a * b')=N∧IntKind.i64.wrap (b * a')=D∧D≠0∧N.natAbs≤4000000000000000000∧D.natAbs≤4000000000000000000∧Rat.divInt N D=valF l / valF l':=by
 obtain ⟨p,q,rfl,rfl,e1,e2,e3,e4,b1,b2,b3,b4,b5,b6,b7,b8⟩:=Zfq h
 have m1:=Zcx b1 b2 (show -1000000000 < b' by omega) b8
 have m3:=Zcx (show -1000000000 < b by omega) b4 b5 b6
 have m4:b * a'≠0:=Int.mul_ne_zero (by omega) h0
 refine ⟨_,_,rfl,rfl,?_⟩
 rw [ZcY (x:=a * b') (by omega) (by omega),ZcY (x:=b * a') (by omega) (by omega)]
 refine ⟨m4,by omega,by omega,?_⟩
 rw [← e1,← e2,← e3,← e4]
 exact Zk4 _ _
theorem wCmp {l l':List UInt8} {a b a' b':Int} (h:Zba l a b true∧Zba l' a' b' true):cmpI (IntKind.i64.wrap (a * b')) (IntKind.i64.wrap (a' * b))=(valF l - valF l').num.sign:=by
 obtain ⟨p,q,rfl,rfl,e1,e2,e3,e4,b1,b2,b3,b4,b5,b6,b7,b8⟩:=Zfq h
 have m1:=Zcx b1 b2 (show -1000000000 < b' by omega) b8
 have m2:=Zcx b5 b6 (show -1000000000 < b by omega) b4
 rw [ZcY (x:=a * b') (by omega) (by omega),ZcY (x:=a' * b) (by omega) (by omega),← e1,← e2,← e3,← e4]
 exact Zcv _ _
theorem Zo5 {p q:Rat} (hp:Zbj p 30) (hq:Zbj q 30):Zbc (p + q).num.natAbs∧Zbc (p + q).den:=by
 have e:mkRat (p.num * q.den + q.num * p.den) (p.den * q.den)=p + q:=by rw [← Zg3,← Int.natCast_mul]; rfl
 obtain ⟨k1,k2⟩:=ZdV (p.num * q.den + q.num * p.den) (p.den * q.den) (Nat.mul_ne_zero p.den_nz q.den_nz)
 rw [e] at k1 k2
 have h1:=wlq (y:=((Nat.gcd (p.num * q.den + q.num * p.den).natAbs (p.den * q.den):Nat):Int)) (wla (a:=60) (wlm hp.1 (wlc hq.2)) (wlm hq.1 (wlc hp.2)))
 have h2:=Zdl p.den q.den
 have h3:wl (p.den * q.den)≤60:=by have:=hp.2; have:=hq.2; omega
 have h4:=wld (m:=Nat.gcd (p.num * q.den + q.num * p.den).natAbs (p.den * q.den)) h3
 unfold Zbc
 rw [k1,k2]
 omega
theorem Zl4 {p q:Rat} (hp:Zbj p 30) (hq:Zbj q 30):Zbc (p * q).num.natAbs∧Zbc (p * q).den:=by
 obtain ⟨k1,k2⟩:=Zgg p q
 have h1:=wlm (wlq (y:=((Int.gcd p.num q.den:Nat):Int)) hp.1) (wlq (y:=((Int.gcd q.num p.den:Nat):Int)) hq.1)
 have h2:=Zdl (p.den / Int.gcd q.num p.den) (q.den / Int.gcd p.num q.den)
 have h3:=wld (m:=Int.gcd q.num p.den) hp.2
 have h4:=wld (m:=Int.gcd p.num q.den) hq.2
 unfold Zbc
 rw [k1,k2]
 omega
theorem Zo6 {p q:Rat} (hp:Zbj p 30) (hq:Zbj q 30):Zbc (p / q).num.natAbs∧Zbc (p / q).den:=by
 rw [Rat.div_def]; exact Zl4 hp hq.inv
theorem Zoj (s t:ByteArray) (w:World) (hg:Glob w) (hs:(bytes s).length≤570) (ht:(bytes t).length≤570) :
 Calls Tryz.prog 60 #[.string s, .string t] w (RetV w (.string ⟨(Zan (valF (bytes s) + valF (bytes t))).toArray⟩)):=by
 have hs8:s.size≤1099511627776:=by rw [Zaj] at hs; omega
 have ht8:t.size≤1099511627776:=by rw [Zaj] at ht; omega
 have fa:=ZcG hs
 have fb:=ZcG ht
 have hP:=Zo5 fa fb
 refine ZaA (Φ:=fun w=>Glob w) Tryz.func60 rfl (by kernel_rfl) (fun w' hf=>hg.ext hf) ?_
 refine Zac (Zab (xr 1 [(0, .v (.string s)),(1, .v (.string t)),(4, .v (.string ⟨#[]⟩))] [] ?_))
 refine xe (Zaa (Zac (Zac (Zab (xr 2 [(0, .v (.string s)),(1, .v (.string t)),(4, .v (.string ⟨#[]⟩)),(9, .v (.string s)),(10, .v (.string t))] [] ?_)))))
 refine xc 128 [.string s, .string t] 11 Zg7 _ (fun w R Q=>(Zem s t _ hs8 ht8).mono (fun _ _=>Zfp)) (fun xx=>?_)
 obtain ⟨x10,y10,u10,v10,ok10⟩:=xx
 cases ok10
 ·refine xr 9 [(0, .v (.string s)),(1, .v (.string t)),(4, .v (.string ⟨#[]⟩)),(5, .p 5 0),(6, .p 6 0),(7, .v (.bool false))] [(6,226,[.v (.int .i64 u10), .v (.int .i64 v10)]),(5,226,[.v (.int .i64 x10), .v (.int .i64 y10)])] ?_
  refine xe (Zaa (Zac (Zab (xr 1 [(0, .v (.string s)),(1, .v (.string t)),(4, .v (.string ⟨#[]⟩)),(5, .p 5 0),(6, .p 6 0),(15, .v (.bool false))] [(6,226,[.v (.int .i64 u10), .v (.int .i64 v10)]),(5,226,[.v (.int .i64 x10), .v (.int .i64 y10)])] ?_))))
  refine xe (Zaa (xb (Zax (Zaa (Zac (Zab (xr 1 [(1, .v (.string t)),(4, .v (.string ⟨#[]⟩)),(33, .v (.string s))] [] ?_)))))))
  refine xc 130 [.string s] 34 Zbf _ (fun w R Q=>(Zcb s _ Q.1 (Zct.of_len hs)).mono (fun _ _=>ZaK)) (fun xx=>?_)
  obtain ⟨s11,A11,l11,c11,t11,B11,m11,d11⟩:=xx
  refine xr 1 [(4, .v (.string ⟨#[]⟩)),eR4 34 s11 A11 l11 c11 t11 B11 m11 d11,(35, .v (.string t))] [] ?_
  refine xc 130 [.string t] 36 Zbf _ (fun w R Q=>(Zcb t _ Q.1.1 (Zct.of_len ht)).mono (fun _ _=>ZaK)) (fun xx=>?_)
  obtain ⟨s12,A12,l12,c12,t12,B12,m12,d12⟩:=xx
  refine xr 0 [(4, .v (.string ⟨#[]⟩)),eR4 34 s11 A11 l11 c11 t11 B11 m11 d11,eR4 36 s12 A12 l12 c12 t12 B12 m12 d12] [] ?_
  refine xc 133 [vR4 s11 A11 l11 c11 t11 B11 m11 d11,vR4 s12 A12 l12 c12 t12 B12 m12 d12] 37 Zbf _ (fun w R Q=>(Zoi _ _ (valF (bytes s)) (valF (bytes t)) _ Q.1.1.1 Q.1.2 Q.2 (fa.up (by decide)) (fb.up (by decide))).mono (fun _ _=>ZaK)) (fun xx=>?_)
  obtain ⟨s13,A13,l13,c13,t13,B13,m13,d13⟩:=xx
  refine xr 0 [(4, .v (.string ⟨#[]⟩)),eR4 37 s13 A13 l13 c13 t13 B13 m13 d13] [] ?_
  refine xc 58 [vR4 s13 A13 l13 c13 t13 B13 m13 d13] 38 (fun _:Unit=>.string ⟨(Zan (valF (bytes s) + valF (bytes t))).toArray⟩) _ (fun w R Q=>(ZcX _ (valF (bytes s) + valF (bytes t)) _ Q.1.1.1.1 Q.2 hP.1 hP.2).mono (fun _ _ h=>Zae h rfl)) (fun xx=>?_)
  refine xr 1 [(4, .v (.string ⟨(Zan (valF (bytes s) + valF (bytes t))).toArray⟩))] [] ?_
  refine xe (Zaa (Zas ?_))
  refine Zam (v:=.string ⟨(Zan (valF (bytes s) + valF (bytes t))).toArray⟩) (by kernel_rfl) (fun w' R Q=>?_)
  exact ⟨rfl,R⟩
 ·refine xr 9 [(0, .v (.string s)),(1, .v (.string t)),(4, .v (.string ⟨#[]⟩)),(5, .p 5 0),(6, .p 6 0),(7, .v (.bool true))] [(6,226,[.v (.int .i64 u10), .v (.int .i64 v10)]),(5,226,[.v (.int .i64 x10), .v (.int .i64 y10)])] ?_
  refine xe (Zaa (Zac (Zab (xr 1 [(0, .v (.string s)),(1, .v (.string t)),(4, .v (.string ⟨#[]⟩)),(5, .p 5 0),(6, .p 6 0),(15, .v (.bool true))] [(6,226,[.v (.int .i64 u10), .v (.int .i64 v10)]),(5,226,[.v (.int .i64 x10), .v (.int .i64 y10)])] ?_))))
  refine xe (Zaa (xa (Zac (Zab (xr 16 [(0, .v (.string s)),(1, .v (.string t)),(4, .v (.string ⟨#[]⟩)),(26, .v (.int .i64 (IntKind.i64.wrap ((IntKind.i64.wrap (x10 * v10)) + (IntKind.i64.wrap (u10 * y10)))))),(31, .v (.int .i64 (IntKind.i64.wrap (y10 * v10))))] [] ?_)))))
  refine xc 129 [.int .i64 (IntKind.i64.wrap ((IntKind.i64.wrap (x10 * v10)) + (IntKind.i64.wrap (u10 * y10)))), .int .i64 (IntKind.i64.wrap (y10 * v10))] 32 (fun _:Unit=>.string ⟨(Zan (valF (bytes s) + valF (bytes t))).toArray⟩) _ (fun w R Q=>by obtain ⟨N,D,e1,e2,d0,n1,n2,e3⟩:=wAdd (Q.2 rfl); rw [e1,e2]; exact (ZdW N D _ _ Q.1 n1 n2 (by omega) e3).mono (fun _ _ h=>Zae h rfl)) (fun xx=>?_)
  refine xr 1 [(0, .v (.string s)),(1, .v (.string t)),(4, .v (.string ⟨(Zan (valF (bytes s) + valF (bytes t))).toArray⟩))] [] ?_
  refine xe (Zaa (Zas (Zar ?_)))
  refine Zam (v:=.string ⟨(Zan (valF (bytes s) + valF (bytes t))).toArray⟩) (by kernel_rfl) (fun w' R Q=>?_)
  exact ⟨rfl,R⟩
theorem Zok (s t:ByteArray) (w:World) (hg:Glob w) (hs:(bytes s).length≤570) (ht:(bytes t).length≤570) :
 Calls Tryz.prog 61 #[.string s, .string t] w (RetV w (.string ⟨(Zan (valF (bytes s) * valF (bytes t))).toArray⟩)):=by
 have hs8:s.size≤1099511627776:=by rw [Zaj] at hs; omega
 have ht8:t.size≤1099511627776:=by rw [Zaj] at ht; omega
 have fa:=ZcG hs
 have fb:=ZcG ht
 have hP:=Zl4 fa fb
 refine ZaA (Φ:=fun w=>Glob w) Tryz.func61 rfl (by kernel_rfl) (fun w' hf=>hg.ext hf) ?_
 refine Zac (Zab (xr 1 [(0, .v (.string s)),(1, .v (.string t)),(4, .v (.string ⟨#[]⟩))] [] ?_))
 refine xe (Zaa (Zac (Zac (Zab (xr 2 [(0, .v (.string s)),(1, .v (.string t)),(4, .v (.string ⟨#[]⟩)),(9, .v (.string s)),(10, .v (.string t))] [] ?_)))))
 refine xc 128 [.string s, .string t] 11 Zg7 _ (fun w R Q=>(Zem s t _ hs8 ht8).mono (fun _ _=>Zfp)) (fun xx=>?_)
 obtain ⟨x10,y10,u10,v10,ok10⟩:=xx
 cases ok10
 ·refine xr 9 [(0, .v (.string s)),(1, .v (.string t)),(4, .v (.string ⟨#[]⟩)),(5, .p 5 0),(6, .p 6 0),(7, .v (.bool false))] [(6,226,[.v (.int .i64 u10), .v (.int .i64 v10)]),(5,226,[.v (.int .i64 x10), .v (.int .i64 y10)])] ?_
  refine xe (Zaa (Zac (Zab (xr 1 [(0, .v (.string s)),(1, .v (.string t)),(4, .v (.string ⟨#[]⟩)),(5, .p 5 0),(6, .p 6 0),(15, .v (.bool false))] [(6,226,[.v (.int .i64 u10), .v (.int .i64 v10)]),(5,226,[.v (.int .i64 x10), .v (.int .i64 y10)])] ?_))))
  refine xe (Zaa (xb (Zax (Zaa (Zac (Zab (xr 1 [(1, .v (.string t)),(4, .v (.string ⟨#[]⟩)),(27, .v (.string s))] [] ?_)))))))
  refine xc 130 [.string s] 28 Zbf _ (fun w R Q=>(Zcb s _ Q.1 (Zct.of_len hs)).mono (fun _ _=>ZaK)) (fun xx=>?_)
  obtain ⟨s11,A11,l11,c11,t11,B11,m11,d11⟩:=xx
  refine xr 1 [(4, .v (.string ⟨#[]⟩)),eR4 28 s11 A11 l11 c11 t11 B11 m11 d11,(29, .v (.string t))] [] ?_
  refine xc 130 [.string t] 30 Zbf _ (fun w R Q=>(Zcb t _ Q.1.1 (Zct.of_len ht)).mono (fun _ _=>ZaK)) (fun xx=>?_)
  obtain ⟨s12,A12,l12,c12,t12,B12,m12,d12⟩:=xx
  refine xr 0 [(4, .v (.string ⟨#[]⟩)),eR4 28 s11 A11 l11 c11 t11 B11 m11 d11,eR4 30 s12 A12 l12 c12 t12 B12 m12 d12] [] ?_
  refine xc 134 [vR4 s11 A11 l11 c11 t11 B11 m11 d11,vR4 s12 A12 l12 c12 t12 B12 m12 d12] 31 Zbf _ (fun w R Q=>(Zk8 _ _ (valF (bytes s)) (valF (bytes t)) _ Q.1.1.1 Q.1.2 Q.2 (fa.up (by decide)) (fb.up (by decide))).mono (fun _ _=>ZaK)) (fun xx=>?_)
  obtain ⟨s13,A13,l13,c13,t13,B13,m13,d13⟩:=xx
  refine xr 0 [(4, .v (.string ⟨#[]⟩)),eR4 31 s13 A13 l13 c13 t13 B13 m13 d13] [] ?_
  refine xc 58 [vR4 s13 A13 l13 c13 t13 B13 m13 d13] 32 (fun _:Unit=>.string ⟨(Zan (valF (bytes s) * valF (bytes t))).toArray⟩) _ (fun w R Q=>(ZcX _ (valF (bytes s) * valF (bytes t)) _ Q.1.1.1.1 Q.2 hP.1 hP.2).mono (fun _ _ h=>Zae h rfl)) (fun xx=>?_)
  refine xr 1 [(4, .v (.string ⟨(Zan (valF (bytes s) * valF (bytes t))).toArray⟩))] [] ?_
  refine xe (Zaa (Zas ?_))
  refine Zam (v:=.string ⟨(Zan (valF (bytes s) * valF (bytes t))).toArray⟩) (by kernel_rfl) (fun w' R Q=>?_)
  exact ⟨rfl,R⟩
 ·refine xr 9 [(0, .v (.string s)),(1, .v (.string t)),(4, .v (.string ⟨#[]⟩)),(5, .p 5 0),(6, .p 6 0),(7, .v (.bool true))] [(6,226,[.v (.int .i64 u10), .v (.int .i64 v10)]),(5,226,[.v (.int .i64 x10), .v (.int .i64 y10)])] ?_
  refine xe (Zaa (Zac (Zab (xr 1 [(0, .v (.string s)),(1, .v (.string t)),(4, .v (.string ⟨#[]⟩)),(5, .p 5 0),(6, .p 6 0),(15, .v (.bool true))] [(6,226,[.v (.int .i64 u10), .v (.int .i64 v10)]),(5,226,[.v (.int .i64 x10), .v (.int .i64 y10)])] ?_))))
  refine xe (Zaa (xa (Zac (Zab (xr 10 [(0, .v (.string s)),(1, .v (.string t)),(4, .v (.string ⟨#[]⟩)),(20, .v (.int .i64 (IntKind.i64.wrap (x10 * u10)))),(25, .v (.int .i64 (IntKind.i64.wrap (y10 * v10))))] [] ?_)))))
  refine xc 129 [.int .i64 (IntKind.i64.wrap (x10 * u10)), .int .i64 (IntKind.i64.wrap (y10 * v10))] 26 (fun _:Unit=>.string ⟨(Zan (valF (bytes s) * valF (bytes t))).toArray⟩) _ (fun w R Q=>by obtain ⟨N,D,e1,e2,d0,n1,n2,e3⟩:=wMul (Q.2 rfl); rw [e1,e2]; exact (ZdW N D _ _ Q.1 n1 n2 (by omega) e3).mono (fun _ _ h=>Zae h rfl)) (fun xx=>?_)
  refine xr 1 [(0, .v (.string s)),(1, .v (.string t)),(4, .v (.string ⟨(Zan (valF (bytes s) * valF (bytes t))).toArray⟩))] [] ?_
  refine xe (Zaa (Zas (Zar ?_)))
  refine Zam (v:=.string ⟨(Zan (valF (bytes s) * valF (bytes t))).toArray⟩) (by kernel_rfl) (fun w' R Q=>?_)
  exact ⟨rfl,R⟩
theorem Zo7 (s t:ByteArray) (w:World) (hg:Glob w) (hs:(bytes s).length≤570) (ht:(bytes t).length≤570) (h0:¬ (valF (bytes t)).num=0) :
 Calls Tryz.prog 59 #[.string s, .string t] w (RetV w (.tuple #[.string ⟨(Zan (valF (bytes s) / valF (bytes t))).toArray⟩, .bool true])):=by
 have hs8:s.size≤1099511627776:=by rw [Zaj] at hs; omega
 have ht8:t.size≤1099511627776:=by rw [Zaj] at ht; omega
 have fa:=ZcG hs
 have fb:=ZcG ht
 have hP:=Zo6 fa fb
 refine ZaA (Φ:=fun w=>Glob w) Tryz.func59 rfl (by kernel_rfl) (fun w' hf=>hg.ext hf) ?_
 refine Zac (Zab (xr 2 [(0, .v (.string s)),(1, .v (.string t)),(4, .v (.string ⟨#[]⟩)),(5, .v (.bool false))] [] ?_))
 refine xe (Zaa (Zac (Zac (Zab (xr 2 [(0, .v (.string s)),(1, .v (.string t)),(4, .v (.string ⟨#[]⟩)),(5, .v (.bool false)),(11, .v (.string s)),(12, .v (.string t))] [] ?_)))))
 refine xc 128 [.string s, .string t] 13 Zg7 _ (fun w R Q=>(Zem s t _ hs8 ht8).mono (fun _ _=>Zfp)) (fun xx=>?_)
 obtain ⟨x10,y10,u10,v10,ok10⟩:=xx
 cases ok10
 ·refine xr 9 [(0, .v (.string s)),(1, .v (.string t)),(4, .v (.string ⟨#[]⟩)),(5, .v (.bool false)),(6, .p 6 0),(7, .p 7 0),(8, .v (.bool false))] [(7,226,[.v (.int .i64 u10), .v (.int .i64 v10)]),(6,226,[.v (.int .i64 x10), .v (.int .i64 y10)])] ?_
  refine xe (Zaa (Zac (Zab (xr 6 [(0, .v (.string s)),(1, .v (.string t)),(4, .v (.string ⟨#[]⟩)),(5, .v (.bool false)),(6, .p 6 0),(7, .p 7 0),(22, .v (.bool false))] [(7,226,[.v (.int .i64 u10), .v (.int .i64 v10)]),(6,226,[.v (.int .i64 x10), .v (.int .i64 y10)])] ?_))))
  refine xe (Zaa (xb (Zax (Zaa (Zac (Zab (xr 1 [(0, .v (.string s)),(4, .v (.string ⟨#[]⟩)),(5, .v (.bool false)),(34, .v (.string t))] [] ?_)))))))
  refine xc 130 [.string t] 35 Zbf _ (fun w R Q=>(Zcb t _ Q.1 (Zct.of_len ht)).mono (fun _ _=>ZaK)) (fun xx=>?_)
  obtain ⟨s11,A11,l11,c11,t11,B11,m11,d11⟩:=xx
  refine xr 2 [(0, .v (.string s)),(4, .v (.string ⟨#[]⟩)),(5, .v (.bool false)),(9, .p 9 0)] [bR4 9 142 s11 A11 l11 c11 t11 B11 m11 d11] ?_
  refine xe (Zaa (Zac (Zac (Zab (xr 1 [(0, .v (.string s)),(4, .v (.string ⟨#[]⟩)),(5, .v (.bool false)),(9, .p 9 0),eR4 36 s11 A11 l11 c11 t11 B11 m11 d11] [bR4 9 142 s11 A11 l11 c11 t11 B11 m11 d11] ?_)))))
  refine xc 131 [vR4 s11 A11 l11 c11 t11 B11 m11 d11] 37 (fun _:Unit=>.bool false) _ (fun w R Q=>(ZhQ _ (valF (bytes t)) _ Q.2).mono (fun _ _ h=>Zae h (by rw [decide_eq_false h0]))) (fun xx=>?_)
  refine xr 0 [(0, .v (.string s)),(4, .v (.string ⟨#[]⟩)),(5, .v (.bool false)),(9, .p 9 0),(37, .v (.bool false))] [bR4 9 142 s11 A11 l11 c11 t11 B11 m11 d11] ?_
  refine xe (Zaa (xb (Zax (Zaa (Zac ?_)))))
  refine ZaI 7 (by kernel_rfl) (by kernel_rfl) Zaq ?_
  refine xf 1 [(4, .v (.string ⟨#[]⟩)),(5, .v (.bool false)),(9, .p 9 0),(38, .v (.string s))] [bR4 9 142 s11 A11 l11 c11 t11 B11 m11 d11] ?_
  refine xd 130 [.string s] 39 Zbf _ (fun w R Q=>(Zcb s _ Q.1.1.1 (Zct.of_len hs)).mono (fun _ _=>ZaK)) (fun xx=>?_)
  obtain ⟨s12,A12,l12,c12,t12,B12,m12,d12⟩:=xx
  refine xf 1 [(4, .v (.string ⟨#[]⟩)),(5, .v (.bool false)),eR4 39 s12 A12 l12 c12 t12 B12 m12 d12,eR4 40 s11 A11 l11 c11 t11 B11 m11 d11] [bR4 9 142 s11 A11 l11 c11 t11 B11 m11 d11] ?_
  refine xd 132 [vR4 s12 A12 l12 c12 t12 B12 m12 d12,vR4 s11 A11 l11 c11 t11 B11 m11 d11] 41 Zbf _ (fun w R Q=>(Zla _ _ (valF (bytes s)) (valF (bytes t)) _ Q.1.1.1.1 Q.2 Q.1.1.2 (fa.up (by decide)) (fb.up (by decide))).mono (fun _ _=>ZaK)) (fun xx=>?_)
  obtain ⟨s13,A13,l13,c13,t13,B13,m13,d13⟩:=xx
  refine xf 0 [(4, .v (.string ⟨#[]⟩)),(5, .v (.bool false)),eR4 41 s13 A13 l13 c13 t13 B13 m13 d13] [bR4 9 142 s11 A11 l11 c11 t11 B11 m11 d11] ?_
  refine xd 58 [vR4 s13 A13 l13 c13 t13 B13 m13 d13] 42 (fun _:Unit=>.string ⟨(Zan (valF (bytes s) / valF (bytes t))).toArray⟩) _ (fun w R Q=>(ZcX _ (valF (bytes s) / valF (bytes t)) _ Q.1.1.1.1.1 Q.2 hP.1 hP.2).mono (fun _ _ h=>Zae h rfl)) (fun xx=>?_)
  refine xf 2 [(4, .v (.string ⟨(Zan (valF (bytes s) / valF (bytes t))).toArray⟩)),(5, .v (.bool true))] [bR4 9 142 s11 A11 l11 c11 t11 B11 m11 d11] ?_
  refine xz (xe (Zaa (Zas ?_)))
  refine Zam (v:=.tuple #[.string ⟨(Zan (valF (bytes s) / valF (bytes t))).toArray⟩, .bool true]) (by kernel_rfl) (fun w' R Q=>?_)
  exact ⟨rfl,R⟩
 ·refine xr 9 [(0, .v (.string s)),(1, .v (.string t)),(4, .v (.string ⟨#[]⟩)),(5, .v (.bool false)),(6, .p 6 0),(7, .p 7 0),(8, .v (.bool true))] [(7,226,[.v (.int .i64 u10), .v (.int .i64 v10)]),(6,226,[.v (.int .i64 x10), .v (.int .i64 y10)])] ?_
  refine xe (Zaa (Zac (Zab (xr 6 [(0, .v (.string s)),(1, .v (.string t)),(4, .v (.string ⟨#[]⟩)),(5, .v (.bool false)),(6, .p 6 0),(7, .p 7 0),(22, .v (.bool ((u10:Int) != 0)))] [(7,226,[.v (.int .i64 u10), .v (.int .i64 v10)]),(6,226,[.v (.int .i64 x10), .v (.int .i64 y10)])] ?_))))
  refine xe (Zaa ?_)
  refine Zhp (((u10:Int) != 0)) (by kernel_rfl) (fun hb14=>?_) (fun hb14=>?_)
  ·refine Zac (Zab (xr 10 [(0, .v (.string s)),(1, .v (.string t)),(4, .v (.string ⟨#[]⟩)),(5, .v (.bool false)),(27, .v (.int .i64 (IntKind.i64.wrap (x10 * v10)))),(32, .v (.int .i64 (IntKind.i64.wrap (y10 * u10))))] [] ?_))
   refine xc 129 [.int .i64 (IntKind.i64.wrap (x10 * v10)), .int .i64 (IntKind.i64.wrap (y10 * u10))] 33 (fun _:Unit=>.string ⟨(Zan (valF (bytes s) / valF (bytes t))).toArray⟩) _ (fun w R Q=>by obtain ⟨N,D,e1,e2,d0,n1,n2,e3⟩:=wDiv (Q.2 rfl) (by rw [bne_iff_ne] at hb14; exact hb14); rw [e1,e2]; exact (ZdW N D _ _ Q.1 n1 n2 d0 e3).mono (fun _ _ h=>Zae h rfl)) (fun xx=>?_)
   refine xr 2 [(0, .v (.string s)),(1, .v (.string t)),(4, .v (.string ⟨(Zan (valF (bytes s) / valF (bytes t))).toArray⟩)),(5, .v (.bool true))] [] ?_
   refine xe (Zaa (Zas (Zar ?_)))
   refine Zam (v:=.tuple #[.string ⟨(Zan (valF (bytes s) / valF (bytes t))).toArray⟩, .bool true]) (by kernel_rfl) (fun w' R Q=>?_)
   exact ⟨rfl,R⟩
  ·refine Zax (Zaa (Zac (Zab (xr 1 [(0, .v (.string s)),(4, .v (.string ⟨#[]⟩)),(5, .v (.bool false)),(34, .v (.string t))] [] ?_))))
   refine xc 130 [.string t] 35 Zbf _ (fun w R Q=>(Zcb t _ Q.1 (Zct.of_len ht)).mono (fun _ _=>ZaK)) (fun xx=>?_)
   obtain ⟨s15,A15,l15,c15,t15,B15,m15,d15⟩:=xx
   refine xr 2 [(0, .v (.string s)),(4, .v (.string ⟨#[]⟩)),(5, .v (.bool false)),(9, .p 9 0)] [bR4 9 142 s15 A15 l15 c15 t15 B15 m15 d15] ?_
   refine xe (Zaa (Zac (Zac (Zab (xr 1 [(0, .v (.string s)),(4, .v (.string ⟨#[]⟩)),(5, .v (.bool false)),(9, .p 9 0),eR4 36 s15 A15 l15 c15 t15 B15 m15 d15] [bR4 9 142 s15 A15 l15 c15 t15 B15 m15 d15] ?_)))))
   refine xc 131 [vR4 s15 A15 l15 c15 t15 B15 m15 d15] 37 (fun _:Unit=>.bool false) _ (fun w R Q=>(ZhQ _ (valF (bytes t)) _ Q.2).mono (fun _ _ h=>Zae h (by rw [decide_eq_false h0]))) (fun xx=>?_)
   refine xr 0 [(0, .v (.string s)),(4, .v (.string ⟨#[]⟩)),(5, .v (.bool false)),(9, .p 9 0),(37, .v (.bool false))] [bR4 9 142 s15 A15 l15 c15 t15 B15 m15 d15] ?_
   refine xe (Zaa (xb (Zax (Zaa (Zac ?_)))))
   refine ZaI 7 (by kernel_rfl) (by kernel_rfl) Zaq ?_
   refine xf 1 [(4, .v (.string ⟨#[]⟩)),(5, .v (.bool false)),(9, .p 9 0),(38, .v (.string s))] [bR4 9 142 s15 A15 l15 c15 t15 B15 m15 d15] ?_
   refine xd 130 [.string s] 39 Zbf _ (fun w R Q=>(Zcb s _ Q.1.1.1 (Zct.of_len hs)).mono (fun _ _=>ZaK)) (fun xx=>?_)
   obtain ⟨s16,A16,l16,c16,t16,B16,m16,d16⟩:=xx
   refine xf 1 [(4, .v (.string ⟨#[]⟩)),(5, .v (.bool false)),eR4 39 s16 A16 l16 c16 t16 B16 m16 d16,eR4 40 s15 A15 l15 c15 t15 B15 m15 d15] [bR4 9 142 s15 A15 l15 c15 t15 B15 m15 d15] ?_
   refine xd 132 [vR4 s16 A16 l16 c16 t16 B16 m16 d16,vR4 s15 A15 l15 c15 t15 B15 m15 d15] 41 Zbf _ (fun w R Q=>(Zla _ _ (valF (bytes s)) (valF (bytes t)) _ Q.1.1.1.1 Q.2 Q.1.1.2 (fa.up (by decide)) (fb.up (by decide))).mono (fun _ _=>ZaK)) (fun xx=>?_)
   obtain ⟨s17,A17,l17,c17,t17,B17,m17,d17⟩:=xx
   refine xf 0 [(4, .v (.string ⟨#[]⟩)),(5, .v (.bool false)),eR4 41 s17 A17 l17 c17 t17 B17 m17 d17] [bR4 9 142 s15 A15 l15 c15 t15 B15 m15 d15] ?_
   refine xd 58 [vR4 s17 A17 l17 c17 t17 B17 m17 d17] 42 (fun _:Unit=>.string ⟨(Zan (valF (bytes s) / valF (bytes t))).toArray⟩) _ (fun w R Q=>(ZcX _ (valF (bytes s) / valF (bytes t)) _ Q.1.1.1.1.1 Q.2 hP.1 hP.2).mono (fun _ _ h=>Zae h rfl)) (fun xx=>?_)
   refine xf 2 [(4, .v (.string ⟨(Zan (valF (bytes s) / valF (bytes t))).toArray⟩)),(5, .v (.bool true))] [bR4 9 142 s15 A15 l15 c15 t15 B15 m15 d15] ?_
   refine xz (xe (Zaa (Zas ?_)))
   refine Zam (v:=.tuple #[.string ⟨(Zan (valF (bytes s) / valF (bytes t))).toArray⟩, .bool true]) (by kernel_rfl) (fun w' R Q=>?_)
   exact ⟨rfl,R⟩
theorem Zlg (s t:ByteArray) (w:World) (hg:Glob w) (hs:(bytes s).length≤570) (ht:(bytes t).length≤570) :
 Calls Tryz.prog 62 #[.string s, .string t] w (RetV w (.int .i64 (valF (bytes s) - valF (bytes t)).num.sign)):=by
 have hs8:s.size≤1099511627776:=by rw [Zaj] at hs; omega
 have ht8:t.size≤1099511627776:=by rw [Zaj] at ht; omega
 have fa:=ZcG hs
 have fb:=ZcG ht
 refine ZaA (Φ:=fun w=>Glob w) Tryz.func62 rfl (by kernel_rfl) (fun w' hf=>hg.ext hf) ?_
 refine Zac (Zab (xr 1 [(0, .v (.string s)),(1, .v (.string t)),(4, .v (.int .i64 0))] [] ?_))
 refine xe (Zaa (Zac (Zac (Zab (xr 2 [(0, .v (.string s)),(1, .v (.string t)),(4, .v (.int .i64 0)),(9, .v (.string s)),(10, .v (.string t))] [] ?_)))))
 refine xc 128 [.string s, .string t] 11 Zg7 _ (fun w R Q=>(Zem s t _ hs8 ht8).mono (fun _ _=>Zfp)) (fun xx=>?_)
 obtain ⟨x10,y10,u10,v10,ok10⟩:=xx
 cases ok10
 ·refine xr 9 [(0, .v (.string s)),(1, .v (.string t)),(4, .v (.int .i64 0)),(5, .p 5 0),(6, .p 6 0),(7, .v (.bool false))] [(6,226,[.v (.int .i64 u10), .v (.int .i64 v10)]),(5,226,[.v (.int .i64 x10), .v (.int .i64 y10)])] ?_
  refine xe (Zaa (Zac (Zab (xr 1 [(0, .v (.string s)),(1, .v (.string t)),(4, .v (.int .i64 0)),(5, .p 5 0),(6, .p 6 0),(15, .v (.bool false))] [(6,226,[.v (.int .i64 u10), .v (.int .i64 v10)]),(5,226,[.v (.int .i64 x10), .v (.int .i64 y10)])] ?_))))
  refine xe (Zaa (xb (Zax (Zaa (Zac (Zab (xr 1 [(1, .v (.string t)),(4, .v (.int .i64 0)),(27, .v (.string s))] [] ?_)))))))
  refine xc 130 [.string s] 28 Zbf _ (fun w R Q=>(Zcb s _ Q.1 (Zct.of_len hs)).mono (fun _ _=>ZaK)) (fun xx=>?_)
  obtain ⟨s11,A11,l11,c11,t11,B11,m11,d11⟩:=xx
  refine xr 1 [(4, .v (.int .i64 0)),eR4 28 s11 A11 l11 c11 t11 B11 m11 d11,(29, .v (.string t))] [] ?_
  refine xc 130 [.string t] 30 Zbf _ (fun w R Q=>(Zcb t _ Q.1.1 (Zct.of_len ht)).mono (fun _ _=>ZaK)) (fun xx=>?_)
  obtain ⟨s12,A12,l12,c12,t12,B12,m12,d12⟩:=xx
  refine xr 0 [(4, .v (.int .i64 0)),eR4 28 s11 A11 l11 c11 t11 B11 m11 d11,eR4 30 s12 A12 l12 c12 t12 B12 m12 d12] [] ?_
  refine xc 136 [vR4 s11 A11 l11 c11 t11 B11 m11 d11,vR4 s12 A12 l12 c12 t12 B12 m12 d12] 31 (fun _:Unit=>.int .i64 (valF (bytes s) - valF (bytes t)).num.sign) _ (fun w R Q=>(Zlb _ _ (valF (bytes s)) (valF (bytes t)) _ Q.1.2 Q.2 (fa.up (by decide)) (fb.up (by decide))).mono (fun _ _ h=>Zae h rfl)) (fun xx=>?_)
  refine xr 1 [(4, .v (.int .i64 (valF (bytes s) - valF (bytes t)).num.sign))] [] ?_
  refine xe (Zaa (Zas ?_))
  refine Zam (v:=.int .i64 (valF (bytes s) - valF (bytes t)).num.sign) (by kernel_rfl) (fun w' R Q=>?_)
  exact ⟨rfl,R⟩
 ·refine xr 9 [(0, .v (.string s)),(1, .v (.string t)),(4, .v (.int .i64 0)),(5, .p 5 0),(6, .p 6 0),(7, .v (.bool true))] [(6,226,[.v (.int .i64 u10), .v (.int .i64 v10)]),(5,226,[.v (.int .i64 x10), .v (.int .i64 y10)])] ?_
  refine xe (Zaa (Zac (Zab (xr 1 [(0, .v (.string s)),(1, .v (.string t)),(4, .v (.int .i64 0)),(5, .p 5 0),(6, .p 6 0),(15, .v (.bool true))] [(6,226,[.v (.int .i64 u10), .v (.int .i64 v10)]),(5,226,[.v (.int .i64 x10), .v (.int .i64 y10)])] ?_))))
  refine xe (Zaa (xa (Zac (Zab (xr 10 [(0, .v (.string s)),(1, .v (.string t)),(4, .v (.int .i64 0)),(20, .v (.int .i64 (IntKind.i64.wrap (x10 * v10)))),(25, .v (.int .i64 (IntKind.i64.wrap (u10 * y10))))] [] ?_)))))
  refine xc 135 [.int .i64 (IntKind.i64.wrap (x10 * v10)), .int .i64 (IntKind.i64.wrap (u10 * y10))] 26 (fun _:Unit=>.int .i64 (valF (bytes s) - valF (bytes t)).num.sign) _ (fun w R Q=>by rw [← wCmp (Q.2 rfl)]; exact (Zi3 _ _ _).mono (fun _ _ h=>Zae (v:=_) ⟨h.1,h.2 ▸ Fr.refl _ _⟩ rfl)) (fun xx=>?_)
  refine xr 1 [(0, .v (.string s)),(1, .v (.string t)),(4, .v (.int .i64 (valF (bytes s) - valF (bytes t)).num.sign))] [] ?_
  refine xe (Zaa (Zas (Zar ?_)))
  refine Zam (v:=.int .i64 (valF (bytes s) - valF (bytes t)).num.sign) (by kernel_rfl) (fun w' R Q=>?_)
  exact ⟨rfl,R⟩
end Go.Proofs.YtcpjeaaapocoeaaGreatDoor

namespace Go.Proofs.YtcpjeaaapocoeaaGreatDoor
open Go.RowKit
theorem Zik (l:List UInt8):bytes ⟨l.toArray⟩=l:=by simp [bytes]
end Go.Proofs.YtcpjeaaapocoeaaGreatDoor

namespace Go.Proofs.YtcpjeaaapocoeaaGreatDoor
open Go.RowKit
theorem ZmC {q:Rat} {n d:Int} (hd:d≠0) (h:Rat.divInt n d=q):q.num * d=n * q.den:=by
 have h1:=(Rat.divInt_eq_divInt_iff (denI q) hd (n₁:=q.num) (n₂:=n)).1 (by rw [Rat.num_divInt_den,h])
 exact h1
end Go.Proofs.YtcpjeaaapocoeaaGreatDoor

namespace Go.Proofs.YtcpjeaaapocoeaaGreatDoor
open Go.RowKit
theorem ZmD {q:Rat} {n d:Int} {k:Nat} (hd:d≠0) (h:Rat.divInt n d=q) (h1:n.natAbs < 10 ^ k) (h2:d.natAbs < 10 ^ k):q.num.natAbs < 10 ^ k∧q.den < 10 ^ k:=by
 have hc:=ZmC hd h
 have hn:q.num.natAbs * d.natAbs=n.natAbs * q.den:=by
  have:=congrArg Int.natAbs hc
  rwa [Int.natAbs_mul,Int.natAbs_mul,Int.natAbs_natCast] at this
 have hcop:=q.reduced
 have hd1:q.den ∣ d.natAbs:=(Nat.Coprime.symm hcop).dvd_of_dvd_mul_left ⟨n.natAbs,by rw [hn,Nat.mul_comm]⟩
 have hd0:0 < d.natAbs:=by omega
 have hde:=Nat.le_of_dvd hd0 hd1
 refine ⟨?_,by omega⟩
 have hn1:q.num.natAbs ∣ n.natAbs:=hcop.dvd_of_dvd_mul_right ⟨d.natAbs,hn.symm⟩
 rcases Nat.eq_zero_or_pos n.natAbs with e | e
 ·rw [e,Nat.zero_mul] at hn
  rcases Nat.mul_eq_zero.1 hn with e2 | e2
  ·rw [e2]; exact Nat.pow_pos (by omega)
  ·omega
 ·have:=Nat.le_of_dvd e hn1; omega
section
variable {s t:ByteArray} {p q r:Rat} {w:World}
end
end Go.Proofs.YtcpjeaaapocoeaaGreatDoor

namespace Go.Proofs.YtcpjeaaapocoeaaGreatDoor
open Go.RowKit
section
variable {w w':World} {e:Ending} {s:ByteArray}
theorem Zgk (h:ZkQ s w e w'):ZbI (fun x:ByteArray × Bool=>.tuple #[.string x.1, .bool x.2]) (fun x _=>ZaU (bytes s)=(x.2,bytes x.1)) w e w':=by
 obtain ⟨r,neg,rfl,h,rfl⟩:=h
 exact ⟨(r,neg),rfl,Fr.refl _ _,BoxN.pure h⟩
theorem Zgl (h:Znj s w e w'):ZbI (fun x:ByteArray × ByteArray=>.tuple #[.string x.1, .string x.2]) (fun x _=>bytes x.1=(bytes s).takeWhile Zao∧bytes x.2=(bytes s).dropWhile Zao) w e w':=by
 obtain ⟨t,u,rfl,h1,h2,n,rfl⟩:=h
 exact ⟨(t,u),rfl,(Fr.refl _ _).drewN n,BoxN.pure ⟨h1,h2⟩⟩
end
theorem Zcc {a b:ByteArray} (h:bytes a=bytes b):a=b:=by
 cases a with | mk a=>cases b with | mk b=>simp only [bytes] at h; rw [Array.toList_inj.1 h]
def e4:Nat:=400
theorem Zkl {z:Int} (h:z.natAbs < 10 ^ e4):(-z).natAbs < 10 ^ e4:=by rw [Int.natAbs_neg]; exact h
theorem p4pw (k:Nat) (hk:k=400):10 ^ k≤W64 ^ 30:=by
 obtain ⟨a,rfl,ha⟩:∃ a,k=a + a∧a=200:=⟨200,by omega,rfl⟩
 have h1:10 ^ a≤W64 ^ 15:=by subst ha; rw [Zal]; decide
 rw [Nat.pow_add,show (30:Nat)=15 + 15 from rfl,Nat.pow_add]
 exact Nat.mul_le_mul h1 h1
theorem Zkm {n:Nat} (h:n < 10 ^ e4):wl n≤30:=ZaC.2 (Nat.lt_of_lt_of_le h (p4pw e4 rfl))
theorem p4w {z:Int} (h:z.natAbs < 10 ^ e4):wl z.natAbs≤79:=Nat.le_trans (Zkm h) (by decide)
theorem p4lt {z:Int} (h:z.natAbs < 10 ^ e4):wl z.natAbs < 80:=Nat.lt_of_le_of_lt (Zkm h) (by decide)
theorem Zou {z:Int} (h:z.natAbs < 10 ^ e4):Fits z:=by have:=Zkm h; unfold Fits; omega
theorem Zov {x:ByteArray} (h:(bytes x).length≤400):Zdg x.size:=by unfold Zdg; rw [← Zaj]; omega
theorem Zow {x y:Int} (hy:¬ y=0) (hx:x.natAbs < 10 ^ e4) (h:y.natAbs < 10 ^ e4):Zbc (Rat.divInt x y).num.natAbs∧Zbc (Rat.divInt x y).den:=by
 have e:∀ n:Nat,n < 10 ^ e4→Zbc n:=fun n hn=>by have:=Zkm hn; unfold Zbc; omega
 obtain ⟨h1,h2⟩:=ZmD hy rfl hx h
 exact ⟨e _ h1,e _ h2⟩
end Go.Proofs.YtcpjeaaapocoeaaGreatDoor

namespace Go.Proofs.YtcpjeaaapocoeaaGreatDoor
open Go.RowKit
theorem Zg8 {d:ByteArray} (hd:(bytes d).all Zao=true) (hl:d.size≤10000):wl (Zaf (bytes d))≤10000 :=
 Zd6 (by have:=ZbE (bytes d) hd; rw [Zaj] at this; exact this) hl
theorem Zol {l:List UInt8} (n:Nat) (h:l.all Zao=true):(l.take n).all Zao=true:=by
 rw [List.all_eq_true] at h ⊢; exact fun x hx=>h x (List.mem_of_mem_take hx)
theorem Zom {l:List UInt8} (n:Nat) (h:l.all Zao=true):(l.drop n).all Zao=true:=by
 rw [List.all_eq_true] at h ⊢; exact fun x hx=>h x (List.mem_of_mem_drop hx)
theorem Zil {w w':World} {b o:Nat} {x:Option Value} (hb:b < w.heap.size) (Q:Ext w w') (h:w.cell? ⟨b,o,none⟩=x):w'.cell? ⟨b,o,none⟩=x:=(Q.cell (p:=⟨b,o,none⟩) hb (fun f=>f)).trans h
set_option maxHeartbeats 4000000 in
theorem Zfr (L:Nat) (ih:∀ k,k < L→∀ (d:ByteArray) (P:Option Addr) (c:Nat) (w:World),(bytes d).all Zao=true→d.size≤10000→ZbY w P k→k≤c→k≤10→Calls Tryz.prog 227 #[.string d, .slice P k c] w (Za0 w (Zaf (bytes d))))
 (d:ByteArray) (P:Option Addr) (c:Nat) (w:World) (hd:(bytes d).all Zao=true) (hl:d.size≤10000) (hP:ZbY w P L) (hc:L≤c) (hL:L≤10) :
 Calls Tryz.prog 227 #[.string d, .slice P L c] w (Za0 w (Zaf (bytes d))):=by
 have hw:=Zg8 hd hl
 generalize hT:Zaf (bytes d)=T at *
 have HS:=zh (Zfj d w T hd hT (by omega) (by omega))
 have HD:=zh hd
 have HT:=zh hT
 have HP:=zh hP
 have HI:=zh ih
 obtain ⟨n,hn⟩:∃ n,d.size=n:=⟨_,rfl⟩
 have Hn:=zh hn
 have hl2:n≤10000:=by omega
 clear hd hT hw hP ih
 go_enter Tryz.func227,Tryz.ntmps227
 go_wp2
 go_loop [5] (fun v=>∃ k:Nat,k≤L∧v=.int .i64 ((k:Int) - 1)) (fun v=>(intOf v + 1).toNat)
 case atStart=>exact ⟨L,Nat.le_refl _,rfl⟩
 case round =>
  obtain ⟨k,hk,rfl⟩:=hrel
  rcases k with _ | j
  ·rw [show ((0:Nat):Int) - 1 = -1 from rfl]
   clear hk
   go_wp2_with fail
   refine HS.out.mono ?_
   rintro e w1 ⟨u1,rfl,hN,hF⟩
   have HN:=zh hN
   have HF:=zh hF
   clear hN hF
   go_wp2
   go_ret
   exact ⟨_,rfl,HN.out,HF.out⟩
  ·rw [show ((j + 1:Nat):Int) - 1=(j:Int) by omega]
   have h2j:2 ^ j≤512:=by
    have:2 ^ j≤2 ^ 9:=Nat.pow_le_pow_right (by omega) (by omega)
    omega
   obtain ⟨D,eD⟩:∃ D,19 * 2 ^ j=D:=⟨_,rfl⟩
   have hD1:D≤9728:=by omega
   have hsh:(19 * 2 ^ j:Int)=(D:Int):=by rw [← eD]; simp
   have hsh2:IntKind.i64.wrap (D:Int)=(D:Int):=IntWalk.i64_in _ (by omega)
   have HeD:=zh eD
   clear eD h2j
   by_cases hgo:n≤D
   ·go_wp2
    go_round
    case rel=>exact ⟨j,by omega,by go_num⟩
    case measure=>simp [intOf]
   ·have hgo1:¬ ((n:Int)≤(D:Int)):=by omega
    by_cases h570:n≤570
    ·go_wp2_with fail
     refine HS.out.mono ?_
     rintro e w1 ⟨u1,rfl,hN,hF⟩
     have HN:=zh hN
     have HF:=zh hF
     clear hN hF
     go_wp2
     go_ret
     exact ⟨_,rfl,HN.out,HF.out⟩
    ·obtain ⟨s,hs⟩:∃ s,n - D=s:=⟨_,rfl⟩
     have e6:(n:Int) - (D:Int)=(s:Int):=by omega
     have e7:IntKind.i64.wrap (s:Int)=(s:Int):=IntWalk.i64_in _ (by omega)
     have hsn:s≤n:=by omega
     have hjc:j≤c:=by omega
     obtain ⟨bP,offP,rfl,hbP,hcP⟩:=HP.out (by omega)
     obtain ⟨BY,lY,cY,hcY,hNY⟩:=hcP j (by omega)
     have HNY:=zh hNY
     have HbP:=zh hbP
     have HcY:=zh hcY
     have HPw:=zh (ZfM j)
     have h2j:2 ^ j≤512:=by
      have:2 ^ j≤2 ^ 9:=Nat.pow_le_pow_right (by omega) (by omega)
      omega
     have HP2:Hid (2 ^ j≤512):=h2j
     have Hb1:Hid (bytes (d.extract 0 s)=(bytes d).take s):=by
      unfold Hid; rw [Zb5]; simp
     have Hb2:Hid (bytes (d.extract s n)=(bytes d).drop s):=by
      unfold Hid; rw [Zb5,List.take_of_length_le (by rw [List.length_drop,Zaj,Hn.out]; exact Nat.le_refl _)]
     have Hs1:Hid ((d.extract 0 s).size≤10000):=by unfold Hid; rw [ByteArray.size_extract]; omega
     have Hs2:Hid ((d.extract s n).size≤10000):=by unfold Hid; rw [ByteArray.size_extract]; omega
     have HV:Hid (Zaf (bytes (d.extract 0 s)) * pw19 j + Zaf (bytes (d.extract s n))=T):=by
      unfold Hid
      rw [Hb1.out,Hb2.out,Zgc,← HT.out]
      conv=>rhs; rw [← List.take_append_drop s (bytes d),ZeA]
      rw [List.length_drop,Zaj,Hn.out,HeD.out,show n - s=D by omega]
     have Ha1:Hid ((bytes (d.extract 0 s)).all Zao=true):=by unfold Hid; rw [Hb1.out]; exact Zol _ HD.out
     have Ha2:Hid ((bytes (d.extract s n)).all Zao=true):=by unfold Hid; rw [Hb2.out]; exact Zom _ HD.out
     have HE1:Hid (wl (Zaf (bytes (d.extract 0 s)))≤10000):=Zg8 Ha1.out Hs1.out
     have HE2:Hid (wl (Zaf (bytes (d.extract s n)))≤10000):=Zg8 Ha2.out Hs2.out
     have hjI:(0:Int)≤(j:Int):=by omega
     have hjL:j < L:=by omega
     have hjLI:(j:Int) < (L:Int):=by omega
     clear h2j hcP hNY hbP hcY
     go_wp2
     go_region_held3 (fun w'=>w'.cell? ⟨bP,offP + j,none⟩=some (.slice BY lY cY))
      (first | exact Zil HbP.out (Fr.refl _ _).drew HcY.out | exact Zil HbP.out (Fr.undrew (by assumption)) HcY.out | exact Zil HbP.out (Fr.undrew (hF1.trans (by assumption))) HcY.out)
      (first
       | (go_at_call 227
          refine (HI.out j (by omega) _ _ c _ Ha1.out Hs1.out ((HP.out.less (by omega)).ext (Fr.refl _ _).drew) (by omega) (by omega)).mono ?_
          rintro e w1 ⟨u1,rfl,hN1,hF1⟩
          obtain ⟨A1,l1,c1,rfl⟩:=hN1.slice)
       | (go_at_call 226
          refine (ZcB _ _ _ _ _ (by assumption) (HNY.out.ext (Fr.undrew (by assumption))) (Nat.le_trans HE1.out (by omega)) (Nat.le_trans HPw.out (Nat.le_trans HP2.out (by omega)))).mono ?_
          rintro e w2 ⟨u2,rfl,hN2,hF2⟩
          obtain ⟨A2,l2,c2,rfl⟩:=hN2.slice))
     clear hN1
     have HN2:=zh hN2
     have HF2:Hid (Ext w w2):=(Fr.undrew (hF1.trans hF2))
     have HPx:Hid (ZbY w2 (some ⟨bP,offP,none⟩) j):=(HP.out.less (by omega)).ext HF2.out
     clear hN2 hF1 hF2
     go_wp2
     go_region_held3 (fun _=>True)
      (first | exact trivial)
      (first
       | (go_at_call 227
          refine (HI.out j (by omega) _ _ c _ Ha2.out Hs2.out (HPx.out.ext (Fr.refl _ _).drew) (by omega) (by omega)).mono ?_
          rintro e w3 ⟨u3,rfl,hN3,hF3⟩
          obtain ⟨A3,l3,c3,rfl⟩:=hN3.slice)
       | (go_at_call 300
          refine (Zch _ _ _ _ _ (HN2.out.ext (Fr.undrew (by assumption))) (by assumption) (Nat.le_trans (Zdl _ _) (by have:=HE1.out; have:=HPw.out; have:=HP2.out; omega)) (Nat.le_trans HE2.out (by omega))).mono ?_
          rintro e w4 ⟨u4,rfl,hN4,hF4⟩
          rw [HV.out] at hN4))
     have HN4:=zh hN4
     have HF4:Hid (Ext w w4):=HF2.out.trans (Fr.undrew (hF3.trans hF4))
     clear hN3 hN4 hF3 hF4
     go_wp2
     go_ret
     exact ⟨_,rfl,HN4.out,HF4.out⟩
theorem Zjz:∀ (M L:Nat),L≤M→∀ (d:ByteArray) (P:Option Addr) (c:Nat) (w:World),(bytes d).all Zao=true→d.size≤10000→ZbY w P L→L≤c→L≤10 →
 Calls Tryz.prog 227 #[.string d, .slice P L c] w (Za0 w (Zaf (bytes d))):=by
 intro M
 induction M with
 | zero=>intro L hL; exact Zfr L (fun k hk=>absurd hk (by omega))
 | succ M ih=>intro L hL; exact Zfr L (fun k hk=>ih k (by omega))
set_option maxHeartbeats 4000000 in
theorem Zi4 (d:ByteArray) (w:World) (hd:(bytes d).all Zao=true) (hl:d.size≤10000) :
 Calls Tryz.prog 115 #[.string d] w (Za0 w (Zaf (bytes d))):=by
 obtain ⟨n,hn⟩:∃ n,d.size=n:=⟨_,rfl⟩
 have hl2:n≤10000:=by omega
 have HS:=zh (fun (L:Nat) (P:Option Addr) (c:Nat) (w1:World) (h1:ZbY w1 P L) (h2:L≤c) (h3:L≤10)=>Zjz L L (Nat.le_refl _) d P c w1 hd hl h1 h2 h3)
 generalize Zaf (bytes d)=T at *
 clear hd hl
 go_enter Tryz.func115,Tryz.ntmps115
 by_cases h570:n≤570
 ·go_wp2_with fail
  refine (HS.out 0 none 0 _ (fun h=>absurd h (by omega)) (Nat.le_refl _) (by omega)).mono ?_
  rintro e w1 ⟨u1,rfl,hN,hF⟩
  have HN:=zh hN
  have HF:=zh hF
  clear hN hF
  go_wp2
  go_ret
  exact ⟨_,rfl,HN.out,HF.out⟩
 ·have hgo0:¬ ((n:Int)≤570):=by omega
  go_wp2_with (at_builtin; refine Hid.out ?_)
  refine zh ?_
  have hN0:=Zad.one w (x:=T19) (by have:=Zdd; omega) ZgK
  rw [Zjo,← Zg1] at hN0
  refine Zc9 IsSl rfl _ _ _ rfl _ (.slice none 0 0) 24 Tryz.underlying311 ZkX rfl ⟨_,_,_,rfl⟩ none 0 1 0 1 ⟨w.heap.size + 1,0,none⟩ rfl rfl [] [.slice (some ⟨w.heap.size,0,none⟩) 1 1] rfl rfl VBuf.nil ?_ ?_ ?_ (by simp only [maxLen]; omega) (by omega) ?_
  ·intro j u hu
   match j,hu with
   | 0,hu =>
     simp at hu; subst hu; rw [Lib.add_plain]
     have h:=heap_alloc_new (w.alloc (.cells #[.int .u64 10000000000000000000] 217)) (.cells #[.slice (some ⟨w.heap.size,0,none⟩) 1 1] 133)
     rw [show (w.alloc (.cells #[.int .u64 10000000000000000000] 217)).heap.size=w.heap.size + 1 by simp] at h
     exact cell_of_row _ _ _ _ _ _ h
  ·intro u hu; simp at hu; subst hu; rfl
  ·intro u hu; simp at hu; subst hu; exact ⟨_,_,_,rfl⟩
  intro A0 cap0 w0 hB0 hF0 hA0
  have HNew:=zh (Pows.next (L:=0) (vs:=[]) rfl VBuf.nil (fun b hb=>by obtain ⟨a,ha,_⟩:=hb; cases ha) (Fr.refl _ _) (fun i hi=>absurd hi (by omega)) ((Fr.refl _ _).alloc _) hN0 hB0 hF0 hA0)
  clear hB0 hF0 hA0 hN0
  go_wp2_with fail
  go_loopw [3] (fun pv wr=>∃ (L:Nat) (Ap:Option Addr) (cp:Nat),pv=.slice Ap L cp∧1≤L∧L≤10∧Hid (Pows w wr Ap L cp)) (fun pv _=>match pv with | .slice _ k _=>10 - k | _=>0)
  case atStart=>exact ⟨1,A0,cap0,rfl,by omega,by omega,HNew⟩
  case round =>
   clear HNew
   obtain ⟨L,Ap,cp,rfl,hL1,hL7,hP⟩:=hrel
   obtain ⟨K,rfl⟩:∃ K,L=K + 1:=⟨L - 1,by omega⟩
   obtain ⟨vs,hvs,hV,hVb,hVe,hVn⟩:=hP.out
   obtain ⟨B,lb,cb,hb1,hb2⟩:=hVn K (by omega)
   obtain ⟨bp,rfl,hbp,hcp⟩:=hV.cell (i:=K) (by omega)
   rw [hb1] at hcp
   have h2K:2 ^ K≤512:=by
    have:2 ^ K≤2 ^ 9:=Nat.pow_le_pow_right (by omega) (by omega)
    omega
   have hwK:wl (pw19 K)≤512:=Nat.le_trans (ZfM K) h2K
   have hcap:K + 1≤cp:=by have:=hV.len; omega
   obtain ⟨D,eD⟩:∃ D,19 * 2 ^ (K + 1)=D:=⟨_,rfl⟩
   have hs2:2 ^ (K + 1)=2 ^ K + 2 ^ K:=by rw [Nat.pow_succ]; omega
   have hD1:D≤19456:=by omega
   have hD9:K=9→D=19456:=by rintro rfl; omega
   have hsh:(19 * 2 ^ (K + 1):Int)=(D:Int):=by rw [← eD]; simp
   have hsh2:IntKind.i64.wrap (D:Int)=(D:Int):=IntWalk.i64_in _ (by omega)
   have hk1:((K + 1:Nat):Int)=(K:Int) + 1:=by omega
   clear eD h2K hs2
   by_cases hgo:D < n
   ·have hK9:K < 9:=by
     rcases Nat.lt_or_ge K 9 with h | h
     ·exact h
     ·have:=hD9 (by omega); omega
    have HMul:=zh (ZcB _ _ (pw19 K) (pw19 K) wr hb2 hb2 (by omega) (by omega))
    rw [← Zg2] at HMul
    have HV:=zh hV
    have HVs:=zh hvs
    have HVb:=zh hVb
    have HVe:=zh hVe
    have HVn:=zh hVn
    clear hV hVb hVe hVn hb2 hb1 hvs hP hD9 hwK
    go_wp2_with fail
    refine HMul.out.mono ?_
    rintro e w1 ⟨v,rfl,hN1,hF1⟩
    obtain ⟨Bv,lv,cv,rfl⟩:=hN1.slice
    have HN1:=zh hN1
    have HF1:=zh hF1
    clear hN1 hF1 HMul
    go_wp2_with (at_builtin; refine Hid.out ?_)
    refine zh ?_
    refine Zc9 IsSl rfl _ _ _ rfl _ (.slice none 0 0) 24 Tryz.underlying311 ZkX rfl ⟨_,_,_,rfl⟩ (some ⟨bp,0,none⟩) (K + 1) 1 cp 1 ⟨w1.heap.size,0,none⟩ rfl rfl vs [.slice Bv lv cv] HVs.out rfl (HV.out.ext (HF1.out.alloc _)) ?_ ?_ ?_ (by simp only [maxLen]; omega) (by omega) ?_
    ·intro j u hu
     match j,hu with
     | 0,hu=>simp at hu; subst hu; rw [Lib.add_plain]; exact cell_of_row _ _ _ _ _ _ (heap_alloc_new w1 _)
    ·intro u hu; simp at hu; subst hu; rfl
    ·intro u hu; simp at hu; subst hu; exact ⟨_,_,_,rfl⟩
    intro A3 cap3 w3 hB3 hF3 hA3
    have HNew:=zh (Pows.next HVs.out HV.out HVb.out HVe.out HVn.out HF1.out HN1.out hB3 hF3 hA3)
    clear hB3 hF3 hA3
    go_wp2
    go_roundw
    case rel=>exact ⟨K + 2,A3,cap3,by rfl,by omega,by omega,HNew⟩
    case measure=>simp; omega
   ·have hPI:=zh hP.out.powsIs
    have HVe:=zh hVe
    clear hV hVb hVe hVn hb2 hb1 hvs hP hD9 hwK
    go_wp2_with fail
    refine (HS.out (K + 1) _ _ _ hPI.out (by omega) (by omega)).mono ?_
    rintro e w1 ⟨u1,rfl,hN,hF⟩
    have HN:=zh hN
    have HF:Hid (Ext w w1):=HVe.out.trans hF
    clear hN hF
    go_wp2
    go_ret
    exact ⟨_,rfl,HN.out,HF.out⟩
set_option maxHeartbeats 1000000 in
theorem Zkd (d:ByteArray) (w:World) (hd:(bytes d).all Zao=true) (hl:d.size≤10000) :
 Calls Tryz.prog 52 #[.string d] w (Zbk w (Zaf (bytes d):Int)):=by
 generalize hT:Zaf (bytes d)=T
 have HD:=zh hd
 have HL:=zh hl
 have HT:=zh hT
 clear hd hT hl
 go_enter Tryz.func52,Tryz.ntmps52
 go_wp2_with fail
 generalize hwb:World.alloc w _=wb
 have HBr:Hid (Blk 135 wb w.heap.size #[.bool false, .slice none 0 0]):=hwb ▸ Blk.new _ _ _
 have HE:Hid (Ext w wb):=hwb ▸ (Fr.refl _ _).alloc _
 clear hwb
 refine (Zi4 d _ HD.out HL.out).mono ?_
 rw [HT.out]
 rintro e w1 ⟨u1,rfl,hN1,hF1⟩
 obtain ⟨A1,l1,c1,rfl⟩:=hN1.slice
 obtain ⟨z0,z1,z2,z3⟩:=(HBr.out.ext hF1).cell2
 have HN1:=zh hN1
 have HF1:=zh hF1
 clear hN1 hF1
 go_wp2
 exact ZbL (neg:=false) rfl rfl (by omega) HE.out HBr.out HF1.out HN1.out rfl rfl
end Go.Proofs.YtcpjeaaapocoeaaGreatDoor

namespace Go.Proofs.YtcpjeaaapocoeaaGreatDoor
open Go.RowKit
theorem Zpu {c:UInt8} (h:Zao c=true):c≠45:=by rintro rfl; exact absurd h (by decide)
theorem ZmE:ZaU (bytes (⟨#[]⟩:ByteArray))=(false,bytes (⟨#[]⟩:ByteArray)):=rfl
theorem ZmF {l:List UInt8} (h:l.all Zao=true):ZaU l=(false,l):=by
 unfold ZaU
 cases l with
 | nil=>rfl
 | cons c l =>
   rw [List.all_cons,Bool.and_eq_true] at h
   rw [if_neg (fun e=>Zpu h.1 (by simpa using e))]
theorem Zke {l:List UInt8} (h:l.all Zao=true):l.takeWhile Zao=l:=by
 induction l with
 | nil=>rfl
 | cons c l ih =>
   rw [List.all_cons,Bool.and_eq_true] at h
   rw [List.takeWhile_cons_of_pos h.1,ih h.2]
theorem Zkf {l:List UInt8} (h:l.all Zao=true):l.dropWhile Zao=bytes (⟨#[]⟩:ByteArray):=by
 induction l with
 | nil=>rfl
 | cons c l ih =>
   rw [List.all_cons,Bool.and_eq_true] at h
   rw [List.dropWhile_cons_of_pos h.1,ih h.2]
theorem ZpC {x:ByteArray} (h:(bytes x).length≤8192):decide ((x.size:Int) > 8192)=false:=by
 rw [Zaj] at h; exact decide_eq_false (by omega)
theorem Zpv {x:ByteArray} (h:8192 < (bytes x).length):decide ((x.size:Int) > 8192)=true:=by
 rw [Zaj] at h; exact decide_eq_true (by omega)
theorem ZmG (x:Int):Rat.divInt x 1=(x:Rat):=by
 have h:=Rat.num_divInt_den (x:Rat)
 rw [Rat.num_intCast,Rat.den_intCast] at h
 exact h
theorem p8wl {n k:Nat} (hk:k≤8192) (h:n < 10 ^ k):wl n < 500:=by
 obtain ⟨m,hm⟩:∃ m,m=8192:=⟨_,rfl⟩
 obtain ⟨e,he⟩:∃ e,e=499:=⟨_,rfl⟩
 refine Nat.lt_of_le_of_lt (ZaC.2 (?_:n < W64 ^ e)) (by omega)
 have h1:10 ^ k≤10 ^ m:=Nat.pow_le_pow_right (by omega) (by omega)
 have h2:10 ^ m≤W64 ^ e:=by rw [hm,he,Zal]; decide +kernel
 omega
theorem Zox {s:ByteArray} (hd:(bytes s).all Zao=true) (hs:(bytes s).length≤8192):Zbc (Rat.divInt (Zaf (bytes s):Int) 1).num.natAbs∧Zbc (Rat.divInt (Zaf (bytes s):Int) 1).den:=by
 rw [ZmG]
 refine ⟨?_,Zbc.one (by rw [Zal]; exact Nat.lt_of_le_of_lt (Nat.le_of_eq (Rat.den_intCast _)) (by omega))⟩
 unfold Zbc
 rw [Rat.num_intCast,Int.natAbs_natCast]
 exact p8wl hs (ZbE _ hd)
theorem ZnA {s:ByteArray} (hd:(bytes s).all Zao=true) (hne:¬ bytes s=[]) (h48:(bytes s).head? ≠ some 48):(⟨(Zan (Rat.divInt (Zaf (bytes s):Int) 1)).toArray⟩:ByteArray)=s:=by
 apply Zcc
 rw [Zik,ZmG]
 unfold Zan
 rw [Rat.den_intCast,Rat.num_intCast,if_pos rfl]
 have h1:Lib.itoa ((Zaf (bytes s):Nat):Int)=Lib.decDigits (Zaf (bytes s)):=by
  unfold Lib.itoa; simp
 rw [h1]
 exact Zk0 _ _ rfl hd hne h48
theorem ZnB:(⟨(Zan (Rat.divInt ((0:Nat):Int) 1)).toArray⟩:ByteArray)=⟨#[48]⟩:=by
 apply Zcc
 rw [Zik,ZmG]
 unfold Zan
 rw [Rat.den_intCast,Rat.num_intCast,if_pos rfl]
 simp [Lib.itoa,Lib.decDigits,bytes]
theorem Zlh (a b:Value) (x:Int) (w:World) (ha:Zap w a x) (hb:Zap w b 1) :
 Calls Tryz.prog 57 #[a,b] w (Zcu w (Rat.divInt x 1)):=by
 obtain ⟨s0,A0,l0,c0,rfl⟩:=ha.shape
 obtain ⟨s1,A1,l1,c1,rfl⟩:=hb.shape
 refine ZaA (Φ:=fun w=>(Zap w (.agg #[.bool s0, .slice A0 l0 c0]) (x)∧Zap w (.agg #[.bool s1, .slice A1 l1 c1]) (1))) Tryz.func57 rfl (by kernel_rfl) (fun w' hf=>⟨ha.ext hf,hb.ext hf⟩) ?_
 refine Zac (Zab (xr 3 [(2, .p 2 0),(3, .p 3 0),(4, .p 4 0)] [bR4 4 142 false none 0 0 false none 0 0,bI2 3 135 s1 A1 l1 c1,bI2 2 135 s0 A0 l0 c0] ?_))
 refine xe (Zaa (Zac (Zac (Zab (xr 1 [(2, .p 2 0),(3, .p 3 0),(4, .p 4 0),eI2 6 s1 A1 l1 c1] [bR4 4 142 false none 0 0 false none 0 0,bI2 3 135 s1 A1 l1 c1,bI2 2 135 s0 A0 l0 c0] ?_)))))
 refine xc 55 [vI2 s1 A1 l1 c1] 7 (fun _:Unit=>.bool false) _ (fun w R Q=>(Zau _ (1) _ Q.2).mono (fun _ _ h=>Zae h (by rw [decide_eq_false (p:=(1)=0) (by decide)]))) (fun xx=>?_)
 refine xr 2 [(2, .p 2 0),(3, .p 3 0),(4, .p 4 0),(8, .v (.bool false)),eI2 9 s0 A0 l0 c0] [bR4 4 142 false none 0 0 false none 0 0,bI2 3 135 s1 A1 l1 c1,bI2 2 135 s0 A0 l0 c0] ?_
 by_cases hz10:(x)=0
 ·refine xc 55 [vI2 s0 A0 l0 c0] 10 (fun _:Unit=>.bool true) _ (fun w R Q=>(Zau _ (x) _ Q.1.1).mono (fun _ _ h=>Zae h (by rw [decide_eq_true (p:=(x)=0) hz10]))) (fun xx=>?_)
  refine xr 1 [(2, .p 2 0),(3, .p 3 0),(4, .p 4 0),(11, .v (.bool true))] [bR4 4 142 false none 0 0 false none 0 0,bI2 3 135 s1 A1 l1 c1,bI2 2 135 s0 A0 l0 c0] ?_
  refine xe (Zaa (xa (Zac (Zab (xr 2 [(2, .p 2 0),(3, .p 3 0),(4, .p 4 0)] [bR4 4 142 false none 0 0 false none 0 0,bI2 3 135 s1 A1 l1 c1,bI2 2 135 s0 A0 l0 c0] ?_)))))
  refine xe (Zaa (Zas (Zar ?_)))
  refine Zam (v:=.agg #[.bool false, .slice none 0 0, .bool false, .slice none 0 0]) (by kernel_rfl) (fun w' R Q=>?_)
  exact ⟨_,rfl,by rw [hz10,Rat.zero_divInt]; exact Zat.nil _,R⟩
 ·refine xc 55 [vI2 s0 A0 l0 c0] 10 (fun _:Unit=>.bool false) _ (fun w R Q=>(Zau _ (x) _ Q.1.1).mono (fun _ _ h=>Zae h (by rw [decide_eq_false (p:=(x)=0) hz10]))) (fun xx=>?_)
  refine xr 1 [(2, .p 2 0),(3, .p 3 0),(4, .p 4 0),(11, .v (.bool false))] [bR4 4 142 false none 0 0 false none 0 0,bI2 3 135 s1 A1 l1 c1,bI2 2 135 s0 A0 l0 c0] ?_
  refine xe (Zaa (xb (Zax (Zaa (Zac (Zac (Zab (xr 1 [(2, .p 2 0),(3, .p 3 0),(4, .p 4 0),eI2 13 s1 A1 l1 c1] [bR4 4 142 false none 0 0 false none 0 0,bI2 3 135 s1 A1 l1 c1,bI2 2 135 s0 A0 l0 c0] ?_))))))))
  refine xc 119 [vI2 s1 A1 l1 c1] 14 (fun _:Unit=>.int .i64 1) _ (fun w R Q=>(Zdx _ _ _ Q.1.1.2).mono (fun _ _ h=>Zae h (by rw [show Int.sign 1=1 from rfl]))) (fun xx=>?_)
  refine xr 1 [(2, .p 2 0),(3, .p 3 0),(4, .p 4 0),(15, .v (.bool false))] [bR4 4 142 false none 0 0 false none 0 0,bI2 3 135 s1 A1 l1 c1,bI2 2 135 s0 A0 l0 c0] ?_
  refine xe (Zaa (xb (Zax (Zaa (Zac (Zac (Zab (xr 1 [(2, .p 2 0),(3, .p 3 0),(4, .p 4 0),eI2 20 s1 A1 l1 c1] [bR4 4 142 false none 0 0 false none 0 0,bI2 3 135 s1 A1 l1 c1,bI2 2 135 s0 A0 l0 c0] ?_))))))))
  refine xc 120 [vI2 s1 A1 l1 c1] 21 (fun _:Unit=>.bool true) _ (fun w R Q=>(Za9 _ (1) _ Q.1.1.1.2).mono (fun _ _ h=>Zae h (by rw [decide_eq_true (p:=(1)=1) rfl]))) (fun xx=>?_)
  refine xr 0 [(2, .p 2 0),(3, .p 3 0),(4, .p 4 0),(21, .v (.bool true))] [bR4 4 142 false none 0 0 false none 0 0,bI2 3 135 s1 A1 l1 c1,bI2 2 135 s0 A0 l0 c0] ?_
  refine xe (Zaa (xa (Zac (Zab (xr 3 [(2, .p 2 0),(3, .p 3 0),(4, .p 4 0)] [bR4 4 142 s0 A0 l0 c0 false none 0 0,bI2 3 135 s1 A1 l1 c1,bI2 2 135 s0 A0 l0 c0] ?_)))))
  refine xe (Zaa (Zas (Zar ?_)))
  refine Zam (v:=.agg #[.bool s0, .slice A0 l0 c0, .bool false, .slice none 0 0]) (by kernel_rfl) (fun w' R Q=>?_)
  exact ⟨_,rfl,Zat.of (by rw [(Zea rfl).1]; exact Q.1.1.1.1.1) (by rw [(Zea rfl).2]; exact (Zap.nil _)),R⟩
theorem ZmH (s:ByteArray) (w:World) (hg:Glob w) (hd:(bytes s).all Zao=true) (hne:¬ bytes s=[]) (hs:(bytes s).length≤8192) :
 Calls Tryz.prog 18 #[.string s] w (RetV w (.tuple #[.string ⟨(Zan (Rat.divInt (Zaf (bytes s):Int) 1)).toArray⟩, .int .i64 0])):=by
 refine ZaA (Φ:=fun w=>Glob w) Tryz.func18 rfl (by kernel_rfl) (fun w' hf=>hg.ext hf) ?_
 refine Zac (Zab (xr 2 [(0, .v (.string s)),(2, .v (.string ⟨#[]⟩)),(3, .v (.int .i64 0))] [] ?_))
 refine xe (Zaa (Zac (Zac (Zab (xr 3 [(0, .v (.string s)),(2, .v (.string ⟨#[]⟩)),(3, .v (.int .i64 0)),(13, .v (.bool (decide (((s).size:Int) > 8192))))] [] ?_)))))
 rw [ZpC hs]
 refine xr 0 [(0, .v (.string s)),(2, .v (.string ⟨#[]⟩)),(3, .v (.int .i64 0)),(13, .v (.bool false))] [] ?_
 refine xe (Zaa (xb (Zax (Zaa (Zac (Zab (xr 1 [(2, .v (.string ⟨#[]⟩)),(3, .v (.int .i64 0)),(15, .v (.string s))] [] ?_)))))))
 refine xc 50 [.string s, .string ⟨#[45]⟩] 16 (fun x:ByteArray × Bool=>.tuple #[.string x.1, .bool x.2]) _ (fun w R Q=>(ZdR s _).mono (fun _ _=>Zgk)) (fun xx=>?_)
 obtain ⟨r,neg⟩:=xx
 refine xr 5 [(2, .v (.string ⟨#[]⟩)),(3, .v (.int .i64 0)),(4, .v (.string r)),(5, .v (.bool neg))] [] ?_
 refine xe (Zaa (Zac ?_))
 refine SXc.know (p:=ZaU (bytes s)=(neg,bytes r)) (fun w _ Q=>Q.2) (fun HM=>?_)
 rw [ZmF hd] at HM
 injection HM with hn hr
 subst hn
 obtain rfl:s=r:=Zcc hr
 refine Zab (xr 1 [(2, .v (.string ⟨#[]⟩)),(3, .v (.int .i64 0)),(4, .v (.string s)),(5, .v (.bool false)),(20, .v (.string s))] [] ?_)
 refine xc 51 [.string s] 21 (fun x:ByteArray × ByteArray=>.tuple #[.string x.1, .string x.2]) _ (fun w R Q=>(Zcm s _ (by rw [Zaj] at hs; omega)).mono (fun _ _=>Zgl)) (fun xx=>?_)
 obtain ⟨t,u⟩:=xx
 refine xr 5 [(2, .v (.string ⟨#[]⟩)),(3, .v (.int .i64 0)),(4, .v (.string u)),(5, .v (.bool false)),(6, .v (.string t))] [] ?_
 refine xe (Zaa (Zac (Zab (xr 2 [(2, .v (.string ⟨#[]⟩)),(3, .v (.int .i64 0)),(4, .v (.string u)),(5, .v (.bool false)),(6, .v (.string t)),(7, .v (.string ⟨#[]⟩)),(8, .v (.string ⟨#[]⟩))] [] ?_))))
 refine xe (Zaa (Zac (Zac ?_)))
 refine SXc.know (p:=bytes t=(bytes s).takeWhile Zao∧bytes u=(bytes s).dropWhile Zao) (fun w _ Q=>Q.2) (fun HC=>?_)
 obtain rfl:s=t:=(Zcc (HC.1.trans (Zke hd))).symm
 obtain rfl:u=(⟨#[]⟩:ByteArray):=Zcc (HC.2.trans (Zkf hd))
 refine Zab (xr 2 [(2, .v (.string ⟨#[]⟩)),(3, .v (.int .i64 0)),(4, .v (.string ⟨#[]⟩)),(5, .v (.bool false)),(6, .v (.string s)),(7, .v (.string ⟨#[]⟩)),(8, .v (.string ⟨#[]⟩)),(25, .v (.bool (!((⟨#[]⟩:ByteArray).toList == (⟨#[]⟩:ByteArray).toList))))] [] ?_)
 rw [Zb6,Bool.not_true]
 refine xr 0 [(2, .v (.string ⟨#[]⟩)),(3, .v (.int .i64 0)),(4, .v (.string ⟨#[]⟩)),(5, .v (.bool false)),(6, .v (.string s)),(7, .v (.string ⟨#[]⟩)),(8, .v (.string ⟨#[]⟩)),(25, .v (.bool false))] [] ?_
 refine xe (Zaa (xb (Zax (Zaa (Zac (Zac (Zab (xr 2 [(2, .v (.string ⟨#[]⟩)),(3, .v (.int .i64 0)),(4, .v (.string ⟨#[]⟩)),(5, .v (.bool false)),(6, .v (.string s)),(7, .v (.string ⟨#[]⟩)),(8, .v (.string ⟨#[]⟩)),(35, .v (.bool ((s:ByteArray).toList == (⟨#[]⟩:ByteArray).toList)))] [] ?_))))))))
 rw [Zo4 hne]
 refine xr 3 [(2, .v (.string ⟨#[]⟩)),(3, .v (.int .i64 0)),(5, .v (.bool false)),(6, .v (.string s)),(7, .v (.string ⟨#[]⟩)),(8, .v (.string ⟨#[]⟩)),(36, .v (.bool false)),(38, .v (.bool (!((⟨#[]⟩:ByteArray).toList == (⟨#[]⟩:ByteArray).toList))))] [] ?_
 rw [Zb6,Bool.not_true]
 refine xr 4 [(2, .v (.string ⟨#[]⟩)),(3, .v (.int .i64 0)),(5, .v (.bool false)),(6, .v (.string s)),(7, .v (.string ⟨#[]⟩)),(8, .v (.string ⟨#[]⟩)),(40, .v (.bool false)),(42, .v (.bool (!((⟨#[]⟩:ByteArray).toList == (⟨#[]⟩:ByteArray).toList))))] [] ?_
 rw [Zb6,Bool.not_true]
 refine xr 5 [(2, .v (.string ⟨#[]⟩)),(3, .v (.int .i64 0)),(5, .v (.bool false)),(6, .v (.string s)),(7, .v (.string ⟨#[]⟩)),(8, .v (.string ⟨#[]⟩)),(47, .v (.bool false))] [] ?_
 refine xe (Zaa (xb (Zax (Zaa (Zac (Zab (xr 1 [(2, .v (.string ⟨#[]⟩)),(3, .v (.int .i64 0)),(5, .v (.bool false)),(6, .v (.string s)),(7, .v (.string ⟨#[]⟩)),(8, .v (.string ⟨#[]⟩)),(48, .v (.string s))] [] ?_)))))))
 refine xc 52 [.string s] 49 Zav _ (fun w R Q=>(Zkd s _ hd (by rw [Zaj] at hs; omega)).mono (fun _ _=>Zak)) (fun xx=>?_)
 obtain ⟨s10,A10,l10,c10⟩:=xx
 refine xr 0 [(2, .v (.string ⟨#[]⟩)),(3, .v (.int .i64 0)),(5, .v (.bool false)),(6, .v (.string s)),(7, .v (.string ⟨#[]⟩)),(8, .v (.string ⟨#[]⟩)),eI2 49 s10 A10 l10 c10] [] ?_
 refine xc 53 [.int .i64 1] 50 Zav _ (fun w R Q=>(Zjn 1 _ (by rw [Zal]; omega) (by decide) (by decide)).mono (fun _ _=>Zak)) (fun xx=>?_)
 obtain ⟨s11,A11,l11,c11⟩:=xx
 refine xr 4 [(2, .v (.string ⟨#[]⟩)),(3, .v (.int .i64 0)),(5, .v (.bool false)),(6, .v (.string s)),(7, .v (.string ⟨#[]⟩)),(8, .v (.string ⟨#[]⟩)),(9, .p 9 0),(10, .p 10 0)] [bI2 10 135 s11 A11 l11 c11,bI2 9 135 s10 A10 l10 c10] ?_
 refine xe (Zaa (Zac (Zac (Zab (xr 1 [(2, .v (.string ⟨#[]⟩)),(3, .v (.int .i64 0)),(5, .v (.bool false)),(6, .v (.string s)),(8, .v (.string ⟨#[]⟩)),(9, .p 9 0),(10, .p 10 0),(51, .v (.string ⟨#[]⟩))] [bI2 10 135 s11 A11 l11 c11,bI2 9 135 s10 A10 l10 c10] ?_)))))
 refine xe (Zaa (Za4 (Zac (Zab (xr 1 [(2, .v (.string ⟨#[]⟩)),(3, .v (.int .i64 0)),(5, .v (.bool false)),(6, .v (.string s)),(8, .v (.string ⟨#[]⟩)),(9, .p 9 0),(10, .p 10 0),(51, .v (.string ⟨#[]⟩)),(53, .v (.bool ((⟨#[]⟩:ByteArray).toList == (⟨#[]⟩:ByteArray).toList)))] [bI2 10 135 s11 A11 l11 c11,bI2 9 135 s10 A10 l10 c10] ?_)))))
 rw [Zb6]
 refine xr 1 [(2, .v (.string ⟨#[]⟩)),(3, .v (.int .i64 0)),(5, .v (.bool false)),(6, .v (.string s)),(8, .v (.string ⟨#[]⟩)),(9, .p 9 0),(10, .p 10 0),(51, .v (.string ⟨#[]⟩)),(52, .v (.bool true))] [bI2 10 135 s11 A11 l11 c11,bI2 9 135 s10 A10 l10 c10] ?_
 refine xe (Zaa (xa (Zax (Zdq (Zaa (Zac (Zac (Zab (xr 1 [(2, .v (.string ⟨#[]⟩)),(3, .v (.int .i64 0)),(5, .v (.bool false)),(9, .p 9 0),(10, .p 10 0),eI2 69 s11 A11 l11 c11] [bI2 10 135 s11 A11 l11 c11,bI2 9 135 s10 A10 l10 c10] ?_)))))))))
 refine xc 55 [vI2 s11 A11 l11 c11] 70 (fun _:Unit=>.bool false) _ (fun w R Q=>(Zau _ (1) _ Q.2).mono (fun _ _ h=>Zae h (by rw [decide_eq_false (p:=(1)=0) (by decide)]))) (fun xx=>?_)
 refine xr 0 [(2, .v (.string ⟨#[]⟩)),(3, .v (.int .i64 0)),(5, .v (.bool false)),(9, .p 9 0),(10, .p 10 0),(70, .v (.bool false))] [bI2 10 135 s11 A11 l11 c11,bI2 9 135 s10 A10 l10 c10] ?_
 refine xe (Zaa (xb (Zax (Zaa (Zac (Zac (Zab (xr 1 [(2, .v (.string ⟨#[]⟩)),(3, .v (.int .i64 0)),(9, .p 9 0),(10, .p 10 0),(71, .v (.bool false))] [bI2 10 135 s11 A11 l11 c11,bI2 9 135 s10 A10 l10 c10] ?_))))))))
 refine xe (Zaa (xb (Zax (Zaa (Zac (Zab (xr 2 [(2, .v (.string ⟨#[]⟩)),(3, .v (.int .i64 0)),eI2 74 s10 A10 l10 c10,eI2 75 s11 A11 l11 c11] [] ?_)))))))
 refine xc 57 [vI2 s10 A10 l10 c10,vI2 s11 A11 l11 c11] 76 Zbf _ (fun w R Q=>(Zlh _ _ ((Zaf (bytes s):Int)) _ Q.1.1.2 Q.1.2).mono (fun _ _=>ZaK)) (fun xx=>?_)
 obtain ⟨s12,A12,l12,c12,t12,B12,m12,d12⟩:=xx
 refine xr 0 [(2, .v (.string ⟨#[]⟩)),(3, .v (.int .i64 0)),eR4 76 s12 A12 l12 c12 t12 B12 m12 d12] [] ?_
 refine xc 58 [vR4 s12 A12 l12 c12 t12 B12 m12 d12] 77 (fun _:Unit=>.string ⟨(Zan (Rat.divInt ((Zaf (bytes s):Int)) 1)).toArray⟩) _ (fun w R Q=>(ZcX _ (Rat.divInt ((Zaf (bytes s):Int)) 1) _ Q.1.1.1.1.1.1 Q.2 (Zox hd hs).1 (Zox hd hs).2).mono (fun _ _ h=>Zae h rfl)) (fun xx=>?_)
 refine xr 2 [(2, .v (.string ⟨(Zan (Rat.divInt ((Zaf (bytes s):Int)) 1)).toArray⟩)),(3, .v (.int .i64 0))] [] ?_
 refine xe (Zaa (Zas ?_))
 refine Zam (v:=.tuple #[.string ⟨(Zan (Rat.divInt ((Zaf (bytes s):Int)) 1)).toArray⟩, .int .i64 0]) (by kernel_rfl) (fun w' R Q=>?_)
 exact ⟨rfl,R⟩
theorem ZmI (w:World) (hg:Glob w) :
 Calls Tryz.prog 18 #[.string ⟨#[]⟩] w (RetV w (.tuple #[.string ⟨#[]⟩, .int .i64 6])):=by
 refine ZaA (Φ:=fun w=>Glob w) Tryz.func18 rfl (by kernel_rfl) (fun w' hf=>hg.ext hf) ?_
 refine Zac (Zab (xr 2 [(0, .v (.string ⟨#[]⟩)),(2, .v (.string ⟨#[]⟩)),(3, .v (.int .i64 0))] [] ?_))
 refine xe (Zaa (Zac (Zac (Zab (xr 3 [(0, .v (.string ⟨#[]⟩)),(2, .v (.string ⟨#[]⟩)),(3, .v (.int .i64 0)),(13, .v (.bool (decide (((⟨#[]⟩:ByteArray).size:Int) > 8192))))] [] ?_)))))
 rw [(show decide (((⟨#[]⟩:ByteArray).size:Int) > 8192)=false from rfl)]
 refine xr 0 [(0, .v (.string ⟨#[]⟩)),(2, .v (.string ⟨#[]⟩)),(3, .v (.int .i64 0)),(13, .v (.bool false))] [] ?_
 refine xe (Zaa (xb (Zax (Zaa (Zac (Zab (xr 1 [(2, .v (.string ⟨#[]⟩)),(3, .v (.int .i64 0)),(15, .v (.string ⟨#[]⟩))] [] ?_)))))))
 refine xc 50 [.string ⟨#[]⟩, .string ⟨#[45]⟩] 16 (fun x:ByteArray × Bool=>.tuple #[.string x.1, .bool x.2]) _ (fun w R Q=>(ZdR (⟨#[]⟩:ByteArray) _).mono (fun _ _=>Zgk)) (fun xx=>?_)
 obtain ⟨r,neg⟩:=xx
 refine xr 5 [(2, .v (.string ⟨#[]⟩)),(3, .v (.int .i64 0)),(4, .v (.string r)),(5, .v (.bool neg))] [] ?_
 refine xe (Zaa (Zac ?_))
 refine SXc.know (p:=ZaU (bytes (⟨#[]⟩:ByteArray))=(neg,bytes r)) (fun w _ Q=>Q.2) (fun HM=>?_)
 rw [ZmE] at HM
 injection HM with hn hr
 subst hn
 obtain rfl:(⟨#[]⟩:ByteArray)=r:=Zcc hr
 refine Zab (xr 1 [(2, .v (.string ⟨#[]⟩)),(3, .v (.int .i64 0)),(4, .v (.string ⟨#[]⟩)),(5, .v (.bool false)),(20, .v (.string ⟨#[]⟩))] [] ?_)
 refine xc 51 [.string ⟨#[]⟩] 21 (fun x:ByteArray × ByteArray=>.tuple #[.string x.1, .string x.2]) _ (fun w R Q=>(Zcm (⟨#[]⟩:ByteArray) _ (by decide)).mono (fun _ _=>Zgl)) (fun xx=>?_)
 obtain ⟨t,u⟩:=xx
 refine xr 5 [(2, .v (.string ⟨#[]⟩)),(3, .v (.int .i64 0)),(4, .v (.string u)),(5, .v (.bool false)),(6, .v (.string t))] [] ?_
 refine xe (Zaa (Zac (Zab (xr 2 [(2, .v (.string ⟨#[]⟩)),(3, .v (.int .i64 0)),(4, .v (.string u)),(5, .v (.bool false)),(6, .v (.string t)),(7, .v (.string ⟨#[]⟩)),(8, .v (.string ⟨#[]⟩))] [] ?_))))
 refine xe (Zaa (Zac (Zac ?_)))
 refine SXc.know (p:=bytes t=(bytes (⟨#[]⟩:ByteArray)).takeWhile Zao∧bytes u=(bytes (⟨#[]⟩:ByteArray)).dropWhile Zao) (fun w _ Q=>Q.2) (fun HC=>?_)
 obtain rfl:(⟨#[]⟩:ByteArray)=t:=(Zcc (HC.1.trans rfl)).symm
 obtain rfl:u=(⟨#[]⟩:ByteArray):=Zcc (HC.2.trans rfl)
 refine Zab (xr 2 [(2, .v (.string ⟨#[]⟩)),(3, .v (.int .i64 0)),(4, .v (.string ⟨#[]⟩)),(5, .v (.bool false)),(6, .v (.string ⟨#[]⟩)),(7, .v (.string ⟨#[]⟩)),(8, .v (.string ⟨#[]⟩)),(25, .v (.bool (!((⟨#[]⟩:ByteArray).toList == (⟨#[]⟩:ByteArray).toList))))] [] ?_)
 rw [Zb6,Bool.not_true]
 refine xr 0 [(2, .v (.string ⟨#[]⟩)),(3, .v (.int .i64 0)),(4, .v (.string ⟨#[]⟩)),(5, .v (.bool false)),(6, .v (.string ⟨#[]⟩)),(7, .v (.string ⟨#[]⟩)),(8, .v (.string ⟨#[]⟩)),(25, .v (.bool false))] [] ?_
 refine xe (Zaa (xb (Zax (Zaa (Zac (Zac (Zab (xr 2 [(2, .v (.string ⟨#[]⟩)),(3, .v (.int .i64 0)),(4, .v (.string ⟨#[]⟩)),(5, .v (.bool false)),(6, .v (.string ⟨#[]⟩)),(7, .v (.string ⟨#[]⟩)),(8, .v (.string ⟨#[]⟩)),(35, .v (.bool ((⟨#[]⟩:ByteArray).toList == (⟨#[]⟩:ByteArray).toList)))] [] ?_))))))))
 rw [Zb6]
 refine xr 12 [(2, .v (.string ⟨#[]⟩)),(3, .v (.int .i64 0)),(5, .v (.bool false)),(6, .v (.string ⟨#[]⟩)),(7, .v (.string ⟨#[]⟩)),(8, .v (.string ⟨#[]⟩)),(47, .v (.bool true))] [] ?_
 refine xe (Zaa (xa (Zac (Zab (xr 2 [(2, .v (.string ⟨#[]⟩)),(3, .v (.int .i64 6)),(5, .v (.bool false)),(6, .v (.string ⟨#[]⟩)),(7, .v (.string ⟨#[]⟩)),(8, .v (.string ⟨#[]⟩))] [] ?_)))))
 refine xe (Zaa (Zas (Zar ?_)))
 refine Zam (v:=.tuple #[.string ⟨#[]⟩, .int .i64 6]) (by kernel_rfl) (fun w' R Q=>?_)
 exact ⟨rfl,R⟩
theorem ZmJ (s:ByteArray) (w:World) (hg:Glob w) (hs:8192 < (bytes s).length) :
 Calls Tryz.prog 18 #[.string s] w (RetV w (.tuple #[.string ⟨#[]⟩, .int .i64 2])):=by
 refine ZaA (Φ:=fun w=>Glob w) Tryz.func18 rfl (by kernel_rfl) (fun w' hf=>hg.ext hf) ?_
 refine Zac (Zab (xr 2 [(0, .v (.string s)),(2, .v (.string ⟨#[]⟩)),(3, .v (.int .i64 0))] [] ?_))
 refine xe (Zaa (Zac (Zac (Zab (xr 3 [(0, .v (.string s)),(2, .v (.string ⟨#[]⟩)),(3, .v (.int .i64 0)),(13, .v (.bool (decide (((s).size:Int) > 8192))))] [] ?_)))))
 rw [Zpv hs]
 refine xr 0 [(0, .v (.string s)),(2, .v (.string ⟨#[]⟩)),(3, .v (.int .i64 0)),(13, .v (.bool true))] [] ?_
 refine xe (Zaa (xa (Zac (Zab (xr 2 [(0, .v (.string s)),(2, .v (.string ⟨#[]⟩)),(3, .v (.int .i64 2))] [] ?_)))))
 refine xe (Zaa (Zas (Zar ?_)))
 refine Zam (v:=.tuple #[.string ⟨#[]⟩, .int .i64 2]) (by kernel_rfl) (fun w' R Q=>?_)
 exact ⟨rfl,R⟩
end Go.Proofs.YtcpjeaaapocoeaaGreatDoor

namespace Go.Proofs.YtcpjeaaapocoeaaGreatDoor
open Go.RowKit
theorem Zg9 {a b:ByteArray} (h:bytes a≠bytes b):(a.toList == b.toList)=false:=by
 rw [Lib.toList_data,Lib.toList_data]; exact beq_eq_false_iff_ne.2 h
theorem ex6:(6:Int).natAbs < 10 ^ e4:=Nat.lt_of_lt_of_le (show 6 < 10 ^ 1 by decide) (Nat.pow_le_pow_right (by omega) (by decide))
theorem ex4:(4:Int).natAbs < 10 ^ e4:=Nat.lt_of_lt_of_le (show 4 < 10 ^ 1 by decide) (Nat.pow_le_pow_right (by omega) (by decide))
theorem Zon (w:World) (hg:Glob w) :
 Calls Tryz.prog 18 #[.string ⟨#[45,48,54,47,52]⟩] w (RetV w (.tuple #[.string ⟨#[45,51,47,50]⟩, .int .i64 0])):=by
 refine ZaA (Φ:=fun w=>Glob w) Tryz.func18 rfl (by kernel_rfl) (fun w' hf=>hg.ext hf) ?_
 refine Zac (Zab (xr 2 [(0, .v (.string ⟨#[45,48,54,47,52]⟩)),(2, .v (.string ⟨#[]⟩)),(3, .v (.int .i64 0))] [] ?_))
 refine xe (Zaa (Zac (Zac (Zab (xr 3 [(0, .v (.string ⟨#[45,48,54,47,52]⟩)),(2, .v (.string ⟨#[]⟩)),(3, .v (.int .i64 0)),(13, .v (.bool (decide (((⟨#[45,48,54,47,52]⟩:ByteArray).size:Int) > 8192))))] [] ?_)))))
 rw [(show decide (((⟨#[45,48,54,47,52]⟩:ByteArray).size:Int) > 8192)=false from rfl)]
 refine xr 0 [(0, .v (.string ⟨#[45,48,54,47,52]⟩)),(2, .v (.string ⟨#[]⟩)),(3, .v (.int .i64 0)),(13, .v (.bool false))] [] ?_
 refine xe (Zaa (xb (Zax (Zaa (Zac (Zab (xr 1 [(2, .v (.string ⟨#[]⟩)),(3, .v (.int .i64 0)),(15, .v (.string ⟨#[45,48,54,47,52]⟩))] [] ?_)))))))
 refine xc 50 [.string ⟨#[45,48,54,47,52]⟩, .string ⟨#[45]⟩] 16 (fun x:ByteArray × Bool=>.tuple #[.string x.1, .bool x.2]) _ (fun w R Q=>(ZdR _ _).mono (fun _ _=>Zgk)) (fun xx=>?_)
 obtain ⟨r,neg⟩:=xx
 refine xr 5 [(2, .v (.string ⟨#[]⟩)),(3, .v (.int .i64 0)),(4, .v (.string r)),(5, .v (.bool neg))] [] ?_
 refine xe (Zaa (Zac ?_))
 refine SXc.know (p:=ZaU [45,48,54,47,52]=(neg,bytes r)) (fun w _ Q=>Q.2) (fun HM=>?_)
 rw [show ZaU [45,48,54,47,52]=(true,[48,54,47,52]) from rfl] at HM
 injection HM with hn hr
 subst hn
 obtain rfl:r=⟨#[48,54,47,52]⟩:=Zcc hr.symm
 refine Zab (xr 1 [(2, .v (.string ⟨#[]⟩)),(3, .v (.int .i64 0)),(4, .v (.string ⟨#[48,54,47,52]⟩)),(5, .v (.bool true)),(20, .v (.string ⟨#[48,54,47,52]⟩))] [] ?_)
 refine xc 51 [.string ⟨#[48,54,47,52]⟩] 21 (fun x:ByteArray × ByteArray=>.tuple #[.string x.1, .string x.2]) _ (fun w R Q=>(Zcm ⟨#[48,54,47,52]⟩ _ (by decide)).mono (fun _ _=>Zgl)) (fun xx=>?_)
 obtain ⟨t,u⟩:=xx
 refine xr 5 [(2, .v (.string ⟨#[]⟩)),(3, .v (.int .i64 0)),(4, .v (.string u)),(5, .v (.bool true)),(6, .v (.string t))] [] ?_
 refine xe (Zaa (Zac ?_))
 refine SXc.know (p:=bytes t=[48,54,47,52].takeWhile Zao∧bytes u=[48,54,47,52].dropWhile Zao) (fun w _ Q=>Q.2) (fun HC=>?_)
 obtain rfl:t=⟨#[48,54]⟩:=Zcc HC.1
 obtain rfl:u=⟨#[47,52]⟩:=Zcc HC.2
 refine Zab (xr 2 [(2, .v (.string ⟨#[]⟩)),(3, .v (.int .i64 0)),(4, .v (.string ⟨#[47,52]⟩)),(5, .v (.bool true)),(6, .v (.string ⟨#[48,54]⟩)),(7, .v (.string ⟨#[]⟩)),(8, .v (.string ⟨#[]⟩))] [] ?_)
 refine xe (Zaa (Zac (Zac (Zab (xr 2 [(2, .v (.string ⟨#[]⟩)),(3, .v (.int .i64 0)),(4, .v (.string ⟨#[47,52]⟩)),(5, .v (.bool true)),(6, .v (.string ⟨#[48,54]⟩)),(7, .v (.string ⟨#[]⟩)),(8, .v (.string ⟨#[]⟩)),(25, .v (.bool (!((⟨#[47,52]⟩:ByteArray).toList == (⟨#[]⟩:ByteArray).toList))))] [] ?_)))))
 rw [(show ((⟨#[47,52]⟩:ByteArray).toList == (⟨#[]⟩:ByteArray).toList)=false from Zg9 (by decide)),Bool.not_false]
 refine xr 0 [(2, .v (.string ⟨#[]⟩)),(3, .v (.int .i64 0)),(4, .v (.string ⟨#[47,52]⟩)),(5, .v (.bool true)),(6, .v (.string ⟨#[48,54]⟩)),(7, .v (.string ⟨#[]⟩)),(8, .v (.string ⟨#[]⟩)),(25, .v (.bool true))] [] ?_
 refine xe (Zaa (xa (Zac (Zab (xr 1 [(2, .v (.string ⟨#[]⟩)),(3, .v (.int .i64 0)),(4, .v (.string ⟨#[47,52]⟩)),(5, .v (.bool true)),(6, .v (.string ⟨#[48,54]⟩)),(7, .v (.string ⟨#[]⟩)),(8, .v (.string ⟨#[]⟩)),(26, .v (.string ⟨#[47,52]⟩))] [] ?_)))))
 refine Zjp 27 (.string ⟨#[47]⟩) (by kernel_rfl) (by kernel_rfl) (by kernel_rfl) (by kernel_rfl) (by kernel_rfl) (by kernel_rfl) (fun w R Q=>ZgT 0 1 (t:=9) (x:=(Operand.tmp 26)) (lo:=none) (hi:=(some (Operand.const (Value.int IntKind.i64 1)))) (by kernel_rfl) (by kernel_rfl) (by kernel_rfl) (Or.inl ⟨rfl,rfl⟩) (Or.inr rfl) (by decide) (show 1≤(⟨#[47,52]⟩:ByteArray).size by decide) (show (⟨#[47,52]⟩:ByteArray).extract 0 1=⟨#[47]⟩ from rfl)) ?_
 refine xr 1 [(2, .v (.string ⟨#[]⟩)),(3, .v (.int .i64 0)),(4, .v (.string ⟨#[47,52]⟩)),(5, .v (.bool true)),(6, .v (.string ⟨#[48,54]⟩)),(7, .v (.string ⟨#[47]⟩)),(8, .v (.string ⟨#[]⟩))] [] ?_
 refine xe (Zaa (Zab (xr 1 [(2, .v (.string ⟨#[]⟩)),(3, .v (.int .i64 0)),(4, .v (.string ⟨#[47,52]⟩)),(5, .v (.bool true)),(6, .v (.string ⟨#[48,54]⟩)),(7, .v (.string ⟨#[47]⟩)),(8, .v (.string ⟨#[]⟩)),(29, .v (.string ⟨#[47,52]⟩))] [] ?_)))
 refine Zjp 30 (.string ⟨#[52]⟩) (by kernel_rfl) (by kernel_rfl) (by kernel_rfl) (by kernel_rfl) (by kernel_rfl) (by kernel_rfl) (fun w R Q=>ZgT 1 _ (t:=9) (x:=(Operand.tmp 29)) (lo:=(some (Operand.const (Value.int IntKind.i64 1)))) (hi:=none) (by kernel_rfl) (by kernel_rfl) (by kernel_rfl) (Or.inr rfl) (Or.inl ⟨rfl,rfl⟩) (show 1≤(⟨#[47,52]⟩:ByteArray).size by decide) (Nat.le_refl _) (show (⟨#[47,52]⟩:ByteArray).extract 1 (⟨#[47,52]⟩:ByteArray).size=⟨#[52]⟩ from rfl)) ?_
 refine xr 0 [(2, .v (.string ⟨#[]⟩)),(3, .v (.int .i64 0)),(4, .v (.string ⟨#[47,52]⟩)),(5, .v (.bool true)),(6, .v (.string ⟨#[48,54]⟩)),(7, .v (.string ⟨#[47]⟩)),(8, .v (.string ⟨#[]⟩)),(30, .v (.string ⟨#[52]⟩))] [] ?_
 refine xc 51 [.string ⟨#[52]⟩] 31 (fun x:ByteArray × ByteArray=>.tuple #[.string x.1, .string x.2]) _ (fun w R Q=>(Zcm ⟨#[52]⟩ _ (by decide)).mono (fun _ _=>Zgl)) (fun xx=>?_)
 obtain ⟨t2,u2⟩:=xx
 refine xr 5 [(2, .v (.string ⟨#[]⟩)),(3, .v (.int .i64 0)),(4, .v (.string u2)),(5, .v (.bool true)),(6, .v (.string ⟨#[48,54]⟩)),(7, .v (.string ⟨#[47]⟩)),(8, .v (.string t2))] [] ?_
 refine xe (Zaa (Zac (Zac ?_)))
 refine SXc.know (p:=bytes t2=[52].takeWhile Zao∧bytes u2=[52].dropWhile Zao) (fun w _ Q=>Q.2) (fun HC=>?_)
 obtain rfl:t2=⟨#[52]⟩:=Zcc HC.1
 obtain rfl:u2=⟨#[]⟩:=Zcc HC.2
 refine Zab (xr 2 [(2, .v (.string ⟨#[]⟩)),(3, .v (.int .i64 0)),(4, .v (.string ⟨#[]⟩)),(5, .v (.bool true)),(6, .v (.string ⟨#[48,54]⟩)),(7, .v (.string ⟨#[47]⟩)),(8, .v (.string ⟨#[52]⟩)),(35, .v (.bool ((⟨#[48,54]⟩:ByteArray).toList == (⟨#[]⟩:ByteArray).toList)))] [] ?_)
 rw [(show ((⟨#[48,54]⟩:ByteArray).toList == (⟨#[]⟩:ByteArray).toList)=false from Zg9 (by decide))]
 refine xr 3 [(2, .v (.string ⟨#[]⟩)),(3, .v (.int .i64 0)),(5, .v (.bool true)),(6, .v (.string ⟨#[48,54]⟩)),(7, .v (.string ⟨#[47]⟩)),(8, .v (.string ⟨#[52]⟩)),(36, .v (.bool false)),(38, .v (.bool (!((⟨#[]⟩:ByteArray).toList == (⟨#[]⟩:ByteArray).toList))))] [] ?_
 rw [Zb6,Bool.not_true]
 refine xr 4 [(2, .v (.string ⟨#[]⟩)),(3, .v (.int .i64 0)),(5, .v (.bool true)),(6, .v (.string ⟨#[48,54]⟩)),(7, .v (.string ⟨#[47]⟩)),(8, .v (.string ⟨#[52]⟩)),(40, .v (.bool false)),(42, .v (.bool (!((⟨#[47]⟩:ByteArray).toList == (⟨#[]⟩:ByteArray).toList))))] [] ?_
 rw [(show ((⟨#[47]⟩:ByteArray).toList == (⟨#[]⟩:ByteArray).toList)=false from Zg9 (by decide)),Bool.not_false]
 refine xr 3 [(2, .v (.string ⟨#[]⟩)),(3, .v (.int .i64 0)),(5, .v (.bool true)),(6, .v (.string ⟨#[48,54]⟩)),(7, .v (.string ⟨#[47]⟩)),(8, .v (.string ⟨#[52]⟩)),(40, .v (.bool false)),(43, .v (.bool true)),(45, .v (.bool ((⟨#[52]⟩:ByteArray).toList == (⟨#[]⟩:ByteArray).toList)))] [] ?_
 rw [(show ((⟨#[52]⟩:ByteArray).toList == (⟨#[]⟩:ByteArray).toList)=false from Zg9 (by decide))]
 refine xr 2 [(2, .v (.string ⟨#[]⟩)),(3, .v (.int .i64 0)),(5, .v (.bool true)),(6, .v (.string ⟨#[48,54]⟩)),(7, .v (.string ⟨#[47]⟩)),(8, .v (.string ⟨#[52]⟩)),(47, .v (.bool false))] [] ?_
 refine xe (Zaa (xb (Zax (Zaa (Zac (Zab (xr 1 [(2, .v (.string ⟨#[]⟩)),(3, .v (.int .i64 0)),(5, .v (.bool true)),(6, .v (.string ⟨#[48,54]⟩)),(7, .v (.string ⟨#[47]⟩)),(8, .v (.string ⟨#[52]⟩)),(48, .v (.string ⟨#[48,54]⟩))] [] ?_)))))))
 refine xc 52 [.string ⟨#[48,54]⟩] 49 Zav _ (fun w R Q=>(Zc8 ⟨#[48,54]⟩ _ (by decide) (Zov (by decide))).mono (fun _ _ h=>Zak (by rw [show ((Zaf (bytes ⟨#[48,54]⟩):Nat):Int)=6 from rfl] at h; exact h))) (fun xx=>?_)
 obtain ⟨s10,A10,l10,c10⟩:=xx
 refine xr 0 [(2, .v (.string ⟨#[]⟩)),(3, .v (.int .i64 0)),(5, .v (.bool true)),(6, .v (.string ⟨#[48,54]⟩)),(7, .v (.string ⟨#[47]⟩)),(8, .v (.string ⟨#[52]⟩)),eI2 49 s10 A10 l10 c10] [] ?_
 refine xc 53 [.int .i64 1] 50 Zav _ (fun w R Q=>(Zjn 1 _ (by rw [Zal]; omega) (by decide) (by decide)).mono (fun _ _=>Zak)) (fun xx=>?_)
 obtain ⟨s11,A11,l11,c11⟩:=xx
 refine xr 4 [(2, .v (.string ⟨#[]⟩)),(3, .v (.int .i64 0)),(5, .v (.bool true)),(6, .v (.string ⟨#[48,54]⟩)),(7, .v (.string ⟨#[47]⟩)),(8, .v (.string ⟨#[52]⟩)),(9, .p 9 0),(10, .p 10 0)] [bI2 10 135 s11 A11 l11 c11,bI2 9 135 s10 A10 l10 c10] ?_
 refine xe (Zaa (Zac (Zac (Zab (xr 1 [(2, .v (.string ⟨#[]⟩)),(3, .v (.int .i64 0)),(5, .v (.bool true)),(6, .v (.string ⟨#[48,54]⟩)),(8, .v (.string ⟨#[52]⟩)),(9, .p 9 0),(10, .p 10 0),(51, .v (.string ⟨#[47]⟩))] [bI2 10 135 s11 A11 l11 c11,bI2 9 135 s10 A10 l10 c10] ?_)))))
 refine xe (Zaa (Za4 (Zac (Zab (xr 1 [(2, .v (.string ⟨#[]⟩)),(3, .v (.int .i64 0)),(5, .v (.bool true)),(6, .v (.string ⟨#[48,54]⟩)),(8, .v (.string ⟨#[52]⟩)),(9, .p 9 0),(10, .p 10 0),(51, .v (.string ⟨#[47]⟩)),(53, .v (.bool ((⟨#[47]⟩:ByteArray).toList == (⟨#[]⟩:ByteArray).toList)))] [bI2 10 135 s11 A11 l11 c11,bI2 9 135 s10 A10 l10 c10] ?_)))))
 rw [(show ((⟨#[47]⟩:ByteArray).toList == (⟨#[]⟩:ByteArray).toList)=false from Zg9 (by decide))]
 refine xr 1 [(2, .v (.string ⟨#[]⟩)),(3, .v (.int .i64 0)),(5, .v (.bool true)),(6, .v (.string ⟨#[48,54]⟩)),(8, .v (.string ⟨#[52]⟩)),(9, .p 9 0),(10, .p 10 0),(51, .v (.string ⟨#[47]⟩)),(52, .v (.bool false))] [bI2 10 135 s11 A11 l11 c11,bI2 9 135 s10 A10 l10 c10] ?_
 refine xe (Zaa (xb (Zac (Zab (xr 1 [(2, .v (.string ⟨#[]⟩)),(3, .v (.int .i64 0)),(5, .v (.bool true)),(6, .v (.string ⟨#[48,54]⟩)),(8, .v (.string ⟨#[52]⟩)),(9, .p 9 0),(10, .p 10 0),(51, .v (.string ⟨#[47]⟩)),(55, .v (.bool ((⟨#[47]⟩:ByteArray).toList == (⟨#[47]⟩:ByteArray).toList)))] [bI2 10 135 s11 A11 l11 c11,bI2 9 135 s10 A10 l10 c10] ?_)))))
 rw [Zb6]
 refine xr 1 [(2, .v (.string ⟨#[]⟩)),(3, .v (.int .i64 0)),(5, .v (.bool true)),(6, .v (.string ⟨#[48,54]⟩)),(8, .v (.string ⟨#[52]⟩)),(9, .p 9 0),(10, .p 10 0),(51, .v (.string ⟨#[47]⟩)),(54, .v (.bool true))] [bI2 10 135 s11 A11 l11 c11,bI2 9 135 s10 A10 l10 c10] ?_
 refine xe (Zaa (xa (Zab (xr 1 [(2, .v (.string ⟨#[]⟩)),(3, .v (.int .i64 0)),(5, .v (.bool true)),(9, .p 9 0),(10, .p 10 0),(56, .v (.string ⟨#[52]⟩))] [bI2 10 135 s11 A11 l11 c11,bI2 9 135 s10 A10 l10 c10] ?_))))
 refine xc 52 [.string ⟨#[52]⟩] 57 Zav _ (fun w R Q=>(Zc8 ⟨#[52]⟩ _ (by decide) (Zov (by decide))).mono (fun _ _ h=>Zak (by rw [show ((Zaf (bytes ⟨#[52]⟩):Nat):Int)=4 from rfl] at h; exact h))) (fun xx=>?_)
 obtain ⟨s12,A12,l12,c12⟩:=xx
 refine xr 1 [(2, .v (.string ⟨#[]⟩)),(3, .v (.int .i64 0)),(5, .v (.bool true)),(9, .p 9 0),(10, .p 10 0)] [bI2 10 135 s12 A12 l12 c12,bI2 9 135 s10 A10 l10 c10] ?_
 refine xe (Zdq (Zaa (Zac (Zac (Zab (xr 1 [(2, .v (.string ⟨#[]⟩)),(3, .v (.int .i64 0)),(5, .v (.bool true)),(9, .p 9 0),(10, .p 10 0),eI2 69 s12 A12 l12 c12] [bI2 10 135 s12 A12 l12 c12,bI2 9 135 s10 A10 l10 c10] ?_))))))
 refine xc 55 [vI2 s12 A12 l12 c12] 70 (fun _:Unit=>.bool false) _ (fun w R Q=>(Zau _ (4) _ Q.2).mono (fun _ _ h=>Zae h (by rw [decide_eq_false (p:=(4)=0) (by decide)]))) (fun xx=>?_)
 refine xr 0 [(2, .v (.string ⟨#[]⟩)),(3, .v (.int .i64 0)),(5, .v (.bool true)),(9, .p 9 0),(10, .p 10 0),(70, .v (.bool false))] [bI2 10 135 s12 A12 l12 c12,bI2 9 135 s10 A10 l10 c10] ?_
 refine xe (Zaa (xb (Zax (Zaa (Zac (Zac (Zab (xr 1 [(2, .v (.string ⟨#[]⟩)),(3, .v (.int .i64 0)),(9, .p 9 0),(10, .p 10 0),(71, .v (.bool true))] [bI2 10 135 s12 A12 l12 c12,bI2 9 135 s10 A10 l10 c10] ?_))))))))
 refine xe (Zaa (xa (Zab (xr 1 [(2, .v (.string ⟨#[]⟩)),(3, .v (.int .i64 0)),(9, .p 9 0),(10, .p 10 0),eI2 72 s10 A10 l10 c10] [bI2 10 135 s12 A12 l12 c12,bI2 9 135 s10 A10 l10 c10] ?_))))
 refine xc 56 [vI2 s10 A10 l10 c10] 73 Zav _ (fun w R Q=>(Zd2 _ (6) _ Q.1.1.1.2).mono (fun _ _=>Zak)) (fun xx=>?_)
 obtain ⟨s13,A13,l13,c13⟩:=xx
 refine xr 1 [(2, .v (.string ⟨#[]⟩)),(3, .v (.int .i64 0)),(9, .p 9 0),(10, .p 10 0)] [bI2 10 135 s12 A12 l12 c12,bI2 9 135 s13 A13 l13 c13] ?_
 refine xe (Zaa (Zac (Zab (xr 2 [(2, .v (.string ⟨#[]⟩)),(3, .v (.int .i64 0)),eI2 74 s13 A13 l13 c13,eI2 75 s12 A12 l12 c12] [] ?_))))
 refine xc 57 [vI2 s13 A13 l13 c13,vI2 s12 A12 l12 c12] 76 Zbf _ (fun w R Q=>(ZkZ _ _ (-(6)) (4) _ Q.1.1.1.1.1.1.1.1 Q.2 Q.1.1.2 (Zou (Zkl ex6)) (Zou ex4) (ZcL.words (p4w (Zkl ex6)) (p4w ex4)) (p4lt ex4) (by decide)).mono (fun _ _=>ZaK)) (fun xx=>?_)
 obtain ⟨s14,A14,l14,c14,t14,B14,m14,d14⟩:=xx
 refine xr 0 [(2, .v (.string ⟨#[]⟩)),(3, .v (.int .i64 0)),eR4 76 s14 A14 l14 c14 t14 B14 m14 d14] [] ?_
 refine xc 58 [vR4 s14 A14 l14 c14 t14 B14 m14 d14] 77 (fun _:Unit=>.string ⟨#[45,51,47,50]⟩) _ (fun w R Q=>(ZcX _ (Rat.divInt (-6) 4) _ Q.1.1.1.1.1.1.1.1.1 Q.2 (Zow (by decide) (Zkl ex6) ex4).1 (Zow (by decide) (Zkl ex6) ex4).2).mono (fun _ _ h=>Zae h (by rw [tm32]))) (fun xx=>?_)
 refine xr 2 [(2, .v (.string ⟨#[45,51,47,50]⟩)),(3, .v (.int .i64 0))] [] ?_
 refine xe (Zaa (Zas ?_))
 refine Zam (v:=.tuple #[.string ⟨#[45,51,47,50]⟩, .int .i64 0]) (by kernel_rfl) (fun w' R Q=>?_)
 exact ⟨rfl,R⟩
end Go.Proofs.YtcpjeaaapocoeaaGreatDoor

namespace Go.Proofs.YtcpjeaaapocoeaaGreatDoor
open Go.RowKit
theorem Zbw (w:World) (hg:Glob w) :
 Calls Tryz.prog 19 #[] w (RetV w (.bool true)):=by
 refine ZaA (Φ:=fun w=>Glob w) Tryz.func19 rfl (by kernel_rfl) (fun w' hf=>hg.ext hf) ?_
 refine Zac (Zab (xr 1 [(0, .v (.bool false))] [] ?_))
 refine xe (Zaa (Zac (Zab ?_)))
 refine xc 18 [.string ⟨#[45,48,54,47,52]⟩] 6 (fun _:Unit=>.tuple #[.string ⟨#[45,51,47,50]⟩, .int .i64 0]) _ (fun w R Q=>(Zon _ Q).mono (fun _ _ h=>Zae h (rfl))) (fun xx=>?_)
 refine xr 5 [(0, .v (.bool false)),(1, .v (.string ⟨#[45,51,47,50]⟩)),(2, .v (.int .i64 0))] [] ?_
 refine xe (Zaa (Zac (Zab ?_)))
 refine xc 59 [.string ⟨#[49]⟩, .string ⟨#[51]⟩] 10 (fun _:Unit=>.tuple #[.string ⟨#[49,47,51]⟩, .bool true]) _ (fun w R Q=>(Zo7 ⟨#[49]⟩ ⟨#[51]⟩ _ Q.1 (by decide) (by decide) ZpB).mono (fun _ _ h=>Zae h (by rw [show bytes ⟨#[49]⟩=[49] from rfl,show bytes ⟨#[51]⟩=[51] from rfl,Zpq]))) (fun xx=>?_)
 refine xr 5 [(0, .v (.bool false)),(1, .v (.string ⟨#[45,51,47,50]⟩)),(2, .v (.int .i64 0)),(3, .v (.string ⟨#[49,47,51]⟩)),(4, .v (.bool true))] [] ?_
 refine xe (Zaa (Zac (Zab (xr 2 [(0, .v (.bool false)),(2, .v (.int .i64 0)),(3, .v (.string ⟨#[49,47,51]⟩)),(4, .v (.bool true)),(14, .v (.bool ((⟨#[45,51,47,50]⟩:ByteArray).toList == (⟨#[45,51,47,50]⟩:ByteArray).toList)))] [] ?_))))
 rw [Zb6]
 refine xr 7 [(0, .v (.bool false)),(4, .v (.bool true)),(19, .v (.bool true)),(21, .v (.bool ((⟨#[49,47,51]⟩:ByteArray).toList == (⟨#[49,47,51]⟩:ByteArray).toList)))] [] ?_
 rw [Zb6]
 refine xr 5 [(0, .v (.bool false)),(26, .v (.bool true))] [] ?_
 refine xc 60 [.string ⟨#[49,47,50]⟩, .string ⟨#[49,47,51]⟩] 27 (fun _:Unit=>.string ⟨#[53,47,54]⟩) _ (fun w R Q=>(Zoj ⟨#[49,47,50]⟩ ⟨#[49,47,51]⟩ _ Q.1.1 (by decide) (by decide)).mono (fun _ _ h=>Zae h (by rw [show bytes ⟨#[49,47,50]⟩=[49,47,50] from rfl,show bytes ⟨#[49,47,51]⟩=[49,47,51] from rfl,Zpr]))) (fun xx=>?_)
 refine xr 1 [(0, .v (.bool false)),(26, .v (.bool true)),(28, .v (.bool ((⟨#[53,47,54]⟩:ByteArray).toList == (⟨#[53,47,54]⟩:ByteArray).toList)))] [] ?_
 rw [Zb6]
 refine xr 2 [(0, .v (.bool false)),(30, .v (.bool true))] [] ?_
 refine xc 61 [.string ⟨#[45,50,47,51]⟩, .string ⟨#[51]⟩] 31 (fun _:Unit=>.string ⟨#[45,50]⟩) _ (fun w R Q=>(Zok ⟨#[45,50,47,51]⟩ ⟨#[51]⟩ _ Q.1.1.1 (by decide) (by decide)).mono (fun _ _ h=>Zae h (by rw [show bytes ⟨#[45,50,47,51]⟩=[45,50,47,51] from rfl,show bytes ⟨#[51]⟩=[51] from rfl,Zps]))) (fun xx=>?_)
 refine xr 1 [(0, .v (.bool false)),(30, .v (.bool true)),(32, .v (.bool ((⟨#[45,50]⟩:ByteArray).toList == (⟨#[45,50]⟩:ByteArray).toList)))] [] ?_
 rw [Zb6]
 refine xr 2 [(0, .v (.bool false)),(34, .v (.bool true))] [] ?_
 refine xc 62 [.string ⟨#[49,47,51]⟩, .string ⟨#[49,47,50]⟩] 35 (fun _:Unit=>.int .i64 (-1)) _ (fun w R Q=>(Zlg ⟨#[49,47,51]⟩ ⟨#[49,47,50]⟩ _ Q.1.1.1.1 (by decide) (by decide)).mono (fun _ _ h=>Zae h (by rw [show bytes ⟨#[49,47,51]⟩=[49,47,51] from rfl,show bytes ⟨#[49,47,50]⟩=[49,47,50] from rfl,Zpt]))) (fun xx=>?_)
 refine xr 3 [(0, .v (.bool true))] [] ?_
 refine xe (Zaa (Zas ?_))
 refine Zam (v:=.bool true) (by kernel_rfl) (fun w' R Q=>?_)
 exact ⟨rfl,R⟩
end Go.Proofs.YtcpjeaaapocoeaaGreatDoor

namespace Go.Proofs.YtcpjeaaapocoeaaGreatDoor
open Go.RowKit
end Go.Proofs.YtcpjeaaapocoeaaGreatDoor

namespace Go.Proofs.YtcpjeaaapocoeaaGreatDoor
open Go.RowKit
end Go.Proofs.YtcpjeaaapocoeaaGreatDoor

namespace Go.Proofs.YtcpjeaaapocoeaaGreatDoor
open Go.RowKit
theorem Zha (a p:Int) (hp:0 < p):a % p=if a.tmod p < 0 then a.tmod p + p else a.tmod p:=by
 have h1:=Int.tmod_eq_emod (a:=a) (b:=p)
 have h2:=Int.emod_nonneg a (b:=p) (by omega)
 have h3:=Int.emod_lt_of_pos a hp
 rw [h1]
 split
 ·split<;>omega
 ·split<;>omega
end Go.Proofs.YtcpjeaaapocoeaaGreatDoor

namespace Go.Proofs.YtcpjeaaapocoeaaGreatDoor
open Go.RowKit
set_option maxHeartbeats 1000000 in
theorem Zli (a p:Int) (w:World) (hp:0 < p) (hp2:p≤4294967296) :
 Calls Tryz.prog 17 #[.int .i64 a, .int .i64 p] w fun e w'=>e=.returned (.int .i64 (a % p))∧w=w':=by
 have HE:=zh (Zha a p hp)
 have g1:((p:Int) == 0)=false:=by simp; omega
 have b1 : -p < a.tmod p:=by have:=Zha a p hp; have:=Int.emod_nonneg a (b:=p) (by omega); have h4:=Int.tmod_eq_emod (a:=a) (b:=p); have:=Int.emod_lt_of_pos a hp; rw [h4]; split<;>omega
 have b2:a.tmod p < p:=Int.tmod_lt_of_pos a hp
 by_cases hn:a.tmod p < 0
 ·rw [if_pos hn] at HE
  go_enter Tryz.func17,Tryz.ntmps17
  go_wp2
  go_ret
  exact ⟨by rw [HE.out]; rfl,rfl⟩
 ·rw [if_neg hn] at HE
  go_enter Tryz.func17,Tryz.ntmps17
  go_wp2
  go_ret
  exact ⟨by rw [HE.out]; rfl,rfl⟩
end Go.Proofs.YtcpjeaaapocoeaaGreatDoor

namespace Go.Proofs.YtcpjeaaapocoeaaGreatDoor
open Go.RowKit
def Zc2 (k c:Nat):ByteArray:=⟨(List.replicate k (UInt8.ofNat (48 + c))).toArray⟩
def rlT (k c:Nat):ByteArray:=if 8192 < k then ⟨#[]⟩ else if k=0 then ⟨#[]⟩ else if c=0 then ⟨#[48]⟩ else Zc2 k c
def rlE (k:Nat):Int:=if 8192 < k then 2 else if k=0 then 6 else 0
theorem Zen (k c:Nat):bytes (Zc2 k c)=List.replicate k (UInt8.ofNat (48 + c)):=Zik _
theorem ZpD {c:Nat} (hc:c < 10):Zao (UInt8.ofNat (48 + c))=true:=by
 obtain rfl | rfl | rfl | rfl | rfl | rfl | rfl | rfl | rfl | rfl:c=0∨c=1∨c=2∨c=3∨c=4∨c=5∨c=6∨c=7∨c=8∨c=9:=by omega
 all_goals decide
theorem ZjZ {k c:Nat} (hc:c < 10):(bytes (Zc2 k c)).all Zao=true:=by
 rw [Zen,List.all_eq_true]
 intro x hx
 rw [List.eq_of_mem_replicate hx]
 exact ZpD hc
theorem ZmK (k:Nat):Zaf (bytes (Zc2 k 0))=0:=by
 rw [Zen]
 induction k with
 | zero=>rfl
 | succ k ih =>
   have h0:(UInt8.ofNat (48 + 0)).toNat - 48=0:=by decide
   rw [List.replicate_succ,Zfu,ih,h0,Nat.zero_mul]
theorem Zhb (k c:Nat) (hc:c < 10) (w:World) (hg:Glob w):Calls Tryz.prog 18 #[.string (Zc2 k c)] w (RetV w (.tuple #[.string (rlT k c), .int .i64 (rlE k)])):=by
 have hl:(bytes (Zc2 k c)).length=k:=by rw [Zen,List.length_replicate]
 unfold rlT rlE
 by_cases h1:8192 < k
 ·rw [if_pos h1,if_pos h1]
  exact ZmJ _ w hg (by rw [hl]; exact h1)
 rw [if_neg h1,if_neg h1]
 by_cases h2:k=0
 ·rw [if_pos h2,if_pos h2]
  subst h2
  exact ZmI w hg
 rw [if_neg h2,if_neg h2]
 have hne:¬ bytes (Zc2 k c)=[]:=fun e=>by rw [e] at hl; simp at hl; omega
 have h:=ZmH (Zc2 k c) w hg (ZjZ hc) hne (by rw [hl]; omega)
 by_cases h3:c=0
 ·rw [if_pos h3]
  subst h3
  rw [ZmK,ZnB] at h
  exact h
 ·rw [if_neg h3]
  rw [ZnA (ZjZ hc) hne ?_] at h
  ·exact h
  ·rw [Zen]
   cases k with
   | zero=>exact absurd rfl h2
   | succ k =>
     rw [List.replicate_succ,List.head?_cons]
     intro e
     injection e with e
     have e2:=congrArg UInt8.toNat e
     rw [UInt8.toNat_ofNat'] at e2
     have:(48:UInt8).toNat=48:=rfl
     omega
theorem Zec {w:World} {b k c:Nat} {t:TypeId} (h:Own .u8 t w b (List.replicate k (48 + c))) (hc:c < 10) (l:List UInt8) (hl:l=List.replicate k (UInt8.ofNat (48 + c))) :
 ∀ j (hj:j < l.length),w.cell? ((⟨b,0,none⟩:Addr).add j)=some (.int .u8 (l[j].toNat:Int)):=fun j hj=>by
 subst hl
 have hj':j < k:=by simpa using hj
 have:=h.cell (i:=j) (by simpa using hj')
 rw [Lib.add_plain,Nat.zero_add,this]
 simp only [List.getElem_replicate,UInt8.toNat_ofNat']
 rw [List.getElem?_replicate,if_pos hj']
 have:(48 + c) % 256=48 + c:=by omega
 simp [this]
theorem ZjA {j m v:Nat} (h:j < m):(List.replicate j v ++ List.replicate (m - j) 0).set j v=List.replicate (j + 1) v ++ List.replicate (m - (j + 1)) 0:=by
 rw [show m - j=(m - (j + 1)) + 1 by omega,List.replicate_succ,List.set_append_right _ _ (by simp),List.length_replicate,Nat.sub_self,List.set_cons_zero,List.replicate_succ',List.append_assoc]
 rfl
theorem Zlj:(Tryz.prog.info? 5).map (fun i=>(i.zero,i.size,i.bytes))=some (some (.int .u8 0),1,1):=by kernel_rfl
set_option maxHeartbeats 8000000 in
theorem Zim (n:Int) (x:Nat) (hx:x < 256) (w:World) (hg:Glob w):Calls Tryz.prog 4 #[.int .i64 n, .int .u8 (x:Int)] w (RetV w (.bool true)):=by
 obtain ⟨k,hk0⟩:∃ k:Nat,n % 8232=(k:Int):=⟨(n % 8232).toNat,by omega⟩
 have hk8:k≤8231:=by omega
 obtain ⟨c,hc⟩:∃ c:Nat,x % 10=c:=⟨_,rfl⟩
 have hc2:c < 10:=by omega
 have ec:((x:Nat):Int) % 10=(c:Int):=by omega
 have ec2:((x:Nat):Int).tmod 10=(c:Int):=by rw [Int.tmod_eq_emod_of_nonneg (by omega)]; exact ec
 have e48:IntKind.u8.wrap (48 + (c:Int))=((48 + c:Nat):Int):=by rw [IntKind.wrap_u8]; omega
 have ew:IntKind.u8.wrap (c:Int)=(c:Int):=by rw [IntKind.wrap_u8]; omega
 have HG:=zh hg
 clear hg hc
 go_enter Tryz.func4,Tryz.ntmps4
 go_wp2_with fail
 refine (Zli n 8232 _ (by omega) (by omega)).mono ?_
 rintro e w1 ⟨rfl,rfl⟩
 rw [hk0]
 clear hk0
 have key:k≤300∨(300 < k∧k < 7892)∨(300 < k∧7892≤k):=by omega
 rcases key with h | ⟨h,h2⟩ | ⟨h,h2⟩
 ·obtain ⟨m,hm8,he⟩:∃ m:Nat,m≤8231∧(k:Int)=(m:Int):=⟨k,hk8,rfl⟩
  go_wp2_with (at_make
               refine ZaD rfl _ _ _ rfl _ .u8 1 Tryz.underlying37 Zlj _ _ _ _ m rfl rfl (by first | rfl | exact he) (by first | rfl | exact he) (by omega) (by omega) ?_
               intro b w1 hb hO1 _ hF1 hs1
               have HO:Hid (Own .u8 5 w1 b (List.replicate 0 (48 + c) ++ List.replicate (m - 0) 0)):=hO1
               have HF:=zh hF1
               have HB:=zh hb
               clear hO1 hF1 hb hs1)
  clear h hk8 he
  go_loopw [6] (fun v wr=>∃ j:Nat,j≤m∧v=.int .i64 (j:Int)∧Hid (Own .u8 5 wr b (List.replicate j (48 + c) ++ List.replicate (m - j) 0))∧Hid (Ext w wr)) (fun v _=>m - (intOf v).toNat)
  case atStart=>exact ⟨0,by omega,rfl,HO.out,HF.out⟩
  case round =>
   obtain ⟨j,hj,rfl,hO,Q⟩:=hrel
   by_cases hlt:j < m
   ·have hj0:(0:Int)≤(j:Int):=by omega
    have hjm:(j:Int) < (m:Int):=by omega
    have hlen:(List.replicate j (48 + c) ++ List.replicate (m - j) 0).length=m:=by simp; omega
    obtain ⟨u,hu⟩:∃ u,(List.replicate j (48 + c) ++ List.replicate (m - j) 0)[j]?.getD 0=u:=⟨_,rfl⟩
    have hcell:=hO.out.cell (i:=j) (by omega)
    rw [hu] at hcell
    have hfrz:=hO.out.frozen j
    have HN:Hid (Own .u8 5 (wr.setCell ⟨b,j,none⟩ (.int .u8 ((48 + c:Nat):Int))) b (List.replicate (j + 1) (48 + c) ++ List.replicate (m - (j + 1)) 0)):=by
     have h:=hO.out.set j (48 + c) (by omega)
     rw [ZjA (by omega)] at h
     exact h
    have HX:Hid (Ext w (wr.setCell ⟨b,j,none⟩ (.int .u8 ((48 + c:Nat):Int)))):=Q.out.setCell (p:=⟨b,j,none⟩) (Or.inr (by rw [HB.out]; exact Nat.le_refl _)) _
    clear hu hlen hO Q
    go_wp2
    go_roundw
    case rel=>exact ⟨j + 1,by omega,by go_num,HN.out,HX.out⟩
    case measure=>simp [intOf]; omega
   ·obtain rfl:j=m:=by omega
    have hO2:Own .u8 5 wr b (List.replicate j (48 + c)):=by
     have h:=hO.out
     rwa [Nat.sub_self,List.replicate_zero,List.append_nil] at h
    have hcv:=run_convert_bytes_back (P:=Tryz.prog) wr 37 9 5 ⟨b,0,none⟩ j (List.replicate j (UInt8.ofNat (48 + c))) Tryz.underlying37 Tryz.underlying5 Tryz.underlying9 (Zec hO2 hc2 _ rfl)
    rw [List.length_replicate] at hcv
    have HG1:=zh (HG.out.ext Q.out)
    have HO2:=zh hO2
    clear hO2 hO
    change _=Result.ok (Value.string (Zc2 j c)) wr at hcv
    have hE1:=Q
    clear Q
    go_wp2_with fail
    refine (Zhb j c hc2 _ HG1.out).mono ?_
    rintro e w2 ⟨rfl,hE2⟩
    have HE2:=zh hE2
    have hcv2:=run_convert_bytes_back (P:=Tryz.prog) w2 37 9 5 ⟨b,0,none⟩ j (List.replicate j (UInt8.ofNat (48 + c))) Tryz.underlying37 Tryz.underlying5 Tryz.underlying9 (Zec (HO2.out.ext hE2) hc2 _ rfl)
    rw [List.length_replicate] at hcv2
    change _=Result.ok (Value.string (Zc2 j c)) w2 at hcv2
    have HX2:Hid (Ext w w2):=hE1.out.trans hE2
    have HG2:Hid (Glob w2):=HG1.out.ext hE2
    clear hE2 HE2 hcv
    unfold rlT rlE
    by_cases q1:8192 < j
    ·have q1':(8192:Int) < (j:Int):=by omega
     simp only [q1,if_true]
     go_wp2_with fail
     refine (Zbw _ HG2.out).mono ?_
     rintro e w3 ⟨rfl,hE3⟩
     have HX3:Hid (Ext w w3):=HX2.out.trans hE3
     clear hE3
     go_wp2
     go_ret
     exact ⟨rfl,HX3.out⟩
    ·have q1':(j:Int)≤8192:=by omega
     simp only [q1,if_false]
     by_cases q2:j=0
     ·have q2':((j:Int) == 0)=true:=by simp; omega
      simp only [if_pos q2]
      go_wp2_with fail
      refine (Zbw _ HG2.out).mono ?_
      rintro e w3 ⟨rfl,hE3⟩
      have HX3:Hid (Ext w w3):=HX2.out.trans hE3
      clear hE3
      go_wp2
      go_ret
      exact ⟨rfl,HX3.out⟩
     ·have q2':((j:Int) == 0)=false:=by simp; omega
      simp only [if_neg q2]
      by_cases q3:c=0
      ·have q3':((c:Int) == 0)=true:=by simp; omega
       simp only [if_pos q3]
       go_wp2_with fail
       refine (Zbw _ HG2.out).mono ?_
       rintro e w3 ⟨rfl,hE3⟩
       have HX3:Hid (Ext w w3):=HX2.out.trans hE3
       clear hE3
       go_wp2
       go_ret
       exact ⟨rfl,HX3.out⟩
      ·have q3':((c:Int) == 0)=false:=by simp; omega
       simp only [if_neg q3]
       go_wp2_with fail
       refine (Zbw _ HG2.out).mono ?_
       rintro e w3 ⟨rfl,hE3⟩
       have HX3:Hid (Ext w w3):=HX2.out.trans hE3
       clear hE3
       go_wp2
       go_ret
       exact ⟨rfl,HX3.out⟩
 ·obtain ⟨m,hm8,he⟩:∃ m:Nat,m≤8231∧(300:Int)=(m:Int):=⟨300,by omega,rfl⟩
  go_wp2_with (at_make
               refine ZaD rfl _ _ _ rfl _ .u8 1 Tryz.underlying37 Zlj _ _ _ _ m rfl rfl (by first | rfl | exact he) (by first | rfl | exact he) (by omega) (by omega) ?_
               intro b w1 hb hO1 _ hF1 hs1
               have HO:Hid (Own .u8 5 w1 b (List.replicate 0 (48 + c) ++ List.replicate (m - 0) 0)):=hO1
               have HF:=zh hF1
               have HB:=zh hb
               clear hO1 hF1 hb hs1)
  clear h h2 he
  go_loopw [6] (fun v wr=>∃ j:Nat,j≤m∧v=.int .i64 (j:Int)∧Hid (Own .u8 5 wr b (List.replicate j (48 + c) ++ List.replicate (m - j) 0))∧Hid (Ext w wr)) (fun v _=>m - (intOf v).toNat)
  case atStart=>exact ⟨0,by omega,rfl,HO.out,HF.out⟩
  case round =>
   obtain ⟨j,hj,rfl,hO,Q⟩:=hrel
   by_cases hlt:j < m
   ·have hj0:(0:Int)≤(j:Int):=by omega
    have hjm:(j:Int) < (m:Int):=by omega
    have hlen:(List.replicate j (48 + c) ++ List.replicate (m - j) 0).length=m:=by simp; omega
    obtain ⟨u,hu⟩:∃ u,(List.replicate j (48 + c) ++ List.replicate (m - j) 0)[j]?.getD 0=u:=⟨_,rfl⟩
    have hcell:=hO.out.cell (i:=j) (by omega)
    rw [hu] at hcell
    have hfrz:=hO.out.frozen j
    have HN:Hid (Own .u8 5 (wr.setCell ⟨b,j,none⟩ (.int .u8 ((48 + c:Nat):Int))) b (List.replicate (j + 1) (48 + c) ++ List.replicate (m - (j + 1)) 0)):=by
     have h:=hO.out.set j (48 + c) (by omega)
     rw [ZjA (by omega)] at h
     exact h
    have HX:Hid (Ext w (wr.setCell ⟨b,j,none⟩ (.int .u8 ((48 + c:Nat):Int)))):=Q.out.setCell (p:=⟨b,j,none⟩) (Or.inr (by rw [HB.out]; exact Nat.le_refl _)) _
    clear hu hlen hO Q
    go_wp2
    go_roundw
    case rel=>exact ⟨j + 1,by omega,by go_num,HN.out,HX.out⟩
    case measure=>simp [intOf]; omega
   ·obtain rfl:j=m:=by omega
    have hO2:Own .u8 5 wr b (List.replicate j (48 + c)):=by
     have h:=hO.out
     rwa [Nat.sub_self,List.replicate_zero,List.append_nil] at h
    have hcv:=run_convert_bytes_back (P:=Tryz.prog) wr 37 9 5 ⟨b,0,none⟩ j (List.replicate j (UInt8.ofNat (48 + c))) Tryz.underlying37 Tryz.underlying5 Tryz.underlying9 (Zec hO2 hc2 _ rfl)
    rw [List.length_replicate] at hcv
    have HG1:=zh (HG.out.ext Q.out)
    have HO2:=zh hO2
    clear hO2 hO
    change _=Result.ok (Value.string (Zc2 j c)) wr at hcv
    have hE1:=Q
    clear Q
    go_wp2_with fail
    refine (Zhb j c hc2 _ HG1.out).mono ?_
    rintro e w2 ⟨rfl,hE2⟩
    have HE2:=zh hE2
    have hcv2:=run_convert_bytes_back (P:=Tryz.prog) w2 37 9 5 ⟨b,0,none⟩ j (List.replicate j (UInt8.ofNat (48 + c))) Tryz.underlying37 Tryz.underlying5 Tryz.underlying9 (Zec (HO2.out.ext hE2) hc2 _ rfl)
    rw [List.length_replicate] at hcv2
    change _=Result.ok (Value.string (Zc2 j c)) w2 at hcv2
    have HX2:Hid (Ext w w2):=hE1.out.trans hE2
    have HG2:Hid (Glob w2):=HG1.out.ext hE2
    clear hE2 HE2 hcv
    unfold rlT rlE
    by_cases q1:8192 < j
    ·have q1':(8192:Int) < (j:Int):=by omega
     simp only [q1,if_true]
     go_wp2_with fail
     refine (Zbw _ HG2.out).mono ?_
     rintro e w3 ⟨rfl,hE3⟩
     have HX3:Hid (Ext w w3):=HX2.out.trans hE3
     clear hE3
     go_wp2
     go_ret
     exact ⟨rfl,HX3.out⟩
    ·have q1':(j:Int)≤8192:=by omega
     simp only [q1,if_false]
     by_cases q2:j=0
     ·have q2':((j:Int) == 0)=true:=by simp; omega
      simp only [if_pos q2]
      go_wp2_with fail
      refine (Zbw _ HG2.out).mono ?_
      rintro e w3 ⟨rfl,hE3⟩
      have HX3:Hid (Ext w w3):=HX2.out.trans hE3
      clear hE3
      go_wp2
      go_ret
      exact ⟨rfl,HX3.out⟩
     ·have q2':((j:Int) == 0)=false:=by simp; omega
      simp only [if_neg q2]
      by_cases q3:c=0
      ·have q3':((c:Int) == 0)=true:=by simp; omega
       simp only [if_pos q3]
       go_wp2_with fail
       refine (Zbw _ HG2.out).mono ?_
       rintro e w3 ⟨rfl,hE3⟩
       have HX3:Hid (Ext w w3):=HX2.out.trans hE3
       clear hE3
       go_wp2
       go_ret
       exact ⟨rfl,HX3.out⟩
      ·have q3':((c:Int) == 0)=false:=by simp; omega
       simp only [if_neg q3]
       go_wp2_with fail
       refine (Zbw _ HG2.out).mono ?_
       rintro e w3 ⟨rfl,hE3⟩
       have HX3:Hid (Ext w w3):=HX2.out.trans hE3
       clear hE3
       go_wp2
       go_ret
       exact ⟨rfl,HX3.out⟩
 ·obtain ⟨m,hm8,he⟩:∃ m:Nat,m≤8231∧(k:Int)=(m:Int):=⟨k,hk8,rfl⟩
  go_wp2_with (at_make
               refine ZaD rfl _ _ _ rfl _ .u8 1 Tryz.underlying37 Zlj _ _ _ _ m rfl rfl (by first | rfl | exact he) (by first | rfl | exact he) (by omega) (by omega) ?_
               intro b w1 hb hO1 _ hF1 hs1
               have HO:Hid (Own .u8 5 w1 b (List.replicate 0 (48 + c) ++ List.replicate (m - 0) 0)):=hO1
               have HF:=zh hF1
               have HB:=zh hb
               clear hO1 hF1 hb hs1)
  clear h h2 hk8 he
  go_loopw [6] (fun v wr=>∃ j:Nat,j≤m∧v=.int .i64 (j:Int)∧Hid (Own .u8 5 wr b (List.replicate j (48 + c) ++ List.replicate (m - j) 0))∧Hid (Ext w wr)) (fun v _=>m - (intOf v).toNat)
  case atStart=>exact ⟨0,by omega,rfl,HO.out,HF.out⟩
  case round =>
   obtain ⟨j,hj,rfl,hO,Q⟩:=hrel
   by_cases hlt:j < m
   ·have hj0:(0:Int)≤(j:Int):=by omega
    have hjm:(j:Int) < (m:Int):=by omega
    have hlen:(List.replicate j (48 + c) ++ List.replicate (m - j) 0).length=m:=by simp; omega
    obtain ⟨u,hu⟩:∃ u,(List.replicate j (48 + c) ++ List.replicate (m - j) 0)[j]?.getD 0=u:=⟨_,rfl⟩
    have hcell:=hO.out.cell (i:=j) (by omega)
    rw [hu] at hcell
    have hfrz:=hO.out.frozen j
    have HN:Hid (Own .u8 5 (wr.setCell ⟨b,j,none⟩ (.int .u8 ((48 + c:Nat):Int))) b (List.replicate (j + 1) (48 + c) ++ List.replicate (m - (j + 1)) 0)):=by
     have h:=hO.out.set j (48 + c) (by omega)
     rw [ZjA (by omega)] at h
     exact h
    have HX:Hid (Ext w (wr.setCell ⟨b,j,none⟩ (.int .u8 ((48 + c:Nat):Int)))):=Q.out.setCell (p:=⟨b,j,none⟩) (Or.inr (by rw [HB.out]; exact Nat.le_refl _)) _
    clear hu hlen hO Q
    go_wp2
    go_roundw
    case rel=>exact ⟨j + 1,by omega,by go_num,HN.out,HX.out⟩
    case measure=>simp [intOf]; omega
   ·obtain rfl:j=m:=by omega
    have hO2:Own .u8 5 wr b (List.replicate j (48 + c)):=by
     have h:=hO.out
     rwa [Nat.sub_self,List.replicate_zero,List.append_nil] at h
    have hcv:=run_convert_bytes_back (P:=Tryz.prog) wr 37 9 5 ⟨b,0,none⟩ j (List.replicate j (UInt8.ofNat (48 + c))) Tryz.underlying37 Tryz.underlying5 Tryz.underlying9 (Zec hO2 hc2 _ rfl)
    rw [List.length_replicate] at hcv
    have HG1:=zh (HG.out.ext Q.out)
    have HO2:=zh hO2
    clear hO2 hO
    change _=Result.ok (Value.string (Zc2 j c)) wr at hcv
    have hE1:=Q
    clear Q
    go_wp2_with fail
    refine (Zhb j c hc2 _ HG1.out).mono ?_
    rintro e w2 ⟨rfl,hE2⟩
    have HE2:=zh hE2
    have hcv2:=run_convert_bytes_back (P:=Tryz.prog) w2 37 9 5 ⟨b,0,none⟩ j (List.replicate j (UInt8.ofNat (48 + c))) Tryz.underlying37 Tryz.underlying5 Tryz.underlying9 (Zec (HO2.out.ext hE2) hc2 _ rfl)
    rw [List.length_replicate] at hcv2
    change _=Result.ok (Value.string (Zc2 j c)) w2 at hcv2
    have HX2:Hid (Ext w w2):=hE1.out.trans hE2
    have HG2:Hid (Glob w2):=HG1.out.ext hE2
    clear hE2 HE2 hcv
    unfold rlT rlE
    by_cases q1:8192 < j
    ·have q1':(8192:Int) < (j:Int):=by omega
     simp only [q1,if_true]
     go_wp2_with fail
     refine (Zbw _ HG2.out).mono ?_
     rintro e w3 ⟨rfl,hE3⟩
     have HX3:Hid (Ext w w3):=HX2.out.trans hE3
     clear hE3
     go_wp2
     go_ret
     exact ⟨rfl,HX3.out⟩
    ·have q1':(j:Int)≤8192:=by omega
     simp only [q1,if_false]
     by_cases q2:j=0
     ·have q2':((j:Int) == 0)=true:=by simp; omega
      simp only [if_pos q2]
      go_wp2_with fail
      refine (Zbw _ HG2.out).mono ?_
      rintro e w3 ⟨rfl,hE3⟩
      have HX3:Hid (Ext w w3):=HX2.out.trans hE3
      clear hE3
      go_wp2
      go_ret
      exact ⟨rfl,HX3.out⟩
     ·have q2':((j:Int) == 0)=false:=by simp; omega
      simp only [if_neg q2]
      by_cases q3:c=0
      ·have q3':((c:Int) == 0)=true:=by simp; omega
       simp only [if_pos q3]
       go_wp2_with fail
       refine (Zbw _ HG2.out).mono ?_
       rintro e w3 ⟨rfl,hE3⟩
       have HX3:Hid (Ext w w3):=HX2.out.trans hE3
       clear hE3
       go_wp2
       go_ret
       exact ⟨rfl,HX3.out⟩
      ·have q3':((c:Int) == 0)=false:=by simp; omega
       simp only [if_neg q3]
       go_wp2_with fail
       refine (Zbw _ HG2.out).mono ?_
       rintro e w3 ⟨rfl,hE3⟩
       have HX3:Hid (Ext w w3):=HX2.out.trans hE3
       clear hE3
       go_wp2
       go_ret
       exact ⟨rfl,HX3.out⟩
theorem Zi5 (n x:Int) (hx:(Lit.int .u8 x).wf=true) (w:World) (hg:Glob w):Calls Tryz.prog 4 #[.int .i64 n, .int .u8 x] w (RetV w (.bool true)):=by
 have h:0≤x∧x≤255:=by
  simp only [Lit.wf,Bool.and_eq_true,decide_eq_true_eq] at hx
  exact hx
 obtain ⟨y,rfl⟩:∃ y:Nat,x=(y:Int):=⟨x.toNat,by omega⟩
 exact Zim n y (by omega) w hg
end Go.Proofs.YtcpjeaaapocoeaaGreatDoor
