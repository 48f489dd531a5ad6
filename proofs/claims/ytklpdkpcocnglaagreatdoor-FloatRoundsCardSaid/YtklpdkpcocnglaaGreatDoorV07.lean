/-
 My texts Div64, DivWord, Shift, Num1, Num2, Num3, Est, Knuth, DivS, DvM, Dv1, Dv2, Dv3 put together.
-/
import Derived.Test.YtklpdkpcocnglaaGreatDoorV02
import Derived.Test.YtklpdkpcocnglaaGreatDoorV03
import Derived.Test.YtklpdkpcocnglaaGreatDoorV00
import Derived.Test.YtklpdkpcocnglaaGreatDoorV06
import Derived.Lib.ItoaNum
import Derived.Deep.QuietTactic
import Derived.BigQuiet
import Derived.RegionTactic
import Derived.BigRegion
import Derived.Deep.CutBlock
import Derived.Deep.DeepCutAuto
set_option maxRecDepth 100000
namespace Go.Proofs.YtklpdkpcocnglaaGreatDoor
open Go.RowKit
theorem ZeP (x:Nat) (w:World) (hx:x < W64):Calls Tryz.prog 174 #[.int .u64 (x:Int)] w fun e w'=>e=.returned (.int .i64 (64 - (Lib.bitLen x:Int)))∧w=w':=by
 rw [Zam] at hx
 refine (Tryz.bits_LeadingZeros64 x w (by omega) (by omega)).mono ?_
 rintro e w' ⟨rfl,rfl⟩
 exact ⟨by simp,rfl⟩
noncomputable def H32:Nat:=Classical.choose (p:=fun n:Nat=>n=4294967296) ⟨_,rfl⟩
theorem ZaR:H32=4294967296:=Classical.choose_spec (p:=fun n:Nat=>n=4294967296) ⟨_,rfl⟩
structure Prep (hi lo y s Y v1 v0 Hs Ls U T u1 u0:Nat):Prop where
 hY:IntKind.u64.wrap ((y:Int) * 2 ^ s)=(Y:Int)
 hv1:(Y:Int) / 4294967296=(v1:Int)
 hv0:bits .and .u64 (Y:Int) 4294967295=(v0:Int)
 hH:IntKind.u64.wrap ((hi:Int) * 2 ^ s)=(Hs:Int)
 hL:(lo:Int) / 2 ^ (64 - s)=(Ls:Int)
 hU:bits .or .u64 (Hs:Int) (Ls:Int)=(U:Int)
 hT:IntKind.u64.wrap ((lo:Int) * 2 ^ s)=(T:Int)
 hu1:(T:Int) / 4294967296=(u1:Int)
 hu0:bits .and .u64 (T:Int) 4294967295=(u0:Int)
theorem Zj0 (a:Int):∃ n:Nat,IntKind.u64.wrap a=(n:Int)∧(n:Int)=a % 18446744073709551616:=by
 refine ⟨(a % 18446744073709551616).toNat,?_,?_⟩
 ·rw [IntKind.wrap_u64]; omega
 ·omega
theorem un21 {U u Y q R:Nat} (hY':Y≤W64) (hq:q * Y + R=U * 4294967296 + u) (hR:R < Y) :
 ∃ a1 a2 a3:Nat,IntKind.u64.wrap ((U:Int) * 4294967296)=(a1:Int)∧IntKind.u64.wrap ((a1:Int) + (u:Int))=(a2:Int)∧IntKind.u64.wrap ((q:Int) * (Y:Int))=(a3:Int)∧IntKind.u64.wrap ((a2:Int) - (a3:Int))=(R:Int):=by
 have hY:=hY'
 rw [Zam] at hY
 obtain ⟨a1,h1,k1⟩:=Zj0 ((U:Int) * 4294967296)
 obtain ⟨a2,h2,k2⟩:=Zj0 ((a1:Int) + (u:Int))
 obtain ⟨a3,h3,k3⟩:=Zj0 ((q:Int) * (Y:Int))
 obtain ⟨a4,h4,k4⟩:=Zj0 ((a2:Int) - (a3:Int))
 refine ⟨a1,a2,a3,h1,h2,h3,?_⟩
 rw [h4]
 have hq':((q * Y + R:Nat):Int)=((U * 4294967296 + u:Nat):Int):=by rw [hq]
 rw [Int.natCast_add,Int.natCast_mul,Int.natCast_add,Int.natCast_mul] at hq'
 omega
theorem Zga {U v1:Nat} (hv1:0 < v1) (hU':U < W64) :
 ∃ qi mi ri:Nat,(U:Int) / (v1:Int)=(qi:Int)∧IntKind.u64.wrap (qi:Int)=(qi:Int)∧IntKind.u64.wrap ((qi:Int) * (v1:Int))=(mi:Int)∧IntKind.u64.wrap ((U:Int) - (mi:Int))=(ri:Int)∧qi * v1 + ri=U∧ri < v1:=by
 have hU:=hU'
 rw [Zam] at hU
 have hd:=Nat.div_add_mod U v1
 have hm:=Nat.mod_lt U hv1
 have hle:U / v1 * v1≤U:=Nat.div_mul_le_self U v1
 rw [Nat.mul_comm] at hd
 refine ⟨U / v1,U / v1 * v1,U % v1,(Int.natCast_ediv _ _).symm,ZaS _ (by rw [Zam]; have:=Nat.div_le_self U v1; omega),?_,?_,hd,hm⟩
 ·rw [← Int.natCast_mul]; exact ZaS _ (by rw [Zam]; omega)
 ·rw [show (U:Int) - ((U / v1 * v1:Nat):Int)=((U % v1:Nat):Int) by omega]
  exact ZaS _ (by rw [Zam]; omega)
theorem Zgb {U v1 v0 u qi ri:Nat} (hv1:0 < v1) (hu:u < H32) (h:qi * v1 + ri=U) (hr:ri < v1):ZcG H32 U v1 v0 u qi ri:=by
 refine ⟨h,?_⟩
 have hp:0 < v1 * H32:=Nat.mul_pos hv1 (by rw [ZaR]; omega)
 rw [← Nat.lt_succ_iff,Nat.div_lt_iff_lt_mul (by omega)]
 have h1:U < (qi + 1) * v1:=by rw [Nat.add_mul]; omega
 have h2:(U + 1) * H32≤(qi + 1) * v1 * H32:=Nat.mul_le_mul_right _ h1
 rw [Nat.succ_eq_add_one,Nat.mul_add,← Nat.mul_assoc]
 rw [Nat.add_mul U] at h2
 omega
theorem Zgc {U v1 v0 u q r:Nat} (hv1:2147483648≤v1) (hU':U < W64) (h:ZcG H32 U v1 v0 u q r):q≤8589934592:=by
 have hU:=hU'
 rw [Zam] at hU
 have h1:=h.1
 have h2:q * 2147483648≤q * v1:=Nat.mul_le_mul_left q hv1
 omega
theorem Zcs {H U Y u q:Nat} (h:q=(U * H + u) / Y):q * Y + (U * H + u) % Y=U * H + u:=by
 subst h
 rw [Nat.mul_comm]
 exact Nat.div_add_mod _ _
theorem Zct {U u Y q:Nat} (hY:0 < Y) (hU:U < Y) (hu:u < H32) (hq:q=(U * H32 + u) / Y):q < H32:=by
 subst hq
 rw [Nat.div_lt_iff_lt_mul hY]
 have:(U + 1) * H32≤Y * H32:=Nat.mul_le_mul_right _ hU
 rw [Nat.add_mul] at this
 rw [Nat.mul_comm H32]
 omega
theorem Zcn {q:Nat} (h0:0 < q) (h:q < W64):IntKind.u64.wrap ((q:Int) - 1)=((q - 1:Nat):Int):=by
 rw [show (q:Int) - 1=((q - 1:Nat):Int) by omega]
 exact ZaS _ (by omega)
theorem ZbD {a b:Nat} (h:a + b < W64):IntKind.u64.wrap ((a:Int) + (b:Int))=((a + b:Nat):Int):=by
 rw [← Int.natCast_add]
 exact ZaS _ h
theorem ZcN {a b:Nat} (h:a * b < W64):IntKind.u64.wrap ((a:Int) * (b:Int))=((a * b:Nat):Int):=by
 rw [← Int.natCast_mul]
 exact ZaS _ h
theorem ZmM:H32 * H32=W64:=by rw [ZaR,Zam]
theorem Zd3 {q1 q0:Nat} (h1:q1 < H32) (h0:q0 < H32):∃ z1 z2:Nat,IntKind.u64.wrap ((q1:Int) * 4294967296)=(z1:Int)∧IntKind.u64.wrap ((z1:Int) + (q0:Int))=(z2:Int)∧z2=q1 * H32 + q0:=by
 have h:q1 * H32 + q0 < W64:=by
  rw [← ZmM]
  have:(q1 + 1) * H32≤H32 * H32:=Nat.mul_le_mul_right _ h1
  rw [Nat.add_mul] at this
  omega
 refine ⟨q1 * H32,q1 * H32 + q0,?_,ZbD h,rfl⟩
 rw [show (4294967296:Int)=((H32:Nat):Int) by rw [ZaR]; rfl]
 exact ZcN (by omega)
theorem ZiE {r u:Nat} (hr:r < H32) (hu:u < H32):∃ m2 m3:Nat,IntKind.u64.wrap (4294967296 * (r:Int))=(m2:Int)∧IntKind.u64.wrap ((m2:Int) + (u:Int))=(m3:Int)∧m3=H32 * r + u:=by
 have h1:H32 * r + u < W64:=by
  rw [← ZmM]
  have:H32 * (r + 1)≤H32 * H32:=Nat.mul_le_mul_left _ hr
  rw [Nat.mul_add] at this
  omega
 refine ⟨H32 * r,H32 * r + u,?_,ZbD h1,rfl⟩
 rw [show (4294967296:Int)=((H32:Nat):Int) by rw [ZaR]; rfl]
 exact ZcN (by omega)
theorem Zcu {q:Nat} (h:H32≤q):decide ((4294967296:Int)≤(q:Int))=true:=by rw [ZaR] at h; rw [decide_eq_true_eq]; omega
theorem Zb2 {q:Nat} (h:¬ H32≤q):decide ((4294967296:Int)≤(q:Int))=false:=by rw [ZaR] at h; rw [decide_eq_false_iff_not]; omega
theorem Zdu {a b:Nat} (h:a < b):decide (a < b)=true:=by rw [decide_eq_true_eq]; omega
theorem ZcV {a b:Nat} (h:¬ a < b):decide (a < b)=false:=by rw [decide_eq_false_iff_not]; omega
theorem ZgY {q v:Nat} (hq:¬ H32≤q) (hv:v < H32):q * v < W64:=by
 rw [← ZmM]
 have h1:q * v≤q * H32:=Nat.mul_le_mul_left _ (by omega)
 have h2:(q + 1) * H32≤H32 * H32:=Nat.mul_le_mul_right _ (by omega)
 rw [Nat.add_mul] at h2
 have:=ZaR
 omega
set_option maxHeartbeats 4000000 in
theorem ZpG (hi lo y s Y v1 v0 Hs Ls U T u1 u0 qf rf:Nat) (w:World) (hqf:(U * H32 + u1) / Y * H32 + ((U * H32 + u1) % Y * H32 + u0) / Y=qf) (hrf:((U * H32 + u1) % Y * H32 + u0) % Y / 2 ^ s=rf) (h0:0 < hi) (h1:hi < y) (hy:y < W64) (hs:64 - (Lib.bitLen y:Int)=s) (hs2:s≤63) (P:Prep hi lo y s Y v1 v0 Hs Ls U T u1 u0)
 (hU:U < v1 * H32 + v0) (hYv:v1 * H32 + v0=Y) (b1:2147483648≤v1) (b2:v1 < H32) (b3:v0 < H32) (b4:u1 < H32) (b5:u0 < H32) :
 Calls Tryz.prog 149 #[.int .u64 (hi:Int), .int .u64 (lo:Int), .int .u64 (y:Int)] w fun e w'=>e=.returned (.tuple #[.int .u64 (qf:Int), .int .u64 (rf:Int)])∧w=w':=by
 have HQF:=zh hqf
 have HRF:=zh hrf
 clear hqf hrf
 have he:=ZaR
 have HS:=zh hs
 have HY:=zh hy
 have e1:((hi:Int) == 0)=false:=by simp; omega
 have e2:((y:Int) == 0)=false:=by simp; omega
 have hUY:=zh hU
 have hYV:=zh hYv
 have hUb:U < 18446744073709551616:=by rw [he] at hU b2 b3; omega
 have HUb:Hid (U < W64):=by unfold Hid; rw [Zam]; exact hUb
 have hY64:Hid (Y≤W64):=by unfold Hid; rw [Zam]; rw [he] at hYv b2 b3; omega
 obtain ⟨p1,p2,p3,p4,p5,p6,p7,p8,p9⟩:=P
 have hv1:((v1:Int) == 0)=false:=by simp; omega
 obtain ⟨qi,mi,ri,f1,f2,f3,f4,f5,f6⟩:=Zga (U:=U) (v1:=v1) (by omega) HUb.out
 have HE:=zh (Zgb (v0:=v0) (u:=u1) (by omega) b4 f5 f6)
 clear hs hy hU hYv f5
 have B1:=zh b1
 have B2:=zh b2
 have B3:=zh b3
 have B4:=zh b4
 have B5:=zh b5
 clear b1 b2 b3 b4 b5 he hUb
 go_enter Tryz.func149,Tryz.ntmps149
 go_wp2_with (go_at_call 174; refine (ZeP _ _ HY.out).mono ?_; rintro e w' ⟨rfl,rfl⟩; rw [HS.out])
 clear p1 p2 p3 p4 p5 p6 p7 p8 p9 e1 e2
 go_loop [15,16] (fun qv rv=>∃ q r:Nat,qv=.int .u64 q∧rv=.int .u64 r∧Hid (r < H32)∧Hid (ZcG H32 U v1 v0 u1 q r)) (fun qv _=>(intOf qv).toNat)
 case atStart=>exact ⟨_,_,rfl,rfl,by have:=B2.out; unfold Hid; omega,HE⟩
 case round =>
  obtain ⟨q,r,rfl,rfl,hr,Q⟩:=hrel
  clear f1 f2 f3 f4 f6 HE
  have hqW:Hid (q < W64):=by
   have h1:=Zgc B1.out HUb.out Q.out
   unfold Hid; rw [Zam]; omega
  have hrW:Hid (r + v1 < W64):=by
   have h1:=hr.out
   have h2:=B2.out
   unfold Hid; rw [Zam]; rw [ZaR] at h1 h2; omega
  have g2:=ZbD hrW.out
  obtain ⟨r1,er1⟩:∃ r1,r + v1=r1:=⟨_,rfl⟩
  rw [er1] at g2
  have ER1:=zh er1
  clear er1
  by_cases hbig:H32≤q
  ·have hE2:=zh (ZiC hUY.out B4.out hbig Q.out)
   have t1:=Zcu hbig
   have g1:=Zcn (q:=q) (by have:=ZaR; omega) hqW.out
   obtain ⟨q1,eq1⟩:∃ q1,q - 1=q1:=⟨_,rfl⟩
   rw [eq1] at g1 hE2
   rw [ER1.out] at hE2
   have hq1:q1 < q:=by have:=ZaR; omega
   by_cases hbr:H32≤r1
   ·have HQ:=zh (ZcB hUY.out B3.out hbr hE2.out)
    have t2:=Zcu hbr
    clear hbr hbig eq1 hq1 hE2 Q
    rw [hYV.out] at HQ
    have hYpos:Hid (0 < Y):=by have:=hYV.out; have:=hUY.out; unfold Hid; omega
    obtain ⟨R1,eR1⟩:∃ R1,(U * H32 + u1) % Y=R1:=⟨_,rfl⟩
    have hR1:Hid (R1 < Y):=by rw [← eR1]; exact Nat.mod_lt _ hYpos.out
    obtain ⟨a1,a2,a3,x1,x2,x3,x4⟩:=un21 hY64.out (by rw [← ZaR]; exact Zcs HQ.out) (Nat.mod_lt _ hYpos.out)
    rw [eR1] at x4
    have hQ1:Hid (q1 < H32):=Zct hYpos.out (by have:=hUY.out; rw [hYV.out] at this; exact this) B4.out HQ.out
    have HQ1:=HQ
    clear HQ
    have ERR:=zh eR1
    clear eR1
    have hR1W:Hid (R1 < W64):=Nat.lt_of_lt_of_le hR1.out hY64.out
    have hR1Y:Hid (R1 < v1 * H32 + v0):=by rw [hYV.out]; exact hR1.out
    obtain ⟨qi,mi,ri,k1,k2,k3,k4,k5,k6⟩:=Zga (U:=R1) (v1:=v1) (by have:=B1.out; omega) hR1W.out
    have HE0:=zh (Zgb (v0:=v0) (u:=u0) (by have:=B1.out; omega) B5.out k5 k6)
    clear k5
    go_wp2
    go_loop [16,18] (fun rv qv=>∃ q r:Nat,qv=.int .u64 q∧rv=.int .u64 r∧Hid (r < H32)∧Hid (ZcG H32 R1 v1 v0 u0 q r)) (fun _ qv=>(intOf qv).toNat)
    case atStart=>exact ⟨_,_,rfl,rfl,by have:=B2.out; unfold Hid; omega,HE0⟩
    case round =>
     obtain ⟨q,r,rfl,rfl,hr,Q⟩:=hrel
     clear k1 k2 k3 k4 k6 HE0 x1 x2 x3 x4
     have hqW:Hid (q < W64):=by
      have h1:=Zgc B1.out hR1W.out Q.out
      unfold Hid; rw [Zam]; omega
     have hrW:Hid (r + v1 < W64):=by
      have h1:=hr.out
      have h2:=B2.out
      unfold Hid; rw [Zam]; rw [ZaR] at h1 h2; omega
     have g2:=ZbD hrW.out
     obtain ⟨r1,er1⟩:∃ r1,r + v1=r1:=⟨_,rfl⟩
     rw [er1] at g2
     have ER1:=zh er1
     clear er1
     by_cases hbig:H32≤q
     ·have hE2:=zh (ZiC hR1Y.out B5.out hbig Q.out)
      have t1:=Zcu hbig
      have g1:=Zcn (q:=q) (by have:=ZaR; omega) hqW.out
      obtain ⟨q1,eq1⟩:∃ q1,q - 1=q1:=⟨_,rfl⟩
      rw [eq1] at g1 hE2
      rw [ER1.out] at hE2
      have hq1:q1 < q:=by have:=ZaR; omega
      by_cases hbr:H32≤r1
      ·have HQ:=zh (ZcB hR1Y.out B3.out hbr hE2.out)
       have t2:=Zcu hbr
       clear hbr hbig eq1 hq1 hE2 Q
       rw [hYV.out] at HQ
       obtain ⟨a1',a2',a3',y1,y2,y3,y4⟩:=un21 hY64.out (by rw [← ZaR]; exact Zcs HQ.out) (Nat.mod_lt _ hYpos.out)
       obtain ⟨R0,eR0⟩:∃ R0,(R1 * H32 + u0) % Y=R0:=⟨_,rfl⟩
       rw [eR0] at y4
       obtain ⟨z1,z2,z4,z5,ez⟩:=Zd3 hQ1.out (Zct hYpos.out hR1.out B5.out HQ.out)
       have y5:(R0:Int) / 2 ^ s=((R0 / 2 ^ s:Nat):Int):=by rw [Int.natCast_ediv,Int.natCast_pow]; rfl
       obtain ⟨rem,erem⟩:∃ rem,R0 / 2 ^ s=rem:=⟨_,rfl⟩
       rw [erem] at y5
       have EZ:=zh ez
       have ER:=zh erem
       have ER0:=zh eR0
       clear eR0 ez erem
       go_wp2
       go_ret2
       have fq:z2=qf:=by rw [EZ.out,← HQF.out,HQ.out,HQ1.out,ERR.out]
       have fr:rem=rf:=by rw [← ER.out,← ER0.out,← HRF.out,ERR.out]
       exact ⟨by rw [← fq,← fr]; rfl,rfl⟩
      ·have t2:=Zb2 hbr
       have hR2:Hid (r1 < H32):=by unfold Hid; omega
       clear hbr hbig eq1
       go_wp2
       go_round
       case rel=>exact ⟨q1,r1,rfl,rfl,hR2,hE2⟩
       case measure=>simp [intOf]; omega
     ·have t1:=Zb2 hbig
      have g5:=ZcN (ZgY hbig B3.out)
      obtain ⟨m,em⟩:∃ m,q * v0=m:=⟨_,rfl⟩
      rw [em] at g5
      obtain ⟨m2,m3,g6,g7,em3⟩:=ZiE hr.out B5.out
      by_cases hov:m3 < m
      ·have t3:=Zdu hov
       have hE2:=zh (ZfO (by have:=hR1Y.out; omega) (by rw [em,← em3]; exact hov) Q.out)
       have hq0:0 < q:=by
        rcases Nat.eq_zero_or_pos q with e | e
        ·subst e; simp at em; omega
        ·exact e
       have g1:=Zcn hq0 hqW.out
       obtain ⟨q1,eq1⟩:∃ q1,q - 1=q1:=⟨_,rfl⟩
       rw [eq1] at g1 hE2
       rw [ER1.out] at hE2
       have hq1:q1 < q:=by omega
       by_cases hbr:H32≤r1
       ·have HQ:=zh (ZcB hR1Y.out B3.out hbr hE2.out)
        have t2:=Zcu hbr
        clear hbr hbig eq1 hq1 hE2 Q hov em em3 hq0
        rw [hYV.out] at HQ
        obtain ⟨a1',a2',a3',y1,y2,y3,y4⟩:=un21 hY64.out (by rw [← ZaR]; exact Zcs HQ.out) (Nat.mod_lt _ hYpos.out)
        obtain ⟨R0,eR0⟩:∃ R0,(R1 * H32 + u0) % Y=R0:=⟨_,rfl⟩
        rw [eR0] at y4
        obtain ⟨z1,z2,z4,z5,ez⟩:=Zd3 hQ1.out (Zct hYpos.out hR1.out B5.out HQ.out)
        have y5:(R0:Int) / 2 ^ s=((R0 / 2 ^ s:Nat):Int):=by rw [Int.natCast_ediv,Int.natCast_pow]; rfl
        obtain ⟨rem,erem⟩:∃ rem,R0 / 2 ^ s=rem:=⟨_,rfl⟩
        rw [erem] at y5
        have EZ:=zh ez
        have ER:=zh erem
        have ER0:=zh eR0
        clear eR0 ez erem
        go_wp2
        go_ret2
        have fq:z2=qf:=by rw [EZ.out,← HQF.out,HQ.out,HQ1.out,ERR.out]
        have fr:rem=rf:=by rw [← ER.out,← ER0.out,← HRF.out,ERR.out]
        exact ⟨by rw [← fq,← fr]; rfl,rfl⟩
       ·have t2:=Zb2 hbr
        have hR2:Hid (r1 < H32):=by unfold Hid; omega
        clear hbr hbig eq1 hov em em3 hq0
        go_wp2
        go_round
        case rel=>exact ⟨q1,r1,rfl,rfl,hR2,hE2⟩
        case measure=>simp [intOf]; omega
      ·have t3:=ZcV hov
       have HQ:=zh (ZeO (by have:=hR1Y.out; omega) (by rw [em,← em3]; omega) Q.out)
       obtain ⟨q1,rfl⟩:∃ q1,q1=q:=⟨_,rfl⟩
       clear hov em em3 hbig Q
       rw [hYV.out] at HQ
       obtain ⟨a1',a2',a3',y1,y2,y3,y4⟩:=un21 hY64.out (by rw [← ZaR]; exact Zcs HQ.out) (Nat.mod_lt _ hYpos.out)
       obtain ⟨R0,eR0⟩:∃ R0,(R1 * H32 + u0) % Y=R0:=⟨_,rfl⟩
       rw [eR0] at y4
       obtain ⟨z1,z2,z4,z5,ez⟩:=Zd3 hQ1.out (Zct hYpos.out hR1.out B5.out HQ.out)
       have y5:(R0:Int) / 2 ^ s=((R0 / 2 ^ s:Nat):Int):=by rw [Int.natCast_ediv,Int.natCast_pow]; rfl
       obtain ⟨rem,erem⟩:∃ rem,R0 / 2 ^ s=rem:=⟨_,rfl⟩
       rw [erem] at y5
       have EZ:=zh ez
       have ER:=zh erem
       have ER0:=zh eR0
       clear eR0 ez erem
       go_wp2
       go_ret2
       have fq:z2=qf:=by rw [EZ.out,← HQF.out,HQ.out,HQ1.out,ERR.out]
       have fr:rem=rf:=by rw [← ER.out,← ER0.out,← HRF.out,ERR.out]
       exact ⟨by rw [← fq,← fr]; rfl,rfl⟩
   ·have t2:=Zb2 hbr
    have hR2:Hid (r1 < H32):=by unfold Hid; omega
    clear hbr hbig eq1
    go_wp2
    go_round
    case rel=>exact ⟨q1,r1,rfl,rfl,hR2,hE2⟩
    case measure=>simp [intOf]; omega
  ·have t1:=Zb2 hbig
   have g5:=ZcN (ZgY hbig B3.out)
   obtain ⟨m,em⟩:∃ m,q * v0=m:=⟨_,rfl⟩
   rw [em] at g5
   obtain ⟨m2,m3,g6,g7,em3⟩:=ZiE hr.out B4.out
   by_cases hov:m3 < m
   ·have t3:=Zdu hov
    have hE2:=zh (ZfO (by have:=hUY.out; omega) (by rw [em,← em3]; exact hov) Q.out)
    have hq0:0 < q:=by
     rcases Nat.eq_zero_or_pos q with e | e
     ·subst e; simp at em; omega
     ·exact e
    have g1:=Zcn hq0 hqW.out
    obtain ⟨q1,eq1⟩:∃ q1,q - 1=q1:=⟨_,rfl⟩
    rw [eq1] at g1 hE2
    rw [ER1.out] at hE2
    have hq1:q1 < q:=by omega
    by_cases hbr:H32≤r1
    ·have HQ:=zh (ZcB hUY.out B3.out hbr hE2.out)
     have t2:=Zcu hbr
     clear hbr hbig eq1 hq1 hE2 Q hov em em3 hq0
     rw [hYV.out] at HQ
     have hYpos:Hid (0 < Y):=by have:=hYV.out; have:=hUY.out; unfold Hid; omega
     obtain ⟨R1,eR1⟩:∃ R1,(U * H32 + u1) % Y=R1:=⟨_,rfl⟩
     have hR1:Hid (R1 < Y):=by rw [← eR1]; exact Nat.mod_lt _ hYpos.out
     obtain ⟨a1,a2,a3,x1,x2,x3,x4⟩:=un21 hY64.out (by rw [← ZaR]; exact Zcs HQ.out) (Nat.mod_lt _ hYpos.out)
     rw [eR1] at x4
     have hQ1:Hid (q1 < H32):=Zct hYpos.out (by have:=hUY.out; rw [hYV.out] at this; exact this) B4.out HQ.out
     have HQ1:=HQ
     clear HQ
     have ERR:=zh eR1
     clear eR1
     have hR1W:Hid (R1 < W64):=Nat.lt_of_lt_of_le hR1.out hY64.out
     have hR1Y:Hid (R1 < v1 * H32 + v0):=by rw [hYV.out]; exact hR1.out
     obtain ⟨qi,mi,ri,k1,k2,k3,k4,k5,k6⟩:=Zga (U:=R1) (v1:=v1) (by have:=B1.out; omega) hR1W.out
     have HE0:=zh (Zgb (v0:=v0) (u:=u0) (by have:=B1.out; omega) B5.out k5 k6)
     clear k5
     go_wp2
     go_loop [16,18] (fun rv qv=>∃ q r:Nat,qv=.int .u64 q∧rv=.int .u64 r∧Hid (r < H32)∧Hid (ZcG H32 R1 v1 v0 u0 q r)) (fun _ qv=>(intOf qv).toNat)
     case atStart=>exact ⟨_,_,rfl,rfl,by have:=B2.out; unfold Hid; omega,HE0⟩
     case round =>
      obtain ⟨q,r,rfl,rfl,hr,Q⟩:=hrel
      clear k1 k2 k3 k4 k6 HE0 x1 x2 x3 x4
      have hqW:Hid (q < W64):=by
       have h1:=Zgc B1.out hR1W.out Q.out
       unfold Hid; rw [Zam]; omega
      have hrW:Hid (r + v1 < W64):=by
       have h1:=hr.out
       have h2:=B2.out
       unfold Hid; rw [Zam]; rw [ZaR] at h1 h2; omega
      have g2:=ZbD hrW.out
      obtain ⟨r1,er1⟩:∃ r1,r + v1=r1:=⟨_,rfl⟩
      rw [er1] at g2
      have ER1:=zh er1
      clear er1
      by_cases hbig:H32≤q
      ·have hE2:=zh (ZiC hR1Y.out B5.out hbig Q.out)
       have t1:=Zcu hbig
       have g1:=Zcn (q:=q) (by have:=ZaR; omega) hqW.out
       obtain ⟨q1,eq1⟩:∃ q1,q - 1=q1:=⟨_,rfl⟩
       rw [eq1] at g1 hE2
       rw [ER1.out] at hE2
       have hq1:q1 < q:=by have:=ZaR; omega
       by_cases hbr:H32≤r1
       ·have HQ:=zh (ZcB hR1Y.out B3.out hbr hE2.out)
        have t2:=Zcu hbr
        clear hbr hbig eq1 hq1 hE2 Q
        rw [hYV.out] at HQ
        obtain ⟨a1',a2',a3',y1,y2,y3,y4⟩:=un21 hY64.out (by rw [← ZaR]; exact Zcs HQ.out) (Nat.mod_lt _ hYpos.out)
        obtain ⟨R0,eR0⟩:∃ R0,(R1 * H32 + u0) % Y=R0:=⟨_,rfl⟩
        rw [eR0] at y4
        obtain ⟨z1,z2,z4,z5,ez⟩:=Zd3 hQ1.out (Zct hYpos.out hR1.out B5.out HQ.out)
        have y5:(R0:Int) / 2 ^ s=((R0 / 2 ^ s:Nat):Int):=by rw [Int.natCast_ediv,Int.natCast_pow]; rfl
        obtain ⟨rem,erem⟩:∃ rem,R0 / 2 ^ s=rem:=⟨_,rfl⟩
        rw [erem] at y5
        have EZ:=zh ez
        have ER:=zh erem
        have ER0:=zh eR0
        clear eR0 ez erem
        go_wp2
        go_ret2
        have fq:z2=qf:=by rw [EZ.out,← HQF.out,HQ.out,HQ1.out,ERR.out]
        have fr:rem=rf:=by rw [← ER.out,← ER0.out,← HRF.out,ERR.out]
        exact ⟨by rw [← fq,← fr]; rfl,rfl⟩
       ·have t2:=Zb2 hbr
        have hR2:Hid (r1 < H32):=by unfold Hid; omega
        clear hbr hbig eq1
        go_wp2
        go_round
        case rel=>exact ⟨q1,r1,rfl,rfl,hR2,hE2⟩
        case measure=>simp [intOf]; omega
      ·have t1:=Zb2 hbig
       have g5:=ZcN (ZgY hbig B3.out)
       obtain ⟨m,em⟩:∃ m,q * v0=m:=⟨_,rfl⟩
       rw [em] at g5
       obtain ⟨m2,m3,g6,g7,em3⟩:=ZiE hr.out B5.out
       by_cases hov:m3 < m
       ·have t3:=Zdu hov
        have hE2:=zh (ZfO (by have:=hR1Y.out; omega) (by rw [em,← em3]; exact hov) Q.out)
        have hq0:0 < q:=by
         rcases Nat.eq_zero_or_pos q with e | e
         ·subst e; simp at em; omega
         ·exact e
        have g1:=Zcn hq0 hqW.out
        obtain ⟨q1,eq1⟩:∃ q1,q - 1=q1:=⟨_,rfl⟩
        rw [eq1] at g1 hE2
        rw [ER1.out] at hE2
        have hq1:q1 < q:=by omega
        by_cases hbr:H32≤r1
        ·have HQ:=zh (ZcB hR1Y.out B3.out hbr hE2.out)
         have t2:=Zcu hbr
         clear hbr hbig eq1 hq1 hE2 Q hov em em3 hq0
         rw [hYV.out] at HQ
         obtain ⟨a1',a2',a3',y1,y2,y3,y4⟩:=un21 hY64.out (by rw [← ZaR]; exact Zcs HQ.out) (Nat.mod_lt _ hYpos.out)
         obtain ⟨R0,eR0⟩:∃ R0,(R1 * H32 + u0) % Y=R0:=⟨_,rfl⟩
         rw [eR0] at y4
         obtain ⟨z1,z2,z4,z5,ez⟩:=Zd3 hQ1.out (Zct hYpos.out hR1.out B5.out HQ.out)
         have y5:(R0:Int) / 2 ^ s=((R0 / 2 ^ s:Nat):Int):=by rw [Int.natCast_ediv,Int.natCast_pow]; rfl
         obtain ⟨rem,erem⟩:∃ rem,R0 / 2 ^ s=rem:=⟨_,rfl⟩
         rw [erem] at y5
         have EZ:=zh ez
         have ER:=zh erem
         have ER0:=zh eR0
         clear eR0 ez erem
         go_wp2
         go_ret2
         have fq:z2=qf:=by rw [EZ.out,← HQF.out,HQ.out,HQ1.out,ERR.out]
         have fr:rem=rf:=by rw [← ER.out,← ER0.out,← HRF.out,ERR.out]
         exact ⟨by rw [← fq,← fr]; rfl,rfl⟩
        ·have t2:=Zb2 hbr
         have hR2:Hid (r1 < H32):=by unfold Hid; omega
         clear hbr hbig eq1 hov em em3 hq0
         go_wp2
         go_round
         case rel=>exact ⟨q1,r1,rfl,rfl,hR2,hE2⟩
         case measure=>simp [intOf]; omega
       ·have t3:=ZcV hov
        have HQ:=zh (ZeO (by have:=hR1Y.out; omega) (by rw [em,← em3]; omega) Q.out)
        obtain ⟨q1,rfl⟩:∃ q1,q1=q:=⟨_,rfl⟩
        clear hov em em3 hbig Q
        rw [hYV.out] at HQ
        obtain ⟨a1',a2',a3',y1,y2,y3,y4⟩:=un21 hY64.out (by rw [← ZaR]; exact Zcs HQ.out) (Nat.mod_lt _ hYpos.out)
        obtain ⟨R0,eR0⟩:∃ R0,(R1 * H32 + u0) % Y=R0:=⟨_,rfl⟩
        rw [eR0] at y4
        obtain ⟨z1,z2,z4,z5,ez⟩:=Zd3 hQ1.out (Zct hYpos.out hR1.out B5.out HQ.out)
        have y5:(R0:Int) / 2 ^ s=((R0 / 2 ^ s:Nat):Int):=by rw [Int.natCast_ediv,Int.natCast_pow]; rfl
        obtain ⟨rem,erem⟩:∃ rem,R0 / 2 ^ s=rem:=⟨_,rfl⟩
        rw [erem] at y5
        have EZ:=zh ez
        have ER:=zh erem
        have ER0:=zh eR0
        clear eR0 ez erem
        go_wp2
        go_ret2
        have fq:z2=qf:=by rw [EZ.out,← HQF.out,HQ.out,HQ1.out,ERR.out]
        have fr:rem=rf:=by rw [← ER.out,← ER0.out,← HRF.out,ERR.out]
        exact ⟨by rw [← fq,← fr]; rfl,rfl⟩
    ·have t2:=Zb2 hbr
     have hR2:Hid (r1 < H32):=by unfold Hid; omega
     clear hbr hbig eq1 hov em em3 hq0
     go_wp2
     go_round
     case rel=>exact ⟨q1,r1,rfl,rfl,hR2,hE2⟩
     case measure=>simp [intOf]; omega
   ·have t3:=ZcV hov
    have HQ:=zh (ZeO (by have:=hUY.out; omega) (by rw [em,← em3]; omega) Q.out)
    obtain ⟨q1,rfl⟩:∃ q1,q1=q:=⟨_,rfl⟩
    clear hov em em3 hbig Q
    rw [hYV.out] at HQ
    have hYpos:Hid (0 < Y):=by have:=hYV.out; have:=hUY.out; unfold Hid; omega
    obtain ⟨R1,eR1⟩:∃ R1,(U * H32 + u1) % Y=R1:=⟨_,rfl⟩
    have hR1:Hid (R1 < Y):=by rw [← eR1]; exact Nat.mod_lt _ hYpos.out
    obtain ⟨a1,a2,a3,x1,x2,x3,x4⟩:=un21 hY64.out (by rw [← ZaR]; exact Zcs HQ.out) (Nat.mod_lt _ hYpos.out)
    rw [eR1] at x4
    have hQ1:Hid (q1 < H32):=Zct hYpos.out (by have:=hUY.out; rw [hYV.out] at this; exact this) B4.out HQ.out
    have HQ1:=HQ
    clear HQ
    have ERR:=zh eR1
    clear eR1
    have hR1W:Hid (R1 < W64):=Nat.lt_of_lt_of_le hR1.out hY64.out
    have hR1Y:Hid (R1 < v1 * H32 + v0):=by rw [hYV.out]; exact hR1.out
    obtain ⟨qi,mi,ri,k1,k2,k3,k4,k5,k6⟩:=Zga (U:=R1) (v1:=v1) (by have:=B1.out; omega) hR1W.out
    have HE0:=zh (Zgb (v0:=v0) (u:=u0) (by have:=B1.out; omega) B5.out k5 k6)
    clear k5
    go_wp2
    go_loop [16,18] (fun rv qv=>∃ q r:Nat,qv=.int .u64 q∧rv=.int .u64 r∧Hid (r < H32)∧Hid (ZcG H32 R1 v1 v0 u0 q r)) (fun _ qv=>(intOf qv).toNat)
    case atStart=>exact ⟨_,_,rfl,rfl,by have:=B2.out; unfold Hid; omega,HE0⟩
    case round =>
     obtain ⟨q,r,rfl,rfl,hr,Q⟩:=hrel
     clear k1 k2 k3 k4 k6 HE0 x1 x2 x3 x4
     have hqW:Hid (q < W64):=by
      have h1:=Zgc B1.out hR1W.out Q.out
      unfold Hid; rw [Zam]; omega
     have hrW:Hid (r + v1 < W64):=by
      have h1:=hr.out
      have h2:=B2.out
      unfold Hid; rw [Zam]; rw [ZaR] at h1 h2; omega
     have g2:=ZbD hrW.out
     obtain ⟨r1,er1⟩:∃ r1,r + v1=r1:=⟨_,rfl⟩
     rw [er1] at g2
     have ER1:=zh er1
     clear er1
     by_cases hbig:H32≤q
     ·have hE2:=zh (ZiC hR1Y.out B5.out hbig Q.out)
      have t1:=Zcu hbig
      have g1:=Zcn (q:=q) (by have:=ZaR; omega) hqW.out
      obtain ⟨q1,eq1⟩:∃ q1,q - 1=q1:=⟨_,rfl⟩
      rw [eq1] at g1 hE2
      rw [ER1.out] at hE2
      have hq1:q1 < q:=by have:=ZaR; omega
      by_cases hbr:H32≤r1
      ·have HQ:=zh (ZcB hR1Y.out B3.out hbr hE2.out)
       have t2:=Zcu hbr
       clear hbr hbig eq1 hq1 hE2 Q
       rw [hYV.out] at HQ
       obtain ⟨a1',a2',a3',y1,y2,y3,y4⟩:=un21 hY64.out (by rw [← ZaR]; exact Zcs HQ.out) (Nat.mod_lt _ hYpos.out)
       obtain ⟨R0,eR0⟩:∃ R0,(R1 * H32 + u0) % Y=R0:=⟨_,rfl⟩
       rw [eR0] at y4
       obtain ⟨z1,z2,z4,z5,ez⟩:=Zd3 hQ1.out (Zct hYpos.out hR1.out B5.out HQ.out)
       have y5:(R0:Int) / 2 ^ s=((R0 / 2 ^ s:Nat):Int):=by rw [Int.natCast_ediv,Int.natCast_pow]; rfl
       obtain ⟨rem,erem⟩:∃ rem,R0 / 2 ^ s=rem:=⟨_,rfl⟩
       rw [erem] at y5
       have EZ:=zh ez
       have ER:=zh erem
       have ER0:=zh eR0
       clear eR0 ez erem
       go_wp2
       go_ret2
       have fq:z2=qf:=by rw [EZ.out,← HQF.out,HQ.out,HQ1.out,ERR.out]
       have fr:rem=rf:=by rw [← ER.out,← ER0.out,← HRF.out,ERR.out]
       exact ⟨by rw [← fq,← fr]; rfl,rfl⟩
      ·have t2:=Zb2 hbr
       have hR2:Hid (r1 < H32):=by unfold Hid; omega
       clear hbr hbig eq1
       go_wp2
       go_round
       case rel=>exact ⟨q1,r1,rfl,rfl,hR2,hE2⟩
       case measure=>simp [intOf]; omega
     ·have t1:=Zb2 hbig
      have g5:=ZcN (ZgY hbig B3.out)
      obtain ⟨m,em⟩:∃ m,q * v0=m:=⟨_,rfl⟩
      rw [em] at g5
      obtain ⟨m2,m3,g6,g7,em3⟩:=ZiE hr.out B5.out
      by_cases hov:m3 < m
      ·have t3:=Zdu hov
       have hE2:=zh (ZfO (by have:=hR1Y.out; omega) (by rw [em,← em3]; exact hov) Q.out)
       have hq0:0 < q:=by
        rcases Nat.eq_zero_or_pos q with e | e
        ·subst e; simp at em; omega
        ·exact e
       have g1:=Zcn hq0 hqW.out
       obtain ⟨q1,eq1⟩:∃ q1,q - 1=q1:=⟨_,rfl⟩
       rw [eq1] at g1 hE2
       rw [ER1.out] at hE2
       have hq1:q1 < q:=by omega
       by_cases hbr:H32≤r1
       ·have HQ:=zh (ZcB hR1Y.out B3.out hbr hE2.out)
        have t2:=Zcu hbr
        clear hbr hbig eq1 hq1 hE2 Q hov em em3 hq0
        rw [hYV.out] at HQ
        obtain ⟨a1',a2',a3',y1,y2,y3,y4⟩:=un21 hY64.out (by rw [← ZaR]; exact Zcs HQ.out) (Nat.mod_lt _ hYpos.out)
        obtain ⟨R0,eR0⟩:∃ R0,(R1 * H32 + u0) % Y=R0:=⟨_,rfl⟩
        rw [eR0] at y4
        obtain ⟨z1,z2,z4,z5,ez⟩:=Zd3 hQ1.out (Zct hYpos.out hR1.out B5.out HQ.out)
        have y5:(R0:Int) / 2 ^ s=((R0 / 2 ^ s:Nat):Int):=by rw [Int.natCast_ediv,Int.natCast_pow]; rfl
        obtain ⟨rem,erem⟩:∃ rem,R0 / 2 ^ s=rem:=⟨_,rfl⟩
        rw [erem] at y5
        have EZ:=zh ez
        have ER:=zh erem
        have ER0:=zh eR0
        clear eR0 ez erem
        go_wp2
        go_ret2
        have fq:z2=qf:=by rw [EZ.out,← HQF.out,HQ.out,HQ1.out,ERR.out]
        have fr:rem=rf:=by rw [← ER.out,← ER0.out,← HRF.out,ERR.out]
        exact ⟨by rw [← fq,← fr]; rfl,rfl⟩
       ·have t2:=Zb2 hbr
        have hR2:Hid (r1 < H32):=by unfold Hid; omega
        clear hbr hbig eq1 hov em em3 hq0
        go_wp2
        go_round
        case rel=>exact ⟨q1,r1,rfl,rfl,hR2,hE2⟩
        case measure=>simp [intOf]; omega
      ·have t3:=ZcV hov
       have HQ:=zh (ZeO (by have:=hR1Y.out; omega) (by rw [em,← em3]; omega) Q.out)
       obtain ⟨q1,rfl⟩:∃ q1,q1=q:=⟨_,rfl⟩
       clear hov em em3 hbig Q
       rw [hYV.out] at HQ
       obtain ⟨a1',a2',a3',y1,y2,y3,y4⟩:=un21 hY64.out (by rw [← ZaR]; exact Zcs HQ.out) (Nat.mod_lt _ hYpos.out)
       obtain ⟨R0,eR0⟩:∃ R0,(R1 * H32 + u0) % Y=R0:=⟨_,rfl⟩
       rw [eR0] at y4
       obtain ⟨z1,z2,z4,z5,ez⟩:=Zd3 hQ1.out (Zct hYpos.out hR1.out B5.out HQ.out)
       have y5:(R0:Int) / 2 ^ s=((R0 / 2 ^ s:Nat):Int):=by rw [Int.natCast_ediv,Int.natCast_pow]; rfl
       obtain ⟨rem,erem⟩:∃ rem,R0 / 2 ^ s=rem:=⟨_,rfl⟩
       rw [erem] at y5
       have EZ:=zh ez
       have ER:=zh erem
       have ER0:=zh eR0
       clear eR0 ez erem
       go_wp2
       go_ret2
       have fq:z2=qf:=by rw [EZ.out,← HQF.out,HQ.out,HQ1.out,ERR.out]
       have fr:rem=rf:=by rw [← ER.out,← ER0.out,← HRF.out,ERR.out]
       exact ⟨by rw [← fq,← fr]; rfl,rfl⟩
theorem Zdp {y:Nat} (h0:0 < y) (hy:y < W64):1≤Lib.bitLen y∧Lib.bitLen y≤64∧2 ^ (Lib.bitLen y - 1)≤y∧y < 2 ^ Lib.bitLen y:=by
 rw [Zam] at hy
 have h:=Lib.bitLenAux_bounds 64 y (by omega) (by omega)
 exact ⟨h.1,Lib.bitLen_le y 64 (by omega) (by omega),h.2.1,h.2.2⟩
noncomputable def divQ (hi lo y:Nat):Nat:=(hi * W64 + lo) / y
noncomputable def divR (hi lo y:Nat):Nat:=(hi * W64 + lo) % y
theorem ZgZ (hi lo y:Nat):divQ hi lo y * y + divR hi lo y=hi * W64 + lo:=by
 unfold divQ divR; rw [Nat.mul_comm]; exact Nat.div_add_mod _ _
theorem ZgE (hi lo:Nat) {y:Nat} (hy:0 < y):divR hi lo y < y:=Nat.mod_lt _ hy
theorem ZkS {hi lo y:Nat} (h:hi < y) (hlo:lo < W64):divQ hi lo y < W64:=by
 unfold divQ
 rw [Nat.div_lt_iff_lt_mul (by omega)]
 have:(hi + 1) * W64≤y * W64:=Nat.mul_le_mul_right _ h
 rw [Nat.add_mul] at this
 rw [Nat.mul_comm W64]
 omega
theorem ZqH (hi lo y:Nat) (w:World) (h0:0 < hi) (h1:hi < y) (hy:y < W64) (hlo:lo < W64) :
 Calls Tryz.prog 149 #[.int .u64 (hi:Int), .int .u64 (lo:Int), .int .u64 (y:Int)] w fun e w'=>e=.returned (.tuple #[.int .u64 (divQ hi lo y:Nat), .int .u64 (divR hi lo y:Nat)])∧w=w':=by
 obtain ⟨l1,l2,l3,l4⟩:=Zdp (y:=y) (by omega) hy
 obtain ⟨s,hs⟩:∃ s,64 - Lib.bitLen y=s:=⟨_,rfl⟩
 have hp:0 < 2 ^ s:=Nat.pow_pos (by omega)
 have hyY:y * 2 ^ s < W64:=by
  have:y * 2 ^ s < 2 ^ Lib.bitLen y * 2 ^ s:=Nat.mul_lt_mul_of_pos_right l4 hp
  rw [← Nat.pow_add,show Lib.bitLen y + s=64 by omega] at this
  rw [Zam]; exact this
 have hyL:9223372036854775808≤y * 2 ^ s:=by
  have:2 ^ (Lib.bitLen y - 1) * 2 ^ s≤y * 2 ^ s:=Nat.mul_le_mul_right _ l3
  rw [← Nat.pow_add,show Lib.bitLen y - 1 + s=63 by omega] at this
  exact this
 have hH:hi * 2 ^ s < y * 2 ^ s:=Nat.mul_lt_mul_of_pos_right h1 hp
 have hLs:lo / 2 ^ (64 - s) < 2 ^ s:=by
  rw [Nat.div_lt_iff_lt_mul (Nat.pow_pos (by omega)),← Nat.pow_add,show s + (64 - s)=64 by omega]
  rw [Zam] at hlo; exact hlo
 have hor:hi * 2 ^ s ||| lo / 2 ^ (64 - s)=hi * 2 ^ s + lo / 2 ^ (64 - s):=by
  have:=Nat.shiftLeft_add_eq_or_of_lt hLs hi
  rw [Nat.shiftLeft_eq] at this
  exact this.symm
 have hUY:hi * 2 ^ s + lo / 2 ^ (64 - s) < y * 2 ^ s:=by
  have:(hi + 1) * 2 ^ s≤y * 2 ^ s:=Nat.mul_le_mul_right _ h1
  rw [Nat.add_mul] at this
  omega
 have hY2:y * 2 ^ s < 18446744073709551616:=by rw [Zam] at hyY; exact hyY
 have hT:lo * 2 ^ s % 18446744073709551616 < 18446744073709551616:=Nat.mod_lt _ (by omega)
 have hHs:hi * 2 ^ s < 18446744073709551616:=by omega
 have hpow:((2:Int) ^ s)=((2 ^ s:Nat):Int):=by rw [Int.natCast_pow]; rfl
 have hpow2:((2:Int) ^ (64 - s))=((2 ^ (64 - s):Nat):Int):=by rw [Int.natCast_pow]; rfl
 have sp:=Zn5 hi lo s (by omega)
 have hv:y * 2 ^ s / 4294967296 * H32 + y * 2 ^ s % 4294967296=y * 2 ^ s:=by rw [ZaR,Nat.mul_comm]; exact Nat.div_add_mod _ _
 have sh:=ZhK (hi * 18446744073709551616 + lo) y (2 ^ s) hp
 have dt:=Ztb (H:=H32) (Y:=y * 2 ^ s) (U:=hi * 2 ^ s + lo / 2 ^ (64 - s)) (u1:=lo * 2 ^ s % 18446744073709551616 / 4294967296) (u0:=lo * 2 ^ s % 18446744073709551616 % 4294967296) (by omega) hUY (by rw [ZaR]; omega) (by rw [ZaR]; omega)
 rw [ZaR,← sp,sh.1] at dt
 refine ZpG hi lo y s (y * 2 ^ s) (y * 2 ^ s / 4294967296) (y * 2 ^ s % 4294967296) (hi * 2 ^ s) (lo / 2 ^ (64 - s)) (hi * 2 ^ s + lo / 2 ^ (64 - s)) (lo * 2 ^ s % 18446744073709551616) (lo * 2 ^ s % 18446744073709551616 / 4294967296) (lo * 2 ^ s % 18446744073709551616 % 4294967296) _ _ w ?_ ?_ h0 h1 hy (by omega) (by omega) ⟨?_,?_,?_,?_,?_,?_,?_,?_,?_⟩ (by rw [hv]; exact hUY) hv (by omega) (by rw [ZaR]; omega) (by rw [ZaR]; omega) (by rw [ZaR]; omega) (by rw [ZaR]; omega)
 ·rw [ZaR,← dt.2.2.2.1,divQ,Zam]
 ·rw [ZaR,← dt.2.2.2.2,divR,Zam]; exact sh.2
 ·rw [hpow,← Int.natCast_mul]; exact ZaS _ hyY
 ·omega
 ·exact M64.maskN _ hY2
 ·rw [hpow,← Int.natCast_mul]; exact M64.wrapN _ hHs
 ·rw [hpow2,Int.natCast_ediv]
 ·rw [bits_or_u64_nat _ _ hHs (by omega),hor]
 ·rw [hpow,← Int.natCast_mul]; exact M64.wrapM _
 ·omega
 ·exact M64.maskN _ hT
set_option maxHeartbeats 400000 in
theorem Zn7 (lo y q r:Nat) (w:World) (h1:0 < y) (hq:lo / y=q) (hr:lo % y=r) (hlo:lo < W64) :
 Calls Tryz.prog 149 #[.int .u64 0, .int .u64 (lo:Int), .int .u64 (y:Int)] w fun e w'=>e=.returned (.tuple #[.int .u64 (q:Int), .int .u64 (r:Int)])∧∃ n,w'=w.drewN n:=by
 have e2:((y:Int) == 0)=false:=by simp; omega
 have p1:(lo:Int) / (y:Int)=(q:Int):=by rw [← Int.natCast_ediv,hq]
 have p2:IntKind.u64.wrap (q:Int)=(q:Int):=ZaS _ (by have:=Nat.div_le_self lo y; omega)
 have p3:(lo:Int) % (y:Int)=(r:Int):=by rw [← Int.natCast_emod,hr]
 clear hq hr hlo
 go_enter Tryz.func149,Tryz.ntmps149
 go_wp2
 go_quiet (fail)
 go_wp2
 go_ret2
 exact ⟨by rw [← p3]; rfl,_,rfl⟩
theorem Zgd (hi lo y:Nat) (w:World) (h1:hi < y) (hy:y < W64) (hlo:lo < W64) :
 Calls Tryz.prog 149 #[.int .u64 (hi:Int), .int .u64 (lo:Int), .int .u64 (y:Int)] w fun e w'=>e=.returned (.tuple #[.int .u64 (divQ hi lo y:Nat), .int .u64 (divR hi lo y:Nat)])∧∃ n,w'=w.drewN n:=by
 rcases Nat.eq_zero_or_pos hi with h0 | h0
 ·subst h0
  refine (Zn7 lo y (divQ 0 lo y) (divR 0 lo y) w h1 (by simp [divQ]) (by simp [divR]) hlo).mono ?_
  rintro e w' ⟨rfl,hw⟩
  exact ⟨rfl,hw⟩
 ·refine (ZqH hi lo y w h0 h1 hy hlo).mono ?_
  rintro e w' ⟨rfl,rfl⟩
  exact ⟨rfl,0,rfl⟩
end Go.Proofs.YtklpdkpcocnglaaGreatDoor

namespace Go.Proofs.YtklpdkpcocnglaaGreatDoor
open Go.RowKit
def ZeE (xs:List Nat) (u k r:Nat):Prop:=r < u∧∃ Q,val W64 (xs.drop k)=Q * u + r
theorem ZeE.start (xs:List Nat) {u:Nat} (hu:0 < u):ZeE xs u xs.length 0:=⟨hu,0,by rw [List.drop_of_length_le (Nat.le_refl _)]; simp⟩
theorem ZeE.step {xs:List Nat} {u k r x:Nat} (h:ZeE xs u (k + 1) r) (hk:k < xs.length) (hx:xs[k]?.getD 0=x):ZeE xs u k (divR r x u):=by
 obtain ⟨h1,Q,h2⟩:=h
 refine ⟨ZgE _ _ (by omega),divQ r x u + W64 * Q,?_⟩
 rw [ZaL k hk,hx]
 exact Zjs W64 _ _ _ _ _ _ _ h2 (ZgZ r x u).symm
theorem ZeE.done {xs:List Nat} {u r:Nat} (h:ZeE xs u 0 r):val W64 xs % u=r:=by
 obtain ⟨h1,Q,h2⟩:=h
 rw [List.drop_zero] at h2
 rw [h2,Nat.mul_comm,Nat.mul_add_mod,Nat.mod_eq_of_lt h1]
set_option maxHeartbeats 1000000 in
theorem ZcZ (A:Option Addr) (xs:List Nat) (n c u:Nat) (w:World) (hn:xs.length=n) (hX:Zae .u64 w A xs) (hl:xs.length≤1099511627776) (hd:Dig W64 xs) (hu:0 < u) (huW:u < W64) :
 Calls Tryz.prog 172 #[.slice A n c, .int .u64 (u:Int)] w fun e w'=>e=.returned (.int .u64 ((val W64 xs % u:Nat):Int))∧∃ n,w'=w.drewN n:=by
 subst hn
 have HX:=zh hX
 have Hd:=zh hd
 have HU:=zh huW
 obtain ⟨res,hres⟩:∃ res,val W64 xs % u=res:=⟨_,rfl⟩
 rw [hres]
 have HRes:=zh hres
 clear hX hd huW hres
 go_enter Tryz.func172,Tryz.ntmps172
 go_wp2
 go_loopw [5,6] (fun rv i wr=>∃ k r q:Nat,k≤xs.length∧i=.int .i64 ((k:Int) - 1)∧rv=.int .u64 (r:Int)∧Hid (ZeE xs u k r)∧Hid (wr=w.drewN q)) (fun _ i _=>(intOf i + 1).toNat)
 case atStart=>exact ⟨xs.length,0,0,Nat.le_refl _,rfl,rfl,ZeE.start xs hu,rfl⟩
 case round =>
  obtain ⟨k,r,q,hk,rfl,rfl,hR,hW⟩:=hrel
  obtain rfl:=hW.out
  clear hW
  by_cases hlt:0 < k
  ·obtain ⟨j,rfl⟩:∃ j,k=j + 1:=⟨k - 1,by omega⟩
   have ej:(((j + 1:Nat):Int) - 1)=(j:Int):=by omega
   rw [ej]
   clear ej
   obtain ⟨b,off,rfl,_,hcx⟩:=HX.out.at (i:=j) (by omega)
   obtain ⟨x,ex⟩:∃ x,xs[j]?.getD 0=x:=⟨_,rfl⟩
   rw [ex] at hcx
   have HR2:=zh (hR.out.step (by omega) ex)
   have hxW:Hid (x < W64):=ex ▸ Hd.out.getD Zan j
   clear ex
   go_wp2_with (go_at_call 149; refine (Zgd _ _ _ _ hR.out.1 HU.out hxW.out).mono ?_; rintro e w' ⟨rfl,n1,rfl⟩)
   go_roundw
   case rel=>exact ⟨j,_,_,by omega,rfl,rfl,HR2,rfl⟩
   case measure=>simp [intOf]
  ·obtain rfl:k=0:=by omega
   have HD:=zh hR.out.done
   rw [HRes.out] at HD
   go_wp2
   go_ret
   exact ⟨by rw [HD.out]; rfl,_,rfl⟩
def Zd9 (xs:List Nat) (u k:Nat) (qs:List Nat) (r:Nat):Prop:=qs.length=xs.length∧Dig W64 qs∧r < u∧val W64 (xs.drop k)=val W64 (qs.drop k) * u + r
theorem Zd9.start (xs:List Nat) {u:Nat} (hu:0 < u):Zd9 xs u xs.length (List.replicate xs.length 0) 0:=by
 refine ⟨by simp,Dig.replicate Zan _,hu,?_⟩
 rw [List.drop_of_length_le (Nat.le_refl _),List.drop_of_length_le (by simp)]; simp
theorem Zd9.step {xs qs:List Nat} {u k r x:Nat} (h:Zd9 xs u (k + 1) qs r) (hk:k < xs.length) (hx:xs[k]?.getD 0=x) (hxW:x < W64):Zd9 xs u k (qs.set k (divQ r x u)) (divR r x u):=by
 obtain ⟨h1,h2,h3,h4⟩:=h
 refine ⟨by simpa using h1,h2.set k (ZkS h3 hxW),ZgE _ _ (by omega),?_⟩
 rw [ZaL k hk,hx,ZaL (xs:=qs.set k _) k (by simp; omega),List.drop_set_of_lt (by omega)]
 have:(qs.set k (divQ r x u))[k]?.getD 0=divQ r x u:=by simp [h1,hk]
 rw [this]
 exact Zjs W64 _ _ _ _ _ _ _ h4 (ZgZ r x u).symm
theorem Zd9.done {xs qs:List Nat} {u r:Nat} (h:Zd9 xs u 0 qs r):val W64 qs=val W64 xs / u∧r=val W64 xs % u:=by
 obtain ⟨h1,h2,h3,h4⟩:=h
 rw [List.drop_zero,List.drop_zero] at h4
 rw [h4,Nat.mul_comm,Nat.mul_add_div (by omega),Nat.mul_add_mod,Nat.mod_eq_of_lt h3,Nat.div_eq_of_lt h3]
 exact ⟨rfl,rfl⟩
def ZpH (w:World) (q r:Nat) (e:Ending) (w':World):Prop:=∃ v,e=.returned (.tuple #[v, .int .u64 (r:Int)])∧Zal w' v q∧Ext w w'
set_option maxHeartbeats 1000000 in
theorem ZkT (A:Option Addr) (xs:List Nat) (n c u:Nat) (w:World) (hn:xs.length=n) (hX:Zae .u64 w A xs) (hl:xs.length≤4294967296) (hd:Dig W64 xs) (hu:0 < u) (huW:u < W64) :
 Calls Tryz.prog 221 #[.slice A n c, .int .u64 (u:Int)] w (ZpH w (val W64 xs / u) (val W64 xs % u)):=by
 subst hn
 have HX:=zh hX
 have Hd:=zh hd
 have HU:=zh huW
 clear hX hd huW
 go_enter Tryz.func221,Tryz.ntmps221
 go_wp2_with (at_make
              refine Za3 rfl _ _ _ rfl _ _ _ Tryz.underlying76 Zdo _ _ _ _ xs.length rfl rfl (by omega) (by omega) (by omega) (by omega) ?_
              intro b w1 hb hO1 _ hF1 hs1
              have HO1:=zh hO1
              have HF1:=zh hF1
              have Hb:=zh hb
              clear hO1 hF1 hb hs1)
 go_loopw [7,8] (fun rv i wr=>∃ (k r:Nat) (qs:List Nat),k≤xs.length∧i=.int .i64 ((k:Int) - 1)∧rv=.int .u64 (r:Int)∧Hid (Zd9 xs u k qs r)∧Hid (Own .u64 94 wr b qs)∧Hid (Ext w wr)) (fun _ i _=>(intOf i + 1).toNat)
 case atStart=>exact ⟨xs.length,0,_,Nat.le_refl _,rfl,rfl,Zd9.start xs hu,HO1.out,HF1.out⟩
 case round =>
  obtain ⟨k,r,qs,hk,rfl,rfl,hR,hO2,hF2⟩:=hrel
  by_cases hlt:0 < k
  ·obtain ⟨j,rfl⟩:∃ j,k=j + 1:=⟨k - 1,by omega⟩
   have ej:(((j + 1:Nat):Int) - 1)=(j:Int):=by omega
   rw [ej]
   clear ej
   obtain ⟨b2,off2,rfl,_,hcx⟩:=(HX.out.ext hF2.out).at (i:=j) (by omega)
   obtain ⟨x,ex⟩:∃ x,xs[j]?.getD 0=x:=⟨_,rfl⟩
   rw [ex] at hcx
   have hxW:Hid (x < W64):=ex ▸ Hd.out.getD Zan j
   have HR2:=zh (hR.out.step (by omega) ex hxW.out)
   clear ex
   have hql:=hR.out.1
   have hjl:j < qs.length:=by omega
   have hcz:=hO2.out.cell hjl
   have hfz:=hO2.out.frozen j
   obtain ⟨z,ez⟩:∃ z,qs[j]?.getD 0=z:=⟨_,rfl⟩
   rw [ez] at hcz
   have HO3:=zh (fun v=>hO2.out.set j v hjl)
   clear ez hql
   go_wp2_with (go_at_call 149; refine (Zgd _ _ _ _ hR.out.2.2.1 HU.out hxW.out).mono ?_; rintro e w' ⟨rfl,n1,rfl⟩)
   go_roundw
   case rel=>exact ⟨j,_,_,by omega,rfl,rfl,HR2,HO3.out _,(hF2.out.setCell (p:=⟨b,j,none⟩) (Or.inr (by have:=Hb.out; show w.heap.size≤b; omega)) _).drewN _⟩
   case measure=>simp [intOf]
  ·obtain rfl:k=0:=by omega
   have hD:=hR.out.done
   have hz:=hR.out.1
   have HT:=zh (Zdf _ qs xs.length xs.length wr hz hO2.out.shows0 (by omega) (by omega))
   have HN:=zh (Zal.of_own (c:=xs.length) hO2.out hR.out.2.1 (by omega))
   rw [hD.1] at HN
   have Hr:=zh hD.2
   clear hz hD
   go_wp2_with fail
   refine HT.out.mono ?_
   rintro e w2 ⟨rfl,rfl⟩
   clear HT
   go_wp2
   go_ret2
   exact ⟨_,by rw [← Hr.out]; rfl,HN.out,hF2.out⟩
end Go.Proofs.YtklpdkpcocnglaaGreatDoor

namespace Go.Proofs.YtklpdkpcocnglaaGreatDoor
open Go.RowKit
theorem ZbN {t:Nat} (ht:t≤63):2 ^ (64 - t) * 2 ^ t=W64:=by
 rw [← Nat.pow_add,show 64 - t + t=64 by omega,Zam]
theorem ZqJ {x t:Nat} (ht:t≤63):x * 2 ^ t=x * 2 ^ t % W64 + W64 * (x / 2 ^ (64 - t)):=by
 have h:=Nat.mod_add_div (x * 2 ^ t) W64
 have:x * 2 ^ t / W64=x / 2 ^ (64 - t):=by
  rw [← ZbN ht,Nat.mul_div_mul_right _ _ (Nat.pow_pos (by omega))]
 rw [this] at h
 exact h.symm
theorem ZqK {h x t:Nat} (hh:h < 2 ^ t) (ht:t≤63):h ||| x * 2 ^ t % W64=h + x * 2 ^ t % W64:=by
 have e:x * 2 ^ t % W64=(x % 2 ^ (64 - t)) <<< t:=by
  rw [Nat.shiftLeft_eq,← ZbN ht,Nat.mul_mod_mul_right]
 rw [e,Nat.or_comm,← Nat.shiftLeft_add_eq_or_of_lt hh,Nat.add_comm]
theorem ZeQ (x t:Nat):IntKind.u64.wrap ((x:Int) * 2 ^ t)=((x * 2 ^ t % W64:Nat):Int):=by
 have hpow:((2:Int) ^ t)=((2 ^ t:Nat):Int):=by rw [Int.natCast_pow]; rfl
 rw [hpow,← Int.natCast_mul,Zam]
 exact M64.wrapM _
theorem ZfS (x t:Nat):(x:Int) / 2 ^ t=((x / 2 ^ t:Nat):Int):=by
 have hpow:((2:Int) ^ t)=((2 ^ t:Nat):Int):=by rw [Int.natCast_pow]; rfl
 rw [hpow,Int.natCast_ediv]
theorem Zea {a b:Nat} (ha:a < W64) (hb:b < W64):bits .or .u64 (a:Int) (b:Int)=((a ||| b:Nat):Int):=by
 rw [Zam] at ha hb
 exact bits_or_u64_nat a b ha hb
def ZdN (xs:List Nat) (skip t k:Nat) (zs:List Nat):Prop :=
 zs.length=xs.length + skip + 1∧Dig W64 zs∧val W64 (zs.take (k + skip + 1))=val W64 (xs.take k) * 2 ^ (64 * skip + t)∧(zs[k + skip]?.getD 0) < 2 ^ t
theorem ZdN.start (xs:List Nat) (skip t:Nat):ZdN xs skip t 0 (List.replicate (xs.length + skip + 1) 0):=by
 refine ⟨by simp,Dig.replicate Zan _,?_,?_⟩
 ·rw [List.take_replicate,ZbM]; simp
 ·have:((List.replicate (xs.length + skip + 1) 0)[0 + skip]?.getD 0)=0:=by
   rw [List.getElem?_replicate]; split<;>rfl
  rw [this]; exact Nat.pow_pos (by omega)
theorem ZdN.step {xs zs:List Nat} {skip t k h x:Nat} (hR:ZdN xs skip t k zs) (ht:t≤63) (hk:k < xs.length) (hh:zs[k + skip]?.getD 0=h) (hx:xs[k]?.getD 0=x) (hxW:x < W64) :
 ZdN xs skip t (k + 1) ((zs.set (k + skip) (h + x * 2 ^ t % W64)).set (k + skip + 1) (x / 2 ^ (64 - t)))∧h + x * 2 ^ t % W64 < W64:=by
 obtain ⟨h1,h2,h3,h4⟩:=hR
 rw [hh] at h4
 have hlt:h + x * 2 ^ t % W64 < W64:=by
  rw [← ZbN ht,Nat.mul_mod_mul_right]
  have:x % 2 ^ (64 - t) < 2 ^ (64 - t):=Nat.mod_lt _ (Nat.pow_pos (by omega))
  have h5:(x % 2 ^ (64 - t) + 1) * 2 ^ t≤2 ^ (64 - t) * 2 ^ t:=Nat.mul_le_mul_right _ this
  rw [Nat.add_mul] at h5
  omega
 have hhi:x / 2 ^ (64 - t) < 2 ^ t:=by
  rw [Nat.div_lt_iff_lt_mul (Nat.pow_pos (by omega)),← Nat.pow_add,show t + (64 - t)=64 by omega]
  rw [Zam] at hxW; exact hxW
 have hhi2:x / 2 ^ (64 - t) < W64:=Nat.lt_of_le_of_lt (Nat.div_le_self _ _) hxW
 refine ⟨⟨by simpa using h1,(h2.set _ hlt).set _ hhi2,?_,?_⟩,hlt⟩
 ·rw [show k + 1 + skip + 1=(k + skip + 1) + 1 by omega,ZaI _ _ _ _ (by simp; omega),ZaI _ _ _ _ (by omega),Zas k hk,hx,Nat.add_mul,← h3,Zas (k + skip) (by omega),hh]
  have e:=ZqJ (x:=x) ht
  have e2:W64 ^ k * x * 2 ^ (64 * skip + t)=W64 ^ (k + skip) * (x * 2 ^ t):=by
   rw [Nat.pow_add 2,← Zd2,Nat.pow_add]
   simp only [Nat.mul_assoc,Nat.mul_left_comm]
  rw [e2]
  have e3:=congrArg (W64 ^ (k + skip) * ·) e
  simp only [Nat.mul_add] at e3
  rw [Nat.mul_add,Nat.pow_succ,Nat.mul_assoc]
  omega
 ·have:((zs.set (k + skip) (h + x * 2 ^ t % W64)).set (k + skip + 1) (x / 2 ^ (64 - t)))[k + 1 + skip]?.getD 0=x / 2 ^ (64 - t):=by
   rw [show k + 1 + skip=k + skip + 1 by omega,List.getElem?_set_self (by simp; omega)]
   rfl
  rw [this]; exact hhi
theorem ZdN.done {xs zs:List Nat} {skip t:Nat} (h:ZdN xs skip t xs.length zs):val W64 zs=val W64 xs * 2 ^ (64 * skip + t):=by
 obtain ⟨h1,h2,h3,h4⟩:=h
 rw [List.take_of_length_le (by omega),List.take_of_length_le (by omega)] at h3
 exact h3
set_option maxHeartbeats 1000000 in
theorem ZkU (A:Option Addr) (xs:List Nat) (n c s skip t:Nat) (w:World) (hn:xs.length=n) (hX:Zae .u64 w A xs) (hc:xs.length≤c) (hl:xs.length≤4294967296) (hd:Dig W64 xs) (tx:Trim xs) (hs:s=64 * skip + t) (ht:t≤63) (hk:skip≤4294967296) :
 Calls Tryz.prog 215 #[.slice A n c, .int .u64 (s:Int)] w (Zbj w (val W64 xs * 2 ^ s)):=by
 subst hn
 have HX:=zh hX
 have Hd:=zh hd
 have Tx:=zh tx
 have HS:=zh hs
 clear hX hd tx
 by_cases h0:xs.length=0
 ·obtain rfl:xs=[]:=List.length_eq_zero_iff.1 h0
  clear hs
  go_enter Tryz.func215,Tryz.ntmps215
  go_wp2
  go_ret
  exact ⟨_,rfl,⟨A,[],c,rfl,hc,HX.out,Hd.out,Tx.out,by simp⟩,Fr.refl _ _⟩
 have h0':(((xs.length:Nat):Int) == 0)=false:=by simp; intro e; simp [e] at h0
 by_cases h1:s=0
 ·subst h1
  clear hs
  go_enter Tryz.func215,Tryz.ntmps215
  go_wp2
  go_ret
  exact ⟨_,rfl,⟨A,xs,c,rfl,hc,HX.out,Hd.out,Tx.out,by simp⟩,Fr.refl _ _⟩
 have h1':((s:Int) == 0)=false:=by simp; omega
 have p1:(s:Int) / 64=(skip:Int):=by omega
 have p2:(s:Int) % 64=(t:Int):=by omega
 clear hs h1
 go_enter Tryz.func215,Tryz.ntmps215
 go_wp2_with (at_make
              refine Za3 rfl _ _ _ rfl _ _ _ Tryz.underlying76 Zdo _ _ _ _ (xs.length + skip + 1) rfl rfl (by omega) (by omega) (by omega) (by omega) ?_
              intro b w1 hb hO1 _ hF1 hs1
              have HO1:=zh hO1
              have HF1:=zh hF1
              have Hb:=zh hb
              clear hO1 hF1 hb hs1)
 go_loopw [31] (fun i wr=>∃ (k:Nat) (zs:List Nat),k≤xs.length∧i=.int .i64 (k:Int)∧Hid (ZdN xs skip t k zs)∧Hid (Own .u64 94 wr b zs)∧Hid (Ext w wr)) (fun i _=>xs.length - (intOf i).toNat)
 case atStart=>exact ⟨0,_,by omega,rfl,ZdN.start xs skip t,HO1.out,HF1.out⟩
 case round =>
  obtain ⟨k,zs,hkk,rfl,hR,hO2,hF2⟩:=hrel
  clear p1 p2 h0' h1'
  by_cases hlt:k < xs.length
  ·obtain ⟨b2,off2,rfl,_,hcx⟩:=(HX.out.ext hF2.out).at hlt
   obtain ⟨x,ex⟩:∃ x,xs[k]?.getD 0=x:=⟨_,rfl⟩
   obtain ⟨h,eh⟩:∃ h,zs[k + skip]?.getD 0=h:=⟨_,rfl⟩
   rw [ex] at hcx
   have hxW:Hid (x < W64):=ex ▸ Hd.out.getD Zan k
   obtain ⟨hst,hdlt⟩:=hR.out.step ht hlt eh ex hxW.out
   have HR2:=zh hst
   have hzl:zs.length=xs.length + skip + 1:=hR.out.1
   have hc1:=hO2.out.cell (i:=k + skip) (by omega)
   have hf1:=hO2.out.frozen (k + skip)
   rw [eh] at hc1
   have hO3:=hO2.out.set (k + skip) (h + x * 2 ^ t % W64) (by omega)
   have hc2:=hO3.cell (i:=k + skip + 1) (by simp; omega)
   have hf2:=hO3.frozen (k + skip + 1)
   obtain ⟨g,eg⟩:∃ g,(zs.set (k + skip) (h + x * 2 ^ t % W64))[k + skip + 1]?.getD 0=g:=⟨_,rfl⟩
   rw [eg] at hc2
   have HO4:=zh (hO3.set (k + skip + 1) (x / 2 ^ (64 - t)) (by simp; omega))
   have q1:=ZeQ x t
   have q2:=Zea (a:=h) (b:=x * 2 ^ t % W64) (eh ▸ hR.out.2.1.getD Zan _) (Nat.mod_lt _ Zan)
   rw [ZqK (eh ▸ hR.out.2.2.2) ht] at q2
   have q3:=ZfS x (64 - t)
   obtain ⟨lo,elo⟩:∃ lo,x * 2 ^ t % W64=lo:=⟨_,rfl⟩
   obtain ⟨hi,ehi⟩:∃ hi,x / 2 ^ (64 - t)=hi:=⟨_,rfl⟩
   rw [elo] at q1 q2 hc2 hf2 HR2 HO4
   rw [ehi] at q3 HR2 HO4
   obtain ⟨d,ed⟩:∃ d,h + lo=d:=⟨_,rfl⟩
   rw [ed] at q2 hc2 hf2 HR2 HO4
   clear ex eh hst hdlt hzl hO3 eg elo ehi ed
   go_wp2
   go_roundw
   case rel=>exact ⟨k + 1,_,by omega,by go_num,HR2,HO4.out,(hF2.out.setCell (p:=⟨b,k + skip,none⟩) (Or.inr (by have:=Hb.out; show w.heap.size≤b; omega)) _).setCell (p:=⟨b,k + skip + 1,none⟩) (Or.inr (by have:=Hb.out; show w.heap.size≤b; omega)) _⟩
   case measure=>simp [intOf]; omega
  ·obtain rfl:k=xs.length:=by omega
   have hz:=hR.out.1
   have HT:=zh (Zdf _ zs (xs.length + skip + 1) (xs.length + skip + 1) wr hz hO2.out.shows0 (by omega) (by omega))
   have HN:=zh (Zal.of_own (c:=xs.length + skip + 1) hO2.out hR.out.2.1 (by omega))
   rw [hR.out.done,← HS.out] at HN
   clear hz
   go_wp2_with fail
   refine HT.out.mono ?_
   rintro e w2 ⟨rfl,rfl⟩
   clear HT
   go_wp2
   go_ret
   exact ⟨_,rfl,HN.out,hF2.out⟩
theorem Zhx (xv:Value) (x s:Nat) (w:World) (hX:Zal w xv x) (hx:wl x≤4294967296) (hs:s≤274877906944):Calls Tryz.prog 215 #[xv, .int .u64 (s:Int)] w (Zbj w (x * 2 ^ s)):=by
 obtain ⟨A,xs,c,rfl,hc,h1,h2,h3,rfl⟩:=hX
 rw [← ZaN h2 h3] at hx
 exact ZkU A xs _ c s (s / 64) (s % 64) w rfl h1 hc hx h2 h3 (by omega) (by omega) (by omega)
def ZdO (ys:List Nat) (t k:Nat) (zs:List Nat):Prop :=
 zs.length=ys.length∧Dig W64 zs∧2 ^ t * val W64 (zs.take k) + (ys[0]?.getD 0) % 2 ^ t=val W64 (ys.take k) + W64 ^ k * ((ys[k]?.getD 0) % 2 ^ t)
theorem ZdO.start (ys:List Nat) (t:Nat):ZdO ys t 0 (List.replicate ys.length 0):=by
 refine ⟨by simp,Dig.replicate Zan _,?_⟩
 simp
theorem Zte {y t:Nat} (ht:t≤63):y * 2 ^ (64 - t) % W64=y % 2 ^ t * 2 ^ (64 - t):=by
 rw [← ZbN ht,Nat.mul_comm (2 ^ (64 - t)),Nat.mul_mod_mul_right]
theorem ZqL {x y t:Nat} (ht:t≤63) (hx:x < W64):x / 2 ^ t ||| y * 2 ^ (64 - t) % W64=x / 2 ^ t + y % 2 ^ t * 2 ^ (64 - t):=by
 have hlt:x / 2 ^ t < 2 ^ (64 - t):=by
  rw [Nat.div_lt_iff_lt_mul (Nat.pow_pos (by omega)),ZbN ht]; exact hx
 rw [Zte ht,← Nat.shiftLeft_eq,Nat.or_comm,← Nat.shiftLeft_add_eq_or_of_lt hlt,Nat.add_comm]
theorem ZdO.step {ys zs:List Nat} {t k x y:Nat} (h:ZdO ys t k zs) (ht:t≤63) (hk:k < ys.length) (hx:ys[k]?.getD 0=x) (hy:ys[k + 1]?.getD 0=y) (hxW:x < W64) :
 ZdO ys t (k + 1) (zs.set k (x / 2 ^ t + y % 2 ^ t * 2 ^ (64 - t))):=by
 obtain ⟨h1,h2,h3⟩:=h
 have hlt:x / 2 ^ t + y % 2 ^ t * 2 ^ (64 - t) < W64:=by
  have e1:x / 2 ^ t < 2 ^ (64 - t):=by
   rw [Nat.div_lt_iff_lt_mul (Nat.pow_pos (by omega)),ZbN ht]; exact hxW
  have e2:y % 2 ^ t < 2 ^ t:=Nat.mod_lt _ (Nat.pow_pos (by omega))
  have e3:(y % 2 ^ t + 1) * 2 ^ (64 - t)≤2 ^ t * 2 ^ (64 - t):=Nat.mul_le_mul_right _ e2
  rw [Nat.mul_comm (2 ^ t),ZbN ht,Nat.add_mul] at e3
  omega
 refine ⟨by simpa using h1,h2.set k hlt,?_⟩
 rw [ZaI _ _ _ _ (by omega),Zas k hk,hx,hy]
 rw [hx] at h3
 have e1:=Nat.div_add_mod x (2 ^ t)
 have e2:2 ^ t * (y % 2 ^ t * 2 ^ (64 - t))=W64 * (y % 2 ^ t):=by
  rw [← ZbN ht]
  simp only [Nat.mul_comm,Nat.mul_left_comm]
 have e3:=congrArg (W64 ^ k * ·) e1
 simp only [Nat.mul_add] at e3
 rw [Nat.mul_add,Nat.mul_left_comm (2 ^ t),Nat.mul_add (2 ^ t),e2,Nat.mul_add,Nat.pow_succ,Nat.mul_assoc (W64 ^ k) W64]
 omega
theorem ZdO.done {ys zs:List Nat} {t:Nat} (h:ZdO ys t ys.length zs):val W64 zs=val W64 ys / 2 ^ t:=by
 obtain ⟨h1,h2,h3⟩:=h
 rw [List.take_of_length_le (by omega),List.take_of_length_le (by omega),List.getElem?_eq_none (Nat.le_refl _)] at h3
 simp only [Option.getD_none,Nat.zero_mod,Nat.mul_zero,Nat.add_zero] at h3
 rw [← h3,Nat.mul_add_div (Nat.pow_pos (by omega)),Nat.div_eq_of_lt (Nat.mod_lt _ (Nat.pow_pos (by omega))),Nat.add_zero]
theorem ZkV (xs:List Nat) (skip t:Nat) (hd:Dig W64 xs) (hs:skip≤xs.length):val W64 (xs.drop skip) / 2 ^ t=val W64 xs / 2 ^ (64 * skip + t):=by
 rw [Nat.pow_add,← Zd2,← Nat.div_div_eq_div_mul]
 congr 1
 rw [ZaK (xs:=xs) skip,Nat.min_eq_left hs,Nat.add_comm,Nat.mul_add_div (Nat.pow_pos Zan)]
 have h:=ZaQ (hd.take skip)
 rw [List.length_take,Nat.min_eq_left hs] at h
 rw [Nat.div_eq_of_lt h,Nat.add_zero]
theorem Zjw {xs:List Nat} {s:Nat} (hd:Dig W64 xs) (h:xs.length≤s / 64):val W64 xs / 2 ^ s=0:=by
 refine Nat.div_eq_of_lt (Nat.lt_of_lt_of_le (ZaQ hd) ?_)
 rw [Zd2]
 exact Nat.pow_le_pow_right (by omega) (by omega)
set_option maxHeartbeats 2000000 in
theorem Zj1 (A:Option Addr) (xs:List Nat) (n c s skip t:Nat) (w:World) (hn:xs.length=n) (hX:Zae .u64 w A xs) (hl:xs.length≤4294967296) (hd:Dig W64 xs) (hs:s=64 * skip + t) (ht:t≤63) (hk:skip≤4294967296) :
 Calls Tryz.prog 220 #[.slice A n c, .int .u64 (s:Int)] w (Zbj w (val W64 xs / 2 ^ s)):=by
 subst hn
 have HX:=zh hX
 have Hd:=zh hd
 have HS:=zh hs
 have p1:(s:Int) / 64=(skip:Int):=by omega
 have p2:(s:Int) % 64=(t:Int):=by omega
 clear hX hd
 by_cases h0:xs.length≤skip
 ·have HZ:=zh (Zjw (s:=s) Hd.out (by omega))
  clear hs
  go_enter Tryz.func220,Tryz.ntmps220
  go_wp2
  go_ret
  exact ⟨_,rfl,by rw [HZ.out]; exact Zal.zero _,Fr.refl _ _⟩
 clear hs
 go_enter Tryz.func220,Tryz.ntmps220
 go_wp2_with (at_make
              refine Za3 rfl _ _ _ rfl _ _ _ Tryz.underlying76 Zdo _ _ _ _ (xs.length - skip) rfl rfl (by omega) (by omega) (by omega) (by omega) ?_
              intro b w1 hb hO1 _ hF1 hs1
              have HO1:=zh hO1
              have HF1:=zh hF1
              have Hb:=zh hb
              clear hO1 hF1 hb hs1)
 have hyl:Hid ((xs.drop skip).length=xs.length - skip):=by unfold Hid; simp
 go_loopw [27] (fun i wr=>∃ (k:Nat) (zs:List Nat),k≤xs.length - skip∧i=.int .i64 (k:Int)∧Hid (ZdO (xs.drop skip) t k zs)∧Hid (Own .u64 94 wr b zs)∧Hid (Ext w wr)) (fun i _=>xs.length - skip - (intOf i).toNat)
 case atStart=>exact ⟨0,_,by omega,rfl,ZdO.start _ t,by rw [hyl.out]; exact HO1.out,HF1.out⟩
 case round =>
  obtain ⟨k,zs,hkk,rfl,hR,hO2,hF2⟩:=hrel
  clear p1 p2
  by_cases hlt:k < xs.length - skip
  ·obtain ⟨b2,off2,rfl,_,hcx⟩:=(HX.out.ext hF2.out).at (i:=k + skip) (by omega)
   obtain ⟨x,ex⟩:∃ x,xs[k + skip]?.getD 0=x:=⟨_,rfl⟩
   rw [ex] at hcx
   have hxW:Hid (x < W64):=ex ▸ Hd.out.getD Zan _
   have ex':(xs.drop skip)[k]?.getD 0=x:=by rw [List.getElem?_drop,Nat.add_comm]; exact ex
   have hzl:zs.length=xs.length - skip:=by rw [← hyl.out]; exact hR.out.1
   have hkz:k < zs.length:=by omega
   have hc1:=hO2.out.cell hkz
   have hf1:=hO2.out.frozen k
   obtain ⟨z0,ez0⟩:∃ z0,zs[k]?.getD 0=z0:=⟨_,rfl⟩
   rw [ez0] at hc1
   have q3:=ZfS x t
   by_cases hlast:k + skip + 1 < xs.length
   ·obtain ⟨b3,off3,e3,_,hcy⟩:=(HX.out.ext hF2.out).at (i:=k + skip + 1) hlast
    injection e3 with e3
    injection e3 with e31 e32
    subst e31 e32
    obtain ⟨y,ey⟩:∃ y,xs[k + skip + 1]?.getD 0=y:=⟨_,rfl⟩
    rw [ey] at hcy
    have ey':(xs.drop skip)[k + 1]?.getD 0=y:=by rw [List.getElem?_drop,show skip + (k + 1)=k + skip + 1 by omega]; exact ey
    have HR2:=zh (hR.out.step ht (by rw [hyl.out]; exact hlt) ex' ey' hxW.out)
    have q1:=ZeQ y (64 - t)
    have q2:=Zea (a:=x / 2 ^ t) (b:=y * 2 ^ (64 - t) % W64) (Nat.lt_of_le_of_lt (Nat.div_le_self _ _) hxW.out) (Nat.mod_lt _ Zan)
    rw [ZqL ht hxW.out] at q2
    obtain ⟨lo,elo⟩:∃ lo,x / 2 ^ t=lo:=⟨_,rfl⟩
    obtain ⟨hi,ehi⟩:∃ hi,y * 2 ^ (64 - t) % W64=hi:=⟨_,rfl⟩
    obtain ⟨d,ed⟩:∃ d,x / 2 ^ t + y % 2 ^ t * 2 ^ (64 - t)=d:=⟨_,rfl⟩
    rw [ed] at q2 HR2
    rw [elo] at q2 q3
    rw [ehi] at q1 q2
    have hO3:=hO2.out.set k lo hkz
    have hf3:=hO3.frozen k
    have hc3:=hO3.cell (i:=k) (by simpa using hkz)
    have e4:(zs.set k lo)[k]?.getD 0=lo:=by rw [List.getElem?_set_self hkz]; rfl
    rw [e4] at hc3
    have HO4:=zh (hO3.set k d (by simpa using hkz))
    have hcy':(wr.setCell ⟨b,k,none⟩ (.int .u64 (lo:Int))).cell? ⟨b2,off2 + (k + skip + 1),none⟩=some (.int .u64 (y:Int)):=by
     rw [World.cell?_setCell_other _ _ _ _ (by intro e; injection e with e; have:=Hb.out; obtain ⟨b',o',e',hb',_⟩:=HX.out (by intro e0; rw [e0] at hlt; simp at hlt); injection e' with e'; injection e' with e'; omega)]
     exact hcy
    clear ex ex' ey ey' ez0 elo ehi ed hzl hO3 e4
    have HF3:=zh (hF2.out.setCell (p:=⟨b,k,none⟩) (Or.inr (by have:=Hb.out; show w.heap.size≤b; omega)) (.int .u64 (lo:Int)))
    go_wp2
    clear hcy hcx
    generalize hwq:wr.setCell ⟨b,k,none⟩ (.int .u64 (lo:Int))=wq at *
    clear hwq hc1 hf1
    go_region
    all_goals
     go_wp2
     go_roundw
     case rel=>exact ⟨k + 1,_,by omega,by go_num,HR2,by have:=HO4.out; rw [List.set_set] at this; exact this.drewN _,(HF3.out.setCell (p:=⟨b,k,none⟩) (Or.inr (by have:=Hb.out; show w.heap.size≤b; omega)) _).drewN _⟩
     case measure=>simp [intOf]; omega
   ·have ey':(xs.drop skip)[k + 1]?.getD 0=0:=by rw [List.getElem?_drop,List.getElem?_eq_none (by omega)]; rfl
    have HR2:=zh (hR.out.step ht (by rw [hyl.out]; exact hlt) ex' ey' hxW.out)
    rw [Nat.zero_mod,Nat.zero_mul,Nat.add_zero] at HR2
    obtain ⟨lo,elo⟩:∃ lo,x / 2 ^ t=lo:=⟨_,rfl⟩
    rw [elo] at q3 HR2
    have HO3:=zh (hO2.out.set k lo hkz)
    clear ex ex' ey' ez0 elo hzl
    go_wp2
    go_roundw
    case rel=>exact ⟨k + 1,_,by omega,by go_num,HR2,HO3.out,hF2.out.setCell (p:=⟨b,k,none⟩) (Or.inr (by have:=Hb.out; show w.heap.size≤b; omega)) _⟩
    case measure=>simp [intOf]; omega
  ·obtain rfl:k=xs.length - skip:=by omega
   have hz:zs.length=xs.length - skip:=by rw [← hyl.out]; exact hR.out.1
   have HT:=zh (Zdf _ zs (xs.length - skip) (xs.length - skip) wr hz hO2.out.shows0 (by omega) (by omega))
   have HN:=zh (Zal.of_own (c:=xs.length - skip) hO2.out hR.out.2.1 (by omega))
   have hRd:=hR.out
   rw [← hyl.out] at hRd
   rw [hRd.done,ZkV xs skip t Hd.out (by omega),← HS.out] at HN
   clear hz hRd
   go_wp2_with fail
   refine HT.out.mono ?_
   rintro e w2 ⟨rfl,rfl⟩
   clear HT
   go_wp2
   go_ret
   exact ⟨_,rfl,HN.out,hF2.out⟩
theorem ZkW (xv:Value) (x s:Nat) (w:World) (hX:Zal w xv x) (hx:wl x≤4294967296) (hs:s≤274877906944):Calls Tryz.prog 220 #[xv, .int .u64 (s:Int)] w (Zbj w (x / 2 ^ s)):=by
 obtain ⟨A,xs,c,rfl,hc,h1,h2,h3,rfl⟩:=hX
 rw [← ZaN h2 h3] at hx
 exact Zj1 A xs _ c s (s / 64) (s % 64) w rfl h1 hx h2 (by omega) (by omega) (by omega)
end Go.Proofs.YtklpdkpcocnglaaGreatDoor

namespace Go.Proofs.YtklpdkpcocnglaaGreatDoor
open Go.RowKit
noncomputable def W32:Nat:=Classical.choose (p:=fun n:Nat=>n=4294967296) ⟨_,rfl⟩
theorem Zaq:W32=4294967296:=Classical.choose_spec (p:=fun n:Nat=>n=4294967296) ⟨_,rfl⟩
theorem Zau:0 < W32:=by have:=Zaq; omega
theorem ZkY:1 < W32:=by have:=Zaq; omega
theorem Zti:2≤W32:=by have:=Zaq; omega
theorem Zed:W32 * W32=W64:=by rw [Zaq,Zam]
theorem ZdT:(Tryz.prog.info? 102).map (fun i=>(i.zero,i.size,i.bytes))=some (some (.int .u32 0),1,4):=by kernel_rfl
set_option maxHeartbeats 400000 in
theorem Zbs (A:Option Addr) (xs:List Nat) (n c:Nat) (w:World) (hn:xs.length=n) (h:Zae .u32 w A xs) (hc:xs.length≤c) (hm:xs.length≤1099511627776) :
 Calls Tryz.prog 71 #[.slice A n c] w fun e w'=>e=.returned (.slice A (ZaZ xs xs.length) c)∧w=w':=by
 subst hn
 have H:=zh h
 clear h
 go_enter Tryz.func71,Tryz.ntmps71
 go_wp2
 go_loop [0] (fun v=>∃ k:Nat,k≤xs.length∧v=.slice A k c∧Hid (ZaZ xs xs.length=ZaZ xs k)) (fun v=>match v with | .slice _ k _=>k | _=>0)
 case atStart=>exact ⟨xs.length,Nat.le_refl _,rfl,rfl⟩
 case round =>
  obtain ⟨k,hk,rfl,hr⟩:=hrel
  by_cases hlt:0 < k
  ·obtain ⟨b,off,rfl,hb,hcl⟩:=H.out.at (i:=k - 1) (by omega)
   obtain ⟨x,hx⟩:∃ x,xs[k - 1]?.getD 0=x:=⟨_,rfl⟩
   rw [hx] at hcl
   have HX:=zh hx
   clear hx
   by_cases h0:x=0
   ·subst h0
    go_wp2
    go_round
    case rel =>
     refine ⟨k - 1,by omega,by go_num,?_⟩
     have e:=hr.out
     obtain ⟨m,rfl⟩:∃ m,k=m + 1:=⟨k - 1,by omega⟩
     rw [ZaZ,if_pos (by simpa using HX.out)] at e
     exact e
    case measure=>simp; omega
   ·have hb0:(((x:Nat):Int) == 0)=false:=by simpa using h0
    go_wp2
    go_ret
    refine ⟨?_,rfl⟩
    have e:=hr.out
    obtain ⟨m,rfl⟩:∃ m,k=m + 1:=⟨k - 1,by omega⟩
    have HX':=HX.out
    simp only [Nat.add_sub_cancel] at HX'
    rw [ZaZ,if_neg (by rw [HX']; exact h0)] at e
    rw [e]; rfl
  ·obtain rfl:k=0:=by omega
   go_wp2
   go_ret
   exact ⟨by rw [hr.out]; rfl,rfl⟩
def ml (n:Nat):Nat:=if n=0 then 0 else n.log2 / 32 + 1
theorem ZeS (k:Nat):W32 ^ k=2 ^ (32 * k):=by rw [Nat.pow_mul,Zaq]
theorem ZaW {n k:Nat}:ml n≤k ↔ n < W32 ^ k:=by
 unfold ml
 rw [ZeS]
 split
 ·rename_i h; subst h; simp [Nat.pow_pos]
 ·rename_i h
  rw [← Nat.log2_lt h]; omega
theorem Zg6 (n:Nat):n < W32 ^ ml n:=ZaW.1 (Nat.le_refl _)
theorem ZkZ:ml 0=0:=rfl
theorem ZbF {a b:Nat} (h:a≤b):ml a≤ml b:=ZaW.2 (Nat.lt_of_le_of_lt h (Zg6 b))
theorem Zq0 (a b:Nat):ml (a * b)≤ml a + ml b:=ZaW.2 (by rw [Nat.pow_add]; exact Nat.mul_lt_mul'' (Zg6 a) (Zg6 b))
theorem Zq1 {a b k:Nat} (ha:ml a≤k) (hb:ml b≤k):ml (a + b)≤k + 1:=by
 rw [ZaW] at *
 have:W32 ^ k * 2≤W32 ^ k * W32:=Nat.mul_le_mul_left _ Zti
 rw [Nat.pow_succ]
 omega
theorem Zby {xs:List Nat} (hd:Dig W32 xs) (ht:Trim xs):xs.length=ml (val W32 xs):=by
 have h1:=ZbO (n:=ml (val W32 xs)) ZkY ht (Zg6 _)
 have h2:ml (val W32 xs)≤xs.length:=ZaW.2 (ZaQ hd)
 omega
theorem Zkh {n:Nat} (h:0 < n):0 < ml n:=by
 unfold ml; rw [if_neg (by omega)]; omega
def Zar (w:World) (v:Value) (n:Nat):Prop :=
 ∃ (A:Option Addr) (xs:List Nat) (c:Nat),v=.slice A xs.length c∧xs.length≤c∧Zae .u32 w A xs∧Dig W32 xs∧Trim xs∧val W32 xs=n
theorem Zar.ext {w w':World} {v:Value} {n:Nat} (h:Zar w v n) (hf:Ext w w'):Zar w' v n:=by
 obtain ⟨A,xs,c,h1,h2,h4,h5⟩:=h
 exact ⟨A,xs,c,h1,h2,h4.ext hf,h5⟩
theorem Zar.zero (w:World):Zar w (.slice none 0 0) 0:=⟨none,[],0,rfl,by simp,Zae.nil,Dig.nil,Trim.nil,rfl⟩
def ZdU (w:World) (n:Nat) (e:Ending) (w':World):Prop:=∃ v,e=.returned v∧Zar w' v n∧Ext w w'
theorem Zar.of_own {w:World} {b:Nat} {xs:List Nat} (h:Own .u32 102 w b xs) (hd:Dig W32 xs) {c:Nat} (hc:xs.length≤c):Zar w (.slice (some ⟨b,0,none⟩) (ZaZ xs xs.length) c) (val W32 xs):=by
 refine ⟨_,ZaT xs,c,by rw [ZaX],by rw [ZaX]; exact Nat.le_trans (Zcz _ _) hc,h.shows0.take _,Zcb hd,Zcg xs,Za8 _ _⟩
theorem ZbX (s:Nat):(s:Int) % 4294967296=((s % W32:Nat):Int):=by rw [Zaq]; omega
theorem hi32 (s:Nat):(s:Int) / 4294967296=((s / W32:Nat):Int):=by rw [Zaq]; omega
theorem addW {a b:Nat} (h:a + b < W64):IntKind.u64.wrap ((a:Int) + (b:Int))=((a + b:Nat):Int):=by rw [← Int.natCast_add]; exact ZaS _ h
def Zco (xs ys:List Nat) (k:Nat) (m:List Nat) (c:Nat):Prop :=
 m.length=xs.length + 1∧Dig W32 m∧c≤1∧val W32 (m.take k) + W32 ^ k * c=val W32 (xs.take k) + val W32 (ys.take k)
theorem Zco.start (xs ys:List Nat):Zco xs ys 0 (List.replicate (xs.length + 1) 0) 0:=⟨by simp,Dig.replicate Zau _,by omega,by simp⟩
theorem ZfW {x y c:Nat} (hx:x < W32) (hy:y < W32) (hc:c≤1):(c + x + y) / W32≤1:=by
 rw [Zaq] at *; omega
theorem Zco.step {xs ys m:List Nat} {k c x y:Nat} (h:Zco xs ys k m c) (hk:k < xs.length) (hx:xs[k]?.getD 0=x) (hy:ys[k]?.getD 0=y) (hyl:k < ys.length) (dx:Dig W32 xs) (dy:Dig W32 ys) :
 Zco xs ys (k + 1) (m.set k ((c + x + y) % W32)) ((c + x + y) / W32):=by
 obtain ⟨h1,h2,h3,h4⟩:=h
 refine ⟨by simpa using h1,h2.set k (Nat.mod_lt _ Zau),ZfW (hx ▸ dx.getD Zau k) (hy ▸ dy.getD Zau k) h3,?_⟩
 rw [ZaI _ _ _ _ (by omega),Zas k hk,Zas k hyl,hx,hy,Nat.pow_succ]
 exact ZfL _ _ _ _ _ _ _ _ _ _ h4 (by have:=Nat.mod_add_div (c + x + y) W32; omega)
theorem Zco.step0 {xs ys m:List Nat} {k c x:Nat} (h:Zco xs ys k m c) (hk:k < xs.length) (hx:xs[k]?.getD 0=x) (hyl:ys.length≤k) (dx:Dig W32 xs) :
 Zco xs ys (k + 1) (m.set k ((c + x) % W32)) ((c + x) / W32):=by
 obtain ⟨h1,h2,h3,h4⟩:=h
 refine ⟨by simpa using h1,h2.set k (Nat.mod_lt _ Zau),by simpa using ZfW (y:=0) (hx ▸ dx.getD Zau k) Zau h3,?_⟩
 rw [ZaI _ _ _ _ (by omega),Zas k hk,hx,Nat.pow_succ,List.take_of_length_le (l:=ys) (by omega)]
 rw [List.take_of_length_le (l:=ys) (by omega)] at h4
 have:=ZfL _ _ _ _ _ _ 0 _ _ _ h4 (by have:=Nat.mod_add_div (c + x) W32; omega:(c + x) % W32 + W32 * ((c + x) / W32)=x + 0 + c)
 simpa using this
theorem Zco.last {xs ys m:List Nat} {c:Nat} (h:Zco xs ys xs.length m c) (hl:ys.length≤xs.length):(m.set xs.length c).length=xs.length + 1∧Dig W32 (m.set xs.length c)∧val W32 (m.set xs.length c)=val W32 xs + val W32 ys:=by
 obtain ⟨h1,h2,h3,h4⟩:=h
 refine ⟨by simpa using h1,h2.set _ (by have:=Zaq; omega),?_⟩
 have e:m.set xs.length c=(m.set xs.length c).take (xs.length + 1):=by rw [List.take_of_length_le (by simp; omega)]
 rw [e,ZaI _ _ _ _ (by omega),h4,List.take_of_length_le (Nat.le_refl _),List.take_of_length_le hl]
set_option maxHeartbeats 1000000 in
theorem Zoc (A A2:Option Addr) (xs ys:List Nat) (c c2:Nat) (w:World) (hX:Zae .u32 w A xs) (hY:Zae .u32 w A2 ys) (hl:xs.length≤4294967296) (hxy:ys.length≤xs.length)
 (hx:Dig W32 xs) (hy:Dig W32 ys) :
 Calls Tryz.prog 102 #[.slice A xs.length c, .slice A2 ys.length c2] w (ZdU w (val W32 xs + val W32 ys)):=by
 have HX:=zh hX
 have HY:=zh hY
 have Hx:=zh hx
 have Hy:=zh hy
 clear hX hY hx hy
 go_enter Tryz.func102,Tryz.ntmps102
 go_wp2_with (
  at_make
  refine Za3 rfl _ _ _ rfl _ _ _ Tryz.underlying30 ZdT _ _ _ _ (xs.length + 1) rfl rfl (by omega) (by omega) (by omega) (by omega) ?_
  intro b w1 hb hO1 hC1 hF1 hs1
  have HO1:=zh hO1
  have HF1:=zh hF1
  have Hb:=zh hb
  clear hO1 hF1 hb hs1 hC1)
 go_loopw [6,7] (fun cv i wr=>∃ (k cc:Nat) (m:List Nat),k≤xs.length∧i=.int .i64 k∧cv=.int .u64 cc∧Hid (Zco xs ys k m cc)∧Hid (Own .u32 102 wr b m)∧Hid (Ext w wr)) (fun _ i _=>xs.length - (intOf i).toNat)
 case atStart=>exact ⟨0,0,_,by omega,rfl,rfl,Zco.start _ _,HO1,HF1⟩
 case round =>
  obtain ⟨k,cc,m,hk,rfl,rfl,hR,hO2,hF2⟩:=hrel
  have hml:=hR.out.1
  by_cases hlt:k < xs.length
  ·obtain ⟨b2,off2,rfl,_,hcx⟩:=(HX.out.ext hF2.out).at hlt
   obtain ⟨x,ex⟩:∃ x,xs[k]?.getD 0=x:=⟨_,rfl⟩
   rw [ex] at hcx
   have hx32:=ex ▸ Hx.out.getD Zau k
   have hc1:=hR.out.2.2.1
   have hcz:=hO2.out.cell (i:=k) (by omega)
   have hfz:=hO2.out.frozen k
   obtain ⟨z,ez⟩:∃ z,m[k]?.getD 0=z:=⟨_,rfl⟩
   rw [ez] at hcz
   have hcx32:cc + x < W64:=by have:=Zaq; have:=Zam; omega
   have q0:=ZaS x (by have:=Zam; have:=Zaq; omega)
   have q1:=addW (a:=cc) (b:=x) hcx32
   obtain ⟨s1,es1⟩:∃ s1,cc + x=s1:=⟨_,rfl⟩
   rw [es1] at q1
   by_cases hy2:k < ys.length
   ·obtain ⟨b3,off3,rfl,_,hcy⟩:=(HY.out.ext hF2.out).at hy2
    obtain ⟨y,ey⟩:∃ y,ys[k]?.getD 0=y:=⟨_,rfl⟩
    rw [ey] at hcy
    have hy32:=ey ▸ Hy.out.getD Zau k
    have HR2:=zh (hR.out.step hlt ex ey hy2 Hx.out Hy.out)
    rw [es1] at HR2
    have q0':=ZaS y (by have:=Zam; have:=Zaq; omega)
    have q2:=addW (a:=s1) (b:=y) (by have:=Zaq; have:=Zam; omega)
    obtain ⟨s2,es2⟩:∃ s2,s1 + y=s2:=⟨_,rfl⟩
    rw [es2] at q2 HR2
    have HO3:=zh (hO2.out.set k (s2 % W32) (by omega))
    have q3:=ZbX s2
    have q4:=hi32 s2
    obtain ⟨lo,elo⟩:∃ lo,s2 % W32=lo:=⟨_,rfl⟩
    obtain ⟨hi,ehi⟩:∃ hi,s2 / W32=hi:=⟨_,rfl⟩
    rw [elo] at q3 HR2 HO3
    rw [ehi] at q4 HR2
    clear ex ey ez elo ehi es1 es2 hx32 hy32 hc1 hcx32
    go_wp2
    go_roundw
    case rel=>exact ⟨k + 1,_,_,by omega,by go_num,rfl,HR2,HO3.out,hF2.out.setCell (p:=⟨b,k,none⟩) (Or.inr (by have:=Hb.out; show w.heap.size≤b; omega)) _⟩
    case measure=>simp [intOf]; omega
   ·have HR2:=zh (hR.out.step0 hlt ex (by omega) Hx.out)
    rw [es1] at HR2
    have HO3:=zh (hO2.out.set k (s1 % W32) (by omega))
    have q3:=ZbX s1
    have q4:=hi32 s1
    obtain ⟨lo,elo⟩:∃ lo,s1 % W32=lo:=⟨_,rfl⟩
    obtain ⟨hi,ehi⟩:∃ hi,s1 / W32=hi:=⟨_,rfl⟩
    rw [elo] at q3 HR2 HO3
    rw [ehi] at q4 HR2
    clear ex ez elo ehi es1 hx32 hc1 hcx32
    go_wp2
    go_roundw
    case rel=>exact ⟨k + 1,_,_,by omega,by go_num,rfl,HR2,HO3.out,hF2.out.setCell (p:=⟨b,k,none⟩) (Or.inr (by have:=Hb.out; show w.heap.size≤b; omega)) _⟩
    case measure=>simp [intOf]; omega
  ·obtain rfl:k=xs.length:=by omega
   obtain ⟨l1,l2,l3⟩:=hR.out.last hxy
   have hcz:=hO2.out.cell (i:=xs.length) (by omega)
   have hfz:=hO2.out.frozen xs.length
   obtain ⟨z,ez⟩:∃ z,m[xs.length]?.getD 0=z:=⟨_,rfl⟩
   rw [ez] at hcz
   have hc1:=hR.out.2.2.1
   have hc32:(cc:Int) % 4294967296=(cc:Int):=by omega
   have HO3:=hO2.out.set xs.length cc (by omega)
   obtain ⟨m',em⟩:∃ m',m.set xs.length cc=m':=⟨_,rfl⟩
   rw [em] at l1 l2 l3 HO3
   have HT:=zh (Zbs _ _ (xs.length + 1) (xs.length + 1) _ l1 HO3.shows0 (by omega) (by omega))
   have HN:=zh (Zar.of_own (c:=xs.length + 1) HO3 l2 (by omega))
   rw [l3] at HN
   clear ez l1 l2 l3 HO3 hc1 hml em
   go_wp2_with fail
   refine HT.out.mono ?_
   rintro e w2 ⟨rfl,rfl⟩
   clear HT
   go_wp2
   go_ret
   exact ⟨_,rfl,HN.out,hF2.out.setCell (p:=⟨b,xs.length,none⟩) (Or.inr (by have:=Hb.out; show w.heap.size≤b; omega)) _⟩
set_option maxHeartbeats 1000000 in
theorem Zod (A A2:Option Addr) (xs ys:List Nat) (c c2:Nat) (w:World) (hX:Zae .u32 w A xs) (hY:Zae .u32 w A2 ys) (hl:xs.length≤4294967296) (hlt:ys.length < xs.length)
 (hx:Dig W32 xs) (hy:Dig W32 ys) :
 Calls Tryz.prog 102 #[.slice A2 ys.length c2, .slice A xs.length c] w (ZdU w (val W32 xs + val W32 ys)):=by
 have hxy:ys.length≤xs.length:=by omega
 have HX:=zh hX
 have HY:=zh hY
 have Hx:=zh hx
 have Hy:=zh hy
 clear hX hY hx hy
 go_enter Tryz.func102,Tryz.ntmps102
 go_wp2_with (
  at_make
  refine Za3 rfl _ _ _ rfl _ _ _ Tryz.underlying30 ZdT _ _ _ _ (xs.length + 1) rfl rfl (by omega) (by omega) (by omega) (by omega) ?_
  intro b w1 hb hO1 hC1 hF1 hs1
  have HO1:=zh hO1
  have HF1:=zh hF1
  have Hb:=zh hb
  clear hO1 hF1 hb hs1 hC1)
 go_loopw [6,7] (fun cv i wr=>∃ (k cc:Nat) (m:List Nat),k≤xs.length∧i=.int .i64 k∧cv=.int .u64 cc∧Hid (Zco xs ys k m cc)∧Hid (Own .u32 102 wr b m)∧Hid (Ext w wr)) (fun _ i _=>xs.length - (intOf i).toNat)
 case atStart=>exact ⟨0,0,_,by omega,rfl,rfl,Zco.start _ _,HO1,HF1⟩
 case round =>
  obtain ⟨k,cc,m,hk,rfl,rfl,hR,hO2,hF2⟩:=hrel
  have hml:=hR.out.1
  by_cases hlt:k < xs.length
  ·obtain ⟨b2,off2,rfl,_,hcx⟩:=(HX.out.ext hF2.out).at hlt
   obtain ⟨x,ex⟩:∃ x,xs[k]?.getD 0=x:=⟨_,rfl⟩
   rw [ex] at hcx
   have hx32:=ex ▸ Hx.out.getD Zau k
   have hc1:=hR.out.2.2.1
   have hcz:=hO2.out.cell (i:=k) (by omega)
   have hfz:=hO2.out.frozen k
   obtain ⟨z,ez⟩:∃ z,m[k]?.getD 0=z:=⟨_,rfl⟩
   rw [ez] at hcz
   have hcx32:cc + x < W64:=by have:=Zaq; have:=Zam; omega
   have q0:=ZaS x (by have:=Zam; have:=Zaq; omega)
   have q1:=addW (a:=cc) (b:=x) hcx32
   obtain ⟨s1,es1⟩:∃ s1,cc + x=s1:=⟨_,rfl⟩
   rw [es1] at q1
   by_cases hy2:k < ys.length
   ·obtain ⟨b3,off3,rfl,_,hcy⟩:=(HY.out.ext hF2.out).at hy2
    obtain ⟨y,ey⟩:∃ y,ys[k]?.getD 0=y:=⟨_,rfl⟩
    rw [ey] at hcy
    have hy32:=ey ▸ Hy.out.getD Zau k
    have HR2:=zh (hR.out.step hlt ex ey hy2 Hx.out Hy.out)
    rw [es1] at HR2
    have q0':=ZaS y (by have:=Zam; have:=Zaq; omega)
    have q2:=addW (a:=s1) (b:=y) (by have:=Zaq; have:=Zam; omega)
    obtain ⟨s2,es2⟩:∃ s2,s1 + y=s2:=⟨_,rfl⟩
    rw [es2] at q2 HR2
    have HO3:=zh (hO2.out.set k (s2 % W32) (by omega))
    have q3:=ZbX s2
    have q4:=hi32 s2
    obtain ⟨lo,elo⟩:∃ lo,s2 % W32=lo:=⟨_,rfl⟩
    obtain ⟨hi,ehi⟩:∃ hi,s2 / W32=hi:=⟨_,rfl⟩
    rw [elo] at q3 HR2 HO3
    rw [ehi] at q4 HR2
    clear ex ey ez elo ehi es1 es2 hx32 hy32 hc1 hcx32
    go_wp2
    go_roundw
    case rel=>exact ⟨k + 1,_,_,by omega,by go_num,rfl,HR2,HO3.out,hF2.out.setCell (p:=⟨b,k,none⟩) (Or.inr (by have:=Hb.out; show w.heap.size≤b; omega)) _⟩
    case measure=>simp [intOf]; omega
   ·have HR2:=zh (hR.out.step0 hlt ex (by omega) Hx.out)
    rw [es1] at HR2
    have HO3:=zh (hO2.out.set k (s1 % W32) (by omega))
    have q3:=ZbX s1
    have q4:=hi32 s1
    obtain ⟨lo,elo⟩:∃ lo,s1 % W32=lo:=⟨_,rfl⟩
    obtain ⟨hi,ehi⟩:∃ hi,s1 / W32=hi:=⟨_,rfl⟩
    rw [elo] at q3 HR2 HO3
    rw [ehi] at q4 HR2
    clear ex ez elo ehi es1 hx32 hc1 hcx32
    go_wp2
    go_roundw
    case rel=>exact ⟨k + 1,_,_,by omega,by go_num,rfl,HR2,HO3.out,hF2.out.setCell (p:=⟨b,k,none⟩) (Or.inr (by have:=Hb.out; show w.heap.size≤b; omega)) _⟩
    case measure=>simp [intOf]; omega
  ·obtain rfl:k=xs.length:=by omega
   obtain ⟨l1,l2,l3⟩:=hR.out.last hxy
   have hcz:=hO2.out.cell (i:=xs.length) (by omega)
   have hfz:=hO2.out.frozen xs.length
   obtain ⟨z,ez⟩:∃ z,m[xs.length]?.getD 0=z:=⟨_,rfl⟩
   rw [ez] at hcz
   have hc1:=hR.out.2.2.1
   have hc32:(cc:Int) % 4294967296=(cc:Int):=by omega
   have HO3:=hO2.out.set xs.length cc (by omega)
   obtain ⟨m',em⟩:∃ m',m.set xs.length cc=m':=⟨_,rfl⟩
   rw [em] at l1 l2 l3 HO3
   have HT:=zh (Zbs _ _ (xs.length + 1) (xs.length + 1) _ l1 HO3.shows0 (by omega) (by omega))
   have HN:=zh (Zar.of_own (c:=xs.length + 1) HO3 l2 (by omega))
   rw [l3] at HN
   clear ez l1 l2 l3 HO3 hc1 hml em
   go_wp2_with fail
   refine HT.out.mono ?_
   rintro e w2 ⟨rfl,rfl⟩
   clear HT
   go_wp2
   go_ret
   exact ⟨_,rfl,HN.out,hF2.out.setCell (p:=⟨b,xs.length,none⟩) (Or.inr (by have:=Hb.out; show w.heap.size≤b; omega)) _⟩
theorem Zfu (v v2:Value) (x y:Nat) (w:World) (hx:Zar w v x) (hy:Zar w v2 y) (hlx:ml x≤1048576) (hly:ml y≤1048576) :
 Calls Tryz.prog 102 #[v,v2] w (ZdU w (x + y)):=by
 obtain ⟨A,xs,c,rfl,hc,hX,dx,tx,rfl⟩:=hx
 obtain ⟨A2,ys,c2,rfl,hc2,hY,dy,ty,rfl⟩:=hy
 rw [← Zby dx tx] at hlx
 rw [← Zby dy ty] at hly
 by_cases h:ys.length≤xs.length
 ·exact Zoc A A2 xs ys c c2 w hX hY (by omega) h dx dy
 ·rw [Nat.add_comm]
  exact Zod A2 A ys xs c2 c w hY hX (by omega) (by omega) dy dx
end Go.Proofs.YtklpdkpcocnglaaGreatDoor

namespace Go.Proofs.YtklpdkpcocnglaaGreatDoor
open Go.RowKit
def ZfX (xs ys:List Nat) (i:Nat) (zs:List Nat):Prop :=
 zs.length=xs.length + ys.length∧Dig W32 zs∧(∀ j,i + ys.length≤j→zs[j]?.getD 0=0)∧val W32 zs=val W32 (xs.take i) * val W32 ys
theorem ZfX.start (xs ys:List Nat):ZfX xs ys 0 (List.replicate (xs.length + ys.length) 0):=by
 refine ⟨by simp,Dig.replicate Zau _,?_,by simp [ZbM]⟩
 intro j _
 rw [List.getElem?_replicate]; split<;>rfl
def Ze6 (zs:List Nat) (i x:Nat) (ys:List Nat) (k:Nat) (ms:List Nat) (c:Nat):Prop :=
 ms.length=zs.length∧Dig W32 ms∧c < W32∧ms.drop (i + k)=zs.drop (i + k)∧val W32 (ms.take (i + k)) + W32 ^ (i + k) * c=val W32 (zs.take (i + k)) + W32 ^ i * (x * val W32 (ys.take k))
theorem Ze6.start {zs ys:List Nat} {i x:Nat} (hd:Dig W32 zs):Ze6 zs i x ys 0 zs 0:=⟨rfl,hd,Zau,rfl,by simp⟩
theorem Ze6.at {zs ys ms:List Nat} {i x k c:Nat} (h:Ze6 zs i x ys k ms c):ms[i + k]?.getD 0=zs[i + k]?.getD 0:=by
 have:=congrArg (fun l=>l[0]?.getD 0) h.2.2.2.1
 simpa [List.getElem?_drop] using this
theorem sq32 {a b z c:Nat} (ha:a < W32) (hb:b < W32) (hz:z < W32) (hc:c < W32):c + (a * b + z) < W32 * W32:=by
 have h1:a * b≤(W32 - 1) * (W32 - 1):=Nat.mul_le_mul (by omega) (by omega)
 rw [Zaq] at *
 omega
theorem Zr9 (Bi Bk B V Z Y x y z c d c':Nat) (h1:V + Bi * Bk * c=Z + Bi * (x * Y)) (h2:d + B * c'=c + (x * y + z)):V + Bi * Bk * d + Bi * Bk * B * c'=Z + Bi * Bk * z + Bi * (x * (Y + Bk * y)):=by
 have h3:=congrArg (Bi * Bk * ·) h2
 simp only [Nat.mul_add] at h3 ⊢
 have e1:Bi * Bk * (B * c')=Bi * Bk * B * c':=by rw [Nat.mul_assoc (Bi * Bk)]
 have e2:Bi * (x * (Bk * y))=Bi * Bk * (x * y):=by rw [Nat.mul_left_comm x,Nat.mul_assoc]
 omega
theorem Ze6.step {zs ys ms:List Nat} {i x k c y z:Nat} (h:Ze6 zs i x ys k ms c) (hk:i + k < zs.length) (hx:x < W32) (hy:ys[k]?.getD 0=y) (hyl:k < ys.length) (dy:Dig W32 ys) (hz:ms[i + k]?.getD 0=z) :
 Ze6 zs i x ys (k + 1) (ms.set (i + k) ((c + (x * y + z)) % W32)) ((c + (x * y + z)) / W32):=by
 have e1:zs[i + k]?.getD 0=z:=h.at.symm.trans hz
 obtain ⟨h1,h2,h3,h4,h5⟩:=h
 have hb:=sq32 hx (hy ▸ dy.getD Zau k) (hz ▸ h2.getD Zau (i + k)) h3
 refine ⟨by simpa using h1,h2.set _ (Nat.mod_lt _ Zau),Nat.div_lt_of_lt_mul hb,?_,?_⟩
 ·rw [List.drop_set_of_lt (by omega),← Nat.add_assoc,← List.drop_drop (i:=1) (j:=i + k) (l:=ms),← List.drop_drop (i:=1) (j:=i + k) (l:=zs),h4]
 ·rw [← Nat.add_assoc,ZaI _ _ _ _ (by omega),Zas (i + k) hk,Zas k hyl,e1,hy,Nat.pow_succ,Nat.pow_add]
  rw [Nat.pow_add] at h5
  exact Zr9 _ _ _ _ _ _ _ _ _ _ _ _ h5 (by have:=Nat.mod_add_div (c + (x * y + z)) W32; omega)
theorem ZhA {B:Nat} {zs:List Nat} {n:Nat} (h:∀ j,n≤j→zs[j]?.getD 0=0):val B zs=val B (zs.take n):=by
 rw [ZaK (xs:=zs) n]
 have:val B (zs.drop n)=0:=by
  have e:zs.drop n=List.replicate (zs.drop n).length 0:=by
   apply List.ext_getElem (by simp)
   intro i h1 h2
   have:=h (n + i) (by omega)
   rw [List.length_drop] at h1
   rw [List.getElem?_eq_getElem (by omega)] at this
   simpa using this
  rw [e,ZbM]
 rw [this]; simp
theorem ZfX.next {xs ys zs ms:List Nat} {i x c:Nat} (h:ZfX xs ys i zs) (k:Ze6 zs i x ys ys.length ms c) (hi:i < xs.length) (hx:xs[i]?.getD 0=x):ZfX xs ys (i + 1) (ms.set (i + ys.length) c):=by
 obtain ⟨h1,h2,h3,h4⟩:=h
 obtain ⟨k1,k2,k3,k4,k5⟩:=k
 have hz:∀ j,i + 1 + ys.length≤j→(ms.set (i + ys.length) c)[j]?.getD 0=0:=by
  intro j hj
  rw [List.getElem?_set_ne (by omega)]
  have:=congrArg (fun l=>l[j - (i + ys.length)]?.getD 0) k4
  simp only [List.getElem?_drop] at this
  rw [show i + ys.length + (j - (i + ys.length))=j by omega] at this
  rw [this]; exact h3 j (by omega)
 refine ⟨by simp [k1,h1],k2.set _ k3,hz,?_⟩
 rw [ZhA hz,show i + 1 + ys.length=i + ys.length + 1 by omega,ZaI _ _ _ _ (by omega),k5,← ZhA h3,h4,Zas i hi,hx,Nat.add_mul,List.take_of_length_le (Nat.le_refl ys.length),Nat.mul_assoc]
set_option maxHeartbeats 1000000 in
theorem Zoe (A A2:Option Addr) (xs ys:List Nat) (c c2:Nat) (w:World) (hX:Zae .u32 w A xs) (hY:Zae .u32 w A2 ys) (hl:xs.length≤1073741824) (hl2:ys.length≤1073741824) (hx0:0 < xs.length) (hy0:0 < ys.length)
 (hx:Dig W32 xs) (hy:Dig W32 ys) :
 Calls Tryz.prog 103 #[.slice A xs.length c, .slice A2 ys.length c2] w (ZdU w (val W32 xs * val W32 ys)):=by
 have HX:=zh hX
 have HY:=zh hY
 have Hx:=zh hx
 have Hy:=zh hy
 have g1:(((xs.length:Nat):Int) == 0)=false:=by simp; intro e; simp [e] at hx0
 have g2:(((ys.length:Nat):Int) == 0)=false:=by simp; intro e; simp [e] at hy0
 clear hX hY hx hy
 go_enter Tryz.func103,Tryz.ntmps103
 go_wp2_with (
  at_make
  refine Za3 rfl _ _ _ rfl _ _ _ Tryz.underlying30 ZdT _ _ _ _ (xs.length + ys.length) rfl rfl (by omega) (by omega) (by omega) (by omega) ?_
  intro b w1 hb hO1 hC1 hF1 hs1
  have HO1:=zh hO1
  have HF1:=zh hF1
  have Hb:=zh hb
  clear hO1 hF1 hb hs1 hC1)
 go_loopw [6,7,8] (fun i _ _ wr=>∃ (k:Nat) (m:List Nat),k≤xs.length∧i=.int .i64 k∧Hid (ZfX xs ys k m)∧Hid (Own .u32 102 wr b m)∧Hid (Ext w wr)) (fun i _ _ _=>xs.length - (intOf i).toNat)
 case atStart=>exact ⟨0,_,by omega,rfl,ZfX.start _ _,HO1,HF1⟩
 case round =>
  obtain ⟨k,zs,hk,rfl,hR,hO2,hF2⟩:=hrel
  have hzl:=hR.out.1
  by_cases hlt:k < xs.length
  ·obtain ⟨x,ex⟩:∃ x,xs[k]?.getD 0=x:=⟨_,rfl⟩
   have HEX:=zh ex
   have hx32:Hid (x < W32):=ex ▸ Hx.out.getD Zau k
   obtain ⟨b2,off2,hA,_⟩:=HX.out.at hlt
   subst hA
   clear ex
   go_wp2
   obtain ⟨wo,rfl⟩:∃ wo:World,wo=wr:=⟨_,rfl⟩
   go_loopw [7,8] (fun cv j wr=>∃ (n cc:Nat) (m:List Nat),n≤ys.length∧j=.int .i64 n∧cv=.int .u64 cc∧Hid (Ze6 zs k x ys n m cc)∧Hid (Own .u32 102 wr b m)∧Hid (Ext w wr)) (fun _ j _=>ys.length - (intOf j).toNat)
   case atStart=>exact ⟨0,0,_,by omega,rfl,rfl,Ze6.start hR.out.2.1,hO2,hF2⟩
   case round =>
    obtain ⟨n,cc,m,hn,rfl,rfl,hI,hO3,hF3⟩:=hrel
    have hml:=hI.out.1
    by_cases hlt2:n < ys.length
    ·obtain ⟨b3,off3,rfl,_,hcy⟩:=(HY.out.ext hF3.out).at hlt2
     obtain ⟨b4,off4,e4,_,hcx⟩:=(HX.out.ext hF3.out).at hlt
     injection e4 with e4
     injection e4 with e4 e5
     subst e4 e5
     rw [HEX.out] at hcx
     obtain ⟨y,ey⟩:∃ y,ys[n]?.getD 0=y:=⟨_,rfl⟩
     rw [ey] at hcy
     obtain ⟨z,ez⟩:∃ z,m[k + n]?.getD 0=z:=⟨_,rfl⟩
     have hcz:=hO3.out.cell (i:=k + n) (by omega)
     have hfz:=hO3.out.frozen (k + n)
     rw [ez] at hcz
     have hy32:=ey ▸ Hy.out.getD Zau n
     have hz32:=ez ▸ hI.out.2.1.getD Zau (k + n)
     have hb:=sq32 hx32.out hy32 hz32 hI.out.2.2.1
     rw [Zed] at hb
     have HI2:=zh (hI.out.step (by omega) hx32.out ey hlt2 Hy.out ez)
     have q0:=ZaS x (by have:=Zam; have:=Zaq; have:=hx32.out; omega)
     have q1:=ZaS y (by have:=Zam; have:=Zaq; omega)
     have q2:=ZaS z (by have:=Zam; have:=Zaq; omega)
     have q3:IntKind.u64.wrap ((x:Int) * (y:Int))=((x * y:Nat):Int):=by rw [← Int.natCast_mul]; exact ZaS _ (by omega)
     obtain ⟨p,ep⟩:∃ p,x * y=p:=⟨_,rfl⟩
     rw [ep] at q3 HI2 hb
     have q4:=addW (a:=p) (b:=z) (by omega)
     obtain ⟨s1,es1⟩:∃ s1,p + z=s1:=⟨_,rfl⟩
     rw [es1] at q4 HI2 hb
     have q5:=addW (a:=cc) (b:=s1) hb
     obtain ⟨s2,es2⟩:∃ s2,cc + s1=s2:=⟨_,rfl⟩
     rw [es2] at q5 HI2
     have q6:=ZbX s2
     have q7:=hi32 s2
     have HO4:=zh (hO3.out.set (k + n) (s2 % W32) (by omega))
     obtain ⟨lo,elo⟩:∃ lo,s2 % W32=lo:=⟨_,rfl⟩
     obtain ⟨hi,ehi⟩:∃ hi,s2 / W32=hi:=⟨_,rfl⟩
     rw [elo] at q6 HI2 HO4
     rw [ehi] at q7 HI2
     clear ey ez hy32 hz32 hb ep es1 es2 elo ehi
     go_wp2
     go_region
     all_goals
      go_wp2
      go_roundw
      case rel=>exact ⟨n + 1,_,_,by omega,by go_num,rfl,HI2,HO4.out.drewN _,(hF3.out.drewN _).setCell (p:=⟨b,k + n,none⟩) (Or.inr (by have:=Hb.out; show w.heap.size≤b; omega)) _⟩
      case measure=>simp [intOf]; omega
    ·obtain rfl:n=ys.length:=by omega
     have HR2:=zh (hR.out.next hI.out hlt HEX.out)
     have hcz:=hO3.out.cell (i:=k + ys.length) (by omega)
     have hfz:=hO3.out.frozen (k + ys.length)
     obtain ⟨z,ez⟩:∃ z,m[k + ys.length]?.getD 0=z:=⟨_,rfl⟩
     rw [ez] at hcz
     have HO4:=zh (hO3.out.set (k + ys.length) cc (by omega))
     have q6:=ZbX cc
     rw [Nat.mod_eq_of_lt hI.out.2.2.1] at q6
     clear ez
     go_wp2
     go_roundw
     case rel=>exact ⟨k + 1,_,by omega,by go_num,HR2,HO4.out,hF3.out.setCell (p:=⟨b,k + ys.length,none⟩) (Or.inr (by have:=Hb.out; show w.heap.size≤b; omega)) _⟩
     case measure=>simp [intOf]; omega
  ·obtain rfl:k=xs.length:=by omega
   have HT:=zh (Zbs _ zs (xs.length + ys.length) (xs.length + ys.length) wr hzl hO2.out.shows0 (by omega) (by omega))
   have HN:=zh (Zar.of_own (c:=xs.length + ys.length) hO2.out hR.out.2.1 (by omega))
   rw [hR.out.2.2.2,List.take_of_length_le (Nat.le_refl _)] at HN
   clear hzl
   go_wp2_with fail
   refine HT.out.mono ?_
   rintro e w2 ⟨rfl,rfl⟩
   clear HT
   go_wp2
   go_ret
   exact ⟨_,rfl,HN.out,hF2.out⟩
set_option maxHeartbeats 1000000 in
theorem Zof (A A2:Option Addr) (n m c c2:Nat) (w:World) (h:n=0∨m=0) (hn:n≤1073741824) (hm:m≤1073741824) :
 Calls Tryz.prog 103 #[.slice A n c, .slice A2 m c2] w (ZdU w 0):=by
 by_cases h0:n=0
 ·subst h0
  go_enter Tryz.func103,Tryz.ntmps103
  go_wp2
  go_ret
  exact ⟨_,rfl,Zar.zero _,Fr.refl _ _⟩
 ·obtain rfl:m=0:=by omega
  have g1:(((n:Nat):Int) == 0)=false:=by simpa using h0
  go_enter Tryz.func103,Tryz.ntmps103
  go_wp2
  go_ret
  exact ⟨_,rfl,Zar.zero _,Fr.refl _ _⟩
theorem Zd5 (v v2:Value) (x y:Nat) (w:World) (hx:Zar w v x) (hy:Zar w v2 y) (hlx:ml x≤1048576) (hly:ml y≤1048576) :
 Calls Tryz.prog 103 #[v,v2] w (ZdU w (x * y)):=by
 obtain ⟨A,xs,c,rfl,hc,hX,dx,tx,rfl⟩:=hx
 obtain ⟨A2,ys,c2,rfl,hc2,hY,dy,ty,rfl⟩:=hy
 rw [← Zby dx tx] at hlx
 rw [← Zby dy ty] at hly
 by_cases h:xs.length=0∨ys.length=0
 ·have e:val W32 xs * val W32 ys=0:=by
   rcases h with h | h
   ·rw [List.length_eq_zero_iff.1 h]; simp
   ·rw [List.length_eq_zero_iff.1 h]; simp
  rw [e]
  exact Zof A A2 _ _ c c2 w h (by omega) (by omega)
 ·exact Zoe A A2 xs ys c c2 w hX hY (by omega) (by omega) (by omega) (by omega) dx dy
def Zg7 (xs:List Nat) (d k:Nat) (zs:List Nat) (r:Nat):Prop :=
 zs.length=xs.length∧Dig W32 zs∧r < d∧val W32 (xs.drop k)=val W32 (zs.drop k) * d + r
theorem Zg7.start (xs:List Nat) {d:Nat} (h:0 < d):Zg7 xs d xs.length (List.replicate xs.length 0) 0:=⟨by simp,Dig.replicate Zau _,h,by simp⟩
theorem Zg7.step {xs zs:List Nat} {d k r x:Nat} (h:Zg7 xs d (k + 1) zs r) (hk:k < xs.length) (hx:xs[k]?.getD 0=x) (dx:Dig W32 xs) :
 Zg7 xs d k (zs.set k ((r * W32 + x) / d)) ((r * W32 + x) % d)∧(r * W32 + x) / d < W32:=by
 obtain ⟨h1,h2,h3,h4⟩:=h
 have hx':x < W32:=hx ▸ dx.getD Zau k
 have hq:(r * W32 + x) / d < W32:=by
  apply Nat.div_lt_of_lt_mul
  have:(r + 1) * W32≤d * W32:=Nat.mul_le_mul_right _ h3
  rw [Nat.add_mul,Nat.one_mul] at this
  omega
 refine ⟨⟨by simpa using h1,h2.set k hq,Nat.mod_lt _ (by omega),?_⟩,hq⟩
 rw [ZaL k hk,ZaL (xs:=zs.set k _) k (by simp; omega),hx,List.drop_set_of_lt (by omega),List.getElem?_set_self (by omega)]
 exact Zjs _ _ _ _ _ _ _ _ h4 (by have:=Nat.div_add_mod (r * W32 + x) d; rw [Nat.mul_comm d] at this; show _=(r * W32 + x) / d * d + _; omega)
theorem ZpR (r:Nat) (h:r < W32):IntKind.u64.wrap ((r:Int) * 4294967296)=((r * W32:Nat):Int):=by
 rw [Zaq] at *; rw [IntKind.wrap_u64]; omega
theorem or32 (r x:Nat) (hx:x < W32):r * W32 ||| x=r * W32 + x:=by
 rw [Zaq] at *
 have:=Nat.shiftLeft_add_eq_or_of_lt (i:=32) (b:=x) (by omega) r
 rw [Nat.shiftLeft_eq] at this
 exact this.symm
def ZlD (w:World) (x d:Nat) (e:Ending) (w':World):Prop:=∃ l c,e=.returned (.tuple #[.slice (some ⟨w.heap.size,0,none⟩) l c, .int .u32 ((x % d:Nat):Int)])∧Zar w' (.slice (some ⟨w.heap.size,0,none⟩) l c) (x / d)∧Ext w w'
set_option maxHeartbeats 1000000 in
theorem Zmh (A:Option Addr) (xs:List Nat) (c d:Nat) (w:World) (hX:Zae .u32 w A xs) (hl:xs.length≤1073741824) (hx:Dig W32 xs) (hd:0 < d) (hd2:d < W32) :
 Calls Tryz.prog 115 #[.slice A xs.length c, .int .u32 (d:Int)] w (ZlD w (val W32 xs) d):=by
 have HX:=zh hX
 have Hx:=zh hx
 have HD:=zh hd
 have HD2:=zh hd2
 have g1:(((d:Nat):Int) == 0)=false:=by simp; omega
 have q0:=ZaS d (by have:=Zam; have:=Zaq; omega)
 clear hX hx hd2
 go_enter Tryz.func115,Tryz.ntmps115
 go_wp2_with (
  at_make
  refine Za3 rfl _ _ _ rfl _ _ _ Tryz.underlying30 ZdT _ _ _ _ xs.length rfl rfl (by omega) (by omega) (by omega) (by omega) ?_
  intro b w1 hb hO1 hC1 hF1 hs1
  have HO1:=zh hO1
  have HF1:=zh hF1
  have Hb:=zh hb
  clear hO1 hF1 hb hs1 hC1)
 go_loopw [7,8] (fun rv i wr=>∃ (k r:Nat) (m:List Nat),k≤xs.length∧i=.int .i64 ((k:Int) - 1)∧rv=.int .u64 r∧Hid (Zg7 xs d k m r)∧Hid (Own .u32 102 wr b m)∧Hid (Ext w wr)) (fun _ i _=>(intOf i + 1).toNat)
 case atStart=>exact ⟨xs.length,0,_,by omega,rfl,rfl,Zg7.start _ HD.out,HO1,HF1⟩
 case round =>
  obtain ⟨k,r,m,hk,rfl,rfl,hR,hO2,hF2⟩:=hrel
  have hml:=hR.out.1
  by_cases hlt:0 < k
  ·obtain ⟨k,rfl⟩:∃ j,k=j + 1:=⟨k - 1,by omega⟩
   have hkx:k < xs.length:=by omega
   obtain ⟨b2,off2,rfl,_,hcx⟩:=(HX.out.ext hF2.out).at hkx
   obtain ⟨x,ex⟩:∃ x,xs[k]?.getD 0=x:=⟨_,rfl⟩
   rw [ex] at hcx
   have hx32:=ex ▸ Hx.out.getD Zau k
   have hcz:=hO2.out.cell (i:=k) (by omega)
   have hfz:=hO2.out.frozen k
   obtain ⟨z,ez⟩:∃ z,m[k]?.getD 0=z:=⟨_,rfl⟩
   rw [ez] at hcz
   have hi:((k + 1:Nat):Int) - 1=(k:Int):=by omega
   rw [hi]
   obtain ⟨hst,hq⟩:=hR.out.step hkx ex Hx.out
   have HR2:=zh hst
   have hr32:r < W32:=Nat.lt_trans hR.out.2.2.1 HD2.out
   have q1:=ZpR r hr32
   have q2:=ZaS x (by have:=Zam; have:=Zaq; omega)
   have hrw:r * W32 + x < W64:=by
    have:(r + 1) * W32≤W32 * W32:=Nat.mul_le_mul_right _ hr32
    rw [Nat.add_mul,Zed] at this; omega
   have q3:=Zea (a:=r * W32) (b:=x) (by omega) (by omega)
   rw [or32 r x hx32] at q3
   obtain ⟨rw1,e1⟩:∃ a,r * W32=a:=⟨_,rfl⟩
   rw [e1] at q1 q3 HR2 hq hrw
   obtain ⟨s,es⟩:∃ s,rw1 + x=s:=⟨_,rfl⟩
   rw [es] at q3 HR2 hq hrw
   have q4:(s:Int).tdiv (d:Int)=((s / d:Nat):Int):=by rw [Int.tdiv_eq_ediv_of_nonneg (by omega)]; rfl
   have q4':(s:Int) / (d:Int)=((s / d:Nat):Int):=rfl
   have q5:(s:Int).tmod (d:Int)=((s % d:Nat):Int):=by rw [Int.tmod_eq_emod_of_nonneg (by omega)]; rfl
   have q5':(s:Int) % (d:Int)=((s % d:Nat):Int):=rfl
   have HO3:=zh (hO2.out.set k (s / d) (by omega))
   have q6:=ZbX (s / d)
   rw [Nat.mod_eq_of_lt hq] at q6
   have q7:IntKind.u64.wrap ((s / d:Nat):Int)=((s / d:Nat):Int):=ZaS _ (by have:=Zam; have:=Zaq; omega)
   obtain ⟨q,eq⟩:∃ q,s / d=q:=⟨_,rfl⟩
   obtain ⟨r2,er⟩:∃ r2,s % d=r2:=⟨_,rfl⟩
   rw [eq] at q4 q4' q6 q7 HO3 HR2
   rw [er] at q5 q5' HR2
   clear ex ez hx32 hst hq hr32 hrw e1 es eq er hi
   go_wp2
   refine ⟨⟨k,_,_,by omega,rfl,rfl,HR2,HO3,hF2.out.setCell (p:=⟨b,k,none⟩) (Or.inr (by have:=Hb.out; show w.heap.size≤b; omega)) _⟩,?_⟩
   simp [intOf]
  ·obtain rfl:k=0:=by omega
   have hm2:=hR.out.2.2.2
   rw [List.drop_zero,List.drop_zero] at hm2
   have HT:=zh (Zbs _ m xs.length xs.length wr hml hO2.out.shows0 (by omega) (by omega))
   have HN:=zh (Zar.of_own (c:=xs.length) hO2.out hR.out.2.1 (by omega))
   have hr2:=hR.out.2.2.1
   have ed:val W32 xs / d=val W32 m:=by
    rw [hm2,Nat.mul_comm,Nat.mul_add_div HD.out,Nat.div_eq_of_lt hr2,Nat.add_zero]
   have er:val W32 xs % d=r:=by
    rw [hm2,Nat.mul_comm,Nat.mul_add_mod,Nat.mod_eq_of_lt hr2]
   rw [← ed] at HN
   have HE:=zh er
   have q6:=ZbX r
   rw [Nat.mod_eq_of_lt (Nat.lt_trans hr2 HD2.out)] at q6
   clear hm2 hr2 ed er hml
   go_wp2_with fail
   refine HT.out.mono ?_
   rintro e w2 ⟨rfl,rfl⟩
   clear HT
   go_wp2
   go_ret2
   exact ⟨_,_,by rw [HE.out,Hb.out]; rfl,by rw [Hb.out]; exact HN.out,hF2.out⟩
theorem ZhV (v:Value) (x d:Nat) (w:World) (hx:Zar w v x) (hlx:ml x≤1048576) (hd:0 < d) (hd2:d < W32) :
 Calls Tryz.prog 115 #[v, .int .u32 (d:Int)] w (ZlD w x d):=by
 obtain ⟨A,xs,c,rfl,hc,hX,dx,tx,rfl⟩:=hx
 rw [← Zby dx tx] at hlx
 exact Zmh A xs c d w hX (by omega) dx hd hd2
end Go.Proofs.YtklpdkpcocnglaaGreatDoor

namespace Go.Proofs.YtklpdkpcocnglaaGreatDoor
open Go.RowKit
def Zcv (xs ys:List Nat) (k:Nat) (m:List Nat) (c:Nat):Prop :=
 m.length=xs.length∧Dig W32 m∧c≤1∧val W32 (m.take k) + val W32 (ys.take k)=val W32 (xs.take k) + W32 ^ k * c
theorem Zcv.start (xs ys:List Nat):Zcv xs ys 0 (List.replicate xs.length 0) 0:=⟨by simp,Dig.replicate Zau _,by omega,by simp⟩
noncomputable def d32 (x y c:Nat):Nat:=(x + W64 - c - y) % W64
theorem Zjy {x y c:Nat} (hx:x < W32) (hy:y < W32) (hc:c≤1):d32 x y c % W32 + y + c=x + W32 * (d32 x y c / W32 % 2):=by
 unfold d32
 rw [Zaq] at *
 rw [Zam] at *
 omega
theorem Zcv.step {xs ys m:List Nat} {k c x y:Nat} (h:Zcv xs ys k m c) (hk:k < xs.length) (hx:xs[k]?.getD 0=x) (hy:ys[k]?.getD 0=y) (hyl:k < ys.length) (dx:Dig W32 xs) (dy:Dig W32 ys) :
 Zcv xs ys (k + 1) (m.set k (d32 x y c % W32)) (d32 x y c / W32 % 2):=by
 obtain ⟨h1,h2,h3,h4⟩:=h
 refine ⟨by simpa using h1,h2.set k (Nat.mod_lt _ Zau),by omega,?_⟩
 rw [ZaI _ _ _ _ (by omega),Zas k hk,Zas k hyl,hx,hy,Nat.pow_succ]
 exact ZmF _ _ _ _ _ _ _ _ _ _ h4 (Zjy (hx ▸ dx.getD Zau k) (hy ▸ dy.getD Zau k) h3)
theorem Zcv.step0 {xs ys m:List Nat} {k c x:Nat} (h:Zcv xs ys k m c) (hk:k < xs.length) (hx:xs[k]?.getD 0=x) (hyl:ys.length≤k) (dx:Dig W32 xs) :
 Zcv xs ys (k + 1) (m.set k (d32 x 0 c % W32)) (d32 x 0 c / W32 % 2):=by
 obtain ⟨h1,h2,h3,h4⟩:=h
 refine ⟨by simpa using h1,h2.set k (Nat.mod_lt _ Zau),by omega,?_⟩
 rw [ZaI _ _ _ _ (by omega),Zas k hk,hx,Nat.pow_succ,List.take_of_length_le (l:=ys) (by omega)]
 rw [List.take_of_length_le (l:=ys) (by omega)] at h4
 have:=ZmF _ _ _ _ _ _ 0 _ _ _ h4 (Zjy (y:=0) (hx ▸ dx.getD Zau k) Zau h3)
 simpa using this
theorem Zcv.done {xs ys m:List Nat} {c:Nat} (h:Zcv xs ys xs.length m c) (hl:ys.length≤xs.length) (hv:val W32 ys≤val W32 xs):val W32 m=val W32 xs - val W32 ys:=by
 obtain ⟨h1,h2,h3,h4⟩:=h
 rw [List.take_of_length_le (by omega),List.take_of_length_le (by omega),List.take_of_length_le (by omega)] at h4
 have:=ZaQ h2
 rw [h1] at this
 rcases (by omega:c=0∨c=1) with rfl | rfl
 ·simp at h4; omega
 ·omega
theorem Ztj {x c:Nat} (hx:x < W32) (hc:c≤1):IntKind.u64.wrap ((x:Int) - (c:Int))=((d32 x 0 c:Nat):Int):=by
 unfold d32; rw [IntKind.wrap_u64,Zam]; rw [Zaq] at hx; omega
theorem Ztk {x y c:Nat} (hx:x < W32) (hy:y < W32) (hc:c≤1):IntKind.u64.wrap (((d32 x 0 c:Nat):Int) - (y:Int))=((d32 x y c:Nat):Int):=by
 unfold d32; rw [IntKind.wrap_u64,Zam]; rw [Zaq] at hx hy; omega
theorem ZmY (x y c:Nat):d32 x y c < W64:=Nat.mod_lt _ Zan
theorem Zk0 (h:Nat) (hh:h < W64):bits .and .u64 (h:Int) 1=((h % 2:Nat):Int):=by
 rw [Zam] at hh
 have:=bits_and_u64_nat h 1 hh (by omega)
 rw [Nat.and_one_is_mod] at this
 exact this
set_option maxHeartbeats 1000000 in
theorem Zog (A A2:Option Addr) (xs ys:List Nat) (c c2:Nat) (w:World) (hX:Zae .u32 w A xs) (hY:Zae .u32 w A2 ys) (hl:xs.length≤1073741824) (hxy:ys.length≤xs.length)
 (hx:Dig W32 xs) (hy:Dig W32 ys) (hv:val W32 ys≤val W32 xs) :
 Calls Tryz.prog 117 #[.slice A xs.length c, .slice A2 ys.length c2] w (ZdU w (val W32 xs - val W32 ys)):=by
 have HX:=zh hX
 have HY:=zh hY
 have Hx:=zh hx
 have Hy:=zh hy
 have HV:=zh hv
 clear hX hY hx hy hv
 go_enter Tryz.func117,Tryz.ntmps117
 go_wp2_with (
  at_make
  refine Za3 rfl _ _ _ rfl _ _ _ Tryz.underlying30 ZdT _ _ _ _ xs.length rfl rfl (by omega) (by omega) (by omega) (by omega) ?_
  intro b w1 hb hO1 hC1 hF1 hs1
  have HO1:=zh hO1
  have HF1:=zh hF1
  have Hb:=zh hb
  clear hO1 hF1 hb hs1 hC1)
 go_loopw [6,7,8] (fun cv i _ wr=>∃ (k cc:Nat) (m:List Nat),k≤xs.length∧i=.int .i64 k∧cv=.int .u64 cc∧Hid (Zcv xs ys k m cc)∧Hid (Own .u32 102 wr b m)∧Hid (Ext w wr)) (fun _ i _ _=>xs.length - (intOf i).toNat)
 case atStart=>exact ⟨0,0,_,by omega,rfl,rfl,Zcv.start _ _,HO1,HF1⟩
 case round =>
  obtain ⟨k,cc,m,hk,rfl,rfl,hR,hO2,hF2⟩:=hrel
  have hml:=hR.out.1
  by_cases hlt:k < xs.length
  ·obtain ⟨b2,off2,rfl,_,hcx⟩:=(HX.out.ext hF2.out).at hlt
   obtain ⟨x,ex⟩:∃ x,xs[k]?.getD 0=x:=⟨_,rfl⟩
   rw [ex] at hcx
   have hx32:=ex ▸ Hx.out.getD Zau k
   have hc1:=hR.out.2.2.1
   have hcz:=hO2.out.cell (i:=k) (by omega)
   have hfz:=hO2.out.frozen k
   obtain ⟨z,ez⟩:∃ z,m[k]?.getD 0=z:=⟨_,rfl⟩
   rw [ez] at hcz
   have q0:=ZaS x (by have:=Zam; have:=Zaq; omega)
   have q1:=Ztj hx32 hc1
   by_cases hy2:k < ys.length
   ·obtain ⟨b3,off3,rfl,_,hcy⟩:=(HY.out.ext hF2.out).at hy2
    obtain ⟨y,ey⟩:∃ y,ys[k]?.getD 0=y:=⟨_,rfl⟩
    rw [ey] at hcy
    have hy32:=ey ▸ Hy.out.getD Zau k
    have HR2:=zh (hR.out.step hlt ex ey hy2 Hx.out Hy.out)
    have q0':=ZaS y (by have:=Zam; have:=Zaq; omega)
    have q2:=Ztk hx32 hy32 hc1
    have q3:=ZbX (d32 x y cc)
    have q4:=hi32 (d32 x y cc)
    have q5:=Zk0 (d32 x y cc / W32) (Nat.lt_of_le_of_lt (Nat.div_le_self _ _) (ZmY _ _ _))
    have HO3:=zh (hO2.out.set k (d32 x y cc % W32) (by omega))
    obtain ⟨d1,ed1⟩:∃ a,d32 x 0 cc=a:=⟨_,rfl⟩
    obtain ⟨d2,ed2⟩:∃ a,d32 x y cc=a:=⟨_,rfl⟩
    rw [ed1] at q1 q2
    rw [ed2] at q2 q3 q4 q5 HO3 HR2
    obtain ⟨lo,elo⟩:∃ lo,d2 % W32=lo:=⟨_,rfl⟩
    obtain ⟨hi,ehi⟩:∃ hi,d2 / W32=hi:=⟨_,rfl⟩
    rw [elo] at q3 HR2 HO3
    rw [ehi] at q4 q5 HR2
    obtain ⟨bw,ebw⟩:∃ bw,hi % 2=bw:=⟨_,rfl⟩
    rw [ebw] at q5 HR2
    clear ex ey ez elo ehi ed1 ed2 ebw hx32 hy32 hc1
    go_wp2
    go_roundw
    case rel=>exact ⟨k + 1,_,_,by omega,by go_num,rfl,HR2,HO3.out,hF2.out.setCell (p:=⟨b,k,none⟩) (Or.inr (by have:=Hb.out; show w.heap.size≤b; omega)) _⟩
    case measure=>simp [intOf]; omega
   ·have HR2:=zh (hR.out.step0 hlt ex (by omega) Hx.out)
    have q3:=ZbX (d32 x 0 cc)
    have q4:=hi32 (d32 x 0 cc)
    have q5:=Zk0 (d32 x 0 cc / W32) (Nat.lt_of_le_of_lt (Nat.div_le_self _ _) (ZmY _ _ _))
    have HO3:=zh (hO2.out.set k (d32 x 0 cc % W32) (by omega))
    obtain ⟨d2,ed2⟩:∃ a,d32 x 0 cc=a:=⟨_,rfl⟩
    rw [ed2] at q1 q3 q4 q5 HO3 HR2
    obtain ⟨lo,elo⟩:∃ lo,d2 % W32=lo:=⟨_,rfl⟩
    obtain ⟨hi,ehi⟩:∃ hi,d2 / W32=hi:=⟨_,rfl⟩
    rw [elo] at q3 HR2 HO3
    rw [ehi] at q4 q5 HR2
    obtain ⟨bw,ebw⟩:∃ bw,hi % 2=bw:=⟨_,rfl⟩
    rw [ebw] at q5 HR2
    clear ex ez elo ehi ed2 ebw hx32 hc1
    go_wp2
    go_roundw
    case rel=>exact ⟨k + 1,_,_,by omega,by go_num,rfl,HR2,HO3.out,hF2.out.setCell (p:=⟨b,k,none⟩) (Or.inr (by have:=Hb.out; show w.heap.size≤b; omega)) _⟩
    case measure=>simp [intOf]; omega
  ·obtain rfl:k=xs.length:=by omega
   have l3:=hR.out.done hxy HV.out
   have HT:=zh (Zbs _ m xs.length xs.length wr hml hO2.out.shows0 (by omega) (by omega))
   have HN:=zh (Zar.of_own (c:=xs.length) hO2.out hR.out.2.1 (by omega))
   rw [l3] at HN
   clear l3 hml
   go_wp2_with fail
   refine HT.out.mono ?_
   rintro e w2 ⟨rfl,rfl⟩
   clear HT
   go_wp2
   go_ret
   exact ⟨_,rfl,HN.out,hF2.out⟩
theorem Zfv (v v2:Value) (x y:Nat) (w:World) (hx:Zar w v x) (hy:Zar w v2 y) (hlx:ml x≤1048576) (hxy:y≤x) :
 Calls Tryz.prog 117 #[v,v2] w (ZdU w (x - y)):=by
 have hm:=ZbF hxy
 obtain ⟨A,xs,c,rfl,hc,hX,dx,tx,rfl⟩:=hx
 obtain ⟨A2,ys,c2,rfl,hc2,hY,dy,ty,rfl⟩:=hy
 rw [← Zby dx tx] at hlx hm
 rw [← Zby dy ty] at hm
 exact Zog A A2 xs ys c c2 w hX hY (by omega) hm dx dy hxy
theorem Zq2 {xs ys:List Nat} (hx:Dig W32 xs) (hy:Dig W32 ys) (tx:Trim xs) (ty:Trim ys) (hl:xs.length≠ys.length):cmpI xs.length ys.length=cmpI (val W32 xs) (val W32 ys):=by
 rcases Nat.lt_or_gt_of_ne hl with h | h
 ·rw [Zb8 (by omega),Zb8 (by have:=ZcF Zau hx ty h; omega)]
 ·rw [ZcE (by omega),ZcE (by have:=ZcF Zau hy tx h; omega)]
theorem Zoh {xs ys:List Nat} (hx:Dig W32 xs) (hy:Dig W32 ys) (hl:xs.length=ys.length) {k x y:Nat} (hk:k < xs.length) (he:xs.drop (k + 1)=ys.drop (k + 1)) (ex:xs[k]?.getD 0=x) (ey:ys[k]?.getD 0=y) (hne:x≠y) :
 cmpI x y=cmpI (val W32 xs) (val W32 ys):=by
 subst ex ey
 rcases Nat.lt_or_gt_of_ne hne with h | h
 ·rw [Zb8 (by omega),Zb8 (by have:=ZdB hx hl k hk he h; omega)]
 ·rw [ZcE (by omega),ZcE (by have:=ZdB hy hl.symm k (by omega) he.symm h; omega)]
set_option maxHeartbeats 1000000 in
theorem Zjg (A A2:Option Addr) (xs ys:List Nat) (n m c c2:Nat) (w:World) (hn:xs.length=n) (hm:ys.length=m) (hX:Zae .u32 w A xs) (hY:Zae .u32 w A2 ys) (hc:xs.length≤1099511627776) (_:ys.length≤1099511627776)
 (hx:Dig W32 xs) (hy:Dig W32 ys) (tx:Trim xs) (ty:Trim ys) :
 Calls Tryz.prog 116 #[.slice A n c, .slice A2 m c2] w fun e w'=>e=.returned (.int .i64 (cmpI (val W32 xs) (val W32 ys)))∧∃ n,w'=w.drewN n:=by
 subst hn hm
 by_cases hl:xs.length=ys.length
 ·have HX:=zh hX
  have HY:=zh hY
  have HL:=zh hl
  have Hx:=zh hx
  have Hy:=zh hy
  have hne:(((xs.length:Nat):Int) != (ys.length:Nat))=false:=by simp [hl]
  clear hX hY hx hy tx ty hl
  go_enter Tryz.func116,Tryz.ntmps116
  go_wp2
  go_loopw [5] (fun i wr=>∃ k n:Nat,k≤xs.length∧i=.int .i64 ((k:Int) - 1)∧Hid (xs.drop k=ys.drop k)∧Hid (wr=w.drewN n)) (fun i _=>(intOf i + 1).toNat)
  case atStart=>exact ⟨xs.length,0,Nat.le_refl _,rfl,by unfold Hid; rw [List.drop_of_length_le (Nat.le_refl _),List.drop_of_length_le (by rw [HL.out]; exact Nat.le_refl _)],rfl⟩
  case round =>
   obtain ⟨k,n,hk,rfl,Q,hW⟩:=hrel
   obtain rfl:=hW.out
   clear hW
   by_cases hlt:0 < k
   ·obtain ⟨j,rfl⟩:∃ j,k=j + 1:=⟨k - 1,by omega⟩
    have ej:(((j + 1:Nat):Int) - 1)=(j:Int):=by omega
    rw [ej]
    clear ej
    obtain ⟨b,off,rfl,_,hcx⟩:=HX.out.at (i:=j) (by omega)
    obtain ⟨b2,off2,rfl,_,hcy⟩:=HY.out.at (i:=j) (by have:=HL.out; omega)
    obtain ⟨x,ex⟩:∃ x,xs[j]?.getD 0=x:=⟨_,rfl⟩
    obtain ⟨y,ey⟩:∃ y,ys[j]?.getD 0=y:=⟨_,rfl⟩
    rw [ex] at hcx
    rw [ey] at hcy
    have hj2:(j:Int) < (ys.length:Nat):=by have:=HL.out; omega
    have hj1:(j:Int) < (xs.length:Nat):=by omega
    by_cases hd:x=y
    ·subst hd
     have HE:Hid (xs.drop j=ys.drop j):=by
      unfold Hid
      have h1:j < xs.length:=by omega
      have h2:j < ys.length:=by have:=HL.out; omega
      rw [List.drop_eq_getElem_cons h1,List.drop_eq_getElem_cons h2,Q.out]
      rw [List.getElem?_eq_getElem h1] at ex
      rw [List.getElem?_eq_getElem h2] at ey
      simp only [Option.getD_some] at ex ey
      rw [ex,ey]
     clear ex ey Q
     go_wp2
     go_quiet (fail)
     go_wp2
     go_roundw
     case rel=>exact ⟨j,_,by omega,rfl,HE,rfl⟩
     case measure=>simp [intOf]
    ·have HC:=zh (Zoh Hx.out Hy.out HL.out (by omega) Q.out ex ey hd)
     have hd':(((x:Nat):Int) != (y:Nat))=true:=by simp; omega
     clear ex ey Q
     by_cases hxy:x < y
     ·have HC2:=zh (Zb8 (a:=x) (b:=y) (by omega))
      go_wp2
      go_quiet (fail)
      go_wp2
      go_quiet (fail)
      go_wp2
      go_ret
      exact ⟨by rw [← HC.out,HC2.out]; rfl,by simp only [World.drewN_drewN]; exact ⟨_,rfl⟩⟩
     ·have HC2:=zh (ZcE (a:=x) (b:=y) (by omega))
      go_wp2
      go_quiet (fail)
      go_wp2
      go_quiet (fail)
      go_wp2
      go_ret
      exact ⟨by rw [← HC.out,HC2.out]; rfl,by simp only [World.drewN_drewN]; exact ⟨_,rfl⟩⟩
   ·obtain rfl:k=0:=by omega
    have HE:xs=ys:=by simpa using Q.out
    have HC:=zh (congrArg (fun l=>cmpI (val W32 xs) (val W32 l)) HE)
    clear Q HE
    go_wp2
    go_ret
    exact ⟨by rw [← (show _=cmpI (val W32 xs) (val W32 ys) from HC.out),Zf8]; rfl,_,rfl⟩
 ·have hne:(((xs.length:Nat):Int) != (ys.length:Nat))=true:=by simp; omega
  have HC:=zh (Zq2 hx hy tx ty hl)
  clear hX hY hx hy tx ty
  by_cases hxy:xs.length < ys.length
  ·have HC2:=zh (Zb8 (a:=xs.length) (b:=ys.length) (by omega))
   go_enter Tryz.func116,Tryz.ntmps116
   go_wp2
   go_ret
   exact ⟨by rw [← HC.out,HC2.out]; rfl,0,rfl⟩
  ·have HC2:=zh (ZcE (a:=xs.length) (b:=ys.length) (by omega))
   go_enter Tryz.func116,Tryz.ntmps116
   go_wp2
   go_ret
   exact ⟨by rw [← HC.out,HC2.out]; rfl,0,rfl⟩
theorem Zd6 (u v:Value) (m n:Nat) (w:World) (hu:Zar w u m) (hv:Zar w v n) (hm:ml m≤1048576) (hn:ml n≤1048576) :
 Calls Tryz.prog 116 #[u,v] w fun e w'=>e=.returned (.int .i64 (cmpI m n))∧∃ n,w'=w.drewN n:=by
 obtain ⟨A,xs,c,rfl,hc,h1,h2,h3,rfl⟩:=hu
 obtain ⟨A2,ys,c2,rfl,hc2,k1,k2,k3,rfl⟩:=hv
 rw [← Zby h2 h3] at hm
 rw [← Zby k2 k3] at hn
 exact Zjg A A2 xs ys _ _ c c2 w rfl rfl h1 k1 (by omega) (by omega) h2 k2 h3 k3
end Go.Proofs.YtklpdkpcocnglaaGreatDoor

namespace Go.Proofs.YtklpdkpcocnglaaGreatDoor
open Go.RowKit
theorem top2 {B:Nat} {vs:List Nat} {n:Nat} (h:vs.length=n + 2):val B vs=val B (vs.take n) + B ^ n * ((vs[n]?.getD 0) + B * (vs[n + 1]?.getD 0)):=by
 rw [ZaK (xs:=vs) n,ZaL n (by omega),ZaL (n + 1) (by omega),List.drop_of_length_le (by omega:vs.length≤n + 1 + 1),Nat.min_eq_left (by omega)]
 simp
theorem top3 {B:Nat} {ws:List Nat} {n:Nat} (h:ws.length=n + 3):val B ws=val B (ws.take n) + B ^ n * ((ws[n]?.getD 0) + B * ((ws[n + 1]?.getD 0) + B * (ws[n + 2]?.getD 0))):=by
 rw [ZaK (xs:=ws) n,ZaL n (by omega),ZaL (n + 1) (by omega),ZaL (n + 2) (by omega),List.drop_of_length_le (by omega:ws.length≤n + 2 + 1),Nat.min_eq_left (by omega)]
 simp
def Zc4 (u v d:Nat):Prop:=d * v≤u + v∧u < (d + 1) * v
theorem Zgj (a:Nat) {b:Nat} (hb:0 < b):a < (a / b + 1) * b:=by
 have h1:=Nat.div_add_mod a b
 have h2:=Nat.mod_lt a hb
 rw [Nat.add_mul,Nat.mul_comm (a / b)]
 omega
theorem Zq3 {B:Nat} {ws vs:List Nat} {n a v1:Nat} (hB:2≤B) (hv:vs.length=n + 2) (hw:ws.length=n + 3) (dv:Dig B vs)
 (ea:ws[n + 2]?.getD 0=a) (e1:vs[n + 1]?.getD 0=v1) (hge:v1≤a) (hnorm:B≤2 * v1) (hu:val B ws < val B vs * B) :
 Zc4 (val B ws) (val B vs) (B - 1):=by
 have EV:val B vs=val B (vs.take (n + 1)) + B ^ (n + 1) * v1:=by
  have:=Zas (B:=B) (xs:=vs) (n + 1) (by omega)
  rw [List.take_of_length_le (by omega),e1] at this
  exact this
 have EW:val B ws=val B (ws.take (n + 2)) + B ^ (n + 2) * a:=by
  have:=Zas (B:=B) (xs:=ws) (n + 2) (by omega)
  rw [List.take_of_length_le (by omega),ea] at this
  exact this
 have hv':=ZaQ (dv.take (n + 1))
 rw [List.length_take,Nat.min_eq_left (by omega)] at hv'
 obtain ⟨C,rfl⟩:∃ C,B=C + 2:=⟨B - 2,by omega⟩
 refine ⟨?_,by rw [show C + 2 - 1 + 1=C + 2 by omega,Nat.mul_comm]; exact hu⟩
 have h1:val (C + 2) vs≤(C + 2) ^ (n + 1) * (v1 + 1):=by rw [EV,Nat.mul_add]; omega
 have h2:C * val (C + 2) vs≤C * ((C + 2) ^ (n + 1) * (v1 + 1)):=Nat.mul_le_mul_left C h1
 have h3:C * ((C + 2) ^ (n + 1) * (v1 + 1))=(C + 2) ^ (n + 1) * (C * (v1 + 1)):=Nat.mul_left_comm _ _ _
 have h4:C * (v1 + 1)≤(C + 2) * v1:=by rw [Nat.mul_add,Nat.add_mul]; omega
 have h5:(C + 2) ^ (n + 1) * (C * (v1 + 1))≤(C + 2) ^ (n + 1) * ((C + 2) * v1):=Nat.mul_le_mul_left _ h4
 have h6:(C + 2) ^ (n + 2) * v1=(C + 2) ^ (n + 1) * ((C + 2) * v1):=by rw [Nat.pow_succ,Nat.mul_assoc]
 have h7:(C + 2) ^ (n + 2) * v1≤(C + 2) ^ (n + 2) * a:=Nat.mul_le_mul_left _ hge
 rw [show C + 2 - 1=C + 1 by omega,Nat.add_mul,Nat.one_mul]
 omega
theorem Zq4 {B:Nat} {ws vs:List Nat} {n a b c0 v1 v0:Nat} (hB:0 < B) (hv:vs.length=n + 2) (hw:ws.length=n + 3) (dv:Dig B vs) (dw:Dig B ws)
 (ea:ws[n + 2]?.getD 0=a) (eb:ws[n + 1]?.getD 0=b) (ec:ws[n]?.getD 0=c0) (e1:vs[n + 1]?.getD 0=v1) (e0:vs[n]?.getD 0=v0) (hlt:a < v1) :
 Zc4 (val B ws) (val B vs) (((a * B + b) * B + c0) / (v1 * B + v0)):=by
 have hb:b < B:=eb ▸ dw.getD hB _
 have hc:c0 < B:=ec ▸ dw.getD hB _
 have hU:a * B + b < v1 * B:=by
  have:(a + 1) * B≤v1 * B:=Nat.mul_le_mul_right B hlt
  rw [Nat.add_mul] at this; omega
 have hq:((a * B + b) * B + c0) / (v1 * B + v0) < B:=by
  rw [Nat.div_lt_iff_lt_mul (by omega)]
  have:(a * B + b + 1) * B≤(v1 * B + v0) * B:=Nat.mul_le_mul_right B (by omega)
  rw [Nat.add_mul (a * B + b)] at this
  rw [Nat.mul_comm B]
  omega
 have hvB:B≤v1 * B + v0:=by
  have:1 * B≤v1 * B:=Nat.mul_le_mul_right B (by omega)
  omega
 have hd:=Nat.div_mul_le_self ((a * B + b) * B + c0) (v1 * B + v0)
 have hd2:(a * B + b) * B + c0 < (((a * B + b) * B + c0) / (v1 * B + v0) + 1) * (v1 * B + v0):=Zgj _ (by omega)
 have hv':=ZaQ (dv.take n)
 have hw':=ZaQ (dw.take n)
 rw [List.length_take,Nat.min_eq_left (by omega)] at hv' hw'
 have EV:val B vs=(v1 * B + v0) * B ^ n + val B (vs.take n):=by
  rw [top2 hv,e1,e0,Nat.add_comm,Nat.mul_comm (B ^ n),Nat.mul_comm B v1,Nat.add_comm v0]
 have EW:val B ws=((a * B + b) * B + c0) * B ^ n + val B (ws.take n):=by
  rw [top3 hw,ea,eb,ec,Nat.add_comm,Nat.mul_comm (B ^ n),Nat.add_comm c0,Nat.mul_comm B,Nat.add_comm b,Nat.mul_comm B a]
 rw [EV,EW]
 exact ⟨ZqE _ _ _ _ _ _ B hv' hq (Nat.mul_le_mul_right _ hvB) hd,ZhI _ _ _ _ _ _ hw' hd2⟩
theorem Zq5 {P:Program} {f:FuncId} {args:Array Value} {w:World} {a n:Nat} {v:Value}
 (h:Calls P f args (w.drewN (a + n)) fun e w'=>e=.returned v∧∃ m,w'=(w.drewN (a + n)).drewN m) :
 Calls P f args (w.drewN (a + n)) fun e w''=>e=.returned v∧∃ m,w''=w.drewN (a + m) :=
 h.mono fun _ _ ⟨he,m,hm⟩=>⟨he,n + m,by rw [hm,World.drewN_drewN,Nat.add_assoc]⟩
theorem ZpS {H U v1 v0 u qi ri:Nat} (hH:0 < H) (hv1:0 < v1) (hu:u < H) (h:qi * v1 + ri=U) (hr:ri < v1):ZcG H U v1 v0 u qi ri:=by
 refine ⟨h,?_⟩
 have hp:0 < v1 * H:=Nat.mul_pos hv1 hH
 rw [← Nat.lt_succ_iff,Nat.div_lt_iff_lt_mul (by omega)]
 have h1:U < (qi + 1) * v1:=by rw [Nat.add_mul]; omega
 have h2:(U + 1) * H≤(qi + 1) * v1 * H:=Nat.mul_le_mul_right _ h1
 rw [Nat.succ_eq_add_one,Nat.mul_add,← Nat.mul_assoc]
 rw [Nat.add_mul U] at h2
 omega
theorem Zsa {p q rest c0:Nat} (hp:ZaJ p q < W64) (hc:c0 < W64):(Zbm p q < rest∨Zbm p q=rest∧ZaJ p q≤c0) ↔ p * q≤W64 * rest + c0:=by
 have h:=Zeo p q
 constructor
 ·rintro (h1 | ⟨h1,h2⟩)
  ·have:W64 * (Zbm p q + 1)≤W64 * rest:=Nat.mul_le_mul_left _ h1
   rw [Nat.mul_add] at this
   omega
  ·rw [h1] at h; omega
 ·intro h1
  rcases Nat.lt_trichotomy (Zbm p q) rest with h2 | h2 | h2
  ·exact Or.inl h2
  ·exact Or.inr ⟨h2,by rw [h2] at h; omega⟩
  ·have:W64 * (rest + 1)≤W64 * Zbm p q:=Nat.mul_le_mul_left _ h2
   rw [Nat.mul_add] at this
   omega
def Ztl (u v:Nat) (w:World) (e:Ending) (w':World):Prop:=∃ d:Nat,e=.returned (.int .u64 (d:Int))∧d < W64∧Zc4 u v d∧∃ n,w'=w.drewN n
set_option maxHeartbeats 2000000 in
theorem ZmZ (A A2:Option Addr) (ws vs:List Nat) (n m c c2 k:Nat) (w:World) (hn:ws.length=n) (hm:vs.length=m) (hW:Zae .u64 w A ws) (hV:Zae .u64 w A2 vs) (hk:vs.length=k + 2) (hwl:ws.length=k + 3) (hl:k≤1099511627776)
 (dw:Dig W64 ws) (dv:Dig W64 vs) (hnorm:W64≤2 * (vs[k + 1]?.getD 0)) (hu:val W64 ws < val W64 vs * W64) :
 Calls Tryz.prog 222 #[.slice A n c, .slice A2 m c2] w (Ztl (val W64 ws) (val W64 vs) w):=by
 obtain ⟨b1,o1,rfl,_,hca⟩:=hW.at (i:=k + 2) (by omega)
 obtain ⟨b1',o1',e1',_,hcb⟩:=hW.at (i:=k + 1) (by omega)
 injection e1' with e1'; injection e1' with f1 f2; subst f1 f2
 obtain ⟨b1',o1',e1',_,hcc⟩:=hW.at (i:=k) (by omega)
 injection e1' with e1'; injection e1' with f1 f2; subst f1 f2
 obtain ⟨b2,o2,rfl,_,hc1⟩:=hV.at (i:=k + 1) (by omega)
 obtain ⟨b2',o2',e2',_,hc0⟩:=hV.at (i:=k) (by omega)
 injection e2' with e2'; injection e2' with f1 f2; subst f1 f2
 obtain ⟨a,ea⟩:∃ a,ws[k + 2]?.getD 0=a:=⟨_,rfl⟩
 obtain ⟨bb,eb⟩:∃ bb,ws[k + 1]?.getD 0=bb:=⟨_,rfl⟩
 obtain ⟨cc,ec⟩:∃ cc,ws[k]?.getD 0=cc:=⟨_,rfl⟩
 obtain ⟨v1,e1⟩:∃ v1,vs[k + 1]?.getD 0=v1:=⟨_,rfl⟩
 obtain ⟨v0,e0⟩:∃ v0,vs[k]?.getD 0=v0:=⟨_,rfl⟩
 rw [ea] at hca
 rw [eb] at hcb
 rw [ec] at hcc
 rw [e1] at hc1 hnorm
 rw [e0] at hc0
 have hab:Hid (a < W64):=ea ▸ dw.getD Zan _
 have hbb:Hid (bb < W64):=eb ▸ dw.getD Zan _
 have hcb':Hid (cc < W64):=ec ▸ dw.getD Zan _
 have hv1b:Hid (v1 < W64):=e1 ▸ dv.getD Zan _
 have hv0b:Hid (v0 < W64):=e0 ▸ dv.getD Zan _
 obtain rfl:m=k + 2:=by omega
 obtain rfl:n=k + 3:=by omega
 by_cases hge:v1≤a
 ·have HD:=zh (Zq3 Zta hk hwl dv ea e1 hge hnorm hu)
  clear hW hV dw dv hnorm hu ea eb ec e1 e0 hn hm hk hwl
  go_enter Tryz.func222,Tryz.ntmps222
  go_wp2
  have g3:IntKind.i64.wrap ((k:Int) + 2 - 1)=(k:Int) + 1:=by rw [IntKind.wrap_i64]; omega
  have g4:IntKind.i64.wrap ((k:Int) + 2 - 2)=(k:Int):=by rw [IntKind.wrap_i64]; omega
  have g5:(0:Int)≤(k:Int) + 1:=by omega
  have g6:((k:Int) + 1).toNat=k + 1:=by omega
  have g7:(k:Int) + 1 < (k:Int) + 2:=by omega
  have g8:(k:Int) < (k:Int) + 2:=by omega
  go_quiet (fail)
  clear g3 g4 g5 g6 g7 g8
  go_wp2
  go_ret
  exact ⟨W64 - 1,by rw [show (((W64 - 1:Nat):Int))=18446744073709551615 by rw [Zam]; rfl]; rfl,by have:=Zan; omega,HD.out,_,rfl⟩
 ·have HD:=zh (Zq4 Zan hk hwl dv dw ea eb ec e1 e0 (by omega))
  have hlt:a < v1:=by omega
  have hU:Hid (a * W64 + bb < v1 * W64 + v0):=by
   have:(a + 1) * W64≤v1 * W64:=Nat.mul_le_mul_right _ hlt
   rw [Nat.add_mul] at this
   have:=hbb.out
   unfold Hid; omega
  have hpos:Hid (0 < v1 * W64 + v0):=by have:=hU.out; unfold Hid; omega
  have HE:=zh (ZpS (v0:=v0) (u:=cc) Zan (by omega) hcb'.out (ZgZ a bb v1) (ZgE _ _ (by omega)))
  have hq0:Hid (divQ a bb v1 < W64):=ZkS hlt hbb.out
  have hr0:Hid (divR a bb v1 < W64):=Nat.lt_trans (ZgE _ _ (by omega)) hv1b.out
  clear hW hV dw dv hnorm hu ea eb ec e1 e0 hn hm hk hwl
  go_enter Tryz.func222,Tryz.ntmps222
  go_wp2
  have g3:IntKind.i64.wrap ((k:Int) + 2 - 1)=(k:Int) + 1:=by rw [IntKind.wrap_i64]; omega
  have g4:IntKind.i64.wrap ((k:Int) + 2 - 2)=(k:Int):=by rw [IntKind.wrap_i64]; omega
  have g5:(0:Int)≤(k:Int) + 1:=by omega
  have g6:((k:Int) + 1).toNat=k + 1:=by omega
  have g7:(k:Int) + 1 < (k:Int) + 2:=by omega
  have g8:(k:Int) < (k:Int) + 2:=by omega
  go_quiet (fail)
  clear g3 g4 g5 g6 g7 g8
  go_wp2
  have g3:IntKind.i64.wrap ((k:Int) + 2 - 1)=(k:Int) + 1:=by rw [IntKind.wrap_i64]; omega
  have g5:(0:Int)≤(k:Int) + 1:=by omega
  have g6:((k:Int) + 1).toNat=k + 1:=by omega
  have g7:(k:Int) + 1 < (k:Int) + 3:=by omega
  have g8:(k:Int) + 2 < (k:Int) + 3:=by omega
  have g9:(0:Int)≤(k:Int) + 2:=by omega
  have g10:((k:Int) + 2).toNat=k + 2:=by omega
  go_quiet ((go_at_call 149; exact Zq5 (Zgd _ _ _ _ hlt hv1b.out hbb.out)))
  clear g3 g5 g6 g7 g8 g9 g10
  go_wp2
  go_loopw [8,9] (fun qv rv wr=>∃ q r m:Nat,qv=.int .u64 (q:Int)∧rv=.int .u64 (r:Int)∧Hid (q < W64)∧Hid (r < W64)∧Hid (ZcG W64 (a * W64 + bb) v1 v0 cc q r)∧Hid (wr=w.drewN m)) (fun qv _ _=>(intOf qv).toNat)
  case atStart=>exact ⟨_,_,_,rfl,rfl,hq0,hr0,HE,World.drewN_drewN _ _ _⟩
  case round =>
   obtain ⟨q,r,m,rfl,rfl,hqW,hrW,Q,hW⟩:=hrel
   obtain rfl:=hW.out
   clear hW
   have hgo:∀ hh:W64 * r + cc < q * v0,Hid (ZcG W64 (a * W64 + bb) v1 v0 cc (q - 1) (r + v1)):=fun hh=>ZfO hpos.out hh Q.out
   have Hgo:=zh hgo
   clear hgo
   have htest:=zh (Zsa (p:=q) (q:=v0) (rest:=r) (Zr2 _ _) hcb'.out)
   have hdone:∀ hh:q * v0≤W64 * r + cc,q=((a * W64 + bb) * W64 + cc) / (v1 * W64 + v0):=fun hh=>ZeO hpos.out hh Q.out
   have Hdone:=zh hdone
   clear hdone
   obtain ⟨hi,ehi⟩:∃ hi,Zbm q v0=hi:=⟨_,rfl⟩
   obtain ⟨lo,elo⟩:∃ lo,ZaJ q v0=lo:=⟨_,rfl⟩
   rw [ehi,elo] at htest
   have hmul:=zh (Zfh q v0 hqW.out hv0b.out (w.drewN m))
   rw [ehi,elo] at hmul
   clear ehi elo
   by_cases t1:hi < r
   ·have Hq:=zh (Hdone.out (htest.out.1 (Or.inl t1)))
    have t1':=Zdu t1
    go_wp2_with (go_at_call 145; refine hmul.out.mono ?_; rintro e w' ⟨rfl,rfl⟩)
    go_ret
    exact ⟨q,rfl,hqW.out,by rw [Hq.out]; exact HD.out,_,rfl⟩
   ·have t1':=ZcV t1
    by_cases t2:hi=r
    ·subst t2
     by_cases t3:lo≤cc
     ·have Hq:=zh (Hdone.out (htest.out.1 (Or.inr ⟨rfl,t3⟩)))
      go_wp2_with (go_at_call 145; refine hmul.out.mono ?_; rintro e w' ⟨rfl,rfl⟩)
      go_ret
      exact ⟨q,rfl,hqW.out,by rw [Hq.out]; exact HD.out,_,rfl⟩
     ·have hov:W64 * hi + cc < q * v0:=by
       rcases Nat.lt_or_ge (W64 * hi + cc) (q * v0) with h | h
       ·exact h
       ·rcases htest.out.2 h with h | h<;>omega
      have hE2:=Hgo.out hov
      have hq0':0 < q:=by
       rcases Nat.eq_zero_or_pos q with e | e
       ·rw [e,Nat.zero_mul] at hov; omega
       ·exact e
      clear hov
      have g1:=Zcn hq0' hqW.out
      obtain ⟨q1,eq1⟩:∃ q1,q - 1=q1:=⟨_,rfl⟩
      rw [eq1] at g1 hE2
      have hq1:q1 < q:=by omega
      have hq1W:Hid (q1 < W64):=by have:=hqW.out; unfold Hid; omega
      have HE2:=zh hE2.out
      clear eq1 hE2 hq0'
      by_cases hbr:hi + v1 < W64
      ·have g2:=ZbD hbr
       obtain ⟨r1,er1⟩:∃ r1,hi + v1=r1:=⟨_,rfl⟩
       rw [er1] at g2 HE2
       have t5:=ZcV (a:=r1) (b:=v1) (by omega)
       have hr1W:Hid (r1 < W64):=by unfold Hid; omega
       clear er1 hbr
       go_wp2_with (go_at_call 145; refine hmul.out.mono ?_; rintro e w' ⟨rfl,rfl⟩)
       go_roundw
       case rel=>exact ⟨q1,r1,_,rfl,rfl,hq1W,hr1W,HE2,rfl⟩
       case measure=>simp [intOf]; omega
      ·have Hq:=zh (ZcB hU.out hv0b.out (by omega) HE2.out)
       have g2:IntKind.u64.wrap ((hi:Int) + (v1:Int))=((hi + v1 - W64:Nat):Int):=by
        have h1:=hrW.out
        have h2:=hv1b.out
        rw [Zam] at *
        rw [IntKind.wrap_u64]
        omega
       obtain ⟨r1,er1⟩:∃ r1,hi + v1 - W64=r1:=⟨_,rfl⟩
       rw [er1] at g2
       have t5:=Zdu (a:=r1) (b:=v1) (by have:=hrW.out; omega)
       clear er1 hbr
       go_wp2_with (go_at_call 145; refine hmul.out.mono ?_; rintro e w' ⟨rfl,rfl⟩)
       go_ret
       exact ⟨q1,rfl,hq1W.out,by rw [Hq.out]; exact HD.out,_,rfl⟩
    ·have t2':((hi:Int) == (r:Int))=false:=by simp; omega
     have hov:W64 * r + cc < q * v0:=by
      rcases Nat.lt_or_ge (W64 * r + cc) (q * v0) with h | h
      ·exact h
      ·rcases htest.out.2 h with h | h<;>omega
     have hE2:=Hgo.out hov
     have hq0':0 < q:=by
      rcases Nat.eq_zero_or_pos q with e | e
      ·rw [e,Nat.zero_mul] at hov; omega
      ·exact e
     clear hov
     have g1:=Zcn hq0' hqW.out
     obtain ⟨q1,eq1⟩:∃ q1,q - 1=q1:=⟨_,rfl⟩
     rw [eq1] at g1 hE2
     have hq1:q1 < q:=by omega
     have hq1W:Hid (q1 < W64):=by have:=hqW.out; unfold Hid; omega
     have HE2:=zh hE2.out
     clear eq1 hE2 hq0'
     by_cases hbr:r + v1 < W64
     ·have g2:=ZbD hbr
      obtain ⟨r1,er1⟩:∃ r1,r + v1=r1:=⟨_,rfl⟩
      rw [er1] at g2 HE2
      have t5:=ZcV (a:=r1) (b:=v1) (by omega)
      have hr1W:Hid (r1 < W64):=by unfold Hid; omega
      clear er1 hbr
      go_wp2_with (go_at_call 145; refine hmul.out.mono ?_; rintro e w' ⟨rfl,rfl⟩)
      go_roundw
      case rel=>exact ⟨q1,r1,_,rfl,rfl,hq1W,hr1W,HE2,rfl⟩
      case measure=>simp [intOf]; omega
     ·have Hq:=zh (ZcB hU.out hv0b.out (by omega) HE2.out)
      have g2:IntKind.u64.wrap ((r:Int) + (v1:Int))=((r + v1 - W64:Nat):Int):=by
       have h1:=hrW.out
       have h2:=hv1b.out
       rw [Zam] at *
       rw [IntKind.wrap_u64]
       omega
      obtain ⟨r1,er1⟩:∃ r1,r + v1 - W64=r1:=⟨_,rfl⟩
      rw [er1] at g2
      have t5:=Zdu (a:=r1) (b:=v1) (by have:=hrW.out; omega)
      clear er1 hbr
      go_wp2_with (go_at_call 145; refine hmul.out.mono ?_; rintro e w' ⟨rfl,rfl⟩)
      go_ret
      exact ⟨q1,rfl,hq1W.out,by rw [Hq.out]; exact HD.out,_,rfl⟩
end Go.Proofs.YtklpdkpcocnglaaGreatDoor

namespace Go.Proofs.YtklpdkpcocnglaaGreatDoor
theorem Zsb {u v d:Nat} (h:Zc4 u v d) (hge:d * v≤u):d=u / v:=by
 have h2:=h.2
 have h3:u < (d + 1) * v:=h2
 have:=Nat.div_eq_of_lt_le (m:=u) (n:=v) (k:=d) (by omega) (by simpa using h3)
 exact this.symm
theorem ZpT {u v d:Nat} (h:Zc4 u v d) (hlt:u < d * v):0 < d∧d - 1=u / v:=by
 have h1:=h.1
 have hd:0 < d:=by
  rcases Nat.eq_zero_or_pos d with e | e
  ·subst e; simp at hlt
  ·exact e
 obtain ⟨c,rfl⟩:∃ c,d=c + 1:=⟨d - 1,by omega⟩
 refine ⟨hd,?_⟩
 have e:c + 1 - 1=c:=by omega
 rw [e]
 rw [Nat.add_mul] at h1
 exact (Nat.div_eq_of_lt_le (m:=u) (n:=v) (k:=c) (by omega) (by simpa using hlt)).symm
theorem Zki {P v u low top d borrow m:Nat} (hv:v≤P) (hu:u=low + P * top) (hd:Zc4 u v d) (hm:m + v * d=low + P * borrow) (hle:borrow≤top) :
 d=u / v∧m=u % v∧top=borrow:=by
 have e1:u=d * v + (m + P * (top - borrow)):=by
  obtain ⟨t,rfl⟩:∃ t,top=borrow + t:=⟨top - borrow,by omega⟩
  rw [show borrow + t - borrow=t by omega,hu,Nat.mul_add,Nat.mul_comm d]
  omega
 have hq:=Zsb hd (by omega)
 have hr:m + P * (top - borrow) < v:=by
  have:=hd.2
  rw [Nat.add_mul] at this
  omega
 have htb:top - borrow=0:=by
  rcases Nat.eq_zero_or_pos (top - borrow) with h | h
  ·exact h
  ·have:P * 1≤P * (top - borrow):=Nat.mul_le_mul_left P h
   omega
 refine ⟨hq,?_,by omega⟩
 rw [htb] at e1 hr
 simp only [Nat.mul_zero,Nat.add_zero] at e1 hr
 rw [e1,Nat.mul_comm,Nat.mul_add_mod,Nat.mod_eq_of_lt hr]
theorem ZlE {P v u low top d borrow m m2 c:Nat} (hv0:0 < v) (hv:v≤P) (hu:u=low + P * top) (hd:Zc4 u v d) (hm:m + v * d=low + P * borrow) (hlt:top < borrow)
 (hmP:m < P) (hm2:m2 + P * c=m + v) (hm2P:m2 < P):0 < d∧d - 1=u / v∧m2=u % v∧c + top=borrow:=by
 have hud:u < d * v:=by
  have:P * (top + 1)≤P * borrow:=Nat.mul_le_mul_left P hlt
  rw [Nat.mul_add] at this
  rw [Nat.mul_comm d]
  omega
 obtain ⟨hd0,hq⟩:=ZpT hd hud
 obtain ⟨q,rfl⟩:∃ q,d=q + 1:=⟨d - 1,by omega⟩
 have e:q + 1 - 1=q:=by omega
 rw [e] at hq ⊢
 refine ⟨hd0,hq,?_⟩
 have hmod:=Nat.div_add_mod u v
 have hml:=Nat.mod_lt u hv0
 rw [← hq,Nat.mul_comm] at hmod
 rw [Nat.mul_add] at hm
 -- m2 + P*(c + top)=u % v + P * borrow
 have key:m2 + P * (c + top)=u % v + P * borrow:=by
  rw [Nat.mul_add,Nat.mul_comm q] at *
  omega
 have hc:c + top=borrow:=by
  rcases Nat.lt_trichotomy (c + top) borrow with h | h | h
  ·have:P * (c + top + 1)≤P * borrow:=Nat.mul_le_mul_left P h
   rw [Nat.mul_add] at this
   omega
  ·exact h
  ·have:P * (borrow + 1)≤P * (c + top):=Nat.mul_le_mul_left P h
   rw [Nat.mul_add] at this
   omega
 rw [hc] at key
 exact ⟨by omega,hc⟩
def Zdq (X v n k:Nat) (rs qs:List Nat):Prop :=
 Dig W64 rs∧Dig W64 qs∧rs.length=qs.length + n∧val W64 rs + val W64 (qs.drop k) * W64 ^ k * v=X∧val W64 (rs.drop k) < v
theorem Zdq.window {X v n k:Nat} {rs qs:List Nat} (h:Zdq X v n (k + 1) rs qs) (hv:v≤W64 ^ n) (hk:k + n < rs.length) :
 val W64 (rs.drop k)=val W64 ((rs.drop k).take (n + 1))∧val W64 (rs.drop k) < v * W64∧val W64 (rs.drop (k + n + 1))=0:=by
 obtain ⟨h1,h2,h3,h4,h5⟩:=h
 have hz:val W64 (rs.drop (k + n + 1))=0:=by
  have e:=ZaK (B:=W64) (xs:=rs.drop (k + 1)) n
  rw [List.drop_drop,show k + 1 + n=k + n + 1 by omega,Nat.min_eq_left (by simp; omega)] at e
  rcases Nat.eq_zero_or_pos (val W64 (rs.drop (k + n + 1))) with h | h
  ·exact h
  ·have:W64 ^ n * 1≤W64 ^ n * val W64 (rs.drop (k + n + 1)):=Nat.mul_le_mul_left _ h
   omega
 refine ⟨?_,?_,hz⟩
 ·have e:=ZaK (B:=W64) (xs:=rs.drop k) (n + 1)
  rw [List.drop_drop,show k + (n + 1)=k + n + 1 by omega,hz] at e
  simpa using e
 ·rw [ZaL k (by omega)]
  have hd:=h1.getD Zan k
  have:W64 * (val W64 (rs.drop (k + 1)) + 1)≤W64 * v:=Nat.mul_le_mul_left _ h5
  rw [Nat.mul_add] at this
  rw [Nat.mul_comm v]
  omega
theorem Zdq.step {X v n k q:Nat} {rs qs m:List Nat} (h:Zdq X v n (k + 1) rs qs) (hv0:0 < v) (hv:v≤W64 ^ n) (hk:k + n < rs.length) (hm:m.length=n) (hd:Dig W64 m) (hq:q=val W64 (rs.drop k) / v) (hr:val W64 m=val W64 (rs.drop k) % v) :
 Zdq X v n k (rs.take k ++ m ++ (0 :: rs.drop (k + n + 1))) (qs.set k q):=by
 obtain ⟨w1,w2,w3⟩:=h.window hv hk
 obtain ⟨h1,h2,h3,h4,h5⟩:=h
 have hkq:k < qs.length:=by omega
 have hqW:q < W64:=by rw [hq,Nat.div_lt_iff_lt_mul hv0,Nat.mul_comm]; exact w2
 have hlk:(rs.take k).length=k:=by simp; omega
 have hnew:val W64 (m ++ (0 :: rs.drop (k + n + 1)))=val W64 m:=by
  rw [Zbw,Zcr,w3]; simp
 have hdrop:(rs.take k ++ m ++ (0 :: rs.drop (k + n + 1))).drop k=m ++ (0 :: rs.drop (k + n + 1)):=by
  rw [List.append_assoc,List.drop_append,hlk,List.drop_of_length_le (by omega),Nat.sub_self]; simp
 refine ⟨((h1.take k).append hd).append (Dig.cons Zan (h1.drop _)),h2.set k hqW,?_,?_,?_⟩
 ·simp [hm]; omega
 ·rw [List.append_assoc,Zbw,hlk,hnew,hr]
  rw [ZaL (xs:=qs.set k q) k (by simpa using hkq),List.drop_set_of_lt (by omega)]
  have eq0:(qs.set k q)[k]?.getD 0=q:=by rw [List.getElem?_set_self hkq]; rfl
  rw [eq0]
  have e1:=ZaK (B:=W64) (xs:=rs) k
  rw [Nat.min_eq_left (by omega)] at e1
  have e2:=Nat.div_add_mod (val W64 (rs.drop k)) v
  rw [← hq] at e2
  have e3:=congrArg (W64 ^ k * ·) e2
  simp only [Nat.mul_add] at e3
  rw [Nat.add_mul,Nat.add_mul]
  have e4:q * W64 ^ k * v=W64 ^ k * (v * q):=by rw [Nat.mul_comm q,Nat.mul_assoc,Nat.mul_comm q]
  have e5:W64 * val W64 (qs.drop (k + 1)) * W64 ^ k * v=val W64 (qs.drop (k + 1)) * W64 ^ (k + 1) * v:=by
   rw [Nat.pow_succ,Nat.mul_comm W64 (val W64 _),Nat.mul_assoc (val W64 _) W64,Nat.mul_comm W64 (W64 ^ k)]
  rw [e4,e5]
  omega
 ·rw [hdrop,hnew,hr]; exact Nat.mod_lt _ hv0
theorem Zdq.done {X v n:Nat} {rs qs:List Nat} (h:Zdq X v n 0 rs qs):val W64 qs=X / v∧val W64 rs=X % v:=by
 obtain ⟨h1,h2,h3,h4,h5⟩:=h
 rw [List.drop_zero] at h4 h5
 simp only [Nat.pow_zero,Nat.mul_one] at h4
 rw [← h4,Nat.add_comm,Nat.mul_comm,Nat.mul_add_div (by omega),Nat.mul_add_mod,Nat.mod_eq_of_lt h5,Nat.div_eq_of_lt h5]
 exact ⟨by omega,rfl⟩
theorem Zdq.start {x y s L n:Nat} {rs:List Nat} (hd:Dig W64 rs) (hl:rs.length=L + 1) (hv:val W64 rs=x * 2 ^ s) (hx:x < W64 ^ L) (hy:W64 ^ (n - 1)≤y) (hn:1≤n) (hnL:n≤L) :
 Zdq (x * 2 ^ s) (y * 2 ^ s) n (L - n + 1) rs (List.replicate (L - n + 1) 0):=by
 refine ⟨hd,Dig.replicate Zan _,by simp; omega,?_,?_⟩
 ·rw [List.drop_of_length_le (by simp)]; simp [hv]
 ·have e:=ZaK (B:=W64) (xs:=rs) (L - n + 1)
  rw [Nat.min_eq_left (by omega),hv] at e
  have hp:0 < 2 ^ s:=Nat.pow_pos (by omega)
  have h1:W64 ^ (L - n + 1) * val W64 (rs.drop (L - n + 1))≤x * 2 ^ s:=by omega
  have h2:x * 2 ^ s < W64 ^ L * 2 ^ s:=Nat.mul_lt_mul_of_pos_right hx hp
  have h3:W64 ^ L=W64 ^ (L - n + 1) * W64 ^ (n - 1):=by rw [← Nat.pow_add,show L - n + 1 + (n - 1)=L by omega]
  rw [h3,Nat.mul_assoc] at h2
  have h4:W64 ^ (L - n + 1) * val W64 (rs.drop (L - n + 1)) < W64 ^ (L - n + 1) * (W64 ^ (n - 1) * 2 ^ s):=by omega
  have h5:=Nat.lt_of_mul_lt_mul_left h4
  exact Nat.lt_of_lt_of_le h5 (Nat.mul_le_mul_right _ hy)
theorem Zq6 {ys vs:List Nat} {n yt s:Nat} (hl:ys.length=n + 1) (dy:Dig W64 ys) (ey:ys[n]?.getD 0=yt) (hyt:0 < yt) (hs:64 - Lib.bitLen yt=s) (dv:Dig W64 vs) (tv:Trim vs) (hv:val W64 vs=val W64 ys * 2 ^ s) :
 vs.length=n + 1∧W64≤2 * (vs[n]?.getD 0)∧W64 ^ n≤val W64 ys∧s≤63:=by
 have hytW:yt < W64:=ey ▸ dy.getD Zan _
 obtain ⟨l1,l2,l3,l4⟩:=Zdp hyt hytW
 have EY:val W64 ys=val W64 (ys.take n) + W64 ^ n * yt:=by
  have:=Zas (B:=W64) (xs:=ys) n (by omega)
  rw [List.take_of_length_le (by omega),ey] at this
  exact this
 have hlow:=ZaQ (dy.take n)
 rw [List.length_take,Nat.min_eq_left (by omega)] at hlow
 have hp:0 < 2 ^ s:=Nat.pow_pos (by omega)
 have hhi:val W64 ys * 2 ^ s < W64 ^ (n + 1):=by
  have h1:val W64 ys < W64 ^ n * 2 ^ Lib.bitLen yt:=by
   have:W64 ^ n * (yt + 1)≤W64 ^ n * 2 ^ Lib.bitLen yt:=Nat.mul_le_mul_left _ l4
   rw [Nat.mul_add] at this
   omega
  have h2:=Nat.mul_lt_mul_of_pos_right h1 hp
  rw [Nat.mul_assoc,← Nat.pow_add,show Lib.bitLen yt + s=64 by omega] at h2
  rw [Nat.pow_succ,Zam] at *
  exact h2
 have hlo:W64 ^ n * 2 ^ 63≤val W64 ys * 2 ^ s:=by
  have h1:W64 ^ n * 2 ^ (Lib.bitLen yt - 1)≤val W64 ys:=by
   have:W64 ^ n * 2 ^ (Lib.bitLen yt - 1)≤W64 ^ n * yt:=Nat.mul_le_mul_left _ l3
   omega
  have h2:=Nat.mul_le_mul_right (2 ^ s) h1
  rw [Nat.mul_assoc,← Nat.pow_add,show Lib.bitLen yt - 1 + s=63 by omega] at h2
  exact h2
 have hlen1:vs.length≤n + 1:=ZbO Zc1 tv (hv ▸ hhi)
 have hlen2:n + 1≤vs.length:=by
  rcases Nat.lt_or_ge vs.length (n + 1) with h | h
  ·have h1:=ZaQ dv
   have h2:W64 ^ vs.length≤W64 ^ n:=Nat.pow_le_pow_right Zan (by omega)
   have h3:W64 ^ n * 1≤W64 ^ n * 2 ^ 63:=Nat.mul_le_mul_left _ (by decide)
   omega
  ·exact h
 refine ⟨by omega,?_,?_,by omega⟩
 ·have EV:val W64 vs=val W64 (vs.take n) + W64 ^ n * (vs[n]?.getD 0):=by
   have:=Zas (B:=W64) (xs:=vs) n (by omega)
   rw [List.take_of_length_le (by omega)] at this
   exact this
  have hlow2:=ZaQ (dv.take n)
  rw [List.length_take,Nat.min_eq_left (by omega)] at hlow2
  have h1:W64 ^ n * 2 ^ 63 < W64 ^ n * ((vs[n]?.getD 0) + 1):=by rw [Nat.mul_add]; omega
  have h2:=Nat.lt_of_mul_lt_mul_left h1
  rw [Zam]
  omega
 ·have:W64 ^ n * 1≤W64 ^ n * yt:=Nat.mul_le_mul_left _ hyt
  omega
end Go.Proofs.YtklpdkpcocnglaaGreatDoor

namespace Go.Proofs.YtklpdkpcocnglaaGreatDoor
open Go.RowKit
def ZfY (w:World) (q r:Nat) (e:Ending) (w':World):Prop:=∃ u v,e=.returned (.tuple #[u,v])∧Zal w' u q∧Zal w' v r∧Ext w w'
theorem Zdh {a b:Nat}:cmpI a b < 0 ↔ a < b:=by
 unfold cmpI
 split
 ·omega
 ·split<;>omega
set_option maxHeartbeats 1000000 in
theorem Zkj (xv yv:Value) (x y:Nat) (w:World) (hX:Zal w xv x) (hY:Zal w yv y) (hx:wl x≤4294967296) (hy:wl y≤4294967296) (hlt:x < y) :
 Calls Tryz.prog 196 #[xv,yv] w (ZfY w 0 x):=by
 have HX:=zh hX
 obtain ⟨A,xs,c,rfl,hc,h1,h2,h3,rfl⟩:=hX
 obtain ⟨A2,ys,c2,rfl,hc2,k1,k2,k3,rfl⟩:=hY
 rw [← ZaN h2 h3] at hx
 rw [← ZaN k2 k3] at hy
 have HC:=zh (Zdg A A2 xs ys _ _ c c2 w rfl rfl h1 k1 (by omega) (by omega) h2 k2 h3 k3)
 rw [Zb8 (by omega)] at HC
 clear h1 h2 h3 k1 k2 k3 hlt hc hc2
 go_enter Tryz.func196,Tryz.ntmps196
 go_wp2_with (go_at_call 164; refine HC.out.mono ?_; rintro e w' ⟨rfl,m,rfl⟩)
 go_ret2
 exact ⟨_,_,rfl,Zal.zero _,HX.out.ext ((Fr.refl _ _).drewN _),(Fr.refl _ _).drewN _⟩
set_option maxHeartbeats 1000000 in
theorem Zjz (xv yv:Value) (x y:Nat) (w:World) (hX:Zal w xv x) (hY:Zal w yv y) (hx:wl x≤4294967296) (hy:wl y=1) (hge:y≤x) :
 Calls Tryz.prog 196 #[xv,yv] w (ZfY w (x / y) (x % y)):=by
 obtain ⟨A,xs,c,rfl,hc,h1,h2,h3,rfl⟩:=hX
 obtain ⟨A2,ys,c2,rfl,hc2,k1,k2,k3,rfl⟩:=hY
 rw [← ZaN h2 h3] at hx
 rw [← ZaN k2 k3] at hy
 obtain ⟨y,rfl⟩:=List.length_eq_one_iff.1 hy
 have HC:=zh (Zdg A A2 xs [y] _ _ c c2 w rfl rfl h1 k1 (by omega) (by simp) h2 k2 h3 k3)
 obtain ⟨cr,ecr⟩:∃ cr,cmpI (val W64 xs) (val W64 [y])=cr:=⟨_,rfl⟩
 have hcr:0≤cr:=by
  rcases Int.lt_or_le cr 0 with h | h
  ·rw [← ecr] at h; have:=Zdh.1 h; omega
  ·exact h
 rw [ecr] at HC
 have hyv:val W64 [y]=y:=by simp
 rw [hyv]
 have hy0:0 < y:=by have:=k3 0 (by simp); simp at this; omega
 have hyW:y < W64:=k2.head
 obtain ⟨b,o,rfl,_,hcy⟩:=k1.at (i:=0) (by simp)
 have hcy':w.cell? ⟨b,o,none⟩=some (.int .u64 (y:Int)):=by simpa using hcy
 have HD:=fun w' (hf:Ext w w')=>zh (ZkT A xs _ c y w' rfl (h1.ext hf) hx h2 hy0 hyW)
 have HDH:=zh HD
 have hrW:Hid (val W64 xs % y < W64):=Nat.lt_trans (Nat.mod_lt _ hy0) hyW
 clear h1 h2 h3 k1 k2 k3 hc hc2 ecr hge hcy HD hy hyv hy0 hyW
 go_enter Tryz.func196,Tryz.ntmps196
 go_wp2_with (first
  | (go_at_call 164; refine HC.out.mono ?_; rintro e w' ⟨rfl,m,rfl⟩)
  | (go_at_call 221; refine (HDH.out _ ((Fr.refl _ _).drewN _)).out.mono ?_; rintro e w1 ⟨v,rfl,hN,hF⟩; have HN:=zh hN; have HF:=zh hF; clear hN hF)
  | (go_at_call 170; refine (ZdM _ _ hrW.out).mono ?_; rintro e w2 ⟨v2,rfl,hN2,hF2⟩; have HN2:=zh hN2; have HF2:=zh hF2; clear hN2 hF2))
 go_ret2
 exact ⟨_,_,rfl,HN.out.ext HF2.out,HN2.out,(((Fr.refl _ _).drewN _).ext HF.out).ext HF2.out⟩
theorem Zk1 (pre m:List Nat) (rs:List Nat) (j n v:Nat) (hp:pre.length=j) (hm:m.length=n) (hr:j + n < rs.length):(pre ++ m ++ rs.drop (j + n)).set (j + n) v=pre ++ m ++ (v :: rs.drop (j + n + 1)):=by
 have hl:(pre ++ m).length=j + n:=by simp [hp,hm]
 rw [List.set_append_right _ _ (by omega),hl,Nat.sub_self,List.drop_eq_getElem_cons hr]
 rfl
theorem ZoT (pre m:List Nat) (rs:List Nat) (j n:Nat) (hp:pre.length=j) (hm:m.length=n):(pre ++ m ++ rs.drop (j + n))[j + n]?.getD 0=rs[j + n]?.getD 0:=by
 have hl:(pre ++ m).length=j + n:=by simp [hp,hm]
 rw [List.getElem?_append_right (by omega),hl,Nat.sub_self,List.getElem?_drop]; rfl
theorem Zm0 (pre m l:List Nat) (t v j n:Nat) (hp:pre.length=j) (hm:m.length=n):(pre ++ m ++ (t :: l)).set (j + n) v=pre ++ m ++ (v :: l):=by
 have hl:(pre ++ m).length=j + n:=by simp [hp,hm]
 rw [List.set_append_right _ _ (by omega),hl,Nat.sub_self]
 rfl
theorem Zm1 (pre m l:List Nat) (t j n:Nat) (hp:pre.length=j) (hm:m.length=n):(pre ++ m ++ (t :: l))[j + n]?.getD 0=t:=by
 have hl:(pre ++ m).length=j + n:=by simp [hp,hm]
 rw [List.getElem?_append_right (by omega),hl,Nat.sub_self]
 rfl
set_option maxHeartbeats 4000000 in
theorem Zi0 (A A2:Option Addr) (xs ys:List Nat) (c c2 kk:Nat) (w:World) (hX:Zae .u64 w A xs) (hY:Zae .u64 w A2 ys) (hc:xs.length≤c) (hc2:ys.length≤c2) (hl:xs.length≤4294967296) (hk:ys.length=kk + 2)
 (dx:Dig W64 xs) (dy:Dig W64 ys) (tx:Trim xs) (ty:Trim ys) (hge:val W64 ys≤val W64 xs) :
 Calls Tryz.prog 196 #[.slice A xs.length c, .slice A2 ys.length c2] w (ZfY w (val W64 xs / val W64 ys) (val W64 xs % val W64 ys)):=by
 have hlxy:kk + 2≤xs.length:=by
  have:=Zcm hge
  rw [← ZaN dx tx,← ZaN dy ty] at this
  omega
 have HC:=zh (Zdg A A2 xs ys _ _ c c2 w rfl rfl hX hY (by omega) (by omega) dx dy tx ty)
 obtain ⟨cr,ecr⟩:∃ cr,cmpI (val W64 xs) (val W64 ys)=cr:=⟨_,rfl⟩
 have hcr:0≤cr:=by
  rcases Int.lt_or_le cr 0 with h | h
  ·rw [← ecr] at h; have:=Zdh.1 h; omega
  ·exact h
 rw [ecr] at HC
 clear ecr
 obtain ⟨bY,oY,rfl,_,hct⟩:=hY.at (i:=kk + 1) (by omega)
 obtain ⟨yt,eyt⟩:∃ yt,ys[kk + 1]?.getD 0=yt:=⟨_,rfl⟩
 rw [eyt] at hct
 have hyt0:0 < yt:=by have:=ty (kk + 1) (by omega); omega
 have hytW:Hid (yt < W64):=eyt ▸ dy.getD Zan _
 obtain ⟨s,hs⟩:∃ s,64 - Lib.bitLen yt=s:=⟨_,rfl⟩
 have hbl:=Zdp hyt0 hytW.out
 have hsI:Hid (64 - (Lib.bitLen yt:Int)=(s:Int)):=by unfold Hid; omega
 have hs63:s≤63:=by omega
 have NX:Hid (Zal w (.slice A xs.length c) (val W64 xs)):=⟨A,xs,c,rfl,hc,hX,dx,tx,rfl⟩
 have NY:Hid (Zal w (.slice (some ⟨bY,oY,none⟩) ys.length c2) (val W64 ys)):=⟨_,ys,c2,rfl,hc2,hY,dy,ty,rfl⟩
 have wlX:Hid (wl (val W64 xs)≤4294967296):=by unfold Hid; rw [← ZaN dx tx]; omega
 have wlY:Hid (wl (val W64 ys)≤4294967296):=by unfold Hid; rw [← ZaN dy ty]; omega
 have Hdx:=zh dx
 have Hdy:=zh dy
 have HS:=zh hs
 have HEY:=zh eyt
 have HK:=zh hk
 clear hX hY hc hc2 dx dy tx ty hge hbl hs eyt
 obtain ⟨n,hn⟩:∃ n,ys.length=n:=⟨_,rfl⟩
 rw [hn] at HC NY
 rw [hn] at HK
 rw [hn]
 have HN:=zh hn
 have hn2:n=kk + 2:=HK.out
 subst hn2
 clear hn hk HK
 have hone:(((kk:Int) + 2) == 1)=false:=by simp; omega
 have hcrB:decide (cr < 0)=false:=by rw [decide_eq_false_iff_not]; omega
 go_enter Tryz.func196,Tryz.ntmps196
 go_wp2_with (first
  | (go_at_call 164; refine HC.out.mono ?_; rintro e w' ⟨rfl,m,rfl⟩)
  | (go_at_call 174; refine (ZeP _ _ hytW.out).mono ?_; rintro e w' ⟨rfl,rfl⟩; rw [hsI.out]))
 refine (Zhx _ _ s _ (NY.out.ext ((Fr.refl _ _).drewN _)) wlY.out (by omega)).mono ?_
 rintro e wD ⟨vD,rfl,hND,hFD⟩
 obtain ⟨AD,vs,cD,rfl,hcD,hSD,dvs,tvs,hvv⟩:=hND
 obtain ⟨n1,n2,n3,n4⟩:=Zq6 (n:=kk + 1) HN.out Hdy.out HEY.out hyt0 HS.out dvs tvs hvv
 have HSD:=zh hSD
 have Hdv:=zh dvs
 have HFD:Hid (Ext w wD):=((Fr.refl _ _).drewN _).ext hFD
 have Hvv:=zh hvv
 have Hn1:=zh n1
 have Hn2:=zh n2
 have Hn3:=zh n3
 rw [n1]
 clear hSD dvs tvs hvv hFD n1 n2 n3 n4 hcD hct HC hyt0 hytW hsI HS HEY
 go_wp2_with (at_make
              refine Za3 rfl _ _ _ rfl _ _ _ Tryz.underlying76 Zdo _ _ _ _ (xs.length + 1) rfl rfl (by omega) (by omega) (by omega) (by omega) ?_
              intro R w1 hR hO1 _ hF1 hs1
              have HO1:Hid (Own .u64 94 w1 R ([] ++ List.replicate (xs.length + 1) 0 ++ [])):=by simpa [Hid] using hO1
              have HF1:=zh hF1
              have HR:=zh hR
              clear hO1 hF1 hR hs1)
 refine (Zhx _ _ s _ (NX.out.ext (HFD.out.ext HF1.out)) wlX.out (by omega)).mono ?_
 rintro e w2 ⟨v2,rfl,hN2,hF2⟩
 obtain ⟨A3,x2,c3,rfl,hc3,hS3,d3,t3,hv3⟩:=hN2
 have HS3:=zh hS3
 have HF2:=zh hF2
 have Hd3:=zh d3
 have Hv3:=zh hv3
 have Hl3:Hid (x2.length≤xs.length + 1):=by
  unfold Hid
  refine ZbO Zc1 t3 ?_
  rw [hv3,Nat.pow_succ]
  have h1:=ZaQ Hdx.out
  have h2:2 ^ s≤W64:=by rw [Zam]; exact Nat.le_trans (Nat.pow_le_pow_right (by omega) hs63) (by decide)
  exact Nat.lt_of_lt_of_le (Nat.mul_lt_mul_of_pos_right h1 (Nat.pow_pos (by omega))) (Nat.mul_le_mul_left _ h2)
 clear hS3 hF2 d3 t3 hv3 hc3 NX wlX NY wlY
 go_wp2_with (first
  | (with_reducible refine Zfr rfl (.tmp 57) (.tmp 60) _ _ rfl _ _ Tryz.underlying76 Ztd _ _ _ _ _ _ rfl rfl R [] (List.replicate (xs.length + 1) 0) [] x2 (by simp) rfl (HO1.out.ext HF2.out) HS3.out (fun _=>rfl) ?_
     intro w3 z hO3 _ hF3 hs3
     have HO3:=zh hO3
     have HF3:=zh hF3
     clear hO3 hF3 hs3)
  | (at_make
     refine Za3 rfl _ _ _ rfl _ _ _ Tryz.underlying76 Zdo _ _ _ _ (xs.length - (kk + 2) + 1) rfl rfl (by omega) (by omega) (by omega) (by omega) ?_
     intro Qb w4 hQ hO4 _ hF4 hs4
     have HO4:=zh hO4
     have HF4:=zh hF4
     have HQ:=zh hQ
     clear hO4 hF4 hQ hs4))
 have hRlt:Hid (R < Qb):=by
  have h1:=HO3.out.lt
  have h2:=HQ.out
  unfold Hid; omega
 have hV:Hid (val W64 vs≤W64 ^ (kk + 2)):=by
  have:=ZaQ Hdv.out
  rw [Hn1.out] at this
  exact Nat.le_of_lt this
 have hV0:Hid (0 < val W64 vs):=by
  rw [Hvv.out]
  have h1:=Hn3.out
  have h2:=Nat.pow_pos (n:=kk + 1) Zan
  exact Nat.mul_pos (by omega) (Nat.pow_pos (by omega))
 obtain ⟨X,eX⟩:∃ X,val W64 xs * 2 ^ s=X:=⟨_,rfl⟩
 have HX:=zh eX
 have hst:Hid (∃ rs,Own .u64 94 w4 R rs∧rs.length=xs.length + 1∧Zdq X (val W64 vs) (kk + 2) (xs.length - (kk + 2) + 1) rs (List.replicate (xs.length - (kk + 2) + 1) 0)):=by
  refine ⟨x2 ++ List.replicate (xs.length + 1 - x2.length) 0,?_,?_,?_⟩
  ·have h:=HO3.out
   rw [List.take_of_length_le (by simp; exact Hl3.out),List.drop_replicate] at h
   have h':Own .u64 94 w3 R (x2 ++ List.replicate (xs.length + 1 - x2.length) 0):=by simpa using h
   exact h'.ext HF4.out
  ·have:=Hl3.out
   simp; omega
  ·rw [← HX.out,Hvv.out]
   refine Zdq.start (L:=xs.length) (Hd3.out.append (Dig.replicate Zan _)) (by have:=Hl3.out; simp; omega) ?_ (ZaQ Hdx.out) (by simpa using Hn3.out) (by omega) hlxy
   rw [Zbw,ZbM,Hv3.out]; simp
 have HFw:Hid (Ext wD w4):=by
  have h1:=HR.out
  exact ((HF1.out.ext HF2.out).next HF3.out (fun i hi e=>by omega)).ext HF4.out
 clear HO3 HF3 HS3 Hd3 Hv3 Hl3 HF1 HF2 HF4 HO1 hone eX
 obtain ⟨V,eV⟩:∃ V,val W64 vs=V:=⟨_,rfl⟩
 have HV:=zh eV
 rw [eV] at hV hV0 hst
 clear eV
 go_loopw [13] (fun i wr=>∃ (k:Nat) (rs qs:List Nat),k≤xs.length - (kk + 2) + 1∧i=.int .i64 ((k:Int) - 1)∧Hid (Zdq X V (kk + 2) k rs qs)∧Hid (rs.length=xs.length + 1)∧Hid (Own .u64 94 wr R rs)∧Hid (Own .u64 94 wr Qb qs)∧Hid (Ext wD wr)) (fun i _=>(intOf i + 1).toNat)
 case atStart =>
  obtain ⟨rs,h1,h2,h3⟩:=hst.out
  exact ⟨xs.length - (kk + 2) + 1,rs,_,Nat.le_refl _,by go_num,h3,h2,h1,HO4.out,HFw.out⟩
 case round =>
  clear hst HO4 HFw
  obtain ⟨k,rs,qs,hk,rfl,hR,hrl,hO1,hO2,hF1⟩:=hrel
  by_cases hlt:0 < k
  ·obtain ⟨j,rfl⟩:∃ j,k=j + 1:=⟨k - 1,by omega⟩
   have ej:(((j + 1:Nat):Int) - 1)=(j:Int):=by omega
   rw [ej]
   clear ej
   have hjr:j + (kk + 2) < xs.length + 1:=by omega
   have hrl':=hrl.out
   obtain ⟨q1,q2,q3⟩:=hR.out.window hV.out (by omega)
   have hwl:((rs.drop j).take (kk + 3)).length=kk + 3:=by simp; omega
   have HSV:Hid (Zae .u64 wr AD vs):=HSD.out.ext hF1.out
   have HEst:=zh (ZmZ (some ⟨R,j,none⟩) AD ((rs.drop j).take (kk + 3)) vs (j + (kk + 2) + 1 - j) (kk + 1 + 1) (xs.length + 1 - j) cD kk wr (by omega) Hn1.out (hO1.out.shows j (kk + 3)) HSV.out Hn1.out hwl (by omega) ((hR.out.1.drop j).take _) Hdv.out Hn2.out (by rw [← q1,HV.out]; exact q2))
   rw [← q1,HV.out] at HEst
   have Hq2:=zh q2
   clear q1 q2 q3 hwl hrl'
   go_wp2_with fail
   (with_reducible refine HEst.out.mono ?_)
   rintro e w5 ⟨d,rfl,hdW,hdig,n5,rfl⟩
   clear HEst
   have hAR:Hid (∀ a,AD=some a→a.block≠R):=by
    intro a ha
    obtain ⟨b',o',e',hb',_⟩:=HSD.out.at (i:=0) (by rw [Hn1.out]; omega)
    rw [e'] at ha; injection ha with ha; subst ha
    have:=HR.out
    show b'≠R
    omega
   have hrl':=hrl.out
   have HO3:Hid (Own .u64 94 (wr.drewN n5) R (rs.take j ++ (rs.drop j).take (kk + 2) ++ rs.drop (j + (kk + 2)))):=by rw [ZqI]; exact hO1.out.drewN _
   have HMs:=zh (ZhE R (xs.length + 1 - j) cD j (kk + 2) (kk + 1 + 1) d (rs.take j) ((rs.drop j).take (kk + 2)) (rs.drop (j + (kk + 2))) vs AD (wr.drewN n5) (by simp; omega) (by simp; omega) Hn1.out HO3.out (HSV.out.drewN _) hAR.out (by rw [Hn1.out]; simp; omega) (by simp; omega) ((hR.out.1.drop j).take _) Hdv.out hdW)
   have Hdig:=zh hdig
   have HdW:=zh hdW
   clear HO3 hdW hdig hrl'
   go_wp2_with fail
   (with_reducible refine HMs.out.mono ?_)
   rintro e w6 ⟨br,rfl,hbrW,hF6,_,m,hO6,hml,hdm,hms⟩
   clear HMs
   have hrl':=hrl.out
   have hml':m.length=kk + 2:=by rw [hml]; simp; omega
   have hlp:(rs.take j).length=j:=by simp; omega
   have hlen6:j + (kk + 2) < (rs.take j ++ m ++ rs.drop (j + (kk + 2))).length:=by simp; omega
   have hct:=hO6.cell hlen6
   have hft:=hO6.frozen (j + (kk + 2))
   rw [ZoT _ _ _ _ _ hlp hml'] at hct
   obtain ⟨top,etop⟩:∃ top,rs[j + (kk + 2)]?.getD 0=top:=⟨_,rfl⟩
   rw [etop] at hct
   have hu:val W64 (rs.drop j)=val W64 ((rs.drop j).take (kk + 2)) + W64 ^ (kk + 2) * top:=by
    obtain ⟨q1,_,_⟩:=hR.out.window hV.out (by omega)
    rw [q1,Zas (kk + 2) (by simp; omega),List.getElem?_drop,etop]
   have hms':val W64 m + V * d=val W64 ((rs.drop j).take (kk + 2)) + W64 ^ (kk + 2) * br:=by
    have h:=hms
    unfold ZmL at h
    rw [HV.out] at h
    have e:((rs.drop j).take (kk + 2)).length=kk + 2:=by simp; omega
    rw [e] at h
    exact h
   have hQF:Hid (Own .u64 94 w6 Qb qs):=(hO2.out.drewN n5).fr hF6 (by have:=hRlt.out; omega)
   have HF6:Hid (Ext wD w6):=(hF1.out.drewN n5).next hF6 (fun i hi e=>by have:=HR.out; omega)
   have HSV6:Hid (Zae .u64 w6 AD vs):=(HSV.out.drewN n5).fr hF6 (fun a ha _=>hAR.out a ha)
   have hql:qs.length=xs.length - (kk + 2) + 1:=by have:=hR.out.2.2.1; omega
   have hmP:val W64 m < W64 ^ (kk + 2):=by have:=ZaQ hdm; rw [hml'] at this; exact this
   have hjq:j < qs.length:=by omega
   by_cases hle:br≤top
   ·obtain ⟨k1,k2,k3⟩:=Zki hV.out hu Hdig.out hms' hle
    have HR2:=zh (hR.out.step hV0.out hV.out (by omega) hml' hdm k1 k2)
    subst k3
    have g1:IntKind.u64.wrap ((top:Int) - (top:Int))=0:=by rw [Int.sub_self]; rfl
    have t1:=ZcV (a:=top) (b:=top) (by omega)
    have hO7:=hO6.set (j + (kk + 2)) 0 hlen6
    rw [Zk1 _ _ _ _ _ _ hlp hml' (by omega)] at hO7
    have hF7:Fr (· = R) w6 (w6.setCell ⟨R,j + (kk + 2),none⟩ (.int .u64 ((0:Nat):Int))):=(Fr.refl (· = R) w6).setCell (p:=⟨R,j + (kk + 2),none⟩) (Or.inl rfl) _
    have hO8:=hQF.out.fr hF7 (by have:=hRlt.out; omega)
    have hcq:=hO8.cell hjq
    have hfq:=hO8.frozen j
    obtain ⟨z0,ez0⟩:∃ z0,qs[j]?.getD 0=z0:=⟨_,rfl⟩
    rw [ez0] at hcq
    have HO9:=zh (hO8.set j d hjq)
    have HO10:=zh (hO7.far (p:=⟨Qb,j,none⟩) (by have:=hRlt.out; show R≠Qb; omega) (.int .u64 (d:Int)))
    have HF10:Hid (Ext wD ((w6.setCell ⟨R,j + (kk + 2),none⟩ (.int .u64 ((0:Nat):Int))).setCell ⟨Qb,j,none⟩ (.int .u64 (d:Int)))):=(HF6.out.next hF7 (fun i hi e=>by have:=HR.out; omega)).setCell (Or.inr (by have:=HR.out; have:=hRlt.out; show wD.heap.size≤Qb; omega)) _
    have hnl:Hid ((rs.take j ++ m ++ (0 :: rs.drop (j + (kk + 2) + 1))).length=xs.length + 1):=by unfold Hid; simp; omega
    clear hbrW hF6 hO6 hml hdm hms hrl' hml' hlp hlen6 etop hu hms' hmP k1 k2 hO7 hF7 hO8 ez0 hle
    simp only [Int.ofNat_zero] at *
    go_wp2
    go_roundw
    case rel=>exact ⟨j,_,_,by omega,rfl,HR2,hnl,HO10.out,HO9.out,HF10.out⟩
    case measure=>simp [intOf]
   ·have hd0:0 < d:=by
     rcases Nat.eq_zero_or_pos d with e | e
     ·subst e
      have:W64 ^ (kk + 2) * 1≤W64 ^ (kk + 2) * br:=Nat.mul_le_mul_left _ (by omega)
      omega
     ·exact e
    have g2:=Zcn hd0 HdW.out
    obtain ⟨d1,ed1⟩:∃ d1,d - 1=d1:=⟨_,rfl⟩
    rw [ed1] at g2
    obtain ⟨t2,g1,k1⟩:=Zj0 ((top:Int) - (br:Int))
    have t1:=Zdu (a:=top) (b:=br) (by omega)
    have hO7:=hO6.set (j + (kk + 2)) t2 hlen6
    rw [Zk1 _ _ _ _ _ _ hlp hml' (by omega)] at hO7
    have hF7:Fr (· = R) w6 (w6.setCell ⟨R,j + (kk + 2),none⟩ (.int .u64 (t2:Int))):=(Fr.refl (· = R) w6).setCell (p:=⟨R,j + (kk + 2),none⟩) (Or.inl rfl) _
    have HO7:=zh hO7
    have HF7:=zh hF7
    have HO8:=zh (hQF.out.fr hF7 (by have:=hRlt.out; omega))
    have HSV7:Hid (Zae .u64 (w6.setCell ⟨R,j + (kk + 2),none⟩ (.int .u64 (t2:Int))) AD vs):=HSV6.out.fr hF7 (fun a ha _=>hAR.out a ha)
    have HF8:Hid (Ext wD (w6.setCell ⟨R,j + (kk + 2),none⟩ (.int .u64 (t2:Int)))):=HF6.out.next hF7 (fun i hi e=>by have:=HR.out; omega)
    have Hdm:=zh hdm
    have Hml:=zh hml'
    have Hlp:=zh hlp
    have Hu:=zh hu
    have Hms:=zh hms'
    have HmP:=zh hmP
    have Hk1:=zh k1
    have Hd1:=zh ed1
    have Hql:=zh hql
    have hlt2:top < br:=by omega
    clear hbrW hF6 hO6 hml hdm hms hrl' hml' hlp hlen6 etop hu hms' hmP k1 hO7 hF7 hle ed1 hql HSV6 HF6 hQF
    go_wp2
    generalize hw7:w6.setCell ⟨R,j + (kk + 2),none⟩ (.int .u64 (t2:Int))=w7 at *
    clear hw7 hct hft g1 g2 t1
    obtain ⟨wo,rfl⟩:∃ wo:World,wo=wr:=⟨_,rfl⟩
    go_loopw [17,115] (fun cv iv wr=>∃ (kx cc:Nat) (m2:List Nat),kx≤kk + 2∧iv=.int .i64 (kx:Int)∧cc≤1∧cv=.int .u64 (cc:Int)∧Hid (ZdL m vs kx m2 cc)∧Hid (Own .u64 94 wr R (rs.take j ++ m2 ++ (t2 :: rs.drop (j + (kk + 2) + 1))))∧Hid (Fr (· = R) w7 wr)) (fun _ iv _=>kk + 2 - (intOf iv).toNat)
    case atStart=>exact ⟨0,0,m,by omega,rfl,by omega,rfl,ZdL.start _ _ Hdm.out,HO7.out,Fr.refl _ _⟩
    case round =>
     obtain ⟨kx,cc,m2,hkx,rfl,hcc,rfl,hA2,hO11,hF11⟩:=hrel
     have hm2l:m2.length=kk + 2:=by rw [hA2.out.1]; exact Hml.out
     by_cases hlt3:kx < kk + 2
     ·obtain ⟨b3,o3,rfl,_,hcv⟩:=(HSV7.out.fr hF11.out (fun a ha _=>hAR.out a ha)).at (i:=kx) (by rw [Hn1.out]; omega)
      obtain ⟨y,ey⟩:∃ y,vs[kx]?.getD 0=y:=⟨_,rfl⟩
      obtain ⟨z,ez⟩:∃ z,m2[kx]?.getD 0=z:=⟨_,rfl⟩
      have hkm:kx < m2.length:=by omega
      have hcz:=hO11.out.mid (k:=kx) hkm
      have hfz:=hO11.out.frozen (j + kx)
      rw [Hlp.out] at hcz
      rw [ey] at hcv
      rw [ez] at hcz
      have HR3:=zh (hA2.out.step (by rw [Hml.out]; omega) ez ey (by rw [Hn1.out]; omega))
      have hle3:ZaV z y cc≤1:=ZgW (ez ▸ hA2.out.2.2.1.getD Zan kx) (ey ▸ Hdv.out.getD Zan kx) hcc
      have HO12:=zh (hO11.out.set_mid hkm (ZaP z y cc))
      rw [Hlp.out] at HO12
      have ha:=ZdJ z y cc hcc
      clear ey ez hm2l
      go_wp2
      go_roundw
      case rel=>exact ⟨kx + 1,_,_,by omega,by go_num,hle3,rfl,HR3,HO12.out,hF11.out.setCell (p:=⟨R,j + kx,none⟩) (Or.inl rfl) _⟩
      case measure=>simp [intOf]; omega
     ·obtain rfl:kx=kk + 2:=by omega
      have hsum:=hA2.out.done (by rw [Hn1.out]; omega) (by rw [Hml.out]; omega) (Or.inr Hml.out.symm)
      rw [Hml.out,HV.out] at hsum
      obtain ⟨_,k2,k3,k4⟩:=ZlE hV0.out hV.out Hu.out Hdig.out Hms.out hlt2 HmP.out hsum (by have:=ZaQ hA2.out.2.2.1; rw [hm2l] at this; exact this)
      have g3:IntKind.u64.wrap ((t2:Int) + (cc:Int))=0:=by
       have h1:=Hk1.out
       rw [IntKind.wrap_u64]
       omega
      rw [Hd1.out] at k2
      have hrl':=hrl.out
      have hql':=Hql.out
      have hlen2:j + (kk + 2) < (rs.take j ++ m2 ++ (t2 :: rs.drop (j + (kk + 2) + 1))).length:=by simp; omega
      have hct:=hO11.out.cell hlen2
      have hft:=hO11.out.frozen (j + (kk + 2))
      rw [Zm1 _ _ _ _ _ _ Hlp.out hm2l] at hct
      have hO13:=hO11.out.set (j + (kk + 2)) 0 hlen2
      rw [Zm0 _ _ _ _ _ _ _ Hlp.out hm2l] at hO13
      have hF13:Fr (· = R) w7 (wr.setCell ⟨R,j + (kk + 2),none⟩ (.int .u64 ((0:Nat):Int))):=hF11.out.setCell (p:=⟨R,j + (kk + 2),none⟩) (Or.inl rfl) _
      have hO14:=HO8.out.fr hF13 (by have:=hRlt.out; omega)
      have hjq:j < qs.length:=by omega
      have hcq:=hO14.cell hjq
      have hfq:=hO14.frozen j
      obtain ⟨z0,ez0⟩:∃ z0,qs[j]?.getD 0=z0:=⟨_,rfl⟩
      rw [ez0] at hcq
      have HR2:=zh (hR.out.step hV0.out hV.out (by omega) hm2l hA2.out.2.2.1 k2 k3)
      have HO15:=zh (hO14.set j d1 hjq)
      have HO16:=zh (hO13.far (p:=⟨Qb,j,none⟩) (by have:=hRlt.out; show R≠Qb; omega) (.int .u64 (d1:Int)))
      have HF16:Hid (Ext wD ((wr.setCell ⟨R,j + (kk + 2),none⟩ (.int .u64 ((0:Nat):Int))).setCell ⟨Qb,j,none⟩ (.int .u64 (d1:Int)))):=(HF8.out.next hF13 (fun i hi e=>by have:=HR.out; omega)).setCell (Or.inr (by have:=HR.out; have:=hRlt.out; show wD.heap.size≤Qb; omega)) _
      have hnl:Hid ((rs.take j ++ m2 ++ (0 :: rs.drop (j + (kk + 2) + 1))).length=xs.length + 1):=by unfold Hid; simp; omega
      clear hsum k2 k3 k4 hrl' hql' hlen2 hO13 hF13 hO14 ez0 hm2l
      simp only [Int.ofNat_zero] at *
      go_wp2
      go_roundw
      case rel=>exact ⟨j,_,_,by omega,rfl,HR2,hnl,HO16.out,HO15.out,HF16.out⟩
      case measure=>simp [intOf]
  ·obtain rfl:k=0:=by omega
   obtain ⟨k1,k2⟩:=hR.out.done
   have hql:qs.length=xs.length - (kk + 2) + 1:=by have:=hR.out.2.2.1; have:=hrl.out; omega
   have hsh:=ZhK (val W64 xs) (val W64 ys) (2 ^ s) (Nat.pow_pos (by omega))
   have NQ:=Zal.of_own (c:=xs.length - (kk + 2) + 1) hO2.out hR.out.2.1 (by omega)
   have NR:=Zal.of_own (c:=xs.length + 1) hO1.out hR.out.1 (by have:=hrl.out; omega)
   rw [k1,← HX.out,← HV.out,Hvv.out,hsh.1] at NQ
   rw [k2,← HX.out,← HV.out,Hvv.out] at NR
   have HNQ:=zh NQ
   have HNR:=zh NR
   have HT1:=zh (Zdf _ qs (xs.length - (kk + 2) + 1) (xs.length - (kk + 2) + 1) wr hql hO2.out.shows0 (by omega) (by omega))
   have HT2:=zh (Zdf _ rs (xs.length + 1) (xs.length + 1) wr hrl.out hO1.out.shows0 (by have:=hrl.out; omega) (by have:=hrl.out; omega))
   have Hsh:=zh hsh.2
   have hwl:Hid (wl (val W64 xs * 2 ^ s % (val W64 ys * 2 ^ s))≤4294967296):=by
    refine Nat.le_trans ((Zb1 (k:=kk + 2)).2 ?_) (by omega)
    have h1:=Nat.mod_lt (val W64 xs * 2 ^ s) hV0.out
    rw [← HV.out,Hvv.out] at h1
    have h2:=hV.out
    rw [← HV.out,Hvv.out] at h2
    exact Nat.lt_of_lt_of_le h1 h2
   clear k1 k2 hql hsh NQ NR
   go_wp2_with fail
   (with_reducible refine HT1.out.mono ?_)
   rintro e w7 ⟨rfl,rfl⟩
   clear HT1
   go_wp2_with fail
   (with_reducible refine HT2.out.mono ?_)
   rintro e w7 ⟨rfl,rfl⟩
   clear HT2
   go_wp2_with fail
   (with_reducible refine (ZkW _ _ s _ HNR.out hwl.out (by omega)).mono ?_)
   rintro e w7 ⟨v7,rfl,hN7,hF7⟩
   rw [Hsh.out] at hN7
   have HN7:=zh hN7
   have HF7:=zh hF7
   clear hN7 hF7
   go_wp2
   go_ret2
   exact ⟨_,_,rfl,HNQ.out.ext HF7.out,HN7.out,(HFD.out.ext hF1.out).ext HF7.out⟩
theorem ZjA (xv yv:Value) (x y:Nat) (w:World) (hX:Zal w xv x) (hY:Zal w yv y) (hx:wl x≤4294967296) (hy:wl y≤4294967296) (h0:0 < y) :
 Calls Tryz.prog 196 #[xv,yv] w (ZfY w (x / y) (x % y)):=by
 rcases Nat.lt_or_ge x y with hlt | hge
 ·rw [Nat.div_eq_of_lt hlt,Nat.mod_eq_of_lt hlt]
  exact Zkj xv yv x y w hX hY hx hy hlt
 ·have hp:=ZhM h0
  by_cases h1:wl y=1
  ·exact Zjz xv yv x y w hX hY hx h1 hge
  ·obtain ⟨A,xs,c,rfl,hc,h1',h2,h3,rfl⟩:=hX
   obtain ⟨A2,ys,c2,rfl,hc2,k1,k2,k3,rfl⟩:=hY
   rw [← ZaN h2 h3] at hx
   rw [← ZaN k2 k3] at hy h1 hp
   exact Zi0 A A2 xs ys c c2 (ys.length - 2) w h1' k1 hc hc2 hx (by omega) h2 k2 h3 k3 hge
set_option maxHeartbeats 400000 in
theorem Zgk (xv yv:Value) (x y:Nat) (w:World) (hX:Zal w xv x) (hY:Zal w yv y) (hx:wl x≤4294967296) (hy:wl y < 80) (h0:0 < y) :
 Calls Tryz.prog 167 #[xv,yv] w (ZfY w (x / y) (x % y)):=by
 have HD:=zh (ZjA xv yv x y w hX hY hx (by omega) h0)
 obtain ⟨A,xs,c,rfl,hc,h1',h2,h3,rfl⟩:=hX
 obtain ⟨A2,ys,c2,rfl,hc2,k1,k2,k3,rfl⟩:=hY
 rw [← ZaN k2 k3] at hy
 clear h1' h2 h3 k1 k2 k3 hc hc2
 go_enter Tryz.func167,Tryz.ntmps167
 go_wp2_with (go_at_call 196; refine HD.out.mono ?_; rintro e w1 ⟨u,v,rfl,hN1,hN2,hF⟩; have HN1:=zh hN1; have HN2:=zh hN2; have HF:=zh hF; clear hN1 hN2 hF)
 go_ret2
 exact ⟨_,_,rfl,HN1.out,HN2.out,HF.out⟩
end Go.Proofs.YtklpdkpcocnglaaGreatDoor

namespace Go.Proofs.YtklpdkpcocnglaaGreatDoor
def Zcw (X v n k:Nat) (rs qs:List Nat):Prop :=
 Dig W32 rs∧Dig W32 qs∧rs.length=qs.length + n∧val W32 rs + val W32 (qs.drop k) * W32 ^ k * v=X∧val W32 (rs.drop k) < v
theorem Zcw.window {X v n k:Nat} {rs qs:List Nat} (h:Zcw X v n (k + 1) rs qs) (hv:v≤W32 ^ n) (hk:k + n < rs.length) :
 val W32 (rs.drop k)=val W32 ((rs.drop k).take (n + 1))∧val W32 (rs.drop k) < v * W32∧val W32 (rs.drop (k + n + 1))=0:=by
 obtain ⟨h1,h2,h3,h4,h5⟩:=h
 have hz:val W32 (rs.drop (k + n + 1))=0:=by
  have e:=ZaK (B:=W32) (xs:=rs.drop (k + 1)) n
  rw [List.drop_drop,show k + 1 + n=k + n + 1 by omega,Nat.min_eq_left (by simp; omega)] at e
  rcases Nat.eq_zero_or_pos (val W32 (rs.drop (k + n + 1))) with h | h
  ·exact h
  ·have:W32 ^ n * 1≤W32 ^ n * val W32 (rs.drop (k + n + 1)):=Nat.mul_le_mul_left _ h
   omega
 refine ⟨?_,?_,hz⟩
 ·have e:=ZaK (B:=W32) (xs:=rs.drop k) (n + 1)
  rw [List.drop_drop,show k + (n + 1)=k + n + 1 by omega,hz] at e
  simpa using e
 ·rw [ZaL k (by omega)]
  have hd:=h1.getD Zau k
  have:W32 * (val W32 (rs.drop (k + 1)) + 1)≤W32 * v:=Nat.mul_le_mul_left _ h5
  rw [Nat.mul_add] at this
  rw [Nat.mul_comm v]
  omega
theorem Zcw.step {X v n k q:Nat} {rs qs m:List Nat} (h:Zcw X v n (k + 1) rs qs) (hv0:0 < v) (hv:v≤W32 ^ n) (hk:k + n < rs.length) (hm:m.length=n) (hd:Dig W32 m) (hq:q=val W32 (rs.drop k) / v) (hr:val W32 m=val W32 (rs.drop k) % v) :
 Zcw X v n k (rs.take k ++ m ++ (0 :: rs.drop (k + n + 1))) (qs.set k q):=by
 obtain ⟨w1,w2,w3⟩:=h.window hv hk
 obtain ⟨h1,h2,h3,h4,h5⟩:=h
 have hkq:k < qs.length:=by omega
 have hqW:q < W32:=by rw [hq,Nat.div_lt_iff_lt_mul hv0,Nat.mul_comm]; exact w2
 have hlk:(rs.take k).length=k:=by simp; omega
 have hnew:val W32 (m ++ (0 :: rs.drop (k + n + 1)))=val W32 m:=by
  rw [Zbw,Zcr,w3]; simp
 have hdrop:(rs.take k ++ m ++ (0 :: rs.drop (k + n + 1))).drop k=m ++ (0 :: rs.drop (k + n + 1)):=by
  rw [List.append_assoc,List.drop_append,hlk,List.drop_of_length_le (by omega),Nat.sub_self]; simp
 refine ⟨((h1.take k).append hd).append (Dig.cons Zau (h1.drop _)),h2.set k hqW,?_,?_,?_⟩
 ·simp [hm]; omega
 ·rw [List.append_assoc,Zbw,hlk,hnew,hr]
  rw [ZaL (xs:=qs.set k q) k (by simpa using hkq),List.drop_set_of_lt (by omega)]
  have eq0:(qs.set k q)[k]?.getD 0=q:=by rw [List.getElem?_set_self hkq]; rfl
  rw [eq0]
  have e1:=ZaK (B:=W32) (xs:=rs) k
  rw [Nat.min_eq_left (by omega)] at e1
  have e2:=Nat.div_add_mod (val W32 (rs.drop k)) v
  rw [← hq] at e2
  have e3:=congrArg (W32 ^ k * ·) e2
  simp only [Nat.mul_add] at e3
  rw [Nat.add_mul,Nat.add_mul]
  have e4:q * W32 ^ k * v=W32 ^ k * (v * q):=by rw [Nat.mul_comm q,Nat.mul_assoc,Nat.mul_comm q]
  have e5:W32 * val W32 (qs.drop (k + 1)) * W32 ^ k * v=val W32 (qs.drop (k + 1)) * W32 ^ (k + 1) * v:=by
   rw [Nat.pow_succ,Nat.mul_comm W32 (val W32 _),Nat.mul_assoc (val W32 _) W32,Nat.mul_comm W32 (W32 ^ k)]
  rw [e4,e5]
  omega
 ·rw [hdrop,hnew,hr]; exact Nat.mod_lt _ hv0
theorem Zcw.done {X v n:Nat} {rs qs:List Nat} (h:Zcw X v n 0 rs qs):val W32 qs=X / v∧val W32 rs=X % v:=by
 obtain ⟨h1,h2,h3,h4,h5⟩:=h
 rw [List.drop_zero] at h4 h5
 simp only [Nat.pow_zero,Nat.mul_one] at h4
 rw [← h4,Nat.add_comm,Nat.mul_comm,Nat.mul_add_div (by omega),Nat.mul_add_mod,Nat.mod_eq_of_lt h5,Nat.div_eq_of_lt h5]
 exact ⟨by omega,rfl⟩
theorem Zcw.start {x y s L n:Nat} {rs:List Nat} (hd:Dig W32 rs) (hl:rs.length=L + 1) (hv:val W32 rs=x * 2 ^ s) (hx:x < W32 ^ L) (hy:W32 ^ (n - 1)≤y) (hn:1≤n) (hnL:n≤L) :
 Zcw (x * 2 ^ s) (y * 2 ^ s) n (L - n + 1) rs (List.replicate (L - n + 1) 0):=by
 refine ⟨hd,Dig.replicate Zau _,by simp; omega,?_,?_⟩
 ·rw [List.drop_of_length_le (by simp)]; simp [hv]
 ·have e:=ZaK (B:=W32) (xs:=rs) (L - n + 1)
  rw [Nat.min_eq_left (by omega),hv] at e
  have hp:0 < 2 ^ s:=Nat.pow_pos (by omega)
  have h1:W32 ^ (L - n + 1) * val W32 (rs.drop (L - n + 1))≤x * 2 ^ s:=by omega
  have h2:x * 2 ^ s < W32 ^ L * 2 ^ s:=Nat.mul_lt_mul_of_pos_right hx hp
  have h3:W32 ^ L=W32 ^ (L - n + 1) * W32 ^ (n - 1):=by rw [← Nat.pow_add,show L - n + 1 + (n - 1)=L by omega]
  rw [h3,Nat.mul_assoc] at h2
  have h4:W32 ^ (L - n + 1) * val W32 (rs.drop (L - n + 1)) < W32 ^ (L - n + 1) * (W32 ^ (n - 1) * 2 ^ s):=by omega
  have h5:=Nat.lt_of_mul_lt_mul_left h4
  exact Nat.lt_of_lt_of_le h5 (Nat.mul_le_mul_right _ hy)
theorem Zbq {t:Nat} (ht:t≤31):2 ^ (32 - t) * 2 ^ t=W32:=by
 rw [← Nat.pow_add,show 32 - t + t=32 by omega,Zaq]
theorem Zop {x t:Nat} (ht:t≤31):x * 2 ^ t=x * 2 ^ t % W32 + W32 * (x / 2 ^ (32 - t)):=by
 have h:=Nat.mod_add_div (x * 2 ^ t) W32
 have:x * 2 ^ t / W32=x / 2 ^ (32 - t):=by
  rw [← Zbq ht,Nat.mul_div_mul_right _ _ (Nat.pow_pos (by omega))]
 rw [this] at h
 exact h.symm
theorem Zsi {h x t:Nat} (hh:h < 2 ^ t) (ht:t≤31):h ||| x * 2 ^ t % W32=h + x * 2 ^ t % W32:=by
 have e:x * 2 ^ t % W32=(x % 2 ^ (32 - t)) <<< t:=by
  rw [Nat.shiftLeft_eq,← Zbq ht,Nat.mul_mod_mul_right]
 rw [e,Nat.or_comm,← Nat.shiftLeft_add_eq_or_of_lt hh,Nat.add_comm]
def Zdi (xs:List Nat) (skip t k:Nat) (zs:List Nat):Prop :=
 zs.length=xs.length + skip + 1∧Dig W32 zs∧val W32 (zs.take (k + skip + 1))=val W32 (xs.take k) * 2 ^ (32 * skip + t)∧(zs[k + skip]?.getD 0) < 2 ^ t
theorem Zdi.start (xs:List Nat) (skip t:Nat):Zdi xs skip t 0 (List.replicate (xs.length + skip + 1) 0):=by
 refine ⟨by simp,Dig.replicate Zau _,?_,?_⟩
 ·rw [List.take_replicate,ZbM]; simp
 ·have:((List.replicate (xs.length + skip + 1) 0)[0 + skip]?.getD 0)=0:=by
   rw [List.getElem?_replicate]; split<;>rfl
  rw [this]; exact Nat.pow_pos (by omega)
theorem Zdi.step {xs zs:List Nat} {skip t k h x:Nat} (hR:Zdi xs skip t k zs) (ht:t≤31) (hk:k < xs.length) (hh:zs[k + skip]?.getD 0=h) (hx:xs[k]?.getD 0=x) (hxW:x < W32) :
 Zdi xs skip t (k + 1) ((zs.set (k + skip) (h + x * 2 ^ t % W32)).set (k + skip + 1) (x / 2 ^ (32 - t)))∧h + x * 2 ^ t % W32 < W32:=by
 obtain ⟨h1,h2,h3,h4⟩:=hR
 rw [hh] at h4
 have hlt:h + x * 2 ^ t % W32 < W32:=by
  rw [← Zbq ht,Nat.mul_mod_mul_right]
  have:x % 2 ^ (32 - t) < 2 ^ (32 - t):=Nat.mod_lt _ (Nat.pow_pos (by omega))
  have h5:(x % 2 ^ (32 - t) + 1) * 2 ^ t≤2 ^ (32 - t) * 2 ^ t:=Nat.mul_le_mul_right _ this
  rw [Nat.add_mul] at h5
  omega
 have hhi:x / 2 ^ (32 - t) < 2 ^ t:=by
  rw [Nat.div_lt_iff_lt_mul (Nat.pow_pos (by omega)),← Nat.pow_add,show t + (32 - t)=32 by omega]
  rw [Zaq] at hxW; exact hxW
 have hhi2:x / 2 ^ (32 - t) < W32:=Nat.lt_of_le_of_lt (Nat.div_le_self _ _) hxW
 refine ⟨⟨by simpa using h1,(h2.set _ hlt).set _ hhi2,?_,?_⟩,hlt⟩
 ·rw [show k + 1 + skip + 1=(k + skip + 1) + 1 by omega,ZaI _ _ _ _ (by simp; omega),ZaI _ _ _ _ (by omega),Zas k hk,hx,Nat.add_mul,← h3,Zas (k + skip) (by omega),hh]
  have e:=Zop (x:=x) ht
  have e2:W32 ^ k * x * 2 ^ (32 * skip + t)=W32 ^ (k + skip) * (x * 2 ^ t):=by
   rw [Nat.pow_add 2,← ZeS,Nat.pow_add]
   simp only [Nat.mul_assoc,Nat.mul_left_comm]
  rw [e2]
  have e3:=congrArg (W32 ^ (k + skip) * ·) e
  simp only [Nat.mul_add] at e3
  rw [Nat.mul_add,Nat.pow_succ,Nat.mul_assoc]
  omega
 ·have:((zs.set (k + skip) (h + x * 2 ^ t % W32)).set (k + skip + 1) (x / 2 ^ (32 - t)))[k + 1 + skip]?.getD 0=x / 2 ^ (32 - t):=by
   rw [show k + 1 + skip=k + skip + 1 by omega,List.getElem?_set_self (by simp; omega)]
   rfl
  rw [this]; exact hhi
theorem Zdi.done {xs zs:List Nat} {skip t:Nat} (h:Zdi xs skip t xs.length zs):val W32 zs=val W32 xs * 2 ^ (32 * skip + t):=by
 obtain ⟨h1,h2,h3,h4⟩:=h
 rw [List.take_of_length_le (by omega),List.take_of_length_le (by omega)] at h3
 exact h3
def Zcx (ys:List Nat) (t k:Nat) (zs:List Nat):Prop :=
 zs.length=ys.length∧Dig W32 zs∧2 ^ t * val W32 (zs.take k) + (ys[0]?.getD 0) % 2 ^ t=val W32 (ys.take k) + W32 ^ k * ((ys[k]?.getD 0) % 2 ^ t)
theorem Zcx.start (ys:List Nat) (t:Nat):Zcx ys t 0 (List.replicate ys.length 0):=by
 refine ⟨by simp,Dig.replicate Zau _,?_⟩
 simp
theorem Zra {y t:Nat} (ht:t≤31):y * 2 ^ (32 - t) % W32=y % 2 ^ t * 2 ^ (32 - t):=by
 rw [← Zbq ht,Nat.mul_comm (2 ^ (32 - t)),Nat.mul_mod_mul_right]
theorem Znd {x y t:Nat} (ht:t≤31) (hx:x < W32):x / 2 ^ t ||| y * 2 ^ (32 - t) % W32=x / 2 ^ t + y % 2 ^ t * 2 ^ (32 - t):=by
 have hlt:x / 2 ^ t < 2 ^ (32 - t):=by
  rw [Nat.div_lt_iff_lt_mul (Nat.pow_pos (by omega)),Zbq ht]; exact hx
 rw [Zra ht,← Nat.shiftLeft_eq,Nat.or_comm,← Nat.shiftLeft_add_eq_or_of_lt hlt,Nat.add_comm]
theorem Zcx.step {ys zs:List Nat} {t k x y:Nat} (h:Zcx ys t k zs) (ht:t≤31) (hk:k < ys.length) (hx:ys[k]?.getD 0=x) (hy:ys[k + 1]?.getD 0=y) (hxW:x < W32) :
 Zcx ys t (k + 1) (zs.set k (x / 2 ^ t + y % 2 ^ t * 2 ^ (32 - t))):=by
 obtain ⟨h1,h2,h3⟩:=h
 have hlt:x / 2 ^ t + y % 2 ^ t * 2 ^ (32 - t) < W32:=by
  have e1:x / 2 ^ t < 2 ^ (32 - t):=by
   rw [Nat.div_lt_iff_lt_mul (Nat.pow_pos (by omega)),Zbq ht]; exact hxW
  have e2:y % 2 ^ t < 2 ^ t:=Nat.mod_lt _ (Nat.pow_pos (by omega))
  have e3:(y % 2 ^ t + 1) * 2 ^ (32 - t)≤2 ^ t * 2 ^ (32 - t):=Nat.mul_le_mul_right _ e2
  rw [Nat.mul_comm (2 ^ t),Zbq ht,Nat.add_mul] at e3
  omega
 refine ⟨by simpa using h1,h2.set k hlt,?_⟩
 rw [ZaI _ _ _ _ (by omega),Zas k hk,hx,hy]
 rw [hx] at h3
 have e1:=Nat.div_add_mod x (2 ^ t)
 have e2:2 ^ t * (y % 2 ^ t * 2 ^ (32 - t))=W32 * (y % 2 ^ t):=by
  rw [← Zbq ht]
  simp only [Nat.mul_comm,Nat.mul_left_comm]
 have e3:=congrArg (W32 ^ k * ·) e1
 simp only [Nat.mul_add] at e3
 rw [Nat.mul_add,Nat.mul_left_comm (2 ^ t),Nat.mul_add (2 ^ t),e2,Nat.mul_add,Nat.pow_succ,Nat.mul_assoc (W32 ^ k) W32]
 omega
theorem Zcx.done {ys zs:List Nat} {t:Nat} (h:Zcx ys t ys.length zs):val W32 zs=val W32 ys / 2 ^ t:=by
 obtain ⟨h1,h2,h3⟩:=h
 rw [List.take_of_length_le (by omega),List.take_of_length_le (by omega),List.getElem?_eq_none (Nat.le_refl _)] at h3
 simp only [Option.getD_none,Nat.zero_mod,Nat.mul_zero,Nat.add_zero] at h3
 rw [← h3,Nat.mul_add_div (Nat.pow_pos (by omega)),Nat.div_eq_of_lt (Nat.mod_lt _ (Nat.pow_pos (by omega))),Nat.add_zero]
theorem ZlL (xs:List Nat) (skip t:Nat) (hd:Dig W32 xs) (hs:skip≤xs.length):val W32 (xs.drop skip) / 2 ^ t=val W32 xs / 2 ^ (32 * skip + t):=by
 rw [Nat.pow_add,← ZeS,← Nat.div_div_eq_div_mul]
 congr 1
 rw [ZaK (xs:=xs) skip,Nat.min_eq_left hs,Nat.add_comm,Nat.mul_add_div (Nat.pow_pos Zau)]
 have h:=ZaQ (hd.take skip)
 rw [List.length_take,Nat.min_eq_left hs] at h
 rw [Nat.div_eq_of_lt h,Nat.add_zero]
theorem Zp1 {xs:List Nat} {s:Nat} (hd:Dig W32 xs) (h:xs.length≤s / 32):val W32 xs / 2 ^ s=0:=by
 refine Nat.div_eq_of_lt (Nat.lt_of_lt_of_le (ZaQ hd) ?_)
 rw [ZeS]
 exact Nat.pow_le_pow_right (by omega) (by omega)
theorem Zoq {ys vs:List Nat} {n yt s:Nat} (hl:ys.length=n + 1) (dy:Dig W32 ys) (ey:ys[n]?.getD 0=yt) (h31:2147483648≤yt * 2 ^ s) (hs:s≤31) (h32:yt * 2 ^ s < W32) (dv:Dig W32 vs) (tv:Trim vs) (hv:val W32 vs=val W32 ys * 2 ^ s) :
 vs.length=n + 1∧W32≤2 * (vs[n]?.getD 0)∧W32 ^ n≤val W32 ys:=by
 have hp:0 < 2 ^ s:=Nat.pow_pos (by omega)
 have hyt:0 < yt:=by
  rcases Nat.eq_zero_or_pos yt with e | e
  ·rw [e,Nat.zero_mul] at h31; omega
  ·exact e
 have EY:val W32 ys=val W32 (ys.take n) + W32 ^ n * yt:=by
  have:=Zas (B:=W32) (xs:=ys) n (by omega)
  rw [List.take_of_length_le (by omega),ey] at this
  exact this
 have hlow:=ZaQ (dy.take n)
 rw [List.length_take,Nat.min_eq_left (by omega)] at hlow
 have hup:(yt + 1) * 2 ^ s≤W32:=by
  rw [← Zbq hs] at h32 ⊢
  exact Nat.mul_le_mul_right _ (Nat.lt_of_mul_lt_mul_right h32)
 have hhi:val W32 ys * 2 ^ s < W32 ^ (n + 1):=by
  have h1:val W32 ys < W32 ^ n * (yt + 1):=by rw [Nat.mul_add]; omega
  have h2:=Nat.mul_lt_mul_of_pos_right h1 hp
  rw [Nat.mul_assoc] at h2
  have h3:W32 ^ n * ((yt + 1) * 2 ^ s)≤W32 ^ n * W32:=Nat.mul_le_mul_left _ hup
  rw [Nat.pow_succ]
  omega
 have hlo:W32 ^ n * 2147483648≤val W32 ys * 2 ^ s:=by
  have h1:W32 ^ n * yt≤val W32 ys:=by omega
  have h2:=Nat.mul_le_mul_right (2 ^ s) h1
  rw [Nat.mul_assoc] at h2
  have h3:W32 ^ n * 2147483648≤W32 ^ n * (yt * 2 ^ s):=Nat.mul_le_mul_left _ h31
  omega
 have hlen1:vs.length≤n + 1:=ZbO ZkY tv (hv ▸ hhi)
 have hlen2:n + 1≤vs.length:=by
  rcases Nat.lt_or_ge vs.length (n + 1) with h | h
  ·have h1:=ZaQ dv
   have h2:W32 ^ vs.length≤W32 ^ n:=Nat.pow_le_pow_right Zau (by omega)
   have h3:W32 ^ n * 1≤W32 ^ n * 2147483648:=Nat.mul_le_mul_left _ (by omega)
   omega
  ·exact h
 refine ⟨by omega,?_,?_⟩
 ·have EV:val W32 vs=val W32 (vs.take n) + W32 ^ n * (vs[n]?.getD 0):=by
   have:=Zas (B:=W32) (xs:=vs) n (by omega)
   rw [List.take_of_length_le (by omega)] at this
   exact this
  have hlow2:=ZaQ (dv.take n)
  rw [List.length_take,Nat.min_eq_left (by omega)] at hlow2
  have h1:W32 ^ n * 2147483648 < W32 ^ n * ((vs[n]?.getD 0) + 1):=by rw [Nat.mul_add]; omega
  have h2:=Nat.lt_of_mul_lt_mul_left h1
  rw [Zaq]
  omega
 ·have:W32 ^ n * 1≤W32 ^ n * yt:=Nat.mul_le_mul_left _ hyt
  omega
def ZbZ (U V top v1 h r:Nat):Prop:=top=h * v1 + r∧U < (h + 1) * V
def Lead (U V top u3 v1 v2:Nat):Prop :=
 ∃ R u' v',0 < R∧u' < R∧v' < R∧U=(top * W32 + u3) * R + u'∧V=(v1 * W32 + v2) * R + v'∧U < V * W32∧0 < v1∧u3 < W32∧v2 < W32
theorem ZbZ.start {U V top u3 v1 v2:Nat} (hL:Lead U V top u3 v1 v2):ZbZ U V top v1 (top / v1) (top % v1):=by
 obtain ⟨R,u',v',hR,hu,hv,eU,eV,hlt,h1,h3,h2⟩:=hL
 refine ⟨by have:=Nat.div_add_mod top v1; rw [Nat.mul_comm] at this; exact this.symm,?_⟩
 rw [eU,eV]
 refine ZhI _ _ _ _ _ _ hu ?_
 have e1:=Zgj top h1
 have e2:(top + 1) * W32≤(top / v1 + 1) * v1 * W32:=Nat.mul_le_mul_right _ e1
 rw [Nat.add_mul top] at e2
 rw [Nat.mul_add (top / v1 + 1),← Nat.mul_assoc]
 omega
theorem ZbZ.big {U V top u3 v1 v2 h r:Nat} (hC:ZbZ U V top v1 h r) (hL:Lead U V top u3 v1 v2) (hb:W32≤h):0 < h∧ZbZ U V top v1 (h - 1) (r + v1):=by
 obtain ⟨R,u',v',hR,hu,hv,eU,eV,hlt,h1,h3,h2⟩:=hL
 obtain ⟨c1,c2⟩:=hC
 have hp:=Zau
 obtain ⟨g,rfl⟩:∃ g,h=g + 1:=⟨h - 1,by omega⟩
 refine ⟨by omega,?_,?_⟩
 ·rw [c1,Nat.add_sub_cancel,Nat.add_mul]; omega
 ·rw [Nat.add_sub_cancel]
  have:V * W32≤V * (g + 1):=Nat.mul_le_mul_left _ hb
  rw [Nat.mul_comm (g + 1)]
  omega
theorem ZbZ.more {U V top u3 v1 v2 h r:Nat} (hC:ZbZ U V top v1 h r) (hL:Lead U V top u3 v1 v2) (hm:r * W32 + u3 < h * v2):0 < h∧ZbZ U V top v1 (h - 1) (r + v1):=by
 obtain ⟨R,u',v',hR,hu,hv,eU,eV,hlt,h1,h3,h2⟩:=hL
 obtain ⟨c1,c2⟩:=hC
 have h0:0 < h:=by
  rcases Nat.eq_zero_or_pos h with e | e
  ·rw [e,Nat.zero_mul] at hm; omega
  ·exact e
 obtain ⟨g,rfl⟩:∃ g,h=g + 1:=⟨h - 1,by omega⟩
 refine ⟨h0,?_,?_⟩
 ·rw [c1,Nat.add_sub_cancel,Nat.add_mul]; omega
 ·rw [Nat.add_sub_cancel,eU,eV]
  refine ZhI _ _ _ _ _ _ hu ?_
  rw [c1,Nat.mul_add (g + 1),← Nat.mul_assoc,Nat.add_mul ((g + 1) * v1)]
  omega
theorem Lead.top_lt {U V top u3 v1 v2:Nat} (hL:Lead U V top u3 v1 v2):top < v1 * W32 + W32:=by
 obtain ⟨R,u',v',hR,hu,hv,eU,eV,hlt,h1,h3,h2⟩:=hL
 rw [eU,eV] at hlt
 have e1:(top * W32) * R≤(top * W32 + u3) * R:=Nat.mul_le_mul_right _ (by omega)
 have e2:((v1 * W32 + v2) * R + v') * W32≤((v1 * W32 + v2) * R + R) * W32:=Nat.mul_le_mul_right _ (by omega)
 have e3:((v1 * W32 + v2) * R + R) * W32=((v1 * W32 + v2 + 1) * W32) * R:=by
  rw [Nat.add_mul (v1 * W32 + v2) 1 W32,Nat.add_mul,Nat.one_mul,Nat.add_mul _ W32 R,Nat.mul_comm R W32,Nat.mul_assoc,Nat.mul_comm R W32,← Nat.mul_assoc]
 rw [e3] at e2
 have e4:top * W32 * R < (v1 * W32 + v2 + 1) * W32 * R:=by omega
 have e5:=Nat.lt_of_mul_lt_mul_right (Nat.lt_of_mul_lt_mul_right e4)
 omega
theorem ZbZ.done {U V top u3 v1 v2 h r:Nat} (hC:ZbZ U V top v1 h r) (hL:Lead U V top u3 v1 v2) (hb:h < W32) (hm:h * v2≤r * W32 + u3):Zc4 U V h:=by
 obtain ⟨R,u',v',hR,hu,hv,eU,eV,hlt,h1,h3,h2⟩:=hL
 obtain ⟨c1,c2⟩:=hC
 refine ⟨?_,c2⟩
 rw [eU,eV]
 refine ZqE _ _ _ _ _ _ W32 hv hb (Nat.mul_le_mul_right _ ?_) ?_
 ·have:1 * W32≤v1 * W32:=Nat.mul_le_mul_right _ h1
  omega
 ·rw [c1,Nat.mul_add h,← Nat.mul_assoc,Nat.add_mul (h * v1)]
  omega
theorem ZbZ.broke {U V top u3 v1 v2 h r:Nat} (hC:ZbZ U V top v1 h r) (hL:Lead U V top u3 v1 v2) (hr:W32≤r):h < W32∧Zc4 U V h:=by
 have ht:=hL.top_lt
 have h2:v2 < W32:=by obtain ⟨_,_,_,_,_,_,_,_,_,_,_,h2⟩:=hL; exact h2
 have h1:=hC.1
 have hb:h < W32:=by
  have:h * v1 < v1 * W32:=by omega
  rw [Nat.mul_comm v1] at this
  exact Nat.lt_of_mul_lt_mul_right this
 refine ⟨hb,hC.done hL hb ?_⟩
 have e1:h * v2≤W32 * W32:=Nat.mul_le_mul (by omega) (by omega)
 have e2:W32 * W32≤r * W32:=Nat.mul_le_mul_right _ hr
 omega
theorem Ztu {ws vs:List Nat} {n u1 u2 u3 v1 v2:Nat} (hv:vs.length=n + 2) (hw:ws.length=n + 3) (dv:Dig W32 vs) (dw:Dig W32 ws)
 (e1:ws[n + 2]?.getD 0=u1) (e2:ws[n + 1]?.getD 0=u2) (e3:ws[n]?.getD 0=u3) (f1:vs[n + 1]?.getD 0=v1) (f2:vs[n]?.getD 0=v2) (hU:val W32 ws < val W32 vs * W32) (hn:W32≤2 * v1) :
 Lead (val W32 ws) (val W32 vs) (u1 * W32 + u2) u3 v1 v2:=by
 have h1:=ZaQ (dw.take n)
 have h2:=ZaQ (dv.take n)
 rw [List.length_take,Nat.min_eq_left (by omega)] at h1 h2
 have hp:=Zau
 refine ⟨W32 ^ n,val W32 (ws.take n),val W32 (vs.take n),Nat.pow_pos Zau,h1,h2,?_,?_,hU,by omega,e3 ▸ dw.getD Zau _,f2 ▸ dv.getD Zau _⟩
 ·rw [top3 hw,e1,e2,e3,Nat.add_comm]
  congr 1
  rw [Nat.mul_comm]
  congr 1
  rw [Nat.add_comm,Nat.mul_comm W32,Nat.mul_comm W32,Nat.add_comm u2]
 ·rw [top2 hv,f1,f2,Nat.add_comm]
  congr 1
  rw [Nat.mul_comm]
  congr 1
  rw [Nat.add_comm,Nat.mul_comm W32]
def Zgm (w0 vs:List Nat) (h i:Nat) (m:List Nat) (c bw:Nat):Prop :=
 m.length=w0.length∧Dig W32 m∧c < W32∧bw≤1∧m.drop i=w0.drop i∧val W32 (m.take i) + val W32 (vs.take i) * h=val W32 (w0.take i) + W32 ^ i * (c + bw)
theorem Zgm.start {w0 vs:List Nat} {h:Nat} (hd:Dig W32 w0):Zgm w0 vs h 0 w0 0 0:=⟨rfl,hd,Zau,by omega,rfl,by simp⟩
theorem ZoZ {xs ys:List Nat} {i:Nat} (h:xs.drop i=ys.drop i):xs[i]?.getD 0=ys[i]?.getD 0:=by
 have:=congrArg (fun l=>l[0]?.getD 0) h
 simpa [List.getElem?_drop] using this
theorem ZlM {xs ys:List Nat} {i v:Nat} (h:xs.drop i=ys.drop i):(xs.set i v).drop (i + 1)=ys.drop (i + 1):=by
 rw [List.drop_set_of_lt (by omega),← List.drop_drop (i:=1) (j:=i) (l:=xs),← List.drop_drop (i:=1) (j:=i) (l:=ys),h]
theorem Zne {h x c:Nat} (hh:h < W32) (hx:x < W32) (hc:c < W32):h * x + c < W32 * W32:=by
 have h1:h * x≤(W32 - 1) * (W32 - 1):=Nat.mul_le_mul (by omega) (by omega)
 rw [Zaq] at *
 omega
theorem Zgm.step {w0 vs m:List Nat} {h i c bw z x:Nat} (hR:Zgm w0 vs h i m c bw) (hi:i < w0.length) (hiv:i < vs.length) (hh:h < W32) (ez:m[i]?.getD 0=z) (ex:vs[i]?.getD 0=x) (dv:Dig W32 vs) :
 Zgm w0 vs h (i + 1) (m.set i (d32 z ((h * x + c) % W32) bw % W32)) ((h * x + c) / W32) (d32 z ((h * x + c) % W32) bw / W32 % 2):=by
 obtain ⟨h1,h2,h3,h4,h5,h6⟩:=hR
 have hx:x < W32:=ex ▸ dv.getD Zau i
 have hz:z < W32:=ez ▸ h2.getD Zau i
 have hs:=Zjy (y:=(h * x + c) % W32) hz (Nat.mod_lt _ Zau) h4
 refine ⟨by simpa using h1,h2.set _ (Nat.mod_lt _ Zau),Nat.div_lt_of_lt_mul (Zne hh hx h3),by omega,ZlM h5,?_⟩
 rw [ZaI _ _ _ _ (by omega),Zas i hi,Zas i hiv,ex,← ZoZ h5,ez,Nat.pow_succ]
 refine Zlq _ _ _ _ _ _ _ _ _ _ _ h6 ?_
 have hm:=Nat.mod_add_div (h * x + c) W32
 rw [Nat.mul_comm x h,Nat.mul_add W32]
 omega
def Zgn (w0 vs:List Nat) (i:Nat) (m:List Nat) (c:Nat):Prop :=
 m.length=w0.length∧Dig W32 m∧c≤1∧m.drop i=w0.drop i∧val W32 (m.take i) + W32 ^ i * c=val W32 (w0.take i) + val W32 (vs.take i)
theorem Zgn.start {w0 vs:List Nat} (hd:Dig W32 w0):Zgn w0 vs 0 w0 0:=⟨rfl,hd,by omega,rfl,by simp⟩
theorem Zgn.step {w0 vs m:List Nat} {i c z x:Nat} (hR:Zgn w0 vs i m c) (hi:i < w0.length) (hiv:i < vs.length) (ez:m[i]?.getD 0=z) (ex:vs[i]?.getD 0=x) (dv:Dig W32 vs) :
 Zgn w0 vs (i + 1) (m.set i ((c + (z + x)) % W32)) ((c + (z + x)) / W32):=by
 obtain ⟨h1,h2,h3,h4,h5⟩:=hR
 have hx:x < W32:=ex ▸ dv.getD Zau i
 have hz:z < W32:=ez ▸ h2.getD Zau i
 have hc:(c + (z + x)) / W32≤1:=by have:=ZfW hz hx h3; rwa [Nat.add_assoc] at this
 refine ⟨by simpa using h1,h2.set _ (Nat.mod_lt _ Zau),hc,ZlM h4,?_⟩
 rw [ZaI _ _ _ _ (by omega),Zas i hi,Zas i hiv,ex,← ZoZ h4,ez,Nat.pow_succ]
 exact ZfL _ _ _ _ _ _ _ _ _ _ h5 (by have:=Nat.mod_add_div (c + (z + x)) W32; omega)
theorem Zae.cell0 {k:Go.IntKind} {w:Go.World} {b off:Nat} {xs:List Nat} (h:Zae k w (some ⟨b,off,none⟩) xs) {i:Nat} (hi:i < xs.length):w.cell? ⟨b,off + i,none⟩=some (.int k ((xs[i]?.getD 0:Nat):Int)):=by
 obtain ⟨b',o',e,_,hc⟩:=h.at hi
 injection e with e
 injection e with e1 e2
 subst e1 e2
 exact hc
theorem Zuh (p:Nat) (h:p < W64):Go.bits .and .u64 (p:Int) 4294967295=((p % W32:Nat):Int):=by
 rw [Zam] at h
 have:=Go.bits_and_u64_nat p 4294967295 h (by omega)
 rw [show (4294967295:Nat)=2 ^ 32 - 1 from rfl,Nat.and_two_pow_sub_one_eq_mod] at this
 rw [Zaq]
 exact this
theorem Zo0 {z l:Nat} (hz:z < W32) (hl:l < W32):Go.IntKind.u64.wrap ((z:Int) - (l:Int))=((d32 z l 0:Nat):Int):=by
 unfold d32; rw [Go.IntKind.wrap_u64,Zam]; rw [Zaq] at hz hl; omega
theorem Zo1 {z l bw:Nat} (hz:z < W32) (hl:l < W32) (hb:bw≤1):Go.IntKind.u64.wrap (((d32 z l 0:Nat):Int) - (bw:Int))=((d32 z l bw:Nat):Int):=by
 unfold d32; rw [Go.IntKind.wrap_u64,Zam]; rw [Zaq] at hz hl; omega
theorem Ztv {t c bw:Nat} (ht:t < W32) (hc:c < W32) (hb:bw≤1):d32 t c bw / 9223372036854775808=(if t < c + bw then 1 else 0):=by
 unfold d32
 rw [Zaq] at *
 rw [Zam]
 split<;>omega
theorem Zsj {t c bw:Nat} (h:t=c + bw):d32 t c bw % W32=0:=by
 unfold d32
 rw [Zaq,Zam]
 omega
theorem Ztw {t c bw c':Nat} (h:c' + t=c + bw) (_:c < W32) (_:bw≤1) (hc':c'≤1) (h1:t < c + bw):(d32 t c bw % W32 + c') % W32=0:=by
 unfold d32
 rw [Zaq] at *
 rw [Zam]
 omega
theorem Own.mid32 {k0:Go.IntKind} {t:Go.TypeId} {w:Go.World} {b:Nat} {pre mid post:List Nat} (h:Own k0 t w b (pre ++ mid ++ post)) {k:Nat} (hk:k < mid.length):w.cell? ⟨b,pre.length + k,none⟩=some (.int k0 ((mid[k]?.getD 0:Nat):Int)):=by
 rw [h.cell (by simp; omega),ZoO _ _ _ _ hk]
theorem Own.set_mid32 {k0:Go.IntKind} {t:Go.TypeId} {w:Go.World} {b:Nat} {pre mid post:List Nat} (h:Own k0 t w b (pre ++ mid ++ post)) {k:Nat} (hk:k < mid.length) (v:Nat):Own k0 t (w.setCell ⟨b,pre.length + k,none⟩ (.int k0 (v:Int))) b (pre ++ mid.set k v ++ post):=by
 have:=h.set (pre.length + k) v (by simp; omega)
 rwa [Go.Proofs.YtklpdkpcocnglaaGreatDoor.set_mid _ _ _ _ _ hk] at this
theorem Zjh {zs ts rest:List Nat} {k v:Nat} (hk:k < ts.length) (hl:zs.length=ts.length):(zs.take k ++ ts.drop k ++ rest).set k v=(zs.set k v).take (k + 1) ++ ts.drop (k + 1) ++ rest:=by
 have h1:(zs.take k).length=k:=by simp; omega
 rw [List.append_assoc,List.set_append_right _ _ (by omega),h1,Nat.sub_self,List.drop_eq_getElem_cons hk,List.cons_append,List.set_cons_zero,List.take_succ_eq_append_getElem (by simp; omega)]
 have h2:(zs.set k v).take k=zs.take k:=by rw [List.take_set_of_le (by omega)]
 simp [h2]
theorem Zji {zs ts rest:List Nat} {k i:Nat} (hk:k≤i) (hi:i < ts.length) (hl:zs.length=ts.length):(zs.take k ++ ts.drop k ++ rest)[i]?.getD 0=ts[i]?.getD 0:=by
 have h1:(zs.take k).length=k:=by simp; omega
 rw [List.append_assoc,List.getElem?_append_right (by omega),h1,List.getElem?_append_left (by simp; omega),List.getElem?_drop,show k + (i - k)=i by omega]
end Go.Proofs.YtklpdkpcocnglaaGreatDoor

namespace Go.Proofs.YtklpdkpcocnglaaGreatDoor
open Go.RowKit
theorem Znf {a b:Nat} (ha:a < W32) (hb:b < W32):bits .or .u32 (a:Int) (b:Int)=((a ||| b:Nat):Int):=by
 rw [Zaq] at ha hb
 have hx:a ||| b < 2 ^ 32:=Nat.or_lt_two_pow (by omega) (by omega)
 have h1:(BitVec.ofInt 32 (a:Int)).toNat=a:=by
  rw [BitVec.ofInt_natCast,BitVec.toNat_ofNat]; exact Nat.mod_eq_of_lt (by omega)
 have h2:(BitVec.ofInt 32 (b:Int)).toNat=b:=by
  rw [BitVec.ofInt_natCast,BitVec.toNat_ofNat]; exact Nat.mod_eq_of_lt (by omega)
 show IntKind.u32.wrap ((BitVec.ofInt 32 (a:Int) ||| BitVec.ofInt 32 (b:Int)).toNat:Int)=_
 rw [BitVec.toNat_or,h1,h2,IntKind.wrap_u32]
 omega
theorem ZlN {x s:Nat} (hx:x < W32) (hs:s≤32):IntKind.u64.wrap ((x:Int) * 2 ^ s)=((x * 2 ^ s:Nat):Int):=by
 rw [ZeQ,Nat.mod_eq_of_lt]
 have h1:2 ^ s≤W32:=by rw [Zaq]; exact Nat.le_trans (Nat.pow_le_pow_right (by omega) hs) (by decide)
 rw [← Zed]
 exact Nat.lt_of_lt_of_le (Nat.mul_lt_mul_of_pos_right hx (Nat.pow_pos (by omega))) (Nat.mul_le_mul_left _ h1)
theorem Zui {x s:Nat} (hs:s≤31):x * 2 ^ s / W32=x / 2 ^ (32 - s):=by
 rw [← Zbq hs,Nat.mul_div_mul_right _ _ (Nat.pow_pos (by omega))]
def Zsk (w:World) (l:Nat) (v:Nat) (e:Ending) (w':World):Prop :=
 ∃ us:List Nat,e=.returned (.slice (some ⟨w.heap.size,0,none⟩) l l)∧us.length=l∧Own .u32 102 w' w.heap.size us∧Dig W32 us∧val W32 us=v∧Ext w w'
set_option maxHeartbeats 1000000 in
theorem Zh6 (A:Option Addr) (xs:List Nat) (n c s:Nat) (w:World) (hn:xs.length=n) (hX:Zae .u32 w A xs) (hl:xs.length≤1073741824) (hd:Dig W32 xs) (hs:s≤31) :
 Calls Tryz.prog 72 #[.slice A n c, .int .u64 (s:Int)] w (Zsk w (n + 1) (val W32 xs * 2 ^ s)):=by
 subst hn
 have HX:=zh hX
 have Hd:=zh hd
 clear hX hd
 go_enter Tryz.func72,Tryz.ntmps72
 go_wp2_with (at_make
              refine Za3 rfl _ _ _ rfl _ _ _ Tryz.underlying30 ZdT _ _ _ _ (xs.length + 1) rfl rfl (by omega) (by omega) (by omega) (by omega) ?_
              intro b w1 hb hO1 _ hF1 hs1
              have HO1:=zh hO1
              have HF1:=zh hF1
              have Hb:=zh hb
              clear hO1 hF1 hb hs1)
 go_loopw [6,7] (fun i _ wr=>∃ (k:Nat) (zs:List Nat),k≤xs.length∧i=.int .i64 (k:Int)∧Hid (Zdi xs 0 s k zs)∧Hid (Own .u32 102 wr b zs)∧Hid (Ext w wr)) (fun i _ _=>xs.length - (intOf i).toNat)
 case atStart=>exact ⟨0,_,by omega,rfl,Zdi.start xs 0 s,HO1.out,HF1.out⟩
 case round =>
  obtain ⟨k,zs,hkk,rfl,hR,hO2,hF2⟩:=hrel
  by_cases hlt:k < xs.length
  ·obtain ⟨b2,off2,rfl,_,hcx⟩:=(HX.out.ext hF2.out).at hlt
   obtain ⟨x,ex⟩:∃ x,xs[k]?.getD 0=x:=⟨_,rfl⟩
   obtain ⟨h,eh⟩:∃ h,zs[k + 0]?.getD 0=h:=⟨_,rfl⟩
   rw [ex] at hcx
   have hxW:Hid (x < W32):=ex ▸ Hd.out.getD Zau k
   obtain ⟨hst,hdlt⟩:=hR.out.step hs hlt eh ex hxW.out
   have HR2:=zh hst
   have hzl:zs.length=xs.length + 0 + 1:=hR.out.1
   simp only [Nat.add_zero] at eh hzl HR2
   have hc1:=hO2.out.cell (i:=k) (by omega)
   have hf1:=hO2.out.frozen k
   rw [eh] at hc1
   have hO3:=hO2.out.set k (h + x * 2 ^ s % W32) (by omega)
   have hc2:=hO3.cell (i:=k + 1) (by simp; omega)
   have hf2:=hO3.frozen (k + 1)
   obtain ⟨g,eg⟩:∃ g,(zs.set k (h + x * 2 ^ s % W32))[k + 1]?.getD 0=g:=⟨_,rfl⟩
   rw [eg] at hc2
   have HO4:=zh (hO3.set (k + 1) (x / 2 ^ (32 - s)) (by simp; omega))
   have q0:=ZaS x (by have:=Zam; have:=Zaq; have:=hxW.out; omega)
   have q1:=ZlN hxW.out (by omega:s≤32)
   have q2:=ZbX (x * 2 ^ s)
   have q3:=Znf (a:=h) (b:=x * 2 ^ s % W32) (eh ▸ hR.out.2.1.getD Zau _) (Nat.mod_lt _ Zau)
   have hh2:=hR.out.2.2.2
   simp only [Nat.add_zero] at hh2
   rw [Zsi (eh ▸ hh2) hs] at q3
   have q4:=hi32 (x * 2 ^ s)
   rw [Zui hs] at q4
   have q5:=ZbX (x / 2 ^ (32 - s))
   rw [Nat.mod_eq_of_lt (Nat.lt_of_le_of_lt (Nat.div_le_self _ _) hxW.out)] at q5
   obtain ⟨lo,elo⟩:∃ lo,x * 2 ^ s % W32=lo:=⟨_,rfl⟩
   obtain ⟨v,ev⟩:∃ v,x * 2 ^ s=v:=⟨_,rfl⟩
   obtain ⟨hi,ehi⟩:∃ hi,x / 2 ^ (32 - s)=hi:=⟨_,rfl⟩
   rw [elo] at q2 q3 hc2 hf2 HR2 HO4
   rw [ev] at q1 q2 q4
   rw [ehi] at q4 q5 HR2 HO4
   obtain ⟨d,ed⟩:∃ d,h + lo=d:=⟨_,rfl⟩
   rw [ed] at q3 hc2 hf2 HR2 HO4
   clear ex eh hst hdlt hzl hO3 eg elo ehi ed ev hh2
   go_wp2
   go_roundw
   case rel=>exact ⟨k + 1,_,by omega,by go_num,HR2,HO4.out,(hF2.out.setCell (p:=⟨b,k,none⟩) (Or.inr (by have:=Hb.out; show w.heap.size≤b; omega)) _).setCell (p:=⟨b,k + 1,none⟩) (Or.inr (by have:=Hb.out; show w.heap.size≤b; omega)) _⟩
   case measure=>simp [intOf]; omega
  ·obtain rfl:k=xs.length:=by omega
   have hz:=zh hR.out.1
   have hv:=zh hR.out.done
   go_wp2
   go_ret
   exact ⟨zs,by rw [Hb.out]; rfl,by have:=hz.out; omega,by rw [Hb.out]; exact hO2.out,hR.out.2.1,by rw [hv.out]; simp,hF2.out⟩
end Go.Proofs.YtklpdkpcocnglaaGreatDoor

namespace Go.Proofs.YtklpdkpcocnglaaGreatDoor
open Go.RowKit
def Zhe (w:World) (q r:Nat) (e:Ending) (w':World):Prop:=∃ u v,e=.returned (.tuple #[u,v])∧Zar w' u q∧Zar w' v r∧Ext w w'
theorem ZlO {a b:Nat}:cmpI a b < 0 ↔ a < b:=by
 unfold cmpI
 split
 ·omega
 ·split<;>omega
set_option maxHeartbeats 1000000 in
theorem Zrb (xv yv:Value) (x y:Nat) (w:World) (hX:Zar w xv x) (hY:Zar w yv y) (hx:ml x≤1048576) (hy:ml y≤1048576) (hlt:x < y) :
 Calls Tryz.prog 114 #[xv,yv] w (Zhe w 0 x):=by
 have HC:=zh (Zd6 xv yv x y w hX hY hx hy)
 rw [Zb8 (by omega)] at HC
 obtain ⟨A,xs,c,rfl,hc,h1,h2,h3,hv⟩:=hX
 obtain ⟨A2,l2,c2,rfl⟩:∃ A2 l2 c2,yv=.slice A2 l2 c2:=by obtain ⟨A2,ys,c2,h,_⟩:=hY; exact ⟨_,_,_,h⟩
 rw [← hv,← Zby h2 h3] at hx
 have HX:=zh h1
 have H2:=zh h2
 have H3:=zh h3
 have HV:=zh hv
 obtain ⟨n,hn⟩:∃ n,xs.length=n:=⟨_,rfl⟩
 rw [hn] at hx HC
 rw [hn]
 have HN:=zh hn
 clear h1 h2 h3 hv hlt hc hY hy hn
 go_enter Tryz.func114,Tryz.ntmps114
 go_wp2_with (first
  | (go_at_call 116; refine HC.out.mono ?_; rintro e w' ⟨rfl,m,rfl⟩)
  | (at_builtin
     refine Za6 rfl _ _ _ rfl _ .u32 4 Tryz.underlying30 ZdT (some ⟨w.heap.size,0,none⟩) A 0 n 0 c rfl rfl [] xs rfl HN.out ?_ ((HX.out.drewN _).alloc _) (by simp only [maxLen]; omega) (by omega) ?_
     ·exact Or.inr ⟨_,rfl,Own.new (w.drewN m) _ _ [] [],⟨#[],heap_alloc_new (w.drewN m) _,rfl⟩,Nat.le_refl _,by simp only [maxLen]; omega⟩
     intro A1 cap1 w1 hB1 hF1 hA1
     have HB1:=zh hB1
     have HF1:=zh hF1
     clear hB1 hF1 hA1))
 go_ret2
 refine ⟨_,_,rfl,Zar.zero _,⟨A1,xs,cap1,?_,?_,?_,H2.out,H3.out,HV.out⟩,?_⟩
 ·rw [HN.out]; simp
 ·have:=HB1.out.len; simpa using this
 ·have:=HB1.out.shows; simpa using this
 ·refine (((Fr.refl (fun _=>False) w).drewN m).alloc _).next HF1.out (fun i hi hb=>?_)
  obtain ⟨a,ha,hb⟩:=hb
  injection ha with ha
  subst ha
  simp at hb; omega
theorem Zar.one {w:World} {b r:Nat} (h:Own .u32 102 w b [r]) (hr:r < W32):Zar w (.slice (some ⟨b,0,none⟩) (ZaZ [r] 1) 1) r:=by
 have:=Zar.of_own (c:=1) h (Dig.cons hr Dig.nil) (by simp)
 simpa using this
set_option maxHeartbeats 1000000 in
theorem Zp2 (xv yv:Value) (x y:Nat) (w:World) (hX:Zar w xv x) (hY:Zar w yv y) (hx:ml x≤1048576) (hy:ml y=1) (hge:y≤x) :
 Calls Tryz.prog 114 #[xv,yv] w (Zhe w (x / y) (x % y)):=by
 have HC:=zh (Zd6 xv yv x y w hX hY hx (by omega))
 obtain ⟨cr,ecr⟩:∃ cr,cmpI x y=cr:=⟨_,rfl⟩
 have hcr:0≤cr:=by
  rcases Int.lt_or_le cr 0 with h | h
  ·rw [← ecr] at h; have:=ZlO.1 h; omega
  ·exact h
 rw [ecr] at HC
 obtain ⟨A2,ys,c2,rfl,hc2,k1,k2,k3,rfl⟩:=hY
 rw [← Zby k2 k3] at hy
 obtain ⟨y,rfl⟩:=List.length_eq_one_iff.1 hy
 have hyv:val W32 [y]=y:=by simp
 rw [hyv] at hge ⊢
 have hy0:0 < y:=by have:=k3 0 (by simp); simp at this; omega
 have hyW:y < W32:=k2.head
 obtain ⟨b,o,rfl,_,hcy⟩:=k1.at (i:=0) (by simp)
 have hcy':w.cell? ⟨b,o,none⟩=some (.int .u32 (y:Int)):=by simpa using hcy
 have HD:=fun w' (hf:Ext w w')=>zh (ZhV xv x y w' (hX.ext hf) hx hy0 hyW)
 have HDH:=zh HD
 have hrW:Hid (x % y < W32):=Nat.lt_trans (Nat.mod_lt _ hy0) hyW
 obtain ⟨r,er⟩:∃ r,x % y=r:=⟨_,rfl⟩
 have HR:=zh er
 rw [er] at hrW
 have hcrB:decide (cr < 0)=false:=by rw [decide_eq_false_iff_not]; omega
 clear k1 k2 k3 hc2 ecr hge hcy HD hy hyv hy0 hyW hX er
 go_enter Tryz.func114,Tryz.ntmps114
 go_wp2_with (first
  | (go_at_call 116; refine HC.out.mono ?_; rintro e w' ⟨rfl,m,rfl⟩)
  | (go_at_call 115; refine (HDH.out _ ((Fr.refl _ _).drewN _)).out.mono ?_; rintro e w1 ⟨l,c,rfl,hN,hF⟩; have HN:=zh hN; have HF:=zh hF; clear hN hF; rw [HR.out])
  | (go_at_call 71; refine (Zbs _ [r] 1 1 _ rfl (Own.new w1 _ _ [r] []).shows0 (by simp) (by simp)).mono ?_; rintro e w2 ⟨rfl,rfl⟩))
 go_ret2
 exact ⟨_,_,rfl,HN.out.ext ((Fr.refl _ _).alloc _),by rw [HR.out]; exact Zar.one (Own.new w1 _ _ [r] []) hrW.out,(((Fr.refl _ _).drewN _).ext HF.out).alloc _⟩
end Go.Proofs.YtklpdkpcocnglaaGreatDoor

namespace Go.Proofs.YtklpdkpcocnglaaGreatDoor
open Go.RowKit
theorem Zo2 {x s:Nat} (h:x * 2 ^ s < W32):IntKind.u32.wrap ((x:Int) * 2 ^ s)=((x * 2 ^ s:Nat):Int):=by
 have hpow:((2:Int) ^ s)=((2 ^ s:Nat):Int):=by rw [Int.natCast_pow]; rfl
 rw [hpow,← Int.natCast_mul,IntKind.wrap_u32]
 rw [Zaq] at h
 omega
theorem Zsl {x s:Nat} (h:x * 2 ^ s < W32):((x:Int) * 2 ^ s) % 4294967296=((x * 2 ^ s:Nat):Int):=by
 have:=Zo2 h
 rw [IntKind.wrap_u32] at this
 exact this
theorem Zrc {y s:Nat} (hy:0 < y) (h:y * 2 ^ s < W32):s≤31:=by
 rcases Nat.lt_or_ge s 32 with h1 | h1
 ·omega
 ·have h2:2 ^ 32≤2 ^ s:=Nat.pow_le_pow_right (by omega) h1
  have h3:1 * 2 ^ s≤y * 2 ^ s:=Nat.mul_le_mul_right _ hy
  rw [Zaq] at h
  omega
set_option maxHeartbeats 8000000 in
theorem Zor (A A2:Option Addr) (xs ys:List Nat) (c c2 kk:Nat) (w:World) (hX:Zae .u32 w A xs) (hY:Zae .u32 w A2 ys) (_:xs.length≤c) (hc2:ys.length≤c2) (hl:xs.length≤1048576) (hk:ys.length=kk + 2)
 (dx:Dig W32 xs) (dy:Dig W32 ys) (tx:Trim xs) (ty:Trim ys) (hge:val W32 ys≤val W32 xs) :
 Calls Tryz.prog 114 #[.slice A xs.length c, .slice A2 ys.length c2] w (Zhe w (val W32 xs / val W32 ys) (val W32 xs % val W32 ys)):=by
 have hlxy:kk + 2≤xs.length:=by
  have:=ZbF hge
  rw [← Zby dx tx,← Zby dy ty] at this
  omega
 have HC:=zh (Zjg A A2 xs ys _ _ c c2 w rfl rfl hX hY (by omega) (by omega) dx dy tx ty)
 obtain ⟨cr,ecr⟩:∃ cr,cmpI (val W32 xs) (val W32 ys)=cr:=⟨_,rfl⟩
 have hcr:0≤cr:=by
  rcases Int.lt_or_le cr 0 with h | h
  ·rw [← ecr] at h; have:=ZlO.1 h; omega
  ·exact h
 rw [ecr] at HC
 clear ecr
 obtain ⟨bY,oY,rfl,_,hct⟩:=hY.at (i:=kk + 1) (by omega)
 obtain ⟨yt,eyt⟩:∃ yt,ys[kk + 1]?.getD 0=yt:=⟨_,rfl⟩
 rw [eyt] at hct
 have hyt0:Hid (0 < yt):=by have:=ty (kk + 1) (by omega); unfold Hid; omega
 have hytW:Hid (yt < W32):=eyt ▸ dy.getD Zau _
 have HX:=zh hX
 have HY:=zh hY
 have Hdx:=zh dx
 have Hdy:=zh dy
 have HEY:=zh eyt
 clear hX hY dx dy tx ty hge eyt
 obtain ⟨n,hn⟩:∃ n,ys.length=n:=⟨_,rfl⟩
 rw [hn] at HC hk hc2
 rw [hn]
 have HN:=zh hn
 subst hk
 clear hn
 have hone:(((kk:Int) + 2) == 1)=false:=by simp; omega
 have hcrB:decide (cr < 0)=false:=by rw [decide_eq_false_iff_not]; omega
 go_enter Tryz.func114,Tryz.ntmps114
 go_wp2_with (go_at_call 116; refine HC.out.mono ?_; rintro e w' ⟨rfl,m0,rfl⟩)
 go_loop [8] (fun sv=>∃ s:Nat,s≤31∧sv=.int .u64 (s:Int)∧Hid (yt * 2 ^ s < W32)) (fun sv=>32 - (intOf sv).toNat)
 case atStart=>exact ⟨0,by omega,rfl,by have:=hytW.out; unfold Hid; simpa using this⟩
 case round =>
  obtain ⟨s,hs,rfl,hsW⟩:=hrel
  have q1:=Zo2 hsW.out
  have q1':=Zsl hsW.out
  obtain ⟨p,ep⟩:∃ p,yt * 2 ^ s=p:=⟨_,rfl⟩
  rw [ep] at q1 q1'
  by_cases hp:p < 2147483648
  ·have t1:decide ((p:Int) < 2147483648)=true:=by rw [decide_eq_true_eq]; omega
   have t1':decide (p < 2147483648)=true:=by rw [decide_eq_true_eq]; omega
   have hs2:Hid (yt * 2 ^ (s + 1) < W32):=by unfold Hid; rw [Nat.pow_succ,← Nat.mul_assoc,ep,Zaq]; omega
   have hs3:=Zrc hyt0.out hs2.out
   clear ep hp
   go_wp2
   go_round
   case rel=>exact ⟨s + 1,by omega,by go_num,hs2⟩
   case measure=>simp [intOf]; omega
  ·have t1:decide ((p:Int) < 2147483648)=false:=by rw [decide_eq_false_iff_not]; omega
   have t1':decide (p < 2147483648)=false:=by rw [decide_eq_false_iff_not]; omega
   have HP:Hid (2147483648≤yt * 2 ^ s):=by unfold Hid; omega
   clear ep hp
   have HS1:=zh (Zh6 _ ys (kk + 2) c2 s (w.drewN m0) HN.out (HY.out.drewN _) (by have:=HN.out; omega) Hdy.out hs)
   clear HC
   go_wp2_with fail
   clear q1 q1' t1 t1' hct
   refine HS1.out.mono ?_
   rintro e wD ⟨us0,rfl,hus0,hO0,hd0,hv0,hF0⟩
   have NV:=Zar.of_own (c:=kk + 2 + 1) hO0 hd0 (by omega)
   obtain ⟨AV,vs,cV,eV,hcV,hSV,dvs,tvs,hvv⟩:=NV
   injection eV with eV1 eV2 eV3
   rw [hv0] at hvv
   obtain ⟨n1,n2,n3⟩:=Zoq (n:=kk + 1) HN.out Hdy.out HEY.out HP.out hs hsW.out dvs tvs hvv
   replace n1:vs.length=kk + 2:=n1
   have HT:=zh (Zbs (some ⟨(w.drewN m0).heap.size,0,none⟩) us0 (kk + 2 + 1) (kk + 2 + 1) wD hus0 hO0.shows0 (by omega) (by omega))
   rw [eV2,n1] at HT
   obtain ⟨Vb,eVb⟩:∃ Vb,(w.drewN m0).heap.size=Vb:=⟨_,rfl⟩
   rw [eVb] at HT eV1 ⊢
   have HVb:=zh eVb
   subst eV1
   have HSV:=zh hSV
   have Hdv:=zh dvs
   have HFD:Hid (Ext w wD):=((Fr.refl _ _).drewN _).ext hF0
   have Hvv:=zh hvv
   have Hn1:=zh n1
   have Hn2:=zh n2
   have Hn3:=zh n3
   clear HS1 hus0 hO0 hd0 hv0 hF0 hcV hSV dvs tvs hvv n1 n2 n3 eV2 eV3 eVb HP hsW hytW hyt0 HEY
   go_wp2_with fail
   refine HT.out.mono ?_
   rintro e w' ⟨rfl,rfl⟩
   clear HT
   have HS2:=zh (Zh6 A xs xs.length c s wD rfl (HX.out.ext HFD.out) (by omega) Hdx.out hs)
   go_wp2_with fail
   refine HS2.out.mono ?_
   rintro e w2 ⟨us,rfl,hus,hO2,hd2,hv2,hF2⟩
   obtain ⟨R,eR⟩:∃ R,wD.heap.size=R:=⟨_,rfl⟩
   rw [eR] at hO2 ⊢
   have HR:=zh eR
   have HO2:=zh hO2
   have HF2:=zh hF2
   have Hd2:=zh hd2
   have Hv2:=zh hv2
   have Hus:=zh hus
   clear hus hO2 hd2 hv2 hF2 eR HS2
   go_wp2_with (at_make
                refine Za3 rfl _ _ _ rfl _ _ _ Tryz.underlying30 ZdT _ _ _ _ (xs.length - (kk + 2) + 1) rfl rfl (by omega) (by omega) (by omega) (by omega) ?_
                intro Qb w4 hQ hO4 _ hF4 hs4
                have HO4:=zh hO4
                have HF4:=zh hF4
                have HQ:=zh hQ
                clear hO4 hF4 hQ hs4)
   have hRlt:Hid (R < Qb):=by
    have h1:=HO2.out.lt
    have h2:=HQ.out
    unfold Hid; omega
   have hV:Hid (val W32 vs≤W32 ^ (kk + 2)):=by
    have:=ZaQ Hdv.out
    rw [Hn1.out] at this
    exact Nat.le_of_lt this
   have hV0:Hid (0 < val W32 vs):=by
    rw [Hvv.out]
    have h1:=Hn3.out
    have h2:=Nat.pow_pos (n:=kk + 1) Zau
    exact Nat.mul_pos (by omega) (Nat.pow_pos (by omega))
   obtain ⟨X,eX⟩:∃ X,val W32 xs * 2 ^ s=X:=⟨_,rfl⟩
   have HXX:=zh eX
   have hst:Hid (Zcw X (val W32 vs) (kk + 2) (xs.length - (kk + 2) + 1) us (List.replicate (xs.length - (kk + 2) + 1) 0)):=by
    unfold Hid
    rw [← HXX.out,Hvv.out]
    exact Zcw.start (L:=xs.length) Hd2.out Hus.out Hv2.out (ZaQ Hdx.out) (by simpa using Hn3.out) (by omega) hlxy
   have HFw:Hid (Ext wD w4):=HF2.out.ext HF4.out
   have hAR:Hid (Vb < R):=by
    have h1:Vb < wD.heap.size:=by
     obtain ⟨b',o',e',hb',_⟩:=HSV.out.at (i:=0) (by rw [Hn1.out]; omega)
     injection e' with e'
     injection e' with e1 e2
     omega
    have h2:=HR.out
    unfold Hid; omega
   have HO2':=zh (HO2.out.ext HF4.out)
   clear HO2 HF2 HF4 Hd2 Hv2 eX hone hcrB
   obtain ⟨V,eV⟩:∃ V,val W32 vs=V:=⟨_,rfl⟩
   have HV:=zh eV
   rw [eV] at hV hV0 hst
   clear eV
   go_loopw [14] (fun i wr=>∃ (k:Nat) (rs qs:List Nat),k≤xs.length - (kk + 2) + 1∧i=.int .i64 ((k:Int) - 1)∧Hid (Zcw X V (kk + 2) k rs qs)∧Hid (rs.length=xs.length + 1)∧Hid (Own .u32 102 wr R rs)∧Hid (Own .u32 102 wr Qb qs)∧Hid (Ext wD wr)) (fun i _=>(intOf i + 1).toNat)
   case atStart=>exact ⟨xs.length - (kk + 2) + 1,us,_,Nat.le_refl _,by go_num,hst,Hus,HO2'.out,HO4.out,HFw.out⟩
   case round =>
    clear hst HO4 HFw HO2' Hus
    obtain ⟨k,rs,qs,hk,rfl,hR,hrl,hO1,hO2,hF1⟩:=hrel
    by_cases hlt:0 < k
    ·obtain ⟨j,rfl⟩:∃ j,k=j + 1:=⟨k - 1,by omega⟩
     have ej:(((j + 1:Nat):Int) - 1)=(j:Int):=by omega
     rw [ej]
     clear ej
     obtain ⟨wo,rfl⟩:∃ wo:World,wo=wr:=⟨_,rfl⟩
     have hjr:j + (kk + 2) < xs.length + 1:=by omega
     have hrl':=hrl.out
     obtain ⟨q1,q2,q3⟩:=hR.out.window hV.out (by omega)
     have hwl:((rs.drop j).take (kk + 3)).length=kk + 3:=by simp; omega
     obtain ⟨u1,eu1⟩:∃ u1,rs[j + (kk + 2)]?.getD 0=u1:=⟨_,rfl⟩
     obtain ⟨u2,eu2⟩:∃ u2,rs[j + (kk + 1)]?.getD 0=u2:=⟨_,rfl⟩
     obtain ⟨u3,eu3⟩:∃ u3,rs[j + kk]?.getD 0=u3:=⟨_,rfl⟩
     obtain ⟨v1,ev1⟩:∃ v1,vs[kk + 1]?.getD 0=v1:=⟨_,rfl⟩
     obtain ⟨v2,ev2⟩:∃ v2,vs[kk]?.getD 0=v2:=⟨_,rfl⟩
     have hn2:=Hn2.out
     rw [ev1] at hn2
     have HL:=Ztu (n:=kk) (u1:=u1) (u2:=u2) (u3:=u3) (v1:=v1) (v2:=v2) Hn1.out hwl Hdv.out ((hR.out.1.drop j).take _) (by rw [List.getElem?_take_of_lt (by omega),List.getElem?_drop]; exact eu1) (by rw [List.getElem?_take_of_lt (by omega),List.getElem?_drop]; exact eu2) (by rw [List.getElem?_take_of_lt (by omega),List.getElem?_drop]; exact eu3) ev1 ev2 (by rw [← q1,HV.out]; exact q2) hn2
     rw [← q1,HV.out] at HL
     have HLd:=zh HL
     have hu1:Hid (u1 < W32):=eu1 ▸ hR.out.1.getD Zau _
     have hu2:Hid (u2 < W32):=eu2 ▸ hR.out.1.getD Zau _
     have hu3:Hid (u3 < W32):=eu3 ▸ hR.out.1.getD Zau _
     have hv1:Hid (v1 < W32):=ev1 ▸ Hdv.out.getD Zau _
     have hv2:Hid (v2 < W32):=ev2 ▸ Hdv.out.getD Zau _
     have hv10:Hid (0 < v1):=by have:=Zau; unfold Hid; omega
     have c1:=hO1.out.cell (i:=j + (kk + 2)) (by omega)
     have c2':=hO1.out.cell (i:=j + (kk + 1)) (by omega)
     have c3:=hO1.out.cell (i:=j + kk) (by omega)
     have d1:=((HSV.out.ext hF1.out).cell0 (i:=kk + 1) (by rw [Hn1.out]; omega))
     have d2:=((HSV.out.ext hF1.out).cell0 (i:=kk) (by rw [Hn1.out]; omega))
     rw [eu1] at c1
     rw [eu2] at c2'
     rw [eu3] at c3
     rw [ev1,Nat.zero_add] at d1
     rw [ev2,Nat.zero_add] at d2
     have w1:=ZaS u1 (by have:=Zam; have:=Zaq; have:=hu1.out; omega)
     have w2:=ZaS u2 (by have:=Zam; have:=Zaq; have:=hu2.out; omega)
     have w3:=ZaS u3 (by have:=Zam; have:=Zaq; have:=hu3.out; omega)
     have w4:=ZaS v1 (by have:=Zam; have:=Zaq; have:=hv1.out; omega)
     have w5:=ZaS v2 (by have:=Zam; have:=Zaq; have:=hv2.out; omega)
     have s1:=ZpR u1 hu1.out
     have htW:u1 * W32 + u2 < W64:=by
      have:(u1 + 1) * W32≤W32 * W32:=Nat.mul_le_mul_right _ hu1.out
      rw [Nat.add_mul,Zed] at this; have:=hu2.out; omega
     have s2:=Zea (a:=u1 * W32) (b:=u2) (by omega) (by omega)
     rw [or32 u1 u2 hu2.out] at s2
     obtain ⟨a1,ea1⟩:∃ a1,u1 * W32=a1:=⟨_,rfl⟩
     rw [ea1] at s1 s2 HLd htW
     obtain ⟨top,etop⟩:∃ top,a1 + u2=top:=⟨_,rfl⟩
     rw [etop] at s2 HLd htW
     have hv1b:((v1:Int) == 0)=false:=by have:=hv10.out; simp; omega
     have htW':=zh htW
     have i1:IntKind.i64.wrap ((j:Int) + ((kk:Int) + 2))=(j:Int) + ((kk:Int) + 2):=IntWalk.i64_in _ (by omega)
     have i2:((j:Int) + ((kk:Int) + 2)).toNat=j + (kk + 2):=by omega
     have i3:IntKind.i64.wrap ((j:Int) + ((kk:Int) + 2) - 1)=(j:Int) + ((kk:Int) + 1):=by rw [show (j:Int) + ((kk:Int) + 2) - 1=(j:Int) + ((kk:Int) + 1) by omega]; exact IntWalk.i64_in _ (by omega)
     have i4:((j:Int) + ((kk:Int) + 1)).toNat=j + (kk + 1):=by omega
     have r1:(top:Int).tdiv (v1:Int)=((top / v1:Nat):Int):=by rw [Int.tdiv_eq_ediv_of_nonneg (by omega)]; rfl
     have r1':(top:Int) / (v1:Int)=((top / v1:Nat):Int):=rfl
     have r2:(top:Int).tmod (v1:Int)=((top % v1:Nat):Int):=by rw [Int.tmod_eq_emod_of_nonneg (by omega)]; rfl
     have r2':(top:Int) % (v1:Int)=((top % v1:Nat):Int):=rfl
     have r3:IntKind.u64.wrap ((top / v1:Nat):Int)=((top / v1:Nat):Int):=ZaS _ (Nat.lt_of_le_of_lt (Nat.div_le_self _ _) htW)
     have HCS:Hid (ZbZ (val W32 (rs.drop j)) V top v1 (top / v1) (top % v1)):=ZbZ.start HLd.out
     have hh0:Hid (top / v1 < W64):=Nat.lt_of_le_of_lt (Nat.div_le_self _ _) htW
     have hr0:Hid (top % v1 < W32):=Nat.lt_trans (Nat.mod_lt _ hv10.out) hv1.out
     obtain ⟨h0,eh0⟩:∃ h0,top / v1=h0:=⟨_,rfl⟩
     obtain ⟨r0,er0⟩:∃ r0,top % v1=r0:=⟨_,rfl⟩
     rw [eh0] at r1 r1' r3 HCS hh0
     rw [er0] at r2 r2' HCS hr0
     have hv1p:0 < v1:=hv10.out
     clear q1 q2 q3 hwl hrl' eu1 eu2 eu3 ev1 ev2 hn2 HL ea1 etop htW eh0 er0
     go_wp2
     go_quiet (fail)
     go_upto_block 4 with fail
     clear r1 r1' r2 r2' r3 i1 i2 i3 i4 s1 s2 c1 c2' w1 w2
     obtain ⟨U,eU⟩:∃ U,val W32 (rs.drop j)=U:=⟨_,rfl⟩
     have HU:=zh eU
     rw [eU] at HCS HLd
     clear eU
     go_cut [16,17] from 115 to 150 (fun hv _ wx=>∃ (h n2:Nat),hv=.int .u64 (h:Int)∧Hid (h < W32)∧Hid (Zc4 U V h)∧Hid (wx=wo.drewN n2))
     case first =>
      go_wp2_with fail
      go_loopw [16,17] (fun hv rv wx=>∃ (h r n2:Nat),hv=.int .u64 (h:Int)∧rv=.int .u64 (r:Int)∧Hid (ZbZ U V top v1 h r)∧Hid (r < W32)∧Hid (h < W64)∧Hid (wx=wo.drewN n2)) (fun hv _ _=>(intOf hv).toNat)
      case atStart=>exact ⟨h0,r0,_,rfl,rfl,HCS,hr0,hh0,rfl⟩
      case round =>
       obtain ⟨h,r,n2,rfl,rfl,hC,hr,hhW,hw⟩:=hrel
       obtain rfl:=hw.out
       clear hw HCS hh0 hr0
       have a3:=ZbD (a:=r) (b:=v1) (by have:=hr.out; have:=hv1.out; have:=Zaq; have:=Zam; omega)
       obtain ⟨r',er'⟩:∃ r',r + v1=r':=⟨_,rfl⟩
       rw [er'] at a3
       by_cases hbig:W32≤h
       ·obtain ⟨hp,hC2⟩:=hC.out.big HLd.out hbig
        rw [er'] at hC2
        have g1:decide ((4294967296:Int)≤(h:Int))=true:=by rw [decide_eq_true_eq]; have:=Zaq; omega
        have g1':decide (4294967296≤h)=true:=by rw [decide_eq_true_eq]; have:=Zaq; omega
        have a2:=Zcn hp hhW.out
        obtain ⟨h1,eh1⟩:∃ h1,h - 1=h1:=⟨_,rfl⟩
        rw [eh1] at a2 hC2
        have HC2:=zh hC2
        have hlt1:h1 < h:=by omega
        have hh1:Hid (h1 < W64):=by have:=hhW.out; unfold Hid; omega
        clear hC2 hbig er' eh1 hp hC hr hhW
        by_cases hb2:W32≤r'
        ·have g2:decide ((4294967296:Int)≤(r':Int))=true:=by rw [decide_eq_true_eq]; have:=Zaq; omega
         have g2':decide (4294967296≤r')=true:=by rw [decide_eq_true_eq]; have:=Zaq; omega
         have HB:=zh (HC2.out.broke HLd.out hb2)
         clear hb2 HC2
         go_wp2
         go_quiet (fail)
         go_wp2
         go_meet
         exact ⟨h1,_,rfl,HB.out.1,HB.out.2,rfl⟩
        ·have g2:decide ((4294967296:Int)≤(r':Int))=false:=by rw [decide_eq_false_iff_not]; have:=Zaq; omega
         have g2':decide (4294967296≤r')=false:=by rw [decide_eq_false_iff_not]; have:=Zaq; omega
         have hr2:Hid (r' < W32):=by unfold Hid; omega
         clear hb2
         go_wp2
         go_quiet (fail)
         go_wp2
         go_roundw
         case rel=>exact ⟨h1,r',_,rfl,rfl,HC2,hr2,hh1,rfl⟩
         case measure=>simp [intOf]; omega
       ·have g1:decide ((4294967296:Int)≤(h:Int))=false:=by rw [decide_eq_false_iff_not]; have:=Zaq; omega
        have g1':decide (4294967296≤h)=false:=by rw [decide_eq_false_iff_not]; have:=Zaq; omega
        have hhB:Hid (h < W32):=by unfold Hid; omega
        have hpW:h * v2 < W64:=by
         rw [← Zed]
         exact Nat.mul_lt_mul'' hhB.out hv2.out
        have m1:=ZcN (a:=h) (b:=v2) hpW
        have m2:=ZpR r hr.out
        have m3:r * W32 + u3 < W64:=by
         have:(r + 1) * W32≤W32 * W32:=Nat.mul_le_mul_right _ hr.out
         rw [Nat.add_mul,Zed] at this; have:=hu3.out; omega
        have m4:=Zea (a:=r * W32) (b:=u3) (by omega) (by omega)
        rw [or32 r u3 hu3.out] at m4
        have i1:IntKind.i64.wrap ((kk:Int) + 2 - 2)=(kk:Int):=by rw [show (kk:Int) + 2 - 2=(kk:Int) by omega]; exact IntWalk.i64_in _ (by omega)
        have i3:IntKind.i64.wrap ((j:Int) + ((kk:Int) + 2))=(j:Int) + ((kk:Int) + 2):=IntWalk.i64_in _ (by omega)
        have i4:IntKind.i64.wrap ((j:Int) + ((kk:Int) + 2) - 2)=(j:Int) + (kk:Int):=by rw [show (j:Int) + ((kk:Int) + 2) - 2=(j:Int) + (kk:Int) by omega]; exact IntWalk.i64_in _ (by omega)
        have i5:((j:Int) + (kk:Int)).toNat=j + kk:=by omega
        have hjk:(j:Int) + (kk:Int) < (xs.length:Int) + 1:=by omega
        have hC0:=hC
        have hm0:∀ a b:Nat,h * v2=a→r * W32 + u3=b→Hid ((b < a→0 < h∧ZbZ U V top v1 (h - 1) (r + v1))∧(¬ b < a→Zc4 U V h)):=by
         intro a b ea eb
         refine ⟨fun hlt=>hC0.out.more HLd.out (by omega),fun hge=>hC0.out.done HLd.out hhB.out (by omega)⟩
        obtain ⟨p,ep⟩:∃ p,h * v2=p:=⟨_,rfl⟩
        rw [ep] at m1
        obtain ⟨a1,ea1⟩:∃ a1,r * W32=a1:=⟨_,rfl⟩
        rw [ea1] at m2 m4
        obtain ⟨q,eq⟩:∃ q,a1 + u3=q:=⟨_,rfl⟩
        rw [eq] at m4
        have HM:=hm0 p q ep (by omega)
        rw [er'] at HM
        clear hm0 hC0 hC ep ea1 eq hpW m3 hbig
        by_cases hmore:q < p
        ·obtain ⟨hp,hC2⟩:=HM.out.1 hmore
         have t2:=Zdu hmore
         have a2:=Zcn hp hhW.out
         obtain ⟨h1,eh1⟩:∃ h1,h - 1=h1:=⟨_,rfl⟩
         rw [eh1] at a2 hC2
         have HC2:=zh hC2
         have hlt1:h1 < h:=by omega
         have hh1:Hid (h1 < W64):=by have:=hhW.out; unfold Hid; omega
         clear hC2 er' eh1 hp hr hhW HM hmore
         by_cases hb2:W32≤r'
         ·have g2:decide ((4294967296:Int)≤(r':Int))=true:=by rw [decide_eq_true_eq]; have:=Zaq; omega
          have g2':decide (4294967296≤r')=true:=by rw [decide_eq_true_eq]; have:=Zaq; omega
          have HB:=zh (HC2.out.broke HLd.out hb2)
          clear hb2 HC2
          go_wp2
          go_quiet (fail)
          go_wp2
          go_meet
          exact ⟨h1,_,rfl,HB.out.1,HB.out.2,rfl⟩
         ·have g2:decide ((4294967296:Int)≤(r':Int))=false:=by rw [decide_eq_false_iff_not]; have:=Zaq; omega
          have g2':decide (4294967296≤r')=false:=by rw [decide_eq_false_iff_not]; have:=Zaq; omega
          have hr2:Hid (r' < W32):=by unfold Hid; omega
          clear hb2
          go_wp2
          go_quiet (fail)
          go_wp2
          go_roundw
          case rel=>exact ⟨h1,r',_,rfl,rfl,HC2,hr2,hh1,rfl⟩
          case measure=>simp [intOf]; omega
        ·have HD:=zh (HM.out.2 hmore)
         have t2:=ZcV hmore
         clear HM hmore er'
         go_wp2
         go_quiet (fail)
         go_wp2
         go_meet
         exact ⟨h,_,rfl,hhB,HD,World.drewN_drewN _ _ _⟩
     case rest =>
      obtain ⟨h,n2,rfl,hhB,hDg,hw⟩:=hcut
      obtain rfl:=hw.out
      clear hw HCS hh0 hr0 c3 d1 d2 w3 w4 w5 hv1b
      have hrl':=hrl.out
      have hlp:Hid ((rs.take j).length=j):=by unfold Hid; simp; omega
      have hw0l:Hid (((rs.drop j).take (kk + 2)).length=kk + 2):=by unfold Hid; simp; omega
      have HO3:Hid (Own .u32 102 (wo.drewN n2) R (rs.take j ++ (rs.drop j).take (kk + 2) ++ rs.drop (j + (kk + 2)))):=by rw [ZqI]; exact hO1.out.drewN _
      have HMS:Hid (Zgm ((rs.drop j).take (kk + 2)) vs h 0 ((rs.drop j).take (kk + 2)) 0 0):=Zgm.start ((hR.out.1.drop j).take _)
      obtain ⟨w0,ew0⟩:∃ w0,(rs.drop j).take (kk + 2)=w0:=⟨_,rfl⟩
      have HW0:=zh ew0
      rw [ew0] at hw0l HO3 HMS
      clear hrl' ew0
      go_wp2_with fail
      go_loopw [18,19,20] (fun cv bv iv wx=>∃ (i cc bw:Nat) (m:List Nat),i≤kk + 2∧iv=.int .i64 (i:Int)∧cv=.int .u64 (cc:Int)∧bv=.int .u64 (bw:Int)∧Hid (Zgm w0 vs h i m cc bw)∧Hid (Own .u32 102 wx R (rs.take j ++ m ++ rs.drop (j + (kk + 2))))∧Hid (Fr (· = R) wo wx)) (fun _ _ iv _=>kk + 2 - (intOf iv).toNat)
      case atStart=>exact ⟨0,0,0,w0,by omega,rfl,rfl,rfl,HMS,HO3,(Fr.refl _ _).drewN _⟩
      case round =>
       obtain ⟨i,cc,bw,m,hi,rfl,rfl,rfl,hM,hO3,hF3⟩:=hrel
       clear HMS HO3
       by_cases hlt2:i < kk + 2
       ·have hml:m.length=kk + 2:=by rw [hM.out.1]; exact hw0l.out
        obtain ⟨x,ex⟩:∃ x,vs[i]?.getD 0=x:=⟨_,rfl⟩
        obtain ⟨z,ez⟩:∃ z,m[i]?.getD 0=z:=⟨_,rfl⟩
        have hx32:x < W32:=ex ▸ Hdv.out.getD Zau _
        have hz32:z < W32:=ez ▸ hM.out.2.1.getD Zau _
        have hcc:=hM.out.2.2.1
        have hbw:=hM.out.2.2.2.1
        have HSVx:Zae .u32 wr (some ⟨Vb,0,none⟩) vs:=(HSV.out.ext hF1.out).fr hF3.out (fun a ha _=>by injection ha with ha; subst ha; have:=hAR.out; show Vb≠R; omega)
        have dx:=HSVx.cell0 (i:=i) (by rw [Hn1.out]; omega)
        rw [ex,Nat.zero_add] at dx
        have hcz:=hO3.out.mid32 (k:=i) (by omega)
        have hfz:=hO3.out.frozen (i + j)
        rw [hlp.out,ez,Nat.add_comm j i] at hcz
        have HM2:=zh (hM.out.step (by rw [hw0l.out]; omega) (by rw [Hn1.out]; omega) hhB.out ez ex Hdv.out)
        have hpb:=Zne hhB.out hx32 hcc
        rw [Zed] at hpb
        have q0:=ZaS x (by have:=Zam; have:=Zaq; omega)
        have q0':=ZaS z (by have:=Zam; have:=Zaq; omega)
        have q1:=ZcN (a:=h) (b:=x) (by omega)
        have q2:=ZbD (a:=h * x) (b:=cc) hpb
        obtain ⟨hx,ehx⟩:∃ hx,h * x=hx:=⟨_,rfl⟩
        rw [ehx] at q1 q2 HM2 hpb
        obtain ⟨p,ep⟩:∃ p,hx + cc=p:=⟨_,rfl⟩
        rw [ep] at q2 HM2 hpb
        have q3:=hi32 p
        have q4:=Zuh p hpb
        have hpl:p % W32 < W32:=Nat.mod_lt _ Zau
        obtain ⟨pl,epl⟩:∃ pl,p % W32=pl:=⟨_,rfl⟩
        obtain ⟨ph,eph⟩:∃ ph,p / W32=ph:=⟨_,rfl⟩
        rw [eph] at q3 HM2
        rw [epl] at q4 HM2 hpl
        have q5:=Zo0 hz32 hpl
        have q6:=Zo1 hz32 hpl hbw
        have q7:=ZbX (d32 z pl bw)
        have q8:=hi32 (d32 z pl bw)
        have q9:=Zk0 (d32 z pl bw / W32) (Nat.lt_of_le_of_lt (Nat.div_le_self _ _) (ZmY _ _ _))
        have HO4:=zh (hO3.out.set_mid32 (k:=i) (by omega) (d32 z pl bw % W32))
        rw [hlp.out,Nat.add_comm j i] at HO4
        obtain ⟨e1,ee1⟩:∃ a,d32 z pl 0=a:=⟨_,rfl⟩
        obtain ⟨e2,ee2⟩:∃ a,d32 z pl bw=a:=⟨_,rfl⟩
        rw [ee1] at q5 q6
        rw [ee2] at q6 q7 q8 q9 HO4 HM2
        obtain ⟨lo,elo⟩:∃ lo,e2 % W32=lo:=⟨_,rfl⟩
        obtain ⟨hi2,ehi2⟩:∃ hi2,e2 / W32=hi2:=⟨_,rfl⟩
        rw [elo] at q7 HM2 HO4
        rw [ehi2] at q8 q9 HM2
        obtain ⟨bw2,ebw2⟩:∃ bw2,hi2 % 2=bw2:=⟨_,rfl⟩
        rw [ebw2] at q9 HM2
        have hij:(i:Int) + (j:Int) < (xs.length:Int) + 1:=by omega
        have hij2:i + j < xs.length + 1:=by omega
        clear hml ex ez hx32 hz32 hcc hbw HSVx hpb ehx ep hpl epl eph ee1 ee2 elo ehi2 ebw2
        go_wp2
        go_roundw
        case rel=>exact ⟨i + 1,ph,bw2,_,by omega,by go_num,rfl,rfl,HM2,HO4.out,hF3.out.setCell (p:=⟨R,i + j,none⟩) (Or.inl rfl) _⟩
        case measure=>simp [intOf]; omega
       ·obtain rfl:i=kk + 2:=by omega
        have hml:m.length=kk + 2:=by rw [hM.out.1]; exact hw0l.out
        have hrl':=hrl.out
        have hlp':=hlp.out
        have hw0l':=hw0l.out
        have hcc:=hM.out.2.2.1
        have hbw:=hM.out.2.2.2.1
        have hdm:=hM.out.2.1
        have hms:=hM.out.2.2.2.2.2
        rw [List.take_of_length_le (by omega),List.take_of_length_le (by rw [Hn1.out]; omega),List.take_of_length_le (by omega),HV.out] at hms
        have hlen6:j + (kk + 2) < (rs.take j ++ m ++ rs.drop (j + (kk + 2))).length:=by simp; omega
        have hct:=hO3.out.cell hlen6
        have hft:=hO3.out.frozen (j + (kk + 2))
        rw [ZoT _ _ _ _ _ hlp' hml] at hct
        obtain ⟨tw,etw⟩:∃ tw,rs[j + (kk + 2)]?.getD 0=tw:=⟨_,rfl⟩
        rw [etw] at hct
        have htw:tw < W32:=etw ▸ hR.out.1.getD Zau _
        have hu:U=val W32 w0 + W32 ^ (kk + 2) * tw:=by
         obtain ⟨q1,_,_⟩:=hR.out.window hV.out (by omega)
         rw [← HU.out,q1,Zas (kk + 2) (by simp; omega),List.getElem?_drop,etw,HW0.out]
        have hmP:val W32 m < W32 ^ (kk + 2):=by have:=ZaQ hdm; rw [hml] at this; exact this
        have hql:qs.length=xs.length - (kk + 2) + 1:=by have:=hR.out.2.2.1; omega
        have q0:=ZaS tw (by have:=Zam; have:=Zaq; omega)
        have q5:=Zo0 htw hcc
        have q6:=Zo1 htw hcc hbw
        have q7:=ZbX (d32 tw cc bw)
        have q8:=Ztv htw hcc hbw
        have q9:((d32 tw cc bw:Nat):Int) / 9223372036854775808=((d32 tw cc bw / 9223372036854775808:Nat):Int):=by omega
        rw [q8] at q9
        have hhm:h % W32=h:=Nat.mod_eq_of_lt hhB.out
        have q10:=ZbX h
        rw [hhm] at q10
        have hO7:=hO3.out.set (j + (kk + 2)) (d32 tw cc bw % W32) hlen6
        rw [Zk1 _ _ _ _ _ _ hlp' hml (by omega)] at hO7
        have hjq:j < qs.length:=by omega
        obtain ⟨e1,ee1⟩:∃ a,d32 tw cc 0=a:=⟨_,rfl⟩
        obtain ⟨e2,ee2⟩:∃ a,d32 tw cc bw=a:=⟨_,rfl⟩
        by_cases hle:cc + bw≤tw
        ·rw [if_neg (by omega)] at q9
         obtain ⟨k1,k2,k3⟩:=Zki (v:=V) hV.out hu hDg.out hms hle
         have HR2:=zh (hR.out.step (q:=h) hV0.out hV.out (by omega) hml hdm (by rw [HU.out]; exact k1) (by rw [HU.out]; exact k2))
         have k4:=Zsj k3
         rw [k4] at hO7 q7
         rw [ee1] at q5 q6
         rw [ee2] at q6 q7 q9
         have hF7:Fr (· = R) wr (wr.setCell ⟨R,j + (kk + 2),none⟩ (.int .u32 ((0:Nat):Int))):=(Fr.refl (· = R) wr).setCell (p:=⟨R,j + (kk + 2),none⟩) (Or.inl rfl) _
         have hO8:=(hO2.out.fr hF3.out (by have:=hRlt.out; omega)).fr hF7 (by have:=hRlt.out; omega)
         have hcq:=hO8.cell hjq
         have hfq:=hO8.frozen j
         obtain ⟨z0,ez0⟩:∃ z0,qs[j]?.getD 0=z0:=⟨_,rfl⟩
         rw [ez0] at hcq
         have HO9:=zh (hO8.set j h hjq)
         have HO10:=zh (hO7.far (p:=⟨Qb,j,none⟩) (by have:=hRlt.out; show R≠Qb; omega) (.int .u32 (h:Int)))
         have HF10:Hid (Ext wD ((wr.setCell ⟨R,j + (kk + 2),none⟩ (.int .u32 ((0:Nat):Int))).setCell ⟨Qb,j,none⟩ (.int .u32 (h:Int)))):=((hF1.out.next hF3.out (fun i hi e=>by have:=HR.out; omega)).next hF7 (fun i hi e=>by have:=HR.out; omega)).setCell (Or.inr (by have:=HR.out; have:=hRlt.out; show wD.heap.size≤Qb; omega)) _
         have hnl:Hid ((rs.take j ++ m ++ (0 :: rs.drop (j + (kk + 2) + 1))).length=xs.length + 1):=by unfold Hid; simp; omega
         have hjx:(j:Int) + ((kk:Int) + 2) < (xs.length:Int) + 1:=by omega
         clear hml hrl' hlp' hw0l' hcc hbw hdm hms hlen6 etw htw hu hmP q8 hhm hO7 hO8 hF7 ez0 ee1 ee2 hle k1 k2 k3 k4 hO3
         simp only [Int.ofNat_zero] at *
         go_wp2
         go_roundw
         case rel=>exact ⟨j,_,_,by omega,rfl,HR2,hnl,HO10.out,HO9.out,HF10.out⟩
         case measure=>simp [intOf]
        ·rw [if_pos (by omega)] at q9
         have hlt3:Hid (tw < cc + bw):=by unfold Hid; omega
         have hd0:0 < h:=by
          rcases Nat.eq_zero_or_pos h with e | e
          ·subst e
           have:W32 ^ (kk + 2) * 1≤W32 ^ (kk + 2) * (cc + bw):=Nat.mul_le_mul_left _ (by omega)
           omega
          ·exact e
         have g2:=Zcn hd0 (by have:=hhB.out; have:=Zaq; have:=Zam; omega)
         obtain ⟨h1,eh1⟩:∃ h1,h - 1=h1:=⟨_,rfl⟩
         rw [eh1] at g2
         have q11:=ZbX h1
         rw [Nat.mod_eq_of_lt (by have:=hhB.out; omega)] at q11
         rw [ee1] at q5 q6
         rw [ee2] at q6 q7 q9 hO7
         have hodd:Hid (∀ c',c' + tw=cc + bw→c'≤1→(e2 % W32 + c') % W32=0):=fun c' hc1 hc2=>by rw [← ee2]; exact Ztw hc1 hcc hbw hc2 hlt3.out
         have ht2W:Hid (e2 % W32 < W32):=Nat.mod_lt _ Zau
         obtain ⟨t2,et2⟩:∃ t2,e2 % W32=t2:=⟨_,rfl⟩
         rw [et2] at q7 hO7 hodd ht2W
         have hF7:Fr (· = R) wr (wr.setCell ⟨R,j + (kk + 2),none⟩ (.int .u32 (t2:Int))):=(Fr.refl (· = R) wr).setCell (p:=⟨R,j + (kk + 2),none⟩) (Or.inl rfl) _
         have HO7:=zh hO7
         have HO8:=zh ((hO2.out.fr hF3.out (by have:=hRlt.out; omega)).fr hF7 (by have:=hRlt.out; omega))
         have HF8:Hid (Ext wD (wr.setCell ⟨R,j + (kk + 2),none⟩ (.int .u32 (t2:Int)))):=(hF1.out.next hF3.out (fun i hi e=>by have:=HR.out; omega)).next hF7 (fun i hi e=>by have:=HR.out; omega)
         have HSV7:Hid (Zae .u32 (wr.setCell ⟨R,j + (kk + 2),none⟩ (.int .u32 (t2:Int))) (some ⟨Vb,0,none⟩) vs):=((HSV.out.ext hF1.out).fr hF3.out (fun a ha _=>by injection ha with ha; subst ha; have:=hAR.out; show Vb≠R; omega)).fr hF7 (fun a ha _=>by injection ha with ha; subst ha; have:=hAR.out; show Vb≠R; omega)
         have HdM:Hid (Dig W32 m):=hdm
         have Hml:=zh hml
         have Hu:=zh hu
         have Hms:=zh hms
         have HmP:=zh hmP
         have Hh1:=zh eh1
         have Hql:=zh hql
         have hjx:(j:Int) + ((kk:Int) + 2) < (xs.length:Int) + 1:=by omega
         have HAD:Hid (Zgn m vs 0 m 0):=Zgn.start hdm
         clear hml hrl' hlp' hw0l' hcc hbw hdm hms hlen6 etw htw hu hmP q8 hhm hO7 hF7 ee1 ee2 hle hO3 hd0 eh1 et2 hql hM hF3 hlt2 hi
         simp only [Int.ofNat_one] at *
         go_wp2
         generalize hw7:wr.setCell ⟨R,j + (kk + 2),none⟩ (.int .u32 (t2:Int))=w7 at *
         clear hw7 hct hft q0 q5 q6 q7 q9 q10 g2
         obtain ⟨wo7,rfl⟩:∃ wo7:World,wo7=wr:=⟨_,rfl⟩
         go_loopw [18,24] (fun cv iv wr=>∃ (i c':Nat) (m2:List Nat),i≤kk + 2∧iv=.int .i64 (i:Int)∧cv=.int .u64 (c':Int)∧Hid (Zgn m vs i m2 c')∧Hid (Own .u32 102 wr R (rs.take j ++ m2 ++ (t2 :: rs.drop (j + (kk + 2) + 1))))∧Hid (Fr (· = R) w7 wr)) (fun _ iv _=>kk + 2 - (intOf iv).toNat)
         case atStart=>exact ⟨0,0,m,by omega,rfl,rfl,HAD,HO7,Fr.refl _ _⟩
         case round =>
          obtain ⟨i,c',m2,hi,rfl,rfl,hA,hO9,hF9⟩:=hrel
          clear HAD HO7
          by_cases hlt4:i < kk + 2
          ·have hml:m2.length=kk + 2:=by rw [hA.out.1]; exact Hml.out
           obtain ⟨x,ex⟩:∃ x,vs[i]?.getD 0=x:=⟨_,rfl⟩
           obtain ⟨z,ez⟩:∃ z,m2[i]?.getD 0=z:=⟨_,rfl⟩
           have hx32:x < W32:=ex ▸ Hdv.out.getD Zau _
           have hz32:z < W32:=ez ▸ hA.out.2.1.getD Zau _
           have hcc:=hA.out.2.2.1
           have HSVx:Zae .u32 wr (some ⟨Vb,0,none⟩) vs:=HSV7.out.fr hF9.out (fun a ha _=>by injection ha with ha; subst ha; have:=hAR.out; show Vb≠R; omega)
           have dx:=HSVx.cell0 (i:=i) (by rw [Hn1.out]; omega)
           rw [ex,Nat.zero_add] at dx
           have hcz:=hO9.out.mid32 (k:=i) (by omega)
           have hfz:=hO9.out.frozen (i + j)
           rw [hlp.out,ez,Nat.add_comm j i] at hcz
           have HA2:=zh (hA.out.step (by rw [Hml.out]; omega) (by rw [Hn1.out]; omega) ez ex Hdv.out)
           have q0:=ZaS x (by have:=Zam; have:=Zaq; omega)
           have q0':=ZaS z (by have:=Zam; have:=Zaq; omega)
           have q1:=ZbD (a:=z) (b:=x) (by have:=Zam; have:=Zaq; omega)
           have q2:=ZbD (a:=c') (b:=z + x) (by have:=Zam; have:=Zaq; omega)
           obtain ⟨zx,ezx⟩:∃ zx,z + x=zx:=⟨_,rfl⟩
           rw [ezx] at q1 q2 HA2
           obtain ⟨p,ep⟩:∃ p,c' + zx=p:=⟨_,rfl⟩
           rw [ep] at q2 HA2
           have q3:=hi32 p
           have q4:=ZbX p
           have HO4:=zh (hO9.out.set_mid32 (k:=i) (by omega) (p % W32))
           rw [hlp.out,Nat.add_comm j i] at HO4
           obtain ⟨lo,elo⟩:∃ lo,p % W32=lo:=⟨_,rfl⟩
           obtain ⟨ph,eph⟩:∃ ph,p / W32=ph:=⟨_,rfl⟩
           rw [elo] at q4 HA2 HO4
           rw [eph] at q3 HA2
           have hij:(i:Int) + (j:Int) < (xs.length:Int) + 1:=by omega
           have i1:IntKind.i64.wrap ((i:Int) + (j:Int))=(i:Int) + (j:Int):=IntWalk.i64_in _ (by omega)
           have i2:((i:Int) + (j:Int)).toNat=i + j:=by omega
           clear hml ex ez hx32 hz32 hcc HSVx ezx ep elo eph
           go_wp2
           go_quiet (fail)
           clear i1 i2
           go_wp2
           go_roundw
           case rel=>exact ⟨i + 1,ph,_,by omega,by go_num,rfl,HA2,HO4.out,(hF9.out.drewN _).setCell (p:=⟨R,i + j,none⟩) (Or.inl rfl) _⟩
           case measure=>simp [intOf]; omega
          ·obtain rfl:i=kk + 2:=by omega
           have hml:m2.length=kk + 2:=by rw [hA.out.1]; exact Hml.out
           have hsum:=hA.out.2.2.2.2
           rw [List.take_of_length_le (by omega),List.take_of_length_le (by rw [Hml.out]; omega),List.take_of_length_le (by rw [Hn1.out]; omega),HV.out] at hsum
           obtain ⟨_,k2,k3,k4⟩:=ZlE hV0.out hV.out Hu.out hDg.out Hms.out hlt3.out HmP.out hsum (by have:=ZaQ hA.out.2.1; rw [hml] at this; exact this)
           have hodd2:=hodd.out c' k4 hA.out.2.2.1
           have ht2:=ht2W.out
           have hc1:=hA.out.2.2.1
           have g5:=ZbX c'
           rw [Nat.mod_eq_of_lt (by have:=ZkY; omega)] at g5
           have g3:IntKind.u32.wrap ((t2:Int) + (c':Int))=0:=by
            rw [IntKind.wrap_u32]; rw [Zaq] at hodd2; omega
           have g3':((t2:Int) + (c':Int)) % 4294967296=0:=by rw [Zaq] at hodd2; omega
           rw [Hh1.out] at k2
           have hrl':=hrl.out
           have hql':=Hql.out
           have hlen2:j + (kk + 2) < (rs.take j ++ m2 ++ (t2 :: rs.drop (j + (kk + 2) + 1))).length:=by simp; omega
           have hct:=hO9.out.cell hlen2
           have hft:=hO9.out.frozen (j + (kk + 2))
           rw [Zm1 _ _ _ _ _ _ hlp.out hml] at hct
           have hO13:=hO9.out.set (j + (kk + 2)) 0 hlen2
           rw [Zm0 _ _ _ _ _ _ _ hlp.out hml] at hO13
           have hF13:Fr (· = R) w7 (wr.setCell ⟨R,j + (kk + 2),none⟩ (.int .u32 ((0:Nat):Int))):=hF9.out.setCell (p:=⟨R,j + (kk + 2),none⟩) (Or.inl rfl) _
           have hO14:=HO8.out.fr hF13 (by have:=hRlt.out; omega)
           have hjq:j < qs.length:=by omega
           have hcq:=hO14.cell hjq
           have hfq:=hO14.frozen j
           obtain ⟨z0,ez0⟩:∃ z0,qs[j]?.getD 0=z0:=⟨_,rfl⟩
           rw [ez0] at hcq
           have HR2:=zh (hR.out.step (q:=h1) hV0.out hV.out (by omega) hml hA.out.2.1 (by rw [HU.out]; exact k2) (by rw [HU.out]; exact k3))
           have HO15:=zh (hO14.set j h1 hjq)
           have HO16:=zh (hO13.far (p:=⟨Qb,j,none⟩) (by have:=hRlt.out; show R≠Qb; omega) (.int .u32 (h1:Int)))
           have HF16:Hid (Ext wD ((wr.setCell ⟨R,j + (kk + 2),none⟩ (.int .u32 ((0:Nat):Int))).setCell ⟨Qb,j,none⟩ (.int .u32 (h1:Int)))):=(HF8.out.next hF13 (fun i hi e=>by have:=HR.out; omega)).setCell (Or.inr (by have:=HR.out; have:=hRlt.out; show wD.heap.size≤Qb; omega)) _
           have hnl:Hid ((rs.take j ++ m2 ++ (0 :: rs.drop (j + (kk + 2) + 1))).length=xs.length + 1):=by unfold Hid; simp; omega
           clear hsum k2 k3 k4 hrl' hql' hlen2 hO13 hF13 hO14 ez0 hml hodd2 ht2 hc1
           simp only [Int.ofNat_zero] at *
           go_wp2
           go_roundw
           case rel=>exact ⟨j,_,_,by omega,rfl,HR2,hnl,HO16.out,HO15.out,HF16.out⟩
           case measure=>simp [intOf]
    ·obtain rfl:k=0:=by omega
     obtain ⟨k1,k2⟩:=hR.out.done
     have hrl':=hrl.out
     have hql:qs.length=xs.length - (kk + 2) + 1:=by have:=hR.out.2.2.1; omega
     have hsh:=ZhK (val W32 xs) (val W32 ys) (2 ^ s) (Nat.pow_pos (by omega))
     have NQ:=Zar.of_own (c:=xs.length - (kk + 2) + 1) hO2.out hR.out.2.1 (by omega)
     rw [k1,← HXX.out,← HV.out,Hvv.out,hsh.1] at NQ
     rw [← HXX.out,← HV.out,Hvv.out] at k2
     have hrlt:val W32 rs < W32 ^ (kk + 2):=by
      have h1:=hR.out.2.2.2.2
      rw [List.drop_zero] at h1
      have:=hV.out
      omega
     have hrt:val W32 (rs.take (kk + 2))=val W32 rs:=by
      have h1:=ZaK (B:=W32) (xs:=rs) (kk + 2)
      rw [Nat.min_eq_left (by omega)] at h1
      rcases Nat.eq_zero_or_pos (val W32 (rs.drop (kk + 2))) with h | h
      ·rw [h] at h1; simp at h1; omega
      ·have:W32 ^ (kk + 2) * 1≤W32 ^ (kk + 2) * val W32 (rs.drop (kk + 2)):=Nat.mul_le_mul_left _ h
       omega
     have htl:(rs.take (kk + 2)).length=kk + 2:=by simp; omega
     have hvt:val W32 (ZaT (rs.take (kk + 2)))=val W32 xs * 2 ^ s % (val W32 ys * 2 ^ s):=by rw [Za8,hrt,k2]
     have htt:ZaT (rs.take (kk + 2))=rs.take (ZaT (rs.take (kk + 2))).length:=by
      have h1:=ZaX (rs.take (kk + 2))
      have h2:=Zcz (rs.take (kk + 2)) (rs.take (kk + 2)).length
      rw [h1]
      unfold ZaT
      rw [List.take_take,Nat.min_eq_left (by omega)]
     have hdt:Dig W32 (ZaT (rs.take (kk + 2))):=Zcb (hR.out.1.take _)
     have htle:(ZaT (rs.take (kk + 2))).length≤kk + 2:=by rw [ZaX]; have:=Zcz (rs.take (kk + 2)) (rs.take (kk + 2)).length; omega
     have HT0:=zh (Zbs (some ⟨R,0,none⟩) (rs.take (kk + 2)) (kk + 2) (xs.length + 1) wr htl (hO1.out.shows0.take _) (by omega) (by omega))
     rw [← ZaX] at HT0
     have HTQ:=zh (fun wz (hO:Own .u32 102 wz Qb qs)=>Zbs (some ⟨Qb,0,none⟩) qs (xs.length - (kk + 2) + 1) (xs.length - (kk + 2) + 1) wz hql hO.shows0 (by omega) (by omega))
     obtain ⟨ts,ets⟩:∃ ts,ZaT (rs.take (kk + 2))=ts:=⟨_,rfl⟩
     rw [ets] at HT0 hvt htt hdt htle
     obtain ⟨l,el⟩:∃ l,ts.length=l:=⟨_,rfl⟩
     rw [el] at HT0 htt htle
     have Hel:=zh el
     have Htt:=zh htt
     have Hdt:=zh hdt
     have Hvt:=zh hvt
     have Hql:=zh hql
     have Hsh:=zh hsh.2
     have HdQ:Hid (Dig W32 qs):=hR.out.2.1
     have HvQ:Hid (val W32 qs=val W32 xs / val W32 ys):=by unfold Hid; rw [k1,← HXX.out,← HV.out,Hvv.out,hsh.1]
     have hO1':Hid (Own .u32 102 wr R ((List.replicate ts.length 0).take 0 ++ ts.drop 0 ++ rs.drop l)):=by
      unfold Hid
      rw [List.take_zero,List.nil_append,List.drop_zero,htt,List.take_append_drop]
      exact hO1.out
     have hnl:Hid (rs.length=xs.length + 1):=hrl
     have HShr:Hid (Zcx ts s 0 (List.replicate ts.length 0)):=Zcx.start ts s
     have HRlt2:Hid (wD.heap.size≤R):=by have:=HR.out; unfold Hid; omega
     clear k1 k2 hrl' hql hsh NQ hrlt hrt htl hvt htt hdt ets el
     go_wp2_with fail
     refine HT0.out.mono ?_
     rintro e w' ⟨rfl,rfl⟩
     clear HT0
     go_wp2_with fail
     obtain ⟨wo,rfl⟩:∃ wo:World,wo=wr:=⟨_,rfl⟩
     go_loopw [26] (fun iv wr=>∃ (k:Nat) (zs:List Nat),k≤l∧iv=.int .i64 (k:Int)∧Hid (Zcx ts s k zs)∧Hid (Own .u32 102 wr R (zs.take k ++ ts.drop k ++ rs.drop l))∧Hid (Fr (· = R) wo wr)) (fun iv _=>l - (intOf iv).toNat)
     case atStart=>exact ⟨0,_,by omega,rfl,HShr,hO1',Fr.refl _ _⟩
     case round =>
      obtain ⟨k,zs,hkl,rfl,hS,hO5,hF5⟩:=hrel
      clear HShr hO1'
      have hel:=Hel.out
      have hzl:zs.length=ts.length:=hS.out.1
      by_cases hlt2:k < l
      ·obtain ⟨x,ex⟩:∃ x,ts[k]?.getD 0=x:=⟨_,rfl⟩
       have hx32:x < W32:=ex ▸ Hdt.out.getD Zau _
       have hkL:k < (zs.take k ++ ts.drop k ++ rs.drop l).length:=by simp; omega
       have hc1:=hO5.out.cell hkL
       have hf1:=hO5.out.frozen k
       rw [Zji (Nat.le_refl k) (by omega) hzl,ex] at hc1
       have q3:=ZfS x s
       have hrange:k < xs.length + 1:=by omega
       by_cases hlast:k + 1 < l
       ·obtain ⟨y,ey⟩:∃ y,ts[k + 1]?.getD 0=y:=⟨_,rfl⟩
        have hy32:y < W32:=ey ▸ Hdt.out.getD Zau _
        have HS2:=zh (hS.out.step hs (by omega) ex ey hx32)
        have q1:=ZlN hy32 (by omega:32 - s≤32)
        have q1':=ZbX (y * 2 ^ (32 - s))
        have q2:=Znf (a:=x / 2 ^ s) (b:=y * 2 ^ (32 - s) % W32) (Nat.lt_of_le_of_lt (Nat.div_le_self _ _) hx32) (Nat.mod_lt _ Zau)
        rw [Znd hs hx32] at q2
        obtain ⟨lo,elo⟩:∃ lo,x / 2 ^ s=lo:=⟨_,rfl⟩
        obtain ⟨hi,ehi⟩:∃ hi,y * 2 ^ (32 - s) % W32=hi:=⟨_,rfl⟩
        obtain ⟨yy,eyy⟩:∃ yy,y * 2 ^ (32 - s)=yy:=⟨_,rfl⟩
        obtain ⟨d,ed⟩:∃ d,x / 2 ^ s + y % 2 ^ s * 2 ^ (32 - s)=d:=⟨_,rfl⟩
        rw [ed] at q2 HS2
        rw [elo] at q2 q3
        rw [ehi] at q1' q2
        rw [eyy] at q1 q1'
        have hO6:=hO5.out.set k lo hkL
        have hf3:=hO6.frozen k
        have hc3:=hO6.cell (i:=k) (by simpa using hkL)
        rw [List.getElem?_set_self hkL,Option.getD_some] at hc3
        have hc4:=hO6.cell (i:=k + 1) (by simp; omega)
        rw [List.getElem?_set_ne (by omega),Zji (by omega) (by omega) hzl,ey] at hc4
        have hO7:=hO6.set k d (by simpa using hkL)
        rw [List.set_set,Zjh (by omega) hzl] at hO7
        have HO7:=zh hO7
        have q0:=ZaS y (by have:=Zam; have:=Zaq; omega)
        have i1:IntKind.u64.wrap ((32:Int) - (s:Int))=((32 - s:Nat):Int):=by rw [IntKind.wrap_u64]; omega
        obtain ⟨r,er⟩:∃ r,32 - s=r:=⟨_,rfl⟩
        rw [er] at i1 q1
        have i4:min r 64=r:=by omega
        have i2:IntKind.i64.wrap ((k:Int) + 1)=(k:Int) + 1:=IntWalk.i64_in _ (by omega)
        have i3:((k:Int) + 1).toNat=k + 1:=by omega
        have hF7:Hid (∀ n,Fr (· = R) wo (((wr.setCell ⟨R,k,none⟩ (.int .u32 (lo:Int))).drewN n).setCell ⟨R,k,none⟩ (.int .u32 (d:Int)))):=fun n=>((hF5.out.setCell (p:=⟨R,k,none⟩) (Or.inl rfl) _).drewN _).setCell (p:=⟨R,k,none⟩) (Or.inl rfl) _
        clear ex hx32 hkL ey hy32 elo ehi eyy ed hO6 hO7 er
        have hkI:(k:Int) + 1 < (l:Int):=by omega
        go_wp2
        go_region
        all_goals
         go_wp2
         go_roundw
         case rel=>exact ⟨k + 1,_,by omega,by go_num,HS2,HO7.out.drewN _,hF7.out _⟩
         case measure=>simp [intOf]; omega
       ·have HS2:=zh (hS.out.step hs (by omega) ex (show ts[k + 1]?.getD 0=0 by rw [List.getElem?_eq_none (by omega)]; rfl) hx32)
        have e0:x / 2 ^ s + 0 % 2 ^ s * 2 ^ (32 - s)=x / 2 ^ s:=by simp
        rw [e0] at HS2
        obtain ⟨lo,elo⟩:∃ lo,x / 2 ^ s=lo:=⟨_,rfl⟩
        rw [elo] at HS2 q3
        have hO6:=hO5.out.set k lo hkL
        rw [Zjh (by omega) hzl] at hO6
        have HO6:=zh hO6
        have hF7:Hid (Fr (· = R) wo (wr.setCell ⟨R,k,none⟩ (.int .u32 (lo:Int)))):=hF5.out.setCell (p:=⟨R,k,none⟩) (Or.inl rfl) _
        have hkI:¬ ((k:Int) + 1 < (l:Int)):=by omega
        have hkB:decide ((k:Int) + 1 < (l:Int))=false:=by rw [decide_eq_false_iff_not]; omega
        clear ex hx32 hkL e0 elo hO6
        go_wp2
        go_roundw
        case rel=>exact ⟨k + 1,_,by omega,by go_num,HS2,HO6.out,hF7.out⟩
        case measure=>simp [intOf]; omega
      ·obtain rfl:k=l:=by omega
       have hzv:=hS.out
       rw [← Hel.out] at hzv
       have hzd:=hzv.done
       have hO6:=hO5.out
       rw [List.take_of_length_le (by omega),List.drop_of_length_le (by omega:ts.length≤k),List.append_nil] at hO6
       have hO7:=hO6.front
       have NR:=Zar.of_own (c:=xs.length + 1) hO7 hS.out.2.1 (by omega)
       rw [hzd,Hvt.out,Hsh.out,show zs.length=k by omega] at NR
       have HNR:=zh NR
       have HOQ:=zh (hO2.out.fr hF5.out (by have:=hRlt.out; omega))
       have NQ:=Zar.of_own (c:=xs.length - (kk + 2) + 1) HOQ.out HdQ.out (by have:=Hql.out; omega)
       rw [HvQ.out] at NQ
       have HNQ:=zh NQ
       have HTR:=zh (Zbs (some ⟨R,0,none⟩) zs k (xs.length + 1) wr (by omega) hO7.shows0 (by omega) (by omega))
       have HTQ2:=zh (HTQ.out wr HOQ.out)
       have HFE:Hid (Ext w wr):=(HFD.out.ext hF1.out).next hF5.out (fun i hi e=>by have:=HFD.out.size; have:=HR.out; omega)
       have hkI:¬ ((k:Int) < (k:Int)):=by omega
       clear hzv hzd hO6 hO7 NR NQ
       go_wp2_with fail
       refine HTQ2.out.mono ?_
       rintro e w' ⟨rfl,rfl⟩
       go_wp2_with fail
       refine HTR.out.mono ?_
       rintro e w' ⟨rfl,rfl⟩
       go_wp2
       go_ret2
       exact ⟨_,_,rfl,HNQ.out,HNR.out,HFE.out⟩
theorem Zku (xv yv:Value) (x y:Nat) (w:World) (hX:Zar w xv x) (hY:Zar w yv y) (hx:ml x≤1048576) (hy:ml y≤1048576) (h0:0 < y) :
 Calls Tryz.prog 114 #[xv,yv] w (Zhe w (x / y) (x % y)):=by
 by_cases hlt:x < y
 ·rw [Nat.div_eq_of_lt hlt,Nat.mod_eq_of_lt hlt]
  exact Zrb xv yv x y w hX hY hx hy hlt
 ·have hp:=Zkh h0
  by_cases h1:ml y=1
  ·exact Zp2 xv yv x y w hX hY hx h1 (by omega)
  ·obtain ⟨A,xs,c,rfl,hc,hX,dx,tx,rfl⟩:=hX
   obtain ⟨A2,ys,c2,rfl,hc2,hY,dy,ty,rfl⟩:=hY
   rw [← Zby dx tx] at hx
   rw [← Zby dy ty] at h1 hp
   exact Zor A A2 xs ys c c2 (ys.length - 2) w hX hY hc hc2 hx (by omega) dx dy tx ty (by omega)
end Go.Proofs.YtklpdkpcocnglaaGreatDoor
