/-
 My texts Div64, DivWord, Shift, Num1, Num2, Num3, Est, Knuth, DivS, DvM, Dv1, Dv2, Dv3 put together.
-/
import Derived.Test.YtenchljfmfgeoaaGreatDoorL02
import Derived.Test.YtenchljfmfgeoaaGreatDoorL03
import Derived.Test.YtenchljfmfgeoaaGreatDoorL00
import Derived.Test.YtenchljfmfgeoaaGreatDoorL06
import Derived.Lib.ItoaNum
import Derived.Deep.QuietTactic
import Derived.BigQuiet
import Derived.RegionTactic
import Derived.BigRegion
import Derived.Deep.CutBlock
import Derived.Deep.DeepCutAuto
set_option maxRecDepth 100000
namespace Go.Proofs.YtenchljfmfgeoaaGreatDoor
open Go.RowKit
theorem Zd8 (x:Nat) (w:World) (hx:x < W64):Calls Tryz.prog 194 #[.int .u64 (x:Int)] w fun e w'=>e=.returned (.int .i64 (64 - (Lib.bitLen x:Int)))∧w=w':=by
 rw [Zan] at hx
 refine (Tryz.bits_LeadingZeros64 x w (by omega) (by omega)).mono ?_
 rintro e w' ⟨rfl,rfl⟩
 exact ⟨by simp,rfl⟩
noncomputable def H32:Nat:=Classical.choose (p:=fun n:Nat=>n=4294967296) ⟨_,rfl⟩
theorem ZaL:H32=4294967296:=Classical.choose_spec (p:=fun n:Nat=>n=4294967296) ⟨_,rfl⟩
structure Prep (hi lo y s Y v1 v0 Hs Ls U T u1 u0:Nat):Prop where
 hY:IntKind.u64.wrap ((y:Int) * 2 ^ s)=(Y:Int)
 hv1:(Y:Int) / 4294967296=(v1:Int)
 hv0:bits .and .u64 (Y:Int) 4294967295=(v0:Int)
 hH:IntKind.u64.wrap ((hi:Int) * 2 ^ s)=(Hs:Int)
 hL:(lo:Int) / 2 ^ (64 - s)=(Ls:Int)
 hU:bits .or .u64 (Hs:Int) (Ls:Int)=(U:Int)
 hT:IntKind.u64.wrap ((lo:Int) * 2 ^ s)=(T:Int)
 hu1:(T:Int) / 4294967296=(u1:Int)
 hu0:bits .and .u64 (T:Int) 4294967295=(u0:Int)
theorem Zix (a:Int):∃ n:Nat,IntKind.u64.wrap a=(n:Int)∧(n:Int)=a % 18446744073709551616:=by
 refine ⟨(a % 18446744073709551616).toNat,?_,?_⟩
 ·rw [IntKind.wrap_u64]; omega
 ·omega
theorem un21 {U u Y q R:Nat} (hY':Y≤W64) (hq:q * Y + R=U * 4294967296 + u) (hR:R < Y) :
 ∃ a1 a2 a3:Nat,IntKind.u64.wrap ((U:Int) * 4294967296)=(a1:Int)∧IntKind.u64.wrap ((a1:Int) + (u:Int))=(a2:Int)∧IntKind.u64.wrap ((q:Int) * (Y:Int))=(a3:Int)∧IntKind.u64.wrap ((a2:Int) - (a3:Int))=(R:Int):=by
 have hY:=hY'
 rw [Zan] at hY
 obtain ⟨a1,h1,k1⟩:=Zix ((U:Int) * 4294967296)
 obtain ⟨a2,h2,k2⟩:=Zix ((a1:Int) + (u:Int))
 obtain ⟨a3,h3,k3⟩:=Zix ((q:Int) * (Y:Int))
 obtain ⟨a4,h4,k4⟩:=Zix ((a2:Int) - (a3:Int))
 refine ⟨a1,a2,a3,h1,h2,h3,?_⟩
 rw [h4]
 have hq':((q * Y + R:Nat):Int)=((U * 4294967296 + u:Nat):Int):=by rw [hq]
 rw [Int.natCast_add,Int.natCast_mul,Int.natCast_add,Int.natCast_mul] at hq'
 omega
theorem Zfc {U v1:Nat} (hv1:0 < v1) (hU':U < W64) :
 ∃ qi mi ri:Nat,(U:Int) / (v1:Int)=(qi:Int)∧IntKind.u64.wrap (qi:Int)=(qi:Int)∧IntKind.u64.wrap ((qi:Int) * (v1:Int))=(mi:Int)∧IntKind.u64.wrap ((U:Int) - (mi:Int))=(ri:Int)∧qi * v1 + ri=U∧ri < v1:=by
 have hU:=hU'
 rw [Zan] at hU
 have hd:=Nat.div_add_mod U v1
 have hm:=Nat.mod_lt U hv1
 have hle:U / v1 * v1≤U:=Nat.div_mul_le_self U v1
 rw [Nat.mul_comm] at hd
 refine ⟨U / v1,U / v1 * v1,U % v1,(Int.natCast_ediv _ _).symm,ZbI _ (by rw [Zan]; have:=Nat.div_le_self U v1; omega),?_,?_,hd,hm⟩
 ·rw [← Int.natCast_mul]; exact ZbI _ (by rw [Zan]; omega)
 ·rw [show (U:Int) - ((U / v1 * v1:Nat):Int)=((U % v1:Nat):Int) by omega]
  exact ZbI _ (by rw [Zan]; omega)
theorem Zfd {U v1 v0 u qi ri:Nat} (hv1:0 < v1) (hu:u < H32) (h:qi * v1 + ri=U) (hr:ri < v1):Zcj H32 U v1 v0 u qi ri:=by
 refine ⟨h,?_⟩
 have hp:0 < v1 * H32:=Nat.mul_pos hv1 (by rw [ZaL]; omega)
 rw [← Nat.lt_succ_iff,Nat.div_lt_iff_lt_mul (by omega)]
 have h1:U < (qi + 1) * v1:=by rw [Nat.add_mul]; omega
 have h2:(U + 1) * H32≤(qi + 1) * v1 * H32:=Nat.mul_le_mul_right _ h1
 rw [Nat.succ_eq_add_one,Nat.mul_add,← Nat.mul_assoc]
 rw [Nat.add_mul U] at h2
 omega
theorem Zfe {U v1 v0 u q r:Nat} (hv1:2147483648≤v1) (hU':U < W64) (h:Zcj H32 U v1 v0 u q r):q≤8589934592:=by
 have hU:=hU'
 rw [Zan] at hU
 have h1:=h.1
 have h2:q * 2147483648≤q * v1:=Nat.mul_le_mul_left q hv1
 omega
theorem Zb5 {H U Y u q:Nat} (h:q=(U * H + u) / Y):q * Y + (U * H + u) % Y=U * H + u:=by
 subst h
 rw [Nat.mul_comm]
 exact Nat.div_add_mod _ _
theorem Zb6 {U u Y q:Nat} (hY:0 < Y) (hU:U < Y) (hu:u < H32) (hq:q=(U * H32 + u) / Y):q < H32:=by
 subst hq
 rw [Nat.div_lt_iff_lt_mul hY]
 have:(U + 1) * H32≤Y * H32:=Nat.mul_le_mul_right _ hU
 rw [Nat.add_mul] at this
 rw [Nat.mul_comm H32]
 omega
theorem ZcM {q:Nat} (h0:0 < q) (h:q < W64):IntKind.u64.wrap ((q:Int) - 1)=((q - 1:Nat):Int):=by
 rw [show (q:Int) - 1=((q - 1:Nat):Int) by omega]
 exact ZbI _ (by omega)
theorem ZbZ {a b:Nat} (h:a + b < W64):IntKind.u64.wrap ((a:Int) + (b:Int))=((a + b:Nat):Int):=by
 rw [← Int.natCast_add]
 exact ZbI _ h
theorem Zc6 {a b:Nat} (h:a * b < W64):IntKind.u64.wrap ((a:Int) * (b:Int))=((a * b:Nat):Int):=by
 rw [← Int.natCast_mul]
 exact ZbI _ h
theorem ZkM:H32 * H32=W64:=by rw [ZaL,Zan]
theorem Zdt {q1 q0:Nat} (h1:q1 < H32) (h0:q0 < H32):∃ z1 z2:Nat,IntKind.u64.wrap ((q1:Int) * 4294967296)=(z1:Int)∧IntKind.u64.wrap ((z1:Int) + (q0:Int))=(z2:Int)∧z2=q1 * H32 + q0:=by
 have h:q1 * H32 + q0 < W64:=by
  rw [← ZkM]
  have:(q1 + 1) * H32≤H32 * H32:=Nat.mul_le_mul_right _ h1
  rw [Nat.add_mul] at this
  omega
 refine ⟨q1 * H32,q1 * H32 + q0,?_,ZbZ h,rfl⟩
 rw [show (4294967296:Int)=((H32:Nat):Int) by rw [ZaL]; rfl]
 exact Zc6 (by omega)
theorem ZhB {r u:Nat} (hr:r < H32) (hu:u < H32):∃ m2 m3:Nat,IntKind.u64.wrap (4294967296 * (r:Int))=(m2:Int)∧IntKind.u64.wrap ((m2:Int) + (u:Int))=(m3:Int)∧m3=H32 * r + u:=by
 have h1:H32 * r + u < W64:=by
  rw [← ZkM]
  have:H32 * (r + 1)≤H32 * H32:=Nat.mul_le_mul_left _ hr
  rw [Nat.mul_add] at this
  omega
 refine ⟨H32 * r,H32 * r + u,?_,ZbZ h1,rfl⟩
 rw [show (4294967296:Int)=((H32:Nat):Int) by rw [ZaL]; rfl]
 exact Zc6 (by omega)
theorem Zb7 {q:Nat} (h:H32≤q):decide ((4294967296:Int)≤(q:Int))=true:=by rw [ZaL] at h; rw [decide_eq_true_eq]; omega
theorem ZbT {q:Nat} (h:¬ H32≤q):decide ((4294967296:Int)≤(q:Int))=false:=by rw [ZaL] at h; rw [decide_eq_false_iff_not]; omega
theorem Zdu {a b:Nat} (h:a < b):decide (a < b)=true:=by rw [decide_eq_true_eq]; omega
theorem ZcY {a b:Nat} (h:¬ a < b):decide (a < b)=false:=by rw [decide_eq_false_iff_not]; omega
theorem Zga {q v:Nat} (hq:¬ H32≤q) (hv:v < H32):q * v < W64:=by
 rw [← ZkM]
 have h1:q * v≤q * H32:=Nat.mul_le_mul_left _ (by omega)
 have h2:(q + 1) * H32≤H32 * H32:=Nat.mul_le_mul_right _ (by omega)
 rw [Nat.add_mul] at h2
 have:=ZaL
 omega
set_option maxHeartbeats 4000000 in
theorem Zm8 (hi lo y s Y v1 v0 Hs Ls U T u1 u0 qf rf:Nat) (w:World) (hqf:(U * H32 + u1) / Y * H32 + ((U * H32 + u1) % Y * H32 + u0) / Y=qf) (hrf:((U * H32 + u1) % Y * H32 + u0) % Y / 2 ^ s=rf) (h0:0 < hi) (h1:hi < y) (hy:y < W64) (hs:64 - (Lib.bitLen y:Int)=s) (hs2:s≤63) (P:Prep hi lo y s Y v1 v0 Hs Ls U T u1 u0)
 (hU:U < v1 * H32 + v0) (hYv:v1 * H32 + v0=Y) (b1:2147483648≤v1) (b2:v1 < H32) (b3:v0 < H32) (b4:u1 < H32) (b5:u0 < H32) :
 Calls Tryz.prog 174 #[.int .u64 (hi:Int), .int .u64 (lo:Int), .int .u64 (y:Int)] w fun e w'=>e=.returned (.tuple #[.int .u64 (qf:Int), .int .u64 (rf:Int)])∧w=w':=by
 have HQF:=zh hqf
 have HRF:=zh hrf
 clear hqf hrf
 have he:=ZaL
 have HS:=zh hs
 have HY:=zh hy
 have e1:((hi:Int) == 0)=false:=by simp; omega
 have e2:((y:Int) == 0)=false:=by simp; omega
 have hUY:=zh hU
 have hYV:=zh hYv
 have hUb:U < 18446744073709551616:=by rw [he] at hU b2 b3; omega
 have HUb:Hid (U < W64):=by unfold Hid; rw [Zan]; exact hUb
 have hY64:Hid (Y≤W64):=by unfold Hid; rw [Zan]; rw [he] at hYv b2 b3; omega
 obtain ⟨p1,p2,p3,p4,p5,p6,p7,p8,p9⟩:=P
 have hv1:((v1:Int) == 0)=false:=by simp; omega
 obtain ⟨qi,mi,ri,f1,f2,f3,f4,f5,f6⟩:=Zfc (U:=U) (v1:=v1) (by omega) HUb.out
 have HE:=zh (Zfd (v0:=v0) (u:=u1) (by omega) b4 f5 f6)
 clear hs hy hU hYv f5
 have B1:=zh b1
 have B2:=zh b2
 have B3:=zh b3
 have B4:=zh b4
 have B5:=zh b5
 clear b1 b2 b3 b4 b5 he hUb
 go_enter Tryz.func174,Tryz.ntmps174
 go_wp2_with (go_at_call 194; refine (Zd8 _ _ HY.out).mono ?_; rintro e w' ⟨rfl,rfl⟩; rw [HS.out])
 clear p1 p2 p3 p4 p5 p6 p7 p8 p9 e1 e2
 go_loop [15,16] (fun qv rv=>∃ q r:Nat,qv=.int .u64 q∧rv=.int .u64 r∧Hid (r < H32)∧Hid (Zcj H32 U v1 v0 u1 q r)) (fun qv _=>(intOf qv).toNat)
 case atStart=>exact ⟨_,_,rfl,rfl,by have:=B2.out; unfold Hid; omega,HE⟩
 case round =>
  obtain ⟨q,r,rfl,rfl,hr,Q⟩:=hrel
  clear f1 f2 f3 f4 f6 HE
  have hqW:Hid (q < W64):=by
   have h1:=Zfe B1.out HUb.out Q.out
   unfold Hid; rw [Zan]; omega
  have hrW:Hid (r + v1 < W64):=by
   have h1:=hr.out
   have h2:=B2.out
   unfold Hid; rw [Zan]; rw [ZaL] at h1 h2; omega
  have g2:=ZbZ hrW.out
  obtain ⟨r1,er1⟩:∃ r1,r + v1=r1:=⟨_,rfl⟩
  rw [er1] at g2
  have ER1:=zh er1
  clear er1
  by_cases hbig:H32≤q
  ·have hE2:=zh (Zhz hUY.out B4.out hbig Q.out)
   have t1:=Zb7 hbig
   have g1:=ZcM (q:=q) (by have:=ZaL; omega) hqW.out
   obtain ⟨q1,eq1⟩:∃ q1,q - 1=q1:=⟨_,rfl⟩
   rw [eq1] at g1 hE2
   rw [ER1.out] at hE2
   have hq1:q1 < q:=by have:=ZaL; omega
   by_cases hbr:H32≤r1
   ·have HQ:=zh (Zce hUY.out B3.out hbr hE2.out)
    have t2:=Zb7 hbr
    clear hbr hbig eq1 hq1 hE2 Q
    rw [hYV.out] at HQ
    have hYpos:Hid (0 < Y):=by have:=hYV.out; have:=hUY.out; unfold Hid; omega
    obtain ⟨R1,eR1⟩:∃ R1,(U * H32 + u1) % Y=R1:=⟨_,rfl⟩
    have hR1:Hid (R1 < Y):=by rw [← eR1]; exact Nat.mod_lt _ hYpos.out
    obtain ⟨a1,a2,a3,x1,x2,x3,x4⟩:=un21 hY64.out (by rw [← ZaL]; exact Zb5 HQ.out) (Nat.mod_lt _ hYpos.out)
    rw [eR1] at x4
    have hQ1:Hid (q1 < H32):=Zb6 hYpos.out (by have:=hUY.out; rw [hYV.out] at this; exact this) B4.out HQ.out
    have HQ1:=HQ
    clear HQ
    have ERR:=zh eR1
    clear eR1
    have hR1W:Hid (R1 < W64):=Nat.lt_of_lt_of_le hR1.out hY64.out
    have hR1Y:Hid (R1 < v1 * H32 + v0):=by rw [hYV.out]; exact hR1.out
    obtain ⟨qi,mi,ri,k1,k2,k3,k4,k5,k6⟩:=Zfc (U:=R1) (v1:=v1) (by have:=B1.out; omega) hR1W.out
    have HE0:=zh (Zfd (v0:=v0) (u:=u0) (by have:=B1.out; omega) B5.out k5 k6)
    clear k5
    go_wp2
    go_loop [16,18] (fun rv qv=>∃ q r:Nat,qv=.int .u64 q∧rv=.int .u64 r∧Hid (r < H32)∧Hid (Zcj H32 R1 v1 v0 u0 q r)) (fun _ qv=>(intOf qv).toNat)
    case atStart=>exact ⟨_,_,rfl,rfl,by have:=B2.out; unfold Hid; omega,HE0⟩
    case round =>
     obtain ⟨q,r,rfl,rfl,hr,Q⟩:=hrel
     clear k1 k2 k3 k4 k6 HE0 x1 x2 x3 x4
     have hqW:Hid (q < W64):=by
      have h1:=Zfe B1.out hR1W.out Q.out
      unfold Hid; rw [Zan]; omega
     have hrW:Hid (r + v1 < W64):=by
      have h1:=hr.out
      have h2:=B2.out
      unfold Hid; rw [Zan]; rw [ZaL] at h1 h2; omega
     have g2:=ZbZ hrW.out
     obtain ⟨r1,er1⟩:∃ r1,r + v1=r1:=⟨_,rfl⟩
     rw [er1] at g2
     have ER1:=zh er1
     clear er1
     by_cases hbig:H32≤q
     ·have hE2:=zh (Zhz hR1Y.out B5.out hbig Q.out)
      have t1:=Zb7 hbig
      have g1:=ZcM (q:=q) (by have:=ZaL; omega) hqW.out
      obtain ⟨q1,eq1⟩:∃ q1,q - 1=q1:=⟨_,rfl⟩
      rw [eq1] at g1 hE2
      rw [ER1.out] at hE2
      have hq1:q1 < q:=by have:=ZaL; omega
      by_cases hbr:H32≤r1
      ·have HQ:=zh (Zce hR1Y.out B3.out hbr hE2.out)
       have t2:=Zb7 hbr
       clear hbr hbig eq1 hq1 hE2 Q
       rw [hYV.out] at HQ
       obtain ⟨a1',a2',a3',y1,y2,y3,y4⟩:=un21 hY64.out (by rw [← ZaL]; exact Zb5 HQ.out) (Nat.mod_lt _ hYpos.out)
       obtain ⟨R0,eR0⟩:∃ R0,(R1 * H32 + u0) % Y=R0:=⟨_,rfl⟩
       rw [eR0] at y4
       obtain ⟨z1,z2,z4,z5,ez⟩:=Zdt hQ1.out (Zb6 hYpos.out hR1.out B5.out HQ.out)
       have y5:(R0:Int) / 2 ^ s=((R0 / 2 ^ s:Nat):Int):=by rw [Int.natCast_ediv,Int.natCast_pow]; rfl
       obtain ⟨rem,erem⟩:∃ rem,R0 / 2 ^ s=rem:=⟨_,rfl⟩
       rw [erem] at y5
       have EZ:=zh ez
       have ER:=zh erem
       have ER0:=zh eR0
       clear eR0 ez erem
       go_wp2
       go_ret2
       have fq:z2=qf:=by rw [EZ.out,← HQF.out,HQ.out,HQ1.out,ERR.out]
       have fr:rem=rf:=by rw [← ER.out,← ER0.out,← HRF.out,ERR.out]
       exact ⟨by rw [← fq,← fr]; rfl,rfl⟩
      ·have t2:=ZbT hbr
       have hR2:Hid (r1 < H32):=by unfold Hid; omega
       clear hbr hbig eq1
       go_wp2
       go_round
       case rel=>exact ⟨q1,r1,rfl,rfl,hR2,hE2⟩
       case measure=>simp [intOf]; omega
     ·have t1:=ZbT hbig
      have g5:=Zc6 (Zga hbig B3.out)
      obtain ⟨m,em⟩:∃ m,q * v0=m:=⟨_,rfl⟩
      rw [em] at g5
      obtain ⟨m2,m3,g6,g7,em3⟩:=ZhB hr.out B5.out
      by_cases hov:m3 < m
      ·have t3:=Zdu hov
       have hE2:=zh (Ze0 (by have:=hR1Y.out; omega) (by rw [em,← em3]; exact hov) Q.out)
       have hq0:0 < q:=by
        rcases Nat.eq_zero_or_pos q with e | e
        ·subst e; simp at em; omega
        ·exact e
       have g1:=ZcM hq0 hqW.out
       obtain ⟨q1,eq1⟩:∃ q1,q - 1=q1:=⟨_,rfl⟩
       rw [eq1] at g1 hE2
       rw [ER1.out] at hE2
       have hq1:q1 < q:=by omega
       by_cases hbr:H32≤r1
       ·have HQ:=zh (Zce hR1Y.out B3.out hbr hE2.out)
        have t2:=Zb7 hbr
        clear hbr hbig eq1 hq1 hE2 Q hov em em3 hq0
        rw [hYV.out] at HQ
        obtain ⟨a1',a2',a3',y1,y2,y3,y4⟩:=un21 hY64.out (by rw [← ZaL]; exact Zb5 HQ.out) (Nat.mod_lt _ hYpos.out)
        obtain ⟨R0,eR0⟩:∃ R0,(R1 * H32 + u0) % Y=R0:=⟨_,rfl⟩
        rw [eR0] at y4
        obtain ⟨z1,z2,z4,z5,ez⟩:=Zdt hQ1.out (Zb6 hYpos.out hR1.out B5.out HQ.out)
        have y5:(R0:Int) / 2 ^ s=((R0 / 2 ^ s:Nat):Int):=by rw [Int.natCast_ediv,Int.natCast_pow]; rfl
        obtain ⟨rem,erem⟩:∃ rem,R0 / 2 ^ s=rem:=⟨_,rfl⟩
        rw [erem] at y5
        have EZ:=zh ez
        have ER:=zh erem
        have ER0:=zh eR0
        clear eR0 ez erem
        go_wp2
        go_ret2
        have fq:z2=qf:=by rw [EZ.out,← HQF.out,HQ.out,HQ1.out,ERR.out]
        have fr:rem=rf:=by rw [← ER.out,← ER0.out,← HRF.out,ERR.out]
        exact ⟨by rw [← fq,← fr]; rfl,rfl⟩
       ·have t2:=ZbT hbr
        have hR2:Hid (r1 < H32):=by unfold Hid; omega
        clear hbr hbig eq1 hov em em3 hq0
        go_wp2
        go_round
        case rel=>exact ⟨q1,r1,rfl,rfl,hR2,hE2⟩
        case measure=>simp [intOf]; omega
      ·have t3:=ZcY hov
       have HQ:=zh (Zd6 (by have:=hR1Y.out; omega) (by rw [em,← em3]; omega) Q.out)
       obtain ⟨q1,rfl⟩:∃ q1,q1=q:=⟨_,rfl⟩
       clear hov em em3 hbig Q
       rw [hYV.out] at HQ
       obtain ⟨a1',a2',a3',y1,y2,y3,y4⟩:=un21 hY64.out (by rw [← ZaL]; exact Zb5 HQ.out) (Nat.mod_lt _ hYpos.out)
       obtain ⟨R0,eR0⟩:∃ R0,(R1 * H32 + u0) % Y=R0:=⟨_,rfl⟩
       rw [eR0] at y4
       obtain ⟨z1,z2,z4,z5,ez⟩:=Zdt hQ1.out (Zb6 hYpos.out hR1.out B5.out HQ.out)
       have y5:(R0:Int) / 2 ^ s=((R0 / 2 ^ s:Nat):Int):=by rw [Int.natCast_ediv,Int.natCast_pow]; rfl
       obtain ⟨rem,erem⟩:∃ rem,R0 / 2 ^ s=rem:=⟨_,rfl⟩
       rw [erem] at y5
       have EZ:=zh ez
       have ER:=zh erem
       have ER0:=zh eR0
       clear eR0 ez erem
       go_wp2
       go_ret2
       have fq:z2=qf:=by rw [EZ.out,← HQF.out,HQ.out,HQ1.out,ERR.out]
       have fr:rem=rf:=by rw [← ER.out,← ER0.out,← HRF.out,ERR.out]
       exact ⟨by rw [← fq,← fr]; rfl,rfl⟩
   ·have t2:=ZbT hbr
    have hR2:Hid (r1 < H32):=by unfold Hid; omega
    clear hbr hbig eq1
    go_wp2
    go_round
    case rel=>exact ⟨q1,r1,rfl,rfl,hR2,hE2⟩
    case measure=>simp [intOf]; omega
  ·have t1:=ZbT hbig
   have g5:=Zc6 (Zga hbig B3.out)
   obtain ⟨m,em⟩:∃ m,q * v0=m:=⟨_,rfl⟩
   rw [em] at g5
   obtain ⟨m2,m3,g6,g7,em3⟩:=ZhB hr.out B4.out
   by_cases hov:m3 < m
   ·have t3:=Zdu hov
    have hE2:=zh (Ze0 (by have:=hUY.out; omega) (by rw [em,← em3]; exact hov) Q.out)
    have hq0:0 < q:=by
     rcases Nat.eq_zero_or_pos q with e | e
     ·subst e; simp at em; omega
     ·exact e
    have g1:=ZcM hq0 hqW.out
    obtain ⟨q1,eq1⟩:∃ q1,q - 1=q1:=⟨_,rfl⟩
    rw [eq1] at g1 hE2
    rw [ER1.out] at hE2
    have hq1:q1 < q:=by omega
    by_cases hbr:H32≤r1
    ·have HQ:=zh (Zce hUY.out B3.out hbr hE2.out)
     have t2:=Zb7 hbr
     clear hbr hbig eq1 hq1 hE2 Q hov em em3 hq0
     rw [hYV.out] at HQ
     have hYpos:Hid (0 < Y):=by have:=hYV.out; have:=hUY.out; unfold Hid; omega
     obtain ⟨R1,eR1⟩:∃ R1,(U * H32 + u1) % Y=R1:=⟨_,rfl⟩
     have hR1:Hid (R1 < Y):=by rw [← eR1]; exact Nat.mod_lt _ hYpos.out
     obtain ⟨a1,a2,a3,x1,x2,x3,x4⟩:=un21 hY64.out (by rw [← ZaL]; exact Zb5 HQ.out) (Nat.mod_lt _ hYpos.out)
     rw [eR1] at x4
     have hQ1:Hid (q1 < H32):=Zb6 hYpos.out (by have:=hUY.out; rw [hYV.out] at this; exact this) B4.out HQ.out
     have HQ1:=HQ
     clear HQ
     have ERR:=zh eR1
     clear eR1
     have hR1W:Hid (R1 < W64):=Nat.lt_of_lt_of_le hR1.out hY64.out
     have hR1Y:Hid (R1 < v1 * H32 + v0):=by rw [hYV.out]; exact hR1.out
     obtain ⟨qi,mi,ri,k1,k2,k3,k4,k5,k6⟩:=Zfc (U:=R1) (v1:=v1) (by have:=B1.out; omega) hR1W.out
     have HE0:=zh (Zfd (v0:=v0) (u:=u0) (by have:=B1.out; omega) B5.out k5 k6)
     clear k5
     go_wp2
     go_loop [16,18] (fun rv qv=>∃ q r:Nat,qv=.int .u64 q∧rv=.int .u64 r∧Hid (r < H32)∧Hid (Zcj H32 R1 v1 v0 u0 q r)) (fun _ qv=>(intOf qv).toNat)
     case atStart=>exact ⟨_,_,rfl,rfl,by have:=B2.out; unfold Hid; omega,HE0⟩
     case round =>
      obtain ⟨q,r,rfl,rfl,hr,Q⟩:=hrel
      clear k1 k2 k3 k4 k6 HE0 x1 x2 x3 x4
      have hqW:Hid (q < W64):=by
       have h1:=Zfe B1.out hR1W.out Q.out
       unfold Hid; rw [Zan]; omega
      have hrW:Hid (r + v1 < W64):=by
       have h1:=hr.out
       have h2:=B2.out
       unfold Hid; rw [Zan]; rw [ZaL] at h1 h2; omega
      have g2:=ZbZ hrW.out
      obtain ⟨r1,er1⟩:∃ r1,r + v1=r1:=⟨_,rfl⟩
      rw [er1] at g2
      have ER1:=zh er1
      clear er1
      by_cases hbig:H32≤q
      ·have hE2:=zh (Zhz hR1Y.out B5.out hbig Q.out)
       have t1:=Zb7 hbig
       have g1:=ZcM (q:=q) (by have:=ZaL; omega) hqW.out
       obtain ⟨q1,eq1⟩:∃ q1,q - 1=q1:=⟨_,rfl⟩
       rw [eq1] at g1 hE2
       rw [ER1.out] at hE2
       have hq1:q1 < q:=by have:=ZaL; omega
       by_cases hbr:H32≤r1
       ·have HQ:=zh (Zce hR1Y.out B3.out hbr hE2.out)
        have t2:=Zb7 hbr
        clear hbr hbig eq1 hq1 hE2 Q
        rw [hYV.out] at HQ
        obtain ⟨a1',a2',a3',y1,y2,y3,y4⟩:=un21 hY64.out (by rw [← ZaL]; exact Zb5 HQ.out) (Nat.mod_lt _ hYpos.out)
        obtain ⟨R0,eR0⟩:∃ R0,(R1 * H32 + u0) % Y=R0:=⟨_,rfl⟩
        rw [eR0] at y4
        obtain ⟨z1,z2,z4,z5,ez⟩:=Zdt hQ1.out (Zb6 hYpos.out hR1.out B5.out HQ.out)
        have y5:(R0:Int) / 2 ^ s=((R0 / 2 ^ s:Nat):Int):=by rw [Int.natCast_ediv,Int.natCast_pow]; rfl
        obtain ⟨rem,erem⟩:∃ rem,R0 / 2 ^ s=rem:=⟨_,rfl⟩
        rw [erem] at y5
        have EZ:=zh ez
        have ER:=zh erem
        have ER0:=zh eR0
        clear eR0 ez erem
        go_wp2
        go_ret2
        have fq:z2=qf:=by rw [EZ.out,← HQF.out,HQ.out,HQ1.out,ERR.out]
        have fr:rem=rf:=by rw [← ER.out,← ER0.out,← HRF.out,ERR.out]
        exact ⟨by rw [← fq,← fr]; rfl,rfl⟩
       ·have t2:=ZbT hbr
        have hR2:Hid (r1 < H32):=by unfold Hid; omega
        clear hbr hbig eq1
        go_wp2
        go_round
        case rel=>exact ⟨q1,r1,rfl,rfl,hR2,hE2⟩
        case measure=>simp [intOf]; omega
      ·have t1:=ZbT hbig
       have g5:=Zc6 (Zga hbig B3.out)
       obtain ⟨m,em⟩:∃ m,q * v0=m:=⟨_,rfl⟩
       rw [em] at g5
       obtain ⟨m2,m3,g6,g7,em3⟩:=ZhB hr.out B5.out
       by_cases hov:m3 < m
       ·have t3:=Zdu hov
        have hE2:=zh (Ze0 (by have:=hR1Y.out; omega) (by rw [em,← em3]; exact hov) Q.out)
        have hq0:0 < q:=by
         rcases Nat.eq_zero_or_pos q with e | e
         ·subst e; simp at em; omega
         ·exact e
        have g1:=ZcM hq0 hqW.out
        obtain ⟨q1,eq1⟩:∃ q1,q - 1=q1:=⟨_,rfl⟩
        rw [eq1] at g1 hE2
        rw [ER1.out] at hE2
        have hq1:q1 < q:=by omega
        by_cases hbr:H32≤r1
        ·have HQ:=zh (Zce hR1Y.out B3.out hbr hE2.out)
         have t2:=Zb7 hbr
         clear hbr hbig eq1 hq1 hE2 Q hov em em3 hq0
         rw [hYV.out] at HQ
         obtain ⟨a1',a2',a3',y1,y2,y3,y4⟩:=un21 hY64.out (by rw [← ZaL]; exact Zb5 HQ.out) (Nat.mod_lt _ hYpos.out)
         obtain ⟨R0,eR0⟩:∃ R0,(R1 * H32 + u0) % Y=R0:=⟨_,rfl⟩
         rw [eR0] at y4
         obtain ⟨z1,z2,z4,z5,ez⟩:=Zdt hQ1.out (Zb6 hYpos.out hR1.out B5.out HQ.out)
         have y5:(R0:Int) / 2 ^ s=((R0 / 2 ^ s:Nat):Int):=by rw [Int.natCast_ediv,Int.natCast_pow]; rfl
         obtain ⟨rem,erem⟩:∃ rem,R0 / 2 ^ s=rem:=⟨_,rfl⟩
         rw [erem] at y5
         have EZ:=zh ez
         have ER:=zh erem
         have ER0:=zh eR0
         clear eR0 ez erem
         go_wp2
         go_ret2
         have fq:z2=qf:=by rw [EZ.out,← HQF.out,HQ.out,HQ1.out,ERR.out]
         have fr:rem=rf:=by rw [← ER.out,← ER0.out,← HRF.out,ERR.out]
         exact ⟨by rw [← fq,← fr]; rfl,rfl⟩
        ·have t2:=ZbT hbr
         have hR2:Hid (r1 < H32):=by unfold Hid; omega
         clear hbr hbig eq1 hov em em3 hq0
         go_wp2
         go_round
         case rel=>exact ⟨q1,r1,rfl,rfl,hR2,hE2⟩
         case measure=>simp [intOf]; omega
       ·have t3:=ZcY hov
        have HQ:=zh (Zd6 (by have:=hR1Y.out; omega) (by rw [em,← em3]; omega) Q.out)
        obtain ⟨q1,rfl⟩:∃ q1,q1=q:=⟨_,rfl⟩
        clear hov em em3 hbig Q
        rw [hYV.out] at HQ
        obtain ⟨a1',a2',a3',y1,y2,y3,y4⟩:=un21 hY64.out (by rw [← ZaL]; exact Zb5 HQ.out) (Nat.mod_lt _ hYpos.out)
        obtain ⟨R0,eR0⟩:∃ R0,(R1 * H32 + u0) % Y=R0:=⟨_,rfl⟩
        rw [eR0] at y4
        obtain ⟨z1,z2,z4,z5,ez⟩:=Zdt hQ1.out (Zb6 hYpos.out hR1.out B5.out HQ.out)
        have y5:(R0:Int) / 2 ^ s=((R0 / 2 ^ s:Nat):Int):=by rw [Int.natCast_ediv,Int.natCast_pow]; rfl
        obtain ⟨rem,erem⟩:∃ rem,R0 / 2 ^ s=rem:=⟨_,rfl⟩
        rw [erem] at y5
        have EZ:=zh ez
        have ER:=zh erem
        have ER0:=zh eR0
        clear eR0 ez erem
        go_wp2
        go_ret2
        have fq:z2=qf:=by rw [EZ.out,← HQF.out,HQ.out,HQ1.out,ERR.out]
        have fr:rem=rf:=by rw [← ER.out,← ER0.out,← HRF.out,ERR.out]
        exact ⟨by rw [← fq,← fr]; rfl,rfl⟩
    ·have t2:=ZbT hbr
     have hR2:Hid (r1 < H32):=by unfold Hid; omega
     clear hbr hbig eq1 hov em em3 hq0
     go_wp2
     go_round
     case rel=>exact ⟨q1,r1,rfl,rfl,hR2,hE2⟩
     case measure=>simp [intOf]; omega
   ·have t3:=ZcY hov
    have HQ:=zh (Zd6 (by have:=hUY.out; omega) (by rw [em,← em3]; omega) Q.out)
    obtain ⟨q1,rfl⟩:∃ q1,q1=q:=⟨_,rfl⟩
    clear hov em em3 hbig Q
    rw [hYV.out] at HQ
    have hYpos:Hid (0 < Y):=by have:=hYV.out; have:=hUY.out; unfold Hid; omega
    obtain ⟨R1,eR1⟩:∃ R1,(U * H32 + u1) % Y=R1:=⟨_,rfl⟩
    have hR1:Hid (R1 < Y):=by rw [← eR1]; exact Nat.mod_lt _ hYpos.out
    obtain ⟨a1,a2,a3,x1,x2,x3,x4⟩:=un21 hY64.out (by rw [← ZaL]; exact Zb5 HQ.out) (Nat.mod_lt _ hYpos.out)
    rw [eR1] at x4
    have hQ1:Hid (q1 < H32):=Zb6 hYpos.out (by have:=hUY.out; rw [hYV.out] at this; exact this) B4.out HQ.out
    have HQ1:=HQ
    clear HQ
    have ERR:=zh eR1
    clear eR1
    have hR1W:Hid (R1 < W64):=Nat.lt_of_lt_of_le hR1.out hY64.out
    have hR1Y:Hid (R1 < v1 * H32 + v0):=by rw [hYV.out]; exact hR1.out
    obtain ⟨qi,mi,ri,k1,k2,k3,k4,k5,k6⟩:=Zfc (U:=R1) (v1:=v1) (by have:=B1.out; omega) hR1W.out
    have HE0:=zh (Zfd (v0:=v0) (u:=u0) (by have:=B1.out; omega) B5.out k5 k6)
    clear k5
    go_wp2
    go_loop [16,18] (fun rv qv=>∃ q r:Nat,qv=.int .u64 q∧rv=.int .u64 r∧Hid (r < H32)∧Hid (Zcj H32 R1 v1 v0 u0 q r)) (fun _ qv=>(intOf qv).toNat)
    case atStart=>exact ⟨_,_,rfl,rfl,by have:=B2.out; unfold Hid; omega,HE0⟩
    case round =>
     obtain ⟨q,r,rfl,rfl,hr,Q⟩:=hrel
     clear k1 k2 k3 k4 k6 HE0 x1 x2 x3 x4
     have hqW:Hid (q < W64):=by
      have h1:=Zfe B1.out hR1W.out Q.out
      unfold Hid; rw [Zan]; omega
     have hrW:Hid (r + v1 < W64):=by
      have h1:=hr.out
      have h2:=B2.out
      unfold Hid; rw [Zan]; rw [ZaL] at h1 h2; omega
     have g2:=ZbZ hrW.out
     obtain ⟨r1,er1⟩:∃ r1,r + v1=r1:=⟨_,rfl⟩
     rw [er1] at g2
     have ER1:=zh er1
     clear er1
     by_cases hbig:H32≤q
     ·have hE2:=zh (Zhz hR1Y.out B5.out hbig Q.out)
      have t1:=Zb7 hbig
      have g1:=ZcM (q:=q) (by have:=ZaL; omega) hqW.out
      obtain ⟨q1,eq1⟩:∃ q1,q - 1=q1:=⟨_,rfl⟩
      rw [eq1] at g1 hE2
      rw [ER1.out] at hE2
      have hq1:q1 < q:=by have:=ZaL; omega
      by_cases hbr:H32≤r1
      ·have HQ:=zh (Zce hR1Y.out B3.out hbr hE2.out)
       have t2:=Zb7 hbr
       clear hbr hbig eq1 hq1 hE2 Q
       rw [hYV.out] at HQ
       obtain ⟨a1',a2',a3',y1,y2,y3,y4⟩:=un21 hY64.out (by rw [← ZaL]; exact Zb5 HQ.out) (Nat.mod_lt _ hYpos.out)
       obtain ⟨R0,eR0⟩:∃ R0,(R1 * H32 + u0) % Y=R0:=⟨_,rfl⟩
       rw [eR0] at y4
       obtain ⟨z1,z2,z4,z5,ez⟩:=Zdt hQ1.out (Zb6 hYpos.out hR1.out B5.out HQ.out)
       have y5:(R0:Int) / 2 ^ s=((R0 / 2 ^ s:Nat):Int):=by rw [Int.natCast_ediv,Int.natCast_pow]; rfl
       obtain ⟨rem,erem⟩:∃ rem,R0 / 2 ^ s=rem:=⟨_,rfl⟩
       rw [erem] at y5
       have EZ:=zh ez
       have ER:=zh erem
       have ER0:=zh eR0
       clear eR0 ez erem
       go_wp2
       go_ret2
       have fq:z2=qf:=by rw [EZ.out,← HQF.out,HQ.out,HQ1.out,ERR.out]
       have fr:rem=rf:=by rw [← ER.out,← ER0.out,← HRF.out,ERR.out]
       exact ⟨by rw [← fq,← fr]; rfl,rfl⟩
      ·have t2:=ZbT hbr
       have hR2:Hid (r1 < H32):=by unfold Hid; omega
       clear hbr hbig eq1
       go_wp2
       go_round
       case rel=>exact ⟨q1,r1,rfl,rfl,hR2,hE2⟩
       case measure=>simp [intOf]; omega
     ·have t1:=ZbT hbig
      have g5:=Zc6 (Zga hbig B3.out)
      obtain ⟨m,em⟩:∃ m,q * v0=m:=⟨_,rfl⟩
      rw [em] at g5
      obtain ⟨m2,m3,g6,g7,em3⟩:=ZhB hr.out B5.out
      by_cases hov:m3 < m
      ·have t3:=Zdu hov
       have hE2:=zh (Ze0 (by have:=hR1Y.out; omega) (by rw [em,← em3]; exact hov) Q.out)
       have hq0:0 < q:=by
        rcases Nat.eq_zero_or_pos q with e | e
        ·subst e; simp at em; omega
        ·exact e
       have g1:=ZcM hq0 hqW.out
       obtain ⟨q1,eq1⟩:∃ q1,q - 1=q1:=⟨_,rfl⟩
       rw [eq1] at g1 hE2
       rw [ER1.out] at hE2
       have hq1:q1 < q:=by omega
       by_cases hbr:H32≤r1
       ·have HQ:=zh (Zce hR1Y.out B3.out hbr hE2.out)
        have t2:=Zb7 hbr
        clear hbr hbig eq1 hq1 hE2 Q hov em em3 hq0
        rw [hYV.out] at HQ
        obtain ⟨a1',a2',a3',y1,y2,y3,y4⟩:=un21 hY64.out (by rw [← ZaL]; exact Zb5 HQ.out) (Nat.mod_lt _ hYpos.out)
        obtain ⟨R0,eR0⟩:∃ R0,(R1 * H32 + u0) % Y=R0:=⟨_,rfl⟩
        rw [eR0] at y4
        obtain ⟨z1,z2,z4,z5,ez⟩:=Zdt hQ1.out (Zb6 hYpos.out hR1.out B5.out HQ.out)
        have y5:(R0:Int) / 2 ^ s=((R0 / 2 ^ s:Nat):Int):=by rw [Int.natCast_ediv,Int.natCast_pow]; rfl
        obtain ⟨rem,erem⟩:∃ rem,R0 / 2 ^ s=rem:=⟨_,rfl⟩
        rw [erem] at y5
        have EZ:=zh ez
        have ER:=zh erem
        have ER0:=zh eR0
        clear eR0 ez erem
        go_wp2
        go_ret2
        have fq:z2=qf:=by rw [EZ.out,← HQF.out,HQ.out,HQ1.out,ERR.out]
        have fr:rem=rf:=by rw [← ER.out,← ER0.out,← HRF.out,ERR.out]
        exact ⟨by rw [← fq,← fr]; rfl,rfl⟩
       ·have t2:=ZbT hbr
        have hR2:Hid (r1 < H32):=by unfold Hid; omega
        clear hbr hbig eq1 hov em em3 hq0
        go_wp2
        go_round
        case rel=>exact ⟨q1,r1,rfl,rfl,hR2,hE2⟩
        case measure=>simp [intOf]; omega
      ·have t3:=ZcY hov
       have HQ:=zh (Zd6 (by have:=hR1Y.out; omega) (by rw [em,← em3]; omega) Q.out)
       obtain ⟨q1,rfl⟩:∃ q1,q1=q:=⟨_,rfl⟩
       clear hov em em3 hbig Q
       rw [hYV.out] at HQ
       obtain ⟨a1',a2',a3',y1,y2,y3,y4⟩:=un21 hY64.out (by rw [← ZaL]; exact Zb5 HQ.out) (Nat.mod_lt _ hYpos.out)
       obtain ⟨R0,eR0⟩:∃ R0,(R1 * H32 + u0) % Y=R0:=⟨_,rfl⟩
       rw [eR0] at y4
       obtain ⟨z1,z2,z4,z5,ez⟩:=Zdt hQ1.out (Zb6 hYpos.out hR1.out B5.out HQ.out)
       have y5:(R0:Int) / 2 ^ s=((R0 / 2 ^ s:Nat):Int):=by rw [Int.natCast_ediv,Int.natCast_pow]; rfl
       obtain ⟨rem,erem⟩:∃ rem,R0 / 2 ^ s=rem:=⟨_,rfl⟩
       rw [erem] at y5
       have EZ:=zh ez
       have ER:=zh erem
       have ER0:=zh eR0
       clear eR0 ez erem
       go_wp2
       go_ret2
       have fq:z2=qf:=by rw [EZ.out,← HQF.out,HQ.out,HQ1.out,ERR.out]
       have fr:rem=rf:=by rw [← ER.out,← ER0.out,← HRF.out,ERR.out]
       exact ⟨by rw [← fq,← fr]; rfl,rfl⟩
theorem Zc4 {y:Nat} (h0:0 < y) (hy:y < W64):1≤Lib.bitLen y∧Lib.bitLen y≤64∧2 ^ (Lib.bitLen y - 1)≤y∧y < 2 ^ Lib.bitLen y:=by
 rw [Zan] at hy
 have h:=Lib.bitLenAux_bounds 64 y (by omega) (by omega)
 exact ⟨h.1,Lib.bitLen_le y 64 (by omega) (by omega),h.2.1,h.2.2⟩
noncomputable def divQ (hi lo y:Nat):Nat:=(hi * W64 + lo) / y
noncomputable def divR (hi lo y:Nat):Nat:=(hi * W64 + lo) % y
theorem Zgb (hi lo y:Nat):divQ hi lo y * y + divR hi lo y=hi * W64 + lo:=by
 unfold divQ divR; rw [Nat.mul_comm]; exact Nat.div_add_mod _ _
theorem ZfN (hi lo:Nat) {y:Nat} (hy:0 < y):divR hi lo y < y:=Nat.mod_lt _ hy
theorem Zji {hi lo y:Nat} (h:hi < y) (hlo:lo < W64):divQ hi lo y < W64:=by
 unfold divQ
 rw [Nat.div_lt_iff_lt_mul (by omega)]
 have:(hi + 1) * W64≤y * W64:=Nat.mul_le_mul_right _ h
 rw [Nat.add_mul] at this
 rw [Nat.mul_comm W64]
 omega
theorem Zoa (hi lo y:Nat) (w:World) (h0:0 < hi) (h1:hi < y) (hy:y < W64) (hlo:lo < W64) :
 Calls Tryz.prog 174 #[.int .u64 (hi:Int), .int .u64 (lo:Int), .int .u64 (y:Int)] w fun e w'=>e=.returned (.tuple #[.int .u64 (divQ hi lo y:Nat), .int .u64 (divR hi lo y:Nat)])∧w=w':=by
 obtain ⟨l1,l2,l3,l4⟩:=Zc4 (y:=y) (by omega) hy
 obtain ⟨s,hs⟩:∃ s,64 - Lib.bitLen y=s:=⟨_,rfl⟩
 have hp:0 < 2 ^ s:=Nat.pow_pos (by omega)
 have hyY:y * 2 ^ s < W64:=by
  have:y * 2 ^ s < 2 ^ Lib.bitLen y * 2 ^ s:=Nat.mul_lt_mul_of_pos_right l4 hp
  rw [← Nat.pow_add,show Lib.bitLen y + s=64 by omega] at this
  rw [Zan]; exact this
 have hyL:9223372036854775808≤y * 2 ^ s:=by
  have:2 ^ (Lib.bitLen y - 1) * 2 ^ s≤y * 2 ^ s:=Nat.mul_le_mul_right _ l3
  rw [← Nat.pow_add,show Lib.bitLen y - 1 + s=63 by omega] at this
  exact this
 have hH:hi * 2 ^ s < y * 2 ^ s:=Nat.mul_lt_mul_of_pos_right h1 hp
 have hLs:lo / 2 ^ (64 - s) < 2 ^ s:=by
  rw [Nat.div_lt_iff_lt_mul (Nat.pow_pos (by omega)),← Nat.pow_add,show s + (64 - s)=64 by omega]
  rw [Zan] at hlo; exact hlo
 have hor:hi * 2 ^ s ||| lo / 2 ^ (64 - s)=hi * 2 ^ s + lo / 2 ^ (64 - s):=by
  have:=Nat.shiftLeft_add_eq_or_of_lt hLs hi
  rw [Nat.shiftLeft_eq] at this
  exact this.symm
 have hUY:hi * 2 ^ s + lo / 2 ^ (64 - s) < y * 2 ^ s:=by
  have:(hi + 1) * 2 ^ s≤y * 2 ^ s:=Nat.mul_le_mul_right _ h1
  rw [Nat.add_mul] at this
  omega
 have hY2:y * 2 ^ s < 18446744073709551616:=by rw [Zan] at hyY; exact hyY
 have hT:lo * 2 ^ s % 18446744073709551616 < 18446744073709551616:=Nat.mod_lt _ (by omega)
 have hHs:hi * 2 ^ s < 18446744073709551616:=by omega
 have hpow:((2:Int) ^ s)=((2 ^ s:Nat):Int):=by rw [Int.natCast_pow]; rfl
 have hpow2:((2:Int) ^ (64 - s))=((2 ^ (64 - s):Nat):Int):=by rw [Int.natCast_pow]; rfl
 have sp:=ZlR hi lo s (by omega)
 have hv:y * 2 ^ s / 4294967296 * H32 + y * 2 ^ s % 4294967296=y * 2 ^ s:=by rw [ZaL,Nat.mul_comm]; exact Nat.div_add_mod _ _
 have sh:=ZjM (hi * 18446744073709551616 + lo) y (2 ^ s) hp
 have dt:=Zq6 (H:=H32) (Y:=y * 2 ^ s) (U:=hi * 2 ^ s + lo / 2 ^ (64 - s)) (u1:=lo * 2 ^ s % 18446744073709551616 / 4294967296) (u0:=lo * 2 ^ s % 18446744073709551616 % 4294967296) (by omega) hUY (by rw [ZaL]; omega) (by rw [ZaL]; omega)
 rw [ZaL,← sp,sh.1] at dt
 refine Zm8 hi lo y s (y * 2 ^ s) (y * 2 ^ s / 4294967296) (y * 2 ^ s % 4294967296) (hi * 2 ^ s) (lo / 2 ^ (64 - s)) (hi * 2 ^ s + lo / 2 ^ (64 - s)) (lo * 2 ^ s % 18446744073709551616) (lo * 2 ^ s % 18446744073709551616 / 4294967296) (lo * 2 ^ s % 18446744073709551616 % 4294967296) _ _ w ?_ ?_ h0 h1 hy (by omega) (by omega) ⟨?_,?_,?_,?_,?_,?_,?_,?_,?_⟩ (by rw [hv]; exact hUY) hv (by omega) (by rw [ZaL]; omega) (by rw [ZaL]; omega) (by rw [ZaL]; omega) (by rw [ZaL]; omega)
 ·rw [ZaL,← dt.2.2.2.1,divQ,Zan]
 ·rw [ZaL,← dt.2.2.2.2,divR,Zan]; exact sh.2
 ·rw [hpow,← Int.natCast_mul]; exact ZbI _ hyY
 ·omega
 ·exact M64.maskN _ hY2
 ·rw [hpow,← Int.natCast_mul]; exact M64.wrapN _ hHs
 ·rw [hpow2,Int.natCast_ediv]
 ·rw [bits_or_u64_nat _ _ hHs (by omega),hor]
 ·rw [hpow,← Int.natCast_mul]; exact M64.wrapM _
 ·omega
 ·exact M64.maskN _ hT
set_option maxHeartbeats 400000 in
theorem ZlT (lo y q r:Nat) (w:World) (h1:0 < y) (hq:lo / y=q) (hr:lo % y=r) (hlo:lo < W64) :
 Calls Tryz.prog 174 #[.int .u64 0, .int .u64 (lo:Int), .int .u64 (y:Int)] w fun e w'=>e=.returned (.tuple #[.int .u64 (q:Int), .int .u64 (r:Int)])∧∃ n,w'=w.drewN n:=by
 have e2:((y:Int) == 0)=false:=by simp; omega
 have p1:(lo:Int) / (y:Int)=(q:Int):=by rw [← Int.natCast_ediv,hq]
 have p2:IntKind.u64.wrap (q:Int)=(q:Int):=ZbI _ (by have:=Nat.div_le_self lo y; omega)
 have p3:(lo:Int) % (y:Int)=(r:Int):=by rw [← Int.natCast_emod,hr]
 clear hq hr hlo
 go_enter Tryz.func174,Tryz.ntmps174
 go_wp2
 go_quiet (fail)
 go_wp2
 go_ret2
 exact ⟨by rw [← p3]; rfl,_,rfl⟩
theorem Zff (hi lo y:Nat) (w:World) (h1:hi < y) (hy:y < W64) (hlo:lo < W64) :
 Calls Tryz.prog 174 #[.int .u64 (hi:Int), .int .u64 (lo:Int), .int .u64 (y:Int)] w fun e w'=>e=.returned (.tuple #[.int .u64 (divQ hi lo y:Nat), .int .u64 (divR hi lo y:Nat)])∧∃ n,w'=w.drewN n:=by
 rcases Nat.eq_zero_or_pos hi with h0 | h0
 ·subst h0
  refine (ZlT lo y (divQ 0 lo y) (divR 0 lo y) w h1 (by simp [divQ]) (by simp [divR]) hlo).mono ?_
  rintro e w' ⟨rfl,hw⟩
  exact ⟨rfl,hw⟩
 ·refine (Zoa hi lo y w h0 h1 hy hlo).mono ?_
  rintro e w' ⟨rfl,rfl⟩
  exact ⟨rfl,0,rfl⟩
end Go.Proofs.YtenchljfmfgeoaaGreatDoor

namespace Go.Proofs.YtenchljfmfgeoaaGreatDoor
open Go.RowKit
def ZdZ (xs:List Nat) (u k r:Nat):Prop:=r < u∧∃ Q,val W64 (xs.drop k)=Q * u + r
theorem ZdZ.start (xs:List Nat) {u:Nat} (hu:0 < u):ZdZ xs u xs.length 0:=⟨hu,0,by rw [List.drop_of_length_le (Nat.le_refl _)]; simp⟩
theorem ZdZ.step {xs:List Nat} {u k r x:Nat} (h:ZdZ xs u (k + 1) r) (hk:k < xs.length) (hx:xs[k]?.getD 0=x):ZdZ xs u k (divR r x u):=by
 obtain ⟨h1,Q,h2⟩:=h
 refine ⟨ZfN _ _ (by omega),divQ r x u + W64 * Q,?_⟩
 rw [ZaI k hk,hx]
 exact Zic W64 _ _ _ _ _ _ _ h2 (Zgb r x u).symm
theorem ZdZ.done {xs:List Nat} {u r:Nat} (h:ZdZ xs u 0 r):val W64 xs % u=r:=by
 obtain ⟨h1,Q,h2⟩:=h
 rw [List.drop_zero] at h2
 rw [h2,Nat.mul_comm,Nat.mul_add_mod,Nat.mod_eq_of_lt h1]
set_option maxHeartbeats 1000000 in
theorem ZcI (A:Option Addr) (xs:List Nat) (n c u:Nat) (w:World) (hn:xs.length=n) (hX:Zae .u64 w A xs) (hl:xs.length≤1099511627776) (hd:Dig W64 xs) (hu:0 < u) (huW:u < W64) :
 Calls Tryz.prog 192 #[.slice A n c, .int .u64 (u:Int)] w fun e w'=>e=.returned (.int .u64 ((val W64 xs % u:Nat):Int))∧∃ n,w'=w.drewN n:=by
 subst hn
 have HX:=zh hX
 have Hd:=zh hd
 have HU:=zh huW
 obtain ⟨res,hres⟩:∃ res,val W64 xs % u=res:=⟨_,rfl⟩
 rw [hres]
 have HRes:=zh hres
 clear hX hd huW hres
 go_enter Tryz.func192,Tryz.ntmps192
 go_wp2
 go_loopw [5,6] (fun rv i wr=>∃ k r q:Nat,k≤xs.length∧i=.int .i64 ((k:Int) - 1)∧rv=.int .u64 (r:Int)∧Hid (ZdZ xs u k r)∧Hid (wr=w.drewN q)) (fun _ i _=>(intOf i + 1).toNat)
 case atStart=>exact ⟨xs.length,0,0,Nat.le_refl _,rfl,rfl,ZdZ.start xs hu,rfl⟩
 case round =>
  obtain ⟨k,r,q,hk,rfl,rfl,hR,hW⟩:=hrel
  obtain rfl:=hW.out
  clear hW
  by_cases hlt:0 < k
  ·obtain ⟨j,rfl⟩:∃ j,k=j + 1:=⟨k - 1,by omega⟩
   have ej:(((j + 1:Nat):Int) - 1)=(j:Int):=by omega
   rw [ej]
   clear ej
   obtain ⟨b,off,rfl,_,hcx⟩:=HX.out.at (i:=j) (by omega)
   obtain ⟨x,ex⟩:∃ x,xs[j]?.getD 0=x:=⟨_,rfl⟩
   rw [ex] at hcx
   have HR2:=zh (hR.out.step (by omega) ex)
   have hxW:Hid (x < W64):=ex ▸ Hd.out.getD Zah j
   clear ex
   go_wp2_with (go_at_call 174; refine (Zff _ _ _ _ hR.out.1 HU.out hxW.out).mono ?_; rintro e w' ⟨rfl,n1,rfl⟩)
   go_roundw
   case rel=>exact ⟨j,_,_,by omega,rfl,rfl,HR2,rfl⟩
   case measure=>simp [intOf]
  ·obtain rfl:k=0:=by omega
   have HD:=zh hR.out.done
   rw [HRes.out] at HD
   go_wp2
   go_ret
   exact ⟨by rw [HD.out]; rfl,_,rfl⟩
def Zdy (xs:List Nat) (u k:Nat) (qs:List Nat) (r:Nat):Prop:=qs.length=xs.length∧Dig W64 qs∧r < u∧val W64 (xs.drop k)=val W64 (qs.drop k) * u + r
theorem Zdy.start (xs:List Nat) {u:Nat} (hu:0 < u):Zdy xs u xs.length (List.replicate xs.length 0) 0:=by
 refine ⟨by simp,Dig.replicate Zah _,hu,?_⟩
 rw [List.drop_of_length_le (Nat.le_refl _),List.drop_of_length_le (by simp)]; simp
theorem Zdy.step {xs qs:List Nat} {u k r x:Nat} (h:Zdy xs u (k + 1) qs r) (hk:k < xs.length) (hx:xs[k]?.getD 0=x) (hxW:x < W64):Zdy xs u k (qs.set k (divQ r x u)) (divR r x u):=by
 obtain ⟨h1,h2,h3,h4⟩:=h
 refine ⟨by simpa using h1,h2.set k (Zji h3 hxW),ZfN _ _ (by omega),?_⟩
 rw [ZaI k hk,hx,ZaI (xs:=qs.set k _) k (by simp; omega),List.drop_set_of_lt (by omega)]
 have:(qs.set k (divQ r x u))[k]?.getD 0=divQ r x u:=by simp [h1,hk]
 rw [this]
 exact Zic W64 _ _ _ _ _ _ _ h4 (Zgb r x u).symm
theorem Zdy.done {xs qs:List Nat} {u r:Nat} (h:Zdy xs u 0 qs r):val W64 qs=val W64 xs / u∧r=val W64 xs % u:=by
 obtain ⟨h1,h2,h3,h4⟩:=h
 rw [List.drop_zero,List.drop_zero] at h4
 rw [h4,Nat.mul_comm,Nat.mul_add_div (by omega),Nat.mul_add_mod,Nat.mod_eq_of_lt h3,Nat.div_eq_of_lt h3]
 exact ⟨rfl,rfl⟩
def Zm9 (w:World) (q r:Nat) (e:Ending) (w':World):Prop:=∃ v,e=.returned (.tuple #[v, .int .u64 (r:Int)])∧Zad w' v q∧Ext w w'
set_option maxHeartbeats 1000000 in
theorem Zjj (A:Option Addr) (xs:List Nat) (n c u:Nat) (w:World) (hn:xs.length=n) (hX:Zae .u64 w A xs) (hl:xs.length≤4294967296) (hd:Dig W64 xs) (hu:0 < u) (huW:u < W64) :
 Calls Tryz.prog 242 #[.slice A n c, .int .u64 (u:Int)] w (Zm9 w (val W64 xs / u) (val W64 xs % u)):=by
 subst hn
 have HX:=zh hX
 have Hd:=zh hd
 have HU:=zh huW
 clear hX hd huW
 go_enter Tryz.func242,Tryz.ntmps242
 go_wp2_with (at_make
              refine ZbR rfl _ _ _ rfl _ _ _ Tryz.underlying106 Zc3 _ _ _ _ xs.length rfl rfl (by omega) (by omega) (by omega) (by omega) ?_
              intro b w1 hb hO1 _ hF1 hs1
              have HO1:=zh hO1
              have HF1:=zh hF1
              have Hb:=zh hb
              clear hO1 hF1 hb hs1)
 go_loopw [7,8] (fun rv i wr=>∃ (k r:Nat) (qs:List Nat),k≤xs.length∧i=.int .i64 ((k:Int) - 1)∧rv=.int .u64 (r:Int)∧Hid (Zdy xs u k qs r)∧Hid (Own .u64 141 wr b qs)∧Hid (Ext w wr)) (fun _ i _=>(intOf i + 1).toNat)
 case atStart=>exact ⟨xs.length,0,_,Nat.le_refl _,rfl,rfl,Zdy.start xs hu,HO1.out,HF1.out⟩
 case round =>
  obtain ⟨k,r,qs,hk,rfl,rfl,hR,hO2,hF2⟩:=hrel
  by_cases hlt:0 < k
  ·obtain ⟨j,rfl⟩:∃ j,k=j + 1:=⟨k - 1,by omega⟩
   have ej:(((j + 1:Nat):Int) - 1)=(j:Int):=by omega
   rw [ej]
   clear ej
   obtain ⟨b2,off2,rfl,_,hcx⟩:=(HX.out.ext hF2.out).at (i:=j) (by omega)
   obtain ⟨x,ex⟩:∃ x,xs[j]?.getD 0=x:=⟨_,rfl⟩
   rw [ex] at hcx
   have hxW:Hid (x < W64):=ex ▸ Hd.out.getD Zah j
   have HR2:=zh (hR.out.step (by omega) ex hxW.out)
   clear ex
   have hql:=hR.out.1
   have hjl:j < qs.length:=by omega
   have hcz:=hO2.out.cell hjl
   have hfz:=hO2.out.frozen j
   obtain ⟨z,ez⟩:∃ z,qs[j]?.getD 0=z:=⟨_,rfl⟩
   rw [ez] at hcz
   have HO3:=zh (fun v=>hO2.out.set j v hjl)
   clear ez hql
   go_wp2_with (go_at_call 174; refine (Zff _ _ _ _ hR.out.2.2.1 HU.out hxW.out).mono ?_; rintro e w' ⟨rfl,n1,rfl⟩)
   go_roundw
   case rel=>exact ⟨j,_,_,by omega,rfl,rfl,HR2,HO3.out _,(hF2.out.setCell (p:=⟨b,j,none⟩) (Or.inr (by have:=Hb.out; show w.heap.size≤b; omega)) _).drewN _⟩
   case measure=>simp [intOf]
  ·obtain rfl:k=0:=by omega
   have hD:=hR.out.done
   have hz:=hR.out.1
   have HT:=zh (ZcW _ qs xs.length xs.length wr hz hO2.out.shows0 (by omega) (by omega))
   have HN:=zh (Zad.of_own (c:=xs.length) hO2.out hR.out.2.1 (by omega))
   rw [hD.1] at HN
   have Hr:=zh hD.2
   clear hz hD
   go_wp2_with fail
   refine HT.out.mono ?_
   rintro e w2 ⟨rfl,rfl⟩
   clear HT
   go_wp2
   go_ret2
   exact ⟨_,by rw [← Hr.out]; rfl,HN.out,hF2.out⟩
end Go.Proofs.YtenchljfmfgeoaaGreatDoor

namespace Go.Proofs.YtenchljfmfgeoaaGreatDoor
open Go.RowKit
theorem ZbJ {t:Nat} (ht:t≤63):2 ^ (64 - t) * 2 ^ t=W64:=by
 rw [← Nat.pow_add,show 64 - t + t=64 by omega,Zan]
theorem Zob {x t:Nat} (ht:t≤63):x * 2 ^ t=x * 2 ^ t % W64 + W64 * (x / 2 ^ (64 - t)):=by
 have h:=Nat.mod_add_div (x * 2 ^ t) W64
 have:x * 2 ^ t / W64=x / 2 ^ (64 - t):=by
  rw [← ZbJ ht,Nat.mul_div_mul_right _ _ (Nat.pow_pos (by omega))]
 rw [this] at h
 exact h.symm
theorem Zoc {h x t:Nat} (hh:h < 2 ^ t) (ht:t≤63):h ||| x * 2 ^ t % W64=h + x * 2 ^ t % W64:=by
 have e:x * 2 ^ t % W64=(x % 2 ^ (64 - t)) <<< t:=by
  rw [Nat.shiftLeft_eq,← ZbJ ht,Nat.mul_mod_mul_right]
 rw [e,Nat.or_comm,← Nat.shiftLeft_add_eq_or_of_lt hh,Nat.add_comm]
theorem Ze2 (x t:Nat):IntKind.u64.wrap ((x:Int) * 2 ^ t)=((x * 2 ^ t % W64:Nat):Int):=by
 have hpow:((2:Int) ^ t)=((2 ^ t:Nat):Int):=by rw [Int.natCast_pow]; rfl
 rw [hpow,← Int.natCast_mul,Zan]
 exact M64.wrapM _
theorem Zg0 (x t:Nat):(x:Int) / 2 ^ t=((x / 2 ^ t:Nat):Int):=by
 have hpow:((2:Int) ^ t)=((2 ^ t:Nat):Int):=by rw [Int.natCast_pow]; rfl
 rw [hpow,Int.natCast_ediv]
theorem Zes {a b:Nat} (ha:a < W64) (hb:b < W64):bits .or .u64 (a:Int) (b:Int)=((a ||| b:Nat):Int):=by
 rw [Zan] at ha hb
 exact bits_or_u64_nat a b ha hb
def Zdg (xs:List Nat) (skip t k:Nat) (zs:List Nat):Prop :=
 zs.length=xs.length + skip + 1∧Dig W64 zs∧val W64 (zs.take (k + skip + 1))=val W64 (xs.take k) * 2 ^ (64 * skip + t)∧(zs[k + skip]?.getD 0) < 2 ^ t
theorem Zdg.start (xs:List Nat) (skip t:Nat):Zdg xs skip t 0 (List.replicate (xs.length + skip + 1) 0):=by
 refine ⟨by simp,Dig.replicate Zah _,?_,?_⟩
 ·rw [List.take_replicate,Zcq]; simp
 ·have:((List.replicate (xs.length + skip + 1) 0)[0 + skip]?.getD 0)=0:=by
   rw [List.getElem?_replicate]; split<;>rfl
  rw [this]; exact Nat.pow_pos (by omega)
theorem Zdg.step {xs zs:List Nat} {skip t k h x:Nat} (hR:Zdg xs skip t k zs) (ht:t≤63) (hk:k < xs.length) (hh:zs[k + skip]?.getD 0=h) (hx:xs[k]?.getD 0=x) (hxW:x < W64) :
 Zdg xs skip t (k + 1) ((zs.set (k + skip) (h + x * 2 ^ t % W64)).set (k + skip + 1) (x / 2 ^ (64 - t)))∧h + x * 2 ^ t % W64 < W64:=by
 obtain ⟨h1,h2,h3,h4⟩:=hR
 rw [hh] at h4
 have hlt:h + x * 2 ^ t % W64 < W64:=by
  rw [← ZbJ ht,Nat.mul_mod_mul_right]
  have:x % 2 ^ (64 - t) < 2 ^ (64 - t):=Nat.mod_lt _ (Nat.pow_pos (by omega))
  have h5:(x % 2 ^ (64 - t) + 1) * 2 ^ t≤2 ^ (64 - t) * 2 ^ t:=Nat.mul_le_mul_right _ this
  rw [Nat.add_mul] at h5
  omega
 have hhi:x / 2 ^ (64 - t) < 2 ^ t:=by
  rw [Nat.div_lt_iff_lt_mul (Nat.pow_pos (by omega)),← Nat.pow_add,show t + (64 - t)=64 by omega]
  rw [Zan] at hxW; exact hxW
 have hhi2:x / 2 ^ (64 - t) < W64:=Nat.lt_of_le_of_lt (Nat.div_le_self _ _) hxW
 refine ⟨⟨by simpa using h1,(h2.set _ hlt).set _ hhi2,?_,?_⟩,hlt⟩
 ·rw [show k + 1 + skip + 1=(k + skip + 1) + 1 by omega,ZaZ _ _ _ _ (by simp; omega),ZaZ _ _ _ _ (by omega),Zay k hk,hx,Nat.add_mul,← h3,Zay (k + skip) (by omega),hh]
  have e:=Zob (x:=x) ht
  have e2:W64 ^ k * x * 2 ^ (64 * skip + t)=W64 ^ (k + skip) * (x * 2 ^ t):=by
   rw [Nat.pow_add 2,← Zds,Nat.pow_add]
   simp only [Nat.mul_assoc,Nat.mul_left_comm]
  rw [e2]
  have e3:=congrArg (W64 ^ (k + skip) * ·) e
  simp only [Nat.mul_add] at e3
  rw [Nat.mul_add,Nat.pow_succ,Nat.mul_assoc]
  omega
 ·have:((zs.set (k + skip) (h + x * 2 ^ t % W64)).set (k + skip + 1) (x / 2 ^ (64 - t)))[k + 1 + skip]?.getD 0=x / 2 ^ (64 - t):=by
   rw [show k + 1 + skip=k + skip + 1 by omega,List.getElem?_set_self (by simp; omega)]
   rfl
  rw [this]; exact hhi
theorem Zdg.done {xs zs:List Nat} {skip t:Nat} (h:Zdg xs skip t xs.length zs):val W64 zs=val W64 xs * 2 ^ (64 * skip + t):=by
 obtain ⟨h1,h2,h3,h4⟩:=h
 rw [List.take_of_length_le (by omega),List.take_of_length_le (by omega)] at h3
 exact h3
set_option maxHeartbeats 1000000 in
theorem Zjk (A:Option Addr) (xs:List Nat) (n c s skip t:Nat) (w:World) (hn:xs.length=n) (hX:Zae .u64 w A xs) (hc:xs.length≤c) (hl:xs.length≤4294967296) (hd:Dig W64 xs) (tx:Trim xs) (hs:s=64 * skip + t) (ht:t≤63) (hk:skip≤4294967296) :
 Calls Tryz.prog 236 #[.slice A n c, .int .u64 (s:Int)] w (Za2 w (val W64 xs * 2 ^ s)):=by
 subst hn
 have HX:=zh hX
 have Hd:=zh hd
 have Tx:=zh tx
 have HS:=zh hs
 clear hX hd tx
 by_cases h0:xs.length=0
 ·obtain rfl:xs=[]:=List.length_eq_zero_iff.1 h0
  clear hs
  go_enter Tryz.func236,Tryz.ntmps236
  go_wp2
  go_ret
  exact ⟨_,rfl,⟨A,[],c,rfl,hc,HX.out,Hd.out,Tx.out,by simp⟩,Fr.refl _ _⟩
 have h0':(((xs.length:Nat):Int) == 0)=false:=by simp; intro e; simp [e] at h0
 by_cases h1:s=0
 ·subst h1
  clear hs
  go_enter Tryz.func236,Tryz.ntmps236
  go_wp2
  go_ret
  exact ⟨_,rfl,⟨A,xs,c,rfl,hc,HX.out,Hd.out,Tx.out,by simp⟩,Fr.refl _ _⟩
 have h1':((s:Int) == 0)=false:=by simp; omega
 have p1:(s:Int) / 64=(skip:Int):=by omega
 have p2:(s:Int) % 64=(t:Int):=by omega
 clear hs h1
 go_enter Tryz.func236,Tryz.ntmps236
 go_wp2_with (at_make
              refine ZbR rfl _ _ _ rfl _ _ _ Tryz.underlying106 Zc3 _ _ _ _ (xs.length + skip + 1) rfl rfl (by omega) (by omega) (by omega) (by omega) ?_
              intro b w1 hb hO1 _ hF1 hs1
              have HO1:=zh hO1
              have HF1:=zh hF1
              have Hb:=zh hb
              clear hO1 hF1 hb hs1)
 go_loopw [31] (fun i wr=>∃ (k:Nat) (zs:List Nat),k≤xs.length∧i=.int .i64 (k:Int)∧Hid (Zdg xs skip t k zs)∧Hid (Own .u64 141 wr b zs)∧Hid (Ext w wr)) (fun i _=>xs.length - (intOf i).toNat)
 case atStart=>exact ⟨0,_,by omega,rfl,Zdg.start xs skip t,HO1.out,HF1.out⟩
 case round =>
  obtain ⟨k,zs,hkk,rfl,hR,hO2,hF2⟩:=hrel
  clear p1 p2 h0' h1'
  by_cases hlt:k < xs.length
  ·obtain ⟨b2,off2,rfl,_,hcx⟩:=(HX.out.ext hF2.out).at hlt
   obtain ⟨x,ex⟩:∃ x,xs[k]?.getD 0=x:=⟨_,rfl⟩
   obtain ⟨h,eh⟩:∃ h,zs[k + skip]?.getD 0=h:=⟨_,rfl⟩
   rw [ex] at hcx
   have hxW:Hid (x < W64):=ex ▸ Hd.out.getD Zah k
   obtain ⟨hst,hdlt⟩:=hR.out.step ht hlt eh ex hxW.out
   have HR2:=zh hst
   have hzl:zs.length=xs.length + skip + 1:=hR.out.1
   have hc1:=hO2.out.cell (i:=k + skip) (by omega)
   have hf1:=hO2.out.frozen (k + skip)
   rw [eh] at hc1
   have hO3:=hO2.out.set (k + skip) (h + x * 2 ^ t % W64) (by omega)
   have hc2:=hO3.cell (i:=k + skip + 1) (by simp; omega)
   have hf2:=hO3.frozen (k + skip + 1)
   obtain ⟨g,eg⟩:∃ g,(zs.set (k + skip) (h + x * 2 ^ t % W64))[k + skip + 1]?.getD 0=g:=⟨_,rfl⟩
   rw [eg] at hc2
   have HO4:=zh (hO3.set (k + skip + 1) (x / 2 ^ (64 - t)) (by simp; omega))
   have q1:=Ze2 x t
   have q2:=Zes (a:=h) (b:=x * 2 ^ t % W64) (eh ▸ hR.out.2.1.getD Zah _) (Nat.mod_lt _ Zah)
   rw [Zoc (eh ▸ hR.out.2.2.2) ht] at q2
   have q3:=Zg0 x (64 - t)
   obtain ⟨lo,elo⟩:∃ lo,x * 2 ^ t % W64=lo:=⟨_,rfl⟩
   obtain ⟨hi,ehi⟩:∃ hi,x / 2 ^ (64 - t)=hi:=⟨_,rfl⟩
   rw [elo] at q1 q2 hc2 hf2 HR2 HO4
   rw [ehi] at q3 HR2 HO4
   obtain ⟨d,ed⟩:∃ d,h + lo=d:=⟨_,rfl⟩
   rw [ed] at q2 hc2 hf2 HR2 HO4
   clear ex eh hst hdlt hzl hO3 eg elo ehi ed
   go_wp2
   go_roundw
   case rel=>exact ⟨k + 1,_,by omega,by go_num,HR2,HO4.out,(hF2.out.setCell (p:=⟨b,k + skip,none⟩) (Or.inr (by have:=Hb.out; show w.heap.size≤b; omega)) _).setCell (p:=⟨b,k + skip + 1,none⟩) (Or.inr (by have:=Hb.out; show w.heap.size≤b; omega)) _⟩
   case measure=>simp [intOf]; omega
  ·obtain rfl:k=xs.length:=by omega
   have hz:=hR.out.1
   have HT:=zh (ZcW _ zs (xs.length + skip + 1) (xs.length + skip + 1) wr hz hO2.out.shows0 (by omega) (by omega))
   have HN:=zh (Zad.of_own (c:=xs.length + skip + 1) hO2.out hR.out.2.1 (by omega))
   rw [hR.out.done,← HS.out] at HN
   clear hz
   go_wp2_with fail
   refine HT.out.mono ?_
   rintro e w2 ⟨rfl,rfl⟩
   clear HT
   go_wp2
   go_ret
   exact ⟨_,rfl,HN.out,hF2.out⟩
theorem ZgO (xv:Value) (x s:Nat) (w:World) (hX:Zad w xv x) (hx:wl x≤4294967296) (hs:s≤274877906944):Calls Tryz.prog 236 #[xv, .int .u64 (s:Int)] w (Za2 w (x * 2 ^ s)):=by
 obtain ⟨A,xs,c,rfl,hc,h1,h2,h3,rfl⟩:=hX
 rw [← ZaE h2 h3] at hx
 exact Zjk A xs _ c s (s / 64) (s % 64) w rfl h1 hc hx h2 h3 (by omega) (by omega) (by omega)
def Zdh (ys:List Nat) (t k:Nat) (zs:List Nat):Prop :=
 zs.length=ys.length∧Dig W64 zs∧2 ^ t * val W64 (zs.take k) + (ys[0]?.getD 0) % 2 ^ t=val W64 (ys.take k) + W64 ^ k * ((ys[k]?.getD 0) % 2 ^ t)
theorem Zdh.start (ys:List Nat) (t:Nat):Zdh ys t 0 (List.replicate ys.length 0):=by
 refine ⟨by simp,Dig.replicate Zah _,?_⟩
 simp
theorem Zra {y t:Nat} (ht:t≤63):y * 2 ^ (64 - t) % W64=y % 2 ^ t * 2 ^ (64 - t):=by
 rw [← ZbJ ht,Nat.mul_comm (2 ^ (64 - t)),Nat.mul_mod_mul_right]
theorem Zod {x y t:Nat} (ht:t≤63) (hx:x < W64):x / 2 ^ t ||| y * 2 ^ (64 - t) % W64=x / 2 ^ t + y % 2 ^ t * 2 ^ (64 - t):=by
 have hlt:x / 2 ^ t < 2 ^ (64 - t):=by
  rw [Nat.div_lt_iff_lt_mul (Nat.pow_pos (by omega)),ZbJ ht]; exact hx
 rw [Zra ht,← Nat.shiftLeft_eq,Nat.or_comm,← Nat.shiftLeft_add_eq_or_of_lt hlt,Nat.add_comm]
theorem Zdh.step {ys zs:List Nat} {t k x y:Nat} (h:Zdh ys t k zs) (ht:t≤63) (hk:k < ys.length) (hx:ys[k]?.getD 0=x) (hy:ys[k + 1]?.getD 0=y) (hxW:x < W64) :
 Zdh ys t (k + 1) (zs.set k (x / 2 ^ t + y % 2 ^ t * 2 ^ (64 - t))):=by
 obtain ⟨h1,h2,h3⟩:=h
 have hlt:x / 2 ^ t + y % 2 ^ t * 2 ^ (64 - t) < W64:=by
  have e1:x / 2 ^ t < 2 ^ (64 - t):=by
   rw [Nat.div_lt_iff_lt_mul (Nat.pow_pos (by omega)),ZbJ ht]; exact hxW
  have e2:y % 2 ^ t < 2 ^ t:=Nat.mod_lt _ (Nat.pow_pos (by omega))
  have e3:(y % 2 ^ t + 1) * 2 ^ (64 - t)≤2 ^ t * 2 ^ (64 - t):=Nat.mul_le_mul_right _ e2
  rw [Nat.mul_comm (2 ^ t),ZbJ ht,Nat.add_mul] at e3
  omega
 refine ⟨by simpa using h1,h2.set k hlt,?_⟩
 rw [ZaZ _ _ _ _ (by omega),Zay k hk,hx,hy]
 rw [hx] at h3
 have e1:=Nat.div_add_mod x (2 ^ t)
 have e2:2 ^ t * (y % 2 ^ t * 2 ^ (64 - t))=W64 * (y % 2 ^ t):=by
  rw [← ZbJ ht]
  simp only [Nat.mul_comm,Nat.mul_left_comm]
 have e3:=congrArg (W64 ^ k * ·) e1
 simp only [Nat.mul_add] at e3
 rw [Nat.mul_add,Nat.mul_left_comm (2 ^ t),Nat.mul_add (2 ^ t),e2,Nat.mul_add,Nat.pow_succ,Nat.mul_assoc (W64 ^ k) W64]
 omega
theorem Zdh.done {ys zs:List Nat} {t:Nat} (h:Zdh ys t ys.length zs):val W64 zs=val W64 ys / 2 ^ t:=by
 obtain ⟨h1,h2,h3⟩:=h
 rw [List.take_of_length_le (by omega),List.take_of_length_le (by omega),List.getElem?_eq_none (Nat.le_refl _)] at h3
 simp only [Option.getD_none,Nat.zero_mod,Nat.mul_zero,Nat.add_zero] at h3
 rw [← h3,Nat.mul_add_div (Nat.pow_pos (by omega)),Nat.div_eq_of_lt (Nat.mod_lt _ (Nat.pow_pos (by omega))),Nat.add_zero]
theorem Zjl (xs:List Nat) (skip t:Nat) (hd:Dig W64 xs) (hs:skip≤xs.length):val W64 (xs.drop skip) / 2 ^ t=val W64 xs / 2 ^ (64 * skip + t):=by
 rw [Nat.pow_add,← Zds,← Nat.div_div_eq_div_mul]
 congr 1
 rw [ZaT (xs:=xs) skip,Nat.min_eq_left hs,Nat.add_comm,Nat.mul_add_div (Nat.pow_pos Zah)]
 have h:=Za1 (hd.take skip)
 rw [List.length_take,Nat.min_eq_left hs] at h
 rw [Nat.div_eq_of_lt h,Nat.add_zero]
theorem Zie {xs:List Nat} {s:Nat} (hd:Dig W64 xs) (h:xs.length≤s / 64):val W64 xs / 2 ^ s=0:=by
 refine Nat.div_eq_of_lt (Nat.lt_of_lt_of_le (Za1 hd) ?_)
 rw [Zds]
 exact Nat.pow_le_pow_right (by omega) (by omega)
set_option maxHeartbeats 2000000 in
theorem Ziy (A:Option Addr) (xs:List Nat) (n c s skip t:Nat) (w:World) (hn:xs.length=n) (hX:Zae .u64 w A xs) (hl:xs.length≤4294967296) (hd:Dig W64 xs) (hs:s=64 * skip + t) (ht:t≤63) (hk:skip≤4294967296) :
 Calls Tryz.prog 241 #[.slice A n c, .int .u64 (s:Int)] w (ZfM w none none (val W64 xs / 2 ^ s)):=by
 subst hn
 have HX:=zh hX
 have Hd:=zh hd
 have HS:=zh hs
 have p1:(s:Int) / 64=(skip:Int):=by omega
 have p2:(s:Int) % 64=(t:Int):=by omega
 clear hX hd
 by_cases h0:xs.length≤skip
 ·have HZ:=zh (Zie (s:=s) Hd.out (by omega))
  clear hs
  go_enter Tryz.func241,Tryz.ntmps241
  go_wp2
  go_ret
  exact ⟨none,0,0,rfl,by rw [HZ.out]; exact Zad.zero _,Fr.refl _ _,fun a h=>by cases h⟩
 clear hs
 go_enter Tryz.func241,Tryz.ntmps241
 go_wp2_with (at_make
              refine ZbR rfl _ _ _ rfl _ _ _ Tryz.underlying106 Zc3 _ _ _ _ (xs.length - skip) rfl rfl (by omega) (by omega) (by omega) (by omega) ?_
              intro b w1 hb hO1 _ hF1 hs1
              have HO1:=zh hO1
              have HF1:=zh hF1
              have Hb:=zh hb
              clear hO1 hF1 hb hs1)
 have hyl:Hid ((xs.drop skip).length=xs.length - skip):=by unfold Hid; simp
 go_loopw [27] (fun i wr=>∃ (k:Nat) (zs:List Nat),k≤xs.length - skip∧i=.int .i64 (k:Int)∧Hid (Zdh (xs.drop skip) t k zs)∧Hid (Own .u64 141 wr b zs)∧Hid (Ext w wr)) (fun i _=>xs.length - skip - (intOf i).toNat)
 case atStart=>exact ⟨0,_,by omega,rfl,Zdh.start _ t,by rw [hyl.out]; exact HO1.out,HF1.out⟩
 case round =>
  obtain ⟨k,zs,hkk,rfl,hR,hO2,hF2⟩:=hrel
  clear p1 p2
  by_cases hlt:k < xs.length - skip
  ·obtain ⟨b2,off2,rfl,_,hcx⟩:=(HX.out.ext hF2.out).at (i:=k + skip) (by omega)
   obtain ⟨x,ex⟩:∃ x,xs[k + skip]?.getD 0=x:=⟨_,rfl⟩
   rw [ex] at hcx
   have hxW:Hid (x < W64):=ex ▸ Hd.out.getD Zah _
   have ex':(xs.drop skip)[k]?.getD 0=x:=by rw [List.getElem?_drop,Nat.add_comm]; exact ex
   have hzl:zs.length=xs.length - skip:=by rw [← hyl.out]; exact hR.out.1
   have hkz:k < zs.length:=by omega
   have hc1:=hO2.out.cell hkz
   have hf1:=hO2.out.frozen k
   obtain ⟨z0,ez0⟩:∃ z0,zs[k]?.getD 0=z0:=⟨_,rfl⟩
   rw [ez0] at hc1
   have q3:=Zg0 x t
   by_cases hlast:k + skip + 1 < xs.length
   ·obtain ⟨b3,off3,e3,_,hcy⟩:=(HX.out.ext hF2.out).at (i:=k + skip + 1) hlast
    injection e3 with e3
    injection e3 with e31 e32
    subst e31 e32
    obtain ⟨y,ey⟩:∃ y,xs[k + skip + 1]?.getD 0=y:=⟨_,rfl⟩
    rw [ey] at hcy
    have ey':(xs.drop skip)[k + 1]?.getD 0=y:=by rw [List.getElem?_drop,show skip + (k + 1)=k + skip + 1 by omega]; exact ey
    have HR2:=zh (hR.out.step ht (by rw [hyl.out]; exact hlt) ex' ey' hxW.out)
    have q1:=Ze2 y (64 - t)
    have q2:=Zes (a:=x / 2 ^ t) (b:=y * 2 ^ (64 - t) % W64) (Nat.lt_of_le_of_lt (Nat.div_le_self _ _) hxW.out) (Nat.mod_lt _ Zah)
    rw [Zod ht hxW.out] at q2
    obtain ⟨lo,elo⟩:∃ lo,x / 2 ^ t=lo:=⟨_,rfl⟩
    obtain ⟨hi,ehi⟩:∃ hi,y * 2 ^ (64 - t) % W64=hi:=⟨_,rfl⟩
    obtain ⟨d,ed⟩:∃ d,x / 2 ^ t + y % 2 ^ t * 2 ^ (64 - t)=d:=⟨_,rfl⟩
    rw [ed] at q2 HR2
    rw [elo] at q2 q3
    rw [ehi] at q1 q2
    have hO3:=hO2.out.set k lo hkz
    have hf3:=hO3.frozen k
    have hc3:=hO3.cell (i:=k) (by simpa using hkz)
    have e4:(zs.set k lo)[k]?.getD 0=lo:=by rw [List.getElem?_set_self hkz]; rfl
    rw [e4] at hc3
    have HO4:=zh (hO3.set k d (by simpa using hkz))
    have hcy':(wr.setCell ⟨b,k,none⟩ (.int .u64 (lo:Int))).cell? ⟨b2,off2 + (k + skip + 1),none⟩=some (.int .u64 (y:Int)):=by
     rw [World.cell?_setCell_other _ _ _ _ (by intro e; injection e with e; have:=Hb.out; obtain ⟨b',o',e',hb',_⟩:=HX.out (by intro e0; rw [e0] at hlt; simp at hlt); injection e' with e'; injection e' with e'; omega)]
     exact hcy
    clear ex ex' ey ey' ez0 elo ehi ed hzl hO3 e4
    have HF3:=zh (hF2.out.setCell (p:=⟨b,k,none⟩) (Or.inr (by have:=Hb.out; show w.heap.size≤b; omega)) (.int .u64 (lo:Int)))
    go_wp2
    clear hcy hcx
    generalize hwq:wr.setCell ⟨b,k,none⟩ (.int .u64 (lo:Int))=wq at *
    clear hwq hc1 hf1
    go_region
    all_goals
     go_wp2
     go_roundw
     case rel=>exact ⟨k + 1,_,by omega,by go_num,HR2,by have:=HO4.out; rw [List.set_set] at this; exact this.drewN _,(HF3.out.setCell (p:=⟨b,k,none⟩) (Or.inr (by have:=Hb.out; show w.heap.size≤b; omega)) _).drewN _⟩
     case measure=>simp [intOf]; omega
   ·have ey':(xs.drop skip)[k + 1]?.getD 0=0:=by rw [List.getElem?_drop,List.getElem?_eq_none (by omega)]; rfl
    have HR2:=zh (hR.out.step ht (by rw [hyl.out]; exact hlt) ex' ey' hxW.out)
    rw [Nat.zero_mod,Nat.zero_mul,Nat.add_zero] at HR2
    obtain ⟨lo,elo⟩:∃ lo,x / 2 ^ t=lo:=⟨_,rfl⟩
    rw [elo] at q3 HR2
    have HO3:=zh (hO2.out.set k lo hkz)
    clear ex ex' ey' ez0 elo hzl
    go_wp2
    go_roundw
    case rel=>exact ⟨k + 1,_,by omega,by go_num,HR2,HO3.out,hF2.out.setCell (p:=⟨b,k,none⟩) (Or.inr (by have:=Hb.out; show w.heap.size≤b; omega)) _⟩
    case measure=>simp [intOf]; omega
  ·obtain rfl:k=xs.length - skip:=by omega
   have hz:zs.length=xs.length - skip:=by rw [← hyl.out]; exact hR.out.1
   have HT:=zh (ZcW _ zs (xs.length - skip) (xs.length - skip) wr hz hO2.out.shows0 (by omega) (by omega))
   have HN:=zh (Zad.of_own (c:=xs.length - skip) hO2.out hR.out.2.1 (by omega))
   have hRd:=hR.out
   rw [← hyl.out] at hRd
   rw [hRd.done,Zjl xs skip t Hd.out (by omega),← HS.out] at HN
   clear hz hRd
   go_wp2_with fail
   refine HT.out.mono ?_
   rintro e w2 ⟨rfl,rfl⟩
   clear HT
   go_wp2
   go_ret
   exact ⟨_,_,_,rfl,HN.out,hF2.out,fun a h=>Or.inl (by injection h with h; subst h; have:=Hb.out; show w.heap.size≤b; omega)⟩
theorem Ziz (xv:Value) (x s:Nat) (w:World) (hX:Zad w xv x) (hx:wl x≤4294967296) (hs:s≤274877906944):Calls Tryz.prog 241 #[xv, .int .u64 (s:Int)] w (ZfM w none none (x / 2 ^ s)):=by
 obtain ⟨A,xs,c,rfl,hc,h1,h2,h3,rfl⟩:=hX
 rw [← ZaE h2 h3] at hx
 exact Ziy A xs _ c s (s / 64) (s % 64) w rfl h1 hx h2 (by omega) (by omega) (by omega)
end Go.Proofs.YtenchljfmfgeoaaGreatDoor

namespace Go.Proofs.YtenchljfmfgeoaaGreatDoor
open Go.RowKit
noncomputable def W32:Nat:=Classical.choose (p:=fun n:Nat=>n=4294967296) ⟨_,rfl⟩
theorem Zcy:W32=4294967296:=Classical.choose_spec (p:=fun n:Nat=>n=4294967296) ⟨_,rfl⟩
theorem ZfU:0 < W32:=by have:=Zcy; omega
theorem Zrg:1 < W32:=by have:=Zcy; omega
theorem Zsf:W32 * W32=W64:=by rw [Zcy,Zan]
theorem Zor:(Tryz.prog.info? 143).map (fun i=>(i.zero,i.size,i.bytes))=some (some (.int .u32 0),1,4):=by kernel_rfl
set_option maxHeartbeats 400000 in
theorem Znf (A:Option Addr) (xs:List Nat) (n c:Nat) (w:World) (hn:xs.length=n) (h:Zae .u32 w A xs) (hc:xs.length≤c) (hm:xs.length≤70368744177664) :
 Calls Tryz.prog 94 #[.slice A n c] w fun e w'=>e=.returned (.slice A (ZaX xs xs.length) c)∧w=w':=by
 subst hn
 have H:=zh h
 clear h
 go_enter Tryz.func94,Tryz.ntmps94
 go_wp2
 go_loop [0] (fun v=>∃ k:Nat,k≤xs.length∧v=.slice A k c∧Hid (ZaX xs xs.length=ZaX xs k)) (fun v=>match v with | .slice _ k _=>k | _=>0)
 case atStart=>exact ⟨xs.length,Nat.le_refl _,rfl,rfl⟩
 case round =>
  obtain ⟨k,hk,rfl,hr⟩:=hrel
  by_cases hlt:0 < k
  ·obtain ⟨b,off,rfl,hb,hcl⟩:=H.out.at (i:=k - 1) (by omega)
   obtain ⟨x,hx⟩:∃ x,xs[k - 1]?.getD 0=x:=⟨_,rfl⟩
   rw [hx] at hcl
   have HX:=zh hx
   clear hx
   by_cases h0:x=0
   ·subst h0
    go_wp2
    go_round
    case rel =>
     refine ⟨k - 1,by omega,by go_num,?_⟩
     have e:=hr.out
     obtain ⟨m,rfl⟩:∃ m,k=m + 1:=⟨k - 1,by omega⟩
     rw [ZaX,if_pos (by simpa using HX.out)] at e
     exact e
    case measure=>simp; omega
   ·have hb0:(((x:Nat):Int) == 0)=false:=by simpa using h0
    go_wp2
    go_ret
    refine ⟨?_,rfl⟩
    have e:=hr.out
    obtain ⟨m,rfl⟩:∃ m,k=m + 1:=⟨k - 1,by omega⟩
    have HX':=HX.out
    simp only [Nat.add_sub_cancel] at HX'
    rw [ZaX,if_neg (by rw [HX']; exact h0)] at e
    rw [e]; rfl
  ·obtain rfl:k=0:=by omega
   go_wp2
   go_ret
   exact ⟨by rw [hr.out]; rfl,rfl⟩
def ml (n:Nat):Nat:=if n=0 then 0 else n.log2 / 32 + 1
theorem Zrh (k:Nat):W32 ^ k=2 ^ (32 * k):=by rw [Nat.pow_mul,Zcy]
theorem Zeu {n k:Nat}:ml n≤k ↔ n < W32 ^ k:=by
 unfold ml
 rw [Zrh]
 split
 ·rename_i h; subst h; simp [Nat.pow_pos]
 ·rename_i h
  rw [← Nat.log2_lt h]; omega
theorem Zng (n:Nat):n < W32 ^ ml n:=Zeu.1 (Nat.le_refl _)
theorem Zri:ml 0=0:=rfl
theorem Zmo {a b:Nat} (h:a≤b):ml a≤ml b:=Zeu.2 (Nat.lt_of_le_of_lt h (Zng b))
theorem ZkX {xs:List Nat} (hd:Dig W32 xs) (ht:Trim xs):xs.length=ml (val W32 xs):=by
 have h1:=ZbY (n:=ml (val W32 xs)) Zrg ht (Zng _)
 have h2:ml (val W32 xs)≤xs.length:=Zeu.2 (Za1 hd)
 omega
theorem Zos {n:Nat} (h:0 < n):0 < ml n:=by
 unfold ml; rw [if_neg (by omega)]; omega
def Zbg (w:World) (v:Value) (n:Nat):Prop :=
 ∃ (A:Option Addr) (xs:List Nat) (c:Nat),v=.slice A xs.length c∧xs.length≤c∧Zae .u32 w A xs∧Dig W32 xs∧Trim xs∧val W32 xs=n
theorem Zbg.ext {w w':World} {v:Value} {n:Nat} (h:Zbg w v n) (hf:Ext w w'):Zbg w' v n:=by
 obtain ⟨A,xs,c,h1,h2,h4,h5⟩:=h
 exact ⟨A,xs,c,h1,h2,h4.ext hf,h5⟩
theorem Zbg.zero (w:World):Zbg w (.slice none 0 0) 0:=⟨none,[],0,rfl,by simp,Zae.nil,Dig.nil,Trim.nil,rfl⟩
theorem Zbg.of_own {w:World} {b:Nat} {xs:List Nat} (h:Own .u32 143 w b xs) (hd:Dig W32 xs) {c:Nat} (hc:xs.length≤c):Zbg w (.slice (some ⟨b,0,none⟩) (ZaX xs xs.length) c) (val W32 xs):=by
 refine ⟨_,Zba xs,c,by rw [Zbr],by rw [Zbr]; exact Nat.le_trans (Zdr _ _) hc,h.shows0.take _,ZcF hd,Zck xs,Zbi _ _⟩
theorem ZqL (s:Nat):(s:Int) % 4294967296=((s % W32:Nat):Int):=by rw [Zcy]; omega
end Go.Proofs.YtenchljfmfgeoaaGreatDoor

namespace Go.Proofs.YtenchljfmfgeoaaGreatDoor
open Go.RowKit
def Zgg (xs:List Nat) (d k:Nat) (zs:List Nat) (r:Nat):Prop :=
 zs.length=xs.length∧Dig W32 zs∧r < d∧val W32 (xs.drop k)=val W32 (zs.drop k) * d + r
theorem Zgg.start (xs:List Nat) {d:Nat} (h:0 < d):Zgg xs d xs.length (List.replicate xs.length 0) 0:=⟨by simp,Dig.replicate ZfU _,h,by simp⟩
theorem Zgg.step {xs zs:List Nat} {d k r x:Nat} (h:Zgg xs d (k + 1) zs r) (hk:k < xs.length) (hx:xs[k]?.getD 0=x) (dx:Dig W32 xs) :
 Zgg xs d k (zs.set k ((r * W32 + x) / d)) ((r * W32 + x) % d)∧(r * W32 + x) / d < W32:=by
 obtain ⟨h1,h2,h3,h4⟩:=h
 have hx':x < W32:=hx ▸ dx.getD ZfU k
 have hq:(r * W32 + x) / d < W32:=by
  apply Nat.div_lt_of_lt_mul
  have:(r + 1) * W32≤d * W32:=Nat.mul_le_mul_right _ h3
  rw [Nat.add_mul,Nat.one_mul] at this
  omega
 refine ⟨⟨by simpa using h1,h2.set k hq,Nat.mod_lt _ (by omega),?_⟩,hq⟩
 rw [ZaI k hk,ZaI (xs:=zs.set k _) k (by simp; omega),hx,List.drop_set_of_lt (by omega),List.getElem?_set_self (by omega)]
 exact Zic _ _ _ _ _ _ _ _ h4 (by have:=Nat.div_add_mod (r * W32 + x) d; rw [Nat.mul_comm d] at this; show _=(r * W32 + x) / d * d + _; omega)
theorem ZsP (r:Nat) (h:r < W32):IntKind.u64.wrap ((r:Int) * 4294967296)=((r * W32:Nat):Int):=by
 rw [Zcy] at *; rw [IntKind.wrap_u64]; omega
theorem or32 (r x:Nat) (hx:x < W32):r * W32 ||| x=r * W32 + x:=by
 rw [Zcy] at *
 have:=Nat.shiftLeft_add_eq_or_of_lt (i:=32) (b:=x) (by omega) r
 rw [Nat.shiftLeft_eq] at this
 exact this.symm
def ZjW (w:World) (x d:Nat) (e:Ending) (w':World):Prop:=∃ l c,e=.returned (.tuple #[.slice (some ⟨w.heap.size,0,none⟩) l c, .int .u32 ((x % d:Nat):Int)])∧Zbg w' (.slice (some ⟨w.heap.size,0,none⟩) l c) (x / d)∧Ext w w'
set_option maxHeartbeats 1000000 in
theorem Zkm (A:Option Addr) (xs:List Nat) (c d:Nat) (w:World) (hX:Zae .u32 w A xs) (hl:xs.length≤35184372088832) (hx:Dig W32 xs) (hd:0 < d) (hd2:d < W32) :
 Calls Tryz.prog 163 #[.slice A xs.length c, .int .u32 (d:Int)] w (ZjW w (val W32 xs) d):=by
 have HX:=zh hX
 have Hx:=zh hx
 have HD:=zh hd
 have HD2:=zh hd2
 have g1:(((d:Nat):Int) == 0)=false:=by simp; omega
 have q0:=ZbI d (by have:=Zan; have:=Zcy; omega)
 clear hX hx hd2
 go_enter Tryz.func163,Tryz.ntmps163
 go_wp2_with (
  at_make
  refine ZbR rfl _ _ _ rfl _ _ _ Tryz.underlying55 Zor _ _ _ _ xs.length rfl rfl (by omega) (by omega) (by omega) (by omega) ?_
  intro b w1 hb hO1 hC1 hF1 hs1
  have HO1:=zh hO1
  have HF1:=zh hF1
  have Hb:=zh hb
  clear hO1 hF1 hb hs1 hC1)
 go_loopw [7,8] (fun rv i wr=>∃ (k r:Nat) (m:List Nat),k≤xs.length∧i=.int .i64 ((k:Int) - 1)∧rv=.int .u64 r∧Hid (Zgg xs d k m r)∧Hid (Own .u32 143 wr b m)∧Hid (Ext w wr)) (fun _ i _=>(intOf i + 1).toNat)
 case atStart=>exact ⟨xs.length,0,_,by omega,rfl,rfl,Zgg.start _ HD.out,HO1,HF1⟩
 case round =>
  obtain ⟨k,r,m,hk,rfl,rfl,hR,hO2,hF2⟩:=hrel
  have hml:=hR.out.1
  by_cases hlt:0 < k
  ·obtain ⟨k,rfl⟩:∃ j,k=j + 1:=⟨k - 1,by omega⟩
   have hkx:k < xs.length:=by omega
   obtain ⟨b2,off2,rfl,_,hcx⟩:=(HX.out.ext hF2.out).at hkx
   obtain ⟨x,ex⟩:∃ x,xs[k]?.getD 0=x:=⟨_,rfl⟩
   rw [ex] at hcx
   have hx32:=ex ▸ Hx.out.getD ZfU k
   have hcz:=hO2.out.cell (i:=k) (by omega)
   have hfz:=hO2.out.frozen k
   obtain ⟨z,ez⟩:∃ z,m[k]?.getD 0=z:=⟨_,rfl⟩
   rw [ez] at hcz
   have hi:((k + 1:Nat):Int) - 1=(k:Int):=by omega
   rw [hi]
   obtain ⟨hst,hq⟩:=hR.out.step hkx ex Hx.out
   have HR2:=zh hst
   have hr32:r < W32:=Nat.lt_trans hR.out.2.2.1 HD2.out
   have q1:=ZsP r hr32
   have q2:=ZbI x (by have:=Zan; have:=Zcy; omega)
   have hrw:r * W32 + x < W64:=by
    have:(r + 1) * W32≤W32 * W32:=Nat.mul_le_mul_right _ hr32
    rw [Nat.add_mul,Zsf] at this; omega
   have q3:=Zes (a:=r * W32) (b:=x) (by omega) (by omega)
   rw [or32 r x hx32] at q3
   obtain ⟨rw1,e1⟩:∃ a,r * W32=a:=⟨_,rfl⟩
   rw [e1] at q1 q3 HR2 hq hrw
   obtain ⟨s,es⟩:∃ s,rw1 + x=s:=⟨_,rfl⟩
   rw [es] at q3 HR2 hq hrw
   have q4:(s:Int).tdiv (d:Int)=((s / d:Nat):Int):=by rw [Int.tdiv_eq_ediv_of_nonneg (by omega)]; rfl
   have q4':(s:Int) / (d:Int)=((s / d:Nat):Int):=rfl
   have q5:(s:Int).tmod (d:Int)=((s % d:Nat):Int):=by rw [Int.tmod_eq_emod_of_nonneg (by omega)]; rfl
   have q5':(s:Int) % (d:Int)=((s % d:Nat):Int):=rfl
   have HO3:=zh (hO2.out.set k (s / d) (by omega))
   have q6:=ZqL (s / d)
   rw [Nat.mod_eq_of_lt hq] at q6
   have q7:IntKind.u64.wrap ((s / d:Nat):Int)=((s / d:Nat):Int):=ZbI _ (by have:=Zan; have:=Zcy; omega)
   obtain ⟨q,eq⟩:∃ q,s / d=q:=⟨_,rfl⟩
   obtain ⟨r2,er⟩:∃ r2,s % d=r2:=⟨_,rfl⟩
   rw [eq] at q4 q4' q6 q7 HO3 HR2
   rw [er] at q5 q5' HR2
   clear ex ez hx32 hst hq hr32 hrw e1 es eq er hi
   go_wp2
   refine ⟨⟨k,_,_,by omega,rfl,rfl,HR2,HO3,hF2.out.setCell (p:=⟨b,k,none⟩) (Or.inr (by have:=Hb.out; show w.heap.size≤b; omega)) _⟩,?_⟩
   simp [intOf]
  ·obtain rfl:k=0:=by omega
   have hm2:=hR.out.2.2.2
   rw [List.drop_zero,List.drop_zero] at hm2
   have HT:=zh (Znf _ m xs.length xs.length wr hml hO2.out.shows0 (by omega) (by omega))
   have HN:=zh (Zbg.of_own (c:=xs.length) hO2.out hR.out.2.1 (by omega))
   have hr2:=hR.out.2.2.1
   have ed:val W32 xs / d=val W32 m:=by
    rw [hm2,Nat.mul_comm,Nat.mul_add_div HD.out,Nat.div_eq_of_lt hr2,Nat.add_zero]
   have er:val W32 xs % d=r:=by
    rw [hm2,Nat.mul_comm,Nat.mul_add_mod,Nat.mod_eq_of_lt hr2]
   rw [← ed] at HN
   have HE:=zh er
   have q6:=ZqL r
   rw [Nat.mod_eq_of_lt (Nat.lt_trans hr2 HD2.out)] at q6
   clear hm2 hr2 ed er hml
   go_wp2_with fail
   refine HT.out.mono ?_
   rintro e w2 ⟨rfl,rfl⟩
   clear HT
   go_wp2
   go_ret2
   exact ⟨_,_,by rw [HE.out,Hb.out]; rfl,by rw [Hb.out]; exact HN.out,hF2.out⟩
theorem ZkY (v:Value) (x d:Nat) (w:World) (hx:Zbg w v x) (hlx:ml x≤17592186044416) (hd:0 < d) (hd2:d < W32) :
 Calls Tryz.prog 163 #[v, .int .u32 (d:Int)] w (ZjW w x d):=by
 obtain ⟨A,xs,c,rfl,hc,hX,dx,tx,rfl⟩:=hx
 rw [← ZkX dx tx] at hlx
 exact Zkm A xs c d w hX (by omega) dx hd hd2
end Go.Proofs.YtenchljfmfgeoaaGreatDoor

namespace Go.Proofs.YtenchljfmfgeoaaGreatDoor
open Go.RowKit
end Go.Proofs.YtenchljfmfgeoaaGreatDoor

namespace Go.Proofs.YtenchljfmfgeoaaGreatDoor
open Go.RowKit
theorem top2 {B:Nat} {vs:List Nat} {n:Nat} (h:vs.length=n + 2):val B vs=val B (vs.take n) + B ^ n * ((vs[n]?.getD 0) + B * (vs[n + 1]?.getD 0)):=by
 rw [ZaT (xs:=vs) n,ZaI n (by omega),ZaI (n + 1) (by omega),List.drop_of_length_le (by omega:vs.length≤n + 1 + 1),Nat.min_eq_left (by omega)]
 simp
theorem top3 {B:Nat} {ws:List Nat} {n:Nat} (h:ws.length=n + 3):val B ws=val B (ws.take n) + B ^ n * ((ws[n]?.getD 0) + B * ((ws[n + 1]?.getD 0) + B * (ws[n + 2]?.getD 0))):=by
 rw [ZaT (xs:=ws) n,ZaI n (by omega),ZaI (n + 1) (by omega),ZaI (n + 2) (by omega),List.drop_of_length_le (by omega:ws.length≤n + 2 + 1),Nat.min_eq_left (by omega)]
 simp
def Zd9 (u v d:Nat):Prop:=d * v≤u + v∧u < (d + 1) * v
theorem ZiN (a:Nat) {b:Nat} (hb:0 < b):a < (a / b + 1) * b:=by
 have h1:=Nat.div_add_mod a b
 have h2:=Nat.mod_lt a hb
 rw [Nat.add_mul,Nat.mul_comm (a / b)]
 omega
theorem Zot {B:Nat} {ws vs:List Nat} {n a v1:Nat} (hB:2≤B) (hv:vs.length=n + 2) (hw:ws.length=n + 3) (dv:Dig B vs)
 (ea:ws[n + 2]?.getD 0=a) (e1:vs[n + 1]?.getD 0=v1) (hge:v1≤a) (hnorm:B≤2 * v1) (hu:val B ws < val B vs * B) :
 Zd9 (val B ws) (val B vs) (B - 1):=by
 have EV:val B vs=val B (vs.take (n + 1)) + B ^ (n + 1) * v1:=by
  have:=Zay (B:=B) (xs:=vs) (n + 1) (by omega)
  rw [List.take_of_length_le (by omega),e1] at this
  exact this
 have EW:val B ws=val B (ws.take (n + 2)) + B ^ (n + 2) * a:=by
  have:=Zay (B:=B) (xs:=ws) (n + 2) (by omega)
  rw [List.take_of_length_le (by omega),ea] at this
  exact this
 have hv':=Za1 (dv.take (n + 1))
 rw [List.length_take,Nat.min_eq_left (by omega)] at hv'
 obtain ⟨C,rfl⟩:∃ C,B=C + 2:=⟨B - 2,by omega⟩
 refine ⟨?_,by rw [show C + 2 - 1 + 1=C + 2 by omega,Nat.mul_comm]; exact hu⟩
 have h1:val (C + 2) vs≤(C + 2) ^ (n + 1) * (v1 + 1):=by rw [EV,Nat.mul_add]; omega
 have h2:C * val (C + 2) vs≤C * ((C + 2) ^ (n + 1) * (v1 + 1)):=Nat.mul_le_mul_left C h1
 have h3:C * ((C + 2) ^ (n + 1) * (v1 + 1))=(C + 2) ^ (n + 1) * (C * (v1 + 1)):=Nat.mul_left_comm _ _ _
 have h4:C * (v1 + 1)≤(C + 2) * v1:=by rw [Nat.mul_add,Nat.add_mul]; omega
 have h5:(C + 2) ^ (n + 1) * (C * (v1 + 1))≤(C + 2) ^ (n + 1) * ((C + 2) * v1):=Nat.mul_le_mul_left _ h4
 have h6:(C + 2) ^ (n + 2) * v1=(C + 2) ^ (n + 1) * ((C + 2) * v1):=by rw [Nat.pow_succ,Nat.mul_assoc]
 have h7:(C + 2) ^ (n + 2) * v1≤(C + 2) ^ (n + 2) * a:=Nat.mul_le_mul_left _ hge
 rw [show C + 2 - 1=C + 1 by omega,Nat.add_mul,Nat.one_mul]
 omega
theorem Zou {B:Nat} {ws vs:List Nat} {n a b c0 v1 v0:Nat} (hB:0 < B) (hv:vs.length=n + 2) (hw:ws.length=n + 3) (dv:Dig B vs) (dw:Dig B ws)
 (ea:ws[n + 2]?.getD 0=a) (eb:ws[n + 1]?.getD 0=b) (ec:ws[n]?.getD 0=c0) (e1:vs[n + 1]?.getD 0=v1) (e0:vs[n]?.getD 0=v0) (hlt:a < v1) :
 Zd9 (val B ws) (val B vs) (((a * B + b) * B + c0) / (v1 * B + v0)):=by
 have hb:b < B:=eb ▸ dw.getD hB _
 have hc:c0 < B:=ec ▸ dw.getD hB _
 have hU:a * B + b < v1 * B:=by
  have:(a + 1) * B≤v1 * B:=Nat.mul_le_mul_right B hlt
  rw [Nat.add_mul] at this; omega
 have hq:((a * B + b) * B + c0) / (v1 * B + v0) < B:=by
  rw [Nat.div_lt_iff_lt_mul (by omega)]
  have:(a * B + b + 1) * B≤(v1 * B + v0) * B:=Nat.mul_le_mul_right B (by omega)
  rw [Nat.add_mul (a * B + b)] at this
  rw [Nat.mul_comm B]
  omega
 have hvB:B≤v1 * B + v0:=by
  have:1 * B≤v1 * B:=Nat.mul_le_mul_right B (by omega)
  omega
 have hd:=Nat.div_mul_le_self ((a * B + b) * B + c0) (v1 * B + v0)
 have hd2:(a * B + b) * B + c0 < (((a * B + b) * B + c0) / (v1 * B + v0) + 1) * (v1 * B + v0):=ZiN _ (by omega)
 have hv':=Za1 (dv.take n)
 have hw':=Za1 (dw.take n)
 rw [List.length_take,Nat.min_eq_left (by omega)] at hv' hw'
 have EV:val B vs=(v1 * B + v0) * B ^ n + val B (vs.take n):=by
  rw [top2 hv,e1,e0,Nat.add_comm,Nat.mul_comm (B ^ n),Nat.mul_comm B v1,Nat.add_comm v0]
 have EW:val B ws=((a * B + b) * B + c0) * B ^ n + val B (ws.take n):=by
  rw [top3 hw,ea,eb,ec,Nat.add_comm,Nat.mul_comm (B ^ n),Nat.add_comm c0,Nat.mul_comm B,Nat.add_comm b,Nat.mul_comm B a]
 rw [EV,EW]
 exact ⟨Zr7 _ _ _ _ _ _ B hv' hq (Nat.mul_le_mul_right _ hvB) hd,Zn7 _ _ _ _ _ _ hw' hd2⟩
theorem Zov {P:Program} {f:FuncId} {args:Array Value} {w:World} {a n:Nat} {v:Value}
 (h:Calls P f args (w.drewN (a + n)) fun e w'=>e=.returned v∧∃ m,w'=(w.drewN (a + n)).drewN m) :
 Calls P f args (w.drewN (a + n)) fun e w''=>e=.returned v∧∃ m,w''=w.drewN (a + m) :=
 h.mono fun _ _ ⟨he,m,hm⟩=>⟨he,n + m,by rw [hm,World.drewN_drewN,Nat.add_assoc]⟩
theorem Znh {H U v1 v0 u qi ri:Nat} (hH:0 < H) (hv1:0 < v1) (hu:u < H) (h:qi * v1 + ri=U) (hr:ri < v1):Zcj H U v1 v0 u qi ri:=by
 refine ⟨h,?_⟩
 have hp:0 < v1 * H:=Nat.mul_pos hv1 hH
 rw [← Nat.lt_succ_iff,Nat.div_lt_iff_lt_mul (by omega)]
 have h1:U < (qi + 1) * v1:=by rw [Nat.add_mul]; omega
 have h2:(U + 1) * H≤(qi + 1) * v1 * H:=Nat.mul_le_mul_right _ h1
 rw [Nat.succ_eq_add_one,Nat.mul_add,← Nat.mul_assoc]
 rw [Nat.add_mul U] at h2
 omega
theorem ZpM {p q rest c0:Nat} (hp:Zat p q < W64) (hc:c0 < W64):(ZaN p q < rest∨ZaN p q=rest∧Zat p q≤c0) ↔ p * q≤W64 * rest + c0:=by
 have h:=Zde p q
 constructor
 ·rintro (h1 | ⟨h1,h2⟩)
  ·have:W64 * (ZaN p q + 1)≤W64 * rest:=Nat.mul_le_mul_left _ h1
   rw [Nat.mul_add] at this
   omega
  ·rw [h1] at h; omega
 ·intro h1
  rcases Nat.lt_trichotomy (ZaN p q) rest with h2 | h2 | h2
  ·exact Or.inl h2
  ·exact Or.inr ⟨h2,by rw [h2] at h; omega⟩
  ·have:W64 * (rest + 1)≤W64 * ZaN p q:=Nat.mul_le_mul_left _ h2
   rw [Nat.mul_add] at this
   omega
def Zrj (u v:Nat) (w:World) (e:Ending) (w':World):Prop:=∃ d:Nat,e=.returned (.int .u64 (d:Int))∧d < W64∧Zd9 u v d∧∃ n,w'=w.drewN n
set_option maxHeartbeats 2000000 in
theorem ZkZ (A A2:Option Addr) (ws vs:List Nat) (n m c c2 k:Nat) (w:World) (hn:ws.length=n) (hm:vs.length=m) (hW:Zae .u64 w A ws) (hV:Zae .u64 w A2 vs) (hk:vs.length=k + 2) (hwl:ws.length=k + 3) (hl:k≤1099511627776)
 (dw:Dig W64 ws) (dv:Dig W64 vs) (hnorm:W64≤2 * (vs[k + 1]?.getD 0)) (hu:val W64 ws < val W64 vs * W64) :
 Calls Tryz.prog 243 #[.slice A n c, .slice A2 m c2] w (Zrj (val W64 ws) (val W64 vs) w):=by
 obtain ⟨b1,o1,rfl,_,hca⟩:=hW.at (i:=k + 2) (by omega)
 obtain ⟨b1',o1',e1',_,hcb⟩:=hW.at (i:=k + 1) (by omega)
 injection e1' with e1'; injection e1' with f1 f2; subst f1 f2
 obtain ⟨b1',o1',e1',_,hcc⟩:=hW.at (i:=k) (by omega)
 injection e1' with e1'; injection e1' with f1 f2; subst f1 f2
 obtain ⟨b2,o2,rfl,_,hc1⟩:=hV.at (i:=k + 1) (by omega)
 obtain ⟨b2',o2',e2',_,hc0⟩:=hV.at (i:=k) (by omega)
 injection e2' with e2'; injection e2' with f1 f2; subst f1 f2
 obtain ⟨a,ea⟩:∃ a,ws[k + 2]?.getD 0=a:=⟨_,rfl⟩
 obtain ⟨bb,eb⟩:∃ bb,ws[k + 1]?.getD 0=bb:=⟨_,rfl⟩
 obtain ⟨cc,ec⟩:∃ cc,ws[k]?.getD 0=cc:=⟨_,rfl⟩
 obtain ⟨v1,e1⟩:∃ v1,vs[k + 1]?.getD 0=v1:=⟨_,rfl⟩
 obtain ⟨v0,e0⟩:∃ v0,vs[k]?.getD 0=v0:=⟨_,rfl⟩
 rw [ea] at hca
 rw [eb] at hcb
 rw [ec] at hcc
 rw [e1] at hc1 hnorm
 rw [e0] at hc0
 have hab:Hid (a < W64):=ea ▸ dw.getD Zah _
 have hbb:Hid (bb < W64):=eb ▸ dw.getD Zah _
 have hcb':Hid (cc < W64):=ec ▸ dw.getD Zah _
 have hv1b:Hid (v1 < W64):=e1 ▸ dv.getD Zah _
 have hv0b:Hid (v0 < W64):=e0 ▸ dv.getD Zah _
 obtain rfl:m=k + 2:=by omega
 obtain rfl:n=k + 3:=by omega
 by_cases hge:v1≤a
 ·have HD:=zh (Zot Zmk hk hwl dv ea e1 hge hnorm hu)
  clear hW hV dw dv hnorm hu ea eb ec e1 e0 hn hm hk hwl
  go_enter Tryz.func243,Tryz.ntmps243
  go_wp2
  have g3:IntKind.i64.wrap ((k:Int) + 2 - 1)=(k:Int) + 1:=by rw [IntKind.wrap_i64]; omega
  have g4:IntKind.i64.wrap ((k:Int) + 2 - 2)=(k:Int):=by rw [IntKind.wrap_i64]; omega
  have g5:(0:Int)≤(k:Int) + 1:=by omega
  have g6:((k:Int) + 1).toNat=k + 1:=by omega
  have g7:(k:Int) + 1 < (k:Int) + 2:=by omega
  have g8:(k:Int) < (k:Int) + 2:=by omega
  go_quiet (fail)
  clear g3 g4 g5 g6 g7 g8
  go_wp2
  go_ret
  exact ⟨W64 - 1,by rw [show (((W64 - 1:Nat):Int))=18446744073709551615 by rw [Zan]; rfl]; rfl,by have:=Zah; omega,HD.out,_,rfl⟩
 ·have HD:=zh (Zou Zah hk hwl dv dw ea eb ec e1 e0 (by omega))
  have hlt:a < v1:=by omega
  have hU:Hid (a * W64 + bb < v1 * W64 + v0):=by
   have:(a + 1) * W64≤v1 * W64:=Nat.mul_le_mul_right _ hlt
   rw [Nat.add_mul] at this
   have:=hbb.out
   unfold Hid; omega
  have hpos:Hid (0 < v1 * W64 + v0):=by have:=hU.out; unfold Hid; omega
  have HE:=zh (Znh (v0:=v0) (u:=cc) Zah (by omega) hcb'.out (Zgb a bb v1) (ZfN _ _ (by omega)))
  have hq0:Hid (divQ a bb v1 < W64):=Zji hlt hbb.out
  have hr0:Hid (divR a bb v1 < W64):=Nat.lt_trans (ZfN _ _ (by omega)) hv1b.out
  clear hW hV dw dv hnorm hu ea eb ec e1 e0 hn hm hk hwl
  go_enter Tryz.func243,Tryz.ntmps243
  go_wp2
  have g3:IntKind.i64.wrap ((k:Int) + 2 - 1)=(k:Int) + 1:=by rw [IntKind.wrap_i64]; omega
  have g4:IntKind.i64.wrap ((k:Int) + 2 - 2)=(k:Int):=by rw [IntKind.wrap_i64]; omega
  have g5:(0:Int)≤(k:Int) + 1:=by omega
  have g6:((k:Int) + 1).toNat=k + 1:=by omega
  have g7:(k:Int) + 1 < (k:Int) + 2:=by omega
  have g8:(k:Int) < (k:Int) + 2:=by omega
  go_quiet (fail)
  clear g3 g4 g5 g6 g7 g8
  go_wp2
  have g3:IntKind.i64.wrap ((k:Int) + 2 - 1)=(k:Int) + 1:=by rw [IntKind.wrap_i64]; omega
  have g5:(0:Int)≤(k:Int) + 1:=by omega
  have g6:((k:Int) + 1).toNat=k + 1:=by omega
  have g7:(k:Int) + 1 < (k:Int) + 3:=by omega
  have g8:(k:Int) + 2 < (k:Int) + 3:=by omega
  have g9:(0:Int)≤(k:Int) + 2:=by omega
  have g10:((k:Int) + 2).toNat=k + 2:=by omega
  go_quiet ((go_at_call 174; exact Zov (Zff _ _ _ _ hlt hv1b.out hbb.out)))
  clear g3 g5 g6 g7 g8 g9 g10
  go_wp2
  go_loopw [8,9] (fun qv rv wr=>∃ q r m:Nat,qv=.int .u64 (q:Int)∧rv=.int .u64 (r:Int)∧Hid (q < W64)∧Hid (r < W64)∧Hid (Zcj W64 (a * W64 + bb) v1 v0 cc q r)∧Hid (wr=w.drewN m)) (fun qv _ _=>(intOf qv).toNat)
  case atStart=>exact ⟨_,_,_,rfl,rfl,hq0,hr0,HE,World.drewN_drewN _ _ _⟩
  case round =>
   obtain ⟨q,r,m,rfl,rfl,hqW,hrW,Q,hW⟩:=hrel
   obtain rfl:=hW.out
   clear hW
   have hgo:∀ hh:W64 * r + cc < q * v0,Hid (Zcj W64 (a * W64 + bb) v1 v0 cc (q - 1) (r + v1)):=fun hh=>Ze0 hpos.out hh Q.out
   have Hgo:=zh hgo
   clear hgo
   have htest:=zh (ZpM (p:=q) (q:=v0) (rest:=r) (ZpF _ _) hcb'.out)
   have hdone:∀ hh:q * v0≤W64 * r + cc,q=((a * W64 + bb) * W64 + cc) / (v1 * W64 + v0):=fun hh=>Zd6 hpos.out hh Q.out
   have Hdone:=zh hdone
   clear hdone
   obtain ⟨hi,ehi⟩:∃ hi,ZaN q v0=hi:=⟨_,rfl⟩
   obtain ⟨lo,elo⟩:∃ lo,Zat q v0=lo:=⟨_,rfl⟩
   rw [ehi,elo] at htest
   have hmul:=zh (Zeq q v0 hqW.out hv0b.out (w.drewN m))
   rw [ehi,elo] at hmul
   clear ehi elo
   by_cases t1:hi < r
   ·have Hq:=zh (Hdone.out (htest.out.1 (Or.inl t1)))
    have t1':=Zdu t1
    go_wp2_with (go_at_call 161; refine hmul.out.mono ?_; rintro e w' ⟨rfl,rfl⟩)
    go_ret
    exact ⟨q,rfl,hqW.out,by rw [Hq.out]; exact HD.out,_,rfl⟩
   ·have t1':=ZcY t1
    by_cases t2:hi=r
    ·subst t2
     by_cases t3:lo≤cc
     ·have Hq:=zh (Hdone.out (htest.out.1 (Or.inr ⟨rfl,t3⟩)))
      go_wp2_with (go_at_call 161; refine hmul.out.mono ?_; rintro e w' ⟨rfl,rfl⟩)
      go_ret
      exact ⟨q,rfl,hqW.out,by rw [Hq.out]; exact HD.out,_,rfl⟩
     ·have hov:W64 * hi + cc < q * v0:=by
       rcases Nat.lt_or_ge (W64 * hi + cc) (q * v0) with h | h
       ·exact h
       ·rcases htest.out.2 h with h | h<;>omega
      have hE2:=Hgo.out hov
      have hq0':0 < q:=by
       rcases Nat.eq_zero_or_pos q with e | e
       ·rw [e,Nat.zero_mul] at hov; omega
       ·exact e
      clear hov
      have g1:=ZcM hq0' hqW.out
      obtain ⟨q1,eq1⟩:∃ q1,q - 1=q1:=⟨_,rfl⟩
      rw [eq1] at g1 hE2
      have hq1:q1 < q:=by omega
      have hq1W:Hid (q1 < W64):=by have:=hqW.out; unfold Hid; omega
      have HE2:=zh hE2.out
      clear eq1 hE2 hq0'
      by_cases hbr:hi + v1 < W64
      ·have g2:=ZbZ hbr
       obtain ⟨r1,er1⟩:∃ r1,hi + v1=r1:=⟨_,rfl⟩
       rw [er1] at g2 HE2
       have t5:=ZcY (a:=r1) (b:=v1) (by omega)
       have hr1W:Hid (r1 < W64):=by unfold Hid; omega
       clear er1 hbr
       go_wp2_with (go_at_call 161; refine hmul.out.mono ?_; rintro e w' ⟨rfl,rfl⟩)
       go_roundw
       case rel=>exact ⟨q1,r1,_,rfl,rfl,hq1W,hr1W,HE2,rfl⟩
       case measure=>simp [intOf]; omega
      ·have Hq:=zh (Zce hU.out hv0b.out (by omega) HE2.out)
       have g2:IntKind.u64.wrap ((hi:Int) + (v1:Int))=((hi + v1 - W64:Nat):Int):=by
        have h1:=hrW.out
        have h2:=hv1b.out
        rw [Zan] at *
        rw [IntKind.wrap_u64]
        omega
       obtain ⟨r1,er1⟩:∃ r1,hi + v1 - W64=r1:=⟨_,rfl⟩
       rw [er1] at g2
       have t5:=Zdu (a:=r1) (b:=v1) (by have:=hrW.out; omega)
       clear er1 hbr
       go_wp2_with (go_at_call 161; refine hmul.out.mono ?_; rintro e w' ⟨rfl,rfl⟩)
       go_ret
       exact ⟨q1,rfl,hq1W.out,by rw [Hq.out]; exact HD.out,_,rfl⟩
    ·have t2':((hi:Int) == (r:Int))=false:=by simp; omega
     have hov:W64 * r + cc < q * v0:=by
      rcases Nat.lt_or_ge (W64 * r + cc) (q * v0) with h | h
      ·exact h
      ·rcases htest.out.2 h with h | h<;>omega
     have hE2:=Hgo.out hov
     have hq0':0 < q:=by
      rcases Nat.eq_zero_or_pos q with e | e
      ·rw [e,Nat.zero_mul] at hov; omega
      ·exact e
     clear hov
     have g1:=ZcM hq0' hqW.out
     obtain ⟨q1,eq1⟩:∃ q1,q - 1=q1:=⟨_,rfl⟩
     rw [eq1] at g1 hE2
     have hq1:q1 < q:=by omega
     have hq1W:Hid (q1 < W64):=by have:=hqW.out; unfold Hid; omega
     have HE2:=zh hE2.out
     clear eq1 hE2 hq0'
     by_cases hbr:r + v1 < W64
     ·have g2:=ZbZ hbr
      obtain ⟨r1,er1⟩:∃ r1,r + v1=r1:=⟨_,rfl⟩
      rw [er1] at g2 HE2
      have t5:=ZcY (a:=r1) (b:=v1) (by omega)
      have hr1W:Hid (r1 < W64):=by unfold Hid; omega
      clear er1 hbr
      go_wp2_with (go_at_call 161; refine hmul.out.mono ?_; rintro e w' ⟨rfl,rfl⟩)
      go_roundw
      case rel=>exact ⟨q1,r1,_,rfl,rfl,hq1W,hr1W,HE2,rfl⟩
      case measure=>simp [intOf]; omega
     ·have Hq:=zh (Zce hU.out hv0b.out (by omega) HE2.out)
      have g2:IntKind.u64.wrap ((r:Int) + (v1:Int))=((r + v1 - W64:Nat):Int):=by
       have h1:=hrW.out
       have h2:=hv1b.out
       rw [Zan] at *
       rw [IntKind.wrap_u64]
       omega
      obtain ⟨r1,er1⟩:∃ r1,r + v1 - W64=r1:=⟨_,rfl⟩
      rw [er1] at g2
      have t5:=Zdu (a:=r1) (b:=v1) (by have:=hrW.out; omega)
      clear er1 hbr
      go_wp2_with (go_at_call 161; refine hmul.out.mono ?_; rintro e w' ⟨rfl,rfl⟩)
      go_ret
      exact ⟨q1,rfl,hq1W.out,by rw [Hq.out]; exact HD.out,_,rfl⟩
end Go.Proofs.YtenchljfmfgeoaaGreatDoor

namespace Go.Proofs.YtenchljfmfgeoaaGreatDoor
theorem ZpN {u v d:Nat} (h:Zd9 u v d) (hge:d * v≤u):d=u / v:=by
 have h2:=h.2
 have h3:u < (d + 1) * v:=h2
 have:=Nat.div_eq_of_lt_le (m:=u) (n:=v) (k:=d) (by omega) (by simpa using h3)
 exact this.symm
theorem Zni {u v d:Nat} (h:Zd9 u v d) (hlt:u < d * v):0 < d∧d - 1=u / v:=by
 have h1:=h.1
 have hd:0 < d:=by
  rcases Nat.eq_zero_or_pos d with e | e
  ·subst e; simp at hlt
  ·exact e
 obtain ⟨c,rfl⟩:∃ c,d=c + 1:=⟨d - 1,by omega⟩
 refine ⟨hd,?_⟩
 have e:c + 1 - 1=c:=by omega
 rw [e]
 rw [Nat.add_mul] at h1
 exact (Nat.div_eq_of_lt_le (m:=u) (n:=v) (k:=c) (by omega) (by simpa using hlt)).symm
theorem Znj {P v u low top d borrow m:Nat} (hv:v≤P) (hu:u=low + P * top) (hd:Zd9 u v d) (hm:m + v * d=low + P * borrow) (hle:borrow≤top) :
 d=u / v∧m=u % v∧top=borrow:=by
 have e1:u=d * v + (m + P * (top - borrow)):=by
  obtain ⟨t,rfl⟩:∃ t,top=borrow + t:=⟨top - borrow,by omega⟩
  rw [show borrow + t - borrow=t by omega,hu,Nat.mul_add,Nat.mul_comm d]
  omega
 have hq:=ZpN hd (by omega)
 have hr:m + P * (top - borrow) < v:=by
  have:=hd.2
  rw [Nat.add_mul] at this
  omega
 have htb:top - borrow=0:=by
  rcases Nat.eq_zero_or_pos (top - borrow) with h | h
  ·exact h
  ·have:P * 1≤P * (top - borrow):=Nat.mul_le_mul_left P h
   omega
 refine ⟨hq,?_,by omega⟩
 rw [htb] at e1 hr
 simp only [Nat.mul_zero,Nat.add_zero] at e1 hr
 rw [e1,Nat.mul_comm,Nat.mul_add_mod,Nat.mod_eq_of_lt hr]
theorem Zow {P v u low top d borrow m m2 c:Nat} (hv0:0 < v) (hv:v≤P) (hu:u=low + P * top) (hd:Zd9 u v d) (hm:m + v * d=low + P * borrow) (hlt:top < borrow)
 (hmP:m < P) (hm2:m2 + P * c=m + v) (hm2P:m2 < P):0 < d∧d - 1=u / v∧m2=u % v∧c + top=borrow:=by
 have hud:u < d * v:=by
  have:P * (top + 1)≤P * borrow:=Nat.mul_le_mul_left P hlt
  rw [Nat.mul_add] at this
  rw [Nat.mul_comm d]
  omega
 obtain ⟨hd0,hq⟩:=Zni hd hud
 obtain ⟨q,rfl⟩:∃ q,d=q + 1:=⟨d - 1,by omega⟩
 have e:q + 1 - 1=q:=by omega
 rw [e] at hq ⊢
 refine ⟨hd0,hq,?_⟩
 have hmod:=Nat.div_add_mod u v
 have hml:=Nat.mod_lt u hv0
 rw [← hq,Nat.mul_comm] at hmod
 rw [Nat.mul_add] at hm
 -- m2 + P*(c + top)=u % v + P * borrow
 have key:m2 + P * (c + top)=u % v + P * borrow:=by
  rw [Nat.mul_add,Nat.mul_comm q] at *
  omega
 have hc:c + top=borrow:=by
  rcases Nat.lt_trichotomy (c + top) borrow with h | h | h
  ·have:P * (c + top + 1)≤P * borrow:=Nat.mul_le_mul_left P h
   rw [Nat.mul_add] at this
   omega
  ·exact h
  ·have:P * (borrow + 1)≤P * (c + top):=Nat.mul_le_mul_left P h
   rw [Nat.mul_add] at this
   omega
 rw [hc] at key
 exact ⟨by omega,hc⟩
def Zc5 (X v n k:Nat) (rs qs:List Nat):Prop :=
 Dig W64 rs∧Dig W64 qs∧rs.length=qs.length + n∧val W64 rs + val W64 (qs.drop k) * W64 ^ k * v=X∧val W64 (rs.drop k) < v
theorem Zc5.window {X v n k:Nat} {rs qs:List Nat} (h:Zc5 X v n (k + 1) rs qs) (hv:v≤W64 ^ n) (hk:k + n < rs.length) :
 val W64 (rs.drop k)=val W64 ((rs.drop k).take (n + 1))∧val W64 (rs.drop k) < v * W64∧val W64 (rs.drop (k + n + 1))=0:=by
 obtain ⟨h1,h2,h3,h4,h5⟩:=h
 have hz:val W64 (rs.drop (k + n + 1))=0:=by
  have e:=ZaT (B:=W64) (xs:=rs.drop (k + 1)) n
  rw [List.drop_drop,show k + 1 + n=k + n + 1 by omega,Nat.min_eq_left (by simp; omega)] at e
  rcases Nat.eq_zero_or_pos (val W64 (rs.drop (k + n + 1))) with h | h
  ·exact h
  ·have:W64 ^ n * 1≤W64 ^ n * val W64 (rs.drop (k + n + 1)):=Nat.mul_le_mul_left _ h
   omega
 refine ⟨?_,?_,hz⟩
 ·have e:=ZaT (B:=W64) (xs:=rs.drop k) (n + 1)
  rw [List.drop_drop,show k + (n + 1)=k + n + 1 by omega,hz] at e
  simpa using e
 ·rw [ZaI k (by omega)]
  have hd:=h1.getD Zah k
  have:W64 * (val W64 (rs.drop (k + 1)) + 1)≤W64 * v:=Nat.mul_le_mul_left _ h5
  rw [Nat.mul_add] at this
  rw [Nat.mul_comm v]
  omega
theorem Zc5.step {X v n k q:Nat} {rs qs m:List Nat} (h:Zc5 X v n (k + 1) rs qs) (hv0:0 < v) (hv:v≤W64 ^ n) (hk:k + n < rs.length) (hm:m.length=n) (hd:Dig W64 m) (hq:q=val W64 (rs.drop k) / v) (hr:val W64 m=val W64 (rs.drop k) % v) :
 Zc5 X v n k (rs.take k ++ m ++ (0 :: rs.drop (k + n + 1))) (qs.set k q):=by
 obtain ⟨w1,w2,w3⟩:=h.window hv hk
 obtain ⟨h1,h2,h3,h4,h5⟩:=h
 have hkq:k < qs.length:=by omega
 have hqW:q < W64:=by rw [hq,Nat.div_lt_iff_lt_mul hv0,Nat.mul_comm]; exact w2
 have hlk:(rs.take k).length=k:=by simp; omega
 have hnew:val W64 (m ++ (0 :: rs.drop (k + n + 1)))=val W64 m:=by
  rw [ZbP,ZcV,w3]; simp
 have hdrop:(rs.take k ++ m ++ (0 :: rs.drop (k + n + 1))).drop k=m ++ (0 :: rs.drop (k + n + 1)):=by
  rw [List.append_assoc,List.drop_append,hlk,List.drop_of_length_le (by omega),Nat.sub_self]; simp
 refine ⟨((h1.take k).append hd).append (Dig.cons Zah (h1.drop _)),h2.set k hqW,?_,?_,?_⟩
 ·simp [hm]; omega
 ·rw [List.append_assoc,ZbP,hlk,hnew,hr]
  rw [ZaI (xs:=qs.set k q) k (by simpa using hkq),List.drop_set_of_lt (by omega)]
  have eq0:(qs.set k q)[k]?.getD 0=q:=by rw [List.getElem?_set_self hkq]; rfl
  rw [eq0]
  have e1:=ZaT (B:=W64) (xs:=rs) k
  rw [Nat.min_eq_left (by omega)] at e1
  have e2:=Nat.div_add_mod (val W64 (rs.drop k)) v
  rw [← hq] at e2
  have e3:=congrArg (W64 ^ k * ·) e2
  simp only [Nat.mul_add] at e3
  rw [Nat.add_mul,Nat.add_mul]
  have e4:q * W64 ^ k * v=W64 ^ k * (v * q):=by rw [Nat.mul_comm q,Nat.mul_assoc,Nat.mul_comm q]
  have e5:W64 * val W64 (qs.drop (k + 1)) * W64 ^ k * v=val W64 (qs.drop (k + 1)) * W64 ^ (k + 1) * v:=by
   rw [Nat.pow_succ,Nat.mul_comm W64 (val W64 _),Nat.mul_assoc (val W64 _) W64,Nat.mul_comm W64 (W64 ^ k)]
  rw [e4,e5]
  omega
 ·rw [hdrop,hnew,hr]; exact Nat.mod_lt _ hv0
theorem Zc5.done {X v n:Nat} {rs qs:List Nat} (h:Zc5 X v n 0 rs qs):val W64 qs=X / v∧val W64 rs=X % v:=by
 obtain ⟨h1,h2,h3,h4,h5⟩:=h
 rw [List.drop_zero] at h4 h5
 simp only [Nat.pow_zero,Nat.mul_one] at h4
 rw [← h4,Nat.add_comm,Nat.mul_comm,Nat.mul_add_div (by omega),Nat.mul_add_mod,Nat.mod_eq_of_lt h5,Nat.div_eq_of_lt h5]
 exact ⟨by omega,rfl⟩
theorem Zc5.start {x y s L n:Nat} {rs:List Nat} (hd:Dig W64 rs) (hl:rs.length=L + 1) (hv:val W64 rs=x * 2 ^ s) (hx:x < W64 ^ L) (hy:W64 ^ (n - 1)≤y) (hn:1≤n) (hnL:n≤L) :
 Zc5 (x * 2 ^ s) (y * 2 ^ s) n (L - n + 1) rs (List.replicate (L - n + 1) 0):=by
 refine ⟨hd,Dig.replicate Zah _,by simp; omega,?_,?_⟩
 ·rw [List.drop_of_length_le (by simp)]; simp [hv]
 ·have e:=ZaT (B:=W64) (xs:=rs) (L - n + 1)
  rw [Nat.min_eq_left (by omega),hv] at e
  have hp:0 < 2 ^ s:=Nat.pow_pos (by omega)
  have h1:W64 ^ (L - n + 1) * val W64 (rs.drop (L - n + 1))≤x * 2 ^ s:=by omega
  have h2:x * 2 ^ s < W64 ^ L * 2 ^ s:=Nat.mul_lt_mul_of_pos_right hx hp
  have h3:W64 ^ L=W64 ^ (L - n + 1) * W64 ^ (n - 1):=by rw [← Nat.pow_add,show L - n + 1 + (n - 1)=L by omega]
  rw [h3,Nat.mul_assoc] at h2
  have h4:W64 ^ (L - n + 1) * val W64 (rs.drop (L - n + 1)) < W64 ^ (L - n + 1) * (W64 ^ (n - 1) * 2 ^ s):=by omega
  have h5:=Nat.lt_of_mul_lt_mul_left h4
  exact Nat.lt_of_lt_of_le h5 (Nat.mul_le_mul_right _ hy)
theorem Zox {ys vs:List Nat} {n yt s:Nat} (hl:ys.length=n + 1) (dy:Dig W64 ys) (ey:ys[n]?.getD 0=yt) (hyt:0 < yt) (hs:64 - Lib.bitLen yt=s) (dv:Dig W64 vs) (tv:Trim vs) (hv:val W64 vs=val W64 ys * 2 ^ s) :
 vs.length=n + 1∧W64≤2 * (vs[n]?.getD 0)∧W64 ^ n≤val W64 ys∧s≤63:=by
 have hytW:yt < W64:=ey ▸ dy.getD Zah _
 obtain ⟨l1,l2,l3,l4⟩:=Zc4 hyt hytW
 have EY:val W64 ys=val W64 (ys.take n) + W64 ^ n * yt:=by
  have:=Zay (B:=W64) (xs:=ys) n (by omega)
  rw [List.take_of_length_le (by omega),ey] at this
  exact this
 have hlow:=Za1 (dy.take n)
 rw [List.length_take,Nat.min_eq_left (by omega)] at hlow
 have hp:0 < 2 ^ s:=Nat.pow_pos (by omega)
 have hhi:val W64 ys * 2 ^ s < W64 ^ (n + 1):=by
  have h1:val W64 ys < W64 ^ n * 2 ^ Lib.bitLen yt:=by
   have:W64 ^ n * (yt + 1)≤W64 ^ n * 2 ^ Lib.bitLen yt:=Nat.mul_le_mul_left _ l4
   rw [Nat.mul_add] at this
   omega
  have h2:=Nat.mul_lt_mul_of_pos_right h1 hp
  rw [Nat.mul_assoc,← Nat.pow_add,show Lib.bitLen yt + s=64 by omega] at h2
  rw [Nat.pow_succ,Zan] at *
  exact h2
 have hlo:W64 ^ n * 2 ^ 63≤val W64 ys * 2 ^ s:=by
  have h1:W64 ^ n * 2 ^ (Lib.bitLen yt - 1)≤val W64 ys:=by
   have:W64 ^ n * 2 ^ (Lib.bitLen yt - 1)≤W64 ^ n * yt:=Nat.mul_le_mul_left _ l3
   omega
  have h2:=Nat.mul_le_mul_right (2 ^ s) h1
  rw [Nat.mul_assoc,← Nat.pow_add,show Lib.bitLen yt - 1 + s=63 by omega] at h2
  exact h2
 have hlen1:vs.length≤n + 1:=ZbY ZcK tv (hv ▸ hhi)
 have hlen2:n + 1≤vs.length:=by
  rcases Nat.lt_or_ge vs.length (n + 1) with h | h
  ·have h1:=Za1 dv
   have h2:W64 ^ vs.length≤W64 ^ n:=Nat.pow_le_pow_right Zah (by omega)
   have h3:W64 ^ n * 1≤W64 ^ n * 2 ^ 63:=Nat.mul_le_mul_left _ (by decide)
   omega
  ·exact h
 refine ⟨by omega,?_,?_,by omega⟩
 ·have EV:val W64 vs=val W64 (vs.take n) + W64 ^ n * (vs[n]?.getD 0):=by
   have:=Zay (B:=W64) (xs:=vs) n (by omega)
   rw [List.take_of_length_le (by omega)] at this
   exact this
  have hlow2:=Za1 (dv.take n)
  rw [List.length_take,Nat.min_eq_left (by omega)] at hlow2
  have h1:W64 ^ n * 2 ^ 63 < W64 ^ n * ((vs[n]?.getD 0) + 1):=by rw [Nat.mul_add]; omega
  have h2:=Nat.lt_of_mul_lt_mul_left h1
  rw [Zan]
  omega
 ·have:W64 ^ n * 1≤W64 ^ n * yt:=Nat.mul_le_mul_left _ hyt
  omega
end Go.Proofs.YtenchljfmfgeoaaGreatDoor

namespace Go.Proofs.YtenchljfmfgeoaaGreatDoor
open Go.RowKit
def ZfV (w:World) (q r:Nat) (e:Ending) (w':World):Prop:=∃ u v,e=.returned (.tuple #[u,v])∧Zad w' u q∧Zad w' v r∧Ext w w'
def ZdM (w:World) (A A2:Option Addr) (q r:Nat) (e:Ending) (w':World):Prop:=∃ D m d B l c,e=.returned (.tuple #[.slice D m d, .slice B l c])∧Zad w' (.slice D m d) q∧Zad w' (.slice B l c) r∧Ext w w'∧∀ a,B=some a→w.heap.size≤a.block∨B=A∨B=A2
theorem ZdM.ret {w w':World} {A A2:Option Addr} {q r:Nat} {e:Ending} (h:ZdM w A A2 q r e w'):ZfV w q r e w':=by
 obtain ⟨D,m,d,B,l,c,rfl,h1,h2,h3,_⟩:=h
 exact ⟨_,_,rfl,h1,h2,h3⟩
theorem Zdm {a b:Nat}:cmpI a b < 0 ↔ a < b:=by
 unfold cmpI
 split
 ·omega
 ·split<;>omega
set_option maxHeartbeats 1000000 in
theorem ZiO (A:Option Addr) (l c:Nat) (yv:Value) (x y:Nat) (w:World) (hX:Zad w (.slice A l c) x) (hY:Zad w yv y) (hx:wl x≤4294967296) (hy:wl y≤4294967296) (hlt:x < y) :
 Calls Tryz.prog 217 #[.slice A l c,yv] w (ZdM w A A 0 x):=by
 have HX:=zh hX
 obtain ⟨_,xs,_,h,hc,h1,h2,h3,rfl⟩:=hX
 injection h with e1 e2 e3
 subst e1 e2 e3
 obtain ⟨A2,ys,c2,rfl,hc2,k1,k2,k3,rfl⟩:=hY
 rw [← ZaE h2 h3] at hx
 rw [← ZaE k2 k3] at hy
 have HC:=zh (ZcX A A2 xs ys _ _ c c2 w rfl rfl h1 k1 (by omega) (by omega) h2 k2 h3 k3)
 rw [ZdJ (by omega)] at HC
 clear h1 h2 h3 k1 k2 k3 hlt hc hc2
 go_enter Tryz.func217,Tryz.ntmps217
 go_wp2_with (go_at_call 184; refine HC.out.mono ?_; rintro e w' ⟨rfl,m,rfl⟩)
 go_ret2
 exact ⟨none,0,0,_,_,_,rfl,Zad.zero _,HX.out.ext ((Fr.refl _ _).drewN _),(Fr.refl _ _).drewN _,fun a _=>Or.inr (Or.inl rfl)⟩
set_option maxHeartbeats 1000000 in
theorem Zig (xv yv:Value) (x y:Nat) (w:World) (hX:Zad w xv x) (hY:Zad w yv y) (hx:wl x≤4294967296) (hy:wl y=1) (hge:y≤x) :
 Calls Tryz.prog 217 #[xv,yv] w (ZdM w none none (x / y) (x % y)):=by
 obtain ⟨A,xs,c,rfl,hc,h1,h2,h3,rfl⟩:=hX
 obtain ⟨A2,ys,c2,rfl,hc2,k1,k2,k3,rfl⟩:=hY
 rw [← ZaE h2 h3] at hx
 rw [← ZaE k2 k3] at hy
 obtain ⟨y,rfl⟩:=List.length_eq_one_iff.1 hy
 have HC:=zh (ZcX A A2 xs [y] _ _ c c2 w rfl rfl h1 k1 (by omega) (by simp) h2 k2 h3 k3)
 obtain ⟨cr,ecr⟩:∃ cr,cmpI (val W64 xs) (val W64 [y])=cr:=⟨_,rfl⟩
 have hcr:0≤cr:=by
  rcases Int.lt_or_le cr 0 with h | h
  ·rw [← ecr] at h; have:=Zdm.1 h; omega
  ·exact h
 rw [ecr] at HC
 have hyv:val W64 [y]=y:=by simp
 rw [hyv]
 have hy0:0 < y:=by have:=k3 0 (by simp); simp at this; omega
 have hyW:y < W64:=k2.head
 obtain ⟨b,o,rfl,_,hcy⟩:=k1.at (i:=0) (by simp)
 have hcy':w.cell? ⟨b,o,none⟩=some (.int .u64 (y:Int)):=by simpa using hcy
 have HD:=fun w' (hf:Ext w w')=>zh (Zjj A xs _ c y w' rfl (h1.ext hf) hx h2 hy0 hyW)
 have HDH:=zh HD
 have hrW:Hid (val W64 xs % y < W64):=Nat.lt_trans (Nat.mod_lt _ hy0) hyW
 clear h1 h2 h3 k1 k2 k3 hc hc2 ecr hge hcy HD hy hyv hy0 hyW
 go_enter Tryz.func217,Tryz.ntmps217
 go_wp2_with (first
  | (go_at_call 184; refine HC.out.mono ?_; rintro e w' ⟨rfl,m,rfl⟩)
  | (go_at_call 242; refine (HDH.out _ ((Fr.refl _ _).drewN _)).out.mono ?_; rintro e w1 ⟨v,rfl,hN,hF⟩; have HN:=zh hN; have HF:=zh hF; clear hN hF)
  | (go_at_call 190; refine (ZgN _ _ hrW.out).mono ?_; rintro e w2 ⟨B2,l2,c2,rfl,hN2,hF2,hL2⟩; have HN2:=zh hN2; have HF2:=zh hF2; have HL2:=zh hL2; clear hN2 hF2 hL2))
 go_ret2
 obtain ⟨D,m,d,rfl⟩:∃ D m d,v=.slice D m d:=by obtain ⟨D,xs',d,h,_⟩:=HN.out; exact ⟨D,_,d,h⟩
 exact ⟨D,m,d,B2,l2,c2,rfl,HN.out.ext HF2.out,HN2.out,(((Fr.refl _ _).drewN _).ext HF.out).ext HF2.out,fun a h=>(HL2.out a h).imp (Nat.le_trans (show Ext w _ from ((Fr.refl _ _).drewN _).ext HF.out).size) id⟩
theorem Zmp (pre m:List Nat) (rs:List Nat) (j n v:Nat) (hp:pre.length=j) (hm:m.length=n) (hr:j + n < rs.length):(pre ++ m ++ rs.drop (j + n)).set (j + n) v=pre ++ m ++ (v :: rs.drop (j + n + 1)):=by
 have hl:(pre ++ m).length=j + n:=by simp [hp,hm]
 rw [List.set_append_right _ _ (by omega),hl,Nat.sub_self,List.drop_eq_getElem_cons hr]
 rfl
theorem Zrk (pre m:List Nat) (rs:List Nat) (j n:Nat) (hp:pre.length=j) (hm:m.length=n):(pre ++ m ++ rs.drop (j + n))[j + n]?.getD 0=rs[j + n]?.getD 0:=by
 have hl:(pre ++ m).length=j + n:=by simp [hp,hm]
 rw [List.getElem?_append_right (by omega),hl,Nat.sub_self,List.getElem?_drop]; rfl
theorem ZpO (pre m l:List Nat) (t v j n:Nat) (hp:pre.length=j) (hm:m.length=n):(pre ++ m ++ (t :: l)).set (j + n) v=pre ++ m ++ (v :: l):=by
 have hl:(pre ++ m).length=j + n:=by simp [hp,hm]
 rw [List.set_append_right _ _ (by omega),hl,Nat.sub_self]
 rfl
theorem ZpP (pre m l:List Nat) (t j n:Nat) (hp:pre.length=j) (hm:m.length=n):(pre ++ m ++ (t :: l))[j + n]?.getD 0=t:=by
 have hl:(pre ++ m).length=j + n:=by simp [hp,hm]
 rw [List.getElem?_append_right (by omega),hl,Nat.sub_self]
 rfl
set_option maxHeartbeats 4000000 in
theorem ZhR (A A2:Option Addr) (xs ys:List Nat) (c c2 kk:Nat) (w:World) (hX:Zae .u64 w A xs) (hY:Zae .u64 w A2 ys) (hc:xs.length≤c) (hc2:ys.length≤c2) (hl:xs.length≤4294967296) (hk:ys.length=kk + 2)
 (dx:Dig W64 xs) (dy:Dig W64 ys) (tx:Trim xs) (ty:Trim ys) (hge:val W64 ys≤val W64 xs) :
 Calls Tryz.prog 217 #[.slice A xs.length c, .slice A2 ys.length c2] w (ZdM w none none (val W64 xs / val W64 ys) (val W64 xs % val W64 ys)):=by
 have hlxy:kk + 2≤xs.length:=by
  have:=ZaU hge
  rw [← ZaE dx tx,← ZaE dy ty] at this
  omega
 have HC:=zh (ZcX A A2 xs ys _ _ c c2 w rfl rfl hX hY (by omega) (by omega) dx dy tx ty)
 obtain ⟨cr,ecr⟩:∃ cr,cmpI (val W64 xs) (val W64 ys)=cr:=⟨_,rfl⟩
 have hcr:0≤cr:=by
  rcases Int.lt_or_le cr 0 with h | h
  ·rw [← ecr] at h; have:=Zdm.1 h; omega
  ·exact h
 rw [ecr] at HC
 clear ecr
 obtain ⟨bY,oY,rfl,_,hct⟩:=hY.at (i:=kk + 1) (by omega)
 obtain ⟨yt,eyt⟩:∃ yt,ys[kk + 1]?.getD 0=yt:=⟨_,rfl⟩
 rw [eyt] at hct
 have hyt0:0 < yt:=by have:=ty (kk + 1) (by omega); omega
 have hytW:Hid (yt < W64):=eyt ▸ dy.getD Zah _
 obtain ⟨s,hs⟩:∃ s,64 - Lib.bitLen yt=s:=⟨_,rfl⟩
 have hbl:=Zc4 hyt0 hytW.out
 have hsI:Hid (64 - (Lib.bitLen yt:Int)=(s:Int)):=by unfold Hid; omega
 have hs63:s≤63:=by omega
 have NX:Hid (Zad w (.slice A xs.length c) (val W64 xs)):=⟨A,xs,c,rfl,hc,hX,dx,tx,rfl⟩
 have NY:Hid (Zad w (.slice (some ⟨bY,oY,none⟩) ys.length c2) (val W64 ys)):=⟨_,ys,c2,rfl,hc2,hY,dy,ty,rfl⟩
 have wlX:Hid (wl (val W64 xs)≤4294967296):=by unfold Hid; rw [← ZaE dx tx]; omega
 have wlY:Hid (wl (val W64 ys)≤4294967296):=by unfold Hid; rw [← ZaE dy ty]; omega
 have Hdx:=zh dx
 have Hdy:=zh dy
 have HS:=zh hs
 have HEY:=zh eyt
 have HK:=zh hk
 clear hX hY hc hc2 dx dy tx ty hge hbl hs eyt
 obtain ⟨n,hn⟩:∃ n,ys.length=n:=⟨_,rfl⟩
 rw [hn] at HC NY
 rw [hn] at HK
 rw [hn]
 have HN:=zh hn
 have hn2:n=kk + 2:=HK.out
 subst hn2
 clear hn hk HK
 have hone:(((kk:Int) + 2) == 1)=false:=by simp; omega
 have hcrB:decide (cr < 0)=false:=by rw [decide_eq_false_iff_not]; omega
 go_enter Tryz.func217,Tryz.ntmps217
 go_wp2_with (first
  | (go_at_call 184; refine HC.out.mono ?_; rintro e w' ⟨rfl,m,rfl⟩)
  | (go_at_call 194; refine (Zd8 _ _ hytW.out).mono ?_; rintro e w' ⟨rfl,rfl⟩; rw [hsI.out]))
 refine (ZgO _ _ s _ (NY.out.ext ((Fr.refl _ _).drewN _)) wlY.out (by omega)).mono ?_
 rintro e wD ⟨vD,rfl,hND,hFD⟩
 obtain ⟨AD,vs,cD,rfl,hcD,hSD,dvs,tvs,hvv⟩:=hND
 obtain ⟨n1,n2,n3,n4⟩:=Zox (n:=kk + 1) HN.out Hdy.out HEY.out hyt0 HS.out dvs tvs hvv
 have HSD:=zh hSD
 have Hdv:=zh dvs
 have HFD:Hid (Ext w wD):=((Fr.refl _ _).drewN _).ext hFD
 have Hvv:=zh hvv
 have Hn1:=zh n1
 have Hn2:=zh n2
 have Hn3:=zh n3
 rw [n1]
 clear hSD dvs tvs hvv hFD n1 n2 n3 n4 hcD hct HC hyt0 hytW hsI HS HEY
 go_wp2_with (at_make
              refine ZbR rfl _ _ _ rfl _ _ _ Tryz.underlying106 Zc3 _ _ _ _ (xs.length + 1) rfl rfl (by omega) (by omega) (by omega) (by omega) ?_
              intro R w1 hR hO1 _ hF1 hs1
              have HO1:Hid (Own .u64 141 w1 R ([] ++ List.replicate (xs.length + 1) 0 ++ [])):=by simpa [Hid] using hO1
              have HF1:=zh hF1
              have HR:=zh hR
              clear hO1 hF1 hR hs1)
 refine (ZgO _ _ s _ (NX.out.ext (HFD.out.ext HF1.out)) wlX.out (by omega)).mono ?_
 rintro e w2 ⟨v2,rfl,hN2,hF2⟩
 obtain ⟨A3,x2,c3,rfl,hc3,hS3,d3,t3,hv3⟩:=hN2
 have HS3:=zh hS3
 have HF2:=zh hF2
 have Hd3:=zh d3
 have Hv3:=zh hv3
 have Hl3:Hid (x2.length≤xs.length + 1):=by
  unfold Hid
  refine ZbY ZcK t3 ?_
  rw [hv3,Nat.pow_succ]
  have h1:=Za1 Hdx.out
  have h2:2 ^ s≤W64:=by rw [Zan]; exact Nat.le_trans (Nat.pow_le_pow_right (by omega) hs63) (by decide)
  exact Nat.lt_of_lt_of_le (Nat.mul_lt_mul_of_pos_right h1 (Nat.pow_pos (by omega))) (Nat.mul_le_mul_left _ h2)
 clear hS3 hF2 d3 t3 hv3 hc3 NX wlX NY wlY
 go_wp2_with (first
  | (with_reducible refine ZeC rfl (.tmp 57) (.tmp 60) _ _ rfl _ _ Tryz.underlying106 Zq9 _ _ _ _ _ _ rfl rfl R [] (List.replicate (xs.length + 1) 0) [] x2 (by simp) rfl (HO1.out.ext HF2.out) HS3.out (fun _=>rfl) ?_
     intro w3 z hO3 _ hF3 hs3
     have HO3:=zh hO3
     have HF3:=zh hF3
     clear hO3 hF3 hs3)
  | (at_make
     refine ZbR rfl _ _ _ rfl _ _ _ Tryz.underlying106 Zc3 _ _ _ _ (xs.length - (kk + 2) + 1) rfl rfl (by omega) (by omega) (by omega) (by omega) ?_
     intro Qb w4 hQ hO4 _ hF4 hs4
     have HO4:=zh hO4
     have HF4:=zh hF4
     have HQ:=zh hQ
     clear hO4 hF4 hQ hs4))
 have hRlt:Hid (R < Qb):=by
  have h1:=HO3.out.lt
  have h2:=HQ.out
  unfold Hid; omega
 have hV:Hid (val W64 vs≤W64 ^ (kk + 2)):=by
  have:=Za1 Hdv.out
  rw [Hn1.out] at this
  exact Nat.le_of_lt this
 have hV0:Hid (0 < val W64 vs):=by
  rw [Hvv.out]
  have h1:=Hn3.out
  have h2:=Nat.pow_pos (n:=kk + 1) Zah
  exact Nat.mul_pos (by omega) (Nat.pow_pos (by omega))
 obtain ⟨X,eX⟩:∃ X,val W64 xs * 2 ^ s=X:=⟨_,rfl⟩
 have HX:=zh eX
 have hst:Hid (∃ rs,Own .u64 141 w4 R rs∧rs.length=xs.length + 1∧Zc5 X (val W64 vs) (kk + 2) (xs.length - (kk + 2) + 1) rs (List.replicate (xs.length - (kk + 2) + 1) 0)):=by
  refine ⟨x2 ++ List.replicate (xs.length + 1 - x2.length) 0,?_,?_,?_⟩
  ·have h:=HO3.out
   rw [List.take_of_length_le (by simp; exact Hl3.out),List.drop_replicate] at h
   have h':Own .u64 141 w3 R (x2 ++ List.replicate (xs.length + 1 - x2.length) 0):=by simpa using h
   exact h'.ext HF4.out
  ·have:=Hl3.out
   simp; omega
  ·rw [← HX.out,Hvv.out]
   refine Zc5.start (L:=xs.length) (Hd3.out.append (Dig.replicate Zah _)) (by have:=Hl3.out; simp; omega) ?_ (Za1 Hdx.out) (by simpa using Hn3.out) (by omega) hlxy
   rw [ZbP,Zcq,Hv3.out]; simp
 have HFw:Hid (Ext wD w4):=by
  have h1:=HR.out
  exact ((HF1.out.ext HF2.out).next HF3.out (fun i hi e=>by omega)).ext HF4.out
 clear HO3 HF3 HS3 Hd3 Hv3 Hl3 HF1 HF2 HF4 HO1 hone eX
 obtain ⟨V,eV⟩:∃ V,val W64 vs=V:=⟨_,rfl⟩
 have HV:=zh eV
 rw [eV] at hV hV0 hst
 clear eV
 go_loopw [13] (fun i wr=>∃ (k:Nat) (rs qs:List Nat),k≤xs.length - (kk + 2) + 1∧i=.int .i64 ((k:Int) - 1)∧Hid (Zc5 X V (kk + 2) k rs qs)∧Hid (rs.length=xs.length + 1)∧Hid (Own .u64 141 wr R rs)∧Hid (Own .u64 141 wr Qb qs)∧Hid (Ext wD wr)) (fun i _=>(intOf i + 1).toNat)
 case atStart =>
  obtain ⟨rs,h1,h2,h3⟩:=hst.out
  exact ⟨xs.length - (kk + 2) + 1,rs,_,Nat.le_refl _,by go_num,h3,h2,h1,HO4.out,HFw.out⟩
 case round =>
  clear hst HO4 HFw
  obtain ⟨k,rs,qs,hk,rfl,hR,hrl,hO1,hO2,hF1⟩:=hrel
  by_cases hlt:0 < k
  ·obtain ⟨j,rfl⟩:∃ j,k=j + 1:=⟨k - 1,by omega⟩
   have ej:(((j + 1:Nat):Int) - 1)=(j:Int):=by omega
   rw [ej]
   clear ej
   have hjr:j + (kk + 2) < xs.length + 1:=by omega
   have hrl':=hrl.out
   obtain ⟨q1,q2,q3⟩:=hR.out.window hV.out (by omega)
   have hwl:((rs.drop j).take (kk + 3)).length=kk + 3:=by simp; omega
   have HSV:Hid (Zae .u64 wr AD vs):=HSD.out.ext hF1.out
   have HEst:=zh (ZkZ (some ⟨R,j,none⟩) AD ((rs.drop j).take (kk + 3)) vs (j + (kk + 2) + 1 - j) (kk + 1 + 1) (xs.length + 1 - j) cD kk wr (by omega) Hn1.out (hO1.out.shows j (kk + 3)) HSV.out Hn1.out hwl (by omega) ((hR.out.1.drop j).take _) Hdv.out Hn2.out (by rw [← q1,HV.out]; exact q2))
   rw [← q1,HV.out] at HEst
   have Hq2:=zh q2
   clear q1 q2 q3 hwl hrl'
   go_wp2_with fail
   (with_reducible refine HEst.out.mono ?_)
   rintro e w5 ⟨d,rfl,hdW,hdig,n5,rfl⟩
   clear HEst
   have hAR:Hid (∀ a,AD=some a→a.block≠R):=by
    intro a ha
    obtain ⟨b',o',e',hb',_⟩:=HSD.out.at (i:=0) (by rw [Hn1.out]; omega)
    rw [e'] at ha; injection ha with ha; subst ha
    have:=HR.out
    show b'≠R
    omega
   have hrl':=hrl.out
   have HO3:Hid (Own .u64 141 (wr.drewN n5) R (rs.take j ++ (rs.drop j).take (kk + 2) ++ rs.drop (j + (kk + 2)))):=by rw [Zr9]; exact hO1.out.drewN _
   have HMs:=zh (ZgR R (xs.length + 1 - j) cD j (kk + 2) (kk + 1 + 1) d (rs.take j) ((rs.drop j).take (kk + 2)) (rs.drop (j + (kk + 2))) vs AD (wr.drewN n5) (by simp; omega) (by simp; omega) Hn1.out HO3.out (HSV.out.drewN _) hAR.out (by rw [Hn1.out]; simp; omega) (by simp; omega) ((hR.out.1.drop j).take _) Hdv.out hdW)
   have Hdig:=zh hdig
   have HdW:=zh hdW
   clear HO3 hdW hdig hrl'
   go_wp2_with fail
   (with_reducible refine HMs.out.mono ?_)
   rintro e w6 ⟨br,rfl,hbrW,hF6,_,m,hO6,hml,hdm,hms⟩
   clear HMs
   have hrl':=hrl.out
   have hml':m.length=kk + 2:=by rw [hml]; simp; omega
   have hlp:(rs.take j).length=j:=by simp; omega
   have hlen6:j + (kk + 2) < (rs.take j ++ m ++ rs.drop (j + (kk + 2))).length:=by simp; omega
   have hct:=hO6.cell hlen6
   have hft:=hO6.frozen (j + (kk + 2))
   rw [Zrk _ _ _ _ _ hlp hml'] at hct
   obtain ⟨top,etop⟩:∃ top,rs[j + (kk + 2)]?.getD 0=top:=⟨_,rfl⟩
   rw [etop] at hct
   have hu:val W64 (rs.drop j)=val W64 ((rs.drop j).take (kk + 2)) + W64 ^ (kk + 2) * top:=by
    obtain ⟨q1,_,_⟩:=hR.out.window hV.out (by omega)
    rw [q1,Zay (kk + 2) (by simp; omega),List.getElem?_drop,etop]
   have hms':val W64 m + V * d=val W64 ((rs.drop j).take (kk + 2)) + W64 ^ (kk + 2) * br:=by
    have h:=hms
    unfold ZkL at h
    rw [HV.out] at h
    have e:((rs.drop j).take (kk + 2)).length=kk + 2:=by simp; omega
    rw [e] at h
    exact h
   have hQF:Hid (Own .u64 141 w6 Qb qs):=(hO2.out.drewN n5).fr hF6 (by have:=hRlt.out; omega)
   have HF6:Hid (Ext wD w6):=(hF1.out.drewN n5).next hF6 (fun i hi e=>by have:=HR.out; omega)
   have HSV6:Hid (Zae .u64 w6 AD vs):=(HSV.out.drewN n5).fr hF6 (fun a ha _=>hAR.out a ha)
   have hql:qs.length=xs.length - (kk + 2) + 1:=by have:=hR.out.2.2.1; omega
   have hmP:val W64 m < W64 ^ (kk + 2):=by have:=Za1 hdm; rw [hml'] at this; exact this
   have hjq:j < qs.length:=by omega
   by_cases hle:br≤top
   ·obtain ⟨k1,k2,k3⟩:=Znj hV.out hu Hdig.out hms' hle
    have HR2:=zh (hR.out.step hV0.out hV.out (by omega) hml' hdm k1 k2)
    subst k3
    have g1:IntKind.u64.wrap ((top:Int) - (top:Int))=0:=by rw [Int.sub_self]; rfl
    have t1:=ZcY (a:=top) (b:=top) (by omega)
    have hO7:=hO6.set (j + (kk + 2)) 0 hlen6
    rw [Zmp _ _ _ _ _ _ hlp hml' (by omega)] at hO7
    have hF7:Fr (· = R) w6 (w6.setCell ⟨R,j + (kk + 2),none⟩ (.int .u64 ((0:Nat):Int))):=(Fr.refl (· = R) w6).setCell (p:=⟨R,j + (kk + 2),none⟩) (Or.inl rfl) _
    have hO8:=hQF.out.fr hF7 (by have:=hRlt.out; omega)
    have hcq:=hO8.cell hjq
    have hfq:=hO8.frozen j
    obtain ⟨z0,ez0⟩:∃ z0,qs[j]?.getD 0=z0:=⟨_,rfl⟩
    rw [ez0] at hcq
    have HO9:=zh (hO8.set j d hjq)
    have HO10:=zh (hO7.far (p:=⟨Qb,j,none⟩) (by have:=hRlt.out; show R≠Qb; omega) (.int .u64 (d:Int)))
    have HF10:Hid (Ext wD ((w6.setCell ⟨R,j + (kk + 2),none⟩ (.int .u64 ((0:Nat):Int))).setCell ⟨Qb,j,none⟩ (.int .u64 (d:Int)))):=(HF6.out.next hF7 (fun i hi e=>by have:=HR.out; omega)).setCell (Or.inr (by have:=HR.out; have:=hRlt.out; show wD.heap.size≤Qb; omega)) _
    have hnl:Hid ((rs.take j ++ m ++ (0 :: rs.drop (j + (kk + 2) + 1))).length=xs.length + 1):=by unfold Hid; simp; omega
    clear hbrW hF6 hO6 hml hdm hms hrl' hml' hlp hlen6 etop hu hms' hmP k1 k2 hO7 hF7 hO8 ez0 hle
    simp only [Int.ofNat_zero] at *
    go_wp2
    go_roundw
    case rel=>exact ⟨j,_,_,by omega,rfl,HR2,hnl,HO10.out,HO9.out,HF10.out⟩
    case measure=>simp [intOf]
   ·have hd0:0 < d:=by
     rcases Nat.eq_zero_or_pos d with e | e
     ·subst e
      have:W64 ^ (kk + 2) * 1≤W64 ^ (kk + 2) * br:=Nat.mul_le_mul_left _ (by omega)
      omega
     ·exact e
    have g2:=ZcM hd0 HdW.out
    obtain ⟨d1,ed1⟩:∃ d1,d - 1=d1:=⟨_,rfl⟩
    rw [ed1] at g2
    obtain ⟨t2,g1,k1⟩:=Zix ((top:Int) - (br:Int))
    have t1:=Zdu (a:=top) (b:=br) (by omega)
    have hO7:=hO6.set (j + (kk + 2)) t2 hlen6
    rw [Zmp _ _ _ _ _ _ hlp hml' (by omega)] at hO7
    have hF7:Fr (· = R) w6 (w6.setCell ⟨R,j + (kk + 2),none⟩ (.int .u64 (t2:Int))):=(Fr.refl (· = R) w6).setCell (p:=⟨R,j + (kk + 2),none⟩) (Or.inl rfl) _
    have HO7:=zh hO7
    have HF7:=zh hF7
    have HO8:=zh (hQF.out.fr hF7 (by have:=hRlt.out; omega))
    have HSV7:Hid (Zae .u64 (w6.setCell ⟨R,j + (kk + 2),none⟩ (.int .u64 (t2:Int))) AD vs):=HSV6.out.fr hF7 (fun a ha _=>hAR.out a ha)
    have HF8:Hid (Ext wD (w6.setCell ⟨R,j + (kk + 2),none⟩ (.int .u64 (t2:Int)))):=HF6.out.next hF7 (fun i hi e=>by have:=HR.out; omega)
    have Hdm:=zh hdm
    have Hml:=zh hml'
    have Hlp:=zh hlp
    have Hu:=zh hu
    have Hms:=zh hms'
    have HmP:=zh hmP
    have Hk1:=zh k1
    have Hd1:=zh ed1
    have Hql:=zh hql
    have hlt2:top < br:=by omega
    clear hbrW hF6 hO6 hml hdm hms hrl' hml' hlp hlen6 etop hu hms' hmP k1 hO7 hF7 hle ed1 hql HSV6 HF6 hQF
    go_wp2
    generalize hw7:w6.setCell ⟨R,j + (kk + 2),none⟩ (.int .u64 (t2:Int))=w7 at *
    clear hw7 hct hft g1 g2 t1
    obtain ⟨wo,rfl⟩:∃ wo:World,wo=wr:=⟨_,rfl⟩
    go_loopw [17,115] (fun cv iv wr=>∃ (kx cc:Nat) (m2:List Nat),kx≤kk + 2∧iv=.int .i64 (kx:Int)∧cc≤1∧cv=.int .u64 (cc:Int)∧Hid (Zdf m vs kx m2 cc)∧Hid (Own .u64 141 wr R (rs.take j ++ m2 ++ (t2 :: rs.drop (j + (kk + 2) + 1))))∧Hid (Fr (· = R) w7 wr)) (fun _ iv _=>kk + 2 - (intOf iv).toNat)
    case atStart=>exact ⟨0,0,m,by omega,rfl,by omega,rfl,Zdf.start _ _ Hdm.out,HO7.out,Fr.refl _ _⟩
    case round =>
     obtain ⟨kx,cc,m2,hkx,rfl,hcc,rfl,hA2,hO11,hF11⟩:=hrel
     have hm2l:m2.length=kk + 2:=by rw [hA2.out.1]; exact Hml.out
     by_cases hlt3:kx < kk + 2
     ·obtain ⟨b3,o3,rfl,_,hcv⟩:=(HSV7.out.fr hF11.out (fun a ha _=>hAR.out a ha)).at (i:=kx) (by rw [Hn1.out]; omega)
      obtain ⟨y,ey⟩:∃ y,vs[kx]?.getD 0=y:=⟨_,rfl⟩
      obtain ⟨z,ez⟩:∃ z,m2[kx]?.getD 0=z:=⟨_,rfl⟩
      have hkm:kx < m2.length:=by omega
      have hcz:=hO11.out.mid (k:=kx) hkm
      have hfz:=hO11.out.frozen (j + kx)
      rw [Hlp.out] at hcz
      rw [ey] at hcv
      rw [ez] at hcz
      have HR3:=zh (hA2.out.step (by rw [Hml.out]; omega) ez ey (by rw [Hn1.out]; omega))
      have hle3:ZaB z y cc≤1:=Zf7 (ez ▸ hA2.out.2.2.1.getD Zah kx) (ey ▸ Hdv.out.getD Zah kx) hcc
      have HO12:=zh (hO11.out.set_mid hkm (Zaw z y cc))
      rw [Hlp.out] at HO12
      have ha:=Zcv z y cc hcc
      clear ey ez hm2l
      go_wp2
      go_roundw
      case rel=>exact ⟨kx + 1,_,_,by omega,by go_num,hle3,rfl,HR3,HO12.out,hF11.out.setCell (p:=⟨R,j + kx,none⟩) (Or.inl rfl) _⟩
      case measure=>simp [intOf]; omega
     ·obtain rfl:kx=kk + 2:=by omega
      have hsum:=hA2.out.done (by rw [Hn1.out]; omega) (by rw [Hml.out]; omega) (Or.inr Hml.out.symm)
      rw [Hml.out,HV.out] at hsum
      obtain ⟨_,k2,k3,k4⟩:=Zow hV0.out hV.out Hu.out Hdig.out Hms.out hlt2 HmP.out hsum (by have:=Za1 hA2.out.2.2.1; rw [hm2l] at this; exact this)
      have g3:IntKind.u64.wrap ((t2:Int) + (cc:Int))=0:=by
       have h1:=Hk1.out
       rw [IntKind.wrap_u64]
       omega
      rw [Hd1.out] at k2
      have hrl':=hrl.out
      have hql':=Hql.out
      have hlen2:j + (kk + 2) < (rs.take j ++ m2 ++ (t2 :: rs.drop (j + (kk + 2) + 1))).length:=by simp; omega
      have hct:=hO11.out.cell hlen2
      have hft:=hO11.out.frozen (j + (kk + 2))
      rw [ZpP _ _ _ _ _ _ Hlp.out hm2l] at hct
      have hO13:=hO11.out.set (j + (kk + 2)) 0 hlen2
      rw [ZpO _ _ _ _ _ _ _ Hlp.out hm2l] at hO13
      have hF13:Fr (· = R) w7 (wr.setCell ⟨R,j + (kk + 2),none⟩ (.int .u64 ((0:Nat):Int))):=hF11.out.setCell (p:=⟨R,j + (kk + 2),none⟩) (Or.inl rfl) _
      have hO14:=HO8.out.fr hF13 (by have:=hRlt.out; omega)
      have hjq:j < qs.length:=by omega
      have hcq:=hO14.cell hjq
      have hfq:=hO14.frozen j
      obtain ⟨z0,ez0⟩:∃ z0,qs[j]?.getD 0=z0:=⟨_,rfl⟩
      rw [ez0] at hcq
      have HR2:=zh (hR.out.step hV0.out hV.out (by omega) hm2l hA2.out.2.2.1 k2 k3)
      have HO15:=zh (hO14.set j d1 hjq)
      have HO16:=zh (hO13.far (p:=⟨Qb,j,none⟩) (by have:=hRlt.out; show R≠Qb; omega) (.int .u64 (d1:Int)))
      have HF16:Hid (Ext wD ((wr.setCell ⟨R,j + (kk + 2),none⟩ (.int .u64 ((0:Nat):Int))).setCell ⟨Qb,j,none⟩ (.int .u64 (d1:Int)))):=(HF8.out.next hF13 (fun i hi e=>by have:=HR.out; omega)).setCell (Or.inr (by have:=HR.out; have:=hRlt.out; show wD.heap.size≤Qb; omega)) _
      have hnl:Hid ((rs.take j ++ m2 ++ (0 :: rs.drop (j + (kk + 2) + 1))).length=xs.length + 1):=by unfold Hid; simp; omega
      clear hsum k2 k3 k4 hrl' hql' hlen2 hO13 hF13 hO14 ez0 hm2l
      simp only [Int.ofNat_zero] at *
      go_wp2
      go_roundw
      case rel=>exact ⟨j,_,_,by omega,rfl,HR2,hnl,HO16.out,HO15.out,HF16.out⟩
      case measure=>simp [intOf]
  ·obtain rfl:k=0:=by omega
   obtain ⟨k1,k2⟩:=hR.out.done
   have hql:qs.length=xs.length - (kk + 2) + 1:=by have:=hR.out.2.2.1; have:=hrl.out; omega
   have hsh:=ZjM (val W64 xs) (val W64 ys) (2 ^ s) (Nat.pow_pos (by omega))
   have NQ:=Zad.of_own (c:=xs.length - (kk + 2) + 1) hO2.out hR.out.2.1 (by omega)
   have NR:=Zad.of_own (c:=xs.length + 1) hO1.out hR.out.1 (by have:=hrl.out; omega)
   rw [k1,← HX.out,← HV.out,Hvv.out,hsh.1] at NQ
   rw [k2,← HX.out,← HV.out,Hvv.out] at NR
   have HNQ:=zh NQ
   have HNR:=zh NR
   have HT1:=zh (ZcW _ qs (xs.length - (kk + 2) + 1) (xs.length - (kk + 2) + 1) wr hql hO2.out.shows0 (by omega) (by omega))
   have HT2:=zh (ZcW _ rs (xs.length + 1) (xs.length + 1) wr hrl.out hO1.out.shows0 (by have:=hrl.out; omega) (by have:=hrl.out; omega))
   have Hsh:=zh hsh.2
   have hwl:Hid (wl (val W64 xs * 2 ^ s % (val W64 ys * 2 ^ s))≤4294967296):=by
    refine Nat.le_trans ((ZbC (k:=kk + 2)).2 ?_) (by omega)
    have h1:=Nat.mod_lt (val W64 xs * 2 ^ s) hV0.out
    rw [← HV.out,Hvv.out] at h1
    have h2:=hV.out
    rw [← HV.out,Hvv.out] at h2
    exact Nat.lt_of_lt_of_le h1 h2
   clear k1 k2 hql hsh NQ NR
   go_wp2_with fail
   (with_reducible refine HT1.out.mono ?_)
   rintro e w7 ⟨rfl,rfl⟩
   clear HT1
   go_wp2_with fail
   (with_reducible refine HT2.out.mono ?_)
   rintro e w7 ⟨rfl,rfl⟩
   clear HT2
   go_wp2_with fail
   (with_reducible refine (Ziz _ _ s _ HNR.out hwl.out (by omega)).mono ?_)
   rintro e w7 ⟨B7,l7,c7,rfl,hN7,hF7,hL7⟩
   rw [Hsh.out] at hN7
   have HL7:=zh hL7
   have HN7:=zh hN7
   have HF7:=zh hF7
   clear hN7 hF7 hL7
   go_wp2
   go_ret2
   exact ⟨_,_,_,B7,l7,c7,rfl,HNQ.out.ext HF7.out,HN7.out,(HFD.out.ext hF1.out).ext HF7.out,fun a h=>(HL7.out a h).imp (Nat.le_trans (HFD.out.ext hF1.out).size) id⟩
theorem ZhS (A:Option Addr) (l c:Nat) (yv:Value) (x y:Nat) (w:World) (hX:Zad w (.slice A l c) x) (hY:Zad w yv y) (hx:wl x≤4294967296) (hy:wl y≤4294967296) (h0:0 < y) :
 Calls Tryz.prog 217 #[.slice A l c,yv] w (ZdM w A A (x / y) (x % y)):=by
 have hw:∀ e w',ZdM w none none (x / y) (x % y) e w'→ZdM w A A (x / y) (x % y) e w':=by
  rintro e w' ⟨D,m,d,B,l,c,h1,h2,h3,h4,h5⟩
  exact ⟨D,m,d,B,l,c,h1,h2,h3,h4,fun a ha=>Or.inl ((h5 a ha).elim id fun h=>by rcases h with h | h<;>rw [ha] at h<;>cases h)⟩
 rcases Nat.lt_or_ge x y with hlt | hge
 ·rw [Nat.div_eq_of_lt hlt,Nat.mod_eq_of_lt hlt]
  exact ZiO A l c yv x y w hX hY hx hy hlt
 ·have hp:=ZgX h0
  by_cases h1:wl y=1
  ·exact (Zig _ yv x y w hX hY hx h1 hge).mono hw
  ·obtain ⟨_,xs,_,h,hc,h1',h2,h3,rfl⟩:=hX
   injection h with e1 e2 e3
   subst e1 e2 e3
   obtain ⟨A2,ys,c2,rfl,hc2,k1,k2,k3,rfl⟩:=hY
   rw [← ZaE h2 h3] at hx
   rw [← ZaE k2 k3] at hy h1 hp
   exact (ZhR A A2 xs ys c c2 (ys.length - 2) w h1' k1 hc hc2 hx (by omega) h2 k2 h3 k3 hge).mono hw
theorem Zih (xv yv:Value) (x y:Nat) (w:World) (hX:Zad w xv x) (hY:Zad w yv y) (hx:wl x≤4294967296) (hy:wl y≤4294967296) (h0:0 < y) :
 Calls Tryz.prog 217 #[xv,yv] w (ZfV w (x / y) (x % y)):=by
 obtain ⟨A,_,c,rfl,_⟩:=id hX
 exact (ZhS _ _ _ yv x y w hX hY hx hy h0).mono fun _ _ h=>h.ret
set_option maxHeartbeats 400000 in
theorem Zfk (xv yv:Value) (x y:Nat) (w:World) (hX:Zad w xv x) (hY:Zad w yv y) (hx:wl x≤4294967296) (hy:wl y < 80) (h0:0 < y) :
 Calls Tryz.prog 187 #[xv,yv] w (ZfV w (x / y) (x % y)):=by
 have HD:=zh (Zih xv yv x y w hX hY hx (by omega) h0)
 obtain ⟨A,xs,c,rfl,hc,h1',h2,h3,rfl⟩:=hX
 obtain ⟨A2,ys,c2,rfl,hc2,k1,k2,k3,rfl⟩:=hY
 rw [← ZaE k2 k3] at hy
 clear h1' h2 h3 k1 k2 k3 hc hc2
 go_enter Tryz.func187,Tryz.ntmps187
 go_wp2_with (go_at_call 217; refine HD.out.mono ?_; rintro e w1 ⟨u,v,rfl,hN1,hN2,hF⟩; have HN1:=zh hN1; have HN2:=zh hN2; have HF:=zh hF; clear hN1 hN2 hF)
 go_ret2
 exact ⟨_,_,rfl,HN1.out,HN2.out,HF.out⟩
end Go.Proofs.YtenchljfmfgeoaaGreatDoor

namespace Go.Proofs.YtenchljfmfgeoaaGreatDoor
end Go.Proofs.YtenchljfmfgeoaaGreatDoor

namespace Go.Proofs.YtenchljfmfgeoaaGreatDoor
open Go.RowKit
end Go.Proofs.YtenchljfmfgeoaaGreatDoor

namespace Go.Proofs.YtenchljfmfgeoaaGreatDoor
open Go.RowKit
end Go.Proofs.YtenchljfmfgeoaaGreatDoor

namespace Go.Proofs.YtenchljfmfgeoaaGreatDoor
open Go.RowKit
end Go.Proofs.YtenchljfmfgeoaaGreatDoor
