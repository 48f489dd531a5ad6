/-
 My texts Div64, DivWord, Shift, Num1, Num2, Num3, Est, Knuth, DivS, DvM, Dv1, Dv2 put together.
-/
import Derived.Test.YtcpjeaaapocoeaaGreatDoorP02
import Derived.Test.YtcpjeaaapocoeaaGreatDoorP03
import Derived.Test.YtcpjeaaapocoeaaGreatDoorP00
import Derived.Test.YtcpjeaaapocoeaaGreatDoorP06
import Derived.Lib.ItoaNum
import Derived.Deep.QuietTactic
import Derived.BigQuiet
import Derived.RegionTactic
import Derived.BigRegion
set_option maxRecDepth 100000
namespace Go.Proofs.YtcpjeaaapocoeaaGreatDoor
open Go.RowKit
theorem Zez (x:Nat) (w:World) (hx:x < W64):Calls Tryz.prog 359 #[.int .u64 (x:Int)] w fun e w'=>e=.returned (.int .i64 (64 - (Lib.bitLen x:Int)))∧w=w':=by
 rw [Zah] at hx
 refine (Tryz.bits_LeadingZeros64 x w (by omega) (by omega)).mono ?_
 rintro e w' ⟨rfl,rfl⟩
 exact ⟨by simp,rfl⟩
noncomputable def H32:Nat:=Classical.choose (p:=fun n:Nat=>n=4294967296) ⟨_,rfl⟩
theorem ZaL:H32=4294967296:=Classical.choose_spec (p:=fun n:Nat=>n=4294967296) ⟨_,rfl⟩
structure Prep (hi lo y s Y v1 v0 Hs Ls U T u1 u0:Nat):Prop where
 hY:IntKind.u64.wrap ((y:Int) * 2 ^ s)=(Y:Int)
 hv1:(Y:Int) / 4294967296=(v1:Int)
 hv0:bits .and .u64 (Y:Int) 4294967295=(v0:Int)
 hH:IntKind.u64.wrap ((hi:Int) * 2 ^ s)=(Hs:Int)
 hL:(lo:Int) / 2 ^ (64 - s)=(Ls:Int)
 hU:bits .or .u64 (Hs:Int) (Ls:Int)=(U:Int)
 hT:IntKind.u64.wrap ((lo:Int) * 2 ^ s)=(T:Int)
 hu1:(T:Int) / 4294967296=(u1:Int)
 hu0:bits .and .u64 (T:Int) 4294967295=(u0:Int)
theorem Zig (a:Int):∃ n:Nat,IntKind.u64.wrap a=(n:Int)∧(n:Int)=a % 18446744073709551616:=by
 refine ⟨(a % 18446744073709551616).toNat,?_,?_⟩
 ·rw [IntKind.wrap_u64]; omega
 ·omega
theorem un21 {U u Y q R:Nat} (hY':Y≤W64) (hq:q * Y + R=U * 4294967296 + u) (hR:R < Y) :
 ∃ a1 a2 a3:Nat,IntKind.u64.wrap ((U:Int) * 4294967296)=(a1:Int)∧IntKind.u64.wrap ((a1:Int) + (u:Int))=(a2:Int)∧IntKind.u64.wrap ((q:Int) * (Y:Int))=(a3:Int)∧IntKind.u64.wrap ((a2:Int) - (a3:Int))=(R:Int):=by
 have hY:=hY'
 rw [Zah] at hY
 obtain ⟨a1,h1,k1⟩:=Zig ((U:Int) * 4294967296)
 obtain ⟨a2,h2,k2⟩:=Zig ((a1:Int) + (u:Int))
 obtain ⟨a3,h3,k3⟩:=Zig ((q:Int) * (Y:Int))
 obtain ⟨a4,h4,k4⟩:=Zig ((a2:Int) - (a3:Int))
 refine ⟨a1,a2,a3,h1,h2,h3,?_⟩
 rw [h4]
 have hq':((q * Y + R:Nat):Int)=((U * 4294967296 + u:Nat):Int):=by rw [hq]
 rw [Int.natCast_add,Int.natCast_mul,Int.natCast_add,Int.natCast_mul] at hq'
 omega
theorem ZeQ {U v1:Nat} (hv1:0 < v1) (hU':U < W64) :
 ∃ qi mi ri:Nat,(U:Int) / (v1:Int)=(qi:Int)∧IntKind.u64.wrap (qi:Int)=(qi:Int)∧IntKind.u64.wrap ((qi:Int) * (v1:Int))=(mi:Int)∧IntKind.u64.wrap ((U:Int) - (mi:Int))=(ri:Int)∧qi * v1 + ri=U∧ri < v1:=by
 have hU:=hU'
 rw [Zah] at hU
 have hd:=Nat.div_add_mod U v1
 have hm:=Nat.mod_lt U hv1
 have hle:U / v1 * v1≤U:=Nat.div_mul_le_self U v1
 rw [Nat.mul_comm] at hd
 refine ⟨U / v1,U / v1 * v1,U % v1,(Int.natCast_ediv _ _).symm,ZaQ _ (by rw [Zah]; have:=Nat.div_le_self U v1; omega),?_,?_,hd,hm⟩
 ·rw [← Int.natCast_mul]; exact ZaQ _ (by rw [Zah]; omega)
 ·rw [show (U:Int) - ((U / v1 * v1:Nat):Int)=((U % v1:Nat):Int) by omega]
  exact ZaQ _ (by rw [Zah]; omega)
theorem ZeR {U v1 v0 u qi ri:Nat} (hv1:0 < v1) (hu:u < H32) (h:qi * v1 + ri=U) (hr:ri < v1):Zb8 H32 U v1 v0 u qi ri:=by
 refine ⟨h,?_⟩
 have hp:0 < v1 * H32:=Nat.mul_pos hv1 (by rw [ZaL]; omega)
 rw [← Nat.lt_succ_iff,Nat.div_lt_iff_lt_mul (by omega)]
 have h1:U < (qi + 1) * v1:=by rw [Nat.add_mul]; omega
 have h2:(U + 1) * H32≤(qi + 1) * v1 * H32:=Nat.mul_le_mul_right _ h1
 rw [Nat.succ_eq_add_one,Nat.mul_add,← Nat.mul_assoc]
 rw [Nat.add_mul U] at h2
 omega
theorem ZeS {U v1 v0 u q r:Nat} (hv1:2147483648≤v1) (hU':U < W64) (h:Zb8 H32 U v1 v0 u q r):q≤8589934592:=by
 have hU:=hU'
 rw [Zah] at hU
 have h1:=h.1
 have h2:q * 2147483648≤q * v1:=Nat.mul_le_mul_left q hv1
 omega
theorem ZbW {H U Y u q:Nat} (h:q=(U * H + u) / Y):q * Y + (U * H + u) % Y=U * H + u:=by
 subst h
 rw [Nat.mul_comm]
 exact Nat.div_add_mod _ _
theorem ZbX {U u Y q:Nat} (hY:0 < Y) (hU:U < Y) (hu:u < H32) (hq:q=(U * H32 + u) / Y):q < H32:=by
 subst hq
 rw [Nat.div_lt_iff_lt_mul hY]
 have:(U + 1) * H32≤Y * H32:=Nat.mul_le_mul_right _ hU
 rw [Nat.add_mul] at this
 rw [Nat.mul_comm H32]
 omega
theorem ZbS {q:Nat} (h0:0 < q) (h:q < W64):IntKind.u64.wrap ((q:Int) - 1)=((q - 1:Nat):Int):=by
 rw [show (q:Int) - 1=((q - 1:Nat):Int) by omega]
 exact ZaQ _ (by omega)
theorem Zbn {a b:Nat} (h:a + b < W64):IntKind.u64.wrap ((a:Int) + (b:Int))=((a + b:Nat):Int):=by
 rw [← Int.natCast_add]
 exact ZaQ _ h
theorem Zck {a b:Nat} (h:a * b < W64):IntKind.u64.wrap ((a:Int) * (b:Int))=((a * b:Nat):Int):=by
 rw [← Int.natCast_mul]
 exact ZaQ _ h
theorem ZkH:H32 * H32=W64:=by rw [ZaL,Zah]
theorem Zdi {q1 q0:Nat} (h1:q1 < H32) (h0:q0 < H32):∃ z1 z2:Nat,IntKind.u64.wrap ((q1:Int) * 4294967296)=(z1:Int)∧IntKind.u64.wrap ((z1:Int) + (q0:Int))=(z2:Int)∧z2=q1 * H32 + q0:=by
 have h:q1 * H32 + q0 < W64:=by
  rw [← ZkH]
  have:(q1 + 1) * H32≤H32 * H32:=Nat.mul_le_mul_right _ h1
  rw [Nat.add_mul] at this
  omega
 refine ⟨q1 * H32,q1 * H32 + q0,?_,Zbn h,rfl⟩
 rw [show (4294967296:Int)=((H32:Nat):Int) by rw [ZaL]; rfl]
 exact Zck (by omega)
theorem Zg2 {r u:Nat} (hr:r < H32) (hu:u < H32):∃ m2 m3:Nat,IntKind.u64.wrap (4294967296 * (r:Int))=(m2:Int)∧IntKind.u64.wrap ((m2:Int) + (u:Int))=(m3:Int)∧m3=H32 * r + u:=by
 have h1:H32 * r + u < W64:=by
  rw [← ZkH]
  have:H32 * (r + 1)≤H32 * H32:=Nat.mul_le_mul_left _ hr
  rw [Nat.mul_add] at this
  omega
 refine ⟨H32 * r,H32 * r + u,?_,Zbn h1,rfl⟩
 rw [show (4294967296:Int)=((H32:Nat):Int) by rw [ZaL]; rfl]
 exact Zck (by omega)
theorem ZbY {q:Nat} (h:H32≤q):decide ((4294967296:Int)≤(q:Int))=true:=by rw [ZaL] at h; rw [decide_eq_true_eq]; omega
theorem ZbB {q:Nat} (h:¬ H32≤q):decide ((4294967296:Int)≤(q:Int))=false:=by rw [ZaL] at h; rw [decide_eq_false_iff_not]; omega
theorem ZcT {a b:Nat} (h:a < b):decide (a < b)=true:=by rw [decide_eq_true_eq]; omega
theorem Zcs {a b:Nat} (h:¬ a < b):decide (a < b)=false:=by rw [decide_eq_false_iff_not]; omega
theorem Zfz {q v:Nat} (hq:¬ H32≤q) (hv:v < H32):q * v < W64:=by
 rw [← ZkH]
 have h1:q * v≤q * H32:=Nat.mul_le_mul_left _ (by omega)
 have h2:(q + 1) * H32≤H32 * H32:=Nat.mul_le_mul_right _ (by omega)
 rw [Nat.add_mul] at h2
 have:=ZaL
 omega
set_option maxHeartbeats 4000000 in
theorem Zm5 (hi lo y s Y v1 v0 Hs Ls U T u1 u0 qf rf:Nat) (w:World) (hqf:(U * H32 + u1) / Y * H32 + ((U * H32 + u1) % Y * H32 + u0) / Y=qf) (hrf:((U * H32 + u1) % Y * H32 + u0) % Y / 2 ^ s=rf) (h0:0 < hi) (h1:hi < y) (hy:y < W64) (hs:64 - (Lib.bitLen y:Int)=s) (hs2:s≤63) (P:Prep hi lo y s Y v1 v0 Hs Ls U T u1 u0)
 (hU:U < v1 * H32 + v0) (hYv:v1 * H32 + v0=Y) (b1:2147483648≤v1) (b2:v1 < H32) (b3:v0 < H32) (b4:u1 < H32) (b5:u0 < H32) :
 Calls Tryz.prog 364 #[.int .u64 (hi:Int), .int .u64 (lo:Int), .int .u64 (y:Int)] w fun e w'=>e=.returned (.tuple #[.int .u64 (qf:Int), .int .u64 (rf:Int)])∧w=w':=by
 have HQF:=zh hqf
 have HRF:=zh hrf
 clear hqf hrf
 have he:=ZaL
 have HS:=zh hs
 have HY:=zh hy
 have e1:((hi:Int) == 0)=false:=by simp; omega
 have e2:((y:Int) == 0)=false:=by simp; omega
 have hUY:=zh hU
 have hYV:=zh hYv
 have hUb:U < 18446744073709551616:=by rw [he] at hU b2 b3; omega
 have HUb:Hid (U < W64):=by unfold Hid; rw [Zah]; exact hUb
 have hY64:Hid (Y≤W64):=by unfold Hid; rw [Zah]; rw [he] at hYv b2 b3; omega
 obtain ⟨p1,p2,p3,p4,p5,p6,p7,p8,p9⟩:=P
 have hv1:((v1:Int) == 0)=false:=by simp; omega
 obtain ⟨qi,mi,ri,f1,f2,f3,f4,f5,f6⟩:=ZeQ (U:=U) (v1:=v1) (by omega) HUb.out
 have HE:=zh (ZeR (v0:=v0) (u:=u1) (by omega) b4 f5 f6)
 clear hs hy hU hYv f5
 have B1:=zh b1
 have B2:=zh b2
 have B3:=zh b3
 have B4:=zh b4
 have B5:=zh b5
 clear b1 b2 b3 b4 b5 he hUb
 go_enter Tryz.func364,Tryz.ntmps364
 go_wp2_with (go_at_call 359; refine (Zez _ _ HY.out).mono ?_; rintro e w' ⟨rfl,rfl⟩; rw [HS.out])
 clear p1 p2 p3 p4 p5 p6 p7 p8 p9 e1 e2
 go_loop [15,16] (fun qv rv=>∃ q r:Nat,qv=.int .u64 q∧rv=.int .u64 r∧Hid (r < H32)∧Hid (Zb8 H32 U v1 v0 u1 q r)) (fun qv _=>(intOf qv).toNat)
 case atStart=>exact ⟨_,_,rfl,rfl,by have:=B2.out; unfold Hid; omega,HE⟩
 case round =>
  obtain ⟨q,r,rfl,rfl,hr,Q⟩:=hrel
  clear f1 f2 f3 f4 f6 HE
  have hqW:Hid (q < W64):=by
   have h1:=ZeS B1.out HUb.out Q.out
   unfold Hid; rw [Zah]; omega
  have hrW:Hid (r + v1 < W64):=by
   have h1:=hr.out
   have h2:=B2.out
   unfold Hid; rw [Zah]; rw [ZaL] at h1 h2; omega
  have g2:=Zbn hrW.out
  obtain ⟨r1,er1⟩:∃ r1,r + v1=r1:=⟨_,rfl⟩
  rw [er1] at g2
  have ER1:=zh er1
  clear er1
  by_cases hbig:H32≤q
  ·have hE2:=zh (Zg0 hUY.out B4.out hbig Q.out)
   have t1:=ZbY hbig
   have g1:=ZbS (q:=q) (by have:=ZaL; omega) hqW.out
   obtain ⟨q1,eq1⟩:∃ q1,q - 1=q1:=⟨_,rfl⟩
   rw [eq1] at g1 hE2
   rw [ER1.out] at hE2
   have hq1:q1 < q:=by have:=ZaL; omega
   by_cases hbr:H32≤r1
   ·have HQ:=zh (Zb2 hUY.out B3.out hbr hE2.out)
    have t2:=ZbY hbr
    clear hbr hbig eq1 hq1 hE2 Q
    rw [hYV.out] at HQ
    have hYpos:Hid (0 < Y):=by have:=hYV.out; have:=hUY.out; unfold Hid; omega
    obtain ⟨R1,eR1⟩:∃ R1,(U * H32 + u1) % Y=R1:=⟨_,rfl⟩
    have hR1:Hid (R1 < Y):=by rw [← eR1]; exact Nat.mod_lt _ hYpos.out
    obtain ⟨a1,a2,a3,x1,x2,x3,x4⟩:=un21 hY64.out (by rw [← ZaL]; exact ZbW HQ.out) (Nat.mod_lt _ hYpos.out)
    rw [eR1] at x4
    have hQ1:Hid (q1 < H32):=ZbX hYpos.out (by have:=hUY.out; rw [hYV.out] at this; exact this) B4.out HQ.out
    have HQ1:=HQ
    clear HQ
    have ERR:=zh eR1
    clear eR1
    have hR1W:Hid (R1 < W64):=Nat.lt_of_lt_of_le hR1.out hY64.out
    have hR1Y:Hid (R1 < v1 * H32 + v0):=by rw [hYV.out]; exact hR1.out
    obtain ⟨qi,mi,ri,k1,k2,k3,k4,k5,k6⟩:=ZeQ (U:=R1) (v1:=v1) (by have:=B1.out; omega) hR1W.out
    have HE0:=zh (ZeR (v0:=v0) (u:=u0) (by have:=B1.out; omega) B5.out k5 k6)
    clear k5
    go_wp2
    go_loop [16,18] (fun rv qv=>∃ q r:Nat,qv=.int .u64 q∧rv=.int .u64 r∧Hid (r < H32)∧Hid (Zb8 H32 R1 v1 v0 u0 q r)) (fun _ qv=>(intOf qv).toNat)
    case atStart=>exact ⟨_,_,rfl,rfl,by have:=B2.out; unfold Hid; omega,HE0⟩
    case round =>
     obtain ⟨q,r,rfl,rfl,hr,Q⟩:=hrel
     clear k1 k2 k3 k4 k6 HE0 x1 x2 x3 x4
     have hqW:Hid (q < W64):=by
      have h1:=ZeS B1.out hR1W.out Q.out
      unfold Hid; rw [Zah]; omega
     have hrW:Hid (r + v1 < W64):=by
      have h1:=hr.out
      have h2:=B2.out
      unfold Hid; rw [Zah]; rw [ZaL] at h1 h2; omega
     have g2:=Zbn hrW.out
     obtain ⟨r1,er1⟩:∃ r1,r + v1=r1:=⟨_,rfl⟩
     rw [er1] at g2
     have ER1:=zh er1
     clear er1
     by_cases hbig:H32≤q
     ·have hE2:=zh (Zg0 hR1Y.out B5.out hbig Q.out)
      have t1:=ZbY hbig
      have g1:=ZbS (q:=q) (by have:=ZaL; omega) hqW.out
      obtain ⟨q1,eq1⟩:∃ q1,q - 1=q1:=⟨_,rfl⟩
      rw [eq1] at g1 hE2
      rw [ER1.out] at hE2
      have hq1:q1 < q:=by have:=ZaL; omega
      by_cases hbr:H32≤r1
      ·have HQ:=zh (Zb2 hR1Y.out B3.out hbr hE2.out)
       have t2:=ZbY hbr
       clear hbr hbig eq1 hq1 hE2 Q
       rw [hYV.out] at HQ
       obtain ⟨a1',a2',a3',y1,y2,y3,y4⟩:=un21 hY64.out (by rw [← ZaL]; exact ZbW HQ.out) (Nat.mod_lt _ hYpos.out)
       obtain ⟨R0,eR0⟩:∃ R0,(R1 * H32 + u0) % Y=R0:=⟨_,rfl⟩
       rw [eR0] at y4
       obtain ⟨z1,z2,z4,z5,ez⟩:=Zdi hQ1.out (ZbX hYpos.out hR1.out B5.out HQ.out)
       have y5:(R0:Int) / 2 ^ s=((R0 / 2 ^ s:Nat):Int):=by rw [Int.natCast_ediv,Int.natCast_pow]; rfl
       obtain ⟨rem,erem⟩:∃ rem,R0 / 2 ^ s=rem:=⟨_,rfl⟩
       rw [erem] at y5
       have EZ:=zh ez
       have ER:=zh erem
       have ER0:=zh eR0
       clear eR0 ez erem
       go_wp2
       go_ret2
       have fq:z2=qf:=by rw [EZ.out,← HQF.out,HQ.out,HQ1.out,ERR.out]
       have fr:rem=rf:=by rw [← ER.out,← ER0.out,← HRF.out,ERR.out]
       exact ⟨by rw [← fq,← fr]; rfl,rfl⟩
      ·have t2:=ZbB hbr
       have hR2:Hid (r1 < H32):=by unfold Hid; omega
       clear hbr hbig eq1
       go_wp2
       go_round
       case rel=>exact ⟨q1,r1,rfl,rfl,hR2,hE2⟩
       case measure=>simp [intOf]; omega
     ·have t1:=ZbB hbig
      have g5:=Zck (Zfz hbig B3.out)
      obtain ⟨m,em⟩:∃ m,q * v0=m:=⟨_,rfl⟩
      rw [em] at g5
      obtain ⟨m2,m3,g6,g7,em3⟩:=Zg2 hr.out B5.out
      by_cases hov:m3 < m
      ·have t3:=ZcT hov
       have hE2:=zh (Zey (by have:=hR1Y.out; omega) (by rw [em,← em3]; exact hov) Q.out)
       have hq0:0 < q:=by
        rcases Nat.eq_zero_or_pos q with e | e
        ·subst e; simp at em; omega
        ·exact e
       have g1:=ZbS hq0 hqW.out
       obtain ⟨q1,eq1⟩:∃ q1,q - 1=q1:=⟨_,rfl⟩
       rw [eq1] at g1 hE2
       rw [ER1.out] at hE2
       have hq1:q1 < q:=by omega
       by_cases hbr:H32≤r1
       ·have HQ:=zh (Zb2 hR1Y.out B3.out hbr hE2.out)
        have t2:=ZbY hbr
        clear hbr hbig eq1 hq1 hE2 Q hov em em3 hq0
        rw [hYV.out] at HQ
        obtain ⟨a1',a2',a3',y1,y2,y3,y4⟩:=un21 hY64.out (by rw [← ZaL]; exact ZbW HQ.out) (Nat.mod_lt _ hYpos.out)
        obtain ⟨R0,eR0⟩:∃ R0,(R1 * H32 + u0) % Y=R0:=⟨_,rfl⟩
        rw [eR0] at y4
        obtain ⟨z1,z2,z4,z5,ez⟩:=Zdi hQ1.out (ZbX hYpos.out hR1.out B5.out HQ.out)
        have y5:(R0:Int) / 2 ^ s=((R0 / 2 ^ s:Nat):Int):=by rw [Int.natCast_ediv,Int.natCast_pow]; rfl
        obtain ⟨rem,erem⟩:∃ rem,R0 / 2 ^ s=rem:=⟨_,rfl⟩
        rw [erem] at y5
        have EZ:=zh ez
        have ER:=zh erem
        have ER0:=zh eR0
        clear eR0 ez erem
        go_wp2
        go_ret2
        have fq:z2=qf:=by rw [EZ.out,← HQF.out,HQ.out,HQ1.out,ERR.out]
        have fr:rem=rf:=by rw [← ER.out,← ER0.out,← HRF.out,ERR.out]
        exact ⟨by rw [← fq,← fr]; rfl,rfl⟩
       ·have t2:=ZbB hbr
        have hR2:Hid (r1 < H32):=by unfold Hid; omega
        clear hbr hbig eq1 hov em em3 hq0
        go_wp2
        go_round
        case rel=>exact ⟨q1,r1,rfl,rfl,hR2,hE2⟩
        case measure=>simp [intOf]; omega
      ·have t3:=Zcs hov
       have HQ:=zh (ZdY (by have:=hR1Y.out; omega) (by rw [em,← em3]; omega) Q.out)
       obtain ⟨q1,rfl⟩:∃ q1,q1=q:=⟨_,rfl⟩
       clear hov em em3 hbig Q
       rw [hYV.out] at HQ
       obtain ⟨a1',a2',a3',y1,y2,y3,y4⟩:=un21 hY64.out (by rw [← ZaL]; exact ZbW HQ.out) (Nat.mod_lt _ hYpos.out)
       obtain ⟨R0,eR0⟩:∃ R0,(R1 * H32 + u0) % Y=R0:=⟨_,rfl⟩
       rw [eR0] at y4
       obtain ⟨z1,z2,z4,z5,ez⟩:=Zdi hQ1.out (ZbX hYpos.out hR1.out B5.out HQ.out)
       have y5:(R0:Int) / 2 ^ s=((R0 / 2 ^ s:Nat):Int):=by rw [Int.natCast_ediv,Int.natCast_pow]; rfl
       obtain ⟨rem,erem⟩:∃ rem,R0 / 2 ^ s=rem:=⟨_,rfl⟩
       rw [erem] at y5
       have EZ:=zh ez
       have ER:=zh erem
       have ER0:=zh eR0
       clear eR0 ez erem
       go_wp2
       go_ret2
       have fq:z2=qf:=by rw [EZ.out,← HQF.out,HQ.out,HQ1.out,ERR.out]
       have fr:rem=rf:=by rw [← ER.out,← ER0.out,← HRF.out,ERR.out]
       exact ⟨by rw [← fq,← fr]; rfl,rfl⟩
   ·have t2:=ZbB hbr
    have hR2:Hid (r1 < H32):=by unfold Hid; omega
    clear hbr hbig eq1
    go_wp2
    go_round
    case rel=>exact ⟨q1,r1,rfl,rfl,hR2,hE2⟩
    case measure=>simp [intOf]; omega
  ·have t1:=ZbB hbig
   have g5:=Zck (Zfz hbig B3.out)
   obtain ⟨m,em⟩:∃ m,q * v0=m:=⟨_,rfl⟩
   rw [em] at g5
   obtain ⟨m2,m3,g6,g7,em3⟩:=Zg2 hr.out B4.out
   by_cases hov:m3 < m
   ·have t3:=ZcT hov
    have hE2:=zh (Zey (by have:=hUY.out; omega) (by rw [em,← em3]; exact hov) Q.out)
    have hq0:0 < q:=by
     rcases Nat.eq_zero_or_pos q with e | e
     ·subst e; simp at em; omega
     ·exact e
    have g1:=ZbS hq0 hqW.out
    obtain ⟨q1,eq1⟩:∃ q1,q - 1=q1:=⟨_,rfl⟩
    rw [eq1] at g1 hE2
    rw [ER1.out] at hE2
    have hq1:q1 < q:=by omega
    by_cases hbr:H32≤r1
    ·have HQ:=zh (Zb2 hUY.out B3.out hbr hE2.out)
     have t2:=ZbY hbr
     clear hbr hbig eq1 hq1 hE2 Q hov em em3 hq0
     rw [hYV.out] at HQ
     have hYpos:Hid (0 < Y):=by have:=hYV.out; have:=hUY.out; unfold Hid; omega
     obtain ⟨R1,eR1⟩:∃ R1,(U * H32 + u1) % Y=R1:=⟨_,rfl⟩
     have hR1:Hid (R1 < Y):=by rw [← eR1]; exact Nat.mod_lt _ hYpos.out
     obtain ⟨a1,a2,a3,x1,x2,x3,x4⟩:=un21 hY64.out (by rw [← ZaL]; exact ZbW HQ.out) (Nat.mod_lt _ hYpos.out)
     rw [eR1] at x4
     have hQ1:Hid (q1 < H32):=ZbX hYpos.out (by have:=hUY.out; rw [hYV.out] at this; exact this) B4.out HQ.out
     have HQ1:=HQ
     clear HQ
     have ERR:=zh eR1
     clear eR1
     have hR1W:Hid (R1 < W64):=Nat.lt_of_lt_of_le hR1.out hY64.out
     have hR1Y:Hid (R1 < v1 * H32 + v0):=by rw [hYV.out]; exact hR1.out
     obtain ⟨qi,mi,ri,k1,k2,k3,k4,k5,k6⟩:=ZeQ (U:=R1) (v1:=v1) (by have:=B1.out; omega) hR1W.out
     have HE0:=zh (ZeR (v0:=v0) (u:=u0) (by have:=B1.out; omega) B5.out k5 k6)
     clear k5
     go_wp2
     go_loop [16,18] (fun rv qv=>∃ q r:Nat,qv=.int .u64 q∧rv=.int .u64 r∧Hid (r < H32)∧Hid (Zb8 H32 R1 v1 v0 u0 q r)) (fun _ qv=>(intOf qv).toNat)
     case atStart=>exact ⟨_,_,rfl,rfl,by have:=B2.out; unfold Hid; omega,HE0⟩
     case round =>
      obtain ⟨q,r,rfl,rfl,hr,Q⟩:=hrel
      clear k1 k2 k3 k4 k6 HE0 x1 x2 x3 x4
      have hqW:Hid (q < W64):=by
       have h1:=ZeS B1.out hR1W.out Q.out
       unfold Hid; rw [Zah]; omega
      have hrW:Hid (r + v1 < W64):=by
       have h1:=hr.out
       have h2:=B2.out
       unfold Hid; rw [Zah]; rw [ZaL] at h1 h2; omega
      have g2:=Zbn hrW.out
      obtain ⟨r1,er1⟩:∃ r1,r + v1=r1:=⟨_,rfl⟩
      rw [er1] at g2
      have ER1:=zh er1
      clear er1
      by_cases hbig:H32≤q
      ·have hE2:=zh (Zg0 hR1Y.out B5.out hbig Q.out)
       have t1:=ZbY hbig
       have g1:=ZbS (q:=q) (by have:=ZaL; omega) hqW.out
       obtain ⟨q1,eq1⟩:∃ q1,q - 1=q1:=⟨_,rfl⟩
       rw [eq1] at g1 hE2
       rw [ER1.out] at hE2
       have hq1:q1 < q:=by have:=ZaL; omega
       by_cases hbr:H32≤r1
       ·have HQ:=zh (Zb2 hR1Y.out B3.out hbr hE2.out)
        have t2:=ZbY hbr
        clear hbr hbig eq1 hq1 hE2 Q
        rw [hYV.out] at HQ
        obtain ⟨a1',a2',a3',y1,y2,y3,y4⟩:=un21 hY64.out (by rw [← ZaL]; exact ZbW HQ.out) (Nat.mod_lt _ hYpos.out)
        obtain ⟨R0,eR0⟩:∃ R0,(R1 * H32 + u0) % Y=R0:=⟨_,rfl⟩
        rw [eR0] at y4
        obtain ⟨z1,z2,z4,z5,ez⟩:=Zdi hQ1.out (ZbX hYpos.out hR1.out B5.out HQ.out)
        have y5:(R0:Int) / 2 ^ s=((R0 / 2 ^ s:Nat):Int):=by rw [Int.natCast_ediv,Int.natCast_pow]; rfl
        obtain ⟨rem,erem⟩:∃ rem,R0 / 2 ^ s=rem:=⟨_,rfl⟩
        rw [erem] at y5
        have EZ:=zh ez
        have ER:=zh erem
        have ER0:=zh eR0
        clear eR0 ez erem
        go_wp2
        go_ret2
        have fq:z2=qf:=by rw [EZ.out,← HQF.out,HQ.out,HQ1.out,ERR.out]
        have fr:rem=rf:=by rw [← ER.out,← ER0.out,← HRF.out,ERR.out]
        exact ⟨by rw [← fq,← fr]; rfl,rfl⟩
       ·have t2:=ZbB hbr
        have hR2:Hid (r1 < H32):=by unfold Hid; omega
        clear hbr hbig eq1
        go_wp2
        go_round
        case rel=>exact ⟨q1,r1,rfl,rfl,hR2,hE2⟩
        case measure=>simp [intOf]; omega
      ·have t1:=ZbB hbig
       have g5:=Zck (Zfz hbig B3.out)
       obtain ⟨m,em⟩:∃ m,q * v0=m:=⟨_,rfl⟩
       rw [em] at g5
       obtain ⟨m2,m3,g6,g7,em3⟩:=Zg2 hr.out B5.out
       by_cases hov:m3 < m
       ·have t3:=ZcT hov
        have hE2:=zh (Zey (by have:=hR1Y.out; omega) (by rw [em,← em3]; exact hov) Q.out)
        have hq0:0 < q:=by
         rcases Nat.eq_zero_or_pos q with e | e
         ·subst e; simp at em; omega
         ·exact e
        have g1:=ZbS hq0 hqW.out
        obtain ⟨q1,eq1⟩:∃ q1,q - 1=q1:=⟨_,rfl⟩
        rw [eq1] at g1 hE2
        rw [ER1.out] at hE2
        have hq1:q1 < q:=by omega
        by_cases hbr:H32≤r1
        ·have HQ:=zh (Zb2 hR1Y.out B3.out hbr hE2.out)
         have t2:=ZbY hbr
         clear hbr hbig eq1 hq1 hE2 Q hov em em3 hq0
         rw [hYV.out] at HQ
         obtain ⟨a1',a2',a3',y1,y2,y3,y4⟩:=un21 hY64.out (by rw [← ZaL]; exact ZbW HQ.out) (Nat.mod_lt _ hYpos.out)
         obtain ⟨R0,eR0⟩:∃ R0,(R1 * H32 + u0) % Y=R0:=⟨_,rfl⟩
         rw [eR0] at y4
         obtain ⟨z1,z2,z4,z5,ez⟩:=Zdi hQ1.out (ZbX hYpos.out hR1.out B5.out HQ.out)
         have y5:(R0:Int) / 2 ^ s=((R0 / 2 ^ s:Nat):Int):=by rw [Int.natCast_ediv,Int.natCast_pow]; rfl
         obtain ⟨rem,erem⟩:∃ rem,R0 / 2 ^ s=rem:=⟨_,rfl⟩
         rw [erem] at y5
         have EZ:=zh ez
         have ER:=zh erem
         have ER0:=zh eR0
         clear eR0 ez erem
         go_wp2
         go_ret2
         have fq:z2=qf:=by rw [EZ.out,← HQF.out,HQ.out,HQ1.out,ERR.out]
         have fr:rem=rf:=by rw [← ER.out,← ER0.out,← HRF.out,ERR.out]
         exact ⟨by rw [← fq,← fr]; rfl,rfl⟩
        ·have t2:=ZbB hbr
         have hR2:Hid (r1 < H32):=by unfold Hid; omega
         clear hbr hbig eq1 hov em em3 hq0
         go_wp2
         go_round
         case rel=>exact ⟨q1,r1,rfl,rfl,hR2,hE2⟩
         case measure=>simp [intOf]; omega
       ·have t3:=Zcs hov
        have HQ:=zh (ZdY (by have:=hR1Y.out; omega) (by rw [em,← em3]; omega) Q.out)
        obtain ⟨q1,rfl⟩:∃ q1,q1=q:=⟨_,rfl⟩
        clear hov em em3 hbig Q
        rw [hYV.out] at HQ
        obtain ⟨a1',a2',a3',y1,y2,y3,y4⟩:=un21 hY64.out (by rw [← ZaL]; exact ZbW HQ.out) (Nat.mod_lt _ hYpos.out)
        obtain ⟨R0,eR0⟩:∃ R0,(R1 * H32 + u0) % Y=R0:=⟨_,rfl⟩
        rw [eR0] at y4
        obtain ⟨z1,z2,z4,z5,ez⟩:=Zdi hQ1.out (ZbX hYpos.out hR1.out B5.out HQ.out)
        have y5:(R0:Int) / 2 ^ s=((R0 / 2 ^ s:Nat):Int):=by rw [Int.natCast_ediv,Int.natCast_pow]; rfl
        obtain ⟨rem,erem⟩:∃ rem,R0 / 2 ^ s=rem:=⟨_,rfl⟩
        rw [erem] at y5
        have EZ:=zh ez
        have ER:=zh erem
        have ER0:=zh eR0
        clear eR0 ez erem
        go_wp2
        go_ret2
        have fq:z2=qf:=by rw [EZ.out,← HQF.out,HQ.out,HQ1.out,ERR.out]
        have fr:rem=rf:=by rw [← ER.out,← ER0.out,← HRF.out,ERR.out]
        exact ⟨by rw [← fq,← fr]; rfl,rfl⟩
    ·have t2:=ZbB hbr
     have hR2:Hid (r1 < H32):=by unfold Hid; omega
     clear hbr hbig eq1 hov em em3 hq0
     go_wp2
     go_round
     case rel=>exact ⟨q1,r1,rfl,rfl,hR2,hE2⟩
     case measure=>simp [intOf]; omega
   ·have t3:=Zcs hov
    have HQ:=zh (ZdY (by have:=hUY.out; omega) (by rw [em,← em3]; omega) Q.out)
    obtain ⟨q1,rfl⟩:∃ q1,q1=q:=⟨_,rfl⟩
    clear hov em em3 hbig Q
    rw [hYV.out] at HQ
    have hYpos:Hid (0 < Y):=by have:=hYV.out; have:=hUY.out; unfold Hid; omega
    obtain ⟨R1,eR1⟩:∃ R1,(U * H32 + u1) % Y=R1:=⟨_,rfl⟩
    have hR1:Hid (R1 < Y):=by rw [← eR1]; exact Nat.mod_lt _ hYpos.out
    obtain ⟨a1,a2,a3,x1,x2,x3,x4⟩:=un21 hY64.out (by rw [← ZaL]; exact ZbW HQ.out) (Nat.mod_lt _ hYpos.out)
    rw [eR1] at x4
    have hQ1:Hid (q1 < H32):=ZbX hYpos.out (by have:=hUY.out; rw [hYV.out] at this; exact this) B4.out HQ.out
    have HQ1:=HQ
    clear HQ
    have ERR:=zh eR1
    clear eR1
    have hR1W:Hid (R1 < W64):=Nat.lt_of_lt_of_le hR1.out hY64.out
    have hR1Y:Hid (R1 < v1 * H32 + v0):=by rw [hYV.out]; exact hR1.out
    obtain ⟨qi,mi,ri,k1,k2,k3,k4,k5,k6⟩:=ZeQ (U:=R1) (v1:=v1) (by have:=B1.out; omega) hR1W.out
    have HE0:=zh (ZeR (v0:=v0) (u:=u0) (by have:=B1.out; omega) B5.out k5 k6)
    clear k5
    go_wp2
    go_loop [16,18] (fun rv qv=>∃ q r:Nat,qv=.int .u64 q∧rv=.int .u64 r∧Hid (r < H32)∧Hid (Zb8 H32 R1 v1 v0 u0 q r)) (fun _ qv=>(intOf qv).toNat)
    case atStart=>exact ⟨_,_,rfl,rfl,by have:=B2.out; unfold Hid; omega,HE0⟩
    case round =>
     obtain ⟨q,r,rfl,rfl,hr,Q⟩:=hrel
     clear k1 k2 k3 k4 k6 HE0 x1 x2 x3 x4
     have hqW:Hid (q < W64):=by
      have h1:=ZeS B1.out hR1W.out Q.out
      unfold Hid; rw [Zah]; omega
     have hrW:Hid (r + v1 < W64):=by
      have h1:=hr.out
      have h2:=B2.out
      unfold Hid; rw [Zah]; rw [ZaL] at h1 h2; omega
     have g2:=Zbn hrW.out
     obtain ⟨r1,er1⟩:∃ r1,r + v1=r1:=⟨_,rfl⟩
     rw [er1] at g2
     have ER1:=zh er1
     clear er1
     by_cases hbig:H32≤q
     ·have hE2:=zh (Zg0 hR1Y.out B5.out hbig Q.out)
      have t1:=ZbY hbig
      have g1:=ZbS (q:=q) (by have:=ZaL; omega) hqW.out
      obtain ⟨q1,eq1⟩:∃ q1,q - 1=q1:=⟨_,rfl⟩
      rw [eq1] at g1 hE2
      rw [ER1.out] at hE2
      have hq1:q1 < q:=by have:=ZaL; omega
      by_cases hbr:H32≤r1
      ·have HQ:=zh (Zb2 hR1Y.out B3.out hbr hE2.out)
       have t2:=ZbY hbr
       clear hbr hbig eq1 hq1 hE2 Q
       rw [hYV.out] at HQ
       obtain ⟨a1',a2',a3',y1,y2,y3,y4⟩:=un21 hY64.out (by rw [← ZaL]; exact ZbW HQ.out) (Nat.mod_lt _ hYpos.out)
       obtain ⟨R0,eR0⟩:∃ R0,(R1 * H32 + u0) % Y=R0:=⟨_,rfl⟩
       rw [eR0] at y4
       obtain ⟨z1,z2,z4,z5,ez⟩:=Zdi hQ1.out (ZbX hYpos.out hR1.out B5.out HQ.out)
       have y5:(R0:Int) / 2 ^ s=((R0 / 2 ^ s:Nat):Int):=by rw [Int.natCast_ediv,Int.natCast_pow]; rfl
       obtain ⟨rem,erem⟩:∃ rem,R0 / 2 ^ s=rem:=⟨_,rfl⟩
       rw [erem] at y5
       have EZ:=zh ez
       have ER:=zh erem
       have ER0:=zh eR0
       clear eR0 ez erem
       go_wp2
       go_ret2
       have fq:z2=qf:=by rw [EZ.out,← HQF.out,HQ.out,HQ1.out,ERR.out]
       have fr:rem=rf:=by rw [← ER.out,← ER0.out,← HRF.out,ERR.out]
       exact ⟨by rw [← fq,← fr]; rfl,rfl⟩
      ·have t2:=ZbB hbr
       have hR2:Hid (r1 < H32):=by unfold Hid; omega
       clear hbr hbig eq1
       go_wp2
       go_round
       case rel=>exact ⟨q1,r1,rfl,rfl,hR2,hE2⟩
       case measure=>simp [intOf]; omega
     ·have t1:=ZbB hbig
      have g5:=Zck (Zfz hbig B3.out)
      obtain ⟨m,em⟩:∃ m,q * v0=m:=⟨_,rfl⟩
      rw [em] at g5
      obtain ⟨m2,m3,g6,g7,em3⟩:=Zg2 hr.out B5.out
      by_cases hov:m3 < m
      ·have t3:=ZcT hov
       have hE2:=zh (Zey (by have:=hR1Y.out; omega) (by rw [em,← em3]; exact hov) Q.out)
       have hq0:0 < q:=by
        rcases Nat.eq_zero_or_pos q with e | e
        ·subst e; simp at em; omega
        ·exact e
       have g1:=ZbS hq0 hqW.out
       obtain ⟨q1,eq1⟩:∃ q1,q - 1=q1:=⟨_,rfl⟩
       rw [eq1] at g1 hE2
       rw [ER1.out] at hE2
       have hq1:q1 < q:=by omega
       by_cases hbr:H32≤r1
       ·have HQ:=zh (Zb2 hR1Y.out B3.out hbr hE2.out)
        have t2:=ZbY hbr
        clear hbr hbig eq1 hq1 hE2 Q hov em em3 hq0
        rw [hYV.out] at HQ
        obtain ⟨a1',a2',a3',y1,y2,y3,y4⟩:=un21 hY64.out (by rw [← ZaL]; exact ZbW HQ.out) (Nat.mod_lt _ hYpos.out)
        obtain ⟨R0,eR0⟩:∃ R0,(R1 * H32 + u0) % Y=R0:=⟨_,rfl⟩
        rw [eR0] at y4
        obtain ⟨z1,z2,z4,z5,ez⟩:=Zdi hQ1.out (ZbX hYpos.out hR1.out B5.out HQ.out)
        have y5:(R0:Int) / 2 ^ s=((R0 / 2 ^ s:Nat):Int):=by rw [Int.natCast_ediv,Int.natCast_pow]; rfl
        obtain ⟨rem,erem⟩:∃ rem,R0 / 2 ^ s=rem:=⟨_,rfl⟩
        rw [erem] at y5
        have EZ:=zh ez
        have ER:=zh erem
        have ER0:=zh eR0
        clear eR0 ez erem
        go_wp2
        go_ret2
        have fq:z2=qf:=by rw [EZ.out,← HQF.out,HQ.out,HQ1.out,ERR.out]
        have fr:rem=rf:=by rw [← ER.out,← ER0.out,← HRF.out,ERR.out]
        exact ⟨by rw [← fq,← fr]; rfl,rfl⟩
       ·have t2:=ZbB hbr
        have hR2:Hid (r1 < H32):=by unfold Hid; omega
        clear hbr hbig eq1 hov em em3 hq0
        go_wp2
        go_round
        case rel=>exact ⟨q1,r1,rfl,rfl,hR2,hE2⟩
        case measure=>simp [intOf]; omega
      ·have t3:=Zcs hov
       have HQ:=zh (ZdY (by have:=hR1Y.out; omega) (by rw [em,← em3]; omega) Q.out)
       obtain ⟨q1,rfl⟩:∃ q1,q1=q:=⟨_,rfl⟩
       clear hov em em3 hbig Q
       rw [hYV.out] at HQ
       obtain ⟨a1',a2',a3',y1,y2,y3,y4⟩:=un21 hY64.out (by rw [← ZaL]; exact ZbW HQ.out) (Nat.mod_lt _ hYpos.out)
       obtain ⟨R0,eR0⟩:∃ R0,(R1 * H32 + u0) % Y=R0:=⟨_,rfl⟩
       rw [eR0] at y4
       obtain ⟨z1,z2,z4,z5,ez⟩:=Zdi hQ1.out (ZbX hYpos.out hR1.out B5.out HQ.out)
       have y5:(R0:Int) / 2 ^ s=((R0 / 2 ^ s:Nat):Int):=by rw [Int.natCast_ediv,Int.natCast_pow]; rfl
       obtain ⟨rem,erem⟩:∃ rem,R0 / 2 ^ s=rem:=⟨_,rfl⟩
       rw [erem] at y5
       have EZ:=zh ez
       have ER:=zh erem
       have ER0:=zh eR0
       clear eR0 ez erem
       go_wp2
       go_ret2
       have fq:z2=qf:=by rw [EZ.out,← HQF.out,HQ.out,HQ1.out,ERR.out]
       have fr:rem=rf:=by rw [← ER.out,← ER0.out,← HRF.out,ERR.out]
       exact ⟨by rw [← fq,← fr]; rfl,rfl⟩
theorem Zdt {y:Nat} (h0:0 < y) (hy:y < W64):1≤Lib.bitLen y∧Lib.bitLen y≤64∧2 ^ (Lib.bitLen y - 1)≤y∧y < 2 ^ Lib.bitLen y:=by
 rw [Zah] at hy
 have h:=Lib.bitLenAux_bounds 64 y (by omega) (by omega)
 exact ⟨h.1,Lib.bitLen_le y 64 (by omega) (by omega),h.2.1,h.2.2⟩
noncomputable def divQ (hi lo y:Nat):Nat:=(hi * W64 + lo) / y
noncomputable def divR (hi lo y:Nat):Nat:=(hi * W64 + lo) % y
theorem ZhM (hi lo y:Nat):divQ hi lo y * y + divR hi lo y=hi * W64 + lo:=by
 unfold divQ divR; rw [Nat.mul_comm]; exact Nat.div_add_mod _ _
theorem Zg3 (hi lo:Nat) {y:Nat} (hy:0 < y):divR hi lo y < y:=Nat.mod_lt _ hy
theorem Zmn {hi lo y:Nat} (h:hi < y) (hlo:lo < W64):divQ hi lo y < W64:=by
 unfold divQ
 rw [Nat.div_lt_iff_lt_mul (by omega)]
 have:(hi + 1) * W64≤y * W64:=Nat.mul_le_mul_right _ h
 rw [Nat.add_mul] at this
 rw [Nat.mul_comm W64]
 omega
theorem ZnS (hi lo y:Nat) (w:World) (h0:0 < hi) (h1:hi < y) (hy:y < W64) (hlo:lo < W64) :
 Calls Tryz.prog 364 #[.int .u64 (hi:Int), .int .u64 (lo:Int), .int .u64 (y:Int)] w fun e w'=>e=.returned (.tuple #[.int .u64 (divQ hi lo y:Nat), .int .u64 (divR hi lo y:Nat)])∧w=w':=by
 obtain ⟨l1,l2,l3,l4⟩:=Zdt (y:=y) (by omega) hy
 obtain ⟨s,hs⟩:∃ s,64 - Lib.bitLen y=s:=⟨_,rfl⟩
 have hp:0 < 2 ^ s:=Nat.pow_pos (by omega)
 have hyY:y * 2 ^ s < W64:=by
  have:y * 2 ^ s < 2 ^ Lib.bitLen y * 2 ^ s:=Nat.mul_lt_mul_of_pos_right l4 hp
  rw [← Nat.pow_add,show Lib.bitLen y + s=64 by omega] at this
  rw [Zah]; exact this
 have hyL:9223372036854775808≤y * 2 ^ s:=by
  have:2 ^ (Lib.bitLen y - 1) * 2 ^ s≤y * 2 ^ s:=Nat.mul_le_mul_right _ l3
  rw [← Nat.pow_add,show Lib.bitLen y - 1 + s=63 by omega] at this
  exact this
 have hH:hi * 2 ^ s < y * 2 ^ s:=Nat.mul_lt_mul_of_pos_right h1 hp
 have hLs:lo / 2 ^ (64 - s) < 2 ^ s:=by
  rw [Nat.div_lt_iff_lt_mul (Nat.pow_pos (by omega)),← Nat.pow_add,show s + (64 - s)=64 by omega]
  rw [Zah] at hlo; exact hlo
 have hor:hi * 2 ^ s ||| lo / 2 ^ (64 - s)=hi * 2 ^ s + lo / 2 ^ (64 - s):=by
  have:=Nat.shiftLeft_add_eq_or_of_lt hLs hi
  rw [Nat.shiftLeft_eq] at this
  exact this.symm
 have hUY:hi * 2 ^ s + lo / 2 ^ (64 - s) < y * 2 ^ s:=by
  have:(hi + 1) * 2 ^ s≤y * 2 ^ s:=Nat.mul_le_mul_right _ h1
  rw [Nat.add_mul] at this
  omega
 have hY2:y * 2 ^ s < 18446744073709551616:=by rw [Zah] at hyY; exact hyY
 have hT:lo * 2 ^ s % 18446744073709551616 < 18446744073709551616:=Nat.mod_lt _ (by omega)
 have hHs:hi * 2 ^ s < 18446744073709551616:=by omega
 have hpow:((2:Int) ^ s)=((2 ^ s:Nat):Int):=by rw [Int.natCast_pow]; rfl
 have hpow2:((2:Int) ^ (64 - s))=((2 ^ (64 - s):Nat):Int):=by rw [Int.natCast_pow]; rfl
 have sp:=ZlH hi lo s (by omega)
 have hv:y * 2 ^ s / 4294967296 * H32 + y * 2 ^ s % 4294967296=y * 2 ^ s:=by rw [ZaL,Nat.mul_comm]; exact Nat.div_add_mod _ _
 have sh:=Zge (hi * 18446744073709551616 + lo) y (2 ^ s) hp
 have dt:=Zqe (H:=H32) (Y:=y * 2 ^ s) (U:=hi * 2 ^ s + lo / 2 ^ (64 - s)) (u1:=lo * 2 ^ s % 18446744073709551616 / 4294967296) (u0:=lo * 2 ^ s % 18446744073709551616 % 4294967296) (by omega) hUY (by rw [ZaL]; omega) (by rw [ZaL]; omega)
 rw [ZaL,← sp,sh.1] at dt
 refine Zm5 hi lo y s (y * 2 ^ s) (y * 2 ^ s / 4294967296) (y * 2 ^ s % 4294967296) (hi * 2 ^ s) (lo / 2 ^ (64 - s)) (hi * 2 ^ s + lo / 2 ^ (64 - s)) (lo * 2 ^ s % 18446744073709551616) (lo * 2 ^ s % 18446744073709551616 / 4294967296) (lo * 2 ^ s % 18446744073709551616 % 4294967296) _ _ w ?_ ?_ h0 h1 hy (by omega) (by omega) ⟨?_,?_,?_,?_,?_,?_,?_,?_,?_⟩ (by rw [hv]; exact hUY) hv (by omega) (by rw [ZaL]; omega) (by rw [ZaL]; omega) (by rw [ZaL]; omega) (by rw [ZaL]; omega)
 ·rw [ZaL,← dt.2.2.2.1,divQ,Zah]
 ·rw [ZaL,← dt.2.2.2.2,divR,Zah]; exact sh.2
 ·rw [hpow,← Int.natCast_mul]; exact ZaQ _ hyY
 ·omega
 ·exact M64.maskN _ hY2
 ·rw [hpow,← Int.natCast_mul]; exact M64.wrapN _ hHs
 ·rw [hpow2,Int.natCast_ediv]
 ·rw [bits_or_u64_nat _ _ hHs (by omega),hor]
 ·rw [hpow,← Int.natCast_mul]; exact M64.wrapM _
 ·omega
 ·exact M64.maskN _ hT
set_option maxHeartbeats 400000 in
theorem ZlJ (lo y q r:Nat) (w:World) (h1:0 < y) (hq:lo / y=q) (hr:lo % y=r) (hlo:lo < W64) :
 Calls Tryz.prog 364 #[.int .u64 0, .int .u64 (lo:Int), .int .u64 (y:Int)] w fun e w'=>e=.returned (.tuple #[.int .u64 (q:Int), .int .u64 (r:Int)])∧∃ n,w'=w.drewN n:=by
 have e2:((y:Int) == 0)=false:=by simp; omega
 have p1:(lo:Int) / (y:Int)=(q:Int):=by rw [← Int.natCast_ediv,hq]
 have p2:IntKind.u64.wrap (q:Int)=(q:Int):=ZaQ _ (by have:=Nat.div_le_self lo y; omega)
 have p3:(lo:Int) % (y:Int)=(r:Int):=by rw [← Int.natCast_emod,hr]
 clear hq hr hlo
 go_enter Tryz.func364,Tryz.ntmps364
 go_wp2
 go_quiet (fail)
 go_wp2
 go_ret2
 exact ⟨by rw [← p3]; rfl,_,rfl⟩
theorem Zgk (hi lo y:Nat) (w:World) (h1:hi < y) (hy:y < W64) (hlo:lo < W64) :
 Calls Tryz.prog 364 #[.int .u64 (hi:Int), .int .u64 (lo:Int), .int .u64 (y:Int)] w fun e w'=>e=.returned (.tuple #[.int .u64 (divQ hi lo y:Nat), .int .u64 (divR hi lo y:Nat)])∧∃ n,w'=w.drewN n:=by
 rcases Nat.eq_zero_or_pos hi with h0 | h0
 ·subst h0
  refine (ZlJ lo y (divQ 0 lo y) (divR 0 lo y) w h1 (by simp [divQ]) (by simp [divR]) hlo).mono ?_
  rintro e w' ⟨rfl,hw⟩
  exact ⟨rfl,hw⟩
 ·refine (ZnS hi lo y w h0 h1 hy hlo).mono ?_
  rintro e w' ⟨rfl,rfl⟩
  exact ⟨rfl,0,rfl⟩
end Go.Proofs.YtcpjeaaapocoeaaGreatDoor

namespace Go.Proofs.YtcpjeaaapocoeaaGreatDoor
open Go.RowKit
def ZdO (xs:List Nat) (u k r:Nat):Prop:=r < u∧∃ Q,val W64 (xs.drop k)=Q * u + r
theorem ZdO.start (xs:List Nat) {u:Nat} (hu:0 < u):ZdO xs u xs.length 0:=⟨hu,0,by rw [List.drop_of_length_le (Nat.le_refl _)]; simp⟩
theorem ZdO.step {xs:List Nat} {u k r x:Nat} (h:ZdO xs u (k + 1) r) (hk:k < xs.length) (hx:xs[k]?.getD 0=x):ZdO xs u k (divR r x u):=by
 obtain ⟨h1,Q,h2⟩:=h
 refine ⟨Zg3 _ _ (by omega),divQ r x u + W64 * Q,?_⟩
 rw [ZaK k hk,hx]
 exact ZhF W64 _ _ _ _ _ _ _ h2 (ZhM r x u).symm
theorem ZdO.done {xs:List Nat} {u r:Nat} (h:ZdO xs u 0 r):val W64 xs % u=r:=by
 obtain ⟨h1,Q,h2⟩:=h
 rw [List.drop_zero] at h2
 rw [h2,Nat.mul_comm,Nat.mul_add_mod,Nat.mod_eq_of_lt h1]
set_option maxHeartbeats 1000000 in
theorem Zcw (A:Option Addr) (xs:List Nat) (n c u:Nat) (w:World) (hn:xs.length=n) (hX:Zan .u64 w A xs) (hl:xs.length≤1099511627776) (hd:Dig W64 xs) (hu:0 < u) (huW:u < W64) :
 Calls Tryz.prog 312 #[.slice A n c, .int .u64 (u:Int)] w fun e w'=>e=.returned (.int .u64 ((val W64 xs % u:Nat):Int))∧∃ n,w'=w.drewN n:=by
 subst hn
 have HX:=zh hX
 have Hd:=zh hd
 have HU:=zh huW
 obtain ⟨res,hres⟩:∃ res,val W64 xs % u=res:=⟨_,rfl⟩
 rw [hres]
 have HRes:=zh hres
 clear hX hd huW hres
 go_enter Tryz.func312,Tryz.ntmps312
 go_wp2
 go_loopw [5,6] (fun rv i wr=>∃ k r q:Nat,k≤xs.length∧i=.int .i64 ((k:Int) - 1)∧rv=.int .u64 (r:Int)∧Hid (ZdO xs u k r)∧Hid (wr=w.drewN q)) (fun _ i _=>(intOf i + 1).toNat)
 case atStart=>exact ⟨xs.length,0,0,Nat.le_refl _,rfl,rfl,ZdO.start xs hu,rfl⟩
 case round =>
  obtain ⟨k,r,q,hk,rfl,rfl,hR,hW⟩:=hrel
  obtain rfl:=hW.out
  clear hW
  by_cases hlt:0 < k
  ·obtain ⟨j,rfl⟩:∃ j,k=j + 1:=⟨k - 1,by omega⟩
   have ej:(((j + 1:Nat):Int) - 1)=(j:Int):=by omega
   rw [ej]
   clear ej
   obtain ⟨b,off,rfl,_,hcx⟩:=HX.out.at (i:=j) (by omega)
   obtain ⟨x,ex⟩:∃ x,xs[j]?.getD 0=x:=⟨_,rfl⟩
   rw [ex] at hcx
   have HR2:=zh (hR.out.step (by omega) ex)
   have hxW:Hid (x < W64):=ex ▸ Hd.out.getD Zar j
   clear ex
   go_wp2_with (go_at_call 364; refine (Zgk _ _ _ _ hR.out.1 HU.out hxW.out).mono ?_; rintro e w' ⟨rfl,n1,rfl⟩)
   go_roundw
   case rel=>exact ⟨j,_,_,by omega,rfl,rfl,HR2,rfl⟩
   case measure=>simp [intOf]
  ·obtain rfl:k=0:=by omega
   have HD:=zh hR.out.done
   rw [HRes.out] at HD
   go_wp2
   go_ret
   exact ⟨by rw [HD.out]; rfl,_,rfl⟩
def ZdP (xs:List Nat) (u k:Nat) (qs:List Nat) (r:Nat):Prop:=qs.length=xs.length∧Dig W64 qs∧r < u∧val W64 (xs.drop k)=val W64 (qs.drop k) * u + r
theorem ZdP.start (xs:List Nat) {u:Nat} (hu:0 < u):ZdP xs u xs.length (List.replicate xs.length 0) 0:=by
 refine ⟨by simp,Dig.replicate Zar _,hu,?_⟩
 rw [List.drop_of_length_le (Nat.le_refl _),List.drop_of_length_le (by simp)]; simp
theorem ZdP.step {xs qs:List Nat} {u k r x:Nat} (h:ZdP xs u (k + 1) qs r) (hk:k < xs.length) (hx:xs[k]?.getD 0=x) (hxW:x < W64):ZdP xs u k (qs.set k (divQ r x u)) (divR r x u):=by
 obtain ⟨h1,h2,h3,h4⟩:=h
 refine ⟨by simpa using h1,h2.set k (Zmn h3 hxW),Zg3 _ _ (by omega),?_⟩
 rw [ZaK k hk,hx,ZaK (xs:=qs.set k _) k (by simp; omega),List.drop_set_of_lt (by omega)]
 have:(qs.set k (divQ r x u))[k]?.getD 0=divQ r x u:=by simp [h1,hk]
 rw [this]
 exact ZhF W64 _ _ _ _ _ _ _ h4 (ZhM r x u).symm
theorem ZdP.done {xs qs:List Nat} {u r:Nat} (h:ZdP xs u 0 qs r):val W64 qs=val W64 xs / u∧r=val W64 xs % u:=by
 obtain ⟨h1,h2,h3,h4⟩:=h
 rw [List.drop_zero,List.drop_zero] at h4
 rw [h4,Nat.mul_comm,Nat.mul_add_div (by omega),Nat.mul_add_mod,Nat.mod_eq_of_lt h3,Nat.div_eq_of_lt h3]
 exact ⟨rfl,rfl⟩
def Zm6 (w:World) (q r:Nat) (e:Ending) (w':World):Prop:=∃ v,e=.returned (.tuple #[v, .int .u64 (r:Int)])∧Zaq w' v q∧Ext w w'
set_option maxHeartbeats 1000000 in
theorem Zi6 (A:Option Addr) (xs:List Nat) (n c u:Nat) (w:World) (hn:xs.length=n) (hX:Zan .u64 w A xs) (hl:xs.length≤4294967296) (hd:Dig W64 xs) (hu:0 < u) (huW:u < W64) :
 Calls Tryz.prog 393 #[.slice A n c, .int .u64 (u:Int)] w (Zm6 w (val W64 xs / u) (val W64 xs % u)):=by
 subst hn
 have HX:=zh hX
 have Hd:=zh hd
 have HU:=zh huW
 clear hX hd huW
 go_enter Tryz.func393,Tryz.ntmps393
 go_wp2_with (at_make
              refine ZaY rfl _ _ _ rfl _ _ _ Tryz.underlying133 ZdM _ _ _ _ xs.length rfl rfl (by omega) (by omega) (by omega) (by omega) ?_
              intro b w1 hb hO1 _ hF1 hs1
              have HO1:=zh hO1
              have HF1:=zh hF1
              have Hb:=zh hb
              clear hO1 hF1 hb hs1)
 go_loopw [7,8] (fun rv i wr=>∃ (k r:Nat) (qs:List Nat),k≤xs.length∧i=.int .i64 ((k:Int) - 1)∧rv=.int .u64 (r:Int)∧Hid (ZdP xs u k qs r)∧Hid (Own .u64 217 wr b qs)∧Hid (Ext w wr)) (fun _ i _=>(intOf i + 1).toNat)
 case atStart=>exact ⟨xs.length,0,_,Nat.le_refl _,rfl,rfl,ZdP.start xs hu,HO1.out,HF1.out⟩
 case round =>
  obtain ⟨k,r,qs,hk,rfl,rfl,hR,hO2,hF2⟩:=hrel
  by_cases hlt:0 < k
  ·obtain ⟨j,rfl⟩:∃ j,k=j + 1:=⟨k - 1,by omega⟩
   have ej:(((j + 1:Nat):Int) - 1)=(j:Int):=by omega
   rw [ej]
   clear ej
   obtain ⟨b2,off2,rfl,_,hcx⟩:=(HX.out.ext hF2.out).at (i:=j) (by omega)
   obtain ⟨x,ex⟩:∃ x,xs[j]?.getD 0=x:=⟨_,rfl⟩
   rw [ex] at hcx
   have hxW:Hid (x < W64):=ex ▸ Hd.out.getD Zar j
   have HR2:=zh (hR.out.step (by omega) ex hxW.out)
   clear ex
   have hql:=hR.out.1
   have hjl:j < qs.length:=by omega
   have hcz:=hO2.out.cell hjl
   have hfz:=hO2.out.frozen j
   obtain ⟨z,ez⟩:∃ z,qs[j]?.getD 0=z:=⟨_,rfl⟩
   rw [ez] at hcz
   have HO3:=zh (fun v=>hO2.out.set j v hjl)
   clear ez hql
   go_wp2_with (go_at_call 364; refine (Zgk _ _ _ _ hR.out.2.2.1 HU.out hxW.out).mono ?_; rintro e w' ⟨rfl,n1,rfl⟩)
   go_roundw
   case rel=>exact ⟨j,_,_,by omega,rfl,rfl,HR2,HO3.out _,(hF2.out.setCell (p:=⟨b,j,none⟩) (Or.inr (by have:=Hb.out; show w.heap.size≤b; omega)) _).drewN _⟩
   case measure=>simp [intOf]
  ·obtain rfl:k=0:=by omega
   have hD:=hR.out.done
   have hz:=hR.out.1
   have HT:=zh (ZcF _ qs xs.length xs.length wr hz hO2.out.shows0 (by omega) (by omega))
   have HN:=zh (Zaq.of_own (c:=xs.length) hO2.out hR.out.2.1 (by omega))
   rw [hD.1] at HN
   have Hr:=zh hD.2
   clear hz hD
   go_wp2_with fail
   refine HT.out.mono ?_
   rintro e w2 ⟨rfl,rfl⟩
   clear HT
   go_wp2
   go_ret2
   exact ⟨_,by rw [← Hr.out]; rfl,HN.out,hF2.out⟩
end Go.Proofs.YtcpjeaaapocoeaaGreatDoor

namespace Go.Proofs.YtcpjeaaapocoeaaGreatDoor
open Go.RowKit
theorem Zbu {t:Nat} (ht:t≤63):2 ^ (64 - t) * 2 ^ t=W64:=by
 rw [← Nat.pow_add,show 64 - t + t=64 by omega,Zah]
theorem ZnU {x t:Nat} (ht:t≤63):x * 2 ^ t=x * 2 ^ t % W64 + W64 * (x / 2 ^ (64 - t)):=by
 have h:=Nat.mod_add_div (x * 2 ^ t) W64
 have:x * 2 ^ t / W64=x / 2 ^ (64 - t):=by
  rw [← Zbu ht,Nat.mul_div_mul_right _ _ (Nat.pow_pos (by omega))]
 rw [this] at h
 exact h.symm
theorem ZqS {h x t:Nat} (hh:h < 2 ^ t) (ht:t≤63):h ||| x * 2 ^ t % W64=h + x * 2 ^ t % W64:=by
 have e:x * 2 ^ t % W64=(x % 2 ^ (64 - t)) <<< t:=by
  rw [Nat.shiftLeft_eq,← Zbu ht,Nat.mul_mod_mul_right]
 rw [e,Nat.or_comm,← Nat.shiftLeft_add_eq_or_of_lt hh,Nat.add_comm]
theorem ZeA (x t:Nat):IntKind.u64.wrap ((x:Int) * 2 ^ t)=((x * 2 ^ t % W64:Nat):Int):=by
 have hpow:((2:Int) ^ t)=((2 ^ t:Nat):Int):=by rw [Int.natCast_pow]; rfl
 rw [hpow,← Int.natCast_mul,Zah]
 exact M64.wrapM _
theorem Zgl (x t:Nat):(x:Int) / 2 ^ t=((x / 2 ^ t:Nat):Int):=by
 have hpow:((2:Int) ^ t)=((2 ^ t:Nat):Int):=by rw [Int.natCast_pow]; rfl
 rw [hpow,Int.natCast_ediv]
theorem ZdQ {a b:Nat} (ha:a < W64) (hb:b < W64):bits .or .u64 (a:Int) (b:Int)=((a ||| b:Nat):Int):=by
 rw [Zah] at ha hb
 exact bits_or_u64_nat a b ha hb
def ZdR (xs:List Nat) (skip t k:Nat) (zs:List Nat):Prop :=
 zs.length=xs.length + skip + 1∧Dig W64 zs∧val W64 (zs.take (k + skip + 1))=val W64 (xs.take k) * 2 ^ (64 * skip + t)∧(zs[k + skip]?.getD 0) < 2 ^ t
theorem ZdR.start (xs:List Nat) (skip t:Nat):ZdR xs skip t 0 (List.replicate (xs.length + skip + 1) 0):=by
 refine ⟨by simp,Dig.replicate Zar _,?_,?_⟩
 ·rw [List.take_replicate,ZbV]; simp
 ·have:((List.replicate (xs.length + skip + 1) 0)[0 + skip]?.getD 0)=0:=by
   rw [List.getElem?_replicate]; split<;>rfl
  rw [this]; exact Nat.pow_pos (by omega)
theorem ZdR.step {xs zs:List Nat} {skip t k h x:Nat} (hR:ZdR xs skip t k zs) (ht:t≤63) (hk:k < xs.length) (hh:zs[k + skip]?.getD 0=h) (hx:xs[k]?.getD 0=x) (hxW:x < W64) :
 ZdR xs skip t (k + 1) ((zs.set (k + skip) (h + x * 2 ^ t % W64)).set (k + skip + 1) (x / 2 ^ (64 - t)))∧h + x * 2 ^ t % W64 < W64:=by
 obtain ⟨h1,h2,h3,h4⟩:=hR
 rw [hh] at h4
 have hlt:h + x * 2 ^ t % W64 < W64:=by
  rw [← Zbu ht,Nat.mul_mod_mul_right]
  have:x % 2 ^ (64 - t) < 2 ^ (64 - t):=Nat.mod_lt _ (Nat.pow_pos (by omega))
  have h5:(x % 2 ^ (64 - t) + 1) * 2 ^ t≤2 ^ (64 - t) * 2 ^ t:=Nat.mul_le_mul_right _ this
  rw [Nat.add_mul] at h5
  omega
 have hhi:x / 2 ^ (64 - t) < 2 ^ t:=by
  rw [Nat.div_lt_iff_lt_mul (Nat.pow_pos (by omega)),← Nat.pow_add,show t + (64 - t)=64 by omega]
  rw [Zah] at hxW; exact hxW
 have hhi2:x / 2 ^ (64 - t) < W64:=Nat.lt_of_le_of_lt (Nat.div_le_self _ _) hxW
 refine ⟨⟨by simpa using h1,(h2.set _ hlt).set _ hhi2,?_,?_⟩,hlt⟩
 ·rw [show k + 1 + skip + 1=(k + skip + 1) + 1 by omega,ZaT _ _ _ _ (by simp; omega),ZaT _ _ _ _ (by omega),Zal k hk,hx,Nat.add_mul,← h3,Zal (k + skip) (by omega),hh]
  have e:=ZnU (x:=x) ht
  have e2:W64 ^ k * x * 2 ^ (64 * skip + t)=W64 ^ (k + skip) * (x * 2 ^ t):=by
   rw [Nat.pow_add 2,← Zg1,Nat.pow_add]
   simp only [Nat.mul_assoc,Nat.mul_left_comm]
  rw [e2]
  have e3:=congrArg (W64 ^ (k + skip) * ·) e
  simp only [Nat.mul_add] at e3
  rw [Nat.mul_add,Nat.pow_succ,Nat.mul_assoc]
  omega
 ·have:((zs.set (k + skip) (h + x * 2 ^ t % W64)).set (k + skip + 1) (x / 2 ^ (64 - t)))[k + 1 + skip]?.getD 0=x / 2 ^ (64 - t):=by
   rw [show k + 1 + skip=k + skip + 1 by omega,List.getElem?_set_self (by simp; omega)]
   rfl
  rw [this]; exact hhi
theorem ZdR.done {xs zs:List Nat} {skip t:Nat} (h:ZdR xs skip t xs.length zs):val W64 zs=val W64 xs * 2 ^ (64 * skip + t):=by
 obtain ⟨h1,h2,h3,h4⟩:=h
 rw [List.take_of_length_le (by omega),List.take_of_length_le (by omega)] at h3
 exact h3
set_option maxHeartbeats 1000000 in
theorem Zi7 (A:Option Addr) (xs:List Nat) (n c s skip t:Nat) (w:World) (hn:xs.length=n) (hX:Zan .u64 w A xs) (hc:xs.length≤c) (hl:xs.length≤4294967296) (hd:Dig W64 xs) (tx:Trim xs) (hs:s=64 * skip + t) (ht:t≤63) (hk:skip≤4294967296) :
 Calls Tryz.prog 387 #[.slice A n c, .int .u64 (s:Int)] w (Zb1 w (val W64 xs * 2 ^ s)):=by
 subst hn
 have HX:=zh hX
 have Hd:=zh hd
 have Tx:=zh tx
 have HS:=zh hs
 clear hX hd tx
 by_cases h0:xs.length=0
 ·obtain rfl:xs=[]:=List.length_eq_zero_iff.1 h0
  clear hs
  go_enter Tryz.func387,Tryz.ntmps387
  go_wp2
  go_ret
  exact ⟨_,rfl,⟨A,[],c,rfl,hc,HX.out,Hd.out,Tx.out,by simp⟩,Fr.refl _ _⟩
 have h0':(((xs.length:Nat):Int) == 0)=false:=by simp; intro e; simp [e] at h0
 by_cases h1:s=0
 ·subst h1
  clear hs
  go_enter Tryz.func387,Tryz.ntmps387
  go_wp2
  go_ret
  exact ⟨_,rfl,⟨A,xs,c,rfl,hc,HX.out,Hd.out,Tx.out,by simp⟩,Fr.refl _ _⟩
 have h1':((s:Int) == 0)=false:=by simp; omega
 have p1:(s:Int) / 64=(skip:Int):=by omega
 have p2:(s:Int) % 64=(t:Int):=by omega
 clear hs h1
 go_enter Tryz.func387,Tryz.ntmps387
 go_wp2_with (at_make
              refine ZaY rfl _ _ _ rfl _ _ _ Tryz.underlying133 ZdM _ _ _ _ (xs.length + skip + 1) rfl rfl (by omega) (by omega) (by omega) (by omega) ?_
              intro b w1 hb hO1 _ hF1 hs1
              have HO1:=zh hO1
              have HF1:=zh hF1
              have Hb:=zh hb
              clear hO1 hF1 hb hs1)
 go_loopw [31] (fun i wr=>∃ (k:Nat) (zs:List Nat),k≤xs.length∧i=.int .i64 (k:Int)∧Hid (ZdR xs skip t k zs)∧Hid (Own .u64 217 wr b zs)∧Hid (Ext w wr)) (fun i _=>xs.length - (intOf i).toNat)
 case atStart=>exact ⟨0,_,by omega,rfl,ZdR.start xs skip t,HO1.out,HF1.out⟩
 case round =>
  obtain ⟨k,zs,hkk,rfl,hR,hO2,hF2⟩:=hrel
  clear p1 p2 h0' h1'
  by_cases hlt:k < xs.length
  ·obtain ⟨b2,off2,rfl,_,hcx⟩:=(HX.out.ext hF2.out).at hlt
   obtain ⟨x,ex⟩:∃ x,xs[k]?.getD 0=x:=⟨_,rfl⟩
   obtain ⟨h,eh⟩:∃ h,zs[k + skip]?.getD 0=h:=⟨_,rfl⟩
   rw [ex] at hcx
   have hxW:Hid (x < W64):=ex ▸ Hd.out.getD Zar k
   obtain ⟨hst,hdlt⟩:=hR.out.step ht hlt eh ex hxW.out
   have HR2:=zh hst
   have hzl:zs.length=xs.length + skip + 1:=hR.out.1
   have hc1:=hO2.out.cell (i:=k + skip) (by omega)
   have hf1:=hO2.out.frozen (k + skip)
   rw [eh] at hc1
   have hO3:=hO2.out.set (k + skip) (h + x * 2 ^ t % W64) (by omega)
   have hc2:=hO3.cell (i:=k + skip + 1) (by simp; omega)
   have hf2:=hO3.frozen (k + skip + 1)
   obtain ⟨g,eg⟩:∃ g,(zs.set (k + skip) (h + x * 2 ^ t % W64))[k + skip + 1]?.getD 0=g:=⟨_,rfl⟩
   rw [eg] at hc2
   have HO4:=zh (hO3.set (k + skip + 1) (x / 2 ^ (64 - t)) (by simp; omega))
   have q1:=ZeA x t
   have q2:=ZdQ (a:=h) (b:=x * 2 ^ t % W64) (eh ▸ hR.out.2.1.getD Zar _) (Nat.mod_lt _ Zar)
   rw [ZqS (eh ▸ hR.out.2.2.2) ht] at q2
   have q3:=Zgl x (64 - t)
   obtain ⟨lo,elo⟩:∃ lo,x * 2 ^ t % W64=lo:=⟨_,rfl⟩
   obtain ⟨hi,ehi⟩:∃ hi,x / 2 ^ (64 - t)=hi:=⟨_,rfl⟩
   rw [elo] at q1 q2 hc2 hf2 HR2 HO4
   rw [ehi] at q3 HR2 HO4
   obtain ⟨d,ed⟩:∃ d,h + lo=d:=⟨_,rfl⟩
   rw [ed] at q2 hc2 hf2 HR2 HO4
   clear ex eh hst hdlt hzl hO3 eg elo ehi ed
   go_wp2
   go_roundw
   case rel=>exact ⟨k + 1,_,by omega,by go_num,HR2,HO4.out,(hF2.out.setCell (p:=⟨b,k + skip,none⟩) (Or.inr (by have:=Hb.out; show w.heap.size≤b; omega)) _).setCell (p:=⟨b,k + skip + 1,none⟩) (Or.inr (by have:=Hb.out; show w.heap.size≤b; omega)) _⟩
   case measure=>simp [intOf]; omega
  ·obtain rfl:k=xs.length:=by omega
   have hz:=hR.out.1
   have HT:=zh (ZcF _ zs (xs.length + skip + 1) (xs.length + skip + 1) wr hz hO2.out.shows0 (by omega) (by omega))
   have HN:=zh (Zaq.of_own (c:=xs.length + skip + 1) hO2.out hR.out.2.1 (by omega))
   rw [hR.out.done,← HS.out] at HN
   clear hz
   go_wp2_with fail
   refine HT.out.mono ?_
   rintro e w2 ⟨rfl,rfl⟩
   clear HT
   go_wp2
   go_ret
   exact ⟨_,rfl,HN.out,hF2.out⟩
theorem Zf0 (xv:Value) (x s:Nat) (w:World) (hX:Zaq w xv x) (hx:wl x≤4294967296) (hs:s≤274877906944):Calls Tryz.prog 387 #[xv, .int .u64 (s:Int)] w (Zb1 w (x * 2 ^ s)):=by
 obtain ⟨A,xs,c,rfl,hc,h1,h2,h3,rfl⟩:=hX
 rw [← Za0 h2 h3] at hx
 exact Zi7 A xs _ c s (s / 64) (s % 64) w rfl h1 hc hx h2 h3 (by omega) (by omega) (by omega)
def ZdS (ys:List Nat) (t k:Nat) (zs:List Nat):Prop :=
 zs.length=ys.length∧Dig W64 zs∧2 ^ t * val W64 (zs.take k) + (ys[0]?.getD 0) % 2 ^ t=val W64 (ys.take k) + W64 ^ k * ((ys[k]?.getD 0) % 2 ^ t)
theorem ZdS.start (ys:List Nat) (t:Nat):ZdS ys t 0 (List.replicate ys.length 0):=by
 refine ⟨by simp,Dig.replicate Zar _,?_⟩
 simp
theorem Zqi {y t:Nat} (ht:t≤63):y * 2 ^ (64 - t) % W64=y % 2 ^ t * 2 ^ (64 - t):=by
 rw [← Zbu ht,Nat.mul_comm (2 ^ (64 - t)),Nat.mul_mod_mul_right]
theorem ZqT {x y t:Nat} (ht:t≤63) (hx:x < W64):x / 2 ^ t ||| y * 2 ^ (64 - t) % W64=x / 2 ^ t + y % 2 ^ t * 2 ^ (64 - t):=by
 have hlt:x / 2 ^ t < 2 ^ (64 - t):=by
  rw [Nat.div_lt_iff_lt_mul (Nat.pow_pos (by omega)),Zbu ht]; exact hx
 rw [Zqi ht,← Nat.shiftLeft_eq,Nat.or_comm,← Nat.shiftLeft_add_eq_or_of_lt hlt,Nat.add_comm]
theorem ZdS.step {ys zs:List Nat} {t k x y:Nat} (h:ZdS ys t k zs) (ht:t≤63) (hk:k < ys.length) (hx:ys[k]?.getD 0=x) (hy:ys[k + 1]?.getD 0=y) (hxW:x < W64) :
 ZdS ys t (k + 1) (zs.set k (x / 2 ^ t + y % 2 ^ t * 2 ^ (64 - t))):=by
 obtain ⟨h1,h2,h3⟩:=h
 have hlt:x / 2 ^ t + y % 2 ^ t * 2 ^ (64 - t) < W64:=by
  have e1:x / 2 ^ t < 2 ^ (64 - t):=by
   rw [Nat.div_lt_iff_lt_mul (Nat.pow_pos (by omega)),Zbu ht]; exact hxW
  have e2:y % 2 ^ t < 2 ^ t:=Nat.mod_lt _ (Nat.pow_pos (by omega))
  have e3:(y % 2 ^ t + 1) * 2 ^ (64 - t)≤2 ^ t * 2 ^ (64 - t):=Nat.mul_le_mul_right _ e2
  rw [Nat.mul_comm (2 ^ t),Zbu ht,Nat.add_mul] at e3
  omega
 refine ⟨by simpa using h1,h2.set k hlt,?_⟩
 rw [ZaT _ _ _ _ (by omega),Zal k hk,hx,hy]
 rw [hx] at h3
 have e1:=Nat.div_add_mod x (2 ^ t)
 have e2:2 ^ t * (y % 2 ^ t * 2 ^ (64 - t))=W64 * (y % 2 ^ t):=by
  rw [← Zbu ht]
  simp only [Nat.mul_comm,Nat.mul_left_comm]
 have e3:=congrArg (W64 ^ k * ·) e1
 simp only [Nat.mul_add] at e3
 rw [Nat.mul_add,Nat.mul_left_comm (2 ^ t),Nat.mul_add (2 ^ t),e2,Nat.mul_add,Nat.pow_succ,Nat.mul_assoc (W64 ^ k) W64]
 omega
theorem ZdS.done {ys zs:List Nat} {t:Nat} (h:ZdS ys t ys.length zs):val W64 zs=val W64 ys / 2 ^ t:=by
 obtain ⟨h1,h2,h3⟩:=h
 rw [List.take_of_length_le (by omega),List.take_of_length_le (by omega),List.getElem?_eq_none (Nat.le_refl _)] at h3
 simp only [Option.getD_none,Nat.zero_mod,Nat.mul_zero,Nat.add_zero] at h3
 rw [← h3,Nat.mul_add_div (Nat.pow_pos (by omega)),Nat.div_eq_of_lt (Nat.mod_lt _ (Nat.pow_pos (by omega))),Nat.add_zero]
theorem Zqj (xs:List Nat) (skip t:Nat) (hd:Dig W64 xs) (hs:skip≤xs.length):val W64 (xs.drop skip) / 2 ^ t=val W64 xs / 2 ^ (64 * skip + t):=by
 rw [Nat.pow_add,← Zg1,← Nat.div_div_eq_div_mul]
 congr 1
 rw [ZaJ (xs:=xs) skip,Nat.min_eq_left hs,Nat.add_comm,Nat.mul_add_div (Nat.pow_pos Zar)]
 have h:=ZaX (hd.take skip)
 rw [List.length_take,Nat.min_eq_left hs] at h
 rw [Nat.div_eq_of_lt h,Nat.add_zero]
theorem Zpj {xs:List Nat} {s:Nat} (hd:Dig W64 xs) (h:xs.length≤s / 64):val W64 xs / 2 ^ s=0:=by
 refine Nat.div_eq_of_lt (Nat.lt_of_lt_of_le (ZaX hd) ?_)
 rw [Zg1]
 exact Nat.pow_le_pow_right (by omega) (by omega)
set_option maxHeartbeats 2000000 in
theorem Zih (A:Option Addr) (xs:List Nat) (n c s skip t:Nat) (w:World) (hn:xs.length=n) (hX:Zan .u64 w A xs) (hl:xs.length≤4294967296) (hd:Dig W64 xs) (hs:s=64 * skip + t) (ht:t≤63) (hk:skip≤4294967296) :
 Calls Tryz.prog 392 #[.slice A n c, .int .u64 (s:Int)] w (Zfl w none none (val W64 xs / 2 ^ s)):=by
 subst hn
 have HX:=zh hX
 have Hd:=zh hd
 have HS:=zh hs
 have p1:(s:Int) / 64=(skip:Int):=by omega
 have p2:(s:Int) % 64=(t:Int):=by omega
 clear hX hd
 by_cases h0:xs.length≤skip
 ·have HZ:=zh (Zpj (s:=s) Hd.out (by omega))
  clear hs
  go_enter Tryz.func392,Tryz.ntmps392
  go_wp2
  go_ret
  exact ⟨none,0,0,rfl,by rw [HZ.out]; exact Zaq.zero _,Fr.refl _ _,fun a h=>by cases h⟩
 clear hs
 go_enter Tryz.func392,Tryz.ntmps392
 go_wp2_with (at_make
              refine ZaY rfl _ _ _ rfl _ _ _ Tryz.underlying133 ZdM _ _ _ _ (xs.length - skip) rfl rfl (by omega) (by omega) (by omega) (by omega) ?_
              intro b w1 hb hO1 _ hF1 hs1
              have HO1:=zh hO1
              have HF1:=zh hF1
              have Hb:=zh hb
              clear hO1 hF1 hb hs1)
 have hyl:Hid ((xs.drop skip).length=xs.length - skip):=by unfold Hid; simp
 go_loopw [27] (fun i wr=>∃ (k:Nat) (zs:List Nat),k≤xs.length - skip∧i=.int .i64 (k:Int)∧Hid (ZdS (xs.drop skip) t k zs)∧Hid (Own .u64 217 wr b zs)∧Hid (Ext w wr)) (fun i _=>xs.length - skip - (intOf i).toNat)
 case atStart=>exact ⟨0,_,by omega,rfl,ZdS.start _ t,by rw [hyl.out]; exact HO1.out,HF1.out⟩
 case round =>
  obtain ⟨k,zs,hkk,rfl,hR,hO2,hF2⟩:=hrel
  clear p1 p2
  by_cases hlt:k < xs.length - skip
  ·obtain ⟨b2,off2,rfl,_,hcx⟩:=(HX.out.ext hF2.out).at (i:=k + skip) (by omega)
   obtain ⟨x,ex⟩:∃ x,xs[k + skip]?.getD 0=x:=⟨_,rfl⟩
   rw [ex] at hcx
   have hxW:Hid (x < W64):=ex ▸ Hd.out.getD Zar _
   have ex':(xs.drop skip)[k]?.getD 0=x:=by rw [List.getElem?_drop,Nat.add_comm]; exact ex
   have hzl:zs.length=xs.length - skip:=by rw [← hyl.out]; exact hR.out.1
   have hkz:k < zs.length:=by omega
   have hc1:=hO2.out.cell hkz
   have hf1:=hO2.out.frozen k
   obtain ⟨z0,ez0⟩:∃ z0,zs[k]?.getD 0=z0:=⟨_,rfl⟩
   rw [ez0] at hc1
   have q3:=Zgl x t
   by_cases hlast:k + skip + 1 < xs.length
   ·obtain ⟨b3,off3,e3,_,hcy⟩:=(HX.out.ext hF2.out).at (i:=k + skip + 1) hlast
    injection e3 with e3
    injection e3 with e31 e32
    subst e31 e32
    obtain ⟨y,ey⟩:∃ y,xs[k + skip + 1]?.getD 0=y:=⟨_,rfl⟩
    rw [ey] at hcy
    have ey':(xs.drop skip)[k + 1]?.getD 0=y:=by rw [List.getElem?_drop,show skip + (k + 1)=k + skip + 1 by omega]; exact ey
    have HR2:=zh (hR.out.step ht (by rw [hyl.out]; exact hlt) ex' ey' hxW.out)
    have q1:=ZeA y (64 - t)
    have q2:=ZdQ (a:=x / 2 ^ t) (b:=y * 2 ^ (64 - t) % W64) (Nat.lt_of_le_of_lt (Nat.div_le_self _ _) hxW.out) (Nat.mod_lt _ Zar)
    rw [ZqT ht hxW.out] at q2
    obtain ⟨lo,elo⟩:∃ lo,x / 2 ^ t=lo:=⟨_,rfl⟩
    obtain ⟨hi,ehi⟩:∃ hi,y * 2 ^ (64 - t) % W64=hi:=⟨_,rfl⟩
    obtain ⟨d,ed⟩:∃ d,x / 2 ^ t + y % 2 ^ t * 2 ^ (64 - t)=d:=⟨_,rfl⟩
    rw [ed] at q2 HR2
    rw [elo] at q2 q3
    rw [ehi] at q1 q2
    have hO3:=hO2.out.set k lo hkz
    have hf3:=hO3.frozen k
    have hc3:=hO3.cell (i:=k) (by simpa using hkz)
    have e4:(zs.set k lo)[k]?.getD 0=lo:=by rw [List.getElem?_set_self hkz]; rfl
    rw [e4] at hc3
    have HO4:=zh (hO3.set k d (by simpa using hkz))
    have hcy':(wr.setCell ⟨b,k,none⟩ (.int .u64 (lo:Int))).cell? ⟨b2,off2 + (k + skip + 1),none⟩=some (.int .u64 (y:Int)):=by
     rw [World.cell?_setCell_other _ _ _ _ (by intro e; injection e with e; have:=Hb.out; obtain ⟨b',o',e',hb',_⟩:=HX.out (by intro e0; rw [e0] at hlt; simp at hlt); injection e' with e'; injection e' with e'; omega)]
     exact hcy
    clear ex ex' ey ey' ez0 elo ehi ed hzl hO3 e4
    have HF3:=zh (hF2.out.setCell (p:=⟨b,k,none⟩) (Or.inr (by have:=Hb.out; show w.heap.size≤b; omega)) (.int .u64 (lo:Int)))
    go_wp2
    clear hcy hcx
    generalize hwq:wr.setCell ⟨b,k,none⟩ (.int .u64 (lo:Int))=wq at *
    clear hwq hc1 hf1
    go_region
    all_goals
     go_wp2
     go_roundw
     case rel=>exact ⟨k + 1,_,by omega,by go_num,HR2,by have:=HO4.out; rw [List.set_set] at this; exact this.drewN _,(HF3.out.setCell (p:=⟨b,k,none⟩) (Or.inr (by have:=Hb.out; show w.heap.size≤b; omega)) _).drewN _⟩
     case measure=>simp [intOf]; omega
   ·have ey':(xs.drop skip)[k + 1]?.getD 0=0:=by rw [List.getElem?_drop,List.getElem?_eq_none (by omega)]; rfl
    have HR2:=zh (hR.out.step ht (by rw [hyl.out]; exact hlt) ex' ey' hxW.out)
    rw [Nat.zero_mod,Nat.zero_mul,Nat.add_zero] at HR2
    obtain ⟨lo,elo⟩:∃ lo,x / 2 ^ t=lo:=⟨_,rfl⟩
    rw [elo] at q3 HR2
    have HO3:=zh (hO2.out.set k lo hkz)
    clear ex ex' ey' ez0 elo hzl
    go_wp2
    go_roundw
    case rel=>exact ⟨k + 1,_,by omega,by go_num,HR2,HO3.out,hF2.out.setCell (p:=⟨b,k,none⟩) (Or.inr (by have:=Hb.out; show w.heap.size≤b; omega)) _⟩
    case measure=>simp [intOf]; omega
  ·obtain rfl:k=xs.length - skip:=by omega
   have hz:zs.length=xs.length - skip:=by rw [← hyl.out]; exact hR.out.1
   have HT:=zh (ZcF _ zs (xs.length - skip) (xs.length - skip) wr hz hO2.out.shows0 (by omega) (by omega))
   have HN:=zh (Zaq.of_own (c:=xs.length - skip) hO2.out hR.out.2.1 (by omega))
   have hRd:=hR.out
   rw [← hyl.out] at hRd
   rw [hRd.done,Zqj xs skip t Hd.out (by omega),← HS.out] at HN
   clear hz hRd
   go_wp2_with fail
   refine HT.out.mono ?_
   rintro e w2 ⟨rfl,rfl⟩
   clear HT
   go_wp2
   go_ret
   exact ⟨_,_,_,rfl,HN.out,hF2.out,fun a h=>Or.inl (by injection h with h; subst h; have:=Hb.out; show w.heap.size≤b; omega)⟩
theorem Zii (xv:Value) (x s:Nat) (w:World) (hX:Zaq w xv x) (hx:wl x≤4294967296) (hs:s≤274877906944):Calls Tryz.prog 392 #[xv, .int .u64 (s:Int)] w (Zfl w none none (x / 2 ^ s)):=by
 obtain ⟨A,xs,c,rfl,hc,h1,h2,h3,rfl⟩:=hX
 rw [← Za0 h2 h3] at hx
 exact Zih A xs _ c s (s / 64) (s % 64) w rfl h1 hx h2 (by omega) (by omega) (by omega)
end Go.Proofs.YtcpjeaaapocoeaaGreatDoor

namespace Go.Proofs.YtcpjeaaapocoeaaGreatDoor
open Go.RowKit
noncomputable def W32:Nat:=Classical.choose (p:=fun n:Nat=>n=4294967296) ⟨_,rfl⟩
theorem Zap:W32=4294967296:=Classical.choose_spec (p:=fun n:Nat=>n=4294967296) ⟨_,rfl⟩
theorem Zao:0 < W32:=by have:=Zap; omega
theorem Zja:1 < W32:=by have:=Zap; omega
theorem ZeE:W32 * W32=W64:=by rw [Zap,Zah]
theorem Zef:(Tryz.prog.info? 329).map (fun i=>(i.zero,i.size,i.bytes))=some (some (.int .u32 0),1,4):=by kernel_rfl
set_option maxHeartbeats 400000 in
theorem Zby (A:Option Addr) (xs:List Nat) (n c:Nat) (w:World) (hn:xs.length=n) (h:Zan .u32 w A xs) (hc:xs.length≤c) (hm:xs.length≤70368744177664) :
 Calls Tryz.prog 276 #[.slice A n c] w fun e w'=>e=.returned (.slice A (Zba xs xs.length) c)∧w=w':=by
 subst hn
 have H:=zh h
 clear h
 go_enter Tryz.func276,Tryz.ntmps276
 go_wp2
 go_loop [0] (fun v=>∃ k:Nat,k≤xs.length∧v=.slice A k c∧Hid (Zba xs xs.length=Zba xs k)) (fun v=>match v with | .slice _ k _=>k | _=>0)
 case atStart=>exact ⟨xs.length,Nat.le_refl _,rfl,rfl⟩
 case round =>
  obtain ⟨k,hk,rfl,hr⟩:=hrel
  by_cases hlt:0 < k
  ·obtain ⟨b,off,rfl,hb,hcl⟩:=H.out.at (i:=k - 1) (by omega)
   obtain ⟨x,hx⟩:∃ x,xs[k - 1]?.getD 0=x:=⟨_,rfl⟩
   rw [hx] at hcl
   have HX:=zh hx
   clear hx
   by_cases h0:x=0
   ·subst h0
    go_wp2
    go_round
    case rel =>
     refine ⟨k - 1,by omega,by go_num,?_⟩
     have e:=hr.out
     obtain ⟨m,rfl⟩:∃ m,k=m + 1:=⟨k - 1,by omega⟩
     rw [Zba,if_pos (by simpa using HX.out)] at e
     exact e
    case measure=>simp; omega
   ·have hb0:(((x:Nat):Int) == 0)=false:=by simpa using h0
    go_wp2
    go_ret
    refine ⟨?_,rfl⟩
    have e:=hr.out
    obtain ⟨m,rfl⟩:∃ m,k=m + 1:=⟨k - 1,by omega⟩
    have HX':=HX.out
    simp only [Nat.add_sub_cancel] at HX'
    rw [Zba,if_neg (by rw [HX']; exact h0)] at e
    rw [e]; rfl
  ·obtain rfl:k=0:=by omega
   go_wp2
   go_ret
   exact ⟨by rw [hr.out]; rfl,rfl⟩
def ml (n:Nat):Nat:=if n=0 then 0 else n.log2 / 32 + 1
theorem Zg7 (k:Nat):W32 ^ k=2 ^ (32 * k):=by rw [Nat.pow_mul,Zap]
theorem Zc9 {n k:Nat}:ml n≤k ↔ n < W32 ^ k:=by
 unfold ml
 rw [Zg7]
 split
 ·rename_i h; subst h; simp [Nat.pow_pos]
 ·rename_i h
  rw [← Nat.log2_lt h]; omega
theorem Zp6 (n:Nat):n < W32 ^ ml n:=Zc9.1 (Nat.le_refl _)
theorem Zjb:ml 0=0:=rfl
theorem Zfr {a b:Nat} (h:a≤b):ml a≤ml b:=Zc9.2 (Nat.lt_of_le_of_lt h (Zp6 b))
theorem ZbI {xs:List Nat} (hd:Dig W32 xs) (ht:Trim xs):xs.length=ml (val W32 xs):=by
 have h1:=Zb7 (n:=ml (val W32 xs)) Zja ht (Zp6 _)
 have h2:ml (val W32 xs)≤xs.length:=Zc9.2 (ZaX hd)
 omega
theorem Zix {n:Nat} (h:0 < n):0 < ml n:=by
 unfold ml; rw [if_neg (by omega)]; omega
def Zam (w:World) (v:Value) (n:Nat):Prop :=
 ∃ (A:Option Addr) (xs:List Nat) (c:Nat),v=.slice A xs.length c∧xs.length≤c∧Zan .u32 w A xs∧Dig W32 xs∧Trim xs∧val W32 xs=n
theorem Zam.ext {w w':World} {v:Value} {n:Nat} (h:Zam w v n) (hf:Ext w w'):Zam w' v n:=by
 obtain ⟨A,xs,c,h1,h2,h4,h5⟩:=h
 exact ⟨A,xs,c,h1,h2,h4.ext hf,h5⟩
theorem Zam.zero (w:World):Zam w (.slice none 0 0) 0:=⟨none,[],0,rfl,by simp,Zan.nil,Dig.nil,Trim.nil,rfl⟩
def Zfs (w:World) (n:Nat) (e:Ending) (w':World):Prop:=∃ v,e=.returned v∧Zam w' v n∧Ext w w'
theorem Zam.of_own {w:World} {b:Nat} {xs:List Nat} (h:Own .u32 329 w b xs) (hd:Dig W32 xs) {c:Nat} (hc:xs.length≤c):Zam w (.slice (some ⟨b,0,none⟩) (Zba xs xs.length) c) (val W32 xs):=by
 refine ⟨_,ZaS xs,c,by rw [Za1],by rw [Za1]; exact Nat.le_trans (ZcE _ _) hc,h.shows0.take _,Zcr hd,Zcy xs,Za5 _ _⟩
theorem Zcp (s:Nat):(s:Int) % 4294967296=((s % W32:Nat):Int):=by rw [Zap]; omega
theorem hi32 (s:Nat):(s:Int) / 4294967296=((s / W32:Nat):Int):=by rw [Zap]; omega
theorem addW {a b:Nat} (h:a + b < W64):IntKind.u64.wrap ((a:Int) + (b:Int))=((a + b:Nat):Int):=by rw [← Int.natCast_add]; exact ZaQ _ h
def ZbT (xs ys:List Nat) (k:Nat) (m:List Nat) (c:Nat):Prop :=
 m.length=xs.length + 1∧Dig W32 m∧c≤1∧val W32 (m.take k) + W32 ^ k * c=val W32 (xs.take k) + val W32 (ys.take k)
theorem ZbT.start (xs ys:List Nat):ZbT xs ys 0 (List.replicate (xs.length + 1) 0) 0:=⟨by simp,Dig.replicate Zao _,by omega,by simp⟩
theorem ZeF {x y c:Nat} (hx:x < W32) (hy:y < W32) (hc:c≤1):(c + x + y) / W32≤1:=by
 rw [Zap] at *; omega
theorem ZbT.step {xs ys m:List Nat} {k c x y:Nat} (h:ZbT xs ys k m c) (hk:k < xs.length) (hx:xs[k]?.getD 0=x) (hy:ys[k]?.getD 0=y) (hyl:k < ys.length) (dx:Dig W32 xs) (dy:Dig W32 ys) :
 ZbT xs ys (k + 1) (m.set k ((c + x + y) % W32)) ((c + x + y) / W32):=by
 obtain ⟨h1,h2,h3,h4⟩:=h
 refine ⟨by simpa using h1,h2.set k (Nat.mod_lt _ Zao),ZeF (hx ▸ dx.getD Zao k) (hy ▸ dy.getD Zao k) h3,?_⟩
 rw [ZaT _ _ _ _ (by omega),Zal k hk,Zal k hyl,hx,hy,Nat.pow_succ]
 exact Zfx _ _ _ _ _ _ _ _ _ _ h4 (by have:=Nat.mod_add_div (c + x + y) W32; omega)
theorem ZbT.step0 {xs ys m:List Nat} {k c x:Nat} (h:ZbT xs ys k m c) (hk:k < xs.length) (hx:xs[k]?.getD 0=x) (hyl:ys.length≤k) (dx:Dig W32 xs) :
 ZbT xs ys (k + 1) (m.set k ((c + x) % W32)) ((c + x) / W32):=by
 obtain ⟨h1,h2,h3,h4⟩:=h
 refine ⟨by simpa using h1,h2.set k (Nat.mod_lt _ Zao),by simpa using ZeF (y:=0) (hx ▸ dx.getD Zao k) Zao h3,?_⟩
 rw [ZaT _ _ _ _ (by omega),Zal k hk,hx,Nat.pow_succ,List.take_of_length_le (l:=ys) (by omega)]
 rw [List.take_of_length_le (l:=ys) (by omega)] at h4
 have:=Zfx _ _ _ _ _ _ 0 _ _ _ h4 (by have:=Nat.mod_add_div (c + x) W32; omega:(c + x) % W32 + W32 * ((c + x) / W32)=x + 0 + c)
 simpa using this
theorem ZbT.last {xs ys m:List Nat} {c:Nat} (h:ZbT xs ys xs.length m c) (hl:ys.length≤xs.length):(m.set xs.length c).length=xs.length + 1∧Dig W32 (m.set xs.length c)∧val W32 (m.set xs.length c)=val W32 xs + val W32 ys:=by
 obtain ⟨h1,h2,h3,h4⟩:=h
 refine ⟨by simpa using h1,h2.set _ (by have:=Zap; omega),?_⟩
 have e:m.set xs.length c=(m.set xs.length c).take (xs.length + 1):=by rw [List.take_of_length_le (by simp; omega)]
 rw [e,ZaT _ _ _ _ (by omega),h4,List.take_of_length_le (Nat.le_refl _),List.take_of_length_le hl]
set_option maxHeartbeats 1000000 in
theorem ZlP (A A2:Option Addr) (xs ys:List Nat) (c c2:Nat) (w:World) (hX:Zan .u32 w A xs) (hY:Zan .u32 w A2 ys) (hl:xs.length≤35184372088832) (hxy:ys.length≤xs.length)
 (hx:Dig W32 xs) (hy:Dig W32 ys) :
 Calls Tryz.prog 327 #[.slice A xs.length c, .slice A2 ys.length c2] w (Zfs w (val W32 xs + val W32 ys)):=by
 have HX:=zh hX
 have HY:=zh hY
 have Hx:=zh hx
 have Hy:=zh hy
 clear hX hY hx hy
 go_enter Tryz.func327,Tryz.ntmps327
 go_wp2_with (
  at_make
  refine ZaY rfl _ _ _ rfl _ _ _ Tryz.underlying153 Zef _ _ _ _ (xs.length + 1) rfl rfl (by omega) (by omega) (by omega) (by omega) ?_
  intro b w1 hb hO1 hC1 hF1 hs1
  have HO1:=zh hO1
  have HF1:=zh hF1
  have Hb:=zh hb
  clear hO1 hF1 hb hs1 hC1)
 go_loopw [6,7] (fun cv i wr=>∃ (k cc:Nat) (m:List Nat),k≤xs.length∧i=.int .i64 k∧cv=.int .u64 cc∧Hid (ZbT xs ys k m cc)∧Hid (Own .u32 329 wr b m)∧Hid (Ext w wr)) (fun _ i _=>xs.length - (intOf i).toNat)
 case atStart=>exact ⟨0,0,_,by omega,rfl,rfl,ZbT.start _ _,HO1,HF1⟩
 case round =>
  obtain ⟨k,cc,m,hk,rfl,rfl,hR,hO2,hF2⟩:=hrel
  have hml:=hR.out.1
  by_cases hlt:k < xs.length
  ·obtain ⟨b2,off2,rfl,_,hcx⟩:=(HX.out.ext hF2.out).at hlt
   obtain ⟨x,ex⟩:∃ x,xs[k]?.getD 0=x:=⟨_,rfl⟩
   rw [ex] at hcx
   have hx32:=ex ▸ Hx.out.getD Zao k
   have hc1:=hR.out.2.2.1
   have hcz:=hO2.out.cell (i:=k) (by omega)
   have hfz:=hO2.out.frozen k
   obtain ⟨z,ez⟩:∃ z,m[k]?.getD 0=z:=⟨_,rfl⟩
   rw [ez] at hcz
   have hcx32:cc + x < W64:=by have:=Zap; have:=Zah; omega
   have q0:=ZaQ x (by have:=Zah; have:=Zap; omega)
   have q1:=addW (a:=cc) (b:=x) hcx32
   obtain ⟨s1,es1⟩:∃ s1,cc + x=s1:=⟨_,rfl⟩
   rw [es1] at q1
   by_cases hy2:k < ys.length
   ·obtain ⟨b3,off3,rfl,_,hcy⟩:=(HY.out.ext hF2.out).at hy2
    obtain ⟨y,ey⟩:∃ y,ys[k]?.getD 0=y:=⟨_,rfl⟩
    rw [ey] at hcy
    have hy32:=ey ▸ Hy.out.getD Zao k
    have HR2:=zh (hR.out.step hlt ex ey hy2 Hx.out Hy.out)
    rw [es1] at HR2
    have q0':=ZaQ y (by have:=Zah; have:=Zap; omega)
    have q2:=addW (a:=s1) (b:=y) (by have:=Zap; have:=Zah; omega)
    obtain ⟨s2,es2⟩:∃ s2,s1 + y=s2:=⟨_,rfl⟩
    rw [es2] at q2 HR2
    have HO3:=zh (hO2.out.set k (s2 % W32) (by omega))
    have q3:=Zcp s2
    have q4:=hi32 s2
    obtain ⟨lo,elo⟩:∃ lo,s2 % W32=lo:=⟨_,rfl⟩
    obtain ⟨hi,ehi⟩:∃ hi,s2 / W32=hi:=⟨_,rfl⟩
    rw [elo] at q3 HR2 HO3
    rw [ehi] at q4 HR2
    clear ex ey ez elo ehi es1 es2 hx32 hy32 hc1 hcx32
    go_wp2
    go_roundw
    case rel=>exact ⟨k + 1,_,_,by omega,by go_num,rfl,HR2,HO3.out,hF2.out.setCell (p:=⟨b,k,none⟩) (Or.inr (by have:=Hb.out; show w.heap.size≤b; omega)) _⟩
    case measure=>simp [intOf]; omega
   ·have HR2:=zh (hR.out.step0 hlt ex (by omega) Hx.out)
    rw [es1] at HR2
    have HO3:=zh (hO2.out.set k (s1 % W32) (by omega))
    have q3:=Zcp s1
    have q4:=hi32 s1
    obtain ⟨lo,elo⟩:∃ lo,s1 % W32=lo:=⟨_,rfl⟩
    obtain ⟨hi,ehi⟩:∃ hi,s1 / W32=hi:=⟨_,rfl⟩
    rw [elo] at q3 HR2 HO3
    rw [ehi] at q4 HR2
    clear ex ez elo ehi es1 hx32 hc1 hcx32
    go_wp2
    go_roundw
    case rel=>exact ⟨k + 1,_,_,by omega,by go_num,rfl,HR2,HO3.out,hF2.out.setCell (p:=⟨b,k,none⟩) (Or.inr (by have:=Hb.out; show w.heap.size≤b; omega)) _⟩
    case measure=>simp [intOf]; omega
  ·obtain rfl:k=xs.length:=by omega
   obtain ⟨l1,l2,l3⟩:=hR.out.last hxy
   have hcz:=hO2.out.cell (i:=xs.length) (by omega)
   have hfz:=hO2.out.frozen xs.length
   obtain ⟨z,ez⟩:∃ z,m[xs.length]?.getD 0=z:=⟨_,rfl⟩
   rw [ez] at hcz
   have hc1:=hR.out.2.2.1
   have hc32:(cc:Int) % 4294967296=(cc:Int):=by omega
   have HO3:=hO2.out.set xs.length cc (by omega)
   obtain ⟨m',em⟩:∃ m',m.set xs.length cc=m':=⟨_,rfl⟩
   rw [em] at l1 l2 l3 HO3
   have HT:=zh (Zby _ _ (xs.length + 1) (xs.length + 1) _ l1 HO3.shows0 (by omega) (by omega))
   have HN:=zh (Zam.of_own (c:=xs.length + 1) HO3 l2 (by omega))
   rw [l3] at HN
   clear ez l1 l2 l3 HO3 hc1 hml em
   go_wp2_with fail
   refine HT.out.mono ?_
   rintro e w2 ⟨rfl,rfl⟩
   clear HT
   go_wp2
   go_ret
   exact ⟨_,rfl,HN.out,hF2.out.setCell (p:=⟨b,xs.length,none⟩) (Or.inr (by have:=Hb.out; show w.heap.size≤b; omega)) _⟩
set_option maxHeartbeats 1000000 in
theorem ZlQ (A A2:Option Addr) (xs ys:List Nat) (c c2:Nat) (w:World) (hX:Zan .u32 w A xs) (hY:Zan .u32 w A2 ys) (hl:xs.length≤35184372088832) (hlt:ys.length < xs.length)
 (hx:Dig W32 xs) (hy:Dig W32 ys) :
 Calls Tryz.prog 327 #[.slice A2 ys.length c2, .slice A xs.length c] w (Zfs w (val W32 xs + val W32 ys)):=by
 have hxy:ys.length≤xs.length:=by omega
 have HX:=zh hX
 have HY:=zh hY
 have Hx:=zh hx
 have Hy:=zh hy
 clear hX hY hx hy
 go_enter Tryz.func327,Tryz.ntmps327
 go_wp2_with (
  at_make
  refine ZaY rfl _ _ _ rfl _ _ _ Tryz.underlying153 Zef _ _ _ _ (xs.length + 1) rfl rfl (by omega) (by omega) (by omega) (by omega) ?_
  intro b w1 hb hO1 hC1 hF1 hs1
  have HO1:=zh hO1
  have HF1:=zh hF1
  have Hb:=zh hb
  clear hO1 hF1 hb hs1 hC1)
 go_loopw [6,7] (fun cv i wr=>∃ (k cc:Nat) (m:List Nat),k≤xs.length∧i=.int .i64 k∧cv=.int .u64 cc∧Hid (ZbT xs ys k m cc)∧Hid (Own .u32 329 wr b m)∧Hid (Ext w wr)) (fun _ i _=>xs.length - (intOf i).toNat)
 case atStart=>exact ⟨0,0,_,by omega,rfl,rfl,ZbT.start _ _,HO1,HF1⟩
 case round =>
  obtain ⟨k,cc,m,hk,rfl,rfl,hR,hO2,hF2⟩:=hrel
  have hml:=hR.out.1
  by_cases hlt:k < xs.length
  ·obtain ⟨b2,off2,rfl,_,hcx⟩:=(HX.out.ext hF2.out).at hlt
   obtain ⟨x,ex⟩:∃ x,xs[k]?.getD 0=x:=⟨_,rfl⟩
   rw [ex] at hcx
   have hx32:=ex ▸ Hx.out.getD Zao k
   have hc1:=hR.out.2.2.1
   have hcz:=hO2.out.cell (i:=k) (by omega)
   have hfz:=hO2.out.frozen k
   obtain ⟨z,ez⟩:∃ z,m[k]?.getD 0=z:=⟨_,rfl⟩
   rw [ez] at hcz
   have hcx32:cc + x < W64:=by have:=Zap; have:=Zah; omega
   have q0:=ZaQ x (by have:=Zah; have:=Zap; omega)
   have q1:=addW (a:=cc) (b:=x) hcx32
   obtain ⟨s1,es1⟩:∃ s1,cc + x=s1:=⟨_,rfl⟩
   rw [es1] at q1
   by_cases hy2:k < ys.length
   ·obtain ⟨b3,off3,rfl,_,hcy⟩:=(HY.out.ext hF2.out).at hy2
    obtain ⟨y,ey⟩:∃ y,ys[k]?.getD 0=y:=⟨_,rfl⟩
    rw [ey] at hcy
    have hy32:=ey ▸ Hy.out.getD Zao k
    have HR2:=zh (hR.out.step hlt ex ey hy2 Hx.out Hy.out)
    rw [es1] at HR2
    have q0':=ZaQ y (by have:=Zah; have:=Zap; omega)
    have q2:=addW (a:=s1) (b:=y) (by have:=Zap; have:=Zah; omega)
    obtain ⟨s2,es2⟩:∃ s2,s1 + y=s2:=⟨_,rfl⟩
    rw [es2] at q2 HR2
    have HO3:=zh (hO2.out.set k (s2 % W32) (by omega))
    have q3:=Zcp s2
    have q4:=hi32 s2
    obtain ⟨lo,elo⟩:∃ lo,s2 % W32=lo:=⟨_,rfl⟩
    obtain ⟨hi,ehi⟩:∃ hi,s2 / W32=hi:=⟨_,rfl⟩
    rw [elo] at q3 HR2 HO3
    rw [ehi] at q4 HR2
    clear ex ey ez elo ehi es1 es2 hx32 hy32 hc1 hcx32
    go_wp2
    go_roundw
    case rel=>exact ⟨k + 1,_,_,by omega,by go_num,rfl,HR2,HO3.out,hF2.out.setCell (p:=⟨b,k,none⟩) (Or.inr (by have:=Hb.out; show w.heap.size≤b; omega)) _⟩
    case measure=>simp [intOf]; omega
   ·have HR2:=zh (hR.out.step0 hlt ex (by omega) Hx.out)
    rw [es1] at HR2
    have HO3:=zh (hO2.out.set k (s1 % W32) (by omega))
    have q3:=Zcp s1
    have q4:=hi32 s1
    obtain ⟨lo,elo⟩:∃ lo,s1 % W32=lo:=⟨_,rfl⟩
    obtain ⟨hi,ehi⟩:∃ hi,s1 / W32=hi:=⟨_,rfl⟩
    rw [elo] at q3 HR2 HO3
    rw [ehi] at q4 HR2
    clear ex ez elo ehi es1 hx32 hc1 hcx32
    go_wp2
    go_roundw
    case rel=>exact ⟨k + 1,_,_,by omega,by go_num,rfl,HR2,HO3.out,hF2.out.setCell (p:=⟨b,k,none⟩) (Or.inr (by have:=Hb.out; show w.heap.size≤b; omega)) _⟩
    case measure=>simp [intOf]; omega
  ·obtain rfl:k=xs.length:=by omega
   obtain ⟨l1,l2,l3⟩:=hR.out.last hxy
   have hcz:=hO2.out.cell (i:=xs.length) (by omega)
   have hfz:=hO2.out.frozen xs.length
   obtain ⟨z,ez⟩:∃ z,m[xs.length]?.getD 0=z:=⟨_,rfl⟩
   rw [ez] at hcz
   have hc1:=hR.out.2.2.1
   have hc32:(cc:Int) % 4294967296=(cc:Int):=by omega
   have HO3:=hO2.out.set xs.length cc (by omega)
   obtain ⟨m',em⟩:∃ m',m.set xs.length cc=m':=⟨_,rfl⟩
   rw [em] at l1 l2 l3 HO3
   have HT:=zh (Zby _ _ (xs.length + 1) (xs.length + 1) _ l1 HO3.shows0 (by omega) (by omega))
   have HN:=zh (Zam.of_own (c:=xs.length + 1) HO3 l2 (by omega))
   rw [l3] at HN
   clear ez l1 l2 l3 HO3 hc1 hml em
   go_wp2_with fail
   refine HT.out.mono ?_
   rintro e w2 ⟨rfl,rfl⟩
   clear HT
   go_wp2
   go_ret
   exact ⟨_,rfl,HN.out,hF2.out.setCell (p:=⟨b,xs.length,none⟩) (Or.inr (by have:=Hb.out; show w.heap.size≤b; omega)) _⟩
theorem Ziy (v v2:Value) (x y:Nat) (w:World) (hx:Zam w v x) (hy:Zam w v2 y) (hlx:ml x≤17592186044416) (hly:ml y≤17592186044416) :
 Calls Tryz.prog 327 #[v,v2] w (Zfs w (x + y)):=by
 obtain ⟨A,xs,c,rfl,hc,hX,dx,tx,rfl⟩:=hx
 obtain ⟨A2,ys,c2,rfl,hc2,hY,dy,ty,rfl⟩:=hy
 rw [← ZbI dx tx] at hlx
 rw [← ZbI dy ty] at hly
 by_cases h:ys.length≤xs.length
 ·exact ZlP A A2 xs ys c c2 w hX hY (by omega) h dx dy
 ·rw [Nat.add_comm]
  exact ZlQ A2 A ys xs c2 c w hY hX (by omega) (by omega) dy dx
end Go.Proofs.YtcpjeaaapocoeaaGreatDoor

namespace Go.Proofs.YtcpjeaaapocoeaaGreatDoor
open Go.RowKit
def ZeG (xs ys:List Nat) (i:Nat) (zs:List Nat):Prop :=
 zs.length=xs.length + ys.length∧Dig W32 zs∧(∀ j,i + ys.length≤j→zs[j]?.getD 0=0)∧val W32 zs=val W32 (xs.take i) * val W32 ys
theorem ZeG.start (xs ys:List Nat):ZeG xs ys 0 (List.replicate (xs.length + ys.length) 0):=by
 refine ⟨by simp,Dig.replicate Zao _,?_,by simp [ZbV]⟩
 intro j _
 rw [List.getElem?_replicate]; split<;>rfl
def Zd6 (zs:List Nat) (i x:Nat) (ys:List Nat) (k:Nat) (ms:List Nat) (c:Nat):Prop :=
 ms.length=zs.length∧Dig W32 ms∧c < W32∧ms.drop (i + k)=zs.drop (i + k)∧val W32 (ms.take (i + k)) + W32 ^ (i + k) * c=val W32 (zs.take (i + k)) + W32 ^ i * (x * val W32 (ys.take k))
theorem Zd6.start {zs ys:List Nat} {i x:Nat} (hd:Dig W32 zs):Zd6 zs i x ys 0 zs 0:=⟨rfl,hd,Zao,rfl,by simp⟩
theorem Zd6.at {zs ys ms:List Nat} {i x k c:Nat} (h:Zd6 zs i x ys k ms c):ms[i + k]?.getD 0=zs[i + k]?.getD 0:=by
 have:=congrArg (fun l=>l[0]?.getD 0) h.2.2.2.1
 simpa [List.getElem?_drop] using this
theorem sq32 {a b z c:Nat} (ha:a < W32) (hb:b < W32) (hz:z < W32) (hc:c < W32):c + (a * b + z) < W32 * W32:=by
 have h1:a * b≤(W32 - 1) * (W32 - 1):=Nat.mul_le_mul (by omega) (by omega)
 rw [Zap] at *
 omega
theorem Zpo (Bi Bk B V Z Y x y z c d c':Nat) (h1:V + Bi * Bk * c=Z + Bi * (x * Y)) (h2:d + B * c'=c + (x * y + z)):V + Bi * Bk * d + Bi * Bk * B * c'=Z + Bi * Bk * z + Bi * (x * (Y + Bk * y)):=by
 have h3:=congrArg (Bi * Bk * ·) h2
 simp only [Nat.mul_add] at h3 ⊢
 have e1:Bi * Bk * (B * c')=Bi * Bk * B * c':=by rw [Nat.mul_assoc (Bi * Bk)]
 have e2:Bi * (x * (Bk * y))=Bi * Bk * (x * y):=by rw [Nat.mul_left_comm x,Nat.mul_assoc]
 omega
theorem Zd6.step {zs ys ms:List Nat} {i x k c y z:Nat} (h:Zd6 zs i x ys k ms c) (hk:i + k < zs.length) (hx:x < W32) (hy:ys[k]?.getD 0=y) (hyl:k < ys.length) (dy:Dig W32 ys) (hz:ms[i + k]?.getD 0=z) :
 Zd6 zs i x ys (k + 1) (ms.set (i + k) ((c + (x * y + z)) % W32)) ((c + (x * y + z)) / W32):=by
 have e1:zs[i + k]?.getD 0=z:=h.at.symm.trans hz
 obtain ⟨h1,h2,h3,h4,h5⟩:=h
 have hb:=sq32 hx (hy ▸ dy.getD Zao k) (hz ▸ h2.getD Zao (i + k)) h3
 refine ⟨by simpa using h1,h2.set _ (Nat.mod_lt _ Zao),Nat.div_lt_of_lt_mul hb,?_,?_⟩
 ·rw [List.drop_set_of_lt (by omega),← Nat.add_assoc,← List.drop_drop (i:=1) (j:=i + k) (l:=ms),← List.drop_drop (i:=1) (j:=i + k) (l:=zs),h4]
 ·rw [← Nat.add_assoc,ZaT _ _ _ _ (by omega),Zal (i + k) hk,Zal k hyl,e1,hy,Nat.pow_succ,Nat.pow_add]
  rw [Nat.pow_add] at h5
  exact Zpo _ _ _ _ _ _ _ _ _ _ _ _ h5 (by have:=Nat.mod_add_div (c + (x * y + z)) W32; omega)
theorem Zf2 {B:Nat} {zs:List Nat} {n:Nat} (h:∀ j,n≤j→zs[j]?.getD 0=0):val B zs=val B (zs.take n):=by
 rw [ZaJ (xs:=zs) n]
 have:val B (zs.drop n)=0:=by
  have e:zs.drop n=List.replicate (zs.drop n).length 0:=by
   apply List.ext_getElem (by simp)
   intro i h1 h2
   have:=h (n + i) (by omega)
   rw [List.length_drop] at h1
   rw [List.getElem?_eq_getElem (by omega)] at this
   simpa using this
  rw [e,ZbV]
 rw [this]; simp
theorem ZeG.next {xs ys zs ms:List Nat} {i x c:Nat} (h:ZeG xs ys i zs) (k:Zd6 zs i x ys ys.length ms c) (hi:i < xs.length) (hx:xs[i]?.getD 0=x):ZeG xs ys (i + 1) (ms.set (i + ys.length) c):=by
 obtain ⟨h1,h2,h3,h4⟩:=h
 obtain ⟨k1,k2,k3,k4,k5⟩:=k
 have hz:∀ j,i + 1 + ys.length≤j→(ms.set (i + ys.length) c)[j]?.getD 0=0:=by
  intro j hj
  rw [List.getElem?_set_ne (by omega)]
  have:=congrArg (fun l=>l[j - (i + ys.length)]?.getD 0) k4
  simp only [List.getElem?_drop] at this
  rw [show i + ys.length + (j - (i + ys.length))=j by omega] at this
  rw [this]; exact h3 j (by omega)
 refine ⟨by simp [k1,h1],k2.set _ k3,hz,?_⟩
 rw [Zf2 hz,show i + 1 + ys.length=i + ys.length + 1 by omega,ZaT _ _ _ _ (by omega),k5,← Zf2 h3,h4,Zal i hi,hx,Nat.add_mul,List.take_of_length_le (Nat.le_refl ys.length),Nat.mul_assoc]
set_option maxHeartbeats 1000000 in
theorem ZlR (A A2:Option Addr) (xs ys:List Nat) (c c2:Nat) (w:World) (hX:Zan .u32 w A xs) (hY:Zan .u32 w A2 ys) (hl:xs.length≤35184372088832) (hl2:ys.length≤35184372088832) (hx0:0 < xs.length) (hy0:0 < ys.length)
 (hx:Dig W32 xs) (hy:Dig W32 ys) :
 Calls Tryz.prog 330 #[.slice A xs.length c, .slice A2 ys.length c2] w (Zfs w (val W32 xs * val W32 ys)):=by
 have HX:=zh hX
 have HY:=zh hY
 have Hx:=zh hx
 have Hy:=zh hy
 have g1:(((xs.length:Nat):Int) == 0)=false:=by simp; intro e; simp [e] at hx0
 have g2:(((ys.length:Nat):Int) == 0)=false:=by simp; intro e; simp [e] at hy0
 clear hX hY hx hy
 go_enter Tryz.func330,Tryz.ntmps330
 go_wp2_with (
  at_make
  refine ZaY rfl _ _ _ rfl _ _ _ Tryz.underlying153 Zef _ _ _ _ (xs.length + ys.length) rfl rfl (by omega) (by omega) (by omega) (by omega) ?_
  intro b w1 hb hO1 hC1 hF1 hs1
  have HO1:=zh hO1
  have HF1:=zh hF1
  have Hb:=zh hb
  clear hO1 hF1 hb hs1 hC1)
 go_loopw [6,7,8] (fun i _ _ wr=>∃ (k:Nat) (m:List Nat),k≤xs.length∧i=.int .i64 k∧Hid (ZeG xs ys k m)∧Hid (Own .u32 329 wr b m)∧Hid (Ext w wr)) (fun i _ _ _=>xs.length - (intOf i).toNat)
 case atStart=>exact ⟨0,_,by omega,rfl,ZeG.start _ _,HO1,HF1⟩
 case round =>
  obtain ⟨k,zs,hk,rfl,hR,hO2,hF2⟩:=hrel
  have hzl:=hR.out.1
  by_cases hlt:k < xs.length
  ·obtain ⟨x,ex⟩:∃ x,xs[k]?.getD 0=x:=⟨_,rfl⟩
   have HEX:=zh ex
   have hx32:Hid (x < W32):=ex ▸ Hx.out.getD Zao k
   obtain ⟨b2,off2,hA,_⟩:=HX.out.at hlt
   subst hA
   clear ex
   go_wp2
   obtain ⟨wo,rfl⟩:∃ wo:World,wo=wr:=⟨_,rfl⟩
   go_loopw [7,8] (fun cv j wr=>∃ (n cc:Nat) (m:List Nat),n≤ys.length∧j=.int .i64 n∧cv=.int .u64 cc∧Hid (Zd6 zs k x ys n m cc)∧Hid (Own .u32 329 wr b m)∧Hid (Ext w wr)) (fun _ j _=>ys.length - (intOf j).toNat)
   case atStart=>exact ⟨0,0,_,by omega,rfl,rfl,Zd6.start hR.out.2.1,hO2,hF2⟩
   case round =>
    obtain ⟨n,cc,m,hn,rfl,rfl,hI,hO3,hF3⟩:=hrel
    have hml:=hI.out.1
    by_cases hlt2:n < ys.length
    ·obtain ⟨b3,off3,rfl,_,hcy⟩:=(HY.out.ext hF3.out).at hlt2
     obtain ⟨b4,off4,e4,_,hcx⟩:=(HX.out.ext hF3.out).at hlt
     injection e4 with e4
     injection e4 with e4 e5
     subst e4 e5
     rw [HEX.out] at hcx
     obtain ⟨y,ey⟩:∃ y,ys[n]?.getD 0=y:=⟨_,rfl⟩
     rw [ey] at hcy
     obtain ⟨z,ez⟩:∃ z,m[k + n]?.getD 0=z:=⟨_,rfl⟩
     have hcz:=hO3.out.cell (i:=k + n) (by omega)
     have hfz:=hO3.out.frozen (k + n)
     rw [ez] at hcz
     have hy32:=ey ▸ Hy.out.getD Zao n
     have hz32:=ez ▸ hI.out.2.1.getD Zao (k + n)
     have hb:=sq32 hx32.out hy32 hz32 hI.out.2.2.1
     rw [ZeE] at hb
     have HI2:=zh (hI.out.step (by omega) hx32.out ey hlt2 Hy.out ez)
     have q0:=ZaQ x (by have:=Zah; have:=Zap; have:=hx32.out; omega)
     have q1:=ZaQ y (by have:=Zah; have:=Zap; omega)
     have q2:=ZaQ z (by have:=Zah; have:=Zap; omega)
     have q3:IntKind.u64.wrap ((x:Int) * (y:Int))=((x * y:Nat):Int):=by rw [← Int.natCast_mul]; exact ZaQ _ (by omega)
     obtain ⟨p,ep⟩:∃ p,x * y=p:=⟨_,rfl⟩
     rw [ep] at q3 HI2 hb
     have q4:=addW (a:=p) (b:=z) (by omega)
     obtain ⟨s1,es1⟩:∃ s1,p + z=s1:=⟨_,rfl⟩
     rw [es1] at q4 HI2 hb
     have q5:=addW (a:=cc) (b:=s1) hb
     obtain ⟨s2,es2⟩:∃ s2,cc + s1=s2:=⟨_,rfl⟩
     rw [es2] at q5 HI2
     have q6:=Zcp s2
     have q7:=hi32 s2
     have HO4:=zh (hO3.out.set (k + n) (s2 % W32) (by omega))
     obtain ⟨lo,elo⟩:∃ lo,s2 % W32=lo:=⟨_,rfl⟩
     obtain ⟨hi,ehi⟩:∃ hi,s2 / W32=hi:=⟨_,rfl⟩
     rw [elo] at q6 HI2 HO4
     rw [ehi] at q7 HI2
     clear ey ez hy32 hz32 hb ep es1 es2 elo ehi
     go_wp2
     go_region
     all_goals
      go_wp2
      go_roundw
      case rel=>exact ⟨n + 1,_,_,by omega,by go_num,rfl,HI2,HO4.out.drewN _,(hF3.out.drewN _).setCell (p:=⟨b,k + n,none⟩) (Or.inr (by have:=Hb.out; show w.heap.size≤b; omega)) _⟩
      case measure=>simp [intOf]; omega
    ·obtain rfl:n=ys.length:=by omega
     have HR2:=zh (hR.out.next hI.out hlt HEX.out)
     have hcz:=hO3.out.cell (i:=k + ys.length) (by omega)
     have hfz:=hO3.out.frozen (k + ys.length)
     obtain ⟨z,ez⟩:∃ z,m[k + ys.length]?.getD 0=z:=⟨_,rfl⟩
     rw [ez] at hcz
     have HO4:=zh (hO3.out.set (k + ys.length) cc (by omega))
     have q6:=Zcp cc
     rw [Nat.mod_eq_of_lt hI.out.2.2.1] at q6
     clear ez
     go_wp2
     go_roundw
     case rel=>exact ⟨k + 1,_,by omega,by go_num,HR2,HO4.out,hF3.out.setCell (p:=⟨b,k + ys.length,none⟩) (Or.inr (by have:=Hb.out; show w.heap.size≤b; omega)) _⟩
     case measure=>simp [intOf]; omega
  ·obtain rfl:k=xs.length:=by omega
   have HT:=zh (Zby _ zs (xs.length + ys.length) (xs.length + ys.length) wr hzl hO2.out.shows0 (by omega) (by omega))
   have HN:=zh (Zam.of_own (c:=xs.length + ys.length) hO2.out hR.out.2.1 (by omega))
   rw [hR.out.2.2.2,List.take_of_length_le (Nat.le_refl _)] at HN
   clear hzl
   go_wp2_with fail
   refine HT.out.mono ?_
   rintro e w2 ⟨rfl,rfl⟩
   clear HT
   go_wp2
   go_ret
   exact ⟨_,rfl,HN.out,hF2.out⟩
set_option maxHeartbeats 1000000 in
theorem ZlS (A A2:Option Addr) (n m c c2:Nat) (w:World) (h:n=0∨m=0) (hn:n≤35184372088832) (hm:m≤35184372088832) :
 Calls Tryz.prog 330 #[.slice A n c, .slice A2 m c2] w (Zfs w 0):=by
 by_cases h0:n=0
 ·subst h0
  go_enter Tryz.func330,Tryz.ntmps330
  go_wp2
  go_ret
  exact ⟨_,rfl,Zam.zero _,Fr.refl _ _⟩
 ·obtain rfl:m=0:=by omega
  have g1:(((n:Nat):Int) == 0)=false:=by simpa using h0
  go_enter Tryz.func330,Tryz.ntmps330
  go_wp2
  go_ret
  exact ⟨_,rfl,Zam.zero _,Fr.refl _ _⟩
theorem Ziz (v v2:Value) (x y:Nat) (w:World) (hx:Zam w v x) (hy:Zam w v2 y) (hlx:ml x≤17592186044416) (hly:ml y≤17592186044416) :
 Calls Tryz.prog 330 #[v,v2] w (Zfs w (x * y)):=by
 obtain ⟨A,xs,c,rfl,hc,hX,dx,tx,rfl⟩:=hx
 obtain ⟨A2,ys,c2,rfl,hc2,hY,dy,ty,rfl⟩:=hy
 rw [← ZbI dx tx] at hlx
 rw [← ZbI dy ty] at hly
 by_cases h:xs.length=0∨ys.length=0
 ·have e:val W32 xs * val W32 ys=0:=by
   rcases h with h | h
   ·rw [List.length_eq_zero_iff.1 h]; simp
   ·rw [List.length_eq_zero_iff.1 h]; simp
  rw [e]
  exact ZlS A A2 _ _ c c2 w h (by omega) (by omega)
 ·exact ZlR A A2 xs ys c c2 w hX hY (by omega) (by omega) (by omega) (by omega) dx dy
def ZfE (xs:List Nat) (d k:Nat) (zs:List Nat) (r:Nat):Prop :=
 zs.length=xs.length∧Dig W32 zs∧r < d∧val W32 (xs.drop k)=val W32 (zs.drop k) * d + r
theorem ZfE.start (xs:List Nat) {d:Nat} (h:0 < d):ZfE xs d xs.length (List.replicate xs.length 0) 0:=⟨by simp,Dig.replicate Zao _,h,by simp⟩
theorem ZfE.step {xs zs:List Nat} {d k r x:Nat} (h:ZfE xs d (k + 1) zs r) (hk:k < xs.length) (hx:xs[k]?.getD 0=x) (dx:Dig W32 xs) :
 ZfE xs d k (zs.set k ((r * W32 + x) / d)) ((r * W32 + x) % d)∧(r * W32 + x) / d < W32:=by
 obtain ⟨h1,h2,h3,h4⟩:=h
 have hx':x < W32:=hx ▸ dx.getD Zao k
 have hq:(r * W32 + x) / d < W32:=by
  apply Nat.div_lt_of_lt_mul
  have:(r + 1) * W32≤d * W32:=Nat.mul_le_mul_right _ h3
  rw [Nat.add_mul,Nat.one_mul] at this
  omega
 refine ⟨⟨by simpa using h1,h2.set k hq,Nat.mod_lt _ (by omega),?_⟩,hq⟩
 rw [ZaK k hk,ZaK (xs:=zs.set k _) k (by simp; omega),hx,List.drop_set_of_lt (by omega),List.getElem?_set_self (by omega)]
 exact ZhF _ _ _ _ _ _ _ _ h4 (by have:=Nat.div_add_mod (r * W32 + x) d; rw [Nat.mul_comm d] at this; show _=(r * W32 + x) / d * d + _; omega)
theorem Znb (r:Nat) (h:r < W32):IntKind.u64.wrap ((r:Int) * 4294967296)=((r * W32:Nat):Int):=by
 rw [Zap] at *; rw [IntKind.wrap_u64]; omega
theorem or32 (r x:Nat) (hx:x < W32):r * W32 ||| x=r * W32 + x:=by
 rw [Zap] at *
 have:=Nat.shiftLeft_add_eq_or_of_lt (i:=32) (b:=x) (by omega) r
 rw [Nat.shiftLeft_eq] at this
 exact this.symm
def ZjQ (w:World) (x d:Nat) (e:Ending) (w':World):Prop:=∃ l c,e=.returned (.tuple #[.slice (some ⟨w.heap.size,0,none⟩) l c, .int .u32 ((x % d:Nat):Int)])∧Zam w' (.slice (some ⟨w.heap.size,0,none⟩) l c) (x / d)∧Ext w w'
set_option maxHeartbeats 1000000 in
theorem Zki (A:Option Addr) (xs:List Nat) (c d:Nat) (w:World) (hX:Zan .u32 w A xs) (hl:xs.length≤35184372088832) (hx:Dig W32 xs) (hd:0 < d) (hd2:d < W32) :
 Calls Tryz.prog 247 #[.slice A xs.length c, .int .u32 (d:Int)] w (ZjQ w (val W32 xs) d):=by
 have HX:=zh hX
 have Hx:=zh hx
 have HD:=zh hd
 have HD2:=zh hd2
 have g1:(((d:Nat):Int) == 0)=false:=by simp; omega
 have q0:=ZaQ d (by have:=Zah; have:=Zap; omega)
 clear hX hx hd2
 go_enter Tryz.func247,Tryz.ntmps247
 go_wp2_with (
  at_make
  refine ZaY rfl _ _ _ rfl _ _ _ Tryz.underlying153 Zef _ _ _ _ xs.length rfl rfl (by omega) (by omega) (by omega) (by omega) ?_
  intro b w1 hb hO1 hC1 hF1 hs1
  have HO1:=zh hO1
  have HF1:=zh hF1
  have Hb:=zh hb
  clear hO1 hF1 hb hs1 hC1)
 go_loopw [7,8] (fun rv i wr=>∃ (k r:Nat) (m:List Nat),k≤xs.length∧i=.int .i64 ((k:Int) - 1)∧rv=.int .u64 r∧Hid (ZfE xs d k m r)∧Hid (Own .u32 329 wr b m)∧Hid (Ext w wr)) (fun _ i _=>(intOf i + 1).toNat)
 case atStart=>exact ⟨xs.length,0,_,by omega,rfl,rfl,ZfE.start _ HD.out,HO1,HF1⟩
 case round =>
  obtain ⟨k,r,m,hk,rfl,rfl,hR,hO2,hF2⟩:=hrel
  have hml:=hR.out.1
  by_cases hlt:0 < k
  ·obtain ⟨k,rfl⟩:∃ j,k=j + 1:=⟨k - 1,by omega⟩
   have hkx:k < xs.length:=by omega
   obtain ⟨b2,off2,rfl,_,hcx⟩:=(HX.out.ext hF2.out).at hkx
   obtain ⟨x,ex⟩:∃ x,xs[k]?.getD 0=x:=⟨_,rfl⟩
   rw [ex] at hcx
   have hx32:=ex ▸ Hx.out.getD Zao k
   have hcz:=hO2.out.cell (i:=k) (by omega)
   have hfz:=hO2.out.frozen k
   obtain ⟨z,ez⟩:∃ z,m[k]?.getD 0=z:=⟨_,rfl⟩
   rw [ez] at hcz
   have hi:((k + 1:Nat):Int) - 1=(k:Int):=by omega
   rw [hi]
   obtain ⟨hst,hq⟩:=hR.out.step hkx ex Hx.out
   have HR2:=zh hst
   have hr32:r < W32:=Nat.lt_trans hR.out.2.2.1 HD2.out
   have q1:=Znb r hr32
   have q2:=ZaQ x (by have:=Zah; have:=Zap; omega)
   have hrw:r * W32 + x < W64:=by
    have:(r + 1) * W32≤W32 * W32:=Nat.mul_le_mul_right _ hr32
    rw [Nat.add_mul,ZeE] at this; omega
   have q3:=ZdQ (a:=r * W32) (b:=x) (by omega) (by omega)
   rw [or32 r x hx32] at q3
   obtain ⟨rw1,e1⟩:∃ a,r * W32=a:=⟨_,rfl⟩
   rw [e1] at q1 q3 HR2 hq hrw
   obtain ⟨s,es⟩:∃ s,rw1 + x=s:=⟨_,rfl⟩
   rw [es] at q3 HR2 hq hrw
   have q4:(s:Int).tdiv (d:Int)=((s / d:Nat):Int):=by rw [Int.tdiv_eq_ediv_of_nonneg (by omega)]; rfl
   have q4':(s:Int) / (d:Int)=((s / d:Nat):Int):=rfl
   have q5:(s:Int).tmod (d:Int)=((s % d:Nat):Int):=by rw [Int.tmod_eq_emod_of_nonneg (by omega)]; rfl
   have q5':(s:Int) % (d:Int)=((s % d:Nat):Int):=rfl
   have HO3:=zh (hO2.out.set k (s / d) (by omega))
   have q6:=Zcp (s / d)
   rw [Nat.mod_eq_of_lt hq] at q6
   have q7:IntKind.u64.wrap ((s / d:Nat):Int)=((s / d:Nat):Int):=ZaQ _ (by have:=Zah; have:=Zap; omega)
   obtain ⟨q,eq⟩:∃ q,s / d=q:=⟨_,rfl⟩
   obtain ⟨r2,er⟩:∃ r2,s % d=r2:=⟨_,rfl⟩
   rw [eq] at q4 q4' q6 q7 HO3 HR2
   rw [er] at q5 q5' HR2
   clear ex ez hx32 hst hq hr32 hrw e1 es eq er hi
   go_wp2
   refine ⟨⟨k,_,_,by omega,rfl,rfl,HR2,HO3,hF2.out.setCell (p:=⟨b,k,none⟩) (Or.inr (by have:=Hb.out; show w.heap.size≤b; omega)) _⟩,?_⟩
   simp [intOf]
  ·obtain rfl:k=0:=by omega
   have hm2:=hR.out.2.2.2
   rw [List.drop_zero,List.drop_zero] at hm2
   have HT:=zh (Zby _ m xs.length xs.length wr hml hO2.out.shows0 (by omega) (by omega))
   have HN:=zh (Zam.of_own (c:=xs.length) hO2.out hR.out.2.1 (by omega))
   have hr2:=hR.out.2.2.1
   have ed:val W32 xs / d=val W32 m:=by
    rw [hm2,Nat.mul_comm,Nat.mul_add_div HD.out,Nat.div_eq_of_lt hr2,Nat.add_zero]
   have er:val W32 xs % d=r:=by
    rw [hm2,Nat.mul_comm,Nat.mul_add_mod,Nat.mod_eq_of_lt hr2]
   rw [← ed] at HN
   have HE:=zh er
   have q6:=Zcp r
   rw [Nat.mod_eq_of_lt (Nat.lt_trans hr2 HD2.out)] at q6
   clear hm2 hr2 ed er hml
   go_wp2_with fail
   refine HT.out.mono ?_
   rintro e w2 ⟨rfl,rfl⟩
   clear HT
   go_wp2
   go_ret2
   exact ⟨_,_,by rw [HE.out,Hb.out]; rfl,by rw [Hb.out]; exact HN.out,hF2.out⟩
theorem Zgp (v:Value) (x d:Nat) (w:World) (hx:Zam w v x) (hlx:ml x≤17592186044416) (hd:0 < d) (hd2:d < W32) :
 Calls Tryz.prog 247 #[v, .int .u32 (d:Int)] w (ZjQ w x d):=by
 obtain ⟨A,xs,c,rfl,hc,hX,dx,tx,rfl⟩:=hx
 rw [← ZbI dx tx] at hlx
 exact Zki A xs c d w hX (by omega) dx hd hd2
end Go.Proofs.YtcpjeaaapocoeaaGreatDoor

namespace Go.Proofs.YtcpjeaaapocoeaaGreatDoor
open Go.RowKit
noncomputable def d32 (x y c:Nat):Nat:=(x + W64 - c - y) % W64
theorem Zpp {x y c:Nat} (hx:x < W32) (hy:y < W32) (hc:c≤1):d32 x y c % W32 + y + c=x + W32 * (d32 x y c / W32 % 2):=by
 unfold d32
 rw [Zap] at *
 rw [Zah] at *
 omega
theorem Zq0 (x y c:Nat):d32 x y c < W64:=Nat.mod_lt _ Zar
theorem Zqo (h:Nat) (hh:h < W64):bits .and .u64 (h:Int) 1=((h % 2:Nat):Int):=by
 rw [Zah] at hh
 have:=bits_and_u64_nat h 1 hh (by omega)
 rw [Nat.and_one_is_mod] at this
 exact this
theorem Zob {xs ys:List Nat} (hx:Dig W32 xs) (hy:Dig W32 ys) (tx:Trim xs) (ty:Trim ys) (hl:xs.length≠ys.length):cmpI xs.length ys.length=cmpI (val W32 xs) (val W32 ys):=by
 rcases Nat.lt_or_gt_of_ne hl with h | h
 ·rw [Zcj (by omega),Zcj (by have:=Zb6 Zao hx ty h; omega)]
 ·rw [ZcS (by omega),ZcS (by have:=Zb6 Zao hy tx h; omega)]
theorem ZlT {xs ys:List Nat} (hx:Dig W32 xs) (hy:Dig W32 ys) (hl:xs.length=ys.length) {k x y:Nat} (hk:k < xs.length) (he:xs.drop (k + 1)=ys.drop (k + 1)) (ex:xs[k]?.getD 0=x) (ey:ys[k]?.getD 0=y) (hne:x≠y) :
 cmpI x y=cmpI (val W32 xs) (val W32 ys):=by
 subst ex ey
 rcases Nat.lt_or_gt_of_ne hne with h | h
 ·rw [Zcj (by omega),Zcj (by have:=ZcY hx hl k hk he h; omega)]
 ·rw [ZcS (by omega),ZcS (by have:=ZcY hy hl.symm k (by omega) he.symm h; omega)]
set_option maxHeartbeats 1000000 in
theorem Zhv (A A2:Option Addr) (xs ys:List Nat) (n m c c2:Nat) (w:World) (hn:xs.length=n) (hm:ys.length=m) (hX:Zan .u32 w A xs) (hY:Zan .u32 w A2 ys) (hc:xs.length≤70368744177664) (_:ys.length≤70368744177664)
 (hx:Dig W32 xs) (hy:Dig W32 ys) (tx:Trim xs) (ty:Trim ys) :
 Calls Tryz.prog 328 #[.slice A n c, .slice A2 m c2] w fun e w'=>e=.returned (.int .i64 (cmpI (val W32 xs) (val W32 ys)))∧∃ n,w'=w.drewN n:=by
 subst hn hm
 by_cases hl:xs.length=ys.length
 ·have HX:=zh hX
  have HY:=zh hY
  have HL:=zh hl
  have Hx:=zh hx
  have Hy:=zh hy
  have hne:(((xs.length:Nat):Int) != (ys.length:Nat))=false:=by simp [hl]
  clear hX hY hx hy tx ty hl
  go_enter Tryz.func328,Tryz.ntmps328
  go_wp2
  go_loopw [5] (fun i wr=>∃ k n:Nat,k≤xs.length∧i=.int .i64 ((k:Int) - 1)∧Hid (xs.drop k=ys.drop k)∧Hid (wr=w.drewN n)) (fun i _=>(intOf i + 1).toNat)
  case atStart=>exact ⟨xs.length,0,Nat.le_refl _,rfl,by unfold Hid; rw [List.drop_of_length_le (Nat.le_refl _),List.drop_of_length_le (by rw [HL.out]; exact Nat.le_refl _)],rfl⟩
  case round =>
   obtain ⟨k,n,hk,rfl,Q,hW⟩:=hrel
   obtain rfl:=hW.out
   clear hW
   by_cases hlt:0 < k
   ·obtain ⟨j,rfl⟩:∃ j,k=j + 1:=⟨k - 1,by omega⟩
    have ej:(((j + 1:Nat):Int) - 1)=(j:Int):=by omega
    rw [ej]
    clear ej
    obtain ⟨b,off,rfl,_,hcx⟩:=HX.out.at (i:=j) (by omega)
    obtain ⟨b2,off2,rfl,_,hcy⟩:=HY.out.at (i:=j) (by have:=HL.out; omega)
    obtain ⟨x,ex⟩:∃ x,xs[j]?.getD 0=x:=⟨_,rfl⟩
    obtain ⟨y,ey⟩:∃ y,ys[j]?.getD 0=y:=⟨_,rfl⟩
    rw [ex] at hcx
    rw [ey] at hcy
    have hj2:(j:Int) < (ys.length:Nat):=by have:=HL.out; omega
    have hj1:(j:Int) < (xs.length:Nat):=by omega
    by_cases hd:x=y
    ·subst hd
     have HE:Hid (xs.drop j=ys.drop j):=by
      unfold Hid
      have h1:j < xs.length:=by omega
      have h2:j < ys.length:=by have:=HL.out; omega
      rw [List.drop_eq_getElem_cons h1,List.drop_eq_getElem_cons h2,Q.out]
      rw [List.getElem?_eq_getElem h1] at ex
      rw [List.getElem?_eq_getElem h2] at ey
      simp only [Option.getD_some] at ex ey
      rw [ex,ey]
     clear ex ey Q
     go_wp2
     go_quiet (fail)
     go_wp2
     go_roundw
     case rel=>exact ⟨j,_,by omega,rfl,HE,rfl⟩
     case measure=>simp [intOf]
    ·have HC:=zh (ZlT Hx.out Hy.out HL.out (by omega) Q.out ex ey hd)
     have hd':(((x:Nat):Int) != (y:Nat))=true:=by simp; omega
     clear ex ey Q
     by_cases hxy:x < y
     ·have HC2:=zh (Zcj (a:=x) (b:=y) (by omega))
      go_wp2
      go_quiet (fail)
      go_wp2
      go_quiet (fail)
      go_wp2
      go_ret
      exact ⟨by rw [← HC.out,HC2.out]; rfl,by simp only [World.drewN_drewN]; exact ⟨_,rfl⟩⟩
     ·have HC2:=zh (ZcS (a:=x) (b:=y) (by omega))
      go_wp2
      go_quiet (fail)
      go_wp2
      go_quiet (fail)
      go_wp2
      go_ret
      exact ⟨by rw [← HC.out,HC2.out]; rfl,by simp only [World.drewN_drewN]; exact ⟨_,rfl⟩⟩
   ·obtain rfl:k=0:=by omega
    have HE:xs=ys:=by simpa using Q.out
    have HC:=zh (congrArg (fun l=>cmpI (val W32 xs) (val W32 l)) HE)
    clear Q HE
    go_wp2
    go_ret
    exact ⟨by rw [← (show _=cmpI (val W32 xs) (val W32 ys) from HC.out),ZjG]; rfl,_,rfl⟩
 ·have hne:(((xs.length:Nat):Int) != (ys.length:Nat))=true:=by simp; omega
  have HC:=zh (Zob hx hy tx ty hl)
  clear hX hY hx hy tx ty
  by_cases hxy:xs.length < ys.length
  ·have HC2:=zh (Zcj (a:=xs.length) (b:=ys.length) (by omega))
   go_enter Tryz.func328,Tryz.ntmps328
   go_wp2
   go_ret
   exact ⟨by rw [← HC.out,HC2.out]; rfl,0,rfl⟩
  ·have HC2:=zh (ZcS (a:=xs.length) (b:=ys.length) (by omega))
   go_enter Tryz.func328,Tryz.ntmps328
   go_wp2
   go_ret
   exact ⟨by rw [← HC.out,HC2.out]; rfl,0,rfl⟩
theorem ZiA (u v:Value) (m n:Nat) (w:World) (hu:Zam w u m) (hv:Zam w v n) (hm:ml m≤17592186044416) (hn:ml n≤17592186044416) :
 Calls Tryz.prog 328 #[u,v] w fun e w'=>e=.returned (.int .i64 (cmpI m n))∧∃ n,w'=w.drewN n:=by
 obtain ⟨A,xs,c,rfl,hc,h1,h2,h3,rfl⟩:=hu
 obtain ⟨A2,ys,c2,rfl,hc2,k1,k2,k3,rfl⟩:=hv
 rw [← ZbI h2 h3] at hm
 rw [← ZbI k2 k3] at hn
 exact Zhv A A2 xs ys _ _ c c2 w rfl rfl h1 k1 (by omega) (by omega) h2 k2 h3 k3
end Go.Proofs.YtcpjeaaapocoeaaGreatDoor

namespace Go.Proofs.YtcpjeaaapocoeaaGreatDoor
open Go.RowKit
theorem top2 {B:Nat} {vs:List Nat} {n:Nat} (h:vs.length=n + 2):val B vs=val B (vs.take n) + B ^ n * ((vs[n]?.getD 0) + B * (vs[n + 1]?.getD 0)):=by
 rw [ZaJ (xs:=vs) n,ZaK n (by omega),ZaK (n + 1) (by omega),List.drop_of_length_le (by omega:vs.length≤n + 1 + 1),Nat.min_eq_left (by omega)]
 simp
theorem top3 {B:Nat} {ws:List Nat} {n:Nat} (h:ws.length=n + 3):val B ws=val B (ws.take n) + B ^ n * ((ws[n]?.getD 0) + B * ((ws[n + 1]?.getD 0) + B * (ws[n + 2]?.getD 0))):=by
 rw [ZaJ (xs:=ws) n,ZaK n (by omega),ZaK (n + 1) (by omega),ZaK (n + 2) (by omega),List.drop_of_length_le (by omega:ws.length≤n + 2 + 1),Nat.min_eq_left (by omega)]
 simp
def ZcB (u v d:Nat):Prop:=d * v≤u + v∧u < (d + 1) * v
theorem ZeW (a:Nat) {b:Nat} (hb:0 < b):a < (a / b + 1) * b:=by
 have h1:=Nat.div_add_mod a b
 have h2:=Nat.mod_lt a hb
 rw [Nat.add_mul,Nat.mul_comm (a / b)]
 omega
theorem Zoc {B:Nat} {ws vs:List Nat} {n a v1:Nat} (hB:2≤B) (hv:vs.length=n + 2) (hw:ws.length=n + 3) (dv:Dig B vs)
 (ea:ws[n + 2]?.getD 0=a) (e1:vs[n + 1]?.getD 0=v1) (hge:v1≤a) (hnorm:B≤2 * v1) (hu:val B ws < val B vs * B) :
 ZcB (val B ws) (val B vs) (B - 1):=by
 have EV:val B vs=val B (vs.take (n + 1)) + B ^ (n + 1) * v1:=by
  have:=Zal (B:=B) (xs:=vs) (n + 1) (by omega)
  rw [List.take_of_length_le (by omega),e1] at this
  exact this
 have EW:val B ws=val B (ws.take (n + 2)) + B ^ (n + 2) * a:=by
  have:=Zal (B:=B) (xs:=ws) (n + 2) (by omega)
  rw [List.take_of_length_le (by omega),ea] at this
  exact this
 have hv':=ZaX (dv.take (n + 1))
 rw [List.length_take,Nat.min_eq_left (by omega)] at hv'
 obtain ⟨C,rfl⟩:∃ C,B=C + 2:=⟨B - 2,by omega⟩
 refine ⟨?_,by rw [show C + 2 - 1 + 1=C + 2 by omega,Nat.mul_comm]; exact hu⟩
 have h1:val (C + 2) vs≤(C + 2) ^ (n + 1) * (v1 + 1):=by rw [EV,Nat.mul_add]; omega
 have h2:C * val (C + 2) vs≤C * ((C + 2) ^ (n + 1) * (v1 + 1)):=Nat.mul_le_mul_left C h1
 have h3:C * ((C + 2) ^ (n + 1) * (v1 + 1))=(C + 2) ^ (n + 1) * (C * (v1 + 1)):=Nat.mul_left_comm _ _ _
 have h4:C * (v1 + 1)≤(C + 2) * v1:=by rw [Nat.mul_add,Nat.add_mul]; omega
 have h5:(C + 2) ^ (n + 1) * (C * (v1 + 1))≤(C + 2) ^ (n + 1) * ((C + 2) * v1):=Nat.mul_le_mul_left _ h4
 have h6:(C + 2) ^ (n + 2) * v1=(C + 2) ^ (n + 1) * ((C + 2) * v1):=by rw [Nat.pow_succ,Nat.mul_assoc]
 have h7:(C + 2) ^ (n + 2) * v1≤(C + 2) ^ (n + 2) * a:=Nat.mul_le_mul_left _ hge
 rw [show C + 2 - 1=C + 1 by omega,Nat.add_mul,Nat.one_mul]
 omega
theorem Zod {B:Nat} {ws vs:List Nat} {n a b c0 v1 v0:Nat} (hB:0 < B) (hv:vs.length=n + 2) (hw:ws.length=n + 3) (dv:Dig B vs) (dw:Dig B ws)
 (ea:ws[n + 2]?.getD 0=a) (eb:ws[n + 1]?.getD 0=b) (ec:ws[n]?.getD 0=c0) (e1:vs[n + 1]?.getD 0=v1) (e0:vs[n]?.getD 0=v0) (hlt:a < v1) :
 ZcB (val B ws) (val B vs) (((a * B + b) * B + c0) / (v1 * B + v0)):=by
 have hb:b < B:=eb ▸ dw.getD hB _
 have hc:c0 < B:=ec ▸ dw.getD hB _
 have hU:a * B + b < v1 * B:=by
  have:(a + 1) * B≤v1 * B:=Nat.mul_le_mul_right B hlt
  rw [Nat.add_mul] at this; omega
 have hq:((a * B + b) * B + c0) / (v1 * B + v0) < B:=by
  rw [Nat.div_lt_iff_lt_mul (by omega)]
  have:(a * B + b + 1) * B≤(v1 * B + v0) * B:=Nat.mul_le_mul_right B (by omega)
  rw [Nat.add_mul (a * B + b)] at this
  rw [Nat.mul_comm B]
  omega
 have hvB:B≤v1 * B + v0:=by
  have:1 * B≤v1 * B:=Nat.mul_le_mul_right B (by omega)
  omega
 have hd:=Nat.div_mul_le_self ((a * B + b) * B + c0) (v1 * B + v0)
 have hd2:(a * B + b) * B + c0 < (((a * B + b) * B + c0) / (v1 * B + v0) + 1) * (v1 * B + v0):=ZeW _ (by omega)
 have hv':=ZaX (dv.take n)
 have hw':=ZaX (dw.take n)
 rw [List.length_take,Nat.min_eq_left (by omega)] at hv' hw'
 have EV:val B vs=(v1 * B + v0) * B ^ n + val B (vs.take n):=by
  rw [top2 hv,e1,e0,Nat.add_comm,Nat.mul_comm (B ^ n),Nat.mul_comm B v1,Nat.add_comm v0]
 have EW:val B ws=((a * B + b) * B + c0) * B ^ n + val B (ws.take n):=by
  rw [top3 hw,ea,eb,ec,Nat.add_comm,Nat.mul_comm (B ^ n),Nat.add_comm c0,Nat.mul_comm B,Nat.add_comm b,Nat.mul_comm B a]
 rw [EV,EW]
 exact ⟨ZnO _ _ _ _ _ _ B hv' hq (Nat.mul_le_mul_right _ hvB) hd,Zgb _ _ _ _ _ _ hw' hd2⟩
theorem Zoe {P:Program} {f:FuncId} {args:Array Value} {w:World} {a n:Nat} {v:Value}
 (h:Calls P f args (w.drewN (a + n)) fun e w'=>e=.returned v∧∃ m,w'=(w.drewN (a + n)).drewN m) :
 Calls P f args (w.drewN (a + n)) fun e w''=>e=.returned v∧∃ m,w''=w.drewN (a + m) :=
 h.mono fun _ _ ⟨he,m,hm⟩=>⟨he,n + m,by rw [hm,World.drewN_drewN,Nat.add_assoc]⟩
theorem Znc {H U v1 v0 u qi ri:Nat} (hH:0 < H) (hv1:0 < v1) (hu:u < H) (h:qi * v1 + ri=U) (hr:ri < v1):Zb8 H U v1 v0 u qi ri:=by
 refine ⟨h,?_⟩
 have hp:0 < v1 * H:=Nat.mul_pos hv1 hH
 rw [← Nat.lt_succ_iff,Nat.div_lt_iff_lt_mul (by omega)]
 have h1:U < (qi + 1) * v1:=by rw [Nat.add_mul]; omega
 have h2:(U + 1) * H≤(qi + 1) * v1 * H:=Nat.mul_le_mul_right _ h1
 rw [Nat.succ_eq_add_one,Nat.mul_add,← Nat.mul_assoc]
 rw [Nat.add_mul U] at h2
 omega
theorem Zpq {p q rest c0:Nat} (hp:Zcf p q < W64) (hc:c0 < W64):(Zdh p q < rest∨Zdh p q=rest∧Zcf p q≤c0) ↔ p * q≤W64 * rest + c0:=by
 have h:=ZhJ p q
 constructor
 ·rintro (h1 | ⟨h1,h2⟩)
  ·have:W64 * (Zdh p q + 1)≤W64 * rest:=Nat.mul_le_mul_left _ h1
   rw [Nat.mul_add] at this
   omega
  ·rw [h1] at h; omega
 ·intro h1
  rcases Nat.lt_trichotomy (Zdh p q) rest with h2 | h2 | h2
  ·exact Or.inl h2
  ·exact Or.inr ⟨h2,by rw [h2] at h; omega⟩
  ·have:W64 * (rest + 1)≤W64 * Zdh p q:=Nat.mul_le_mul_left _ h2
   rw [Nat.mul_add] at this
   omega
def Zqp (u v:Nat) (w:World) (e:Ending) (w':World):Prop:=∃ d:Nat,e=.returned (.int .u64 (d:Int))∧d < W64∧ZcB u v d∧∃ n,w'=w.drewN n
set_option maxHeartbeats 2000000 in
theorem ZkR (A A2:Option Addr) (ws vs:List Nat) (n m c c2 k:Nat) (w:World) (hn:ws.length=n) (hm:vs.length=m) (hW:Zan .u64 w A ws) (hV:Zan .u64 w A2 vs) (hk:vs.length=k + 2) (hwl:ws.length=k + 3) (hl:k≤1099511627776)
 (dw:Dig W64 ws) (dv:Dig W64 vs) (hnorm:W64≤2 * (vs[k + 1]?.getD 0)) (hu:val W64 ws < val W64 vs * W64) :
 Calls Tryz.prog 394 #[.slice A n c, .slice A2 m c2] w (Zqp (val W64 ws) (val W64 vs) w):=by
 obtain ⟨b1,o1,rfl,_,hca⟩:=hW.at (i:=k + 2) (by omega)
 obtain ⟨b1',o1',e1',_,hcb⟩:=hW.at (i:=k + 1) (by omega)
 injection e1' with e1'; injection e1' with f1 f2; subst f1 f2
 obtain ⟨b1',o1',e1',_,hcc⟩:=hW.at (i:=k) (by omega)
 injection e1' with e1'; injection e1' with f1 f2; subst f1 f2
 obtain ⟨b2,o2,rfl,_,hc1⟩:=hV.at (i:=k + 1) (by omega)
 obtain ⟨b2',o2',e2',_,hc0⟩:=hV.at (i:=k) (by omega)
 injection e2' with e2'; injection e2' with f1 f2; subst f1 f2
 obtain ⟨a,ea⟩:∃ a,ws[k + 2]?.getD 0=a:=⟨_,rfl⟩
 obtain ⟨bb,eb⟩:∃ bb,ws[k + 1]?.getD 0=bb:=⟨_,rfl⟩
 obtain ⟨cc,ec⟩:∃ cc,ws[k]?.getD 0=cc:=⟨_,rfl⟩
 obtain ⟨v1,e1⟩:∃ v1,vs[k + 1]?.getD 0=v1:=⟨_,rfl⟩
 obtain ⟨v0,e0⟩:∃ v0,vs[k]?.getD 0=v0:=⟨_,rfl⟩
 rw [ea] at hca
 rw [eb] at hcb
 rw [ec] at hcc
 rw [e1] at hc1 hnorm
 rw [e0] at hc0
 have hab:Hid (a < W64):=ea ▸ dw.getD Zar _
 have hbb:Hid (bb < W64):=eb ▸ dw.getD Zar _
 have hcb':Hid (cc < W64):=ec ▸ dw.getD Zar _
 have hv1b:Hid (v1 < W64):=e1 ▸ dv.getD Zar _
 have hv0b:Hid (v0 < W64):=e0 ▸ dv.getD Zar _
 obtain rfl:m=k + 2:=by omega
 obtain rfl:n=k + 3:=by omega
 by_cases hge:v1≤a
 ·have HD:=zh (Zoc Zqd hk hwl dv ea e1 hge hnorm hu)
  clear hW hV dw dv hnorm hu ea eb ec e1 e0 hn hm hk hwl
  go_enter Tryz.func394,Tryz.ntmps394
  go_wp2
  have g3:IntKind.i64.wrap ((k:Int) + 2 - 1)=(k:Int) + 1:=by rw [IntKind.wrap_i64]; omega
  have g4:IntKind.i64.wrap ((k:Int) + 2 - 2)=(k:Int):=by rw [IntKind.wrap_i64]; omega
  have g5:(0:Int)≤(k:Int) + 1:=by omega
  have g6:((k:Int) + 1).toNat=k + 1:=by omega
  have g7:(k:Int) + 1 < (k:Int) + 2:=by omega
  have g8:(k:Int) < (k:Int) + 2:=by omega
  go_quiet (fail)
  clear g3 g4 g5 g6 g7 g8
  go_wp2
  go_ret
  exact ⟨W64 - 1,by rw [show (((W64 - 1:Nat):Int))=18446744073709551615 by rw [Zah]; rfl]; rfl,by have:=Zar; omega,HD.out,_,rfl⟩
 ·have HD:=zh (Zod Zar hk hwl dv dw ea eb ec e1 e0 (by omega))
  have hlt:a < v1:=by omega
  have hU:Hid (a * W64 + bb < v1 * W64 + v0):=by
   have:(a + 1) * W64≤v1 * W64:=Nat.mul_le_mul_right _ hlt
   rw [Nat.add_mul] at this
   have:=hbb.out
   unfold Hid; omega
  have hpos:Hid (0 < v1 * W64 + v0):=by have:=hU.out; unfold Hid; omega
  have HE:=zh (Znc (v0:=v0) (u:=cc) Zar (by omega) hcb'.out (ZhM a bb v1) (Zg3 _ _ (by omega)))
  have hq0:Hid (divQ a bb v1 < W64):=Zmn hlt hbb.out
  have hr0:Hid (divR a bb v1 < W64):=Nat.lt_trans (Zg3 _ _ (by omega)) hv1b.out
  clear hW hV dw dv hnorm hu ea eb ec e1 e0 hn hm hk hwl
  go_enter Tryz.func394,Tryz.ntmps394
  go_wp2
  have g3:IntKind.i64.wrap ((k:Int) + 2 - 1)=(k:Int) + 1:=by rw [IntKind.wrap_i64]; omega
  have g4:IntKind.i64.wrap ((k:Int) + 2 - 2)=(k:Int):=by rw [IntKind.wrap_i64]; omega
  have g5:(0:Int)≤(k:Int) + 1:=by omega
  have g6:((k:Int) + 1).toNat=k + 1:=by omega
  have g7:(k:Int) + 1 < (k:Int) + 2:=by omega
  have g8:(k:Int) < (k:Int) + 2:=by omega
  go_quiet (fail)
  clear g3 g4 g5 g6 g7 g8
  go_wp2
  have g3:IntKind.i64.wrap ((k:Int) + 2 - 1)=(k:Int) + 1:=by rw [IntKind.wrap_i64]; omega
  have g5:(0:Int)≤(k:Int) + 1:=by omega
  have g6:((k:Int) + 1).toNat=k + 1:=by omega
  have g7:(k:Int) + 1 < (k:Int) + 3:=by omega
  have g8:(k:Int) + 2 < (k:Int) + 3:=by omega
  have g9:(0:Int)≤(k:Int) + 2:=by omega
  have g10:((k:Int) + 2).toNat=k + 2:=by omega
  go_quiet ((go_at_call 364; exact Zoe (Zgk _ _ _ _ hlt hv1b.out hbb.out)))
  clear g3 g5 g6 g7 g8 g9 g10
  go_wp2
  go_loopw [8,9] (fun qv rv wr=>∃ q r m:Nat,qv=.int .u64 (q:Int)∧rv=.int .u64 (r:Int)∧Hid (q < W64)∧Hid (r < W64)∧Hid (Zb8 W64 (a * W64 + bb) v1 v0 cc q r)∧Hid (wr=w.drewN m)) (fun qv _ _=>(intOf qv).toNat)
  case atStart=>exact ⟨_,_,_,rfl,rfl,hq0,hr0,HE,World.drewN_drewN _ _ _⟩
  case round =>
   obtain ⟨q,r,m,rfl,rfl,hqW,hrW,Q,hW⟩:=hrel
   obtain rfl:=hW.out
   clear hW
   have hgo:∀ hh:W64 * r + cc < q * v0,Hid (Zb8 W64 (a * W64 + bb) v1 v0 cc (q - 1) (r + v1)):=fun hh=>Zey hpos.out hh Q.out
   have Hgo:=zh hgo
   clear hgo
   have htest:=zh (Zpq (p:=q) (q:=v0) (rest:=r) (Zpf _ _) hcb'.out)
   have hdone:∀ hh:q * v0≤W64 * r + cc,q=((a * W64 + bb) * W64 + cc) / (v1 * W64 + v0):=fun hh=>ZdY hpos.out hh Q.out
   have Hdone:=zh hdone
   clear hdone
   obtain ⟨hi,ehi⟩:∃ hi,Zdh q v0=hi:=⟨_,rfl⟩
   obtain ⟨lo,elo⟩:∃ lo,Zcf q v0=lo:=⟨_,rfl⟩
   rw [ehi,elo] at htest
   have hmul:=zh (Zgf q v0 hqW.out hv0b.out (w.drewN m))
   rw [ehi,elo] at hmul
   clear ehi elo
   by_cases t1:hi < r
   ·have Hq:=zh (Hdone.out (htest.out.1 (Or.inl t1)))
    have t1':=ZcT t1
    go_wp2_with (go_at_call 353; refine hmul.out.mono ?_; rintro e w' ⟨rfl,rfl⟩)
    go_ret
    exact ⟨q,rfl,hqW.out,by rw [Hq.out]; exact HD.out,_,rfl⟩
   ·have t1':=Zcs t1
    by_cases t2:hi=r
    ·subst t2
     by_cases t3:lo≤cc
     ·have Hq:=zh (Hdone.out (htest.out.1 (Or.inr ⟨rfl,t3⟩)))
      go_wp2_with (go_at_call 353; refine hmul.out.mono ?_; rintro e w' ⟨rfl,rfl⟩)
      go_ret
      exact ⟨q,rfl,hqW.out,by rw [Hq.out]; exact HD.out,_,rfl⟩
     ·have hov:W64 * hi + cc < q * v0:=by
       rcases Nat.lt_or_ge (W64 * hi + cc) (q * v0) with h | h
       ·exact h
       ·rcases htest.out.2 h with h | h<;>omega
      have hE2:=Hgo.out hov
      have hq0':0 < q:=by
       rcases Nat.eq_zero_or_pos q with e | e
       ·rw [e,Nat.zero_mul] at hov; omega
       ·exact e
      clear hov
      have g1:=ZbS hq0' hqW.out
      obtain ⟨q1,eq1⟩:∃ q1,q - 1=q1:=⟨_,rfl⟩
      rw [eq1] at g1 hE2
      have hq1:q1 < q:=by omega
      have hq1W:Hid (q1 < W64):=by have:=hqW.out; unfold Hid; omega
      have HE2:=zh hE2.out
      clear eq1 hE2 hq0'
      by_cases hbr:hi + v1 < W64
      ·have g2:=Zbn hbr
       obtain ⟨r1,er1⟩:∃ r1,hi + v1=r1:=⟨_,rfl⟩
       rw [er1] at g2 HE2
       have t5:=Zcs (a:=r1) (b:=v1) (by omega)
       have hr1W:Hid (r1 < W64):=by unfold Hid; omega
       clear er1 hbr
       go_wp2_with (go_at_call 353; refine hmul.out.mono ?_; rintro e w' ⟨rfl,rfl⟩)
       go_roundw
       case rel=>exact ⟨q1,r1,_,rfl,rfl,hq1W,hr1W,HE2,rfl⟩
       case measure=>simp [intOf]; omega
      ·have Hq:=zh (Zb2 hU.out hv0b.out (by omega) HE2.out)
       have g2:IntKind.u64.wrap ((hi:Int) + (v1:Int))=((hi + v1 - W64:Nat):Int):=by
        have h1:=hrW.out
        have h2:=hv1b.out
        rw [Zah] at *
        rw [IntKind.wrap_u64]
        omega
       obtain ⟨r1,er1⟩:∃ r1,hi + v1 - W64=r1:=⟨_,rfl⟩
       rw [er1] at g2
       have t5:=ZcT (a:=r1) (b:=v1) (by have:=hrW.out; omega)
       clear er1 hbr
       go_wp2_with (go_at_call 353; refine hmul.out.mono ?_; rintro e w' ⟨rfl,rfl⟩)
       go_ret
       exact ⟨q1,rfl,hq1W.out,by rw [Hq.out]; exact HD.out,_,rfl⟩
    ·have t2':((hi:Int) == (r:Int))=false:=by simp; omega
     have hov:W64 * r + cc < q * v0:=by
      rcases Nat.lt_or_ge (W64 * r + cc) (q * v0) with h | h
      ·exact h
      ·rcases htest.out.2 h with h | h<;>omega
     have hE2:=Hgo.out hov
     have hq0':0 < q:=by
      rcases Nat.eq_zero_or_pos q with e | e
      ·rw [e,Nat.zero_mul] at hov; omega
      ·exact e
     clear hov
     have g1:=ZbS hq0' hqW.out
     obtain ⟨q1,eq1⟩:∃ q1,q - 1=q1:=⟨_,rfl⟩
     rw [eq1] at g1 hE2
     have hq1:q1 < q:=by omega
     have hq1W:Hid (q1 < W64):=by have:=hqW.out; unfold Hid; omega
     have HE2:=zh hE2.out
     clear eq1 hE2 hq0'
     by_cases hbr:r + v1 < W64
     ·have g2:=Zbn hbr
      obtain ⟨r1,er1⟩:∃ r1,r + v1=r1:=⟨_,rfl⟩
      rw [er1] at g2 HE2
      have t5:=Zcs (a:=r1) (b:=v1) (by omega)
      have hr1W:Hid (r1 < W64):=by unfold Hid; omega
      clear er1 hbr
      go_wp2_with (go_at_call 353; refine hmul.out.mono ?_; rintro e w' ⟨rfl,rfl⟩)
      go_roundw
      case rel=>exact ⟨q1,r1,_,rfl,rfl,hq1W,hr1W,HE2,rfl⟩
      case measure=>simp [intOf]; omega
     ·have Hq:=zh (Zb2 hU.out hv0b.out (by omega) HE2.out)
      have g2:IntKind.u64.wrap ((r:Int) + (v1:Int))=((r + v1 - W64:Nat):Int):=by
       have h1:=hrW.out
       have h2:=hv1b.out
       rw [Zah] at *
       rw [IntKind.wrap_u64]
       omega
      obtain ⟨r1,er1⟩:∃ r1,r + v1 - W64=r1:=⟨_,rfl⟩
      rw [er1] at g2
      have t5:=ZcT (a:=r1) (b:=v1) (by have:=hrW.out; omega)
      clear er1 hbr
      go_wp2_with (go_at_call 353; refine hmul.out.mono ?_; rintro e w' ⟨rfl,rfl⟩)
      go_ret
      exact ⟨q1,rfl,hq1W.out,by rw [Hq.out]; exact HD.out,_,rfl⟩
end Go.Proofs.YtcpjeaaapocoeaaGreatDoor

namespace Go.Proofs.YtcpjeaaapocoeaaGreatDoor
theorem Zpr {u v d:Nat} (h:ZcB u v d) (hge:d * v≤u):d=u / v:=by
 have h2:=h.2
 have h3:u < (d + 1) * v:=h2
 have:=Nat.div_eq_of_lt_le (m:=u) (n:=v) (k:=d) (by omega) (by simpa using h3)
 exact this.symm
theorem Znd {u v d:Nat} (h:ZcB u v d) (hlt:u < d * v):0 < d∧d - 1=u / v:=by
 have h1:=h.1
 have hd:0 < d:=by
  rcases Nat.eq_zero_or_pos d with e | e
  ·subst e; simp at hlt
  ·exact e
 obtain ⟨c,rfl⟩:∃ c,d=c + 1:=⟨d - 1,by omega⟩
 refine ⟨hd,?_⟩
 have e:c + 1 - 1=c:=by omega
 rw [e]
 rw [Nat.add_mul] at h1
 exact (Nat.div_eq_of_lt_le (m:=u) (n:=v) (k:=c) (by omega) (by simpa using hlt)).symm
theorem ZiB {P v u low top d borrow m:Nat} (hv:v≤P) (hu:u=low + P * top) (hd:ZcB u v d) (hm:m + v * d=low + P * borrow) (hle:borrow≤top) :
 d=u / v∧m=u % v∧top=borrow:=by
 have e1:u=d * v + (m + P * (top - borrow)):=by
  obtain ⟨t,rfl⟩:∃ t,top=borrow + t:=⟨top - borrow,by omega⟩
  rw [show borrow + t - borrow=t by omega,hu,Nat.mul_add,Nat.mul_comm d]
  omega
 have hq:=Zpr hd (by omega)
 have hr:m + P * (top - borrow) < v:=by
  have:=hd.2
  rw [Nat.add_mul] at this
  omega
 have htb:top - borrow=0:=by
  rcases Nat.eq_zero_or_pos (top - borrow) with h | h
  ·exact h
  ·have:P * 1≤P * (top - borrow):=Nat.mul_le_mul_left P h
   omega
 refine ⟨hq,?_,by omega⟩
 rw [htb] at e1 hr
 simp only [Nat.mul_zero,Nat.add_zero] at e1 hr
 rw [e1,Nat.mul_comm,Nat.mul_add_mod,Nat.mod_eq_of_lt hr]
theorem ZjR {P v u low top d borrow m m2 c:Nat} (hv0:0 < v) (hv:v≤P) (hu:u=low + P * top) (hd:ZcB u v d) (hm:m + v * d=low + P * borrow) (hlt:top < borrow)
 (hmP:m < P) (hm2:m2 + P * c=m + v) (hm2P:m2 < P):0 < d∧d - 1=u / v∧m2=u % v∧c + top=borrow:=by
 have hud:u < d * v:=by
  have:P * (top + 1)≤P * borrow:=Nat.mul_le_mul_left P hlt
  rw [Nat.mul_add] at this
  rw [Nat.mul_comm d]
  omega
 obtain ⟨hd0,hq⟩:=Znd hd hud
 obtain ⟨q,rfl⟩:∃ q,d=q + 1:=⟨d - 1,by omega⟩
 have e:q + 1 - 1=q:=by omega
 rw [e] at hq ⊢
 refine ⟨hd0,hq,?_⟩
 have hmod:=Nat.div_add_mod u v
 have hml:=Nat.mod_lt u hv0
 rw [← hq,Nat.mul_comm] at hmod
 rw [Nat.mul_add] at hm
 -- m2 + P*(c + top)=u % v + P * borrow
 have key:m2 + P * (c + top)=u % v + P * borrow:=by
  rw [Nat.mul_add,Nat.mul_comm q] at *
  omega
 have hc:c + top=borrow:=by
  rcases Nat.lt_trichotomy (c + top) borrow with h | h | h
  ·have:P * (c + top + 1)≤P * borrow:=Nat.mul_le_mul_left P h
   rw [Nat.mul_add] at this
   omega
  ·exact h
  ·have:P * (borrow + 1)≤P * (c + top):=Nat.mul_le_mul_left P h
   rw [Nat.mul_add] at this
   omega
 rw [hc] at key
 exact ⟨by omega,hc⟩
def ZcR (X v n k:Nat) (rs qs:List Nat):Prop :=
 Dig W64 rs∧Dig W64 qs∧rs.length=qs.length + n∧val W64 rs + val W64 (qs.drop k) * W64 ^ k * v=X∧val W64 (rs.drop k) < v
theorem ZcR.window {X v n k:Nat} {rs qs:List Nat} (h:ZcR X v n (k + 1) rs qs) (hv:v≤W64 ^ n) (hk:k + n < rs.length) :
 val W64 (rs.drop k)=val W64 ((rs.drop k).take (n + 1))∧val W64 (rs.drop k) < v * W64∧val W64 (rs.drop (k + n + 1))=0:=by
 obtain ⟨h1,h2,h3,h4,h5⟩:=h
 have hz:val W64 (rs.drop (k + n + 1))=0:=by
  have e:=ZaJ (B:=W64) (xs:=rs.drop (k + 1)) n
  rw [List.drop_drop,show k + 1 + n=k + n + 1 by omega,Nat.min_eq_left (by simp; omega)] at e
  rcases Nat.eq_zero_or_pos (val W64 (rs.drop (k + n + 1))) with h | h
  ·exact h
  ·have:W64 ^ n * 1≤W64 ^ n * val W64 (rs.drop (k + n + 1)):=Nat.mul_le_mul_left _ h
   omega
 refine ⟨?_,?_,hz⟩
 ·have e:=ZaJ (B:=W64) (xs:=rs.drop k) (n + 1)
  rw [List.drop_drop,show k + (n + 1)=k + n + 1 by omega,hz] at e
  simpa using e
 ·rw [ZaK k (by omega)]
  have hd:=h1.getD Zar k
  have:W64 * (val W64 (rs.drop (k + 1)) + 1)≤W64 * v:=Nat.mul_le_mul_left _ h5
  rw [Nat.mul_add] at this
  rw [Nat.mul_comm v]
  omega
theorem ZcR.step {X v n k q:Nat} {rs qs m:List Nat} (h:ZcR X v n (k + 1) rs qs) (hv0:0 < v) (hv:v≤W64 ^ n) (hk:k + n < rs.length) (hm:m.length=n) (hd:Dig W64 m) (hq:q=val W64 (rs.drop k) / v) (hr:val W64 m=val W64 (rs.drop k) % v) :
 ZcR X v n k (rs.take k ++ m ++ (0 :: rs.drop (k + n + 1))) (qs.set k q):=by
 obtain ⟨w1,w2,w3⟩:=h.window hv hk
 obtain ⟨h1,h2,h3,h4,h5⟩:=h
 have hkq:k < qs.length:=by omega
 have hqW:q < W64:=by rw [hq,Nat.div_lt_iff_lt_mul hv0,Nat.mul_comm]; exact w2
 have hlk:(rs.take k).length=k:=by simp; omega
 have hnew:val W64 (m ++ (0 :: rs.drop (k + n + 1)))=val W64 m:=by
  rw [Zbx,Zc5,w3]; simp
 have hdrop:(rs.take k ++ m ++ (0 :: rs.drop (k + n + 1))).drop k=m ++ (0 :: rs.drop (k + n + 1)):=by
  rw [List.append_assoc,List.drop_append,hlk,List.drop_of_length_le (by omega),Nat.sub_self]; simp
 refine ⟨((h1.take k).append hd).append (Dig.cons Zar (h1.drop _)),h2.set k hqW,?_,?_,?_⟩
 ·simp [hm]; omega
 ·rw [List.append_assoc,Zbx,hlk,hnew,hr]
  rw [ZaK (xs:=qs.set k q) k (by simpa using hkq),List.drop_set_of_lt (by omega)]
  have eq0:(qs.set k q)[k]?.getD 0=q:=by rw [List.getElem?_set_self hkq]; rfl
  rw [eq0]
  have e1:=ZaJ (B:=W64) (xs:=rs) k
  rw [Nat.min_eq_left (by omega)] at e1
  have e2:=Nat.div_add_mod (val W64 (rs.drop k)) v
  rw [← hq] at e2
  have e3:=congrArg (W64 ^ k * ·) e2
  simp only [Nat.mul_add] at e3
  rw [Nat.add_mul,Nat.add_mul]
  have e4:q * W64 ^ k * v=W64 ^ k * (v * q):=by rw [Nat.mul_comm q,Nat.mul_assoc,Nat.mul_comm q]
  have e5:W64 * val W64 (qs.drop (k + 1)) * W64 ^ k * v=val W64 (qs.drop (k + 1)) * W64 ^ (k + 1) * v:=by
   rw [Nat.pow_succ,Nat.mul_comm W64 (val W64 _),Nat.mul_assoc (val W64 _) W64,Nat.mul_comm W64 (W64 ^ k)]
  rw [e4,e5]
  omega
 ·rw [hdrop,hnew,hr]; exact Nat.mod_lt _ hv0
theorem ZcR.done {X v n:Nat} {rs qs:List Nat} (h:ZcR X v n 0 rs qs):val W64 qs=X / v∧val W64 rs=X % v:=by
 obtain ⟨h1,h2,h3,h4,h5⟩:=h
 rw [List.drop_zero] at h4 h5
 simp only [Nat.pow_zero,Nat.mul_one] at h4
 rw [← h4,Nat.add_comm,Nat.mul_comm,Nat.mul_add_div (by omega),Nat.mul_add_mod,Nat.mod_eq_of_lt h5,Nat.div_eq_of_lt h5]
 exact ⟨by omega,rfl⟩
theorem ZcR.start {x y s L n:Nat} {rs:List Nat} (hd:Dig W64 rs) (hl:rs.length=L + 1) (hv:val W64 rs=x * 2 ^ s) (hx:x < W64 ^ L) (hy:W64 ^ (n - 1)≤y) (hn:1≤n) (hnL:n≤L) :
 ZcR (x * 2 ^ s) (y * 2 ^ s) n (L - n + 1) rs (List.replicate (L - n + 1) 0):=by
 refine ⟨hd,Dig.replicate Zar _,by simp; omega,?_,?_⟩
 ·rw [List.drop_of_length_le (by simp)]; simp [hv]
 ·have e:=ZaJ (B:=W64) (xs:=rs) (L - n + 1)
  rw [Nat.min_eq_left (by omega),hv] at e
  have hp:0 < 2 ^ s:=Nat.pow_pos (by omega)
  have h1:W64 ^ (L - n + 1) * val W64 (rs.drop (L - n + 1))≤x * 2 ^ s:=by omega
  have h2:x * 2 ^ s < W64 ^ L * 2 ^ s:=Nat.mul_lt_mul_of_pos_right hx hp
  have h3:W64 ^ L=W64 ^ (L - n + 1) * W64 ^ (n - 1):=by rw [← Nat.pow_add,show L - n + 1 + (n - 1)=L by omega]
  rw [h3,Nat.mul_assoc] at h2
  have h4:W64 ^ (L - n + 1) * val W64 (rs.drop (L - n + 1)) < W64 ^ (L - n + 1) * (W64 ^ (n - 1) * 2 ^ s):=by omega
  have h5:=Nat.lt_of_mul_lt_mul_left h4
  exact Nat.lt_of_lt_of_le h5 (Nat.mul_le_mul_right _ hy)
theorem Zof {ys vs:List Nat} {n yt s:Nat} (hl:ys.length=n + 1) (dy:Dig W64 ys) (ey:ys[n]?.getD 0=yt) (hyt:0 < yt) (hs:64 - Lib.bitLen yt=s) (dv:Dig W64 vs) (tv:Trim vs) (hv:val W64 vs=val W64 ys * 2 ^ s) :
 vs.length=n + 1∧W64≤2 * (vs[n]?.getD 0)∧W64 ^ n≤val W64 ys∧s≤63:=by
 have hytW:yt < W64:=ey ▸ dy.getD Zar _
 obtain ⟨l1,l2,l3,l4⟩:=Zdt hyt hytW
 have EY:val W64 ys=val W64 (ys.take n) + W64 ^ n * yt:=by
  have:=Zal (B:=W64) (xs:=ys) n (by omega)
  rw [List.take_of_length_le (by omega),ey] at this
  exact this
 have hlow:=ZaX (dy.take n)
 rw [List.length_take,Nat.min_eq_left (by omega)] at hlow
 have hp:0 < 2 ^ s:=Nat.pow_pos (by omega)
 have hhi:val W64 ys * 2 ^ s < W64 ^ (n + 1):=by
  have h1:val W64 ys < W64 ^ n * 2 ^ Lib.bitLen yt:=by
   have:W64 ^ n * (yt + 1)≤W64 ^ n * 2 ^ Lib.bitLen yt:=Nat.mul_le_mul_left _ l4
   rw [Nat.mul_add] at this
   omega
  have h2:=Nat.mul_lt_mul_of_pos_right h1 hp
  rw [Nat.mul_assoc,← Nat.pow_add,show Lib.bitLen yt + s=64 by omega] at h2
  rw [Nat.pow_succ,Zah] at *
  exact h2
 have hlo:W64 ^ n * 2 ^ 63≤val W64 ys * 2 ^ s:=by
  have h1:W64 ^ n * 2 ^ (Lib.bitLen yt - 1)≤val W64 ys:=by
   have:W64 ^ n * 2 ^ (Lib.bitLen yt - 1)≤W64 ^ n * yt:=Nat.mul_le_mul_left _ l3
   omega
  have h2:=Nat.mul_le_mul_right (2 ^ s) h1
  rw [Nat.mul_assoc,← Nat.pow_add,show Lib.bitLen yt - 1 + s=63 by omega] at h2
  exact h2
 have hlen1:vs.length≤n + 1:=Zb7 Zer tv (hv ▸ hhi)
 have hlen2:n + 1≤vs.length:=by
  rcases Nat.lt_or_ge vs.length (n + 1) with h | h
  ·have h1:=ZaX dv
   have h2:W64 ^ vs.length≤W64 ^ n:=Nat.pow_le_pow_right Zar (by omega)
   have h3:W64 ^ n * 1≤W64 ^ n * 2 ^ 63:=Nat.mul_le_mul_left _ (by decide)
   omega
  ·exact h
 refine ⟨by omega,?_,?_,by omega⟩
 ·have EV:val W64 vs=val W64 (vs.take n) + W64 ^ n * (vs[n]?.getD 0):=by
   have:=Zal (B:=W64) (xs:=vs) n (by omega)
   rw [List.take_of_length_le (by omega)] at this
   exact this
  have hlow2:=ZaX (dv.take n)
  rw [List.length_take,Nat.min_eq_left (by omega)] at hlow2
  have h1:W64 ^ n * 2 ^ 63 < W64 ^ n * ((vs[n]?.getD 0) + 1):=by rw [Nat.mul_add]; omega
  have h2:=Nat.lt_of_mul_lt_mul_left h1
  rw [Zah]
  omega
 ·have:W64 ^ n * 1≤W64 ^ n * yt:=Nat.mul_le_mul_left _ hyt
  omega
end Go.Proofs.YtcpjeaaapocoeaaGreatDoor

namespace Go.Proofs.YtcpjeaaapocoeaaGreatDoor
open Go.RowKit
def ZkS (w:World) (q r:Nat) (e:Ending) (w':World):Prop:=∃ u v,e=.returned (.tuple #[u,v])∧Zaq w' u q∧Zaq w' v r∧Ext w w'
def ZdC (w:World) (A A2:Option Addr) (q r:Nat) (e:Ending) (w':World):Prop:=∃ D m d B l c,e=.returned (.tuple #[.slice D m d, .slice B l c])∧Zaq w' (.slice D m d) q∧Zaq w' (.slice B l c) r∧Ext w w'∧∀ a,B=some a→w.heap.size≤a.block∨B=A∨B=A2
theorem ZdC.ret {w w':World} {A A2:Option Addr} {q r:Nat} {e:Ending} (h:ZdC w A A2 q r e w'):ZkS w q r e w':=by
 obtain ⟨D,m,d,B,l,c,rfl,h1,h2,h3,_⟩:=h
 exact ⟨_,_,rfl,h1,h2,h3⟩
theorem ZeH {a b:Nat}:cmpI a b < 0 ↔ a < b:=by
 unfold cmpI
 split
 ·omega
 ·split<;>omega
set_option maxHeartbeats 1000000 in
theorem ZiC (A:Option Addr) (l c:Nat) (yv:Value) (x y:Nat) (w:World) (hX:Zaq w (.slice A l c) x) (hY:Zaq w yv y) (hx:wl x≤4294967296) (hy:wl y≤4294967296) (hlt:x < y) :
 Calls Tryz.prog 361 #[.slice A l c,yv] w (ZdC w A A 0 x):=by
 have HX:=zh hX
 obtain ⟨_,xs,_,h,hc,h1,h2,h3,rfl⟩:=hX
 injection h with e1 e2 e3
 subst e1 e2 e3
 obtain ⟨A2,ys,c2,rfl,hc2,k1,k2,k3,rfl⟩:=hY
 rw [← Za0 h2 h3] at hx
 rw [← Za0 k2 k3] at hy
 have HC:=zh (ZcG A A2 xs ys _ _ c c2 w rfl rfl h1 k1 (by omega) (by omega) h2 k2 h3 k3)
 rw [Zcj (by omega)] at HC
 clear h1 h2 h3 k1 k2 k3 hlt hc hc2
 go_enter Tryz.func361,Tryz.ntmps361
 go_wp2_with (go_at_call 306; refine HC.out.mono ?_; rintro e w' ⟨rfl,m,rfl⟩)
 go_ret2
 exact ⟨none,0,0,_,_,_,rfl,Zaq.zero _,HX.out.ext ((Fr.refl _ _).drewN _),(Fr.refl _ _).drewN _,fun a _=>Or.inr (Or.inl rfl)⟩
set_option maxHeartbeats 1000000 in
theorem ZhQ (xv yv:Value) (x y:Nat) (w:World) (hX:Zaq w xv x) (hY:Zaq w yv y) (hx:wl x≤4294967296) (hy:wl y=1) (hge:y≤x) :
 Calls Tryz.prog 361 #[xv,yv] w (ZdC w none none (x / y) (x % y)):=by
 obtain ⟨A,xs,c,rfl,hc,h1,h2,h3,rfl⟩:=hX
 obtain ⟨A2,ys,c2,rfl,hc2,k1,k2,k3,rfl⟩:=hY
 rw [← Za0 h2 h3] at hx
 rw [← Za0 k2 k3] at hy
 obtain ⟨y,rfl⟩:=List.length_eq_one_iff.1 hy
 have HC:=zh (ZcG A A2 xs [y] _ _ c c2 w rfl rfl h1 k1 (by omega) (by simp) h2 k2 h3 k3)
 obtain ⟨cr,ecr⟩:∃ cr,cmpI (val W64 xs) (val W64 [y])=cr:=⟨_,rfl⟩
 have hcr:0≤cr:=by
  rcases Int.lt_or_le cr 0 with h | h
  ·rw [← ecr] at h; have:=ZeH.1 h; omega
  ·exact h
 rw [ecr] at HC
 have hyv:val W64 [y]=y:=by simp
 rw [hyv]
 have hy0:0 < y:=by have:=k3 0 (by simp); simp at this; omega
 have hyW:y < W64:=k2.head
 obtain ⟨b,o,rfl,_,hcy⟩:=k1.at (i:=0) (by simp)
 have hcy':w.cell? ⟨b,o,none⟩=some (.int .u64 (y:Int)):=by simpa using hcy
 have HD:=fun w' (hf:Ext w w')=>zh (Zi6 A xs _ c y w' rfl (h1.ext hf) hx h2 hy0 hyW)
 have HDH:=zh HD
 have hrW:Hid (val W64 xs % y < W64):=Nat.lt_trans (Nat.mod_lt _ hy0) hyW
 clear h1 h2 h3 k1 k2 k3 hc hc2 ecr hge hcy HD hy hyv hy0 hyW
 go_enter Tryz.func361,Tryz.ntmps361
 go_wp2_with (first
  | (go_at_call 306; refine HC.out.mono ?_; rintro e w' ⟨rfl,m,rfl⟩)
  | (go_at_call 393; refine (HDH.out _ ((Fr.refl _ _).drewN _)).out.mono ?_; rintro e w1 ⟨v,rfl,hN,hF⟩; have HN:=zh hN; have HF:=zh hF; clear hN hF)
  | (go_at_call 116; refine (ZfZ _ _ hrW.out).mono ?_; rintro e w2 ⟨B2,l2,c2,rfl,hN2,hF2,hL2⟩; have HN2:=zh hN2; have HF2:=zh hF2; have HL2:=zh hL2; clear hN2 hF2 hL2))
 go_ret2
 obtain ⟨D,m,d,rfl⟩:∃ D m d,v=.slice D m d:=by obtain ⟨D,xs',d,h,_⟩:=HN.out; exact ⟨D,_,d,h⟩
 exact ⟨D,m,d,B2,l2,c2,rfl,HN.out.ext HF2.out,HN2.out,(((Fr.refl _ _).drewN _).ext HF.out).ext HF2.out,fun a h=>(HL2.out a h).imp (Nat.le_trans (show Ext w _ from ((Fr.refl _ _).drewN _).ext HF.out).size) id⟩
theorem Zjc (pre m:List Nat) (rs:List Nat) (j n v:Nat) (hp:pre.length=j) (hm:m.length=n) (hr:j + n < rs.length):(pre ++ m ++ rs.drop (j + n)).set (j + n) v=pre ++ m ++ (v :: rs.drop (j + n + 1)):=by
 have hl:(pre ++ m).length=j + n:=by simp [hp,hm]
 rw [List.set_append_right _ _ (by omega),hl,Nat.sub_self,List.drop_eq_getElem_cons hr]
 rfl
theorem Zms (pre m:List Nat) (rs:List Nat) (j n:Nat) (hp:pre.length=j) (hm:m.length=n):(pre ++ m ++ rs.drop (j + n))[j + n]?.getD 0=rs[j + n]?.getD 0:=by
 have hl:(pre ++ m).length=j + n:=by simp [hp,hm]
 rw [List.getElem?_append_right (by omega),hl,Nat.sub_self,List.getElem?_drop]; rfl
theorem ZkT (pre m l:List Nat) (t v j n:Nat) (hp:pre.length=j) (hm:m.length=n):(pre ++ m ++ (t :: l)).set (j + n) v=pre ++ m ++ (v :: l):=by
 have hl:(pre ++ m).length=j + n:=by simp [hp,hm]
 rw [List.set_append_right _ _ (by omega),hl,Nat.sub_self]
 rfl
theorem ZkU (pre m l:List Nat) (t j n:Nat) (hp:pre.length=j) (hm:m.length=n):(pre ++ m ++ (t :: l))[j + n]?.getD 0=t:=by
 have hl:(pre ++ m).length=j + n:=by simp [hp,hm]
 rw [List.getElem?_append_right (by omega),hl,Nat.sub_self]
 rfl
set_option maxHeartbeats 4000000 in
theorem Zhn (A A2:Option Addr) (xs ys:List Nat) (c c2 kk:Nat) (w:World) (hX:Zan .u64 w A xs) (hY:Zan .u64 w A2 ys) (hc:xs.length≤c) (hc2:ys.length≤c2) (hl:xs.length≤4294967296) (hk:ys.length=kk + 2)
 (dx:Dig W64 xs) (dy:Dig W64 ys) (tx:Trim xs) (ty:Trim ys) (hge:val W64 ys≤val W64 xs) :
 Calls Tryz.prog 361 #[.slice A xs.length c, .slice A2 ys.length c2] w (ZdC w none none (val W64 xs / val W64 ys) (val W64 xs % val W64 ys)):=by
 have hlxy:kk + 2≤xs.length:=by
  have:=Zes hge
  rw [← Za0 dx tx,← Za0 dy ty] at this
  omega
 have HC:=zh (ZcG A A2 xs ys _ _ c c2 w rfl rfl hX hY (by omega) (by omega) dx dy tx ty)
 obtain ⟨cr,ecr⟩:∃ cr,cmpI (val W64 xs) (val W64 ys)=cr:=⟨_,rfl⟩
 have hcr:0≤cr:=by
  rcases Int.lt_or_le cr 0 with h | h
  ·rw [← ecr] at h; have:=ZeH.1 h; omega
  ·exact h
 rw [ecr] at HC
 clear ecr
 obtain ⟨bY,oY,rfl,_,hct⟩:=hY.at (i:=kk + 1) (by omega)
 obtain ⟨yt,eyt⟩:∃ yt,ys[kk + 1]?.getD 0=yt:=⟨_,rfl⟩
 rw [eyt] at hct
 have hyt0:0 < yt:=by have:=ty (kk + 1) (by omega); omega
 have hytW:Hid (yt < W64):=eyt ▸ dy.getD Zar _
 obtain ⟨s,hs⟩:∃ s,64 - Lib.bitLen yt=s:=⟨_,rfl⟩
 have hbl:=Zdt hyt0 hytW.out
 have hsI:Hid (64 - (Lib.bitLen yt:Int)=(s:Int)):=by unfold Hid; omega
 have hs63:s≤63:=by omega
 have NX:Hid (Zaq w (.slice A xs.length c) (val W64 xs)):=⟨A,xs,c,rfl,hc,hX,dx,tx,rfl⟩
 have NY:Hid (Zaq w (.slice (some ⟨bY,oY,none⟩) ys.length c2) (val W64 ys)):=⟨_,ys,c2,rfl,hc2,hY,dy,ty,rfl⟩
 have wlX:Hid (wl (val W64 xs)≤4294967296):=by unfold Hid; rw [← Za0 dx tx]; omega
 have wlY:Hid (wl (val W64 ys)≤4294967296):=by unfold Hid; rw [← Za0 dy ty]; omega
 have Hdx:=zh dx
 have Hdy:=zh dy
 have HS:=zh hs
 have HEY:=zh eyt
 have HK:=zh hk
 clear hX hY hc hc2 dx dy tx ty hge hbl hs eyt
 obtain ⟨n,hn⟩:∃ n,ys.length=n:=⟨_,rfl⟩
 rw [hn] at HC NY
 rw [hn] at HK
 rw [hn]
 have HN:=zh hn
 have hn2:n=kk + 2:=HK.out
 subst hn2
 clear hn hk HK
 have hone:(((kk:Int) + 2) == 1)=false:=by simp; omega
 have hcrB:decide (cr < 0)=false:=by rw [decide_eq_false_iff_not]; omega
 go_enter Tryz.func361,Tryz.ntmps361
 go_wp2_with (first
  | (go_at_call 306; refine HC.out.mono ?_; rintro e w' ⟨rfl,m,rfl⟩)
  | (go_at_call 359; refine (Zez _ _ hytW.out).mono ?_; rintro e w' ⟨rfl,rfl⟩; rw [hsI.out]))
 refine (Zf0 _ _ s _ (NY.out.ext ((Fr.refl _ _).drewN _)) wlY.out (by omega)).mono ?_
 rintro e wD ⟨vD,rfl,hND,hFD⟩
 obtain ⟨AD,vs,cD,rfl,hcD,hSD,dvs,tvs,hvv⟩:=hND
 obtain ⟨n1,n2,n3,n4⟩:=Zof (n:=kk + 1) HN.out Hdy.out HEY.out hyt0 HS.out dvs tvs hvv
 have HSD:=zh hSD
 have Hdv:=zh dvs
 have HFD:Hid (Ext w wD):=((Fr.refl _ _).drewN _).ext hFD
 have Hvv:=zh hvv
 have Hn1:=zh n1
 have Hn2:=zh n2
 have Hn3:=zh n3
 rw [n1]
 clear hSD dvs tvs hvv hFD n1 n2 n3 n4 hcD hct HC hyt0 hytW hsI HS HEY
 go_wp2_with (at_make
              refine ZaY rfl _ _ _ rfl _ _ _ Tryz.underlying133 ZdM _ _ _ _ (xs.length + 1) rfl rfl (by omega) (by omega) (by omega) (by omega) ?_
              intro R w1 hR hO1 _ hF1 hs1
              have HO1:Hid (Own .u64 217 w1 R ([] ++ List.replicate (xs.length + 1) 0 ++ [])):=by simpa [Hid] using hO1
              have HF1:=zh hF1
              have HR:=zh hR
              clear hO1 hF1 hR hs1)
 refine (Zf0 _ _ s _ (NX.out.ext (HFD.out.ext HF1.out)) wlX.out (by omega)).mono ?_
 rintro e w2 ⟨v2,rfl,hN2,hF2⟩
 obtain ⟨A3,x2,c3,rfl,hc3,hS3,d3,t3,hv3⟩:=hN2
 have HS3:=zh hS3
 have HF2:=zh hF2
 have Hd3:=zh d3
 have Hv3:=zh hv3
 have Hl3:Hid (x2.length≤xs.length + 1):=by
  unfold Hid
  refine Zb7 Zer t3 ?_
  rw [hv3,Nat.pow_succ]
  have h1:=ZaX Hdx.out
  have h2:2 ^ s≤W64:=by rw [Zah]; exact Nat.le_trans (Nat.pow_le_pow_right (by omega) hs63) (by decide)
  exact Nat.lt_of_lt_of_le (Nat.mul_lt_mul_of_pos_right h1 (Nat.pow_pos (by omega))) (Nat.mul_le_mul_left _ h2)
 clear hS3 hF2 d3 t3 hv3 hc3 NX wlX NY wlY
 go_wp2_with (first
  | (with_reducible refine Zhm rfl (.tmp 57) (.tmp 60) _ _ rfl _ _ Tryz.underlying133 Zqh _ _ _ _ _ _ rfl rfl R [] (List.replicate (xs.length + 1) 0) [] x2 (by simp) rfl (HO1.out.ext HF2.out) HS3.out (fun _=>rfl) ?_
     intro w3 z hO3 _ hF3 hs3
     have HO3:=zh hO3
     have HF3:=zh hF3
     clear hO3 hF3 hs3)
  | (at_make
     refine ZaY rfl _ _ _ rfl _ _ _ Tryz.underlying133 ZdM _ _ _ _ (xs.length - (kk + 2) + 1) rfl rfl (by omega) (by omega) (by omega) (by omega) ?_
     intro Qb w4 hQ hO4 _ hF4 hs4
     have HO4:=zh hO4
     have HF4:=zh hF4
     have HQ:=zh hQ
     clear hO4 hF4 hQ hs4))
 have hRlt:Hid (R < Qb):=by
  have h1:=HO3.out.lt
  have h2:=HQ.out
  unfold Hid; omega
 have hV:Hid (val W64 vs≤W64 ^ (kk + 2)):=by
  have:=ZaX Hdv.out
  rw [Hn1.out] at this
  exact Nat.le_of_lt this
 have hV0:Hid (0 < val W64 vs):=by
  rw [Hvv.out]
  have h1:=Hn3.out
  have h2:=Nat.pow_pos (n:=kk + 1) Zar
  exact Nat.mul_pos (by omega) (Nat.pow_pos (by omega))
 obtain ⟨X,eX⟩:∃ X,val W64 xs * 2 ^ s=X:=⟨_,rfl⟩
 have HX:=zh eX
 have hst:Hid (∃ rs,Own .u64 217 w4 R rs∧rs.length=xs.length + 1∧ZcR X (val W64 vs) (kk + 2) (xs.length - (kk + 2) + 1) rs (List.replicate (xs.length - (kk + 2) + 1) 0)):=by
  refine ⟨x2 ++ List.replicate (xs.length + 1 - x2.length) 0,?_,?_,?_⟩
  ·have h:=HO3.out
   rw [List.take_of_length_le (by simp; exact Hl3.out),List.drop_replicate] at h
   have h':Own .u64 217 w3 R (x2 ++ List.replicate (xs.length + 1 - x2.length) 0):=by simpa using h
   exact h'.ext HF4.out
  ·have:=Hl3.out
   simp; omega
  ·rw [← HX.out,Hvv.out]
   refine ZcR.start (L:=xs.length) (Hd3.out.append (Dig.replicate Zar _)) (by have:=Hl3.out; simp; omega) ?_ (ZaX Hdx.out) (by simpa using Hn3.out) (by omega) hlxy
   rw [Zbx,ZbV,Hv3.out]; simp
 have HFw:Hid (Ext wD w4):=by
  have h1:=HR.out
  exact ((HF1.out.ext HF2.out).next HF3.out (fun i hi e=>by omega)).ext HF4.out
 clear HO3 HF3 HS3 Hd3 Hv3 Hl3 HF1 HF2 HF4 HO1 hone eX
 obtain ⟨V,eV⟩:∃ V,val W64 vs=V:=⟨_,rfl⟩
 have HV:=zh eV
 rw [eV] at hV hV0 hst
 clear eV
 go_loopw [13] (fun i wr=>∃ (k:Nat) (rs qs:List Nat),k≤xs.length - (kk + 2) + 1∧i=.int .i64 ((k:Int) - 1)∧Hid (ZcR X V (kk + 2) k rs qs)∧Hid (rs.length=xs.length + 1)∧Hid (Own .u64 217 wr R rs)∧Hid (Own .u64 217 wr Qb qs)∧Hid (Ext wD wr)) (fun i _=>(intOf i + 1).toNat)
 case atStart =>
  obtain ⟨rs,h1,h2,h3⟩:=hst.out
  exact ⟨xs.length - (kk + 2) + 1,rs,_,Nat.le_refl _,by go_num,h3,h2,h1,HO4.out,HFw.out⟩
 case round =>
  clear hst HO4 HFw
  obtain ⟨k,rs,qs,hk,rfl,hR,hrl,hO1,hO2,hF1⟩:=hrel
  by_cases hlt:0 < k
  ·obtain ⟨j,rfl⟩:∃ j,k=j + 1:=⟨k - 1,by omega⟩
   have ej:(((j + 1:Nat):Int) - 1)=(j:Int):=by omega
   rw [ej]
   clear ej
   have hjr:j + (kk + 2) < xs.length + 1:=by omega
   have hrl':=hrl.out
   obtain ⟨q1,q2,q3⟩:=hR.out.window hV.out (by omega)
   have hwl:((rs.drop j).take (kk + 3)).length=kk + 3:=by simp; omega
   have HSV:Hid (Zan .u64 wr AD vs):=HSD.out.ext hF1.out
   have HEst:=zh (ZkR (some ⟨R,j,none⟩) AD ((rs.drop j).take (kk + 3)) vs (j + (kk + 2) + 1 - j) (kk + 1 + 1) (xs.length + 1 - j) cD kk wr (by omega) Hn1.out (hO1.out.shows j (kk + 3)) HSV.out Hn1.out hwl (by omega) ((hR.out.1.drop j).take _) Hdv.out Hn2.out (by rw [← q1,HV.out]; exact q2))
   rw [← q1,HV.out] at HEst
   have Hq2:=zh q2
   clear q1 q2 q3 hwl hrl'
   go_wp2_with fail
   (with_reducible refine HEst.out.mono ?_)
   rintro e w5 ⟨d,rfl,hdW,hdig,n5,rfl⟩
   clear HEst
   have hAR:Hid (∀ a,AD=some a→a.block≠R):=by
    intro a ha
    obtain ⟨b',o',e',hb',_⟩:=HSD.out.at (i:=0) (by rw [Hn1.out]; omega)
    rw [e'] at ha; injection ha with ha; subst ha
    have:=HR.out
    show b'≠R
    omega
   have hrl':=hrl.out
   have HO3:Hid (Own .u64 217 (wr.drewN n5) R (rs.take j ++ (rs.drop j).take (kk + 2) ++ rs.drop (j + (kk + 2)))):=by rw [ZnT]; exact hO1.out.drewN _
   have HMs:=zh (Zf9 R (xs.length + 1 - j) cD j (kk + 2) (kk + 1 + 1) d (rs.take j) ((rs.drop j).take (kk + 2)) (rs.drop (j + (kk + 2))) vs AD (wr.drewN n5) (by simp; omega) (by simp; omega) Hn1.out HO3.out (HSV.out.drewN _) hAR.out (by rw [Hn1.out]; simp; omega) (by simp; omega) ((hR.out.1.drop j).take _) Hdv.out hdW)
   have Hdig:=zh hdig
   have HdW:=zh hdW
   clear HO3 hdW hdig hrl'
   go_wp2_with fail
   (with_reducible refine HMs.out.mono ?_)
   rintro e w6 ⟨br,rfl,hbrW,hF6,_,m,hO6,hml,hdm,hms⟩
   clear HMs
   have hrl':=hrl.out
   have hml':m.length=kk + 2:=by rw [hml]; simp; omega
   have hlp:(rs.take j).length=j:=by simp; omega
   have hlen6:j + (kk + 2) < (rs.take j ++ m ++ rs.drop (j + (kk + 2))).length:=by simp; omega
   have hct:=hO6.cell hlen6
   have hft:=hO6.frozen (j + (kk + 2))
   rw [Zms _ _ _ _ _ hlp hml'] at hct
   obtain ⟨top,etop⟩:∃ top,rs[j + (kk + 2)]?.getD 0=top:=⟨_,rfl⟩
   rw [etop] at hct
   have hu:val W64 (rs.drop j)=val W64 ((rs.drop j).take (kk + 2)) + W64 ^ (kk + 2) * top:=by
    obtain ⟨q1,_,_⟩:=hR.out.window hV.out (by omega)
    rw [q1,Zal (kk + 2) (by simp; omega),List.getElem?_drop,etop]
   have hms':val W64 m + V * d=val W64 ((rs.drop j).take (kk + 2)) + W64 ^ (kk + 2) * br:=by
    have h:=hms
    unfold ZkG at h
    rw [HV.out] at h
    have e:((rs.drop j).take (kk + 2)).length=kk + 2:=by simp; omega
    rw [e] at h
    exact h
   have hQF:Hid (Own .u64 217 w6 Qb qs):=(hO2.out.drewN n5).fr hF6 (by have:=hRlt.out; omega)
   have HF6:Hid (Ext wD w6):=(hF1.out.drewN n5).next hF6 (fun i hi e=>by have:=HR.out; omega)
   have HSV6:Hid (Zan .u64 w6 AD vs):=(HSV.out.drewN n5).fr hF6 (fun a ha _=>hAR.out a ha)
   have hql:qs.length=xs.length - (kk + 2) + 1:=by have:=hR.out.2.2.1; omega
   have hmP:val W64 m < W64 ^ (kk + 2):=by have:=ZaX hdm; rw [hml'] at this; exact this
   have hjq:j < qs.length:=by omega
   by_cases hle:br≤top
   ·obtain ⟨k1,k2,k3⟩:=ZiB hV.out hu Hdig.out hms' hle
    have HR2:=zh (hR.out.step hV0.out hV.out (by omega) hml' hdm k1 k2)
    subst k3
    have g1:IntKind.u64.wrap ((top:Int) - (top:Int))=0:=by rw [Int.sub_self]; rfl
    have t1:=Zcs (a:=top) (b:=top) (by omega)
    have hO7:=hO6.set (j + (kk + 2)) 0 hlen6
    rw [Zjc _ _ _ _ _ _ hlp hml' (by omega)] at hO7
    have hF7:Fr (· = R) w6 (w6.setCell ⟨R,j + (kk + 2),none⟩ (.int .u64 ((0:Nat):Int))):=(Fr.refl (· = R) w6).setCell (p:=⟨R,j + (kk + 2),none⟩) (Or.inl rfl) _
    have hO8:=hQF.out.fr hF7 (by have:=hRlt.out; omega)
    have hcq:=hO8.cell hjq
    have hfq:=hO8.frozen j
    obtain ⟨z0,ez0⟩:∃ z0,qs[j]?.getD 0=z0:=⟨_,rfl⟩
    rw [ez0] at hcq
    have HO9:=zh (hO8.set j d hjq)
    have HO10:=zh (hO7.far (p:=⟨Qb,j,none⟩) (by have:=hRlt.out; show R≠Qb; omega) (.int .u64 (d:Int)))
    have HF10:Hid (Ext wD ((w6.setCell ⟨R,j + (kk + 2),none⟩ (.int .u64 ((0:Nat):Int))).setCell ⟨Qb,j,none⟩ (.int .u64 (d:Int)))):=(HF6.out.next hF7 (fun i hi e=>by have:=HR.out; omega)).setCell (Or.inr (by have:=HR.out; have:=hRlt.out; show wD.heap.size≤Qb; omega)) _
    have hnl:Hid ((rs.take j ++ m ++ (0 :: rs.drop (j + (kk + 2) + 1))).length=xs.length + 1):=by unfold Hid; simp; omega
    clear hbrW hF6 hO6 hml hdm hms hrl' hml' hlp hlen6 etop hu hms' hmP k1 k2 hO7 hF7 hO8 ez0 hle
    simp only [Int.ofNat_zero] at *
    go_wp2
    go_roundw
    case rel=>exact ⟨j,_,_,by omega,rfl,HR2,hnl,HO10.out,HO9.out,HF10.out⟩
    case measure=>simp [intOf]
   ·have hd0:0 < d:=by
     rcases Nat.eq_zero_or_pos d with e | e
     ·subst e
      have:W64 ^ (kk + 2) * 1≤W64 ^ (kk + 2) * br:=Nat.mul_le_mul_left _ (by omega)
      omega
     ·exact e
    have g2:=ZbS hd0 HdW.out
    obtain ⟨d1,ed1⟩:∃ d1,d - 1=d1:=⟨_,rfl⟩
    rw [ed1] at g2
    obtain ⟨t2,g1,k1⟩:=Zig ((top:Int) - (br:Int))
    have t1:=ZcT (a:=top) (b:=br) (by omega)
    have hO7:=hO6.set (j + (kk + 2)) t2 hlen6
    rw [Zjc _ _ _ _ _ _ hlp hml' (by omega)] at hO7
    have hF7:Fr (· = R) w6 (w6.setCell ⟨R,j + (kk + 2),none⟩ (.int .u64 (t2:Int))):=(Fr.refl (· = R) w6).setCell (p:=⟨R,j + (kk + 2),none⟩) (Or.inl rfl) _
    have HO7:=zh hO7
    have HF7:=zh hF7
    have HO8:=zh (hQF.out.fr hF7 (by have:=hRlt.out; omega))
    have HSV7:Hid (Zan .u64 (w6.setCell ⟨R,j + (kk + 2),none⟩ (.int .u64 (t2:Int))) AD vs):=HSV6.out.fr hF7 (fun a ha _=>hAR.out a ha)
    have HF8:Hid (Ext wD (w6.setCell ⟨R,j + (kk + 2),none⟩ (.int .u64 (t2:Int)))):=HF6.out.next hF7 (fun i hi e=>by have:=HR.out; omega)
    have Hdm:=zh hdm
    have Hml:=zh hml'
    have Hlp:=zh hlp
    have Hu:=zh hu
    have Hms:=zh hms'
    have HmP:=zh hmP
    have Hk1:=zh k1
    have Hd1:=zh ed1
    have Hql:=zh hql
    have hlt2:top < br:=by omega
    clear hbrW hF6 hO6 hml hdm hms hrl' hml' hlp hlen6 etop hu hms' hmP k1 hO7 hF7 hle ed1 hql HSV6 HF6 hQF
    go_wp2
    generalize hw7:w6.setCell ⟨R,j + (kk + 2),none⟩ (.int .u64 (t2:Int))=w7 at *
    clear hw7 hct hft g1 g2 t1
    obtain ⟨wo,rfl⟩:∃ wo:World,wo=wr:=⟨_,rfl⟩
    go_loopw [17,115] (fun cv iv wr=>∃ (kx cc:Nat) (m2:List Nat),kx≤kk + 2∧iv=.int .i64 (kx:Int)∧cc≤1∧cv=.int .u64 (cc:Int)∧Hid (Zc6 m vs kx m2 cc)∧Hid (Own .u64 217 wr R (rs.take j ++ m2 ++ (t2 :: rs.drop (j + (kk + 2) + 1))))∧Hid (Fr (· = R) w7 wr)) (fun _ iv _=>kk + 2 - (intOf iv).toNat)
    case atStart=>exact ⟨0,0,m,by omega,rfl,by omega,rfl,Zc6.start _ _ Hdm.out,HO7.out,Fr.refl _ _⟩
    case round =>
     obtain ⟨kx,cc,m2,hkx,rfl,hcc,rfl,hA2,hO11,hF11⟩:=hrel
     have hm2l:m2.length=kk + 2:=by rw [hA2.out.1]; exact Hml.out
     by_cases hlt3:kx < kk + 2
     ·obtain ⟨b3,o3,rfl,_,hcv⟩:=(HSV7.out.fr hF11.out (fun a ha _=>hAR.out a ha)).at (i:=kx) (by rw [Hn1.out]; omega)
      obtain ⟨y,ey⟩:∃ y,vs[kx]?.getD 0=y:=⟨_,rfl⟩
      obtain ⟨z,ez⟩:∃ z,m2[kx]?.getD 0=z:=⟨_,rfl⟩
      have hkm:kx < m2.length:=by omega
      have hcz:=hO11.out.mid (k:=kx) hkm
      have hfz:=hO11.out.frozen (j + kx)
      rw [Hlp.out] at hcz
      rw [ey] at hcv
      rw [ez] at hcz
      have HR3:=zh (hA2.out.step (by rw [Hml.out]; omega) ez ey (by rw [Hn1.out]; omega))
      have hle3:Zdg z y cc≤1:=Zpd (ez ▸ hA2.out.2.2.1.getD Zar kx) (ey ▸ Hdv.out.getD Zar kx) hcc
      have HO12:=zh (hO11.out.set_mid hkm (Zds z y cc))
      rw [Hlp.out] at HO12
      have ha:=ZjF z y cc hcc
      clear ey ez hm2l
      go_wp2
      go_roundw
      case rel=>exact ⟨kx + 1,_,_,by omega,by go_num,hle3,rfl,HR3,HO12.out,hF11.out.setCell (p:=⟨R,j + kx,none⟩) (Or.inl rfl) _⟩
      case measure=>simp [intOf]; omega
     ·obtain rfl:kx=kk + 2:=by omega
      have hsum:=hA2.out.done (by rw [Hn1.out]; omega) (by rw [Hml.out]; omega) (Or.inr Hml.out.symm)
      rw [Hml.out,HV.out] at hsum
      obtain ⟨_,k2,k3,k4⟩:=ZjR hV0.out hV.out Hu.out Hdig.out Hms.out hlt2 HmP.out hsum (by have:=ZaX hA2.out.2.2.1; rw [hm2l] at this; exact this)
      have g3:IntKind.u64.wrap ((t2:Int) + (cc:Int))=0:=by
       have h1:=Hk1.out
       rw [IntKind.wrap_u64]
       omega
      rw [Hd1.out] at k2
      have hrl':=hrl.out
      have hql':=Hql.out
      have hlen2:j + (kk + 2) < (rs.take j ++ m2 ++ (t2 :: rs.drop (j + (kk + 2) + 1))).length:=by simp; omega
      have hct:=hO11.out.cell hlen2
      have hft:=hO11.out.frozen (j + (kk + 2))
      rw [ZkU _ _ _ _ _ _ Hlp.out hm2l] at hct
      have hO13:=hO11.out.set (j + (kk + 2)) 0 hlen2
      rw [ZkT _ _ _ _ _ _ _ Hlp.out hm2l] at hO13
      have hF13:Fr (· = R) w7 (wr.setCell ⟨R,j + (kk + 2),none⟩ (.int .u64 ((0:Nat):Int))):=hF11.out.setCell (p:=⟨R,j + (kk + 2),none⟩) (Or.inl rfl) _
      have hO14:=HO8.out.fr hF13 (by have:=hRlt.out; omega)
      have hjq:j < qs.length:=by omega
      have hcq:=hO14.cell hjq
      have hfq:=hO14.frozen j
      obtain ⟨z0,ez0⟩:∃ z0,qs[j]?.getD 0=z0:=⟨_,rfl⟩
      rw [ez0] at hcq
      have HR2:=zh (hR.out.step hV0.out hV.out (by omega) hm2l hA2.out.2.2.1 k2 k3)
      have HO15:=zh (hO14.set j d1 hjq)
      have HO16:=zh (hO13.far (p:=⟨Qb,j,none⟩) (by have:=hRlt.out; show R≠Qb; omega) (.int .u64 (d1:Int)))
      have HF16:Hid (Ext wD ((wr.setCell ⟨R,j + (kk + 2),none⟩ (.int .u64 ((0:Nat):Int))).setCell ⟨Qb,j,none⟩ (.int .u64 (d1:Int)))):=(HF8.out.next hF13 (fun i hi e=>by have:=HR.out; omega)).setCell (Or.inr (by have:=HR.out; have:=hRlt.out; show wD.heap.size≤Qb; omega)) _
      have hnl:Hid ((rs.take j ++ m2 ++ (0 :: rs.drop (j + (kk + 2) + 1))).length=xs.length + 1):=by unfold Hid; simp; omega
      clear hsum k2 k3 k4 hrl' hql' hlen2 hO13 hF13 hO14 ez0 hm2l
      simp only [Int.ofNat_zero] at *
      go_wp2
      go_roundw
      case rel=>exact ⟨j,_,_,by omega,rfl,HR2,hnl,HO16.out,HO15.out,HF16.out⟩
      case measure=>simp [intOf]
  ·obtain rfl:k=0:=by omega
   obtain ⟨k1,k2⟩:=hR.out.done
   have hql:qs.length=xs.length - (kk + 2) + 1:=by have:=hR.out.2.2.1; have:=hrl.out; omega
   have hsh:=Zge (val W64 xs) (val W64 ys) (2 ^ s) (Nat.pow_pos (by omega))
   have NQ:=Zaq.of_own (c:=xs.length - (kk + 2) + 1) hO2.out hR.out.2.1 (by omega)
   have NR:=Zaq.of_own (c:=xs.length + 1) hO1.out hR.out.1 (by have:=hrl.out; omega)
   rw [k1,← HX.out,← HV.out,Hvv.out,hsh.1] at NQ
   rw [k2,← HX.out,← HV.out,Hvv.out] at NR
   have HNQ:=zh NQ
   have HNR:=zh NR
   have HT1:=zh (ZcF _ qs (xs.length - (kk + 2) + 1) (xs.length - (kk + 2) + 1) wr hql hO2.out.shows0 (by omega) (by omega))
   have HT2:=zh (ZcF _ rs (xs.length + 1) (xs.length + 1) wr hrl.out hO1.out.shows0 (by have:=hrl.out; omega) (by have:=hrl.out; omega))
   have Hsh:=zh hsh.2
   have hwl:Hid (wl (val W64 xs * 2 ^ s % (val W64 ys * 2 ^ s))≤4294967296):=by
    refine Nat.le_trans ((Zc7 (k:=kk + 2)).2 ?_) (by omega)
    have h1:=Nat.mod_lt (val W64 xs * 2 ^ s) hV0.out
    rw [← HV.out,Hvv.out] at h1
    have h2:=hV.out
    rw [← HV.out,Hvv.out] at h2
    exact Nat.lt_of_lt_of_le h1 h2
   clear k1 k2 hql hsh NQ NR
   go_wp2_with fail
   (with_reducible refine HT1.out.mono ?_)
   rintro e w7 ⟨rfl,rfl⟩
   clear HT1
   go_wp2_with fail
   (with_reducible refine HT2.out.mono ?_)
   rintro e w7 ⟨rfl,rfl⟩
   clear HT2
   go_wp2_with fail
   (with_reducible refine (Zii _ _ s _ HNR.out hwl.out (by omega)).mono ?_)
   rintro e w7 ⟨B7,l7,c7,rfl,hN7,hF7,hL7⟩
   rw [Hsh.out] at hN7
   have HL7:=zh hL7
   have HN7:=zh hN7
   have HF7:=zh hF7
   clear hN7 hF7 hL7
   go_wp2
   go_ret2
   exact ⟨_,_,_,B7,l7,c7,rfl,HNQ.out.ext HF7.out,HN7.out,(HFD.out.ext hF1.out).ext HF7.out,fun a h=>(HL7.out a h).imp (Nat.le_trans (HFD.out.ext hF1.out).size) id⟩
theorem Zho (A:Option Addr) (l c:Nat) (yv:Value) (x y:Nat) (w:World) (hX:Zaq w (.slice A l c) x) (hY:Zaq w yv y) (hx:wl x≤4294967296) (hy:wl y≤4294967296) (h0:0 < y) :
 Calls Tryz.prog 361 #[.slice A l c,yv] w (ZdC w A A (x / y) (x % y)):=by
 have hw:∀ e w',ZdC w none none (x / y) (x % y) e w'→ZdC w A A (x / y) (x % y) e w':=by
  rintro e w' ⟨D,m,d,B,l,c,h1,h2,h3,h4,h5⟩
  exact ⟨D,m,d,B,l,c,h1,h2,h3,h4,fun a ha=>Or.inl ((h5 a ha).elim id fun h=>by rcases h with h | h<;>rw [ha] at h<;>cases h)⟩
 rcases Nat.lt_or_ge x y with hlt | hge
 ·rw [Nat.div_eq_of_lt hlt,Nat.mod_eq_of_lt hlt]
  exact ZiC A l c yv x y w hX hY hx hy hlt
 ·have hp:=Zgg h0
  by_cases h1:wl y=1
  ·exact (ZhQ _ yv x y w hX hY hx h1 hge).mono hw
  ·obtain ⟨_,xs,_,h,hc,h1',h2,h3,rfl⟩:=hX
   injection h with e1 e2 e3
   subst e1 e2 e3
   obtain ⟨A2,ys,c2,rfl,hc2,k1,k2,k3,rfl⟩:=hY
   rw [← Za0 h2 h3] at hx
   rw [← Za0 k2 k3] at hy h1 hp
   exact (Zhn A A2 xs ys c c2 (ys.length - 2) w h1' k1 hc hc2 hx (by omega) h2 k2 h3 k3 hge).mono hw
theorem ZhR (xv yv:Value) (x y:Nat) (w:World) (hX:Zaq w xv x) (hY:Zaq w yv y) (hx:wl x≤4294967296) (hy:wl y≤4294967296) (h0:0 < y) :
 Calls Tryz.prog 361 #[xv,yv] w (ZkS w (x / y) (x % y)):=by
 obtain ⟨A,_,c,rfl,_⟩:=id hX
 exact (Zho _ _ _ yv x y w hX hY hx hy h0).mono fun _ _ h=>h.ret
set_option maxHeartbeats 400000 in
theorem ZeX (xv yv:Value) (x y:Nat) (w:World) (hX:Zaq w xv x) (hY:Zaq w yv y) (hx:wl x≤4294967296) (hy:wl y < 80) (h0:0 < y) :
 Calls Tryz.prog 309 #[xv,yv] w (ZkS w (x / y) (x % y)):=by
 have HD:=zh (ZhR xv yv x y w hX hY hx (by omega) h0)
 obtain ⟨A,xs,c,rfl,hc,h1',h2,h3,rfl⟩:=hX
 obtain ⟨A2,ys,c2,rfl,hc2,k1,k2,k3,rfl⟩:=hY
 rw [← Za0 k2 k3] at hy
 clear h1' h2 h3 k1 k2 k3 hc hc2
 go_enter Tryz.func309,Tryz.ntmps309
 go_wp2_with (go_at_call 361; refine HD.out.mono ?_; rintro e w1 ⟨u,v,rfl,hN1,hN2,hF⟩; have HN1:=zh hN1; have HN2:=zh hN2; have HF:=zh hF; clear hN1 hN2 hF)
 go_ret2
 exact ⟨_,_,rfl,HN1.out,HN2.out,HF.out⟩
end Go.Proofs.YtcpjeaaapocoeaaGreatDoor

namespace Go.Proofs.YtcpjeaaapocoeaaGreatDoor
def Zb0 (X v n k:Nat) (rs qs:List Nat):Prop :=
 Dig W32 rs∧Dig W32 qs∧rs.length=qs.length + n∧val W32 rs + val W32 (qs.drop k) * W32 ^ k * v=X∧val W32 (rs.drop k) < v
theorem Zb0.window {X v n k:Nat} {rs qs:List Nat} (h:Zb0 X v n (k + 1) rs qs) (hv:v≤W32 ^ n) (hk:k + n < rs.length) :
 val W32 (rs.drop k)=val W32 ((rs.drop k).take (n + 1))∧val W32 (rs.drop k) < v * W32∧val W32 (rs.drop (k + n + 1))=0:=by
 obtain ⟨h1,h2,h3,h4,h5⟩:=h
 have hz:val W32 (rs.drop (k + n + 1))=0:=by
  have e:=ZaJ (B:=W32) (xs:=rs.drop (k + 1)) n
  rw [List.drop_drop,show k + 1 + n=k + n + 1 by omega,Nat.min_eq_left (by simp; omega)] at e
  rcases Nat.eq_zero_or_pos (val W32 (rs.drop (k + n + 1))) with h | h
  ·exact h
  ·have:W32 ^ n * 1≤W32 ^ n * val W32 (rs.drop (k + n + 1)):=Nat.mul_le_mul_left _ h
   omega
 refine ⟨?_,?_,hz⟩
 ·have e:=ZaJ (B:=W32) (xs:=rs.drop k) (n + 1)
  rw [List.drop_drop,show k + (n + 1)=k + n + 1 by omega,hz] at e
  simpa using e
 ·rw [ZaK k (by omega)]
  have hd:=h1.getD Zao k
  have:W32 * (val W32 (rs.drop (k + 1)) + 1)≤W32 * v:=Nat.mul_le_mul_left _ h5
  rw [Nat.mul_add] at this
  rw [Nat.mul_comm v]
  omega
theorem Zb0.step {X v n k q:Nat} {rs qs m:List Nat} (h:Zb0 X v n (k + 1) rs qs) (hv0:0 < v) (hv:v≤W32 ^ n) (hk:k + n < rs.length) (hm:m.length=n) (hd:Dig W32 m) (hq:q=val W32 (rs.drop k) / v) (hr:val W32 m=val W32 (rs.drop k) % v) :
 Zb0 X v n k (rs.take k ++ m ++ (0 :: rs.drop (k + n + 1))) (qs.set k q):=by
 obtain ⟨w1,w2,w3⟩:=h.window hv hk
 obtain ⟨h1,h2,h3,h4,h5⟩:=h
 have hkq:k < qs.length:=by omega
 have hqW:q < W32:=by rw [hq,Nat.div_lt_iff_lt_mul hv0,Nat.mul_comm]; exact w2
 have hlk:(rs.take k).length=k:=by simp; omega
 have hnew:val W32 (m ++ (0 :: rs.drop (k + n + 1)))=val W32 m:=by
  rw [Zbx,Zc5,w3]; simp
 have hdrop:(rs.take k ++ m ++ (0 :: rs.drop (k + n + 1))).drop k=m ++ (0 :: rs.drop (k + n + 1)):=by
  rw [List.append_assoc,List.drop_append,hlk,List.drop_of_length_le (by omega),Nat.sub_self]; simp
 refine ⟨((h1.take k).append hd).append (Dig.cons Zao (h1.drop _)),h2.set k hqW,?_,?_,?_⟩
 ·simp [hm]; omega
 ·rw [List.append_assoc,Zbx,hlk,hnew,hr]
  rw [ZaK (xs:=qs.set k q) k (by simpa using hkq),List.drop_set_of_lt (by omega)]
  have eq0:(qs.set k q)[k]?.getD 0=q:=by rw [List.getElem?_set_self hkq]; rfl
  rw [eq0]
  have e1:=ZaJ (B:=W32) (xs:=rs) k
  rw [Nat.min_eq_left (by omega)] at e1
  have e2:=Nat.div_add_mod (val W32 (rs.drop k)) v
  rw [← hq] at e2
  have e3:=congrArg (W32 ^ k * ·) e2
  simp only [Nat.mul_add] at e3
  rw [Nat.add_mul,Nat.add_mul]
  have e4:q * W32 ^ k * v=W32 ^ k * (v * q):=by rw [Nat.mul_comm q,Nat.mul_assoc,Nat.mul_comm q]
  have e5:W32 * val W32 (qs.drop (k + 1)) * W32 ^ k * v=val W32 (qs.drop (k + 1)) * W32 ^ (k + 1) * v:=by
   rw [Nat.pow_succ,Nat.mul_comm W32 (val W32 _),Nat.mul_assoc (val W32 _) W32,Nat.mul_comm W32 (W32 ^ k)]
  rw [e4,e5]
  omega
 ·rw [hdrop,hnew,hr]; exact Nat.mod_lt _ hv0
theorem Zb0.done {X v n:Nat} {rs qs:List Nat} (h:Zb0 X v n 0 rs qs):val W32 qs=X / v∧val W32 rs=X % v:=by
 obtain ⟨h1,h2,h3,h4,h5⟩:=h
 rw [List.drop_zero] at h4 h5
 simp only [Nat.pow_zero,Nat.mul_one] at h4
 rw [← h4,Nat.add_comm,Nat.mul_comm,Nat.mul_add_div (by omega),Nat.mul_add_mod,Nat.mod_eq_of_lt h5,Nat.div_eq_of_lt h5]
 exact ⟨by omega,rfl⟩
theorem Zb0.start {x y s L n:Nat} {rs:List Nat} (hd:Dig W32 rs) (hl:rs.length=L + 1) (hv:val W32 rs=x * 2 ^ s) (hx:x < W32 ^ L) (hy:W32 ^ (n - 1)≤y) (hn:1≤n) (hnL:n≤L) :
 Zb0 (x * 2 ^ s) (y * 2 ^ s) n (L - n + 1) rs (List.replicate (L - n + 1) 0):=by
 refine ⟨hd,Dig.replicate Zao _,by simp; omega,?_,?_⟩
 ·rw [List.drop_of_length_le (by simp)]; simp [hv]
 ·have e:=ZaJ (B:=W32) (xs:=rs) (L - n + 1)
  rw [Nat.min_eq_left (by omega),hv] at e
  have hp:0 < 2 ^ s:=Nat.pow_pos (by omega)
  have h1:W32 ^ (L - n + 1) * val W32 (rs.drop (L - n + 1))≤x * 2 ^ s:=by omega
  have h2:x * 2 ^ s < W32 ^ L * 2 ^ s:=Nat.mul_lt_mul_of_pos_right hx hp
  have h3:W32 ^ L=W32 ^ (L - n + 1) * W32 ^ (n - 1):=by rw [← Nat.pow_add,show L - n + 1 + (n - 1)=L by omega]
  rw [h3,Nat.mul_assoc] at h2
  have h4:W32 ^ (L - n + 1) * val W32 (rs.drop (L - n + 1)) < W32 ^ (L - n + 1) * (W32 ^ (n - 1) * 2 ^ s):=by omega
  have h5:=Nat.lt_of_mul_lt_mul_left h4
  exact Nat.lt_of_lt_of_le h5 (Nat.mul_le_mul_right _ hy)
theorem Zbf {t:Nat} (ht:t≤31):2 ^ (32 - t) * 2 ^ t=W32:=by
 rw [← Nat.pow_add,show 32 - t + t=32 by omega,Zap]
theorem Zl0 {x t:Nat} (ht:t≤31):x * 2 ^ t=x * 2 ^ t % W32 + W32 * (x / 2 ^ (32 - t)):=by
 have h:=Nat.mod_add_div (x * 2 ^ t) W32
 have:x * 2 ^ t / W32=x / 2 ^ (32 - t):=by
  rw [← Zbf ht,Nat.mul_div_mul_right _ _ (Nat.pow_pos (by omega))]
 rw [this] at h
 exact h.symm
theorem ZpD {h x t:Nat} (hh:h < 2 ^ t) (ht:t≤31):h ||| x * 2 ^ t % W32=h + x * 2 ^ t % W32:=by
 have e:x * 2 ^ t % W32=(x % 2 ^ (32 - t)) <<< t:=by
  rw [Nat.shiftLeft_eq,← Zbf ht,Nat.mul_mod_mul_right]
 rw [e,Nat.or_comm,← Nat.shiftLeft_add_eq_or_of_lt hh,Nat.add_comm]
def ZcN (xs:List Nat) (skip t k:Nat) (zs:List Nat):Prop :=
 zs.length=xs.length + skip + 1∧Dig W32 zs∧val W32 (zs.take (k + skip + 1))=val W32 (xs.take k) * 2 ^ (32 * skip + t)∧(zs[k + skip]?.getD 0) < 2 ^ t
theorem ZcN.start (xs:List Nat) (skip t:Nat):ZcN xs skip t 0 (List.replicate (xs.length + skip + 1) 0):=by
 refine ⟨by simp,Dig.replicate Zao _,?_,?_⟩
 ·rw [List.take_replicate,ZbV]; simp
 ·have:((List.replicate (xs.length + skip + 1) 0)[0 + skip]?.getD 0)=0:=by
   rw [List.getElem?_replicate]; split<;>rfl
  rw [this]; exact Nat.pow_pos (by omega)
theorem ZcN.step {xs zs:List Nat} {skip t k h x:Nat} (hR:ZcN xs skip t k zs) (ht:t≤31) (hk:k < xs.length) (hh:zs[k + skip]?.getD 0=h) (hx:xs[k]?.getD 0=x) (hxW:x < W32) :
 ZcN xs skip t (k + 1) ((zs.set (k + skip) (h + x * 2 ^ t % W32)).set (k + skip + 1) (x / 2 ^ (32 - t)))∧h + x * 2 ^ t % W32 < W32:=by
 obtain ⟨h1,h2,h3,h4⟩:=hR
 rw [hh] at h4
 have hlt:h + x * 2 ^ t % W32 < W32:=by
  rw [← Zbf ht,Nat.mul_mod_mul_right]
  have:x % 2 ^ (32 - t) < 2 ^ (32 - t):=Nat.mod_lt _ (Nat.pow_pos (by omega))
  have h5:(x % 2 ^ (32 - t) + 1) * 2 ^ t≤2 ^ (32 - t) * 2 ^ t:=Nat.mul_le_mul_right _ this
  rw [Nat.add_mul] at h5
  omega
 have hhi:x / 2 ^ (32 - t) < 2 ^ t:=by
  rw [Nat.div_lt_iff_lt_mul (Nat.pow_pos (by omega)),← Nat.pow_add,show t + (32 - t)=32 by omega]
  rw [Zap] at hxW; exact hxW
 have hhi2:x / 2 ^ (32 - t) < W32:=Nat.lt_of_le_of_lt (Nat.div_le_self _ _) hxW
 refine ⟨⟨by simpa using h1,(h2.set _ hlt).set _ hhi2,?_,?_⟩,hlt⟩
 ·rw [show k + 1 + skip + 1=(k + skip + 1) + 1 by omega,ZaT _ _ _ _ (by simp; omega),ZaT _ _ _ _ (by omega),Zal k hk,hx,Nat.add_mul,← h3,Zal (k + skip) (by omega),hh]
  have e:=Zl0 (x:=x) ht
  have e2:W32 ^ k * x * 2 ^ (32 * skip + t)=W32 ^ (k + skip) * (x * 2 ^ t):=by
   rw [Nat.pow_add 2,← Zg7,Nat.pow_add]
   simp only [Nat.mul_assoc,Nat.mul_left_comm]
  rw [e2]
  have e3:=congrArg (W32 ^ (k + skip) * ·) e
  simp only [Nat.mul_add] at e3
  rw [Nat.mul_add,Nat.pow_succ,Nat.mul_assoc]
  omega
 ·have:((zs.set (k + skip) (h + x * 2 ^ t % W32)).set (k + skip + 1) (x / 2 ^ (32 - t)))[k + 1 + skip]?.getD 0=x / 2 ^ (32 - t):=by
   rw [show k + 1 + skip=k + skip + 1 by omega,List.getElem?_set_self (by simp; omega)]
   rfl
  rw [this]; exact hhi
theorem ZcN.done {xs zs:List Nat} {skip t:Nat} (h:ZcN xs skip t xs.length zs):val W32 zs=val W32 xs * 2 ^ (32 * skip + t):=by
 obtain ⟨h1,h2,h3,h4⟩:=h
 rw [List.take_of_length_le (by omega),List.take_of_length_le (by omega)] at h3
 exact h3
def Zcu (ys:List Nat) (t k:Nat) (zs:List Nat):Prop :=
 zs.length=ys.length∧Dig W32 zs∧2 ^ t * val W32 (zs.take k) + (ys[0]?.getD 0) % 2 ^ t=val W32 (ys.take k) + W32 ^ k * ((ys[k]?.getD 0) % 2 ^ t)
theorem Zcu.start (ys:List Nat) (t:Nat):Zcu ys t 0 (List.replicate ys.length 0):=by
 refine ⟨by simp,Dig.replicate Zao _,?_⟩
 simp
theorem Zoo {y t:Nat} (ht:t≤31):y * 2 ^ (32 - t) % W32=y % 2 ^ t * 2 ^ (32 - t):=by
 rw [← Zbf ht,Nat.mul_comm (2 ^ (32 - t)),Nat.mul_mod_mul_right]
theorem ZpE {x y t:Nat} (ht:t≤31) (hx:x < W32):x / 2 ^ t ||| y * 2 ^ (32 - t) % W32=x / 2 ^ t + y % 2 ^ t * 2 ^ (32 - t):=by
 have hlt:x / 2 ^ t < 2 ^ (32 - t):=by
  rw [Nat.div_lt_iff_lt_mul (Nat.pow_pos (by omega)),Zbf ht]; exact hx
 rw [Zoo ht,← Nat.shiftLeft_eq,Nat.or_comm,← Nat.shiftLeft_add_eq_or_of_lt hlt,Nat.add_comm]
theorem Zcu.step {ys zs:List Nat} {t k x y:Nat} (h:Zcu ys t k zs) (ht:t≤31) (hk:k < ys.length) (hx:ys[k]?.getD 0=x) (hy:ys[k + 1]?.getD 0=y) (hxW:x < W32) :
 Zcu ys t (k + 1) (zs.set k (x / 2 ^ t + y % 2 ^ t * 2 ^ (32 - t))):=by
 obtain ⟨h1,h2,h3⟩:=h
 have hlt:x / 2 ^ t + y % 2 ^ t * 2 ^ (32 - t) < W32:=by
  have e1:x / 2 ^ t < 2 ^ (32 - t):=by
   rw [Nat.div_lt_iff_lt_mul (Nat.pow_pos (by omega)),Zbf ht]; exact hxW
  have e2:y % 2 ^ t < 2 ^ t:=Nat.mod_lt _ (Nat.pow_pos (by omega))
  have e3:(y % 2 ^ t + 1) * 2 ^ (32 - t)≤2 ^ t * 2 ^ (32 - t):=Nat.mul_le_mul_right _ e2
  rw [Nat.mul_comm (2 ^ t),Zbf ht,Nat.add_mul] at e3
  omega
 refine ⟨by simpa using h1,h2.set k hlt,?_⟩
 rw [ZaT _ _ _ _ (by omega),Zal k hk,hx,hy]
 rw [hx] at h3
 have e1:=Nat.div_add_mod x (2 ^ t)
 have e2:2 ^ t * (y % 2 ^ t * 2 ^ (32 - t))=W32 * (y % 2 ^ t):=by
  rw [← Zbf ht]
  simp only [Nat.mul_comm,Nat.mul_left_comm]
 have e3:=congrArg (W32 ^ k * ·) e1
 simp only [Nat.mul_add] at e3
 rw [Nat.mul_add,Nat.mul_left_comm (2 ^ t),Nat.mul_add (2 ^ t),e2,Nat.mul_add,Nat.pow_succ,Nat.mul_assoc (W32 ^ k) W32]
 omega
theorem Zcu.done {ys zs:List Nat} {t:Nat} (h:Zcu ys t ys.length zs):val W32 zs=val W32 ys / 2 ^ t:=by
 obtain ⟨h1,h2,h3⟩:=h
 rw [List.take_of_length_le (by omega),List.take_of_length_le (by omega),List.getElem?_eq_none (Nat.le_refl _)] at h3
 simp only [Option.getD_none,Nat.zero_mod,Nat.mul_zero,Nat.add_zero] at h3
 rw [← h3,Nat.mul_add_div (Nat.pow_pos (by omega)),Nat.div_eq_of_lt (Nat.mod_lt _ (Nat.pow_pos (by omega))),Nat.add_zero]
theorem Zl1 {ys vs:List Nat} {n yt s:Nat} (hl:ys.length=n + 1) (dy:Dig W32 ys) (ey:ys[n]?.getD 0=yt) (h31:2147483648≤yt * 2 ^ s) (hs:s≤31) (h32:yt * 2 ^ s < W32) (dv:Dig W32 vs) (tv:Trim vs) (hv:val W32 vs=val W32 ys * 2 ^ s) :
 vs.length=n + 1∧W32≤2 * (vs[n]?.getD 0)∧W32 ^ n≤val W32 ys:=by
 have hp:0 < 2 ^ s:=Nat.pow_pos (by omega)
 have hyt:0 < yt:=by
  rcases Nat.eq_zero_or_pos yt with e | e
  ·rw [e,Nat.zero_mul] at h31; omega
  ·exact e
 have EY:val W32 ys=val W32 (ys.take n) + W32 ^ n * yt:=by
  have:=Zal (B:=W32) (xs:=ys) n (by omega)
  rw [List.take_of_length_le (by omega),ey] at this
  exact this
 have hlow:=ZaX (dy.take n)
 rw [List.length_take,Nat.min_eq_left (by omega)] at hlow
 have hup:(yt + 1) * 2 ^ s≤W32:=by
  rw [← Zbf hs] at h32 ⊢
  exact Nat.mul_le_mul_right _ (Nat.lt_of_mul_lt_mul_right h32)
 have hhi:val W32 ys * 2 ^ s < W32 ^ (n + 1):=by
  have h1:val W32 ys < W32 ^ n * (yt + 1):=by rw [Nat.mul_add]; omega
  have h2:=Nat.mul_lt_mul_of_pos_right h1 hp
  rw [Nat.mul_assoc] at h2
  have h3:W32 ^ n * ((yt + 1) * 2 ^ s)≤W32 ^ n * W32:=Nat.mul_le_mul_left _ hup
  rw [Nat.pow_succ]
  omega
 have hlo:W32 ^ n * 2147483648≤val W32 ys * 2 ^ s:=by
  have h1:W32 ^ n * yt≤val W32 ys:=by omega
  have h2:=Nat.mul_le_mul_right (2 ^ s) h1
  rw [Nat.mul_assoc] at h2
  have h3:W32 ^ n * 2147483648≤W32 ^ n * (yt * 2 ^ s):=Nat.mul_le_mul_left _ h31
  omega
 have hlen1:vs.length≤n + 1:=Zb7 Zja tv (hv ▸ hhi)
 have hlen2:n + 1≤vs.length:=by
  rcases Nat.lt_or_ge vs.length (n + 1) with h | h
  ·have h1:=ZaX dv
   have h2:W32 ^ vs.length≤W32 ^ n:=Nat.pow_le_pow_right Zao (by omega)
   have h3:W32 ^ n * 1≤W32 ^ n * 2147483648:=Nat.mul_le_mul_left _ (by omega)
   omega
  ·exact h
 refine ⟨by omega,?_,?_⟩
 ·have EV:val W32 vs=val W32 (vs.take n) + W32 ^ n * (vs[n]?.getD 0):=by
   have:=Zal (B:=W32) (xs:=vs) n (by omega)
   rw [List.take_of_length_le (by omega)] at this
   exact this
  have hlow2:=ZaX (dv.take n)
  rw [List.length_take,Nat.min_eq_left (by omega)] at hlow2
  have h1:W32 ^ n * 2147483648 < W32 ^ n * ((vs[n]?.getD 0) + 1):=by rw [Nat.mul_add]; omega
  have h2:=Nat.lt_of_mul_lt_mul_left h1
  rw [Zap]
  omega
 ·have:W32 ^ n * 1≤W32 ^ n * yt:=Nat.mul_le_mul_left _ hyt
  omega
def ZbA (U V top v1 h r:Nat):Prop:=top=h * v1 + r∧U < (h + 1) * V
def Lead (U V top u3 v1 v2:Nat):Prop :=
 ∃ R u' v',0 < R∧u' < R∧v' < R∧U=(top * W32 + u3) * R + u'∧V=(v1 * W32 + v2) * R + v'∧U < V * W32∧0 < v1∧u3 < W32∧v2 < W32
theorem ZbA.start {U V top u3 v1 v2:Nat} (hL:Lead U V top u3 v1 v2):ZbA U V top v1 (top / v1) (top % v1):=by
 obtain ⟨R,u',v',hR,hu,hv,eU,eV,hlt,h1,h3,h2⟩:=hL
 refine ⟨by have:=Nat.div_add_mod top v1; rw [Nat.mul_comm] at this; exact this.symm,?_⟩
 rw [eU,eV]
 refine Zgb _ _ _ _ _ _ hu ?_
 have e1:=ZeW top h1
 have e2:(top + 1) * W32≤(top / v1 + 1) * v1 * W32:=Nat.mul_le_mul_right _ e1
 rw [Nat.add_mul top] at e2
 rw [Nat.mul_add (top / v1 + 1),← Nat.mul_assoc]
 omega
theorem ZbA.big {U V top u3 v1 v2 h r:Nat} (hC:ZbA U V top v1 h r) (hL:Lead U V top u3 v1 v2) (hb:W32≤h):0 < h∧ZbA U V top v1 (h - 1) (r + v1):=by
 obtain ⟨R,u',v',hR,hu,hv,eU,eV,hlt,h1,h3,h2⟩:=hL
 obtain ⟨c1,c2⟩:=hC
 have hp:=Zao
 obtain ⟨g,rfl⟩:∃ g,h=g + 1:=⟨h - 1,by omega⟩
 refine ⟨by omega,?_,?_⟩
 ·rw [c1,Nat.add_sub_cancel,Nat.add_mul]; omega
 ·rw [Nat.add_sub_cancel]
  have:V * W32≤V * (g + 1):=Nat.mul_le_mul_left _ hb
  rw [Nat.mul_comm (g + 1)]
  omega
theorem ZbA.more {U V top u3 v1 v2 h r:Nat} (hC:ZbA U V top v1 h r) (hL:Lead U V top u3 v1 v2) (hm:r * W32 + u3 < h * v2):0 < h∧ZbA U V top v1 (h - 1) (r + v1):=by
 obtain ⟨R,u',v',hR,hu,hv,eU,eV,hlt,h1,h3,h2⟩:=hL
 obtain ⟨c1,c2⟩:=hC
 have h0:0 < h:=by
  rcases Nat.eq_zero_or_pos h with e | e
  ·rw [e,Nat.zero_mul] at hm; omega
  ·exact e
 obtain ⟨g,rfl⟩:∃ g,h=g + 1:=⟨h - 1,by omega⟩
 refine ⟨h0,?_,?_⟩
 ·rw [c1,Nat.add_sub_cancel,Nat.add_mul]; omega
 ·rw [Nat.add_sub_cancel,eU,eV]
  refine Zgb _ _ _ _ _ _ hu ?_
  rw [c1,Nat.mul_add (g + 1),← Nat.mul_assoc,Nat.add_mul ((g + 1) * v1)]
  omega
theorem Lead.top_lt {U V top u3 v1 v2:Nat} (hL:Lead U V top u3 v1 v2):top < v1 * W32 + W32:=by
 obtain ⟨R,u',v',hR,hu,hv,eU,eV,hlt,h1,h3,h2⟩:=hL
 rw [eU,eV] at hlt
 have e1:(top * W32) * R≤(top * W32 + u3) * R:=Nat.mul_le_mul_right _ (by omega)
 have e2:((v1 * W32 + v2) * R + v') * W32≤((v1 * W32 + v2) * R + R) * W32:=Nat.mul_le_mul_right _ (by omega)
 have e3:((v1 * W32 + v2) * R + R) * W32=((v1 * W32 + v2 + 1) * W32) * R:=by
  rw [Nat.add_mul (v1 * W32 + v2) 1 W32,Nat.add_mul,Nat.one_mul,Nat.add_mul _ W32 R,Nat.mul_comm R W32,Nat.mul_assoc,Nat.mul_comm R W32,← Nat.mul_assoc]
 rw [e3] at e2
 have e4:top * W32 * R < (v1 * W32 + v2 + 1) * W32 * R:=by omega
 have e5:=Nat.lt_of_mul_lt_mul_right (Nat.lt_of_mul_lt_mul_right e4)
 omega
theorem ZbA.done {U V top u3 v1 v2 h r:Nat} (hC:ZbA U V top v1 h r) (hL:Lead U V top u3 v1 v2) (hb:h < W32) (hm:h * v2≤r * W32 + u3):ZcB U V h:=by
 obtain ⟨R,u',v',hR,hu,hv,eU,eV,hlt,h1,h3,h2⟩:=hL
 obtain ⟨c1,c2⟩:=hC
 refine ⟨?_,c2⟩
 rw [eU,eV]
 refine ZnO _ _ _ _ _ _ W32 hv hb (Nat.mul_le_mul_right _ ?_) ?_
 ·have:1 * W32≤v1 * W32:=Nat.mul_le_mul_right _ h1
  omega
 ·rw [c1,Nat.mul_add h,← Nat.mul_assoc,Nat.add_mul (h * v1)]
  omega
theorem ZbA.broke {U V top u3 v1 v2 h r:Nat} (hC:ZbA U V top v1 h r) (hL:Lead U V top u3 v1 v2) (hr:W32≤r):h < W32∧ZcB U V h:=by
 have ht:=hL.top_lt
 have h2:v2 < W32:=by obtain ⟨_,_,_,_,_,_,_,_,_,_,_,h2⟩:=hL; exact h2
 have h1:=hC.1
 have hb:h < W32:=by
  have:h * v1 < v1 * W32:=by omega
  rw [Nat.mul_comm v1] at this
  exact Nat.lt_of_mul_lt_mul_right this
 refine ⟨hb,hC.done hL hb ?_⟩
 have e1:h * v2≤W32 * W32:=Nat.mul_le_mul (by omega) (by omega)
 have e2:W32 * W32≤r * W32:=Nat.mul_le_mul_right _ hr
 omega
theorem Zqw {ws vs:List Nat} {n u1 u2 u3 v1 v2:Nat} (hv:vs.length=n + 2) (hw:ws.length=n + 3) (dv:Dig W32 vs) (dw:Dig W32 ws)
 (e1:ws[n + 2]?.getD 0=u1) (e2:ws[n + 1]?.getD 0=u2) (e3:ws[n]?.getD 0=u3) (f1:vs[n + 1]?.getD 0=v1) (f2:vs[n]?.getD 0=v2) (hU:val W32 ws < val W32 vs * W32) (hn:W32≤2 * v1) :
 Lead (val W32 ws) (val W32 vs) (u1 * W32 + u2) u3 v1 v2:=by
 have h1:=ZaX (dw.take n)
 have h2:=ZaX (dv.take n)
 rw [List.length_take,Nat.min_eq_left (by omega)] at h1 h2
 have hp:=Zao
 refine ⟨W32 ^ n,val W32 (ws.take n),val W32 (vs.take n),Nat.pow_pos Zao,h1,h2,?_,?_,hU,by omega,e3 ▸ dw.getD Zao _,f2 ▸ dv.getD Zao _⟩
 ·rw [top3 hw,e1,e2,e3,Nat.add_comm]
  congr 1
  rw [Nat.mul_comm]
  congr 1
  rw [Nat.add_comm,Nat.mul_comm W32,Nat.mul_comm W32,Nat.add_comm u2]
 ·rw [top2 hv,f1,f2,Nat.add_comm]
  congr 1
  rw [Nat.mul_comm]
  congr 1
  rw [Nat.add_comm,Nat.mul_comm W32]
def Ze1 (w0 vs:List Nat) (h i:Nat) (m:List Nat) (c bw:Nat):Prop :=
 m.length=w0.length∧Dig W32 m∧c < W32∧bw≤1∧m.drop i=w0.drop i∧val W32 (m.take i) + val W32 (vs.take i) * h=val W32 (w0.take i) + W32 ^ i * (c + bw)
theorem Ze1.start {w0 vs:List Nat} {h:Nat} (hd:Dig W32 w0):Ze1 w0 vs h 0 w0 0 0:=⟨rfl,hd,Zao,by omega,rfl,by simp⟩
theorem ZmA {xs ys:List Nat} {i:Nat} (h:xs.drop i=ys.drop i):xs[i]?.getD 0=ys[i]?.getD 0:=by
 have:=congrArg (fun l=>l[0]?.getD 0) h
 simpa [List.getElem?_drop] using this
theorem ZjX {xs ys:List Nat} {i v:Nat} (h:xs.drop i=ys.drop i):(xs.set i v).drop (i + 1)=ys.drop (i + 1):=by
 rw [List.drop_set_of_lt (by omega),← List.drop_drop (i:=1) (j:=i) (l:=xs),← List.drop_drop (i:=1) (j:=i) (l:=ys),h]
theorem Zk9 {h x c:Nat} (hh:h < W32) (hx:x < W32) (hc:c < W32):h * x + c < W32 * W32:=by
 have h1:h * x≤(W32 - 1) * (W32 - 1):=Nat.mul_le_mul (by omega) (by omega)
 rw [Zap] at *
 omega
theorem Ze1.step {w0 vs m:List Nat} {h i c bw z x:Nat} (hR:Ze1 w0 vs h i m c bw) (hi:i < w0.length) (hiv:i < vs.length) (hh:h < W32) (ez:m[i]?.getD 0=z) (ex:vs[i]?.getD 0=x) (dv:Dig W32 vs) :
 Ze1 w0 vs h (i + 1) (m.set i (d32 z ((h * x + c) % W32) bw % W32)) ((h * x + c) / W32) (d32 z ((h * x + c) % W32) bw / W32 % 2):=by
 obtain ⟨h1,h2,h3,h4,h5,h6⟩:=hR
 have hx:x < W32:=ex ▸ dv.getD Zao i
 have hz:z < W32:=ez ▸ h2.getD Zao i
 have hs:=Zpp (y:=(h * x + c) % W32) hz (Nat.mod_lt _ Zao) h4
 refine ⟨by simpa using h1,h2.set _ (Nat.mod_lt _ Zao),Nat.div_lt_of_lt_mul (Zk9 hh hx h3),by omega,ZjX h5,?_⟩
 rw [ZaT _ _ _ _ (by omega),Zal i hi,Zal i hiv,ex,← ZmA h5,ez,Nat.pow_succ]
 refine ZjE _ _ _ _ _ _ _ _ _ _ _ h6 ?_
 have hm:=Nat.mod_add_div (h * x + c) W32
 rw [Nat.mul_comm x h,Nat.mul_add W32]
 omega
def Ze2 (w0 vs:List Nat) (i:Nat) (m:List Nat) (c:Nat):Prop :=
 m.length=w0.length∧Dig W32 m∧c≤1∧m.drop i=w0.drop i∧val W32 (m.take i) + W32 ^ i * c=val W32 (w0.take i) + val W32 (vs.take i)
theorem Ze2.start {w0 vs:List Nat} (hd:Dig W32 w0):Ze2 w0 vs 0 w0 0:=⟨rfl,hd,by omega,rfl,by simp⟩
theorem Ze2.step {w0 vs m:List Nat} {i c z x:Nat} (hR:Ze2 w0 vs i m c) (hi:i < w0.length) (hiv:i < vs.length) (ez:m[i]?.getD 0=z) (ex:vs[i]?.getD 0=x) (dv:Dig W32 vs) :
 Ze2 w0 vs (i + 1) (m.set i ((c + (z + x)) % W32)) ((c + (z + x)) / W32):=by
 obtain ⟨h1,h2,h3,h4,h5⟩:=hR
 have hx:x < W32:=ex ▸ dv.getD Zao i
 have hz:z < W32:=ez ▸ h2.getD Zao i
 have hc:(c + (z + x)) / W32≤1:=by have:=ZeF hz hx h3; rwa [Nat.add_assoc] at this
 refine ⟨by simpa using h1,h2.set _ (Nat.mod_lt _ Zao),hc,ZjX h4,?_⟩
 rw [ZaT _ _ _ _ (by omega),Zal i hi,Zal i hiv,ex,← ZmA h4,ez,Nat.pow_succ]
 exact Zfx _ _ _ _ _ _ _ _ _ _ h5 (by have:=Nat.mod_add_div (c + (z + x)) W32; omega)
theorem Zan.cell0 {k:Go.IntKind} {w:Go.World} {b off:Nat} {xs:List Nat} (h:Zan k w (some ⟨b,off,none⟩) xs) {i:Nat} (hi:i < xs.length):w.cell? ⟨b,off + i,none⟩=some (.int k ((xs[i]?.getD 0:Nat):Int)):=by
 obtain ⟨b',o',e,_,hc⟩:=h.at hi
 injection e with e
 injection e with e1 e2
 subst e1 e2
 exact hc
theorem Zq4 (p:Nat) (h:p < W64):Go.bits .and .u64 (p:Int) 4294967295=((p % W32:Nat):Int):=by
 rw [Zah] at h
 have:=Go.bits_and_u64_nat p 4294967295 h (by omega)
 rw [show (4294967295:Nat)=2 ^ 32 - 1 from rfl,Nat.and_two_pow_sub_one_eq_mod] at this
 rw [Zap]
 exact this
theorem ZmB {z l:Nat} (hz:z < W32) (hl:l < W32):Go.IntKind.u64.wrap ((z:Int) - (l:Int))=((d32 z l 0:Nat):Int):=by
 unfold d32; rw [Go.IntKind.wrap_u64,Zah]; rw [Zap] at hz hl; omega
theorem ZmC {z l bw:Nat} (hz:z < W32) (hl:l < W32) (hb:bw≤1):Go.IntKind.u64.wrap (((d32 z l 0:Nat):Int) - (bw:Int))=((d32 z l bw:Nat):Int):=by
 unfold d32; rw [Go.IntKind.wrap_u64,Zah]; rw [Zap] at hz hl; omega
theorem Zqx {t c bw:Nat} (ht:t < W32) (hc:c < W32) (hb:bw≤1):d32 t c bw / 9223372036854775808=(if t < c + bw then 1 else 0):=by
 unfold d32
 rw [Zap] at *
 rw [Zah]
 split<;>omega
theorem ZpF {t c bw:Nat} (h:t=c + bw):d32 t c bw % W32=0:=by
 unfold d32
 rw [Zap,Zah]
 omega
theorem Zqy {t c bw c':Nat} (h:c' + t=c + bw) (_:c < W32) (_:bw≤1) (hc':c'≤1) (h1:t < c + bw):(d32 t c bw % W32 + c') % W32=0:=by
 unfold d32
 rw [Zap] at *
 rw [Zah]
 omega
theorem Own.mid32 {k0:Go.IntKind} {t:Go.TypeId} {w:Go.World} {b:Nat} {pre mid post:List Nat} (h:Own k0 t w b (pre ++ mid ++ post)) {k:Nat} (hk:k < mid.length):w.cell? ⟨b,pre.length + k,none⟩=some (.int k0 ((mid[k]?.getD 0:Nat):Int)):=by
 rw [h.cell (by simp; omega),Zmm _ _ _ _ hk]
theorem Own.set_mid32 {k0:Go.IntKind} {t:Go.TypeId} {w:Go.World} {b:Nat} {pre mid post:List Nat} (h:Own k0 t w b (pre ++ mid ++ post)) {k:Nat} (hk:k < mid.length) (v:Nat):Own k0 t (w.setCell ⟨b,pre.length + k,none⟩ (.int k0 (v:Int))) b (pre ++ mid.set k v ++ post):=by
 have:=h.set (pre.length + k) v (by simp; omega)
 rwa [Go.Proofs.YtcpjeaaapocoeaaGreatDoor.set_mid _ _ _ _ _ hk] at this
theorem Zhz {zs ts rest:List Nat} {k v:Nat} (hk:k < ts.length) (hl:zs.length=ts.length):(zs.take k ++ ts.drop k ++ rest).set k v=(zs.set k v).take (k + 1) ++ ts.drop (k + 1) ++ rest:=by
 have h1:(zs.take k).length=k:=by simp; omega
 rw [List.append_assoc,List.set_append_right _ _ (by omega),h1,Nat.sub_self,List.drop_eq_getElem_cons hk,List.cons_append,List.set_cons_zero,List.take_succ_eq_append_getElem (by simp; omega)]
 have h2:(zs.set k v).take k=zs.take k:=by rw [List.take_set_of_le (by omega)]
 simp [h2]
theorem ZhA {zs ts rest:List Nat} {k i:Nat} (hk:k≤i) (hi:i < ts.length) (hl:zs.length=ts.length):(zs.take k ++ ts.drop k ++ rest)[i]?.getD 0=ts[i]?.getD 0:=by
 have h1:(zs.take k).length=k:=by simp; omega
 rw [List.append_assoc,List.getElem?_append_right (by omega),h1,List.getElem?_append_left (by simp; omega),List.getElem?_drop,show k + (i - k)=i by omega]
end Go.Proofs.YtcpjeaaapocoeaaGreatDoor

namespace Go.Proofs.YtcpjeaaapocoeaaGreatDoor
open Go.RowKit
theorem Zop {a b:Nat} (ha:a < W32) (hb:b < W32):bits .or .u32 (a:Int) (b:Int)=((a ||| b:Nat):Int):=by
 rw [Zap] at ha hb
 have hx:a ||| b < 2 ^ 32:=Nat.or_lt_two_pow (by omega) (by omega)
 have h1:(BitVec.ofInt 32 (a:Int)).toNat=a:=by
  rw [BitVec.ofInt_natCast,BitVec.toNat_ofNat]; exact Nat.mod_eq_of_lt (by omega)
 have h2:(BitVec.ofInt 32 (b:Int)).toNat=b:=by
  rw [BitVec.ofInt_natCast,BitVec.toNat_ofNat]; exact Nat.mod_eq_of_lt (by omega)
 show IntKind.u32.wrap ((BitVec.ofInt 32 (a:Int) ||| BitVec.ofInt 32 (b:Int)).toNat:Int)=_
 rw [BitVec.toNat_or,h1,h2,IntKind.wrap_u32]
 omega
theorem ZjY {x s:Nat} (hx:x < W32) (hs:s≤32):IntKind.u64.wrap ((x:Int) * 2 ^ s)=((x * 2 ^ s:Nat):Int):=by
 rw [ZeA,Nat.mod_eq_of_lt]
 have h1:2 ^ s≤W32:=by rw [Zap]; exact Nat.le_trans (Nat.pow_le_pow_right (by omega) hs) (by decide)
 rw [← ZeE]
 exact Nat.lt_of_lt_of_le (Nat.mul_lt_mul_of_pos_right hx (Nat.pow_pos (by omega))) (Nat.mul_le_mul_left _ h1)
theorem Zq5 {x s:Nat} (hs:s≤31):x * 2 ^ s / W32=x / 2 ^ (32 - s):=by
 rw [← Zbf hs,Nat.mul_div_mul_right _ _ (Nat.pow_pos (by omega))]
def ZpG (w:World) (l:Nat) (v:Nat) (e:Ending) (w':World):Prop :=
 ∃ us:List Nat,e=.returned (.slice (some ⟨w.heap.size,0,none⟩) l l)∧us.length=l∧Own .u32 329 w' w.heap.size us∧Dig W32 us∧val W32 us=v∧Ext w w'
set_option maxHeartbeats 1000000 in
theorem ZjZ (A:Option Addr) (xs:List Nat) (n c s:Nat) (w:World) (hn:xs.length=n) (hX:Zan .u32 w A xs) (hl:xs.length≤35184372088832) (hd:Dig W32 xs) (hs:s≤31) :
 Calls Tryz.prog 374 #[.slice A n c, .int .u64 (s:Int)] w (ZpG w (n + 1) (val W32 xs * 2 ^ s)):=by
 subst hn
 have HX:=zh hX
 have Hd:=zh hd
 clear hX hd
 go_enter Tryz.func374,Tryz.ntmps374
 go_wp2_with (at_make
              refine ZaY rfl _ _ _ rfl _ _ _ Tryz.underlying153 Zef _ _ _ _ (xs.length + 1) rfl rfl (by omega) (by omega) (by omega) (by omega) ?_
              intro b w1 hb hO1 _ hF1 hs1
              have HO1:=zh hO1
              have HF1:=zh hF1
              have Hb:=zh hb
              clear hO1 hF1 hb hs1)
 go_loopw [6,7] (fun i _ wr=>∃ (k:Nat) (zs:List Nat),k≤xs.length∧i=.int .i64 (k:Int)∧Hid (ZcN xs 0 s k zs)∧Hid (Own .u32 329 wr b zs)∧Hid (Ext w wr)) (fun i _ _=>xs.length - (intOf i).toNat)
 case atStart=>exact ⟨0,_,by omega,rfl,ZcN.start xs 0 s,HO1.out,HF1.out⟩
 case round =>
  obtain ⟨k,zs,hkk,rfl,hR,hO2,hF2⟩:=hrel
  by_cases hlt:k < xs.length
  ·obtain ⟨b2,off2,rfl,_,hcx⟩:=(HX.out.ext hF2.out).at hlt
   obtain ⟨x,ex⟩:∃ x,xs[k]?.getD 0=x:=⟨_,rfl⟩
   obtain ⟨h,eh⟩:∃ h,zs[k + 0]?.getD 0=h:=⟨_,rfl⟩
   rw [ex] at hcx
   have hxW:Hid (x < W32):=ex ▸ Hd.out.getD Zao k
   obtain ⟨hst,hdlt⟩:=hR.out.step hs hlt eh ex hxW.out
   have HR2:=zh hst
   have hzl:zs.length=xs.length + 0 + 1:=hR.out.1
   simp only [Nat.add_zero] at eh hzl HR2
   have hc1:=hO2.out.cell (i:=k) (by omega)
   have hf1:=hO2.out.frozen k
   rw [eh] at hc1
   have hO3:=hO2.out.set k (h + x * 2 ^ s % W32) (by omega)
   have hc2:=hO3.cell (i:=k + 1) (by simp; omega)
   have hf2:=hO3.frozen (k + 1)
   obtain ⟨g,eg⟩:∃ g,(zs.set k (h + x * 2 ^ s % W32))[k + 1]?.getD 0=g:=⟨_,rfl⟩
   rw [eg] at hc2
   have HO4:=zh (hO3.set (k + 1) (x / 2 ^ (32 - s)) (by simp; omega))
   have q0:=ZaQ x (by have:=Zah; have:=Zap; have:=hxW.out; omega)
   have q1:=ZjY hxW.out (by omega:s≤32)
   have q2:=Zcp (x * 2 ^ s)
   have q3:=Zop (a:=h) (b:=x * 2 ^ s % W32) (eh ▸ hR.out.2.1.getD Zao _) (Nat.mod_lt _ Zao)
   have hh2:=hR.out.2.2.2
   simp only [Nat.add_zero] at hh2
   rw [ZpD (eh ▸ hh2) hs] at q3
   have q4:=hi32 (x * 2 ^ s)
   rw [Zq5 hs] at q4
   have q5:=Zcp (x / 2 ^ (32 - s))
   rw [Nat.mod_eq_of_lt (Nat.lt_of_le_of_lt (Nat.div_le_self _ _) hxW.out)] at q5
   obtain ⟨lo,elo⟩:∃ lo,x * 2 ^ s % W32=lo:=⟨_,rfl⟩
   obtain ⟨v,ev⟩:∃ v,x * 2 ^ s=v:=⟨_,rfl⟩
   obtain ⟨hi,ehi⟩:∃ hi,x / 2 ^ (32 - s)=hi:=⟨_,rfl⟩
   rw [elo] at q2 q3 hc2 hf2 HR2 HO4
   rw [ev] at q1 q2 q4
   rw [ehi] at q4 q5 HR2 HO4
   obtain ⟨d,ed⟩:∃ d,h + lo=d:=⟨_,rfl⟩
   rw [ed] at q3 hc2 hf2 HR2 HO4
   clear ex eh hst hdlt hzl hO3 eg elo ehi ed ev hh2
   go_wp2
   go_roundw
   case rel=>exact ⟨k + 1,_,by omega,by go_num,HR2,HO4.out,(hF2.out.setCell (p:=⟨b,k,none⟩) (Or.inr (by have:=Hb.out; show w.heap.size≤b; omega)) _).setCell (p:=⟨b,k + 1,none⟩) (Or.inr (by have:=Hb.out; show w.heap.size≤b; omega)) _⟩
   case measure=>simp [intOf]; omega
  ·obtain rfl:k=xs.length:=by omega
   have hz:=zh hR.out.1
   have hv:=zh hR.out.done
   go_wp2
   go_ret
   exact ⟨zs,by rw [Hb.out]; rfl,by have:=hz.out; omega,by rw [Hb.out]; exact hO2.out,hR.out.2.1,by rw [hv.out]; simp,hF2.out⟩
end Go.Proofs.YtcpjeaaapocoeaaGreatDoor

namespace Go.Proofs.YtcpjeaaapocoeaaGreatDoor
open Go.RowKit
def ZfP (w:World) (q r:Nat) (e:Ending) (w':World):Prop:=∃ u v,e=.returned (.tuple #[u,v])∧Zam w' u q∧Zam w' v r∧Ext w w'
theorem Zj0 {a b:Nat}:cmpI a b < 0 ↔ a < b:=by
 unfold cmpI
 split
 ·omega
 ·split<;>omega
set_option maxHeartbeats 1000000 in
theorem Zoq (xv yv:Value) (x y:Nat) (w:World) (hX:Zam w xv x) (hY:Zam w yv y) (hx:ml x≤17592186044416) (hy:ml y≤17592186044416) (hlt:x < y) :
 Calls Tryz.prog 338 #[xv,yv] w (ZfP w 0 x):=by
 have HC:=zh (ZiA xv yv x y w hX hY hx hy)
 rw [Zcj (by omega)] at HC
 obtain ⟨A,xs,c,rfl,hc,h1,h2,h3,hv⟩:=hX
 obtain ⟨A2,l2,c2,rfl⟩:∃ A2 l2 c2,yv=.slice A2 l2 c2:=by obtain ⟨A2,ys,c2,h,_⟩:=hY; exact ⟨_,_,_,h⟩
 rw [← hv,← ZbI h2 h3] at hx
 have HX:=zh h1
 have H2:=zh h2
 have H3:=zh h3
 have HV:=zh hv
 obtain ⟨n,hn⟩:∃ n,xs.length=n:=⟨_,rfl⟩
 rw [hn] at hx HC
 rw [hn]
 have HN:=zh hn
 clear h1 h2 h3 hv hlt hc hY hy hn
 go_enter Tryz.func338,Tryz.ntmps338
 go_wp2_with (first
  | (go_at_call 328; refine HC.out.mono ?_; rintro e w' ⟨rfl,m,rfl⟩)
  | (at_builtin
     refine Za8 rfl _ _ _ rfl _ .u32 4 Tryz.underlying153 Zef (some ⟨w.heap.size,0,none⟩) A 0 n 0 c rfl rfl [] xs rfl HN.out ?_ ((HX.out.drewN _).alloc _) (by simp only [maxLen]; omega) (by omega) ?_
     ·exact Or.inr ⟨_,rfl,Own.new (w.drewN m) _ _ [] [],⟨#[],heap_alloc_new (w.drewN m) _,rfl⟩,Nat.le_refl _,by simp only [maxLen]; omega⟩
     intro A1 cap1 w1 hB1 hF1 hA1
     have HB1:=zh hB1
     have HF1:=zh hF1
     clear hB1 hF1 hA1))
 go_ret2
 refine ⟨_,_,rfl,Zam.zero _,⟨A1,xs,cap1,?_,?_,?_,H2.out,H3.out,HV.out⟩,?_⟩
 ·rw [HN.out]; simp
 ·have:=HB1.out.len; simpa using this
 ·have:=HB1.out.shows; simpa using this
 ·refine (((Fr.refl (fun _=>False) w).drewN m).alloc _).next HF1.out (fun i hi hb=>?_)
  obtain ⟨a,ha,hb⟩:=hb
  injection ha with ha
  subst ha
  simp at hb; omega
theorem Zam.one {w:World} {b r:Nat} (h:Own .u32 329 w b [r]) (hr:r < W32):Zam w (.slice (some ⟨b,0,none⟩) (Zba [r] 1) 1) r:=by
 have:=Zam.of_own (c:=1) h (Dig.cons hr Dig.nil) (by simp)
 simpa using this
set_option maxHeartbeats 1000000 in
theorem Zno (xv yv:Value) (x y:Nat) (w:World) (hX:Zam w xv x) (hY:Zam w yv y) (hx:ml x≤17592186044416) (hy:ml y=1) (hge:y≤x) :
 Calls Tryz.prog 338 #[xv,yv] w (ZfP w (x / y) (x % y)):=by
 have HC:=zh (ZiA xv yv x y w hX hY hx (by omega))
 obtain ⟨cr,ecr⟩:∃ cr,cmpI x y=cr:=⟨_,rfl⟩
 have hcr:0≤cr:=by
  rcases Int.lt_or_le cr 0 with h | h
  ·rw [← ecr] at h; have:=Zj0.1 h; omega
  ·exact h
 rw [ecr] at HC
 obtain ⟨A2,ys,c2,rfl,hc2,k1,k2,k3,rfl⟩:=hY
 rw [← ZbI k2 k3] at hy
 obtain ⟨y,rfl⟩:=List.length_eq_one_iff.1 hy
 have hyv:val W32 [y]=y:=by simp
 rw [hyv] at hge ⊢
 have hy0:0 < y:=by have:=k3 0 (by simp); simp at this; omega
 have hyW:y < W32:=k2.head
 obtain ⟨b,o,rfl,_,hcy⟩:=k1.at (i:=0) (by simp)
 have hcy':w.cell? ⟨b,o,none⟩=some (.int .u32 (y:Int)):=by simpa using hcy
 have HD:=fun w' (hf:Ext w w')=>zh (Zgp xv x y w' (hX.ext hf) hx hy0 hyW)
 have HDH:=zh HD
 have hrW:Hid (x % y < W32):=Nat.lt_trans (Nat.mod_lt _ hy0) hyW
 obtain ⟨r,er⟩:∃ r,x % y=r:=⟨_,rfl⟩
 have HR:=zh er
 rw [er] at hrW
 have hcrB:decide (cr < 0)=false:=by rw [decide_eq_false_iff_not]; omega
 clear k1 k2 k3 hc2 ecr hge hcy HD hy hyv hy0 hyW hX er
 go_enter Tryz.func338,Tryz.ntmps338
 go_wp2_with (first
  | (go_at_call 328; refine HC.out.mono ?_; rintro e w' ⟨rfl,m,rfl⟩)
  | (go_at_call 247; refine (HDH.out _ ((Fr.refl _ _).drewN _)).out.mono ?_; rintro e w1 ⟨l,c,rfl,hN,hF⟩; have HN:=zh hN; have HF:=zh hF; clear hN hF; rw [HR.out])
  | (go_at_call 276; refine (Zby _ [r] 1 1 _ rfl (Own.new w1 _ _ [r] []).shows0 (by simp) (by simp)).mono ?_; rintro e w2 ⟨rfl,rfl⟩))
 go_ret2
 exact ⟨_,_,rfl,HN.out.ext ((Fr.refl _ _).alloc _),by rw [HR.out]; exact Zam.one (Own.new w1 _ _ [r] []) hrW.out,(((Fr.refl _ _).drewN _).ext HF.out).alloc _⟩
end Go.Proofs.YtcpjeaaapocoeaaGreatDoor
