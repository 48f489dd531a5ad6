/-
 My texts Dv3 put together.
-/
import Derived.Test.YtcpjeaaapocoeaaGreatDoorP07
import Derived.Deep.CutBlock
import Derived.Deep.DeepCutAuto
set_option maxRecDepth 100000
namespace Go.Proofs.YtcpjeaaapocoeaaGreatDoor
open Go.RowKit
theorem ZmD {x s:Nat} (h:x * 2 ^ s < W32):IntKind.u32.wrap ((x:Int) * 2 ^ s)=((x * 2 ^ s:Nat):Int):=by
 have hpow:((2:Int) ^ s)=((2 ^ s:Nat):Int):=by rw [Int.natCast_pow]; rfl
 rw [hpow,← Int.natCast_mul,IntKind.wrap_u32]
 rw [Zap] at h
 omega
theorem ZpH {x s:Nat} (h:x * 2 ^ s < W32):((x:Int) * 2 ^ s) % 4294967296=((x * 2 ^ s:Nat):Int):=by
 have:=ZmD h
 rw [IntKind.wrap_u32] at this
 exact this
theorem Zor {y s:Nat} (hy:0 < y) (h:y * 2 ^ s < W32):s≤31:=by
 rcases Nat.lt_or_ge s 32 with h1 | h1
 ·omega
 ·have h2:2 ^ 32≤2 ^ s:=Nat.pow_le_pow_right (by omega) h1
  have h3:1 * 2 ^ s≤y * 2 ^ s:=Nat.mul_le_mul_right _ hy
  rw [Zap] at h
  omega
set_option maxHeartbeats 8000000 in
theorem Zl2 (A A2:Option Addr) (xs ys:List Nat) (c c2 kk:Nat) (w:World) (hX:Zan .u32 w A xs) (hY:Zan .u32 w A2 ys) (_:xs.length≤c) (hc2:ys.length≤c2) (hl:xs.length≤17592186044416) (hk:ys.length=kk + 2)
 (dx:Dig W32 xs) (dy:Dig W32 ys) (tx:Trim xs) (ty:Trim ys) (hge:val W32 ys≤val W32 xs) :
 Calls Tryz.prog 338 #[.slice A xs.length c, .slice A2 ys.length c2] w (ZfP w (val W32 xs / val W32 ys) (val W32 xs % val W32 ys)):=by
 have hlxy:kk + 2≤xs.length:=by
  have:=Zfr hge
  rw [← ZbI dx tx,← ZbI dy ty] at this
  omega
 have HC:=zh (Zhv A A2 xs ys _ _ c c2 w rfl rfl hX hY (by omega) (by omega) dx dy tx ty)
 obtain ⟨cr,ecr⟩:∃ cr,cmpI (val W32 xs) (val W32 ys)=cr:=⟨_,rfl⟩
 have hcr:0≤cr:=by
  rcases Int.lt_or_le cr 0 with h | h
  ·rw [← ecr] at h; have:=Zj0.1 h; omega
  ·exact h
 rw [ecr] at HC
 clear ecr
 obtain ⟨bY,oY,rfl,_,hct⟩:=hY.at (i:=kk + 1) (by omega)
 obtain ⟨yt,eyt⟩:∃ yt,ys[kk + 1]?.getD 0=yt:=⟨_,rfl⟩
 rw [eyt] at hct
 have hyt0:Hid (0 < yt):=by have:=ty (kk + 1) (by omega); unfold Hid; omega
 have hytW:Hid (yt < W32):=eyt ▸ dy.getD Zao _
 have HX:=zh hX
 have HY:=zh hY
 have Hdx:=zh dx
 have Hdy:=zh dy
 have HEY:=zh eyt
 clear hX hY dx dy tx ty hge eyt
 obtain ⟨n,hn⟩:∃ n,ys.length=n:=⟨_,rfl⟩
 rw [hn] at HC hk hc2
 rw [hn]
 have HN:=zh hn
 subst hk
 clear hn
 have hone:(((kk:Int) + 2) == 1)=false:=by simp; omega
 have hcrB:decide (cr < 0)=false:=by rw [decide_eq_false_iff_not]; omega
 go_enter Tryz.func338,Tryz.ntmps338
 go_wp2_with (go_at_call 328; refine HC.out.mono ?_; rintro e w' ⟨rfl,m0,rfl⟩)
 go_loop [8] (fun sv=>∃ s:Nat,s≤31∧sv=.int .u64 (s:Int)∧Hid (yt * 2 ^ s < W32)) (fun sv=>32 - (intOf sv).toNat)
 case atStart=>exact ⟨0,by omega,rfl,by have:=hytW.out; unfold Hid; simpa using this⟩
 case round =>
  obtain ⟨s,hs,rfl,hsW⟩:=hrel
  have q1:=ZmD hsW.out
  have q1':=ZpH hsW.out
  obtain ⟨p,ep⟩:∃ p,yt * 2 ^ s=p:=⟨_,rfl⟩
  rw [ep] at q1 q1'
  by_cases hp:p < 2147483648
  ·have t1:decide ((p:Int) < 2147483648)=true:=by rw [decide_eq_true_eq]; omega
   have t1':decide (p < 2147483648)=true:=by rw [decide_eq_true_eq]; omega
   have hs2:Hid (yt * 2 ^ (s + 1) < W32):=by unfold Hid; rw [Nat.pow_succ,← Nat.mul_assoc,ep,Zap]; omega
   have hs3:=Zor hyt0.out hs2.out
   clear ep hp
   go_wp2
   go_round
   case rel=>exact ⟨s + 1,by omega,by go_num,hs2⟩
   case measure=>simp [intOf]; omega
  ·have t1:decide ((p:Int) < 2147483648)=false:=by rw [decide_eq_false_iff_not]; omega
   have t1':decide (p < 2147483648)=false:=by rw [decide_eq_false_iff_not]; omega
   have HP:Hid (2147483648≤yt * 2 ^ s):=by unfold Hid; omega
   clear ep hp
   have HS1:=zh (ZjZ _ ys (kk + 2) c2 s (w.drewN m0) HN.out (HY.out.drewN _) (by have:=HN.out; omega) Hdy.out hs)
   clear HC
   go_wp2_with fail
   clear q1 q1' t1 t1' hct
   refine HS1.out.mono ?_
   rintro e wD ⟨us0,rfl,hus0,hO0,hd0,hv0,hF0⟩
   have NV:=Zam.of_own (c:=kk + 2 + 1) hO0 hd0 (by omega)
   obtain ⟨AV,vs,cV,eV,hcV,hSV,dvs,tvs,hvv⟩:=NV
   injection eV with eV1 eV2 eV3
   rw [hv0] at hvv
   obtain ⟨n1,n2,n3⟩:=Zl1 (n:=kk + 1) HN.out Hdy.out HEY.out HP.out hs hsW.out dvs tvs hvv
   replace n1:vs.length=kk + 2:=n1
   have HT:=zh (Zby (some ⟨(w.drewN m0).heap.size,0,none⟩) us0 (kk + 2 + 1) (kk + 2 + 1) wD hus0 hO0.shows0 (by omega) (by omega))
   rw [eV2,n1] at HT
   obtain ⟨Vb,eVb⟩:∃ Vb,(w.drewN m0).heap.size=Vb:=⟨_,rfl⟩
   rw [eVb] at HT eV1 ⊢
   have HVb:=zh eVb
   subst eV1
   have HSV:=zh hSV
   have Hdv:=zh dvs
   have HFD:Hid (Ext w wD):=((Fr.refl _ _).drewN _).ext hF0
   have Hvv:=zh hvv
   have Hn1:=zh n1
   have Hn2:=zh n2
   have Hn3:=zh n3
   clear HS1 hus0 hO0 hd0 hv0 hF0 hcV hSV dvs tvs hvv n1 n2 n3 eV2 eV3 eVb HP hsW hytW hyt0 HEY
   go_wp2_with fail
   refine HT.out.mono ?_
   rintro e w' ⟨rfl,rfl⟩
   clear HT
   have HS2:=zh (ZjZ A xs xs.length c s wD rfl (HX.out.ext HFD.out) (by omega) Hdx.out hs)
   go_wp2_with fail
   refine HS2.out.mono ?_
   rintro e w2 ⟨us,rfl,hus,hO2,hd2,hv2,hF2⟩
   obtain ⟨R,eR⟩:∃ R,wD.heap.size=R:=⟨_,rfl⟩
   rw [eR] at hO2 ⊢
   have HR:=zh eR
   have HO2:=zh hO2
   have HF2:=zh hF2
   have Hd2:=zh hd2
   have Hv2:=zh hv2
   have Hus:=zh hus
   clear hus hO2 hd2 hv2 hF2 eR HS2
   go_wp2_with (at_make
                refine ZaY rfl _ _ _ rfl _ _ _ Tryz.underlying153 Zef _ _ _ _ (xs.length - (kk + 2) + 1) rfl rfl (by omega) (by omega) (by omega) (by omega) ?_
                intro Qb w4 hQ hO4 _ hF4 hs4
                have HO4:=zh hO4
                have HF4:=zh hF4
                have HQ:=zh hQ
                clear hO4 hF4 hQ hs4)
   have hRlt:Hid (R < Qb):=by
    have h1:=HO2.out.lt
    have h2:=HQ.out
    unfold Hid; omega
   have hV:Hid (val W32 vs≤W32 ^ (kk + 2)):=by
    have:=ZaX Hdv.out
    rw [Hn1.out] at this
    exact Nat.le_of_lt this
   have hV0:Hid (0 < val W32 vs):=by
    rw [Hvv.out]
    have h1:=Hn3.out
    have h2:=Nat.pow_pos (n:=kk + 1) Zao
    exact Nat.mul_pos (by omega) (Nat.pow_pos (by omega))
   obtain ⟨X,eX⟩:∃ X,val W32 xs * 2 ^ s=X:=⟨_,rfl⟩
   have HXX:=zh eX
   have hst:Hid (Zb0 X (val W32 vs) (kk + 2) (xs.length - (kk + 2) + 1) us (List.replicate (xs.length - (kk + 2) + 1) 0)):=by
    unfold Hid
    rw [← HXX.out,Hvv.out]
    exact Zb0.start (L:=xs.length) Hd2.out Hus.out Hv2.out (ZaX Hdx.out) (by simpa using Hn3.out) (by omega) hlxy
   have HFw:Hid (Ext wD w4):=HF2.out.ext HF4.out
   have hAR:Hid (Vb < R):=by
    have h1:Vb < wD.heap.size:=by
     obtain ⟨b',o',e',hb',_⟩:=HSV.out.at (i:=0) (by rw [Hn1.out]; omega)
     injection e' with e'
     injection e' with e1 e2
     omega
    have h2:=HR.out
    unfold Hid; omega
   have HO2':=zh (HO2.out.ext HF4.out)
   clear HO2 HF2 HF4 Hd2 Hv2 eX hone hcrB
   obtain ⟨V,eV⟩:∃ V,val W32 vs=V:=⟨_,rfl⟩
   have HV:=zh eV
   rw [eV] at hV hV0 hst
   clear eV
   go_loopw [14] (fun i wr=>∃ (k:Nat) (rs qs:List Nat),k≤xs.length - (kk + 2) + 1∧i=.int .i64 ((k:Int) - 1)∧Hid (Zb0 X V (kk + 2) k rs qs)∧Hid (rs.length=xs.length + 1)∧Hid (Own .u32 329 wr R rs)∧Hid (Own .u32 329 wr Qb qs)∧Hid (Ext wD wr)) (fun i _=>(intOf i + 1).toNat)
   case atStart=>exact ⟨xs.length - (kk + 2) + 1,us,_,Nat.le_refl _,by go_num,hst,Hus,HO2'.out,HO4.out,HFw.out⟩
   case round =>
    clear hst HO4 HFw HO2' Hus
    obtain ⟨k,rs,qs,hk,rfl,hR,hrl,hO1,hO2,hF1⟩:=hrel
    by_cases hlt:0 < k
    ·obtain ⟨j,rfl⟩:∃ j,k=j + 1:=⟨k - 1,by omega⟩
     have ej:(((j + 1:Nat):Int) - 1)=(j:Int):=by omega
     rw [ej]
     clear ej
     obtain ⟨wo,rfl⟩:∃ wo:World,wo=wr:=⟨_,rfl⟩
     have hjr:j + (kk + 2) < xs.length + 1:=by omega
     have hrl':=hrl.out
     obtain ⟨q1,q2,q3⟩:=hR.out.window hV.out (by omega)
     have hwl:((rs.drop j).take (kk + 3)).length=kk + 3:=by simp; omega
     obtain ⟨u1,eu1⟩:∃ u1,rs[j + (kk + 2)]?.getD 0=u1:=⟨_,rfl⟩
     obtain ⟨u2,eu2⟩:∃ u2,rs[j + (kk + 1)]?.getD 0=u2:=⟨_,rfl⟩
     obtain ⟨u3,eu3⟩:∃ u3,rs[j + kk]?.getD 0=u3:=⟨_,rfl⟩
     obtain ⟨v1,ev1⟩:∃ v1,vs[kk + 1]?.getD 0=v1:=⟨_,rfl⟩
     obtain ⟨v2,ev2⟩:∃ v2,vs[kk]?.getD 0=v2:=⟨_,rfl⟩
     have hn2:=Hn2.out
     rw [ev1] at hn2
     have HL:=Zqw (n:=kk) (u1:=u1) (u2:=u2) (u3:=u3) (v1:=v1) (v2:=v2) Hn1.out hwl Hdv.out ((hR.out.1.drop j).take _) (by rw [List.getElem?_take_of_lt (by omega),List.getElem?_drop]; exact eu1) (by rw [List.getElem?_take_of_lt (by omega),List.getElem?_drop]; exact eu2) (by rw [List.getElem?_take_of_lt (by omega),List.getElem?_drop]; exact eu3) ev1 ev2 (by rw [← q1,HV.out]; exact q2) hn2
     rw [← q1,HV.out] at HL
     have HLd:=zh HL
     have hu1:Hid (u1 < W32):=eu1 ▸ hR.out.1.getD Zao _
     have hu2:Hid (u2 < W32):=eu2 ▸ hR.out.1.getD Zao _
     have hu3:Hid (u3 < W32):=eu3 ▸ hR.out.1.getD Zao _
     have hv1:Hid (v1 < W32):=ev1 ▸ Hdv.out.getD Zao _
     have hv2:Hid (v2 < W32):=ev2 ▸ Hdv.out.getD Zao _
     have hv10:Hid (0 < v1):=by have:=Zao; unfold Hid; omega
     have c1:=hO1.out.cell (i:=j + (kk + 2)) (by omega)
     have c2':=hO1.out.cell (i:=j + (kk + 1)) (by omega)
     have c3:=hO1.out.cell (i:=j + kk) (by omega)
     have d1:=((HSV.out.ext hF1.out).cell0 (i:=kk + 1) (by rw [Hn1.out]; omega))
     have d2:=((HSV.out.ext hF1.out).cell0 (i:=kk) (by rw [Hn1.out]; omega))
     rw [eu1] at c1
     rw [eu2] at c2'
     rw [eu3] at c3
     rw [ev1,Nat.zero_add] at d1
     rw [ev2,Nat.zero_add] at d2
     have w1:=ZaQ u1 (by have:=Zah; have:=Zap; have:=hu1.out; omega)
     have w2:=ZaQ u2 (by have:=Zah; have:=Zap; have:=hu2.out; omega)
     have w3:=ZaQ u3 (by have:=Zah; have:=Zap; have:=hu3.out; omega)
     have w4:=ZaQ v1 (by have:=Zah; have:=Zap; have:=hv1.out; omega)
     have w5:=ZaQ v2 (by have:=Zah; have:=Zap; have:=hv2.out; omega)
     have s1:=Znb u1 hu1.out
     have htW:u1 * W32 + u2 < W64:=by
      have:(u1 + 1) * W32≤W32 * W32:=Nat.mul_le_mul_right _ hu1.out
      rw [Nat.add_mul,ZeE] at this; have:=hu2.out; omega
     have s2:=ZdQ (a:=u1 * W32) (b:=u2) (by omega) (by omega)
     rw [or32 u1 u2 hu2.out] at s2
     obtain ⟨a1,ea1⟩:∃ a1,u1 * W32=a1:=⟨_,rfl⟩
     rw [ea1] at s1 s2 HLd htW
     obtain ⟨top,etop⟩:∃ top,a1 + u2=top:=⟨_,rfl⟩
     rw [etop] at s2 HLd htW
     have hv1b:((v1:Int) == 0)=false:=by have:=hv10.out; simp; omega
     have htW':=zh htW
     have i1:IntKind.i64.wrap ((j:Int) + ((kk:Int) + 2))=(j:Int) + ((kk:Int) + 2):=IntWalk.i64_in _ (by omega)
     have i2:((j:Int) + ((kk:Int) + 2)).toNat=j + (kk + 2):=by omega
     have i3:IntKind.i64.wrap ((j:Int) + ((kk:Int) + 2) - 1)=(j:Int) + ((kk:Int) + 1):=by rw [show (j:Int) + ((kk:Int) + 2) - 1=(j:Int) + ((kk:Int) + 1) by omega]; exact IntWalk.i64_in _ (by omega)
     have i4:((j:Int) + ((kk:Int) + 1)).toNat=j + (kk + 1):=by omega
     have r1:(top:Int).tdiv (v1:Int)=((top / v1:Nat):Int):=by rw [Int.tdiv_eq_ediv_of_nonneg (by omega)]; rfl
     have r1':(top:Int) / (v1:Int)=((top / v1:Nat):Int):=rfl
     have r2:(top:Int).tmod (v1:Int)=((top % v1:Nat):Int):=by rw [Int.tmod_eq_emod_of_nonneg (by omega)]; rfl
     have r2':(top:Int) % (v1:Int)=((top % v1:Nat):Int):=rfl
     have r3:IntKind.u64.wrap ((top / v1:Nat):Int)=((top / v1:Nat):Int):=ZaQ _ (Nat.lt_of_le_of_lt (Nat.div_le_self _ _) htW)
     have HCS:Hid (ZbA (val W32 (rs.drop j)) V top v1 (top / v1) (top % v1)):=ZbA.start HLd.out
     have hh0:Hid (top / v1 < W64):=Nat.lt_of_le_of_lt (Nat.div_le_self _ _) htW
     have hr0:Hid (top % v1 < W32):=Nat.lt_trans (Nat.mod_lt _ hv10.out) hv1.out
     obtain ⟨h0,eh0⟩:∃ h0,top / v1=h0:=⟨_,rfl⟩
     obtain ⟨r0,er0⟩:∃ r0,top % v1=r0:=⟨_,rfl⟩
     rw [eh0] at r1 r1' r3 HCS hh0
     rw [er0] at r2 r2' HCS hr0
     have hv1p:0 < v1:=hv10.out
     clear q1 q2 q3 hwl hrl' eu1 eu2 eu3 ev1 ev2 hn2 HL ea1 etop htW eh0 er0
     go_wp2
     go_quiet (fail)
     go_upto_block 4 with fail
     clear r1 r1' r2 r2' r3 i1 i2 i3 i4 s1 s2 c1 c2' w1 w2
     obtain ⟨U,eU⟩:∃ U,val W32 (rs.drop j)=U:=⟨_,rfl⟩
     have HU:=zh eU
     rw [eU] at HCS HLd
     clear eU
     go_cut [16,17] from 115 to 150 (fun hv _ wx=>∃ (h n2:Nat),hv=.int .u64 (h:Int)∧Hid (h < W32)∧Hid (ZcB U V h)∧Hid (wx=wo.drewN n2))
     case first =>
      go_wp2_with fail
      go_loopw [16,17] (fun hv rv wx=>∃ (h r n2:Nat),hv=.int .u64 (h:Int)∧rv=.int .u64 (r:Int)∧Hid (ZbA U V top v1 h r)∧Hid (r < W32)∧Hid (h < W64)∧Hid (wx=wo.drewN n2)) (fun hv _ _=>(intOf hv).toNat)
      case atStart=>exact ⟨h0,r0,_,rfl,rfl,HCS,hr0,hh0,rfl⟩
      case round =>
       obtain ⟨h,r,n2,rfl,rfl,hC,hr,hhW,hw⟩:=hrel
       obtain rfl:=hw.out
       clear hw HCS hh0 hr0
       have a3:=Zbn (a:=r) (b:=v1) (by have:=hr.out; have:=hv1.out; have:=Zap; have:=Zah; omega)
       obtain ⟨r',er'⟩:∃ r',r + v1=r':=⟨_,rfl⟩
       rw [er'] at a3
       by_cases hbig:W32≤h
       ·obtain ⟨hp,hC2⟩:=hC.out.big HLd.out hbig
        rw [er'] at hC2
        have g1:decide ((4294967296:Int)≤(h:Int))=true:=by rw [decide_eq_true_eq]; have:=Zap; omega
        have g1':decide (4294967296≤h)=true:=by rw [decide_eq_true_eq]; have:=Zap; omega
        have a2:=ZbS hp hhW.out
        obtain ⟨h1,eh1⟩:∃ h1,h - 1=h1:=⟨_,rfl⟩
        rw [eh1] at a2 hC2
        have HC2:=zh hC2
        have hlt1:h1 < h:=by omega
        have hh1:Hid (h1 < W64):=by have:=hhW.out; unfold Hid; omega
        clear hC2 hbig er' eh1 hp hC hr hhW
        by_cases hb2:W32≤r'
        ·have g2:decide ((4294967296:Int)≤(r':Int))=true:=by rw [decide_eq_true_eq]; have:=Zap; omega
         have g2':decide (4294967296≤r')=true:=by rw [decide_eq_true_eq]; have:=Zap; omega
         have HB:=zh (HC2.out.broke HLd.out hb2)
         clear hb2 HC2
         go_wp2
         go_quiet (fail)
         go_wp2
         go_meet
         exact ⟨h1,_,rfl,HB.out.1,HB.out.2,rfl⟩
        ·have g2:decide ((4294967296:Int)≤(r':Int))=false:=by rw [decide_eq_false_iff_not]; have:=Zap; omega
         have g2':decide (4294967296≤r')=false:=by rw [decide_eq_false_iff_not]; have:=Zap; omega
         have hr2:Hid (r' < W32):=by unfold Hid; omega
         clear hb2
         go_wp2
         go_quiet (fail)
         go_wp2
         go_roundw
         case rel=>exact ⟨h1,r',_,rfl,rfl,HC2,hr2,hh1,rfl⟩
         case measure=>simp [intOf]; omega
       ·have g1:decide ((4294967296:Int)≤(h:Int))=false:=by rw [decide_eq_false_iff_not]; have:=Zap; omega
        have g1':decide (4294967296≤h)=false:=by rw [decide_eq_false_iff_not]; have:=Zap; omega
        have hhB:Hid (h < W32):=by unfold Hid; omega
        have hpW:h * v2 < W64:=by
         rw [← ZeE]
         exact Nat.mul_lt_mul'' hhB.out hv2.out
        have m1:=Zck (a:=h) (b:=v2) hpW
        have m2:=Znb r hr.out
        have m3:r * W32 + u3 < W64:=by
         have:(r + 1) * W32≤W32 * W32:=Nat.mul_le_mul_right _ hr.out
         rw [Nat.add_mul,ZeE] at this; have:=hu3.out; omega
        have m4:=ZdQ (a:=r * W32) (b:=u3) (by omega) (by omega)
        rw [or32 r u3 hu3.out] at m4
        have i1:IntKind.i64.wrap ((kk:Int) + 2 - 2)=(kk:Int):=by rw [show (kk:Int) + 2 - 2=(kk:Int) by omega]; exact IntWalk.i64_in _ (by omega)
        have i3:IntKind.i64.wrap ((j:Int) + ((kk:Int) + 2))=(j:Int) + ((kk:Int) + 2):=IntWalk.i64_in _ (by omega)
        have i4:IntKind.i64.wrap ((j:Int) + ((kk:Int) + 2) - 2)=(j:Int) + (kk:Int):=by rw [show (j:Int) + ((kk:Int) + 2) - 2=(j:Int) + (kk:Int) by omega]; exact IntWalk.i64_in _ (by omega)
        have i5:((j:Int) + (kk:Int)).toNat=j + kk:=by omega
        have hjk:(j:Int) + (kk:Int) < (xs.length:Int) + 1:=by omega
        have hC0:=hC
        have hm0:∀ a b:Nat,h * v2=a→r * W32 + u3=b→Hid ((b < a→0 < h∧ZbA U V top v1 (h - 1) (r + v1))∧(¬ b < a→ZcB U V h)):=by
         intro a b ea eb
         refine ⟨fun hlt=>hC0.out.more HLd.out (by omega),fun hge=>hC0.out.done HLd.out hhB.out (by omega)⟩
        obtain ⟨p,ep⟩:∃ p,h * v2=p:=⟨_,rfl⟩
        rw [ep] at m1
        obtain ⟨a1,ea1⟩:∃ a1,r * W32=a1:=⟨_,rfl⟩
        rw [ea1] at m2 m4
        obtain ⟨q,eq⟩:∃ q,a1 + u3=q:=⟨_,rfl⟩
        rw [eq] at m4
        have HM:=hm0 p q ep (by omega)
        rw [er'] at HM
        clear hm0 hC0 hC ep ea1 eq hpW m3 hbig
        by_cases hmore:q < p
        ·obtain ⟨hp,hC2⟩:=HM.out.1 hmore
         have t2:=ZcT hmore
         have a2:=ZbS hp hhW.out
         obtain ⟨h1,eh1⟩:∃ h1,h - 1=h1:=⟨_,rfl⟩
         rw [eh1] at a2 hC2
         have HC2:=zh hC2
         have hlt1:h1 < h:=by omega
         have hh1:Hid (h1 < W64):=by have:=hhW.out; unfold Hid; omega
         clear hC2 er' eh1 hp hr hhW HM hmore
         by_cases hb2:W32≤r'
         ·have g2:decide ((4294967296:Int)≤(r':Int))=true:=by rw [decide_eq_true_eq]; have:=Zap; omega
          have g2':decide (4294967296≤r')=true:=by rw [decide_eq_true_eq]; have:=Zap; omega
          have HB:=zh (HC2.out.broke HLd.out hb2)
          clear hb2 HC2
          go_wp2
          go_quiet (fail)
          go_wp2
          go_meet
          exact ⟨h1,_,rfl,HB.out.1,HB.out.2,rfl⟩
         ·have g2:decide ((4294967296:Int)≤(r':Int))=false:=by rw [decide_eq_false_iff_not]; have:=Zap; omega
          have g2':decide (4294967296≤r')=false:=by rw [decide_eq_false_iff_not]; have:=Zap; omega
          have hr2:Hid (r' < W32):=by unfold Hid; omega
          clear hb2
          go_wp2
          go_quiet (fail)
          go_wp2
          go_roundw
          case rel=>exact ⟨h1,r',_,rfl,rfl,HC2,hr2,hh1,rfl⟩
          case measure=>simp [intOf]; omega
        ·have HD:=zh (HM.out.2 hmore)
         have t2:=Zcs hmore
         clear HM hmore er'
         go_wp2
         go_quiet (fail)
         go_wp2
         go_meet
         exact ⟨h,_,rfl,hhB,HD,World.drewN_drewN _ _ _⟩
     case rest =>
      obtain ⟨h,n2,rfl,hhB,hDg,hw⟩:=hcut
      obtain rfl:=hw.out
      clear hw HCS hh0 hr0 c3 d1 d2 w3 w4 w5 hv1b
      have hrl':=hrl.out
      have hlp:Hid ((rs.take j).length=j):=by unfold Hid; simp; omega
      have hw0l:Hid (((rs.drop j).take (kk + 2)).length=kk + 2):=by unfold Hid; simp; omega
      have HO3:Hid (Own .u32 329 (wo.drewN n2) R (rs.take j ++ (rs.drop j).take (kk + 2) ++ rs.drop (j + (kk + 2)))):=by rw [ZnT]; exact hO1.out.drewN _
      have HMS:Hid (Ze1 ((rs.drop j).take (kk + 2)) vs h 0 ((rs.drop j).take (kk + 2)) 0 0):=Ze1.start ((hR.out.1.drop j).take _)
      obtain ⟨w0,ew0⟩:∃ w0,(rs.drop j).take (kk + 2)=w0:=⟨_,rfl⟩
      have HW0:=zh ew0
      rw [ew0] at hw0l HO3 HMS
      clear hrl' ew0
      go_wp2_with fail
      go_loopw [18,19,20] (fun cv bv iv wx=>∃ (i cc bw:Nat) (m:List Nat),i≤kk + 2∧iv=.int .i64 (i:Int)∧cv=.int .u64 (cc:Int)∧bv=.int .u64 (bw:Int)∧Hid (Ze1 w0 vs h i m cc bw)∧Hid (Own .u32 329 wx R (rs.take j ++ m ++ rs.drop (j + (kk + 2))))∧Hid (Fr (· = R) wo wx)) (fun _ _ iv _=>kk + 2 - (intOf iv).toNat)
      case atStart=>exact ⟨0,0,0,w0,by omega,rfl,rfl,rfl,HMS,HO3,(Fr.refl _ _).drewN _⟩
      case round =>
       obtain ⟨i,cc,bw,m,hi,rfl,rfl,rfl,hM,hO3,hF3⟩:=hrel
       clear HMS HO3
       by_cases hlt2:i < kk + 2
       ·have hml:m.length=kk + 2:=by rw [hM.out.1]; exact hw0l.out
        obtain ⟨x,ex⟩:∃ x,vs[i]?.getD 0=x:=⟨_,rfl⟩
        obtain ⟨z,ez⟩:∃ z,m[i]?.getD 0=z:=⟨_,rfl⟩
        have hx32:x < W32:=ex ▸ Hdv.out.getD Zao _
        have hz32:z < W32:=ez ▸ hM.out.2.1.getD Zao _
        have hcc:=hM.out.2.2.1
        have hbw:=hM.out.2.2.2.1
        have HSVx:Zan .u32 wr (some ⟨Vb,0,none⟩) vs:=(HSV.out.ext hF1.out).fr hF3.out (fun a ha _=>by injection ha with ha; subst ha; have:=hAR.out; show Vb≠R; omega)
        have dx:=HSVx.cell0 (i:=i) (by rw [Hn1.out]; omega)
        rw [ex,Nat.zero_add] at dx
        have hcz:=hO3.out.mid32 (k:=i) (by omega)
        have hfz:=hO3.out.frozen (i + j)
        rw [hlp.out,ez,Nat.add_comm j i] at hcz
        have HM2:=zh (hM.out.step (by rw [hw0l.out]; omega) (by rw [Hn1.out]; omega) hhB.out ez ex Hdv.out)
        have hpb:=Zk9 hhB.out hx32 hcc
        rw [ZeE] at hpb
        have q0:=ZaQ x (by have:=Zah; have:=Zap; omega)
        have q0':=ZaQ z (by have:=Zah; have:=Zap; omega)
        have q1:=Zck (a:=h) (b:=x) (by omega)
        have q2:=Zbn (a:=h * x) (b:=cc) hpb
        obtain ⟨hx,ehx⟩:∃ hx,h * x=hx:=⟨_,rfl⟩
        rw [ehx] at q1 q2 HM2 hpb
        obtain ⟨p,ep⟩:∃ p,hx + cc=p:=⟨_,rfl⟩
        rw [ep] at q2 HM2 hpb
        have q3:=hi32 p
        have q4:=Zq4 p hpb
        have hpl:p % W32 < W32:=Nat.mod_lt _ Zao
        obtain ⟨pl,epl⟩:∃ pl,p % W32=pl:=⟨_,rfl⟩
        obtain ⟨ph,eph⟩:∃ ph,p / W32=ph:=⟨_,rfl⟩
        rw [eph] at q3 HM2
        rw [epl] at q4 HM2 hpl
        have q5:=ZmB hz32 hpl
        have q6:=ZmC hz32 hpl hbw
        have q7:=Zcp (d32 z pl bw)
        have q8:=hi32 (d32 z pl bw)
        have q9:=Zqo (d32 z pl bw / W32) (Nat.lt_of_le_of_lt (Nat.div_le_self _ _) (Zq0 _ _ _))
        have HO4:=zh (hO3.out.set_mid32 (k:=i) (by omega) (d32 z pl bw % W32))
        rw [hlp.out,Nat.add_comm j i] at HO4
        obtain ⟨e1,ee1⟩:∃ a,d32 z pl 0=a:=⟨_,rfl⟩
        obtain ⟨e2,ee2⟩:∃ a,d32 z pl bw=a:=⟨_,rfl⟩
        rw [ee1] at q5 q6
        rw [ee2] at q6 q7 q8 q9 HO4 HM2
        obtain ⟨lo,elo⟩:∃ lo,e2 % W32=lo:=⟨_,rfl⟩
        obtain ⟨hi2,ehi2⟩:∃ hi2,e2 / W32=hi2:=⟨_,rfl⟩
        rw [elo] at q7 HM2 HO4
        rw [ehi2] at q8 q9 HM2
        obtain ⟨bw2,ebw2⟩:∃ bw2,hi2 % 2=bw2:=⟨_,rfl⟩
        rw [ebw2] at q9 HM2
        have hij:(i:Int) + (j:Int) < (xs.length:Int) + 1:=by omega
        have hij2:i + j < xs.length + 1:=by omega
        clear hml ex ez hx32 hz32 hcc hbw HSVx hpb ehx ep hpl epl eph ee1 ee2 elo ehi2 ebw2
        go_wp2
        go_roundw
        case rel=>exact ⟨i + 1,ph,bw2,_,by omega,by go_num,rfl,rfl,HM2,HO4.out,hF3.out.setCell (p:=⟨R,i + j,none⟩) (Or.inl rfl) _⟩
        case measure=>simp [intOf]; omega
       ·obtain rfl:i=kk + 2:=by omega
        have hml:m.length=kk + 2:=by rw [hM.out.1]; exact hw0l.out
        have hrl':=hrl.out
        have hlp':=hlp.out
        have hw0l':=hw0l.out
        have hcc:=hM.out.2.2.1
        have hbw:=hM.out.2.2.2.1
        have hdm:=hM.out.2.1
        have hms:=hM.out.2.2.2.2.2
        rw [List.take_of_length_le (by omega),List.take_of_length_le (by rw [Hn1.out]; omega),List.take_of_length_le (by omega),HV.out] at hms
        have hlen6:j + (kk + 2) < (rs.take j ++ m ++ rs.drop (j + (kk + 2))).length:=by simp; omega
        have hct:=hO3.out.cell hlen6
        have hft:=hO3.out.frozen (j + (kk + 2))
        rw [Zms _ _ _ _ _ hlp' hml] at hct
        obtain ⟨tw,etw⟩:∃ tw,rs[j + (kk + 2)]?.getD 0=tw:=⟨_,rfl⟩
        rw [etw] at hct
        have htw:tw < W32:=etw ▸ hR.out.1.getD Zao _
        have hu:U=val W32 w0 + W32 ^ (kk + 2) * tw:=by
         obtain ⟨q1,_,_⟩:=hR.out.window hV.out (by omega)
         rw [← HU.out,q1,Zal (kk + 2) (by simp; omega),List.getElem?_drop,etw,HW0.out]
        have hmP:val W32 m < W32 ^ (kk + 2):=by have:=ZaX hdm; rw [hml] at this; exact this
        have hql:qs.length=xs.length - (kk + 2) + 1:=by have:=hR.out.2.2.1; omega
        have q0:=ZaQ tw (by have:=Zah; have:=Zap; omega)
        have q5:=ZmB htw hcc
        have q6:=ZmC htw hcc hbw
        have q7:=Zcp (d32 tw cc bw)
        have q8:=Zqx htw hcc hbw
        have q9:((d32 tw cc bw:Nat):Int) / 9223372036854775808=((d32 tw cc bw / 9223372036854775808:Nat):Int):=by omega
        rw [q8] at q9
        have hhm:h % W32=h:=Nat.mod_eq_of_lt hhB.out
        have q10:=Zcp h
        rw [hhm] at q10
        have hO7:=hO3.out.set (j + (kk + 2)) (d32 tw cc bw % W32) hlen6
        rw [Zjc _ _ _ _ _ _ hlp' hml (by omega)] at hO7
        have hjq:j < qs.length:=by omega
        obtain ⟨e1,ee1⟩:∃ a,d32 tw cc 0=a:=⟨_,rfl⟩
        obtain ⟨e2,ee2⟩:∃ a,d32 tw cc bw=a:=⟨_,rfl⟩
        by_cases hle:cc + bw≤tw
        ·rw [if_neg (by omega)] at q9
         obtain ⟨k1,k2,k3⟩:=ZiB (v:=V) hV.out hu hDg.out hms hle
         have HR2:=zh (hR.out.step (q:=h) hV0.out hV.out (by omega) hml hdm (by rw [HU.out]; exact k1) (by rw [HU.out]; exact k2))
         have k4:=ZpF k3
         rw [k4] at hO7 q7
         rw [ee1] at q5 q6
         rw [ee2] at q6 q7 q9
         have hF7:Fr (· = R) wr (wr.setCell ⟨R,j + (kk + 2),none⟩ (.int .u32 ((0:Nat):Int))):=(Fr.refl (· = R) wr).setCell (p:=⟨R,j + (kk + 2),none⟩) (Or.inl rfl) _
         have hO8:=(hO2.out.fr hF3.out (by have:=hRlt.out; omega)).fr hF7 (by have:=hRlt.out; omega)
         have hcq:=hO8.cell hjq
         have hfq:=hO8.frozen j
         obtain ⟨z0,ez0⟩:∃ z0,qs[j]?.getD 0=z0:=⟨_,rfl⟩
         rw [ez0] at hcq
         have HO9:=zh (hO8.set j h hjq)
         have HO10:=zh (hO7.far (p:=⟨Qb,j,none⟩) (by have:=hRlt.out; show R≠Qb; omega) (.int .u32 (h:Int)))
         have HF10:Hid (Ext wD ((wr.setCell ⟨R,j + (kk + 2),none⟩ (.int .u32 ((0:Nat):Int))).setCell ⟨Qb,j,none⟩ (.int .u32 (h:Int)))):=((hF1.out.next hF3.out (fun i hi e=>by have:=HR.out; omega)).next hF7 (fun i hi e=>by have:=HR.out; omega)).setCell (Or.inr (by have:=HR.out; have:=hRlt.out; show wD.heap.size≤Qb; omega)) _
         have hnl:Hid ((rs.take j ++ m ++ (0 :: rs.drop (j + (kk + 2) + 1))).length=xs.length + 1):=by unfold Hid; simp; omega
         have hjx:(j:Int) + ((kk:Int) + 2) < (xs.length:Int) + 1:=by omega
         clear hml hrl' hlp' hw0l' hcc hbw hdm hms hlen6 etw htw hu hmP q8 hhm hO7 hO8 hF7 ez0 ee1 ee2 hle k1 k2 k3 k4 hO3
         simp only [Int.ofNat_zero] at *
         go_wp2
         go_roundw
         case rel=>exact ⟨j,_,_,by omega,rfl,HR2,hnl,HO10.out,HO9.out,HF10.out⟩
         case measure=>simp [intOf]
        ·rw [if_pos (by omega)] at q9
         have hlt3:Hid (tw < cc + bw):=by unfold Hid; omega
         have hd0:0 < h:=by
          rcases Nat.eq_zero_or_pos h with e | e
          ·subst e
           have:W32 ^ (kk + 2) * 1≤W32 ^ (kk + 2) * (cc + bw):=Nat.mul_le_mul_left _ (by omega)
           omega
          ·exact e
         have g2:=ZbS hd0 (by have:=hhB.out; have:=Zap; have:=Zah; omega)
         obtain ⟨h1,eh1⟩:∃ h1,h - 1=h1:=⟨_,rfl⟩
         rw [eh1] at g2
         have q11:=Zcp h1
         rw [Nat.mod_eq_of_lt (by have:=hhB.out; omega)] at q11
         rw [ee1] at q5 q6
         rw [ee2] at q6 q7 q9 hO7
         have hodd:Hid (∀ c',c' + tw=cc + bw→c'≤1→(e2 % W32 + c') % W32=0):=fun c' hc1 hc2=>by rw [← ee2]; exact Zqy hc1 hcc hbw hc2 hlt3.out
         have ht2W:Hid (e2 % W32 < W32):=Nat.mod_lt _ Zao
         obtain ⟨t2,et2⟩:∃ t2,e2 % W32=t2:=⟨_,rfl⟩
         rw [et2] at q7 hO7 hodd ht2W
         have hF7:Fr (· = R) wr (wr.setCell ⟨R,j + (kk + 2),none⟩ (.int .u32 (t2:Int))):=(Fr.refl (· = R) wr).setCell (p:=⟨R,j + (kk + 2),none⟩) (Or.inl rfl) _
         have HO7:=zh hO7
         have HO8:=zh ((hO2.out.fr hF3.out (by have:=hRlt.out; omega)).fr hF7 (by have:=hRlt.out; omega))
         have HF8:Hid (Ext wD (wr.setCell ⟨R,j + (kk + 2),none⟩ (.int .u32 (t2:Int)))):=(hF1.out.next hF3.out (fun i hi e=>by have:=HR.out; omega)).next hF7 (fun i hi e=>by have:=HR.out; omega)
         have HSV7:Hid (Zan .u32 (wr.setCell ⟨R,j + (kk + 2),none⟩ (.int .u32 (t2:Int))) (some ⟨Vb,0,none⟩) vs):=((HSV.out.ext hF1.out).fr hF3.out (fun a ha _=>by injection ha with ha; subst ha; have:=hAR.out; show Vb≠R; omega)).fr hF7 (fun a ha _=>by injection ha with ha; subst ha; have:=hAR.out; show Vb≠R; omega)
         have HdM:Hid (Dig W32 m):=hdm
         have Hml:=zh hml
         have Hu:=zh hu
         have Hms:=zh hms
         have HmP:=zh hmP
         have Hh1:=zh eh1
         have Hql:=zh hql
         have hjx:(j:Int) + ((kk:Int) + 2) < (xs.length:Int) + 1:=by omega
         have HAD:Hid (Ze2 m vs 0 m 0):=Ze2.start hdm
         clear hml hrl' hlp' hw0l' hcc hbw hdm hms hlen6 etw htw hu hmP q8 hhm hO7 hF7 ee1 ee2 hle hO3 hd0 eh1 et2 hql hM hF3 hlt2 hi
         simp only [Int.ofNat_one] at *
         go_wp2
         generalize hw7:wr.setCell ⟨R,j + (kk + 2),none⟩ (.int .u32 (t2:Int))=w7 at *
         clear hw7 hct hft q0 q5 q6 q7 q9 q10 g2
         obtain ⟨wo7,rfl⟩:∃ wo7:World,wo7=wr:=⟨_,rfl⟩
         go_loopw [18,24] (fun cv iv wr=>∃ (i c':Nat) (m2:List Nat),i≤kk + 2∧iv=.int .i64 (i:Int)∧cv=.int .u64 (c':Int)∧Hid (Ze2 m vs i m2 c')∧Hid (Own .u32 329 wr R (rs.take j ++ m2 ++ (t2 :: rs.drop (j + (kk + 2) + 1))))∧Hid (Fr (· = R) w7 wr)) (fun _ iv _=>kk + 2 - (intOf iv).toNat)
         case atStart=>exact ⟨0,0,m,by omega,rfl,rfl,HAD,HO7,Fr.refl _ _⟩
         case round =>
          obtain ⟨i,c',m2,hi,rfl,rfl,hA,hO9,hF9⟩:=hrel
          clear HAD HO7
          by_cases hlt4:i < kk + 2
          ·have hml:m2.length=kk + 2:=by rw [hA.out.1]; exact Hml.out
           obtain ⟨x,ex⟩:∃ x,vs[i]?.getD 0=x:=⟨_,rfl⟩
           obtain ⟨z,ez⟩:∃ z,m2[i]?.getD 0=z:=⟨_,rfl⟩
           have hx32:x < W32:=ex ▸ Hdv.out.getD Zao _
           have hz32:z < W32:=ez ▸ hA.out.2.1.getD Zao _
           have hcc:=hA.out.2.2.1
           have HSVx:Zan .u32 wr (some ⟨Vb,0,none⟩) vs:=HSV7.out.fr hF9.out (fun a ha _=>by injection ha with ha; subst ha; have:=hAR.out; show Vb≠R; omega)
           have dx:=HSVx.cell0 (i:=i) (by rw [Hn1.out]; omega)
           rw [ex,Nat.zero_add] at dx
           have hcz:=hO9.out.mid32 (k:=i) (by omega)
           have hfz:=hO9.out.frozen (i + j)
           rw [hlp.out,ez,Nat.add_comm j i] at hcz
           have HA2:=zh (hA.out.step (by rw [Hml.out]; omega) (by rw [Hn1.out]; omega) ez ex Hdv.out)
           have q0:=ZaQ x (by have:=Zah; have:=Zap; omega)
           have q0':=ZaQ z (by have:=Zah; have:=Zap; omega)
           have q1:=Zbn (a:=z) (b:=x) (by have:=Zah; have:=Zap; omega)
           have q2:=Zbn (a:=c') (b:=z + x) (by have:=Zah; have:=Zap; omega)
           obtain ⟨zx,ezx⟩:∃ zx,z + x=zx:=⟨_,rfl⟩
           rw [ezx] at q1 q2 HA2
           obtain ⟨p,ep⟩:∃ p,c' + zx=p:=⟨_,rfl⟩
           rw [ep] at q2 HA2
           have q3:=hi32 p
           have q4:=Zcp p
           have HO4:=zh (hO9.out.set_mid32 (k:=i) (by omega) (p % W32))
           rw [hlp.out,Nat.add_comm j i] at HO4
           obtain ⟨lo,elo⟩:∃ lo,p % W32=lo:=⟨_,rfl⟩
           obtain ⟨ph,eph⟩:∃ ph,p / W32=ph:=⟨_,rfl⟩
           rw [elo] at q4 HA2 HO4
           rw [eph] at q3 HA2
           have hij:(i:Int) + (j:Int) < (xs.length:Int) + 1:=by omega
           have i1:IntKind.i64.wrap ((i:Int) + (j:Int))=(i:Int) + (j:Int):=IntWalk.i64_in _ (by omega)
           have i2:((i:Int) + (j:Int)).toNat=i + j:=by omega
           clear hml ex ez hx32 hz32 hcc HSVx ezx ep elo eph
           go_wp2
           go_quiet (fail)
           clear i1 i2
           go_wp2
           go_roundw
           case rel=>exact ⟨i + 1,ph,_,by omega,by go_num,rfl,HA2,HO4.out,(hF9.out.drewN _).setCell (p:=⟨R,i + j,none⟩) (Or.inl rfl) _⟩
           case measure=>simp [intOf]; omega
          ·obtain rfl:i=kk + 2:=by omega
           have hml:m2.length=kk + 2:=by rw [hA.out.1]; exact Hml.out
           have hsum:=hA.out.2.2.2.2
           rw [List.take_of_length_le (by omega),List.take_of_length_le (by rw [Hml.out]; omega),List.take_of_length_le (by rw [Hn1.out]; omega),HV.out] at hsum
           obtain ⟨_,k2,k3,k4⟩:=ZjR hV0.out hV.out Hu.out hDg.out Hms.out hlt3.out HmP.out hsum (by have:=ZaX hA.out.2.1; rw [hml] at this; exact this)
           have hodd2:=hodd.out c' k4 hA.out.2.2.1
           have ht2:=ht2W.out
           have hc1:=hA.out.2.2.1
           have g5:=Zcp c'
           rw [Nat.mod_eq_of_lt (by have:=Zja; omega)] at g5
           have g3:IntKind.u32.wrap ((t2:Int) + (c':Int))=0:=by
            rw [IntKind.wrap_u32]; rw [Zap] at hodd2; omega
           have g3':((t2:Int) + (c':Int)) % 4294967296=0:=by rw [Zap] at hodd2; omega
           rw [Hh1.out] at k2
           have hrl':=hrl.out
           have hql':=Hql.out
           have hlen2:j + (kk + 2) < (rs.take j ++ m2 ++ (t2 :: rs.drop (j + (kk + 2) + 1))).length:=by simp; omega
           have hct:=hO9.out.cell hlen2
           have hft:=hO9.out.frozen (j + (kk + 2))
           rw [ZkU _ _ _ _ _ _ hlp.out hml] at hct
           have hO13:=hO9.out.set (j + (kk + 2)) 0 hlen2
           rw [ZkT _ _ _ _ _ _ _ hlp.out hml] at hO13
           have hF13:Fr (· = R) w7 (wr.setCell ⟨R,j + (kk + 2),none⟩ (.int .u32 ((0:Nat):Int))):=hF9.out.setCell (p:=⟨R,j + (kk + 2),none⟩) (Or.inl rfl) _
           have hO14:=HO8.out.fr hF13 (by have:=hRlt.out; omega)
           have hjq:j < qs.length:=by omega
           have hcq:=hO14.cell hjq
           have hfq:=hO14.frozen j
           obtain ⟨z0,ez0⟩:∃ z0,qs[j]?.getD 0=z0:=⟨_,rfl⟩
           rw [ez0] at hcq
           have HR2:=zh (hR.out.step (q:=h1) hV0.out hV.out (by omega) hml hA.out.2.1 (by rw [HU.out]; exact k2) (by rw [HU.out]; exact k3))
           have HO15:=zh (hO14.set j h1 hjq)
           have HO16:=zh (hO13.far (p:=⟨Qb,j,none⟩) (by have:=hRlt.out; show R≠Qb; omega) (.int .u32 (h1:Int)))
           have HF16:Hid (Ext wD ((wr.setCell ⟨R,j + (kk + 2),none⟩ (.int .u32 ((0:Nat):Int))).setCell ⟨Qb,j,none⟩ (.int .u32 (h1:Int)))):=(HF8.out.next hF13 (fun i hi e=>by have:=HR.out; omega)).setCell (Or.inr (by have:=HR.out; have:=hRlt.out; show wD.heap.size≤Qb; omega)) _
           have hnl:Hid ((rs.take j ++ m2 ++ (0 :: rs.drop (j + (kk + 2) + 1))).length=xs.length + 1):=by unfold Hid; simp; omega
           clear hsum k2 k3 k4 hrl' hql' hlen2 hO13 hF13 hO14 ez0 hml hodd2 ht2 hc1
           simp only [Int.ofNat_zero] at *
           go_wp2
           go_roundw
           case rel=>exact ⟨j,_,_,by omega,rfl,HR2,hnl,HO16.out,HO15.out,HF16.out⟩
           case measure=>simp [intOf]
    ·obtain rfl:k=0:=by omega
     obtain ⟨k1,k2⟩:=hR.out.done
     have hrl':=hrl.out
     have hql:qs.length=xs.length - (kk + 2) + 1:=by have:=hR.out.2.2.1; omega
     have hsh:=Zge (val W32 xs) (val W32 ys) (2 ^ s) (Nat.pow_pos (by omega))
     have NQ:=Zam.of_own (c:=xs.length - (kk + 2) + 1) hO2.out hR.out.2.1 (by omega)
     rw [k1,← HXX.out,← HV.out,Hvv.out,hsh.1] at NQ
     rw [← HXX.out,← HV.out,Hvv.out] at k2
     have hrlt:val W32 rs < W32 ^ (kk + 2):=by
      have h1:=hR.out.2.2.2.2
      rw [List.drop_zero] at h1
      have:=hV.out
      omega
     have hrt:val W32 (rs.take (kk + 2))=val W32 rs:=by
      have h1:=ZaJ (B:=W32) (xs:=rs) (kk + 2)
      rw [Nat.min_eq_left (by omega)] at h1
      rcases Nat.eq_zero_or_pos (val W32 (rs.drop (kk + 2))) with h | h
      ·rw [h] at h1; simp at h1; omega
      ·have:W32 ^ (kk + 2) * 1≤W32 ^ (kk + 2) * val W32 (rs.drop (kk + 2)):=Nat.mul_le_mul_left _ h
       omega
     have htl:(rs.take (kk + 2)).length=kk + 2:=by simp; omega
     have hvt:val W32 (ZaS (rs.take (kk + 2)))=val W32 xs * 2 ^ s % (val W32 ys * 2 ^ s):=by rw [Za5,hrt,k2]
     have htt:ZaS (rs.take (kk + 2))=rs.take (ZaS (rs.take (kk + 2))).length:=by
      have h1:=Za1 (rs.take (kk + 2))
      have h2:=ZcE (rs.take (kk + 2)) (rs.take (kk + 2)).length
      rw [h1]
      unfold ZaS
      rw [List.take_take,Nat.min_eq_left (by omega)]
     have hdt:Dig W32 (ZaS (rs.take (kk + 2))):=Zcr (hR.out.1.take _)
     have htle:(ZaS (rs.take (kk + 2))).length≤kk + 2:=by rw [Za1]; have:=ZcE (rs.take (kk + 2)) (rs.take (kk + 2)).length; omega
     have HT0:=zh (Zby (some ⟨R,0,none⟩) (rs.take (kk + 2)) (kk + 2) (xs.length + 1) wr htl (hO1.out.shows0.take _) (by omega) (by omega))
     rw [← Za1] at HT0
     have HTQ:=zh (fun wz (hO:Own .u32 329 wz Qb qs)=>Zby (some ⟨Qb,0,none⟩) qs (xs.length - (kk + 2) + 1) (xs.length - (kk + 2) + 1) wz hql hO.shows0 (by omega) (by omega))
     obtain ⟨ts,ets⟩:∃ ts,ZaS (rs.take (kk + 2))=ts:=⟨_,rfl⟩
     rw [ets] at HT0 hvt htt hdt htle
     obtain ⟨l,el⟩:∃ l,ts.length=l:=⟨_,rfl⟩
     rw [el] at HT0 htt htle
     have Hel:=zh el
     have Htt:=zh htt
     have Hdt:=zh hdt
     have Hvt:=zh hvt
     have Hql:=zh hql
     have Hsh:=zh hsh.2
     have HdQ:Hid (Dig W32 qs):=hR.out.2.1
     have HvQ:Hid (val W32 qs=val W32 xs / val W32 ys):=by unfold Hid; rw [k1,← HXX.out,← HV.out,Hvv.out,hsh.1]
     have hO1':Hid (Own .u32 329 wr R ((List.replicate ts.length 0).take 0 ++ ts.drop 0 ++ rs.drop l)):=by
      unfold Hid
      rw [List.take_zero,List.nil_append,List.drop_zero,htt,List.take_append_drop]
      exact hO1.out
     have hnl:Hid (rs.length=xs.length + 1):=hrl
     have HShr:Hid (Zcu ts s 0 (List.replicate ts.length 0)):=Zcu.start ts s
     have HRlt2:Hid (wD.heap.size≤R):=by have:=HR.out; unfold Hid; omega
     clear k1 k2 hrl' hql hsh NQ hrlt hrt htl hvt htt hdt ets el
     go_wp2_with fail
     refine HT0.out.mono ?_
     rintro e w' ⟨rfl,rfl⟩
     clear HT0
     go_wp2_with fail
     obtain ⟨wo,rfl⟩:∃ wo:World,wo=wr:=⟨_,rfl⟩
     go_loopw [26] (fun iv wr=>∃ (k:Nat) (zs:List Nat),k≤l∧iv=.int .i64 (k:Int)∧Hid (Zcu ts s k zs)∧Hid (Own .u32 329 wr R (zs.take k ++ ts.drop k ++ rs.drop l))∧Hid (Fr (· = R) wo wr)) (fun iv _=>l - (intOf iv).toNat)
     case atStart=>exact ⟨0,_,by omega,rfl,HShr,hO1',Fr.refl _ _⟩
     case round =>
      obtain ⟨k,zs,hkl,rfl,hS,hO5,hF5⟩:=hrel
      clear HShr hO1'
      have hel:=Hel.out
      have hzl:zs.length=ts.length:=hS.out.1
      by_cases hlt2:k < l
      ·obtain ⟨x,ex⟩:∃ x,ts[k]?.getD 0=x:=⟨_,rfl⟩
       have hx32:x < W32:=ex ▸ Hdt.out.getD Zao _
       have hkL:k < (zs.take k ++ ts.drop k ++ rs.drop l).length:=by simp; omega
       have hc1:=hO5.out.cell hkL
       have hf1:=hO5.out.frozen k
       rw [ZhA (Nat.le_refl k) (by omega) hzl,ex] at hc1
       have q3:=Zgl x s
       have hrange:k < xs.length + 1:=by omega
       by_cases hlast:k + 1 < l
       ·obtain ⟨y,ey⟩:∃ y,ts[k + 1]?.getD 0=y:=⟨_,rfl⟩
        have hy32:y < W32:=ey ▸ Hdt.out.getD Zao _
        have HS2:=zh (hS.out.step hs (by omega) ex ey hx32)
        have q1:=ZjY hy32 (by omega:32 - s≤32)
        have q1':=Zcp (y * 2 ^ (32 - s))
        have q2:=Zop (a:=x / 2 ^ s) (b:=y * 2 ^ (32 - s) % W32) (Nat.lt_of_le_of_lt (Nat.div_le_self _ _) hx32) (Nat.mod_lt _ Zao)
        rw [ZpE hs hx32] at q2
        obtain ⟨lo,elo⟩:∃ lo,x / 2 ^ s=lo:=⟨_,rfl⟩
        obtain ⟨hi,ehi⟩:∃ hi,y * 2 ^ (32 - s) % W32=hi:=⟨_,rfl⟩
        obtain ⟨yy,eyy⟩:∃ yy,y * 2 ^ (32 - s)=yy:=⟨_,rfl⟩
        obtain ⟨d,ed⟩:∃ d,x / 2 ^ s + y % 2 ^ s * 2 ^ (32 - s)=d:=⟨_,rfl⟩
        rw [ed] at q2 HS2
        rw [elo] at q2 q3
        rw [ehi] at q1' q2
        rw [eyy] at q1 q1'
        have hO6:=hO5.out.set k lo hkL
        have hf3:=hO6.frozen k
        have hc3:=hO6.cell (i:=k) (by simpa using hkL)
        rw [List.getElem?_set_self hkL,Option.getD_some] at hc3
        have hc4:=hO6.cell (i:=k + 1) (by simp; omega)
        rw [List.getElem?_set_ne (by omega),ZhA (by omega) (by omega) hzl,ey] at hc4
        have hO7:=hO6.set k d (by simpa using hkL)
        rw [List.set_set,Zhz (by omega) hzl] at hO7
        have HO7:=zh hO7
        have q0:=ZaQ y (by have:=Zah; have:=Zap; omega)
        have i1:IntKind.u64.wrap ((32:Int) - (s:Int))=((32 - s:Nat):Int):=by rw [IntKind.wrap_u64]; omega
        obtain ⟨r,er⟩:∃ r,32 - s=r:=⟨_,rfl⟩
        rw [er] at i1 q1
        have i4:min r 64=r:=by omega
        have i2:IntKind.i64.wrap ((k:Int) + 1)=(k:Int) + 1:=IntWalk.i64_in _ (by omega)
        have i3:((k:Int) + 1).toNat=k + 1:=by omega
        have hF7:Hid (∀ n,Fr (· = R) wo (((wr.setCell ⟨R,k,none⟩ (.int .u32 (lo:Int))).drewN n).setCell ⟨R,k,none⟩ (.int .u32 (d:Int)))):=fun n=>((hF5.out.setCell (p:=⟨R,k,none⟩) (Or.inl rfl) _).drewN _).setCell (p:=⟨R,k,none⟩) (Or.inl rfl) _
        clear ex hx32 hkL ey hy32 elo ehi eyy ed hO6 hO7 er
        have hkI:(k:Int) + 1 < (l:Int):=by omega
        go_wp2
        go_region
        all_goals
         go_wp2
         go_roundw
         case rel=>exact ⟨k + 1,_,by omega,by go_num,HS2,HO7.out.drewN _,hF7.out _⟩
         case measure=>simp [intOf]; omega
       ·have HS2:=zh (hS.out.step hs (by omega) ex (show ts[k + 1]?.getD 0=0 by rw [List.getElem?_eq_none (by omega)]; rfl) hx32)
        have e0:x / 2 ^ s + 0 % 2 ^ s * 2 ^ (32 - s)=x / 2 ^ s:=by simp
        rw [e0] at HS2
        obtain ⟨lo,elo⟩:∃ lo,x / 2 ^ s=lo:=⟨_,rfl⟩
        rw [elo] at HS2 q3
        have hO6:=hO5.out.set k lo hkL
        rw [Zhz (by omega) hzl] at hO6
        have HO6:=zh hO6
        have hF7:Hid (Fr (· = R) wo (wr.setCell ⟨R,k,none⟩ (.int .u32 (lo:Int)))):=hF5.out.setCell (p:=⟨R,k,none⟩) (Or.inl rfl) _
        have hkI:¬ ((k:Int) + 1 < (l:Int)):=by omega
        have hkB:decide ((k:Int) + 1 < (l:Int))=false:=by rw [decide_eq_false_iff_not]; omega
        clear ex hx32 hkL e0 elo hO6
        go_wp2
        go_roundw
        case rel=>exact ⟨k + 1,_,by omega,by go_num,HS2,HO6.out,hF7.out⟩
        case measure=>simp [intOf]; omega
      ·obtain rfl:k=l:=by omega
       have hzv:=hS.out
       rw [← Hel.out] at hzv
       have hzd:=hzv.done
       have hO6:=hO5.out
       rw [List.take_of_length_le (by omega),List.drop_of_length_le (by omega:ts.length≤k),List.append_nil] at hO6
       have hO7:=hO6.front
       have NR:=Zam.of_own (c:=xs.length + 1) hO7 hS.out.2.1 (by omega)
       rw [hzd,Hvt.out,Hsh.out,show zs.length=k by omega] at NR
       have HNR:=zh NR
       have HOQ:=zh (hO2.out.fr hF5.out (by have:=hRlt.out; omega))
       have NQ:=Zam.of_own (c:=xs.length - (kk + 2) + 1) HOQ.out HdQ.out (by have:=Hql.out; omega)
       rw [HvQ.out] at NQ
       have HNQ:=zh NQ
       have HTR:=zh (Zby (some ⟨R,0,none⟩) zs k (xs.length + 1) wr (by omega) hO7.shows0 (by omega) (by omega))
       have HTQ2:=zh (HTQ.out wr HOQ.out)
       have HFE:Hid (Ext w wr):=(HFD.out.ext hF1.out).next hF5.out (fun i hi e=>by have:=HFD.out.size; have:=HR.out; omega)
       have hkI:¬ ((k:Int) < (k:Int)):=by omega
       clear hzv hzd hO6 hO7 NR NQ
       go_wp2_with fail
       refine HTQ2.out.mono ?_
       rintro e w' ⟨rfl,rfl⟩
       go_wp2_with fail
       refine HTR.out.mono ?_
       rintro e w' ⟨rfl,rfl⟩
       go_wp2
       go_ret2
       exact ⟨_,_,rfl,HNQ.out,HNR.out,HFE.out⟩
theorem ZiN (xv yv:Value) (x y:Nat) (w:World) (hX:Zam w xv x) (hY:Zam w yv y) (hx:ml x≤17592186044416) (hy:ml y≤17592186044416) (h0:0 < y) :
 Calls Tryz.prog 338 #[xv,yv] w (ZfP w (x / y) (x % y)):=by
 by_cases hlt:x < y
 ·rw [Nat.div_eq_of_lt hlt,Nat.mod_eq_of_lt hlt]
  exact Zoq xv yv x y w hX hY hx hy hlt
 ·have hp:=Zix h0
  by_cases h1:ml y=1
  ·exact Zno xv yv x y w hX hY hx h1 (by omega)
  ·obtain ⟨A,xs,c,rfl,hc,hX,dx,tx,rfl⟩:=hX
   obtain ⟨A2,ys,c2,rfl,hc2,hY,dy,ty,rfl⟩:=hY
   rw [← ZbI dx tx] at hx
   rw [← ZbI dy ty] at h1 hp
   exact Zl2 A A2 xs ys c c2 (ys.length - 2) w hX hY hc hc2 hx (by omega) dx dy tx ty (by omega)
end Go.Proofs.YtcpjeaaapocoeaaGreatDoor
