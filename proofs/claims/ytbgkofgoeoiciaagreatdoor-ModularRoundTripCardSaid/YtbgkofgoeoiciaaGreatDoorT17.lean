/-
 My texts Comb, CrtM, Fermat put together.
-/
import Derived.Test.YtbgkofgoeoiciaaGreatDoorT12
import Derived.Test.YtbgkofgoeoiciaaGreatDoorT03
import Derived.Deep.QuietTactic
import Derived.BigQuiet
import Derived.Outline
import Derived.Deep.RegionWith
import Derived.Deep.DeepCutAuto
namespace Go.Proofs.YtbgkofgoeoiciaaGreatDoor
open Go.RowKit
def IShows (w:World) (A:Option Addr) (zs:List Int):Prop :=
 zs≠[]→∃ b off,A=some ⟨b,off,none⟩∧b < w.heap.size∧∀ i,i < zs.length→w.cell? ⟨b,off + i,none⟩=some (.int .i64 (zs.getD i 0))
def Int64s (zs:List Int):Prop:=∀ z ∈ zs,-9223372036854775808≤z∧z≤9223372036854775807
theorem Int64s.at {zs:List Int} (h:Int64s zs) (i:Nat) : -9223372036854775808≤zs.getD i 0∧zs.getD i 0≤9223372036854775807:=by
 rcases Nat.lt_or_ge i zs.length with hi | hi
 ·rw [List.getD_eq_getElem?_getD,List.getElem?_eq_getElem hi]; exact h _ (List.getElem_mem hi)
 ·rw [List.getD_eq_getElem?_getD,List.getElem?_eq_none hi]; simp
theorem getD_mem {zs:List Int} {i:Nat} (hi:i < zs.length):zs.getD i 0 ∈ zs:=by
 rw [List.getD_eq_getElem?_getD,List.getElem?_eq_getElem hi]; exact List.getElem_mem hi
def crtStep (s:Int × Int) (rp:Int × Int):Int × Int :=
 let k:=((rp.1 % rp.2 + rp.2 - s.1 % rp.2) % rp.2) * (invN (s.2 % rp.2).toNat rp.2.toNat:Int) % rp.2
 (s.1 + s.2 * k,s.2 * rp.2)
def crt (rps:List (Int × Int)):Int × Int:=rps.foldl crtStep (0,1)
def CombIs (rs ps:List Int) (s t:List UInt8) (e:Int):Prop :=
 (rs.length≠ps.length∧s=[]∧t=[]∧e=4) ∨
 (rs.length=ps.length∧64 < ps.length∧s=[]∧t=[]∧e=2) ∨
 (rs.length=ps.length∧ps.length≤64∧(∃ p ∈ ps,¬ Pr p)∧s=[]∧t=[]∧e=1) ∨
 (rs.length=ps.length∧ps.length≤64∧(∀ p ∈ ps,Pr p)∧¬ ps.Nodup∧s=[]∧t=[]∧e=10) ∨
 (rs.length=ps.length∧ps.length≤64∧(∀ p ∈ ps,Pr p)∧ps.Nodup∧s=Lib.itoa (crt (rs.zip ps)).1∧t=Lib.itoa (crt (rs.zip ps)).2∧e=0)
def RetComb (w:World) (rs ps:List Int) (e:Ending) (w':World):Prop :=
 ∃ s t c,e=.returned (.tuple #[.string ⟨s.toArray⟩, .string ⟨t.toArray⟩, .int .i64 c])∧CombIs rs ps s t c∧Ext w w'
theorem crt_step {rs ps:List Int} {k:Nat} (hk:k < ps.length) (hl:rs.length=ps.length):crt ((rs.zip ps).take (k + 1))=crtStep (crt ((rs.zip ps).take k)) (rs.getD k 0,ps.getD k 0):=by
 unfold crt
 rw [List.take_succ_eq_append_getElem (by simp; omega),List.foldl_append]
 simp only [List.foldl_cons,List.foldl_nil,List.getElem_zip]
 rw [List.getD_eq_getElem?_getD,List.getD_eq_getElem?_getD,List.getElem?_eq_getElem hk,List.getElem?_eq_getElem (by omega)]
 rfl
def AllPr (ps:List Int) (k:Nat):Prop:=∀ i,i < k→Pr (ps.getD i 0)
theorem AllPr.all {ps:List Int} (h:AllPr ps ps.length):∀ p ∈ ps,Pr p:=fun p hp=>by
 obtain ⟨i,hi,rfl⟩:=List.getElem_of_mem hp
 have:=h i hi
 rwa [List.getD_eq_getElem?_getD,List.getElem?_eq_getElem hi] at this
theorem AllPr.next {ps:List Int} {k:Nat} (h:AllPr ps k) (hp:Pr (ps.getD k 0)):AllPr ps (k + 1):=fun i hi=>by
 rcases (by omega:i < k∨i=k) with h1 | rfl
 ·exact h i h1
 ·exact hp
theorem nodup_take_succ {ps:List Int} {k:Nat} (hk:k < ps.length):(ps.take (k + 1)).Nodup ↔ (ps.take k).Nodup∧(ps.take k).contains (ps.getD k 0)=false:=by
 rw [List.take_succ_eq_append_getElem hk,List.nodup_append,List.getD_eq_getElem?_getD,List.getElem?_eq_getElem hk]
 simp
 intro _
 constructor
 ·intro h hm; exact h _ hm rfl
 ·intro h a ha e; exact h (e ▸ ha)
theorem crt_bounds {rs ps:List Int} (hl:rs.length=ps.length):∀ k,k≤ps.length→AllPr ps k→0≤(crt ((rs.zip ps).take k)).1∧(crt ((rs.zip ps).take k)).1 < (crt ((rs.zip ps).take k)).2∧(crt ((rs.zip ps).take k)).2≤2147483647 ^ k
 | 0,_,_=>by simp [crt]
 | k + 1,hk,hp=>by
   obtain ⟨h1,h2,h3⟩:=crt_bounds hl k (by omega) (fun i hi=>hp i (by omega))
   have h4:=hp k (by omega)
   rw [crt_step (by omega) hl]
   generalize crt ((rs.zip ps).take k)=s at *
   obtain ⟨v,m⟩:=s
   generalize rs.getD k 0=r
   generalize ps.getD k 0=p at *
   have hp2:=h4.1
   have hp3:=h4.2.1
   simp only [crtStep] at *
   generalize ((r % p + p - v % p) % p) * (invN (m % p).toNat p.toNat:Int)=z
   have hz1:=Int.emod_nonneg z (b:=p) (by omega)
   have hz2:=Int.emod_lt_of_pos z (b:=p) (by omega)
   generalize z % p=k' at *
   have h5:m * k'≤m * (p - 1):=Int.mul_le_mul_of_nonneg_left (by omega) (by omega)
   rw [Int.mul_sub,Int.mul_one] at h5
   refine ⟨Int.add_nonneg h1 (Int.mul_nonneg (by omega) hz1),by omega,?_⟩
   rw [Int.pow_succ]
   exact Int.mul_le_mul h3 hp3 (by omega) (Int.le_trans (by omega) h3)
def CombInv (rs ps:List Int) (w wr:World) (g k:Nat):Prop :=
 ∃ s1 B1 l1 c1 s2 B2 l2 c2,Blk 114 wr g #[.bool s1, .slice B1 l1 c1]∧Blk 114 wr (g + 1) #[.bool s2, .slice B2 l2 c2] ∧
   IntIs wr (.agg #[.bool s1, .slice B1 l1 c1]) (crt ((rs.zip ps).take k)).1∧IntIs wr (.agg #[.bool s2, .slice B2 l2 c2]) (crt ((rs.zip ps).take k)).2∧Ext w wr
theorem keepC {t:TypeId} {w w':World} {g b o:Nat} {x y u:Value} (hc:w.cell? ⟨b,o,none⟩=some u) (hB:Blk t w g #[x,y]) (hF:Ext w w'):w'.cell? ⟨b,o,none⟩=some u∧w'.cell? ⟨g,0,none⟩=some x∧w'.cell? ⟨g,1,none⟩=some y :=
 ⟨(hF.cell (World.block_lt_of_cell? w _ hc) (fun f=>f)).trans hc,(hB.ext hF).cell 0,(hB.ext hF).cell 1⟩
def CombMid (w wr:World) (g:Nat) (v m:Int):Prop :=
 ∃ s1 B1 l1 c1 s2 B2 l2 c2,Blk 114 wr g #[.bool s1, .slice B1 l1 c1]∧Blk 114 wr (g + 1) #[.bool s2, .slice B2 l2 c2] ∧
   IntIs wr (.agg #[.bool s1, .slice B1 l1 c1]) v∧IntIs wr (.agg #[.bool s2, .slice B2 l2 c2]) m∧Ext w wr
theorem comb_mid1 {w w2 wA:World} {g:Nat} {v m:Int} {s1 s2 s:Bool} {B1 B2 B:Option Addr} {l1 c1 l2 c2 l c:Nat} (hg:w.heap.size≤g) (hE:Ext w w2) (hv:Blk 114 w2 g #[.bool s1, .slice B1 l1 c1]) (hm:Blk 114 w2 (g + 1) #[.bool s2, .slice B2 l2 c2])
 (hIm:IntIs w2 (.agg #[.bool s2, .slice B2 l2 c2]) m) (hX:Ext w2 wA) (hA:IntIs wA (.agg #[.bool s, .slice B l c]) v):CombMid w ((wA.setCell ⟨g,0,none⟩ (.bool s)).setCell ⟨g,1,none⟩ (.slice B l c)) g v m:=by
 refine ⟨s,B,l,c,s2,B2,l2,c2,((hv.ext hX).set_ 0 _).set_ 1 _,((hm.ext hX).far (by simp) _).far (by simp) _,hA.store2 (hv.ext hX),(hIm.ext hX).store2 (hv.ext hX),?_⟩
 exact ((hE.trans hX).setCell (Or.inr hg) _).setCell (Or.inr hg) _
theorem comb_mid2 {w w2 wA:World} {g:Nat} {v m:Int} {s1 s2 s:Bool} {B1 B2 B:Option Addr} {l1 c1 l2 c2 l c:Nat} (hg:w.heap.size≤g) (hE:Ext w w2) (hv:Blk 114 w2 g #[.bool s1, .slice B1 l1 c1]) (hm:Blk 114 w2 (g + 1) #[.bool s2, .slice B2 l2 c2])
 (hIv:IntIs w2 (.agg #[.bool s1, .slice B1 l1 c1]) v) (hX:Ext w2 wA) (hA:IntIs wA (.agg #[.bool s, .slice B l c]) m):CombMid w ((wA.setCell ⟨g + 1,0,none⟩ (.bool s)).setCell ⟨g + 1,1,none⟩ (.slice B l c)) g v m:=by
 refine ⟨s1,B1,l1,c1,s,B,l,c,((hv.ext hX).far (by simp) _).far (by simp) _,((hm.ext hX).set_ 0 _).set_ 1 _,(hIv.ext hX).store2 (hm.ext hX),hA.store2 (hm.ext hX),?_⟩
 exact ((hE.trans hX).setCell (Or.inr (Nat.le_succ_of_le hg)) _).setCell (Or.inr (Nat.le_succ_of_le hg)) _
theorem wl_of_pow {z:Int} {k:Nat} (h0:0≤z) (h:z≤2147483647 ^ k) (hk:k≤64):wl z.natAbs < 40:=by
 have h1:wl z.natAbs≤31:=by
  rw [wl_le_iff,W64_pow]
  have h2:z.natAbs≤2147483647 ^ k:=by
   have e:((z.natAbs:Nat):Int)=z:=by omega
   have:((z.natAbs:Nat):Int)≤((2147483647 ^ k:Nat):Int):=by rw [e,Int.natCast_pow]; exact h
   omega
  have h3:2147483647 ^ k≤2147483647 ^ 64:=Nat.pow_le_pow_right (by omega) hk
  have h4:2147483647 ^ 64 < (2 ^ 31) ^ 64:=Nat.pow_lt_pow_left (by decide) (by decide)
  rw [← Nat.pow_mul,Nat.mul_comm 31 64] at h4
  exact Nat.lt_of_le_of_lt h2 (Nat.lt_of_le_of_lt h3 h4)
 omega
set_option maxHeartbeats 4000000 in
set_option maxRecDepth 100000 in
theorem Combine_any (A A2:Option Addr) (rs ps:List Int) (n m c c2:Nat) (w:World) (hg:Glob w) (hn:rs.length=n) (hm:ps.length=m) (hR:IShows w A rs) (hP:IShows w A2 ps) (iR:Int64s rs) (iP:Int64s ps)
 (hc2:m≤c2) (hnl:n≤1099511627776) (hml:m≤1099511627776) :
 Calls Tryz.prog 72 #[.slice A n c, .slice A2 m c2] w (RetComb w rs ps):=by
 have HN:=zh hn
 have HM:=zh hm
 have HG:=zh hg
 have HR:=zh hR
 have HP:=zh hP
 have IR:=zh iR
 have IP:=zh iP
 clear hn hm hg hR hP iR iP
 by_cases hnm:n=m
 ·subst hnm
  by_cases hbig:64 < n
  ·go_enter Tryz.func72,Tryz.ntmps72
   go_wp2
   go_ret3
   exact ⟨[],[],2,rfl,Or.inr (Or.inl ⟨by rw [HN.out,HM.out],by rw [HM.out]; exact hbig,rfl,rfl,rfl⟩),Fr.refl _ _⟩
  ·have hb64:decide ((64:Int) < (n:Int))=false:=by simp; omega
   have H64:Hid (ps.length≤64):=by have:=HM.out; unfold Hid; omega
   have HL:Hid (rs.length=ps.length):=by have:=HM.out; have:=HN.out; unfold Hid; omega
   go_enter Tryz.func72,Tryz.ntmps72
   go_wp2
   go_loop [28] (fun v=>∃ k:Nat,k≤n∧v=.int .i64 (k:Int)∧Hid (AllPr ps k)) (fun v=>n - (intOf v).toNat)
   case atStart=>exact ⟨0,Nat.zero_le _,rfl,fun i hi=>by omega⟩
   case round =>
    obtain ⟨k,hk,rfl,hA⟩:=hrel
    by_cases hlt:k < n
    ·have hlt':k < ps.length:=by have:=HM.out; omega
     obtain ⟨b2,off2,rfl,hb2,hc⟩:=HP.out (by intro e; simp [e] at hlt')
     have hck:=hc k hlt'
     have hmem:=zh (getD_mem hlt')
     cases hp:prB (ps.getD k 0) with
     | true =>
       have hP1:=zh (prB_true.1 hp)
       have hA1:=zh (hA.out.next hP1.out)
       generalize ps.getD k 0=p at *
       clear hc hlt'
       go_wp2_with (go_at_call 165; refine (isPrime_any _ _).mono ?_; rintro e w' ⟨rfl,rfl⟩)
       go_round
       case rel=>exact ⟨k + 1,by omega,by go_num,hA1.out⟩
       case measure=>simp [intOf]; omega
     | false =>
       have hP1:=zh (prB_false.1 hp)
       generalize ps.getD k 0=p at *
       clear hc hlt'
       go_wp2_with (go_at_call 165; refine (isPrime_any _ _).mono ?_; rintro e w' ⟨rfl,rfl⟩)
       go_ret3
       exact ⟨[],[],1,rfl,Or.inr (Or.inr (Or.inl ⟨HL.out,H64.out,⟨p,hmem.out,hP1.out⟩,rfl,rfl,rfl⟩)),Fr.refl _ _⟩
    ·obtain rfl:k=n:=by omega
     have hAP:Hid (∀ p ∈ ps,Pr p):=AllPr.all (by rw [HM.out]; exact hA.out)
     go_wp2
     go_loop [38] (fun v=>∃ i:Nat,i≤k∧v=.int .i64 (i:Int)∧Hid ((ps.take i).Nodup)) (fun v=>k - (intOf v).toNat)
     case atStart=>exact ⟨0,Nat.zero_le _,rfl,by unfold Hid; simp⟩
     case round =>
      obtain ⟨i,hi,rfl,hD⟩:=hrel
      by_cases hlt:i < k
      ·have hlt':i < ps.length:=by have:=HM.out; omega
       obtain ⟨b2,off2,rfl,hb2,hc⟩:=HP.out (by intro e; simp [e] at hlt')
       have hck:=hc i hlt'
       have hcon:=fun w' (hw:w=w')=>Tryz.slices_Contains_int b2 off2 i c2 ps (ps.getD i 0) w' (by omega) (by omega) (hw ▸ hc)
       have hnd:=zh (nodup_take_succ hlt')
       have HC:=zh hcon
       cases hp:(ps.take i).contains (ps.getD i 0) with
       | false =>
         have hD1:Hid ((ps.take (i + 1)).Nodup):=hnd.out.2 ⟨hD.out,hp⟩
         rw [hp] at HC
         generalize ps.getD i 0=p at *
         clear hc hlt' hcon hp hnd
         go_wp2_with (go_at_call 170; refine (HC.out _ rfl).mono ?_; rintro e w' ⟨rfl,rfl⟩)
         go_round
         case rel=>exact ⟨i + 1,by omega,by go_num,hD1.out⟩
         case measure=>simp [intOf]; omega
       | true =>
         have hD1:Hid (¬ ps.Nodup):=fun h=>by
          have h1:=hnd.out.1 (h.sublist (List.take_sublist _ _))
          rw [hp] at h1; cases h1.2
         rw [hp] at HC
         generalize ps.getD i 0=p at *
         clear hc hlt' hcon hp hnd
         go_wp2_with (go_at_call 170; refine (HC.out _ rfl).mono ?_; rintro e w' ⟨rfl,rfl⟩)
         go_ret3
         exact ⟨[],[],10,rfl,Or.inr (Or.inr (Or.inr (Or.inl ⟨HL.out,H64.out,hAP.out,hD1.out,rfl,rfl,rfl⟩))),Fr.refl _ _⟩
      ·obtain rfl:i=k:=by omega
       have hND:Hid (ps.Nodup):=by
        have:=hD.out; rwa [List.take_of_length_le (by rw [HM.out]; exact Nat.le_refl _)] at this
       go_wp2_with fail
       refine (New_pos 0 _ W64_pos rfl rfl).mono ?_
       rintro e w1 ⟨u1,rfl,hI1,hF1⟩
       obtain ⟨s1,B1,l1,c1,rfl⟩:=hI1.shape
       go_wp2_with fail
       refine (New_pos 1 _ W64_one rfl rfl).mono ?_
       rintro e w2 ⟨u2,rfl,hI2,hF2⟩
       obtain ⟨s2,B2,l2,c3,rfl⟩:=hI2.shape
       have HI1:Hid (IntIs w2 (.agg #[.bool s1, .slice B1 l1 c1]) 0):=hI1.ext hF2
       have HI2:Hid (IntIs w2 (.agg #[.bool s2, .slice B2 l2 c3]) 1):=hI2
       have HE2:Hid (Ext w w2):=hF1.trans hF2
       clear hI1 hF1 hI2 hF2
       go_wp2
       have hwg:=HE2.out.size
       generalize hwb:World.alloc (World.alloc w2 _) _=wb
       obtain ⟨hBv,hBm,hEb⟩:=two_blocks hwb
       have HI0:Hid (CombInv rs ps w wb w2.heap.size 0):=⟨s1,B1,l1,c1,s2,B2,l2,c3,hBv,hBm,HI1.out.ext hEb,HI2.out.ext hEb,HE2.out.trans hEb⟩
       clear hwb hBv hBm hEb HI1 HI2 HE2
       generalize w2.heap.size=g at *
       clear w1 w2
       go_loopw [53] (fun v wr=>∃ j:Nat,j≤i∧v=.int .i64 (j:Int)∧Hid (CombInv rs ps w wr g j)) (fun v _=>i - (intOf v).toNat)
       case atStart=>exact ⟨0,Nat.zero_le _,rfl,HI0.out⟩
       case round =>
        obtain ⟨j,hj,rfl,hI⟩:=hrel
        by_cases hlt:j < i
        ·have hlt':j < ps.length:=by have:=HM.out; omega
         obtain ⟨b2,off2,rfl,hb2,hc⟩:=HP.out (by intro e; simp [e] at hlt')
         obtain ⟨b1,off1,rfl,hb1,hc1⟩:=HR.out (by intro e; have:=HL.out; simp [e] at this; omega)
         obtain ⟨s1,B1,l1,c1,s2,B2,l2,c3,hBv,hBm,hIv,hIm,hE⟩:=hI.out
         have hcp:=(hE.cell (p:=⟨b2,off2 + j,none⟩) hb2 (fun f=>f)).trans (hc j hlt')
         have hcr:=(hE.cell (p:=⟨b1,off1 + j,none⟩) hb1 (fun f=>f)).trans (hc1 j (by have:=HL.out; omega))
         have hPr:=hAP.out _ (getD_mem hlt')
         have hst:=crt_step hlt' HL.out
         have hbd:=crt_bounds HL.out j (by omega) (fun i hi=>hAP.out _ (getD_mem (by omega)))
         have hir:=IR.out.at j
         generalize ps.getD j 0=p at *
         generalize rs.getD j 0=r at *
         generalize hs:crt ((rs.zip ps).take j)=st at *
         obtain ⟨v,m⟩:=st
         obtain ⟨P,rfl⟩:=Int.eq_ofNat_of_zero_le (show 0≤p by have:=hPr.1; omega)
         have hP2:2≤P:=by have:=hPr.1; omega
         have hPm:P≤2147483647:=by have:=hPr.2.1; omega
         obtain ⟨hv0,hvm,hmp⟩:=hbd
         simp only [] at hv0 hvm hmp
         have Hwm:Hid (wl m.natAbs < 40):=wl_of_pow (by omega) hmp (by have:=H64.out; omega)
         have Hwv:Hid (wl v.natAbs < 40):=by
          have h1:=Hwm.out
          have h2:wl v.natAbs≤wl m.natAbs:=wl_mono (by omega)
          unfold Hid; omega
         -- the numbers of the round
         obtain ⟨rr,hrr⟩:∃ rr:Nat,r % (P:Int)=(rr:Int):=Int.eq_ofNat_of_zero_le (Int.emod_nonneg _ (by omega))
         obtain ⟨vv,hvv⟩:∃ vv:Nat,v % (P:Int)=(vv:Int):=Int.eq_ofNat_of_zero_le (Int.emod_nonneg _ (by omega))
         obtain ⟨mm,hmm⟩:∃ mm:Nat,m % (P:Int)=(mm:Int):=Int.eq_ofNat_of_zero_le (Int.emod_nonneg _ (by omega))
         have lrr:rr < P:=by have:=Int.emod_lt_of_pos r (b:=(P:Int)) (by omega); omega
         have lvv:vv < P:=by have:=Int.emod_lt_of_pos v (b:=(P:Int)) (by omega); omega
         have lmm:mm < P:=by have:=Int.emod_lt_of_pos m (b:=(P:Int)) (by omega); omega
         have cres:=fun w=>residue_any r (P:Int) w hir.1 hir.2 (by omega) (by omega)
         rw [hrr] at cres
         have cinv:=fun w=>Invert_any mm P w lmm hP2 hPm
         obtain ⟨q,hq⟩:∃ q,(rr + P - vv) % P=q:=⟨_,rfl⟩
         obtain ⟨iv,hiv⟩:∃ iv,invN mm P=iv:=⟨_,rfl⟩
         obtain ⟨f,hf⟩:∃ f,q * iv % P=f:=⟨_,rfl⟩
         have lq:q < P:=by rw [← hq]; exact Nat.mod_lt _ (by omega)
         have liv:iv < P:=by rw [← hiv]; exact Nat.mod_lt _ (by omega)
         have lf:f < P:=by rw [← hf]; exact Nat.mod_lt _ (by omega)
         rw [hiv] at cinv
         have e1:IntKind.u64.wrap (P:Int)=(P:Int):=wrapW _ (by rw [W64_eq]; omega)
         have e2:IntKind.u64.wrap ((rr:Int) + (P:Int))=((rr + P:Nat):Int):=add_u64 (by rw [W64_eq]; omega)
         have e3:IntKind.u64.wrap (((rr + P:Nat):Int) - (vv:Int))=((rr + P - vv:Nat):Int):=by
          rw [show ((rr + P:Nat):Int) - (vv:Int)=((rr + P - vv:Nat):Int) by omega]
          exact wrapW _ (by rw [W64_eq]; omega)
         have e4:((rr + P - vv:Nat):Int).tmod (P:Int)=(q:Int):=by rw [tmod_nat,hq]
         have e5:(IntKind.u64.wrap ((q:Int) * (iv:Int))).tmod (P:Int)=(f:Int):=by rw [mulmod_u64 lq liv hPm,hf]
         have Hst:Hid (crt ((rs.zip ps).take (j + 1))=(v + m * (f:Int),m * (P:Int))):=by
          unfold Hid
          rw [hst]
          simp only [crtStep]
          rw [hrr,hvv,hmm]
          have:((mm:Int)).toNat=mm:=by omega
          rw [this]
          have:((P:Int)).toNat=P:=by omega
          rw [this,hiv,show (rr:Int) + (P:Int) - (vv:Int)=((rr + P - vv:Nat):Int) by omega,← Int.natCast_emod,hq,← Int.natCast_mul,← Int.natCast_emod,hf]
         have HBv:=zh hBv
         have HBm:=zh hBm
         have HIv:=zh hIv
         have HIm:=zh hIm
         have HE:=zh hE
         have Hvv:=zh hvv
         have Hmm:=zh hmm
         have hp0:((P:Int) == 0)=false:=by simp; omega
         have hp1:P≠0:=by omega
         have e6:((rr + P - vv:Nat):Int) % (P:Int)=(q:Int):=by rw [← Int.natCast_emod,hq]
         obtain ⟨t1,et1⟩:∃ t1:Nat,rr + P=t1:=⟨_,rfl⟩
         rw [et1] at e2 e3 e4 e6
         obtain ⟨t2,et2⟩:∃ t2:Nat,t1 - vv=t2:=⟨_,rfl⟩
         rw [et2] at e3 e4 e6
         clear hst hs hBv hBm hIv hIm hE hvv hmm hrr hq hiv hf hc hc1 hPr hir et1 et2 hI hlt'
         go_wp2_with fail
         have hne1:g≠b1:=by omega
         go_region_held3 (fun w'=>w'.cell? ⟨b1,off1 + j,none⟩=some (.int .i64 r)∧w'.cell? ⟨g,0,none⟩=some (.bool s1)∧w'.cell? ⟨g,1,none⟩=some (.slice B1 l1 c1))
          (first | exact ⟨hcr,HBv.out.cell2.1,HBv.out.cell2.2.1⟩ | exact keepC hcr HBv.out (Fr.undrew (by assumption)))
          (first
           | (go_at_call 128; refine (cres _).mono ?_; rintro e w' ⟨rfl,rfl⟩)
           | (go_at_call 166
              refine (ModWord_any _ v P _ (HIv.out.ext (Fr.refl _ _).drew) (by have:=Hwv.out; unfold Fits; omega) (by omega) (by rw [W64_eq]; omega)).mono ?_
              rw [Hvv.out]
              rintro e w1 ⟨rfl,hF1⟩))
         replace hF1:=Fr.undrew hF1
         replace HBv:=zh (HBv.out.ext hF1)
         replace HBm:=zh (HBm.out.ext hF1)
         replace HIv:=zh (HIv.out.ext hF1)
         replace HIm:=zh (HIm.out.ext hF1)
         replace HE:=zh (HE.out.trans hF1)
         clear hcp hcr hF1 e1 e2 e3 e4 e6
         obtain ⟨y0,y1,y2,y3⟩:=HBm.out.cell2
         go_wp2_with fail
         refine (ModWord_any _ m P _ HIm.out (by have:=Hwm.out; unfold Fits; omega) (by omega) (by rw [W64_eq]; omega)).mono ?_
         rw [Hmm.out]
         rintro e w2 ⟨rfl,hF2⟩
         replace HBv:=zh (HBv.out.ext hF2)
         replace HBm:=zh (HBm.out.ext hF2)
         replace HIv:=zh (HIv.out.ext hF2)
         replace HIm:=zh (HIm.out.ext hF2)
         replace HE:=zh (HE.out.trans hF2)
         clear y0 y1 y2 y3 hF2
         have f1:IntKind.i64.wrap (f:Int)=(f:Int):=IntWalk.i64_in _ (by omega)
         have f2:IntKind.u64.wrap (f:Int)=(f:Int):=wrapW _ (by rw [W64_eq]; omega)
         have f3:decide ((f:Int) < 0)=false:=by rw [decide_eq_false_iff_not]; omega
         have fW:Hid (f < W64):=by unfold Hid; rw [W64_eq]; omega
         have FF:Hid (Fits (f:Int)):=by
          have:wl f≤1:=wl_one.2 fW.out
          unfold Hid Fits; rw [Int.natAbs_natCast]; omega
         have FP:Hid (Fits (m * (f:Int))):=by
          have h1:=wl_mul m.natAbs f
          have:wl f≤1:=wl_one.2 fW.out
          have h2:=Hwm.out
          unfold Hid Fits; rw [Int.natAbs_mul,Int.natAbs_natCast]; exact Nat.le_trans h1 (by omega)
         go_wp2_with (go_at_call 168; refine (cinv _).mono ?_; rintro e w' ⟨rfl,rfl⟩)
         go_cut [17] (fun s17 wx=>s17=.int .u64 (f:Int)∧Hid (CombMid w wx g (v + m * (f:Int)) m))
         case first =>
          obtain ⟨x0,x1,x2,x3⟩:=HBv.out.cell2
          obtain ⟨y0,y1,y2,y3⟩:=HBm.out.cell2
          go_region_with (first
           | (go_at_call 171
              refine (New_pos f _ fW.out f2 f3).mono ?_
              rintro e wN ⟨uN,rfl,hNI,hNF⟩
              obtain ⟨sN,AN,lN,cN,rfl⟩:=hNI.shape
              have hX1:Ext w2 wN:=Fr.undrew hNF
              obtain ⟨n0,n1,n2,n3⟩:=(HBv.out.ext hX1).cell2
              obtain ⟨n4,n5,n6,n7⟩:=(HBm.out.ext hX1).cell2)
           | (go_at_call 152
              refine (Mul_any _ _ m (f:Int) _ (HIm.out.ext hX1) hNI (by have:=Hwm.out; unfold Fits; omega) FF.out (Or.inl Hwm.out)).mono ?_
              rintro e wM ⟨uM,rfl,hMI,hMF⟩
              obtain ⟨sM,AM,lM,cM,rfl⟩:=hMI.shape
              have hX2:Ext w2 wM:=hX1.trans hMF
              obtain ⟨k0,k1,k2,k3⟩:=(HBv.out.ext hX2).cell2)
           | (go_at_call 172
              refine (Add_any _ _ v (m * (f:Int)) _ (HIv.out.ext hX2) hMI (by have:=Hwv.out; unfold Fits; omega) FP.out).mono ?_
              rintro e wA ⟨uA,rfl,hAI,hAF⟩
              obtain ⟨sA,AA,lA,cA,rfl⟩:=hAI.shape
              have hX3:Ext w2 wA:=hX2.trans hAF
              obtain ⟨j0,j1,j2,j3⟩:=(HBv.out.ext hX3).cell2))
          all_goals
           go_wp2_with fail
           go_meet
           exact ⟨rfl,comb_mid1 hwg HE.out HBv.out HBm.out HIm.out hX3 hAI⟩
         case rest =>
          obtain ⟨rfl,hMid⟩:=hcut
          obtain ⟨s1,B1,l1,c1,s2,B2,l2,c3,hBv,hBm,hIv,hIm,hE⟩:=hMid.out
          have HBv:=zh hBv
          have HBm:=zh hBm
          have HIv:=zh hIv
          have HIm:=zh hIm
          have HE:=zh hE
          obtain ⟨x0,x1,x2,x3⟩:=hBv.cell2
          obtain ⟨y0,y1,y2,y3⟩:=hBm.cell2
          have p2:IntKind.u64.wrap (P:Int)=(P:Int):=wrapW _ (by rw [W64_eq]; omega)
          have p3:decide ((P:Int) < 0)=false:=by rw [decide_eq_false_iff_not]; omega
          have pW:Hid (P < W64):=by unfold Hid; rw [W64_eq]; omega
          have FPP:Hid (Fits (P:Int)):=by
           have:wl P≤1:=wl_one.2 pW.out
           unfold Hid Fits; rw [Int.natAbs_natCast]; omega
          clear hBv hBm hIv hIm hE hMid f1 f2 f3 e5
          go_wp2_with fail
          go_region_with (first
           | (go_at_call 171
              refine (New_pos P _ pW.out p2 p3).mono ?_
              rintro e wN ⟨uN,rfl,hNI,hNF⟩
              obtain ⟨sN,AN,lN,cN,rfl⟩:=hNI.shape
              have hX1:Ext wc wN:=Fr.undrew hNF
              obtain ⟨n4,n5,n6,n7⟩:=(HBm.out.ext hX1).cell2)
           | (go_at_call 152
              refine (Mul_any _ _ m (P:Int) _ (HIm.out.ext hX1) hNI (by have:=Hwm.out; unfold Fits; omega) FPP.out (Or.inl Hwm.out)).mono ?_
              rintro e wM ⟨uM,rfl,hMI,hMF⟩
              obtain ⟨sM,AM,lM,cM,rfl⟩:=hMI.shape
              have hX2:Ext wc wM:=hX1.trans hMF
              obtain ⟨k0,k1,k2,k3⟩:=(HBm.out.ext hX2).cell2))
          all_goals
           have hMid:=zh (comb_mid2 hwg HE.out HBv.out HBm.out HIv.out hX2 hMI)
           go_wp2
           go_roundw
           case rel =>
            exact ⟨j + 1,by omega,by go_num,by unfold Hid CombInv; rw [Hst.out]; exact hMid.out⟩
           case measure=>simp [intOf]; omega
        ·obtain rfl:j=i:=by omega
         obtain ⟨s1,B1,l1,c1,s2,B2,l2,c3,hBv,hBm,hIv,hIm,hE⟩:=hI.out
         have hlen:(rs.zip ps).length≤j:=by simp; have:=HM.out; omega
         rw [List.take_of_length_le hlen] at hIv hIm
         have hbd:=crt_bounds HL.out j (by have:=HM.out; omega) (fun i hi=>hAP.out _ (getD_mem (by have:=HM.out; omega)))
         rw [List.take_of_length_le hlen] at hbd
         have hO2:PrtOk (crt (rs.zip ps)).2.natAbs:=by
          have:=wl_of_pow (by omega) hbd.2.2 (by have:=H64.out; have:=HM.out; omega)
          unfold PrtOk; omega
         have hO1:PrtOk (crt (rs.zip ps)).1.natAbs:=by
          have h1:wl (crt (rs.zip ps)).1.natAbs≤wl (crt (rs.zip ps)).2.natAbs:=wl_mono (by omega)
          unfold PrtOk at *; omega
         clear hbd
         have HFin:Hid (CombIs rs ps (Lib.itoa (crt (rs.zip ps)).1) (Lib.itoa (crt (rs.zip ps)).2) 0):=Or.inr (Or.inr (Or.inr (Or.inr ⟨HL.out,H64.out,hAP.out,hND.out,rfl,rfl,rfl⟩)))
         generalize (crt (rs.zip ps)).1=v at *
         generalize (crt (rs.zip ps)).2=m at *
         have HBv:=zh hBv
         have HBm:=zh hBm
         have HIv:=zh hIv
         have HIm:=zh hIm
         have HE:=zh hE
         have HO1:=zh hO1
         have HO2:=zh hO2
         clear hBv hBm hIv hIm hE hI hlen hO1 hO2
         go_wp2_with fail
         go_region_held3 (fun w'=>w'.cell? ⟨g,0,none⟩=some (.bool s1)∧w'.cell? ⟨g,1,none⟩=some (.slice B1 l1 c1)∧w'.cell? ⟨g + 1,0,none⟩=some (.bool s2)∧w'.cell? ⟨g + 1,1,none⟩=some (.slice B2 l2 c3))
          (first | exact keep4 HBv.out HBm.out (Fr.refl _ _).drew | exact keep4 HBv.out HBm.out (Fr.undrew hFx))
          (first
           | (go_at_call 148
              refine (String_any _ v _ (HG.out.ext HE.out.drew) (HIv.out.ext (Fr.refl _ _).drew) HO1.out).mono ?_
              rintro e w1 ⟨rfl,hFx⟩)
           | (go_at_call 148
              refine (String_any _ m _ (HG.out.ext (HE.out.drew.trans hFx)) (HIm.out.ext ((Fr.refl _ _).drew.trans hFx)) HO2.out).mono ?_
              rintro e w2 ⟨rfl,hFy⟩
              replace hFx:=hFx.trans hFy))
         go_wp2
         go_ret3
         exact ⟨_,_,0,rfl,HFin.out,HE.out.trans (Fr.undrew hFx)⟩
 ·have hnm':((n:Int) != (m:Int))=true:=by simp; omega
  go_enter Tryz.func72,Tryz.ntmps72
  go_wp2
  go_ret3
  exact ⟨[],[],4,rfl,Or.inl ⟨by rw [HN.out,HM.out]; exact hnm,rfl,rfl,rfl⟩,Fr.refl _ _⟩
end Go.Proofs.YtbgkofgoeoiciaaGreatDoor

namespace Go.Proofs.YtbgkofgoeoiciaaGreatDoor
open Go.RowKit
theorem Pr.divisor {p d:Int} (h:Pr p) (hd:2≤d) (hm:p % d=0):d=p:=by
 obtain ⟨k,hk⟩:=Int.dvd_of_emod_eq_zero hm
 obtain ⟨h1,_,h3⟩:=h
 have hk1:1≤k:=by
  rcases Int.lt_or_le k 1 with h | h
  ·have:d * k≤d * 0:=Int.mul_le_mul_of_nonneg_left (by omega) (by omega)
   rw [Int.mul_zero] at this; omega
  ·exact h
 rcases (by omega:k=1∨2≤k) with rfl | hk2
 ·omega
 ·exfalso
  rcases Int.le_total d k with hdk | hdk
  ·have:d * d≤d * k:=Int.mul_le_mul_of_nonneg_left hdk (by omega)
   exact h3 d hd (by omega) hm
  ·have:k * k≤d * k:=Int.mul_le_mul_of_nonneg_right hdk (by omega)
   exact h3 k hk2 (by omega) (by rw [hk]; exact Int.mul_emod_left _ _)
theorem pr_coprime {p q:Nat} (hp:Pr (p:Int)) (hq:Pr (q:Int)) (h:p≠q):Nat.Coprime p q:=by
 obtain ⟨g,hg⟩:∃ g,Nat.gcd p q=g:=⟨_,rfl⟩
 have h1:g ∣ p:=hg ▸ Nat.gcd_dvd_left p q
 have h2:g ∣ q:=hg ▸ Nat.gcd_dvd_right p q
 have hg0:g≠0:=fun e=>by
  subst e
  have:=Nat.eq_zero_of_zero_dvd h1
  have:=hp.1; omega
 rcases (by omega:g=1∨2≤g) with e | e
 ·rw [Nat.Coprime,hg,e]
 ·exfalso
  have k1:=hp.divisor (d:=(g:Int)) (by omega) (by rw [← Int.natCast_emod,Nat.mod_eq_zero_of_dvd h1]; rfl)
  have k2:=hq.divisor (d:=(g:Int)) (by omega) (by rw [← Int.natCast_emod,Nat.mod_eq_zero_of_dvd h2]; rfl)
  omega
theorem pr_mul {m p q:Int} (hm:0≤m) (hp:Pr p) (hq:Pr q):m * q % p=0 ↔ m % p=0∨p=q:=by
 obtain ⟨M,rfl⟩:=Int.eq_ofNat_of_zero_le hm
 obtain ⟨P,rfl⟩:=Int.eq_ofNat_of_zero_le (show 0≤p by have:=hp.1; omega)
 obtain ⟨Q,rfl⟩:=Int.eq_ofNat_of_zero_le (show 0≤q by have:=hq.1; omega)
 have e1:((M:Int) * (Q:Int) % (P:Int)=0) ↔ P ∣ M * Q:=by
  rw [← Int.natCast_mul,← Int.natCast_emod,Nat.dvd_iff_mod_eq_zero]; omega
 have e2:((M:Int) % (P:Int)=0) ↔ P ∣ M:=by
  rw [← Int.natCast_emod,Nat.dvd_iff_mod_eq_zero]; omega
 rw [e1,e2]
 constructor
 ·intro h
  by_cases e:P=Q
  ·exact Or.inr (by omega)
  ·exact Or.inl ((pr_coprime hp hq e).dvd_of_dvd_mul_right h)
 ·rintro (h | h)
  ·exact Nat.dvd_mul_right_of_dvd h _
  ·obtain rfl:P=Q:=by omega
   exact Nat.dvd_mul_left _ _
theorem crt_two {rs ps:List Int} {k:Nat} (hk:k < ps.length) (hl:rs.length=ps.length):(crt ((rs.zip ps).take (k + 1))).2=(crt ((rs.zip ps).take k)).2 * ps.getD k 0:=by
 rw [crt_step hk hl]; rfl
theorem crt_dup {rs ps:List Int} (hl:rs.length=ps.length) {p:Int} (hp:Pr p):∀ k,k≤ps.length→AllPr ps k→((crt ((rs.zip ps).take k)).2 % p=0 ↔ p ∈ ps.take k)
 | 0,_,_=>by
   have h1:=hp.1
   have e:(crt ((rs.zip ps).take 0)).2=1:=by simp [crt]
   rw [e,Int.emod_eq_of_lt (by omega) (by omega)]
   simp
 | k + 1,hk,hA=>by
   have ih:=crt_dup hl hp k (by omega) (fun i hi=>hA i (by omega))
   have hb:=crt_bounds hl k (by omega) (fun i hi=>hA i (by omega))
   rw [crt_two (by omega) hl,pr_mul (by omega) hp (hA k (by omega)),ih,List.take_succ_eq_append_getElem (by omega)]
   rw [List.getD_eq_getElem?_getD,List.getElem?_eq_getElem (by omega),List.mem_append,List.mem_singleton]
   exact Iff.rfl
theorem itoa_nn {x:Int} (h:0≤x):Lib.itoa x=Lib.decDigits x.natAbs:=by
 unfold Lib.itoa
 rw [if_neg (by omega)]
 congr 1; omega
theorem CombIs.unique {rs ps:List Int} {s t s' t':List UInt8} {e e':Int} (h:CombIs rs ps s t e) (h':CombIs rs ps s' t' e'):s=s'∧t=t'∧e=e':=by
 unfold CombIs at *
 rcases h with ⟨a1,rfl,rfl,rfl⟩ | ⟨a1,a2,rfl,rfl,rfl⟩ | ⟨a1,a2,⟨p,a3,a4⟩,rfl,rfl,rfl⟩ | ⟨a1,a2,a3,a4,rfl,rfl,rfl⟩ | ⟨a1,a2,a3,a4,rfl,rfl,rfl⟩ <;>
 rcases h' with ⟨b1,rfl,rfl,rfl⟩ | ⟨b1,b2,rfl,rfl,rfl⟩ | ⟨b1,b2,⟨q,b3,b4⟩,rfl,rfl,rfl⟩ | ⟨b1,b2,b3,b4,rfl,rfl,rfl⟩ | ⟨b1,b2,b3,b4,rfl,rfl,rfl⟩ <;>
 first
  | exact ⟨rfl,rfl,rfl⟩
  | (exfalso; exact absurd ‹rs.length=ps.length› ‹rs.length≠ps.length›)
  | (exfalso; omega)
  | (exfalso; exact a4 (b3 p a3))
  | (exfalso; exact b4 (a3 q b3))
  | (exfalso; exact a4 b4)
  | (exfalso; exact b4 a4)
end Go.Proofs.YtbgkofgoeoiciaaGreatDoor

namespace Go.Proofs.YtbgkofgoeoiciaaGreatDoor
def binom:Nat→Nat→Nat
 | _,0=>1
 | 0,_ + 1=>0
 | n + 1,k + 1=>binom n k + binom n (k + 1)
theorem binom_zero (n:Nat):binom n 0=1:=by cases n<;>rfl
theorem binom_succ (n k:Nat):binom (n + 1) (k + 1)=binom n k + binom n (k + 1):=rfl
theorem binom_gt:∀ {n k:Nat},n < k→binom n k=0
 | 0,0,h=>by omega
 | 0,_ + 1,_=>rfl
 | n + 1,0,h=>by omega
 | n + 1,k + 1,h=>by rw [binom_succ,binom_gt (by omega),binom_gt (by omega)]
theorem binom_self:∀ n,binom n n=1
 | 0=>rfl
 | n + 1=>by rw [binom_succ,binom_self n,binom_gt (by omega)]
theorem binom_mul:∀ n k,(k + 1) * binom (n + 1) (k + 1)=(n + 1) * binom n k
 | 0,0=>rfl
 | 0,k + 1=>by rw [binom_gt (by omega),binom_gt (by omega)]; simp
 | n + 1,0=>by
   have h:=binom_mul n 0
   rw [binom_zero] at h
   rw [binom_succ (n + 1) 0,binom_zero]
   omega
 | n + 1,k + 1=>by
   have h1:=binom_mul n (k + 1)
   have h2:=binom_mul n k
   rw [binom_succ (n + 1) (k + 1),Nat.mul_add,h1]
   have e:(k + 1 + 1) * binom (n + 1) (k + 1)=(k + 1) * binom (n + 1) (k + 1) + binom (n + 1) (k + 1):=by rw [Nat.add_mul,Nat.one_mul]
   rw [e,h2]
   have e2:(n + 1 + 1) * binom (n + 1) (k + 1)=(n + 1) * (binom n k + binom n (k + 1)) + binom (n + 1) (k + 1):=by rw [Nat.add_mul (n + 1) 1,Nat.one_mul,binom_succ]
   rw [e2,Nat.mul_add]
   omega
def sumF (f:Nat→Nat):Nat→Nat
 | 0=>0
 | n + 1=>sumF f n + f n
theorem sumF_add (f g:Nat→Nat) (n:Nat):sumF (fun i=>f i + g i) n=sumF f n + sumF g n:=by
 induction n with
 | zero=>rfl
 | succ n ih=>simp only [sumF]; rw [ih]; omega
theorem sumF_mul (f:Nat→Nat) (c n:Nat):sumF (fun i=>c * f i) n=c * sumF f n:=by
 induction n with
 | zero=>rfl
 | succ n ih=>simp only [sumF]; rw [ih,Nat.mul_add]
theorem sumF_shift (f:Nat→Nat) (n:Nat):sumF f (n + 1)=f 0 + sumF (fun i=>f (i + 1)) n:=by
 induction n with
 | zero=>simp [sumF]
 | succ n ih=>rw [sumF,ih]; simp only [sumF]; omega
theorem sumF_congr {f g:Nat→Nat} {n:Nat} (h:∀ i,i < n→f i=g i):sumF f n=sumF g n:=by
 induction n with
 | zero=>rfl
 | succ n ih=>simp only [sumF]; rw [ih (fun i hi=>h i (by omega)),h n (by omega)]
theorem sumF_dvd {f:Nat→Nat} {p n:Nat} (h:∀ i,i < n→p ∣ f i):p ∣ sumF f n:=by
 induction n with
 | zero=>exact Nat.dvd_zero p
 | succ n ih=>exact Nat.dvd_add (ih (fun i hi=>h i (by omega))) (h n (by omega))
theorem binomial (a:Nat):∀ n,(a + 1) ^ n=sumF (fun k=>binom n k * a ^ k) (n + 1)
 | 0=>by simp [sumF,binom]
 | n + 1=>by
   rw [Nat.pow_succ,Nat.mul_add,Nat.mul_one]
   conv=>lhs; rw [binomial a n]
   rw [sumF_shift (fun k=>binom (n + 1) k * a ^ k)]
   have e1:sumF (fun i=>binom (n + 1) (i + 1) * a ^ (i + 1)) (n + 1)=sumF (fun i=>a * (binom n i * a ^ i)) (n + 1) + sumF (fun i=>binom n (i + 1) * a ^ (i + 1)) (n + 1):=by
    rw [← sumF_add]
    exact sumF_congr (fun i _=>by rw [binom_succ,Nat.add_mul,Nat.pow_succ,← Nat.mul_assoc (binom n i),Nat.mul_comm _ a])
   rw [e1,sumF_mul]
   have e2:sumF (fun k=>binom n k * a ^ k) (n + 1)=binom n 0 * a ^ 0 + sumF (fun i=>binom n (i + 1) * a ^ (i + 1)) n:=sumF_shift _ n
   have e3:sumF (fun i=>binom n (i + 1) * a ^ (i + 1)) (n + 1)=sumF (fun i=>binom n (i + 1) * a ^ (i + 1)) n:=by
    show sumF _ n + binom n (n + 1) * a ^ (n + 1)=_
    rw [binom_gt (by omega),Nat.zero_mul,Nat.add_zero]
   rw [e3,binom_zero]
   rw [binom_zero] at e2
   rw [Nat.mul_comm a]
   omega
theorem binom_dvd {p k:Nat} (hp:Pr (p:Int)) (h0:0 < k) (hk:k < p):p ∣ binom p k:=by
 obtain ⟨n,rfl⟩:∃ n,p=n + 1:=⟨p - 1,by have:=hp.1; omega⟩
 obtain ⟨j,rfl⟩:∃ j,k=j + 1:=⟨k - 1,by omega⟩
 have h:=binom_mul n j
 have hd:(n + 1) ∣ (j + 1) * binom (n + 1) (j + 1):=by rw [h]; exact Nat.dvd_mul_right _ _
 have hc:Nat.Coprime (n + 1) (j + 1):=by
  obtain ⟨g,hg⟩:∃ g,Nat.gcd (n + 1) (j + 1)=g:=⟨_,rfl⟩
  have h1:g ∣ n + 1:=hg ▸ Nat.gcd_dvd_left _ _
  have h2:g ∣ j + 1:=hg ▸ Nat.gcd_dvd_right _ _
  have hle:=Nat.le_of_dvd (by omega) h2
  have hg0:g≠0:=fun e=>by subst e; have:=Nat.eq_zero_of_zero_dvd h1; omega
  rcases (by omega:g=1∨2≤g) with e | e
  ·rw [Nat.Coprime,hg,e]
  ·have k1:=hp.divisor (d:=(g:Int)) (by omega) (by rw [← Int.natCast_emod,Nat.mod_eq_zero_of_dvd h1]; rfl)
   omega
 exact hc.dvd_of_dvd_mul_left hd
theorem fermat_pow {p:Nat} (hp:Pr (p:Int)) (a:Nat):a ^ p % p=a % p:=by
 have hp2:2≤p:=by have:=hp.1; omega
 induction a with
 | zero=>rw [Nat.zero_pow (by omega)]
 | succ a ih =>
   rw [binomial,sumF,binom_self,Nat.one_mul]
   obtain ⟨n,hn⟩:∃ n,p=n + 1:=⟨p - 1,by omega⟩
   have e:sumF (fun k=>binom p k * a ^ k) p=1 + sumF (fun i=>binom p (i + 1) * a ^ (i + 1)) n:=by
    conv=>lhs; rw [hn]
    rw [sumF_shift,← hn,binom_zero]
    simp
   have hd:p ∣ sumF (fun i=>binom p (i + 1) * a ^ (i + 1)) n:=sumF_dvd (fun i hi=>Nat.dvd_mul_right_of_dvd (binom_dvd hp (by omega) (by omega)) _)
   rw [e]
   obtain ⟨m,hm⟩:=hd
   rw [hm,Nat.add_mod,ih,← Nat.add_mod]
   rw [show 1 + p * m + a=a + 1 + p * m by omega,Nat.add_mul_mod_self_left]
theorem invN_mul {p x:Nat} (hp:Pr (p:Int)) (hx:x % p≠0):x * invN x p % p=1:=by
 have hp2:2≤p:=by have:=hp.1; omega
 have h:=fermat_pow hp x
 have hcop:Nat.Coprime p x:=by
  obtain ⟨g,hg⟩:∃ g,Nat.gcd p x=g:=⟨_,rfl⟩
  have h1:g ∣ p:=hg ▸ Nat.gcd_dvd_left _ _
  have h2:g ∣ x:=hg ▸ Nat.gcd_dvd_right _ _
  have hg0:g≠0:=fun e=>by subst e; have:=Nat.eq_zero_of_zero_dvd h1; omega
  rcases (by omega:g=1∨2≤g) with e | e
  ·rw [Nat.Coprime,hg,e]
  ·have k1:=hp.divisor (d:=(g:Int)) (by omega) (by rw [← Int.natCast_emod,Nat.mod_eq_zero_of_dvd h1]; rfl)
   have:g=p:=by omega
   subst this
   exact absurd (Nat.mod_eq_zero_of_dvd h2) hx
 have e:x ^ p=x * (x * x ^ (p - 2)):=by
  conv=>lhs; rw [show p=(p - 2) + 1 + 1 by omega,Nat.pow_succ,Nat.pow_succ]
  rw [Nat.mul_comm _ x,Nat.mul_comm _ x]
 have hpos:0 < x * x ^ (p - 2):=by
  have:0 < x:=by
   rcases Nat.eq_zero_or_pos x with e | e
   ·subst e; simp at hx
   ·exact e
  exact Nat.mul_pos this (Nat.pow_pos this)
 have hdv:p ∣ x * (x * x ^ (p - 2) - 1):=by
  rw [Nat.mul_sub,Nat.mul_one,← e]
  exact Nat.dvd_of_mod_eq_zero (Nat.sub_mod_eq_zero_of_mod_eq h)
 have hdv2:=hcop.dvd_of_dvd_mul_left hdv
 unfold invN
 rw [Nat.mul_mod,Nat.mod_mod,← Nat.mul_mod]
 obtain ⟨m,hm⟩:=hdv2
 rw [show x * x ^ (p - 2)=1 + p * m by omega,Nat.add_mul_mod_self_left,Nat.mod_eq_of_lt (by omega)]
end Go.Proofs.YtbgkofgoeoiciaaGreatDoor
