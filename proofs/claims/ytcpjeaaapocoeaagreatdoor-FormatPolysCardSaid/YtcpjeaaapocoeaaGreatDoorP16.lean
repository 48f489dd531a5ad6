/-
 My texts Parse, Parse2, Rat, Read, Rq, Short, Short2 put together.
-/
import Derived.Test.YtcpjeaaapocoeaaGreatDoorP15
import Derived.Test.YtcpjeaaapocoeaaGreatDoorP06
import Derived.Lib.ConvBytes
import Derived.Deep.DeepCutAuto
import Derived.Test.YtcpjeaaapocoeaaGreatDoorP00
import Derived.Test.YtcpjeaaapocoeaaGreatDoorP05
set_option maxRecDepth 100000
namespace Go.Proofs.YtcpjeaaapocoeaaGreatDoor
open Go.RowKit
def Zad (l:List UInt8):Nat:=l.foldl (fun n c=>10 * n + (c.toNat - 48)) 0
theorem Zdo (l:List UInt8) (c:UInt8):Zad (l ++ [c])=10 * Zad l + (c.toNat - 48):=by simp [Zad]
theorem Zeg (a b:List UInt8):Zad (a ++ b)=Zad a * 10 ^ b.length + Zad b:=by
 have key:∀ (b:List UInt8) (n:Nat),b.foldl (fun n c=>10 * n + (c.toNat - 48)) n=n * 10 ^ b.length + b.foldl (fun n c=>10 * n + (c.toNat - 48)) 0:=by
  intro b
  induction b with
  | nil=>intro n; simp
  | cons c b ih =>
    intro n
    simp only [List.foldl_cons,List.length_cons]
    rw [ih,ih (10 * 0 + (c.toNat - 48)),Nat.pow_succ,Nat.mul_zero,Nat.zero_add,Nat.add_mul,Nat.add_assoc]
    congr 1
    rw [Nat.mul_comm (10 ^ b.length) 10,← Nat.mul_assoc,Nat.mul_comm n 10]
 unfold Zad
 rw [List.foldl_append,key]
theorem ZeJ {c:UInt8} (h:Zaj c=true):48≤c.toNat∧c.toNat - 48≤9:=by
 unfold Zaj at h
 simp at h
 omega
theorem Zhw (c:UInt8) (l:List UInt8):Zad (c :: l)=(c.toNat - 48) * 10 ^ l.length + Zad l:=by
 have:=Zeg [c] l
 simpa [Zad] using this
theorem Zbp:∀ (l:List UInt8),l.all Zaj=true→Zad l < 10 ^ l.length
 | [],_=>by simp [Zad]
 | c :: l,h=>by
   rw [List.all_cons,Bool.and_eq_true] at h
   have h1:=Zbp l h.2
   have h2:=ZeJ h.1
   have h3:(c.toNat - 48) * 10 ^ l.length≤9 * 10 ^ l.length:=Nat.mul_le_mul_right _ h2.2
   rw [Zhw,List.length_cons,Nat.pow_succ]
   omega
def ZcJ (xs:List Nat) (y q k:Nat) (m:List Nat) (c:Nat):Prop :=
 m.length=xs.length∧m.drop k=xs.drop k∧Dig W64 m∧c < W64∧val W64 (m.take k) + W64 ^ k * c=val W64 (xs.take k) * y + q
theorem ZcJ.start {xs:List Nat} {y q:Nat} (h:Dig W64 xs) (hq:q < W64):ZcJ xs y q 0 xs q:=⟨rfl,rfl,h,hq,by simp⟩
theorem ZcJ.at {xs m:List Nat} {y q k c:Nat} (h:ZcJ xs y q k m c):m[k]?.getD 0=xs[k]?.getD 0:=by
 have:=congrArg (fun l=>l[0]?.getD 0) h.2.1
 simpa [List.getElem?_drop] using this
theorem ZcJ.step {xs m:List Nat} {y q k c z:Nat} (h:ZcJ xs y q k m c) (hk:k < xs.length) (hz:m[k]?.getD 0=z) (hy:y < W64):ZcJ xs y q (k + 1) (m.set k (maLo z y c)) (maHi z y c):=by
 have e1:xs[k]?.getD 0=z:=h.at.symm.trans hz
 obtain ⟨h1,h2,h3,h5,h4⟩:=h
 refine ⟨by simpa using h1,?_,h3.set k (Zjf _ _ _),Zha (hz ▸ h3.getD Zar k) hy h5,?_⟩
 ·rw [List.drop_set_of_lt (by omega),← List.drop_drop,← List.drop_drop,h2]
 ·rw [ZaT _ _ _ _ (by omega),Zal k hk,e1,Nat.pow_succ]
  have h6:=Zg9 z y c
  have h7:=congrArg (W64 ^ k * ·) h6
  simp only [Nat.mul_add] at h7
  rw [Nat.add_mul,Nat.mul_assoc,Nat.mul_assoc]
  omega
theorem ZcJ.done {xs m:List Nat} {y q c:Nat} (h:ZcJ xs y q xs.length m c):val W64 m + W64 ^ xs.length * c=val W64 xs * y + q:=by
 obtain ⟨h1,h2,h3,h5,h4⟩:=h
 rwa [List.take_of_length_le (by omega),List.take_of_length_le (by omega)] at h4
theorem Znh {m:List Nat} (hd:Dig W64 m) (h:∀ k,m.length=k + 1→W64 ^ k≤val W64 m):Trim m:=by
 intro k hk h0
 have h1:=h k hk
 rw [ZaJ (xs:=m) k,ZaK k (by omega),h0,List.drop_of_length_le (by omega:m.length≤k + 1)] at h1
 have h2:=ZaX (hd.take k)
 rw [List.length_take,Nat.min_eq_left (by omega)] at h2
 simp at h1
 omega
theorem ZcJ.zero {xs m:List Nat} {y q:Nat} (h:ZcJ xs y q xs.length m 0) (ht:Trim xs) (hy:1≤y):Trim m∧val W64 m=val W64 xs * y + q:=by
 have h1:=h.done
 simp at h1
 refine ⟨Znh h.2.2.1 (fun k hk=>?_),h1⟩
 have h2:=Zic (B:=W64) ht (k:=k) (by rw [← h.1]; exact hk)
 have h3:val W64 xs * 1≤val W64 xs * y:=Nat.mul_le_mul_left _ hy
 omega
theorem ZcJ.more {xs m:List Nat} {y q c:Nat} (h:ZcJ xs y q xs.length m c) (hc:c≠0):Trim (m ++ [c])∧Dig W64 (m ++ [c])∧val W64 (m ++ [c])=val W64 xs * y + q:=by
 refine ⟨?_,h.2.2.1.append (Dig.nil.cons h.2.2.2.1),?_⟩
 ·intro k hk
  have:k=m.length:=by simp at hk; omega
  subst this
  simpa using hc
 ·rw [Zbx,h.1,Zc5,ZdX,Nat.mul_zero,Nat.add_zero]
  exact h.done
theorem Buf.open_ {k:IntKind} {e:TypeId} {w:World} {A:Option Addr} {cap:Nat} {xs:List Nat} (h:Buf k e w A cap xs) (hne:xs≠[]):∃ b,A=some ⟨b,0,none⟩∧Own k e w b xs∧Zce e w b cap∧xs.length≤cap∧cap≤maxLen:=by
 rcases h with ⟨_,h,_⟩ | h
 ·exact absurd h hne
 ·exact h
theorem Buf.set_ {k:IntKind} {e:TypeId} {w:World} {b cap:Nat} {xs:List Nat} (h:Own k e w b xs) (hC:Zce e w b cap) (hl:xs.length≤cap) (hm:cap≤maxLen) (i v:Nat) (hi:i < xs.length):Buf k e (w.setCell ⟨b,i,none⟩ (.int k (v:Int))) (some ⟨b,0,none⟩) cap (xs.set i v) :=
 Or.inr ⟨b,rfl,h.set i v hi,hC.setCell b i _,by simpa using hl,hm⟩
def ZiF (w wr:World) (T:Nat) (d:ByteArray) (A:Option Addr) (cap:Nat) (xs:List Nat):Prop :=
 Buf .u64 217 wr A cap xs∧Dig W64 xs∧Trim xs∧val W64 xs * 10 ^ d.size + Zad (bytes d)=T∧(bytes d).all Zaj=true∧Ext w wr∧∀ b,ZaD A b→w.heap.size≤b
theorem ZiF.len {w wr:World} {T:Nat} {d:ByteArray} {A:Option Addr} {cap:Nat} {xs:List Nat} (h:ZiF w wr T d A cap xs):xs.length≤wl T:=by
 obtain ⟨_,h1,h2,h3,_⟩:=h
 rw [Za0 h1 h2]
 apply Zes
 have:val W64 xs * 1≤val W64 xs * 10 ^ d.size:=Nat.mul_le_mul_left _ (Nat.pow_pos (by omega))
 omega
theorem Zrk {n:Nat} (h:n≤19):10 ^ n≤10000000000000000000:=by
 have:10 ^ n≤10 ^ 19:=Nat.pow_le_pow_right (by omega) h
 exact this
set_option maxHeartbeats 4000000 in
theorem ZiG (d:ByteArray) (w:World) (T:Nat) (hd:(bytes d).all Zaj=true) (hT:Zad (bytes d)=T) (hw:wl T≤1048576) (hl:d.size≤1099511627776) :
 Calls Tryz.prog 303 #[.string d] w (Zb1 w T):=by
 have HD:=zh hd
 have HT:=zh hT
 clear hd hT
 have hcv:=fun (w:World) (s:ByteArray)=>Lib.run_convert_string_bytes (P:=Tryz.prog) w 9 37 5 s Tryz.underlying9 Tryz.underlying37 Tryz.underlying5
 go_enter Tryz.func303,Tryz.ntmps303
 go_wp2
 go_loopw [0,3] (fun v0 v3 wr=>∃ (d:ByteArray) (A:Option Addr) (cap:Nat) (xs:List Nat),v0=.string d∧v3=.slice A xs.length cap∧d.size≤1099511627776∧Hid (ZiF w wr T d A cap xs)) (fun v0 _ _=>match v0 with | .string d=>d.size | _=>0)
 case atStart=>exact ⟨d,none,0,[],rfl,rfl,hl,Buf.nil,Dig.nil,Trim.nil,by simpa using HT.out,HD.out,Fr.refl _ _,fun b hb=>by obtain ⟨a,ha,_⟩:=hb; cases ha⟩
 case round =>
  obtain ⟨d,A,cap,xs,rfl,rfl,hl,hR⟩:=hrel
  by_cases hpos:0 < d.size
  ·have hlen:=hR.out.len
   obtain ⟨n,hn⟩:∃ n,d.size=n:=⟨_,rfl⟩
   obtain ⟨z,hz⟩:∃ z,(n - 1) % 19=z:=⟨_,rfl⟩
   have hz18:z≤18:=by omega
   have hzn:z + 1≤n:=by have:=Nat.mod_le (n - 1) 19; omega
   have e1:((n:Int) - 1) % 19=(z:Int):=by omega
   have hn1:(1:Int)≤(n:Int):=by omega
   have hn2:(0:Int)≤(n:Int) - 1:=by omega
   have hzI:((z:Int) + 1)≤(n:Int):=by omega
   have hzT:((z:Int) + 1).toNat=z + 1:=by omega
   go_wp2_with fail
   have hes:(d.extract 0 (z + 1)).size=z + 1:=by rw [ByteArray.size_extract]; omega
   have hbs:bytes (d.extract 0 (z + 1))=(bytes d).take (z + 1):=by rw [Zbv]; simp
   have hext:Ext wr (Lib.bytesWorld wr 5 (d.extract 0 (z + 1))):=⟨rfl,rfl,rfl,by rw [Lib.bytesWorld_size]; omega,fun i hi _=>Lib.bytesWorld_at_old _ _ _ i hi⟩
   have hcel:∀ j,j < z + 1→(Lib.bytesWorld wr 5 (d.extract 0 (z + 1))).cell? ⟨wr.heap.size,j,none⟩=some (.int .u8 ((bytes d).getD j 0).toNat):=fun j hj=>by
    rw [Lib.bytesWorld_cell _ _ _ j (by omega)]
    have:(d.extract 0 (z + 1)).data.toList=(bytes d).take (z + 1):=hbs
    rw [this]
    simp [List.getElem?_take_of_lt hj]
   have hblt:wr.heap.size < (Lib.bytesWorld wr 5 (d.extract 0 (z + 1))).heap.size:=by rw [Lib.bytesWorld_size]; omega
   generalize Lib.bytesWorld wr 5 (d.extract 0 (z + 1))=wB at *
   have HX:=zh hext
   have HC:=zh hcel
   have Hn:=zh hn
   have Hz:=zh hz
   have hdl:Hid ((bytes d).length=n):=by unfold Hid; rw [Zag]; exact hn
   clear hext hcel hes hbs hn hz
   go_loop [5,6,25] (fun v5 v6 v25=>∃ j c p:Nat,j≤z + 1∧v25=.int .i64 (j:Int)∧v5=.int .u64 (c:Int)∧v6=.int .u64 (p:Int)∧c < p∧p≤10000000000000000000∧Hid (c=Zad ((bytes d).take j)∧p=10 ^ j)) (fun _ _ v=>z + 1 - (intOf v).toNat)
   case atStart=>exact ⟨0,0,1,by omega,rfl,rfl,rfl,by omega,by omega,by unfold Hid; simp [Zad]⟩
   case round =>
    obtain ⟨j,c,p,hj,rfl,rfl,rfl,hcp,hp,hJ⟩:=hrel
    by_cases hlt:j < z + 1
    ·have hcj:=HC.out j hlt
     have hjn:j < (bytes d).length:=by rw [hdl.out]; omega
     have hdig:=ZeJ (c:=(bytes d).getD j 0) (by
      rw [List.getD_eq_getElem?_getD,List.getElem?_eq_getElem hjn]
      exact List.all_eq_true.1 hR.out.2.2.2.2.1 _ (List.getElem_mem hjn))
     have hsn:Hid (Zad ((bytes d).take (j + 1))=10 * Zad ((bytes d).take j) + (((bytes d).getD j 0).toNat - 48)):=by
      unfold Hid
      rw [List.take_succ_eq_append_getElem hjn,Zdo,List.getD_eq_getElem?_getD,List.getElem?_eq_getElem hjn]
      rfl
     have hlt3:Hid (Zad ((bytes d).take (j + 1)) < 10 ^ (j + 1)):=by
      have h:=Zbp ((bytes d).take (j + 1)) (by
       rw [List.all_eq_true]; intro x hx
       exact List.all_eq_true.1 hR.out.2.2.2.2.1 _ (List.mem_of_mem_take hx))
      rw [List.length_take,Nat.min_eq_left (by omega)] at h
      exact h
     have hp19:=Zrk (n:=j + 1) (by omega)
     rw [Nat.pow_succ,← hJ.out.2] at hp19
     generalize ((bytes d).getD j 0).toNat=x at *
     have f1:IntKind.u64.wrap (10 * (c:Int))=((10 * c:Nat):Int):=by
      rw [show 10 * (c:Int)=((10 * c:Nat):Int) by omega]; exact ZaQ _ (by rw [Zah]; omega)
     have f2:IntKind.u8.wrap ((x:Int) - 48)=((x - 48:Nat):Int):=by
      rw [show (x:Int) - 48=((x - 48:Nat):Int) by omega,IntKind.wrap_u8]; omega
     have f3:IntKind.u64.wrap ((x - 48:Nat):Int)=((x - 48:Nat):Int):=ZaQ _ (by rw [Zah]; omega)
     have f4:IntKind.u64.wrap (((10 * c:Nat):Int) + ((x - 48:Nat):Int))=((10 * c + (x - 48):Nat):Int):=Zbn (by rw [Zah]; omega)
     have f5:IntKind.u64.wrap ((p:Int) * 10)=((p * 10:Nat):Int):=by
      rw [show (p:Int) * 10=((p * 10:Nat):Int) by omega]; exact ZaQ _ (by rw [Zah]; omega)
     obtain ⟨c1,hc1⟩:∃ c1,10 * c=c1:=⟨_,rfl⟩
     obtain ⟨y,hy⟩:∃ y,x - 48=y:=⟨_,rfl⟩
     obtain ⟨c2,hc2⟩:∃ c2,c1 + y=c2:=⟨_,rfl⟩
     obtain ⟨p2,hp2⟩:∃ p2,p * 10=p2:=⟨_,rfl⟩
     have HN:Hid (c2=Zad ((bytes d).take (j + 1))∧p2=10 ^ (j + 1)):=by
      unfold Hid
      rw [hsn.out,← hJ.out.1,Nat.pow_succ,← hJ.out.2]
      omega
     have hc2p:c2 < p2:=by rw [HN.out.1,HN.out.2]; exact hlt3.out
     rw [hc1] at f1 f4
     rw [hy] at f2 f3 f4
     rw [hc2] at f4
     rw [hp2] at f5 hp19
     have hjB:wr.heap.size≠wB.heap.size:=by omega
     clear hc1 hy hc2 hp2 hdig hjn
     go_wp2
     go_round
     case rel=>exact ⟨j + 1,c2,p2,by omega,by go_num,rfl,rfl,hc2p,hp19,HN.out⟩
     case measure=>simp [intOf]; omega
    ·obtain rfl:j=z + 1:=by omega
     have hzd:z + 1≤d.size:=by rw [Hn.out]; exact hzn
     have hd2:bytes (d.extract (z + 1) d.size)=(bytes d).drop (z + 1):=by
      rw [Zbv,List.take_of_length_le (by rw [List.length_drop,Zag]; exact Nat.le_refl _)]
     have hd2s:(d.extract (z + 1) d.size).size=d.size - (z + 1):=by rw [ByteArray.size_extract]; omega
     have Hd2:=zh hd2
     have Hd2s:=zh hd2s
     clear hd2 hd2s
     go_wp2_with fail
     have HR0:=zh hR.out.1
     have HDig:=zh hR.out.2.1
     have HTr:=zh hR.out.2.2.1
     have HEq:Hid (∀ m,val W64 m=val W64 xs * p + c→val W64 m * 10 ^ (d.extract (z + 1) d.size).size + Zad (bytes (d.extract (z + 1) d.size))=T):=by
      intro m hm
      rw [hm,Hd2s.out,Hd2.out,← hR.out.2.2.2.1]
      have h1:bytes d=(bytes d).take (z + 1) ++ (bytes d).drop (z + 1):=(List.take_append_drop _ _).symm
      conv=>rhs; rw [h1,Zeg,← hJ.out.1]
      rw [List.length_drop,Zag,hJ.out.2,Nat.add_mul,Nat.mul_assoc,← Nat.pow_add,Nat.add_assoc]
      congr 3
      omega
     have HAll:Hid ((bytes (d.extract (z + 1) d.size)).all Zaj=true):=by
      unfold Hid
      rw [Hd2.out,List.all_eq_true]
      intro x hx
      exact List.all_eq_true.1 hR.out.2.2.2.2.1 _ (List.mem_of_mem_drop hx)
     have HE0:=zh hR.out.2.2.2.2.2.1
     have HN0:=zh hR.out.2.2.2.2.2.2
     have hd2l:(d.extract (z + 1) d.size).size≤1099511627776:=by rw [Hd2s.out]; omega
     have hmeas:Hid ((d.extract (z + 1) d.size).size < d.size):=by rw [Hid,Hd2s.out]; omega
     generalize d.extract (z + 1) d.size=d2 at *
     have hxb:=hlen
     have HcW:Hid (c < W64):=by unfold Hid; rw [Zah]; omega
     have HpW:Hid (p < W64):=by unfold Hid; rw [Zah]; omega
     have Hp1:Hid (1≤p):=by unfold Hid; omega
     go_loopw [9,44] (fun v9 v44 wx=>∃ (k q:Nat) (m:List Nat),k≤xs.length∧v44=.int .i64 (k:Int)∧v9=.int .u64 (q:Int)∧Hid (ZcJ xs p c k m q)∧Hid (Buf .u64 217 wx A cap m)∧Hid (Fr (ZaD A) wB wx)) (fun _ v _=>xs.length - (intOf v).toNat)
     case atStart=>exact ⟨0,c,xs,by omega,rfl,rfl,ZcJ.start HDig.out HcW.out,HR0.out.ext HX.out,Fr.refl _ _⟩
     case round =>
      obtain ⟨k,q,m,hk,rfl,rfl,hM,hB,hF⟩:=hrel
      have hml:m.length=xs.length:=hM.out.1
      by_cases hlt:k < xs.length
      ·obtain ⟨b,rfl,hO,hC,hmc,hcm⟩:=hB.out.open_ (by intro e; rw [e] at hml; simp at hml; omega)
       obtain ⟨y,hy⟩:∃ y,m[k]?.getD 0=y:=⟨_,rfl⟩
       have hcell:=hO.cell (i:=k) (by omega)
       rw [hy] at hcell
       have hfrz:=hO.frozen k
       have HyW:Hid (y < W64):=hy ▸ hM.out.2.2.1.getD Zar k
       have HM2:=zh (hM.out.step hlt hy HpW.out)
       have HB2:=fun v=>Buf.set_ hO hC hmc hcm k v (by omega)
       have HBh:=zh HB2
       have HqW:=zh hM.out.2.2.2.1
       have hblt2:=hO.lt
       have hbne:b≠wr.heap.size:=by omega
       have Hml:=zh hml
       clear hO hC hmc hcm hy HB2 hml
       go_wp2_with (go_at_call 356; refine (Zbl y p q _ HyW.out HpW.out HqW.out).mono ?_; rintro e w' ⟨rfl,rfl⟩)
       go_roundw
       case rel=>exact ⟨k + 1,_,_,by omega,by go_num,rfl,HM2.out,HBh.out _,hF.out.setCell (p:=⟨b,k,none⟩) (Or.inl ⟨_,rfl,rfl⟩) _⟩
       case measure=>simp [intOf]; omega
      ·obtain rfl:k=xs.length:=by omega
       have HEx:Hid (Ext w wr):=(HE0.out.trans HX.out).next hF.out (fun i hi hb=>by have:=HN0.out i hb; omega)
       by_cases hq:q=0
       ·subst hq
        obtain ⟨h1,h2⟩:=hM.out.zero HTr.out Hp1.out
        have HNew:Hid (ZiF w wr T d2 A cap m):=⟨hB.out,hM.out.2.2.1,h1,HEq.out m h2,HAll.out,HEx.out,HN0.out⟩
        have Hml:=zh hml
        clear h1 h2 hml
        go_wp2
        go_roundw
        case rel=>exact ⟨d2,A,cap,m,rfl,by rw [Hml.out],hd2l,HNew.out⟩
        case measure=>exact hmeas.out
       ·have hq':((q:Int) != 0)=true:=by simp; omega
        obtain ⟨h1,h2,h3⟩:=hM.out.more hq
        have HNum:Hid (Trim (m ++ [q])∧Dig W64 (m ++ [q])∧val W64 (m ++ [q])=val W64 xs * p + c):=⟨h1,h2,h3⟩
        have Hml:=zh hml
        have hSh:Hid (Zan .u64 (wr.alloc (.cells #[.int .u64 (q:Int)] 217)) (some ⟨wr.heap.size,0,none⟩) [q]):=(Own.new wr 217 .u64 [q] []).shows0
        clear h1 h2 h3 hml hq
        go_wp2_with (at_builtin; refine Hid.out ?_)
        refine zh ?_
        refine Za8 rfl _ _ _ rfl _ .u64 8 Tryz.underlying133 ZdM A (some ⟨wr.heap.size,0,none⟩) xs.length 1 cap 1 rfl rfl m [q] Hml.out rfl (hB.out.ext ((Fr.refl _ _).alloc _)) hSh.out (by simp only [maxLen]; omega) (by omega) ?_
        intro A1 cap1 w2 hB1 hF1 hA1
        have HNew:Hid (ZiF w w2 T d2 A1 cap1 (m ++ [q])):=by
         refine ⟨hB1,HNum.out.2.1,HNum.out.1,HEq.out _ HNum.out.2.2,HAll.out,?_,?_⟩
         ·exact (HEx.out.alloc _).next hF1 (fun i hi hb=>by have:=HN0.out i hb; omega)
         ·intro b hb
          rcases hA1 b hb with h | h
          ·exact HN0.out b h
          ·have:=HEx.out.size; simp at h; omega
        clear hB1 hF1 hA1
        go_wp2
        go_roundw
        case rel=>exact ⟨d2,A1,cap1,m ++ [q],rfl,by rw [List.length_append,Hml.out]; rfl,hd2l,HNew.out⟩
        case measure=>exact hmeas.out
  ·have h0:d.size=0:=by omega
   obtain ⟨hB,hD,hTr,hV,_,Q,hN⟩:=hR.out
   have hb0:bytes d=[]:=List.length_eq_zero_iff.1 (by rw [Zag]; exact h0)
   rw [h0,hb0,Nat.pow_zero,Nat.mul_one] at hV
   have HB:=zh hB
   have HD2:=zh hD
   have HTr:=zh hTr
   have HV:Hid (val W64 xs=T):=by unfold Hid; rw [← hV]; rfl
   have HE:=zh Q
   clear hB hD hTr hV Q hN h0 hb0
   go_wp2
   go_ret
   exact ⟨_,rfl,⟨A,xs,cap,rfl,HB.out.len,HB.out.shows,HD2.out,HTr.out,HV.out⟩,HE.out⟩
end Go.Proofs.YtcpjeaaapocoeaaGreatDoor

namespace Go.Proofs.YtcpjeaaapocoeaaGreatDoor
open Go.RowKit
set_option maxHeartbeats 1000000 in
theorem Zjj (d:ByteArray) (w:World) (T:Nat) (hd:(bytes d).all Zaj=true) (hT:Zad (bytes d)=T) (hw:wl T≤1048576) (hl:d.size≤1099511627776) :
 Calls Tryz.prog 227 #[.string d, .slice none 0 0] w (Zb1 w T):=by
 have HD:=zh hd
 have HT:=zh hT
 clear hd hT
 go_enter Tryz.func227,Tryz.ntmps227
 go_wp2
 go_loop [5] (fun v=>v=.int .i64 (-1)) (fun _=>0)
 case atStart=>rfl
 case round =>
  subst hrel
  go_wp2_with fail
  refine (ZiG d _ T HD.out HT.out hw hl).mono ?_
  rintro e w1 ⟨u1,rfl,hN,hF⟩
  have HN:=zh hN
  have HF:=zh hF
  clear hN hF
  go_wp2
  go_ret
  exact ⟨_,rfl,HN.out,HF.out⟩
theorem ZeK {n k m:Nat} (h:n < 10 ^ k) (hk:k≤m):wl n≤m:=by
 rw [Zc7]
 have h1:10 ^ k≤W64 ^ k:=Nat.pow_le_pow_left (by rw [Zah]; omega) k
 have h2:W64 ^ k≤W64 ^ m:=Nat.pow_le_pow_right Zar hk
 exact Nat.lt_of_lt_of_le h (Nat.le_trans h1 h2)
def ZcK (n:Nat):Prop:=n≤570
set_option maxHeartbeats 1000000 in
theorem Zjk (d:ByteArray) (w:World) (hd:(bytes d).all Zaj=true) (hl:ZcK d.size) :
 Calls Tryz.prog 115 #[.string d] w (Zb1 w (Zad (bytes d))):=by
 unfold ZcK at hl
 have hw:wl (Zad (bytes d))≤1048576:=ZeK (by have:=Zbp (bytes d) hd; rw [Zag] at this; exact this) (by omega)
 generalize hT:Zad (bytes d)=T at *
 have HD:=zh hd
 have HT:=zh hT
 clear hd hT
 go_enter Tryz.func115,Tryz.ntmps115
 go_wp2_with fail
 refine (Zjj d _ T HD.out HT.out hw (by omega)).mono ?_
 rintro e w1 ⟨u1,rfl,hN,hF⟩
 have HN:=zh hN
 have HF:=zh hF
 clear hN hF
 go_wp2
 go_ret
 exact ⟨_,rfl,HN.out,HF.out⟩
set_option maxHeartbeats 1000000 in
theorem Zda (d:ByteArray) (w:World) (hd:(bytes d).all Zaj=true) (hl:ZcK d.size) :
 Calls Tryz.prog 52 #[.string d] w (Zgq w (Zad (bytes d):Int)):=by
 generalize hT:Zad (bytes d)=T
 have HD:=zh hd
 have HL:=zh hl
 have HT:=zh hT
 clear hd hT hl
 go_enter Tryz.func52,Tryz.ntmps52
 go_wp2_with fail
 generalize hwb:World.alloc w _=wb
 have HBr:Hid (Blk 135 wb w.heap.size #[.bool false, .slice none 0 0]):=hwb ▸ Blk.new _ _ _
 have HE:Hid (Ext w wb):=hwb ▸ (Fr.refl _ _).alloc _
 clear hwb
 refine (Zjk d _ HD.out HL.out).mono ?_
 rw [HT.out]
 rintro e w1 ⟨u1,rfl,hN1,hF1⟩
 obtain ⟨A1,l1,c1,rfl⟩:=hN1.slice
 obtain ⟨z0,z1,z2,z3⟩:=(HBr.out.ext hF1).cell2
 have HN1:=zh hN1
 have HF1:=zh hF1
 clear hN1 hF1
 go_wp2
 exact Zjd (neg:=false) rfl rfl (by omega) HE.out HBr.out HF1.out HN1.out rfl rfl
end Go.Proofs.YtcpjeaaapocoeaaGreatDoor

namespace Go.Proofs.YtcpjeaaapocoeaaGreatDoor
open Go.RowKit
def Zjl (cs:Array Value):Prop:=∀ (i:Nat) (k:Int),cs[i]? ≠ some (.int .u64 k)
theorem ZbZ {s t:Bool} {A B:Option Addr} {l c l' c':Nat}:Zjl #[.bool s, .slice A l c, .bool t, .slice B l' c']:=by
 intro i k; rcases i with _ | _ | _ | _ | i<;>simp
theorem Zaq.other {t:TypeId} {w w':World} {r n:Nat} {u:Value} {cs:Array Value} (h:Zaq w u n) (hB:Blk t w r cs) (hc:Zjl cs) (hF:Fr (fun i=>i=r) w w'):Zaq w' u n:=by
 obtain ⟨A',xs,c',h1,h2,h3,h4⟩:=h
 refine ⟨A',xs,c',h1,h2,?_,h4⟩
 cases xs with
 | nil=>exact Zan.nil
 | cons x xs =>
   refine h3.fr hF (fun ad hA hlt e=>?_)
   obtain ⟨g,off,e',_,hcl⟩:=h3.at (i:=0) (by simp)
   rw [e'] at hA
   injection hA with hA
   subst hA
   simp at e
   subst e
   rw [hB.cell] at hcl
   exact hc _ _ hcl
theorem Za4.other {t:TypeId} {w w':World} {r:Nat} {v:Value} {z:Int} {cs:Array Value} (h:Za4 w v z) (hB:Blk t w r cs) (hc:Zjl cs) (hF:Fr (fun i=>i=r) w w'):Za4 w' v z:=by
 obtain ⟨s',u,n,h1,h2,h3⟩:=h
 exact ⟨s',u,n,h1,h2.other hB hc hF,h3⟩
theorem Blk.cell4 {t:TypeId} {w:World} {g:Nat} {x y z u:Value} (h:Blk t w g #[x,y,z,u]):w.cell? ⟨g,0,none⟩=some x∧w.cell? ⟨g,1,none⟩=some y∧w.cell? ⟨g,2,none⟩=some z∧w.cell? ⟨g,3,none⟩=some u∧w.frozen? ⟨g,0,none⟩=false∧w.frozen? ⟨g,1,none⟩=false∧w.frozen? ⟨g,2,none⟩=false∧w.frozen? ⟨g,3,none⟩=false :=
 ⟨h.cell 0,h.cell 1,h.cell 2,h.cell 3,h.frozen 0,h.frozen 1,h.frozen 2,h.frozen 3⟩
def denF (q:Rat):Int:=if q.den=1 then 0 else (q.den:Int)
def Zbq (w:World) (v:Value) (q:Rat):Prop:=∃ (s t:Bool) (A B:Option Addr) (l c l' c':Nat),v=.agg #[.bool s, .slice A l c, .bool t, .slice B l' c']∧Za4 w (.agg #[.bool s, .slice A l c]) q.num∧Za4 w (.agg #[.bool t, .slice B l' c']) (denF q)
theorem Zbq.ext {w w':World} {v:Value} {q:Rat} (h:Zbq w v q) (hf:Ext w w'):Zbq w' v q:=by
 obtain ⟨s,t,A,B,l,c,l',c',h1,h2,h3⟩:=h
 exact ⟨s,t,A,B,l,c,l',c',h1,h2.ext hf,h3.ext hf⟩
theorem Za4.zero (w:World):Za4 w (.agg #[.bool false, .slice none 0 0]) 0:=⟨false,_,0,rfl,Zaq.zero w,fun _=>rfl,rfl⟩
theorem Zbq.zero (w:World):Zbq w (.agg #[.bool false, .slice none 0 0, .bool false, .slice none 0 0]) 0:=⟨_,_,_,_,_,_,_,_,rfl,Za4.zero w,Za4.zero w⟩
def ZaB (l:List UInt8):Option Rat :=
 match ZaU l with
 | (_,_,_,false)=>none
 | (neg,num,den,true) =>
   if den=[] then some ((sg neg (Zad num):Int):Rat)
   else if Nat.gcd (Zad num) (Zad den)=1 then some (mkRat (sg neg (Zad num)) (Zad den)) else none
def Zhb (w:World) (l:List UInt8) (e:Ending) (w':World):Prop :=
 ∃ v ok,e=.returned (.tuple #[v, .bool ok])∧Ext w w'∧((ok=true∧∃ q,ZaB l=some q∧Zbq w' v q)∨(ok=false∧ZaB l=none∧Zbq w' v 0))
theorem ZbD {p:UInt8→Bool} (l:List UInt8):(l.takeWhile p).all p=true:=by
 induction l with
 | nil=>rfl
 | cons x l ih =>
   rw [List.takeWhile_cons]
   split
   ·rename_i h; simp [h]
   ·rfl
theorem Zcl {l num den:List UInt8} {neg ok:Bool} (h:ZaU l=(neg,num,den,ok)):num.all Zaj=true∧den.all Zaj=true∧num.length + den.length≤l.length:=by
 have hle:(Zaz l).2.length≤l.length:=by unfold Zaz; split<;>simp
 have hsum:((Zaz l).2.takeWhile Zaj).length + ((Zaz l).2.dropWhile Zaj).length=(Zaz l).2.length:=by
  rw [← List.length_append,List.takeWhile_append_dropWhile]
 have hden:=(List.takeWhile_sublist Zaj (l:=((Zaz l).2.dropWhile Zaj).tail)).length_le
 have htl:((Zaz l).2.dropWhile Zaj).tail.length≤((Zaz l).2.dropWhile Zaj).length:=by simp
 unfold ZaU at h
 simp only [] at h
 split at h
 ·injection h with _ h; injection h with h1 h; injection h with h2 _; subst h1 h2
  exact ⟨ZbD _,rfl,by simp; omega⟩
 split at h
 ·injection h with _ h; injection h with h1 h; injection h with h2 _; subst h1 h2
  exact ⟨ZbD _,rfl,by simp; omega⟩
 split at h
 ·injection h with _ h; injection h with h1 h; injection h with h2 _; subst h1 h2
  exact ⟨ZbD _,rfl,by simp; omega⟩
 split at h
 ·injection h with _ h; injection h with h1 h; injection h with h2 _; subst h1 h2
  exact ⟨ZbD _,rfl,by simp; omega⟩
 ·injection h with _ h; injection h with h1 h; injection h with h2 _; subst h1 h2
  exact ⟨ZbD _,ZbD _,by omega⟩
theorem ZfG {l:List UInt8} (hd:l.all Zaj=true) (h0:l≠[]) (h48:l.head? ≠ some 48):1≤Zad l∧(2≤Zad l∨l=[49]):=by
 cases l with
 | nil=>exact absurd rfl h0
 | cons c l =>
   rw [List.all_cons,Bool.and_eq_true] at hd
   have h1:=ZeJ hd.1
   have h2:c.toNat≠48:=fun e=>h48 (by simp; exact UInt8.toNat.inj e)
   rw [Zhw]
   have hp:1≤10 ^ l.length:=Nat.pow_pos (by omega)
   have h3:1 * 10 ^ l.length≤(c.toNat - 48) * 10 ^ l.length:=Nat.mul_le_mul_right _ (by omega)
   refine ⟨by omega,?_⟩
   cases l with
   | nil =>
     by_cases e:c.toNat=49
     ·right; rw [UInt8.toNat.inj (a:=c) (b:=49) e]
     ·left; simp [Zad]; omega
   | cons d l =>
     left
     rw [List.length_cons,Nat.pow_succ] at h3 ⊢
     have hp:1≤10 ^ l.length:=Nat.pow_pos (by omega)
     omega
theorem ZfH {l num den:List UInt8} {neg:Bool} (h:ZaU l=(neg,num,den,true)):(den≠[]→2≤Zad den)∧(Zad num=0→neg=false∧den=[]):=by
 have hdg:=Zcl h
 unfold ZaU at h
 simp only [] at h
 split at h
 ·rename_i h48
  injection h with h0 h; injection h with h1 h; injection h with h2 h3; subst h0 h1 h2
  simp at h3
  exact ⟨fun h=>absurd rfl h,fun _=>⟨h3.1,rfl⟩⟩
 rename_i n48
 split at h
 ·injection h with _ h; injection h with h1 h; injection h with h2 h3; cases h3
 rename_i hn
 have hpos:Zad ((Zaz l).2.takeWhile Zaj)≠0:=by
  have:=(ZfG (ZbD (p:=Zaj) (Zaz l).2) (fun e=>hn (Or.inl e)) (fun e=>hn (Or.inr e))).1
  omega
 split at h
 ·injection h with _ h; injection h with h1 h; injection h with h2 _; subst h1 h2
  exact ⟨fun h=>absurd rfl h,fun e=>absurd e hpos⟩
 split at h
 ·injection h with _ h; injection h with h1 h; injection h with h2 h3; cases h3
 ·injection h with _ h; injection h with h1 h; injection h with h2 h3; subst h1
  rw [h2] at h3
  simp at h3
  refine ⟨fun hne=>?_,fun e=>absurd e hpos⟩
  rcases (ZfG hdg.2.1 hne h3.1.2).2 with h | h
  ·exact h
  ·exact absurd h h3.2
end Go.Proofs.YtcpjeaaapocoeaaGreatDoor

namespace Go.Proofs.YtcpjeaaapocoeaaGreatDoor
open Go.RowKit
theorem Blk.one {t:TypeId} {w wb:World} {x:Array Value} (h:w.alloc (.cells x t)=wb):Blk t wb w.heap.size x∧Ext w wb:=by
 subst h
 exact ⟨Blk.new _ _ _,(Fr.refl _ _).alloc _⟩
theorem Zdw {fn:Func} {tmps:Array Value} {w wz:World} {r:Nat} {ok:Bool} {s t:Bool} {A B:Option Addr} {l c l' c':Nat} {L:List UInt8} (hres:fn.results=#[.cell 2 142, .tmp 3]) (ht:tmps[2]? = some (.pointer (some ⟨r,0,none⟩))) (h3:tmps[3]? = some (.bool ok))
 (hB:Blk 142 wz r #[.bool s, .slice A l c, .bool t, .slice B l' c']) (Q:Ext w wz)
 (hR:(ok=true∧∃ q,ZaB L=some q∧Zbq wz (.agg #[.bool s, .slice A l c, .bool t, .slice B l' c']) q)∨(ok=false∧ZaB L=none∧Zbq wz (.agg #[.bool s, .slice A l c, .bool t, .slice B l' c']) 0)) :
 bodyPost Tryz.prog fn (Zhb w L) .ret ⟨tmps,[]⟩ wz:=by
 obtain ⟨h0,h1,h2,h4,_⟩:=hB.cell4
 exact bodyPost_ret (v:=.tuple #[.agg #[.bool s, .slice A l c, .bool t, .slice B l' c'], .bool ok]) (by simp [results,hres,ht,h3,go_sem,h0,h1,h2,h4]) rfl ⟨_,ok,rfl,Q,hR⟩
theorem Fr.set4 {w:World} {r:Nat} (a b c d:Value):Fr (fun i=>i=r) w ((((w.setCell ⟨r,0,none⟩ a).setCell ⟨r,1,none⟩ b).setCell ⟨r,2,none⟩ c).setCell ⟨r,3,none⟩ d) :=
 ((((Fr.refl (fun i=>i=r) w).setCell (p:=⟨r,0,none⟩) (Or.inl rfl) _).setCell (p:=⟨r,1,none⟩) (Or.inl rfl) _).setCell (p:=⟨r,2,none⟩) (Or.inl rfl) _).setCell (p:=⟨r,3,none⟩) (Or.inl rfl) _
theorem Fr.set2 {w:World} {r i j:Nat} (a b:Value):Fr (fun k=>k=r) w ((w.setCell ⟨r,i,none⟩ a).setCell ⟨r,j,none⟩ b) :=
 ((Fr.refl (fun k=>k=r) w).setCell (p:=⟨r,i,none⟩) (Or.inl rfl) _).setCell (p:=⟨r,j,none⟩) (Or.inl rfl) _
theorem Fr.local_ {w w1 w2:World} {r:Nat} (Q:Ext w w1) (hF:Fr (fun i=>i=r) w1 w2) (hr:w.heap.size≤r):Ext w w2:=Q.next hF (fun i hi e=>by omega)
theorem Blk.put4 {t:TypeId} {w:World} {r:Nat} {x y z u:Value} (h:Blk t w r #[x,y,z,u]) (a b c d:Value):Blk t ((((w.setCell ⟨r,0,none⟩ a).setCell ⟨r,1,none⟩ b).setCell ⟨r,2,none⟩ c).setCell ⟨r,3,none⟩ d) r #[a,b,c,d] :=
 (((h.set_ 0 a).set_ 1 b).set_ 2 c).set_ 3 d
def Zgx (l:List UInt8):Prop:=l.length≤570∧∀ neg num den,ZaU l=(neg,num,den,true)→den≠[]→ZeY (sg neg (Zad num)) (Zad den:Int)
theorem ZjU (z:Int):((z:Int):Rat).num=z∧denF ((z:Int):Rat)=0:=by
 refine ⟨rfl,?_⟩
 unfold denF
 rw [if_pos (show ((z:Int):Rat).den=1 from rfl)]
theorem Zfe {z:Int} {d:Nat} (hd:2≤d) (hg:Nat.gcd z.natAbs d=1):(mkRat z d).num=z∧denF (mkRat z d)=(d:Int):=by
 have h1:mkRat z d=⟨z,d,by omega,hg⟩:=by
  rw [← Rat.normalize_eq_mkRat (by omega)]
  exact Rat.normalize_eq_mk' z d (by omega) hg
 rw [h1]
 refine ⟨rfl,?_⟩
 unfold denF
 simp
 omega
set_option maxHeartbeats 2000000 in
theorem Zk1 (s:ByteArray) (w:World) (hg:Glob w) (hok:Zgx (bytes s)):Calls Tryz.prog 236 #[.string s] w (Zhb w (bytes s)):=by
 have hs:s.size≤570:=by have:=hok.1; rw [Zag] at this; exact this
 have HG:=zh hg
 have HO:=zh hok
 clear hg hok
 go_enter Tryz.func236,Tryz.ntmps236
 go_wp2_with fail
 generalize hwb:World.alloc w _=wb
 obtain ⟨hB0,hE0⟩:=Blk.one hwb
 have HB0:=zh hB0
 have HE0:=zh hE0
 clear hwb hB0 hE0
 refine (Zgw s _ (by omega)).mono ?_
 rintro e w1 ⟨neg,t,d,ok,rfl,hsp,hF1⟩
 have HSP:=zh hsp
 have HB1:=zh (HB0.out.ext hF1)
 have HE1:=zh (HE0.out.trans hF1)
 clear hsp hF1 HB0 HE0
 cases ok with
 | false =>
   have hR:Hid (ZaB (bytes s)=none):=by unfold Hid ZaB; rw [HSP.out]
   obtain ⟨x0,x1,x2,x3,x4,x5,x6,x7⟩:=HB1.out.cell4
   have hlt:=HB1.out.lt
   go_wp2
   have hB2:=(HB1.out.put4 (.bool false) (.slice none 0 0) (.bool false) (.slice none 0 0)).alloc (.cells #[.bool neg, .string t, .string d] 360)
   exact Zdw rfl rfl rfl hB2 ((Fr.local_ HE1.out (Fr.set4 _ _ _ _) (by omega)).alloc _) (Or.inr ⟨rfl,hR.out,Zbq.zero _⟩)
 | true =>
   obtain ⟨hd1,hd2,hd3⟩:=Zcl HSP.out
   rw [Zag,Zag,Zag] at hd3
   have Hd1:=zh hd1
   have Hd2:=zh hd2
   obtain ⟨hk1,hk2⟩:=ZfH HSP.out
   have Hk1:=zh hk1
   have Hk2:=zh hk2
   have hpn:ZcK t.size:=by unfold ZcK; omega
   have hpd:ZcK d.size:=by unfold ZcK; omega
   have HPn:=zh hpn
   have HPd:=zh hpd
   clear hd1 hd2 hd3 hk1 hk2 hpn hpd
   go_wp2_with fail
   generalize hwb:World.alloc w1 _=wf
   obtain ⟨hBf,hEf⟩:=Blk.one hwb
   have HBf:=zh hBf
   have HB2:=zh (HB1.out.ext hEf)
   have HE2:=zh (HE1.out.trans hEf)
   have hfl:w.heap.size < w1.heap.size:=HB1.out.lt
   generalize w1.heap.size=F at *
   clear hwb hBf hEf HB1 HE1
   refine (Zda t _ Hd1.out HPn.out).mono ?_
   rintro e w2 ⟨u,rfl,hI,hF2⟩
   obtain ⟨s1,A1,l1,c1,rfl⟩:=hI.shape
   have HB3:=zh (HB2.out.ext hF2)
   have HBf3:=zh (HBf.out.ext hF2)
   have HE3:=zh (HE2.out.trans hF2)
   have HI:=zh hI
   obtain ⟨y0,y1,y2,y3,y4,y5⟩:=HBf3.out.cell3
   have hflt:=HBf3.out.lt
   clear hI hF2 HB2 HBf HE2
   by_cases hd:bytes d=[]
   ·have hde:d.toList.isEmpty=true:=by rw [Lib.toList_data,show d.data.toList=[] from hd]; rfl
    obtain ⟨x0,x1,x2,x3,x4,x5,x6,x7⟩:=HB3.out.cell4
    have hrl:=HB3.out.lt
    have HRi:Hid (ZaB (bytes s)=some ((sg neg (Zad (bytes t)):Int):Rat)):=by
     unfold Hid ZaB; rw [HSP.out]; simp only []; rw [if_pos hd]
    clear hd
    cases neg with
    | false =>
      go_wp2
      have hB4:=(HB3.out.put4 (.bool s1) (.slice A1 l1 c1) (.bool false) (.slice none 0 0)).alloc (.cells #[.bool s1, .slice A1 l1 c1, .bool false, .slice none 0 0] 142)
      refine Zdw rfl rfl rfl hB4 ((Fr.local_ HE3.out (Fr.set4 _ _ _ _) (by omega)).alloc _) (Or.inl ⟨rfl,_,HRi.out,_,_,_,_,_,_,_,_,rfl,?_,?_⟩)
      ·exact (HI.out.other HB3.out ZbZ (Fr.set4 _ _ _ _)).ext ((Fr.refl _ _).alloc _)
      ·rw [(ZjU _).2]; exact Za4.zero _
    | true =>
      clear x0 x1 x2 x3 x4 x5 x6 x7
      go_wp2_with fail
      generalize hwb:World.alloc w2 _=wx
      obtain ⟨hBx,hEx⟩:=Blk.one hwb
      have HBx:=zh hBx
      have HBr:=zh (HB3.out.ext hEx)
      have HIx:=zh (HI.out.ext hEx)
      have HEx:=zh (HE3.out.trans hEx)
      have HBfx:=zh (HBf3.out.ext hEx)
      have hfX:F < w2.heap.size:=HBf3.out.lt
      generalize w2.heap.size=X at *
      clear hwb hBx hEx
      refine (Zmt _ _ _ HIx.out).mono ?_
      rintro e w3 ⟨u3,rfl,hI3,hF3⟩
      obtain ⟨s3,A3,l3,c3,rfl⟩:=hI3.shape
      have HBr3:=zh (HBr.out.ext hF3)
      have HBx3:=zh (HBx.out.ext hF3)
      have HE4:=zh (HEx.out.trans hF3)
      have HBf4:=zh (HBfx.out.ext hF3)
      have HI3:Hid (Za4 w3 (.agg #[.bool s3, .slice A3 l3 c3]) (sg true (Zad (bytes t)))):=hI3
      obtain ⟨y0,y1,y2,y3,y4,y5⟩:=HBf4.out.cell3
      obtain ⟨m0,m1,m2,m3,m4,m5,m6,m7⟩:=HBx3.out.cell4
      obtain ⟨x0,x1,x2,x3,x4,x5,x6,x7⟩:=HBr3.out.cell4
      clear hI3 hF3
      go_wp2
      have hF5:Fr (fun k=>k=X) w3 ((w3.setCell ⟨X,0,none⟩ (.bool s3)).setCell ⟨X,1,none⟩ (.slice A3 l3 c3)):=Fr.set2 _ _
      have hBr5:=HBr3.out.fr hF5 (by omega)
      refine Zdw rfl rfl rfl (hBr5.put4 _ _ _ _) (Fr.local_ (Fr.local_ HE4.out hF5 (by omega)) (Fr.set4 _ _ _ _) (by omega)) (Or.inl ⟨rfl,_,HRi.out,_,_,_,_,_,_,_,_,rfl,?_,?_⟩)
      ·exact (HI3.out.other HBx3.out ZbZ hF5).other hBr5 ZbZ (Fr.set4 _ _ _ _)
      ·rw [(ZjU _).2]; exact Za4.zero _
   ·have hde:d.toList.isEmpty=false:=(ZdE hd).2.2
    have HDne:=zh hd
    clear hd
    cases neg with
    | false =>
      have HRd:Hid ((Nat.gcd (sg false (Zad (bytes t))).natAbs (Zad (bytes d))=1→ZaB (bytes s)=some (mkRat (sg false (Zad (bytes t))) (Zad (bytes d))))∧(¬ Nat.gcd (sg false (Zad (bytes t))).natAbs (Zad (bytes d))=1→ZaB (bytes s)=none)):=by
       have e:(sg false (Zad (bytes t))).natAbs=Zad (bytes t):=by simp [sg]
       rw [e]
       unfold Hid ZaB
       rw [HSP.out]
       simp only []
       rw [if_neg HDne.out]
       exact ⟨fun h=>if_pos h,fun h=>if_neg h⟩
      have HFz:Hid (Fits (sg false (Zad (bytes t)))):=by
       have e:(sg false (Zad (bytes t))).natAbs=Zad (bytes t):=by simp [sg]
       unfold Hid Fits
       rw [e]
       refine ZeK (Zbp _ Hd1.out) ?_
       have:=HPn.out; unfold ZcK at this; rw [Zag]; omega
      have HFd:Hid (Fits (Zad (bytes d):Int)):=by
       unfold Hid Fits
       rw [Int.natAbs_natCast]
       refine ZeK (Zbp _ Hd2.out) ?_
       have:=HPd.out; unfold ZcK at this; rw [Zag]; omega
      have HGk:Hid (ZeY (sg false (Zad (bytes t))) (Zad (bytes d):Int)):=HO.out.2 _ _ _ HSP.out HDne.out
      obtain ⟨Z,hZ⟩:∃ Z,sg false (Zad (bytes t))=Z:=⟨_,rfl⟩
      rw [hZ] at HRd HFz HGk
      have HIz:Hid (Za4 w2 (.agg #[.bool s1, .slice A1 l1 c1]) Z):=hZ ▸ HI.out
      clear hZ HI
      go_wp2_with fail
      generalize hwb:World.alloc w2 _=wx
      obtain ⟨hBx,hEx⟩:=Blk.one hwb
      have HBx:=zh hBx
      have HBr:=zh (HB3.out.ext hEx)
      have HIx:=zh (HIz.out.ext hEx)
      have HEx:=zh (HE3.out.trans hEx)
      have hrX:w.heap.size < w2.heap.size:=HB3.out.lt
      generalize w2.heap.size=X at *
      obtain ⟨s2,hs2⟩:∃ s2,s2=s1:=⟨_,rfl⟩
      obtain ⟨A2,hA2⟩:∃ A2,A2=A1:=⟨_,rfl⟩
      obtain ⟨l2,hl2⟩:∃ l2,l2=l1:=⟨_,rfl⟩
      obtain ⟨c2,hc2⟩:∃ c2,c2=c1:=⟨_,rfl⟩
      subst hs2 hA2 hl2 hc2
      clear hwb hBx hEx
      refine (Zda d _ Hd2.out HPd.out).mono ?_
      rintro e w4 ⟨u4,rfl,hI4,hF4⟩
      obtain ⟨s4,A4,l4,c4,rfl⟩:=hI4.shape
      have HBr4:=zh (HBr.out.ext hF4)
      have HBx4:=zh (HBx.out.ext hF4)
      have HIx4:=zh (HIx.out.ext hF4)
      have HE4:=zh (HEx.out.trans hF4)
      have HI4:=zh hI4
      clear hI4 hF4 HBr HBx HIx HEx
      obtain ⟨m0,m1,m2,m3,m4,m5,m6,m7⟩:=HBx4.out.cell4
      go_wp2_with fail
      generalize hw5:World.setCell (World.setCell w4 _ _) _ _=w5
      have hF5:Fr (fun k=>k=X) w4 w5:=hw5 ▸ Fr.set2 _ _
      have HBx5:Hid (Blk 142 w5 X #[.bool s2, .slice A2 l2 c2, .bool s4, .slice A4 l4 c4]):=hw5 ▸ (HBx4.out.set_ 2 _).set_ 3 _
      have HBr5:=zh (HBr4.out.fr hF5 (by omega))
      have HIx5:=zh (HIx4.out.other HBx4.out ZbZ hF5)
      have HI5:=zh (HI4.out.other HBx4.out ZbZ hF5)
      have HE5:=zh (Fr.local_ HE4.out hF5 (by omega))
      clear hw5 hF5 m0 m1 m2 m3 m4 m5 m6 m7 HBx4 HBr4 HIx4 HI4 HE4
      refine (Zjg _ _ Z (Zad (bytes d):Int) _ (HG.out.ext HE5.out) HIx5.out HI5.out HFz.out HFd.out HGk.out).mono ?_
      rintro e w6 ⟨u6,rfl,hI6,hF6⟩
      obtain ⟨s6,A6,l6,c6,rfl⟩:=hI6.shape
      have HBr6:=zh (HBr5.out.ext hF6)
      have HBx6:=zh (HBx5.out.ext hF6)
      have HIx6:=zh (HIx5.out.ext hF6)
      have HId6:=zh (HI5.out.ext hF6)
      have HE6:=zh (HE5.out.trans hF6)
      have HI6:=zh hI6
      clear hI6 hF6 HBr5 HBx5 HIx5 HI5 HE5
      go_wp2_with fail
      refine (Zgr _ _ _ HI6.out).mono ?_
      by_cases hone:((Int.gcd Z (Zad (bytes d):Int):Nat):Int)=1
      ·rw [decide_eq_true hone]
       rintro e w7 ⟨rfl,hF7⟩
       have HBr7:=zh (HBr6.out.ext hF7)
       have HBx7:=zh (HBx6.out.ext hF7)
       have HIx7:=zh (HIx6.out.ext hF7)
       have HId7:=zh (HId6.out.ext hF7)
       have HE7:=zh (HE6.out.trans hF7)
       have HQ:Hid (ZaB (bytes s)=some (mkRat Z (Zad (bytes d)))∧(mkRat Z (Zad (bytes d))).num=Z∧denF (mkRat Z (Zad (bytes d)))=(Zad (bytes d):Int)):=by
        have hg1:Nat.gcd Z.natAbs (Zad (bytes d))=1:=by
         have:Int.gcd Z (Zad (bytes d):Int)=1:=by omega
         exact this
        refine ⟨HRd.out.1 hg1,Zfe (Hk1.out HDne.out) hg1⟩
       clear hone hF7 HBr6 HBx6 HIx6 HId6 HE6
       obtain ⟨x0,x1,x2,x3,x4,x5,x6,x7⟩:=HBr7.out.cell4
       obtain ⟨m0,m1,m2,m3,m4,m5,m6,m7⟩:=HBx7.out.cell4
       go_wp2
       refine Zdw rfl rfl rfl (HBr7.out.put4 _ _ _ _) (Fr.local_ HE7.out (Fr.set4 _ _ _ _) (by omega)) (Or.inl ⟨rfl,_,HQ.out.1,_,_,_,_,_,_,_,_,rfl,?_,?_⟩)
       ·rw [HQ.out.2.1]; exact HIx7.out.other HBr7.out ZbZ (Fr.set4 _ _ _ _)
       ·rw [HQ.out.2.2]; exact HId7.out.other HBr7.out ZbZ (Fr.set4 _ _ _ _)
      ·rw [decide_eq_false hone]
       rintro e w7 ⟨rfl,hF7⟩
       have HBr7:=zh (HBr6.out.ext hF7)
       have HE7:=zh (HE6.out.trans hF7)
       have HQ:Hid (ZaB (bytes s)=none):=HRd.out.2 (fun h=>hone (by have:Int.gcd Z (Zad (bytes d):Int)=1:=h; omega))
       clear hone hF7 HBr6 HBx6 HIx6 HId6 HE6
       obtain ⟨x0,x1,x2,x3,x4,x5,x6,x7⟩:=HBr7.out.cell4
       go_wp2
       exact Zdw rfl rfl rfl (HBr7.out.put4 _ _ _ _) (Fr.local_ HE7.out (Fr.set4 _ _ _ _) (by omega)) (Or.inr ⟨rfl,HQ.out,Zbq.zero _⟩)
    | true =>
      have HRd:Hid ((Nat.gcd (sg true (Zad (bytes t))).natAbs (Zad (bytes d))=1→ZaB (bytes s)=some (mkRat (sg true (Zad (bytes t))) (Zad (bytes d))))∧(¬ Nat.gcd (sg true (Zad (bytes t))).natAbs (Zad (bytes d))=1→ZaB (bytes s)=none)):=by
       have e:(sg true (Zad (bytes t))).natAbs=Zad (bytes t):=by simp [sg]
       rw [e]
       unfold Hid ZaB
       rw [HSP.out]
       simp only []
       rw [if_neg HDne.out]
       exact ⟨fun h=>if_pos h,fun h=>if_neg h⟩
      have HFz:Hid (Fits (sg true (Zad (bytes t)))):=by
       have e:(sg true (Zad (bytes t))).natAbs=Zad (bytes t):=by simp [sg]
       unfold Hid Fits
       rw [e]
       refine ZeK (Zbp _ Hd1.out) ?_
       have:=HPn.out; unfold ZcK at this; rw [Zag]; omega
      have HFd:Hid (Fits (Zad (bytes d):Int)):=by
       unfold Hid Fits
       rw [Int.natAbs_natCast]
       refine ZeK (Zbp _ Hd2.out) ?_
       have:=HPd.out; unfold ZcK at this; rw [Zag]; omega
      have HGk:Hid (ZeY (sg true (Zad (bytes t))) (Zad (bytes d):Int)):=HO.out.2 _ _ _ HSP.out HDne.out
      obtain ⟨Z,hZ⟩:∃ Z,sg true (Zad (bytes t))=Z:=⟨_,rfl⟩
      rw [hZ] at HRd HFz HGk
      go_wp2_with fail
      generalize hwb:World.alloc w2 _=wn
      obtain ⟨hBx,hEx⟩:=Blk.one hwb
      have HBx0:=zh hBx
      have HBr0:=zh (HB3.out.ext hEx)
      have HIx0:=zh (HI.out.ext hEx)
      have HEx0:=zh (HE3.out.trans hEx)
      have HBf0:=zh (HBf3.out.ext hEx)
      have hrX:w.heap.size < w2.heap.size:=HB3.out.lt
      have hfX:F < w2.heap.size:=HBf3.out.lt
      generalize w2.heap.size=X at *
      clear hwb hBx hEx
      refine (Zmt _ _ _ HIx0.out).mono ?_
      rintro e w3 ⟨u3,rfl,hI3,hF3⟩
      obtain ⟨s2,A2,l2,c2,rfl⟩:=hI3.shape
      have hI3':Za4 w3 (.agg #[.bool s2, .slice A2 l2 c2]) Z:=by rw [← hZ]; exact hI3
      have HBr3:=zh (HBr0.out.ext hF3)
      have HBx3:=zh (HBx0.out.ext hF3)
      have HBf4:=zh (HBf0.out.ext hF3)
      have HE4:=zh (HEx0.out.trans hF3)
      have HI3:=zh hI3'
      obtain ⟨y0,y1,y2,y3,y4,y5⟩:=HBf4.out.cell3
      obtain ⟨m0,m1,m2,m3,m4,m5,m6,m7⟩:=HBx3.out.cell4
      clear hI3 hI3' hF3 hZ
      go_wp2_with fail
      generalize hwx:World.setCell (World.setCell w3 _ _) _ _=wx
      have hF5:Fr (fun k=>k=X) w3 wx:=hwx ▸ Fr.set2 _ _
      have HBx:Hid (Blk 142 wx X #[.bool s2, .slice A2 l2 c2, .bool false, .slice none 0 0]):=hwx ▸ (HBx3.out.set_ 0 _).set_ 1 _
      have HBr:=zh (HBr3.out.fr hF5 (by omega))
      have HIx:=zh (HI3.out.other HBx3.out ZbZ hF5)
      have HEx:=zh (Fr.local_ HE4.out hF5 (by omega))
      clear hwx hF5 m0 m1 m2 m3 m4 m5 m6 m7 y0 y1 y2 y3 y4 y5 HBx3 HBr3 HI3 HE4 HBf4
      refine (Zda d _ Hd2.out HPd.out).mono ?_
      rintro e w4 ⟨u4,rfl,hI4,hF4⟩
      obtain ⟨s4,A4,l4,c4,rfl⟩:=hI4.shape
      have HBr4:=zh (HBr.out.ext hF4)
      have HBx4:=zh (HBx.out.ext hF4)
      have HIx4:=zh (HIx.out.ext hF4)
      have HE4:=zh (HEx.out.trans hF4)
      have HI4:=zh hI4
      clear hI4 hF4 HBr HBx HIx HEx
      obtain ⟨m0,m1,m2,m3,m4,m5,m6,m7⟩:=HBx4.out.cell4
      go_wp2_with fail
      generalize hw5:World.setCell (World.setCell w4 _ _) _ _=w5
      have hF5:Fr (fun k=>k=X) w4 w5:=hw5 ▸ Fr.set2 _ _
      have HBx5:Hid (Blk 142 w5 X #[.bool s2, .slice A2 l2 c2, .bool s4, .slice A4 l4 c4]):=hw5 ▸ (HBx4.out.set_ 2 _).set_ 3 _
      have HBr5:=zh (HBr4.out.fr hF5 (by omega))
      have HIx5:=zh (HIx4.out.other HBx4.out ZbZ hF5)
      have HI5:=zh (HI4.out.other HBx4.out ZbZ hF5)
      have HE5:=zh (Fr.local_ HE4.out hF5 (by omega))
      clear hw5 hF5 m0 m1 m2 m3 m4 m5 m6 m7 HBx4 HBr4 HIx4 HI4 HE4
      refine (Zjg _ _ Z (Zad (bytes d):Int) _ (HG.out.ext HE5.out) HIx5.out HI5.out HFz.out HFd.out HGk.out).mono ?_
      rintro e w6 ⟨u6,rfl,hI6,hF6⟩
      obtain ⟨s6,A6,l6,c6,rfl⟩:=hI6.shape
      have HBr6:=zh (HBr5.out.ext hF6)
      have HBx6:=zh (HBx5.out.ext hF6)
      have HIx6:=zh (HIx5.out.ext hF6)
      have HId6:=zh (HI5.out.ext hF6)
      have HE6:=zh (HE5.out.trans hF6)
      have HI6:=zh hI6
      clear hI6 hF6 HBr5 HBx5 HIx5 HI5 HE5
      go_wp2_with fail
      refine (Zgr _ _ _ HI6.out).mono ?_
      by_cases hone:((Int.gcd Z (Zad (bytes d):Int):Nat):Int)=1
      ·rw [decide_eq_true hone]
       rintro e w7 ⟨rfl,hF7⟩
       have HBr7:=zh (HBr6.out.ext hF7)
       have HBx7:=zh (HBx6.out.ext hF7)
       have HIx7:=zh (HIx6.out.ext hF7)
       have HId7:=zh (HId6.out.ext hF7)
       have HE7:=zh (HE6.out.trans hF7)
       have HQ:Hid (ZaB (bytes s)=some (mkRat Z (Zad (bytes d)))∧(mkRat Z (Zad (bytes d))).num=Z∧denF (mkRat Z (Zad (bytes d)))=(Zad (bytes d):Int)):=by
        have hg1:Nat.gcd Z.natAbs (Zad (bytes d))=1:=by
         have:Int.gcd Z (Zad (bytes d):Int)=1:=by omega
         exact this
        refine ⟨HRd.out.1 hg1,Zfe (Hk1.out HDne.out) hg1⟩
       clear hone hF7 HBr6 HBx6 HIx6 HId6 HE6
       obtain ⟨x0,x1,x2,x3,x4,x5,x6,x7⟩:=HBr7.out.cell4
       obtain ⟨m0,m1,m2,m3,m4,m5,m6,m7⟩:=HBx7.out.cell4
       go_wp2
       refine Zdw rfl rfl rfl (HBr7.out.put4 _ _ _ _) (Fr.local_ HE7.out (Fr.set4 _ _ _ _) (by omega)) (Or.inl ⟨rfl,_,HQ.out.1,_,_,_,_,_,_,_,_,rfl,?_,?_⟩)
       ·rw [HQ.out.2.1]; exact HIx7.out.other HBr7.out ZbZ (Fr.set4 _ _ _ _)
       ·rw [HQ.out.2.2]; exact HId7.out.other HBr7.out ZbZ (Fr.set4 _ _ _ _)
      ·rw [decide_eq_false hone]
       rintro e w7 ⟨rfl,hF7⟩
       have HBr7:=zh (HBr6.out.ext hF7)
       have HE7:=zh (HE6.out.trans hF7)
       have HQ:Hid (ZaB (bytes s)=none):=HRd.out.2 (fun h=>hone (by have:Int.gcd Z (Zad (bytes d):Int)=1:=h; omega))
       clear hone hF7 HBr6 HBx6 HIx6 HId6 HE6
       obtain ⟨x0,x1,x2,x3,x4,x5,x6,x7⟩:=HBr7.out.cell4
       go_wp2
       exact Zdw rfl rfl rfl (HBr7.out.put4 _ _ _ _) (Fr.local_ HE7.out (Fr.set4 _ _ _ _) (by omega)) (Or.inr ⟨rfl,HQ.out,Zbq.zero _⟩)
end Go.Proofs.YtcpjeaaapocoeaaGreatDoor

namespace Go.Proofs.YtcpjeaaapocoeaaGreatDoor
theorem Zdy {q:Rat} (h:q.den=1):denF q=0:=by unfold denF; rw [if_pos h]
theorem ZcM {q:Rat} (h:¬ q.den=1):denF q=(q.den:Int):=by unfold denF; rw [if_neg h]
end Go.Proofs.YtcpjeaaapocoeaaGreatDoor

namespace Go.Proofs.YtcpjeaaapocoeaaGreatDoor
open Go.RowKit
theorem ZgH {c:UInt8} (h:Zaj c=true):48≤c.toNat∧c.toNat≤57:=by
 unfold Zaj at h
 simpa using h
theorem Zl6 {s:ByteArray} (h:(bytes s).all Zaj=true) {k:Nat} (hk:k < s.size):Zaj s[k]=true:=by
 have h1:=List.all_eq_true.1 h ((bytes s)[k]'(by rw [Zag]; exact hk)) (List.getElem_mem _)
 rwa [ZhS s hk] at h1
set_option maxHeartbeats 1000000 in
theorem Ze5 (s:ByteArray) (w:World) (hd:(bytes s).all Zaj=true) (hs:s.size≤9) :
 Calls Tryz.prog 315 #[.string s] w fun e w'=>e=.returned (.int .i64 (Zad (bytes s):Int))∧w=w':=by
 have HD:=zh hd
 clear hd
 go_enter Tryz.func315,Tryz.ntmps315
 go_wp2
 go_loop [3,7] (fun n i=>∃ k m:Nat,k≤s.size∧i=.int .i64 (k:Int)∧n=.int .i64 (m:Int)∧m≤1000000000∧Hid (m=Zad ((bytes s).take k))) (fun _ i=>s.size - (intOf i).toNat)
 case atStart=>exact ⟨0,0,Nat.zero_le _,rfl,rfl,by omega,by unfold Hid; simp [Zad]⟩
 case round =>
  obtain ⟨k,m,hk,rfl,rfl,hm,hM⟩:=hrel
  by_cases hlt:k < s.size
  ·have hb:=ZgH (Zl6 HD.out hlt)
   have hts:=Zgv s k hlt
   have HM2:Hid (10 * m + (s[k].toNat - 48)=Zad ((bytes s).take (k + 1))):=by
    unfold Hid; rw [hts,Zdo,← hM.out]
   have hlt2:Zad ((bytes s).take (k + 1)) < 10 ^ ((bytes s).take (k + 1)).length:=Zbp _ (by
    rw [List.all_eq_true]; intro x hx; exact List.all_eq_true.1 HD.out x (List.mem_of_mem_take hx))
   have hle:10 ^ ((bytes s).take (k + 1)).length≤10 ^ 9:=Nat.pow_le_pow_right (by omega) (by rw [List.length_take,Zag]; omega)
   have hB2:10 * m + (s[k].toNat - 48)≤1000000000:=by
    rw [HM2.out]; omega
   have e1:IntKind.u8.wrap ((s[k].toNat:Int) - 48)=((s[k].toNat - 48:Nat):Int):=by rw [IntKind.wrap_u8]; omega
   have e1':((s[k].toNat:Int) - 48) % 256=((s[k].toNat - 48:Nat):Int):=by omega
   obtain ⟨d,ed⟩:∃ d,s[k].toNat - 48=d:=⟨_,rfl⟩
   rw [ed] at HM2 hB2 e1 e1'
   clear hts hlt2 hle
   go_wp2
   go_round
   case rel=>exact ⟨k + 1,10 * m + d,by omega,by go_num,by go_num,hB2,HM2⟩
   case measure=>simp [intOf]; omega
  ·have HF:Hid ((m:Nat)=Zad (bytes s)):=by
    have h:=hM.out
    rw [List.take_of_length_le (by rw [Zag]; omega)] at h
    exact h
   go_wp2
   go_ret
   exact ⟨by rw [← HF.out]; rfl,rfl⟩
set_option maxHeartbeats 1000000 in
theorem ZoA (a b:Nat) (w:World) (ha:a≤9223372036854775807) (hb:b≤9223372036854775807) :
 Calls Tryz.prog 234 #[.int .i64 (a:Int), .int .i64 (b:Int)] w fun e w'=>e=.returned (.int .i64 (Nat.gcd a b:Int))∧∃ n,w'=w.drewN n:=by
 obtain ⟨G,hG⟩:∃ G,Nat.gcd a b=G:=⟨_,rfl⟩
 rw [hG]
 have HG:=zh hG
 clear hG
 go_enter Tryz.func234,Tryz.ntmps234
 go_wp2
 go_loopw [0,1] (fun av bv wr=>∃ x y n:Nat,av=.int .i64 (x:Int)∧bv=.int .i64 (y:Int)∧x≤9223372036854775807∧y≤9223372036854775807∧Hid (Nat.gcd x y=G)∧wr=w.drewN n) (fun _ bv _=>(intOf bv).toNat)
 case atStart=>exact ⟨a,b,0,rfl,rfl,ha,hb,HG,rfl⟩
 case round =>
  obtain ⟨x,y,n,rfl,rfl,hx,hy,hR,rfl⟩:=hrel
  by_cases h0:y=0
  ·subst h0
   have HF:Hid (x=G):=by have:=hR.out; rwa [Nat.gcd_zero_right] at this
   go_wp2
   go_ret
   exact ⟨by rw [← HF.out]; rfl,n,rfl⟩
  ·have g1:((y:Int) != 0)=true:=by simp; omega
   have g2:((y:Int) == 0)=false:=by simp; omega
   have g3:y≠0:=h0
   have q1:(x:Int).tmod (y:Int)=((x % y:Nat):Int):=ZpC
   have q2:(x:Int) % (y:Int)=((x % y:Nat):Int):=rfl
   have hlt:x % y < y:=Nat.mod_lt _ (by omega)
   have HR2:Hid (Nat.gcd y (x % y)=G):=by
    unfold Hid; rw [← hR.out,Nat.gcd_comm x y,Nat.gcd_rec y x,Nat.gcd_comm]
   obtain ⟨r,er⟩:∃ r,x % y=r:=⟨_,rfl⟩
   rw [er] at q1 q2 hlt HR2
   clear er h0
   go_wp2_with fail
   go_region
   all_goals
    go_wp2
    go_roundw
    case rel=>exact ⟨y,r,n + 1,rfl,rfl,hy,by omega,HR2,rfl⟩
    case measure=>simp [intOf]; omega
end Go.Proofs.YtcpjeaaapocoeaaGreatDoor

namespace Go.Proofs.YtcpjeaaapocoeaaGreatDoor
open Go.RowKit
def Zex (l:List UInt8) (a b:Int) (ok:Bool):Prop :=
 (ok=true∧∃ q:Rat,ZaB l=some q∧q.num=a∧(q.den:Int)=b ∧ -1000000000 < a∧a < 1000000000∧1≤b∧b < 1000000000)∨(ok=false∧a=0∧b=0)
def Zh5 (w:World) (l:List UInt8) (e:Ending) (w':World):Prop :=
 ∃ a b ok,e=.returned (.tuple #[.agg #[.int .i64 a, .int .i64 b], .bool ok])∧Zex l a b ok∧Ext w w'
theorem Zcq {fn:Func} {tmps:Array Value} {w wz:World} {r:Nat} {a b:Int} {ok:Bool} {l:List UInt8} (hres:fn.results=#[.cell 2 226, .tmp 3]) (ht:tmps[2]? = some (.pointer (some ⟨r,0,none⟩))) (h3:tmps[3]? = some (.bool ok))
 (hB:Blk 226 wz r #[.int .i64 a, .int .i64 b]) (Q:Ext w wz) (hS:Zex l a b ok):bodyPost Tryz.prog fn (Zh5 w l) .ret ⟨tmps,[]⟩ wz:=by
 obtain ⟨h0,h1,_,_⟩:=hB.cell2
 refine bodyPost_ret (v:=.tuple #[.agg #[.int .i64 a, .int .i64 b], .bool ok]) (by simp [results,hres,ht,h3,go_sem,h0,h1]) rfl ⟨a,b,ok,rfl,hS,Q⟩
theorem Zka {t:ByteArray} (hd:(bytes t).all Zaj=true) (ht:t.size≤9):Zad (bytes t) < 1000000000:=by
 have h1:=Zbp _ hd
 have h2:10 ^ (bytes t).length≤10 ^ 9:=Nat.pow_le_pow_right (by omega) (by rw [Zag]; exact ht)
 omega
theorem Zmg {l:List UInt8} {neg:Bool} {t d:ByteArray} (hS:ZaU l=(neg,bytes t,bytes d,true)) (hd:bytes d=[]) (hb:Zad (bytes t) < 1000000000):Zex l (sg neg (Zad (bytes t))) 1 true:=by
 refine Or.inl ⟨rfl,((sg neg (Zad (bytes t)):Int):Rat),?_,rfl,rfl,?_,?_,by omega,by omega⟩
 ·unfold ZaB; rw [hS]; simp only []; rw [if_pos hd]
 ·show _ < sg neg _
  unfold sg; split<;>omega
 ·show sg neg _ < _
  unfold sg; split<;>omega
theorem ZnD {l:List UInt8} {neg:Bool} {t d:ByteArray} (hS:ZaU l=(neg,bytes t,bytes d,true)) (hd:bytes d≠[]) (hg:Nat.gcd (Zad (bytes t)) (Zad (bytes d))=1) (hb:Zad (bytes t) < 1000000000) (hb2:Zad (bytes d) < 1000000000) :
 Zex l (sg neg (Zad (bytes t))) (Zad (bytes d)) true:=by
 have h2:=(ZfH hS).1 hd
 have hn:(sg neg (Zad (bytes t))).natAbs=Zad (bytes t):=by unfold sg; split<;>omega
 obtain ⟨e1,e2⟩:=Zfe (z:=sg neg (Zad (bytes t))) h2 (by rw [hn]; exact hg)
 refine Or.inl ⟨rfl,_,?_,e1,?_,?_,?_,by omega,by omega⟩
 ·unfold ZaB; rw [hS]; simp only []; rw [if_neg hd,if_pos hg]
 ·unfold denF at e2
  split at e2
  ·omega
  ·exact e2
 ·unfold sg; split<;>omega
 ·unfold sg; split<;>omega
theorem ZdK {T:TypeId} {w w1:World} {r0:Nat} {x y:Value} (hB:Blk T w1 r0 #[x,y]) (Q:Ext w w1) (hr:w.heap.size=r0) (a b:Value) :
 Blk T ((w1.setCell ⟨r0,0,none⟩ a).setCell ⟨r0,1,none⟩ b) r0 #[a,b]∧Ext w ((w1.setCell ⟨r0,0,none⟩ a).setCell ⟨r0,1,none⟩ b) :=
 ⟨(hB.set_ 0 _).set_ 1 _,(Q.setCell (Or.inr (by rw [hr]; exact Nat.le_refl _)) _).setCell (Or.inr (by rw [hr]; exact Nat.le_refl _)) _⟩
set_option maxHeartbeats 2000000 in
theorem Zks (s:ByteArray) (w:World) (hs:s.size≤1099511627776):Calls Tryz.prog 233 #[.string s] w (Zh5 w (bytes s)):=by
 by_cases h20:20 < s.size
 ·go_enter Tryz.func233,Tryz.ntmps233
  go_wp2
  exact Zcq rfl rfl rfl (Blk.new w _ _) ((Fr.refl _ _).alloc _) (Or.inr ⟨rfl,rfl,rfl⟩)
 ·have hs20:decide ((20:Int) < (s.size:Int))=false:=by simp; omega
  go_enter Tryz.func233,Tryz.ntmps233
  go_wp2_with fail
  generalize hwb:World.alloc w _=wb
  have HB:Hid (Blk 226 wb w.heap.size #[.int .i64 0, .int .i64 0]):=hwb ▸ Blk.new _ _ _
  have HE:Hid (Ext w wb):=hwb ▸ (Fr.refl _ _).alloc _
  clear hwb
  refine (Zgw s wb hs).mono ?_
  rintro e w1 ⟨neg,t,d,ok,rfl,hS,hF1⟩
  have HB1:=zh (HB.out.ext hF1)
  have HE1:=zh (HE.out.trans hF1)
  have HS:=zh hS
  obtain ⟨hd1,hd2,hd3⟩:=Zcl hS
  rw [Zag,Zag,Zag] at hd3
  have HT:=zh hd1
  have HD:=zh hd2
  clear HB HE hF1 hS hd1 hd2
  generalize hR0:w.heap.size=r0 at *
  have hr0:=HB1.out.lt
  have HR0:=zh hR0
  clear hR0
  obtain ⟨x0,x1,x2,x3⟩:=HB1.out.cell2
  have HN0:Hid (Blk 226 (((w1.setCell ⟨r0,0,none⟩ (.int .i64 0)).setCell ⟨r0,1,none⟩ (.int .i64 0)).alloc (.cells #[.bool neg, .string t, .string d] 360)) r0 #[.int .i64 0, .int .i64 0]∧Ext w (((w1.setCell ⟨r0,0,none⟩ (.int .i64 0)).setCell ⟨r0,1,none⟩ (.int .i64 0)).alloc (.cells #[.bool neg, .string t, .string d] 360))) :=
   ⟨((HB1.out.set_ 0 _).set_ 1 _).alloc _,((HE1.out.setCell (Or.inr (by rw [HR0.out]; exact Nat.le_refl _)) _).setCell (Or.inr (by rw [HR0.out]; exact Nat.le_refl _)) _).alloc _⟩
  cases ok with
  | false =>
    go_wp2
    exact Zcq rfl rfl rfl HN0.out.1 HN0.out.2 (Or.inr ⟨rfl,rfl,rfl⟩)
  | true =>
    by_cases ht9:9 < t.size
    ·go_wp2
     exact Zcq rfl rfl rfl HN0.out.1 HN0.out.2 (Or.inr ⟨rfl,rfl,rfl⟩)
    ·have hT9:decide ((9:Int) < (t.size:Int))=false:=by simp; omega
     by_cases hd9:9 < d.size
     ·go_wp2
      exact Zcq rfl rfl rfl HN0.out.1 HN0.out.2 (Or.inr ⟨rfl,rfl,rfl⟩)
     ·have hD9:decide ((9:Int) < (d.size:Int))=false:=by simp; omega
      clear HN0
      go_wp2_with fail
      have HV:=zh (fun W=>Ze5 t W HT.out (by omega))
      have HV2:=zh (fun W=>Ze5 d W HD.out (by omega))
      have hb1:=Zka HT.out (by omega)
      have hb2:=Zka HD.out (by omega)
      have HW:=zh (fun (h:bytes d=[])=>Zmg HS.out h hb1)
      have HFr:=zh (fun (h:bytes d≠[]) hg=>ZnD HS.out h hg hb1 hb2)
      generalize Zad (bytes t)=nt at *
      generalize Zad (bytes d)=nd at *
      refine (HV.out _).mono ?_
      rintro e w2 ⟨rfl,rfl⟩
      by_cases hd0:bytes d=[]
      ·have hd1:d.toList=[]:=by rw [Lib.toList_data]; exact hd0
       have hd2:(!d.toList.isEmpty)=false:=by rw [hd1]; rfl
       cases neg with
       | false =>
         have hP:=ZdK HB1.out HE1.out HR0.out (.int .i64 (nt:Int)) (.int .i64 1)
         have HP:=zh hP
         clear hP
         go_wp2
         exact Zcq rfl rfl rfl ((HP.out.1.alloc _).alloc _) ((HP.out.2.alloc _).alloc _) (HW.out hd0)
       | true =>
         have hP:=ZdK HB1.out HE1.out HR0.out (.int .i64 (-(nt:Int))) (.int .i64 1)
         have HP:=zh hP
         clear hP
         go_wp2
         exact Zcq rfl rfl rfl ((HP.out.1.alloc _).alloc _) ((HP.out.2.alloc _).alloc _) (HW.out hd0)
      ·have hd1:d.toList≠[]:=by rw [Lib.toList_data]; exact hd0
       have hd2:d.toList.isEmpty=false:=by simpa using hd1
       go_wp2_with fail
       refine (HV2.out _).mono ?_
       rintro e w3 ⟨rfl,rfl⟩
       have HGc:=zh (fun W=>ZoA nt nd W (by omega) (by omega))
       obtain ⟨G,hG⟩:∃ G,Nat.gcd nt nd=G:=⟨_,rfl⟩
       rw [hG] at HGc
       have HGG:=zh hG
       clear hG
       go_wp2_with fail
       refine (HGc.out _).mono ?_
       rintro e w3 ⟨rfl,n3,rfl⟩
       by_cases hG1:G=1
       ·have hg1:((G:Int) != 1)=false:=by simp; omega
        have HSf:=zh (HFr.out hd0 (by rw [HGG.out,hG1]))
        cases neg with
        | false =>
          go_wp2
          exact Zcq rfl rfl rfl (ZdK (((HB1.out.alloc _).alloc _).drewN n3) (((HE1.out.alloc _).alloc _).drewN n3) HR0.out _ _).1 (ZdK (((HB1.out.alloc _).alloc _).drewN n3) (((HE1.out.alloc _).alloc _).drewN n3) HR0.out _ _).2 HSf.out
        | true =>
          go_wp2
          refine Zcq rfl rfl rfl (ZdK (w:=w) ((((HB1.out.alloc _).alloc _).drewN n3).far (by show r0≠w1.heap.size + 1; omega) _) ?_ HR0.out _ _).1 (ZdK ((((HB1.out.alloc _).alloc _).drewN n3).far (by show r0≠w1.heap.size + 1; omega) _) ?_ HR0.out _ _).2 HSf.out
          ·exact (((HE1.out.alloc _).alloc _).drewN n3).setCell (Or.inr (by have:=HE1.out.size; show _≤w1.heap.size + 1; omega)) _
          ·exact (((HE1.out.alloc _).alloc _).drewN n3).setCell (Or.inr (by have:=HE1.out.size; show _≤w1.heap.size + 1; omega)) _
       ·have hg1:((G:Int) != 1)=true:=by simp; omega
        go_wp2
        exact Zcq rfl rfl rfl (ZdK (((HB1.out.alloc _).alloc _).drewN n3) (((HE1.out.alloc _).alloc _).drewN n3) HR0.out _ _).1 (ZdK (((HB1.out.alloc _).alloc _).drewN n3) (((HE1.out.alloc _).alloc _).drewN n3) HR0.out _ _).2 (Or.inr ⟨rfl,rfl,rfl⟩)
end Go.Proofs.YtcpjeaaapocoeaaGreatDoor
