/-
 My texts Parse, Parse2, Rat, Read, Comb, CrtM, Fermat, Rq, DecR, Short put together.
-/
import Derived.Test.YthlipnahcbcjkaaGreatDoorR11
import Derived.Test.YthlipnahcbcjkaaGreatDoorR06
import Derived.Lib.ConvBytes
import Derived.Deep.DeepCutAuto
import Derived.Test.YthlipnahcbcjkaaGreatDoorR03
import Derived.Deep.QuietTactic
import Derived.BigQuiet
import Derived.Outline
import Derived.Deep.RegionWith
import Derived.Test.YthlipnahcbcjkaaGreatDoorR00
import Derived.Test.YthlipnahcbcjkaaGreatDoorR05
import Derived.Test.YthlipnahcbcjkaaGreatDoorR08
set_option maxRecDepth 100000
namespace Go.Proofs.YthlipnahcbcjkaaGreatDoor
open Go.RowKit
def Zaj (l:List UInt8):Nat:=l.foldl (fun n c=>10 * n + (c.toNat - 48)) 0
theorem ZlN (l:List UInt8) (c:UInt8):Zaj (l ++ [c])=10 * Zaj l + (c.toNat - 48):=by simp [Zaj]
theorem ZgG (a b:List UInt8):Zaj (a ++ b)=Zaj a * 10 ^ b.length + Zaj b:=by
 have key:∀ (b:List UInt8) (n:Nat),b.foldl (fun n c=>10 * n + (c.toNat - 48)) n=n * 10 ^ b.length + b.foldl (fun n c=>10 * n + (c.toNat - 48)) 0:=by
  intro b
  induction b with
  | nil=>intro n; simp
  | cons c b ih =>
    intro n
    simp only [List.foldl_cons,List.length_cons]
    rw [ih,ih (10 * 0 + (c.toNat - 48)),Nat.pow_succ,Nat.mul_zero,Nat.zero_add,Nat.add_mul,Nat.add_assoc]
    congr 1
    rw [Nat.mul_comm (10 ^ b.length) 10,← Nat.mul_assoc,Nat.mul_comm n 10]
 unfold Zaj
 rw [List.foldl_append,key]
theorem Zif {c:UInt8} (h:ZaJ c=true):48≤c.toNat∧c.toNat - 48≤9:=by
 unfold ZaJ at h
 simp at h
 omega
theorem ZhV (c:UInt8) (l:List UInt8):Zaj (c :: l)=(c.toNat - 48) * 10 ^ l.length + Zaj l:=by
 have:=ZgG [c] l
 simpa [Zaj] using this
theorem Zcd:∀ (l:List UInt8),l.all ZaJ=true→Zaj l < 10 ^ l.length
 | [],_=>by simp [Zaj]
 | c :: l,h=>by
   rw [List.all_cons,Bool.and_eq_true] at h
   have h1:=Zcd l h.2
   have h2:=Zif h.1
   have h3:(c.toNat - 48) * 10 ^ l.length≤9 * 10 ^ l.length:=Nat.mul_le_mul_right _ h2.2
   rw [ZhV,List.length_cons,Nat.pow_succ]
   omega
def ZcR (xs:List Nat) (y q k:Nat) (m:List Nat) (c:Nat):Prop :=
 m.length=xs.length∧m.drop k=xs.drop k∧Dig W64 m∧c < W64∧val W64 (m.take k) + W64 ^ k * c=val W64 (xs.take k) * y + q
theorem ZcR.start {xs:List Nat} {y q:Nat} (h:Dig W64 xs) (hq:q < W64):ZcR xs y q 0 xs q:=⟨rfl,rfl,h,hq,by simp⟩
theorem ZcR.at {xs m:List Nat} {y q k c:Nat} (h:ZcR xs y q k m c):m[k]?.getD 0=xs[k]?.getD 0:=by
 have:=congrArg (fun l=>l[0]?.getD 0) h.2.1
 simpa [List.getElem?_drop] using this
theorem ZcR.step {xs m:List Nat} {y q k c z:Nat} (h:ZcR xs y q k m c) (hk:k < xs.length) (hz:m[k]?.getD 0=z) (hy:y < W64):ZcR xs y q (k + 1) (m.set k (maLo z y c)) (maHi z y c):=by
 have e1:xs[k]?.getD 0=z:=h.at.symm.trans hz
 obtain ⟨h1,h2,h3,h5,h4⟩:=h
 refine ⟨by simpa using h1,?_,h3.set k (Zjt _ _ _),Zhs (hz ▸ h3.getD Zai k) hy h5,?_⟩
 ·rw [List.drop_set_of_lt (by omega),← List.drop_drop,← List.drop_drop,h2]
 ·rw [Zbl _ _ _ _ (by omega),Zav k hk,e1,Nat.pow_succ]
  have h6:=Zhr z y c
  have h7:=congrArg (W64 ^ k * ·) h6
  simp only [Nat.mul_add] at h7
  rw [Nat.add_mul,Nat.mul_assoc,Nat.mul_assoc]
  omega
theorem ZcR.done {xs m:List Nat} {y q c:Nat} (h:ZcR xs y q xs.length m c):val W64 m + W64 ^ xs.length * c=val W64 xs * y + q:=by
 obtain ⟨h1,h2,h3,h5,h4⟩:=h
 rwa [List.take_of_length_le (by omega),List.take_of_length_le (by omega)] at h4
theorem Zmz {m:List Nat} (hd:Dig W64 m) (h:∀ k,m.length=k + 1→W64 ^ k≤val W64 m):Trim m:=by
 intro k hk h0
 have h1:=h k hk
 rw [ZaM (xs:=m) k,ZaF k (by omega),h0,List.drop_of_length_le (by omega:m.length≤k + 1)] at h1
 have h2:=Za6 (hd.take k)
 rw [List.length_take,Nat.min_eq_left (by omega)] at h2
 simp at h1
 omega
theorem ZcR.zero {xs m:List Nat} {y q:Nat} (h:ZcR xs y q xs.length m 0) (ht:Trim xs) (hy:1≤y):Trim m∧val W64 m=val W64 xs * y + q:=by
 have h1:=h.done
 simp at h1
 refine ⟨Zmz h.2.2.1 (fun k hk=>?_),h1⟩
 have h2:=Zit (B:=W64) ht (k:=k) (by rw [← h.1]; exact hk)
 have h3:val W64 xs * 1≤val W64 xs * y:=Nat.mul_le_mul_left _ hy
 omega
theorem ZcR.more {xs m:List Nat} {y q c:Nat} (h:ZcR xs y q xs.length m c) (hc:c≠0):Trim (m ++ [c])∧Dig W64 (m ++ [c])∧val W64 (m ++ [c])=val W64 xs * y + q:=by
 refine ⟨?_,h.2.2.1.append (Dig.nil.cons h.2.2.2.1),?_⟩
 ·intro k hk
  have:k=m.length:=by simp at hk; omega
  subst this
  simpa using hc
 ·rw [Zbn,h.1,ZcK,Zc1,Nat.mul_zero,Nat.add_zero]
  exact h.done
theorem Buf.open_ {k:IntKind} {e:TypeId} {w:World} {A:Option Addr} {cap:Nat} {xs:List Nat} (h:Buf k e w A cap xs) (hne:xs≠[]):∃ b,A=some ⟨b,0,none⟩∧Own k e w b xs∧ZbD e w b cap∧xs.length≤cap∧cap≤maxLen:=by
 rcases h with ⟨_,h,_⟩ | h
 ·exact absurd h hne
 ·exact h
theorem Buf.set_ {k:IntKind} {e:TypeId} {w:World} {b cap:Nat} {xs:List Nat} (h:Own k e w b xs) (hC:ZbD e w b cap) (hl:xs.length≤cap) (hm:cap≤maxLen) (i v:Nat) (hi:i < xs.length):Buf k e (w.setCell ⟨b,i,none⟩ (.int k (v:Int))) (some ⟨b,0,none⟩) cap (xs.set i v) :=
 Or.inr ⟨b,rfl,h.set i v hi,hC.setCell b i _,by simpa using hl,hm⟩
def ZiS (w wr:World) (T:Nat) (d:ByteArray) (A:Option Addr) (cap:Nat) (xs:List Nat):Prop :=
 Buf .u64 88 wr A cap xs∧Dig W64 xs∧Trim xs∧val W64 xs * 10 ^ d.size + Zaj (bytes d)=T∧(bytes d).all ZaJ=true∧Ext w wr∧∀ b,Zad A b→w.heap.size≤b
theorem ZiS.len {w wr:World} {T:Nat} {d:ByteArray} {A:Option Addr} {cap:Nat} {xs:List Nat} (h:ZiS w wr T d A cap xs):xs.length≤wl T:=by
 obtain ⟨_,h1,h2,h3,_⟩:=h
 rw [Zaz h1 h2]
 apply Za3
 have:val W64 xs * 1≤val W64 xs * 10 ^ d.size:=Nat.mul_le_mul_left _ (Nat.pow_pos (by omega))
 omega
theorem ZpZ {n:Nat} (h:n≤19):10 ^ n≤10000000000000000000:=by
 have:10 ^ n≤10 ^ 19:=Nat.pow_le_pow_right (by omega) h
 exact this
set_option maxHeartbeats 4000000 in
theorem ZiT (d:ByteArray) (w:World) (T:Nat) (hd:(bytes d).all ZaJ=true) (hT:Zaj (bytes d)=T) (hw:wl T≤1048576) (hl:d.size≤1099511627776) :
 Calls Tryz.prog 292 #[.string d] w (Zba w T):=by
 have HD:=zh hd
 have HT:=zh hT
 clear hd hT
 have hcv:=fun (w:World) (s:ByteArray)=>Lib.run_convert_string_bytes (P:=Tryz.prog) w 9 196 5 s Tryz.underlying9 Tryz.underlying196 Tryz.underlying5
 go_enter Tryz.func292,Tryz.ntmps292
 go_wp2
 go_loopw [0,3] (fun v0 v3 wr=>∃ (d:ByteArray) (A:Option Addr) (cap:Nat) (xs:List Nat),v0=.string d∧v3=.slice A xs.length cap∧d.size≤1099511627776∧Hid (ZiS w wr T d A cap xs)) (fun v0 _ _=>match v0 with | .string d=>d.size | _=>0)
 case atStart=>exact ⟨d,none,0,[],rfl,rfl,hl,Buf.nil,Dig.nil,Trim.nil,by simpa using HT.out,HD.out,Fr.refl _ _,fun b hb=>by obtain ⟨a,ha,_⟩:=hb; cases ha⟩
 case round =>
  obtain ⟨d,A,cap,xs,rfl,rfl,hl,hR⟩:=hrel
  by_cases hpos:0 < d.size
  ·have hlen:=hR.out.len
   obtain ⟨n,hn⟩:∃ n,d.size=n:=⟨_,rfl⟩
   obtain ⟨z,hz⟩:∃ z,(n - 1) % 19=z:=⟨_,rfl⟩
   have hz18:z≤18:=by omega
   have hzn:z + 1≤n:=by have:=Nat.mod_le (n - 1) 19; omega
   have e1:((n:Int) - 1) % 19=(z:Int):=by omega
   have hn1:(1:Int)≤(n:Int):=by omega
   have hn2:(0:Int)≤(n:Int) - 1:=by omega
   have hzI:((z:Int) + 1)≤(n:Int):=by omega
   have hzT:((z:Int) + 1).toNat=z + 1:=by omega
   go_wp2_with fail
   have hes:(d.extract 0 (z + 1)).size=z + 1:=by rw [ByteArray.size_extract]; omega
   have hbs:bytes (d.extract 0 (z + 1))=(bytes d).take (z + 1):=by rw [ZcX]; simp
   have hext:Ext wr (Lib.bytesWorld wr 5 (d.extract 0 (z + 1))):=⟨rfl,rfl,rfl,by rw [Lib.bytesWorld_size]; omega,fun i hi _=>Lib.bytesWorld_at_old _ _ _ i hi⟩
   have hcel:∀ j,j < z + 1→(Lib.bytesWorld wr 5 (d.extract 0 (z + 1))).cell? ⟨wr.heap.size,j,none⟩=some (.int .u8 ((bytes d).getD j 0).toNat):=fun j hj=>by
    rw [Lib.bytesWorld_cell _ _ _ j (by omega)]
    have:(d.extract 0 (z + 1)).data.toList=(bytes d).take (z + 1):=hbs
    rw [this]
    simp [List.getElem?_take_of_lt hj]
   have hblt:wr.heap.size < (Lib.bytesWorld wr 5 (d.extract 0 (z + 1))).heap.size:=by rw [Lib.bytesWorld_size]; omega
   generalize Lib.bytesWorld wr 5 (d.extract 0 (z + 1))=wB at *
   have HX:=zh hext
   have HC:=zh hcel
   have Hn:=zh hn
   have Hz:=zh hz
   have hdl:Hid ((bytes d).length=n):=by unfold Hid; rw [Zat]; exact hn
   clear hext hcel hes hbs hn hz
   go_loop [5,6,25] (fun v5 v6 v25=>∃ j c p:Nat,j≤z + 1∧v25=.int .i64 (j:Int)∧v5=.int .u64 (c:Int)∧v6=.int .u64 (p:Int)∧c < p∧p≤10000000000000000000∧Hid (c=Zaj ((bytes d).take j)∧p=10 ^ j)) (fun _ _ v=>z + 1 - (intOf v).toNat)
   case atStart=>exact ⟨0,0,1,by omega,rfl,rfl,rfl,by omega,by omega,by unfold Hid; simp [Zaj]⟩
   case round =>
    obtain ⟨j,c,p,hj,rfl,rfl,rfl,hcp,hp,hJ⟩:=hrel
    by_cases hlt:j < z + 1
    ·have hcj:=HC.out j hlt
     have hjn:j < (bytes d).length:=by rw [hdl.out]; omega
     have hdig:=Zif (c:=(bytes d).getD j 0) (by
      rw [List.getD_eq_getElem?_getD,List.getElem?_eq_getElem hjn]
      exact List.all_eq_true.1 hR.out.2.2.2.2.1 _ (List.getElem_mem hjn))
     have hsn:Hid (Zaj ((bytes d).take (j + 1))=10 * Zaj ((bytes d).take j) + (((bytes d).getD j 0).toNat - 48)):=by
      unfold Hid
      rw [List.take_succ_eq_append_getElem hjn,ZlN,List.getD_eq_getElem?_getD,List.getElem?_eq_getElem hjn]
      rfl
     have hlt3:Hid (Zaj ((bytes d).take (j + 1)) < 10 ^ (j + 1)):=by
      have h:=Zcd ((bytes d).take (j + 1)) (by
       rw [List.all_eq_true]; intro x hx
       exact List.all_eq_true.1 hR.out.2.2.2.2.1 _ (List.mem_of_mem_take hx))
      rw [List.length_take,Nat.min_eq_left (by omega)] at h
      exact h
     have hp19:=ZpZ (n:=j + 1) (by omega)
     rw [Nat.pow_succ,← hJ.out.2] at hp19
     generalize ((bytes d).getD j 0).toNat=x at *
     have f1:IntKind.u64.wrap (10 * (c:Int))=((10 * c:Nat):Int):=by
      rw [show 10 * (c:Int)=((10 * c:Nat):Int) by omega]; exact Zbh _ (by rw [Zal]; omega)
     have f2:IntKind.u8.wrap ((x:Int) - 48)=((x - 48:Nat):Int):=by
      rw [show (x:Int) - 48=((x - 48:Nat):Int) by omega,IntKind.wrap_u8]; omega
     have f3:IntKind.u64.wrap ((x - 48:Nat):Int)=((x - 48:Nat):Int):=Zbh _ (by rw [Zal]; omega)
     have f4:IntKind.u64.wrap (((10 * c:Nat):Int) + ((x - 48:Nat):Int))=((10 * c + (x - 48):Nat):Int):=ZbF (by rw [Zal]; omega)
     have f5:IntKind.u64.wrap ((p:Int) * 10)=((p * 10:Nat):Int):=by
      rw [show (p:Int) * 10=((p * 10:Nat):Int) by omega]; exact Zbh _ (by rw [Zal]; omega)
     obtain ⟨c1,hc1⟩:∃ c1,10 * c=c1:=⟨_,rfl⟩
     obtain ⟨y,hy⟩:∃ y,x - 48=y:=⟨_,rfl⟩
     obtain ⟨c2,hc2⟩:∃ c2,c1 + y=c2:=⟨_,rfl⟩
     obtain ⟨p2,hp2⟩:∃ p2,p * 10=p2:=⟨_,rfl⟩
     have HN:Hid (c2=Zaj ((bytes d).take (j + 1))∧p2=10 ^ (j + 1)):=by
      unfold Hid
      rw [hsn.out,← hJ.out.1,Nat.pow_succ,← hJ.out.2]
      omega
     have hc2p:c2 < p2:=by rw [HN.out.1,HN.out.2]; exact hlt3.out
     rw [hc1] at f1 f4
     rw [hy] at f2 f3 f4
     rw [hc2] at f4
     rw [hp2] at f5 hp19
     have hjB:wr.heap.size≠wB.heap.size:=by omega
     clear hc1 hy hc2 hp2 hdig hjn
     go_wp2
     go_round
     case rel=>exact ⟨j + 1,c2,p2,by omega,by go_num,rfl,rfl,hc2p,hp19,HN.out⟩
     case measure=>simp [intOf]; omega
    ·obtain rfl:j=z + 1:=by omega
     have hzd:z + 1≤d.size:=by rw [Hn.out]; exact hzn
     have hd2:bytes (d.extract (z + 1) d.size)=(bytes d).drop (z + 1):=by
      rw [ZcX,List.take_of_length_le (by rw [List.length_drop,Zat]; exact Nat.le_refl _)]
     have hd2s:(d.extract (z + 1) d.size).size=d.size - (z + 1):=by rw [ByteArray.size_extract]; omega
     have Hd2:=zh hd2
     have Hd2s:=zh hd2s
     clear hd2 hd2s
     go_wp2_with fail
     have HR0:=zh hR.out.1
     have HDig:=zh hR.out.2.1
     have HTr:=zh hR.out.2.2.1
     have HEq:Hid (∀ m,val W64 m=val W64 xs * p + c→val W64 m * 10 ^ (d.extract (z + 1) d.size).size + Zaj (bytes (d.extract (z + 1) d.size))=T):=by
      intro m hm
      rw [hm,Hd2s.out,Hd2.out,← hR.out.2.2.2.1]
      have h1:bytes d=(bytes d).take (z + 1) ++ (bytes d).drop (z + 1):=(List.take_append_drop _ _).symm
      conv=>rhs; rw [h1,ZgG,← hJ.out.1]
      rw [List.length_drop,Zat,hJ.out.2,Nat.add_mul,Nat.mul_assoc,← Nat.pow_add,Nat.add_assoc]
      congr 3
      omega
     have HAll:Hid ((bytes (d.extract (z + 1) d.size)).all ZaJ=true):=by
      unfold Hid
      rw [Hd2.out,List.all_eq_true]
      intro x hx
      exact List.all_eq_true.1 hR.out.2.2.2.2.1 _ (List.mem_of_mem_drop hx)
     have HE0:=zh hR.out.2.2.2.2.2.1
     have HN0:=zh hR.out.2.2.2.2.2.2
     have hd2l:(d.extract (z + 1) d.size).size≤1099511627776:=by rw [Hd2s.out]; omega
     have hmeas:Hid ((d.extract (z + 1) d.size).size < d.size):=by rw [Hid,Hd2s.out]; omega
     generalize d.extract (z + 1) d.size=d2 at *
     have hxb:=hlen
     have HcW:Hid (c < W64):=by unfold Hid; rw [Zal]; omega
     have HpW:Hid (p < W64):=by unfold Hid; rw [Zal]; omega
     have Hp1:Hid (1≤p):=by unfold Hid; omega
     go_loopw [9,44] (fun v9 v44 wx=>∃ (k q:Nat) (m:List Nat),k≤xs.length∧v44=.int .i64 (k:Int)∧v9=.int .u64 (q:Int)∧Hid (ZcR xs p c k m q)∧Hid (Buf .u64 88 wx A cap m)∧Hid (Fr (Zad A) wB wx)) (fun _ v _=>xs.length - (intOf v).toNat)
     case atStart=>exact ⟨0,c,xs,by omega,rfl,rfl,ZcR.start HDig.out HcW.out,HR0.out.ext HX.out,Fr.refl _ _⟩
     case round =>
      obtain ⟨k,q,m,hk,rfl,rfl,hM,hB,hF⟩:=hrel
      have hml:m.length=xs.length:=hM.out.1
      by_cases hlt:k < xs.length
      ·obtain ⟨b,rfl,hO,hC,hmc,hcm⟩:=hB.out.open_ (by intro e; rw [e] at hml; simp at hml; omega)
       obtain ⟨y,hy⟩:∃ y,m[k]?.getD 0=y:=⟨_,rfl⟩
       have hcell:=hO.cell (i:=k) (by omega)
       rw [hy] at hcell
       have hfrz:=hO.frozen k
       have HyW:Hid (y < W64):=hy ▸ hM.out.2.2.1.getD Zai k
       have HM2:=zh (hM.out.step hlt hy HpW.out)
       have HB2:=fun v=>Buf.set_ hO hC hmc hcm k v (by omega)
       have HBh:=zh HB2
       have HqW:=zh hM.out.2.2.2.1
       have hblt2:=hO.lt
       have hbne:b≠wr.heap.size:=by omega
       have Hml:=zh hml
       clear hO hC hmc hcm hy HB2 hml
       go_wp2_with (go_at_call 275; refine (Zbg y p q _ HyW.out HpW.out HqW.out).mono ?_; rintro e w' ⟨rfl,rfl⟩)
       go_roundw
       case rel=>exact ⟨k + 1,_,_,by omega,by go_num,rfl,HM2.out,HBh.out _,hF.out.setCell (p:=⟨b,k,none⟩) (Or.inl ⟨_,rfl,rfl⟩) _⟩
       case measure=>simp [intOf]; omega
      ·obtain rfl:k=xs.length:=by omega
       have HEx:Hid (Ext w wr):=(HE0.out.trans HX.out).next hF.out (fun i hi hb=>by have:=HN0.out i hb; omega)
       by_cases hq:q=0
       ·subst hq
        obtain ⟨h1,h2⟩:=hM.out.zero HTr.out Hp1.out
        have HNew:Hid (ZiS w wr T d2 A cap m):=⟨hB.out,hM.out.2.2.1,h1,HEq.out m h2,HAll.out,HEx.out,HN0.out⟩
        have Hml:=zh hml
        clear h1 h2 hml
        go_wp2
        go_roundw
        case rel=>exact ⟨d2,A,cap,m,rfl,by rw [Hml.out],hd2l,HNew.out⟩
        case measure=>exact hmeas.out
       ·have hq':((q:Int) != 0)=true:=by simp; omega
        obtain ⟨h1,h2,h3⟩:=hM.out.more hq
        have HNum:Hid (Trim (m ++ [q])∧Dig W64 (m ++ [q])∧val W64 (m ++ [q])=val W64 xs * p + c):=⟨h1,h2,h3⟩
        have Hml:=zh hml
        have hSh:Hid (Zan .u64 (wr.alloc (.cells #[.int .u64 (q:Int)] 88)) (some ⟨wr.heap.size,0,none⟩) [q]):=(Own.new wr 88 .u64 [q] []).shows0
        clear h1 h2 h3 hml hq
        go_wp2_with (at_builtin; refine Hid.out ?_)
        refine zh ?_
        refine Zay rfl _ _ _ rfl _ .u64 8 Tryz.underlying93 Zcq A (some ⟨wr.heap.size,0,none⟩) xs.length 1 cap 1 rfl rfl m [q] Hml.out rfl (hB.out.ext ((Fr.refl _ _).alloc _)) hSh.out (by simp only [maxLen]; omega) (by omega) ?_
        intro A1 cap1 w2 hB1 hF1 hA1
        have HNew:Hid (ZiS w w2 T d2 A1 cap1 (m ++ [q])):=by
         refine ⟨hB1,HNum.out.2.1,HNum.out.1,HEq.out _ HNum.out.2.2,HAll.out,?_,?_⟩
         ·exact (HEx.out.alloc _).next hF1 (fun i hi hb=>by have:=HN0.out i hb; omega)
         ·intro b hb
          rcases hA1 b hb with h | h
          ·exact HN0.out b h
          ·have:=HEx.out.size; simp at h; omega
        clear hB1 hF1 hA1
        go_wp2
        go_roundw
        case rel=>exact ⟨d2,A1,cap1,m ++ [q],rfl,by rw [List.length_append,Hml.out]; rfl,hd2l,HNew.out⟩
        case measure=>exact hmeas.out
  ·have h0:d.size=0:=by omega
   obtain ⟨hB,hD,hTr,hV,_,Q,hN⟩:=hR.out
   have hb0:bytes d=[]:=List.length_eq_zero_iff.1 (by rw [Zat]; exact h0)
   rw [h0,hb0,Nat.pow_zero,Nat.mul_one] at hV
   have HB:=zh hB
   have HD2:=zh hD
   have HTr:=zh hTr
   have HV:Hid (val W64 xs=T):=by unfold Hid; rw [← hV]; rfl
   have HE:=zh Q
   clear hB hD hTr hV Q hN h0 hb0
   go_wp2
   go_ret
   exact ⟨_,rfl,⟨A,xs,cap,rfl,HB.out.len,HB.out.shows,HD2.out,HTr.out,HV.out⟩,HE.out⟩
end Go.Proofs.YthlipnahcbcjkaaGreatDoor

namespace Go.Proofs.YthlipnahcbcjkaaGreatDoor
open Go.RowKit
set_option maxHeartbeats 1000000 in
theorem Zjy (d:ByteArray) (w:World) (T:Nat) (hd:(bytes d).all ZaJ=true) (hT:Zaj (bytes d)=T) (hw:wl T≤1048576) (hl:d.size≤1099511627776) :
 Calls Tryz.prog 257 #[.string d, .slice none 0 0] w (Zba w T):=by
 have HD:=zh hd
 have HT:=zh hT
 clear hd hT
 go_enter Tryz.func257,Tryz.ntmps257
 go_wp2
 go_loop [5] (fun v=>v=.int .i64 (-1)) (fun _=>0)
 case atStart=>rfl
 case round =>
  subst hrel
  go_wp2_with fail
  refine (ZiT d _ T HD.out HT.out hw hl).mono ?_
  rintro e w1 ⟨u1,rfl,hN,hF⟩
  have HN:=zh hN
  have HF:=zh hF
  clear hN hF
  go_wp2
  go_ret
  exact ⟨_,rfl,HN.out,HF.out⟩
theorem Ze9 {n k m:Nat} (h:n < 10 ^ k) (hk:k≤m):wl n≤m:=by
 rw [ZbB]
 have h1:10 ^ k≤W64 ^ k:=Nat.pow_le_pow_left (by rw [Zal]; omega) k
 have h2:W64 ^ k≤W64 ^ m:=Nat.pow_le_pow_right Zai hk
 exact Nat.lt_of_lt_of_le h (Nat.le_trans h1 h2)
def Zd4 (n:Nat):Prop:=n≤570
set_option maxHeartbeats 1000000 in
theorem Zjz (d:ByteArray) (w:World) (hd:(bytes d).all ZaJ=true) (hl:Zd4 d.size) :
 Calls Tryz.prog 198 #[.string d] w (Zba w (Zaj (bytes d))):=by
 unfold Zd4 at hl
 have hw:wl (Zaj (bytes d))≤1048576:=Ze9 (by have:=Zcd (bytes d) hd; rw [Zat] at this; exact this) (by omega)
 generalize hT:Zaj (bytes d)=T at *
 have HD:=zh hd
 have HT:=zh hT
 clear hd hT
 go_enter Tryz.func198,Tryz.ntmps198
 go_wp2_with fail
 refine (Zjy d _ T HD.out HT.out hw (by omega)).mono ?_
 rintro e w1 ⟨u1,rfl,hN,hF⟩
 have HN:=zh hN
 have HF:=zh hF
 clear hN hF
 go_wp2
 go_ret
 exact ⟨_,rfl,HN.out,HF.out⟩
set_option maxHeartbeats 1000000 in
theorem Zfa (d:ByteArray) (w:World) (hd:(bytes d).all ZaJ=true) (hl:Zd4 d.size) :
 Calls Tryz.prog 123 #[.string d] w (Za7 w (Zaj (bytes d):Int)):=by
 generalize hT:Zaj (bytes d)=T
 have HD:=zh hd
 have HL:=zh hl
 have HT:=zh hT
 clear hd hT hl
 go_enter Tryz.func123,Tryz.ntmps123
 go_wp2_with fail
 generalize hwb:World.alloc w _=wb
 have HBr:Hid (Blk 105 wb w.heap.size #[.bool false, .slice none 0 0]):=hwb ▸ Blk.new _ _ _
 have HE:Hid (Ext w wb):=hwb ▸ (Fr.refl _ _).alloc _
 clear hwb
 refine (Zjz d _ HD.out HL.out).mono ?_
 rw [HT.out]
 rintro e w1 ⟨u1,rfl,hN1,hF1⟩
 obtain ⟨A1,l1,c1,rfl⟩:=hN1.slice
 obtain ⟨z0,z1,z2,z3⟩:=(HBr.out.ext hF1).cell2
 have HN1:=zh hN1
 have HF1:=zh hF1
 clear hN1 hF1
 go_wp2
 exact ZbO (neg:=false) rfl rfl (by omega) HE.out HBr.out HF1.out HN1.out rfl rfl
end Go.Proofs.YthlipnahcbcjkaaGreatDoor

namespace Go.Proofs.YthlipnahcbcjkaaGreatDoor
open Go.RowKit
def Zhv (cs:Array Value):Prop:=∀ (i:Nat) (k:Int),cs[i]? ≠ some (.int .u64 k)
theorem Zig {s:Bool} {A:Option Addr} {l c:Nat}:Zhv #[.bool s, .slice A l c]:=by
 intro i k; rcases i with _ | _ | i<;>simp
theorem Zbj {s t:Bool} {A B:Option Addr} {l c l' c':Nat}:Zhv #[.bool s, .slice A l c, .bool t, .slice B l' c']:=by
 intro i k; rcases i with _ | _ | _ | _ | i<;>simp
theorem Zaf.other {t:TypeId} {w w':World} {r n:Nat} {u:Value} {cs:Array Value} (h:Zaf w u n) (hB:Blk t w r cs) (hc:Zhv cs) (hF:Fr (fun i=>i=r) w w'):Zaf w' u n:=by
 obtain ⟨A',xs,c',h1,h2,h3,h4⟩:=h
 refine ⟨A',xs,c',h1,h2,?_,h4⟩
 cases xs with
 | nil=>exact Zan.nil
 | cons x xs =>
   refine h3.fr hF (fun ad hA hlt e=>?_)
   obtain ⟨g,off,e',_,hcl⟩:=h3.at (i:=0) (by simp)
   rw [e'] at hA
   injection hA with hA
   subst hA
   simp at e
   subst e
   rw [hB.cell] at hcl
   exact hc _ _ hcl
theorem Zah.other {t:TypeId} {w w':World} {r:Nat} {v:Value} {z:Int} {cs:Array Value} (h:Zah w v z) (hB:Blk t w r cs) (hc:Zhv cs) (hF:Fr (fun i=>i=r) w w'):Zah w' v z:=by
 obtain ⟨s',u,n,h1,h2,h3⟩:=h
 exact ⟨s',u,n,h1,h2.other hB hc hF,h3⟩
theorem Blk.cell4 {t:TypeId} {w:World} {g:Nat} {x y z u:Value} (h:Blk t w g #[x,y,z,u]):w.cell? ⟨g,0,none⟩=some x∧w.cell? ⟨g,1,none⟩=some y∧w.cell? ⟨g,2,none⟩=some z∧w.cell? ⟨g,3,none⟩=some u∧w.frozen? ⟨g,0,none⟩=false∧w.frozen? ⟨g,1,none⟩=false∧w.frozen? ⟨g,2,none⟩=false∧w.frozen? ⟨g,3,none⟩=false :=
 ⟨h.cell 0,h.cell 1,h.cell 2,h.cell 3,h.frozen 0,h.frozen 1,h.frozen 2,h.frozen 3⟩
def denF (q:Rat):Int:=if q.den=1 then 0 else (q.den:Int)
def ZaX (w:World) (v:Value) (q:Rat):Prop:=∃ (s t:Bool) (A B:Option Addr) (l c l' c':Nat),v=.agg #[.bool s, .slice A l c, .bool t, .slice B l' c']∧Zah w (.agg #[.bool s, .slice A l c]) q.num∧Zah w (.agg #[.bool t, .slice B l' c']) (denF q)
theorem Zah.zero (w:World):Zah w (.agg #[.bool false, .slice none 0 0]) 0:=⟨false,_,0,rfl,Zaf.zero w,fun _=>rfl,rfl⟩
theorem ZaX.zero (w:World):ZaX w (.agg #[.bool false, .slice none 0 0, .bool false, .slice none 0 0]) 0:=⟨_,_,_,_,_,_,_,_,rfl,Zah.zero w,Zah.zero w⟩
def ZaG (l:List UInt8):Option Rat :=
 match Zbw l with
 | (_,_,_,false)=>none
 | (neg,num,den,true) =>
   if den=[] then some ((sg neg (Zaj num):Int):Rat)
   else if Nat.gcd (Zaj num) (Zaj den)=1 then some (mkRat (sg neg (Zaj num)) (Zaj den)) else none
def Zhw (w:World) (l:List UInt8) (e:Ending) (w':World):Prop :=
 ∃ v ok,e=.returned (.tuple #[v, .bool ok])∧Ext w w'∧((ok=true∧∃ q,ZaG l=some q∧ZaX w' v q)∨(ok=false∧ZaG l=none∧ZaX w' v 0))
theorem Zb5 {p:UInt8→Bool} (l:List UInt8):(l.takeWhile p).all p=true:=by
 induction l with
 | nil=>rfl
 | cons x l ih =>
   rw [List.takeWhile_cons]
   split
   ·rename_i h; simp [h]
   ·rfl
theorem ZdA {l num den:List UInt8} {neg ok:Bool} (h:Zbw l=(neg,num,den,ok)):num.all ZaJ=true∧den.all ZaJ=true∧num.length + den.length≤l.length:=by
 have hle:(Zck l).2.length≤l.length:=by unfold Zck; split<;>simp
 have hsum:((Zck l).2.takeWhile ZaJ).length + ((Zck l).2.dropWhile ZaJ).length=(Zck l).2.length:=by
  rw [← List.length_append,List.takeWhile_append_dropWhile]
 have hden:=(List.takeWhile_sublist ZaJ (l:=((Zck l).2.dropWhile ZaJ).tail)).length_le
 have htl:((Zck l).2.dropWhile ZaJ).tail.length≤((Zck l).2.dropWhile ZaJ).length:=by simp
 unfold Zbw at h
 simp only [] at h
 split at h
 ·injection h with _ h; injection h with h1 h; injection h with h2 _; subst h1 h2
  exact ⟨Zb5 _,rfl,by simp; omega⟩
 split at h
 ·injection h with _ h; injection h with h1 h; injection h with h2 _; subst h1 h2
  exact ⟨Zb5 _,rfl,by simp; omega⟩
 split at h
 ·injection h with _ h; injection h with h1 h; injection h with h2 _; subst h1 h2
  exact ⟨Zb5 _,rfl,by simp; omega⟩
 split at h
 ·injection h with _ h; injection h with h1 h; injection h with h2 _; subst h1 h2
  exact ⟨Zb5 _,rfl,by simp; omega⟩
 ·injection h with _ h; injection h with h1 h; injection h with h2 _; subst h1 h2
  exact ⟨Zb5 _,Zb5 _,by omega⟩
theorem ZiU {l:List UInt8} (hd:l.all ZaJ=true) (h0:l≠[]) (h48:l.head? ≠ some 48):1≤Zaj l∧(2≤Zaj l∨l=[49]):=by
 cases l with
 | nil=>exact absurd rfl h0
 | cons c l =>
   rw [List.all_cons,Bool.and_eq_true] at hd
   have h1:=Zif hd.1
   have h2:c.toNat≠48:=fun e=>h48 (by simp; exact UInt8.toNat.inj e)
   rw [ZhV]
   have hp:1≤10 ^ l.length:=Nat.pow_pos (by omega)
   have h3:1 * 10 ^ l.length≤(c.toNat - 48) * 10 ^ l.length:=Nat.mul_le_mul_right _ (by omega)
   refine ⟨by omega,?_⟩
   cases l with
   | nil =>
     by_cases e:c.toNat=49
     ·right; rw [UInt8.toNat.inj (a:=c) (b:=49) e]
     ·left; simp [Zaj]; omega
   | cons d l =>
     left
     rw [List.length_cons,Nat.pow_succ] at h3 ⊢
     have hp:1≤10 ^ l.length:=Nat.pow_pos (by omega)
     omega
theorem ZiV {l num den:List UInt8} {neg:Bool} (h:Zbw l=(neg,num,den,true)):(den≠[]→2≤Zaj den)∧(Zaj num=0→neg=false∧den=[]):=by
 have hdg:=ZdA h
 unfold Zbw at h
 simp only [] at h
 split at h
 ·rename_i h48
  injection h with h0 h; injection h with h1 h; injection h with h2 h3; subst h0 h1 h2
  simp at h3
  exact ⟨fun h=>absurd rfl h,fun _=>⟨h3.1,rfl⟩⟩
 rename_i n48
 split at h
 ·injection h with _ h; injection h with h1 h; injection h with h2 h3; cases h3
 rename_i hn
 have hpos:Zaj ((Zck l).2.takeWhile ZaJ)≠0:=by
  have:=(ZiU (Zb5 (p:=ZaJ) (Zck l).2) (fun e=>hn (Or.inl e)) (fun e=>hn (Or.inr e))).1
  omega
 split at h
 ·injection h with _ h; injection h with h1 h; injection h with h2 _; subst h1 h2
  exact ⟨fun h=>absurd rfl h,fun e=>absurd e hpos⟩
 split at h
 ·injection h with _ h; injection h with h1 h; injection h with h2 h3; cases h3
 ·injection h with _ h; injection h with h1 h; injection h with h2 h3; subst h1
  rw [h2] at h3
  simp at h3
  refine ⟨fun hne=>?_,fun e=>absurd e hpos⟩
  rcases (ZiU hdg.2.1 hne h3.1.2).2 with h | h
  ·exact h
  ·exact absurd h h3.2
end Go.Proofs.YthlipnahcbcjkaaGreatDoor

namespace Go.Proofs.YthlipnahcbcjkaaGreatDoor
open Go.RowKit
theorem Blk.one {t:TypeId} {w wb:World} {x:Array Value} (h:w.alloc (.cells x t)=wb):Blk t wb w.heap.size x∧Ext w wb:=by
 subst h
 exact ⟨Blk.new _ _ _,(Fr.refl _ _).alloc _⟩
theorem ZdL {fn:Func} {tmps:Array Value} {w wz:World} {r:Nat} {ok:Bool} {s t:Bool} {A B:Option Addr} {l c l' c':Nat} {L:List UInt8} (hres:fn.results=#[.cell 2 107, .tmp 3]) (ht:tmps[2]? = some (.pointer (some ⟨r,0,none⟩))) (h3:tmps[3]? = some (.bool ok))
 (hB:Blk 107 wz r #[.bool s, .slice A l c, .bool t, .slice B l' c']) (Q:Ext w wz)
 (hR:(ok=true∧∃ q,ZaG L=some q∧ZaX wz (.agg #[.bool s, .slice A l c, .bool t, .slice B l' c']) q)∨(ok=false∧ZaG L=none∧ZaX wz (.agg #[.bool s, .slice A l c, .bool t, .slice B l' c']) 0)) :
 bodyPost Tryz.prog fn (Zhw w L) .ret ⟨tmps,[]⟩ wz:=by
 obtain ⟨h0,h1,h2,h4,_⟩:=hB.cell4
 exact bodyPost_ret (v:=.tuple #[.agg #[.bool s, .slice A l c, .bool t, .slice B l' c'], .bool ok]) (by simp [results,hres,ht,h3,go_sem,h0,h1,h2,h4]) rfl ⟨_,ok,rfl,Q,hR⟩
theorem Fr.set4 {w:World} {r:Nat} (a b c d:Value):Fr (fun i=>i=r) w ((((w.setCell ⟨r,0,none⟩ a).setCell ⟨r,1,none⟩ b).setCell ⟨r,2,none⟩ c).setCell ⟨r,3,none⟩ d) :=
 ((((Fr.refl (fun i=>i=r) w).setCell (p:=⟨r,0,none⟩) (Or.inl rfl) _).setCell (p:=⟨r,1,none⟩) (Or.inl rfl) _).setCell (p:=⟨r,2,none⟩) (Or.inl rfl) _).setCell (p:=⟨r,3,none⟩) (Or.inl rfl) _
theorem Fr.set2 {w:World} {r i j:Nat} (a b:Value):Fr (fun k=>k=r) w ((w.setCell ⟨r,i,none⟩ a).setCell ⟨r,j,none⟩ b) :=
 ((Fr.refl (fun k=>k=r) w).setCell (p:=⟨r,i,none⟩) (Or.inl rfl) _).setCell (p:=⟨r,j,none⟩) (Or.inl rfl) _
theorem Fr.local_ {w w1 w2:World} {r:Nat} (Q:Ext w w1) (hF:Fr (fun i=>i=r) w1 w2) (hr:w.heap.size≤r):Ext w w2:=Q.next hF (fun i hi e=>by omega)
theorem Blk.put4 {t:TypeId} {w:World} {r:Nat} {x y z u:Value} (h:Blk t w r #[x,y,z,u]) (a b c d:Value):Blk t ((((w.setCell ⟨r,0,none⟩ a).setCell ⟨r,1,none⟩ b).setCell ⟨r,2,none⟩ c).setCell ⟨r,3,none⟩ d) r #[a,b,c,d] :=
 (((h.set_ 0 a).set_ 1 b).set_ 2 c).set_ 3 d
def Zd5 (l:List UInt8):Prop:=l.length≤570∧∀ neg num den,Zbw l=(neg,num,den,true)→den≠[]→Zdn (sg neg (Zaj num)) (Zaj den:Int)
theorem ZjY (z:Int):((z:Int):Rat).num=z∧denF ((z:Int):Rat)=0:=by
 refine ⟨rfl,?_⟩
 unfold denF
 rw [if_pos (show ((z:Int):Rat).den=1 from rfl)]
theorem ZfC {z:Int} {d:Nat} (hd:2≤d) (hg:Nat.gcd z.natAbs d=1):(mkRat z d).num=z∧denF (mkRat z d)=(d:Int):=by
 have h1:mkRat z d=⟨z,d,by omega,hg⟩:=by
  rw [← Rat.normalize_eq_mkRat (by omega)]
  exact Rat.normalize_eq_mk' z d (by omega) hg
 rw [h1]
 refine ⟨rfl,?_⟩
 unfold denF
 simp
 omega
set_option maxHeartbeats 2000000 in
theorem Zek (s:ByteArray) (w:World) (hg:Glob w) (hok:Zd5 (bytes s)):Calls Tryz.prog 132 #[.string s] w (Zhw w (bytes s)):=by
 have hs:s.size≤570:=by have:=hok.1; rw [Zat] at this; exact this
 have HG:=zh hg
 have HO:=zh hok
 clear hg hok
 go_enter Tryz.func132,Tryz.ntmps132
 go_wp2_with fail
 generalize hwb:World.alloc w _=wb
 obtain ⟨hB0,hE0⟩:=Blk.one hwb
 have HB0:=zh hB0
 have HE0:=zh hE0
 clear hwb hB0 hE0
 refine (Znn s _ (by omega)).mono ?_
 rintro e w1 ⟨neg,t,d,ok,rfl,hsp,hF1⟩
 have HSP:=zh hsp
 have HB1:=zh (HB0.out.ext hF1)
 have HE1:=zh (HE0.out.trans hF1)
 clear hsp hF1 HB0 HE0
 cases ok with
 | false =>
   have hR:Hid (ZaG (bytes s)=none):=by unfold Hid ZaG; rw [HSP.out]
   obtain ⟨x0,x1,x2,x3,x4,x5,x6,x7⟩:=HB1.out.cell4
   have hlt:=HB1.out.lt
   go_wp2
   have hB2:=(HB1.out.put4 (.bool false) (.slice none 0 0) (.bool false) (.slice none 0 0)).alloc (.cells #[.bool neg, .string t, .string d] 158)
   exact ZdL rfl rfl rfl hB2 ((Fr.local_ HE1.out (Fr.set4 _ _ _ _) (by omega)).alloc _) (Or.inr ⟨rfl,hR.out,ZaX.zero _⟩)
 | true =>
   obtain ⟨hd1,hd2,hd3⟩:=ZdA HSP.out
   rw [Zat,Zat,Zat] at hd3
   have Hd1:=zh hd1
   have Hd2:=zh hd2
   obtain ⟨hk1,hk2⟩:=ZiV HSP.out
   have Hk1:=zh hk1
   have Hk2:=zh hk2
   have hpn:Zd4 t.size:=by unfold Zd4; omega
   have hpd:Zd4 d.size:=by unfold Zd4; omega
   have HPn:=zh hpn
   have HPd:=zh hpd
   clear hd1 hd2 hd3 hk1 hk2 hpn hpd
   go_wp2_with fail
   generalize hwb:World.alloc w1 _=wf
   obtain ⟨hBf,hEf⟩:=Blk.one hwb
   have HBf:=zh hBf
   have HB2:=zh (HB1.out.ext hEf)
   have HE2:=zh (HE1.out.trans hEf)
   have hfl:w.heap.size < w1.heap.size:=HB1.out.lt
   generalize w1.heap.size=F at *
   clear hwb hBf hEf HB1 HE1
   refine (Zfa t _ Hd1.out HPn.out).mono ?_
   rintro e w2 ⟨u,rfl,hI,hF2⟩
   obtain ⟨s1,A1,l1,c1,rfl⟩:=hI.shape
   have HB3:=zh (HB2.out.ext hF2)
   have HBf3:=zh (HBf.out.ext hF2)
   have HE3:=zh (HE2.out.trans hF2)
   have HI:=zh hI
   obtain ⟨y0,y1,y2,y3,y4,y5⟩:=HBf3.out.cell3
   have hflt:=HBf3.out.lt
   clear hI hF2 HB2 HBf HE2
   by_cases hd:bytes d=[]
   ·have hde:d.toList.isEmpty=true:=by rw [Lib.toList_data,show d.data.toList=[] from hd]; rfl
    obtain ⟨x0,x1,x2,x3,x4,x5,x6,x7⟩:=HB3.out.cell4
    have hrl:=HB3.out.lt
    have HRi:Hid (ZaG (bytes s)=some ((sg neg (Zaj (bytes t)):Int):Rat)):=by
     unfold Hid ZaG; rw [HSP.out]; simp only []; rw [if_pos hd]
    clear hd
    cases neg with
    | false =>
      go_wp2
      have hB4:=(HB3.out.put4 (.bool s1) (.slice A1 l1 c1) (.bool false) (.slice none 0 0)).alloc (.cells #[.bool s1, .slice A1 l1 c1, .bool false, .slice none 0 0] 107)
      refine ZdL rfl rfl rfl hB4 ((Fr.local_ HE3.out (Fr.set4 _ _ _ _) (by omega)).alloc _) (Or.inl ⟨rfl,_,HRi.out,_,_,_,_,_,_,_,_,rfl,?_,?_⟩)
      ·exact (HI.out.other HB3.out Zbj (Fr.set4 _ _ _ _)).ext ((Fr.refl _ _).alloc _)
      ·rw [(ZjY _).2]; exact Zah.zero _
    | true =>
      clear x0 x1 x2 x3 x4 x5 x6 x7
      go_wp2_with fail
      generalize hwb:World.alloc w2 _=wx
      obtain ⟨hBx,hEx⟩:=Blk.one hwb
      have HBx:=zh hBx
      have HBr:=zh (HB3.out.ext hEx)
      have HIx:=zh (HI.out.ext hEx)
      have HEx:=zh (HE3.out.trans hEx)
      have HBfx:=zh (HBf3.out.ext hEx)
      have hfX:F < w2.heap.size:=HBf3.out.lt
      generalize w2.heap.size=X at *
      clear hwb hBx hEx
      refine (ZfO _ _ _ HIx.out).mono ?_
      rintro e w3 ⟨u3,rfl,hI3,hF3⟩
      obtain ⟨s3,A3,l3,c3,rfl⟩:=hI3.shape
      have HBr3:=zh (HBr.out.ext hF3)
      have HBx3:=zh (HBx.out.ext hF3)
      have HE4:=zh (HEx.out.trans hF3)
      have HBf4:=zh (HBfx.out.ext hF3)
      have HI3:Hid (Zah w3 (.agg #[.bool s3, .slice A3 l3 c3]) (sg true (Zaj (bytes t)))):=hI3
      obtain ⟨y0,y1,y2,y3,y4,y5⟩:=HBf4.out.cell3
      obtain ⟨m0,m1,m2,m3,m4,m5,m6,m7⟩:=HBx3.out.cell4
      obtain ⟨x0,x1,x2,x3,x4,x5,x6,x7⟩:=HBr3.out.cell4
      clear hI3 hF3
      go_wp2
      have hF5:Fr (fun k=>k=X) w3 ((w3.setCell ⟨X,0,none⟩ (.bool s3)).setCell ⟨X,1,none⟩ (.slice A3 l3 c3)):=Fr.set2 _ _
      have hBr5:=HBr3.out.fr hF5 (by omega)
      refine ZdL rfl rfl rfl (hBr5.put4 _ _ _ _) (Fr.local_ (Fr.local_ HE4.out hF5 (by omega)) (Fr.set4 _ _ _ _) (by omega)) (Or.inl ⟨rfl,_,HRi.out,_,_,_,_,_,_,_,_,rfl,?_,?_⟩)
      ·exact (HI3.out.other HBx3.out Zbj hF5).other hBr5 Zbj (Fr.set4 _ _ _ _)
      ·rw [(ZjY _).2]; exact Zah.zero _
   ·have hde:d.toList.isEmpty=false:=(ZeR hd).2.2
    have HDne:=zh hd
    clear hd
    cases neg with
    | false =>
      have HRd:Hid ((Nat.gcd (sg false (Zaj (bytes t))).natAbs (Zaj (bytes d))=1→ZaG (bytes s)=some (mkRat (sg false (Zaj (bytes t))) (Zaj (bytes d))))∧(¬ Nat.gcd (sg false (Zaj (bytes t))).natAbs (Zaj (bytes d))=1→ZaG (bytes s)=none)):=by
       have e:(sg false (Zaj (bytes t))).natAbs=Zaj (bytes t):=by simp [sg]
       rw [e]
       unfold Hid ZaG
       rw [HSP.out]
       simp only []
       rw [if_neg HDne.out]
       exact ⟨fun h=>if_pos h,fun h=>if_neg h⟩
      have HFz:Hid (Fits (sg false (Zaj (bytes t)))):=by
       have e:(sg false (Zaj (bytes t))).natAbs=Zaj (bytes t):=by simp [sg]
       unfold Hid Fits
       rw [e]
       refine Ze9 (Zcd _ Hd1.out) ?_
       have:=HPn.out; unfold Zd4 at this; rw [Zat]; omega
      have HFd:Hid (Fits (Zaj (bytes d):Int)):=by
       unfold Hid Fits
       rw [Int.natAbs_natCast]
       refine Ze9 (Zcd _ Hd2.out) ?_
       have:=HPd.out; unfold Zd4 at this; rw [Zat]; omega
      have HGk:Hid (Zdn (sg false (Zaj (bytes t))) (Zaj (bytes d):Int)):=HO.out.2 _ _ _ HSP.out HDne.out
      obtain ⟨Z,hZ⟩:∃ Z,sg false (Zaj (bytes t))=Z:=⟨_,rfl⟩
      rw [hZ] at HRd HFz HGk
      have HIz:Hid (Zah w2 (.agg #[.bool s1, .slice A1 l1 c1]) Z):=hZ ▸ HI.out
      clear hZ HI
      go_wp2_with fail
      generalize hwb:World.alloc w2 _=wx
      obtain ⟨hBx,hEx⟩:=Blk.one hwb
      have HBx:=zh hBx
      have HBr:=zh (HB3.out.ext hEx)
      have HIx:=zh (HIz.out.ext hEx)
      have HEx:=zh (HE3.out.trans hEx)
      have hrX:w.heap.size < w2.heap.size:=HB3.out.lt
      generalize w2.heap.size=X at *
      obtain ⟨s2,hs2⟩:∃ s2,s2=s1:=⟨_,rfl⟩
      obtain ⟨A2,hA2⟩:∃ A2,A2=A1:=⟨_,rfl⟩
      obtain ⟨l2,hl2⟩:∃ l2,l2=l1:=⟨_,rfl⟩
      obtain ⟨c2,hc2⟩:∃ c2,c2=c1:=⟨_,rfl⟩
      subst hs2 hA2 hl2 hc2
      clear hwb hBx hEx
      refine (Zfa d _ Hd2.out HPd.out).mono ?_
      rintro e w4 ⟨u4,rfl,hI4,hF4⟩
      obtain ⟨s4,A4,l4,c4,rfl⟩:=hI4.shape
      have HBr4:=zh (HBr.out.ext hF4)
      have HBx4:=zh (HBx.out.ext hF4)
      have HIx4:=zh (HIx.out.ext hF4)
      have HE4:=zh (HEx.out.trans hF4)
      have HI4:=zh hI4
      clear hI4 hF4 HBr HBx HIx HEx
      obtain ⟨m0,m1,m2,m3,m4,m5,m6,m7⟩:=HBx4.out.cell4
      go_wp2_with fail
      generalize hw5:World.setCell (World.setCell w4 _ _) _ _=w5
      have hF5:Fr (fun k=>k=X) w4 w5:=hw5 ▸ Fr.set2 _ _
      have HBx5:Hid (Blk 107 w5 X #[.bool s2, .slice A2 l2 c2, .bool s4, .slice A4 l4 c4]):=hw5 ▸ (HBx4.out.set_ 2 _).set_ 3 _
      have HBr5:=zh (HBr4.out.fr hF5 (by omega))
      have HIx5:=zh (HIx4.out.other HBx4.out Zbj hF5)
      have HI5:=zh (HI4.out.other HBx4.out Zbj hF5)
      have HE5:=zh (Fr.local_ HE4.out hF5 (by omega))
      clear hw5 hF5 m0 m1 m2 m3 m4 m5 m6 m7 HBx4 HBr4 HIx4 HI4 HE4
      refine (ZeP _ _ Z (Zaj (bytes d):Int) _ (HG.out.ext HE5.out) HIx5.out HI5.out HFz.out HFd.out HGk.out).mono ?_
      rintro e w6 ⟨u6,rfl,hI6,hF6⟩
      obtain ⟨s6,A6,l6,c6,rfl⟩:=hI6.shape
      have HBr6:=zh (HBr5.out.ext hF6)
      have HBx6:=zh (HBx5.out.ext hF6)
      have HIx6:=zh (HIx5.out.ext hF6)
      have HId6:=zh (HI5.out.ext hF6)
      have HE6:=zh (HE5.out.trans hF6)
      have HI6:=zh hI6
      clear hI6 hF6 HBr5 HBx5 HIx5 HI5 HE5
      go_wp2_with fail
      refine (Zbt _ _ _ HI6.out).mono ?_
      by_cases hone:((Int.gcd Z (Zaj (bytes d):Int):Nat):Int)=1
      ·rw [decide_eq_true hone]
       rintro e w7 ⟨rfl,hF7⟩
       have HBr7:=zh (HBr6.out.ext hF7)
       have HBx7:=zh (HBx6.out.ext hF7)
       have HIx7:=zh (HIx6.out.ext hF7)
       have HId7:=zh (HId6.out.ext hF7)
       have HE7:=zh (HE6.out.trans hF7)
       have HQ:Hid (ZaG (bytes s)=some (mkRat Z (Zaj (bytes d)))∧(mkRat Z (Zaj (bytes d))).num=Z∧denF (mkRat Z (Zaj (bytes d)))=(Zaj (bytes d):Int)):=by
        have hg1:Nat.gcd Z.natAbs (Zaj (bytes d))=1:=by
         have:Int.gcd Z (Zaj (bytes d):Int)=1:=by omega
         exact this
        refine ⟨HRd.out.1 hg1,ZfC (Hk1.out HDne.out) hg1⟩
       clear hone hF7 HBr6 HBx6 HIx6 HId6 HE6
       obtain ⟨x0,x1,x2,x3,x4,x5,x6,x7⟩:=HBr7.out.cell4
       obtain ⟨m0,m1,m2,m3,m4,m5,m6,m7⟩:=HBx7.out.cell4
       go_wp2
       refine ZdL rfl rfl rfl (HBr7.out.put4 _ _ _ _) (Fr.local_ HE7.out (Fr.set4 _ _ _ _) (by omega)) (Or.inl ⟨rfl,_,HQ.out.1,_,_,_,_,_,_,_,_,rfl,?_,?_⟩)
       ·rw [HQ.out.2.1]; exact HIx7.out.other HBr7.out Zbj (Fr.set4 _ _ _ _)
       ·rw [HQ.out.2.2]; exact HId7.out.other HBr7.out Zbj (Fr.set4 _ _ _ _)
      ·rw [decide_eq_false hone]
       rintro e w7 ⟨rfl,hF7⟩
       have HBr7:=zh (HBr6.out.ext hF7)
       have HE7:=zh (HE6.out.trans hF7)
       have HQ:Hid (ZaG (bytes s)=none):=HRd.out.2 (fun h=>hone (by have:Int.gcd Z (Zaj (bytes d):Int)=1:=h; omega))
       clear hone hF7 HBr6 HBx6 HIx6 HId6 HE6
       obtain ⟨x0,x1,x2,x3,x4,x5,x6,x7⟩:=HBr7.out.cell4
       go_wp2
       exact ZdL rfl rfl rfl (HBr7.out.put4 _ _ _ _) (Fr.local_ HE7.out (Fr.set4 _ _ _ _) (by omega)) (Or.inr ⟨rfl,HQ.out,ZaX.zero _⟩)
    | true =>
      have HRd:Hid ((Nat.gcd (sg true (Zaj (bytes t))).natAbs (Zaj (bytes d))=1→ZaG (bytes s)=some (mkRat (sg true (Zaj (bytes t))) (Zaj (bytes d))))∧(¬ Nat.gcd (sg true (Zaj (bytes t))).natAbs (Zaj (bytes d))=1→ZaG (bytes s)=none)):=by
       have e:(sg true (Zaj (bytes t))).natAbs=Zaj (bytes t):=by simp [sg]
       rw [e]
       unfold Hid ZaG
       rw [HSP.out]
       simp only []
       rw [if_neg HDne.out]
       exact ⟨fun h=>if_pos h,fun h=>if_neg h⟩
      have HFz:Hid (Fits (sg true (Zaj (bytes t)))):=by
       have e:(sg true (Zaj (bytes t))).natAbs=Zaj (bytes t):=by simp [sg]
       unfold Hid Fits
       rw [e]
       refine Ze9 (Zcd _ Hd1.out) ?_
       have:=HPn.out; unfold Zd4 at this; rw [Zat]; omega
      have HFd:Hid (Fits (Zaj (bytes d):Int)):=by
       unfold Hid Fits
       rw [Int.natAbs_natCast]
       refine Ze9 (Zcd _ Hd2.out) ?_
       have:=HPd.out; unfold Zd4 at this; rw [Zat]; omega
      have HGk:Hid (Zdn (sg true (Zaj (bytes t))) (Zaj (bytes d):Int)):=HO.out.2 _ _ _ HSP.out HDne.out
      obtain ⟨Z,hZ⟩:∃ Z,sg true (Zaj (bytes t))=Z:=⟨_,rfl⟩
      rw [hZ] at HRd HFz HGk
      go_wp2_with fail
      generalize hwb:World.alloc w2 _=wn
      obtain ⟨hBx,hEx⟩:=Blk.one hwb
      have HBx0:=zh hBx
      have HBr0:=zh (HB3.out.ext hEx)
      have HIx0:=zh (HI.out.ext hEx)
      have HEx0:=zh (HE3.out.trans hEx)
      have HBf0:=zh (HBf3.out.ext hEx)
      have hrX:w.heap.size < w2.heap.size:=HB3.out.lt
      have hfX:F < w2.heap.size:=HBf3.out.lt
      generalize w2.heap.size=X at *
      clear hwb hBx hEx
      refine (ZfO _ _ _ HIx0.out).mono ?_
      rintro e w3 ⟨u3,rfl,hI3,hF3⟩
      obtain ⟨s2,A2,l2,c2,rfl⟩:=hI3.shape
      have hI3':Zah w3 (.agg #[.bool s2, .slice A2 l2 c2]) Z:=by rw [← hZ]; exact hI3
      have HBr3:=zh (HBr0.out.ext hF3)
      have HBx3:=zh (HBx0.out.ext hF3)
      have HBf4:=zh (HBf0.out.ext hF3)
      have HE4:=zh (HEx0.out.trans hF3)
      have HI3:=zh hI3'
      obtain ⟨y0,y1,y2,y3,y4,y5⟩:=HBf4.out.cell3
      obtain ⟨m0,m1,m2,m3,m4,m5,m6,m7⟩:=HBx3.out.cell4
      clear hI3 hI3' hF3 hZ
      go_wp2_with fail
      generalize hwx:World.setCell (World.setCell w3 _ _) _ _=wx
      have hF5:Fr (fun k=>k=X) w3 wx:=hwx ▸ Fr.set2 _ _
      have HBx:Hid (Blk 107 wx X #[.bool s2, .slice A2 l2 c2, .bool false, .slice none 0 0]):=hwx ▸ (HBx3.out.set_ 0 _).set_ 1 _
      have HBr:=zh (HBr3.out.fr hF5 (by omega))
      have HIx:=zh (HI3.out.other HBx3.out Zbj hF5)
      have HEx:=zh (Fr.local_ HE4.out hF5 (by omega))
      clear hwx hF5 m0 m1 m2 m3 m4 m5 m6 m7 y0 y1 y2 y3 y4 y5 HBx3 HBr3 HI3 HE4 HBf4
      refine (Zfa d _ Hd2.out HPd.out).mono ?_
      rintro e w4 ⟨u4,rfl,hI4,hF4⟩
      obtain ⟨s4,A4,l4,c4,rfl⟩:=hI4.shape
      have HBr4:=zh (HBr.out.ext hF4)
      have HBx4:=zh (HBx.out.ext hF4)
      have HIx4:=zh (HIx.out.ext hF4)
      have HE4:=zh (HEx.out.trans hF4)
      have HI4:=zh hI4
      clear hI4 hF4 HBr HBx HIx HEx
      obtain ⟨m0,m1,m2,m3,m4,m5,m6,m7⟩:=HBx4.out.cell4
      go_wp2_with fail
      generalize hw5:World.setCell (World.setCell w4 _ _) _ _=w5
      have hF5:Fr (fun k=>k=X) w4 w5:=hw5 ▸ Fr.set2 _ _
      have HBx5:Hid (Blk 107 w5 X #[.bool s2, .slice A2 l2 c2, .bool s4, .slice A4 l4 c4]):=hw5 ▸ (HBx4.out.set_ 2 _).set_ 3 _
      have HBr5:=zh (HBr4.out.fr hF5 (by omega))
      have HIx5:=zh (HIx4.out.other HBx4.out Zbj hF5)
      have HI5:=zh (HI4.out.other HBx4.out Zbj hF5)
      have HE5:=zh (Fr.local_ HE4.out hF5 (by omega))
      clear hw5 hF5 m0 m1 m2 m3 m4 m5 m6 m7 HBx4 HBr4 HIx4 HI4 HE4
      refine (ZeP _ _ Z (Zaj (bytes d):Int) _ (HG.out.ext HE5.out) HIx5.out HI5.out HFz.out HFd.out HGk.out).mono ?_
      rintro e w6 ⟨u6,rfl,hI6,hF6⟩
      obtain ⟨s6,A6,l6,c6,rfl⟩:=hI6.shape
      have HBr6:=zh (HBr5.out.ext hF6)
      have HBx6:=zh (HBx5.out.ext hF6)
      have HIx6:=zh (HIx5.out.ext hF6)
      have HId6:=zh (HI5.out.ext hF6)
      have HE6:=zh (HE5.out.trans hF6)
      have HI6:=zh hI6
      clear hI6 hF6 HBr5 HBx5 HIx5 HI5 HE5
      go_wp2_with fail
      refine (Zbt _ _ _ HI6.out).mono ?_
      by_cases hone:((Int.gcd Z (Zaj (bytes d):Int):Nat):Int)=1
      ·rw [decide_eq_true hone]
       rintro e w7 ⟨rfl,hF7⟩
       have HBr7:=zh (HBr6.out.ext hF7)
       have HBx7:=zh (HBx6.out.ext hF7)
       have HIx7:=zh (HIx6.out.ext hF7)
       have HId7:=zh (HId6.out.ext hF7)
       have HE7:=zh (HE6.out.trans hF7)
       have HQ:Hid (ZaG (bytes s)=some (mkRat Z (Zaj (bytes d)))∧(mkRat Z (Zaj (bytes d))).num=Z∧denF (mkRat Z (Zaj (bytes d)))=(Zaj (bytes d):Int)):=by
        have hg1:Nat.gcd Z.natAbs (Zaj (bytes d))=1:=by
         have:Int.gcd Z (Zaj (bytes d):Int)=1:=by omega
         exact this
        refine ⟨HRd.out.1 hg1,ZfC (Hk1.out HDne.out) hg1⟩
       clear hone hF7 HBr6 HBx6 HIx6 HId6 HE6
       obtain ⟨x0,x1,x2,x3,x4,x5,x6,x7⟩:=HBr7.out.cell4
       obtain ⟨m0,m1,m2,m3,m4,m5,m6,m7⟩:=HBx7.out.cell4
       go_wp2
       refine ZdL rfl rfl rfl (HBr7.out.put4 _ _ _ _) (Fr.local_ HE7.out (Fr.set4 _ _ _ _) (by omega)) (Or.inl ⟨rfl,_,HQ.out.1,_,_,_,_,_,_,_,_,rfl,?_,?_⟩)
       ·rw [HQ.out.2.1]; exact HIx7.out.other HBr7.out Zbj (Fr.set4 _ _ _ _)
       ·rw [HQ.out.2.2]; exact HId7.out.other HBr7.out Zbj (Fr.set4 _ _ _ _)
      ·rw [decide_eq_false hone]
       rintro e w7 ⟨rfl,hF7⟩
       have HBr7:=zh (HBr6.out.ext hF7)
       have HE7:=zh (HE6.out.trans hF7)
       have HQ:Hid (ZaG (bytes s)=none):=HRd.out.2 (fun h=>hone (by have:Int.gcd Z (Zaj (bytes d):Int)=1:=h; omega))
       clear hone hF7 HBr6 HBx6 HIx6 HId6 HE6
       obtain ⟨x0,x1,x2,x3,x4,x5,x6,x7⟩:=HBr7.out.cell4
       go_wp2
       exact ZdL rfl rfl rfl (HBr7.out.put4 _ _ _ _) (Fr.local_ HE7.out (Fr.set4 _ _ _ _) (by omega)) (Or.inr ⟨rfl,HQ.out,ZaX.zero _⟩)
end Go.Proofs.YthlipnahcbcjkaaGreatDoor

namespace Go.Proofs.YthlipnahcbcjkaaGreatDoor
open Go.RowKit
def Zaq (w:World) (A:Option Addr) (zs:List Int):Prop :=
 zs≠[]→∃ b off,A=some ⟨b,off,none⟩∧b < w.heap.size∧∀ i,i < zs.length→w.cell? ⟨b,off + i,none⟩=some (.int .i64 (zs.getD i 0))
theorem Zaq.ext {w w':World} {A:Option Addr} {zs:List Int} (h:Zaq w A zs) (hf:Ext w w'):Zaq w' A zs:=fun hne=>by
 obtain ⟨b,off,rfl,hb,hc⟩:=h hne
 exact ⟨b,off,rfl,Nat.lt_of_lt_of_le hb hf.size,fun i hi=>(hf.cell (p:=⟨b,off + i,none⟩) hb (fun f=>f)).trans (hc i hi)⟩
def ZeH (zs:List Int):Prop:=∀ z ∈ zs,-9223372036854775808≤z∧z≤9223372036854775807
theorem ZeH.at {zs:List Int} (h:ZeH zs) (i:Nat) : -9223372036854775808≤zs.getD i 0∧zs.getD i 0≤9223372036854775807:=by
 rcases Nat.lt_or_ge i zs.length with hi | hi
 ·rw [List.getD_eq_getElem?_getD,List.getElem?_eq_getElem hi]; exact h _ (List.getElem_mem hi)
 ·rw [List.getD_eq_getElem?_getD,List.getElem?_eq_none hi]; simp
theorem Zgm {zs:List Int} {i:Nat} (hi:i < zs.length):zs.getD i 0 ∈ zs:=by
 rw [List.getD_eq_getElem?_getD,List.getElem?_eq_getElem hi]; exact List.getElem_mem hi
def Zhz (s:Int × Int) (rp:Int × Int):Int × Int :=
 let k:=((rp.1 % rp.2 + rp.2 - s.1 % rp.2) % rp.2) * (invN (s.2 % rp.2).toNat rp.2.toNat:Int) % rp.2
 (s.1 + s.2 * k,s.2 * rp.2)
def crt (rps:List (Int × Int)):Int × Int:=rps.foldl Zhz (0,1)
def Zi4 (rs ps:List Int) (s t:List UInt8) (e:Int):Prop :=
 (rs.length≠ps.length∧s=[]∧t=[]∧e=4) ∨
 (rs.length=ps.length∧64 < ps.length∧s=[]∧t=[]∧e=2) ∨
 (rs.length=ps.length∧ps.length≤64∧(∃ p ∈ ps,¬ Pr p)∧s=[]∧t=[]∧e=1) ∨
 (rs.length=ps.length∧ps.length≤64∧(∀ p ∈ ps,Pr p)∧¬ ps.Nodup∧s=[]∧t=[]∧e=10) ∨
 (rs.length=ps.length∧ps.length≤64∧(∀ p ∈ ps,Pr p)∧ps.Nodup∧s=Lib.itoa (crt (rs.zip ps)).1∧t=Lib.itoa (crt (rs.zip ps)).2∧e=0)
def Zl9 (w:World) (rs ps:List Int) (e:Ending) (w':World):Prop :=
 ∃ s t c,e=.returned (.tuple #[.string ⟨s.toArray⟩, .string ⟨t.toArray⟩, .int .i64 c])∧Zi4 rs ps s t c∧Ext w w'
theorem Zlm {rs ps:List Int} {k:Nat} (hk:k < ps.length) (hl:rs.length=ps.length):crt ((rs.zip ps).take (k + 1))=Zhz (crt ((rs.zip ps).take k)) (rs.getD k 0,ps.getD k 0):=by
 unfold crt
 rw [List.take_succ_eq_append_getElem (by simp; omega),List.foldl_append]
 simp only [List.foldl_cons,List.foldl_nil,List.getElem_zip]
 rw [List.getD_eq_getElem?_getD,List.getD_eq_getElem?_getD,List.getElem?_eq_getElem hk,List.getElem?_eq_getElem (by omega)]
 rfl
def Zfy (ps:List Int) (k:Nat):Prop:=∀ i,i < k→Pr (ps.getD i 0)
theorem Zfy.all {ps:List Int} (h:Zfy ps ps.length):∀ p ∈ ps,Pr p:=fun p hp=>by
 obtain ⟨i,hi,rfl⟩:=List.getElem_of_mem hp
 have:=h i hi
 rwa [List.getD_eq_getElem?_getD,List.getElem?_eq_getElem hi] at this
theorem Zfy.next {ps:List Int} {k:Nat} (h:Zfy ps k) (hp:Pr (ps.getD k 0)):Zfy ps (k + 1):=fun i hi=>by
 rcases (by omega:i < k∨i=k) with h1 | rfl
 ·exact h i h1
 ·exact hp
theorem Zi5 {ps:List Int} {k:Nat} (hk:k < ps.length):(ps.take (k + 1)).Nodup ↔ (ps.take k).Nodup∧(ps.take k).contains (ps.getD k 0)=false:=by
 rw [List.take_succ_eq_append_getElem hk,List.nodup_append,List.getD_eq_getElem?_getD,List.getElem?_eq_getElem hk]
 simp
 intro _
 constructor
 ·intro h hm; exact h _ hm rfl
 ·intro h a ha e; exact h (e ▸ ha)
theorem Zgn {rs ps:List Int} (hl:rs.length=ps.length):∀ k,k≤ps.length→Zfy ps k→0≤(crt ((rs.zip ps).take k)).1∧(crt ((rs.zip ps).take k)).1 < (crt ((rs.zip ps).take k)).2∧(crt ((rs.zip ps).take k)).2≤2147483647 ^ k
 | 0,_,_=>by simp [crt]
 | k + 1,hk,hp=>by
   obtain ⟨h1,h2,h3⟩:=Zgn hl k (by omega) (fun i hi=>hp i (by omega))
   have h4:=hp k (by omega)
   rw [Zlm (by omega) hl]
   generalize crt ((rs.zip ps).take k)=s at *
   obtain ⟨v,m⟩:=s
   generalize rs.getD k 0=r
   generalize ps.getD k 0=p at *
   have hp2:=h4.1
   have hp3:=h4.2.1
   simp only [Zhz] at *
   generalize ((r % p + p - v % p) % p) * (invN (m % p).toNat p.toNat:Int)=z
   have hz1:=Int.emod_nonneg z (b:=p) (by omega)
   have hz2:=Int.emod_lt_of_pos z (b:=p) (by omega)
   generalize z % p=k' at *
   have h5:m * k'≤m * (p - 1):=Int.mul_le_mul_of_nonneg_left (by omega) (by omega)
   rw [Int.mul_sub,Int.mul_one] at h5
   refine ⟨Int.add_nonneg h1 (Int.mul_nonneg (by omega) hz1),by omega,?_⟩
   rw [Int.pow_succ]
   exact Int.mul_le_mul h3 hp3 (by omega) (Int.le_trans (by omega) h3)
def ZjF (rs ps:List Int) (w wr:World) (g k:Nat):Prop :=
 ∃ s1 B1 l1 c1 s2 B2 l2 c2,Blk 105 wr g #[.bool s1, .slice B1 l1 c1]∧Blk 105 wr (g + 1) #[.bool s2, .slice B2 l2 c2] ∧
   Zah wr (.agg #[.bool s1, .slice B1 l1 c1]) (crt ((rs.zip ps).take k)).1∧Zah wr (.agg #[.bool s2, .slice B2 l2 c2]) (crt ((rs.zip ps).take k)).2∧Ext w wr
theorem Zp3 {t:TypeId} {w w':World} {g b o:Nat} {x y u:Value} (hc:w.cell? ⟨b,o,none⟩=some u) (hB:Blk t w g #[x,y]) (hF:Ext w w'):w'.cell? ⟨b,o,none⟩=some u∧w'.cell? ⟨g,0,none⟩=some x∧w'.cell? ⟨g,1,none⟩=some y :=
 ⟨(hF.cell (World.block_lt_of_cell? w _ hc) (fun f=>f)).trans hc,(hB.ext hF).cell 0,(hB.ext hF).cell 1⟩
def ZjG (w wr:World) (g:Nat) (v m:Int):Prop :=
 ∃ s1 B1 l1 c1 s2 B2 l2 c2,Blk 105 wr g #[.bool s1, .slice B1 l1 c1]∧Blk 105 wr (g + 1) #[.bool s2, .slice B2 l2 c2] ∧
   Zah wr (.agg #[.bool s1, .slice B1 l1 c1]) v∧Zah wr (.agg #[.bool s2, .slice B2 l2 c2]) m∧Ext w wr
theorem ZnA {w w2 wA:World} {g:Nat} {v m:Int} {s1 s2 s:Bool} {B1 B2 B:Option Addr} {l1 c1 l2 c2 l c:Nat} (hg:w.heap.size≤g) (Q:Ext w w2) (hv:Blk 105 w2 g #[.bool s1, .slice B1 l1 c1]) (hm:Blk 105 w2 (g + 1) #[.bool s2, .slice B2 l2 c2])
 (hIm:Zah w2 (.agg #[.bool s2, .slice B2 l2 c2]) m) (hX:Ext w2 wA) (hA:Zah wA (.agg #[.bool s, .slice B l c]) v):ZjG w ((wA.setCell ⟨g,0,none⟩ (.bool s)).setCell ⟨g,1,none⟩ (.slice B l c)) g v m:=by
 refine ⟨s,B,l,c,s2,B2,l2,c2,((hv.ext hX).set_ 0 _).set_ 1 _,((hm.ext hX).far (by simp) _).far (by simp) _,hA.store2 (hv.ext hX),(hIm.ext hX).store2 (hv.ext hX),?_⟩
 exact ((Q.trans hX).setCell (Or.inr hg) _).setCell (Or.inr hg) _
theorem ZnB {w w2 wA:World} {g:Nat} {v m:Int} {s1 s2 s:Bool} {B1 B2 B:Option Addr} {l1 c1 l2 c2 l c:Nat} (hg:w.heap.size≤g) (Q:Ext w w2) (hv:Blk 105 w2 g #[.bool s1, .slice B1 l1 c1]) (hm:Blk 105 w2 (g + 1) #[.bool s2, .slice B2 l2 c2])
 (hIv:Zah w2 (.agg #[.bool s1, .slice B1 l1 c1]) v) (hX:Ext w2 wA) (hA:Zah wA (.agg #[.bool s, .slice B l c]) m):ZjG w ((wA.setCell ⟨g + 1,0,none⟩ (.bool s)).setCell ⟨g + 1,1,none⟩ (.slice B l c)) g v m:=by
 refine ⟨s1,B1,l1,c1,s,B,l,c,((hv.ext hX).far (by simp) _).far (by simp) _,((hm.ext hX).set_ 0 _).set_ 1 _,(hIv.ext hX).store2 (hm.ext hX),hA.store2 (hm.ext hX),?_⟩
 exact ((Q.trans hX).setCell (Or.inr (Nat.le_succ_of_le hg)) _).setCell (Or.inr (Nat.le_succ_of_le hg)) _
theorem Zj8 {z:Int} {k:Nat} (h0:0≤z) (h:z≤2147483647 ^ k) (hk:k≤64):wl z.natAbs < 40:=by
 have h1:wl z.natAbs≤31:=by
  rw [ZbB,ZfI]
  have h2:z.natAbs≤2147483647 ^ k:=by
   have e:((z.natAbs:Nat):Int)=z:=by omega
   have:((z.natAbs:Nat):Int)≤((2147483647 ^ k:Nat):Int):=by rw [e,Int.natCast_pow]; exact h
   omega
  have h3:2147483647 ^ k≤2147483647 ^ 64:=Nat.pow_le_pow_right (by omega) hk
  have h4:2147483647 ^ 64 < (2 ^ 31) ^ 64:=Nat.pow_lt_pow_left (by decide) (by decide)
  rw [← Nat.pow_mul,Nat.mul_comm 31 64] at h4
  exact Nat.lt_of_le_of_lt h2 (Nat.lt_of_le_of_lt h3 h4)
 omega
set_option maxHeartbeats 4000000 in
theorem ZlR (A A2:Option Addr) (rs ps:List Int) (n m c c2:Nat) (w:World) (hg:Glob w) (hn:rs.length=n) (hm:ps.length=m) (hR:Zaq w A rs) (hP:Zaq w A2 ps) (iR:ZeH rs) (iP:ZeH ps)
 (hc2:m≤c2) (hnl:n≤1099511627776) (hml:m≤1099511627776) :
 Calls Tryz.prog 57 #[.slice A n c, .slice A2 m c2] w (Zl9 w rs ps):=by
 have HN:=zh hn
 have HM:=zh hm
 have HG:=zh hg
 have HR:=zh hR
 have HP:=zh hP
 have IR:=zh iR
 have IP:=zh iP
 clear hn hm hg hR hP iR iP
 by_cases hnm:n=m
 ·subst hnm
  by_cases hbig:64 < n
  ·go_enter Tryz.func57,Tryz.ntmps57
   go_wp2
   go_ret3
   exact ⟨[],[],2,rfl,Or.inr (Or.inl ⟨by rw [HN.out,HM.out],by rw [HM.out]; exact hbig,rfl,rfl,rfl⟩),Fr.refl _ _⟩
  ·have hb64:decide ((64:Int) < (n:Int))=false:=by simp; omega
   have H64:Hid (ps.length≤64):=by have:=HM.out; unfold Hid; omega
   have HL:Hid (rs.length=ps.length):=by have:=HM.out; have:=HN.out; unfold Hid; omega
   go_enter Tryz.func57,Tryz.ntmps57
   go_wp2
   go_loop [28] (fun v=>∃ k:Nat,k≤n∧v=.int .i64 (k:Int)∧Hid (Zfy ps k)) (fun v=>n - (intOf v).toNat)
   case atStart=>exact ⟨0,Nat.zero_le _,rfl,fun i hi=>by omega⟩
   case round =>
    obtain ⟨k,hk,rfl,hA⟩:=hrel
    by_cases hlt:k < n
    ·have hlt':k < ps.length:=by have:=HM.out; omega
     obtain ⟨b2,off2,rfl,hb2,hc⟩:=HP.out (by intro e; simp [e] at hlt')
     have hck:=hc k hlt'
     have hmem:=zh (Zgm hlt')
     cases hp:prB (ps.getD k 0) with
     | true =>
       have hP1:=zh (ZdJ.1 hp)
       have hA1:=zh (hA.out.next hP1.out)
       generalize ps.getD k 0=p at *
       clear hc hlt'
       go_wp2_with (go_at_call 126; refine (ZfA _ _).mono ?_; rintro e w' ⟨rfl,rfl⟩)
       go_round
       case rel=>exact ⟨k + 1,by omega,by go_num,hA1.out⟩
       case measure=>simp [intOf]; omega
     | false =>
       have hP1:=zh (ZcJ.1 hp)
       generalize ps.getD k 0=p at *
       clear hc hlt'
       go_wp2_with (go_at_call 126; refine (ZfA _ _).mono ?_; rintro e w' ⟨rfl,rfl⟩)
       go_ret3
       exact ⟨[],[],1,rfl,Or.inr (Or.inr (Or.inl ⟨HL.out,H64.out,⟨p,hmem.out,hP1.out⟩,rfl,rfl,rfl⟩)),Fr.refl _ _⟩
    ·obtain rfl:k=n:=by omega
     have hAP:Hid (∀ p ∈ ps,Pr p):=Zfy.all (by rw [HM.out]; exact hA.out)
     go_wp2
     go_loop [38] (fun v=>∃ i:Nat,i≤k∧v=.int .i64 (i:Int)∧Hid ((ps.take i).Nodup)) (fun v=>k - (intOf v).toNat)
     case atStart=>exact ⟨0,Nat.zero_le _,rfl,by unfold Hid; simp⟩
     case round =>
      obtain ⟨i,hi,rfl,hD⟩:=hrel
      by_cases hlt:i < k
      ·have hlt':i < ps.length:=by have:=HM.out; omega
       obtain ⟨b2,off2,rfl,hb2,hc⟩:=HP.out (by intro e; simp [e] at hlt')
       have hck:=hc i hlt'
       have hcon:=fun w' (hw:w=w')=>Tryz.slices_Contains_int b2 off2 i c2 ps (ps.getD i 0) w' (by omega) (by omega) (hw ▸ hc)
       have hnd:=zh (Zi5 hlt')
       have HC:=zh hcon
       cases hp:(ps.take i).contains (ps.getD i 0) with
       | false =>
         have hD1:Hid ((ps.take (i + 1)).Nodup):=hnd.out.2 ⟨hD.out,hp⟩
         rw [hp] at HC
         generalize ps.getD i 0=p at *
         clear hc hlt' hcon hp hnd
         go_wp2_with (go_at_call 127; refine (HC.out _ rfl).mono ?_; rintro e w' ⟨rfl,rfl⟩)
         go_round
         case rel=>exact ⟨i + 1,by omega,by go_num,hD1.out⟩
         case measure=>simp [intOf]; omega
       | true =>
         have hD1:Hid (¬ ps.Nodup):=fun h=>by
          have h1:=hnd.out.1 (h.sublist (List.take_sublist _ _))
          rw [hp] at h1; cases h1.2
         rw [hp] at HC
         generalize ps.getD i 0=p at *
         clear hc hlt' hcon hp hnd
         go_wp2_with (go_at_call 127; refine (HC.out _ rfl).mono ?_; rintro e w' ⟨rfl,rfl⟩)
         go_ret3
         exact ⟨[],[],10,rfl,Or.inr (Or.inr (Or.inr (Or.inl ⟨HL.out,H64.out,hAP.out,hD1.out,rfl,rfl,rfl⟩))),Fr.refl _ _⟩
      ·obtain rfl:i=k:=by omega
       have hND:Hid (ps.Nodup):=by
        have:=hD.out; rwa [List.take_of_length_le (by rw [HM.out]; exact Nat.le_refl _)] at this
       go_wp2_with fail
       refine (Zeh 0 _ Zai rfl rfl).mono ?_
       rintro e w1 ⟨u1,rfl,hI1,hF1⟩
       obtain ⟨s1,B1,l1,c1,rfl⟩:=hI1.shape
       go_wp2_with fail
       refine (Zeh 1 _ ZdM rfl rfl).mono ?_
       rintro e w2 ⟨u2,rfl,hI2,hF2⟩
       obtain ⟨s2,B2,l2,c3,rfl⟩:=hI2.shape
       have HI1:Hid (Zah w2 (.agg #[.bool s1, .slice B1 l1 c1]) 0):=hI1.ext hF2
       have HI2:Hid (Zah w2 (.agg #[.bool s2, .slice B2 l2 c3]) 1):=hI2
       have HE2:Hid (Ext w w2):=hF1.trans hF2
       clear hI1 hF1 hI2 hF2
       go_wp2
       have hwg:=HE2.out.size
       generalize hwb:World.alloc (World.alloc w2 _) _=wb
       obtain ⟨hBv,hBm,hEb⟩:=Zcr hwb
       have HI0:Hid (ZjF rs ps w wb w2.heap.size 0):=⟨s1,B1,l1,c1,s2,B2,l2,c3,hBv,hBm,HI1.out.ext hEb,HI2.out.ext hEb,HE2.out.trans hEb⟩
       clear hwb hBv hBm hEb HI1 HI2 HE2
       generalize w2.heap.size=g at *
       clear w1 w2
       go_loopw [53] (fun v wr=>∃ j:Nat,j≤i∧v=.int .i64 (j:Int)∧Hid (ZjF rs ps w wr g j)) (fun v _=>i - (intOf v).toNat)
       case atStart=>exact ⟨0,Nat.zero_le _,rfl,HI0.out⟩
       case round =>
        obtain ⟨j,hj,rfl,hI⟩:=hrel
        by_cases hlt:j < i
        ·have hlt':j < ps.length:=by have:=HM.out; omega
         obtain ⟨b2,off2,rfl,hb2,hc⟩:=HP.out (by intro e; simp [e] at hlt')
         obtain ⟨b1,off1,rfl,hb1,hc1⟩:=HR.out (by intro e; have:=HL.out; simp [e] at this; omega)
         obtain ⟨s1,B1,l1,c1,s2,B2,l2,c3,hBv,hBm,hIv,hIm,Q⟩:=hI.out
         have hcp:=(Q.cell (p:=⟨b2,off2 + j,none⟩) hb2 (fun f=>f)).trans (hc j hlt')
         have hcr:=(Q.cell (p:=⟨b1,off1 + j,none⟩) hb1 (fun f=>f)).trans (hc1 j (by have:=HL.out; omega))
         have hPr:=hAP.out _ (Zgm hlt')
         have hst:=Zlm hlt' HL.out
         have hbd:=Zgn HL.out j (by omega) (fun i hi=>hAP.out _ (Zgm (by omega)))
         have hir:=IR.out.at j
         generalize ps.getD j 0=p at *
         generalize rs.getD j 0=r at *
         generalize hs:crt ((rs.zip ps).take j)=st at *
         obtain ⟨v,m⟩:=st
         obtain ⟨P,rfl⟩:=Int.eq_ofNat_of_zero_le (show 0≤p by have:=hPr.1; omega)
         have hP2:2≤P:=by have:=hPr.1; omega
         have hPm:P≤2147483647:=by have:=hPr.2.1; omega
         obtain ⟨hv0,hvm,hmp⟩:=hbd
         simp only [] at hv0 hvm hmp
         have Hwm:Hid (wl m.natAbs < 40):=Zj8 (by omega) hmp (by have:=H64.out; omega)
         have Hwv:Hid (wl v.natAbs < 40):=by
          have h1:=Hwm.out
          have h2:wl v.natAbs≤wl m.natAbs:=Za3 (by omega)
          unfold Hid; omega
         -- the numbers of the round
         obtain ⟨rr,hrr⟩:∃ rr:Nat,r % (P:Int)=(rr:Int):=Int.eq_ofNat_of_zero_le (Int.emod_nonneg _ (by omega))
         obtain ⟨vv,hvv⟩:∃ vv:Nat,v % (P:Int)=(vv:Int):=Int.eq_ofNat_of_zero_le (Int.emod_nonneg _ (by omega))
         obtain ⟨mm,hmm⟩:∃ mm:Nat,m % (P:Int)=(mm:Int):=Int.eq_ofNat_of_zero_le (Int.emod_nonneg _ (by omega))
         have lrr:rr < P:=by have:=Int.emod_lt_of_pos r (b:=(P:Int)) (by omega); omega
         have lvv:vv < P:=by have:=Int.emod_lt_of_pos v (b:=(P:Int)) (by omega); omega
         have lmm:mm < P:=by have:=Int.emod_lt_of_pos m (b:=(P:Int)) (by omega); omega
         have cres:=fun w=>ZhR r (P:Int) w hir.1 hir.2 (by omega) (by omega)
         rw [hrr] at cres
         have cinv:=fun w=>ZiG mm P w lmm hP2 hPm
         obtain ⟨q,hq⟩:∃ q,(rr + P - vv) % P=q:=⟨_,rfl⟩
         obtain ⟨iv,hiv⟩:∃ iv,invN mm P=iv:=⟨_,rfl⟩
         obtain ⟨f,hf⟩:∃ f,q * iv % P=f:=⟨_,rfl⟩
         have lq:q < P:=by rw [← hq]; exact Nat.mod_lt _ (by omega)
         have liv:iv < P:=by rw [← hiv]; exact Nat.mod_lt _ (by omega)
         have lf:f < P:=by rw [← hf]; exact Nat.mod_lt _ (by omega)
         rw [hiv] at cinv
         have e1:IntKind.u64.wrap (P:Int)=(P:Int):=Zbh _ (by rw [Zal]; omega)
         have e2:IntKind.u64.wrap ((rr:Int) + (P:Int))=((rr + P:Nat):Int):=ZbF (by rw [Zal]; omega)
         have e3:IntKind.u64.wrap (((rr + P:Nat):Int) - (vv:Int))=((rr + P - vv:Nat):Int):=by
          rw [show ((rr + P:Nat):Int) - (vv:Int)=((rr + P - vv:Nat):Int) by omega]
          exact Zbh _ (by rw [Zal]; omega)
         have e4:((rr + P - vv:Nat):Int).tmod (P:Int)=(q:Int):=by rw [ZkV,hq]
         have e5:(IntKind.u64.wrap ((q:Int) * (iv:Int))).tmod (P:Int)=(f:Int):=by rw [Zf9 lq liv hPm,hf]
         have Hst:Hid (crt ((rs.zip ps).take (j + 1))=(v + m * (f:Int),m * (P:Int))):=by
          unfold Hid
          rw [hst]
          simp only [Zhz]
          rw [hrr,hvv,hmm]
          have:((mm:Int)).toNat=mm:=by omega
          rw [this]
          have:((P:Int)).toNat=P:=by omega
          rw [this,hiv,show (rr:Int) + (P:Int) - (vv:Int)=((rr + P - vv:Nat):Int) by omega,← Int.natCast_emod,hq,← Int.natCast_mul,← Int.natCast_emod,hf]
         have HBv:=zh hBv
         have HBm:=zh hBm
         have HIv:=zh hIv
         have HIm:=zh hIm
         have HE:=zh Q
         have Hvv:=zh hvv
         have Hmm:=zh hmm
         have hp0:((P:Int) == 0)=false:=by simp; omega
         have hp1:P≠0:=by omega
         have e6:((rr + P - vv:Nat):Int) % (P:Int)=(q:Int):=by rw [← Int.natCast_emod,hq]
         obtain ⟨t1,et1⟩:∃ t1:Nat,rr + P=t1:=⟨_,rfl⟩
         rw [et1] at e2 e3 e4 e6
         obtain ⟨t2,et2⟩:∃ t2:Nat,t1 - vv=t2:=⟨_,rfl⟩
         rw [et2] at e3 e4 e6
         clear hst hs hBv hBm hIv hIm Q hvv hmm hrr hq hiv hf hc hc1 hPr hir et1 et2 hI hlt'
         go_wp2_with fail
         have hne1:g≠b1:=by omega
         go_region_held3 (fun w'=>w'.cell? ⟨b1,off1 + j,none⟩=some (.int .i64 r)∧w'.cell? ⟨g,0,none⟩=some (.bool s1)∧w'.cell? ⟨g,1,none⟩=some (.slice B1 l1 c1))
          (first | exact ⟨hcr,HBv.out.cell2.1,HBv.out.cell2.2.1⟩ | exact Zp3 hcr HBv.out (Fr.undrew (by assumption)))
          (first
           | (go_at_call 62; refine (cres _).mono ?_; rintro e w' ⟨rfl,rfl⟩)
           | (go_at_call 129
              refine (ZhQ _ v P _ (HIv.out.ext (Fr.refl _ _).drew) (by have:=Hwv.out; unfold Fits; omega) (by omega) (by rw [Zal]; omega)).mono ?_
              rw [Hvv.out]
              rintro e w1 ⟨rfl,hF1⟩))
         replace hF1:=Fr.undrew hF1
         replace HBv:=zh (HBv.out.ext hF1)
         replace HBm:=zh (HBm.out.ext hF1)
         replace HIv:=zh (HIv.out.ext hF1)
         replace HIm:=zh (HIm.out.ext hF1)
         replace HE:=zh (HE.out.trans hF1)
         clear hcp hcr hF1 e1 e2 e3 e4 e6
         obtain ⟨y0,y1,y2,y3⟩:=HBm.out.cell2
         go_wp2_with fail
         refine (ZhQ _ m P _ HIm.out (by have:=Hwm.out; unfold Fits; omega) (by omega) (by rw [Zal]; omega)).mono ?_
         rw [Hmm.out]
         rintro e w2 ⟨rfl,hF2⟩
         replace HBv:=zh (HBv.out.ext hF2)
         replace HBm:=zh (HBm.out.ext hF2)
         replace HIv:=zh (HIv.out.ext hF2)
         replace HIm:=zh (HIm.out.ext hF2)
         replace HE:=zh (HE.out.trans hF2)
         clear y0 y1 y2 y3 hF2
         have f1:IntKind.i64.wrap (f:Int)=(f:Int):=IntWalk.i64_in _ (by omega)
         have f2:IntKind.u64.wrap (f:Int)=(f:Int):=Zbh _ (by rw [Zal]; omega)
         have f3:decide ((f:Int) < 0)=false:=by rw [decide_eq_false_iff_not]; omega
         have fW:Hid (f < W64):=by unfold Hid; rw [Zal]; omega
         have FF:Hid (Fits (f:Int)):=by
          have:wl f≤1:=ZcB.2 fW.out
          unfold Hid Fits; rw [Int.natAbs_natCast]; omega
         have FP:Hid (Fits (m * (f:Int))):=by
          have h1:=ZfK m.natAbs f
          have:wl f≤1:=ZcB.2 fW.out
          have h2:=Hwm.out
          unfold Hid Fits; rw [Int.natAbs_mul,Int.natAbs_natCast]; exact Nat.le_trans h1 (by omega)
         go_wp2_with (go_at_call 130; refine (cinv _).mono ?_; rintro e w' ⟨rfl,rfl⟩)
         go_cut [17] (fun s17 wx=>s17=.int .u64 (f:Int)∧Hid (ZjG w wx g (v + m * (f:Int)) m))
         case first =>
          obtain ⟨x0,x1,x2,x3⟩:=HBv.out.cell2
          obtain ⟨y0,y1,y2,y3⟩:=HBm.out.cell2
          go_region_with (first
           | (go_at_call 128
              refine (Zeh f _ fW.out f2 f3).mono ?_
              rintro e wN ⟨uN,rfl,hNI,hNF⟩
              obtain ⟨sN,AN,lN,cN,rfl⟩:=hNI.shape
              have hX1:Ext w2 wN:=Fr.undrew hNF
              obtain ⟨n0,n1,n2,n3⟩:=(HBv.out.ext hX1).cell2
              obtain ⟨n4,n5,n6,n7⟩:=(HBm.out.ext hX1).cell2)
           | (go_at_call 89
              refine (Zhp _ _ m (f:Int) _ (HIm.out.ext hX1) hNI (by have:=Hwm.out; unfold Fits; omega) FF.out (Or.inl Hwm.out)).mono ?_
              rintro e wM ⟨uM,rfl,hMI,hMF⟩
              obtain ⟨sM,AM,lM,cM,rfl⟩:=hMI.shape
              have hX2:Ext w2 wM:=hX1.trans hMF
              obtain ⟨k0,k1,k2,k3⟩:=(HBv.out.ext hX2).cell2)
           | (go_at_call 131
              refine (Zjr _ _ v (m * (f:Int)) _ (HIv.out.ext hX2) hMI (by have:=Hwv.out; unfold Fits; omega) FP.out).mono ?_
              rintro e wA ⟨uA,rfl,hAI,hAF⟩
              obtain ⟨sA,AA,lA,cA,rfl⟩:=hAI.shape
              have hX3:Ext w2 wA:=hX2.trans hAF
              obtain ⟨j0,j1,j2,j3⟩:=(HBv.out.ext hX3).cell2))
          all_goals
           go_wp2_with fail
           go_meet
           exact ⟨rfl,ZnA hwg HE.out HBv.out HBm.out HIm.out hX3 hAI⟩
         case rest =>
          obtain ⟨rfl,hMid⟩:=hcut
          obtain ⟨s1,B1,l1,c1,s2,B2,l2,c3,hBv,hBm,hIv,hIm,Q⟩:=hMid.out
          have HBv:=zh hBv
          have HBm:=zh hBm
          have HIv:=zh hIv
          have HIm:=zh hIm
          have HE:=zh Q
          obtain ⟨x0,x1,x2,x3⟩:=hBv.cell2
          obtain ⟨y0,y1,y2,y3⟩:=hBm.cell2
          have p2:IntKind.u64.wrap (P:Int)=(P:Int):=Zbh _ (by rw [Zal]; omega)
          have p3:decide ((P:Int) < 0)=false:=by rw [decide_eq_false_iff_not]; omega
          have pW:Hid (P < W64):=by unfold Hid; rw [Zal]; omega
          have FPP:Hid (Fits (P:Int)):=by
           have:wl P≤1:=ZcB.2 pW.out
           unfold Hid Fits; rw [Int.natAbs_natCast]; omega
          clear hBv hBm hIv hIm Q hMid f1 f2 f3 e5
          go_wp2_with fail
          go_region_with (first
           | (go_at_call 128
              refine (Zeh P _ pW.out p2 p3).mono ?_
              rintro e wN ⟨uN,rfl,hNI,hNF⟩
              obtain ⟨sN,AN,lN,cN,rfl⟩:=hNI.shape
              have hX1:Ext wc wN:=Fr.undrew hNF
              obtain ⟨n4,n5,n6,n7⟩:=(HBm.out.ext hX1).cell2)
           | (go_at_call 89
              refine (Zhp _ _ m (P:Int) _ (HIm.out.ext hX1) hNI (by have:=Hwm.out; unfold Fits; omega) FPP.out (Or.inl Hwm.out)).mono ?_
              rintro e wM ⟨uM,rfl,hMI,hMF⟩
              obtain ⟨sM,AM,lM,cM,rfl⟩:=hMI.shape
              have hX2:Ext wc wM:=hX1.trans hMF
              obtain ⟨k0,k1,k2,k3⟩:=(HBm.out.ext hX2).cell2))
          all_goals
           have hMid:=zh (ZnB hwg HE.out HBv.out HBm.out HIv.out hX2 hMI)
           go_wp2
           go_roundw
           case rel =>
            exact ⟨j + 1,by omega,by go_num,by unfold Hid ZjF; rw [Hst.out]; exact hMid.out⟩
           case measure=>simp [intOf]; omega
        ·obtain rfl:j=i:=by omega
         obtain ⟨s1,B1,l1,c1,s2,B2,l2,c3,hBv,hBm,hIv,hIm,Q⟩:=hI.out
         have hlen:(rs.zip ps).length≤j:=by simp; have:=HM.out; omega
         rw [List.take_of_length_le hlen] at hIv hIm
         have hbd:=Zgn HL.out j (by have:=HM.out; omega) (fun i hi=>hAP.out _ (Zgm (by have:=HM.out; omega)))
         rw [List.take_of_length_le hlen] at hbd
         have hO2:Zb0 (crt (rs.zip ps)).2.natAbs:=by
          have:=Zj8 (by omega) hbd.2.2 (by have:=H64.out; have:=HM.out; omega)
          unfold Zb0; omega
         have hO1:Zb0 (crt (rs.zip ps)).1.natAbs:=by
          have h1:wl (crt (rs.zip ps)).1.natAbs≤wl (crt (rs.zip ps)).2.natAbs:=Za3 (by omega)
          unfold Zb0 at *; omega
         clear hbd
         have HFin:Hid (Zi4 rs ps (Lib.itoa (crt (rs.zip ps)).1) (Lib.itoa (crt (rs.zip ps)).2) 0):=Or.inr (Or.inr (Or.inr (Or.inr ⟨HL.out,H64.out,hAP.out,hND.out,rfl,rfl,rfl⟩)))
         generalize (crt (rs.zip ps)).1=v at *
         generalize (crt (rs.zip ps)).2=m at *
         have HBv:=zh hBv
         have HBm:=zh hBm
         have HIv:=zh hIv
         have HIm:=zh hIm
         have HE:=zh Q
         have HO1:=zh hO1
         have HO2:=zh hO2
         clear hBv hBm hIv hIm Q hI hlen hO1 hO2
         go_wp2_with fail
         go_region_held3 (fun w'=>w'.cell? ⟨g,0,none⟩=some (.bool s1)∧w'.cell? ⟨g,1,none⟩=some (.slice B1 l1 c1)∧w'.cell? ⟨g + 1,0,none⟩=some (.bool s2)∧w'.cell? ⟨g + 1,1,none⟩=some (.slice B2 l2 c3))
          (first | exact Zcx HBv.out HBm.out (Fr.refl _ _).drew | exact Zcx HBv.out HBm.out (Fr.undrew hFx))
          (first
           | (go_at_call 84
              refine (Zgl _ v _ (HG.out.ext HE.out.drew) (HIv.out.ext (Fr.refl _ _).drew) HO1.out).mono ?_
              rintro e w1 ⟨rfl,hFx⟩)
           | (go_at_call 84
              refine (Zgl _ m _ (HG.out.ext (HE.out.drew.trans hFx)) (HIm.out.ext ((Fr.refl _ _).drew.trans hFx)) HO2.out).mono ?_
              rintro e w2 ⟨rfl,hFy⟩
              replace hFx:=hFx.trans hFy))
         go_wp2
         go_ret3
         exact ⟨_,_,0,rfl,HFin.out,HE.out.trans (Fr.undrew hFx)⟩
 ·have hnm':((n:Int) != (m:Int))=true:=by simp; omega
  go_enter Tryz.func57,Tryz.ntmps57
  go_wp2
  go_ret3
  exact ⟨[],[],4,rfl,Or.inl ⟨by rw [HN.out,HM.out]; exact hnm,rfl,rfl,rfl⟩,Fr.refl _ _⟩
end Go.Proofs.YthlipnahcbcjkaaGreatDoor

namespace Go.Proofs.YthlipnahcbcjkaaGreatDoor
open Go.RowKit
theorem Pr.divisor {p d:Int} (h:Pr p) (hd:2≤d) (hm:p % d=0):d=p:=by
 obtain ⟨k,hk⟩:=Int.dvd_of_emod_eq_zero hm
 obtain ⟨h1,_,h3⟩:=h
 have hk1:1≤k:=by
  rcases Int.lt_or_le k 1 with h | h
  ·have:d * k≤d * 0:=Int.mul_le_mul_of_nonneg_left (by omega) (by omega)
   rw [Int.mul_zero] at this; omega
  ·exact h
 rcases (by omega:k=1∨2≤k) with rfl | hk2
 ·omega
 ·exfalso
  rcases Int.le_total d k with hdk | hdk
  ·have:d * d≤d * k:=Int.mul_le_mul_of_nonneg_left hdk (by omega)
   exact h3 d hd (by omega) hm
  ·have:k * k≤d * k:=Int.mul_le_mul_of_nonneg_right hdk (by omega)
   exact h3 k hk2 (by omega) (by rw [hk]; exact Int.mul_emod_left _ _)
end Go.Proofs.YthlipnahcbcjkaaGreatDoor

namespace Go.Proofs.YthlipnahcbcjkaaGreatDoor
def Za0:Nat→Nat→Nat
 | _,0=>1
 | 0,_ + 1=>0
 | n + 1,k + 1=>Za0 n k + Za0 n (k + 1)
theorem Zd9 (n:Nat):Za0 n 0=1:=by cases n<;>rfl
theorem Zdr (n k:Nat):Za0 (n + 1) (k + 1)=Za0 n k + Za0 n (k + 1):=rfl
theorem Zeq:∀ {n k:Nat},n < k→Za0 n k=0
 | 0,0,h=>by omega
 | 0,_ + 1,_=>rfl
 | n + 1,0,h=>by omega
 | n + 1,k + 1,h=>by rw [Zdr,Zeq (by omega),Zeq (by omega)]
theorem Zi8:∀ n,Za0 n n=1
 | 0=>rfl
 | n + 1=>by rw [Zdr,Zi8 n,Zeq (by omega)]
theorem Zfz:∀ n k,(k + 1) * Za0 (n + 1) (k + 1)=(n + 1) * Za0 n k
 | 0,0=>rfl
 | 0,k + 1=>by rw [Zeq (by omega),Zeq (by omega)]; simp
 | n + 1,0=>by
   have h:=Zfz n 0
   rw [Zd9] at h
   rw [Zdr (n + 1) 0,Zd9]
   omega
 | n + 1,k + 1=>by
   have h1:=Zfz n (k + 1)
   have h2:=Zfz n k
   rw [Zdr (n + 1) (k + 1),Nat.mul_add,h1]
   have e:(k + 1 + 1) * Za0 (n + 1) (k + 1)=(k + 1) * Za0 (n + 1) (k + 1) + Za0 (n + 1) (k + 1):=by rw [Nat.add_mul,Nat.one_mul]
   rw [e,h2]
   have e2:(n + 1 + 1) * Za0 (n + 1) (k + 1)=(n + 1) * (Za0 n k + Za0 n (k + 1)) + Za0 (n + 1) (k + 1):=by rw [Nat.add_mul (n + 1) 1,Nat.one_mul,Zdr]
   rw [e2,Nat.mul_add]
   omega
def sumF (f:Nat→Nat):Nat→Nat
 | 0=>0
 | n + 1=>sumF f n + f n
theorem Zov (f g:Nat→Nat) (n:Nat):sumF (fun i=>f i + g i) n=sumF f n + sumF g n:=by
 induction n with
 | zero=>rfl
 | succ n ih=>simp only [sumF]; rw [ih]; omega
theorem Zow (f:Nat→Nat) (c n:Nat):sumF (fun i=>c * f i) n=c * sumF f n:=by
 induction n with
 | zero=>rfl
 | succ n ih=>simp only [sumF]; rw [ih,Nat.mul_add]
theorem Zgq (f:Nat→Nat) (n:Nat):sumF f (n + 1)=f 0 + sumF (fun i=>f (i + 1)) n:=by
 induction n with
 | zero=>simp [sumF]
 | succ n ih=>rw [sumF,ih]; simp only [sumF]; omega
theorem ZmJ {f g:Nat→Nat} {n:Nat} (h:∀ i,i < n→f i=g i):sumF f n=sumF g n:=by
 induction n with
 | zero=>rfl
 | succ n ih=>simp only [sumF]; rw [ih (fun i hi=>h i (by omega)),h n (by omega)]
theorem Zox {f:Nat→Nat} {p n:Nat} (h:∀ i,i < n→p ∣ f i):p ∣ sumF f n:=by
 induction n with
 | zero=>exact Nat.dvd_zero p
 | succ n ih=>exact Nat.dvd_add (ih (fun i hi=>h i (by omega))) (h n (by omega))
theorem Zgr (a:Nat):∀ n,(a + 1) ^ n=sumF (fun k=>Za0 n k * a ^ k) (n + 1)
 | 0=>by simp [sumF,Za0]
 | n + 1=>by
   rw [Nat.pow_succ,Nat.mul_add,Nat.mul_one]
   conv=>lhs; rw [Zgr a n]
   rw [Zgq (fun k=>Za0 (n + 1) k * a ^ k)]
   have e1:sumF (fun i=>Za0 (n + 1) (i + 1) * a ^ (i + 1)) (n + 1)=sumF (fun i=>a * (Za0 n i * a ^ i)) (n + 1) + sumF (fun i=>Za0 n (i + 1) * a ^ (i + 1)) (n + 1):=by
    rw [← Zov]
    exact ZmJ (fun i _=>by rw [Zdr,Nat.add_mul,Nat.pow_succ,← Nat.mul_assoc (Za0 n i),Nat.mul_comm _ a])
   rw [e1,Zow]
   have e2:sumF (fun k=>Za0 n k * a ^ k) (n + 1)=Za0 n 0 * a ^ 0 + sumF (fun i=>Za0 n (i + 1) * a ^ (i + 1)) n:=Zgq _ n
   have e3:sumF (fun i=>Za0 n (i + 1) * a ^ (i + 1)) (n + 1)=sumF (fun i=>Za0 n (i + 1) * a ^ (i + 1)) n:=by
    show sumF _ n + Za0 n (n + 1) * a ^ (n + 1)=_
    rw [Zeq (by omega),Nat.zero_mul,Nat.add_zero]
   rw [e3,Zd9]
   rw [Zd9] at e2
   rw [Nat.mul_comm a]
   omega
theorem ZnJ {p k:Nat} (hp:Pr (p:Int)) (h0:0 < k) (hk:k < p):p ∣ Za0 p k:=by
 obtain ⟨n,rfl⟩:∃ n,p=n + 1:=⟨p - 1,by have:=hp.1; omega⟩
 obtain ⟨j,rfl⟩:∃ j,k=j + 1:=⟨k - 1,by omega⟩
 have h:=Zfz n j
 have hd:(n + 1) ∣ (j + 1) * Za0 (n + 1) (j + 1):=by rw [h]; exact Nat.dvd_mul_right _ _
 have hc:Nat.Coprime (n + 1) (j + 1):=by
  obtain ⟨g,hg⟩:∃ g,Nat.gcd (n + 1) (j + 1)=g:=⟨_,rfl⟩
  have h1:g ∣ n + 1:=hg ▸ Nat.gcd_dvd_left _ _
  have h2:g ∣ j + 1:=hg ▸ Nat.gcd_dvd_right _ _
  have hle:=Nat.le_of_dvd (by omega) h2
  have hg0:g≠0:=fun e=>by subst e; have:=Nat.eq_zero_of_zero_dvd h1; omega
  rcases (by omega:g=1∨2≤g) with e | e
  ·rw [Nat.Coprime,hg,e]
  ·have k1:=hp.divisor (d:=(g:Int)) (by omega) (by rw [← Int.natCast_emod,Nat.mod_eq_zero_of_dvd h1]; rfl)
   omega
 exact hc.dvd_of_dvd_mul_left hd
theorem ZmK {p:Nat} (hp:Pr (p:Int)) (a:Nat):a ^ p % p=a % p:=by
 have hp2:2≤p:=by have:=hp.1; omega
 induction a with
 | zero=>rw [Nat.zero_pow (by omega)]
 | succ a ih =>
   rw [Zgr,sumF,Zi8,Nat.one_mul]
   obtain ⟨n,hn⟩:∃ n,p=n + 1:=⟨p - 1,by omega⟩
   have e:sumF (fun k=>Za0 p k * a ^ k) p=1 + sumF (fun i=>Za0 p (i + 1) * a ^ (i + 1)) n:=by
    conv=>lhs; rw [hn]
    rw [Zgq,← hn,Zd9]
    simp
   have hd:p ∣ sumF (fun i=>Za0 p (i + 1) * a ^ (i + 1)) n:=Zox (fun i hi=>Nat.dvd_mul_right_of_dvd (ZnJ hp (by omega) (by omega)) _)
   rw [e]
   obtain ⟨m,hm⟩:=hd
   rw [hm,Nat.add_mod,ih,← Nat.add_mod]
   rw [show 1 + p * m + a=a + 1 + p * m by omega,Nat.add_mul_mod_self_left]
theorem Zgs {p x:Nat} (hp:Pr (p:Int)) (hx:x % p≠0):x * invN x p % p=1:=by
 have hp2:2≤p:=by have:=hp.1; omega
 have h:=ZmK hp x
 have hcop:Nat.Coprime p x:=by
  obtain ⟨g,hg⟩:∃ g,Nat.gcd p x=g:=⟨_,rfl⟩
  have h1:g ∣ p:=hg ▸ Nat.gcd_dvd_left _ _
  have h2:g ∣ x:=hg ▸ Nat.gcd_dvd_right _ _
  have hg0:g≠0:=fun e=>by subst e; have:=Nat.eq_zero_of_zero_dvd h1; omega
  rcases (by omega:g=1∨2≤g) with e | e
  ·rw [Nat.Coprime,hg,e]
  ·have k1:=hp.divisor (d:=(g:Int)) (by omega) (by rw [← Int.natCast_emod,Nat.mod_eq_zero_of_dvd h1]; rfl)
   have:g=p:=by omega
   subst this
   exact absurd (Nat.mod_eq_zero_of_dvd h2) hx
 have e:x ^ p=x * (x * x ^ (p - 2)):=by
  conv=>lhs; rw [show p=(p - 2) + 1 + 1 by omega,Nat.pow_succ,Nat.pow_succ]
  rw [Nat.mul_comm _ x,Nat.mul_comm _ x]
 have hpos:0 < x * x ^ (p - 2):=by
  have:0 < x:=by
   rcases Nat.eq_zero_or_pos x with e | e
   ·subst e; simp at hx
   ·exact e
  exact Nat.mul_pos this (Nat.pow_pos this)
 have hdv:p ∣ x * (x * x ^ (p - 2) - 1):=by
  rw [Nat.mul_sub,Nat.mul_one,← e]
  exact Nat.dvd_of_mod_eq_zero (Nat.sub_mod_eq_zero_of_mod_eq h)
 have hdv2:=hcop.dvd_of_dvd_mul_left hdv
 unfold invN
 rw [Nat.mul_mod,Nat.mod_mod,← Nat.mul_mod]
 obtain ⟨m,hm⟩:=hdv2
 rw [show x * x ^ (p - 2)=1 + p * m by omega,Nat.add_mul_mod_self_left,Nat.mod_eq_of_lt (by omega)]
end Go.Proofs.YthlipnahcbcjkaaGreatDoor

namespace Go.Proofs.YthlipnahcbcjkaaGreatDoor
theorem denI (q:Rat):((q.den:Nat):Int)≠0:=by have:=q.den_nz; omega
theorem Zkb {p:Rat} (hp:p.den=1):p=(p.num:Rat):=by
 apply Rat.ext<;>simp [hp]
end Go.Proofs.YthlipnahcbcjkaaGreatDoor

namespace Go.Proofs.YthlipnahcbcjkaaGreatDoor
open Go.RowKit
end Go.Proofs.YthlipnahcbcjkaaGreatDoor

namespace Go.Proofs.YthlipnahcbcjkaaGreatDoor
open Go.RowKit
end Go.Proofs.YthlipnahcbcjkaaGreatDoor
