/-
 My texts Fp, Nsh, Ro, Rg, Nss, Rb, Rnd put together.
-/
import Derived.Test.YtenchljfmfgeoaaGreatDoorL14
import Derived.Test.YtenchljfmfgeoaaGreatDoorL18
import Derived.Test.YtenchljfmfgeoaaGreatDoorL15
import Derived.Test.YtenchljfmfgeoaaGreatDoorL07
set_option maxRecDepth 100000
namespace Go.Proofs.YtenchljfmfgeoaaGreatDoor
open Go.RowKit
set_option maxHeartbeats 2000000 in
theorem ZlC (t:ByteArray) (v:Nat) (w:World) (hd:(bytes t).all Zav=true) (hv:Zak (bytes t)=v) (h0:t.size≠0) (hm:t.size≤1099511627776) (hb:v < 18446744073709551616) :
 Calls Tryz.prog 160 #[.string t, .int .i64 10, .int .i64 64] w fun e w'=>e=.returned (.tuple #[.int .u64 (v:Int), .nilIface])∧Ext w w':=by
 have hp:Lib.parseUint10 0 t.data.toList=.ok v:=by
  have h:=pu10 (bytes t) 0 hd (by rw [Nat.zero_mul,Nat.zero_add,hv]; exact hb)
  rw [Nat.zero_mul,Nat.zero_add,hv] at h
  exact h
 have h:=Tryz.internal_strconv_ParseUint_10_b64 t h0 (by omega) w
 rw [hp] at h
 have h2:Calls Tryz.prog 196 #[.string t, .int .i64 10, .int .i64 64] w fun e w'=>e=.returned (.tuple #[.int .u64 (v:Int), .nilIface])∧Ext w w':=by
  refine h.mono ?_
  rintro e w' ⟨rfl,rfl⟩
  exact ⟨rfl,rfl,rfl,rfl,by rw [Lib.bytesWorld_size]; omega,fun i hi _=>Lib.bytesWorld_at_old _ _ _ i hi⟩
 have H:=zh h2
 clear h h2 hp hd hv hb
 go_enter Tryz.func160,Tryz.ntmps160
 go_wp2_with fail
 refine H.out.mono ?_
 rintro e w' ⟨rfl,Q⟩
 have HE:=zh Q
 clear Q
 go_wp2
 go_ret2
 exact ⟨rfl,HE.out⟩
def ZnQ (w wr:World) (T:Nat) (d:ByteArray) (A:Option Addr) (cap:Nat) (xs:List Nat):Prop :=
 Buf .u64 141 wr A cap xs∧PaR T (bytes d) xs∧Ext w wr∧∀ b,ZaC A b→w.heap.size≤b
set_option maxHeartbeats 4000000 in
theorem ZgF (d:ByteArray) (w:World) (T:Nat) (hd:(bytes d).all Zav=true) (hT:Zak (bytes d)=T) (hw:wl T≤1048576) (hl:d.size≤1099511627776) :
 Calls Tryz.prog 111 #[.string d] w (Za2 w T):=by
 have HS:=zh (PaR.start hd hT)
 clear hd hT
 have ha:=ZeZ
 go_enter Tryz.func111,Tryz.ntmps111
 go_wp2
 go_loopw [0,3] (fun v0 v3 wr=>∃ (d:ByteArray) (A:Option Addr) (cap:Nat) (xs:List Nat),v0=.string d∧v3=.slice A xs.length cap∧d.size≤1099511627776∧Hid (ZnQ w wr T d A cap xs)) (fun v0 _ _=>match v0 with | .string d=>d.size | _=>0)
 case atStart=>exact ⟨d,none,0,[],rfl,rfl,hl,Buf.nil,HS.out,Fr.refl _ _,fun b hb=>by obtain ⟨a,ha,_⟩:=hb; cases ha⟩
 case round =>
  obtain ⟨d,A,cap,xs,rfl,rfl,hl,hR⟩:=hrel
  by_cases hpos:0 < d.size
  ·have hlen:=hR.out.2.1.len
   obtain ⟨n,hn⟩:∃ n,d.size=n:=⟨_,rfl⟩
   obtain ⟨z,hz⟩:∃ z,(n - 1) % 19=z:=⟨_,rfl⟩
   have hz18:z≤18:=by omega
   have hzn:z + 1≤n:=by have:=Nat.mod_le (n - 1) 19; omega
   have e1:((n:Int) - 1) % 19=(z:Int):=by omega
   have hn1:(1:Int)≤(n:Int):=by omega
   have hn2:(0:Int)≤(n:Int) - 1:=by omega
   have hzI:((z:Int) + 1)≤(n:Int):=by omega
   have hzT:((z:Int) + 1).toNat=z + 1:=by omega
   have hbl:(bytes d).length=n:=by rw [Zaq]; exact hn
   have hes:(d.extract 0 (z + 1)).size=z + 1:=by rw [ByteArray.size_extract]; omega
   have hbs:bytes (d.extract 0 (z + 1))=(bytes d).take (z + 1):=by rw [ZbL]; simp
   obtain ⟨c,hc⟩:∃ c,Zak ((bytes d).take (z + 1))=c:=⟨_,rfl⟩
   have hcb:=hR.out.2.1.chunk (z:=z) (by omega) (by rw [hbl]; exact hz)
   rw [hc] at hcb
   have hPU:∀ W,Calls Tryz.prog 160 #[.string (d.extract 0 (z + 1)), .int .i64 10, .int .i64 64] W fun e w'=>e=.returned (.tuple #[.int .u64 (c:Int), .nilIface])∧Ext W w':=fun W =>
    ZlC _ c W (by
     rw [hbs,List.all_eq_true]; intro x hx
     exact List.all_eq_true.1 hR.out.2.1.all _ (List.mem_of_mem_take hx)) (by rw [hbs]; exact hc) (by rw [hes]; omega) (by rw [hes]; omega) (by omega)
   have hd2:bytes (d.extract (z + 1) d.size)=(bytes d).drop (z + 1):=by
    rw [ZbL,List.take_of_length_le (by rw [List.length_drop,Zaq]; exact Nat.le_refl _)]
   have hd2s:(d.extract (z + 1) d.size).size=d.size - (z + 1):=by rw [ByteArray.size_extract]; omega
   have Hd2:=zh hd2
   have Hd2s:=zh hd2s
   have HPU:=zh hPU
   have Hhz:Hid (((bytes d).length - 1) % 19=z):=by unfold Hid; rw [hbl]; exact hz
   have Hbl:Hid (0 < (bytes d).length):=by unfold Hid; omega
   have Hc:=zh hc
   have Hn:=zh hn
   clear hd2 hd2s hPU hbs hes hbl hc hz
   go_wp2_with fail
   refine (HPU.out _).mono ?_
   rintro e wB ⟨rfl,hext⟩
   have HX:=zh hext
   clear hext
   have hzd:z + 1≤d.size:=by rw [Hn.out]; exact hzn
   clear hn
   go_wp2_with fail
   have HR0:=zh hR.out.1
   have HP:=zh hR.out.2.1
   have HE0:=zh hR.out.2.2.1
   have HN0:=zh hR.out.2.2.2
   have hd2l:(d.extract (z + 1) d.size).size≤1099511627776:=by rw [Hd2s.out]; omega
   have hmeas:Hid ((d.extract (z + 1) d.size).size < d.size):=by rw [Hid,Hd2s.out]; omega
   have HStep:Hid (∀ m q,Zcc xs 10000000000000000000 c xs.length m q→PaR T (bytes (d.extract (z + 1) d.size)) (if q=0 then m else m ++ [q])):=by
    intro m q hM
    rw [Hd2.out]
    exact HP.out.step Hbl.out Hhz.out (by rw [Hc.out]; exact hM)
   generalize d.extract (z + 1) d.size=d2 at *
   have HcW:Hid (c < W64):=by unfold Hid; rw [Zan]; omega
   have HpW:Hid (10000000000000000000 < W64):=by unfold Hid; rw [Zan]; omega
   go_loopw [5,32] (fun v9 v44 wx=>∃ (k q:Nat) (m:List Nat),k≤xs.length∧v44=.int .i64 (k:Int)∧v9=.int .u64 (q:Int)∧Hid (Zcc xs 10000000000000000000 c k m q)∧Hid (Buf .u64 141 wx A cap m)∧Hid (Fr (ZaC A) wB wx)) (fun _ v _=>xs.length - (intOf v).toNat)
   case atStart=>exact ⟨0,c,xs,by omega,rfl,rfl,Zcc.start HP.out.dig HcW.out,HR0.out.ext HX.out,Fr.refl _ _⟩
   case round =>
    obtain ⟨k,q,m,hk,rfl,rfl,hM,hB,hF⟩:=hrel
    have hml:m.length=xs.length:=hM.out.1
    by_cases hlt:k < xs.length
    ·obtain ⟨b,rfl,hO,hC,hmc,hcm⟩:=hB.out.open_ (by intro e; rw [e] at hml; simp at hml; omega)
     obtain ⟨y,hy⟩:∃ y,m[k]?.getD 0=y:=⟨_,rfl⟩
     have hcell:=hO.cell (i:=k) (by omega)
     rw [hy] at hcell
     have hfrz:=hO.frozen k
     have HyW:Hid (y < W64):=hy ▸ hM.out.2.2.1.getD Zah k
     have HM2:=zh (hM.out.step hlt hy HpW.out)
     have HB2:=fun v=>Buf.set_ hO hC hmc hcm k v (by omega)
     have HBh:=zh HB2
     have HqW:=zh hM.out.2.2.2.1
     have HW:Hid (IntKind.u64.wrap ((ZaN y 10000000000000000000:Int) + (ZaB (Zat y 10000000000000000000) q 0:Int))=(maHi y 10000000000000000000 q:Int)):=by
      have h:=ZfY HyW.out HpW.out HqW.out
      unfold Hid maHi at *
      rw [← Int.natCast_add,ZbI _ h]
     have hblt2:=hO.lt
     have Hml:=zh hml
     clear hO hC hmc hcm hy HB2 hml
     go_wp2_with (go_at_call 161; refine (Zeq _ _ HyW.out HpW.out _).mono ?_; rintro e w' ⟨rfl,rfl⟩)
     go_roundw
     case rel=>exact ⟨k + 1,_,_,by omega,by go_num,by rw [HW.out],HM2.out,HBh.out _,hF.out.setCell (p:=⟨b,k,none⟩) (Or.inl ⟨_,rfl,rfl⟩) _⟩
     case measure=>simp [intOf]; omega
    ·obtain rfl:k=xs.length:=by omega
     have HEx:Hid (Ext w wr):=(HE0.out.trans HX.out).next hF.out (fun i hi hb=>by have:=HN0.out i hb; omega)
     by_cases hq:q=0
     ·subst hq
      have hS:=HStep.out m 0 hM.out
      rw [if_pos rfl] at hS
      have HNew:Hid (ZnQ w wr T d2 A cap m):=⟨hB.out,hS,HEx.out,HN0.out⟩
      have Hml:=zh hml
      clear hS hml
      go_wp2
      go_roundw
      case rel=>exact ⟨d2,A,cap,m,rfl,by rw [Hml.out],hd2l,HNew.out⟩
      case measure=>exact hmeas.out
     ·have hq':(0:Int) < (q:Int):=by omega
      have hS:=HStep.out m q hM.out
      rw [if_neg hq] at hS
      have HNum:=zh hS
      have Hml:=zh hml
      have hSh:Hid (Zae .u64 (wr.alloc (.cells #[.int .u64 (q:Int)] 141)) (some ⟨wr.heap.size,0,none⟩) [q]):=(Own.new wr 141 .u64 [q] []).shows0
      clear hS hml hq
      go_wp2_with (at_builtin; refine Hid.out ?_)
      refine zh ?_
      refine Za9 rfl _ _ _ rfl _ .u64 8 Tryz.underlying107 Zc3 A (some ⟨wr.heap.size,0,none⟩) xs.length 1 cap 1 rfl rfl m [q] Hml.out rfl (hB.out.ext ((Fr.refl _ _).alloc _)) hSh.out (by simp only [maxLen]; omega) (by omega) ?_
      intro A1 cap1 w2 hB1 hF1 hA1
      have HNew:Hid (ZnQ w w2 T d2 A1 cap1 (m ++ [q])):=by
       refine ⟨hB1,HNum.out,?_,?_⟩
       ·exact (HEx.out.alloc _).next hF1 (fun i hi hb=>by have:=HN0.out i hb; omega)
       ·intro b hb
        rcases hA1 b hb with h | h
        ·exact HN0.out b h
        ·have:=HEx.out.size; simp at h; omega
      clear hB1 hF1 hA1
      go_wp2
      go_roundw
      case rel=>exact ⟨d2,A1,cap1,m ++ [q],rfl,by rw [List.length_append,Hml.out]; rfl,hd2l,HNew.out⟩
      case measure=>exact hmeas.out
  ·have h0:d.size=0:=by omega
   obtain ⟨h1,h2,h3,h4⟩:=hR.out
   have hN:Hid (Za2 w T (.returned (.slice A xs.length cap)) wr):=by
    refine ⟨_,rfl,?_,h3⟩
    have hb:bytes d=[]:=List.eq_nil_of_length_eq_zero (by rw [Zaq]; exact h0)
    rw [hb] at h2
    exact ⟨A,xs,cap,rfl,h1.len,h1.shows,h2.dig,h2.trim,h2.done⟩
   clear h1 h2 h3 h4
   go_wp2
   go_ret
   exact hN.out
end Go.Proofs.YtenchljfmfgeoaaGreatDoor

namespace Go.Proofs.YtenchljfmfgeoaaGreatDoor
open Go.RowKit
end Go.Proofs.YtenchljfmfgeoaaGreatDoor

namespace Go.Proofs.YtenchljfmfgeoaaGreatDoor
open Go.RowKit
/-! ### Newton's step -/
theorem ZmS {x r:Nat} (hr0:0 < r) (hx:0 < x):x < ((r + x / r) / 2 ^ 1 + 1) * ((r + x / r) / 2 ^ 1 + 1)∧0 < (r + x / r) / 2 ^ 1:=by
 obtain ⟨q,hq⟩:∃ q,x / r=q:=⟨_,rfl⟩
 have h1:=Nat.div_add_mod x r
 have h2:=Nat.mod_lt x hr0
 rw [hq] at h1 ⊢
 obtain ⟨m,hm⟩:∃ m,(r + q) / 2 ^ 1=m:=⟨_,rfl⟩
 rw [hm]
 have hm2:r + q≤2 * m + 1:=by omega
 have hlt:x < r * (q + 1):=by rw [Nat.mul_add,Nat.mul_one]; omega
 have h4:4 * (r * (q + 1))≤(r + q + 1) * (r + q + 1):=by
  rcases Nat.le_total r (q + 1) with h | h
  ·obtain ⟨d,hd⟩:=Nat.exists_eq_add_of_le h
   have e:r + q + 1=r + (r + d):=by omega
   rw [e,hd]
   simp only [Nat.mul_add,Nat.add_mul]
   have:=Nat.zero_le (d * d)
   rw [Nat.mul_comm d r]; omega
  ·obtain ⟨d,hd⟩:=Nat.exists_eq_add_of_le h
   have e:r + q + 1=(q + 1 + d) + (q + 1):=by omega
   rw [e,hd]
   generalize q + 1=p
   simp only [Nat.mul_add,Nat.add_mul]
   have:=Nat.zero_le (d * d)
   rw [Nat.mul_comm d p]; omega
 have h5:(r + q + 1) * (r + q + 1)≤(2 * (m + 1)) * (2 * (m + 1)):=Nat.mul_le_mul (by omega) (by omega)
 have h6:(2 * (m + 1)) * (2 * (m + 1))=4 * ((m + 1) * (m + 1)):=by
  rw [Nat.mul_mul_mul_comm]
 refine ⟨by omega,?_⟩
 rcases Nat.eq_zero_or_pos m with e | e
 ·exfalso
  subst e
  have:r=1:=by omega
  subst this
  have:q=0:=by omega
  subst this
  omega
 ·exact e
theorem ZsA {x r r0:Nat} (h:¬ (r + x / r) / 2 ^ 1 < r) (h1:x < (r + 1) * (r + 1)) (h2:r0 * r0≤x) (h3:x < (r0 + 1) * (r0 + 1)):r=r0:=by
 have hq:r≤x / r:=by omega
 have h4:r * r≤x:=by
  have:=Nat.div_mul_le_self x r
  have:=Nat.mul_le_mul_right r hq
  omega
 rcases Nat.lt_trichotomy r r0 with h5 | h5 | h5
 ·have:=Nat.mul_le_mul (show r + 1≤r0 by omega) (show r + 1≤r0 by omega); omega
 ·exact h5
 ·have:=Nat.mul_le_mul (show r0 + 1≤r by omega) (show r0 + 1≤r by omega); omega
theorem ZlI {x k:Nat} (h:x < 2 ^ k):x < (1 * 2 ^ ((k + 1) / 2) + 1) * (1 * 2 ^ ((k + 1) / 2) + 1)∧0 < 1 * 2 ^ ((k + 1) / 2):=by
 rw [Nat.one_mul]
 have h1:2 ^ k≤2 ^ ((k + 1) / 2) * 2 ^ ((k + 1) / 2):=by rw [← Nat.pow_add]; exact Nat.pow_le_pow_right (by omega) (by omega)
 have h2:=Nat.pow_pos (n:=(k + 1) / 2) (show 0 < 2 by omega)
 refine ⟨?_,h2⟩
 have:=Nat.mul_le_mul (Nat.le_succ (2 ^ ((k + 1) / 2))) (Nat.le_succ (2 ^ ((k + 1) / 2)))
 simp only [Nat.succ_eq_add_one] at this
 omega
theorem ZsU {k m:Nat} (h:k≤64 * m):wl (1 * 2 ^ ((k + 1) / 2))≤m + 1:=by
 rw [Nat.one_mul]
 refine ZbC.2 ?_
 rw [Zan,show (18446744073709551616:Nat)=2 ^ 64 from rfl,← Nat.pow_mul]
 exact Nat.pow_lt_pow_right (by omega) (by omega)
theorem Zpl {q r:Nat} {w w':World} {e:Ending} (h:ZfV w q r e w'):ZbA (fun x:ShN × ShN=>.tuple #[ZaA x.1,ZaA x.2]) (fun x w=>Zad w (ZaA x.1) q∧Zad w (ZaA x.2) r) w e w':=by
 obtain ⟨u,v,rfl,h1,h2,Q⟩:=h
 obtain ⟨A,l,c,rfl⟩:=h1.slice
 obtain ⟨A2,l2,c2,rfl⟩:=h2.slice
 exact ⟨((A,l,c),(A2,l2,c2)),rfl,Q,boxn Q (fun S w'' hS hF=>⟨h1.nrb hS hF,h2.nrb hS hF⟩)⟩
theorem rw1 {k:Nat} (h:k≤100000):IntKind.i64.wrap ((k:Int) + 1)=((k + 1:Nat):Int):=by rw [IntKind.wrap_i64]; omega
end Go.Proofs.YtenchljfmfgeoaaGreatDoor

namespace Go.Proofs.YtenchljfmfgeoaaGreatDoor
open Go.RowKit
end Go.Proofs.YtenchljfmfgeoaaGreatDoor

namespace Go.Proofs.YtenchljfmfgeoaaGreatDoor
open Go.RowKit
end Go.Proofs.YtenchljfmfgeoaaGreatDoor

namespace Go.Proofs.YtenchljfmfgeoaaGreatDoor
open Go.RowKit
end Go.Proofs.YtenchljfmfgeoaaGreatDoor

namespace Go.Proofs.YtenchljfmfgeoaaGreatDoor
open Go.RowKit
section
variable {a b:Value} {x r k:Nat} {w:World}
end
inductive RootIs (p:Rat):ByteArray→Bool→Prop
 | neg (h:p.num < 0):RootIs p ⟨#[]⟩ false
 | no1 (n d:Nat) (h0:0≤p.num) (hn1:n * n≤p.num.natAbs) (hn2:p.num.natAbs < (n + 1) * (n + 1)) (hd1:d * d≤(p.den:Int).natAbs) (hd2:(p.den:Int).natAbs < (d + 1) * (d + 1)) (h:¬ n * n=p.num.natAbs):RootIs p ⟨#[]⟩ false
 | no2 (n d:Nat) (h0:0≤p.num) (hn1:n * n≤p.num.natAbs) (hn2:p.num.natAbs < (n + 1) * (n + 1)) (hd1:d * d≤(p.den:Int).natAbs) (hd2:(p.den:Int).natAbs < (d + 1) * (d + 1)) (hnn:n * n=p.num.natAbs) (h:¬ d * d=(p.den:Int).natAbs):RootIs p ⟨#[]⟩ false
 | yes (n d:Nat) (Q:Rat) (h0:0≤p.num) (hn1:n * n≤p.num.natAbs) (hn2:p.num.natAbs < (n + 1) * (n + 1)) (hd1:d * d≤(p.den:Int).natAbs) (hd2:(p.den:Int).natAbs < (d + 1) * (d + 1)) (hnn:n * n=p.num.natAbs) (hdd:d * d=(p.den:Int).natAbs) (hQn:Q.num=(n:Int)) (hQd:(Q.den:Int)=(d:Int)):RootIs p ⟨(ZaD Q).toArray⟩ true
end Go.Proofs.YtenchljfmfgeoaaGreatDoor
