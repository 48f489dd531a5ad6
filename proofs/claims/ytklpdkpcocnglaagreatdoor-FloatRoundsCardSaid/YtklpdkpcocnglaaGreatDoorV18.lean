/-
 My texts Fu, FlD, Fp, Nsh put together.
-/
import Derived.Test.YtklpdkpcocnglaaGreatDoorV17
import Derived.Test.YtklpdkpcocnglaaGreatDoorV08
import Derived.Test.YtklpdkpcocnglaaGreatDoorV15
import Derived.Test.YtklpdkpcocnglaaGreatDoorV16
set_option maxRecDepth 100000
namespace Go.Proofs.YtklpdkpcocnglaaGreatDoor
open Go.RowKit Go.Sort
def Zf6 (w:World) (l:List UInt8) (e:Ending) (w':World):Prop:=e=.returned (.string ⟨l.toArray⟩)∧Ext w w'
set_option maxHeartbeats 2000000 in
theorem ZhF (u:Nat) (w:World) (hu:u < 100) :
 Calls Tryz.prog 151 #[.int .u64 (u:Int), .int .i64 10] w (Zf6 w (Lib.decDigits u)):=by
 have iu:(u:Int) < 100:=by omega
 go_enter Tryz.func151,Tryz.ntmps151
 go_wp2_with (go_at_call 179; refine (Tryz.internal_strconv_small u hu _).mono ?_; rintro e w' ⟨rfl,rfl⟩)
 go_ret
 exact ⟨rfl,Fr.refl _ _⟩
set_option maxHeartbeats 4000000 in
theorem Zi3 (u nd:Nat) (w:World) (hg:Glob w) (hu:100≤u) (hu64:u < 18446744073709551616) (hnd:Lib.nDigits u=nd) :
 Calls Tryz.prog 151 #[.int .u64 (u:Int), .int .i64 10] w (Zf6 w (Lib.decDigits u)):=by
 have hlen:=Znu u (by rw [Zam]; exact hu64)
 have hln:=Lib.decDigits_length u
 rw [hnd] at hln
 rw [hln] at hlen
 have hal:Tryz.prog.arrayLen 202=24:=by simp [Program.arrayLen,Tryz.underlying202]
 have hsl:∀ W,(Instr.sliceAt 202 (.pointer (some ⟨w.heap.size,0,none⟩)) none (some (.int .i64 (nd:Int))) none).run Tryz.prog W=.ok (.slice (some ⟨w.heap.size,0,none⟩) nd 24) W:=fun W=>by
  rw [run_sliceAt_array_h W 202 ⟨w.heap.size,0,none⟩ (by simp [Program.arrayLen,Program.elem,Tryz.underlying202]) .i64 (nd:Int) (by omega) (by rw [hal]; omega)]
  go_simp
 have hH0:=Lib.holds_zero0 w 202 nd (by omega)
 have hfmt:=Tryz.internal_strconv_formatBase10 w.heap.size 0 24 u (Array.replicate nd 0) (w.alloc (.cells Lib.zeros24 202)) hH0 (by rw [Array.size_replicate,← hnd]; exact Lib.lt_pow_nDigits u) hu64 (by rw [Array.size_replicate]; omega)
 have hnum:=Tryz.internal_strconv_numDigits u (by omega) hu64 (w.alloc (.cells Lib.zeros24 202)) (Lib.tabIs_alloc hg.1 _)
 rw [Array.size_replicate] at hfmt
 rw [hnd] at hnum
 have HH0:=zh hH0
 have HD:=zh hln
 have HND:=zh hnd
 have iu:(100:Int)≤(u:Int):=by omega
 clear hH0 hal hln hnd hg
 go_enter Tryz.func151,Tryz.ntmps151
 go_wp2_with (go_at_call 180; refine hnum.mono ?_; rintro e w' ⟨rfl,rfl⟩)
 go_at_call 181
 refine hfmt.mono ?_
 rintro e w' ⟨rfl,k,v',dk,rfl,hF⟩
 have hcv:(convert 143 9 (.slice (some ⟨w.heap.size,0,none⟩) nd 24)).run Tryz.prog ((putRow (fun (b:UInt8)=>Value.int .u8 (b.toNat:Int)) (w.alloc (.cells Lib.zeros24 202)) w.heap.size 0 dk).drewN k)=.ok (.string ⟨(Lib.decDigits u).toArray⟩) ((putRow (fun (b:UInt8)=>Value.int .u8 (b.toNat:Int)) (w.alloc (.cells Lib.zeros24 202)) w.heap.size 0 dk).drewN k):=by
  have h:=run_convert_bytes_back (P:=Tryz.prog) ((putRow (fun (b:UInt8)=>Value.int .u8 (b.toNat:Int)) (w.alloc (.cells Lib.zeros24 202)) w.heap.size 0 dk).drewN k) 143 9 5 ⟨w.heap.size,0,none⟩ 24 (Lib.decDigits u) Tryz.underlying143 Tryz.underlying5 Tryz.underlying9 (fun j hj=>by
   rw [Lib.row_is_numeral (by rw [HND.out]; exact hF) j hj,Lib.add_plain,World.cell?_drewN]
   exact cell?_putRow (fun (b:UInt8)=>Value.int .u8 (b.toNat:Int)) _ w.heap.size 0 _ dk HH0.out (by rw [hF.size,Array.size_replicate]) j (by rw [hF.size]; rw [HD.out] at hj; exact hj))
  rw [HD.out] at h
  exact h
 obtain ⟨os,eo⟩:=Lib.fin_at w (.cells Lib.zeros24 202) dk k 0
 have Q:Ext w ((putRow (fun (b:UInt8)=>Value.int .u8 (b.toNat:Int)) (w.alloc (.cells Lib.zeros24 202)) w.heap.size 0 dk).drewN k):=by
  rw [eo]; exact Fr.ofBelow (Lib.below_grow _ w (Nat.le_refl _) k os)
 generalize (putRow (fun (b:UInt8)=>Value.int .u8 (b.toNat:Int)) (w.alloc (.cells Lib.zeros24 202)) w.heap.size 0 dk).drewN k=w1 at Q hcv ⊢
 have HE:=zh Q
 clear Q eo hF hfmt hnum
 go_wp2
 go_ret
 exact ⟨rfl,HE.out⟩
set_option maxHeartbeats 1000000 in
theorem Zlg (u:Nat) (w:World) (hg:Glob w) (hu:u < W64) :
 Calls Tryz.prog 110 #[.int .u64 (u:Int), .int .i64 10] w (Zf6 w (Lib.decDigits u)):=by
 have h:Calls Tryz.prog 151 #[.int .u64 (u:Int), .int .i64 10] w (Zf6 w (Lib.decDigits u)):=by
  rcases Nat.lt_or_ge u 100 with h | h
  ·exact ZhF u w h
  ·exact Zi3 u _ w hg h (by rw [Zam] at hu; exact hu) rfl
 have H:=zh h
 clear h hg hu
 go_enter Tryz.func110,Tryz.ntmps110
 go_wp2_with fail
 refine H.out.mono ?_
 rintro e w' ⟨rfl,Q⟩
 have HE:=zh Q
 clear Q
 go_wp2
 go_ret
 exact ⟨rfl,HE.out⟩
end Go.Proofs.YtklpdkpcocnglaaGreatDoor

namespace Go.Proofs.YtklpdkpcocnglaaGreatDoor
open Go.RowKit
def chV:List Nat→Nat
 | []=>0
 | c :: cs=>c + 10 ^ 19 * chV cs
theorem Zhq (c:Nat):∀ cs:List Nat,chV (cs ++ [c])=chV cs + (10 ^ 19) ^ cs.length * c
 | []=>by simp [chV]
 | d :: cs=>by
   show d + 10 ^ 19 * chV (cs ++ [c])=d + 10 ^ 19 * chV cs + (10 ^ 19) ^ (cs.length + 1) * c
   rw [Zhq c cs,Nat.pow_succ (m:=cs.length) (n:=10 ^ 19),Nat.mul_add,← Nat.mul_assoc,Nat.mul_comm (10 ^ 19) ((10 ^ 19) ^ cs.length),Nat.add_assoc]
structure ChR (n:Nat) (cs:List Nat) (r:Nat):Prop where
 eq:n=chV cs + (10 ^ 19) ^ cs.length * r
 lt:∀ c ∈ cs,c < 10 ^ 19
 top:r=0→cs≠[]→∃ l c,cs=l ++ [c]∧0 < c
theorem ChR.start (n:Nat):ChR n [] n:=⟨by simp [chV],fun c h=>by simp at h,fun _ h=>absurd rfl h⟩
theorem ChR.step {n r:Nat} {cs:List Nat} (h:ChR n cs r) (hr:0 < r):ChR n (cs ++ [r % 10 ^ 19]) (r / 10 ^ 19):=by
 refine ⟨?_,fun c hc=>?_,fun h0 _=>⟨cs,_,rfl,?_⟩⟩
 ·rw [Zhq,List.length_append,List.length_singleton,Nat.pow_succ (m:=cs.length) (n:=10 ^ 19),Nat.mul_assoc,Nat.add_assoc,← Nat.mul_add,Nat.mod_add_div]
  exact h.eq
 ·rcases List.mem_append.1 hc with h1 | h1
  ·exact h.lt c h1
  ·rw [List.mem_singleton.1 h1]; exact Nat.mod_lt _ (by decide)
 ·have h1:=Nat.mod_add_div r (10 ^ 19)
  rw [h0,Nat.mul_zero,Nat.add_zero] at h1
  omega
theorem Zpq {cs:List Nat} (h:∃ l c,cs=l ++ [c]∧0 < c):0 < chV cs:=by
 obtain ⟨l,c,rfl,hc⟩:=h
 rw [Zhq]
 have:=Nat.mul_pos (Nat.pow_pos (n:=l.length) (show 0 < 10 ^ 19 by decide)) hc
 omega
theorem ZnJ {cs:List Nat} {i:Nat} (hi:i < cs.length) (h:∃ l c,cs=l ++ [c]∧0 < c):∃ l c,cs.drop i=l ++ [c]∧0 < c:=by
 obtain ⟨l,c,rfl,hc⟩:=h
 rw [List.length_append,List.length_singleton] at hi
 exact ⟨l.drop i,c,List.drop_append_of_le_length (by omega),hc⟩
theorem ZsK {cs:List Nat} {i c:Nat} (hi:i < cs.length) (hc:cs[i]?.getD 0=c) (hlt:∀ c ∈ cs,c < 10 ^ 19) (ht:∃ l c,cs=l ++ [c]∧0 < c) :
 Za0 (chV (cs.drop i))=if i + 1 < cs.length then Za0 (chV (cs.drop (i + 1))) ++ (List.replicate (19 - (Lib.decDigits c).length) 48 ++ Lib.decDigits c) else Lib.decDigits c:=by
 have hd:cs.drop i=c :: cs.drop (i + 1):=by
  rw [List.drop_eq_getElem_cons hi]
  rw [List.getElem?_eq_getElem hi] at hc
  simp only [Option.getD_some] at hc
  rw [hc]
 have hcl:c < 10 ^ 19:=by
  rw [List.getElem?_eq_getElem hi] at hc
  simp only [Option.getD_some] at hc
  rw [← hc]; exact hlt _ (List.getElem_mem hi)
 rw [hd]
 show Za0 (c + 10 ^ 19 * chV (cs.drop (i + 1)))=_
 by_cases h:i + 1 < cs.length
 ·rw [if_pos h,Nat.add_comm,Nat.mul_comm,Zmn (Zpq (ZnJ h ht)) 19 c hcl,ZsB (by omega) hcl]
 ·rw [if_neg h,List.drop_of_length_le (by omega)]
  show Za0 (c + 10 ^ 19 * 0)=_
  have h1:=Zpq (ZnJ hi ht)
  rw [hd,List.drop_of_length_le (by omega)] at h1
  rw [Nat.mul_zero,Nat.add_zero]
  exact ZbV (by simp [chV] at h1; omega)
end Go.Proofs.YtklpdkpcocnglaaGreatDoor

namespace Go.Proofs.YtklpdkpcocnglaaGreatDoor
open Go.RowKit
set_option maxHeartbeats 2000000 in
theorem ZnO (t:ByteArray) (v:Nat) (w:World) (hd:(bytes t).all Zat=true) (hv:Zag (bytes t)=v) (h0:t.size≠0) (hm:t.size≤1099511627776) (hb:v < 18446744073709551616) :
 Calls Tryz.prog 144 #[.string t, .int .i64 10, .int .i64 64] w fun e w'=>e=.returned (.tuple #[.int .u64 (v:Int), .nilIface])∧Ext w w':=by
 have hp:Lib.parseUint10 0 t.data.toList=.ok v:=by
  have h:=pu10 (bytes t) 0 hd (by rw [Nat.zero_mul,Nat.zero_add,hv]; exact hb)
  rw [Nat.zero_mul,Nat.zero_add,hv] at h
  exact h
 have h:=Tryz.internal_strconv_ParseUint_10_b64 t h0 (by omega) w
 rw [hp] at h
 have h2:Calls Tryz.prog 176 #[.string t, .int .i64 10, .int .i64 64] w fun e w'=>e=.returned (.tuple #[.int .u64 (v:Int), .nilIface])∧Ext w w':=by
  refine h.mono ?_
  rintro e w' ⟨rfl,rfl⟩
  exact ⟨rfl,rfl,rfl,rfl,by rw [Lib.bytesWorld_size]; omega,fun i hi _=>Lib.bytesWorld_at_old _ _ _ i hi⟩
 have H:=zh h2
 clear h h2 hp hd hv hb
 go_enter Tryz.func144,Tryz.ntmps144
 go_wp2_with fail
 refine H.out.mono ?_
 rintro e w' ⟨rfl,Q⟩
 have HE:=zh Q
 clear Q
 go_wp2
 go_ret2
 exact ⟨rfl,HE.out⟩
def Zqy (w wr:World) (T:Nat) (d:ByteArray) (A:Option Addr) (cap:Nat) (xs:List Nat):Prop :=
 Buf .u64 94 wr A cap xs∧PaR T (bytes d) xs∧Ext w wr∧∀ b,ZaF A b→w.heap.size≤b
set_option maxHeartbeats 4000000 in
theorem Zhs (d:ByteArray) (w:World) (T:Nat) (hd:(bytes d).all Zat=true) (hT:Zag (bytes d)=T) (hw:wl T≤1048576) (hl:d.size≤1099511627776) :
 Calls Tryz.prog 100 #[.string d] w (Zbj w T):=by
 have HS:=zh (PaR.start hd hT)
 clear hd hT
 have ha:=ZfN
 go_enter Tryz.func100,Tryz.ntmps100
 go_wp2
 go_loopw [0,3] (fun v0 v3 wr=>∃ (d:ByteArray) (A:Option Addr) (cap:Nat) (xs:List Nat),v0=.string d∧v3=.slice A xs.length cap∧d.size≤1099511627776∧Hid (Zqy w wr T d A cap xs)) (fun v0 _ _=>match v0 with | .string d=>d.size | _=>0)
 case atStart=>exact ⟨d,none,0,[],rfl,rfl,hl,Buf.nil,HS.out,Fr.refl _ _,fun b hb=>by obtain ⟨a,ha,_⟩:=hb; cases ha⟩
 case round =>
  obtain ⟨d,A,cap,xs,rfl,rfl,hl,hR⟩:=hrel
  by_cases hpos:0 < d.size
  ·have hlen:=hR.out.2.1.len
   obtain ⟨n,hn⟩:∃ n,d.size=n:=⟨_,rfl⟩
   obtain ⟨z,hz⟩:∃ z,(n - 1) % 19=z:=⟨_,rfl⟩
   have hz18:z≤18:=by omega
   have hzn:z + 1≤n:=by have:=Nat.mod_le (n - 1) 19; omega
   have e1:((n:Int) - 1) % 19=(z:Int):=by omega
   have hn1:(1:Int)≤(n:Int):=by omega
   have hn2:(0:Int)≤(n:Int) - 1:=by omega
   have hzI:((z:Int) + 1)≤(n:Int):=by omega
   have hzT:((z:Int) + 1).toNat=z + 1:=by omega
   have hbl:(bytes d).length=n:=by rw [Zao]; exact hn
   have hes:(d.extract 0 (z + 1)).size=z + 1:=by rw [ByteArray.size_extract]; omega
   have hbs:bytes (d.extract 0 (z + 1))=(bytes d).take (z + 1):=by rw [Zbu]; simp
   obtain ⟨c,hc⟩:∃ c,Zag ((bytes d).take (z + 1))=c:=⟨_,rfl⟩
   have hcb:=hR.out.2.1.chunk (z:=z) (by omega) (by rw [hbl]; exact hz)
   rw [hc] at hcb
   have hPU:∀ W,Calls Tryz.prog 144 #[.string (d.extract 0 (z + 1)), .int .i64 10, .int .i64 64] W fun e w'=>e=.returned (.tuple #[.int .u64 (c:Int), .nilIface])∧Ext W w':=fun W =>
    ZnO _ c W (by
     rw [hbs,List.all_eq_true]; intro x hx
     exact List.all_eq_true.1 hR.out.2.1.all _ (List.mem_of_mem_take hx)) (by rw [hbs]; exact hc) (by rw [hes]; omega) (by rw [hes]; omega) (by omega)
   have hd2:bytes (d.extract (z + 1) d.size)=(bytes d).drop (z + 1):=by
    rw [Zbu,List.take_of_length_le (by rw [List.length_drop,Zao]; exact Nat.le_refl _)]
   have hd2s:(d.extract (z + 1) d.size).size=d.size - (z + 1):=by rw [ByteArray.size_extract]; omega
   have Hd2:=zh hd2
   have Hd2s:=zh hd2s
   have HPU:=zh hPU
   have Hhz:Hid (((bytes d).length - 1) % 19=z):=by unfold Hid; rw [hbl]; exact hz
   have Hbl:Hid (0 < (bytes d).length):=by unfold Hid; omega
   have Hc:=zh hc
   have Hn:=zh hn
   clear hd2 hd2s hPU hbs hes hbl hc hz
   go_wp2_with fail
   refine (HPU.out _).mono ?_
   rintro e wB ⟨rfl,hext⟩
   have HX:=zh hext
   clear hext
   have hzd:z + 1≤d.size:=by rw [Hn.out]; exact hzn
   clear hn
   go_wp2_with fail
   have HR0:=zh hR.out.1
   have HP:=zh hR.out.2.1
   have HE0:=zh hR.out.2.2.1
   have HN0:=zh hR.out.2.2.2
   have hd2l:(d.extract (z + 1) d.size).size≤1099511627776:=by rw [Hd2s.out]; omega
   have hmeas:Hid ((d.extract (z + 1) d.size).size < d.size):=by rw [Hid,Hd2s.out]; omega
   have HStep:Hid (∀ m q,ZcA xs 10000000000000000000 c xs.length m q→PaR T (bytes (d.extract (z + 1) d.size)) (if q=0 then m else m ++ [q])):=by
    intro m q hM
    rw [Hd2.out]
    exact HP.out.step Hbl.out Hhz.out (by rw [Hc.out]; exact hM)
   generalize d.extract (z + 1) d.size=d2 at *
   have HcW:Hid (c < W64):=by unfold Hid; rw [Zam]; omega
   have HpW:Hid (10000000000000000000 < W64):=by unfold Hid; rw [Zam]; omega
   go_loopw [5,32] (fun v9 v44 wx=>∃ (k q:Nat) (m:List Nat),k≤xs.length∧v44=.int .i64 (k:Int)∧v9=.int .u64 (q:Int)∧Hid (ZcA xs 10000000000000000000 c k m q)∧Hid (Buf .u64 94 wx A cap m)∧Hid (Fr (ZaF A) wB wx)) (fun _ v _=>xs.length - (intOf v).toNat)
   case atStart=>exact ⟨0,c,xs,by omega,rfl,rfl,ZcA.start HP.out.dig HcW.out,HR0.out.ext HX.out,Fr.refl _ _⟩
   case round =>
    obtain ⟨k,q,m,hk,rfl,rfl,hM,hB,hF⟩:=hrel
    have hml:m.length=xs.length:=hM.out.1
    by_cases hlt:k < xs.length
    ·obtain ⟨b,rfl,hO,hC,hmc,hcm⟩:=hB.out.open_ (by intro e; rw [e] at hml; simp at hml; omega)
     obtain ⟨y,hy⟩:∃ y,m[k]?.getD 0=y:=⟨_,rfl⟩
     have hcell:=hO.cell (i:=k) (by omega)
     rw [hy] at hcell
     have hfrz:=hO.frozen k
     have HyW:Hid (y < W64):=hy ▸ hM.out.2.2.1.getD Zan k
     have HM2:=zh (hM.out.step hlt hy HpW.out)
     have HB2:=fun v=>Buf.set_ hO hC hmc hcm k v (by omega)
     have HBh:=zh HB2
     have HqW:=zh hM.out.2.2.2.1
     have HW:Hid (IntKind.u64.wrap ((Zbm y 10000000000000000000:Int) + (ZaV (ZaJ y 10000000000000000000) q 0:Int))=(maHi y 10000000000000000000 q:Int)):=by
      have h:=ZgO HyW.out HpW.out HqW.out
      unfold Hid maHi at *
      rw [← Int.natCast_add,ZaS _ h]
     have hblt2:=hO.lt
     have Hml:=zh hml
     clear hO hC hmc hcm hy HB2 hml
     go_wp2_with (go_at_call 145; refine (Zfh _ _ HyW.out HpW.out _).mono ?_; rintro e w' ⟨rfl,rfl⟩)
     go_roundw
     case rel=>exact ⟨k + 1,_,_,by omega,by go_num,by rw [HW.out],HM2.out,HBh.out _,hF.out.setCell (p:=⟨b,k,none⟩) (Or.inl ⟨_,rfl,rfl⟩) _⟩
     case measure=>simp [intOf]; omega
    ·obtain rfl:k=xs.length:=by omega
     have HEx:Hid (Ext w wr):=(HE0.out.trans HX.out).next hF.out (fun i hi hb=>by have:=HN0.out i hb; omega)
     by_cases hq:q=0
     ·subst hq
      have hS:=HStep.out m 0 hM.out
      rw [if_pos rfl] at hS
      have HNew:Hid (Zqy w wr T d2 A cap m):=⟨hB.out,hS,HEx.out,HN0.out⟩
      have Hml:=zh hml
      clear hS hml
      go_wp2
      go_roundw
      case rel=>exact ⟨d2,A,cap,m,rfl,by rw [Hml.out],hd2l,HNew.out⟩
      case measure=>exact hmeas.out
     ·have hq':(0:Int) < (q:Int):=by omega
      have hS:=HStep.out m q hM.out
      rw [if_neg hq] at hS
      have HNum:=zh hS
      have Hml:=zh hml
      have hSh:Hid (Zae .u64 (wr.alloc (.cells #[.int .u64 (q:Int)] 94)) (some ⟨wr.heap.size,0,none⟩) [q]):=(Own.new wr 94 .u64 [q] []).shows0
      clear hS hml hq
      go_wp2_with (at_builtin; refine Hid.out ?_)
      refine zh ?_
      refine Za6 rfl _ _ _ rfl _ .u64 8 Tryz.underlying77 Zdo A (some ⟨wr.heap.size,0,none⟩) xs.length 1 cap 1 rfl rfl m [q] Hml.out rfl (hB.out.ext ((Fr.refl _ _).alloc _)) hSh.out (by simp only [maxLen]; omega) (by omega) ?_
      intro A1 cap1 w2 hB1 hF1 hA1
      have HNew:Hid (Zqy w w2 T d2 A1 cap1 (m ++ [q])):=by
       refine ⟨hB1,HNum.out,?_,?_⟩
       ·exact (HEx.out.alloc _).next hF1 (fun i hi hb=>by have:=HN0.out i hb; omega)
       ·intro b hb
        rcases hA1 b hb with h | h
        ·exact HN0.out b h
        ·have:=HEx.out.size; simp at h; omega
      clear hB1 hF1 hA1
      go_wp2
      go_roundw
      case rel=>exact ⟨d2,A1,cap1,m ++ [q],rfl,by rw [List.length_append,Hml.out]; rfl,hd2l,HNew.out⟩
      case measure=>exact hmeas.out
  ·have h0:d.size=0:=by omega
   obtain ⟨h1,h2,h3,h4⟩:=hR.out
   have hN:Hid (Zbj w T (.returned (.slice A xs.length cap)) wr):=by
    refine ⟨_,rfl,?_,h3⟩
    have hb:bytes d=[]:=List.eq_nil_of_length_eq_zero (by rw [Zao]; exact h0)
    rw [hb] at h2
    exact ⟨A,xs,cap,rfl,h1.len,h1.shows,h2.dig,h2.trim,h2.done⟩
   clear h1 h2 h3 h4
   go_wp2
   go_ret
   exact hN.out
end Go.Proofs.YtklpdkpcocnglaaGreatDoor

namespace Go.Proofs.YtklpdkpcocnglaaGreatDoor
open Go.RowKit
def RowD (w:World) (v:Value) (m:Nat):Prop:=∃ xs,Zc0 w v xs∧Dig W32 xs∧val W32 xs=m
theorem RowD.nrb {S:Nat→Prop} {w w':World} {v:Value} {m:Nat} (h:RowD w v m) (hS:∀ i,S i→NRB w i) (hF:Fr S w w'):RowD w' v m:=by
 obtain ⟨xs,h1,h2⟩:=h
 exact ⟨xs,h1.nrb hS hF,h2⟩
theorem ZnT {w w':World} {e:Ending} {m:Nat} (h:ZdU w m e w'):Zbx Za7 (fun x w=>Zar w (Za7 x) m) w e w':=by
 obtain ⟨v,rfl,hI,Q⟩:=h
 obtain ⟨A,xs,c,rfl,h⟩:=hI
 exact ⟨(A,xs.length,c),rfl,Q,boxn Q (fun S w'' hS hF=>Zar.nrb (u:=.slice A xs.length c) ⟨A,xs,c,rfl,h⟩ hS hF)⟩
theorem ZrU {A:Option Addr} {l c m s:Nat} (w:World) (h:Zar w (.slice A l c) m) (hl:l≤1048576) (hs:s≤31) :
 Calls Tryz.prog 72 #[.slice A l c, .int .u64 (s:Int)] w (Zbx (fun b:Nat=>.slice (some ⟨b,0,none⟩) (l + 1) (l + 1)) (fun b w=>RowD w (.slice (some ⟨b,0,none⟩) (l + 1) (l + 1)) (m * 2 ^ s)) w):=by
 obtain ⟨xs,hR,hd,_,hv⟩:=h.row
 obtain ⟨x1,x2,x3⟩:=hR.shows
 refine (Zh6 A xs l c s w x1 x3 (by omega) hd hs).mono ?_
 rintro e w' ⟨us,rfl,hu,hO,hD,hV,Q⟩
 refine ⟨w.heap.size,rfl,Q,boxn Q (fun S w'' hS hF=>RowD.nrb ⟨us,?_,hD,by rw [hV,hv]⟩ hS hF)⟩
 have:=hO.row (c:=l + 1) (by omega)
 rw [hu] at this; exact this
theorem ZjL {P:Program} {o:Oper} {ρ:Operand→Value} {w:World} {x y:Operand} {t e:TypeId} (ho:o.op=.call { callee:=.builtin .append,args:=#[x,y],argTypes:=#[t,t] }) (ht:P.underlying t=some (.slice e))
 (hinfo:(P.info? e).map (fun i=>(i.zero,i.size,i.bytes))=some (some (.int .u32 0),1,4)) {b:Addr} {A:Option Addr} {n k cap c m:Nat} (hx:ρ x=.slice (some b) n cap) (hy:ρ y=.slice A k c)
 (hB:Zc0 w (.slice (some b) n cap) (List.replicate n 0)) (hX:RowD w (.slice A k c) m) (hg:cap < n + k) (h:n + k≤35184372088832) :
 Does P o ρ w (DoR (fun z:Option Addr × Nat=>.slice z.1 (n + k) z.2) (fun z w=>RowD w (.slice z.1 (n + k) z.2) (W32 ^ n * m)) w):=by
 obtain ⟨ys,hY,hd,hv⟩:=hX
 have key:∀ {w:World} {z:ShN},z.2.1=n + k→Zc0 w (Za7 z) (List.replicate n 0 ++ ys)→RowD w (.slice z.1 (n + k) z.2.2) (W32 ^ n * m):=fun {w z} e hR =>
  ⟨_,by rw [← e]; exact hR,(Dig.replicate Zau n).append hd,by rw [Zbw,ZbM,List.length_replicate,hv,Nat.zero_add]⟩
 have len:∀ {w:World} {z:ShN},Zc0 w (Za7 z) (List.replicate n 0 ++ ys)→z.2.1=n + k:=fun {w z} hR=>by
  have h1:=hR.shows.1
  have h2:=hY.shows.1
  simp at h1; omega
 rcases Zmm ho ht hinfo hx hy hB hY hg h with ⟨v,w',hr,z,rfl,Q,hb⟩ | ⟨f,args,w1,hr,hc⟩
 ·have e:=len (hb (fun _=>False) (fun _ f=>f.elim) w' (Fr.refl _ _))
  exact Or.inl ⟨_,w',hr,(z.1,z.2.2),by simp [Za7,e],Q,fun S hS w'' hf=>key e (hb S hS w'' hf)⟩
 ·exact Or.inr ⟨f,args,w1,hr,hc.mono (fun e' w' h=>by
   obtain ⟨v,rfl,z,rfl,Q,hb⟩:=h
   have e:=len (hb (fun _=>False) (fun _ f=>f.elim) w' (Fr.refl _ _))
   exact ⟨_,rfl,(z.1,z.2.2),by simp [Za7,e],Q,fun S hS w'' hf=>key e (hb S hS w'' hf)⟩)⟩
theorem Zl7 {A:Option Addr} {l c m:Nat} (w:World) (h:RowD w (.slice A l c) m) (hl:l≤1099511627776):Calls Tryz.prog 71 #[.slice A l c] w (ZdU w m):=by
 obtain ⟨xs,hR,hd,hv⟩:=h
 obtain ⟨x1,x2,x3⟩:=hR.shows
 refine (Zbs A xs l c w x1 x3 x2 (by omega)).mono ?_
 rintro e w' ⟨rfl,rfl⟩
 exact ⟨_,rfl,⟨A,ZaT xs,c,by rw [ZaX],by rw [ZaX]; exact Nat.le_trans (Zcz _ _) x2,x3.take _,Zcb hd,Zcg xs,by rw [Za8,hv]⟩,Fr.refl _ _⟩
theorem ZsM {w:World} {s:Bool} {A:Option Addr} {l c k:Nat} {z:Int} (h:Zai w (.agg #[.bool s, .slice A l c]) z):sg s (W32 ^ (k / 32) * (z.natAbs * 2 ^ (k % 32)))=z * 2 ^ k:=by
 obtain ⟨_,h2,_⟩:=h.opn
 have e:W32 ^ (k / 32) * (z.natAbs * 2 ^ (k % 32))=z.natAbs * 2 ^ k:=by
  rw [Zaq,show (4294967296:Nat)=2 ^ 32 from rfl,← Nat.pow_mul,Nat.mul_left_comm,← Nat.pow_add,Nat.div_add_mod]
 rw [e]
 have h3:(z.natAbs:Int)=z∧s=false∨(z.natAbs:Int) = -z∧s=true:=by
  cases s<;>simp [sg] at h2 ⊢<;>omega
 rcases h3 with ⟨h4,rfl⟩ | ⟨h4,rfl⟩
 ·simp only [sg,if_false,Bool.false_eq_true,Int.natCast_mul,h4,Int.natCast_pow]; rfl
 ·simp only [sg,if_true,Int.natCast_mul,h4,Int.natCast_pow]; rw [Int.neg_mul,Int.neg_neg]; rfl
theorem ZuU {k:Nat} (hk:k≤1099511627776):IntKind.i64.wrap ((k:Int).tdiv 32)=((k / 32:Nat):Int):=by
 rw [Int.tdiv_eq_ediv_of_nonneg (by omega),IntWalk.i64_in _ (by omega)]; omega
theorem ZuV {k:Nat}:(k:Int).tmod 32=((k % 32:Nat):Int):=by
 rw [Int.tmod_eq_emod_of_nonneg (by omega)]; omega
theorem ZuG {k:Nat}:IntKind.u64.wrap ((k % 32:Nat):Int)=((k % 32:Nat):Int):=by
 rw [IntKind.wrap_u64]; omega
theorem ZeA (a:Value) (x:Int) (k:Nat) (w:World) (ha:Zai w a x) (hx:ZaM x) (hk:k≤1099511627776) :
 Calls Tryz.prog 25 #[a, .int .i64 (k:Int)] w (Zba w (x * 2 ^ k)):=by
 obtain ⟨s0,A0,l0,c0,rfl⟩:=ha.shp
 have hl:l0≤1048576:=by obtain ⟨xs,hR,hd,ht,hv⟩:=ha.mag.row; have h1:=hR.shows.1; have h2:=Zby hd ht; rw [hv] at h2; unfold ZaM at hx; omega
 have hk0:decide ((k:Int) ≥ 0)=true:=decide_eq_true (by omega)
 refine Zaz (Φ:=fun w=>Zai w (.agg #[.bool s0, .slice A0 l0 c0]) (x)) Tryz.func25 rfl (by kernel_rfl) (fun w' hf=>ha.ext hf) ?_
 refine Zac (Zab (xr 2 [(1, .v (.int .i64 (k:Int))),(2, .p 2 0),(4, .p 4 0)] [bI2 4 32 false none 0 0,bI2 2 32 s0 A0 l0 c0] ?_))
 refine xe (Zaa (Zac (Zac (Zab (xr 2 [(1, .v (.int .i64 (k:Int))),(2, .p 2 0),(4, .p 4 0),(11, .v (.bool (decide ((k:Int) ≥ 0))))] [bI2 4 32 false none 0 0,bI2 2 32 s0 A0 l0 c0] ?_)))))
 rw [hk0]
 refine xr 0 [(1, .v (.int .i64 (k:Int))),(2, .p 2 0),(4, .p 4 0),(11, .v (.bool true))] [bI2 4 32 false none 0 0,bI2 2 32 s0 A0 l0 c0] ?_
 refine xe (Zaa (xa (Zac (Zab (xr 2 [(1, .v (.int .i64 (k:Int))),(2, .p 2 0),(4, .p 4 0),(13, .v (.int .i64 (IntKind.i64.wrap (((k:Int)).tdiv 32))))] [bI2 4 32 false none 0 0,bI2 2 32 s0 A0 l0 c0] ?_)))))
 rw [ZuU hk]
 refine Zd4 (d:=14) (fun b:Nat=>.slice (some ⟨b,0,none⟩) (k / 32) (k / 32)) (fun b w=>Zc0 w (.slice (some ⟨b,0,none⟩) (k / 32) (k / 32)) (List.replicate (k / 32) 0)) (by kernel_rfl) (by kernel_rfl) (by kernel_rfl) (by kernel_rfl) (by kernel_rfl) (by kernel_rfl) (fun w R Q=>Zoo (l:=.tmp 13) (c:=.tmp 13) (kl:=.i64) (kc:=.i64) (by kernel_rfl) Tryz.underlying30 ZdT (by kernel_rfl) (by kernel_rfl) (by omega)) (fun b10=>?_)
 refine xr 1 [(1, .v (.int .i64 (k:Int))),(2, .p 2 0),(4, .p 4 0),eS1 5 (some ⟨b10,0,none⟩) (k / 32) (k / 32)] [bI2 4 32 false none 0 0,bI2 2 32 s0 A0 l0 c0] ?_
 refine xe (Zaa (Zac ?_))
 refine ZaC 13 (by kernel_rfl) (by kernel_rfl) Zah ?_
 refine xf 7 [(1, .v (.int .i64 (k:Int))),(2, .p 2 0),(4, .p 4 0),(16, .v (.bool s0)),eS1 17 (some ⟨b10,0,none⟩) (k / 32) (k / 32),eS1 19 A0 l0 c0,(21, .v (.int .i64 (((k:Int)).tmod 32)))] [bI2 4 32 false none 0 0,bI2 2 32 s0 A0 l0 c0] ?_
 rw [ZuV]
 refine xf 1 [(1, .v (.int .i64 (k:Int))),(2, .p 2 0),(4, .p 4 0),(16, .v (.bool s0)),eS1 17 (some ⟨b10,0,none⟩) (k / 32) (k / 32),eS1 19 A0 l0 c0,(22, .v (.int .u64 (IntKind.u64.wrap (((k % 32:Nat):Int)))))] [bI2 4 32 false none 0 0,bI2 2 32 s0 A0 l0 c0] ?_
 rw [ZuG]
 refine xd 72 [.slice A0 l0 c0, .int .u64 ((k % 32:Nat):Int)] 23 (fun b:Nat=>.slice (some ⟨b,0,none⟩) (l0 + 1) (l0 + 1)) _ (fun w R Q=>ZrU (s:=k % 32) _ Q.1.mag hl (by omega)) (fun b11=>?_)
 refine xf 0 [(1, .v (.int .i64 (k:Int))),(2, .p 2 0),(4, .p 4 0),(16, .v (.bool s0)),eS1 17 (some ⟨b10,0,none⟩) (k / 32) (k / 32),eS1 23 (some ⟨b11,0,none⟩) (l0 + 1) (l0 + 1)] [bI2 4 32 false none 0 0,bI2 2 32 s0 A0 l0 c0] ?_
 refine Ztq 24 (fun z:Option Addr × Nat=>.slice z.1 (k / 32 + (l0 + 1)) z.2) (fun z w=>RowD w (.slice z.1 (k / 32 + (l0 + 1)) z.2) (W32 ^ (k / 32) * ((x).natAbs * 2 ^ (k % 32)))) (by kernel_rfl) (by kernel_rfl) (by kernel_rfl) (by kernel_rfl) (by kernel_rfl) (by kernel_rfl) (by kernel_rfl) (fun w R Q=>ZjL (x:=.tmp 17) (y:=.tmp 23) (by kernel_rfl) Tryz.underlying30 ZdT (by kernel_rfl) (by kernel_rfl) Q.1.2 Q.2 (by omega) (by omega)) (fun xx=>?_)
 obtain ⟨A12,c12⟩:=xx
 refine xf 0 [(1, .v (.int .i64 (k:Int))),(2, .p 2 0),(4, .p 4 0),(16, .v (.bool s0)),(24, .v (.slice A12 (k / 32 + (l0 + 1)) c12))] [bI2 4 32 false none 0 0,bI2 2 32 s0 A0 l0 c0] ?_
 refine xd 71 [.slice A12 (k / 32 + (l0 + 1)) c12] 25 Za7 _ (fun w R Q=>(Zl7 _ Q.2 (by omega)).mono (fun _ _=>ZnT)) (fun xx=>?_)
 obtain ⟨A13,l13,c13⟩:=xx
 refine xf 0 [(1, .v (.int .i64 (k:Int))),(2, .p 2 0),(4, .p 4 0),(16, .v (.bool s0)),eS1 25 A13 l13 c13] [bI2 4 32 false none 0 0,bI2 2 32 s0 A0 l0 c0] ?_
 refine xd 61 [.bool s0, .slice A13 l13 c13] 26 ZaE _ (fun w R Q=>(Zc9 _ _ (W32 ^ (k / 32) * ((x).natAbs * 2 ^ (k % 32))) _ Q.2).mono (fun _ _ h=>ZaH (by rw [ZsM Q.1.1.1.1] at h; exact h))) (fun xx=>?_)
 obtain ⟨s14,A14,l14,c14⟩:=xx
 refine xf 1 [(1, .v (.int .i64 (k:Int))),(2, .p 2 0),(4, .p 4 0)] [bI2 4 32 s14 A14 l14 c14,bI2 4 32 false none 0 0,bI2 2 32 s0 A0 l0 c0] ?_
 refine xz (xe (Zaa (Zaj (Zak ?_))))
 refine Zaf (v:=.agg #[.bool s14, .slice A14 l14 c14]) (by kernel_rfl) (fun w' R Q=>?_)
 exact ⟨_,rfl,Q.2,R⟩
end Go.Proofs.YtklpdkpcocnglaaGreatDoor
