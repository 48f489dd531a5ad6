/-
 My texts Whole, RStr, Gen put together.
-/
import Derived.Test.YtbgkofgoeoiciaaGreatDoorR14
import Derived.Test.YtbgkofgoeoiciaaGreatDoorR12
import Derived.Test.YtbgkofgoeoiciaaGreatDoorR16
import Derived.Test.YtbgkofgoeoiciaaGreatDoorR10
import Derived.Test.YtbgkofgoeoiciaaGreatDoorR11
import Derived.Test.YtbgkofgoeoiciaaGreatDoorR13
set_option maxRecDepth 100000
namespace Go.Proofs.YtbgkofgoeoiciaaGreatDoor
open Go.RowKit
theorem Zmn (n:Int) (w:World) (hg:Glob w) (h0 : -9223372036854775808≤n) (h1:n≤9223372036854775807) :
 Calls Tryz.prog 169 #[.int .i64 n, .int .i64 10] w (RetV w (.string ⟨(Lib.itoa n).toArray⟩)) :=
 (Tryz.strconv_FormatInt_10 n h0 h1 w hg.1).mono (by
  rintro e w' ⟨rfl,k,os,rfl⟩
  exact ⟨rfl,Fr.ofBelow (Lib.below_grow _ w (Nat.le_refl _) k os)⟩)
set_option maxHeartbeats 1000000 in
theorem Zn2 (n:Int) (w:World) (hg:Glob w) (h0 : -9223372036854775808≤n) (h1:n≤9223372036854775807) :
 Calls Tryz.prog 71 #[.int .i64 n] w (RetV w (.string ⟨(Lib.itoa n).toArray⟩)):=by
 have H:=zh (Zmn n w hg h0 h1)
 generalize Lib.itoa n=t at *
 clear hg
 go_enter Tryz.func71,Tryz.ntmps71
 go_wp2_with fail
 refine H.out.mono ?_
 rintro e w1 ⟨rfl,hF⟩
 have HF:=zh hF
 clear hF
 go_wp2
 go_ret
 exact ⟨rfl,HF.out⟩
def Ztp (w:World) (z:Int) (e:Ending) (w':World):Prop :=
 ∃ (z':Int) (ok:Bool),e=.returned (.tuple #[.int .i64 z', .bool ok])∧Hid (ok=true→z'=z ∧ -9223372036854775808≤z∧z≤9223372036854775807)∧Ext w w'
set_option maxHeartbeats 1000000 in
theorem Zqh (a:Value) (z:Int) (w:World) (ha:ZaC w a z):Calls Tryz.prog 198 #[a] w (Ztp w z):=by
 obtain ⟨s,A,l,c,rfl,hN,hz,h0⟩:=ha.open
 obtain ⟨A',xs,c',he,hc,hX,hd,ht,hv⟩:=hN
 injection he with e1 e2 e3
 subst e1 e2 e3
 match xs,hX,hd,ht,hv with
 | [],hX,hd,ht,hv =>
   have hz0:z=0:=by simp at hv; omega
   have HZ:Hid ((0:Int)=z ∧ -9223372036854775808≤z∧z≤9223372036854775807):=by unfold Hid; omega
   clear hX hd ht hv hz h0 hc hz0
   go_enter Tryz.func198,Tryz.ntmps198
   go_wp2
   go_ret2
   exact ⟨0,true,rfl,(fun _=>HZ.out),(Fr.refl _ _).alloc _⟩
 | [x],hX,hd,ht,hv =>
   obtain ⟨b,off,rfl,hb,hc0⟩:=hX.at (i:=0) (by simp)
   simp at hc0
   have hne:=Nat.ne_of_lt hb
   have hxv:x=z.natAbs:=by simpa using hv
   have hxW:x < 18446744073709551616:=by have:=hd x (by simp); rwa [Zao] at this
   cases s with
   | false =>
     have hzz:z=(x:Int):=by simp [sg] at hz; omega
     by_cases hle:x≤9223372036854775807
     ·have HZ:Hid ((x:Int)=z ∧ -9223372036854775808≤z∧z≤9223372036854775807):=by unfold Hid; omega
      have f1:IntKind.i64.wrap (x:Int)=(x:Int):=IntWalk.i64_in _ (by omega)
      have t1:decide ((x:Int)≤9223372036854775807)=true:=by simp; omega
      clear hX hd ht hv hz h0 hc hxv hzz hle hxW
      go_enter Tryz.func198,Tryz.ntmps198
      go_wp2
      go_ret2
      exact ⟨x,true,rfl,(fun _=>HZ.out),(Fr.refl _ _).alloc _⟩
     ·have t1:decide ((x:Int)≤9223372036854775807)=false:=by simp; omega
      clear hX hd ht hv hz h0 hc hxv hzz hle hxW
      go_enter Tryz.func198,Tryz.ntmps198
      go_wp2
      go_ret2
      exact ⟨0,false,rfl,(fun h=>by cases h),(Fr.refl _ _).alloc _⟩
   | true =>
     have hzz:z = -(x:Int):=by simp [sg] at hz; omega
     by_cases hle:x≤9223372036854775808
     ·have HZ:Hid (-(x:Int)=z ∧ -9223372036854775808≤z∧z≤9223372036854775807):=by unfold Hid; omega
      have f1:IntKind.i64.wrap (IntKind.u64.wrap (-(x:Int))) = -(x:Int):=by
       rw [IntKind.wrap_u64,IntKind.wrap_i64]; omega
      have t1:decide ((x:Int)≤9223372036854775808)=true:=by simp; omega
      clear hX hd ht hv hz h0 hc hxv hzz hle hxW
      go_enter Tryz.func198,Tryz.ntmps198
      go_wp2
      go_ret2
      exact ⟨-(x:Int),true,rfl,(fun _=>HZ.out),(Fr.refl _ _).alloc _⟩
     ·have t1:decide ((x:Int)≤9223372036854775808)=false:=by simp; omega
      clear hX hd ht hv hz h0 hc hxv hzz hle hxW
      go_enter Tryz.func198,Tryz.ntmps198
      go_wp2
      go_ret2
      exact ⟨0,false,rfl,(fun h=>by cases h),(Fr.refl _ _).alloc _⟩
 | x :: y :: ys,hX,hd,ht,hv =>
   obtain ⟨b,off,rfl,hb,hc0⟩:=hX.at (i:=0) (by simp)
   simp at hc0
   have hne:=Nat.ne_of_lt hb
   obtain ⟨k,hk⟩:∃ k,(x :: y :: ys).length=k:=⟨_,rfl⟩
   have hk2:2≤k:=by simp at hk; omega
   rw [hk]
   have t0:((k:Int) == 0)=false:=by simp; omega
   clear hX hd ht hv hz h0 hc hk
   go_enter Tryz.func198,Tryz.ntmps198
   go_wp2
   go_ret2
   exact ⟨0,false,rfl,(fun h=>by cases h),(Fr.refl _ _).alloc _⟩
set_option maxHeartbeats 1000000 in
theorem Zmo (a:Value) (q:Rat) (w:World) (hg:Glob w) (ha:Zap w a q) (h1:q.den=1) (hp:Zdf q.num.natAbs) :
 Calls Tryz.prog 107 #[a] w (RetV w (.string ⟨(Lib.itoa q.num).toArray⟩)):=by
 obtain ⟨s,t,A,B,l,c,l',c',rfl,hn,hd⟩:=ha
 rw [Zf4.2 h1] at hd
 generalize q.num=z at *
 have HN:=zh hn
 have HD:=zh hd
 have HG:=zh hg
 have HP:=zh hp
 clear hn hd h1 hg hp
 go_enter Tryz.func107,Tryz.ntmps107
 go_wp2_with fail
 generalize hwb:World.alloc w _=wb
 obtain ⟨hB0,hE0⟩:=Blk.one hwb
 clear hwb
 refine (ZaS _ 0 _ (HD.out.ext hE0)).mono ?_
 rw [decide_eq_true rfl]
 rintro e w1 ⟨rfl,hF1⟩
 have HB1:=zh (hB0.ext hF1)
 have HE1:=zh (hE0.trans hF1)
 obtain ⟨x0,x1,x2,x3,_⟩:=(hB0.ext hF1).cell4
 clear hB0 hE0 hF1
 go_wp2_with fail
 refine (Zqh _ z _ (HN.out.ext HE1.out)).mono ?_
 rintro e w2 ⟨z',ok,rfl,hR,hF2⟩
 have HB2:=zh (HB1.out.ext hF2)
 have HE2:=zh (HE1.out.trans hF2)
 obtain ⟨y0,y1,y2,y3,_⟩:=(HB1.out.ext hF2).cell4
 clear hF2 x0 x1 x2 x3 HB1 HE1
 cases ok with
 | true =>
   obtain ⟨rfl,r1,r2⟩:=hR.out rfl
   have HC:=zh (Zn2 z' w2 (HG.out.ext HE2.out) r1 r2)
   generalize Lib.itoa z'=txt at *
   clear r1 r2
   go_wp2_with fail
   refine HC.out.mono ?_
   rintro e w3 ⟨rfl,hF3⟩
   have HE3:=zh (HE2.out.trans hF3)
   clear hF3
   go_wp2
   go_ret
   exact ⟨rfl,HE3.out⟩
 | false =>
   have HC:=zh (Zpq _ z w2 (HG.out.ext HE2.out) (HN.out.ext HE2.out) HP.out)
   generalize Lib.itoa z=txt at *
   clear hR
   go_wp2_with fail
   refine HC.out.mono ?_
   rintro e w3 ⟨rfl,hF3⟩
   have HE3:=zh (HE2.out.trans hF3)
   clear hF3
   go_wp2
   go_ret
   exact ⟨rfl,HE3.out⟩
end Go.Proofs.YtbgkofgoeoiciaaGreatDoor

namespace Go.Proofs.YtbgkofgoeoiciaaGreatDoor
open Go.RowKit
def Zad (q:Rat):List UInt8:=if q.den=1 then Lib.itoa q.num else Lib.itoa q.num ++ [47] ++ Lib.itoa (q.den:Int)
set_option maxHeartbeats 2000000 in
theorem Zm4 (a:Value) (q:Rat) (w:World) (hg:Glob w) (ha:Zap w a q) (hn:Zdf q.num.natAbs) (hd:Zdf q.den) (h1:q.den≠1) (hl:(Lib.itoa q.num).length≤68719476736):Calls Tryz.prog 107 #[a] w (RetV w (.string ⟨(Zad q).toArray⟩)):=by
 obtain ⟨s,t,A,B,l,c,l',c',rfl,hIn,hId⟩:=ha
 have hdf:denF q=(q.den:Int):=by unfold denF; rw [if_neg h1]
 have hd0:¬ denF q=0:=fun h=>h1 (Zf4.1 h)
 have HM:Hid (Zad q=Lib.itoa q.num ++ [47] ++ Lib.itoa (q.den:Int)):=by unfold Hid Zad; rw [if_neg h1]
 rw [hdf] at hId
 have HIn:=zh hIn
 have HId:=zh hId
 have HG:=zh hg
 have HPn:=zh hn
 have HPd:Hid (Zdf ((q.den:Int)).natAbs):=by unfold Hid; rw [Int.natAbs_natCast]; exact hd
 have hne:=ZoH (q.den:Int)
 rw [hdf] at hd0
 generalize hm:Zad q=m at *
 have hmne:m≠[]:=by rw [HM.out]; simp
 generalize q.num=x at *
 generalize (q.den:Int)=y at *
 clear hg hn hd h1 hIn hId hdf hm hne
 go_enter Tryz.func107,Tryz.ntmps107
 go_wp2_with fail
 generalize hwb:World.alloc w _=wb
 obtain ⟨hB0,hE0⟩:=Blk.one hwb
 clear hwb
 refine (ZaS _ y _ (HId.out.ext hE0)).mono ?_
 rw [decide_eq_false hd0]
 rintro e w1 ⟨rfl,hF1⟩
 have HB1:=zh (hB0.ext hF1)
 have HE1:=zh (hE0.trans hF1)
 obtain ⟨x0,x1,x2,x3,_,_,_,_⟩:=HB1.out.cell4
 clear hB0 hE0 hF1 hd0
 go_wp2_with fail
 refine (ZgX _ x none 0 0 [] w1 _ (Fr.refl _ _) (HG.out.ext HE1.out) (HIn.out.ext HE1.out) HPn.out rfl Buf.nil Zcr.nil (by omega)).mono ?_
 rw [List.nil_append]
 rintro e w2 ⟨A2,cap2,rfl,hT2,hF2,hA2⟩
 have hN2:Zcr w1 A2:=(Zcr.nil (w0:=w1)).next (Fr.refl _ _) hA2
 have hE2:Ext w1 w2:=(Zcr.nil (w0:=w1)).ext (Fr.refl _ _) hF2
 have HT2:=zh hT2
 have HN2:=zh hN2
 have HE2:=zh hE2
 clear hT2 hF2 hA2 hN2 hE2 x0 x1 x2 x3
 obtain ⟨n,hnl⟩:∃ n,(Lib.itoa x).length=n:=⟨_,rfl⟩
 rw [hnl] at hl ⊢
 have HNL:=zh hnl
 clear hnl
 have HS:Hid (Zar .u8 (w2.alloc (.cells #[.int .u8 47] 5)) (some ⟨w2.heap.size,0,none⟩) (nats [47])):=(Own.new w2 5 .u8 [47] []).shows0
 go_wp2_with (at_builtin; refine Hid.out ?_)
 refine zh ?_
 refine ZaF rfl _ _ _ rfl _ .u8 1 Tryz.underlying223 Zdu A2 (some ⟨w2.heap.size,0,none⟩) n 1 cap2 1 rfl rfl (nats (Lib.itoa x)) (nats [47]) (by rw [Za4]; exact HNL.out) rfl (HT2.out.ext ((Fr.refl _ _).alloc _)) HS.out (by simp only [maxLen]; omega) (by omega) ?_
 intro A3 cap3 w3 hB3 hF3 hA3
 have hE3:Ext w1 w3:=HN2.out.ext (HE2.out.alloc _) hF3
 have hN3:Zcr w1 A3:=HN2.out.next (w:=w2) HE2.out (fun b hb=>(hA3 b hb).imp id (fun h=>by simp at h; omega))
 have hT3:TBuf w3 A3 cap3 (Lib.itoa x ++ [47]):=by show Buf _ _ _ _ _ (nats (Lib.itoa x ++ [47])); rw [ZcT]; exact hB3
 have HT3:=zh hT3
 have HN3:=zh hN3
 have HE3:=zh hE3
 have HB3:=zh (HB1.out.ext hE3)
 obtain ⟨x0,x1,x2,x3,_,_,_,_⟩:=HB3.out.cell4
 clear hB3 hF3 hA3 hE3 hN3 hT3
 go_wp2_with fail
 refine (ZgX _ y A3 cap3 (n + 1) (Lib.itoa x ++ [47]) w1 _ HE3.out (HG.out.ext HE1.out) (HId.out.ext HE1.out) HPd.out (by rw [List.length_append,HNL.out]; rfl) HT3.out HN3.out (by omega)).mono ?_
 rw [← HM.out]
 rintro e w4 ⟨A4,cap4,rfl,hT4,hF4,hA4⟩
 have HE4:Hid (Ext w w4):=HE1.out.trans (HN3.out.ext HE3.out hF4)
 obtain ⟨b,rfl,hc⟩:=TBuf.bytes hT4 hmne
 have hcv:=run_convert_bytes_back (P:=Tryz.prog) w4 223 9 5 ⟨b,0,none⟩ cap4 m Tryz.underlying223 Tryz.underlying5 Tryz.underlying9 hc
 clear hT4 hF4 hA4 hc hmne x0 x1 x2 x3
 go_wp2
 go_ret
 exact ⟨rfl,HE4.out⟩
end Go.Proofs.YtbgkofgoeoiciaaGreatDoor

namespace Go.Proofs.YtbgkofgoeoiciaaGreatDoor
open Go.RowKit
theorem Zal:Tryz.prog.follows .mixedOrders=true:=by kernel_rfl
def Zkf (cs:Array Value):Prop:=∀ (i:Nat) (k:IntKind) (z:Int),cs[i]? = some (.int k z)→k=.i64
theorem Zbw {s:Bool} {A:Option Addr} {l c:Nat}:Zkf #[.bool s, .slice A l c]:=by
 intro i k z; rcases i with _ | _ | i<;>simp
theorem Zar.other {k:IntKind} {t:TypeId} {w w':World} {r:Nat} {A:Option Addr} {xs:List Nat} {cs:Array Value} (h:Zar k w A xs) (hk:k≠.i64) (hB:Blk t w r cs) (hc:Zkf cs) (hF:Fr (fun i=>i=r) w w'):Zar k w' A xs:=by
 cases xs with
 | nil=>exact Zar.nil
 | cons x xs =>
   refine h.fr hF (fun ad hA hlt e=>?_)
   obtain ⟨g,off,e',_,hcl⟩:=h.at (i:=0) (by simp)
   rw [e'] at hA
   injection hA with hA
   subst hA
   simp at e
   subst e
   rw [hB.cell] at hcl
   exact hk (hc _ _ _ hcl)
theorem Zas.oth {t:TypeId} {w w':World} {r n:Nat} {u:Value} {cs:Array Value} (h:Zas w u n) (hB:Blk t w r cs) (hc:Zkf cs) (hF:Fr (fun i=>i=r) w w'):Zas w' u n:=by
 obtain ⟨A',xs,c',h1,h2,h3,h4⟩:=h
 exact ⟨A',xs,c',h1,h2,h3.other (by decide) hB hc hF,h4⟩
theorem Zax.oth {t:TypeId} {w w':World} {r:Nat} {v:Value} {z:Int} {cs:Array Value} (h:Zax w v z) (hB:Blk t w r cs) (hc:Zkf cs) (hF:Fr (fun i=>i=r) w w'):Zax w' v z:=by
 obtain ⟨s',u,n,h1,h2,h3⟩:=h
 exact ⟨s',u,n,h1,h2.oth hB hc hF,h3⟩
theorem Zax.shp {w:World} {v:Value} {z:Int} (h:Zax w v z):∃ (s:Bool) (A:Option Addr) (l c:Nat),v=.agg #[.bool s, .slice A l c]:=by
 obtain ⟨s,A,l,c,h,_⟩:=h.open
 exact ⟨s,A,l,c,h⟩
theorem ZaC.shp {w:World} {v:Value} {z:Int} (h:ZaC w v z):∃ (s:Bool) (A:Option Addr) (l c:Nat),v=.agg #[.bool s, .slice A l c]:=h.shape
theorem Zax.nil (w:World):Zax w (.agg #[.bool false, .slice none 0 0]) 0:=⟨false,_,0,rfl,Zas.zero w,fun _=>rfl,rfl⟩
theorem ZaC.nil (w:World):ZaC w (.agg #[.bool false, .slice none 0 0]) 0:=ZaC.zero w
theorem Zap.nil (w:World):Zap w (.agg #[.bool false, .slice none 0 0, .bool false, .slice none 0 0]) 0:=Zap.zero w
theorem Zap.shp {w:World} {v:Value} {q:Rat} (h:Zap w v q):∃ (s:Bool) (A:Option Addr) (l c:Nat) (t:Bool) (B:Option Addr) (l' c':Nat),v=.agg #[.bool s, .slice A l c, .bool t, .slice B l' c']:=by
 obtain ⟨s,t,A,B,l,c,l',c',h,_⟩:=h
 exact ⟨s,A,l,c,t,B,l',c',h⟩
theorem Zg5 {a b c d a' b' c' d':Value} (h:Value.agg #[a,b,c,d]=.agg #[a',b',c',d']):a=a'∧b=b'∧c=c'∧d=d':=by
 injection h with h
 simpa using h
theorem Zap.num {w:World} {a b c d:Value} {q:Rat} (h:Zap w (.agg #[a,b,c,d]) q):ZaC w (.agg #[a,b]) q.num:=by
 obtain ⟨s,t,A,B,l,c,l',c',h,h1,h2⟩:=h
 obtain ⟨rfl,rfl,rfl,rfl⟩:=Zg5 h
 exact h1
theorem Zap.den {w:World} {a b c d:Value} {q:Rat} (h:Zap w (.agg #[a,b,c,d]) q):ZaC w (.agg #[c,d]) (denF q):=by
 obtain ⟨s,t,A,B,l,c,l',c',h,h1,h2⟩:=h
 obtain ⟨rfl,rfl,rfl,rfl⟩:=Zg5 h
 exact h2
theorem Zap.of {w:World} {s t:Bool} {A B:Option Addr} {l c l' c':Nat} {q:Rat} (h1:ZaC w (.agg #[.bool s, .slice A l c]) q.num) (h2:ZaC w (.agg #[.bool t, .slice B l' c']) (denF q)):Zap w (.agg #[.bool s, .slice A l c, .bool t, .slice B l' c']) q :=
 ⟨_,_,_,_,_,_,_,_,rfl,h1,h2⟩
def Zai (w:World) (v:Value) (q:Rat):Prop:=∃ (s t:Bool) (A B:Option Addr) (l c l' c':Nat),v=.agg #[.bool s, .slice A l c, .bool t, .slice B l' c']∧Zax w (.agg #[.bool s, .slice A l c]) q.num∧Zax w (.agg #[.bool t, .slice B l' c']) (denF q)
theorem Zai.ext {w w':World} {v:Value} {q:Rat} (h:Zai w v q) (hf:Ext w w'):Zai w' v q:=by
 obtain ⟨s,t,A,B,l,c,l',c',h1,h2,h3⟩:=h
 exact ⟨s,t,A,B,l,c,l',c',h1,h2.ext hf,h3.ext hf⟩
theorem Zai.oth {t:TypeId} {w w':World} {r:Nat} {v:Value} {q:Rat} {cs:Array Value} (h:Zai w v q) (hB:Blk t w r cs) (hc:Zkf cs) (hF:Fr (fun i=>i=r) w w'):Zai w' v q:=by
 obtain ⟨s,t,A,B,l,c,l',c',h1,h2,h3⟩:=h
 exact ⟨s,t,A,B,l,c,l',c',h1,h2.oth hB hc hF,h3.oth hB hc hF⟩
theorem Zai.shp {w:World} {v:Value} {q:Rat} (h:Zai w v q):∃ (s:Bool) (A:Option Addr) (l c:Nat) (t:Bool) (B:Option Addr) (l' c':Nat),v=.agg #[.bool s, .slice A l c, .bool t, .slice B l' c']:=by
 obtain ⟨s,t,A,B,l,c,l',c',h,_⟩:=h
 exact ⟨s,A,l,c,t,B,l',c',h⟩
theorem Zai.num {w:World} {a b c d:Value} {q:Rat} (h:Zai w (.agg #[a,b,c,d]) q):Zax w (.agg #[a,b]) q.num:=by
 obtain ⟨s,t,A,B,l,c,l',c',h,h1,h2⟩:=h
 obtain ⟨rfl,rfl,rfl,rfl⟩:=Zg5 h
 exact h1
theorem Zai.den {w:World} {a b c d:Value} {q:Rat} (h:Zai w (.agg #[a,b,c,d]) q):Zax w (.agg #[c,d]) (denF q):=by
 obtain ⟨s,t,A,B,l,c,l',c',h,h1,h2⟩:=h
 obtain ⟨rfl,rfl,rfl,rfl⟩:=Zg5 h
 exact h2
theorem Zai.of {w:World} {s t:Bool} {A B:Option Addr} {l c l' c':Nat} {q:Rat} (h1:Zax w (.agg #[.bool s, .slice A l c]) q.num) (h2:Zax w (.agg #[.bool t, .slice B l' c']) (denF q)):Zai w (.agg #[.bool s, .slice A l c, .bool t, .slice B l' c']) q :=
 ⟨_,_,_,_,_,_,_,_,rfl,h1,h2⟩
def ZbF (w:World) (q:Rat) (e:Ending) (w':World):Prop:=∃ v,e=.returned v∧Zai w' v q∧Ext w w'
theorem Zai.nil (w:World):Zai w (.agg #[.bool false, .slice none 0 0, .bool false, .slice none 0 0]) 0:=⟨_,_,_,_,_,_,_,_,rfl,Zax.nil w,Zax.nil w⟩
theorem ZcJ {t0:TypeId} {w wb:World} {c0:Array Value} (h:w.alloc (.cells c0 t0)=wb):Blk t0 wb w.heap.size c0∧Ext w wb:=by
 subst h; exact ⟨Blk.new _ _ _,(Fr.refl _ _).alloc _⟩
theorem Ziz {t0 t1:TypeId} {w wb:World} {c0 c1:Array Value} (h:(w.alloc (.cells c0 t0)).alloc (.cells c1 t1)=wb):Blk t0 wb w.heap.size c0∧Blk t1 wb (w.heap.size + 1) c1∧Ext w wb:=by
 obtain ⟨b0,e0⟩:=ZcJ (w:=w) (c0:=c0) (t0:=t0) rfl
 have e:(w.alloc (.cells c0 t0)).heap.size=w.heap.size + 1:=by simp
 obtain ⟨b1,e1⟩:=ZcJ h
 rw [e] at b1
 exact ⟨b0.ext e1,b1,e0.trans e1⟩
theorem ZoK {t0 t1 t2:TypeId} {w wb:World} {c0 c1 c2:Array Value} (h:((w.alloc (.cells c0 t0)).alloc (.cells c1 t1)).alloc (.cells c2 t2)=wb):Blk t0 wb w.heap.size c0∧Blk t1 wb (w.heap.size + 1) c1∧Blk t2 wb (w.heap.size + 1 + 1) c2∧Ext w wb:=by
 obtain ⟨b0,b1,e0⟩:=Ziz (w:=w) (c0:=c0) (t0:=t0) (c1:=c1) (t1:=t1) rfl
 have e:((w.alloc (.cells c0 t0)).alloc (.cells c1 t1)).heap.size=w.heap.size + 1 + 1:=by simp
 obtain ⟨b2,e2⟩:=ZcJ h
 rw [e] at b2
 exact ⟨b0.ext e2,b1.ext e2,b2,e0.trans e2⟩
theorem ZsR {t0 t1 t2 t3:TypeId} {w wb:World} {c0 c1 c2 c3:Array Value} (h:(((w.alloc (.cells c0 t0)).alloc (.cells c1 t1)).alloc (.cells c2 t2)).alloc (.cells c3 t3)=wb):Blk t0 wb w.heap.size c0∧Blk t1 wb (w.heap.size + 1) c1∧Blk t2 wb (w.heap.size + 1 + 1) c2∧Blk t3 wb (w.heap.size + 1 + 1 + 1) c3∧Ext w wb:=by
 obtain ⟨b0,b1,b2,e0⟩:=ZoK (w:=w) (c0:=c0) (t0:=t0) (c1:=c1) (t1:=t1) (c2:=c2) (t2:=t2) rfl
 have e:(((w.alloc (.cells c0 t0)).alloc (.cells c1 t1)).alloc (.cells c2 t2)).heap.size=w.heap.size + 1 + 1 + 1:=by simp
 obtain ⟨b3,e3⟩:=ZcJ h
 rw [e] at b3
 exact ⟨b0.ext e3,b1.ext e3,b2.ext e3,b3,e0.trans e3⟩
theorem Blk.one' {t:TypeId} {w:World} {g:Nat} {cs:Array Value} {x:Value} (h:Blk t w g cs) (o:Nat) (hx:cs[o]? = some x):w.cell? ⟨g,o,none⟩=some x:=(h.cell o).trans hx
section
variable {ops:Array Oper} {S:World→Prop} {o:Oper} {a:Act} {p:Operand} {g off:Nat} {x y z u v:Value}
theorem ym (hw:Region.wanted o (yielded ops a.tmps)=true) (ho:o.op=Op.move p) (hp:a.eval p=v):YieldsIf Tryz.prog ops S o v a :=
 Or.inl ⟨hw,fun w _=>by simp only [execOp,ho,hp]; simp [go_sem]⟩
theorem Zk4 (hw:Region.wanted o (yielded ops a.tmps)=true) (ho:o.op=Op.load 4 p) (hp:a.eval p=.pointer (some ⟨g,off,none⟩)) (hc:∀ w,S w→w.cell? ⟨g,off,none⟩=some x):YieldsIf Tryz.prog ops S o x a :=
 Or.inl ⟨hw,fun w hS=>by
  have h0:=hc w hS
  simp only [execOp,ho,hp]
  simp [go_sem,h0]⟩
theorem Zg6 (hw:Region.wanted o (yielded ops a.tmps)=true) (ho:o.op=Op.fieldAddr 34 p 0) (hp:a.eval p=.pointer (some ⟨g,off,none⟩)):YieldsIf Tryz.prog ops S o (.pointer (some ⟨g,off,none⟩)) a :=
 Or.inl ⟨hw,fun w _=>by simp only [execOp,ho,hp]; simp [go_sem]⟩
theorem ZrJ {b c:Bool} {q:Operand} (hw:Region.wanted o (yielded ops a.tmps)=true) (ho:o.op=Op.binOp .neq 4 p q 4) (hp:a.eval p=.bool b) (hq:a.eval q=.bool c):YieldsIf Tryz.prog ops S o (.bool (b != c)) a :=
 Or.inl ⟨hw,fun w _=>by simp only [execOp,ho,hp,hq]; simp [go_sem]; cases b<;>cases c<;>rfl⟩
end
end Go.Proofs.YtbgkofgoeoiciaaGreatDoor
