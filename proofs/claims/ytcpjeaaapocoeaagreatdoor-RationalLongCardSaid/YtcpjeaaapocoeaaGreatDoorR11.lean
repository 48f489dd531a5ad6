/-
 My texts Gcd1, Gcd2, Int4, Int5, Print0, Smp, Smp2, Split, Res put together.
-/
import Derived.Test.YtcpjeaaapocoeaaGreatDoorR10
import Derived.Test.YtcpjeaaapocoeaaGreatDoorR08
import Derived.Test.YtcpjeaaapocoeaaGreatDoorR05
import Derived.Test.YtcpjeaaapocoeaaGreatDoorR07
import Derived.Deep.LoopGhost
import Derived.Laws.IdiomStrings
import Derived.Deep.RegionWith
import Derived.Test.YtcpjeaaapocoeaaGreatDoorR03
import Derived.Deep.QuietTactic
import Derived.BigQuiet
import Derived.Outline
import Derived.Lib.Strings
import Derived.RegionTactic
import Derived.BigRegion
import Derived.Test.YtcpjeaaapocoeaaGreatDoorR02
import Derived.Laws.BitsAllLaws
set_option maxRecDepth 100000
namespace Go.Proofs.YtcpjeaaapocoeaaGreatDoor
open Go.RowKit
set_option maxHeartbeats 4000000 in
theorem Zls (u v:Value) (m n g:Nat) (w:World) (hg:Glob w) (hu:Zad w u m) (hv:Zad w v n) (hm:wl m≤4294967296) (hn:n < W64) (h0:0 < n) (hle:n≤m) (eg:Nat.gcd m n=g) :
 Calls Tryz.prog 229 #[u,v] w (Za0 w g):=by
 obtain ⟨A,xs,c,rfl,hc,h1,h2,h3,h4⟩:=hu
 obtain ⟨A2,ys,c2,rfl,hc2,k1,k2,k3,k4⟩:=hv
 have hlx:=ZaE h2 h3
 have hly:=ZaE k2 k3
 rw [h4] at hlx
 rw [k4] at hly
 have hl1:ys.length=1:=by
  have:=ZcN.2 hn
  have:=Zeq h0
  omega
 obtain ⟨y,rfl⟩:∃ y,ys=[y]:=by match ys,hl1 with | [y],_=>exact ⟨y,rfl⟩
 simp at k4
 subst k4
 have HU:Hid (Zad w (.slice A xs.length c) m):=⟨A,xs,c,rfl,hc,h1,h2,h3,h4⟩
 have HV:Hid (Zad w (.slice A2 1 c2) y):=⟨A2,[y],c2,rfl,hc2,k1,k2,k3,by simp⟩
 have HX:=zh h1
 have HY:=zh k1
 have Hm:Hid (wl m≤4294967296∧xs.length≤4294967296):=⟨hm,by omega⟩
 have Hn:=zh hn
 have Hle:=zh hle
 have Hy0:=zh h0
 have Hdx:=zh h2
 have Hval:=zh h4
 have Heg:=zh eg
 have HG:=zh hg
 clear hm hn hle h1 k1 k2 k3 h3 h2 hc hc2 hlx hly hl1 h4 eg hg h0
 go_enter Tryz.func229,Tryz.ntmps229
 go_wp2_with fail
 refine (Zbn _ _ m y w HU.out HV.out Hm.out.1 (by have:=ZcN.2 Hn.out; omega)).mono ?_
 rintro e w' ⟨rfl,nd,hw'⟩
 obtain ⟨q,hq⟩:∃ q,cmpI m y=q:=⟨_,rfl⟩
 have hq0:(0:Int)≤q:=by rw [← hq]; exact Zdo Hle.out
 have hq1:decide (q < 0)=false:=by simp; omega
 rw [hq]
 have HE0:Hid (Ext w w'):=hw' ▸ (Fr.refl _ w).drewN nd
 clear hq hw' hq0
 go_wp2_with fail
 refine (ZbB A xs _ c w' rfl (HX.out.ext HE0.out) Hm.out.2).mono ?_
 rintro e w1 ⟨A1,cap1,rfl,hB1,hF1,hA1⟩
 have HS1:Hid (Zai .u64 w1 A1 xs):=hB1.shows
 have HE1:Hid (Ext w w1):=HE0.out.trans hF1
 clear hB1 hF1 hA1
 go_wp2_with fail
 refine (ZbB A2 [y] 1 c2 w1 rfl (HY.out.ext HE1.out) (by omega)).mono ?_
 rintro e w2 ⟨A3,cap3,rfl,hB3,hF3,hA3⟩
 have hy3:Hid (Zai .u64 w2 A3 [y]):=hB3.shows
 obtain ⟨b3,o3,rfl,hb3,hc3⟩:=hy3.out.at (i:=0) (by simp)
 simp at hc3
 have HS2:Hid (Zai .u64 w2 A1 xs):=HS1.out.ext hF3
 have HE2:Hid (Ext w w2):=HE1.out.trans hF3
 have hb3:=zh hb3
 clear hB3 hF3 hA3 hy3 HS1
 obtain ⟨x,ex⟩:∃ x,xs.length=x:=⟨_,rfl⟩
 rw [ex]
 go_wp2_with fail
 obtain ⟨r,er⟩:∃ r,m % y=r:=⟨_,rfl⟩
 go_loopw [5,6] (fun av bv wr=>av=.slice A1 x cap1∧bv=.slice (some ⟨b3,o3,none⟩) 1 cap3∧wr=w2) (fun _ _ _=>0)
 case atStart=>exact ⟨rfl,rfl,rfl⟩
 case round =>
  obtain ⟨rfl,rfl,rfl⟩:=hrel
  go_wp2_with fail
  have HC3:Hid (wr.cell? ⟨b3,o3,none⟩=some (.int .u64 (y:Int))):=hc3
  have hb3':Hid (b3 < wr.heap.size):=hb3.out
  have hzz:Hid (r < W64∧Nat.gcd y r=g∧g < W64):=by
   have h1:=Nat.mod_lt m Hy0.out
   have h2:=Hn.out
   have h3:=Nat.gcd_le_right m Hy0.out
   rw [Heg.out] at h3
   refine ⟨by omega,?_,by omega⟩
   rw [← er,← Heg.out,Nat.gcd_comm y,← Nat.gcd_rec,Nat.gcd_comm]
  go_region_held3 (fun w'=>w'.cell? ⟨b3,o3,none⟩=some (.int .u64 (y:Int)))
   (first | exact HC3.out | exact (Fr.cell (p:=⟨b3,o3,none⟩) (Fr.undrew hFF) hb3'.out (fun f=>f)).trans HC3.out)
   (first
    | (go_at_call 312
       refine (ZcA A1 xs x cap1 y _ ex HS2.out.drew (by have:=Hm.out.2; omega) Hdx.out Hy0.out Hn.out).mono ?_
       rintro e w4 ⟨rfl,nd4,hw4⟩
       rw [Hval.out,er]
       have hFF:Ext wr.drew w4:=hw4 ▸ (Fr.refl _ wr.drew).drewN nd4
       clear hw4)
    | (go_at_call 311
       refine (Zee y r g _ (HG.out.ext (HE2.out.trans (Fr.undrew hFF))) Hn.out hzz.out.1 hzz.out.2.1).mono ?_
       rintro e w5 ⟨rfl,rfl⟩)
    | (go_at_call 116
       refine (Zc4 g _ hzz.out.2.2).mono ?_
       rintro e w6 ⟨v6,rfl,hN6,hF6⟩
       replace hFF:Ext wr.drew w6:=hFF.trans hF6))
  go_wp2
  go_ret
  exact ⟨_,rfl,hN6,HE2.out.trans (Fr.undrew hFF)⟩
set_option maxHeartbeats 4000000 in
theorem Zlt (u v:Value) (m n g:Nat) (w:World) (hg:Glob w) (hu:Zad w u m) (hv:Zad w v n) (hm:wl m≤4294967296) (hn:n < W64) (h0:0 < n) (hle:n < m) (eg:Nat.gcd m n=g) :
 Calls Tryz.prog 229 #[v,u] w (Za0 w g):=by
 obtain ⟨A,xs,c,rfl,hc,h1,h2,h3,h4⟩:=hu
 obtain ⟨A2,ys,c2,rfl,hc2,k1,k2,k3,k4⟩:=hv
 have hlx:=ZaE h2 h3
 have hly:=ZaE k2 k3
 rw [h4] at hlx
 rw [k4] at hly
 have hl1:ys.length=1:=by
  have:=ZcN.2 hn
  have:=Zeq h0
  omega
 obtain ⟨y,rfl⟩:∃ y,ys=[y]:=by match ys,hl1 with | [y],_=>exact ⟨y,rfl⟩
 simp at k4
 subst k4
 have HU:Hid (Zad w (.slice A xs.length c) m):=⟨A,xs,c,rfl,hc,h1,h2,h3,h4⟩
 have HV:Hid (Zad w (.slice A2 1 c2) y):=⟨A2,[y],c2,rfl,hc2,k1,k2,k3,by simp⟩
 have HX:=zh h1
 have HY:=zh k1
 have Hm:Hid (wl m≤4294967296∧xs.length≤4294967296):=⟨hm,by omega⟩
 have Hn:=zh hn
 have Hle:=zh hle
 have Hy0:=zh h0
 have Hdx:=zh h2
 have Hval:=zh h4
 have Heg:=zh eg
 have HG:=zh hg
 clear hm hn hle h1 k1 k2 k3 h3 h2 hc hc2 hlx hly hl1 h4 eg hg h0
 go_enter Tryz.func229,Tryz.ntmps229
 go_wp2_with fail
 refine (Zbn _ _ y m w HV.out HU.out (by have:=ZcN.2 Hn.out; omega) Hm.out.1).mono ?_
 rintro e w' ⟨rfl,nd,hw'⟩
 obtain ⟨q,hq⟩:∃ q,cmpI y m=q:=⟨_,rfl⟩
 have hq0:q < 0:=by rw [← hq]; exact ZcK.2 Hle.out
 have hq1:decide (q < 0)=true:=by simp; omega
 rw [hq]
 have HE0:Hid (Ext w w'):=hw' ▸ (Fr.refl _ w).drewN nd
 clear hq hw' hq0
 go_wp2_with fail
 refine (ZbB A xs _ c w' rfl (HX.out.ext HE0.out) Hm.out.2).mono ?_
 rintro e w1 ⟨A1,cap1,rfl,hB1,hF1,hA1⟩
 have HS1:Hid (Zai .u64 w1 A1 xs):=hB1.shows
 have HE1:Hid (Ext w w1):=HE0.out.trans hF1
 clear hB1 hF1 hA1
 go_wp2_with fail
 refine (ZbB A2 [y] 1 c2 w1 rfl (HY.out.ext HE1.out) (by omega)).mono ?_
 rintro e w2 ⟨A3,cap3,rfl,hB3,hF3,hA3⟩
 have hy3:Hid (Zai .u64 w2 A3 [y]):=hB3.shows
 obtain ⟨b3,o3,rfl,hb3,hc3⟩:=hy3.out.at (i:=0) (by simp)
 simp at hc3
 have HS2:Hid (Zai .u64 w2 A1 xs):=HS1.out.ext hF3
 have HE2:Hid (Ext w w2):=HE1.out.trans hF3
 have hb3:=zh hb3
 clear hB3 hF3 hA3 hy3 HS1
 obtain ⟨x,ex⟩:∃ x,xs.length=x:=⟨_,rfl⟩
 rw [ex]
 go_wp2_with fail
 obtain ⟨r,er⟩:∃ r,m % y=r:=⟨_,rfl⟩
 go_loopw [5,6] (fun av bv wr=>av=.slice A1 x cap1∧bv=.slice (some ⟨b3,o3,none⟩) 1 cap3∧wr=w2) (fun _ _ _=>0)
 case atStart=>exact ⟨rfl,rfl,rfl⟩
 case round =>
  obtain ⟨rfl,rfl,rfl⟩:=hrel
  go_wp2_with fail
  have HC3:Hid (wr.cell? ⟨b3,o3,none⟩=some (.int .u64 (y:Int))):=hc3
  have hb3':Hid (b3 < wr.heap.size):=hb3.out
  have hzz:Hid (r < W64∧Nat.gcd y r=g∧g < W64):=by
   have h1:=Nat.mod_lt m Hy0.out
   have h2:=Hn.out
   have h3:=Nat.gcd_le_right m Hy0.out
   rw [Heg.out] at h3
   refine ⟨by omega,?_,by omega⟩
   rw [← er,← Heg.out,Nat.gcd_comm y,← Nat.gcd_rec,Nat.gcd_comm]
  go_region_held3 (fun w'=>w'.cell? ⟨b3,o3,none⟩=some (.int .u64 (y:Int)))
   (first | exact HC3.out | exact (Fr.cell (p:=⟨b3,o3,none⟩) (Fr.undrew hFF) hb3'.out (fun f=>f)).trans HC3.out)
   (first
    | (go_at_call 312
       refine (ZcA A1 xs x cap1 y _ ex HS2.out.drew (by have:=Hm.out.2; omega) Hdx.out Hy0.out Hn.out).mono ?_
       rintro e w4 ⟨rfl,nd4,hw4⟩
       rw [Hval.out,er]
       have hFF:Ext wr.drew w4:=hw4 ▸ (Fr.refl _ wr.drew).drewN nd4
       clear hw4)
    | (go_at_call 311
       refine (Zee y r g _ (HG.out.ext (HE2.out.trans (Fr.undrew hFF))) Hn.out hzz.out.1 hzz.out.2.1).mono ?_
       rintro e w5 ⟨rfl,rfl⟩)
    | (go_at_call 116
       refine (Zc4 g _ hzz.out.2.2).mono ?_
       rintro e w6 ⟨v6,rfl,hN6,hF6⟩
       replace hFF:Ext wr.drew w6:=hFF.trans hF6))
  go_wp2
  go_ret
  exact ⟨_,rfl,hN6,HE2.out.trans (Fr.undrew hFF)⟩
set_option maxHeartbeats 1000000 in
theorem Zj5 (u v:Value) (m:Nat) (w:World) (hu:Zad w u m) (hv:Zad w v 0) (hm:wl m≤4294967296):Calls Tryz.prog 229 #[u,v] w (Za0 w m):=by
 obtain ⟨A,l,c,rfl⟩:=hu.slice
 obtain ⟨A2,l2,c2,rfl⟩:=hv.slice
 obtain rfl:l2=0:=hv.len0
 have HU:=zh hu
 have HV:=zh hv
 have Hm:=zh hm
 clear hu hv hm
 go_enter Tryz.func229,Tryz.ntmps229
 go_wp2_with fail
 refine (Zbn _ _ m 0 w HU.out HV.out Hm.out (by rw [Zcl]; omega)).mono ?_
 rintro e w' ⟨rfl,nd,hw'⟩
 obtain ⟨q,hq⟩:∃ q,cmpI (m:Int) ((0:Nat):Int)=q:=⟨_,rfl⟩
 have hq0:(0:Int)≤q:=by rw [← hq]; exact Zdo (Nat.zero_le _)
 have hq1:decide (q < 0)=false:=by simp; omega
 rw [hq]
 have HE0:Hid (Ext w w'):=hw' ▸ (Fr.refl _ w).drewN nd
 clear hq hw' hq0
 go_wp2
 go_ret
 exact ⟨_,rfl,HU.out.ext HE0.out,HE0.out⟩
set_option maxHeartbeats 1000000 in
theorem Zjl (u v:Value) (m:Nat) (w:World) (hu:Zad w u 0) (hv:Zad w v m) (h0:0 < m) (hm:wl m≤4294967296):Calls Tryz.prog 229 #[u,v] w (Za0 w m):=by
 obtain ⟨A,l,c,rfl⟩:=hu.slice
 obtain ⟨A2,l2,c2,rfl⟩:=hv.slice
 obtain rfl:l=0:=hu.len0
 have HU:=zh hu
 have HV:=zh hv
 have Hm:=zh hm
 have H0:=zh h0
 clear hu hv hm h0
 go_enter Tryz.func229,Tryz.ntmps229
 go_wp2_with fail
 refine (Zbn _ _ 0 m w HU.out HV.out (by rw [Zcl]; omega) Hm.out).mono ?_
 rintro e w' ⟨rfl,nd,hw'⟩
 obtain ⟨q,hq⟩:∃ q,cmpI ((0:Nat):Int) (m:Int)=q:=⟨_,rfl⟩
 have hq0:q < 0:=by rw [← hq]; exact ZcK.2 H0.out
 have hq1:decide (q < 0)=true:=by simp; omega
 rw [hq]
 have HE0:Hid (Ext w w'):=hw' ▸ (Fr.refl _ w).drewN nd
 clear hq hw' hq0
 go_wp2
 go_ret
 exact ⟨_,rfl,HV.out.ext HE0.out,HE0.out⟩
theorem ZfD (u v:Value) (m n:Nat) (w:World) (hg:Glob w) (hu:Zad w u m) (hv:Zad w v n) (hm:wl m≤4294967296) (hn:wl n≤4294967296) (hs:min m n < W64):Calls Tryz.prog 229 #[u,v] w (Za0 w (Nat.gcd m n)):=by
 rcases Nat.eq_zero_or_pos n with rfl | n0
 ·rw [Nat.gcd_zero_right]; exact Zj5 u v m w hu hv hm
 rcases Nat.eq_zero_or_pos m with rfl | m0
 ·rw [Nat.gcd_zero_left]; exact Zjl u v n w hu hv n0 hn
 rcases Nat.lt_or_ge m n with h | h
 ·exact Zlt v u n m _ w hg hv hu hn (by omega) m0 h (Nat.gcd_comm _ _)
 ·exact Zls u v m n _ w hg hu hv hm (by omega) n0 h rfl
end Go.Proofs.YtcpjeaaapocoeaaGreatDoor

namespace Go.Proofs.YtcpjeaaapocoeaaGreatDoor
open Go.RowKit
theorem Buf.openG {k:IntKind} {e:TypeId} {w:World} {A:Option Addr} {cap:Nat} {xs:List Nat} (h:Buf k e w A cap xs) (hne:xs≠[]):∃ b,A=some ⟨b,0,none⟩∧Own k e w b xs∧ZbH e w b cap∧xs.length≤cap∧cap≤maxLen:=by
 rcases h with ⟨_,h,_⟩ | h
 ·exact absurd h hne
 ·exact h
def ZdP (w wr:World) (G:Nat) (xs ys:List Nat) (Aa:Option Addr) (ca:Nat) (Ab:Option Addr) (cb:Nat):Prop :=
 Buf .u64 217 wr Aa ca xs∧Buf .u64 217 wr Ab cb ys∧Dig W64 xs∧Dig W64 ys∧Trim xs∧Trim ys∧val W64 ys≤val W64 xs∧Nat.gcd (val W64 xs) (val W64 ys)=G∧Ext w wr ∧
  (∀ b,Zah Aa b→w.heap.size≤b)∧(∀ b,Zah Ab b→w.heap.size≤b)∧(∀ b,Zah Aa b→¬ Zah Ab b)∧xs.length≤79
theorem ZdP.len {w wr:World} {G:Nat} {xs ys:List Nat} {Aa:Option Addr} {ca:Nat} {Ab:Option Addr} {cb:Nat} (h:ZdP w wr G xs ys Aa ca Ab cb):ys.length≤xs.length:=by
 obtain ⟨_,_,h3,h4,h5,h6,h7,_⟩:=h
 rcases Nat.lt_or_ge xs.length ys.length with k | k
 ·have:=Zdv Zag h3 h6 k; omega
 ·exact k
theorem Buf.natIs {w:World} {A:Option Addr} {cap:Nat} {xs:List Nat} (h:Buf .u64 217 w A cap xs) (hd:Dig W64 xs) (ht:Trim xs):Zad w (.slice A xs.length cap) (val W64 xs) :=
 ⟨A,xs,cap,rfl,h.len,h.shows,hd,ht,rfl⟩
theorem ZdP.div {w wr w1 w2:World} {G:Nat} {xs ys zs:List Nat} {Aa:Option Addr} {ca:Nat} {Ab:Option Addr} {cb:Nat} {Ac:Option Addr} {cc:Nat} (h:ZdP w wr G xs ys Aa ca Ab cb) (h0:0 < val W64 ys) (Q:Ext wr w1)
 (dz:Dig W64 zs) (tz:Trim zs) (hz:val W64 zs=val W64 xs % val W64 ys) (hB:Buf .u64 217 w2 Ac cc zs) (hE2:Ext w1 w2) (hA:∀ b,Zah Ac b→w1.heap.size≤b):ZdP w w2 G ys zs Ab cb Ac cc:=by
 have hlen:=h.len
 obtain ⟨h1,h2,h3,h4,h5,h6,h7,h8,h9,h10,h11,h12,h13⟩:=h
 have hlt:=Nat.mod_lt (val W64 xs) h0
 refine ⟨h2.ext (Q.trans hE2),hB,h4,dz,h6,tz,by omega,?_,h9.trans (Q.trans hE2),h11,fun b hb=>?_,fun b hb hb2=>?_,by omega⟩
 ·rw [hz,← h8,Nat.gcd_comm (val W64 ys),← Nat.gcd_rec,Nat.gcd_comm]
 ·have:=hA b hb; have:=Q.size; have:=h9.size; omega
 ·have k1:=h2.lt hb; have k2:=hA b hb2; have:=Q.size; omega
def ZfV (w wr:World) (xs ys:List Nat) (bA ca:Nat) (Ab:Option Addr) (cb j gs:Nat) (cs:Array Value):Prop :=
 Own .u64 217 wr bA xs∧ZbH 217 wr bA ca∧Buf .u64 217 wr Ab cb (ys ++ List.replicate j 0)∧(∀ b,Zah Ab b→w.heap.size≤b∧b≠bA∧b≠gs)∧Blk 384 wr gs cs∧Ext w wr∧w.heap.size≤bA∧gs≠bA∧w.heap.size≤gs
theorem ZfV.next {w wr w3:World} {xs ys:List Nat} {bA ca:Nat} {Ab A3:Option Addr} {cb c3 j gs:Nat} {cs:Array Value} {o:Obj} (h:ZfV w wr xs ys bA ca Ab cb j gs cs) (hB:Buf .u64 217 w3 A3 c3 (ys ++ List.replicate j 0 ++ [0])) (hF:Fr (Zah Ab) (wr.alloc o) w3) (hA:∀ b,Zah A3 b→Zah Ab b∨b=(wr.alloc o).heap.size):ZfV w w3 xs ys bA ca A3 c3 (j + 1) gs cs:=by
 obtain ⟨h1,h2,h3,h4,h5,h6,h7,h8,h9⟩:=h
 have hF':Fr (Zah Ab) wr w3:=((Fr.refl (Zah Ab) wr).alloc o).trans hF
 have l1:=h1.lt
 have l5:=h5.lt
 refine ⟨h1.fr hF' (fun hb=>(h4 _ hb).2.1 rfl),h2.fr hF' (fun hb=>(h4 _ hb).2.1 rfl),by rw [List.replicate_succ',← List.append_assoc]; exact hB,fun b hb=>?_,h5.fr hF' (fun hb=>(h4 _ hb).2.2 rfl),h6.next hF' (fun i hi hb=>by have:=(h4 i hb).1; omega),h7,h8,h9⟩
 rcases hA b hb with k | k
 ·exact h4 b k
 ·have:=h6.size
  simp at k
  exact ⟨by omega,by omega,by omega⟩
theorem Buf.takeG {k:IntKind} {e:TypeId} {w:World} {A:Option Addr} {cap:Nat} {xs:List Nat} (h:Buf k e w A cap xs) (n:Nat):Buf k e w A cap (xs.take n):=by
 rcases h with ⟨h1,rfl,h3⟩ | ⟨b,h1,h2,h3,h4,h5⟩
 ·exact Or.inl ⟨h1,by simp,h3⟩
 ·exact Or.inr ⟨b,h1,h2.take n,h3,by rw [List.length_take]; omega,h5⟩
set_option maxHeartbeats 4000000 in
theorem Zj7 (u v:Value) (m n g:Nat) (w:World) (hg:Glob w) (hu:Zad w u m) (hv:Zad w v n) (hm:wl m≤79) (hn:W64≤n) (hle:n≤m) (eg:Nat.gcd m n=g) :
 Calls Tryz.prog 229 #[u,v] w (Za0 w g):=by
 have hn79:wl n≤79:=Nat.le_trans (ZaS hle) hm
 obtain ⟨A,xs,c,rfl,hc,h1,h2,h3,h4⟩:=hu
 obtain ⟨A2,ys,c2,rfl,hc2,k1,k2,k3,k4⟩:=hv
 have hlx:=ZaE h2 h3
 have hly:=ZaE k2 k3
 rw [h4] at hlx
 rw [k4] at hly
 have hy2:2≤ys.length:=by
  rcases Nat.lt_or_ge ys.length 2 with k | k
  ·have:=ZcN.1 (show wl n≤1 by omega); omega
  ·exact k
 have HU:Hid (Zad w (.slice A xs.length c) m):=⟨A,xs,c,rfl,hc,h1,h2,h3,h4⟩
 have HV:Hid (Zad w (.slice A2 ys.length c2) n):=⟨A2,ys,c2,rfl,hc2,k1,k2,k3,k4⟩
 have HX:=zh h1
 have HY:=zh k1
 have Hle:=zh hle
 have Hdx:=zh h2
 have Hdy:=zh k2
 have Htx:=zh h3
 have Hty:=zh k3
 have Hvx:=zh h4
 have Hvy:=zh k4
 have Heg:=zh eg
 have HG:=zh hg
 have Hm:=zh hm
 have Hn:=zh hn79
 have hxl:xs.length≤79:=by omega
 have hyl:ys.length≤79:=by omega
 clear hm hn hle h1 k1 k2 k3 h3 h2 hc hc2 hlx hly h4 k4 eg hg hn79
 go_enter Tryz.func229,Tryz.ntmps229
 go_wp2_with fail
 refine (Zbn _ _ m n w HU.out HV.out (by have:=Hm.out; omega) (by have:=Hn.out; omega)).mono ?_
 rintro e w' ⟨rfl,nd,hw'⟩
 obtain ⟨q,hq⟩:∃ q,cmpI m n=q:=⟨_,rfl⟩
 have hq0:(0:Int)≤q:=by rw [← hq]; exact Zdo Hle.out
 have hq1:decide (q < 0)=false:=by simp; omega
 rw [hq]
 have HE0:Hid (Ext w w'):=hw' ▸ (Fr.refl _ w).drewN nd
 clear hq hw' hq0
 have hyne:((ys.length:Int) == 0)=false:=by rw [beq_eq_false_iff_ne]; omega
 go_wp2_with fail
 refine (ZbB A xs _ c w' rfl (HX.out.ext HE0.out) (by omega)).mono ?_
 rintro e w1 ⟨A1,cap1,rfl,hB1,hF1,hA1⟩
 have HB1:=zh hB1
 have HA1:Hid (∀ b,Zah A1 b→w.heap.size≤b):=fun b hb=>Nat.le_trans HE0.out.size (hA1 b hb)
 have HE1:Hid (Ext w w1):=HE0.out.trans hF1
 clear hB1 hF1 hA1
 go_wp2_with fail
 refine (ZbB A2 ys _ c2 w1 rfl (HY.out.ext HE1.out) (by omega)).mono ?_
 rintro e w2 ⟨A3,cap3,rfl,hB3,hF3,hA3⟩
 have HS0:Hid (ZdP w w2 g xs ys A1 cap1 A3 cap3):=⟨HB1.out.ext hF3,hB3,Hdx.out,Hdy.out,Htx.out,Hty.out,by rw [Hvx.out,Hvy.out]; exact Hle.out,by rw [Hvx.out,Hvy.out]; exact Heg.out,HE1.out.trans hF3,HA1.out,fun b hb=>Nat.le_trans HE1.out.size (hA3 b hb),fun b hb hb2=>by
  have k1:=HB1.out.lt hb
  have k2:=hA3 b hb2
  omega,hxl⟩
 clear hB3 hF3 hA3 HB1 HA1 HE1 HE0 HX HY HU HV Hdx Hdy Htx Hty Hle Heg Hvx Hvy Hm Hn hyne hq1
 go_wp2_with fail
 go_loopg [5,6,7,8,9] (val W64 xs + val W64 ys) (fun k av bv _ _ _ wr=>∃ (xs ys:List Nat) (Aa:Option Addr) (ca:Nat) (Ab:Option Addr) (cb:Nat),k=val W64 xs + val W64 ys∧av=.slice Aa xs.length ca∧bv=.slice Ab ys.length cb∧Hid (ZdP w wr g xs ys Aa ca Ab cb))
 case atStart=>exact ⟨xs,ys,A1,cap1,A3,cap3,rfl,rfl,rfl,HS0⟩
 case round =>
  clear HS0 hy2 hxl hyl
  obtain ⟨xs,ys,Aa,ca,Ab,cb,hk,rfl,rfl,hS⟩:=hrel
  have HK:=zh hk
  clear hk
  have hlen:=hS.out.len
  have hx79:=hS.out.2.2.2.2.2.2.2.2.2.2.2.2
  by_cases h1:1 < ys.length
  ·obtain ⟨bA,rfl,hOA,hCA,hcA,hcAm⟩:=hS.out.1.openG (by intro e; rw [e] at hlen; simp at hlen; rw [hlen] at h1; simp at h1)
   obtain ⟨bB,rfl,hOB,hCB,hcB,hcBm⟩:=hS.out.2.1.openG (by intro e; rw [e] at h1; simp at h1)
   have HSim:=zh (ZgI bA bB ca cb xs ys wr hOA hOB hS.out.2.2.1 hS.out.2.2.2.1 hS.out.2.2.2.2.1 hlen (by omega) hS.out.2.2.2.2.2.2.1 (by omega))
   have hvy:0 < val W64 ys:=ZdG hS.out.2.2.2.2.2.1 Zag (by intro e; rw [e] at h1; simp at h1)
   have HVy:=zh hvy
   have HNA:=zh (hS.out.1.natIs hS.out.2.2.1 hS.out.2.2.2.2.1)
   have HNB:=zh (hS.out.2.1.natIs hS.out.2.2.2.1 hS.out.2.2.2.2.2.1)
   have hwx:wl (val W64 xs)≤79:=by rw [← ZaE hS.out.2.2.1 hS.out.2.2.2.2.1]; exact hx79
   have hwy:wl (val W64 ys)≤79:=by rw [← ZaE hS.out.2.2.2.1 hS.out.2.2.2.2.2.1]; omega
   have HWx:=zh hwx
   have HWy:=zh hwy
   have HOA:=zh hOA
   have HOB:=zh hOB
   have HCA:=zh hCA
   have HCB:=zh hCB
   unfold Zd3 Zbb at HSim
   clear hOA hOB hCA hCB hvy hwx hwy
   go_wp2_with fail
   refine HSim.out.mono ?_
   rintro e w1 ⟨u0,u1,v0,v1,odd,rfl,b0,b1,b2,b3,hSt,hF1⟩
   have HF1:=zh hF1
   have HSt:=zh hSt
   have Hb:=zh (And.intro b0 (And.intro b1 (And.intro b2 b3)))
   clear hF1 hSt b0 b1 b2 b3 HSim
   by_cases hv:v0=0
   ·subst hv
    go_wp2_with fail
    generalize hwb:World.alloc w1 _=wb
    have HEb:Hid (Ext wr wb):=hwb ▸ HF1.out.alloc _
    clear hwb HF1
    refine (ZdO _ _ _ _ _ (HNA.out.ext HEb.out) (HNB.out.ext HEb.out) (by have:=HWx.out; omega) (by have:=HWy.out; omega) HVy.out).mono ?_
    rintro e w2 ⟨qv,rv,rfl,hNq,hNr,hF2⟩
    obtain ⟨Aq,lq,cq,rfl⟩:=hNq.slice
    obtain ⟨Ar,zs,cr,rfl,hcr,hSr,hdz,htz,hvz⟩:=hNr
    have HE2:=zh (HEb.out.trans hF2)
    have HSr:=zh hSr
    have HDz:=zh hdz
    have HTz:=zh htz
    have HVz:=zh hvz
    have hzl:zs.length≤79:=by
     rw [ZaE hdz htz,hvz]
     have:wl (val W64 xs % val W64 ys)≤wl (val W64 xs):=ZaS (Nat.mod_le _ _)
     have:=HWx.out; omega
    clear hNq hSr hdz htz hvz hcr hF2 HEb
    go_wp2_with fail
    refine (ZbB Ar zs _ cr w2 rfl HSr.out (by omega)).mono ?_
    rintro e w3 ⟨Ac,cc,rfl,hB3,hF3,hA3⟩
    have HNew:=zh (hS.out.div HVy.out HE2.out HDz.out HTz.out HVz.out hB3 hF3 hA3)
    have HMs:Hid (val W64 ys + val W64 zs < val W64 xs + val W64 ys):=by
     have h1:=Nat.mod_lt (val W64 xs) HVy.out
     have h2:=hS.out.2.2.2.2.2.2.1
     have h3:=HVz.out
     unfold Hid; omega
    clear hB3 hF3 hA3 hS HNA HNB HOA HOB HCA HCB
    go_wp2
    go_roundg (val W64 ys + val W64 zs)
    case measure=>rw [HK.out]; exact HMs.out
    case rel=>exact ⟨ys,zs,_,cb,Ac,cc,rfl,rfl,rfl,HNew⟩
   ·have hv0:((v0:Int) == 0)=false:=by simp; omega
    obtain ⟨r0,r1,q1,q2,q3,q4⟩:=HSt.out.pair hv
    have HQ:=zh (And.intro q1 (And.intro q2 (And.intro q3 q4)))
    have hAB:bA≠bB:=fun e=>hS.out.2.2.2.2.2.2.2.2.2.2.2.1 bA ⟨_,rfl,rfl⟩ ⟨_,rfl,by simp [e]⟩
    clear q1 q2 q3 q4 hv
    go_wp2_with fail
    generalize hwb:World.alloc w1 _=wb
    have hlA:=HOA.out.lt
    have hlB:=HOB.out.lt
    have hs1:=HF1.out.size
    have HPd:Hid (ZfV w wb xs ys bA ca (some ⟨bB,0,none⟩) cb 0 w1.heap.size #[.int .u64 (u0:Int), .int .u64 (u1:Int), .int .u64 (v0:Int), .int .u64 (v1:Int), .bool odd]):=by
     have hEb:Ext wr wb:=hwb ▸ HF1.out.alloc _
     refine ⟨HOA.out.ext hEb,HCA.out.fr hEb (fun f=>f),by rw [List.replicate_zero,List.append_nil]; exact hS.out.2.1.ext hEb,fun b hb=>?_,hwb ▸ Blk.new _ _ _,hS.out.2.2.2.2.2.2.2.2.1.trans hEb,hS.out.2.2.2.2.2.2.2.2.2.1 bA ⟨_,rfl,rfl⟩,by omega,?_⟩
     ·obtain ⟨a,ha,rfl⟩:=hb
      injection ha with ha; subst ha
      exact ⟨hS.out.2.2.2.2.2.2.2.2.2.2.1 bB ⟨_,rfl,rfl⟩,fun e=>hAB e.symm,by show bB≠_; omega⟩
     ·have:=hS.out.2.2.2.2.2.2.2.2.1.size; omega
    clear hwb
    generalize w1.heap.size=gs at *
    go_loopw [6] (fun bv wq=>∃ (j:Nat) (A6:Option Addr) (c6:Nat),ys.length + j≤xs.length∧bv=.slice A6 (ys.length + j) c6∧Hid (ZfV w wq xs ys bA ca A6 c6 j gs #[.int .u64 (u0:Int), .int .u64 (u1:Int), .int .u64 (v0:Int), .int .u64 (v1:Int), .bool odd])) (fun bv _=>match bv with | .slice _ k _=>xs.length - k | _=>0)
    case atStart=>exact ⟨0,_,cb,by omega,rfl,HPd⟩
    case round =>
     clear HPd
     obtain ⟨j,A6,c6,hj,rfl,hP⟩:=hrel
     by_cases hjl:ys.length + j < xs.length
     ·have hSh:Hid (Zai .u64 (wr.alloc (.cells #[.int .u64 0] 217)) (some ⟨wr.heap.size,0,none⟩) [0]):=(Own.new wr 217 .u64 [0] []).shows0
      have HLj:Hid ((ys ++ List.replicate j 0).length=ys.length + j):=by unfold Hid; simp
      go_wp2_with (at_builtin; refine Hid.out ?_)
      refine zh ?_
      refine ZaB rfl _ _ _ rfl _ .u64 8 Tryz.underlying133 ZbR A6 (some ⟨wr.heap.size,0,none⟩) (ys.length + j) 1 c6 1 rfl rfl (ys ++ List.replicate j 0) [0] HLj.out rfl (hP.out.2.2.1.ext ((Fr.refl _ _).alloc _)) hSh.out (by simp only [maxLen]; omega) (by omega) ?_
      intro A7 c7 w3 hB3 hF3 hA3
      have HNew:=zh (hP.out.next hB3 hF3 hA3)
      clear hB3 hF3 hA3 hSh HLj
      go_wp2
      go_roundw
      case rel=>exact ⟨j + 1,A7,c7,by omega,by rw [Nat.add_assoc],HNew⟩
      case measure=>simp; omega
     ·have ej:ys.length + j=xs.length:=by omega
      have hpos:0 < xs.length:=by omega
      have hne6:ys ++ List.replicate j 0≠[]:=fun e=>by have:=congrArg List.length e; rw [List.length_append,List.length_nil] at this; omega
      obtain ⟨bC,rfl,hOC,hCC,hcC,hcCm⟩:=hP.out.2.2.1.openG hne6
      have hbC:=hP.out.2.2.2.1 bC ⟨_,rfl,rfl⟩
      have hlC:(ys ++ List.replicate j 0).length=xs.length:=by simp; omega
      have hvC:val W64 (ys ++ List.replicate j 0)=val W64 ys:=by rw [ZaQ,Zbd]; simp
      have hdC:Dig W64 (ys ++ List.replicate j 0):=hS.out.2.2.2.1.append (Dig.replicate Zag _)
      have hxl:=ZaX hS.out.2.2.1
      have hyx:=hS.out.2.2.2.2.2.2.1
      have HAp:Hid (Calls Tryz.prog 310 #[.agg #[.int .u64 (u0:Int), .int .u64 (u1:Int), .int .u64 (v0:Int), .int .u64 (v1:Int), .bool odd], .slice (some ⟨bA,0,none⟩) xs.length ca, .slice (some ⟨bC,0,none⟩) (ys.length + j) c6] wr (ZdD bA bC xs.length r0 r1 wr)):=by
       obtain ⟨q1,q2,q3,q4⟩:=HQ.out
       obtain ⟨k0,k1,k2,k3⟩:=Hb.out
       unfold Hid
       rw [ej]
       rw [← hvC] at q4
       cases odd with
       | false =>
         simp only [Bool.false_eq_true,if_false] at q4
         exact ZiA bA bC xs.length ca c6 u0 u1 v0 v1 r0 r1 xs _ wr rfl hlC hP.out.1 hOC (fun e=>hbC.2.1 e.symm) hS.out.2.2.1 hdC (by omega) k0 k1 k2 k3 q4.1 q4.2 (by omega) (by omega)
       | true =>
         simp only [if_true] at q4
         exact ZjF bA bC xs.length ca c6 u0 u1 v0 v1 r0 r1 xs _ wr rfl hlC hP.out.1 hOC (fun e=>hbC.2.1 e.symm) hS.out.2.2.1 hdC (by omega) k0 k1 k2 k3 q4.1 q4.2 (by omega) (by omega)
      have s0:wr.cell? ⟨gs,0,none⟩=some (.int .u64 (u0:Int)):=hP.out.2.2.2.2.1.cell 0
      have s1:wr.cell? ⟨gs,1,none⟩=some (.int .u64 (u1:Int)):=hP.out.2.2.2.2.1.cell 1
      have s2:wr.cell? ⟨gs,2,none⟩=some (.int .u64 (v0:Int)):=hP.out.2.2.2.2.1.cell 2
      have s3:wr.cell? ⟨gs,3,none⟩=some (.int .u64 (v1:Int)):=hP.out.2.2.2.2.1.cell 3
      have s4:wr.cell? ⟨gs,4,none⟩=some (.bool odd):=hP.out.2.2.2.2.1.cell 4
      have HCC:=zh hCC
      have HLC:=zh hlC
      have Hej:=zh ej
      clear hOC hCC hlC hvC hdC hxl hyx hne6 ej
      go_wp2_with fail
      refine HAp.out.mono ?_
      rintro e w3 ⟨zs,zt,rfl,hOA3,hOC3,hr0,hr1,hd1,hd2,hl1,hl2,hSA,hSC,hF3⟩
      have hej:=Hej.out
      have HTr1:=zh (Za5 _ zs xs.length ca w3 hl1 hOA3.shows0 (by omega) (by omega))
      have HTr2:=zh (Za5 _ zt (ys.length + j) c6 w3 (by omega) hOC3.shows0 (by have:=HLC.out; omega) (by omega))
      have HNew:Hid (ZdP w w3 g (ZaV zs) (ZaV zt) (some ⟨bA,0,none⟩) ca (some ⟨bC,0,none⟩) c6):=by
       obtain ⟨q1,q2,q3,q4⟩:=HQ.out
       have t1:=ZaR zs
       have t2:=ZcI zs zs.length
       refine ⟨Buf.takeG (Or.inr ⟨bA,rfl,hOA3,hSA _ hP.out.2.1,by omega,hcAm⟩) _,Buf.takeG (Or.inr ⟨bC,rfl,hOC3,hSC _ HCC.out,by have:=HLC.out; omega,hcCm⟩) _,Zca hd1,Zca hd2,ZbP _,ZbP _,?_,?_,?_,fun b hb=>?_,fun b hb=>?_,fun b hb hb2=>?_,by omega⟩
       ·rw [ZaZ,ZaZ,hr0,hr1]; omega
       ·rw [ZaZ,ZaZ,hr0,hr1,q3]; exact hS.out.2.2.2.2.2.2.2.1
       ·refine hP.out.2.2.2.2.2.1.next hF3 (fun i hi e=>?_)
        rcases e with e | e
        ·have:=hP.out.2.2.2.2.2.2.1; omega
        ·have:=hbC.1; omega
       ·obtain ⟨a,ha,rfl⟩:=hb
        injection ha with ha; subst ha
        exact hP.out.2.2.2.2.2.2.1
       ·obtain ⟨a,ha,rfl⟩:=hb
        injection ha with ha; subst ha
        exact hbC.1
       ·obtain ⟨a,ha,rfl⟩:=hb
        injection ha with ha; subst ha
        obtain ⟨a',ha',e⟩:=hb2
        injection ha' with ha'; subst ha'
        exact hbC.2.1 e
      have HMs:Hid (val W64 (ZaV zs) + val W64 (ZaV zt) < val W64 xs + val W64 ys):=by
       obtain ⟨q1,q2,q3,q4⟩:=HQ.out
       have h2:=hS.out.2.2.2.2.2.2.1
       unfold Hid
       rw [ZaZ,ZaZ,hr0,hr1]; omega
      have Htl1:=zh (ZaR zs)
      have Htl2:=zh (ZaR zt)
      clear hOA3 hOC3 hr0 hr1 hd1 hd2 hSA hSC hF3 hej hl1 hl2
      go_wp2_with fail
      refine HTr1.out.mono ?_
      rintro e w4 ⟨rfl,rfl⟩
      go_wp2_with fail
      refine HTr2.out.mono ?_
      rintro e w4 ⟨rfl,rfl⟩
      go_wp2
      go_roundg (val W64 (ZaV zs) + val W64 (ZaV zt))
      case measure=>rw [HK.out]; exact HMs.out
      case rel=>exact ⟨ZaV zs,ZaV zt,_,ca,_,c6,rfl,by rw [Htl1.out],by rw [Htl2.out],HNew⟩
  ·have h1':decide ((1:Int) < (ys.length:Int))=false:=by simp; omega
   by_cases h0:ys=[]
   ·subst h0
    have HN:Hid (Zad wr (.slice Aa xs.length ca) g):=by
     have k1:=hS.out.1.natIs hS.out.2.2.1 hS.out.2.2.2.2.1
     have k2:=hS.out.2.2.2.2.2.2.2.1
     rw [ZcS,Nat.gcd_zero_right] at k2
     rw [k2] at k1
     exact k1
    have HE:Hid (Ext w wr):=hS.out.2.2.2.2.2.2.2.2.1
    clear hS h1 h1' hlen
    go_wp2
    go_ret
    exact ⟨_,rfl,HN.out,HE.out⟩
   ·obtain ⟨y,rfl⟩:∃ y,ys=[y]:=by
     match ys,(by have:=List.length_pos_iff.2 h0; omega:ys.length=1) with
     | [y],_=>exact ⟨y,rfl⟩
    obtain ⟨b3,rfl,hOB,_⟩:=hS.out.2.1.openG h0
    have hc3:=hOB.cell (i:=0) (by simp)
    simp at hc3
    have hb3:=zh hOB.lt
    have HE2:Hid (Ext w wr):=hS.out.2.2.2.2.2.2.2.2.1
    have HS2:Hid (Zai .u64 wr Aa xs):=hS.out.1.shows
    have Hdx:=zh hS.out.2.2.1
    have hyW:y < W64:=hS.out.2.2.2.1 y (by simp)
    have hy0:0 < y:=by
     have:=hS.out.2.2.2.2.2.1 0 rfl
     simp at this; omega
    have hgc:=hS.out.2.2.2.2.2.2.2.1
    simp only [Zb1,ZcS,Nat.mul_zero,Nat.add_zero] at hgc
    obtain ⟨r,er⟩:∃ r,val W64 xs % y=r:=⟨_,rfl⟩
    have hzz:Hid (r < W64∧Nat.gcd y r=g∧g < W64):=by
     have k1:=Nat.mod_lt (val W64 xs) hy0
     have k3:=Nat.gcd_le_right (val W64 xs) hy0
     rw [hgc] at k3
     refine ⟨by omega,?_,by omega⟩
     rw [← er,← hgc,Nat.gcd_comm y,← Nat.gcd_rec,Nat.gcd_comm]
    obtain ⟨x,ex⟩:∃ x,xs.length=x:=⟨_,rfl⟩
    rw [ex] at hx79 ⊢
    have HC3:Hid (wr.cell? ⟨b3,0,none⟩=some (.int .u64 (y:Int))):=hc3
    have Hy0:=zh hy0
    have Hn:=zh hyW
    have Her:=zh er
    have Hex:=zh ex
    clear hS hOB hgc er ex h0 h1 h1' hlen hy0 hyW
    go_wp2_with fail
    go_region_held3 (fun w'=>w'.cell? ⟨b3,0,none⟩=some (.int .u64 (y:Int)))
     (first | exact HC3.out | exact (Fr.cell (p:=⟨b3,0,none⟩) (Fr.undrew hFF) hb3.out (fun f=>f)).trans HC3.out)
     (first
      | (go_at_call 312
         refine (ZcA Aa xs x ca y _ Hex.out HS2.out.drew (by have:=Hex.out; omega) Hdx.out Hy0.out Hn.out).mono ?_
         rintro e w4 ⟨rfl,nd4,hw4⟩
         rw [Her.out]
         have hFF:Ext wr.drew w4:=hw4 ▸ (Fr.refl _ wr.drew).drewN nd4
         clear hw4)
      | (go_at_call 311
         refine (Zee y r g _ (HG.out.ext (HE2.out.trans (Fr.undrew hFF))) Hn.out hzz.out.1 hzz.out.2.1).mono ?_
         rintro e w5 ⟨rfl,rfl⟩)
      | (go_at_call 116
         refine (Zc4 g _ hzz.out.2.2).mono ?_
         rintro e w6 ⟨v6,rfl,hN6,hF6⟩
         replace hFF:Ext wr.drew w6:=hFF.trans hF6))
    go_wp2
    go_ret
    exact ⟨_,rfl,hN6,HE2.out.trans (Fr.undrew hFF)⟩
set_option maxHeartbeats 4000000 in
theorem Zj8 (u v:Value) (m n g:Nat) (w:World) (hg:Glob w) (hu:Zad w u m) (hv:Zad w v n) (hm:wl m≤79) (hn:W64≤n) (hlt:n < m) (eg:Nat.gcd m n=g) :
 Calls Tryz.prog 229 #[v,u] w (Za0 w g):=by
 have hle:n≤m:=by omega
 have hn79:wl n≤79:=Nat.le_trans (ZaS hle) hm
 obtain ⟨A,xs,c,rfl,hc,h1,h2,h3,h4⟩:=hu
 obtain ⟨A2,ys,c2,rfl,hc2,k1,k2,k3,k4⟩:=hv
 have hlx:=ZaE h2 h3
 have hly:=ZaE k2 k3
 rw [h4] at hlx
 rw [k4] at hly
 have hy2:2≤ys.length:=by
  rcases Nat.lt_or_ge ys.length 2 with k | k
  ·have:=ZcN.1 (show wl n≤1 by omega); omega
  ·exact k
 have HU:Hid (Zad w (.slice A xs.length c) m):=⟨A,xs,c,rfl,hc,h1,h2,h3,h4⟩
 have HV:Hid (Zad w (.slice A2 ys.length c2) n):=⟨A2,ys,c2,rfl,hc2,k1,k2,k3,k4⟩
 have HX:=zh h1
 have HY:=zh k1
 have Hle:=zh hle
 have Hlt:=zh hlt
 have Hdx:=zh h2
 have Hdy:=zh k2
 have Htx:=zh h3
 have Hty:=zh k3
 have Hvx:=zh h4
 have Hvy:=zh k4
 have Heg:=zh eg
 have HG:=zh hg
 have Hm:=zh hm
 have Hn:=zh hn79
 have hxl:xs.length≤79:=by omega
 have hyl:ys.length≤79:=by omega
 clear hm hn hle hlt h1 k1 k2 k3 h3 h2 hc hc2 hlx hly h4 k4 eg hg hn79
 go_enter Tryz.func229,Tryz.ntmps229
 go_wp2_with fail
 refine (Zbn _ _ n m w HV.out HU.out (by have:=Hn.out; omega) (by have:=Hm.out; omega)).mono ?_
 rintro e w' ⟨rfl,nd,hw'⟩
 obtain ⟨q,hq⟩:∃ q,cmpI n m=q:=⟨_,rfl⟩
 have hq0:q < 0:=by
  have h5:(n:Int) < (m:Int):=by have:=Hlt.out; omega
  rw [← hq]; unfold cmpI; rw [if_pos h5]; omega
 have hq1:decide (q < 0)=true:=by simp; omega
 rw [hq]
 have HE0:Hid (Ext w w'):=hw' ▸ (Fr.refl _ w).drewN nd
 clear hq hw' hq0
 have hyne:((ys.length:Int) == 0)=false:=by rw [beq_eq_false_iff_ne]; omega
 go_wp2_with fail
 refine (ZbB A xs _ c w' rfl (HX.out.ext HE0.out) (by omega)).mono ?_
 rintro e w1 ⟨A1,cap1,rfl,hB1,hF1,hA1⟩
 have HB1:=zh hB1
 have HA1:Hid (∀ b,Zah A1 b→w.heap.size≤b):=fun b hb=>Nat.le_trans HE0.out.size (hA1 b hb)
 have HE1:Hid (Ext w w1):=HE0.out.trans hF1
 clear hB1 hF1 hA1
 go_wp2_with fail
 refine (ZbB A2 ys _ c2 w1 rfl (HY.out.ext HE1.out) (by omega)).mono ?_
 rintro e w2 ⟨A3,cap3,rfl,hB3,hF3,hA3⟩
 have HS0:Hid (ZdP w w2 g xs ys A1 cap1 A3 cap3):=⟨HB1.out.ext hF3,hB3,Hdx.out,Hdy.out,Htx.out,Hty.out,by rw [Hvx.out,Hvy.out]; exact Hle.out,by rw [Hvx.out,Hvy.out]; exact Heg.out,HE1.out.trans hF3,HA1.out,fun b hb=>Nat.le_trans HE1.out.size (hA3 b hb),fun b hb hb2=>by
  have k1:=HB1.out.lt hb
  have k2:=hA3 b hb2
  omega,hxl⟩
 clear hB3 hF3 hA3 HB1 HA1 HE1 HE0 HX HY HU HV Hdx Hdy Htx Hty Hle Heg Hvx Hvy Hm Hn hyne hq1
 go_wp2_with fail
 go_loopg [5,6,7,8,9] (val W64 xs + val W64 ys) (fun k av bv _ _ _ wr=>∃ (xs ys:List Nat) (Aa:Option Addr) (ca:Nat) (Ab:Option Addr) (cb:Nat),k=val W64 xs + val W64 ys∧av=.slice Aa xs.length ca∧bv=.slice Ab ys.length cb∧Hid (ZdP w wr g xs ys Aa ca Ab cb))
 case atStart=>exact ⟨xs,ys,A1,cap1,A3,cap3,rfl,rfl,rfl,HS0⟩
 case round =>
  clear HS0 hy2 hxl hyl
  obtain ⟨xs,ys,Aa,ca,Ab,cb,hk,rfl,rfl,hS⟩:=hrel
  have HK:=zh hk
  clear hk
  have hlen:=hS.out.len
  have hx79:=hS.out.2.2.2.2.2.2.2.2.2.2.2.2
  by_cases h1:1 < ys.length
  ·obtain ⟨bA,rfl,hOA,hCA,hcA,hcAm⟩:=hS.out.1.openG (by intro e; rw [e] at hlen; simp at hlen; rw [hlen] at h1; simp at h1)
   obtain ⟨bB,rfl,hOB,hCB,hcB,hcBm⟩:=hS.out.2.1.openG (by intro e; rw [e] at h1; simp at h1)
   have HSim:=zh (ZgI bA bB ca cb xs ys wr hOA hOB hS.out.2.2.1 hS.out.2.2.2.1 hS.out.2.2.2.2.1 hlen (by omega) hS.out.2.2.2.2.2.2.1 (by omega))
   have hvy:0 < val W64 ys:=ZdG hS.out.2.2.2.2.2.1 Zag (by intro e; rw [e] at h1; simp at h1)
   have HVy:=zh hvy
   have HNA:=zh (hS.out.1.natIs hS.out.2.2.1 hS.out.2.2.2.2.1)
   have HNB:=zh (hS.out.2.1.natIs hS.out.2.2.2.1 hS.out.2.2.2.2.2.1)
   have hwx:wl (val W64 xs)≤79:=by rw [← ZaE hS.out.2.2.1 hS.out.2.2.2.2.1]; exact hx79
   have hwy:wl (val W64 ys)≤79:=by rw [← ZaE hS.out.2.2.2.1 hS.out.2.2.2.2.2.1]; omega
   have HWx:=zh hwx
   have HWy:=zh hwy
   have HOA:=zh hOA
   have HOB:=zh hOB
   have HCA:=zh hCA
   have HCB:=zh hCB
   unfold Zd3 Zbb at HSim
   clear hOA hOB hCA hCB hvy hwx hwy
   go_wp2_with fail
   refine HSim.out.mono ?_
   rintro e w1 ⟨u0,u1,v0,v1,odd,rfl,b0,b1,b2,b3,hSt,hF1⟩
   have HF1:=zh hF1
   have HSt:=zh hSt
   have Hb:=zh (And.intro b0 (And.intro b1 (And.intro b2 b3)))
   clear hF1 hSt b0 b1 b2 b3 HSim
   by_cases hv:v0=0
   ·subst hv
    go_wp2_with fail
    generalize hwb:World.alloc w1 _=wb
    have HEb:Hid (Ext wr wb):=hwb ▸ HF1.out.alloc _
    clear hwb HF1
    refine (ZdO _ _ _ _ _ (HNA.out.ext HEb.out) (HNB.out.ext HEb.out) (by have:=HWx.out; omega) (by have:=HWy.out; omega) HVy.out).mono ?_
    rintro e w2 ⟨qv,rv,rfl,hNq,hNr,hF2⟩
    obtain ⟨Aq,lq,cq,rfl⟩:=hNq.slice
    obtain ⟨Ar,zs,cr,rfl,hcr,hSr,hdz,htz,hvz⟩:=hNr
    have HE2:=zh (HEb.out.trans hF2)
    have HSr:=zh hSr
    have HDz:=zh hdz
    have HTz:=zh htz
    have HVz:=zh hvz
    have hzl:zs.length≤79:=by
     rw [ZaE hdz htz,hvz]
     have:wl (val W64 xs % val W64 ys)≤wl (val W64 xs):=ZaS (Nat.mod_le _ _)
     have:=HWx.out; omega
    clear hNq hSr hdz htz hvz hcr hF2 HEb
    go_wp2_with fail
    refine (ZbB Ar zs _ cr w2 rfl HSr.out (by omega)).mono ?_
    rintro e w3 ⟨Ac,cc,rfl,hB3,hF3,hA3⟩
    have HNew:=zh (hS.out.div HVy.out HE2.out HDz.out HTz.out HVz.out hB3 hF3 hA3)
    have HMs:Hid (val W64 ys + val W64 zs < val W64 xs + val W64 ys):=by
     have h1:=Nat.mod_lt (val W64 xs) HVy.out
     have h2:=hS.out.2.2.2.2.2.2.1
     have h3:=HVz.out
     unfold Hid; omega
    clear hB3 hF3 hA3 hS HNA HNB HOA HOB HCA HCB
    go_wp2
    go_roundg (val W64 ys + val W64 zs)
    case measure=>rw [HK.out]; exact HMs.out
    case rel=>exact ⟨ys,zs,_,cb,Ac,cc,rfl,rfl,rfl,HNew⟩
   ·have hv0:((v0:Int) == 0)=false:=by simp; omega
    obtain ⟨r0,r1,q1,q2,q3,q4⟩:=HSt.out.pair hv
    have HQ:=zh (And.intro q1 (And.intro q2 (And.intro q3 q4)))
    have hAB:bA≠bB:=fun e=>hS.out.2.2.2.2.2.2.2.2.2.2.2.1 bA ⟨_,rfl,rfl⟩ ⟨_,rfl,by simp [e]⟩
    clear q1 q2 q3 q4 hv
    go_wp2_with fail
    generalize hwb:World.alloc w1 _=wb
    have hlA:=HOA.out.lt
    have hlB:=HOB.out.lt
    have hs1:=HF1.out.size
    have HPd:Hid (ZfV w wb xs ys bA ca (some ⟨bB,0,none⟩) cb 0 w1.heap.size #[.int .u64 (u0:Int), .int .u64 (u1:Int), .int .u64 (v0:Int), .int .u64 (v1:Int), .bool odd]):=by
     have hEb:Ext wr wb:=hwb ▸ HF1.out.alloc _
     refine ⟨HOA.out.ext hEb,HCA.out.fr hEb (fun f=>f),by rw [List.replicate_zero,List.append_nil]; exact hS.out.2.1.ext hEb,fun b hb=>?_,hwb ▸ Blk.new _ _ _,hS.out.2.2.2.2.2.2.2.2.1.trans hEb,hS.out.2.2.2.2.2.2.2.2.2.1 bA ⟨_,rfl,rfl⟩,by omega,?_⟩
     ·obtain ⟨a,ha,rfl⟩:=hb
      injection ha with ha; subst ha
      exact ⟨hS.out.2.2.2.2.2.2.2.2.2.2.1 bB ⟨_,rfl,rfl⟩,fun e=>hAB e.symm,by show bB≠_; omega⟩
     ·have:=hS.out.2.2.2.2.2.2.2.2.1.size; omega
    clear hwb
    generalize w1.heap.size=gs at *
    go_loopw [6] (fun bv wq=>∃ (j:Nat) (A6:Option Addr) (c6:Nat),ys.length + j≤xs.length∧bv=.slice A6 (ys.length + j) c6∧Hid (ZfV w wq xs ys bA ca A6 c6 j gs #[.int .u64 (u0:Int), .int .u64 (u1:Int), .int .u64 (v0:Int), .int .u64 (v1:Int), .bool odd])) (fun bv _=>match bv with | .slice _ k _=>xs.length - k | _=>0)
    case atStart=>exact ⟨0,_,cb,by omega,rfl,HPd⟩
    case round =>
     clear HPd
     obtain ⟨j,A6,c6,hj,rfl,hP⟩:=hrel
     by_cases hjl:ys.length + j < xs.length
     ·have hSh:Hid (Zai .u64 (wr.alloc (.cells #[.int .u64 0] 217)) (some ⟨wr.heap.size,0,none⟩) [0]):=(Own.new wr 217 .u64 [0] []).shows0
      have HLj:Hid ((ys ++ List.replicate j 0).length=ys.length + j):=by unfold Hid; simp
      go_wp2_with (at_builtin; refine Hid.out ?_)
      refine zh ?_
      refine ZaB rfl _ _ _ rfl _ .u64 8 Tryz.underlying133 ZbR A6 (some ⟨wr.heap.size,0,none⟩) (ys.length + j) 1 c6 1 rfl rfl (ys ++ List.replicate j 0) [0] HLj.out rfl (hP.out.2.2.1.ext ((Fr.refl _ _).alloc _)) hSh.out (by simp only [maxLen]; omega) (by omega) ?_
      intro A7 c7 w3 hB3 hF3 hA3
      have HNew:=zh (hP.out.next hB3 hF3 hA3)
      clear hB3 hF3 hA3 hSh HLj
      go_wp2
      go_roundw
      case rel=>exact ⟨j + 1,A7,c7,by omega,by rw [Nat.add_assoc],HNew⟩
      case measure=>simp; omega
     ·have ej:ys.length + j=xs.length:=by omega
      have hpos:0 < xs.length:=by omega
      have hne6:ys ++ List.replicate j 0≠[]:=fun e=>by have:=congrArg List.length e; rw [List.length_append,List.length_nil] at this; omega
      obtain ⟨bC,rfl,hOC,hCC,hcC,hcCm⟩:=hP.out.2.2.1.openG hne6
      have hbC:=hP.out.2.2.2.1 bC ⟨_,rfl,rfl⟩
      have hlC:(ys ++ List.replicate j 0).length=xs.length:=by simp; omega
      have hvC:val W64 (ys ++ List.replicate j 0)=val W64 ys:=by rw [ZaQ,Zbd]; simp
      have hdC:Dig W64 (ys ++ List.replicate j 0):=hS.out.2.2.2.1.append (Dig.replicate Zag _)
      have hxl:=ZaX hS.out.2.2.1
      have hyx:=hS.out.2.2.2.2.2.2.1
      have HAp:Hid (Calls Tryz.prog 310 #[.agg #[.int .u64 (u0:Int), .int .u64 (u1:Int), .int .u64 (v0:Int), .int .u64 (v1:Int), .bool odd], .slice (some ⟨bA,0,none⟩) xs.length ca, .slice (some ⟨bC,0,none⟩) (ys.length + j) c6] wr (ZdD bA bC xs.length r0 r1 wr)):=by
       obtain ⟨q1,q2,q3,q4⟩:=HQ.out
       obtain ⟨k0,k1,k2,k3⟩:=Hb.out
       unfold Hid
       rw [ej]
       rw [← hvC] at q4
       cases odd with
       | false =>
         simp only [Bool.false_eq_true,if_false] at q4
         exact ZiA bA bC xs.length ca c6 u0 u1 v0 v1 r0 r1 xs _ wr rfl hlC hP.out.1 hOC (fun e=>hbC.2.1 e.symm) hS.out.2.2.1 hdC (by omega) k0 k1 k2 k3 q4.1 q4.2 (by omega) (by omega)
       | true =>
         simp only [if_true] at q4
         exact ZjF bA bC xs.length ca c6 u0 u1 v0 v1 r0 r1 xs _ wr rfl hlC hP.out.1 hOC (fun e=>hbC.2.1 e.symm) hS.out.2.2.1 hdC (by omega) k0 k1 k2 k3 q4.1 q4.2 (by omega) (by omega)
      have s0:wr.cell? ⟨gs,0,none⟩=some (.int .u64 (u0:Int)):=hP.out.2.2.2.2.1.cell 0
      have s1:wr.cell? ⟨gs,1,none⟩=some (.int .u64 (u1:Int)):=hP.out.2.2.2.2.1.cell 1
      have s2:wr.cell? ⟨gs,2,none⟩=some (.int .u64 (v0:Int)):=hP.out.2.2.2.2.1.cell 2
      have s3:wr.cell? ⟨gs,3,none⟩=some (.int .u64 (v1:Int)):=hP.out.2.2.2.2.1.cell 3
      have s4:wr.cell? ⟨gs,4,none⟩=some (.bool odd):=hP.out.2.2.2.2.1.cell 4
      have HCC:=zh hCC
      have HLC:=zh hlC
      have Hej:=zh ej
      clear hOC hCC hlC hvC hdC hxl hyx hne6 ej
      go_wp2_with fail
      refine HAp.out.mono ?_
      rintro e w3 ⟨zs,zt,rfl,hOA3,hOC3,hr0,hr1,hd1,hd2,hl1,hl2,hSA,hSC,hF3⟩
      have hej:=Hej.out
      have HTr1:=zh (Za5 _ zs xs.length ca w3 hl1 hOA3.shows0 (by omega) (by omega))
      have HTr2:=zh (Za5 _ zt (ys.length + j) c6 w3 (by omega) hOC3.shows0 (by have:=HLC.out; omega) (by omega))
      have HNew:Hid (ZdP w w3 g (ZaV zs) (ZaV zt) (some ⟨bA,0,none⟩) ca (some ⟨bC,0,none⟩) c6):=by
       obtain ⟨q1,q2,q3,q4⟩:=HQ.out
       have t1:=ZaR zs
       have t2:=ZcI zs zs.length
       refine ⟨Buf.takeG (Or.inr ⟨bA,rfl,hOA3,hSA _ hP.out.2.1,by omega,hcAm⟩) _,Buf.takeG (Or.inr ⟨bC,rfl,hOC3,hSC _ HCC.out,by have:=HLC.out; omega,hcCm⟩) _,Zca hd1,Zca hd2,ZbP _,ZbP _,?_,?_,?_,fun b hb=>?_,fun b hb=>?_,fun b hb hb2=>?_,by omega⟩
       ·rw [ZaZ,ZaZ,hr0,hr1]; omega
       ·rw [ZaZ,ZaZ,hr0,hr1,q3]; exact hS.out.2.2.2.2.2.2.2.1
       ·refine hP.out.2.2.2.2.2.1.next hF3 (fun i hi e=>?_)
        rcases e with e | e
        ·have:=hP.out.2.2.2.2.2.2.1; omega
        ·have:=hbC.1; omega
       ·obtain ⟨a,ha,rfl⟩:=hb
        injection ha with ha; subst ha
        exact hP.out.2.2.2.2.2.2.1
       ·obtain ⟨a,ha,rfl⟩:=hb
        injection ha with ha; subst ha
        exact hbC.1
       ·obtain ⟨a,ha,rfl⟩:=hb
        injection ha with ha; subst ha
        obtain ⟨a',ha',e⟩:=hb2
        injection ha' with ha'; subst ha'
        exact hbC.2.1 e
      have HMs:Hid (val W64 (ZaV zs) + val W64 (ZaV zt) < val W64 xs + val W64 ys):=by
       obtain ⟨q1,q2,q3,q4⟩:=HQ.out
       have h2:=hS.out.2.2.2.2.2.2.1
       unfold Hid
       rw [ZaZ,ZaZ,hr0,hr1]; omega
      have Htl1:=zh (ZaR zs)
      have Htl2:=zh (ZaR zt)
      clear hOA3 hOC3 hr0 hr1 hd1 hd2 hSA hSC hF3 hej hl1 hl2
      go_wp2_with fail
      refine HTr1.out.mono ?_
      rintro e w4 ⟨rfl,rfl⟩
      go_wp2_with fail
      refine HTr2.out.mono ?_
      rintro e w4 ⟨rfl,rfl⟩
      go_wp2
      go_roundg (val W64 (ZaV zs) + val W64 (ZaV zt))
      case measure=>rw [HK.out]; exact HMs.out
      case rel=>exact ⟨ZaV zs,ZaV zt,_,ca,_,c6,rfl,by rw [Htl1.out],by rw [Htl2.out],HNew⟩
  ·have h1':decide ((1:Int) < (ys.length:Int))=false:=by simp; omega
   by_cases h0:ys=[]
   ·subst h0
    have HN:Hid (Zad wr (.slice Aa xs.length ca) g):=by
     have k1:=hS.out.1.natIs hS.out.2.2.1 hS.out.2.2.2.2.1
     have k2:=hS.out.2.2.2.2.2.2.2.1
     rw [ZcS,Nat.gcd_zero_right] at k2
     rw [k2] at k1
     exact k1
    have HE:Hid (Ext w wr):=hS.out.2.2.2.2.2.2.2.2.1
    clear hS h1 h1' hlen
    go_wp2
    go_ret
    exact ⟨_,rfl,HN.out,HE.out⟩
   ·obtain ⟨y,rfl⟩:∃ y,ys=[y]:=by
     match ys,(by have:=List.length_pos_iff.2 h0; omega:ys.length=1) with
     | [y],_=>exact ⟨y,rfl⟩
    obtain ⟨b3,rfl,hOB,_⟩:=hS.out.2.1.openG h0
    have hc3:=hOB.cell (i:=0) (by simp)
    simp at hc3
    have hb3:=zh hOB.lt
    have HE2:Hid (Ext w wr):=hS.out.2.2.2.2.2.2.2.2.1
    have HS2:Hid (Zai .u64 wr Aa xs):=hS.out.1.shows
    have Hdx:=zh hS.out.2.2.1
    have hyW:y < W64:=hS.out.2.2.2.1 y (by simp)
    have hy0:0 < y:=by
     have:=hS.out.2.2.2.2.2.1 0 rfl
     simp at this; omega
    have hgc:=hS.out.2.2.2.2.2.2.2.1
    simp only [Zb1,ZcS,Nat.mul_zero,Nat.add_zero] at hgc
    obtain ⟨r,er⟩:∃ r,val W64 xs % y=r:=⟨_,rfl⟩
    have hzz:Hid (r < W64∧Nat.gcd y r=g∧g < W64):=by
     have k1:=Nat.mod_lt (val W64 xs) hy0
     have k3:=Nat.gcd_le_right (val W64 xs) hy0
     rw [hgc] at k3
     refine ⟨by omega,?_,by omega⟩
     rw [← er,← hgc,Nat.gcd_comm y,← Nat.gcd_rec,Nat.gcd_comm]
    obtain ⟨x,ex⟩:∃ x,xs.length=x:=⟨_,rfl⟩
    rw [ex] at hx79 ⊢
    have HC3:Hid (wr.cell? ⟨b3,0,none⟩=some (.int .u64 (y:Int))):=hc3
    have Hy0:=zh hy0
    have Hn:=zh hyW
    have Her:=zh er
    have Hex:=zh ex
    clear hS hOB hgc er ex h0 h1 h1' hlen hy0 hyW
    go_wp2_with fail
    go_region_held3 (fun w'=>w'.cell? ⟨b3,0,none⟩=some (.int .u64 (y:Int)))
     (first | exact HC3.out | exact (Fr.cell (p:=⟨b3,0,none⟩) (Fr.undrew hFF) hb3.out (fun f=>f)).trans HC3.out)
     (first
      | (go_at_call 312
         refine (ZcA Aa xs x ca y _ Hex.out HS2.out.drew (by have:=Hex.out; omega) Hdx.out Hy0.out Hn.out).mono ?_
         rintro e w4 ⟨rfl,nd4,hw4⟩
         rw [Her.out]
         have hFF:Ext wr.drew w4:=hw4 ▸ (Fr.refl _ wr.drew).drewN nd4
         clear hw4)
      | (go_at_call 311
         refine (Zee y r g _ (HG.out.ext (HE2.out.trans (Fr.undrew hFF))) Hn.out hzz.out.1 hzz.out.2.1).mono ?_
         rintro e w5 ⟨rfl,rfl⟩)
      | (go_at_call 116
         refine (Zc4 g _ hzz.out.2.2).mono ?_
         rintro e w6 ⟨v6,rfl,hN6,hF6⟩
         replace hFF:Ext wr.drew w6:=hFF.trans hF6))
    go_wp2
    go_ret
    exact ⟨_,rfl,hN6,HE2.out.trans (Fr.undrew hFF)⟩
theorem ZkH (u v:Value) (m n:Nat) (w:World) (hg:Glob w) (hu:Zad w u m) (hv:Zad w v n) (hm:wl m≤79) (hn:wl n≤79):Calls Tryz.prog 229 #[u,v] w (Za0 w (Nat.gcd m n)):=by
 by_cases hs:min m n < W64
 ·exact ZfD u v m n w hg hu hv (by omega) (by omega) hs
 ·rcases Nat.lt_or_ge m n with h | h
  ·exact Zj8 v u n m _ w hg hv hu hn (by omega) h (Nat.gcd_comm _ _)
  ·exact Zj7 u v m n _ w hg hu hv hm (by omega) h rfl
theorem Zlv (u v:Value) (m n:Nat) (w:World) (hg:Glob w) (hu:Zad w u m) (hv:Zad w v n) (hm:wl m≤4294967296) (hn:wl n≤4294967296) (hs:min m n < W64∨(wl m≤79∧wl n≤79)):Calls Tryz.prog 229 #[u,v] w (Za0 w (Nat.gcd m n)):=by
 rcases hs with h | h
 ·exact ZfD u v m n w hg hu hv hm hn h
 ·exact ZkH u v m n w hg hu hv h.1 h.2
end Go.Proofs.YtcpjeaaapocoeaaGreatDoor

namespace Go.Proofs.YtcpjeaaapocoeaaGreatDoor
open Go.RowKit
def ZcL (x y:Int):Prop:=min x.natAbs y.natAbs < W64∨(wl x.natAbs≤79∧wl y.natAbs≤79)
theorem ZcL.words {x y:Int} (hx:wl x.natAbs≤79) (hy:wl y.natAbs≤79):ZcL x y:=Or.inr ⟨hx,hy⟩
set_option maxHeartbeats 1000000 in
theorem Zd4 (a b:Value) (x y:Int) (w:World) (hg:Glob w) (ha:Zap w a x) (hb:Zap w b y) (hx:Fits x) (hy:Fits y) (hs:ZcL x y):Calls Tryz.prog 121 #[a,b] w (Zbk w (Int.gcd x y:Int)):=by
 obtain ⟨s,A,l,c,rfl,hN,hz,z0⟩:=ha.open
 obtain ⟨t,A',l',c',rfl,hN',hz',z0'⟩:=hb.open
 have HN:=zh hN
 have HN':=zh hN'
 have Hx:Hid (wl x.natAbs≤4294967296):=by unfold Fits at hx; unfold Hid; omega
 have Hy:Hid (wl y.natAbs≤4294967296):=by unfold Fits at hy; unfold Hid; omega
 have HG:=zh hg
 have HS:=zh hs
 obtain ⟨z,ez⟩:∃ z,Int.gcd x y=z:=⟨_,rfl⟩
 have Ez:Hid (Nat.gcd x.natAbs y.natAbs=z):=ez
 rw [ez]
 clear ha hb hx hy hN hN' hz hz' z0 z0' hg hs ez
 go_enter Tryz.func121,Tryz.ntmps121
 go_wp2_with fail
 generalize hwb:World.alloc (World.alloc (World.alloc w _) _) _=wb
 obtain ⟨hBx,hBy,hBr,Q⟩:=Za6 hwb
 have HBr:=zh hBr
 have HE:=zh Q
 clear hwb hBx hBy hBr Q
 refine (Zlv _ _ _ _ _ (HG.out.ext HE.out) (HN.out.ext HE.out) (HN'.out.ext HE.out) Hx.out Hy.out HS.out).mono ?_
 rintro e w1 ⟨u1,rfl,hN1,hF1⟩
 rw [Ez.out] at hN1
 obtain ⟨A1,l1,c1,rfl⟩:=hN1.slice
 obtain ⟨z0,z1,z2,z3⟩:=(HBr.out.ext hF1).cell2
 have HN1:=zh hN1
 have HF1:=zh hF1
 clear hN1 hF1
 go_wp2
 exact ZbL (neg:=false) rfl rfl (by omega) HE.out HBr.out HF1.out HN1.out rfl rfl
set_option maxHeartbeats 1000000 in
theorem Zjn (n:Nat) (w:World) (hn:n < W64) (hw:IntKind.u64.wrap (n:Int)=(n:Int)) (hlt:decide ((n:Int) < 0)=false):Calls Tryz.prog 53 #[.int .i64 (n:Int)] w (Zbk w (n:Int)):=by
 have Hn:=zh hn
 clear hn
 go_enter Tryz.func53,Tryz.ntmps53
 go_wp2_with fail
 generalize hwb:World.alloc w _=wb
 have HBr:Hid (Blk 135 wb w.heap.size #[.bool false, .slice none 0 0]):=hwb ▸ Blk.new _ _ _
 have HE:Hid (Ext w wb):=hwb ▸ (Fr.refl _ _).alloc _
 clear hwb
 refine (Zc4 n _ Hn.out).mono ?_
 rintro e w1 ⟨u1,rfl,hN1,hF1⟩
 obtain ⟨A1,l1,c1,rfl⟩:=hN1.slice
 obtain ⟨z0,z1,z2,z3⟩:=(HBr.out.ext hF1).cell2
 have HN1:=zh hN1
 have HF1:=zh hF1
 clear hN1 hF1
 go_wp2
 exact ZbL (neg:=false) rfl rfl (by omega) HE.out HBr.out HF1.out HN1.out rfl rfl
end Go.Proofs.YtcpjeaaapocoeaaGreatDoor

namespace Go.Proofs.YtcpjeaaapocoeaaGreatDoor
open Go.RowKit
end Go.Proofs.YtcpjeaaapocoeaaGreatDoor

namespace Go.Proofs.YtcpjeaaapocoeaaGreatDoor
open Go.RowKit Go.Sort
theorem Zbx.mono {w w0:World} {A A0:Option Addr} {l l':List UInt8} {e:Ending} {w':World} (h:Zbx w A l e w') (hl:l=l') (hF:Fr (Zah A0) w0 w) (hA:∀ b,Zah A b→Zah A0 b∨w0.heap.size≤b):Zbx w0 A0 l' e w':=by
 subst hl
 obtain ⟨A',cap',rfl,hB,hF',hA'⟩:=h
 refine ⟨A',cap',rfl,hB,hF.next hF' (fun i hi hb=>?_),fun b hb=>?_⟩
 ·rcases hA i hb with h | h
  ·exact h
  ·omega
 ·rcases hA' b hb with h | h
  ·exact hA b h
  ·exact Or.inr (Nat.le_trans hF.size h)
set_option maxHeartbeats 2000000 in
theorem Zh2 (A:Option Addr) (cap n:Nat) (l:List UInt8) (xv:Value) (w:World) (hx:Zad w xv 0) (hn:l.length=n) (hB:TBuf w A cap l) (hl:n≤1099511627776) :
 Calls Tryz.prog 232 #[.slice A n cap,xv] w (Zbx w A (l ++ Lib.decDigits 0)):=by
 obtain ⟨A2,xs,c,rfl,_,_,h2,h3,h4⟩:=hx
 have h5:=ZaE h2 h3
 rw [h4,Zcl] at h5
 obtain rfl:xs=[]:=List.length_eq_zero_iff.1 h5
 have HB:=zh hB
 have HN:=zh hn
 clear hB hn h2 h3 h4 h5
 go_enter Tryz.func232,Tryz.ntmps232
 go_wp2_with (at_builtin
              refine ZaB rfl _ _ _ rfl _ .u8 1 Tryz.underlying37 Zcq A (some ⟨w.heap.size,0,none⟩) n 1 cap 1 rfl rfl (nats l) (nats [48]) (by rw [Zaz]; exact HN.out) rfl (HB.out.ext ((Fr.refl _ _).alloc _)) ?_ (by simp only [maxLen]; omega) (by omega) ?_
              ·exact (Own.new w 5 .u8 [48] []).shows0
              intro A1 cap1 w2 hB1 hF1 hA1
              have HB1:=zh hB1
              have HF1:=zh hF1
              have HA1:=zh hA1
              clear hB1 hF1 hA1)
 go_ret
 have e0:Lib.decDigits 0=[48]:=by rw [Lib.decDigits,dif_pos (by omega)]; rfl
 rw [e0]
 refine ⟨A1,cap1,?_,?_,?_,?_⟩
 ·rw [List.length_append,HN.out]; rfl
 ·show Buf _ _ _ _ _ (nats (l ++ [48]))
  rw [Zbu]; exact HB1.out
 ·exact ((Fr.refl _ _).alloc _).trans HF1.out
 ·intro b hb
  rcases HA1.out b hb with h | h
  ·exact Or.inl h
  ·exact Or.inr (by simp at h; omega)
set_option maxHeartbeats 2000000 in
theorem ZiB (A:Option Addr) (cap n x:Nat) (l:List UInt8) (xv:Value) (w:World) (hg:Glob w) (hx:Zad w xv x) (h0:0 < x) (hW:x < W64) (hn:l.length=n) (hB:TBuf w A cap l) (hl:n≤1099511627776) :
 Calls Tryz.prog 232 #[.slice A n cap,xv] w (Zbx w A (l ++ Lib.decDigits x)):=by
 obtain ⟨A2,xs,c,rfl,_,h1,h2,h3,h4⟩:=hx
 have h5:=ZaE h2 h3
 rw [h4] at h5
 have h6:=ZcN.2 hW
 have h7:=Zeq h0
 obtain ⟨x0,rfl⟩:∃ x0,xs=[x0]:=by
  match xs,(by omega:xs.length=1) with
  | [y],_=>exact ⟨y,rfl⟩
 simp at h4
 subst h4
 obtain ⟨b,off,rfl,hb,hc0⟩:=h1.at (i:=0) (by simp)
 simp at hc0
 have hne:=Nat.ne_of_lt hb
 have HB:=zh hB
 have HN:=zh hn
 have HG:=zh hg
 have HW:=zh hW
 generalize hm:l ++ Lib.decDigits x0=m
 have HM:=zh hm
 clear hB hn hg hW h1 h2 h3 h5 h6 h7 hm
 go_enter Tryz.func232,Tryz.ntmps232
 go_wp2_with fail
 refine (Zjg A cap n x0 l w HG.out HW.out HN.out HB.out hl).mono ?_
 rw [HM.out]
 rintro e w' ⟨A1,cap1,rfl,hB,hF,hA⟩
 have HB:=zh hB
 have HF:=zh hF
 have HA:=zh hA
 clear hB hF hA
 go_wp2
 go_ret
 exact ⟨A1,cap1,rfl,HB.out,HF.out,HA.out⟩
def Zb8 (w0:World) (A:Option Addr):Prop:=∀ b,Zah A b→w0.heap.size≤b
theorem Zb8.nil {w0:World}:Zb8 w0 none:=fun b hb=>by obtain ⟨a,ha,_⟩:=hb; cases ha
theorem Zb8.next {w0 w:World} {A A':Option Addr} (h:Zb8 w0 A) (Q:Ext w0 w) (hA:∀ b,Zah A' b→Zah A b∨w.heap.size≤b):Zb8 w0 A':=fun b hb=>by
 rcases hA b hb with k | k
 ·exact h b k
 ·exact Nat.le_trans Q.size k
theorem Zb8.ext {w0 w w':World} {A:Option Addr} (h:Zb8 w0 A) (Q:Ext w0 w) (hF:Fr (Zah A) w w'):Ext w0 w':=Q.next hF (fun i hi hb=>by have:=h i hb; omega)
end Go.Proofs.YtcpjeaaapocoeaaGreatDoor

namespace Go.Proofs.YtcpjeaaapocoeaaGreatDoor
open Go.RowKit Go.Sort
noncomputable def T19:Nat:=Classical.choose (p:=fun n:Nat=>n=10000000000000000000) ⟨_,rfl⟩
theorem ZgJ:T19=10000000000000000000:=Classical.choose_spec (p:=fun n:Nat=>n=10000000000000000000) ⟨_,rfl⟩
theorem Zdd:0 < T19:=by have:=ZgJ; omega
theorem ZgK:T19 < W64:=by rw [ZgJ,Zal]; omega
theorem Zd5:T19=10 ^ 19:=by rw [ZgJ]
theorem Zjo:((T19:Nat):Int)=10000000000000000000:=by rw [ZgJ]; rfl
theorem ZnS (hi lo:Nat) (w:World) (h1:hi < T19) (hlo:lo < W64) :
 Calls Tryz.prog 364 #[.int .u64 (hi:Int), .int .u64 (lo:Int), .int .u64 10000000000000000000] w fun e w'=>e=.returned (.tuple #[.int .u64 (divQ hi lo T19:Nat), .int .u64 (divR hi lo T19:Nat)])∧∃ n,w'=w.drewN n:=by
 have h:=Zfe hi lo T19 w h1 ZgK hlo
 rw [Zjo] at h
 exact h
def Ch19 (n:Nat) (xs:List Nat) (m:Nat):Prop:=Dig T19 xs∧n=val T19 xs + T19 ^ xs.length * m∧(m=0→Trim xs)
theorem Ch19.start (n:Nat):Ch19 n [] n:=⟨Dig.nil,by simp,fun _=>Trim.nil⟩
theorem Zm2 {xs:List Nat} {r:Nat} (h:r≠0):Trim (xs ++ [r]):=fun k hk=>by
 simp at hk
 subst hk
 simpa using h
theorem Ch19.step {n m:Nat} {xs:List Nat} (h:Ch19 n xs m) (hm:0 < m):Ch19 n (xs ++ [m % T19]) (m / T19):=by
 obtain ⟨h1,h2,_⟩:=h
 refine ⟨h1.append (Dig.nil.cons (Nat.mod_lt _ Zdd)),?_,fun h0=>Zm2 ?_⟩
 ·rw [ZaQ,List.length_append,List.length_singleton,Nat.pow_succ,Nat.add_assoc,Nat.mul_assoc,← Nat.mul_add,Zb1,ZcS,Nat.mul_zero,Nat.add_zero,Nat.mod_add_div]
  exact h2
 ·have:=Nat.div_add_mod m T19
  rw [h0] at this
  omega
theorem Ch19.len {n m:Nat} {xs:List Nat} (h:Ch19 n xs m) (hm:0 < m):xs.length < 2 * wl n:=by
 obtain ⟨_,h2,_⟩:=h
 rcases Nat.lt_or_ge xs.length (2 * wl n) with hl | hl
 ·exact hl
 ·have h3:T19 ^ (2 * wl n)≤T19 ^ xs.length:=Nat.pow_le_pow_right Zdd hl
  have h4:T19 ^ xs.length * 1≤T19 ^ xs.length * m:=Nat.mul_le_mul_left _ hm
  have h5:W64 ^ wl n≤T19 ^ (2 * wl n):=by
   rw [Nat.pow_mul]; exact Nat.pow_le_pow_left (by rw [Zal,ZgJ]; decide) _
  have h6:=Ze9 n
  generalize T19 ^ xs.length=P at *
  generalize T19 ^ (2 * wl n)=Q at *
  omega
noncomputable def ZbZ (cs:List Nat) (width k:Nat):List UInt8:=if k=cs.length then [] else ZaT (val T19 (cs.drop k)) (width - 19 * k)
theorem Zeg (cs:List Nat) (width:Nat):ZbZ cs width cs.length=[]:=if_pos rfl
theorem Zm3 {cs:List Nat} (h:Trim cs) (j:Nat):Trim (cs.drop j):=fun k hk=>by
 rw [List.length_drop] at hk
 rw [List.getElem?_drop]
 exact h (j + k) (by omega)
theorem Zlw {cs:List Nat} {width j c:Nat} (hl:cs.length=j + 1) (ht:Trim cs) (hc:cs[j]?.getD 0=c):ZbZ cs width j=List.replicate (width - 19 * j - (Lib.decDigits c).length) 48 ++ Lib.decDigits c:=by
 have h0:=ht j hl
 rw [hc] at h0
 rw [ZbZ,if_neg (by omega),ZaO j (by omega),hc,List.drop_of_length_le (by omega),ZcS,Nat.mul_zero,Nat.add_zero,ZaT,Zcy (by omega)]
theorem Zme {cs:List Nat} {width j c:Nat} (hl:j + 1 < cs.length) (hd:Dig T19 cs) (ht:Trim cs) (hc:cs[j]?.getD 0=c):ZbZ cs width j=ZbZ cs width (j + 1) ++ List.replicate (19 - (Lib.decDigits c).length) 48 ++ Lib.decDigits c:=by
 have hcl:c < T19:=hc ▸ hd.getD Zdd j
 have hp:0 < val T19 (cs.drop (j + 1)):=ZdG (Zm3 ht _) Zdd (fun e=>by
  have:=congrArg List.length e
  simp at this; omega)
 rw [ZbZ,ZbZ,if_neg (by omega),if_neg (by omega),ZaO j (by omega),hc,List.append_assoc,← ZnJ (by omega) (by rw [← Zd5]; exact hcl)]
 rw [show c + T19 * val T19 (cs.drop (j + 1))=val T19 (cs.drop (j + 1)) * 10 ^ 19 + c by rw [← Zd5,Nat.mul_comm]; omega]
 rw [ZeU (by rw [← Zd5]; exact hcl) (Or.inl hp)]
 congr 2
theorem Zm4 {cs:List Nat} (width k:Nat) (hd:Dig T19 cs):(ZbZ cs width k).length≤width + 19 * cs.length:=by
 rw [ZbZ]
 split
 ·simp
 ·rw [Zgo]
  have h1:=ZaX (hd.drop k)
  rw [Zd5,← Nat.pow_mul] at h1
  have h2:=ZeD _ _ h1
  rw [← Zd5,List.length_drop] at h2
  omega
theorem Zpw {c:Nat} (h:c < T19):(Lib.decDigits c).length≤19:=by
 rcases Nat.eq_zero_or_pos c with h0 | h0
 ·subst h0; rw [Lib.decDigits_one (by omega)]; simp
 ·have:=ZeD 19 c (by rw [← Zd5]; exact h)
  rwa [Zcy h0] at this
theorem ZoM (c:Nat):0 < (Lib.decDigits c).length:=by rw [Lib.decDigits_length]; exact Lib.nDigits_pos c
def ZdQ (xs:List Nat) (u k:Nat) (qs:List Nat) (r:Nat):Prop:=Zdm xs u k qs r∧qs.take k=xs.take k
theorem ZdQ.start (xs:List Nat) {u:Nat} (hd:Dig W64 xs) (hu:0 < u):ZdQ xs u xs.length xs 0 :=
 ⟨⟨rfl,hd,hu,by rw [List.drop_of_length_le (Nat.le_refl _)]; simp⟩,rfl⟩
theorem ZdQ.at {xs qs:List Nat} {u k r:Nat} (h:ZdQ xs u (k + 1) qs r):qs[k]?.getD 0=xs[k]?.getD 0:=by
 have:=congrArg (fun l:List Nat=>l[k]?.getD 0) h.2
 simpa [List.getElem?_take] using this
theorem ZdQ.step {xs qs:List Nat} {u k r x:Nat} (h:ZdQ xs u (k + 1) qs r) (hk:k < xs.length) (hx:qs[k]?.getD 0=x) (hxW:x < W64):ZdQ xs u k (qs.set k (divQ r x u)) (divR r x u):=by
 refine ⟨h.1.step hk (by rw [← h.at]; exact hx) hxW,?_⟩
 rw [List.take_set_of_le (Nat.le_refl _)]
 have:=congrArg (List.take k) h.2
 simpa [List.take_take] using this
def Smp (w wr:World) (x:Nat) (ws cs:List Nat) (Aw:Option Addr) (cw:Nat) (Ac:Option Addr) (cc:Nat):Prop :=
 Buf .u64 217 wr Aw cw ws∧Dig W64 ws∧Trim ws∧Buf .u64 217 wr Ac cc cs∧Ext w wr∧Ch19 x cs (val W64 ws)∧(∀ b,Zah Aw b→w.heap.size≤b)∧(∀ b,Zah Ac b→w.heap.size≤b)∧(∀ b,Zah Aw b→¬ Zah Ac b)∧ws.length≤wl x∧cs.length≤2 * wl x
def Wrt (w wr:World) (A:Option Addr) (L:List UInt8) (cs:List Nat) (Ac:Option Addr) (cc bb:Nat) (bs:List Nat) (t:Nat) (A':Option Addr) (cap':Nat):Prop :=
 TBuf wr A' cap' L∧L.length=t∧Buf .u64 217 wr Ac cc cs∧Room .u8 449 wr bb 20 bs∧Fr (Zah A) w wr∧(∀ b,Zah A' b→Zah A b∨w.heap.size≤b) ∧
  ¬ Zah A' bb∧w.heap.size≤bb∧(∀ b,Zah Ac b→¬ Zah A' b∧b≠bb∧w.heap.size≤b)
section
variable {w wr w2:World} {A:Option Addr} {L:List UInt8} {cs:List Nat} {Ac:Option Addr} {cc bb t:Nat} {bs:List Nat} {A' A2:Option Addr} {cap' cap2:Nat}
theorem Wrt.app (h:Wrt w wr A L cs Ac cc bb bs t A' cap') {news:List UInt8} {m:Nat} (hm:news.length=m)
 (hB:Buf .u8 5 w2 A2 cap2 (nats L ++ nats news)) (hF:Fr (Zah A') wr w2) (hA:∀ b,Zah A2 b→Zah A' b∨wr.heap.size≤b):Wrt w w2 A (L ++ news) cs Ac cc bb bs (t + m) A2 cap2:=by
 obtain ⟨h1,h2,h3,h4,h5,h6,h7,h8,h9⟩:=h
 have hbl:=h4.1.lt
 refine ⟨?_,by rw [List.length_append,h2,hm],h3.fr hF (fun b hb=>(h9 b hb).1),h4.fr hF h7,h5.next hF (fun i hi hb=>?_),?_,?_,h8,?_⟩
 ·show Buf _ _ _ _ _ (nats (L ++ news))
  rw [Zbu]; exact hB
 ·rcases h6 i hb with k | k
  ·exact k
  ·omega
 ·intro b hb
  rcases hA b hb with k | k
  ·exact h6 b k
  ·have:=h5.size; exact Or.inr (by omega)
 ·intro hb
  rcases hA bb hb with k | k
  ·exact h7 k
  ·omega
 ·intro b hb
  refine ⟨fun hb2=>?_,(h9 b hb).2⟩
  rcases hA b hb2 with k | k
  ·exact (h9 b hb).1 k
  ·have:=h3.lt hb; omega
theorem Wrt.zero {o:Obj} (h:Wrt w wr A L cs Ac cc bb bs t A' cap')
 (hB:Buf .u8 5 w2 A2 cap2 (nats L ++ [48])) (hF:Fr (Zah A') (wr.alloc o) w2) (hA:∀ b,Zah A2 b→Zah A' b∨b=(wr.alloc o).heap.size):Wrt w w2 A (L ++ [48]) cs Ac cc bb bs (t + 1) A2 cap2 :=
 h.app (news:=[48]) rfl hB (((Fr.refl (Zah A') wr).alloc o).trans hF) (fun b hb=>(hA b hb).imp id (fun k=>by simp at k; omega))
theorem Wrt.buf (h:Wrt w wr A L cs Ac cc bb bs t A' cap') {ds:List Nat} (hR:Room .u8 449 w2 bb 20 ds) (hF:Fr (· = bb) wr w2):Wrt w w2 A L cs Ac cc bb ds t A' cap':=by
 obtain ⟨h1,h2,h3,h4,h5,h6,h7,h8,h9⟩:=h
 refine ⟨h1.fr hF (fun b hb e=>by subst e; exact h7 hb),h2,h3.fr hF (fun b hb=>(h9 b hb).2.1),hR,h5.next hF (fun i hi e=>by omega),h6,h7,h8,h9⟩
theorem Wrt.ret (h:Wrt w wr A L cs Ac cc bb bs t A' cap'):Zbx w A L (.returned (.slice A' t cap')) wr :=
 ⟨A',cap',by rw [h.2.1],h.1,h.2.2.2.2.1,h.2.2.2.2.2.1⟩
end
end Go.Proofs.YtcpjeaaapocoeaaGreatDoor

namespace Go.Proofs.YtcpjeaaapocoeaaGreatDoor
open Go.RowKit Go.Sort
theorem Buf.takeK {k:IntKind} {e:TypeId} {w:World} {A:Option Addr} {cap:Nat} {xs:List Nat} (h:Buf k e w A cap xs) (n:Nat):Buf k e w A cap (xs.take n):=by
 rcases h with ⟨h1,rfl,h3⟩ | ⟨b,h1,h2,h3,h4,h5⟩
 ·exact Or.inl ⟨h1,by simp,h3⟩
 ·exact Or.inr ⟨b,h1,h2.take n,h3,by rw [List.length_take]; omega,h5⟩
theorem Buf.openK {k:IntKind} {e:TypeId} {w:World} {A:Option Addr} {cap:Nat} {xs:List Nat} (h:Buf k e w A cap xs) (hne:xs≠[]):∃ b,A=some ⟨b,0,none⟩∧Own k e w b xs∧ZbH e w b cap∧xs.length≤cap∧cap≤maxLen:=by
 rcases h with ⟨_,h,_⟩ | h
 ·exact absurd h hne
 ·exact h
theorem Zop (b:Nat):¬ Zah none b:=fun hb=>by obtain ⟨a,ha,_⟩:=hb; cases ha
theorem Smp.next {w wr w2 w3:World} {x b cw cc cc2 r:Nat} {ws cs qs:List Nat} {Ac Ac2:Option Addr} {o:Obj} (h:Smp w wr x ws cs (some ⟨b,0,none⟩) cw Ac cc) (hne:ws≠[]) (hI:ZdQ ws T19 0 qs r) (hO:Own .u64 217 w2 b qs) (hC:ZbH 217 w2 b cw)
 (hF:Fr (· = b) wr w2) (hB:Buf .u64 217 w3 Ac2 cc2 (cs ++ [r])) (hF3:Fr (Zah Ac) (w2.alloc o) w3) (hA3:∀ c,Zah Ac2 c→Zah Ac c∨c=(w2.alloc o).heap.size) :
 Smp w w3 x (ZaV qs) (cs ++ [r]) (some ⟨b,0,none⟩) cw Ac2 cc2:=by
 obtain ⟨h1,h2,h3,h4,h5,h6,h7,h8,h9,h10,h11⟩:=h
 have hbA:Zah (some ⟨b,0,none⟩) b:=⟨_,rfl,rfl⟩
 have hb:=h7 b hbA
 have hbl:=hO.lt
 have hF':Fr (Zah Ac) w2 w3:=((Fr.refl (Zah Ac) w2).alloc o).trans hF3
 have hD:=hI.1.done
 have hlen:qs.length=ws.length:=hI.1.1
 have hcap:ws.length≤cw∧cw≤maxLen:=by
  rcases h1 with ⟨h,_⟩ | ⟨b',hb',_,_,k⟩
  ·cases h
  ·exact k
 have hm:0 < val W64 ws:=ZdG h3 Zag hne
 refine ⟨?_,Zca hI.1.2.1,ZbP qs,hB,?_,?_,h7,?_,?_,?_,?_⟩
 ·exact (Buf.takeK (Or.inr ⟨b,rfl,hO,hC,by omega,hcap.2⟩) _).fr hF' (fun c hc=>by
   obtain ⟨a,ha,rfl⟩:=hc; injection ha with ha; subst ha; exact h9 _ hbA)
 ·exact (h5.next hF (fun i hi e=>by subst e; omega)).next hF' (fun i hi hc=>by have:=h8 i hc; omega)
 ·have:=h6.step hm
  rw [← hD.1,← hD.2] at this
  rwa [ZaZ]
 ·intro c hc
  rcases hA3 c hc with k | k
  ·exact h8 c k
  ·have:=h5.size; have:=hF.size; simp at k; omega
 ·intro c hc hc2
  obtain ⟨a,ha,rfl⟩:=hc
  injection ha with ha; subst ha
  rcases hA3 _ hc2 with k | k
  ·exact h9 _ hbA k
  ·simp at k; omega
 ·rw [ZaR]
  have:=ZcI qs qs.length
  omega
 ·have:=h6.len hm
  rw [List.length_append,List.length_singleton]; omega
theorem Zpx {w w':World} {b o bb:Nat} {u:Value} (hc:w.cell? ⟨b,o,none⟩=some u) (hne:b≠bb) (hF:Fr (· = bb) w.drew w'):w'.cell? ⟨b,o,none⟩=some u :=
 (hF.cell (p:=⟨b,o,none⟩) (World.block_lt_of_cell? w _ hc) hne).trans hc
theorem ZkI {w wb:World} (h:w.alloc (.cells (Array.replicate 20 (.int .u8 0)) 449)=wb):Room .u8 449 wb w.heap.size 20 []:=by
 subst h
 refine ⟨⟨List.replicate 20 (.int .u8 0),fun v hv=>⟨0,List.eq_of_mem_replicate hv⟩,?_⟩,_,heap_alloc_new w _,by simp⟩
 rw [heap_alloc_new]; rfl
set_option maxHeartbeats 4000000 in
theorem ZeV (A:Option Addr) (cap n x width:Nat) (l:List UInt8) (xv:Value) (w0 w:World) (Q:Ext w0 w) (hg:Glob w0) (hA:Zb8 w0 A) (hx:Zad w xv x) (hwl:wl x≤65536) (hn:l.length=n) (hB:TBuf w A cap l) (hl:n≤274877906944) (hwid:width≤274877906944) :
 Calls Tryz.prog 366 #[.slice A n cap,xv, .int .i64 (width:Int)] w (Zbx w A (l ++ ZaT x width)):=by
 obtain ⟨A2,xs,c,rfl,_,h1,h2,h3,h4⟩:=hx
 have h5:=ZaE h2 h3
 rw [h4] at h5
 have HX:=zh h1
 have HD:=zh h2
 have HT:=zh h3
 have HV:=zh h4
 have HL5:=zh h5
 have HE:=zh Q
 have HG:=zh hg
 have HA:=zh hA
 have HB:=zh hB
 have HN:=zh hn
 have hk:xs.length≤65536:=by omega
 have HWL:=zh hwl
 clear h1 h2 h3 h4 h5 Q hg hA hB hn hwl
 go_enter Tryz.func366,Tryz.ntmps366
 go_wp2_with fail
 refine (ZbB A2 xs xs.length c w rfl HX.out (by omega)).mono ?_
 rintro e w1 ⟨A1,cap1,rfl,hB1,hF1,hN1⟩
 have HS0:Hid (Smp w w1 x xs [] A1 cap1 none 0):=⟨hB1,HD.out,HT.out,Buf.nil,hF1,by rw [HV.out]; exact Ch19.start x,hN1,fun b hb=>(Zop b hb).elim,fun b _ hb=>Zop b hb,by rw [HL5.out]; exact Nat.le_refl _,by simp⟩
 clear hB1 hF1 hN1
 go_wp2
 go_loopw [7,8] (fun wv cv wr=>∃ (ws cs:List Nat) (Aw:Option Addr) (cw:Nat) (Ac:Option Addr) (cc:Nat),wv=.slice Aw ws.length cw∧cv=.slice Ac cs.length cc∧Hid (Smp w wr x ws cs Aw cw Ac cc)) (fun _ cv _=>match cv with | .slice _ k _=>2 * wl x + 1 - k | _=>0)
 case atStart=>exact ⟨xs,[],A1,cap1,none,0,rfl,rfl,HS0⟩
 case round =>
  clear HS0
  obtain ⟨ws,cs,Aw,cw,Ac,cc,rfl,rfl,hS⟩:=hrel
  have hwx:=HWL.out
  have hwlen:ws.length≤65536:=by have:=hS.out.2.2.2.2.2.2.2.2.2.1; omega
  have hclen:cs.length≤131072:=by have:=hS.out.2.2.2.2.2.2.2.2.2.2; omega
  by_cases hne:ws=[]
  ·subst hne
   obtain ⟨_,_,_,hBc,hEx,hCh,_,hAc,_,_,_⟩:=hS.out
   have HTc:Hid (Trim cs):=hCh.2.2 (by simp)
   have HVc:Hid (x=val T19 cs):=by have:=hCh.2.1; unfold Hid; simpa using this
   have HDc:Hid (Dig T19 cs):=hCh.1
   have HBc:=zh hBc
   have HEx:=zh hEx
   have HAc:=zh hAc
   have hal:Tryz.prog.arrayLen 449=20:=by simp [Program.arrayLen,Tryz.underlying449]
   clear hBc hEx hCh hAc hS hwlen
   go_wp2
   generalize hwb:World.alloc wr _=wb
   have hRm:=ZkI hwb
   have hEb:Ext wr wb:=hwb ▸ (Fr.refl _ _).alloc _
   have hbb:=HEx.out.size
   have HW0:Hid (Wrt w wb A (l ++ ZbZ cs width cs.length) cs Ac cc wr.heap.size [] n A cap):=by
    rw [Zeg,List.append_nil]
    refine ⟨HB.out.ext (HEx.out.trans hEb),HN.out,HBc.out.ext hEb,hRm,((HEx.out.trans hEb).mono (fun _ _ h=>h.elim)),fun b hb=>Or.inl hb,fun hb=>?_,hbb,fun b hb=>⟨fun hb2=>?_,?_,HAc.out b hb⟩⟩
    ·have:=HB.out.lt hb; omega
    ·have:=HB.out.lt hb2; have:=HAc.out b hb; omega
    ·have:=HBc.out.lt hb; omega
   clear hwb hRm hEb HBc HEx HAc HB
   generalize wr.heap.size=bb at *
   have hsl:∀ W,(Instr.sliceAt 449 (.pointer (some ⟨bb,0,none⟩)) none (some (.int .i64 0)) none).run Tryz.prog W=.ok (.slice (some ⟨bb,0,none⟩) 0 20) W:=fun W=>by
    rw [run_sliceAt_array_h W 449 ⟨bb,0,none⟩ (by simp [Program.arrayLen,Program.elem,Tryz.underlying449]) .i64 0 (by omega) (by rw [hal]; omega)]
    go_simp
   go_loopw [0,12,13] (fun tv fv iv wq=>∃ (k t:Nat) (A':Option Addr) (cap':Nat),k≤cs.length∧iv=.int .i64 ((k:Int) - 1)∧tv=.slice A' t cap'∧fv=.bool (decide (k=cs.length))∧Hid (Wrt w wq A (l ++ ZbZ cs width k) cs Ac cc bb [] t A' cap')) (fun _ _ iv _=>(intOf iv + 1).toNat)
   case atStart=>exact ⟨cs.length,n,A,cap,Nat.le_refl _,rfl,rfl,by simp,HW0⟩
   case round =>
    clear HW0
    obtain ⟨k,t,A',cap',hk',rfl,rfl,rfl,hS⟩:=hrel
    by_cases hlt:0 < k
    ·obtain ⟨j,rfl⟩:∃ j,k=j + 1:=⟨k - 1,by omega⟩
     have ej:(((j + 1:Nat):Int) - 1)=(j:Int):=by omega
     rw [ej]
     clear ej
     have hjc:j < cs.length:=by omega
     obtain ⟨bc,rfl,hOc,_,_,_⟩:=hS.out.2.2.1.openK (by intro e; rw [e] at hjc; simp at hjc)
     have hcc:=hOc.cell hjc
     obtain ⟨cx,ecx⟩:∃ cx,cs[j]?.getD 0=cx:=⟨_,rfl⟩
     rw [ecx] at hcc
     have Hcx:Hid (cx < T19):=ecx ▸ HDc.out.getD Zdd j
     have HcW:Hid (cx < W64):=Nat.lt_trans Hcx.out ZgK
     have HRm:Hid (Room .u8 449 wr bb 20 []):=hS.out.2.2.2.1
     have HGr:Hid (Glob wr):=HG.out.ext (HA.out.ext HE.out hS.out.2.2.2.2.1)
     have hneR:bc≠bb:=(hS.out.2.2.2.2.2.2.2.2 bc ⟨_,rfl,rfl⟩).2.1
     clear hOc
     go_wp2_with fail
     go_region_held3 (fun w'=>w'.cell? ⟨bc,j,none⟩=some (.int .u64 (cx:Int)))
      (first | exact hcc | exact Zpx hcc hneR (by assumption))
      (first
       | (go_at_call 313
          refine (Ziw 449 bb 20 cx _ (HGr.out.ext (Fr.refl _ _).drew) HcW.out (HRm.out.ext (Fr.refl _ _).drew) (by omega)).mono ?_
          rintro e w1 ⟨rfl,hR1,hF1⟩))
     have HdsL:Hid ((Lib.decDigits cx).length≤19):=Zpw Hcx.out
     have HdsP:=ZoM cx
     have hdl:=HdsL.out
     have HFst:=fun (h:cs.length=j + 1)=>zh (Zlw (width:=width) h HTc.out ecx)
     have HNxt:=fun (h:j + 1 < cs.length)=>zh (Zme (width:=width) h HDc.out HTc.out ecx)
     have HW1:Hid (Wrt w w1 A (l ++ ZbZ cs width (j + 1)) cs (some ⟨bc,0,none⟩) cc bb (nats (Lib.decDigits cx)) t A' cap'):=hS.out.buf hR1 (Fr.undrew hF1)
     have htl:=hS.out.2.1
     have hol:=Zm4 width (j + 1) HDc.out
     have htb:t≤549755813888 + 2490368:=by rw [List.length_append] at htl; have:=HN.out; omega
     generalize Lib.decDigits cx=ds at *
     clear hR1 hF1 ecx hcc Hcx HcW HRm HGr hS hsl hal htl hol
     have hdec0:decide (j=cs.length)=false:=by simp; omega
     by_cases hfst:j + 1=cs.length
     ·rw [decide_eq_true hfst]
      have HO1:=HFst hfst.symm
      rw [hfst,Zeg,List.append_nil] at HW1
      clear HFst HNxt
      obtain ⟨size,hsz⟩:∃ size:Nat,max ds.length (width - 19 * j)=size:=⟨_,rfl⟩
      obtain ⟨m,hm⟩:∃ m:Nat,width - 19 * j - ds.length=m:=⟨_,rfl⟩
      have hmx:max (ds.length:Int) ((width:Int) - 19 * (j:Int))=(size:Int):=by
       rw [Nat.max_def] at hsz; rw [Int.max_def]; split at hsz<;>split<;>omega
      have hsub:(size:Int) - (ds.length:Int)=(m:Int):=by
       rw [Nat.max_def] at hsz; split at hsz<;>omega
      have hszB:size≤274877906944 + 19:=by rw [Nat.max_def] at hsz; split at hsz<;>omega
      have hmB:m≤274877906944:=by omega
      obtain ⟨L0,eL0⟩:∃ L0,L0=l:=⟨l,rfl⟩
      have HO:Hid (l ++ ZbZ cs width j=L0 ++ List.replicate m 48 ++ ds):=by unfold Hid; rw [HO1.out,hm,eL0,List.append_assoc]
      rw [← eL0] at HW1
      clear HO1 hm eL0 hsz hfst
      go_wp2
      clear hmx hsub
      go_loopw [0,71] (fun tv iv wq=>∃ (i t2:Nat) (A2:Option Addr) (cap2:Nat),i≤m∧iv=.int .i64 (i:Int)∧tv=.slice A2 t2 cap2∧t2≤t + i∧Hid (Wrt w wq A (L0 ++ List.replicate i 48) cs (some ⟨bc,0,none⟩) cc bb (nats ds) t2 A2 cap2)) (fun _ iv _=>m - (intOf iv).toNat)
      case atStart=>exact ⟨0,t,A',cap',Nat.zero_le _,rfl,rfl,by omega,by unfold Hid; rw [List.replicate_zero,List.append_nil]; exact HW1.out⟩
      case round =>
       clear HW1
       obtain ⟨i,t2,A2,cap2,him,rfl,rfl,ht2,hS⟩:=hrel
       have hB2:Hid (Buf .u8 5 wr A2 cap2 (nats (L0 ++ List.replicate i 48))):=hS.out.1
       have hL2:Hid ((nats (L0 ++ List.replicate i 48)).length=t2):=by unfold Hid; rw [Zaz]; exact hS.out.2.1
       by_cases hlt:i < m
       ·have hSh:Hid (Zai .u8 (wr.alloc (.cells #[.int .u8 48] 5)) (some ⟨wr.heap.size,0,none⟩) [48]):=(Own.new wr 5 .u8 [48] []).shows0
        go_wp2_with (at_builtin; refine Hid.out ?_)
        refine zh ?_
        refine ZaB rfl _ _ _ rfl _ .u8 1 Tryz.underlying37 Zcq A2 (some ⟨wr.heap.size,0,none⟩) t2 1 cap2 1 rfl rfl (nats (L0 ++ List.replicate i 48)) [48] hL2.out rfl (hB2.out.ext ((Fr.refl _ _).alloc _)) hSh.out (by simp only [maxLen]; omega) (by omega) ?_
        intro A3 cap3 w3 hB3 hF3 hA3
        have HNew:Hid (Wrt w w3 A (L0 ++ List.replicate (i + 1) 48) cs (some ⟨bc,0,none⟩) cc bb (nats ds) (t2 + 1) A3 cap3):=by
         have h:=hS.out.zero hB3 hF3 hA3
         unfold Hid
         rw [List.replicate_succ',← List.append_assoc]; exact h
        clear hB3 hF3 hA3 hSh hB2 hL2
        go_wp2
        go_roundw
        case rel=>exact ⟨i + 1,t2 + 1,A3,cap3,by omega,by go_num,rfl,by omega,HNew⟩
        case measure=>simp [intOf]; omega
       ·obtain rfl:i=m:=by omega
        have hSh:Hid (Zai .u8 wr (some ⟨bb,0,none⟩) (nats ds)):=hS.out.2.2.2.1.1.shows0
        go_wp2_with (at_builtin; refine Hid.out ?_)
        refine zh ?_
        refine ZaB rfl _ _ _ rfl _ .u8 1 Tryz.underlying37 Zcq A2 (some ⟨bb,0,none⟩) t2 ds.length cap2 20 rfl rfl (nats (L0 ++ List.replicate i 48)) (nats ds) hL2.out (Zaz ds) hB2.out hSh.out (by simp only [maxLen]; omega) (by omega) ?_
        intro A3 cap3 w3 hB3 hF3 hA3
        have HNew:Hid (Wrt w w3 A (l ++ ZbZ cs width j) cs (some ⟨bc,0,none⟩) cc bb [] (t2 + ds.length) A3 cap3):=by
         have h:=hS.out.app (news:=ds) rfl hB3 hF3 (fun b hb=>(hA3 b hb).imp id (fun k=>by omega))
         unfold Hid
         rw [HO.out]
         exact h.buf h.2.2.2.1.nil (Fr.refl _ _)
        clear hB3 hF3 hA3 hSh hB2 hL2
        go_wp2
        go_roundw
        case rel=>((repeat apply Exists.intro); exact ⟨⟨j,t2 + ds.length,A3,cap3,by omega,rfl,rfl,by rw [hdec0],HNew⟩,rfl⟩)
        case measure=>simp [intOf]
     ·rw [decide_eq_false hfst]
      have HO1:=HNxt (by omega)
      clear HFst HNxt
      obtain ⟨m,hm⟩:∃ m:Nat,19 - ds.length=m:=⟨_,rfl⟩
      have hmx:True:=trivial
      have hsub:19 - (ds.length:Int)=(m:Int):=by omega
      have hmB:m≤274877906944:=by omega
      obtain ⟨L0,eL0⟩:∃ L0,L0=l ++ ZbZ cs width (j + 1):=⟨_,rfl⟩
      have HO:Hid (l ++ ZbZ cs width j=L0 ++ List.replicate m 48 ++ ds):=by unfold Hid; rw [HO1.out,hm,eL0]; simp only [List.append_assoc]
      rw [← eL0] at HW1
      clear HO1 hm eL0 hfst
      go_wp2
      clear hmx hsub
      go_loopw [0,71] (fun tv iv wq=>∃ (i t2:Nat) (A2:Option Addr) (cap2:Nat),i≤m∧iv=.int .i64 (i:Int)∧tv=.slice A2 t2 cap2∧t2≤t + i∧Hid (Wrt w wq A (L0 ++ List.replicate i 48) cs (some ⟨bc,0,none⟩) cc bb (nats ds) t2 A2 cap2)) (fun _ iv _=>m - (intOf iv).toNat)
      case atStart=>exact ⟨0,t,A',cap',Nat.zero_le _,rfl,rfl,by omega,by unfold Hid; rw [List.replicate_zero,List.append_nil]; exact HW1.out⟩
      case round =>
       clear HW1
       obtain ⟨i,t2,A2,cap2,him,rfl,rfl,ht2,hS⟩:=hrel
       have hB2:Hid (Buf .u8 5 wr A2 cap2 (nats (L0 ++ List.replicate i 48))):=hS.out.1
       have hL2:Hid ((nats (L0 ++ List.replicate i 48)).length=t2):=by unfold Hid; rw [Zaz]; exact hS.out.2.1
       by_cases hlt:i < m
       ·have hSh:Hid (Zai .u8 (wr.alloc (.cells #[.int .u8 48] 5)) (some ⟨wr.heap.size,0,none⟩) [48]):=(Own.new wr 5 .u8 [48] []).shows0
        go_wp2_with (at_builtin; refine Hid.out ?_)
        refine zh ?_
        refine ZaB rfl _ _ _ rfl _ .u8 1 Tryz.underlying37 Zcq A2 (some ⟨wr.heap.size,0,none⟩) t2 1 cap2 1 rfl rfl (nats (L0 ++ List.replicate i 48)) [48] hL2.out rfl (hB2.out.ext ((Fr.refl _ _).alloc _)) hSh.out (by simp only [maxLen]; omega) (by omega) ?_
        intro A3 cap3 w3 hB3 hF3 hA3
        have HNew:Hid (Wrt w w3 A (L0 ++ List.replicate (i + 1) 48) cs (some ⟨bc,0,none⟩) cc bb (nats ds) (t2 + 1) A3 cap3):=by
         have h:=hS.out.zero hB3 hF3 hA3
         unfold Hid
         rw [List.replicate_succ',← List.append_assoc]; exact h
        clear hB3 hF3 hA3 hSh hB2 hL2
        go_wp2
        go_roundw
        case rel=>exact ⟨i + 1,t2 + 1,A3,cap3,by omega,by go_num,rfl,by omega,HNew⟩
        case measure=>simp [intOf]; omega
       ·obtain rfl:i=m:=by omega
        have hSh:Hid (Zai .u8 wr (some ⟨bb,0,none⟩) (nats ds)):=hS.out.2.2.2.1.1.shows0
        go_wp2_with (at_builtin; refine Hid.out ?_)
        refine zh ?_
        refine ZaB rfl _ _ _ rfl _ .u8 1 Tryz.underlying37 Zcq A2 (some ⟨bb,0,none⟩) t2 ds.length cap2 20 rfl rfl (nats (L0 ++ List.replicate i 48)) (nats ds) hL2.out (Zaz ds) hB2.out hSh.out (by simp only [maxLen]; omega) (by omega) ?_
        intro A3 cap3 w3 hB3 hF3 hA3
        have HNew:Hid (Wrt w w3 A (l ++ ZbZ cs width j) cs (some ⟨bc,0,none⟩) cc bb [] (t2 + ds.length) A3 cap3):=by
         have h:=hS.out.app (news:=ds) rfl hB3 hF3 (fun b hb=>(hA3 b hb).imp id (fun k=>by omega))
         unfold Hid
         rw [HO.out]
         exact h.buf h.2.2.2.1.nil (Fr.refl _ _)
        clear hB3 hF3 hA3 hSh hB2 hL2
        go_wp2
        go_roundw
        case rel=>((repeat apply Exists.intro); exact ⟨⟨j,t2 + ds.length,A3,cap3,by omega,rfl,rfl,by rw [hdec0],HNew⟩,rfl⟩)
        case measure=>simp [intOf]
    ·obtain rfl:k=0:=by omega
     clear hsl hal
     by_cases hc0:cs=[]
     ·subst hc0
      have HX0:Hid (x=0):=by have:=HVc.out; unfold Hid; simpa using this
      have HW:Hid (Wrt w wr A (l ++ List.replicate 0 48) [] Ac cc bb [] t A' cap'):=by
       have h:=hS.out
       rw [show ZbZ [] width 0=[] from Zeg [] width] at h
       exact h
      have hdec0:decide (0=([]:List Nat).length)=true:=rfl
      rw [hdec0]
      have htn:t=n:=by have:=hS.out.2.1; rw [show ZbZ [] width 0=[] from Zeg [] width,List.append_nil] at this; rw [← this]; exact HN.out
      have htl:t≤n:=by omega
      clear hS htn hdec0
      go_wp2
      go_loopw [0,82] (fun tv iv wq=>∃ (i t2:Nat) (A2:Option Addr) (cap2:Nat),i≤width∧iv=.int .i64 (i:Int)∧tv=.slice A2 t2 cap2∧t2≤t + i∧Hid (Wrt w wq A (l ++ List.replicate i 48) [] Ac cc bb [] t2 A2 cap2)) (fun _ iv _=>width - (intOf iv).toNat)
      case atStart=>exact ⟨0,t,A',cap',Nat.zero_le _,rfl,rfl,by omega,HW⟩
      case round =>
       clear HW
       obtain ⟨i,t2,A2,cap2,him,rfl,rfl,ht2,hS⟩:=hrel
       by_cases hlt:i < width
       ·have hB2:Hid (Buf .u8 5 wr A2 cap2 (nats (l ++ List.replicate i 48))):=hS.out.1
        have hL2:Hid ((nats (l ++ List.replicate i 48)).length=t2):=by unfold Hid; rw [Zaz]; exact hS.out.2.1
        have hSh:Hid (Zai .u8 (wr.alloc (.cells #[.int .u8 48] 5)) (some ⟨wr.heap.size,0,none⟩) [48]):=(Own.new wr 5 .u8 [48] []).shows0
        go_wp2_with (at_builtin; refine Hid.out ?_)
        refine zh ?_
        refine ZaB rfl _ _ _ rfl _ .u8 1 Tryz.underlying37 Zcq A2 (some ⟨wr.heap.size,0,none⟩) t2 1 cap2 1 rfl rfl (nats (l ++ List.replicate i 48)) [48] hL2.out rfl (hB2.out.ext ((Fr.refl _ _).alloc _)) hSh.out (by simp only [maxLen]; omega) (by omega) ?_
        intro A3 cap3 w3 hB3 hF3 hA3
        have HNew:Hid (Wrt w w3 A (l ++ List.replicate (i + 1) 48) [] Ac cc bb [] (t2 + 1) A3 cap3):=by
         have h:=hS.out.zero hB3 hF3 hA3
         unfold Hid
         rw [List.replicate_succ',← List.append_assoc]; exact h
        clear hB3 hF3 hA3 hSh hB2 hL2
        go_wp2
        go_roundw
        case rel=>((repeat apply Exists.intro); exact ⟨⟨i + 1,t2 + 1,A3,cap3,by omega,by go_num,rfl,by omega,HNew⟩,rfl⟩)
        case measure=>simp [intOf]; omega
       ·obtain rfl:i=width:=by omega
        have HR:Hid (Zbx w A (l ++ ZaT x i) (.returned (.slice A2 t2 cap2)) wr):=by
         unfold Hid; rw [HX0.out,ZhK]; exact hS.out.ret
        clear hS
        go_wp2
        go_ret
        exact HR.out
     ·have HR:Hid (Zbx w A (l ++ ZaT x width) (.returned (.slice A' t cap')) wr):=by
       have h:=hS.out.ret
       rw [ZbZ,if_neg (by intro e; exact hc0 (List.length_eq_zero_iff.1 e.symm)),List.drop_zero,Nat.mul_zero,Nat.sub_zero,← HVc.out] at h
       exact h
      have hdec0:decide (0=cs.length)=false:=by
       simp only [decide_eq_false_iff_not]; intro e; exact hc0 (List.length_eq_zero_iff.1 e.symm)
      rw [hdec0]
      clear hS hc0
      go_wp2
      go_ret
      exact HR.out
  ·obtain ⟨b,rfl,hOw,hCw,hcw,hcm⟩:=hS.out.1.openK hne
   have hpos:0 < ws.length:=List.length_pos_iff.2 hne
   have HNE:=zh hne
   have HIn:Hid (ZdQ ws T19 ws.length ws 0):=ZdQ.start ws hS.out.2.1 Zdd
   have HOw:=zh hOw
   have HCw:=zh hCw
   have hm:0 < val W64 ws:=ZdG hS.out.2.2.1 Zag hne
   have HLc:=zh (hS.out.2.2.2.2.2.1.len hm)
   clear hOw hCw hne hm
   go_wp2
   go_loopw [9,10] (fun rv iv wq=>∃ (k r:Nat) (qs:List Nat),k≤ws.length∧iv=.int .i64 ((k:Int) - 1)∧rv=.int .u64 (r:Int)∧Hid (ZdQ ws T19 k qs r)∧Hid (Own .u64 217 wq b qs)∧Hid (ZbH 217 wq b cw)∧Hid (Fr (· = b) wr wq)) (fun _ iv _=>(intOf iv + 1).toNat)
   case atStart=>exact ⟨ws.length,0,ws,Nat.le_refl _,rfl,rfl,HIn,HOw,HCw,Fr.refl _ _⟩
   case round =>
    clear HIn HOw HCw
    obtain ⟨k,r,qs,hk',rfl,rfl,hI,hO,hC,hF⟩:=hrel
    by_cases hlt:0 < k
    ·obtain ⟨j,rfl⟩:∃ j,k=j + 1:=⟨k - 1,by omega⟩
     have ej:(((j + 1:Nat):Int) - 1)=(j:Int):=by omega
     rw [ej]
     clear ej
     have hql:=hI.out.1.1
     have hjl:j < qs.length:=by omega
     have hcz:=hO.out.cell hjl
     have hfz:=hO.out.frozen j
     obtain ⟨z,ez⟩:∃ z,qs[j]?.getD 0=z:=⟨_,rfl⟩
     rw [ez] at hcz
     have hzW:Hid (z < W64):=ez ▸ hI.out.1.2.1.getD Zag j
     have HI2:=zh (hI.out.step (by omega) ez hzW.out)
     have HO3:=zh (fun v=>hO.out.set j v hjl)
     have HrT:Hid (r < T19):=hI.out.1.2.2.1
     clear ez hql
     go_wp2_with (go_at_call 364; refine (ZnS _ _ _ HrT.out hzW.out).mono ?_; rintro e w' ⟨rfl,n1,rfl⟩)
     go_roundw
     case rel=>exact ⟨j,_,_,by omega,rfl,rfl,HI2,HO3.out _,hC.out.setCell _ _ _,(hF.out.setCell (p:=⟨b,j,none⟩) (Or.inl rfl) _).drewN _⟩
     case measure=>simp [intOf]
    ·obtain rfl:k=0:=by omega
     have hql:=hI.out.1.1
     have HTr:=zh (Za5 _ qs ws.length cw wr hql hO.out.shows0 (by omega) (by omega))
     clear hql
     go_wp2_with fail
     refine HTr.out.mono ?_
     rintro e w2 ⟨rfl,rfl⟩
     clear HTr
     have hSh:Hid (Zai .u64 (wr.alloc (.cells #[.int .u64 (r:Int)] 217)) (some ⟨wr.heap.size,0,none⟩) [r]):=(Own.new wr 217 .u64 [r] []).shows0
     have hBc:Hid (Buf .u64 217 wr Ac cc cs):=hS.out.2.2.2.1.fr hF.out (fun c hc e=>by subst e; exact hS.out.2.2.2.2.2.2.2.2.1 c ⟨_,rfl,rfl⟩ hc)
     go_wp2_with (at_builtin; refine Hid.out ?_)
     refine zh ?_
     refine ZaB rfl _ _ _ rfl _ .u64 8 Tryz.underlying133 ZbR Ac (some ⟨wr.heap.size,0,none⟩) cs.length 1 cc 1 rfl rfl cs [r] rfl rfl (hBc.out.ext ((Fr.refl _ _).alloc _)) hSh.out (by simp only [maxLen]; omega) (by omega) ?_
     intro Ac2 cc2 w3 hB3 hF3 hA3
     have HNew:=zh (hS.out.next HNE.out hI.out hO.out hC.out hF.out hB3 hF3 hA3)
     have hcl:=HLc.out
     clear hB3 hF3 hA3 hSh hBc
     go_wp2
     go_roundw
     case rel=>exact ⟨ZaV qs,cs ++ [r],some ⟨b,0,none⟩,cw,Ac2,cc2,by rw [ZaR],by rw [List.length_append]; rfl,HNew⟩
     case measure=>simp; omega
end Go.Proofs.YtcpjeaaapocoeaaGreatDoor

namespace Go.Proofs.YtcpjeaaapocoeaaGreatDoor
open Go.RowKit
def Zao (c:UInt8):Bool:=decide (48≤c.toNat) && decide (c.toNat≤57)
abbrev bytes (s:ByteArray):List UInt8:=s.data.toList
theorem ZgQ {p:UInt8→Bool}:∀ {l:List UInt8} {k:Nat},(l.take k).all p=true→(∀ h:k < l.length,p l[k]=false)→l.takeWhile p=l.take k∧l.dropWhile p=l.drop k
 | [],k,_,_=>by simp
 | x :: l,0,_,h=>by
   have:=h (by simp)
   simp at this
   simp [this]
 | x :: l,k + 1,h1,h2=>by
   simp only [List.take_succ_cons,List.all_cons,Bool.and_eq_true] at h1
   have:=ZgQ (l:=l) (k:=k) h1.2 (fun h=>by have:=h2 (by simp; omega); simpa using this)
   simp [h1.1,this.1,this.2]
theorem Zaj (s:ByteArray):(bytes s).length=s.size:=Array.length_toList
theorem Zb5 (s:ByteArray) (a b:Nat):bytes (s.extract a b)=((bytes s).drop a).take (b - a):=Lib.extract_data s a b
theorem ZkP (s:ByteArray) {k:Nat} (h:k < s.size):(bytes s)[k]'(by rw [Zaj]; exact h)=s[k]:=rfl
theorem ZjO (s:ByteArray) (k:Nat) (h:k < s.size):(bytes s).take (k + 1)=(bytes s).take k ++ [s[k]]:=by
 rw [List.take_succ_eq_append_getElem (by rw [Zaj]; exact h)]; rfl
theorem Zjq {s:ByteArray} {k:Nat} (hR:((bytes s).take k).all Zao=true) (hd:∀ h:k < s.size,Zao s[k]=false) :
 bytes (s.extract 0 k)=(bytes s).takeWhile Zao∧bytes (s.extract k s.size)=(bytes s).dropWhile Zao:=by
 obtain ⟨h1,h2⟩:=ZgQ hR (fun h=>hd (by rw [Zaj] at h; exact h))
 rw [Zb5,Zb5,h1,h2]
 refine ⟨by simp,?_⟩
 rw [List.take_of_length_le (by rw [List.length_drop,Zaj]; exact Nat.le_refl _)]
def Znj (s:ByteArray) (w:World) (e:Ending) (w':World):Prop :=
 ∃ t u:ByteArray,e=.returned (.tuple #[.string t, .string u])∧bytes t=(bytes s).takeWhile Zao∧bytes u=(bytes s).dropWhile Zao∧∃ n,w'=w.drewN n
set_option maxHeartbeats 1000000 in
theorem Zcm (s:ByteArray) (w:World) (hs:s.size≤1099511627776):Calls Tryz.prog 51 #[.string s] w (Znj s w):=by
 go_enter Tryz.func51,Tryz.ntmps51
 go_wp2
 go_loop [4] (fun v=>∃ k:Nat,k≤s.size∧v=.int .i64 (k:Int)∧Hid (((bytes s).take k).all Zao=true)) (fun v=>s.size - (intOf v).toNat)
 case atStart=>exact ⟨0,Nat.zero_le _,rfl,rfl⟩
 case round =>
  obtain ⟨k,hk,rfl,hR⟩:=hrel
  by_cases hlt:k < s.size
  ·have hb:Zao s[k]=(decide (48≤s[k].toNat) && decide (s[k].toNat≤57)):=rfl
   have HB:=zh hb
   have hts:=zh (ZjO s k hlt)
   clear hb
   go_wp2_with fail
   ·have h1:48≤(s[k].toNat:Int):=by assumption
    have h2:(s[k].toNat:Int)≤57:=by assumption
    go_round
    case rel =>
     refine ⟨k + 1,by omega,by go_num,?_⟩
     unfold Hid
     rw [hts.out,List.all_append,hR.out]
     simp only [List.all_cons,List.all_nil,Bool.and_true,Bool.true_and]
     rw [HB.out,decide_eq_true (by omega),decide_eq_true (by omega)]; rfl
    case measure=>simp [intOf]; omega
   ·have h1:57 < (s[k].toNat:Int):=by assumption
    have hfin:=zh (Zjq hR.out (fun _=>by rw [HB.out,decide_eq_false (p:=s[k].toNat≤57) (by omega),Bool.and_false]))
    go_quiet (fail)
    go_wp2
    go_ret2
    exact ⟨_,_,rfl,hfin.out.1,hfin.out.2,_,rfl⟩
   ·have h1:(s[k].toNat:Int) < 48:=by assumption
    have hfin:=zh (Zjq hR.out (fun _=>by rw [HB.out,decide_eq_false (p:=48≤s[k].toNat) (by omega),Bool.false_and]))
    go_quiet (fail)
    go_wp2
    go_ret2
    exact ⟨_,_,rfl,hfin.out.1,hfin.out.2,_,rfl⟩
  ·have hfin:=zh (Zjq hR.out (fun h=>absurd h hlt))
   go_wp2_with fail
   go_quiet (fail)
   go_wp2
   go_ret2
   exact ⟨_,_,rfl,hfin.out.1,hfin.out.2,_,rfl⟩
def ZaU (l:List UInt8):Bool × List UInt8:=if l.head? = some 45 then (true,l.tail) else (false,l)
def ZkQ (s:ByteArray) (w:World) (e:Ending) (w':World):Prop:=∃ (r:ByteArray) (neg:Bool),e=.returned (.tuple #[.string r, .bool neg])∧ZaU (bytes s)=(neg,bytes r)∧w=w'
theorem ZdR (s:ByteArray) (w:World):Calls Tryz.prog 50 #[.string s, .string ⟨#[45]⟩] w (ZkQ s w):=by
 refine (Tryz.strings_CutPrefix s ⟨#[45]⟩ w).mono ?_
 rintro e w1 ⟨rfl,rfl⟩
 refine ⟨_,_,rfl,?_,rfl⟩
 unfold ZaU
 cases h:s.data.toList with
 | nil=>simp [bytes,h,Lib.trimPrefix,Lib.hasPrefix]
 | cons x l =>
   by_cases hx:x=45
   ·subst hx; simp [bytes,h,Lib.trimPrefix,Lib.hasPrefix]
   ·have hx':¬ 45=x:=fun e=>hx e.symm
    simp [bytes,h,Lib.trimPrefix,Lib.hasPrefix,List.isPrefixOf,hx,hx']
def Za1 (l:List UInt8):Bool × List UInt8 × List UInt8 × Bool :=
 let p:=ZaU l
 let num:=p.2.takeWhile Zao
 let rest:=p.2.dropWhile Zao
 if num=[48] then (p.1,num,[],!p.1 && rest.isEmpty)
 else if num=[]∨num.head? = some 48 then (p.1,num,[],false)
 else if rest=[] then (p.1,num,[],true)
 else if rest.head? ≠ some 47 then (p.1,num,[],false)
 else (p.1,num,rest.tail.takeWhile Zao,(rest.tail.dropWhile Zao).isEmpty && !(rest.tail.takeWhile Zao).isEmpty && (rest.tail.takeWhile Zao).head? != some 48 && (rest.tail.takeWhile Zao) != [49])
def ZkR (s:ByteArray) (w:World) (e:Ending) (w':World):Prop :=
 ∃ (neg:Bool) (t d:ByteArray) (ok:Bool),e=.returned (.tuple #[.agg #[.bool neg, .string t, .string d], .bool ok])∧Za1 (bytes s)=(neg,bytes t,bytes d,ok)∧Ext w w'
theorem Znk {l r:List UInt8} {neg:Bool} (h:ZaU l=(neg,r)):r.length≤l.length:=by
 unfold ZaU at h
 split at h<;>(injection h with _ h; subst h; simp)
theorem ZeL {t:ByteArray} (h:bytes t≠[]):0 < t.size∧t.toList≠[]∧t.toList.isEmpty=false:=by
 rw [Lib.toList_data]
 have h1:0 < t.size:=by rw [← Zaj]; exact List.length_pos_iff.2 h
 exact ⟨h1,h,by simpa using h⟩
theorem ZgR {t:ByteArray} (h:0 < t.size):(bytes t).head? = some t[0]:=by
 have h1:0 < (bytes t).length:=by rw [Zaj]; exact h
 rw [List.head?_eq_getElem?,List.getElem?_eq_getElem h1,ZkP t h]
theorem Zjr {b:UInt8} {n:Nat} (hn:n < 256):((b.toNat:Int) == (n:Int))=decide (b=UInt8.ofNat n):=by
 rw [Bool.eq_iff_iff]
 simp
 constructor
 ·intro h
  have:b.toNat=n:=by omega
  rw [← this]; simp
 ·rintro rfl
  simp [Nat.mod_eq_of_lt hn]
theorem Blk.cell3 {t:TypeId} {w:World} {g:Nat} {x y z:Value} (h:Blk t w g #[x,y,z]):w.cell? ⟨g,0,none⟩=some x∧w.cell? ⟨g,1,none⟩=some y∧w.cell? ⟨g,2,none⟩=some z∧w.frozen? ⟨g,0,none⟩=false∧w.frozen? ⟨g,1,none⟩=false∧w.frozen? ⟨g,2,none⟩=false :=
 ⟨h.cell 0,h.cell 1,h.cell 2,h.frozen 0,h.frozen 1,h.frozen 2⟩
theorem ZbD {fn:Func} {tmps:Array Value} {w wz:World} {r:Nat} {neg ok:Bool} {s t d:ByteArray} (hres:fn.results=#[.cell 2 360, .tmp 3]) (ht:tmps[2]? = some (.pointer (some ⟨r,0,none⟩))) (h3:tmps[3]? = some (.bool ok))
 (hB:Blk 360 wz r #[.bool neg, .string t, .string d]) (Q:Ext w wz) (hS:Za1 (bytes s)=(neg,bytes t,bytes d,ok)):bodyPost Tryz.prog fn (ZkR s w) .ret ⟨tmps,[]⟩ wz:=by
 obtain ⟨h0,h1,h2,_⟩:=hB.cell3
 refine bodyPost_ret (v:=.tuple #[.agg #[.bool neg, .string t, .string d], .bool ok]) (by simp [results,hres,ht,h3,go_sem,h0,h1,h2]) rfl ⟨neg,t,d,ok,rfl,hS,Q⟩
set_option maxHeartbeats 2000000 in
theorem ZjP (s:ByteArray) (w:World) (hs:s.size≤1099511627776):Calls Tryz.prog 280 #[.string s] w (ZkR s w):=by
 go_enter Tryz.func280,Tryz.ntmps280
 go_wp2_with fail
 refine (ZdR s _).mono ?_
 rintro e w1 ⟨r,neg,rfl,hr,rfl⟩
 have hrs:r.size≤1099511627776:=by
  have:=Znk hr; rw [Zaj,Zaj] at this; omega
 have HR:=zh hr
 clear hr
 go_wp2_with fail
 refine (Zcm r _ hrs).mono ?_
 rintro e w1 ⟨t,u,rfl,ht,hu,n1,rfl⟩
 have HT:=zh ht
 have HU:=zh hu
 have hus:u.size≤1099511627776:=by
  have h1:=congrArg List.length hu
  have h2:=(List.dropWhile_suffix Zao (l:=bytes r)).sublist.length_le
  rw [Zaj] at h1
  rw [Zaj] at h2
  omega
 have HSP:Hid (∀ (d:List UInt8) (ok:Bool),Za1 (bytes s)=(neg,bytes t,d,ok) ↔ (if bytes t=[48] then (neg,bytes t,[],!neg && (bytes u).isEmpty)
  else if bytes t=[]∨(bytes t).head? = some 48 then (neg,bytes t,[],false)
  else if bytes u=[] then (neg,bytes t,[],true)
  else if (bytes u).head? ≠ some 47 then (neg,bytes t,[],false)
  else (neg,bytes t,(bytes u).tail.takeWhile Zao,((bytes u).tail.dropWhile Zao).isEmpty && !((bytes u).tail.takeWhile Zao).isEmpty && ((bytes u).tail.takeWhile Zao).head? != some 48 && ((bytes u).tail.takeWhile Zao) != [49]))=(neg,bytes t,d,ok)):=by
  intro d ok
  unfold Za1
  rw [HR.out]
  simp only [← HT.out,← HU.out]
 clear ht hu
 generalize hwb:World.alloc (World.alloc w _) _=wb0
 obtain ⟨hBR,hBF,Q⟩:=ZfU hwb
 clear hwb
 generalize hwb:World.drewN wb0 n1=wb
 have HBR:Hid (Blk 360 wb w.heap.size #[.bool false, .string ⟨#[]⟩, .string ⟨#[]⟩]):=hwb ▸ hBR.drewN n1
 have HBF:Hid (Blk 360 wb (w.heap.size + 1) #[.bool neg, .string ⟨#[]⟩, .string ⟨#[]⟩]):=hwb ▸ hBF.drewN n1
 have HE:Hid (Ext w wb):=hwb ▸ Q.drewN n1
 clear hwb hBR hBF Q
 clear wb0
 obtain ⟨x0,x1,x2,x3,x4,x5⟩:=HBR.out.cell3
 obtain ⟨y0,y1,y2,y3,y4,y5⟩:=HBF.out.cell3
 have hu1:u.toList=bytes u:=Lib.toList_data u
 have ht1:t.toList=bytes t:=Lib.toList_data t
 have HU1:=zh hu1
 have HT1:=zh ht1
 clear hu1 ht1
 by_cases c1:bytes t=[48]
 ·have d1:(t.toList == [48])=true:=by rw [HT1.out,c1]; rfl
  cases neg with
  | true =>
    have HS:Hid (Za1 (bytes s)=(true,bytes t,bytes ⟨#[]⟩,false)):=by
     unfold Hid; rw [HSP.out,if_pos c1]; rfl
    clear c1
    go_wp2
    exact ZbD rfl rfl rfl ((((HBR.out.far (p:=⟨w.heap.size + 1,1,none⟩) (by simp) (.string t)).set_ 0 (.bool true)).set_ 1 (.string t)).set_ 2 (.string ⟨#[]⟩)) ((((HE.out.setCell (Or.inr (by simp)) _).setCell (Or.inr (by simp)) _).setCell (Or.inr (by simp)) _).setCell (Or.inr (by simp)) _) HS.out
  | false =>
    by_cases c2:bytes u=[]
    ·have d2:u.toList.isEmpty=true:=by rw [HU1.out,c2,List.isEmpty_nil]
     have HS:Hid (Za1 (bytes s)=(false,bytes t,bytes ⟨#[]⟩,true)):=by
      unfold Hid; rw [HSP.out,if_pos c1,c2]; rfl
     clear c1 c2
     go_wp2
     exact ZbD rfl rfl rfl ((((HBR.out.far (p:=⟨w.heap.size + 1,1,none⟩) (by simp) (.string t)).set_ 0 (.bool false)).set_ 1 (.string t)).set_ 2 (.string ⟨#[]⟩)) ((((HE.out.setCell (Or.inr (by simp)) _).setCell (Or.inr (by simp)) _).setCell (Or.inr (by simp)) _).setCell (Or.inr (by simp)) _) HS.out
    ·have d2:u.toList.isEmpty=false:=(ZeL c2).2.2
     have HS:Hid (Za1 (bytes s)=(false,bytes t,bytes ⟨#[]⟩,false)):=by
      unfold Hid; rw [HSP.out,if_pos c1,show (bytes u).isEmpty=false by simpa using c2]; rfl
     clear c1 c2
     go_wp2
     exact ZbD rfl rfl rfl ((((HBR.out.far (p:=⟨w.heap.size + 1,1,none⟩) (by simp) (.string t)).set_ 0 (.bool false)).set_ 1 (.string t)).set_ 2 (.string ⟨#[]⟩)) ((((HE.out.setCell (Or.inr (by simp)) _).setCell (Or.inr (by simp)) _).setCell (Or.inr (by simp)) _).setCell (Or.inr (by simp)) _) HS.out
 have d1:(t.toList == [48])=false:=by rw [HT1.out]; simpa using c1
 by_cases c2:bytes t=[]
 ·have d2:t.toList=[]:=HT1.out.trans c2
  have HS:Hid (Za1 (bytes s)=(neg,bytes t,bytes ⟨#[]⟩,false)):=by
   unfold Hid; rw [HSP.out,if_neg c1,if_pos (Or.inl c2)]
  clear c1 c2
  go_wp2
  exact ZbD rfl rfl rfl ((((HBR.out.far (p:=⟨w.heap.size + 1,1,none⟩) (by simp) (.string t)).set_ 0 (.bool neg)).set_ 1 (.string t)).set_ 2 (.string ⟨#[]⟩)) ((((HE.out.setCell (Or.inr (by simp)) _).setCell (Or.inr (by simp)) _).setCell (Or.inr (by simp)) _).setCell (Or.inr (by simp)) _) HS.out
 obtain ⟨g1,g2,g3⟩:=ZeL c2
 have hb0:=Zjr (b:=t[0]) (n:=48) (by omega)
 have hh0:=ZgR g1
 by_cases c3:t[0]=48
 ·have d3:((t[0].toNat:Int) == 48)=true:=by rw [show (48:Int)=((48:Nat):Int) from rfl,hb0]; simpa using c3
  have HS:Hid (Za1 (bytes s)=(neg,bytes t,bytes ⟨#[]⟩,false)):=by
   unfold Hid; rw [HSP.out,if_neg c1,if_pos (Or.inr (by rw [hh0,c3]))]
  clear c1 c2 c3 hb0 hh0
  go_wp2
  exact ZbD rfl rfl rfl ((((HBR.out.far (p:=⟨w.heap.size + 1,1,none⟩) (by simp) (.string t)).set_ 0 (.bool neg)).set_ 1 (.string t)).set_ 2 (.string ⟨#[]⟩)) ((((HE.out.setCell (Or.inr (by simp)) _).setCell (Or.inr (by simp)) _).setCell (Or.inr (by simp)) _).setCell (Or.inr (by simp)) _) HS.out
 have d3:((t[0].toNat:Int) == 48)=false:=by rw [show (48:Int)=((48:Nat):Int) from rfl,hb0]; simpa using c3
 have c4:¬ (bytes t=[]∨(bytes t).head? = some 48):=by
  rintro (h | h)
  ·exact c2 h
  ·rw [hh0] at h; injection h with h; exact c3 h
 clear hb0 hh0 c3 c2
 by_cases c5:bytes u=[]
 ·have d5:u.toList.isEmpty=true:=by rw [HU1.out,c5]; rfl
  have HS:Hid (Za1 (bytes s)=(neg,bytes t,bytes ⟨#[]⟩,true)):=by
   unfold Hid; rw [HSP.out,if_neg c1,if_neg c4,if_pos c5]
  clear c1 c4 c5
  go_wp2
  exact ZbD rfl rfl rfl ((((HBR.out.far (p:=⟨w.heap.size + 1,1,none⟩) (by simp) (.string t)).set_ 0 (.bool neg)).set_ 1 (.string t)).set_ 2 (.string ⟨#[]⟩)) ((((HE.out.setCell (Or.inr (by simp)) _).setCell (Or.inr (by simp)) _).setCell (Or.inr (by simp)) _).setCell (Or.inr (by simp)) _) HS.out
 obtain ⟨k1,k2,k3⟩:=ZeL c5
 have hb0:=Zjr (b:=u[0]) (n:=47) (by omega)
 have hh0:=ZgR k1
 by_cases c6:u[0]=47
 ·have d6:((u[0].toNat:Int) != 47)=false:=by
   have:((u[0].toNat:Int) == 47)=true:=by rw [show (47:Int)=((47:Nat):Int) from rfl,hb0]; simpa using c6
   simp [bne,this]
  have H6:Hid (¬ (bytes u).head? ≠ some 47):=by unfold Hid; rw [hh0,c6]; simp
  have HC:Hid (bytes t≠[48]∧¬ (bytes t=[]∨(bytes t).head? = some 48)∧bytes u≠[]):=⟨c1,c4,c5⟩
  clear c1 c4 c5 c6 hb0 hh0
  go_wp2_with fail
  refine (Zcm (u.extract 1 u.size) _ (by rw [ByteArray.size_extract]; omega)).mono ?_
  rintro e w1 ⟨v,x,rfl,hv,hx,n2,rfl⟩
  have ev:bytes (u.extract 1 u.size)=(bytes u).tail:=by
   rw [Zb5,List.take_of_length_le (by rw [List.length_drop,Zaj]; exact Nat.le_refl _),List.drop_one]
  rw [ev] at hv hx
  have HF:Hid (∀ ok,(((bytes x).isEmpty && !(bytes v).isEmpty && (bytes v).head? != some 48 && (bytes v) != [49])=ok)→Za1 (bytes s)=(neg,bytes t,bytes v,ok)):=by
   intro ok h
   rw [HSP.out,if_neg HC.out.1,if_neg HC.out.2.1,if_neg HC.out.2.2,if_neg H6.out,← hv,← hx,h]
  have hv1:v.toList=bytes v:=Lib.toList_data v
  have hx1:x.toList=bytes x:=Lib.toList_data x
  have HV1:=zh hv1
  have HX1:=zh hx1
  clear hv hx ev hv1 hx1 d6
  generalize hwc:World.setCell wb _ _=wc0
  generalize hwd:World.drewN wc0 n2=wd
  have HBR2:Hid (Blk 360 wd w.heap.size #[.bool false, .string ⟨#[]⟩, .string ⟨#[]⟩]):=hwd ▸ hwc ▸ (HBR.out.far (p:=⟨w.heap.size + 1,1,none⟩) (by simp) _).drewN n2
  have HBF2:Hid (Blk 360 wd (w.heap.size + 1) #[.bool neg, .string t, .string ⟨#[]⟩]):=hwd ▸ hwc ▸ (HBF.out.set_ 1 _).drewN n2
  have HE2:Hid (Ext w wd):=hwd ▸ hwc ▸ (HE.out.setCell (Or.inr (by simp)) _).drewN n2
  clear hwd hwc HBR HBF HE x0 x1 x2 x3 x4 x5 y0 y1 y2 y3 y4 y5
  clear wc0
  obtain ⟨x0,x1,x2,x3,x4,x5⟩:=HBR2.out.cell3
  obtain ⟨y0,y1,y2,y3,y4,y5⟩:=HBF2.out.cell3
  go_wp2_with fail
  by_cases q1:bytes x=[]
  ·have r1:x.toList.isEmpty=true:=by rw [HX1.out,q1,List.isEmpty_nil]
   by_cases q2:bytes v=[]
   ·have r2:v.toList.isEmpty=true:=by rw [HV1.out,q2,List.isEmpty_nil]
    have r2':v.toList=[]:=HV1.out.trans q2
    have HS:=zh (HF.out false (by rw [q1,q2]; rfl))
    clear q1 q2
    go_region
    all_goals go_wp2
    all_goals exact ZbD rfl rfl rfl (((((HBR2.out.far (p:=⟨w.heap.size + 1,2,none⟩) (by simp) (.string v)).set_ 0 (.bool neg)).set_ 1 (.string t)).set_ 2 (.string v)).drewN 1) (((((HE2.out.setCell (Or.inr (by simp)) _).setCell (Or.inr (by simp)) _).setCell (Or.inr (by simp)) _).setCell (Or.inr (by simp)) _).drewN 1) HS.out
   ·obtain ⟨g4,g5,g6⟩:=ZeL q2
    have hb1:=Zjr (b:=v[0]) (n:=48) (by omega)
    have hh1:=ZgR g4
    have ne2:(bytes v).isEmpty=false:=by simpa using q2
    by_cases q3:v[0]=48
    ·have r3:((v[0].toNat:Int) == 48)=true:=by rw [show (48:Int)=((48:Nat):Int) from rfl,hb1]; simpa using q3
     have r3':((v[0].toNat:Int) != 48)=false:=by rw [bne,r3]; rfl
     have HS:=zh (HF.out false (by rw [q1,ne2,hh1,q3]; rfl))
     clear q1 q2 q3 hb1 hh1 ne2 r3
     go_region
     all_goals go_wp2
     all_goals exact ZbD rfl rfl rfl (((((HBR2.out.far (p:=⟨w.heap.size + 1,2,none⟩) (by simp) (.string v)).set_ 0 (.bool neg)).set_ 1 (.string t)).set_ 2 (.string v)).drewN 1) (((((HE2.out.setCell (Or.inr (by simp)) _).setCell (Or.inr (by simp)) _).setCell (Or.inr (by simp)) _).setCell (Or.inr (by simp)) _).drewN 1) HS.out
    ·have r3:((v[0].toNat:Int) == 48)=false:=by rw [show (48:Int)=((48:Nat):Int) from rfl,hb1]; simpa using q3
     have r3':((v[0].toNat:Int) != 48)=true:=by rw [bne,r3]; rfl
     have n3:((bytes v).head? != some 48)=true:=by rw [hh1]; simpa using q3
     by_cases q4:bytes v=[49]
     ·have r4:(v.toList == [49])=true:=by rw [HV1.out,q4]; rfl
      have r4':(v.toList != [49])=false:=by rw [bne,r4]; rfl
      have HS:=zh (HF.out false (by rw [q1,n3,ne2,q4]; rfl))
      clear q1 q2 q3 q4 hb1 hh1 ne2 n3 r3 r4'
      go_region
      all_goals go_wp2
      all_goals exact ZbD rfl rfl rfl (((((HBR2.out.far (p:=⟨w.heap.size + 1,2,none⟩) (by simp) (.string v)).set_ 0 (.bool neg)).set_ 1 (.string t)).set_ 2 (.string v)).drewN 1) (((((HE2.out.setCell (Or.inr (by simp)) _).setCell (Or.inr (by simp)) _).setCell (Or.inr (by simp)) _).setCell (Or.inr (by simp)) _).drewN 1) HS.out
     ·have r4:(v.toList == [49])=false:=by rw [HV1.out]; simpa using q4
      have r4':(v.toList != [49])=true:=by rw [bne,r4]; rfl
      have HS:=zh (HF.out true (by rw [q1,n3,ne2,show (bytes v != [49])=true by rw [bne]; simpa using q4]; rfl))
      clear q1 q2 q3 q4 hb1 hh1 ne2 n3 r3 r4'
      go_region
      all_goals go_wp2
      all_goals exact ZbD rfl rfl rfl (((((HBR2.out.far (p:=⟨w.heap.size + 1,2,none⟩) (by simp) (.string v)).set_ 0 (.bool neg)).set_ 1 (.string t)).set_ 2 (.string v)).drewN 1) (((((HE2.out.setCell (Or.inr (by simp)) _).setCell (Or.inr (by simp)) _).setCell (Or.inr (by simp)) _).setCell (Or.inr (by simp)) _).drewN 1) HS.out
  ·have r1:x.toList.isEmpty=false:=(ZeL q1).2.2
   have HS:=zh (HF.out false (by rw [show (bytes x).isEmpty=false by simpa using q1]; rfl))
   clear q1
   go_region
   all_goals go_wp2
   all_goals exact ZbD rfl rfl rfl (((((HBR2.out.far (p:=⟨w.heap.size + 1,2,none⟩) (by simp) (.string v)).set_ 0 (.bool neg)).set_ 1 (.string t)).set_ 2 (.string v)).drewN 1) (((((HE2.out.setCell (Or.inr (by simp)) _).setCell (Or.inr (by simp)) _).setCell (Or.inr (by simp)) _).setCell (Or.inr (by simp)) _).drewN 1) HS.out
 ·have d6:((u[0].toNat:Int) != 47)=true:=by
   have:((u[0].toNat:Int) == 47)=false:=by rw [show (47:Int)=((47:Nat):Int) from rfl,hb0]; simpa using c6
   simp [bne,this]
  have HS:Hid (Za1 (bytes s)=(neg,bytes t,bytes ⟨#[]⟩,false)):=by
   unfold Hid; rw [HSP.out,if_neg c1,if_neg c4,if_neg c5,if_pos (by rw [hh0]; simpa using c6)]
  clear c1 c4 c5 c6 hb0 hh0
  go_wp2
  exact ZbD rfl rfl rfl ((((HBR.out.far (p:=⟨w.heap.size + 1,1,none⟩) (by simp) (.string t)).set_ 0 (.bool neg)).set_ 1 (.string t)).set_ 2 (.string ⟨#[]⟩)) ((((HE.out.setCell (Or.inr (by simp)) _).setCell (Or.inr (by simp)) _).setCell (Or.inr (by simp)) _).setCell (Or.inr (by simp)) _) HS.out
end Go.Proofs.YtcpjeaaapocoeaaGreatDoor

namespace Go.Proofs.YtcpjeaaapocoeaaGreatDoor
open Go.RowKit
theorem Zoe {a p:Nat}:(a:Int).tmod (p:Int)=((a % p:Nat):Int):=by
 rw [Int.tmod_eq_emod_of_nonneg (by omega),Int.natCast_emod]
end Go.Proofs.YtcpjeaaapocoeaaGreatDoor
