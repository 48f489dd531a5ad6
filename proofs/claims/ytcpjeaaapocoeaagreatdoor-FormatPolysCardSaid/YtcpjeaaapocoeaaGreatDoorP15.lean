/-
 My texts Gcd1, Gcd2, Int4, Int5, Split, Res, Print0, Smp, Smp2 put together.
-/
import Derived.Test.YtcpjeaaapocoeaaGreatDoorP14
import Derived.Test.YtcpjeaaapocoeaaGreatDoorP08
import Derived.Test.YtcpjeaaapocoeaaGreatDoorP05
import Derived.Test.YtcpjeaaapocoeaaGreatDoorP07
import Derived.Deep.LoopGhost
import Derived.Test.YtcpjeaaapocoeaaGreatDoorP03
import Derived.Deep.QuietTactic
import Derived.BigQuiet
import Derived.Outline
import Derived.Lib.Strings
import Derived.RegionTactic
import Derived.BigRegion
import Derived.Test.YtcpjeaaapocoeaaGreatDoorP02
import Derived.Laws.BitsAllLaws
import Derived.Laws.IdiomStrings
import Derived.Deep.RegionWith
set_option maxRecDepth 100000
namespace Go.Proofs.YtcpjeaaapocoeaaGreatDoor
open Go.RowKit
set_option maxHeartbeats 4000000 in
theorem ZlV (u v:Value) (m n g:Nat) (w:World) (hg:Glob w) (hu:Zaq w u m) (hv:Zaq w v n) (hm:wl m≤4294967296) (hn:n < W64) (h0:0 < n) (hle:n≤m) (eg:Nat.gcd m n=g) :
 Calls Tryz.prog 229 #[u,v] w (Zb1 w g):=by
 obtain ⟨A,xs,c,rfl,hc,h1,h2,h3,h4⟩:=hu
 obtain ⟨A2,ys,c2,rfl,hc2,k1,k2,k3,k4⟩:=hv
 have hlx:=Za0 h2 h3
 have hly:=Za0 k2 k3
 rw [h4] at hlx
 rw [k4] at hly
 have hl1:ys.length=1:=by
  have:=Zfk.2 hn
  have:=Zgg h0
  omega
 obtain ⟨y,rfl⟩:∃ y,ys=[y]:=by match ys,hl1 with | [y],_=>exact ⟨y,rfl⟩
 simp at k4
 subst k4
 have HU:Hid (Zaq w (.slice A xs.length c) m):=⟨A,xs,c,rfl,hc,h1,h2,h3,h4⟩
 have HV:Hid (Zaq w (.slice A2 1 c2) y):=⟨A2,[y],c2,rfl,hc2,k1,k2,k3,by simp⟩
 have HX:=zh h1
 have HY:=zh k1
 have Hm:Hid (wl m≤4294967296∧xs.length≤4294967296):=⟨hm,by omega⟩
 have Hn:=zh hn
 have Hle:=zh hle
 have Hy0:=zh h0
 have Hdx:=zh h2
 have Hval:=zh h4
 have Heg:=zh eg
 have HG:=zh hg
 clear hm hn hle h1 k1 k2 k3 h3 h2 hc hc2 hlx hly hl1 h4 eg hg h0
 go_enter Tryz.func229,Tryz.ntmps229
 go_wp2_with fail
 refine (ZcX _ _ m y w HU.out HV.out Hm.out.1 (by have:=Zfk.2 Hn.out; omega)).mono ?_
 rintro e w' ⟨rfl,nd,hw'⟩
 obtain ⟨q,hq⟩:∃ q,cmpI m y=q:=⟨_,rfl⟩
 have hq0:(0:Int)≤q:=by rw [← hq]; exact Zfc Hle.out
 have hq1:decide (q < 0)=false:=by simp; omega
 rw [hq]
 have HE0:Hid (Ext w w'):=hw' ▸ (Fr.refl _ w).drewN nd
 clear hq hw' hq0
 go_wp2_with fail
 refine (Zb3 A xs _ c w' rfl (HX.out.ext HE0.out) Hm.out.2).mono ?_
 rintro e w1 ⟨A1,cap1,rfl,hB1,hF1,hA1⟩
 have HS1:Hid (Zan .u64 w1 A1 xs):=hB1.shows
 have HE1:Hid (Ext w w1):=HE0.out.trans hF1
 clear hB1 hF1 hA1
 go_wp2_with fail
 refine (Zb3 A2 [y] 1 c2 w1 rfl (HY.out.ext HE1.out) (by omega)).mono ?_
 rintro e w2 ⟨A3,cap3,rfl,hB3,hF3,hA3⟩
 have hy3:Hid (Zan .u64 w2 A3 [y]):=hB3.shows
 obtain ⟨b3,o3,rfl,hb3,hc3⟩:=hy3.out.at (i:=0) (by simp)
 simp at hc3
 have HS2:Hid (Zan .u64 w2 A1 xs):=HS1.out.ext hF3
 have HE2:Hid (Ext w w2):=HE1.out.trans hF3
 have hb3:=zh hb3
 clear hB3 hF3 hA3 hy3 HS1
 obtain ⟨x,ex⟩:∃ x,xs.length=x:=⟨_,rfl⟩
 rw [ex]
 go_wp2_with fail
 obtain ⟨r,er⟩:∃ r,m % y=r:=⟨_,rfl⟩
 go_loopw [5,6] (fun av bv wr=>av=.slice A1 x cap1∧bv=.slice (some ⟨b3,o3,none⟩) 1 cap3∧wr=w2) (fun _ _ _=>0)
 case atStart=>exact ⟨rfl,rfl,rfl⟩
 case round =>
  obtain ⟨rfl,rfl,rfl⟩:=hrel
  go_wp2_with fail
  have HC3:Hid (wr.cell? ⟨b3,o3,none⟩=some (.int .u64 (y:Int))):=hc3
  have hb3':Hid (b3 < wr.heap.size):=hb3.out
  have hzz:Hid (r < W64∧Nat.gcd y r=g∧g < W64):=by
   have h1:=Nat.mod_lt m Hy0.out
   have h2:=Hn.out
   have h3:=Nat.gcd_le_right m Hy0.out
   rw [Heg.out] at h3
   refine ⟨by omega,?_,by omega⟩
   rw [← er,← Heg.out,Nat.gcd_comm y,← Nat.gcd_rec,Nat.gcd_comm]
  go_region_held3 (fun w'=>w'.cell? ⟨b3,o3,none⟩=some (.int .u64 (y:Int)))
   (first | exact HC3.out | exact (Fr.cell (p:=⟨b3,o3,none⟩) (Fr.undrew hFF) hb3'.out (fun f=>f)).trans HC3.out)
   (first
    | (go_at_call 312
       refine (Zcw A1 xs x cap1 y _ ex HS2.out.drew (by have:=Hm.out.2; omega) Hdx.out Hy0.out Hn.out).mono ?_
       rintro e w4 ⟨rfl,nd4,hw4⟩
       rw [Hval.out,er]
       have hFF:Ext wr.drew w4:=hw4 ▸ (Fr.refl _ wr.drew).drewN nd4
       clear hw4)
    | (go_at_call 311
       refine (Zd4 y r g _ (HG.out.ext (HE2.out.trans (Fr.undrew hFF))) Hn.out hzz.out.1 hzz.out.2.1).mono ?_
       rintro e w5 ⟨rfl,rfl⟩)
    | (go_at_call 116
       refine (ZdN g _ hzz.out.2.2).mono ?_
       rintro e w6 ⟨v6,rfl,hN6,hF6⟩
       replace hFF:Ext wr.drew w6:=hFF.trans hF6))
  go_wp2
  go_ret
  exact ⟨_,rfl,hN6,HE2.out.trans (Fr.undrew hFF)⟩
set_option maxHeartbeats 4000000 in
theorem ZlW (u v:Value) (m n g:Nat) (w:World) (hg:Glob w) (hu:Zaq w u m) (hv:Zaq w v n) (hm:wl m≤4294967296) (hn:n < W64) (h0:0 < n) (hle:n < m) (eg:Nat.gcd m n=g) :
 Calls Tryz.prog 229 #[v,u] w (Zb1 w g):=by
 obtain ⟨A,xs,c,rfl,hc,h1,h2,h3,h4⟩:=hu
 obtain ⟨A2,ys,c2,rfl,hc2,k1,k2,k3,k4⟩:=hv
 have hlx:=Za0 h2 h3
 have hly:=Za0 k2 k3
 rw [h4] at hlx
 rw [k4] at hly
 have hl1:ys.length=1:=by
  have:=Zfk.2 hn
  have:=Zgg h0
  omega
 obtain ⟨y,rfl⟩:∃ y,ys=[y]:=by match ys,hl1 with | [y],_=>exact ⟨y,rfl⟩
 simp at k4
 subst k4
 have HU:Hid (Zaq w (.slice A xs.length c) m):=⟨A,xs,c,rfl,hc,h1,h2,h3,h4⟩
 have HV:Hid (Zaq w (.slice A2 1 c2) y):=⟨A2,[y],c2,rfl,hc2,k1,k2,k3,by simp⟩
 have HX:=zh h1
 have HY:=zh k1
 have Hm:Hid (wl m≤4294967296∧xs.length≤4294967296):=⟨hm,by omega⟩
 have Hn:=zh hn
 have Hle:=zh hle
 have Hy0:=zh h0
 have Hdx:=zh h2
 have Hval:=zh h4
 have Heg:=zh eg
 have HG:=zh hg
 clear hm hn hle h1 k1 k2 k3 h3 h2 hc hc2 hlx hly hl1 h4 eg hg h0
 go_enter Tryz.func229,Tryz.ntmps229
 go_wp2_with fail
 refine (ZcX _ _ y m w HV.out HU.out (by have:=Zfk.2 Hn.out; omega) Hm.out.1).mono ?_
 rintro e w' ⟨rfl,nd,hw'⟩
 obtain ⟨q,hq⟩:∃ q,cmpI y m=q:=⟨_,rfl⟩
 have hq0:q < 0:=by rw [← hq]; exact ZeH.2 Hle.out
 have hq1:decide (q < 0)=true:=by simp; omega
 rw [hq]
 have HE0:Hid (Ext w w'):=hw' ▸ (Fr.refl _ w).drewN nd
 clear hq hw' hq0
 go_wp2_with fail
 refine (Zb3 A xs _ c w' rfl (HX.out.ext HE0.out) Hm.out.2).mono ?_
 rintro e w1 ⟨A1,cap1,rfl,hB1,hF1,hA1⟩
 have HS1:Hid (Zan .u64 w1 A1 xs):=hB1.shows
 have HE1:Hid (Ext w w1):=HE0.out.trans hF1
 clear hB1 hF1 hA1
 go_wp2_with fail
 refine (Zb3 A2 [y] 1 c2 w1 rfl (HY.out.ext HE1.out) (by omega)).mono ?_
 rintro e w2 ⟨A3,cap3,rfl,hB3,hF3,hA3⟩
 have hy3:Hid (Zan .u64 w2 A3 [y]):=hB3.shows
 obtain ⟨b3,o3,rfl,hb3,hc3⟩:=hy3.out.at (i:=0) (by simp)
 simp at hc3
 have HS2:Hid (Zan .u64 w2 A1 xs):=HS1.out.ext hF3
 have HE2:Hid (Ext w w2):=HE1.out.trans hF3
 have hb3:=zh hb3
 clear hB3 hF3 hA3 hy3 HS1
 obtain ⟨x,ex⟩:∃ x,xs.length=x:=⟨_,rfl⟩
 rw [ex]
 go_wp2_with fail
 obtain ⟨r,er⟩:∃ r,m % y=r:=⟨_,rfl⟩
 go_loopw [5,6] (fun av bv wr=>av=.slice A1 x cap1∧bv=.slice (some ⟨b3,o3,none⟩) 1 cap3∧wr=w2) (fun _ _ _=>0)
 case atStart=>exact ⟨rfl,rfl,rfl⟩
 case round =>
  obtain ⟨rfl,rfl,rfl⟩:=hrel
  go_wp2_with fail
  have HC3:Hid (wr.cell? ⟨b3,o3,none⟩=some (.int .u64 (y:Int))):=hc3
  have hb3':Hid (b3 < wr.heap.size):=hb3.out
  have hzz:Hid (r < W64∧Nat.gcd y r=g∧g < W64):=by
   have h1:=Nat.mod_lt m Hy0.out
   have h2:=Hn.out
   have h3:=Nat.gcd_le_right m Hy0.out
   rw [Heg.out] at h3
   refine ⟨by omega,?_,by omega⟩
   rw [← er,← Heg.out,Nat.gcd_comm y,← Nat.gcd_rec,Nat.gcd_comm]
  go_region_held3 (fun w'=>w'.cell? ⟨b3,o3,none⟩=some (.int .u64 (y:Int)))
   (first | exact HC3.out | exact (Fr.cell (p:=⟨b3,o3,none⟩) (Fr.undrew hFF) hb3'.out (fun f=>f)).trans HC3.out)
   (first
    | (go_at_call 312
       refine (Zcw A1 xs x cap1 y _ ex HS2.out.drew (by have:=Hm.out.2; omega) Hdx.out Hy0.out Hn.out).mono ?_
       rintro e w4 ⟨rfl,nd4,hw4⟩
       rw [Hval.out,er]
       have hFF:Ext wr.drew w4:=hw4 ▸ (Fr.refl _ wr.drew).drewN nd4
       clear hw4)
    | (go_at_call 311
       refine (Zd4 y r g _ (HG.out.ext (HE2.out.trans (Fr.undrew hFF))) Hn.out hzz.out.1 hzz.out.2.1).mono ?_
       rintro e w5 ⟨rfl,rfl⟩)
    | (go_at_call 116
       refine (ZdN g _ hzz.out.2.2).mono ?_
       rintro e w6 ⟨v6,rfl,hN6,hF6⟩
       replace hFF:Ext wr.drew w6:=hFF.trans hF6))
  go_wp2
  go_ret
  exact ⟨_,rfl,hN6,HE2.out.trans (Fr.undrew hFF)⟩
set_option maxHeartbeats 1000000 in
theorem Zkj (u v:Value) (m:Nat) (w:World) (hu:Zaq w u m) (hv:Zaq w v 0) (hm:wl m≤4294967296):Calls Tryz.prog 229 #[u,v] w (Zb1 w m):=by
 obtain ⟨A,l,c,rfl⟩:=hu.slice
 obtain ⟨A2,l2,c2,rfl⟩:=hv.slice
 obtain rfl:l2=0:=hv.len0
 have HU:=zh hu
 have HV:=zh hv
 have Hm:=zh hm
 clear hu hv hm
 go_enter Tryz.func229,Tryz.ntmps229
 go_wp2_with fail
 refine (ZcX _ _ m 0 w HU.out HV.out Hm.out (by rw [Zi5]; omega)).mono ?_
 rintro e w' ⟨rfl,nd,hw'⟩
 obtain ⟨q,hq⟩:∃ q,cmpI (m:Int) ((0:Nat):Int)=q:=⟨_,rfl⟩
 have hq0:(0:Int)≤q:=by rw [← hq]; exact Zfc (Nat.zero_le _)
 have hq1:decide (q < 0)=false:=by simp; omega
 rw [hq]
 have HE0:Hid (Ext w w'):=hw' ▸ (Fr.refl _ w).drewN nd
 clear hq hw' hq0
 go_wp2
 go_ret
 exact ⟨_,rfl,HU.out.ext HE0.out,HE0.out⟩
set_option maxHeartbeats 1000000 in
theorem Zje (u v:Value) (m:Nat) (w:World) (hu:Zaq w u 0) (hv:Zaq w v m) (h0:0 < m) (hm:wl m≤4294967296):Calls Tryz.prog 229 #[u,v] w (Zb1 w m):=by
 obtain ⟨A,l,c,rfl⟩:=hu.slice
 obtain ⟨A2,l2,c2,rfl⟩:=hv.slice
 obtain rfl:l=0:=hu.len0
 have HU:=zh hu
 have HV:=zh hv
 have Hm:=zh hm
 have H0:=zh h0
 clear hu hv hm h0
 go_enter Tryz.func229,Tryz.ntmps229
 go_wp2_with fail
 refine (ZcX _ _ 0 m w HU.out HV.out (by rw [Zi5]; omega) Hm.out).mono ?_
 rintro e w' ⟨rfl,nd,hw'⟩
 obtain ⟨q,hq⟩:∃ q,cmpI ((0:Nat):Int) (m:Int)=q:=⟨_,rfl⟩
 have hq0:q < 0:=by rw [← hq]; exact ZeH.2 H0.out
 have hq1:decide (q < 0)=true:=by simp; omega
 rw [hq]
 have HE0:Hid (Ext w w'):=hw' ▸ (Fr.refl _ w).drewN nd
 clear hq hw' hq0
 go_wp2
 go_ret
 exact ⟨_,rfl,HV.out.ext HE0.out,HE0.out⟩
theorem Zft (u v:Value) (m n:Nat) (w:World) (hg:Glob w) (hu:Zaq w u m) (hv:Zaq w v n) (hm:wl m≤4294967296) (hn:wl n≤4294967296) (hs:min m n < W64):Calls Tryz.prog 229 #[u,v] w (Zb1 w (Nat.gcd m n)):=by
 rcases Nat.eq_zero_or_pos n with rfl | n0
 ·rw [Nat.gcd_zero_right]; exact Zkj u v m w hu hv hm
 rcases Nat.eq_zero_or_pos m with rfl | m0
 ·rw [Nat.gcd_zero_left]; exact Zje u v n w hu hv n0 hn
 rcases Nat.lt_or_ge m n with h | h
 ·exact ZlW v u n m _ w hg hv hu hn (by omega) m0 h (Nat.gcd_comm _ _)
 ·exact ZlV u v m n _ w hg hu hv hm (by omega) n0 h rfl
end Go.Proofs.YtcpjeaaapocoeaaGreatDoor

namespace Go.Proofs.YtcpjeaaapocoeaaGreatDoor
open Go.RowKit
theorem Buf.openG {k:IntKind} {e:TypeId} {w:World} {A:Option Addr} {cap:Nat} {xs:List Nat} (h:Buf k e w A cap xs) (hne:xs≠[]):∃ b,A=some ⟨b,0,none⟩∧Own k e w b xs∧Zce e w b cap∧xs.length≤cap∧cap≤maxLen:=by
 rcases h with ⟨_,h,_⟩ | h
 ·exact absurd h hne
 ·exact h
def ZdV (w wr:World) (G:Nat) (xs ys:List Nat) (Aa:Option Addr) (ca:Nat) (Ab:Option Addr) (cb:Nat):Prop :=
 Buf .u64 217 wr Aa ca xs∧Buf .u64 217 wr Ab cb ys∧Dig W64 xs∧Dig W64 ys∧Trim xs∧Trim ys∧val W64 ys≤val W64 xs∧Nat.gcd (val W64 xs) (val W64 ys)=G∧Ext w wr ∧
  (∀ b,ZaD Aa b→w.heap.size≤b)∧(∀ b,ZaD Ab b→w.heap.size≤b)∧(∀ b,ZaD Aa b→¬ ZaD Ab b)∧xs.length≤79
theorem ZdV.len {w wr:World} {G:Nat} {xs ys:List Nat} {Aa:Option Addr} {ca:Nat} {Ab:Option Addr} {cb:Nat} (h:ZdV w wr G xs ys Aa ca Ab cb):ys.length≤xs.length:=by
 obtain ⟨_,_,h3,h4,h5,h6,h7,_⟩:=h
 rcases Nat.lt_or_ge xs.length ys.length with k | k
 ·have:=Zb6 Zar h3 h6 k; omega
 ·exact k
theorem Buf.natIs {w:World} {A:Option Addr} {cap:Nat} {xs:List Nat} (h:Buf .u64 217 w A cap xs) (hd:Dig W64 xs) (ht:Trim xs):Zaq w (.slice A xs.length cap) (val W64 xs) :=
 ⟨A,xs,cap,rfl,h.len,h.shows,hd,ht,rfl⟩
theorem ZdV.div {w wr w1 w2:World} {G:Nat} {xs ys zs:List Nat} {Aa:Option Addr} {ca:Nat} {Ab:Option Addr} {cb:Nat} {Ac:Option Addr} {cc:Nat} (h:ZdV w wr G xs ys Aa ca Ab cb) (h0:0 < val W64 ys) (Q:Ext wr w1)
 (dz:Dig W64 zs) (tz:Trim zs) (hz:val W64 zs=val W64 xs % val W64 ys) (hB:Buf .u64 217 w2 Ac cc zs) (hE2:Ext w1 w2) (hA:∀ b,ZaD Ac b→w1.heap.size≤b):ZdV w w2 G ys zs Ab cb Ac cc:=by
 have hlen:=h.len
 obtain ⟨h1,h2,h3,h4,h5,h6,h7,h8,h9,h10,h11,h12,h13⟩:=h
 have hlt:=Nat.mod_lt (val W64 xs) h0
 refine ⟨h2.ext (Q.trans hE2),hB,h4,dz,h6,tz,by omega,?_,h9.trans (Q.trans hE2),h11,fun b hb=>?_,fun b hb hb2=>?_,by omega⟩
 ·rw [hz,← h8,Nat.gcd_comm (val W64 ys),← Nat.gcd_rec,Nat.gcd_comm]
 ·have:=hA b hb; have:=Q.size; have:=h9.size; omega
 ·have k1:=h2.lt hb; have k2:=hA b hb2; have:=Q.size; omega
def ZfF (w wr:World) (xs ys:List Nat) (bA ca:Nat) (Ab:Option Addr) (cb j gs:Nat) (cs:Array Value):Prop :=
 Own .u64 217 wr bA xs∧Zce 217 wr bA ca∧Buf .u64 217 wr Ab cb (ys ++ List.replicate j 0)∧(∀ b,ZaD Ab b→w.heap.size≤b∧b≠bA∧b≠gs)∧Blk 384 wr gs cs∧Ext w wr∧w.heap.size≤bA∧gs≠bA∧w.heap.size≤gs
theorem ZfF.next {w wr w3:World} {xs ys:List Nat} {bA ca:Nat} {Ab A3:Option Addr} {cb c3 j gs:Nat} {cs:Array Value} {o:Obj} (h:ZfF w wr xs ys bA ca Ab cb j gs cs) (hB:Buf .u64 217 w3 A3 c3 (ys ++ List.replicate j 0 ++ [0])) (hF:Fr (ZaD Ab) (wr.alloc o) w3) (hA:∀ b,ZaD A3 b→ZaD Ab b∨b=(wr.alloc o).heap.size):ZfF w w3 xs ys bA ca A3 c3 (j + 1) gs cs:=by
 obtain ⟨h1,h2,h3,h4,h5,h6,h7,h8,h9⟩:=h
 have hF':Fr (ZaD Ab) wr w3:=((Fr.refl (ZaD Ab) wr).alloc o).trans hF
 have l1:=h1.lt
 have l5:=h5.lt
 refine ⟨h1.fr hF' (fun hb=>(h4 _ hb).2.1 rfl),h2.fr hF' (fun hb=>(h4 _ hb).2.1 rfl),by rw [List.replicate_succ',← List.append_assoc]; exact hB,fun b hb=>?_,h5.fr hF' (fun hb=>(h4 _ hb).2.2 rfl),h6.next hF' (fun i hi hb=>by have:=(h4 i hb).1; omega),h7,h8,h9⟩
 rcases hA b hb with k | k
 ·exact h4 b k
 ·have:=h6.size
  simp at k
  exact ⟨by omega,by omega,by omega⟩
theorem Buf.takeG {k:IntKind} {e:TypeId} {w:World} {A:Option Addr} {cap:Nat} {xs:List Nat} (h:Buf k e w A cap xs) (n:Nat):Buf k e w A cap (xs.take n):=by
 rcases h with ⟨h1,rfl,h3⟩ | ⟨b,h1,h2,h3,h4,h5⟩
 ·exact Or.inl ⟨h1,by simp,h3⟩
 ·exact Or.inr ⟨b,h1,h2.take n,h3,by rw [List.length_take]; omega,h5⟩
set_option maxHeartbeats 4000000 in
theorem Zkl (u v:Value) (m n g:Nat) (w:World) (hg:Glob w) (hu:Zaq w u m) (hv:Zaq w v n) (hm:wl m≤79) (hn:W64≤n) (hle:n≤m) (eg:Nat.gcd m n=g) :
 Calls Tryz.prog 229 #[u,v] w (Zb1 w g):=by
 have hn79:wl n≤79:=Nat.le_trans (Zes hle) hm
 obtain ⟨A,xs,c,rfl,hc,h1,h2,h3,h4⟩:=hu
 obtain ⟨A2,ys,c2,rfl,hc2,k1,k2,k3,k4⟩:=hv
 have hlx:=Za0 h2 h3
 have hly:=Za0 k2 k3
 rw [h4] at hlx
 rw [k4] at hly
 have hy2:2≤ys.length:=by
  rcases Nat.lt_or_ge ys.length 2 with k | k
  ·have:=Zfk.1 (show wl n≤1 by omega); omega
  ·exact k
 have HU:Hid (Zaq w (.slice A xs.length c) m):=⟨A,xs,c,rfl,hc,h1,h2,h3,h4⟩
 have HV:Hid (Zaq w (.slice A2 ys.length c2) n):=⟨A2,ys,c2,rfl,hc2,k1,k2,k3,k4⟩
 have HX:=zh h1
 have HY:=zh k1
 have Hle:=zh hle
 have Hdx:=zh h2
 have Hdy:=zh k2
 have Htx:=zh h3
 have Hty:=zh k3
 have Hvx:=zh h4
 have Hvy:=zh k4
 have Heg:=zh eg
 have HG:=zh hg
 have Hm:=zh hm
 have Hn:=zh hn79
 have hxl:xs.length≤79:=by omega
 have hyl:ys.length≤79:=by omega
 clear hm hn hle h1 k1 k2 k3 h3 h2 hc hc2 hlx hly h4 k4 eg hg hn79
 go_enter Tryz.func229,Tryz.ntmps229
 go_wp2_with fail
 refine (ZcX _ _ m n w HU.out HV.out (by have:=Hm.out; omega) (by have:=Hn.out; omega)).mono ?_
 rintro e w' ⟨rfl,nd,hw'⟩
 obtain ⟨q,hq⟩:∃ q,cmpI m n=q:=⟨_,rfl⟩
 have hq0:(0:Int)≤q:=by rw [← hq]; exact Zfc Hle.out
 have hq1:decide (q < 0)=false:=by simp; omega
 rw [hq]
 have HE0:Hid (Ext w w'):=hw' ▸ (Fr.refl _ w).drewN nd
 clear hq hw' hq0
 have hyne:((ys.length:Int) == 0)=false:=by rw [beq_eq_false_iff_ne]; omega
 go_wp2_with fail
 refine (Zb3 A xs _ c w' rfl (HX.out.ext HE0.out) (by omega)).mono ?_
 rintro e w1 ⟨A1,cap1,rfl,hB1,hF1,hA1⟩
 have HB1:=zh hB1
 have HA1:Hid (∀ b,ZaD A1 b→w.heap.size≤b):=fun b hb=>Nat.le_trans HE0.out.size (hA1 b hb)
 have HE1:Hid (Ext w w1):=HE0.out.trans hF1
 clear hB1 hF1 hA1
 go_wp2_with fail
 refine (Zb3 A2 ys _ c2 w1 rfl (HY.out.ext HE1.out) (by omega)).mono ?_
 rintro e w2 ⟨A3,cap3,rfl,hB3,hF3,hA3⟩
 have HS0:Hid (ZdV w w2 g xs ys A1 cap1 A3 cap3):=⟨HB1.out.ext hF3,hB3,Hdx.out,Hdy.out,Htx.out,Hty.out,by rw [Hvx.out,Hvy.out]; exact Hle.out,by rw [Hvx.out,Hvy.out]; exact Heg.out,HE1.out.trans hF3,HA1.out,fun b hb=>Nat.le_trans HE1.out.size (hA3 b hb),fun b hb hb2=>by
  have k1:=HB1.out.lt hb
  have k2:=hA3 b hb2
  omega,hxl⟩
 clear hB3 hF3 hA3 HB1 HA1 HE1 HE0 HX HY HU HV Hdx Hdy Htx Hty Hle Heg Hvx Hvy Hm Hn hyne hq1
 go_wp2_with fail
 go_loopg [5,6,7,8,9] (val W64 xs + val W64 ys) (fun k av bv _ _ _ wr=>∃ (xs ys:List Nat) (Aa:Option Addr) (ca:Nat) (Ab:Option Addr) (cb:Nat),k=val W64 xs + val W64 ys∧av=.slice Aa xs.length ca∧bv=.slice Ab ys.length cb∧Hid (ZdV w wr g xs ys Aa ca Ab cb))
 case atStart=>exact ⟨xs,ys,A1,cap1,A3,cap3,rfl,rfl,rfl,HS0⟩
 case round =>
  clear HS0 hy2 hxl hyl
  obtain ⟨xs,ys,Aa,ca,Ab,cb,hk,rfl,rfl,hS⟩:=hrel
  have HK:=zh hk
  clear hk
  have hlen:=hS.out.len
  have hx79:=hS.out.2.2.2.2.2.2.2.2.2.2.2.2
  by_cases h1:1 < ys.length
  ·obtain ⟨bA,rfl,hOA,hCA,hcA,hcAm⟩:=hS.out.1.openG (by intro e; rw [e] at hlen; simp at hlen; rw [hlen] at h1; simp at h1)
   obtain ⟨bB,rfl,hOB,hCB,hcB,hcBm⟩:=hS.out.2.1.openG (by intro e; rw [e] at h1; simp at h1)
   have HSim:=zh (Zgu bA bB ca cb xs ys wr hOA hOB hS.out.2.2.1 hS.out.2.2.2.1 hS.out.2.2.2.2.1 hlen (by omega) hS.out.2.2.2.2.2.2.1 (by omega))
   have hvy:0 < val W64 ys:=Zfy hS.out.2.2.2.2.2.1 Zar (by intro e; rw [e] at h1; simp at h1)
   have HVy:=zh hvy
   have HNA:=zh (hS.out.1.natIs hS.out.2.2.1 hS.out.2.2.2.2.1)
   have HNB:=zh (hS.out.2.1.natIs hS.out.2.2.2.1 hS.out.2.2.2.2.2.1)
   have hwx:wl (val W64 xs)≤79:=by rw [← Za0 hS.out.2.2.1 hS.out.2.2.2.2.1]; exact hx79
   have hwy:wl (val W64 ys)≤79:=by rw [← Za0 hS.out.2.2.2.1 hS.out.2.2.2.2.2.1]; omega
   have HWx:=zh hwx
   have HWy:=zh hwy
   have HOA:=zh hOA
   have HOB:=zh hOB
   have HCA:=zh hCA
   have HCB:=zh hCB
   unfold ZdZ Zbi at HSim
   clear hOA hOB hCA hCB hvy hwx hwy
   go_wp2_with fail
   refine HSim.out.mono ?_
   rintro e w1 ⟨u0,u1,v0,v1,odd,rfl,b0,b1,b2,b3,hSt,hF1⟩
   have HF1:=zh hF1
   have HSt:=zh hSt
   have Hb:=zh (And.intro b0 (And.intro b1 (And.intro b2 b3)))
   clear hF1 hSt b0 b1 b2 b3 HSim
   by_cases hv:v0=0
   ·subst hv
    go_wp2_with fail
    generalize hwb:World.alloc w1 _=wb
    have HEb:Hid (Ext wr wb):=hwb ▸ HF1.out.alloc _
    clear hwb HF1
    refine (ZeX _ _ _ _ _ (HNA.out.ext HEb.out) (HNB.out.ext HEb.out) (by have:=HWx.out; omega) (by have:=HWy.out; omega) HVy.out).mono ?_
    rintro e w2 ⟨qv,rv,rfl,hNq,hNr,hF2⟩
    obtain ⟨Aq,lq,cq,rfl⟩:=hNq.slice
    obtain ⟨Ar,zs,cr,rfl,hcr,hSr,hdz,htz,hvz⟩:=hNr
    have HE2:=zh (HEb.out.trans hF2)
    have HSr:=zh hSr
    have HDz:=zh hdz
    have HTz:=zh htz
    have HVz:=zh hvz
    have hzl:zs.length≤79:=by
     rw [Za0 hdz htz,hvz]
     have:wl (val W64 xs % val W64 ys)≤wl (val W64 xs):=Zes (Nat.mod_le _ _)
     have:=HWx.out; omega
    clear hNq hSr hdz htz hvz hcr hF2 HEb
    go_wp2_with fail
    refine (Zb3 Ar zs _ cr w2 rfl HSr.out (by omega)).mono ?_
    rintro e w3 ⟨Ac,cc,rfl,hB3,hF3,hA3⟩
    have HNew:=zh (hS.out.div HVy.out HE2.out HDz.out HTz.out HVz.out hB3 hF3 hA3)
    have HMs:Hid (val W64 ys + val W64 zs < val W64 xs + val W64 ys):=by
     have h1:=Nat.mod_lt (val W64 xs) HVy.out
     have h2:=hS.out.2.2.2.2.2.2.1
     have h3:=HVz.out
     unfold Hid; omega
    clear hB3 hF3 hA3 hS HNA HNB HOA HOB HCA HCB
    go_wp2
    go_roundg (val W64 ys + val W64 zs)
    case measure=>rw [HK.out]; exact HMs.out
    case rel=>exact ⟨ys,zs,_,cb,Ac,cc,rfl,rfl,rfl,HNew⟩
   ·have hv0:((v0:Int) == 0)=false:=by simp; omega
    obtain ⟨r0,r1,q1,q2,q3,q4⟩:=HSt.out.pair hv
    have HQ:=zh (And.intro q1 (And.intro q2 (And.intro q3 q4)))
    have hAB:bA≠bB:=fun e=>hS.out.2.2.2.2.2.2.2.2.2.2.2.1 bA ⟨_,rfl,rfl⟩ ⟨_,rfl,by simp [e]⟩
    clear q1 q2 q3 q4 hv
    go_wp2_with fail
    generalize hwb:World.alloc w1 _=wb
    have hlA:=HOA.out.lt
    have hlB:=HOB.out.lt
    have hs1:=HF1.out.size
    have HPd:Hid (ZfF w wb xs ys bA ca (some ⟨bB,0,none⟩) cb 0 w1.heap.size #[.int .u64 (u0:Int), .int .u64 (u1:Int), .int .u64 (v0:Int), .int .u64 (v1:Int), .bool odd]):=by
     have hEb:Ext wr wb:=hwb ▸ HF1.out.alloc _
     refine ⟨HOA.out.ext hEb,HCA.out.fr hEb (fun f=>f),by rw [List.replicate_zero,List.append_nil]; exact hS.out.2.1.ext hEb,fun b hb=>?_,hwb ▸ Blk.new _ _ _,hS.out.2.2.2.2.2.2.2.2.1.trans hEb,hS.out.2.2.2.2.2.2.2.2.2.1 bA ⟨_,rfl,rfl⟩,by omega,?_⟩
     ·obtain ⟨a,ha,rfl⟩:=hb
      injection ha with ha; subst ha
      exact ⟨hS.out.2.2.2.2.2.2.2.2.2.2.1 bB ⟨_,rfl,rfl⟩,fun e=>hAB e.symm,by show bB≠_; omega⟩
     ·have:=hS.out.2.2.2.2.2.2.2.2.1.size; omega
    clear hwb
    generalize w1.heap.size=gs at *
    go_loopw [6] (fun bv wq=>∃ (j:Nat) (A6:Option Addr) (c6:Nat),ys.length + j≤xs.length∧bv=.slice A6 (ys.length + j) c6∧Hid (ZfF w wq xs ys bA ca A6 c6 j gs #[.int .u64 (u0:Int), .int .u64 (u1:Int), .int .u64 (v0:Int), .int .u64 (v1:Int), .bool odd])) (fun bv _=>match bv with | .slice _ k _=>xs.length - k | _=>0)
    case atStart=>exact ⟨0,_,cb,by omega,rfl,HPd⟩
    case round =>
     clear HPd
     obtain ⟨j,A6,c6,hj,rfl,hP⟩:=hrel
     by_cases hjl:ys.length + j < xs.length
     ·have hSh:Hid (Zan .u64 (wr.alloc (.cells #[.int .u64 0] 217)) (some ⟨wr.heap.size,0,none⟩) [0]):=(Own.new wr 217 .u64 [0] []).shows0
      have HLj:Hid ((ys ++ List.replicate j 0).length=ys.length + j):=by unfold Hid; simp
      go_wp2_with (at_builtin; refine Hid.out ?_)
      refine zh ?_
      refine Za8 rfl _ _ _ rfl _ .u64 8 Tryz.underlying133 ZdM A6 (some ⟨wr.heap.size,0,none⟩) (ys.length + j) 1 c6 1 rfl rfl (ys ++ List.replicate j 0) [0] HLj.out rfl (hP.out.2.2.1.ext ((Fr.refl _ _).alloc _)) hSh.out (by simp only [maxLen]; omega) (by omega) ?_
      intro A7 c7 w3 hB3 hF3 hA3
      have HNew:=zh (hP.out.next hB3 hF3 hA3)
      clear hB3 hF3 hA3 hSh HLj
      go_wp2
      go_roundw
      case rel=>exact ⟨j + 1,A7,c7,by omega,by rw [Nat.add_assoc],HNew⟩
      case measure=>simp; omega
     ·have ej:ys.length + j=xs.length:=by omega
      have hpos:0 < xs.length:=by omega
      have hne6:ys ++ List.replicate j 0≠[]:=fun e=>by have:=congrArg List.length e; rw [List.length_append,List.length_nil] at this; omega
      obtain ⟨bC,rfl,hOC,hCC,hcC,hcCm⟩:=hP.out.2.2.1.openG hne6
      have hbC:=hP.out.2.2.2.1 bC ⟨_,rfl,rfl⟩
      have hlC:(ys ++ List.replicate j 0).length=xs.length:=by simp; omega
      have hvC:val W64 (ys ++ List.replicate j 0)=val W64 ys:=by rw [Zbx,ZbV]; simp
      have hdC:Dig W64 (ys ++ List.replicate j 0):=hS.out.2.2.2.1.append (Dig.replicate Zar _)
      have hxl:=ZaX hS.out.2.2.1
      have hyx:=hS.out.2.2.2.2.2.2.1
      have HAp:Hid (Calls Tryz.prog 310 #[.agg #[.int .u64 (u0:Int), .int .u64 (u1:Int), .int .u64 (v0:Int), .int .u64 (v1:Int), .bool odd], .slice (some ⟨bA,0,none⟩) xs.length ca, .slice (some ⟨bC,0,none⟩) (ys.length + j) c6] wr (ZdD bA bC xs.length r0 r1 wr)):=by
       obtain ⟨q1,q2,q3,q4⟩:=HQ.out
       obtain ⟨k0,k1,k2,k3⟩:=Hb.out
       unfold Hid
       rw [ej]
       rw [← hvC] at q4
       cases odd with
       | false =>
         simp only [Bool.false_eq_true,if_false] at q4
         exact ZiE bA bC xs.length ca c6 u0 u1 v0 v1 r0 r1 xs _ wr rfl hlC hP.out.1 hOC (fun e=>hbC.2.1 e.symm) hS.out.2.2.1 hdC (by omega) k0 k1 k2 k3 q4.1 q4.2 (by omega) (by omega)
       | true =>
         simp only [if_true] at q4
         exact ZjT bA bC xs.length ca c6 u0 u1 v0 v1 r0 r1 xs _ wr rfl hlC hP.out.1 hOC (fun e=>hbC.2.1 e.symm) hS.out.2.2.1 hdC (by omega) k0 k1 k2 k3 q4.1 q4.2 (by omega) (by omega)
      have s0:wr.cell? ⟨gs,0,none⟩=some (.int .u64 (u0:Int)):=hP.out.2.2.2.2.1.cell 0
      have s1:wr.cell? ⟨gs,1,none⟩=some (.int .u64 (u1:Int)):=hP.out.2.2.2.2.1.cell 1
      have s2:wr.cell? ⟨gs,2,none⟩=some (.int .u64 (v0:Int)):=hP.out.2.2.2.2.1.cell 2
      have s3:wr.cell? ⟨gs,3,none⟩=some (.int .u64 (v1:Int)):=hP.out.2.2.2.2.1.cell 3
      have s4:wr.cell? ⟨gs,4,none⟩=some (.bool odd):=hP.out.2.2.2.2.1.cell 4
      have HCC:=zh hCC
      have HLC:=zh hlC
      have Hej:=zh ej
      clear hOC hCC hlC hvC hdC hxl hyx hne6 ej
      go_wp2_with fail
      refine HAp.out.mono ?_
      rintro e w3 ⟨zs,zt,rfl,hOA3,hOC3,hr0,hr1,hd1,hd2,hl1,hl2,hSA,hSC,hF3⟩
      have hej:=Hej.out
      have HTr1:=zh (ZcF _ zs xs.length ca w3 hl1 hOA3.shows0 (by omega) (by omega))
      have HTr2:=zh (ZcF _ zt (ys.length + j) c6 w3 (by omega) hOC3.shows0 (by have:=HLC.out; omega) (by omega))
      have HNew:Hid (ZdV w w3 g (ZaS zs) (ZaS zt) (some ⟨bA,0,none⟩) ca (some ⟨bC,0,none⟩) c6):=by
       obtain ⟨q1,q2,q3,q4⟩:=HQ.out
       have t1:=Za1 zs
       have t2:=ZcE zs zs.length
       refine ⟨Buf.takeG (Or.inr ⟨bA,rfl,hOA3,hSA _ hP.out.2.1,by omega,hcAm⟩) _,Buf.takeG (Or.inr ⟨bC,rfl,hOC3,hSC _ HCC.out,by have:=HLC.out; omega,hcCm⟩) _,Zcr hd1,Zcr hd2,Zcy _,Zcy _,?_,?_,?_,fun b hb=>?_,fun b hb=>?_,fun b hb hb2=>?_,by omega⟩
       ·rw [Za5,Za5,hr0,hr1]; omega
       ·rw [Za5,Za5,hr0,hr1,q3]; exact hS.out.2.2.2.2.2.2.2.1
       ·refine hP.out.2.2.2.2.2.1.next hF3 (fun i hi e=>?_)
        rcases e with e | e
        ·have:=hP.out.2.2.2.2.2.2.1; omega
        ·have:=hbC.1; omega
       ·obtain ⟨a,ha,rfl⟩:=hb
        injection ha with ha; subst ha
        exact hP.out.2.2.2.2.2.2.1
       ·obtain ⟨a,ha,rfl⟩:=hb
        injection ha with ha; subst ha
        exact hbC.1
       ·obtain ⟨a,ha,rfl⟩:=hb
        injection ha with ha; subst ha
        obtain ⟨a',ha',e⟩:=hb2
        injection ha' with ha'; subst ha'
        exact hbC.2.1 e
      have HMs:Hid (val W64 (ZaS zs) + val W64 (ZaS zt) < val W64 xs + val W64 ys):=by
       obtain ⟨q1,q2,q3,q4⟩:=HQ.out
       have h2:=hS.out.2.2.2.2.2.2.1
       unfold Hid
       rw [Za5,Za5,hr0,hr1]; omega
      have Htl1:=zh (Za1 zs)
      have Htl2:=zh (Za1 zt)
      clear hOA3 hOC3 hr0 hr1 hd1 hd2 hSA hSC hF3 hej hl1 hl2
      go_wp2_with fail
      refine HTr1.out.mono ?_
      rintro e w4 ⟨rfl,rfl⟩
      go_wp2_with fail
      refine HTr2.out.mono ?_
      rintro e w4 ⟨rfl,rfl⟩
      go_wp2
      go_roundg (val W64 (ZaS zs) + val W64 (ZaS zt))
      case measure=>rw [HK.out]; exact HMs.out
      case rel=>exact ⟨ZaS zs,ZaS zt,_,ca,_,c6,rfl,by rw [Htl1.out],by rw [Htl2.out],HNew⟩
  ·have h1':decide ((1:Int) < (ys.length:Int))=false:=by simp; omega
   by_cases h0:ys=[]
   ·subst h0
    have HN:Hid (Zaq wr (.slice Aa xs.length ca) g):=by
     have k1:=hS.out.1.natIs hS.out.2.2.1 hS.out.2.2.2.2.1
     have k2:=hS.out.2.2.2.2.2.2.2.1
     rw [ZdX,Nat.gcd_zero_right] at k2
     rw [k2] at k1
     exact k1
    have HE:Hid (Ext w wr):=hS.out.2.2.2.2.2.2.2.2.1
    clear hS h1 h1' hlen
    go_wp2
    go_ret
    exact ⟨_,rfl,HN.out,HE.out⟩
   ·obtain ⟨y,rfl⟩:∃ y,ys=[y]:=by
     match ys,(by have:=List.length_pos_iff.2 h0; omega:ys.length=1) with
     | [y],_=>exact ⟨y,rfl⟩
    obtain ⟨b3,rfl,hOB,_⟩:=hS.out.2.1.openG h0
    have hc3:=hOB.cell (i:=0) (by simp)
    simp at hc3
    have hb3:=zh hOB.lt
    have HE2:Hid (Ext w wr):=hS.out.2.2.2.2.2.2.2.2.1
    have HS2:Hid (Zan .u64 wr Aa xs):=hS.out.1.shows
    have Hdx:=zh hS.out.2.2.1
    have hyW:y < W64:=hS.out.2.2.2.1 y (by simp)
    have hy0:0 < y:=by
     have:=hS.out.2.2.2.2.2.1 0 rfl
     simp at this; omega
    have hgc:=hS.out.2.2.2.2.2.2.2.1
    simp only [Zc5,ZdX,Nat.mul_zero,Nat.add_zero] at hgc
    obtain ⟨r,er⟩:∃ r,val W64 xs % y=r:=⟨_,rfl⟩
    have hzz:Hid (r < W64∧Nat.gcd y r=g∧g < W64):=by
     have k1:=Nat.mod_lt (val W64 xs) hy0
     have k3:=Nat.gcd_le_right (val W64 xs) hy0
     rw [hgc] at k3
     refine ⟨by omega,?_,by omega⟩
     rw [← er,← hgc,Nat.gcd_comm y,← Nat.gcd_rec,Nat.gcd_comm]
    obtain ⟨x,ex⟩:∃ x,xs.length=x:=⟨_,rfl⟩
    rw [ex] at hx79 ⊢
    have HC3:Hid (wr.cell? ⟨b3,0,none⟩=some (.int .u64 (y:Int))):=hc3
    have Hy0:=zh hy0
    have Hn:=zh hyW
    have Her:=zh er
    have Hex:=zh ex
    clear hS hOB hgc er ex h0 h1 h1' hlen hy0 hyW
    go_wp2_with fail
    go_region_held3 (fun w'=>w'.cell? ⟨b3,0,none⟩=some (.int .u64 (y:Int)))
     (first | exact HC3.out | exact (Fr.cell (p:=⟨b3,0,none⟩) (Fr.undrew hFF) hb3.out (fun f=>f)).trans HC3.out)
     (first
      | (go_at_call 312
         refine (Zcw Aa xs x ca y _ Hex.out HS2.out.drew (by have:=Hex.out; omega) Hdx.out Hy0.out Hn.out).mono ?_
         rintro e w4 ⟨rfl,nd4,hw4⟩
         rw [Her.out]
         have hFF:Ext wr.drew w4:=hw4 ▸ (Fr.refl _ wr.drew).drewN nd4
         clear hw4)
      | (go_at_call 311
         refine (Zd4 y r g _ (HG.out.ext (HE2.out.trans (Fr.undrew hFF))) Hn.out hzz.out.1 hzz.out.2.1).mono ?_
         rintro e w5 ⟨rfl,rfl⟩)
      | (go_at_call 116
         refine (ZdN g _ hzz.out.2.2).mono ?_
         rintro e w6 ⟨v6,rfl,hN6,hF6⟩
         replace hFF:Ext wr.drew w6:=hFF.trans hF6))
    go_wp2
    go_ret
    exact ⟨_,rfl,hN6,HE2.out.trans (Fr.undrew hFF)⟩
set_option maxHeartbeats 4000000 in
theorem Zkm (u v:Value) (m n g:Nat) (w:World) (hg:Glob w) (hu:Zaq w u m) (hv:Zaq w v n) (hm:wl m≤79) (hn:W64≤n) (hlt:n < m) (eg:Nat.gcd m n=g) :
 Calls Tryz.prog 229 #[v,u] w (Zb1 w g):=by
 have hle:n≤m:=by omega
 have hn79:wl n≤79:=Nat.le_trans (Zes hle) hm
 obtain ⟨A,xs,c,rfl,hc,h1,h2,h3,h4⟩:=hu
 obtain ⟨A2,ys,c2,rfl,hc2,k1,k2,k3,k4⟩:=hv
 have hlx:=Za0 h2 h3
 have hly:=Za0 k2 k3
 rw [h4] at hlx
 rw [k4] at hly
 have hy2:2≤ys.length:=by
  rcases Nat.lt_or_ge ys.length 2 with k | k
  ·have:=Zfk.1 (show wl n≤1 by omega); omega
  ·exact k
 have HU:Hid (Zaq w (.slice A xs.length c) m):=⟨A,xs,c,rfl,hc,h1,h2,h3,h4⟩
 have HV:Hid (Zaq w (.slice A2 ys.length c2) n):=⟨A2,ys,c2,rfl,hc2,k1,k2,k3,k4⟩
 have HX:=zh h1
 have HY:=zh k1
 have Hle:=zh hle
 have Hlt:=zh hlt
 have Hdx:=zh h2
 have Hdy:=zh k2
 have Htx:=zh h3
 have Hty:=zh k3
 have Hvx:=zh h4
 have Hvy:=zh k4
 have Heg:=zh eg
 have HG:=zh hg
 have Hm:=zh hm
 have Hn:=zh hn79
 have hxl:xs.length≤79:=by omega
 have hyl:ys.length≤79:=by omega
 clear hm hn hle hlt h1 k1 k2 k3 h3 h2 hc hc2 hlx hly h4 k4 eg hg hn79
 go_enter Tryz.func229,Tryz.ntmps229
 go_wp2_with fail
 refine (ZcX _ _ n m w HV.out HU.out (by have:=Hn.out; omega) (by have:=Hm.out; omega)).mono ?_
 rintro e w' ⟨rfl,nd,hw'⟩
 obtain ⟨q,hq⟩:∃ q,cmpI n m=q:=⟨_,rfl⟩
 have hq0:q < 0:=by
  have h5:(n:Int) < (m:Int):=by have:=Hlt.out; omega
  rw [← hq]; unfold cmpI; rw [if_pos h5]; omega
 have hq1:decide (q < 0)=true:=by simp; omega
 rw [hq]
 have HE0:Hid (Ext w w'):=hw' ▸ (Fr.refl _ w).drewN nd
 clear hq hw' hq0
 have hyne:((ys.length:Int) == 0)=false:=by rw [beq_eq_false_iff_ne]; omega
 go_wp2_with fail
 refine (Zb3 A xs _ c w' rfl (HX.out.ext HE0.out) (by omega)).mono ?_
 rintro e w1 ⟨A1,cap1,rfl,hB1,hF1,hA1⟩
 have HB1:=zh hB1
 have HA1:Hid (∀ b,ZaD A1 b→w.heap.size≤b):=fun b hb=>Nat.le_trans HE0.out.size (hA1 b hb)
 have HE1:Hid (Ext w w1):=HE0.out.trans hF1
 clear hB1 hF1 hA1
 go_wp2_with fail
 refine (Zb3 A2 ys _ c2 w1 rfl (HY.out.ext HE1.out) (by omega)).mono ?_
 rintro e w2 ⟨A3,cap3,rfl,hB3,hF3,hA3⟩
 have HS0:Hid (ZdV w w2 g xs ys A1 cap1 A3 cap3):=⟨HB1.out.ext hF3,hB3,Hdx.out,Hdy.out,Htx.out,Hty.out,by rw [Hvx.out,Hvy.out]; exact Hle.out,by rw [Hvx.out,Hvy.out]; exact Heg.out,HE1.out.trans hF3,HA1.out,fun b hb=>Nat.le_trans HE1.out.size (hA3 b hb),fun b hb hb2=>by
  have k1:=HB1.out.lt hb
  have k2:=hA3 b hb2
  omega,hxl⟩
 clear hB3 hF3 hA3 HB1 HA1 HE1 HE0 HX HY HU HV Hdx Hdy Htx Hty Hle Heg Hvx Hvy Hm Hn hyne hq1
 go_wp2_with fail
 go_loopg [5,6,7,8,9] (val W64 xs + val W64 ys) (fun k av bv _ _ _ wr=>∃ (xs ys:List Nat) (Aa:Option Addr) (ca:Nat) (Ab:Option Addr) (cb:Nat),k=val W64 xs + val W64 ys∧av=.slice Aa xs.length ca∧bv=.slice Ab ys.length cb∧Hid (ZdV w wr g xs ys Aa ca Ab cb))
 case atStart=>exact ⟨xs,ys,A1,cap1,A3,cap3,rfl,rfl,rfl,HS0⟩
 case round =>
  clear HS0 hy2 hxl hyl
  obtain ⟨xs,ys,Aa,ca,Ab,cb,hk,rfl,rfl,hS⟩:=hrel
  have HK:=zh hk
  clear hk
  have hlen:=hS.out.len
  have hx79:=hS.out.2.2.2.2.2.2.2.2.2.2.2.2
  by_cases h1:1 < ys.length
  ·obtain ⟨bA,rfl,hOA,hCA,hcA,hcAm⟩:=hS.out.1.openG (by intro e; rw [e] at hlen; simp at hlen; rw [hlen] at h1; simp at h1)
   obtain ⟨bB,rfl,hOB,hCB,hcB,hcBm⟩:=hS.out.2.1.openG (by intro e; rw [e] at h1; simp at h1)
   have HSim:=zh (Zgu bA bB ca cb xs ys wr hOA hOB hS.out.2.2.1 hS.out.2.2.2.1 hS.out.2.2.2.2.1 hlen (by omega) hS.out.2.2.2.2.2.2.1 (by omega))
   have hvy:0 < val W64 ys:=Zfy hS.out.2.2.2.2.2.1 Zar (by intro e; rw [e] at h1; simp at h1)
   have HVy:=zh hvy
   have HNA:=zh (hS.out.1.natIs hS.out.2.2.1 hS.out.2.2.2.2.1)
   have HNB:=zh (hS.out.2.1.natIs hS.out.2.2.2.1 hS.out.2.2.2.2.2.1)
   have hwx:wl (val W64 xs)≤79:=by rw [← Za0 hS.out.2.2.1 hS.out.2.2.2.2.1]; exact hx79
   have hwy:wl (val W64 ys)≤79:=by rw [← Za0 hS.out.2.2.2.1 hS.out.2.2.2.2.2.1]; omega
   have HWx:=zh hwx
   have HWy:=zh hwy
   have HOA:=zh hOA
   have HOB:=zh hOB
   have HCA:=zh hCA
   have HCB:=zh hCB
   unfold ZdZ Zbi at HSim
   clear hOA hOB hCA hCB hvy hwx hwy
   go_wp2_with fail
   refine HSim.out.mono ?_
   rintro e w1 ⟨u0,u1,v0,v1,odd,rfl,b0,b1,b2,b3,hSt,hF1⟩
   have HF1:=zh hF1
   have HSt:=zh hSt
   have Hb:=zh (And.intro b0 (And.intro b1 (And.intro b2 b3)))
   clear hF1 hSt b0 b1 b2 b3 HSim
   by_cases hv:v0=0
   ·subst hv
    go_wp2_with fail
    generalize hwb:World.alloc w1 _=wb
    have HEb:Hid (Ext wr wb):=hwb ▸ HF1.out.alloc _
    clear hwb HF1
    refine (ZeX _ _ _ _ _ (HNA.out.ext HEb.out) (HNB.out.ext HEb.out) (by have:=HWx.out; omega) (by have:=HWy.out; omega) HVy.out).mono ?_
    rintro e w2 ⟨qv,rv,rfl,hNq,hNr,hF2⟩
    obtain ⟨Aq,lq,cq,rfl⟩:=hNq.slice
    obtain ⟨Ar,zs,cr,rfl,hcr,hSr,hdz,htz,hvz⟩:=hNr
    have HE2:=zh (HEb.out.trans hF2)
    have HSr:=zh hSr
    have HDz:=zh hdz
    have HTz:=zh htz
    have HVz:=zh hvz
    have hzl:zs.length≤79:=by
     rw [Za0 hdz htz,hvz]
     have:wl (val W64 xs % val W64 ys)≤wl (val W64 xs):=Zes (Nat.mod_le _ _)
     have:=HWx.out; omega
    clear hNq hSr hdz htz hvz hcr hF2 HEb
    go_wp2_with fail
    refine (Zb3 Ar zs _ cr w2 rfl HSr.out (by omega)).mono ?_
    rintro e w3 ⟨Ac,cc,rfl,hB3,hF3,hA3⟩
    have HNew:=zh (hS.out.div HVy.out HE2.out HDz.out HTz.out HVz.out hB3 hF3 hA3)
    have HMs:Hid (val W64 ys + val W64 zs < val W64 xs + val W64 ys):=by
     have h1:=Nat.mod_lt (val W64 xs) HVy.out
     have h2:=hS.out.2.2.2.2.2.2.1
     have h3:=HVz.out
     unfold Hid; omega
    clear hB3 hF3 hA3 hS HNA HNB HOA HOB HCA HCB
    go_wp2
    go_roundg (val W64 ys + val W64 zs)
    case measure=>rw [HK.out]; exact HMs.out
    case rel=>exact ⟨ys,zs,_,cb,Ac,cc,rfl,rfl,rfl,HNew⟩
   ·have hv0:((v0:Int) == 0)=false:=by simp; omega
    obtain ⟨r0,r1,q1,q2,q3,q4⟩:=HSt.out.pair hv
    have HQ:=zh (And.intro q1 (And.intro q2 (And.intro q3 q4)))
    have hAB:bA≠bB:=fun e=>hS.out.2.2.2.2.2.2.2.2.2.2.2.1 bA ⟨_,rfl,rfl⟩ ⟨_,rfl,by simp [e]⟩
    clear q1 q2 q3 q4 hv
    go_wp2_with fail
    generalize hwb:World.alloc w1 _=wb
    have hlA:=HOA.out.lt
    have hlB:=HOB.out.lt
    have hs1:=HF1.out.size
    have HPd:Hid (ZfF w wb xs ys bA ca (some ⟨bB,0,none⟩) cb 0 w1.heap.size #[.int .u64 (u0:Int), .int .u64 (u1:Int), .int .u64 (v0:Int), .int .u64 (v1:Int), .bool odd]):=by
     have hEb:Ext wr wb:=hwb ▸ HF1.out.alloc _
     refine ⟨HOA.out.ext hEb,HCA.out.fr hEb (fun f=>f),by rw [List.replicate_zero,List.append_nil]; exact hS.out.2.1.ext hEb,fun b hb=>?_,hwb ▸ Blk.new _ _ _,hS.out.2.2.2.2.2.2.2.2.1.trans hEb,hS.out.2.2.2.2.2.2.2.2.2.1 bA ⟨_,rfl,rfl⟩,by omega,?_⟩
     ·obtain ⟨a,ha,rfl⟩:=hb
      injection ha with ha; subst ha
      exact ⟨hS.out.2.2.2.2.2.2.2.2.2.2.1 bB ⟨_,rfl,rfl⟩,fun e=>hAB e.symm,by show bB≠_; omega⟩
     ·have:=hS.out.2.2.2.2.2.2.2.2.1.size; omega
    clear hwb
    generalize w1.heap.size=gs at *
    go_loopw [6] (fun bv wq=>∃ (j:Nat) (A6:Option Addr) (c6:Nat),ys.length + j≤xs.length∧bv=.slice A6 (ys.length + j) c6∧Hid (ZfF w wq xs ys bA ca A6 c6 j gs #[.int .u64 (u0:Int), .int .u64 (u1:Int), .int .u64 (v0:Int), .int .u64 (v1:Int), .bool odd])) (fun bv _=>match bv with | .slice _ k _=>xs.length - k | _=>0)
    case atStart=>exact ⟨0,_,cb,by omega,rfl,HPd⟩
    case round =>
     clear HPd
     obtain ⟨j,A6,c6,hj,rfl,hP⟩:=hrel
     by_cases hjl:ys.length + j < xs.length
     ·have hSh:Hid (Zan .u64 (wr.alloc (.cells #[.int .u64 0] 217)) (some ⟨wr.heap.size,0,none⟩) [0]):=(Own.new wr 217 .u64 [0] []).shows0
      have HLj:Hid ((ys ++ List.replicate j 0).length=ys.length + j):=by unfold Hid; simp
      go_wp2_with (at_builtin; refine Hid.out ?_)
      refine zh ?_
      refine Za8 rfl _ _ _ rfl _ .u64 8 Tryz.underlying133 ZdM A6 (some ⟨wr.heap.size,0,none⟩) (ys.length + j) 1 c6 1 rfl rfl (ys ++ List.replicate j 0) [0] HLj.out rfl (hP.out.2.2.1.ext ((Fr.refl _ _).alloc _)) hSh.out (by simp only [maxLen]; omega) (by omega) ?_
      intro A7 c7 w3 hB3 hF3 hA3
      have HNew:=zh (hP.out.next hB3 hF3 hA3)
      clear hB3 hF3 hA3 hSh HLj
      go_wp2
      go_roundw
      case rel=>exact ⟨j + 1,A7,c7,by omega,by rw [Nat.add_assoc],HNew⟩
      case measure=>simp; omega
     ·have ej:ys.length + j=xs.length:=by omega
      have hpos:0 < xs.length:=by omega
      have hne6:ys ++ List.replicate j 0≠[]:=fun e=>by have:=congrArg List.length e; rw [List.length_append,List.length_nil] at this; omega
      obtain ⟨bC,rfl,hOC,hCC,hcC,hcCm⟩:=hP.out.2.2.1.openG hne6
      have hbC:=hP.out.2.2.2.1 bC ⟨_,rfl,rfl⟩
      have hlC:(ys ++ List.replicate j 0).length=xs.length:=by simp; omega
      have hvC:val W64 (ys ++ List.replicate j 0)=val W64 ys:=by rw [Zbx,ZbV]; simp
      have hdC:Dig W64 (ys ++ List.replicate j 0):=hS.out.2.2.2.1.append (Dig.replicate Zar _)
      have hxl:=ZaX hS.out.2.2.1
      have hyx:=hS.out.2.2.2.2.2.2.1
      have HAp:Hid (Calls Tryz.prog 310 #[.agg #[.int .u64 (u0:Int), .int .u64 (u1:Int), .int .u64 (v0:Int), .int .u64 (v1:Int), .bool odd], .slice (some ⟨bA,0,none⟩) xs.length ca, .slice (some ⟨bC,0,none⟩) (ys.length + j) c6] wr (ZdD bA bC xs.length r0 r1 wr)):=by
       obtain ⟨q1,q2,q3,q4⟩:=HQ.out
       obtain ⟨k0,k1,k2,k3⟩:=Hb.out
       unfold Hid
       rw [ej]
       rw [← hvC] at q4
       cases odd with
       | false =>
         simp only [Bool.false_eq_true,if_false] at q4
         exact ZiE bA bC xs.length ca c6 u0 u1 v0 v1 r0 r1 xs _ wr rfl hlC hP.out.1 hOC (fun e=>hbC.2.1 e.symm) hS.out.2.2.1 hdC (by omega) k0 k1 k2 k3 q4.1 q4.2 (by omega) (by omega)
       | true =>
         simp only [if_true] at q4
         exact ZjT bA bC xs.length ca c6 u0 u1 v0 v1 r0 r1 xs _ wr rfl hlC hP.out.1 hOC (fun e=>hbC.2.1 e.symm) hS.out.2.2.1 hdC (by omega) k0 k1 k2 k3 q4.1 q4.2 (by omega) (by omega)
      have s0:wr.cell? ⟨gs,0,none⟩=some (.int .u64 (u0:Int)):=hP.out.2.2.2.2.1.cell 0
      have s1:wr.cell? ⟨gs,1,none⟩=some (.int .u64 (u1:Int)):=hP.out.2.2.2.2.1.cell 1
      have s2:wr.cell? ⟨gs,2,none⟩=some (.int .u64 (v0:Int)):=hP.out.2.2.2.2.1.cell 2
      have s3:wr.cell? ⟨gs,3,none⟩=some (.int .u64 (v1:Int)):=hP.out.2.2.2.2.1.cell 3
      have s4:wr.cell? ⟨gs,4,none⟩=some (.bool odd):=hP.out.2.2.2.2.1.cell 4
      have HCC:=zh hCC
      have HLC:=zh hlC
      have Hej:=zh ej
      clear hOC hCC hlC hvC hdC hxl hyx hne6 ej
      go_wp2_with fail
      refine HAp.out.mono ?_
      rintro e w3 ⟨zs,zt,rfl,hOA3,hOC3,hr0,hr1,hd1,hd2,hl1,hl2,hSA,hSC,hF3⟩
      have hej:=Hej.out
      have HTr1:=zh (ZcF _ zs xs.length ca w3 hl1 hOA3.shows0 (by omega) (by omega))
      have HTr2:=zh (ZcF _ zt (ys.length + j) c6 w3 (by omega) hOC3.shows0 (by have:=HLC.out; omega) (by omega))
      have HNew:Hid (ZdV w w3 g (ZaS zs) (ZaS zt) (some ⟨bA,0,none⟩) ca (some ⟨bC,0,none⟩) c6):=by
       obtain ⟨q1,q2,q3,q4⟩:=HQ.out
       have t1:=Za1 zs
       have t2:=ZcE zs zs.length
       refine ⟨Buf.takeG (Or.inr ⟨bA,rfl,hOA3,hSA _ hP.out.2.1,by omega,hcAm⟩) _,Buf.takeG (Or.inr ⟨bC,rfl,hOC3,hSC _ HCC.out,by have:=HLC.out; omega,hcCm⟩) _,Zcr hd1,Zcr hd2,Zcy _,Zcy _,?_,?_,?_,fun b hb=>?_,fun b hb=>?_,fun b hb hb2=>?_,by omega⟩
       ·rw [Za5,Za5,hr0,hr1]; omega
       ·rw [Za5,Za5,hr0,hr1,q3]; exact hS.out.2.2.2.2.2.2.2.1
       ·refine hP.out.2.2.2.2.2.1.next hF3 (fun i hi e=>?_)
        rcases e with e | e
        ·have:=hP.out.2.2.2.2.2.2.1; omega
        ·have:=hbC.1; omega
       ·obtain ⟨a,ha,rfl⟩:=hb
        injection ha with ha; subst ha
        exact hP.out.2.2.2.2.2.2.1
       ·obtain ⟨a,ha,rfl⟩:=hb
        injection ha with ha; subst ha
        exact hbC.1
       ·obtain ⟨a,ha,rfl⟩:=hb
        injection ha with ha; subst ha
        obtain ⟨a',ha',e⟩:=hb2
        injection ha' with ha'; subst ha'
        exact hbC.2.1 e
      have HMs:Hid (val W64 (ZaS zs) + val W64 (ZaS zt) < val W64 xs + val W64 ys):=by
       obtain ⟨q1,q2,q3,q4⟩:=HQ.out
       have h2:=hS.out.2.2.2.2.2.2.1
       unfold Hid
       rw [Za5,Za5,hr0,hr1]; omega
      have Htl1:=zh (Za1 zs)
      have Htl2:=zh (Za1 zt)
      clear hOA3 hOC3 hr0 hr1 hd1 hd2 hSA hSC hF3 hej hl1 hl2
      go_wp2_with fail
      refine HTr1.out.mono ?_
      rintro e w4 ⟨rfl,rfl⟩
      go_wp2_with fail
      refine HTr2.out.mono ?_
      rintro e w4 ⟨rfl,rfl⟩
      go_wp2
      go_roundg (val W64 (ZaS zs) + val W64 (ZaS zt))
      case measure=>rw [HK.out]; exact HMs.out
      case rel=>exact ⟨ZaS zs,ZaS zt,_,ca,_,c6,rfl,by rw [Htl1.out],by rw [Htl2.out],HNew⟩
  ·have h1':decide ((1:Int) < (ys.length:Int))=false:=by simp; omega
   by_cases h0:ys=[]
   ·subst h0
    have HN:Hid (Zaq wr (.slice Aa xs.length ca) g):=by
     have k1:=hS.out.1.natIs hS.out.2.2.1 hS.out.2.2.2.2.1
     have k2:=hS.out.2.2.2.2.2.2.2.1
     rw [ZdX,Nat.gcd_zero_right] at k2
     rw [k2] at k1
     exact k1
    have HE:Hid (Ext w wr):=hS.out.2.2.2.2.2.2.2.2.1
    clear hS h1 h1' hlen
    go_wp2
    go_ret
    exact ⟨_,rfl,HN.out,HE.out⟩
   ·obtain ⟨y,rfl⟩:∃ y,ys=[y]:=by
     match ys,(by have:=List.length_pos_iff.2 h0; omega:ys.length=1) with
     | [y],_=>exact ⟨y,rfl⟩
    obtain ⟨b3,rfl,hOB,_⟩:=hS.out.2.1.openG h0
    have hc3:=hOB.cell (i:=0) (by simp)
    simp at hc3
    have hb3:=zh hOB.lt
    have HE2:Hid (Ext w wr):=hS.out.2.2.2.2.2.2.2.2.1
    have HS2:Hid (Zan .u64 wr Aa xs):=hS.out.1.shows
    have Hdx:=zh hS.out.2.2.1
    have hyW:y < W64:=hS.out.2.2.2.1 y (by simp)
    have hy0:0 < y:=by
     have:=hS.out.2.2.2.2.2.1 0 rfl
     simp at this; omega
    have hgc:=hS.out.2.2.2.2.2.2.2.1
    simp only [Zc5,ZdX,Nat.mul_zero,Nat.add_zero] at hgc
    obtain ⟨r,er⟩:∃ r,val W64 xs % y=r:=⟨_,rfl⟩
    have hzz:Hid (r < W64∧Nat.gcd y r=g∧g < W64):=by
     have k1:=Nat.mod_lt (val W64 xs) hy0
     have k3:=Nat.gcd_le_right (val W64 xs) hy0
     rw [hgc] at k3
     refine ⟨by omega,?_,by omega⟩
     rw [← er,← hgc,Nat.gcd_comm y,← Nat.gcd_rec,Nat.gcd_comm]
    obtain ⟨x,ex⟩:∃ x,xs.length=x:=⟨_,rfl⟩
    rw [ex] at hx79 ⊢
    have HC3:Hid (wr.cell? ⟨b3,0,none⟩=some (.int .u64 (y:Int))):=hc3
    have Hy0:=zh hy0
    have Hn:=zh hyW
    have Her:=zh er
    have Hex:=zh ex
    clear hS hOB hgc er ex h0 h1 h1' hlen hy0 hyW
    go_wp2_with fail
    go_region_held3 (fun w'=>w'.cell? ⟨b3,0,none⟩=some (.int .u64 (y:Int)))
     (first | exact HC3.out | exact (Fr.cell (p:=⟨b3,0,none⟩) (Fr.undrew hFF) hb3.out (fun f=>f)).trans HC3.out)
     (first
      | (go_at_call 312
         refine (Zcw Aa xs x ca y _ Hex.out HS2.out.drew (by have:=Hex.out; omega) Hdx.out Hy0.out Hn.out).mono ?_
         rintro e w4 ⟨rfl,nd4,hw4⟩
         rw [Her.out]
         have hFF:Ext wr.drew w4:=hw4 ▸ (Fr.refl _ wr.drew).drewN nd4
         clear hw4)
      | (go_at_call 311
         refine (Zd4 y r g _ (HG.out.ext (HE2.out.trans (Fr.undrew hFF))) Hn.out hzz.out.1 hzz.out.2.1).mono ?_
         rintro e w5 ⟨rfl,rfl⟩)
      | (go_at_call 116
         refine (ZdN g _ hzz.out.2.2).mono ?_
         rintro e w6 ⟨v6,rfl,hN6,hF6⟩
         replace hFF:Ext wr.drew w6:=hFF.trans hF6))
    go_wp2
    go_ret
    exact ⟨_,rfl,hN6,HE2.out.trans (Fr.undrew hFF)⟩
theorem ZkZ (u v:Value) (m n:Nat) (w:World) (hg:Glob w) (hu:Zaq w u m) (hv:Zaq w v n) (hm:wl m≤79) (hn:wl n≤79):Calls Tryz.prog 229 #[u,v] w (Zb1 w (Nat.gcd m n)):=by
 by_cases hs:min m n < W64
 ·exact Zft u v m n w hg hu hv (by omega) (by omega) hs
 ·rcases Nat.lt_or_ge m n with h | h
  ·exact Zkm v u n m _ w hg hv hu hn (by omega) h (Nat.gcd_comm _ _)
  ·exact Zkl u v m n _ w hg hu hv hm (by omega) h rfl
theorem ZlY (u v:Value) (m n:Nat) (w:World) (hg:Glob w) (hu:Zaq w u m) (hv:Zaq w v n) (hm:wl m≤4294967296) (hn:wl n≤4294967296) (hs:min m n < W64∨(wl m≤79∧wl n≤79)):Calls Tryz.prog 229 #[u,v] w (Zb1 w (Nat.gcd m n)):=by
 rcases hs with h | h
 ·exact Zft u v m n w hg hu hv hm hn h
 ·exact ZkZ u v m n w hg hu hv h.1 h.2
end Go.Proofs.YtcpjeaaapocoeaaGreatDoor

namespace Go.Proofs.YtcpjeaaapocoeaaGreatDoor
open Go.RowKit
def ZeY (x y:Int):Prop:=min x.natAbs y.natAbs < W64∨(wl x.natAbs≤79∧wl y.natAbs≤79)
theorem ZeY.words {x y:Int} (hx:wl x.natAbs≤79) (hy:wl y.natAbs≤79):ZeY x y:=Or.inr ⟨hx,hy⟩
set_option maxHeartbeats 1000000 in
theorem Zjg (a b:Value) (x y:Int) (w:World) (hg:Glob w) (ha:Za4 w a x) (hb:Za4 w b y) (hx:Fits x) (hy:Fits y) (hs:ZeY x y):Calls Tryz.prog 121 #[a,b] w (Zgq w (Int.gcd x y:Int)):=by
 obtain ⟨s,A,l,c,rfl,hN,hz,z0⟩:=ha.open
 obtain ⟨t,A',l',c',rfl,hN',hz',z0'⟩:=hb.open
 have HN:=zh hN
 have HN':=zh hN'
 have Hx:Hid (wl x.natAbs≤4294967296):=by unfold Fits at hx; unfold Hid; omega
 have Hy:Hid (wl y.natAbs≤4294967296):=by unfold Fits at hy; unfold Hid; omega
 have HG:=zh hg
 have HS:=zh hs
 obtain ⟨z,ez⟩:∃ z,Int.gcd x y=z:=⟨_,rfl⟩
 have Ez:Hid (Nat.gcd x.natAbs y.natAbs=z):=ez
 rw [ez]
 clear ha hb hx hy hN hN' hz hz' z0 z0' hg hs ez
 go_enter Tryz.func121,Tryz.ntmps121
 go_wp2_with fail
 generalize hwb:World.alloc (World.alloc (World.alloc w _) _) _=wb
 obtain ⟨hBx,hBy,hBr,Q⟩:=ZkV hwb
 have HBr:=zh hBr
 have HE:=zh Q
 clear hwb hBx hBy hBr Q
 refine (ZlY _ _ _ _ _ (HG.out.ext HE.out) (HN.out.ext HE.out) (HN'.out.ext HE.out) Hx.out Hy.out HS.out).mono ?_
 rintro e w1 ⟨u1,rfl,hN1,hF1⟩
 rw [Ez.out] at hN1
 obtain ⟨A1,l1,c1,rfl⟩:=hN1.slice
 obtain ⟨z0,z1,z2,z3⟩:=(HBr.out.ext hF1).cell2
 have HN1:=zh hN1
 have HF1:=zh hF1
 clear hN1 hF1
 go_wp2
 exact Zjd (neg:=false) rfl rfl (by omega) HE.out HBr.out HF1.out HN1.out rfl rfl
end Go.Proofs.YtcpjeaaapocoeaaGreatDoor

namespace Go.Proofs.YtcpjeaaapocoeaaGreatDoor
open Go.RowKit
end Go.Proofs.YtcpjeaaapocoeaaGreatDoor

namespace Go.Proofs.YtcpjeaaapocoeaaGreatDoor
open Go.RowKit
def Zaj (c:UInt8):Bool:=decide (48≤c.toNat) && decide (c.toNat≤57)
abbrev bytes (s:ByteArray):List UInt8:=s.data.toList
theorem ZeI {p:UInt8→Bool}:∀ {l:List UInt8} {k:Nat},(l.take k).all p=true→(∀ h:k < l.length,p l[k]=false)→l.takeWhile p=l.take k∧l.dropWhile p=l.drop k
 | [],k,_,_=>by simp
 | x :: l,0,_,h=>by
   have:=h (by simp)
   simp at this
   simp [this]
 | x :: l,k + 1,h1,h2=>by
   simp only [List.take_succ_cons,List.all_cons,Bool.and_eq_true] at h1
   have:=ZeI (l:=l) (k:=k) h1.2 (fun h=>by have:=h2 (by simp; omega); simpa using this)
   simp [h1.1,this.1,this.2]
theorem Zag (s:ByteArray):(bytes s).length=s.size:=Array.length_toList
theorem Zbv (s:ByteArray) (a b:Nat):bytes (s.extract a b)=((bytes s).drop a).take (b - a):=Lib.extract_data s a b
theorem ZhS (s:ByteArray) {k:Nat} (h:k < s.size):(bytes s)[k]'(by rw [Zag]; exact h)=s[k]:=rfl
theorem Zgv (s:ByteArray) (k:Nat) (h:k < s.size):(bytes s).take (k + 1)=(bytes s).take k ++ [s[k]]:=by
 rw [List.take_succ_eq_append_getElem (by rw [Zag]; exact h)]; rfl
theorem Zjh {s:ByteArray} {k:Nat} (hR:((bytes s).take k).all Zaj=true) (hd:∀ h:k < s.size,Zaj s[k]=false) :
 bytes (s.extract 0 k)=(bytes s).takeWhile Zaj∧bytes (s.extract k s.size)=(bytes s).dropWhile Zaj:=by
 obtain ⟨h1,h2⟩:=ZeI hR (fun h=>hd (by rw [Zag] at h; exact h))
 rw [Zbv,Zbv,h1,h2]
 refine ⟨by simp,?_⟩
 rw [List.take_of_length_le (by rw [List.length_drop,Zag]; exact Nat.le_refl _)]
def Zq1 (s:ByteArray) (w:World) (e:Ending) (w':World):Prop :=
 ∃ t u:ByteArray,e=.returned (.tuple #[.string t, .string u])∧bytes t=(bytes s).takeWhile Zaj∧bytes u=(bytes s).dropWhile Zaj∧∃ n,w'=w.drewN n
set_option maxHeartbeats 1000000 in
theorem Zf3 (s:ByteArray) (w:World) (hs:s.size≤1099511627776):Calls Tryz.prog 51 #[.string s] w (Zq1 s w):=by
 go_enter Tryz.func51,Tryz.ntmps51
 go_wp2
 go_loop [4] (fun v=>∃ k:Nat,k≤s.size∧v=.int .i64 (k:Int)∧Hid (((bytes s).take k).all Zaj=true)) (fun v=>s.size - (intOf v).toNat)
 case atStart=>exact ⟨0,Nat.zero_le _,rfl,rfl⟩
 case round =>
  obtain ⟨k,hk,rfl,hR⟩:=hrel
  by_cases hlt:k < s.size
  ·have hb:Zaj s[k]=(decide (48≤s[k].toNat) && decide (s[k].toNat≤57)):=rfl
   have HB:=zh hb
   have hts:=zh (Zgv s k hlt)
   clear hb
   go_wp2_with fail
   ·have h1:48≤(s[k].toNat:Int):=by assumption
    have h2:(s[k].toNat:Int)≤57:=by assumption
    go_round
    case rel =>
     refine ⟨k + 1,by omega,by go_num,?_⟩
     unfold Hid
     rw [hts.out,List.all_append,hR.out]
     simp only [List.all_cons,List.all_nil,Bool.and_true,Bool.true_and]
     rw [HB.out,decide_eq_true (by omega),decide_eq_true (by omega)]; rfl
    case measure=>simp [intOf]; omega
   ·have h1:57 < (s[k].toNat:Int):=by assumption
    have hfin:=zh (Zjh hR.out (fun _=>by rw [HB.out,decide_eq_false (p:=s[k].toNat≤57) (by omega),Bool.and_false]))
    go_quiet (fail)
    go_wp2
    go_ret2
    exact ⟨_,_,rfl,hfin.out.1,hfin.out.2,_,rfl⟩
   ·have h1:(s[k].toNat:Int) < 48:=by assumption
    have hfin:=zh (Zjh hR.out (fun _=>by rw [HB.out,decide_eq_false (p:=48≤s[k].toNat) (by omega),Bool.false_and]))
    go_quiet (fail)
    go_wp2
    go_ret2
    exact ⟨_,_,rfl,hfin.out.1,hfin.out.2,_,rfl⟩
  ·have hfin:=zh (Zjh hR.out (fun h=>absurd h hlt))
   go_wp2_with fail
   go_quiet (fail)
   go_wp2
   go_ret2
   exact ⟨_,_,rfl,hfin.out.1,hfin.out.2,_,rfl⟩
def Zaz (l:List UInt8):Bool × List UInt8:=if l.head? = some 45 then (true,l.tail) else (false,l)
def Zpu (s:ByteArray) (w:World) (e:Ending) (w':World):Prop:=∃ (r:ByteArray) (neg:Bool),e=.returned (.tuple #[.string r, .bool neg])∧Zaz (bytes s)=(neg,bytes r)∧w=w'
theorem Zk0 (s:ByteArray) (w:World):Calls Tryz.prog 50 #[.string s, .string ⟨#[45]⟩] w (Zpu s w):=by
 refine (Tryz.strings_CutPrefix s ⟨#[45]⟩ w).mono ?_
 rintro e w1 ⟨rfl,rfl⟩
 refine ⟨_,_,rfl,?_,rfl⟩
 unfold Zaz
 cases h:s.data.toList with
 | nil=>simp [bytes,h,Lib.trimPrefix,Lib.hasPrefix]
 | cons x l =>
   by_cases hx:x=45
   ·subst hx; simp [bytes,h,Lib.trimPrefix,Lib.hasPrefix]
   ·have hx':¬ 45=x:=fun e=>hx e.symm
    simp [bytes,h,Lib.trimPrefix,Lib.hasPrefix,List.isPrefixOf,hx,hx']
def ZaU (l:List UInt8):Bool × List UInt8 × List UInt8 × Bool :=
 let p:=Zaz l
 let num:=p.2.takeWhile Zaj
 let rest:=p.2.dropWhile Zaj
 if num=[48] then (p.1,num,[],!p.1 && rest.isEmpty)
 else if num=[]∨num.head? = some 48 then (p.1,num,[],false)
 else if rest=[] then (p.1,num,[],true)
 else if rest.head? ≠ some 47 then (p.1,num,[],false)
 else (p.1,num,rest.tail.takeWhile Zaj,(rest.tail.dropWhile Zaj).isEmpty && !(rest.tail.takeWhile Zaj).isEmpty && (rest.tail.takeWhile Zaj).head? != some 48 && (rest.tail.takeWhile Zaj) != [49])
def ZhT (s:ByteArray) (w:World) (e:Ending) (w':World):Prop :=
 ∃ (neg:Bool) (t d:ByteArray) (ok:Bool),e=.returned (.tuple #[.agg #[.bool neg, .string t, .string d], .bool ok])∧ZaU (bytes s)=(neg,bytes t,bytes d,ok)∧Ext w w'
theorem Zoi {l r:List UInt8} {neg:Bool} (h:Zaz l=(neg,r)):r.length≤l.length:=by
 unfold Zaz at h
 split at h<;>(injection h with _ h; subst h; simp)
theorem ZdE {t:ByteArray} (h:bytes t≠[]):0 < t.size∧t.toList≠[]∧t.toList.isEmpty=false:=by
 rw [Lib.toList_data]
 have h1:0 < t.size:=by rw [← Zag]; exact List.length_pos_iff.2 h
 exact ⟨h1,h,by simpa using h⟩
theorem ZeZ {t:ByteArray} (h:0 < t.size):(bytes t).head? = some t[0]:=by
 have h1:0 < (bytes t).length:=by rw [Zag]; exact h
 rw [List.head?_eq_getElem?,List.getElem?_eq_getElem h1,ZhS t h]
theorem Zji {b:UInt8} {n:Nat} (hn:n < 256):((b.toNat:Int) == (n:Int))=decide (b=UInt8.ofNat n):=by
 rw [Bool.eq_iff_iff]
 simp
 constructor
 ·intro h
  have:b.toNat=n:=by omega
  rw [← this]; simp
 ·rintro rfl
  simp [Nat.mod_eq_of_lt hn]
theorem Blk.cell3 {t:TypeId} {w:World} {g:Nat} {x y z:Value} (h:Blk t w g #[x,y,z]):w.cell? ⟨g,0,none⟩=some x∧w.cell? ⟨g,1,none⟩=some y∧w.cell? ⟨g,2,none⟩=some z∧w.frozen? ⟨g,0,none⟩=false∧w.frozen? ⟨g,1,none⟩=false∧w.frozen? ⟨g,2,none⟩=false :=
 ⟨h.cell 0,h.cell 1,h.cell 2,h.frozen 0,h.frozen 1,h.frozen 2⟩
theorem ZbC {fn:Func} {tmps:Array Value} {w wz:World} {r:Nat} {neg ok:Bool} {s t d:ByteArray} (hres:fn.results=#[.cell 2 360, .tmp 3]) (ht:tmps[2]? = some (.pointer (some ⟨r,0,none⟩))) (h3:tmps[3]? = some (.bool ok))
 (hB:Blk 360 wz r #[.bool neg, .string t, .string d]) (Q:Ext w wz) (hS:ZaU (bytes s)=(neg,bytes t,bytes d,ok)):bodyPost Tryz.prog fn (ZhT s w) .ret ⟨tmps,[]⟩ wz:=by
 obtain ⟨h0,h1,h2,_⟩:=hB.cell3
 refine bodyPost_ret (v:=.tuple #[.agg #[.bool neg, .string t, .string d], .bool ok]) (by simp [results,hres,ht,h3,go_sem,h0,h1,h2]) rfl ⟨neg,t,d,ok,rfl,hS,Q⟩
set_option maxHeartbeats 2000000 in
theorem Zgw (s:ByteArray) (w:World) (hs:s.size≤1099511627776):Calls Tryz.prog 280 #[.string s] w (ZhT s w):=by
 go_enter Tryz.func280,Tryz.ntmps280
 go_wp2_with fail
 refine (Zk0 s _).mono ?_
 rintro e w1 ⟨r,neg,rfl,hr,rfl⟩
 have hrs:r.size≤1099511627776:=by
  have:=Zoi hr; rw [Zag,Zag] at this; omega
 have HR:=zh hr
 clear hr
 go_wp2_with fail
 refine (Zf3 r _ hrs).mono ?_
 rintro e w1 ⟨t,u,rfl,ht,hu,n1,rfl⟩
 have HT:=zh ht
 have HU:=zh hu
 have hus:u.size≤1099511627776:=by
  have h1:=congrArg List.length hu
  have h2:=(List.dropWhile_suffix Zaj (l:=bytes r)).sublist.length_le
  rw [Zag] at h1
  rw [Zag] at h2
  omega
 have HSP:Hid (∀ (d:List UInt8) (ok:Bool),ZaU (bytes s)=(neg,bytes t,d,ok) ↔ (if bytes t=[48] then (neg,bytes t,[],!neg && (bytes u).isEmpty)
  else if bytes t=[]∨(bytes t).head? = some 48 then (neg,bytes t,[],false)
  else if bytes u=[] then (neg,bytes t,[],true)
  else if (bytes u).head? ≠ some 47 then (neg,bytes t,[],false)
  else (neg,bytes t,(bytes u).tail.takeWhile Zaj,((bytes u).tail.dropWhile Zaj).isEmpty && !((bytes u).tail.takeWhile Zaj).isEmpty && ((bytes u).tail.takeWhile Zaj).head? != some 48 && ((bytes u).tail.takeWhile Zaj) != [49]))=(neg,bytes t,d,ok)):=by
  intro d ok
  unfold ZaU
  rw [HR.out]
  simp only [← HT.out,← HU.out]
 clear ht hu
 generalize hwb:World.alloc (World.alloc w _) _=wb0
 obtain ⟨hBR,hBF,Q⟩:=ZiD hwb
 clear hwb
 generalize hwb:World.drewN wb0 n1=wb
 have HBR:Hid (Blk 360 wb w.heap.size #[.bool false, .string ⟨#[]⟩, .string ⟨#[]⟩]):=hwb ▸ hBR.drewN n1
 have HBF:Hid (Blk 360 wb (w.heap.size + 1) #[.bool neg, .string ⟨#[]⟩, .string ⟨#[]⟩]):=hwb ▸ hBF.drewN n1
 have HE:Hid (Ext w wb):=hwb ▸ Q.drewN n1
 clear hwb hBR hBF Q
 clear wb0
 obtain ⟨x0,x1,x2,x3,x4,x5⟩:=HBR.out.cell3
 obtain ⟨y0,y1,y2,y3,y4,y5⟩:=HBF.out.cell3
 have hu1:u.toList=bytes u:=Lib.toList_data u
 have ht1:t.toList=bytes t:=Lib.toList_data t
 have HU1:=zh hu1
 have HT1:=zh ht1
 clear hu1 ht1
 by_cases c1:bytes t=[48]
 ·have d1:(t.toList == [48])=true:=by rw [HT1.out,c1]; rfl
  cases neg with
  | true =>
    have HS:Hid (ZaU (bytes s)=(true,bytes t,bytes ⟨#[]⟩,false)):=by
     unfold Hid; rw [HSP.out,if_pos c1]; rfl
    clear c1
    go_wp2
    exact ZbC rfl rfl rfl ((((HBR.out.far (p:=⟨w.heap.size + 1,1,none⟩) (by simp) (.string t)).set_ 0 (.bool true)).set_ 1 (.string t)).set_ 2 (.string ⟨#[]⟩)) ((((HE.out.setCell (Or.inr (by simp)) _).setCell (Or.inr (by simp)) _).setCell (Or.inr (by simp)) _).setCell (Or.inr (by simp)) _) HS.out
  | false =>
    by_cases c2:bytes u=[]
    ·have d2:u.toList.isEmpty=true:=by rw [HU1.out,c2,List.isEmpty_nil]
     have HS:Hid (ZaU (bytes s)=(false,bytes t,bytes ⟨#[]⟩,true)):=by
      unfold Hid; rw [HSP.out,if_pos c1,c2]; rfl
     clear c1 c2
     go_wp2
     exact ZbC rfl rfl rfl ((((HBR.out.far (p:=⟨w.heap.size + 1,1,none⟩) (by simp) (.string t)).set_ 0 (.bool false)).set_ 1 (.string t)).set_ 2 (.string ⟨#[]⟩)) ((((HE.out.setCell (Or.inr (by simp)) _).setCell (Or.inr (by simp)) _).setCell (Or.inr (by simp)) _).setCell (Or.inr (by simp)) _) HS.out
    ·have d2:u.toList.isEmpty=false:=(ZdE c2).2.2
     have HS:Hid (ZaU (bytes s)=(false,bytes t,bytes ⟨#[]⟩,false)):=by
      unfold Hid; rw [HSP.out,if_pos c1,show (bytes u).isEmpty=false by simpa using c2]; rfl
     clear c1 c2
     go_wp2
     exact ZbC rfl rfl rfl ((((HBR.out.far (p:=⟨w.heap.size + 1,1,none⟩) (by simp) (.string t)).set_ 0 (.bool false)).set_ 1 (.string t)).set_ 2 (.string ⟨#[]⟩)) ((((HE.out.setCell (Or.inr (by simp)) _).setCell (Or.inr (by simp)) _).setCell (Or.inr (by simp)) _).setCell (Or.inr (by simp)) _) HS.out
 have d1:(t.toList == [48])=false:=by rw [HT1.out]; simpa using c1
 by_cases c2:bytes t=[]
 ·have d2:t.toList=[]:=HT1.out.trans c2
  have HS:Hid (ZaU (bytes s)=(neg,bytes t,bytes ⟨#[]⟩,false)):=by
   unfold Hid; rw [HSP.out,if_neg c1,if_pos (Or.inl c2)]
  clear c1 c2
  go_wp2
  exact ZbC rfl rfl rfl ((((HBR.out.far (p:=⟨w.heap.size + 1,1,none⟩) (by simp) (.string t)).set_ 0 (.bool neg)).set_ 1 (.string t)).set_ 2 (.string ⟨#[]⟩)) ((((HE.out.setCell (Or.inr (by simp)) _).setCell (Or.inr (by simp)) _).setCell (Or.inr (by simp)) _).setCell (Or.inr (by simp)) _) HS.out
 obtain ⟨g1,g2,g3⟩:=ZdE c2
 have hb0:=Zji (b:=t[0]) (n:=48) (by omega)
 have hh0:=ZeZ g1
 by_cases c3:t[0]=48
 ·have d3:((t[0].toNat:Int) == 48)=true:=by rw [show (48:Int)=((48:Nat):Int) from rfl,hb0]; simpa using c3
  have HS:Hid (ZaU (bytes s)=(neg,bytes t,bytes ⟨#[]⟩,false)):=by
   unfold Hid; rw [HSP.out,if_neg c1,if_pos (Or.inr (by rw [hh0,c3]))]
  clear c1 c2 c3 hb0 hh0
  go_wp2
  exact ZbC rfl rfl rfl ((((HBR.out.far (p:=⟨w.heap.size + 1,1,none⟩) (by simp) (.string t)).set_ 0 (.bool neg)).set_ 1 (.string t)).set_ 2 (.string ⟨#[]⟩)) ((((HE.out.setCell (Or.inr (by simp)) _).setCell (Or.inr (by simp)) _).setCell (Or.inr (by simp)) _).setCell (Or.inr (by simp)) _) HS.out
 have d3:((t[0].toNat:Int) == 48)=false:=by rw [show (48:Int)=((48:Nat):Int) from rfl,hb0]; simpa using c3
 have c4:¬ (bytes t=[]∨(bytes t).head? = some 48):=by
  rintro (h | h)
  ·exact c2 h
  ·rw [hh0] at h; injection h with h; exact c3 h
 clear hb0 hh0 c3 c2
 by_cases c5:bytes u=[]
 ·have d5:u.toList.isEmpty=true:=by rw [HU1.out,c5]; rfl
  have HS:Hid (ZaU (bytes s)=(neg,bytes t,bytes ⟨#[]⟩,true)):=by
   unfold Hid; rw [HSP.out,if_neg c1,if_neg c4,if_pos c5]
  clear c1 c4 c5
  go_wp2
  exact ZbC rfl rfl rfl ((((HBR.out.far (p:=⟨w.heap.size + 1,1,none⟩) (by simp) (.string t)).set_ 0 (.bool neg)).set_ 1 (.string t)).set_ 2 (.string ⟨#[]⟩)) ((((HE.out.setCell (Or.inr (by simp)) _).setCell (Or.inr (by simp)) _).setCell (Or.inr (by simp)) _).setCell (Or.inr (by simp)) _) HS.out
 obtain ⟨k1,k2,k3⟩:=ZdE c5
 have hb0:=Zji (b:=u[0]) (n:=47) (by omega)
 have hh0:=ZeZ k1
 by_cases c6:u[0]=47
 ·have d6:((u[0].toNat:Int) != 47)=false:=by
   have:((u[0].toNat:Int) == 47)=true:=by rw [show (47:Int)=((47:Nat):Int) from rfl,hb0]; simpa using c6
   simp [bne,this]
  have H6:Hid (¬ (bytes u).head? ≠ some 47):=by unfold Hid; rw [hh0,c6]; simp
  have HC:Hid (bytes t≠[48]∧¬ (bytes t=[]∨(bytes t).head? = some 48)∧bytes u≠[]):=⟨c1,c4,c5⟩
  clear c1 c4 c5 c6 hb0 hh0
  go_wp2_with fail
  refine (Zf3 (u.extract 1 u.size) _ (by rw [ByteArray.size_extract]; omega)).mono ?_
  rintro e w1 ⟨v,x,rfl,hv,hx,n2,rfl⟩
  have ev:bytes (u.extract 1 u.size)=(bytes u).tail:=by
   rw [Zbv,List.take_of_length_le (by rw [List.length_drop,Zag]; exact Nat.le_refl _),List.drop_one]
  rw [ev] at hv hx
  have HF:Hid (∀ ok,(((bytes x).isEmpty && !(bytes v).isEmpty && (bytes v).head? != some 48 && (bytes v) != [49])=ok)→ZaU (bytes s)=(neg,bytes t,bytes v,ok)):=by
   intro ok h
   rw [HSP.out,if_neg HC.out.1,if_neg HC.out.2.1,if_neg HC.out.2.2,if_neg H6.out,← hv,← hx,h]
  have hv1:v.toList=bytes v:=Lib.toList_data v
  have hx1:x.toList=bytes x:=Lib.toList_data x
  have HV1:=zh hv1
  have HX1:=zh hx1
  clear hv hx ev hv1 hx1 d6
  generalize hwc:World.setCell wb _ _=wc0
  generalize hwd:World.drewN wc0 n2=wd
  have HBR2:Hid (Blk 360 wd w.heap.size #[.bool false, .string ⟨#[]⟩, .string ⟨#[]⟩]):=hwd ▸ hwc ▸ (HBR.out.far (p:=⟨w.heap.size + 1,1,none⟩) (by simp) _).drewN n2
  have HBF2:Hid (Blk 360 wd (w.heap.size + 1) #[.bool neg, .string t, .string ⟨#[]⟩]):=hwd ▸ hwc ▸ (HBF.out.set_ 1 _).drewN n2
  have HE2:Hid (Ext w wd):=hwd ▸ hwc ▸ (HE.out.setCell (Or.inr (by simp)) _).drewN n2
  clear hwd hwc HBR HBF HE x0 x1 x2 x3 x4 x5 y0 y1 y2 y3 y4 y5
  clear wc0
  obtain ⟨x0,x1,x2,x3,x4,x5⟩:=HBR2.out.cell3
  obtain ⟨y0,y1,y2,y3,y4,y5⟩:=HBF2.out.cell3
  go_wp2_with fail
  by_cases q1:bytes x=[]
  ·have r1:x.toList.isEmpty=true:=by rw [HX1.out,q1,List.isEmpty_nil]
   by_cases q2:bytes v=[]
   ·have r2:v.toList.isEmpty=true:=by rw [HV1.out,q2,List.isEmpty_nil]
    have r2':v.toList=[]:=HV1.out.trans q2
    have HS:=zh (HF.out false (by rw [q1,q2]; rfl))
    clear q1 q2
    go_region
    all_goals go_wp2
    all_goals exact ZbC rfl rfl rfl (((((HBR2.out.far (p:=⟨w.heap.size + 1,2,none⟩) (by simp) (.string v)).set_ 0 (.bool neg)).set_ 1 (.string t)).set_ 2 (.string v)).drewN 1) (((((HE2.out.setCell (Or.inr (by simp)) _).setCell (Or.inr (by simp)) _).setCell (Or.inr (by simp)) _).setCell (Or.inr (by simp)) _).drewN 1) HS.out
   ·obtain ⟨g4,g5,g6⟩:=ZdE q2
    have hb1:=Zji (b:=v[0]) (n:=48) (by omega)
    have hh1:=ZeZ g4
    have ne2:(bytes v).isEmpty=false:=by simpa using q2
    by_cases q3:v[0]=48
    ·have r3:((v[0].toNat:Int) == 48)=true:=by rw [show (48:Int)=((48:Nat):Int) from rfl,hb1]; simpa using q3
     have r3':((v[0].toNat:Int) != 48)=false:=by rw [bne,r3]; rfl
     have HS:=zh (HF.out false (by rw [q1,ne2,hh1,q3]; rfl))
     clear q1 q2 q3 hb1 hh1 ne2 r3
     go_region
     all_goals go_wp2
     all_goals exact ZbC rfl rfl rfl (((((HBR2.out.far (p:=⟨w.heap.size + 1,2,none⟩) (by simp) (.string v)).set_ 0 (.bool neg)).set_ 1 (.string t)).set_ 2 (.string v)).drewN 1) (((((HE2.out.setCell (Or.inr (by simp)) _).setCell (Or.inr (by simp)) _).setCell (Or.inr (by simp)) _).setCell (Or.inr (by simp)) _).drewN 1) HS.out
    ·have r3:((v[0].toNat:Int) == 48)=false:=by rw [show (48:Int)=((48:Nat):Int) from rfl,hb1]; simpa using q3
     have r3':((v[0].toNat:Int) != 48)=true:=by rw [bne,r3]; rfl
     have n3:((bytes v).head? != some 48)=true:=by rw [hh1]; simpa using q3
     by_cases q4:bytes v=[49]
     ·have r4:(v.toList == [49])=true:=by rw [HV1.out,q4]; rfl
      have r4':(v.toList != [49])=false:=by rw [bne,r4]; rfl
      have HS:=zh (HF.out false (by rw [q1,n3,ne2,q4]; rfl))
      clear q1 q2 q3 q4 hb1 hh1 ne2 n3 r3 r4'
      go_region
      all_goals go_wp2
      all_goals exact ZbC rfl rfl rfl (((((HBR2.out.far (p:=⟨w.heap.size + 1,2,none⟩) (by simp) (.string v)).set_ 0 (.bool neg)).set_ 1 (.string t)).set_ 2 (.string v)).drewN 1) (((((HE2.out.setCell (Or.inr (by simp)) _).setCell (Or.inr (by simp)) _).setCell (Or.inr (by simp)) _).setCell (Or.inr (by simp)) _).drewN 1) HS.out
     ·have r4:(v.toList == [49])=false:=by rw [HV1.out]; simpa using q4
      have r4':(v.toList != [49])=true:=by rw [bne,r4]; rfl
      have HS:=zh (HF.out true (by rw [q1,n3,ne2,show (bytes v != [49])=true by rw [bne]; simpa using q4]; rfl))
      clear q1 q2 q3 q4 hb1 hh1 ne2 n3 r3 r4'
      go_region
      all_goals go_wp2
      all_goals exact ZbC rfl rfl rfl (((((HBR2.out.far (p:=⟨w.heap.size + 1,2,none⟩) (by simp) (.string v)).set_ 0 (.bool neg)).set_ 1 (.string t)).set_ 2 (.string v)).drewN 1) (((((HE2.out.setCell (Or.inr (by simp)) _).setCell (Or.inr (by simp)) _).setCell (Or.inr (by simp)) _).setCell (Or.inr (by simp)) _).drewN 1) HS.out
  ·have r1:x.toList.isEmpty=false:=(ZdE q1).2.2
   have HS:=zh (HF.out false (by rw [show (bytes x).isEmpty=false by simpa using q1]; rfl))
   clear q1
   go_region
   all_goals go_wp2
   all_goals exact ZbC rfl rfl rfl (((((HBR2.out.far (p:=⟨w.heap.size + 1,2,none⟩) (by simp) (.string v)).set_ 0 (.bool neg)).set_ 1 (.string t)).set_ 2 (.string v)).drewN 1) (((((HE2.out.setCell (Or.inr (by simp)) _).setCell (Or.inr (by simp)) _).setCell (Or.inr (by simp)) _).setCell (Or.inr (by simp)) _).drewN 1) HS.out
 ·have d6:((u[0].toNat:Int) != 47)=true:=by
   have:((u[0].toNat:Int) == 47)=false:=by rw [show (47:Int)=((47:Nat):Int) from rfl,hb0]; simpa using c6
   simp [bne,this]
  have HS:Hid (ZaU (bytes s)=(neg,bytes t,bytes ⟨#[]⟩,false)):=by
   unfold Hid; rw [HSP.out,if_neg c1,if_neg c4,if_neg c5,if_pos (by rw [hh0]; simpa using c6)]
  clear c1 c4 c5 c6 hb0 hh0
  go_wp2
  exact ZbC rfl rfl rfl ((((HBR.out.far (p:=⟨w.heap.size + 1,1,none⟩) (by simp) (.string t)).set_ 0 (.bool neg)).set_ 1 (.string t)).set_ 2 (.string ⟨#[]⟩)) ((((HE.out.setCell (Or.inr (by simp)) _).setCell (Or.inr (by simp)) _).setCell (Or.inr (by simp)) _).setCell (Or.inr (by simp)) _) HS.out
end Go.Proofs.YtcpjeaaapocoeaaGreatDoor

namespace Go.Proofs.YtcpjeaaapocoeaaGreatDoor
open Go.RowKit
theorem ZpC {a p:Nat}:(a:Int).tmod (p:Int)=((a % p:Nat):Int):=by
 rw [Int.tmod_eq_emod_of_nonneg (by omega),Int.natCast_emod]
end Go.Proofs.YtcpjeaaapocoeaaGreatDoor

namespace Go.Proofs.YtcpjeaaapocoeaaGreatDoor
open Go.RowKit Go.Sort
end Go.Proofs.YtcpjeaaapocoeaaGreatDoor

namespace Go.Proofs.YtcpjeaaapocoeaaGreatDoor
open Go.RowKit Go.Sort
section
variable {w wr w2:World} {A:Option Addr} {L:List UInt8} {cs:List Nat} {Ac:Option Addr} {cc bb t:Nat} {bs:List Nat} {A' A2:Option Addr} {cap' cap2:Nat}
end
end Go.Proofs.YtcpjeaaapocoeaaGreatDoor

namespace Go.Proofs.YtcpjeaaapocoeaaGreatDoor
open Go.RowKit Go.Sort
end Go.Proofs.YtcpjeaaapocoeaaGreatDoor
