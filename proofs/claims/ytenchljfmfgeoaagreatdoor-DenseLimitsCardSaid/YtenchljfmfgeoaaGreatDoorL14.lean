/-
 My texts Gcd1, Gcd2, Int4, Int5, Split, Parse, Parse2, Rat, Read, Rq, Print0, Smp, Smp2, Res, Short, Short2, FpM put together.
-/
import Derived.Test.YtenchljfmfgeoaaGreatDoorL13
import Derived.Test.YtenchljfmfgeoaaGreatDoorL08
import Derived.Test.YtenchljfmfgeoaaGreatDoorL05
import Derived.Test.YtenchljfmfgeoaaGreatDoorL07
import Derived.Deep.LoopGhost
import Derived.Test.YtenchljfmfgeoaaGreatDoorL03
import Derived.Deep.QuietTactic
import Derived.BigQuiet
import Derived.Outline
import Derived.Lib.Strings
import Derived.RegionTactic
import Derived.BigRegion
import Derived.Test.YtenchljfmfgeoaaGreatDoorL06
import Derived.Lib.ConvBytes
import Derived.Deep.DeepCutAuto
import Derived.Test.YtenchljfmfgeoaaGreatDoorL00
import Derived.Laws.IdiomStrings
import Derived.Deep.RegionWith
import Derived.Test.YtenchljfmfgeoaaGreatDoorL02
import Derived.Laws.BitsAllLaws
set_option maxRecDepth 100000
namespace Go.Proofs.YtenchljfmfgeoaaGreatDoor
open Go.RowKit
set_option maxHeartbeats 4000000 in
theorem ZlY (u v:Value) (m n g:Nat) (w:World) (hg:Glob w) (hu:Zad w u m) (hv:Zad w v n) (hm:wl m≤4294967296) (hn:n < W64) (h0:0 < n) (hle:n≤m) (eg:Nat.gcd m n=g) :
 Calls Tryz.prog 156 #[u,v] w (Za2 w g):=by
 obtain ⟨A,xs,c,rfl,hc,h1,h2,h3,h4⟩:=hu
 obtain ⟨A2,ys,c2,rfl,hc2,k1,k2,k3,k4⟩:=hv
 have hlx:=ZaE h2 h3
 have hly:=ZaE k2 k3
 rw [h4] at hlx
 rw [k4] at hly
 have hl1:ys.length=1:=by
  have:=ZdW.2 hn
  have:=ZgX h0
  omega
 obtain ⟨y,rfl⟩:∃ y,ys=[y]:=by match ys,hl1 with | [y],_=>exact ⟨y,rfl⟩
 simp at k4
 subst k4
 have HU:Hid (Zad w (.slice A xs.length c) m):=⟨A,xs,c,rfl,hc,h1,h2,h3,h4⟩
 have HV:Hid (Zad w (.slice A2 1 c2) y):=⟨A2,[y],c2,rfl,hc2,k1,k2,k3,by simp⟩
 have HX:=zh h1
 have HY:=zh k1
 have Hm:Hid (wl m≤4294967296∧xs.length≤4294967296):=⟨hm,by omega⟩
 have Hn:=zh hn
 have Hle:=zh hle
 have Hy0:=zh h0
 have Hdx:=zh h2
 have Hval:=zh h4
 have Heg:=zh eg
 have HG:=zh hg
 clear hm hn hle h1 k1 k2 k3 h3 h2 hc hc2 hlx hly hl1 h4 eg hg h0
 go_enter Tryz.func156,Tryz.ntmps156
 go_wp2_with fail
 refine (Zc7 _ _ m y w HU.out HV.out Hm.out.1 (by have:=ZdW.2 Hn.out; omega)).mono ?_
 rintro e w' ⟨rfl,nd,hw'⟩
 obtain ⟨q,hq⟩:∃ q,cmpI m y=q:=⟨_,rfl⟩
 have hq0:(0:Int)≤q:=by rw [← hq]; exact ZfF Hle.out
 have hq1:decide (q < 0)=false:=by simp; omega
 rw [hq]
 have HE0:Hid (Ext w w'):=hw' ▸ (Fr.refl _ w).drewN nd
 clear hq hw' hq0
 go_wp2_with fail
 refine (Zcf A xs _ c w' rfl (HX.out.ext HE0.out) Hm.out.2).mono ?_
 rintro e w1 ⟨A1,cap1,rfl,hB1,hF1,hA1⟩
 have HS1:Hid (Zae .u64 w1 A1 xs):=hB1.shows
 have HE1:Hid (Ext w w1):=HE0.out.trans hF1
 clear hB1 hF1 hA1
 go_wp2_with fail
 refine (Zcf A2 [y] 1 c2 w1 rfl (HY.out.ext HE1.out) (by omega)).mono ?_
 rintro e w2 ⟨A3,cap3,rfl,hB3,hF3,hA3⟩
 have hy3:Hid (Zae .u64 w2 A3 [y]):=hB3.shows
 obtain ⟨b3,o3,rfl,hb3,hc3⟩:=hy3.out.at (i:=0) (by simp)
 simp at hc3
 have HS2:Hid (Zae .u64 w2 A1 xs):=HS1.out.ext hF3
 have HE2:Hid (Ext w w2):=HE1.out.trans hF3
 have hb3:=zh hb3
 clear hB3 hF3 hA3 hy3 HS1
 obtain ⟨x,ex⟩:∃ x,xs.length=x:=⟨_,rfl⟩
 rw [ex]
 go_wp2_with fail
 obtain ⟨r,er⟩:∃ r,m % y=r:=⟨_,rfl⟩
 go_loopw [5,6] (fun av bv wr=>av=.slice A1 x cap1∧bv=.slice (some ⟨b3,o3,none⟩) 1 cap3∧wr=w2) (fun _ _ _=>0)
 case atStart=>exact ⟨rfl,rfl,rfl⟩
 case round =>
  obtain ⟨rfl,rfl,rfl⟩:=hrel
  go_wp2_with fail
  have HC3:Hid (wr.cell? ⟨b3,o3,none⟩=some (.int .u64 (y:Int))):=hc3
  have hb3':Hid (b3 < wr.heap.size):=hb3.out
  have hzz:Hid (r < W64∧Nat.gcd y r=g∧g < W64):=by
   have h1:=Nat.mod_lt m Hy0.out
   have h2:=Hn.out
   have h3:=Nat.gcd_le_right m Hy0.out
   rw [Heg.out] at h3
   refine ⟨by omega,?_,by omega⟩
   rw [← er,← Heg.out,Nat.gcd_comm y,← Nat.gcd_rec,Nat.gcd_comm]
  go_region_held3 (fun w'=>w'.cell? ⟨b3,o3,none⟩=some (.int .u64 (y:Int)))
   (first | exact HC3.out | exact (Fr.cell (p:=⟨b3,o3,none⟩) (Fr.undrew hFF) hb3'.out (fun f=>f)).trans HC3.out)
   (first
    | (go_at_call 192
       refine (ZcI A1 xs x cap1 y _ ex HS2.out.drew (by have:=Hm.out.2; omega) Hdx.out Hy0.out Hn.out).mono ?_
       rintro e w4 ⟨rfl,nd4,hw4⟩
       rw [Hval.out,er]
       have hFF:Ext wr.drew w4:=hw4 ▸ (Fr.refl _ wr.drew).drewN nd4
       clear hw4)
    | (go_at_call 191
       refine (Zej y r g _ (HG.out.ext (HE2.out.trans (Fr.undrew hFF))) Hn.out hzz.out.1 hzz.out.2.1).mono ?_
       rintro e w5 ⟨rfl,rfl⟩)
    | (go_at_call 190
       refine (ZdX g _ hzz.out.2.2).mono ?_
       rintro e w6 ⟨v6,rfl,hN6,hF6⟩
       replace hFF:Ext wr.drew w6:=hFF.trans hF6))
  go_wp2
  go_ret
  exact ⟨_,rfl,hN6,HE2.out.trans (Fr.undrew hFF)⟩
set_option maxHeartbeats 4000000 in
theorem ZlZ (u v:Value) (m n g:Nat) (w:World) (hg:Glob w) (hu:Zad w u m) (hv:Zad w v n) (hm:wl m≤4294967296) (hn:n < W64) (h0:0 < n) (hle:n < m) (eg:Nat.gcd m n=g) :
 Calls Tryz.prog 156 #[v,u] w (Za2 w g):=by
 obtain ⟨A,xs,c,rfl,hc,h1,h2,h3,h4⟩:=hu
 obtain ⟨A2,ys,c2,rfl,hc2,k1,k2,k3,k4⟩:=hv
 have hlx:=ZaE h2 h3
 have hly:=ZaE k2 k3
 rw [h4] at hlx
 rw [k4] at hly
 have hl1:ys.length=1:=by
  have:=ZdW.2 hn
  have:=ZgX h0
  omega
 obtain ⟨y,rfl⟩:∃ y,ys=[y]:=by match ys,hl1 with | [y],_=>exact ⟨y,rfl⟩
 simp at k4
 subst k4
 have HU:Hid (Zad w (.slice A xs.length c) m):=⟨A,xs,c,rfl,hc,h1,h2,h3,h4⟩
 have HV:Hid (Zad w (.slice A2 1 c2) y):=⟨A2,[y],c2,rfl,hc2,k1,k2,k3,by simp⟩
 have HX:=zh h1
 have HY:=zh k1
 have Hm:Hid (wl m≤4294967296∧xs.length≤4294967296):=⟨hm,by omega⟩
 have Hn:=zh hn
 have Hle:=zh hle
 have Hy0:=zh h0
 have Hdx:=zh h2
 have Hval:=zh h4
 have Heg:=zh eg
 have HG:=zh hg
 clear hm hn hle h1 k1 k2 k3 h3 h2 hc hc2 hlx hly hl1 h4 eg hg h0
 go_enter Tryz.func156,Tryz.ntmps156
 go_wp2_with fail
 refine (Zc7 _ _ y m w HV.out HU.out (by have:=ZdW.2 Hn.out; omega) Hm.out.1).mono ?_
 rintro e w' ⟨rfl,nd,hw'⟩
 obtain ⟨q,hq⟩:∃ q,cmpI y m=q:=⟨_,rfl⟩
 have hq0:q < 0:=by rw [← hq]; exact Zdm.2 Hle.out
 have hq1:decide (q < 0)=true:=by simp; omega
 rw [hq]
 have HE0:Hid (Ext w w'):=hw' ▸ (Fr.refl _ w).drewN nd
 clear hq hw' hq0
 go_wp2_with fail
 refine (Zcf A xs _ c w' rfl (HX.out.ext HE0.out) Hm.out.2).mono ?_
 rintro e w1 ⟨A1,cap1,rfl,hB1,hF1,hA1⟩
 have HS1:Hid (Zae .u64 w1 A1 xs):=hB1.shows
 have HE1:Hid (Ext w w1):=HE0.out.trans hF1
 clear hB1 hF1 hA1
 go_wp2_with fail
 refine (Zcf A2 [y] 1 c2 w1 rfl (HY.out.ext HE1.out) (by omega)).mono ?_
 rintro e w2 ⟨A3,cap3,rfl,hB3,hF3,hA3⟩
 have hy3:Hid (Zae .u64 w2 A3 [y]):=hB3.shows
 obtain ⟨b3,o3,rfl,hb3,hc3⟩:=hy3.out.at (i:=0) (by simp)
 simp at hc3
 have HS2:Hid (Zae .u64 w2 A1 xs):=HS1.out.ext hF3
 have HE2:Hid (Ext w w2):=HE1.out.trans hF3
 have hb3:=zh hb3
 clear hB3 hF3 hA3 hy3 HS1
 obtain ⟨x,ex⟩:∃ x,xs.length=x:=⟨_,rfl⟩
 rw [ex]
 go_wp2_with fail
 obtain ⟨r,er⟩:∃ r,m % y=r:=⟨_,rfl⟩
 go_loopw [5,6] (fun av bv wr=>av=.slice A1 x cap1∧bv=.slice (some ⟨b3,o3,none⟩) 1 cap3∧wr=w2) (fun _ _ _=>0)
 case atStart=>exact ⟨rfl,rfl,rfl⟩
 case round =>
  obtain ⟨rfl,rfl,rfl⟩:=hrel
  go_wp2_with fail
  have HC3:Hid (wr.cell? ⟨b3,o3,none⟩=some (.int .u64 (y:Int))):=hc3
  have hb3':Hid (b3 < wr.heap.size):=hb3.out
  have hzz:Hid (r < W64∧Nat.gcd y r=g∧g < W64):=by
   have h1:=Nat.mod_lt m Hy0.out
   have h2:=Hn.out
   have h3:=Nat.gcd_le_right m Hy0.out
   rw [Heg.out] at h3
   refine ⟨by omega,?_,by omega⟩
   rw [← er,← Heg.out,Nat.gcd_comm y,← Nat.gcd_rec,Nat.gcd_comm]
  go_region_held3 (fun w'=>w'.cell? ⟨b3,o3,none⟩=some (.int .u64 (y:Int)))
   (first | exact HC3.out | exact (Fr.cell (p:=⟨b3,o3,none⟩) (Fr.undrew hFF) hb3'.out (fun f=>f)).trans HC3.out)
   (first
    | (go_at_call 192
       refine (ZcI A1 xs x cap1 y _ ex HS2.out.drew (by have:=Hm.out.2; omega) Hdx.out Hy0.out Hn.out).mono ?_
       rintro e w4 ⟨rfl,nd4,hw4⟩
       rw [Hval.out,er]
       have hFF:Ext wr.drew w4:=hw4 ▸ (Fr.refl _ wr.drew).drewN nd4
       clear hw4)
    | (go_at_call 191
       refine (Zej y r g _ (HG.out.ext (HE2.out.trans (Fr.undrew hFF))) Hn.out hzz.out.1 hzz.out.2.1).mono ?_
       rintro e w5 ⟨rfl,rfl⟩)
    | (go_at_call 190
       refine (ZdX g _ hzz.out.2.2).mono ?_
       rintro e w6 ⟨v6,rfl,hN6,hF6⟩
       replace hFF:Ext wr.drew w6:=hFF.trans hF6))
  go_wp2
  go_ret
  exact ⟨_,rfl,hN6,HE2.out.trans (Fr.undrew hFF)⟩
set_option maxHeartbeats 1000000 in
theorem Zkn (u v:Value) (m:Nat) (w:World) (hu:Zad w u m) (hv:Zad w v 0) (hm:wl m≤4294967296):Calls Tryz.prog 156 #[u,v] w (Za2 w m):=by
 obtain ⟨A,l,c,rfl⟩:=hu.slice
 obtain ⟨A2,l2,c2,rfl⟩:=hv.slice
 obtain rfl:l2=0:=hv.len0
 have HU:=zh hu
 have HV:=zh hv
 have Hm:=zh hm
 clear hu hv hm
 go_enter Tryz.func156,Tryz.ntmps156
 go_wp2_with fail
 refine (Zc7 _ _ m 0 w HU.out HV.out Hm.out (by rw [Zml]; omega)).mono ?_
 rintro e w' ⟨rfl,nd,hw'⟩
 obtain ⟨q,hq⟩:∃ q,cmpI (m:Int) ((0:Nat):Int)=q:=⟨_,rfl⟩
 have hq0:(0:Int)≤q:=by rw [← hq]; exact ZfF (Nat.zero_le _)
 have hq1:decide (q < 0)=false:=by simp; omega
 rw [hq]
 have HE0:Hid (Ext w w'):=hw' ▸ (Fr.refl _ w).drewN nd
 clear hq hw' hq0
 go_wp2
 go_ret
 exact ⟨_,rfl,HU.out.ext HE0.out,HE0.out⟩
set_option maxHeartbeats 1000000 in
theorem Zjn (u v:Value) (m:Nat) (w:World) (hu:Zad w u 0) (hv:Zad w v m) (h0:0 < m) (hm:wl m≤4294967296):Calls Tryz.prog 156 #[u,v] w (Za2 w m):=by
 obtain ⟨A,l,c,rfl⟩:=hu.slice
 obtain ⟨A2,l2,c2,rfl⟩:=hv.slice
 obtain rfl:l=0:=hu.len0
 have HU:=zh hu
 have HV:=zh hv
 have Hm:=zh hm
 have H0:=zh h0
 clear hu hv hm h0
 go_enter Tryz.func156,Tryz.ntmps156
 go_wp2_with fail
 refine (Zc7 _ _ 0 m w HU.out HV.out (by rw [Zml]; omega) Hm.out).mono ?_
 rintro e w' ⟨rfl,nd,hw'⟩
 obtain ⟨q,hq⟩:∃ q,cmpI ((0:Nat):Int) (m:Int)=q:=⟨_,rfl⟩
 have hq0:q < 0:=by rw [← hq]; exact Zdm.2 H0.out
 have hq1:decide (q < 0)=true:=by simp; omega
 rw [hq]
 have HE0:Hid (Ext w w'):=hw' ▸ (Fr.refl _ w).drewN nd
 clear hq hw' hq0
 go_wp2
 go_ret
 exact ⟨_,rfl,HV.out.ext HE0.out,HE0.out⟩
theorem ZfW (u v:Value) (m n:Nat) (w:World) (hg:Glob w) (hu:Zad w u m) (hv:Zad w v n) (hm:wl m≤4294967296) (hn:wl n≤4294967296) (hs:min m n < W64):Calls Tryz.prog 156 #[u,v] w (Za2 w (Nat.gcd m n)):=by
 rcases Nat.eq_zero_or_pos n with rfl | n0
 ·rw [Nat.gcd_zero_right]; exact Zkn u v m w hu hv hm
 rcases Nat.eq_zero_or_pos m with rfl | m0
 ·rw [Nat.gcd_zero_left]; exact Zjn u v n w hu hv n0 hn
 rcases Nat.lt_or_ge m n with h | h
 ·exact ZlZ v u n m _ w hg hv hu hn (by omega) m0 h (Nat.gcd_comm _ _)
 ·exact ZlY u v m n _ w hg hu hv hm (by omega) n0 h rfl
end Go.Proofs.YtenchljfmfgeoaaGreatDoor

namespace Go.Proofs.YtenchljfmfgeoaaGreatDoor
open Go.RowKit
theorem Buf.openG {k:IntKind} {e:TypeId} {w:World} {A:Option Addr} {cap:Nat} {xs:List Nat} (h:Buf k e w A cap xs) (hne:xs≠[]):∃ b,A=some ⟨b,0,none⟩∧Own k e w b xs∧Zcn e w b cap∧xs.length≤cap∧cap≤maxLen:=by
 rcases h with ⟨_,h,_⟩ | h
 ·exact absurd h hne
 ·exact h
def Zd1 (w wr:World) (G:Nat) (xs ys:List Nat) (Aa:Option Addr) (ca:Nat) (Ab:Option Addr) (cb:Nat):Prop :=
 Buf .u64 141 wr Aa ca xs∧Buf .u64 141 wr Ab cb ys∧Dig W64 xs∧Dig W64 ys∧Trim xs∧Trim ys∧val W64 ys≤val W64 xs∧Nat.gcd (val W64 xs) (val W64 ys)=G∧Ext w wr ∧
  (∀ b,ZaC Aa b→w.heap.size≤b)∧(∀ b,ZaC Ab b→w.heap.size≤b)∧(∀ b,ZaC Aa b→¬ ZaC Ab b)∧xs.length≤79
theorem Zd1.len {w wr:World} {G:Nat} {xs ys:List Nat} {Aa:Option Addr} {ca:Nat} {Ab:Option Addr} {cb:Nat} (h:Zd1 w wr G xs ys Aa ca Ab cb):ys.length≤xs.length:=by
 obtain ⟨_,_,h3,h4,h5,h6,h7,_⟩:=h
 rcases Nat.lt_or_ge xs.length ys.length with k | k
 ·have:=ZdF Zah h3 h6 k; omega
 ·exact k
theorem Buf.natIs {w:World} {A:Option Addr} {cap:Nat} {xs:List Nat} (h:Buf .u64 141 w A cap xs) (hd:Dig W64 xs) (ht:Trim xs):Zad w (.slice A xs.length cap) (val W64 xs) :=
 ⟨A,xs,cap,rfl,h.len,h.shows,hd,ht,rfl⟩
theorem Zd1.div {w wr w1 w2:World} {G:Nat} {xs ys zs:List Nat} {Aa:Option Addr} {ca:Nat} {Ab:Option Addr} {cb:Nat} {Ac:Option Addr} {cc:Nat} (h:Zd1 w wr G xs ys Aa ca Ab cb) (h0:0 < val W64 ys) (Q:Ext wr w1)
 (dz:Dig W64 zs) (tz:Trim zs) (hz:val W64 zs=val W64 xs % val W64 ys) (hB:Buf .u64 141 w2 Ac cc zs) (hE2:Ext w1 w2) (hA:∀ b,ZaC Ac b→w1.heap.size≤b):Zd1 w w2 G ys zs Ab cb Ac cc:=by
 have hlen:=h.len
 obtain ⟨h1,h2,h3,h4,h5,h6,h7,h8,h9,h10,h11,h12,h13⟩:=h
 have hlt:=Nat.mod_lt (val W64 xs) h0
 refine ⟨h2.ext (Q.trans hE2),hB,h4,dz,h6,tz,by omega,?_,h9.trans (Q.trans hE2),h11,fun b hb=>?_,fun b hb hb2=>?_,by omega⟩
 ·rw [hz,← h8,Nat.gcd_comm (val W64 ys),← Nat.gcd_rec,Nat.gcd_comm]
 ·have:=hA b hb; have:=Q.size; have:=h9.size; omega
 ·have k1:=h2.lt hb; have k2:=hA b hb2; have:=Q.size; omega
def Zgh (w wr:World) (xs ys:List Nat) (bA ca:Nat) (Ab:Option Addr) (cb j gs:Nat) (cs:Array Value):Prop :=
 Own .u64 141 wr bA xs∧Zcn 141 wr bA ca∧Buf .u64 141 wr Ab cb (ys ++ List.replicate j 0)∧(∀ b,ZaC Ab b→w.heap.size≤b∧b≠bA∧b≠gs)∧Blk 236 wr gs cs∧Ext w wr∧w.heap.size≤bA∧gs≠bA∧w.heap.size≤gs
theorem Zgh.next {w wr w3:World} {xs ys:List Nat} {bA ca:Nat} {Ab A3:Option Addr} {cb c3 j gs:Nat} {cs:Array Value} {o:Obj} (h:Zgh w wr xs ys bA ca Ab cb j gs cs) (hB:Buf .u64 141 w3 A3 c3 (ys ++ List.replicate j 0 ++ [0])) (hF:Fr (ZaC Ab) (wr.alloc o) w3) (hA:∀ b,ZaC A3 b→ZaC Ab b∨b=(wr.alloc o).heap.size):Zgh w w3 xs ys bA ca A3 c3 (j + 1) gs cs:=by
 obtain ⟨h1,h2,h3,h4,h5,h6,h7,h8,h9⟩:=h
 have hF':Fr (ZaC Ab) wr w3:=((Fr.refl (ZaC Ab) wr).alloc o).trans hF
 have l1:=h1.lt
 have l5:=h5.lt
 refine ⟨h1.fr hF' (fun hb=>(h4 _ hb).2.1 rfl),h2.fr hF' (fun hb=>(h4 _ hb).2.1 rfl),by rw [List.replicate_succ',← List.append_assoc]; exact hB,fun b hb=>?_,h5.fr hF' (fun hb=>(h4 _ hb).2.2 rfl),h6.next hF' (fun i hi hb=>by have:=(h4 i hb).1; omega),h7,h8,h9⟩
 rcases hA b hb with k | k
 ·exact h4 b k
 ·have:=h6.size
  simp at k
  exact ⟨by omega,by omega,by omega⟩
theorem Buf.takeG {k:IntKind} {e:TypeId} {w:World} {A:Option Addr} {cap:Nat} {xs:List Nat} (h:Buf k e w A cap xs) (n:Nat):Buf k e w A cap (xs.take n):=by
 rcases h with ⟨h1,rfl,h3⟩ | ⟨b,h1,h2,h3,h4,h5⟩
 ·exact Or.inl ⟨h1,by simp,h3⟩
 ·exact Or.inr ⟨b,h1,h2.take n,h3,by rw [List.length_take]; omega,h5⟩
set_option maxHeartbeats 4000000 in
theorem Zkp (u v:Value) (m n g:Nat) (w:World) (hg:Glob w) (hu:Zad w u m) (hv:Zad w v n) (hm:wl m≤79) (hn:W64≤n) (hle:n≤m) (eg:Nat.gcd m n=g) :
 Calls Tryz.prog 156 #[u,v] w (Za2 w g):=by
 have hn79:wl n≤79:=Nat.le_trans (ZaU hle) hm
 obtain ⟨A,xs,c,rfl,hc,h1,h2,h3,h4⟩:=hu
 obtain ⟨A2,ys,c2,rfl,hc2,k1,k2,k3,k4⟩:=hv
 have hlx:=ZaE h2 h3
 have hly:=ZaE k2 k3
 rw [h4] at hlx
 rw [k4] at hly
 have hy2:2≤ys.length:=by
  rcases Nat.lt_or_ge ys.length 2 with k | k
  ·have:=ZdW.1 (show wl n≤1 by omega); omega
  ·exact k
 have HU:Hid (Zad w (.slice A xs.length c) m):=⟨A,xs,c,rfl,hc,h1,h2,h3,h4⟩
 have HV:Hid (Zad w (.slice A2 ys.length c2) n):=⟨A2,ys,c2,rfl,hc2,k1,k2,k3,k4⟩
 have HX:=zh h1
 have HY:=zh k1
 have Hle:=zh hle
 have Hdx:=zh h2
 have Hdy:=zh k2
 have Htx:=zh h3
 have Hty:=zh k3
 have Hvx:=zh h4
 have Hvy:=zh k4
 have Heg:=zh eg
 have HG:=zh hg
 have Hm:=zh hm
 have Hn:=zh hn79
 have hxl:xs.length≤79:=by omega
 have hyl:ys.length≤79:=by omega
 clear hm hn hle h1 k1 k2 k3 h3 h2 hc hc2 hlx hly h4 k4 eg hg hn79
 go_enter Tryz.func156,Tryz.ntmps156
 go_wp2_with fail
 refine (Zc7 _ _ m n w HU.out HV.out (by have:=Hm.out; omega) (by have:=Hn.out; omega)).mono ?_
 rintro e w' ⟨rfl,nd,hw'⟩
 obtain ⟨q,hq⟩:∃ q,cmpI m n=q:=⟨_,rfl⟩
 have hq0:(0:Int)≤q:=by rw [← hq]; exact ZfF Hle.out
 have hq1:decide (q < 0)=false:=by simp; omega
 rw [hq]
 have HE0:Hid (Ext w w'):=hw' ▸ (Fr.refl _ w).drewN nd
 clear hq hw' hq0
 have hyne:((ys.length:Int) == 0)=false:=by rw [beq_eq_false_iff_ne]; omega
 go_wp2_with fail
 refine (Zcf A xs _ c w' rfl (HX.out.ext HE0.out) (by omega)).mono ?_
 rintro e w1 ⟨A1,cap1,rfl,hB1,hF1,hA1⟩
 have HB1:=zh hB1
 have HA1:Hid (∀ b,ZaC A1 b→w.heap.size≤b):=fun b hb=>Nat.le_trans HE0.out.size (hA1 b hb)
 have HE1:Hid (Ext w w1):=HE0.out.trans hF1
 clear hB1 hF1 hA1
 go_wp2_with fail
 refine (Zcf A2 ys _ c2 w1 rfl (HY.out.ext HE1.out) (by omega)).mono ?_
 rintro e w2 ⟨A3,cap3,rfl,hB3,hF3,hA3⟩
 have HS0:Hid (Zd1 w w2 g xs ys A1 cap1 A3 cap3):=⟨HB1.out.ext hF3,hB3,Hdx.out,Hdy.out,Htx.out,Hty.out,by rw [Hvx.out,Hvy.out]; exact Hle.out,by rw [Hvx.out,Hvy.out]; exact Heg.out,HE1.out.trans hF3,HA1.out,fun b hb=>Nat.le_trans HE1.out.size (hA3 b hb),fun b hb hb2=>by
  have k1:=HB1.out.lt hb
  have k2:=hA3 b hb2
  omega,hxl⟩
 clear hB3 hF3 hA3 HB1 HA1 HE1 HE0 HX HY HU HV Hdx Hdy Htx Hty Hle Heg Hvx Hvy Hm Hn hyne hq1
 go_wp2_with fail
 go_loopg [5,6,7,8,9] (val W64 xs + val W64 ys) (fun k av bv _ _ _ wr=>∃ (xs ys:List Nat) (Aa:Option Addr) (ca:Nat) (Ab:Option Addr) (cb:Nat),k=val W64 xs + val W64 ys∧av=.slice Aa xs.length ca∧bv=.slice Ab ys.length cb∧Hid (Zd1 w wr g xs ys Aa ca Ab cb))
 case atStart=>exact ⟨xs,ys,A1,cap1,A3,cap3,rfl,rfl,rfl,HS0⟩
 case round =>
  clear HS0 hy2 hxl hyl
  obtain ⟨xs,ys,Aa,ca,Ab,cb,hk,rfl,rfl,hS⟩:=hrel
  have HK:=zh hk
  clear hk
  have hlen:=hS.out.len
  have hx79:=hS.out.2.2.2.2.2.2.2.2.2.2.2.2
  by_cases h1:1 < ys.length
  ·obtain ⟨bA,rfl,hOA,hCA,hcA,hcAm⟩:=hS.out.1.openG (by intro e; rw [e] at hlen; simp at hlen; rw [hlen] at h1; simp at h1)
   obtain ⟨bB,rfl,hOB,hCB,hcB,hcBm⟩:=hS.out.2.1.openG (by intro e; rw [e] at h1; simp at h1)
   have HSim:=zh (Zg7 bA bB ca cb xs ys wr hOA hOB hS.out.2.2.1 hS.out.2.2.2.1 hS.out.2.2.2.2.1 hlen (by omega) hS.out.2.2.2.2.2.2.1 (by omega))
   have hvy:0 < val W64 ys:=ZdU hS.out.2.2.2.2.2.1 Zah (by intro e; rw [e] at h1; simp at h1)
   have HVy:=zh hvy
   have HNA:=zh (hS.out.1.natIs hS.out.2.2.1 hS.out.2.2.2.2.1)
   have HNB:=zh (hS.out.2.1.natIs hS.out.2.2.2.1 hS.out.2.2.2.2.2.1)
   have hwx:wl (val W64 xs)≤79:=by rw [← ZaE hS.out.2.2.1 hS.out.2.2.2.2.1]; exact hx79
   have hwy:wl (val W64 ys)≤79:=by rw [← ZaE hS.out.2.2.2.1 hS.out.2.2.2.2.2.1]; omega
   have HWx:=zh hwx
   have HWy:=zh hwy
   have HOA:=zh hOA
   have HOB:=zh hOB
   have HCA:=zh hCA
   have HCB:=zh hCB
   unfold Zea Zbw at HSim
   clear hOA hOB hCA hCB hvy hwx hwy
   go_wp2_with fail
   refine HSim.out.mono ?_
   rintro e w1 ⟨u0,u1,v0,v1,odd,rfl,b0,b1,b2,b3,hSt,hF1⟩
   have HF1:=zh hF1
   have HSt:=zh hSt
   have Hb:=zh (And.intro b0 (And.intro b1 (And.intro b2 b3)))
   clear hF1 hSt b0 b1 b2 b3 HSim
   by_cases hv:v0=0
   ·subst hv
    go_wp2_with fail
    generalize hwb:World.alloc w1 _=wb
    have HEb:Hid (Ext wr wb):=hwb ▸ HF1.out.alloc _
    clear hwb HF1
    refine (Zfk _ _ _ _ _ (HNA.out.ext HEb.out) (HNB.out.ext HEb.out) (by have:=HWx.out; omega) (by have:=HWy.out; omega) HVy.out).mono ?_
    rintro e w2 ⟨qv,rv,rfl,hNq,hNr,hF2⟩
    obtain ⟨Aq,lq,cq,rfl⟩:=hNq.slice
    obtain ⟨Ar,zs,cr,rfl,hcr,hSr,hdz,htz,hvz⟩:=hNr
    have HE2:=zh (HEb.out.trans hF2)
    have HSr:=zh hSr
    have HDz:=zh hdz
    have HTz:=zh htz
    have HVz:=zh hvz
    have hzl:zs.length≤79:=by
     rw [ZaE hdz htz,hvz]
     have:wl (val W64 xs % val W64 ys)≤wl (val W64 xs):=ZaU (Nat.mod_le _ _)
     have:=HWx.out; omega
    clear hNq hSr hdz htz hvz hcr hF2 HEb
    go_wp2_with fail
    refine (Zcf Ar zs _ cr w2 rfl HSr.out (by omega)).mono ?_
    rintro e w3 ⟨Ac,cc,rfl,hB3,hF3,hA3⟩
    have HNew:=zh (hS.out.div HVy.out HE2.out HDz.out HTz.out HVz.out hB3 hF3 hA3)
    have HMs:Hid (val W64 ys + val W64 zs < val W64 xs + val W64 ys):=by
     have h1:=Nat.mod_lt (val W64 xs) HVy.out
     have h2:=hS.out.2.2.2.2.2.2.1
     have h3:=HVz.out
     unfold Hid; omega
    clear hB3 hF3 hA3 hS HNA HNB HOA HOB HCA HCB
    go_wp2
    go_roundg (val W64 ys + val W64 zs)
    case measure=>rw [HK.out]; exact HMs.out
    case rel=>exact ⟨ys,zs,_,cb,Ac,cc,rfl,rfl,rfl,HNew⟩
   ·have hv0:((v0:Int) == 0)=false:=by simp; omega
    obtain ⟨r0,r1,q1,q2,q3,q4⟩:=HSt.out.pair hv
    have HQ:=zh (And.intro q1 (And.intro q2 (And.intro q3 q4)))
    have hAB:bA≠bB:=fun e=>hS.out.2.2.2.2.2.2.2.2.2.2.2.1 bA ⟨_,rfl,rfl⟩ ⟨_,rfl,by simp [e]⟩
    clear q1 q2 q3 q4 hv
    go_wp2_with fail
    generalize hwb:World.alloc w1 _=wb
    have hlA:=HOA.out.lt
    have hlB:=HOB.out.lt
    have hs1:=HF1.out.size
    have HPd:Hid (Zgh w wb xs ys bA ca (some ⟨bB,0,none⟩) cb 0 w1.heap.size #[.int .u64 (u0:Int), .int .u64 (u1:Int), .int .u64 (v0:Int), .int .u64 (v1:Int), .bool odd]):=by
     have hEb:Ext wr wb:=hwb ▸ HF1.out.alloc _
     refine ⟨HOA.out.ext hEb,HCA.out.fr hEb (fun f=>f),by rw [List.replicate_zero,List.append_nil]; exact hS.out.2.1.ext hEb,fun b hb=>?_,hwb ▸ Blk.new _ _ _,hS.out.2.2.2.2.2.2.2.2.1.trans hEb,hS.out.2.2.2.2.2.2.2.2.2.1 bA ⟨_,rfl,rfl⟩,by omega,?_⟩
     ·obtain ⟨a,ha,rfl⟩:=hb
      injection ha with ha; subst ha
      exact ⟨hS.out.2.2.2.2.2.2.2.2.2.2.1 bB ⟨_,rfl,rfl⟩,fun e=>hAB e.symm,by show bB≠_; omega⟩
     ·have:=hS.out.2.2.2.2.2.2.2.2.1.size; omega
    clear hwb
    generalize w1.heap.size=gs at *
    go_loopw [6] (fun bv wq=>∃ (j:Nat) (A6:Option Addr) (c6:Nat),ys.length + j≤xs.length∧bv=.slice A6 (ys.length + j) c6∧Hid (Zgh w wq xs ys bA ca A6 c6 j gs #[.int .u64 (u0:Int), .int .u64 (u1:Int), .int .u64 (v0:Int), .int .u64 (v1:Int), .bool odd])) (fun bv _=>match bv with | .slice _ k _=>xs.length - k | _=>0)
    case atStart=>exact ⟨0,_,cb,by omega,rfl,HPd⟩
    case round =>
     clear HPd
     obtain ⟨j,A6,c6,hj,rfl,hP⟩:=hrel
     by_cases hjl:ys.length + j < xs.length
     ·have hSh:Hid (Zae .u64 (wr.alloc (.cells #[.int .u64 0] 141)) (some ⟨wr.heap.size,0,none⟩) [0]):=(Own.new wr 141 .u64 [0] []).shows0
      have HLj:Hid ((ys ++ List.replicate j 0).length=ys.length + j):=by unfold Hid; simp
      go_wp2_with (at_builtin; refine Hid.out ?_)
      refine zh ?_
      refine Za9 rfl _ _ _ rfl _ .u64 8 Tryz.underlying106 Zc3 A6 (some ⟨wr.heap.size,0,none⟩) (ys.length + j) 1 c6 1 rfl rfl (ys ++ List.replicate j 0) [0] HLj.out rfl (hP.out.2.2.1.ext ((Fr.refl _ _).alloc _)) hSh.out (by simp only [maxLen]; omega) (by omega) ?_
      intro A7 c7 w3 hB3 hF3 hA3
      have HNew:=zh (hP.out.next hB3 hF3 hA3)
      clear hB3 hF3 hA3 hSh HLj
      go_wp2
      go_roundw
      case rel=>exact ⟨j + 1,A7,c7,by omega,by rw [Nat.add_assoc],HNew⟩
      case measure=>simp; omega
     ·have ej:ys.length + j=xs.length:=by omega
      have hpos:0 < xs.length:=by omega
      have hne6:ys ++ List.replicate j 0≠[]:=fun e=>by have:=congrArg List.length e; rw [List.length_append,List.length_nil] at this; omega
      obtain ⟨bC,rfl,hOC,hCC,hcC,hcCm⟩:=hP.out.2.2.1.openG hne6
      have hbC:=hP.out.2.2.2.1 bC ⟨_,rfl,rfl⟩
      have hlC:(ys ++ List.replicate j 0).length=xs.length:=by simp; omega
      have hvC:val W64 (ys ++ List.replicate j 0)=val W64 ys:=by rw [ZbP,Zcq]; simp
      have hdC:Dig W64 (ys ++ List.replicate j 0):=hS.out.2.2.2.1.append (Dig.replicate Zah _)
      have hxl:=Za1 hS.out.2.2.1
      have hyx:=hS.out.2.2.2.2.2.2.1
      have HAp:Hid (Calls Tryz.prog 188 #[.agg #[.int .u64 (u0:Int), .int .u64 (u1:Int), .int .u64 (v0:Int), .int .u64 (v1:Int), .bool odd], .slice (some ⟨bA,0,none⟩) xs.length ca, .slice (some ⟨bC,0,none⟩) (ys.length + j) c6] wr (ZdN bA bC xs.length r0 r1 wr)):=by
       obtain ⟨q1,q2,q3,q4⟩:=HQ.out
       obtain ⟨k0,k1,k2,k3⟩:=Hb.out
       unfold Hid
       rw [ej]
       rw [← hvC] at q4
       cases odd with
       | false =>
         simp only [Bool.false_eq_true,if_false] at q4
         exact ZiQ bA bC xs.length ca c6 u0 u1 v0 v1 r0 r1 xs _ wr rfl hlC hP.out.1 hOC (fun e=>hbC.2.1 e.symm) hS.out.2.2.1 hdC (by omega) k0 k1 k2 k3 q4.1 q4.2 (by omega) (by omega)
       | true =>
         simp only [if_true] at q4
         exact ZjY bA bC xs.length ca c6 u0 u1 v0 v1 r0 r1 xs _ wr rfl hlC hP.out.1 hOC (fun e=>hbC.2.1 e.symm) hS.out.2.2.1 hdC (by omega) k0 k1 k2 k3 q4.1 q4.2 (by omega) (by omega)
      have s0:wr.cell? ⟨gs,0,none⟩=some (.int .u64 (u0:Int)):=hP.out.2.2.2.2.1.cell 0
      have s1:wr.cell? ⟨gs,1,none⟩=some (.int .u64 (u1:Int)):=hP.out.2.2.2.2.1.cell 1
      have s2:wr.cell? ⟨gs,2,none⟩=some (.int .u64 (v0:Int)):=hP.out.2.2.2.2.1.cell 2
      have s3:wr.cell? ⟨gs,3,none⟩=some (.int .u64 (v1:Int)):=hP.out.2.2.2.2.1.cell 3
      have s4:wr.cell? ⟨gs,4,none⟩=some (.bool odd):=hP.out.2.2.2.2.1.cell 4
      have HCC:=zh hCC
      have HLC:=zh hlC
      have Hej:=zh ej
      clear hOC hCC hlC hvC hdC hxl hyx hne6 ej
      go_wp2_with fail
      refine HAp.out.mono ?_
      rintro e w3 ⟨zs,zt,rfl,hOA3,hOC3,hr0,hr1,hd1,hd2,hl1,hl2,hSA,hSC,hF3⟩
      have hej:=Hej.out
      have HTr1:=zh (ZcW _ zs xs.length ca w3 hl1 hOA3.shows0 (by omega) (by omega))
      have HTr2:=zh (ZcW _ zt (ys.length + j) c6 w3 (by omega) hOC3.shows0 (by have:=HLC.out; omega) (by omega))
      have HNew:Hid (Zd1 w w3 g (Zba zs) (Zba zt) (some ⟨bA,0,none⟩) ca (some ⟨bC,0,none⟩) c6):=by
       obtain ⟨q1,q2,q3,q4⟩:=HQ.out
       have t1:=Zbr zs
       have t2:=Zdr zs zs.length
       refine ⟨Buf.takeG (Or.inr ⟨bA,rfl,hOA3,hSA _ hP.out.2.1,by omega,hcAm⟩) _,Buf.takeG (Or.inr ⟨bC,rfl,hOC3,hSC _ HCC.out,by have:=HLC.out; omega,hcCm⟩) _,ZcF hd1,ZcF hd2,Zck _,Zck _,?_,?_,?_,fun b hb=>?_,fun b hb=>?_,fun b hb hb2=>?_,by omega⟩
       ·rw [Zbi,Zbi,hr0,hr1]; omega
       ·rw [Zbi,Zbi,hr0,hr1,q3]; exact hS.out.2.2.2.2.2.2.2.1
       ·refine hP.out.2.2.2.2.2.1.next hF3 (fun i hi e=>?_)
        rcases e with e | e
        ·have:=hP.out.2.2.2.2.2.2.1; omega
        ·have:=hbC.1; omega
       ·obtain ⟨a,ha,rfl⟩:=hb
        injection ha with ha; subst ha
        exact hP.out.2.2.2.2.2.2.1
       ·obtain ⟨a,ha,rfl⟩:=hb
        injection ha with ha; subst ha
        exact hbC.1
       ·obtain ⟨a,ha,rfl⟩:=hb
        injection ha with ha; subst ha
        obtain ⟨a',ha',e⟩:=hb2
        injection ha' with ha'; subst ha'
        exact hbC.2.1 e
      have HMs:Hid (val W64 (Zba zs) + val W64 (Zba zt) < val W64 xs + val W64 ys):=by
       obtain ⟨q1,q2,q3,q4⟩:=HQ.out
       have h2:=hS.out.2.2.2.2.2.2.1
       unfold Hid
       rw [Zbi,Zbi,hr0,hr1]; omega
      have Htl1:=zh (Zbr zs)
      have Htl2:=zh (Zbr zt)
      clear hOA3 hOC3 hr0 hr1 hd1 hd2 hSA hSC hF3 hej hl1 hl2
      go_wp2_with fail
      refine HTr1.out.mono ?_
      rintro e w4 ⟨rfl,rfl⟩
      go_wp2_with fail
      refine HTr2.out.mono ?_
      rintro e w4 ⟨rfl,rfl⟩
      go_wp2
      go_roundg (val W64 (Zba zs) + val W64 (Zba zt))
      case measure=>rw [HK.out]; exact HMs.out
      case rel=>exact ⟨Zba zs,Zba zt,_,ca,_,c6,rfl,by rw [Htl1.out],by rw [Htl2.out],HNew⟩
  ·have h1':decide ((1:Int) < (ys.length:Int))=false:=by simp; omega
   by_cases h0:ys=[]
   ·subst h0
    have HN:Hid (Zad wr (.slice Aa xs.length ca) g):=by
     have k1:=hS.out.1.natIs hS.out.2.2.1 hS.out.2.2.2.2.1
     have k2:=hS.out.2.2.2.2.2.2.2.1
     rw [Zdq,Nat.gcd_zero_right] at k2
     rw [k2] at k1
     exact k1
    have HE:Hid (Ext w wr):=hS.out.2.2.2.2.2.2.2.2.1
    clear hS h1 h1' hlen
    go_wp2
    go_ret
    exact ⟨_,rfl,HN.out,HE.out⟩
   ·obtain ⟨y,rfl⟩:∃ y,ys=[y]:=by
     match ys,(by have:=List.length_pos_iff.2 h0; omega:ys.length=1) with
     | [y],_=>exact ⟨y,rfl⟩
    obtain ⟨b3,rfl,hOB,_⟩:=hS.out.2.1.openG h0
    have hc3:=hOB.cell (i:=0) (by simp)
    simp at hc3
    have hb3:=zh hOB.lt
    have HE2:Hid (Ext w wr):=hS.out.2.2.2.2.2.2.2.2.1
    have HS2:Hid (Zae .u64 wr Aa xs):=hS.out.1.shows
    have Hdx:=zh hS.out.2.2.1
    have hyW:y < W64:=hS.out.2.2.2.1 y (by simp)
    have hy0:0 < y:=by
     have:=hS.out.2.2.2.2.2.1 0 rfl
     simp at this; omega
    have hgc:=hS.out.2.2.2.2.2.2.2.1
    simp only [ZcV,Zdq,Nat.mul_zero,Nat.add_zero] at hgc
    obtain ⟨r,er⟩:∃ r,val W64 xs % y=r:=⟨_,rfl⟩
    have hzz:Hid (r < W64∧Nat.gcd y r=g∧g < W64):=by
     have k1:=Nat.mod_lt (val W64 xs) hy0
     have k3:=Nat.gcd_le_right (val W64 xs) hy0
     rw [hgc] at k3
     refine ⟨by omega,?_,by omega⟩
     rw [← er,← hgc,Nat.gcd_comm y,← Nat.gcd_rec,Nat.gcd_comm]
    obtain ⟨x,ex⟩:∃ x,xs.length=x:=⟨_,rfl⟩
    rw [ex] at hx79 ⊢
    have HC3:Hid (wr.cell? ⟨b3,0,none⟩=some (.int .u64 (y:Int))):=hc3
    have Hy0:=zh hy0
    have Hn:=zh hyW
    have Her:=zh er
    have Hex:=zh ex
    clear hS hOB hgc er ex h0 h1 h1' hlen hy0 hyW
    go_wp2_with fail
    go_region_held3 (fun w'=>w'.cell? ⟨b3,0,none⟩=some (.int .u64 (y:Int)))
     (first | exact HC3.out | exact (Fr.cell (p:=⟨b3,0,none⟩) (Fr.undrew hFF) hb3.out (fun f=>f)).trans HC3.out)
     (first
      | (go_at_call 192
         refine (ZcI Aa xs x ca y _ Hex.out HS2.out.drew (by have:=Hex.out; omega) Hdx.out Hy0.out Hn.out).mono ?_
         rintro e w4 ⟨rfl,nd4,hw4⟩
         rw [Her.out]
         have hFF:Ext wr.drew w4:=hw4 ▸ (Fr.refl _ wr.drew).drewN nd4
         clear hw4)
      | (go_at_call 191
         refine (Zej y r g _ (HG.out.ext (HE2.out.trans (Fr.undrew hFF))) Hn.out hzz.out.1 hzz.out.2.1).mono ?_
         rintro e w5 ⟨rfl,rfl⟩)
      | (go_at_call 190
         refine (ZdX g _ hzz.out.2.2).mono ?_
         rintro e w6 ⟨v6,rfl,hN6,hF6⟩
         replace hFF:Ext wr.drew w6:=hFF.trans hF6))
    go_wp2
    go_ret
    exact ⟨_,rfl,hN6,HE2.out.trans (Fr.undrew hFF)⟩
set_option maxHeartbeats 4000000 in
theorem Zkq (u v:Value) (m n g:Nat) (w:World) (hg:Glob w) (hu:Zad w u m) (hv:Zad w v n) (hm:wl m≤79) (hn:W64≤n) (hlt:n < m) (eg:Nat.gcd m n=g) :
 Calls Tryz.prog 156 #[v,u] w (Za2 w g):=by
 have hle:n≤m:=by omega
 have hn79:wl n≤79:=Nat.le_trans (ZaU hle) hm
 obtain ⟨A,xs,c,rfl,hc,h1,h2,h3,h4⟩:=hu
 obtain ⟨A2,ys,c2,rfl,hc2,k1,k2,k3,k4⟩:=hv
 have hlx:=ZaE h2 h3
 have hly:=ZaE k2 k3
 rw [h4] at hlx
 rw [k4] at hly
 have hy2:2≤ys.length:=by
  rcases Nat.lt_or_ge ys.length 2 with k | k
  ·have:=ZdW.1 (show wl n≤1 by omega); omega
  ·exact k
 have HU:Hid (Zad w (.slice A xs.length c) m):=⟨A,xs,c,rfl,hc,h1,h2,h3,h4⟩
 have HV:Hid (Zad w (.slice A2 ys.length c2) n):=⟨A2,ys,c2,rfl,hc2,k1,k2,k3,k4⟩
 have HX:=zh h1
 have HY:=zh k1
 have Hle:=zh hle
 have Hlt:=zh hlt
 have Hdx:=zh h2
 have Hdy:=zh k2
 have Htx:=zh h3
 have Hty:=zh k3
 have Hvx:=zh h4
 have Hvy:=zh k4
 have Heg:=zh eg
 have HG:=zh hg
 have Hm:=zh hm
 have Hn:=zh hn79
 have hxl:xs.length≤79:=by omega
 have hyl:ys.length≤79:=by omega
 clear hm hn hle hlt h1 k1 k2 k3 h3 h2 hc hc2 hlx hly h4 k4 eg hg hn79
 go_enter Tryz.func156,Tryz.ntmps156
 go_wp2_with fail
 refine (Zc7 _ _ n m w HV.out HU.out (by have:=Hn.out; omega) (by have:=Hm.out; omega)).mono ?_
 rintro e w' ⟨rfl,nd,hw'⟩
 obtain ⟨q,hq⟩:∃ q,cmpI n m=q:=⟨_,rfl⟩
 have hq0:q < 0:=by
  have h5:(n:Int) < (m:Int):=by have:=Hlt.out; omega
  rw [← hq]; unfold cmpI; rw [if_pos h5]; omega
 have hq1:decide (q < 0)=true:=by simp; omega
 rw [hq]
 have HE0:Hid (Ext w w'):=hw' ▸ (Fr.refl _ w).drewN nd
 clear hq hw' hq0
 have hyne:((ys.length:Int) == 0)=false:=by rw [beq_eq_false_iff_ne]; omega
 go_wp2_with fail
 refine (Zcf A xs _ c w' rfl (HX.out.ext HE0.out) (by omega)).mono ?_
 rintro e w1 ⟨A1,cap1,rfl,hB1,hF1,hA1⟩
 have HB1:=zh hB1
 have HA1:Hid (∀ b,ZaC A1 b→w.heap.size≤b):=fun b hb=>Nat.le_trans HE0.out.size (hA1 b hb)
 have HE1:Hid (Ext w w1):=HE0.out.trans hF1
 clear hB1 hF1 hA1
 go_wp2_with fail
 refine (Zcf A2 ys _ c2 w1 rfl (HY.out.ext HE1.out) (by omega)).mono ?_
 rintro e w2 ⟨A3,cap3,rfl,hB3,hF3,hA3⟩
 have HS0:Hid (Zd1 w w2 g xs ys A1 cap1 A3 cap3):=⟨HB1.out.ext hF3,hB3,Hdx.out,Hdy.out,Htx.out,Hty.out,by rw [Hvx.out,Hvy.out]; exact Hle.out,by rw [Hvx.out,Hvy.out]; exact Heg.out,HE1.out.trans hF3,HA1.out,fun b hb=>Nat.le_trans HE1.out.size (hA3 b hb),fun b hb hb2=>by
  have k1:=HB1.out.lt hb
  have k2:=hA3 b hb2
  omega,hxl⟩
 clear hB3 hF3 hA3 HB1 HA1 HE1 HE0 HX HY HU HV Hdx Hdy Htx Hty Hle Heg Hvx Hvy Hm Hn hyne hq1
 go_wp2_with fail
 go_loopg [5,6,7,8,9] (val W64 xs + val W64 ys) (fun k av bv _ _ _ wr=>∃ (xs ys:List Nat) (Aa:Option Addr) (ca:Nat) (Ab:Option Addr) (cb:Nat),k=val W64 xs + val W64 ys∧av=.slice Aa xs.length ca∧bv=.slice Ab ys.length cb∧Hid (Zd1 w wr g xs ys Aa ca Ab cb))
 case atStart=>exact ⟨xs,ys,A1,cap1,A3,cap3,rfl,rfl,rfl,HS0⟩
 case round =>
  clear HS0 hy2 hxl hyl
  obtain ⟨xs,ys,Aa,ca,Ab,cb,hk,rfl,rfl,hS⟩:=hrel
  have HK:=zh hk
  clear hk
  have hlen:=hS.out.len
  have hx79:=hS.out.2.2.2.2.2.2.2.2.2.2.2.2
  by_cases h1:1 < ys.length
  ·obtain ⟨bA,rfl,hOA,hCA,hcA,hcAm⟩:=hS.out.1.openG (by intro e; rw [e] at hlen; simp at hlen; rw [hlen] at h1; simp at h1)
   obtain ⟨bB,rfl,hOB,hCB,hcB,hcBm⟩:=hS.out.2.1.openG (by intro e; rw [e] at h1; simp at h1)
   have HSim:=zh (Zg7 bA bB ca cb xs ys wr hOA hOB hS.out.2.2.1 hS.out.2.2.2.1 hS.out.2.2.2.2.1 hlen (by omega) hS.out.2.2.2.2.2.2.1 (by omega))
   have hvy:0 < val W64 ys:=ZdU hS.out.2.2.2.2.2.1 Zah (by intro e; rw [e] at h1; simp at h1)
   have HVy:=zh hvy
   have HNA:=zh (hS.out.1.natIs hS.out.2.2.1 hS.out.2.2.2.2.1)
   have HNB:=zh (hS.out.2.1.natIs hS.out.2.2.2.1 hS.out.2.2.2.2.2.1)
   have hwx:wl (val W64 xs)≤79:=by rw [← ZaE hS.out.2.2.1 hS.out.2.2.2.2.1]; exact hx79
   have hwy:wl (val W64 ys)≤79:=by rw [← ZaE hS.out.2.2.2.1 hS.out.2.2.2.2.2.1]; omega
   have HWx:=zh hwx
   have HWy:=zh hwy
   have HOA:=zh hOA
   have HOB:=zh hOB
   have HCA:=zh hCA
   have HCB:=zh hCB
   unfold Zea Zbw at HSim
   clear hOA hOB hCA hCB hvy hwx hwy
   go_wp2_with fail
   refine HSim.out.mono ?_
   rintro e w1 ⟨u0,u1,v0,v1,odd,rfl,b0,b1,b2,b3,hSt,hF1⟩
   have HF1:=zh hF1
   have HSt:=zh hSt
   have Hb:=zh (And.intro b0 (And.intro b1 (And.intro b2 b3)))
   clear hF1 hSt b0 b1 b2 b3 HSim
   by_cases hv:v0=0
   ·subst hv
    go_wp2_with fail
    generalize hwb:World.alloc w1 _=wb
    have HEb:Hid (Ext wr wb):=hwb ▸ HF1.out.alloc _
    clear hwb HF1
    refine (Zfk _ _ _ _ _ (HNA.out.ext HEb.out) (HNB.out.ext HEb.out) (by have:=HWx.out; omega) (by have:=HWy.out; omega) HVy.out).mono ?_
    rintro e w2 ⟨qv,rv,rfl,hNq,hNr,hF2⟩
    obtain ⟨Aq,lq,cq,rfl⟩:=hNq.slice
    obtain ⟨Ar,zs,cr,rfl,hcr,hSr,hdz,htz,hvz⟩:=hNr
    have HE2:=zh (HEb.out.trans hF2)
    have HSr:=zh hSr
    have HDz:=zh hdz
    have HTz:=zh htz
    have HVz:=zh hvz
    have hzl:zs.length≤79:=by
     rw [ZaE hdz htz,hvz]
     have:wl (val W64 xs % val W64 ys)≤wl (val W64 xs):=ZaU (Nat.mod_le _ _)
     have:=HWx.out; omega
    clear hNq hSr hdz htz hvz hcr hF2 HEb
    go_wp2_with fail
    refine (Zcf Ar zs _ cr w2 rfl HSr.out (by omega)).mono ?_
    rintro e w3 ⟨Ac,cc,rfl,hB3,hF3,hA3⟩
    have HNew:=zh (hS.out.div HVy.out HE2.out HDz.out HTz.out HVz.out hB3 hF3 hA3)
    have HMs:Hid (val W64 ys + val W64 zs < val W64 xs + val W64 ys):=by
     have h1:=Nat.mod_lt (val W64 xs) HVy.out
     have h2:=hS.out.2.2.2.2.2.2.1
     have h3:=HVz.out
     unfold Hid; omega
    clear hB3 hF3 hA3 hS HNA HNB HOA HOB HCA HCB
    go_wp2
    go_roundg (val W64 ys + val W64 zs)
    case measure=>rw [HK.out]; exact HMs.out
    case rel=>exact ⟨ys,zs,_,cb,Ac,cc,rfl,rfl,rfl,HNew⟩
   ·have hv0:((v0:Int) == 0)=false:=by simp; omega
    obtain ⟨r0,r1,q1,q2,q3,q4⟩:=HSt.out.pair hv
    have HQ:=zh (And.intro q1 (And.intro q2 (And.intro q3 q4)))
    have hAB:bA≠bB:=fun e=>hS.out.2.2.2.2.2.2.2.2.2.2.2.1 bA ⟨_,rfl,rfl⟩ ⟨_,rfl,by simp [e]⟩
    clear q1 q2 q3 q4 hv
    go_wp2_with fail
    generalize hwb:World.alloc w1 _=wb
    have hlA:=HOA.out.lt
    have hlB:=HOB.out.lt
    have hs1:=HF1.out.size
    have HPd:Hid (Zgh w wb xs ys bA ca (some ⟨bB,0,none⟩) cb 0 w1.heap.size #[.int .u64 (u0:Int), .int .u64 (u1:Int), .int .u64 (v0:Int), .int .u64 (v1:Int), .bool odd]):=by
     have hEb:Ext wr wb:=hwb ▸ HF1.out.alloc _
     refine ⟨HOA.out.ext hEb,HCA.out.fr hEb (fun f=>f),by rw [List.replicate_zero,List.append_nil]; exact hS.out.2.1.ext hEb,fun b hb=>?_,hwb ▸ Blk.new _ _ _,hS.out.2.2.2.2.2.2.2.2.1.trans hEb,hS.out.2.2.2.2.2.2.2.2.2.1 bA ⟨_,rfl,rfl⟩,by omega,?_⟩
     ·obtain ⟨a,ha,rfl⟩:=hb
      injection ha with ha; subst ha
      exact ⟨hS.out.2.2.2.2.2.2.2.2.2.2.1 bB ⟨_,rfl,rfl⟩,fun e=>hAB e.symm,by show bB≠_; omega⟩
     ·have:=hS.out.2.2.2.2.2.2.2.2.1.size; omega
    clear hwb
    generalize w1.heap.size=gs at *
    go_loopw [6] (fun bv wq=>∃ (j:Nat) (A6:Option Addr) (c6:Nat),ys.length + j≤xs.length∧bv=.slice A6 (ys.length + j) c6∧Hid (Zgh w wq xs ys bA ca A6 c6 j gs #[.int .u64 (u0:Int), .int .u64 (u1:Int), .int .u64 (v0:Int), .int .u64 (v1:Int), .bool odd])) (fun bv _=>match bv with | .slice _ k _=>xs.length - k | _=>0)
    case atStart=>exact ⟨0,_,cb,by omega,rfl,HPd⟩
    case round =>
     clear HPd
     obtain ⟨j,A6,c6,hj,rfl,hP⟩:=hrel
     by_cases hjl:ys.length + j < xs.length
     ·have hSh:Hid (Zae .u64 (wr.alloc (.cells #[.int .u64 0] 141)) (some ⟨wr.heap.size,0,none⟩) [0]):=(Own.new wr 141 .u64 [0] []).shows0
      have HLj:Hid ((ys ++ List.replicate j 0).length=ys.length + j):=by unfold Hid; simp
      go_wp2_with (at_builtin; refine Hid.out ?_)
      refine zh ?_
      refine Za9 rfl _ _ _ rfl _ .u64 8 Tryz.underlying106 Zc3 A6 (some ⟨wr.heap.size,0,none⟩) (ys.length + j) 1 c6 1 rfl rfl (ys ++ List.replicate j 0) [0] HLj.out rfl (hP.out.2.2.1.ext ((Fr.refl _ _).alloc _)) hSh.out (by simp only [maxLen]; omega) (by omega) ?_
      intro A7 c7 w3 hB3 hF3 hA3
      have HNew:=zh (hP.out.next hB3 hF3 hA3)
      clear hB3 hF3 hA3 hSh HLj
      go_wp2
      go_roundw
      case rel=>exact ⟨j + 1,A7,c7,by omega,by rw [Nat.add_assoc],HNew⟩
      case measure=>simp; omega
     ·have ej:ys.length + j=xs.length:=by omega
      have hpos:0 < xs.length:=by omega
      have hne6:ys ++ List.replicate j 0≠[]:=fun e=>by have:=congrArg List.length e; rw [List.length_append,List.length_nil] at this; omega
      obtain ⟨bC,rfl,hOC,hCC,hcC,hcCm⟩:=hP.out.2.2.1.openG hne6
      have hbC:=hP.out.2.2.2.1 bC ⟨_,rfl,rfl⟩
      have hlC:(ys ++ List.replicate j 0).length=xs.length:=by simp; omega
      have hvC:val W64 (ys ++ List.replicate j 0)=val W64 ys:=by rw [ZbP,Zcq]; simp
      have hdC:Dig W64 (ys ++ List.replicate j 0):=hS.out.2.2.2.1.append (Dig.replicate Zah _)
      have hxl:=Za1 hS.out.2.2.1
      have hyx:=hS.out.2.2.2.2.2.2.1
      have HAp:Hid (Calls Tryz.prog 188 #[.agg #[.int .u64 (u0:Int), .int .u64 (u1:Int), .int .u64 (v0:Int), .int .u64 (v1:Int), .bool odd], .slice (some ⟨bA,0,none⟩) xs.length ca, .slice (some ⟨bC,0,none⟩) (ys.length + j) c6] wr (ZdN bA bC xs.length r0 r1 wr)):=by
       obtain ⟨q1,q2,q3,q4⟩:=HQ.out
       obtain ⟨k0,k1,k2,k3⟩:=Hb.out
       unfold Hid
       rw [ej]
       rw [← hvC] at q4
       cases odd with
       | false =>
         simp only [Bool.false_eq_true,if_false] at q4
         exact ZiQ bA bC xs.length ca c6 u0 u1 v0 v1 r0 r1 xs _ wr rfl hlC hP.out.1 hOC (fun e=>hbC.2.1 e.symm) hS.out.2.2.1 hdC (by omega) k0 k1 k2 k3 q4.1 q4.2 (by omega) (by omega)
       | true =>
         simp only [if_true] at q4
         exact ZjY bA bC xs.length ca c6 u0 u1 v0 v1 r0 r1 xs _ wr rfl hlC hP.out.1 hOC (fun e=>hbC.2.1 e.symm) hS.out.2.2.1 hdC (by omega) k0 k1 k2 k3 q4.1 q4.2 (by omega) (by omega)
      have s0:wr.cell? ⟨gs,0,none⟩=some (.int .u64 (u0:Int)):=hP.out.2.2.2.2.1.cell 0
      have s1:wr.cell? ⟨gs,1,none⟩=some (.int .u64 (u1:Int)):=hP.out.2.2.2.2.1.cell 1
      have s2:wr.cell? ⟨gs,2,none⟩=some (.int .u64 (v0:Int)):=hP.out.2.2.2.2.1.cell 2
      have s3:wr.cell? ⟨gs,3,none⟩=some (.int .u64 (v1:Int)):=hP.out.2.2.2.2.1.cell 3
      have s4:wr.cell? ⟨gs,4,none⟩=some (.bool odd):=hP.out.2.2.2.2.1.cell 4
      have HCC:=zh hCC
      have HLC:=zh hlC
      have Hej:=zh ej
      clear hOC hCC hlC hvC hdC hxl hyx hne6 ej
      go_wp2_with fail
      refine HAp.out.mono ?_
      rintro e w3 ⟨zs,zt,rfl,hOA3,hOC3,hr0,hr1,hd1,hd2,hl1,hl2,hSA,hSC,hF3⟩
      have hej:=Hej.out
      have HTr1:=zh (ZcW _ zs xs.length ca w3 hl1 hOA3.shows0 (by omega) (by omega))
      have HTr2:=zh (ZcW _ zt (ys.length + j) c6 w3 (by omega) hOC3.shows0 (by have:=HLC.out; omega) (by omega))
      have HNew:Hid (Zd1 w w3 g (Zba zs) (Zba zt) (some ⟨bA,0,none⟩) ca (some ⟨bC,0,none⟩) c6):=by
       obtain ⟨q1,q2,q3,q4⟩:=HQ.out
       have t1:=Zbr zs
       have t2:=Zdr zs zs.length
       refine ⟨Buf.takeG (Or.inr ⟨bA,rfl,hOA3,hSA _ hP.out.2.1,by omega,hcAm⟩) _,Buf.takeG (Or.inr ⟨bC,rfl,hOC3,hSC _ HCC.out,by have:=HLC.out; omega,hcCm⟩) _,ZcF hd1,ZcF hd2,Zck _,Zck _,?_,?_,?_,fun b hb=>?_,fun b hb=>?_,fun b hb hb2=>?_,by omega⟩
       ·rw [Zbi,Zbi,hr0,hr1]; omega
       ·rw [Zbi,Zbi,hr0,hr1,q3]; exact hS.out.2.2.2.2.2.2.2.1
       ·refine hP.out.2.2.2.2.2.1.next hF3 (fun i hi e=>?_)
        rcases e with e | e
        ·have:=hP.out.2.2.2.2.2.2.1; omega
        ·have:=hbC.1; omega
       ·obtain ⟨a,ha,rfl⟩:=hb
        injection ha with ha; subst ha
        exact hP.out.2.2.2.2.2.2.1
       ·obtain ⟨a,ha,rfl⟩:=hb
        injection ha with ha; subst ha
        exact hbC.1
       ·obtain ⟨a,ha,rfl⟩:=hb
        injection ha with ha; subst ha
        obtain ⟨a',ha',e⟩:=hb2
        injection ha' with ha'; subst ha'
        exact hbC.2.1 e
      have HMs:Hid (val W64 (Zba zs) + val W64 (Zba zt) < val W64 xs + val W64 ys):=by
       obtain ⟨q1,q2,q3,q4⟩:=HQ.out
       have h2:=hS.out.2.2.2.2.2.2.1
       unfold Hid
       rw [Zbi,Zbi,hr0,hr1]; omega
      have Htl1:=zh (Zbr zs)
      have Htl2:=zh (Zbr zt)
      clear hOA3 hOC3 hr0 hr1 hd1 hd2 hSA hSC hF3 hej hl1 hl2
      go_wp2_with fail
      refine HTr1.out.mono ?_
      rintro e w4 ⟨rfl,rfl⟩
      go_wp2_with fail
      refine HTr2.out.mono ?_
      rintro e w4 ⟨rfl,rfl⟩
      go_wp2
      go_roundg (val W64 (Zba zs) + val W64 (Zba zt))
      case measure=>rw [HK.out]; exact HMs.out
      case rel=>exact ⟨Zba zs,Zba zt,_,ca,_,c6,rfl,by rw [Htl1.out],by rw [Htl2.out],HNew⟩
  ·have h1':decide ((1:Int) < (ys.length:Int))=false:=by simp; omega
   by_cases h0:ys=[]
   ·subst h0
    have HN:Hid (Zad wr (.slice Aa xs.length ca) g):=by
     have k1:=hS.out.1.natIs hS.out.2.2.1 hS.out.2.2.2.2.1
     have k2:=hS.out.2.2.2.2.2.2.2.1
     rw [Zdq,Nat.gcd_zero_right] at k2
     rw [k2] at k1
     exact k1
    have HE:Hid (Ext w wr):=hS.out.2.2.2.2.2.2.2.2.1
    clear hS h1 h1' hlen
    go_wp2
    go_ret
    exact ⟨_,rfl,HN.out,HE.out⟩
   ·obtain ⟨y,rfl⟩:∃ y,ys=[y]:=by
     match ys,(by have:=List.length_pos_iff.2 h0; omega:ys.length=1) with
     | [y],_=>exact ⟨y,rfl⟩
    obtain ⟨b3,rfl,hOB,_⟩:=hS.out.2.1.openG h0
    have hc3:=hOB.cell (i:=0) (by simp)
    simp at hc3
    have hb3:=zh hOB.lt
    have HE2:Hid (Ext w wr):=hS.out.2.2.2.2.2.2.2.2.1
    have HS2:Hid (Zae .u64 wr Aa xs):=hS.out.1.shows
    have Hdx:=zh hS.out.2.2.1
    have hyW:y < W64:=hS.out.2.2.2.1 y (by simp)
    have hy0:0 < y:=by
     have:=hS.out.2.2.2.2.2.1 0 rfl
     simp at this; omega
    have hgc:=hS.out.2.2.2.2.2.2.2.1
    simp only [ZcV,Zdq,Nat.mul_zero,Nat.add_zero] at hgc
    obtain ⟨r,er⟩:∃ r,val W64 xs % y=r:=⟨_,rfl⟩
    have hzz:Hid (r < W64∧Nat.gcd y r=g∧g < W64):=by
     have k1:=Nat.mod_lt (val W64 xs) hy0
     have k3:=Nat.gcd_le_right (val W64 xs) hy0
     rw [hgc] at k3
     refine ⟨by omega,?_,by omega⟩
     rw [← er,← hgc,Nat.gcd_comm y,← Nat.gcd_rec,Nat.gcd_comm]
    obtain ⟨x,ex⟩:∃ x,xs.length=x:=⟨_,rfl⟩
    rw [ex] at hx79 ⊢
    have HC3:Hid (wr.cell? ⟨b3,0,none⟩=some (.int .u64 (y:Int))):=hc3
    have Hy0:=zh hy0
    have Hn:=zh hyW
    have Her:=zh er
    have Hex:=zh ex
    clear hS hOB hgc er ex h0 h1 h1' hlen hy0 hyW
    go_wp2_with fail
    go_region_held3 (fun w'=>w'.cell? ⟨b3,0,none⟩=some (.int .u64 (y:Int)))
     (first | exact HC3.out | exact (Fr.cell (p:=⟨b3,0,none⟩) (Fr.undrew hFF) hb3.out (fun f=>f)).trans HC3.out)
     (first
      | (go_at_call 192
         refine (ZcI Aa xs x ca y _ Hex.out HS2.out.drew (by have:=Hex.out; omega) Hdx.out Hy0.out Hn.out).mono ?_
         rintro e w4 ⟨rfl,nd4,hw4⟩
         rw [Her.out]
         have hFF:Ext wr.drew w4:=hw4 ▸ (Fr.refl _ wr.drew).drewN nd4
         clear hw4)
      | (go_at_call 191
         refine (Zej y r g _ (HG.out.ext (HE2.out.trans (Fr.undrew hFF))) Hn.out hzz.out.1 hzz.out.2.1).mono ?_
         rintro e w5 ⟨rfl,rfl⟩)
      | (go_at_call 190
         refine (ZdX g _ hzz.out.2.2).mono ?_
         rintro e w6 ⟨v6,rfl,hN6,hF6⟩
         replace hFF:Ext wr.drew w6:=hFF.trans hF6))
    go_wp2
    go_ret
    exact ⟨_,rfl,hN6,HE2.out.trans (Fr.undrew hFF)⟩
theorem Zk4 (u v:Value) (m n:Nat) (w:World) (hg:Glob w) (hu:Zad w u m) (hv:Zad w v n) (hm:wl m≤79) (hn:wl n≤79):Calls Tryz.prog 156 #[u,v] w (Za2 w (Nat.gcd m n)):=by
 by_cases hs:min m n < W64
 ·exact ZfW u v m n w hg hu hv (by omega) (by omega) hs
 ·rcases Nat.lt_or_ge m n with h | h
  ·exact Zkq v u n m _ w hg hv hu hn (by omega) h (Nat.gcd_comm _ _)
  ·exact Zkp u v m n _ w hg hu hv hm (by omega) h rfl
theorem Zl1 (u v:Value) (m n:Nat) (w:World) (hg:Glob w) (hu:Zad w u m) (hv:Zad w v n) (hm:wl m≤4294967296) (hn:wl n≤4294967296) (hs:min m n < W64∨(wl m≤79∧wl n≤79)):Calls Tryz.prog 156 #[u,v] w (Za2 w (Nat.gcd m n)):=by
 rcases hs with h | h
 ·exact ZfW u v m n w hg hu hv hm hn h
 ·exact Zk4 u v m n w hg hu hv h.1 h.2
end Go.Proofs.YtenchljfmfgeoaaGreatDoor

namespace Go.Proofs.YtenchljfmfgeoaaGreatDoor
open Go.RowKit
def ZkA (x y:Int):Prop:=min x.natAbs y.natAbs < W64∨(wl x.natAbs≤79∧wl y.natAbs≤79)
theorem ZkA.words {x y:Int} (hx:wl x.natAbs≤79) (hy:wl y.natAbs≤79):ZkA x y:=Or.inr ⟨hx,hy⟩
set_option maxHeartbeats 1000000 in
theorem Zrl (a b:Value) (x y:Int) (w:World) (hg:Glob w) (ha:Zcz w a x) (hb:Zcz w b y) (hx:Fits x) (hy:Fits y) (hs:ZkA x y):Calls Tryz.prog 106 #[a,b] w (ZiP w (Int.gcd x y:Int)):=by
 obtain ⟨s,A,l,c,rfl,hN,hz,z0⟩:=ha.open
 obtain ⟨t,A',l',c',rfl,hN',hz',z0'⟩:=hb.open
 have HN:=zh hN
 have HN':=zh hN'
 have Hx:Hid (wl x.natAbs≤4294967296):=by unfold Fits at hx; unfold Hid; omega
 have Hy:Hid (wl y.natAbs≤4294967296):=by unfold Fits at hy; unfold Hid; omega
 have HG:=zh hg
 have HS:=zh hs
 obtain ⟨z,ez⟩:∃ z,Int.gcd x y=z:=⟨_,rfl⟩
 have Ez:Hid (Nat.gcd x.natAbs y.natAbs=z):=ez
 rw [ez]
 clear ha hb hx hy hN hN' hz hz' z0 z0' hg hs ez
 go_enter Tryz.func106,Tryz.ntmps106
 go_wp2_with fail
 generalize hwb:World.alloc (World.alloc (World.alloc w _) _) _=wb
 obtain ⟨hBx,hBy,hBr,Q⟩:=Zk0 hwb
 have HBr:=zh hBr
 have HE:=zh Q
 clear hwb hBx hBy hBr Q
 refine (Zl1 _ _ _ _ _ (HG.out.ext HE.out) (HN.out.ext HE.out) (HN'.out.ext HE.out) Hx.out Hy.out HS.out).mono ?_
 rintro e w1 ⟨u1,rfl,hN1,hF1⟩
 rw [Ez.out] at hN1
 obtain ⟨A1,l1,c1,rfl⟩:=hN1.slice
 obtain ⟨z0,z1,z2,z3⟩:=(HBr.out.ext hF1).cell2
 have HN1:=zh hN1
 have HF1:=zh hF1
 clear hN1 hF1
 go_wp2
 exact Zmq (neg:=false) rfl rfl (by omega) HE.out HBr.out HF1.out HN1.out rfl rfl
end Go.Proofs.YtenchljfmfgeoaaGreatDoor

namespace Go.Proofs.YtenchljfmfgeoaaGreatDoor
open Go.RowKit
end Go.Proofs.YtenchljfmfgeoaaGreatDoor

namespace Go.Proofs.YtenchljfmfgeoaaGreatDoor
open Go.RowKit
def Zav (c:UInt8):Bool:=decide (48≤c.toNat) && decide (c.toNat≤57)
abbrev bytes (s:ByteArray):List UInt8:=s.data.toList
theorem Zg8 {p:UInt8→Bool}:∀ {l:List UInt8} {k:Nat},(l.take k).all p=true→(∀ h:k < l.length,p l[k]=false)→l.takeWhile p=l.take k∧l.dropWhile p=l.drop k
 | [],k,_,_=>by simp
 | x :: l,0,_,h=>by
   have:=h (by simp)
   simp at this
   simp [this]
 | x :: l,k + 1,h1,h2=>by
   simp only [List.take_succ_cons,List.all_cons,Bool.and_eq_true] at h1
   have:=Zg8 (l:=l) (k:=k) h1.2 (fun h=>by have:=h2 (by simp; omega); simpa using this)
   simp [h1.1,this.1,this.2]
theorem Zaq (s:ByteArray):(bytes s).length=s.size:=Array.length_toList
theorem ZbL (s:ByteArray) (a b:Nat):bytes (s.extract a b)=((bytes s).drop a).take (b - a):=Lib.extract_data s a b
theorem Zii (s:ByteArray) {k:Nat} (h:k < s.size):(bytes s)[k]'(by rw [Zaq]; exact h)=s[k]:=rfl
theorem Zfl (s:ByteArray) (k:Nat) (h:k < s.size):(bytes s).take (k + 1)=(bytes s).take k ++ [s[k]]:=by
 rw [List.take_succ_eq_append_getElem (by rw [Zaq]; exact h)]; rfl
theorem Zjp {s:ByteArray} {k:Nat} (hR:((bytes s).take k).all Zav=true) (hd:∀ h:k < s.size,Zav s[k]=false) :
 bytes (s.extract 0 k)=(bytes s).takeWhile Zav∧bytes (s.extract k s.size)=(bytes s).dropWhile Zav:=by
 obtain ⟨h1,h2⟩:=Zg8 hR (fun h=>hd (by rw [Zaq] at h; exact h))
 rw [ZbL,ZbL,h1,h2]
 refine ⟨by simp,?_⟩
 rw [List.take_of_length_le (by rw [List.length_drop,Zaq]; exact Nat.le_refl _)]
def Zsg (s:ByteArray) (w:World) (e:Ending) (w':World):Prop :=
 ∃ t u:ByteArray,e=.returned (.tuple #[.string t, .string u])∧bytes t=(bytes s).takeWhile Zav∧bytes u=(bytes s).dropWhile Zav∧∃ n,w'=w.drewN n
set_option maxHeartbeats 1000000 in
theorem ZgQ (s:ByteArray) (w:World) (hs:s.size≤1099511627776):Calls Tryz.prog 154 #[.string s] w (Zsg s w):=by
 go_enter Tryz.func154,Tryz.ntmps154
 go_wp2
 go_loop [4] (fun v=>∃ k:Nat,k≤s.size∧v=.int .i64 (k:Int)∧Hid (((bytes s).take k).all Zav=true)) (fun v=>s.size - (intOf v).toNat)
 case atStart=>exact ⟨0,Nat.zero_le _,rfl,rfl⟩
 case round =>
  obtain ⟨k,hk,rfl,hR⟩:=hrel
  by_cases hlt:k < s.size
  ·have hb:Zav s[k]=(decide (48≤s[k].toNat) && decide (s[k].toNat≤57)):=rfl
   have HB:=zh hb
   have hts:=zh (Zfl s k hlt)
   clear hb
   go_wp2_with fail
   ·have h1:48≤(s[k].toNat:Int):=by assumption
    have h2:(s[k].toNat:Int)≤57:=by assumption
    go_round
    case rel =>
     refine ⟨k + 1,by omega,by go_num,?_⟩
     unfold Hid
     rw [hts.out,List.all_append,hR.out]
     simp only [List.all_cons,List.all_nil,Bool.and_true,Bool.true_and]
     rw [HB.out,decide_eq_true (by omega),decide_eq_true (by omega)]; rfl
    case measure=>simp [intOf]; omega
   ·have h1:57 < (s[k].toNat:Int):=by assumption
    have hfin:=zh (Zjp hR.out (fun _=>by rw [HB.out,decide_eq_false (p:=s[k].toNat≤57) (by omega),Bool.and_false]))
    go_quiet (fail)
    go_wp2
    go_ret2
    exact ⟨_,_,rfl,hfin.out.1,hfin.out.2,_,rfl⟩
   ·have h1:(s[k].toNat:Int) < 48:=by assumption
    have hfin:=zh (Zjp hR.out (fun _=>by rw [HB.out,decide_eq_false (p:=48≤s[k].toNat) (by omega),Bool.false_and]))
    go_quiet (fail)
    go_wp2
    go_ret2
    exact ⟨_,_,rfl,hfin.out.1,hfin.out.2,_,rfl⟩
  ·have hfin:=zh (Zjp hR.out (fun h=>absurd h hlt))
   go_wp2_with fail
   go_quiet (fail)
   go_wp2
   go_ret2
   exact ⟨_,_,rfl,hfin.out.1,hfin.out.2,_,rfl⟩
def Zaz (l:List UInt8):Bool × List UInt8:=if l.head? = some 45 then (true,l.tail) else (false,l)
def Zk5 (s:ByteArray) (w:World) (e:Ending) (w':World):Prop:=∃ (r:ByteArray) (neg:Bool),e=.returned (.tuple #[.string r, .bool neg])∧Zaz (bytes s)=(neg,bytes r)∧w=w'
theorem Zg9 (s:ByteArray) (w:World):Calls Tryz.prog 120 #[.string s, .string ⟨#[45]⟩] w (Zk5 s w):=by
 refine (Tryz.strings_CutPrefix s ⟨#[45]⟩ w).mono ?_
 rintro e w1 ⟨rfl,rfl⟩
 refine ⟨_,_,rfl,?_,rfl⟩
 unfold Zaz
 cases h:s.data.toList with
 | nil=>simp [bytes,h,Lib.trimPrefix,Lib.hasPrefix]
 | cons x l =>
   by_cases hx:x=45
   ·subst hx; simp [bytes,h,Lib.trimPrefix,Lib.hasPrefix]
   ·have hx':¬ 45=x:=fun e=>hx e.symm
    simp [bytes,h,Lib.trimPrefix,Lib.hasPrefix,List.isPrefixOf,hx,hx']
def ZaY (l:List UInt8):Bool × List UInt8 × List UInt8 × Bool :=
 let p:=Zaz l
 let num:=p.2.takeWhile Zav
 let rest:=p.2.dropWhile Zav
 if num=[48] then (p.1,num,[],!p.1 && rest.isEmpty)
 else if num=[]∨num.head? = some 48 then (p.1,num,[],false)
 else if rest=[] then (p.1,num,[],true)
 else if rest.head? ≠ some 47 then (p.1,num,[],false)
 else (p.1,num,rest.tail.takeWhile Zav,(rest.tail.dropWhile Zav).isEmpty && !(rest.tail.takeWhile Zav).isEmpty && (rest.tail.takeWhile Zav).head? != some 48 && (rest.tail.takeWhile Zav) != [49])
def Zij (s:ByteArray) (w:World) (e:Ending) (w':World):Prop :=
 ∃ (neg:Bool) (t d:ByteArray) (ok:Bool),e=.returned (.tuple #[.agg #[.bool neg, .string t, .string d], .bool ok])∧ZaY (bytes s)=(neg,bytes t,bytes d,ok)∧Ext w w'
theorem ZjZ {l r:List UInt8} {neg:Bool} (h:Zaz l=(neg,r)):r.length≤l.length:=by
 unfold Zaz at h
 split at h<;>(injection h with _ h; subst h; simp)
theorem Zeb {t:ByteArray} (h:bytes t≠[]):0 < t.size∧t.toList≠[]∧t.toList.isEmpty=false:=by
 rw [Lib.toList_data]
 have h1:0 < t.size:=by rw [← Zaq]; exact List.length_pos_iff.2 h
 exact ⟨h1,h,by simpa using h⟩
theorem Zev {t:ByteArray} (h:0 < t.size):(bytes t).head? = some t[0]:=by
 have h1:0 < (bytes t).length:=by rw [Zaq]; exact h
 rw [List.head?_eq_getElem?,List.getElem?_eq_getElem h1,Zii t h]
theorem Zjq {b:UInt8} {n:Nat} (hn:n < 256):((b.toNat:Int) == (n:Int))=decide (b=UInt8.ofNat n):=by
 rw [Bool.eq_iff_iff]
 simp
 constructor
 ·intro h
  have:b.toNat=n:=by omega
  rw [← this]; simp
 ·rintro rfl
  simp [Nat.mod_eq_of_lt hn]
theorem Blk.cell3 {t:TypeId} {w:World} {g:Nat} {x y z:Value} (h:Blk t w g #[x,y,z]):w.cell? ⟨g,0,none⟩=some x∧w.cell? ⟨g,1,none⟩=some y∧w.cell? ⟨g,2,none⟩=some z∧w.frozen? ⟨g,0,none⟩=false∧w.frozen? ⟨g,1,none⟩=false∧w.frozen? ⟨g,2,none⟩=false :=
 ⟨h.cell 0,h.cell 1,h.cell 2,h.frozen 0,h.frozen 1,h.frozen 2⟩
theorem ZbU {fn:Func} {tmps:Array Value} {w wz:World} {r:Nat} {neg ok:Bool} {s t d:ByteArray} (hres:fn.results=#[.cell 2 156, .tmp 3]) (ht:tmps[2]? = some (.pointer (some ⟨r,0,none⟩))) (h3:tmps[3]? = some (.bool ok))
 (hB:Blk 156 wz r #[.bool neg, .string t, .string d]) (Q:Ext w wz) (hS:ZaY (bytes s)=(neg,bytes t,bytes d,ok)):bodyPost Tryz.prog fn (Zij s w) .ret ⟨tmps,[]⟩ wz:=by
 obtain ⟨h0,h1,h2,_⟩:=hB.cell3
 refine bodyPost_ret (v:=.tuple #[.agg #[.bool neg, .string t, .string d], .bool ok]) (by simp [results,hres,ht,h3,go_sem,h0,h1,h2]) rfl ⟨neg,t,d,ok,rfl,hS,Q⟩
set_option maxHeartbeats 2000000 in
theorem Zj0 (s:ByteArray) (w:World) (hs:s.size≤1099511627776):Calls Tryz.prog 104 #[.string s] w (Zij s w):=by
 go_enter Tryz.func104,Tryz.ntmps104
 go_wp2_with fail
 refine (Zg9 s _).mono ?_
 rintro e w1 ⟨r,neg,rfl,hr,rfl⟩
 have hrs:r.size≤1099511627776:=by
  have:=ZjZ hr; rw [Zaq,Zaq] at this; omega
 have HR:=zh hr
 clear hr
 go_wp2_with fail
 refine (ZgQ r _ hrs).mono ?_
 rintro e w1 ⟨t,u,rfl,ht,hu,n1,rfl⟩
 have HT:=zh ht
 have HU:=zh hu
 have hus:u.size≤1099511627776:=by
  have h1:=congrArg List.length hu
  have h2:=(List.dropWhile_suffix Zav (l:=bytes r)).sublist.length_le
  rw [Zaq] at h1
  rw [Zaq] at h2
  omega
 have HSP:Hid (∀ (d:List UInt8) (ok:Bool),ZaY (bytes s)=(neg,bytes t,d,ok) ↔ (if bytes t=[48] then (neg,bytes t,[],!neg && (bytes u).isEmpty)
  else if bytes t=[]∨(bytes t).head? = some 48 then (neg,bytes t,[],false)
  else if bytes u=[] then (neg,bytes t,[],true)
  else if (bytes u).head? ≠ some 47 then (neg,bytes t,[],false)
  else (neg,bytes t,(bytes u).tail.takeWhile Zav,((bytes u).tail.dropWhile Zav).isEmpty && !((bytes u).tail.takeWhile Zav).isEmpty && ((bytes u).tail.takeWhile Zav).head? != some 48 && ((bytes u).tail.takeWhile Zav) != [49]))=(neg,bytes t,d,ok)):=by
  intro d ok
  unfold ZaY
  rw [HR.out]
  simp only [← HT.out,← HU.out]
 clear ht hu
 generalize hwb:World.alloc (World.alloc w _) _=wb0
 obtain ⟨hBR,hBF,Q⟩:=Znk hwb
 clear hwb
 generalize hwb:World.drewN wb0 n1=wb
 have HBR:Hid (Blk 156 wb w.heap.size #[.bool false, .string ⟨#[]⟩, .string ⟨#[]⟩]):=hwb ▸ hBR.drewN n1
 have HBF:Hid (Blk 156 wb (w.heap.size + 1) #[.bool neg, .string ⟨#[]⟩, .string ⟨#[]⟩]):=hwb ▸ hBF.drewN n1
 have HE:Hid (Ext w wb):=hwb ▸ Q.drewN n1
 clear hwb hBR hBF Q
 clear wb0
 obtain ⟨x0,x1,x2,x3,x4,x5⟩:=HBR.out.cell3
 obtain ⟨y0,y1,y2,y3,y4,y5⟩:=HBF.out.cell3
 have hu1:u.toList=bytes u:=Lib.toList_data u
 have ht1:t.toList=bytes t:=Lib.toList_data t
 have HU1:=zh hu1
 have HT1:=zh ht1
 clear hu1 ht1
 by_cases c1:bytes t=[48]
 ·have d1:(t.toList == [48])=true:=by rw [HT1.out,c1]; rfl
  cases neg with
  | true =>
    have HS:Hid (ZaY (bytes s)=(true,bytes t,bytes ⟨#[]⟩,false)):=by
     unfold Hid; rw [HSP.out,if_pos c1]; rfl
    clear c1
    go_wp2
    exact ZbU rfl rfl rfl ((((HBR.out.far (p:=⟨w.heap.size + 1,1,none⟩) (by simp) (.string t)).set_ 0 (.bool true)).set_ 1 (.string t)).set_ 2 (.string ⟨#[]⟩)) ((((HE.out.setCell (Or.inr (by simp)) _).setCell (Or.inr (by simp)) _).setCell (Or.inr (by simp)) _).setCell (Or.inr (by simp)) _) HS.out
  | false =>
    by_cases c2:bytes u=[]
    ·have d2:u.toList.isEmpty=true:=by rw [HU1.out,c2,List.isEmpty_nil]
     have HS:Hid (ZaY (bytes s)=(false,bytes t,bytes ⟨#[]⟩,true)):=by
      unfold Hid; rw [HSP.out,if_pos c1,c2]; rfl
     clear c1 c2
     go_wp2
     exact ZbU rfl rfl rfl ((((HBR.out.far (p:=⟨w.heap.size + 1,1,none⟩) (by simp) (.string t)).set_ 0 (.bool false)).set_ 1 (.string t)).set_ 2 (.string ⟨#[]⟩)) ((((HE.out.setCell (Or.inr (by simp)) _).setCell (Or.inr (by simp)) _).setCell (Or.inr (by simp)) _).setCell (Or.inr (by simp)) _) HS.out
    ·have d2:u.toList.isEmpty=false:=(Zeb c2).2.2
     have HS:Hid (ZaY (bytes s)=(false,bytes t,bytes ⟨#[]⟩,false)):=by
      unfold Hid; rw [HSP.out,if_pos c1,show (bytes u).isEmpty=false by simpa using c2]; rfl
     clear c1 c2
     go_wp2
     exact ZbU rfl rfl rfl ((((HBR.out.far (p:=⟨w.heap.size + 1,1,none⟩) (by simp) (.string t)).set_ 0 (.bool false)).set_ 1 (.string t)).set_ 2 (.string ⟨#[]⟩)) ((((HE.out.setCell (Or.inr (by simp)) _).setCell (Or.inr (by simp)) _).setCell (Or.inr (by simp)) _).setCell (Or.inr (by simp)) _) HS.out
 have d1:(t.toList == [48])=false:=by rw [HT1.out]; simpa using c1
 by_cases c2:bytes t=[]
 ·have d2:t.toList=[]:=HT1.out.trans c2
  have HS:Hid (ZaY (bytes s)=(neg,bytes t,bytes ⟨#[]⟩,false)):=by
   unfold Hid; rw [HSP.out,if_neg c1,if_pos (Or.inl c2)]
  clear c1 c2
  go_wp2
  exact ZbU rfl rfl rfl ((((HBR.out.far (p:=⟨w.heap.size + 1,1,none⟩) (by simp) (.string t)).set_ 0 (.bool neg)).set_ 1 (.string t)).set_ 2 (.string ⟨#[]⟩)) ((((HE.out.setCell (Or.inr (by simp)) _).setCell (Or.inr (by simp)) _).setCell (Or.inr (by simp)) _).setCell (Or.inr (by simp)) _) HS.out
 obtain ⟨g1,g2,g3⟩:=Zeb c2
 have hb0:=Zjq (b:=t[0]) (n:=48) (by omega)
 have hh0:=Zev g1
 by_cases c3:t[0]=48
 ·have d3:((t[0].toNat:Int) == 48)=true:=by rw [show (48:Int)=((48:Nat):Int) from rfl,hb0]; simpa using c3
  have HS:Hid (ZaY (bytes s)=(neg,bytes t,bytes ⟨#[]⟩,false)):=by
   unfold Hid; rw [HSP.out,if_neg c1,if_pos (Or.inr (by rw [hh0,c3]))]
  clear c1 c2 c3 hb0 hh0
  go_wp2
  exact ZbU rfl rfl rfl ((((HBR.out.far (p:=⟨w.heap.size + 1,1,none⟩) (by simp) (.string t)).set_ 0 (.bool neg)).set_ 1 (.string t)).set_ 2 (.string ⟨#[]⟩)) ((((HE.out.setCell (Or.inr (by simp)) _).setCell (Or.inr (by simp)) _).setCell (Or.inr (by simp)) _).setCell (Or.inr (by simp)) _) HS.out
 have d3:((t[0].toNat:Int) == 48)=false:=by rw [show (48:Int)=((48:Nat):Int) from rfl,hb0]; simpa using c3
 have c4:¬ (bytes t=[]∨(bytes t).head? = some 48):=by
  rintro (h | h)
  ·exact c2 h
  ·rw [hh0] at h; injection h with h; exact c3 h
 clear hb0 hh0 c3 c2
 by_cases c5:bytes u=[]
 ·have d5:u.toList.isEmpty=true:=by rw [HU1.out,c5]; rfl
  have HS:Hid (ZaY (bytes s)=(neg,bytes t,bytes ⟨#[]⟩,true)):=by
   unfold Hid; rw [HSP.out,if_neg c1,if_neg c4,if_pos c5]
  clear c1 c4 c5
  go_wp2
  exact ZbU rfl rfl rfl ((((HBR.out.far (p:=⟨w.heap.size + 1,1,none⟩) (by simp) (.string t)).set_ 0 (.bool neg)).set_ 1 (.string t)).set_ 2 (.string ⟨#[]⟩)) ((((HE.out.setCell (Or.inr (by simp)) _).setCell (Or.inr (by simp)) _).setCell (Or.inr (by simp)) _).setCell (Or.inr (by simp)) _) HS.out
 obtain ⟨k1,k2,k3⟩:=Zeb c5
 have hb0:=Zjq (b:=u[0]) (n:=47) (by omega)
 have hh0:=Zev k1
 by_cases c6:u[0]=47
 ·have d6:((u[0].toNat:Int) != 47)=false:=by
   have:((u[0].toNat:Int) == 47)=true:=by rw [show (47:Int)=((47:Nat):Int) from rfl,hb0]; simpa using c6
   simp [bne,this]
  have H6:Hid (¬ (bytes u).head? ≠ some 47):=by unfold Hid; rw [hh0,c6]; simp
  have HC:Hid (bytes t≠[48]∧¬ (bytes t=[]∨(bytes t).head? = some 48)∧bytes u≠[]):=⟨c1,c4,c5⟩
  clear c1 c4 c5 c6 hb0 hh0
  go_wp2_with fail
  refine (ZgQ (u.extract 1 u.size) _ (by rw [ByteArray.size_extract]; omega)).mono ?_
  rintro e w1 ⟨v,x,rfl,hv,hx,n2,rfl⟩
  have ev:bytes (u.extract 1 u.size)=(bytes u).tail:=by
   rw [ZbL,List.take_of_length_le (by rw [List.length_drop,Zaq]; exact Nat.le_refl _),List.drop_one]
  rw [ev] at hv hx
  have HF:Hid (∀ ok,(((bytes x).isEmpty && !(bytes v).isEmpty && (bytes v).head? != some 48 && (bytes v) != [49])=ok)→ZaY (bytes s)=(neg,bytes t,bytes v,ok)):=by
   intro ok h
   rw [HSP.out,if_neg HC.out.1,if_neg HC.out.2.1,if_neg HC.out.2.2,if_neg H6.out,← hv,← hx,h]
  have hv1:v.toList=bytes v:=Lib.toList_data v
  have hx1:x.toList=bytes x:=Lib.toList_data x
  have HV1:=zh hv1
  have HX1:=zh hx1
  clear hv hx ev hv1 hx1 d6
  generalize hwc:World.setCell wb _ _=wc0
  generalize hwd:World.drewN wc0 n2=wd
  have HBR2:Hid (Blk 156 wd w.heap.size #[.bool false, .string ⟨#[]⟩, .string ⟨#[]⟩]):=hwd ▸ hwc ▸ (HBR.out.far (p:=⟨w.heap.size + 1,1,none⟩) (by simp) _).drewN n2
  have HBF2:Hid (Blk 156 wd (w.heap.size + 1) #[.bool neg, .string t, .string ⟨#[]⟩]):=hwd ▸ hwc ▸ (HBF.out.set_ 1 _).drewN n2
  have HE2:Hid (Ext w wd):=hwd ▸ hwc ▸ (HE.out.setCell (Or.inr (by simp)) _).drewN n2
  clear hwd hwc HBR HBF HE x0 x1 x2 x3 x4 x5 y0 y1 y2 y3 y4 y5
  clear wc0
  obtain ⟨x0,x1,x2,x3,x4,x5⟩:=HBR2.out.cell3
  obtain ⟨y0,y1,y2,y3,y4,y5⟩:=HBF2.out.cell3
  go_wp2_with fail
  by_cases q1:bytes x=[]
  ·have r1:x.toList.isEmpty=true:=by rw [HX1.out,q1,List.isEmpty_nil]
   by_cases q2:bytes v=[]
   ·have r2:v.toList.isEmpty=true:=by rw [HV1.out,q2,List.isEmpty_nil]
    have r2':v.toList=[]:=HV1.out.trans q2
    have HS:=zh (HF.out false (by rw [q1,q2]; rfl))
    clear q1 q2
    go_region
    all_goals go_wp2
    all_goals exact ZbU rfl rfl rfl (((((HBR2.out.far (p:=⟨w.heap.size + 1,2,none⟩) (by simp) (.string v)).set_ 0 (.bool neg)).set_ 1 (.string t)).set_ 2 (.string v)).drewN 1) (((((HE2.out.setCell (Or.inr (by simp)) _).setCell (Or.inr (by simp)) _).setCell (Or.inr (by simp)) _).setCell (Or.inr (by simp)) _).drewN 1) HS.out
   ·obtain ⟨g4,g5,g6⟩:=Zeb q2
    have hb1:=Zjq (b:=v[0]) (n:=48) (by omega)
    have hh1:=Zev g4
    have ne2:(bytes v).isEmpty=false:=by simpa using q2
    by_cases q3:v[0]=48
    ·have r3:((v[0].toNat:Int) == 48)=true:=by rw [show (48:Int)=((48:Nat):Int) from rfl,hb1]; simpa using q3
     have r3':((v[0].toNat:Int) != 48)=false:=by rw [bne,r3]; rfl
     have HS:=zh (HF.out false (by rw [q1,ne2,hh1,q3]; rfl))
     clear q1 q2 q3 hb1 hh1 ne2 r3
     go_region
     all_goals go_wp2
     all_goals exact ZbU rfl rfl rfl (((((HBR2.out.far (p:=⟨w.heap.size + 1,2,none⟩) (by simp) (.string v)).set_ 0 (.bool neg)).set_ 1 (.string t)).set_ 2 (.string v)).drewN 1) (((((HE2.out.setCell (Or.inr (by simp)) _).setCell (Or.inr (by simp)) _).setCell (Or.inr (by simp)) _).setCell (Or.inr (by simp)) _).drewN 1) HS.out
    ·have r3:((v[0].toNat:Int) == 48)=false:=by rw [show (48:Int)=((48:Nat):Int) from rfl,hb1]; simpa using q3
     have r3':((v[0].toNat:Int) != 48)=true:=by rw [bne,r3]; rfl
     have n3:((bytes v).head? != some 48)=true:=by rw [hh1]; simpa using q3
     by_cases q4:bytes v=[49]
     ·have r4:(v.toList == [49])=true:=by rw [HV1.out,q4]; rfl
      have r4':(v.toList != [49])=false:=by rw [bne,r4]; rfl
      have HS:=zh (HF.out false (by rw [q1,n3,ne2,q4]; rfl))
      clear q1 q2 q3 q4 hb1 hh1 ne2 n3 r3 r4'
      go_region
      all_goals go_wp2
      all_goals exact ZbU rfl rfl rfl (((((HBR2.out.far (p:=⟨w.heap.size + 1,2,none⟩) (by simp) (.string v)).set_ 0 (.bool neg)).set_ 1 (.string t)).set_ 2 (.string v)).drewN 1) (((((HE2.out.setCell (Or.inr (by simp)) _).setCell (Or.inr (by simp)) _).setCell (Or.inr (by simp)) _).setCell (Or.inr (by simp)) _).drewN 1) HS.out
     ·have r4:(v.toList == [49])=false:=by rw [HV1.out]; simpa using q4
      have r4':(v.toList != [49])=true:=by rw [bne,r4]; rfl
      have HS:=zh (HF.out true (by rw [q1,n3,ne2,show (bytes v != [49])=true by rw [bne]; simpa using q4]; rfl))
      clear q1 q2 q3 q4 hb1 hh1 ne2 n3 r3 r4'
      go_region
      all_goals go_wp2
      all_goals exact ZbU rfl rfl rfl (((((HBR2.out.far (p:=⟨w.heap.size + 1,2,none⟩) (by simp) (.string v)).set_ 0 (.bool neg)).set_ 1 (.string t)).set_ 2 (.string v)).drewN 1) (((((HE2.out.setCell (Or.inr (by simp)) _).setCell (Or.inr (by simp)) _).setCell (Or.inr (by simp)) _).setCell (Or.inr (by simp)) _).drewN 1) HS.out
  ·have r1:x.toList.isEmpty=false:=(Zeb q1).2.2
   have HS:=zh (HF.out false (by rw [show (bytes x).isEmpty=false by simpa using q1]; rfl))
   clear q1
   go_region
   all_goals go_wp2
   all_goals exact ZbU rfl rfl rfl (((((HBR2.out.far (p:=⟨w.heap.size + 1,2,none⟩) (by simp) (.string v)).set_ 0 (.bool neg)).set_ 1 (.string t)).set_ 2 (.string v)).drewN 1) (((((HE2.out.setCell (Or.inr (by simp)) _).setCell (Or.inr (by simp)) _).setCell (Or.inr (by simp)) _).setCell (Or.inr (by simp)) _).drewN 1) HS.out
 ·have d6:((u[0].toNat:Int) != 47)=true:=by
   have:((u[0].toNat:Int) == 47)=false:=by rw [show (47:Int)=((47:Nat):Int) from rfl,hb0]; simpa using c6
   simp [bne,this]
  have HS:Hid (ZaY (bytes s)=(neg,bytes t,bytes ⟨#[]⟩,false)):=by
   unfold Hid; rw [HSP.out,if_neg c1,if_neg c4,if_neg c5,if_pos (by rw [hh0]; simpa using c6)]
  clear c1 c4 c5 c6 hb0 hh0
  go_wp2
  exact ZbU rfl rfl rfl ((((HBR.out.far (p:=⟨w.heap.size + 1,1,none⟩) (by simp) (.string t)).set_ 0 (.bool neg)).set_ 1 (.string t)).set_ 2 (.string ⟨#[]⟩)) ((((HE.out.setCell (Or.inr (by simp)) _).setCell (Or.inr (by simp)) _).setCell (Or.inr (by simp)) _).setCell (Or.inr (by simp)) _) HS.out
end Go.Proofs.YtenchljfmfgeoaaGreatDoor

namespace Go.Proofs.YtenchljfmfgeoaaGreatDoor
open Go.RowKit
def Zak (l:List UInt8):Nat:=l.foldl (fun n c=>10 * n + (c.toNat - 48)) 0
theorem ZdA (l:List UInt8) (c:UInt8):Zak (l ++ [c])=10 * Zak l + (c.toNat - 48):=by simp [Zak]
theorem ZeA (a b:List UInt8):Zak (a ++ b)=Zak a * 10 ^ b.length + Zak b:=by
 have key:∀ (b:List UInt8) (n:Nat),b.foldl (fun n c=>10 * n + (c.toNat - 48)) n=n * 10 ^ b.length + b.foldl (fun n c=>10 * n + (c.toNat - 48)) 0:=by
  intro b
  induction b with
  | nil=>intro n; simp
  | cons c b ih =>
    intro n
    simp only [List.foldl_cons,List.length_cons]
    rw [ih,ih (10 * 0 + (c.toNat - 48)),Nat.pow_succ,Nat.mul_zero,Nat.zero_add,Nat.add_mul,Nat.add_assoc]
    congr 1
    rw [Nat.mul_comm (10 ^ b.length) 10,← Nat.mul_assoc,Nat.mul_comm n 10]
 unfold Zak
 rw [List.foldl_append,key]
theorem Zdn {c:UInt8} (h:Zav c=true):48≤c.toNat∧c.toNat - 48≤9:=by
 unfold Zav at h
 simp at h
 omega
theorem ZfG (c:UInt8) (l:List UInt8):Zak (c :: l)=(c.toNat - 48) * 10 ^ l.length + Zak l:=by
 have:=ZeA [c] l
 simpa [Zak] using this
theorem Zb3:∀ (l:List UInt8),l.all Zav=true→Zak l < 10 ^ l.length
 | [],_=>by simp [Zak]
 | c :: l,h=>by
   rw [List.all_cons,Bool.and_eq_true] at h
   have h1:=Zb3 l h.2
   have h2:=Zdn h.1
   have h3:(c.toNat - 48) * 10 ^ l.length≤9 * 10 ^ l.length:=Nat.mul_le_mul_right _ h2.2
   rw [ZfG,List.length_cons,Nat.pow_succ]
   omega
def Zcc (xs:List Nat) (y q k:Nat) (m:List Nat) (c:Nat):Prop :=
 m.length=xs.length∧m.drop k=xs.drop k∧Dig W64 m∧c < W64∧val W64 (m.take k) + W64 ^ k * c=val W64 (xs.take k) * y + q
theorem Zcc.start {xs:List Nat} {y q:Nat} (h:Dig W64 xs) (hq:q < W64):Zcc xs y q 0 xs q:=⟨rfl,rfl,h,hq,by simp⟩
theorem Zcc.at {xs m:List Nat} {y q k c:Nat} (h:Zcc xs y q k m c):m[k]?.getD 0=xs[k]?.getD 0:=by
 have:=congrArg (fun l=>l[0]?.getD 0) h.2.1
 simpa [List.getElem?_drop] using this
theorem Zcc.step {xs m:List Nat} {y q k c z:Nat} (h:Zcc xs y q k m c) (hk:k < xs.length) (hz:m[k]?.getD 0=z) (hy:y < W64):Zcc xs y q (k + 1) (m.set k (maLo z y c)) (maHi z y c):=by
 have e1:xs[k]?.getD 0=z:=h.at.symm.trans hz
 obtain ⟨h1,h2,h3,h5,h4⟩:=h
 refine ⟨by simpa using h1,?_,h3.set k (Zjo _ _ _),ZfY (hz ▸ h3.getD Zah k) hy h5,?_⟩
 ·rw [List.drop_set_of_lt (by omega),← List.drop_drop,← List.drop_drop,h2]
 ·rw [ZaZ _ _ _ _ (by omega),Zay k hk,e1,Nat.pow_succ]
  have h6:=ZhH z y c
  have h7:=congrArg (W64 ^ k * ·) h6
  simp only [Nat.mul_add] at h7
  rw [Nat.add_mul,Nat.mul_assoc,Nat.mul_assoc]
  omega
theorem Zcc.done {xs m:List Nat} {y q c:Nat} (h:Zcc xs y q xs.length m c):val W64 m + W64 ^ xs.length * c=val W64 xs * y + q:=by
 obtain ⟨h1,h2,h3,h5,h4⟩:=h
 rwa [List.take_of_length_le (by omega),List.take_of_length_le (by omega)] at h4
theorem Znm {m:List Nat} (hd:Dig W64 m) (h:∀ k,m.length=k + 1→W64 ^ k≤val W64 m):Trim m:=by
 intro k hk h0
 have h1:=h k hk
 rw [ZaT (xs:=m) k,ZaI k (by omega),h0,List.drop_of_length_le (by omega:m.length≤k + 1)] at h1
 have h2:=Za1 (hd.take k)
 rw [List.length_take,Nat.min_eq_left (by omega)] at h2
 simp at h1
 omega
theorem Zcc.zero {xs m:List Nat} {y q:Nat} (h:Zcc xs y q xs.length m 0) (ht:Trim xs) (hy:1≤y):Trim m∧val W64 m=val W64 xs * y + q:=by
 have h1:=h.done
 simp at h1
 refine ⟨Znm h.2.2.1 (fun k hk=>?_),h1⟩
 have h2:=ZgT (B:=W64) ht (k:=k) (by rw [← h.1]; exact hk)
 have h3:val W64 xs * 1≤val W64 xs * y:=Nat.mul_le_mul_left _ hy
 omega
theorem Zcc.more {xs m:List Nat} {y q c:Nat} (h:Zcc xs y q xs.length m c) (hc:c≠0):Trim (m ++ [c])∧Dig W64 (m ++ [c])∧val W64 (m ++ [c])=val W64 xs * y + q:=by
 refine ⟨?_,h.2.2.1.append (Dig.nil.cons h.2.2.2.1),?_⟩
 ·intro k hk
  have:k=m.length:=by simp at hk; omega
  subst this
  simpa using hc
 ·rw [ZbP,h.1,ZcV,Zdq,Nat.mul_zero,Nat.add_zero]
  exact h.done
theorem Buf.open_ {k:IntKind} {e:TypeId} {w:World} {A:Option Addr} {cap:Nat} {xs:List Nat} (h:Buf k e w A cap xs) (hne:xs≠[]):∃ b,A=some ⟨b,0,none⟩∧Own k e w b xs∧Zcn e w b cap∧xs.length≤cap∧cap≤maxLen:=by
 rcases h with ⟨_,h,_⟩ | h
 ·exact absurd h hne
 ·exact h
theorem Buf.set_ {k:IntKind} {e:TypeId} {w:World} {b cap:Nat} {xs:List Nat} (h:Own k e w b xs) (hC:Zcn e w b cap) (hl:xs.length≤cap) (hm:cap≤maxLen) (i v:Nat) (hi:i < xs.length):Buf k e (w.setCell ⟨b,i,none⟩ (.int k (v:Int))) (some ⟨b,0,none⟩) cap (xs.set i v) :=
 Or.inr ⟨b,rfl,h.set i v hi,hC.setCell b i _,by simpa using hl,hm⟩
def ZiR (w wr:World) (T:Nat) (d:ByteArray) (A:Option Addr) (cap:Nat) (xs:List Nat):Prop :=
 Buf .u64 141 wr A cap xs∧Dig W64 xs∧Trim xs∧val W64 xs * 10 ^ d.size + Zak (bytes d)=T∧(bytes d).all Zav=true∧Ext w wr∧∀ b,ZaC A b→w.heap.size≤b
theorem ZiR.len {w wr:World} {T:Nat} {d:ByteArray} {A:Option Addr} {cap:Nat} {xs:List Nat} (h:ZiR w wr T d A cap xs):xs.length≤wl T:=by
 obtain ⟨_,h1,h2,h3,_⟩:=h
 rw [ZaE h1 h2]
 apply ZaU
 have:val W64 xs * 1≤val W64 xs * 10 ^ d.size:=Nat.mul_le_mul_left _ (Nat.pow_pos (by omega))
 omega
theorem ZqM {n:Nat} (h:n≤19):10 ^ n≤10000000000000000000:=by
 have:10 ^ n≤10 ^ 19:=Nat.pow_le_pow_right (by omega) h
 exact this
set_option maxHeartbeats 4000000 in
theorem ZiS (d:ByteArray) (w:World) (T:Nat) (hd:(bytes d).all Zav=true) (hT:Zak (bytes d)=T) (hw:wl T≤1048576) (hl:d.size≤1099511627776) :
 Calls Tryz.prog 213 #[.string d] w (Za2 w T):=by
 have HD:=zh hd
 have HT:=zh hT
 clear hd hT
 have hcv:=fun (w:World) (s:ByteArray)=>Lib.run_convert_string_bytes (P:=Tryz.prog) w 9 191 5 s Tryz.underlying9 Tryz.underlying191 Tryz.underlying5
 go_enter Tryz.func213,Tryz.ntmps213
 go_wp2
 go_loopw [0,3] (fun v0 v3 wr=>∃ (d:ByteArray) (A:Option Addr) (cap:Nat) (xs:List Nat),v0=.string d∧v3=.slice A xs.length cap∧d.size≤1099511627776∧Hid (ZiR w wr T d A cap xs)) (fun v0 _ _=>match v0 with | .string d=>d.size | _=>0)
 case atStart=>exact ⟨d,none,0,[],rfl,rfl,hl,Buf.nil,Dig.nil,Trim.nil,by simpa using HT.out,HD.out,Fr.refl _ _,fun b hb=>by obtain ⟨a,ha,_⟩:=hb; cases ha⟩
 case round =>
  obtain ⟨d,A,cap,xs,rfl,rfl,hl,hR⟩:=hrel
  by_cases hpos:0 < d.size
  ·have hlen:=hR.out.len
   obtain ⟨n,hn⟩:∃ n,d.size=n:=⟨_,rfl⟩
   obtain ⟨z,hz⟩:∃ z,(n - 1) % 19=z:=⟨_,rfl⟩
   have hz18:z≤18:=by omega
   have hzn:z + 1≤n:=by have:=Nat.mod_le (n - 1) 19; omega
   have e1:((n:Int) - 1) % 19=(z:Int):=by omega
   have hn1:(1:Int)≤(n:Int):=by omega
   have hn2:(0:Int)≤(n:Int) - 1:=by omega
   have hzI:((z:Int) + 1)≤(n:Int):=by omega
   have hzT:((z:Int) + 1).toNat=z + 1:=by omega
   go_wp2_with fail
   have hes:(d.extract 0 (z + 1)).size=z + 1:=by rw [ByteArray.size_extract]; omega
   have hbs:bytes (d.extract 0 (z + 1))=(bytes d).take (z + 1):=by rw [ZbL]; simp
   have hext:Ext wr (Lib.bytesWorld wr 5 (d.extract 0 (z + 1))):=⟨rfl,rfl,rfl,by rw [Lib.bytesWorld_size]; omega,fun i hi _=>Lib.bytesWorld_at_old _ _ _ i hi⟩
   have hcel:∀ j,j < z + 1→(Lib.bytesWorld wr 5 (d.extract 0 (z + 1))).cell? ⟨wr.heap.size,j,none⟩=some (.int .u8 ((bytes d).getD j 0).toNat):=fun j hj=>by
    rw [Lib.bytesWorld_cell _ _ _ j (by omega)]
    have:(d.extract 0 (z + 1)).data.toList=(bytes d).take (z + 1):=hbs
    rw [this]
    simp [List.getElem?_take_of_lt hj]
   have hblt:wr.heap.size < (Lib.bytesWorld wr 5 (d.extract 0 (z + 1))).heap.size:=by rw [Lib.bytesWorld_size]; omega
   generalize Lib.bytesWorld wr 5 (d.extract 0 (z + 1))=wB at *
   have HX:=zh hext
   have HC:=zh hcel
   have Hn:=zh hn
   have Hz:=zh hz
   have hdl:Hid ((bytes d).length=n):=by unfold Hid; rw [Zaq]; exact hn
   clear hext hcel hes hbs hn hz
   go_loop [5,6,25] (fun v5 v6 v25=>∃ j c p:Nat,j≤z + 1∧v25=.int .i64 (j:Int)∧v5=.int .u64 (c:Int)∧v6=.int .u64 (p:Int)∧c < p∧p≤10000000000000000000∧Hid (c=Zak ((bytes d).take j)∧p=10 ^ j)) (fun _ _ v=>z + 1 - (intOf v).toNat)
   case atStart=>exact ⟨0,0,1,by omega,rfl,rfl,rfl,by omega,by omega,by unfold Hid; simp [Zak]⟩
   case round =>
    obtain ⟨j,c,p,hj,rfl,rfl,rfl,hcp,hp,hJ⟩:=hrel
    by_cases hlt:j < z + 1
    ·have hcj:=HC.out j hlt
     have hjn:j < (bytes d).length:=by rw [hdl.out]; omega
     have hdig:=Zdn (c:=(bytes d).getD j 0) (by
      rw [List.getD_eq_getElem?_getD,List.getElem?_eq_getElem hjn]
      exact List.all_eq_true.1 hR.out.2.2.2.2.1 _ (List.getElem_mem hjn))
     have hsn:Hid (Zak ((bytes d).take (j + 1))=10 * Zak ((bytes d).take j) + (((bytes d).getD j 0).toNat - 48)):=by
      unfold Hid
      rw [List.take_succ_eq_append_getElem hjn,ZdA,List.getD_eq_getElem?_getD,List.getElem?_eq_getElem hjn]
      rfl
     have hlt3:Hid (Zak ((bytes d).take (j + 1)) < 10 ^ (j + 1)):=by
      have h:=Zb3 ((bytes d).take (j + 1)) (by
       rw [List.all_eq_true]; intro x hx
       exact List.all_eq_true.1 hR.out.2.2.2.2.1 _ (List.mem_of_mem_take hx))
      rw [List.length_take,Nat.min_eq_left (by omega)] at h
      exact h
     have hp19:=ZqM (n:=j + 1) (by omega)
     rw [Nat.pow_succ,← hJ.out.2] at hp19
     generalize ((bytes d).getD j 0).toNat=x at *
     have f1:IntKind.u64.wrap (10 * (c:Int))=((10 * c:Nat):Int):=by
      rw [show 10 * (c:Int)=((10 * c:Nat):Int) by omega]; exact ZbI _ (by rw [Zan]; omega)
     have f2:IntKind.u8.wrap ((x:Int) - 48)=((x - 48:Nat):Int):=by
      rw [show (x:Int) - 48=((x - 48:Nat):Int) by omega,IntKind.wrap_u8]; omega
     have f3:IntKind.u64.wrap ((x - 48:Nat):Int)=((x - 48:Nat):Int):=ZbI _ (by rw [Zan]; omega)
     have f4:IntKind.u64.wrap (((10 * c:Nat):Int) + ((x - 48:Nat):Int))=((10 * c + (x - 48):Nat):Int):=ZbZ (by rw [Zan]; omega)
     have f5:IntKind.u64.wrap ((p:Int) * 10)=((p * 10:Nat):Int):=by
      rw [show (p:Int) * 10=((p * 10:Nat):Int) by omega]; exact ZbI _ (by rw [Zan]; omega)
     obtain ⟨c1,hc1⟩:∃ c1,10 * c=c1:=⟨_,rfl⟩
     obtain ⟨y,hy⟩:∃ y,x - 48=y:=⟨_,rfl⟩
     obtain ⟨c2,hc2⟩:∃ c2,c1 + y=c2:=⟨_,rfl⟩
     obtain ⟨p2,hp2⟩:∃ p2,p * 10=p2:=⟨_,rfl⟩
     have HN:Hid (c2=Zak ((bytes d).take (j + 1))∧p2=10 ^ (j + 1)):=by
      unfold Hid
      rw [hsn.out,← hJ.out.1,Nat.pow_succ,← hJ.out.2]
      omega
     have hc2p:c2 < p2:=by rw [HN.out.1,HN.out.2]; exact hlt3.out
     rw [hc1] at f1 f4
     rw [hy] at f2 f3 f4
     rw [hc2] at f4
     rw [hp2] at f5 hp19
     have hjB:wr.heap.size≠wB.heap.size:=by omega
     clear hc1 hy hc2 hp2 hdig hjn
     go_wp2
     go_round
     case rel=>exact ⟨j + 1,c2,p2,by omega,by go_num,rfl,rfl,hc2p,hp19,HN.out⟩
     case measure=>simp [intOf]; omega
    ·obtain rfl:j=z + 1:=by omega
     have hzd:z + 1≤d.size:=by rw [Hn.out]; exact hzn
     have hd2:bytes (d.extract (z + 1) d.size)=(bytes d).drop (z + 1):=by
      rw [ZbL,List.take_of_length_le (by rw [List.length_drop,Zaq]; exact Nat.le_refl _)]
     have hd2s:(d.extract (z + 1) d.size).size=d.size - (z + 1):=by rw [ByteArray.size_extract]; omega
     have Hd2:=zh hd2
     have Hd2s:=zh hd2s
     clear hd2 hd2s
     go_wp2_with fail
     have HR0:=zh hR.out.1
     have HDig:=zh hR.out.2.1
     have HTr:=zh hR.out.2.2.1
     have HEq:Hid (∀ m,val W64 m=val W64 xs * p + c→val W64 m * 10 ^ (d.extract (z + 1) d.size).size + Zak (bytes (d.extract (z + 1) d.size))=T):=by
      intro m hm
      rw [hm,Hd2s.out,Hd2.out,← hR.out.2.2.2.1]
      have h1:bytes d=(bytes d).take (z + 1) ++ (bytes d).drop (z + 1):=(List.take_append_drop _ _).symm
      conv=>rhs; rw [h1,ZeA,← hJ.out.1]
      rw [List.length_drop,Zaq,hJ.out.2,Nat.add_mul,Nat.mul_assoc,← Nat.pow_add,Nat.add_assoc]
      congr 3
      omega
     have HAll:Hid ((bytes (d.extract (z + 1) d.size)).all Zav=true):=by
      unfold Hid
      rw [Hd2.out,List.all_eq_true]
      intro x hx
      exact List.all_eq_true.1 hR.out.2.2.2.2.1 _ (List.mem_of_mem_drop hx)
     have HE0:=zh hR.out.2.2.2.2.2.1
     have HN0:=zh hR.out.2.2.2.2.2.2
     have hd2l:(d.extract (z + 1) d.size).size≤1099511627776:=by rw [Hd2s.out]; omega
     have hmeas:Hid ((d.extract (z + 1) d.size).size < d.size):=by rw [Hid,Hd2s.out]; omega
     generalize d.extract (z + 1) d.size=d2 at *
     have hxb:=hlen
     have HcW:Hid (c < W64):=by unfold Hid; rw [Zan]; omega
     have HpW:Hid (p < W64):=by unfold Hid; rw [Zan]; omega
     have Hp1:Hid (1≤p):=by unfold Hid; omega
     go_loopw [9,44] (fun v9 v44 wx=>∃ (k q:Nat) (m:List Nat),k≤xs.length∧v44=.int .i64 (k:Int)∧v9=.int .u64 (q:Int)∧Hid (Zcc xs p c k m q)∧Hid (Buf .u64 141 wx A cap m)∧Hid (Fr (ZaC A) wB wx)) (fun _ v _=>xs.length - (intOf v).toNat)
     case atStart=>exact ⟨0,c,xs,by omega,rfl,rfl,Zcc.start HDig.out HcW.out,HR0.out.ext HX.out,Fr.refl _ _⟩
     case round =>
      obtain ⟨k,q,m,hk,rfl,rfl,hM,hB,hF⟩:=hrel
      have hml:m.length=xs.length:=hM.out.1
      by_cases hlt:k < xs.length
      ·obtain ⟨b,rfl,hO,hC,hmc,hcm⟩:=hB.out.open_ (by intro e; rw [e] at hml; simp at hml; omega)
       obtain ⟨y,hy⟩:∃ y,m[k]?.getD 0=y:=⟨_,rfl⟩
       have hcell:=hO.cell (i:=k) (by omega)
       rw [hy] at hcell
       have hfrz:=hO.frozen k
       have HyW:Hid (y < W64):=hy ▸ hM.out.2.2.1.getD Zah k
       have HM2:=zh (hM.out.step hlt hy HpW.out)
       have HB2:=fun v=>Buf.set_ hO hC hmc hcm k v (by omega)
       have HBh:=zh HB2
       have HqW:=zh hM.out.2.2.2.1
       have hblt2:=hO.lt
       have hbne:b≠wr.heap.size:=by omega
       have Hml:=zh hml
       clear hO hC hmc hcm hy HB2 hml
       go_wp2_with (go_at_call 218; refine (ZbB y p q _ HyW.out HpW.out HqW.out).mono ?_; rintro e w' ⟨rfl,rfl⟩)
       go_roundw
       case rel=>exact ⟨k + 1,_,_,by omega,by go_num,rfl,HM2.out,HBh.out _,hF.out.setCell (p:=⟨b,k,none⟩) (Or.inl ⟨_,rfl,rfl⟩) _⟩
       case measure=>simp [intOf]; omega
      ·obtain rfl:k=xs.length:=by omega
       have HEx:Hid (Ext w wr):=(HE0.out.trans HX.out).next hF.out (fun i hi hb=>by have:=HN0.out i hb; omega)
       by_cases hq:q=0
       ·subst hq
        obtain ⟨h1,h2⟩:=hM.out.zero HTr.out Hp1.out
        have HNew:Hid (ZiR w wr T d2 A cap m):=⟨hB.out,hM.out.2.2.1,h1,HEq.out m h2,HAll.out,HEx.out,HN0.out⟩
        have Hml:=zh hml
        clear h1 h2 hml
        go_wp2
        go_roundw
        case rel=>exact ⟨d2,A,cap,m,rfl,by rw [Hml.out],hd2l,HNew.out⟩
        case measure=>exact hmeas.out
       ·have hq':((q:Int) != 0)=true:=by simp; omega
        obtain ⟨h1,h2,h3⟩:=hM.out.more hq
        have HNum:Hid (Trim (m ++ [q])∧Dig W64 (m ++ [q])∧val W64 (m ++ [q])=val W64 xs * p + c):=⟨h1,h2,h3⟩
        have Hml:=zh hml
        have hSh:Hid (Zae .u64 (wr.alloc (.cells #[.int .u64 (q:Int)] 141)) (some ⟨wr.heap.size,0,none⟩) [q]):=(Own.new wr 141 .u64 [q] []).shows0
        clear h1 h2 h3 hml hq
        go_wp2_with (at_builtin; refine Hid.out ?_)
        refine zh ?_
        refine Za9 rfl _ _ _ rfl _ .u64 8 Tryz.underlying106 Zc3 A (some ⟨wr.heap.size,0,none⟩) xs.length 1 cap 1 rfl rfl m [q] Hml.out rfl (hB.out.ext ((Fr.refl _ _).alloc _)) hSh.out (by simp only [maxLen]; omega) (by omega) ?_
        intro A1 cap1 w2 hB1 hF1 hA1
        have HNew:Hid (ZiR w w2 T d2 A1 cap1 (m ++ [q])):=by
         refine ⟨hB1,HNum.out.2.1,HNum.out.1,HEq.out _ HNum.out.2.2,HAll.out,?_,?_⟩
         ·exact (HEx.out.alloc _).next hF1 (fun i hi hb=>by have:=HN0.out i hb; omega)
         ·intro b hb
          rcases hA1 b hb with h | h
          ·exact HN0.out b h
          ·have:=HEx.out.size; simp at h; omega
        clear hB1 hF1 hA1
        go_wp2
        go_roundw
        case rel=>exact ⟨d2,A1,cap1,m ++ [q],rfl,by rw [List.length_append,Hml.out]; rfl,hd2l,HNew.out⟩
        case measure=>exact hmeas.out
  ·have h0:d.size=0:=by omega
   obtain ⟨hB,hD,hTr,hV,_,Q,hN⟩:=hR.out
   have hb0:bytes d=[]:=List.length_eq_zero_iff.1 (by rw [Zaq]; exact h0)
   rw [h0,hb0,Nat.pow_zero,Nat.mul_one] at hV
   have HB:=zh hB
   have HD2:=zh hD
   have HTr:=zh hTr
   have HV:Hid (val W64 xs=T):=by unfold Hid; rw [← hV]; rfl
   have HE:=zh Q
   clear hB hD hTr hV Q hN h0 hb0
   go_wp2
   go_ret
   exact ⟨_,rfl,⟨A,xs,cap,rfl,HB.out.len,HB.out.shows,HD2.out,HTr.out,HV.out⟩,HE.out⟩
end Go.Proofs.YtenchljfmfgeoaaGreatDoor

namespace Go.Proofs.YtenchljfmfgeoaaGreatDoor
open Go.RowKit
set_option maxHeartbeats 1000000 in
theorem Zjr (d:ByteArray) (w:World) (T:Nat) (hd:(bytes d).all Zav=true) (hT:Zak (bytes d)=T) (hw:wl T≤1048576) (hl:d.size≤1099511627776) :
 Calls Tryz.prog 183 #[.string d, .slice none 0 0] w (Za2 w T):=by
 have HD:=zh hd
 have HT:=zh hT
 clear hd hT
 go_enter Tryz.func183,Tryz.ntmps183
 go_wp2
 go_loop [5] (fun v=>v=.int .i64 (-1)) (fun _=>0)
 case atStart=>rfl
 case round =>
  subst hrel
  go_wp2_with fail
  refine (ZiS d _ T HD.out HT.out hw hl).mono ?_
  rintro e w1 ⟨u1,rfl,hN,hF⟩
  have HN:=zh hN
  have HF:=zh hF
  clear hN hF
  go_wp2
  go_ret
  exact ⟨_,rfl,HN.out,HF.out⟩
theorem Ze5 {n k m:Nat} (h:n < 10 ^ k) (hk:k≤m):wl n≤m:=by
 rw [ZbC]
 have h1:10 ^ k≤W64 ^ k:=Nat.pow_le_pow_left (by rw [Zan]; omega) k
 have h2:W64 ^ k≤W64 ^ m:=Nat.pow_le_pow_right Zah hk
 exact Nat.lt_of_lt_of_le h (Nat.le_trans h1 h2)
def Zgi (n:Nat):Prop:=n≤570
set_option maxHeartbeats 1000000 in
theorem Zjs (d:ByteArray) (w:World) (hd:(bytes d).all Zav=true) (hl:Zgi d.size) :
 Calls Tryz.prog 155 #[.string d] w (Za2 w (Zak (bytes d))):=by
 unfold Zgi at hl
 have hw:wl (Zak (bytes d))≤1048576:=Ze5 (by have:=Zb3 (bytes d) hd; rw [Zaq] at this; exact this) (by omega)
 generalize hT:Zak (bytes d)=T at *
 have HD:=zh hd
 have HT:=zh hT
 clear hd hT
 go_enter Tryz.func155,Tryz.ntmps155
 go_wp2_with fail
 refine (Zjr d _ T HD.out HT.out hw (by omega)).mono ?_
 rintro e w1 ⟨u1,rfl,hN,hF⟩
 have HN:=zh hN
 have HF:=zh hF
 clear hN hF
 go_wp2
 go_ret
 exact ⟨_,rfl,HN.out,HF.out⟩
set_option maxHeartbeats 1000000 in
theorem Zha (d:ByteArray) (w:World) (hd:(bytes d).all Zav=true) (hl:Zgi d.size) :
 Calls Tryz.prog 105 #[.string d] w (ZiP w (Zak (bytes d):Int)):=by
 generalize hT:Zak (bytes d)=T
 have HD:=zh hd
 have HL:=zh hl
 have HT:=zh hT
 clear hd hT hl
 go_enter Tryz.func105,Tryz.ntmps105
 go_wp2_with fail
 generalize hwb:World.alloc w _=wb
 have HBr:Hid (Blk 160 wb w.heap.size #[.bool false, .slice none 0 0]):=hwb ▸ Blk.new _ _ _
 have HE:Hid (Ext w wb):=hwb ▸ (Fr.refl _ _).alloc _
 clear hwb
 refine (Zjs d _ HD.out HL.out).mono ?_
 rw [HT.out]
 rintro e w1 ⟨u1,rfl,hN1,hF1⟩
 obtain ⟨A1,l1,c1,rfl⟩:=hN1.slice
 obtain ⟨z0,z1,z2,z3⟩:=(HBr.out.ext hF1).cell2
 have HN1:=zh hN1
 have HF1:=zh hF1
 clear hN1 hF1
 go_wp2
 exact Zmq (neg:=false) rfl rfl (by omega) HE.out HBr.out HF1.out HN1.out rfl rfl
end Go.Proofs.YtenchljfmfgeoaaGreatDoor

namespace Go.Proofs.YtenchljfmfgeoaaGreatDoor
open Go.RowKit
def Zms (cs:Array Value):Prop:=∀ (i:Nat) (k:Int),cs[i]? ≠ some (.int .u64 k)
theorem Zad.other {t:TypeId} {w w':World} {r n:Nat} {u:Value} {cs:Array Value} (h:Zad w u n) (hB:Blk t w r cs) (hc:Zms cs) (hF:Fr (fun i=>i=r) w w'):Zad w' u n:=by
 obtain ⟨A',xs,c',h1,h2,h3,h4⟩:=h
 refine ⟨A',xs,c',h1,h2,?_,h4⟩
 cases xs with
 | nil=>exact Zae.nil
 | cons x xs =>
   refine h3.fr hF (fun ad hA hlt e=>?_)
   obtain ⟨g,off,e',_,hcl⟩:=h3.at (i:=0) (by simp)
   rw [e'] at hA
   injection hA with hA
   subst hA
   simp at e
   subst e
   rw [hB.cell] at hcl
   exact hc _ _ hcl
theorem Blk.cell4 {t:TypeId} {w:World} {g:Nat} {x y z u:Value} (h:Blk t w g #[x,y,z,u]):w.cell? ⟨g,0,none⟩=some x∧w.cell? ⟨g,1,none⟩=some y∧w.cell? ⟨g,2,none⟩=some z∧w.cell? ⟨g,3,none⟩=some u∧w.frozen? ⟨g,0,none⟩=false∧w.frozen? ⟨g,1,none⟩=false∧w.frozen? ⟨g,2,none⟩=false∧w.frozen? ⟨g,3,none⟩=false :=
 ⟨h.cell 0,h.cell 1,h.cell 2,h.cell 3,h.frozen 0,h.frozen 1,h.frozen 2,h.frozen 3⟩
def denF (q:Rat):Int:=if q.den=1 then 0 else (q.den:Int)
def Za0 (l:List UInt8):Option Rat :=
 match ZaY l with
 | (_,_,_,false)=>none
 | (neg,num,den,true) =>
   if den=[] then some ((sg neg (Zak num):Int):Rat)
   else if Nat.gcd (Zak num) (Zak den)=1 then some (mkRat (sg neg (Zak num)) (Zak den)) else none
theorem ZbV {p:UInt8→Bool} (l:List UInt8):(l.takeWhile p).all p=true:=by
 induction l with
 | nil=>rfl
 | cons x l ih =>
   rw [List.takeWhile_cons]
   split
   ·rename_i h; simp [h]
   ·rfl
theorem ZdC {l num den:List UInt8} {neg ok:Bool} (h:ZaY l=(neg,num,den,ok)):num.all Zav=true∧den.all Zav=true∧num.length + den.length≤l.length:=by
 have hle:(Zaz l).2.length≤l.length:=by unfold Zaz; split<;>simp
 have hsum:((Zaz l).2.takeWhile Zav).length + ((Zaz l).2.dropWhile Zav).length=(Zaz l).2.length:=by
  rw [← List.length_append,List.takeWhile_append_dropWhile]
 have hden:=(List.takeWhile_sublist Zav (l:=((Zaz l).2.dropWhile Zav).tail)).length_le
 have htl:((Zaz l).2.dropWhile Zav).tail.length≤((Zaz l).2.dropWhile Zav).length:=by simp
 unfold ZaY at h
 simp only [] at h
 split at h
 ·injection h with _ h; injection h with h1 h; injection h with h2 _; subst h1 h2
  exact ⟨ZbV _,rfl,by simp; omega⟩
 split at h
 ·injection h with _ h; injection h with h1 h; injection h with h2 _; subst h1 h2
  exact ⟨ZbV _,rfl,by simp; omega⟩
 split at h
 ·injection h with _ h; injection h with h1 h; injection h with h2 _; subst h1 h2
  exact ⟨ZbV _,rfl,by simp; omega⟩
 split at h
 ·injection h with _ h; injection h with h1 h; injection h with h2 _; subst h1 h2
  exact ⟨ZbV _,rfl,by simp; omega⟩
 ·injection h with _ h; injection h with h1 h; injection h with h2 _; subst h1 h2
  exact ⟨ZbV _,ZbV _,by omega⟩
theorem Zgj {l:List UInt8} (hd:l.all Zav=true) (h0:l≠[]) (h48:l.head? ≠ some 48):1≤Zak l∧(2≤Zak l∨l=[49]):=by
 cases l with
 | nil=>exact absurd rfl h0
 | cons c l =>
   rw [List.all_cons,Bool.and_eq_true] at hd
   have h1:=Zdn hd.1
   have h2:c.toNat≠48:=fun e=>h48 (by simp; exact UInt8.toNat.inj e)
   rw [ZfG]
   have hp:1≤10 ^ l.length:=Nat.pow_pos (by omega)
   have h3:1 * 10 ^ l.length≤(c.toNat - 48) * 10 ^ l.length:=Nat.mul_le_mul_right _ (by omega)
   refine ⟨by omega,?_⟩
   cases l with
   | nil =>
     by_cases e:c.toNat=49
     ·right; rw [UInt8.toNat.inj (a:=c) (b:=49) e]
     ·left; simp [Zak]; omega
   | cons d l =>
     left
     rw [List.length_cons,Nat.pow_succ] at h3 ⊢
     have hp:1≤10 ^ l.length:=Nat.pow_pos (by omega)
     omega
theorem ZiT {l num den:List UInt8} {neg:Bool} (h:ZaY l=(neg,num,den,true)):(den≠[]→2≤Zak den)∧(Zak num=0→neg=false∧den=[]):=by
 have hdg:=ZdC h
 unfold ZaY at h
 simp only [] at h
 split at h
 ·rename_i h48
  injection h with h0 h; injection h with h1 h; injection h with h2 h3; subst h0 h1 h2
  simp at h3
  exact ⟨fun h=>absurd rfl h,fun _=>⟨h3.1,rfl⟩⟩
 rename_i n48
 split at h
 ·injection h with _ h; injection h with h1 h; injection h with h2 h3; cases h3
 rename_i hn
 have hpos:Zak ((Zaz l).2.takeWhile Zav)≠0:=by
  have:=(Zgj (ZbV (p:=Zav) (Zaz l).2) (fun e=>hn (Or.inl e)) (fun e=>hn (Or.inr e))).1
  omega
 split at h
 ·injection h with _ h; injection h with h1 h; injection h with h2 _; subst h1 h2
  exact ⟨fun h=>absurd rfl h,fun e=>absurd e hpos⟩
 split at h
 ·injection h with _ h; injection h with h1 h; injection h with h2 h3; cases h3
 ·injection h with _ h; injection h with h1 h; injection h with h2 h3; subst h1
  rw [h2] at h3
  simp at h3
  refine ⟨fun hne=>?_,fun e=>absurd e hpos⟩
  rcases (Zgj hdg.2.1 hne h3.1.2).2 with h | h
  ·exact h
  ·exact absurd h h3.2
end Go.Proofs.YtenchljfmfgeoaaGreatDoor

namespace Go.Proofs.YtenchljfmfgeoaaGreatDoor
open Go.RowKit
theorem Zl2 {z:Int} {d:Nat} (hd:2≤d) (hg:Nat.gcd z.natAbs d=1):(mkRat z d).num=z∧denF (mkRat z d)=(d:Int):=by
 have h1:mkRat z d=⟨z,d,by omega,hg⟩:=by
  rw [← Rat.normalize_eq_mkRat (by omega)]
  exact Rat.normalize_eq_mk' z d (by omega) hg
 rw [h1]
 refine ⟨rfl,?_⟩
 unfold denF
 simp
 omega
end Go.Proofs.YtenchljfmfgeoaaGreatDoor

namespace Go.Proofs.YtenchljfmfgeoaaGreatDoor
theorem Zlf {q:Rat} (h:q.den=1):denF q=0:=by unfold denF; rw [if_pos h]
theorem Ze6 {q:Rat} (h:¬ q.den=1):denF q=(q.den:Int):=by unfold denF; rw [if_neg h]
end Go.Proofs.YtenchljfmfgeoaaGreatDoor

namespace Go.Proofs.YtenchljfmfgeoaaGreatDoor
open Go.RowKit Go.Sort
end Go.Proofs.YtenchljfmfgeoaaGreatDoor

namespace Go.Proofs.YtenchljfmfgeoaaGreatDoor
open Go.RowKit Go.Sort
section
variable {w wr w2:World} {A:Option Addr} {L:List UInt8} {cs:List Nat} {Ac:Option Addr} {cc bb t:Nat} {bs:List Nat} {A' A2:Option Addr} {cap' cap2:Nat}
end
end Go.Proofs.YtenchljfmfgeoaaGreatDoor

namespace Go.Proofs.YtenchljfmfgeoaaGreatDoor
open Go.RowKit Go.Sort
end Go.Proofs.YtenchljfmfgeoaaGreatDoor

namespace Go.Proofs.YtenchljfmfgeoaaGreatDoor
open Go.RowKit
theorem Zqb {a p:Nat}:(a:Int).tmod (p:Int)=((a % p:Nat):Int):=by
 rw [Int.tmod_eq_emod_of_nonneg (by omega),Int.natCast_emod]
end Go.Proofs.YtenchljfmfgeoaaGreatDoor

namespace Go.Proofs.YtenchljfmfgeoaaGreatDoor
open Go.RowKit
theorem Zls {c:UInt8} (h:Zav c=true):48≤c.toNat∧c.toNat≤57:=by
 unfold Zav at h
 simpa using h
theorem Zl9 {s:ByteArray} (h:(bytes s).all Zav=true) {k:Nat} (hk:k < s.size):Zav s[k]=true:=by
 have h1:=List.all_eq_true.1 h ((bytes s)[k]'(by rw [Zaq]; exact hk)) (List.getElem_mem _)
 rwa [Zii s hk] at h1
set_option maxHeartbeats 1000000 in
theorem Zfs (s:ByteArray) (w:World) (hd:(bytes s).all Zav=true) (hs:s.size≤9) :
 Calls Tryz.prog 152 #[.string s] w fun e w'=>e=.returned (.int .i64 (Zak (bytes s):Int))∧w=w':=by
 have HD:=zh hd
 clear hd
 go_enter Tryz.func152,Tryz.ntmps152
 go_wp2
 go_loop [3,7] (fun n i=>∃ k m:Nat,k≤s.size∧i=.int .i64 (k:Int)∧n=.int .i64 (m:Int)∧m≤1000000000∧Hid (m=Zak ((bytes s).take k))) (fun _ i=>s.size - (intOf i).toNat)
 case atStart=>exact ⟨0,0,Nat.zero_le _,rfl,rfl,by omega,by unfold Hid; simp [Zak]⟩
 case round =>
  obtain ⟨k,m,hk,rfl,rfl,hm,hM⟩:=hrel
  by_cases hlt:k < s.size
  ·have hb:=Zls (Zl9 HD.out hlt)
   have hts:=Zfl s k hlt
   have HM2:Hid (10 * m + (s[k].toNat - 48)=Zak ((bytes s).take (k + 1))):=by
    unfold Hid; rw [hts,ZdA,← hM.out]
   have hlt2:Zak ((bytes s).take (k + 1)) < 10 ^ ((bytes s).take (k + 1)).length:=Zb3 _ (by
    rw [List.all_eq_true]; intro x hx; exact List.all_eq_true.1 HD.out x (List.mem_of_mem_take hx))
   have hle:10 ^ ((bytes s).take (k + 1)).length≤10 ^ 9:=Nat.pow_le_pow_right (by omega) (by rw [List.length_take,Zaq]; omega)
   have hB2:10 * m + (s[k].toNat - 48)≤1000000000:=by
    rw [HM2.out]; omega
   have e1:IntKind.u8.wrap ((s[k].toNat:Int) - 48)=((s[k].toNat - 48:Nat):Int):=by rw [IntKind.wrap_u8]; omega
   have e1':((s[k].toNat:Int) - 48) % 256=((s[k].toNat - 48:Nat):Int):=by omega
   obtain ⟨d,ed⟩:∃ d,s[k].toNat - 48=d:=⟨_,rfl⟩
   rw [ed] at HM2 hB2 e1 e1'
   clear hts hlt2 hle
   go_wp2
   go_round
   case rel=>exact ⟨k + 1,10 * m + d,by omega,by go_num,by go_num,hB2,HM2⟩
   case measure=>simp [intOf]; omega
  ·have HF:Hid ((m:Nat)=Zak (bytes s)):=by
    have h:=hM.out
    rw [List.take_of_length_le (by rw [Zaq]; omega)] at h
    exact h
   go_wp2
   go_ret
   exact ⟨by rw [← HF.out]; rfl,rfl⟩
set_option maxHeartbeats 1000000 in
theorem Zo1 (a b:Nat) (w:World) (ha:a≤9223372036854775807) (hb:b≤9223372036854775807) :
 Calls Tryz.prog 153 #[.int .i64 (a:Int), .int .i64 (b:Int)] w fun e w'=>e=.returned (.int .i64 (Nat.gcd a b:Int))∧∃ n,w'=w.drewN n:=by
 obtain ⟨G,hG⟩:∃ G,Nat.gcd a b=G:=⟨_,rfl⟩
 rw [hG]
 have HG:=zh hG
 clear hG
 go_enter Tryz.func153,Tryz.ntmps153
 go_wp2
 go_loopw [0,1] (fun av bv wr=>∃ x y n:Nat,av=.int .i64 (x:Int)∧bv=.int .i64 (y:Int)∧x≤9223372036854775807∧y≤9223372036854775807∧Hid (Nat.gcd x y=G)∧wr=w.drewN n) (fun _ bv _=>(intOf bv).toNat)
 case atStart=>exact ⟨a,b,0,rfl,rfl,ha,hb,HG,rfl⟩
 case round =>
  obtain ⟨x,y,n,rfl,rfl,hx,hy,hR,rfl⟩:=hrel
  by_cases h0:y=0
  ·subst h0
   have HF:Hid (x=G):=by have:=hR.out; rwa [Nat.gcd_zero_right] at this
   go_wp2
   go_ret
   exact ⟨by rw [← HF.out]; rfl,n,rfl⟩
  ·have g1:((y:Int) != 0)=true:=by simp; omega
   have g2:((y:Int) == 0)=false:=by simp; omega
   have g3:y≠0:=h0
   have q1:(x:Int).tmod (y:Int)=((x % y:Nat):Int):=Zqb
   have q2:(x:Int) % (y:Int)=((x % y:Nat):Int):=rfl
   have hlt:x % y < y:=Nat.mod_lt _ (by omega)
   have HR2:Hid (Nat.gcd y (x % y)=G):=by
    unfold Hid; rw [← hR.out,Nat.gcd_comm x y,Nat.gcd_rec y x,Nat.gcd_comm]
   obtain ⟨r,er⟩:∃ r,x % y=r:=⟨_,rfl⟩
   rw [er] at q1 q2 hlt HR2
   clear er h0
   go_wp2_with fail
   go_region
   all_goals
    go_wp2
    go_roundw
    case rel=>exact ⟨y,r,n + 1,rfl,rfl,hy,by omega,HR2,rfl⟩
    case measure=>simp [intOf]; omega
end Go.Proofs.YtenchljfmfgeoaaGreatDoor

namespace Go.Proofs.YtenchljfmfgeoaaGreatDoor
open Go.RowKit
def ZeU (l:List UInt8) (a b:Int) (ok:Bool):Prop :=
 (ok=true∧∃ q:Rat,Za0 l=some q∧q.num=a∧(q.den:Int)=b ∧ -1000000000 < a∧a < 1000000000∧1≤b∧b < 1000000000)∨(ok=false∧a=0∧b=0)
def Zim (w:World) (l:List UInt8) (e:Ending) (w':World):Prop :=
 ∃ a b ok,e=.returned (.tuple #[.agg #[.int .i64 a, .int .i64 b], .bool ok])∧ZeU l a b ok∧Ext w w'
theorem ZcD {fn:Func} {tmps:Array Value} {w wz:World} {r:Nat} {a b:Int} {ok:Bool} {l:List UInt8} (hres:fn.results=#[.cell 2 152, .tmp 3]) (ht:tmps[2]? = some (.pointer (some ⟨r,0,none⟩))) (h3:tmps[3]? = some (.bool ok))
 (hB:Blk 152 wz r #[.int .i64 a, .int .i64 b]) (Q:Ext w wz) (hS:ZeU l a b ok):bodyPost Tryz.prog fn (Zim w l) .ret ⟨tmps,[]⟩ wz:=by
 obtain ⟨h0,h1,_,_⟩:=hB.cell2
 refine bodyPost_ret (v:=.tuple #[.agg #[.int .i64 a, .int .i64 b], .bool ok]) (by simp [results,hres,ht,h3,go_sem,h0,h1]) rfl ⟨a,b,ok,rfl,hS,Q⟩
theorem Zka {t:ByteArray} (hd:(bytes t).all Zav=true) (ht:t.size≤9):Zak (bytes t) < 1000000000:=by
 have h1:=Zb3 _ hd
 have h2:10 ^ (bytes t).length≤10 ^ 9:=Nat.pow_le_pow_right (by omega) (by rw [Zaq]; exact ht)
 omega
theorem Zma {l:List UInt8} {neg:Bool} {t d:ByteArray} (hS:ZaY l=(neg,bytes t,bytes d,true)) (hd:bytes d=[]) (hb:Zak (bytes t) < 1000000000):ZeU l (sg neg (Zak (bytes t))) 1 true:=by
 refine Or.inl ⟨rfl,((sg neg (Zak (bytes t)):Int):Rat),?_,rfl,rfl,?_,?_,by omega,by omega⟩
 ·unfold Za0; rw [hS]; simp only []; rw [if_pos hd]
 ·show _ < sg neg _
  unfold sg; split<;>omega
 ·show sg neg _ < _
  unfold sg; split<;>omega
theorem ZnG {l:List UInt8} {neg:Bool} {t d:ByteArray} (hS:ZaY l=(neg,bytes t,bytes d,true)) (hd:bytes d≠[]) (hg:Nat.gcd (Zak (bytes t)) (Zak (bytes d))=1) (hb:Zak (bytes t) < 1000000000) (hb2:Zak (bytes d) < 1000000000) :
 ZeU l (sg neg (Zak (bytes t))) (Zak (bytes d)) true:=by
 have h2:=(ZiT hS).1 hd
 have hn:(sg neg (Zak (bytes t))).natAbs=Zak (bytes t):=by unfold sg; split<;>omega
 obtain ⟨e1,e2⟩:=Zl2 (z:=sg neg (Zak (bytes t))) h2 (by rw [hn]; exact hg)
 refine Or.inl ⟨rfl,_,?_,e1,?_,?_,?_,by omega,by omega⟩
 ·unfold Za0; rw [hS]; simp only []; rw [if_neg hd,if_pos hg]
 ·unfold denF at e2
  split at e2
  ·omega
  ·exact e2
 ·unfold sg; split<;>omega
 ·unfold sg; split<;>omega
theorem ZdS {T:TypeId} {w w1:World} {r0:Nat} {x y:Value} (hB:Blk T w1 r0 #[x,y]) (Q:Ext w w1) (hr:w.heap.size=r0) (a b:Value) :
 Blk T ((w1.setCell ⟨r0,0,none⟩ a).setCell ⟨r0,1,none⟩ b) r0 #[a,b]∧Ext w ((w1.setCell ⟨r0,0,none⟩ a).setCell ⟨r0,1,none⟩ b) :=
 ⟨(hB.set_ 0 _).set_ 1 _,(Q.setCell (Or.inr (by rw [hr]; exact Nat.le_refl _)) _).setCell (Or.inr (by rw [hr]; exact Nat.le_refl _)) _⟩
set_option maxHeartbeats 2000000 in
theorem Zks (s:ByteArray) (w:World) (hs:s.size≤1099511627776):Calls Tryz.prog 103 #[.string s] w (Zim w (bytes s)):=by
 by_cases h20:20 < s.size
 ·go_enter Tryz.func103,Tryz.ntmps103
  go_wp2
  exact ZcD rfl rfl rfl (Blk.new w _ _) ((Fr.refl _ _).alloc _) (Or.inr ⟨rfl,rfl,rfl⟩)
 ·have hs20:decide ((20:Int) < (s.size:Int))=false:=by simp; omega
  go_enter Tryz.func103,Tryz.ntmps103
  go_wp2_with fail
  generalize hwb:World.alloc w _=wb
  have HB:Hid (Blk 152 wb w.heap.size #[.int .i64 0, .int .i64 0]):=hwb ▸ Blk.new _ _ _
  have HE:Hid (Ext w wb):=hwb ▸ (Fr.refl _ _).alloc _
  clear hwb
  refine (Zj0 s wb hs).mono ?_
  rintro e w1 ⟨neg,t,d,ok,rfl,hS,hF1⟩
  have HB1:=zh (HB.out.ext hF1)
  have HE1:=zh (HE.out.trans hF1)
  have HS:=zh hS
  obtain ⟨hd1,hd2,hd3⟩:=ZdC hS
  rw [Zaq,Zaq,Zaq] at hd3
  have HT:=zh hd1
  have HD:=zh hd2
  clear HB HE hF1 hS hd1 hd2
  generalize hR0:w.heap.size=r0 at *
  have hr0:=HB1.out.lt
  have HR0:=zh hR0
  clear hR0
  obtain ⟨x0,x1,x2,x3⟩:=HB1.out.cell2
  have HN0:Hid (Blk 152 (((w1.setCell ⟨r0,0,none⟩ (.int .i64 0)).setCell ⟨r0,1,none⟩ (.int .i64 0)).alloc (.cells #[.bool neg, .string t, .string d] 156)) r0 #[.int .i64 0, .int .i64 0]∧Ext w (((w1.setCell ⟨r0,0,none⟩ (.int .i64 0)).setCell ⟨r0,1,none⟩ (.int .i64 0)).alloc (.cells #[.bool neg, .string t, .string d] 156))) :=
   ⟨((HB1.out.set_ 0 _).set_ 1 _).alloc _,((HE1.out.setCell (Or.inr (by rw [HR0.out]; exact Nat.le_refl _)) _).setCell (Or.inr (by rw [HR0.out]; exact Nat.le_refl _)) _).alloc _⟩
  cases ok with
  | false =>
    go_wp2
    exact ZcD rfl rfl rfl HN0.out.1 HN0.out.2 (Or.inr ⟨rfl,rfl,rfl⟩)
  | true =>
    by_cases ht9:9 < t.size
    ·go_wp2
     exact ZcD rfl rfl rfl HN0.out.1 HN0.out.2 (Or.inr ⟨rfl,rfl,rfl⟩)
    ·have hT9:decide ((9:Int) < (t.size:Int))=false:=by simp; omega
     by_cases hd9:9 < d.size
     ·go_wp2
      exact ZcD rfl rfl rfl HN0.out.1 HN0.out.2 (Or.inr ⟨rfl,rfl,rfl⟩)
     ·have hD9:decide ((9:Int) < (d.size:Int))=false:=by simp; omega
      clear HN0
      go_wp2_with fail
      have HV:=zh (fun W=>Zfs t W HT.out (by omega))
      have HV2:=zh (fun W=>Zfs d W HD.out (by omega))
      have hb1:=Zka HT.out (by omega)
      have hb2:=Zka HD.out (by omega)
      have HW:=zh (fun (h:bytes d=[])=>Zma HS.out h hb1)
      have HFr:=zh (fun (h:bytes d≠[]) hg=>ZnG HS.out h hg hb1 hb2)
      generalize Zak (bytes t)=nt at *
      generalize Zak (bytes d)=nd at *
      refine (HV.out _).mono ?_
      rintro e w2 ⟨rfl,rfl⟩
      by_cases hd0:bytes d=[]
      ·have hd1:d.toList=[]:=by rw [Lib.toList_data]; exact hd0
       have hd2:(!d.toList.isEmpty)=false:=by rw [hd1]; rfl
       cases neg with
       | false =>
         have hP:=ZdS HB1.out HE1.out HR0.out (.int .i64 (nt:Int)) (.int .i64 1)
         have HP:=zh hP
         clear hP
         go_wp2
         exact ZcD rfl rfl rfl ((HP.out.1.alloc _).alloc _) ((HP.out.2.alloc _).alloc _) (HW.out hd0)
       | true =>
         have hP:=ZdS HB1.out HE1.out HR0.out (.int .i64 (-(nt:Int))) (.int .i64 1)
         have HP:=zh hP
         clear hP
         go_wp2
         exact ZcD rfl rfl rfl ((HP.out.1.alloc _).alloc _) ((HP.out.2.alloc _).alloc _) (HW.out hd0)
      ·have hd1:d.toList≠[]:=by rw [Lib.toList_data]; exact hd0
       have hd2:d.toList.isEmpty=false:=by simpa using hd1
       go_wp2_with fail
       refine (HV2.out _).mono ?_
       rintro e w3 ⟨rfl,rfl⟩
       have HGc:=zh (fun W=>Zo1 nt nd W (by omega) (by omega))
       obtain ⟨G,hG⟩:∃ G,Nat.gcd nt nd=G:=⟨_,rfl⟩
       rw [hG] at HGc
       have HGG:=zh hG
       clear hG
       go_wp2_with fail
       refine (HGc.out _).mono ?_
       rintro e w3 ⟨rfl,n3,rfl⟩
       by_cases hG1:G=1
       ·have hg1:((G:Int) != 1)=false:=by simp; omega
        have HSf:=zh (HFr.out hd0 (by rw [HGG.out,hG1]))
        cases neg with
        | false =>
          go_wp2
          exact ZcD rfl rfl rfl (ZdS (((HB1.out.alloc _).alloc _).drewN n3) (((HE1.out.alloc _).alloc _).drewN n3) HR0.out _ _).1 (ZdS (((HB1.out.alloc _).alloc _).drewN n3) (((HE1.out.alloc _).alloc _).drewN n3) HR0.out _ _).2 HSf.out
        | true =>
          go_wp2
          refine ZcD rfl rfl rfl (ZdS (w:=w) ((((HB1.out.alloc _).alloc _).drewN n3).far (by show r0≠w1.heap.size + 1; omega) _) ?_ HR0.out _ _).1 (ZdS ((((HB1.out.alloc _).alloc _).drewN n3).far (by show r0≠w1.heap.size + 1; omega) _) ?_ HR0.out _ _).2 HSf.out
          ·exact (((HE1.out.alloc _).alloc _).drewN n3).setCell (Or.inr (by have:=HE1.out.size; show _≤w1.heap.size + 1; omega)) _
          ·exact (((HE1.out.alloc _).alloc _).drewN n3).setCell (Or.inr (by have:=HE1.out.size; show _≤w1.heap.size + 1; omega)) _
       ·have hg1:((G:Int) != 1)=true:=by simp; omega
        go_wp2
        exact ZcD rfl rfl rfl (ZdS (((HB1.out.alloc _).alloc _).drewN n3) (((HE1.out.alloc _).alloc _).drewN n3) HR0.out _ _).1 (ZdS (((HB1.out.alloc _).alloc _).drewN n3) (((HE1.out.alloc _).alloc _).drewN n3) HR0.out _ _).2 (Or.inr ⟨rfl,rfl,rfl⟩)
end Go.Proofs.YtenchljfmfgeoaaGreatDoor

namespace Go.Proofs.YtenchljfmfgeoaaGreatDoor
open Go.RowKit
theorem pu10:∀ (l:List UInt8) (acc:Nat),l.all Zav=true→acc * 10 ^ l.length + Zak l < 18446744073709551616→Lib.parseUint10 acc l=.ok (acc * 10 ^ l.length + Zak l)
 | [],acc,_,_=>by simp [Lib.parseUint10,Zak]
 | c :: l,acc,h,hb=>by
   simp only [List.all_cons,Bool.and_eq_true] at h
   obtain ⟨h1,h2⟩:=Zdn h.1
   have hp:0 < 10 ^ l.length:=Nat.pow_pos (by decide)
   have e:acc * 10 ^ (c :: l).length + Zak (c :: l)=(acc * 10 + (c.toNat - 48)) * 10 ^ l.length + Zak l:=by
    rw [ZfG,List.length_cons,Nat.pow_succ,Nat.add_mul,Nat.mul_assoc,Nat.mul_comm 10 (10 ^ l.length),Nat.add_assoc]
   rw [e] at hb ⊢
   have h3:(acc * 10 + (c.toNat - 48)) * 1≤(acc * 10 + (c.toNat - 48)) * 10 ^ l.length:=Nat.mul_le_mul_left _ hp
   have ih:=pu10 l (acc * 10 + (c.toNat - 48)) h.2 hb
   rw [Lib.parseUint10,if_pos ⟨h1,by omega⟩,if_neg (by omega),if_neg (by omega)]
   exact ih
structure PaR (T:Nat) (d:List UInt8) (xs:List Nat):Prop where
 dig:Dig W64 xs
 trim:Trim xs
 eq:val W64 xs * 10 ^ d.length + Zak d=T
 all:d.all Zav=true
 by19:xs=[]∨d.length % 19=0
theorem PaR.start {T:Nat} {d:List UInt8} (h:d.all Zav=true) (hT:Zak d=T):PaR T d []:=⟨Dig.nil,Trim.nil,by simpa using hT,h,Or.inl rfl⟩
theorem PaR.len {T:Nat} {d:List UInt8} {xs:List Nat} (h:PaR T d xs):xs.length≤wl T:=by
 rw [ZaE h.dig h.trim]
 apply ZaU
 have:val W64 xs * 1≤val W64 xs * 10 ^ d.length:=Nat.mul_le_mul_left _ (Nat.pow_pos (by decide))
 have:=h.eq
 omega
theorem PaR.done {T:Nat} {xs:List Nat} (h:PaR T [] xs):val W64 xs=T:=by
 have:=h.eq
 simpa [Zak] using this
theorem PaR.chunk {T z:Nat} {d:List UInt8} {xs:List Nat} (h:PaR T d xs) (hd:0 < d.length) (hz:(d.length - 1) % 19=z):Zak (d.take (z + 1)) < 10000000000000000000:=by
 have h1:=Zb3 (d.take (z + 1)) (by
  rw [List.all_eq_true]; intro x hx
  exact List.all_eq_true.1 h.all _ (List.mem_of_mem_take hx))
 have h2:=Nat.mod_le (d.length - 1) 19
 rw [List.length_take,Nat.min_eq_left (by omega)] at h1
 have:=ZqM (n:=z + 1) (by omega)
 omega
theorem PaR.step {T z c:Nat} {d:List UInt8} {xs m:List Nat} (h:PaR T d xs) (hd:0 < d.length) (hz:(d.length - 1) % 19=z) (hM:Zcc xs 10000000000000000000 (Zak (d.take (z + 1))) xs.length m c) :
 PaR T (d.drop (z + 1)) (if c=0 then m else m ++ [c]):=by
 have h2:=Nat.mod_le (d.length - 1) 19
 have key:(val W64 xs * 10000000000000000000 + Zak (d.take (z + 1))) * 10 ^ (d.drop (z + 1)).length + Zak (d.drop (z + 1))=T:=by
  have h1:d=d.take (z + 1) ++ d.drop (z + 1):=(List.take_append_drop _ _).symm
  have h3:=h.eq
  have h4:val W64 xs * 10000000000000000000=val W64 xs * 10 ^ (z + 1):=by
   rcases h.by19 with e | e
   ·rw [e]; simp
   ·rw [show z + 1=19 by omega]
  rw [h4,← h3]
  conv=>rhs; rw [h1,ZeA]
  rw [Nat.add_mul,Nat.mul_assoc,← Nat.pow_add,Nat.add_assoc]
  congr 3
  rw [List.length_append,List.length_take,Nat.min_eq_left (by omega)]
 have hall:(d.drop (z + 1)).all Zav=true:=by
  rw [List.all_eq_true]; intro x hx
  exact List.all_eq_true.1 h.all _ (List.mem_of_mem_drop hx)
 have h19:(d.drop (z + 1)).length % 19=0:=by rw [List.length_drop]; omega
 by_cases hc:c=0
 ·rw [if_pos hc]
  subst hc
  obtain ⟨k1,k2⟩:=hM.zero h.trim (by decide)
  exact ⟨hM.2.2.1,k1,by rw [k2]; exact key,hall,Or.inr h19⟩
 ·rw [if_neg hc]
  obtain ⟨k1,k2,k3⟩:=hM.more hc
  exact ⟨k2,k1,by rw [k3]; exact key,hall,Or.inr h19⟩
end Go.Proofs.YtenchljfmfgeoaaGreatDoor
