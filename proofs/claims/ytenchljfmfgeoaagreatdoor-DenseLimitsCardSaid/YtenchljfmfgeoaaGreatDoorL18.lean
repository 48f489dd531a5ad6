/-
 My texts Fnd, FlS, FlN, Nu, Nq, Nv, Nad, Sx17, Kar, Dvb, Dvc, Spl, Spl2, Print, Comb, CrtM, Fermat, DecR, RStr, Frac, Rt, FlT, Reduce, Whole, Ra, Reduce2, Ts, Ai, Fs, Cmp, Tx, Sign, Dc, Len, Vl, PaM, Pa, Px, Gq, Nf, Num6, Num7, Nt, Nd, Len2, Nrd, RdK, Nm, Pt, Nw, Fu, FlD put together.
-/
import Derived.Test.YtenchljfmfgeoaaGreatDoorL15
import Derived.Test.YtenchljfmfgeoaaGreatDoorL07
import Derived.Test.YtenchljfmfgeoaaGreatDoorL06
import Derived.Deep.RegionLaw
import Derived.Test.YtenchljfmfgeoaaGreatDoorL14
import Derived.Test.YtenchljfmfgeoaaGreatDoorL01
import Derived.Laws.IdiomStrings
import Derived.Test.YtenchljfmfgeoaaGreatDoorL03
import Derived.Deep.QuietTactic
import Derived.BigQuiet
import Derived.Outline
import Derived.Deep.RegionWith
import Derived.Deep.DeepCutAuto
import Derived.Test.YtenchljfmfgeoaaGreatDoorL08
import Derived.Test.YtenchljfmfgeoaaGreatDoorL13
import Derived.Test.YtenchljfmfgeoaaGreatDoorL02
import Derived.Lib.Bytealg
set_option maxRecDepth 100000
namespace Go.Proofs.YtenchljfmfgeoaaGreatDoor
open Go.RowKit
/-! ### Clone -/
theorem ZrB (w:World) (a:Option Addr) (n c:Nat):(binOp .eql 107 (.slice a n c) (.slice none 0 0)).run Tryz.prog w=.ok (.bool a.isNone) w :=
 Lib.run_eql_slice_nil w 107 141 a n c 0 0 Tryz.underlying107
set_option maxHeartbeats 1000000 in
theorem Znu (A:Option Addr) (xs:List Nat) (n c:Nat) (w:World) (hn:xs.length=n) (hX:Zae .u64 w A xs) (hl:n≤4294967296) :
 Calls Tryz.prog 145 #[.slice A n c] w (ZkK w xs):=by
 have HX:=zh hX
 have HN:=zh hn
 clear hX hn
 have hnil:=ZrB
 cases A with
 | none =>
   have h0:Hid (xs=[]):=by
    rcases xs with _ | ⟨y,ys⟩
    ·rfl
    ·obtain ⟨b,off,h,_⟩:=HX.out (by simp); cases h
   go_enter Tryz.func145,Tryz.ntmps145
   go_wp2
   go_ret
   rw [h0.out]
   exact ⟨none,0,rfl,Buf.nil,Fr.refl _ _,fun b hb=>by obtain ⟨a,ha,_⟩:=hb; cases ha⟩
 | some ad =>
   go_enter Tryz.func145,Tryz.ntmps145
   go_wp2_with (at_builtin
                refine Za9 rfl _ _ _ rfl _ .u64 8 Tryz.underlying107 Zc3 (some ⟨w.heap.size,0,none⟩) (some ad) 0 n 0 c rfl rfl [] xs rfl HN.out ?_ (HX.out.alloc _) (by simp only [maxLen]; omega) (by omega) ?_
                ·exact Or.inr ⟨_,rfl,Own.new w _ _ [] [],⟨#[],heap_alloc_new w _,rfl⟩,Nat.le_refl _,by simp only [maxLen]; omega⟩
                intro A1 cap1 w1 hB1 hF1 hA1
                have HB1:=zh hB1
                have HF1:=zh hF1
                have HA1:=zh hA1
                clear hB1 hF1 hA1)
   go_ret
   refine ⟨A1,cap1,?_,by simpa using HB1.out,?_,?_⟩
   ·rw [HN.out]; simp
   ·refine ((Fr.refl (fun _=>False) w).alloc _).next HF1.out (fun i hi hb=>?_)
    obtain ⟨a,ha,hb⟩:=hb
    injection ha with ha
    subst ha
    simp at hb; omega
   ·intro b hb
    rcases HA1.out b hb with ⟨a,ha,h⟩ | h
    ·injection ha with ha; subst ha; simp at h; omega
    ·simp at h; omega
theorem Zi2 (A:Option Addr) (xs:List Nat) (c:Nat) (w:World) (hX:Zae .u64 w A xs) (hl:xs.length≤4294967296) (h0:0 < xs.length) :
 Calls Tryz.prog 145 #[.slice A xs.length c] w (fun en w'=>∃ b c,en=.returned (.slice (some ⟨b,0,none⟩) xs.length c)∧w.heap.size≤b∧xs.length≤c∧Ext w w'∧Own .u64 141 w' b xs):=by
 refine (Znu A xs xs.length c w rfl hX hl).mono ?_
 rintro e w' ⟨A1,cap,rfl,hB,Q,hb⟩
 rcases hB with ⟨_,h,_⟩ | ⟨b,rfl,hO,_,hc,_⟩
 ·rw [h] at h0; simp at h0
 ·exact ⟨b,cap,rfl,hb b ⟨_,rfl,rfl⟩,hc,Q,hO⟩
/-! ### compare,of numbers -/
/-! ### the long division -/
def OvR (N V n L k:Nat) (zs qs:List Nat):Prop:=zs.length=n∧Dig W64 zs∧qs.length=L∧Dig W64 qs∧val W64 zs + V * (W64 ^ k * val W64 (qs.drop k))=N∧val W64 zs < V * W64 ^ k
theorem OvR.start {N V n L:Nat} {zs:List Nat} (hn:zs.length=n) (hd:Dig W64 zs) (hv:val W64 zs=N) (hlt:N < V * W64 ^ L):OvR N V n L L zs (List.replicate L 0) :=
 ⟨hn,hd,by simp,Dig.replicate Zah _,by rw [List.drop_of_length_le (by simp)]; simpa using hv,by rw [hv]; exact hlt⟩
theorem Zp3 {o n:Nat} {zs:List Nat} (ho:o + n + 1≤zs.length) (h:val W64 zs < W64 ^ (o + n + 1)):val W64 zs=val W64 (zs.take o) + W64 ^ o * win o n zs∧val W64 (zs.drop (o + n + 1))=0:=by
 have h1:=ZaT (B:=W64) (xs:=zs) (o + n + 1)
 rw [Nat.min_eq_left ho] at h1
 have h2:val W64 (zs.drop (o + n + 1))=0:=by
  refine Nat.eq_zero_of_not_pos fun h3=>?_
  have:=Nat.mul_le_mul_left (W64 ^ (o + n + 1)) h3
  omega
 rw [h2,Nat.mul_zero,Nat.add_zero,Zed (by omega)] at h1
 exact ⟨h1,h2⟩
theorem OvR.ready {N V n L j m:Nat} {zs qs:List Nat} (h:OvR N V n L (j + 1) zs qs) (hV:V < W64 ^ m) (hj:j + m + 1≤n):val W64 zs=val W64 (zs.take j) + W64 ^ j * win j m zs∧val W64 (zs.drop (j + m + 1))=0∧win j m zs < W64 * V:=by
 obtain ⟨h1,h2,h3,h4,h5,h6⟩:=h
 have hb:val W64 zs < W64 ^ (j + m + 1):=by
  refine Nat.lt_of_lt_of_le h6 ?_
  rw [show j + m + 1=m + (j + 1) by omega,Nat.pow_add W64 m]
  exact Nat.mul_le_mul_right _ (Nat.le_of_lt hV)
 obtain ⟨k1,k2⟩:=Zp3 (by omega) hb
 refine ⟨k1,k2,?_⟩
 have:W64 ^ j * win j m zs < W64 ^ j * (W64 * V):=by
  have e:V * W64 ^ (j + 1)=W64 ^ j * (W64 * V):=by rw [Nat.pow_succ,Nat.mul_comm V,Nat.mul_assoc]
  omega
 exact Nat.lt_of_mul_lt_mul_left this
theorem OvR.step {N V n L j m:Nat} {zs qs zs':List Nat} (h:OvR N V n L (j + 1) zs qs) (hV:V < W64 ^ m) (hV0:0 < V) (hj:j + m + 1≤n) (hjL:j < L) (hW:WinR j m zs zs') (hw:win j m zs'=win j m zs % V) :
 OvR N V n L j zs' (qs.set j (win j m zs / V)):=by
 obtain ⟨k1,k2,k3⟩:=h.ready hV hj
 obtain ⟨h1,h2,h3,h4,h5,h6⟩:=h
 obtain ⟨w1,w2,w3,w4⟩:=hW
 have hq:win j m zs / V < W64:=by rw [Nat.div_lt_iff_lt_mul hV0]; exact k3
 have v1:=ZaT (B:=W64) (xs:=zs') (j + m + 1)
 rw [w4,k2,Nat.mul_zero,Nat.add_zero,Zed (by omega),w3,hw] at v1
 have hdm:=Nat.div_add_mod (win j m zs) V
 have e1:W64 ^ j * win j m zs=V * (W64 ^ j * (win j m zs / V)) + W64 ^ j * (win j m zs % V):=by
  conv=>lhs; rw [← hdm]
  rw [Nat.mul_add,Nat.mul_left_comm]
 refine ⟨w1.trans h1,w2,by simpa using h3,h4.set j hq,?_,?_⟩
 ·have e2:(qs.set j (win j m zs / V))[j]?.getD 0=win j m zs / V:=by rw [List.getElem?_set_self (by omega)]; rfl
  rw [ZaI j (by simp; omega),e2,List.drop_set_of_lt (by omega),v1]
  rw [Nat.pow_succ] at h5
  have e3:V * (W64 ^ j * (win j m zs / V + W64 * val W64 (qs.drop (j + 1))))=V * (W64 ^ j * (win j m zs / V)) + V * (W64 ^ j * W64 * val W64 (qs.drop (j + 1))):=by
   rw [Nat.mul_add (W64 ^ j),Nat.mul_add V,Nat.mul_assoc (W64 ^ j)]
  omega
 ·rw [v1]
  have b1:=Za1 (h2.take j)
  rw [List.length_take,Nat.min_eq_left (by omega)] at b1
  have b2:=Nat.mul_le_mul_left (W64 ^ j) (Nat.mod_lt (win j m zs) hV0)
  rw [Nat.mul_succ] at b2
  rw [Nat.mul_comm V]
  omega
theorem OvR.done {N V n L:Nat} {zs qs:List Nat} (h:OvR N V n L 0 zs qs) (hV:0 < V):val W64 qs=N / V∧val W64 zs=N % V:=by
 obtain ⟨h1,h2,h3,h4,h5,h6⟩:=h
 rw [Nat.pow_zero,Nat.mul_one] at h6
 rw [Nat.pow_zero,Nat.one_mul,List.drop_zero] at h5
 rw [← h5]
 rw [Nat.add_mul_div_left _ _ hV,Nat.div_eq_of_lt h6,Nat.add_mul_mod_self_left,Nat.mod_eq_of_lt h6]
 exact ⟨by omega,rfl⟩
theorem Zsm {ys:List Nat} {k t:Nat} (hd:Dig W64 ys) (hl:ys.length=k + 1) (ht:Trim ys) (et:ys[k]?.getD 0=t):wl (val W64 ys * 2 ^ (64 - blen t))=ys.length:=by
 have h0:0 < t:=Nat.pos_of_ne_zero (by rw [← et]; exact ht k hl)
 have hb:=Zh0 hd hl ht et
 have htW:t < 2 ^ 64:=by have:=et ▸ hd.getD Zah k; rw [Zan] at this; exact this
 have hb2:=Zbu.2 htW
 have hv0:0 < val W64 ys:=by have:=Zay (B:=W64) k (show k < ys.length by omega); rw [List.take_of_length_le (by omega),et] at this; have:=Nat.mul_le_mul_left (W64 ^ k) h0; have:=Nat.pow_pos (n:=k) Zah; omega
 have hb3:blen (val W64 ys * 2 ^ (64 - blen t))=64 * (k + 1):=by rw [Zex hv0,hb]; omega
 have h1:wl (val W64 ys * 2 ^ (64 - blen t))≤k + 1:=ZbC.2 (by rw [Zds]; exact Zbu.1 (by omega))
 have h2:¬ wl (val W64 ys * 2 ^ (64 - blen t))≤k:=fun h=>by
  have:=ZbC.1 h
  rw [Zds] at this
  have:=Zbu.2 this
  omega
 omega
theorem ZsS {xs ys:List Nat} {s:Nat} (hd:Dig W64 xs) (ht:Trim ys) (h0:0 < ys.length) (hl:ys.length≤xs.length):val W64 xs * 2 ^ s < val W64 ys * 2 ^ s * W64 ^ (xs.length - ys.length + 1):=by
 obtain ⟨k,hk⟩:∃ k,ys.length=k + 1:=⟨ys.length - 1,by omega⟩
 have h1:=Za1 hd
 have h2:=ZgT (B:=W64) ht hk
 have h3:W64 ^ xs.length≤val W64 ys * W64 ^ (xs.length - ys.length + 1):=by
  rw [show xs.length=k + (xs.length - ys.length + 1) by omega,Nat.pow_add]
  rw [show k + (xs.length - ys.length + 1) - ys.length + 1=xs.length - ys.length + 1 by omega]
  exact Nat.mul_le_mul_right _ h2
 rw [Nat.mul_right_comm]
 exact (Nat.mul_lt_mul_right (p2 s)).2 (Nat.lt_of_lt_of_le h1 h3)
theorem Zp4 {ws:List Nat} {n:Nat} (hd:Dig W64 ws) (hl:ws.length≤n):let zs:=ws.take n ++ (List.replicate n 0).drop ws.length; zs.length=n∧Dig W64 zs∧val W64 zs=val W64 ws:=by
 intro zs
 have e:zs=ws ++ List.replicate (n - ws.length) 0:=by show ws.take n ++ (List.replicate n 0).drop ws.length=_; rw [List.take_of_length_le hl,List.drop_replicate]
 rw [e]
 exact ⟨by simp; omega,hd.append (Dig.replicate Zah _),by rw [ZbP,Zcq]; simp⟩
theorem Zsn {xs:List Nat} {s:Nat} (hd:Dig W64 xs) (hs:s≤64):wl (val W64 xs * 2 ^ s)≤xs.length + 1:=ZbC.2 (by
 have h1:=Za1 hd
 rw [Nat.pow_succ]
 have h2:2 ^ s≤W64:=by rw [Zan]; exact Nat.pow_le_pow_right (n:=2) (by decide) hs
 exact Nat.lt_of_lt_of_le ((Nat.mul_lt_mul_right (p2 s)).2 h1) (Nat.mul_le_mul_left _ h2))
theorem Zso {x y s:Nat}:x * 2 ^ s % (y * 2 ^ s) / 2 ^ s=x % y:=by rw [Nat.mul_mod_mul_right,Nat.mul_div_cancel _ (p2 s)]
theorem Zsp {x y s:Nat}:x * 2 ^ s / (y * 2 ^ s)=x / y:=Nat.mul_div_mul_right _ _ (p2 s)
theorem Zfo {b n c v:Nat} {xs:List Nat} {w:World} (hO:Own .u64 141 w b xs) (hd:Dig W64 xs) (hn:xs.length=n) (hv:val W64 xs=v) (hl:n≤1099511627776) (hc:n≤c):Calls Tryz.prog 144 #[.slice (some ⟨b,0,none⟩) n c] w (Za2 w v):=by
 subst hn hv
 refine (Zhg _ xs _ w hO.shows0 hl hc).mono ?_
 rintro e w' ⟨rfl,Q⟩
 exact ⟨_,rfl,(Zad.of_own hO hd hc).ext Q,Q⟩
theorem ZrC {ys:List Nat} {y:Nat} (h:ys.length=1) (e:ys[0]?.getD 0=y):val W64 ys=y:=by
 obtain ⟨z,rfl⟩:=List.length_eq_one_iff.1 h
 simp at e
 simp [e]
theorem Blk.own1 {w:World} {b r:Nat} (h:Blk 141 w b #[.int .u64 ((r:Nat):Int)]):Own .u64 141 w b [r]:=⟨[],by simp,h⟩
/-! ### of numbers -/
section
variable {u v:Value} {m n:Nat} {w:World}
theorem ZbW (hu:Zad w u m) (hv:Zad w v n) (hm:wl m≤4294967296) (hn:wl n≤4294967296):Calls Tryz.prog 135 #[u,v] w (Za2 w (m + n)):=by
 obtain ⟨A,xs,c,rfl,hc,h1,h2,h3,rfl⟩:=hu
 obtain ⟨A2,ys,c2,rfl,hc2,k1,k2,k3,rfl⟩:=hv
 rw [← ZaE h2 h3] at hm
 rw [← ZaE k2 k3] at hn
 exact ZoC A A2 xs ys c c2 w h1 k1 hm hn h2 k2
theorem ZeI (hu:Zad w u m) (hv:Zad w v n) (hm:wl m≤4294967296) (hle:n≤m):Calls Tryz.prog 137 #[u,v] w (Za2 w (m - n)):=by
 obtain ⟨A,xs,c,rfl,hc,h1,h2,h3,rfl⟩:=hu
 obtain ⟨A2,ys,c2,rfl,hc2,k1,k2,k3,rfl⟩:=hv
 have hl:=ZaU hle
 rw [← ZaE h2 h3] at hm hl
 rw [← ZaE k2 k3] at hl
 exact Zno A A2 xs ys c c2 w h1 k1 hm (by omega) h2 k2 hl hle
theorem Zgp (hu:Zad w u m) (hv:Zad w v n) (hm:wl m≤4294967296) (hn:wl n≤4294967296):Calls Tryz.prog 143 #[u,v] w (Za2 w (m * n)):=by
 obtain ⟨A,xs,c,rfl,hc,h1,h2,h3,rfl⟩:=hu
 obtain ⟨A2,ys,c2,rfl,hc2,k1,k2,k3,rfl⟩:=hv
 rw [← ZaE h2 h3] at hm
 rw [← ZaE k2 k3] at hn
 exact Znp A A2 xs ys c c2 w h1 k1 hm hn h2 k2
theorem ZbS (k:Nat) (hu:Zad w u m) (hm:wl m≤4294967296) (hk:k≤274877906944):Calls Tryz.prog 101 #[u, .int .i64 ((k:Nat):Int)] w (Za2 w (m * 2 ^ k)):=by
 have hu':=hu
 obtain ⟨A,xs,c,rfl,hc,h1,h2,h3,rfl⟩:=hu
 rw [← ZaE h2 h3] at hm
 exact Zrr A xs c k w hu' h1 hm h2 hk
theorem Zch (k:Nat) (hu:Zad w u m) (hm:wl m≤4294967296) (hk:k≤274877906944):Calls Tryz.prog 140 #[u, .int .i64 ((k:Nat):Int)] w (Za2 w (m / 2 ^ k)):=by
 have hu':=hu
 obtain ⟨A,xs,c,rfl,hc,h1,h2,h3,rfl⟩:=hu
 rw [← ZaE h2 h3] at hm
 exact ZoD A xs c k w hu' h1 hm h2 hk
theorem ZbE (hu:Zad w u m) (hm:wl m≤4294967296):Calls Tryz.prog 139 #[u] w (RetV w (.int .i64 ((blen m:Nat):Int))):=by
 obtain ⟨A,xs,c,rfl,hc,h1,h2,h3,rfl⟩:=hu
 rw [← ZaE h2 h3] at hm
 exact Zl5 A xs c w h1 hm h2 h3
theorem ZeJ (hg:Glob w) (hu:Zad w u m) (hm:wl m≤4294967296) (h0:0 < m):Calls Tryz.prog 171 #[u] w (RetV w (.int .i64 ((tzn m:Nat):Int))):=by
 obtain ⟨A,xs,c,rfl,hc,h1,h2,h3,rfl⟩:=hu
 rw [← ZaE h2 h3] at hm
 exact Znt A xs c w h1 hm h2 hg h0
theorem Zee (i:Nat) (hu:Zad w u m) (hi:i≤274877906944):Calls Tryz.prog 170 #[u, .int .i64 ((i:Nat):Int)] w (RetV w (.bool (decide (m / 2 ^ i % 2=1)))):=by
 obtain ⟨A,xs,c,rfl,hc,h1,h2,h3,rfl⟩:=hu
 exact Zp1 A xs c w h1 h2 i hi
theorem ZcR (hu:Zad w u m) (hv:Zad w v n) (hm:wl m≤4294967296):Calls Tryz.prog 136 #[u,v] w (RetV w (.int .i64 (cmpI ((m:Nat):Int) ((n:Nat):Int)))):=by
 obtain ⟨A,xs,c,rfl,hc,h1,h2,h3,rfl⟩:=hu
 obtain ⟨A2,ys,c2,rfl,hc2,k1,k2,k3,rfl⟩:=hv
 rw [← ZaE h2 h3] at hm
 exact Zli A A2 xs ys c c2 w h1 k1 hm h2 k2 h3 k3
end
theorem ZoL (A A2:Option Addr) (xs ys:List Nat) (c c2:Nat) (w:World) (hX:Zae .u64 w A xs) (hY:Zae .u64 w A2 ys) (hl:xs.length≤4294967295) (hl2:ys.length≤4294967296) (hx:Dig W64 xs) (hy:Dig W64 ys) (hN:Zad w (.slice A xs.length c) (val W64 xs)) (hM:Zad w (.slice A2 ys.length c2) (val W64 ys)) (tx:Trim xs) (ty:Trim ys) (hy0:0 < val W64 ys) :
 Calls Tryz.prog 158 #[.slice A xs.length c, .slice A2 ys.length c2] w (ZfV w (val W64 xs / val W64 ys) (val W64 xs % val W64 ys)):=by
 have hw:wl (val W64 xs)≤4294967296:=by rw [← ZaE hx tx]; omega
 have hwy:wl (val W64 ys)≤4294967296:=by rw [← ZaE hy ty]; exact hl2
 refine Zas (Φ:=fun w=>(((Zad w (.slice A xs.length c) (val W64 xs)∧Zae .u64 w A xs)∧Zad w (.slice A2 ys.length c2) (val W64 ys))∧Zae .u64 w A2 ys)) Tryz.func158 rfl (by kernel_rfl) (fun w' hf=>⟨⟨⟨hN.ext hf,hX.ext hf⟩,hM.ext hf⟩,hY.ext hf⟩) ?_
 refine Zac (Zab (xq 2 [eS1 4 none 0 0,eS1 5 none 0 0] [] ?_))
 refine xe (Zaa (Zac (Zac (Zab (xq 2 [eS1 13 A xs.length c,eS1 14 A2 ys.length c2] [] ?_)))))
 refine xqc 136 [.slice A xs.length c, .slice A2 ys.length c2] 15 (fun _:Unit=>.int .i64 (cmpI ((val W64 xs:Nat):Int) ((val W64 ys:Nat):Int))) _ (fun w R Q=>(ZcR Q.1.1.1 Q.1.2 hw).mono (fun _ _ h=>Zam h rfl)) (fun xx=>?_)
 refine xq 1 [(16, .v (.bool (decide ((cmpI ((val W64 xs:Nat):Int) ((val W64 ys:Nat):Int)) < 0))))] [] ?_
 refine xe (Zaa ?_)
 refine Zap ((decide ((cmpI ((val W64 xs:Nat):Int) ((val W64 ys:Nat):Int)) < 0))) (by kernel_rfl) (fun hb10=>?_) (fun hb10=>?_)
 ·have hlt0:=Zdm.1 (of_decide_eq_true hb10)
  refine Zac (Zab (xq 3 [eS1 4 none 0 0,eS1 5 A xs.length c] [] ?_))
  refine xe (Zaa (Zag (Zai ?_)))
  refine Zaf (v:=.tuple #[.slice none 0 0, .slice A xs.length c]) (by kernel_rfl) (fun w' R Q=>?_)
  exact ⟨_,_,rfl,by rw [Nat.div_eq_of_lt hlt0]; exact Zad.zero _,by rw [Nat.mod_eq_of_lt hlt0]; exact Q.1.1.1.1,R⟩
 ·have hge:val W64 ys≤val W64 xs:=Nat.le_of_not_lt (fun h'=>of_decide_eq_false hb10 (Zdm.2 h'))
  have hll:ys.length≤xs.length:=by have:=ZaU hge; rwa [← ZaE hy ty,← ZaE hx tx] at this
  have hy1:0 < ys.length:=List.length_pos_iff.2 (fun e=>by rw [e] at hy0; simp at hy0)
  refine Zal (Zaa (Zac (Zac (Zab (xq 3 [(20, .v (.bool ((((ys.length:Nat):Int):Int) == 1)))] [] ?_)))))
  refine xe (Zaa ?_)
  refine Zap (((((ys.length:Nat):Int):Int) == 1)) (by kernel_rfl) (fun hb11=>?_) (fun hb11=>?_)
  ·have hb11':=beq_iff_eq.1 hb11
   refine Zac (Zab (xq 1 [eS1 21 A xs.length c] [] ?_))
   refine ZpS 145 [.slice A xs.length c] (d:=22) (k:=.u64) (e:=141) xs (fun w R Q=>Zi2 A xs c w Q.1.1.1.2 (by omega) (by omega)) (fun r12 cc hr12 hcap _=>?_)
   refine xr 1 [eS1 0 A xs.length c,eS1 1 A2 ys.length c2,eS1 4 none 0 0,eS1 5 none 0 0,eS1 6 (some ⟨r12,0,none⟩) xs.length cc] [] ?_
   refine xe (Zaa (Zac (Zab (xq 2 [eS1 23 (some ⟨r12,0,none⟩) xs.length cc,eS1 24 A2 ys.length c2] [] ?_))))
   refine xqk 25 (atA A2 0) (fun w R Q=>ZaS (t:=107) (e:=141) (x:=(Operand.tmp 24)) (ix:=(Operand.const (Value.int IntKind.i64 0))) (len:=ys.length) (cap:=c2) (i:=0) (((Q.1).self.1.2).ne (j:=0) (by omega)) (by omega)) ?_
   obtain ⟨x13,hx13⟩:∃ x,ys[0]?.getD 0=x:=⟨_,rfl⟩
   refine xqk 26 (.int .u64 ((x13:Nat):Int)) (fun w R Q=>by rw [← hx13]; exact Zbb (t:=141) (x:=(Operand.tmp 25)) ((Q.1).self.1.2) (j:=0) (by omega)) ?_
   have hv1:=ZrC (by omega) hx13
   refine Zgl (xs:=xs) (α:=List Nat) 146 [.slice (some ⟨r12,0,none⟩) xs.length cc, .int .u64 ((x13:Nat):Int)] (d:=27) (fun x=>.int .u64 ((val W64 xs % x13:Nat):Int)) (fun x=>x.length=xs.length∧Dig W64 x∧val W64 x=val W64 xs / x13) (fun x=>x) r12 (fun x w=>(Box (fun j=>r12≤j) w (fun w=>((((Zad w (.slice A xs.length c) (val W64 xs)∧Zae .u64 w A (xs))∧Zad w (.slice A2 ys.length c2) (val W64 ys))∧Zae .u64 w A2 (ys))∧True))∧Own .u64 141 w r12 (x))) (fun w Q=>Q.2) (by omega) (Or.inl hr12) (fun w R Q=>Zfn r12 _ _ _ _ Q.2 (by omega) hx (by omega) (by rw [← hx13]; exact hy.getD Zah _)) (fun x w w' hp Q hF hO=>⟨((Q.1).fr (hF.mono (fun _ _ e=>by rw [e]; exact Nat.le_refl _))),hO⟩) (fun x hx14=>?_)
   obtain ⟨qs14,rfl⟩:∃ y,y=x:=⟨_,rfl⟩
   refine xr 1 [eS1 0 A xs.length c,eS1 1 A2 ys.length c2,eS1 4 none 0 0,eS1 5 none 0 0,eS1 6 (some ⟨r12,0,none⟩) xs.length cc,(7, .v (.int .u64 ((val W64 xs % x13:Nat):Int)))] [] ?_
   refine xe (Zaa (Zac (Zab (xq 1 [eS1 28 (some ⟨r12,0,none⟩) xs.length cc] [] ?_))))
   refine xqc 144 [.slice (some ⟨r12,0,none⟩) xs.length cc] 29 ZaA _ (fun w R Q=>(Zfo Q.2 hx14.2.1 hx14.1 hx14.2.2 (by omega) (by omega)).mono (fun _ _=>Zau)) (fun xx=>?_)
   obtain ⟨A15,l15,c15⟩:=xx
   refine xq 1 [(30, .v (.int .u64 ((val W64 xs % x13:Nat):Int)))] [] ?_
   refine Zbx (d:=31) (fun zb:Nat=>.slice (some ⟨zb,0,none⟩) 1 1) (fun zb zw=>Blk 141 zw zb #[.int .u64 ((val W64 xs % x13:Nat):Int)]) (by kernel_rfl) (by kernel_rfl) (by kernel_rfl) (by kernel_rfl) (by kernel_rfl) (by kernel_rfl) (fun w R Q=>Zby (t:=107) (e:=141) (n:=1) (sz:=1) (z:=.int .u64 0) (parts:=#[(0,Operand.tmp 30)]) (by kernel_rfl) (by kernel_rfl) (by kernel_rfl) (by kernel_rfl) (by kernel_rfl) (by kernel_rfl)) (fun b16=>?_)
   refine xr 0 [eS1 0 A xs.length c,eS1 1 A2 ys.length c2,eS1 4 none 0 0,eS1 5 none 0 0,eS1 29 A15 l15 c15,eS1 31 (some ⟨b16,0,none⟩) 1 1] [] ?_
   refine xqc 144 [.slice (some ⟨b16,0,none⟩) 1 1] 32 ZaA _ (fun w R Q=>(Zfo (Q.2).own1 (Dig.nil.cons (Nat.lt_trans (Nat.mod_lt _ (by omega)) (by rw [← hx13]; exact hy.getD Zah _))) (show [val W64 xs % x13].length=1 from rfl) (show val W64 [val W64 xs % x13]=val W64 xs % x13 by simp) (by omega) (by omega)).mono (fun _ _=>Zau)) (fun xx=>?_)
   obtain ⟨A17,l17,c17⟩:=xx
   refine xq 2 [eS1 4 A15 l15 c15,eS1 5 A17 l17 c17] [] ?_
   refine xe (Zaa (Zag (Zai ?_)))
   refine Zaf (v:=.tuple #[.slice A15 l15 c15, .slice A17 l17 c17]) (by kernel_rfl) (fun w' R Q=>?_)
   exact ⟨_,_,rfl,by rw [hv1]; exact Q.1.1.2,by rw [hv1]; exact Q.2,R⟩
  ·have hb11':=Zbh hb11
   refine Zal (Zaa (Zac (Zab (xq 4 [eS1 33 A2 ys.length c2,(36, .v (.int .i64 (IntKind.i64.wrap (((ys.length:Nat):Int) - 1))))] [] ?_))))
   rw [show IntKind.i64.wrap ((((ys.length:Nat):Int) - 1))=((ys.length - 1:Nat):Int) from by rw [IntKind.wrap_i64]; omega]
   refine xqk 37 (atA A2 (ys.length - 1)) (fun w R Q=>ZaS (t:=107) (e:=141) (x:=(Operand.tmp 33)) (ix:=(Operand.tmp 36)) (len:=ys.length) (cap:=c2) (i:=ys.length - 1) ((Q.1.2).ne (j:=ys.length - 1) (by omega)) (by omega)) ?_
   obtain ⟨x18,hx18⟩:∃ x,ys[ys.length - 1]?.getD 0=x:=⟨_,rfl⟩
   refine xqk 38 (.int .u64 ((x18:Nat):Int)) (fun w R Q=>by rw [← hx18]; exact Zbb (t:=141) (x:=(Operand.tmp 37)) (Q.1.2) (j:=ys.length - 1) (by omega)) ?_
   obtain ⟨t,rfl⟩:∃ t,t=x18:=⟨_,rfl⟩
   refine xqc 194 [.int .u64 ((t:Nat):Int)] 39 (fun _:Unit=>.int .i64 ((64 - blen t:Nat):Int)) _ (fun w R Q=>(Zns t _ (by rw [← hx18]; exact hy.getD Zah _)).mono (fun _ _ h=>Zam h rfl)) (fun xx=>?_)
   refine xq 1 [(8, .v (.int .i64 ((64 - blen t:Nat):Int)))] [] ?_
   refine xe (Zaa (Zac (Zab (xq 2 [eS1 40 A2 ys.length c2,(41, .v (.int .i64 ((64 - blen t:Nat):Int)))] [] ?_))))
   refine xqc 101 [.slice A2 ys.length c2, .int .i64 ((64 - blen t:Nat):Int)] 42 ZaA _ (fun w R Q=>(ZbS (64 - blen t) Q.1.1.1.2 hwy (by omega)).mono (fun _ _=>Zau)) (fun xx=>?_)
   obtain ⟨A19,l19,c19⟩:=xx
   refine xq 1 [eS1 9 A19 l19 c19] [] ?_
   refine xe (Zaa (Zac ?_))
   refine SXc.know (p:=l19=(wds (val W64 ys * 2 ^ (64 - blen t))).length∧(wds (val W64 ys * 2 ^ (64 - blen t))).length≤c19) (fun w _ Q=>(Q.2).lens) (fun hln=>?_)
   obtain ⟨dd,hdd⟩:∃ dd,dd=wds (val W64 ys * 2 ^ (64 - blen t)):=⟨_,rfl⟩
   rw [← hdd] at hln
   obtain ⟨rfl,hdc⟩:=hln
   have hDd:Dig W64 dd:=by rw [hdd]; exact (Zc1 _).1
   have hDt:Trim dd:=by rw [hdd]; exact Zil _
   have hDv:val W64 dd=val W64 ys * 2 ^ (64 - blen t):=by rw [hdd]; exact (Zc1 _).2
   have hDl:dd.length=ys.length:=by rw [hdd,ZmC]; exact Zsm (k:=ys.length - 1) hy (by omega) ty hx18
   have hDp:0 < val W64 dd:=ZdU hDt Zah (fun e=>by rw [e] at hDl; simp at hDl; omega)
   have hDw:=Za1 hDd
   refine Zab (xq 3 [(45, .v (.int .i64 (IntKind.i64.wrap (((xs.length:Nat):Int) + 1))))] [] ?_)
   rw [show IntKind.i64.wrap ((((xs.length:Nat):Int) + 1))=((xs.length + 1:Nat):Int) from by rw [IntKind.wrap_i64]; omega]
   refine Zgm (d:=46) (t:=107) (e:=141) (k:=.u64) (kl:=.i64) (kc:=.i64) (l:=(Operand.tmp 45)) (c:=(Operand.tmp 45)) (xs.length + 1) 8 (by omega) (by decide) (fun r20 hr20 lr20=>?_)
   have hA:∀ a,A19=some a→a.block≠r20:=fun a ha=>Nat.ne_of_lt (lr20 a.block (fun w Q=>(Q.2).shows.lt (by rw [← hdd,hDl]; omega) ha))
   refine xr 1 [eS1 0 A xs.length c,eS1 1 A2 ys.length c2,eS1 4 none 0 0,eS1 5 none 0 0,(8, .v (.int .i64 ((64 - blen t:Nat):Int))),eS1 9 A19 dd.length c19,eS1 10 (some ⟨r20,0,none⟩) (xs.length + 1) (xs.length + 1)] [] ?_
   refine xe (Zaa (Zac (Zab (xq 3 [eS1 47 (some ⟨r20,0,none⟩) (xs.length + 1) (xs.length + 1),eS1 48 A xs.length c,(49, .v (.int .i64 ((64 - blen t:Nat):Int)))] [] ?_))))
   refine xqc 101 [.slice A xs.length c, .int .i64 ((64 - blen t:Nat):Int)] 50 ZaA _ (fun w R Q=>(ZbS (64 - blen t) (Q.1).self.1.1.1.1.1.1 hw (by omega)).mono (fun _ _=>Zau)) (fun xx=>?_)
   obtain ⟨A21,l21,c21⟩:=xx
   refine SXi.know (p:=l21=(wds (val W64 xs * 2 ^ (64 - blen t))).length∧(wds (val W64 xs * 2 ^ (64 - blen t))).length≤c21) (fun w _ Q=>(Q.2).lens) (fun hln=>?_)
   have hfit:=Zsn (s:=64 - blen t) hx (by omega)
   rw [← ZmC] at hfit
   obtain ⟨hr1,hr2,hr3⟩:=Zp4 (n:=xs.length + 1) (Zc1 (val W64 xs * 2 ^ (64 - blen t))).1 hfit
   rw [(Zc1 _).2] at hr3
   obtain ⟨zz,hzz⟩:∃ zz,(wds (val W64 xs * 2 ^ (64 - blen t))).take (xs.length + 1) ++ (List.replicate (xs.length + 1) 0).drop (wds (val W64 xs * 2 ^ (64 - blen t))).length=zz:=⟨_,rfl⟩
   rw [hzz] at hr1 hr2 hr3
   refine Zrn (d:=51) (dx:=Operand.tmp 47) (sx:=Operand.tmp 50) (dT:=107) (sT:=107) (e:=141) (k:=.u64) (sp:=A21) (mid:=List.replicate (xs.length + 1) 0) (ys:=wds (val W64 xs * 2 ^ (64 - blen t))) (n:=xs.length + 1) (m:=l21) (dc:=xs.length + 1) (sc:=c21) r20 (fun w=>((Box (fun j=>r20≤j) w (fun w=>((((((Zad w (.slice A xs.length c) (val W64 xs)∧Zae .u64 w A (xs))∧Zad w (.slice A2 ys.length c2) (val W64 ys))∧Zae .u64 w A2 (ys))∧True)∧True)∧Zad w (.slice A19 dd.length c19) (val W64 ys * 2 ^ (64 - blen t))))∧Own .u64 141 w r20 (zz))∧True)) (by simp) hln.1.symm (by simp) (fun w Q=>Q.1.2) (fun w Q=>(Q.2).shows) (Or.inl hr20) (fun w w' Q hF hO=>⟨⟨((Q.1.1).fr (hF.mono (fun _ _ e=>by rw [e]; exact Nat.le_refl _))),(by rw [← hzz]; rwa [List.length_replicate] at hO)⟩,trivial⟩) ?_
   refine xr 0 [eS1 0 A xs.length c,eS1 1 A2 ys.length c2,eS1 4 none 0 0,eS1 5 none 0 0,(8, .v (.int .i64 ((64 - blen t:Nat):Int))),eS1 9 A19 dd.length c19,eS1 10 (some ⟨r20,0,none⟩) (xs.length + 1) (xs.length + 1)] [] ?_
   refine xe (Zaa (Zac (Zab (xq 5 [(56, .v (.int .i64 (IntKind.i64.wrap (((xs.length:Nat):Int) - ((ys.length:Nat):Int)))))] [] ?_))))
   rw [show IntKind.i64.wrap ((((xs.length:Nat):Int) - ((ys.length:Nat):Int)))=((xs.length - (ys.length):Nat):Int) from by rw [IntKind.wrap_i64]; omega]
   refine xq 1 [(57, .v (.int .i64 (IntKind.i64.wrap (((xs.length - (ys.length):Nat):Int) + 1))))] [] ?_
   rw [show IntKind.i64.wrap ((((xs.length - (ys.length):Nat):Int) + 1))=((xs.length - (ys.length) + 1:Nat):Int) from by rw [IntKind.wrap_i64]; omega]
   refine Zgm (d:=58) (t:=107) (e:=141) (k:=.u64) (kl:=.i64) (kc:=.i64) (l:=(Operand.tmp 57)) (c:=(Operand.tmp 57)) (xs.length - (ys.length) + 1) 8 (by omega) (by decide) (fun r22 hr22 lr22=>?_)
   have hlt:r20 < r22:=lr22 r20 (fun w Q=>(Q.1.2).lt)
   refine xr 1 [eS1 1 A2 ys.length c2,eS1 4 none 0 0,eS1 5 none 0 0,(8, .v (.int .i64 ((64 - blen t:Nat):Int))),eS1 9 A19 dd.length c19,eS1 10 (some ⟨r20,0,none⟩) (xs.length + 1) (xs.length + 1),(11, .v (.slice (some ⟨r22,0,none⟩) (xs.length - (ys.length) + 1) (xs.length - (ys.length) + 1)))] [] ?_
   refine xe (Zaa (Zac (Zac (Zab (xq 3 [(61, .v (.int .i64 (IntKind.i64.wrap (((xs.length - (ys.length) + 1:Nat):Int) - 1))))] [] ?_)))))
   rw [show IntKind.i64.wrap (((xs.length - ys.length + 1:Nat):Int) - 1)=((xs.length - ys.length + 1:Nat):Int) - 1 from by rw [IntKind.wrap_i64]; omega]
   refine xq 1 [(12, .v (.int .i64 (((xs.length - ys.length + 1:Nat):Int) - 1)))] [] ?_
   refine xe (Zaa (Zar ?_))
   refine SXc.weak [(1, .v (.slice A2 ys.length c2)),(4, .v (.slice none 0 0)),(5, .v (.slice none 0 0)),(8, .v (.int .i64 ((64 - blen t:Nat):Int))),(9, .v (.slice A19 dd.length c19)),(10, .v (.slice (some ⟨r20,0,none⟩) (xs.length + 1) (xs.length + 1))),(11, .v (.slice (some ⟨r22,0,none⟩) (xs.length - (ys.length) + 1) (xs.length - (ys.length) + 1))),(12, .v (.int .i64 ((((xs.length - ys.length + 1):Nat):Int) - 1)))] [] (Ψ:=fun w=>((Box (fun j=>r20≤j) w (fun w=>((((((Zad w (.slice A xs.length c) (val W64 xs)∧Zae .u64 w A (xs))∧Zad w (.slice A2 ys.length c2) (val W64 ys))∧Zae .u64 w A2 (ys))∧True)∧True)∧Zad w (.slice A19 dd.length c19) (val W64 ys * 2 ^ (64 - blen t))))∧Own .u64 141 w r20 (zz))∧Own .u64 141 w r22 ((List.replicate (xs.length - (ys.length) + 1) 0)))) (Zax.of (by kernel_rfl)) (by kernel_rfl) (fun w Q=>⟨⟨(Q.1).self.1.1,(Q.1).self.1.2⟩,Q.2⟩) ?_
   refine ZaR (fun nn ss ff=>∃ (k:Nat) (zs qs:List Nat),ss=ofL [(1, .v (.slice A2 ys.length c2)),(4, .v (.slice none 0 0)),(5, .v (.slice none 0 0)),(8, .v (.int .i64 ((64 - blen t:Nat):Int))),(9, .v (.slice A19 dd.length c19)),(10, .v (.slice (some ⟨r20,0,none⟩) (xs.length + 1) (xs.length + 1))),(11, .v (.slice (some ⟨r22,0,none⟩) (xs.length - (ys.length) + 1) (xs.length - (ys.length) + 1))),(12, .v (.int .i64 (((k:Nat):Int) - 1)))] []∧ff=(fun w=>((Box (fun j=>r20≤j) w (fun w=>((((((Zad w (.slice A xs.length c) (val W64 xs)∧Zae .u64 w A (xs))∧Zad w (.slice A2 ys.length c2) (val W64 ys))∧Zae .u64 w A2 (ys))∧True)∧True)∧Zad w (.slice A19 dd.length c19) (val W64 ys * 2 ^ (64 - blen t))))∧Own .u64 141 w r20 (zs))∧Own .u64 141 w r22 (qs)))∧(OvR (val W64 xs * 2 ^ (64 - blen t)) (val W64 dd) (xs.length + 1) (xs.length - ys.length + 1) k zs qs)∧(k≤xs.length - ys.length + 1)∧nn=(1 + k)) ((1 + (xs.length - ys.length + 1))) ⟨(xs.length - ys.length + 1),zz,(List.replicate (xs.length - (ys.length) + 1) 0),rfl,rfl,(OvR.start hr1 hr2 hr3 (by rw [hDv]; exact ZsS hx ty (by omega) (by omega))),Nat.le_refl _,rfl⟩ ?_
   rintro nn ss ff ⟨k,zs,qs,rfl,rfl,HV,hk,rfl⟩
   refine Zac (Zac (Zab (xq 2 [(63, .v (.bool (decide ((((k:Nat):Int) - 1) ≥ 0))))] [] ?_)))
   refine xe (Zaa ?_)
   refine Zap ((decide ((((k:Nat):Int) - 1) ≥ 0))) (by kernel_rfl) (fun hb23=>?_) (fun hb23=>?_)
   ·have hb23':=of_decide_eq_true hb23
    obtain ⟨j,rfl⟩:∃ j,k=j + 1:=⟨k - 1,by omega⟩
    rw [show ((((j + 1):Nat):Int) - 1)=((j:Nat):Int) by omega]
    refine Zal (Zaa (Zac (Zar (Zab (xq 8 [(66, .v (.slice (some ⟨r22,0,none⟩) (xs.length - (ys.length) + 1) (xs.length - (ys.length) + 1))),(67, .v (.int .i64 ((j:Nat):Int))),eS1 68 (some ⟨r20,0,none⟩) (xs.length + 1) (xs.length + 1),(69, .v (.int .i64 ((j:Nat):Int))),(73, .v (.int .i64 (IntKind.i64.wrap (((j:Nat):Int) + ((ys.length:Nat):Int)))))] [] ?_)))))
    rw [show IntKind.i64.wrap ((((j:Nat):Int) + ((ys.length:Nat):Int)))=((j + (ys.length):Nat):Int) from by rw [IntKind.wrap_i64]; omega]
    refine xq 1 [(74, .v (.int .i64 (IntKind.i64.wrap (((j + (ys.length):Nat):Int) + 1))))] [] ?_
    rw [show IntKind.i64.wrap ((((j + (ys.length):Nat):Int) + 1))=((j + (ys.length) + 1:Nat):Int) from by rw [IntKind.wrap_i64]; omega]
    refine xqk 75 (.slice (some ⟨r20,j,none⟩) (dd.length + 1) (xs.length + 1 - j)) (fun w R Q=>ZpT (t:=107) (e:=141) (x:=(Operand.tmp 68)) (len:=(xs.length + 1)) (cap:=(xs.length + 1)) (l:=j) (h:=j + (ys.length) + 1) (n:=dd.length + 1) (m:=xs.length + 1 - j) (lo:=(Operand.tmp 69)) (hi:=(Operand.tmp 74)) (by omega) (by omega) (by omega) (by omega) (by omega)) ?_
    refine xq 1 [eS1 76 A19 dd.length c19] [] ?_
    refine Zgl (xs:=zs) (α:=List Nat) 195 [.slice (some ⟨r20,j,none⟩) (dd.length + 1) (xs.length + 1 - j), .slice A19 dd.length c19] (d:=77) (fun x=>.int .u64 ((win j dd.length zs / val W64 dd:Nat):Int)) (fun x=>WinR j dd.length zs x∧win j dd.length x=win j dd.length zs % val W64 dd) (fun x=>x) r20 (fun x w=>((Box (fun j=>r20≤j) w (fun w=>((((((Zad w (.slice A xs.length c) (val W64 xs)∧Zae .u64 w A (xs))∧Zad w (.slice A2 ys.length c2) (val W64 ys))∧Zae .u64 w A2 (ys))∧True)∧True)∧Zad w (.slice A19 dd.length c19) (val W64 ys * 2 ^ (64 - blen t))))∧Own .u64 141 w r20 (x))∧Own .u64 141 w r22 (qs))) (fun w Q=>Q.1.2) (by have:=HV.1; omega) (Or.inl hr20) (fun w R Q=>Zi1 r20 _ j zs dd _ _ _ Q.1.2 (by rw [hdd]; exact ((Q.1.1).self.2).shows) hA (by rw [HV.1]; omega) (by rw [HV.1]; omega) HV.2.1 hDd (by omega) hDp (HV.ready hDw (by omega)).2.2) (fun x w w' hp Q hF hO=>⟨⟨((Q.1.1).fr (hF.mono (fun _ _ e=>by rw [e]; exact Nat.le_refl _))),hO⟩,((Q.2).fr hF (show ¬ (r22=r20) by omega))⟩) (fun x hx24=>?_)
    obtain ⟨zs24,rfl⟩:∃ y,y=x:=⟨_,rfl⟩
    have HS:=HV.step hDw hDp (by omega) (by omega) hx24.1 hx24.2
    have hql:=HV.2.2.1
    refine xr 0 [eS1 1 A2 ys.length c2,eS1 4 none 0 0,eS1 5 none 0 0,(8, .v (.int .i64 ((64 - blen t:Nat):Int))),eS1 9 A19 dd.length c19,eS1 10 (some ⟨r20,0,none⟩) (xs.length + 1) (xs.length + 1),(11, .v (.slice (some ⟨r22,0,none⟩) (xs.length - (ys.length) + 1) (xs.length - (ys.length) + 1))),(12, .v (.int .i64 ((j:Nat):Int))),(66, .v (.slice (some ⟨r22,0,none⟩) (xs.length - (ys.length) + 1) (xs.length - (ys.length) + 1))),(67, .v (.int .i64 ((j:Nat):Int))),(77, .v (.int .u64 ((win j dd.length zs / val W64 dd:Nat):Int)))] [] ?_
    refine xqk 78 (.pointer (some ⟨r22,j,none⟩)) (fun w R Q=>ZbD (t:=107) (e:=141) (x:=(Operand.tmp 66)) (ix:=(Operand.tmp 67)) (len:=(xs.length - (ys.length) + 1)) (cap:=(xs.length - (ys.length) + 1)) (i:=j) (by omega)) ?_
    refine Zb4 (t:=141) (x:=(Operand.tmp 78)) (y:=(Operand.tmp 77)) r22 (j) (win j dd.length zs / val W64 dd) (fun w=>((Box (fun j=>r20≤j) w (fun w=>((((((Zad w (.slice A xs.length c) (val W64 xs)∧Zae .u64 w A (xs))∧Zad w (.slice A2 ys.length c2) (val W64 ys))∧Zae .u64 w A2 (ys))∧True)∧True)∧Zad w (.slice A19 dd.length c19) (val W64 ys * 2 ^ (64 - blen t))))∧Own .u64 141 w r20 (zs24))∧Own .u64 141 w r22 ((qs).set (j) (win j dd.length zs / val W64 dd)))) (fun w Q=>Q.2) (by omega) (Or.inl hr22) (fun w w' Q hF hO=>⟨⟨((Q.1.1).fr (hF.mono (fun _ _ e=>by rw [e]; omega))),((Q.1.2).fr hF (show ¬ (r20=r22) by omega))⟩,hO⟩) ?_
    refine xe (ZaO (Zaa (Zab (xq 2 [(65, .v (.int .i64 (IntKind.i64.wrap (((j:Nat):Int) - 1))))] [] ?_))))
    rw [show IntKind.i64.wrap (((j:Nat):Int) - 1)=((j:Nat):Int) - 1 from by rw [IntKind.wrap_i64]; omega]
    refine xq 1 [(12, .v (.int .i64 (((j:Nat):Int) - 1)))] [] ?_
    refine xe ?_
    refine SXq.weak [(1, .v (.slice A2 ys.length c2)),(4, .v (.slice none 0 0)),(5, .v (.slice none 0 0)),(8, .v (.int .i64 ((64 - blen t:Nat):Int))),(9, .v (.slice A19 dd.length c19)),(10, .v (.slice (some ⟨r20,0,none⟩) (xs.length + 1) (xs.length + 1))),(11, .v (.slice (some ⟨r22,0,none⟩) (xs.length - (ys.length) + 1) (xs.length - (ys.length) + 1))),(12, .v (.int .i64 (((j:Nat):Int) - 1)))] [] (Ψ:=fun w=>((Box (fun j=>r20≤j) w (fun w=>((((((Zad w (.slice A xs.length c) (val W64 xs)∧Zae .u64 w A (xs))∧Zad w (.slice A2 ys.length c2) (val W64 ys))∧Zae .u64 w A2 (ys))∧True)∧True)∧Zad w (.slice A19 dd.length c19) (val W64 ys * 2 ^ (64 - blen t))))∧Own .u64 141 w r20 (zs24))∧Own .u64 141 w r22 (((qs).set (j) (win j dd.length zs / val W64 dd))))) (Zax.of (by kernel_rfl)) (by kernel_rfl) (fun w Q=>⟨⟨Q.1.1,Q.1.2⟩,Q.2⟩) ?_
    exact ZaF ((1 + j)) (by omega) ⟨j,zs24,((qs).set (j) (win j dd.length zs / val W64 dd)),rfl,rfl,HS,by omega,rfl⟩
   ·have hb23':=of_decide_eq_false hb23
    obtain rfl:k=0:=by omega
    refine ZaM (Zaj (Zaj (ZaV (Zaa (Zac (Zab (xq 1 [(79, .v (.slice (some ⟨r22,0,none⟩) (xs.length - (ys.length) + 1) (xs.length - (ys.length) + 1)))] [] ?_)))))))
    refine xqc 144 [.slice (some ⟨r22,0,none⟩) (xs.length - (ys.length) + 1) (xs.length - (ys.length) + 1)] 80 ZaA _ (fun w R Q=>(Zfo Q.2 HV.2.2.2.1 HV.2.2.1 ((HV.done hDp).1.trans (by rw [hDv,Zsp])) (by omega) (by omega)).mono (fun _ _=>Zau)) (fun xx=>?_)
    obtain ⟨A25,l25,c25⟩:=xx
    refine xq 1 [eS1 81 (some ⟨r20,0,none⟩) (xs.length + 1) (xs.length + 1)] [] ?_
    refine xqc 144 [.slice (some ⟨r20,0,none⟩) (xs.length + 1) (xs.length + 1)] 82 ZaA _ (fun w R Q=>(Zfo Q.1.1.2 HV.2.1 HV.1 (HV.done hDp).2 (by omega) (by omega)).mono (fun _ _=>Zau)) (fun xx=>?_)
    obtain ⟨A26,l26,c26⟩:=xx
    refine xq 1 [(83, .v (.int .i64 ((64 - blen t:Nat):Int)))] [] ?_
    refine xqc 140 [.slice A26 l26 c26, .int .i64 ((64 - blen t:Nat):Int)] 84 ZaA _ (fun w R Q=>(Zch (64 - blen t) Q.2 (Nat.le_trans (ZaU (Nat.le_of_lt (Nat.mod_lt _ hDp))) (by rw [← ZaE hDd hDt]; omega)) (by omega)).mono (fun _ _ h=>Zau (by rw [show (val W64 xs * 2 ^ (64 - blen t) % val W64 dd) / 2 ^ (64 - blen t)=val W64 xs % val W64 ys by rw [hDv,Zso]] at h; exact h))) (fun xx=>?_)
    obtain ⟨A27,l27,c27⟩:=xx
    refine xq 2 [eS1 4 A25 l25 c25,eS1 5 A27 l27 c27] [] ?_
    refine xe (Zaa (Zag ?_))
    refine Zaf (v:=.tuple #[.slice A25 l25 c25, .slice A27 l27 c27]) (by kernel_rfl) (fun w' R Q=>?_)
    exact ⟨_,_,rfl,Q.1.1.2,Q.2,R⟩
end Go.Proofs.YtenchljfmfgeoaaGreatDoor

namespace Go.Proofs.YtenchljfmfgeoaaGreatDoor
def isq (n:Nat):Nat:=if h:n=0 then 0 else let r:=2 * isq (n / 4); if (r + 1) * (r + 1)≤n then r + 1 else r
termination_by n
decreasing_by omega
theorem ZdI:∀ n,isq n * isq n≤n∧n < (isq n + 1) * (isq n + 1):=by
 intro n
 induction n using Nat.strongRecOn with
 | ind n ih =>
   by_cases h:n=0
   ·subst h; rw [isq]; simp
   ·obtain ⟨h1,h2⟩:=ih (n / 4) (by omega)
    rw [isq,dif_neg h]
    generalize isq (n / 4)=r at *
    simp only
    have e1:2 * r * (2 * r)=4 * (r * r):=by rw [Nat.mul_mul_mul_comm]
    have e2:(2 * r + 1 + 1) * (2 * r + 1 + 1)=4 * ((r + 1) * (r + 1)):=by
     rw [show 2 * r + 1 + 1=2 * (r + 1) by omega,Nat.mul_mul_mul_comm]
    split
    ·rename_i hle
     refine ⟨hle,?_⟩
     rw [e2]; omega
    ·rename_i hle
     refine ⟨?_,by omega⟩
     rw [e1]; omega
theorem Zi3 {n r:Nat} (h1:r * r≤n) (h2:n < (r + 1) * (r + 1)):isq n=r:=by
 obtain ⟨h3,h4⟩:=ZdI n
 rcases Nat.lt_trichotomy (isq n) r with h | h | h
 ·have:=Nat.mul_le_mul (show isq n + 1≤r by omega) (show isq n + 1≤r by omega); omega
 ·exact h
 ·have:=Nat.mul_le_mul (show r + 1≤isq n by omega) (show r + 1≤isq n by omega); omega
theorem pow4 (j:Nat):2 ^ (2 * j)=2 ^ j * 2 ^ j:=by rw [← Nat.pow_add]; congr 1; omega
theorem ZmD (n j:Nat):isq (n / 2 ^ (2 * j))=isq n / 2 ^ j:=by
 obtain ⟨h1,h2⟩:=ZdI n
 generalize isq n=r at *
 have d1:=Nat.div_add_mod r (2 ^ j)
 have d2:=Nat.mod_lt r (p2 j)
 refine Zi3 ?_ ?_
 ·rw [Nat.le_div_iff_mul_le (p2 _),pow4,Nat.mul_mul_mul_comm]
  have:r / 2 ^ j * 2 ^ j≤r:=Nat.div_mul_le_self _ _
  exact Nat.le_trans (Nat.mul_le_mul this this) h1
 ·rw [Nat.div_lt_iff_lt_mul (p2 _),pow4,Nat.mul_mul_mul_comm]
  have:r + 1≤(r / 2 ^ j + 1) * 2 ^ j:=by rw [Nat.add_mul,Nat.one_mul,Nat.mul_comm]; omega
  exact Nat.lt_of_lt_of_le h2 (Nat.mul_le_mul this this)
theorem Zp5 {n b:Nat} (h1:2 * b + 2≤blen n) (h2:blen n≤2 * b + 3):b + 1≤blen (isq n)∧blen (isq n)≤b + 2:=by
 obtain ⟨h3,h4⟩:=ZdI n
 have l:=ZcQ.1 (show 2 * b + 1 < blen n by omega)
 have u:=Zbu.1 h2
 generalize isq n=r at *
 have hb:b < blen r:=by
  refine Nat.lt_of_not_le fun h=>?_
  have:=Zbu.1 h
  have h5:=Nat.mul_le_mul (show r + 1≤2 ^ b by omega) (show r + 1≤2 ^ b by omega)
  rw [← pow4] at h5
  have:2 ^ (2 * b)≤2 ^ (2 * b + 1):=Nat.pow_le_pow_right (by decide) (by omega)
  omega
 refine ⟨by omega,Zbu.2 (Nat.lt_of_not_le fun h=>?_)⟩
 have h5:=Nat.mul_le_mul h h
 rw [← pow4] at h5
 have:2 ^ (2 * b + 3)≤2 ^ (2 * (b + 2)):=Nat.pow_le_pow_right (by decide) (by omega)
 omega
theorem ZoM (q j:Nat) (m:Bool):ZcB q j m=ZcB (q / 2 ^ j) 0 (decide (q % 2 ^ j≠0∨m=true)):=by
 unfold ZcB
 simp only [Nat.pow_zero,Nat.div_one,Nat.mod_one,Nat.zero_add,Nat.pow_one,ne_eq,not_true_eq_false,false_or,decide_eq_true_eq]
 rw [Nat.div_div_eq_div_mul,← Nat.pow_succ]
 have e:(¬ q % 2 ^ j=0∨q / 2 ^ (j + 1) % 2=1∨m=true) ↔ (q / 2 ^ (j + 1) % 2=1∨¬ q % 2 ^ j=0∨m=true):=by
  constructor
  ·rintro (h | h | h); exact Or.inr (Or.inl h); exact Or.inl h; exact Or.inr (Or.inr h)
  ·rintro (h | h | h); exact Or.inr (Or.inl h); exact Or.inl h; exact Or.inr (Or.inr h)
 simp only [Nat.succ_eq_add_one,e]
def Zb9 (M:Nat) (s:Int):Bool:=decide (s < 0∨isq (fq M 1 (-s)) * isq (fq M 1 (-s))≠fq M 1 (-s))
theorem ZeQ (M:Nat) (s:Nat):fq M 1 (-(s:Int))=M * 2 ^ s:=by
 unfold fq fa fb
 rw [show (- -(s:Int)).toNat=s by omega,show (-(s:Int)).toNat=0 by omega]; simp
theorem Znv {M:Nat} (hM:M % 2=1) (s:Int) (j:Nat):Zb9 M (s - 2 * j)=decide (isq (fq M 1 (-s)) % 2 ^ j≠0∨Zb9 M s=true):=by
 unfold Zb9
 have ef:fq M 1 (-(s - 2 * j))=fq M 1 (-s) / 2 ^ (2 * j):=by rw [← Zey]; congr 1; omega
 rw [ef,ZmD]
 simp only [decide_eq_true_eq]
 rw [decide_eq_decide]
 constructor
 ·intro h
  refine Classical.byContradiction fun hc=>?_
  have c1:isq (fq M 1 (-s)) % 2 ^ j=0:=Classical.byContradiction fun h=>hc (Or.inl h)
  have c2:0≤s:=Classical.byContradiction fun h=>hc (Or.inr (Or.inl (by omega)))
  have c3:isq (fq M 1 (-s)) * isq (fq M 1 (-s))=fq M 1 (-s):=Classical.byContradiction fun h=>hc (Or.inr (Or.inr h))
  obtain ⟨t,rfl⟩:=Int.eq_ofNat_of_zero_le c2
  rw [ZeQ] at *
  generalize isq (M * 2 ^ t)=r at *
  obtain ⟨q,rfl⟩:=Nat.dvd_of_mod_eq_zero c1
  rw [Nat.mul_div_cancel_left _ (p2 j)] at h
  have e:M * 2 ^ t=(q * q) * 2 ^ (2 * j):=by rw [← c3,pow4]; simp only [Nat.mul_assoc,Nat.mul_comm,Nat.mul_left_comm]
  rcases h with h | h
  ·have hq:0 < q:=by
    rcases Nat.eq_zero_or_pos q with e0 | e0
    ·subst e0
     have:0 < M * 2 ^ t:=Nat.mul_pos (by omega) (p2 t)
     simp at c3; omega
    ·exact e0
   have h1:=Zf0 hM t
   rw [e,ZfZ (Nat.mul_pos hq hq)] at h1
   omega
  ·rw [e,Nat.mul_div_cancel _ (p2 _)] at h
   exact h rfl
 ·intro h
  refine Classical.byContradiction fun hc=>?_
  have c2:0≤s - 2 * j:=Classical.byContradiction fun h=>hc (Or.inl (by omega))
  have c3:isq (fq M 1 (-s)) / 2 ^ j * (isq (fq M 1 (-s)) / 2 ^ j)=fq M 1 (-s) / 2 ^ (2 * j):=Classical.byContradiction fun h=>hc (Or.inr h)
  obtain ⟨t,ht⟩:=Int.eq_ofNat_of_zero_le c2
  obtain rfl:s=((t + 2 * j:Nat):Int):=by omega
  rw [ZeQ] at *
  have e1:M * 2 ^ (t + 2 * j) / 2 ^ (2 * j)=M * 2 ^ t:=by rw [Nat.pow_add,← Nat.mul_assoc,Nat.mul_div_cancel _ (p2 _)]
  rw [e1] at c3
  obtain ⟨q,hq⟩:∃ q,isq (M * 2 ^ (t + 2 * j)) / 2 ^ j=q:=⟨_,rfl⟩
  rw [hq] at c3
  have e2:M * 2 ^ (t + 2 * j)=q * 2 ^ j * (q * 2 ^ j):=by
   rw [Nat.mul_mul_mul_comm,c3,← pow4,Nat.pow_add,Nat.mul_assoc]
  have e3:isq (M * 2 ^ (t + 2 * j))=q * 2 ^ j:=Zi3 (by rw [← e2]; exact Nat.le_refl _) (by
   rw [e2]; have:=Nat.mul_lt_mul'' (Nat.lt_succ_self (q * 2 ^ j)) (Nat.lt_succ_self (q * 2 ^ j)); exact this)
  rw [e3] at h
  rcases h with h | h | h
  ·exact h (Nat.mul_mod_left _ _)
  ·omega
  ·exact h e2.symm
def sqK (M:Nat) (E:Int) (bits:Nat):Int:=((blen M:Int) + E - 1) / 2 - ((bits:Int) - 1)
def sqM (M:Nat) (E:Int) (bits:Nat):Nat:=ZcB (isq (fq M 1 (-(E - 2 * sqK M E bits + 2)))) 0 (Zb9 M (E - 2 * sqK M E bits + 2))
theorem Zgq {M:Nat} (h:0 < M) (s:Int) (hs:0≤(blen M:Int) + s):(blen (fq M 1 (-s)):Int)=blen M + s:=by
 rcases Int.le_total 0 s with h1 | h1
 ·obtain ⟨t,rfl⟩:=Int.eq_ofNat_of_zero_le h1
  rw [ZeQ,Zex h]; omega
 ·obtain ⟨t,ht⟩:=Int.eq_ofNat_of_zero_le (show 0 ≤ -s by omega)
  have:=Zey M 1 0 t
  rw [Int.zero_add] at this
  rw [ht,this,ZdR]
  have e:fq M 1 0=M:=by unfold fq fa fb; simp
  rw [e]; omega
theorem Zp6 {M:Nat} (hM:M % 2=1) (E:Int) {bits:Nat} (hb:0 < bits) (s:Int) (hs:(E - s) % 2=0) (h1:(2 * bits + 2:Int)≤blen M + s) (h2:(blen M:Int) + s≤2 * bits + 3) :
 let r:=isq (fq M 1 (-s)); let j:=blen r - bits - 1
 blen r=bits + (j + 1)∧(E - s) / 2 + (j + 1:Nat)=sqK M E bits∧sqM M E bits=ZcB r j (Zb9 M s):=by
 intro r j
 have hM0:0 < M:=by omega
 have hlen:=Zgq hM0 s (by omega)
 obtain ⟨k1,k2⟩:=Zp5 (b:=bits) (n:=fq M 1 (-s)) (by omega) (by omega)
 have hj:blen r=bits + (j + 1):=by show blen (isq (fq M 1 (-s)))=bits + (blen (isq (fq M 1 (-s))) - bits - 1 + 1); omega
 have hjle:j≤1:=by show blen (isq (fq M 1 (-s))) - bits - 1≤1; omega
 -- the exponent
 obtain ⟨i1,i2⟩:=ZdI (fq M 1 (-s))
 have hr:isq (fq M 1 (-s))=r:=rfl
 rw [hr] at i1 i2
 have hr1:=ZcQ.1 (show bits + j < blen r by omega)
 have hr2:=Zbu.1 (show blen r≤bits + j + 1 by omega)
 have u1:2 ^ (2 * (bits + j))≤fq M 1 (-s):=by rw [pow4]; exact Nat.le_trans (Nat.mul_le_mul hr1 hr1) i1
 have u2:fq M 1 (-s) < 2 ^ (2 * (bits + j + 1)):=by rw [pow4]; exact Nat.lt_of_lt_of_le i2 (Nat.mul_le_mul hr2 hr2)
 have v1:=ZcQ.2 u1
 have v2:=Zbu.2 u2
 have hK:(E - s) / 2 + (j + 1:Nat)=sqK M E bits:=by unfold sqK; omega
 refine ⟨hj,hK,?_⟩
 unfold sqM
 have es:E - 2 * sqK M E bits + 2=s - 2 * (j:Int):=by rw [← hK]; omega
 have ef:fq M 1 (-(s - 2 * (j:Int)))=fq M 1 (-s) / 2 ^ (2 * j):=by rw [← Zey]; congr 1; omega
 rw [es,ef,ZmD,ZoM r j,Znv hM]
end Go.Proofs.YtenchljfmfgeoaaGreatDoor

namespace Go.Proofs.YtenchljfmfgeoaaGreatDoor
structure FR where
 s:Bool
 m:Nat
 e:Int
 err:Int
def ZkC:FR:=⟨false,0,0,0⟩
def errR (k:Int):FR:=⟨false,0,0,k⟩
def okE (e:Int):Prop := -1048576≤e∧e≤1048576
instance (e:Int):Decidable (okE e):=inferInstanceAs (Decidable (_∧_))
def ZaW (s:Bool) (n:Nat) (e:Int):FR:=if n=0 then ZkC else if okE (e + tzn n) then ⟨s,oddM n,e + tzn n,0⟩ else errR 2
theorem ZoN {n:Nat} (s:Bool) (h:0 < n) (j:Nat) (e:Int):ZaW s (n * 2 ^ j) e=ZaW s n (e + j):=by
 unfold ZaW
 have h2:=Nat.mul_pos h (p2 j)
 rw [if_neg (show ¬ n * 2 ^ j=0 by omega),if_neg (show ¬ n=0 by omega),ZfZ h,ZpY h]
 have:e + ((tzn n + j:Nat):Int)=e + j + tzn n:=by omega
 rw [this]
def Za5 (s:Bool) (n:Nat) (e:Int) (bits:Nat) (more:Bool):FR :=
 if blen n≤bits then ZaW s n e else ZaW s (ZcB n (blen n - bits - 1) more) (e + (blen n - bits:Nat))
def Zbd (s:Bool) (n d:Nat) (e:Int) (bits:Nat):FR:=if n=0 then ZkC else ZaW s (rndM n d bits) (e + rndK n d bits)
theorem Zh2 (s:Bool) (e:Int) (bits:Nat) (more:Bool):Za5 s 0 e bits more=ZkC:=by
 unfold Za5; rw [if_pos (by rw [ZdQ]; omega)]; rfl
theorem Zdw (s:Bool) (d:Nat) (e:Int) (bits:Nat):Zbd s 0 d e bits=ZkC:=rfl
theorem ZbF (s:Bool) (n:Nat) (e:Int) {bits:Nat} (hb:0 < bits):Za5 s n e bits false=Zbd s n 1 e bits:=by
 rcases Nat.eq_zero_or_pos n with rfl | hn
 ·rw [Zh2,Zdw]
 ·unfold Za5 Zbd
  rw [if_neg (show ¬ n=0 by omega)]
  split
  ·rename_i h
   obtain ⟨h1,h2⟩:=Zrs hn hb h
   rw [h1,h2,ZoN s hn]
   congr 1; omega
  ·rename_i h
   obtain ⟨j,hj⟩:∃ j,blen n=bits + (j + 1):=⟨blen n - bits - 1,by omega⟩
   have e0:fq n 1 0=n:=by unfold fq fa fb; simp
   have e1:fa n 0 % fb 1 0=0:=by unfold fb; simp [Nat.mod_one]
   obtain ⟨h1,h2⟩:=Zhi hn (d:=1) (by decide) hb 0 j (by rw [e0]; exact hj)
   rw [e0,e1] at h2
   rw [h1,h2,hj,show bits + (j + 1) - bits - 1=j by omega,show bits + (j + 1) - bits=j + 1 by omega,Int.zero_add]
   rfl
theorem Zl6 (s:Bool) {n d:Nat} (e:Int) {bits:Nat} (hn:0 < n) (hd:0 < d) (hb:0 < bits) :
 Za5 s (fq n d (rk0 n d bits - 1)) (e + (rk0 n d bits - 1)) bits (decide (fa n (rk0 n d bits - 1) % fb d (rk0 n d bits - 1)≠0))=Zbd s n d e bits:=by
 obtain ⟨h1,h2⟩:=Zlg hn hd hb
 have h3:=Zey n d (rk0 n d bits - 1) 1
 rw [show rk0 n d bits - 1 + (1:Nat)=rk0 n d bits by omega] at h3
 rw [h3,ZdR] at h1 h2
 generalize hk:rk0 n d bits - 1=k at *
 obtain ⟨j,hj⟩:∃ j,blen (fq n d k)=bits + (j + 1):=⟨blen (fq n d k) - bits - 1,by omega⟩
 obtain ⟨k1,k2⟩:=Zhi hn hd hb k j hj
 unfold Za5 Zbd
 rw [if_neg (by omega),if_neg (by omega),k1,k2,hj,show bits + (j + 1) - bits - 1=j by omega,show bits + (j + 1) - bits=j + 1 by omega,Int.add_assoc]
def addR (sx:Bool) (xm:Nat) (xe:Int) (sy:Bool) (ym:Nat) (ye:Int) (bits:Nat):FR :=
 Zbd (decide (sg sx (xm * 2 ^ (xe - min xe ye).toNat) + sg sy (ym * 2 ^ (ye - min xe ye).toNat) < 0)) (sg sx (xm * 2 ^ (xe - min xe ye).toNat) + sg sy (ym * 2 ^ (ye - min xe ye).toNat)).natAbs 1 (min xe ye) bits
theorem ZoO (sx:Bool) (xm:Nat) (xe:Int) (sy:Bool) (ym:Nat) (ye:Int) (bits:Nat):addR sx xm xe sy ym ye bits=addR sy ym ye sx xm xe bits:=by
 unfold addR; rw [Int.min_comm ye xe,Int.add_comm]
theorem Zj3 {a s r:Nat} (sn:Bool) (e:Int) {bits:Nat} (hb:0 < bits) (ha:bits + 1≤blen a) (hr0:0 < r) (hr:r < 2 ^ s) :
 Zbd sn (a * 2 ^ s + r) 1 e bits=ZaW sn (ZcB a (blen a - bits - 1) true) (e + s + (blen a:Int) - bits):=by
 obtain ⟨h1,h2⟩:=Zrt hb ha hr0 hr
 unfold Zbd
 rw [if_neg (by omega),h1,h2]
 congr 1; omega
theorem ZoP {s t:Bool} {a b:Nat} (h:b < a):decide (sg s a + sg t b < 0)=s∧(sg s a + sg t b).natAbs=(if s=t then a + b else a - b):=by
 cases s<;>cases t<;>simp [sg]<;>omega
theorem Znw (sx:Bool) {xm:Nat} (xe:Int) (sy:Bool) {ym:Nat} (ye:Int) {bits:Nat} (hb:0 < bits) (hx:0 < xm) (hy:0 < ym) {f:Int} (h1:f≤xe) (h2:f≤blen xm + xe - bits - 2) (h3:blen ym + ye≤f) :
 addR sx xm xe sy ym ye bits=addR sx xm xe sy 1 (f - 1) bits:=by
 have hy1:=ZdH hy
 have key:∀ (s r:Nat) (E:Int),E=f - s→0 < r→r < 2 ^ s→Zbd (decide (sg sx (xm * 2 ^ (xe - E).toNat) + sg sy r < 0)) (sg sx (xm * 2 ^ (xe - E).toNat) + sg sy r).natAbs 1 E bits =
  ZaW sx (ZcB (if sx=sy then xm * 2 ^ (xe - f).toNat else xm * 2 ^ (xe - f).toNat - 1) (blen (if sx=sy then xm * 2 ^ (xe - f).toNat else xm * 2 ^ (xe - f).toNat - 1) - bits - 1) true) (f + (blen (if sx=sy then xm * 2 ^ (xe - f).toNat else xm * 2 ^ (xe - f).toNat - 1):Int) - bits):=by
  intro s r E Q hr0 hr
  have hxs:xm * 2 ^ (xe - E).toNat=xm * 2 ^ (xe - f).toNat * 2 ^ s:=by
   rw [Nat.mul_assoc,← Nat.pow_add]; congr 2; omega
  have hX:bits + 2≤blen (xm * 2 ^ (xe - f).toNat):=by rw [Zex hx]; omega
  rw [hxs]
  generalize xm * 2 ^ (xe - f).toNat=X at *
  have hX2:=ZcQ.1 (show bits + 1 < blen X by omega)
  have hp:2 ^ bits * 2=2 ^ (bits + 1):=(Nat.pow_succ ..).symm
  have hpb:=p2 bits
  have hps:=p2 s
  have hX1:1≤X:=by omega
  have hge:2 ^ s≤X * 2 ^ s:=by have:=Nat.mul_le_mul_right (2 ^ s) hX1; omega
  obtain ⟨e1,e2⟩:=ZoP (s:=sx) (t:=sy) (show r < X * 2 ^ s by omega)
  rw [e1,e2]
  by_cases hs:sx=sy
  ·rw [if_pos hs,if_pos hs,Zj3 sx E hb (by omega) hr0 hr]
   congr 1; omega
  ·rw [if_neg hs,if_neg hs]
   have e3:X * 2 ^ s - r=(X - 1) * 2 ^ s + (2 ^ s - r):=by rw [Nat.sub_mul,Nat.one_mul]; omega
   have hlen:bits + 1≤blen (X - 1):=ZcQ.2 (by omega)
   rw [e3,Zj3 sx E hb hlen (by omega) (by omega)]
   congr 1; omega
 have hye:ye < f:=by omega
 obtain ⟨s,hs⟩:=Int.eq_ofNat_of_zero_le (show 0≤f - ye by omega)
 have k1:=key s ym ye (by omega) hy (Nat.lt_of_lt_of_le (Zcs ym) (Nat.pow_le_pow_right (by decide) (by omega)))
 have k2:=key 1 1 (f - 1) (by omega) (by decide) (by decide)
 unfold addR
 rw [show min xe ye=ye by omega,show min xe (f - 1)=f - 1 by omega,show (ye - ye).toNat=0 by omega,show (f - 1 - (f - 1)).toNat=0 by omega]
 simp only [Nat.pow_zero,Nat.mul_one]
 rw [k1,k2]
def Zfp (m:Nat) (e:Int) (bits:Nat):FR:=ZaW false (sqM m e bits) (sqK m e bits)
theorem Zeo {m:Nat} (hm:m % 2=1) (e:Int) {bits:Nat} (hb:0 < bits) (s:Int) (hs:(e - s) % 2=0) (h1:(2 * bits + 2:Int)≤blen m + s) (h2:(blen m:Int) + s≤2 * bits + 3) :
 Za5 false (isq (fq m 1 (-s))) ((e - s) / 2) bits (Zb9 m s)=Zfp m e bits:=by
 obtain ⟨k1,k2,k3⟩:=Zp6 hm e hb s hs h1 h2
 unfold Za5 Zfp
 rw [if_neg (by omega),k3,← k2]
 congr 1; omega
end Go.Proofs.YtenchljfmfgeoaaGreatDoor

namespace Go.Proofs.YtenchljfmfgeoaaGreatDoor
open Go.RowKit
def shNb (r:FR) (x:ShN):Value:=.tuple #[.agg #[.bool r.s, .slice x.1 x.2.1 x.2.2, .int .i64 r.e], .int .i64 r.err]
def ZaH (w:World) (r:FR) (e:Ending) (w':World):Prop:=∃ x:ShN,e=.returned (shNb r x)∧Zad w' (ZaA x) r.m∧Ext w w'
theorem ZaJ {w w':World} {e:Ending} {r:FR} (h:ZaH w r e w'):ZbA (shNb r) (fun x w=>Zad w (ZaA x) r.m) w e w':=by
 obtain ⟨x,rfl,hI,Q⟩:=h
 exact ⟨x,rfl,Q,boxn Q (fun S w'' hS hF=>hI.nrb hS hF)⟩
theorem Znx (s:Bool) (e:Int):ZaW s 0 e=⟨false,0,0,0⟩:=rfl
theorem Zp7 {n:Nat} (s:Bool) {e:Int} (h0:0 < n) (h1:¬ e + tzn n < -1048576) (h2:¬ e + tzn n > 1048576):ZaW s n e=⟨s,oddM n,e + tzn n,0⟩:=by
 unfold ZaW
 rw [if_neg (by omega),if_pos ⟨by omega,by omega⟩]
theorem Zj4 {n:Nat} (s:Bool) {e:Int} (h0:0 < n) (h:e + tzn n < -1048576∨e + tzn n > 1048576):ZaW s n e=⟨false,0,0,2⟩:=by
 unfold ZaW
 rw [if_neg (by omega),if_neg (by rintro ⟨h1,h2⟩; omega)]; rfl
theorem ZcS (n:Nat):blen n≤64 * wl n:=by
 rw [Zbu,Nat.pow_mul]
 have:=ZhA n
 rwa [Zan] at this
theorem Zsq {n:Nat} (h:wl n≤4294967296):tzn n≤274877906944:=by
 rcases Nat.eq_zero_or_pos n with rfl | h0
 ·rw [tzn,dif_pos (Or.inl rfl)]; omega
 ·obtain ⟨h1,h2⟩:=Zdo h0
  have h3:blen n=blen (oddM n) + tzn n:=by
   have:=Zex (show 0 < oddM n by omega) (tzn n)
   rwa [← h2] at this
  have:=ZcS n
  omega
theorem Zi4 {n:Nat} (h:wl n≤4294967296):blen n≤274877906944:=by have:=ZcS n; omega
theorem Zgr {s:Bool} {n bits:Nat} {e:Int} {m:Bool} (h:blen n≤bits):Za5 s n e bits m=ZaW s n e:=by unfold Za5; rw [if_pos h]
theorem ZcC {s:Bool} {n bits j:Nat} {e:Int} {m:Bool} (h:blen n=bits + (j + 1)) (h1:n / 2 ^ j % 2=1) (h2:tzn n < j∨n / 2 ^ (j + 1) % 2=1∨m=true) (h0:0 < n) :
 Za5 s n e bits m=ZaW s (n / 2 ^ (j + 1) + 1) (e + ((j + 1:Nat):Int)):=by
 unfold Za5 ZcB
 rw [if_neg (by omega),h,show bits + (j + 1) - bits - 1=j by omega,show bits + (j + 1) - bits=j + 1 by omega,if_pos ⟨h1,by rw [← ZoG h0]; exact h2⟩]
theorem Zc8 {s:Bool} {n bits j:Nat} {e:Int} {m:Bool} (h:blen n=bits + (j + 1)) (h0:0 < n) (h1:¬ (n / 2 ^ j % 2=1∧(tzn n < j∨n / 2 ^ (j + 1) % 2=1∨m=true))) :
 Za5 s n e bits m=ZaW s (n / 2 ^ (j + 1)) (e + ((j + 1:Nat):Int)):=by
 unfold Za5 ZcB
 rw [if_neg (by omega),h,show bits + (j + 1) - bits - 1=j by omega,show bits + (j + 1) - bits=j + 1 by omega,if_neg (by rw [← ZoG h0]; exact h1)]
theorem Zsr:Trim [1]:=by
 intro k hk
 have:k=0:=by simp at hk; omega
 subst this
 simp
theorem wl_1:wl 1≤4294967296:=Nat.le_trans (ZdW.2 (by rw [Zan]; decide)) (by decide)
theorem Zcu {w:World} {b:Nat} (h:Blk 141 w b #[.int .u64 1]):Zad w (.slice (some ⟨b,0,none⟩) 1 1) 1 :=
 ⟨_,[1],1,rfl,Nat.le_refl _,(Blk.own1 (r:=1) h).shows0,Dig.nil.cons (by rw [Zan]; decide),Zsr,rfl⟩
def Zgs (w:World) (Q:Nat) (v:Value):Prop:=Q < w.heap.size∧w.cell? ⟨Q,0,none⟩=some v
theorem Zgs.ext {w w':World} {Q:Nat} {v:Value} (h:Zgs w Q v) (hf:Ext w w'):Zgs w' Q v:=⟨Nat.lt_of_lt_of_le h.1 hf.size,(hf.cell (p:=⟨Q,0,none⟩) h.1 (fun f=>f)).trans h.2⟩
set_option maxHeartbeats 1000000 in
theorem ZoQ (Q:Nat) (A:Option Addr) (l c:Nat) (w:World) (h:Zgs w Q (.slice A l c)):Calls Tryz.prog 159 #[.pointer (some ⟨Q,0,none⟩)] w (RetV w (.bool (decide (0 < l)))):=by
 have hc:=h.2
 go_enter Tryz.func159,Tryz.ntmps159
 go_wp2
 go_ret
 exact ⟨congrArg Ending.returned (congrArg Value.bool (decide_eq_decide.2 (by omega))),Fr.refl _ _⟩
set_option maxHeartbeats 1000000 in
theorem ZoR (w:World):Calls Tryz.prog 133 #[] w (RetV w (.bool false)):=by
 go_enter Tryz.func133,Tryz.ntmps133
 go_wp2
 go_ret
 exact ⟨rfl,Fr.refl _ _⟩
theorem Zbz (s:Bool) (A:Option Addr) (l c n:Nat) (e:Int) (w:World) (hg:Glob w) (hN:Zad w (.slice A l c) n) (hw:wl n≤4294967296) (he1 : -1152921504606846976≤e) (he2:e≤1152921504606846976) :
 Calls Tryz.prog 138 #[.bool s, .slice A l c, .int .i64 e] w (ZaH w (ZaW s n e)):=by
 refine Zas (Φ:=fun w=>(Glob w∧Zad w (.slice A l c) (n))) Tryz.func138 rfl (by kernel_rfl) (fun w' hf=>⟨hg.ext hf,hN.ext hf⟩) ?_
 refine Zac ?_
 have hln:=hN.len0
 have htz:=Zsq hw
 have hzz:=@Zbk n
 refine Zab (xq 2 [(6, .p 6 0),(7, .v (.int .i64 0))] [(6,109,[.v (.bool false), .v (.slice none 0 0), .v (.int .i64 0)])] ?_)
 refine xe (Zaa (Zac (Zac (Zab (xq 3 [(11, .v (.bool ((((l:Nat):Int):Int) == 0)))] [] ?_)))))
 refine xe (Zaa ?_)
 refine Zap (((((l:Nat):Int):Int) == 0)) (by kernel_rfl) (fun hb10=>?_) (fun hb10=>?_)
 ·have hb10':=beq_iff_eq.1 hb10
  have h0:n=0:=by omega
  refine Zac (Zab (xq 3 [(7, .v (.int .i64 0))] [] ?_))
  refine xe (Zaa (Zag (Zai ?_)))
  refine Zaf (v:=.tuple #[.agg #[.bool false, .slice none 0 0, .int .i64 0], .int .i64 0]) (by kernel_rfl) (fun w' R Q=>?_)
  rw [h0,Znx]
  exact ⟨(none,0,0),rfl,Zad.zero _,R⟩
 ·have hb10':=Zbh hb10
  have h0:0 < n:=by omega
  refine Zal (Zaa (Zac (Zab (xq 1 [eS1 13 A l c] [] ?_))))
  refine xqc 171 [.slice A l c] 14 (fun _:Unit=>.int .i64 ((tzn n:Nat):Int)) _ (fun w R Q=>(ZeJ Q.1 Q.2 hw h0).mono (fun _ _ h=>Zam h rfl)) (fun xx=>?_)
  refine xq 1 [(8, .v (.int .i64 ((tzn n:Nat):Int)))] [] ?_
  refine xe (Zaa (Zac (Zab (xq 3 [(17, .v (.int .i64 (IntKind.i64.wrap (e + ((tzn n:Nat):Int)))))] [] ?_))))
  rw [show IntKind.i64.wrap (e + ((tzn n:Nat):Int))=e + ((tzn n:Nat):Int) from by rw [IntKind.wrap_i64]; omega]
  refine xq 1 [(2, .v (.int .i64 (e + ((tzn n:Nat):Int))))] [] ?_
  refine xe (Zaa (Zac (Zac (Zab (xq 3 [(20, .v (.bool (decide ((e + ((tzn n:Nat):Int)) < (-1048576)))))] [] ?_)))))
  rcases bl2 ((decide ((e + ((tzn n:Nat):Int)) < (-1048576)))) with hb11 | hb11
  ·rw [hb11]
   have hb11':=of_decide_eq_true hb11
   refine xq 3 [(23, .v (.bool true))] [] ?_
   refine xe (Zaa (xa (Zac (Zab (xq 3 [(7, .v (.int .i64 2))] [] ?_)))))
   refine xe (Zaa (Zag (Zai ?_)))
   refine Zaf (v:=.tuple #[.agg #[.bool false, .slice none 0 0, .int .i64 0], .int .i64 2]) (by kernel_rfl) (fun w' R Q=>?_)
   rw [Zj4 s h0 (by omega)]
   exact ⟨(none,0,0),rfl,Zad.zero _,R⟩
  ·rw [hb11]
   have hb11':=of_decide_eq_false hb11
   refine xq 3 [(23, .v (.bool (decide ((e + ((tzn n:Nat):Int)) > 1048576))))] [] ?_
   refine xe (Zaa ?_)
   refine Zap ((decide ((e + ((tzn n:Nat):Int)) > 1048576))) (by kernel_rfl) (fun hb12=>?_) (fun hb12=>?_)
   ·have hb12':=of_decide_eq_true hb12
    refine Zac (Zab (xq 3 [(7, .v (.int .i64 2))] [] ?_))
    refine xe (Zaa (Zag (Zai ?_)))
    refine Zaf (v:=.tuple #[.agg #[.bool false, .slice none 0 0, .int .i64 0], .int .i64 2]) (by kernel_rfl) (fun w' R Q=>?_)
    rw [Zj4 s h0 (by omega)]
    exact ⟨(none,0,0),rfl,Zad.zero _,R⟩
   ·have hb12':=of_decide_eq_false hb12
    refine Zal (Zaa (Zac (Zab (xq 3 [(25, .v (.bool s)),eS1 26 A l c,(27, .v (.int .i64 ((tzn n:Nat):Int)))] [] ?_))))
    refine xqc 140 [.slice A l c, .int .i64 ((tzn n:Nat):Int)] 28 ZaA _ (fun w R Q=>(Zch (tzn n) Q.1.2 hw (by omega)).mono (fun _ _=>Zau)) (fun xx=>?_)
    obtain ⟨A13,l13,c13⟩:=xx
    refine xq 4 [(7, .v (.int .i64 0))] [(6,109,[.v (.bool s), .v (.slice A13 l13 c13), .v (.int .i64 (e + ((tzn n:Nat):Int)))])] ?_
    refine xe (Zaa (Zag ?_))
    refine Zaf (v:=.tuple #[.agg #[.bool s, .slice A13 l13 c13, .int .i64 (e + ((tzn n:Nat):Int))], .int .i64 0]) (by kernel_rfl) (fun w' R Q=>?_)
    rw [Zp7 s h0 (by omega) (by omega)]
    exact ⟨(A13,l13,c13),rfl,Q.2,R⟩
theorem Zcd (s:Bool) (A:Option Addr) (l c n:Nat) (e:Int) (bits:Nat) (w:World) (hg:Glob w) (hN:Zad w (.slice A l c) n) (hw:wl n≤4294967296) (he1 : -576460752303423488≤e) (he2:e≤576460752303423488) (hb:bits≤4294967296) :
 Calls Tryz.prog 132 #[.bool s, .slice A l c, .int .i64 e, .int .i64 ((bits:Nat):Int), .func (.func 133) #[] #[]] w (ZaH w (Za5 s n e bits false)):=by
 refine Zas (Φ:=fun w=>(Glob w∧Zad w (.slice A l c) (n))) Tryz.func132 rfl (by kernel_rfl) (fun w' hf=>⟨hg.ext hf,hN.ext hf⟩) ?_
 refine Zac ?_
 have hbw:=Zi4 hw
 by_cases hfew:blen n≤bits
 ·obtain ⟨k,hk⟩:∃ k,bits=blen n + k:=⟨bits - blen n,by omega⟩
  refine Zab (xq 2 [(10, .p 10 0),(11, .v (.int .i64 0))] [(10,109,[.v (.bool false), .v (.slice none 0 0), .v (.int .i64 0)])] ?_)
  refine xe (Zaa (Zac (Zab (xq 1 [eS1 14 A l c] [] ?_))))
  refine xqc 139 [.slice A l c] 15 (fun _:Unit=>.int .i64 ((blen n:Nat):Int)) _ (fun w R Q=>(ZbE Q.2 hw).mono (fun _ _ h=>Zam h rfl)) (fun xx=>?_)
  refine xq 2 [(17, .v (.int .i64 (IntKind.i64.wrap (((blen n:Nat):Int) - ((bits:Nat):Int)))))] [] ?_
  rw [show IntKind.i64.wrap (((blen n:Nat):Int) - ((bits:Nat):Int)) = -((k:Nat):Int) from by rw [IntKind.wrap_i64]; omega]
  refine xq 1 [(12, .v (.int .i64 (-((k:Nat):Int))))] [] ?_
  refine xe (Zaa (Zac (Zac (Zab (xq 2 [(19, .v (.bool (decide ((-((k:Nat):Int))≤0))))] [] ?_)))))
  rw [show decide (-((k:Nat):Int)≤0)=true from decide_eq_true (by omega)]
  refine xe (Zaa (xa (Zac (Zab (xq 3 [(20, .v (.bool s)),eS1 21 A l c,(22, .v (.int .i64 e))] [] ?_)))))
  obtain ⟨r10,hr10⟩:∃ r,ZaW s (n) (e)=r:=⟨_,rfl⟩
  refine xqc 138 [.bool s, .slice A l c, .int .i64 e] 23 (shNb r10) _ (fun w R Q=>((show Calls _ _ _ _ (ZaH w r10) from by rw [← hr10]; exact Zbz s _ _ _ _ _ _ Q.1.1 Q.1.2 hw (by omega) (by omega))).mono (fun _ _=>ZaJ)) (fun xx=>?_)
  obtain ⟨A10,l10,c10⟩:=xx
  refine xq 4 [(11, .v (.int .i64 r10.err))] [(10,109,[.v (.bool r10.s), .v (.slice A10 l10 c10), .v (.int .i64 r10.e)])] ?_
  refine xe (Zaa (Zag (Zai ?_)))
  refine Zaf (v:=.tuple #[.agg #[.bool r10.s, .slice A10 l10 c10, .int .i64 r10.e], .int .i64 r10.err]) (by kernel_rfl) (fun w' R Q=>?_)
  rw [Zgr hfew,hr10]
  exact ⟨(A10,l10,c10),rfl,Q.2,R⟩
 ·obtain ⟨j,hj⟩:∃ j,blen n=bits + (j + 1):=⟨blen n - bits - 1,by omega⟩
  have h0:0 < n:=Nat.pos_of_ne_zero (fun e=>by rw [e,ZdQ] at hfew; omega)
  have hw2:wl (n / 2 ^ (j + 1))≤4294967296:=Nat.le_trans (ZaU (Nat.div_le_self _ _)) hw
  have hw3:wl (n / 2 ^ (j + 1) + 1)≤4294967296:=Nat.le_trans (ZaU (Nat.div_lt_self h0 (Nat.one_lt_two_pow (by omega)))) hw
  obtain ⟨b1,hb1⟩:∃ b:Bool,decide (n / 2 ^ j % 2=1)=b:=⟨_,rfl⟩
  obtain ⟨b2,hb2⟩:∃ b:Bool,decide (n / 2 ^ (j + 1) / 2 ^ 0 % 2=1)=b:=⟨_,rfl⟩
  obtain ⟨b3,hb3⟩:∃ b:Bool,false=b:=⟨_,rfl⟩
  refine Zab (xq 2 [(10, .p 10 0),(11, .v (.int .i64 0))] [(10,109,[.v (.bool false), .v (.slice none 0 0), .v (.int .i64 0)])] ?_)
  refine xe (Zaa (Zac (Zab (xq 1 [eS1 14 A l c] [] ?_))))
  refine xqc 139 [.slice A l c] 15 (fun _:Unit=>.int .i64 ((blen n:Nat):Int)) _ (fun w R Q=>(ZbE Q.2 hw).mono (fun _ _ h=>Zam h rfl)) (fun xx=>?_)
  refine xq 2 [(17, .v (.int .i64 (IntKind.i64.wrap (((blen n:Nat):Int) - ((bits:Nat):Int)))))] [] ?_
  rw [show IntKind.i64.wrap (((blen n:Nat):Int) - ((bits:Nat):Int))=((j + 1:Nat):Int) from by rw [IntKind.wrap_i64]; omega]
  refine xq 1 [(12, .v (.int .i64 ((j + 1:Nat):Int)))] [] ?_
  refine xe (Zaa (Zac (Zac (Zab (xq 2 [(19, .v (.bool (decide (((j + 1:Nat):Int)≤0))))] [] ?_)))))
  rw [show decide (((j + 1:Nat):Int)≤0)=false from decide_eq_false (by omega)]
  refine xe (Zaa (xb (Zal (Zaa (Zac (Zab (xq 2 [eS1 26 A l c,(27, .v (.int .i64 ((j + 1:Nat):Int)))] [] ?_)))))))
  refine xqc 140 [.slice A l c, .int .i64 ((j + 1:Nat):Int)] 28 ZaA _ (fun w R Q=>(Zch (j + 1) Q.1.2 hw (by omega)).mono (fun _ _=>Zau)) (fun xx=>?_)
  obtain ⟨A11,l11,c11⟩:=xx
  refine xq 1 [eS1 13 A11 l11 c11] [] ?_
  refine xe (Zaa (Zac (Zac (Zab (xq 3 [eS1 29 A l c,(31, .v (.int .i64 (IntKind.i64.wrap (((j + 1:Nat):Int) - 1))))] [] ?_)))))
  rw [show IntKind.i64.wrap (((j + 1:Nat):Int) - 1)=((j:Nat):Int) from by rw [IntKind.wrap_i64]; omega]
  refine xqc 170 [.slice A l c, .int .i64 ((j:Nat):Int)] 32 (fun _:Unit=>.bool b1) _ (fun w R Q=>((show Calls _ _ _ _ (RetV w (.bool b1)) from by rw [← hb1]; exact Zee (j) Q.1.1.2 (by omega))).mono (fun _ _ h=>Zam h rfl)) (fun xx=>?_)
  refine xq 1 [(33, .v (.bool b1))] [] ?_
  rcases bl2 (b1) with hb12 | hb12
  ·rw [hb12]
   have k1:=of_decide_eq_true (hb1.trans hb12)
   refine xq 1 [eS1 34 A l c] [] ?_
   refine xqc 171 [.slice A l c] 35 (fun _:Unit=>.int .i64 ((tzn n:Nat):Int)) _ (fun w R Q=>(ZeJ Q.1.1.1.1 Q.1.1.1.2 hw h0).mono (fun _ _ h=>Zam h rfl)) (fun xx=>?_)
   refine xq 2 [(37, .v (.int .i64 (IntKind.i64.wrap (((j + 1:Nat):Int) - 1))))] [] ?_
   rw [show IntKind.i64.wrap (((j + 1:Nat):Int) - 1)=((j:Nat):Int) from by rw [IntKind.wrap_i64]; omega]
   refine xq 2 [(39, .v (.bool (decide (((tzn n:Nat):Int) < ((j:Nat):Int)))))] [] ?_
   rcases bl2 ((decide (((tzn n:Nat):Int) < ((j:Nat):Int)))) with hb13 | hb13
   ·rw [hb13]
    have hb13':=of_decide_eq_true hb13
    have k4:tzn n < j:=by omega
    refine xr 8 [(0, .v (.bool s)),(2, .v (.int .i64 e)),(10, .p 10 0),(11, .v (.int .i64 0)),(12, .v (.int .i64 ((j + 1:Nat):Int))),eS1 13 A11 l11 c11,(47, .v (.bool true))] [(10,109,[.v (.bool false), .v (.slice none 0 0), .v (.int .i64 0)])] ?_
    refine xe (Zaa (xa (Zab (xq 1 [eS1 48 A11 l11 c11] [] ?_))))
    refine Zbx (d:=49) (fun zb:Nat=>.slice (some ⟨zb,0,none⟩) 1 1) (fun zb zw=>Blk 141 zw zb #[.int .u64 1]) (by kernel_rfl) (by kernel_rfl) (by kernel_rfl) (by kernel_rfl) (by kernel_rfl) (by kernel_rfl) (fun w R Q=>Zby (t:=107) (e:=141) (n:=1) (sz:=1) (z:=.int .u64 0) (parts:=#[(0,Operand.const (Value.int IntKind.u64 1))]) (by kernel_rfl) (by kernel_rfl) (by kernel_rfl) (by kernel_rfl) (by kernel_rfl) (by kernel_rfl)) (fun b14=>?_)
    refine xr 0 [(0, .v (.bool s)),(2, .v (.int .i64 e)),(10, .p 10 0),(11, .v (.int .i64 0)),(12, .v (.int .i64 ((j + 1:Nat):Int))),eS1 13 A11 l11 c11,eS1 48 A11 l11 c11,eS1 49 (some ⟨b14,0,none⟩) 1 1] [(10,109,[.v (.bool false), .v (.slice none 0 0), .v (.int .i64 0)])] ?_
    refine xqc 135 [.slice A11 l11 c11, .slice (some ⟨b14,0,none⟩) 1 1] 50 ZaA _ (fun w R Q=>(ZbW Q.1.1.1.2 (Zcu Q.2) hw2 wl_1).mono (fun _ _=>Zau)) (fun xx=>?_)
    obtain ⟨A15,l15,c15⟩:=xx
    refine xq 1 [eS1 13 A15 l15 c15] [] ?_
    refine xe (Zaa (Zac (Zab (xq 5 [(51, .v (.bool s)),eS1 52 A15 l15 c15,(55, .v (.int .i64 (IntKind.i64.wrap (e + ((j + 1:Nat):Int)))))] [] ?_))))
    rw [show IntKind.i64.wrap (e + ((j + 1:Nat):Int))=e + ((j + 1:Nat):Int) from by rw [IntKind.wrap_i64]; omega]
    obtain ⟨r16,hr16⟩:∃ r,ZaW s (n / 2 ^ (j + 1) + 1) ((e + ((j + 1:Nat):Int)))=r:=⟨_,rfl⟩
    refine xqc 138 [.bool s, .slice A15 l15 c15, .int .i64 (e + ((j + 1:Nat):Int))] 56 (shNb r16) _ (fun w R Q=>((show Calls _ _ _ _ (ZaH w r16) from by rw [← hr16]; exact Zbz s _ _ _ _ _ _ Q.1.1.1.1.1.1.1 Q.2 hw3 (by omega) (by omega))).mono (fun _ _=>ZaJ)) (fun xx=>?_)
    obtain ⟨A16,l16,c16⟩:=xx
    refine xq 4 [(11, .v (.int .i64 r16.err))] [(10,109,[.v (.bool r16.s), .v (.slice A16 l16 c16), .v (.int .i64 r16.e)])] ?_
    refine xe (Zaa (Zag ?_))
    refine Zaf (v:=.tuple #[.agg #[.bool r16.s, .slice A16 l16 c16, .int .i64 r16.e], .int .i64 r16.err]) (by kernel_rfl) (fun w' R Q=>?_)
    rw [ZcC hj k1 (Or.inl k4) h0,hr16]
    exact ⟨(A16,l16,c16),rfl,Q.2,R⟩
   ·rw [hb13]
    have hb13':=of_decide_eq_false hb13
    have k4:¬ tzn n < j:=by omega
    refine xr 1 [(0, .v (.bool s)),(2, .v (.int .i64 e)),(4, .v (.func (.func 133) #[] #[])),(10, .p 10 0),(11, .v (.int .i64 0)),(12, .v (.int .i64 ((j + 1:Nat):Int))),eS1 13 A11 l11 c11,(33, .v (.bool true)),(39, .v (.bool false)),eS1 40 A11 l11 c11] [(10,109,[.v (.bool false), .v (.slice none 0 0), .v (.int .i64 0)])] ?_
    refine xqc 170 [.slice A11 l11 c11, .int .i64 0] 41 (fun _:Unit=>.bool b2) _ (fun w R Q=>((show Calls _ _ _ _ (RetV w (.bool b2)) from by rw [← hb2]; exact Zee (0) Q.1.1.2 (by omega))).mono (fun _ _ h=>Zam h rfl)) (fun xx=>?_)
    refine xq 2 [(43, .v (.bool b2))] [] ?_
    rcases bl2 (b2) with hb17 | hb17
    ·rw [hb17]
     have k2:=of_decide_eq_true (hb2.trans hb17)
     rw [Nat.pow_zero,Nat.div_one] at k2
     refine xq 4 [(47, .v (.bool true))] [] ?_
     refine xe (Zaa (xa (Zab (xq 1 [eS1 48 A11 l11 c11] [] ?_))))
     refine Zbx (d:=49) (fun zb:Nat=>.slice (some ⟨zb,0,none⟩) 1 1) (fun zb zw=>Blk 141 zw zb #[.int .u64 1]) (by kernel_rfl) (by kernel_rfl) (by kernel_rfl) (by kernel_rfl) (by kernel_rfl) (by kernel_rfl) (fun w R Q=>Zby (t:=107) (e:=141) (n:=1) (sz:=1) (z:=.int .u64 0) (parts:=#[(0,Operand.const (Value.int IntKind.u64 1))]) (by kernel_rfl) (by kernel_rfl) (by kernel_rfl) (by kernel_rfl) (by kernel_rfl) (by kernel_rfl)) (fun b18=>?_)
     refine xr 0 [(0, .v (.bool s)),(2, .v (.int .i64 e)),(10, .p 10 0),(11, .v (.int .i64 0)),(12, .v (.int .i64 ((j + 1:Nat):Int))),eS1 13 A11 l11 c11,eS1 48 A11 l11 c11,eS1 49 (some ⟨b18,0,none⟩) 1 1] [(10,109,[.v (.bool false), .v (.slice none 0 0), .v (.int .i64 0)])] ?_
     refine xqc 135 [.slice A11 l11 c11, .slice (some ⟨b18,0,none⟩) 1 1] 50 ZaA _ (fun w R Q=>(ZbW Q.1.1.1.1.2 (Zcu Q.2) hw2 wl_1).mono (fun _ _=>Zau)) (fun xx=>?_)
     obtain ⟨A19,l19,c19⟩:=xx
     refine xq 1 [eS1 13 A19 l19 c19] [] ?_
     refine xe (Zaa (Zac (Zab (xq 5 [(51, .v (.bool s)),eS1 52 A19 l19 c19,(55, .v (.int .i64 (IntKind.i64.wrap (e + ((j + 1:Nat):Int)))))] [] ?_))))
     rw [show IntKind.i64.wrap (e + ((j + 1:Nat):Int))=e + ((j + 1:Nat):Int) from by rw [IntKind.wrap_i64]; omega]
     obtain ⟨r20,hr20⟩:∃ r,ZaW s (n / 2 ^ (j + 1) + 1) ((e + ((j + 1:Nat):Int)))=r:=⟨_,rfl⟩
     refine xqc 138 [.bool s, .slice A19 l19 c19, .int .i64 (e + ((j + 1:Nat):Int))] 56 (shNb r20) _ (fun w R Q=>((show Calls _ _ _ _ (ZaH w r20) from by rw [← hr20]; exact Zbz s _ _ _ _ _ _ Q.1.1.1.1.1.1.1.1 Q.2 hw3 (by omega) (by omega))).mono (fun _ _=>ZaJ)) (fun xx=>?_)
     obtain ⟨A20,l20,c20⟩:=xx
     refine xq 4 [(11, .v (.int .i64 r20.err))] [(10,109,[.v (.bool r20.s), .v (.slice A20 l20 c20), .v (.int .i64 r20.e)])] ?_
     refine xe (Zaa (Zag ?_))
     refine Zaf (v:=.tuple #[.agg #[.bool r20.s, .slice A20 l20 c20, .int .i64 r20.e], .int .i64 r20.err]) (by kernel_rfl) (fun w' R Q=>?_)
     rw [ZcC hj k1 (Or.inr (Or.inl k2)) h0,hr20]
     exact ⟨(A20,l20,c20),rfl,Q.2,R⟩
    ·rw [hb17]
     have k2:=of_decide_eq_false (hb2.trans hb17)
     rw [Nat.pow_zero,Nat.div_one] at k2
     refine xq 1 [(44, .v (.func (.func 133) #[] #[]))] [] ?_
     refine xqc 133 [] 45 (fun _:Unit=>.bool b3) _ (fun w R Q=>((show Calls _ _ _ _ (RetV w (.bool b3)) from by rw [← hb3]; exact ZoR _)).mono (fun _ _ h=>Zam h rfl)) (fun xx=>?_)
     refine xq 2 [(47, .v (.bool b3))] [] ?_
     refine xe (Zaa ?_)
     refine Zap (b3) (by kernel_rfl) (fun hb21=>?_) (fun hb21=>?_)
     ·have k3:=hb3.trans hb21
      refine Zab (xq 1 [eS1 48 A11 l11 c11] [] ?_)
      refine Zbx (d:=49) (fun zb:Nat=>.slice (some ⟨zb,0,none⟩) 1 1) (fun zb zw=>Blk 141 zw zb #[.int .u64 1]) (by kernel_rfl) (by kernel_rfl) (by kernel_rfl) (by kernel_rfl) (by kernel_rfl) (by kernel_rfl) (fun w R Q=>Zby (t:=107) (e:=141) (n:=1) (sz:=1) (z:=.int .u64 0) (parts:=#[(0,Operand.const (Value.int IntKind.u64 1))]) (by kernel_rfl) (by kernel_rfl) (by kernel_rfl) (by kernel_rfl) (by kernel_rfl) (by kernel_rfl)) (fun b22=>?_)
      refine xr 0 [(0, .v (.bool s)),(2, .v (.int .i64 e)),(10, .p 10 0),(11, .v (.int .i64 0)),(12, .v (.int .i64 ((j + 1:Nat):Int))),eS1 13 A11 l11 c11,eS1 48 A11 l11 c11,eS1 49 (some ⟨b22,0,none⟩) 1 1] [(10,109,[.v (.bool false), .v (.slice none 0 0), .v (.int .i64 0)])] ?_
      refine xqc 135 [.slice A11 l11 c11, .slice (some ⟨b22,0,none⟩) 1 1] 50 ZaA _ (fun w R Q=>(ZbW Q.1.1.1.1.1.2 (Zcu Q.2) hw2 wl_1).mono (fun _ _=>Zau)) (fun xx=>?_)
      obtain ⟨A23,l23,c23⟩:=xx
      refine xq 1 [eS1 13 A23 l23 c23] [] ?_
      refine xe (Zaa (Zac (Zab (xq 5 [(51, .v (.bool s)),eS1 52 A23 l23 c23,(55, .v (.int .i64 (IntKind.i64.wrap (e + ((j + 1:Nat):Int)))))] [] ?_))))
      rw [show IntKind.i64.wrap (e + ((j + 1:Nat):Int))=e + ((j + 1:Nat):Int) from by rw [IntKind.wrap_i64]; omega]
      obtain ⟨r24,hr24⟩:∃ r,ZaW s (n / 2 ^ (j + 1) + 1) ((e + ((j + 1:Nat):Int)))=r:=⟨_,rfl⟩
      refine xqc 138 [.bool s, .slice A23 l23 c23, .int .i64 (e + ((j + 1:Nat):Int))] 56 (shNb r24) _ (fun w R Q=>((show Calls _ _ _ _ (ZaH w r24) from by rw [← hr24]; exact Zbz s _ _ _ _ _ _ Q.1.1.1.1.1.1.1.1.1 Q.2 hw3 (by omega) (by omega))).mono (fun _ _=>ZaJ)) (fun xx=>?_)
      obtain ⟨A24,l24,c24⟩:=xx
      refine xq 4 [(11, .v (.int .i64 r24.err))] [(10,109,[.v (.bool r24.s), .v (.slice A24 l24 c24), .v (.int .i64 r24.e)])] ?_
      refine xe (Zaa (Zag ?_))
      refine Zaf (v:=.tuple #[.agg #[.bool r24.s, .slice A24 l24 c24, .int .i64 r24.e], .int .i64 r24.err]) (by kernel_rfl) (fun w' R Q=>?_)
      rw [ZcC hj k1 (Or.inr (Or.inr k3)) h0,hr24]
      exact ⟨(A24,l24,c24),rfl,Q.2,R⟩
     ·have k3:=hb3.trans hb21
      refine Zal (Zaa (Zac (Zab (xq 5 [(51, .v (.bool s)),eS1 52 A11 l11 c11,(55, .v (.int .i64 (IntKind.i64.wrap (e + ((j + 1:Nat):Int)))))] [] ?_))))
      rw [show IntKind.i64.wrap (e + ((j + 1:Nat):Int))=e + ((j + 1:Nat):Int) from by rw [IntKind.wrap_i64]; omega]
      obtain ⟨r25,hr25⟩:∃ r,ZaW s (n / 2 ^ (j + 1)) ((e + ((j + 1:Nat):Int)))=r:=⟨_,rfl⟩
      refine xqc 138 [.bool s, .slice A11 l11 c11, .int .i64 (e + ((j + 1:Nat):Int))] 56 (shNb r25) _ (fun w R Q=>((show Calls _ _ _ _ (ZaH w r25) from by rw [← hr25]; exact Zbz s _ _ _ _ _ _ Q.1.1.1.1.1.1.1 Q.1.1.1.1.2 hw2 (by omega) (by omega))).mono (fun _ _=>ZaJ)) (fun xx=>?_)
      obtain ⟨A25,l25,c25⟩:=xx
      refine xq 4 [(11, .v (.int .i64 r25.err))] [(10,109,[.v (.bool r25.s), .v (.slice A25 l25 c25), .v (.int .i64 r25.e)])] ?_
      refine xe (Zaa (Zag ?_))
      refine Zaf (v:=.tuple #[.agg #[.bool r25.s, .slice A25 l25 c25, .int .i64 r25.e], .int .i64 r25.err]) (by kernel_rfl) (fun w' R Q=>?_)
      rw [Zc8 hj h0 (fun h=>by rcases h.2 with h | h | h; exact k4 h; exact k2 h; rw [k3] at h; cases h),hr25]
      exact ⟨(A25,l25,c25),rfl,Q.2,R⟩
  ·rw [hb12]
   have k1:=of_decide_eq_false (hb1.trans hb12)
   refine xq 14 [(47, .v (.bool false))] [] ?_
   refine xe (Zaa (xb (Zal (Zaa (Zac (Zab (xq 5 [(51, .v (.bool s)),eS1 52 A11 l11 c11,(55, .v (.int .i64 (IntKind.i64.wrap (e + ((j + 1:Nat):Int)))))] [] ?_)))))))
   rw [show IntKind.i64.wrap (e + ((j + 1:Nat):Int))=e + ((j + 1:Nat):Int) from by rw [IntKind.wrap_i64]; omega]
   obtain ⟨r26,hr26⟩:∃ r,ZaW s (n / 2 ^ (j + 1)) ((e + ((j + 1:Nat):Int)))=r:=⟨_,rfl⟩
   refine xqc 138 [.bool s, .slice A11 l11 c11, .int .i64 (e + ((j + 1:Nat):Int))] 56 (shNb r26) _ (fun w R Q=>((show Calls _ _ _ _ (ZaH w r26) from by rw [← hr26]; exact Zbz s _ _ _ _ _ _ Q.1.1.1.1 Q.1.2 hw2 (by omega) (by omega))).mono (fun _ _=>ZaJ)) (fun xx=>?_)
   obtain ⟨A26,l26,c26⟩:=xx
   refine xq 4 [(11, .v (.int .i64 r26.err))] [(10,109,[.v (.bool r26.s), .v (.slice A26 l26 c26), .v (.int .i64 r26.e)])] ?_
   refine xe (Zaa (Zag ?_))
   refine Zaf (v:=.tuple #[.agg #[.bool r26.s, .slice A26 l26 c26, .int .i64 r26.e], .int .i64 r26.err]) (by kernel_rfl) (fun w' R Q=>?_)
   rw [Zc8 hj h0 (fun h=>k1 h.1),hr26]
   exact ⟨(A26,l26,c26),rfl,Q.2,R⟩
theorem Zny (s:Bool) (A:Option Addr) (l c n:Nat) (e:Int) (bits:Nat) (Q:Nat) (A2:Option Addr) (l2 c2:Nat) (w:World) (hg:Glob w) (hN:Zad w (.slice A l c) n) (hw:wl n≤4294967296) (he1 : -576460752303423488≤e) (he2:e≤576460752303423488) (hb:bits≤4294967296) (hQ:Zgs w Q (.slice A2 l2 c2)) :
 Calls Tryz.prog 132 #[.bool s, .slice A l c, .int .i64 e, .int .i64 ((bits:Nat):Int), .func (.func 159) #[] #[.pointer (some ⟨Q,0,none⟩)]] w (ZaH w (Za5 s n e bits (decide (0 < l2)))):=by
 refine Zas (Φ:=fun w=>((Glob w∧Zad w (.slice A l c) (n))∧Zgs w Q (.slice A2 l2 c2))) Tryz.func132 rfl (by kernel_rfl) (fun w' hf=>⟨⟨hg.ext hf,hN.ext hf⟩,hQ.ext hf⟩) ?_
 refine Zac ?_
 have hbw:=Zi4 hw
 by_cases hfew:blen n≤bits
 ·obtain ⟨k,hk⟩:∃ k,bits=blen n + k:=⟨bits - blen n,by omega⟩
  refine Zab (xq 2 [(10, .p 10 0),(11, .v (.int .i64 0))] [(10,109,[.v (.bool false), .v (.slice none 0 0), .v (.int .i64 0)])] ?_)
  refine xe (Zaa (Zac (Zab (xq 1 [eS1 14 A l c] [] ?_))))
  refine xqc 139 [.slice A l c] 15 (fun _:Unit=>.int .i64 ((blen n:Nat):Int)) _ (fun w S R=>(ZbE R.1.2 hw).mono (fun _ _ h=>Zam h rfl)) (fun xx=>?_)
  refine xq 2 [(17, .v (.int .i64 (IntKind.i64.wrap (((blen n:Nat):Int) - ((bits:Nat):Int)))))] [] ?_
  rw [show IntKind.i64.wrap (((blen n:Nat):Int) - ((bits:Nat):Int)) = -((k:Nat):Int) from by rw [IntKind.wrap_i64]; omega]
  refine xq 1 [(12, .v (.int .i64 (-((k:Nat):Int))))] [] ?_
  refine xe (Zaa (Zac (Zac (Zab (xq 2 [(19, .v (.bool (decide ((-((k:Nat):Int))≤0))))] [] ?_)))))
  rw [show decide (-((k:Nat):Int)≤0)=true from decide_eq_true (by omega)]
  refine xe (Zaa (xa (Zac (Zab (xq 3 [(20, .v (.bool s)),eS1 21 A l c,(22, .v (.int .i64 e))] [] ?_)))))
  obtain ⟨r10,hr10⟩:∃ r,ZaW s (n) (e)=r:=⟨_,rfl⟩
  refine xqc 138 [.bool s, .slice A l c, .int .i64 e] 23 (shNb r10) _ (fun w S R=>((show Calls _ _ _ _ (ZaH w r10) from by rw [← hr10]; exact Zbz s _ _ _ _ _ _ R.1.1.1 R.1.1.2 hw (by omega) (by omega))).mono (fun _ _=>ZaJ)) (fun xx=>?_)
  obtain ⟨A10,l10,c10⟩:=xx
  refine xq 4 [(11, .v (.int .i64 r10.err))] [(10,109,[.v (.bool r10.s), .v (.slice A10 l10 c10), .v (.int .i64 r10.e)])] ?_
  refine xe (Zaa (Zag (Zai ?_)))
  refine Zaf (v:=.tuple #[.agg #[.bool r10.s, .slice A10 l10 c10, .int .i64 r10.e], .int .i64 r10.err]) (by kernel_rfl) (fun w' S R=>?_)
  rw [Zgr hfew,hr10]
  exact ⟨(A10,l10,c10),rfl,R.2,S⟩
 ·obtain ⟨j,hj⟩:∃ j,blen n=bits + (j + 1):=⟨blen n - bits - 1,by omega⟩
  have h0:0 < n:=Nat.pos_of_ne_zero (fun e=>by rw [e,ZdQ] at hfew; omega)
  have hw2:wl (n / 2 ^ (j + 1))≤4294967296:=Nat.le_trans (ZaU (Nat.div_le_self _ _)) hw
  have hw3:wl (n / 2 ^ (j + 1) + 1)≤4294967296:=Nat.le_trans (ZaU (Nat.div_lt_self h0 (Nat.one_lt_two_pow (by omega)))) hw
  obtain ⟨b1,hb1⟩:∃ b:Bool,decide (n / 2 ^ j % 2=1)=b:=⟨_,rfl⟩
  obtain ⟨b2,hb2⟩:∃ b:Bool,decide (n / 2 ^ (j + 1) / 2 ^ 0 % 2=1)=b:=⟨_,rfl⟩
  obtain ⟨b3,hb3⟩:∃ b:Bool,(decide (0 < l2))=b:=⟨_,rfl⟩
  refine Zab (xq 2 [(10, .p 10 0),(11, .v (.int .i64 0))] [(10,109,[.v (.bool false), .v (.slice none 0 0), .v (.int .i64 0)])] ?_)
  refine xe (Zaa (Zac (Zab (xq 1 [eS1 14 A l c] [] ?_))))
  refine xqc 139 [.slice A l c] 15 (fun _:Unit=>.int .i64 ((blen n:Nat):Int)) _ (fun w S R=>(ZbE R.1.2 hw).mono (fun _ _ h=>Zam h rfl)) (fun xx=>?_)
  refine xq 2 [(17, .v (.int .i64 (IntKind.i64.wrap (((blen n:Nat):Int) - ((bits:Nat):Int)))))] [] ?_
  rw [show IntKind.i64.wrap (((blen n:Nat):Int) - ((bits:Nat):Int))=((j + 1:Nat):Int) from by rw [IntKind.wrap_i64]; omega]
  refine xq 1 [(12, .v (.int .i64 ((j + 1:Nat):Int)))] [] ?_
  refine xe (Zaa (Zac (Zac (Zab (xq 2 [(19, .v (.bool (decide (((j + 1:Nat):Int)≤0))))] [] ?_)))))
  rw [show decide (((j + 1:Nat):Int)≤0)=false from decide_eq_false (by omega)]
  refine xe (Zaa (xb (Zal (Zaa (Zac (Zab (xq 2 [eS1 26 A l c,(27, .v (.int .i64 ((j + 1:Nat):Int)))] [] ?_)))))))
  refine xqc 140 [.slice A l c, .int .i64 ((j + 1:Nat):Int)] 28 ZaA _ (fun w S R=>(Zch (j + 1) R.1.1.2 hw (by omega)).mono (fun _ _=>Zau)) (fun xx=>?_)
  obtain ⟨A11,l11,c11⟩:=xx
  refine xq 1 [eS1 13 A11 l11 c11] [] ?_
  refine xe (Zaa (Zac (Zac (Zab (xq 3 [eS1 29 A l c,(31, .v (.int .i64 (IntKind.i64.wrap (((j + 1:Nat):Int) - 1))))] [] ?_)))))
  rw [show IntKind.i64.wrap (((j + 1:Nat):Int) - 1)=((j:Nat):Int) from by rw [IntKind.wrap_i64]; omega]
  refine xqc 170 [.slice A l c, .int .i64 ((j:Nat):Int)] 32 (fun _:Unit=>.bool b1) _ (fun w S R=>((show Calls _ _ _ _ (RetV w (.bool b1)) from by rw [← hb1]; exact Zee (j) R.1.1.1.2 (by omega))).mono (fun _ _ h=>Zam h rfl)) (fun xx=>?_)
  refine xq 1 [(33, .v (.bool b1))] [] ?_
  rcases bl2 (b1) with hb12 | hb12
  ·rw [hb12]
   have k1:=of_decide_eq_true (hb1.trans hb12)
   refine xq 1 [eS1 34 A l c] [] ?_
   refine xqc 171 [.slice A l c] 35 (fun _:Unit=>.int .i64 ((tzn n:Nat):Int)) _ (fun w S R=>(ZeJ R.1.1.1.1.1 R.1.1.1.1.2 hw h0).mono (fun _ _ h=>Zam h rfl)) (fun xx=>?_)
   refine xq 2 [(37, .v (.int .i64 (IntKind.i64.wrap (((j + 1:Nat):Int) - 1))))] [] ?_
   rw [show IntKind.i64.wrap (((j + 1:Nat):Int) - 1)=((j:Nat):Int) from by rw [IntKind.wrap_i64]; omega]
   refine xq 2 [(39, .v (.bool (decide (((tzn n:Nat):Int) < ((j:Nat):Int)))))] [] ?_
   rcases bl2 ((decide (((tzn n:Nat):Int) < ((j:Nat):Int)))) with hb13 | hb13
   ·rw [hb13]
    have hb13':=of_decide_eq_true hb13
    have k4:tzn n < j:=by omega
    refine xr 8 [(0, .v (.bool s)),(2, .v (.int .i64 e)),(10, .p 10 0),(11, .v (.int .i64 0)),(12, .v (.int .i64 ((j + 1:Nat):Int))),eS1 13 A11 l11 c11,(47, .v (.bool true))] [(10,109,[.v (.bool false), .v (.slice none 0 0), .v (.int .i64 0)])] ?_
    refine xe (Zaa (xa (Zab (xq 1 [eS1 48 A11 l11 c11] [] ?_))))
    refine Zbx (d:=49) (fun zb:Nat=>.slice (some ⟨zb,0,none⟩) 1 1) (fun zb zw=>Blk 141 zw zb #[.int .u64 1]) (by kernel_rfl) (by kernel_rfl) (by kernel_rfl) (by kernel_rfl) (by kernel_rfl) (by kernel_rfl) (fun w S R=>Zby (t:=107) (e:=141) (n:=1) (sz:=1) (z:=.int .u64 0) (parts:=#[(0,Operand.const (Value.int IntKind.u64 1))]) (by kernel_rfl) (by kernel_rfl) (by kernel_rfl) (by kernel_rfl) (by kernel_rfl) (by kernel_rfl)) (fun b14=>?_)
    refine xr 0 [(0, .v (.bool s)),(2, .v (.int .i64 e)),(10, .p 10 0),(11, .v (.int .i64 0)),(12, .v (.int .i64 ((j + 1:Nat):Int))),eS1 13 A11 l11 c11,eS1 48 A11 l11 c11,eS1 49 (some ⟨b14,0,none⟩) 1 1] [(10,109,[.v (.bool false), .v (.slice none 0 0), .v (.int .i64 0)])] ?_
    refine xqc 135 [.slice A11 l11 c11, .slice (some ⟨b14,0,none⟩) 1 1] 50 ZaA _ (fun w S R=>(ZbW R.1.1.1.2 (Zcu R.2) hw2 wl_1).mono (fun _ _=>Zau)) (fun xx=>?_)
    obtain ⟨A15,l15,c15⟩:=xx
    refine xq 1 [eS1 13 A15 l15 c15] [] ?_
    refine xe (Zaa (Zac (Zab (xq 5 [(51, .v (.bool s)),eS1 52 A15 l15 c15,(55, .v (.int .i64 (IntKind.i64.wrap (e + ((j + 1:Nat):Int)))))] [] ?_))))
    rw [show IntKind.i64.wrap (e + ((j + 1:Nat):Int))=e + ((j + 1:Nat):Int) from by rw [IntKind.wrap_i64]; omega]
    obtain ⟨r16,hr16⟩:∃ r,ZaW s (n / 2 ^ (j + 1) + 1) ((e + ((j + 1:Nat):Int)))=r:=⟨_,rfl⟩
    refine xqc 138 [.bool s, .slice A15 l15 c15, .int .i64 (e + ((j + 1:Nat):Int))] 56 (shNb r16) _ (fun w S R=>((show Calls _ _ _ _ (ZaH w r16) from by rw [← hr16]; exact Zbz s _ _ _ _ _ _ R.1.1.1.1.1.1.1.1 R.2 hw3 (by omega) (by omega))).mono (fun _ _=>ZaJ)) (fun xx=>?_)
    obtain ⟨A16,l16,c16⟩:=xx
    refine xq 4 [(11, .v (.int .i64 r16.err))] [(10,109,[.v (.bool r16.s), .v (.slice A16 l16 c16), .v (.int .i64 r16.e)])] ?_
    refine xe (Zaa (Zag ?_))
    refine Zaf (v:=.tuple #[.agg #[.bool r16.s, .slice A16 l16 c16, .int .i64 r16.e], .int .i64 r16.err]) (by kernel_rfl) (fun w' S R=>?_)
    rw [ZcC hj k1 (Or.inl k4) h0,hr16]
    exact ⟨(A16,l16,c16),rfl,R.2,S⟩
   ·rw [hb13]
    have hb13':=of_decide_eq_false hb13
    have k4:¬ tzn n < j:=by omega
    refine xr 1 [(0, .v (.bool s)),(2, .v (.int .i64 e)),(4, .v (.func (.func 159) #[] #[.pointer (some ⟨Q,0,none⟩)])),(10, .p 10 0),(11, .v (.int .i64 0)),(12, .v (.int .i64 ((j + 1:Nat):Int))),eS1 13 A11 l11 c11,(33, .v (.bool true)),(39, .v (.bool false)),eS1 40 A11 l11 c11] [(10,109,[.v (.bool false), .v (.slice none 0 0), .v (.int .i64 0)])] ?_
    refine xqc 170 [.slice A11 l11 c11, .int .i64 0] 41 (fun _:Unit=>.bool b2) _ (fun w S R=>((show Calls _ _ _ _ (RetV w (.bool b2)) from by rw [← hb2]; exact Zee (0) R.1.1.2 (by omega))).mono (fun _ _ h=>Zam h rfl)) (fun xx=>?_)
    refine xq 2 [(43, .v (.bool b2))] [] ?_
    rcases bl2 (b2) with hb17 | hb17
    ·rw [hb17]
     have k2:=of_decide_eq_true (hb2.trans hb17)
     rw [Nat.pow_zero,Nat.div_one] at k2
     refine xq 4 [(47, .v (.bool true))] [] ?_
     refine xe (Zaa (xa (Zab (xq 1 [eS1 48 A11 l11 c11] [] ?_))))
     refine Zbx (d:=49) (fun zb:Nat=>.slice (some ⟨zb,0,none⟩) 1 1) (fun zb zw=>Blk 141 zw zb #[.int .u64 1]) (by kernel_rfl) (by kernel_rfl) (by kernel_rfl) (by kernel_rfl) (by kernel_rfl) (by kernel_rfl) (fun w S R=>Zby (t:=107) (e:=141) (n:=1) (sz:=1) (z:=.int .u64 0) (parts:=#[(0,Operand.const (Value.int IntKind.u64 1))]) (by kernel_rfl) (by kernel_rfl) (by kernel_rfl) (by kernel_rfl) (by kernel_rfl) (by kernel_rfl)) (fun b18=>?_)
     refine xr 0 [(0, .v (.bool s)),(2, .v (.int .i64 e)),(10, .p 10 0),(11, .v (.int .i64 0)),(12, .v (.int .i64 ((j + 1:Nat):Int))),eS1 13 A11 l11 c11,eS1 48 A11 l11 c11,eS1 49 (some ⟨b18,0,none⟩) 1 1] [(10,109,[.v (.bool false), .v (.slice none 0 0), .v (.int .i64 0)])] ?_
     refine xqc 135 [.slice A11 l11 c11, .slice (some ⟨b18,0,none⟩) 1 1] 50 ZaA _ (fun w S R=>(ZbW R.1.1.1.1.2 (Zcu R.2) hw2 wl_1).mono (fun _ _=>Zau)) (fun xx=>?_)
     obtain ⟨A19,l19,c19⟩:=xx
     refine xq 1 [eS1 13 A19 l19 c19] [] ?_
     refine xe (Zaa (Zac (Zab (xq 5 [(51, .v (.bool s)),eS1 52 A19 l19 c19,(55, .v (.int .i64 (IntKind.i64.wrap (e + ((j + 1:Nat):Int)))))] [] ?_))))
     rw [show IntKind.i64.wrap (e + ((j + 1:Nat):Int))=e + ((j + 1:Nat):Int) from by rw [IntKind.wrap_i64]; omega]
     obtain ⟨r20,hr20⟩:∃ r,ZaW s (n / 2 ^ (j + 1) + 1) ((e + ((j + 1:Nat):Int)))=r:=⟨_,rfl⟩
     refine xqc 138 [.bool s, .slice A19 l19 c19, .int .i64 (e + ((j + 1:Nat):Int))] 56 (shNb r20) _ (fun w S R=>((show Calls _ _ _ _ (ZaH w r20) from by rw [← hr20]; exact Zbz s _ _ _ _ _ _ R.1.1.1.1.1.1.1.1.1 R.2 hw3 (by omega) (by omega))).mono (fun _ _=>ZaJ)) (fun xx=>?_)
     obtain ⟨A20,l20,c20⟩:=xx
     refine xq 4 [(11, .v (.int .i64 r20.err))] [(10,109,[.v (.bool r20.s), .v (.slice A20 l20 c20), .v (.int .i64 r20.e)])] ?_
     refine xe (Zaa (Zag ?_))
     refine Zaf (v:=.tuple #[.agg #[.bool r20.s, .slice A20 l20 c20, .int .i64 r20.e], .int .i64 r20.err]) (by kernel_rfl) (fun w' S R=>?_)
     rw [ZcC hj k1 (Or.inr (Or.inl k2)) h0,hr20]
     exact ⟨(A20,l20,c20),rfl,R.2,S⟩
    ·rw [hb17]
     have k2:=of_decide_eq_false (hb2.trans hb17)
     rw [Nat.pow_zero,Nat.div_one] at k2
     refine xq 1 [(44, .v (.func (.func 159) #[] #[.pointer (some ⟨Q,0,none⟩)]))] [] ?_
     refine xqc 159 [.pointer (some ⟨Q,0,none⟩)] 45 (fun _:Unit=>.bool b3) _ (fun w S R=>((show Calls _ _ _ _ (RetV w (.bool b3)) from by rw [← hb3]; exact ZoQ Q A2 l2 c2 _ R.1.1.1.1.1.2)).mono (fun _ _ h=>Zam h rfl)) (fun xx=>?_)
     refine xq 2 [(47, .v (.bool b3))] [] ?_
     refine xe (Zaa ?_)
     refine Zap (b3) (by kernel_rfl) (fun hb21=>?_) (fun hb21=>?_)
     ·have k3:=hb3.trans hb21
      refine Zab (xq 1 [eS1 48 A11 l11 c11] [] ?_)
      refine Zbx (d:=49) (fun zb:Nat=>.slice (some ⟨zb,0,none⟩) 1 1) (fun zb zw=>Blk 141 zw zb #[.int .u64 1]) (by kernel_rfl) (by kernel_rfl) (by kernel_rfl) (by kernel_rfl) (by kernel_rfl) (by kernel_rfl) (fun w S R=>Zby (t:=107) (e:=141) (n:=1) (sz:=1) (z:=.int .u64 0) (parts:=#[(0,Operand.const (Value.int IntKind.u64 1))]) (by kernel_rfl) (by kernel_rfl) (by kernel_rfl) (by kernel_rfl) (by kernel_rfl) (by kernel_rfl)) (fun b22=>?_)
      refine xr 0 [(0, .v (.bool s)),(2, .v (.int .i64 e)),(10, .p 10 0),(11, .v (.int .i64 0)),(12, .v (.int .i64 ((j + 1:Nat):Int))),eS1 13 A11 l11 c11,eS1 48 A11 l11 c11,eS1 49 (some ⟨b22,0,none⟩) 1 1] [(10,109,[.v (.bool false), .v (.slice none 0 0), .v (.int .i64 0)])] ?_
      refine xqc 135 [.slice A11 l11 c11, .slice (some ⟨b22,0,none⟩) 1 1] 50 ZaA _ (fun w S R=>(ZbW R.1.1.1.1.1.2 (Zcu R.2) hw2 wl_1).mono (fun _ _=>Zau)) (fun xx=>?_)
      obtain ⟨A23,l23,c23⟩:=xx
      refine xq 1 [eS1 13 A23 l23 c23] [] ?_
      refine xe (Zaa (Zac (Zab (xq 5 [(51, .v (.bool s)),eS1 52 A23 l23 c23,(55, .v (.int .i64 (IntKind.i64.wrap (e + ((j + 1:Nat):Int)))))] [] ?_))))
      rw [show IntKind.i64.wrap (e + ((j + 1:Nat):Int))=e + ((j + 1:Nat):Int) from by rw [IntKind.wrap_i64]; omega]
      obtain ⟨r24,hr24⟩:∃ r,ZaW s (n / 2 ^ (j + 1) + 1) ((e + ((j + 1:Nat):Int)))=r:=⟨_,rfl⟩
      refine xqc 138 [.bool s, .slice A23 l23 c23, .int .i64 (e + ((j + 1:Nat):Int))] 56 (shNb r24) _ (fun w S R=>((show Calls _ _ _ _ (ZaH w r24) from by rw [← hr24]; exact Zbz s _ _ _ _ _ _ R.1.1.1.1.1.1.1.1.1.1 R.2 hw3 (by omega) (by omega))).mono (fun _ _=>ZaJ)) (fun xx=>?_)
      obtain ⟨A24,l24,c24⟩:=xx
      refine xq 4 [(11, .v (.int .i64 r24.err))] [(10,109,[.v (.bool r24.s), .v (.slice A24 l24 c24), .v (.int .i64 r24.e)])] ?_
      refine xe (Zaa (Zag ?_))
      refine Zaf (v:=.tuple #[.agg #[.bool r24.s, .slice A24 l24 c24, .int .i64 r24.e], .int .i64 r24.err]) (by kernel_rfl) (fun w' S R=>?_)
      rw [ZcC hj k1 (Or.inr (Or.inr k3)) h0,hr24]
      exact ⟨(A24,l24,c24),rfl,R.2,S⟩
     ·have k3:=hb3.trans hb21
      refine Zal (Zaa (Zac (Zab (xq 5 [(51, .v (.bool s)),eS1 52 A11 l11 c11,(55, .v (.int .i64 (IntKind.i64.wrap (e + ((j + 1:Nat):Int)))))] [] ?_))))
      rw [show IntKind.i64.wrap (e + ((j + 1:Nat):Int))=e + ((j + 1:Nat):Int) from by rw [IntKind.wrap_i64]; omega]
      obtain ⟨r25,hr25⟩:∃ r,ZaW s (n / 2 ^ (j + 1)) ((e + ((j + 1:Nat):Int)))=r:=⟨_,rfl⟩
      refine xqc 138 [.bool s, .slice A11 l11 c11, .int .i64 (e + ((j + 1:Nat):Int))] 56 (shNb r25) _ (fun w S R=>((show Calls _ _ _ _ (ZaH w r25) from by rw [← hr25]; exact Zbz s _ _ _ _ _ _ R.1.1.1.1.1.1.1.1 R.1.1.1.1.2 hw2 (by omega) (by omega))).mono (fun _ _=>ZaJ)) (fun xx=>?_)
      obtain ⟨A25,l25,c25⟩:=xx
      refine xq 4 [(11, .v (.int .i64 r25.err))] [(10,109,[.v (.bool r25.s), .v (.slice A25 l25 c25), .v (.int .i64 r25.e)])] ?_
      refine xe (Zaa (Zag ?_))
      refine Zaf (v:=.tuple #[.agg #[.bool r25.s, .slice A25 l25 c25, .int .i64 r25.e], .int .i64 r25.err]) (by kernel_rfl) (fun w' S R=>?_)
      rw [Zc8 hj h0 (fun h=>by rcases h.2 with h | h | h; exact k4 h; exact k2 h; rw [k3] at h; cases h),hr25]
      exact ⟨(A25,l25,c25),rfl,R.2,S⟩
  ·rw [hb12]
   have k1:=of_decide_eq_false (hb1.trans hb12)
   refine xq 14 [(47, .v (.bool false))] [] ?_
   refine xe (Zaa (xb (Zal (Zaa (Zac (Zab (xq 5 [(51, .v (.bool s)),eS1 52 A11 l11 c11,(55, .v (.int .i64 (IntKind.i64.wrap (e + ((j + 1:Nat):Int)))))] [] ?_)))))))
   rw [show IntKind.i64.wrap (e + ((j + 1:Nat):Int))=e + ((j + 1:Nat):Int) from by rw [IntKind.wrap_i64]; omega]
   obtain ⟨r26,hr26⟩:∃ r,ZaW s (n / 2 ^ (j + 1)) ((e + ((j + 1:Nat):Int)))=r:=⟨_,rfl⟩
   refine xqc 138 [.bool s, .slice A11 l11 c11, .int .i64 (e + ((j + 1:Nat):Int))] 56 (shNb r26) _ (fun w S R=>((show Calls _ _ _ _ (ZaH w r26) from by rw [← hr26]; exact Zbz s _ _ _ _ _ _ R.1.1.1.1.1 R.1.2 hw2 (by omega) (by omega))).mono (fun _ _=>ZaJ)) (fun xx=>?_)
   obtain ⟨A26,l26,c26⟩:=xx
   refine xq 4 [(11, .v (.int .i64 r26.err))] [(10,109,[.v (.bool r26.s), .v (.slice A26 l26 c26), .v (.int .i64 r26.e)])] ?_
   refine xe (Zaa (Zag ?_))
   refine Zaf (v:=.tuple #[.agg #[.bool r26.s, .slice A26 l26 c26, .int .i64 r26.e], .int .i64 r26.err]) (by kernel_rfl) (fun w' S R=>?_)
   rw [Zc8 hj h0 (fun h=>k1 h.1),hr26]
   exact ⟨(A26,l26,c26),rfl,R.2,S⟩
end Go.Proofs.YtenchljfmfgeoaaGreatDoor

namespace Go.Proofs.YtenchljfmfgeoaaGreatDoor
open Go.RowKit
theorem Zj5 {u v:Value} {m n:Nat} {w:World} (hu:Zad w u m) (hv:Zad w v n) (hm:wl m≤4294967295) (hn:wl n≤4294967296) (h0:0 < n):Calls Tryz.prog 158 #[u,v] w (ZfV w (m / n) (m % n)):=by
 have hu':=hu
 have hv':=hv
 obtain ⟨A,xs,c,rfl,hc,h1,h2,h3,rfl⟩:=hu
 obtain ⟨A2,ys,c2,rfl,hc2,k1,k2,k3,rfl⟩:=hv
 rw [← ZaE h2 h3] at hm
 rw [← ZaE k2 k3] at hn
 exact ZoL A A2 xs ys c c2 w h1 k1 hm hn h2 k2 hu' hv' h3 k3 h0
theorem Zp8 {s:Bool} {A:Option Addr} {l c:Nat} {e:Int}:Zms #[.bool s, .slice A l c, .int .i64 e]:=by
 intro i k; rcases i with _ | _ | _ | i<;>simp
theorem Blk.cell3n {t:TypeId} {w:World} {g:Nat} {x y z:Value} (h:Blk t w g #[x,y,z]):w.cell? ⟨g,0,none⟩=some x∧w.cell? ⟨g,1,none⟩=some y∧w.cell? ⟨g,2,none⟩=some z∧w.frozen? ⟨g,0,none⟩=false∧w.frozen? ⟨g,1,none⟩=false∧w.frozen? ⟨g,2,none⟩=false :=
 ⟨h.cell 0,h.cell 1,h.cell 2,h.frozen 0,h.frozen 1,h.frozen 2⟩
set_option maxHeartbeats 1000000 in
theorem Zss {fn:Func} {t t2:Tmp} {tmps:Array Value} {w wb w2:World} {r:Nat} {x:FR} {A A0:Option Addr} {l c l0 c0:Nat} {s0:Bool} {e0:Int}
 (hres:fn.results=#[.cell t 109, .tmp t2]) (ht:tmps[t]? = some (.pointer (some ⟨r,0,none⟩))) (ht2:tmps[t2]? = some (.int .i64 x.err)) (hr:w.heap.size≤r)
 (HE:Ext w wb) (HB:Blk 109 wb r #[.bool s0, .slice A0 l0 c0, .int .i64 e0]) (hF:Ext wb w2) (hN:Zad w2 (.slice A l c) x.m) :
 bodyPost Tryz.prog fn (ZaH w x) .ret ⟨tmps,[]⟩ (((w2.setCell ⟨r,0,none⟩ (.bool x.s)).setCell ⟨r,1,none⟩ (.slice A l c)).setCell ⟨r,2,none⟩ (.int .i64 x.e)):=by
 have hB0:=HB.ext hF
 have hB2:Blk 109 (((w2.setCell ⟨r,0,none⟩ (.bool x.s)).setCell ⟨r,1,none⟩ (.slice A l c)).setCell ⟨r,2,none⟩ (.int .i64 x.e)) r #[.bool x.s, .slice A l c, .int .i64 x.e]:=((hB0.set_ 0 _).set_ 1 _).set_ 2 _
 obtain ⟨h0,h1,h2,_⟩:=hB2.cell3n
 have hS:Fr (fun i=>i=r) w2 (((w2.setCell ⟨r,0,none⟩ (.bool x.s)).setCell ⟨r,1,none⟩ (.slice A l c)).setCell ⟨r,2,none⟩ (.int .i64 x.e)):=(((show Fr (fun i=>i=r) w2 w2 from Fr.refl _ _).setCell (p:=⟨r,0,none⟩) (Or.inl rfl) _).setCell (p:=⟨r,1,none⟩) (Or.inl rfl) _).setCell (p:=⟨r,2,none⟩) (Or.inl rfl) _
 have hN2:=hN.other hB0 Zp8 hS
 have hE2:Ext w (((w2.setCell ⟨r,0,none⟩ (.bool x.s)).setCell ⟨r,1,none⟩ (.slice A l c)).setCell ⟨r,2,none⟩ (.int .i64 x.e)):=(((HE.trans hF).setCell (p:=⟨r,0,none⟩) (Or.inr hr) _).setCell (p:=⟨r,1,none⟩) (Or.inr hr) _).setCell (p:=⟨r,2,none⟩) (Or.inr hr) _
 generalize ((w2.setCell ⟨r,0,none⟩ (.bool x.s)).setCell ⟨r,1,none⟩ (.slice A l c)).setCell ⟨r,2,none⟩ (.int .i64 x.e)=W at *
 exact bodyPost_ret (v:=shNb x (A,l,c)) (by simp [results,hres,ht,ht2,go_sem,h0,h1,h2,shNb]) rfl ⟨(A,l,c),rfl,hN2,hE2⟩
theorem Ze7 {a b:Nat} (h:a < 64 * b):wl (2 ^ a)≤b:=ZbC.2 (by rw [show W64=2 ^ 64 by rw [Zan],← Nat.pow_mul]; exact Nat.pow_lt_pow_right (by decide) h)
set_option maxHeartbeats 4000000 in
theorem Zhl (s:Bool) (A:Option Addr) (l c n:Nat) (B:Option Addr) (m d k:Nat) (e:Int) (bits:Nat) (w:World) (hg:Glob w) (hN:Zad w (.slice A l c) n) (hK:Zad w (.slice B m d) k) (hwn:wl n≤1000000) (hwk:wl k≤1000000) (hk0:0 < k)
 (he1 : -288230376151711744≤e) (he2:e≤288230376151711744) (hb0:0 < bits) (hb:bits≤1000000) :
 Calls Tryz.prog 110 #[.bool s, .slice A l c, .slice B m d, .int .i64 e, .int .i64 ((bits:Nat):Int)] w (ZaH w (Zbd s n k e bits)):=by
 have hbn:=ZcS n
 have hbk:=ZcS k
 obtain ⟨a1,ha1⟩:∃ a,a=(rk0 n k bits - 1).toNat:=⟨_,rfl⟩
 obtain ⟨a2,ha2⟩:∃ a,a=(-(rk0 n k bits - 1)).toNat:=⟨_,rfl⟩
 obtain ⟨sh,hsh⟩:∃ x:Int,x=(bits:Int) + 1 + (blen k:Nat) - (blen n:Nat):=⟨_,rfl⟩
 have hrk:rk0 n k bits - 1 = -sh:=by unfold rk0; omega
 rw [hrk] at ha1 ha2
 rw [Int.neg_neg] at ha2
 have hs1 : -100000000≤sh:=by omega
 have hs2:sh≤100000000:=by omega
 have hfa:fa n (rk0 n k bits - 1)=n * 2 ^ a2:=by unfold fa; rw [hrk,Int.neg_neg,← ha2]
 have hfb:fb k (rk0 n k bits - 1)=k * 2 ^ a1:=by unfold fb; rw [hrk,← ha1]
 have hwa:wl (n * 2 ^ a2)≤4000000:=by
  refine Nat.le_trans (Zer _ _) ?_
  have:wl (2 ^ a2)≤2000001:=Ze7 (by omega)
  omega
 have hwb:wl (k * 2 ^ a1)≤4000000:=by
  refine Nat.le_trans (Zer _ _) ?_
  have:wl (2 ^ a1)≤2000001:=Ze7 (by omega)
  omega
 have hm1:(if (0:Int) > sh then (0:Int) else sh)=(a2:Int):=by split<;>omega
 have hm2:(if (0:Int) > -sh then (0:Int) else -sh)=(a1:Int):=by split<;>omega
 have HG:=zh hg
 have HN:=zh hN
 have HK:=zh hK
 clear hg hN hK
 obtain ⟨x,hx⟩:∃ x,Zbd s n k e bits=x:=⟨_,rfl⟩
 rw [hx]
 have HX:=zh hx
 clear hx
 go_enter Tryz.func110,Tryz.ntmps110
 go_wp2_with fail
 refine (ZbE (HK.out.ext ((Fr.refl _ _).alloc _)) (by omega)).mono ?_
 rintro e1 w1 ⟨rfl,hE1⟩
 have HE1:Hid (Ext w w1):=((Fr.refl _ _).alloc _).trans hE1
 have HB1:Hid (Blk 109 w1 w.heap.size #[.bool false, .slice none 0 0, .int .i64 0]):=(show Blk 109 (w.alloc (.cells #[.bool false, .slice none 0 0, .int .i64 0] 109)) w.heap.size #[.bool false, .slice none 0 0, .int .i64 0] from heap_alloc_new w _).ext hE1
 clear hE1
 go_wp2_with fail
 refine (ZbE (HN.out.ext HE1.out) (by omega)).mono ?_
 rintro e1 w2 ⟨rfl,hE2⟩
 have HE2:=zh (HE1.out.trans hE2)
 have HB2:=zh (HB1.out.ext hE2)
 clear hE2
 go_wp2_with fail
 rw [show max ((bits:Int) + 1 + (blen k:Nat) - (blen n:Nat)) 0=((a2:Nat):Int) from by omega]
 refine (ZbS a2 (HN.out.ext HE2.out) (by omega) (by omega)).mono ?_
 rintro e1 w3 ⟨v3,rfl,hN3,hE3⟩
 obtain ⟨A3,l3,c3,rfl⟩:=hN3.slice
 have HE3:=zh (HE2.out.trans hE3)
 have HB3:=zh (HB2.out.ext hE3)
 have HN3:=zh hN3
 clear hN3 hE3
 go_wp2_with fail
 rw [show max (-((bits:Int) + 1 + (blen k:Nat) - (blen n:Nat))) 0=((a1:Nat):Int) from by omega]
 refine (ZbS a1 (HK.out.ext HE3.out) (by omega) (by omega)).mono ?_
 rintro e1 w4 ⟨v4,rfl,hN4,hE4⟩
 obtain ⟨A4,l4,c4,rfl⟩:=hN4.slice
 have HE4:=zh (HE3.out.trans hE4)
 have HB4:=zh (HB3.out.ext hE4)
 have HN3':=zh (HN3.out.ext hE4)
 have HN4:=zh hN4
 clear hN4 hE4
 go_wp2_with fail
 refine (Zj5 HN3'.out HN4.out (by omega) (by omega) (Nat.mul_pos hk0 (p2 a1))).mono ?_
 rintro e1 w5 ⟨v5,v6,rfl,hN5,hN6,hE5⟩
 obtain ⟨A5,l5,c5,rfl⟩:=hN5.slice
 obtain ⟨A6,l6,c6,rfl⟩:=hN6.slice
 have HE5:=zh (HE4.out.trans hE5)
 have HB5:=zh (HB4.out.ext hE5)
 have HN5:=zh hN5
 have HN6:=zh hN6
 clear hN5 hN6 hE5
 go_wp2_with fail
 have hbox:Zgs (w5.alloc (.cells #[.slice A6 l6 c6] 107)) w5.heap.size (.slice A6 l6 c6):=⟨by simp,by rw [Lib.cell_of_heap (heap_alloc_new w5 _)]; rfl⟩
 have hwq:wl (n * 2 ^ a2 / (k * 2 ^ a1))≤4294967296:=Nat.le_trans (ZaU (Nat.div_le_self _ _)) (by omega)
 refine (Zny s A5 l5 c5 _ _ bits _ A6 l6 c6 _ (HG.out.ext (HE5.out.alloc _)) (HN5.out.ext ((Fr.refl _ _).alloc _)) hwq (by omega) (by omega) (by omega) hbox).mono ?_
 rintro e1 w6 ⟨⟨A7,l7,c7⟩,rfl,hN7,hE7⟩
 have hr:Za5 s (n * 2 ^ a2 / (k * 2 ^ a1)) (e - ((bits:Int) + 1 + (blen k:Nat) - (blen n:Nat))) bits (decide (0 < l6))=x:=by
  rw [← HX.out,← hsh]
  rcases Nat.eq_zero_or_pos n with rfl | hn
  ·rw [Nat.zero_mul,Nat.zero_div,Zh2,Zdw]
  ·have h:=Zl6 s (n:=n) (d:=k) e (bits:=bits) hn hk0 hb0
   have hq:fq n k (rk0 n k bits - 1)=n * 2 ^ a2 / (k * 2 ^ a1):=by unfold fq; rw [hfa,hfb]
   rw [hq,hfa,hfb,hrk] at h
   rw [← h,show e + -sh=e - sh by omega]
   congr 1
   have hl6:=HN6.out.len0
   exact decide_eq_decide.2 (by rw [hl6]; have:=@Zbk (n * 2 ^ a2 % (k * 2 ^ a1)); omega)
 rw [hr] at hN7
 rw [hr]
 clear hr
 have HN7:=zh hN7
 have HE6:Hid (Ext w w6):=(HE5.out.alloc _).trans hE7
 have HB6:=zh ((HB5.out.ext ((Fr.refl _ _).alloc _)).ext hE7)
 obtain ⟨z0,z1,z2,z3,z4,z5⟩:=HB6.out.cell3n
 clear hN7 hE7 hbox
 simp only [shNb]
 go_wp2
 exact Zss rfl rfl rfl (Nat.le_refl _) HE6.out HB6.out (Fr.refl _ _) HN7.out
end Go.Proofs.YtenchljfmfgeoaaGreatDoor

namespace Go.Proofs.YtenchljfmfgeoaaGreatDoor
open Go.RowKit
theorem Zju {a b:Int}:(if b < a then b else a)=min a b:=by omega
def Zgt (s:Bool) (m n:Nat) (e:Int) (bits:Nat):FR:=if n=0 then ⟨false,0,0,5⟩ else Zbd s m n e bits
def sumR (sx:Bool) (xm:Nat) (xe:Int) (sy:Bool) (ym:Nat) (ye:Int) (bits:Nat):FR :=
 if xm=0 then Zbd sy ym 1 ye bits else if ym=0 then Zbd sx xm 1 xe bits else addR sx xm xe sy ym ye bits
theorem Zfq {n a:Nat} (hn:wl n≤1000000) (ha:a≤100000000):wl (n * 2 ^ a)≤4000000:=by
 have:=Zer n (2 ^ a)
 have:wl (2 ^ a)≤2000001:=Ze7 (by omega)
 omega
section
variable {s t:Bool} {a b bits:Nat} {low:Int}
theorem Zj6 (ha:0 < a) (h:s=t):Zbd (decide (sg s a + sg t b < 0)) (sg s a + sg t b).natAbs 1 low bits=Zbd s (a + b) 1 low bits:=by
 subst h
 have h1:decide (sg s a + sg s b < 0)=s:=by cases s<;>simp [sg]<;>omega
 have h2:(sg s a + sg s b).natAbs=a + b:=by cases s<;>simp [sg]<;>omega
 rw [h1,h2]
theorem Zi5 (h:¬ s=t) (hb:b≤a):Zbd (decide (sg s a + sg t b < 0)) (sg s a + sg t b).natAbs 1 low bits=Zbd s (a - b) 1 low bits:=by
 have h2:(sg s a + sg t b).natAbs=a - b:=by cases s<;>cases t<;>simp [sg] at h ⊢<;>omega
 rw [h2]
 by_cases e:a - b=0
 ·rw [e,Zdw,Zdw]
 ·have h1:decide (sg s a + sg t b < 0)=s:=by cases s<;>cases t<;>simp [sg] at h ⊢<;>omega
  rw [h1]
theorem Zh3 (h:¬ s=t) (hb:a < b):Zbd (decide (sg s a + sg t b < 0)) (sg s a + sg t b).natAbs 1 low bits=Zbd t (b - a) 1 low bits:=by
 have h2:(sg s a + sg t b).natAbs=b - a:=by cases s<;>cases t<;>simp [sg] at h ⊢<;>omega
 rw [h2]
 have h1:decide (sg s a + sg t b < 0)=t:=by cases s<;>cases t<;>simp [sg] at h ⊢<;>omega
 rw [h1]
end
theorem Zll {sx:Bool} {xm:Nat} {xe:Int} {sy:Bool} {ym:Nat} {ye:Int} {bits u1 u2:Nat} {low:Int} (hl:min xe ye=low) (h1:xe - low=u1) (h2:ye - low=u2) :
 addR sx xm xe sy ym ye bits=Zbd (decide (sg sx (xm * 2 ^ u1) + sg sy (ym * 2 ^ u2) < 0)) (sg sx (xm * 2 ^ u1) + sg sy (ym * 2 ^ u2)).natAbs 1 low bits:=by
 unfold addR
 rw [hl,h1,h2]
 rfl
theorem ZeR {a b:Nat}:cmpI a b ≥ 0 ↔ b≤a:=by
 have:=@Zdm a b
 omega
theorem Zfr (s:Bool) (A:Option Addr) (l c x:Nat) (e:Int) (w:World) (hX:Zad w (.slice A l c) x) (hwx:wl x≤4294967296) (he1 : -1152921504606846976≤e) (he2:e≤1152921504606846976) :
 Calls Tryz.prog 134 #[.agg #[.bool s, .slice A l c, .int .i64 e]] w (RetV w (.int .i64 (((blen x:Nat):Int) + e))):=by
 refine Zas (Φ:=fun w=>Zad w (.slice A l c) (x)) Tryz.func134 rfl (by kernel_rfl) (fun w' hf=>hX.ext hf) ?_
 refine Zac ?_
 have hbw:=Zi4 hwx
 refine Zab (xq 2 [(1, .p 1 0),(2, .v (.int .i64 0))] [(1,109,[.v (.bool s), .v (.slice A l c), .v (.int .i64 e)])] ?_)
 refine xe (Zaa (Zac ?_))
 refine ZaK 7 (by kernel_rfl) (by kernel_rfl) Zao ?_
 refine xqg 2 [eS1 4 A l c] ?_
 refine xqd 139 [.slice A l c] 5 (fun _:Unit=>.int .i64 ((blen x:Nat):Int)) _ (fun w R Q=>(ZbE Q hwx).mono (fun _ _ h=>Zam h rfl)) (fun xx=>?_)
 refine xqg 3 [(8, .v (.int .i64 (IntKind.i64.wrap (((blen x:Nat):Int) + e))))] ?_
 rw [show IntKind.i64.wrap (((blen x:Nat):Int) + e)=((blen x:Nat):Int) + e from by rw [IntKind.wrap_i64]; omega]
 refine xqg 1 [(2, .v (.int .i64 (((blen x:Nat):Int) + e)))] ?_
 refine xz (xe (Zaa (Zag ?_)))
 refine Zaf (v:=.int .i64 (((blen x:Nat):Int) + e)) (by kernel_rfl) (fun w' R Q=>?_)
 exact ⟨rfl,R⟩
theorem ZoS (s:Bool) (A:Option Addr) (l c x:Nat) (e:Int) (t:Bool) (B:Option Addr) (m d y:Nat) (f:Int) (bits:Nat) (hb0:0 < bits) (hb:bits≤4096) (w:World) (hg:Glob w) (hX:Zad w (.slice A l c) x) (hwx:wl x≤100000) (he1 : -1073741824≤e) (he2:e≤1073741824) (hY:Zad w (.slice B m d) y) (hwy:wl y≤100000) (hf1 : -1073741824≤f) (hf2:f≤1073741824) :
 Calls Tryz.prog 130 #[.agg #[.bool s, .slice A l c, .int .i64 e], .agg #[.bool t, .slice B m d, .int .i64 f], .int .i64 ((bits:Nat):Int)] w (ZaH w (Zbd (s != t) (x * y) 1 (e + f) bits)):=by
 refine Zas (Φ:=fun w=>((Glob w∧Zad w (.slice A l c) (x))∧Zad w (.slice B m d) (y))) Tryz.func130 rfl (by kernel_rfl) (fun w' hf=>⟨⟨hg.ext hf,hX.ext hf⟩,hY.ext hf⟩) ?_
 refine Zac ?_
 have hln:=hX.len0
 have hlm:=hY.len0
 have hzx:=@Zbk x
 have hzy:=@Zbk y
 refine Zab (xq 4 [(3, .p 3 0),(4, .p 4 0),(6, .p 6 0),(7, .v (.int .i64 0))] [(6,109,[.v (.bool false), .v (.slice none 0 0), .v (.int .i64 0)]),(4,109,[.v (.bool t), .v (.slice B m d), .v (.int .i64 f)]),(3,109,[.v (.bool s), .v (.slice A l c), .v (.int .i64 e)])] ?_)
 refine xe (Zaa (Zac (Zac (Zab (xq 5 [(12, .v (.bool ((((l:Nat):Int):Int) == 0)))] [] ?_)))))
 rcases bl2 (((((l:Nat):Int):Int) == 0)) with hb10 | hb10
 ·rw [hb10]
  have hb10':=beq_iff_eq.1 hb10
  have hx0:x=0:=by omega
  refine xq 5 [(17, .v (.bool true))] [] ?_
  refine xe (Zaa (xa (Zac (Zab (xq 3 [(7, .v (.int .i64 0))] [] ?_)))))
  refine xe (Zaa (Zag (Zai ?_)))
  refine Zaf (v:=.tuple #[.agg #[.bool false, .slice none 0 0, .int .i64 0], .int .i64 0]) (by kernel_rfl) (fun w' R Q=>?_)
  rw [hx0,Nat.zero_mul,Zdw]
  exact ⟨(none,0,0),rfl,Zad.zero _,R⟩
 ·rw [hb10]
  have hb10':=Zbh hb10
  have hx0:¬ x=0:=by omega
  refine xq 5 [(17, .v (.bool ((((m:Nat):Int):Int) == 0)))] [] ?_
  refine xe (Zaa ?_)
  refine Zap (((((m:Nat):Int):Int) == 0)) (by kernel_rfl) (fun hb11=>?_) (fun hb11=>?_)
  ·have hb11':=beq_iff_eq.1 hb11
   have hy0:y=0:=by omega
   refine Zac (Zab (xq 3 [(7, .v (.int .i64 0))] [] ?_))
   refine xe (Zaa (Zag (Zai ?_)))
   refine Zaf (v:=.tuple #[.agg #[.bool false, .slice none 0 0, .int .i64 0], .int .i64 0]) (by kernel_rfl) (fun w' R Q=>?_)
   rw [hy0,Nat.mul_zero,Zdw]
   exact ⟨(none,0,0),rfl,Zad.zero _,R⟩
  ·have hb11':=Zbh hb11
   have hy0:¬ y=0:=by omega
   refine Zal (Zaa (Zac ?_))
   refine ZaK 19 (by kernel_rfl) (by kernel_rfl) Zao ?_
   refine xqg 9 [(23, .v (.bool (s != t))),eS1 25 A l c,eS1 27 B m d] ?_
   refine xqd 143 [.slice A l c, .slice B m d] 28 ZaA _ (fun w R Q=>(Zgp Q.1.2 Q.2 (by omega) (by omega)).mono (fun _ _=>Zau)) (fun xx=>?_)
   obtain ⟨A12,l12,c12⟩:=xx
   refine xqg 5 [(33, .v (.int .i64 (IntKind.i64.wrap (e + f))))] ?_
   rw [show IntKind.i64.wrap (e + f)=e + f from by rw [IntKind.wrap_i64]; omega]
   refine xqg 1 [(34, .v (.int .i64 ((bits:Nat):Int)))] ?_
   obtain ⟨r13,hr13⟩:∃ r,Za5 ((s != t)) (x * y) ((e + f)) bits false=r:=⟨_,rfl⟩
   refine xqd 132 [.bool (s != t), .slice A12 l12 c12, .int .i64 (e + f), .int .i64 ((bits:Nat):Int), .func (.func 133) #[] #[]] 35 (shNb r13) _ (fun w R Q=>((show Calls _ _ _ _ (ZaH w r13) from by rw [← hr13]; exact Zcd ((s != t)) _ _ _ _ ((e + f)) _ _ Q.1.1.1 Q.2 (by have:=Zer x y; omega) (by omega) (by omega) (by omega))).mono (fun _ _=>ZaJ)) (fun xx=>?_)
   obtain ⟨A13,l13,c13⟩:=xx
   refine xqg 2 [(36, .v (.agg #[.bool r13.s, .slice A13 l13 c13, .int .i64 r13.e])),(37, .v (.int .i64 r13.err))] ?_
   refine xz (xq 2 [(7, .v (.int .i64 r13.err))] [(6,109,[.v (.bool r13.s), .v (.slice A13 l13 c13), .v (.int .i64 r13.e)])] ?_)
   refine xe (Zaa (Zag ?_))
   refine Zaf (v:=.tuple #[.agg #[.bool r13.s, .slice A13 l13 c13, .int .i64 r13.e], .int .i64 r13.err]) (by kernel_rfl) (fun w' R Q=>?_)
   rw [← ZbF _ _ _ hb0,hr13]
   exact ⟨(A13,l13,c13),rfl,Q.2,R⟩
theorem ZoT (s:Bool) (A:Option Addr) (l c x:Nat) (e:Int) (t:Bool) (B:Option Addr) (m d y:Nat) (f:Int) (bits:Nat) (hb0:0 < bits) (hb:bits≤4096) (w:World) (hg:Glob w) (hX:Zad w (.slice A l c) x) (hwx:wl x≤100000) (he1 : -1073741824≤e) (he2:e≤1073741824) (hY:Zad w (.slice B m d) y) (hwy:wl y≤100000) (hf1 : -1073741824≤f) (hf2:f≤1073741824) :
 Calls Tryz.prog 96 #[.agg #[.bool s, .slice A l c, .int .i64 e], .agg #[.bool t, .slice B m d, .int .i64 f], .int .i64 ((bits:Nat):Int)] w (ZaH w (Zgt (s != t) x y (e - f) bits)):=by
 refine Zas (Φ:=fun w=>((Glob w∧Zad w (.slice A l c) (x))∧Zad w (.slice B m d) (y))) Tryz.func96 rfl (by kernel_rfl) (fun w' hf=>⟨⟨hg.ext hf,hX.ext hf⟩,hY.ext hf⟩) ?_
 refine Zac ?_
 have hln:=hX.len0
 have hlm:=hY.len0
 have hzx:=@Zbk x
 have hzy:=@Zbk y
 refine Zab (xq 4 [(3, .p 3 0),(4, .p 4 0),(6, .p 6 0),(7, .v (.int .i64 0))] [(6,109,[.v (.bool false), .v (.slice none 0 0), .v (.int .i64 0)]),(4,109,[.v (.bool t), .v (.slice B m d), .v (.int .i64 f)]),(3,109,[.v (.bool s), .v (.slice A l c), .v (.int .i64 e)])] ?_)
 refine xe (Zaa (Zac (Zac (Zab (xq 4 [(11, .v (.bool ((((m:Nat):Int):Int) == 0)))] [] ?_)))))
 refine xe (Zaa ?_)
 refine Zap (((((m:Nat):Int):Int) == 0)) (by kernel_rfl) (fun hb10=>?_) (fun hb10=>?_)
 ·have hb10':=beq_iff_eq.1 hb10
  have hy0:y=0:=by omega
  refine Zac (Zab (xq 3 [(7, .v (.int .i64 5))] [] ?_))
  refine xe (Zaa (Zag (Zai ?_)))
  refine Zaf (v:=.tuple #[.agg #[.bool false, .slice none 0 0, .int .i64 0], .int .i64 5]) (by kernel_rfl) (fun w' R Q=>?_)
  rw [show Zgt (s != t) x y (e - f) bits=⟨false,0,0,5⟩ from if_pos hy0]
  exact ⟨(none,0,0),rfl,Zad.zero _,R⟩
 ·have hb10':=Zbh hb10
  have hy0:¬ y=0:=by omega
  refine Zal (Zaa (Zac (Zab (xq 14 [(17, .v (.bool (s != t))),eS1 19 A l c,eS1 21 B m d,(26, .v (.int .i64 (IntKind.i64.wrap (e - f))))] [] ?_))))
  rw [show IntKind.i64.wrap (e - f)=e - f from by rw [IntKind.wrap_i64]; omega]
  refine xq 1 [(27, .v (.int .i64 ((bits:Nat):Int)))] [] ?_
  obtain ⟨r11,hr11⟩:∃ r,Zbd (s != t) x y ((e - f)) bits=r:=⟨_,rfl⟩
  refine xqc 110 [.bool (s != t), .slice A l c, .slice B m d, .int .i64 (e - f), .int .i64 ((bits:Nat):Int)] 28 (shNb r11) _ (fun w R Q=>((show Calls _ _ _ _ (ZaH w r11) from by rw [← hr11]; exact Zhl (s != t) _ _ _ x _ _ _ y _ bits _ Q.1.1 Q.1.2 Q.2 (by omega) (by omega) (by omega) (by omega) (by omega) hb0 (by omega))).mono (fun _ _=>ZaJ)) (fun xx=>?_)
  obtain ⟨A11,l11,c11⟩:=xx
  refine xq 4 [(7, .v (.int .i64 r11.err))] [(6,109,[.v (.bool r11.s), .v (.slice A11 l11 c11), .v (.int .i64 r11.e)])] ?_
  refine xe (Zaa (Zag ?_))
  refine Zaf (v:=.tuple #[.agg #[.bool r11.s, .slice A11 l11 c11, .int .i64 r11.e], .int .i64 r11.err]) (by kernel_rfl) (fun w' R Q=>?_)
  rw [show Zgt (s != t) x y (e - f) bits=Zbd (s != t) x y (e - f) bits from if_neg hy0,hr11]
  exact ⟨(A11,l11,c11),rfl,Q.2,R⟩
end Go.Proofs.YtenchljfmfgeoaaGreatDoor

namespace Go.Proofs.YtenchljfmfgeoaaGreatDoor
open Go.RowKit
theorem Zj7 (s:Bool) (A:Option Addr) (l c x:Nat) (e:Int) (t:Bool) (B:Option Addr) (m d y:Nat) (f:Int) (bits:Nat) (hb0:0 < bits) (hb:bits≤4096) (w:World) (hg:Glob w) (hX:Zad w (.slice A l c) x) (hwx:wl x≤100000) (he1 : -1073741824≤e) (he2:e≤1073741824) (hY:Zad w (.slice B m d) y) (hwy:wl y≤100000) (hf1 : -1073741824≤f) (hf2:f≤1073741824) :
 Calls Tryz.prog 91 #[.agg #[.bool s, .slice A l c, .int .i64 e], .agg #[.bool t, .slice B m d, .int .i64 f], .int .i64 ((bits:Nat):Int)] w (ZaH w (sumR s x e t y f bits)):=by
 refine Zas (Φ:=fun w=>((Glob w∧Zad w (.slice A l c) (x))∧Zad w (.slice B m d) (y))) Tryz.func91 rfl (by kernel_rfl) (fun w' hf=>⟨⟨hg.ext hf,hX.ext hf⟩,hY.ext hf⟩) ?_
 refine Zac ?_
 have hln:=hX.len0
 have hlm:=hY.len0
 have hzx:=@Zbk x
 have hzy:=@Zbk y
 have hbx:=ZcS x
 have hby:=ZcS y
 refine Zab (xq 4 [(3, .p 3 0),(4, .p 4 0),(6, .p 6 0),(7, .v (.int .i64 0))] [(6,109,[.v (.bool false), .v (.slice none 0 0), .v (.int .i64 0)]),(4,109,[.v (.bool t), .v (.slice B m d), .v (.int .i64 f)]),(3,109,[.v (.bool s), .v (.slice A l c), .v (.int .i64 e)])] ?_)
 refine xe (Zaa (Zac (Zac (Zab (xq 4 [(15, .v (.bool ((((l:Nat):Int):Int) == 0)))] [] ?_)))))
 refine xe (Zaa ?_)
 refine Zap (((((l:Nat):Int):Int) == 0)) (by kernel_rfl) (fun hb10=>?_) (fun hb10=>?_)
 ·have hb10':=beq_iff_eq.1 hb10
  have hx0:x=0:=by omega
  refine Zab (xq 4 [] [(4,109,[.v (.bool s), .v (.slice A l c), .v (.int .i64 e)]),(3,109,[.v (.bool t), .v (.slice B m d), .v (.int .i64 f)])] ?_)
  refine xe (Zaa (Zac (Zac (Zab (xq 4 [(21, .v (.bool ((((l:Nat):Int):Int) == 0)))] [] ?_)))))
  rw [hb10]
  refine xe (Zaa (xa (Zac (Zab (xq 7 [(23, .v (.bool t)),eS1 25 B m d,(27, .v (.int .i64 f)),(28, .v (.int .i64 ((bits:Nat):Int)))] [] ?_)))))
  obtain ⟨r11,hr11⟩:∃ r,Za5 t (y) (f) bits false=r:=⟨_,rfl⟩
  refine xqc 132 [.bool t, .slice B m d, .int .i64 f, .int .i64 ((bits:Nat):Int), .func (.func 133) #[] #[]] 29 (shNb r11) _ (fun w R Q=>((show Calls _ _ _ _ (ZaH w r11) from by rw [← hr11]; exact Zcd t _ _ _ _ f _ _ Q.1.1 Q.2 (by omega) (by omega) (by omega) (by omega))).mono (fun _ _=>ZaJ)) (fun xx=>?_)
  obtain ⟨A11,l11,c11⟩:=xx
  refine xq 4 [(7, .v (.int .i64 r11.err))] [(6,109,[.v (.bool r11.s), .v (.slice A11 l11 c11), .v (.int .i64 r11.e)])] ?_
  refine xe (Zaa (Zag (Zai ?_)))
  refine Zaf (v:=.tuple #[.agg #[.bool r11.s, .slice A11 l11 c11, .int .i64 r11.e], .int .i64 r11.err]) (by kernel_rfl) (fun w' R Q=>?_)
  rw [show sumR s x e t y f bits=Zbd t y 1 f bits from if_pos hx0,← ZbF _ _ _ hb0,hr11]
  exact ⟨(A11,l11,c11),rfl,Q.2,R⟩
 ·have hb10':=Zbh hb10
  have hx0:¬ x=0:=by omega
  refine Zal (Zaa (Zac (Zac (Zab (xq 4 [(21, .v (.bool ((((m:Nat):Int):Int) == 0)))] [] ?_)))))
  refine xe (Zaa ?_)
  refine Zap (((((m:Nat):Int):Int) == 0)) (by kernel_rfl) (fun hb12=>?_) (fun hb12=>?_)
  ·have hb12':=beq_iff_eq.1 hb12
   have hy0:y=0:=by omega
   refine Zac (Zab (xq 7 [(23, .v (.bool s)),eS1 25 A l c,(27, .v (.int .i64 e)),(28, .v (.int .i64 ((bits:Nat):Int)))] [] ?_))
   obtain ⟨r13,hr13⟩:∃ r,Za5 s (x) (e) bits false=r:=⟨_,rfl⟩
   refine xqc 132 [.bool s, .slice A l c, .int .i64 e, .int .i64 ((bits:Nat):Int), .func (.func 133) #[] #[]] 29 (shNb r13) _ (fun w R Q=>((show Calls _ _ _ _ (ZaH w r13) from by rw [← hr13]; exact Zcd s _ _ _ _ e _ _ Q.1.1 Q.1.2 (by omega) (by omega) (by omega) (by omega))).mono (fun _ _=>ZaJ)) (fun xx=>?_)
   obtain ⟨A13,l13,c13⟩:=xx
   refine xq 4 [(7, .v (.int .i64 r13.err))] [(6,109,[.v (.bool r13.s), .v (.slice A13 l13 c13), .v (.int .i64 r13.e)])] ?_
   refine xe (Zaa (Zag (Zai ?_)))
   refine Zaf (v:=.tuple #[.agg #[.bool r13.s, .slice A13 l13 c13, .int .i64 r13.e], .int .i64 r13.err]) (by kernel_rfl) (fun w' R Q=>?_)
   rw [show sumR s x e t y f bits=Zbd s x 1 e bits from by unfold sumR; rw [if_neg hx0,if_pos hy0],← ZbF _ _ _ hb0,hr13]
   exact ⟨(A13,l13,c13),rfl,Q.2,R⟩
  ·have hb12':=Zbh hb12
   have hy0:¬ y=0:=by omega
   refine Zal (Zaa ?_)
   refine Zk7 (fun ss ff=>∃ (sp:Bool) (P1:Option Addr) (pl pc p:Nat) (i:Int) (sq:Bool) (Q1:Option Addr) (ql qc q:Nat) (k:Int),ss=ofL [(2, .v (.int .i64 ((bits:Nat):Int))),(3, .p 3 0),(4, .p 4 0),(6, .p 6 0),(7, .v (.int .i64 0))] [(6,109,[.v (.bool false), .v (.slice none 0 0), .v (.int .i64 0)]),(3,109,[.v (.bool sp), .v (.slice P1 pl pc), .v (.int .i64 i)]),(4,109,[.v (.bool sq), .v (.slice Q1 ql qc), .v (.int .i64 k)])]∧ff=(fun w=>((Glob w∧Zad w (.slice P1 pl pc) (p))∧Zad w (.slice Q1 ql qc) (q)))∧(0 < p)∧(0 < q)∧(wl p≤100000)∧(wl q≤100000)∧(-1073741824≤i)∧(i≤1073741824)∧(-1073741824≤k)∧(k≤1073741824)∧(((blen q:Nat):Int) + k≤((blen p:Nat):Int) + i)∧(addR s x e t y f bits=addR sp p i sq q k bits)) ?_ ?_
   ·refine Zac ?_
    refine ZaK 5 (by kernel_rfl) (by kernel_rfl) Zao ?_
    refine xqg 1 [(32, .v (.agg #[.bool s, .slice A l c, .int .i64 e]))] ?_
    refine xqd 134 [.agg #[.bool s, .slice A l c, .int .i64 e]] 33 (fun _:Unit=>.int .i64 (((blen x:Nat):Int) + e)) _ (fun w R Q=>(Zfr _ _ _ _ _ _ _ Q.1.2 (by omega) (by omega) (by omega)).mono (fun _ _ h=>Zam h rfl)) (fun xx=>?_)
    refine xqg 1 [(34, .v (.agg #[.bool t, .slice B m d, .int .i64 f]))] ?_
    refine xqd 134 [.agg #[.bool t, .slice B m d, .int .i64 f]] 35 (fun _:Unit=>.int .i64 (((blen y:Nat):Int) + f)) _ (fun w R Q=>(Zfr _ _ _ _ _ _ _ Q.1.2 (by omega) (by omega) (by omega)).mono (fun _ _ h=>Zam h rfl)) (fun xx=>?_)
    refine xqg 1 [(36, .v (.bool (decide ((((blen x:Nat):Int) + e) < (((blen y:Nat):Int) + f)))))] ?_
    refine xz (xe (Zaa ?_))
    refine Zap ((decide ((((blen x:Nat):Int) + e) < (((blen y:Nat):Int) + f)))) (by kernel_rfl) (fun hb14=>?_) (fun hb14=>?_)
    ·have hb14':=of_decide_eq_true hb14
     refine Zab (xq 4 [] [(4,109,[.v (.bool s), .v (.slice A l c), .v (.int .i64 e)]),(3,109,[.v (.bool t), .v (.slice B m d), .v (.int .i64 f)])] ?_)
     refine xe ?_
     refine SXq.weak [(2, .v (.int .i64 ((bits:Nat):Int))),(3, .p 3 0),(4, .p 4 0),(6, .p 6 0),(7, .v (.int .i64 0))] [(6,109,[.v (.bool false), .v (.slice none 0 0), .v (.int .i64 0)]),(3,109,[.v (.bool t), .v (.slice B m d), .v (.int .i64 f)]),(4,109,[.v (.bool s), .v (.slice A l c), .v (.int .i64 e)])] (Ψ:=fun w=>((Glob w∧Zad w (.slice B m d) (y))∧Zad w (.slice A l c) (x))) (Zax.of (by kernel_rfl)) (by kernel_rfl) (fun w Q=>⟨⟨Q.1.1.1.1,Q.1.1.2⟩,Q.1.1.1.2⟩) ?_
     exact Zdv ⟨t,B,m,d,y,f,s,A,l,c,x,e,rfl,rfl,(by omega),(by omega),(by omega),(by omega),(by omega),(by omega),(by omega),(by omega),(by omega),(ZoO _ _ _ _ _ _ _)⟩
    ·have hb14':=of_decide_eq_false hb14
     refine Zal ?_
     refine SXq.weak [(2, .v (.int .i64 ((bits:Nat):Int))),(3, .p 3 0),(4, .p 4 0),(6, .p 6 0),(7, .v (.int .i64 0))] [(6,109,[.v (.bool false), .v (.slice none 0 0), .v (.int .i64 0)]),(3,109,[.v (.bool s), .v (.slice A l c), .v (.int .i64 e)]),(4,109,[.v (.bool t), .v (.slice B m d), .v (.int .i64 f)])] (Ψ:=fun w=>((Glob w∧Zad w (.slice A l c) (x))∧Zad w (.slice B m d) (y))) (Zax.of (by kernel_rfl)) (by kernel_rfl) (fun w Q=>⟨⟨Q.1.1.1.1,Q.1.1.1.2⟩,Q.1.1.2⟩) ?_
     exact Zdv ⟨s,A,l,c,x,e,t,B,m,d,y,f,rfl,rfl,(by omega),(by omega),(by omega),(by omega),(by omega),(by omega),(by omega),(by omega),(by omega),rfl⟩
   ·rintro ss ff ⟨sp,P1,pl,pc,p,i,sq,Q1,ql,qc,q,k,rfl,rfl,hp0,hq0,hwp,hwq,hi1,hi2,hk1,hk2,htop,hsum⟩
    refine Zac (Zac ?_)
    have hbp:=ZcS p
    have hbq:=ZcS q
    have hp1:=ZdH hp0
    have hq1:=ZdH hq0
    obtain ⟨z,hz⟩:∃ z:Int,min i (((blen p:Nat):Int) + i - ((bits:Nat):Int) - 2)=z:=⟨_,rfl⟩
    refine ZaK 9 (by kernel_rfl) (by kernel_rfl) Zao ?_
    refine xqg 3 [(40, .v (.int .i64 i)),(41, .v (.agg #[.bool sp, .slice P1 pl pc, .int .i64 i]))] ?_
    refine xqd 134 [.agg #[.bool sp, .slice P1 pl pc, .int .i64 i]] 42 (fun _:Unit=>.int .i64 (((blen p:Nat):Int) + i)) _ (fun w R Q=>(Zfr _ _ _ _ _ _ _ Q.1.2 (by omega) (by omega) (by omega)).mono (fun _ _ h=>Zam h rfl)) (fun xx=>?_)
    refine xqg 2 [(44, .v (.int .i64 (IntKind.i64.wrap ((((blen p:Nat):Int) + i) - ((bits:Nat):Int)))))] ?_
    rw [show IntKind.i64.wrap (((blen p:Nat):Int) + i - ((bits:Nat):Int))=((blen p:Nat):Int) + i - ((bits:Nat):Int) from by rw [IntKind.wrap_i64]; omega]
    refine xqg 1 [(45, .v (.int .i64 (IntKind.i64.wrap ((((blen p:Nat):Int) + i - ((bits:Nat):Int)) - 2))))] ?_
    rw [show IntKind.i64.wrap (((blen p:Nat):Int) + i - ((bits:Nat):Int) - 2)=((blen p:Nat):Int) + i - ((bits:Nat):Int) - 2 from by rw [IntKind.wrap_i64]; omega]
    refine xqg 1 [(46, .v (.int .i64 (if (((blen p:Nat):Int) + i - ((bits:Nat):Int) - 2) < i then (((blen p:Nat):Int) + i - ((bits:Nat):Int) - 2) else i)))] ?_
    rw [(show (if ((blen p:Nat):Int) + i - ((bits:Nat):Int) - 2 < i then ((blen p:Nat):Int) + i - ((bits:Nat):Int) - 2 else i)=z from Zju.trans hz)]
    refine xqg 1 [(8, .v (.int .i64 z))] ?_
    refine xz (xe (Zaa (Zac (Zab (xq 1 [(47, .v (.agg #[.bool sq, .slice Q1 ql qc, .int .i64 k]))] [] ?_)))))
    refine xqc 134 [.agg #[.bool sq, .slice Q1 ql qc, .int .i64 k]] 48 (fun _:Unit=>.int .i64 (((blen q:Nat):Int) + k)) _ (fun w R Q=>(Zfr _ _ _ _ _ _ _ Q.1.2 (by omega) (by omega) (by omega)).mono (fun _ _ h=>Zam h rfl)) (fun xx=>?_)
    refine xq 2 [(50, .v (.bool (decide ((((blen q:Nat):Int) + k)≤z))))] [] ?_
    refine xe (Zaa ?_)
    refine Zap ((decide ((((blen q:Nat):Int) + k)≤z))) (by kernel_rfl) (fun hb15=>?_) (fun hb15=>?_)
    ·have hb15':=of_decide_eq_true hb15
     refine Zab (xq 2 [(52, .v (.bool sq))] [] ?_)
     refine Zbx (d:=53) (fun zb:Nat=>.slice (some ⟨zb,0,none⟩) 1 1) (fun zb zw=>Blk 141 zw zb #[.int .u64 1]) (by kernel_rfl) (by kernel_rfl) (by kernel_rfl) (by kernel_rfl) (by kernel_rfl) (by kernel_rfl) (fun w R Q=>Zby (t:=107) (e:=141) (n:=1) (sz:=1) (z:=.int .u64 0) (parts:=#[(0,Operand.const (Value.int IntKind.u64 1))]) (by kernel_rfl) (by kernel_rfl) (by kernel_rfl) (by kernel_rfl) (by kernel_rfl) (by kernel_rfl)) (fun b16=>?_)
     refine xr 2 [(2, .v (.int .i64 ((bits:Nat):Int))),(3, .p 3 0),(4, .p 4 0),(6, .p 6 0),(7, .v (.int .i64 0)),(52, .v (.bool sq)),eS1 53 (some ⟨b16,0,none⟩) 1 1,(55, .v (.int .i64 (IntKind.i64.wrap (z - 1))))] [(6,109,[.v (.bool false), .v (.slice none 0 0), .v (.int .i64 0)]),(3,109,[.v (.bool sp), .v (.slice P1 pl pc), .v (.int .i64 i)]),(4,109,[.v (.bool sq), .v (.slice Q1 ql qc), .v (.int .i64 k)])] ?_
     rw [show IntKind.i64.wrap (z - 1)=z - 1 from by rw [IntKind.wrap_i64]; omega]
     refine xq 2 [] [(4,109,[.v (.bool sq), .v (.slice (some ⟨b16,0,none⟩) 1 1), .v (.int .i64 (z - 1))])] ?_
     refine xe (Zaa (Zac ?_))
     obtain ⟨low,hlow⟩:∃ z':Int,min i (z - 1)=z':=⟨_,rfl⟩
     obtain ⟨u1,hu1⟩:∃ u:Nat,i - low=u:=Int.eq_ofNat_of_zero_le (by omega)
     obtain ⟨u2,hu2⟩:∃ u:Nat,(z - 1) - low=u:=Int.eq_ofNat_of_zero_le (by omega)
     have hS:addR s x e t y f bits=addR sp p i sq 1 (z - 1) bits:=hsum.trans (Znw _ _ _ _ hb0 hp0 hq0 (by omega) (by omega) (by omega))
     rw [Zll hlow hu1 hu2] at hS
     have hv1:u1≤100000000:=by omega
     have hv2:u2≤100000000:=by omega
     have hlo1 : -4294967296≤low:=by omega
     have hlo2:low≤4294967296:=by omega
     obtain ⟨a,ha⟩:∃ a,p * 2 ^ u1=a:=⟨_,rfl⟩
     obtain ⟨b,hb'⟩:∃ b,1 * 2 ^ u2=b:=⟨_,rfl⟩
     have hwa:wl a≤4000000:=by rw [← ha]; exact Zfq (by omega) hv1
     have hwb:wl b≤4000000:=by rw [← hb']; exact Zfq (Nat.le_trans (ZdW.2 (by rw [Zan]; decide)) (by decide)) hv2
     have ha0:0 < a:=by rw [← ha]; exact Nat.mul_pos hp0 (p2 u1)
     rw [ha,hb'] at hS
     refine Zab (xq 5 [(61, .v (.int .i64 (if (z - 1) < i then (z - 1) else i)))] [] ?_)
     rw [(show (if (z - 1) < i then (z - 1) else i)=low from Zju.trans hlow)]
     refine xq 1 [(9, .v (.int .i64 low))] [] ?_
     refine xe (Zaa (Zac ?_))
     refine SXc.weak [(2, .v (.int .i64 ((bits:Nat):Int))),(3, .p 3 0),(4, .p 4 0),(6, .p 6 0),(7, .v (.int .i64 0)),(9, .v (.int .i64 low))] [(4,109,[.v (.bool sq), .v (.slice (some ⟨b16,0,none⟩) 1 1), .v (.int .i64 (z - 1))]),(6,109,[.v (.bool false), .v (.slice none 0 0), .v (.int .i64 0)]),(3,109,[.v (.bool sp), .v (.slice P1 pl pc), .v (.int .i64 i)])] (Zax.of (by kernel_rfl)) (by kernel_rfl) (fun _ h=>h) ?_
     refine ZaK 16 (by kernel_rfl) (by kernel_rfl) Zao ?_
     refine xqg 6 [eS1 63 P1 pl pc,(67, .v (.int .i64 (IntKind.i64.wrap (i - low))))] ?_
     rw [show IntKind.i64.wrap (i - low)=((u1:Nat):Int) from by rw [IntKind.wrap_i64]; omega]
     refine xqd 101 [.slice P1 pl pc, .int .i64 ((u1:Nat):Int)] 68 ZaA _ (fun w R Q=>(ZbS u1 Q.1.1.1.1.2 (by omega) (by omega)).mono (fun _ _ h=>Zau (by rw [ha] at h; exact h))) (fun xx=>?_)
     obtain ⟨A17,l17,c17⟩:=xx
     refine xqg 6 [eS1 70 (some ⟨b16,0,none⟩) 1 1,(74, .v (.int .i64 (IntKind.i64.wrap ((z - 1) - low))))] ?_
     rw [show IntKind.i64.wrap ((z - 1) - low)=((u2:Nat):Int) from by rw [IntKind.wrap_i64]; omega]
     refine xqd 101 [.slice (some ⟨b16,0,none⟩) 1 1, .int .i64 ((u2:Nat):Int)] 75 ZaA _ (fun w R Q=>(ZbS u2 (Zcu Q.1.2) wl_1 (by omega)).mono (fun _ _ h=>Zau (by rw [hb'] at h; exact h))) (fun xx=>?_)
     obtain ⟨A18,l18,c18⟩:=xx
     refine xqg 2 [eS1 10 A17 l17 c17,eS1 11 A18 l18 c18] ?_
     refine xz (xe (Zaa (Zac (Zar (Zac (Zab (xq 6 [(76, .v (.bool (sp == sq)))] [] ?_)))))))
     refine xe (Zaa ?_)
     refine Zap ((sp == sq)) (by kernel_rfl) (fun hb19=>?_) (fun hb19=>?_)
     ·have hss:sp=sq:=eq_of_beq hb19
      refine Zac ?_
      refine ZaK 10 (by kernel_rfl) (by kernel_rfl) Zao ?_
      refine xqg 4 [(83, .v (.bool sp)),eS1 84 A17 l17 c17,eS1 85 A18 l18 c18] ?_
      refine xqd 135 [.slice A17 l17 c17, .slice A18 l18 c18] 86 ZaA _ (fun w R Q=>(ZbW Q.1.2 Q.2 (by omega) (by omega)).mono (fun _ _=>Zau)) (fun xx=>?_)
      obtain ⟨A20,l20,c20⟩:=xx
      refine xqg 2 [(87, .v (.int .i64 low)),(88, .v (.int .i64 ((bits:Nat):Int)))] ?_
      obtain ⟨r21,hr21⟩:∃ r,Za5 sp (a + b) (low) bits false=r:=⟨_,rfl⟩
      refine xqd 132 [.bool sp, .slice A20 l20 c20, .int .i64 low, .int .i64 ((bits:Nat):Int), .func (.func 133) #[] #[]] 89 (shNb r21) _ (fun w R Q=>((show Calls _ _ _ _ (ZaH w r21) from by rw [← hr21]; exact Zcd sp _ _ _ _ low _ _ Q.1.1.1.1.1.1.1.1 Q.2 (by have:=ZkJ hwa hwb; omega) (by omega) (by omega) (by omega))).mono (fun _ _=>ZaJ)) (fun xx=>?_)
      obtain ⟨A21,l21,c21⟩:=xx
      refine xqg 2 [(90, .v (.agg #[.bool r21.s, .slice A21 l21 c21, .int .i64 r21.e])),(91, .v (.int .i64 r21.err))] ?_
      refine xz (xq 2 [(7, .v (.int .i64 r21.err))] [(6,109,[.v (.bool r21.s), .v (.slice A21 l21 c21), .v (.int .i64 r21.e)])] ?_)
      refine xe (Zaa (Zag (ZaQ (Zai ?_))))
      refine Zaf (v:=.tuple #[.agg #[.bool r21.s, .slice A21 l21 c21, .int .i64 r21.e], .int .i64 r21.err]) (by kernel_rfl) (fun w' R Q=>?_)
      rw [show sumR s x e t y f bits=addR s x e t y f bits from by unfold sumR; rw [if_neg (by omega),if_neg (by omega)],hS]
      rw [Zj6 ha0 hss,← ZbF _ _ _ hb0,hr21]
      exact ⟨(A21,l21,c21),rfl,Q.2,R⟩
     ·have hss:¬ sp=sq:=fun e'=>by rw [e'] at hb19; simp at hb19
      refine Zac (Zab (xq 2 [eS1 93 A17 l17 c17,eS1 94 A18 l18 c18] [] ?_))
      refine xqc 136 [.slice A17 l17 c17, .slice A18 l18 c18] 95 (fun _:Unit=>.int .i64 (cmpI ((a:Nat):Int) ((b:Nat):Int))) _ (fun w R Q=>(ZcR Q.1.2 Q.2 (by omega)).mono (fun _ _ h=>Zam h rfl)) (fun xx=>?_)
      refine xq 2 [(92, .v (.bool (decide ((cmpI ((a:Nat):Int) ((b:Nat):Int)) ≥ 0))))] [] ?_
      refine xe (Zaa ?_)
      refine Zap ((decide ((cmpI ((a:Nat):Int) ((b:Nat):Int)) ≥ 0))) (by kernel_rfl) (fun hb22=>?_) (fun hb22=>?_)
      ·have hle:b≤a:=by have:=ZeR.1 (of_decide_eq_true hb22); omega
       refine Zac ?_
       refine ZaK 10 (by kernel_rfl) (by kernel_rfl) Zao ?_
       refine xqg 4 [(98, .v (.bool sp)),eS1 99 A17 l17 c17,eS1 100 A18 l18 c18] ?_
       refine xqd 137 [.slice A17 l17 c17, .slice A18 l18 c18] 101 ZaA _ (fun w R Q=>(ZeI Q.1.1.2 Q.1.2 (by omega) hle).mono (fun _ _=>Zau)) (fun xx=>?_)
       obtain ⟨A23,l23,c23⟩:=xx
       refine xqg 2 [(102, .v (.int .i64 low)),(103, .v (.int .i64 ((bits:Nat):Int)))] ?_
       obtain ⟨r24,hr24⟩:∃ r,Za5 sp (a - b) (low) bits false=r:=⟨_,rfl⟩
       refine xqd 132 [.bool sp, .slice A23 l23 c23, .int .i64 low, .int .i64 ((bits:Nat):Int), .func (.func 133) #[] #[]] 104 (shNb r24) _ (fun w R Q=>((show Calls _ _ _ _ (ZaH w r24) from by rw [← hr24]; exact Zcd sp _ _ _ _ low _ _ Q.1.1.1.1.1.1.1.1.1 Q.2 (Nat.le_trans (ZaU (Nat.sub_le _ _)) (by omega)) (by omega) (by omega) (by omega))).mono (fun _ _=>ZaJ)) (fun xx=>?_)
       obtain ⟨A24,l24,c24⟩:=xx
       refine xqg 2 [(105, .v (.agg #[.bool r24.s, .slice A24 l24 c24, .int .i64 r24.e])),(106, .v (.int .i64 r24.err))] ?_
       refine xz (xq 2 [(7, .v (.int .i64 r24.err))] [(6,109,[.v (.bool r24.s), .v (.slice A24 l24 c24), .v (.int .i64 r24.e)])] ?_)
       refine xe (Zaa (Zag (ZaQ (Zai ?_))))
       refine Zaf (v:=.tuple #[.agg #[.bool r24.s, .slice A24 l24 c24, .int .i64 r24.e], .int .i64 r24.err]) (by kernel_rfl) (fun w' R Q=>?_)
       rw [show sumR s x e t y f bits=addR s x e t y f bits from by unfold sumR; rw [if_neg (by omega),if_neg (by omega)],hS]
       rw [Zi5 hss hle,← ZbF _ _ _ hb0,hr24]
       exact ⟨(A24,l24,c24),rfl,Q.2,R⟩
      ·have hlt:a < b:=by have:=mt ZeR.2 (of_decide_eq_false hb22); omega
       refine Zal (ZaO (Zaa (Zac ?_)))
       refine ZaK 10 (by kernel_rfl) (by kernel_rfl) Zao ?_
       refine xqg 4 [(108, .v (.bool sq)),eS1 109 A18 l18 c18,eS1 110 A17 l17 c17] ?_
       refine xqd 137 [.slice A18 l18 c18, .slice A17 l17 c17] 111 ZaA _ (fun w R Q=>(ZeI Q.1.2 Q.1.1.2 (by omega) (by omega)).mono (fun _ _=>Zau)) (fun xx=>?_)
       obtain ⟨A25,l25,c25⟩:=xx
       refine xqg 2 [(112, .v (.int .i64 low)),(113, .v (.int .i64 ((bits:Nat):Int)))] ?_
       obtain ⟨r26,hr26⟩:∃ r,Za5 sq (b - a) (low) bits false=r:=⟨_,rfl⟩
       refine xqd 132 [.bool sq, .slice A25 l25 c25, .int .i64 low, .int .i64 ((bits:Nat):Int), .func (.func 133) #[] #[]] 114 (shNb r26) _ (fun w R Q=>((show Calls _ _ _ _ (ZaH w r26) from by rw [← hr26]; exact Zcd sq _ _ _ _ low _ _ Q.1.1.1.1.1.1.1.1.1 Q.2 (Nat.le_trans (ZaU (Nat.sub_le _ _)) (by omega)) (by omega) (by omega) (by omega))).mono (fun _ _=>ZaJ)) (fun xx=>?_)
       obtain ⟨A26,l26,c26⟩:=xx
       refine xqg 2 [(115, .v (.agg #[.bool r26.s, .slice A26 l26 c26, .int .i64 r26.e])),(116, .v (.int .i64 r26.err))] ?_
       refine xz (xq 2 [(7, .v (.int .i64 r26.err))] [(6,109,[.v (.bool r26.s), .v (.slice A26 l26 c26), .v (.int .i64 r26.e)])] ?_)
       refine xe (Zaa (Zag ?_))
       refine Zaf (v:=.tuple #[.agg #[.bool r26.s, .slice A26 l26 c26, .int .i64 r26.e], .int .i64 r26.err]) (by kernel_rfl) (fun w' R Q=>?_)
       rw [show sumR s x e t y f bits=addR s x e t y f bits from by unfold sumR; rw [if_neg (by omega),if_neg (by omega)],hS]
       rw [Zh3 hss hlt,← ZbF _ _ _ hb0,hr26]
       exact ⟨(A26,l26,c26),rfl,Q.2,R⟩
    ·have hb15':=of_decide_eq_false hb15
     refine Zal (Zaa (Zac ?_))
     obtain ⟨low,hlow⟩:∃ z':Int,min i k=z':=⟨_,rfl⟩
     obtain ⟨u1,hu1⟩:∃ u:Nat,i - low=u:=Int.eq_ofNat_of_zero_le (by omega)
     obtain ⟨u2,hu2⟩:∃ u:Nat,k - low=u:=Int.eq_ofNat_of_zero_le (by omega)
     have hS:=hsum
     rw [Zll hlow hu1 hu2] at hS
     have hv1:u1≤100000000:=by omega
     have hv2:u2≤100000000:=by omega
     have hlo1 : -4294967296≤low:=by omega
     have hlo2:low≤4294967296:=by omega
     obtain ⟨a,ha⟩:∃ a,p * 2 ^ u1=a:=⟨_,rfl⟩
     obtain ⟨b,hb'⟩:∃ b,q * 2 ^ u2=b:=⟨_,rfl⟩
     have hwa:wl a≤4000000:=by rw [← ha]; exact Zfq (by omega) hv1
     have hwb:wl b≤4000000:=by rw [← hb']; exact Zfq (by omega) hv2
     have ha0:0 < a:=by rw [← ha]; exact Nat.mul_pos hp0 (p2 u1)
     rw [ha,hb'] at hS
     refine Zab (xq 5 [(61, .v (.int .i64 (if k < i then k else i)))] [] ?_)
     rw [(show (if k < i then k else i)=low from Zju.trans hlow)]
     refine xq 1 [(9, .v (.int .i64 low))] [] ?_
     refine xe (Zaa (Zac ?_))
     refine SXc.weak [(2, .v (.int .i64 ((bits:Nat):Int))),(3, .p 3 0),(4, .p 4 0),(6, .p 6 0),(7, .v (.int .i64 0)),(9, .v (.int .i64 low))] [(6,109,[.v (.bool false), .v (.slice none 0 0), .v (.int .i64 0)]),(3,109,[.v (.bool sp), .v (.slice P1 pl pc), .v (.int .i64 i)]),(4,109,[.v (.bool sq), .v (.slice Q1 ql qc), .v (.int .i64 k)])] (Zax.of (by kernel_rfl)) (by kernel_rfl) (fun _ h=>h) ?_
     refine ZaK 16 (by kernel_rfl) (by kernel_rfl) Zao ?_
     refine xqg 6 [eS1 63 P1 pl pc,(67, .v (.int .i64 (IntKind.i64.wrap (i - low))))] ?_
     rw [show IntKind.i64.wrap (i - low)=((u1:Nat):Int) from by rw [IntKind.wrap_i64]; omega]
     refine xqd 101 [.slice P1 pl pc, .int .i64 ((u1:Nat):Int)] 68 ZaA _ (fun w R Q=>(ZbS u1 Q.1.1.1.2 (by omega) (by omega)).mono (fun _ _ h=>Zau (by rw [ha] at h; exact h))) (fun xx=>?_)
     obtain ⟨A27,l27,c27⟩:=xx
     refine xqg 6 [eS1 70 Q1 ql qc,(74, .v (.int .i64 (IntKind.i64.wrap (k - low))))] ?_
     rw [show IntKind.i64.wrap (k - low)=((u2:Nat):Int) from by rw [IntKind.wrap_i64]; omega]
     refine xqd 101 [.slice Q1 ql qc, .int .i64 ((u2:Nat):Int)] 75 ZaA _ (fun w R Q=>(ZbS u2 Q.1.1.1.2 (by omega) (by omega)).mono (fun _ _ h=>Zau (by rw [hb'] at h; exact h))) (fun xx=>?_)
     obtain ⟨A28,l28,c28⟩:=xx
     refine xqg 2 [eS1 10 A27 l27 c27,eS1 11 A28 l28 c28] ?_
     refine xz (xe (Zaa (Zac (Zar (Zac (Zab (xq 6 [(76, .v (.bool (sp == sq)))] [] ?_)))))))
     refine xe (Zaa ?_)
     refine Zap ((sp == sq)) (by kernel_rfl) (fun hb29=>?_) (fun hb29=>?_)
     ·have hss:sp=sq:=eq_of_beq hb29
      refine Zac ?_
      refine ZaK 10 (by kernel_rfl) (by kernel_rfl) Zao ?_
      refine xqg 4 [(83, .v (.bool sp)),eS1 84 A27 l27 c27,eS1 85 A28 l28 c28] ?_
      refine xqd 135 [.slice A27 l27 c27, .slice A28 l28 c28] 86 ZaA _ (fun w R Q=>(ZbW Q.1.2 Q.2 (by omega) (by omega)).mono (fun _ _=>Zau)) (fun xx=>?_)
      obtain ⟨A30,l30,c30⟩:=xx
      refine xqg 2 [(87, .v (.int .i64 low)),(88, .v (.int .i64 ((bits:Nat):Int)))] ?_
      obtain ⟨r31,hr31⟩:∃ r,Za5 sp (a + b) (low) bits false=r:=⟨_,rfl⟩
      refine xqd 132 [.bool sp, .slice A30 l30 c30, .int .i64 low, .int .i64 ((bits:Nat):Int), .func (.func 133) #[] #[]] 89 (shNb r31) _ (fun w R Q=>((show Calls _ _ _ _ (ZaH w r31) from by rw [← hr31]; exact Zcd sp _ _ _ _ low _ _ Q.1.1.1.1.1.1.1 Q.2 (by have:=ZkJ hwa hwb; omega) (by omega) (by omega) (by omega))).mono (fun _ _=>ZaJ)) (fun xx=>?_)
      obtain ⟨A31,l31,c31⟩:=xx
      refine xqg 2 [(90, .v (.agg #[.bool r31.s, .slice A31 l31 c31, .int .i64 r31.e])),(91, .v (.int .i64 r31.err))] ?_
      refine xz (xq 2 [(7, .v (.int .i64 r31.err))] [(6,109,[.v (.bool r31.s), .v (.slice A31 l31 c31), .v (.int .i64 r31.e)])] ?_)
      refine xe (Zaa (Zag (ZaQ (Zai ?_))))
      refine Zaf (v:=.tuple #[.agg #[.bool r31.s, .slice A31 l31 c31, .int .i64 r31.e], .int .i64 r31.err]) (by kernel_rfl) (fun w' R Q=>?_)
      rw [show sumR s x e t y f bits=addR s x e t y f bits from by unfold sumR; rw [if_neg (by omega),if_neg (by omega)],hS]
      rw [Zj6 ha0 hss,← ZbF _ _ _ hb0,hr31]
      exact ⟨(A31,l31,c31),rfl,Q.2,R⟩
     ·have hss:¬ sp=sq:=fun e'=>by rw [e'] at hb29; simp at hb29
      refine Zac (Zab (xq 2 [eS1 93 A27 l27 c27,eS1 94 A28 l28 c28] [] ?_))
      refine xqc 136 [.slice A27 l27 c27, .slice A28 l28 c28] 95 (fun _:Unit=>.int .i64 (cmpI ((a:Nat):Int) ((b:Nat):Int))) _ (fun w R Q=>(ZcR Q.1.2 Q.2 (by omega)).mono (fun _ _ h=>Zam h rfl)) (fun xx=>?_)
      refine xq 2 [(92, .v (.bool (decide ((cmpI ((a:Nat):Int) ((b:Nat):Int)) ≥ 0))))] [] ?_
      refine xe (Zaa ?_)
      refine Zap ((decide ((cmpI ((a:Nat):Int) ((b:Nat):Int)) ≥ 0))) (by kernel_rfl) (fun hb32=>?_) (fun hb32=>?_)
      ·have hle:b≤a:=by have:=ZeR.1 (of_decide_eq_true hb32); omega
       refine Zac ?_
       refine ZaK 10 (by kernel_rfl) (by kernel_rfl) Zao ?_
       refine xqg 4 [(98, .v (.bool sp)),eS1 99 A27 l27 c27,eS1 100 A28 l28 c28] ?_
       refine xqd 137 [.slice A27 l27 c27, .slice A28 l28 c28] 101 ZaA _ (fun w R Q=>(ZeI Q.1.1.2 Q.1.2 (by omega) hle).mono (fun _ _=>Zau)) (fun xx=>?_)
       obtain ⟨A33,l33,c33⟩:=xx
       refine xqg 2 [(102, .v (.int .i64 low)),(103, .v (.int .i64 ((bits:Nat):Int)))] ?_
       obtain ⟨r34,hr34⟩:∃ r,Za5 sp (a - b) (low) bits false=r:=⟨_,rfl⟩
       refine xqd 132 [.bool sp, .slice A33 l33 c33, .int .i64 low, .int .i64 ((bits:Nat):Int), .func (.func 133) #[] #[]] 104 (shNb r34) _ (fun w R Q=>((show Calls _ _ _ _ (ZaH w r34) from by rw [← hr34]; exact Zcd sp _ _ _ _ low _ _ Q.1.1.1.1.1.1.1.1 Q.2 (Nat.le_trans (ZaU (Nat.sub_le _ _)) (by omega)) (by omega) (by omega) (by omega))).mono (fun _ _=>ZaJ)) (fun xx=>?_)
       obtain ⟨A34,l34,c34⟩:=xx
       refine xqg 2 [(105, .v (.agg #[.bool r34.s, .slice A34 l34 c34, .int .i64 r34.e])),(106, .v (.int .i64 r34.err))] ?_
       refine xz (xq 2 [(7, .v (.int .i64 r34.err))] [(6,109,[.v (.bool r34.s), .v (.slice A34 l34 c34), .v (.int .i64 r34.e)])] ?_)
       refine xe (Zaa (Zag (ZaQ (Zai ?_))))
       refine Zaf (v:=.tuple #[.agg #[.bool r34.s, .slice A34 l34 c34, .int .i64 r34.e], .int .i64 r34.err]) (by kernel_rfl) (fun w' R Q=>?_)
       rw [show sumR s x e t y f bits=addR s x e t y f bits from by unfold sumR; rw [if_neg (by omega),if_neg (by omega)],hS]
       rw [Zi5 hss hle,← ZbF _ _ _ hb0,hr34]
       exact ⟨(A34,l34,c34),rfl,Q.2,R⟩
      ·have hlt:a < b:=by have:=mt ZeR.2 (of_decide_eq_false hb32); omega
       refine Zal (ZaO (Zaa (Zac ?_)))
       refine ZaK 10 (by kernel_rfl) (by kernel_rfl) Zao ?_
       refine xqg 4 [(108, .v (.bool sq)),eS1 109 A28 l28 c28,eS1 110 A27 l27 c27] ?_
       refine xqd 137 [.slice A28 l28 c28, .slice A27 l27 c27] 111 ZaA _ (fun w R Q=>(ZeI Q.1.2 Q.1.1.2 (by omega) (by omega)).mono (fun _ _=>Zau)) (fun xx=>?_)
       obtain ⟨A35,l35,c35⟩:=xx
       refine xqg 2 [(112, .v (.int .i64 low)),(113, .v (.int .i64 ((bits:Nat):Int)))] ?_
       obtain ⟨r36,hr36⟩:∃ r,Za5 sq (b - a) (low) bits false=r:=⟨_,rfl⟩
       refine xqd 132 [.bool sq, .slice A35 l35 c35, .int .i64 low, .int .i64 ((bits:Nat):Int), .func (.func 133) #[] #[]] 114 (shNb r36) _ (fun w R Q=>((show Calls _ _ _ _ (ZaH w r36) from by rw [← hr36]; exact Zcd sq _ _ _ _ low _ _ Q.1.1.1.1.1.1.1.1 Q.2 (Nat.le_trans (ZaU (Nat.sub_le _ _)) (by omega)) (by omega) (by omega) (by omega))).mono (fun _ _=>ZaJ)) (fun xx=>?_)
       obtain ⟨A36,l36,c36⟩:=xx
       refine xqg 2 [(115, .v (.agg #[.bool r36.s, .slice A36 l36 c36, .int .i64 r36.e])),(116, .v (.int .i64 r36.err))] ?_
       refine xz (xq 2 [(7, .v (.int .i64 r36.err))] [(6,109,[.v (.bool r36.s), .v (.slice A36 l36 c36), .v (.int .i64 r36.e)])] ?_)
       refine xe (Zaa (Zag ?_))
       refine Zaf (v:=.tuple #[.agg #[.bool r36.s, .slice A36 l36 c36, .int .i64 r36.e], .int .i64 r36.err]) (by kernel_rfl) (fun w' R Q=>?_)
       rw [show sumR s x e t y f bits=addR s x e t y f bits from by unfold sumR; rw [if_neg (by omega),if_neg (by omega)],hS]
       rw [Zh3 hss hlt,← ZbF _ _ _ hb0,hr36]
       exact ⟨(A36,l36,c36),rfl,Q.2,R⟩
end Go.Proofs.YtenchljfmfgeoaaGreatDoor

namespace Go.Proofs.YtenchljfmfgeoaaGreatDoor
open Go.RowKit
section
variable {P:Program} {N:Nat} {S0:Nat→Prop} {w0:World} {ops:Array Oper} {Q:Exit→Act→World→Prop} {s:St} {Φ:World→Prop}
end
section
variable {P:Program} {o:Oper} {ρ:Operand→Value} {w:World} {t e:TypeId} {x:Operand}
end
/-! ### adding a number to a row from a place on -/
end Go.Proofs.YtenchljfmfgeoaaGreatDoor

namespace Go.Proofs.YtenchljfmfgeoaaGreatDoor
open Go.RowKit
instance {b:Nat} {A A2:Option Addr}:Nonempty {q:ShN // ∀ a,q.1=some a→b < a.block∨q.1=A∨q.1=A2}:=⟨⟨(none,0,0),fun a h=>by cases h⟩⟩
section
variable {P:Program} {o:Oper} {ρ:Operand→Value} {w:World}
end
end Go.Proofs.YtenchljfmfgeoaaGreatDoor

namespace Go.Proofs.YtenchljfmfgeoaaGreatDoor
open Go.RowKit
section
variable {P:Program} {N:Nat} {S0:Nat→Prop} {w0:World} {ops:Array Oper} {Q:Exit→Act→World→Prop} {s:St} {Φ:World→Prop}
end
end Go.Proofs.YtenchljfmfgeoaaGreatDoor

namespace Go.Proofs.YtenchljfmfgeoaaGreatDoor
open Go.RowKit
end Go.Proofs.YtenchljfmfgeoaaGreatDoor

namespace Go.Proofs.YtenchljfmfgeoaaGreatDoor
open Go.RowKit Go.Sort
end Go.Proofs.YtenchljfmfgeoaaGreatDoor

namespace Go.Proofs.YtenchljfmfgeoaaGreatDoor
open Go.RowKit Go.Sort
end Go.Proofs.YtenchljfmfgeoaaGreatDoor

namespace Go.Proofs.YtenchljfmfgeoaaGreatDoor
open Go.RowKit Go.Sort
theorem TBuf.bytes {w:World} {A:Option Addr} {cap:Nat} {l:List UInt8} (h:TBuf w A cap l) (hl:l≠[]):∃ b,A=some ⟨b,0,none⟩∧∀ j (hj:j < l.length),w.cell? ((⟨b,0,none⟩:Addr).add j)=some (.int .u8 (l[j].toNat:Int)):=by
 rcases h with ⟨_,h,_⟩ | ⟨b,rfl,hO,_⟩
 ·simp [nats] at h; exact absurd h hl
 ·refine ⟨b,rfl,fun j hj=>?_⟩
  have:=hO.cell (i:=j) (by rw [ZfH]; exact hj)
  rw [Lib.add_plain,Nat.zero_add,this]
  simp [nats,hj]
end Go.Proofs.YtenchljfmfgeoaaGreatDoor

namespace Go.Proofs.YtenchljfmfgeoaaGreatDoor
open Go.RowKit
end Go.Proofs.YtenchljfmfgeoaaGreatDoor

namespace Go.Proofs.YtenchljfmfgeoaaGreatDoor
open Go.RowKit
theorem ZhL {x:Int} (h:0≤x):Lib.itoa x=Lib.decDigits x.natAbs:=by
 unfold Lib.itoa
 rw [if_neg (by omega)]
 congr 1; omega
end Go.Proofs.YtenchljfmfgeoaaGreatDoor

namespace Go.Proofs.YtenchljfmfgeoaaGreatDoor
end Go.Proofs.YtenchljfmfgeoaaGreatDoor

namespace Go.Proofs.YtenchljfmfgeoaaGreatDoor
open Go.RowKit
theorem Zgx {n:Nat} (h:10≤n):Lib.decDigits n=Lib.decDigits (n / 10) ++ [UInt8.ofNat (48 + n % 10)]:=by
 rw [Lib.decDigits,dif_neg (by omega)]
theorem ZcT {n:Nat} (h:n < 10):Lib.decDigits n=[UInt8.ofNat (48 + n)]:=Lib.decDigits_one h
theorem Zep {n:Nat} (h:n < 10):(UInt8.ofNat (48 + n)).toNat=48 + n:=by
 rw [UInt8.toNat_ofNat']; omega
theorem Zh4 {n:Nat} (h:n < 10):Zav (UInt8.ofNat (48 + n))=true:=by
 unfold Zav; rw [Zep h]; simp; omega
theorem ZcU:∀ n,(Lib.decDigits n).all Zav=true:=by
 intro n
 induction n using Nat.strongRecOn with
 | _ n ih =>
   rcases Nat.lt_or_ge n 10 with h | h
   ·rw [ZcT h,List.all_cons,Zh4 h]; rfl
   ·rw [Zgx h,List.all_append,ih (n / 10) (by omega),List.all_cons,Zh4 (Nat.mod_lt n (by omega:0 < 10))]; rfl
theorem Zeg:∀ n,Zak (Lib.decDigits n)=n:=by
 intro n
 induction n using Nat.strongRecOn with
 | _ n ih =>
   rcases Nat.lt_or_ge n 10 with h | h
   ·rw [ZcT h]; simp only [Zak,List.foldl_cons,List.foldl_nil]; rw [Zep h]; omega
   ·rw [Zgx h,ZdA,ih (n / 10) (by omega),Zep (Nat.mod_lt n (by omega:0 < 10))]; omega
theorem Zeh:∀ n,0 < n→(Lib.decDigits n).head? ≠ some 48:=by
 intro n
 induction n using Nat.strongRecOn with
 | _ n ih =>
   intro h0
   rcases Nat.lt_or_ge n 10 with h | h
   ·rw [ZcT h]
    intro e
    simp only [List.head?_cons,Option.some.injEq] at e
    have:=congrArg UInt8.toNat e
    rw [Zep h] at this
    simp at this; omega
   ·have h1:=ih (n / 10) (by omega) (by omega)
    rw [Zgx h,List.head?_append]
    cases hc:(Lib.decDigits (n / 10)).head? with
    | none=>exact absurd (List.head?_eq_none_iff.1 hc) (ZbG _)
    | some c=>rw [hc] at h1; exact h1
theorem ZdD {p:UInt8→Bool} {l:List UInt8} (h:l.all p=true):l.takeWhile p=l∧l.dropWhile p=[]:=by
 induction l with
 | nil=>exact ⟨rfl,rfl⟩
 | cons x xs ih =>
   simp only [List.all_cons,Bool.and_eq_true] at h
   obtain ⟨h1,h2⟩:=ih h.2
   rw [List.takeWhile_cons,List.dropWhile_cons,h.1]
   simp [h1,h2]
theorem ZnC {l:List UInt8} (h:l.all Zav=true):Zaz l=(false,l):=by
 unfold Zaz
 rw [if_neg]
 intro e
 cases l with
 | nil=>cases e
 | cons x xs =>
   simp only [List.head?_cons,Option.some.injEq] at e
   subst e
   simp only [List.all_cons,Bool.and_eq_true] at h
   exact absurd h.1 (by decide)
theorem ZoV (n:Nat):ZaY (Lib.decDigits n)=(false,Lib.decDigits n,[],true):=by
 obtain ⟨h1,h2⟩:=ZdD (ZcU n)
 unfold ZaY
 rw [ZnC (ZcU n)]
 simp only []
 rw [h1,h2]
 rcases Nat.eq_zero_or_pos n with h0 | h0
 ·subst h0; rw [ZcT (by omega)]; rfl
 ·have hne:Lib.decDigits n≠[48]:=fun e=>Zeh n h0 (by rw [e]; rfl)
  rw [if_neg hne,if_neg (fun e=>e.elim (ZbG n) (Zeh n h0)),if_pos rfl]
theorem ZoW {n:Nat} (h:0 < n):ZaY ([45] ++ Lib.decDigits n)=(true,Lib.decDigits n,[],true):=by
 obtain ⟨h1,h2⟩:=ZdD (ZcU n)
 unfold ZaY
 have e:Zaz ([45] ++ Lib.decDigits n)=(true,Lib.decDigits n):=rfl
 rw [e]
 simp only []
 rw [h1,h2]
 have hne:Lib.decDigits n≠[48]:=fun e=>Zeh n h (by rw [e]; rfl)
 rw [if_neg hne,if_neg (fun e=>e.elim (ZbG n) (Zeh n h)),if_pos rfl]
theorem Zgy {z:Int} (h:z < 0):Lib.itoa z=[45] ++ Lib.decDigits z.natAbs:=by
 unfold Lib.itoa
 rw [if_pos h]
 rfl
theorem ZnD (z:Int):ZaY (Lib.itoa z)=(decide (z < 0),Lib.decDigits z.natAbs,[],true):=by
 by_cases h:z < 0
 ·rw [Zgy h,ZoW (by omega),decide_eq_true h]
 ·rw [ZhL (by omega),ZoV,decide_eq_false h]
theorem ZoX (z:Int):Za0 (Lib.itoa z)=some (z:Rat):=by
 unfold Za0
 rw [ZnD]
 simp only []
 rw [if_pos trivial,Zeg]
 congr 2
 unfold sg
 split
 ·rename_i h; have:=of_decide_eq_true h; omega
 ·rename_i h; have:¬ z < 0:=fun k=>h (decide_eq_true k); omega
end Go.Proofs.YtenchljfmfgeoaaGreatDoor

namespace Go.Proofs.YtenchljfmfgeoaaGreatDoor
open Go.RowKit
def ZaD (q:Rat):List UInt8:=if q.den=1 then Lib.itoa q.num else Lib.itoa q.num ++ [47] ++ Lib.itoa (q.den:Int)
end Go.Proofs.YtenchljfmfgeoaaGreatDoor

namespace Go.Proofs.YtenchljfmfgeoaaGreatDoor
open Go.RowKit
theorem Zqc {x y:Int} (hy:0 < y):(Rat.divInt x y).num=x.tdiv (Int.gcd x y:Int)∧((Rat.divInt x y).den:Int)=y.tdiv (Int.gcd x y:Int):=by
 have hd1:(Int.gcd x y:Int) ∣ x:=Int.gcd_dvd_left _ _
 have hd2:(Int.gcd x y:Int) ∣ y:=Int.gcd_dvd_right _ _
 rw [Rat.num_divInt,Rat.den_divInt,if_neg (by omega),Int.sign_eq_one_of_pos hy,Int.one_mul,Int.gcd_comm y x,Int.tdiv_eq_ediv_of_dvd hd1,Int.tdiv_eq_ediv_of_dvd hd2]
 refine ⟨rfl,?_⟩
 rw [Int.natCast_ediv]
 congr 1
 omega
theorem Zlq {x y:Int} (hy:0 < y) (h:((Int.gcd x y:Nat):Int)=1):(Rat.divInt x y).num=x∧((Rat.divInt x y).den:Int)=y:=by
 have:=Zqc (x:=x) hy
 rwa [h,Int.tdiv_one,Int.tdiv_one] at this
end Go.Proofs.YtenchljfmfgeoaaGreatDoor

namespace Go.Proofs.YtenchljfmfgeoaaGreatDoor
open Go.RowKit
theorem Zi7 {c:UInt8} (h:Zav c=true):UInt8.ofNat (48 + (c.toNat - 48))=c:=by
 have:=Zdn h
 apply UInt8.toNat.inj
 rw [UInt8.toNat_ofNat']
 have:=c.toNat_lt
 omega
theorem Zlr:∀ (k:Nat) (l:List UInt8),l.length=k→l.all Zav=true→l≠[]→l.head? ≠ some 48→Lib.decDigits (Zak l)=l:=by
 intro k
 induction k with
 | zero=>intro l hl _ h0; exact absurd (List.length_eq_zero_iff.1 hl) h0
 | succ k ih =>
   intro l hl hd h0 h48
   obtain ⟨l',c,rfl⟩:∃ l' c,l=l' ++ [c]:=by
    rcases List.eq_nil_or_concat l with h | ⟨l',c,h⟩
    ·exact absurd h h0
    ·exact ⟨l',c,by simpa using h⟩
   rw [List.all_append,Bool.and_eq_true] at hd
   have hc:Zav c=true:=by simpa using hd.2
   have hcb:=Zdn hc
   rw [ZdA]
   by_cases hl0:l'=[]
   ·subst hl0
    have e:Zak []=0:=rfl
    rw [e,Nat.mul_zero,Nat.zero_add,ZcT (by omega),Zi7 hc]; rfl
   ·have hh:l'.head? ≠ some 48:=by
     rw [List.head?_append] at h48
     cases hx:l'.head? with
     | none=>exact absurd (List.head?_eq_none_iff.1 hx) hl0
     | some x=>rw [hx] at h48; exact h48
    have h1:=ih l' (by simp at hl; exact hl) hd.1 hl0 hh
    have hp:=(Zgj hd.1 hl0 hh).1
    rw [Zgx (by omega),show (10 * Zak l' + (c.toNat - 48)) / 10=Zak l' by omega,show (10 * Zak l' + (c.toNat - 48)) % 10=c.toNat - 48 by omega,h1,Zi7 hc]
theorem Zl8 (n:Nat):(Lib.decDigits n).head? ≠ some 45:=by
 intro e
 cases h:Lib.decDigits n with
 | nil=>exact ZbG n h
 | cons x xs =>
   rw [h] at e
   simp only [List.head?_cons,Option.some.injEq] at e
   subst e
   have:=ZcU n
   rw [h] at this
   simp only [List.all_cons,Bool.and_eq_true] at this
   exact absurd this.1 (by decide)
theorem Zf1 {p:UInt8→Bool} {l r:List UInt8} {c:UInt8} (h:l.all p=true) (hc:p c=false):(l ++ c :: r).takeWhile p=l∧(l ++ c :: r).dropWhile p=c :: r:=by
 induction l with
 | nil=>simp [hc]
 | cons x xs ih =>
   simp only [List.all_cons,Bool.and_eq_true] at h
   obtain ⟨h1,h2⟩:=ih h.2
   rw [List.cons_append,List.takeWhile_cons,List.dropWhile_cons,h.1]
   simp [h1,h2]
theorem Zh5 (z:Int) (r:List UInt8):Zaz (Lib.itoa z ++ r)=(decide (z < 0),Lib.decDigits z.natAbs ++ r):=by
 by_cases h:z < 0
 ·rw [Zgy h,decide_eq_true h]
  unfold Zaz
  rw [if_pos (by simp)]
  rfl
 ·rw [ZhL (by omega),decide_eq_false h]
  unfold Zaz
  rw [if_neg]
  intro e
  rw [List.head?_append] at e
  cases hx:(Lib.decDigits z.natAbs).head? with
  | none=>exact absurd (List.head?_eq_none_iff.1 hx) (ZbG _)
  | some c =>
    rw [hx] at e
    exact Zl8 _ (hx.trans e)
theorem Zsu (z:Int):sg (decide (z < 0)) z.natAbs=z:=by
 unfold sg
 split
 ·rename_i h; have:=of_decide_eq_true h; omega
 ·rename_i h; have:¬ z < 0:=fun k=>h (decide_eq_true k); omega
theorem ZnE {q:Rat} (h:q.den=1):((q.num:Int):Rat)=q:=by
 apply Rat.ext<;>simp [h]
theorem Zsv {q:Rat} (h:q.den≠1):q.num≠0:=by
 intro e
 have:=q.reduced
 rw [e] at this
 simp [Nat.Coprime] at this
 exact h this
theorem ZcH (n:Nat):Lib.itoa (n:Int)=Lib.decDigits n:=by
 rw [ZhL (by omega),Int.natAbs_natCast]
theorem ZnF {q:Rat} (h:q.den≠1):ZaY (ZaD q)=(decide (q.num < 0),Lib.decDigits q.num.natAbs,Lib.decDigits q.den,true):=by
 have hn:=Zsv h
 have hd:=q.den_nz
 unfold ZaD
 rw [if_neg h,ZcH,List.append_assoc]
 unfold ZaY
 rw [Zh5]
 simp only []
 obtain ⟨h1,h2⟩:=Zf1 (p:=Zav) (r:=Lib.decDigits q.den) (c:=47) (ZcU q.num.natAbs) (by decide)
 have e:Lib.decDigits q.num.natAbs ++ ([47] ++ Lib.decDigits q.den)=Lib.decDigits q.num.natAbs ++ 47 :: Lib.decDigits q.den:=rfl
 rw [e,h1,h2]
 have hh:=Zeh q.num.natAbs (by omega)
 rw [if_neg (fun e=>hh (by rw [e]; rfl)),if_neg (fun e=>e.elim (ZbG _) hh),if_neg (by simp),if_neg (by simp)]
 simp only [List.tail_cons]
 obtain ⟨h3,h4⟩:=ZdD (ZcU q.den)
 rw [h3,h4]
 have hh2:=Zeh q.den (by omega)
 have h49:Lib.decDigits q.den≠[49]:=fun e=>by
  have:=Zeg q.den
  rw [e] at this
  exact h (by rw [← this]; rfl)
 have hne:=ZbG q.den
 simp [hh2,h49,hne]
theorem ZoY (q:Rat):Za0 (ZaD q)=some q:=by
 by_cases h:q.den=1
 ·unfold ZaD
  rw [if_pos h,ZoX,ZnE h]
 ·unfold Za0
  rw [ZnF h]
  simp only []
  rw [if_neg (ZbG _),Zeg,Zeg,if_pos q.reduced,Zsu,Rat.mkRat_self]
theorem Zj9 {neg:Bool} {a:Nat} (h:a=0→neg=false):(sg neg a < 0 ↔ neg=true)∧(sg neg a).natAbs=a:=by
 cases neg with
 | false=>simp [sg]
 | true =>
   have:a≠0:=fun e=>by cases h e
   simp [sg]; omega
theorem ZeT {neg:Bool} {a:Nat} (h:a=0→neg=false):Lib.itoa (sg neg a)=(if neg then [45] else []) ++ Lib.decDigits a:=by
 obtain ⟨h1,h2⟩:=Zj9 h
 cases neg with
 | false=>rw [ZhL (by simp [sg]),h2]; rfl
 | true=>rw [Zgy (h1.2 rfl),h2]; rfl
theorem Zh6 {l r:List UInt8} {neg:Bool} (h:Zaz l=(neg,r)):l=(if neg then [45] else []) ++ r:=by
 unfold Zaz at h
 split at h
 ·rename_i hh
  injection h with h1 h2
  subst h1 h2
  cases l with
  | nil=>cases hh
  | cons x xs=>simp at hh; subst hh; rfl
 ·injection h with h1 h2
  subst h1 h2
  rfl
theorem Zd3 {l:List UInt8} {q:Rat} (h:Za0 l=some q):ZaD q=l:=by
 unfold Za0 at h
 cases hs:ZaY l with
 | mk neg r =>
   obtain ⟨num,den,ok⟩:=r
   rw [hs] at h
   cases ok with
   | false=>cases h
   | true =>
     simp only [] at h
     have hdg:=ZdC hs
     obtain ⟨s1,s2⟩:=ZiT hs
     cases hu:Zaz l with
     | mk neg' t =>
       have hl:=Zh6 hu
       have htw:t.takeWhile Zav ++ t.dropWhile Zav=t:=List.takeWhile_append_dropWhile
       unfold ZaY at hs
       rw [hu] at hs
       simp only [] at hs
       split at hs
       ·-- zero
        rename_i h48
        injection hs with e1 hs; injection hs with e2 hs; injection hs with e3 e4
        subst e1 e2 e3
        simp at e4
        rw [if_pos rfl,h48] at h
        have hv:Zak [48]=0:=rfl
        rw [hv] at h
        injection h with h
        rw [e4.1] at h hl
        rw [← h,hl,← htw,h48,e4.2]
        simp only [sg]
        unfold ZaD
        rw [if_pos (by simp)]
        have:Lib.itoa ((0:Nat):Int)=[48]:=by rw [ZcH,ZcT (by omega)]; rfl
        simpa using this
       split at hs
       ·injection hs with _ hs; injection hs with _ hs; injection hs with _ hs; cases hs
       rename_i hn
       have hn1:t.takeWhile Zav≠[]:=fun e=>hn (Or.inl e)
       have hn2:(t.takeWhile Zav).head? ≠ some 48:=fun e=>hn (Or.inr e)
       have hdn:=Zlr _ _ rfl (ZbV (p:=Zav) t) hn1 hn2
       split at hs
       ·rename_i hr
        injection hs with e1 hs; injection hs with e2 hs; injection hs with e3 _
        subst e1 e2 e3
        rw [if_pos rfl] at h
        injection h with h
        rw [← h]
        unfold ZaD
        rw [if_pos (by simp)]
        have hnum:(((sg neg' (Zak (t.takeWhile Zav)):Int)):Rat).num=sg neg' (Zak (t.takeWhile Zav)):=rfl
        rw [hnum,ZeT (fun e=>(s2 e).1),hdn,hl]
        rw [hr,List.append_nil] at htw
        rw [htw]
       split at hs
       ·injection hs with _ hs; injection hs with _ hs; injection hs with _ hs; cases hs
       ·rename_i hr h47
        injection hs with e1 hs; injection hs with e2 hs; injection hs with e3 e4
        subst e1 e2
        rw [e3] at e4
        simp at e4
        obtain ⟨⟨⟨k1,k2⟩,k3⟩,k4⟩:=e4
        rw [if_neg k2] at h
        split at h
        ·rename_i hg
         injection h with h
         have h2:=s1 k2
         have hq:q.num=sg neg' (Zak (t.takeWhile Zav))∧q.den=Zak den:=by
          have:=Zlq (x:=sg neg' (Zak (t.takeWhile Zav))) (y:=(Zak den:Int)) (by omega) (by
           unfold Int.gcd
           rw [(Zj9 (fun e=>(s2 e).1)).2,Int.natAbs_natCast,hg]; rfl)
          rw [Rat.divInt_ofNat,h] at this
          exact ⟨this.1,by have:=this.2; omega⟩
         unfold ZaD
         rw [if_neg (by rw [hq.2]; omega),hq.1,hq.2,ZeT (fun e=>(s2 e).1),hdn,ZcH,Zlr _ _ rfl hdg.2.1 k2 k3,hl]
         have htail:t.dropWhile Zav=47 :: den:=by
          cases hx:t.dropWhile Zav with
          | nil=>exact absurd hx hr
          | cons c r =>
            rw [hx] at h47 k1 e3
            simp at h47 k1 e3
            subst h47
            have:=List.takeWhile_append_dropWhile (p:=Zav) (l:=r)
            rw [e3,k1,List.append_nil] at this
            rw [this]
         rw [htail] at htw
         rw [List.append_assoc,List.append_assoc]
         congr 1
        ·cases h
theorem Zgz {l:List UInt8} {q:Rat}:Za0 l=some q ↔ ZaD q=l :=
 ⟨Zd3,fun h=>by rw [← h]; exact ZoY q⟩
end Go.Proofs.YtenchljfmfgeoaaGreatDoor

namespace Go.Proofs.YtenchljfmfgeoaaGreatDoor
open Go.RowKit
def fvB (s:List UInt8) (e:Int):Bool :=
 if s=[48] then decide (e=0)
 else decide ((Zaz s).2≠[]∧(Zaz s).2.head? ≠ some 48∧okE e∧(Zaz s).2.all Zav=true∧Zak (Zaz s).2 % 2=1)
def flM (s:List UInt8):Int:=sg (Zaz s).1 (Zak (Zaz s).2)
theorem Zhn:Lib.itoa 0=[48]:=by
 rw [show (0:Int)=((0:Nat):Int) from rfl,ZcH,ZcT (by omega)]; rfl
theorem Zqd:flM [48]=0:=by decide
theorem Zsw {neg:Bool} {a:Nat} (h:a % 2=1):sg neg a % 2=1:=by unfold sg; split<;>omega
theorem ZrE {s:List UInt8} {e:Int} (h:fvB s e=true):s=Lib.itoa (flM s)∧((flM s=0∧e=0)∨(flM s % 2=1∧okE e)):=by
 unfold fvB at h
 by_cases hs:s=[48]
 ·rw [if_pos hs] at h
  subst hs
  rw [Zqd]
  exact ⟨Zhn.symm,Or.inl ⟨rfl,of_decide_eq_true h⟩⟩
 ·rw [if_neg hs] at h
  obtain ⟨h1,h2,h3,h4,h5⟩:=of_decide_eq_true h
  unfold flM
  refine ⟨?_,Or.inr ⟨Zsw h5,h3⟩⟩
  rw [ZeT (fun h=>by omega),Zlr _ _ rfl h4 h1 h2]
  exact Zh6 rfl
theorem Zh7 (z:Int):Zaz (Lib.itoa z)=(decide (z < 0),Lib.decDigits z.natAbs):=by
 have:=Zh5 z []
 rwa [List.append_nil,List.append_nil] at this
theorem Zqe {l:List UInt8} {c:UInt8} (h:(l ++ [c]).all Zav=true):Zak (l ++ [c]) % 2=c.toNat % 2:=by
 rw [ZdA]
 have hc:Zav c=true:=by rw [List.all_append] at h; simp at h; exact h.2
 have:=Zdn hc
 omega
end Go.Proofs.YtenchljfmfgeoaaGreatDoor

namespace Go.Proofs.YtenchljfmfgeoaaGreatDoor
open Go.RowKit
noncomputable def valF (l:List UInt8):Rat:=(Za0 l).getD 0
end Go.Proofs.YtenchljfmfgeoaaGreatDoor

namespace Go.Proofs.YtenchljfmfgeoaaGreatDoor
open Go.RowKit
end Go.Proofs.YtenchljfmfgeoaaGreatDoor

namespace Go.Proofs.YtenchljfmfgeoaaGreatDoor
open Go.RowKit
end Go.Proofs.YtenchljfmfgeoaaGreatDoor

namespace Go.Proofs.YtenchljfmfgeoaaGreatDoor
open Go.RowKit
theorem ZoZ {l:List UInt8} (hd:l.all Zav=true) (hl:l.length≤570):wl (Zak l)≤30:=by
 rw [ZbC]
 have h1:=Zb3 l hd
 obtain ⟨k,hk⟩:∃ k,k=30:=⟨_,rfl⟩
 have h2:10 ^ l.length≤10 ^ (19 * k):=Nat.pow_le_pow_right (by omega) (by omega)
 rw [← hk]
 rw [Nat.pow_mul] at h2
 have h3:(10 ^ 19) ^ k≤W64 ^ k:=Nat.pow_le_pow_left (by rw [Zan]; decide) k
 exact Nat.lt_of_lt_of_le h1 (Nat.le_trans h2 h3)
end Go.Proofs.YtenchljfmfgeoaaGreatDoor

namespace Go.Proofs.YtenchljfmfgeoaaGreatDoor
open Go.RowKit
theorem Zo0 {l:List UInt8} (h:Za0 l=none):valF l=0:=by unfold valF; rw [h]; rfl
theorem Zez {l:List UInt8} {q:Rat} (h:Za0 l=some q):valF l=q:=by unfold valF; rw [h]; rfl
end Go.Proofs.YtenchljfmfgeoaaGreatDoor

namespace Go.Proofs.YtenchljfmfgeoaaGreatDoor
open Go.RowKit Go.Sort
end Go.Proofs.YtenchljfmfgeoaaGreatDoor

namespace Go.Proofs.YtenchljfmfgeoaaGreatDoor
open Go.RowKit Go.Sort
end Go.Proofs.YtenchljfmfgeoaaGreatDoor

namespace Go.Proofs.YtenchljfmfgeoaaGreatDoor
open Go.RowKit
end Go.Proofs.YtenchljfmfgeoaaGreatDoor

namespace Go.Proofs.YtenchljfmfgeoaaGreatDoor
open Go.RowKit
end Go.Proofs.YtenchljfmfgeoaaGreatDoor

namespace Go.Proofs.YtenchljfmfgeoaaGreatDoor
open Go.RowKit
theorem Zcm (l:List UInt8):bytes ⟨l.toArray⟩=l:=by simp [bytes]
end Go.Proofs.YtenchljfmfgeoaaGreatDoor

namespace Go.Proofs.YtenchljfmfgeoaaGreatDoor
open Go.RowKit
end Go.Proofs.YtenchljfmfgeoaaGreatDoor

namespace Go.Proofs.YtenchljfmfgeoaaGreatDoor
open Go.RowKit
section
variable {s t:ByteArray} {p q r:Rat} {w:World}
end
end Go.Proofs.YtenchljfmfgeoaaGreatDoor

namespace Go.Proofs.YtenchljfmfgeoaaGreatDoor
open Go.RowKit
theorem ZnH {w w':World} {e:Ending} {l:List UInt8} (h:Zim w l e w'):ZbA (fun x:Int × Int × Bool=>.tuple #[.agg #[.int .i64 x.1, .int .i64 x.2.1], .bool x.2.2]) (fun x _=>ZeU l x.1 x.2.1 x.2.2) w e w':=by
 obtain ⟨a,b,ok,rfl,hS,Q⟩:=h
 exact ⟨(a,b,ok),rfl,Q,BoxN.pure hS⟩
abbrev ShSp:=Bool × ByteArray × ByteArray × Bool
theorem ZnI {w w':World} {e:Ending} {s:ByteArray} (h:Zij s w e w'):ZbA (fun x:ShSp=>.tuple #[.agg #[.bool x.1, .string x.2.1, .string x.2.2.1], .bool x.2.2.2]) (fun x _=>ZaY (bytes s)=(x.1,bytes x.2.1,bytes x.2.2.1,x.2.2.2)) w e w':=by
 obtain ⟨neg,t,d,ok,rfl,hS,Q⟩:=h
 exact ⟨(neg,t,d,ok),rfl,Q,BoxN.pure hS⟩
theorem ZmE {x:ByteArray} (h:bytes x=[]):(x.toList == (⟨#[]⟩:ByteArray).toList)=true:=by
 rw [Lib.toList_data,Lib.toList_data,show x.data.toList=[] from h]; rfl
theorem ZmF {x:ByteArray} (h:¬ bytes x=[]):(x.toList == (⟨#[]⟩:ByteArray).toList)=false:=by
 rw [Lib.toList_data,Lib.toList_data]
 exact beq_eq_false_iff_ne.2 h
theorem Zo2 {l:List UInt8} {neg:Bool} {t d:List UInt8} (h:ZaY l=(neg,t,d,false)):Za0 l=none:=by unfold Za0; rw [h]
theorem Zo3 {l:List UInt8} {neg:Bool} {t d:List UInt8} (h:ZaY l=(neg,t,d,true)) (hd:d=[]):(Za0 l).isSome=true:=by unfold Za0; rw [h]; simp [hd]
theorem Zo4 {l:List UInt8} {neg:Bool} {t d:List UInt8} (h:ZaY l=(neg,t,d,true)) (hd:¬ d=[]):(Za0 l).isSome=decide (((Int.gcd (Zak t:Int) (Zak d:Int):Nat):Int)=1):=by
 unfold Za0
 rw [h]
 have e:Int.gcd (Zak t:Int) (Zak d:Int)=Nat.gcd (Zak t) (Zak d):=rfl
 rw [e]
 simp only [if_neg hd]
 by_cases hg:Nat.gcd (Zak t) (Zak d)=1
 ·rw [if_pos hg,hg]; rfl
 ·rw [if_neg hg]; simp; omega
theorem ZnJ {l:List UInt8} {a b:Int} (h:ZeU l a b true):(Za0 l).isSome=true:=by
 rcases h with ⟨_,q,h,_⟩ | ⟨h,_⟩
 ·rw [h]; rfl
 ·cases h
theorem ZdT (s:ByteArray) (w:World) (hg:Glob w) (hs:(bytes s).length≤570) :
 Calls Tryz.prog 61 #[.string s] w (RetV w (.bool (Za0 (bytes s)).isSome)):=by
 have hs8:s.size≤1099511627776:=by rw [Zaq] at hs; omega
 refine Zas (Φ:=fun w=>Glob w) Tryz.func61 rfl (by kernel_rfl) (fun w' hf=>hg.ext hf) ?_
 refine Zac (Zab (xr 1 [(0, .v (.string s)),(2, .v (.bool false))] [] ?_))
 refine xe (Zaa (Zac (Zac (Zab (xr 1 [(0, .v (.string s)),(2, .v (.bool false)),(8, .v (.string s))] [] ?_)))))
 refine xc 103 [.string s] 9 (fun x:Int × Int × Bool=>.tuple #[.agg #[.int .i64 x.1, .int .i64 x.2.1], .bool x.2.2]) _ (fun w R Q=>(Zks s _ hs8).mono (fun _ _=>ZnH)) (fun xx=>?_)
 obtain ⟨sa,sb,xok⟩:=xx
 rcases xok with _ | _
 ·refine xr 6 [(0, .v (.string s)),(2, .v (.bool false)),(4, .v (.bool false))] [] ?_
  refine xe (Zaa (Zac (Zab (xr 1 [(0, .v (.string s)),(2, .v (.bool false)),(12, .v (.bool false))] [] ?_))))
  refine xe (Zaa (xb (Zal (Zaa (Zac (Zab (xr 1 [(2, .v (.bool false)),(14, .v (.string s))] [] ?_)))))))
  refine xc 104 [.string s] 15 (fun x:ShSp=>.tuple #[.agg #[.bool x.1, .string x.2.1, .string x.2.2.1], .bool x.2.2.2]) _ (fun w R Q=>(Zj0 s _ hs8).mono (fun _ _=>ZnI)) (fun xx=>?_)
  obtain ⟨xneg,xt,sd,yok⟩:=xx
  rcases yok with _ | _
  ·refine xr 6 [(2, .v (.bool false)),(5, .p 5 0),(6, .v (.bool false))] [(5,156,[.v (.bool xneg), .v (.string xt), .v (.string sd)])] ?_
   refine xe (Zaa (Zac (Zac ?_)))
   refine SXc.know (p:=ZaY (bytes s)=(xneg,bytes xt,bytes sd,false)) (fun w _ Q=>Q.2) (fun HK=>?_)
   refine Zab (xr 7 [(2, .v (.bool false)),(5, .p 5 0),(6, .v (.bool false)),(24, .v (.bool true))] [(5,156,[.v (.bool xneg), .v (.string xt), .v (.string sd)])] ?_)
   refine xe (Zaa (xa (Zac (Zab (xr 2 [(2, .v (.bool false)),(5, .p 5 0)] [(5,156,[.v (.bool xneg), .v (.string xt), .v (.string sd)])] ?_)))))
   refine xe (Zaa (Zag (Zai ?_)))
   refine Zaf (v:=.bool false) (by kernel_rfl) (fun w' R Q=>?_)
   exact ⟨by rw [Zo2 HK]; rfl,R⟩
  ·refine xr 6 [(2, .v (.bool false)),(5, .p 5 0),(6, .v (.bool true))] [(5,156,[.v (.bool xneg), .v (.string xt), .v (.string sd)])] ?_
   refine xe (Zaa (Zac (Zac ?_)))
   refine SXc.know (p:=ZaY (bytes s)=(xneg,bytes xt,bytes sd,true)) (fun w _ Q=>Q.2) (fun HK=>?_)
   by_cases hd:bytes sd=[]
   ·refine Zab (xr 6 [(2, .v (.bool false)),(5, .p 5 0),(6, .v (.bool true)),(20, .v (.bool false)),(23, .v (.bool ((sd:ByteArray).toList == (⟨#[]⟩:ByteArray).toList)))] [(5,156,[.v (.bool xneg), .v (.string xt), .v (.string sd)])] ?_)
    rw [ZmE hd]
    refine xr 1 [(2, .v (.bool false)),(5, .p 5 0),(6, .v (.bool true)),(24, .v (.bool true))] [(5,156,[.v (.bool xneg), .v (.string xt), .v (.string sd)])] ?_
    refine xe (Zaa (xa (Zac (Zab (xr 2 [(2, .v (.bool true)),(5, .p 5 0)] [(5,156,[.v (.bool xneg), .v (.string xt), .v (.string sd)])] ?_)))))
    refine xe (Zaa (Zag (Zai ?_)))
    refine Zaf (v:=.bool true) (by kernel_rfl) (fun w' R Q=>?_)
    exact ⟨by rw [Zo3 HK hd],R⟩
   ·refine Zab (xr 6 [(2, .v (.bool false)),(5, .p 5 0),(6, .v (.bool true)),(20, .v (.bool false)),(23, .v (.bool ((sd:ByteArray).toList == (⟨#[]⟩:ByteArray).toList)))] [(5,156,[.v (.bool xneg), .v (.string xt), .v (.string sd)])] ?_)
    rw [ZmF hd]
    refine xr 1 [(2, .v (.bool false)),(5, .p 5 0),(6, .v (.bool true)),(24, .v (.bool false))] [(5,156,[.v (.bool xneg), .v (.string xt), .v (.string sd)])] ?_
    refine xe (Zaa (xb (Zal (Zaa (Zac ?_)))))
    obtain ⟨hdigxt,hdigsd,hll⟩:=ZdC HK
    have hprsxt:Zgi xt.size:=by unfold Zgi; rw [← Zaq]; omega
    have hprssd:Zgi sd.size:=by unfold Zgi; rw [← Zaq]; omega
    have hwt:wl ((Zak (bytes xt):Nat):Int).natAbs≤79:=by rw [Int.natAbs_natCast]; exact Nat.le_trans (ZoZ hdigxt (by omega)) (by decide)
    have hwd:wl ((Zak (bytes sd):Nat):Int).natAbs≤79:=by rw [Int.natAbs_natCast]; exact Nat.le_trans (ZoZ hdigsd (by omega)) (by decide)
    have hft:Fits ((Zak (bytes xt):Nat):Int):=by unfold Fits; omega
    have hfd:Fits ((Zak (bytes sd):Nat):Int):=by unfold Fits; omega
    refine ZaK 9 (by kernel_rfl) (by kernel_rfl) Zao ?_
    refine xf 2 [(2, .v (.bool false)),(5, .p 5 0),(27, .v (.string xt))] [(5,156,[.v (.bool xneg), .v (.string xt), .v (.string sd)])] ?_
    refine xd 105 [.string xt] 28 ZiU _ (fun w R Q=>(Zha xt _ hdigxt hprsxt).mono (fun _ _=>Zik)) (fun xx=>?_)
    obtain ⟨s10,A10,l10,c10⟩:=xx
    refine xf 2 [(2, .v (.bool false)),eI2 28 s10 A10 l10 c10,(30, .v (.string sd))] [(5,156,[.v (.bool xneg), .v (.string xt), .v (.string sd)])] ?_
    refine xd 105 [.string sd] 31 ZiU _ (fun w R Q=>(Zha sd _ hdigsd hprssd).mono (fun _ _=>Zik)) (fun xx=>?_)
    obtain ⟨s11,A11,l11,c11⟩:=xx
    refine xf 0 [(2, .v (.bool false)),eI2 28 s10 A10 l10 c10,eI2 31 s11 A11 l11 c11] [(5,156,[.v (.bool xneg), .v (.string xt), .v (.string sd)])] ?_
    refine xd 106 [vI2 s10 A10 l10 c10,vI2 s11 A11 l11 c11] 32 ZiU _ (fun w R Q=>(Zrl _ _ ((Zak (bytes xt):Int)) ((Zak (bytes sd):Int)) _ Q.1.1.1.1 Q.1.2 Q.2 hft hfd (ZkA.words hwt hwd)).mono (fun _ _=>Zik)) (fun xx=>?_)
    obtain ⟨s12,A12,l12,c12⟩:=xx
    refine xf 0 [(2, .v (.bool false)),eI2 32 s12 A12 l12 c12] [(5,156,[.v (.bool xneg), .v (.string xt), .v (.string sd)])] ?_
    refine xd 107 [vI2 s12 A12 l12 c12] 33 (fun _:Unit=>.bool (decide ((((Int.gcd ((Zak (bytes xt):Int)) ((Zak (bytes sd):Int)):Nat):Int))=1))) _ (fun w R Q=>(Zoy _ (((Int.gcd ((Zak (bytes xt):Int)) ((Zak (bytes sd):Int)):Nat):Int)) _ Q.2).mono (fun _ _ h=>Zam h rfl)) (fun xx=>?_)
    refine xf 1 [(2, .v (.bool (decide ((((Int.gcd ((Zak (bytes xt):Int)) ((Zak (bytes sd):Int)):Nat):Int))=1))))] [(5,156,[.v (.bool xneg), .v (.string xt), .v (.string sd)])] ?_
    refine xz (xe (Zaa (Zag ?_)))
    refine Zaf (v:=.bool (decide ((((Int.gcd ((Zak (bytes xt):Int)) ((Zak (bytes sd):Int)):Nat):Int))=1))) (by kernel_rfl) (fun w' R Q=>?_)
    exact ⟨by rw [Zo4 HK hd],R⟩
 ·refine xr 6 [(0, .v (.string s)),(2, .v (.bool false)),(4, .v (.bool true))] [] ?_
  refine xe (Zaa (Zac (Zab (xr 1 [(0, .v (.string s)),(2, .v (.bool false)),(12, .v (.bool true))] [] ?_))))
  refine xe (Zaa (xa (Zac (Zab (xr 1 [(0, .v (.string s)),(2, .v (.bool true))] [] ?_)))))
  refine xe (Zaa (Zag (Zai ?_)))
  refine Zaf (v:=.bool true) (by kernel_rfl) (fun w' R Q=>?_)
  exact ⟨by rw [ZnJ Q.2],R⟩
end Go.Proofs.YtenchljfmfgeoaaGreatDoor

namespace Go.Proofs.YtenchljfmfgeoaaGreatDoor
open Go.RowKit
section
variable {l r a t b:List UInt8} {neg:Bool} {c:UInt8}
end
/-! ### Za7 of small numbers -/
theorem Zei {n:Nat} (h:n < 10):Lib.itoa (n:Int)=[UInt8.ofNat (48 + n)]:=by
 unfold Lib.itoa
 rw [if_neg (by omega),Int.toNat_natCast,Lib.decDigits,dif_pos h]
theorem Zdp {q:Rat} {n:Nat} (h:n < 10) (h1:q.num=(n:Int)) (h2:q.den=1):ZaD q=[UInt8.ofNat (48 + n)]:=by
 unfold ZaD; rw [if_pos h2,h1,Zei h]
theorem ZrF {q:Rat} {n d:Nat} (h:n < 10) (hd:d < 10) (h1:q.num=(n:Int)) (h2:q.den=d) (h3:d≠1):ZaD q=[UInt8.ofNat (48 + n),47,UInt8.ofNat (48 + d)]:=by
 unfold ZaD; rw [h2,if_neg h3,h1,Zei h,Zei hd]; rfl
theorem t1:ZaD (mkRat 1 1)=[49]:=Zdp (n:=1) (by decide) (by decide) (by decide)
theorem t3:ZaD (mkRat 3 1)=[51]:=Zdp (n:=3) (by decide) (by decide) (by decide)
theorem t12:ZaD (mkRat 1 2)=[49,47,50]:=ZrF (n:=1) (d:=2) (by decide) (by decide) (by decide) (by decide) (by decide)
end Go.Proofs.YtenchljfmfgeoaaGreatDoor

namespace Go.Proofs.YtenchljfmfgeoaaGreatDoor
open Go.RowKit
section
variable {w w':World} {e:Ending} {s:ByteArray}
theorem ZnK (h:Zk5 s w e w'):ZbA (fun x:ByteArray × Bool=>.tuple #[.string x.1, .bool x.2]) (fun x _=>Zaz (bytes s)=(x.2,bytes x.1)) w e w':=by
 obtain ⟨r,neg,rfl,h,rfl⟩:=h
 exact ⟨(r,neg),rfl,Fr.refl _ _,BoxN.pure h⟩
end
theorem Zjv {a b:ByteArray} (h:bytes a=bytes b):a=b:=by
 cases a with | mk a=>cases b with | mk b=>simp only [bytes] at h; rw [Array.toList_inj.1 h]
def e4:Nat:=400
end Go.Proofs.YtenchljfmfgeoaaGreatDoor

namespace Go.Proofs.YtenchljfmfgeoaaGreatDoor
open Go.RowKit
end Go.Proofs.YtenchljfmfgeoaaGreatDoor

namespace Go.Proofs.YtenchljfmfgeoaaGreatDoor
open Go.RowKit
theorem ZmG {s:ByteArray} (h:bytes s=[48]):(s.toList == (⟨#[48]⟩:ByteArray).toList)=true:=by
 rw [Lib.toList_data,Lib.toList_data,show s.data.toList=[48] from h]; rfl
theorem ZmH {s:ByteArray} (h:¬ bytes s=[48]):(s.toList == (⟨#[48]⟩:ByteArray).toList)=false:=by
 rw [Lib.toList_data,Lib.toList_data]; exact beq_eq_false_iff_ne.2 h
theorem zt:ZaD 0=[48]:=Zdp (n:=0) (by decide) (by decide) (by decide)
theorem ZdB {P:Program} {o:Oper} {ρ:Operand→Value} {w:World} {t:TypeId} {x i:Operand} {b:ByteArray} {k:Nat} {c:UInt8} (ho:o.op=Op.index t x i) (ht:P.underlying t=some .string) (hx:ρ x=.string b) (hi:ρ i=.int .i64 (k:Int)) (hc:b[k]? = some c):(execOp ρ o).run P w=.ok (.value (.int .u8 (c.toNat:Int))) w:=by
 simp [execOp,ho,Instr.index,asIntOf,underlying,ht,hx,hi,hc,Result.andThen]
end Go.Proofs.YtenchljfmfgeoaaGreatDoor

namespace Go.Proofs.YtenchljfmfgeoaaGreatDoor
open Go.RowKit
end Go.Proofs.YtenchljfmfgeoaaGreatDoor

namespace Go.Proofs.YtenchljfmfgeoaaGreatDoor
open Go.RowKit
def Zc2 (n:Nat) (xs:List Nat) (m:Nat):Prop:=Dig 1000000000 xs∧n=val 1000000000 xs + 1000000000 ^ xs.length * m
theorem Zc2.start (n:Nat):Zc2 n [] n:=⟨Dig.nil,by simp⟩
theorem Zc2.step {n m:Nat} {xs:List Nat} (h:Zc2 n xs m):Zc2 n (xs ++ [m % 1000000000]) (m / 1000000000):=by
 obtain ⟨h1,h2⟩:=h
 refine ⟨h1.append (Dig.nil.cons (Nat.mod_lt _ (by omega))),?_⟩
 rw [ZbP,List.length_append,List.length_singleton,Nat.pow_succ,Nat.add_assoc,Nat.mul_assoc,← Nat.mul_add,ZcV,Zdq,Nat.mul_zero,Nat.add_zero,Nat.mod_add_div]
 exact h2
theorem Zc2.len {n m C:Nat} {xs:List Nat} (h:Zc2 n xs m) (hm:0 < m) (hC:n < 1000000000 ^ C):xs.length < C:=by
 obtain ⟨_,h2⟩:=h
 rcases Nat.lt_or_ge xs.length C with hl | hl
 ·exact hl
 ·have h3:1000000000 ^ C≤1000000000 ^ xs.length:=Nat.pow_le_pow_right (by omega) hl
  have h4:1000000000 ^ xs.length * 1≤1000000000 ^ xs.length * m:=Nat.mul_le_mul_left _ hm
  generalize 1000000000 ^ xs.length=P at *
  generalize 1000000000 ^ C=Q at *
  omega
theorem Zqf {n C:Nat} (hC:n < 1000000000 ^ C):ml n≤C:=Zeu.2 (Nat.lt_of_lt_of_le hC (Nat.pow_le_pow_left (by rw [Zcy]; omega) _))
theorem Zbg.len {w:World} {A:Option Addr} {l c n:Nat} (h:Zbg w (.slice A l c) n):l=ml n:=by
 obtain ⟨A',xs,c',h1,h2,h3,h4,h5,h6⟩:=h
 injection h1 with e1 e2 e3
 rw [e2,ZkX h4 h5,h6]
theorem ZgA (b:Nat):¬ ZaC none b:=fun hb=>by obtain ⟨a,ha,_⟩:=hb; cases ha
theorem ZrG {a:Nat} (h:a < 4294967296):(a:Int) % 4294967296=(a:Int):=by omega
def dive (e:Nat):Nat:=100000000 / 10 ^ e
theorem Zo5:dive 0=100000000:=by simp [dive]
theorem Zo6:dive 9=0:=by decide
theorem Zho (e:Nat):dive e / 10=dive (e + 1):=by unfold dive; rw [Nat.div_div_eq_div_mul,Nat.pow_succ]
theorem ZmI {e:Nat} (h:e < 9):dive e=10 ^ (9 - 1 - e):=by
 have:e=0∨e=1∨e=2∨e=3∨e=4∨e=5∨e=6∨e=7∨e=8:=by omega
 rcases this with rfl | rfl | rfl | rfl | rfl | rfl | rfl | rfl | rfl<;>decide
theorem ZrH (e:Nat):dive e≤100000000:=Nat.div_le_self _ _
theorem Zqg {e:Nat} (h:e < 9):0 < dive e:=by rw [ZmI h]; exact Nat.pow_pos (by omega)
def ZmJ (C:Nat) (w wr:World) (n m:Nat) (xs:List Nat) (A:Option Addr) (cap:Nat) (mv:Value):Prop :=
 Zc2 n xs m∧Buf .u32 143 wr A cap xs∧Zbg wr mv m∧Ext w wr∧ml m≤ml n∧(∀ b,ZaC A b→w.heap.size≤b)∧xs.length≤C
theorem Zbg.fr {S:Nat→Prop} {w w':World} {v:Value} {n:Nat} (h:Zbg w v n) (hf:Fr S w w') (hs:∀ A l c,v=.slice A l c→0 < l→∀ a,A=some a→¬ S a.block):Zbg w' v n:=by
 obtain ⟨A,xs,c,h1,h2,h3,h4⟩:=h
 refine ⟨A,xs,c,h1,h2,?_,h4⟩
 cases xs with
 | nil=>exact Zae.nil
 | cons x xs=>exact h3.fr hf (fun a ha _=>hs A _ c h1 (by simp) a ha)
def ZeK (w wr:World) (xs:List Nat) (A:Option Addr) (cap h t:Nat) (A3:Option Addr) (cap3:Nat):Prop :=
 Buf .u32 143 wr A cap xs∧TBuf wr A3 cap3 (ZaP h)∧(ZaP h).length=t∧Ext w wr∧(∀ b,ZaC A b→w.heap.size≤b)∧(∀ b,ZaC A3 b→w.heap.size≤b)∧(∀ b,ZaC A b→¬ ZaC A3 b)
theorem Zlt {w wr w2:World} {xs:List Nat} {A:Option Addr} {cap h h' t c':Nat} {A3 A4:Option Addr} {cap3 cap4:Nat} {o:Obj} (hS:ZeK w wr xs A cap h t A3 cap3) (hT:ZaP h'=ZaP h ++ [UInt8.ofNat (48 + c')]) (hc:c' < 10)
 (hB:Buf .u8 5 w2 A4 cap4 (nats (ZaP h) ++ [48 + c'])) (hF:Fr (ZaC A3) (wr.alloc o) w2) (hA:∀ b,ZaC A4 b→ZaC A3 b∨b=(wr.alloc o).heap.size):ZeK w w2 xs A cap h' (t + 1) A4 cap4:=by
 obtain ⟨h1,h2,h3,h4,h5,h6,h7⟩:=hS
 have hF':Fr (ZaC A3) wr w2:=((Fr.refl (ZaC A3) wr).alloc o).trans (hF.mono (fun _ _ h=>h))
 refine ⟨h1.fr hF' h7,?_,by rw [hT]; simp [h3],h4.next hF' (fun i hi hb=>by have:=h6 i hb; omega),h5,?_,?_⟩
 ·show Buf _ _ _ _ _ (nats (ZaP h'))
  rw [hT,Zl3]
  have:nats [UInt8.ofNat (48 + c')]=[48 + c']:=by
   simp [nats]; omega
  rw [this]; exact hB
 ·intro b hb
  rcases hA b hb with h | h
  ·exact h6 b h
  ·have:=h4.size; simp at h; omega
 ·intro b hb hb4
  rcases hA b hb4 with h | h
  ·exact h7 b hb h
  ·have:=h1.lt hb; simp at h; omega
set_option maxHeartbeats 1000000 in
theorem ZnL (s:Bool) (A0:Option Addr) (l0 c0:Nat) (n:Nat) (w:World) (hN:Zbg w (.slice A0 l0 c0) n) (h0:0 < n) (C:Nat) (hn:n < 1000000000 ^ C) (hC:C≤15637498706141) :
 Calls Tryz.prog 113 #[.agg #[.bool s, .slice A0 l0 c0]] w (RetV w (.string ⟨(Lib.decDigits n).toArray⟩)):=by
 have HN:=zh hN
 have H0:=zh h0
 have Hn:=zh hn
 have HC1:Hid (C≤15637498706141):=hC
 have HC0:Hid (ml n≤17592186044416):=by have:=Zqf hn; unfold Hid; omega
 have hl0:((l0:Int) == 0)=false:=by
  obtain ⟨A,xs,c,h1,h2,h3,h4,h5,h6⟩:=hN
  injection h1 with e1 e2 e3
  subst e2
  have k1:=ZkX h4 h5
  rw [h6] at k1
  have k2:=Zos h0
  simp
  intro e
  rw [e] at k1
  simp at k1
  omega
 clear hN h0 hn hC
 go_enter Tryz.func113,Tryz.ntmps113
 go_wp2
 obtain ⟨wb,ewb⟩:∃ wb,w.alloc (.cells #[.bool s, .slice A0 l0 c0] 57)=wb:=⟨_,rfl⟩
 rw [ewb]
 have HEb:Hid (Ext w wb):=ewb ▸ (Fr.refl _ _).alloc _
 clear ewb
 go_loopw [3,4,5,6] (fun pv mv _ _ wr=>∃ (xs:List Nat) (m:Nat) (A:Option Addr) (cap:Nat) (A1:Option Addr) (l c:Nat),pv=.slice A xs.length cap∧mv=.slice A1 l c∧Hid (ZmJ C w wr n m xs A cap (.slice A1 l c))) (fun pv _ _ _ _=>match pv with | .slice _ k _=>C - k | _=>0)
 case atStart=>exact ⟨[],n,none,0,A0,l0,c0,rfl,rfl,Zc2.start n,Buf.nil,HN.out.ext HEb.out,HEb.out,Nat.le_refl _,fun b hb=>(ZgA b hb).elim,by simp⟩
 case round =>
  obtain ⟨xs,m,A,cap,A1,l,c,rfl,rfl,hS⟩:=hrel
  have hl:=hS.out.2.2.1.len
  by_cases hm:0 < m
  ·have hlen:=hS.out.1.len hm Hn.out
   have hlp:0 < l:=by rw [hl]; exact Zos hm
   have hn2:=HC0.out
   have hn3:=HC1.out
   have hml:ml m≤17592186044416:=by have:=hS.out.2.2.2.2.1; omega
   have HD:=zh (ZkY _ m 1000000000 wr hS.out.2.2.1 hml (by omega) (by rw [Zcy]; omega))
   obtain ⟨k2,ek⟩:∃ k2,C=k2:=⟨_,rfl⟩
   rw [ek] at hlen
   have hk2:k2≤15637498706141:=by omega
   clear hn2 hn3
   have hr:=Nat.mod_lt m (y:=1000000000) (by omega)
   have HC2:=zh hS.out.1.step
   have hmm:ml (m / 1000000000)≤ml m:=Zmo (Nat.div_le_self _ _)
   have Hmm:Hid (ml (m / 1000000000)≤ml n):=Nat.le_trans hmm hS.out.2.2.2.2.1
   obtain ⟨r,er⟩:∃ r,m % 1000000000=r:=⟨_,rfl⟩
   obtain ⟨m2,em⟩:∃ m2,m / 1000000000=m2:=⟨_,rfl⟩
   rw [er] at HC2
   rw [em] at HC2 Hmm
   clear hl hmm hr
   go_wp2_with fail
   refine HD.out.mono ?_
   rintro e w1 ⟨l2,c2,rfl,hM1,hF1⟩
   rw [er]
   rw [em] at hM1
   have HM1:=zh hM1
   have HF1:=zh hF1
   clear HD hM1 hF1 er em
   go_wp2_with (at_builtin; refine Hid.out ?_)
   refine zh ?_
   have hSh:Hid (Zae .u32 (w1.alloc (.cells #[.int .u32 (r:Int)] 143)) (some ⟨w1.heap.size,0,none⟩) [r]):=(Own.new w1 143 .u32 [r] []).shows0
   have hBx:Hid (Buf .u32 143 w1 A cap xs):=hS.out.2.1.ext HF1.out
   refine Za9 rfl _ _ _ rfl _ .u32 4 Tryz.underlying55 Zor A (some ⟨w1.heap.size,0,none⟩) xs.length 1 cap 1 rfl rfl xs [r] rfl rfl (hBx.out.ext ((Fr.refl _ _).alloc _)) hSh.out (by simp only [maxLen]; omega) (by omega) ?_
   intro A2 cap2 w2 hB2 hF2 hA2
   have HNew:Hid (ZmJ C w w2 n m2 (xs ++ [r]) A2 cap2 (.slice (some ⟨wr.heap.size,0,none⟩) l2 c2)):=by
    have hnew:=hS.out.2.2.2.2.2.1
    have hE1:Ext w w1:=hS.out.2.2.2.1.trans HF1.out
    refine ⟨HC2.out,hB2,(HM1.out.ext ((Fr.refl _ _).alloc _)).fr hF2 ?_,(hE1.alloc _).next hF2 (fun i hi hb=>by have:=hnew i hb; omega),Hmm.out,?_,by rw [List.length_append,List.length_singleton]; omega⟩
    ·intro A' l' c' e _ a ha hb
     injection e with e1 e2 e3
     rw [← e1] at ha
     injection ha with ha
     subst ha
     have:wr.heap.size < wr.heap.size:=hS.out.2.1.lt hb
     omega
    ·intro b hb
     rcases hA2 b hb with h | h
     ·exact hnew b h
     ·have:=hE1.size; simp at h; omega
   clear hB2 hF2 hA2 hSh hBx HM1 HF1 HC2 hS
   have ek':=zh ek
   clear ek
   go_wp2
   go_roundw
   case rel=>exact ⟨xs ++ [r],m2,A2,cap2,_,l2,c2,by rw [List.length_append]; rfl,rfl,HNew⟩
   case measure =>
    simp
    rw [ek'.out]
    omega
  ·obtain rfl:m=0:=by omega
   obtain ⟨hC,hB,hM,Q,_,hA,hxl⟩:=hS.out
   have hxl2:xs.length≤15637498706141:=by have:=HC1.out; omega
   obtain rfl:l=0:=by rw [hl]; rfl
   have HC:Hid (Dig 1000000000 xs∧n=val 1000000000 xs):=by
    obtain ⟨c1,c2⟩:=hC
    exact ⟨c1,by simpa using c2⟩
   have HB:=zh hB
   have HE:=zh Q
   have HA:=zh hA
   clear hC hB hM Q hA hS hl hm hxl
   go_wp2
   obtain ⟨wo,rfl⟩:∃ wo:World,wo=wr:=⟨_,rfl⟩
   go_loopw [7,8,9,10] (fun ov iv _ _ wr=>∃ (k t:Nat) (A3:Option Addr) (cap3:Nat),k≤xs.length∧iv=.int .i64 ((k:Int) - 1)∧ov=.slice A3 t cap3∧t≤9 * (xs.length - k)∧Hid (ZeK w wr xs A cap (val 1000000000 (xs.drop k)) t A3 cap3)) (fun _ iv _ _ _=>(intOf iv + 1).toNat)
   case atStart=>exact ⟨xs.length,0,none,0,Nat.le_refl _,rfl,rfl,by omega,HB.out,by rw [List.drop_length]; exact Buf.nil,by rw [List.drop_length]; rfl,HE.out,HA.out,fun b hb=>(ZgA b hb).elim,fun b _ hb=>ZgA b hb⟩
   case round =>
    obtain ⟨k,t,A3,cap3,hk,rfl,rfl,ht,hS⟩:=hrel
    by_cases hk0:0 < k
    ·obtain ⟨k,rfl⟩:∃ j,k=j + 1:=⟨k - 1,by omega⟩
     have hi:((k + 1:Nat):Int) - 1=(k:Int):=by omega
     rw [hi]
     clear hi
     have hkx:k < xs.length:=by omega
     obtain ⟨p,ep⟩:∃ p,xs[k]?.getD 0=p:=⟨_,rfl⟩
     have hp:p < 1000000000:=ep ▸ HC.out.1.getD (by omega) k
     obtain ⟨H,eH⟩:∃ H,val 1000000000 (xs.drop (k + 1))=H:=⟨_,rfl⟩
     have HNext:Hid (topE H p 9 9=val 1000000000 (xs.drop k)):=by
      unfold Hid
      rw [Zp9,ZaI k hkx,ep,eH,Nat.mul_comm]
      omega
     have HP:=zh ep
     rw [eH] at hS
     have hS2:Hid (ZeK w wr xs A cap (topE H p 9 0) t A3 cap3):=by rw [ZnA (by omega)]; exact hS
     have hd0:((100000000:Nat):Int)=((dive 0:Nat):Int):=by rw [Zo5]
     clear ep eH hS
     go_wp2
     obtain ⟨wo2,rfl⟩:∃ wo:World,wo=wr:=⟨_,rfl⟩
     obtain ⟨T0,eT⟩:∃ T0,9 * (xs.length - (k + 1))=T0:=⟨_,rfl⟩
     rw [eT] at ht
     go_loopw [7,9,10] (fun ov dv _ wr=>∃ (e t:Nat) (A3:Option Addr) (cap3:Nat),e≤9∧dv=.int .u32 (dive e:Nat)∧ov=.slice A3 t cap3∧t≤T0 + e∧Hid (ZeK w wr xs A cap (topE H p 9 e) t A3 cap3)) (fun _ dv _ _=>(intOf dv).toNat)
     case atStart=>exact ⟨0,t,A3,cap3,by omega,by rw [← hd0]; rfl,rfl,by omega,hS2⟩
     case round =>
      clear ht hS2
      obtain ⟨e,t,A3,cap3,he,rfl,rfl,ht,hS⟩:=hrel
      by_cases he9:e < 9
      ·have hDp:=Zqg he9
       have hDl:=ZrH e
       have hT0:T0≤140737488355260:=by omega
       obtain ⟨b2,off2,hA,_,hcp⟩:=hS.out.1.shows.at hkx
       rw [HP.out] at hcp
       have HStep:=zh (ZoU (H:=H) (p:=p) (k:=9) he9)
       rw [← ZmI he9] at HStep
       have hc10:p / dive e % 10 < 10:=Nat.mod_lt _ (by omega)
       have q1:(p:Int).tdiv (dive e:Int)=((p / dive e:Nat):Int):=by rw [Int.tdiv_eq_ediv_of_nonneg (by omega)]; rfl
       have q1':(p:Int) / (dive e:Int)=((p / dive e:Nat):Int):=rfl
       have q2:((p / dive e:Nat):Int).tmod 10=((p / dive e % 10:Nat):Int):=by rw [Int.tmod_eq_emod_of_nonneg (Int.natCast_nonneg _)]; rfl
       have q2':((p / dive e:Nat):Int) % 10=((p / dive e % 10:Nat):Int):=rfl
       have hpd:p / dive e≤p:=Nat.div_le_self _ _
       have q3:((p / dive e:Nat):Int) % 4294967296=((p / dive e:Nat):Int):=ZrG (Nat.lt_of_le_of_lt hpd (by omega))
       have q5:(dive e:Int).tdiv 10=((dive (e + 1):Nat):Int):=by rw [Int.tdiv_eq_ediv_of_nonneg (by omega),← Zho]; rfl
       have q5':(dive e:Int) / 10=((dive (e + 1):Nat):Int):=by rw [← Zho]; rfl
       have hlt:dive (e + 1) < dive e:=by rw [← Zho]; omega
       have q6:((dive (e + 1):Nat):Int) % 4294967296=((dive (e + 1):Nat):Int):=by omega
       obtain ⟨D,eD⟩:∃ D,dive e=D:=⟨_,rfl⟩
       obtain ⟨D2,eD2⟩:∃ D2,dive (e + 1)=D2:=⟨_,rfl⟩
       have HD2:=zh eD2
       rw [eD] at hDp hDl HStep hc10 q1 q1' q2 q2' hpd q3 q5 q5' hlt ⊢
       rw [eD2] at q5 q5' hlt q6
       obtain ⟨q,eq⟩:∃ q,p / D=q:=⟨_,rfl⟩
       rw [eq] at q1 q1' q2 q2' HStep hc10 q3 hpd
       obtain ⟨c',ec⟩:∃ c',q % 10=c':=⟨_,rfl⟩
       rw [ec] at q2 q2' HStep hc10
       have hlen:(0 < t) ↔ 0 < topE H p 9 e:=by rw [← hS.out.2.2.1]; exact Zl7
       have q7:((48:Int) + (c':Int)) % 4294967296=((48 + c':Nat):Int):=by omega
       have q8:((48 + c':Nat):Int) % 256=((48 + c':Nat):Int):=by omega
       subst hA
       clear eD eD2 eq ec
       by_cases hgo:0 < t∨c'≠0
       ·have hlen3:=hS.out.2.2.1
        have HTx:=zh (Ze8 (h:=topE H p 9 e) hc10 (by omega))
        rw [← HStep.out] at HTx
        have hSh:Hid (Zae .u8 (wr.alloc (.cells #[.int .u8 (48 + (c':Int))] 5)) (some ⟨wr.heap.size,0,none⟩) [48 + c']):=(Own.new wr 5 .u8 [48 + c'] []).shows0
        have hBo:Hid (TBuf wr A3 cap3 (ZaP (topE H p 9 e))):=hS.out.2.1
        have hgo2:(decide (0 < t) || ((48 + c':Nat):Int) != 48)=true:=by
         rcases hgo with h | h
         ·simp [h]
         ·have:(((48 + c':Nat):Int) != 48)=true:=by simp; omega
          rw [this,Bool.or_true]
        have Hlen3:=zh hlen3
        have HSt:=zh hS.out
        clear hlen hlen3 HStep hS
        by_cases ht0:0 < t
        ·clear hgo hgo2
         go_wp2_with (at_builtin; refine Hid.out ?_)
         refine zh ?_
         refine Za9 rfl _ _ _ rfl _ .u8 1 Tryz.underlying191 ZqP A3 (some ⟨wr.heap.size,0,none⟩) t 1 cap3 1 rfl rfl (nats (ZaP (topE H p 9 e))) [48 + c'] (by rw [ZfH]; exact Hlen3.out) rfl (hBo.out.ext ((Fr.refl _ _).alloc _)) hSh.out (by simp only [maxLen]; omega) (by omega) ?_
         intro A4 cap4 w2 hB4 hF4 hA4
         have HNew:Hid (ZeK w w2 xs (some ⟨b2,off2,none⟩) cap (topE H p 9 (e + 1)) (t + 1) A4 cap4):=Zlt HSt.out HTx.out hc10 hB4 hF4 hA4
         clear hB4 hF4 hA4 hSh hBo HSt HTx
         go_wp2
         go_roundw
         case rel=>exact ⟨e + 1,t + 1,A4,cap4,by omega,by rw [HD2.out],rfl,by omega,HNew⟩
         case measure=>simp [intOf]; omega
        ·have hc0:(((48 + c':Nat):Int) != 48)=true:=by simp; omega
         clear hgo hgo2
         go_wp2_with (at_builtin; refine Hid.out ?_)
         refine zh ?_
         refine Za9 rfl _ _ _ rfl _ .u8 1 Tryz.underlying191 ZqP A3 (some ⟨wr.heap.size,0,none⟩) t 1 cap3 1 rfl rfl (nats (ZaP (topE H p 9 e))) [48 + c'] (by rw [ZfH]; exact Hlen3.out) rfl (hBo.out.ext ((Fr.refl _ _).alloc _)) hSh.out (by simp only [maxLen]; omega) (by omega) ?_
         intro A4 cap4 w2 hB4 hF4 hA4
         have HNew:Hid (ZeK w w2 xs (some ⟨b2,off2,none⟩) cap (topE H p 9 (e + 1)) (t + 1) A4 cap4):=Zlt HSt.out HTx.out hc10 hB4 hF4 hA4
         clear hB4 hF4 hA4 hSh hBo HSt HTx
         go_wp2
         go_roundw
         case rel=>exact ⟨e + 1,t + 1,A4,cap4,by omega,by rw [HD2.out],rfl,by omega,HNew⟩
         case measure=>simp [intOf]; omega
       ·obtain rfl:t=0:=by omega
        obtain rfl:c'=0:=by omega
        have HNew:Hid (ZeK w wr xs (some ⟨b2,off2,none⟩) cap (topE H p 9 (e + 1)) 0 A3 cap3):=by
         have h0:topE H p 9 e=0:=by omega
         unfold Hid
         rw [HStep.out,h0]
         have:=hS.out
         rw [h0] at this
         exact this
        clear hS hlen HStep
        go_wp2
        go_roundw
        case rel=>exact ⟨e + 1,0,A3,cap3,by omega,by rw [HD2.out],rfl,by omega,HNew⟩
        case measure=>simp [intOf]; omega
      ·obtain rfl:e=9:=by omega
       have HS9:Hid (ZeK w wr xs A cap (val 1000000000 (xs.drop k)) t A3 cap3):=by
        rw [← HNext.out]; exact hS
       have ht9:t≤9 * (xs.length - k):=by omega
       rw [Zo6]
       clear hS
       go_wp2
       go_roundw
       case rel=>exact ⟨k,t,A3,cap3,by omega,by go_num,rfl,ht9,HS9⟩
       case measure=>simp [intOf]
    ·obtain rfl:k=0:=by omega
     obtain ⟨_,hTb,_,hE2,_,_,_⟩:=hS.out
     rw [List.drop_zero,← HC.out.2,ZbO H0.out] at hTb
     have hlt:(Lib.decDigits n).length=t:=by
      have:=hS.out.2.2.1
      rwa [List.drop_zero,← HC.out.2,ZbO H0.out] at this
     obtain ⟨b,rfl,hc⟩:=TBuf.bytes hTb (ZbG n)
     have hcv:=run_convert_bytes_back (P:=Tryz.prog) wr 191 9 5 ⟨b,0,none⟩ cap3 (Lib.decDigits n) Tryz.underlying191 Tryz.underlying5 Tryz.underlying9 hc
     rw [hlt] at hcv
     have HE2:=zh hE2
     generalize Lib.decDigits n=txt at *
     clear hTb hE2 hc hS hlt
     go_wp2
     go_ret
     exact ⟨rfl,HE2.out⟩
end Go.Proofs.YtenchljfmfgeoaaGreatDoor

namespace Go.Proofs.YtenchljfmfgeoaaGreatDoor
open Go.RowKit
set_option maxHeartbeats 1000000 in
theorem Zmb (s:Bool) (A0:Option Addr) (c0:Nat) (w:World) :
 Calls Tryz.prog 113 #[.agg #[.bool s, .slice A0 0 c0]] w (RetV w (.string ⟨(Lib.decDigits 0).toArray⟩)):=by
 have hd:Lib.decDigits 0=[48]:=Lib.decDigits_one (by omega)
 have HD:=zh hd
 clear hd
 go_enter Tryz.func113,Tryz.ntmps113
 go_wp2
 go_ret
 exact ⟨by rw [HD.out]; rfl,(Fr.refl _ _).alloc _⟩
theorem Zmc (s:Bool) (A0:Option Addr) (l0 c0:Nat) (n:Nat) (w:World) (hN:Zbg w (.slice A0 l0 c0) n) (C:Nat) (hn:n < 1000000000 ^ C) (hC:C≤15637498706141) :
 Calls Tryz.prog 113 #[.agg #[.bool s, .slice A0 l0 c0]] w (RetV w (.string ⟨(Lib.decDigits n).toArray⟩)):=by
 rcases Nat.eq_zero_or_pos n with h | h
 ·subst h
  have hl:=hN.len
  rw [Zri] at hl
  subst hl
  exact Zmb s A0 c0 w
 ·exact ZnL s A0 l0 c0 n w hN h C hn hC
end Go.Proofs.YtenchljfmfgeoaaGreatDoor

namespace Go.Proofs.YtenchljfmfgeoaaGreatDoor
open Go.RowKit
theorem Zf2 (a b:List UInt8):(⟨a.toArray⟩:ByteArray) ++ ⟨b.toArray⟩=⟨(a ++ b).toArray⟩:=by
 apply ByteArray.ext
 simp
theorem ZeV {n j:Nat} (h:n < 10 ^ j∧j≤140737488355000):(Lib.decDigits n).length≤140737488355000:=by
 rcases Nat.eq_zero_or_pos n with e | e
 ·rw [e,Lib.decDigits_one (by omega)]; simp
 ·have:=ZnB _ _ h.1
  rw [ZbO e] at this
  omega
theorem Zdx (s:Bool) (A0:Option Addr) (l0 c0:Nat) (n:Nat) (w:World) (hN:Zbg w (.slice A0 l0 c0) n) {j:Nat} (h:n < 10 ^ j∧j≤140737488355000) :
 Calls Tryz.prog 113 #[.agg #[.bool s, .slice A0 l0 c0]] w (RetV w (.string ⟨(Lib.decDigits n).toArray⟩)):=by
 refine Zmc s A0 l0 c0 n w hN ((j + 8) / 9) ?_ (by have:=h.2; omega)
 refine Nat.lt_of_lt_of_le h.1 ?_
 rw [show (1000000000:Nat)=10 ^ 9 by decide,← Nat.pow_mul]
 exact Nat.pow_le_pow_right (by omega) (by omega)
theorem Zlu {n k:Nat} (h:ml n≤k):n < 10 ^ (10 * k):=by
 refine Nat.lt_of_lt_of_le (Zng n) (Nat.le_trans (Nat.pow_le_pow_right ZfU h) ?_)
 rw [Nat.pow_mul]
 exact Nat.pow_le_pow_left (by rw [Zcy]; decide) _
set_option maxHeartbeats 2000000 in
theorem Zkt (a:Value) (q:Rat) (w:World) (ha:Zbt w a q) (j k:Nat) (h1:q.num.natAbs < 10 ^ j∧j≤140737488355000) (_:q.den < 10 ^ k∧k≤140737488355000) (hs:q.num < 0) (hd:q.den=1) :
 Calls Tryz.prog 66 #[a] w (RetV w (.string ⟨(ZaD q).toArray⟩)):=by
 obtain ⟨s1,A1,l1,c1,t1,B1,m1,d1,rfl⟩:=ha.shp
 have F2:Hid (Zbt w (.agg #[.bool s1, .slice A1 l1 c1, .bool t1, .slice B1 m1 d1]) (q)):=ha
 clear ha
 obtain rfl:s1=true:=F2.out.num.sneg hs
 have H1:Hid (q.num.natAbs < 10 ^ j∧j≤140737488355000):=h1
 obtain rfl:m1=0:=F2.out.den.len0 (Zlf hd)
 have HT:Hid (ZaD q=45 :: Lib.decDigits q.num.natAbs):=by unfold Hid ZaD Lib.itoa; rw [if_pos hd,if_pos hs]
 obtain ⟨rt,ert⟩:∃ rt,ZaD q=rt:=⟨_,rfl⟩
 rw [ert] at HT ⊢
 clear hs hd h1 ert
 go_enter Tryz.func66,Tryz.ntmps66
 go_wp2_with fail
 generalize hwb:World.alloc w _=w4
 obtain ⟨b_B3,hE0⟩:=ZeP hwb
 clear hwb
 have B3:=zh b_B3
 clear b_B3
 replace F2:=zh (F2.out.ext hE0)
 have HE:=zh hE0
 clear hE0
 have F5:Hid (Zbo w4 (.agg #[.bool true, .slice A1 l1 c1]) ((q).num)):=F2.out.num
 have F8:Hid (Zbg w4 (.slice A1 l1 c1) (((q).num).natAbs)):=F5.out.mag
 refine (Zdx true A1 l1 c1 _ _ F8.out H1.out).mono ?_
 obtain ⟨t7,et7⟩:∃ t,Lib.decDigits (((q).num).natAbs)=t:=⟨_,rfl⟩
 rw [et7]; have hlen7:t7.length≤140737488355000:=by rw [← et7]; exact ZeV H1.out
 have Ht7:=zh et7; clear et7
 rintro e w6 ⟨rfl,hF⟩
 replace B3:=zh (B3.out.ext hF)
 replace F2:=zh (F2.out.ext hF)
 replace F5:=zh (F5.out.ext hF)
 replace F8:=zh (F8.out.ext hF)
 replace HE:=zh (HE.out.trans hF)
 clear hF
 obtain ⟨c9_0,c9_1,c9_2,c9_3,f9_0,f9_1,f9_2,f9_3⟩:=B3.out.cell4
 go_wp2
 clear c9_0 c9_1 c9_2 c9_3 f9_0 f9_1 f9_2 f9_3
 go_ret
 refine ⟨?_,HE.out⟩
 rw [HT.out,Ht7.out]
 show Ending.returned (.string ((⟨#[45]⟩:ByteArray) ++ ⟨t7.toArray⟩))=_
 simp only [Zf2]
 rfl
set_option maxHeartbeats 2000000 in
theorem Zku (a:Value) (q:Rat) (w:World) (ha:Zbt w a q) (j k:Nat) (h1:q.num.natAbs < 10 ^ j∧j≤140737488355000) (h2:q.den < 10 ^ k∧k≤140737488355000) (hs:q.num < 0) (hd:¬ q.den=1) :
 Calls Tryz.prog 66 #[a] w (RetV w (.string ⟨(ZaD q).toArray⟩)):=by
 obtain ⟨s1,A1,l1,c1,t1,B1,m1,d1,rfl⟩:=ha.shp
 have F2:Hid (Zbt w (.agg #[.bool s1, .slice A1 l1 c1, .bool t1, .slice B1 m1 d1]) (q)):=ha
 clear ha
 obtain rfl:s1=true:=F2.out.num.sneg hs
 have H1:Hid (q.num.natAbs < 10 ^ j∧j≤140737488355000):=h1
 have hl:0 < m1:=F2.out.den.lenp (Zmu hd)
 have hlb:decide ((0:Int) < (m1:Int))=true:=by rw [decide_eq_true_eq]; omega
 have H2:Hid ((denF q).natAbs < 10 ^ k∧k≤140737488355000):=by unfold Hid; rw [Ze6 hd,Int.natAbs_natCast]; exact h2
 have HT:Hid (ZaD q=(45 :: Lib.decDigits q.num.natAbs) ++ (47 :: Lib.decDigits (denF q).natAbs)):=by
  unfold Hid ZaD
  rw [if_neg hd,Ze6 hd,Int.natAbs_natCast,Lib.itoa_nonneg]
  unfold Lib.itoa
  rw [if_pos (show q.num < 0 by omega)]
  simp
 obtain ⟨rt,ert⟩:∃ rt,ZaD q=rt:=⟨_,rfl⟩
 rw [ert] at HT ⊢
 clear hs hd h1 h2 ert
 go_enter Tryz.func66,Tryz.ntmps66
 go_wp2_with fail
 generalize hwb:World.alloc w _=w4
 obtain ⟨b_B3,hE0⟩:=ZeP hwb
 clear hwb
 have B3:=zh b_B3
 clear b_B3
 replace F2:=zh (F2.out.ext hE0)
 have HE:=zh hE0
 clear hE0
 have F5:Hid (Zbo w4 (.agg #[.bool true, .slice A1 l1 c1]) ((q).num)):=F2.out.num
 have F8:Hid (Zbg w4 (.slice A1 l1 c1) (((q).num).natAbs)):=F5.out.mag
 refine (Zdx true A1 l1 c1 _ _ F8.out H1.out).mono ?_
 obtain ⟨t7,et7⟩:∃ t,Lib.decDigits (((q).num).natAbs)=t:=⟨_,rfl⟩
 rw [et7]; have hlen7:t7.length≤140737488355000:=by rw [← et7]; exact ZeV H1.out
 have Ht7:=zh et7; clear et7
 rintro e w6 ⟨rfl,hF⟩
 replace B3:=zh (B3.out.ext hF)
 replace F2:=zh (F2.out.ext hF)
 replace F5:=zh (F5.out.ext hF)
 replace F8:=zh (F8.out.ext hF)
 replace HE:=zh (HE.out.trans hF)
 clear hF
 obtain ⟨c9_0,c9_1,c9_2,c9_3,f9_0,f9_1,f9_2,f9_3⟩:=B3.out.cell4
 go_wp2_with fail
 clear c9_0 c9_1 c9_2 c9_3 f9_0 f9_1 f9_2 f9_3
 have F10:Hid (Zbo w6 (.agg #[.bool t1, .slice B1 m1 d1]) (denF (q))):=F2.out.den
 have F13:Hid (Zbg w6 (.slice B1 m1 d1) ((denF (q)).natAbs)):=F10.out.mag
 refine (Zdx t1 B1 m1 d1 _ _ F13.out H2.out).mono ?_
 obtain ⟨t12,et12⟩:∃ t,Lib.decDigits ((denF (q)).natAbs)=t:=⟨_,rfl⟩
 rw [et12]; have hlen12:t12.length≤140737488355000:=by rw [← et12]; exact ZeV H2.out
 have Ht12:=zh et12; clear et12
 rintro e w11 ⟨rfl,hF⟩
 replace B3:=zh (B3.out.ext hF)
 replace F2:=zh (F2.out.ext hF)
 replace F5:=zh (F5.out.ext hF)
 replace F8:=zh (F8.out.ext hF)
 replace F10:=zh (F10.out.ext hF)
 replace F13:=zh (F13.out.ext hF)
 replace HE:=zh (HE.out.trans hF)
 clear hF
 obtain ⟨c14_0,c14_1,c14_2,c14_3,f14_0,f14_1,f14_2,f14_3⟩:=B3.out.cell4
 go_wp2
 clear c14_0 c14_1 c14_2 c14_3 f14_0 f14_1 f14_2 f14_3
 go_ret
 refine ⟨?_,HE.out⟩
 rw [HT.out,Ht7.out,Ht12.out]
 show Ending.returned (.string (((⟨#[45]⟩:ByteArray) ++ ⟨t7.toArray⟩) ++ ((⟨#[47]⟩:ByteArray) ++ ⟨t12.toArray⟩)))=_
 simp only [Zf2]
 rfl
set_option maxHeartbeats 2000000 in
theorem Zkv (a:Value) (q:Rat) (w:World) (ha:Zbt w a q) (j k:Nat) (h1:q.num.natAbs < 10 ^ j∧j≤140737488355000) (_:q.den < 10 ^ k∧k≤140737488355000) (hs:0≤q.num) (hd:q.den=1) :
 Calls Tryz.prog 66 #[a] w (RetV w (.string ⟨(ZaD q).toArray⟩)):=by
 obtain ⟨s1,A1,l1,c1,t1,B1,m1,d1,rfl⟩:=ha.shp
 have F2:Hid (Zbt w (.agg #[.bool s1, .slice A1 l1 c1, .bool t1, .slice B1 m1 d1]) (q)):=ha
 clear ha
 obtain rfl:s1=false:=F2.out.num.spos hs
 have H1:Hid (q.num.natAbs < 10 ^ j∧j≤140737488355000):=h1
 obtain rfl:m1=0:=F2.out.den.len0 (Zlf hd)
 have HT:Hid (ZaD q=Lib.decDigits q.num.natAbs):=by unfold Hid ZaD Lib.itoa; rw [if_pos hd,if_neg (show ¬ q.num < 0 by omega)]; rw [show q.num.toNat=q.num.natAbs by omega]
 obtain ⟨rt,ert⟩:∃ rt,ZaD q=rt:=⟨_,rfl⟩
 rw [ert] at HT ⊢
 clear hs hd h1 ert
 go_enter Tryz.func66,Tryz.ntmps66
 go_wp2_with fail
 generalize hwb:World.alloc w _=w4
 obtain ⟨b_B3,hE0⟩:=ZeP hwb
 clear hwb
 have B3:=zh b_B3
 clear b_B3
 replace F2:=zh (F2.out.ext hE0)
 have HE:=zh hE0
 clear hE0
 have F5:Hid (Zbo w4 (.agg #[.bool false, .slice A1 l1 c1]) ((q).num)):=F2.out.num
 have F8:Hid (Zbg w4 (.slice A1 l1 c1) (((q).num).natAbs)):=F5.out.mag
 refine (Zdx false A1 l1 c1 _ _ F8.out H1.out).mono ?_
 obtain ⟨t7,et7⟩:∃ t,Lib.decDigits (((q).num).natAbs)=t:=⟨_,rfl⟩
 rw [et7]; have hlen7:t7.length≤140737488355000:=by rw [← et7]; exact ZeV H1.out
 have Ht7:=zh et7; clear et7
 rintro e w6 ⟨rfl,hF⟩
 replace B3:=zh (B3.out.ext hF)
 replace F2:=zh (F2.out.ext hF)
 replace F5:=zh (F5.out.ext hF)
 replace F8:=zh (F8.out.ext hF)
 replace HE:=zh (HE.out.trans hF)
 clear hF
 obtain ⟨c9_0,c9_1,c9_2,c9_3,f9_0,f9_1,f9_2,f9_3⟩:=B3.out.cell4
 go_wp2
 clear c9_0 c9_1 c9_2 c9_3 f9_0 f9_1 f9_2 f9_3
 go_ret
 refine ⟨?_,HE.out⟩
 rw [HT.out,Ht7.out]
 show Ending.returned (.string (⟨t7.toArray⟩:ByteArray))=_
 rfl
set_option maxHeartbeats 2000000 in
theorem Zkw (a:Value) (q:Rat) (w:World) (ha:Zbt w a q) (j k:Nat) (h1:q.num.natAbs < 10 ^ j∧j≤140737488355000) (h2:q.den < 10 ^ k∧k≤140737488355000) (hs:0≤q.num) (hd:¬ q.den=1) :
 Calls Tryz.prog 66 #[a] w (RetV w (.string ⟨(ZaD q).toArray⟩)):=by
 obtain ⟨s1,A1,l1,c1,t1,B1,m1,d1,rfl⟩:=ha.shp
 have F2:Hid (Zbt w (.agg #[.bool s1, .slice A1 l1 c1, .bool t1, .slice B1 m1 d1]) (q)):=ha
 clear ha
 obtain rfl:s1=false:=F2.out.num.spos hs
 have H1:Hid (q.num.natAbs < 10 ^ j∧j≤140737488355000):=h1
 have hl:0 < m1:=F2.out.den.lenp (Zmu hd)
 have hlb:decide ((0:Int) < (m1:Int))=true:=by rw [decide_eq_true_eq]; omega
 have H2:Hid ((denF q).natAbs < 10 ^ k∧k≤140737488355000):=by unfold Hid; rw [Ze6 hd,Int.natAbs_natCast]; exact h2
 have HT:Hid (ZaD q=(Lib.decDigits q.num.natAbs) ++ (47 :: Lib.decDigits (denF q).natAbs)):=by
  unfold Hid ZaD
  rw [if_neg hd,Ze6 hd,Int.natAbs_natCast,Lib.itoa_nonneg]
  unfold Lib.itoa
  rw [if_neg (show ¬ q.num < 0 by omega)]
  rw [show q.num.toNat=q.num.natAbs by omega]
  simp
 obtain ⟨rt,ert⟩:∃ rt,ZaD q=rt:=⟨_,rfl⟩
 rw [ert] at HT ⊢
 clear hs hd h1 h2 ert
 go_enter Tryz.func66,Tryz.ntmps66
 go_wp2_with fail
 generalize hwb:World.alloc w _=w4
 obtain ⟨b_B3,hE0⟩:=ZeP hwb
 clear hwb
 have B3:=zh b_B3
 clear b_B3
 replace F2:=zh (F2.out.ext hE0)
 have HE:=zh hE0
 clear hE0
 have F5:Hid (Zbo w4 (.agg #[.bool false, .slice A1 l1 c1]) ((q).num)):=F2.out.num
 have F8:Hid (Zbg w4 (.slice A1 l1 c1) (((q).num).natAbs)):=F5.out.mag
 refine (Zdx false A1 l1 c1 _ _ F8.out H1.out).mono ?_
 obtain ⟨t7,et7⟩:∃ t,Lib.decDigits (((q).num).natAbs)=t:=⟨_,rfl⟩
 rw [et7]; have hlen7:t7.length≤140737488355000:=by rw [← et7]; exact ZeV H1.out
 have Ht7:=zh et7; clear et7
 rintro e w6 ⟨rfl,hF⟩
 replace B3:=zh (B3.out.ext hF)
 replace F2:=zh (F2.out.ext hF)
 replace F5:=zh (F5.out.ext hF)
 replace F8:=zh (F8.out.ext hF)
 replace HE:=zh (HE.out.trans hF)
 clear hF
 obtain ⟨c9_0,c9_1,c9_2,c9_3,f9_0,f9_1,f9_2,f9_3⟩:=B3.out.cell4
 go_wp2_with fail
 clear c9_0 c9_1 c9_2 c9_3 f9_0 f9_1 f9_2 f9_3
 have F10:Hid (Zbo w6 (.agg #[.bool t1, .slice B1 m1 d1]) (denF (q))):=F2.out.den
 have F13:Hid (Zbg w6 (.slice B1 m1 d1) ((denF (q)).natAbs)):=F10.out.mag
 refine (Zdx t1 B1 m1 d1 _ _ F13.out H2.out).mono ?_
 obtain ⟨t12,et12⟩:∃ t,Lib.decDigits ((denF (q)).natAbs)=t:=⟨_,rfl⟩
 rw [et12]; have hlen12:t12.length≤140737488355000:=by rw [← et12]; exact ZeV H2.out
 have Ht12:=zh et12; clear et12
 rintro e w11 ⟨rfl,hF⟩
 replace B3:=zh (B3.out.ext hF)
 replace F2:=zh (F2.out.ext hF)
 replace F5:=zh (F5.out.ext hF)
 replace F8:=zh (F8.out.ext hF)
 replace F10:=zh (F10.out.ext hF)
 replace F13:=zh (F13.out.ext hF)
 replace HE:=zh (HE.out.trans hF)
 clear hF
 obtain ⟨c14_0,c14_1,c14_2,c14_3,f14_0,f14_1,f14_2,f14_3⟩:=B3.out.cell4
 go_wp2
 clear c14_0 c14_1 c14_2 c14_3 f14_0 f14_1 f14_2 f14_3
 go_ret
 refine ⟨?_,HE.out⟩
 rw [HT.out,Ht7.out,Ht12.out]
 show Ending.returned (.string ((⟨t7.toArray⟩:ByteArray) ++ ((⟨#[47]⟩:ByteArray) ++ ⟨t12.toArray⟩)))=_
 simp only [Zf2]
 rfl
theorem ZnM (a:Value) (q:Rat) (w:World) (ha:Zbt w a q) (j k:Nat) (h1:q.num.natAbs < 10 ^ j∧j≤140737488355000) (h2:q.den < 10 ^ k∧k≤140737488355000):Calls Tryz.prog 66 #[a] w (RetV w (.string ⟨(ZaD q).toArray⟩)):=by
 by_cases hs:q.num < 0
 ·by_cases hd:q.den=1
  ·exact Zkt a q w ha j k h1 h2 hs hd
  ·exact Zku a q w ha j k h1 h2 hs hd
 ·by_cases hd:q.den=1
  ·exact Zkv a q w ha j k h1 h2 (by omega) hd
  ·exact Zkw a q w ha j k h1 h2 (by omega) hd
theorem Zo7 (a:Value) (q:Rat) (w:World) (ha:Zbt w a q) (h1:ml q.num.natAbs≤65536) (h2:ml q.den≤65536):Calls Tryz.prog 66 #[a] w (RetV w (.string ⟨(ZaD q).toArray⟩)) :=
 ZnM a q w ha _ _ ⟨Zlu h1,by omega⟩ ⟨Zlu h2,by omega⟩
end Go.Proofs.YtenchljfmfgeoaaGreatDoor

namespace Go.Proofs.YtenchljfmfgeoaaGreatDoor
open Go.RowKit
end Go.Proofs.YtenchljfmfgeoaaGreatDoor

namespace Go.Proofs.YtenchljfmfgeoaaGreatDoor
open Go.RowKit
end Go.Proofs.YtenchljfmfgeoaaGreatDoor

namespace Go.Proofs.YtenchljfmfgeoaaGreatDoor
open Go.RowKit
def Za8 (c:UInt8):Bool:=c != 47
theorem Zhp {l:List UInt8} (h:l.all Zav=true):l.all Za8=true:=by
 rw [List.all_eq_true] at *
 intro x hx
 have:=h x hx
 unfold Za8
 simp
 rintro rfl
 exact absurd this (by decide)
theorem Zo8 {t:ByteArray} {p:Nat} (hp:p=((bytes t).takeWhile Za8).length):bytes (t.extract 0 p)=(bytes t).takeWhile Za8∧bytes (t.extract (p + 1) t.size)=(bytes t).drop (p + 1):=by
 rw [ZbL,ZbL]
 refine ⟨?_,?_⟩
 ·rw [List.drop_zero,Nat.sub_zero,hp]
  have:=List.takeWhile_prefix Za8 (l:=bytes t)
  exact (List.prefix_iff_eq_take.1 this).symm
 ·rw [List.take_of_length_le (by rw [List.length_drop,Zaq]; exact Nat.le_refl _)]
theorem Zqh {s:ByteArray} (h:¬ bytes s=[]):∃ c,(bytes s).head? = some c∧s[0]? = some c:=by
 obtain ⟨h1,_⟩:=Zeb h
 exact ⟨s[0],Zev h1,by simp [h1]⟩
theorem Zqi {s:ByteArray} (h:¬ bytes s=[]):1≤s.size:=(Zeb h).1
end Go.Proofs.YtenchljfmfgeoaaGreatDoor

namespace Go.Proofs.YtenchljfmfgeoaaGreatDoor
open Go.RowKit
section
variable {w w':World} {e:Ending} {l:List UInt8}
end
end Go.Proofs.YtenchljfmfgeoaaGreatDoor

namespace Go.Proofs.YtenchljfmfgeoaaGreatDoor
open Go.RowKit
end Go.Proofs.YtenchljfmfgeoaaGreatDoor

namespace Go.Proofs.YtenchljfmfgeoaaGreatDoor
open Go.RowKit
theorem ZfI:∀ l:List UInt8,Lib.indexByte l 47=if (l.takeWhile Za8).length < l.length then ((l.takeWhile Za8).length:Int) else -1
 | []=>by simp [Lib.indexByte]
 | b :: l=>by
   have ih:=ZfI l
   unfold Lib.indexByte
   by_cases hb:b=47
   ·subst hb; simp [Za8]
   ·have h1:(b == (47:UInt8))=false:=by simpa using hb
    have h2:Za8 b=true:=by simp [Za8,hb]
    rw [h1,ih]
    simp only [List.takeWhile_cons,h2,List.length_cons,if_true,Bool.false_eq_true,if_false]
    generalize (l.takeWhile Za8).length=k
    generalize l.length=n
    by_cases h3:k < n
    ·have h4:k + 1 < n + 1:=by omega
     have h5:(((k:Nat):Int) == -1)=false:=by simp
     rw [if_pos h4,if_pos h3]
     simp only [h5,Bool.false_eq_true,if_false]
     omega
    ·have h4:¬ k + 1 < n + 1:=by omega
     rw [if_neg h4,if_neg h3]
     rfl
theorem Zsx {s:ByteArray} (h:bytes s=[47]):(0:Int)=Lib.indexByte (bytes s) 47:=by rw [h]; rfl
theorem ZrI {s:ByteArray} (h:bytes s=[47]):((⟨#[47]⟩:ByteArray).toList == s.toList)=true:=by
 rw [Lib.toList_data,Lib.toList_data,show s.data.toList=[47] from h]; rfl
theorem ZrJ {s:ByteArray} (h:¬ bytes s=[47]):((⟨#[47]⟩:ByteArray).toList == s.toList)=false:=by
 rw [Lib.toList_data,Lib.toList_data]; exact beq_eq_false_iff_ne.2 (fun e=>h e.symm)
theorem ZrK {p:Nat} (h:p≤1000000):IntKind.i64.wrap (((p:Nat):Int) + ((⟨#[47]⟩:ByteArray).size:Int))=((p + 1:Nat):Int):=by
 rw [show (((⟨#[47]⟩:ByteArray).size:Nat):Int)=1 from rfl,IntKind.wrap_i64]; omega
theorem ZmK (z:Int):(Lib.itoa z).all Za8=true:=by
 rcases Int.lt_or_le z 0 with h | h
 ·rw [Zgy h,List.all_append,Zhp (ZcU _)]; rfl
 ·rw [show z=((z.toNat:Nat):Int) by omega,ZcH]; exact Zhp (ZcU _)
theorem Zkb {l:List UInt8} {q:Rat} (h:Za0 l=some q) (h1:q.den=1):l=Lib.itoa q.num∧l.length≤(l.takeWhile Za8).length:=by
 have ht:ZaD q=l:=Zd3 h
 have e:l=Lib.itoa q.num:=by rw [← ht]; unfold ZaD; rw [if_pos h1]
 refine ⟨e,?_⟩
 have:=ZmK q.num
 rw [← e] at this
 rw [(ZdD this).1]
 exact Nat.le_refl _
theorem Zo9 {l:List UInt8} {q:Rat} (h:Za0 l=some q) (h1:¬ q.den=1):l.takeWhile Za8=Lib.itoa q.num∧l.drop ((l.takeWhile Za8).length + 1)=Lib.itoa (q.den:Int)∧(l.takeWhile Za8).length < l.length:=by
 have ht:ZaD q=l:=Zd3 h
 have e:l=Lib.itoa q.num ++ 47 :: Lib.itoa (q.den:Int):=by rw [← ht]; unfold ZaD; rw [if_neg h1]; simp
 obtain ⟨e1,e2⟩:=Zf1 (p:=Za8) (r:=Lib.itoa (q.den:Int)) (c:=47) (ZmK q.num) (by decide)
 rw [← e] at e1 e2
 refine ⟨e1,?_,?_⟩
 ·rw [e1,e,← List.drop_drop,List.drop_left]; rfl
 ·rw [e1,e]; simp
theorem ZnN:Ending.returned (.tuple #[.string ⟨#[48]⟩, .string ⟨#[49]⟩])=Ending.returned (.tuple #[.string ⟨(Lib.itoa (0:Rat).num).toArray⟩, .string ⟨(Lib.itoa ((0:Rat).den:Int)).toArray⟩]):=by
 rw [show (0:Rat).num=((0:Nat):Int) from rfl,show ((0:Rat).den:Int)=((1:Nat):Int) from rfl,Zei (by decide),Zei (by decide)]; rfl
theorem Zmd (s:ByteArray):Ending.returned (.tuple #[.string s, .string ⟨#[49]⟩])=Ending.returned (.tuple #[.string ⟨(bytes s).toArray⟩, .string ⟨(Lib.itoa ((1:Nat):Int)).toArray⟩]):=by
 rw [Zei (by decide)]; rfl
theorem Zpa (s:ByteArray) (w:World):Calls Tryz.prog 245 #[.string s, .int .u8 (((47:UInt8).toNat:Nat):Int)] w (RetV w (.int .i64 (Lib.indexByte (bytes s) 47))):=by
 refine (Tryz.stringslite_IndexByte s (((47:UInt8).toNat:Nat):Int) w).mono ?_
 rintro e w' ⟨rfl,rfl⟩
 exact ⟨rfl,Fr.refl _ _⟩
theorem Zf3 (s:ByteArray) (w:World) :
 Calls Tryz.prog 219 #[.string s, .string ⟨#[47]⟩] w (RetV w (.int .i64 (Lib.indexByte (bytes s) 47))):=by
 refine Zas (Φ:=fun w=>True) Tryz.func219 rfl (by kernel_rfl) (fun w' hf=>trivial) ?_
 refine Zac (Zab (xr 1 [(0, .v (.string s)),(1, .v (.string ⟨#[47]⟩)),(4, .v (.int .i64 0))] [] ?_))
 refine xe (Zaa (Zac (Zab (xr 2 [(0, .v (.string s)),(1, .v (.string ⟨#[47]⟩)),(4, .v (.int .i64 0)),(15, .v (.int .i64 ((⟨#[47]⟩:ByteArray).size:Int)))] [] ?_))))
 rw [(show (((⟨#[47]⟩:ByteArray).size:Nat):Int)=1 from rfl)]
 refine xr 1 [(0, .v (.string s)),(1, .v (.string ⟨#[47]⟩)),(4, .v (.int .i64 0)),(5, .v (.int .i64 1))] [] ?_
 refine xe (Zaa (Zac (Zar (Zac ?_))))
 by_cases h47:bytes s=[47]
 ·refine Zab (xr 6 [(0, .v (.string s)),(1, .v (.string ⟨#[47]⟩)),(4, .v (.int .i64 0)),(5, .v (.int .i64 1)),(19, .v (.bool false)),(22, .v (.bool ((⟨#[47]⟩:ByteArray).toList == (s:ByteArray).toList)))] [] ?_)
  rw [ZrI h47]
  refine xr 2 [(0, .v (.string s)),(1, .v (.string ⟨#[47]⟩)),(4, .v (.int .i64 0)),(5, .v (.int .i64 1)),(16, .v (.bool true))] [] ?_
  refine xe (Zaa (xa (Zac (Zab (xr 1 [(0, .v (.string s)),(1, .v (.string ⟨#[47]⟩)),(4, .v (.int .i64 0)),(5, .v (.int .i64 1))] [] ?_)))))
  refine xe (Zaa (Zag (ZaQ (Zai ?_))))
  refine Zaf (v:=.int .i64 0) (by kernel_rfl) (fun w' R Q=>?_)
  exact ⟨by rw [← Zsx h47],R⟩
 ·refine Zab (xr 6 [(0, .v (.string s)),(1, .v (.string ⟨#[47]⟩)),(4, .v (.int .i64 0)),(5, .v (.int .i64 1)),(19, .v (.bool false)),(22, .v (.bool ((⟨#[47]⟩:ByteArray).toList == (s:ByteArray).toList)))] [] ?_)
  rw [ZrJ h47]
  refine xr 2 [(0, .v (.string s)),(1, .v (.string ⟨#[47]⟩)),(4, .v (.int .i64 0)),(5, .v (.int .i64 1)),(16, .v (.bool false))] [] ?_
  refine xe (Zaa (xb (Zac (Zab (xr 3 [(0, .v (.string s)),(1, .v (.string ⟨#[47]⟩)),(4, .v (.int .i64 0)),(5, .v (.int .i64 1)),(24, .v (.bool true))] [] ?_)))))
  refine xe (Zaa (xa (Zac (Zab (xr 2 [(0, .v (.string s)),(1, .v (.string ⟨#[47]⟩)),(4, .v (.int .i64 0)),(5, .v (.int .i64 1)),(27, .v (.string s)),(28, .v (.string ⟨#[47]⟩))] [] ?_)))))
  refine ZhE 29 (.int .u8 (((47:UInt8).toNat:Nat):Int)) (by kernel_rfl) (by kernel_rfl) (by kernel_rfl) (by kernel_rfl) (by kernel_rfl) (by kernel_rfl) (fun w R Q=>ZdB (c:=47) (b:=⟨#[47]⟩) (t:=9) (x:=.tmp 28) (k:=0) (i:=.const (.int .i64 0)) (by kernel_rfl) (by kernel_rfl) (by kernel_rfl) (by rfl) (by rfl)) ?_
  refine xr 0 [(0, .v (.string s)),(1, .v (.string ⟨#[47]⟩)),(4, .v (.int .i64 0)),(5, .v (.int .i64 1)),(27, .v (.string s)),(29, .v (.int .u8 (((47:UInt8).toNat:Nat):Int)))] [] ?_
  refine xc 245 [.string s, .int .u8 (((47:UInt8).toNat:Nat):Int)] 30 (fun _:Unit=>.int .i64 (Lib.indexByte (bytes s) 47)) _ (fun w R Q=>(Zpa s _).mono (fun _ _ h=>Zam h rfl)) (fun xx=>?_)
  refine xr 1 [(0, .v (.string s)),(1, .v (.string ⟨#[47]⟩)),(4, .v (.int .i64 (Lib.indexByte (bytes s) 47))),(5, .v (.int .i64 1))] [] ?_
  refine xe (Zaa (Zag (ZaQ (Zai ?_))))
  refine Zaf (v:=.int .i64 (Lib.indexByte (bytes s) 47)) (by kernel_rfl) (fun w' R Q=>?_)
  exact ⟨rfl,R⟩
theorem Zlv (s x y:ByteArray) (p:Nat) (w:World) (h1:s.size≤100000) (hp:p=((bytes s).takeWhile Za8).length) (hlt:p < s.size) (hx:s.extract 0 p=x) (hy:s.extract (p + 1) s.size=y) :
 Calls Tryz.prog 193 #[.string s, .string ⟨#[47]⟩] w (RetV w (.tuple #[.string x, .string y, .bool true])):=by
 have hlt':((bytes s).takeWhile Za8).length < (bytes s).length:=by rw [← hp,Zaq]; exact hlt
 refine Zas (Φ:=fun w=>True) Tryz.func193 rfl (by kernel_rfl) (fun w' hf=>trivial) ?_
 refine Zac (Zab (xr 3 [(0, .v (.string s)),(1, .v (.string ⟨#[47]⟩)),(4, .v (.string ⟨#[]⟩)),(5, .v (.string ⟨#[]⟩)),(6, .v (.bool false))] [] ?_))
 refine xe (Zaa (Zac (Zac (Zab (xr 2 [(0, .v (.string s)),(1, .v (.string ⟨#[47]⟩)),(4, .v (.string ⟨#[]⟩)),(5, .v (.string ⟨#[]⟩)),(6, .v (.bool false)),(8, .v (.string s)),(9, .v (.string ⟨#[47]⟩))] [] ?_)))))
 refine xc 219 [.string s, .string ⟨#[47]⟩] 10 (fun _:Unit=>.int .i64 ((p:Nat):Int)) _ (fun w R Q=>(Zf3 s _).mono (fun _ _ h=>Zam h (by rw [ZfI,if_pos hlt',← hp]))) (fun xx=>?_)
 refine xr 1 [(0, .v (.string s)),(1, .v (.string ⟨#[47]⟩)),(4, .v (.string ⟨#[]⟩)),(5, .v (.string ⟨#[]⟩)),(6, .v (.bool false)),(7, .v (.int .i64 ((p:Nat):Int)))] [] ?_
 refine xe (Zaa (Zac (Zab (xr 2 [(0, .v (.string s)),(1, .v (.string ⟨#[47]⟩)),(4, .v (.string ⟨#[]⟩)),(5, .v (.string ⟨#[]⟩)),(6, .v (.bool false)),(7, .v (.int .i64 ((p:Nat):Int))),(12, .v (.bool (decide (((p:Nat):Int) ≥ 0))))] [] ?_))))
 rw [(show decide (((p:Nat):Int) ≥ 0)=true from decide_eq_true (by omega))]
 refine xr 0 [(0, .v (.string s)),(1, .v (.string ⟨#[47]⟩)),(4, .v (.string ⟨#[]⟩)),(5, .v (.string ⟨#[]⟩)),(6, .v (.bool false)),(7, .v (.int .i64 ((p:Nat):Int))),(12, .v (.bool true))] [] ?_
 refine xe (Zaa (xa (Zac ?_)))
 refine ZaK 12 (by kernel_rfl) (by kernel_rfl) Zao ?_
 refine xf 2 [(0, .v (.string s)),(1, .v (.string ⟨#[47]⟩)),(4, .v (.string ⟨#[]⟩)),(5, .v (.string ⟨#[]⟩)),(6, .v (.bool false)),(7, .v (.int .i64 ((p:Nat):Int))),(13, .v (.string s)),(14, .v (.int .i64 ((p:Nat):Int)))] [] ?_
 refine ZeO 15 (.string x) (by kernel_rfl) (by kernel_rfl) (by kernel_rfl) (by kernel_rfl) (by kernel_rfl) (by kernel_rfl) (fun w Q=>Zhb 0 p (t:=9) (x:=(Operand.tmp 13)) (lo:=none) (hi:=(some (Operand.tmp 14))) (by kernel_rfl) (by kernel_rfl) (by kernel_rfl) (Or.inl ⟨rfl,rfl⟩) (Or.inr (by kernel_rfl)) (by omega) (by omega) hx) ?_
 refine xf 5 [(0, .v (.string s)),(4, .v (.string ⟨#[]⟩)),(5, .v (.string ⟨#[]⟩)),(6, .v (.bool false)),(15, .v (.string x)),(16, .v (.string s)),(20, .v (.int .i64 (IntKind.i64.wrap (((p:Nat):Int) + ((⟨#[47]⟩:ByteArray).size:Int)))))] [] ?_
 rw [ZrK (p:=p) (by omega)]
 refine ZeO 21 (.string y) (by kernel_rfl) (by kernel_rfl) (by kernel_rfl) (by kernel_rfl) (by kernel_rfl) (by kernel_rfl) (fun w Q=>Zhb (p + 1) _ (t:=9) (x:=(Operand.tmp 16)) (lo:=(some (Operand.tmp 20))) (hi:=none) (by kernel_rfl) (by kernel_rfl) (by kernel_rfl) (Or.inr (by kernel_rfl)) (Or.inl ⟨rfl,rfl⟩) (by omega) (Nat.le_refl _) hy) ?_
 refine xf 3 [(0, .v (.string s)),(4, .v (.string x)),(5, .v (.string y)),(6, .v (.bool true))] [] ?_
 refine xz (xe (Zaa (Zag (Zai ?_))))
 refine Zaf (v:=.tuple #[.string x, .string y, .bool true]) (by kernel_rfl) (fun w' R Q=>?_)
 exact ⟨rfl,R⟩
theorem Zme (s:ByteArray) (w:World) (hlt':¬ ((bytes s).takeWhile Za8).length < (bytes s).length) :
 Calls Tryz.prog 193 #[.string s, .string ⟨#[47]⟩] w (RetV w (.tuple #[.string s, .string ⟨#[]⟩, .bool false])):=by
 refine Zas (Φ:=fun w=>True) Tryz.func193 rfl (by kernel_rfl) (fun w' hf=>trivial) ?_
 refine Zac (Zab (xr 3 [(0, .v (.string s)),(1, .v (.string ⟨#[47]⟩)),(4, .v (.string ⟨#[]⟩)),(5, .v (.string ⟨#[]⟩)),(6, .v (.bool false))] [] ?_))
 refine xe (Zaa (Zac (Zac (Zab (xr 2 [(0, .v (.string s)),(1, .v (.string ⟨#[47]⟩)),(4, .v (.string ⟨#[]⟩)),(5, .v (.string ⟨#[]⟩)),(6, .v (.bool false)),(8, .v (.string s)),(9, .v (.string ⟨#[47]⟩))] [] ?_)))))
 refine xc 219 [.string s, .string ⟨#[47]⟩] 10 (fun _:Unit=>.int .i64 (-1)) _ (fun w R Q=>(Zf3 s _).mono (fun _ _ h=>Zam h (by rw [ZfI,if_neg hlt']))) (fun xx=>?_)
 refine xr 1 [(0, .v (.string s)),(1, .v (.string ⟨#[47]⟩)),(4, .v (.string ⟨#[]⟩)),(5, .v (.string ⟨#[]⟩)),(6, .v (.bool false)),(7, .v (.int .i64 (-1)))] [] ?_
 refine xe (Zaa (Zac (Zab (xr 2 [(0, .v (.string s)),(1, .v (.string ⟨#[47]⟩)),(4, .v (.string ⟨#[]⟩)),(5, .v (.string ⟨#[]⟩)),(6, .v (.bool false)),(7, .v (.int .i64 (-1))),(12, .v (.bool false))] [] ?_))))
 refine xe (Zaa (xb (Zal (Zaa (Zac (Zab (xr 4 [(4, .v (.string s)),(5, .v (.string ⟨#[]⟩)),(6, .v (.bool false))] [] ?_)))))))
 refine xe (Zaa (Zag ?_))
 refine Zaf (v:=.tuple #[.string s, .string ⟨#[]⟩, .bool false]) (by kernel_rfl) (fun w' R Q=>?_)
 exact ⟨rfl,R⟩
theorem ZnO (s x y:ByteArray) (p:Nat) (w:World) (h1:s.size≤100000) (hp:p=((bytes s).takeWhile Za8).length) (hlt:p < s.size) (hx:s.extract 0 p=x) (hy:s.extract (p + 1) s.size=y) :
 Calls Tryz.prog 157 #[.string s, .string ⟨#[47]⟩] w (RetV w (.tuple #[.string x, .string y, .bool true])):=by
 refine Zas (Φ:=fun w=>True) Tryz.func157 rfl (by kernel_rfl) (fun w' hf=>trivial) ?_
 refine Zac (Zab (xr 3 [(0, .v (.string s)),(1, .v (.string ⟨#[47]⟩)),(4, .v (.string ⟨#[]⟩)),(5, .v (.string ⟨#[]⟩)),(6, .v (.bool false))] [] ?_))
 refine xe (Zaa (Zac (Zab (xr 2 [(4, .v (.string ⟨#[]⟩)),(5, .v (.string ⟨#[]⟩)),(6, .v (.bool false)),(7, .v (.string s)),(8, .v (.string ⟨#[47]⟩))] [] ?_))))
 refine xc 193 [.string s, .string ⟨#[47]⟩] 9 (fun _:Unit=>.tuple #[.string x, .string y, .bool true]) _ (fun w R Q=>(Zlv s x y p _ h1 hp hlt hx hy).mono (fun _ _ h=>Zam h rfl)) (fun xx=>?_)
 refine xr 6 [(4, .v (.string x)),(5, .v (.string y)),(6, .v (.bool true))] [] ?_
 refine xe (Zaa (Zag ?_))
 refine Zaf (v:=.tuple #[.string x, .string y, .bool true]) (by kernel_rfl) (fun w' R Q=>?_)
 exact ⟨rfl,R⟩
theorem Zpb (s:ByteArray) (w:World) (hlt':¬ ((bytes s).takeWhile Za8).length < (bytes s).length) :
 Calls Tryz.prog 157 #[.string s, .string ⟨#[47]⟩] w (RetV w (.tuple #[.string s, .string ⟨#[]⟩, .bool false])):=by
 refine Zas (Φ:=fun w=>True) Tryz.func157 rfl (by kernel_rfl) (fun w' hf=>trivial) ?_
 refine Zac (Zab (xr 3 [(0, .v (.string s)),(1, .v (.string ⟨#[47]⟩)),(4, .v (.string ⟨#[]⟩)),(5, .v (.string ⟨#[]⟩)),(6, .v (.bool false))] [] ?_))
 refine xe (Zaa (Zac (Zab (xr 2 [(4, .v (.string ⟨#[]⟩)),(5, .v (.string ⟨#[]⟩)),(6, .v (.bool false)),(7, .v (.string s)),(8, .v (.string ⟨#[47]⟩))] [] ?_))))
 refine xc 193 [.string s, .string ⟨#[47]⟩] 9 (fun _:Unit=>.tuple #[.string s, .string ⟨#[]⟩, .bool false]) _ (fun w R Q=>(Zme s _ hlt').mono (fun _ _ h=>Zam h rfl)) (fun xx=>?_)
 refine xr 6 [(4, .v (.string s)),(5, .v (.string ⟨#[]⟩)),(6, .v (.bool false))] [] ?_
 refine xe (Zaa (Zag ?_))
 refine Zaf (v:=.tuple #[.string s, .string ⟨#[]⟩, .bool false]) (by kernel_rfl) (fun w' R Q=>?_)
 exact ⟨rfl,R⟩
theorem ZnP (s:ByteArray) (w:World) (hg:Glob w) (hs:(bytes s).length≤570) :
 Calls Tryz.prog 109 #[.string s] w (RetV w (.tuple #[.string ⟨(Lib.itoa (valF (bytes s)).num).toArray⟩, .string ⟨(Lib.itoa ((valF (bytes s)).den:Int)).toArray⟩])):=by
 refine Zas (Φ:=fun w=>Glob w) Tryz.func109 rfl (by kernel_rfl) (fun w' hf=>hg.ext hf) ?_
 refine Zac (Zab (xr 2 [(0, .v (.string s)),(2, .v (.string ⟨#[]⟩)),(3, .v (.string ⟨#[]⟩))] [] ?_))
 refine xe (Zaa (Zac (Zac (Zab (xr 1 [(0, .v (.string s)),(2, .v (.string ⟨#[]⟩)),(3, .v (.string ⟨#[]⟩)),(7, .v (.string s))] [] ?_)))))
 by_cases hv:(Za0 (bytes s)).isSome=true
 ·obtain ⟨q,hq⟩:=Option.isSome_iff_exists.1 hv
  have hV:=Zez hq
  refine xc 61 [.string s] 8 (fun _:Unit=>.bool true) _ (fun w R Q=>(ZdT s _ Q hs).mono (fun _ _ h=>Zam h (by rw [hv]))) (fun xx=>?_)
  refine xr 1 [(0, .v (.string s)),(2, .v (.string ⟨#[]⟩)),(3, .v (.string ⟨#[]⟩)),(9, .v (.bool false))] [] ?_
  refine xe (Zaa (xb (Zal (Zaa (Zac (Zab (xr 1 [(2, .v (.string ⟨#[]⟩)),(3, .v (.string ⟨#[]⟩)),(11, .v (.string s))] [] ?_)))))))
  by_cases hd1:q.den=1
  ·refine xc 157 [.string s, .string ⟨#[47]⟩] 12 (fun _:Unit=>.tuple #[.string s, .string ⟨#[]⟩, .bool false]) _ (fun w R Q=>(Zpb s _ (by have:=(Zkb hq hd1).2; omega)).mono (fun _ _ h=>Zam h rfl)) (fun xx=>?_)
   refine xr 7 [(2, .v (.string ⟨#[]⟩)),(3, .v (.string ⟨#[]⟩)),(4, .v (.string s)),(5, .v (.string ⟨#[]⟩)),(6, .v (.bool false))] [] ?_
   refine xe (Zaa (Zac (Zac (Zab (xr 2 [(2, .v (.string ⟨#[]⟩)),(3, .v (.string ⟨#[]⟩)),(4, .v (.string s)),(5, .v (.string ⟨#[]⟩)),(17, .v (.bool true))] [] ?_)))))
   refine xe (Zaa (xa (Zac (Zab (xr 3 [(2, .v (.string s)),(3, .v (.string ⟨#[49]⟩)),(4, .v (.string s)),(5, .v (.string ⟨#[]⟩))] [] ?_)))))
   refine xe (Zaa (Zag (Zai ?_)))
   refine Zaf (v:=.tuple #[.string s, .string ⟨#[49]⟩]) (by kernel_rfl) (fun w' R Q=>?_)
   exact ⟨by rw [hV,hd1,← (Zkb hq hd1).1]; exact Zmd s,R⟩
  ·obtain ⟨e1,e2,e3⟩:=Zo9 hq hd1
   obtain ⟨p,hp⟩:∃ p,p=((bytes s).takeWhile Za8).length:=⟨_,rfl⟩
   rw [← hp] at e2 e3
   have hpl:p < s.size:=by rw [← Zaq]; exact e3
   obtain ⟨x,hx⟩:∃ x,s.extract 0 p=x:=⟨_,rfl⟩
   obtain ⟨y,hy⟩:∃ y,s.extract (p + 1) s.size=y:=⟨_,rfl⟩
   have hX:x=⟨(Lib.itoa (q.num)).toArray⟩:=Zjv (by rw [← hx,(Zo8 hp).1,e1,Zcm])
   have hY:y=⟨(Lib.itoa (q.den:Int)).toArray⟩:=Zjv (by rw [← hy,(Zo8 hp).2,e2,Zcm])
   refine xc 157 [.string s, .string ⟨#[47]⟩] 12 (fun _:Unit=>.tuple #[.string x, .string y, .bool true]) _ (fun w R Q=>(ZnO s x y p _ (by rw [← Zaq]; omega) hp hpl hx hy).mono (fun _ _ h=>Zam h rfl)) (fun xx=>?_)
   refine xr 7 [(2, .v (.string ⟨#[]⟩)),(3, .v (.string ⟨#[]⟩)),(4, .v (.string x)),(5, .v (.string y)),(6, .v (.bool true))] [] ?_
   refine xe (Zaa (Zac (Zac (Zab (xr 2 [(2, .v (.string ⟨#[]⟩)),(3, .v (.string ⟨#[]⟩)),(4, .v (.string x)),(5, .v (.string y)),(17, .v (.bool false))] [] ?_)))))
   refine xe (Zaa (xb (Zal (Zaa (Zac (Zab (xr 4 [(2, .v (.string x)),(3, .v (.string y))] [] ?_)))))))
   refine xe (Zaa (Zag ?_))
   refine Zaf (v:=.tuple #[.string x, .string y]) (by kernel_rfl) (fun w' R Q=>?_)
   exact ⟨by rw [hV,hX,hY],R⟩
 ·have hV:valF (bytes s)=0:=Zo0 (by cases h:Za0 (bytes s) with | none=>rfl | some q=>rw [h] at hv; exact absurd rfl hv)
  refine xc 61 [.string s] 8 (fun _:Unit=>.bool false) _ (fun w R Q=>(ZdT s _ Q hs).mono (fun _ _ h=>Zam h (by rw [Bool.eq_false_iff.2 hv]))) (fun xx=>?_)
  refine xr 1 [(0, .v (.string s)),(2, .v (.string ⟨#[]⟩)),(3, .v (.string ⟨#[]⟩)),(9, .v (.bool true))] [] ?_
  refine xe (Zaa (xa (Zac (Zab (xr 2 [(0, .v (.string s)),(2, .v (.string ⟨#[48]⟩)),(3, .v (.string ⟨#[49]⟩))] [] ?_)))))
  refine xe (Zaa (Zag (Zai ?_)))
  refine Zaf (v:=.tuple #[.string ⟨#[48]⟩, .string ⟨#[49]⟩]) (by kernel_rfl) (fun w' R Q=>?_)
  exact ⟨by rw [hV]; exact ZnN,R⟩
end Go.Proofs.YtenchljfmfgeoaaGreatDoor

namespace Go.Proofs.YtenchljfmfgeoaaGreatDoor
open Go.RowKit
def ZmL (s:ByteArray) (w:World) (e:Ending) (w':World):Prop:=∃ (r:ByteArray) (neg:Bool),e=.returned (.tuple #[.bool neg, .string r])∧Zaz (bytes s)=(neg,bytes r)∧Ext w w'
def Zi8 (x:ByteArray × Bool):Value:=.tuple #[.bool x.2, .string x.1]
theorem Zhq {s:ByteArray} {w w':World} {e:Ending} (h:ZmL s w e w'):ZbA Zi8 (fun x _=>Zaz (bytes s)=(x.2,bytes x.1)) w e w':=by
 obtain ⟨r,neg,rfl,h,Q⟩:=h
 exact ⟨(r,neg),rfl,Q,BoxN.pure h⟩
theorem Zqj {t:ByteArray} {i:Nat} {c:UInt8} (hI:((bytes t).take i).all Zav=true) (hc:t[i]? = some c) (h1:¬ (c.toNat:Int) < 48) (h2:¬ (c.toNat:Int) > 57):((bytes t).take (i + 1)).all Zav=true:=by
 have hi:i < t.size:=by
  rcases Nat.lt_or_ge i t.size with h' | h'
  ·exact h'
  ·rw [getElem?_neg t i (by omega)] at hc; cases hc
 have hc':t[i]=c:=by
  rw [getElem?_pos t i hi] at hc
  injection hc
 rw [Zfl _ _ hi,List.all_append,hI,hc']
 have:Zav c=true:=by unfold Zav; simp; omega
 simp [this]
theorem ZmM {t:ByteArray} {i:Nat} {c:UInt8} (hc:t[i]? = some c) (h:(c.toNat:Int) < 48∨(c.toNat:Int) > 57):¬ (bytes t).all Zav=true:=by
 have hi:i < t.size:=by
  rcases Nat.lt_or_ge i t.size with h' | h'
  ·exact h'
  ·rw [getElem?_neg t i (by omega)] at hc; cases hc
 have hc':t[i]=c:=by
  rw [getElem?_pos t i hi] at hc
  injection hc
 intro ha
 have hm:t[i] ∈ bytes t:=by
  rw [← Zii t hi]; exact List.getElem_mem _
 have:=Zdn (List.all_eq_true.1 ha _ hm)
 rw [hc'] at this
 unfold Zav at *
 have h2:=List.all_eq_true.1 ha _ hm
 rw [hc'] at h2
 simp at h2
 omega
section
variable {s r:ByteArray} {neg:Bool} {x:Int}
theorem ZsT (h:bytes s=[48]):fvB (bytes s) x=(x == 0):=by unfold fvB; rw [if_pos h]; rfl
theorem Zf4 (h:¬ bytes s=[48]) (hM:Zaz (bytes s)=(neg,bytes r)) (hb:bytes r=[]∨(bytes r).head? = some 48∨¬ okE x∨¬ (bytes r).all Zav=true):fvB (bytes s) x=false:=by
 unfold fvB
 rw [if_neg h,hM]
 refine decide_eq_false ?_
 rintro ⟨h1,h2,h3,h4,_⟩
 rcases hb with hb | hb | hb | hb
 ·exact h1 hb
 ·exact h2 hb
 ·exact hb h3
 ·exact hb h4
theorem ZrL {c c0:UInt8} (h:¬ bytes s=[48]) (hM:Zaz (bytes s)=(neg,bytes r)) (h0:r[0]? = some c0) (hz:¬ (c0.toNat:Int)=48) (h1:¬ x < -1048576) (h2:¬ x > 1048576) (hd:(bytes r).all Zav=true) {k:Nat} (hk:r.size=k + 1) (hc:r[k]? = some c):fvB (bytes s) x=(((c.toNat % 2:Nat):Int) == 1):=by
 have e:bytes r=(bytes r).take k ++ [c]:=by
  have h':k < r.size:=by omega
  have:=Zfl r k h'
  rw [List.take_of_length_le (by rw [Zaq]; omega)] at this
  rw [getElem?_pos r k h'] at hc
  injection hc with hc
  rw [hc] at this
  exact this
 have hp:Zak (bytes r) % 2=c.toNat % 2:=by
  rw [e] at hd ⊢
  exact Zqe hd
 have hh:(bytes r).head? = some c0:=by
  have h':0 < r.size:=by omega
  rw [getElem?_pos r 0 h'] at h0
  injection h0 with h0
  rw [← h0]; exact Zev h'
 unfold fvB
 rw [if_neg h,hM]
 have h8:c0.toNat≠48:=by omega
 show decide _=decide _
 refine decide_eq_decide.2 ⟨fun q=>?_,fun q=>⟨?_,?_,⟨by omega,by omega⟩,hd,?_⟩⟩
 ·have:=q.2.2.2.2
  show ((c.toNat % 2:Nat):Int)=1
  rw [hp] at this; omega
 ·intro e'
  have e2:bytes r=[]:=e'
  have:(bytes r).length=0:=by rw [e2]; rfl
  rw [Zaq] at this; omega
 ·rw [hh]; intro e; injection e with e; exact h8 (by rw [e]; rfl)
 ·have q':((c.toNat % 2:Nat):Int)=1:=q
  show Zak (bytes r) % 2=1
  rw [hp]; omega
end
theorem Zqk {P:Program} {o:Oper} {ρ:Operand→Value} {w:World} {t k:TypeId} {x y:Operand} {c:UInt8} (ho:o.op=Op.binOp .and t x y k) (hx:ρ x=.int .u8 (c.toNat:Int)) (hy:ρ y=.int .u8 1):(execOp ρ o).run P w=.ok (.value (.int .u8 ((c.toNat % 2:Nat):Int))) w:=by
 have h:bits .and .u8 (c.toNat:Int) 1=((c.toNat % 2:Nat):Int):=by
  have hc:=c.toNat_lt
  have h1:(BitVec.ofInt 8 (c.toNat:Int)).toNat=c.toNat:=by
   rw [BitVec.ofInt_natCast,BitVec.toNat_ofNat]; exact Nat.mod_eq_of_lt (by omega)
  show IntKind.u8.wrap ((BitVec.ofInt 8 (c.toNat:Int) &&& BitVec.ofInt 8 1).toNat:Int)=_
  rw [BitVec.toNat_and,h1,show (BitVec.ofInt 8 1).toNat=1 from rfl,Nat.and_one_is_mod,IntKind.wrap_u8]; omega
 rw [← h]
 simp only [execOp,ho,hx,hy,eqGuard,binOp]
 rfl
theorem Zhr (s:ByteArray) (w:World) :
 Calls Tryz.prog 70 #[.string s] w (ZmL s w):=by
 refine Zas (Φ:=fun w=>True) Tryz.func70 rfl (by kernel_rfl) (fun w' hf=>trivial) ?_
 refine Zac (Zab (xr 2 [(0, .v (.string s)),(2, .v (.bool false)),(3, .v (.string ⟨#[]⟩))] [] ?_))
 refine xe (Zaa (Zac (Zab (xr 1 [(2, .v (.bool false)),(3, .v (.string ⟨#[]⟩)),(7, .v (.string s))] [] ?_))))
 refine xc 120 [.string s, .string ⟨#[45]⟩] 8 (fun x:ByteArray × Bool=>.tuple #[.string x.1, .bool x.2]) _ (fun w R Q=>(Zg9 s _).mono (fun _ _=>ZnK)) (fun xx=>?_)
 obtain ⟨r,neg⟩:=xx
 refine xr 5 [(2, .v (.bool false)),(3, .v (.string ⟨#[]⟩)),(4, .v (.string r)),(5, .v (.bool neg))] [] ?_
 refine xe (Zaa (Zac (Zab (xr 4 [(2, .v (.bool neg)),(3, .v (.string r))] [] ?_))))
 refine xe (Zaa (Zag ?_))
 refine Zaf (v:=.tuple #[.bool neg, .string r]) (by kernel_rfl) (fun w' R Q=>?_)
 exact ⟨r,neg,rfl,Q.2,R⟩
theorem ZgB (s:ByteArray) (x:Int) (w:World) (hs:(bytes s).length≤1000000) :
 Calls Tryz.prog 44 #[.agg #[.string s, .int .i64 x]] w (RetV w (.bool (fvB (bytes s) x))):=by
 refine Zas (Φ:=fun w=>True) Tryz.func44 rfl (by kernel_rfl) (fun w' hf=>trivial) ?_
 refine Zac (Zab (xq 2 [(1, .p 1 0),(2, .v (.bool false))] [(1,76,[.v (.string s), .v (.int .i64 x)])] ?_))
 refine xe (Zaa (Zac (Zac ?_)))
 by_cases h48:bytes s=[48]
 ·refine Zab (xq 3 [(8, .v (.bool ((s:ByteArray).toList == (⟨#[48]⟩:ByteArray).toList)))] [] ?_)
  rw [ZmG h48]
  refine xe (Zaa (xa (Zac (Zab (xq 4 [(2, .v (.bool ((x:Int) == 0)))] [] ?_)))))
  refine xe (Zaa (Zag (Zai ?_)))
  refine Zaf (v:=.bool ((x:Int) == 0)) (by kernel_rfl) (fun w' R Q=>?_)
  exact ⟨by rw [ZsT h48],R⟩
 ·refine Zab (xq 3 [(8, .v (.bool ((s:ByteArray).toList == (⟨#[48]⟩:ByteArray).toList)))] [] ?_)
  rw [ZmH h48]
  refine xe (Zaa (xb (Zal (Zaa (Zac (Zab (xq 2 [(14, .v (.string s))] [] ?_)))))))
  refine xqc 70 [.string s] 15 Zi8 _ (fun w R Q=>(Zhr s _).mono (fun _ _=>Zhq)) (fun xx=>?_)
  obtain ⟨r,neg⟩:=xx
  refine xq 5 [(4, .v (.string r))] [] ?_
  refine xe (Zaa (Zac (Zac ?_)))
  refine SXc.know (p:=Zaz (bytes s)=(neg,bytes r)) (fun w _ Q=>Q.2) (fun HM=>?_)
  have hrl:r.size≤1000000:=by have:=ZjZ HM; rw [Zaq] at this; omega
  by_cases he:bytes r=[]
  ·refine Zab (xq 2 [(19, .v (.bool ((r:ByteArray).toList == (⟨#[]⟩:ByteArray).toList)))] [] ?_)
   rw [ZmE he]
   refine xq 15 [(34, .v (.bool true))] [] ?_
   refine xe (Zaa (xa (Zac (Zab (xq 1 [(2, .v (.bool false))] [] ?_)))))
   refine xe (Zaa (Zag (Zai ?_)))
   refine Zaf (v:=.bool false) (by kernel_rfl) (fun w' R Q=>?_)
   exact ⟨by rw [Zf4 h48 HM (Or.inl he)],R⟩
  ·obtain ⟨c0,h0,hc0⟩:=Zqh he
   have hs0:=Zqi he
   refine Zab (xq 2 [(19, .v (.bool ((r:ByteArray).toList == (⟨#[]⟩:ByteArray).toList)))] [] ?_)
   rw [ZmF he]
   refine xq 2 [(20, .v (.bool false)),(21, .v (.string r))] [] ?_
   refine xqk 22 (.int .u8 (c0.toNat:Int)) (fun w R Q=>ZdB (t:=9) (x:=.tmp 21) (k:=0) (i:=.const (.int .i64 0)) (by kernel_rfl) (by kernel_rfl) (by kernel_rfl) (by rfl) hc0) ?_
   refine xq 3 [(25, .v (.bool (((c0.toNat:Int):Int) == 48)))] [] ?_
   rcases bl2 ((((c0.toNat:Int):Int) == 48)) with hb10 | hb10
   ·rw [hb10]
    have hb10':=beq_iff_eq.1 hb10
    refine xq 9 [(34, .v (.bool true))] [] ?_
    refine xe (Zaa (xa (Zac (Zab (xq 1 [(2, .v (.bool false))] [] ?_)))))
    refine xe (Zaa (Zag (Zai ?_)))
    refine Zaf (v:=.bool false) (by kernel_rfl) (fun w' R Q=>?_)
    exact ⟨by rw [Zf4 h48 HM (Or.inr (Or.inl (by rw [h0,show c0=48 from UInt8.toNat_inj.1 (by show c0.toNat=48; omega)])))],R⟩
   ·rw [hb10]
    have hb10':=Zbh hb10
    refine xq 5 [(30, .v (.bool (decide (x < (-1048576)))))] [] ?_
    rcases bl2 ((decide (x < (-1048576)))) with hb11 | hb11
    ·rw [hb11]
     have hb11':=of_decide_eq_true hb11
     refine xq 4 [(34, .v (.bool true))] [] ?_
     refine xe (Zaa (xa (Zac (Zab (xq 1 [(2, .v (.bool false))] [] ?_)))))
     refine xe (Zaa (Zag (Zai ?_)))
     refine Zaf (v:=.bool false) (by kernel_rfl) (fun w' R Q=>?_)
     exact ⟨by rw [Zf4 h48 HM (Or.inr (Or.inr (Or.inl (by rintro ⟨h1,h2⟩; omega))))],R⟩
    ·rw [hb11]
     have hb11':=of_decide_eq_false hb11
     refine xq 4 [(34, .v (.bool (decide (x > 1048576))))] [] ?_
     refine xe (Zaa ?_)
     refine Zap ((decide (x > 1048576))) (by kernel_rfl) (fun hb12=>?_) (fun hb12=>?_)
     ·have hb12':=of_decide_eq_true hb12
      refine Zac (Zab (xq 1 [(2, .v (.bool false))] [] ?_))
      refine xe (Zaa (Zag (Zai ?_)))
      refine Zaf (v:=.bool false) (by kernel_rfl) (fun w' R Q=>?_)
      exact ⟨by rw [Zf4 h48 HM (Or.inr (Or.inr (Or.inl (by rintro ⟨h1,h2⟩; omega))))],R⟩
     ·have hb12':=of_decide_eq_false hb12
      refine Zal (Zaa (Zac (Zac (Zab (xq 3 [(36, .v (.int .i64 ((r).size:Int))),(37, .v (.int .i64 0))] [] ?_)))))
      refine xe (Zaa (Zar ?_))
      refine SXc.weak [(2, .v (.bool false)),(4, .v (.string r)),(36, .v (.int .i64 ((r).size:Int))),(37, .v (.int .i64 ((0:Nat):Int)))] [] (Ψ:=fun w=>True) (Zax.of (by kernel_rfl)) (by kernel_rfl) (fun w Q=>trivial) ?_
      refine ZaR (fun nn ss ff=>∃ (k:Nat),ss=ofL [(2, .v (.bool false)),(4, .v (.string r)),(36, .v (.int .i64 ((r).size:Int))),(37, .v (.int .i64 ((k:Nat):Int)))] []∧ff=(fun w=>True)∧(k≤r.size)∧(((bytes r).take k).all Zav=true)∧nn=(r.size - k)) ((r.size - 0)) ⟨0,rfl,rfl,(Nat.zero_le _),rfl,rfl⟩ ?_
      rintro nn ss ff ⟨k,rfl,rfl,hk,HD,rfl⟩
      refine Zac (Zab (xq 1 [(38, .v (.bool (decide (((k:Nat):Int) < ((r).size:Int)))))] [] ?_))
      refine xe (Zaa (Zac ?_))
      refine Zap ((decide (((k:Nat):Int) < ((r).size:Int)))) (by kernel_rfl) (fun hb13=>?_) (fun hb13=>?_)
      ·have hb13':=of_decide_eq_true hb13
       have hlt:k < r.size:=by omega
       obtain ⟨c,hc⟩:∃ c,r[k]? = some c:=⟨r[k],by simp [hlt]⟩
       refine Zal (Zaa (Zac (Zar (Zac (Zab (xq 2 [(5, .v (.int .i64 ((k:Nat):Int)))] [] ?_))))))
       refine xe (Zaa (Zac (Zab (xq 2 [(40, .v (.string r)),(41, .v (.int .i64 ((k:Nat):Int)))] [] ?_))))
       refine xqk 42 (.int .u8 (c.toNat:Int)) (fun w R Q=>ZdB (t:=9) (x:=.tmp 40) (k:=k) (i:=.tmp 41) (by kernel_rfl) (by kernel_rfl) (by kernel_rfl) (by kernel_rfl) hc) ?_
       refine xq 2 [(44, .v (.bool (decide ((c.toNat:Int) < 48))))] [] ?_
       rcases bl2 ((decide ((c.toNat:Int) < 48))) with hb14 | hb14
       ·rw [hb14]
        have hb14':=of_decide_eq_true hb14
        refine xq 5 [(49, .v (.bool true))] [] ?_
        refine xe (Zaa (xa (Zac (Zab (xq 1 [(2, .v (.bool false))] [] ?_)))))
        refine xe (Zaa (Zag (ZaQ (Zai (Zai (ZaQ (Zai ?_)))))))
        refine Zaf (v:=.bool false) (by kernel_rfl) (fun w' R Q=>?_)
        exact ⟨by rw [Zf4 h48 HM (Or.inr (Or.inr (Or.inr (ZmM hc (by omega)))))],R⟩
       ·rw [hb14]
        have hb14':=of_decide_eq_false hb14
        refine xq 2 [(45, .v (.string r)),(46, .v (.int .i64 ((k:Nat):Int)))] [] ?_
        refine xqk 47 (.int .u8 (c.toNat:Int)) (fun w R Q=>ZdB (t:=9) (x:=.tmp 45) (k:=k) (i:=.tmp 46) (by kernel_rfl) (by kernel_rfl) (by kernel_rfl) (by kernel_rfl) hc) ?_
        refine xq 2 [(49, .v (.bool (decide ((c.toNat:Int) > 57))))] [] ?_
        refine xe (Zaa ?_)
        refine Zap ((decide ((c.toNat:Int) > 57))) (by kernel_rfl) (fun hb15=>?_) (fun hb15=>?_)
        ·have hb15':=of_decide_eq_true hb15
         refine Zac (Zab (xq 1 [(2, .v (.bool false))] [] ?_))
         refine xe (Zaa (Zag (ZaQ (Zai (Zai (ZaQ (Zai ?_)))))))
         refine Zaf (v:=.bool false) (by kernel_rfl) (fun w' R Q=>?_)
         exact ⟨by rw [Zf4 h48 HM (Or.inr (Or.inr (Or.inr (ZmM hc (by omega)))))],R⟩
        ·have hb15':=of_decide_eq_false hb15
         refine Zal (ZaO (Zaa (Zab (xq 1 [(50, .v (.int .i64 (IntKind.i64.wrap (((k:Nat):Int) + 1))))] [] ?_))))
         rw [show IntKind.i64.wrap (((k:Nat):Int) + 1)=((k + 1:Nat):Int) from by rw [IntKind.wrap_i64]; omega]
         refine xq 1 [(37, .v (.int .i64 ((k + 1:Nat):Int)))] [] ?_
         refine xe ?_
         refine SXq.weak [(2, .v (.bool false)),(4, .v (.string r)),(36, .v (.int .i64 ((r).size:Int))),(37, .v (.int .i64 (((k + 1):Nat):Int)))] [] (Ψ:=fun w=>True) (Zax.of (by kernel_rfl)) (by kernel_rfl) (fun w Q=>trivial) ?_
         exact ZaF ((r.size - (k + 1))) (by omega) ⟨(k + 1),rfl,rfl,hlt,(Zqj HD hc (by omega) (by omega)),rfl⟩
      ·have hb13':=of_decide_eq_false hb13
       have hall:(bytes r).all Zav=true:=by have h:=HD; rw [List.take_of_length_le (by rw [Zaq]; omega)] at h; exact h
       refine ZaM (Zaj (Zaj (ZaV (Zaa (Zac ?_)))))
       obtain ⟨k1,hk1⟩:∃ k1,r.size=k1 + 1:=⟨r.size - 1,by omega⟩
       obtain ⟨c,hc⟩:∃ c,r[k1]? = some c:=⟨r[k1],by simp [hk1]⟩
       refine Zab (xq 4 [(51, .v (.string r)),(54, .v (.int .i64 (IntKind.i64.wrap (((r).size:Int) - 1))))] [] ?_)
       rw [show IntKind.i64.wrap ((r.size:Int) - 1)=((k1:Nat):Int) from by rw [IntKind.wrap_i64]; omega]
       refine xqk 55 (.int .u8 (c.toNat:Int)) (fun w R Q=>ZdB (t:=9) (x:=.tmp 51) (k:=k1) (i:=.tmp 54) (by kernel_rfl) (by kernel_rfl) (by kernel_rfl) (by kernel_rfl) hc) ?_
       refine xqk 56 (.int .u8 ((c.toNat % 2:Nat):Int)) (fun w R Q=>Zqk (t:=5) (k:=5) (x:=.tmp 55) (y:=.const (.int .u8 1)) (by kernel_rfl) (by kernel_rfl) (by kernel_rfl)) ?_
       refine xq 2 [(2, .v (.bool ((((c.toNat % 2:Nat):Int):Int) == 1)))] [] ?_
       refine xe (Zaa (Zag ?_))
       refine Zaf (v:=.bool ((((c.toNat % 2:Nat):Int):Int) == 1)) (by kernel_rfl) (fun w' R Q=>?_)
       exact ⟨by rw [ZrL h48 HM hc0 (by omega) (by omega) (by omega) hall hk1 hc],R⟩
theorem Zh8 (b:Int) (w:World) :
 Calls Tryz.prog 62 #[.int .i64 b] w (RetV w (.bool (decide (8≤b∧b≤1024)))):=by
 refine Zas (Φ:=fun w=>True) Tryz.func62 rfl (by kernel_rfl) (fun w' hf=>trivial) ?_
 refine Zac (Zab (xq 1 [(2, .v (.bool false))] [] ?_))
 refine xe (Zaa (Zac (Zab (xq 3 [(5, .v (.bool (decide (b ≥ 8))))] [] ?_))))
 rcases bl2 ((decide (b ≥ 8))) with hb10 | hb10
 ·rw [hb10]
  have hb10':=of_decide_eq_true hb10
  refine xq 4 [(2, .v (.bool (decide (b≤1024))))] [] ?_
  refine xe (Zaa (Zag ?_))
  refine Zaf (v:=.bool (decide (b≤1024))) (by kernel_rfl) (fun w' R Q=>?_)
  exact ⟨congrArg (fun b=>Ending.returned (Value.bool b)) (decide_eq_decide.2 ⟨fun h=>⟨by omega,h⟩,fun h=>h.2⟩),R⟩
 ·rw [hb10]
  have hb10':=of_decide_eq_false hb10
  refine xq 4 [(2, .v (.bool false))] [] ?_
  refine xe (Zaa (Zag ?_))
  refine Zaf (v:=.bool false) (by kernel_rfl) (fun w' R Q=>?_)
  exact ⟨by rw [decide_eq_false (p:=8≤b∧b≤1024) (by omega)],R⟩
end Go.Proofs.YtenchljfmfgeoaaGreatDoor

namespace Go.Proofs.YtenchljfmfgeoaaGreatDoor
open Go.RowKit Go.Sort
def Ze9 (w:World) (l:List UInt8) (e:Ending) (w':World):Prop:=e=.returned (.string ⟨l.toArray⟩)∧Ext w w'
set_option maxHeartbeats 2000000 in
theorem ZgS (u:Nat) (w:World) (hu:u < 100) :
 Calls Tryz.prog 176 #[.int .u64 (u:Int), .int .i64 10] w (Ze9 w (Lib.decDigits u)):=by
 have iu:(u:Int) < 100:=by omega
 go_enter Tryz.func176,Tryz.ntmps176
 go_wp2_with (go_at_call 201; refine (Tryz.internal_strconv_small u hu _).mono ?_; rintro e w' ⟨rfl,rfl⟩)
 go_ret
 exact ⟨rfl,Fr.refl _ _⟩
set_option maxHeartbeats 4000000 in
theorem ZhT (u nd:Nat) (w:World) (hg:Glob w) (hu:100≤u) (hu64:u < 18446744073709551616) (hnd:Lib.nDigits u=nd) :
 Calls Tryz.prog 176 #[.int .u64 (u:Int), .int .i64 10] w (Ze9 w (Lib.decDigits u)):=by
 have hlen:=Zla u (by rw [Zan]; exact hu64)
 have hln:=Lib.decDigits_length u
 rw [hnd] at hln
 rw [hln] at hlen
 have hal:Tryz.prog.arrayLen 247=24:=by simp [Program.arrayLen,Tryz.underlying247]
 have hsl:∀ W,(Instr.sliceAt 247 (.pointer (some ⟨w.heap.size,0,none⟩)) none (some (.int .i64 (nd:Int))) none).run Tryz.prog W=.ok (.slice (some ⟨w.heap.size,0,none⟩) nd 24) W:=fun W=>by
  rw [run_sliceAt_array_h W 247 ⟨w.heap.size,0,none⟩ (by simp [Program.arrayLen,Program.elem,Tryz.underlying247]) .i64 (nd:Int) (by omega) (by rw [hal]; omega)]
  go_simp
 have hH0:=Lib.holds_zero0 w 247 nd (by omega)
 have hfmt:=Tryz.internal_strconv_formatBase10 w.heap.size 0 24 u (Array.replicate nd 0) (w.alloc (.cells Lib.zeros24 247)) hH0 (by rw [Array.size_replicate,← hnd]; exact Lib.lt_pow_nDigits u) hu64 (by rw [Array.size_replicate]; omega)
 have hnum:=Tryz.internal_strconv_numDigits u (by omega) hu64 (w.alloc (.cells Lib.zeros24 247)) (Lib.tabIs_alloc hg.1 _)
 rw [Array.size_replicate] at hfmt
 rw [hnd] at hnum
 have HH0:=zh hH0
 have HD:=zh hln
 have HND:=zh hnd
 have iu:(100:Int)≤(u:Int):=by omega
 clear hH0 hal hln hnd hg
 go_enter Tryz.func176,Tryz.ntmps176
 go_wp2_with (go_at_call 202; refine hnum.mono ?_; rintro e w' ⟨rfl,rfl⟩)
 go_at_call 203
 refine hfmt.mono ?_
 rintro e w' ⟨rfl,k,v',dk,rfl,hF⟩
 have hcv:(convert 191 9 (.slice (some ⟨w.heap.size,0,none⟩) nd 24)).run Tryz.prog ((putRow (fun (b:UInt8)=>Value.int .u8 (b.toNat:Int)) (w.alloc (.cells Lib.zeros24 247)) w.heap.size 0 dk).drewN k)=.ok (.string ⟨(Lib.decDigits u).toArray⟩) ((putRow (fun (b:UInt8)=>Value.int .u8 (b.toNat:Int)) (w.alloc (.cells Lib.zeros24 247)) w.heap.size 0 dk).drewN k):=by
  have h:=run_convert_bytes_back (P:=Tryz.prog) ((putRow (fun (b:UInt8)=>Value.int .u8 (b.toNat:Int)) (w.alloc (.cells Lib.zeros24 247)) w.heap.size 0 dk).drewN k) 191 9 5 ⟨w.heap.size,0,none⟩ 24 (Lib.decDigits u) Tryz.underlying191 Tryz.underlying5 Tryz.underlying9 (fun j hj=>by
   rw [Lib.row_is_numeral (by rw [HND.out]; exact hF) j hj,Lib.add_plain,World.cell?_drewN]
   exact cell?_putRow (fun (b:UInt8)=>Value.int .u8 (b.toNat:Int)) _ w.heap.size 0 _ dk HH0.out (by rw [hF.size,Array.size_replicate]) j (by rw [hF.size]; rw [HD.out] at hj; exact hj))
  rw [HD.out] at h
  exact h
 obtain ⟨os,eo⟩:=Lib.fin_at w (.cells Lib.zeros24 247) dk k 0
 have Q:Ext w ((putRow (fun (b:UInt8)=>Value.int .u8 (b.toNat:Int)) (w.alloc (.cells Lib.zeros24 247)) w.heap.size 0 dk).drewN k):=by
  rw [eo]; exact Fr.ofBelow (Lib.below_grow _ w (Nat.le_refl _) k os)
 generalize (putRow (fun (b:UInt8)=>Value.int .u8 (b.toNat:Int)) (w.alloc (.cells Lib.zeros24 247)) w.heap.size 0 dk).drewN k=w1 at Q hcv ⊢
 have HE:=zh Q
 clear Q eo hF hfmt hnum
 go_wp2
 go_ret
 exact ⟨rfl,HE.out⟩
set_option maxHeartbeats 1000000 in
theorem Zjw (u:Nat) (w:World) (hg:Glob w) (hu:u < W64) :
 Calls Tryz.prog 148 #[.int .u64 (u:Int), .int .i64 10] w (Ze9 w (Lib.decDigits u)):=by
 have h:Calls Tryz.prog 176 #[.int .u64 (u:Int), .int .i64 10] w (Ze9 w (Lib.decDigits u)):=by
  rcases Nat.lt_or_ge u 100 with h | h
  ·exact ZgS u w h
  ·exact ZhT u _ w hg h (by rw [Zan] at hu; exact hu) rfl
 have H:=zh h
 clear h hg hu
 go_enter Tryz.func148,Tryz.ntmps148
 go_wp2_with fail
 refine H.out.mono ?_
 rintro e w' ⟨rfl,Q⟩
 have HE:=zh Q
 clear Q
 go_wp2
 go_ret
 exact ⟨rfl,HE.out⟩
end Go.Proofs.YtenchljfmfgeoaaGreatDoor

namespace Go.Proofs.YtenchljfmfgeoaaGreatDoor
open Go.RowKit
def chV:List Nat→Nat
 | []=>0
 | c :: cs=>c + 10 ^ 19 * chV cs
theorem ZgD (c:Nat):∀ cs:List Nat,chV (cs ++ [c])=chV cs + (10 ^ 19) ^ cs.length * c
 | []=>by simp [chV]
 | d :: cs=>by
   show d + 10 ^ 19 * chV (cs ++ [c])=d + 10 ^ 19 * chV cs + (10 ^ 19) ^ (cs.length + 1) * c
   rw [ZgD c cs,Nat.pow_succ (m:=cs.length) (n:=10 ^ 19),Nat.mul_add,← Nat.mul_assoc,Nat.mul_comm (10 ^ 19) ((10 ^ 19) ^ cs.length),Nat.add_assoc]
structure ChR (n:Nat) (cs:List Nat) (r:Nat):Prop where
 eq:n=chV cs + (10 ^ 19) ^ cs.length * r
 lt:∀ c ∈ cs,c < 10 ^ 19
 top:r=0→cs≠[]→∃ l c,cs=l ++ [c]∧0 < c
theorem ChR.start (n:Nat):ChR n [] n:=⟨by simp [chV],fun c h=>by simp at h,fun _ h=>absurd rfl h⟩
theorem ChR.step {n r:Nat} {cs:List Nat} (h:ChR n cs r) (hr:0 < r):ChR n (cs ++ [r % 10 ^ 19]) (r / 10 ^ 19):=by
 refine ⟨?_,fun c hc=>?_,fun h0 _=>⟨cs,_,rfl,?_⟩⟩
 ·rw [ZgD,List.length_append,List.length_singleton,Nat.pow_succ (m:=cs.length) (n:=10 ^ 19),Nat.mul_assoc,Nat.add_assoc,← Nat.mul_add,Nat.mod_add_div]
  exact h.eq
 ·rcases List.mem_append.1 hc with h1 | h1
  ·exact h.lt c h1
  ·rw [List.mem_singleton.1 h1]; exact Nat.mod_lt _ (by decide)
 ·have h1:=Nat.mod_add_div r (10 ^ 19)
  rw [h0,Nat.mul_zero,Nat.add_zero] at h1
  omega
theorem ZmN {cs:List Nat} (h:∃ l c,cs=l ++ [c]∧0 < c):0 < chV cs:=by
 obtain ⟨l,c,rfl,hc⟩:=h
 rw [ZgD]
 have:=Nat.mul_pos (Nat.pow_pos (n:=l.length) (show 0 < 10 ^ 19 by decide)) hc
 omega
theorem Zly {cs:List Nat} {i:Nat} (hi:i < cs.length) (h:∃ l c,cs=l ++ [c]∧0 < c):∃ l c,cs.drop i=l ++ [c]∧0 < c:=by
 obtain ⟨l,c,rfl,hc⟩:=h
 rw [List.length_append,List.length_singleton] at hi
 exact ⟨l.drop i,c,List.drop_append_of_le_length (by omega),hc⟩
theorem Zql {cs:List Nat} {i c:Nat} (hi:i < cs.length) (hc:cs[i]?.getD 0=c) (hlt:∀ c ∈ cs,c < 10 ^ 19) (ht:∃ l c,cs=l ++ [c]∧0 < c) :
 ZaP (chV (cs.drop i))=if i + 1 < cs.length then ZaP (chV (cs.drop (i + 1))) ++ (List.replicate (19 - (Lib.decDigits c).length) 48 ++ Lib.decDigits c) else Lib.decDigits c:=by
 have hd:cs.drop i=c :: cs.drop (i + 1):=by
  rw [List.drop_eq_getElem_cons hi]
  rw [List.getElem?_eq_getElem hi] at hc
  simp only [Option.getD_some] at hc
  rw [hc]
 have hcl:c < 10 ^ 19:=by
  rw [List.getElem?_eq_getElem hi] at hc
  simp only [Option.getD_some] at hc
  rw [← hc]; exact hlt _ (List.getElem_mem hi)
 rw [hd]
 show ZaP (c + 10 ^ 19 * chV (cs.drop (i + 1)))=_
 by_cases h:i + 1 < cs.length
 ·rw [if_pos h,Nat.add_comm,Nat.mul_comm,Zkr (ZmN (Zly h ht)) 19 c hcl,Zqa (by omega) hcl]
 ·rw [if_neg h,List.drop_of_length_le (by omega)]
  show ZaP (c + 10 ^ 19 * 0)=_
  have h1:=ZmN (Zly hi ht)
  rw [hd,List.drop_of_length_le (by omega)] at h1
  rw [Nat.mul_zero,Nat.add_zero]
  exact ZbO (by simp [chV] at h1; omega)
end Go.Proofs.YtenchljfmfgeoaaGreatDoor
