/-
 My texts Fnd, FlS, FlN, Nu, Nq, Nv, Nad, RStr, Frac, Rt, FlT, Reduce, Whole, Ra, Reduce2, Ts, Fs, Cmp, Tx, Dc, Len, Vl, PaM, Pa, Px, Gq, Nf, Nt, Nd, Len2, Nrd, RdK, Nm, Pt, Nw put together.
-/
import Derived.Test.YtklpdkpcocnglaaGreatDoorV16
import Derived.Test.YtklpdkpcocnglaaGreatDoorV07
import Derived.Test.YtklpdkpcocnglaaGreatDoorV15
import Derived.Test.YtklpdkpcocnglaaGreatDoorV02
import Derived.Lib.Bytealg
set_option maxRecDepth 100000
namespace Go.Proofs.YtklpdkpcocnglaaGreatDoor
open Go.RowKit
noncomputable def wds (n:Nat):List Nat:=if _h:n=0 then [] else (n % W64) :: wds (n / W64)
termination_by n
decreasing_by exact Nat.div_lt_self (by omega) Zc1
theorem Zdl:∀ n,Dig W64 (wds n)∧val W64 (wds n)=n:=by
 intro n
 induction n using Nat.strongRecOn with
 | ind n ih =>
   rw [wds]
   split
   ·rename_i h; exact ⟨Dig.nil,by simp [h]⟩
   ·rename_i h
    obtain ⟨h1,h2⟩:=ih (n / W64) (Nat.div_lt_self (by omega) Zc1)
    exact ⟨h1.cons (Nat.mod_lt _ Zan),by rw [Zcr,h2]; exact Nat.mod_add_div _ _⟩
theorem ZjF:∀ n,Trim (wds n):=by
 intro n
 induction n using Nat.strongRecOn with
 | ind n ih =>
   rw [wds]
   split
   ·exact Trim.nil
   ·rename_i h
    have h1:=ih (n / W64) (Nat.div_lt_self (by omega) Zc1)
    intro k hk
    rcases Nat.eq_zero_or_pos (n / W64) with e | e
    ·rw [e,wds,dif_pos rfl] at hk ⊢
     simp at hk
     subst hk
     have:=Nat.mod_add_div n W64
     rw [e] at this
     simp; omega
    ·obtain ⟨m,rfl⟩:∃ m,k=m + 1:=⟨k - 1,by
      have:wds (n / W64)≠[]:=fun e'=>by have:=(Zdl (n / W64)).2; rw [e'] at this; simp at this; omega
      have:=List.length_pos_iff.2 this
      simp at hk; omega⟩
     have:=h1 m (by simpa using hk)
     simpa using this
theorem Zrm {xs:List Nat} {n:Nat} (hd:Dig W64 xs) (ht:Trim xs) (hv:val W64 xs=n):xs=wds n:=ZmG Zc1 hd (Zdl n).1 ht (ZjF n) (hv.trans (Zdl n).2.symm)
theorem Zo9 (n:Nat):(wds n).length=wl n:=by rw [ZaN (Zdl n).1 (ZjF n),(Zdl n).2]
theorem Zal.shows {w:World} {A:Option Addr} {l c n:Nat} (h:Zal w (.slice A l c) n):Zae .u64 w A (wds n):=by
 obtain ⟨A',xs,c',e,h1,h2,h3,h4,h5⟩:=h
 injection e with e1 e2 e3
 subst e1
 rw [← Zrm h3 h4 h5]; exact h2
theorem Zal.lens {w:World} {A:Option Addr} {l c n:Nat} (h:Zal w (.slice A l c) n):l=(wds n).length∧(wds n).length≤c:=by
 obtain ⟨A',xs,c',e,h1,h2,h3,h4,h5⟩:=h
 injection e with e1 e2 e3
 subst e3
 rw [← Zrm h3 h4 h5]; exact ⟨e2,h1⟩
theorem Zae.lt {k:IntKind} {w:World} {A:Option Addr} {xs:List Nat} (h:Zae k w A xs) (hne:0 < xs.length) {a:Addr} (ha:A=some a):a.block < w.heap.size:=by
 obtain ⟨b,o,e,hb,_⟩:=h.at hne
 rw [ha] at e; injection e with e; rw [e]; exact hb
/-! ### Clone -/
theorem ZtE (w:World) (a:Option Addr) (n c:Nat):(binOp .eql 77 (.slice a n c) (.slice none 0 0)).run Tryz.prog w=.ok (.bool a.isNone) w :=
 Lib.run_eql_slice_nil w 77 94 a n c 0 0 Tryz.underlying77
set_option maxHeartbeats 1000000 in
theorem Zp8 (A:Option Addr) (xs:List Nat) (n c:Nat) (w:World) (hn:xs.length=n) (hX:Zae .u64 w A xs) (hl:n≤4294967296) :
 Calls Tryz.prog 107 #[.slice A n c] w (ZmK w xs):=by
 have HX:=zh hX
 have HN:=zh hn
 clear hX hn
 have hnil:=ZtE
 cases A with
 | none =>
   have h0:Hid (xs=[]):=by
    rcases xs with _ | ⟨y,ys⟩
    ·rfl
    ·obtain ⟨b,off,h,_⟩:=HX.out (by simp); cases h
   go_enter Tryz.func107,Tryz.ntmps107
   go_wp2
   go_ret
   rw [h0.out]
   exact ⟨none,0,rfl,Buf.nil,Fr.refl _ _,fun b hb=>by obtain ⟨a,ha,_⟩:=hb; cases ha⟩
 | some ad =>
   go_enter Tryz.func107,Tryz.ntmps107
   go_wp2_with (at_builtin
                refine Za6 rfl _ _ _ rfl _ .u64 8 Tryz.underlying77 Zdo (some ⟨w.heap.size,0,none⟩) (some ad) 0 n 0 c rfl rfl [] xs rfl HN.out ?_ (HX.out.alloc _) (by simp only [maxLen]; omega) (by omega) ?_
                ·exact Or.inr ⟨_,rfl,Own.new w _ _ [] [],⟨#[],heap_alloc_new w _,rfl⟩,Nat.le_refl _,by simp only [maxLen]; omega⟩
                intro A1 cap1 w1 hB1 hF1 hA1
                have HB1:=zh hB1
                have HF1:=zh hF1
                have HA1:=zh hA1
                clear hB1 hF1 hA1)
   go_ret
   refine ⟨A1,cap1,?_,by simpa using HB1.out,?_,?_⟩
   ·rw [HN.out]; simp
   ·refine ((Fr.refl (fun _=>False) w).alloc _).next HF1.out (fun i hi hb=>?_)
    obtain ⟨a,ha,hb⟩:=hb
    injection ha with ha
    subst ha
    simp at hb; omega
   ·intro b hb
    rcases HA1.out b hb with ⟨a,ha,h⟩ | h
    ·injection ha with ha; subst ha; simp at h; omega
    ·simp at h; omega
theorem Zky (A:Option Addr) (xs:List Nat) (c:Nat) (w:World) (hX:Zae .u64 w A xs) (hl:xs.length≤4294967296) (h0:0 < xs.length) :
 Calls Tryz.prog 107 #[.slice A xs.length c] w (fun en w'=>∃ b c,en=.returned (.slice (some ⟨b,0,none⟩) xs.length c)∧w.heap.size≤b∧xs.length≤c∧Ext w w'∧Own .u64 94 w' b xs):=by
 refine (Zp8 A xs xs.length c w rfl hX hl).mono ?_
 rintro e w' ⟨A1,cap,rfl,hB,Q,hb⟩
 rcases hB with ⟨_,h,_⟩ | ⟨b,rfl,hO,_,hc,_⟩
 ·rw [h] at h0; simp at h0
 ·exact ⟨b,cap,rfl,hb b ⟨_,rfl,rfl⟩,hc,Q,hO⟩
/-! ### compare,of numbers -/
/-! ### the long division -/
def OvR (N V n L k:Nat) (zs qs:List Nat):Prop:=zs.length=n∧Dig W64 zs∧qs.length=L∧Dig W64 qs∧val W64 zs + V * (W64 ^ k * val W64 (qs.drop k))=N∧val W64 zs < V * W64 ^ k
theorem OvR.start {N V n L:Nat} {zs:List Nat} (hn:zs.length=n) (hd:Dig W64 zs) (hv:val W64 zs=N) (hlt:N < V * W64 ^ L):OvR N V n L L zs (List.replicate L 0) :=
 ⟨hn,hd,by simp,Dig.replicate Zan _,by rw [List.drop_of_length_le (by simp)]; simpa using hv,by rw [hv]; exact hlt⟩
theorem Zsx {o n:Nat} {zs:List Nat} (ho:o + n + 1≤zs.length) (h:val W64 zs < W64 ^ (o + n + 1)):val W64 zs=val W64 (zs.take o) + W64 ^ o * win o n zs∧val W64 (zs.drop (o + n + 1))=0:=by
 have h1:=ZaK (B:=W64) (xs:=zs) (o + n + 1)
 rw [Nat.min_eq_left ho] at h1
 have h2:val W64 (zs.drop (o + n + 1))=0:=by
  refine Nat.eq_zero_of_not_pos fun h3=>?_
  have:=Nat.mul_le_mul_left (W64 ^ (o + n + 1)) h3
  omega
 rw [h2,Nat.mul_zero,Nat.add_zero,ZeX (by omega)] at h1
 exact ⟨h1,h2⟩
theorem OvR.ready {N V n L j m:Nat} {zs qs:List Nat} (h:OvR N V n L (j + 1) zs qs) (hV:V < W64 ^ m) (hj:j + m + 1≤n):val W64 zs=val W64 (zs.take j) + W64 ^ j * win j m zs∧val W64 (zs.drop (j + m + 1))=0∧win j m zs < W64 * V:=by
 obtain ⟨h1,h2,h3,h4,h5,h6⟩:=h
 have hb:val W64 zs < W64 ^ (j + m + 1):=by
  refine Nat.lt_of_lt_of_le h6 ?_
  rw [show j + m + 1=m + (j + 1) by omega,Nat.pow_add W64 m]
  exact Nat.mul_le_mul_right _ (Nat.le_of_lt hV)
 obtain ⟨k1,k2⟩:=Zsx (by omega) hb
 refine ⟨k1,k2,?_⟩
 have:W64 ^ j * win j m zs < W64 ^ j * (W64 * V):=by
  have e:V * W64 ^ (j + 1)=W64 ^ j * (W64 * V):=by rw [Nat.pow_succ,Nat.mul_comm V,Nat.mul_assoc]
  omega
 exact Nat.lt_of_mul_lt_mul_left this
theorem OvR.step {N V n L j m:Nat} {zs qs zs':List Nat} (h:OvR N V n L (j + 1) zs qs) (hV:V < W64 ^ m) (hV0:0 < V) (hj:j + m + 1≤n) (hjL:j < L) (hW:WinR j m zs zs') (hw:win j m zs'=win j m zs % V) :
 OvR N V n L j zs' (qs.set j (win j m zs / V)):=by
 obtain ⟨k1,k2,k3⟩:=h.ready hV hj
 obtain ⟨h1,h2,h3,h4,h5,h6⟩:=h
 obtain ⟨w1,w2,w3,w4⟩:=hW
 have hq:win j m zs / V < W64:=by rw [Nat.div_lt_iff_lt_mul hV0]; exact k3
 have v1:=ZaK (B:=W64) (xs:=zs') (j + m + 1)
 rw [w4,k2,Nat.mul_zero,Nat.add_zero,ZeX (by omega),w3,hw] at v1
 have hdm:=Nat.div_add_mod (win j m zs) V
 have e1:W64 ^ j * win j m zs=V * (W64 ^ j * (win j m zs / V)) + W64 ^ j * (win j m zs % V):=by
  conv=>lhs; rw [← hdm]
  rw [Nat.mul_add,Nat.mul_left_comm]
 refine ⟨w1.trans h1,w2,by simpa using h3,h4.set j hq,?_,?_⟩
 ·have e2:(qs.set j (win j m zs / V))[j]?.getD 0=win j m zs / V:=by rw [List.getElem?_set_self (by omega)]; rfl
  rw [ZaL j (by simp; omega),e2,List.drop_set_of_lt (by omega),v1]
  rw [Nat.pow_succ] at h5
  have e3:V * (W64 ^ j * (win j m zs / V + W64 * val W64 (qs.drop (j + 1))))=V * (W64 ^ j * (win j m zs / V)) + V * (W64 ^ j * W64 * val W64 (qs.drop (j + 1))):=by
   rw [Nat.mul_add (W64 ^ j),Nat.mul_add V,Nat.mul_assoc (W64 ^ j)]
  omega
 ·rw [v1]
  have b1:=ZaQ (h2.take j)
  rw [List.length_take,Nat.min_eq_left (by omega)] at b1
  have b2:=Nat.mul_le_mul_left (W64 ^ j) (Nat.mod_lt (win j m zs) hV0)
  rw [Nat.mul_succ] at b2
  rw [Nat.mul_comm V]
  omega
theorem OvR.done {N V n L:Nat} {zs qs:List Nat} (h:OvR N V n L 0 zs qs) (hV:0 < V):val W64 qs=N / V∧val W64 zs=N % V:=by
 obtain ⟨h1,h2,h3,h4,h5,h6⟩:=h
 rw [Nat.pow_zero,Nat.mul_one] at h6
 rw [Nat.pow_zero,Nat.one_mul,List.drop_zero] at h5
 rw [← h5]
 rw [Nat.add_mul_div_left _ _ hV,Nat.div_eq_of_lt h6,Nat.add_mul_mod_self_left,Nat.mod_eq_of_lt h6]
 exact ⟨by omega,rfl⟩
theorem Zun {ys:List Nat} {k t:Nat} (hd:Dig W64 ys) (hl:ys.length=k + 1) (ht:Trim ys) (et:ys[k]?.getD 0=t):wl (val W64 ys * 2 ^ (64 - blen t))=ys.length:=by
 have h0:0 < t:=Nat.pos_of_ne_zero (by rw [← et]; exact ht k hl)
 have hb:=Zjj hd hl ht et
 have htW:t < 2 ^ 64:=by have:=et ▸ hd.getD Zan k; rw [Zam] at this; exact this
 have hb2:=ZbH.2 htW
 have hv0:0 < val W64 ys:=by have:=Zas (B:=W64) k (show k < ys.length by omega); rw [List.take_of_length_le (by omega),et] at this; have:=Nat.mul_le_mul_left (W64 ^ k) h0; have:=Nat.pow_pos (n:=k) Zan; omega
 have hb3:blen (val W64 ys * 2 ^ (64 - blen t))=64 * (k + 1):=by rw [Zgp hv0,hb]; omega
 have h1:wl (val W64 ys * 2 ^ (64 - blen t))≤k + 1:=Zb1.2 (by rw [Zd2]; exact ZbH.1 (by omega))
 have h2:¬ wl (val W64 ys * 2 ^ (64 - blen t))≤k:=fun h=>by
  have:=Zb1.1 h
  rw [Zd2] at this
  have:=ZbH.2 this
  omega
 omega
theorem ZuS {xs ys:List Nat} {s:Nat} (hd:Dig W64 xs) (ht:Trim ys) (h0:0 < ys.length) (hl:ys.length≤xs.length):val W64 xs * 2 ^ s < val W64 ys * 2 ^ s * W64 ^ (xs.length - ys.length + 1):=by
 obtain ⟨k,hk⟩:∃ k,ys.length=k + 1:=⟨ys.length - 1,by omega⟩
 have h1:=ZaQ hd
 have h2:=ZhJ (B:=W64) ht hk
 have h3:W64 ^ xs.length≤val W64 ys * W64 ^ (xs.length - ys.length + 1):=by
  rw [show xs.length=k + (xs.length - ys.length + 1) by omega,Nat.pow_add]
  rw [show k + (xs.length - ys.length + 1) - ys.length + 1=xs.length - ys.length + 1 by omega]
  exact Nat.mul_le_mul_right _ h2
 rw [Nat.mul_right_comm]
 exact (Nat.mul_lt_mul_right (p2 s)).2 (Nat.lt_of_lt_of_le h1 h3)
theorem Zsy {ws:List Nat} {n:Nat} (hd:Dig W64 ws) (hl:ws.length≤n):let zs:=ws.take n ++ (List.replicate n 0).drop ws.length; zs.length=n∧Dig W64 zs∧val W64 zs=val W64 ws:=by
 intro zs
 have e:zs=ws ++ List.replicate (n - ws.length) 0:=by show ws.take n ++ (List.replicate n 0).drop ws.length=_; rw [List.take_of_length_le hl,List.drop_replicate]
 rw [e]
 exact ⟨by simp; omega,hd.append (Dig.replicate Zan _),by rw [Zbw,ZbM]; simp⟩
theorem Zuo {xs:List Nat} {s:Nat} (hd:Dig W64 xs) (hs:s≤64):wl (val W64 xs * 2 ^ s)≤xs.length + 1:=Zb1.2 (by
 have h1:=ZaQ hd
 rw [Nat.pow_succ]
 have h2:2 ^ s≤W64:=by rw [Zam]; exact Nat.pow_le_pow_right (n:=2) (by decide) hs
 exact Nat.lt_of_lt_of_le ((Nat.mul_lt_mul_right (p2 s)).2 h1) (Nat.mul_le_mul_left _ h2))
theorem Zup {x y s:Nat}:x * 2 ^ s % (y * 2 ^ s) / 2 ^ s=x % y:=by rw [Nat.mul_mod_mul_right,Nat.mul_div_cancel _ (p2 s)]
theorem Zuq {x y s:Nat}:x * 2 ^ s / (y * 2 ^ s)=x / y:=Nat.mul_div_mul_right _ _ (p2 s)
theorem Zgr {b n c v:Nat} {xs:List Nat} {w:World} (hO:Own .u64 94 w b xs) (hd:Dig W64 xs) (hn:xs.length=n) (hv:val W64 xs=v) (hl:n≤1099511627776) (hc:n≤c):Calls Tryz.prog 106 #[.slice (some ⟨b,0,none⟩) n c] w (Zbj w v):=by
 subst hn hv
 refine (Zh4 _ xs _ w hO.shows0 hl hc).mono ?_
 rintro e w' ⟨rfl,Q⟩
 exact ⟨_,rfl,(Zal.of_own hO hd hc).ext Q,Q⟩
theorem ZtF {ys:List Nat} {y:Nat} (h:ys.length=1) (e:ys[0]?.getD 0=y):val W64 ys=y:=by
 obtain ⟨z,rfl⟩:=List.length_eq_one_iff.1 h
 simp at e
 simp [e]
theorem Blk.own1 {w:World} {b r:Nat} (h:Blk 94 w b #[.int .u64 ((r:Nat):Int)]):Own .u64 94 w b [r]:=⟨[],by simp,h⟩
/-! ### of numbers -/
section
variable {u v:Value} {m n:Nat} {w:World}
theorem Zic (hu:Zal w u m) (hv:Zal w v n) (hm:wl m≤4294967296) (hn:wl n≤4294967296):Calls Tryz.prog 126 #[u,v] w (Zbj w (m + n)):=by
 obtain ⟨A,xs,c,rfl,hc,h1,h2,h3,rfl⟩:=hu
 obtain ⟨A2,ys,c2,rfl,hc2,k1,k2,k3,rfl⟩:=hv
 rw [← ZaN h2 h3] at hm
 rw [← ZaN k2 k3] at hn
 exact Zq8 A A2 xs ys c c2 w h1 k1 hm hn h2 k2
theorem Zeu (k:Nat) (hu:Zal w u m) (hm:wl m≤4294967296) (hk:k≤274877906944):Calls Tryz.prog 66 #[u, .int .i64 ((k:Nat):Int)] w (Zbj w (m * 2 ^ k)):=by
 have hu':=hu
 obtain ⟨A,xs,c,rfl,hc,h1,h2,h3,rfl⟩:=hu
 rw [← ZaN h2 h3] at hm
 exact Ztt A xs c k w hu' h1 hm h2 hk
theorem Zid (k:Nat) (hu:Zal w u m) (hm:wl m≤4294967296) (hk:k≤274877906944):Calls Tryz.prog 128 #[u, .int .i64 ((k:Nat):Int)] w (Zbj w (m / 2 ^ k)):=by
 have hu':=hu
 obtain ⟨A,xs,c,rfl,hc,h1,h2,h3,rfl⟩:=hu
 rw [← ZaN h2 h3] at hm
 exact Zq9 A xs c k w hu' h1 hm h2 hk
theorem ZcX (hu:Zal w u m) (hm:wl m≤4294967296):Calls Tryz.prog 65 #[u] w (RetV w (.int .i64 ((blen m:Nat):Int))):=by
 obtain ⟨A,xs,c,rfl,hc,h1,h2,h3,rfl⟩:=hu
 rw [← ZaN h2 h3] at hm
 exact Zos A xs c w h1 hm h2 h3
theorem Zkz (hg:Glob w) (hu:Zal w u m) (hm:wl m≤4294967296) (h0:0 < m):Calls Tryz.prog 157 #[u] w (RetV w (.int .i64 ((tzn m:Nat):Int))):=by
 obtain ⟨A,xs,c,rfl,hc,h1,h2,h3,rfl⟩:=hu
 rw [← ZaN h2 h3] at hm
 exact Zp7 A xs c w h1 hm h2 hg h0
theorem Znr (i:Nat) (hu:Zal w u m) (hi:i≤274877906944):Calls Tryz.prog 158 #[u, .int .i64 ((i:Nat):Int)] w (RetV w (.bool (decide (m / 2 ^ i % 2=1)))):=by
 obtain ⟨A,xs,c,rfl,hc,h1,h2,h3,rfl⟩:=hu
 exact Zsv A xs c w h1 h2 i hi
theorem Zf3 (hu:Zal w u m) (hv:Zal w v n) (hm:wl m≤4294967296):Calls Tryz.prog 122 #[u,v] w (RetV w (.int .i64 (cmpI ((m:Nat):Int) ((n:Nat):Int)))):=by
 obtain ⟨A,xs,c,rfl,hc,h1,h2,h3,rfl⟩:=hu
 obtain ⟨A2,ys,c2,rfl,hc2,k1,k2,k3,rfl⟩:=hv
 rw [← ZaN h2 h3] at hm
 exact Zno A A2 xs ys c c2 w h1 k1 hm h2 k2 h3 k3
end
theorem Zrn (A A2:Option Addr) (xs ys:List Nat) (c c2:Nat) (w:World) (hX:Zae .u64 w A xs) (hY:Zae .u64 w A2 ys) (hl:xs.length≤4294967295) (hl2:ys.length≤4294967296) (hx:Dig W64 xs) (hy:Dig W64 ys) (hN:Zal w (.slice A xs.length c) (val W64 xs)) (hM:Zal w (.slice A2 ys.length c2) (val W64 ys)) (tx:Trim xs) (ty:Trim ys) (hy0:0 < val W64 ys) :
 Calls Tryz.prog 142 #[.slice A xs.length c, .slice A2 ys.length c2] w (ZfY w (val W64 xs / val W64 ys) (val W64 xs % val W64 ys)):=by
 have hw:wl (val W64 xs)≤4294967296:=by rw [← ZaN hx tx]; omega
 have hwy:wl (val W64 ys)≤4294967296:=by rw [← ZaN hy ty]; exact hl2
 refine Zaz (Φ:=fun w=>(((Zal w (.slice A xs.length c) (val W64 xs)∧Zae .u64 w A xs)∧Zal w (.slice A2 ys.length c2) (val W64 ys))∧Zae .u64 w A2 ys)) Tryz.func142 rfl (by kernel_rfl) (fun w' hf=>⟨⟨⟨hN.ext hf,hX.ext hf⟩,hM.ext hf⟩,hY.ext hf⟩) ?_
 refine Zac (Zab (xq 2 [eS1 4 none 0 0,eS1 5 none 0 0] [] ?_))
 refine xe (Zaa (Zac (Zac (Zab (xq 2 [eS1 13 A xs.length c,eS1 14 A2 ys.length c2] [] ?_)))))
 refine xqc 122 [.slice A xs.length c, .slice A2 ys.length c2] 15 (fun _:Unit=>.int .i64 (cmpI ((val W64 xs:Nat):Int) ((val W64 ys:Nat):Int))) _ (fun w R Q=>(Zf3 Q.1.1.1 Q.1.2 hw).mono (fun _ _ h=>Zad h rfl)) (fun xx=>?_)
 refine xq 1 [(16, .v (.bool (decide ((cmpI ((val W64 xs:Nat):Int) ((val W64 ys:Nat):Int)) < 0))))] [] ?_
 refine xe (Zaa ?_)
 refine ZaA ((decide ((cmpI ((val W64 xs:Nat):Int) ((val W64 ys:Nat):Int)) < 0))) (by kernel_rfl) (fun hb10=>?_) (fun hb10=>?_)
 ·have hlt0:=Zdh.1 (of_decide_eq_true hb10)
  refine Zac (Zab (xq 3 [eS1 4 none 0 0,eS1 5 A xs.length c] [] ?_))
  refine xe (Zaa (Zaj (Zak ?_)))
  refine Zaf (v:=.tuple #[.slice none 0 0, .slice A xs.length c]) (by kernel_rfl) (fun w' R Q=>?_)
  exact ⟨_,_,rfl,by rw [Nat.div_eq_of_lt hlt0]; exact Zal.zero _,by rw [Nat.mod_eq_of_lt hlt0]; exact Q.1.1.1.1,R⟩
 ·have hge:val W64 ys≤val W64 xs:=Nat.le_of_not_lt (fun h'=>of_decide_eq_false hb10 (Zdh.2 h'))
  have hll:ys.length≤xs.length:=by have:=Zcm hge; rwa [← ZaN hy ty,← ZaN hx tx] at this
  have hy1:0 < ys.length:=List.length_pos_iff.2 (fun e=>by rw [e] at hy0; simp at hy0)
  refine Zap (Zaa (Zac (Zac (Zab (xq 3 [(20, .v (.bool ((((ys.length:Nat):Int):Int) == 1)))] [] ?_)))))
  refine xe (Zaa ?_)
  refine ZaA (((((ys.length:Nat):Int):Int) == 1)) (by kernel_rfl) (fun hb11=>?_) (fun hb11=>?_)
  ·have hb11':=beq_iff_eq.1 hb11
   refine Zac (Zab (xq 1 [eS1 21 A xs.length c] [] ?_))
   refine Zsf 107 [.slice A xs.length c] (d:=22) (k:=.u64) (e:=94) xs (fun w R Q=>Zky A xs c w Q.1.1.1.2 (by omega) (by omega)) (fun r12 cc hr12 hcap _=>?_)
   refine xr 1 [eS1 0 A xs.length c,eS1 1 A2 ys.length c2,eS1 4 none 0 0,eS1 5 none 0 0,eS1 6 (some ⟨r12,0,none⟩) xs.length cc] [] ?_
   refine xe (Zaa (Zac (Zab (xq 2 [eS1 23 (some ⟨r12,0,none⟩) xs.length cc,eS1 24 A2 ys.length c2] [] ?_))))
   refine xqk 25 (atA A2 0) (fun w R Q=>Za1 (t:=77) (e:=94) (x:=(Operand.tmp 24)) (ix:=(Operand.const (Value.int IntKind.i64 0))) (len:=ys.length) (cap:=c2) (i:=0) (((Q.1).self.1.2).ne (j:=0) (by omega)) (by omega)) ?_
   obtain ⟨x13,hx13⟩:∃ x,ys[0]?.getD 0=x:=⟨_,rfl⟩
   refine xqk 26 (.int .u64 ((x13:Nat):Int)) (fun w R Q=>by rw [← hx13]; exact Zbb (t:=94) (x:=(Operand.tmp 25)) ((Q.1).self.1.2) (j:=0) (by omega)) ?_
   have hv1:=ZtF (by omega) hx13
   refine Zhd (xs:=xs) (α:=List Nat) 108 [.slice (some ⟨r12,0,none⟩) xs.length cc, .int .u64 ((x13:Nat):Int)] (d:=27) (fun x=>.int .u64 ((val W64 xs % x13:Nat):Int)) (fun x=>x.length=xs.length∧Dig W64 x∧val W64 x=val W64 xs / x13) (fun x=>x) r12 (fun x w=>(Box (fun j=>r12≤j) w (fun w=>((((Zal w (.slice A xs.length c) (val W64 xs)∧Zae .u64 w A (xs))∧Zal w (.slice A2 ys.length c2) (val W64 ys))∧Zae .u64 w A2 (ys))∧True))∧Own .u64 94 w r12 (x))) (fun w Q=>Q.2) (by omega) (Or.inl hr12) (fun w R Q=>Zgq r12 _ _ _ _ Q.2 (by omega) hx (by omega) (by rw [← hx13]; exact hy.getD Zan _)) (fun x w w' hp Q hF hO=>⟨((Q.1).fr (hF.mono (fun _ _ e=>by rw [e]; exact Nat.le_refl _))),hO⟩) (fun x hx14=>?_)
   obtain ⟨qs14,rfl⟩:∃ y,y=x:=⟨_,rfl⟩
   refine xr 1 [eS1 0 A xs.length c,eS1 1 A2 ys.length c2,eS1 4 none 0 0,eS1 5 none 0 0,eS1 6 (some ⟨r12,0,none⟩) xs.length cc,(7, .v (.int .u64 ((val W64 xs % x13:Nat):Int)))] [] ?_
   refine xe (Zaa (Zac (Zab (xq 1 [eS1 28 (some ⟨r12,0,none⟩) xs.length cc] [] ?_))))
   refine xqc 106 [.slice (some ⟨r12,0,none⟩) xs.length cc] 29 Za7 _ (fun w R Q=>(Zgr Q.2 hx14.2.1 hx14.1 hx14.2.2 (by omega) (by omega)).mono (fun _ _=>Zbd)) (fun xx=>?_)
   obtain ⟨A15,l15,c15⟩:=xx
   refine xq 1 [(30, .v (.int .u64 ((val W64 xs % x13:Nat):Int)))] [] ?_
   refine Zd4 (d:=31) (fun zb:Nat=>.slice (some ⟨zb,0,none⟩) 1 1) (fun zb zw=>Blk 94 zw zb #[.int .u64 ((val W64 xs % x13:Nat):Int)]) (by kernel_rfl) (by kernel_rfl) (by kernel_rfl) (by kernel_rfl) (by kernel_rfl) (by kernel_rfl) (fun w R Q=>Zdy (t:=77) (e:=94) (n:=1) (sz:=1) (z:=.int .u64 0) (parts:=#[(0,Operand.tmp 30)]) (by kernel_rfl) (by kernel_rfl) (by kernel_rfl) (by kernel_rfl) (by kernel_rfl) (by kernel_rfl)) (fun b16=>?_)
   refine xr 0 [eS1 0 A xs.length c,eS1 1 A2 ys.length c2,eS1 4 none 0 0,eS1 5 none 0 0,eS1 29 A15 l15 c15,eS1 31 (some ⟨b16,0,none⟩) 1 1] [] ?_
   refine xqc 106 [.slice (some ⟨b16,0,none⟩) 1 1] 32 Za7 _ (fun w R Q=>(Zgr (Q.2).own1 (Dig.nil.cons (Nat.lt_trans (Nat.mod_lt _ (by omega)) (by rw [← hx13]; exact hy.getD Zan _))) (show [val W64 xs % x13].length=1 from rfl) (show val W64 [val W64 xs % x13]=val W64 xs % x13 by simp) (by omega) (by omega)).mono (fun _ _=>Zbd)) (fun xx=>?_)
   obtain ⟨A17,l17,c17⟩:=xx
   refine xq 2 [eS1 4 A15 l15 c15,eS1 5 A17 l17 c17] [] ?_
   refine xe (Zaa (Zaj (Zak ?_)))
   refine Zaf (v:=.tuple #[.slice A15 l15 c15, .slice A17 l17 c17]) (by kernel_rfl) (fun w' R Q=>?_)
   exact ⟨_,_,rfl,by rw [hv1]; exact Q.1.1.2,by rw [hv1]; exact Q.2,R⟩
  ·have hb11':=ZbS hb11
   refine Zap (Zaa (Zac (Zab (xq 4 [eS1 33 A2 ys.length c2,(36, .v (.int .i64 (IntKind.i64.wrap (((ys.length:Nat):Int) - 1))))] [] ?_))))
   rw [show IntKind.i64.wrap ((((ys.length:Nat):Int) - 1))=((ys.length - 1:Nat):Int) from by rw [IntKind.wrap_i64]; omega]
   refine xqk 37 (atA A2 (ys.length - 1)) (fun w R Q=>Za1 (t:=77) (e:=94) (x:=(Operand.tmp 33)) (ix:=(Operand.tmp 36)) (len:=ys.length) (cap:=c2) (i:=ys.length - 1) ((Q.1.2).ne (j:=ys.length - 1) (by omega)) (by omega)) ?_
   obtain ⟨x18,hx18⟩:∃ x,ys[ys.length - 1]?.getD 0=x:=⟨_,rfl⟩
   refine xqk 38 (.int .u64 ((x18:Nat):Int)) (fun w R Q=>by rw [← hx18]; exact Zbb (t:=94) (x:=(Operand.tmp 37)) (Q.1.2) (j:=ys.length - 1) (by omega)) ?_
   obtain ⟨t,rfl⟩:∃ t,t=x18:=⟨_,rfl⟩
   refine xqc 174 [.int .u64 ((t:Nat):Int)] 39 (fun _:Unit=>.int .i64 ((64 - blen t:Nat):Int)) _ (fun w R Q=>(Zp6 t _ (by rw [← hx18]; exact hy.getD Zan _)).mono (fun _ _ h=>Zad h rfl)) (fun xx=>?_)
   refine xq 1 [(8, .v (.int .i64 ((64 - blen t:Nat):Int)))] [] ?_
   refine xe (Zaa (Zac (Zab (xq 2 [eS1 40 A2 ys.length c2,(41, .v (.int .i64 ((64 - blen t:Nat):Int)))] [] ?_))))
   refine xqc 66 [.slice A2 ys.length c2, .int .i64 ((64 - blen t:Nat):Int)] 42 Za7 _ (fun w R Q=>(Zeu (64 - blen t) Q.1.1.1.2 hwy (by omega)).mono (fun _ _=>Zbd)) (fun xx=>?_)
   obtain ⟨A19,l19,c19⟩:=xx
   refine xq 1 [eS1 9 A19 l19 c19] [] ?_
   refine xe (Zaa (Zac ?_))
   refine SXc.know (p:=l19=(wds (val W64 ys * 2 ^ (64 - blen t))).length∧(wds (val W64 ys * 2 ^ (64 - blen t))).length≤c19) (fun w _ Q=>(Q.2).lens) (fun hln=>?_)
   obtain ⟨dd,hdd⟩:∃ dd,dd=wds (val W64 ys * 2 ^ (64 - blen t)):=⟨_,rfl⟩
   rw [← hdd] at hln
   obtain ⟨rfl,hdc⟩:=hln
   have hDd:Dig W64 dd:=by rw [hdd]; exact (Zdl _).1
   have hDt:Trim dd:=by rw [hdd]; exact ZjF _
   have hDv:val W64 dd=val W64 ys * 2 ^ (64 - blen t):=by rw [hdd]; exact (Zdl _).2
   have hDl:dd.length=ys.length:=by rw [hdd,Zo9]; exact Zun (k:=ys.length - 1) hy (by omega) ty hx18
   have hDp:0 < val W64 dd:=ZeC hDt Zan (fun e=>by rw [e] at hDl; simp at hDl; omega)
   have hDw:=ZaQ hDd
   refine Zab (xq 3 [(45, .v (.int .i64 (IntKind.i64.wrap (((xs.length:Nat):Int) + 1))))] [] ?_)
   rw [show IntKind.i64.wrap ((((xs.length:Nat):Int) + 1))=((xs.length + 1:Nat):Int) from by rw [IntKind.wrap_i64]; omega]
   refine ZiL (d:=46) (t:=77) (e:=94) (k:=.u64) (kl:=.i64) (kc:=.i64) (l:=(Operand.tmp 45)) (c:=(Operand.tmp 45)) (xs.length + 1) 8 (by omega) (by decide) (fun r20 hr20 lr20=>?_)
   have hA:∀ a,A19=some a→a.block≠r20:=fun a ha=>Nat.ne_of_lt (lr20 a.block (fun w Q=>(Q.2).shows.lt (by rw [← hdd,hDl]; omega) ha))
   refine xr 1 [eS1 0 A xs.length c,eS1 1 A2 ys.length c2,eS1 4 none 0 0,eS1 5 none 0 0,(8, .v (.int .i64 ((64 - blen t:Nat):Int))),eS1 9 A19 dd.length c19,eS1 10 (some ⟨r20,0,none⟩) (xs.length + 1) (xs.length + 1)] [] ?_
   refine xe (Zaa (Zac (Zab (xq 3 [eS1 47 (some ⟨r20,0,none⟩) (xs.length + 1) (xs.length + 1),eS1 48 A xs.length c,(49, .v (.int .i64 ((64 - blen t:Nat):Int)))] [] ?_))))
   refine xqc 66 [.slice A xs.length c, .int .i64 ((64 - blen t:Nat):Int)] 50 Za7 _ (fun w R Q=>(Zeu (64 - blen t) (Q.1).self.1.1.1.1.1.1 hw (by omega)).mono (fun _ _=>Zbd)) (fun xx=>?_)
   obtain ⟨A21,l21,c21⟩:=xx
   refine SXi.know (p:=l21=(wds (val W64 xs * 2 ^ (64 - blen t))).length∧(wds (val W64 xs * 2 ^ (64 - blen t))).length≤c21) (fun w _ Q=>(Q.2).lens) (fun hln=>?_)
   have hfit:=Zuo (s:=64 - blen t) hx (by omega)
   rw [← Zo9] at hfit
   obtain ⟨hr1,hr2,hr3⟩:=Zsy (n:=xs.length + 1) (Zdl (val W64 xs * 2 ^ (64 - blen t))).1 hfit
   rw [(Zdl _).2] at hr3
   obtain ⟨zz,hzz⟩:∃ zz,(wds (val W64 xs * 2 ^ (64 - blen t))).take (xs.length + 1) ++ (List.replicate (xs.length + 1) 0).drop (wds (val W64 xs * 2 ^ (64 - blen t))).length=zz:=⟨_,rfl⟩
   rw [hzz] at hr1 hr2 hr3
   refine Ztr (d:=51) (dx:=Operand.tmp 47) (sx:=Operand.tmp 50) (dT:=77) (sT:=77) (e:=94) (k:=.u64) (sp:=A21) (mid:=List.replicate (xs.length + 1) 0) (ys:=wds (val W64 xs * 2 ^ (64 - blen t))) (n:=xs.length + 1) (m:=l21) (dc:=xs.length + 1) (sc:=c21) r20 (fun w=>((Box (fun j=>r20≤j) w (fun w=>((((((Zal w (.slice A xs.length c) (val W64 xs)∧Zae .u64 w A (xs))∧Zal w (.slice A2 ys.length c2) (val W64 ys))∧Zae .u64 w A2 (ys))∧True)∧True)∧Zal w (.slice A19 dd.length c19) (val W64 ys * 2 ^ (64 - blen t))))∧Own .u64 94 w r20 (zz))∧True)) (by simp) hln.1.symm (by simp) (fun w Q=>Q.1.2) (fun w Q=>(Q.2).shows) (Or.inl hr20) (fun w w' Q hF hO=>⟨⟨((Q.1.1).fr (hF.mono (fun _ _ e=>by rw [e]; exact Nat.le_refl _))),(by rw [← hzz]; rwa [List.length_replicate] at hO)⟩,trivial⟩) ?_
   refine xr 0 [eS1 0 A xs.length c,eS1 1 A2 ys.length c2,eS1 4 none 0 0,eS1 5 none 0 0,(8, .v (.int .i64 ((64 - blen t:Nat):Int))),eS1 9 A19 dd.length c19,eS1 10 (some ⟨r20,0,none⟩) (xs.length + 1) (xs.length + 1)] [] ?_
   refine xe (Zaa (Zac (Zab (xq 5 [(56, .v (.int .i64 (IntKind.i64.wrap (((xs.length:Nat):Int) - ((ys.length:Nat):Int)))))] [] ?_))))
   rw [show IntKind.i64.wrap ((((xs.length:Nat):Int) - ((ys.length:Nat):Int)))=((xs.length - (ys.length):Nat):Int) from by rw [IntKind.wrap_i64]; omega]
   refine xq 1 [(57, .v (.int .i64 (IntKind.i64.wrap (((xs.length - (ys.length):Nat):Int) + 1))))] [] ?_
   rw [show IntKind.i64.wrap ((((xs.length - (ys.length):Nat):Int) + 1))=((xs.length - (ys.length) + 1:Nat):Int) from by rw [IntKind.wrap_i64]; omega]
   refine ZiL (d:=58) (t:=77) (e:=94) (k:=.u64) (kl:=.i64) (kc:=.i64) (l:=(Operand.tmp 57)) (c:=(Operand.tmp 57)) (xs.length - (ys.length) + 1) 8 (by omega) (by decide) (fun r22 hr22 lr22=>?_)
   have hlt:r20 < r22:=lr22 r20 (fun w Q=>(Q.1.2).lt)
   refine xr 1 [eS1 1 A2 ys.length c2,eS1 4 none 0 0,eS1 5 none 0 0,(8, .v (.int .i64 ((64 - blen t:Nat):Int))),eS1 9 A19 dd.length c19,eS1 10 (some ⟨r20,0,none⟩) (xs.length + 1) (xs.length + 1),(11, .v (.slice (some ⟨r22,0,none⟩) (xs.length - (ys.length) + 1) (xs.length - (ys.length) + 1)))] [] ?_
   refine xe (Zaa (Zac (Zac (Zab (xq 3 [(61, .v (.int .i64 (IntKind.i64.wrap (((xs.length - (ys.length) + 1:Nat):Int) - 1))))] [] ?_)))))
   rw [show IntKind.i64.wrap (((xs.length - ys.length + 1:Nat):Int) - 1)=((xs.length - ys.length + 1:Nat):Int) - 1 from by rw [IntKind.wrap_i64]; omega]
   refine xq 1 [(12, .v (.int .i64 (((xs.length - ys.length + 1:Nat):Int) - 1)))] [] ?_
   refine xe (Zaa (ZaO ?_))
   refine SXc.weak [(1, .v (.slice A2 ys.length c2)),(4, .v (.slice none 0 0)),(5, .v (.slice none 0 0)),(8, .v (.int .i64 ((64 - blen t:Nat):Int))),(9, .v (.slice A19 dd.length c19)),(10, .v (.slice (some ⟨r20,0,none⟩) (xs.length + 1) (xs.length + 1))),(11, .v (.slice (some ⟨r22,0,none⟩) (xs.length - (ys.length) + 1) (xs.length - (ys.length) + 1))),(12, .v (.int .i64 ((((xs.length - ys.length + 1):Nat):Int) - 1)))] [] (Ψ:=fun w=>((Box (fun j=>r20≤j) w (fun w=>((((((Zal w (.slice A xs.length c) (val W64 xs)∧Zae .u64 w A (xs))∧Zal w (.slice A2 ys.length c2) (val W64 ys))∧Zae .u64 w A2 (ys))∧True)∧True)∧Zal w (.slice A19 dd.length c19) (val W64 ys * 2 ^ (64 - blen t))))∧Own .u64 94 w r20 (zz))∧Own .u64 94 w r22 ((List.replicate (xs.length - (ys.length) + 1) 0)))) (ZaG.of (by kernel_rfl)) (by kernel_rfl) (fun w Q=>⟨⟨(Q.1).self.1.1,(Q.1).self.1.2⟩,Q.2⟩) ?_
   refine ZbR (fun nn ss ff=>∃ (k:Nat) (zs qs:List Nat),ss=ofL [(1, .v (.slice A2 ys.length c2)),(4, .v (.slice none 0 0)),(5, .v (.slice none 0 0)),(8, .v (.int .i64 ((64 - blen t:Nat):Int))),(9, .v (.slice A19 dd.length c19)),(10, .v (.slice (some ⟨r20,0,none⟩) (xs.length + 1) (xs.length + 1))),(11, .v (.slice (some ⟨r22,0,none⟩) (xs.length - (ys.length) + 1) (xs.length - (ys.length) + 1))),(12, .v (.int .i64 (((k:Nat):Int) - 1)))] []∧ff=(fun w=>((Box (fun j=>r20≤j) w (fun w=>((((((Zal w (.slice A xs.length c) (val W64 xs)∧Zae .u64 w A (xs))∧Zal w (.slice A2 ys.length c2) (val W64 ys))∧Zae .u64 w A2 (ys))∧True)∧True)∧Zal w (.slice A19 dd.length c19) (val W64 ys * 2 ^ (64 - blen t))))∧Own .u64 94 w r20 (zs))∧Own .u64 94 w r22 (qs)))∧(OvR (val W64 xs * 2 ^ (64 - blen t)) (val W64 dd) (xs.length + 1) (xs.length - ys.length + 1) k zs qs)∧(k≤xs.length - ys.length + 1)∧nn=(1 + k)) ((1 + (xs.length - ys.length + 1))) ⟨(xs.length - ys.length + 1),zz,(List.replicate (xs.length - (ys.length) + 1) 0),rfl,rfl,(OvR.start hr1 hr2 hr3 (by rw [hDv]; exact ZuS hx ty (by omega) (by omega))),Nat.le_refl _,rfl⟩ ?_
   rintro nn ss ff ⟨k,zs,qs,rfl,rfl,HV,hk,rfl⟩
   refine Zac (Zac (Zab (xq 2 [(63, .v (.bool (decide ((((k:Nat):Int) - 1) ≥ 0))))] [] ?_)))
   refine xe (Zaa ?_)
   refine ZaA ((decide ((((k:Nat):Int) - 1) ≥ 0))) (by kernel_rfl) (fun hb23=>?_) (fun hb23=>?_)
   ·have hb23':=of_decide_eq_true hb23
    obtain ⟨j,rfl⟩:∃ j,k=j + 1:=⟨k - 1,by omega⟩
    rw [show ((((j + 1):Nat):Int) - 1)=((j:Nat):Int) by omega]
    refine Zap (Zaa (Zac (ZaO (Zab (xq 8 [(66, .v (.slice (some ⟨r22,0,none⟩) (xs.length - (ys.length) + 1) (xs.length - (ys.length) + 1))),(67, .v (.int .i64 ((j:Nat):Int))),eS1 68 (some ⟨r20,0,none⟩) (xs.length + 1) (xs.length + 1),(69, .v (.int .i64 ((j:Nat):Int))),(73, .v (.int .i64 (IntKind.i64.wrap (((j:Nat):Int) + ((ys.length:Nat):Int)))))] [] ?_)))))
    rw [show IntKind.i64.wrap ((((j:Nat):Int) + ((ys.length:Nat):Int)))=((j + (ys.length):Nat):Int) from by rw [IntKind.wrap_i64]; omega]
    refine xq 1 [(74, .v (.int .i64 (IntKind.i64.wrap (((j + (ys.length):Nat):Int) + 1))))] [] ?_
    rw [show IntKind.i64.wrap ((((j + (ys.length):Nat):Int) + 1))=((j + (ys.length) + 1:Nat):Int) from by rw [IntKind.wrap_i64]; omega]
    refine xqk 75 (.slice (some ⟨r20,j,none⟩) (dd.length + 1) (xs.length + 1 - j)) (fun w R Q=>Zsh (t:=77) (e:=94) (x:=(Operand.tmp 68)) (len:=(xs.length + 1)) (cap:=(xs.length + 1)) (l:=j) (h:=j + (ys.length) + 1) (n:=dd.length + 1) (m:=xs.length + 1 - j) (lo:=(Operand.tmp 69)) (hi:=(Operand.tmp 74)) (by omega) (by omega) (by omega) (by omega) (by omega)) ?_
    refine xq 1 [eS1 76 A19 dd.length c19] [] ?_
    refine Zhd (xs:=zs) (α:=List Nat) 175 [.slice (some ⟨r20,j,none⟩) (dd.length + 1) (xs.length + 1 - j), .slice A19 dd.length c19] (d:=77) (fun x=>.int .u64 ((win j dd.length zs / val W64 dd:Nat):Int)) (fun x=>WinR j dd.length zs x∧win j dd.length x=win j dd.length zs % val W64 dd) (fun x=>x) r20 (fun x w=>((Box (fun j=>r20≤j) w (fun w=>((((((Zal w (.slice A xs.length c) (val W64 xs)∧Zae .u64 w A (xs))∧Zal w (.slice A2 ys.length c2) (val W64 ys))∧Zae .u64 w A2 (ys))∧True)∧True)∧Zal w (.slice A19 dd.length c19) (val W64 ys * 2 ^ (64 - blen t))))∧Own .u64 94 w r20 (x))∧Own .u64 94 w r22 (qs))) (fun w Q=>Q.1.2) (by have:=HV.1; omega) (Or.inl hr20) (fun w R Q=>Zkx r20 _ j zs dd _ _ _ Q.1.2 (by rw [hdd]; exact ((Q.1.1).self.2).shows) hA (by rw [HV.1]; omega) (by rw [HV.1]; omega) HV.2.1 hDd (by omega) hDp (HV.ready hDw (by omega)).2.2) (fun x w w' hp Q hF hO=>⟨⟨((Q.1.1).fr (hF.mono (fun _ _ e=>by rw [e]; exact Nat.le_refl _))),hO⟩,((Q.2).fr hF (show ¬ (r22=r20) by omega))⟩) (fun x hx24=>?_)
    obtain ⟨zs24,rfl⟩:∃ y,y=x:=⟨_,rfl⟩
    have HS:=HV.step hDw hDp (by omega) (by omega) hx24.1 hx24.2
    have hql:=HV.2.2.1
    refine xr 0 [eS1 1 A2 ys.length c2,eS1 4 none 0 0,eS1 5 none 0 0,(8, .v (.int .i64 ((64 - blen t:Nat):Int))),eS1 9 A19 dd.length c19,eS1 10 (some ⟨r20,0,none⟩) (xs.length + 1) (xs.length + 1),(11, .v (.slice (some ⟨r22,0,none⟩) (xs.length - (ys.length) + 1) (xs.length - (ys.length) + 1))),(12, .v (.int .i64 ((j:Nat):Int))),(66, .v (.slice (some ⟨r22,0,none⟩) (xs.length - (ys.length) + 1) (xs.length - (ys.length) + 1))),(67, .v (.int .i64 ((j:Nat):Int))),(77, .v (.int .u64 ((win j dd.length zs / val W64 dd:Nat):Int)))] [] ?_
    refine xqk 78 (.pointer (some ⟨r22,j,none⟩)) (fun w R Q=>ZbP (t:=77) (e:=94) (x:=(Operand.tmp 66)) (ix:=(Operand.tmp 67)) (len:=(xs.length - (ys.length) + 1)) (cap:=(xs.length - (ys.length) + 1)) (i:=j) (by omega)) ?_
    refine ZcL (t:=94) (x:=(Operand.tmp 78)) (y:=(Operand.tmp 77)) r22 (j) (win j dd.length zs / val W64 dd) (fun w=>((Box (fun j=>r20≤j) w (fun w=>((((((Zal w (.slice A xs.length c) (val W64 xs)∧Zae .u64 w A (xs))∧Zal w (.slice A2 ys.length c2) (val W64 ys))∧Zae .u64 w A2 (ys))∧True)∧True)∧Zal w (.slice A19 dd.length c19) (val W64 ys * 2 ^ (64 - blen t))))∧Own .u64 94 w r20 (zs24))∧Own .u64 94 w r22 ((qs).set (j) (win j dd.length zs / val W64 dd)))) (fun w Q=>Q.2) (by omega) (Or.inl hr22) (fun w w' Q hF hO=>⟨⟨((Q.1.1).fr (hF.mono (fun _ _ e=>by rw [e]; omega))),((Q.1.2).fr hF (show ¬ (r20=r22) by omega))⟩,hO⟩) ?_
    refine xe (ZbK (Zaa (Zab (xq 2 [(65, .v (.int .i64 (IntKind.i64.wrap (((j:Nat):Int) - 1))))] [] ?_))))
    rw [show IntKind.i64.wrap (((j:Nat):Int) - 1)=((j:Nat):Int) - 1 from by rw [IntKind.wrap_i64]; omega]
    refine xq 1 [(12, .v (.int .i64 (((j:Nat):Int) - 1)))] [] ?_
    refine xe ?_
    refine SXq.weak [(1, .v (.slice A2 ys.length c2)),(4, .v (.slice none 0 0)),(5, .v (.slice none 0 0)),(8, .v (.int .i64 ((64 - blen t:Nat):Int))),(9, .v (.slice A19 dd.length c19)),(10, .v (.slice (some ⟨r20,0,none⟩) (xs.length + 1) (xs.length + 1))),(11, .v (.slice (some ⟨r22,0,none⟩) (xs.length - (ys.length) + 1) (xs.length - (ys.length) + 1))),(12, .v (.int .i64 (((j:Nat):Int) - 1)))] [] (Ψ:=fun w=>((Box (fun j=>r20≤j) w (fun w=>((((((Zal w (.slice A xs.length c) (val W64 xs)∧Zae .u64 w A (xs))∧Zal w (.slice A2 ys.length c2) (val W64 ys))∧Zae .u64 w A2 (ys))∧True)∧True)∧Zal w (.slice A19 dd.length c19) (val W64 ys * 2 ^ (64 - blen t))))∧Own .u64 94 w r20 (zs24))∧Own .u64 94 w r22 (((qs).set (j) (win j dd.length zs / val W64 dd))))) (ZaG.of (by kernel_rfl)) (by kernel_rfl) (fun w Q=>⟨⟨Q.1.1,Q.1.2⟩,Q.2⟩) ?_
    exact Zbc ((1 + j)) (by omega) ⟨j,zs24,((qs).set (j) (win j dd.length zs / val W64 dd)),rfl,rfl,HS,by omega,rfl⟩
   ·have hb23':=of_decide_eq_false hb23
    obtain rfl:k=0:=by omega
    refine Zbp (Zax (Zax (ZbA (Zaa (Zac (Zab (xq 1 [(79, .v (.slice (some ⟨r22,0,none⟩) (xs.length - (ys.length) + 1) (xs.length - (ys.length) + 1)))] [] ?_)))))))
    refine xqc 106 [.slice (some ⟨r22,0,none⟩) (xs.length - (ys.length) + 1) (xs.length - (ys.length) + 1)] 80 Za7 _ (fun w R Q=>(Zgr Q.2 HV.2.2.2.1 HV.2.2.1 ((HV.done hDp).1.trans (by rw [hDv,Zuq])) (by omega) (by omega)).mono (fun _ _=>Zbd)) (fun xx=>?_)
    obtain ⟨A25,l25,c25⟩:=xx
    refine xq 1 [eS1 81 (some ⟨r20,0,none⟩) (xs.length + 1) (xs.length + 1)] [] ?_
    refine xqc 106 [.slice (some ⟨r20,0,none⟩) (xs.length + 1) (xs.length + 1)] 82 Za7 _ (fun w R Q=>(Zgr Q.1.1.2 HV.2.1 HV.1 (HV.done hDp).2 (by omega) (by omega)).mono (fun _ _=>Zbd)) (fun xx=>?_)
    obtain ⟨A26,l26,c26⟩:=xx
    refine xq 1 [(83, .v (.int .i64 ((64 - blen t:Nat):Int)))] [] ?_
    refine xqc 128 [.slice A26 l26 c26, .int .i64 ((64 - blen t:Nat):Int)] 84 Za7 _ (fun w R Q=>(Zid (64 - blen t) Q.2 (Nat.le_trans (Zcm (Nat.le_of_lt (Nat.mod_lt _ hDp))) (by rw [← ZaN hDd hDt]; omega)) (by omega)).mono (fun _ _ h=>Zbd (by rw [show (val W64 xs * 2 ^ (64 - blen t) % val W64 dd) / 2 ^ (64 - blen t)=val W64 xs % val W64 ys by rw [hDv,Zup]] at h; exact h))) (fun xx=>?_)
    obtain ⟨A27,l27,c27⟩:=xx
    refine xq 2 [eS1 4 A25 l25 c25,eS1 5 A27 l27 c27] [] ?_
    refine xe (Zaa (Zaj ?_))
    refine Zaf (v:=.tuple #[.slice A25 l25 c25, .slice A27 l27 c27]) (by kernel_rfl) (fun w' R Q=>?_)
    exact ⟨_,_,rfl,Q.1.1.2,Q.2,R⟩
end Go.Proofs.YtklpdkpcocnglaaGreatDoor

namespace Go.Proofs.YtklpdkpcocnglaaGreatDoor
end Go.Proofs.YtklpdkpcocnglaaGreatDoor

namespace Go.Proofs.YtklpdkpcocnglaaGreatDoor
structure FR where
 s:Bool
 m:Nat
 e:Int
 err:Int
def ZmB:FR:=⟨false,0,0,0⟩
def errR (k:Int):FR:=⟨false,0,0,k⟩
def okE (e:Int):Prop := -1048576≤e∧e≤1048576
instance (e:Int):Decidable (okE e):=inferInstanceAs (Decidable (_∧_))
def ZbU (s:Bool) (n:Nat) (e:Int):FR:=if n=0 then ZmB else if okE (e + tzn n) then ⟨s,oddM n,e + tzn n,0⟩ else errR 2
def Zdr (s:Bool) (n:Nat) (e:Int) (bits:Nat) (more:Bool):FR :=
 if blen n≤bits then ZbU s n e else ZbU s (Zhh n (blen n - bits - 1) more) (e + (blen n - bits:Nat))
def Zcf (s:Bool) (n d:Nat) (e:Int) (bits:Nat):FR:=if n=0 then ZmB else ZbU s (rndM n d bits) (e + rndK n d bits)
theorem Zot (s:Bool) (e:Int) (bits:Nat) (more:Bool):Zdr s 0 e bits more=ZmB:=by
 unfold Zdr; rw [if_pos (by rw [Zda]; omega)]; rfl
theorem ZkA (s:Bool) (d:Nat) (e:Int) (bits:Nat):Zcf s 0 d e bits=ZmB:=rfl
theorem Zou (s:Bool) {n d:Nat} (e:Int) {bits:Nat} (hn:0 < n) (hd:0 < d) (hb:0 < bits) :
 Zdr s (fq n d (rk0 n d bits - 1)) (e + (rk0 n d bits - 1)) bits (decide (fa n (rk0 n d bits - 1) % fb d (rk0 n d bits - 1)≠0))=Zcf s n d e bits:=by
 obtain ⟨h1,h2⟩:=ZjE hn hd hb
 have h3:=Zh9 n d (rk0 n d bits - 1) 1
 rw [show rk0 n d bits - 1 + (1:Nat)=rk0 n d bits by omega] at h3
 rw [h3,Zfm] at h1 h2
 generalize hk:rk0 n d bits - 1=k at *
 obtain ⟨j,hj⟩:∃ j,blen (fq n d k)=bits + (j + 1):=⟨blen (fq n d k) - bits - 1,by omega⟩
 obtain ⟨k1,k2⟩:=Zrg hn hd hb k j hj
 unfold Zdr Zcf
 rw [if_neg (by omega),if_neg (by omega),k1,k2,hj,show bits + (j + 1) - bits - 1=j by omega,show bits + (j + 1) - bits=j + 1 by omega,Int.add_assoc]
end Go.Proofs.YtklpdkpcocnglaaGreatDoor

namespace Go.Proofs.YtklpdkpcocnglaaGreatDoor
open Go.RowKit
def shNb (r:FR) (x:ShN):Value:=.tuple #[.agg #[.bool r.s, .slice x.1 x.2.1 x.2.2, .int .i64 r.e], .int .i64 r.err]
def ZdF (w:World) (r:FR) (e:Ending) (w':World):Prop:=∃ x:ShN,e=.returned (shNb r x)∧Zal w' (Za7 x) r.m∧Ext w w'
theorem Zev {w w':World} {e:Ending} {r:FR} (h:ZdF w r e w'):Zbx (shNb r) (fun x w=>Zal w (Za7 x) r.m) w e w':=by
 obtain ⟨x,rfl,hI,Q⟩:=h
 exact ⟨x,rfl,Q,boxn Q (fun S w'' hS hF=>hI.nrb hS hF)⟩
theorem Zp9 (s:Bool) (e:Int):ZbU s 0 e=⟨false,0,0,0⟩:=rfl
theorem Zns {n:Nat} (s:Bool) {e:Int} (h0:0 < n) (h1:¬ e + tzn n < -1048576) (h2:¬ e + tzn n > 1048576):ZbU s n e=⟨s,oddM n,e + tzn n,0⟩:=by
 unfold ZbU
 rw [if_neg (by omega),if_pos ⟨by omega,by omega⟩]
theorem ZlS {n:Nat} (s:Bool) {e:Int} (h0:0 < n) (h:e + tzn n < -1048576∨e + tzn n > 1048576):ZbU s n e=⟨false,0,0,2⟩:=by
 unfold ZbU
 rw [if_neg (by omega),if_neg (by rintro ⟨h1,h2⟩; omega)]; rfl
theorem ZeY (n:Nat):blen n≤64 * wl n:=by
 rw [ZbH,Nat.pow_mul]
 have:=ZiD n
 rwa [Zam] at this
theorem Zur {n:Nat} (h:wl n≤4294967296):tzn n≤274877906944:=by
 rcases Nat.eq_zero_or_pos n with rfl | h0
 ·rw [tzn,dif_pos (Or.inl rfl)]; omega
 ·obtain ⟨h1,h2⟩:=Zdk h0
  have h3:blen n=blen (oddM n) + tzn n:=by
   have:=Zgp (show 0 < oddM n by omega) (tzn n)
   rwa [← h2] at this
  have:=ZeY n
  omega
theorem Zro {n:Nat} (h:wl n≤4294967296):blen n≤274877906944:=by have:=ZeY n; omega
theorem Zqa {s:Bool} {n bits:Nat} {e:Int} {m:Bool} (h:blen n≤bits):Zdr s n e bits m=ZbU s n e:=by unfold Zdr; rw [if_pos h]
theorem Zie {s:Bool} {n bits j:Nat} {e:Int} {m:Bool} (h:blen n=bits + (j + 1)) (h1:n / 2 ^ j % 2=1) (h2:tzn n < j∨n / 2 ^ (j + 1) % 2=1∨m=true) (h0:0 < n) :
 Zdr s n e bits m=ZbU s (n / 2 ^ (j + 1) + 1) (e + ((j + 1:Nat):Int)):=by
 unfold Zdr Zhh
 rw [if_neg (by omega),h,show bits + (j + 1) - bits - 1=j by omega,show bits + (j + 1) - bits=j + 1 by omega,if_pos ⟨h1,by rw [← Zri h0]; exact h2⟩]
theorem Zjl {s:Bool} {n bits j:Nat} {e:Int} {m:Bool} (h:blen n=bits + (j + 1)) (h0:0 < n) (h1:¬ (n / 2 ^ j % 2=1∧(tzn n < j∨n / 2 ^ (j + 1) % 2=1∨m=true))) :
 Zdr s n e bits m=ZbU s (n / 2 ^ (j + 1)) (e + ((j + 1:Nat):Int)):=by
 unfold Zdr Zhh
 rw [if_neg (by omega),h,show bits + (j + 1) - bits - 1=j by omega,show bits + (j + 1) - bits=j + 1 by omega,if_neg (by rw [← Zri h0]; exact h1)]
theorem Zus:Trim [1]:=by
 intro k hk
 have:k=0:=by simp at hk; omega
 subst this
 simp
theorem wl_1:wl 1≤4294967296:=Nat.le_trans (ZfP.2 (by rw [Zam]; decide)) (by decide)
theorem Zle {w:World} {b:Nat} (h:Blk 94 w b #[.int .u64 1]):Zal w (.slice (some ⟨b,0,none⟩) 1 1) 1 :=
 ⟨_,[1],1,rfl,Nat.le_refl _,(Blk.own1 (r:=1) h).shows0,Dig.nil.cons (by rw [Zam]; decide),Zus,rfl⟩
def Zhi (w:World) (Q:Nat) (v:Value):Prop:=Q < w.heap.size∧w.cell? ⟨Q,0,none⟩=some v
theorem Zhi.ext {w w':World} {Q:Nat} {v:Value} (h:Zhi w Q v) (hf:Ext w w'):Zhi w' Q v:=⟨Nat.lt_of_lt_of_le h.1 hf.size,(hf.cell (p:=⟨Q,0,none⟩) h.1 (fun f=>f)).trans h.2⟩
set_option maxHeartbeats 1000000 in
theorem Zrp (Q:Nat) (A:Option Addr) (l c:Nat) (w:World) (h:Zhi w Q (.slice A l c)):Calls Tryz.prog 143 #[.pointer (some ⟨Q,0,none⟩)] w (RetV w (.bool (decide (0 < l)))):=by
 have hc:=h.2
 go_enter Tryz.func143,Tryz.ntmps143
 go_wp2
 go_ret
 exact ⟨congrArg Ending.returned (congrArg Value.bool (decide_eq_decide.2 (by omega))),Fr.refl _ _⟩
theorem ZeZ (s:Bool) (A:Option Addr) (l c n:Nat) (e:Int) (w:World) (hg:Glob w) (hN:Zal w (.slice A l c) n) (hw:wl n≤4294967296) (he1 : -1152921504606846976≤e) (he2:e≤1152921504606846976) :
 Calls Tryz.prog 118 #[.bool s, .slice A l c, .int .i64 e] w (ZdF w (ZbU s n e)):=by
 refine Zaz (Φ:=fun w=>(Glob w∧Zal w (.slice A l c) (n))) Tryz.func118 rfl (by kernel_rfl) (fun w' hf=>⟨hg.ext hf,hN.ext hf⟩) ?_
 refine Zac ?_
 have hln:=hN.len0
 have htz:=Zur hw
 have hzz:=@Zgz n
 refine Zab (xq 2 [(6, .p 6 0),(7, .v (.int .i64 0))] [(6,79,[.v (.bool false), .v (.slice none 0 0), .v (.int .i64 0)])] ?_)
 refine xe (Zaa (Zac (Zac (Zab (xq 3 [(11, .v (.bool ((((l:Nat):Int):Int) == 0)))] [] ?_)))))
 refine xe (Zaa ?_)
 refine ZaA (((((l:Nat):Int):Int) == 0)) (by kernel_rfl) (fun hb10=>?_) (fun hb10=>?_)
 ·have hb10':=beq_iff_eq.1 hb10
  have h0:n=0:=by omega
  refine Zac (Zab (xq 3 [(7, .v (.int .i64 0))] [] ?_))
  refine xe (Zaa (Zaj (Zak ?_)))
  refine Zaf (v:=.tuple #[.agg #[.bool false, .slice none 0 0, .int .i64 0], .int .i64 0]) (by kernel_rfl) (fun w' R Q=>?_)
  rw [h0,Zp9]
  exact ⟨(none,0,0),rfl,Zal.zero _,R⟩
 ·have hb10':=ZbS hb10
  have h0:0 < n:=by omega
  refine Zap (Zaa (Zac (Zab (xq 1 [eS1 13 A l c] [] ?_))))
  refine xqc 157 [.slice A l c] 14 (fun _:Unit=>.int .i64 ((tzn n:Nat):Int)) _ (fun w R Q=>(Zkz Q.1 Q.2 hw h0).mono (fun _ _ h=>Zad h rfl)) (fun xx=>?_)
  refine xq 1 [(8, .v (.int .i64 ((tzn n:Nat):Int)))] [] ?_
  refine xe (Zaa (Zac (Zab (xq 3 [(17, .v (.int .i64 (IntKind.i64.wrap (e + ((tzn n:Nat):Int)))))] [] ?_))))
  rw [show IntKind.i64.wrap (e + ((tzn n:Nat):Int))=e + ((tzn n:Nat):Int) from by rw [IntKind.wrap_i64]; omega]
  refine xq 1 [(2, .v (.int .i64 (e + ((tzn n:Nat):Int))))] [] ?_
  refine xe (Zaa (Zac (Zac (Zab (xq 3 [(20, .v (.bool (decide ((e + ((tzn n:Nat):Int)) < (-1048576)))))] [] ?_)))))
  rcases bl2 ((decide ((e + ((tzn n:Nat):Int)) < (-1048576)))) with hb11 | hb11
  ·rw [hb11]
   have hb11':=of_decide_eq_true hb11
   refine xq 3 [(23, .v (.bool true))] [] ?_
   refine xe (Zaa (xa (Zac (Zab (xq 3 [(7, .v (.int .i64 2))] [] ?_)))))
   refine xe (Zaa (Zaj (Zak ?_)))
   refine Zaf (v:=.tuple #[.agg #[.bool false, .slice none 0 0, .int .i64 0], .int .i64 2]) (by kernel_rfl) (fun w' R Q=>?_)
   rw [ZlS s h0 (by omega)]
   exact ⟨(none,0,0),rfl,Zal.zero _,R⟩
  ·rw [hb11]
   have hb11':=of_decide_eq_false hb11
   refine xq 3 [(23, .v (.bool (decide ((e + ((tzn n:Nat):Int)) > 1048576))))] [] ?_
   refine xe (Zaa ?_)
   refine ZaA ((decide ((e + ((tzn n:Nat):Int)) > 1048576))) (by kernel_rfl) (fun hb12=>?_) (fun hb12=>?_)
   ·have hb12':=of_decide_eq_true hb12
    refine Zac (Zab (xq 3 [(7, .v (.int .i64 2))] [] ?_))
    refine xe (Zaa (Zaj (Zak ?_)))
    refine Zaf (v:=.tuple #[.agg #[.bool false, .slice none 0 0, .int .i64 0], .int .i64 2]) (by kernel_rfl) (fun w' R Q=>?_)
    rw [ZlS s h0 (by omega)]
    exact ⟨(none,0,0),rfl,Zal.zero _,R⟩
   ·have hb12':=of_decide_eq_false hb12
    refine Zap (Zaa (Zac (Zab (xq 3 [(25, .v (.bool s)),eS1 26 A l c,(27, .v (.int .i64 ((tzn n:Nat):Int)))] [] ?_))))
    refine xqc 128 [.slice A l c, .int .i64 ((tzn n:Nat):Int)] 28 Za7 _ (fun w R Q=>(Zid (tzn n) Q.1.2 hw (by omega)).mono (fun _ _=>Zbd)) (fun xx=>?_)
    obtain ⟨A13,l13,c13⟩:=xx
    refine xq 4 [(7, .v (.int .i64 0))] [(6,79,[.v (.bool s), .v (.slice A13 l13 c13), .v (.int .i64 (e + ((tzn n:Nat):Int)))])] ?_
    refine xe (Zaa (Zaj ?_))
    refine Zaf (v:=.tuple #[.agg #[.bool s, .slice A13 l13 c13, .int .i64 (e + ((tzn n:Nat):Int))], .int .i64 0]) (by kernel_rfl) (fun w' R Q=>?_)
    rw [Zns s h0 (by omega) (by omega)]
    exact ⟨(A13,l13,c13),rfl,Q.2,R⟩
theorem Zqb (s:Bool) (A:Option Addr) (l c n:Nat) (e:Int) (bits:Nat) (Q:Nat) (A2:Option Addr) (l2 c2:Nat) (w:World) (hg:Glob w) (hN:Zal w (.slice A l c) n) (hw:wl n≤4294967296) (he1 : -576460752303423488≤e) (he2:e≤576460752303423488) (hb:bits≤4294967296) (hQ:Zhi w Q (.slice A2 l2 c2)) :
 Calls Tryz.prog 123 #[.bool s, .slice A l c, .int .i64 e, .int .i64 ((bits:Nat):Int), .func (.func 143) #[] #[.pointer (some ⟨Q,0,none⟩)]] w (ZdF w (Zdr s n e bits (decide (0 < l2)))):=by
 refine Zaz (Φ:=fun w=>((Glob w∧Zal w (.slice A l c) (n))∧Zhi w Q (.slice A2 l2 c2))) Tryz.func123 rfl (by kernel_rfl) (fun w' hf=>⟨⟨hg.ext hf,hN.ext hf⟩,hQ.ext hf⟩) ?_
 refine Zac ?_
 have hbw:=Zro hw
 by_cases hfew:blen n≤bits
 ·obtain ⟨k,hk⟩:∃ k,bits=blen n + k:=⟨bits - blen n,by omega⟩
  refine Zab (xq 2 [(10, .p 10 0),(11, .v (.int .i64 0))] [(10,79,[.v (.bool false), .v (.slice none 0 0), .v (.int .i64 0)])] ?_)
  refine xe (Zaa (Zac (Zab (xq 1 [eS1 14 A l c] [] ?_))))
  refine xqc 65 [.slice A l c] 15 (fun _:Unit=>.int .i64 ((blen n:Nat):Int)) _ (fun w S R=>(ZcX R.1.2 hw).mono (fun _ _ h=>Zad h rfl)) (fun xx=>?_)
  refine xq 2 [(17, .v (.int .i64 (IntKind.i64.wrap (((blen n:Nat):Int) - ((bits:Nat):Int)))))] [] ?_
  rw [show IntKind.i64.wrap (((blen n:Nat):Int) - ((bits:Nat):Int)) = -((k:Nat):Int) from by rw [IntKind.wrap_i64]; omega]
  refine xq 1 [(12, .v (.int .i64 (-((k:Nat):Int))))] [] ?_
  refine xe (Zaa (Zac (Zac (Zab (xq 2 [(19, .v (.bool (decide ((-((k:Nat):Int))≤0))))] [] ?_)))))
  rw [show decide (-((k:Nat):Int)≤0)=true from decide_eq_true (by omega)]
  refine xe (Zaa (xa (Zac (Zab (xq 3 [(20, .v (.bool s)),eS1 21 A l c,(22, .v (.int .i64 e))] [] ?_)))))
  obtain ⟨r10,hr10⟩:∃ r,ZbU s (n) (e)=r:=⟨_,rfl⟩
  refine xqc 118 [.bool s, .slice A l c, .int .i64 e] 23 (shNb r10) _ (fun w S R=>((show Calls _ _ _ _ (ZdF w r10) from by rw [← hr10]; exact ZeZ s _ _ _ _ _ _ R.1.1.1 R.1.1.2 hw (by omega) (by omega))).mono (fun _ _=>Zev)) (fun xx=>?_)
  obtain ⟨A10,l10,c10⟩:=xx
  refine xq 4 [(11, .v (.int .i64 r10.err))] [(10,79,[.v (.bool r10.s), .v (.slice A10 l10 c10), .v (.int .i64 r10.e)])] ?_
  refine xe (Zaa (Zaj (Zak ?_)))
  refine Zaf (v:=.tuple #[.agg #[.bool r10.s, .slice A10 l10 c10, .int .i64 r10.e], .int .i64 r10.err]) (by kernel_rfl) (fun w' S R=>?_)
  rw [Zqa hfew,hr10]
  exact ⟨(A10,l10,c10),rfl,R.2,S⟩
 ·obtain ⟨j,hj⟩:∃ j,blen n=bits + (j + 1):=⟨blen n - bits - 1,by omega⟩
  have h0:0 < n:=Nat.pos_of_ne_zero (fun e=>by rw [e,Zda] at hfew; omega)
  have hw2:wl (n / 2 ^ (j + 1))≤4294967296:=Nat.le_trans (Zcm (Nat.div_le_self _ _)) hw
  have hw3:wl (n / 2 ^ (j + 1) + 1)≤4294967296:=Nat.le_trans (Zcm (Nat.div_lt_self h0 (Nat.one_lt_two_pow (by omega)))) hw
  obtain ⟨b1,hb1⟩:∃ b:Bool,decide (n / 2 ^ j % 2=1)=b:=⟨_,rfl⟩
  obtain ⟨b2,hb2⟩:∃ b:Bool,decide (n / 2 ^ (j + 1) / 2 ^ 0 % 2=1)=b:=⟨_,rfl⟩
  obtain ⟨b3,hb3⟩:∃ b:Bool,(decide (0 < l2))=b:=⟨_,rfl⟩
  refine Zab (xq 2 [(10, .p 10 0),(11, .v (.int .i64 0))] [(10,79,[.v (.bool false), .v (.slice none 0 0), .v (.int .i64 0)])] ?_)
  refine xe (Zaa (Zac (Zab (xq 1 [eS1 14 A l c] [] ?_))))
  refine xqc 65 [.slice A l c] 15 (fun _:Unit=>.int .i64 ((blen n:Nat):Int)) _ (fun w S R=>(ZcX R.1.2 hw).mono (fun _ _ h=>Zad h rfl)) (fun xx=>?_)
  refine xq 2 [(17, .v (.int .i64 (IntKind.i64.wrap (((blen n:Nat):Int) - ((bits:Nat):Int)))))] [] ?_
  rw [show IntKind.i64.wrap (((blen n:Nat):Int) - ((bits:Nat):Int))=((j + 1:Nat):Int) from by rw [IntKind.wrap_i64]; omega]
  refine xq 1 [(12, .v (.int .i64 ((j + 1:Nat):Int)))] [] ?_
  refine xe (Zaa (Zac (Zac (Zab (xq 2 [(19, .v (.bool (decide (((j + 1:Nat):Int)≤0))))] [] ?_)))))
  rw [show decide (((j + 1:Nat):Int)≤0)=false from decide_eq_false (by omega)]
  refine xe (Zaa (xb (Zap (Zaa (Zac (Zab (xq 2 [eS1 26 A l c,(27, .v (.int .i64 ((j + 1:Nat):Int)))] [] ?_)))))))
  refine xqc 128 [.slice A l c, .int .i64 ((j + 1:Nat):Int)] 28 Za7 _ (fun w S R=>(Zid (j + 1) R.1.1.2 hw (by omega)).mono (fun _ _=>Zbd)) (fun xx=>?_)
  obtain ⟨A11,l11,c11⟩:=xx
  refine xq 1 [eS1 13 A11 l11 c11] [] ?_
  refine xe (Zaa (Zac (Zac (Zab (xq 3 [eS1 29 A l c,(31, .v (.int .i64 (IntKind.i64.wrap (((j + 1:Nat):Int) - 1))))] [] ?_)))))
  rw [show IntKind.i64.wrap (((j + 1:Nat):Int) - 1)=((j:Nat):Int) from by rw [IntKind.wrap_i64]; omega]
  refine xqc 158 [.slice A l c, .int .i64 ((j:Nat):Int)] 32 (fun _:Unit=>.bool b1) _ (fun w S R=>((show Calls _ _ _ _ (RetV w (.bool b1)) from by rw [← hb1]; exact Znr (j) R.1.1.1.2 (by omega))).mono (fun _ _ h=>Zad h rfl)) (fun xx=>?_)
  refine xq 1 [(33, .v (.bool b1))] [] ?_
  rcases bl2 (b1) with hb12 | hb12
  ·rw [hb12]
   have k1:=of_decide_eq_true (hb1.trans hb12)
   refine xq 1 [eS1 34 A l c] [] ?_
   refine xqc 157 [.slice A l c] 35 (fun _:Unit=>.int .i64 ((tzn n:Nat):Int)) _ (fun w S R=>(Zkz R.1.1.1.1.1 R.1.1.1.1.2 hw h0).mono (fun _ _ h=>Zad h rfl)) (fun xx=>?_)
   refine xq 2 [(37, .v (.int .i64 (IntKind.i64.wrap (((j + 1:Nat):Int) - 1))))] [] ?_
   rw [show IntKind.i64.wrap (((j + 1:Nat):Int) - 1)=((j:Nat):Int) from by rw [IntKind.wrap_i64]; omega]
   refine xq 2 [(39, .v (.bool (decide (((tzn n:Nat):Int) < ((j:Nat):Int)))))] [] ?_
   rcases bl2 ((decide (((tzn n:Nat):Int) < ((j:Nat):Int)))) with hb13 | hb13
   ·rw [hb13]
    have hb13':=of_decide_eq_true hb13
    have k4:tzn n < j:=by omega
    refine xr 8 [(0, .v (.bool s)),(2, .v (.int .i64 e)),(10, .p 10 0),(11, .v (.int .i64 0)),(12, .v (.int .i64 ((j + 1:Nat):Int))),eS1 13 A11 l11 c11,(47, .v (.bool true))] [(10,79,[.v (.bool false), .v (.slice none 0 0), .v (.int .i64 0)])] ?_
    refine xe (Zaa (xa (Zab (xq 1 [eS1 48 A11 l11 c11] [] ?_))))
    refine Zd4 (d:=49) (fun zb:Nat=>.slice (some ⟨zb,0,none⟩) 1 1) (fun zb zw=>Blk 94 zw zb #[.int .u64 1]) (by kernel_rfl) (by kernel_rfl) (by kernel_rfl) (by kernel_rfl) (by kernel_rfl) (by kernel_rfl) (fun w S R=>Zdy (t:=77) (e:=94) (n:=1) (sz:=1) (z:=.int .u64 0) (parts:=#[(0,Operand.const (Value.int IntKind.u64 1))]) (by kernel_rfl) (by kernel_rfl) (by kernel_rfl) (by kernel_rfl) (by kernel_rfl) (by kernel_rfl)) (fun b14=>?_)
    refine xr 0 [(0, .v (.bool s)),(2, .v (.int .i64 e)),(10, .p 10 0),(11, .v (.int .i64 0)),(12, .v (.int .i64 ((j + 1:Nat):Int))),eS1 13 A11 l11 c11,eS1 48 A11 l11 c11,eS1 49 (some ⟨b14,0,none⟩) 1 1] [(10,79,[.v (.bool false), .v (.slice none 0 0), .v (.int .i64 0)])] ?_
    refine xqc 126 [.slice A11 l11 c11, .slice (some ⟨b14,0,none⟩) 1 1] 50 Za7 _ (fun w S R=>(Zic R.1.1.1.2 (Zle R.2) hw2 wl_1).mono (fun _ _=>Zbd)) (fun xx=>?_)
    obtain ⟨A15,l15,c15⟩:=xx
    refine xq 1 [eS1 13 A15 l15 c15] [] ?_
    refine xe (Zaa (Zac (Zab (xq 5 [(51, .v (.bool s)),eS1 52 A15 l15 c15,(55, .v (.int .i64 (IntKind.i64.wrap (e + ((j + 1:Nat):Int)))))] [] ?_))))
    rw [show IntKind.i64.wrap (e + ((j + 1:Nat):Int))=e + ((j + 1:Nat):Int) from by rw [IntKind.wrap_i64]; omega]
    obtain ⟨r16,hr16⟩:∃ r,ZbU s (n / 2 ^ (j + 1) + 1) ((e + ((j + 1:Nat):Int)))=r:=⟨_,rfl⟩
    refine xqc 118 [.bool s, .slice A15 l15 c15, .int .i64 (e + ((j + 1:Nat):Int))] 56 (shNb r16) _ (fun w S R=>((show Calls _ _ _ _ (ZdF w r16) from by rw [← hr16]; exact ZeZ s _ _ _ _ _ _ R.1.1.1.1.1.1.1.1 R.2 hw3 (by omega) (by omega))).mono (fun _ _=>Zev)) (fun xx=>?_)
    obtain ⟨A16,l16,c16⟩:=xx
    refine xq 4 [(11, .v (.int .i64 r16.err))] [(10,79,[.v (.bool r16.s), .v (.slice A16 l16 c16), .v (.int .i64 r16.e)])] ?_
    refine xe (Zaa (Zaj ?_))
    refine Zaf (v:=.tuple #[.agg #[.bool r16.s, .slice A16 l16 c16, .int .i64 r16.e], .int .i64 r16.err]) (by kernel_rfl) (fun w' S R=>?_)
    rw [Zie hj k1 (Or.inl k4) h0,hr16]
    exact ⟨(A16,l16,c16),rfl,R.2,S⟩
   ·rw [hb13]
    have hb13':=of_decide_eq_false hb13
    have k4:¬ tzn n < j:=by omega
    refine xr 1 [(0, .v (.bool s)),(2, .v (.int .i64 e)),(4, .v (.func (.func 143) #[] #[.pointer (some ⟨Q,0,none⟩)])),(10, .p 10 0),(11, .v (.int .i64 0)),(12, .v (.int .i64 ((j + 1:Nat):Int))),eS1 13 A11 l11 c11,(33, .v (.bool true)),(39, .v (.bool false)),eS1 40 A11 l11 c11] [(10,79,[.v (.bool false), .v (.slice none 0 0), .v (.int .i64 0)])] ?_
    refine xqc 158 [.slice A11 l11 c11, .int .i64 0] 41 (fun _:Unit=>.bool b2) _ (fun w S R=>((show Calls _ _ _ _ (RetV w (.bool b2)) from by rw [← hb2]; exact Znr (0) R.1.1.2 (by omega))).mono (fun _ _ h=>Zad h rfl)) (fun xx=>?_)
    refine xq 2 [(43, .v (.bool b2))] [] ?_
    rcases bl2 (b2) with hb17 | hb17
    ·rw [hb17]
     have k2:=of_decide_eq_true (hb2.trans hb17)
     rw [Nat.pow_zero,Nat.div_one] at k2
     refine xq 4 [(47, .v (.bool true))] [] ?_
     refine xe (Zaa (xa (Zab (xq 1 [eS1 48 A11 l11 c11] [] ?_))))
     refine Zd4 (d:=49) (fun zb:Nat=>.slice (some ⟨zb,0,none⟩) 1 1) (fun zb zw=>Blk 94 zw zb #[.int .u64 1]) (by kernel_rfl) (by kernel_rfl) (by kernel_rfl) (by kernel_rfl) (by kernel_rfl) (by kernel_rfl) (fun w S R=>Zdy (t:=77) (e:=94) (n:=1) (sz:=1) (z:=.int .u64 0) (parts:=#[(0,Operand.const (Value.int IntKind.u64 1))]) (by kernel_rfl) (by kernel_rfl) (by kernel_rfl) (by kernel_rfl) (by kernel_rfl) (by kernel_rfl)) (fun b18=>?_)
     refine xr 0 [(0, .v (.bool s)),(2, .v (.int .i64 e)),(10, .p 10 0),(11, .v (.int .i64 0)),(12, .v (.int .i64 ((j + 1:Nat):Int))),eS1 13 A11 l11 c11,eS1 48 A11 l11 c11,eS1 49 (some ⟨b18,0,none⟩) 1 1] [(10,79,[.v (.bool false), .v (.slice none 0 0), .v (.int .i64 0)])] ?_
     refine xqc 126 [.slice A11 l11 c11, .slice (some ⟨b18,0,none⟩) 1 1] 50 Za7 _ (fun w S R=>(Zic R.1.1.1.1.2 (Zle R.2) hw2 wl_1).mono (fun _ _=>Zbd)) (fun xx=>?_)
     obtain ⟨A19,l19,c19⟩:=xx
     refine xq 1 [eS1 13 A19 l19 c19] [] ?_
     refine xe (Zaa (Zac (Zab (xq 5 [(51, .v (.bool s)),eS1 52 A19 l19 c19,(55, .v (.int .i64 (IntKind.i64.wrap (e + ((j + 1:Nat):Int)))))] [] ?_))))
     rw [show IntKind.i64.wrap (e + ((j + 1:Nat):Int))=e + ((j + 1:Nat):Int) from by rw [IntKind.wrap_i64]; omega]
     obtain ⟨r20,hr20⟩:∃ r,ZbU s (n / 2 ^ (j + 1) + 1) ((e + ((j + 1:Nat):Int)))=r:=⟨_,rfl⟩
     refine xqc 118 [.bool s, .slice A19 l19 c19, .int .i64 (e + ((j + 1:Nat):Int))] 56 (shNb r20) _ (fun w S R=>((show Calls _ _ _ _ (ZdF w r20) from by rw [← hr20]; exact ZeZ s _ _ _ _ _ _ R.1.1.1.1.1.1.1.1.1 R.2 hw3 (by omega) (by omega))).mono (fun _ _=>Zev)) (fun xx=>?_)
     obtain ⟨A20,l20,c20⟩:=xx
     refine xq 4 [(11, .v (.int .i64 r20.err))] [(10,79,[.v (.bool r20.s), .v (.slice A20 l20 c20), .v (.int .i64 r20.e)])] ?_
     refine xe (Zaa (Zaj ?_))
     refine Zaf (v:=.tuple #[.agg #[.bool r20.s, .slice A20 l20 c20, .int .i64 r20.e], .int .i64 r20.err]) (by kernel_rfl) (fun w' S R=>?_)
     rw [Zie hj k1 (Or.inr (Or.inl k2)) h0,hr20]
     exact ⟨(A20,l20,c20),rfl,R.2,S⟩
    ·rw [hb17]
     have k2:=of_decide_eq_false (hb2.trans hb17)
     rw [Nat.pow_zero,Nat.div_one] at k2
     refine xq 1 [(44, .v (.func (.func 143) #[] #[.pointer (some ⟨Q,0,none⟩)]))] [] ?_
     refine xqc 143 [.pointer (some ⟨Q,0,none⟩)] 45 (fun _:Unit=>.bool b3) _ (fun w S R=>((show Calls _ _ _ _ (RetV w (.bool b3)) from by rw [← hb3]; exact Zrp Q A2 l2 c2 _ R.1.1.1.1.1.2)).mono (fun _ _ h=>Zad h rfl)) (fun xx=>?_)
     refine xq 2 [(47, .v (.bool b3))] [] ?_
     refine xe (Zaa ?_)
     refine ZaA (b3) (by kernel_rfl) (fun hb21=>?_) (fun hb21=>?_)
     ·have k3:=hb3.trans hb21
      refine Zab (xq 1 [eS1 48 A11 l11 c11] [] ?_)
      refine Zd4 (d:=49) (fun zb:Nat=>.slice (some ⟨zb,0,none⟩) 1 1) (fun zb zw=>Blk 94 zw zb #[.int .u64 1]) (by kernel_rfl) (by kernel_rfl) (by kernel_rfl) (by kernel_rfl) (by kernel_rfl) (by kernel_rfl) (fun w S R=>Zdy (t:=77) (e:=94) (n:=1) (sz:=1) (z:=.int .u64 0) (parts:=#[(0,Operand.const (Value.int IntKind.u64 1))]) (by kernel_rfl) (by kernel_rfl) (by kernel_rfl) (by kernel_rfl) (by kernel_rfl) (by kernel_rfl)) (fun b22=>?_)
      refine xr 0 [(0, .v (.bool s)),(2, .v (.int .i64 e)),(10, .p 10 0),(11, .v (.int .i64 0)),(12, .v (.int .i64 ((j + 1:Nat):Int))),eS1 13 A11 l11 c11,eS1 48 A11 l11 c11,eS1 49 (some ⟨b22,0,none⟩) 1 1] [(10,79,[.v (.bool false), .v (.slice none 0 0), .v (.int .i64 0)])] ?_
      refine xqc 126 [.slice A11 l11 c11, .slice (some ⟨b22,0,none⟩) 1 1] 50 Za7 _ (fun w S R=>(Zic R.1.1.1.1.1.2 (Zle R.2) hw2 wl_1).mono (fun _ _=>Zbd)) (fun xx=>?_)
      obtain ⟨A23,l23,c23⟩:=xx
      refine xq 1 [eS1 13 A23 l23 c23] [] ?_
      refine xe (Zaa (Zac (Zab (xq 5 [(51, .v (.bool s)),eS1 52 A23 l23 c23,(55, .v (.int .i64 (IntKind.i64.wrap (e + ((j + 1:Nat):Int)))))] [] ?_))))
      rw [show IntKind.i64.wrap (e + ((j + 1:Nat):Int))=e + ((j + 1:Nat):Int) from by rw [IntKind.wrap_i64]; omega]
      obtain ⟨r24,hr24⟩:∃ r,ZbU s (n / 2 ^ (j + 1) + 1) ((e + ((j + 1:Nat):Int)))=r:=⟨_,rfl⟩
      refine xqc 118 [.bool s, .slice A23 l23 c23, .int .i64 (e + ((j + 1:Nat):Int))] 56 (shNb r24) _ (fun w S R=>((show Calls _ _ _ _ (ZdF w r24) from by rw [← hr24]; exact ZeZ s _ _ _ _ _ _ R.1.1.1.1.1.1.1.1.1.1 R.2 hw3 (by omega) (by omega))).mono (fun _ _=>Zev)) (fun xx=>?_)
      obtain ⟨A24,l24,c24⟩:=xx
      refine xq 4 [(11, .v (.int .i64 r24.err))] [(10,79,[.v (.bool r24.s), .v (.slice A24 l24 c24), .v (.int .i64 r24.e)])] ?_
      refine xe (Zaa (Zaj ?_))
      refine Zaf (v:=.tuple #[.agg #[.bool r24.s, .slice A24 l24 c24, .int .i64 r24.e], .int .i64 r24.err]) (by kernel_rfl) (fun w' S R=>?_)
      rw [Zie hj k1 (Or.inr (Or.inr k3)) h0,hr24]
      exact ⟨(A24,l24,c24),rfl,R.2,S⟩
     ·have k3:=hb3.trans hb21
      refine Zap (Zaa (Zac (Zab (xq 5 [(51, .v (.bool s)),eS1 52 A11 l11 c11,(55, .v (.int .i64 (IntKind.i64.wrap (e + ((j + 1:Nat):Int)))))] [] ?_))))
      rw [show IntKind.i64.wrap (e + ((j + 1:Nat):Int))=e + ((j + 1:Nat):Int) from by rw [IntKind.wrap_i64]; omega]
      obtain ⟨r25,hr25⟩:∃ r,ZbU s (n / 2 ^ (j + 1)) ((e + ((j + 1:Nat):Int)))=r:=⟨_,rfl⟩
      refine xqc 118 [.bool s, .slice A11 l11 c11, .int .i64 (e + ((j + 1:Nat):Int))] 56 (shNb r25) _ (fun w S R=>((show Calls _ _ _ _ (ZdF w r25) from by rw [← hr25]; exact ZeZ s _ _ _ _ _ _ R.1.1.1.1.1.1.1.1 R.1.1.1.1.2 hw2 (by omega) (by omega))).mono (fun _ _=>Zev)) (fun xx=>?_)
      obtain ⟨A25,l25,c25⟩:=xx
      refine xq 4 [(11, .v (.int .i64 r25.err))] [(10,79,[.v (.bool r25.s), .v (.slice A25 l25 c25), .v (.int .i64 r25.e)])] ?_
      refine xe (Zaa (Zaj ?_))
      refine Zaf (v:=.tuple #[.agg #[.bool r25.s, .slice A25 l25 c25, .int .i64 r25.e], .int .i64 r25.err]) (by kernel_rfl) (fun w' S R=>?_)
      rw [Zjl hj h0 (fun h=>by rcases h.2 with h | h | h; exact k4 h; exact k2 h; rw [k3] at h; cases h),hr25]
      exact ⟨(A25,l25,c25),rfl,R.2,S⟩
  ·rw [hb12]
   have k1:=of_decide_eq_false (hb1.trans hb12)
   refine xq 14 [(47, .v (.bool false))] [] ?_
   refine xe (Zaa (xb (Zap (Zaa (Zac (Zab (xq 5 [(51, .v (.bool s)),eS1 52 A11 l11 c11,(55, .v (.int .i64 (IntKind.i64.wrap (e + ((j + 1:Nat):Int)))))] [] ?_)))))))
   rw [show IntKind.i64.wrap (e + ((j + 1:Nat):Int))=e + ((j + 1:Nat):Int) from by rw [IntKind.wrap_i64]; omega]
   obtain ⟨r26,hr26⟩:∃ r,ZbU s (n / 2 ^ (j + 1)) ((e + ((j + 1:Nat):Int)))=r:=⟨_,rfl⟩
   refine xqc 118 [.bool s, .slice A11 l11 c11, .int .i64 (e + ((j + 1:Nat):Int))] 56 (shNb r26) _ (fun w S R=>((show Calls _ _ _ _ (ZdF w r26) from by rw [← hr26]; exact ZeZ s _ _ _ _ _ _ R.1.1.1.1.1 R.1.2 hw2 (by omega) (by omega))).mono (fun _ _=>Zev)) (fun xx=>?_)
   obtain ⟨A26,l26,c26⟩:=xx
   refine xq 4 [(11, .v (.int .i64 r26.err))] [(10,79,[.v (.bool r26.s), .v (.slice A26 l26 c26), .v (.int .i64 r26.e)])] ?_
   refine xe (Zaa (Zaj ?_))
   refine Zaf (v:=.tuple #[.agg #[.bool r26.s, .slice A26 l26 c26, .int .i64 r26.e], .int .i64 r26.err]) (by kernel_rfl) (fun w' S R=>?_)
   rw [Zjl hj h0 (fun h=>k1 h.1),hr26]
   exact ⟨(A26,l26,c26),rfl,R.2,S⟩
end Go.Proofs.YtklpdkpcocnglaaGreatDoor

namespace Go.Proofs.YtklpdkpcocnglaaGreatDoor
open Go.RowKit
theorem Zrq {u v:Value} {m n:Nat} {w:World} (hu:Zal w u m) (hv:Zal w v n) (hm:wl m≤4294967295) (hn:wl n≤4294967296) (h0:0 < n):Calls Tryz.prog 142 #[u,v] w (ZfY w (m / n) (m % n)):=by
 have hu':=hu
 have hv':=hv
 obtain ⟨A,xs,c,rfl,hc,h1,h2,h3,rfl⟩:=hu
 obtain ⟨A2,ys,c2,rfl,hc2,k1,k2,k3,rfl⟩:=hv
 rw [← ZaN h2 h3] at hm
 rw [← ZaN k2 k3] at hn
 exact Zrn A A2 xs ys c c2 w h1 k1 hm hn h2 k2 hu' hv' h3 k3 h0
theorem Zsz {s:Bool} {A:Option Addr} {l c:Nat} {e:Int}:ZoY #[.bool s, .slice A l c, .int .i64 e]:=by
 intro i k; rcases i with _ | _ | _ | i<;>simp
theorem Blk.cell3n {t:TypeId} {w:World} {g:Nat} {x y z:Value} (h:Blk t w g #[x,y,z]):w.cell? ⟨g,0,none⟩=some x∧w.cell? ⟨g,1,none⟩=some y∧w.cell? ⟨g,2,none⟩=some z∧w.frozen? ⟨g,0,none⟩=false∧w.frozen? ⟨g,1,none⟩=false∧w.frozen? ⟨g,2,none⟩=false :=
 ⟨h.cell 0,h.cell 1,h.cell 2,h.frozen 0,h.frozen 1,h.frozen 2⟩
set_option maxHeartbeats 1000000 in
theorem Zut {fn:Func} {t t2:Tmp} {tmps:Array Value} {w wb w2:World} {r:Nat} {x:FR} {A A0:Option Addr} {l c l0 c0:Nat} {s0:Bool} {e0:Int}
 (hres:fn.results=#[.cell t 79, .tmp t2]) (ht:tmps[t]? = some (.pointer (some ⟨r,0,none⟩))) (ht2:tmps[t2]? = some (.int .i64 x.err)) (hr:w.heap.size≤r)
 (HE:Ext w wb) (HB:Blk 79 wb r #[.bool s0, .slice A0 l0 c0, .int .i64 e0]) (hF:Ext wb w2) (hN:Zal w2 (.slice A l c) x.m) :
 bodyPost Tryz.prog fn (ZdF w x) .ret ⟨tmps,[]⟩ (((w2.setCell ⟨r,0,none⟩ (.bool x.s)).setCell ⟨r,1,none⟩ (.slice A l c)).setCell ⟨r,2,none⟩ (.int .i64 x.e)):=by
 have hB0:=HB.ext hF
 have hB2:Blk 79 (((w2.setCell ⟨r,0,none⟩ (.bool x.s)).setCell ⟨r,1,none⟩ (.slice A l c)).setCell ⟨r,2,none⟩ (.int .i64 x.e)) r #[.bool x.s, .slice A l c, .int .i64 x.e]:=((hB0.set_ 0 _).set_ 1 _).set_ 2 _
 obtain ⟨h0,h1,h2,_⟩:=hB2.cell3n
 have hS:Fr (fun i=>i=r) w2 (((w2.setCell ⟨r,0,none⟩ (.bool x.s)).setCell ⟨r,1,none⟩ (.slice A l c)).setCell ⟨r,2,none⟩ (.int .i64 x.e)):=(((show Fr (fun i=>i=r) w2 w2 from Fr.refl _ _).setCell (p:=⟨r,0,none⟩) (Or.inl rfl) _).setCell (p:=⟨r,1,none⟩) (Or.inl rfl) _).setCell (p:=⟨r,2,none⟩) (Or.inl rfl) _
 have hN2:=hN.other hB0 Zsz hS
 have hE2:Ext w (((w2.setCell ⟨r,0,none⟩ (.bool x.s)).setCell ⟨r,1,none⟩ (.slice A l c)).setCell ⟨r,2,none⟩ (.int .i64 x.e)):=(((HE.trans hF).setCell (p:=⟨r,0,none⟩) (Or.inr hr) _).setCell (p:=⟨r,1,none⟩) (Or.inr hr) _).setCell (p:=⟨r,2,none⟩) (Or.inr hr) _
 generalize ((w2.setCell ⟨r,0,none⟩ (.bool x.s)).setCell ⟨r,1,none⟩ (.slice A l c)).setCell ⟨r,2,none⟩ (.int .i64 x.e)=W at *
 exact bodyPost_ret (v:=shNb x (A,l,c)) (by simp [results,hres,ht,ht2,go_sem,h0,h1,h2,shNb]) rfl ⟨(A,l,c),rfl,hN2,hE2⟩
theorem ZkB {a b:Nat} (h:a < 64 * b):wl (2 ^ a)≤b:=Zb1.2 (by rw [show W64=2 ^ 64 by rw [Zam],← Nat.pow_mul]; exact Nat.pow_lt_pow_right (by decide) h)
set_option maxHeartbeats 4000000 in
theorem Znt (s:Bool) (A:Option Addr) (l c n:Nat) (B:Option Addr) (m d k:Nat) (e:Int) (bits:Nat) (w:World) (hg:Glob w) (hN:Zal w (.slice A l c) n) (hK:Zal w (.slice B m d) k) (hwn:wl n≤1000000) (hwk:wl k≤1000000) (hk0:0 < k)
 (he1 : -288230376151711744≤e) (he2:e≤288230376151711744) (hb0:0 < bits) (hb:bits≤1000000) :
 Calls Tryz.prog 99 #[.bool s, .slice A l c, .slice B m d, .int .i64 e, .int .i64 ((bits:Nat):Int)] w (ZdF w (Zcf s n k e bits)):=by
 have hbn:=ZeY n
 have hbk:=ZeY k
 obtain ⟨a1,ha1⟩:∃ a,a=(rk0 n k bits - 1).toNat:=⟨_,rfl⟩
 obtain ⟨a2,ha2⟩:∃ a,a=(-(rk0 n k bits - 1)).toNat:=⟨_,rfl⟩
 obtain ⟨sh,hsh⟩:∃ x:Int,x=(bits:Int) + 1 + (blen k:Nat) - (blen n:Nat):=⟨_,rfl⟩
 have hrk:rk0 n k bits - 1 = -sh:=by unfold rk0; omega
 rw [hrk] at ha1 ha2
 rw [Int.neg_neg] at ha2
 have hs1 : -100000000≤sh:=by omega
 have hs2:sh≤100000000:=by omega
 have hfa:fa n (rk0 n k bits - 1)=n * 2 ^ a2:=by unfold fa; rw [hrk,Int.neg_neg,← ha2]
 have hfb:fb k (rk0 n k bits - 1)=k * 2 ^ a1:=by unfold fb; rw [hrk,← ha1]
 have hwa:wl (n * 2 ^ a2)≤4000000:=by
  refine Nat.le_trans (ZmJ _ _) ?_
  have:wl (2 ^ a2)≤2000001:=ZkB (by omega)
  omega
 have hwb:wl (k * 2 ^ a1)≤4000000:=by
  refine Nat.le_trans (ZmJ _ _) ?_
  have:wl (2 ^ a1)≤2000001:=ZkB (by omega)
  omega
 have hm1:(if (0:Int) > sh then (0:Int) else sh)=(a2:Int):=by split<;>omega
 have hm2:(if (0:Int) > -sh then (0:Int) else -sh)=(a1:Int):=by split<;>omega
 have HG:=zh hg
 have HN:=zh hN
 have HK:=zh hK
 clear hg hN hK
 obtain ⟨x,hx⟩:∃ x,Zcf s n k e bits=x:=⟨_,rfl⟩
 rw [hx]
 have HX:=zh hx
 clear hx
 go_enter Tryz.func99,Tryz.ntmps99
 go_wp2_with fail
 refine (ZcX (HK.out.ext ((Fr.refl _ _).alloc _)) (by omega)).mono ?_
 rintro e1 w1 ⟨rfl,hE1⟩
 have HE1:Hid (Ext w w1):=((Fr.refl _ _).alloc _).trans hE1
 have HB1:Hid (Blk 79 w1 w.heap.size #[.bool false, .slice none 0 0, .int .i64 0]):=(show Blk 79 (w.alloc (.cells #[.bool false, .slice none 0 0, .int .i64 0] 79)) w.heap.size #[.bool false, .slice none 0 0, .int .i64 0] from heap_alloc_new w _).ext hE1
 clear hE1
 go_wp2_with fail
 refine (ZcX (HN.out.ext HE1.out) (by omega)).mono ?_
 rintro e1 w2 ⟨rfl,hE2⟩
 have HE2:=zh (HE1.out.trans hE2)
 have HB2:=zh (HB1.out.ext hE2)
 clear hE2
 go_wp2_with fail
 rw [show max ((bits:Int) + 1 + (blen k:Nat) - (blen n:Nat)) 0=((a2:Nat):Int) from by omega]
 refine (Zeu a2 (HN.out.ext HE2.out) (by omega) (by omega)).mono ?_
 rintro e1 w3 ⟨v3,rfl,hN3,hE3⟩
 obtain ⟨A3,l3,c3,rfl⟩:=hN3.slice
 have HE3:=zh (HE2.out.trans hE3)
 have HB3:=zh (HB2.out.ext hE3)
 have HN3:=zh hN3
 clear hN3 hE3
 go_wp2_with fail
 rw [show max (-((bits:Int) + 1 + (blen k:Nat) - (blen n:Nat))) 0=((a1:Nat):Int) from by omega]
 refine (Zeu a1 (HK.out.ext HE3.out) (by omega) (by omega)).mono ?_
 rintro e1 w4 ⟨v4,rfl,hN4,hE4⟩
 obtain ⟨A4,l4,c4,rfl⟩:=hN4.slice
 have HE4:=zh (HE3.out.trans hE4)
 have HB4:=zh (HB3.out.ext hE4)
 have HN3':=zh (HN3.out.ext hE4)
 have HN4:=zh hN4
 clear hN4 hE4
 go_wp2_with fail
 refine (Zrq HN3'.out HN4.out (by omega) (by omega) (Nat.mul_pos hk0 (p2 a1))).mono ?_
 rintro e1 w5 ⟨v5,v6,rfl,hN5,hN6,hE5⟩
 obtain ⟨A5,l5,c5,rfl⟩:=hN5.slice
 obtain ⟨A6,l6,c6,rfl⟩:=hN6.slice
 have HE5:=zh (HE4.out.trans hE5)
 have HB5:=zh (HB4.out.ext hE5)
 have HN5:=zh hN5
 have HN6:=zh hN6
 clear hN5 hN6 hE5
 go_wp2_with fail
 have hbox:Zhi (w5.alloc (.cells #[.slice A6 l6 c6] 77)) w5.heap.size (.slice A6 l6 c6):=⟨by simp,by rw [Lib.cell_of_heap (heap_alloc_new w5 _)]; rfl⟩
 have hwq:wl (n * 2 ^ a2 / (k * 2 ^ a1))≤4294967296:=Nat.le_trans (Zcm (Nat.div_le_self _ _)) (by omega)
 refine (Zqb s A5 l5 c5 _ _ bits _ A6 l6 c6 _ (HG.out.ext (HE5.out.alloc _)) (HN5.out.ext ((Fr.refl _ _).alloc _)) hwq (by omega) (by omega) (by omega) hbox).mono ?_
 rintro e1 w6 ⟨⟨A7,l7,c7⟩,rfl,hN7,hE7⟩
 have hr:Zdr s (n * 2 ^ a2 / (k * 2 ^ a1)) (e - ((bits:Int) + 1 + (blen k:Nat) - (blen n:Nat))) bits (decide (0 < l6))=x:=by
  rw [← HX.out,← hsh]
  rcases Nat.eq_zero_or_pos n with rfl | hn
  ·rw [Nat.zero_mul,Nat.zero_div,Zot,ZkA]
  ·have h:=Zou s (n:=n) (d:=k) e (bits:=bits) hn hk0 hb0
   have hq:fq n k (rk0 n k bits - 1)=n * 2 ^ a2 / (k * 2 ^ a1):=by unfold fq; rw [hfa,hfb]
   rw [hq,hfa,hfb,hrk] at h
   rw [← h,show e + -sh=e - sh by omega]
   congr 1
   have hl6:=HN6.out.len0
   exact decide_eq_decide.2 (by rw [hl6]; have:=@Zgz (n * 2 ^ a2 % (k * 2 ^ a1)); omega)
 rw [hr] at hN7
 rw [hr]
 clear hr
 have HN7:=zh hN7
 have HE6:Hid (Ext w w6):=(HE5.out.alloc _).trans hE7
 have HB6:=zh ((HB5.out.ext ((Fr.refl _ _).alloc _)).ext hE7)
 obtain ⟨z0,z1,z2,z3,z4,z5⟩:=HB6.out.cell3n
 clear hN7 hE7 hbox
 simp only [shNb]
 go_wp2
 exact Zut rfl rfl rfl (Nat.le_refl _) HE6.out HB6.out (Fr.refl _ _) HN7.out
end Go.Proofs.YtklpdkpcocnglaaGreatDoor

namespace Go.Proofs.YtklpdkpcocnglaaGreatDoor
open Go.RowKit
theorem ZfF {a b:Int}:(if b < a then b else a)=min a b:=by omega
theorem ZmC {n a:Nat} (hn:wl n≤1000000) (ha:a≤100000000):wl (n * 2 ^ a)≤4000000:=by
 have:=ZmJ n (2 ^ a)
 have:wl (2 ^ a)≤2000001:=ZkB (by omega)
 omega
section
variable {s t:Bool} {a b bits:Nat} {low:Int}
end
theorem Zdb (s:Bool) (A:Option Addr) (l c x:Nat) (e:Int) (w:World) (hX:Zal w (.slice A l c) x) (hwx:wl x≤4294967296) (he1 : -1152921504606846976≤e) (he2:e≤1152921504606846976) :
 Calls Tryz.prog 121 #[.agg #[.bool s, .slice A l c, .int .i64 e]] w (RetV w (.int .i64 (((blen x:Nat):Int) + e))):=by
 refine Zaz (Φ:=fun w=>Zal w (.slice A l c) (x)) Tryz.func121 rfl (by kernel_rfl) (fun w' hf=>hX.ext hf) ?_
 refine Zac ?_
 have hbw:=Zro hwx
 refine Zab (xq 2 [(1, .p 1 0),(2, .v (.int .i64 0))] [(1,79,[.v (.bool s), .v (.slice A l c), .v (.int .i64 e)])] ?_)
 refine xe (Zaa (Zac ?_))
 refine ZaC 7 (by kernel_rfl) (by kernel_rfl) Zah ?_
 refine xqg 2 [eS1 4 A l c] ?_
 refine xqd 65 [.slice A l c] 5 (fun _:Unit=>.int .i64 ((blen x:Nat):Int)) _ (fun w R Q=>(ZcX Q hwx).mono (fun _ _ h=>Zad h rfl)) (fun xx=>?_)
 refine xqg 3 [(8, .v (.int .i64 (IntKind.i64.wrap (((blen x:Nat):Int) + e))))] ?_
 rw [show IntKind.i64.wrap (((blen x:Nat):Int) + e)=((blen x:Nat):Int) + e from by rw [IntKind.wrap_i64]; omega]
 refine xqg 1 [(2, .v (.int .i64 (((blen x:Nat):Int) + e)))] ?_
 refine xz (xe (Zaa (Zaj ?_)))
 refine Zaf (v:=.int .i64 (((blen x:Nat):Int) + e)) (by kernel_rfl) (fun w' R Q=>?_)
 exact ⟨rfl,R⟩
end Go.Proofs.YtklpdkpcocnglaaGreatDoor

namespace Go.Proofs.YtklpdkpcocnglaaGreatDoor
open Go.RowKit
end Go.Proofs.YtklpdkpcocnglaaGreatDoor

namespace Go.Proofs.YtklpdkpcocnglaaGreatDoor
open Go.RowKit
def ZaB (q:Rat):List UInt8:=if q.den=1 then Lib.itoa q.num else Lib.itoa q.num ++ [47] ++ Lib.itoa (q.den:Int)
end Go.Proofs.YtklpdkpcocnglaaGreatDoor

namespace Go.Proofs.YtklpdkpcocnglaaGreatDoor
open Go.RowKit
theorem Znw {x y:Int} (hy:0 < y):(Rat.divInt x y).num=x.tdiv (Int.gcd x y:Int)∧((Rat.divInt x y).den:Int)=y.tdiv (Int.gcd x y:Int):=by
 have hd1:(Int.gcd x y:Int) ∣ x:=Int.gcd_dvd_left _ _
 have hd2:(Int.gcd x y:Int) ∣ y:=Int.gcd_dvd_right _ _
 rw [Rat.num_divInt,Rat.den_divInt,if_neg (by omega),Int.sign_eq_one_of_pos hy,Int.one_mul,Int.gcd_comm y x,Int.tdiv_eq_ediv_of_dvd hd1,Int.tdiv_eq_ediv_of_dvd hd2]
 refine ⟨rfl,?_⟩
 rw [Int.natCast_ediv]
 congr 1
 omega
theorem Zig {x y:Int} (hy:0 < y) (h:((Int.gcd x y:Nat):Int)=1):(Rat.divInt x y).num=x∧((Rat.divInt x y).den:Int)=y:=by
 have:=Znw (x:=x) hy
 rwa [h,Int.tdiv_one,Int.tdiv_one] at this
end Go.Proofs.YtklpdkpcocnglaaGreatDoor

namespace Go.Proofs.YtklpdkpcocnglaaGreatDoor
open Go.RowKit
theorem ZkC {c:UInt8} (h:Zat c=true):UInt8.ofNat (48 + (c.toNat - 48))=c:=by
 have:=ZdV h
 apply UInt8.toNat.inj
 rw [UInt8.toNat_ofNat']
 have:=c.toNat_lt
 omega
theorem Znx:∀ (k:Nat) (l:List UInt8),l.length=k→l.all Zat=true→l≠[]→l.head? ≠ some 48→Lib.decDigits (Zag l)=l:=by
 intro k
 induction k with
 | zero=>intro l hl _ h0; exact absurd (List.length_eq_zero_iff.1 hl) h0
 | succ k ih =>
   intro l hl hd h0 h48
   obtain ⟨l',c,rfl⟩:∃ l' c,l=l' ++ [c]:=by
    rcases List.eq_nil_or_concat l with h | ⟨l',c,h⟩
    ·exact absurd h h0
    ·exact ⟨l',c,by simpa using h⟩
   rw [List.all_append,Bool.and_eq_true] at hd
   have hc:Zat c=true:=by simpa using hd.2
   have hcb:=ZdV hc
   rw [Zdx]
   by_cases hl0:l'=[]
   ·subst hl0
    have e:Zag []=0:=rfl
    rw [e,Nat.mul_zero,Nat.zero_add,Zdz (by omega),ZkC hc]; rfl
   ·have hh:l'.head? ≠ some 48:=by
     rw [List.head?_append] at h48
     cases hx:l'.head? with
     | none=>exact absurd (List.head?_eq_none_iff.1 hx) hl0
     | some x=>rw [hx] at h48; exact h48
    have h1:=ih l' (by simp at hl; exact hl) hd.1 hl0 hh
    have hp:=(Zhb hd.1 hl0 hh).1
    rw [Zhj (by omega),show (10 * Zag l' + (c.toNat - 48)) / 10=Zag l' by omega,show (10 * Zag l' + (c.toNat - 48)) % 10=c.toNat - 48 by omega,h1,ZkC hc]
theorem Zox (n:Nat):(Lib.decDigits n).head? ≠ some 45:=by
 intro e
 cases h:Lib.decDigits n with
 | nil=>exact Zbg n h
 | cons x xs =>
   rw [h] at e
   simp only [List.head?_cons,Option.some.injEq] at e
   subst e
   have:=ZbJ n
   rw [h] at this
   simp only [List.all_cons,Bool.and_eq_true] at this
   exact absurd this.1 (by decide)
theorem Ze0 {p:UInt8→Bool} {l r:List UInt8} {c:UInt8} (h:l.all p=true) (hc:p c=false):(l ++ c :: r).takeWhile p=l∧(l ++ c :: r).dropWhile p=c :: r:=by
 induction l with
 | nil=>simp [hc]
 | cons x xs ih =>
   simp only [List.all_cons,Bool.and_eq_true] at h
   obtain ⟨h1,h2⟩:=ih h.2
   rw [List.cons_append,List.takeWhile_cons,List.dropWhile_cons,h.1]
   simp [h1,h2]
theorem Zfc (z:Int) (r:List UInt8):Zay (Lib.itoa z ++ r)=(decide (z < 0),Lib.decDigits z.natAbs ++ r):=by
 by_cases h:z < 0
 ·rw [Zhk h,decide_eq_true h]
  unfold Zay
  rw [if_pos (by simp)]
  rfl
 ·rw [ZiP (by omega),decide_eq_false h]
  unfold Zay
  rw [if_neg]
  intro e
  rw [List.head?_append] at e
  cases hx:(Lib.decDigits z.natAbs).head? with
  | none=>exact absurd (List.head?_eq_none_iff.1 hx) (Zbg _)
  | some c =>
    rw [hx] at e
    exact Zox _ (hx.trans e)
theorem Zih (z:Int):sg (decide (z < 0)) z.natAbs=z:=by
 unfold sg
 split
 ·rename_i h; have:=of_decide_eq_true h; omega
 ·rename_i h; have:¬ z < 0:=fun k=>h (decide_eq_true k); omega
theorem ZkD {q:Rat} (h:q.den=1):((q.num:Int):Rat)=q:=by
 apply Rat.ext<;>simp [h]
theorem Zuu {q:Rat} (h:q.den≠1):q.num≠0:=by
 intro e
 have:=q.reduced
 rw [e] at this
 simp [Nat.Coprime] at this
 exact h this
theorem ZbY (n:Nat):Lib.itoa (n:Int)=Lib.decDigits n:=by
 rw [ZiP (by omega),Int.natAbs_natCast]
theorem Zqh {q:Rat} (h:q.den≠1):Za5 (ZaB q)=(decide (q.num < 0),Lib.decDigits q.num.natAbs,Lib.decDigits q.den,true):=by
 have hn:=Zuu h
 have hd:=q.den_nz
 unfold ZaB
 rw [if_neg h,ZbY,List.append_assoc]
 unfold Za5
 rw [Zfc]
 simp only []
 obtain ⟨h1,h2⟩:=Ze0 (p:=Zat) (r:=Lib.decDigits q.den) (c:=47) (ZbJ q.num.natAbs) (by decide)
 have e:Lib.decDigits q.num.natAbs ++ ([47] ++ Lib.decDigits q.den)=Lib.decDigits q.num.natAbs ++ 47 :: Lib.decDigits q.den:=rfl
 rw [e,h1,h2]
 have hh:=Zep q.num.natAbs (by omega)
 rw [if_neg (fun e=>hh (by rw [e]; rfl)),if_neg (fun e=>e.elim (Zbg _) hh),if_neg (by simp),if_neg (by simp)]
 simp only [List.tail_cons]
 obtain ⟨h3,h4⟩:=Zds (ZbJ q.den)
 rw [h3,h4]
 have hh2:=Zep q.den (by omega)
 have h49:Lib.decDigits q.den≠[49]:=fun e=>by
  have:=Zcq q.den
  rw [e] at this
  exact h (by rw [← this]; rfl)
 have hne:=Zbg q.den
 simp [hh2,h49,hne]
theorem ZlV (q:Rat):ZaU (ZaB q)=some q:=by
 by_cases h:q.den=1
 ·unfold ZaB
  rw [if_pos h,ZlU,ZkD h]
 ·unfold ZaU
  rw [Zqh h]
  simp only []
  rw [if_neg (Zbg _),Zcq,Zcq,if_pos q.reduced,Zih,Rat.mkRat_self]
theorem ZlW {neg:Bool} {a:Nat} (h:a=0→neg=false):(sg neg a < 0 ↔ neg=true)∧(sg neg a).natAbs=a:=by
 cases neg with
 | false=>simp [sg]
 | true =>
   have:a≠0:=fun e=>by cases h e
   simp [sg]; omega
theorem ZgR {neg:Bool} {a:Nat} (h:a=0→neg=false):Lib.itoa (sg neg a)=(if neg then [45] else []) ++ Lib.decDigits a:=by
 obtain ⟨h1,h2⟩:=ZlW h
 cases neg with
 | false=>rw [ZiP (by simp [sg]),h2]; rfl
 | true=>rw [Zhk (h1.2 rfl),h2]; rfl
theorem Zjn {l r:List UInt8} {neg:Bool} (h:Zay l=(neg,r)):l=(if neg then [45] else []) ++ r:=by
 unfold Zay at h
 split at h
 ·rename_i hh
  injection h with h1 h2
  subst h1 h2
  cases l with
  | nil=>cases hh
  | cons x xs=>simp at hh; subst hh; rfl
 ·injection h with h1 h2
  subst h1 h2
  rfl
theorem Zc7 {l:List UInt8} {q:Rat} (h:ZaU l=some q):ZaB q=l:=by
 unfold ZaU at h
 cases hs:Za5 l with
 | mk neg r =>
   obtain ⟨num,den,ok⟩:=r
   rw [hs] at h
   cases ok with
   | false=>cases h
   | true =>
     simp only [] at h
     have hdg:=Zek hs
     obtain ⟨s1,s2⟩:=Zkt hs
     cases hu:Zay l with
     | mk neg' t =>
       have hl:=Zjn hu
       have htw:t.takeWhile Zat ++ t.dropWhile Zat=t:=List.takeWhile_append_dropWhile
       unfold Za5 at hs
       rw [hu] at hs
       simp only [] at hs
       split at hs
       ·-- zero
        rename_i h48
        injection hs with e1 hs; injection hs with e2 hs; injection hs with e3 e4
        subst e1 e2 e3
        simp at e4
        rw [if_pos rfl,h48] at h
        have hv:Zag [48]=0:=rfl
        rw [hv] at h
        injection h with h
        rw [e4.1] at h hl
        rw [← h,hl,← htw,h48,e4.2]
        simp only [sg]
        unfold ZaB
        rw [if_pos (by simp)]
        have:Lib.itoa ((0:Nat):Int)=[48]:=by rw [ZbY,Zdz (by omega)]; rfl
        simpa using this
       split at hs
       ·injection hs with _ hs; injection hs with _ hs; injection hs with _ hs; cases hs
       rename_i hn
       have hn1:t.takeWhile Zat≠[]:=fun e=>hn (Or.inl e)
       have hn2:(t.takeWhile Zat).head? ≠ some 48:=fun e=>hn (Or.inr e)
       have hdn:=Znx _ _ rfl (Zb4 (p:=Zat) t) hn1 hn2
       split at hs
       ·rename_i hr
        injection hs with e1 hs; injection hs with e2 hs; injection hs with e3 _
        subst e1 e2 e3
        rw [if_pos rfl] at h
        injection h with h
        rw [← h]
        unfold ZaB
        rw [if_pos (by simp)]
        have hnum:(((sg neg' (Zag (t.takeWhile Zat)):Int)):Rat).num=sg neg' (Zag (t.takeWhile Zat)):=rfl
        rw [hnum,ZgR (fun e=>(s2 e).1),hdn,hl]
        rw [hr,List.append_nil] at htw
        rw [htw]
       split at hs
       ·injection hs with _ hs; injection hs with _ hs; injection hs with _ hs; cases hs
       ·rename_i hr h47
        injection hs with e1 hs; injection hs with e2 hs; injection hs with e3 e4
        subst e1 e2
        rw [e3] at e4
        simp at e4
        obtain ⟨⟨⟨k1,k2⟩,k3⟩,k4⟩:=e4
        rw [if_neg k2] at h
        split at h
        ·rename_i hg
         injection h with h
         have h2:=s1 k2
         have hq:q.num=sg neg' (Zag (t.takeWhile Zat))∧q.den=Zag den:=by
          have:=Zig (x:=sg neg' (Zag (t.takeWhile Zat))) (y:=(Zag den:Int)) (by omega) (by
           unfold Int.gcd
           rw [(ZlW (fun e=>(s2 e).1)).2,Int.natAbs_natCast,hg]; rfl)
          rw [Rat.divInt_ofNat,h] at this
          exact ⟨this.1,by have:=this.2; omega⟩
         unfold ZaB
         rw [if_neg (by rw [hq.2]; omega),hq.1,hq.2,ZgR (fun e=>(s2 e).1),hdn,ZbY,Znx _ _ rfl hdg.2.1 k2 k3,hl]
         have htail:t.dropWhile Zat=47 :: den:=by
          cases hx:t.dropWhile Zat with
          | nil=>exact absurd hx hr
          | cons c r =>
            rw [hx] at h47 k1 e3
            simp at h47 k1 e3
            subst h47
            have:=List.takeWhile_append_dropWhile (p:=Zat) (l:=r)
            rw [e3,k1,List.append_nil] at this
            rw [this]
         rw [htail] at htw
         rw [List.append_assoc,List.append_assoc]
         congr 1
        ·cases h
theorem ZsD {l:List UInt8} {q:Rat}:ZaU l=some q ↔ ZaB q=l :=
 ⟨Zc7,fun h=>by rw [← h]; exact ZlV q⟩
end Go.Proofs.YtklpdkpcocnglaaGreatDoor

namespace Go.Proofs.YtklpdkpcocnglaaGreatDoor
open Go.RowKit
def fvB (s:List UInt8) (e:Int):Bool :=
 if s=[48] then decide (e=0)
 else decide ((Zay s).2≠[]∧(Zay s).2.head? ≠ some 48∧okE e∧(Zay s).2.all Zat=true∧Zag (Zay s).2 % 2=1)
def flM (s:List UInt8):Int:=sg (Zay s).1 (Zag (Zay s).2)
theorem ZlX:Lib.itoa 0=[48]:=by
 rw [show (0:Int)=((0:Nat):Int) from rfl,ZbY,Zdz (by omega)]; rfl
theorem Zny:flM [48]=0:=by decide
theorem Zuv {neg:Bool} {a:Nat} (h:a % 2=1):sg neg a % 2=1:=by unfold sg; split<;>omega
theorem Zpa {s:List UInt8} {e:Int} (h:fvB s e=true):s=Lib.itoa (flM s)∧((flM s=0∧e=0)∨(flM s % 2=1∧okE e)):=by
 unfold fvB at h
 by_cases hs:s=[48]
 ·rw [if_pos hs] at h
  subst hs
  rw [Zny]
  exact ⟨ZlX.symm,Or.inl ⟨rfl,of_decide_eq_true h⟩⟩
 ·rw [if_neg hs] at h
  obtain ⟨h1,h2,h3,h4,h5⟩:=of_decide_eq_true h
  unfold flM
  refine ⟨?_,Or.inr ⟨Zuv h5,h3⟩⟩
  rw [ZgR (fun h=>by omega),Znx _ _ rfl h4 h1 h2]
  exact Zjn rfl
theorem Zfd (z:Int):Zay (Lib.itoa z)=(decide (z < 0),Lib.decDigits z.natAbs):=by
 have:=Zfc z []
 rwa [List.append_nil,List.append_nil] at this
theorem Zf5 (z:Int):flM (Lib.itoa z)=z:=by
 unfold flM; rw [Zfd,Zcq]; exact Zih z
theorem Zpb (z e:Int):fvB (Lib.itoa z) e=decide ((z=0∧e=0)∨(z % 2=1∧okE e)):=by
 unfold fvB
 by_cases hz:z=0
 ·subst hz
  rw [ZlX,if_pos rfl]
  by_cases he:e=0
  ·subst he; rfl
  ·rw [decide_eq_false he]
   symm
   exact decide_eq_false (fun h=>by rcases h with h | h<;>omega)
 ·have hn:¬ Lib.itoa z=[48]:=fun h=>hz (by rw [← Zf5 z,h,Zny])
  rw [if_neg hn,Zfd]
  refine decide_eq_decide.2 ⟨fun ⟨_,_,h3,_,h5⟩=>Or.inr ⟨?_,h3⟩,fun h=>?_⟩
  ·rw [Zcq] at h5; omega
  ·rcases h with ⟨h,_⟩ | ⟨h1,h2⟩
   ·exact absurd h hz
   ·exact ⟨Zbg _,Zep _ (by omega),h2,ZbJ _,by rw [Zcq]; omega⟩
theorem Zpc {s:List UInt8} {q:Rat} (h:ZaU s=some q) (hd:q.den=1) (e:Int):fvB s e=decide ((q.num=0∧e=0)∨(q.num % 2=1∧okE e))∧flM s=q.num:=by
 have hs:s=Lib.itoa q.num:=by
  have h1:=Zc7 h
  unfold ZaB at h1
  rw [if_pos hd] at h1
  exact h1.symm
 rw [hs]
 exact ⟨Zpb _ _,Zf5 _⟩
theorem ZsE {l:List UInt8} {c:UInt8} (h:(l ++ [c]).all Zat=true):Zag (l ++ [c]) % 2=c.toNat % 2:=by
 rw [Zdx]
 have hc:Zat c=true:=by rw [List.all_append] at h; simp at h; exact h.2
 have:=ZdV hc
 omega
end Go.Proofs.YtklpdkpcocnglaaGreatDoor

namespace Go.Proofs.YtklpdkpcocnglaaGreatDoor
open Go.RowKit
noncomputable def valF (l:List UInt8):Rat:=(ZaU l).getD 0
end Go.Proofs.YtklpdkpcocnglaaGreatDoor

namespace Go.Proofs.YtklpdkpcocnglaaGreatDoor
open Go.RowKit
end Go.Proofs.YtklpdkpcocnglaaGreatDoor

namespace Go.Proofs.YtklpdkpcocnglaaGreatDoor
open Go.RowKit
end Go.Proofs.YtklpdkpcocnglaaGreatDoor

namespace Go.Proofs.YtklpdkpcocnglaaGreatDoor
open Go.RowKit
theorem Zru {l:List UInt8} (hd:l.all Zat=true) (hl:l.length≤570):wl (Zag l)≤30:=by
 rw [Zb1]
 have h1:=Zbl l hd
 obtain ⟨k,hk⟩:∃ k,k=30:=⟨_,rfl⟩
 have h2:10 ^ l.length≤10 ^ (19 * k):=Nat.pow_le_pow_right (by omega) (by omega)
 rw [← hk]
 rw [Nat.pow_mul] at h2
 have h3:(10 ^ 19) ^ k≤W64 ^ k:=Nat.pow_le_pow_left (by rw [Zam]; decide) k
 exact Nat.lt_of_lt_of_le h1 (Nat.le_trans h2 h3)
end Go.Proofs.YtklpdkpcocnglaaGreatDoor

namespace Go.Proofs.YtklpdkpcocnglaaGreatDoor
open Go.RowKit
theorem Zrv {l:List UInt8} (h:ZaU l=none):valF l=0:=by unfold valF; rw [h]; rfl
theorem Zew {l:List UInt8} {q:Rat} (h:ZaU l=some q):valF l=q:=by unfold valF; rw [h]; rfl
end Go.Proofs.YtklpdkpcocnglaaGreatDoor

namespace Go.Proofs.YtklpdkpcocnglaaGreatDoor
open Go.RowKit Go.Sort
end Go.Proofs.YtklpdkpcocnglaaGreatDoor

namespace Go.Proofs.YtklpdkpcocnglaaGreatDoor
open Go.RowKit
end Go.Proofs.YtklpdkpcocnglaaGreatDoor

namespace Go.Proofs.YtklpdkpcocnglaaGreatDoor
open Go.RowKit
end Go.Proofs.YtklpdkpcocnglaaGreatDoor

namespace Go.Proofs.YtklpdkpcocnglaaGreatDoor
open Go.RowKit
end Go.Proofs.YtklpdkpcocnglaaGreatDoor

namespace Go.Proofs.YtklpdkpcocnglaaGreatDoor
open Go.RowKit
section
variable {s t:ByteArray} {p q r:Rat} {w:World}
end
end Go.Proofs.YtklpdkpcocnglaaGreatDoor

namespace Go.Proofs.YtklpdkpcocnglaaGreatDoor
open Go.RowKit
theorem Zqj {w w':World} {e:Ending} {l:List UInt8} (h:ZjG w l e w'):Zbx (fun x:Int × Int × Bool=>.tuple #[.agg #[.int .i64 x.1, .int .i64 x.2.1], .bool x.2.2]) (fun x _=>ZfG l x.1 x.2.1 x.2.2) w e w':=by
 obtain ⟨a,b,ok,rfl,hS,Q⟩:=h
 exact ⟨(a,b,ok),rfl,Q,BoxN.pure hS⟩
abbrev ShSp:=Bool × ByteArray × ByteArray × Bool
theorem Zqk {w w':World} {e:Ending} {s:ByteArray} (h:ZjC s w e w'):Zbx (fun x:ShSp=>.tuple #[.agg #[.bool x.1, .string x.2.1, .string x.2.2.1], .bool x.2.2.2]) (fun x _=>Za5 (bytes s)=(x.1,bytes x.2.1,bytes x.2.2.1,x.2.2.2)) w e w':=by
 obtain ⟨neg,t,d,ok,rfl,hS,Q⟩:=h
 exact ⟨(neg,t,d,ok),rfl,Q,BoxN.pure hS⟩
theorem Zpd {x:ByteArray} (h:bytes x=[]):(x.toList == (⟨#[]⟩:ByteArray).toList)=true:=by
 rw [Lib.toList_data,Lib.toList_data,show x.data.toList=[] from h]; rfl
theorem Zpe {x:ByteArray} (h:¬ bytes x=[]):(x.toList == (⟨#[]⟩:ByteArray).toList)=false:=by
 rw [Lib.toList_data,Lib.toList_data]
 exact beq_eq_false_iff_ne.2 h
theorem Zrx {l:List UInt8} {neg:Bool} {t d:List UInt8} (h:Za5 l=(neg,t,d,false)):ZaU l=none:=by unfold ZaU; rw [h]
theorem Zry {l:List UInt8} {neg:Bool} {t d:List UInt8} (h:Za5 l=(neg,t,d,true)) (hd:d=[]):(ZaU l).isSome=true:=by unfold ZaU; rw [h]; simp [hd]
theorem Zrz {l:List UInt8} {neg:Bool} {t d:List UInt8} (h:Za5 l=(neg,t,d,true)) (hd:¬ d=[]):(ZaU l).isSome=decide (((Int.gcd (Zag t:Int) (Zag d:Int):Nat):Int)=1):=by
 unfold ZaU
 rw [h]
 have e:Int.gcd (Zag t:Int) (Zag d:Int)=Nat.gcd (Zag t) (Zag d):=rfl
 rw [e]
 simp only [if_neg hd]
 by_cases hg:Nat.gcd (Zag t) (Zag d)=1
 ·rw [if_pos hg,hg]; rfl
 ·rw [if_neg hg]; simp; omega
theorem Zql {l:List UInt8} {a b:Int} (h:ZfG l a b true):(ZaU l).isSome=true:=by
 rcases h with ⟨_,q,h,_⟩ | ⟨h,_⟩
 ·rw [h]; rfl
 ·cases h
theorem Zgt (s:ByteArray) (w:World) (hg:Glob w) (hs:(bytes s).length≤570) :
 Calls Tryz.prog 54 #[.string s] w (RetV w (.bool (ZaU (bytes s)).isSome)):=by
 have hs8:s.size≤1099511627776:=by rw [Zao] at hs; omega
 refine Zaz (Φ:=fun w=>Glob w) Tryz.func54 rfl (by kernel_rfl) (fun w' hf=>hg.ext hf) ?_
 refine Zac (Zab (xr 1 [(0, .v (.string s)),(2, .v (.bool false))] [] ?_))
 refine xe (Zaa (Zac (Zac (Zab (xr 1 [(0, .v (.string s)),(2, .v (.bool false)),(8, .v (.string s))] [] ?_)))))
 refine xc 92 [.string s] 9 (fun x:Int × Int × Bool=>.tuple #[.agg #[.int .i64 x.1, .int .i64 x.2.1], .bool x.2.2]) _ (fun w R Q=>(Zmo s _ hs8).mono (fun _ _=>Zqj)) (fun xx=>?_)
 obtain ⟨sa,sb,xok⟩:=xx
 rcases xok with _ | _
 ·refine xr 6 [(0, .v (.string s)),(2, .v (.bool false)),(4, .v (.bool false))] [] ?_
  refine xe (Zaa (Zac (Zab (xr 1 [(0, .v (.string s)),(2, .v (.bool false)),(12, .v (.bool false))] [] ?_))))
  refine xe (Zaa (xb (Zap (Zaa (Zac (Zab (xr 1 [(2, .v (.bool false)),(14, .v (.string s))] [] ?_)))))))
  refine xc 93 [.string s] 15 (fun x:ShSp=>.tuple #[.agg #[.bool x.1, .string x.2.1, .string x.2.2.1], .bool x.2.2.2]) _ (fun w R Q=>(ZlI s _ hs8).mono (fun _ _=>Zqk)) (fun xx=>?_)
  obtain ⟨xneg,xt,sd,yok⟩:=xx
  rcases yok with _ | _
  ·refine xr 6 [(2, .v (.bool false)),(5, .p 5 0),(6, .v (.bool false))] [(5,123,[.v (.bool xneg), .v (.string xt), .v (.string sd)])] ?_
   refine xe (Zaa (Zac (Zac ?_)))
   refine SXc.know (p:=Za5 (bytes s)=(xneg,bytes xt,bytes sd,false)) (fun w _ Q=>Q.2) (fun HK=>?_)
   refine Zab (xr 7 [(2, .v (.bool false)),(5, .p 5 0),(6, .v (.bool false)),(24, .v (.bool true))] [(5,123,[.v (.bool xneg), .v (.string xt), .v (.string sd)])] ?_)
   refine xe (Zaa (xa (Zac (Zab (xr 2 [(2, .v (.bool false)),(5, .p 5 0)] [(5,123,[.v (.bool xneg), .v (.string xt), .v (.string sd)])] ?_)))))
   refine xe (Zaa (Zaj (Zak ?_)))
   refine Zaf (v:=.bool false) (by kernel_rfl) (fun w' R Q=>?_)
   exact ⟨by rw [Zrx HK]; rfl,R⟩
  ·refine xr 6 [(2, .v (.bool false)),(5, .p 5 0),(6, .v (.bool true))] [(5,123,[.v (.bool xneg), .v (.string xt), .v (.string sd)])] ?_
   refine xe (Zaa (Zac (Zac ?_)))
   refine SXc.know (p:=Za5 (bytes s)=(xneg,bytes xt,bytes sd,true)) (fun w _ Q=>Q.2) (fun HK=>?_)
   by_cases hd:bytes sd=[]
   ·refine Zab (xr 6 [(2, .v (.bool false)),(5, .p 5 0),(6, .v (.bool true)),(20, .v (.bool false)),(23, .v (.bool ((sd:ByteArray).toList == (⟨#[]⟩:ByteArray).toList)))] [(5,123,[.v (.bool xneg), .v (.string xt), .v (.string sd)])] ?_)
    rw [Zpd hd]
    refine xr 1 [(2, .v (.bool false)),(5, .p 5 0),(6, .v (.bool true)),(24, .v (.bool true))] [(5,123,[.v (.bool xneg), .v (.string xt), .v (.string sd)])] ?_
    refine xe (Zaa (xa (Zac (Zab (xr 2 [(2, .v (.bool true)),(5, .p 5 0)] [(5,123,[.v (.bool xneg), .v (.string xt), .v (.string sd)])] ?_)))))
    refine xe (Zaa (Zaj (Zak ?_)))
    refine Zaf (v:=.bool true) (by kernel_rfl) (fun w' R Q=>?_)
    exact ⟨by rw [Zry HK hd],R⟩
   ·refine Zab (xr 6 [(2, .v (.bool false)),(5, .p 5 0),(6, .v (.bool true)),(20, .v (.bool false)),(23, .v (.bool ((sd:ByteArray).toList == (⟨#[]⟩:ByteArray).toList)))] [(5,123,[.v (.bool xneg), .v (.string xt), .v (.string sd)])] ?_)
    rw [Zpe hd]
    refine xr 1 [(2, .v (.bool false)),(5, .p 5 0),(6, .v (.bool true)),(24, .v (.bool false))] [(5,123,[.v (.bool xneg), .v (.string xt), .v (.string sd)])] ?_
    refine xe (Zaa (xb (Zap (Zaa (Zac ?_)))))
    obtain ⟨hdigxt,hdigsd,hll⟩:=Zek HK
    have hprsxt:Zha xt.size:=by unfold Zha; rw [← Zao]; omega
    have hprssd:Zha sd.size:=by unfold Zha; rw [← Zao]; omega
    have hwt:wl ((Zag (bytes xt):Nat):Int).natAbs≤79:=by rw [Int.natAbs_natCast]; exact Nat.le_trans (Zru hdigxt (by omega)) (by decide)
    have hwd:wl ((Zag (bytes sd):Nat):Int).natAbs≤79:=by rw [Int.natAbs_natCast]; exact Nat.le_trans (Zru hdigsd (by omega)) (by decide)
    have hft:Fits ((Zag (bytes xt):Nat):Int):=by unfold Fits; omega
    have hfd:Fits ((Zag (bytes sd):Nat):Int):=by unfold Fits; omega
    refine ZaC 9 (by kernel_rfl) (by kernel_rfl) Zah ?_
    refine xf 2 [(2, .v (.bool false)),(5, .p 5 0),(27, .v (.string xt))] [(5,123,[.v (.bool xneg), .v (.string xt), .v (.string sd)])] ?_
    refine xd 94 [.string xt] 28 ZaE _ (fun w R Q=>(Zh1 xt _ hdigxt hprsxt).mono (fun _ _=>ZjD)) (fun xx=>?_)
    obtain ⟨s10,A10,l10,c10⟩:=xx
    refine xf 2 [(2, .v (.bool false)),eI2 28 s10 A10 l10 c10,(30, .v (.string sd))] [(5,123,[.v (.bool xneg), .v (.string xt), .v (.string sd)])] ?_
    refine xd 94 [.string sd] 31 ZaE _ (fun w R Q=>(Zh1 sd _ hdigsd hprssd).mono (fun _ _=>ZjD)) (fun xx=>?_)
    obtain ⟨s11,A11,l11,c11⟩:=xx
    refine xf 0 [(2, .v (.bool false)),eI2 28 s10 A10 l10 c10,eI2 31 s11 A11 l11 c11] [(5,123,[.v (.bool xneg), .v (.string xt), .v (.string sd)])] ?_
    refine xd 95 [vI2 s10 A10 l10 c10,vI2 s11 A11 l11 c11] 32 ZaE _ (fun w R Q=>(Zto _ _ ((Zag (bytes xt):Int)) ((Zag (bytes sd):Int)) _ Q.1.1.1.1 Q.1.2 Q.2 hft hfd (Zmz.words hwt hwd)).mono (fun _ _=>ZjD)) (fun xx=>?_)
    obtain ⟨s12,A12,l12,c12⟩:=xx
    refine xf 0 [(2, .v (.bool false)),eI2 32 s12 A12 l12 c12] [(5,123,[.v (.bool xneg), .v (.string xt), .v (.string sd)])] ?_
    refine xd 96 [vI2 s12 A12 l12 c12] 33 (fun _:Unit=>.bool (decide ((((Int.gcd ((Zag (bytes xt):Int)) ((Zag (bytes sd):Int)):Nat):Int))=1))) _ (fun w R Q=>(Zq7 _ (((Int.gcd ((Zag (bytes xt):Int)) ((Zag (bytes sd):Int)):Nat):Int)) _ Q.2).mono (fun _ _ h=>Zad h rfl)) (fun xx=>?_)
    refine xf 1 [(2, .v (.bool (decide ((((Int.gcd ((Zag (bytes xt):Int)) ((Zag (bytes sd):Int)):Nat):Int))=1))))] [(5,123,[.v (.bool xneg), .v (.string xt), .v (.string sd)])] ?_
    refine xz (xe (Zaa (Zaj ?_)))
    refine Zaf (v:=.bool (decide ((((Int.gcd ((Zag (bytes xt):Int)) ((Zag (bytes sd):Int)):Nat):Int))=1))) (by kernel_rfl) (fun w' R Q=>?_)
    exact ⟨by rw [Zrz HK hd],R⟩
 ·refine xr 6 [(0, .v (.string s)),(2, .v (.bool false)),(4, .v (.bool true))] [] ?_
  refine xe (Zaa (Zac (Zab (xr 1 [(0, .v (.string s)),(2, .v (.bool false)),(12, .v (.bool true))] [] ?_))))
  refine xe (Zaa (xa (Zac (Zab (xr 1 [(0, .v (.string s)),(2, .v (.bool true))] [] ?_)))))
  refine xe (Zaa (Zaj (Zak ?_)))
  refine Zaf (v:=.bool true) (by kernel_rfl) (fun w' R Q=>?_)
  exact ⟨by rw [Zql Q.2],R⟩
end Go.Proofs.YtklpdkpcocnglaaGreatDoor

namespace Go.Proofs.YtklpdkpcocnglaaGreatDoor
open Go.RowKit
section
variable {l r a t b:List UInt8} {neg:Bool} {c:UInt8}
end
/-! ### Zbh of small numbers -/
theorem Ze1 {n:Nat} (h:n < 10):Lib.itoa (n:Int)=[UInt8.ofNat (48 + n)]:=by
 unfold Lib.itoa
 rw [if_neg (by omega),Int.toNat_natCast,Lib.decDigits,dif_pos h]
theorem ZjH {q:Rat} {n:Nat} (h:n < 10) (h1:q.num=(n:Int)) (h2:q.den=1):ZaB q=[UInt8.ofNat (48 + n)]:=by
 unfold ZaB; rw [if_pos h2,h1,Ze1 h]
theorem Zpf {q:Rat} {n d:Nat} (h:n < 10) (hd:d < 10) (h1:q.num=(n:Int)) (h2:q.den=d) (h3:d≠1):ZaB q=[UInt8.ofNat (48 + n),47,UInt8.ofNat (48 + d)]:=by
 unfold ZaB; rw [h2,if_neg h3,h1,Ze1 h,Ze1 hd]; rfl
theorem t1:ZaB (mkRat 1 1)=[49]:=ZjH (n:=1) (by decide) (by decide) (by decide)
theorem t3:ZaB (mkRat 3 1)=[51]:=ZjH (n:=3) (by decide) (by decide) (by decide)
theorem t13:ZaB (mkRat 1 3)=[49,47,51]:=Zpf (n:=1) (d:=3) (by decide) (by decide) (by decide) (by decide) (by decide)
theorem t12:ZaB (mkRat 1 2)=[49,47,50]:=Zpf (n:=1) (d:=2) (by decide) (by decide) (by decide) (by decide) (by decide)
end Go.Proofs.YtklpdkpcocnglaaGreatDoor

namespace Go.Proofs.YtklpdkpcocnglaaGreatDoor
open Go.RowKit
section
variable {w w':World} {e:Ending} {s:ByteArray}
theorem Zqm (h:Zm8 s w e w'):Zbx (fun x:ByteArray × Bool=>.tuple #[.string x.1, .bool x.2]) (fun x _=>Zay (bytes s)=(x.2,bytes x.1)) w e w':=by
 obtain ⟨r,neg,rfl,h,rfl⟩:=h
 exact ⟨(r,neg),rfl,Fr.refl _ _,BoxN.pure h⟩
end
theorem Zpg {a b:ByteArray} (h:bytes a=bytes b):a=b:=by
 cases a with | mk a=>cases b with | mk b=>simp only [bytes] at h; rw [Array.toList_inj.1 h]
def e4:Nat:=400
end Go.Proofs.YtklpdkpcocnglaaGreatDoor

namespace Go.Proofs.YtklpdkpcocnglaaGreatDoor
open Go.RowKit
end Go.Proofs.YtklpdkpcocnglaaGreatDoor

namespace Go.Proofs.YtklpdkpcocnglaaGreatDoor
open Go.RowKit
theorem Zph {s:ByteArray} (h:bytes s=[48]):(s.toList == (⟨#[48]⟩:ByteArray).toList)=true:=by
 rw [Lib.toList_data,Lib.toList_data,show s.data.toList=[48] from h]; rfl
theorem Zpi {s:ByteArray} (h:¬ bytes s=[48]):(s.toList == (⟨#[48]⟩:ByteArray).toList)=false:=by
 rw [Lib.toList_data,Lib.toList_data]; exact beq_eq_false_iff_ne.2 h
theorem zt:ZaB 0=[48]:=ZjH (n:=0) (by decide) (by decide) (by decide)
theorem Zeg {P:Program} {o:Oper} {ρ:Operand→Value} {w:World} {t:TypeId} {x i:Operand} {b:ByteArray} {k:Nat} {c:UInt8} (ho:o.op=Op.index t x i) (ht:P.underlying t=some .string) (hx:ρ x=.string b) (hi:ρ i=.int .i64 (k:Int)) (hc:b[k]? = some c):(execOp ρ o).run P w=.ok (.value (.int .u8 (c.toNat:Int))) w:=by
 simp [execOp,ho,Instr.index,asIntOf,underlying,ht,hx,hi,hc,Result.andThen]
end Go.Proofs.YtklpdkpcocnglaaGreatDoor

namespace Go.Proofs.YtklpdkpcocnglaaGreatDoor
open Go.RowKit
theorem ZaM.le {x y:Int} (h:ZaM x) (hl:y.natAbs≤x.natAbs):ZaM y:=Nat.le_trans (ZbF hl) h
theorem ZaM.gcd {x y:Int} (h:ZaM y) (h0:y≠0):ZaM (Int.gcd x y:Int):=h.le (by
 have:Int.gcd x y≤y.natAbs:=Nat.gcd_le_right _ (by omega)
 omega)
theorem ZaM.tdiv {x y:Int} (h:ZaM x):ZaM (x.tdiv y):=h.le (by rw [Int.natAbs_tdiv]; exact Nat.div_le_self _ _)
theorem Zhl {x y:Int} (h:0 < y):0 < Int.gcd x y:=by
 rcases Nat.eq_zero_or_pos (Int.gcd x y) with e | e
 ·have:=(Int.gcd_eq_zero_iff.1 e).2; omega
 ·exact e
def ZcU (q:Rat):Prop:=ml q.num.natAbs≤100000∧ml q.den≤100000
theorem mlm {x y:Int} {a b:Nat} (hx:ml x.natAbs≤a) (hy:ml y.natAbs≤b):ml (x * y).natAbs≤a + b:=by
 have h:=Zq0 x.natAbs y.natAbs
 rw [← Int.natAbs_mul] at h
 omega
theorem mla {x y:Int} {a:Nat} (hx:ml x.natAbs≤a) (hy:ml y.natAbs≤a):ml (x + y).natAbs≤a + 1 :=
 Nat.le_trans (ZbF (Int.natAbs_add_le x y)) (Zq1 hx hy)
theorem ZcU.neg {q:Rat} (h:ZcU q):ZcU (-q):=by
 unfold ZcU at *
 rw [Zng,Znh,Int.natAbs_neg]
 exact h
theorem Zd0 {w w':World} {e:Ending} {a b:Int} (h:ZiM w a b e w'):Zbx Zfl (fun x w=>Zai w (ZaE x.1) a∧Zai w (ZaE x.2) b) w e w':=by
 obtain ⟨u,v,rfl,hI,hJ,Q⟩:=h
 obtain ⟨s,A,l,c,rfl⟩:=hI.shp
 obtain ⟨s',A',l',c',rfl⟩:=hJ.shp
 exact ⟨((s,A,l,c),(s',A',l',c')),rfl,Q,boxn Q (fun S w'' hS hF=>⟨hI.nrb hS hF,hJ.nrb hS hF⟩)⟩
theorem nfit {z:Int} {k:Nat} (h:ml z.natAbs≤k) (hk:Nat.ble k 1048576=true):ZaM z:=Nat.le_trans h (Nat.le_of_ble_eq_true hk)
theorem mlc {n k:Nat} (h:ml n≤k):ml ((n:Nat):Int).natAbs≤k:=by rw [Int.natAbs_natCast]; exact h
theorem ZlZ {x y:Int} {q:Rat} (hq:Rat.divInt x y=q) (hy:0 < y) (_:1 < ((Int.gcd x y:Nat):Int).natAbs):q.num=x.tdiv ((Int.gcd x y:Nat):Int)∧(q.den:Int)=y.tdiv ((Int.gcd x y:Nat):Int):=by
 rw [← hq]; exact Znw hy
theorem Zl0 {x y:Int} {q:Rat} (hq:Rat.divInt x y=q) (hy:0 < y) (h:¬ 1 < ((Int.gcd x y:Nat):Int).natAbs):q.num=x∧(q.den:Int)=y:=by
 have h1:=Zhl (x:=x) hy
 rw [← hq]; exact Zig hy (by omega)
theorem Zfe {n:Nat} (h:(((n:Nat):Int) == 1)=true):n=1:=by have:=eq_of_beq h; omega
theorem Zff {n:Nat} (h:(((n:Nat):Int) == 1)=false):n≠1:=fun e=>by subst e; cases h
theorem ZrA (a b:Value) (x y:Int) (q:Rat) (w:World) (ha:Zai w a x) (hb:Zai w b y) (hx:ZaM x) (hy:ZaM y) (h0:y < 0) (hq:Rat.divInt x y=q) :
 Calls Tryz.prog 23 #[a,b] w (Zc5 w q):=by
 obtain ⟨s0,A0,l0,c0,rfl⟩:=ha.shp
 obtain ⟨s1,A1,l1,c1,rfl⟩:=hb.shp
 obtain rfl:s1=true:=hb.sneg h0
 have HFx:ZaM (-(x)):=hx.neg
 have HFy:ZaM (-(y)):=hy.neg
 have HY:0 < -(y):=by omega
 have HFg:ZaM ((Int.gcd (-(x)) (-(y)):Nat):Int):=ZaM.gcd HFy (by omega)
 have HG0:((Int.gcd (-(x)) (-(y)):Nat):Int)≠0:=by have:=Zhl (x := -(x)) HY; omega
 have Hq:Rat.divInt (-(x)) (-(y))=q:=by rw [Rat.neg_divInt_neg]; exact hq
 refine Zaz (Φ:=fun w=>(Zai w (.agg #[.bool s0, .slice A0 l0 c0]) (x)∧Zai w (.agg #[.bool true, .slice A1 l1 c1]) (y))) Tryz.func23 rfl (by kernel_rfl) (fun w' hf=>⟨ha.ext hf,hb.ext hf⟩) ?_
 refine Zac (Zab (xr 3 [(2, .p 2 0),(3, .p 3 0),(4, .p 4 0)] [bR4 4 34 false none 0 0 false none 0 0,bI2 3 32 true A1 l1 c1,bI2 2 32 s0 A0 l0 c0] ?_))
 refine xe (Zaa (Zac (Zac (Zab (xr 2 [(2, .p 2 0),(3, .p 3 0),(4, .p 4 0),(7, .v (.bool true))] [bR4 4 34 false none 0 0 false none 0 0,bI2 3 32 true A1 l1 c1,bI2 2 32 s0 A0 l0 c0] ?_)))))
 refine xe (Zaa (xa ?_))
 refine ZaC 6 (by kernel_rfl) (by kernel_rfl) Zah ?_
 refine xf 1 [(2, .p 2 0),(3, .p 3 0),(4, .p 4 0),eI2 8 s0 A0 l0 c0] [bR4 4 34 false none 0 0 false none 0 0,bI2 3 32 true A1 l1 c1,bI2 2 32 s0 A0 l0 c0] ?_
 refine xd 68 [vI2 s0 A0 l0 c0] 9 ZaE _ (fun w R Q=>(Zhf _ (x) _ Q.1).mono (fun _ _=>ZaH)) (fun xx=>?_)
 obtain ⟨s10,A10,l10,c10⟩:=xx
 refine xf 1 [(2, .p 2 0),(3, .p 3 0),(4, .p 4 0),eI2 9 s10 A10 l10 c10,eI2 10 true A1 l1 c1] [bR4 4 34 false none 0 0 false none 0 0,bI2 3 32 true A1 l1 c1,bI2 2 32 s0 A0 l0 c0] ?_
 refine xd 68 [vI2 true A1 l1 c1] 11 ZaE _ (fun w R Q=>(Zhf _ (y) _ Q.1.2).mono (fun _ _=>ZaH)) (fun xx=>?_)
 obtain ⟨s11,A11,l11,c11⟩:=xx
 refine xf 2 [(2, .p 2 0),(3, .p 3 0),(4, .p 4 0)] [bI2 3 32 s11 A11 l11 c11,bI2 2 32 s10 A10 l10 c10,bR4 4 34 false none 0 0 false none 0 0,bI2 3 32 true A1 l1 c1,bI2 2 32 s0 A0 l0 c0] ?_
 refine xz (xe (Zaa (Zac (Zab (xr 2 [(2, .p 2 0),(3, .p 3 0),(4, .p 4 0),eI2 12 s10 A10 l10 c10,eI2 13 s11 A11 l11 c11] [bI2 3 32 s11 A11 l11 c11,bI2 2 32 s10 A10 l10 c10,bR4 4 34 false none 0 0 false none 0 0] ?_)))))
 refine xc 69 [vI2 s10 A10 l10 c10,vI2 s11 A11 l11 c11] 14 ZaE _ (fun w R Q=>(Znk _ _ (-(x)) (-(y)) _ Q.1.2 Q.2 HFx HFy).mono (fun _ _=>ZaH)) (fun xx=>?_)
 obtain ⟨s12,A12,l12,c12⟩:=xx
 refine xr 2 [(2, .p 2 0),(3, .p 3 0),(4, .p 4 0),(5, .p 5 0)] [bI2 5 32 s12 A12 l12 c12,bI2 3 32 s11 A11 l11 c11,bI2 2 32 s10 A10 l10 c10,bR4 4 34 false none 0 0 false none 0 0] ?_
 refine xe (Zaa (Zac (Zac (Zab (xr 1 [(2, .p 2 0),(3, .p 3 0),(4, .p 4 0),(5, .p 5 0),eI2 15 s12 A12 l12 c12] [bI2 5 32 s12 A12 l12 c12,bI2 3 32 s11 A11 l11 c11,bI2 2 32 s10 A10 l10 c10,bR4 4 34 false none 0 0 false none 0 0] ?_)))))
 refine xc 37 [vI2 s12 A12 l12 c12] 16 (fun _:Unit=>.int .i64 ((blen (((Int.gcd (-(x)) (-(y)):Nat):Int)).natAbs:Nat):Int)) _ (fun w R Q=>(ZbT _ (((Int.gcd (-(x)) (-(y)):Nat):Int)) _ Q.2 HFg).mono (fun _ _ h=>Zad h rfl)) (fun xx=>?_)
 refine xr 1 [(2, .p 2 0),(3, .p 3 0),(4, .p 4 0),(5, .p 5 0),(17, .v (.bool (decide (((blen (((Int.gcd (-(x)) (-(y)):Nat):Int)).natAbs:Nat):Int) > 1))))] [bI2 5 32 s12 A12 l12 c12,bI2 3 32 s11 A11 l11 c11,bI2 2 32 s10 A10 l10 c10,bR4 4 34 false none 0 0 false none 0 0] ?_
 refine xe (Zaa ?_)
 refine ZaA ((decide (((blen (((Int.gcd (-(x)) (-(y)):Nat):Int)).natAbs:Nat):Int) > 1))) (by kernel_rfl) (fun hb13=>?_) (fun hb13=>?_)
 ·have HQ:=ZlZ Hq HY (Zfa.1 (by have:=of_decide_eq_true hb13; omega))
  refine Zac (Zab (xr 2 [(2, .p 2 0),(3, .p 3 0),(4, .p 4 0),(5, .p 5 0),eI2 19 s10 A10 l10 c10,eI2 20 s12 A12 l12 c12] [bI2 5 32 s12 A12 l12 c12,bI2 3 32 s11 A11 l11 c11,bI2 2 32 s10 A10 l10 c10,bR4 4 34 false none 0 0 false none 0 0] ?_))
  refine xc 70 [vI2 s10 A10 l10 c10,vI2 s12 A12 l12 c12] 21 Zfl _ (fun w R Q=>(Zef _ _ (-(x)) (((Int.gcd (-(x)) (-(y)):Nat):Int)) _ Q.1.1.1.2 Q.1.2 HFx HFg HG0).mono (fun _ _=>Zd0)) (fun xx=>?_)
  obtain ⟨⟨s14,A14,l14,c14⟩,⟨s15,A15,l15,c15⟩⟩:=xx
  refine xr 4 [(2, .p 2 0),(3, .p 3 0),(4, .p 4 0),(5, .p 5 0)] [bI2 5 32 s12 A12 l12 c12,bI2 3 32 s11 A11 l11 c11,bI2 2 32 s14 A14 l14 c14,bR4 4 34 false none 0 0 false none 0 0] ?_
  refine xe (Zaa (Zab (xr 2 [(2, .p 2 0),(3, .p 3 0),(4, .p 4 0),eI2 25 s11 A11 l11 c11,eI2 26 s12 A12 l12 c12] [bI2 3 32 s11 A11 l11 c11,bI2 2 32 s14 A14 l14 c14,bR4 4 34 false none 0 0 false none 0 0] ?_)))
  refine xc 70 [vI2 s11 A11 l11 c11,vI2 s12 A12 l12 c12] 27 Zfl _ (fun w R Q=>(Zef _ _ (-(y)) (((Int.gcd (-(x)) (-(y)):Nat):Int)) _ Q.1.1.1.2 Q.1.1.2 HFy HFg HG0).mono (fun _ _=>Zd0)) (fun xx=>?_)
  obtain ⟨⟨s16,A16,l16,c16⟩,⟨s17,A17,l17,c17⟩⟩:=xx
  refine xr 4 [(2, .p 2 0),(3, .p 3 0),(4, .p 4 0)] [bI2 3 32 s16 A16 l16 c16,bI2 2 32 s14 A14 l14 c14,bR4 4 34 false none 0 0 false none 0 0] ?_
  refine xe (Zaa (Zac (Zac (Zab (xr 1 [(2, .p 2 0),(3, .p 3 0),(4, .p 4 0),eI2 30 s16 A16 l16 c16] [bI2 3 32 s16 A16 l16 c16,bI2 2 32 s14 A14 l14 c14,bR4 4 34 false none 0 0 false none 0 0] ?_)))))
  refine xc 37 [vI2 s16 A16 l16 c16] 31 (fun _:Unit=>.int .i64 ((blen ((-(y)).tdiv (((Int.gcd (-(x)) (-(y)):Nat):Int))).natAbs:Nat):Int)) _ (fun w R Q=>(ZbT _ ((-(y)).tdiv (((Int.gcd (-(x)) (-(y)):Nat):Int))) _ Q.2.1 (ZaM.tdiv HFy)).mono (fun _ _ h=>Zad h rfl)) (fun xx=>?_)
  refine xr 1 [(2, .p 2 0),(3, .p 3 0),(4, .p 4 0),(32, .v (.bool ((((blen ((-(y)).tdiv (((Int.gcd (-(x)) (-(y)):Nat):Int))).natAbs:Nat):Int):Int) == 1)))] [bI2 3 32 s16 A16 l16 c16,bI2 2 32 s14 A14 l14 c14,bR4 4 34 false none 0 0 false none 0 0] ?_
  refine xe (Zaa ?_)
  refine ZaA (((((blen ((-(y)).tdiv (((Int.gcd (-(x)) (-(y)):Nat):Int))).natAbs:Nat):Int):Int) == 1)) (by kernel_rfl) (fun hb18=>?_) (fun hb18=>?_)
  ·have hdhb18:=Zce.1 (Zfe hb18)
   refine Zab (xr 2 [(2, .p 2 0),(3, .p 3 0),(4, .p 4 0)] [bI2 3 32 false none 0 0,bI2 2 32 s14 A14 l14 c14,bR4 4 34 false none 0 0 false none 0 0] ?_)
   refine xe (Zaa (Zac (Zab (xr 4 [(4, .p 4 0)] [bR4 4 34 s14 A14 l14 c14 false none 0 0] ?_))))
   refine xe (Zaa (Zaj ?_))
   refine Zaf (v:=.agg #[.bool s14, .slice A14 l14 c14, .bool false, .slice none 0 0]) (by kernel_rfl) (fun w' R Q=>?_)
   exact ⟨_,rfl,Zaw.of (by rw [HQ.1]; exact Q.1.1.2.1) (by rw [Zcy (by have:=hdhb18; have:=HQ.2; have:=q.den_nz; omega)]; exact (Zai.nil _)),R⟩
  ·have hdhb18:=fun h=>Zff hb18 (Zce.2 h)
   refine Zap (Zaa (Zac (Zab (xr 4 [(4, .p 4 0)] [bR4 4 34 s14 A14 l14 c14 s16 A16 l16 c16] ?_))))
   refine xe (Zaa (Zaj ?_))
   refine Zaf (v:=.agg #[.bool s14, .slice A14 l14 c14, .bool s16, .slice A16 l16 c16]) (by kernel_rfl) (fun w' R Q=>?_)
   exact ⟨_,rfl,Zaw.of (by rw [HQ.1]; exact Q.1.1.2.1) (by rw [ZcW (fun h=>hdhb18 (by have:=HQ.2; omega)),HQ.2]; exact Q.1.2.1),R⟩
 ·have HQ:=Zl0 Hq HY (fun h=>absurd (Zfa.2 h) (by have:=of_decide_eq_false hb13; omega))
  refine Zap (Zaa (Zac (Zac (Zab (xr 1 [(2, .p 2 0),(3, .p 3 0),(4, .p 4 0),eI2 30 s11 A11 l11 c11] [bI2 3 32 s11 A11 l11 c11,bI2 2 32 s10 A10 l10 c10,bR4 4 34 false none 0 0 false none 0 0] ?_)))))
  refine xc 37 [vI2 s11 A11 l11 c11] 31 (fun _:Unit=>.int .i64 ((blen (-(y)).natAbs:Nat):Int)) _ (fun w R Q=>(ZbT _ (-(y)) _ Q.1.1.2 HFy).mono (fun _ _ h=>Zad h rfl)) (fun xx=>?_)
  refine xr 1 [(2, .p 2 0),(3, .p 3 0),(4, .p 4 0),(32, .v (.bool ((((blen (-(y)).natAbs:Nat):Int):Int) == 1)))] [bI2 3 32 s11 A11 l11 c11,bI2 2 32 s10 A10 l10 c10,bR4 4 34 false none 0 0 false none 0 0] ?_
  refine xe (Zaa ?_)
  refine ZaA (((((blen (-(y)).natAbs:Nat):Int):Int) == 1)) (by kernel_rfl) (fun hb19=>?_) (fun hb19=>?_)
  ·have hdhb19:=Zce.1 (Zfe hb19)
   refine Zab (xr 2 [(2, .p 2 0),(3, .p 3 0),(4, .p 4 0)] [bI2 3 32 false none 0 0,bI2 2 32 s10 A10 l10 c10,bR4 4 34 false none 0 0 false none 0 0] ?_)
   refine xe (Zaa (Zac (Zab (xr 4 [(4, .p 4 0)] [bR4 4 34 s10 A10 l10 c10 false none 0 0] ?_))))
   refine xe (Zaa (Zaj ?_))
   refine Zaf (v:=.agg #[.bool s10, .slice A10 l10 c10, .bool false, .slice none 0 0]) (by kernel_rfl) (fun w' R Q=>?_)
   exact ⟨_,rfl,Zaw.of (by rw [HQ.1]; exact Q.1.1.1.1.2) (by rw [Zcy (by have:=hdhb19; have:=HQ.2; have:=q.den_nz; omega)]; exact (Zai.nil _)),R⟩
  ·have hdhb19:=fun h=>Zff hb19 (Zce.2 h)
   refine Zap (Zaa (Zac (Zab (xr 4 [(4, .p 4 0)] [bR4 4 34 s10 A10 l10 c10 s11 A11 l11 c11] ?_))))
   refine xe (Zaa (Zaj ?_))
   refine Zaf (v:=.agg #[.bool s10, .slice A10 l10 c10, .bool s11, .slice A11 l11 c11]) (by kernel_rfl) (fun w' R Q=>?_)
   exact ⟨_,rfl,Zaw.of (by rw [HQ.1]; exact Q.1.1.1.1.2) (by rw [ZcW (fun h=>hdhb19 (by have:=HQ.2; omega)),HQ.2]; exact Q.1.1.1.2),R⟩
theorem ZrB (a b:Value) (x y:Int) (q:Rat) (w:World) (ha:Zai w a x) (hb:Zai w b y) (hx:ZaM x) (hy:ZaM y) (h0:0 < y) (hq:Rat.divInt x y=q) :
 Calls Tryz.prog 23 #[a,b] w (Zc5 w q):=by
 obtain ⟨s0,A0,l0,c0,rfl⟩:=ha.shp
 obtain ⟨s1,A1,l1,c1,rfl⟩:=hb.shp
 obtain rfl:s1=false:=hb.spos (by omega)
 have HFx:ZaM (x):=hx
 have HFy:ZaM (y):=hy
 have HY:0 < y:=by omega
 have HFg:ZaM ((Int.gcd (x) (y):Nat):Int):=ZaM.gcd HFy (by omega)
 have HG0:((Int.gcd (x) (y):Nat):Int)≠0:=by have:=Zhl (x:=x) HY; omega
 have Hq:Rat.divInt (x) (y)=q:=hq
 refine Zaz (Φ:=fun w=>(Zai w (.agg #[.bool s0, .slice A0 l0 c0]) (x)∧Zai w (.agg #[.bool false, .slice A1 l1 c1]) (y))) Tryz.func23 rfl (by kernel_rfl) (fun w' hf=>⟨ha.ext hf,hb.ext hf⟩) ?_
 refine Zac (Zab (xr 3 [(2, .p 2 0),(3, .p 3 0),(4, .p 4 0)] [bR4 4 34 false none 0 0 false none 0 0,bI2 3 32 false A1 l1 c1,bI2 2 32 s0 A0 l0 c0] ?_))
 refine xe (Zaa (Zac (Zac (Zab (xr 2 [(2, .p 2 0),(3, .p 3 0),(4, .p 4 0),(7, .v (.bool false))] [bR4 4 34 false none 0 0 false none 0 0,bI2 3 32 false A1 l1 c1,bI2 2 32 s0 A0 l0 c0] ?_)))))
 refine xe (Zaa (xb (Zap (Zaa (Zac (Zab (xr 2 [(2, .p 2 0),(3, .p 3 0),(4, .p 4 0),eI2 12 s0 A0 l0 c0,eI2 13 false A1 l1 c1] [bR4 4 34 false none 0 0 false none 0 0,bI2 3 32 false A1 l1 c1,bI2 2 32 s0 A0 l0 c0] ?_)))))))
 refine xc 69 [vI2 s0 A0 l0 c0,vI2 false A1 l1 c1] 14 ZaE _ (fun w R Q=>(Znk _ _ (x) (y) _ Q.1 Q.2 HFx HFy).mono (fun _ _=>ZaH)) (fun xx=>?_)
 obtain ⟨s10,A10,l10,c10⟩:=xx
 refine xr 2 [(2, .p 2 0),(3, .p 3 0),(4, .p 4 0),(5, .p 5 0)] [bI2 5 32 s10 A10 l10 c10,bR4 4 34 false none 0 0 false none 0 0,bI2 3 32 false A1 l1 c1,bI2 2 32 s0 A0 l0 c0] ?_
 refine xe (Zaa (Zac (Zac (Zab (xr 1 [(2, .p 2 0),(3, .p 3 0),(4, .p 4 0),(5, .p 5 0),eI2 15 s10 A10 l10 c10] [bI2 5 32 s10 A10 l10 c10,bR4 4 34 false none 0 0 false none 0 0,bI2 3 32 false A1 l1 c1,bI2 2 32 s0 A0 l0 c0] ?_)))))
 refine xc 37 [vI2 s10 A10 l10 c10] 16 (fun _:Unit=>.int .i64 ((blen (((Int.gcd (x) (y):Nat):Int)).natAbs:Nat):Int)) _ (fun w R Q=>(ZbT _ (((Int.gcd (x) (y):Nat):Int)) _ Q.2 HFg).mono (fun _ _ h=>Zad h rfl)) (fun xx=>?_)
 refine xr 1 [(2, .p 2 0),(3, .p 3 0),(4, .p 4 0),(5, .p 5 0),(17, .v (.bool (decide (((blen (((Int.gcd (x) (y):Nat):Int)).natAbs:Nat):Int) > 1))))] [bI2 5 32 s10 A10 l10 c10,bR4 4 34 false none 0 0 false none 0 0,bI2 3 32 false A1 l1 c1,bI2 2 32 s0 A0 l0 c0] ?_
 refine xe (Zaa ?_)
 refine ZaA ((decide (((blen (((Int.gcd (x) (y):Nat):Int)).natAbs:Nat):Int) > 1))) (by kernel_rfl) (fun hb11=>?_) (fun hb11=>?_)
 ·have HQ:=ZlZ Hq HY (Zfa.1 (by have:=of_decide_eq_true hb11; omega))
  refine Zac (Zab (xr 2 [(2, .p 2 0),(3, .p 3 0),(4, .p 4 0),(5, .p 5 0),eI2 19 s0 A0 l0 c0,eI2 20 s10 A10 l10 c10] [bI2 5 32 s10 A10 l10 c10,bR4 4 34 false none 0 0 false none 0 0,bI2 3 32 false A1 l1 c1,bI2 2 32 s0 A0 l0 c0] ?_))
  refine xc 70 [vI2 s0 A0 l0 c0,vI2 s10 A10 l10 c10] 21 Zfl _ (fun w R Q=>(Zef _ _ (x) (((Int.gcd (x) (y):Nat):Int)) _ Q.1.1.1 Q.1.2 HFx HFg HG0).mono (fun _ _=>Zd0)) (fun xx=>?_)
  obtain ⟨⟨s12,A12,l12,c12⟩,⟨s13,A13,l13,c13⟩⟩:=xx
  refine xr 4 [(2, .p 2 0),(3, .p 3 0),(4, .p 4 0),(5, .p 5 0)] [bI2 5 32 s10 A10 l10 c10,bR4 4 34 false none 0 0 false none 0 0,bI2 3 32 false A1 l1 c1,bI2 2 32 s12 A12 l12 c12] ?_
  refine xe (Zaa (Zab (xr 2 [(2, .p 2 0),(3, .p 3 0),(4, .p 4 0),eI2 25 false A1 l1 c1,eI2 26 s10 A10 l10 c10] [bR4 4 34 false none 0 0 false none 0 0,bI2 3 32 false A1 l1 c1,bI2 2 32 s12 A12 l12 c12] ?_)))
  refine xc 70 [vI2 false A1 l1 c1,vI2 s10 A10 l10 c10] 27 Zfl _ (fun w R Q=>(Zef _ _ (y) (((Int.gcd (x) (y):Nat):Int)) _ Q.1.1.1.2 Q.1.1.2 HFy HFg HG0).mono (fun _ _=>Zd0)) (fun xx=>?_)
  obtain ⟨⟨s14,A14,l14,c14⟩,⟨s15,A15,l15,c15⟩⟩:=xx
  refine xr 4 [(2, .p 2 0),(3, .p 3 0),(4, .p 4 0)] [bR4 4 34 false none 0 0 false none 0 0,bI2 3 32 s14 A14 l14 c14,bI2 2 32 s12 A12 l12 c12] ?_
  refine xe (Zaa (Zac (Zac (Zab (xr 1 [(2, .p 2 0),(3, .p 3 0),(4, .p 4 0),eI2 30 s14 A14 l14 c14] [bR4 4 34 false none 0 0 false none 0 0,bI2 3 32 s14 A14 l14 c14,bI2 2 32 s12 A12 l12 c12] ?_)))))
  refine xc 37 [vI2 s14 A14 l14 c14] 31 (fun _:Unit=>.int .i64 ((blen ((y).tdiv (((Int.gcd (x) (y):Nat):Int))).natAbs:Nat):Int)) _ (fun w R Q=>(ZbT _ ((y).tdiv (((Int.gcd (x) (y):Nat):Int))) _ Q.2.1 (ZaM.tdiv HFy)).mono (fun _ _ h=>Zad h rfl)) (fun xx=>?_)
  refine xr 1 [(2, .p 2 0),(3, .p 3 0),(4, .p 4 0),(32, .v (.bool ((((blen ((y).tdiv (((Int.gcd (x) (y):Nat):Int))).natAbs:Nat):Int):Int) == 1)))] [bR4 4 34 false none 0 0 false none 0 0,bI2 3 32 s14 A14 l14 c14,bI2 2 32 s12 A12 l12 c12] ?_
  refine xe (Zaa ?_)
  refine ZaA (((((blen ((y).tdiv (((Int.gcd (x) (y):Nat):Int))).natAbs:Nat):Int):Int) == 1)) (by kernel_rfl) (fun hb16=>?_) (fun hb16=>?_)
  ·have hdhb16:=Zce.1 (Zfe hb16)
   refine Zab (xr 2 [(2, .p 2 0),(3, .p 3 0),(4, .p 4 0)] [bR4 4 34 false none 0 0 false none 0 0,bI2 3 32 false none 0 0,bI2 2 32 s12 A12 l12 c12] ?_)
   refine xe (Zaa (Zac (Zab (xr 4 [(4, .p 4 0)] [bR4 4 34 s12 A12 l12 c12 false none 0 0] ?_))))
   refine xe (Zaa (Zaj ?_))
   refine Zaf (v:=.agg #[.bool s12, .slice A12 l12 c12, .bool false, .slice none 0 0]) (by kernel_rfl) (fun w' R Q=>?_)
   exact ⟨_,rfl,Zaw.of (by rw [HQ.1]; exact Q.1.1.2.1) (by rw [Zcy (by have:=hdhb16; have:=HQ.2; have:=q.den_nz; omega)]; exact (Zai.nil _)),R⟩
  ·have hdhb16:=fun h=>Zff hb16 (Zce.2 h)
   refine Zap (Zaa (Zac (Zab (xr 4 [(4, .p 4 0)] [bR4 4 34 s12 A12 l12 c12 s14 A14 l14 c14] ?_))))
   refine xe (Zaa (Zaj ?_))
   refine Zaf (v:=.agg #[.bool s12, .slice A12 l12 c12, .bool s14, .slice A14 l14 c14]) (by kernel_rfl) (fun w' R Q=>?_)
   exact ⟨_,rfl,Zaw.of (by rw [HQ.1]; exact Q.1.1.2.1) (by rw [ZcW (fun h=>hdhb16 (by have:=HQ.2; omega)),HQ.2]; exact Q.1.2.1),R⟩
 ·have HQ:=Zl0 Hq HY (fun h=>absurd (Zfa.2 h) (by have:=of_decide_eq_false hb11; omega))
  refine Zap (Zaa (Zac (Zac (Zab (xr 1 [(2, .p 2 0),(3, .p 3 0),(4, .p 4 0),eI2 30 false A1 l1 c1] [bR4 4 34 false none 0 0 false none 0 0,bI2 3 32 false A1 l1 c1,bI2 2 32 s0 A0 l0 c0] ?_)))))
  refine xc 37 [vI2 false A1 l1 c1] 31 (fun _:Unit=>.int .i64 ((blen (y).natAbs:Nat):Int)) _ (fun w R Q=>(ZbT _ (y) _ Q.1.1.2 HFy).mono (fun _ _ h=>Zad h rfl)) (fun xx=>?_)
  refine xr 1 [(2, .p 2 0),(3, .p 3 0),(4, .p 4 0),(32, .v (.bool ((((blen (y).natAbs:Nat):Int):Int) == 1)))] [bR4 4 34 false none 0 0 false none 0 0,bI2 3 32 false A1 l1 c1,bI2 2 32 s0 A0 l0 c0] ?_
  refine xe (Zaa ?_)
  refine ZaA (((((blen (y).natAbs:Nat):Int):Int) == 1)) (by kernel_rfl) (fun hb17=>?_) (fun hb17=>?_)
  ·have hdhb17:=Zce.1 (Zfe hb17)
   refine Zab (xr 2 [(2, .p 2 0),(3, .p 3 0),(4, .p 4 0)] [bR4 4 34 false none 0 0 false none 0 0,bI2 3 32 false none 0 0,bI2 2 32 s0 A0 l0 c0] ?_)
   refine xe (Zaa (Zac (Zab (xr 4 [(4, .p 4 0)] [bR4 4 34 s0 A0 l0 c0 false none 0 0] ?_))))
   refine xe (Zaa (Zaj ?_))
   refine Zaf (v:=.agg #[.bool s0, .slice A0 l0 c0, .bool false, .slice none 0 0]) (by kernel_rfl) (fun w' R Q=>?_)
   exact ⟨_,rfl,Zaw.of (by rw [HQ.1]; exact Q.1.1.1.1) (by rw [Zcy (by have:=hdhb17; have:=HQ.2; have:=q.den_nz; omega)]; exact (Zai.nil _)),R⟩
  ·have hdhb17:=fun h=>Zff hb17 (Zce.2 h)
   refine Zap (Zaa (Zac (Zab (xr 4 [(4, .p 4 0)] [bR4 4 34 s0 A0 l0 c0 false A1 l1 c1] ?_))))
   refine xe (Zaa (Zaj ?_))
   refine Zaf (v:=.agg #[.bool s0, .slice A0 l0 c0, .bool false, .slice A1 l1 c1]) (by kernel_rfl) (fun w' R Q=>?_)
   exact ⟨_,rfl,Zaw.of (by rw [HQ.1]; exact Q.1.1.1.1) (by rw [ZcW (fun h=>hdhb17 (by have:=HQ.2; omega)),HQ.2]; exact Q.1.1.1.2),R⟩
theorem Zgu (a b:Value) (x y:Int) (w:World) (ha:Zai w a x) (hb:Zai w b y) (hx:ZaM x) (hy:ZaM y) (h0:y≠0):Calls Tryz.prog 23 #[a,b] w (Zc5 w (Rat.divInt x y)):=by
 rcases Int.lt_or_gt_of_ne h0 with h | h
 ·exact ZrA a b x y _ w ha hb hx hy h rfl
 ·exact ZrB a b x y _ w ha hb hx hy h rfl
theorem ZrC (a:Value) (q:Rat) (w:World) (ha:Zaw w a q) :
 Calls Tryz.prog 73 #[a] w (Zc5 w (-q)):=by
 obtain ⟨s0,A0,l0,c0,t0,B0,m0,d0,rfl⟩:=ha.shp
 refine Zaz (Φ:=fun w=>Zaw w (.agg #[.bool s0, .slice A0 l0 c0, .bool t0, .slice B0 m0 d0]) (q)) Tryz.func73 rfl (by kernel_rfl) (fun w' hf=>ha.ext hf) ?_
 refine Zac (Zab (xr 2 [(1, .p 1 0),(2, .p 2 0)] [bR4 2 34 false none 0 0 false none 0 0,bR4 1 34 s0 A0 l0 c0 t0 B0 m0 d0] ?_))
 refine xe (Zaa (Zac ?_))
 refine ZaC 7 (by kernel_rfl) (by kernel_rfl) Zah ?_
 refine xf 2 [(1, .p 1 0),(2, .p 2 0),eI2 4 s0 A0 l0 c0] [bR4 2 34 false none 0 0 false none 0 0,bR4 1 34 s0 A0 l0 c0 t0 B0 m0 d0] ?_
 refine xd 68 [vI2 s0 A0 l0 c0] 5 ZaE _ (fun w R Q=>(Zhf _ ((q).num) _ Q.num).mono (fun _ _=>ZaH)) (fun xx=>?_)
 obtain ⟨s10,A10,l10,c10⟩:=xx
 refine xf 4 [(2, .p 2 0)] [bR4 2 34 s10 A10 l10 c10 t0 B0 m0 d0,bR4 2 34 false none 0 0 false none 0 0,bR4 1 34 s0 A0 l0 c0 t0 B0 m0 d0] ?_
 refine xz (xe (Zaa (Zaj ?_)))
 refine Zaf (v:=.agg #[.bool s10, .slice A10 l10 c10, .bool t0, .slice B0 m0 d0]) (by kernel_rfl) (fun w' R Q=>?_)
 exact ⟨_,rfl,Zaw.of (by rw [Zng]; exact Q.2) (by rw [Zsm]; exact Q.1.den),R⟩
theorem Zqn (a:Value) (q:Rat) (w:World) (ha:Zaw w a q) :
 Calls Tryz.prog 50 #[a] w (RetV w (.int .i64 q.num.sign)):=by
 obtain ⟨s0,A0,l0,c0,t0,B0,m0,d0,rfl⟩:=ha.shp
 refine Zaz (Φ:=fun w=>Zaw w (.agg #[.bool s0, .slice A0 l0 c0, .bool t0, .slice B0 m0 d0]) (q)) Tryz.func50 rfl (by kernel_rfl) (fun w' hf=>ha.ext hf) ?_
 refine Zac (Zab (xr 2 [(1, .p 1 0),(2, .v (.int .i64 0))] [bR4 1 34 s0 A0 l0 c0 t0 B0 m0 d0] ?_))
 refine xe (Zaa (Zac (Zab (xr 2 [(2, .v (.int .i64 0)),eI2 4 s0 A0 l0 c0] [] ?_))))
 refine xc 62 [vI2 s0 A0 l0 c0] 5 (fun _:Unit=>.int .i64 ((q).num).sign) _ (fun w R Q=>(ZcD _ ((q).num) _ Q.num).mono (fun _ _ h=>Zad h rfl)) (fun xx=>?_)
 refine xr 1 [(2, .v (.int .i64 ((q).num).sign))] [] ?_
 refine xe (Zaa (Zaj ?_))
 refine Zaf (v:=.int .i64 ((q).num).sign) (by kernel_rfl) (fun w' R Q=>?_)
 exact ⟨rfl,R⟩
theorem ZoA (a b:Value) (p q:Rat) (w:World) (ha:Zaw w a p) (hb:Zaw w b q) (hp:ZcU p) (hq:ZcU q) (h1:p.den=1) (h2:q.den=1) :
 Calls Tryz.prog 32 #[a,b] w (Zc5 w (p + q)):=by
 obtain ⟨s0,A0,l0,c0,t0,B0,m0,d0,rfl⟩:=ha.shp
 obtain rfl:m0=0:=ha.den.len0 (Zcy h1)
 obtain ⟨s1,A1,l1,c1,t1,B1,m1,d1,rfl⟩:=hb.shp
 obtain rfl:m1=0:=hb.den.len0 (Zcy h2)
 have S1:ml p.num.natAbs≤100000:=hp.1
 have S2:ml q.num.natAbs≤100000:=hq.1
 have S3:ml ((p.den:Nat):Int).natAbs≤100000:=mlc hp.2
 have S4:ml ((q.den:Nat):Int).natAbs≤100000:=mlc hq.2
 refine Zaz (Φ:=fun w=>(Zaw w (.agg #[.bool s0, .slice A0 l0 c0, .bool t0, .slice B0 0 d0]) (p)∧Zaw w (.agg #[.bool s1, .slice A1 l1 c1, .bool t1, .slice B1 0 d1]) (q))) Tryz.func32 rfl (by kernel_rfl) (fun w' hf=>⟨ha.ext hf,hb.ext hf⟩) ?_
 refine Zac (Zab (xr 3 [(2, .p 2 0),(3, .p 3 0),(4, .p 4 0)] [bR4 4 34 false none 0 0 false none 0 0,bR4 3 34 s1 A1 l1 c1 t1 B1 0 d1,bR4 2 34 s0 A0 l0 c0 t0 B0 0 d0] ?_))
 refine xe (Zaa (Zac (Zac (Zab (xr 12 [(2, .p 2 0),(3, .p 3 0),(4, .p 4 0),(16, .v (.bool true))] [bR4 4 34 false none 0 0 false none 0 0,bR4 3 34 s1 A1 l1 c1 t1 B1 0 d1,bR4 2 34 s0 A0 l0 c0 t0 B0 0 d0] ?_)))))
 refine xe (Zaa (xa (Zac (Zab (xr 4 [(2, .p 2 0),(3, .p 3 0),(4, .p 4 0),eI2 18 s0 A0 l0 c0,eI2 20 s1 A1 l1 c1] [bR4 4 34 false none 0 0 false none 0 0,bR4 3 34 s1 A1 l1 c1 t1 B1 0 d1,bR4 2 34 s0 A0 l0 c0 t0 B0 0 d0] ?_)))))
 refine xc 77 [vI2 s0 A0 l0 c0,vI2 s1 A1 l1 c1] 21 ZaE _ (fun w R Q=>(ZfZ _ _ ((p).num) ((q).num) _ Q.1.num Q.2.num (nfit S1 (by decide)) (nfit S2 (by decide))).mono (fun _ _=>ZaH)) (fun xx=>?_)
 obtain ⟨s10,A10,l10,c10⟩:=xx
 refine xr 2 [(2, .p 2 0),(3, .p 3 0),(4, .p 4 0)] [bR4 4 34 s10 A10 l10 c10 false none 0 0,bR4 3 34 s1 A1 l1 c1 t1 B1 0 d1,bR4 2 34 s0 A0 l0 c0 t0 B0 0 d0] ?_
 refine xe (Zaa (Zaj (Zak ?_)))
 refine Zaf (v:=.agg #[.bool s10, .slice A10 l10 c10, .bool false, .slice none 0 0]) (by kernel_rfl) (fun w' R Q=>?_)
 exact ⟨_,rfl,Zaw.of (by rw [(ZhC h1 h2).1]; exact Q.2) (by rw [Zcy (ZhC h1 h2).2]; exact (Zai.nil _)),R⟩
theorem ZoB (a b:Value) (p q:Rat) (w:World) (ha:Zaw w a p) (hb:Zaw w b q) (hp:ZcU p) (hq:ZcU q) (h1:¬ p.den=1) :
 Calls Tryz.prog 32 #[a,b] w (Zc5 w (p + q)):=by
 obtain ⟨s0,A0,l0,c0,t0,B0,m0,d0,rfl⟩:=ha.shp
 obtain ⟨k0,rfl⟩:∃ k,m0=k + 1:=⟨m0 - 1,by have:=ha.den.lenp (ZgP h1); omega⟩
 obtain ⟨s1,A1,l1,c1,t1,B1,m1,d1,rfl⟩:=hb.shp
 have S1:ml p.num.natAbs≤100000:=hp.1
 have S2:ml q.num.natAbs≤100000:=hq.1
 have S3:ml ((p.den:Nat):Int).natAbs≤100000:=mlc hp.2
 have S4:ml ((q.den:Nat):Int).natAbs≤100000:=mlc hq.2
 refine Zaz (Φ:=fun w=>(Zaw w (.agg #[.bool s0, .slice A0 l0 c0, .bool t0, .slice B0 (k0 + 1) d0]) (p)∧Zaw w (.agg #[.bool s1, .slice A1 l1 c1, .bool t1, .slice B1 m1 d1]) (q))) Tryz.func32 rfl (by kernel_rfl) (fun w' hf=>⟨ha.ext hf,hb.ext hf⟩) ?_
 refine Zac (Zab (xr 3 [(2, .p 2 0),(3, .p 3 0),(4, .p 4 0)] [bR4 4 34 false none 0 0 false none 0 0,bR4 3 34 s1 A1 l1 c1 t1 B1 m1 d1,bR4 2 34 s0 A0 l0 c0 t0 B0 (k0 + 1) d0] ?_))
 refine xe (Zaa (Zac (Zac (Zab (xr 12 [(2, .p 2 0),(3, .p 3 0),(4, .p 4 0),(16, .v (.bool false))] [bR4 4 34 false none 0 0 false none 0 0,bR4 3 34 s1 A1 l1 c1 t1 B1 m1 d1,bR4 2 34 s0 A0 l0 c0 t0 B0 (k0 + 1) d0] ?_)))))
 refine xe (Zaa (xb (Zap (Zaa (Zac ?_)))))
 refine ZaC 18 (by kernel_rfl) (by kernel_rfl) Zah ?_
 refine xf 3 [(2, .p 2 0),(3, .p 3 0),(4, .p 4 0),eI2 24 s0 A0 l0 c0,eR4 25 s1 A1 l1 c1 t1 B1 m1 d1] [bR4 4 34 false none 0 0 false none 0 0,bR4 3 34 s1 A1 l1 c1 t1 B1 m1 d1,bR4 2 34 s0 A0 l0 c0 t0 B0 (k0 + 1) d0] ?_
 refine xd 75 [vR4 s1 A1 l1 c1 t1 B1 m1 d1] 26 ZaE _ (fun w R Q=>(Zdj _ (q) _ Q.2).mono (fun _ _=>ZaH)) (fun xx=>?_)
 obtain ⟨s10,A10,l10,c10⟩:=xx
 refine xf 0 [(2, .p 2 0),(3, .p 3 0),(4, .p 4 0),eI2 24 s0 A0 l0 c0,eI2 26 s10 A10 l10 c10] [bR4 4 34 false none 0 0 false none 0 0,bR4 3 34 s1 A1 l1 c1 t1 B1 m1 d1,bR4 2 34 s0 A0 l0 c0 t0 B0 (k0 + 1) d0] ?_
 refine xd 74 [vI2 s0 A0 l0 c0,vI2 s10 A10 l10 c10] 27 ZaE _ (fun w R Q=>(ZeT _ _ ((p).num) (((q).den:Int)) _ Q.1.1.num Q.2 (nfit S1 (by decide)) (nfit S4 (by decide))).mono (fun _ _=>ZaH)) (fun xx=>?_)
 obtain ⟨s11,A11,l11,c11⟩:=xx
 refine xf 3 [(2, .p 2 0),(3, .p 3 0),(4, .p 4 0),eI2 27 s11 A11 l11 c11,eI2 29 s1 A1 l1 c1,eR4 30 s0 A0 l0 c0 t0 B0 (k0 + 1) d0] [bR4 4 34 false none 0 0 false none 0 0,bR4 3 34 s1 A1 l1 c1 t1 B1 m1 d1,bR4 2 34 s0 A0 l0 c0 t0 B0 (k0 + 1) d0] ?_
 refine xd 75 [vR4 s0 A0 l0 c0 t0 B0 (k0 + 1) d0] 31 ZaE _ (fun w R Q=>(Zdj _ (p) _ Q.1.1.1).mono (fun _ _=>ZaH)) (fun xx=>?_)
 obtain ⟨s12,A12,l12,c12⟩:=xx
 refine xf 0 [(2, .p 2 0),(3, .p 3 0),(4, .p 4 0),eI2 27 s11 A11 l11 c11,eI2 29 s1 A1 l1 c1,eI2 31 s12 A12 l12 c12] [bR4 4 34 false none 0 0 false none 0 0,bR4 3 34 s1 A1 l1 c1 t1 B1 m1 d1,bR4 2 34 s0 A0 l0 c0 t0 B0 (k0 + 1) d0] ?_
 refine xd 74 [vI2 s1 A1 l1 c1,vI2 s12 A12 l12 c12] 32 ZaE _ (fun w R Q=>(ZeT _ _ ((q).num) (((p).den:Int)) _ Q.1.1.1.2.num Q.2 (nfit S2 (by decide)) (nfit S3 (by decide))).mono (fun _ _=>ZaH)) (fun xx=>?_)
 obtain ⟨s13,A13,l13,c13⟩:=xx
 refine xf 0 [(2, .p 2 0),(3, .p 3 0),(4, .p 4 0),eI2 27 s11 A11 l11 c11,eI2 32 s13 A13 l13 c13] [bR4 4 34 false none 0 0 false none 0 0,bR4 3 34 s1 A1 l1 c1 t1 B1 m1 d1,bR4 2 34 s0 A0 l0 c0 t0 B0 (k0 + 1) d0] ?_
 refine xd 77 [vI2 s11 A11 l11 c11,vI2 s13 A13 l13 c13] 33 ZaE _ (fun w R Q=>(ZfZ _ _ (((p).num) * (((q).den:Int))) (((q).num) * (((p).den:Int))) _ Q.1.1.2 Q.2 (nfit (mlm S1 S4) (by decide)) (nfit (mlm S2 S3) (by decide))).mono (fun _ _=>ZaH)) (fun xx=>?_)
 obtain ⟨s14,A14,l14,c14⟩:=xx
 refine xf 1 [(3, .p 3 0),(4, .p 4 0),eI2 33 s14 A14 l14 c14,eR4 34 s0 A0 l0 c0 t0 B0 (k0 + 1) d0] [bR4 4 34 false none 0 0 false none 0 0,bR4 3 34 s1 A1 l1 c1 t1 B1 m1 d1,bR4 2 34 s0 A0 l0 c0 t0 B0 (k0 + 1) d0] ?_
 refine xd 75 [vR4 s0 A0 l0 c0 t0 B0 (k0 + 1) d0] 35 ZaE _ (fun w R Q=>(Zdj _ (p) _ Q.1.1.1.1.1.1).mono (fun _ _=>ZaH)) (fun xx=>?_)
 obtain ⟨s15,A15,l15,c15⟩:=xx
 refine xf 1 [(4, .p 4 0),eI2 33 s14 A14 l14 c14,eI2 35 s15 A15 l15 c15,eR4 36 s1 A1 l1 c1 t1 B1 m1 d1] [bR4 4 34 false none 0 0 false none 0 0,bR4 3 34 s1 A1 l1 c1 t1 B1 m1 d1,bR4 2 34 s0 A0 l0 c0 t0 B0 (k0 + 1) d0] ?_
 refine xd 75 [vR4 s1 A1 l1 c1 t1 B1 m1 d1] 37 ZaE _ (fun w R Q=>(Zdj _ (q) _ Q.1.1.1.1.1.1.2).mono (fun _ _=>ZaH)) (fun xx=>?_)
 obtain ⟨s16,A16,l16,c16⟩:=xx
 refine xf 0 [(4, .p 4 0),eI2 33 s14 A14 l14 c14,eI2 35 s15 A15 l15 c15,eI2 37 s16 A16 l16 c16] [bR4 4 34 false none 0 0 false none 0 0,bR4 3 34 s1 A1 l1 c1 t1 B1 m1 d1,bR4 2 34 s0 A0 l0 c0 t0 B0 (k0 + 1) d0] ?_
 refine xd 74 [vI2 s15 A15 l15 c15,vI2 s16 A16 l16 c16] 38 ZaE _ (fun w R Q=>(ZeT _ _ (((p).den:Int)) (((q).den:Int)) _ Q.1.2 Q.2 (nfit S3 (by decide)) (nfit S4 (by decide))).mono (fun _ _=>ZaH)) (fun xx=>?_)
 obtain ⟨s17,A17,l17,c17⟩:=xx
 refine xf 0 [(4, .p 4 0),eI2 33 s14 A14 l14 c14,eI2 38 s17 A17 l17 c17] [bR4 4 34 false none 0 0 false none 0 0,bR4 3 34 s1 A1 l1 c1 t1 B1 m1 d1,bR4 2 34 s0 A0 l0 c0 t0 B0 (k0 + 1) d0] ?_
 refine xd 23 [vI2 s14 A14 l14 c14,vI2 s17 A17 l17 c17] 39 Zbf _ (fun w R Q=>(Zgu _ _ ((((p).num) * (((q).den:Int))) + (((q).num) * (((p).den:Int)))) ((((p).den:Int)) * (((q).den:Int))) _ Q.1.1.1.2 Q.2 (nfit (mla (a:=200000) (mlm S1 S4) (mlm S2 S3)) (by decide)) (nfit (mlm S3 S4) (by decide)) (Int.mul_ne_zero (denI p) (denI q))).mono (fun _ _ h=>Za4 (by rw [Zh7] at h; exact h))) (fun xx=>?_)
 obtain ⟨s18,A18,l18,c18,t18,B18,m18,d18⟩:=xx
 refine xf 1 [(4, .p 4 0)] [bR4 4 34 s18 A18 l18 c18 t18 B18 m18 d18,bR4 4 34 false none 0 0 false none 0 0,bR4 3 34 s1 A1 l1 c1 t1 B1 m1 d1,bR4 2 34 s0 A0 l0 c0 t0 B0 (k0 + 1) d0] ?_
 refine xz (xe (Zaa (Zaj ?_)))
 refine Zaf (v:=.agg #[.bool s18, .slice A18 l18 c18, .bool t18, .slice B18 m18 d18]) (by kernel_rfl) (fun w' R Q=>?_)
 exact ⟨_,rfl,Q.2,R⟩
theorem ZoC (a b:Value) (p q:Rat) (w:World) (ha:Zaw w a p) (hb:Zaw w b q) (hp:ZcU p) (hq:ZcU q) (h1:p.den=1) (h2:¬ q.den=1) :
 Calls Tryz.prog 32 #[a,b] w (Zc5 w (p + q)):=by
 obtain ⟨s0,A0,l0,c0,t0,B0,m0,d0,rfl⟩:=ha.shp
 obtain rfl:m0=0:=ha.den.len0 (Zcy h1)
 obtain ⟨s1,A1,l1,c1,t1,B1,m1,d1,rfl⟩:=hb.shp
 obtain ⟨k1,rfl⟩:∃ k,m1=k + 1:=⟨m1 - 1,by have:=hb.den.lenp (ZgP h2); omega⟩
 have S1:ml p.num.natAbs≤100000:=hp.1
 have S2:ml q.num.natAbs≤100000:=hq.1
 have S3:ml ((p.den:Nat):Int).natAbs≤100000:=mlc hp.2
 have S4:ml ((q.den:Nat):Int).natAbs≤100000:=mlc hq.2
 refine Zaz (Φ:=fun w=>(Zaw w (.agg #[.bool s0, .slice A0 l0 c0, .bool t0, .slice B0 0 d0]) (p)∧Zaw w (.agg #[.bool s1, .slice A1 l1 c1, .bool t1, .slice B1 (k1 + 1) d1]) (q))) Tryz.func32 rfl (by kernel_rfl) (fun w' hf=>⟨ha.ext hf,hb.ext hf⟩) ?_
 refine Zac (Zab (xr 3 [(2, .p 2 0),(3, .p 3 0),(4, .p 4 0)] [bR4 4 34 false none 0 0 false none 0 0,bR4 3 34 s1 A1 l1 c1 t1 B1 (k1 + 1) d1,bR4 2 34 s0 A0 l0 c0 t0 B0 0 d0] ?_))
 refine xe (Zaa (Zac (Zac (Zab (xr 12 [(2, .p 2 0),(3, .p 3 0),(4, .p 4 0),(16, .v (.bool false))] [bR4 4 34 false none 0 0 false none 0 0,bR4 3 34 s1 A1 l1 c1 t1 B1 (k1 + 1) d1,bR4 2 34 s0 A0 l0 c0 t0 B0 0 d0] ?_)))))
 refine xe (Zaa (xb (Zap (Zaa (Zac ?_)))))
 refine ZaC 18 (by kernel_rfl) (by kernel_rfl) Zah ?_
 refine xf 3 [(2, .p 2 0),(3, .p 3 0),(4, .p 4 0),eI2 24 s0 A0 l0 c0,eR4 25 s1 A1 l1 c1 t1 B1 (k1 + 1) d1] [bR4 4 34 false none 0 0 false none 0 0,bR4 3 34 s1 A1 l1 c1 t1 B1 (k1 + 1) d1,bR4 2 34 s0 A0 l0 c0 t0 B0 0 d0] ?_
 refine xd 75 [vR4 s1 A1 l1 c1 t1 B1 (k1 + 1) d1] 26 ZaE _ (fun w R Q=>(Zdj _ (q) _ Q.2).mono (fun _ _=>ZaH)) (fun xx=>?_)
 obtain ⟨s10,A10,l10,c10⟩:=xx
 refine xf 0 [(2, .p 2 0),(3, .p 3 0),(4, .p 4 0),eI2 24 s0 A0 l0 c0,eI2 26 s10 A10 l10 c10] [bR4 4 34 false none 0 0 false none 0 0,bR4 3 34 s1 A1 l1 c1 t1 B1 (k1 + 1) d1,bR4 2 34 s0 A0 l0 c0 t0 B0 0 d0] ?_
 refine xd 74 [vI2 s0 A0 l0 c0,vI2 s10 A10 l10 c10] 27 ZaE _ (fun w R Q=>(ZeT _ _ ((p).num) (((q).den:Int)) _ Q.1.1.num Q.2 (nfit S1 (by decide)) (nfit S4 (by decide))).mono (fun _ _=>ZaH)) (fun xx=>?_)
 obtain ⟨s11,A11,l11,c11⟩:=xx
 refine xf 3 [(2, .p 2 0),(3, .p 3 0),(4, .p 4 0),eI2 27 s11 A11 l11 c11,eI2 29 s1 A1 l1 c1,eR4 30 s0 A0 l0 c0 t0 B0 0 d0] [bR4 4 34 false none 0 0 false none 0 0,bR4 3 34 s1 A1 l1 c1 t1 B1 (k1 + 1) d1,bR4 2 34 s0 A0 l0 c0 t0 B0 0 d0] ?_
 refine xd 75 [vR4 s0 A0 l0 c0 t0 B0 0 d0] 31 ZaE _ (fun w R Q=>(Zdj _ (p) _ Q.1.1.1).mono (fun _ _=>ZaH)) (fun xx=>?_)
 obtain ⟨s12,A12,l12,c12⟩:=xx
 refine xf 0 [(2, .p 2 0),(3, .p 3 0),(4, .p 4 0),eI2 27 s11 A11 l11 c11,eI2 29 s1 A1 l1 c1,eI2 31 s12 A12 l12 c12] [bR4 4 34 false none 0 0 false none 0 0,bR4 3 34 s1 A1 l1 c1 t1 B1 (k1 + 1) d1,bR4 2 34 s0 A0 l0 c0 t0 B0 0 d0] ?_
 refine xd 74 [vI2 s1 A1 l1 c1,vI2 s12 A12 l12 c12] 32 ZaE _ (fun w R Q=>(ZeT _ _ ((q).num) (((p).den:Int)) _ Q.1.1.1.2.num Q.2 (nfit S2 (by decide)) (nfit S3 (by decide))).mono (fun _ _=>ZaH)) (fun xx=>?_)
 obtain ⟨s13,A13,l13,c13⟩:=xx
 refine xf 0 [(2, .p 2 0),(3, .p 3 0),(4, .p 4 0),eI2 27 s11 A11 l11 c11,eI2 32 s13 A13 l13 c13] [bR4 4 34 false none 0 0 false none 0 0,bR4 3 34 s1 A1 l1 c1 t1 B1 (k1 + 1) d1,bR4 2 34 s0 A0 l0 c0 t0 B0 0 d0] ?_
 refine xd 77 [vI2 s11 A11 l11 c11,vI2 s13 A13 l13 c13] 33 ZaE _ (fun w R Q=>(ZfZ _ _ (((p).num) * (((q).den:Int))) (((q).num) * (((p).den:Int))) _ Q.1.1.2 Q.2 (nfit (mlm S1 S4) (by decide)) (nfit (mlm S2 S3) (by decide))).mono (fun _ _=>ZaH)) (fun xx=>?_)
 obtain ⟨s14,A14,l14,c14⟩:=xx
 refine xf 1 [(3, .p 3 0),(4, .p 4 0),eI2 33 s14 A14 l14 c14,eR4 34 s0 A0 l0 c0 t0 B0 0 d0] [bR4 4 34 false none 0 0 false none 0 0,bR4 3 34 s1 A1 l1 c1 t1 B1 (k1 + 1) d1,bR4 2 34 s0 A0 l0 c0 t0 B0 0 d0] ?_
 refine xd 75 [vR4 s0 A0 l0 c0 t0 B0 0 d0] 35 ZaE _ (fun w R Q=>(Zdj _ (p) _ Q.1.1.1.1.1.1).mono (fun _ _=>ZaH)) (fun xx=>?_)
 obtain ⟨s15,A15,l15,c15⟩:=xx
 refine xf 1 [(4, .p 4 0),eI2 33 s14 A14 l14 c14,eI2 35 s15 A15 l15 c15,eR4 36 s1 A1 l1 c1 t1 B1 (k1 + 1) d1] [bR4 4 34 false none 0 0 false none 0 0,bR4 3 34 s1 A1 l1 c1 t1 B1 (k1 + 1) d1,bR4 2 34 s0 A0 l0 c0 t0 B0 0 d0] ?_
 refine xd 75 [vR4 s1 A1 l1 c1 t1 B1 (k1 + 1) d1] 37 ZaE _ (fun w R Q=>(Zdj _ (q) _ Q.1.1.1.1.1.1.2).mono (fun _ _=>ZaH)) (fun xx=>?_)
 obtain ⟨s16,A16,l16,c16⟩:=xx
 refine xf 0 [(4, .p 4 0),eI2 33 s14 A14 l14 c14,eI2 35 s15 A15 l15 c15,eI2 37 s16 A16 l16 c16] [bR4 4 34 false none 0 0 false none 0 0,bR4 3 34 s1 A1 l1 c1 t1 B1 (k1 + 1) d1,bR4 2 34 s0 A0 l0 c0 t0 B0 0 d0] ?_
 refine xd 74 [vI2 s15 A15 l15 c15,vI2 s16 A16 l16 c16] 38 ZaE _ (fun w R Q=>(ZeT _ _ (((p).den:Int)) (((q).den:Int)) _ Q.1.2 Q.2 (nfit S3 (by decide)) (nfit S4 (by decide))).mono (fun _ _=>ZaH)) (fun xx=>?_)
 obtain ⟨s17,A17,l17,c17⟩:=xx
 refine xf 0 [(4, .p 4 0),eI2 33 s14 A14 l14 c14,eI2 38 s17 A17 l17 c17] [bR4 4 34 false none 0 0 false none 0 0,bR4 3 34 s1 A1 l1 c1 t1 B1 (k1 + 1) d1,bR4 2 34 s0 A0 l0 c0 t0 B0 0 d0] ?_
 refine xd 23 [vI2 s14 A14 l14 c14,vI2 s17 A17 l17 c17] 39 Zbf _ (fun w R Q=>(Zgu _ _ ((((p).num) * (((q).den:Int))) + (((q).num) * (((p).den:Int)))) ((((p).den:Int)) * (((q).den:Int))) _ Q.1.1.1.2 Q.2 (nfit (mla (a:=200000) (mlm S1 S4) (mlm S2 S3)) (by decide)) (nfit (mlm S3 S4) (by decide)) (Int.mul_ne_zero (denI p) (denI q))).mono (fun _ _ h=>Za4 (by rw [Zh7] at h; exact h))) (fun xx=>?_)
 obtain ⟨s18,A18,l18,c18,t18,B18,m18,d18⟩:=xx
 refine xf 1 [(4, .p 4 0)] [bR4 4 34 s18 A18 l18 c18 t18 B18 m18 d18,bR4 4 34 false none 0 0 false none 0 0,bR4 3 34 s1 A1 l1 c1 t1 B1 (k1 + 1) d1,bR4 2 34 s0 A0 l0 c0 t0 B0 0 d0] ?_
 refine xz (xe (Zaa (Zaj ?_)))
 refine Zaf (v:=.agg #[.bool s18, .slice A18 l18 c18, .bool t18, .slice B18 m18 d18]) (by kernel_rfl) (fun w' R Q=>?_)
 exact ⟨_,rfl,Q.2,R⟩
theorem ZrD (a b:Value) (p q:Rat) (w:World) (ha:Zaw w a p) (hb:Zaw w b q) (hp:ZcU p) (hq:ZcU q):Calls Tryz.prog 32 #[a,b] w (Zc5 w (p + q)):=by
 by_cases h1:p.den=1
 ·by_cases h2:q.den=1
  ·exact ZoA a b p q w ha hb hp hq h1 h2
  ·exact ZoC a b p q w ha hb hp hq h1 h2
 ·exact ZoB a b p q w ha hb hp hq h1
theorem ZrE (a b:Value) (p q:Rat) (w:World) (ha:Zaw w a p) (hb:Zaw w b q) (hp:ZcU p) (hq:ZcU q) :
 Calls Tryz.prog 27 #[a,b] w (Zc5 w (p - q)):=by
 obtain ⟨s0,A0,l0,c0,t0,B0,m0,d0,rfl⟩:=ha.shp
 obtain ⟨s1,A1,l1,c1,t1,B1,m1,d1,rfl⟩:=hb.shp
 refine Zaz (Φ:=fun w=>(Zaw w (.agg #[.bool s0, .slice A0 l0 c0, .bool t0, .slice B0 m0 d0]) (p)∧Zaw w (.agg #[.bool s1, .slice A1 l1 c1, .bool t1, .slice B1 m1 d1]) (q))) Tryz.func27 rfl (by kernel_rfl) (fun w' hf=>⟨ha.ext hf,hb.ext hf⟩) ?_
 refine Zac (Zab (xr 3 [(2, .p 2 0),(3, .p 3 0),(4, .p 4 0)] [bR4 4 34 false none 0 0 false none 0 0,bR4 3 34 s1 A1 l1 c1 t1 B1 m1 d1,bR4 2 34 s0 A0 l0 c0 t0 B0 m0 d0] ?_))
 refine xe (Zaa (Zac ?_))
 refine ZaC 5 (by kernel_rfl) (by kernel_rfl) Zah ?_
 refine xf 2 [(4, .p 4 0),eR4 5 s0 A0 l0 c0 t0 B0 m0 d0,eR4 6 s1 A1 l1 c1 t1 B1 m1 d1] [bR4 4 34 false none 0 0 false none 0 0,bR4 3 34 s1 A1 l1 c1 t1 B1 m1 d1,bR4 2 34 s0 A0 l0 c0 t0 B0 m0 d0] ?_
 refine xd 73 [vR4 s1 A1 l1 c1 t1 B1 m1 d1] 7 Zbf _ (fun w R Q=>(ZrC _ (q) _ Q.2).mono (fun _ _=>Za4)) (fun xx=>?_)
 obtain ⟨s10,A10,l10,c10,t10,B10,m10,d10⟩:=xx
 refine xf 0 [(4, .p 4 0),eR4 5 s0 A0 l0 c0 t0 B0 m0 d0,eR4 7 s10 A10 l10 c10 t10 B10 m10 d10] [bR4 4 34 false none 0 0 false none 0 0,bR4 3 34 s1 A1 l1 c1 t1 B1 m1 d1,bR4 2 34 s0 A0 l0 c0 t0 B0 m0 d0] ?_
 refine xd 32 [vR4 s0 A0 l0 c0 t0 B0 m0 d0,vR4 s10 A10 l10 c10 t10 B10 m10 d10] 8 Zbf _ (fun w R Q=>(ZrD _ _ (p) (-(q)) _ Q.1.1 Q.2 hp hq.neg).mono (fun _ _ h=>Za4 (by rw [← Rat.sub_eq_add_neg] at h; exact h))) (fun xx=>?_)
 obtain ⟨s11,A11,l11,c11,t11,B11,m11,d11⟩:=xx
 refine xf 1 [(4, .p 4 0)] [bR4 4 34 s11 A11 l11 c11 t11 B11 m11 d11,bR4 4 34 false none 0 0 false none 0 0,bR4 3 34 s1 A1 l1 c1 t1 B1 m1 d1,bR4 2 34 s0 A0 l0 c0 t0 B0 m0 d0] ?_
 refine xz (xe (Zaa (Zaj ?_)))
 refine Zaf (v:=.agg #[.bool s11, .slice A11 l11 c11, .bool t11, .slice B11 m11 d11]) (by kernel_rfl) (fun w' R Q=>?_)
 exact ⟨_,rfl,Q.2,R⟩
theorem Zdc (a b:Value) (p q:Rat) (w:World) (ha:Zaw w a p) (hb:Zaw w b q) (hp:ZcU p) (hq:ZcU q) :
 Calls Tryz.prog 28 #[a,b] w (RetV w (.int .i64 (p - q).num.sign)):=by
 obtain ⟨s0,A0,l0,c0,t0,B0,m0,d0,rfl⟩:=ha.shp
 obtain ⟨s1,A1,l1,c1,t1,B1,m1,d1,rfl⟩:=hb.shp
 refine Zaz (Φ:=fun w=>(Zaw w (.agg #[.bool s0, .slice A0 l0 c0, .bool t0, .slice B0 m0 d0]) (p)∧Zaw w (.agg #[.bool s1, .slice A1 l1 c1, .bool t1, .slice B1 m1 d1]) (q))) Tryz.func28 rfl (by kernel_rfl) (fun w' hf=>⟨ha.ext hf,hb.ext hf⟩) ?_
 refine Zac (Zab (xr 3 [(2, .p 2 0),(3, .p 3 0),(4, .v (.int .i64 0))] [bR4 3 34 s1 A1 l1 c1 t1 B1 m1 d1,bR4 2 34 s0 A0 l0 c0 t0 B0 m0 d0] ?_))
 refine xe (Zaa (Zac (Zab (xr 2 [(4, .v (.int .i64 0)),eR4 5 s0 A0 l0 c0 t0 B0 m0 d0,eR4 6 s1 A1 l1 c1 t1 B1 m1 d1] [] ?_))))
 refine xc 27 [vR4 s0 A0 l0 c0 t0 B0 m0 d0,vR4 s1 A1 l1 c1 t1 B1 m1 d1] 7 Zbf _ (fun w R Q=>(ZrE _ _ (p) (q) _ Q.1 Q.2 hp hq).mono (fun _ _=>Za4)) (fun xx=>?_)
 obtain ⟨s10,A10,l10,c10,t10,B10,m10,d10⟩:=xx
 refine xr 0 [(4, .v (.int .i64 0)),eR4 7 s10 A10 l10 c10 t10 B10 m10 d10] [] ?_
 refine xc 50 [vR4 s10 A10 l10 c10 t10 B10 m10 d10] 8 (fun _:Unit=>.int .i64 (p - q).num.sign) _ (fun w R Q=>(Zqn _ (p - q) _ Q.2).mono (fun _ _ h=>Zad h rfl)) (fun xx=>?_)
 refine xr 1 [(4, .v (.int .i64 (p - q).num.sign))] [] ?_
 refine xe (Zaa (Zaj ?_))
 refine Zaf (v:=.int .i64 (p - q).num.sign) (by kernel_rfl) (fun w' R Q=>?_)
 exact ⟨rfl,R⟩
end Go.Proofs.YtklpdkpcocnglaaGreatDoor

namespace Go.Proofs.YtklpdkpcocnglaaGreatDoor
open Go.RowKit
theorem ZiQ (a b:List UInt8):(⟨a.toArray⟩:ByteArray) ++ ⟨b.toArray⟩=⟨(a ++ b).toArray⟩:=by
 apply ByteArray.ext
 simp
theorem ZfH {n:Nat} (hn:ml n≤65536):(Lib.decDigits n).length≤655360:=by
 rcases Nat.eq_zero_or_pos n with e | e
 ·rw [e,Lib.decDigits_one (by omega)]; simp
 ·have h1:n < 10 ^ (10 * ml n):=by
   refine Nat.lt_of_lt_of_le (Zg6 n) ?_
   rw [Nat.pow_mul]
   exact Nat.pow_le_pow_left (by rw [Zaq]; decide) _
  have:=Zqe _ _ h1
  rw [ZbV e] at this
  omega
set_option maxHeartbeats 2000000 in
theorem Zmp (a:Value) (q:Rat) (w:World) (ha:Zaw w a q) (h1:ml q.num.natAbs≤65536) (_:ml q.den≤65536) (hs:q.num < 0) (hd:q.den=1) :
 Calls Tryz.prog 31 #[a] w (RetV w (.string ⟨(ZaB q).toArray⟩)):=by
 obtain ⟨s1,A1,l1,c1,t1,B1,m1,d1,rfl⟩:=ha.shp
 have F2:Hid (Zaw w (.agg #[.bool s1, .slice A1 l1 c1, .bool t1, .slice B1 m1 d1]) (q)):=ha
 clear ha
 obtain rfl:s1=true:=F2.out.num.sneg hs
 have H1:Hid (ml q.num.natAbs≤65536):=h1
 obtain rfl:m1=0:=F2.out.den.len0 (Zcy hd)
 have HT:Hid (ZaB q=45 :: Lib.decDigits q.num.natAbs):=by unfold Hid ZaB Lib.itoa; rw [if_pos hd,if_pos hs]
 obtain ⟨rt,ert⟩:∃ rt,ZaB q=rt:=⟨_,rfl⟩
 rw [ert] at HT ⊢
 clear hs hd h1 ert
 go_enter Tryz.func31,Tryz.ntmps31
 go_wp2_with fail
 generalize hwb:World.alloc w _=w4
 obtain ⟨b_B3,hE0⟩:=ZcQ hwb
 clear hwb
 have B3:=zh b_B3
 clear b_B3
 replace F2:=zh (F2.out.ext hE0)
 have HE:=zh hE0
 clear hE0
 have F5:Hid (Zai w4 (.agg #[.bool true, .slice A1 l1 c1]) ((q).num)):=F2.out.num
 have F8:Hid (Zar w4 (.slice A1 l1 c1) (((q).num).natAbs)):=F5.out.mag
 refine (Zd7 true A1 l1 c1 _ _ F8.out (by first | exact H1.out | exact H2.out)).mono ?_
 obtain ⟨t7,et7⟩:∃ t,Lib.decDigits (((q).num).natAbs)=t:=⟨_,rfl⟩
 rw [et7]; have hlen7:t7.length≤655360:=by rw [← et7]; exact ZfH (by first | exact H1.out | exact H2.out)
 have Ht7:=zh et7; clear et7
 rintro e w6 ⟨rfl,hF⟩
 replace B3:=zh (B3.out.ext hF)
 replace F2:=zh (F2.out.ext hF)
 replace F5:=zh (F5.out.ext hF)
 replace F8:=zh (F8.out.ext hF)
 replace HE:=zh (HE.out.trans hF)
 clear hF
 obtain ⟨c9_0,c9_1,c9_2,c9_3,f9_0,f9_1,f9_2,f9_3⟩:=B3.out.cell4
 go_wp2
 clear c9_0 c9_1 c9_2 c9_3 f9_0 f9_1 f9_2 f9_3
 go_ret
 refine ⟨?_,HE.out⟩
 rw [HT.out,Ht7.out]
 show Ending.returned (.string ((⟨#[45]⟩:ByteArray) ++ ⟨t7.toArray⟩))=_
 simp only [ZiQ]
 rfl
set_option maxHeartbeats 2000000 in
theorem Zmq (a:Value) (q:Rat) (w:World) (ha:Zaw w a q) (h1:ml q.num.natAbs≤65536) (h2:ml q.den≤65536) (hs:q.num < 0) (hd:¬ q.den=1) :
 Calls Tryz.prog 31 #[a] w (RetV w (.string ⟨(ZaB q).toArray⟩)):=by
 obtain ⟨s1,A1,l1,c1,t1,B1,m1,d1,rfl⟩:=ha.shp
 have F2:Hid (Zaw w (.agg #[.bool s1, .slice A1 l1 c1, .bool t1, .slice B1 m1 d1]) (q)):=ha
 clear ha
 obtain rfl:s1=true:=F2.out.num.sneg hs
 have H1:Hid (ml q.num.natAbs≤65536):=h1
 have hl:0 < m1:=F2.out.den.lenp (ZgP hd)
 have hlb:decide ((0:Int) < (m1:Int))=true:=by rw [decide_eq_true_eq]; omega
 have H2:Hid (ml (denF q).natAbs≤65536):=by unfold Hid; rw [ZcW hd,Int.natAbs_natCast]; exact h2
 have HT:Hid (ZaB q=(45 :: Lib.decDigits q.num.natAbs) ++ (47 :: Lib.decDigits (denF q).natAbs)):=by
  unfold Hid ZaB
  rw [if_neg hd,ZcW hd,Int.natAbs_natCast,Lib.itoa_nonneg]
  unfold Lib.itoa
  rw [if_pos (show q.num < 0 by omega)]
  simp
 obtain ⟨rt,ert⟩:∃ rt,ZaB q=rt:=⟨_,rfl⟩
 rw [ert] at HT ⊢
 clear hs hd h1 h2 ert
 go_enter Tryz.func31,Tryz.ntmps31
 go_wp2_with fail
 generalize hwb:World.alloc w _=w4
 obtain ⟨b_B3,hE0⟩:=ZcQ hwb
 clear hwb
 have B3:=zh b_B3
 clear b_B3
 replace F2:=zh (F2.out.ext hE0)
 have HE:=zh hE0
 clear hE0
 have F5:Hid (Zai w4 (.agg #[.bool true, .slice A1 l1 c1]) ((q).num)):=F2.out.num
 have F8:Hid (Zar w4 (.slice A1 l1 c1) (((q).num).natAbs)):=F5.out.mag
 refine (Zd7 true A1 l1 c1 _ _ F8.out (by first | exact H1.out | exact H2.out)).mono ?_
 obtain ⟨t7,et7⟩:∃ t,Lib.decDigits (((q).num).natAbs)=t:=⟨_,rfl⟩
 rw [et7]; have hlen7:t7.length≤655360:=by rw [← et7]; exact ZfH (by first | exact H1.out | exact H2.out)
 have Ht7:=zh et7; clear et7
 rintro e w6 ⟨rfl,hF⟩
 replace B3:=zh (B3.out.ext hF)
 replace F2:=zh (F2.out.ext hF)
 replace F5:=zh (F5.out.ext hF)
 replace F8:=zh (F8.out.ext hF)
 replace HE:=zh (HE.out.trans hF)
 clear hF
 obtain ⟨c9_0,c9_1,c9_2,c9_3,f9_0,f9_1,f9_2,f9_3⟩:=B3.out.cell4
 go_wp2_with fail
 clear c9_0 c9_1 c9_2 c9_3 f9_0 f9_1 f9_2 f9_3
 have F10:Hid (Zai w6 (.agg #[.bool t1, .slice B1 m1 d1]) (denF (q))):=F2.out.den
 have F13:Hid (Zar w6 (.slice B1 m1 d1) ((denF (q)).natAbs)):=F10.out.mag
 refine (Zd7 t1 B1 m1 d1 _ _ F13.out (by first | exact H1.out | exact H2.out)).mono ?_
 obtain ⟨t12,et12⟩:∃ t,Lib.decDigits ((denF (q)).natAbs)=t:=⟨_,rfl⟩
 rw [et12]; have hlen12:t12.length≤655360:=by rw [← et12]; exact ZfH (by first | exact H1.out | exact H2.out)
 have Ht12:=zh et12; clear et12
 rintro e w11 ⟨rfl,hF⟩
 replace B3:=zh (B3.out.ext hF)
 replace F2:=zh (F2.out.ext hF)
 replace F5:=zh (F5.out.ext hF)
 replace F8:=zh (F8.out.ext hF)
 replace F10:=zh (F10.out.ext hF)
 replace F13:=zh (F13.out.ext hF)
 replace HE:=zh (HE.out.trans hF)
 clear hF
 obtain ⟨c14_0,c14_1,c14_2,c14_3,f14_0,f14_1,f14_2,f14_3⟩:=B3.out.cell4
 go_wp2
 clear c14_0 c14_1 c14_2 c14_3 f14_0 f14_1 f14_2 f14_3
 go_ret
 refine ⟨?_,HE.out⟩
 rw [HT.out,Ht7.out,Ht12.out]
 show Ending.returned (.string (((⟨#[45]⟩:ByteArray) ++ ⟨t7.toArray⟩) ++ ((⟨#[47]⟩:ByteArray) ++ ⟨t12.toArray⟩)))=_
 simp only [ZiQ]
 rfl
set_option maxHeartbeats 2000000 in
theorem Zmr (a:Value) (q:Rat) (w:World) (ha:Zaw w a q) (h1:ml q.num.natAbs≤65536) (_:ml q.den≤65536) (hs:0≤q.num) (hd:q.den=1) :
 Calls Tryz.prog 31 #[a] w (RetV w (.string ⟨(ZaB q).toArray⟩)):=by
 obtain ⟨s1,A1,l1,c1,t1,B1,m1,d1,rfl⟩:=ha.shp
 have F2:Hid (Zaw w (.agg #[.bool s1, .slice A1 l1 c1, .bool t1, .slice B1 m1 d1]) (q)):=ha
 clear ha
 obtain rfl:s1=false:=F2.out.num.spos hs
 have H1:Hid (ml q.num.natAbs≤65536):=h1
 obtain rfl:m1=0:=F2.out.den.len0 (Zcy hd)
 have HT:Hid (ZaB q=Lib.decDigits q.num.natAbs):=by unfold Hid ZaB Lib.itoa; rw [if_pos hd,if_neg (show ¬ q.num < 0 by omega)]; rw [show q.num.toNat=q.num.natAbs by omega]
 obtain ⟨rt,ert⟩:∃ rt,ZaB q=rt:=⟨_,rfl⟩
 rw [ert] at HT ⊢
 clear hs hd h1 ert
 go_enter Tryz.func31,Tryz.ntmps31
 go_wp2_with fail
 generalize hwb:World.alloc w _=w4
 obtain ⟨b_B3,hE0⟩:=ZcQ hwb
 clear hwb
 have B3:=zh b_B3
 clear b_B3
 replace F2:=zh (F2.out.ext hE0)
 have HE:=zh hE0
 clear hE0
 have F5:Hid (Zai w4 (.agg #[.bool false, .slice A1 l1 c1]) ((q).num)):=F2.out.num
 have F8:Hid (Zar w4 (.slice A1 l1 c1) (((q).num).natAbs)):=F5.out.mag
 refine (Zd7 false A1 l1 c1 _ _ F8.out (by first | exact H1.out | exact H2.out)).mono ?_
 obtain ⟨t7,et7⟩:∃ t,Lib.decDigits (((q).num).natAbs)=t:=⟨_,rfl⟩
 rw [et7]; have hlen7:t7.length≤655360:=by rw [← et7]; exact ZfH (by first | exact H1.out | exact H2.out)
 have Ht7:=zh et7; clear et7
 rintro e w6 ⟨rfl,hF⟩
 replace B3:=zh (B3.out.ext hF)
 replace F2:=zh (F2.out.ext hF)
 replace F5:=zh (F5.out.ext hF)
 replace F8:=zh (F8.out.ext hF)
 replace HE:=zh (HE.out.trans hF)
 clear hF
 obtain ⟨c9_0,c9_1,c9_2,c9_3,f9_0,f9_1,f9_2,f9_3⟩:=B3.out.cell4
 go_wp2
 clear c9_0 c9_1 c9_2 c9_3 f9_0 f9_1 f9_2 f9_3
 go_ret
 refine ⟨?_,HE.out⟩
 rw [HT.out,Ht7.out]
 show Ending.returned (.string (⟨t7.toArray⟩:ByteArray))=_
 rfl
set_option maxHeartbeats 2000000 in
theorem Zms (a:Value) (q:Rat) (w:World) (ha:Zaw w a q) (h1:ml q.num.natAbs≤65536) (h2:ml q.den≤65536) (hs:0≤q.num) (hd:¬ q.den=1) :
 Calls Tryz.prog 31 #[a] w (RetV w (.string ⟨(ZaB q).toArray⟩)):=by
 obtain ⟨s1,A1,l1,c1,t1,B1,m1,d1,rfl⟩:=ha.shp
 have F2:Hid (Zaw w (.agg #[.bool s1, .slice A1 l1 c1, .bool t1, .slice B1 m1 d1]) (q)):=ha
 clear ha
 obtain rfl:s1=false:=F2.out.num.spos hs
 have H1:Hid (ml q.num.natAbs≤65536):=h1
 have hl:0 < m1:=F2.out.den.lenp (ZgP hd)
 have hlb:decide ((0:Int) < (m1:Int))=true:=by rw [decide_eq_true_eq]; omega
 have H2:Hid (ml (denF q).natAbs≤65536):=by unfold Hid; rw [ZcW hd,Int.natAbs_natCast]; exact h2
 have HT:Hid (ZaB q=(Lib.decDigits q.num.natAbs) ++ (47 :: Lib.decDigits (denF q).natAbs)):=by
  unfold Hid ZaB
  rw [if_neg hd,ZcW hd,Int.natAbs_natCast,Lib.itoa_nonneg]
  unfold Lib.itoa
  rw [if_neg (show ¬ q.num < 0 by omega)]
  rw [show q.num.toNat=q.num.natAbs by omega]
  simp
 obtain ⟨rt,ert⟩:∃ rt,ZaB q=rt:=⟨_,rfl⟩
 rw [ert] at HT ⊢
 clear hs hd h1 h2 ert
 go_enter Tryz.func31,Tryz.ntmps31
 go_wp2_with fail
 generalize hwb:World.alloc w _=w4
 obtain ⟨b_B3,hE0⟩:=ZcQ hwb
 clear hwb
 have B3:=zh b_B3
 clear b_B3
 replace F2:=zh (F2.out.ext hE0)
 have HE:=zh hE0
 clear hE0
 have F5:Hid (Zai w4 (.agg #[.bool false, .slice A1 l1 c1]) ((q).num)):=F2.out.num
 have F8:Hid (Zar w4 (.slice A1 l1 c1) (((q).num).natAbs)):=F5.out.mag
 refine (Zd7 false A1 l1 c1 _ _ F8.out (by first | exact H1.out | exact H2.out)).mono ?_
 obtain ⟨t7,et7⟩:∃ t,Lib.decDigits (((q).num).natAbs)=t:=⟨_,rfl⟩
 rw [et7]; have hlen7:t7.length≤655360:=by rw [← et7]; exact ZfH (by first | exact H1.out | exact H2.out)
 have Ht7:=zh et7; clear et7
 rintro e w6 ⟨rfl,hF⟩
 replace B3:=zh (B3.out.ext hF)
 replace F2:=zh (F2.out.ext hF)
 replace F5:=zh (F5.out.ext hF)
 replace F8:=zh (F8.out.ext hF)
 replace HE:=zh (HE.out.trans hF)
 clear hF
 obtain ⟨c9_0,c9_1,c9_2,c9_3,f9_0,f9_1,f9_2,f9_3⟩:=B3.out.cell4
 go_wp2_with fail
 clear c9_0 c9_1 c9_2 c9_3 f9_0 f9_1 f9_2 f9_3
 have F10:Hid (Zai w6 (.agg #[.bool t1, .slice B1 m1 d1]) (denF (q))):=F2.out.den
 have F13:Hid (Zar w6 (.slice B1 m1 d1) ((denF (q)).natAbs)):=F10.out.mag
 refine (Zd7 t1 B1 m1 d1 _ _ F13.out (by first | exact H1.out | exact H2.out)).mono ?_
 obtain ⟨t12,et12⟩:∃ t,Lib.decDigits ((denF (q)).natAbs)=t:=⟨_,rfl⟩
 rw [et12]; have hlen12:t12.length≤655360:=by rw [← et12]; exact ZfH (by first | exact H1.out | exact H2.out)
 have Ht12:=zh et12; clear et12
 rintro e w11 ⟨rfl,hF⟩
 replace B3:=zh (B3.out.ext hF)
 replace F2:=zh (F2.out.ext hF)
 replace F5:=zh (F5.out.ext hF)
 replace F8:=zh (F8.out.ext hF)
 replace F10:=zh (F10.out.ext hF)
 replace F13:=zh (F13.out.ext hF)
 replace HE:=zh (HE.out.trans hF)
 clear hF
 obtain ⟨c14_0,c14_1,c14_2,c14_3,f14_0,f14_1,f14_2,f14_3⟩:=B3.out.cell4
 go_wp2
 clear c14_0 c14_1 c14_2 c14_3 f14_0 f14_1 f14_2 f14_3
 go_ret
 refine ⟨?_,HE.out⟩
 rw [HT.out,Ht7.out,Ht12.out]
 show Ending.returned (.string ((⟨t7.toArray⟩:ByteArray) ++ ((⟨#[47]⟩:ByteArray) ++ ⟨t12.toArray⟩)))=_
 simp only [ZiQ]
 rfl
theorem Zik (a:Value) (q:Rat) (w:World) (ha:Zaw w a q) (h1:ml q.num.natAbs≤65536) (h2:ml q.den≤65536):Calls Tryz.prog 31 #[a] w (RetV w (.string ⟨(ZaB q).toArray⟩)):=by
 by_cases hs:q.num < 0
 ·by_cases hd:q.den=1
  ·exact Zmp a q w ha h1 h2 hs hd
  ·exact Zmq a q w ha h1 h2 hs hd
 ·by_cases hd:q.den=1
  ·exact Zmr a q w ha h1 h2 (by omega) hd
  ·exact Zms a q w ha h1 h2 (by omega) hd
end Go.Proofs.YtklpdkpcocnglaaGreatDoor

namespace Go.Proofs.YtklpdkpcocnglaaGreatDoor
open Go.RowKit
def ZkE (w:World) (l:List UInt8) (e:Ending) (w':World):Prop :=
 ∃ v b,e=.returned (.tuple #[v, .bool b])∧b=(l.all Zat && !l.isEmpty)∧Zai w' v (if l.all Zat then (Zag l:Int) else 0)∧Ext w w'
theorem ZnA {fn:Func} {t t':Tmp} {tmps:Array Value} {w w':World} {r:Nat} {x y:Value} {b:Bool} {l:List UInt8} (hres:fn.results=#[.cell t 32, .tmp t']) (ht:tmps[t]? = some (.pointer (some ⟨r,0,none⟩))) (ht':tmps[t']? = some (.bool b))
 (hB:Blk 32 w' r #[x,y]) (hI:Zai w' (.agg #[x,y]) (if l.all Zat then (Zag l:Int) else 0)) (hb:b=(l.all Zat && !l.isEmpty)) (Q:Ext w w'):bodyPost Tryz.prog fn (ZkE w l) .ret ⟨tmps,[]⟩ w':=by
 obtain ⟨h0,h1,_⟩:=hB.cell2
 exact bodyPost_ret (v:=.tuple #[.agg #[x,y], .bool b]) (by simp [results,hres,ht,ht',go_sem,h0,h1]) rfl ⟨_,_,rfl,hb,hI,Q⟩
theorem Zar.one_pos {w:World} {b r:Nat} (h:Own .u32 102 w b [r]) (hr:r < W32) (h0:0 < r):Zar w (.slice (some ⟨b,0,none⟩) 1 1) r :=
 ⟨_,[r],1,rfl,Nat.le_refl _,h.shows0,Dig.cons hr Dig.nil,fun k hk=>by simp at hk; subst hk; simp; omega,by simp⟩
theorem ZgS {n k:Nat} (h:n < 10 ^ k):ml n≤k:=ZaW.2 (Nat.lt_of_lt_of_le h (Nat.pow_le_pow_left (by rw [Zaq]; omega) _))
theorem ZnB (s:ByteArray):s.toList.isEmpty=(bytes s).isEmpty:=by
 rw [Lib.toList_data]
def FdIn (l:List UInt8) (i k v f:Nat):Prop:=k≤9∧i + k≤l.length∧(l.take (i + k)).all Zat=true∧v=Zag ((l.drop i).take k)∧f=10 ^ k
theorem FdIn.bounds {l:List UInt8} {i k v f:Nat} (h:FdIn l i k v f):v < 10 ^ k∧v < 1000000000∧f≤1000000000∧0 < f:=by
 obtain ⟨h1,h2,h3,h4,h5⟩:=h
 have hall:((l.drop i).take k).all Zat=true:=by
  rw [List.all_eq_true] at h3 ⊢
  intro x hx
  refine h3 x ?_
  rw [List.take_add]
  exact List.mem_append_right _ hx
 have:=Zbl _ hall
 rw [List.length_take,List.length_drop,Nat.min_eq_left (by omega),← h4] at this
 have h6:10 ^ k≤10 ^ 9:=Nat.pow_le_pow_right (by omega) h1
 have h7:0 < 10 ^ k:=Nat.pow_pos (by omega)
 exact ⟨this,by omega,by omega,by omega⟩
theorem FdIn.step {l:List UInt8} {i k v f:Nat} {c:UInt8} (h:FdIn l i k v f) (hk:k < 9) (hlt:i + k < l.length) (hc:l[i + k]=c) (hd:Zat c=true):FdIn l i (k + 1) (v * 10 + (c.toNat - 48)) (f * 10):=by
 obtain ⟨h1,h2,h3,h4,h5⟩:=h
 refine ⟨by omega,by omega,?_,?_,by rw [h5,Nat.pow_succ]⟩
 ·rw [← Nat.add_assoc,List.take_succ_eq_append_getElem hlt,List.all_append,h3,hc]
  simp [hd]
 ·rw [List.take_succ_eq_append_getElem (by simp; omega),Zdx,← h4,List.getElem_drop,hc]
  omega
theorem FdIn.done {l:List UInt8} {i k v f:Nat} (h:FdIn l i k v f):Zag (l.take i) * f + v=Zag (l.take (i + k)):=by
 obtain ⟨h1,h2,h3,h4,h5⟩:=h
 have:l.take (i + k)=l.take i ++ (l.drop i).take k:=by rw [List.take_add]
 rw [this,Zej,List.length_take,List.length_drop,Nat.min_eq_left (by omega),← h4,h5]
theorem ZtJ {l:List UInt8} {i:Nat} (h:i < l.length) (hd:Zat l[i]=false):l.all Zat=false:=by
 rw [List.all_eq_false]
 exact ⟨l[i],List.getElem_mem h,by simp [hd]⟩
set_option maxHeartbeats 2000000 in
theorem ZdG (s:ByteArray) (w:World) (hs:s.size≤65536):Calls Tryz.prog 60 #[.string s] w (ZkE w (bytes s)):=by
 have hbl:=zh (Zao s)
 go_enter Tryz.func60,Tryz.ntmps60
 go_wp2_with fail
 generalize hwb:World.alloc w _=w1
 obtain ⟨b0,hE0⟩:=ZcQ hwb
 have HB:=zh b0
 have HE:=zh hE0
 clear hwb b0 hE0
 go_loopw [4,5,6,7,8] (fun mv iv _ _ _ wr=>∃ (i:Nat) (A:Option Addr) (ln c:Nat),i≤s.size∧iv=.int .i64 (i:Int)∧mv=.slice A ln c∧Hid (((bytes s).take i).all Zat=true)∧Hid (Zar wr (.slice A ln c) (Zag ((bytes s).take i)))∧Hid (Ext w1 wr)) (fun _ iv _ _ _ _=>s.size - (intOf iv).toNat)
 case atStart=>exact ⟨0,none,0,0,by omega,rfl,rfl,by unfold Hid; simp,by unfold Hid; simpa [Zag] using Zar.zero _,Fr.refl _ _⟩
 case round =>
  obtain ⟨i,A,ln,c,hi,rfl,rfl,hall,hM,hF⟩:=hrel
  by_cases hlt:i < s.size
  ·go_wp2
   go_loop [5,6,7,8] (fun iv vv fv kv=>∃ (k v f:Nat),k≤9∧i + k≤s.size∧v < 1000000000∧f≤1000000000∧0 < f∧iv=.int .i64 ((i + k:Nat):Int)∧vv=.int .u32 (v:Int)∧fv=.int .u32 (f:Int)∧kv=.int .i64 (k:Int)∧Hid (FdIn (bytes s) i k v f)) (fun _ _ _ kv=>9 - (intOf kv).toNat)
   case atStart=>exact ⟨0,0,1,by omega,by omega,by omega,by omega,by omega,rfl,rfl,rfl,rfl,⟨by omega,by rw [hbl.out]; omega,hall.out,by simp [Zag],rfl⟩⟩
   case round =>
    obtain ⟨k,v,f,hk,hik,hv,hf,hf0,rfl,rfl,rfl,rfl,hI⟩:=hrel
    by_cases hgo:k < 9∧i + k < s.size
    ·obtain ⟨g1,g2⟩:=hgo
     have gd1:decide ((k:Int) < 9)=true:=by rw [decide_eq_true_eq]; omega
     have hbk:(bytes s)[i + k]'(by rw [hbl.out]; exact g2)=s[i + k]:=Zg9 s g2
     by_cases hd:Zat s[i + k]=true
     ·have HI2:=zh (hI.out.step g1 (by rw [hbl.out]; exact g2) hbk hd)
      have hb:=Zii hd
      have hb2:=HI2.out.bounds
      have e1:IntKind.u8.wrap ((s[i + k].toNat:Int) - 48)=((s[i + k].toNat - 48:Nat):Int):=by rw [IntKind.wrap_u8]; omega
      have e1':((s[i + k].toNat:Int) - 48) % 256=((s[i + k].toNat - 48:Nat):Int):=by omega
      obtain ⟨d,ed⟩:∃ d,s[i + k].toNat - 48=d:=⟨_,rfl⟩
      have hd9:d≤9:=by omega
      rw [ed] at HI2 e1 e1' hb2
      have hv2:=hb2.2.1
      have hf2:=hb2.2.2.1
      have x1:(i:Int) + (k:Int) < (s.size:Int):=by omega
      have x2:(0:Int)≤(i:Int) + (k:Int):=by omega
      have x3:(48:Int)≤(s[i + k].toNat:Int):=by omega
      have x4:¬ ((s[i + k].toNat:Int) < 48):=by omega
      have x5:¬ ((57:Int) < (s[i + k].toNat:Int)):=by omega
      have x6:decide ((s[i + k].toNat:Int) < 48)=false:=by rw [decide_eq_false_iff_not]; omega
      have x7:decide ((57:Int) < (s[i + k].toNat:Int))=false:=by rw [decide_eq_false_iff_not]; omega
      have x8:((i:Int) + (k:Int)).toNat=i + k:=by omega
      clear hb2 hbk ed hd
      go_wp2
      go_round
      case rel=>exact ⟨k + 1,v * 10 + d,f * 10,by omega,by omega,hv2,hf2,by omega,by go_num,by go_num,by go_num,by go_num,HI2⟩
      case measure=>simp [intOf]; omega
     ·have hno:Hid ((bytes s).all Zat=false):=ZtJ (by rw [hbl.out]; exact g2) (by rw [hbk]; simpa using hd)
      have HBx:=zh (HB.out.ext hF.out)
      have HEx:=zh (HE.out.trans hF.out)
      obtain ⟨z0,z1,z2,z3⟩:=HBx.out.cell2
      have x1:(i:Int) + (k:Int) < (s.size:Int):=by omega
      have x2:(0:Int)≤(i:Int) + (k:Int):=by omega
      have x8:((i:Int) + (k:Int)).toNat=i + k:=by omega
      have hFin:Hid (∀ tmps:Array Value,tmps[2]? = some (.pointer (some ⟨w.heap.size,0,none⟩))→tmps[3]? = some (.bool false)→bodyPost Tryz.prog Tryz.f60 (ZkE w (bytes s)) .ret ⟨tmps,[]⟩ ((wr.setCell ⟨w.heap.size,0,none⟩ (.bool false)).setCell ⟨w.heap.size,1,none⟩ (.slice none 0 0))):=by
       intro tmps h2 h3
       have hFs:Fr (fun i=>i=w.heap.size) wr ((wr.setCell ⟨w.heap.size,0,none⟩ (.bool false)).setCell ⟨w.heap.size,1,none⟩ (.slice none 0 0)):=((Fr.refl (fun i=>i=w.heap.size) _).setCell (p:=⟨w.heap.size,0,none⟩) (Or.inl rfl) _).setCell (p:=⟨w.heap.size,1,none⟩) (Or.inl rfl) _
       refine ZnA rfl h2 h3 ((HBx.out.set_ 0 _).set_ 1 _) ?_ (by rw [hno.out]; rfl) (HEx.out.next hFs (fun i hi e=>by omega))
       rw [hno.out]; exact Zai.nil _
      by_cases hlo:s[i + k].toNat < 48
      ·have x3:(s[i + k].toNat:Int) < 48:=by omega
       have x6:decide ((s[i + k].toNat:Int) < 48)=true:=by rw [decide_eq_true_eq]; omega
       clear hbk hd hno
       go_wp2
       exact hFin.out _ rfl rfl
      ·have hhi:57 < s[i + k].toNat:=by
        have:Zat s[i + k]=false:=by simpa using hd
        unfold Zat at this
        simp at this
        omega
       have x3:¬ ((s[i + k].toNat:Int) < 48):=by omega
       have x4:(57:Int) < (s[i + k].toNat:Int):=by omega
       have x6:decide ((s[i + k].toNat:Int) < 48)=false:=by rw [decide_eq_false_iff_not]; omega
       have x7:decide ((57:Int) < (s[i + k].toNat:Int))=true:=by rw [decide_eq_true_eq]; omega
       clear hbk hd hno
       go_wp2
       exact hFin.out _ rfl rfl
    ·have hk1:1≤k:=by
      rcases Nat.eq_zero_or_pos k with e | e
      ·subst e; exact absurd ⟨by omega,by omega⟩ hgo
      ·exact e
     have hfW:Hid (f < W32):=by unfold Hid; rw [Zaq]; omega
     have hvW:Hid (v < W32):=by unfold Hid; rw [Zaq]; omega
     have hml1:Hid (ml (Zag ((bytes s).take i))≤1048576):=by
      have h1:=ZgS (Zbl _ hall.out)
      rw [List.length_take,hbl.out] at h1
      unfold Hid; omega
     have hmlf:Hid (ml f≤1048576):=by
      have:=ZaW (n:=f) (k:=1)
      rw [Nat.pow_one] at this
      have:=this.2 hfW.out
      unfold Hid; omega
     have hmlv:Hid (ml v≤1048576):=by
      have:=ZaW (n:=v) (k:=1)
      rw [Nat.pow_one] at this
      have:=this.2 hvW.out
      unfold Hid; omega
     have hdone:=zh hI.out.done
     have hall2:Hid (((bytes s).take (i + k)).all Zat=true):=hI.out.2.2.1
     have hml2:Hid (ml (Zag ((bytes s).take i) * f)≤1048576):=by
      have h1:=ZgS (Zbl _ hall2.out)
      rw [List.length_take,hbl.out] at h1
      have h2:=ZbF (show Zag ((bytes s).take i) * f≤Zag ((bytes s).take (i + k)) by have:=hdone.out; omega)
      unfold Hid; omega
     have hF0:Hid (0 < f):=hf0
     by_cases h9:k < 9
     ·have g2:¬ ((i:Int) + (k:Int) < (s.size:Int)):=by omega
      have gd1:decide ((k:Int) < 9)=true:=by rw [decide_eq_true_eq]; omega
      have gd2:decide ((i:Int) + (k:Int) < (s.size:Int))=false:=by rw [decide_eq_false_iff_not]; omega
      clear hgo hI
      go_wp2_with fail
      generalize hwb:World.alloc wr _=w2
      have hO2:Own .u32 102 w2 wr.heap.size [f]:=hwb ▸ Own.new wr 102 .u32 [f] []
      have hF2:Ext wr w2:=hwb ▸ (Fr.refl _ _).alloc _
      clear hwb
      refine (Zd5 _ _ (Zag ((bytes s).take i)) f _ (hM.out.ext hF2) (Zar.one_pos hO2 hfW.out hF0.out) hml1.out hmlf.out).mono ?_
      rintro e w3 ⟨_,rfl,hN3,hF3⟩
      obtain ⟨A3,l3,c3,rfl⟩:=hN3.slice
      have HN3:=zh hN3
      have HF3:=zh ((hF.out.trans hF2).trans hF3)
      clear hN3 hF3 hF2 hO2
      go_wp2_with fail
      generalize hwb:World.alloc w3 _=w4
      have hO4:Own .u32 102 w4 w3.heap.size [v]:=hwb ▸ Own.new w3 102 .u32 [v] []
      have hF4:Ext w3 w4:=hwb ▸ (Fr.refl _ _).alloc _
      clear hwb
      refine (Zbs _ [v] 1 1 _ rfl hO4.shows0 (by simp) (by simp)).mono ?_
      rintro e w5 ⟨rfl,rfl⟩
      have HV4:=zh (Zar.one hO4 hvW.out)
      have HN4:=zh (HN3.out.ext hF4)
      have HF4:=zh (HF3.out.trans hF4)
      clear hO4 hF4 HN3 HF3
      go_wp2_with fail
      refine (Zfu _ _ _ _ _ HN4.out HV4.out hml2.out hmlv.out).mono ?_
      rintro e w6 ⟨_,rfl,hN6,hF6⟩
      rw [hdone.out] at hN6
      obtain ⟨A6,l6,c6,rfl⟩:=hN6.slice
      have HN6:=zh hN6
      have HF6:=zh (HF4.out.trans hF6)
      clear hN6 hF6
      go_wp2
      go_roundw
      case rel=>exact ⟨i + k,A6,l6,c6,by omega,by go_num,rfl,hall2,HN6,HF6⟩
      case measure=>simp [intOf]; omega
     ·have g2:¬ ((k:Int) < 9):=by omega
      have gd1:decide ((k:Int) < 9)=false:=by rw [decide_eq_false_iff_not]; omega
      clear hgo hI
      go_wp2_with fail
      generalize hwb:World.alloc wr _=w2
      have hO2:Own .u32 102 w2 wr.heap.size [f]:=hwb ▸ Own.new wr 102 .u32 [f] []
      have hF2:Ext wr w2:=hwb ▸ (Fr.refl _ _).alloc _
      clear hwb
      refine (Zd5 _ _ (Zag ((bytes s).take i)) f _ (hM.out.ext hF2) (Zar.one_pos hO2 hfW.out hF0.out) hml1.out hmlf.out).mono ?_
      rintro e w3 ⟨_,rfl,hN3,hF3⟩
      obtain ⟨A3,l3,c3,rfl⟩:=hN3.slice
      have HN3:=zh hN3
      have HF3:=zh ((hF.out.trans hF2).trans hF3)
      clear hN3 hF3 hF2 hO2
      go_wp2_with fail
      generalize hwb:World.alloc w3 _=w4
      have hO4:Own .u32 102 w4 w3.heap.size [v]:=hwb ▸ Own.new w3 102 .u32 [v] []
      have hF4:Ext w3 w4:=hwb ▸ (Fr.refl _ _).alloc _
      clear hwb
      refine (Zbs _ [v] 1 1 _ rfl hO4.shows0 (by simp) (by simp)).mono ?_
      rintro e w5 ⟨rfl,rfl⟩
      have HV4:=zh (Zar.one hO4 hvW.out)
      have HN4:=zh (HN3.out.ext hF4)
      have HF4:=zh (HF3.out.trans hF4)
      clear hO4 hF4 HN3 HF3
      go_wp2_with fail
      refine (Zfu _ _ _ _ _ HN4.out HV4.out hml2.out hmlv.out).mono ?_
      rintro e w6 ⟨_,rfl,hN6,hF6⟩
      rw [hdone.out] at hN6
      obtain ⟨A6,l6,c6,rfl⟩:=hN6.slice
      have HN6:=zh hN6
      have HF6:=zh (HF4.out.trans hF6)
      clear hN6 hF6
      go_wp2
      go_roundw
      case rel=>exact ⟨i + k,A6,l6,c6,by omega,by go_num,rfl,hall2,HN6,HF6⟩
      case measure=>simp [intOf]; omega
  ·obtain rfl:i=s.size:=by omega
   have e1:(bytes s).take s.size=bytes s:=List.take_of_length_le (by rw [hbl.out]; exact Nat.le_refl _)
   have HA:Hid ((bytes s).all Zat=true):=by have:=hall.out; rw [e1] at this; exact this
   have HM:Hid (Zar wr (.slice A ln c) (Zag (bytes s))):=by have:=hM.out; rw [e1] at this; exact this
   have HBx:=zh (HB.out.ext hF.out)
   have HEx:=zh (HE.out.trans hF.out)
   have hbe:=zh (ZnB s)
   clear e1 hall hM
   go_wp2_with fail
   refine (Zc9 false _ _ _ HM.out).mono ?_
   rintro e w2 ⟨_,rfl,hI,hF2⟩
   obtain ⟨s2,A2,l2,c2,rfl⟩:=hI.shp
   have HI:=zh hI
   have HB':=zh (HBx.out.ext hF2)
   have HE':=zh (HEx.out.trans hF2)
   obtain ⟨k0,k1,k2,k3⟩:=HB'.out.cell2
   clear hI hF2
   go_wp2
   have hFs:Fr (fun i=>i=w.heap.size) w2 ((w2.setCell ⟨w.heap.size,0,none⟩ (.bool s2)).setCell ⟨w.heap.size,1,none⟩ (.slice A2 l2 c2)):=((Fr.refl (fun i=>i=w.heap.size) _).setCell (p:=⟨w.heap.size,0,none⟩) (Or.inl rfl) _).setCell (p:=⟨w.heap.size,1,none⟩) (Or.inl rfl) _
   refine ZnA (b := !s.toList.isEmpty) rfl rfl rfl ((HB'.out.set_ 0 _).set_ 1 _) ?_ (by rw [HA.out,hbe.out]; rfl) (HE'.out.next hFs (fun i hi e=>by omega))
   rw [HA.out]
   exact HI.out.oth HB'.out Zbe hFs
end Go.Proofs.YtklpdkpcocnglaaGreatDoor

namespace Go.Proofs.YtklpdkpcocnglaaGreatDoor
open Go.RowKit
end Go.Proofs.YtklpdkpcocnglaaGreatDoor

namespace Go.Proofs.YtklpdkpcocnglaaGreatDoor
open Go.RowKit
def Zav (c:UInt8):Bool:=c != 47
def Zcj (l:List UInt8):Option Rat :=
 if (((Zay l).2.takeWhile Zav).all Zat && !((Zay l).2.takeWhile Zav).isEmpty)=false then none
 else if (Zay l).2.drop ((Zay l).2.takeWhile Zav).length=[] then
  (if ZaB (((sg (Zay l).1 (Zag ((Zay l).2.takeWhile Zav)):Int)):Rat)=l then some (((sg (Zay l).1 (Zag ((Zay l).2.takeWhile Zav)):Int)):Rat) else none)
 else if (((Zay l).2.drop (((Zay l).2.takeWhile Zav).length + 1)).all Zat && !((Zay l).2.drop (((Zay l).2.takeWhile Zav).length + 1)).isEmpty)=false∨Zag ((Zay l).2.drop (((Zay l).2.takeWhile Zav).length + 1))=0 then none
 else (if ZaB (Rat.divInt (sg (Zay l).1 (Zag ((Zay l).2.takeWhile Zav))) (Zag ((Zay l).2.drop (((Zay l).2.takeWhile Zav).length + 1)):Int))=l then some (Rat.divInt (sg (Zay l).1 (Zag ((Zay l).2.takeWhile Zav))) (Zag ((Zay l).2.drop (((Zay l).2.takeWhile Zav).length + 1)):Int)) else none)
theorem Zqp {l:List UInt8} {q:Rat} (h:Zcj l=some q):ZaB q=l:=by
 unfold Zcj at h
 split at h
 ·cases h
 split at h
 ·split at h
  ·rename_i e; injection h with h; rw [← h]; exact e
  ·cases h
 split at h
 ·cases h
 ·split at h
  ·rename_i e; injection h with h; rw [← h]; exact e
  ·cases h
theorem ZeK {l:List UInt8} (h:l.all Zat=true):l.all Zav=true:=by
 rw [List.all_eq_true] at *
 intro x hx
 have:=h x hx
 unfold Zav
 simp
 rintro rfl
 exact absurd this (by decide)
theorem Zqq (q:Rat):Zcj (ZaB q)=some q:=by
 by_cases h:q.den=1
 ·have ht:ZaB q=Lib.itoa q.num ++ []:=by unfold ZaB; rw [if_pos h,List.append_nil]
  have hu:=Zfc q.num []
  rw [← ht,List.append_nil] at hu
  obtain ⟨h1,h2⟩:=Zds (ZeK (ZbJ q.num.natAbs))
  unfold Zcj
  rw [hu]
  simp only []
  rw [h1,ZbJ,Zcq,Zih,ZkD h]
  rw [if_neg (by simp [Zbg]),List.drop_of_length_le (Nat.le_refl _),if_pos rfl,if_pos rfl]
 ·have ht:ZaB q=Lib.itoa q.num ++ 47 :: Lib.decDigits q.den:=by unfold ZaB; rw [if_neg h,ZbY]; simp
  have hu:=Zfc q.num (47 :: Lib.decDigits q.den)
  rw [← ht] at hu
  obtain ⟨h1,h2⟩:=Ze0 (p:=Zav) (r:=Lib.decDigits q.den) (c:=47) (ZeK (ZbJ q.num.natAbs)) (by decide)
  have hd:=q.den_nz
  have hdr:(Lib.decDigits q.num.natAbs ++ 47 :: Lib.decDigits q.den).drop (Lib.decDigits q.num.natAbs).length=47 :: Lib.decDigits q.den:=by simp
  have hdr2:(Lib.decDigits q.num.natAbs ++ 47 :: Lib.decDigits q.den).drop ((Lib.decDigits q.num.natAbs).length + 1)=Lib.decDigits q.den:=by
   rw [← List.drop_drop,hdr]; rfl
  unfold Zcj
  rw [hu]
  simp only []
  rw [h1,hdr,hdr2,ZbJ,ZbJ,Zcq,Zcq,Zih,Rat.num_divInt_den]
  rw [if_neg (by simp [Zbg]),if_neg (by simp),if_neg (by simp [Zbg]; exact hd),if_pos rfl]
theorem Zhn (l:List UInt8):Zcj l=ZaU l:=by
 cases h:Zcj l with
 | some q=>rw [← Zqp h]; exact (ZlV q).symm
 | none =>
   cases k:ZaU l with
   | none=>rfl
   | some q =>
     have:=Zc7 k
     rw [← this,Zqq] at h
     cases h
def ZjI (w:World) (l:List UInt8) (e:Ending) (w':World):Prop :=
 ∃ v ok q,e=.returned (.tuple #[v, .bool ok])∧Ext w w'∧Zaw w' v q∧((ok=true∧ZaU l=some q)∨(ok=false∧ZaU l=none))
theorem ZnC {q:Rat} {s:ByteArray} {b:Bool} (hn:Zcj (bytes s)=if ZaB q=bytes s then some q else none) (hb:b=decide (ZaB q=bytes s)):(b=true∧ZaU (bytes s)=some q)∨(b=false∧ZaU (bytes s)=none):=by
 rw [Zhn] at hn
 by_cases h:ZaB q=bytes s
 ·rw [if_pos h] at hn; left; exact ⟨by rw [hb,decide_eq_true h],hn⟩
 ·rw [if_neg h] at hn; right; exact ⟨by rw [hb,decide_eq_false h],hn⟩
theorem ZkF (t:ByteArray) (a b:Nat):(t.extract a b).size≤t.size:=by
 rw [← Zao,Zbu,List.length_take,List.length_drop,Zao]; omega
theorem ZhD {l:List UInt8} {k:Nat} (h:(l.take k).all Zav=true) (hs:∀ h:k < l.length,Zav l[k]=false) (hk:k≤l.length):k=(l.takeWhile Zav).length:=by
 rw [(Zf0 h hs).1,List.length_take]; omega
theorem ZkG {t:ByteArray} {p:Nat} (hp:p=((bytes t).takeWhile Zav).length):bytes (t.extract 0 p)=(bytes t).takeWhile Zav∧bytes (t.extract (p + 1) t.size)=(bytes t).drop (p + 1):=by
 rw [Zbu,Zbu]
 refine ⟨?_,?_⟩
 ·rw [List.drop_zero,Nat.sub_zero,hp]
  have:=List.takeWhile_prefix Zav (l:=bytes t)
  exact (List.prefix_iff_eq_take.1 this).symm
 ·rw [List.take_of_length_le (by rw [List.length_drop,Zao]; exact Nat.le_refl _)]
theorem Zqr {l t:List UInt8} {neg:Bool} (hu:Zay l=(neg,t)) (hb:(((t.takeWhile Zav)).all Zat && !(t.takeWhile Zav).isEmpty)=false):Zcj l=none:=by
 unfold Zcj; rw [hu]; simp only []; rw [if_pos hb]
theorem ZoE {l t:List UInt8} {neg:Bool} (hu:Zay l=(neg,t)) (hb:(((t.takeWhile Zav)).all Zat && !(t.takeWhile Zav).isEmpty)=true) (hd:t.length≤(t.takeWhile Zav).length) :
 Zcj l=if ZaB ((sg neg (Zag (t.takeWhile Zav)):Int):Rat)=l then some ((sg neg (Zag (t.takeWhile Zav)):Int):Rat) else none:=by
 unfold Zcj; rw [hu]; simp only []; rw [if_neg (by rw [hb]; simp),if_pos (List.drop_of_length_le hd)]
theorem ZkH {l t:List UInt8} {neg:Bool} (hu:Zay l=(neg,t)) (hb:(((t.takeWhile Zav)).all Zat && !(t.takeWhile Zav).isEmpty)=true) (hd:(t.takeWhile Zav).length < t.length)
 (h2:((t.drop ((t.takeWhile Zav).length + 1)).all Zat && !(t.drop ((t.takeWhile Zav).length + 1)).isEmpty)=false∨Zag (t.drop ((t.takeWhile Zav).length + 1))=0):Zcj l=none:=by
 unfold Zcj; rw [hu]; simp only []; rw [if_neg (by rw [hb]; simp),if_neg (fun e=>by have:=congrArg List.length e; simp at this; omega),if_pos h2]
theorem Zqs {l t:List UInt8} {neg:Bool} (hu:Zay l=(neg,t)) (hb:(((t.takeWhile Zav)).all Zat && !(t.takeWhile Zav).isEmpty)=true) (hd:(t.takeWhile Zav).length < t.length)
 (h2:((t.drop ((t.takeWhile Zav).length + 1)).all Zat && !(t.drop ((t.takeWhile Zav).length + 1)).isEmpty)=true) (h3:Zag (t.drop ((t.takeWhile Zav).length + 1))≠0) :
 Zcj l=if ZaB (Rat.divInt (sg neg (Zag (t.takeWhile Zav))) (Zag (t.drop ((t.takeWhile Zav).length + 1)):Int))=l then some (Rat.divInt (sg neg (Zag (t.takeWhile Zav))) (Zag (t.drop ((t.takeWhile Zav).length + 1)):Int)) else none:=by
 unfold Zcj; rw [hu]; simp only []; rw [if_neg (by rw [hb]; simp),if_neg (fun e=>by have:=congrArg List.length e; simp at this; omega),if_neg (fun e=>e.elim (fun e=>by rw [h2] at e; cases e) h3)]
theorem Zlf {x:List UInt8} {s:ByteArray}:((⟨x.toArray⟩:ByteArray).toList == s.toList)=decide (x=bytes s):=by
 rw [Lib.toList_data,Lib.toList_data]
 by_cases h:x=bytes s
 ·rw [decide_eq_true h]; simp [h]
 ·rw [decide_eq_false h]; simpa using h
theorem Zl1 {t:ByteArray} (h:(bytes t).all Zat=true) (hs:t.size≤65536):ml (Zag (bytes t))≤65536:=by
 have:=ZgS (Zbl _ h)
 rw [Zao] at this
 omega
theorem Zqt {neg:Bool} {n:Nat}:(sg neg n).natAbs=n:=by cases neg<;>simp [sg]
theorem Zpl {x y:Int} (hy:y≠0):ml (Rat.divInt x y).num.natAbs≤ml x.natAbs∧ml (Rat.divInt x y).den≤ml y.natAbs:=by
 constructor
 ·refine ZbF ?_
  rw [Rat.num_divInt,Int.natAbs_ediv_of_dvd]
  ·refine Nat.le_trans (Nat.div_le_self _ _) ?_
   rw [Int.natAbs_mul]
   rcases Int.lt_or_gt_of_ne hy with h | h
   ·rw [Int.sign_eq_neg_one_of_neg h]; simp
   ·rw [Int.sign_eq_one_of_pos h]; simp
  ·exact Int.dvd_mul_of_dvd_right (Int.gcd_dvd_right _ _)
 ·refine ZbF ?_
  rw [Rat.den_divInt,if_neg hy]
  exact Nat.div_le_self _ _
theorem ZnD {s:ByteArray} (h:¬ bytes s=[]):∃ c,(bytes s).head? = some c∧s[0]? = some c:=by
 obtain ⟨h1,_⟩:=ZeV h
 exact ⟨s[0],Zfk h1,by simp [h1]⟩
theorem ZjJ {s:ByteArray} (h:¬ bytes s=[]):1≤s.size:=(ZeV h).1
theorem ZnE {s:ByteArray} {c:UInt8} (h:(bytes s).head? = some c) (hc:c=45):Zay (bytes s)=(true,bytes (s.extract 1 s.size)):=by
 unfold Zay
 rw [h,hc,if_pos rfl,Zbu,List.take_of_length_le (by rw [List.length_drop,Zao]; exact Nat.le_refl _),List.drop_one]
theorem ZoF {s:ByteArray} {c:UInt8} (h:(bytes s).head? = some c) (hc:¬ c=45):Zay (bytes s)=(false,bytes s):=by
 unfold Zay
 rw [h,if_neg (by simpa using hc)]
theorem Zs1 {c b:UInt8} (h:c=b):((c.toNat:Int) == (b.toNat:Int))=true:=by subst h; simp
theorem Zs2 {c b:UInt8} (h:¬ c=b):((c.toNat:Int) == (b.toNat:Int))=false:=by
 have:c.toNat≠b.toNat:=fun e=>h (UInt8.toNat_inj.1 e)
 simp; omega
theorem Zuw {a b:Nat} (h:a < b):decide (((a:Nat):Int) < ((b:Nat):Int))=true:=decide_eq_true (by omega)
theorem ZtK {a b:Nat} (h:¬ a < b):decide (((a:Nat):Int) < ((b:Nat):Int))=false:=decide_eq_false (by omega)
theorem Zil {a:Nat} (h:a≤1000000):IntKind.i64.wrap (((a:Nat):Int) + 1)=((a + 1:Nat):Int):=by rw [IntKind.wrap_i64]; omega
theorem ZsG {n:Nat} (h:n=0):(((n:Int).sign:Int) == 0)=true:=by subst h; rfl
theorem ZrH {n:Nat} (h:¬ n=0):(((n:Int).sign:Int) == 0)=false:=by
 rw [beq_eq_false_iff_ne]; exact fun e=>h (by have:=Int.sign_eq_zero_iff_zero.1 e; omega)
theorem Zpm {w w':World} {e:Ending} {l:List UInt8} (h:ZkE w l e w') (hd:l.all Zat=true) (hne:l≠[]):Zbx (fun x:ShI=>.tuple #[ZaE x, .bool true]) (fun x w=>Zai w (ZaE x) (Zag l:Int)) w e w':=by
 obtain ⟨v,b,rfl,rfl,hI,Q⟩:=h
 rw [if_pos hd] at hI
 obtain ⟨s,A,l',c,rfl⟩:=hI.shp
 refine ⟨(s,A,l',c),?_,Q,boxn Q (fun S w'' hS hF=>hI.nrb hS hF)⟩
 rw [hd,show l.isEmpty=false by simpa using hne]; rfl
theorem Zfy {P:Program} {o:Oper} {ρ:Operand→Value} {w:World} {t:TypeId} {x i:Operand} {b:ByteArray} {k:Nat} {c:UInt8} (ho:o.op=Op.index t x i) (ht:P.underlying t=some .string) (hx:ρ x=.string b) (hi:ρ i=.int .i64 (k:Int)) (hc:b[k]? = some c):(execOp ρ o).run P w=.ok (.value (.int .u8 (c.toNat:Int))) w:=by
 simp [execOp,ho,Instr.index,asIntOf,underlying,ht,hx,hi,hc,Result.andThen]
theorem ZnF {w w':World} {e:Ending} {l:List UInt8} (h:ZkE w l e w') (hb:¬ (l.all Zat && !l.isEmpty)=true):Zbx (fun x:ShI=>.tuple #[ZaE x, .bool false]) (fun _ _=>True) w e w':=by
 obtain ⟨v,b,rfl,rfl,hI,Q⟩:=h
 obtain ⟨s,A,l',c,rfl⟩:=hI.shp
 exact ⟨(s,A,l',c),by rw [Bool.eq_false_iff.2 hb]; rfl,Q,BoxN.pure trivial⟩
theorem Zl2 {l:List UInt8} (h:(l.all Zat && !l.isEmpty)=true):l.all Zat=true∧l≠[]:=by
 rw [Bool.and_eq_true] at h
 exact ⟨h.1,fun e=>by rw [e] at h; simp at h⟩
theorem Zaw.whole {w:World} {s:Bool} {A:Option Addr} {l c:Nat} {z:Int} (h:Zai w (.agg #[.bool s, .slice A l c]) z):Zaw w (.agg #[.bool s, .slice A l c, .bool false, .slice none 0 0]) ((z:Int):Rat) :=
 Zaw.of h (by rw [Zcy (by rfl)]; exact Zai.nil _)
theorem ZrI {z:Int} (h:ml z.natAbs≤65536):ZaM z:=nfit h (by decide)
theorem Zqu {n:Nat} (h:¬ n=0):((n:Nat):Int)≠0:=by omega
theorem ZtL:ml (1:Nat)≤65536:=Nat.le_trans (ZaW.2 (by rw [Zaq]; decide):ml 1≤1) (by decide)
theorem ZtM {t:ByteArray} {i:Nat} {c:UInt8} (hI:((bytes t).take i).all Zav=true) (hc:t[i]? = some c) (h:¬ c=47):((bytes t).take (i + 1)).all Zav=true:=by
 have hi:i < t.size:=by
  rcases Nat.lt_or_ge i t.size with h' | h'
  ·exact h'
  ·rw [getElem?_neg t i (by omega)] at hc; cases hc
 have hc':t[i]=c:=by
  rw [getElem?_pos t i hi] at hc; exact Option.some.inj hc
 rw [Zfj t i hi,List.all_append,hI,hc']
 simp [Zav,h]
theorem Zux {t:ByteArray} {i:Nat} {c:UInt8} (hI:((bytes t).take i).all Zav=true) (hc:t[i]? = some c) (h:c=47) (hi:i≤t.size):i=((bytes t).takeWhile Zav).length:=by
 refine ZhD hI (fun hlt=>?_) (by rw [Zao]; exact hi)
 have hi':i < t.size:=by rw [← Zao]; exact hlt
 rw [getElem?_pos t i hi'] at hc
 have:(bytes t)[i]=47:=(Option.some.inj hc).trans h
 rw [this]; rfl
theorem Zuy {t:ByteArray} (hI:((bytes t).take t.size).all Zav=true):t.size=((bytes t).takeWhile Zav).length :=
 ZhD hI (fun h=>by rw [Zao] at h; omega) (by rw [Zao]; exact Nat.le_refl _)
theorem Zey (s:ByteArray) (w:World) (hs:s.size≤65536) :
 Calls Tryz.prog 18 #[.string s] w (ZjI w (bytes s)):=by
 refine Zaz (Φ:=fun w=>True) Tryz.func18 rfl (by kernel_rfl) (fun w' hf=>trivial) ?_
 refine Zac (Zab (xr 2 [(0, .v (.string s)),(2, .p 2 0),(3, .v (.bool false))] [bR4 2 34 false none 0 0 false none 0 0] ?_))
 refine xe (Zaa (Zac (Zab (xr 2 [(0, .v (.string s)),(2, .p 2 0),(3, .v (.bool false)),(4, .v (.string s))] [bR4 2 34 false none 0 0 false none 0 0] ?_))))
 refine xe (Zaa ?_)
 refine Zh2 (fun ss ff=>∃ (b:Bool),ss=ofL [(0, .v (.string s)),(2, .p 2 0),(3, .v (.bool false)),(4, .v (.string s)),(5, .v (.bool b))] [(2,34,[.v (.bool false), .v (.slice none 0 0), .v (.bool false), .v (.slice none 0 0)])]∧ff=(fun w=>True)∧((b=true→Zay (bytes s)=(true,bytes (s.extract 1 s.size))∧1≤s.size)∧(b=false→Zay (bytes s)=(false,bytes s)))) ?_ ?_
 ·by_cases he:bytes s=[]
  ·have hs0:s.size=0:=by rw [← Zao,he]; rfl
   refine Zab (xr 3 [(0, .v (.string s)),(2, .p 2 0),(3, .v (.bool false)),(4, .v (.string s)),(16, .v (.bool (decide (((s).size:Int) > 0))))] [bR4 2 34 false none 0 0 false none 0 0] ?_)
   rw [(show decide (((s).size:Int) > 0)=false from decide_eq_false (by omega))]
   refine xr 6 [(0, .v (.string s)),(2, .p 2 0),(3, .v (.bool false)),(4, .v (.string s)),(5, .v (.bool false))] [bR4 2 34 false none 0 0 false none 0 0] ?_
   refine xe ?_
   refine SXq.weak [(0, .v (.string s)),(2, .p 2 0),(3, .v (.bool false)),(4, .v (.string s)),(5, .v (.bool false))] [(2,34,[.v (.bool false), .v (.slice none 0 0), .v (.bool false), .v (.slice none 0 0)])] (Ψ:=fun w=>True) (ZaG.of (by kernel_rfl)) (by kernel_rfl) (fun w Q=>trivial) ?_
   exact Zcp ⟨false,rfl,rfl,⟨fun h=>(by cases h),fun _=>(by unfold Zay; rw [he]; rfl)⟩⟩
  ·obtain ⟨c0,h0,hc0⟩:=ZnD he
   have hs0:=ZjJ he
   by_cases hm:c0=45
   ·refine Zab (xr 3 [(0, .v (.string s)),(2, .p 2 0),(3, .v (.bool false)),(4, .v (.string s)),(16, .v (.bool (decide (((s).size:Int) > 0))))] [bR4 2 34 false none 0 0 false none 0 0] ?_)
    rw [(show decide (((s).size:Int) > 0)=true from decide_eq_true (by omega))]
    refine xr 2 [(0, .v (.string s)),(2, .p 2 0),(3, .v (.bool false)),(4, .v (.string s)),(17, .v (.bool true)),(18, .v (.string s))] [bR4 2 34 false none 0 0 false none 0 0] ?_
    refine ZcO 19 (.int .u8 (c0.toNat:Int)) (by kernel_rfl) (by kernel_rfl) (by kernel_rfl) (by kernel_rfl) (by kernel_rfl) (by kernel_rfl) (fun w R Q=>Zfy (t:=9) (x:=.tmp 18) (k:=0) (i:=.const (.int .i64 0)) (by kernel_rfl) (by kernel_rfl) (by kernel_rfl) (by rfl) hc0) ?_
    refine xr 1 [(0, .v (.string s)),(2, .p 2 0),(3, .v (.bool false)),(4, .v (.string s)),(17, .v (.bool true)),(20, .v (.bool (((c0.toNat:Int):Int) == 45)))] [bR4 2 34 false none 0 0 false none 0 0] ?_
    rw [(show ((c0.toNat:Int) == 45)=true from Zs1 hm)]
    refine xr 2 [(0, .v (.string s)),(2, .p 2 0),(3, .v (.bool false)),(4, .v (.string s)),(5, .v (.bool true))] [bR4 2 34 false none 0 0 false none 0 0] ?_
    refine xe ?_
    refine SXq.weak [(0, .v (.string s)),(2, .p 2 0),(3, .v (.bool false)),(4, .v (.string s)),(5, .v (.bool true))] [(2,34,[.v (.bool false), .v (.slice none 0 0), .v (.bool false), .v (.slice none 0 0)])] (Ψ:=fun w=>True) (ZaG.of (by kernel_rfl)) (by kernel_rfl) (fun w Q=>trivial) ?_
    exact Zcp ⟨true,rfl,rfl,⟨fun _=>⟨ZnE h0 hm,ZjJ he⟩,fun h=>(by cases h)⟩⟩
   ·refine Zab (xr 3 [(0, .v (.string s)),(2, .p 2 0),(3, .v (.bool false)),(4, .v (.string s)),(16, .v (.bool (decide (((s).size:Int) > 0))))] [bR4 2 34 false none 0 0 false none 0 0] ?_)
    rw [(show decide (((s).size:Int) > 0)=true from decide_eq_true (by omega))]
    refine xr 2 [(0, .v (.string s)),(2, .p 2 0),(3, .v (.bool false)),(4, .v (.string s)),(17, .v (.bool true)),(18, .v (.string s))] [bR4 2 34 false none 0 0 false none 0 0] ?_
    refine ZcO 19 (.int .u8 (c0.toNat:Int)) (by kernel_rfl) (by kernel_rfl) (by kernel_rfl) (by kernel_rfl) (by kernel_rfl) (by kernel_rfl) (fun w R Q=>Zfy (t:=9) (x:=.tmp 18) (k:=0) (i:=.const (.int .i64 0)) (by kernel_rfl) (by kernel_rfl) (by kernel_rfl) (by rfl) hc0) ?_
    refine xr 1 [(0, .v (.string s)),(2, .p 2 0),(3, .v (.bool false)),(4, .v (.string s)),(17, .v (.bool true)),(20, .v (.bool (((c0.toNat:Int):Int) == 45)))] [bR4 2 34 false none 0 0 false none 0 0] ?_
    rw [(show ((c0.toNat:Int) == 45)=false from Zs2 (b:=45) hm)]
    refine xr 2 [(0, .v (.string s)),(2, .p 2 0),(3, .v (.bool false)),(4, .v (.string s)),(5, .v (.bool false))] [bR4 2 34 false none 0 0 false none 0 0] ?_
    refine xe ?_
    refine SXq.weak [(0, .v (.string s)),(2, .p 2 0),(3, .v (.bool false)),(4, .v (.string s)),(5, .v (.bool false))] [(2,34,[.v (.bool false), .v (.slice none 0 0), .v (.bool false), .v (.slice none 0 0)])] (Ψ:=fun w=>True) (ZaG.of (by kernel_rfl)) (by kernel_rfl) (fun w Q=>trivial) ?_
    exact Zcp ⟨false,rfl,rfl,⟨fun h=>(by cases h),fun _=>ZoF h0 hm⟩⟩
 ·rintro ss ff ⟨b,rfl,rfl,HB⟩
  refine Zh2 (fun ss ff=>∃ (t:ByteArray) (ng:Bool),ss=ofL [(0, .v (.string s)),(2, .p 2 0),(3, .v (.bool false)),(4, .v (.string t)),(5, .v (.bool ng))] [(2,34,[.v (.bool false), .v (.slice none 0 0), .v (.bool false), .v (.slice none 0 0)])]∧ff=(fun w=>True)∧(Zay (bytes s)=(ng,bytes t))∧(t.size≤65536)) ?_ ?_
  ·refine Zac (Zab (xr 1 [(0, .v (.string s)),(2, .p 2 0),(3, .v (.bool false)),(4, .v (.string s)),(5, .v (.bool b)),(22, .v (.bool b))] [bR4 2 34 false none 0 0 false none 0 0] ?_))
   refine xe (Zaa ?_)
   refine ZaA (b) (by kernel_rfl) (fun hb10=>?_) (fun hb10=>?_)
   ·have hbb:=hb10
    obtain ⟨HM0,hsz⟩:=HB.1 hbb
    obtain ⟨t,ht⟩:∃ t,s.extract 1 s.size=t:=⟨_,rfl⟩
    rw [ht] at HM0
    have lt:t.size≤65536:=by rw [← ht,ByteArray.size_extract]; omega
    refine Zab (xr 1 [(0, .v (.string s)),(2, .p 2 0),(3, .v (.bool false)),(4, .v (.string s)),(5, .v (.bool b)),(23, .v (.string s))] [bR4 2 34 false none 0 0 false none 0 0] ?_)
    refine ZcO 24 (.string t) (by kernel_rfl) (by kernel_rfl) (by kernel_rfl) (by kernel_rfl) (by kernel_rfl) (by kernel_rfl) (fun w R Q=>ZcK 1 _ (t:=9) (x:=(Operand.tmp 23)) (lo:=(some (Operand.const (Value.int IntKind.i64 1)))) (hi:=none) (by kernel_rfl) (by kernel_rfl) (by kernel_rfl) (Or.inr rfl) (Or.inl ⟨rfl,rfl⟩) hsz (Nat.le_refl _) ht) ?_
    refine xr 1 [(0, .v (.string s)),(2, .p 2 0),(3, .v (.bool false)),(4, .v (.string t)),(5, .v (.bool b))] [bR4 2 34 false none 0 0 false none 0 0] ?_
    refine xe ?_
    refine SXq.weak [(0, .v (.string s)),(2, .p 2 0),(3, .v (.bool false)),(4, .v (.string t)),(5, .v (.bool b))] [(2,34,[.v (.bool false), .v (.slice none 0 0), .v (.bool false), .v (.slice none 0 0)])] (Ψ:=fun w=>True) (ZaG.of (by kernel_rfl)) (by kernel_rfl) (fun w Q=>trivial) ?_
    exact Zcp ⟨t,b,rfl,rfl,(by rw [hbb]; exact HM0),lt⟩
   ·have hbb:=hb10
    refine Zap ?_
    refine SXq.weak [(0, .v (.string s)),(2, .p 2 0),(3, .v (.bool false)),(4, .v (.string s)),(5, .v (.bool b))] [(2,34,[.v (.bool false), .v (.slice none 0 0), .v (.bool false), .v (.slice none 0 0)])] (Ψ:=fun w=>True) (ZaG.of (by kernel_rfl)) (by kernel_rfl) (fun w Q=>trivial) ?_
    exact Zcp ⟨s,b,rfl,rfl,(by rw [hbb]; exact HB.2 hbb),hs⟩
  ·rintro ss ff ⟨t,ng,rfl,rfl,HM,lt⟩
   refine Zac (Zab (xr 3 [(0, .v (.string s)),(2, .p 2 0),(3, .v (.bool false)),(4, .v (.string t)),(5, .v (.bool ng)),(6, .v (.int .i64 ((t).size:Int)))] [bR4 2 34 false none 0 0 false none 0 0] ?_))
   refine xe (Zaa ?_)
   refine Zh2 (fun ss ff=>∃ (p:Nat),ss=ofL [(0, .v (.string s)),(2, .p 2 0),(3, .v (.bool false)),(4, .v (.string t)),(5, .v (.bool ng)),(6, .v (.int .i64 ((p:Nat):Int)))] [(2,34,[.v (.bool false), .v (.slice none 0 0), .v (.bool false), .v (.slice none 0 0)])]∧ff=(fun w=>True)∧(p=((bytes t).takeWhile Zav).length)∧(p≤t.size)) ?_ ?_
   ·refine Zac (Zab (xr 1 [(0, .v (.string s)),(2, .p 2 0),(3, .v (.bool false)),(4, .v (.string t)),(5, .v (.bool ng)),(6, .v (.int .i64 ((t).size:Int))),(7, .v (.int .i64 0))] [bR4 2 34 false none 0 0 false none 0 0] ?_))
    refine xe (Zaa (ZaO ?_))
    refine SXc.weak [(0, .v (.string s)),(2, .p 2 0),(3, .v (.bool false)),(4, .v (.string t)),(5, .v (.bool ng)),(6, .v (.int .i64 ((t).size:Int))),(7, .v (.int .i64 ((0:Nat):Int)))] [(2,34,[.v (.bool false), .v (.slice none 0 0), .v (.bool false), .v (.slice none 0 0)])] (Ψ:=fun w=>True) (ZaG.of (by kernel_rfl)) (by kernel_rfl) (fun w Q=>trivial) ?_
    refine ZbR (fun nn ss ff=>∃ (i:Nat),ss=ofL [(0, .v (.string s)),(2, .p 2 0),(3, .v (.bool false)),(4, .v (.string t)),(5, .v (.bool ng)),(6, .v (.int .i64 ((t).size:Int))),(7, .v (.int .i64 ((i:Nat):Int)))] [(2,34,[.v (.bool false), .v (.slice none 0 0), .v (.bool false), .v (.slice none 0 0)])]∧ff=(fun w=>True)∧(i≤t.size)∧(((bytes t).take i).all Zav=true)∧nn=t.size - i) (t.size - 0) ⟨0,rfl,rfl,(Nat.zero_le _),rfl,rfl⟩ ?_
    rintro nn ss ff ⟨i,rfl,rfl,hi,hI,rfl⟩
    refine Zac (Zac (Zab (xr 4 [(0, .v (.string s)),(2, .p 2 0),(3, .v (.bool false)),(4, .v (.string t)),(5, .v (.bool ng)),(6, .v (.int .i64 ((t).size:Int))),(7, .v (.int .i64 ((i:Nat):Int))),(30, .v (.bool (decide (((i:Nat):Int) < ((t).size:Int)))))] [bR4 2 34 false none 0 0 false none 0 0] ?_)))
    refine xe (Zaa ?_)
    refine ZaA ((decide (((i:Nat):Int) < ((t).size:Int)))) (by kernel_rfl) (fun hb11=>?_) (fun hb11=>?_)
    ·have hlt:i < t.size:=by have:=of_decide_eq_true hb11; omega
     obtain ⟨c,hc⟩:∃ c,t[i]? = some c:=⟨t[i],by simp [hlt]⟩
     refine Zap (Zaa (Zac (ZaO (Zac ?_))))
     by_cases h47:c=47
     ·refine Zab (xr 2 [(0, .v (.string s)),(2, .p 2 0),(3, .v (.bool false)),(4, .v (.string t)),(5, .v (.bool ng)),(6, .v (.int .i64 ((t).size:Int))),(7, .v (.int .i64 ((i:Nat):Int))),(33, .v (.string t)),(34, .v (.int .i64 ((i:Nat):Int)))] [bR4 2 34 false none 0 0 false none 0 0] ?_)
      refine ZcO 35 (.int .u8 (c.toNat:Int)) (by kernel_rfl) (by kernel_rfl) (by kernel_rfl) (by kernel_rfl) (by kernel_rfl) (by kernel_rfl) (fun w R Q=>Zfy (t:=9) (x:=.tmp 33) (k:=i) (i:=.tmp 34) (by kernel_rfl) (by kernel_rfl) (by kernel_rfl) (by kernel_rfl) hc) ?_
      refine xr 1 [(0, .v (.string s)),(2, .p 2 0),(3, .v (.bool false)),(4, .v (.string t)),(5, .v (.bool ng)),(6, .v (.int .i64 ((t).size:Int))),(7, .v (.int .i64 ((i:Nat):Int))),(36, .v (.bool (((c.toNat:Int):Int) == 47)))] [bR4 2 34 false none 0 0 false none 0 0] ?_
      rw [(show ((c.toNat:Int) == 47)=true from Zs1 h47)]
      refine xr 0 [(0, .v (.string s)),(2, .p 2 0),(3, .v (.bool false)),(4, .v (.string t)),(5, .v (.bool ng)),(6, .v (.int .i64 ((t).size:Int))),(7, .v (.int .i64 ((i:Nat):Int))),(36, .v (.bool true))] [bR4 2 34 false none 0 0 false none 0 0] ?_
      refine xe (Zaa (xa (Zac (Zab (xr 2 [(0, .v (.string s)),(2, .p 2 0),(3, .v (.bool false)),(4, .v (.string t)),(5, .v (.bool ng)),(6, .v (.int .i64 ((i:Nat):Int))),(7, .v (.int .i64 ((i:Nat):Int)))] [bR4 2 34 false none 0 0 false none 0 0] ?_)))))
      refine xe (Zaa (Zbp ?_))
      refine ZgK (by kernel_rfl) ?_
      refine Zax (Zax (ZbA ?_))
      refine SXq.weak [(0, .v (.string s)),(2, .p 2 0),(3, .v (.bool false)),(4, .v (.string t)),(5, .v (.bool ng)),(6, .v (.int .i64 ((i:Nat):Int)))] [(2,34,[.v (.bool false), .v (.slice none 0 0), .v (.bool false), .v (.slice none 0 0)])] (Ψ:=fun w=>True) (ZaG.of (by kernel_rfl)) (by kernel_rfl) (fun w Q=>trivial) ?_
      exact Zcp ⟨i,rfl,rfl,Zux hI hc h47 hi,hi⟩
     ·refine Zab (xr 2 [(0, .v (.string s)),(2, .p 2 0),(3, .v (.bool false)),(4, .v (.string t)),(5, .v (.bool ng)),(6, .v (.int .i64 ((t).size:Int))),(7, .v (.int .i64 ((i:Nat):Int))),(33, .v (.string t)),(34, .v (.int .i64 ((i:Nat):Int)))] [bR4 2 34 false none 0 0 false none 0 0] ?_)
      refine ZcO 35 (.int .u8 (c.toNat:Int)) (by kernel_rfl) (by kernel_rfl) (by kernel_rfl) (by kernel_rfl) (by kernel_rfl) (by kernel_rfl) (fun w R Q=>Zfy (t:=9) (x:=.tmp 33) (k:=i) (i:=.tmp 34) (by kernel_rfl) (by kernel_rfl) (by kernel_rfl) (by kernel_rfl) hc) ?_
      refine xr 1 [(0, .v (.string s)),(2, .p 2 0),(3, .v (.bool false)),(4, .v (.string t)),(5, .v (.bool ng)),(6, .v (.int .i64 ((t).size:Int))),(7, .v (.int .i64 ((i:Nat):Int))),(36, .v (.bool (((c.toNat:Int):Int) == 47)))] [bR4 2 34 false none 0 0 false none 0 0] ?_
      rw [(show ((c.toNat:Int) == 47)=false from Zs2 (b:=47) h47)]
      refine xr 0 [(0, .v (.string s)),(2, .p 2 0),(3, .v (.bool false)),(4, .v (.string t)),(5, .v (.bool ng)),(6, .v (.int .i64 ((t).size:Int))),(7, .v (.int .i64 ((i:Nat):Int))),(36, .v (.bool false))] [bR4 2 34 false none 0 0 false none 0 0] ?_
      refine xe (Zaa (xb (Zap (ZbK (Zaa (Zab (xr 2 [(0, .v (.string s)),(2, .p 2 0),(3, .v (.bool false)),(4, .v (.string t)),(5, .v (.bool ng)),(6, .v (.int .i64 ((t).size:Int))),(7, .v (.int .i64 ((i:Nat):Int))),(32, .v (.int .i64 (IntKind.i64.wrap (((i:Nat):Int) + 1))))] [bR4 2 34 false none 0 0 false none 0 0] ?_)))))))
      rw [Zil (a:=i) (by omega)]
      refine xr 1 [(0, .v (.string s)),(2, .p 2 0),(3, .v (.bool false)),(4, .v (.string t)),(5, .v (.bool ng)),(6, .v (.int .i64 ((t).size:Int))),(7, .v (.int .i64 ((i + 1:Nat):Int)))] [bR4 2 34 false none 0 0 false none 0 0] ?_
      refine xe ?_
      refine SXq.weak [(0, .v (.string s)),(2, .p 2 0),(3, .v (.bool false)),(4, .v (.string t)),(5, .v (.bool ng)),(6, .v (.int .i64 ((t).size:Int))),(7, .v (.int .i64 (((i + 1):Nat):Int)))] [(2,34,[.v (.bool false), .v (.slice none 0 0), .v (.bool false), .v (.slice none 0 0)])] (Ψ:=fun w=>True) (ZaG.of (by kernel_rfl)) (by kernel_rfl) (fun w Q=>trivial) ?_
      exact Zbc (t.size - (i + 1)) (by omega) ⟨(i + 1),rfl,rfl,hlt,ZtM hI hc h47,rfl⟩
    ·have hie:i=t.size:=by have:=of_decide_eq_false hb11; omega
     refine Zbp (Zax (Zax (ZbA ?_)))
     refine SXq.weak [(0, .v (.string s)),(2, .p 2 0),(3, .v (.bool false)),(4, .v (.string t)),(5, .v (.bool ng)),(6, .v (.int .i64 ((t.size:Nat):Int)))] [(2,34,[.v (.bool false), .v (.slice none 0 0), .v (.bool false), .v (.slice none 0 0)])] (Ψ:=fun w=>True) (ZaG.of (by kernel_rfl)) (by kernel_rfl) (fun w Q=>trivial) ?_
     exact Zcp ⟨t.size,rfl,rfl,Zuy (hie ▸ hI),(Nat.le_refl _)⟩
   ·rintro ss ff ⟨p,rfl,rfl,hp,hpt⟩
    refine Zac ?_
    obtain ⟨x,hx⟩:∃ x,t.extract 0 p=x:=⟨_,rfl⟩
    have HX:bytes x=(bytes t).takeWhile Zav:=by rw [← hx]; exact (ZkG hp).1
    have lx:x.size≤65536:=Nat.le_trans (by rw [← hx]; exact ZkF _ _ _) lt
    by_cases hA:((bytes x).all Zat && !(bytes x).isEmpty)=true
    ·obtain ⟨dx,nx⟩:=Zl2 hA
     have MX:ml ((Zag (bytes x):Nat):Int).natAbs≤65536:=by rw [Int.natAbs_natCast]; exact Zl1 dx lx
     refine Zab (xr 2 [(0, .v (.string s)),(2, .p 2 0),(3, .v (.bool false)),(4, .v (.string t)),(5, .v (.bool ng)),(6, .v (.int .i64 ((p:Nat):Int))),(39, .v (.string t)),(40, .v (.int .i64 ((p:Nat):Int)))] [bR4 2 34 false none 0 0 false none 0 0] ?_)
     refine ZcO 41 (.string x) (by kernel_rfl) (by kernel_rfl) (by kernel_rfl) (by kernel_rfl) (by kernel_rfl) (by kernel_rfl) (fun w R Q=>ZcK 0 p (t:=9) (x:=(Operand.tmp 39)) (lo:=none) (hi:=(some (Operand.tmp 40))) (by kernel_rfl) (by kernel_rfl) (by kernel_rfl) (Or.inl ⟨rfl,rfl⟩) (Or.inr (by kernel_rfl)) (by omega) hpt hx) ?_
     refine xr 0 [(0, .v (.string s)),(2, .p 2 0),(3, .v (.bool false)),(4, .v (.string t)),(5, .v (.bool ng)),(6, .v (.int .i64 ((p:Nat):Int))),(41, .v (.string x))] [bR4 2 34 false none 0 0 false none 0 0] ?_
     refine xc 60 [.string x] 42 (fun x:ShI=>.tuple #[ZaE x, .bool true]) _ (fun w R Q=>(ZdG x _ (by omega)).mono (fun _ _ h=>Zpm h dx nx)) (fun xx=>?_)
     obtain ⟨s12,A12,l12,c12⟩:=xx
     refine xr 6 [(0, .v (.string s)),(2, .p 2 0),(3, .v (.bool false)),(4, .v (.string t)),(5, .v (.bool ng)),(6, .v (.int .i64 ((p:Nat):Int))),(8, .p 8 0),(9, .v (.bool true))] [bI2 8 32 s12 A12 l12 c12,bR4 2 34 false none 0 0 false none 0 0] ?_
     refine xe (Zaa (Zac (Zac (Zab (xr 2 [(0, .v (.string s)),(2, .p 2 0),(3, .v (.bool false)),(4, .v (.string t)),(5, .v (.bool ng)),(6, .v (.int .i64 ((p:Nat):Int))),(8, .p 8 0),(46, .v (.bool false))] [bI2 8 32 s12 A12 l12 c12,bR4 2 34 false none 0 0 false none 0 0] ?_)))))
     refine xe (Zaa (xb (Zap (Zaa (Zac (Zab (xr 3 [(0, .v (.string s)),(2, .p 2 0),(3, .v (.bool false)),(4, .v (.string t)),(6, .v (.int .i64 ((p:Nat):Int))),(48, .v (.bool ng)),eS1 50 A12 l12 c12] [bR4 2 34 false none 0 0 false none 0 0] ?_)))))))
     refine xc 61 [.bool ng, .slice A12 l12 c12] 51 ZaE _ (fun w R Q=>(Zc9 _ _ _ _ Q.2.mag).mono (fun _ _ h=>ZaH (by rw [show sg ng ((Zag (bytes x):Int)).natAbs=sg ng (Zag (bytes x)) from by rw [Int.natAbs_natCast]] at h; exact h))) (fun xx=>?_)
     obtain ⟨s13,A13,l13,c13⟩:=xx
     refine xr 3 [(0, .v (.string s)),(2, .p 2 0),(3, .v (.bool false)),(4, .v (.string t)),(6, .v (.int .i64 ((p:Nat):Int))),(10, .p 10 0)] [bR4 10 34 s13 A13 l13 c13 false none 0 0,bR4 2 34 false none 0 0 false none 0 0] ?_
     refine xe (Zaa (Zac (Zac ?_)))
     by_cases hl:p < t.size
     ·obtain ⟨q,hq⟩:∃ q,t.extract (p + 1) t.size=q:=⟨_,rfl⟩
      have HQ:bytes q=(bytes t).drop (p + 1):=by rw [← hq]; exact (ZkG hp).2
      have lq:q.size≤65536:=Nat.le_trans (by rw [← hq]; exact ZkF _ _ _) lt
      refine Zab (xr 4 [(0, .v (.string s)),(2, .p 2 0),(3, .v (.bool false)),(4, .v (.string t)),(6, .v (.int .i64 ((p:Nat):Int))),(10, .p 10 0),(56, .v (.bool (decide (((p:Nat):Int) < ((t).size:Int)))))] [bR4 10 34 s13 A13 l13 c13 false none 0 0,bR4 2 34 false none 0 0 false none 0 0] ?_)
      rw [Zuw hl]
      refine xr 0 [(0, .v (.string s)),(2, .p 2 0),(3, .v (.bool false)),(4, .v (.string t)),(6, .v (.int .i64 ((p:Nat):Int))),(10, .p 10 0),(56, .v (.bool true))] [bR4 10 34 s13 A13 l13 c13 false none 0 0,bR4 2 34 false none 0 0 false none 0 0] ?_
      refine xe (Zaa (xa (Zac ?_)))
      by_cases hQ:((bytes q).all Zat && !(bytes q).isEmpty)=true
      ·obtain ⟨dq,nq⟩:=Zl2 hQ
       have MQ:ml ((Zag (bytes q):Nat):Int).natAbs≤65536:=by rw [Int.natAbs_natCast]; exact Zl1 dq lq
       refine Zab (xr 3 [(0, .v (.string s)),(2, .p 2 0),(3, .v (.bool false)),(10, .p 10 0),(58, .v (.string t)),(60, .v (.int .i64 (IntKind.i64.wrap (((p:Nat):Int) + 1))))] [bR4 10 34 s13 A13 l13 c13 false none 0 0,bR4 2 34 false none 0 0 false none 0 0] ?_)
       rw [Zil (a:=p) (by omega)]
       refine ZcO 61 (.string q) (by kernel_rfl) (by kernel_rfl) (by kernel_rfl) (by kernel_rfl) (by kernel_rfl) (by kernel_rfl) (fun w R Q=>ZcK (p + 1) _ (t:=9) (x:=(Operand.tmp 58)) (lo:=(some (Operand.tmp 60))) (hi:=none) (by kernel_rfl) (by kernel_rfl) (by kernel_rfl) (Or.inr (by kernel_rfl)) (Or.inl ⟨rfl,rfl⟩) (by omega) (Nat.le_refl _) hq) ?_
       refine xr 0 [(0, .v (.string s)),(2, .p 2 0),(3, .v (.bool false)),(10, .p 10 0),(61, .v (.string q))] [bR4 10 34 s13 A13 l13 c13 false none 0 0,bR4 2 34 false none 0 0 false none 0 0] ?_
       refine xc 60 [.string q] 62 (fun x:ShI=>.tuple #[ZaE x, .bool true]) _ (fun w R Q=>(ZdG q _ (by omega)).mono (fun _ _ h=>Zpm h dq nq)) (fun xx=>?_)
       obtain ⟨s14,A14,l14,c14⟩:=xx
       refine xr 6 [(0, .v (.string s)),(2, .p 2 0),(3, .v (.bool false)),(10, .p 10 0),(11, .p 11 0),(12, .v (.bool true))] [bI2 11 32 s14 A14 l14 c14,bR4 10 34 s13 A13 l13 c13 false none 0 0,bR4 2 34 false none 0 0 false none 0 0] ?_
       refine xe (Zaa (Zac (Zac ?_)))
       by_cases hz:Zag (bytes q)=0
       ·refine Zab (xr 4 [(0, .v (.string s)),(2, .p 2 0),(3, .v (.bool false)),(10, .p 10 0),(11, .p 11 0),(67, .v (.bool false)),eI2 68 s14 A14 l14 c14] [bI2 11 32 s14 A14 l14 c14,bR4 10 34 s13 A13 l13 c13 false none 0 0,bR4 2 34 false none 0 0 false none 0 0] ?_)
        refine xc 62 [vI2 s14 A14 l14 c14] 69 (fun _:Unit=>.int .i64 ((Zag (bytes q):Int)).sign) _ (fun w R Q=>(ZcD _ ((Zag (bytes q):Int)) _ Q.2).mono (fun _ _ h=>Zad h rfl)) (fun xx=>?_)
        refine xr 1 [(0, .v (.string s)),(2, .p 2 0),(3, .v (.bool false)),(10, .p 10 0),(11, .p 11 0),(67, .v (.bool false)),(70, .v (.bool ((((Zag (bytes q):Int)).sign:Int) == 0)))] [bI2 11 32 s14 A14 l14 c14,bR4 10 34 s13 A13 l13 c13 false none 0 0,bR4 2 34 false none 0 0 false none 0 0] ?_
        rw [ZsG hz]
        refine xr 1 [(0, .v (.string s)),(2, .p 2 0),(3, .v (.bool false)),(10, .p 10 0),(11, .p 11 0),(71, .v (.bool true))] [bI2 11 32 s14 A14 l14 c14,bR4 10 34 s13 A13 l13 c13 false none 0 0,bR4 2 34 false none 0 0 false none 0 0] ?_
        refine xe (Zaa (xa (Zac (Zab (xr 3 [(0, .v (.string s)),(2, .p 2 0),(3, .v (.bool false)),(10, .p 10 0),(11, .p 11 0)] [bI2 11 32 s14 A14 l14 c14,bR4 10 34 s13 A13 l13 c13 false none 0 0,bR4 2 34 false none 0 0 false none 0 0] ?_)))))
        refine xe (Zaa (Zaj (Zak (Zak ?_))))
        refine Zaf (v:=.tuple #[.agg #[.bool false, .slice none 0 0, .bool false, .slice none 0 0], .bool false]) (by kernel_rfl) (fun w' R Q=>?_)
        exact ⟨_,false,0,rfl,R,Zaw.nil _,Or.inr ⟨rfl,by rw [← Zhn]; exact ZkH HM (by rw [← HX]; exact hA) (by rw [← hp,Zao]; exact hl) (by rw [← hp,← HQ]; exact Or.inr hz)⟩⟩
       ·refine Zab (xr 4 [(0, .v (.string s)),(2, .p 2 0),(3, .v (.bool false)),(10, .p 10 0),(11, .p 11 0),(67, .v (.bool false)),eI2 68 s14 A14 l14 c14] [bI2 11 32 s14 A14 l14 c14,bR4 10 34 s13 A13 l13 c13 false none 0 0,bR4 2 34 false none 0 0 false none 0 0] ?_)
        refine xc 62 [vI2 s14 A14 l14 c14] 69 (fun _:Unit=>.int .i64 ((Zag (bytes q):Int)).sign) _ (fun w R Q=>(ZcD _ ((Zag (bytes q):Int)) _ Q.2).mono (fun _ _ h=>Zad h rfl)) (fun xx=>?_)
        refine xr 1 [(0, .v (.string s)),(2, .p 2 0),(3, .v (.bool false)),(10, .p 10 0),(11, .p 11 0),(67, .v (.bool false)),(70, .v (.bool ((((Zag (bytes q):Int)).sign:Int) == 0)))] [bI2 11 32 s14 A14 l14 c14,bR4 10 34 s13 A13 l13 c13 false none 0 0,bR4 2 34 false none 0 0 false none 0 0] ?_
        rw [ZrH hz]
        refine xr 1 [(0, .v (.string s)),(2, .p 2 0),(3, .v (.bool false)),(10, .p 10 0),(11, .p 11 0),(71, .v (.bool false))] [bI2 11 32 s14 A14 l14 c14,bR4 10 34 s13 A13 l13 c13 false none 0 0,bR4 2 34 false none 0 0 false none 0 0] ?_
        refine xe (Zaa (xb (Zap (Zaa (Zab (xr 3 [(0, .v (.string s)),(2, .p 2 0),(3, .v (.bool false)),(10, .p 10 0),eI2 74 s13 A13 l13 c13,eI2 75 s14 A14 l14 c14] [bR4 10 34 s13 A13 l13 c13 false none 0 0,bR4 2 34 false none 0 0 false none 0 0] ?_))))))
        refine xc 23 [vI2 s13 A13 l13 c13,vI2 s14 A14 l14 c14] 76 Zbf _ (fun w R Q=>(Zgu _ _ (sg ng (Zag (bytes x))) ((Zag (bytes q):Int)) _ Q.1.1.2 Q.1.2 (ZrI (by rw [Zqt]; rw [Int.natAbs_natCast] at MX; exact MX)) (ZrI MQ) (Zqu hz)).mono (fun _ _=>Za4)) (fun xx=>?_)
        obtain ⟨s15,A15,l15,c15,t15,B15,m15,d15⟩:=xx
        refine xr 1 [(0, .v (.string s)),(2, .p 2 0),(3, .v (.bool false)),(10, .p 10 0)] [bR4 10 34 s15 A15 l15 c15 t15 B15 m15 d15,bR4 2 34 false none 0 0 false none 0 0] ?_
        refine xe (Zaa (Zac ?_))
        refine ZaC 7 (by kernel_rfl) (by kernel_rfl) Zah ?_
        refine xf 2 [(0, .v (.string s)),(2, .p 2 0),(3, .v (.bool false)),eR4 77 s15 A15 l15 c15 t15 B15 m15 d15,eR4 78 s15 A15 l15 c15 t15 B15 m15 d15] [bR4 10 34 s15 A15 l15 c15 t15 B15 m15 d15,bR4 2 34 false none 0 0 false none 0 0] ?_
        refine xd 31 [vR4 s15 A15 l15 c15 t15 B15 m15 d15] 79 (fun _:Unit=>.string ⟨(ZaB (Rat.divInt (sg ng (Zag (bytes x))) ((Zag (bytes q):Int)))).toArray⟩) _ (fun w R Q=>(Zik _ (Rat.divInt (sg ng (Zag (bytes x))) ((Zag (bytes q):Int))) _ Q.2 (Nat.le_trans (Zpl (Zqu hz)).1 (by rw [Zqt]; rw [Int.natAbs_natCast] at MX; exact MX)) (Nat.le_trans (Zpl (Zqu hz)).2 MQ)).mono (fun _ _ h=>Zad h rfl)) (fun xx=>?_)
        refine xf 4 [(2, .p 2 0),(3, .v (.bool ((⟨(ZaB (Rat.divInt (sg ng (Zag (bytes x))) ((Zag (bytes q):Int)))).toArray⟩:ByteArray).toList == (s:ByteArray).toList)))] [bR4 2 34 s15 A15 l15 c15 t15 B15 m15 d15,bR4 10 34 s15 A15 l15 c15 t15 B15 m15 d15,bR4 2 34 false none 0 0 false none 0 0] ?_
        refine xz (xe (Zaa (Zaj ?_)))
        refine Zaf (v:=.tuple #[.agg #[.bool s15, .slice A15 l15 c15, .bool t15, .slice B15 m15 d15], .bool ((⟨(ZaB (Rat.divInt (sg ng (Zag (bytes x))) ((Zag (bytes q):Int)))).toArray⟩:ByteArray).toList == (s:ByteArray).toList)]) (by kernel_rfl) (fun w' R Q=>?_)
        exact ⟨_,_,_,rfl,R,Q.1.2,ZnC (by rw [Zqs HM (by rw [← HX]; exact hA) (by rw [← hp,Zao]; exact hl) (by rw [← hp,← HQ]; exact hQ) (by rw [← hp,← HQ]; exact hz),← hp,← HQ,← HX]) Zlf⟩
      ·refine Zab (xr 3 [(0, .v (.string s)),(2, .p 2 0),(3, .v (.bool false)),(10, .p 10 0),(58, .v (.string t)),(60, .v (.int .i64 (IntKind.i64.wrap (((p:Nat):Int) + 1))))] [bR4 10 34 s13 A13 l13 c13 false none 0 0,bR4 2 34 false none 0 0 false none 0 0] ?_)
       rw [Zil (a:=p) (by omega)]
       refine ZcO 61 (.string q) (by kernel_rfl) (by kernel_rfl) (by kernel_rfl) (by kernel_rfl) (by kernel_rfl) (by kernel_rfl) (fun w R Q=>ZcK (p + 1) _ (t:=9) (x:=(Operand.tmp 58)) (lo:=(some (Operand.tmp 60))) (hi:=none) (by kernel_rfl) (by kernel_rfl) (by kernel_rfl) (Or.inr (by kernel_rfl)) (Or.inl ⟨rfl,rfl⟩) (by omega) (Nat.le_refl _) hq) ?_
       refine xr 0 [(0, .v (.string s)),(2, .p 2 0),(3, .v (.bool false)),(10, .p 10 0),(61, .v (.string q))] [bR4 10 34 s13 A13 l13 c13 false none 0 0,bR4 2 34 false none 0 0 false none 0 0] ?_
       refine xc 60 [.string q] 62 (fun x:ShI=>.tuple #[ZaE x, .bool false]) _ (fun w R Q=>(ZdG q _ (by omega)).mono (fun _ _ h=>ZnF h hQ)) (fun xx=>?_)
       obtain ⟨s16,A16,l16,c16⟩:=xx
       refine xr 6 [(0, .v (.string s)),(2, .p 2 0),(3, .v (.bool false)),(10, .p 10 0),(11, .p 11 0),(12, .v (.bool false))] [bI2 11 32 s16 A16 l16 c16,bR4 10 34 s13 A13 l13 c13 false none 0 0,bR4 2 34 false none 0 0 false none 0 0] ?_
       refine xe (Zaa (Zac (Zac (Zab (xr 7 [(0, .v (.string s)),(2, .p 2 0),(3, .v (.bool false)),(10, .p 10 0),(11, .p 11 0),(71, .v (.bool true))] [bI2 11 32 s16 A16 l16 c16,bR4 10 34 s13 A13 l13 c13 false none 0 0,bR4 2 34 false none 0 0 false none 0 0] ?_)))))
       refine xe (Zaa (xa (Zac (Zab (xr 3 [(0, .v (.string s)),(2, .p 2 0),(3, .v (.bool false)),(10, .p 10 0),(11, .p 11 0)] [bI2 11 32 s16 A16 l16 c16,bR4 10 34 s13 A13 l13 c13 false none 0 0,bR4 2 34 false none 0 0 false none 0 0] ?_)))))
       refine xe (Zaa (Zaj (Zak (Zak ?_))))
       refine Zaf (v:=.tuple #[.agg #[.bool false, .slice none 0 0, .bool false, .slice none 0 0], .bool false]) (by kernel_rfl) (fun w' R Q=>?_)
       exact ⟨_,false,0,rfl,R,Zaw.nil _,Or.inr ⟨rfl,by rw [← Zhn]; exact ZkH HM (by rw [← HX]; exact hA) (by rw [← hp,Zao]; exact hl) (by rw [← hp,← HQ]; exact Or.inl (Bool.eq_false_iff.2 hQ))⟩⟩
     ·refine Zab (xr 4 [(0, .v (.string s)),(2, .p 2 0),(3, .v (.bool false)),(4, .v (.string t)),(6, .v (.int .i64 ((p:Nat):Int))),(10, .p 10 0),(56, .v (.bool (decide (((p:Nat):Int) < ((t).size:Int)))))] [bR4 10 34 s13 A13 l13 c13 false none 0 0,bR4 2 34 false none 0 0 false none 0 0] ?_)
      rw [ZtK hl]
      refine xr 0 [(0, .v (.string s)),(2, .p 2 0),(3, .v (.bool false)),(4, .v (.string t)),(6, .v (.int .i64 ((p:Nat):Int))),(10, .p 10 0),(56, .v (.bool false))] [bR4 10 34 s13 A13 l13 c13 false none 0 0,bR4 2 34 false none 0 0 false none 0 0] ?_
      refine xe (Zaa (xb (Zap (Zaa (Zac ?_)))))
      refine ZaC 7 (by kernel_rfl) (by kernel_rfl) Zah ?_
      refine xf 2 [(0, .v (.string s)),(2, .p 2 0),(3, .v (.bool false)),eR4 77 s13 A13 l13 c13 false none 0 0,eR4 78 s13 A13 l13 c13 false none 0 0] [bR4 10 34 s13 A13 l13 c13 false none 0 0,bR4 2 34 false none 0 0 false none 0 0] ?_
      refine xd 31 [vR4 s13 A13 l13 c13 false none 0 0] 79 (fun _:Unit=>.string ⟨(ZaB (((sg ng (Zag (bytes x)):Int):Rat))).toArray⟩) _ (fun w R Q=>(Zik _ (((sg ng (Zag (bytes x)):Int):Rat)) _ (Zaw.whole Q.2) (by show ml (sg ng (Zag (bytes x))).natAbs≤_; rw [Zqt]; rw [Int.natAbs_natCast] at MX; exact MX) ZtL).mono (fun _ _ h=>Zad h rfl)) (fun xx=>?_)
      refine xf 4 [(2, .p 2 0),(3, .v (.bool ((⟨(ZaB (((sg ng (Zag (bytes x)):Int):Rat))).toArray⟩:ByteArray).toList == (s:ByteArray).toList)))] [bR4 2 34 s13 A13 l13 c13 false none 0 0,bR4 10 34 s13 A13 l13 c13 false none 0 0,bR4 2 34 false none 0 0 false none 0 0] ?_
      refine xz (xe (Zaa (Zaj ?_)))
      refine Zaf (v:=.tuple #[.agg #[.bool s13, .slice A13 l13 c13, .bool false, .slice none 0 0], .bool ((⟨(ZaB (((sg ng (Zag (bytes x)):Int):Rat))).toArray⟩:ByteArray).toList == (s:ByteArray).toList)]) (by kernel_rfl) (fun w' R Q=>?_)
      exact ⟨_,_,_,rfl,R,(Zaw.whole Q.1.2),ZnC (by rw [ZoE HM (by rw [← HX]; exact hA) (by rw [← hp,Zao]; omega),← HX]) Zlf⟩
    ·refine Zab (xr 2 [(0, .v (.string s)),(2, .p 2 0),(3, .v (.bool false)),(4, .v (.string t)),(5, .v (.bool ng)),(6, .v (.int .i64 ((p:Nat):Int))),(39, .v (.string t)),(40, .v (.int .i64 ((p:Nat):Int)))] [bR4 2 34 false none 0 0 false none 0 0] ?_)
     refine ZcO 41 (.string x) (by kernel_rfl) (by kernel_rfl) (by kernel_rfl) (by kernel_rfl) (by kernel_rfl) (by kernel_rfl) (fun w R Q=>ZcK 0 p (t:=9) (x:=(Operand.tmp 39)) (lo:=none) (hi:=(some (Operand.tmp 40))) (by kernel_rfl) (by kernel_rfl) (by kernel_rfl) (Or.inl ⟨rfl,rfl⟩) (Or.inr (by kernel_rfl)) (by omega) hpt hx) ?_
     refine xr 0 [(0, .v (.string s)),(2, .p 2 0),(3, .v (.bool false)),(4, .v (.string t)),(5, .v (.bool ng)),(6, .v (.int .i64 ((p:Nat):Int))),(41, .v (.string x))] [bR4 2 34 false none 0 0 false none 0 0] ?_
     refine xc 60 [.string x] 42 (fun x:ShI=>.tuple #[ZaE x, .bool false]) _ (fun w R Q=>(ZdG x _ (by omega)).mono (fun _ _ h=>ZnF h hA)) (fun xx=>?_)
     obtain ⟨s17,A17,l17,c17⟩:=xx
     refine xr 6 [(0, .v (.string s)),(2, .p 2 0),(3, .v (.bool false)),(4, .v (.string t)),(5, .v (.bool ng)),(6, .v (.int .i64 ((p:Nat):Int))),(8, .p 8 0),(9, .v (.bool false))] [bI2 8 32 s17 A17 l17 c17,bR4 2 34 false none 0 0 false none 0 0] ?_
     refine xe (Zaa (Zac (Zac (Zab (xr 2 [(0, .v (.string s)),(2, .p 2 0),(3, .v (.bool false)),(4, .v (.string t)),(5, .v (.bool ng)),(6, .v (.int .i64 ((p:Nat):Int))),(8, .p 8 0),(46, .v (.bool true))] [bI2 8 32 s17 A17 l17 c17,bR4 2 34 false none 0 0 false none 0 0] ?_)))))
     refine xe (Zaa (xa (Zac (Zab (xr 3 [(0, .v (.string s)),(2, .p 2 0),(3, .v (.bool false)),(4, .v (.string t)),(5, .v (.bool ng)),(6, .v (.int .i64 ((p:Nat):Int))),(8, .p 8 0)] [bI2 8 32 s17 A17 l17 c17,bR4 2 34 false none 0 0 false none 0 0] ?_)))))
     refine xe (Zaa (Zaj (Zak ?_)))
     refine Zaf (v:=.tuple #[.agg #[.bool false, .slice none 0 0, .bool false, .slice none 0 0], .bool false]) (by kernel_rfl) (fun w' R Q=>?_)
     exact ⟨_,false,0,rfl,R,Zaw.nil _,Or.inr ⟨rfl,by rw [← Zhn]; exact Zqr HM (by rw [← HX]; exact Bool.eq_false_iff.2 hA)⟩⟩
end Go.Proofs.YtklpdkpcocnglaaGreatDoor

namespace Go.Proofs.YtklpdkpcocnglaaGreatDoor
open Go.RowKit
section
variable {w w':World} {e:Ending} {l:List UInt8}
theorem Zgv (h:ZjI w l e w') (hr:ZaU l=none):Zbx (fun x:ShQ=>.tuple #[Zbf x, .bool false]) (fun x w=>∃ q,Zaw w (Zbf x) q) w e w':=by
 obtain ⟨v,ok,q,rfl,Q,h2,⟨rfl,h1⟩ | ⟨rfl,h1⟩⟩:=h
 ·rw [hr] at h1; cases h1
 ·obtain ⟨s,A,l,c,t,B,m,d,rfl⟩:=h2.shp
  exact ⟨(s,A,l,c,t,B,m,d),rfl,Q,boxn Q (fun S w'' hS hF=>⟨q,h2.nrb hS hF⟩)⟩
theorem ZdH {q:Rat} (h:ZjI w l e w') (hr:ZaU l=some q):Zbx (fun x:ShQ=>.tuple #[Zbf x, .bool true]) (fun x w=>Zaw w (Zbf x) q) w e w':=by
 obtain ⟨v,ok,q',rfl,Q,h2,⟨rfl,h1⟩ | ⟨rfl,h1⟩⟩:=h
 ·rw [hr] at h1; injection h1 with h1; subst h1
  obtain ⟨s,A,l,c,t,B,m,d,rfl⟩:=h2.shp
  exact ⟨(s,A,l,c,t,B,m,d),rfl,Q,boxn Q (fun S w'' hS hF=>h2.nrb hS hF)⟩
 ·rw [hr] at h1; cases h1
end
end Go.Proofs.YtklpdkpcocnglaaGreatDoor

namespace Go.Proofs.YtklpdkpcocnglaaGreatDoor
open Go.RowKit
end Go.Proofs.YtklpdkpcocnglaaGreatDoor

namespace Go.Proofs.YtklpdkpcocnglaaGreatDoor
open Go.RowKit
theorem ZgC:∀ l:List UInt8,Lib.indexByte l 47=if (l.takeWhile Zav).length < l.length then ((l.takeWhile Zav).length:Int) else -1
 | []=>by simp [Lib.indexByte]
 | b :: l=>by
   have ih:=ZgC l
   unfold Lib.indexByte
   by_cases hb:b=47
   ·subst hb; simp [Zav]
   ·have h1:(b == (47:UInt8))=false:=by simpa using hb
    have h2:Zav b=true:=by simp [Zav,hb]
    rw [h1,ih]
    simp only [List.takeWhile_cons,h2,List.length_cons,if_true,Bool.false_eq_true,if_false]
    generalize (l.takeWhile Zav).length=k
    generalize l.length=n
    by_cases h3:k < n
    ·have h4:k + 1 < n + 1:=by omega
     have h5:(((k:Nat):Int) == -1)=false:=by simp
     rw [if_pos h4,if_pos h3]
     simp only [h5,Bool.false_eq_true,if_false]
     omega
    ·have h4:¬ k + 1 < n + 1:=by omega
     rw [if_neg h4,if_neg h3]
     rfl
theorem Zuz {s:ByteArray} (h:bytes s=[47]):(0:Int)=Lib.indexByte (bytes s) 47:=by rw [h]; rfl
theorem ZtN {s:ByteArray} (h:bytes s=[47]):((⟨#[47]⟩:ByteArray).toList == s.toList)=true:=by
 rw [Lib.toList_data,Lib.toList_data,show s.data.toList=[47] from h]; rfl
theorem ZtO {s:ByteArray} (h:¬ bytes s=[47]):((⟨#[47]⟩:ByteArray).toList == s.toList)=false:=by
 rw [Lib.toList_data,Lib.toList_data]; exact beq_eq_false_iff_ne.2 (fun e=>h e.symm)
theorem ZtP {p:Nat} (h:p≤1000000):IntKind.i64.wrap (((p:Nat):Int) + ((⟨#[47]⟩:ByteArray).size:Int))=((p + 1:Nat):Int):=by
 rw [show (((⟨#[47]⟩:ByteArray).size:Nat):Int)=1 from rfl,IntKind.wrap_i64]; omega
theorem Zpn (z:Int):(Lib.itoa z).all Zav=true:=by
 rcases Int.lt_or_le z 0 with h | h
 ·rw [Zhk h,List.all_append,ZeK (ZbJ _)]; rfl
 ·rw [show z=((z.toNat:Nat):Int) by omega,ZbY]; exact ZeK (ZbJ _)
theorem Zl3 {l:List UInt8} {q:Rat} (h:ZaU l=some q) (h1:q.den=1):l=Lib.itoa q.num∧l.length≤(l.takeWhile Zav).length:=by
 have ht:ZaB q=l:=Zc7 h
 have e:l=Lib.itoa q.num:=by rw [← ht]; unfold ZaB; rw [if_pos h1]
 refine ⟨e,?_⟩
 have:=Zpn q.num
 rw [← e] at this
 rw [(Zds this).1]
 exact Nat.le_refl _
theorem ZrJ {l:List UInt8} {q:Rat} (h:ZaU l=some q) (h1:¬ q.den=1):l.takeWhile Zav=Lib.itoa q.num∧l.drop ((l.takeWhile Zav).length + 1)=Lib.itoa (q.den:Int)∧(l.takeWhile Zav).length < l.length:=by
 have ht:ZaB q=l:=Zc7 h
 have e:l=Lib.itoa q.num ++ 47 :: Lib.itoa (q.den:Int):=by rw [← ht]; unfold ZaB; rw [if_neg h1]; simp
 obtain ⟨e1,e2⟩:=Ze0 (p:=Zav) (r:=Lib.itoa (q.den:Int)) (c:=47) (Zpn q.num) (by decide)
 rw [← e] at e1 e2
 refine ⟨e1,?_,?_⟩
 ·rw [e1,e,← List.drop_drop,List.drop_left]; rfl
 ·rw [e1,e]; simp
theorem Zqv:Ending.returned (.tuple #[.string ⟨#[48]⟩, .string ⟨#[49]⟩])=Ending.returned (.tuple #[.string ⟨(Lib.itoa (0:Rat).num).toArray⟩, .string ⟨(Lib.itoa ((0:Rat).den:Int)).toArray⟩]):=by
 rw [show (0:Rat).num=((0:Nat):Int) from rfl,show ((0:Rat).den:Int)=((1:Nat):Int) from rfl,Ze1 (by decide),Ze1 (by decide)]; rfl
theorem ZoG (s:ByteArray):Ending.returned (.tuple #[.string s, .string ⟨#[49]⟩])=Ending.returned (.tuple #[.string ⟨(bytes s).toArray⟩, .string ⟨(Lib.itoa ((1:Nat):Int)).toArray⟩]):=by
 rw [Ze1 (by decide)]; rfl
theorem ZsH (x:Int):ZaB ((x:Int):Rat)=Lib.itoa x:=by unfold ZaB; exact if_pos rfl
theorem ZrK (s:ByteArray) (w:World):Calls Tryz.prog 224 #[.string s, .int .u8 (((47:UInt8).toNat:Nat):Int)] w (RetV w (.int .i64 (Lib.indexByte (bytes s) 47))):=by
 refine (Tryz.stringslite_IndexByte s (((47:UInt8).toNat:Nat):Int) w).mono ?_
 rintro e w' ⟨rfl,rfl⟩
 exact ⟨rfl,Fr.refl _ _⟩
theorem ZgT (s:ByteArray) (w:World) :
 Calls Tryz.prog 198 #[.string s, .string ⟨#[47]⟩] w (RetV w (.int .i64 (Lib.indexByte (bytes s) 47))):=by
 refine Zaz (Φ:=fun w=>True) Tryz.func198 rfl (by kernel_rfl) (fun w' hf=>trivial) ?_
 refine Zac (Zab (xr 1 [(0, .v (.string s)),(1, .v (.string ⟨#[47]⟩)),(4, .v (.int .i64 0))] [] ?_))
 refine xe (Zaa (Zac (Zab (xr 2 [(0, .v (.string s)),(1, .v (.string ⟨#[47]⟩)),(4, .v (.int .i64 0)),(15, .v (.int .i64 ((⟨#[47]⟩:ByteArray).size:Int)))] [] ?_))))
 rw [(show (((⟨#[47]⟩:ByteArray).size:Nat):Int)=1 from rfl)]
 refine xr 1 [(0, .v (.string s)),(1, .v (.string ⟨#[47]⟩)),(4, .v (.int .i64 0)),(5, .v (.int .i64 1))] [] ?_
 refine xe (Zaa (Zac (ZaO (Zac ?_))))
 by_cases h47:bytes s=[47]
 ·refine Zab (xr 6 [(0, .v (.string s)),(1, .v (.string ⟨#[47]⟩)),(4, .v (.int .i64 0)),(5, .v (.int .i64 1)),(19, .v (.bool false)),(22, .v (.bool ((⟨#[47]⟩:ByteArray).toList == (s:ByteArray).toList)))] [] ?_)
  rw [ZtN h47]
  refine xr 2 [(0, .v (.string s)),(1, .v (.string ⟨#[47]⟩)),(4, .v (.int .i64 0)),(5, .v (.int .i64 1)),(16, .v (.bool true))] [] ?_
  refine xe (Zaa (xa (Zac (Zab (xr 1 [(0, .v (.string s)),(1, .v (.string ⟨#[47]⟩)),(4, .v (.int .i64 0)),(5, .v (.int .i64 1))] [] ?_)))))
  refine xe (Zaa (Zaj (Zbv (Zak ?_))))
  refine Zaf (v:=.int .i64 0) (by kernel_rfl) (fun w' R Q=>?_)
  exact ⟨by rw [← Zuz h47],R⟩
 ·refine Zab (xr 6 [(0, .v (.string s)),(1, .v (.string ⟨#[47]⟩)),(4, .v (.int .i64 0)),(5, .v (.int .i64 1)),(19, .v (.bool false)),(22, .v (.bool ((⟨#[47]⟩:ByteArray).toList == (s:ByteArray).toList)))] [] ?_)
  rw [ZtO h47]
  refine xr 2 [(0, .v (.string s)),(1, .v (.string ⟨#[47]⟩)),(4, .v (.int .i64 0)),(5, .v (.int .i64 1)),(16, .v (.bool false))] [] ?_
  refine xe (Zaa (xb (Zac (Zab (xr 3 [(0, .v (.string s)),(1, .v (.string ⟨#[47]⟩)),(4, .v (.int .i64 0)),(5, .v (.int .i64 1)),(24, .v (.bool true))] [] ?_)))))
  refine xe (Zaa (xa (Zac (Zab (xr 2 [(0, .v (.string s)),(1, .v (.string ⟨#[47]⟩)),(4, .v (.int .i64 0)),(5, .v (.int .i64 1)),(27, .v (.string s)),(28, .v (.string ⟨#[47]⟩))] [] ?_)))))
  refine ZcO 29 (.int .u8 (((47:UInt8).toNat:Nat):Int)) (by kernel_rfl) (by kernel_rfl) (by kernel_rfl) (by kernel_rfl) (by kernel_rfl) (by kernel_rfl) (fun w R Q=>Zeg (c:=47) (b:=⟨#[47]⟩) (t:=9) (x:=.tmp 28) (k:=0) (i:=.const (.int .i64 0)) (by kernel_rfl) (by kernel_rfl) (by kernel_rfl) (by rfl) (by rfl)) ?_
  refine xr 0 [(0, .v (.string s)),(1, .v (.string ⟨#[47]⟩)),(4, .v (.int .i64 0)),(5, .v (.int .i64 1)),(27, .v (.string s)),(29, .v (.int .u8 (((47:UInt8).toNat:Nat):Int)))] [] ?_
  refine xc 224 [.string s, .int .u8 (((47:UInt8).toNat:Nat):Int)] 30 (fun _:Unit=>.int .i64 (Lib.indexByte (bytes s) 47)) _ (fun w R Q=>(ZrK s _).mono (fun _ _ h=>Zad h rfl)) (fun xx=>?_)
  refine xr 1 [(0, .v (.string s)),(1, .v (.string ⟨#[47]⟩)),(4, .v (.int .i64 (Lib.indexByte (bytes s) 47))),(5, .v (.int .i64 1))] [] ?_
  refine xe (Zaa (Zaj (Zbv (Zak ?_))))
  refine Zaf (v:=.int .i64 (Lib.indexByte (bytes s) 47)) (by kernel_rfl) (fun w' R Q=>?_)
  exact ⟨rfl,R⟩
theorem ZnG (s x y:ByteArray) (p:Nat) (w:World) (h1:s.size≤100000) (hp:p=((bytes s).takeWhile Zav).length) (hlt:p < s.size) (hx:s.extract 0 p=x) (hy:s.extract (p + 1) s.size=y) :
 Calls Tryz.prog 173 #[.string s, .string ⟨#[47]⟩] w (RetV w (.tuple #[.string x, .string y, .bool true])):=by
 have hlt':((bytes s).takeWhile Zav).length < (bytes s).length:=by rw [← hp,Zao]; exact hlt
 refine Zaz (Φ:=fun w=>True) Tryz.func173 rfl (by kernel_rfl) (fun w' hf=>trivial) ?_
 refine Zac (Zab (xr 3 [(0, .v (.string s)),(1, .v (.string ⟨#[47]⟩)),(4, .v (.string ⟨#[]⟩)),(5, .v (.string ⟨#[]⟩)),(6, .v (.bool false))] [] ?_))
 refine xe (Zaa (Zac (Zac (Zab (xr 2 [(0, .v (.string s)),(1, .v (.string ⟨#[47]⟩)),(4, .v (.string ⟨#[]⟩)),(5, .v (.string ⟨#[]⟩)),(6, .v (.bool false)),(8, .v (.string s)),(9, .v (.string ⟨#[47]⟩))] [] ?_)))))
 refine xc 198 [.string s, .string ⟨#[47]⟩] 10 (fun _:Unit=>.int .i64 ((p:Nat):Int)) _ (fun w R Q=>(ZgT s _).mono (fun _ _ h=>Zad h (by rw [ZgC,if_pos hlt',← hp]))) (fun xx=>?_)
 refine xr 1 [(0, .v (.string s)),(1, .v (.string ⟨#[47]⟩)),(4, .v (.string ⟨#[]⟩)),(5, .v (.string ⟨#[]⟩)),(6, .v (.bool false)),(7, .v (.int .i64 ((p:Nat):Int)))] [] ?_
 refine xe (Zaa (Zac (Zab (xr 2 [(0, .v (.string s)),(1, .v (.string ⟨#[47]⟩)),(4, .v (.string ⟨#[]⟩)),(5, .v (.string ⟨#[]⟩)),(6, .v (.bool false)),(7, .v (.int .i64 ((p:Nat):Int))),(12, .v (.bool (decide (((p:Nat):Int) ≥ 0))))] [] ?_))))
 rw [(show decide (((p:Nat):Int) ≥ 0)=true from decide_eq_true (by omega))]
 refine xr 0 [(0, .v (.string s)),(1, .v (.string ⟨#[47]⟩)),(4, .v (.string ⟨#[]⟩)),(5, .v (.string ⟨#[]⟩)),(6, .v (.bool false)),(7, .v (.int .i64 ((p:Nat):Int))),(12, .v (.bool true))] [] ?_
 refine xe (Zaa (xa (Zac ?_)))
 refine ZaC 12 (by kernel_rfl) (by kernel_rfl) Zah ?_
 refine xf 2 [(0, .v (.string s)),(1, .v (.string ⟨#[47]⟩)),(4, .v (.string ⟨#[]⟩)),(5, .v (.string ⟨#[]⟩)),(6, .v (.bool false)),(7, .v (.int .i64 ((p:Nat):Int))),(13, .v (.string s)),(14, .v (.int .i64 ((p:Nat):Int)))] [] ?_
 refine ZiH 15 (.string x) (by kernel_rfl) (by kernel_rfl) (by kernel_rfl) (by kernel_rfl) (by kernel_rfl) (by kernel_rfl) (fun w Q=>ZcK 0 p (t:=9) (x:=(Operand.tmp 13)) (lo:=none) (hi:=(some (Operand.tmp 14))) (by kernel_rfl) (by kernel_rfl) (by kernel_rfl) (Or.inl ⟨rfl,rfl⟩) (Or.inr (by kernel_rfl)) (by omega) (by omega) hx) ?_
 refine xf 5 [(0, .v (.string s)),(4, .v (.string ⟨#[]⟩)),(5, .v (.string ⟨#[]⟩)),(6, .v (.bool false)),(15, .v (.string x)),(16, .v (.string s)),(20, .v (.int .i64 (IntKind.i64.wrap (((p:Nat):Int) + ((⟨#[47]⟩:ByteArray).size:Int)))))] [] ?_
 rw [ZtP (p:=p) (by omega)]
 refine ZiH 21 (.string y) (by kernel_rfl) (by kernel_rfl) (by kernel_rfl) (by kernel_rfl) (by kernel_rfl) (by kernel_rfl) (fun w Q=>ZcK (p + 1) _ (t:=9) (x:=(Operand.tmp 16)) (lo:=(some (Operand.tmp 20))) (hi:=none) (by kernel_rfl) (by kernel_rfl) (by kernel_rfl) (Or.inr (by kernel_rfl)) (Or.inl ⟨rfl,rfl⟩) (by omega) (Nat.le_refl _) hy) ?_
 refine xf 3 [(0, .v (.string s)),(4, .v (.string x)),(5, .v (.string y)),(6, .v (.bool true))] [] ?_
 refine xz (xe (Zaa (Zaj (Zak ?_))))
 refine Zaf (v:=.tuple #[.string x, .string y, .bool true]) (by kernel_rfl) (fun w' R Q=>?_)
 exact ⟨rfl,R⟩
theorem ZoH (s:ByteArray) (w:World) (hlt':¬ ((bytes s).takeWhile Zav).length < (bytes s).length) :
 Calls Tryz.prog 173 #[.string s, .string ⟨#[47]⟩] w (RetV w (.tuple #[.string s, .string ⟨#[]⟩, .bool false])):=by
 refine Zaz (Φ:=fun w=>True) Tryz.func173 rfl (by kernel_rfl) (fun w' hf=>trivial) ?_
 refine Zac (Zab (xr 3 [(0, .v (.string s)),(1, .v (.string ⟨#[47]⟩)),(4, .v (.string ⟨#[]⟩)),(5, .v (.string ⟨#[]⟩)),(6, .v (.bool false))] [] ?_))
 refine xe (Zaa (Zac (Zac (Zab (xr 2 [(0, .v (.string s)),(1, .v (.string ⟨#[47]⟩)),(4, .v (.string ⟨#[]⟩)),(5, .v (.string ⟨#[]⟩)),(6, .v (.bool false)),(8, .v (.string s)),(9, .v (.string ⟨#[47]⟩))] [] ?_)))))
 refine xc 198 [.string s, .string ⟨#[47]⟩] 10 (fun _:Unit=>.int .i64 (-1)) _ (fun w R Q=>(ZgT s _).mono (fun _ _ h=>Zad h (by rw [ZgC,if_neg hlt']))) (fun xx=>?_)
 refine xr 1 [(0, .v (.string s)),(1, .v (.string ⟨#[47]⟩)),(4, .v (.string ⟨#[]⟩)),(5, .v (.string ⟨#[]⟩)),(6, .v (.bool false)),(7, .v (.int .i64 (-1)))] [] ?_
 refine xe (Zaa (Zac (Zab (xr 2 [(0, .v (.string s)),(1, .v (.string ⟨#[47]⟩)),(4, .v (.string ⟨#[]⟩)),(5, .v (.string ⟨#[]⟩)),(6, .v (.bool false)),(7, .v (.int .i64 (-1))),(12, .v (.bool false))] [] ?_))))
 refine xe (Zaa (xb (Zap (Zaa (Zac (Zab (xr 4 [(4, .v (.string s)),(5, .v (.string ⟨#[]⟩)),(6, .v (.bool false))] [] ?_)))))))
 refine xe (Zaa (Zaj ?_))
 refine Zaf (v:=.tuple #[.string s, .string ⟨#[]⟩, .bool false]) (by kernel_rfl) (fun w' R Q=>?_)
 exact ⟨rfl,R⟩
theorem Zqw (s x y:ByteArray) (p:Nat) (w:World) (h1:s.size≤100000) (hp:p=((bytes s).takeWhile Zav).length) (hlt:p < s.size) (hx:s.extract 0 p=x) (hy:s.extract (p + 1) s.size=y) :
 Calls Tryz.prog 141 #[.string s, .string ⟨#[47]⟩] w (RetV w (.tuple #[.string x, .string y, .bool true])):=by
 refine Zaz (Φ:=fun w=>True) Tryz.func141 rfl (by kernel_rfl) (fun w' hf=>trivial) ?_
 refine Zac (Zab (xr 3 [(0, .v (.string s)),(1, .v (.string ⟨#[47]⟩)),(4, .v (.string ⟨#[]⟩)),(5, .v (.string ⟨#[]⟩)),(6, .v (.bool false))] [] ?_))
 refine xe (Zaa (Zac (Zab (xr 2 [(4, .v (.string ⟨#[]⟩)),(5, .v (.string ⟨#[]⟩)),(6, .v (.bool false)),(7, .v (.string s)),(8, .v (.string ⟨#[47]⟩))] [] ?_))))
 refine xc 173 [.string s, .string ⟨#[47]⟩] 9 (fun _:Unit=>.tuple #[.string x, .string y, .bool true]) _ (fun w R Q=>(ZnG s x y p _ h1 hp hlt hx hy).mono (fun _ _ h=>Zad h rfl)) (fun xx=>?_)
 refine xr 6 [(4, .v (.string x)),(5, .v (.string y)),(6, .v (.bool true))] [] ?_
 refine xe (Zaa (Zaj ?_))
 refine Zaf (v:=.tuple #[.string x, .string y, .bool true]) (by kernel_rfl) (fun w' R Q=>?_)
 exact ⟨rfl,R⟩
theorem ZrL (s:ByteArray) (w:World) (hlt':¬ ((bytes s).takeWhile Zav).length < (bytes s).length) :
 Calls Tryz.prog 141 #[.string s, .string ⟨#[47]⟩] w (RetV w (.tuple #[.string s, .string ⟨#[]⟩, .bool false])):=by
 refine Zaz (Φ:=fun w=>True) Tryz.func141 rfl (by kernel_rfl) (fun w' hf=>trivial) ?_
 refine Zac (Zab (xr 3 [(0, .v (.string s)),(1, .v (.string ⟨#[47]⟩)),(4, .v (.string ⟨#[]⟩)),(5, .v (.string ⟨#[]⟩)),(6, .v (.bool false))] [] ?_))
 refine xe (Zaa (Zac (Zab (xr 2 [(4, .v (.string ⟨#[]⟩)),(5, .v (.string ⟨#[]⟩)),(6, .v (.bool false)),(7, .v (.string s)),(8, .v (.string ⟨#[47]⟩))] [] ?_))))
 refine xc 173 [.string s, .string ⟨#[47]⟩] 9 (fun _:Unit=>.tuple #[.string s, .string ⟨#[]⟩, .bool false]) _ (fun w R Q=>(ZoH s _ hlt').mono (fun _ _ h=>Zad h rfl)) (fun xx=>?_)
 refine xr 6 [(4, .v (.string s)),(5, .v (.string ⟨#[]⟩)),(6, .v (.bool false))] [] ?_
 refine xe (Zaa (Zaj ?_))
 refine Zaf (v:=.tuple #[.string s, .string ⟨#[]⟩, .bool false]) (by kernel_rfl) (fun w' R Q=>?_)
 exact ⟨rfl,R⟩
theorem Zqx (s:ByteArray) (w:World) (hg:Glob w) (hs:(bytes s).length≤570) :
 Calls Tryz.prog 98 #[.string s] w (RetV w (.tuple #[.string ⟨(Lib.itoa (valF (bytes s)).num).toArray⟩, .string ⟨(Lib.itoa ((valF (bytes s)).den:Int)).toArray⟩])):=by
 refine Zaz (Φ:=fun w=>Glob w) Tryz.func98 rfl (by kernel_rfl) (fun w' hf=>hg.ext hf) ?_
 refine Zac (Zab (xr 2 [(0, .v (.string s)),(2, .v (.string ⟨#[]⟩)),(3, .v (.string ⟨#[]⟩))] [] ?_))
 refine xe (Zaa (Zac (Zac (Zab (xr 1 [(0, .v (.string s)),(2, .v (.string ⟨#[]⟩)),(3, .v (.string ⟨#[]⟩)),(7, .v (.string s))] [] ?_)))))
 by_cases hv:(ZaU (bytes s)).isSome=true
 ·obtain ⟨q,hq⟩:=Option.isSome_iff_exists.1 hv
  have hV:=Zew hq
  refine xc 54 [.string s] 8 (fun _:Unit=>.bool true) _ (fun w R Q=>(Zgt s _ Q hs).mono (fun _ _ h=>Zad h (by rw [hv]))) (fun xx=>?_)
  refine xr 1 [(0, .v (.string s)),(2, .v (.string ⟨#[]⟩)),(3, .v (.string ⟨#[]⟩)),(9, .v (.bool false))] [] ?_
  refine xe (Zaa (xb (Zap (Zaa (Zac (Zab (xr 1 [(2, .v (.string ⟨#[]⟩)),(3, .v (.string ⟨#[]⟩)),(11, .v (.string s))] [] ?_)))))))
  by_cases hd1:q.den=1
  ·refine xc 141 [.string s, .string ⟨#[47]⟩] 12 (fun _:Unit=>.tuple #[.string s, .string ⟨#[]⟩, .bool false]) _ (fun w R Q=>(ZrL s _ (by have:=(Zl3 hq hd1).2; omega)).mono (fun _ _ h=>Zad h rfl)) (fun xx=>?_)
   refine xr 7 [(2, .v (.string ⟨#[]⟩)),(3, .v (.string ⟨#[]⟩)),(4, .v (.string s)),(5, .v (.string ⟨#[]⟩)),(6, .v (.bool false))] [] ?_
   refine xe (Zaa (Zac (Zac (Zab (xr 2 [(2, .v (.string ⟨#[]⟩)),(3, .v (.string ⟨#[]⟩)),(4, .v (.string s)),(5, .v (.string ⟨#[]⟩)),(17, .v (.bool true))] [] ?_)))))
   refine xe (Zaa (xa (Zac (Zab (xr 3 [(2, .v (.string s)),(3, .v (.string ⟨#[49]⟩)),(4, .v (.string s)),(5, .v (.string ⟨#[]⟩))] [] ?_)))))
   refine xe (Zaa (Zaj (Zak ?_)))
   refine Zaf (v:=.tuple #[.string s, .string ⟨#[49]⟩]) (by kernel_rfl) (fun w' R Q=>?_)
   exact ⟨by rw [hV,hd1,← (Zl3 hq hd1).1]; exact ZoG s,R⟩
  ·obtain ⟨e1,e2,e3⟩:=ZrJ hq hd1
   obtain ⟨p,hp⟩:∃ p,p=((bytes s).takeWhile Zav).length:=⟨_,rfl⟩
   rw [← hp] at e2 e3
   have hpl:p < s.size:=by rw [← Zao]; exact e3
   obtain ⟨x,hx⟩:∃ x,s.extract 0 p=x:=⟨_,rfl⟩
   obtain ⟨y,hy⟩:∃ y,s.extract (p + 1) s.size=y:=⟨_,rfl⟩
   have hX:x=⟨(Lib.itoa (q.num)).toArray⟩:=Zpg (by rw [← hx,(ZkG hp).1,e1,Zdm])
   have hY:y=⟨(Lib.itoa (q.den:Int)).toArray⟩:=Zpg (by rw [← hy,(ZkG hp).2,e2,Zdm])
   refine xc 141 [.string s, .string ⟨#[47]⟩] 12 (fun _:Unit=>.tuple #[.string x, .string y, .bool true]) _ (fun w R Q=>(Zqw s x y p _ (by rw [← Zao]; omega) hp hpl hx hy).mono (fun _ _ h=>Zad h rfl)) (fun xx=>?_)
   refine xr 7 [(2, .v (.string ⟨#[]⟩)),(3, .v (.string ⟨#[]⟩)),(4, .v (.string x)),(5, .v (.string y)),(6, .v (.bool true))] [] ?_
   refine xe (Zaa (Zac (Zac (Zab (xr 2 [(2, .v (.string ⟨#[]⟩)),(3, .v (.string ⟨#[]⟩)),(4, .v (.string x)),(5, .v (.string y)),(17, .v (.bool false))] [] ?_)))))
   refine xe (Zaa (xb (Zap (Zaa (Zac (Zab (xr 4 [(2, .v (.string x)),(3, .v (.string y))] [] ?_)))))))
   refine xe (Zaa (Zaj ?_))
   refine Zaf (v:=.tuple #[.string x, .string y]) (by kernel_rfl) (fun w' R Q=>?_)
   exact ⟨by rw [hV,hX,hY],R⟩
 ·have hV:valF (bytes s)=0:=Zrv (by cases h:ZaU (bytes s) with | none=>rfl | some q=>rw [h] at hv; exact absurd rfl hv)
  refine xc 54 [.string s] 8 (fun _:Unit=>.bool false) _ (fun w R Q=>(Zgt s _ Q hs).mono (fun _ _ h=>Zad h (by rw [Bool.eq_false_iff.2 hv]))) (fun xx=>?_)
  refine xr 1 [(0, .v (.string s)),(2, .v (.string ⟨#[]⟩)),(3, .v (.string ⟨#[]⟩)),(9, .v (.bool true))] [] ?_
  refine xe (Zaa (xa (Zac (Zab (xr 2 [(0, .v (.string s)),(2, .v (.string ⟨#[48]⟩)),(3, .v (.string ⟨#[49]⟩))] [] ?_)))))
  refine xe (Zaa (Zaj (Zak ?_)))
  refine Zaf (v:=.tuple #[.string ⟨#[48]⟩, .string ⟨#[49]⟩]) (by kernel_rfl) (fun w' R Q=>?_)
  exact ⟨by rw [hV]; exact Zqv,R⟩
end Go.Proofs.YtklpdkpcocnglaaGreatDoor

namespace Go.Proofs.YtklpdkpcocnglaaGreatDoor
open Go.RowKit
def Zpo (s:ByteArray) (w:World) (e:Ending) (w':World):Prop:=∃ (r:ByteArray) (neg:Bool),e=.returned (.tuple #[.bool neg, .string r])∧Zay (bytes s)=(neg,bytes r)∧Ext w w'
def ZkI (x:ByteArray × Bool):Value:=.tuple #[.bool x.2, .string x.1]
theorem Zim {s:ByteArray} {w w':World} {e:Ending} (h:Zpo s w e w'):Zbx ZkI (fun x _=>Zay (bytes s)=(x.2,bytes x.1)) w e w':=by
 obtain ⟨r,neg,rfl,h,Q⟩:=h
 exact ⟨(r,neg),rfl,Q,BoxN.pure h⟩
theorem ZsI {t:ByteArray} {i:Nat} {c:UInt8} (hI:((bytes t).take i).all Zat=true) (hc:t[i]? = some c) (h1:¬ (c.toNat:Int) < 48) (h2:¬ (c.toNat:Int) > 57):((bytes t).take (i + 1)).all Zat=true:=by
 have hi:i < t.size:=by
  rcases Nat.lt_or_ge i t.size with h' | h'
  ·exact h'
  ·rw [getElem?_neg t i (by omega)] at hc; cases hc
 have hc':t[i]=c:=by
  rw [getElem?_pos t i hi] at hc
  injection hc
 rw [Zfj _ _ hi,List.all_append,hI,hc']
 have:Zat c=true:=by unfold Zat; simp; omega
 simp [this]
theorem Zpp {t:ByteArray} {i:Nat} {c:UInt8} (hc:t[i]? = some c) (h:(c.toNat:Int) < 48∨(c.toNat:Int) > 57):¬ (bytes t).all Zat=true:=by
 have hi:i < t.size:=by
  rcases Nat.lt_or_ge i t.size with h' | h'
  ·exact h'
  ·rw [getElem?_neg t i (by omega)] at hc; cases hc
 have hc':t[i]=c:=by
  rw [getElem?_pos t i hi] at hc
  injection hc
 intro ha
 have hm:t[i] ∈ bytes t:=by
  rw [← Zg9 t hi]; exact List.getElem_mem _
 have:=ZdV (List.all_eq_true.1 ha _ hm)
 rw [hc'] at this
 unfold Zat at *
 have h2:=List.all_eq_true.1 ha _ hm
 rw [hc'] at h2
 simp at h2
 omega
section
variable {s r:ByteArray} {neg:Bool} {x:Int}
theorem ZuT (h:bytes s=[48]):fvB (bytes s) x=(x == 0):=by unfold fvB; rw [if_pos h]; rfl
theorem ZgU (h:¬ bytes s=[48]) (hM:Zay (bytes s)=(neg,bytes r)) (hb:bytes r=[]∨(bytes r).head? = some 48∨¬ okE x∨¬ (bytes r).all Zat=true):fvB (bytes s) x=false:=by
 unfold fvB
 rw [if_neg h,hM]
 refine decide_eq_false ?_
 rintro ⟨h1,h2,h3,h4,_⟩
 rcases hb with hb | hb | hb | hb
 ·exact h1 hb
 ·exact h2 hb
 ·exact hb h3
 ·exact hb h4
theorem ZtQ {c c0:UInt8} (h:¬ bytes s=[48]) (hM:Zay (bytes s)=(neg,bytes r)) (h0:r[0]? = some c0) (hz:¬ (c0.toNat:Int)=48) (h1:¬ x < -1048576) (h2:¬ x > 1048576) (hd:(bytes r).all Zat=true) {k:Nat} (hk:r.size=k + 1) (hc:r[k]? = some c):fvB (bytes s) x=(((c.toNat % 2:Nat):Int) == 1):=by
 have e:bytes r=(bytes r).take k ++ [c]:=by
  have h':k < r.size:=by omega
  have:=Zfj r k h'
  rw [List.take_of_length_le (by rw [Zao]; omega)] at this
  rw [getElem?_pos r k h'] at hc
  injection hc with hc
  rw [hc] at this
  exact this
 have hp:Zag (bytes r) % 2=c.toNat % 2:=by
  rw [e] at hd ⊢
  exact ZsE hd
 have hh:(bytes r).head? = some c0:=by
  have h':0 < r.size:=by omega
  rw [getElem?_pos r 0 h'] at h0
  injection h0 with h0
  rw [← h0]; exact Zfk h'
 unfold fvB
 rw [if_neg h,hM]
 have h8:c0.toNat≠48:=by omega
 show decide _=decide _
 refine decide_eq_decide.2 ⟨fun q=>?_,fun q=>⟨?_,?_,⟨by omega,by omega⟩,hd,?_⟩⟩
 ·have:=q.2.2.2.2
  show ((c.toNat % 2:Nat):Int)=1
  rw [hp] at this; omega
 ·intro e'
  have e2:bytes r=[]:=e'
  have:(bytes r).length=0:=by rw [e2]; rfl
  rw [Zao] at this; omega
 ·rw [hh]; intro e; injection e with e; exact h8 (by rw [e]; rfl)
 ·have q':((c.toNat % 2:Nat):Int)=1:=q
  show Zag (bytes r) % 2=1
  rw [hp]; omega
end
theorem ZsJ {P:Program} {o:Oper} {ρ:Operand→Value} {w:World} {t k:TypeId} {x y:Operand} {c:UInt8} (ho:o.op=Op.binOp .and t x y k) (hx:ρ x=.int .u8 (c.toNat:Int)) (hy:ρ y=.int .u8 1):(execOp ρ o).run P w=.ok (.value (.int .u8 ((c.toNat % 2:Nat):Int))) w:=by
 have h:bits .and .u8 (c.toNat:Int) 1=((c.toNat % 2:Nat):Int):=by
  have hc:=c.toNat_lt
  have h1:(BitVec.ofInt 8 (c.toNat:Int)).toNat=c.toNat:=by
   rw [BitVec.ofInt_natCast,BitVec.toNat_ofNat]; exact Nat.mod_eq_of_lt (by omega)
  show IntKind.u8.wrap ((BitVec.ofInt 8 (c.toNat:Int) &&& BitVec.ofInt 8 1).toNat:Int)=_
  rw [BitVec.toNat_and,h1,show (BitVec.ofInt 8 1).toNat=1 from rfl,Nat.and_one_is_mod,IntKind.wrap_u8]; omega
 rw [← h]
 simp only [execOp,ho,hx,hy,eqGuard,binOp]
 rfl
theorem Zin (s:ByteArray) (w:World) :
 Calls Tryz.prog 63 #[.string s] w (Zpo s w):=by
 refine Zaz (Φ:=fun w=>True) Tryz.func63 rfl (by kernel_rfl) (fun w' hf=>trivial) ?_
 refine Zac (Zab (xr 2 [(0, .v (.string s)),(2, .v (.bool false)),(3, .v (.string ⟨#[]⟩))] [] ?_))
 refine xe (Zaa (Zac (Zab (xr 1 [(2, .v (.bool false)),(3, .v (.string ⟨#[]⟩)),(7, .v (.string s))] [] ?_))))
 refine xc 104 [.string s, .string ⟨#[45]⟩] 8 (fun x:ByteArray × Bool=>.tuple #[.string x.1, .bool x.2]) _ (fun w R Q=>(Zh0 s _).mono (fun _ _=>Zqm)) (fun xx=>?_)
 obtain ⟨r,neg⟩:=xx
 refine xr 5 [(2, .v (.bool false)),(3, .v (.string ⟨#[]⟩)),(4, .v (.string r)),(5, .v (.bool neg))] [] ?_
 refine xe (Zaa (Zac (Zab (xr 4 [(2, .v (.bool neg)),(3, .v (.string r))] [] ?_))))
 refine xe (Zaa (Zaj ?_))
 refine Zaf (v:=.tuple #[.bool neg, .string r]) (by kernel_rfl) (fun w' R Q=>?_)
 exact ⟨r,neg,rfl,Q.2,R⟩
theorem Zho (s:ByteArray) (x:Int) (w:World) (hs:(bytes s).length≤1000000) :
 Calls Tryz.prog 19 #[.agg #[.string s, .int .i64 x]] w (RetV w (.bool (fvB (bytes s) x))):=by
 refine Zaz (Φ:=fun w=>True) Tryz.func19 rfl (by kernel_rfl) (fun w' hf=>trivial) ?_
 refine Zac (Zab (xq 2 [(1, .p 1 0),(2, .v (.bool false))] [(1,24,[.v (.string s), .v (.int .i64 x)])] ?_))
 refine xe (Zaa (Zac (Zac ?_)))
 by_cases h48:bytes s=[48]
 ·refine Zab (xq 3 [(8, .v (.bool ((s:ByteArray).toList == (⟨#[48]⟩:ByteArray).toList)))] [] ?_)
  rw [Zph h48]
  refine xe (Zaa (xa (Zac (Zab (xq 4 [(2, .v (.bool ((x:Int) == 0)))] [] ?_)))))
  refine xe (Zaa (Zaj (Zak ?_)))
  refine Zaf (v:=.bool ((x:Int) == 0)) (by kernel_rfl) (fun w' R Q=>?_)
  exact ⟨by rw [ZuT h48],R⟩
 ·refine Zab (xq 3 [(8, .v (.bool ((s:ByteArray).toList == (⟨#[48]⟩:ByteArray).toList)))] [] ?_)
  rw [Zpi h48]
  refine xe (Zaa (xb (Zap (Zaa (Zac (Zab (xq 2 [(14, .v (.string s))] [] ?_)))))))
  refine xqc 63 [.string s] 15 ZkI _ (fun w R Q=>(Zin s _).mono (fun _ _=>Zim)) (fun xx=>?_)
  obtain ⟨r,neg⟩:=xx
  refine xq 5 [(4, .v (.string r))] [] ?_
  refine xe (Zaa (Zac (Zac ?_)))
  refine SXc.know (p:=Zay (bytes s)=(neg,bytes r)) (fun w _ Q=>Q.2) (fun HM=>?_)
  have hrl:r.size≤1000000:=by have:=ZlH HM; rw [Zao] at this; omega
  by_cases he:bytes r=[]
  ·refine Zab (xq 2 [(19, .v (.bool ((r:ByteArray).toList == (⟨#[]⟩:ByteArray).toList)))] [] ?_)
   rw [Zpd he]
   refine xq 15 [(34, .v (.bool true))] [] ?_
   refine xe (Zaa (xa (Zac (Zab (xq 1 [(2, .v (.bool false))] [] ?_)))))
   refine xe (Zaa (Zaj (Zak ?_)))
   refine Zaf (v:=.bool false) (by kernel_rfl) (fun w' R Q=>?_)
   exact ⟨by rw [ZgU h48 HM (Or.inl he)],R⟩
  ·obtain ⟨c0,h0,hc0⟩:=ZnD he
   have hs0:=ZjJ he
   refine Zab (xq 2 [(19, .v (.bool ((r:ByteArray).toList == (⟨#[]⟩:ByteArray).toList)))] [] ?_)
   rw [Zpe he]
   refine xq 2 [(20, .v (.bool false)),(21, .v (.string r))] [] ?_
   refine xqk 22 (.int .u8 (c0.toNat:Int)) (fun w R Q=>Zeg (t:=9) (x:=.tmp 21) (k:=0) (i:=.const (.int .i64 0)) (by kernel_rfl) (by kernel_rfl) (by kernel_rfl) (by rfl) hc0) ?_
   refine xq 3 [(25, .v (.bool (((c0.toNat:Int):Int) == 48)))] [] ?_
   rcases bl2 ((((c0.toNat:Int):Int) == 48)) with hb10 | hb10
   ·rw [hb10]
    have hb10':=beq_iff_eq.1 hb10
    refine xq 9 [(34, .v (.bool true))] [] ?_
    refine xe (Zaa (xa (Zac (Zab (xq 1 [(2, .v (.bool false))] [] ?_)))))
    refine xe (Zaa (Zaj (Zak ?_)))
    refine Zaf (v:=.bool false) (by kernel_rfl) (fun w' R Q=>?_)
    exact ⟨by rw [ZgU h48 HM (Or.inr (Or.inl (by rw [h0,show c0=48 from UInt8.toNat_inj.1 (by show c0.toNat=48; omega)])))],R⟩
   ·rw [hb10]
    have hb10':=ZbS hb10
    refine xq 5 [(30, .v (.bool (decide (x < (-1048576)))))] [] ?_
    rcases bl2 ((decide (x < (-1048576)))) with hb11 | hb11
    ·rw [hb11]
     have hb11':=of_decide_eq_true hb11
     refine xq 4 [(34, .v (.bool true))] [] ?_
     refine xe (Zaa (xa (Zac (Zab (xq 1 [(2, .v (.bool false))] [] ?_)))))
     refine xe (Zaa (Zaj (Zak ?_)))
     refine Zaf (v:=.bool false) (by kernel_rfl) (fun w' R Q=>?_)
     exact ⟨by rw [ZgU h48 HM (Or.inr (Or.inr (Or.inl (by rintro ⟨h1,h2⟩; omega))))],R⟩
    ·rw [hb11]
     have hb11':=of_decide_eq_false hb11
     refine xq 4 [(34, .v (.bool (decide (x > 1048576))))] [] ?_
     refine xe (Zaa ?_)
     refine ZaA ((decide (x > 1048576))) (by kernel_rfl) (fun hb12=>?_) (fun hb12=>?_)
     ·have hb12':=of_decide_eq_true hb12
      refine Zac (Zab (xq 1 [(2, .v (.bool false))] [] ?_))
      refine xe (Zaa (Zaj (Zak ?_)))
      refine Zaf (v:=.bool false) (by kernel_rfl) (fun w' R Q=>?_)
      exact ⟨by rw [ZgU h48 HM (Or.inr (Or.inr (Or.inl (by rintro ⟨h1,h2⟩; omega))))],R⟩
     ·have hb12':=of_decide_eq_false hb12
      refine Zap (Zaa (Zac (Zac (Zab (xq 3 [(36, .v (.int .i64 ((r).size:Int))),(37, .v (.int .i64 0))] [] ?_)))))
      refine xe (Zaa (ZaO ?_))
      refine SXc.weak [(2, .v (.bool false)),(4, .v (.string r)),(36, .v (.int .i64 ((r).size:Int))),(37, .v (.int .i64 ((0:Nat):Int)))] [] (Ψ:=fun w=>True) (ZaG.of (by kernel_rfl)) (by kernel_rfl) (fun w Q=>trivial) ?_
      refine ZbR (fun nn ss ff=>∃ (k:Nat),ss=ofL [(2, .v (.bool false)),(4, .v (.string r)),(36, .v (.int .i64 ((r).size:Int))),(37, .v (.int .i64 ((k:Nat):Int)))] []∧ff=(fun w=>True)∧(k≤r.size)∧(((bytes r).take k).all Zat=true)∧nn=(r.size - k)) ((r.size - 0)) ⟨0,rfl,rfl,(Nat.zero_le _),rfl,rfl⟩ ?_
      rintro nn ss ff ⟨k,rfl,rfl,hk,HD,rfl⟩
      refine Zac (Zab (xq 1 [(38, .v (.bool (decide (((k:Nat):Int) < ((r).size:Int)))))] [] ?_))
      refine xe (Zaa (Zac ?_))
      refine ZaA ((decide (((k:Nat):Int) < ((r).size:Int)))) (by kernel_rfl) (fun hb13=>?_) (fun hb13=>?_)
      ·have hb13':=of_decide_eq_true hb13
       have hlt:k < r.size:=by omega
       obtain ⟨c,hc⟩:∃ c,r[k]? = some c:=⟨r[k],by simp [hlt]⟩
       refine Zap (Zaa (Zac (ZaO (Zac (Zab (xq 2 [(5, .v (.int .i64 ((k:Nat):Int)))] [] ?_))))))
       refine xe (Zaa (Zac (Zab (xq 2 [(40, .v (.string r)),(41, .v (.int .i64 ((k:Nat):Int)))] [] ?_))))
       refine xqk 42 (.int .u8 (c.toNat:Int)) (fun w R Q=>Zeg (t:=9) (x:=.tmp 40) (k:=k) (i:=.tmp 41) (by kernel_rfl) (by kernel_rfl) (by kernel_rfl) (by kernel_rfl) hc) ?_
       refine xq 2 [(44, .v (.bool (decide ((c.toNat:Int) < 48))))] [] ?_
       rcases bl2 ((decide ((c.toNat:Int) < 48))) with hb14 | hb14
       ·rw [hb14]
        have hb14':=of_decide_eq_true hb14
        refine xq 5 [(49, .v (.bool true))] [] ?_
        refine xe (Zaa (xa (Zac (Zab (xq 1 [(2, .v (.bool false))] [] ?_)))))
        refine xe (Zaa (Zaj (Zbv (Zak (Zak (Zbv (Zak ?_)))))))
        refine Zaf (v:=.bool false) (by kernel_rfl) (fun w' R Q=>?_)
        exact ⟨by rw [ZgU h48 HM (Or.inr (Or.inr (Or.inr (Zpp hc (by omega)))))],R⟩
       ·rw [hb14]
        have hb14':=of_decide_eq_false hb14
        refine xq 2 [(45, .v (.string r)),(46, .v (.int .i64 ((k:Nat):Int)))] [] ?_
        refine xqk 47 (.int .u8 (c.toNat:Int)) (fun w R Q=>Zeg (t:=9) (x:=.tmp 45) (k:=k) (i:=.tmp 46) (by kernel_rfl) (by kernel_rfl) (by kernel_rfl) (by kernel_rfl) hc) ?_
        refine xq 2 [(49, .v (.bool (decide ((c.toNat:Int) > 57))))] [] ?_
        refine xe (Zaa ?_)
        refine ZaA ((decide ((c.toNat:Int) > 57))) (by kernel_rfl) (fun hb15=>?_) (fun hb15=>?_)
        ·have hb15':=of_decide_eq_true hb15
         refine Zac (Zab (xq 1 [(2, .v (.bool false))] [] ?_))
         refine xe (Zaa (Zaj (Zbv (Zak (Zak (Zbv (Zak ?_)))))))
         refine Zaf (v:=.bool false) (by kernel_rfl) (fun w' R Q=>?_)
         exact ⟨by rw [ZgU h48 HM (Or.inr (Or.inr (Or.inr (Zpp hc (by omega)))))],R⟩
        ·have hb15':=of_decide_eq_false hb15
         refine Zap (ZbK (Zaa (Zab (xq 1 [(50, .v (.int .i64 (IntKind.i64.wrap (((k:Nat):Int) + 1))))] [] ?_))))
         rw [show IntKind.i64.wrap (((k:Nat):Int) + 1)=((k + 1:Nat):Int) from by rw [IntKind.wrap_i64]; omega]
         refine xq 1 [(37, .v (.int .i64 ((k + 1:Nat):Int)))] [] ?_
         refine xe ?_
         refine SXq.weak [(2, .v (.bool false)),(4, .v (.string r)),(36, .v (.int .i64 ((r).size:Int))),(37, .v (.int .i64 (((k + 1):Nat):Int)))] [] (Ψ:=fun w=>True) (ZaG.of (by kernel_rfl)) (by kernel_rfl) (fun w Q=>trivial) ?_
         exact Zbc ((r.size - (k + 1))) (by omega) ⟨(k + 1),rfl,rfl,hlt,(ZsI HD hc (by omega) (by omega)),rfl⟩
      ·have hb13':=of_decide_eq_false hb13
       have hall:(bytes r).all Zat=true:=by have h:=HD; rw [List.take_of_length_le (by rw [Zao]; omega)] at h; exact h
       refine Zbp (Zax (Zax (ZbA (Zaa (Zac ?_)))))
       obtain ⟨k1,hk1⟩:∃ k1,r.size=k1 + 1:=⟨r.size - 1,by omega⟩
       obtain ⟨c,hc⟩:∃ c,r[k1]? = some c:=⟨r[k1],by simp [hk1]⟩
       refine Zab (xq 4 [(51, .v (.string r)),(54, .v (.int .i64 (IntKind.i64.wrap (((r).size:Int) - 1))))] [] ?_)
       rw [show IntKind.i64.wrap ((r.size:Int) - 1)=((k1:Nat):Int) from by rw [IntKind.wrap_i64]; omega]
       refine xqk 55 (.int .u8 (c.toNat:Int)) (fun w R Q=>Zeg (t:=9) (x:=.tmp 51) (k:=k1) (i:=.tmp 54) (by kernel_rfl) (by kernel_rfl) (by kernel_rfl) (by kernel_rfl) hc) ?_
       refine xqk 56 (.int .u8 ((c.toNat % 2:Nat):Int)) (fun w R Q=>ZsJ (t:=5) (k:=5) (x:=.tmp 55) (y:=.const (.int .u8 1)) (by kernel_rfl) (by kernel_rfl) (by kernel_rfl)) ?_
       refine xq 2 [(2, .v (.bool ((((c.toNat % 2:Nat):Int):Int) == 1)))] [] ?_
       refine xe (Zaa (Zaj ?_))
       refine Zaf (v:=.bool ((((c.toNat % 2:Nat):Int):Int) == 1)) (by kernel_rfl) (fun w' R Q=>?_)
       exact ⟨by rw [ZtQ h48 HM hc0 (by omega) (by omega) (by omega) hall hk1 hc],R⟩
theorem Zjo (b:Int) (w:World) :
 Calls Tryz.prog 55 #[.int .i64 b] w (RetV w (.bool (decide (8≤b∧b≤1024)))):=by
 refine Zaz (Φ:=fun w=>True) Tryz.func55 rfl (by kernel_rfl) (fun w' hf=>trivial) ?_
 refine Zac (Zab (xq 1 [(2, .v (.bool false))] [] ?_))
 refine xe (Zaa (Zac (Zab (xq 3 [(5, .v (.bool (decide (b ≥ 8))))] [] ?_))))
 rcases bl2 ((decide (b ≥ 8))) with hb10 | hb10
 ·rw [hb10]
  have hb10':=of_decide_eq_true hb10
  refine xq 4 [(2, .v (.bool (decide (b≤1024))))] [] ?_
  refine xe (Zaa (Zaj ?_))
  refine Zaf (v:=.bool (decide (b≤1024))) (by kernel_rfl) (fun w' R Q=>?_)
  exact ⟨congrArg (fun b=>Ending.returned (Value.bool b)) (decide_eq_decide.2 ⟨fun h=>⟨by omega,h⟩,fun h=>h.2⟩),R⟩
 ·rw [hb10]
  have hb10':=of_decide_eq_false hb10
  refine xq 4 [(2, .v (.bool false))] [] ?_
  refine xe (Zaa (Zaj ?_))
  refine Zaf (v:=.bool false) (by kernel_rfl) (fun w' R Q=>?_)
  exact ⟨by rw [decide_eq_false (p:=8≤b∧b≤1024) (by omega)],R⟩
end Go.Proofs.YtklpdkpcocnglaaGreatDoor
