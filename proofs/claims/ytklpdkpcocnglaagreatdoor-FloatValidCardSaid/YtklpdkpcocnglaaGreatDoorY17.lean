/-
 My texts Fnd, FlS, FlN, Nu, Nq, Nv, Nad, RStr, Frac, Rt, FlT, Reduce, Whole, Ra, Reduce2, Ts, Fs, Cmp, Tx, Dc, Len, Vl, PaM, Pa, Px, Gq, Nf, Nt, Nd, Len2, Nrd, RdK, Nm, Pt put together.
-/
import Derived.Test.YtklpdkpcocnglaaGreatDoorY16
import Derived.Test.YtklpdkpcocnglaaGreatDoorY07
import Derived.Test.YtklpdkpcocnglaaGreatDoorY15
import Derived.Test.YtklpdkpcocnglaaGreatDoorY02
import Derived.Lib.Bytealg
set_option maxRecDepth 100000
namespace Go.Proofs.YtklpdkpcocnglaaGreatDoor
open Go.RowKit
noncomputable def wds (n:Nat):List Nat:=if _h:n=0 then [] else (n % W64) :: wds (n / W64)
termination_by n
decreasing_by exact Nat.div_lt_self (by omega) Zc1
theorem Zdl:∀ n,Dig W64 (wds n)∧val W64 (wds n)=n:=by
 intro n
 induction n using Nat.strongRecOn with
 | ind n ih =>
   rw [wds]
   split
   ·rename_i h; exact ⟨Dig.nil,by simp [h]⟩
   ·rename_i h
    obtain ⟨h1,h2⟩:=ih (n / W64) (Nat.div_lt_self (by omega) Zc1)
    exact ⟨h1.cons (Nat.mod_lt _ Zan),by rw [Zcr,h2]; exact Nat.mod_add_div _ _⟩
theorem ZjH:∀ n,Trim (wds n):=by
 intro n
 induction n using Nat.strongRecOn with
 | ind n ih =>
   rw [wds]
   split
   ·exact Trim.nil
   ·rename_i h
    have h1:=ih (n / W64) (Nat.div_lt_self (by omega) Zc1)
    intro k hk
    rcases Nat.eq_zero_or_pos (n / W64) with e | e
    ·rw [e,wds,dif_pos rfl] at hk ⊢
     simp at hk
     subst hk
     have:=Nat.mod_add_div n W64
     rw [e] at this
     simp; omega
    ·obtain ⟨m,rfl⟩:∃ m,k=m + 1:=⟨k - 1,by
      have:wds (n / W64)≠[]:=fun e'=>by have:=(Zdl (n / W64)).2; rw [e'] at this; simp at this; omega
      have:=List.length_pos_iff.2 this
      simp at hk; omega⟩
     have:=h1 m (by simpa using hk)
     simpa using this
theorem Zq8 {xs:List Nat} {n:Nat} (hd:Dig W64 xs) (ht:Trim xs) (hv:val W64 xs=n):xs=wds n:=ZmJ Zc1 hd (Zdl n).1 ht (ZjH n) (hv.trans (Zdl n).2.symm)
theorem Zo0 (n:Nat):(wds n).length=wl n:=by rw [ZaH (Zdl n).1 (ZjH n),(Zdl n).2]
theorem Zak.shows {w:World} {A:Option Addr} {l c n:Nat} (h:Zak w (.slice A l c) n):Zag .u64 w A (wds n):=by
 obtain ⟨A',xs,c',e,h1,h2,h3,h4,h5⟩:=h
 injection e with e1 e2 e3
 subst e1
 rw [← Zq8 h3 h4 h5]; exact h2
theorem Zak.lens {w:World} {A:Option Addr} {l c n:Nat} (h:Zak w (.slice A l c) n):l=(wds n).length∧(wds n).length≤c:=by
 obtain ⟨A',xs,c',e,h1,h2,h3,h4,h5⟩:=h
 injection e with e1 e2 e3
 subst e3
 rw [← Zq8 h3 h4 h5]; exact ⟨e2,h1⟩
theorem Zag.lt {k:IntKind} {w:World} {A:Option Addr} {xs:List Nat} (h:Zag k w A xs) (hne:0 < xs.length) {a:Addr} (ha:A=some a):a.block < w.heap.size:=by
 obtain ⟨b,o,e,hb,_⟩:=h.at hne
 rw [ha] at e; injection e with e; rw [e]; exact hb
/-! ### Clone -/
theorem Ztj (w:World) (a:Option Addr) (n c:Nat):(binOp .eql 77 (.slice a n c) (.slice none 0 0)).run Tryz.prog w=.ok (.bool a.isNone) w :=
 Lib.run_eql_slice_nil w 77 94 a n c 0 0 Tryz.underlying77
set_option maxHeartbeats 1000000 in
theorem ZpL (A:Option Addr) (xs:List Nat) (n c:Nat) (w:World) (hn:xs.length=n) (hX:Zag .u64 w A xs) (hl:n≤4294967296) :
 Calls Tryz.prog 107 #[.slice A n c] w (ZmM w xs):=by
 have HX:=zh hX
 have HN:=zh hn
 clear hX hn
 have hnil:=Ztj
 cases A with
 | none =>
   have h0:Hid (xs=[]):=by
    rcases xs with _ | ⟨y,ys⟩
    ·rfl
    ·obtain ⟨b,off,h,_⟩:=HX.out (by simp); cases h
   go_enter Tryz.func107,Tryz.ntmps107
   go_wp2
   go_ret
   rw [h0.out]
   exact ⟨none,0,rfl,Buf.nil,Fr.refl _ _,fun b hb=>by obtain ⟨a,ha,_⟩:=hb; cases ha⟩
 | some ad =>
   go_enter Tryz.func107,Tryz.ntmps107
   go_wp2_with (at_builtin
                refine Za4 rfl _ _ _ rfl _ .u64 8 Tryz.underlying77 Zdn (some ⟨w.heap.size,0,none⟩) (some ad) 0 n 0 c rfl rfl [] xs rfl HN.out ?_ (HX.out.alloc _) (by simp only [maxLen]; omega) (by omega) ?_
                ·exact Or.inr ⟨_,rfl,Own.new w _ _ [] [],⟨#[],heap_alloc_new w _,rfl⟩,Nat.le_refl _,by simp only [maxLen]; omega⟩
                intro A1 cap1 w1 hB1 hF1 hA1
                have HB1:=zh hB1
                have HF1:=zh hF1
                have HA1:=zh hA1
                clear hB1 hF1 hA1)
   go_ret
   refine ⟨A1,cap1,?_,by simpa using HB1.out,?_,?_⟩
   ·rw [HN.out]; simp
   ·refine ((Fr.refl (fun _=>False) w).alloc _).next HF1.out (fun i hi hb=>?_)
    obtain ⟨a,ha,hb⟩:=hb
    injection ha with ha
    subst ha
    simp at hb; omega
   ·intro b hb
    rcases HA1.out b hb with ⟨a,ha,h⟩ | h
    ·injection ha with ha; subst ha; simp at h; omega
    ·simp at h; omega
theorem ZkB (A:Option Addr) (xs:List Nat) (c:Nat) (w:World) (hX:Zag .u64 w A xs) (hl:xs.length≤4294967296) (h0:0 < xs.length) :
 Calls Tryz.prog 107 #[.slice A xs.length c] w (fun en w'=>∃ b c,en=.returned (.slice (some ⟨b,0,none⟩) xs.length c)∧w.heap.size≤b∧xs.length≤c∧Ext w w'∧Own .u64 94 w' b xs):=by
 refine (ZpL A xs xs.length c w rfl hX hl).mono ?_
 rintro e w' ⟨A1,cap,rfl,hB,Q,hb⟩
 rcases hB with ⟨_,h,_⟩ | ⟨b,rfl,hO,_,hc,_⟩
 ·rw [h] at h0; simp at h0
 ·exact ⟨b,cap,rfl,hb b ⟨_,rfl,rfl⟩,hc,Q,hO⟩
/-! ### compare,of numbers -/
/-! ### the long division -/
def OvR (N V n L k:Nat) (zs qs:List Nat):Prop:=zs.length=n∧Dig W64 zs∧qs.length=L∧Dig W64 qs∧val W64 zs + V * (W64 ^ k * val W64 (qs.drop k))=N∧val W64 zs < V * W64 ^ k
theorem OvR.start {N V n L:Nat} {zs:List Nat} (hn:zs.length=n) (hd:Dig W64 zs) (hv:val W64 zs=N) (hlt:N < V * W64 ^ L):OvR N V n L L zs (List.replicate L 0) :=
 ⟨hn,hd,by simp,Dig.replicate Zan _,by rw [List.drop_of_length_le (by simp)]; simpa using hv,by rw [hv]; exact hlt⟩
theorem Zsg {o n:Nat} {zs:List Nat} (ho:o + n + 1≤zs.length) (h:val W64 zs < W64 ^ (o + n + 1)):val W64 zs=val W64 (zs.take o) + W64 ^ o * win o n zs∧val W64 (zs.drop (o + n + 1))=0:=by
 have h1:=ZaI (B:=W64) (xs:=zs) (o + n + 1)
 rw [Nat.min_eq_left ho] at h1
 have h2:val W64 (zs.drop (o + n + 1))=0:=by
  refine Nat.eq_zero_of_not_pos fun h3=>?_
  have:=Nat.mul_le_mul_left (W64 ^ (o + n + 1)) h3
  omega
 rw [h2,Nat.mul_zero,Nat.add_zero,ZeZ (by omega)] at h1
 exact ⟨h1,h2⟩
theorem OvR.ready {N V n L j m:Nat} {zs qs:List Nat} (h:OvR N V n L (j + 1) zs qs) (hV:V < W64 ^ m) (hj:j + m + 1≤n):val W64 zs=val W64 (zs.take j) + W64 ^ j * win j m zs∧val W64 (zs.drop (j + m + 1))=0∧win j m zs < W64 * V:=by
 obtain ⟨h1,h2,h3,h4,h5,h6⟩:=h
 have hb:val W64 zs < W64 ^ (j + m + 1):=by
  refine Nat.lt_of_lt_of_le h6 ?_
  rw [show j + m + 1=m + (j + 1) by omega,Nat.pow_add W64 m]
  exact Nat.mul_le_mul_right _ (Nat.le_of_lt hV)
 obtain ⟨k1,k2⟩:=Zsg (by omega) hb
 refine ⟨k1,k2,?_⟩
 have:W64 ^ j * win j m zs < W64 ^ j * (W64 * V):=by
  have e:V * W64 ^ (j + 1)=W64 ^ j * (W64 * V):=by rw [Nat.pow_succ,Nat.mul_comm V,Nat.mul_assoc]
  omega
 exact Nat.lt_of_mul_lt_mul_left this
theorem OvR.step {N V n L j m:Nat} {zs qs zs':List Nat} (h:OvR N V n L (j + 1) zs qs) (hV:V < W64 ^ m) (hV0:0 < V) (hj:j + m + 1≤n) (hjL:j < L) (hW:WinR j m zs zs') (hw:win j m zs'=win j m zs % V) :
 OvR N V n L j zs' (qs.set j (win j m zs / V)):=by
 obtain ⟨k1,k2,k3⟩:=h.ready hV hj
 obtain ⟨h1,h2,h3,h4,h5,h6⟩:=h
 obtain ⟨w1,w2,w3,w4⟩:=hW
 have hq:win j m zs / V < W64:=by rw [Nat.div_lt_iff_lt_mul hV0]; exact k3
 have v1:=ZaI (B:=W64) (xs:=zs') (j + m + 1)
 rw [w4,k2,Nat.mul_zero,Nat.add_zero,ZeZ (by omega),w3,hw] at v1
 have hdm:=Nat.div_add_mod (win j m zs) V
 have e1:W64 ^ j * win j m zs=V * (W64 ^ j * (win j m zs / V)) + W64 ^ j * (win j m zs % V):=by
  conv=>lhs; rw [← hdm]
  rw [Nat.mul_add,Nat.mul_left_comm]
 refine ⟨w1.trans h1,w2,by simpa using h3,h4.set j hq,?_,?_⟩
 ·have e2:(qs.set j (win j m zs / V))[j]?.getD 0=win j m zs / V:=by rw [List.getElem?_set_self (by omega)]; rfl
  rw [ZaJ j (by simp; omega),e2,List.drop_set_of_lt (by omega),v1]
  rw [Nat.pow_succ] at h5
  have e3:V * (W64 ^ j * (win j m zs / V + W64 * val W64 (qs.drop (j + 1))))=V * (W64 ^ j * (win j m zs / V)) + V * (W64 ^ j * W64 * val W64 (qs.drop (j + 1))):=by
   rw [Nat.mul_add (W64 ^ j),Nat.mul_add V,Nat.mul_assoc (W64 ^ j)]
  omega
 ·rw [v1]
  have b1:=ZaN (h2.take j)
  rw [List.length_take,Nat.min_eq_left (by omega)] at b1
  have b2:=Nat.mul_le_mul_left (W64 ^ j) (Nat.mod_lt (win j m zs) hV0)
  rw [Nat.mul_succ] at b2
  rw [Nat.mul_comm V]
  omega
theorem OvR.done {N V n L:Nat} {zs qs:List Nat} (h:OvR N V n L 0 zs qs) (hV:0 < V):val W64 qs=N / V∧val W64 zs=N % V:=by
 obtain ⟨h1,h2,h3,h4,h5,h6⟩:=h
 rw [Nat.pow_zero,Nat.mul_one] at h6
 rw [Nat.pow_zero,Nat.one_mul,List.drop_zero] at h5
 rw [← h5]
 rw [Nat.add_mul_div_left _ _ hV,Nat.div_eq_of_lt h6,Nat.add_mul_mod_self_left,Nat.mod_eq_of_lt h6]
 exact ⟨by omega,rfl⟩
theorem Zt0 {ys:List Nat} {k t:Nat} (hd:Dig W64 ys) (hl:ys.length=k + 1) (ht:Trim ys) (et:ys[k]?.getD 0=t):wl (val W64 ys * 2 ^ (64 - blen t))=ys.length:=by
 have h0:0 < t:=Nat.pos_of_ne_zero (by rw [← et]; exact ht k hl)
 have hb:=Zjk hd hl ht et
 have htW:t < 2 ^ 64:=by have:=et ▸ hd.getD Zan k; rw [Zal] at this; exact this
 have hb2:=ZbH.2 htW
 have hv0:0 < val W64 ys:=by have:=Zas (B:=W64) k (show k < ys.length by omega); rw [List.take_of_length_le (by omega),et] at this; have:=Nat.mul_le_mul_left (W64 ^ k) h0; have:=Nat.pow_pos (n:=k) Zan; omega
 have hb3:blen (val W64 ys * 2 ^ (64 - blen t))=64 * (k + 1):=by rw [Zgp hv0,hb]; omega
 have h1:wl (val W64 ys * 2 ^ (64 - blen t))≤k + 1:=Zb1.2 (by rw [ZdZ]; exact ZbH.1 (by omega))
 have h2:¬ wl (val W64 ys * 2 ^ (64 - blen t))≤k:=fun h=>by
  have:=Zb1.1 h
  rw [ZdZ] at this
  have:=ZbH.2 this
  omega
 omega
theorem Zur {xs ys:List Nat} {s:Nat} (hd:Dig W64 xs) (ht:Trim ys) (h0:0 < ys.length) (hl:ys.length≤xs.length):val W64 xs * 2 ^ s < val W64 ys * 2 ^ s * W64 ^ (xs.length - ys.length + 1):=by
 obtain ⟨k,hk⟩:∃ k,ys.length=k + 1:=⟨ys.length - 1,by omega⟩
 have h1:=ZaN hd
 have h2:=ZhQ (B:=W64) ht hk
 have h3:W64 ^ xs.length≤val W64 ys * W64 ^ (xs.length - ys.length + 1):=by
  rw [show xs.length=k + (xs.length - ys.length + 1) by omega,Nat.pow_add]
  rw [show k + (xs.length - ys.length + 1) - ys.length + 1=xs.length - ys.length + 1 by omega]
  exact Nat.mul_le_mul_right _ h2
 rw [Nat.mul_right_comm]
 exact (Nat.mul_lt_mul_right (p2 s)).2 (Nat.lt_of_lt_of_le h1 h3)
theorem Zsh {ws:List Nat} {n:Nat} (hd:Dig W64 ws) (hl:ws.length≤n):let zs:=ws.take n ++ (List.replicate n 0).drop ws.length; zs.length=n∧Dig W64 zs∧val W64 zs=val W64 ws:=by
 intro zs
 have e:zs=ws ++ List.replicate (n - ws.length) 0:=by show ws.take n ++ (List.replicate n 0).drop ws.length=_; rw [List.take_of_length_le hl,List.drop_replicate]
 rw [e]
 exact ⟨by simp; omega,hd.append (Dig.replicate Zan _),by rw [Zbw,ZbK]; simp⟩
theorem Zt1 {xs:List Nat} {s:Nat} (hd:Dig W64 xs) (hs:s≤64):wl (val W64 xs * 2 ^ s)≤xs.length + 1:=Zb1.2 (by
 have h1:=ZaN hd
 rw [Nat.pow_succ]
 have h2:2 ^ s≤W64:=by rw [Zal]; exact Nat.pow_le_pow_right (n:=2) (by decide) hs
 exact Nat.lt_of_lt_of_le ((Nat.mul_lt_mul_right (p2 s)).2 h1) (Nat.mul_le_mul_left _ h2))
theorem Zt2 {x y s:Nat}:x * 2 ^ s % (y * 2 ^ s) / 2 ^ s=x % y:=by rw [Nat.mul_mod_mul_right,Nat.mul_div_cancel _ (p2 s)]
theorem Zt3 {x y s:Nat}:x * 2 ^ s / (y * 2 ^ s)=x / y:=Nat.mul_div_mul_right _ _ (p2 s)
theorem Zgs {b n c v:Nat} {xs:List Nat} {w:World} (hO:Own .u64 94 w b xs) (hd:Dig W64 xs) (hn:xs.length=n) (hv:val W64 xs=v) (hl:n≤1099511627776) (hc:n≤c):Calls Tryz.prog 106 #[.slice (some ⟨b,0,none⟩) n c] w (Zbg w v):=by
 subst hn hv
 refine (Zif _ xs _ w hO.shows0 hl hc).mono ?_
 rintro e w' ⟨rfl,Q⟩
 exact ⟨_,rfl,(Zak.of_own hO hd hc).ext Q,Q⟩
theorem Ztk {ys:List Nat} {y:Nat} (h:ys.length=1) (e:ys[0]?.getD 0=y):val W64 ys=y:=by
 obtain ⟨z,rfl⟩:=List.length_eq_one_iff.1 h
 simp at e
 simp [e]
theorem Blk.own1 {w:World} {b r:Nat} (h:Blk 94 w b #[.int .u64 ((r:Nat):Int)]):Own .u64 94 w b [r]:=⟨[],by simp,h⟩
/-! ### of numbers -/
section
variable {u v:Value} {m n:Nat} {w:World}
theorem Zin (hu:Zak w u m) (hv:Zak w v n) (hm:wl m≤4294967296) (hn:wl n≤4294967296):Calls Tryz.prog 126 #[u,v] w (Zbg w (m + n)):=by
 obtain ⟨A,xs,c,rfl,hc,h1,h2,h3,rfl⟩:=hu
 obtain ⟨A2,ys,c2,rfl,hc2,k1,k2,k3,rfl⟩:=hv
 rw [← ZaH h2 h3] at hm
 rw [← ZaH k2 k3] at hn
 exact ZqT A A2 xs ys c c2 w h1 k1 hm hn h2 k2
theorem Zc7 (k:Nat) (hu:Zak w u m) (hm:wl m≤4294967296) (hk:k≤274877906944):Calls Tryz.prog 66 #[u, .int .i64 ((k:Nat):Int)] w (Zbg w (m * 2 ^ k)):=by
 have hu':=hu
 obtain ⟨A,xs,c,rfl,hc,h1,h2,h3,rfl⟩:=hu
 rw [← ZaH h2 h3] at hm
 exact Zs7 A xs c k w hu' h1 hm h2 hk
theorem Zio (k:Nat) (hu:Zak w u m) (hm:wl m≤4294967296) (hk:k≤274877906944):Calls Tryz.prog 128 #[u, .int .i64 ((k:Nat):Int)] w (Zbg w (m / 2 ^ k)):=by
 have hu':=hu
 obtain ⟨A,xs,c,rfl,hc,h1,h2,h3,rfl⟩:=hu
 rw [← ZaH h2 h3] at hm
 exact ZqU A xs c k w hu' h1 hm h2 hk
theorem ZcY (hu:Zak w u m) (hm:wl m≤4294967296):Calls Tryz.prog 65 #[u] w (RetV w (.int .i64 ((blen m:Nat):Int))):=by
 obtain ⟨A,xs,c,rfl,hc,h1,h2,h3,rfl⟩:=hu
 rw [← ZaH h2 h3] at hm
 exact Zok A xs c w h1 hm h2 h3
theorem ZkC (hg:Glob w) (hu:Zak w u m) (hm:wl m≤4294967296) (h0:0 < m):Calls Tryz.prog 157 #[u] w (RetV w (.int .i64 ((tzn m:Nat):Int))):=by
 obtain ⟨A,xs,c,rfl,hc,h1,h2,h3,rfl⟩:=hu
 rw [← ZaH h2 h3] at hm
 exact ZpK A xs c w h1 hm h2 hg h0
theorem Znq (i:Nat) (hu:Zak w u m) (hi:i≤274877906944):Calls Tryz.prog 158 #[u, .int .i64 ((i:Nat):Int)] w (RetV w (.bool (decide (m / 2 ^ i % 2=1)))):=by
 obtain ⟨A,xs,c,rfl,hc,h1,h2,h3,rfl⟩:=hu
 exact Zse A xs c w h1 h2 i hi
theorem Zf5 (hu:Zak w u m) (hv:Zak w v n) (hm:wl m≤4294967296):Calls Tryz.prog 122 #[u,v] w (RetV w (.int .i64 (cmpI ((m:Nat):Int) ((n:Nat):Int)))):=by
 obtain ⟨A,xs,c,rfl,hc,h1,h2,h3,rfl⟩:=hu
 obtain ⟨A2,ys,c2,rfl,hc2,k1,k2,k3,rfl⟩:=hv
 rw [← ZaH h2 h3] at hm
 exact Znn A A2 xs ys c c2 w h1 k1 hm h2 k2 h3 k3
end
theorem Zq9 (A A2:Option Addr) (xs ys:List Nat) (c c2:Nat) (w:World) (hX:Zag .u64 w A xs) (hY:Zag .u64 w A2 ys) (hl:xs.length≤4294967295) (hl2:ys.length≤4294967296) (hx:Dig W64 xs) (hy:Dig W64 ys) (hN:Zak w (.slice A xs.length c) (val W64 xs)) (hM:Zak w (.slice A2 ys.length c2) (val W64 ys)) (tx:Trim xs) (ty:Trim ys) (hy0:0 < val W64 ys) :
 Calls Tryz.prog 142 #[.slice A xs.length c, .slice A2 ys.length c2] w (Zf1 w (val W64 xs / val W64 ys) (val W64 xs % val W64 ys)):=by
 have hw:wl (val W64 xs)≤4294967296:=by rw [← ZaH hx tx]; omega
 have hwy:wl (val W64 ys)≤4294967296:=by rw [← ZaH hy ty]; exact hl2
 refine Zay (Φ:=fun w=>(((Zak w (.slice A xs.length c) (val W64 xs)∧Zag .u64 w A xs)∧Zak w (.slice A2 ys.length c2) (val W64 ys))∧Zag .u64 w A2 ys)) Tryz.func142 rfl (by kernel_rfl) (fun w' hf=>⟨⟨⟨hN.ext hf,hX.ext hf⟩,hM.ext hf⟩,hY.ext hf⟩) ?_
 refine Zac (Zab (xq 2 [eS1 4 none 0 0,eS1 5 none 0 0] [] ?_))
 refine xe (Zaa (Zac (Zac (Zab (xq 2 [eS1 13 A xs.length c,eS1 14 A2 ys.length c2] [] ?_)))))
 refine xqc 122 [.slice A xs.length c, .slice A2 ys.length c2] 15 (fun _:Unit=>.int .i64 (cmpI ((val W64 xs:Nat):Int) ((val W64 ys:Nat):Int))) _ (fun w R Q=>(Zf5 Q.1.1.1 Q.1.2 hw).mono (fun _ _ h=>Zad h rfl)) (fun xx=>?_)
 refine xq 1 [(16, .v (.bool (decide ((cmpI ((val W64 xs:Nat):Int) ((val W64 ys:Nat):Int)) < 0))))] [] ?_
 refine xe (Zaa ?_)
 refine ZaA ((decide ((cmpI ((val W64 xs:Nat):Int) ((val W64 ys:Nat):Int)) < 0))) (by kernel_rfl) (fun hb10=>?_) (fun hb10=>?_)
 ·have hlt0:=Zdi.1 (of_decide_eq_true hb10)
  refine Zac (Zab (xq 3 [eS1 4 none 0 0,eS1 5 A xs.length c] [] ?_))
  refine xe (Zaa (Zai (Zah ?_)))
  refine Zaf (v:=.tuple #[.slice none 0 0, .slice A xs.length c]) (by kernel_rfl) (fun w' R Q=>?_)
  exact ⟨_,_,rfl,by rw [Nat.div_eq_of_lt hlt0]; exact Zak.zero _,by rw [Nat.mod_eq_of_lt hlt0]; exact Q.1.1.1.1,R⟩
 ·have hge:val W64 ys≤val W64 xs:=Nat.le_of_not_lt (fun h'=>of_decide_eq_false hb10 (Zdi.2 h'))
  have hll:ys.length≤xs.length:=by have:=Zcl hge; rwa [← ZaH hy ty,← ZaH hx tx] at this
  have hy1:0 < ys.length:=List.length_pos_iff.2 (fun e=>by rw [e] at hy0; simp at hy0)
  refine Zaq (Zaa (Zac (Zac (Zab (xq 3 [(20, .v (.bool ((((ys.length:Nat):Int):Int) == 1)))] [] ?_)))))
  refine xe (Zaa ?_)
  refine ZaA (((((ys.length:Nat):Int):Int) == 1)) (by kernel_rfl) (fun hb11=>?_) (fun hb11=>?_)
  ·have hb11':=beq_iff_eq.1 hb11
   refine Zac (Zab (xq 1 [eS1 21 A xs.length c] [] ?_))
   refine Zr0 107 [.slice A xs.length c] (d:=22) (k:=.u64) (e:=94) xs (fun w R Q=>ZkB A xs c w Q.1.1.1.2 (by omega) (by omega)) (fun r12 cc hr12 hcap _=>?_)
   refine xr 1 [eS1 0 A xs.length c,eS1 1 A2 ys.length c2,eS1 4 none 0 0,eS1 5 none 0 0,eS1 6 (some ⟨r12,0,none⟩) xs.length cc] [] ?_
   refine xe (Zaa (Zac (Zab (xq 2 [eS1 23 (some ⟨r12,0,none⟩) xs.length cc,eS1 24 A2 ys.length c2] [] ?_))))
   refine xqk 25 (atA A2 0) (fun w R Q=>Zba (t:=77) (e:=94) (x:=(Operand.tmp 24)) (ix:=(Operand.const (Value.int IntKind.i64 0))) (len:=ys.length) (cap:=c2) (i:=0) (((Q.1).self.1.2).ne (j:=0) (by omega)) (by omega)) ?_
   obtain ⟨x13,hx13⟩:∃ x,ys[0]?.getD 0=x:=⟨_,rfl⟩
   refine xqk 26 (.int .u64 ((x13:Nat):Int)) (fun w R Q=>by rw [← hx13]; exact Zbu (t:=94) (x:=(Operand.tmp 25)) ((Q.1).self.1.2) (j:=0) (by omega)) ?_
   have hv1:=Ztk (by omega) hx13
   refine Zhj (xs:=xs) (α:=List Nat) 108 [.slice (some ⟨r12,0,none⟩) xs.length cc, .int .u64 ((x13:Nat):Int)] (d:=27) (fun x=>.int .u64 ((val W64 xs % x13:Nat):Int)) (fun x=>x.length=xs.length∧Dig W64 x∧val W64 x=val W64 xs / x13) (fun x=>x) r12 (fun x w=>(Box (fun j=>r12≤j) w (fun w=>((((Zak w (.slice A xs.length c) (val W64 xs)∧Zag .u64 w A (xs))∧Zak w (.slice A2 ys.length c2) (val W64 ys))∧Zag .u64 w A2 (ys))∧True))∧Own .u64 94 w r12 (x))) (fun w Q=>Q.2) (by omega) (Or.inl hr12) (fun w R Q=>Zgr r12 _ _ _ _ Q.2 (by omega) hx (by omega) (by rw [← hx13]; exact hy.getD Zan _)) (fun x w w' hp Q hF hO=>⟨((Q.1).fr (hF.mono (fun _ _ e=>by rw [e]; exact Nat.le_refl _))),hO⟩) (fun x hx14=>?_)
   obtain ⟨qs14,rfl⟩:∃ y,y=x:=⟨_,rfl⟩
   refine xr 1 [eS1 0 A xs.length c,eS1 1 A2 ys.length c2,eS1 4 none 0 0,eS1 5 none 0 0,eS1 6 (some ⟨r12,0,none⟩) xs.length cc,(7, .v (.int .u64 ((val W64 xs % x13:Nat):Int)))] [] ?_
   refine xe (Zaa (Zac (Zab (xq 1 [eS1 28 (some ⟨r12,0,none⟩) xs.length cc] [] ?_))))
   refine xqc 106 [.slice (some ⟨r12,0,none⟩) xs.length cc] 29 Za3 _ (fun w R Q=>(Zgs Q.2 hx14.2.1 hx14.1 hx14.2.2 (by omega) (by omega)).mono (fun _ _=>Za5)) (fun xx=>?_)
   obtain ⟨A15,l15,c15⟩:=xx
   refine xq 1 [(30, .v (.int .u64 ((val W64 xs % x13:Nat):Int)))] [] ?_
   refine Zd2 (d:=31) (fun zb:Nat=>.slice (some ⟨zb,0,none⟩) 1 1) (fun zb zw=>Blk 94 zw zb #[.int .u64 ((val W64 xs % x13:Nat):Int)]) (by kernel_rfl) (by kernel_rfl) (by kernel_rfl) (by kernel_rfl) (by kernel_rfl) (by kernel_rfl) (fun w R Q=>Zcd (t:=77) (e:=94) (n:=1) (sz:=1) (z:=.int .u64 0) (parts:=#[(0,Operand.tmp 30)]) (by kernel_rfl) (by kernel_rfl) (by kernel_rfl) (by kernel_rfl) (by kernel_rfl) (by kernel_rfl)) (fun b16=>?_)
   refine xr 0 [eS1 0 A xs.length c,eS1 1 A2 ys.length c2,eS1 4 none 0 0,eS1 5 none 0 0,eS1 29 A15 l15 c15,eS1 31 (some ⟨b16,0,none⟩) 1 1] [] ?_
   refine xqc 106 [.slice (some ⟨b16,0,none⟩) 1 1] 32 Za3 _ (fun w R Q=>(Zgs (Q.2).own1 (Dig.nil.cons (Nat.lt_trans (Nat.mod_lt _ (by omega)) (by rw [← hx13]; exact hy.getD Zan _))) (show [val W64 xs % x13].length=1 from rfl) (show val W64 [val W64 xs % x13]=val W64 xs % x13 by simp) (by omega) (by omega)).mono (fun _ _=>Za5)) (fun xx=>?_)
   obtain ⟨A17,l17,c17⟩:=xx
   refine xq 2 [eS1 4 A15 l15 c15,eS1 5 A17 l17 c17] [] ?_
   refine xe (Zaa (Zai (Zah ?_)))
   refine Zaf (v:=.tuple #[.slice A15 l15 c15, .slice A17 l17 c17]) (by kernel_rfl) (fun w' R Q=>?_)
   exact ⟨_,_,rfl,by rw [hv1]; exact Q.1.1.2,by rw [hv1]; exact Q.2,R⟩
  ·have hb11':=ZbP hb11
   refine Zaq (Zaa (Zac (Zab (xq 4 [eS1 33 A2 ys.length c2,(36, .v (.int .i64 (IntKind.i64.wrap (((ys.length:Nat):Int) - 1))))] [] ?_))))
   rw [show IntKind.i64.wrap ((((ys.length:Nat):Int) - 1))=((ys.length - 1:Nat):Int) from by rw [IntKind.wrap_i64]; omega]
   refine xqk 37 (atA A2 (ys.length - 1)) (fun w R Q=>Zba (t:=77) (e:=94) (x:=(Operand.tmp 33)) (ix:=(Operand.tmp 36)) (len:=ys.length) (cap:=c2) (i:=ys.length - 1) ((Q.1.2).ne (j:=ys.length - 1) (by omega)) (by omega)) ?_
   obtain ⟨x18,hx18⟩:∃ x,ys[ys.length - 1]?.getD 0=x:=⟨_,rfl⟩
   refine xqk 38 (.int .u64 ((x18:Nat):Int)) (fun w R Q=>by rw [← hx18]; exact Zbu (t:=94) (x:=(Operand.tmp 37)) (Q.1.2) (j:=ys.length - 1) (by omega)) ?_
   obtain ⟨t,rfl⟩:∃ t,t=x18:=⟨_,rfl⟩
   refine xqc 174 [.int .u64 ((t:Nat):Int)] 39 (fun _:Unit=>.int .i64 ((64 - blen t:Nat):Int)) _ (fun w R Q=>(ZpJ t _ (by rw [← hx18]; exact hy.getD Zan _)).mono (fun _ _ h=>Zad h rfl)) (fun xx=>?_)
   refine xq 1 [(8, .v (.int .i64 ((64 - blen t:Nat):Int)))] [] ?_
   refine xe (Zaa (Zac (Zab (xq 2 [eS1 40 A2 ys.length c2,(41, .v (.int .i64 ((64 - blen t:Nat):Int)))] [] ?_))))
   refine xqc 66 [.slice A2 ys.length c2, .int .i64 ((64 - blen t:Nat):Int)] 42 Za3 _ (fun w R Q=>(Zc7 (64 - blen t) Q.1.1.1.2 hwy (by omega)).mono (fun _ _=>Za5)) (fun xx=>?_)
   obtain ⟨A19,l19,c19⟩:=xx
   refine xq 1 [eS1 9 A19 l19 c19] [] ?_
   refine xe (Zaa (Zac ?_))
   refine SXc.know (p:=l19=(wds (val W64 ys * 2 ^ (64 - blen t))).length∧(wds (val W64 ys * 2 ^ (64 - blen t))).length≤c19) (fun w _ Q=>(Q.2).lens) (fun hln=>?_)
   obtain ⟨dd,hdd⟩:∃ dd,dd=wds (val W64 ys * 2 ^ (64 - blen t)):=⟨_,rfl⟩
   rw [← hdd] at hln
   obtain ⟨rfl,hdc⟩:=hln
   have hDd:Dig W64 dd:=by rw [hdd]; exact (Zdl _).1
   have hDt:Trim dd:=by rw [hdd]; exact ZjH _
   have hDv:val W64 dd=val W64 ys * 2 ^ (64 - blen t):=by rw [hdd]; exact (Zdl _).2
   have hDl:dd.length=ys.length:=by rw [hdd,Zo0]; exact Zt0 (k:=ys.length - 1) hy (by omega) ty hx18
   have hDp:0 < val W64 dd:=ZeA hDt Zan (fun e=>by rw [e] at hDl; simp at hDl; omega)
   have hDw:=ZaN hDd
   refine Zab (xq 3 [(45, .v (.int .i64 (IntKind.i64.wrap (((xs.length:Nat):Int) + 1))))] [] ?_)
   rw [show IntKind.i64.wrap ((((xs.length:Nat):Int) + 1))=((xs.length + 1:Nat):Int) from by rw [IntKind.wrap_i64]; omega]
   refine Zkw (d:=46) (t:=77) (e:=94) (k:=.u64) (kl:=.i64) (kc:=.i64) (l:=(Operand.tmp 45)) (c:=(Operand.tmp 45)) (xs.length + 1) 8 (by omega) (by decide) (fun r20 hr20 lr20=>?_)
   have hA:∀ a,A19=some a→a.block≠r20:=fun a ha=>Nat.ne_of_lt (lr20 a.block (fun w Q=>(Q.2).shows.lt (by rw [← hdd,hDl]; omega) ha))
   refine xr 1 [eS1 0 A xs.length c,eS1 1 A2 ys.length c2,eS1 4 none 0 0,eS1 5 none 0 0,(8, .v (.int .i64 ((64 - blen t:Nat):Int))),eS1 9 A19 dd.length c19,eS1 10 (some ⟨r20,0,none⟩) (xs.length + 1) (xs.length + 1)] [] ?_
   refine xe (Zaa (Zac (Zab (xq 3 [eS1 47 (some ⟨r20,0,none⟩) (xs.length + 1) (xs.length + 1),eS1 48 A xs.length c,(49, .v (.int .i64 ((64 - blen t:Nat):Int)))] [] ?_))))
   refine xqc 66 [.slice A xs.length c, .int .i64 ((64 - blen t:Nat):Int)] 50 Za3 _ (fun w R Q=>(Zc7 (64 - blen t) (Q.1).self.1.1.1.1.1.1 hw (by omega)).mono (fun _ _=>Za5)) (fun xx=>?_)
   obtain ⟨A21,l21,c21⟩:=xx
   refine SXi.know (p:=l21=(wds (val W64 xs * 2 ^ (64 - blen t))).length∧(wds (val W64 xs * 2 ^ (64 - blen t))).length≤c21) (fun w _ Q=>(Q.2).lens) (fun hln=>?_)
   have hfit:=Zt1 (s:=64 - blen t) hx (by omega)
   rw [← Zo0] at hfit
   obtain ⟨hr1,hr2,hr3⟩:=Zsh (n:=xs.length + 1) (Zdl (val W64 xs * 2 ^ (64 - blen t))).1 hfit
   rw [(Zdl _).2] at hr3
   obtain ⟨zz,hzz⟩:∃ zz,(wds (val W64 xs * 2 ^ (64 - blen t))).take (xs.length + 1) ++ (List.replicate (xs.length + 1) 0).drop (wds (val W64 xs * 2 ^ (64 - blen t))).length=zz:=⟨_,rfl⟩
   rw [hzz] at hr1 hr2 hr3
   refine Zs5 (d:=51) (dx:=Operand.tmp 47) (sx:=Operand.tmp 50) (dT:=77) (sT:=77) (e:=94) (k:=.u64) (sp:=A21) (mid:=List.replicate (xs.length + 1) 0) (ys:=wds (val W64 xs * 2 ^ (64 - blen t))) (n:=xs.length + 1) (m:=l21) (dc:=xs.length + 1) (sc:=c21) r20 (fun w=>((Box (fun j=>r20≤j) w (fun w=>((((((Zak w (.slice A xs.length c) (val W64 xs)∧Zag .u64 w A (xs))∧Zak w (.slice A2 ys.length c2) (val W64 ys))∧Zag .u64 w A2 (ys))∧True)∧True)∧Zak w (.slice A19 dd.length c19) (val W64 ys * 2 ^ (64 - blen t))))∧Own .u64 94 w r20 (zz))∧True)) (by simp) hln.1.symm (by simp) (fun w Q=>Q.1.2) (fun w Q=>(Q.2).shows) (Or.inl hr20) (fun w w' Q hF hO=>⟨⟨((Q.1.1).fr (hF.mono (fun _ _ e=>by rw [e]; exact Nat.le_refl _))),(by rw [← hzz]; rwa [List.length_replicate] at hO)⟩,trivial⟩) ?_
   refine xr 0 [eS1 0 A xs.length c,eS1 1 A2 ys.length c2,eS1 4 none 0 0,eS1 5 none 0 0,(8, .v (.int .i64 ((64 - blen t:Nat):Int))),eS1 9 A19 dd.length c19,eS1 10 (some ⟨r20,0,none⟩) (xs.length + 1) (xs.length + 1)] [] ?_
   refine xe (Zaa (Zac (Zab (xq 5 [(56, .v (.int .i64 (IntKind.i64.wrap (((xs.length:Nat):Int) - ((ys.length:Nat):Int)))))] [] ?_))))
   rw [show IntKind.i64.wrap ((((xs.length:Nat):Int) - ((ys.length:Nat):Int)))=((xs.length - (ys.length):Nat):Int) from by rw [IntKind.wrap_i64]; omega]
   refine xq 1 [(57, .v (.int .i64 (IntKind.i64.wrap (((xs.length - (ys.length):Nat):Int) + 1))))] [] ?_
   rw [show IntKind.i64.wrap ((((xs.length - (ys.length):Nat):Int) + 1))=((xs.length - (ys.length) + 1:Nat):Int) from by rw [IntKind.wrap_i64]; omega]
   refine Zkw (d:=58) (t:=77) (e:=94) (k:=.u64) (kl:=.i64) (kc:=.i64) (l:=(Operand.tmp 57)) (c:=(Operand.tmp 57)) (xs.length - (ys.length) + 1) 8 (by omega) (by decide) (fun r22 hr22 lr22=>?_)
   have hlt:r20 < r22:=lr22 r20 (fun w Q=>(Q.1.2).lt)
   refine xr 1 [eS1 1 A2 ys.length c2,eS1 4 none 0 0,eS1 5 none 0 0,(8, .v (.int .i64 ((64 - blen t:Nat):Int))),eS1 9 A19 dd.length c19,eS1 10 (some ⟨r20,0,none⟩) (xs.length + 1) (xs.length + 1),(11, .v (.slice (some ⟨r22,0,none⟩) (xs.length - (ys.length) + 1) (xs.length - (ys.length) + 1)))] [] ?_
   refine xe (Zaa (Zac (Zac (Zab (xq 3 [(61, .v (.int .i64 (IntKind.i64.wrap (((xs.length - (ys.length) + 1:Nat):Int) - 1))))] [] ?_)))))
   rw [show IntKind.i64.wrap (((xs.length - ys.length + 1:Nat):Int) - 1)=((xs.length - ys.length + 1:Nat):Int) - 1 from by rw [IntKind.wrap_i64]; omega]
   refine xq 1 [(12, .v (.int .i64 (((xs.length - ys.length + 1:Nat):Int) - 1)))] [] ?_
   refine xe (Zaa (ZaO ?_))
   refine SXc.weak [(1, .v (.slice A2 ys.length c2)),(4, .v (.slice none 0 0)),(5, .v (.slice none 0 0)),(8, .v (.int .i64 ((64 - blen t:Nat):Int))),(9, .v (.slice A19 dd.length c19)),(10, .v (.slice (some ⟨r20,0,none⟩) (xs.length + 1) (xs.length + 1))),(11, .v (.slice (some ⟨r22,0,none⟩) (xs.length - (ys.length) + 1) (xs.length - (ys.length) + 1))),(12, .v (.int .i64 ((((xs.length - ys.length + 1):Nat):Int) - 1)))] [] (Ψ:=fun w=>((Box (fun j=>r20≤j) w (fun w=>((((((Zak w (.slice A xs.length c) (val W64 xs)∧Zag .u64 w A (xs))∧Zak w (.slice A2 ys.length c2) (val W64 ys))∧Zag .u64 w A2 (ys))∧True)∧True)∧Zak w (.slice A19 dd.length c19) (val W64 ys * 2 ^ (64 - blen t))))∧Own .u64 94 w r20 (zz))∧Own .u64 94 w r22 ((List.replicate (xs.length - (ys.length) + 1) 0)))) (ZaL.of (by kernel_rfl)) (by kernel_rfl) (fun w Q=>⟨⟨(Q.1).self.1.1,(Q.1).self.1.2⟩,Q.2⟩) ?_
   refine Zco (fun nn ss ff=>∃ (k:Nat) (zs qs:List Nat),ss=ofL [(1, .v (.slice A2 ys.length c2)),(4, .v (.slice none 0 0)),(5, .v (.slice none 0 0)),(8, .v (.int .i64 ((64 - blen t:Nat):Int))),(9, .v (.slice A19 dd.length c19)),(10, .v (.slice (some ⟨r20,0,none⟩) (xs.length + 1) (xs.length + 1))),(11, .v (.slice (some ⟨r22,0,none⟩) (xs.length - (ys.length) + 1) (xs.length - (ys.length) + 1))),(12, .v (.int .i64 (((k:Nat):Int) - 1)))] []∧ff=(fun w=>((Box (fun j=>r20≤j) w (fun w=>((((((Zak w (.slice A xs.length c) (val W64 xs)∧Zag .u64 w A (xs))∧Zak w (.slice A2 ys.length c2) (val W64 ys))∧Zag .u64 w A2 (ys))∧True)∧True)∧Zak w (.slice A19 dd.length c19) (val W64 ys * 2 ^ (64 - blen t))))∧Own .u64 94 w r20 (zs))∧Own .u64 94 w r22 (qs)))∧(OvR (val W64 xs * 2 ^ (64 - blen t)) (val W64 dd) (xs.length + 1) (xs.length - ys.length + 1) k zs qs)∧(k≤xs.length - ys.length + 1)∧nn=(1 + k)) ((1 + (xs.length - ys.length + 1))) ⟨(xs.length - ys.length + 1),zz,(List.replicate (xs.length - (ys.length) + 1) 0),rfl,rfl,(OvR.start hr1 hr2 hr3 (by rw [hDv]; exact Zur hx ty (by omega) (by omega))),Nat.le_refl _,rfl⟩ ?_
   rintro nn ss ff ⟨k,zs,qs,rfl,rfl,HV,hk,rfl⟩
   refine Zac (Zac (Zab (xq 2 [(63, .v (.bool (decide ((((k:Nat):Int) - 1) ≥ 0))))] [] ?_)))
   refine xe (Zaa ?_)
   refine ZaA ((decide ((((k:Nat):Int) - 1) ≥ 0))) (by kernel_rfl) (fun hb23=>?_) (fun hb23=>?_)
   ·have hb23':=of_decide_eq_true hb23
    obtain ⟨j,rfl⟩:∃ j,k=j + 1:=⟨k - 1,by omega⟩
    rw [show ((((j + 1):Nat):Int) - 1)=((j:Nat):Int) by omega]
    refine Zaq (Zaa (Zac (ZaO (Zab (xq 8 [(66, .v (.slice (some ⟨r22,0,none⟩) (xs.length - (ys.length) + 1) (xs.length - (ys.length) + 1))),(67, .v (.int .i64 ((j:Nat):Int))),eS1 68 (some ⟨r20,0,none⟩) (xs.length + 1) (xs.length + 1),(69, .v (.int .i64 ((j:Nat):Int))),(73, .v (.int .i64 (IntKind.i64.wrap (((j:Nat):Int) + ((ys.length:Nat):Int)))))] [] ?_)))))
    rw [show IntKind.i64.wrap ((((j:Nat):Int) + ((ys.length:Nat):Int)))=((j + (ys.length):Nat):Int) from by rw [IntKind.wrap_i64]; omega]
    refine xq 1 [(74, .v (.int .i64 (IntKind.i64.wrap (((j + (ys.length):Nat):Int) + 1))))] [] ?_
    rw [show IntKind.i64.wrap ((((j + (ys.length):Nat):Int) + 1))=((j + (ys.length) + 1:Nat):Int) from by rw [IntKind.wrap_i64]; omega]
    refine xqk 75 (.slice (some ⟨r20,j,none⟩) (dd.length + 1) (xs.length + 1 - j)) (fun w R Q=>Zr1 (t:=77) (e:=94) (x:=(Operand.tmp 68)) (len:=(xs.length + 1)) (cap:=(xs.length + 1)) (l:=j) (h:=j + (ys.length) + 1) (n:=dd.length + 1) (m:=xs.length + 1 - j) (lo:=(Operand.tmp 69)) (hi:=(Operand.tmp 74)) (by omega) (by omega) (by omega) (by omega) (by omega)) ?_
    refine xq 1 [eS1 76 A19 dd.length c19] [] ?_
    refine Zhj (xs:=zs) (α:=List Nat) 175 [.slice (some ⟨r20,j,none⟩) (dd.length + 1) (xs.length + 1 - j), .slice A19 dd.length c19] (d:=77) (fun x=>.int .u64 ((win j dd.length zs / val W64 dd:Nat):Int)) (fun x=>WinR j dd.length zs x∧win j dd.length x=win j dd.length zs % val W64 dd) (fun x=>x) r20 (fun x w=>((Box (fun j=>r20≤j) w (fun w=>((((((Zak w (.slice A xs.length c) (val W64 xs)∧Zag .u64 w A (xs))∧Zak w (.slice A2 ys.length c2) (val W64 ys))∧Zag .u64 w A2 (ys))∧True)∧True)∧Zak w (.slice A19 dd.length c19) (val W64 ys * 2 ^ (64 - blen t))))∧Own .u64 94 w r20 (x))∧Own .u64 94 w r22 (qs))) (fun w Q=>Q.1.2) (by have:=HV.1; omega) (Or.inl hr20) (fun w R Q=>ZkA r20 _ j zs dd _ _ _ Q.1.2 (by rw [hdd]; exact ((Q.1.1).self.2).shows) hA (by rw [HV.1]; omega) (by rw [HV.1]; omega) HV.2.1 hDd (by omega) hDp (HV.ready hDw (by omega)).2.2) (fun x w w' hp Q hF hO=>⟨⟨((Q.1.1).fr (hF.mono (fun _ _ e=>by rw [e]; exact Nat.le_refl _))),hO⟩,((Q.2).fr hF (show ¬ (r22=r20) by omega))⟩) (fun x hx24=>?_)
    obtain ⟨zs24,rfl⟩:∃ y,y=x:=⟨_,rfl⟩
    have HS:=HV.step hDw hDp (by omega) (by omega) hx24.1 hx24.2
    have hql:=HV.2.2.1
    refine xr 0 [eS1 1 A2 ys.length c2,eS1 4 none 0 0,eS1 5 none 0 0,(8, .v (.int .i64 ((64 - blen t:Nat):Int))),eS1 9 A19 dd.length c19,eS1 10 (some ⟨r20,0,none⟩) (xs.length + 1) (xs.length + 1),(11, .v (.slice (some ⟨r22,0,none⟩) (xs.length - (ys.length) + 1) (xs.length - (ys.length) + 1))),(12, .v (.int .i64 ((j:Nat):Int))),(66, .v (.slice (some ⟨r22,0,none⟩) (xs.length - (ys.length) + 1) (xs.length - (ys.length) + 1))),(67, .v (.int .i64 ((j:Nat):Int))),(77, .v (.int .u64 ((win j dd.length zs / val W64 dd:Nat):Int)))] [] ?_
    refine xqk 78 (.pointer (some ⟨r22,j,none⟩)) (fun w R Q=>Zcw (t:=77) (e:=94) (x:=(Operand.tmp 66)) (ix:=(Operand.tmp 67)) (len:=(xs.length - (ys.length) + 1)) (cap:=(xs.length - (ys.length) + 1)) (i:=j) (by omega)) ?_
    refine Zc5 (t:=94) (x:=(Operand.tmp 78)) (y:=(Operand.tmp 77)) r22 (j) (win j dd.length zs / val W64 dd) (fun w=>((Box (fun j=>r20≤j) w (fun w=>((((((Zak w (.slice A xs.length c) (val W64 xs)∧Zag .u64 w A (xs))∧Zak w (.slice A2 ys.length c2) (val W64 ys))∧Zag .u64 w A2 (ys))∧True)∧True)∧Zak w (.slice A19 dd.length c19) (val W64 ys * 2 ^ (64 - blen t))))∧Own .u64 94 w r20 (zs24))∧Own .u64 94 w r22 ((qs).set (j) (win j dd.length zs / val W64 dd)))) (fun w Q=>Q.2) (by omega) (Or.inl hr22) (fun w w' Q hF hO=>⟨⟨((Q.1.1).fr (hF.mono (fun _ _ e=>by rw [e]; omega))),((Q.1.2).fr hF (show ¬ (r20=r22) by omega))⟩,hO⟩) ?_
    refine xe (ZbT (Zaa (Zab (xq 2 [(65, .v (.int .i64 (IntKind.i64.wrap (((j:Nat):Int) - 1))))] [] ?_))))
    rw [show IntKind.i64.wrap (((j:Nat):Int) - 1)=((j:Nat):Int) - 1 from by rw [IntKind.wrap_i64]; omega]
    refine xq 1 [(12, .v (.int .i64 (((j:Nat):Int) - 1)))] [] ?_
    refine xe ?_
    refine SXq.weak [(1, .v (.slice A2 ys.length c2)),(4, .v (.slice none 0 0)),(5, .v (.slice none 0 0)),(8, .v (.int .i64 ((64 - blen t:Nat):Int))),(9, .v (.slice A19 dd.length c19)),(10, .v (.slice (some ⟨r20,0,none⟩) (xs.length + 1) (xs.length + 1))),(11, .v (.slice (some ⟨r22,0,none⟩) (xs.length - (ys.length) + 1) (xs.length - (ys.length) + 1))),(12, .v (.int .i64 (((j:Nat):Int) - 1)))] [] (Ψ:=fun w=>((Box (fun j=>r20≤j) w (fun w=>((((((Zak w (.slice A xs.length c) (val W64 xs)∧Zag .u64 w A (xs))∧Zak w (.slice A2 ys.length c2) (val W64 ys))∧Zag .u64 w A2 (ys))∧True)∧True)∧Zak w (.slice A19 dd.length c19) (val W64 ys * 2 ^ (64 - blen t))))∧Own .u64 94 w r20 (zs24))∧Own .u64 94 w r22 (((qs).set (j) (win j dd.length zs / val W64 dd))))) (ZaL.of (by kernel_rfl)) (by kernel_rfl) (fun w Q=>⟨⟨Q.1.1,Q.1.2⟩,Q.2⟩) ?_
    exact ZbA ((1 + j)) (by omega) ⟨j,zs24,((qs).set (j) (win j dd.length zs / val W64 dd)),rfl,rfl,HS,by omega,rfl⟩
   ·have hb23':=of_decide_eq_false hb23
    obtain rfl:k=0:=by omega
    refine ZbD (ZaB (ZaB (ZbU (Zaa (Zac (Zab (xq 1 [(79, .v (.slice (some ⟨r22,0,none⟩) (xs.length - (ys.length) + 1) (xs.length - (ys.length) + 1)))] [] ?_)))))))
    refine xqc 106 [.slice (some ⟨r22,0,none⟩) (xs.length - (ys.length) + 1) (xs.length - (ys.length) + 1)] 80 Za3 _ (fun w R Q=>(Zgs Q.2 HV.2.2.2.1 HV.2.2.1 ((HV.done hDp).1.trans (by rw [hDv,Zt3])) (by omega) (by omega)).mono (fun _ _=>Za5)) (fun xx=>?_)
    obtain ⟨A25,l25,c25⟩:=xx
    refine xq 1 [eS1 81 (some ⟨r20,0,none⟩) (xs.length + 1) (xs.length + 1)] [] ?_
    refine xqc 106 [.slice (some ⟨r20,0,none⟩) (xs.length + 1) (xs.length + 1)] 82 Za3 _ (fun w R Q=>(Zgs Q.1.1.2 HV.2.1 HV.1 (HV.done hDp).2 (by omega) (by omega)).mono (fun _ _=>Za5)) (fun xx=>?_)
    obtain ⟨A26,l26,c26⟩:=xx
    refine xq 1 [(83, .v (.int .i64 ((64 - blen t:Nat):Int)))] [] ?_
    refine xqc 128 [.slice A26 l26 c26, .int .i64 ((64 - blen t:Nat):Int)] 84 Za3 _ (fun w R Q=>(Zio (64 - blen t) Q.2 (Nat.le_trans (Zcl (Nat.le_of_lt (Nat.mod_lt _ hDp))) (by rw [← ZaH hDd hDt]; omega)) (by omega)).mono (fun _ _ h=>Za5 (by rw [show (val W64 xs * 2 ^ (64 - blen t) % val W64 dd) / 2 ^ (64 - blen t)=val W64 xs % val W64 ys by rw [hDv,Zt2]] at h; exact h))) (fun xx=>?_)
    obtain ⟨A27,l27,c27⟩:=xx
    refine xq 2 [eS1 4 A25 l25 c25,eS1 5 A27 l27 c27] [] ?_
    refine xe (Zaa (Zai ?_))
    refine Zaf (v:=.tuple #[.slice A25 l25 c25, .slice A27 l27 c27]) (by kernel_rfl) (fun w' R Q=>?_)
    exact ⟨_,_,rfl,Q.1.1.2,Q.2,R⟩
end Go.Proofs.YtklpdkpcocnglaaGreatDoor

namespace Go.Proofs.YtklpdkpcocnglaaGreatDoor
end Go.Proofs.YtklpdkpcocnglaaGreatDoor

namespace Go.Proofs.YtklpdkpcocnglaaGreatDoor
structure FR where
 s:Bool
 m:Nat
 e:Int
 err:Int
def ZmF:FR:=⟨false,0,0,0⟩
def errR (k:Int):FR:=⟨false,0,0,k⟩
def okE (e:Int):Prop := -1048576≤e∧e≤1048576
instance (e:Int):Decidable (okE e):=inferInstanceAs (Decidable (_∧_))
def ZbW (s:Bool) (n:Nat) (e:Int):FR:=if n=0 then ZmF else if okE (e + tzn n) then ⟨s,oddM n,e + tzn n,0⟩ else errR 2
def Zdq (s:Bool) (n:Nat) (e:Int) (bits:Nat) (more:Bool):FR :=
 if blen n≤bits then ZbW s n e else ZbW s (Zho n (blen n - bits - 1) more) (e + (blen n - bits:Nat))
def Zek (s:Bool) (n d:Nat) (e:Int) (bits:Nat):FR:=if n=0 then ZmF else ZbW s (rndM n d bits) (e + rndK n d bits)
theorem Zol (s:Bool) (e:Int) (bits:Nat) (more:Bool):Zdq s 0 e bits more=ZmF:=by
 unfold Zdq; rw [if_pos (by rw [ZdU]; omega)]; rfl
theorem ZpM (s:Bool) (d:Nat) (e:Int) (bits:Nat):Zek s 0 d e bits=ZmF:=rfl
theorem Zom (s:Bool) {n d:Nat} (e:Int) {bits:Nat} (hn:0 < n) (hd:0 < d) (hb:0 < bits) :
 Zdq s (fq n d (rk0 n d bits - 1)) (e + (rk0 n d bits - 1)) bits (decide (fa n (rk0 n d bits - 1) % fb d (rk0 n d bits - 1)≠0))=Zek s n d e bits:=by
 obtain ⟨h1,h2⟩:=Znk hn hd hb
 have h3:=Zik n d (rk0 n d bits - 1) 1
 rw [show rk0 n d bits - 1 + (1:Nat)=rk0 n d bits by omega] at h3
 rw [h3,Zfo] at h1 h2
 generalize hk:rk0 n d bits - 1=k at *
 obtain ⟨j,hj⟩:∃ j,blen (fq n d k)=bits + (j + 1):=⟨blen (fq n d k) - bits - 1,by omega⟩
 obtain ⟨k1,k2⟩:=Zq2 hn hd hb k j hj
 unfold Zdq Zek
 rw [if_neg (by omega),if_neg (by omega),k1,k2,hj,show bits + (j + 1) - bits - 1=j by omega,show bits + (j + 1) - bits=j + 1 by omega,Int.add_assoc]
end Go.Proofs.YtklpdkpcocnglaaGreatDoor

namespace Go.Proofs.YtklpdkpcocnglaaGreatDoor
open Go.RowKit
def shNb (r:FR) (x:ShN):Value:=.tuple #[.agg #[.bool r.s, .slice x.1 x.2.1 x.2.2, .int .i64 r.e], .int .i64 r.err]
def ZcS (w:World) (r:FR) (e:Ending) (w':World):Prop:=∃ x:ShN,e=.returned (shNb r x)∧Zak w' (Za3 x) r.m∧Ext w w'
theorem ZdB {w w':World} {e:Ending} {r:FR} (h:ZcS w r e w'):Zbx (shNb r) (fun x w=>Zak w (Za3 x) r.m) w e w':=by
 obtain ⟨x,rfl,hI,Q⟩:=h
 exact ⟨x,rfl,Q,boxn Q (fun S w'' hS hF=>hI.nrb hS hF)⟩
theorem ZpN (s:Bool) (e:Int):ZbW s 0 e=⟨false,0,0,0⟩:=rfl
theorem ZjI {n:Nat} (s:Bool) {e:Int} (h0:0 < n) (h1:¬ e + tzn n < -1048576) (h2:¬ e + tzn n > 1048576):ZbW s n e=⟨s,oddM n,e + tzn n,0⟩:=by
 unfold ZbW
 rw [if_neg (by omega),if_pos ⟨by omega,by omega⟩]
theorem Zip {n:Nat} (s:Bool) {e:Int} (h0:0 < n) (h:e + tzn n < -1048576∨e + tzn n > 1048576):ZbW s n e=⟨false,0,0,2⟩:=by
 unfold ZbW
 rw [if_neg (by omega),if_neg (by rintro ⟨h1,h2⟩; omega)]; rfl
theorem Ze0 (n:Nat):blen n≤64 * wl n:=by
 rw [ZbH,Nat.pow_mul]
 have:=ZiH n
 rwa [Zal] at this
theorem Zt4 {n:Nat} (h:wl n≤4294967296):tzn n≤274877906944:=by
 rcases Nat.eq_zero_or_pos n with rfl | h0
 ·rw [tzn,dif_pos (Or.inl rfl)]; omega
 ·obtain ⟨h1,h2⟩:=ZeY h0
  have h3:blen n=blen (oddM n) + tzn n:=by
   have:=Zgp (show 0 < oddM n by omega) (tzn n)
   rwa [← h2] at this
  have:=Ze0 n
  omega
theorem Zra {n:Nat} (h:wl n≤4294967296):blen n≤274877906944:=by have:=Ze0 n; omega
theorem ZpO {s:Bool} {n bits:Nat} {e:Int} {m:Bool} (h:blen n≤bits):Zdq s n e bits m=ZbW s n e:=by unfold Zdq; rw [if_pos h]
theorem Ziq {s:Bool} {n bits j:Nat} {e:Int} {m:Bool} (h:blen n=bits + (j + 1)) (h1:n / 2 ^ j % 2=1) (h2:tzn n < j∨n / 2 ^ (j + 1) % 2=1∨m=true) (h0:0 < n) :
 Zdq s n e bits m=ZbW s (n / 2 ^ (j + 1) + 1) (e + ((j + 1:Nat):Int)):=by
 unfold Zdq Zho
 rw [if_neg (by omega),h,show bits + (j + 1) - bits - 1=j by omega,show bits + (j + 1) - bits=j + 1 by omega,if_pos ⟨h1,by rw [← Zq4 h0]; exact h2⟩]
theorem Zjm {s:Bool} {n bits j:Nat} {e:Int} {m:Bool} (h:blen n=bits + (j + 1)) (h0:0 < n) (h1:¬ (n / 2 ^ j % 2=1∧(tzn n < j∨n / 2 ^ (j + 1) % 2=1∨m=true))) :
 Zdq s n e bits m=ZbW s (n / 2 ^ (j + 1)) (e + ((j + 1:Nat):Int)):=by
 unfold Zdq Zho
 rw [if_neg (by omega),h,show bits + (j + 1) - bits - 1=j by omega,show bits + (j + 1) - bits=j + 1 by omega,if_neg (by rw [← Zq4 h0]; exact h1)]
theorem Zt5:Trim [1]:=by
 intro k hk
 have:k=0:=by simp at hk; omega
 subst this
 simp
theorem wl_1:wl 1≤4294967296:=Nat.le_trans (Zfk.2 (by rw [Zal]; decide)) (by decide)
theorem ZiT {w:World} {b:Nat} (h:Blk 94 w b #[.int .u64 1]):Zak w (.slice (some ⟨b,0,none⟩) 1 1) 1 :=
 ⟨_,[1],1,rfl,Nat.le_refl _,(Blk.own1 (r:=1) h).shows0,Dig.nil.cons (by rw [Zal]; decide),Zt5,rfl⟩
def Zhp (w:World) (Q:Nat) (v:Value):Prop:=Q < w.heap.size∧w.cell? ⟨Q,0,none⟩=some v
theorem Zhp.ext {w w':World} {Q:Nat} {v:Value} (h:Zhp w Q v) (hf:Ext w w'):Zhp w' Q v:=⟨Nat.lt_of_lt_of_le h.1 hf.size,(hf.cell (p:=⟨Q,0,none⟩) h.1 (fun f=>f)).trans h.2⟩
set_option maxHeartbeats 1000000 in
theorem Zrb (Q:Nat) (A:Option Addr) (l c:Nat) (w:World) (h:Zhp w Q (.slice A l c)):Calls Tryz.prog 143 #[.pointer (some ⟨Q,0,none⟩)] w (RetV w (.bool (decide (0 < l)))):=by
 have hc:=h.2
 go_enter Tryz.func143,Tryz.ntmps143
 go_wp2
 go_ret
 exact ⟨congrArg Ending.returned (congrArg Value.bool (decide_eq_decide.2 (by omega))),Fr.refl _ _⟩
theorem Zep (s:Bool) (A:Option Addr) (l c n:Nat) (e:Int) (w:World) (hg:Glob w) (hN:Zak w (.slice A l c) n) (hw:wl n≤4294967296) (he1 : -1152921504606846976≤e) (he2:e≤1152921504606846976) :
 Calls Tryz.prog 118 #[.bool s, .slice A l c, .int .i64 e] w (ZcS w (ZbW s n e)):=by
 refine Zay (Φ:=fun w=>(Glob w∧Zak w (.slice A l c) (n))) Tryz.func118 rfl (by kernel_rfl) (fun w' hf=>⟨hg.ext hf,hN.ext hf⟩) ?_
 refine Zac ?_
 have hln:=hN.len0
 have htz:=Zt4 hw
 have hzz:=@Zdx n
 refine Zab (xq 2 [(6, .p 6 0),(7, .v (.int .i64 0))] [(6,79,[.v (.bool false), .v (.slice none 0 0), .v (.int .i64 0)])] ?_)
 refine xe (Zaa (Zac (Zac (Zab (xq 3 [(11, .v (.bool ((((l:Nat):Int):Int) == 0)))] [] ?_)))))
 refine xe (Zaa ?_)
 refine ZaA (((((l:Nat):Int):Int) == 0)) (by kernel_rfl) (fun hb10=>?_) (fun hb10=>?_)
 ·have hb10':=beq_iff_eq.1 hb10
  have h0:n=0:=by omega
  refine Zac (Zab (xq 3 [(7, .v (.int .i64 0))] [] ?_))
  refine xe (Zaa (Zai (Zah ?_)))
  refine Zaf (v:=.tuple #[.agg #[.bool false, .slice none 0 0, .int .i64 0], .int .i64 0]) (by kernel_rfl) (fun w' R Q=>?_)
  rw [h0,ZpN]
  exact ⟨(none,0,0),rfl,Zak.zero _,R⟩
 ·have hb10':=ZbP hb10
  have h0:0 < n:=by omega
  refine Zaq (Zaa (Zac (Zab (xq 1 [eS1 13 A l c] [] ?_))))
  refine xqc 157 [.slice A l c] 14 (fun _:Unit=>.int .i64 ((tzn n:Nat):Int)) _ (fun w R Q=>(ZkC Q.1 Q.2 hw h0).mono (fun _ _ h=>Zad h rfl)) (fun xx=>?_)
  refine xq 1 [(8, .v (.int .i64 ((tzn n:Nat):Int)))] [] ?_
  refine xe (Zaa (Zac (Zab (xq 3 [(17, .v (.int .i64 (IntKind.i64.wrap (e + ((tzn n:Nat):Int)))))] [] ?_))))
  rw [show IntKind.i64.wrap (e + ((tzn n:Nat):Int))=e + ((tzn n:Nat):Int) from by rw [IntKind.wrap_i64]; omega]
  refine xq 1 [(2, .v (.int .i64 (e + ((tzn n:Nat):Int))))] [] ?_
  refine xe (Zaa (Zac (Zac (Zab (xq 3 [(20, .v (.bool (decide ((e + ((tzn n:Nat):Int)) < (-1048576)))))] [] ?_)))))
  rcases bl2 ((decide ((e + ((tzn n:Nat):Int)) < (-1048576)))) with hb11 | hb11
  ·rw [hb11]
   have hb11':=of_decide_eq_true hb11
   refine xq 3 [(23, .v (.bool true))] [] ?_
   refine xe (Zaa (xa (Zac (Zab (xq 3 [(7, .v (.int .i64 2))] [] ?_)))))
   refine xe (Zaa (Zai (Zah ?_)))
   refine Zaf (v:=.tuple #[.agg #[.bool false, .slice none 0 0, .int .i64 0], .int .i64 2]) (by kernel_rfl) (fun w' R Q=>?_)
   rw [Zip s h0 (by omega)]
   exact ⟨(none,0,0),rfl,Zak.zero _,R⟩
  ·rw [hb11]
   have hb11':=of_decide_eq_false hb11
   refine xq 3 [(23, .v (.bool (decide ((e + ((tzn n:Nat):Int)) > 1048576))))] [] ?_
   refine xe (Zaa ?_)
   refine ZaA ((decide ((e + ((tzn n:Nat):Int)) > 1048576))) (by kernel_rfl) (fun hb12=>?_) (fun hb12=>?_)
   ·have hb12':=of_decide_eq_true hb12
    refine Zac (Zab (xq 3 [(7, .v (.int .i64 2))] [] ?_))
    refine xe (Zaa (Zai (Zah ?_)))
    refine Zaf (v:=.tuple #[.agg #[.bool false, .slice none 0 0, .int .i64 0], .int .i64 2]) (by kernel_rfl) (fun w' R Q=>?_)
    rw [Zip s h0 (by omega)]
    exact ⟨(none,0,0),rfl,Zak.zero _,R⟩
   ·have hb12':=of_decide_eq_false hb12
    refine Zaq (Zaa (Zac (Zab (xq 3 [(25, .v (.bool s)),eS1 26 A l c,(27, .v (.int .i64 ((tzn n:Nat):Int)))] [] ?_))))
    refine xqc 128 [.slice A l c, .int .i64 ((tzn n:Nat):Int)] 28 Za3 _ (fun w R Q=>(Zio (tzn n) Q.1.2 hw (by omega)).mono (fun _ _=>Za5)) (fun xx=>?_)
    obtain ⟨A13,l13,c13⟩:=xx
    refine xq 4 [(7, .v (.int .i64 0))] [(6,79,[.v (.bool s), .v (.slice A13 l13 c13), .v (.int .i64 (e + ((tzn n:Nat):Int)))])] ?_
    refine xe (Zaa (Zai ?_))
    refine Zaf (v:=.tuple #[.agg #[.bool s, .slice A13 l13 c13, .int .i64 (e + ((tzn n:Nat):Int))], .int .i64 0]) (by kernel_rfl) (fun w' R Q=>?_)
    rw [ZjI s h0 (by omega) (by omega)]
    exact ⟨(A13,l13,c13),rfl,Q.2,R⟩
theorem ZpP (s:Bool) (A:Option Addr) (l c n:Nat) (e:Int) (bits:Nat) (Q:Nat) (A2:Option Addr) (l2 c2:Nat) (w:World) (hg:Glob w) (hN:Zak w (.slice A l c) n) (hw:wl n≤4294967296) (he1 : -576460752303423488≤e) (he2:e≤576460752303423488) (hb:bits≤4294967296) (hQ:Zhp w Q (.slice A2 l2 c2)) :
 Calls Tryz.prog 123 #[.bool s, .slice A l c, .int .i64 e, .int .i64 ((bits:Nat):Int), .func (.func 143) #[] #[.pointer (some ⟨Q,0,none⟩)]] w (ZcS w (Zdq s n e bits (decide (0 < l2)))):=by
 refine Zay (Φ:=fun w=>((Glob w∧Zak w (.slice A l c) (n))∧Zhp w Q (.slice A2 l2 c2))) Tryz.func123 rfl (by kernel_rfl) (fun w' hf=>⟨⟨hg.ext hf,hN.ext hf⟩,hQ.ext hf⟩) ?_
 refine Zac ?_
 have hbw:=Zra hw
 by_cases hfew:blen n≤bits
 ·obtain ⟨k,hk⟩:∃ k,bits=blen n + k:=⟨bits - blen n,by omega⟩
  refine Zab (xq 2 [(10, .p 10 0),(11, .v (.int .i64 0))] [(10,79,[.v (.bool false), .v (.slice none 0 0), .v (.int .i64 0)])] ?_)
  refine xe (Zaa (Zac (Zab (xq 1 [eS1 14 A l c] [] ?_))))
  refine xqc 65 [.slice A l c] 15 (fun _:Unit=>.int .i64 ((blen n:Nat):Int)) _ (fun w S R=>(ZcY R.1.2 hw).mono (fun _ _ h=>Zad h rfl)) (fun xx=>?_)
  refine xq 2 [(17, .v (.int .i64 (IntKind.i64.wrap (((blen n:Nat):Int) - ((bits:Nat):Int)))))] [] ?_
  rw [show IntKind.i64.wrap (((blen n:Nat):Int) - ((bits:Nat):Int)) = -((k:Nat):Int) from by rw [IntKind.wrap_i64]; omega]
  refine xq 1 [(12, .v (.int .i64 (-((k:Nat):Int))))] [] ?_
  refine xe (Zaa (Zac (Zac (Zab (xq 2 [(19, .v (.bool (decide ((-((k:Nat):Int))≤0))))] [] ?_)))))
  rw [show decide (-((k:Nat):Int)≤0)=true from decide_eq_true (by omega)]
  refine xe (Zaa (xa (Zac (Zab (xq 3 [(20, .v (.bool s)),eS1 21 A l c,(22, .v (.int .i64 e))] [] ?_)))))
  obtain ⟨r10,hr10⟩:∃ r,ZbW s (n) (e)=r:=⟨_,rfl⟩
  refine xqc 118 [.bool s, .slice A l c, .int .i64 e] 23 (shNb r10) _ (fun w S R=>((show Calls _ _ _ _ (ZcS w r10) from by rw [← hr10]; exact Zep s _ _ _ _ _ _ R.1.1.1 R.1.1.2 hw (by omega) (by omega))).mono (fun _ _=>ZdB)) (fun xx=>?_)
  obtain ⟨A10,l10,c10⟩:=xx
  refine xq 4 [(11, .v (.int .i64 r10.err))] [(10,79,[.v (.bool r10.s), .v (.slice A10 l10 c10), .v (.int .i64 r10.e)])] ?_
  refine xe (Zaa (Zai (Zah ?_)))
  refine Zaf (v:=.tuple #[.agg #[.bool r10.s, .slice A10 l10 c10, .int .i64 r10.e], .int .i64 r10.err]) (by kernel_rfl) (fun w' S R=>?_)
  rw [ZpO hfew,hr10]
  exact ⟨(A10,l10,c10),rfl,R.2,S⟩
 ·obtain ⟨j,hj⟩:∃ j,blen n=bits + (j + 1):=⟨blen n - bits - 1,by omega⟩
  have h0:0 < n:=Nat.pos_of_ne_zero (fun e=>by rw [e,ZdU] at hfew; omega)
  have hw2:wl (n / 2 ^ (j + 1))≤4294967296:=Nat.le_trans (Zcl (Nat.div_le_self _ _)) hw
  have hw3:wl (n / 2 ^ (j + 1) + 1)≤4294967296:=Nat.le_trans (Zcl (Nat.div_lt_self h0 (Nat.one_lt_two_pow (by omega)))) hw
  obtain ⟨b1,hb1⟩:∃ b:Bool,decide (n / 2 ^ j % 2=1)=b:=⟨_,rfl⟩
  obtain ⟨b2,hb2⟩:∃ b:Bool,decide (n / 2 ^ (j + 1) / 2 ^ 0 % 2=1)=b:=⟨_,rfl⟩
  obtain ⟨b3,hb3⟩:∃ b:Bool,(decide (0 < l2))=b:=⟨_,rfl⟩
  refine Zab (xq 2 [(10, .p 10 0),(11, .v (.int .i64 0))] [(10,79,[.v (.bool false), .v (.slice none 0 0), .v (.int .i64 0)])] ?_)
  refine xe (Zaa (Zac (Zab (xq 1 [eS1 14 A l c] [] ?_))))
  refine xqc 65 [.slice A l c] 15 (fun _:Unit=>.int .i64 ((blen n:Nat):Int)) _ (fun w S R=>(ZcY R.1.2 hw).mono (fun _ _ h=>Zad h rfl)) (fun xx=>?_)
  refine xq 2 [(17, .v (.int .i64 (IntKind.i64.wrap (((blen n:Nat):Int) - ((bits:Nat):Int)))))] [] ?_
  rw [show IntKind.i64.wrap (((blen n:Nat):Int) - ((bits:Nat):Int))=((j + 1:Nat):Int) from by rw [IntKind.wrap_i64]; omega]
  refine xq 1 [(12, .v (.int .i64 ((j + 1:Nat):Int)))] [] ?_
  refine xe (Zaa (Zac (Zac (Zab (xq 2 [(19, .v (.bool (decide (((j + 1:Nat):Int)≤0))))] [] ?_)))))
  rw [show decide (((j + 1:Nat):Int)≤0)=false from decide_eq_false (by omega)]
  refine xe (Zaa (xb (Zaq (Zaa (Zac (Zab (xq 2 [eS1 26 A l c,(27, .v (.int .i64 ((j + 1:Nat):Int)))] [] ?_)))))))
  refine xqc 128 [.slice A l c, .int .i64 ((j + 1:Nat):Int)] 28 Za3 _ (fun w S R=>(Zio (j + 1) R.1.1.2 hw (by omega)).mono (fun _ _=>Za5)) (fun xx=>?_)
  obtain ⟨A11,l11,c11⟩:=xx
  refine xq 1 [eS1 13 A11 l11 c11] [] ?_
  refine xe (Zaa (Zac (Zac (Zab (xq 3 [eS1 29 A l c,(31, .v (.int .i64 (IntKind.i64.wrap (((j + 1:Nat):Int) - 1))))] [] ?_)))))
  rw [show IntKind.i64.wrap (((j + 1:Nat):Int) - 1)=((j:Nat):Int) from by rw [IntKind.wrap_i64]; omega]
  refine xqc 158 [.slice A l c, .int .i64 ((j:Nat):Int)] 32 (fun _:Unit=>.bool b1) _ (fun w S R=>((show Calls _ _ _ _ (RetV w (.bool b1)) from by rw [← hb1]; exact Znq (j) R.1.1.1.2 (by omega))).mono (fun _ _ h=>Zad h rfl)) (fun xx=>?_)
  refine xq 1 [(33, .v (.bool b1))] [] ?_
  rcases bl2 (b1) with hb12 | hb12
  ·rw [hb12]
   have k1:=of_decide_eq_true (hb1.trans hb12)
   refine xq 1 [eS1 34 A l c] [] ?_
   refine xqc 157 [.slice A l c] 35 (fun _:Unit=>.int .i64 ((tzn n:Nat):Int)) _ (fun w S R=>(ZkC R.1.1.1.1.1 R.1.1.1.1.2 hw h0).mono (fun _ _ h=>Zad h rfl)) (fun xx=>?_)
   refine xq 2 [(37, .v (.int .i64 (IntKind.i64.wrap (((j + 1:Nat):Int) - 1))))] [] ?_
   rw [show IntKind.i64.wrap (((j + 1:Nat):Int) - 1)=((j:Nat):Int) from by rw [IntKind.wrap_i64]; omega]
   refine xq 2 [(39, .v (.bool (decide (((tzn n:Nat):Int) < ((j:Nat):Int)))))] [] ?_
   rcases bl2 ((decide (((tzn n:Nat):Int) < ((j:Nat):Int)))) with hb13 | hb13
   ·rw [hb13]
    have hb13':=of_decide_eq_true hb13
    have k4:tzn n < j:=by omega
    refine xr 8 [(0, .v (.bool s)),(2, .v (.int .i64 e)),(10, .p 10 0),(11, .v (.int .i64 0)),(12, .v (.int .i64 ((j + 1:Nat):Int))),eS1 13 A11 l11 c11,(47, .v (.bool true))] [(10,79,[.v (.bool false), .v (.slice none 0 0), .v (.int .i64 0)])] ?_
    refine xe (Zaa (xa (Zab (xq 1 [eS1 48 A11 l11 c11] [] ?_))))
    refine Zd2 (d:=49) (fun zb:Nat=>.slice (some ⟨zb,0,none⟩) 1 1) (fun zb zw=>Blk 94 zw zb #[.int .u64 1]) (by kernel_rfl) (by kernel_rfl) (by kernel_rfl) (by kernel_rfl) (by kernel_rfl) (by kernel_rfl) (fun w S R=>Zcd (t:=77) (e:=94) (n:=1) (sz:=1) (z:=.int .u64 0) (parts:=#[(0,Operand.const (Value.int IntKind.u64 1))]) (by kernel_rfl) (by kernel_rfl) (by kernel_rfl) (by kernel_rfl) (by kernel_rfl) (by kernel_rfl)) (fun b14=>?_)
    refine xr 0 [(0, .v (.bool s)),(2, .v (.int .i64 e)),(10, .p 10 0),(11, .v (.int .i64 0)),(12, .v (.int .i64 ((j + 1:Nat):Int))),eS1 13 A11 l11 c11,eS1 48 A11 l11 c11,eS1 49 (some ⟨b14,0,none⟩) 1 1] [(10,79,[.v (.bool false), .v (.slice none 0 0), .v (.int .i64 0)])] ?_
    refine xqc 126 [.slice A11 l11 c11, .slice (some ⟨b14,0,none⟩) 1 1] 50 Za3 _ (fun w S R=>(Zin R.1.1.1.2 (ZiT R.2) hw2 wl_1).mono (fun _ _=>Za5)) (fun xx=>?_)
    obtain ⟨A15,l15,c15⟩:=xx
    refine xq 1 [eS1 13 A15 l15 c15] [] ?_
    refine xe (Zaa (Zac (Zab (xq 5 [(51, .v (.bool s)),eS1 52 A15 l15 c15,(55, .v (.int .i64 (IntKind.i64.wrap (e + ((j + 1:Nat):Int)))))] [] ?_))))
    rw [show IntKind.i64.wrap (e + ((j + 1:Nat):Int))=e + ((j + 1:Nat):Int) from by rw [IntKind.wrap_i64]; omega]
    obtain ⟨r16,hr16⟩:∃ r,ZbW s (n / 2 ^ (j + 1) + 1) ((e + ((j + 1:Nat):Int)))=r:=⟨_,rfl⟩
    refine xqc 118 [.bool s, .slice A15 l15 c15, .int .i64 (e + ((j + 1:Nat):Int))] 56 (shNb r16) _ (fun w S R=>((show Calls _ _ _ _ (ZcS w r16) from by rw [← hr16]; exact Zep s _ _ _ _ _ _ R.1.1.1.1.1.1.1.1 R.2 hw3 (by omega) (by omega))).mono (fun _ _=>ZdB)) (fun xx=>?_)
    obtain ⟨A16,l16,c16⟩:=xx
    refine xq 4 [(11, .v (.int .i64 r16.err))] [(10,79,[.v (.bool r16.s), .v (.slice A16 l16 c16), .v (.int .i64 r16.e)])] ?_
    refine xe (Zaa (Zai ?_))
    refine Zaf (v:=.tuple #[.agg #[.bool r16.s, .slice A16 l16 c16, .int .i64 r16.e], .int .i64 r16.err]) (by kernel_rfl) (fun w' S R=>?_)
    rw [Ziq hj k1 (Or.inl k4) h0,hr16]
    exact ⟨(A16,l16,c16),rfl,R.2,S⟩
   ·rw [hb13]
    have hb13':=of_decide_eq_false hb13
    have k4:¬ tzn n < j:=by omega
    refine xr 1 [(0, .v (.bool s)),(2, .v (.int .i64 e)),(4, .v (.func (.func 143) #[] #[.pointer (some ⟨Q,0,none⟩)])),(10, .p 10 0),(11, .v (.int .i64 0)),(12, .v (.int .i64 ((j + 1:Nat):Int))),eS1 13 A11 l11 c11,(33, .v (.bool true)),(39, .v (.bool false)),eS1 40 A11 l11 c11] [(10,79,[.v (.bool false), .v (.slice none 0 0), .v (.int .i64 0)])] ?_
    refine xqc 158 [.slice A11 l11 c11, .int .i64 0] 41 (fun _:Unit=>.bool b2) _ (fun w S R=>((show Calls _ _ _ _ (RetV w (.bool b2)) from by rw [← hb2]; exact Znq (0) R.1.1.2 (by omega))).mono (fun _ _ h=>Zad h rfl)) (fun xx=>?_)
    refine xq 2 [(43, .v (.bool b2))] [] ?_
    rcases bl2 (b2) with hb17 | hb17
    ·rw [hb17]
     have k2:=of_decide_eq_true (hb2.trans hb17)
     rw [Nat.pow_zero,Nat.div_one] at k2
     refine xq 4 [(47, .v (.bool true))] [] ?_
     refine xe (Zaa (xa (Zab (xq 1 [eS1 48 A11 l11 c11] [] ?_))))
     refine Zd2 (d:=49) (fun zb:Nat=>.slice (some ⟨zb,0,none⟩) 1 1) (fun zb zw=>Blk 94 zw zb #[.int .u64 1]) (by kernel_rfl) (by kernel_rfl) (by kernel_rfl) (by kernel_rfl) (by kernel_rfl) (by kernel_rfl) (fun w S R=>Zcd (t:=77) (e:=94) (n:=1) (sz:=1) (z:=.int .u64 0) (parts:=#[(0,Operand.const (Value.int IntKind.u64 1))]) (by kernel_rfl) (by kernel_rfl) (by kernel_rfl) (by kernel_rfl) (by kernel_rfl) (by kernel_rfl)) (fun b18=>?_)
     refine xr 0 [(0, .v (.bool s)),(2, .v (.int .i64 e)),(10, .p 10 0),(11, .v (.int .i64 0)),(12, .v (.int .i64 ((j + 1:Nat):Int))),eS1 13 A11 l11 c11,eS1 48 A11 l11 c11,eS1 49 (some ⟨b18,0,none⟩) 1 1] [(10,79,[.v (.bool false), .v (.slice none 0 0), .v (.int .i64 0)])] ?_
     refine xqc 126 [.slice A11 l11 c11, .slice (some ⟨b18,0,none⟩) 1 1] 50 Za3 _ (fun w S R=>(Zin R.1.1.1.1.2 (ZiT R.2) hw2 wl_1).mono (fun _ _=>Za5)) (fun xx=>?_)
     obtain ⟨A19,l19,c19⟩:=xx
     refine xq 1 [eS1 13 A19 l19 c19] [] ?_
     refine xe (Zaa (Zac (Zab (xq 5 [(51, .v (.bool s)),eS1 52 A19 l19 c19,(55, .v (.int .i64 (IntKind.i64.wrap (e + ((j + 1:Nat):Int)))))] [] ?_))))
     rw [show IntKind.i64.wrap (e + ((j + 1:Nat):Int))=e + ((j + 1:Nat):Int) from by rw [IntKind.wrap_i64]; omega]
     obtain ⟨r20,hr20⟩:∃ r,ZbW s (n / 2 ^ (j + 1) + 1) ((e + ((j + 1:Nat):Int)))=r:=⟨_,rfl⟩
     refine xqc 118 [.bool s, .slice A19 l19 c19, .int .i64 (e + ((j + 1:Nat):Int))] 56 (shNb r20) _ (fun w S R=>((show Calls _ _ _ _ (ZcS w r20) from by rw [← hr20]; exact Zep s _ _ _ _ _ _ R.1.1.1.1.1.1.1.1.1 R.2 hw3 (by omega) (by omega))).mono (fun _ _=>ZdB)) (fun xx=>?_)
     obtain ⟨A20,l20,c20⟩:=xx
     refine xq 4 [(11, .v (.int .i64 r20.err))] [(10,79,[.v (.bool r20.s), .v (.slice A20 l20 c20), .v (.int .i64 r20.e)])] ?_
     refine xe (Zaa (Zai ?_))
     refine Zaf (v:=.tuple #[.agg #[.bool r20.s, .slice A20 l20 c20, .int .i64 r20.e], .int .i64 r20.err]) (by kernel_rfl) (fun w' S R=>?_)
     rw [Ziq hj k1 (Or.inr (Or.inl k2)) h0,hr20]
     exact ⟨(A20,l20,c20),rfl,R.2,S⟩
    ·rw [hb17]
     have k2:=of_decide_eq_false (hb2.trans hb17)
     rw [Nat.pow_zero,Nat.div_one] at k2
     refine xq 1 [(44, .v (.func (.func 143) #[] #[.pointer (some ⟨Q,0,none⟩)]))] [] ?_
     refine xqc 143 [.pointer (some ⟨Q,0,none⟩)] 45 (fun _:Unit=>.bool b3) _ (fun w S R=>((show Calls _ _ _ _ (RetV w (.bool b3)) from by rw [← hb3]; exact Zrb Q A2 l2 c2 _ R.1.1.1.1.1.2)).mono (fun _ _ h=>Zad h rfl)) (fun xx=>?_)
     refine xq 2 [(47, .v (.bool b3))] [] ?_
     refine xe (Zaa ?_)
     refine ZaA (b3) (by kernel_rfl) (fun hb21=>?_) (fun hb21=>?_)
     ·have k3:=hb3.trans hb21
      refine Zab (xq 1 [eS1 48 A11 l11 c11] [] ?_)
      refine Zd2 (d:=49) (fun zb:Nat=>.slice (some ⟨zb,0,none⟩) 1 1) (fun zb zw=>Blk 94 zw zb #[.int .u64 1]) (by kernel_rfl) (by kernel_rfl) (by kernel_rfl) (by kernel_rfl) (by kernel_rfl) (by kernel_rfl) (fun w S R=>Zcd (t:=77) (e:=94) (n:=1) (sz:=1) (z:=.int .u64 0) (parts:=#[(0,Operand.const (Value.int IntKind.u64 1))]) (by kernel_rfl) (by kernel_rfl) (by kernel_rfl) (by kernel_rfl) (by kernel_rfl) (by kernel_rfl)) (fun b22=>?_)
      refine xr 0 [(0, .v (.bool s)),(2, .v (.int .i64 e)),(10, .p 10 0),(11, .v (.int .i64 0)),(12, .v (.int .i64 ((j + 1:Nat):Int))),eS1 13 A11 l11 c11,eS1 48 A11 l11 c11,eS1 49 (some ⟨b22,0,none⟩) 1 1] [(10,79,[.v (.bool false), .v (.slice none 0 0), .v (.int .i64 0)])] ?_
      refine xqc 126 [.slice A11 l11 c11, .slice (some ⟨b22,0,none⟩) 1 1] 50 Za3 _ (fun w S R=>(Zin R.1.1.1.1.1.2 (ZiT R.2) hw2 wl_1).mono (fun _ _=>Za5)) (fun xx=>?_)
      obtain ⟨A23,l23,c23⟩:=xx
      refine xq 1 [eS1 13 A23 l23 c23] [] ?_
      refine xe (Zaa (Zac (Zab (xq 5 [(51, .v (.bool s)),eS1 52 A23 l23 c23,(55, .v (.int .i64 (IntKind.i64.wrap (e + ((j + 1:Nat):Int)))))] [] ?_))))
      rw [show IntKind.i64.wrap (e + ((j + 1:Nat):Int))=e + ((j + 1:Nat):Int) from by rw [IntKind.wrap_i64]; omega]
      obtain ⟨r24,hr24⟩:∃ r,ZbW s (n / 2 ^ (j + 1) + 1) ((e + ((j + 1:Nat):Int)))=r:=⟨_,rfl⟩
      refine xqc 118 [.bool s, .slice A23 l23 c23, .int .i64 (e + ((j + 1:Nat):Int))] 56 (shNb r24) _ (fun w S R=>((show Calls _ _ _ _ (ZcS w r24) from by rw [← hr24]; exact Zep s _ _ _ _ _ _ R.1.1.1.1.1.1.1.1.1.1 R.2 hw3 (by omega) (by omega))).mono (fun _ _=>ZdB)) (fun xx=>?_)
      obtain ⟨A24,l24,c24⟩:=xx
      refine xq 4 [(11, .v (.int .i64 r24.err))] [(10,79,[.v (.bool r24.s), .v (.slice A24 l24 c24), .v (.int .i64 r24.e)])] ?_
      refine xe (Zaa (Zai ?_))
      refine Zaf (v:=.tuple #[.agg #[.bool r24.s, .slice A24 l24 c24, .int .i64 r24.e], .int .i64 r24.err]) (by kernel_rfl) (fun w' S R=>?_)
      rw [Ziq hj k1 (Or.inr (Or.inr k3)) h0,hr24]
      exact ⟨(A24,l24,c24),rfl,R.2,S⟩
     ·have k3:=hb3.trans hb21
      refine Zaq (Zaa (Zac (Zab (xq 5 [(51, .v (.bool s)),eS1 52 A11 l11 c11,(55, .v (.int .i64 (IntKind.i64.wrap (e + ((j + 1:Nat):Int)))))] [] ?_))))
      rw [show IntKind.i64.wrap (e + ((j + 1:Nat):Int))=e + ((j + 1:Nat):Int) from by rw [IntKind.wrap_i64]; omega]
      obtain ⟨r25,hr25⟩:∃ r,ZbW s (n / 2 ^ (j + 1)) ((e + ((j + 1:Nat):Int)))=r:=⟨_,rfl⟩
      refine xqc 118 [.bool s, .slice A11 l11 c11, .int .i64 (e + ((j + 1:Nat):Int))] 56 (shNb r25) _ (fun w S R=>((show Calls _ _ _ _ (ZcS w r25) from by rw [← hr25]; exact Zep s _ _ _ _ _ _ R.1.1.1.1.1.1.1.1 R.1.1.1.1.2 hw2 (by omega) (by omega))).mono (fun _ _=>ZdB)) (fun xx=>?_)
      obtain ⟨A25,l25,c25⟩:=xx
      refine xq 4 [(11, .v (.int .i64 r25.err))] [(10,79,[.v (.bool r25.s), .v (.slice A25 l25 c25), .v (.int .i64 r25.e)])] ?_
      refine xe (Zaa (Zai ?_))
      refine Zaf (v:=.tuple #[.agg #[.bool r25.s, .slice A25 l25 c25, .int .i64 r25.e], .int .i64 r25.err]) (by kernel_rfl) (fun w' S R=>?_)
      rw [Zjm hj h0 (fun h=>by rcases h.2 with h | h | h; exact k4 h; exact k2 h; rw [k3] at h; cases h),hr25]
      exact ⟨(A25,l25,c25),rfl,R.2,S⟩
  ·rw [hb12]
   have k1:=of_decide_eq_false (hb1.trans hb12)
   refine xq 14 [(47, .v (.bool false))] [] ?_
   refine xe (Zaa (xb (Zaq (Zaa (Zac (Zab (xq 5 [(51, .v (.bool s)),eS1 52 A11 l11 c11,(55, .v (.int .i64 (IntKind.i64.wrap (e + ((j + 1:Nat):Int)))))] [] ?_)))))))
   rw [show IntKind.i64.wrap (e + ((j + 1:Nat):Int))=e + ((j + 1:Nat):Int) from by rw [IntKind.wrap_i64]; omega]
   obtain ⟨r26,hr26⟩:∃ r,ZbW s (n / 2 ^ (j + 1)) ((e + ((j + 1:Nat):Int)))=r:=⟨_,rfl⟩
   refine xqc 118 [.bool s, .slice A11 l11 c11, .int .i64 (e + ((j + 1:Nat):Int))] 56 (shNb r26) _ (fun w S R=>((show Calls _ _ _ _ (ZcS w r26) from by rw [← hr26]; exact Zep s _ _ _ _ _ _ R.1.1.1.1.1 R.1.2 hw2 (by omega) (by omega))).mono (fun _ _=>ZdB)) (fun xx=>?_)
   obtain ⟨A26,l26,c26⟩:=xx
   refine xq 4 [(11, .v (.int .i64 r26.err))] [(10,79,[.v (.bool r26.s), .v (.slice A26 l26 c26), .v (.int .i64 r26.e)])] ?_
   refine xe (Zaa (Zai ?_))
   refine Zaf (v:=.tuple #[.agg #[.bool r26.s, .slice A26 l26 c26, .int .i64 r26.e], .int .i64 r26.err]) (by kernel_rfl) (fun w' S R=>?_)
   rw [Zjm hj h0 (fun h=>k1 h.1),hr26]
   exact ⟨(A26,l26,c26),rfl,R.2,S⟩
end Go.Proofs.YtklpdkpcocnglaaGreatDoor

namespace Go.Proofs.YtklpdkpcocnglaaGreatDoor
open Go.RowKit
theorem Zrc {u v:Value} {m n:Nat} {w:World} (hu:Zak w u m) (hv:Zak w v n) (hm:wl m≤4294967295) (hn:wl n≤4294967296) (h0:0 < n):Calls Tryz.prog 142 #[u,v] w (Zf1 w (m / n) (m % n)):=by
 have hu':=hu
 have hv':=hv
 obtain ⟨A,xs,c,rfl,hc,h1,h2,h3,rfl⟩:=hu
 obtain ⟨A2,ys,c2,rfl,hc2,k1,k2,k3,rfl⟩:=hv
 rw [← ZaH h2 h3] at hm
 rw [← ZaH k2 k3] at hn
 exact Zq9 A A2 xs ys c c2 w h1 k1 hm hn h2 k2 hu' hv' h3 k3 h0
theorem Zsi {s:Bool} {A:Option Addr} {l c:Nat} {e:Int}:ZoP #[.bool s, .slice A l c, .int .i64 e]:=by
 intro i k; rcases i with _ | _ | _ | i<;>simp
theorem Blk.cell3n {t:TypeId} {w:World} {g:Nat} {x y z:Value} (h:Blk t w g #[x,y,z]):w.cell? ⟨g,0,none⟩=some x∧w.cell? ⟨g,1,none⟩=some y∧w.cell? ⟨g,2,none⟩=some z∧w.frozen? ⟨g,0,none⟩=false∧w.frozen? ⟨g,1,none⟩=false∧w.frozen? ⟨g,2,none⟩=false :=
 ⟨h.cell 0,h.cell 1,h.cell 2,h.frozen 0,h.frozen 1,h.frozen 2⟩
set_option maxHeartbeats 1000000 in
theorem Zt6 {fn:Func} {t t2:Tmp} {tmps:Array Value} {w wb w2:World} {r:Nat} {x:FR} {A A0:Option Addr} {l c l0 c0:Nat} {s0:Bool} {e0:Int}
 (hres:fn.results=#[.cell t 79, .tmp t2]) (ht:tmps[t]? = some (.pointer (some ⟨r,0,none⟩))) (ht2:tmps[t2]? = some (.int .i64 x.err)) (hr:w.heap.size≤r)
 (HE:Ext w wb) (HB:Blk 79 wb r #[.bool s0, .slice A0 l0 c0, .int .i64 e0]) (hF:Ext wb w2) (hN:Zak w2 (.slice A l c) x.m) :
 bodyPost Tryz.prog fn (ZcS w x) .ret ⟨tmps,[]⟩ (((w2.setCell ⟨r,0,none⟩ (.bool x.s)).setCell ⟨r,1,none⟩ (.slice A l c)).setCell ⟨r,2,none⟩ (.int .i64 x.e)):=by
 have hB0:=HB.ext hF
 have hB2:Blk 79 (((w2.setCell ⟨r,0,none⟩ (.bool x.s)).setCell ⟨r,1,none⟩ (.slice A l c)).setCell ⟨r,2,none⟩ (.int .i64 x.e)) r #[.bool x.s, .slice A l c, .int .i64 x.e]:=((hB0.set_ 0 _).set_ 1 _).set_ 2 _
 obtain ⟨h0,h1,h2,_⟩:=hB2.cell3n
 have hS:Fr (fun i=>i=r) w2 (((w2.setCell ⟨r,0,none⟩ (.bool x.s)).setCell ⟨r,1,none⟩ (.slice A l c)).setCell ⟨r,2,none⟩ (.int .i64 x.e)):=(((show Fr (fun i=>i=r) w2 w2 from Fr.refl _ _).setCell (p:=⟨r,0,none⟩) (Or.inl rfl) _).setCell (p:=⟨r,1,none⟩) (Or.inl rfl) _).setCell (p:=⟨r,2,none⟩) (Or.inl rfl) _
 have hN2:=hN.other hB0 Zsi hS
 have hE2:Ext w (((w2.setCell ⟨r,0,none⟩ (.bool x.s)).setCell ⟨r,1,none⟩ (.slice A l c)).setCell ⟨r,2,none⟩ (.int .i64 x.e)):=(((HE.trans hF).setCell (p:=⟨r,0,none⟩) (Or.inr hr) _).setCell (p:=⟨r,1,none⟩) (Or.inr hr) _).setCell (p:=⟨r,2,none⟩) (Or.inr hr) _
 generalize ((w2.setCell ⟨r,0,none⟩ (.bool x.s)).setCell ⟨r,1,none⟩ (.slice A l c)).setCell ⟨r,2,none⟩ (.int .i64 x.e)=W at *
 exact bodyPost_ret (v:=shNb x (A,l,c)) (by simp [results,hres,ht,ht2,go_sem,h0,h1,h2,shNb]) rfl ⟨(A,l,c),rfl,hN2,hE2⟩
theorem ZgY {a b:Nat} (h:a < 64 * b):wl (2 ^ a)≤b:=Zb1.2 (by rw [show W64=2 ^ 64 by rw [Zal],← Nat.pow_mul]; exact Nat.pow_lt_pow_right (by decide) h)
set_option maxHeartbeats 4000000 in
theorem Znr (s:Bool) (A:Option Addr) (l c n:Nat) (B:Option Addr) (m d k:Nat) (e:Int) (bits:Nat) (w:World) (hg:Glob w) (hN:Zak w (.slice A l c) n) (hK:Zak w (.slice B m d) k) (hwn:wl n≤1000000) (hwk:wl k≤1000000) (hk0:0 < k)
 (he1 : -288230376151711744≤e) (he2:e≤288230376151711744) (hb0:0 < bits) (hb:bits≤1000000) :
 Calls Tryz.prog 99 #[.bool s, .slice A l c, .slice B m d, .int .i64 e, .int .i64 ((bits:Nat):Int)] w (ZcS w (Zek s n k e bits)):=by
 have hbn:=Ze0 n
 have hbk:=Ze0 k
 obtain ⟨a1,ha1⟩:∃ a,a=(rk0 n k bits - 1).toNat:=⟨_,rfl⟩
 obtain ⟨a2,ha2⟩:∃ a,a=(-(rk0 n k bits - 1)).toNat:=⟨_,rfl⟩
 obtain ⟨sh,hsh⟩:∃ x:Int,x=(bits:Int) + 1 + (blen k:Nat) - (blen n:Nat):=⟨_,rfl⟩
 have hrk:rk0 n k bits - 1 = -sh:=by unfold rk0; omega
 rw [hrk] at ha1 ha2
 rw [Int.neg_neg] at ha2
 have hs1 : -100000000≤sh:=by omega
 have hs2:sh≤100000000:=by omega
 have hfa:fa n (rk0 n k bits - 1)=n * 2 ^ a2:=by unfold fa; rw [hrk,Int.neg_neg,← ha2]
 have hfb:fb k (rk0 n k bits - 1)=k * 2 ^ a1:=by unfold fb; rw [hrk,← ha1]
 have hwa:wl (n * 2 ^ a2)≤4000000:=by
  refine Nat.le_trans (ZhT _ _) ?_
  have:wl (2 ^ a2)≤2000001:=ZgY (by omega)
  omega
 have hwb:wl (k * 2 ^ a1)≤4000000:=by
  refine Nat.le_trans (ZhT _ _) ?_
  have:wl (2 ^ a1)≤2000001:=ZgY (by omega)
  omega
 have hm1:(if (0:Int) > sh then (0:Int) else sh)=(a2:Int):=by split<;>omega
 have hm2:(if (0:Int) > -sh then (0:Int) else -sh)=(a1:Int):=by split<;>omega
 have HG:=zh hg
 have HN:=zh hN
 have HK:=zh hK
 clear hg hN hK
 obtain ⟨x,hx⟩:∃ x,Zek s n k e bits=x:=⟨_,rfl⟩
 rw [hx]
 have HX:=zh hx
 clear hx
 go_enter Tryz.func99,Tryz.ntmps99
 go_wp2_with fail
 refine (ZcY (HK.out.ext ((Fr.refl _ _).alloc _)) (by omega)).mono ?_
 rintro e1 w1 ⟨rfl,hE1⟩
 have HE1:Hid (Ext w w1):=((Fr.refl _ _).alloc _).trans hE1
 have HB1:Hid (Blk 79 w1 w.heap.size #[.bool false, .slice none 0 0, .int .i64 0]):=(show Blk 79 (w.alloc (.cells #[.bool false, .slice none 0 0, .int .i64 0] 79)) w.heap.size #[.bool false, .slice none 0 0, .int .i64 0] from heap_alloc_new w _).ext hE1
 clear hE1
 go_wp2_with fail
 refine (ZcY (HN.out.ext HE1.out) (by omega)).mono ?_
 rintro e1 w2 ⟨rfl,hE2⟩
 have HE2:=zh (HE1.out.trans hE2)
 have HB2:=zh (HB1.out.ext hE2)
 clear hE2
 go_wp2_with fail
 rw [show max ((bits:Int) + 1 + (blen k:Nat) - (blen n:Nat)) 0=((a2:Nat):Int) from by omega]
 refine (Zc7 a2 (HN.out.ext HE2.out) (by omega) (by omega)).mono ?_
 rintro e1 w3 ⟨v3,rfl,hN3,hE3⟩
 obtain ⟨A3,l3,c3,rfl⟩:=hN3.slice
 have HE3:=zh (HE2.out.trans hE3)
 have HB3:=zh (HB2.out.ext hE3)
 have HN3:=zh hN3
 clear hN3 hE3
 go_wp2_with fail
 rw [show max (-((bits:Int) + 1 + (blen k:Nat) - (blen n:Nat))) 0=((a1:Nat):Int) from by omega]
 refine (Zc7 a1 (HK.out.ext HE3.out) (by omega) (by omega)).mono ?_
 rintro e1 w4 ⟨v4,rfl,hN4,hE4⟩
 obtain ⟨A4,l4,c4,rfl⟩:=hN4.slice
 have HE4:=zh (HE3.out.trans hE4)
 have HB4:=zh (HB3.out.ext hE4)
 have HN3':=zh (HN3.out.ext hE4)
 have HN4:=zh hN4
 clear hN4 hE4
 go_wp2_with fail
 refine (Zrc HN3'.out HN4.out (by omega) (by omega) (Nat.mul_pos hk0 (p2 a1))).mono ?_
 rintro e1 w5 ⟨v5,v6,rfl,hN5,hN6,hE5⟩
 obtain ⟨A5,l5,c5,rfl⟩:=hN5.slice
 obtain ⟨A6,l6,c6,rfl⟩:=hN6.slice
 have HE5:=zh (HE4.out.trans hE5)
 have HB5:=zh (HB4.out.ext hE5)
 have HN5:=zh hN5
 have HN6:=zh hN6
 clear hN5 hN6 hE5
 go_wp2_with fail
 have hbox:Zhp (w5.alloc (.cells #[.slice A6 l6 c6] 77)) w5.heap.size (.slice A6 l6 c6):=⟨by simp,by rw [Lib.cell_of_heap (heap_alloc_new w5 _)]; rfl⟩
 have hwq:wl (n * 2 ^ a2 / (k * 2 ^ a1))≤4294967296:=Nat.le_trans (Zcl (Nat.div_le_self _ _)) (by omega)
 refine (ZpP s A5 l5 c5 _ _ bits _ A6 l6 c6 _ (HG.out.ext (HE5.out.alloc _)) (HN5.out.ext ((Fr.refl _ _).alloc _)) hwq (by omega) (by omega) (by omega) hbox).mono ?_
 rintro e1 w6 ⟨⟨A7,l7,c7⟩,rfl,hN7,hE7⟩
 have hr:Zdq s (n * 2 ^ a2 / (k * 2 ^ a1)) (e - ((bits:Int) + 1 + (blen k:Nat) - (blen n:Nat))) bits (decide (0 < l6))=x:=by
  rw [← HX.out,← hsh]
  rcases Nat.eq_zero_or_pos n with rfl | hn
  ·rw [Nat.zero_mul,Nat.zero_div,Zol,ZpM]
  ·have h:=Zom s (n:=n) (d:=k) e (bits:=bits) hn hk0 hb0
   have hq:fq n k (rk0 n k bits - 1)=n * 2 ^ a2 / (k * 2 ^ a1):=by unfold fq; rw [hfa,hfb]
   rw [hq,hfa,hfb,hrk] at h
   rw [← h,show e + -sh=e - sh by omega]
   congr 1
   have hl6:=HN6.out.len0
   exact decide_eq_decide.2 (by rw [hl6]; have:=@Zdx (n * 2 ^ a2 % (k * 2 ^ a1)); omega)
 rw [hr] at hN7
 rw [hr]
 clear hr
 have HN7:=zh hN7
 have HE6:Hid (Ext w w6):=(HE5.out.alloc _).trans hE7
 have HB6:=zh ((HB5.out.ext ((Fr.refl _ _).alloc _)).ext hE7)
 obtain ⟨z0,z1,z2,z3,z4,z5⟩:=HB6.out.cell3n
 clear hN7 hE7 hbox
 simp only [shNb]
 go_wp2
 exact Zt6 rfl rfl rfl (Nat.le_refl _) HE6.out HB6.out (Fr.refl _ _) HN7.out
end Go.Proofs.YtklpdkpcocnglaaGreatDoor

namespace Go.Proofs.YtklpdkpcocnglaaGreatDoor
open Go.RowKit
theorem ZfG {a b:Int}:(if b < a then b else a)=min a b:=by omega
def ZbX (s:Bool) (m:Nat) (e k:Int):FR:=if m=0 then ⟨s,m,e,0⟩ else if k < -2097152∨k > 2097152 then ⟨false,0,0,2⟩ else ZbW s m (e + k)
theorem ZmG {n a:Nat} (hn:wl n≤1000000) (ha:a≤100000000):wl (n * 2 ^ a)≤4000000:=by
 have:=ZhT n (2 ^ a)
 have:wl (2 ^ a)≤2000001:=ZgY (by omega)
 omega
section
variable {s t:Bool} {a b bits:Nat} {low:Int}
end
theorem Zdc (s:Bool) (A:Option Addr) (l c x:Nat) (e:Int) (w:World) (hX:Zak w (.slice A l c) x) (hwx:wl x≤4294967296) (he1 : -1152921504606846976≤e) (he2:e≤1152921504606846976) :
 Calls Tryz.prog 121 #[.agg #[.bool s, .slice A l c, .int .i64 e]] w (RetV w (.int .i64 (((blen x:Nat):Int) + e))):=by
 refine Zay (Φ:=fun w=>Zak w (.slice A l c) (x)) Tryz.func121 rfl (by kernel_rfl) (fun w' hf=>hX.ext hf) ?_
 refine Zac ?_
 have hbw:=Zra hwx
 refine Zab (xq 2 [(1, .p 1 0),(2, .v (.int .i64 0))] [(1,79,[.v (.bool s), .v (.slice A l c), .v (.int .i64 e)])] ?_)
 refine xe (Zaa (Zac ?_))
 refine ZaD 7 (by kernel_rfl) (by kernel_rfl) Zaj ?_
 refine xqf 2 [eS1 4 A l c] [(1,79,[.v (.bool s), .v (.slice A l c), .v (.int .i64 e)])] ?_
 refine xqd 65 [.slice A l c] 5 (fun _:Unit=>.int .i64 ((blen x:Nat):Int)) _ (fun w R Q=>(ZcY Q hwx).mono (fun _ _ h=>Zad h rfl)) (fun xx=>?_)
 refine xqf 3 [(8, .v (.int .i64 (IntKind.i64.wrap (((blen x:Nat):Int) + e))))] [(1,79,[.v (.bool s), .v (.slice A l c), .v (.int .i64 e)])] ?_
 rw [show IntKind.i64.wrap (((blen x:Nat):Int) + e)=((blen x:Nat):Int) + e from by rw [IntKind.wrap_i64]; omega]
 refine xqf 1 [(2, .v (.int .i64 (((blen x:Nat):Int) + e)))] [(1,79,[.v (.bool s), .v (.slice A l c), .v (.int .i64 e)])] ?_
 refine xz (xe (Zaa (Zai ?_)))
 refine Zaf (v:=.int .i64 (((blen x:Nat):Int) + e)) (by kernel_rfl) (fun w' R Q=>?_)
 exact ⟨rfl,R⟩
theorem Zon (s:Bool) (A:Option Addr) (l c x:Nat) (e:Int) (k:Int) (w:World) (hg:Glob w) (hX:Zak w (.slice A l c) x) (hwx:wl x≤100000) (he1 : -1073741824≤e) (he2:e≤1073741824) :
 Calls Tryz.prog 78 #[.agg #[.bool s, .slice A l c, .int .i64 e], .int .i64 k] w (ZcS w (ZbX s x e k)):=by
 refine Zay (Φ:=fun w=>(Glob w∧Zak w (.slice A l c) (x))) Tryz.func78 rfl (by kernel_rfl) (fun w' hf=>⟨hg.ext hf,hX.ext hf⟩) ?_
 refine Zac ?_
 have hln:=hX.len0
 have hzz:=@Zdx x
 refine Zab (xq 3 [(2, .p 2 0),(4, .p 4 0),(5, .v (.int .i64 0))] [(4,79,[.v (.bool false), .v (.slice none 0 0), .v (.int .i64 0)]),(2,79,[.v (.bool s), .v (.slice A l c), .v (.int .i64 e)])] ?_)
 refine xe (Zaa (Zac (Zac (Zab (xq 4 [(9, .v (.bool ((((l:Nat):Int):Int) == 0)))] [] ?_)))))
 refine xe (Zaa ?_)
 refine ZaA (((((l:Nat):Int):Int) == 0)) (by kernel_rfl) (fun hb10=>?_) (fun hb10=>?_)
 ·have hb10':=beq_iff_eq.1 hb10
  have h0:x=0:=by omega
  refine Zac (Zab (xq 3 [(5, .v (.int .i64 0))] [(4,79,[.v (.bool s), .v (.slice A l c), .v (.int .i64 e)])] ?_))
  refine xe (Zaa (Zai (Zah ?_)))
  refine Zaf (v:=.tuple #[.agg #[.bool s, .slice A l c, .int .i64 e], .int .i64 0]) (by kernel_rfl) (fun w' R Q=>?_)
  rw [show ZbX s x e k=⟨s,x,e,0⟩ from if_pos h0]
  exact ⟨(A,l,c),rfl,Q.2,R⟩
 ·have hb10':=ZbP hb10
  have h0:¬ x=0:=by omega
  refine Zaq (Zaa (Zac (Zac (Zab (xq 3 [(13, .v (.bool (decide (k < (-2097152)))))] [] ?_)))))
  rcases bl2 ((decide (k < (-2097152)))) with hb11 | hb11
  ·rw [hb11]
   have hb11':=of_decide_eq_true hb11
   refine xq 3 [(16, .v (.bool true))] [] ?_
   refine xe (Zaa (xa (Zac (Zab (xq 3 [(5, .v (.int .i64 2))] [] ?_)))))
   refine xe (Zaa (Zai (Zah ?_)))
   refine Zaf (v:=.tuple #[.agg #[.bool false, .slice none 0 0, .int .i64 0], .int .i64 2]) (by kernel_rfl) (fun w' R Q=>?_)
   rw [show ZbX s x e k=⟨false,0,0,2⟩ from by unfold ZbX; rw [if_neg h0,if_pos (by omega)]]
   exact ⟨(none,0,0),rfl,Zak.zero _,R⟩
  ·rw [hb11]
   have hb11':=of_decide_eq_false hb11
   refine xq 3 [(16, .v (.bool (decide (k > 2097152))))] [] ?_
   refine xe (Zaa ?_)
   refine ZaA ((decide (k > 2097152))) (by kernel_rfl) (fun hb12=>?_) (fun hb12=>?_)
   ·have hb12':=of_decide_eq_true hb12
    refine Zac (Zab (xq 3 [(5, .v (.int .i64 2))] [] ?_))
    refine xe (Zaa (Zai (Zah ?_)))
    refine Zaf (v:=.tuple #[.agg #[.bool false, .slice none 0 0, .int .i64 0], .int .i64 2]) (by kernel_rfl) (fun w' R Q=>?_)
    rw [show ZbX s x e k=⟨false,0,0,2⟩ from by unfold ZbX; rw [if_neg h0,if_pos (by omega)]]
    exact ⟨(none,0,0),rfl,Zak.zero _,R⟩
   ·have hb12':=of_decide_eq_false hb12
    refine Zaq (Zaa (Zac (Zab (xq 8 [(19, .v (.bool s)),eS1 21 A l c,(25, .v (.int .i64 (IntKind.i64.wrap (e + k))))] [] ?_))))
    rw [show IntKind.i64.wrap (e + k)=e + k from by rw [IntKind.wrap_i64]; omega]
    obtain ⟨r13,hr13⟩:∃ r,ZbW s x ((e + k))=r:=⟨_,rfl⟩
    refine xqc 118 [.bool s, .slice A l c, .int .i64 (e + k)] 26 (shNb r13) _ (fun w R Q=>((show Calls _ _ _ _ (ZcS w r13) from by rw [← hr13]; exact Zep s _ _ _ _ _ _ Q.1 Q.2 (by omega) (by omega) (by omega))).mono (fun _ _=>ZdB)) (fun xx=>?_)
    obtain ⟨A13,l13,c13⟩:=xx
    refine xq 4 [(5, .v (.int .i64 r13.err))] [(4,79,[.v (.bool r13.s), .v (.slice A13 l13 c13), .v (.int .i64 r13.e)])] ?_
    refine xe (Zaa (Zai ?_))
    refine Zaf (v:=.tuple #[.agg #[.bool r13.s, .slice A13 l13 c13, .int .i64 r13.e], .int .i64 r13.err]) (by kernel_rfl) (fun w' R Q=>?_)
    rw [show ZbX s x e k=ZbW s x (e + k) from by unfold ZbX; rw [if_neg h0,if_neg (by omega)],hr13]
    exact ⟨(A13,l13,c13),rfl,Q.2,R⟩
end Go.Proofs.YtklpdkpcocnglaaGreatDoor

namespace Go.Proofs.YtklpdkpcocnglaaGreatDoor
open Go.RowKit
end Go.Proofs.YtklpdkpcocnglaaGreatDoor

namespace Go.Proofs.YtklpdkpcocnglaaGreatDoor
open Go.RowKit
def Zaz (q:Rat):List UInt8:=if q.den=1 then Lib.itoa q.num else Lib.itoa q.num ++ [47] ++ Lib.itoa (q.den:Int)
end Go.Proofs.YtklpdkpcocnglaaGreatDoor

namespace Go.Proofs.YtklpdkpcocnglaaGreatDoor
open Go.RowKit
theorem Znu {x y:Int} (hy:0 < y):(Rat.divInt x y).num=x.tdiv (Int.gcd x y:Int)∧((Rat.divInt x y).den:Int)=y.tdiv (Int.gcd x y:Int):=by
 have hd1:(Int.gcd x y:Int) ∣ x:=Int.gcd_dvd_left _ _
 have hd2:(Int.gcd x y:Int) ∣ y:=Int.gcd_dvd_right _ _
 rw [Rat.num_divInt,Rat.den_divInt,if_neg (by omega),Int.sign_eq_one_of_pos hy,Int.one_mul,Int.gcd_comm y x,Int.tdiv_eq_ediv_of_dvd hd1,Int.tdiv_eq_ediv_of_dvd hd2]
 refine ⟨rfl,?_⟩
 rw [Int.natCast_ediv]
 congr 1
 omega
theorem Zis {x y:Int} (hy:0 < y) (h:((Int.gcd x y:Nat):Int)=1):(Rat.divInt x y).num=x∧((Rat.divInt x y).den:Int)=y:=by
 have:=Znu (x:=x) hy
 rwa [h,Int.tdiv_one,Int.tdiv_one] at this
end Go.Proofs.YtklpdkpcocnglaaGreatDoor

namespace Go.Proofs.YtklpdkpcocnglaaGreatDoor
open Go.RowKit
theorem ZkD {c:UInt8} (h:Zat c=true):UInt8.ofNat (48 + (c.toNat - 48))=c:=by
 have:=ZdS h
 apply UInt8.toNat.inj
 rw [UInt8.toNat_ofNat']
 have:=c.toNat_lt
 omega
theorem ZkE:∀ (k:Nat) (l:List UInt8),l.length=k→l.all Zat=true→l≠[]→l.head? ≠ some 48→Lib.decDigits (Zae l)=l:=by
 intro k
 induction k with
 | zero=>intro l hl _ h0; exact absurd (List.length_eq_zero_iff.1 hl) h0
 | succ k ih =>
   intro l hl hd h0 h48
   obtain ⟨l',c,rfl⟩:∃ l' c,l=l' ++ [c]:=by
    rcases List.eq_nil_or_concat l with h | ⟨l',c,h⟩
    ·exact absurd h h0
    ·exact ⟨l',c,by simpa using h⟩
   rw [List.all_append,Bool.and_eq_true] at hd
   have hc:Zat c=true:=by simpa using hd.2
   have hcb:=ZdS hc
   rw [Zdy]
   by_cases hl0:l'=[]
   ·subst hl0
    have e:Zae []=0:=rfl
    rw [e,Nat.mul_zero,Nat.zero_add,ZdC (by omega),ZkD hc]; rfl
   ·have hh:l'.head? ≠ some 48:=by
     rw [List.head?_append] at h48
     cases hx:l'.head? with
     | none=>exact absurd (List.head?_eq_none_iff.1 hx) hl0
     | some x=>rw [hx] at h48; exact h48
    have h1:=ih l' (by simp at hl; exact hl) hd.1 hl0 hh
    have hp:=(Zhh hd.1 hl0 hh).1
    rw [Zhq (by omega),show (10 * Zae l' + (c.toNat - 48)) / 10=Zae l' by omega,show (10 * Zae l' + (c.toNat - 48)) % 10=c.toNat - 48 by omega,h1,ZkD hc]
theorem Zoq (n:Nat):(Lib.decDigits n).head? ≠ some 45:=by
 intro e
 cases h:Lib.decDigits n with
 | nil=>exact Zbb n h
 | cons x xs =>
   rw [h] at e
   simp only [List.head?_cons,Option.some.injEq] at e
   subst e
   have:=ZbI n
   rw [h] at this
   simp only [List.all_cons,Bool.and_eq_true] at this
   exact absurd this.1 (by decide)
theorem Ze1 {p:UInt8→Bool} {l r:List UInt8} {c:UInt8} (h:l.all p=true) (hc:p c=false):(l ++ c :: r).takeWhile p=l∧(l ++ c :: r).dropWhile p=c :: r:=by
 induction l with
 | nil=>simp [hc]
 | cons x xs ih =>
   simp only [List.all_cons,Bool.and_eq_true] at h
   obtain ⟨h1,h2⟩:=ih h.2
   rw [List.cons_append,List.takeWhile_cons,List.dropWhile_cons,h.1]
   simp [h1,h2]
theorem Zff (z:Int) (r:List UInt8):Zap (Lib.itoa z ++ r)=(decide (z < 0),Lib.decDigits z.natAbs ++ r):=by
 by_cases h:z < 0
 ·rw [Zhr h,decide_eq_true h]
  unfold Zap
  rw [if_pos (by simp)]
  rfl
 ·rw [ZiU (by omega),decide_eq_false h]
  unfold Zap
  rw [if_neg]
  intro e
  rw [List.head?_append] at e
  cases hx:(Lib.decDigits z.natAbs).head? with
  | none=>exact absurd (List.head?_eq_none_iff.1 hx) (Zbb _)
  | some c =>
    rw [hx] at e
    exact Zoq _ (hx.trans e)
theorem ZkF (z:Int):sg (decide (z < 0)) z.natAbs=z:=by
 unfold sg
 split
 ·rename_i h; have:=of_decide_eq_true h; omega
 ·rename_i h; have:¬ z < 0:=fun k=>h (decide_eq_true k); omega
theorem ZkG {q:Rat} (h:q.den=1):((q.num:Int):Rat)=q:=by
 apply Rat.ext<;>simp [h]
theorem Zt7 {q:Rat} (h:q.den≠1):q.num≠0:=by
 intro e
 have:=q.reduced
 rw [e] at this
 simp [Nat.Coprime] at this
 exact h this
theorem ZbN (n:Nat):Lib.itoa (n:Int)=Lib.decDigits n:=by
 rw [ZiU (by omega),Int.natAbs_natCast]
theorem ZpV {q:Rat} (h:q.den≠1):Za2 (Zaz q)=(decide (q.num < 0),Lib.decDigits q.num.natAbs,Lib.decDigits q.den,true):=by
 have hn:=Zt7 h
 have hd:=q.den_nz
 unfold Zaz
 rw [if_neg h,ZbN,List.append_assoc]
 unfold Za2
 rw [Zff]
 simp only []
 obtain ⟨h1,h2⟩:=Ze1 (p:=Zat) (r:=Lib.decDigits q.den) (c:=47) (ZbI q.num.natAbs) (by decide)
 have e:Lib.decDigits q.num.natAbs ++ ([47] ++ Lib.decDigits q.den)=Lib.decDigits q.num.natAbs ++ 47 :: Lib.decDigits q.den:=rfl
 rw [e,h1,h2]
 have hh:=Zeq q.num.natAbs (by omega)
 rw [if_neg (fun e=>hh (by rw [e]; rfl)),if_neg (fun e=>e.elim (Zbb _) hh),if_neg (by simp),if_neg (by simp)]
 simp only [List.tail_cons]
 obtain ⟨h3,h4⟩:=Zdr (ZbI q.den)
 rw [h3,h4]
 have hh2:=Zeq q.den (by omega)
 have h49:Lib.decDigits q.den≠[49]:=fun e=>by
  have:=Zcq q.den
  rw [e] at this
  exact h (by rw [← this]; rfl)
 have hne:=Zbb q.den
 simp [hh2,h49,hne]
theorem ZlY (q:Rat):ZaX (Zaz q)=some q:=by
 by_cases h:q.den=1
 ·unfold Zaz
  rw [if_pos h,ZlX,ZkG h]
 ·unfold ZaX
  rw [ZpV h]
  simp only []
  rw [if_neg (Zbb _),Zcq,Zcq,if_pos q.reduced,ZkF,Rat.mkRat_self]
theorem ZlZ {neg:Bool} {a:Nat} (h:a=0→neg=false):(sg neg a < 0 ↔ neg=true)∧(sg neg a).natAbs=a:=by
 cases neg with
 | false=>simp [sg]
 | true =>
   have:a≠0:=fun e=>by cases h e
   simp [sg]; omega
theorem Ze2 {neg:Bool} {a:Nat} (h:a=0→neg=false):Lib.itoa (sg neg a)=(if neg then [45] else []) ++ Lib.decDigits a:=by
 obtain ⟨h1,h2⟩:=ZlZ h
 cases neg with
 | false=>rw [ZiU (by simp [sg]),h2]; rfl
 | true=>rw [Zhr (h1.2 rfl),h2]; rfl
theorem Zjo {l r:List UInt8} {neg:Bool} (h:Zap l=(neg,r)):l=(if neg then [45] else []) ++ r:=by
 unfold Zap at h
 split at h
 ·rename_i hh
  injection h with h1 h2
  subst h1 h2
  cases l with
  | nil=>cases hh
  | cons x xs=>simp at hh; subst hh; rfl
 ·injection h with h1 h2
  subst h1 h2
  rfl
theorem Zc8 {l:List UInt8} {q:Rat} (h:ZaX l=some q):Zaz q=l:=by
 unfold ZaX at h
 cases hs:Za2 l with
 | mk neg r =>
   obtain ⟨num,den,ok⟩:=r
   rw [hs] at h
   cases ok with
   | false=>cases h
   | true =>
     simp only [] at h
     have hdg:=Zej hs
     obtain ⟨s1,s2⟩:=Zkv hs
     cases hu:Zap l with
     | mk neg' t =>
       have hl:=Zjo hu
       have htw:t.takeWhile Zat ++ t.dropWhile Zat=t:=List.takeWhile_append_dropWhile
       unfold Za2 at hs
       rw [hu] at hs
       simp only [] at hs
       split at hs
       ·-- zero
        rename_i h48
        injection hs with e1 hs; injection hs with e2 hs; injection hs with e3 e4
        subst e1 e2 e3
        simp at e4
        rw [if_pos rfl,h48] at h
        have hv:Zae [48]=0:=rfl
        rw [hv] at h
        injection h with h
        rw [e4.1] at h hl
        rw [← h,hl,← htw,h48,e4.2]
        simp only [sg]
        unfold Zaz
        rw [if_pos (by simp)]
        have:Lib.itoa ((0:Nat):Int)=[48]:=by rw [ZbN,ZdC (by omega)]; rfl
        simpa using this
       split at hs
       ·injection hs with _ hs; injection hs with _ hs; injection hs with _ hs; cases hs
       rename_i hn
       have hn1:t.takeWhile Zat≠[]:=fun e=>hn (Or.inl e)
       have hn2:(t.takeWhile Zat).head? ≠ some 48:=fun e=>hn (Or.inr e)
       have hdn:=ZkE _ _ rfl (Zb4 (p:=Zat) t) hn1 hn2
       split at hs
       ·rename_i hr
        injection hs with e1 hs; injection hs with e2 hs; injection hs with e3 _
        subst e1 e2 e3
        rw [if_pos rfl] at h
        injection h with h
        rw [← h]
        unfold Zaz
        rw [if_pos (by simp)]
        have hnum:(((sg neg' (Zae (t.takeWhile Zat)):Int)):Rat).num=sg neg' (Zae (t.takeWhile Zat)):=rfl
        rw [hnum,Ze2 (fun e=>(s2 e).1),hdn,hl]
        rw [hr,List.append_nil] at htw
        rw [htw]
       split at hs
       ·injection hs with _ hs; injection hs with _ hs; injection hs with _ hs; cases hs
       ·rename_i hr h47
        injection hs with e1 hs; injection hs with e2 hs; injection hs with e3 e4
        subst e1 e2
        rw [e3] at e4
        simp at e4
        obtain ⟨⟨⟨k1,k2⟩,k3⟩,k4⟩:=e4
        rw [if_neg k2] at h
        split at h
        ·rename_i hg
         injection h with h
         have h2:=s1 k2
         have hq:q.num=sg neg' (Zae (t.takeWhile Zat))∧q.den=Zae den:=by
          have:=Zis (x:=sg neg' (Zae (t.takeWhile Zat))) (y:=(Zae den:Int)) (by omega) (by
           unfold Int.gcd
           rw [(ZlZ (fun e=>(s2 e).1)).2,Int.natAbs_natCast,hg]; rfl)
          rw [Rat.divInt_ofNat,h] at this
          exact ⟨this.1,by have:=this.2; omega⟩
         unfold Zaz
         rw [if_neg (by rw [hq.2]; omega),hq.1,hq.2,Ze2 (fun e=>(s2 e).1),hdn,ZbN,ZkE _ _ rfl hdg.2.1 k2 k3,hl]
         have htail:t.dropWhile Zat=47 :: den:=by
          cases hx:t.dropWhile Zat with
          | nil=>exact absurd hx hr
          | cons c r =>
            rw [hx] at h47 k1 e3
            simp at h47 k1 e3
            subst h47
            have:=List.takeWhile_append_dropWhile (p:=Zat) (l:=r)
            rw [e3,k1,List.append_nil] at this
            rw [this]
         rw [htail] at htw
         rw [List.append_assoc,List.append_assoc]
         congr 1
        ·cases h
theorem Zsm {l:List UInt8} {q:Rat}:ZaX l=some q ↔ Zaz q=l :=
 ⟨Zc8,fun h=>by rw [← h]; exact ZlY q⟩
end Go.Proofs.YtklpdkpcocnglaaGreatDoor

namespace Go.Proofs.YtklpdkpcocnglaaGreatDoor
open Go.RowKit
def fvB (s:List UInt8) (e:Int):Bool :=
 if s=[48] then decide (e=0)
 else decide ((Zap s).2≠[]∧(Zap s).2.head? ≠ some 48∧okE e∧(Zap s).2.all Zat=true∧Zae (Zap s).2 % 2=1)
def flM (s:List UInt8):Int:=sg (Zap s).1 (Zae (Zap s).2)
theorem ZdW:Lib.itoa 0=[48]:=by
 rw [show (0:Int)=((0:Nat):Int) from rfl,ZbN,ZdC (by omega)]; rfl
theorem ZjJ:flM [48]=0:=by decide
theorem Zt8 {neg:Bool} {a:Nat} (h:a % 2=1):sg neg a % 2=1:=by unfold sg; split<;>omega
theorem Zli {s:List UInt8} {e:Int} (h:fvB s e=true):s=Lib.itoa (flM s)∧((flM s=0∧e=0)∨(flM s % 2=1∧okE e)):=by
 unfold fvB at h
 by_cases hs:s=[48]
 ·rw [if_pos hs] at h
  subst hs
  rw [ZjJ]
  exact ⟨ZdW.symm,Or.inl ⟨rfl,of_decide_eq_true h⟩⟩
 ·rw [if_neg hs] at h
  obtain ⟨h1,h2,h3,h4,h5⟩:=of_decide_eq_true h
  unfold flM
  refine ⟨?_,Or.inr ⟨Zt8 h5,h3⟩⟩
  rw [Ze2 (fun h=>by omega),ZkE _ _ rfl h4 h1 h2]
  exact Zjo rfl
theorem Zfg (z:Int):Zap (Lib.itoa z)=(decide (z < 0),Lib.decDigits z.natAbs):=by
 have:=Zff z []
 rwa [List.append_nil,List.append_nil] at this
theorem Zf7 (z:Int):flM (Lib.itoa z)=z:=by
 unfold flM; rw [Zfg,Zcq]; exact ZkF z
theorem Zo1 (z e:Int):fvB (Lib.itoa z) e=decide ((z=0∧e=0)∨(z % 2=1∧okE e)):=by
 unfold fvB
 by_cases hz:z=0
 ·subst hz
  rw [ZdW,if_pos rfl]
  by_cases he:e=0
  ·subst he; rfl
  ·rw [decide_eq_false he]
   symm
   exact decide_eq_false (fun h=>by rcases h with h | h<;>omega)
 ·have hn:¬ Lib.itoa z=[48]:=fun h=>hz (by rw [← Zf7 z,h,ZjJ])
  rw [if_neg hn,Zfg]
  refine decide_eq_decide.2 ⟨fun ⟨_,_,h3,_,h5⟩=>Or.inr ⟨?_,h3⟩,fun h=>?_⟩
  ·rw [Zcq] at h5; omega
  ·rcases h with ⟨h,_⟩ | ⟨h1,h2⟩
   ·exact absurd h hz
   ·exact ⟨Zbb _,Zeq _ (by omega),h2,ZbI _,by rw [Zcq]; omega⟩
theorem Zo2 {s:List UInt8} {q:Rat} (h:ZaX s=some q) (hd:q.den=1) (e:Int):fvB s e=decide ((q.num=0∧e=0)∨(q.num % 2=1∧okE e))∧flM s=q.num:=by
 have hs:s=Lib.itoa q.num:=by
  have h1:=Zc8 h
  unfold Zaz at h1
  rw [if_pos hd] at h1
  exact h1.symm
 rw [hs]
 exact ⟨Zo1 _ _,Zf7 _⟩
theorem Zsn {l:List UInt8} {c:UInt8} (h:(l ++ [c]).all Zat=true):Zae (l ++ [c]) % 2=c.toNat % 2:=by
 rw [Zdy]
 have hc:Zat c=true:=by rw [List.all_append] at h; simp at h; exact h.2
 have:=ZdS hc
 omega
end Go.Proofs.YtklpdkpcocnglaaGreatDoor

namespace Go.Proofs.YtklpdkpcocnglaaGreatDoor
open Go.RowKit
noncomputable def valF (l:List UInt8):Rat:=(ZaX l).getD 0
end Go.Proofs.YtklpdkpcocnglaaGreatDoor

namespace Go.Proofs.YtklpdkpcocnglaaGreatDoor
open Go.RowKit
end Go.Proofs.YtklpdkpcocnglaaGreatDoor

namespace Go.Proofs.YtklpdkpcocnglaaGreatDoor
open Go.RowKit
end Go.Proofs.YtklpdkpcocnglaaGreatDoor

namespace Go.Proofs.YtklpdkpcocnglaaGreatDoor
open Go.RowKit
theorem Zrg {l:List UInt8} (hd:l.all Zat=true) (hl:l.length≤570):wl (Zae l)≤30:=by
 rw [Zb1]
 have h1:=Zbi l hd
 obtain ⟨k,hk⟩:∃ k,k=30:=⟨_,rfl⟩
 have h2:10 ^ l.length≤10 ^ (19 * k):=Nat.pow_le_pow_right (by omega) (by omega)
 rw [← hk]
 rw [Nat.pow_mul] at h2
 have h3:(10 ^ 19) ^ k≤W64 ^ k:=Nat.pow_le_pow_left (by rw [Zal]; decide) k
 exact Nat.lt_of_lt_of_le h1 (Nat.le_trans h2 h3)
end Go.Proofs.YtklpdkpcocnglaaGreatDoor

namespace Go.Proofs.YtklpdkpcocnglaaGreatDoor
open Go.RowKit
theorem Zrh {l:List UInt8} (h:ZaX l=none):valF l=0:=by unfold valF; rw [h]; rfl
theorem Zgt {l:List UInt8} {q:Rat} (h:ZaX l=some q):valF l=q:=by unfold valF; rw [h]; rfl
end Go.Proofs.YtklpdkpcocnglaaGreatDoor

namespace Go.Proofs.YtklpdkpcocnglaaGreatDoor
open Go.RowKit Go.Sort
end Go.Proofs.YtklpdkpcocnglaaGreatDoor

namespace Go.Proofs.YtklpdkpcocnglaaGreatDoor
open Go.RowKit
end Go.Proofs.YtklpdkpcocnglaaGreatDoor

namespace Go.Proofs.YtklpdkpcocnglaaGreatDoor
open Go.RowKit
end Go.Proofs.YtklpdkpcocnglaaGreatDoor

namespace Go.Proofs.YtklpdkpcocnglaaGreatDoor
open Go.RowKit
end Go.Proofs.YtklpdkpcocnglaaGreatDoor

namespace Go.Proofs.YtklpdkpcocnglaaGreatDoor
open Go.RowKit
section
variable {s t:ByteArray} {p q r:Rat} {w:World}
end
end Go.Proofs.YtklpdkpcocnglaaGreatDoor

namespace Go.Proofs.YtklpdkpcocnglaaGreatDoor
open Go.RowKit
theorem ZpX {w w':World} {e:Ending} {l:List UInt8} (h:ZjK w l e w'):Zbx (fun x:Int × Int × Bool=>.tuple #[.agg #[.int .i64 x.1, .int .i64 x.2.1], .bool x.2.2]) (fun x _=>ZfH l x.1 x.2.1 x.2.2) w e w':=by
 obtain ⟨a,b,ok,rfl,hS,Q⟩:=h
 exact ⟨(a,b,ok),rfl,Q,BoxN.pure hS⟩
abbrev ShSp:=Bool × ByteArray × ByteArray × Bool
theorem ZpY {w w':World} {e:Ending} {s:ByteArray} (h:ZjE s w e w'):Zbx (fun x:ShSp=>.tuple #[.agg #[.bool x.1, .string x.2.1, .string x.2.2.1], .bool x.2.2.2]) (fun x _=>Za2 (bytes s)=(x.1,bytes x.2.1,bytes x.2.2.1,x.2.2.2)) w e w':=by
 obtain ⟨neg,t,d,ok,rfl,hS,Q⟩:=h
 exact ⟨(neg,t,d,ok),rfl,Q,BoxN.pure hS⟩
theorem Zo3 {x:ByteArray} (h:bytes x=[]):(x.toList == (⟨#[]⟩:ByteArray).toList)=true:=by
 rw [Lib.toList_data,Lib.toList_data,show x.data.toList=[] from h]; rfl
theorem Zo4 {x:ByteArray} (h:¬ bytes x=[]):(x.toList == (⟨#[]⟩:ByteArray).toList)=false:=by
 rw [Lib.toList_data,Lib.toList_data]
 exact beq_eq_false_iff_ne.2 h
theorem Zrj {l:List UInt8} {neg:Bool} {t d:List UInt8} (h:Za2 l=(neg,t,d,false)):ZaX l=none:=by unfold ZaX; rw [h]
theorem Zrk {l:List UInt8} {neg:Bool} {t d:List UInt8} (h:Za2 l=(neg,t,d,true)) (hd:d=[]):(ZaX l).isSome=true:=by unfold ZaX; rw [h]; simp [hd]
theorem Zrl {l:List UInt8} {neg:Bool} {t d:List UInt8} (h:Za2 l=(neg,t,d,true)) (hd:¬ d=[]):(ZaX l).isSome=decide (((Int.gcd (Zae t:Int) (Zae d:Int):Nat):Int)=1):=by
 unfold ZaX
 rw [h]
 have e:Int.gcd (Zae t:Int) (Zae d:Int)=Nat.gcd (Zae t) (Zae d):=rfl
 rw [e]
 simp only [if_neg hd]
 by_cases hg:Nat.gcd (Zae t) (Zae d)=1
 ·rw [if_pos hg,hg]; rfl
 ·rw [if_neg hg]; simp; omega
theorem ZpZ {l:List UInt8} {a b:Int} (h:ZfH l a b true):(ZaX l).isSome=true:=by
 rcases h with ⟨_,q,h,_⟩ | ⟨h,_⟩
 ·rw [h]; rfl
 ·cases h
theorem Zgv (s:ByteArray) (w:World) (hg:Glob w) (hs:(bytes s).length≤570) :
 Calls Tryz.prog 54 #[.string s] w (RetV w (.bool (ZaX (bytes s)).isSome)):=by
 have hs8:s.size≤1099511627776:=by rw [Zam] at hs; omega
 refine Zay (Φ:=fun w=>Glob w) Tryz.func54 rfl (by kernel_rfl) (fun w' hf=>hg.ext hf) ?_
 refine Zac (Zab (xr 1 [(0, .v (.string s)),(2, .v (.bool false))] [] ?_))
 refine xe (Zaa (Zac (Zac (Zab (xr 1 [(0, .v (.string s)),(2, .v (.bool false)),(8, .v (.string s))] [] ?_)))))
 refine xc 92 [.string s] 9 (fun x:Int × Int × Bool=>.tuple #[.agg #[.int .i64 x.1, .int .i64 x.2.1], .bool x.2.2]) _ (fun w R Q=>(Zmp s _ hs8).mono (fun _ _=>ZpX)) (fun xx=>?_)
 obtain ⟨sa,sb,xok⟩:=xx
 rcases xok with _ | _
 ·refine xr 6 [(0, .v (.string s)),(2, .v (.bool false)),(4, .v (.bool false))] [] ?_
  refine xe (Zaa (Zac (Zab (xr 1 [(0, .v (.string s)),(2, .v (.bool false)),(12, .v (.bool false))] [] ?_))))
  refine xe (Zaa (xb (Zaq (Zaa (Zac (Zab (xr 1 [(2, .v (.bool false)),(14, .v (.string s))] [] ?_)))))))
  refine xc 93 [.string s] 15 (fun x:ShSp=>.tuple #[.agg #[.bool x.1, .string x.2.1, .string x.2.2.1], .bool x.2.2.2]) _ (fun w R Q=>(ZlN s _ hs8).mono (fun _ _=>ZpY)) (fun xx=>?_)
  obtain ⟨xneg,xt,sd,yok⟩:=xx
  rcases yok with _ | _
  ·refine xr 6 [(2, .v (.bool false)),(5, .p 5 0),(6, .v (.bool false))] [(5,123,[.v (.bool xneg), .v (.string xt), .v (.string sd)])] ?_
   refine xe (Zaa (Zac (Zac ?_)))
   refine SXc.know (p:=Za2 (bytes s)=(xneg,bytes xt,bytes sd,false)) (fun w _ Q=>Q.2) (fun HK=>?_)
   refine Zab (xr 7 [(2, .v (.bool false)),(5, .p 5 0),(6, .v (.bool false)),(24, .v (.bool true))] [(5,123,[.v (.bool xneg), .v (.string xt), .v (.string sd)])] ?_)
   refine xe (Zaa (xa (Zac (Zab (xr 2 [(2, .v (.bool false)),(5, .p 5 0)] [(5,123,[.v (.bool xneg), .v (.string xt), .v (.string sd)])] ?_)))))
   refine xe (Zaa (Zai (Zah ?_)))
   refine Zaf (v:=.bool false) (by kernel_rfl) (fun w' R Q=>?_)
   exact ⟨by rw [Zrj HK]; rfl,R⟩
  ·refine xr 6 [(2, .v (.bool false)),(5, .p 5 0),(6, .v (.bool true))] [(5,123,[.v (.bool xneg), .v (.string xt), .v (.string sd)])] ?_
   refine xe (Zaa (Zac (Zac ?_)))
   refine SXc.know (p:=Za2 (bytes s)=(xneg,bytes xt,bytes sd,true)) (fun w _ Q=>Q.2) (fun HK=>?_)
   by_cases hd:bytes sd=[]
   ·refine Zab (xr 6 [(2, .v (.bool false)),(5, .p 5 0),(6, .v (.bool true)),(20, .v (.bool false)),(23, .v (.bool ((sd:ByteArray).toList == (⟨#[]⟩:ByteArray).toList)))] [(5,123,[.v (.bool xneg), .v (.string xt), .v (.string sd)])] ?_)
    rw [Zo3 hd]
    refine xr 1 [(2, .v (.bool false)),(5, .p 5 0),(6, .v (.bool true)),(24, .v (.bool true))] [(5,123,[.v (.bool xneg), .v (.string xt), .v (.string sd)])] ?_
    refine xe (Zaa (xa (Zac (Zab (xr 2 [(2, .v (.bool true)),(5, .p 5 0)] [(5,123,[.v (.bool xneg), .v (.string xt), .v (.string sd)])] ?_)))))
    refine xe (Zaa (Zai (Zah ?_)))
    refine Zaf (v:=.bool true) (by kernel_rfl) (fun w' R Q=>?_)
    exact ⟨by rw [Zrk HK hd],R⟩
   ·refine Zab (xr 6 [(2, .v (.bool false)),(5, .p 5 0),(6, .v (.bool true)),(20, .v (.bool false)),(23, .v (.bool ((sd:ByteArray).toList == (⟨#[]⟩:ByteArray).toList)))] [(5,123,[.v (.bool xneg), .v (.string xt), .v (.string sd)])] ?_)
    rw [Zo4 hd]
    refine xr 1 [(2, .v (.bool false)),(5, .p 5 0),(6, .v (.bool true)),(24, .v (.bool false))] [(5,123,[.v (.bool xneg), .v (.string xt), .v (.string sd)])] ?_
    refine xe (Zaa (xb (Zaq (Zaa (Zac ?_)))))
    obtain ⟨hdigxt,hdigsd,hll⟩:=Zej HK
    have hprsxt:Zhg xt.size:=by unfold Zhg; rw [← Zam]; omega
    have hprssd:Zhg sd.size:=by unfold Zhg; rw [← Zam]; omega
    have hwt:wl ((Zae (bytes xt):Nat):Int).natAbs≤79:=by rw [Int.natAbs_natCast]; exact Nat.le_trans (Zrg hdigxt (by omega)) (by decide)
    have hwd:wl ((Zae (bytes sd):Nat):Int).natAbs≤79:=by rw [Int.natAbs_natCast]; exact Nat.le_trans (Zrg hdigsd (by omega)) (by decide)
    have hft:Fits ((Zae (bytes xt):Nat):Int):=by unfold Fits; omega
    have hfd:Fits ((Zae (bytes sd):Nat):Int):=by unfold Fits; omega
    refine ZaD 9 (by kernel_rfl) (by kernel_rfl) Zaj ?_
    refine xf 2 [(2, .v (.bool false)),(5, .p 5 0),(27, .v (.string xt))] [(5,123,[.v (.bool xneg), .v (.string xt), .v (.string sd)])] ?_
    refine xd 94 [.string xt] 28 ZaM _ (fun w R Q=>(Zic xt _ hdigxt hprsxt).mono (fun _ _=>ZjF)) (fun xx=>?_)
    obtain ⟨s10,A10,l10,c10⟩:=xx
    refine xf 2 [(2, .v (.bool false)),eI2 28 s10 A10 l10 c10,(30, .v (.string sd))] [(5,123,[.v (.bool xneg), .v (.string xt), .v (.string sd)])] ?_
    refine xd 94 [.string sd] 31 ZaM _ (fun w R Q=>(Zic sd _ hdigsd hprssd).mono (fun _ _=>ZjF)) (fun xx=>?_)
    obtain ⟨s11,A11,l11,c11⟩:=xx
    refine xf 0 [(2, .v (.bool false)),eI2 28 s10 A10 l10 c10,eI2 31 s11 A11 l11 c11] [(5,123,[.v (.bool xneg), .v (.string xt), .v (.string sd)])] ?_
    refine xd 95 [vI2 s10 A10 l10 c10,vI2 s11 A11 l11 c11] 32 ZaM _ (fun w R Q=>(Zs3 _ _ ((Zae (bytes xt):Int)) ((Zae (bytes sd):Int)) _ Q.1.1.1.1 Q.1.2 Q.2 hft hfd (ZmD.words hwt hwd)).mono (fun _ _=>ZjF)) (fun xx=>?_)
    obtain ⟨s12,A12,l12,c12⟩:=xx
    refine xf 0 [(2, .v (.bool false)),eI2 32 s12 A12 l12 c12] [(5,123,[.v (.bool xneg), .v (.string xt), .v (.string sd)])] ?_
    refine xd 96 [vI2 s12 A12 l12 c12] 33 (fun _:Unit=>.bool (decide ((((Int.gcd ((Zae (bytes xt):Int)) ((Zae (bytes sd):Int)):Nat):Int))=1))) _ (fun w R Q=>(ZqQ _ (((Int.gcd ((Zae (bytes xt):Int)) ((Zae (bytes sd):Int)):Nat):Int)) _ Q.2).mono (fun _ _ h=>Zad h rfl)) (fun xx=>?_)
    refine xf 1 [(2, .v (.bool (decide ((((Int.gcd ((Zae (bytes xt):Int)) ((Zae (bytes sd):Int)):Nat):Int))=1))))] [(5,123,[.v (.bool xneg), .v (.string xt), .v (.string sd)])] ?_
    refine xz (xe (Zaa (Zai ?_)))
    refine Zaf (v:=.bool (decide ((((Int.gcd ((Zae (bytes xt):Int)) ((Zae (bytes sd):Int)):Nat):Int))=1))) (by kernel_rfl) (fun w' R Q=>?_)
    exact ⟨by rw [Zrl HK hd],R⟩
 ·refine xr 6 [(0, .v (.string s)),(2, .v (.bool false)),(4, .v (.bool true))] [] ?_
  refine xe (Zaa (Zac (Zab (xr 1 [(0, .v (.string s)),(2, .v (.bool false)),(12, .v (.bool true))] [] ?_))))
  refine xe (Zaa (xa (Zac (Zab (xr 1 [(0, .v (.string s)),(2, .v (.bool true))] [] ?_)))))
  refine xe (Zaa (Zai (Zah ?_)))
  refine Zaf (v:=.bool true) (by kernel_rfl) (fun w' R Q=>?_)
  exact ⟨by rw [ZpZ Q.2],R⟩
end Go.Proofs.YtklpdkpcocnglaaGreatDoor

namespace Go.Proofs.YtklpdkpcocnglaaGreatDoor
open Go.RowKit
section
variable {l r a t b:List UInt8} {neg:Bool} {c:UInt8}
end
/-! ### Zbc of small numbers -/
theorem Ze3 {n:Nat} (h:n < 10):Lib.itoa (n:Int)=[UInt8.ofNat (48 + n)]:=by
 unfold Lib.itoa
 rw [if_neg (by omega),Int.toNat_natCast,Lib.decDigits,dif_pos h]
theorem ZjL {q:Rat} {n:Nat} (h:n < 10) (h1:q.num=(n:Int)) (h2:q.den=1):Zaz q=[UInt8.ofNat (48 + n)]:=by
 unfold Zaz; rw [if_pos h2,h1,Ze3 h]
theorem Zo5 {q:Rat} {n d:Nat} (h:n < 10) (hd:d < 10) (h1:q.num=(n:Int)) (h2:q.den=d) (h3:d≠1):Zaz q=[UInt8.ofNat (48 + n),47,UInt8.ofNat (48 + d)]:=by
 unfold Zaz; rw [h2,if_neg h3,h1,Ze3 h,Ze3 hd]; rfl
theorem t1:Zaz (mkRat 1 1)=[49]:=ZjL (n:=1) (by decide) (by decide) (by decide)
theorem t3:Zaz (mkRat 3 1)=[51]:=ZjL (n:=3) (by decide) (by decide) (by decide)
theorem t13:Zaz (mkRat 1 3)=[49,47,51]:=Zo5 (n:=1) (d:=3) (by decide) (by decide) (by decide) (by decide) (by decide)
theorem t12:Zaz (mkRat 1 2)=[49,47,50]:=Zo5 (n:=1) (d:=2) (by decide) (by decide) (by decide) (by decide) (by decide)
end Go.Proofs.YtklpdkpcocnglaaGreatDoor

namespace Go.Proofs.YtklpdkpcocnglaaGreatDoor
open Go.RowKit
section
variable {w w':World} {e:Ending} {s:ByteArray}
theorem Zp0 (h:Zm9 s w e w'):Zbx (fun x:ByteArray × Bool=>.tuple #[.string x.1, .bool x.2]) (fun x _=>Zap (bytes s)=(x.2,bytes x.1)) w e w':=by
 obtain ⟨r,neg,rfl,h,rfl⟩:=h
 exact ⟨(r,neg),rfl,Fr.refl _ _,BoxN.pure h⟩
end
theorem ZgZ {a b:ByteArray} (h:bytes a=bytes b):a=b:=by
 cases a with | mk a=>cases b with | mk b=>simp only [bytes] at h; rw [Array.toList_inj.1 h]
def e4:Nat:=400
end Go.Proofs.YtklpdkpcocnglaaGreatDoor

namespace Go.Proofs.YtklpdkpcocnglaaGreatDoor
open Go.RowKit
end Go.Proofs.YtklpdkpcocnglaaGreatDoor

namespace Go.Proofs.YtklpdkpcocnglaaGreatDoor
open Go.RowKit
theorem Zlj {s:ByteArray} (h:bytes s=[48]):(s.toList == (⟨#[48]⟩:ByteArray).toList)=true:=by
 rw [Lib.toList_data,Lib.toList_data,show s.data.toList=[48] from h]; rfl
theorem Zlk {s:ByteArray} (h:¬ bytes s=[48]):(s.toList == (⟨#[48]⟩:ByteArray).toList)=false:=by
 rw [Lib.toList_data,Lib.toList_data]; exact beq_eq_false_iff_ne.2 h
theorem zt:Zaz 0=[48]:=ZjL (n:=0) (by decide) (by decide) (by decide)
theorem Zef {P:Program} {o:Oper} {ρ:Operand→Value} {w:World} {t:TypeId} {x i:Operand} {b:ByteArray} {k:Nat} {c:UInt8} (ho:o.op=Op.index t x i) (ht:P.underlying t=some .string) (hx:ρ x=.string b) (hi:ρ i=.int .i64 (k:Int)) (hc:b[k]? = some c):(execOp ρ o).run P w=.ok (.value (.int .u8 (c.toNat:Int))) w:=by
 simp [execOp,ho,Instr.index,asIntOf,underlying,ht,hx,hi,hc,Result.andThen]
end Go.Proofs.YtklpdkpcocnglaaGreatDoor

namespace Go.Proofs.YtklpdkpcocnglaaGreatDoor
open Go.RowKit
theorem ZaW.le {x y:Int} (h:ZaW x) (hl:y.natAbs≤x.natAbs):ZaW y:=Nat.le_trans (Zd3 hl) h
theorem ZaW.gcd {x y:Int} (h:ZaW y) (h0:y≠0):ZaW (Int.gcd x y:Int):=h.le (by
 have:Int.gcd x y≤y.natAbs:=Nat.gcd_le_right _ (by omega)
 omega)
theorem ZaW.tdiv {x y:Int} (h:ZaW x):ZaW (x.tdiv y):=h.le (by rw [Int.natAbs_tdiv]; exact Nat.div_le_self _ _)
theorem Zhs {x y:Int} (h:0 < y):0 < Int.gcd x y:=by
 rcases Nat.eq_zero_or_pos (Int.gcd x y) with e | e
 ·have:=(Int.gcd_eq_zero_iff.1 e).2; omega
 ·exact e
def ZcU (q:Rat):Prop:=ml q.num.natAbs≤100000∧ml q.den≤100000
theorem mlm {x y:Int} {a b:Nat} (hx:ml x.natAbs≤a) (hy:ml y.natAbs≤b):ml (x * y).natAbs≤a + b:=by
 have h:=ZtQ x.natAbs y.natAbs
 rw [← Int.natAbs_mul] at h
 omega
theorem mla {x y:Int} {a:Nat} (hx:ml x.natAbs≤a) (hy:ml y.natAbs≤a):ml (x + y).natAbs≤a + 1 :=
 Nat.le_trans (Zd3 (Int.natAbs_add_le x y)) (ZtR hx hy)
theorem ZcU.neg {q:Rat} (h:ZcU q):ZcU (-q):=by
 unfold ZcU at *
 rw [Znf,Zng,Int.natAbs_neg]
 exact h
theorem Zgw {w w':World} {e:Ending} {a b:Int} (h:Zlf w a b e w'):Zbx Zid (fun x w=>Zao w (ZaM x.1) a∧Zao w (ZaM x.2) b) w e w':=by
 obtain ⟨u,v,rfl,hI,hJ,Q⟩:=h
 obtain ⟨s,A,l,c,rfl⟩:=hI.shp
 obtain ⟨s',A',l',c',rfl⟩:=hJ.shp
 exact ⟨((s,A,l,c),(s',A',l',c')),rfl,Q,boxn Q (fun S w'' hS hF=>⟨hI.nrb hS hF,hJ.nrb hS hF⟩)⟩
theorem nfit {z:Int} {k:Nat} (h:ml z.natAbs≤k) (hk:Nat.ble k 1048576=true):ZaW z:=Nat.le_trans h (Nat.le_of_ble_eq_true hk)
theorem mlc {n k:Nat} (h:ml n≤k):ml ((n:Nat):Int).natAbs≤k:=by rw [Int.natAbs_natCast]; exact h
theorem Zl1 {x y:Int} {q:Rat} (hq:Rat.divInt x y=q) (hy:0 < y) (_:1 < ((Int.gcd x y:Nat):Int).natAbs):q.num=x.tdiv ((Int.gcd x y:Nat):Int)∧(q.den:Int)=y.tdiv ((Int.gcd x y:Nat):Int):=by
 rw [← hq]; exact Znu hy
theorem Zl2 {x y:Int} {q:Rat} (hq:Rat.divInt x y=q) (hy:0 < y) (h:¬ 1 < ((Int.gcd x y:Nat):Int).natAbs):q.num=x∧(q.den:Int)=y:=by
 have h1:=Zhs (x:=x) hy
 rw [← hq]; exact Zis hy (by omega)
theorem Zfh {n:Nat} (h:(((n:Nat):Int) == 1)=true):n=1:=by have:=eq_of_beq h; omega
theorem Zfi {n:Nat} (h:(((n:Nat):Int) == 1)=false):n≠1:=fun e=>by subst e; cases h
theorem Zrm (a b:Value) (x y:Int) (q:Rat) (w:World) (ha:Zao w a x) (hb:Zao w b y) (hx:ZaW x) (hy:ZaW y) (h0:y < 0) (hq:Rat.divInt x y=q) :
 Calls Tryz.prog 23 #[a,b] w (Zc4 w q):=by
 obtain ⟨s0,A0,l0,c0,rfl⟩:=ha.shp
 obtain ⟨s1,A1,l1,c1,rfl⟩:=hb.shp
 obtain rfl:s1=true:=hb.sneg h0
 have HFx:ZaW (-(x)):=hx.neg
 have HFy:ZaW (-(y)):=hy.neg
 have HY:0 < -(y):=by omega
 have HFg:ZaW ((Int.gcd (-(x)) (-(y)):Nat):Int):=ZaW.gcd HFy (by omega)
 have HG0:((Int.gcd (-(x)) (-(y)):Nat):Int)≠0:=by have:=Zhs (x := -(x)) HY; omega
 have Hq:Rat.divInt (-(x)) (-(y))=q:=by rw [Rat.neg_divInt_neg]; exact hq
 refine Zay (Φ:=fun w=>(Zao w (.agg #[.bool s0, .slice A0 l0 c0]) (x)∧Zao w (.agg #[.bool true, .slice A1 l1 c1]) (y))) Tryz.func23 rfl (by kernel_rfl) (fun w' hf=>⟨ha.ext hf,hb.ext hf⟩) ?_
 refine Zac (Zab (xr 3 [(2, .p 2 0),(3, .p 3 0),(4, .p 4 0)] [bR4 4 34 false none 0 0 false none 0 0,bI2 3 32 true A1 l1 c1,bI2 2 32 s0 A0 l0 c0] ?_))
 refine xe (Zaa (Zac (Zac (Zab (xr 2 [(2, .p 2 0),(3, .p 3 0),(4, .p 4 0),(7, .v (.bool true))] [bR4 4 34 false none 0 0 false none 0 0,bI2 3 32 true A1 l1 c1,bI2 2 32 s0 A0 l0 c0] ?_)))))
 refine xe (Zaa (xa ?_))
 refine ZaD 6 (by kernel_rfl) (by kernel_rfl) Zaj ?_
 refine xf 1 [(2, .p 2 0),(3, .p 3 0),(4, .p 4 0),eI2 8 s0 A0 l0 c0] [bR4 4 34 false none 0 0 false none 0 0,bI2 3 32 true A1 l1 c1,bI2 2 32 s0 A0 l0 c0] ?_
 refine xd 68 [vI2 s0 A0 l0 c0] 9 ZaM _ (fun w R Q=>(Zhn _ (x) _ Q.1).mono (fun _ _=>ZaS)) (fun xx=>?_)
 obtain ⟨s10,A10,l10,c10⟩:=xx
 refine xf 1 [(2, .p 2 0),(3, .p 3 0),(4, .p 4 0),eI2 9 s10 A10 l10 c10,eI2 10 true A1 l1 c1] [bR4 4 34 false none 0 0 false none 0 0,bI2 3 32 true A1 l1 c1,bI2 2 32 s0 A0 l0 c0] ?_
 refine xd 68 [vI2 true A1 l1 c1] 11 ZaM _ (fun w R Q=>(Zhn _ (y) _ Q.1.2).mono (fun _ _=>ZaS)) (fun xx=>?_)
 obtain ⟨s11,A11,l11,c11⟩:=xx
 refine xf 2 [(2, .p 2 0),(3, .p 3 0),(4, .p 4 0)] [bI2 3 32 s11 A11 l11 c11,bI2 2 32 s10 A10 l10 c10,bR4 4 34 false none 0 0 false none 0 0,bI2 3 32 true A1 l1 c1,bI2 2 32 s0 A0 l0 c0] ?_
 refine xz (xe (Zaa (Zac (Zab (xr 2 [(2, .p 2 0),(3, .p 3 0),(4, .p 4 0),eI2 12 s10 A10 l10 c10,eI2 13 s11 A11 l11 c11] [bI2 3 32 s11 A11 l11 c11,bI2 2 32 s10 A10 l10 c10,bR4 4 34 false none 0 0 false none 0 0] ?_)))))
 refine xc 69 [vI2 s10 A10 l10 c10,vI2 s11 A11 l11 c11] 14 ZaM _ (fun w R Q=>(Znj _ _ (-(x)) (-(y)) _ Q.1.2 Q.2 HFx HFy).mono (fun _ _=>ZaS)) (fun xx=>?_)
 obtain ⟨s12,A12,l12,c12⟩:=xx
 refine xr 2 [(2, .p 2 0),(3, .p 3 0),(4, .p 4 0),(5, .p 5 0)] [bI2 5 32 s12 A12 l12 c12,bI2 3 32 s11 A11 l11 c11,bI2 2 32 s10 A10 l10 c10,bR4 4 34 false none 0 0 false none 0 0] ?_
 refine xe (Zaa (Zac (Zac (Zab (xr 1 [(2, .p 2 0),(3, .p 3 0),(4, .p 4 0),(5, .p 5 0),eI2 15 s12 A12 l12 c12] [bI2 5 32 s12 A12 l12 c12,bI2 3 32 s11 A11 l11 c11,bI2 2 32 s10 A10 l10 c10,bR4 4 34 false none 0 0 false none 0 0] ?_)))))
 refine xc 37 [vI2 s12 A12 l12 c12] 16 (fun _:Unit=>.int .i64 ((blen (((Int.gcd (-(x)) (-(y)):Nat):Int)).natAbs:Nat):Int)) _ (fun w R Q=>(ZcF _ (((Int.gcd (-(x)) (-(y)):Nat):Int)) _ Q.2 HFg).mono (fun _ _ h=>Zad h rfl)) (fun xx=>?_)
 refine xr 1 [(2, .p 2 0),(3, .p 3 0),(4, .p 4 0),(5, .p 5 0),(17, .v (.bool (decide (((blen (((Int.gcd (-(x)) (-(y)):Nat):Int)).natAbs:Nat):Int) > 1))))] [bI2 5 32 s12 A12 l12 c12,bI2 3 32 s11 A11 l11 c11,bI2 2 32 s10 A10 l10 c10,bR4 4 34 false none 0 0 false none 0 0] ?_
 refine xe (Zaa ?_)
 refine ZaA ((decide (((blen (((Int.gcd (-(x)) (-(y)):Nat):Int)).natAbs:Nat):Int) > 1))) (by kernel_rfl) (fun hb13=>?_) (fun hb13=>?_)
 ·have HQ:=Zl1 Hq HY (Zfd.1 (by have:=of_decide_eq_true hb13; omega))
  refine Zac (Zab (xr 2 [(2, .p 2 0),(3, .p 3 0),(4, .p 4 0),(5, .p 5 0),eI2 19 s10 A10 l10 c10,eI2 20 s12 A12 l12 c12] [bI2 5 32 s12 A12 l12 c12,bI2 3 32 s11 A11 l11 c11,bI2 2 32 s10 A10 l10 c10,bR4 4 34 false none 0 0 false none 0 0] ?_))
  refine xc 70 [vI2 s10 A10 l10 c10,vI2 s12 A12 l12 c12] 21 Zid _ (fun w R Q=>(Zfc _ _ (-(x)) (((Int.gcd (-(x)) (-(y)):Nat):Int)) _ Q.1.1.1.2 Q.1.2 HFx HFg HG0).mono (fun _ _=>Zgw)) (fun xx=>?_)
  obtain ⟨⟨s14,A14,l14,c14⟩,⟨s15,A15,l15,c15⟩⟩:=xx
  refine xr 4 [(2, .p 2 0),(3, .p 3 0),(4, .p 4 0),(5, .p 5 0)] [bI2 5 32 s12 A12 l12 c12,bI2 3 32 s11 A11 l11 c11,bI2 2 32 s14 A14 l14 c14,bR4 4 34 false none 0 0 false none 0 0] ?_
  refine xe (Zaa (Zab (xr 2 [(2, .p 2 0),(3, .p 3 0),(4, .p 4 0),eI2 25 s11 A11 l11 c11,eI2 26 s12 A12 l12 c12] [bI2 3 32 s11 A11 l11 c11,bI2 2 32 s14 A14 l14 c14,bR4 4 34 false none 0 0 false none 0 0] ?_)))
  refine xc 70 [vI2 s11 A11 l11 c11,vI2 s12 A12 l12 c12] 27 Zid _ (fun w R Q=>(Zfc _ _ (-(y)) (((Int.gcd (-(x)) (-(y)):Nat):Int)) _ Q.1.1.1.2 Q.1.1.2 HFy HFg HG0).mono (fun _ _=>Zgw)) (fun xx=>?_)
  obtain ⟨⟨s16,A16,l16,c16⟩,⟨s17,A17,l17,c17⟩⟩:=xx
  refine xr 4 [(2, .p 2 0),(3, .p 3 0),(4, .p 4 0)] [bI2 3 32 s16 A16 l16 c16,bI2 2 32 s14 A14 l14 c14,bR4 4 34 false none 0 0 false none 0 0] ?_
  refine xe (Zaa (Zac (Zac (Zab (xr 1 [(2, .p 2 0),(3, .p 3 0),(4, .p 4 0),eI2 30 s16 A16 l16 c16] [bI2 3 32 s16 A16 l16 c16,bI2 2 32 s14 A14 l14 c14,bR4 4 34 false none 0 0 false none 0 0] ?_)))))
  refine xc 37 [vI2 s16 A16 l16 c16] 31 (fun _:Unit=>.int .i64 ((blen ((-(y)).tdiv (((Int.gcd (-(x)) (-(y)):Nat):Int))).natAbs:Nat):Int)) _ (fun w R Q=>(ZcF _ ((-(y)).tdiv (((Int.gcd (-(x)) (-(y)):Nat):Int))) _ Q.2.1 (ZaW.tdiv HFy)).mono (fun _ _ h=>Zad h rfl)) (fun xx=>?_)
  refine xr 1 [(2, .p 2 0),(3, .p 3 0),(4, .p 4 0),(32, .v (.bool ((((blen ((-(y)).tdiv (((Int.gcd (-(x)) (-(y)):Nat):Int))).natAbs:Nat):Int):Int) == 1)))] [bI2 3 32 s16 A16 l16 c16,bI2 2 32 s14 A14 l14 c14,bR4 4 34 false none 0 0 false none 0 0] ?_
  refine xe (Zaa ?_)
  refine ZaA (((((blen ((-(y)).tdiv (((Int.gcd (-(x)) (-(y)):Nat):Int))).natAbs:Nat):Int):Int) == 1)) (by kernel_rfl) (fun hb18=>?_) (fun hb18=>?_)
  ·have hdhb18:=Zce.1 (Zfh hb18)
   refine Zab (xr 2 [(2, .p 2 0),(3, .p 3 0),(4, .p 4 0)] [bI2 3 32 false none 0 0,bI2 2 32 s14 A14 l14 c14,bR4 4 34 false none 0 0 false none 0 0] ?_)
   refine xe (Zaa (Zac (Zab (xr 4 [(4, .p 4 0)] [bR4 4 34 s14 A14 l14 c14 false none 0 0] ?_))))
   refine xe (Zaa (Zai ?_))
   refine Zaf (v:=.agg #[.bool s14, .slice A14 l14 c14, .bool false, .slice none 0 0]) (by kernel_rfl) (fun w' R Q=>?_)
   exact ⟨_,rfl,Zax.of (by rw [HQ.1]; exact Q.1.1.2.1) (by rw [Zcy (by have:=hdhb18; have:=HQ.2; have:=q.den_nz; omega)]; exact (Zao.nil _)),R⟩
  ·have hdhb18:=fun h=>Zfi hb18 (Zce.2 h)
   refine Zaq (Zaa (Zac (Zab (xr 4 [(4, .p 4 0)] [bR4 4 34 s14 A14 l14 c14 s16 A16 l16 c16] ?_))))
   refine xe (Zaa (Zai ?_))
   refine Zaf (v:=.agg #[.bool s14, .slice A14 l14 c14, .bool s16, .slice A16 l16 c16]) (by kernel_rfl) (fun w' R Q=>?_)
   exact ⟨_,rfl,Zax.of (by rw [HQ.1]; exact Q.1.1.2.1) (by rw [ZcX (fun h=>hdhb18 (by have:=HQ.2; omega)),HQ.2]; exact Q.1.2.1),R⟩
 ·have HQ:=Zl2 Hq HY (fun h=>absurd (Zfd.2 h) (by have:=of_decide_eq_false hb13; omega))
  refine Zaq (Zaa (Zac (Zac (Zab (xr 1 [(2, .p 2 0),(3, .p 3 0),(4, .p 4 0),eI2 30 s11 A11 l11 c11] [bI2 3 32 s11 A11 l11 c11,bI2 2 32 s10 A10 l10 c10,bR4 4 34 false none 0 0 false none 0 0] ?_)))))
  refine xc 37 [vI2 s11 A11 l11 c11] 31 (fun _:Unit=>.int .i64 ((blen (-(y)).natAbs:Nat):Int)) _ (fun w R Q=>(ZcF _ (-(y)) _ Q.1.1.2 HFy).mono (fun _ _ h=>Zad h rfl)) (fun xx=>?_)
  refine xr 1 [(2, .p 2 0),(3, .p 3 0),(4, .p 4 0),(32, .v (.bool ((((blen (-(y)).natAbs:Nat):Int):Int) == 1)))] [bI2 3 32 s11 A11 l11 c11,bI2 2 32 s10 A10 l10 c10,bR4 4 34 false none 0 0 false none 0 0] ?_
  refine xe (Zaa ?_)
  refine ZaA (((((blen (-(y)).natAbs:Nat):Int):Int) == 1)) (by kernel_rfl) (fun hb19=>?_) (fun hb19=>?_)
  ·have hdhb19:=Zce.1 (Zfh hb19)
   refine Zab (xr 2 [(2, .p 2 0),(3, .p 3 0),(4, .p 4 0)] [bI2 3 32 false none 0 0,bI2 2 32 s10 A10 l10 c10,bR4 4 34 false none 0 0 false none 0 0] ?_)
   refine xe (Zaa (Zac (Zab (xr 4 [(4, .p 4 0)] [bR4 4 34 s10 A10 l10 c10 false none 0 0] ?_))))
   refine xe (Zaa (Zai ?_))
   refine Zaf (v:=.agg #[.bool s10, .slice A10 l10 c10, .bool false, .slice none 0 0]) (by kernel_rfl) (fun w' R Q=>?_)
   exact ⟨_,rfl,Zax.of (by rw [HQ.1]; exact Q.1.1.1.1.2) (by rw [Zcy (by have:=hdhb19; have:=HQ.2; have:=q.den_nz; omega)]; exact (Zao.nil _)),R⟩
  ·have hdhb19:=fun h=>Zfi hb19 (Zce.2 h)
   refine Zaq (Zaa (Zac (Zab (xr 4 [(4, .p 4 0)] [bR4 4 34 s10 A10 l10 c10 s11 A11 l11 c11] ?_))))
   refine xe (Zaa (Zai ?_))
   refine Zaf (v:=.agg #[.bool s10, .slice A10 l10 c10, .bool s11, .slice A11 l11 c11]) (by kernel_rfl) (fun w' R Q=>?_)
   exact ⟨_,rfl,Zax.of (by rw [HQ.1]; exact Q.1.1.1.1.2) (by rw [ZcX (fun h=>hdhb19 (by have:=HQ.2; omega)),HQ.2]; exact Q.1.1.1.2),R⟩
theorem Zrn (a b:Value) (x y:Int) (q:Rat) (w:World) (ha:Zao w a x) (hb:Zao w b y) (hx:ZaW x) (hy:ZaW y) (h0:0 < y) (hq:Rat.divInt x y=q) :
 Calls Tryz.prog 23 #[a,b] w (Zc4 w q):=by
 obtain ⟨s0,A0,l0,c0,rfl⟩:=ha.shp
 obtain ⟨s1,A1,l1,c1,rfl⟩:=hb.shp
 obtain rfl:s1=false:=hb.spos (by omega)
 have HFx:ZaW (x):=hx
 have HFy:ZaW (y):=hy
 have HY:0 < y:=by omega
 have HFg:ZaW ((Int.gcd (x) (y):Nat):Int):=ZaW.gcd HFy (by omega)
 have HG0:((Int.gcd (x) (y):Nat):Int)≠0:=by have:=Zhs (x:=x) HY; omega
 have Hq:Rat.divInt (x) (y)=q:=hq
 refine Zay (Φ:=fun w=>(Zao w (.agg #[.bool s0, .slice A0 l0 c0]) (x)∧Zao w (.agg #[.bool false, .slice A1 l1 c1]) (y))) Tryz.func23 rfl (by kernel_rfl) (fun w' hf=>⟨ha.ext hf,hb.ext hf⟩) ?_
 refine Zac (Zab (xr 3 [(2, .p 2 0),(3, .p 3 0),(4, .p 4 0)] [bR4 4 34 false none 0 0 false none 0 0,bI2 3 32 false A1 l1 c1,bI2 2 32 s0 A0 l0 c0] ?_))
 refine xe (Zaa (Zac (Zac (Zab (xr 2 [(2, .p 2 0),(3, .p 3 0),(4, .p 4 0),(7, .v (.bool false))] [bR4 4 34 false none 0 0 false none 0 0,bI2 3 32 false A1 l1 c1,bI2 2 32 s0 A0 l0 c0] ?_)))))
 refine xe (Zaa (xb (Zaq (Zaa (Zac (Zab (xr 2 [(2, .p 2 0),(3, .p 3 0),(4, .p 4 0),eI2 12 s0 A0 l0 c0,eI2 13 false A1 l1 c1] [bR4 4 34 false none 0 0 false none 0 0,bI2 3 32 false A1 l1 c1,bI2 2 32 s0 A0 l0 c0] ?_)))))))
 refine xc 69 [vI2 s0 A0 l0 c0,vI2 false A1 l1 c1] 14 ZaM _ (fun w R Q=>(Znj _ _ (x) (y) _ Q.1 Q.2 HFx HFy).mono (fun _ _=>ZaS)) (fun xx=>?_)
 obtain ⟨s10,A10,l10,c10⟩:=xx
 refine xr 2 [(2, .p 2 0),(3, .p 3 0),(4, .p 4 0),(5, .p 5 0)] [bI2 5 32 s10 A10 l10 c10,bR4 4 34 false none 0 0 false none 0 0,bI2 3 32 false A1 l1 c1,bI2 2 32 s0 A0 l0 c0] ?_
 refine xe (Zaa (Zac (Zac (Zab (xr 1 [(2, .p 2 0),(3, .p 3 0),(4, .p 4 0),(5, .p 5 0),eI2 15 s10 A10 l10 c10] [bI2 5 32 s10 A10 l10 c10,bR4 4 34 false none 0 0 false none 0 0,bI2 3 32 false A1 l1 c1,bI2 2 32 s0 A0 l0 c0] ?_)))))
 refine xc 37 [vI2 s10 A10 l10 c10] 16 (fun _:Unit=>.int .i64 ((blen (((Int.gcd (x) (y):Nat):Int)).natAbs:Nat):Int)) _ (fun w R Q=>(ZcF _ (((Int.gcd (x) (y):Nat):Int)) _ Q.2 HFg).mono (fun _ _ h=>Zad h rfl)) (fun xx=>?_)
 refine xr 1 [(2, .p 2 0),(3, .p 3 0),(4, .p 4 0),(5, .p 5 0),(17, .v (.bool (decide (((blen (((Int.gcd (x) (y):Nat):Int)).natAbs:Nat):Int) > 1))))] [bI2 5 32 s10 A10 l10 c10,bR4 4 34 false none 0 0 false none 0 0,bI2 3 32 false A1 l1 c1,bI2 2 32 s0 A0 l0 c0] ?_
 refine xe (Zaa ?_)
 refine ZaA ((decide (((blen (((Int.gcd (x) (y):Nat):Int)).natAbs:Nat):Int) > 1))) (by kernel_rfl) (fun hb11=>?_) (fun hb11=>?_)
 ·have HQ:=Zl1 Hq HY (Zfd.1 (by have:=of_decide_eq_true hb11; omega))
  refine Zac (Zab (xr 2 [(2, .p 2 0),(3, .p 3 0),(4, .p 4 0),(5, .p 5 0),eI2 19 s0 A0 l0 c0,eI2 20 s10 A10 l10 c10] [bI2 5 32 s10 A10 l10 c10,bR4 4 34 false none 0 0 false none 0 0,bI2 3 32 false A1 l1 c1,bI2 2 32 s0 A0 l0 c0] ?_))
  refine xc 70 [vI2 s0 A0 l0 c0,vI2 s10 A10 l10 c10] 21 Zid _ (fun w R Q=>(Zfc _ _ (x) (((Int.gcd (x) (y):Nat):Int)) _ Q.1.1.1 Q.1.2 HFx HFg HG0).mono (fun _ _=>Zgw)) (fun xx=>?_)
  obtain ⟨⟨s12,A12,l12,c12⟩,⟨s13,A13,l13,c13⟩⟩:=xx
  refine xr 4 [(2, .p 2 0),(3, .p 3 0),(4, .p 4 0),(5, .p 5 0)] [bI2 5 32 s10 A10 l10 c10,bR4 4 34 false none 0 0 false none 0 0,bI2 3 32 false A1 l1 c1,bI2 2 32 s12 A12 l12 c12] ?_
  refine xe (Zaa (Zab (xr 2 [(2, .p 2 0),(3, .p 3 0),(4, .p 4 0),eI2 25 false A1 l1 c1,eI2 26 s10 A10 l10 c10] [bR4 4 34 false none 0 0 false none 0 0,bI2 3 32 false A1 l1 c1,bI2 2 32 s12 A12 l12 c12] ?_)))
  refine xc 70 [vI2 false A1 l1 c1,vI2 s10 A10 l10 c10] 27 Zid _ (fun w R Q=>(Zfc _ _ (y) (((Int.gcd (x) (y):Nat):Int)) _ Q.1.1.1.2 Q.1.1.2 HFy HFg HG0).mono (fun _ _=>Zgw)) (fun xx=>?_)
  obtain ⟨⟨s14,A14,l14,c14⟩,⟨s15,A15,l15,c15⟩⟩:=xx
  refine xr 4 [(2, .p 2 0),(3, .p 3 0),(4, .p 4 0)] [bR4 4 34 false none 0 0 false none 0 0,bI2 3 32 s14 A14 l14 c14,bI2 2 32 s12 A12 l12 c12] ?_
  refine xe (Zaa (Zac (Zac (Zab (xr 1 [(2, .p 2 0),(3, .p 3 0),(4, .p 4 0),eI2 30 s14 A14 l14 c14] [bR4 4 34 false none 0 0 false none 0 0,bI2 3 32 s14 A14 l14 c14,bI2 2 32 s12 A12 l12 c12] ?_)))))
  refine xc 37 [vI2 s14 A14 l14 c14] 31 (fun _:Unit=>.int .i64 ((blen ((y).tdiv (((Int.gcd (x) (y):Nat):Int))).natAbs:Nat):Int)) _ (fun w R Q=>(ZcF _ ((y).tdiv (((Int.gcd (x) (y):Nat):Int))) _ Q.2.1 (ZaW.tdiv HFy)).mono (fun _ _ h=>Zad h rfl)) (fun xx=>?_)
  refine xr 1 [(2, .p 2 0),(3, .p 3 0),(4, .p 4 0),(32, .v (.bool ((((blen ((y).tdiv (((Int.gcd (x) (y):Nat):Int))).natAbs:Nat):Int):Int) == 1)))] [bR4 4 34 false none 0 0 false none 0 0,bI2 3 32 s14 A14 l14 c14,bI2 2 32 s12 A12 l12 c12] ?_
  refine xe (Zaa ?_)
  refine ZaA (((((blen ((y).tdiv (((Int.gcd (x) (y):Nat):Int))).natAbs:Nat):Int):Int) == 1)) (by kernel_rfl) (fun hb16=>?_) (fun hb16=>?_)
  ·have hdhb16:=Zce.1 (Zfh hb16)
   refine Zab (xr 2 [(2, .p 2 0),(3, .p 3 0),(4, .p 4 0)] [bR4 4 34 false none 0 0 false none 0 0,bI2 3 32 false none 0 0,bI2 2 32 s12 A12 l12 c12] ?_)
   refine xe (Zaa (Zac (Zab (xr 4 [(4, .p 4 0)] [bR4 4 34 s12 A12 l12 c12 false none 0 0] ?_))))
   refine xe (Zaa (Zai ?_))
   refine Zaf (v:=.agg #[.bool s12, .slice A12 l12 c12, .bool false, .slice none 0 0]) (by kernel_rfl) (fun w' R Q=>?_)
   exact ⟨_,rfl,Zax.of (by rw [HQ.1]; exact Q.1.1.2.1) (by rw [Zcy (by have:=hdhb16; have:=HQ.2; have:=q.den_nz; omega)]; exact (Zao.nil _)),R⟩
  ·have hdhb16:=fun h=>Zfi hb16 (Zce.2 h)
   refine Zaq (Zaa (Zac (Zab (xr 4 [(4, .p 4 0)] [bR4 4 34 s12 A12 l12 c12 s14 A14 l14 c14] ?_))))
   refine xe (Zaa (Zai ?_))
   refine Zaf (v:=.agg #[.bool s12, .slice A12 l12 c12, .bool s14, .slice A14 l14 c14]) (by kernel_rfl) (fun w' R Q=>?_)
   exact ⟨_,rfl,Zax.of (by rw [HQ.1]; exact Q.1.1.2.1) (by rw [ZcX (fun h=>hdhb16 (by have:=HQ.2; omega)),HQ.2]; exact Q.1.2.1),R⟩
 ·have HQ:=Zl2 Hq HY (fun h=>absurd (Zfd.2 h) (by have:=of_decide_eq_false hb11; omega))
  refine Zaq (Zaa (Zac (Zac (Zab (xr 1 [(2, .p 2 0),(3, .p 3 0),(4, .p 4 0),eI2 30 false A1 l1 c1] [bR4 4 34 false none 0 0 false none 0 0,bI2 3 32 false A1 l1 c1,bI2 2 32 s0 A0 l0 c0] ?_)))))
  refine xc 37 [vI2 false A1 l1 c1] 31 (fun _:Unit=>.int .i64 ((blen (y).natAbs:Nat):Int)) _ (fun w R Q=>(ZcF _ (y) _ Q.1.1.2 HFy).mono (fun _ _ h=>Zad h rfl)) (fun xx=>?_)
  refine xr 1 [(2, .p 2 0),(3, .p 3 0),(4, .p 4 0),(32, .v (.bool ((((blen (y).natAbs:Nat):Int):Int) == 1)))] [bR4 4 34 false none 0 0 false none 0 0,bI2 3 32 false A1 l1 c1,bI2 2 32 s0 A0 l0 c0] ?_
  refine xe (Zaa ?_)
  refine ZaA (((((blen (y).natAbs:Nat):Int):Int) == 1)) (by kernel_rfl) (fun hb17=>?_) (fun hb17=>?_)
  ·have hdhb17:=Zce.1 (Zfh hb17)
   refine Zab (xr 2 [(2, .p 2 0),(3, .p 3 0),(4, .p 4 0)] [bR4 4 34 false none 0 0 false none 0 0,bI2 3 32 false none 0 0,bI2 2 32 s0 A0 l0 c0] ?_)
   refine xe (Zaa (Zac (Zab (xr 4 [(4, .p 4 0)] [bR4 4 34 s0 A0 l0 c0 false none 0 0] ?_))))
   refine xe (Zaa (Zai ?_))
   refine Zaf (v:=.agg #[.bool s0, .slice A0 l0 c0, .bool false, .slice none 0 0]) (by kernel_rfl) (fun w' R Q=>?_)
   exact ⟨_,rfl,Zax.of (by rw [HQ.1]; exact Q.1.1.1.1) (by rw [Zcy (by have:=hdhb17; have:=HQ.2; have:=q.den_nz; omega)]; exact (Zao.nil _)),R⟩
  ·have hdhb17:=fun h=>Zfi hb17 (Zce.2 h)
   refine Zaq (Zaa (Zac (Zab (xr 4 [(4, .p 4 0)] [bR4 4 34 s0 A0 l0 c0 false A1 l1 c1] ?_))))
   refine xe (Zaa (Zai ?_))
   refine Zaf (v:=.agg #[.bool s0, .slice A0 l0 c0, .bool false, .slice A1 l1 c1]) (by kernel_rfl) (fun w' R Q=>?_)
   exact ⟨_,rfl,Zax.of (by rw [HQ.1]; exact Q.1.1.1.1) (by rw [ZcX (fun h=>hdhb17 (by have:=HQ.2; omega)),HQ.2]; exact Q.1.1.1.2),R⟩
theorem Zgx (a b:Value) (x y:Int) (w:World) (ha:Zao w a x) (hb:Zao w b y) (hx:ZaW x) (hy:ZaW y) (h0:y≠0):Calls Tryz.prog 23 #[a,b] w (Zc4 w (Rat.divInt x y)):=by
 rcases Int.lt_or_gt_of_ne h0 with h | h
 ·exact Zrm a b x y _ w ha hb hx hy h rfl
 ·exact Zrn a b x y _ w ha hb hx hy h rfl
theorem Zro (a:Value) (q:Rat) (w:World) (ha:Zax w a q) :
 Calls Tryz.prog 73 #[a] w (Zc4 w (-q)):=by
 obtain ⟨s0,A0,l0,c0,t0,B0,m0,d0,rfl⟩:=ha.shp
 refine Zay (Φ:=fun w=>Zax w (.agg #[.bool s0, .slice A0 l0 c0, .bool t0, .slice B0 m0 d0]) (q)) Tryz.func73 rfl (by kernel_rfl) (fun w' hf=>ha.ext hf) ?_
 refine Zac (Zab (xr 2 [(1, .p 1 0),(2, .p 2 0)] [bR4 2 34 false none 0 0 false none 0 0,bR4 1 34 s0 A0 l0 c0 t0 B0 m0 d0] ?_))
 refine xe (Zaa (Zac ?_))
 refine ZaD 7 (by kernel_rfl) (by kernel_rfl) Zaj ?_
 refine xf 2 [(1, .p 1 0),(2, .p 2 0),eI2 4 s0 A0 l0 c0] [bR4 2 34 false none 0 0 false none 0 0,bR4 1 34 s0 A0 l0 c0 t0 B0 m0 d0] ?_
 refine xd 68 [vI2 s0 A0 l0 c0] 5 ZaM _ (fun w R Q=>(Zhn _ ((q).num) _ Q.num).mono (fun _ _=>ZaS)) (fun xx=>?_)
 obtain ⟨s10,A10,l10,c10⟩:=xx
 refine xf 4 [(2, .p 2 0)] [bR4 2 34 s10 A10 l10 c10 t0 B0 m0 d0,bR4 2 34 false none 0 0 false none 0 0,bR4 1 34 s0 A0 l0 c0 t0 B0 m0 d0] ?_
 refine xz (xe (Zaa (Zai ?_)))
 refine Zaf (v:=.agg #[.bool s10, .slice A10 l10 c10, .bool t0, .slice B0 m0 d0]) (by kernel_rfl) (fun w' R Q=>?_)
 exact ⟨_,rfl,Zax.of (by rw [Znf]; exact Q.2) (by rw [Zr7]; exact Q.1.den),R⟩
theorem Zp1 (a:Value) (q:Rat) (w:World) (ha:Zax w a q) :
 Calls Tryz.prog 50 #[a] w (RetV w (.int .i64 q.num.sign)):=by
 obtain ⟨s0,A0,l0,c0,t0,B0,m0,d0,rfl⟩:=ha.shp
 refine Zay (Φ:=fun w=>Zax w (.agg #[.bool s0, .slice A0 l0 c0, .bool t0, .slice B0 m0 d0]) (q)) Tryz.func50 rfl (by kernel_rfl) (fun w' hf=>ha.ext hf) ?_
 refine Zac (Zab (xr 2 [(1, .p 1 0),(2, .v (.int .i64 0))] [bR4 1 34 s0 A0 l0 c0 t0 B0 m0 d0] ?_))
 refine xe (Zaa (Zac (Zab (xr 2 [(2, .v (.int .i64 0)),eI2 4 s0 A0 l0 c0] [] ?_))))
 refine xc 62 [vI2 s0 A0 l0 c0] 5 (fun _:Unit=>.int .i64 ((q).num).sign) _ (fun w R Q=>(Zdb _ ((q).num) _ Q.num).mono (fun _ _ h=>Zad h rfl)) (fun xx=>?_)
 refine xr 1 [(2, .v (.int .i64 ((q).num).sign))] [] ?_
 refine xe (Zaa (Zai ?_))
 refine Zaf (v:=.int .i64 ((q).num).sign) (by kernel_rfl) (fun w' R Q=>?_)
 exact ⟨rfl,R⟩
theorem Zot (a b:Value) (p q:Rat) (w:World) (ha:Zax w a p) (hb:Zax w b q) (hp:ZcU p) (hq:ZcU q) (h1:p.den=1) (h2:q.den=1) :
 Calls Tryz.prog 32 #[a,b] w (Zc4 w (p + q)):=by
 obtain ⟨s0,A0,l0,c0,t0,B0,m0,d0,rfl⟩:=ha.shp
 obtain rfl:m0=0:=ha.den.len0 (Zcy h1)
 obtain ⟨s1,A1,l1,c1,t1,B1,m1,d1,rfl⟩:=hb.shp
 obtain rfl:m1=0:=hb.den.len0 (Zcy h2)
 have S1:ml p.num.natAbs≤100000:=hp.1
 have S2:ml q.num.natAbs≤100000:=hq.1
 have S3:ml ((p.den:Nat):Int).natAbs≤100000:=mlc hp.2
 have S4:ml ((q.den:Nat):Int).natAbs≤100000:=mlc hq.2
 refine Zay (Φ:=fun w=>(Zax w (.agg #[.bool s0, .slice A0 l0 c0, .bool t0, .slice B0 0 d0]) (p)∧Zax w (.agg #[.bool s1, .slice A1 l1 c1, .bool t1, .slice B1 0 d1]) (q))) Tryz.func32 rfl (by kernel_rfl) (fun w' hf=>⟨ha.ext hf,hb.ext hf⟩) ?_
 refine Zac (Zab (xr 3 [(2, .p 2 0),(3, .p 3 0),(4, .p 4 0)] [bR4 4 34 false none 0 0 false none 0 0,bR4 3 34 s1 A1 l1 c1 t1 B1 0 d1,bR4 2 34 s0 A0 l0 c0 t0 B0 0 d0] ?_))
 refine xe (Zaa (Zac (Zac (Zab (xr 12 [(2, .p 2 0),(3, .p 3 0),(4, .p 4 0),(16, .v (.bool true))] [bR4 4 34 false none 0 0 false none 0 0,bR4 3 34 s1 A1 l1 c1 t1 B1 0 d1,bR4 2 34 s0 A0 l0 c0 t0 B0 0 d0] ?_)))))
 refine xe (Zaa (xa (Zac (Zab (xr 4 [(2, .p 2 0),(3, .p 3 0),(4, .p 4 0),eI2 18 s0 A0 l0 c0,eI2 20 s1 A1 l1 c1] [bR4 4 34 false none 0 0 false none 0 0,bR4 3 34 s1 A1 l1 c1 t1 B1 0 d1,bR4 2 34 s0 A0 l0 c0 t0 B0 0 d0] ?_)))))
 refine xc 77 [vI2 s0 A0 l0 c0,vI2 s1 A1 l1 c1] 21 ZaM _ (fun w R Q=>(ZjD _ _ ((p).num) ((q).num) _ Q.1.num Q.2.num (nfit S1 (by decide)) (nfit S2 (by decide))).mono (fun _ _=>ZaS)) (fun xx=>?_)
 obtain ⟨s10,A10,l10,c10⟩:=xx
 refine xr 2 [(2, .p 2 0),(3, .p 3 0),(4, .p 4 0)] [bR4 4 34 s10 A10 l10 c10 false none 0 0,bR4 3 34 s1 A1 l1 c1 t1 B1 0 d1,bR4 2 34 s0 A0 l0 c0 t0 B0 0 d0] ?_
 refine xe (Zaa (Zai (Zah ?_)))
 refine Zaf (v:=.agg #[.bool s10, .slice A10 l10 c10, .bool false, .slice none 0 0]) (by kernel_rfl) (fun w' R Q=>?_)
 exact ⟨_,rfl,Zax.of (by rw [(ZhJ h1 h2).1]; exact Q.2) (by rw [Zcy (ZhJ h1 h2).2]; exact (Zao.nil _)),R⟩
theorem Zou (a b:Value) (p q:Rat) (w:World) (ha:Zax w a p) (hb:Zax w b q) (hp:ZcU p) (hq:ZcU q) (h1:¬ p.den=1) :
 Calls Tryz.prog 32 #[a,b] w (Zc4 w (p + q)):=by
 obtain ⟨s0,A0,l0,c0,t0,B0,m0,d0,rfl⟩:=ha.shp
 obtain ⟨k0,rfl⟩:∃ k,m0=k + 1:=⟨m0 - 1,by have:=ha.den.lenp (ZgX h1); omega⟩
 obtain ⟨s1,A1,l1,c1,t1,B1,m1,d1,rfl⟩:=hb.shp
 have S1:ml p.num.natAbs≤100000:=hp.1
 have S2:ml q.num.natAbs≤100000:=hq.1
 have S3:ml ((p.den:Nat):Int).natAbs≤100000:=mlc hp.2
 have S4:ml ((q.den:Nat):Int).natAbs≤100000:=mlc hq.2
 refine Zay (Φ:=fun w=>(Zax w (.agg #[.bool s0, .slice A0 l0 c0, .bool t0, .slice B0 (k0 + 1) d0]) (p)∧Zax w (.agg #[.bool s1, .slice A1 l1 c1, .bool t1, .slice B1 m1 d1]) (q))) Tryz.func32 rfl (by kernel_rfl) (fun w' hf=>⟨ha.ext hf,hb.ext hf⟩) ?_
 refine Zac (Zab (xr 3 [(2, .p 2 0),(3, .p 3 0),(4, .p 4 0)] [bR4 4 34 false none 0 0 false none 0 0,bR4 3 34 s1 A1 l1 c1 t1 B1 m1 d1,bR4 2 34 s0 A0 l0 c0 t0 B0 (k0 + 1) d0] ?_))
 refine xe (Zaa (Zac (Zac (Zab (xr 12 [(2, .p 2 0),(3, .p 3 0),(4, .p 4 0),(16, .v (.bool false))] [bR4 4 34 false none 0 0 false none 0 0,bR4 3 34 s1 A1 l1 c1 t1 B1 m1 d1,bR4 2 34 s0 A0 l0 c0 t0 B0 (k0 + 1) d0] ?_)))))
 refine xe (Zaa (xb (Zaq (Zaa (Zac ?_)))))
 refine ZaD 18 (by kernel_rfl) (by kernel_rfl) Zaj ?_
 refine xf 3 [(2, .p 2 0),(3, .p 3 0),(4, .p 4 0),eI2 24 s0 A0 l0 c0,eR4 25 s1 A1 l1 c1 t1 B1 m1 d1] [bR4 4 34 false none 0 0 false none 0 0,bR4 3 34 s1 A1 l1 c1 t1 B1 m1 d1,bR4 2 34 s0 A0 l0 c0 t0 B0 (k0 + 1) d0] ?_
 refine xd 75 [vR4 s1 A1 l1 c1 t1 B1 m1 d1] 26 ZaM _ (fun w R Q=>(Zdk _ (q) _ Q.2).mono (fun _ _=>ZaS)) (fun xx=>?_)
 obtain ⟨s10,A10,l10,c10⟩:=xx
 refine xf 0 [(2, .p 2 0),(3, .p 3 0),(4, .p 4 0),eI2 24 s0 A0 l0 c0,eI2 26 s10 A10 l10 c10] [bR4 4 34 false none 0 0 false none 0 0,bR4 3 34 s1 A1 l1 c1 t1 B1 m1 d1,bR4 2 34 s0 A0 l0 c0 t0 B0 (k0 + 1) d0] ?_
 refine xd 74 [vI2 s0 A0 l0 c0,vI2 s10 A10 l10 c10] 27 ZaM _ (fun w R Q=>(ZeU _ _ ((p).num) (((q).den:Int)) _ Q.1.1.num Q.2 (nfit S1 (by decide)) (nfit S4 (by decide))).mono (fun _ _=>ZaS)) (fun xx=>?_)
 obtain ⟨s11,A11,l11,c11⟩:=xx
 refine xf 3 [(2, .p 2 0),(3, .p 3 0),(4, .p 4 0),eI2 27 s11 A11 l11 c11,eI2 29 s1 A1 l1 c1,eR4 30 s0 A0 l0 c0 t0 B0 (k0 + 1) d0] [bR4 4 34 false none 0 0 false none 0 0,bR4 3 34 s1 A1 l1 c1 t1 B1 m1 d1,bR4 2 34 s0 A0 l0 c0 t0 B0 (k0 + 1) d0] ?_
 refine xd 75 [vR4 s0 A0 l0 c0 t0 B0 (k0 + 1) d0] 31 ZaM _ (fun w R Q=>(Zdk _ (p) _ Q.1.1.1).mono (fun _ _=>ZaS)) (fun xx=>?_)
 obtain ⟨s12,A12,l12,c12⟩:=xx
 refine xf 0 [(2, .p 2 0),(3, .p 3 0),(4, .p 4 0),eI2 27 s11 A11 l11 c11,eI2 29 s1 A1 l1 c1,eI2 31 s12 A12 l12 c12] [bR4 4 34 false none 0 0 false none 0 0,bR4 3 34 s1 A1 l1 c1 t1 B1 m1 d1,bR4 2 34 s0 A0 l0 c0 t0 B0 (k0 + 1) d0] ?_
 refine xd 74 [vI2 s1 A1 l1 c1,vI2 s12 A12 l12 c12] 32 ZaM _ (fun w R Q=>(ZeU _ _ ((q).num) (((p).den:Int)) _ Q.1.1.1.2.num Q.2 (nfit S2 (by decide)) (nfit S3 (by decide))).mono (fun _ _=>ZaS)) (fun xx=>?_)
 obtain ⟨s13,A13,l13,c13⟩:=xx
 refine xf 0 [(2, .p 2 0),(3, .p 3 0),(4, .p 4 0),eI2 27 s11 A11 l11 c11,eI2 32 s13 A13 l13 c13] [bR4 4 34 false none 0 0 false none 0 0,bR4 3 34 s1 A1 l1 c1 t1 B1 m1 d1,bR4 2 34 s0 A0 l0 c0 t0 B0 (k0 + 1) d0] ?_
 refine xd 77 [vI2 s11 A11 l11 c11,vI2 s13 A13 l13 c13] 33 ZaM _ (fun w R Q=>(ZjD _ _ (((p).num) * (((q).den:Int))) (((q).num) * (((p).den:Int))) _ Q.1.1.2 Q.2 (nfit (mlm S1 S4) (by decide)) (nfit (mlm S2 S3) (by decide))).mono (fun _ _=>ZaS)) (fun xx=>?_)
 obtain ⟨s14,A14,l14,c14⟩:=xx
 refine xf 1 [(3, .p 3 0),(4, .p 4 0),eI2 33 s14 A14 l14 c14,eR4 34 s0 A0 l0 c0 t0 B0 (k0 + 1) d0] [bR4 4 34 false none 0 0 false none 0 0,bR4 3 34 s1 A1 l1 c1 t1 B1 m1 d1,bR4 2 34 s0 A0 l0 c0 t0 B0 (k0 + 1) d0] ?_
 refine xd 75 [vR4 s0 A0 l0 c0 t0 B0 (k0 + 1) d0] 35 ZaM _ (fun w R Q=>(Zdk _ (p) _ Q.1.1.1.1.1.1).mono (fun _ _=>ZaS)) (fun xx=>?_)
 obtain ⟨s15,A15,l15,c15⟩:=xx
 refine xf 1 [(4, .p 4 0),eI2 33 s14 A14 l14 c14,eI2 35 s15 A15 l15 c15,eR4 36 s1 A1 l1 c1 t1 B1 m1 d1] [bR4 4 34 false none 0 0 false none 0 0,bR4 3 34 s1 A1 l1 c1 t1 B1 m1 d1,bR4 2 34 s0 A0 l0 c0 t0 B0 (k0 + 1) d0] ?_
 refine xd 75 [vR4 s1 A1 l1 c1 t1 B1 m1 d1] 37 ZaM _ (fun w R Q=>(Zdk _ (q) _ Q.1.1.1.1.1.1.2).mono (fun _ _=>ZaS)) (fun xx=>?_)
 obtain ⟨s16,A16,l16,c16⟩:=xx
 refine xf 0 [(4, .p 4 0),eI2 33 s14 A14 l14 c14,eI2 35 s15 A15 l15 c15,eI2 37 s16 A16 l16 c16] [bR4 4 34 false none 0 0 false none 0 0,bR4 3 34 s1 A1 l1 c1 t1 B1 m1 d1,bR4 2 34 s0 A0 l0 c0 t0 B0 (k0 + 1) d0] ?_
 refine xd 74 [vI2 s15 A15 l15 c15,vI2 s16 A16 l16 c16] 38 ZaM _ (fun w R Q=>(ZeU _ _ (((p).den:Int)) (((q).den:Int)) _ Q.1.2 Q.2 (nfit S3 (by decide)) (nfit S4 (by decide))).mono (fun _ _=>ZaS)) (fun xx=>?_)
 obtain ⟨s17,A17,l17,c17⟩:=xx
 refine xf 0 [(4, .p 4 0),eI2 33 s14 A14 l14 c14,eI2 38 s17 A17 l17 c17] [bR4 4 34 false none 0 0 false none 0 0,bR4 3 34 s1 A1 l1 c1 t1 B1 m1 d1,bR4 2 34 s0 A0 l0 c0 t0 B0 (k0 + 1) d0] ?_
 refine xd 23 [vI2 s14 A14 l14 c14,vI2 s17 A17 l17 c17] 39 Zbf _ (fun w R Q=>(Zgx _ _ ((((p).num) * (((q).den:Int))) + (((q).num) * (((p).den:Int)))) ((((p).den:Int)) * (((q).den:Int))) _ Q.1.1.1.2 Q.2 (nfit (mla (a:=200000) (mlm S1 S4) (mlm S2 S3)) (by decide)) (nfit (mlm S3 S4) (by decide)) (Int.mul_ne_zero (denI p) (denI q))).mono (fun _ _ h=>Za0 (by rw [Zii] at h; exact h))) (fun xx=>?_)
 obtain ⟨s18,A18,l18,c18,t18,B18,m18,d18⟩:=xx
 refine xf 1 [(4, .p 4 0)] [bR4 4 34 s18 A18 l18 c18 t18 B18 m18 d18,bR4 4 34 false none 0 0 false none 0 0,bR4 3 34 s1 A1 l1 c1 t1 B1 m1 d1,bR4 2 34 s0 A0 l0 c0 t0 B0 (k0 + 1) d0] ?_
 refine xz (xe (Zaa (Zai ?_)))
 refine Zaf (v:=.agg #[.bool s18, .slice A18 l18 c18, .bool t18, .slice B18 m18 d18]) (by kernel_rfl) (fun w' R Q=>?_)
 exact ⟨_,rfl,Q.2,R⟩
theorem Zov (a b:Value) (p q:Rat) (w:World) (ha:Zax w a p) (hb:Zax w b q) (hp:ZcU p) (hq:ZcU q) (h1:p.den=1) (h2:¬ q.den=1) :
 Calls Tryz.prog 32 #[a,b] w (Zc4 w (p + q)):=by
 obtain ⟨s0,A0,l0,c0,t0,B0,m0,d0,rfl⟩:=ha.shp
 obtain rfl:m0=0:=ha.den.len0 (Zcy h1)
 obtain ⟨s1,A1,l1,c1,t1,B1,m1,d1,rfl⟩:=hb.shp
 obtain ⟨k1,rfl⟩:∃ k,m1=k + 1:=⟨m1 - 1,by have:=hb.den.lenp (ZgX h2); omega⟩
 have S1:ml p.num.natAbs≤100000:=hp.1
 have S2:ml q.num.natAbs≤100000:=hq.1
 have S3:ml ((p.den:Nat):Int).natAbs≤100000:=mlc hp.2
 have S4:ml ((q.den:Nat):Int).natAbs≤100000:=mlc hq.2
 refine Zay (Φ:=fun w=>(Zax w (.agg #[.bool s0, .slice A0 l0 c0, .bool t0, .slice B0 0 d0]) (p)∧Zax w (.agg #[.bool s1, .slice A1 l1 c1, .bool t1, .slice B1 (k1 + 1) d1]) (q))) Tryz.func32 rfl (by kernel_rfl) (fun w' hf=>⟨ha.ext hf,hb.ext hf⟩) ?_
 refine Zac (Zab (xr 3 [(2, .p 2 0),(3, .p 3 0),(4, .p 4 0)] [bR4 4 34 false none 0 0 false none 0 0,bR4 3 34 s1 A1 l1 c1 t1 B1 (k1 + 1) d1,bR4 2 34 s0 A0 l0 c0 t0 B0 0 d0] ?_))
 refine xe (Zaa (Zac (Zac (Zab (xr 12 [(2, .p 2 0),(3, .p 3 0),(4, .p 4 0),(16, .v (.bool false))] [bR4 4 34 false none 0 0 false none 0 0,bR4 3 34 s1 A1 l1 c1 t1 B1 (k1 + 1) d1,bR4 2 34 s0 A0 l0 c0 t0 B0 0 d0] ?_)))))
 refine xe (Zaa (xb (Zaq (Zaa (Zac ?_)))))
 refine ZaD 18 (by kernel_rfl) (by kernel_rfl) Zaj ?_
 refine xf 3 [(2, .p 2 0),(3, .p 3 0),(4, .p 4 0),eI2 24 s0 A0 l0 c0,eR4 25 s1 A1 l1 c1 t1 B1 (k1 + 1) d1] [bR4 4 34 false none 0 0 false none 0 0,bR4 3 34 s1 A1 l1 c1 t1 B1 (k1 + 1) d1,bR4 2 34 s0 A0 l0 c0 t0 B0 0 d0] ?_
 refine xd 75 [vR4 s1 A1 l1 c1 t1 B1 (k1 + 1) d1] 26 ZaM _ (fun w R Q=>(Zdk _ (q) _ Q.2).mono (fun _ _=>ZaS)) (fun xx=>?_)
 obtain ⟨s10,A10,l10,c10⟩:=xx
 refine xf 0 [(2, .p 2 0),(3, .p 3 0),(4, .p 4 0),eI2 24 s0 A0 l0 c0,eI2 26 s10 A10 l10 c10] [bR4 4 34 false none 0 0 false none 0 0,bR4 3 34 s1 A1 l1 c1 t1 B1 (k1 + 1) d1,bR4 2 34 s0 A0 l0 c0 t0 B0 0 d0] ?_
 refine xd 74 [vI2 s0 A0 l0 c0,vI2 s10 A10 l10 c10] 27 ZaM _ (fun w R Q=>(ZeU _ _ ((p).num) (((q).den:Int)) _ Q.1.1.num Q.2 (nfit S1 (by decide)) (nfit S4 (by decide))).mono (fun _ _=>ZaS)) (fun xx=>?_)
 obtain ⟨s11,A11,l11,c11⟩:=xx
 refine xf 3 [(2, .p 2 0),(3, .p 3 0),(4, .p 4 0),eI2 27 s11 A11 l11 c11,eI2 29 s1 A1 l1 c1,eR4 30 s0 A0 l0 c0 t0 B0 0 d0] [bR4 4 34 false none 0 0 false none 0 0,bR4 3 34 s1 A1 l1 c1 t1 B1 (k1 + 1) d1,bR4 2 34 s0 A0 l0 c0 t0 B0 0 d0] ?_
 refine xd 75 [vR4 s0 A0 l0 c0 t0 B0 0 d0] 31 ZaM _ (fun w R Q=>(Zdk _ (p) _ Q.1.1.1).mono (fun _ _=>ZaS)) (fun xx=>?_)
 obtain ⟨s12,A12,l12,c12⟩:=xx
 refine xf 0 [(2, .p 2 0),(3, .p 3 0),(4, .p 4 0),eI2 27 s11 A11 l11 c11,eI2 29 s1 A1 l1 c1,eI2 31 s12 A12 l12 c12] [bR4 4 34 false none 0 0 false none 0 0,bR4 3 34 s1 A1 l1 c1 t1 B1 (k1 + 1) d1,bR4 2 34 s0 A0 l0 c0 t0 B0 0 d0] ?_
 refine xd 74 [vI2 s1 A1 l1 c1,vI2 s12 A12 l12 c12] 32 ZaM _ (fun w R Q=>(ZeU _ _ ((q).num) (((p).den:Int)) _ Q.1.1.1.2.num Q.2 (nfit S2 (by decide)) (nfit S3 (by decide))).mono (fun _ _=>ZaS)) (fun xx=>?_)
 obtain ⟨s13,A13,l13,c13⟩:=xx
 refine xf 0 [(2, .p 2 0),(3, .p 3 0),(4, .p 4 0),eI2 27 s11 A11 l11 c11,eI2 32 s13 A13 l13 c13] [bR4 4 34 false none 0 0 false none 0 0,bR4 3 34 s1 A1 l1 c1 t1 B1 (k1 + 1) d1,bR4 2 34 s0 A0 l0 c0 t0 B0 0 d0] ?_
 refine xd 77 [vI2 s11 A11 l11 c11,vI2 s13 A13 l13 c13] 33 ZaM _ (fun w R Q=>(ZjD _ _ (((p).num) * (((q).den:Int))) (((q).num) * (((p).den:Int))) _ Q.1.1.2 Q.2 (nfit (mlm S1 S4) (by decide)) (nfit (mlm S2 S3) (by decide))).mono (fun _ _=>ZaS)) (fun xx=>?_)
 obtain ⟨s14,A14,l14,c14⟩:=xx
 refine xf 1 [(3, .p 3 0),(4, .p 4 0),eI2 33 s14 A14 l14 c14,eR4 34 s0 A0 l0 c0 t0 B0 0 d0] [bR4 4 34 false none 0 0 false none 0 0,bR4 3 34 s1 A1 l1 c1 t1 B1 (k1 + 1) d1,bR4 2 34 s0 A0 l0 c0 t0 B0 0 d0] ?_
 refine xd 75 [vR4 s0 A0 l0 c0 t0 B0 0 d0] 35 ZaM _ (fun w R Q=>(Zdk _ (p) _ Q.1.1.1.1.1.1).mono (fun _ _=>ZaS)) (fun xx=>?_)
 obtain ⟨s15,A15,l15,c15⟩:=xx
 refine xf 1 [(4, .p 4 0),eI2 33 s14 A14 l14 c14,eI2 35 s15 A15 l15 c15,eR4 36 s1 A1 l1 c1 t1 B1 (k1 + 1) d1] [bR4 4 34 false none 0 0 false none 0 0,bR4 3 34 s1 A1 l1 c1 t1 B1 (k1 + 1) d1,bR4 2 34 s0 A0 l0 c0 t0 B0 0 d0] ?_
 refine xd 75 [vR4 s1 A1 l1 c1 t1 B1 (k1 + 1) d1] 37 ZaM _ (fun w R Q=>(Zdk _ (q) _ Q.1.1.1.1.1.1.2).mono (fun _ _=>ZaS)) (fun xx=>?_)
 obtain ⟨s16,A16,l16,c16⟩:=xx
 refine xf 0 [(4, .p 4 0),eI2 33 s14 A14 l14 c14,eI2 35 s15 A15 l15 c15,eI2 37 s16 A16 l16 c16] [bR4 4 34 false none 0 0 false none 0 0,bR4 3 34 s1 A1 l1 c1 t1 B1 (k1 + 1) d1,bR4 2 34 s0 A0 l0 c0 t0 B0 0 d0] ?_
 refine xd 74 [vI2 s15 A15 l15 c15,vI2 s16 A16 l16 c16] 38 ZaM _ (fun w R Q=>(ZeU _ _ (((p).den:Int)) (((q).den:Int)) _ Q.1.2 Q.2 (nfit S3 (by decide)) (nfit S4 (by decide))).mono (fun _ _=>ZaS)) (fun xx=>?_)
 obtain ⟨s17,A17,l17,c17⟩:=xx
 refine xf 0 [(4, .p 4 0),eI2 33 s14 A14 l14 c14,eI2 38 s17 A17 l17 c17] [bR4 4 34 false none 0 0 false none 0 0,bR4 3 34 s1 A1 l1 c1 t1 B1 (k1 + 1) d1,bR4 2 34 s0 A0 l0 c0 t0 B0 0 d0] ?_
 refine xd 23 [vI2 s14 A14 l14 c14,vI2 s17 A17 l17 c17] 39 Zbf _ (fun w R Q=>(Zgx _ _ ((((p).num) * (((q).den:Int))) + (((q).num) * (((p).den:Int)))) ((((p).den:Int)) * (((q).den:Int))) _ Q.1.1.1.2 Q.2 (nfit (mla (a:=200000) (mlm S1 S4) (mlm S2 S3)) (by decide)) (nfit (mlm S3 S4) (by decide)) (Int.mul_ne_zero (denI p) (denI q))).mono (fun _ _ h=>Za0 (by rw [Zii] at h; exact h))) (fun xx=>?_)
 obtain ⟨s18,A18,l18,c18,t18,B18,m18,d18⟩:=xx
 refine xf 1 [(4, .p 4 0)] [bR4 4 34 s18 A18 l18 c18 t18 B18 m18 d18,bR4 4 34 false none 0 0 false none 0 0,bR4 3 34 s1 A1 l1 c1 t1 B1 (k1 + 1) d1,bR4 2 34 s0 A0 l0 c0 t0 B0 0 d0] ?_
 refine xz (xe (Zaa (Zai ?_)))
 refine Zaf (v:=.agg #[.bool s18, .slice A18 l18 c18, .bool t18, .slice B18 m18 d18]) (by kernel_rfl) (fun w' R Q=>?_)
 exact ⟨_,rfl,Q.2,R⟩
theorem Zrp (a b:Value) (p q:Rat) (w:World) (ha:Zax w a p) (hb:Zax w b q) (hp:ZcU p) (hq:ZcU q):Calls Tryz.prog 32 #[a,b] w (Zc4 w (p + q)):=by
 by_cases h1:p.den=1
 ·by_cases h2:q.den=1
  ·exact Zot a b p q w ha hb hp hq h1 h2
  ·exact Zov a b p q w ha hb hp hq h1 h2
 ·exact Zou a b p q w ha hb hp hq h1
theorem Zrq (a b:Value) (p q:Rat) (w:World) (ha:Zax w a p) (hb:Zax w b q) (hp:ZcU p) (hq:ZcU q) :
 Calls Tryz.prog 27 #[a,b] w (Zc4 w (p - q)):=by
 obtain ⟨s0,A0,l0,c0,t0,B0,m0,d0,rfl⟩:=ha.shp
 obtain ⟨s1,A1,l1,c1,t1,B1,m1,d1,rfl⟩:=hb.shp
 refine Zay (Φ:=fun w=>(Zax w (.agg #[.bool s0, .slice A0 l0 c0, .bool t0, .slice B0 m0 d0]) (p)∧Zax w (.agg #[.bool s1, .slice A1 l1 c1, .bool t1, .slice B1 m1 d1]) (q))) Tryz.func27 rfl (by kernel_rfl) (fun w' hf=>⟨ha.ext hf,hb.ext hf⟩) ?_
 refine Zac (Zab (xr 3 [(2, .p 2 0),(3, .p 3 0),(4, .p 4 0)] [bR4 4 34 false none 0 0 false none 0 0,bR4 3 34 s1 A1 l1 c1 t1 B1 m1 d1,bR4 2 34 s0 A0 l0 c0 t0 B0 m0 d0] ?_))
 refine xe (Zaa (Zac ?_))
 refine ZaD 5 (by kernel_rfl) (by kernel_rfl) Zaj ?_
 refine xf 2 [(4, .p 4 0),eR4 5 s0 A0 l0 c0 t0 B0 m0 d0,eR4 6 s1 A1 l1 c1 t1 B1 m1 d1] [bR4 4 34 false none 0 0 false none 0 0,bR4 3 34 s1 A1 l1 c1 t1 B1 m1 d1,bR4 2 34 s0 A0 l0 c0 t0 B0 m0 d0] ?_
 refine xd 73 [vR4 s1 A1 l1 c1 t1 B1 m1 d1] 7 Zbf _ (fun w R Q=>(Zro _ (q) _ Q.2).mono (fun _ _=>Za0)) (fun xx=>?_)
 obtain ⟨s10,A10,l10,c10,t10,B10,m10,d10⟩:=xx
 refine xf 0 [(4, .p 4 0),eR4 5 s0 A0 l0 c0 t0 B0 m0 d0,eR4 7 s10 A10 l10 c10 t10 B10 m10 d10] [bR4 4 34 false none 0 0 false none 0 0,bR4 3 34 s1 A1 l1 c1 t1 B1 m1 d1,bR4 2 34 s0 A0 l0 c0 t0 B0 m0 d0] ?_
 refine xd 32 [vR4 s0 A0 l0 c0 t0 B0 m0 d0,vR4 s10 A10 l10 c10 t10 B10 m10 d10] 8 Zbf _ (fun w R Q=>(Zrp _ _ (p) (-(q)) _ Q.1.1 Q.2 hp hq.neg).mono (fun _ _ h=>Za0 (by rw [← Rat.sub_eq_add_neg] at h; exact h))) (fun xx=>?_)
 obtain ⟨s11,A11,l11,c11,t11,B11,m11,d11⟩:=xx
 refine xf 1 [(4, .p 4 0)] [bR4 4 34 s11 A11 l11 c11 t11 B11 m11 d11,bR4 4 34 false none 0 0 false none 0 0,bR4 3 34 s1 A1 l1 c1 t1 B1 m1 d1,bR4 2 34 s0 A0 l0 c0 t0 B0 m0 d0] ?_
 refine xz (xe (Zaa (Zai ?_)))
 refine Zaf (v:=.agg #[.bool s11, .slice A11 l11 c11, .bool t11, .slice B11 m11 d11]) (by kernel_rfl) (fun w' R Q=>?_)
 exact ⟨_,rfl,Q.2,R⟩
theorem Zdd (a b:Value) (p q:Rat) (w:World) (ha:Zax w a p) (hb:Zax w b q) (hp:ZcU p) (hq:ZcU q) :
 Calls Tryz.prog 28 #[a,b] w (RetV w (.int .i64 (p - q).num.sign)):=by
 obtain ⟨s0,A0,l0,c0,t0,B0,m0,d0,rfl⟩:=ha.shp
 obtain ⟨s1,A1,l1,c1,t1,B1,m1,d1,rfl⟩:=hb.shp
 refine Zay (Φ:=fun w=>(Zax w (.agg #[.bool s0, .slice A0 l0 c0, .bool t0, .slice B0 m0 d0]) (p)∧Zax w (.agg #[.bool s1, .slice A1 l1 c1, .bool t1, .slice B1 m1 d1]) (q))) Tryz.func28 rfl (by kernel_rfl) (fun w' hf=>⟨ha.ext hf,hb.ext hf⟩) ?_
 refine Zac (Zab (xr 3 [(2, .p 2 0),(3, .p 3 0),(4, .v (.int .i64 0))] [bR4 3 34 s1 A1 l1 c1 t1 B1 m1 d1,bR4 2 34 s0 A0 l0 c0 t0 B0 m0 d0] ?_))
 refine xe (Zaa (Zac (Zab (xr 2 [(4, .v (.int .i64 0)),eR4 5 s0 A0 l0 c0 t0 B0 m0 d0,eR4 6 s1 A1 l1 c1 t1 B1 m1 d1] [] ?_))))
 refine xc 27 [vR4 s0 A0 l0 c0 t0 B0 m0 d0,vR4 s1 A1 l1 c1 t1 B1 m1 d1] 7 Zbf _ (fun w R Q=>(Zrq _ _ (p) (q) _ Q.1 Q.2 hp hq).mono (fun _ _=>Za0)) (fun xx=>?_)
 obtain ⟨s10,A10,l10,c10,t10,B10,m10,d10⟩:=xx
 refine xr 0 [(4, .v (.int .i64 0)),eR4 7 s10 A10 l10 c10 t10 B10 m10 d10] [] ?_
 refine xc 50 [vR4 s10 A10 l10 c10 t10 B10 m10 d10] 8 (fun _:Unit=>.int .i64 (p - q).num.sign) _ (fun w R Q=>(Zp1 _ (p - q) _ Q.2).mono (fun _ _ h=>Zad h rfl)) (fun xx=>?_)
 refine xr 1 [(4, .v (.int .i64 (p - q).num.sign))] [] ?_
 refine xe (Zaa (Zai ?_))
 refine Zaf (v:=.int .i64 (p - q).num.sign) (by kernel_rfl) (fun w' R Q=>?_)
 exact ⟨rfl,R⟩
end Go.Proofs.YtklpdkpcocnglaaGreatDoor

namespace Go.Proofs.YtklpdkpcocnglaaGreatDoor
open Go.RowKit
theorem Zg0 (a b:List UInt8):(⟨a.toArray⟩:ByteArray) ++ ⟨b.toArray⟩=⟨(a ++ b).toArray⟩:=by
 apply ByteArray.ext
 simp
theorem ZfI {n:Nat} (hn:ml n≤65536):(Lib.decDigits n).length≤655360:=by
 rcases Nat.eq_zero_or_pos n with e | e
 ·rw [e,Lib.decDigits_one (by omega)]; simp
 ·have h1:n < 10 ^ (10 * ml n):=by
   refine Nat.lt_of_lt_of_le (ZiN n) ?_
   rw [Nat.pow_mul]
   exact Nat.pow_le_pow_left (by rw [Zav]; decide) _
  have:=ZpS _ _ h1
  rw [ZbQ e] at this
  omega
set_option maxHeartbeats 2000000 in
theorem Zmq (a:Value) (q:Rat) (w:World) (ha:Zax w a q) (h1:ml q.num.natAbs≤65536) (_:ml q.den≤65536) (hs:q.num < 0) (hd:q.den=1) :
 Calls Tryz.prog 31 #[a] w (RetV w (.string ⟨(Zaz q).toArray⟩)):=by
 obtain ⟨s1,A1,l1,c1,t1,B1,m1,d1,rfl⟩:=ha.shp
 have F2:Hid (Zax w (.agg #[.bool s1, .slice A1 l1 c1, .bool t1, .slice B1 m1 d1]) (q)):=ha
 clear ha
 obtain rfl:s1=true:=F2.out.num.sneg hs
 have H1:Hid (ml q.num.natAbs≤65536):=h1
 obtain rfl:m1=0:=F2.out.den.len0 (Zcy hd)
 have HT:Hid (Zaz q=45 :: Lib.decDigits q.num.natAbs):=by unfold Hid Zaz Lib.itoa; rw [if_pos hd,if_pos hs]
 obtain ⟨rt,ert⟩:∃ rt,Zaz q=rt:=⟨_,rfl⟩
 rw [ert] at HT ⊢
 clear hs hd h1 ert
 go_enter Tryz.func31,Tryz.ntmps31
 go_wp2_with fail
 generalize hwb:World.alloc w _=w4
 obtain ⟨b_B3,hE0⟩:=ZcP hwb
 clear hwb
 have B3:=zh b_B3
 clear b_B3
 replace F2:=zh (F2.out.ext hE0)
 have HE:=zh hE0
 clear hE0
 have F5:Hid (Zao w4 (.agg #[.bool true, .slice A1 l1 c1]) ((q).num)):=F2.out.num
 have F8:Hid (Zar w4 (.slice A1 l1 c1) (((q).num).natAbs)):=F5.out.mag
 refine (Zd6 true A1 l1 c1 _ _ F8.out (by first | exact H1.out | exact H2.out)).mono ?_
 obtain ⟨t7,et7⟩:∃ t,Lib.decDigits (((q).num).natAbs)=t:=⟨_,rfl⟩
 rw [et7]; have hlen7:t7.length≤655360:=by rw [← et7]; exact ZfI (by first | exact H1.out | exact H2.out)
 have Ht7:=zh et7; clear et7
 rintro e w6 ⟨rfl,hF⟩
 replace B3:=zh (B3.out.ext hF)
 replace F2:=zh (F2.out.ext hF)
 replace F5:=zh (F5.out.ext hF)
 replace F8:=zh (F8.out.ext hF)
 replace HE:=zh (HE.out.trans hF)
 clear hF
 obtain ⟨c9_0,c9_1,c9_2,c9_3,f9_0,f9_1,f9_2,f9_3⟩:=B3.out.cell4
 go_wp2
 clear c9_0 c9_1 c9_2 c9_3 f9_0 f9_1 f9_2 f9_3
 go_ret
 refine ⟨?_,HE.out⟩
 rw [HT.out,Ht7.out]
 show Ending.returned (.string ((⟨#[45]⟩:ByteArray) ++ ⟨t7.toArray⟩))=_
 simp only [Zg0]
 rfl
set_option maxHeartbeats 2000000 in
theorem Zmr (a:Value) (q:Rat) (w:World) (ha:Zax w a q) (h1:ml q.num.natAbs≤65536) (h2:ml q.den≤65536) (hs:q.num < 0) (hd:¬ q.den=1) :
 Calls Tryz.prog 31 #[a] w (RetV w (.string ⟨(Zaz q).toArray⟩)):=by
 obtain ⟨s1,A1,l1,c1,t1,B1,m1,d1,rfl⟩:=ha.shp
 have F2:Hid (Zax w (.agg #[.bool s1, .slice A1 l1 c1, .bool t1, .slice B1 m1 d1]) (q)):=ha
 clear ha
 obtain rfl:s1=true:=F2.out.num.sneg hs
 have H1:Hid (ml q.num.natAbs≤65536):=h1
 have hl:0 < m1:=F2.out.den.lenp (ZgX hd)
 have hlb:decide ((0:Int) < (m1:Int))=true:=by rw [decide_eq_true_eq]; omega
 have H2:Hid (ml (denF q).natAbs≤65536):=by unfold Hid; rw [ZcX hd,Int.natAbs_natCast]; exact h2
 have HT:Hid (Zaz q=(45 :: Lib.decDigits q.num.natAbs) ++ (47 :: Lib.decDigits (denF q).natAbs)):=by
  unfold Hid Zaz
  rw [if_neg hd,ZcX hd,Int.natAbs_natCast,Lib.itoa_nonneg]
  unfold Lib.itoa
  rw [if_pos (show q.num < 0 by omega)]
  simp
 obtain ⟨rt,ert⟩:∃ rt,Zaz q=rt:=⟨_,rfl⟩
 rw [ert] at HT ⊢
 clear hs hd h1 h2 ert
 go_enter Tryz.func31,Tryz.ntmps31
 go_wp2_with fail
 generalize hwb:World.alloc w _=w4
 obtain ⟨b_B3,hE0⟩:=ZcP hwb
 clear hwb
 have B3:=zh b_B3
 clear b_B3
 replace F2:=zh (F2.out.ext hE0)
 have HE:=zh hE0
 clear hE0
 have F5:Hid (Zao w4 (.agg #[.bool true, .slice A1 l1 c1]) ((q).num)):=F2.out.num
 have F8:Hid (Zar w4 (.slice A1 l1 c1) (((q).num).natAbs)):=F5.out.mag
 refine (Zd6 true A1 l1 c1 _ _ F8.out (by first | exact H1.out | exact H2.out)).mono ?_
 obtain ⟨t7,et7⟩:∃ t,Lib.decDigits (((q).num).natAbs)=t:=⟨_,rfl⟩
 rw [et7]; have hlen7:t7.length≤655360:=by rw [← et7]; exact ZfI (by first | exact H1.out | exact H2.out)
 have Ht7:=zh et7; clear et7
 rintro e w6 ⟨rfl,hF⟩
 replace B3:=zh (B3.out.ext hF)
 replace F2:=zh (F2.out.ext hF)
 replace F5:=zh (F5.out.ext hF)
 replace F8:=zh (F8.out.ext hF)
 replace HE:=zh (HE.out.trans hF)
 clear hF
 obtain ⟨c9_0,c9_1,c9_2,c9_3,f9_0,f9_1,f9_2,f9_3⟩:=B3.out.cell4
 go_wp2_with fail
 clear c9_0 c9_1 c9_2 c9_3 f9_0 f9_1 f9_2 f9_3
 have F10:Hid (Zao w6 (.agg #[.bool t1, .slice B1 m1 d1]) (denF (q))):=F2.out.den
 have F13:Hid (Zar w6 (.slice B1 m1 d1) ((denF (q)).natAbs)):=F10.out.mag
 refine (Zd6 t1 B1 m1 d1 _ _ F13.out (by first | exact H1.out | exact H2.out)).mono ?_
 obtain ⟨t12,et12⟩:∃ t,Lib.decDigits ((denF (q)).natAbs)=t:=⟨_,rfl⟩
 rw [et12]; have hlen12:t12.length≤655360:=by rw [← et12]; exact ZfI (by first | exact H1.out | exact H2.out)
 have Ht12:=zh et12; clear et12
 rintro e w11 ⟨rfl,hF⟩
 replace B3:=zh (B3.out.ext hF)
 replace F2:=zh (F2.out.ext hF)
 replace F5:=zh (F5.out.ext hF)
 replace F8:=zh (F8.out.ext hF)
 replace F10:=zh (F10.out.ext hF)
 replace F13:=zh (F13.out.ext hF)
 replace HE:=zh (HE.out.trans hF)
 clear hF
 obtain ⟨c14_0,c14_1,c14_2,c14_3,f14_0,f14_1,f14_2,f14_3⟩:=B3.out.cell4
 go_wp2
 clear c14_0 c14_1 c14_2 c14_3 f14_0 f14_1 f14_2 f14_3
 go_ret
 refine ⟨?_,HE.out⟩
 rw [HT.out,Ht7.out,Ht12.out]
 show Ending.returned (.string (((⟨#[45]⟩:ByteArray) ++ ⟨t7.toArray⟩) ++ ((⟨#[47]⟩:ByteArray) ++ ⟨t12.toArray⟩)))=_
 simp only [Zg0]
 rfl
set_option maxHeartbeats 2000000 in
theorem Zms (a:Value) (q:Rat) (w:World) (ha:Zax w a q) (h1:ml q.num.natAbs≤65536) (_:ml q.den≤65536) (hs:0≤q.num) (hd:q.den=1) :
 Calls Tryz.prog 31 #[a] w (RetV w (.string ⟨(Zaz q).toArray⟩)):=by
 obtain ⟨s1,A1,l1,c1,t1,B1,m1,d1,rfl⟩:=ha.shp
 have F2:Hid (Zax w (.agg #[.bool s1, .slice A1 l1 c1, .bool t1, .slice B1 m1 d1]) (q)):=ha
 clear ha
 obtain rfl:s1=false:=F2.out.num.spos hs
 have H1:Hid (ml q.num.natAbs≤65536):=h1
 obtain rfl:m1=0:=F2.out.den.len0 (Zcy hd)
 have HT:Hid (Zaz q=Lib.decDigits q.num.natAbs):=by unfold Hid Zaz Lib.itoa; rw [if_pos hd,if_neg (show ¬ q.num < 0 by omega)]; rw [show q.num.toNat=q.num.natAbs by omega]
 obtain ⟨rt,ert⟩:∃ rt,Zaz q=rt:=⟨_,rfl⟩
 rw [ert] at HT ⊢
 clear hs hd h1 ert
 go_enter Tryz.func31,Tryz.ntmps31
 go_wp2_with fail
 generalize hwb:World.alloc w _=w4
 obtain ⟨b_B3,hE0⟩:=ZcP hwb
 clear hwb
 have B3:=zh b_B3
 clear b_B3
 replace F2:=zh (F2.out.ext hE0)
 have HE:=zh hE0
 clear hE0
 have F5:Hid (Zao w4 (.agg #[.bool false, .slice A1 l1 c1]) ((q).num)):=F2.out.num
 have F8:Hid (Zar w4 (.slice A1 l1 c1) (((q).num).natAbs)):=F5.out.mag
 refine (Zd6 false A1 l1 c1 _ _ F8.out (by first | exact H1.out | exact H2.out)).mono ?_
 obtain ⟨t7,et7⟩:∃ t,Lib.decDigits (((q).num).natAbs)=t:=⟨_,rfl⟩
 rw [et7]; have hlen7:t7.length≤655360:=by rw [← et7]; exact ZfI (by first | exact H1.out | exact H2.out)
 have Ht7:=zh et7; clear et7
 rintro e w6 ⟨rfl,hF⟩
 replace B3:=zh (B3.out.ext hF)
 replace F2:=zh (F2.out.ext hF)
 replace F5:=zh (F5.out.ext hF)
 replace F8:=zh (F8.out.ext hF)
 replace HE:=zh (HE.out.trans hF)
 clear hF
 obtain ⟨c9_0,c9_1,c9_2,c9_3,f9_0,f9_1,f9_2,f9_3⟩:=B3.out.cell4
 go_wp2
 clear c9_0 c9_1 c9_2 c9_3 f9_0 f9_1 f9_2 f9_3
 go_ret
 refine ⟨?_,HE.out⟩
 rw [HT.out,Ht7.out]
 show Ending.returned (.string (⟨t7.toArray⟩:ByteArray))=_
 rfl
set_option maxHeartbeats 2000000 in
theorem Zmt (a:Value) (q:Rat) (w:World) (ha:Zax w a q) (h1:ml q.num.natAbs≤65536) (h2:ml q.den≤65536) (hs:0≤q.num) (hd:¬ q.den=1) :
 Calls Tryz.prog 31 #[a] w (RetV w (.string ⟨(Zaz q).toArray⟩)):=by
 obtain ⟨s1,A1,l1,c1,t1,B1,m1,d1,rfl⟩:=ha.shp
 have F2:Hid (Zax w (.agg #[.bool s1, .slice A1 l1 c1, .bool t1, .slice B1 m1 d1]) (q)):=ha
 clear ha
 obtain rfl:s1=false:=F2.out.num.spos hs
 have H1:Hid (ml q.num.natAbs≤65536):=h1
 have hl:0 < m1:=F2.out.den.lenp (ZgX hd)
 have hlb:decide ((0:Int) < (m1:Int))=true:=by rw [decide_eq_true_eq]; omega
 have H2:Hid (ml (denF q).natAbs≤65536):=by unfold Hid; rw [ZcX hd,Int.natAbs_natCast]; exact h2
 have HT:Hid (Zaz q=(Lib.decDigits q.num.natAbs) ++ (47 :: Lib.decDigits (denF q).natAbs)):=by
  unfold Hid Zaz
  rw [if_neg hd,ZcX hd,Int.natAbs_natCast,Lib.itoa_nonneg]
  unfold Lib.itoa
  rw [if_neg (show ¬ q.num < 0 by omega)]
  rw [show q.num.toNat=q.num.natAbs by omega]
  simp
 obtain ⟨rt,ert⟩:∃ rt,Zaz q=rt:=⟨_,rfl⟩
 rw [ert] at HT ⊢
 clear hs hd h1 h2 ert
 go_enter Tryz.func31,Tryz.ntmps31
 go_wp2_with fail
 generalize hwb:World.alloc w _=w4
 obtain ⟨b_B3,hE0⟩:=ZcP hwb
 clear hwb
 have B3:=zh b_B3
 clear b_B3
 replace F2:=zh (F2.out.ext hE0)
 have HE:=zh hE0
 clear hE0
 have F5:Hid (Zao w4 (.agg #[.bool false, .slice A1 l1 c1]) ((q).num)):=F2.out.num
 have F8:Hid (Zar w4 (.slice A1 l1 c1) (((q).num).natAbs)):=F5.out.mag
 refine (Zd6 false A1 l1 c1 _ _ F8.out (by first | exact H1.out | exact H2.out)).mono ?_
 obtain ⟨t7,et7⟩:∃ t,Lib.decDigits (((q).num).natAbs)=t:=⟨_,rfl⟩
 rw [et7]; have hlen7:t7.length≤655360:=by rw [← et7]; exact ZfI (by first | exact H1.out | exact H2.out)
 have Ht7:=zh et7; clear et7
 rintro e w6 ⟨rfl,hF⟩
 replace B3:=zh (B3.out.ext hF)
 replace F2:=zh (F2.out.ext hF)
 replace F5:=zh (F5.out.ext hF)
 replace F8:=zh (F8.out.ext hF)
 replace HE:=zh (HE.out.trans hF)
 clear hF
 obtain ⟨c9_0,c9_1,c9_2,c9_3,f9_0,f9_1,f9_2,f9_3⟩:=B3.out.cell4
 go_wp2_with fail
 clear c9_0 c9_1 c9_2 c9_3 f9_0 f9_1 f9_2 f9_3
 have F10:Hid (Zao w6 (.agg #[.bool t1, .slice B1 m1 d1]) (denF (q))):=F2.out.den
 have F13:Hid (Zar w6 (.slice B1 m1 d1) ((denF (q)).natAbs)):=F10.out.mag
 refine (Zd6 t1 B1 m1 d1 _ _ F13.out (by first | exact H1.out | exact H2.out)).mono ?_
 obtain ⟨t12,et12⟩:∃ t,Lib.decDigits ((denF (q)).natAbs)=t:=⟨_,rfl⟩
 rw [et12]; have hlen12:t12.length≤655360:=by rw [← et12]; exact ZfI (by first | exact H1.out | exact H2.out)
 have Ht12:=zh et12; clear et12
 rintro e w11 ⟨rfl,hF⟩
 replace B3:=zh (B3.out.ext hF)
 replace F2:=zh (F2.out.ext hF)
 replace F5:=zh (F5.out.ext hF)
 replace F8:=zh (F8.out.ext hF)
 replace F10:=zh (F10.out.ext hF)
 replace F13:=zh (F13.out.ext hF)
 replace HE:=zh (HE.out.trans hF)
 clear hF
 obtain ⟨c14_0,c14_1,c14_2,c14_3,f14_0,f14_1,f14_2,f14_3⟩:=B3.out.cell4
 go_wp2
 clear c14_0 c14_1 c14_2 c14_3 f14_0 f14_1 f14_2 f14_3
 go_ret
 refine ⟨?_,HE.out⟩
 rw [HT.out,Ht7.out,Ht12.out]
 show Ending.returned (.string ((⟨t7.toArray⟩:ByteArray) ++ ((⟨#[47]⟩:ByteArray) ++ ⟨t12.toArray⟩)))=_
 simp only [Zg0]
 rfl
theorem Zgy (a:Value) (q:Rat) (w:World) (ha:Zax w a q) (h1:ml q.num.natAbs≤65536) (h2:ml q.den≤65536):Calls Tryz.prog 31 #[a] w (RetV w (.string ⟨(Zaz q).toArray⟩)):=by
 by_cases hs:q.num < 0
 ·by_cases hd:q.den=1
  ·exact Zmq a q w ha h1 h2 hs hd
  ·exact Zmr a q w ha h1 h2 hs hd
 ·by_cases hd:q.den=1
  ·exact Zms a q w ha h1 h2 (by omega) hd
  ·exact Zmt a q w ha h1 h2 (by omega) hd
end Go.Proofs.YtklpdkpcocnglaaGreatDoor

namespace Go.Proofs.YtklpdkpcocnglaaGreatDoor
open Go.RowKit
def ZkH (w:World) (l:List UInt8) (e:Ending) (w':World):Prop :=
 ∃ v b,e=.returned (.tuple #[v, .bool b])∧b=(l.all Zat && !l.isEmpty)∧Zao w' v (if l.all Zat then (Zae l:Int) else 0)∧Ext w w'
theorem Znw {fn:Func} {t t':Tmp} {tmps:Array Value} {w w':World} {r:Nat} {x y:Value} {b:Bool} {l:List UInt8} (hres:fn.results=#[.cell t 32, .tmp t']) (ht:tmps[t]? = some (.pointer (some ⟨r,0,none⟩))) (ht':tmps[t']? = some (.bool b))
 (hB:Blk 32 w' r #[x,y]) (hI:Zao w' (.agg #[x,y]) (if l.all Zat then (Zae l:Int) else 0)) (hb:b=(l.all Zat && !l.isEmpty)) (Q:Ext w w'):bodyPost Tryz.prog fn (ZkH w l) .ret ⟨tmps,[]⟩ w':=by
 obtain ⟨h0,h1,_⟩:=hB.cell2
 exact bodyPost_ret (v:=.tuple #[.agg #[x,y], .bool b]) (by simp [results,hres,ht,ht',go_sem,h0,h1]) rfl ⟨_,_,rfl,hb,hI,Q⟩
theorem Zar.one_pos {w:World} {b r:Nat} (h:Own .u32 102 w b [r]) (hr:r < W32) (h0:0 < r):Zar w (.slice (some ⟨b,0,none⟩) 1 1) r :=
 ⟨_,[r],1,rfl,Nat.le_refl _,h.shows0,Dig.cons hr Dig.nil,fun k hk=>by simp at hk; subst hk; simp; omega,by simp⟩
theorem Zg1 {n k:Nat} (h:n < 10 ^ k):ml n≤k:=Zbh.2 (Nat.lt_of_lt_of_le h (Nat.pow_le_pow_left (by rw [Zav]; omega) _))
theorem Znx (s:ByteArray):s.toList.isEmpty=(bytes s).isEmpty:=by
 rw [Lib.toList_data]
def FdIn (l:List UInt8) (i k v f:Nat):Prop:=k≤9∧i + k≤l.length∧(l.take (i + k)).all Zat=true∧v=Zae ((l.drop i).take k)∧f=10 ^ k
theorem FdIn.bounds {l:List UInt8} {i k v f:Nat} (h:FdIn l i k v f):v < 10 ^ k∧v < 1000000000∧f≤1000000000∧0 < f:=by
 obtain ⟨h1,h2,h3,h4,h5⟩:=h
 have hall:((l.drop i).take k).all Zat=true:=by
  rw [List.all_eq_true] at h3 ⊢
  intro x hx
  refine h3 x ?_
  rw [List.take_add]
  exact List.mem_append_right _ hx
 have:=Zbi _ hall
 rw [List.length_take,List.length_drop,Nat.min_eq_left (by omega),← h4] at this
 have h6:10 ^ k≤10 ^ 9:=Nat.pow_le_pow_right (by omega) h1
 have h7:0 < 10 ^ k:=Nat.pow_pos (by omega)
 exact ⟨this,by omega,by omega,by omega⟩
theorem FdIn.step {l:List UInt8} {i k v f:Nat} {c:UInt8} (h:FdIn l i k v f) (hk:k < 9) (hlt:i + k < l.length) (hc:l[i + k]=c) (hd:Zat c=true):FdIn l i (k + 1) (v * 10 + (c.toNat - 48)) (f * 10):=by
 obtain ⟨h1,h2,h3,h4,h5⟩:=h
 refine ⟨by omega,by omega,?_,?_,by rw [h5,Nat.pow_succ]⟩
 ·rw [← Nat.add_assoc,List.take_succ_eq_append_getElem hlt,List.all_append,h3,hc]
  simp [hd]
 ·rw [List.take_succ_eq_append_getElem (by simp; omega),Zdy,← h4,List.getElem_drop,hc]
  omega
theorem FdIn.done {l:List UInt8} {i k v f:Nat} (h:FdIn l i k v f):Zae (l.take i) * f + v=Zae (l.take (i + k)):=by
 obtain ⟨h1,h2,h3,h4,h5⟩:=h
 have:l.take (i + k)=l.take i ++ (l.drop i).take k:=by rw [List.take_add]
 rw [this,Zei,List.length_take,List.length_drop,Nat.min_eq_left (by omega),← h4,h5]
theorem Zto {l:List UInt8} {i:Nat} (h:i < l.length) (hd:Zat l[i]=false):l.all Zat=false:=by
 rw [List.all_eq_false]
 exact ⟨l[i],List.getElem_mem h,by simp [hd]⟩
set_option maxHeartbeats 2000000 in
theorem ZdG (s:ByteArray) (w:World) (hs:s.size≤65536):Calls Tryz.prog 60 #[.string s] w (ZkH w (bytes s)):=by
 have hbl:=zh (Zam s)
 go_enter Tryz.func60,Tryz.ntmps60
 go_wp2_with fail
 generalize hwb:World.alloc w _=w1
 obtain ⟨b0,hE0⟩:=ZcP hwb
 have HB:=zh b0
 have HE:=zh hE0
 clear hwb b0 hE0
 go_loopw [4,5,6,7,8] (fun mv iv _ _ _ wr=>∃ (i:Nat) (A:Option Addr) (ln c:Nat),i≤s.size∧iv=.int .i64 (i:Int)∧mv=.slice A ln c∧Hid (((bytes s).take i).all Zat=true)∧Hid (Zar wr (.slice A ln c) (Zae ((bytes s).take i)))∧Hid (Ext w1 wr)) (fun _ iv _ _ _ _=>s.size - (intOf iv).toNat)
 case atStart=>exact ⟨0,none,0,0,by omega,rfl,rfl,by unfold Hid; simp,by unfold Hid; simpa [Zae] using Zar.zero _,Fr.refl _ _⟩
 case round =>
  obtain ⟨i,A,ln,c,hi,rfl,rfl,hall,hM,hF⟩:=hrel
  by_cases hlt:i < s.size
  ·go_wp2
   go_loop [5,6,7,8] (fun iv vv fv kv=>∃ (k v f:Nat),k≤9∧i + k≤s.size∧v < 1000000000∧f≤1000000000∧0 < f∧iv=.int .i64 ((i + k:Nat):Int)∧vv=.int .u32 (v:Int)∧fv=.int .u32 (f:Int)∧kv=.int .i64 (k:Int)∧Hid (FdIn (bytes s) i k v f)) (fun _ _ _ kv=>9 - (intOf kv).toNat)
   case atStart=>exact ⟨0,0,1,by omega,by omega,by omega,by omega,by omega,rfl,rfl,rfl,rfl,⟨by omega,by rw [hbl.out]; omega,hall.out,by simp [Zae],rfl⟩⟩
   case round =>
    obtain ⟨k,v,f,hk,hik,hv,hf,hf0,rfl,rfl,rfl,rfl,hI⟩:=hrel
    by_cases hgo:k < 9∧i + k < s.size
    ·obtain ⟨g1,g2⟩:=hgo
     have gd1:decide ((k:Int) < 9)=true:=by rw [decide_eq_true_eq]; omega
     have hbk:(bytes s)[i + k]'(by rw [hbl.out]; exact g2)=s[i + k]:=Zhf s g2
     by_cases hd:Zat s[i + k]=true
     ·have HI2:=zh (hI.out.step g1 (by rw [hbl.out]; exact g2) hbk hd)
      have hb:=Zit hd
      have hb2:=HI2.out.bounds
      have e1:IntKind.u8.wrap ((s[i + k].toNat:Int) - 48)=((s[i + k].toNat - 48:Nat):Int):=by rw [IntKind.wrap_u8]; omega
      have e1':((s[i + k].toNat:Int) - 48) % 256=((s[i + k].toNat - 48:Nat):Int):=by omega
      obtain ⟨d,ed⟩:∃ d,s[i + k].toNat - 48=d:=⟨_,rfl⟩
      have hd9:d≤9:=by omega
      rw [ed] at HI2 e1 e1' hb2
      have hv2:=hb2.2.1
      have hf2:=hb2.2.2.1
      have x1:(i:Int) + (k:Int) < (s.size:Int):=by omega
      have x2:(0:Int)≤(i:Int) + (k:Int):=by omega
      have x3:(48:Int)≤(s[i + k].toNat:Int):=by omega
      have x4:¬ ((s[i + k].toNat:Int) < 48):=by omega
      have x5:¬ ((57:Int) < (s[i + k].toNat:Int)):=by omega
      have x6:decide ((s[i + k].toNat:Int) < 48)=false:=by rw [decide_eq_false_iff_not]; omega
      have x7:decide ((57:Int) < (s[i + k].toNat:Int))=false:=by rw [decide_eq_false_iff_not]; omega
      have x8:((i:Int) + (k:Int)).toNat=i + k:=by omega
      clear hb2 hbk ed hd
      go_wp2
      go_round
      case rel=>exact ⟨k + 1,v * 10 + d,f * 10,by omega,by omega,hv2,hf2,by omega,by go_num,by go_num,by go_num,by go_num,HI2⟩
      case measure=>simp [intOf]; omega
     ·have hno:Hid ((bytes s).all Zat=false):=Zto (by rw [hbl.out]; exact g2) (by rw [hbk]; simpa using hd)
      have HBx:=zh (HB.out.ext hF.out)
      have HEx:=zh (HE.out.trans hF.out)
      obtain ⟨z0,z1,z2,z3⟩:=HBx.out.cell2
      have x1:(i:Int) + (k:Int) < (s.size:Int):=by omega
      have x2:(0:Int)≤(i:Int) + (k:Int):=by omega
      have x8:((i:Int) + (k:Int)).toNat=i + k:=by omega
      have hFin:Hid (∀ tmps:Array Value,tmps[2]? = some (.pointer (some ⟨w.heap.size,0,none⟩))→tmps[3]? = some (.bool false)→bodyPost Tryz.prog Tryz.f60 (ZkH w (bytes s)) .ret ⟨tmps,[]⟩ ((wr.setCell ⟨w.heap.size,0,none⟩ (.bool false)).setCell ⟨w.heap.size,1,none⟩ (.slice none 0 0))):=by
       intro tmps h2 h3
       have hFs:Fr (fun i=>i=w.heap.size) wr ((wr.setCell ⟨w.heap.size,0,none⟩ (.bool false)).setCell ⟨w.heap.size,1,none⟩ (.slice none 0 0)):=((Fr.refl (fun i=>i=w.heap.size) _).setCell (p:=⟨w.heap.size,0,none⟩) (Or.inl rfl) _).setCell (p:=⟨w.heap.size,1,none⟩) (Or.inl rfl) _
       refine Znw rfl h2 h3 ((HBx.out.set_ 0 _).set_ 1 _) ?_ (by rw [hno.out]; rfl) (HEx.out.next hFs (fun i hi e=>by omega))
       rw [hno.out]; exact Zao.nil _
      by_cases hlo:s[i + k].toNat < 48
      ·have x3:(s[i + k].toNat:Int) < 48:=by omega
       have x6:decide ((s[i + k].toNat:Int) < 48)=true:=by rw [decide_eq_true_eq]; omega
       clear hbk hd hno
       go_wp2
       exact hFin.out _ rfl rfl
      ·have hhi:57 < s[i + k].toNat:=by
        have:Zat s[i + k]=false:=by simpa using hd
        unfold Zat at this
        simp at this
        omega
       have x3:¬ ((s[i + k].toNat:Int) < 48):=by omega
       have x4:(57:Int) < (s[i + k].toNat:Int):=by omega
       have x6:decide ((s[i + k].toNat:Int) < 48)=false:=by rw [decide_eq_false_iff_not]; omega
       have x7:decide ((57:Int) < (s[i + k].toNat:Int))=true:=by rw [decide_eq_true_eq]; omega
       clear hbk hd hno
       go_wp2
       exact hFin.out _ rfl rfl
    ·have hk1:1≤k:=by
      rcases Nat.eq_zero_or_pos k with e | e
      ·subst e; exact absurd ⟨by omega,by omega⟩ hgo
      ·exact e
     have hfW:Hid (f < W32):=by unfold Hid; rw [Zav]; omega
     have hvW:Hid (v < W32):=by unfold Hid; rw [Zav]; omega
     have hml1:Hid (ml (Zae ((bytes s).take i))≤1048576):=by
      have h1:=Zg1 (Zbi _ hall.out)
      rw [List.length_take,hbl.out] at h1
      unfold Hid; omega
     have hmlf:Hid (ml f≤1048576):=by
      have:=Zbh (n:=f) (k:=1)
      rw [Nat.pow_one] at this
      have:=this.2 hfW.out
      unfold Hid; omega
     have hmlv:Hid (ml v≤1048576):=by
      have:=Zbh (n:=v) (k:=1)
      rw [Nat.pow_one] at this
      have:=this.2 hvW.out
      unfold Hid; omega
     have hdone:=zh hI.out.done
     have hall2:Hid (((bytes s).take (i + k)).all Zat=true):=hI.out.2.2.1
     have hml2:Hid (ml (Zae ((bytes s).take i) * f)≤1048576):=by
      have h1:=Zg1 (Zbi _ hall2.out)
      rw [List.length_take,hbl.out] at h1
      have h2:=Zd3 (show Zae ((bytes s).take i) * f≤Zae ((bytes s).take (i + k)) by have:=hdone.out; omega)
      unfold Hid; omega
     have hF0:Hid (0 < f):=hf0
     by_cases h9:k < 9
     ·have g2:¬ ((i:Int) + (k:Int) < (s.size:Int)):=by omega
      have gd1:decide ((k:Int) < 9)=true:=by rw [decide_eq_true_eq]; omega
      have gd2:decide ((i:Int) + (k:Int) < (s.size:Int))=false:=by rw [decide_eq_false_iff_not]; omega
      clear hgo hI
      go_wp2_with fail
      generalize hwb:World.alloc wr _=w2
      have hO2:Own .u32 102 w2 wr.heap.size [f]:=hwb ▸ Own.new wr 102 .u32 [f] []
      have hF2:Ext wr w2:=hwb ▸ (Fr.refl _ _).alloc _
      clear hwb
      refine (Zd4 _ _ (Zae ((bytes s).take i)) f _ (hM.out.ext hF2) (Zar.one_pos hO2 hfW.out hF0.out) hml1.out hmlf.out).mono ?_
      rintro e w3 ⟨_,rfl,hN3,hF3⟩
      obtain ⟨A3,l3,c3,rfl⟩:=hN3.slice
      have HN3:=zh hN3
      have HF3:=zh ((hF.out.trans hF2).trans hF3)
      clear hN3 hF3 hF2 hO2
      go_wp2_with fail
      generalize hwb:World.alloc w3 _=w4
      have hO4:Own .u32 102 w4 w3.heap.size [v]:=hwb ▸ Own.new w3 102 .u32 [v] []
      have hF4:Ext w3 w4:=hwb ▸ (Fr.refl _ _).alloc _
      clear hwb
      refine (Zbp _ [v] 1 1 _ rfl hO4.shows0 (by simp) (by simp)).mono ?_
      rintro e w5 ⟨rfl,rfl⟩
      have HV4:=zh (Zar.one hO4 hvW.out)
      have HN4:=zh (HN3.out.ext hF4)
      have HF4:=zh (HF3.out.trans hF4)
      clear hO4 hF4 HN3 HF3
      go_wp2_with fail
      refine (Zfw _ _ _ _ _ HN4.out HV4.out hml2.out hmlv.out).mono ?_
      rintro e w6 ⟨_,rfl,hN6,hF6⟩
      rw [hdone.out] at hN6
      obtain ⟨A6,l6,c6,rfl⟩:=hN6.slice
      have HN6:=zh hN6
      have HF6:=zh (HF4.out.trans hF6)
      clear hN6 hF6
      go_wp2
      go_roundw
      case rel=>exact ⟨i + k,A6,l6,c6,by omega,by go_num,rfl,hall2,HN6,HF6⟩
      case measure=>simp [intOf]; omega
     ·have g2:¬ ((k:Int) < 9):=by omega
      have gd1:decide ((k:Int) < 9)=false:=by rw [decide_eq_false_iff_not]; omega
      clear hgo hI
      go_wp2_with fail
      generalize hwb:World.alloc wr _=w2
      have hO2:Own .u32 102 w2 wr.heap.size [f]:=hwb ▸ Own.new wr 102 .u32 [f] []
      have hF2:Ext wr w2:=hwb ▸ (Fr.refl _ _).alloc _
      clear hwb
      refine (Zd4 _ _ (Zae ((bytes s).take i)) f _ (hM.out.ext hF2) (Zar.one_pos hO2 hfW.out hF0.out) hml1.out hmlf.out).mono ?_
      rintro e w3 ⟨_,rfl,hN3,hF3⟩
      obtain ⟨A3,l3,c3,rfl⟩:=hN3.slice
      have HN3:=zh hN3
      have HF3:=zh ((hF.out.trans hF2).trans hF3)
      clear hN3 hF3 hF2 hO2
      go_wp2_with fail
      generalize hwb:World.alloc w3 _=w4
      have hO4:Own .u32 102 w4 w3.heap.size [v]:=hwb ▸ Own.new w3 102 .u32 [v] []
      have hF4:Ext w3 w4:=hwb ▸ (Fr.refl _ _).alloc _
      clear hwb
      refine (Zbp _ [v] 1 1 _ rfl hO4.shows0 (by simp) (by simp)).mono ?_
      rintro e w5 ⟨rfl,rfl⟩
      have HV4:=zh (Zar.one hO4 hvW.out)
      have HN4:=zh (HN3.out.ext hF4)
      have HF4:=zh (HF3.out.trans hF4)
      clear hO4 hF4 HN3 HF3
      go_wp2_with fail
      refine (Zfw _ _ _ _ _ HN4.out HV4.out hml2.out hmlv.out).mono ?_
      rintro e w6 ⟨_,rfl,hN6,hF6⟩
      rw [hdone.out] at hN6
      obtain ⟨A6,l6,c6,rfl⟩:=hN6.slice
      have HN6:=zh hN6
      have HF6:=zh (HF4.out.trans hF6)
      clear hN6 hF6
      go_wp2
      go_roundw
      case rel=>exact ⟨i + k,A6,l6,c6,by omega,by go_num,rfl,hall2,HN6,HF6⟩
      case measure=>simp [intOf]; omega
  ·obtain rfl:i=s.size:=by omega
   have e1:(bytes s).take s.size=bytes s:=List.take_of_length_le (by rw [hbl.out]; exact Nat.le_refl _)
   have HA:Hid ((bytes s).all Zat=true):=by have:=hall.out; rw [e1] at this; exact this
   have HM:Hid (Zar wr (.slice A ln c) (Zae (bytes s))):=by have:=hM.out; rw [e1] at this; exact this
   have HBx:=zh (HB.out.ext hF.out)
   have HEx:=zh (HE.out.trans hF.out)
   have hbe:=zh (Znx s)
   clear e1 hall hM
   go_wp2_with fail
   refine (ZdT false _ _ _ HM.out).mono ?_
   rintro e w2 ⟨_,rfl,hI,hF2⟩
   obtain ⟨s2,A2,l2,c2,rfl⟩:=hI.shp
   have HI:=zh hI
   have HB':=zh (HBx.out.ext hF2)
   have HE':=zh (HEx.out.trans hF2)
   obtain ⟨k0,k1,k2,k3⟩:=HB'.out.cell2
   clear hI hF2
   go_wp2
   have hFs:Fr (fun i=>i=w.heap.size) w2 ((w2.setCell ⟨w.heap.size,0,none⟩ (.bool s2)).setCell ⟨w.heap.size,1,none⟩ (.slice A2 l2 c2)):=((Fr.refl (fun i=>i=w.heap.size) _).setCell (p:=⟨w.heap.size,0,none⟩) (Or.inl rfl) _).setCell (p:=⟨w.heap.size,1,none⟩) (Or.inl rfl) _
   refine Znw (b := !s.toList.isEmpty) rfl rfl rfl ((HB'.out.set_ 0 _).set_ 1 _) ?_ (by rw [HA.out,hbe.out]; rfl) (HE'.out.next hFs (fun i hi e=>by omega))
   rw [HA.out]
   exact HI.out.oth HB'.out Zbt hFs
end Go.Proofs.YtklpdkpcocnglaaGreatDoor

namespace Go.Proofs.YtklpdkpcocnglaaGreatDoor
open Go.RowKit
end Go.Proofs.YtklpdkpcocnglaaGreatDoor

namespace Go.Proofs.YtklpdkpcocnglaaGreatDoor
open Go.RowKit
def Zau (c:UInt8):Bool:=c != 47
def Zci (l:List UInt8):Option Rat :=
 if (((Zap l).2.takeWhile Zau).all Zat && !((Zap l).2.takeWhile Zau).isEmpty)=false then none
 else if (Zap l).2.drop ((Zap l).2.takeWhile Zau).length=[] then
  (if Zaz (((sg (Zap l).1 (Zae ((Zap l).2.takeWhile Zau)):Int)):Rat)=l then some (((sg (Zap l).1 (Zae ((Zap l).2.takeWhile Zau)):Int)):Rat) else none)
 else if (((Zap l).2.drop (((Zap l).2.takeWhile Zau).length + 1)).all Zat && !((Zap l).2.drop (((Zap l).2.takeWhile Zau).length + 1)).isEmpty)=false∨Zae ((Zap l).2.drop (((Zap l).2.takeWhile Zau).length + 1))=0 then none
 else (if Zaz (Rat.divInt (sg (Zap l).1 (Zae ((Zap l).2.takeWhile Zau))) (Zae ((Zap l).2.drop (((Zap l).2.takeWhile Zau).length + 1)):Int))=l then some (Rat.divInt (sg (Zap l).1 (Zae ((Zap l).2.takeWhile Zau))) (Zae ((Zap l).2.drop (((Zap l).2.takeWhile Zau).length + 1)):Int)) else none)
theorem Zp3 {l:List UInt8} {q:Rat} (h:Zci l=some q):Zaz q=l:=by
 unfold Zci at h
 split at h
 ·cases h
 split at h
 ·split at h
  ·rename_i e; injection h with h; rw [← h]; exact e
  ·cases h
 split at h
 ·cases h
 ·split at h
  ·rename_i e; injection h with h; rw [← h]; exact e
  ·cases h
theorem ZeK {l:List UInt8} (h:l.all Zat=true):l.all Zau=true:=by
 rw [List.all_eq_true] at *
 intro x hx
 have:=h x hx
 unfold Zau
 simp
 rintro rfl
 exact absurd this (by decide)
theorem Zp4 (q:Rat):Zci (Zaz q)=some q:=by
 by_cases h:q.den=1
 ·have ht:Zaz q=Lib.itoa q.num ++ []:=by unfold Zaz; rw [if_pos h,List.append_nil]
  have hu:=Zff q.num []
  rw [← ht,List.append_nil] at hu
  obtain ⟨h1,h2⟩:=Zdr (ZeK (ZbI q.num.natAbs))
  unfold Zci
  rw [hu]
  simp only []
  rw [h1,ZbI,Zcq,ZkF,ZkG h]
  rw [if_neg (by simp [Zbb]),List.drop_of_length_le (Nat.le_refl _),if_pos rfl,if_pos rfl]
 ·have ht:Zaz q=Lib.itoa q.num ++ 47 :: Lib.decDigits q.den:=by unfold Zaz; rw [if_neg h,ZbN]; simp
  have hu:=Zff q.num (47 :: Lib.decDigits q.den)
  rw [← ht] at hu
  obtain ⟨h1,h2⟩:=Ze1 (p:=Zau) (r:=Lib.decDigits q.den) (c:=47) (ZeK (ZbI q.num.natAbs)) (by decide)
  have hd:=q.den_nz
  have hdr:(Lib.decDigits q.num.natAbs ++ 47 :: Lib.decDigits q.den).drop (Lib.decDigits q.num.natAbs).length=47 :: Lib.decDigits q.den:=by simp
  have hdr2:(Lib.decDigits q.num.natAbs ++ 47 :: Lib.decDigits q.den).drop ((Lib.decDigits q.num.natAbs).length + 1)=Lib.decDigits q.den:=by
   rw [← List.drop_drop,hdr]; rfl
  unfold Zci
  rw [hu]
  simp only []
  rw [h1,hdr,hdr2,ZbI,ZbI,Zcq,Zcq,ZkF,Rat.num_divInt_den]
  rw [if_neg (by simp [Zbb]),if_neg (by simp),if_neg (by simp [Zbb]; exact hd),if_pos rfl]
theorem Zhu (l:List UInt8):Zci l=ZaX l:=by
 cases h:Zci l with
 | some q=>rw [← Zp3 h]; exact (ZlY q).symm
 | none =>
   cases k:ZaX l with
   | none=>rfl
   | some q =>
     have:=Zc8 k
     rw [← this,Zp4] at h
     cases h
def ZjM (w:World) (l:List UInt8) (e:Ending) (w':World):Prop :=
 ∃ v ok q,e=.returned (.tuple #[v, .bool ok])∧Ext w w'∧Zax w' v q∧((ok=true∧ZaX l=some q)∨(ok=false∧ZaX l=none))
theorem Zny {q:Rat} {s:ByteArray} {b:Bool} (hn:Zci (bytes s)=if Zaz q=bytes s then some q else none) (hb:b=decide (Zaz q=bytes s)):(b=true∧ZaX (bytes s)=some q)∨(b=false∧ZaX (bytes s)=none):=by
 rw [Zhu] at hn
 by_cases h:Zaz q=bytes s
 ·rw [if_pos h] at hn; left; exact ⟨by rw [hb,decide_eq_true h],hn⟩
 ·rw [if_neg h] at hn; right; exact ⟨by rw [hb,decide_eq_false h],hn⟩
theorem ZkI (t:ByteArray) (a b:Nat):(t.extract a b).size≤t.size:=by
 rw [← Zam,Zbs,List.length_take,List.length_drop,Zam]; omega
theorem ZhK {l:List UInt8} {k:Nat} (h:(l.take k).all Zau=true) (hs:∀ h:k < l.length,Zau l[k]=false) (hk:k≤l.length):k=(l.takeWhile Zau).length:=by
 rw [(Zf2 h hs).1,List.length_take]; omega
theorem ZkJ {t:ByteArray} {p:Nat} (hp:p=((bytes t).takeWhile Zau).length):bytes (t.extract 0 p)=(bytes t).takeWhile Zau∧bytes (t.extract (p + 1) t.size)=(bytes t).drop (p + 1):=by
 rw [Zbs,Zbs]
 refine ⟨?_,?_⟩
 ·rw [List.drop_zero,Nat.sub_zero,hp]
  have:=List.takeWhile_prefix Zau (l:=bytes t)
  exact (List.prefix_iff_eq_take.1 this).symm
 ·rw [List.take_of_length_le (by rw [List.length_drop,Zam]; exact Nat.le_refl _)]
theorem Zp5 {l t:List UInt8} {neg:Bool} (hu:Zap l=(neg,t)) (hb:(((t.takeWhile Zau)).all Zat && !(t.takeWhile Zau).isEmpty)=false):Zci l=none:=by
 unfold Zci; rw [hu]; simp only []; rw [if_pos hb]
theorem Zox {l t:List UInt8} {neg:Bool} (hu:Zap l=(neg,t)) (hb:(((t.takeWhile Zau)).all Zat && !(t.takeWhile Zau).isEmpty)=true) (hd:t.length≤(t.takeWhile Zau).length) :
 Zci l=if Zaz ((sg neg (Zae (t.takeWhile Zau)):Int):Rat)=l then some ((sg neg (Zae (t.takeWhile Zau)):Int):Rat) else none:=by
 unfold Zci; rw [hu]; simp only []; rw [if_neg (by rw [hb]; simp),if_pos (List.drop_of_length_le hd)]
theorem ZkK {l t:List UInt8} {neg:Bool} (hu:Zap l=(neg,t)) (hb:(((t.takeWhile Zau)).all Zat && !(t.takeWhile Zau).isEmpty)=true) (hd:(t.takeWhile Zau).length < t.length)
 (h2:((t.drop ((t.takeWhile Zau).length + 1)).all Zat && !(t.drop ((t.takeWhile Zau).length + 1)).isEmpty)=false∨Zae (t.drop ((t.takeWhile Zau).length + 1))=0):Zci l=none:=by
 unfold Zci; rw [hu]; simp only []; rw [if_neg (by rw [hb]; simp),if_neg (fun e=>by have:=congrArg List.length e; simp at this; omega),if_pos h2]
theorem Zp6 {l t:List UInt8} {neg:Bool} (hu:Zap l=(neg,t)) (hb:(((t.takeWhile Zau)).all Zat && !(t.takeWhile Zau).isEmpty)=true) (hd:(t.takeWhile Zau).length < t.length)
 (h2:((t.drop ((t.takeWhile Zau).length + 1)).all Zat && !(t.drop ((t.takeWhile Zau).length + 1)).isEmpty)=true) (h3:Zae (t.drop ((t.takeWhile Zau).length + 1))≠0) :
 Zci l=if Zaz (Rat.divInt (sg neg (Zae (t.takeWhile Zau))) (Zae (t.drop ((t.takeWhile Zau).length + 1)):Int))=l then some (Rat.divInt (sg neg (Zae (t.takeWhile Zau))) (Zae (t.drop ((t.takeWhile Zau).length + 1)):Int)) else none:=by
 unfold Zci; rw [hu]; simp only []; rw [if_neg (by rw [hb]; simp),if_neg (fun e=>by have:=congrArg List.length e; simp at this; omega),if_neg (fun e=>e.elim (fun e=>by rw [h2] at e; cases e) h3)]
theorem Zll {x:List UInt8} {s:ByteArray}:((⟨x.toArray⟩:ByteArray).toList == s.toList)=decide (x=bytes s):=by
 rw [Lib.toList_data,Lib.toList_data]
 by_cases h:x=bytes s
 ·rw [decide_eq_true h]; simp [h]
 ·rw [decide_eq_false h]; simpa using h
theorem Zl3 {t:ByteArray} (h:(bytes t).all Zat=true) (hs:t.size≤65536):ml (Zae (bytes t))≤65536:=by
 have:=Zg1 (Zbi _ h)
 rw [Zam] at this
 omega
theorem Zp7 {neg:Bool} {n:Nat}:(sg neg n).natAbs=n:=by cases neg<;>simp [sg]
theorem Zo8 {x y:Int} (hy:y≠0):ml (Rat.divInt x y).num.natAbs≤ml x.natAbs∧ml (Rat.divInt x y).den≤ml y.natAbs:=by
 constructor
 ·refine Zd3 ?_
  rw [Rat.num_divInt,Int.natAbs_ediv_of_dvd]
  ·refine Nat.le_trans (Nat.div_le_self _ _) ?_
   rw [Int.natAbs_mul]
   rcases Int.lt_or_gt_of_ne hy with h | h
   ·rw [Int.sign_eq_neg_one_of_neg h]; simp
   ·rw [Int.sign_eq_one_of_pos h]; simp
  ·exact Int.dvd_mul_of_dvd_right (Int.gcd_dvd_right _ _)
 ·refine Zd3 ?_
  rw [Rat.den_divInt,if_neg hy]
  exact Nat.div_le_self _ _
theorem Znz {s:ByteArray} (h:¬ bytes s=[]):∃ c,(bytes s).head? = some c∧s[0]? = some c:=by
 obtain ⟨h1,_⟩:=ZeW h
 exact ⟨s[0],Zfn h1,by simp [h1]⟩
theorem ZjN {s:ByteArray} (h:¬ bytes s=[]):1≤s.size:=(ZeW h).1
theorem ZnA {s:ByteArray} {c:UInt8} (h:(bytes s).head? = some c) (hc:c=45):Zap (bytes s)=(true,bytes (s.extract 1 s.size)):=by
 unfold Zap
 rw [h,hc,if_pos rfl,Zbs,List.take_of_length_le (by rw [List.length_drop,Zam]; exact Nat.le_refl _),List.drop_one]
theorem Zoy {s:ByteArray} {c:UInt8} (h:(bytes s).head? = some c) (hc:¬ c=45):Zap (bytes s)=(false,bytes s):=by
 unfold Zap
 rw [h,if_neg (by simpa using hc)]
theorem ZsI {c b:UInt8} (h:c=b):((c.toNat:Int) == (b.toNat:Int))=true:=by subst h; simp
theorem ZsJ {c b:UInt8} (h:¬ c=b):((c.toNat:Int) == (b.toNat:Int))=false:=by
 have:c.toNat≠b.toNat:=fun e=>h (UInt8.toNat_inj.1 e)
 simp; omega
theorem Zt9 {a b:Nat} (h:a < b):decide (((a:Nat):Int) < ((b:Nat):Int))=true:=decide_eq_true (by omega)
theorem Ztp {a b:Nat} (h:¬ a < b):decide (((a:Nat):Int) < ((b:Nat):Int))=false:=decide_eq_false (by omega)
theorem Ziv {a:Nat} (h:a≤1000000):IntKind.i64.wrap (((a:Nat):Int) + 1)=((a + 1:Nat):Int):=by rw [IntKind.wrap_i64]; omega
theorem Zsp {n:Nat} (h:n=0):(((n:Int).sign:Int) == 0)=true:=by subst h; rfl
theorem Zrt {n:Nat} (h:¬ n=0):(((n:Int).sign:Int) == 0)=false:=by
 rw [beq_eq_false_iff_ne]; exact fun e=>h (by have:=Int.sign_eq_zero_iff_zero.1 e; omega)
theorem Zo9 {w w':World} {e:Ending} {l:List UInt8} (h:ZkH w l e w') (hd:l.all Zat=true) (hne:l≠[]):Zbx (fun x:ShI=>.tuple #[ZaM x, .bool true]) (fun x w=>Zao w (ZaM x) (Zae l:Int)) w e w':=by
 obtain ⟨v,b,rfl,rfl,hI,Q⟩:=h
 rw [if_pos hd] at hI
 obtain ⟨s,A,l',c,rfl⟩:=hI.shp
 refine ⟨(s,A,l',c),?_,Q,boxn Q (fun S w'' hS hF=>hI.nrb hS hF)⟩
 rw [hd,show l.isEmpty=false by simpa using hne]; rfl
theorem ZfA {P:Program} {o:Oper} {ρ:Operand→Value} {w:World} {t:TypeId} {x i:Operand} {b:ByteArray} {k:Nat} {c:UInt8} (ho:o.op=Op.index t x i) (ht:P.underlying t=some .string) (hx:ρ x=.string b) (hi:ρ i=.int .i64 (k:Int)) (hc:b[k]? = some c):(execOp ρ o).run P w=.ok (.value (.int .u8 (c.toNat:Int))) w:=by
 simp [execOp,ho,Instr.index,asIntOf,underlying,ht,hx,hi,hc,Result.andThen]
theorem ZnB {w w':World} {e:Ending} {l:List UInt8} (h:ZkH w l e w') (hb:¬ (l.all Zat && !l.isEmpty)=true):Zbx (fun x:ShI=>.tuple #[ZaM x, .bool false]) (fun _ _=>True) w e w':=by
 obtain ⟨v,b,rfl,rfl,hI,Q⟩:=h
 obtain ⟨s,A,l',c,rfl⟩:=hI.shp
 exact ⟨(s,A,l',c),by rw [Bool.eq_false_iff.2 hb]; rfl,Q,BoxN.pure trivial⟩
theorem Zl4 {l:List UInt8} (h:(l.all Zat && !l.isEmpty)=true):l.all Zat=true∧l≠[]:=by
 rw [Bool.and_eq_true] at h
 exact ⟨h.1,fun e=>by rw [e] at h; simp at h⟩
theorem Zax.whole {w:World} {s:Bool} {A:Option Addr} {l c:Nat} {z:Int} (h:Zao w (.agg #[.bool s, .slice A l c]) z):Zax w (.agg #[.bool s, .slice A l c, .bool false, .slice none 0 0]) ((z:Int):Rat) :=
 Zax.of h (by rw [Zcy (by rfl)]; exact Zao.nil _)
theorem Zru {z:Int} (h:ml z.natAbs≤65536):ZaW z:=nfit h (by decide)
theorem Zp8 {n:Nat} (h:¬ n=0):((n:Nat):Int)≠0:=by omega
theorem Ztq:ml (1:Nat)≤65536:=Nat.le_trans (Zbh.2 (by rw [Zav]; decide):ml 1≤1) (by decide)
theorem Ztr {t:ByteArray} {i:Nat} {c:UInt8} (hI:((bytes t).take i).all Zau=true) (hc:t[i]? = some c) (h:¬ c=47):((bytes t).take (i + 1)).all Zau=true:=by
 have hi:i < t.size:=by
  rcases Nat.lt_or_ge i t.size with h' | h'
  ·exact h'
  ·rw [getElem?_neg t i (by omega)] at hc; cases hc
 have hc':t[i]=c:=by
  rw [getElem?_pos t i hi] at hc; exact Option.some.inj hc
 rw [Zfm t i hi,List.all_append,hI,hc']
 simp [Zau,h]
theorem Zua {t:ByteArray} {i:Nat} {c:UInt8} (hI:((bytes t).take i).all Zau=true) (hc:t[i]? = some c) (h:c=47) (hi:i≤t.size):i=((bytes t).takeWhile Zau).length:=by
 refine ZhK hI (fun hlt=>?_) (by rw [Zam]; exact hi)
 have hi':i < t.size:=by rw [← Zam]; exact hlt
 rw [getElem?_pos t i hi'] at hc
 have:(bytes t)[i]=47:=(Option.some.inj hc).trans h
 rw [this]; rfl
theorem Zub {t:ByteArray} (hI:((bytes t).take t.size).all Zau=true):t.size=((bytes t).takeWhile Zau).length :=
 ZhK hI (fun h=>by rw [Zam] at h; omega) (by rw [Zam]; exact Nat.le_refl _)
theorem Zgz (s:ByteArray) (w:World) (hs:s.size≤65536) :
 Calls Tryz.prog 18 #[.string s] w (ZjM w (bytes s)):=by
 refine Zay (Φ:=fun w=>True) Tryz.func18 rfl (by kernel_rfl) (fun w' hf=>trivial) ?_
 refine Zac (Zab (xr 2 [(0, .v (.string s)),(2, .p 2 0),(3, .v (.bool false))] [bR4 2 34 false none 0 0 false none 0 0] ?_))
 refine xe (Zaa (Zac (Zab (xr 2 [(0, .v (.string s)),(2, .p 2 0),(3, .v (.bool false)),(4, .v (.string s))] [bR4 2 34 false none 0 0 false none 0 0] ?_))))
 refine xe (Zaa ?_)
 refine Zie (fun ss ff=>∃ (b:Bool),ss=ofL [(0, .v (.string s)),(2, .p 2 0),(3, .v (.bool false)),(4, .v (.string s)),(5, .v (.bool b))] [(2,34,[.v (.bool false), .v (.slice none 0 0), .v (.bool false), .v (.slice none 0 0)])]∧ff=(fun w=>True)∧((b=true→Zap (bytes s)=(true,bytes (s.extract 1 s.size))∧1≤s.size)∧(b=false→Zap (bytes s)=(false,bytes s)))) ?_ ?_
 ·by_cases he:bytes s=[]
  ·have hs0:s.size=0:=by rw [← Zam,he]; rfl
   refine Zab (xr 3 [(0, .v (.string s)),(2, .p 2 0),(3, .v (.bool false)),(4, .v (.string s)),(16, .v (.bool (decide (((s).size:Int) > 0))))] [bR4 2 34 false none 0 0 false none 0 0] ?_)
   rw [(show decide (((s).size:Int) > 0)=false from decide_eq_false (by omega))]
   refine xr 6 [(0, .v (.string s)),(2, .p 2 0),(3, .v (.bool false)),(4, .v (.string s)),(5, .v (.bool false))] [bR4 2 34 false none 0 0 false none 0 0] ?_
   refine xe ?_
   refine SXq.weak [(0, .v (.string s)),(2, .p 2 0),(3, .v (.bool false)),(4, .v (.string s)),(5, .v (.bool false))] [(2,34,[.v (.bool false), .v (.slice none 0 0), .v (.bool false), .v (.slice none 0 0)])] (Ψ:=fun w=>True) (ZaL.of (by kernel_rfl)) (by kernel_rfl) (fun w Q=>trivial) ?_
   exact Zcp ⟨false,rfl,rfl,⟨fun h=>(by cases h),fun _=>(by unfold Zap; rw [he]; rfl)⟩⟩
  ·obtain ⟨c0,h0,hc0⟩:=Znz he
   have hs0:=ZjN he
   by_cases hm:c0=45
   ·refine Zab (xr 3 [(0, .v (.string s)),(2, .p 2 0),(3, .v (.bool false)),(4, .v (.string s)),(16, .v (.bool (decide (((s).size:Int) > 0))))] [bR4 2 34 false none 0 0 false none 0 0] ?_)
    rw [(show decide (((s).size:Int) > 0)=true from decide_eq_true (by omega))]
    refine xr 2 [(0, .v (.string s)),(2, .p 2 0),(3, .v (.bool false)),(4, .v (.string s)),(17, .v (.bool true)),(18, .v (.string s))] [bR4 2 34 false none 0 0 false none 0 0] ?_
    refine Zbn 19 (.int .u8 (c0.toNat:Int)) (by kernel_rfl) (by kernel_rfl) (by kernel_rfl) (by kernel_rfl) (by kernel_rfl) (by kernel_rfl) (fun w R Q=>ZfA (t:=9) (x:=.tmp 18) (k:=0) (i:=.const (.int .i64 0)) (by kernel_rfl) (by kernel_rfl) (by kernel_rfl) (by rfl) hc0) ?_
    refine xr 1 [(0, .v (.string s)),(2, .p 2 0),(3, .v (.bool false)),(4, .v (.string s)),(17, .v (.bool true)),(20, .v (.bool (((c0.toNat:Int):Int) == 45)))] [bR4 2 34 false none 0 0 false none 0 0] ?_
    rw [(show ((c0.toNat:Int) == 45)=true from ZsI hm)]
    refine xr 2 [(0, .v (.string s)),(2, .p 2 0),(3, .v (.bool false)),(4, .v (.string s)),(5, .v (.bool true))] [bR4 2 34 false none 0 0 false none 0 0] ?_
    refine xe ?_
    refine SXq.weak [(0, .v (.string s)),(2, .p 2 0),(3, .v (.bool false)),(4, .v (.string s)),(5, .v (.bool true))] [(2,34,[.v (.bool false), .v (.slice none 0 0), .v (.bool false), .v (.slice none 0 0)])] (Ψ:=fun w=>True) (ZaL.of (by kernel_rfl)) (by kernel_rfl) (fun w Q=>trivial) ?_
    exact Zcp ⟨true,rfl,rfl,⟨fun _=>⟨ZnA h0 hm,ZjN he⟩,fun h=>(by cases h)⟩⟩
   ·refine Zab (xr 3 [(0, .v (.string s)),(2, .p 2 0),(3, .v (.bool false)),(4, .v (.string s)),(16, .v (.bool (decide (((s).size:Int) > 0))))] [bR4 2 34 false none 0 0 false none 0 0] ?_)
    rw [(show decide (((s).size:Int) > 0)=true from decide_eq_true (by omega))]
    refine xr 2 [(0, .v (.string s)),(2, .p 2 0),(3, .v (.bool false)),(4, .v (.string s)),(17, .v (.bool true)),(18, .v (.string s))] [bR4 2 34 false none 0 0 false none 0 0] ?_
    refine Zbn 19 (.int .u8 (c0.toNat:Int)) (by kernel_rfl) (by kernel_rfl) (by kernel_rfl) (by kernel_rfl) (by kernel_rfl) (by kernel_rfl) (fun w R Q=>ZfA (t:=9) (x:=.tmp 18) (k:=0) (i:=.const (.int .i64 0)) (by kernel_rfl) (by kernel_rfl) (by kernel_rfl) (by rfl) hc0) ?_
    refine xr 1 [(0, .v (.string s)),(2, .p 2 0),(3, .v (.bool false)),(4, .v (.string s)),(17, .v (.bool true)),(20, .v (.bool (((c0.toNat:Int):Int) == 45)))] [bR4 2 34 false none 0 0 false none 0 0] ?_
    rw [(show ((c0.toNat:Int) == 45)=false from ZsJ (b:=45) hm)]
    refine xr 2 [(0, .v (.string s)),(2, .p 2 0),(3, .v (.bool false)),(4, .v (.string s)),(5, .v (.bool false))] [bR4 2 34 false none 0 0 false none 0 0] ?_
    refine xe ?_
    refine SXq.weak [(0, .v (.string s)),(2, .p 2 0),(3, .v (.bool false)),(4, .v (.string s)),(5, .v (.bool false))] [(2,34,[.v (.bool false), .v (.slice none 0 0), .v (.bool false), .v (.slice none 0 0)])] (Ψ:=fun w=>True) (ZaL.of (by kernel_rfl)) (by kernel_rfl) (fun w Q=>trivial) ?_
    exact Zcp ⟨false,rfl,rfl,⟨fun h=>(by cases h),fun _=>Zoy h0 hm⟩⟩
 ·rintro ss ff ⟨b,rfl,rfl,HB⟩
  refine Zie (fun ss ff=>∃ (t:ByteArray) (ng:Bool),ss=ofL [(0, .v (.string s)),(2, .p 2 0),(3, .v (.bool false)),(4, .v (.string t)),(5, .v (.bool ng))] [(2,34,[.v (.bool false), .v (.slice none 0 0), .v (.bool false), .v (.slice none 0 0)])]∧ff=(fun w=>True)∧(Zap (bytes s)=(ng,bytes t))∧(t.size≤65536)) ?_ ?_
  ·refine Zac (Zab (xr 1 [(0, .v (.string s)),(2, .p 2 0),(3, .v (.bool false)),(4, .v (.string s)),(5, .v (.bool b)),(22, .v (.bool b))] [bR4 2 34 false none 0 0 false none 0 0] ?_))
   refine xe (Zaa ?_)
   refine ZaA (b) (by kernel_rfl) (fun hb10=>?_) (fun hb10=>?_)
   ·have hbb:=hb10
    obtain ⟨HM0,hsz⟩:=HB.1 hbb
    obtain ⟨t,ht⟩:∃ t,s.extract 1 s.size=t:=⟨_,rfl⟩
    rw [ht] at HM0
    have lt:t.size≤65536:=by rw [← ht,ByteArray.size_extract]; omega
    refine Zab (xr 1 [(0, .v (.string s)),(2, .p 2 0),(3, .v (.bool false)),(4, .v (.string s)),(5, .v (.bool b)),(23, .v (.string s))] [bR4 2 34 false none 0 0 false none 0 0] ?_)
    refine Zbn 24 (.string t) (by kernel_rfl) (by kernel_rfl) (by kernel_rfl) (by kernel_rfl) (by kernel_rfl) (by kernel_rfl) (fun w R Q=>ZcK 1 _ (t:=9) (x:=(Operand.tmp 23)) (lo:=(some (Operand.const (Value.int IntKind.i64 1)))) (hi:=none) (by kernel_rfl) (by kernel_rfl) (by kernel_rfl) (Or.inr rfl) (Or.inl ⟨rfl,rfl⟩) hsz (Nat.le_refl _) ht) ?_
    refine xr 1 [(0, .v (.string s)),(2, .p 2 0),(3, .v (.bool false)),(4, .v (.string t)),(5, .v (.bool b))] [bR4 2 34 false none 0 0 false none 0 0] ?_
    refine xe ?_
    refine SXq.weak [(0, .v (.string s)),(2, .p 2 0),(3, .v (.bool false)),(4, .v (.string t)),(5, .v (.bool b))] [(2,34,[.v (.bool false), .v (.slice none 0 0), .v (.bool false), .v (.slice none 0 0)])] (Ψ:=fun w=>True) (ZaL.of (by kernel_rfl)) (by kernel_rfl) (fun w Q=>trivial) ?_
    exact Zcp ⟨t,b,rfl,rfl,(by rw [hbb]; exact HM0),lt⟩
   ·have hbb:=hb10
    refine Zaq ?_
    refine SXq.weak [(0, .v (.string s)),(2, .p 2 0),(3, .v (.bool false)),(4, .v (.string s)),(5, .v (.bool b))] [(2,34,[.v (.bool false), .v (.slice none 0 0), .v (.bool false), .v (.slice none 0 0)])] (Ψ:=fun w=>True) (ZaL.of (by kernel_rfl)) (by kernel_rfl) (fun w Q=>trivial) ?_
    exact Zcp ⟨s,b,rfl,rfl,(by rw [hbb]; exact HB.2 hbb),hs⟩
  ·rintro ss ff ⟨t,ng,rfl,rfl,HM,lt⟩
   refine Zac (Zab (xr 3 [(0, .v (.string s)),(2, .p 2 0),(3, .v (.bool false)),(4, .v (.string t)),(5, .v (.bool ng)),(6, .v (.int .i64 ((t).size:Int)))] [bR4 2 34 false none 0 0 false none 0 0] ?_))
   refine xe (Zaa ?_)
   refine Zie (fun ss ff=>∃ (p:Nat),ss=ofL [(0, .v (.string s)),(2, .p 2 0),(3, .v (.bool false)),(4, .v (.string t)),(5, .v (.bool ng)),(6, .v (.int .i64 ((p:Nat):Int)))] [(2,34,[.v (.bool false), .v (.slice none 0 0), .v (.bool false), .v (.slice none 0 0)])]∧ff=(fun w=>True)∧(p=((bytes t).takeWhile Zau).length)∧(p≤t.size)) ?_ ?_
   ·refine Zac (Zab (xr 1 [(0, .v (.string s)),(2, .p 2 0),(3, .v (.bool false)),(4, .v (.string t)),(5, .v (.bool ng)),(6, .v (.int .i64 ((t).size:Int))),(7, .v (.int .i64 0))] [bR4 2 34 false none 0 0 false none 0 0] ?_))
    refine xe (Zaa (ZaO ?_))
    refine SXc.weak [(0, .v (.string s)),(2, .p 2 0),(3, .v (.bool false)),(4, .v (.string t)),(5, .v (.bool ng)),(6, .v (.int .i64 ((t).size:Int))),(7, .v (.int .i64 ((0:Nat):Int)))] [(2,34,[.v (.bool false), .v (.slice none 0 0), .v (.bool false), .v (.slice none 0 0)])] (Ψ:=fun w=>True) (ZaL.of (by kernel_rfl)) (by kernel_rfl) (fun w Q=>trivial) ?_
    refine Zco (fun nn ss ff=>∃ (i:Nat),ss=ofL [(0, .v (.string s)),(2, .p 2 0),(3, .v (.bool false)),(4, .v (.string t)),(5, .v (.bool ng)),(6, .v (.int .i64 ((t).size:Int))),(7, .v (.int .i64 ((i:Nat):Int)))] [(2,34,[.v (.bool false), .v (.slice none 0 0), .v (.bool false), .v (.slice none 0 0)])]∧ff=(fun w=>True)∧(i≤t.size)∧(((bytes t).take i).all Zau=true)∧nn=t.size - i) (t.size - 0) ⟨0,rfl,rfl,(Nat.zero_le _),rfl,rfl⟩ ?_
    rintro nn ss ff ⟨i,rfl,rfl,hi,hI,rfl⟩
    refine Zac (Zac (Zab (xr 4 [(0, .v (.string s)),(2, .p 2 0),(3, .v (.bool false)),(4, .v (.string t)),(5, .v (.bool ng)),(6, .v (.int .i64 ((t).size:Int))),(7, .v (.int .i64 ((i:Nat):Int))),(30, .v (.bool (decide (((i:Nat):Int) < ((t).size:Int)))))] [bR4 2 34 false none 0 0 false none 0 0] ?_)))
    refine xe (Zaa ?_)
    refine ZaA ((decide (((i:Nat):Int) < ((t).size:Int)))) (by kernel_rfl) (fun hb11=>?_) (fun hb11=>?_)
    ·have hlt:i < t.size:=by have:=of_decide_eq_true hb11; omega
     obtain ⟨c,hc⟩:∃ c,t[i]? = some c:=⟨t[i],by simp [hlt]⟩
     refine Zaq (Zaa (Zac (ZaO (Zac ?_))))
     by_cases h47:c=47
     ·refine Zab (xr 2 [(0, .v (.string s)),(2, .p 2 0),(3, .v (.bool false)),(4, .v (.string t)),(5, .v (.bool ng)),(6, .v (.int .i64 ((t).size:Int))),(7, .v (.int .i64 ((i:Nat):Int))),(33, .v (.string t)),(34, .v (.int .i64 ((i:Nat):Int)))] [bR4 2 34 false none 0 0 false none 0 0] ?_)
      refine Zbn 35 (.int .u8 (c.toNat:Int)) (by kernel_rfl) (by kernel_rfl) (by kernel_rfl) (by kernel_rfl) (by kernel_rfl) (by kernel_rfl) (fun w R Q=>ZfA (t:=9) (x:=.tmp 33) (k:=i) (i:=.tmp 34) (by kernel_rfl) (by kernel_rfl) (by kernel_rfl) (by kernel_rfl) hc) ?_
      refine xr 1 [(0, .v (.string s)),(2, .p 2 0),(3, .v (.bool false)),(4, .v (.string t)),(5, .v (.bool ng)),(6, .v (.int .i64 ((t).size:Int))),(7, .v (.int .i64 ((i:Nat):Int))),(36, .v (.bool (((c.toNat:Int):Int) == 47)))] [bR4 2 34 false none 0 0 false none 0 0] ?_
      rw [(show ((c.toNat:Int) == 47)=true from ZsI h47)]
      refine xr 0 [(0, .v (.string s)),(2, .p 2 0),(3, .v (.bool false)),(4, .v (.string t)),(5, .v (.bool ng)),(6, .v (.int .i64 ((t).size:Int))),(7, .v (.int .i64 ((i:Nat):Int))),(36, .v (.bool true))] [bR4 2 34 false none 0 0 false none 0 0] ?_
      refine xe (Zaa (xa (Zac (Zab (xr 2 [(0, .v (.string s)),(2, .p 2 0),(3, .v (.bool false)),(4, .v (.string t)),(5, .v (.bool ng)),(6, .v (.int .i64 ((i:Nat):Int))),(7, .v (.int .i64 ((i:Nat):Int)))] [bR4 2 34 false none 0 0 false none 0 0] ?_)))))
      refine xe (Zaa (ZbD ?_))
      refine ZgQ (by kernel_rfl) ?_
      refine ZaB (ZaB (ZbU ?_))
      refine SXq.weak [(0, .v (.string s)),(2, .p 2 0),(3, .v (.bool false)),(4, .v (.string t)),(5, .v (.bool ng)),(6, .v (.int .i64 ((i:Nat):Int)))] [(2,34,[.v (.bool false), .v (.slice none 0 0), .v (.bool false), .v (.slice none 0 0)])] (Ψ:=fun w=>True) (ZaL.of (by kernel_rfl)) (by kernel_rfl) (fun w Q=>trivial) ?_
      exact Zcp ⟨i,rfl,rfl,Zua hI hc h47 hi,hi⟩
     ·refine Zab (xr 2 [(0, .v (.string s)),(2, .p 2 0),(3, .v (.bool false)),(4, .v (.string t)),(5, .v (.bool ng)),(6, .v (.int .i64 ((t).size:Int))),(7, .v (.int .i64 ((i:Nat):Int))),(33, .v (.string t)),(34, .v (.int .i64 ((i:Nat):Int)))] [bR4 2 34 false none 0 0 false none 0 0] ?_)
      refine Zbn 35 (.int .u8 (c.toNat:Int)) (by kernel_rfl) (by kernel_rfl) (by kernel_rfl) (by kernel_rfl) (by kernel_rfl) (by kernel_rfl) (fun w R Q=>ZfA (t:=9) (x:=.tmp 33) (k:=i) (i:=.tmp 34) (by kernel_rfl) (by kernel_rfl) (by kernel_rfl) (by kernel_rfl) hc) ?_
      refine xr 1 [(0, .v (.string s)),(2, .p 2 0),(3, .v (.bool false)),(4, .v (.string t)),(5, .v (.bool ng)),(6, .v (.int .i64 ((t).size:Int))),(7, .v (.int .i64 ((i:Nat):Int))),(36, .v (.bool (((c.toNat:Int):Int) == 47)))] [bR4 2 34 false none 0 0 false none 0 0] ?_
      rw [(show ((c.toNat:Int) == 47)=false from ZsJ (b:=47) h47)]
      refine xr 0 [(0, .v (.string s)),(2, .p 2 0),(3, .v (.bool false)),(4, .v (.string t)),(5, .v (.bool ng)),(6, .v (.int .i64 ((t).size:Int))),(7, .v (.int .i64 ((i:Nat):Int))),(36, .v (.bool false))] [bR4 2 34 false none 0 0 false none 0 0] ?_
      refine xe (Zaa (xb (Zaq (ZbT (Zaa (Zab (xr 2 [(0, .v (.string s)),(2, .p 2 0),(3, .v (.bool false)),(4, .v (.string t)),(5, .v (.bool ng)),(6, .v (.int .i64 ((t).size:Int))),(7, .v (.int .i64 ((i:Nat):Int))),(32, .v (.int .i64 (IntKind.i64.wrap (((i:Nat):Int) + 1))))] [bR4 2 34 false none 0 0 false none 0 0] ?_)))))))
      rw [Ziv (a:=i) (by omega)]
      refine xr 1 [(0, .v (.string s)),(2, .p 2 0),(3, .v (.bool false)),(4, .v (.string t)),(5, .v (.bool ng)),(6, .v (.int .i64 ((t).size:Int))),(7, .v (.int .i64 ((i + 1:Nat):Int)))] [bR4 2 34 false none 0 0 false none 0 0] ?_
      refine xe ?_
      refine SXq.weak [(0, .v (.string s)),(2, .p 2 0),(3, .v (.bool false)),(4, .v (.string t)),(5, .v (.bool ng)),(6, .v (.int .i64 ((t).size:Int))),(7, .v (.int .i64 (((i + 1):Nat):Int)))] [(2,34,[.v (.bool false), .v (.slice none 0 0), .v (.bool false), .v (.slice none 0 0)])] (Ψ:=fun w=>True) (ZaL.of (by kernel_rfl)) (by kernel_rfl) (fun w Q=>trivial) ?_
      exact ZbA (t.size - (i + 1)) (by omega) ⟨(i + 1),rfl,rfl,hlt,Ztr hI hc h47,rfl⟩
    ·have hie:i=t.size:=by have:=of_decide_eq_false hb11; omega
     refine ZbD (ZaB (ZaB (ZbU ?_)))
     refine SXq.weak [(0, .v (.string s)),(2, .p 2 0),(3, .v (.bool false)),(4, .v (.string t)),(5, .v (.bool ng)),(6, .v (.int .i64 ((t.size:Nat):Int)))] [(2,34,[.v (.bool false), .v (.slice none 0 0), .v (.bool false), .v (.slice none 0 0)])] (Ψ:=fun w=>True) (ZaL.of (by kernel_rfl)) (by kernel_rfl) (fun w Q=>trivial) ?_
     exact Zcp ⟨t.size,rfl,rfl,Zub (hie ▸ hI),(Nat.le_refl _)⟩
   ·rintro ss ff ⟨p,rfl,rfl,hp,hpt⟩
    refine Zac ?_
    obtain ⟨x,hx⟩:∃ x,t.extract 0 p=x:=⟨_,rfl⟩
    have HX:bytes x=(bytes t).takeWhile Zau:=by rw [← hx]; exact (ZkJ hp).1
    have lx:x.size≤65536:=Nat.le_trans (by rw [← hx]; exact ZkI _ _ _) lt
    by_cases hA:((bytes x).all Zat && !(bytes x).isEmpty)=true
    ·obtain ⟨dx,nx⟩:=Zl4 hA
     have MX:ml ((Zae (bytes x):Nat):Int).natAbs≤65536:=by rw [Int.natAbs_natCast]; exact Zl3 dx lx
     refine Zab (xr 2 [(0, .v (.string s)),(2, .p 2 0),(3, .v (.bool false)),(4, .v (.string t)),(5, .v (.bool ng)),(6, .v (.int .i64 ((p:Nat):Int))),(39, .v (.string t)),(40, .v (.int .i64 ((p:Nat):Int)))] [bR4 2 34 false none 0 0 false none 0 0] ?_)
     refine Zbn 41 (.string x) (by kernel_rfl) (by kernel_rfl) (by kernel_rfl) (by kernel_rfl) (by kernel_rfl) (by kernel_rfl) (fun w R Q=>ZcK 0 p (t:=9) (x:=(Operand.tmp 39)) (lo:=none) (hi:=(some (Operand.tmp 40))) (by kernel_rfl) (by kernel_rfl) (by kernel_rfl) (Or.inl ⟨rfl,rfl⟩) (Or.inr (by kernel_rfl)) (by omega) hpt hx) ?_
     refine xr 0 [(0, .v (.string s)),(2, .p 2 0),(3, .v (.bool false)),(4, .v (.string t)),(5, .v (.bool ng)),(6, .v (.int .i64 ((p:Nat):Int))),(41, .v (.string x))] [bR4 2 34 false none 0 0 false none 0 0] ?_
     refine xc 60 [.string x] 42 (fun x:ShI=>.tuple #[ZaM x, .bool true]) _ (fun w R Q=>(ZdG x _ (by omega)).mono (fun _ _ h=>Zo9 h dx nx)) (fun xx=>?_)
     obtain ⟨s12,A12,l12,c12⟩:=xx
     refine xr 6 [(0, .v (.string s)),(2, .p 2 0),(3, .v (.bool false)),(4, .v (.string t)),(5, .v (.bool ng)),(6, .v (.int .i64 ((p:Nat):Int))),(8, .p 8 0),(9, .v (.bool true))] [bI2 8 32 s12 A12 l12 c12,bR4 2 34 false none 0 0 false none 0 0] ?_
     refine xe (Zaa (Zac (Zac (Zab (xr 2 [(0, .v (.string s)),(2, .p 2 0),(3, .v (.bool false)),(4, .v (.string t)),(5, .v (.bool ng)),(6, .v (.int .i64 ((p:Nat):Int))),(8, .p 8 0),(46, .v (.bool false))] [bI2 8 32 s12 A12 l12 c12,bR4 2 34 false none 0 0 false none 0 0] ?_)))))
     refine xe (Zaa (xb (Zaq (Zaa (Zac (Zab (xr 3 [(0, .v (.string s)),(2, .p 2 0),(3, .v (.bool false)),(4, .v (.string t)),(6, .v (.int .i64 ((p:Nat):Int))),(48, .v (.bool ng)),eS1 50 A12 l12 c12] [bR4 2 34 false none 0 0 false none 0 0] ?_)))))))
     refine xc 61 [.bool ng, .slice A12 l12 c12] 51 ZaM _ (fun w R Q=>(ZdT _ _ _ _ Q.2.mag).mono (fun _ _ h=>ZaS (by rw [show sg ng ((Zae (bytes x):Int)).natAbs=sg ng (Zae (bytes x)) from by rw [Int.natAbs_natCast]] at h; exact h))) (fun xx=>?_)
     obtain ⟨s13,A13,l13,c13⟩:=xx
     refine xr 3 [(0, .v (.string s)),(2, .p 2 0),(3, .v (.bool false)),(4, .v (.string t)),(6, .v (.int .i64 ((p:Nat):Int))),(10, .p 10 0)] [bR4 10 34 s13 A13 l13 c13 false none 0 0,bR4 2 34 false none 0 0 false none 0 0] ?_
     refine xe (Zaa (Zac (Zac ?_)))
     by_cases hl:p < t.size
     ·obtain ⟨q,hq⟩:∃ q,t.extract (p + 1) t.size=q:=⟨_,rfl⟩
      have HQ:bytes q=(bytes t).drop (p + 1):=by rw [← hq]; exact (ZkJ hp).2
      have lq:q.size≤65536:=Nat.le_trans (by rw [← hq]; exact ZkI _ _ _) lt
      refine Zab (xr 4 [(0, .v (.string s)),(2, .p 2 0),(3, .v (.bool false)),(4, .v (.string t)),(6, .v (.int .i64 ((p:Nat):Int))),(10, .p 10 0),(56, .v (.bool (decide (((p:Nat):Int) < ((t).size:Int)))))] [bR4 10 34 s13 A13 l13 c13 false none 0 0,bR4 2 34 false none 0 0 false none 0 0] ?_)
      rw [Zt9 hl]
      refine xr 0 [(0, .v (.string s)),(2, .p 2 0),(3, .v (.bool false)),(4, .v (.string t)),(6, .v (.int .i64 ((p:Nat):Int))),(10, .p 10 0),(56, .v (.bool true))] [bR4 10 34 s13 A13 l13 c13 false none 0 0,bR4 2 34 false none 0 0 false none 0 0] ?_
      refine xe (Zaa (xa (Zac ?_)))
      by_cases hQ:((bytes q).all Zat && !(bytes q).isEmpty)=true
      ·obtain ⟨dq,nq⟩:=Zl4 hQ
       have MQ:ml ((Zae (bytes q):Nat):Int).natAbs≤65536:=by rw [Int.natAbs_natCast]; exact Zl3 dq lq
       refine Zab (xr 3 [(0, .v (.string s)),(2, .p 2 0),(3, .v (.bool false)),(10, .p 10 0),(58, .v (.string t)),(60, .v (.int .i64 (IntKind.i64.wrap (((p:Nat):Int) + 1))))] [bR4 10 34 s13 A13 l13 c13 false none 0 0,bR4 2 34 false none 0 0 false none 0 0] ?_)
       rw [Ziv (a:=p) (by omega)]
       refine Zbn 61 (.string q) (by kernel_rfl) (by kernel_rfl) (by kernel_rfl) (by kernel_rfl) (by kernel_rfl) (by kernel_rfl) (fun w R Q=>ZcK (p + 1) _ (t:=9) (x:=(Operand.tmp 58)) (lo:=(some (Operand.tmp 60))) (hi:=none) (by kernel_rfl) (by kernel_rfl) (by kernel_rfl) (Or.inr (by kernel_rfl)) (Or.inl ⟨rfl,rfl⟩) (by omega) (Nat.le_refl _) hq) ?_
       refine xr 0 [(0, .v (.string s)),(2, .p 2 0),(3, .v (.bool false)),(10, .p 10 0),(61, .v (.string q))] [bR4 10 34 s13 A13 l13 c13 false none 0 0,bR4 2 34 false none 0 0 false none 0 0] ?_
       refine xc 60 [.string q] 62 (fun x:ShI=>.tuple #[ZaM x, .bool true]) _ (fun w R Q=>(ZdG q _ (by omega)).mono (fun _ _ h=>Zo9 h dq nq)) (fun xx=>?_)
       obtain ⟨s14,A14,l14,c14⟩:=xx
       refine xr 6 [(0, .v (.string s)),(2, .p 2 0),(3, .v (.bool false)),(10, .p 10 0),(11, .p 11 0),(12, .v (.bool true))] [bI2 11 32 s14 A14 l14 c14,bR4 10 34 s13 A13 l13 c13 false none 0 0,bR4 2 34 false none 0 0 false none 0 0] ?_
       refine xe (Zaa (Zac (Zac ?_)))
       by_cases hz:Zae (bytes q)=0
       ·refine Zab (xr 4 [(0, .v (.string s)),(2, .p 2 0),(3, .v (.bool false)),(10, .p 10 0),(11, .p 11 0),(67, .v (.bool false)),eI2 68 s14 A14 l14 c14] [bI2 11 32 s14 A14 l14 c14,bR4 10 34 s13 A13 l13 c13 false none 0 0,bR4 2 34 false none 0 0 false none 0 0] ?_)
        refine xc 62 [vI2 s14 A14 l14 c14] 69 (fun _:Unit=>.int .i64 ((Zae (bytes q):Int)).sign) _ (fun w R Q=>(Zdb _ ((Zae (bytes q):Int)) _ Q.2).mono (fun _ _ h=>Zad h rfl)) (fun xx=>?_)
        refine xr 1 [(0, .v (.string s)),(2, .p 2 0),(3, .v (.bool false)),(10, .p 10 0),(11, .p 11 0),(67, .v (.bool false)),(70, .v (.bool ((((Zae (bytes q):Int)).sign:Int) == 0)))] [bI2 11 32 s14 A14 l14 c14,bR4 10 34 s13 A13 l13 c13 false none 0 0,bR4 2 34 false none 0 0 false none 0 0] ?_
        rw [Zsp hz]
        refine xr 1 [(0, .v (.string s)),(2, .p 2 0),(3, .v (.bool false)),(10, .p 10 0),(11, .p 11 0),(71, .v (.bool true))] [bI2 11 32 s14 A14 l14 c14,bR4 10 34 s13 A13 l13 c13 false none 0 0,bR4 2 34 false none 0 0 false none 0 0] ?_
        refine xe (Zaa (xa (Zac (Zab (xr 3 [(0, .v (.string s)),(2, .p 2 0),(3, .v (.bool false)),(10, .p 10 0),(11, .p 11 0)] [bI2 11 32 s14 A14 l14 c14,bR4 10 34 s13 A13 l13 c13 false none 0 0,bR4 2 34 false none 0 0 false none 0 0] ?_)))))
        refine xe (Zaa (Zai (Zah (Zah ?_))))
        refine Zaf (v:=.tuple #[.agg #[.bool false, .slice none 0 0, .bool false, .slice none 0 0], .bool false]) (by kernel_rfl) (fun w' R Q=>?_)
        exact ⟨_,false,0,rfl,R,Zax.nil _,Or.inr ⟨rfl,by rw [← Zhu]; exact ZkK HM (by rw [← HX]; exact hA) (by rw [← hp,Zam]; exact hl) (by rw [← hp,← HQ]; exact Or.inr hz)⟩⟩
       ·refine Zab (xr 4 [(0, .v (.string s)),(2, .p 2 0),(3, .v (.bool false)),(10, .p 10 0),(11, .p 11 0),(67, .v (.bool false)),eI2 68 s14 A14 l14 c14] [bI2 11 32 s14 A14 l14 c14,bR4 10 34 s13 A13 l13 c13 false none 0 0,bR4 2 34 false none 0 0 false none 0 0] ?_)
        refine xc 62 [vI2 s14 A14 l14 c14] 69 (fun _:Unit=>.int .i64 ((Zae (bytes q):Int)).sign) _ (fun w R Q=>(Zdb _ ((Zae (bytes q):Int)) _ Q.2).mono (fun _ _ h=>Zad h rfl)) (fun xx=>?_)
        refine xr 1 [(0, .v (.string s)),(2, .p 2 0),(3, .v (.bool false)),(10, .p 10 0),(11, .p 11 0),(67, .v (.bool false)),(70, .v (.bool ((((Zae (bytes q):Int)).sign:Int) == 0)))] [bI2 11 32 s14 A14 l14 c14,bR4 10 34 s13 A13 l13 c13 false none 0 0,bR4 2 34 false none 0 0 false none 0 0] ?_
        rw [Zrt hz]
        refine xr 1 [(0, .v (.string s)),(2, .p 2 0),(3, .v (.bool false)),(10, .p 10 0),(11, .p 11 0),(71, .v (.bool false))] [bI2 11 32 s14 A14 l14 c14,bR4 10 34 s13 A13 l13 c13 false none 0 0,bR4 2 34 false none 0 0 false none 0 0] ?_
        refine xe (Zaa (xb (Zaq (Zaa (Zab (xr 3 [(0, .v (.string s)),(2, .p 2 0),(3, .v (.bool false)),(10, .p 10 0),eI2 74 s13 A13 l13 c13,eI2 75 s14 A14 l14 c14] [bR4 10 34 s13 A13 l13 c13 false none 0 0,bR4 2 34 false none 0 0 false none 0 0] ?_))))))
        refine xc 23 [vI2 s13 A13 l13 c13,vI2 s14 A14 l14 c14] 76 Zbf _ (fun w R Q=>(Zgx _ _ (sg ng (Zae (bytes x))) ((Zae (bytes q):Int)) _ Q.1.1.2 Q.1.2 (Zru (by rw [Zp7]; rw [Int.natAbs_natCast] at MX; exact MX)) (Zru MQ) (Zp8 hz)).mono (fun _ _=>Za0)) (fun xx=>?_)
        obtain ⟨s15,A15,l15,c15,t15,B15,m15,d15⟩:=xx
        refine xr 1 [(0, .v (.string s)),(2, .p 2 0),(3, .v (.bool false)),(10, .p 10 0)] [bR4 10 34 s15 A15 l15 c15 t15 B15 m15 d15,bR4 2 34 false none 0 0 false none 0 0] ?_
        refine xe (Zaa (Zac ?_))
        refine ZaD 7 (by kernel_rfl) (by kernel_rfl) Zaj ?_
        refine xf 2 [(0, .v (.string s)),(2, .p 2 0),(3, .v (.bool false)),eR4 77 s15 A15 l15 c15 t15 B15 m15 d15,eR4 78 s15 A15 l15 c15 t15 B15 m15 d15] [bR4 10 34 s15 A15 l15 c15 t15 B15 m15 d15,bR4 2 34 false none 0 0 false none 0 0] ?_
        refine xd 31 [vR4 s15 A15 l15 c15 t15 B15 m15 d15] 79 (fun _:Unit=>.string ⟨(Zaz (Rat.divInt (sg ng (Zae (bytes x))) ((Zae (bytes q):Int)))).toArray⟩) _ (fun w R Q=>(Zgy _ (Rat.divInt (sg ng (Zae (bytes x))) ((Zae (bytes q):Int))) _ Q.2 (Nat.le_trans (Zo8 (Zp8 hz)).1 (by rw [Zp7]; rw [Int.natAbs_natCast] at MX; exact MX)) (Nat.le_trans (Zo8 (Zp8 hz)).2 MQ)).mono (fun _ _ h=>Zad h rfl)) (fun xx=>?_)
        refine xf 4 [(2, .p 2 0),(3, .v (.bool ((⟨(Zaz (Rat.divInt (sg ng (Zae (bytes x))) ((Zae (bytes q):Int)))).toArray⟩:ByteArray).toList == (s:ByteArray).toList)))] [bR4 2 34 s15 A15 l15 c15 t15 B15 m15 d15,bR4 10 34 s15 A15 l15 c15 t15 B15 m15 d15,bR4 2 34 false none 0 0 false none 0 0] ?_
        refine xz (xe (Zaa (Zai ?_)))
        refine Zaf (v:=.tuple #[.agg #[.bool s15, .slice A15 l15 c15, .bool t15, .slice B15 m15 d15], .bool ((⟨(Zaz (Rat.divInt (sg ng (Zae (bytes x))) ((Zae (bytes q):Int)))).toArray⟩:ByteArray).toList == (s:ByteArray).toList)]) (by kernel_rfl) (fun w' R Q=>?_)
        exact ⟨_,_,_,rfl,R,Q.1.2,Zny (by rw [Zp6 HM (by rw [← HX]; exact hA) (by rw [← hp,Zam]; exact hl) (by rw [← hp,← HQ]; exact hQ) (by rw [← hp,← HQ]; exact hz),← hp,← HQ,← HX]) Zll⟩
      ·refine Zab (xr 3 [(0, .v (.string s)),(2, .p 2 0),(3, .v (.bool false)),(10, .p 10 0),(58, .v (.string t)),(60, .v (.int .i64 (IntKind.i64.wrap (((p:Nat):Int) + 1))))] [bR4 10 34 s13 A13 l13 c13 false none 0 0,bR4 2 34 false none 0 0 false none 0 0] ?_)
       rw [Ziv (a:=p) (by omega)]
       refine Zbn 61 (.string q) (by kernel_rfl) (by kernel_rfl) (by kernel_rfl) (by kernel_rfl) (by kernel_rfl) (by kernel_rfl) (fun w R Q=>ZcK (p + 1) _ (t:=9) (x:=(Operand.tmp 58)) (lo:=(some (Operand.tmp 60))) (hi:=none) (by kernel_rfl) (by kernel_rfl) (by kernel_rfl) (Or.inr (by kernel_rfl)) (Or.inl ⟨rfl,rfl⟩) (by omega) (Nat.le_refl _) hq) ?_
       refine xr 0 [(0, .v (.string s)),(2, .p 2 0),(3, .v (.bool false)),(10, .p 10 0),(61, .v (.string q))] [bR4 10 34 s13 A13 l13 c13 false none 0 0,bR4 2 34 false none 0 0 false none 0 0] ?_
       refine xc 60 [.string q] 62 (fun x:ShI=>.tuple #[ZaM x, .bool false]) _ (fun w R Q=>(ZdG q _ (by omega)).mono (fun _ _ h=>ZnB h hQ)) (fun xx=>?_)
       obtain ⟨s16,A16,l16,c16⟩:=xx
       refine xr 6 [(0, .v (.string s)),(2, .p 2 0),(3, .v (.bool false)),(10, .p 10 0),(11, .p 11 0),(12, .v (.bool false))] [bI2 11 32 s16 A16 l16 c16,bR4 10 34 s13 A13 l13 c13 false none 0 0,bR4 2 34 false none 0 0 false none 0 0] ?_
       refine xe (Zaa (Zac (Zac (Zab (xr 7 [(0, .v (.string s)),(2, .p 2 0),(3, .v (.bool false)),(10, .p 10 0),(11, .p 11 0),(71, .v (.bool true))] [bI2 11 32 s16 A16 l16 c16,bR4 10 34 s13 A13 l13 c13 false none 0 0,bR4 2 34 false none 0 0 false none 0 0] ?_)))))
       refine xe (Zaa (xa (Zac (Zab (xr 3 [(0, .v (.string s)),(2, .p 2 0),(3, .v (.bool false)),(10, .p 10 0),(11, .p 11 0)] [bI2 11 32 s16 A16 l16 c16,bR4 10 34 s13 A13 l13 c13 false none 0 0,bR4 2 34 false none 0 0 false none 0 0] ?_)))))
       refine xe (Zaa (Zai (Zah (Zah ?_))))
       refine Zaf (v:=.tuple #[.agg #[.bool false, .slice none 0 0, .bool false, .slice none 0 0], .bool false]) (by kernel_rfl) (fun w' R Q=>?_)
       exact ⟨_,false,0,rfl,R,Zax.nil _,Or.inr ⟨rfl,by rw [← Zhu]; exact ZkK HM (by rw [← HX]; exact hA) (by rw [← hp,Zam]; exact hl) (by rw [← hp,← HQ]; exact Or.inl (Bool.eq_false_iff.2 hQ))⟩⟩
     ·refine Zab (xr 4 [(0, .v (.string s)),(2, .p 2 0),(3, .v (.bool false)),(4, .v (.string t)),(6, .v (.int .i64 ((p:Nat):Int))),(10, .p 10 0),(56, .v (.bool (decide (((p:Nat):Int) < ((t).size:Int)))))] [bR4 10 34 s13 A13 l13 c13 false none 0 0,bR4 2 34 false none 0 0 false none 0 0] ?_)
      rw [Ztp hl]
      refine xr 0 [(0, .v (.string s)),(2, .p 2 0),(3, .v (.bool false)),(4, .v (.string t)),(6, .v (.int .i64 ((p:Nat):Int))),(10, .p 10 0),(56, .v (.bool false))] [bR4 10 34 s13 A13 l13 c13 false none 0 0,bR4 2 34 false none 0 0 false none 0 0] ?_
      refine xe (Zaa (xb (Zaq (Zaa (Zac ?_)))))
      refine ZaD 7 (by kernel_rfl) (by kernel_rfl) Zaj ?_
      refine xf 2 [(0, .v (.string s)),(2, .p 2 0),(3, .v (.bool false)),eR4 77 s13 A13 l13 c13 false none 0 0,eR4 78 s13 A13 l13 c13 false none 0 0] [bR4 10 34 s13 A13 l13 c13 false none 0 0,bR4 2 34 false none 0 0 false none 0 0] ?_
      refine xd 31 [vR4 s13 A13 l13 c13 false none 0 0] 79 (fun _:Unit=>.string ⟨(Zaz (((sg ng (Zae (bytes x)):Int):Rat))).toArray⟩) _ (fun w R Q=>(Zgy _ (((sg ng (Zae (bytes x)):Int):Rat)) _ (Zax.whole Q.2) (by show ml (sg ng (Zae (bytes x))).natAbs≤_; rw [Zp7]; rw [Int.natAbs_natCast] at MX; exact MX) Ztq).mono (fun _ _ h=>Zad h rfl)) (fun xx=>?_)
      refine xf 4 [(2, .p 2 0),(3, .v (.bool ((⟨(Zaz (((sg ng (Zae (bytes x)):Int):Rat))).toArray⟩:ByteArray).toList == (s:ByteArray).toList)))] [bR4 2 34 s13 A13 l13 c13 false none 0 0,bR4 10 34 s13 A13 l13 c13 false none 0 0,bR4 2 34 false none 0 0 false none 0 0] ?_
      refine xz (xe (Zaa (Zai ?_)))
      refine Zaf (v:=.tuple #[.agg #[.bool s13, .slice A13 l13 c13, .bool false, .slice none 0 0], .bool ((⟨(Zaz (((sg ng (Zae (bytes x)):Int):Rat))).toArray⟩:ByteArray).toList == (s:ByteArray).toList)]) (by kernel_rfl) (fun w' R Q=>?_)
      exact ⟨_,_,_,rfl,R,(Zax.whole Q.1.2),Zny (by rw [Zox HM (by rw [← HX]; exact hA) (by rw [← hp,Zam]; omega),← HX]) Zll⟩
    ·refine Zab (xr 2 [(0, .v (.string s)),(2, .p 2 0),(3, .v (.bool false)),(4, .v (.string t)),(5, .v (.bool ng)),(6, .v (.int .i64 ((p:Nat):Int))),(39, .v (.string t)),(40, .v (.int .i64 ((p:Nat):Int)))] [bR4 2 34 false none 0 0 false none 0 0] ?_)
     refine Zbn 41 (.string x) (by kernel_rfl) (by kernel_rfl) (by kernel_rfl) (by kernel_rfl) (by kernel_rfl) (by kernel_rfl) (fun w R Q=>ZcK 0 p (t:=9) (x:=(Operand.tmp 39)) (lo:=none) (hi:=(some (Operand.tmp 40))) (by kernel_rfl) (by kernel_rfl) (by kernel_rfl) (Or.inl ⟨rfl,rfl⟩) (Or.inr (by kernel_rfl)) (by omega) hpt hx) ?_
     refine xr 0 [(0, .v (.string s)),(2, .p 2 0),(3, .v (.bool false)),(4, .v (.string t)),(5, .v (.bool ng)),(6, .v (.int .i64 ((p:Nat):Int))),(41, .v (.string x))] [bR4 2 34 false none 0 0 false none 0 0] ?_
     refine xc 60 [.string x] 42 (fun x:ShI=>.tuple #[ZaM x, .bool false]) _ (fun w R Q=>(ZdG x _ (by omega)).mono (fun _ _ h=>ZnB h hA)) (fun xx=>?_)
     obtain ⟨s17,A17,l17,c17⟩:=xx
     refine xr 6 [(0, .v (.string s)),(2, .p 2 0),(3, .v (.bool false)),(4, .v (.string t)),(5, .v (.bool ng)),(6, .v (.int .i64 ((p:Nat):Int))),(8, .p 8 0),(9, .v (.bool false))] [bI2 8 32 s17 A17 l17 c17,bR4 2 34 false none 0 0 false none 0 0] ?_
     refine xe (Zaa (Zac (Zac (Zab (xr 2 [(0, .v (.string s)),(2, .p 2 0),(3, .v (.bool false)),(4, .v (.string t)),(5, .v (.bool ng)),(6, .v (.int .i64 ((p:Nat):Int))),(8, .p 8 0),(46, .v (.bool true))] [bI2 8 32 s17 A17 l17 c17,bR4 2 34 false none 0 0 false none 0 0] ?_)))))
     refine xe (Zaa (xa (Zac (Zab (xr 3 [(0, .v (.string s)),(2, .p 2 0),(3, .v (.bool false)),(4, .v (.string t)),(5, .v (.bool ng)),(6, .v (.int .i64 ((p:Nat):Int))),(8, .p 8 0)] [bI2 8 32 s17 A17 l17 c17,bR4 2 34 false none 0 0 false none 0 0] ?_)))))
     refine xe (Zaa (Zai (Zah ?_)))
     refine Zaf (v:=.tuple #[.agg #[.bool false, .slice none 0 0, .bool false, .slice none 0 0], .bool false]) (by kernel_rfl) (fun w' R Q=>?_)
     exact ⟨_,false,0,rfl,R,Zax.nil _,Or.inr ⟨rfl,by rw [← Zhu]; exact Zp5 HM (by rw [← HX]; exact Bool.eq_false_iff.2 hA)⟩⟩
end Go.Proofs.YtklpdkpcocnglaaGreatDoor

namespace Go.Proofs.YtklpdkpcocnglaaGreatDoor
open Go.RowKit
section
variable {w w':World} {e:Ending} {l:List UInt8}
theorem ZkL (h:ZjM w l e w') (hr:ZaX l=none):Zbx (fun x:ShQ=>.tuple #[Zbf x, .bool false]) (fun x w=>∃ q,Zax w (Zbf x) q) w e w':=by
 obtain ⟨v,ok,q,rfl,Q,h2,⟨rfl,h1⟩ | ⟨rfl,h1⟩⟩:=h
 ·rw [hr] at h1; cases h1
 ·obtain ⟨s,A,l,c,t,B,m,d,rfl⟩:=h2.shp
  exact ⟨(s,A,l,c,t,B,m,d),rfl,Q,boxn Q (fun S w'' hS hF=>⟨q,h2.nrb hS hF⟩)⟩
theorem ZeL {q:Rat} (h:ZjM w l e w') (hr:ZaX l=some q):Zbx (fun x:ShQ=>.tuple #[Zbf x, .bool true]) (fun x w=>Zax w (Zbf x) q) w e w':=by
 obtain ⟨v,ok,q',rfl,Q,h2,⟨rfl,h1⟩ | ⟨rfl,h1⟩⟩:=h
 ·rw [hr] at h1; injection h1 with h1; subst h1
  obtain ⟨s,A,l,c,t,B,m,d,rfl⟩:=h2.shp
  exact ⟨(s,A,l,c,t,B,m,d),rfl,Q,boxn Q (fun S w'' hS hF=>h2.nrb hS hF)⟩
 ·rw [hr] at h1; cases h1
end
end Go.Proofs.YtklpdkpcocnglaaGreatDoor

namespace Go.Proofs.YtklpdkpcocnglaaGreatDoor
open Go.RowKit
end Go.Proofs.YtklpdkpcocnglaaGreatDoor

namespace Go.Proofs.YtklpdkpcocnglaaGreatDoor
open Go.RowKit
theorem ZgH:∀ l:List UInt8,Lib.indexByte l 47=if (l.takeWhile Zau).length < l.length then ((l.takeWhile Zau).length:Int) else -1
 | []=>by simp [Lib.indexByte]
 | b :: l=>by
   have ih:=ZgH l
   unfold Lib.indexByte
   by_cases hb:b=47
   ·subst hb; simp [Zau]
   ·have h1:(b == (47:UInt8))=false:=by simpa using hb
    have h2:Zau b=true:=by simp [Zau,hb]
    rw [h1,ih]
    simp only [List.takeWhile_cons,h2,List.length_cons,if_true,Bool.false_eq_true,if_false]
    generalize (l.takeWhile Zau).length=k
    generalize l.length=n
    by_cases h3:k < n
    ·have h4:k + 1 < n + 1:=by omega
     have h5:(((k:Nat):Int) == -1)=false:=by simp
     rw [if_pos h4,if_pos h3]
     simp only [h5,Bool.false_eq_true,if_false]
     omega
    ·have h4:¬ k + 1 < n + 1:=by omega
     rw [if_neg h4,if_neg h3]
     rfl
theorem Zuc {s:ByteArray} (h:bytes s=[47]):(0:Int)=Lib.indexByte (bytes s) 47:=by rw [h]; rfl
theorem Zts {s:ByteArray} (h:bytes s=[47]):((⟨#[47]⟩:ByteArray).toList == s.toList)=true:=by
 rw [Lib.toList_data,Lib.toList_data,show s.data.toList=[47] from h]; rfl
theorem Ztt {s:ByteArray} (h:¬ bytes s=[47]):((⟨#[47]⟩:ByteArray).toList == s.toList)=false:=by
 rw [Lib.toList_data,Lib.toList_data]; exact beq_eq_false_iff_ne.2 (fun e=>h e.symm)
theorem Ztu {p:Nat} (h:p≤1000000):IntKind.i64.wrap (((p:Nat):Int) + ((⟨#[47]⟩:ByteArray).size:Int))=((p + 1:Nat):Int):=by
 rw [show (((⟨#[47]⟩:ByteArray).size:Nat):Int)=1 from rfl,IntKind.wrap_i64]; omega
theorem Zpa (z:Int):(Lib.itoa z).all Zau=true:=by
 rcases Int.lt_or_le z 0 with h | h
 ·rw [Zhr h,List.all_append,ZeK (ZbI _)]; rfl
 ·rw [show z=((z.toNat:Nat):Int) by omega,ZbN]; exact ZeK (ZbI _)
theorem Zl5 {l:List UInt8} {q:Rat} (h:ZaX l=some q) (h1:q.den=1):l=Lib.itoa q.num∧l.length≤(l.takeWhile Zau).length:=by
 have ht:Zaz q=l:=Zc8 h
 have e:l=Lib.itoa q.num:=by rw [← ht]; unfold Zaz; rw [if_pos h1]
 refine ⟨e,?_⟩
 have:=Zpa q.num
 rw [← e] at this
 rw [(Zdr this).1]
 exact Nat.le_refl _
theorem Zrv {l:List UInt8} {q:Rat} (h:ZaX l=some q) (h1:¬ q.den=1):l.takeWhile Zau=Lib.itoa q.num∧l.drop ((l.takeWhile Zau).length + 1)=Lib.itoa (q.den:Int)∧(l.takeWhile Zau).length < l.length:=by
 have ht:Zaz q=l:=Zc8 h
 have e:l=Lib.itoa q.num ++ 47 :: Lib.itoa (q.den:Int):=by rw [← ht]; unfold Zaz; rw [if_neg h1]; simp
 obtain ⟨e1,e2⟩:=Ze1 (p:=Zau) (r:=Lib.itoa (q.den:Int)) (c:=47) (Zpa q.num) (by decide)
 rw [← e] at e1 e2
 refine ⟨e1,?_,?_⟩
 ·rw [e1,e,← List.drop_drop,List.drop_left]; rfl
 ·rw [e1,e]; simp
theorem Zp9:Ending.returned (.tuple #[.string ⟨#[48]⟩, .string ⟨#[49]⟩])=Ending.returned (.tuple #[.string ⟨(Lib.itoa (0:Rat).num).toArray⟩, .string ⟨(Lib.itoa ((0:Rat).den:Int)).toArray⟩]):=by
 rw [show (0:Rat).num=((0:Nat):Int) from rfl,show ((0:Rat).den:Int)=((1:Nat):Int) from rfl,Ze3 (by decide),Ze3 (by decide)]; rfl
theorem Zoz (s:ByteArray):Ending.returned (.tuple #[.string s, .string ⟨#[49]⟩])=Ending.returned (.tuple #[.string ⟨(bytes s).toArray⟩, .string ⟨(Lib.itoa ((1:Nat):Int)).toArray⟩]):=by
 rw [Ze3 (by decide)]; rfl
theorem neg_zero:Ending.returned (.string ⟨#[48]⟩)=Ending.returned (.string ⟨(Zaz (-(0:Rat))).toArray⟩):=by
 rw [show -(0:Rat)=0 from rfl,zt]
theorem ZjO (x:Int):Zaz ((x:Int):Rat)=Lib.itoa x:=by unfold Zaz; exact if_pos rfl
theorem Zrw (s:ByteArray) (w:World):Calls Tryz.prog 224 #[.string s, .int .u8 (((47:UInt8).toNat:Nat):Int)] w (RetV w (.int .i64 (Lib.indexByte (bytes s) 47))):=by
 refine (Tryz.stringslite_IndexByte s (((47:UInt8).toNat:Nat):Int) w).mono ?_
 rintro e w' ⟨rfl,rfl⟩
 exact ⟨rfl,Fr.refl _ _⟩
theorem Zg2 (s:ByteArray) (w:World) :
 Calls Tryz.prog 198 #[.string s, .string ⟨#[47]⟩] w (RetV w (.int .i64 (Lib.indexByte (bytes s) 47))):=by
 refine Zay (Φ:=fun w=>True) Tryz.func198 rfl (by kernel_rfl) (fun w' hf=>trivial) ?_
 refine Zac (Zab (xr 1 [(0, .v (.string s)),(1, .v (.string ⟨#[47]⟩)),(4, .v (.int .i64 0))] [] ?_))
 refine xe (Zaa (Zac (Zab (xr 2 [(0, .v (.string s)),(1, .v (.string ⟨#[47]⟩)),(4, .v (.int .i64 0)),(15, .v (.int .i64 ((⟨#[47]⟩:ByteArray).size:Int)))] [] ?_))))
 rw [(show (((⟨#[47]⟩:ByteArray).size:Nat):Int)=1 from rfl)]
 refine xr 1 [(0, .v (.string s)),(1, .v (.string ⟨#[47]⟩)),(4, .v (.int .i64 0)),(5, .v (.int .i64 1))] [] ?_
 refine xe (Zaa (Zac (ZaO (Zac ?_))))
 by_cases h47:bytes s=[47]
 ·refine Zab (xr 6 [(0, .v (.string s)),(1, .v (.string ⟨#[47]⟩)),(4, .v (.int .i64 0)),(5, .v (.int .i64 1)),(19, .v (.bool false)),(22, .v (.bool ((⟨#[47]⟩:ByteArray).toList == (s:ByteArray).toList)))] [] ?_)
  rw [Zts h47]
  refine xr 2 [(0, .v (.string s)),(1, .v (.string ⟨#[47]⟩)),(4, .v (.int .i64 0)),(5, .v (.int .i64 1)),(16, .v (.bool true))] [] ?_
  refine xe (Zaa (xa (Zac (Zab (xr 1 [(0, .v (.string s)),(1, .v (.string ⟨#[47]⟩)),(4, .v (.int .i64 0)),(5, .v (.int .i64 1))] [] ?_)))))
  refine xe (Zaa (Zai (Zbv (Zah ?_))))
  refine Zaf (v:=.int .i64 0) (by kernel_rfl) (fun w' R Q=>?_)
  exact ⟨by rw [← Zuc h47],R⟩
 ·refine Zab (xr 6 [(0, .v (.string s)),(1, .v (.string ⟨#[47]⟩)),(4, .v (.int .i64 0)),(5, .v (.int .i64 1)),(19, .v (.bool false)),(22, .v (.bool ((⟨#[47]⟩:ByteArray).toList == (s:ByteArray).toList)))] [] ?_)
  rw [Ztt h47]
  refine xr 2 [(0, .v (.string s)),(1, .v (.string ⟨#[47]⟩)),(4, .v (.int .i64 0)),(5, .v (.int .i64 1)),(16, .v (.bool false))] [] ?_
  refine xe (Zaa (xb (Zac (Zab (xr 3 [(0, .v (.string s)),(1, .v (.string ⟨#[47]⟩)),(4, .v (.int .i64 0)),(5, .v (.int .i64 1)),(24, .v (.bool true))] [] ?_)))))
  refine xe (Zaa (xa (Zac (Zab (xr 2 [(0, .v (.string s)),(1, .v (.string ⟨#[47]⟩)),(4, .v (.int .i64 0)),(5, .v (.int .i64 1)),(27, .v (.string s)),(28, .v (.string ⟨#[47]⟩))] [] ?_)))))
  refine Zbn 29 (.int .u8 (((47:UInt8).toNat:Nat):Int)) (by kernel_rfl) (by kernel_rfl) (by kernel_rfl) (by kernel_rfl) (by kernel_rfl) (by kernel_rfl) (fun w R Q=>Zef (c:=47) (b:=⟨#[47]⟩) (t:=9) (x:=.tmp 28) (k:=0) (i:=.const (.int .i64 0)) (by kernel_rfl) (by kernel_rfl) (by kernel_rfl) (by rfl) (by rfl)) ?_
  refine xr 0 [(0, .v (.string s)),(1, .v (.string ⟨#[47]⟩)),(4, .v (.int .i64 0)),(5, .v (.int .i64 1)),(27, .v (.string s)),(29, .v (.int .u8 (((47:UInt8).toNat:Nat):Int)))] [] ?_
  refine xc 224 [.string s, .int .u8 (((47:UInt8).toNat:Nat):Int)] 30 (fun _:Unit=>.int .i64 (Lib.indexByte (bytes s) 47)) _ (fun w R Q=>(Zrw s _).mono (fun _ _ h=>Zad h rfl)) (fun xx=>?_)
  refine xr 1 [(0, .v (.string s)),(1, .v (.string ⟨#[47]⟩)),(4, .v (.int .i64 (Lib.indexByte (bytes s) 47))),(5, .v (.int .i64 1))] [] ?_
  refine xe (Zaa (Zai (Zbv (Zah ?_))))
  refine Zaf (v:=.int .i64 (Lib.indexByte (bytes s) 47)) (by kernel_rfl) (fun w' R Q=>?_)
  exact ⟨rfl,R⟩
theorem ZnC (s x y:ByteArray) (p:Nat) (w:World) (h1:s.size≤100000) (hp:p=((bytes s).takeWhile Zau).length) (hlt:p < s.size) (hx:s.extract 0 p=x) (hy:s.extract (p + 1) s.size=y) :
 Calls Tryz.prog 173 #[.string s, .string ⟨#[47]⟩] w (RetV w (.tuple #[.string x, .string y, .bool true])):=by
 have hlt':((bytes s).takeWhile Zau).length < (bytes s).length:=by rw [← hp,Zam]; exact hlt
 refine Zay (Φ:=fun w=>True) Tryz.func173 rfl (by kernel_rfl) (fun w' hf=>trivial) ?_
 refine Zac (Zab (xr 3 [(0, .v (.string s)),(1, .v (.string ⟨#[47]⟩)),(4, .v (.string ⟨#[]⟩)),(5, .v (.string ⟨#[]⟩)),(6, .v (.bool false))] [] ?_))
 refine xe (Zaa (Zac (Zac (Zab (xr 2 [(0, .v (.string s)),(1, .v (.string ⟨#[47]⟩)),(4, .v (.string ⟨#[]⟩)),(5, .v (.string ⟨#[]⟩)),(6, .v (.bool false)),(8, .v (.string s)),(9, .v (.string ⟨#[47]⟩))] [] ?_)))))
 refine xc 198 [.string s, .string ⟨#[47]⟩] 10 (fun _:Unit=>.int .i64 ((p:Nat):Int)) _ (fun w R Q=>(Zg2 s _).mono (fun _ _ h=>Zad h (by rw [ZgH,if_pos hlt',← hp]))) (fun xx=>?_)
 refine xr 1 [(0, .v (.string s)),(1, .v (.string ⟨#[47]⟩)),(4, .v (.string ⟨#[]⟩)),(5, .v (.string ⟨#[]⟩)),(6, .v (.bool false)),(7, .v (.int .i64 ((p:Nat):Int)))] [] ?_
 refine xe (Zaa (Zac (Zab (xr 2 [(0, .v (.string s)),(1, .v (.string ⟨#[47]⟩)),(4, .v (.string ⟨#[]⟩)),(5, .v (.string ⟨#[]⟩)),(6, .v (.bool false)),(7, .v (.int .i64 ((p:Nat):Int))),(12, .v (.bool (decide (((p:Nat):Int) ≥ 0))))] [] ?_))))
 rw [(show decide (((p:Nat):Int) ≥ 0)=true from decide_eq_true (by omega))]
 refine xr 0 [(0, .v (.string s)),(1, .v (.string ⟨#[47]⟩)),(4, .v (.string ⟨#[]⟩)),(5, .v (.string ⟨#[]⟩)),(6, .v (.bool false)),(7, .v (.int .i64 ((p:Nat):Int))),(12, .v (.bool true))] [] ?_
 refine xe (Zaa (xa (Zac ?_)))
 refine ZaD 12 (by kernel_rfl) (by kernel_rfl) Zaj ?_
 refine xf 2 [(0, .v (.string s)),(1, .v (.string ⟨#[47]⟩)),(4, .v (.string ⟨#[]⟩)),(5, .v (.string ⟨#[]⟩)),(6, .v (.bool false)),(7, .v (.int .i64 ((p:Nat):Int))),(13, .v (.string s)),(14, .v (.int .i64 ((p:Nat):Int)))] [] ?_
 refine Zb7 15 (.string x) (by kernel_rfl) (by kernel_rfl) (by kernel_rfl) (by kernel_rfl) (by kernel_rfl) (by kernel_rfl) (fun w Q=>ZcK 0 p (t:=9) (x:=(Operand.tmp 13)) (lo:=none) (hi:=(some (Operand.tmp 14))) (by kernel_rfl) (by kernel_rfl) (by kernel_rfl) (Or.inl ⟨rfl,rfl⟩) (Or.inr (by kernel_rfl)) (by omega) (by omega) hx) ?_
 refine xf 5 [(0, .v (.string s)),(4, .v (.string ⟨#[]⟩)),(5, .v (.string ⟨#[]⟩)),(6, .v (.bool false)),(15, .v (.string x)),(16, .v (.string s)),(20, .v (.int .i64 (IntKind.i64.wrap (((p:Nat):Int) + ((⟨#[47]⟩:ByteArray).size:Int)))))] [] ?_
 rw [Ztu (p:=p) (by omega)]
 refine Zb7 21 (.string y) (by kernel_rfl) (by kernel_rfl) (by kernel_rfl) (by kernel_rfl) (by kernel_rfl) (by kernel_rfl) (fun w Q=>ZcK (p + 1) _ (t:=9) (x:=(Operand.tmp 16)) (lo:=(some (Operand.tmp 20))) (hi:=none) (by kernel_rfl) (by kernel_rfl) (by kernel_rfl) (Or.inr (by kernel_rfl)) (Or.inl ⟨rfl,rfl⟩) (by omega) (Nat.le_refl _) hy) ?_
 refine xf 3 [(0, .v (.string s)),(4, .v (.string x)),(5, .v (.string y)),(6, .v (.bool true))] [] ?_
 refine xz (xe (Zaa (Zai (Zah ?_))))
 refine Zaf (v:=.tuple #[.string x, .string y, .bool true]) (by kernel_rfl) (fun w' R Q=>?_)
 exact ⟨rfl,R⟩
theorem ZoA (s:ByteArray) (w:World) (hlt':¬ ((bytes s).takeWhile Zau).length < (bytes s).length) :
 Calls Tryz.prog 173 #[.string s, .string ⟨#[47]⟩] w (RetV w (.tuple #[.string s, .string ⟨#[]⟩, .bool false])):=by
 refine Zay (Φ:=fun w=>True) Tryz.func173 rfl (by kernel_rfl) (fun w' hf=>trivial) ?_
 refine Zac (Zab (xr 3 [(0, .v (.string s)),(1, .v (.string ⟨#[47]⟩)),(4, .v (.string ⟨#[]⟩)),(5, .v (.string ⟨#[]⟩)),(6, .v (.bool false))] [] ?_))
 refine xe (Zaa (Zac (Zac (Zab (xr 2 [(0, .v (.string s)),(1, .v (.string ⟨#[47]⟩)),(4, .v (.string ⟨#[]⟩)),(5, .v (.string ⟨#[]⟩)),(6, .v (.bool false)),(8, .v (.string s)),(9, .v (.string ⟨#[47]⟩))] [] ?_)))))
 refine xc 198 [.string s, .string ⟨#[47]⟩] 10 (fun _:Unit=>.int .i64 (-1)) _ (fun w R Q=>(Zg2 s _).mono (fun _ _ h=>Zad h (by rw [ZgH,if_neg hlt']))) (fun xx=>?_)
 refine xr 1 [(0, .v (.string s)),(1, .v (.string ⟨#[47]⟩)),(4, .v (.string ⟨#[]⟩)),(5, .v (.string ⟨#[]⟩)),(6, .v (.bool false)),(7, .v (.int .i64 (-1)))] [] ?_
 refine xe (Zaa (Zac (Zab (xr 2 [(0, .v (.string s)),(1, .v (.string ⟨#[47]⟩)),(4, .v (.string ⟨#[]⟩)),(5, .v (.string ⟨#[]⟩)),(6, .v (.bool false)),(7, .v (.int .i64 (-1))),(12, .v (.bool false))] [] ?_))))
 refine xe (Zaa (xb (Zaq (Zaa (Zac (Zab (xr 4 [(4, .v (.string s)),(5, .v (.string ⟨#[]⟩)),(6, .v (.bool false))] [] ?_)))))))
 refine xe (Zaa (Zai ?_))
 refine Zaf (v:=.tuple #[.string s, .string ⟨#[]⟩, .bool false]) (by kernel_rfl) (fun w' R Q=>?_)
 exact ⟨rfl,R⟩
theorem Zqa (s x y:ByteArray) (p:Nat) (w:World) (h1:s.size≤100000) (hp:p=((bytes s).takeWhile Zau).length) (hlt:p < s.size) (hx:s.extract 0 p=x) (hy:s.extract (p + 1) s.size=y) :
 Calls Tryz.prog 141 #[.string s, .string ⟨#[47]⟩] w (RetV w (.tuple #[.string x, .string y, .bool true])):=by
 refine Zay (Φ:=fun w=>True) Tryz.func141 rfl (by kernel_rfl) (fun w' hf=>trivial) ?_
 refine Zac (Zab (xr 3 [(0, .v (.string s)),(1, .v (.string ⟨#[47]⟩)),(4, .v (.string ⟨#[]⟩)),(5, .v (.string ⟨#[]⟩)),(6, .v (.bool false))] [] ?_))
 refine xe (Zaa (Zac (Zab (xr 2 [(4, .v (.string ⟨#[]⟩)),(5, .v (.string ⟨#[]⟩)),(6, .v (.bool false)),(7, .v (.string s)),(8, .v (.string ⟨#[47]⟩))] [] ?_))))
 refine xc 173 [.string s, .string ⟨#[47]⟩] 9 (fun _:Unit=>.tuple #[.string x, .string y, .bool true]) _ (fun w R Q=>(ZnC s x y p _ h1 hp hlt hx hy).mono (fun _ _ h=>Zad h rfl)) (fun xx=>?_)
 refine xr 6 [(4, .v (.string x)),(5, .v (.string y)),(6, .v (.bool true))] [] ?_
 refine xe (Zaa (Zai ?_))
 refine Zaf (v:=.tuple #[.string x, .string y, .bool true]) (by kernel_rfl) (fun w' R Q=>?_)
 exact ⟨rfl,R⟩
theorem Zrx (s:ByteArray) (w:World) (hlt':¬ ((bytes s).takeWhile Zau).length < (bytes s).length) :
 Calls Tryz.prog 141 #[.string s, .string ⟨#[47]⟩] w (RetV w (.tuple #[.string s, .string ⟨#[]⟩, .bool false])):=by
 refine Zay (Φ:=fun w=>True) Tryz.func141 rfl (by kernel_rfl) (fun w' hf=>trivial) ?_
 refine Zac (Zab (xr 3 [(0, .v (.string s)),(1, .v (.string ⟨#[47]⟩)),(4, .v (.string ⟨#[]⟩)),(5, .v (.string ⟨#[]⟩)),(6, .v (.bool false))] [] ?_))
 refine xe (Zaa (Zac (Zab (xr 2 [(4, .v (.string ⟨#[]⟩)),(5, .v (.string ⟨#[]⟩)),(6, .v (.bool false)),(7, .v (.string s)),(8, .v (.string ⟨#[47]⟩))] [] ?_))))
 refine xc 173 [.string s, .string ⟨#[47]⟩] 9 (fun _:Unit=>.tuple #[.string s, .string ⟨#[]⟩, .bool false]) _ (fun w R Q=>(ZoA s _ hlt').mono (fun _ _ h=>Zad h rfl)) (fun xx=>?_)
 refine xr 6 [(4, .v (.string s)),(5, .v (.string ⟨#[]⟩)),(6, .v (.bool false))] [] ?_
 refine xe (Zaa (Zai ?_))
 refine Zaf (v:=.tuple #[.string s, .string ⟨#[]⟩, .bool false]) (by kernel_rfl) (fun w' R Q=>?_)
 exact ⟨rfl,R⟩
theorem Zqb (s:ByteArray) (w:World) (hg:Glob w) (hs:(bytes s).length≤570) :
 Calls Tryz.prog 98 #[.string s] w (RetV w (.tuple #[.string ⟨(Lib.itoa (valF (bytes s)).num).toArray⟩, .string ⟨(Lib.itoa ((valF (bytes s)).den:Int)).toArray⟩])):=by
 refine Zay (Φ:=fun w=>Glob w) Tryz.func98 rfl (by kernel_rfl) (fun w' hf=>hg.ext hf) ?_
 refine Zac (Zab (xr 2 [(0, .v (.string s)),(2, .v (.string ⟨#[]⟩)),(3, .v (.string ⟨#[]⟩))] [] ?_))
 refine xe (Zaa (Zac (Zac (Zab (xr 1 [(0, .v (.string s)),(2, .v (.string ⟨#[]⟩)),(3, .v (.string ⟨#[]⟩)),(7, .v (.string s))] [] ?_)))))
 by_cases hv:(ZaX (bytes s)).isSome=true
 ·obtain ⟨q,hq⟩:=Option.isSome_iff_exists.1 hv
  have hV:=Zgt hq
  refine xc 54 [.string s] 8 (fun _:Unit=>.bool true) _ (fun w R Q=>(Zgv s _ Q hs).mono (fun _ _ h=>Zad h (by rw [hv]))) (fun xx=>?_)
  refine xr 1 [(0, .v (.string s)),(2, .v (.string ⟨#[]⟩)),(3, .v (.string ⟨#[]⟩)),(9, .v (.bool false))] [] ?_
  refine xe (Zaa (xb (Zaq (Zaa (Zac (Zab (xr 1 [(2, .v (.string ⟨#[]⟩)),(3, .v (.string ⟨#[]⟩)),(11, .v (.string s))] [] ?_)))))))
  by_cases hd1:q.den=1
  ·refine xc 141 [.string s, .string ⟨#[47]⟩] 12 (fun _:Unit=>.tuple #[.string s, .string ⟨#[]⟩, .bool false]) _ (fun w R Q=>(Zrx s _ (by have:=(Zl5 hq hd1).2; omega)).mono (fun _ _ h=>Zad h rfl)) (fun xx=>?_)
   refine xr 7 [(2, .v (.string ⟨#[]⟩)),(3, .v (.string ⟨#[]⟩)),(4, .v (.string s)),(5, .v (.string ⟨#[]⟩)),(6, .v (.bool false))] [] ?_
   refine xe (Zaa (Zac (Zac (Zab (xr 2 [(2, .v (.string ⟨#[]⟩)),(3, .v (.string ⟨#[]⟩)),(4, .v (.string s)),(5, .v (.string ⟨#[]⟩)),(17, .v (.bool true))] [] ?_)))))
   refine xe (Zaa (xa (Zac (Zab (xr 3 [(2, .v (.string s)),(3, .v (.string ⟨#[49]⟩)),(4, .v (.string s)),(5, .v (.string ⟨#[]⟩))] [] ?_)))))
   refine xe (Zaa (Zai (Zah ?_)))
   refine Zaf (v:=.tuple #[.string s, .string ⟨#[49]⟩]) (by kernel_rfl) (fun w' R Q=>?_)
   exact ⟨by rw [hV,hd1,← (Zl5 hq hd1).1]; exact Zoz s,R⟩
  ·obtain ⟨e1,e2,e3⟩:=Zrv hq hd1
   obtain ⟨p,hp⟩:∃ p,p=((bytes s).takeWhile Zau).length:=⟨_,rfl⟩
   rw [← hp] at e2 e3
   have hpl:p < s.size:=by rw [← Zam]; exact e3
   obtain ⟨x,hx⟩:∃ x,s.extract 0 p=x:=⟨_,rfl⟩
   obtain ⟨y,hy⟩:∃ y,s.extract (p + 1) s.size=y:=⟨_,rfl⟩
   have hX:x=⟨(Lib.itoa (q.num)).toArray⟩:=ZgZ (by rw [← hx,(ZkJ hp).1,e1,ZbY])
   have hY:y=⟨(Lib.itoa (q.den:Int)).toArray⟩:=ZgZ (by rw [← hy,(ZkJ hp).2,e2,ZbY])
   refine xc 141 [.string s, .string ⟨#[47]⟩] 12 (fun _:Unit=>.tuple #[.string x, .string y, .bool true]) _ (fun w R Q=>(Zqa s x y p _ (by rw [← Zam]; omega) hp hpl hx hy).mono (fun _ _ h=>Zad h rfl)) (fun xx=>?_)
   refine xr 7 [(2, .v (.string ⟨#[]⟩)),(3, .v (.string ⟨#[]⟩)),(4, .v (.string x)),(5, .v (.string y)),(6, .v (.bool true))] [] ?_
   refine xe (Zaa (Zac (Zac (Zab (xr 2 [(2, .v (.string ⟨#[]⟩)),(3, .v (.string ⟨#[]⟩)),(4, .v (.string x)),(5, .v (.string y)),(17, .v (.bool false))] [] ?_)))))
   refine xe (Zaa (xb (Zaq (Zaa (Zac (Zab (xr 4 [(2, .v (.string x)),(3, .v (.string y))] [] ?_)))))))
   refine xe (Zaa (Zai ?_))
   refine Zaf (v:=.tuple #[.string x, .string y]) (by kernel_rfl) (fun w' R Q=>?_)
   exact ⟨by rw [hV,hX,hY],R⟩
 ·have hV:valF (bytes s)=0:=Zrh (by cases h:ZaX (bytes s) with | none=>rfl | some q=>rw [h] at hv; exact absurd rfl hv)
  refine xc 54 [.string s] 8 (fun _:Unit=>.bool false) _ (fun w R Q=>(Zgv s _ Q hs).mono (fun _ _ h=>Zad h (by rw [Bool.eq_false_iff.2 hv]))) (fun xx=>?_)
  refine xr 1 [(0, .v (.string s)),(2, .v (.string ⟨#[]⟩)),(3, .v (.string ⟨#[]⟩)),(9, .v (.bool true))] [] ?_
  refine xe (Zaa (xa (Zac (Zab (xr 2 [(0, .v (.string s)),(2, .v (.string ⟨#[48]⟩)),(3, .v (.string ⟨#[49]⟩))] [] ?_)))))
  refine xe (Zaa (Zai (Zah ?_)))
  refine Zaf (v:=.tuple #[.string ⟨#[48]⟩, .string ⟨#[49]⟩]) (by kernel_rfl) (fun w' R Q=>?_)
  exact ⟨by rw [hV]; exact Zp9,R⟩
end Go.Proofs.YtklpdkpcocnglaaGreatDoor
