/-
 My texts Fnd, FlS, FlN, Nu, Nq, Nv, Nad, RStr, Frac, Rt, FlT, Reduce, Whole, Ra, Reduce2, Ts, Fs, Cmp, Tx, Dc, Len, Vl, PaM, Pa, Px, Gq, Nf, Nt, Nd, Len2, Nrd, RdK, Nm, Pt, Nw, Fu, FlD, Fp put together.
-/
import Derived.Test.YtklpdkpcocnglaaGreatDoorX15
import Derived.Test.YtklpdkpcocnglaaGreatDoorX07
import Derived.Test.YtklpdkpcocnglaaGreatDoorX14
import Derived.Test.YtklpdkpcocnglaaGreatDoorX02
import Derived.Lib.Bytealg
import Derived.Test.YtklpdkpcocnglaaGreatDoorX08
set_option maxRecDepth 100000
namespace Go.Proofs.YtklpdkpcocnglaaGreatDoor
open Go.RowKit
noncomputable def wds (n:Nat):List Nat:=if _h:n=0 then [] else (n % W64) :: wds (n / W64)
termination_by n
decreasing_by exact Nat.div_lt_self (by omega) Zck
theorem Zcu:∀ n,Dig W64 (wds n)∧val W64 (wds n)=n:=by
 intro n
 induction n using Nat.strongRecOn with
 | ind n ih =>
   rw [wds]
   split
   ·rename_i h; exact ⟨Dig.nil,by simp [h]⟩
   ·rename_i h
    obtain ⟨h1,h2⟩:=ih (n / W64) (Nat.div_lt_self (by omega) Zck)
    exact ⟨h1.cons (Nat.mod_lt _ Zaf),by rw [ZcK,h2]; exact Nat.mod_add_div _ _⟩
theorem ZgW:∀ n,Trim (wds n):=by
 intro n
 induction n using Nat.strongRecOn with
 | ind n ih =>
   rw [wds]
   split
   ·exact Trim.nil
   ·rename_i h
    have h1:=ih (n / W64) (Nat.div_lt_self (by omega) Zck)
    intro k hk
    rcases Nat.eq_zero_or_pos (n / W64) with e | e
    ·rw [e,wds,dif_pos rfl] at hk ⊢
     simp at hk
     subst hk
     have:=Nat.mod_add_div n W64
     rw [e] at this
     simp; omega
    ·obtain ⟨m,rfl⟩:∃ m,k=m + 1:=⟨k - 1,by
      have:wds (n / W64)≠[]:=fun e'=>by have:=(Zcu (n / W64)).2; rw [e'] at this; simp at this; omega
      have:=List.length_pos_iff.2 this
      simp at hk; omega⟩
     have:=h1 m (by simpa using hk)
     simpa using this
theorem Zl3 {xs:List Nat} {n:Nat} (hd:Dig W64 xs) (ht:Trim xs) (hv:val W64 xs=n):xs=wds n:=ZiS Zck hd (Zcu n).1 ht (ZgW n) (hv.trans (Zcu n).2.symm)
theorem Zkn (n:Nat):(wds n).length=wl n:=by rw [Zaw (Zcu n).1 (ZgW n),(Zcu n).2]
theorem Zae.shows {w:World} {A:Option Addr} {l c n:Nat} (h:Zae w (.slice A l c) n):Zad .u64 w A (wds n):=by
 obtain ⟨A',xs,c',e,h1,h2,h3,h4,h5⟩:=h
 injection e with e1 e2 e3
 subst e1
 rw [← Zl3 h3 h4 h5]; exact h2
theorem Zae.lens {w:World} {A:Option Addr} {l c n:Nat} (h:Zae w (.slice A l c) n):l=(wds n).length∧(wds n).length≤c:=by
 obtain ⟨A',xs,c',e,h1,h2,h3,h4,h5⟩:=h
 injection e with e1 e2 e3
 subst e3
 rw [← Zl3 h3 h4 h5]; exact ⟨e2,h1⟩
theorem Zad.lt {k:IntKind} {w:World} {A:Option Addr} {xs:List Nat} (h:Zad k w A xs) (hne:0 < xs.length) {a:Addr} (ha:A=some a):a.block < w.heap.size:=by
 obtain ⟨b,o,e,hb,_⟩:=h.at hne
 rw [ha] at e; injection e with e; rw [e]; exact hb
/-! ### Clone -/
theorem ZnT (w:World) (a:Option Addr) (n c:Nat):(binOp .eql 77 (.slice a n c) (.slice none 0 0)).run Tryz.prog w=.ok (.bool a.isNone) w :=
 Lib.run_eql_slice_nil w 77 94 a n c 0 0 Tryz.underlying77
set_option maxHeartbeats 1000000 in
theorem Zk1 (A:Option Addr) (xs:List Nat) (n c:Nat) (w:World) (hn:xs.length=n) (hX:Zad .u64 w A xs) (hl:n≤4294967296) :
 Calls Tryz.prog 107 #[.slice A n c] w (ZiV w xs):=by
 have HX:=zh hX
 have HN:=zh hn
 clear hX hn
 have hnil:=ZnT
 cases A with
 | none =>
   have h0:Hid (xs=[]):=by
    rcases xs with _ | ⟨y,ys⟩
    ·rfl
    ·obtain ⟨b,off,h,_⟩:=HX.out (by simp); cases h
   go_enter Tryz.func107,Tryz.ntmps107
   go_wp2
   go_ret
   rw [h0.out]
   exact ⟨none,0,rfl,Buf.nil,Fr.refl _ _,fun b hb=>by obtain ⟨a,ha,_⟩:=hb; cases ha⟩
 | some ad =>
   go_enter Tryz.func107,Tryz.ntmps107
   go_wp2_with (at_builtin
                refine Zbm rfl _ _ _ rfl _ .u64 8 Tryz.underlying77 Zcv (some ⟨w.heap.size,0,none⟩) (some ad) 0 n 0 c rfl rfl [] xs rfl HN.out ?_ (HX.out.alloc _) (by simp only [maxLen]; omega) (by omega) ?_
                ·exact Or.inr ⟨_,rfl,Own.new w _ _ [] [],⟨#[],heap_alloc_new w _,rfl⟩,Nat.le_refl _,by simp only [maxLen]; omega⟩
                intro A1 cap1 w1 hB1 hF1 hA1
                have HB1:=zh hB1
                have HF1:=zh hF1
                have HA1:=zh hA1
                clear hB1 hF1 hA1)
   go_ret
   refine ⟨A1,cap1,?_,by simpa using HB1.out,?_,?_⟩
   ·rw [HN.out]; simp
   ·refine ((Fr.refl (fun _=>False) w).alloc _).next HF1.out (fun i hi hb=>?_)
    obtain ⟨a,ha,hb⟩:=hb
    injection ha with ha
    subst ha
    simp at hb; omega
   ·intro b hb
    rcases HA1.out b hb with ⟨a,ha,h⟩ | h
    ·injection ha with ha; subst ha; simp at h; omega
    ·simp at h; omega
theorem Zhz (A:Option Addr) (xs:List Nat) (c:Nat) (w:World) (hX:Zad .u64 w A xs) (hl:xs.length≤4294967296) (h0:0 < xs.length) :
 Calls Tryz.prog 107 #[.slice A xs.length c] w (fun en w'=>∃ b c,en=.returned (.slice (some ⟨b,0,none⟩) xs.length c)∧w.heap.size≤b∧xs.length≤c∧Ext w w'∧Own .u64 94 w' b xs):=by
 refine (Zk1 A xs xs.length c w rfl hX hl).mono ?_
 rintro e w' ⟨A1,cap,rfl,hB,Q,hb⟩
 rcases hB with ⟨_,h,_⟩ | ⟨b,rfl,hO,_,hc,_⟩
 ·rw [h] at h0; simp at h0
 ·exact ⟨b,cap,rfl,hb b ⟨_,rfl,rfl⟩,hc,Q,hO⟩
/-! ### compare,of numbers -/
/-! ### the long division -/
def OvR (N V n L k:Nat) (zs qs:List Nat):Prop:=zs.length=n∧Dig W64 zs∧qs.length=L∧Dig W64 qs∧val W64 zs + V * (W64 ^ k * val W64 (qs.drop k))=N∧val W64 zs < V * W64 ^ k
theorem OvR.start {N V n L:Nat} {zs:List Nat} (hn:zs.length=n) (hd:Dig W64 zs) (hv:val W64 zs=N) (hlt:N < V * W64 ^ L):OvR N V n L L zs (List.replicate L 0) :=
 ⟨hn,hd,by simp,Dig.replicate Zaf _,by rw [List.drop_of_length_le (by simp)]; simpa using hv,by rw [hv]; exact hlt⟩
theorem Zm2 {o n:Nat} {zs:List Nat} (ho:o + n + 1≤zs.length) (h:val W64 zs < W64 ^ (o + n + 1)):val W64 zs=val W64 (zs.take o) + W64 ^ o * win o n zs∧val W64 (zs.drop (o + n + 1))=0:=by
 have h1:=ZaH (B:=W64) (xs:=zs) (o + n + 1)
 rw [Nat.min_eq_left ho] at h1
 have h2:val W64 (zs.drop (o + n + 1))=0:=by
  refine Nat.eq_zero_of_not_pos fun h3=>?_
  have:=Nat.mul_le_mul_left (W64 ^ (o + n + 1)) h3
  omega
 rw [h2,Nat.mul_zero,Nat.add_zero,ZdK (by omega)] at h1
 exact ⟨h1,h2⟩
theorem OvR.ready {N V n L j m:Nat} {zs qs:List Nat} (h:OvR N V n L (j + 1) zs qs) (hV:V < W64 ^ m) (hj:j + m + 1≤n):val W64 zs=val W64 (zs.take j) + W64 ^ j * win j m zs∧val W64 (zs.drop (j + m + 1))=0∧win j m zs < W64 * V:=by
 obtain ⟨h1,h2,h3,h4,h5,h6⟩:=h
 have hb:val W64 zs < W64 ^ (j + m + 1):=by
  refine Nat.lt_of_lt_of_le h6 ?_
  rw [show j + m + 1=m + (j + 1) by omega,Nat.pow_add W64 m]
  exact Nat.mul_le_mul_right _ (Nat.le_of_lt hV)
 obtain ⟨k1,k2⟩:=Zm2 (by omega) hb
 refine ⟨k1,k2,?_⟩
 have:W64 ^ j * win j m zs < W64 ^ j * (W64 * V):=by
  have e:V * W64 ^ (j + 1)=W64 ^ j * (W64 * V):=by rw [Nat.pow_succ,Nat.mul_comm V,Nat.mul_assoc]
  omega
 exact Nat.lt_of_mul_lt_mul_left this
theorem OvR.step {N V n L j m:Nat} {zs qs zs':List Nat} (h:OvR N V n L (j + 1) zs qs) (hV:V < W64 ^ m) (hV0:0 < V) (hj:j + m + 1≤n) (hjL:j < L) (hW:WinR j m zs zs') (hw:win j m zs'=win j m zs % V) :
 OvR N V n L j zs' (qs.set j (win j m zs / V)):=by
 obtain ⟨k1,k2,k3⟩:=h.ready hV hj
 obtain ⟨h1,h2,h3,h4,h5,h6⟩:=h
 obtain ⟨w1,w2,w3,w4⟩:=hW
 have hq:win j m zs / V < W64:=by rw [Nat.div_lt_iff_lt_mul hV0]; exact k3
 have v1:=ZaH (B:=W64) (xs:=zs') (j + m + 1)
 rw [w4,k2,Nat.mul_zero,Nat.add_zero,ZdK (by omega),w3,hw] at v1
 have hdm:=Nat.div_add_mod (win j m zs) V
 have e1:W64 ^ j * win j m zs=V * (W64 ^ j * (win j m zs / V)) + W64 ^ j * (win j m zs % V):=by
  conv=>lhs; rw [← hdm]
  rw [Nat.mul_add,Nat.mul_left_comm]
 refine ⟨w1.trans h1,w2,by simpa using h3,h4.set j hq,?_,?_⟩
 ·have e2:(qs.set j (win j m zs / V))[j]?.getD 0=win j m zs / V:=by rw [List.getElem?_set_self (by omega)]; rfl
  rw [ZaF j (by simp; omega),e2,List.drop_set_of_lt (by omega),v1]
  rw [Nat.pow_succ] at h5
  have e3:V * (W64 ^ j * (win j m zs / V + W64 * val W64 (qs.drop (j + 1))))=V * (W64 ^ j * (win j m zs / V)) + V * (W64 ^ j * W64 * val W64 (qs.drop (j + 1))):=by
   rw [Nat.mul_add (W64 ^ j),Nat.mul_add V,Nat.mul_assoc (W64 ^ j)]
  omega
 ·rw [v1]
  have b1:=ZaP (h2.take j)
  rw [List.length_take,Nat.min_eq_left (by omega)] at b1
  have b2:=Nat.mul_le_mul_left (W64 ^ j) (Nat.mod_lt (win j m zs) hV0)
  rw [Nat.mul_succ] at b2
  rw [Nat.mul_comm V]
  omega
theorem OvR.done {N V n L:Nat} {zs qs:List Nat} (h:OvR N V n L 0 zs qs) (hV:0 < V):val W64 qs=N / V∧val W64 zs=N % V:=by
 obtain ⟨h1,h2,h3,h4,h5,h6⟩:=h
 rw [Nat.pow_zero,Nat.mul_one] at h6
 rw [Nat.pow_zero,Nat.one_mul,List.drop_zero] at h5
 rw [← h5]
 rw [Nat.add_mul_div_left _ _ hV,Nat.div_eq_of_lt h6,Nat.add_mul_mod_self_left,Nat.mod_eq_of_lt h6]
 exact ⟨by omega,rfl⟩
theorem Zos {ys:List Nat} {k t:Nat} (hd:Dig W64 ys) (hl:ys.length=k + 1) (ht:Trim ys) (et:ys[k]?.getD 0=t):wl (val W64 ys * 2 ^ (64 - blen t))=ys.length:=by
 have h0:0 < t:=Nat.pos_of_ne_zero (by rw [← et]; exact ht k hl)
 have hb:=ZgG hd hl ht et
 have htW:t < 2 ^ 64:=by have:=et ▸ hd.getD Zaf k; rw [Zal] at this; exact this
 have hb2:=ZbD.2 htW
 have hv0:0 < val W64 ys:=by have:=Zat (B:=W64) k (show k < ys.length by omega); rw [List.take_of_length_le (by omega),et] at this; have:=Nat.mul_le_mul_left (W64 ^ k) h0; have:=Nat.pow_pos (n:=k) Zaf; omega
 have hb3:blen (val W64 ys * 2 ^ (64 - blen t))=64 * (k + 1):=by rw [ZeD hv0,hb]; omega
 have h1:wl (val W64 ys * 2 ^ (64 - blen t))≤k + 1:=Zbq.2 (by rw [ZcV]; exact ZbD.1 (by omega))
 have h2:¬ wl (val W64 ys * 2 ^ (64 - blen t))≤k:=fun h=>by
  have:=Zbq.1 h
  rw [ZcV] at this
  have:=ZbD.2 this
  omega
 omega
theorem ZoM {xs ys:List Nat} {s:Nat} (hd:Dig W64 xs) (ht:Trim ys) (h0:0 < ys.length) (hl:ys.length≤xs.length):val W64 xs * 2 ^ s < val W64 ys * 2 ^ s * W64 ^ (xs.length - ys.length + 1):=by
 obtain ⟨k,hk⟩:∃ k,ys.length=k + 1:=⟨ys.length - 1,by omega⟩
 have h1:=ZaP hd
 have h2:=ZfI (B:=W64) ht hk
 have h3:W64 ^ xs.length≤val W64 ys * W64 ^ (xs.length - ys.length + 1):=by
  rw [show xs.length=k + (xs.length - ys.length + 1) by omega,Nat.pow_add]
  rw [show k + (xs.length - ys.length + 1) - ys.length + 1=xs.length - ys.length + 1 by omega]
  exact Nat.mul_le_mul_right _ h2
 rw [Nat.mul_right_comm]
 exact (Nat.mul_lt_mul_right (p2 s)).2 (Nat.lt_of_lt_of_le h1 h3)
theorem Zm3 {ws:List Nat} {n:Nat} (hd:Dig W64 ws) (hl:ws.length≤n):let zs:=ws.take n ++ (List.replicate n 0).drop ws.length; zs.length=n∧Dig W64 zs∧val W64 zs=val W64 ws:=by
 intro zs
 have e:zs=ws ++ List.replicate (n - ws.length) 0:=by show ws.take n ++ (List.replicate n 0).drop ws.length=_; rw [List.take_of_length_le hl,List.drop_replicate]
 rw [e]
 exact ⟨by simp; omega,hd.append (Dig.replicate Zaf _),by rw [ZbH,Zb7]; simp⟩
theorem Zot {xs:List Nat} {s:Nat} (hd:Dig W64 xs) (hs:s≤64):wl (val W64 xs * 2 ^ s)≤xs.length + 1:=Zbq.2 (by
 have h1:=ZaP hd
 rw [Nat.pow_succ]
 have h2:2 ^ s≤W64:=by rw [Zal]; exact Nat.pow_le_pow_right (n:=2) (by decide) hs
 exact Nat.lt_of_lt_of_le ((Nat.mul_lt_mul_right (p2 s)).2 h1) (Nat.mul_le_mul_left _ h2))
theorem Zou {x y s:Nat}:x * 2 ^ s % (y * 2 ^ s) / 2 ^ s=x % y:=by rw [Nat.mul_mod_mul_right,Nat.mul_div_cancel _ (p2 s)]
theorem Zov {x y s:Nat}:x * 2 ^ s / (y * 2 ^ s)=x / y:=Nat.mul_div_mul_right _ _ (p2 s)
theorem ZeG {b n c v:Nat} {xs:List Nat} {w:World} (hO:Own .u64 94 w b xs) (hd:Dig W64 xs) (hn:xs.length=n) (hv:val W64 xs=v) (hl:n≤1099511627776) (hc:n≤c):Calls Tryz.prog 106 #[.slice (some ⟨b,0,none⟩) n c] w (ZaQ w v):=by
 subst hn hv
 refine (Zf3 _ xs _ w hO.shows0 hl hc).mono ?_
 rintro e w' ⟨rfl,Q⟩
 exact ⟨_,rfl,(Zae.of_own hO hd hc).ext Q,Q⟩
theorem ZnU {ys:List Nat} {y:Nat} (h:ys.length=1) (e:ys[0]?.getD 0=y):val W64 ys=y:=by
 obtain ⟨z,rfl⟩:=List.length_eq_one_iff.1 h
 simp at e
 simp [e]
theorem Blk.own1 {w:World} {b r:Nat} (h:Blk 94 w b #[.int .u64 ((r:Nat):Int)]):Own .u64 94 w b [r]:=⟨[],by simp,h⟩
/-! ### of numbers -/
section
variable {u v:Value} {m n:Nat} {w:World}
theorem Zcq (hu:Zae w u m) (hv:Zae w v n) (hm:wl m≤4294967296) (hn:wl n≤4294967296):Calls Tryz.prog 126 #[u,v] w (ZaQ w (m + n)):=by
 obtain ⟨A,xs,c,rfl,hc,h1,h2,h3,rfl⟩:=hu
 obtain ⟨A2,ys,c2,rfl,hc2,k1,k2,k3,rfl⟩:=hv
 rw [← Zaw h2 h3] at hm
 rw [← Zaw k2 k3] at hn
 exact ZlV A A2 xs ys c c2 w h1 k1 hm hn h2 k2
theorem Zd7 (hu:Zae w u m) (hv:Zae w v n) (hm:wl m≤4294967296) (hle:n≤m):Calls Tryz.prog 127 #[u,v] w (ZaQ w (m - n)):=by
 obtain ⟨A,xs,c,rfl,hc,h1,h2,h3,rfl⟩:=hu
 obtain ⟨A2,ys,c2,rfl,hc2,k1,k2,k3,rfl⟩:=hv
 have hl:=Zbc hle
 rw [← Zaw h2 h3] at hm hl
 rw [← Zaw k2 k3] at hl
 exact ZkV A A2 xs ys c c2 w h1 k1 hm (by omega) h2 k2 hl hle
theorem Zk2 (hu:Zae w u m) (hv:Zae w v n) (hm:wl m≤4294967296) (hn:wl n≤4294967296):Calls Tryz.prog 124 #[u,v] w (ZaQ w (m * n)):=by
 obtain ⟨A,xs,c,rfl,hc,h1,h2,h3,rfl⟩:=hu
 obtain ⟨A2,ys,c2,rfl,hc2,k1,k2,k3,rfl⟩:=hv
 rw [← Zaw h2 h3] at hm
 rw [← Zaw k2 k3] at hn
 exact ZkW A A2 xs ys c c2 w h1 k1 hm hn h2 k2
theorem Zdn (k:Nat) (hu:Zae w u m) (hm:wl m≤4294967296) (hk:k≤274877906944):Calls Tryz.prog 66 #[u, .int .i64 ((k:Nat):Int)] w (ZaQ w (m * 2 ^ k)):=by
 have hu':=hu
 obtain ⟨A,xs,c,rfl,hc,h1,h2,h3,rfl⟩:=hu
 rw [← Zaw h2 h3] at hm
 exact ZnI A xs c k w hu' h1 hm h2 hk
theorem ZeH (k:Nat) (hu:Zae w u m) (hm:wl m≤4294967296) (hk:k≤274877906944):Calls Tryz.prog 128 #[u, .int .i64 ((k:Nat):Int)] w (ZaQ w (m / 2 ^ k)):=by
 have hu':=hu
 obtain ⟨A,xs,c,rfl,hc,h1,h2,h3,rfl⟩:=hu
 rw [← Zaw h2 h3] at hm
 exact ZlW A xs c k w hu' h1 hm h2 hk
theorem ZbK (hu:Zae w u m) (hm:wl m≤4294967296):Calls Tryz.prog 65 #[u] w (RetV w (.int .i64 ((blen m:Nat):Int))):=by
 obtain ⟨A,xs,c,rfl,hc,h1,h2,h3,rfl⟩:=hu
 rw [← Zaw h2 h3] at hm
 exact ZjX A xs c w h1 hm h2 h3
theorem Zfq (hg:Glob w) (hu:Zae w u m) (hm:wl m≤4294967296) (h0:0 < m):Calls Tryz.prog 157 #[u] w (RetV w (.int .i64 ((tzn m:Nat):Int))):=by
 obtain ⟨A,xs,c,rfl,hc,h1,h2,h3,rfl⟩:=hu
 rw [← Zaw h2 h3] at hm
 exact Zk0 A xs c w h1 hm h2 hg h0
theorem Zfr (i:Nat) (hu:Zae w u m) (hi:i≤274877906944):Calls Tryz.prog 158 #[u, .int .i64 ((i:Nat):Int)] w (RetV w (.bool (decide (m / 2 ^ i % 2=1)))):=by
 obtain ⟨A,xs,c,rfl,hc,h1,h2,h3,rfl⟩:=hu
 exact Zm0 A xs c w h1 h2 i hi
theorem Zep (hu:Zae w u m) (hv:Zae w v n) (hm:wl m≤4294967296):Calls Tryz.prog 122 #[u,v] w (RetV w (.int .i64 (cmpI ((m:Nat):Int) ((n:Nat):Int)))):=by
 obtain ⟨A,xs,c,rfl,hc,h1,h2,h3,rfl⟩:=hu
 obtain ⟨A2,ys,c2,rfl,hc2,k1,k2,k3,rfl⟩:=hv
 rw [← Zaw h2 h3] at hm
 exact Zjj A A2 xs ys c c2 w h1 k1 hm h2 k2 h3 k3
end
theorem Zl4 (A A2:Option Addr) (xs ys:List Nat) (c c2:Nat) (w:World) (hX:Zad .u64 w A xs) (hY:Zad .u64 w A2 ys) (hl:xs.length≤4294967295) (hl2:ys.length≤4294967296) (hx:Dig W64 xs) (hy:Dig W64 ys) (hN:Zae w (.slice A xs.length c) (val W64 xs)) (hM:Zae w (.slice A2 ys.length c2) (val W64 ys)) (tx:Trim xs) (ty:Trim ys) (hy0:0 < val W64 ys) :
 Calls Tryz.prog 142 #[.slice A xs.length c, .slice A2 ys.length c2] w (Zen w (val W64 xs / val W64 ys) (val W64 xs % val W64 ys)):=by
 have hw:wl (val W64 xs)≤4294967296:=by rw [← Zaw hx tx]; omega
 have hwy:wl (val W64 ys)≤4294967296:=by rw [← Zaw hy ty]; exact hl2
 refine Zau (Φ:=fun w=>(((Zae w (.slice A xs.length c) (val W64 xs)∧Zad .u64 w A xs)∧Zae w (.slice A2 ys.length c2) (val W64 ys))∧Zad .u64 w A2 ys)) Tryz.func142 rfl (by kernel_rfl) (fun w' hf=>⟨⟨⟨hN.ext hf,hX.ext hf⟩,hM.ext hf⟩,hY.ext hf⟩) ?_
 refine Zac (Zaa (xq 2 [eS1 4 none 0 0,eS1 5 none 0 0] [] ?_))
 refine xe (Zab (Zac (Zac (Zaa (xq 2 [eS1 13 A xs.length c,eS1 14 A2 ys.length c2] [] ?_)))))
 refine xqc 122 [.slice A xs.length c, .slice A2 ys.length c2] 15 (fun _:Unit=>.int .i64 (cmpI ((val W64 xs:Nat):Int) ((val W64 ys:Nat):Int))) _ (fun w R Q=>(Zep Q.1.1.1 Q.1.2 hw).mono (fun _ _ h=>Zak h rfl)) (fun xx=>?_)
 refine xq 1 [(16, .v (.bool (decide ((cmpI ((val W64 xs:Nat):Int) ((val W64 ys:Nat):Int)) < 0))))] [] ?_
 refine xe (Zab ?_)
 refine Zas ((decide ((cmpI ((val W64 xs:Nat):Int) ((val W64 ys:Nat):Int)) < 0))) (by kernel_rfl) (fun hb10=>?_) (fun hb10=>?_)
 ·have hlt0:=ZcS.1 (of_decide_eq_true hb10)
  refine Zac (Zaa (xq 3 [eS1 4 none 0 0,eS1 5 A xs.length c] [] ?_))
  refine xe (Zab (Zai (Zah ?_)))
  refine Zag (v:=.tuple #[.slice none 0 0, .slice A xs.length c]) (by kernel_rfl) (fun w' R Q=>?_)
  exact ⟨_,_,rfl,by rw [Nat.div_eq_of_lt hlt0]; exact Zae.zero _,by rw [Nat.mod_eq_of_lt hlt0]; exact Q.1.1.1.1,R⟩
 ·have hge:val W64 ys≤val W64 xs:=Nat.le_of_not_lt (fun h'=>of_decide_eq_false hb10 (ZcS.2 h'))
  have hll:ys.length≤xs.length:=by have:=Zbc hge; rwa [← Zaw hy ty,← Zaw hx tx] at this
  have hy1:0 < ys.length:=List.length_pos_iff.2 (fun e=>by rw [e] at hy0; simp at hy0)
  refine Zam (Zab (Zac (Zac (Zaa (xq 3 [(20, .v (.bool ((((ys.length:Nat):Int):Int) == 1)))] [] ?_)))))
  refine xe (Zab ?_)
  refine Zas (((((ys.length:Nat):Int):Int) == 1)) (by kernel_rfl) (fun hb11=>?_) (fun hb11=>?_)
  ·have hb11':=beq_iff_eq.1 hb11
   refine Zac (Zaa (xq 1 [eS1 21 A xs.length c] [] ?_))
   refine ZmR 107 [.slice A xs.length c] (d:=22) (k:=.u64) (e:=94) xs (fun w R Q=>Zhz A xs c w Q.1.1.1.2 (by omega) (by omega)) (fun r12 cc hr12 hcap _=>?_)
   refine xr 1 [eS1 0 A xs.length c,eS1 1 A2 ys.length c2,eS1 4 none 0 0,eS1 5 none 0 0,eS1 6 (some ⟨r12,0,none⟩) xs.length cc] [] ?_
   refine xe (Zab (Zac (Zaa (xq 2 [eS1 23 (some ⟨r12,0,none⟩) xs.length cc,eS1 24 A2 ys.length c2] [] ?_))))
   refine xqk 25 (atA A2 0) (fun w R Q=>ZaG (t:=77) (e:=94) (x:=(Operand.tmp 24)) (ix:=(Operand.const (Value.int IntKind.i64 0))) (len:=ys.length) (cap:=c2) (i:=0) (((Q.1).self.1.2).ne (j:=0) (by omega)) (by omega)) ?_
   obtain ⟨x13,hx13⟩:∃ x,ys[0]?.getD 0=x:=⟨_,rfl⟩
   refine xqk 26 (.int .u64 ((x13:Nat):Int)) (fun w R Q=>by rw [← hx13]; exact ZaV (t:=94) (x:=(Operand.tmp 25)) ((Q.1).self.1.2) (j:=0) (by omega)) ?_
   have hv1:=ZnU (by omega) hx13
   refine Zfl (xs:=xs) (α:=List Nat) 108 [.slice (some ⟨r12,0,none⟩) xs.length cc, .int .u64 ((x13:Nat):Int)] (d:=27) (fun x=>.int .u64 ((val W64 xs % x13:Nat):Int)) (fun x=>x.length=xs.length∧Dig W64 x∧val W64 x=val W64 xs / x13) (fun x=>x) r12 (fun x w=>(Box (fun j=>r12≤j) w (fun w=>((((Zae w (.slice A xs.length c) (val W64 xs)∧Zad .u64 w A (xs))∧Zae w (.slice A2 ys.length c2) (val W64 ys))∧Zad .u64 w A2 (ys))∧True))∧Own .u64 94 w r12 (x))) (fun w Q=>Q.2) (by omega) (Or.inl hr12) (fun w R Q=>ZeF r12 _ _ _ _ Q.2 (by omega) hx (by omega) (by rw [← hx13]; exact hy.getD Zaf _)) (fun x w w' hp Q hF hO=>⟨((Q.1).fr (hF.mono (fun _ _ e=>by rw [e]; exact Nat.le_refl _))),hO⟩) (fun x hx14=>?_)
   obtain ⟨qs14,rfl⟩:∃ y,y=x:=⟨_,rfl⟩
   refine xr 1 [eS1 0 A xs.length c,eS1 1 A2 ys.length c2,eS1 4 none 0 0,eS1 5 none 0 0,eS1 6 (some ⟨r12,0,none⟩) xs.length cc,(7, .v (.int .u64 ((val W64 xs % x13:Nat):Int)))] [] ?_
   refine xe (Zab (Zac (Zaa (xq 1 [eS1 28 (some ⟨r12,0,none⟩) xs.length cc] [] ?_))))
   refine xqc 106 [.slice (some ⟨r12,0,none⟩) xs.length cc] 29 ZaJ _ (fun w R Q=>(ZeG Q.2 hx14.2.1 hx14.1 hx14.2.2 (by omega) (by omega)).mono (fun _ _=>Zay)) (fun xx=>?_)
   obtain ⟨A15,l15,c15⟩:=xx
   refine xq 1 [(30, .v (.int .u64 ((val W64 xs % x13:Nat):Int)))] [] ?_
   refine ZcB (d:=31) (fun zb:Nat=>.slice (some ⟨zb,0,none⟩) 1 1) (fun zb zw=>Blk 94 zw zb #[.int .u64 ((val W64 xs % x13:Nat):Int)]) (by kernel_rfl) (by kernel_rfl) (by kernel_rfl) (by kernel_rfl) (by kernel_rfl) (by kernel_rfl) (fun w R Q=>Zb0 (t:=77) (e:=94) (n:=1) (sz:=1) (z:=.int .u64 0) (parts:=#[(0,Operand.tmp 30)]) (by kernel_rfl) (by kernel_rfl) (by kernel_rfl) (by kernel_rfl) (by kernel_rfl) (by kernel_rfl)) (fun b16=>?_)
   refine xr 0 [eS1 0 A xs.length c,eS1 1 A2 ys.length c2,eS1 4 none 0 0,eS1 5 none 0 0,eS1 29 A15 l15 c15,eS1 31 (some ⟨b16,0,none⟩) 1 1] [] ?_
   refine xqc 106 [.slice (some ⟨b16,0,none⟩) 1 1] 32 ZaJ _ (fun w R Q=>(ZeG (Q.2).own1 (Dig.nil.cons (Nat.lt_trans (Nat.mod_lt _ (by omega)) (by rw [← hx13]; exact hy.getD Zaf _))) (show [val W64 xs % x13].length=1 from rfl) (show val W64 [val W64 xs % x13]=val W64 xs % x13 by simp) (by omega) (by omega)).mono (fun _ _=>Zay)) (fun xx=>?_)
   obtain ⟨A17,l17,c17⟩:=xx
   refine xq 2 [eS1 4 A15 l15 c15,eS1 5 A17 l17 c17] [] ?_
   refine xe (Zab (Zai (Zah ?_)))
   refine Zag (v:=.tuple #[.slice A15 l15 c15, .slice A17 l17 c17]) (by kernel_rfl) (fun w' R Q=>?_)
   exact ⟨_,_,rfl,by rw [hv1]; exact Q.1.1.2,by rw [hv1]; exact Q.2,R⟩
  ·have hb11':=Za5 hb11
   refine Zam (Zab (Zac (Zaa (xq 4 [eS1 33 A2 ys.length c2,(36, .v (.int .i64 (IntKind.i64.wrap (((ys.length:Nat):Int) - 1))))] [] ?_))))
   rw [show IntKind.i64.wrap ((((ys.length:Nat):Int) - 1))=((ys.length - 1:Nat):Int) from by rw [IntKind.wrap_i64]; omega]
   refine xqk 37 (atA A2 (ys.length - 1)) (fun w R Q=>ZaG (t:=77) (e:=94) (x:=(Operand.tmp 33)) (ix:=(Operand.tmp 36)) (len:=ys.length) (cap:=c2) (i:=ys.length - 1) ((Q.1.2).ne (j:=ys.length - 1) (by omega)) (by omega)) ?_
   obtain ⟨x18,hx18⟩:∃ x,ys[ys.length - 1]?.getD 0=x:=⟨_,rfl⟩
   refine xqk 38 (.int .u64 ((x18:Nat):Int)) (fun w R Q=>by rw [← hx18]; exact ZaV (t:=94) (x:=(Operand.tmp 37)) (Q.1.2) (j:=ys.length - 1) (by omega)) ?_
   obtain ⟨t,rfl⟩:∃ t,t=x18:=⟨_,rfl⟩
   refine xqc 174 [.int .u64 ((t:Nat):Int)] 39 (fun _:Unit=>.int .i64 ((64 - blen t:Nat):Int)) _ (fun w R Q=>(ZkZ t _ (by rw [← hx18]; exact hy.getD Zaf _)).mono (fun _ _ h=>Zak h rfl)) (fun xx=>?_)
   refine xq 1 [(8, .v (.int .i64 ((64 - blen t:Nat):Int)))] [] ?_
   refine xe (Zab (Zac (Zaa (xq 2 [eS1 40 A2 ys.length c2,(41, .v (.int .i64 ((64 - blen t:Nat):Int)))] [] ?_))))
   refine xqc 66 [.slice A2 ys.length c2, .int .i64 ((64 - blen t:Nat):Int)] 42 ZaJ _ (fun w R Q=>(Zdn (64 - blen t) Q.1.1.1.2 hwy (by omega)).mono (fun _ _=>Zay)) (fun xx=>?_)
   obtain ⟨A19,l19,c19⟩:=xx
   refine xq 1 [eS1 9 A19 l19 c19] [] ?_
   refine xe (Zab (Zac ?_))
   refine SXc.know (p:=l19=(wds (val W64 ys * 2 ^ (64 - blen t))).length∧(wds (val W64 ys * 2 ^ (64 - blen t))).length≤c19) (fun w _ Q=>(Q.2).lens) (fun hln=>?_)
   obtain ⟨dd,hdd⟩:∃ dd,dd=wds (val W64 ys * 2 ^ (64 - blen t)):=⟨_,rfl⟩
   rw [← hdd] at hln
   obtain ⟨rfl,hdc⟩:=hln
   have hDd:Dig W64 dd:=by rw [hdd]; exact (Zcu _).1
   have hDt:Trim dd:=by rw [hdd]; exact ZgW _
   have hDv:val W64 dd=val W64 ys * 2 ^ (64 - blen t):=by rw [hdd]; exact (Zcu _).2
   have hDl:dd.length=ys.length:=by rw [hdd,Zkn]; exact Zos (k:=ys.length - 1) hy (by omega) ty hx18
   have hDp:0 < val W64 dd:=Zd4 hDt Zaf (fun e=>by rw [e] at hDl; simp at hDl; omega)
   have hDw:=ZaP hDd
   refine Zaa (xq 3 [(45, .v (.int .i64 (IntKind.i64.wrap (((xs.length:Nat):Int) + 1))))] [] ?_)
   rw [show IntKind.i64.wrap ((((xs.length:Nat):Int) + 1))=((xs.length + 1:Nat):Int) from by rw [IntKind.wrap_i64]; omega]
   refine Zfm (d:=46) (t:=77) (e:=94) (k:=.u64) (kl:=.i64) (kc:=.i64) (l:=(Operand.tmp 45)) (c:=(Operand.tmp 45)) (xs.length + 1) 8 (by omega) (by decide) (fun r20 hr20 lr20=>?_)
   have hA:∀ a,A19=some a→a.block≠r20:=fun a ha=>Nat.ne_of_lt (lr20 a.block (fun w Q=>(Q.2).shows.lt (by rw [← hdd,hDl]; omega) ha))
   refine xr 1 [eS1 0 A xs.length c,eS1 1 A2 ys.length c2,eS1 4 none 0 0,eS1 5 none 0 0,(8, .v (.int .i64 ((64 - blen t:Nat):Int))),eS1 9 A19 dd.length c19,eS1 10 (some ⟨r20,0,none⟩) (xs.length + 1) (xs.length + 1)] [] ?_
   refine xe (Zab (Zac (Zaa (xq 3 [eS1 47 (some ⟨r20,0,none⟩) (xs.length + 1) (xs.length + 1),eS1 48 A xs.length c,(49, .v (.int .i64 ((64 - blen t:Nat):Int)))] [] ?_))))
   refine xqc 66 [.slice A xs.length c, .int .i64 ((64 - blen t:Nat):Int)] 50 ZaJ _ (fun w R Q=>(Zdn (64 - blen t) (Q.1).self.1.1.1.1.1.1 hw (by omega)).mono (fun _ _=>Zay)) (fun xx=>?_)
   obtain ⟨A21,l21,c21⟩:=xx
   refine SXi.know (p:=l21=(wds (val W64 xs * 2 ^ (64 - blen t))).length∧(wds (val W64 xs * 2 ^ (64 - blen t))).length≤c21) (fun w _ Q=>(Q.2).lens) (fun hln=>?_)
   have hfit:=Zot (s:=64 - blen t) hx (by omega)
   rw [← Zkn] at hfit
   obtain ⟨hr1,hr2,hr3⟩:=Zm3 (n:=xs.length + 1) (Zcu (val W64 xs * 2 ^ (64 - blen t))).1 hfit
   rw [(Zcu _).2] at hr3
   obtain ⟨zz,hzz⟩:∃ zz,(wds (val W64 xs * 2 ^ (64 - blen t))).take (xs.length + 1) ++ (List.replicate (xs.length + 1) 0).drop (wds (val W64 xs * 2 ^ (64 - blen t))).length=zz:=⟨_,rfl⟩
   rw [hzz] at hr1 hr2 hr3
   refine ZnG (d:=51) (dx:=Operand.tmp 47) (sx:=Operand.tmp 50) (dT:=77) (sT:=77) (e:=94) (k:=.u64) (sp:=A21) (mid:=List.replicate (xs.length + 1) 0) (ys:=wds (val W64 xs * 2 ^ (64 - blen t))) (n:=xs.length + 1) (m:=l21) (dc:=xs.length + 1) (sc:=c21) r20 (fun w=>((Box (fun j=>r20≤j) w (fun w=>((((((Zae w (.slice A xs.length c) (val W64 xs)∧Zad .u64 w A (xs))∧Zae w (.slice A2 ys.length c2) (val W64 ys))∧Zad .u64 w A2 (ys))∧True)∧True)∧Zae w (.slice A19 dd.length c19) (val W64 ys * 2 ^ (64 - blen t))))∧Own .u64 94 w r20 (zz))∧True)) (by simp) hln.1.symm (by simp) (fun w Q=>Q.1.2) (fun w Q=>(Q.2).shows) (Or.inl hr20) (fun w w' Q hF hO=>⟨⟨((Q.1.1).fr (hF.mono (fun _ _ e=>by rw [e]; exact Nat.le_refl _))),(by rw [← hzz]; rwa [List.length_replicate] at hO)⟩,trivial⟩) ?_
   refine xr 0 [eS1 0 A xs.length c,eS1 1 A2 ys.length c2,eS1 4 none 0 0,eS1 5 none 0 0,(8, .v (.int .i64 ((64 - blen t:Nat):Int))),eS1 9 A19 dd.length c19,eS1 10 (some ⟨r20,0,none⟩) (xs.length + 1) (xs.length + 1)] [] ?_
   refine xe (Zab (Zac (Zaa (xq 5 [(56, .v (.int .i64 (IntKind.i64.wrap (((xs.length:Nat):Int) - ((ys.length:Nat):Int)))))] [] ?_))))
   rw [show IntKind.i64.wrap ((((xs.length:Nat):Int) - ((ys.length:Nat):Int)))=((xs.length - (ys.length):Nat):Int) from by rw [IntKind.wrap_i64]; omega]
   refine xq 1 [(57, .v (.int .i64 (IntKind.i64.wrap (((xs.length - (ys.length):Nat):Int) + 1))))] [] ?_
   rw [show IntKind.i64.wrap ((((xs.length - (ys.length):Nat):Int) + 1))=((xs.length - (ys.length) + 1:Nat):Int) from by rw [IntKind.wrap_i64]; omega]
   refine Zfm (d:=58) (t:=77) (e:=94) (k:=.u64) (kl:=.i64) (kc:=.i64) (l:=(Operand.tmp 57)) (c:=(Operand.tmp 57)) (xs.length - (ys.length) + 1) 8 (by omega) (by decide) (fun r22 hr22 lr22=>?_)
   have hlt:r20 < r22:=lr22 r20 (fun w Q=>(Q.1.2).lt)
   refine xr 1 [eS1 1 A2 ys.length c2,eS1 4 none 0 0,eS1 5 none 0 0,(8, .v (.int .i64 ((64 - blen t:Nat):Int))),eS1 9 A19 dd.length c19,eS1 10 (some ⟨r20,0,none⟩) (xs.length + 1) (xs.length + 1),(11, .v (.slice (some ⟨r22,0,none⟩) (xs.length - (ys.length) + 1) (xs.length - (ys.length) + 1)))] [] ?_
   refine xe (Zab (Zac (Zac (Zaa (xq 3 [(61, .v (.int .i64 (IntKind.i64.wrap (((xs.length - (ys.length) + 1:Nat):Int) - 1))))] [] ?_)))))
   rw [show IntKind.i64.wrap (((xs.length - ys.length + 1:Nat):Int) - 1)=((xs.length - ys.length + 1:Nat):Int) - 1 from by rw [IntKind.wrap_i64]; omega]
   refine xq 1 [(12, .v (.int .i64 (((xs.length - ys.length + 1:Nat):Int) - 1)))] [] ?_
   refine xe (Zab (Zax ?_))
   refine SXc.weak [(1, .v (.slice A2 ys.length c2)),(4, .v (.slice none 0 0)),(5, .v (.slice none 0 0)),(8, .v (.int .i64 ((64 - blen t:Nat):Int))),(9, .v (.slice A19 dd.length c19)),(10, .v (.slice (some ⟨r20,0,none⟩) (xs.length + 1) (xs.length + 1))),(11, .v (.slice (some ⟨r22,0,none⟩) (xs.length - (ys.length) + 1) (xs.length - (ys.length) + 1))),(12, .v (.int .i64 ((((xs.length - ys.length + 1):Nat):Int) - 1)))] [] (Ψ:=fun w=>((Box (fun j=>r20≤j) w (fun w=>((((((Zae w (.slice A xs.length c) (val W64 xs)∧Zad .u64 w A (xs))∧Zae w (.slice A2 ys.length c2) (val W64 ys))∧Zad .u64 w A2 (ys))∧True)∧True)∧Zae w (.slice A19 dd.length c19) (val W64 ys * 2 ^ (64 - blen t))))∧Own .u64 94 w r20 (zz))∧Own .u64 94 w r22 ((List.replicate (xs.length - (ys.length) + 1) 0)))) (ZaB.of (by kernel_rfl)) (by kernel_rfl) (fun w Q=>⟨⟨(Q.1).self.1.1,(Q.1).self.1.2⟩,Q.2⟩) ?_
   refine Zbv (fun nn ss ff=>∃ (k:Nat) (zs qs:List Nat),ss=ofL [(1, .v (.slice A2 ys.length c2)),(4, .v (.slice none 0 0)),(5, .v (.slice none 0 0)),(8, .v (.int .i64 ((64 - blen t:Nat):Int))),(9, .v (.slice A19 dd.length c19)),(10, .v (.slice (some ⟨r20,0,none⟩) (xs.length + 1) (xs.length + 1))),(11, .v (.slice (some ⟨r22,0,none⟩) (xs.length - (ys.length) + 1) (xs.length - (ys.length) + 1))),(12, .v (.int .i64 (((k:Nat):Int) - 1)))] []∧ff=(fun w=>((Box (fun j=>r20≤j) w (fun w=>((((((Zae w (.slice A xs.length c) (val W64 xs)∧Zad .u64 w A (xs))∧Zae w (.slice A2 ys.length c2) (val W64 ys))∧Zad .u64 w A2 (ys))∧True)∧True)∧Zae w (.slice A19 dd.length c19) (val W64 ys * 2 ^ (64 - blen t))))∧Own .u64 94 w r20 (zs))∧Own .u64 94 w r22 (qs)))∧(OvR (val W64 xs * 2 ^ (64 - blen t)) (val W64 dd) (xs.length + 1) (xs.length - ys.length + 1) k zs qs)∧(k≤xs.length - ys.length + 1)∧nn=(1 + k)) ((1 + (xs.length - ys.length + 1))) ⟨(xs.length - ys.length + 1),zz,(List.replicate (xs.length - (ys.length) + 1) 0),rfl,rfl,(OvR.start hr1 hr2 hr3 (by rw [hDv]; exact ZoM hx ty (by omega) (by omega))),Nat.le_refl _,rfl⟩ ?_
   rintro nn ss ff ⟨k,zs,qs,rfl,rfl,HV,hk,rfl⟩
   refine Zac (Zac (Zaa (xq 2 [(63, .v (.bool (decide ((((k:Nat):Int) - 1) ≥ 0))))] [] ?_)))
   refine xe (Zab ?_)
   refine Zas ((decide ((((k:Nat):Int) - 1) ≥ 0))) (by kernel_rfl) (fun hb23=>?_) (fun hb23=>?_)
   ·have hb23':=of_decide_eq_true hb23
    obtain ⟨j,rfl⟩:∃ j,k=j + 1:=⟨k - 1,by omega⟩
    rw [show ((((j + 1):Nat):Int) - 1)=((j:Nat):Int) by omega]
    refine Zam (Zab (Zac (Zax (Zaa (xq 8 [(66, .v (.slice (some ⟨r22,0,none⟩) (xs.length - (ys.length) + 1) (xs.length - (ys.length) + 1))),(67, .v (.int .i64 ((j:Nat):Int))),eS1 68 (some ⟨r20,0,none⟩) (xs.length + 1) (xs.length + 1),(69, .v (.int .i64 ((j:Nat):Int))),(73, .v (.int .i64 (IntKind.i64.wrap (((j:Nat):Int) + ((ys.length:Nat):Int)))))] [] ?_)))))
    rw [show IntKind.i64.wrap ((((j:Nat):Int) + ((ys.length:Nat):Int)))=((j + (ys.length):Nat):Int) from by rw [IntKind.wrap_i64]; omega]
    refine xq 1 [(74, .v (.int .i64 (IntKind.i64.wrap (((j + (ys.length):Nat):Int) + 1))))] [] ?_
    rw [show IntKind.i64.wrap ((((j + (ys.length):Nat):Int) + 1))=((j + (ys.length) + 1:Nat):Int) from by rw [IntKind.wrap_i64]; omega]
    refine xqk 75 (.slice (some ⟨r20,j,none⟩) (dd.length + 1) (xs.length + 1 - j)) (fun w R Q=>ZmS (t:=77) (e:=94) (x:=(Operand.tmp 68)) (len:=(xs.length + 1)) (cap:=(xs.length + 1)) (l:=j) (h:=j + (ys.length) + 1) (n:=dd.length + 1) (m:=xs.length + 1 - j) (lo:=(Operand.tmp 69)) (hi:=(Operand.tmp 74)) (by omega) (by omega) (by omega) (by omega) (by omega)) ?_
    refine xq 1 [eS1 76 A19 dd.length c19] [] ?_
    refine Zfl (xs:=zs) (α:=List Nat) 175 [.slice (some ⟨r20,j,none⟩) (dd.length + 1) (xs.length + 1 - j), .slice A19 dd.length c19] (d:=77) (fun x=>.int .u64 ((win j dd.length zs / val W64 dd:Nat):Int)) (fun x=>WinR j dd.length zs x∧win j dd.length x=win j dd.length zs % val W64 dd) (fun x=>x) r20 (fun x w=>((Box (fun j=>r20≤j) w (fun w=>((((((Zae w (.slice A xs.length c) (val W64 xs)∧Zad .u64 w A (xs))∧Zae w (.slice A2 ys.length c2) (val W64 ys))∧Zad .u64 w A2 (ys))∧True)∧True)∧Zae w (.slice A19 dd.length c19) (val W64 ys * 2 ^ (64 - blen t))))∧Own .u64 94 w r20 (x))∧Own .u64 94 w r22 (qs))) (fun w Q=>Q.1.2) (by have:=HV.1; omega) (Or.inl hr20) (fun w R Q=>Zhy r20 _ j zs dd _ _ _ Q.1.2 (by rw [hdd]; exact ((Q.1.1).self.2).shows) hA (by rw [HV.1]; omega) (by rw [HV.1]; omega) HV.2.1 hDd (by omega) hDp (HV.ready hDw (by omega)).2.2) (fun x w w' hp Q hF hO=>⟨⟨((Q.1.1).fr (hF.mono (fun _ _ e=>by rw [e]; exact Nat.le_refl _))),hO⟩,((Q.2).fr hF (show ¬ (r22=r20) by omega))⟩) (fun x hx24=>?_)
    obtain ⟨zs24,rfl⟩:∃ y,y=x:=⟨_,rfl⟩
    have HS:=HV.step hDw hDp (by omega) (by omega) hx24.1 hx24.2
    have hql:=HV.2.2.1
    refine xr 0 [eS1 1 A2 ys.length c2,eS1 4 none 0 0,eS1 5 none 0 0,(8, .v (.int .i64 ((64 - blen t:Nat):Int))),eS1 9 A19 dd.length c19,eS1 10 (some ⟨r20,0,none⟩) (xs.length + 1) (xs.length + 1),(11, .v (.slice (some ⟨r22,0,none⟩) (xs.length - (ys.length) + 1) (xs.length - (ys.length) + 1))),(12, .v (.int .i64 ((j:Nat):Int))),(66, .v (.slice (some ⟨r22,0,none⟩) (xs.length - (ys.length) + 1) (xs.length - (ys.length) + 1))),(67, .v (.int .i64 ((j:Nat):Int))),(77, .v (.int .u64 ((win j dd.length zs / val W64 dd:Nat):Int)))] [] ?_
    refine xqk 78 (.pointer (some ⟨r22,j,none⟩)) (fun w R Q=>Zbh (t:=77) (e:=94) (x:=(Operand.tmp 66)) (ix:=(Operand.tmp 67)) (len:=(xs.length - (ys.length) + 1)) (cap:=(xs.length - (ys.length) + 1)) (i:=j) (by omega)) ?_
    refine ZbO (t:=94) (x:=(Operand.tmp 78)) (y:=(Operand.tmp 77)) r22 (j) (win j dd.length zs / val W64 dd) (fun w=>((Box (fun j=>r20≤j) w (fun w=>((((((Zae w (.slice A xs.length c) (val W64 xs)∧Zad .u64 w A (xs))∧Zae w (.slice A2 ys.length c2) (val W64 ys))∧Zad .u64 w A2 (ys))∧True)∧True)∧Zae w (.slice A19 dd.length c19) (val W64 ys * 2 ^ (64 - blen t))))∧Own .u64 94 w r20 (zs24))∧Own .u64 94 w r22 ((qs).set (j) (win j dd.length zs / val W64 dd)))) (fun w Q=>Q.2) (by omega) (Or.inl hr22) (fun w w' Q hF hO=>⟨⟨((Q.1.1).fr (hF.mono (fun _ _ e=>by rw [e]; omega))),((Q.1.2).fr hF (show ¬ (r20=r22) by omega))⟩,hO⟩) ?_
    refine xe (Zbk (Zab (Zaa (xq 2 [(65, .v (.int .i64 (IntKind.i64.wrap (((j:Nat):Int) - 1))))] [] ?_))))
    rw [show IntKind.i64.wrap (((j:Nat):Int) - 1)=((j:Nat):Int) - 1 from by rw [IntKind.wrap_i64]; omega]
    refine xq 1 [(12, .v (.int .i64 (((j:Nat):Int) - 1)))] [] ?_
    refine xe ?_
    refine SXq.weak [(1, .v (.slice A2 ys.length c2)),(4, .v (.slice none 0 0)),(5, .v (.slice none 0 0)),(8, .v (.int .i64 ((64 - blen t:Nat):Int))),(9, .v (.slice A19 dd.length c19)),(10, .v (.slice (some ⟨r20,0,none⟩) (xs.length + 1) (xs.length + 1))),(11, .v (.slice (some ⟨r22,0,none⟩) (xs.length - (ys.length) + 1) (xs.length - (ys.length) + 1))),(12, .v (.int .i64 (((j:Nat):Int) - 1)))] [] (Ψ:=fun w=>((Box (fun j=>r20≤j) w (fun w=>((((((Zae w (.slice A xs.length c) (val W64 xs)∧Zad .u64 w A (xs))∧Zae w (.slice A2 ys.length c2) (val W64 ys))∧Zad .u64 w A2 (ys))∧True)∧True)∧Zae w (.slice A19 dd.length c19) (val W64 ys * 2 ^ (64 - blen t))))∧Own .u64 94 w r20 (zs24))∧Own .u64 94 w r22 (((qs).set (j) (win j dd.length zs / val W64 dd))))) (ZaB.of (by kernel_rfl)) (by kernel_rfl) (fun w Q=>⟨⟨Q.1.1,Q.1.2⟩,Q.2⟩) ?_
    exact Za3 ((1 + j)) (by omega) ⟨j,zs24,((qs).set (j) (win j dd.length zs / val W64 dd)),rfl,rfl,HS,by omega,rfl⟩
   ·have hb23':=of_decide_eq_false hb23
    obtain rfl:k=0:=by omega
    refine Zbf (Zap (Zap (Zbs (Zab (Zac (Zaa (xq 1 [(79, .v (.slice (some ⟨r22,0,none⟩) (xs.length - (ys.length) + 1) (xs.length - (ys.length) + 1)))] [] ?_)))))))
    refine xqc 106 [.slice (some ⟨r22,0,none⟩) (xs.length - (ys.length) + 1) (xs.length - (ys.length) + 1)] 80 ZaJ _ (fun w R Q=>(ZeG Q.2 HV.2.2.2.1 HV.2.2.1 ((HV.done hDp).1.trans (by rw [hDv,Zov])) (by omega) (by omega)).mono (fun _ _=>Zay)) (fun xx=>?_)
    obtain ⟨A25,l25,c25⟩:=xx
    refine xq 1 [eS1 81 (some ⟨r20,0,none⟩) (xs.length + 1) (xs.length + 1)] [] ?_
    refine xqc 106 [.slice (some ⟨r20,0,none⟩) (xs.length + 1) (xs.length + 1)] 82 ZaJ _ (fun w R Q=>(ZeG Q.1.1.2 HV.2.1 HV.1 (HV.done hDp).2 (by omega) (by omega)).mono (fun _ _=>Zay)) (fun xx=>?_)
    obtain ⟨A26,l26,c26⟩:=xx
    refine xq 1 [(83, .v (.int .i64 ((64 - blen t:Nat):Int)))] [] ?_
    refine xqc 128 [.slice A26 l26 c26, .int .i64 ((64 - blen t:Nat):Int)] 84 ZaJ _ (fun w R Q=>(ZeH (64 - blen t) Q.2 (Nat.le_trans (Zbc (Nat.le_of_lt (Nat.mod_lt _ hDp))) (by rw [← Zaw hDd hDt]; omega)) (by omega)).mono (fun _ _ h=>Zay (by rw [show (val W64 xs * 2 ^ (64 - blen t) % val W64 dd) / 2 ^ (64 - blen t)=val W64 xs % val W64 ys by rw [hDv,Zou]] at h; exact h))) (fun xx=>?_)
    obtain ⟨A27,l27,c27⟩:=xx
    refine xq 2 [eS1 4 A25 l25 c25,eS1 5 A27 l27 c27] [] ?_
    refine xe (Zab (Zai ?_))
    refine Zag (v:=.tuple #[.slice A25 l25 c25, .slice A27 l27 c27]) (by kernel_rfl) (fun w' R Q=>?_)
    exact ⟨_,_,rfl,Q.1.1.2,Q.2,R⟩
end Go.Proofs.YtklpdkpcocnglaaGreatDoor

namespace Go.Proofs.YtklpdkpcocnglaaGreatDoor
end Go.Proofs.YtklpdkpcocnglaaGreatDoor

namespace Go.Proofs.YtklpdkpcocnglaaGreatDoor
structure FR where
 s:Bool
 m:Nat
 e:Int
 err:Int
def ZiL:FR:=⟨false,0,0,0⟩
def errR (k:Int):FR:=⟨false,0,0,k⟩
def okE (e:Int):Prop := -1048576≤e∧e≤1048576
instance (e:Int):Decidable (okE e):=inferInstanceAs (Decidable (_∧_))
def ZaU (s:Bool) (n:Nat) (e:Int):FR:=if n=0 then ZiL else if okE (e + tzn n) then ⟨s,oddM n,e + tzn n,0⟩ else errR 2
theorem Zl5 {n:Nat} (s:Bool) (h:0 < n) (j:Nat) (e:Int):ZaU s (n * 2 ^ j) e=ZaU s n (e + j):=by
 unfold ZaU
 have h2:=Nat.mul_pos h (p2 j)
 rw [if_neg (show ¬ n * 2 ^ j=0 by omega),if_neg (show ¬ n=0 by omega),Zgq h,ZmX h]
 have:e + ((tzn n + j:Nat):Int)=e + j + tzn n:=by omega
 rw [this]
def Zbe (s:Bool) (n:Nat) (e:Int) (bits:Nat) (more:Bool):FR :=
 if blen n≤bits then ZaU s n e else ZaU s (ZdO n (blen n - bits - 1) more) (e + (blen n - bits:Nat))
def ZaO (s:Bool) (n d:Nat) (e:Int) (bits:Nat):FR:=if n=0 then ZiL else ZaU s (rndM n d bits) (e + rndK n d bits)
theorem ZgI (s:Bool) (e:Int) (bits:Nat) (more:Bool):Zbe s 0 e bits more=ZiL:=by
 unfold Zbe; rw [if_pos (by rw [ZdY]; omega)]; rfl
theorem Zc1 (s:Bool) (d:Nat) (e:Int) (bits:Nat):ZaO s 0 d e bits=ZiL:=rfl
theorem Zbi (s:Bool) (n:Nat) (e:Int) {bits:Nat} (hb:0 < bits):Zbe s n e bits false=ZaO s n 1 e bits:=by
 rcases Nat.eq_zero_or_pos n with rfl | hn
 ·rw [ZgI,Zc1]
 ·unfold Zbe ZaO
  rw [if_neg (show ¬ n=0 by omega)]
  split
  ·rename_i h
   obtain ⟨h1,h2⟩:=ZnK hn hb h
   rw [h1,h2,Zl5 s hn]
   congr 1; omega
  ·rename_i h
   obtain ⟨j,hj⟩:∃ j,blen n=bits + (j + 1):=⟨blen n - bits - 1,by omega⟩
   have e0:fq n 1 0=n:=by unfold fq fa fb; simp
   have e1:fa n 0 % fb 1 0=0:=by unfold fb; simp [Nat.mod_one]
   obtain ⟨h1,h2⟩:=Zf5 hn (d:=1) (by decide) hb 0 j (by rw [e0]; exact hj)
   rw [e0,e1] at h2
   rw [h1,h2,hj,show bits + (j + 1) - bits - 1=j by omega,show bits + (j + 1) - bits=j + 1 by omega,Int.zero_add]
   rfl
theorem ZjY (s:Bool) {n d:Nat} (e:Int) {bits:Nat} (hn:0 < n) (hd:0 < d) (hb:0 < bits) :
 Zbe s (fq n d (rk0 n d bits - 1)) (e + (rk0 n d bits - 1)) bits (decide (fa n (rk0 n d bits - 1) % fb d (rk0 n d bits - 1)≠0))=ZaO s n d e bits:=by
 obtain ⟨h1,h2⟩:=Zjh hn hd hb
 have h3:=Zf4 n d (rk0 n d bits - 1) 1
 rw [show rk0 n d bits - 1 + (1:Nat)=rk0 n d bits by omega] at h3
 rw [h3,ZdZ] at h1 h2
 generalize hk:rk0 n d bits - 1=k at *
 obtain ⟨j,hj⟩:∃ j,blen (fq n d k)=bits + (j + 1):=⟨blen (fq n d k) - bits - 1,by omega⟩
 obtain ⟨k1,k2⟩:=Zf5 hn hd hb k j hj
 unfold Zbe ZaO
 rw [if_neg (by omega),if_neg (by omega),k1,k2,hj,show bits + (j + 1) - bits - 1=j by omega,show bits + (j + 1) - bits=j + 1 by omega,Int.add_assoc]
def addR (sx:Bool) (xm:Nat) (xe:Int) (sy:Bool) (ym:Nat) (ye:Int) (bits:Nat):FR :=
 ZaO (decide (sg sx (xm * 2 ^ (xe - min xe ye).toNat) + sg sy (ym * 2 ^ (ye - min xe ye).toNat) < 0)) (sg sx (xm * 2 ^ (xe - min xe ye).toNat) + sg sy (ym * 2 ^ (ye - min xe ye).toNat)).natAbs 1 (min xe ye) bits
theorem Zl6 (sx:Bool) (xm:Nat) (xe:Int) (sy:Bool) (ym:Nat) (ye:Int) (bits:Nat):addR sx xm xe sy ym ye bits=addR sy ym ye sx xm xe bits:=by
 unfold addR; rw [Int.min_comm ye xe,Int.add_comm]
theorem Zim {a s r:Nat} (sn:Bool) (e:Int) {bits:Nat} (hb:0 < bits) (ha:bits + 1≤blen a) (hr0:0 < r) (hr:r < 2 ^ s) :
 ZaO sn (a * 2 ^ s + r) 1 e bits=ZaU sn (ZdO a (blen a - bits - 1) true) (e + s + (blen a:Int) - bits):=by
 obtain ⟨h1,h2⟩:=ZnL hb ha hr0 hr
 unfold ZaO
 rw [if_neg (by omega),h1,h2]
 congr 1; omega
theorem Zl7 {s t:Bool} {a b:Nat} (h:b < a):decide (sg s a + sg t b < 0)=s∧(sg s a + sg t b).natAbs=(if s=t then a + b else a - b):=by
 cases s<;>cases t<;>simp [sg]<;>omega
theorem Zk3 (sx:Bool) {xm:Nat} (xe:Int) (sy:Bool) {ym:Nat} (ye:Int) {bits:Nat} (hb:0 < bits) (hx:0 < xm) (hy:0 < ym) {f:Int} (h1:f≤xe) (h2:f≤blen xm + xe - bits - 2) (h3:blen ym + ye≤f) :
 addR sx xm xe sy ym ye bits=addR sx xm xe sy 1 (f - 1) bits:=by
 have hy1:=Zde hy
 have key:∀ (s r:Nat) (E:Int),E=f - s→0 < r→r < 2 ^ s→ZaO (decide (sg sx (xm * 2 ^ (xe - E).toNat) + sg sy r < 0)) (sg sx (xm * 2 ^ (xe - E).toNat) + sg sy r).natAbs 1 E bits =
  ZaU sx (ZdO (if sx=sy then xm * 2 ^ (xe - f).toNat else xm * 2 ^ (xe - f).toNat - 1) (blen (if sx=sy then xm * 2 ^ (xe - f).toNat else xm * 2 ^ (xe - f).toNat - 1) - bits - 1) true) (f + (blen (if sx=sy then xm * 2 ^ (xe - f).toNat else xm * 2 ^ (xe - f).toNat - 1):Int) - bits):=by
  intro s r E Q hr0 hr
  have hxs:xm * 2 ^ (xe - E).toNat=xm * 2 ^ (xe - f).toNat * 2 ^ s:=by
   rw [Nat.mul_assoc,← Nat.pow_add]; congr 2; omega
  have hX:bits + 2≤blen (xm * 2 ^ (xe - f).toNat):=by rw [ZeD hx]; omega
  rw [hxs]
  generalize xm * 2 ^ (xe - f).toNat=X at *
  have hX2:=Zdm.1 (show bits + 1 < blen X by omega)
  have hp:2 ^ bits * 2=2 ^ (bits + 1):=(Nat.pow_succ ..).symm
  have hpb:=p2 bits
  have hps:=p2 s
  have hX1:1≤X:=by omega
  have hge:2 ^ s≤X * 2 ^ s:=by have:=Nat.mul_le_mul_right (2 ^ s) hX1; omega
  obtain ⟨e1,e2⟩:=Zl7 (s:=sx) (t:=sy) (show r < X * 2 ^ s by omega)
  rw [e1,e2]
  by_cases hs:sx=sy
  ·rw [if_pos hs,if_pos hs,Zim sx E hb (by omega) hr0 hr]
   congr 1; omega
  ·rw [if_neg hs,if_neg hs]
   have e3:X * 2 ^ s - r=(X - 1) * 2 ^ s + (2 ^ s - r):=by rw [Nat.sub_mul,Nat.one_mul]; omega
   have hlen:bits + 1≤blen (X - 1):=Zdm.2 (by omega)
   rw [e3,Zim sx E hb hlen (by omega) (by omega)]
   congr 1; omega
 have hye:ye < f:=by omega
 obtain ⟨s,hs⟩:=Int.eq_ofNat_of_zero_le (show 0≤f - ye by omega)
 have k1:=key s ym ye (by omega) hy (Nat.lt_of_lt_of_le (Zc0 ym) (Nat.pow_le_pow_right (by decide) (by omega)))
 have k2:=key 1 1 (f - 1) (by omega) (by decide) (by decide)
 unfold addR
 rw [show min xe ye=ye by omega,show min xe (f - 1)=f - 1 by omega,show (ye - ye).toNat=0 by omega,show (f - 1 - (f - 1)).toNat=0 by omega]
 simp only [Nat.pow_zero,Nat.mul_one]
 rw [k1,k2]
end Go.Proofs.YtklpdkpcocnglaaGreatDoor

namespace Go.Proofs.YtklpdkpcocnglaaGreatDoor
open Go.RowKit
def shNb (r:FR) (x:ShN):Value:=.tuple #[.agg #[.bool r.s, .slice x.1 x.2.1 x.2.2, .int .i64 r.e], .int .i64 r.err]
def ZaN (w:World) (r:FR) (e:Ending) (w':World):Prop:=∃ x:ShN,e=.returned (shNb r x)∧Zae w' (ZaJ x) r.m∧Ext w w'
theorem ZaK {w w':World} {e:Ending} {r:FR} (h:ZaN w r e w'):Zci (shNb r) (fun x w=>Zae w (ZaJ x) r.m) w e w':=by
 obtain ⟨x,rfl,hI,Q⟩:=h
 exact ⟨x,rfl,Q,boxn Q (fun S w'' hS hF=>hI.nrb hS hF)⟩
theorem Zk4 (s:Bool) (e:Int):ZaU s 0 e=⟨false,0,0,0⟩:=rfl
theorem Zfs {n:Nat} (s:Bool) {e:Int} (h0:0 < n) (h1:¬ e + tzn n < -1048576) (h2:¬ e + tzn n > 1048576):ZaU s n e=⟨s,oddM n,e + tzn n,0⟩:=by
 unfold ZaU
 rw [if_neg (by omega),if_pos ⟨by omega,by omega⟩]
theorem Zf8 {n:Nat} (s:Bool) {e:Int} (h0:0 < n) (h:e + tzn n < -1048576∨e + tzn n > 1048576):ZaU s n e=⟨false,0,0,2⟩:=by
 unfold ZaU
 rw [if_neg (by omega),if_neg (by rintro ⟨h1,h2⟩; omega)]; rfl
theorem Zc2 (n:Nat):blen n≤64 * wl n:=by
 rw [ZbD,Nat.pow_mul]
 have:=Zgh n
 rwa [Zal] at this
theorem Zow {n:Nat} (h:wl n≤4294967296):tzn n≤274877906944:=by
 rcases Nat.eq_zero_or_pos n with rfl | h0
 ·rw [tzn,dif_pos (Or.inl rfl)]; omega
 ·obtain ⟨h1,h2⟩:=Zdf h0
  have h3:blen n=blen (oddM n) + tzn n:=by
   have:=ZeD (show 0 < oddM n by omega) (tzn n)
   rwa [← h2] at this
  have:=Zc2 n
  omega
theorem Zjm {n:Nat} (h:wl n≤4294967296):blen n≤274877906944:=by have:=Zc2 n; omega
theorem Zd8 {s:Bool} {n bits:Nat} {e:Int} {m:Bool} (h:blen n≤bits):Zbe s n e bits m=ZaU s n e:=by unfold Zbe; rw [if_pos h]
theorem Zdo {s:Bool} {n bits j:Nat} {e:Int} {m:Bool} (h:blen n=bits + (j + 1)) (h1:n / 2 ^ j % 2=1) (h2:tzn n < j∨n / 2 ^ (j + 1) % 2=1∨m=true) (h0:0 < n) :
 Zbe s n e bits m=ZaU s (n / 2 ^ (j + 1) + 1) (e + ((j + 1:Nat):Int)):=by
 unfold Zbe ZdO
 rw [if_neg (by omega),h,show bits + (j + 1) - bits - 1=j by omega,show bits + (j + 1) - bits=j + 1 by omega,if_pos ⟨h1,by rw [← ZlZ h0]; exact h2⟩]
theorem ZdP {s:Bool} {n bits j:Nat} {e:Int} {m:Bool} (h:blen n=bits + (j + 1)) (h0:0 < n) (h1:¬ (n / 2 ^ j % 2=1∧(tzn n < j∨n / 2 ^ (j + 1) % 2=1∨m=true))) :
 Zbe s n e bits m=ZaU s (n / 2 ^ (j + 1)) (e + ((j + 1:Nat):Int)):=by
 unfold Zbe ZdO
 rw [if_neg (by omega),h,show bits + (j + 1) - bits - 1=j by omega,show bits + (j + 1) - bits=j + 1 by omega,if_neg (by rw [← ZlZ h0]; exact h1)]
theorem Zox:Trim [1]:=by
 intro k hk
 have:k=0:=by simp at hk; omega
 subst this
 simp
theorem wl_1:wl 1≤4294967296:=Nat.le_trans (ZdT.2 (by rw [Zal]; decide)) (by decide)
theorem ZdL {w:World} {b:Nat} (h:Blk 94 w b #[.int .u64 1]):Zae w (.slice (some ⟨b,0,none⟩) 1 1) 1 :=
 ⟨_,[1],1,rfl,Nat.le_refl _,(Blk.own1 (r:=1) h).shows0,Dig.nil.cons (by rw [Zal]; decide),Zox,rfl⟩
def Zft (w:World) (Q:Nat) (v:Value):Prop:=Q < w.heap.size∧w.cell? ⟨Q,0,none⟩=some v
theorem Zft.ext {w w':World} {Q:Nat} {v:Value} (h:Zft w Q v) (hf:Ext w w'):Zft w' Q v:=⟨Nat.lt_of_lt_of_le h.1 hf.size,(hf.cell (p:=⟨Q,0,none⟩) h.1 (fun f=>f)).trans h.2⟩
set_option maxHeartbeats 1000000 in
theorem Zl8 (Q:Nat) (A:Option Addr) (l c:Nat) (w:World) (h:Zft w Q (.slice A l c)):Calls Tryz.prog 143 #[.pointer (some ⟨Q,0,none⟩)] w (RetV w (.bool (decide (0 < l)))):=by
 have hc:=h.2
 go_enter Tryz.func143,Tryz.ntmps143
 go_wp2
 go_ret
 exact ⟨congrArg Ending.returned (congrArg Value.bool (decide_eq_decide.2 (by omega))),Fr.refl _ _⟩
set_option maxHeartbeats 1000000 in
theorem Zl9 (w:World):Calls Tryz.prog 125 #[] w (RetV w (.bool false)):=by
 go_enter Tryz.func125,Tryz.ntmps125
 go_wp2
 go_ret
 exact ⟨rfl,Fr.refl _ _⟩
theorem ZbE (s:Bool) (A:Option Addr) (l c n:Nat) (e:Int) (w:World) (hg:Glob w) (hN:Zae w (.slice A l c) n) (hw:wl n≤4294967296) (he1 : -1152921504606846976≤e) (he2:e≤1152921504606846976) :
 Calls Tryz.prog 118 #[.bool s, .slice A l c, .int .i64 e] w (ZaN w (ZaU s n e)):=by
 refine Zau (Φ:=fun w=>(Glob w∧Zae w (.slice A l c) (n))) Tryz.func118 rfl (by kernel_rfl) (fun w' hf=>⟨hg.ext hf,hN.ext hf⟩) ?_
 refine Zac ?_
 have hln:=hN.len0
 have htz:=Zow hw
 have hzz:=@ZbJ n
 refine Zaa (xq 2 [(6, .p 6 0),(7, .v (.int .i64 0))] [(6,79,[.v (.bool false), .v (.slice none 0 0), .v (.int .i64 0)])] ?_)
 refine xe (Zab (Zac (Zac (Zaa (xq 3 [(11, .v (.bool ((((l:Nat):Int):Int) == 0)))] [] ?_)))))
 refine xe (Zab ?_)
 refine Zas (((((l:Nat):Int):Int) == 0)) (by kernel_rfl) (fun hb10=>?_) (fun hb10=>?_)
 ·have hb10':=beq_iff_eq.1 hb10
  have h0:n=0:=by omega
  refine Zac (Zaa (xq 3 [(7, .v (.int .i64 0))] [] ?_))
  refine xe (Zab (Zai (Zah ?_)))
  refine Zag (v:=.tuple #[.agg #[.bool false, .slice none 0 0, .int .i64 0], .int .i64 0]) (by kernel_rfl) (fun w' R Q=>?_)
  rw [h0,Zk4]
  exact ⟨(none,0,0),rfl,Zae.zero _,R⟩
 ·have hb10':=Za5 hb10
  have h0:0 < n:=by omega
  refine Zam (Zab (Zac (Zaa (xq 1 [eS1 13 A l c] [] ?_))))
  refine xqc 157 [.slice A l c] 14 (fun _:Unit=>.int .i64 ((tzn n:Nat):Int)) _ (fun w R Q=>(Zfq Q.1 Q.2 hw h0).mono (fun _ _ h=>Zak h rfl)) (fun xx=>?_)
  refine xq 1 [(8, .v (.int .i64 ((tzn n:Nat):Int)))] [] ?_
  refine xe (Zab (Zac (Zaa (xq 3 [(17, .v (.int .i64 (IntKind.i64.wrap (e + ((tzn n:Nat):Int)))))] [] ?_))))
  rw [show IntKind.i64.wrap (e + ((tzn n:Nat):Int))=e + ((tzn n:Nat):Int) from by rw [IntKind.wrap_i64]; omega]
  refine xq 1 [(2, .v (.int .i64 (e + ((tzn n:Nat):Int))))] [] ?_
  refine xe (Zab (Zac (Zac (Zaa (xq 3 [(20, .v (.bool (decide ((e + ((tzn n:Nat):Int)) < (-1048576)))))] [] ?_)))))
  rcases bl2 ((decide ((e + ((tzn n:Nat):Int)) < (-1048576)))) with hb11 | hb11
  ·rw [hb11]
   have hb11':=of_decide_eq_true hb11
   refine xq 3 [(23, .v (.bool true))] [] ?_
   refine xe (Zab (xa (Zac (Zaa (xq 3 [(7, .v (.int .i64 2))] [] ?_)))))
   refine xe (Zab (Zai (Zah ?_)))
   refine Zag (v:=.tuple #[.agg #[.bool false, .slice none 0 0, .int .i64 0], .int .i64 2]) (by kernel_rfl) (fun w' R Q=>?_)
   rw [Zf8 s h0 (by omega)]
   exact ⟨(none,0,0),rfl,Zae.zero _,R⟩
  ·rw [hb11]
   have hb11':=of_decide_eq_false hb11
   refine xq 3 [(23, .v (.bool (decide ((e + ((tzn n:Nat):Int)) > 1048576))))] [] ?_
   refine xe (Zab ?_)
   refine Zas ((decide ((e + ((tzn n:Nat):Int)) > 1048576))) (by kernel_rfl) (fun hb12=>?_) (fun hb12=>?_)
   ·have hb12':=of_decide_eq_true hb12
    refine Zac (Zaa (xq 3 [(7, .v (.int .i64 2))] [] ?_))
    refine xe (Zab (Zai (Zah ?_)))
    refine Zag (v:=.tuple #[.agg #[.bool false, .slice none 0 0, .int .i64 0], .int .i64 2]) (by kernel_rfl) (fun w' R Q=>?_)
    rw [Zf8 s h0 (by omega)]
    exact ⟨(none,0,0),rfl,Zae.zero _,R⟩
   ·have hb12':=of_decide_eq_false hb12
    refine Zam (Zab (Zac (Zaa (xq 3 [(25, .v (.bool s)),eS1 26 A l c,(27, .v (.int .i64 ((tzn n:Nat):Int)))] [] ?_))))
    refine xqc 128 [.slice A l c, .int .i64 ((tzn n:Nat):Int)] 28 ZaJ _ (fun w R Q=>(ZeH (tzn n) Q.1.2 hw (by omega)).mono (fun _ _=>Zay)) (fun xx=>?_)
    obtain ⟨A13,l13,c13⟩:=xx
    refine xq 4 [(7, .v (.int .i64 0))] [(6,79,[.v (.bool s), .v (.slice A13 l13 c13), .v (.int .i64 (e + ((tzn n:Nat):Int)))])] ?_
    refine xe (Zab (Zai ?_))
    refine Zag (v:=.tuple #[.agg #[.bool s, .slice A13 l13 c13, .int .i64 (e + ((tzn n:Nat):Int))], .int .i64 0]) (by kernel_rfl) (fun w' R Q=>?_)
    rw [Zfs s h0 (by omega) (by omega)]
    exact ⟨(A13,l13,c13),rfl,Q.2,R⟩
theorem ZbX (s:Bool) (A:Option Addr) (l c n:Nat) (e:Int) (bits:Nat) (w:World) (hg:Glob w) (hN:Zae w (.slice A l c) n) (hw:wl n≤4294967296) (he1 : -576460752303423488≤e) (he2:e≤576460752303423488) (hb:bits≤4294967296) :
 Calls Tryz.prog 123 #[.bool s, .slice A l c, .int .i64 e, .int .i64 ((bits:Nat):Int), .func (.func 125) #[] #[]] w (ZaN w (Zbe s n e bits false)):=by
 refine Zau (Φ:=fun w=>(Glob w∧Zae w (.slice A l c) (n))) Tryz.func123 rfl (by kernel_rfl) (fun w' hf=>⟨hg.ext hf,hN.ext hf⟩) ?_
 refine Zac ?_
 have hbw:=Zjm hw
 by_cases hfew:blen n≤bits
 ·obtain ⟨k,hk⟩:∃ k,bits=blen n + k:=⟨bits - blen n,by omega⟩
  refine Zaa (xq 2 [(10, .p 10 0),(11, .v (.int .i64 0))] [(10,79,[.v (.bool false), .v (.slice none 0 0), .v (.int .i64 0)])] ?_)
  refine xe (Zab (Zac (Zaa (xq 1 [eS1 14 A l c] [] ?_))))
  refine xqc 65 [.slice A l c] 15 (fun _:Unit=>.int .i64 ((blen n:Nat):Int)) _ (fun w R Q=>(ZbK Q.2 hw).mono (fun _ _ h=>Zak h rfl)) (fun xx=>?_)
  refine xq 2 [(17, .v (.int .i64 (IntKind.i64.wrap (((blen n:Nat):Int) - ((bits:Nat):Int)))))] [] ?_
  rw [show IntKind.i64.wrap (((blen n:Nat):Int) - ((bits:Nat):Int)) = -((k:Nat):Int) from by rw [IntKind.wrap_i64]; omega]
  refine xq 1 [(12, .v (.int .i64 (-((k:Nat):Int))))] [] ?_
  refine xe (Zab (Zac (Zac (Zaa (xq 2 [(19, .v (.bool (decide ((-((k:Nat):Int))≤0))))] [] ?_)))))
  rw [show decide (-((k:Nat):Int)≤0)=true from decide_eq_true (by omega)]
  refine xe (Zab (xa (Zac (Zaa (xq 3 [(20, .v (.bool s)),eS1 21 A l c,(22, .v (.int .i64 e))] [] ?_)))))
  obtain ⟨r10,hr10⟩:∃ r,ZaU s (n) (e)=r:=⟨_,rfl⟩
  refine xqc 118 [.bool s, .slice A l c, .int .i64 e] 23 (shNb r10) _ (fun w R Q=>((show Calls _ _ _ _ (ZaN w r10) from by rw [← hr10]; exact ZbE s _ _ _ _ _ _ Q.1.1 Q.1.2 hw (by omega) (by omega))).mono (fun _ _=>ZaK)) (fun xx=>?_)
  obtain ⟨A10,l10,c10⟩:=xx
  refine xq 4 [(11, .v (.int .i64 r10.err))] [(10,79,[.v (.bool r10.s), .v (.slice A10 l10 c10), .v (.int .i64 r10.e)])] ?_
  refine xe (Zab (Zai (Zah ?_)))
  refine Zag (v:=.tuple #[.agg #[.bool r10.s, .slice A10 l10 c10, .int .i64 r10.e], .int .i64 r10.err]) (by kernel_rfl) (fun w' R Q=>?_)
  rw [Zd8 hfew,hr10]
  exact ⟨(A10,l10,c10),rfl,Q.2,R⟩
 ·obtain ⟨j,hj⟩:∃ j,blen n=bits + (j + 1):=⟨blen n - bits - 1,by omega⟩
  have h0:0 < n:=Nat.pos_of_ne_zero (fun e=>by rw [e,ZdY] at hfew; omega)
  have hw2:wl (n / 2 ^ (j + 1))≤4294967296:=Nat.le_trans (Zbc (Nat.div_le_self _ _)) hw
  have hw3:wl (n / 2 ^ (j + 1) + 1)≤4294967296:=Nat.le_trans (Zbc (Nat.div_lt_self h0 (Nat.one_lt_two_pow (by omega)))) hw
  obtain ⟨b1,hb1⟩:∃ b:Bool,decide (n / 2 ^ j % 2=1)=b:=⟨_,rfl⟩
  obtain ⟨b2,hb2⟩:∃ b:Bool,decide (n / 2 ^ (j + 1) / 2 ^ 0 % 2=1)=b:=⟨_,rfl⟩
  obtain ⟨b3,hb3⟩:∃ b:Bool,false=b:=⟨_,rfl⟩
  refine Zaa (xq 2 [(10, .p 10 0),(11, .v (.int .i64 0))] [(10,79,[.v (.bool false), .v (.slice none 0 0), .v (.int .i64 0)])] ?_)
  refine xe (Zab (Zac (Zaa (xq 1 [eS1 14 A l c] [] ?_))))
  refine xqc 65 [.slice A l c] 15 (fun _:Unit=>.int .i64 ((blen n:Nat):Int)) _ (fun w R Q=>(ZbK Q.2 hw).mono (fun _ _ h=>Zak h rfl)) (fun xx=>?_)
  refine xq 2 [(17, .v (.int .i64 (IntKind.i64.wrap (((blen n:Nat):Int) - ((bits:Nat):Int)))))] [] ?_
  rw [show IntKind.i64.wrap (((blen n:Nat):Int) - ((bits:Nat):Int))=((j + 1:Nat):Int) from by rw [IntKind.wrap_i64]; omega]
  refine xq 1 [(12, .v (.int .i64 ((j + 1:Nat):Int)))] [] ?_
  refine xe (Zab (Zac (Zac (Zaa (xq 2 [(19, .v (.bool (decide (((j + 1:Nat):Int)≤0))))] [] ?_)))))
  rw [show decide (((j + 1:Nat):Int)≤0)=false from decide_eq_false (by omega)]
  refine xe (Zab (xb (Zam (Zab (Zac (Zaa (xq 2 [eS1 26 A l c,(27, .v (.int .i64 ((j + 1:Nat):Int)))] [] ?_)))))))
  refine xqc 128 [.slice A l c, .int .i64 ((j + 1:Nat):Int)] 28 ZaJ _ (fun w R Q=>(ZeH (j + 1) Q.1.2 hw (by omega)).mono (fun _ _=>Zay)) (fun xx=>?_)
  obtain ⟨A11,l11,c11⟩:=xx
  refine xq 1 [eS1 13 A11 l11 c11] [] ?_
  refine xe (Zab (Zac (Zac (Zaa (xq 3 [eS1 29 A l c,(31, .v (.int .i64 (IntKind.i64.wrap (((j + 1:Nat):Int) - 1))))] [] ?_)))))
  rw [show IntKind.i64.wrap (((j + 1:Nat):Int) - 1)=((j:Nat):Int) from by rw [IntKind.wrap_i64]; omega]
  refine xqc 158 [.slice A l c, .int .i64 ((j:Nat):Int)] 32 (fun _:Unit=>.bool b1) _ (fun w R Q=>((show Calls _ _ _ _ (RetV w (.bool b1)) from by rw [← hb1]; exact Zfr (j) Q.1.1.2 (by omega))).mono (fun _ _ h=>Zak h rfl)) (fun xx=>?_)
  refine xq 1 [(33, .v (.bool b1))] [] ?_
  rcases bl2 (b1) with hb12 | hb12
  ·rw [hb12]
   have k1:=of_decide_eq_true (hb1.trans hb12)
   refine xq 1 [eS1 34 A l c] [] ?_
   refine xqc 157 [.slice A l c] 35 (fun _:Unit=>.int .i64 ((tzn n:Nat):Int)) _ (fun w R Q=>(Zfq Q.1.1.1.1 Q.1.1.1.2 hw h0).mono (fun _ _ h=>Zak h rfl)) (fun xx=>?_)
   refine xq 2 [(37, .v (.int .i64 (IntKind.i64.wrap (((j + 1:Nat):Int) - 1))))] [] ?_
   rw [show IntKind.i64.wrap (((j + 1:Nat):Int) - 1)=((j:Nat):Int) from by rw [IntKind.wrap_i64]; omega]
   refine xq 2 [(39, .v (.bool (decide (((tzn n:Nat):Int) < ((j:Nat):Int)))))] [] ?_
   rcases bl2 ((decide (((tzn n:Nat):Int) < ((j:Nat):Int)))) with hb13 | hb13
   ·rw [hb13]
    have hb13':=of_decide_eq_true hb13
    have k4:tzn n < j:=by omega
    refine xr 8 [(0, .v (.bool s)),(2, .v (.int .i64 e)),(10, .p 10 0),(11, .v (.int .i64 0)),(12, .v (.int .i64 ((j + 1:Nat):Int))),eS1 13 A11 l11 c11,(47, .v (.bool true))] [(10,79,[.v (.bool false), .v (.slice none 0 0), .v (.int .i64 0)])] ?_
    refine xe (Zab (xa (Zaa (xq 1 [eS1 48 A11 l11 c11] [] ?_))))
    refine ZcB (d:=49) (fun zb:Nat=>.slice (some ⟨zb,0,none⟩) 1 1) (fun zb zw=>Blk 94 zw zb #[.int .u64 1]) (by kernel_rfl) (by kernel_rfl) (by kernel_rfl) (by kernel_rfl) (by kernel_rfl) (by kernel_rfl) (fun w R Q=>Zb0 (t:=77) (e:=94) (n:=1) (sz:=1) (z:=.int .u64 0) (parts:=#[(0,Operand.const (Value.int IntKind.u64 1))]) (by kernel_rfl) (by kernel_rfl) (by kernel_rfl) (by kernel_rfl) (by kernel_rfl) (by kernel_rfl)) (fun b14=>?_)
    refine xr 0 [(0, .v (.bool s)),(2, .v (.int .i64 e)),(10, .p 10 0),(11, .v (.int .i64 0)),(12, .v (.int .i64 ((j + 1:Nat):Int))),eS1 13 A11 l11 c11,eS1 48 A11 l11 c11,eS1 49 (some ⟨b14,0,none⟩) 1 1] [(10,79,[.v (.bool false), .v (.slice none 0 0), .v (.int .i64 0)])] ?_
    refine xqc 126 [.slice A11 l11 c11, .slice (some ⟨b14,0,none⟩) 1 1] 50 ZaJ _ (fun w R Q=>(Zcq Q.1.1.1.2 (ZdL Q.2) hw2 wl_1).mono (fun _ _=>Zay)) (fun xx=>?_)
    obtain ⟨A15,l15,c15⟩:=xx
    refine xq 1 [eS1 13 A15 l15 c15] [] ?_
    refine xe (Zab (Zac (Zaa (xq 5 [(51, .v (.bool s)),eS1 52 A15 l15 c15,(55, .v (.int .i64 (IntKind.i64.wrap (e + ((j + 1:Nat):Int)))))] [] ?_))))
    rw [show IntKind.i64.wrap (e + ((j + 1:Nat):Int))=e + ((j + 1:Nat):Int) from by rw [IntKind.wrap_i64]; omega]
    obtain ⟨r16,hr16⟩:∃ r,ZaU s (n / 2 ^ (j + 1) + 1) ((e + ((j + 1:Nat):Int)))=r:=⟨_,rfl⟩
    refine xqc 118 [.bool s, .slice A15 l15 c15, .int .i64 (e + ((j + 1:Nat):Int))] 56 (shNb r16) _ (fun w R Q=>((show Calls _ _ _ _ (ZaN w r16) from by rw [← hr16]; exact ZbE s _ _ _ _ _ _ Q.1.1.1.1.1.1.1 Q.2 hw3 (by omega) (by omega))).mono (fun _ _=>ZaK)) (fun xx=>?_)
    obtain ⟨A16,l16,c16⟩:=xx
    refine xq 4 [(11, .v (.int .i64 r16.err))] [(10,79,[.v (.bool r16.s), .v (.slice A16 l16 c16), .v (.int .i64 r16.e)])] ?_
    refine xe (Zab (Zai ?_))
    refine Zag (v:=.tuple #[.agg #[.bool r16.s, .slice A16 l16 c16, .int .i64 r16.e], .int .i64 r16.err]) (by kernel_rfl) (fun w' R Q=>?_)
    rw [Zdo hj k1 (Or.inl k4) h0,hr16]
    exact ⟨(A16,l16,c16),rfl,Q.2,R⟩
   ·rw [hb13]
    have hb13':=of_decide_eq_false hb13
    have k4:¬ tzn n < j:=by omega
    refine xr 1 [(0, .v (.bool s)),(2, .v (.int .i64 e)),(4, .v (.func (.func 125) #[] #[])),(10, .p 10 0),(11, .v (.int .i64 0)),(12, .v (.int .i64 ((j + 1:Nat):Int))),eS1 13 A11 l11 c11,(33, .v (.bool true)),(39, .v (.bool false)),eS1 40 A11 l11 c11] [(10,79,[.v (.bool false), .v (.slice none 0 0), .v (.int .i64 0)])] ?_
    refine xqc 158 [.slice A11 l11 c11, .int .i64 0] 41 (fun _:Unit=>.bool b2) _ (fun w R Q=>((show Calls _ _ _ _ (RetV w (.bool b2)) from by rw [← hb2]; exact Zfr (0) Q.1.1.2 (by omega))).mono (fun _ _ h=>Zak h rfl)) (fun xx=>?_)
    refine xq 2 [(43, .v (.bool b2))] [] ?_
    rcases bl2 (b2) with hb17 | hb17
    ·rw [hb17]
     have k2:=of_decide_eq_true (hb2.trans hb17)
     rw [Nat.pow_zero,Nat.div_one] at k2
     refine xq 4 [(47, .v (.bool true))] [] ?_
     refine xe (Zab (xa (Zaa (xq 1 [eS1 48 A11 l11 c11] [] ?_))))
     refine ZcB (d:=49) (fun zb:Nat=>.slice (some ⟨zb,0,none⟩) 1 1) (fun zb zw=>Blk 94 zw zb #[.int .u64 1]) (by kernel_rfl) (by kernel_rfl) (by kernel_rfl) (by kernel_rfl) (by kernel_rfl) (by kernel_rfl) (fun w R Q=>Zb0 (t:=77) (e:=94) (n:=1) (sz:=1) (z:=.int .u64 0) (parts:=#[(0,Operand.const (Value.int IntKind.u64 1))]) (by kernel_rfl) (by kernel_rfl) (by kernel_rfl) (by kernel_rfl) (by kernel_rfl) (by kernel_rfl)) (fun b18=>?_)
     refine xr 0 [(0, .v (.bool s)),(2, .v (.int .i64 e)),(10, .p 10 0),(11, .v (.int .i64 0)),(12, .v (.int .i64 ((j + 1:Nat):Int))),eS1 13 A11 l11 c11,eS1 48 A11 l11 c11,eS1 49 (some ⟨b18,0,none⟩) 1 1] [(10,79,[.v (.bool false), .v (.slice none 0 0), .v (.int .i64 0)])] ?_
     refine xqc 126 [.slice A11 l11 c11, .slice (some ⟨b18,0,none⟩) 1 1] 50 ZaJ _ (fun w R Q=>(Zcq Q.1.1.1.1.2 (ZdL Q.2) hw2 wl_1).mono (fun _ _=>Zay)) (fun xx=>?_)
     obtain ⟨A19,l19,c19⟩:=xx
     refine xq 1 [eS1 13 A19 l19 c19] [] ?_
     refine xe (Zab (Zac (Zaa (xq 5 [(51, .v (.bool s)),eS1 52 A19 l19 c19,(55, .v (.int .i64 (IntKind.i64.wrap (e + ((j + 1:Nat):Int)))))] [] ?_))))
     rw [show IntKind.i64.wrap (e + ((j + 1:Nat):Int))=e + ((j + 1:Nat):Int) from by rw [IntKind.wrap_i64]; omega]
     obtain ⟨r20,hr20⟩:∃ r,ZaU s (n / 2 ^ (j + 1) + 1) ((e + ((j + 1:Nat):Int)))=r:=⟨_,rfl⟩
     refine xqc 118 [.bool s, .slice A19 l19 c19, .int .i64 (e + ((j + 1:Nat):Int))] 56 (shNb r20) _ (fun w R Q=>((show Calls _ _ _ _ (ZaN w r20) from by rw [← hr20]; exact ZbE s _ _ _ _ _ _ Q.1.1.1.1.1.1.1.1 Q.2 hw3 (by omega) (by omega))).mono (fun _ _=>ZaK)) (fun xx=>?_)
     obtain ⟨A20,l20,c20⟩:=xx
     refine xq 4 [(11, .v (.int .i64 r20.err))] [(10,79,[.v (.bool r20.s), .v (.slice A20 l20 c20), .v (.int .i64 r20.e)])] ?_
     refine xe (Zab (Zai ?_))
     refine Zag (v:=.tuple #[.agg #[.bool r20.s, .slice A20 l20 c20, .int .i64 r20.e], .int .i64 r20.err]) (by kernel_rfl) (fun w' R Q=>?_)
     rw [Zdo hj k1 (Or.inr (Or.inl k2)) h0,hr20]
     exact ⟨(A20,l20,c20),rfl,Q.2,R⟩
    ·rw [hb17]
     have k2:=of_decide_eq_false (hb2.trans hb17)
     rw [Nat.pow_zero,Nat.div_one] at k2
     refine xq 1 [(44, .v (.func (.func 125) #[] #[]))] [] ?_
     refine xqc 125 [] 45 (fun _:Unit=>.bool b3) _ (fun w R Q=>((show Calls _ _ _ _ (RetV w (.bool b3)) from by rw [← hb3]; exact Zl9 _)).mono (fun _ _ h=>Zak h rfl)) (fun xx=>?_)
     refine xq 2 [(47, .v (.bool b3))] [] ?_
     refine xe (Zab ?_)
     refine Zas (b3) (by kernel_rfl) (fun hb21=>?_) (fun hb21=>?_)
     ·have k3:=hb3.trans hb21
      refine Zaa (xq 1 [eS1 48 A11 l11 c11] [] ?_)
      refine ZcB (d:=49) (fun zb:Nat=>.slice (some ⟨zb,0,none⟩) 1 1) (fun zb zw=>Blk 94 zw zb #[.int .u64 1]) (by kernel_rfl) (by kernel_rfl) (by kernel_rfl) (by kernel_rfl) (by kernel_rfl) (by kernel_rfl) (fun w R Q=>Zb0 (t:=77) (e:=94) (n:=1) (sz:=1) (z:=.int .u64 0) (parts:=#[(0,Operand.const (Value.int IntKind.u64 1))]) (by kernel_rfl) (by kernel_rfl) (by kernel_rfl) (by kernel_rfl) (by kernel_rfl) (by kernel_rfl)) (fun b22=>?_)
      refine xr 0 [(0, .v (.bool s)),(2, .v (.int .i64 e)),(10, .p 10 0),(11, .v (.int .i64 0)),(12, .v (.int .i64 ((j + 1:Nat):Int))),eS1 13 A11 l11 c11,eS1 48 A11 l11 c11,eS1 49 (some ⟨b22,0,none⟩) 1 1] [(10,79,[.v (.bool false), .v (.slice none 0 0), .v (.int .i64 0)])] ?_
      refine xqc 126 [.slice A11 l11 c11, .slice (some ⟨b22,0,none⟩) 1 1] 50 ZaJ _ (fun w R Q=>(Zcq Q.1.1.1.1.1.2 (ZdL Q.2) hw2 wl_1).mono (fun _ _=>Zay)) (fun xx=>?_)
      obtain ⟨A23,l23,c23⟩:=xx
      refine xq 1 [eS1 13 A23 l23 c23] [] ?_
      refine xe (Zab (Zac (Zaa (xq 5 [(51, .v (.bool s)),eS1 52 A23 l23 c23,(55, .v (.int .i64 (IntKind.i64.wrap (e + ((j + 1:Nat):Int)))))] [] ?_))))
      rw [show IntKind.i64.wrap (e + ((j + 1:Nat):Int))=e + ((j + 1:Nat):Int) from by rw [IntKind.wrap_i64]; omega]
      obtain ⟨r24,hr24⟩:∃ r,ZaU s (n / 2 ^ (j + 1) + 1) ((e + ((j + 1:Nat):Int)))=r:=⟨_,rfl⟩
      refine xqc 118 [.bool s, .slice A23 l23 c23, .int .i64 (e + ((j + 1:Nat):Int))] 56 (shNb r24) _ (fun w R Q=>((show Calls _ _ _ _ (ZaN w r24) from by rw [← hr24]; exact ZbE s _ _ _ _ _ _ Q.1.1.1.1.1.1.1.1.1 Q.2 hw3 (by omega) (by omega))).mono (fun _ _=>ZaK)) (fun xx=>?_)
      obtain ⟨A24,l24,c24⟩:=xx
      refine xq 4 [(11, .v (.int .i64 r24.err))] [(10,79,[.v (.bool r24.s), .v (.slice A24 l24 c24), .v (.int .i64 r24.e)])] ?_
      refine xe (Zab (Zai ?_))
      refine Zag (v:=.tuple #[.agg #[.bool r24.s, .slice A24 l24 c24, .int .i64 r24.e], .int .i64 r24.err]) (by kernel_rfl) (fun w' R Q=>?_)
      rw [Zdo hj k1 (Or.inr (Or.inr k3)) h0,hr24]
      exact ⟨(A24,l24,c24),rfl,Q.2,R⟩
     ·have k3:=hb3.trans hb21
      refine Zam (Zab (Zac (Zaa (xq 5 [(51, .v (.bool s)),eS1 52 A11 l11 c11,(55, .v (.int .i64 (IntKind.i64.wrap (e + ((j + 1:Nat):Int)))))] [] ?_))))
      rw [show IntKind.i64.wrap (e + ((j + 1:Nat):Int))=e + ((j + 1:Nat):Int) from by rw [IntKind.wrap_i64]; omega]
      obtain ⟨r25,hr25⟩:∃ r,ZaU s (n / 2 ^ (j + 1)) ((e + ((j + 1:Nat):Int)))=r:=⟨_,rfl⟩
      refine xqc 118 [.bool s, .slice A11 l11 c11, .int .i64 (e + ((j + 1:Nat):Int))] 56 (shNb r25) _ (fun w R Q=>((show Calls _ _ _ _ (ZaN w r25) from by rw [← hr25]; exact ZbE s _ _ _ _ _ _ Q.1.1.1.1.1.1.1 Q.1.1.1.1.2 hw2 (by omega) (by omega))).mono (fun _ _=>ZaK)) (fun xx=>?_)
      obtain ⟨A25,l25,c25⟩:=xx
      refine xq 4 [(11, .v (.int .i64 r25.err))] [(10,79,[.v (.bool r25.s), .v (.slice A25 l25 c25), .v (.int .i64 r25.e)])] ?_
      refine xe (Zab (Zai ?_))
      refine Zag (v:=.tuple #[.agg #[.bool r25.s, .slice A25 l25 c25, .int .i64 r25.e], .int .i64 r25.err]) (by kernel_rfl) (fun w' R Q=>?_)
      rw [ZdP hj h0 (fun h=>by rcases h.2 with h | h | h; exact k4 h; exact k2 h; rw [k3] at h; cases h),hr25]
      exact ⟨(A25,l25,c25),rfl,Q.2,R⟩
  ·rw [hb12]
   have k1:=of_decide_eq_false (hb1.trans hb12)
   refine xq 14 [(47, .v (.bool false))] [] ?_
   refine xe (Zab (xb (Zam (Zab (Zac (Zaa (xq 5 [(51, .v (.bool s)),eS1 52 A11 l11 c11,(55, .v (.int .i64 (IntKind.i64.wrap (e + ((j + 1:Nat):Int)))))] [] ?_)))))))
   rw [show IntKind.i64.wrap (e + ((j + 1:Nat):Int))=e + ((j + 1:Nat):Int) from by rw [IntKind.wrap_i64]; omega]
   obtain ⟨r26,hr26⟩:∃ r,ZaU s (n / 2 ^ (j + 1)) ((e + ((j + 1:Nat):Int)))=r:=⟨_,rfl⟩
   refine xqc 118 [.bool s, .slice A11 l11 c11, .int .i64 (e + ((j + 1:Nat):Int))] 56 (shNb r26) _ (fun w R Q=>((show Calls _ _ _ _ (ZaN w r26) from by rw [← hr26]; exact ZbE s _ _ _ _ _ _ Q.1.1.1.1 Q.1.2 hw2 (by omega) (by omega))).mono (fun _ _=>ZaK)) (fun xx=>?_)
   obtain ⟨A26,l26,c26⟩:=xx
   refine xq 4 [(11, .v (.int .i64 r26.err))] [(10,79,[.v (.bool r26.s), .v (.slice A26 l26 c26), .v (.int .i64 r26.e)])] ?_
   refine xe (Zab (Zai ?_))
   refine Zag (v:=.tuple #[.agg #[.bool r26.s, .slice A26 l26 c26, .int .i64 r26.e], .int .i64 r26.err]) (by kernel_rfl) (fun w' R Q=>?_)
   rw [ZdP hj h0 (fun h=>k1 h.1),hr26]
   exact ⟨(A26,l26,c26),rfl,Q.2,R⟩
theorem Zk5 (s:Bool) (A:Option Addr) (l c n:Nat) (e:Int) (bits:Nat) (Q:Nat) (A2:Option Addr) (l2 c2:Nat) (w:World) (hg:Glob w) (hN:Zae w (.slice A l c) n) (hw:wl n≤4294967296) (he1 : -576460752303423488≤e) (he2:e≤576460752303423488) (hb:bits≤4294967296) (hQ:Zft w Q (.slice A2 l2 c2)) :
 Calls Tryz.prog 123 #[.bool s, .slice A l c, .int .i64 e, .int .i64 ((bits:Nat):Int), .func (.func 143) #[] #[.pointer (some ⟨Q,0,none⟩)]] w (ZaN w (Zbe s n e bits (decide (0 < l2)))):=by
 refine Zau (Φ:=fun w=>((Glob w∧Zae w (.slice A l c) (n))∧Zft w Q (.slice A2 l2 c2))) Tryz.func123 rfl (by kernel_rfl) (fun w' hf=>⟨⟨hg.ext hf,hN.ext hf⟩,hQ.ext hf⟩) ?_
 refine Zac ?_
 have hbw:=Zjm hw
 by_cases hfew:blen n≤bits
 ·obtain ⟨k,hk⟩:∃ k,bits=blen n + k:=⟨bits - blen n,by omega⟩
  refine Zaa (xq 2 [(10, .p 10 0),(11, .v (.int .i64 0))] [(10,79,[.v (.bool false), .v (.slice none 0 0), .v (.int .i64 0)])] ?_)
  refine xe (Zab (Zac (Zaa (xq 1 [eS1 14 A l c] [] ?_))))
  refine xqc 65 [.slice A l c] 15 (fun _:Unit=>.int .i64 ((blen n:Nat):Int)) _ (fun w S R=>(ZbK R.1.2 hw).mono (fun _ _ h=>Zak h rfl)) (fun xx=>?_)
  refine xq 2 [(17, .v (.int .i64 (IntKind.i64.wrap (((blen n:Nat):Int) - ((bits:Nat):Int)))))] [] ?_
  rw [show IntKind.i64.wrap (((blen n:Nat):Int) - ((bits:Nat):Int)) = -((k:Nat):Int) from by rw [IntKind.wrap_i64]; omega]
  refine xq 1 [(12, .v (.int .i64 (-((k:Nat):Int))))] [] ?_
  refine xe (Zab (Zac (Zac (Zaa (xq 2 [(19, .v (.bool (decide ((-((k:Nat):Int))≤0))))] [] ?_)))))
  rw [show decide (-((k:Nat):Int)≤0)=true from decide_eq_true (by omega)]
  refine xe (Zab (xa (Zac (Zaa (xq 3 [(20, .v (.bool s)),eS1 21 A l c,(22, .v (.int .i64 e))] [] ?_)))))
  obtain ⟨r10,hr10⟩:∃ r,ZaU s (n) (e)=r:=⟨_,rfl⟩
  refine xqc 118 [.bool s, .slice A l c, .int .i64 e] 23 (shNb r10) _ (fun w S R=>((show Calls _ _ _ _ (ZaN w r10) from by rw [← hr10]; exact ZbE s _ _ _ _ _ _ R.1.1.1 R.1.1.2 hw (by omega) (by omega))).mono (fun _ _=>ZaK)) (fun xx=>?_)
  obtain ⟨A10,l10,c10⟩:=xx
  refine xq 4 [(11, .v (.int .i64 r10.err))] [(10,79,[.v (.bool r10.s), .v (.slice A10 l10 c10), .v (.int .i64 r10.e)])] ?_
  refine xe (Zab (Zai (Zah ?_)))
  refine Zag (v:=.tuple #[.agg #[.bool r10.s, .slice A10 l10 c10, .int .i64 r10.e], .int .i64 r10.err]) (by kernel_rfl) (fun w' S R=>?_)
  rw [Zd8 hfew,hr10]
  exact ⟨(A10,l10,c10),rfl,R.2,S⟩
 ·obtain ⟨j,hj⟩:∃ j,blen n=bits + (j + 1):=⟨blen n - bits - 1,by omega⟩
  have h0:0 < n:=Nat.pos_of_ne_zero (fun e=>by rw [e,ZdY] at hfew; omega)
  have hw2:wl (n / 2 ^ (j + 1))≤4294967296:=Nat.le_trans (Zbc (Nat.div_le_self _ _)) hw
  have hw3:wl (n / 2 ^ (j + 1) + 1)≤4294967296:=Nat.le_trans (Zbc (Nat.div_lt_self h0 (Nat.one_lt_two_pow (by omega)))) hw
  obtain ⟨b1,hb1⟩:∃ b:Bool,decide (n / 2 ^ j % 2=1)=b:=⟨_,rfl⟩
  obtain ⟨b2,hb2⟩:∃ b:Bool,decide (n / 2 ^ (j + 1) / 2 ^ 0 % 2=1)=b:=⟨_,rfl⟩
  obtain ⟨b3,hb3⟩:∃ b:Bool,(decide (0 < l2))=b:=⟨_,rfl⟩
  refine Zaa (xq 2 [(10, .p 10 0),(11, .v (.int .i64 0))] [(10,79,[.v (.bool false), .v (.slice none 0 0), .v (.int .i64 0)])] ?_)
  refine xe (Zab (Zac (Zaa (xq 1 [eS1 14 A l c] [] ?_))))
  refine xqc 65 [.slice A l c] 15 (fun _:Unit=>.int .i64 ((blen n:Nat):Int)) _ (fun w S R=>(ZbK R.1.2 hw).mono (fun _ _ h=>Zak h rfl)) (fun xx=>?_)
  refine xq 2 [(17, .v (.int .i64 (IntKind.i64.wrap (((blen n:Nat):Int) - ((bits:Nat):Int)))))] [] ?_
  rw [show IntKind.i64.wrap (((blen n:Nat):Int) - ((bits:Nat):Int))=((j + 1:Nat):Int) from by rw [IntKind.wrap_i64]; omega]
  refine xq 1 [(12, .v (.int .i64 ((j + 1:Nat):Int)))] [] ?_
  refine xe (Zab (Zac (Zac (Zaa (xq 2 [(19, .v (.bool (decide (((j + 1:Nat):Int)≤0))))] [] ?_)))))
  rw [show decide (((j + 1:Nat):Int)≤0)=false from decide_eq_false (by omega)]
  refine xe (Zab (xb (Zam (Zab (Zac (Zaa (xq 2 [eS1 26 A l c,(27, .v (.int .i64 ((j + 1:Nat):Int)))] [] ?_)))))))
  refine xqc 128 [.slice A l c, .int .i64 ((j + 1:Nat):Int)] 28 ZaJ _ (fun w S R=>(ZeH (j + 1) R.1.1.2 hw (by omega)).mono (fun _ _=>Zay)) (fun xx=>?_)
  obtain ⟨A11,l11,c11⟩:=xx
  refine xq 1 [eS1 13 A11 l11 c11] [] ?_
  refine xe (Zab (Zac (Zac (Zaa (xq 3 [eS1 29 A l c,(31, .v (.int .i64 (IntKind.i64.wrap (((j + 1:Nat):Int) - 1))))] [] ?_)))))
  rw [show IntKind.i64.wrap (((j + 1:Nat):Int) - 1)=((j:Nat):Int) from by rw [IntKind.wrap_i64]; omega]
  refine xqc 158 [.slice A l c, .int .i64 ((j:Nat):Int)] 32 (fun _:Unit=>.bool b1) _ (fun w S R=>((show Calls _ _ _ _ (RetV w (.bool b1)) from by rw [← hb1]; exact Zfr (j) R.1.1.1.2 (by omega))).mono (fun _ _ h=>Zak h rfl)) (fun xx=>?_)
  refine xq 1 [(33, .v (.bool b1))] [] ?_
  rcases bl2 (b1) with hb12 | hb12
  ·rw [hb12]
   have k1:=of_decide_eq_true (hb1.trans hb12)
   refine xq 1 [eS1 34 A l c] [] ?_
   refine xqc 157 [.slice A l c] 35 (fun _:Unit=>.int .i64 ((tzn n:Nat):Int)) _ (fun w S R=>(Zfq R.1.1.1.1.1 R.1.1.1.1.2 hw h0).mono (fun _ _ h=>Zak h rfl)) (fun xx=>?_)
   refine xq 2 [(37, .v (.int .i64 (IntKind.i64.wrap (((j + 1:Nat):Int) - 1))))] [] ?_
   rw [show IntKind.i64.wrap (((j + 1:Nat):Int) - 1)=((j:Nat):Int) from by rw [IntKind.wrap_i64]; omega]
   refine xq 2 [(39, .v (.bool (decide (((tzn n:Nat):Int) < ((j:Nat):Int)))))] [] ?_
   rcases bl2 ((decide (((tzn n:Nat):Int) < ((j:Nat):Int)))) with hb13 | hb13
   ·rw [hb13]
    have hb13':=of_decide_eq_true hb13
    have k4:tzn n < j:=by omega
    refine xr 8 [(0, .v (.bool s)),(2, .v (.int .i64 e)),(10, .p 10 0),(11, .v (.int .i64 0)),(12, .v (.int .i64 ((j + 1:Nat):Int))),eS1 13 A11 l11 c11,(47, .v (.bool true))] [(10,79,[.v (.bool false), .v (.slice none 0 0), .v (.int .i64 0)])] ?_
    refine xe (Zab (xa (Zaa (xq 1 [eS1 48 A11 l11 c11] [] ?_))))
    refine ZcB (d:=49) (fun zb:Nat=>.slice (some ⟨zb,0,none⟩) 1 1) (fun zb zw=>Blk 94 zw zb #[.int .u64 1]) (by kernel_rfl) (by kernel_rfl) (by kernel_rfl) (by kernel_rfl) (by kernel_rfl) (by kernel_rfl) (fun w S R=>Zb0 (t:=77) (e:=94) (n:=1) (sz:=1) (z:=.int .u64 0) (parts:=#[(0,Operand.const (Value.int IntKind.u64 1))]) (by kernel_rfl) (by kernel_rfl) (by kernel_rfl) (by kernel_rfl) (by kernel_rfl) (by kernel_rfl)) (fun b14=>?_)
    refine xr 0 [(0, .v (.bool s)),(2, .v (.int .i64 e)),(10, .p 10 0),(11, .v (.int .i64 0)),(12, .v (.int .i64 ((j + 1:Nat):Int))),eS1 13 A11 l11 c11,eS1 48 A11 l11 c11,eS1 49 (some ⟨b14,0,none⟩) 1 1] [(10,79,[.v (.bool false), .v (.slice none 0 0), .v (.int .i64 0)])] ?_
    refine xqc 126 [.slice A11 l11 c11, .slice (some ⟨b14,0,none⟩) 1 1] 50 ZaJ _ (fun w S R=>(Zcq R.1.1.1.2 (ZdL R.2) hw2 wl_1).mono (fun _ _=>Zay)) (fun xx=>?_)
    obtain ⟨A15,l15,c15⟩:=xx
    refine xq 1 [eS1 13 A15 l15 c15] [] ?_
    refine xe (Zab (Zac (Zaa (xq 5 [(51, .v (.bool s)),eS1 52 A15 l15 c15,(55, .v (.int .i64 (IntKind.i64.wrap (e + ((j + 1:Nat):Int)))))] [] ?_))))
    rw [show IntKind.i64.wrap (e + ((j + 1:Nat):Int))=e + ((j + 1:Nat):Int) from by rw [IntKind.wrap_i64]; omega]
    obtain ⟨r16,hr16⟩:∃ r,ZaU s (n / 2 ^ (j + 1) + 1) ((e + ((j + 1:Nat):Int)))=r:=⟨_,rfl⟩
    refine xqc 118 [.bool s, .slice A15 l15 c15, .int .i64 (e + ((j + 1:Nat):Int))] 56 (shNb r16) _ (fun w S R=>((show Calls _ _ _ _ (ZaN w r16) from by rw [← hr16]; exact ZbE s _ _ _ _ _ _ R.1.1.1.1.1.1.1.1 R.2 hw3 (by omega) (by omega))).mono (fun _ _=>ZaK)) (fun xx=>?_)
    obtain ⟨A16,l16,c16⟩:=xx
    refine xq 4 [(11, .v (.int .i64 r16.err))] [(10,79,[.v (.bool r16.s), .v (.slice A16 l16 c16), .v (.int .i64 r16.e)])] ?_
    refine xe (Zab (Zai ?_))
    refine Zag (v:=.tuple #[.agg #[.bool r16.s, .slice A16 l16 c16, .int .i64 r16.e], .int .i64 r16.err]) (by kernel_rfl) (fun w' S R=>?_)
    rw [Zdo hj k1 (Or.inl k4) h0,hr16]
    exact ⟨(A16,l16,c16),rfl,R.2,S⟩
   ·rw [hb13]
    have hb13':=of_decide_eq_false hb13
    have k4:¬ tzn n < j:=by omega
    refine xr 1 [(0, .v (.bool s)),(2, .v (.int .i64 e)),(4, .v (.func (.func 143) #[] #[.pointer (some ⟨Q,0,none⟩)])),(10, .p 10 0),(11, .v (.int .i64 0)),(12, .v (.int .i64 ((j + 1:Nat):Int))),eS1 13 A11 l11 c11,(33, .v (.bool true)),(39, .v (.bool false)),eS1 40 A11 l11 c11] [(10,79,[.v (.bool false), .v (.slice none 0 0), .v (.int .i64 0)])] ?_
    refine xqc 158 [.slice A11 l11 c11, .int .i64 0] 41 (fun _:Unit=>.bool b2) _ (fun w S R=>((show Calls _ _ _ _ (RetV w (.bool b2)) from by rw [← hb2]; exact Zfr (0) R.1.1.2 (by omega))).mono (fun _ _ h=>Zak h rfl)) (fun xx=>?_)
    refine xq 2 [(43, .v (.bool b2))] [] ?_
    rcases bl2 (b2) with hb17 | hb17
    ·rw [hb17]
     have k2:=of_decide_eq_true (hb2.trans hb17)
     rw [Nat.pow_zero,Nat.div_one] at k2
     refine xq 4 [(47, .v (.bool true))] [] ?_
     refine xe (Zab (xa (Zaa (xq 1 [eS1 48 A11 l11 c11] [] ?_))))
     refine ZcB (d:=49) (fun zb:Nat=>.slice (some ⟨zb,0,none⟩) 1 1) (fun zb zw=>Blk 94 zw zb #[.int .u64 1]) (by kernel_rfl) (by kernel_rfl) (by kernel_rfl) (by kernel_rfl) (by kernel_rfl) (by kernel_rfl) (fun w S R=>Zb0 (t:=77) (e:=94) (n:=1) (sz:=1) (z:=.int .u64 0) (parts:=#[(0,Operand.const (Value.int IntKind.u64 1))]) (by kernel_rfl) (by kernel_rfl) (by kernel_rfl) (by kernel_rfl) (by kernel_rfl) (by kernel_rfl)) (fun b18=>?_)
     refine xr 0 [(0, .v (.bool s)),(2, .v (.int .i64 e)),(10, .p 10 0),(11, .v (.int .i64 0)),(12, .v (.int .i64 ((j + 1:Nat):Int))),eS1 13 A11 l11 c11,eS1 48 A11 l11 c11,eS1 49 (some ⟨b18,0,none⟩) 1 1] [(10,79,[.v (.bool false), .v (.slice none 0 0), .v (.int .i64 0)])] ?_
     refine xqc 126 [.slice A11 l11 c11, .slice (some ⟨b18,0,none⟩) 1 1] 50 ZaJ _ (fun w S R=>(Zcq R.1.1.1.1.2 (ZdL R.2) hw2 wl_1).mono (fun _ _=>Zay)) (fun xx=>?_)
     obtain ⟨A19,l19,c19⟩:=xx
     refine xq 1 [eS1 13 A19 l19 c19] [] ?_
     refine xe (Zab (Zac (Zaa (xq 5 [(51, .v (.bool s)),eS1 52 A19 l19 c19,(55, .v (.int .i64 (IntKind.i64.wrap (e + ((j + 1:Nat):Int)))))] [] ?_))))
     rw [show IntKind.i64.wrap (e + ((j + 1:Nat):Int))=e + ((j + 1:Nat):Int) from by rw [IntKind.wrap_i64]; omega]
     obtain ⟨r20,hr20⟩:∃ r,ZaU s (n / 2 ^ (j + 1) + 1) ((e + ((j + 1:Nat):Int)))=r:=⟨_,rfl⟩
     refine xqc 118 [.bool s, .slice A19 l19 c19, .int .i64 (e + ((j + 1:Nat):Int))] 56 (shNb r20) _ (fun w S R=>((show Calls _ _ _ _ (ZaN w r20) from by rw [← hr20]; exact ZbE s _ _ _ _ _ _ R.1.1.1.1.1.1.1.1.1 R.2 hw3 (by omega) (by omega))).mono (fun _ _=>ZaK)) (fun xx=>?_)
     obtain ⟨A20,l20,c20⟩:=xx
     refine xq 4 [(11, .v (.int .i64 r20.err))] [(10,79,[.v (.bool r20.s), .v (.slice A20 l20 c20), .v (.int .i64 r20.e)])] ?_
     refine xe (Zab (Zai ?_))
     refine Zag (v:=.tuple #[.agg #[.bool r20.s, .slice A20 l20 c20, .int .i64 r20.e], .int .i64 r20.err]) (by kernel_rfl) (fun w' S R=>?_)
     rw [Zdo hj k1 (Or.inr (Or.inl k2)) h0,hr20]
     exact ⟨(A20,l20,c20),rfl,R.2,S⟩
    ·rw [hb17]
     have k2:=of_decide_eq_false (hb2.trans hb17)
     rw [Nat.pow_zero,Nat.div_one] at k2
     refine xq 1 [(44, .v (.func (.func 143) #[] #[.pointer (some ⟨Q,0,none⟩)]))] [] ?_
     refine xqc 143 [.pointer (some ⟨Q,0,none⟩)] 45 (fun _:Unit=>.bool b3) _ (fun w S R=>((show Calls _ _ _ _ (RetV w (.bool b3)) from by rw [← hb3]; exact Zl8 Q A2 l2 c2 _ R.1.1.1.1.1.2)).mono (fun _ _ h=>Zak h rfl)) (fun xx=>?_)
     refine xq 2 [(47, .v (.bool b3))] [] ?_
     refine xe (Zab ?_)
     refine Zas (b3) (by kernel_rfl) (fun hb21=>?_) (fun hb21=>?_)
     ·have k3:=hb3.trans hb21
      refine Zaa (xq 1 [eS1 48 A11 l11 c11] [] ?_)
      refine ZcB (d:=49) (fun zb:Nat=>.slice (some ⟨zb,0,none⟩) 1 1) (fun zb zw=>Blk 94 zw zb #[.int .u64 1]) (by kernel_rfl) (by kernel_rfl) (by kernel_rfl) (by kernel_rfl) (by kernel_rfl) (by kernel_rfl) (fun w S R=>Zb0 (t:=77) (e:=94) (n:=1) (sz:=1) (z:=.int .u64 0) (parts:=#[(0,Operand.const (Value.int IntKind.u64 1))]) (by kernel_rfl) (by kernel_rfl) (by kernel_rfl) (by kernel_rfl) (by kernel_rfl) (by kernel_rfl)) (fun b22=>?_)
      refine xr 0 [(0, .v (.bool s)),(2, .v (.int .i64 e)),(10, .p 10 0),(11, .v (.int .i64 0)),(12, .v (.int .i64 ((j + 1:Nat):Int))),eS1 13 A11 l11 c11,eS1 48 A11 l11 c11,eS1 49 (some ⟨b22,0,none⟩) 1 1] [(10,79,[.v (.bool false), .v (.slice none 0 0), .v (.int .i64 0)])] ?_
      refine xqc 126 [.slice A11 l11 c11, .slice (some ⟨b22,0,none⟩) 1 1] 50 ZaJ _ (fun w S R=>(Zcq R.1.1.1.1.1.2 (ZdL R.2) hw2 wl_1).mono (fun _ _=>Zay)) (fun xx=>?_)
      obtain ⟨A23,l23,c23⟩:=xx
      refine xq 1 [eS1 13 A23 l23 c23] [] ?_
      refine xe (Zab (Zac (Zaa (xq 5 [(51, .v (.bool s)),eS1 52 A23 l23 c23,(55, .v (.int .i64 (IntKind.i64.wrap (e + ((j + 1:Nat):Int)))))] [] ?_))))
      rw [show IntKind.i64.wrap (e + ((j + 1:Nat):Int))=e + ((j + 1:Nat):Int) from by rw [IntKind.wrap_i64]; omega]
      obtain ⟨r24,hr24⟩:∃ r,ZaU s (n / 2 ^ (j + 1) + 1) ((e + ((j + 1:Nat):Int)))=r:=⟨_,rfl⟩
      refine xqc 118 [.bool s, .slice A23 l23 c23, .int .i64 (e + ((j + 1:Nat):Int))] 56 (shNb r24) _ (fun w S R=>((show Calls _ _ _ _ (ZaN w r24) from by rw [← hr24]; exact ZbE s _ _ _ _ _ _ R.1.1.1.1.1.1.1.1.1.1 R.2 hw3 (by omega) (by omega))).mono (fun _ _=>ZaK)) (fun xx=>?_)
      obtain ⟨A24,l24,c24⟩:=xx
      refine xq 4 [(11, .v (.int .i64 r24.err))] [(10,79,[.v (.bool r24.s), .v (.slice A24 l24 c24), .v (.int .i64 r24.e)])] ?_
      refine xe (Zab (Zai ?_))
      refine Zag (v:=.tuple #[.agg #[.bool r24.s, .slice A24 l24 c24, .int .i64 r24.e], .int .i64 r24.err]) (by kernel_rfl) (fun w' S R=>?_)
      rw [Zdo hj k1 (Or.inr (Or.inr k3)) h0,hr24]
      exact ⟨(A24,l24,c24),rfl,R.2,S⟩
     ·have k3:=hb3.trans hb21
      refine Zam (Zab (Zac (Zaa (xq 5 [(51, .v (.bool s)),eS1 52 A11 l11 c11,(55, .v (.int .i64 (IntKind.i64.wrap (e + ((j + 1:Nat):Int)))))] [] ?_))))
      rw [show IntKind.i64.wrap (e + ((j + 1:Nat):Int))=e + ((j + 1:Nat):Int) from by rw [IntKind.wrap_i64]; omega]
      obtain ⟨r25,hr25⟩:∃ r,ZaU s (n / 2 ^ (j + 1)) ((e + ((j + 1:Nat):Int)))=r:=⟨_,rfl⟩
      refine xqc 118 [.bool s, .slice A11 l11 c11, .int .i64 (e + ((j + 1:Nat):Int))] 56 (shNb r25) _ (fun w S R=>((show Calls _ _ _ _ (ZaN w r25) from by rw [← hr25]; exact ZbE s _ _ _ _ _ _ R.1.1.1.1.1.1.1.1 R.1.1.1.1.2 hw2 (by omega) (by omega))).mono (fun _ _=>ZaK)) (fun xx=>?_)
      obtain ⟨A25,l25,c25⟩:=xx
      refine xq 4 [(11, .v (.int .i64 r25.err))] [(10,79,[.v (.bool r25.s), .v (.slice A25 l25 c25), .v (.int .i64 r25.e)])] ?_
      refine xe (Zab (Zai ?_))
      refine Zag (v:=.tuple #[.agg #[.bool r25.s, .slice A25 l25 c25, .int .i64 r25.e], .int .i64 r25.err]) (by kernel_rfl) (fun w' S R=>?_)
      rw [ZdP hj h0 (fun h=>by rcases h.2 with h | h | h; exact k4 h; exact k2 h; rw [k3] at h; cases h),hr25]
      exact ⟨(A25,l25,c25),rfl,R.2,S⟩
  ·rw [hb12]
   have k1:=of_decide_eq_false (hb1.trans hb12)
   refine xq 14 [(47, .v (.bool false))] [] ?_
   refine xe (Zab (xb (Zam (Zab (Zac (Zaa (xq 5 [(51, .v (.bool s)),eS1 52 A11 l11 c11,(55, .v (.int .i64 (IntKind.i64.wrap (e + ((j + 1:Nat):Int)))))] [] ?_)))))))
   rw [show IntKind.i64.wrap (e + ((j + 1:Nat):Int))=e + ((j + 1:Nat):Int) from by rw [IntKind.wrap_i64]; omega]
   obtain ⟨r26,hr26⟩:∃ r,ZaU s (n / 2 ^ (j + 1)) ((e + ((j + 1:Nat):Int)))=r:=⟨_,rfl⟩
   refine xqc 118 [.bool s, .slice A11 l11 c11, .int .i64 (e + ((j + 1:Nat):Int))] 56 (shNb r26) _ (fun w S R=>((show Calls _ _ _ _ (ZaN w r26) from by rw [← hr26]; exact ZbE s _ _ _ _ _ _ R.1.1.1.1.1 R.1.2 hw2 (by omega) (by omega))).mono (fun _ _=>ZaK)) (fun xx=>?_)
   obtain ⟨A26,l26,c26⟩:=xx
   refine xq 4 [(11, .v (.int .i64 r26.err))] [(10,79,[.v (.bool r26.s), .v (.slice A26 l26 c26), .v (.int .i64 r26.e)])] ?_
   refine xe (Zab (Zai ?_))
   refine Zag (v:=.tuple #[.agg #[.bool r26.s, .slice A26 l26 c26, .int .i64 r26.e], .int .i64 r26.err]) (by kernel_rfl) (fun w' S R=>?_)
   rw [ZdP hj h0 (fun h=>k1 h.1),hr26]
   exact ⟨(A26,l26,c26),rfl,R.2,S⟩
end Go.Proofs.YtklpdkpcocnglaaGreatDoor

namespace Go.Proofs.YtklpdkpcocnglaaGreatDoor
open Go.RowKit
theorem Zma {u v:Value} {m n:Nat} {w:World} (hu:Zae w u m) (hv:Zae w v n) (hm:wl m≤4294967295) (hn:wl n≤4294967296) (h0:0 < n):Calls Tryz.prog 142 #[u,v] w (Zen w (m / n) (m % n)):=by
 have hu':=hu
 have hv':=hv
 obtain ⟨A,xs,c,rfl,hc,h1,h2,h3,rfl⟩:=hu
 obtain ⟨A2,ys,c2,rfl,hc2,k1,k2,k3,rfl⟩:=hv
 rw [← Zaw h2 h3] at hm
 rw [← Zaw k2 k3] at hn
 exact Zl4 A A2 xs ys c c2 w h1 k1 hm hn h2 k2 hu' hv' h3 k3 h0
theorem Zm4 {s:Bool} {A:Option Addr} {l c:Nat} {e:Int}:Zkh #[.bool s, .slice A l c, .int .i64 e]:=by
 intro i k; rcases i with _ | _ | _ | i<;>simp
theorem Blk.cell3n {t:TypeId} {w:World} {g:Nat} {x y z:Value} (h:Blk t w g #[x,y,z]):w.cell? ⟨g,0,none⟩=some x∧w.cell? ⟨g,1,none⟩=some y∧w.cell? ⟨g,2,none⟩=some z∧w.frozen? ⟨g,0,none⟩=false∧w.frozen? ⟨g,1,none⟩=false∧w.frozen? ⟨g,2,none⟩=false :=
 ⟨h.cell 0,h.cell 1,h.cell 2,h.frozen 0,h.frozen 1,h.frozen 2⟩
set_option maxHeartbeats 1000000 in
theorem Zoy {fn:Func} {t t2:Tmp} {tmps:Array Value} {w wb w2:World} {r:Nat} {x:FR} {A A0:Option Addr} {l c l0 c0:Nat} {s0:Bool} {e0:Int}
 (hres:fn.results=#[.cell t 79, .tmp t2]) (ht:tmps[t]? = some (.pointer (some ⟨r,0,none⟩))) (ht2:tmps[t2]? = some (.int .i64 x.err)) (hr:w.heap.size≤r)
 (HE:Ext w wb) (HB:Blk 79 wb r #[.bool s0, .slice A0 l0 c0, .int .i64 e0]) (hF:Ext wb w2) (hN:Zae w2 (.slice A l c) x.m) :
 bodyPost Tryz.prog fn (ZaN w x) .ret ⟨tmps,[]⟩ (((w2.setCell ⟨r,0,none⟩ (.bool x.s)).setCell ⟨r,1,none⟩ (.slice A l c)).setCell ⟨r,2,none⟩ (.int .i64 x.e)):=by
 have hB0:=HB.ext hF
 have hB2:Blk 79 (((w2.setCell ⟨r,0,none⟩ (.bool x.s)).setCell ⟨r,1,none⟩ (.slice A l c)).setCell ⟨r,2,none⟩ (.int .i64 x.e)) r #[.bool x.s, .slice A l c, .int .i64 x.e]:=((hB0.set_ 0 _).set_ 1 _).set_ 2 _
 obtain ⟨h0,h1,h2,_⟩:=hB2.cell3n
 have hS:Fr (fun i=>i=r) w2 (((w2.setCell ⟨r,0,none⟩ (.bool x.s)).setCell ⟨r,1,none⟩ (.slice A l c)).setCell ⟨r,2,none⟩ (.int .i64 x.e)):=(((show Fr (fun i=>i=r) w2 w2 from Fr.refl _ _).setCell (p:=⟨r,0,none⟩) (Or.inl rfl) _).setCell (p:=⟨r,1,none⟩) (Or.inl rfl) _).setCell (p:=⟨r,2,none⟩) (Or.inl rfl) _
 have hN2:=hN.other hB0 Zm4 hS
 have hE2:Ext w (((w2.setCell ⟨r,0,none⟩ (.bool x.s)).setCell ⟨r,1,none⟩ (.slice A l c)).setCell ⟨r,2,none⟩ (.int .i64 x.e)):=(((HE.trans hF).setCell (p:=⟨r,0,none⟩) (Or.inr hr) _).setCell (p:=⟨r,1,none⟩) (Or.inr hr) _).setCell (p:=⟨r,2,none⟩) (Or.inr hr) _
 generalize ((w2.setCell ⟨r,0,none⟩ (.bool x.s)).setCell ⟨r,1,none⟩ (.slice A l c)).setCell ⟨r,2,none⟩ (.int .i64 x.e)=W at *
 exact bodyPost_ret (v:=shNb x (A,l,c)) (by simp [results,hres,ht,ht2,go_sem,h0,h1,h2,shNb]) rfl ⟨(A,l,c),rfl,hN2,hE2⟩
theorem ZhA {a b:Nat} (h:a < 64 * b):wl (2 ^ a)≤b:=Zbq.2 (by rw [show W64=2 ^ 64 by rw [Zal],← Nat.pow_mul]; exact Nat.pow_lt_pow_right (by decide) h)
set_option maxHeartbeats 4000000 in
theorem Zf9 (s:Bool) (A:Option Addr) (l c n:Nat) (B:Option Addr) (m d k:Nat) (e:Int) (bits:Nat) (w:World) (hg:Glob w) (hN:Zae w (.slice A l c) n) (hK:Zae w (.slice B m d) k) (hwn:wl n≤1000000) (hwk:wl k≤1000000) (hk0:0 < k)
 (he1 : -288230376151711744≤e) (he2:e≤288230376151711744) (hb0:0 < bits) (hb:bits≤1000000) :
 Calls Tryz.prog 99 #[.bool s, .slice A l c, .slice B m d, .int .i64 e, .int .i64 ((bits:Nat):Int)] w (ZaN w (ZaO s n k e bits)):=by
 have hbn:=Zc2 n
 have hbk:=Zc2 k
 obtain ⟨a1,ha1⟩:∃ a,a=(rk0 n k bits - 1).toNat:=⟨_,rfl⟩
 obtain ⟨a2,ha2⟩:∃ a,a=(-(rk0 n k bits - 1)).toNat:=⟨_,rfl⟩
 obtain ⟨sh,hsh⟩:∃ x:Int,x=(bits:Int) + 1 + (blen k:Nat) - (blen n:Nat):=⟨_,rfl⟩
 have hrk:rk0 n k bits - 1 = -sh:=by unfold rk0; omega
 rw [hrk] at ha1 ha2
 rw [Int.neg_neg] at ha2
 have hs1 : -100000000≤sh:=by omega
 have hs2:sh≤100000000:=by omega
 have hfa:fa n (rk0 n k bits - 1)=n * 2 ^ a2:=by unfold fa; rw [hrk,Int.neg_neg,← ha2]
 have hfb:fb k (rk0 n k bits - 1)=k * 2 ^ a1:=by unfold fb; rw [hrk,← ha1]
 have hwa:wl (n * 2 ^ a2)≤4000000:=by
  refine Nat.le_trans (Zg6 _ _) ?_
  have:wl (2 ^ a2)≤2000001:=ZhA (by omega)
  omega
 have hwb:wl (k * 2 ^ a1)≤4000000:=by
  refine Nat.le_trans (Zg6 _ _) ?_
  have:wl (2 ^ a1)≤2000001:=ZhA (by omega)
  omega
 have hm1:(if (0:Int) > sh then (0:Int) else sh)=(a2:Int):=by split<;>omega
 have hm2:(if (0:Int) > -sh then (0:Int) else -sh)=(a1:Int):=by split<;>omega
 have HG:=zh hg
 have HN:=zh hN
 have HK:=zh hK
 clear hg hN hK
 obtain ⟨x,hx⟩:∃ x,ZaO s n k e bits=x:=⟨_,rfl⟩
 rw [hx]
 have HX:=zh hx
 clear hx
 go_enter Tryz.func99,Tryz.ntmps99
 go_wp2_with fail
 refine (ZbK (HK.out.ext ((Fr.refl _ _).alloc _)) (by omega)).mono ?_
 rintro e1 w1 ⟨rfl,hE1⟩
 have HE1:Hid (Ext w w1):=((Fr.refl _ _).alloc _).trans hE1
 have HB1:Hid (Blk 79 w1 w.heap.size #[.bool false, .slice none 0 0, .int .i64 0]):=(show Blk 79 (w.alloc (.cells #[.bool false, .slice none 0 0, .int .i64 0] 79)) w.heap.size #[.bool false, .slice none 0 0, .int .i64 0] from heap_alloc_new w _).ext hE1
 clear hE1
 go_wp2_with fail
 refine (ZbK (HN.out.ext HE1.out) (by omega)).mono ?_
 rintro e1 w2 ⟨rfl,hE2⟩
 have HE2:=zh (HE1.out.trans hE2)
 have HB2:=zh (HB1.out.ext hE2)
 clear hE2
 go_wp2_with fail
 rw [show max ((bits:Int) + 1 + (blen k:Nat) - (blen n:Nat)) 0=((a2:Nat):Int) from by omega]
 refine (Zdn a2 (HN.out.ext HE2.out) (by omega) (by omega)).mono ?_
 rintro e1 w3 ⟨v3,rfl,hN3,hE3⟩
 obtain ⟨A3,l3,c3,rfl⟩:=hN3.slice
 have HE3:=zh (HE2.out.trans hE3)
 have HB3:=zh (HB2.out.ext hE3)
 have HN3:=zh hN3
 clear hN3 hE3
 go_wp2_with fail
 rw [show max (-((bits:Int) + 1 + (blen k:Nat) - (blen n:Nat))) 0=((a1:Nat):Int) from by omega]
 refine (Zdn a1 (HK.out.ext HE3.out) (by omega) (by omega)).mono ?_
 rintro e1 w4 ⟨v4,rfl,hN4,hE4⟩
 obtain ⟨A4,l4,c4,rfl⟩:=hN4.slice
 have HE4:=zh (HE3.out.trans hE4)
 have HB4:=zh (HB3.out.ext hE4)
 have HN3':=zh (HN3.out.ext hE4)
 have HN4:=zh hN4
 clear hN4 hE4
 go_wp2_with fail
 refine (Zma HN3'.out HN4.out (by omega) (by omega) (Nat.mul_pos hk0 (p2 a1))).mono ?_
 rintro e1 w5 ⟨v5,v6,rfl,hN5,hN6,hE5⟩
 obtain ⟨A5,l5,c5,rfl⟩:=hN5.slice
 obtain ⟨A6,l6,c6,rfl⟩:=hN6.slice
 have HE5:=zh (HE4.out.trans hE5)
 have HB5:=zh (HB4.out.ext hE5)
 have HN5:=zh hN5
 have HN6:=zh hN6
 clear hN5 hN6 hE5
 go_wp2_with fail
 have hbox:Zft (w5.alloc (.cells #[.slice A6 l6 c6] 77)) w5.heap.size (.slice A6 l6 c6):=⟨by simp,by rw [Lib.cell_of_heap (heap_alloc_new w5 _)]; rfl⟩
 have hwq:wl (n * 2 ^ a2 / (k * 2 ^ a1))≤4294967296:=Nat.le_trans (Zbc (Nat.div_le_self _ _)) (by omega)
 refine (Zk5 s A5 l5 c5 _ _ bits _ A6 l6 c6 _ (HG.out.ext (HE5.out.alloc _)) (HN5.out.ext ((Fr.refl _ _).alloc _)) hwq (by omega) (by omega) (by omega) hbox).mono ?_
 rintro e1 w6 ⟨⟨A7,l7,c7⟩,rfl,hN7,hE7⟩
 have hr:Zbe s (n * 2 ^ a2 / (k * 2 ^ a1)) (e - ((bits:Int) + 1 + (blen k:Nat) - (blen n:Nat))) bits (decide (0 < l6))=x:=by
  rw [← HX.out,← hsh]
  rcases Nat.eq_zero_or_pos n with rfl | hn
  ·rw [Nat.zero_mul,Nat.zero_div,ZgI,Zc1]
  ·have h:=ZjY s (n:=n) (d:=k) e (bits:=bits) hn hk0 hb0
   have hq:fq n k (rk0 n k bits - 1)=n * 2 ^ a2 / (k * 2 ^ a1):=by unfold fq; rw [hfa,hfb]
   rw [hq,hfa,hfb,hrk] at h
   rw [← h,show e + -sh=e - sh by omega]
   congr 1
   have hl6:=HN6.out.len0
   exact decide_eq_decide.2 (by rw [hl6]; have:=@ZbJ (n * 2 ^ a2 % (k * 2 ^ a1)); omega)
 rw [hr] at hN7
 rw [hr]
 clear hr
 have HN7:=zh hN7
 have HE6:Hid (Ext w w6):=(HE5.out.alloc _).trans hE7
 have HB6:=zh ((HB5.out.ext ((Fr.refl _ _).alloc _)).ext hE7)
 obtain ⟨z0,z1,z2,z3,z4,z5⟩:=HB6.out.cell3n
 clear hN7 hE7 hbox
 simp only [shNb]
 go_wp2
 exact Zoy rfl rfl rfl (Nat.le_refl _) HE6.out HB6.out (Fr.refl _ _) HN7.out
end Go.Proofs.YtklpdkpcocnglaaGreatDoor

namespace Go.Proofs.YtklpdkpcocnglaaGreatDoor
open Go.RowKit
theorem ZhW {a b:Int}:(if b < a then b else a)=min a b:=by omega
def ZbP (s:Bool) (m:Nat) (e k:Int):FR:=if m=0 then ⟨s,m,e,0⟩ else if k < -2097152∨k > 2097152 then ⟨false,0,0,2⟩ else ZaU s m (e + k)
def Zgr (s:Bool) (m n:Nat) (e:Int) (bits:Nat):FR:=if n=0 then ⟨false,0,0,5⟩ else ZaO s m n e bits
def sumR (sx:Bool) (xm:Nat) (xe:Int) (sy:Bool) (ym:Nat) (ye:Int) (bits:Nat):FR :=
 if xm=0 then ZaO sy ym 1 ye bits else if ym=0 then ZaO sx xm 1 xe bits else addR sx xm xe sy ym ye bits
theorem ZiM {n a:Nat} (hn:wl n≤1000000) (ha:a≤100000000):wl (n * 2 ^ a)≤4000000:=by
 have:=Zg6 n (2 ^ a)
 have:wl (2 ^ a)≤2000001:=ZhA (by omega)
 omega
section
variable {s t:Bool} {a b bits:Nat} {low:Int}
theorem Zin (ha:0 < a) (h:s=t):ZaO (decide (sg s a + sg t b < 0)) (sg s a + sg t b).natAbs 1 low bits=ZaO s (a + b) 1 low bits:=by
 subst h
 have h1:decide (sg s a + sg s b < 0)=s:=by cases s<;>simp [sg]<;>omega
 have h2:(sg s a + sg s b).natAbs=a + b:=by cases s<;>simp [sg]<;>omega
 rw [h1,h2]
theorem ZhB (h:¬ s=t) (hb:b≤a):ZaO (decide (sg s a + sg t b < 0)) (sg s a + sg t b).natAbs 1 low bits=ZaO s (a - b) 1 low bits:=by
 have h2:(sg s a + sg t b).natAbs=a - b:=by cases s<;>cases t<;>simp [sg] at h ⊢<;>omega
 rw [h2]
 by_cases e:a - b=0
 ·rw [e,Zc1,Zc1]
 ·have h1:decide (sg s a + sg t b < 0)=s:=by cases s<;>cases t<;>simp [sg] at h ⊢<;>omega
  rw [h1]
theorem ZgJ (h:¬ s=t) (hb:a < b):ZaO (decide (sg s a + sg t b < 0)) (sg s a + sg t b).natAbs 1 low bits=ZaO t (b - a) 1 low bits:=by
 have h2:(sg s a + sg t b).natAbs=b - a:=by cases s<;>cases t<;>simp [sg] at h ⊢<;>omega
 rw [h2]
 have h1:decide (sg s a + sg t b < 0)=t:=by cases s<;>cases t<;>simp [sg] at h ⊢<;>omega
 rw [h1]
end
theorem Zjn {sx:Bool} {xm:Nat} {xe:Int} {sy:Bool} {ym:Nat} {ye:Int} {bits u1 u2:Nat} {low:Int} (hl:min xe ye=low) (h1:xe - low=u1) (h2:ye - low=u2) :
 addR sx xm xe sy ym ye bits=ZaO (decide (sg sx (xm * 2 ^ u1) + sg sy (ym * 2 ^ u2) < 0)) (sg sx (xm * 2 ^ u1) + sg sy (ym * 2 ^ u2)).natAbs 1 low bits:=by
 unfold addR
 rw [hl,h1,h2]
 rfl
theorem Zgs {a b:Nat}:cmpI a b ≥ 0 ↔ b≤a:=by
 have:=@ZcS a b
 omega
theorem ZeI (s:Bool) (A:Option Addr) (l c x:Nat) (e:Int) (w:World) (hX:Zae w (.slice A l c) x) (hwx:wl x≤4294967296) (he1 : -1152921504606846976≤e) (he2:e≤1152921504606846976) :
 Calls Tryz.prog 121 #[.agg #[.bool s, .slice A l c, .int .i64 e]] w (RetV w (.int .i64 (((blen x:Nat):Int) + e))):=by
 refine Zau (Φ:=fun w=>Zae w (.slice A l c) (x)) Tryz.func121 rfl (by kernel_rfl) (fun w' hf=>hX.ext hf) ?_
 refine Zac ?_
 have hbw:=Zjm hwx
 refine Zaa (xq 2 [(1, .p 1 0),(2, .v (.int .i64 0))] [(1,79,[.v (.bool s), .v (.slice A l c), .v (.int .i64 e)])] ?_)
 refine xe (Zab (Zac ?_))
 refine Zbr 7 (by kernel_rfl) (by kernel_rfl) ZaA ?_
 refine xqf 2 [eS1 4 A l c] [(1,79,[.v (.bool s), .v (.slice A l c), .v (.int .i64 e)])] ?_
 refine xqd 65 [.slice A l c] 5 (fun _:Unit=>.int .i64 ((blen x:Nat):Int)) _ (fun w R Q=>(ZbK Q hwx).mono (fun _ _ h=>Zak h rfl)) (fun xx=>?_)
 refine xqf 3 [(8, .v (.int .i64 (IntKind.i64.wrap (((blen x:Nat):Int) + e))))] [(1,79,[.v (.bool s), .v (.slice A l c), .v (.int .i64 e)])] ?_
 rw [show IntKind.i64.wrap (((blen x:Nat):Int) + e)=((blen x:Nat):Int) + e from by rw [IntKind.wrap_i64]; omega]
 refine xqf 1 [(2, .v (.int .i64 (((blen x:Nat):Int) + e)))] [(1,79,[.v (.bool s), .v (.slice A l c), .v (.int .i64 e)])] ?_
 refine xz (xe (Zab (Zai ?_)))
 refine Zag (v:=.int .i64 (((blen x:Nat):Int) + e)) (by kernel_rfl) (fun w' R Q=>?_)
 exact ⟨rfl,R⟩
theorem ZjZ (s:Bool) (A:Option Addr) (l c x:Nat) (e:Int) (k:Int) (w:World) (hg:Glob w) (hX:Zae w (.slice A l c) x) (hwx:wl x≤100000) (he1 : -1073741824≤e) (he2:e≤1073741824) :
 Calls Tryz.prog 78 #[.agg #[.bool s, .slice A l c, .int .i64 e], .int .i64 k] w (ZaN w (ZbP s x e k)):=by
 refine Zau (Φ:=fun w=>(Glob w∧Zae w (.slice A l c) (x))) Tryz.func78 rfl (by kernel_rfl) (fun w' hf=>⟨hg.ext hf,hX.ext hf⟩) ?_
 refine Zac ?_
 have hln:=hX.len0
 have hzz:=@ZbJ x
 refine Zaa (xq 3 [(2, .p 2 0),(4, .p 4 0),(5, .v (.int .i64 0))] [(4,79,[.v (.bool false), .v (.slice none 0 0), .v (.int .i64 0)]),(2,79,[.v (.bool s), .v (.slice A l c), .v (.int .i64 e)])] ?_)
 refine xe (Zab (Zac (Zac (Zaa (xq 4 [(9, .v (.bool ((((l:Nat):Int):Int) == 0)))] [] ?_)))))
 refine xe (Zab ?_)
 refine Zas (((((l:Nat):Int):Int) == 0)) (by kernel_rfl) (fun hb10=>?_) (fun hb10=>?_)
 ·have hb10':=beq_iff_eq.1 hb10
  have h0:x=0:=by omega
  refine Zac (Zaa (xq 3 [(5, .v (.int .i64 0))] [(4,79,[.v (.bool s), .v (.slice A l c), .v (.int .i64 e)])] ?_))
  refine xe (Zab (Zai (Zah ?_)))
  refine Zag (v:=.tuple #[.agg #[.bool s, .slice A l c, .int .i64 e], .int .i64 0]) (by kernel_rfl) (fun w' R Q=>?_)
  rw [show ZbP s x e k=⟨s,x,e,0⟩ from if_pos h0]
  exact ⟨(A,l,c),rfl,Q.2,R⟩
 ·have hb10':=Za5 hb10
  have h0:¬ x=0:=by omega
  refine Zam (Zab (Zac (Zac (Zaa (xq 3 [(13, .v (.bool (decide (k < (-2097152)))))] [] ?_)))))
  rcases bl2 ((decide (k < (-2097152)))) with hb11 | hb11
  ·rw [hb11]
   have hb11':=of_decide_eq_true hb11
   refine xq 3 [(16, .v (.bool true))] [] ?_
   refine xe (Zab (xa (Zac (Zaa (xq 3 [(5, .v (.int .i64 2))] [] ?_)))))
   refine xe (Zab (Zai (Zah ?_)))
   refine Zag (v:=.tuple #[.agg #[.bool false, .slice none 0 0, .int .i64 0], .int .i64 2]) (by kernel_rfl) (fun w' R Q=>?_)
   rw [show ZbP s x e k=⟨false,0,0,2⟩ from by unfold ZbP; rw [if_neg h0,if_pos (by omega)]]
   exact ⟨(none,0,0),rfl,Zae.zero _,R⟩
  ·rw [hb11]
   have hb11':=of_decide_eq_false hb11
   refine xq 3 [(16, .v (.bool (decide (k > 2097152))))] [] ?_
   refine xe (Zab ?_)
   refine Zas ((decide (k > 2097152))) (by kernel_rfl) (fun hb12=>?_) (fun hb12=>?_)
   ·have hb12':=of_decide_eq_true hb12
    refine Zac (Zaa (xq 3 [(5, .v (.int .i64 2))] [] ?_))
    refine xe (Zab (Zai (Zah ?_)))
    refine Zag (v:=.tuple #[.agg #[.bool false, .slice none 0 0, .int .i64 0], .int .i64 2]) (by kernel_rfl) (fun w' R Q=>?_)
    rw [show ZbP s x e k=⟨false,0,0,2⟩ from by unfold ZbP; rw [if_neg h0,if_pos (by omega)]]
    exact ⟨(none,0,0),rfl,Zae.zero _,R⟩
   ·have hb12':=of_decide_eq_false hb12
    refine Zam (Zab (Zac (Zaa (xq 8 [(19, .v (.bool s)),eS1 21 A l c,(25, .v (.int .i64 (IntKind.i64.wrap (e + k))))] [] ?_))))
    rw [show IntKind.i64.wrap (e + k)=e + k from by rw [IntKind.wrap_i64]; omega]
    obtain ⟨r13,hr13⟩:∃ r,ZaU s x ((e + k))=r:=⟨_,rfl⟩
    refine xqc 118 [.bool s, .slice A l c, .int .i64 (e + k)] 26 (shNb r13) _ (fun w R Q=>((show Calls _ _ _ _ (ZaN w r13) from by rw [← hr13]; exact ZbE s _ _ _ _ _ _ Q.1 Q.2 (by omega) (by omega) (by omega))).mono (fun _ _=>ZaK)) (fun xx=>?_)
    obtain ⟨A13,l13,c13⟩:=xx
    refine xq 4 [(5, .v (.int .i64 r13.err))] [(4,79,[.v (.bool r13.s), .v (.slice A13 l13 c13), .v (.int .i64 r13.e)])] ?_
    refine xe (Zab (Zai ?_))
    refine Zag (v:=.tuple #[.agg #[.bool r13.s, .slice A13 l13 c13, .int .i64 r13.e], .int .i64 r13.err]) (by kernel_rfl) (fun w' R Q=>?_)
    rw [show ZbP s x e k=ZaU s x (e + k) from by unfold ZbP; rw [if_neg h0,if_neg (by omega)],hr13]
    exact ⟨(A13,l13,c13),rfl,Q.2,R⟩
theorem Zmb (s:Bool) (A:Option Addr) (l c x:Nat) (e:Int) (t:Bool) (B:Option Addr) (m d y:Nat) (f:Int) (bits:Nat) (hb0:0 < bits) (hb:bits≤4096) (w:World) (hg:Glob w) (hX:Zae w (.slice A l c) x) (hwx:wl x≤100000) (he1 : -1073741824≤e) (he2:e≤1073741824) (hY:Zae w (.slice B m d) y) (hwy:wl y≤100000) (hf1 : -1073741824≤f) (hf2:f≤1073741824) :
 Calls Tryz.prog 82 #[.agg #[.bool s, .slice A l c, .int .i64 e], .agg #[.bool t, .slice B m d, .int .i64 f], .int .i64 ((bits:Nat):Int)] w (ZaN w (ZaO (s != t) (x * y) 1 (e + f) bits)):=by
 refine Zau (Φ:=fun w=>((Glob w∧Zae w (.slice A l c) (x))∧Zae w (.slice B m d) (y))) Tryz.func82 rfl (by kernel_rfl) (fun w' hf=>⟨⟨hg.ext hf,hX.ext hf⟩,hY.ext hf⟩) ?_
 refine Zac ?_
 have hln:=hX.len0
 have hlm:=hY.len0
 have hzx:=@ZbJ x
 have hzy:=@ZbJ y
 refine Zaa (xq 4 [(3, .p 3 0),(4, .p 4 0),(6, .p 6 0),(7, .v (.int .i64 0))] [(6,79,[.v (.bool false), .v (.slice none 0 0), .v (.int .i64 0)]),(4,79,[.v (.bool t), .v (.slice B m d), .v (.int .i64 f)]),(3,79,[.v (.bool s), .v (.slice A l c), .v (.int .i64 e)])] ?_)
 refine xe (Zab (Zac (Zac (Zaa (xq 5 [(12, .v (.bool ((((l:Nat):Int):Int) == 0)))] [] ?_)))))
 rcases bl2 (((((l:Nat):Int):Int) == 0)) with hb10 | hb10
 ·rw [hb10]
  have hb10':=beq_iff_eq.1 hb10
  have hx0:x=0:=by omega
  refine xq 5 [(17, .v (.bool true))] [] ?_
  refine xe (Zab (xa (Zac (Zaa (xq 3 [(7, .v (.int .i64 0))] [] ?_)))))
  refine xe (Zab (Zai (Zah ?_)))
  refine Zag (v:=.tuple #[.agg #[.bool false, .slice none 0 0, .int .i64 0], .int .i64 0]) (by kernel_rfl) (fun w' R Q=>?_)
  rw [hx0,Nat.zero_mul,Zc1]
  exact ⟨(none,0,0),rfl,Zae.zero _,R⟩
 ·rw [hb10]
  have hb10':=Za5 hb10
  have hx0:¬ x=0:=by omega
  refine xq 5 [(17, .v (.bool ((((m:Nat):Int):Int) == 0)))] [] ?_
  refine xe (Zab ?_)
  refine Zas (((((m:Nat):Int):Int) == 0)) (by kernel_rfl) (fun hb11=>?_) (fun hb11=>?_)
  ·have hb11':=beq_iff_eq.1 hb11
   have hy0:y=0:=by omega
   refine Zac (Zaa (xq 3 [(7, .v (.int .i64 0))] [] ?_))
   refine xe (Zab (Zai (Zah ?_)))
   refine Zag (v:=.tuple #[.agg #[.bool false, .slice none 0 0, .int .i64 0], .int .i64 0]) (by kernel_rfl) (fun w' R Q=>?_)
   rw [hy0,Nat.mul_zero,Zc1]
   exact ⟨(none,0,0),rfl,Zae.zero _,R⟩
  ·have hb11':=Za5 hb11
   have hy0:¬ y=0:=by omega
   refine Zam (Zab (Zac ?_))
   refine Zbr 19 (by kernel_rfl) (by kernel_rfl) ZaA ?_
   refine xqf 9 [(23, .v (.bool (s != t))),eS1 25 A l c,eS1 27 B m d] [(6,79,[.v (.bool false), .v (.slice none 0 0), .v (.int .i64 0)]),(4,79,[.v (.bool t), .v (.slice B m d), .v (.int .i64 f)]),(3,79,[.v (.bool s), .v (.slice A l c), .v (.int .i64 e)])] ?_
   refine xqd 124 [.slice A l c, .slice B m d] 28 ZaJ _ (fun w R Q=>(Zk2 Q.1.2 Q.2 (by omega) (by omega)).mono (fun _ _=>Zay)) (fun xx=>?_)
   obtain ⟨A12,l12,c12⟩:=xx
   refine xqf 5 [(33, .v (.int .i64 (IntKind.i64.wrap (e + f))))] [(6,79,[.v (.bool false), .v (.slice none 0 0), .v (.int .i64 0)]),(4,79,[.v (.bool t), .v (.slice B m d), .v (.int .i64 f)]),(3,79,[.v (.bool s), .v (.slice A l c), .v (.int .i64 e)])] ?_
   rw [show IntKind.i64.wrap (e + f)=e + f from by rw [IntKind.wrap_i64]; omega]
   refine xqf 1 [(34, .v (.int .i64 ((bits:Nat):Int)))] [(6,79,[.v (.bool false), .v (.slice none 0 0), .v (.int .i64 0)]),(4,79,[.v (.bool t), .v (.slice B m d), .v (.int .i64 f)]),(3,79,[.v (.bool s), .v (.slice A l c), .v (.int .i64 e)])] ?_
   obtain ⟨r13,hr13⟩:∃ r,Zbe ((s != t)) (x * y) ((e + f)) bits false=r:=⟨_,rfl⟩
   refine xqd 123 [.bool (s != t), .slice A12 l12 c12, .int .i64 (e + f), .int .i64 ((bits:Nat):Int), .func (.func 125) #[] #[]] 35 (shNb r13) _ (fun w R Q=>((show Calls _ _ _ _ (ZaN w r13) from by rw [← hr13]; exact ZbX ((s != t)) _ _ _ _ ((e + f)) _ _ Q.1.1.1 Q.2 (by have:=Zg6 x y; omega) (by omega) (by omega) (by omega))).mono (fun _ _=>ZaK)) (fun xx=>?_)
   obtain ⟨A13,l13,c13⟩:=xx
   refine xqf 2 [(36, .v (.agg #[.bool r13.s, .slice A13 l13 c13, .int .i64 r13.e])),(37, .v (.int .i64 r13.err))] [(6,79,[.v (.bool false), .v (.slice none 0 0), .v (.int .i64 0)]),(4,79,[.v (.bool t), .v (.slice B m d), .v (.int .i64 f)]),(3,79,[.v (.bool s), .v (.slice A l c), .v (.int .i64 e)])] ?_
   refine xz (xq 2 [(7, .v (.int .i64 r13.err))] [(6,79,[.v (.bool r13.s), .v (.slice A13 l13 c13), .v (.int .i64 r13.e)])] ?_)
   refine xe (Zab (Zai ?_))
   refine Zag (v:=.tuple #[.agg #[.bool r13.s, .slice A13 l13 c13, .int .i64 r13.e], .int .i64 r13.err]) (by kernel_rfl) (fun w' R Q=>?_)
   rw [← Zbi _ _ _ hb0,hr13]
   exact ⟨(A13,l13,c13),rfl,Q.2,R⟩
theorem Zmc (s:Bool) (A:Option Addr) (l c x:Nat) (e:Int) (t:Bool) (B:Option Addr) (m d y:Nat) (f:Int) (bits:Nat) (hb0:0 < bits) (hb:bits≤4096) (w:World) (hg:Glob w) (hX:Zae w (.slice A l c) x) (hwx:wl x≤100000) (he1 : -1073741824≤e) (he2:e≤1073741824) (hY:Zae w (.slice B m d) y) (hwy:wl y≤100000) (hf1 : -1073741824≤f) (hf2:f≤1073741824) :
 Calls Tryz.prog 83 #[.agg #[.bool s, .slice A l c, .int .i64 e], .agg #[.bool t, .slice B m d, .int .i64 f], .int .i64 ((bits:Nat):Int)] w (ZaN w (Zgr (s != t) x y (e - f) bits)):=by
 refine Zau (Φ:=fun w=>((Glob w∧Zae w (.slice A l c) (x))∧Zae w (.slice B m d) (y))) Tryz.func83 rfl (by kernel_rfl) (fun w' hf=>⟨⟨hg.ext hf,hX.ext hf⟩,hY.ext hf⟩) ?_
 refine Zac ?_
 have hln:=hX.len0
 have hlm:=hY.len0
 have hzx:=@ZbJ x
 have hzy:=@ZbJ y
 refine Zaa (xq 4 [(3, .p 3 0),(4, .p 4 0),(6, .p 6 0),(7, .v (.int .i64 0))] [(6,79,[.v (.bool false), .v (.slice none 0 0), .v (.int .i64 0)]),(4,79,[.v (.bool t), .v (.slice B m d), .v (.int .i64 f)]),(3,79,[.v (.bool s), .v (.slice A l c), .v (.int .i64 e)])] ?_)
 refine xe (Zab (Zac (Zac (Zaa (xq 4 [(11, .v (.bool ((((m:Nat):Int):Int) == 0)))] [] ?_)))))
 refine xe (Zab ?_)
 refine Zas (((((m:Nat):Int):Int) == 0)) (by kernel_rfl) (fun hb10=>?_) (fun hb10=>?_)
 ·have hb10':=beq_iff_eq.1 hb10
  have hy0:y=0:=by omega
  refine Zac (Zaa (xq 3 [(7, .v (.int .i64 5))] [] ?_))
  refine xe (Zab (Zai (Zah ?_)))
  refine Zag (v:=.tuple #[.agg #[.bool false, .slice none 0 0, .int .i64 0], .int .i64 5]) (by kernel_rfl) (fun w' R Q=>?_)
  rw [show Zgr (s != t) x y (e - f) bits=⟨false,0,0,5⟩ from if_pos hy0]
  exact ⟨(none,0,0),rfl,Zae.zero _,R⟩
 ·have hb10':=Za5 hb10
  have hy0:¬ y=0:=by omega
  refine Zam (Zab (Zac (Zaa (xq 14 [(17, .v (.bool (s != t))),eS1 19 A l c,eS1 21 B m d,(26, .v (.int .i64 (IntKind.i64.wrap (e - f))))] [] ?_))))
  rw [show IntKind.i64.wrap (e - f)=e - f from by rw [IntKind.wrap_i64]; omega]
  refine xq 1 [(27, .v (.int .i64 ((bits:Nat):Int)))] [] ?_
  obtain ⟨r11,hr11⟩:∃ r,ZaO (s != t) x y ((e - f)) bits=r:=⟨_,rfl⟩
  refine xqc 99 [.bool (s != t), .slice A l c, .slice B m d, .int .i64 (e - f), .int .i64 ((bits:Nat):Int)] 28 (shNb r11) _ (fun w R Q=>((show Calls _ _ _ _ (ZaN w r11) from by rw [← hr11]; exact Zf9 (s != t) _ _ _ x _ _ _ y _ bits _ Q.1.1 Q.1.2 Q.2 (by omega) (by omega) (by omega) (by omega) (by omega) hb0 (by omega))).mono (fun _ _=>ZaK)) (fun xx=>?_)
  obtain ⟨A11,l11,c11⟩:=xx
  refine xq 4 [(7, .v (.int .i64 r11.err))] [(6,79,[.v (.bool r11.s), .v (.slice A11 l11 c11), .v (.int .i64 r11.e)])] ?_
  refine xe (Zab (Zai ?_))
  refine Zag (v:=.tuple #[.agg #[.bool r11.s, .slice A11 l11 c11, .int .i64 r11.e], .int .i64 r11.err]) (by kernel_rfl) (fun w' R Q=>?_)
  rw [show Zgr (s != t) x y (e - f) bits=ZaO (s != t) x y (e - f) bits from if_neg hy0,hr11]
  exact ⟨(A11,l11,c11),rfl,Q.2,R⟩
end Go.Proofs.YtklpdkpcocnglaaGreatDoor

namespace Go.Proofs.YtklpdkpcocnglaaGreatDoor
open Go.RowKit
theorem Zmd (s:Bool) (A:Option Addr) (l c x:Nat) (e:Int) (t:Bool) (B:Option Addr) (m d y:Nat) (f:Int) (bits:Nat) (hb0:0 < bits) (hb:bits≤4096) (w:World) (hg:Glob w) (hX:Zae w (.slice A l c) x) (hwx:wl x≤100000) (he1 : -1073741824≤e) (he2:e≤1073741824) (hY:Zae w (.slice B m d) y) (hwy:wl y≤100000) (hf1 : -1073741824≤f) (hf2:f≤1073741824) :
 Calls Tryz.prog 84 #[.agg #[.bool s, .slice A l c, .int .i64 e], .agg #[.bool t, .slice B m d, .int .i64 f], .int .i64 ((bits:Nat):Int)] w (ZaN w (sumR s x e t y f bits)):=by
 refine Zau (Φ:=fun w=>((Glob w∧Zae w (.slice A l c) (x))∧Zae w (.slice B m d) (y))) Tryz.func84 rfl (by kernel_rfl) (fun w' hf=>⟨⟨hg.ext hf,hX.ext hf⟩,hY.ext hf⟩) ?_
 refine Zac ?_
 have hln:=hX.len0
 have hlm:=hY.len0
 have hzx:=@ZbJ x
 have hzy:=@ZbJ y
 have hbx:=Zc2 x
 have hby:=Zc2 y
 refine Zaa (xq 4 [(3, .p 3 0),(4, .p 4 0),(6, .p 6 0),(7, .v (.int .i64 0))] [(6,79,[.v (.bool false), .v (.slice none 0 0), .v (.int .i64 0)]),(4,79,[.v (.bool t), .v (.slice B m d), .v (.int .i64 f)]),(3,79,[.v (.bool s), .v (.slice A l c), .v (.int .i64 e)])] ?_)
 refine xe (Zab (Zac (Zac (Zaa (xq 4 [(15, .v (.bool ((((l:Nat):Int):Int) == 0)))] [] ?_)))))
 refine xe (Zab ?_)
 refine Zas (((((l:Nat):Int):Int) == 0)) (by kernel_rfl) (fun hb10=>?_) (fun hb10=>?_)
 ·have hb10':=beq_iff_eq.1 hb10
  have hx0:x=0:=by omega
  refine Zaa (xq 4 [] [(4,79,[.v (.bool s), .v (.slice A l c), .v (.int .i64 e)]),(3,79,[.v (.bool t), .v (.slice B m d), .v (.int .i64 f)])] ?_)
  refine xe (Zab (Zac (Zac (Zaa (xq 4 [(21, .v (.bool ((((l:Nat):Int):Int) == 0)))] [] ?_)))))
  rw [hb10]
  refine xe (Zab (xa (Zac (Zaa (xq 7 [(23, .v (.bool t)),eS1 25 B m d,(27, .v (.int .i64 f)),(28, .v (.int .i64 ((bits:Nat):Int)))] [] ?_)))))
  obtain ⟨r11,hr11⟩:∃ r,Zbe t (y) (f) bits false=r:=⟨_,rfl⟩
  refine xqc 123 [.bool t, .slice B m d, .int .i64 f, .int .i64 ((bits:Nat):Int), .func (.func 125) #[] #[]] 29 (shNb r11) _ (fun w R Q=>((show Calls _ _ _ _ (ZaN w r11) from by rw [← hr11]; exact ZbX t _ _ _ _ f _ _ Q.1.1 Q.2 (by omega) (by omega) (by omega) (by omega))).mono (fun _ _=>ZaK)) (fun xx=>?_)
  obtain ⟨A11,l11,c11⟩:=xx
  refine xq 4 [(7, .v (.int .i64 r11.err))] [(6,79,[.v (.bool r11.s), .v (.slice A11 l11 c11), .v (.int .i64 r11.e)])] ?_
  refine xe (Zab (Zai (Zah ?_)))
  refine Zag (v:=.tuple #[.agg #[.bool r11.s, .slice A11 l11 c11, .int .i64 r11.e], .int .i64 r11.err]) (by kernel_rfl) (fun w' R Q=>?_)
  rw [show sumR s x e t y f bits=ZaO t y 1 f bits from if_pos hx0,← Zbi _ _ _ hb0,hr11]
  exact ⟨(A11,l11,c11),rfl,Q.2,R⟩
 ·have hb10':=Za5 hb10
  have hx0:¬ x=0:=by omega
  refine Zam (Zab (Zac (Zac (Zaa (xq 4 [(21, .v (.bool ((((m:Nat):Int):Int) == 0)))] [] ?_)))))
  refine xe (Zab ?_)
  refine Zas (((((m:Nat):Int):Int) == 0)) (by kernel_rfl) (fun hb12=>?_) (fun hb12=>?_)
  ·have hb12':=beq_iff_eq.1 hb12
   have hy0:y=0:=by omega
   refine Zac (Zaa (xq 7 [(23, .v (.bool s)),eS1 25 A l c,(27, .v (.int .i64 e)),(28, .v (.int .i64 ((bits:Nat):Int)))] [] ?_))
   obtain ⟨r13,hr13⟩:∃ r,Zbe s (x) (e) bits false=r:=⟨_,rfl⟩
   refine xqc 123 [.bool s, .slice A l c, .int .i64 e, .int .i64 ((bits:Nat):Int), .func (.func 125) #[] #[]] 29 (shNb r13) _ (fun w R Q=>((show Calls _ _ _ _ (ZaN w r13) from by rw [← hr13]; exact ZbX s _ _ _ _ e _ _ Q.1.1 Q.1.2 (by omega) (by omega) (by omega) (by omega))).mono (fun _ _=>ZaK)) (fun xx=>?_)
   obtain ⟨A13,l13,c13⟩:=xx
   refine xq 4 [(7, .v (.int .i64 r13.err))] [(6,79,[.v (.bool r13.s), .v (.slice A13 l13 c13), .v (.int .i64 r13.e)])] ?_
   refine xe (Zab (Zai (Zah ?_)))
   refine Zag (v:=.tuple #[.agg #[.bool r13.s, .slice A13 l13 c13, .int .i64 r13.e], .int .i64 r13.err]) (by kernel_rfl) (fun w' R Q=>?_)
   rw [show sumR s x e t y f bits=ZaO s x 1 e bits from by unfold sumR; rw [if_neg hx0,if_pos hy0],← Zbi _ _ _ hb0,hr13]
   exact ⟨(A13,l13,c13),rfl,Q.2,R⟩
  ·have hb12':=Za5 hb12
   have hy0:¬ y=0:=by omega
   refine Zam (Zab ?_)
   refine Zjd (fun ss ff=>∃ (sp:Bool) (P1:Option Addr) (pl pc p:Nat) (i:Int) (sq:Bool) (Q1:Option Addr) (ql qc q:Nat) (k:Int),ss=ofL [(2, .v (.int .i64 ((bits:Nat):Int))),(3, .p 3 0),(4, .p 4 0),(6, .p 6 0),(7, .v (.int .i64 0))] [(6,79,[.v (.bool false), .v (.slice none 0 0), .v (.int .i64 0)]),(3,79,[.v (.bool sp), .v (.slice P1 pl pc), .v (.int .i64 i)]),(4,79,[.v (.bool sq), .v (.slice Q1 ql qc), .v (.int .i64 k)])]∧ff=(fun w=>((Glob w∧Zae w (.slice P1 pl pc) (p))∧Zae w (.slice Q1 ql qc) (q)))∧(0 < p)∧(0 < q)∧(wl p≤100000)∧(wl q≤100000)∧(-1073741824≤i)∧(i≤1073741824)∧(-1073741824≤k)∧(k≤1073741824)∧(((blen q:Nat):Int) + k≤((blen p:Nat):Int) + i)∧(addR s x e t y f bits=addR sp p i sq q k bits)) ?_ ?_
   ·refine Zac ?_
    refine Zbr 5 (by kernel_rfl) (by kernel_rfl) ZaA ?_
    refine xqf 1 [(32, .v (.agg #[.bool s, .slice A l c, .int .i64 e]))] [(6,79,[.v (.bool false), .v (.slice none 0 0), .v (.int .i64 0)]),(4,79,[.v (.bool t), .v (.slice B m d), .v (.int .i64 f)]),(3,79,[.v (.bool s), .v (.slice A l c), .v (.int .i64 e)])] ?_
    refine xqd 121 [.agg #[.bool s, .slice A l c, .int .i64 e]] 33 (fun _:Unit=>.int .i64 (((blen x:Nat):Int) + e)) _ (fun w R Q=>(ZeI _ _ _ _ _ _ _ Q.1.2 (by omega) (by omega) (by omega)).mono (fun _ _ h=>Zak h rfl)) (fun xx=>?_)
    refine xqf 1 [(34, .v (.agg #[.bool t, .slice B m d, .int .i64 f]))] [(6,79,[.v (.bool false), .v (.slice none 0 0), .v (.int .i64 0)]),(4,79,[.v (.bool t), .v (.slice B m d), .v (.int .i64 f)]),(3,79,[.v (.bool s), .v (.slice A l c), .v (.int .i64 e)])] ?_
    refine xqd 121 [.agg #[.bool t, .slice B m d, .int .i64 f]] 35 (fun _:Unit=>.int .i64 (((blen y:Nat):Int) + f)) _ (fun w R Q=>(ZeI _ _ _ _ _ _ _ Q.1.2 (by omega) (by omega) (by omega)).mono (fun _ _ h=>Zak h rfl)) (fun xx=>?_)
    refine xqf 1 [(36, .v (.bool (decide ((((blen x:Nat):Int) + e) < (((blen y:Nat):Int) + f)))))] [(6,79,[.v (.bool false), .v (.slice none 0 0), .v (.int .i64 0)]),(4,79,[.v (.bool t), .v (.slice B m d), .v (.int .i64 f)]),(3,79,[.v (.bool s), .v (.slice A l c), .v (.int .i64 e)])] ?_
    refine xz (xe (Zab ?_))
    refine Zas ((decide ((((blen x:Nat):Int) + e) < (((blen y:Nat):Int) + f)))) (by kernel_rfl) (fun hb14=>?_) (fun hb14=>?_)
    ·have hb14':=of_decide_eq_true hb14
     refine Zaa (xq 4 [] [(4,79,[.v (.bool s), .v (.slice A l c), .v (.int .i64 e)]),(3,79,[.v (.bool t), .v (.slice B m d), .v (.int .i64 f)])] ?_)
     refine xe ?_
     refine SXq.weak [(2, .v (.int .i64 ((bits:Nat):Int))),(3, .p 3 0),(4, .p 4 0),(6, .p 6 0),(7, .v (.int .i64 0))] [(6,79,[.v (.bool false), .v (.slice none 0 0), .v (.int .i64 0)]),(3,79,[.v (.bool t), .v (.slice B m d), .v (.int .i64 f)]),(4,79,[.v (.bool s), .v (.slice A l c), .v (.int .i64 e)])] (Ψ:=fun w=>((Glob w∧Zae w (.slice B m d) (y))∧Zae w (.slice A l c) (x))) (ZaB.of (by kernel_rfl)) (by kernel_rfl) (fun w Q=>⟨⟨Q.1.1.1.1,Q.1.1.2⟩,Q.1.1.1.2⟩) ?_
     exact ZcZ ⟨t,B,m,d,y,f,s,A,l,c,x,e,rfl,rfl,(by omega),(by omega),(by omega),(by omega),(by omega),(by omega),(by omega),(by omega),(by omega),(Zl6 _ _ _ _ _ _ _)⟩
    ·have hb14':=of_decide_eq_false hb14
     refine Zam ?_
     refine SXq.weak [(2, .v (.int .i64 ((bits:Nat):Int))),(3, .p 3 0),(4, .p 4 0),(6, .p 6 0),(7, .v (.int .i64 0))] [(6,79,[.v (.bool false), .v (.slice none 0 0), .v (.int .i64 0)]),(3,79,[.v (.bool s), .v (.slice A l c), .v (.int .i64 e)]),(4,79,[.v (.bool t), .v (.slice B m d), .v (.int .i64 f)])] (Ψ:=fun w=>((Glob w∧Zae w (.slice A l c) (x))∧Zae w (.slice B m d) (y))) (ZaB.of (by kernel_rfl)) (by kernel_rfl) (fun w Q=>⟨⟨Q.1.1.1.1,Q.1.1.1.2⟩,Q.1.1.2⟩) ?_
     exact ZcZ ⟨s,A,l,c,x,e,t,B,m,d,y,f,rfl,rfl,(by omega),(by omega),(by omega),(by omega),(by omega),(by omega),(by omega),(by omega),(by omega),rfl⟩
   ·rintro ss ff ⟨sp,P1,pl,pc,p,i,sq,Q1,ql,qc,q,k,rfl,rfl,hp0,hq0,hwp,hwq,hi1,hi2,hk1,hk2,htop,hsum⟩
    refine Zac (Zac ?_)
    have hbp:=Zc2 p
    have hbq:=Zc2 q
    have hp1:=Zde hp0
    have hq1:=Zde hq0
    obtain ⟨z,hz⟩:∃ z:Int,min i (((blen p:Nat):Int) + i - ((bits:Nat):Int) - 2)=z:=⟨_,rfl⟩
    refine Zbr 9 (by kernel_rfl) (by kernel_rfl) ZaA ?_
    refine xqf 3 [(40, .v (.int .i64 i)),(41, .v (.agg #[.bool sp, .slice P1 pl pc, .int .i64 i]))] [(6,79,[.v (.bool false), .v (.slice none 0 0), .v (.int .i64 0)]),(3,79,[.v (.bool sp), .v (.slice P1 pl pc), .v (.int .i64 i)]),(4,79,[.v (.bool sq), .v (.slice Q1 ql qc), .v (.int .i64 k)])] ?_
    refine xqd 121 [.agg #[.bool sp, .slice P1 pl pc, .int .i64 i]] 42 (fun _:Unit=>.int .i64 (((blen p:Nat):Int) + i)) _ (fun w R Q=>(ZeI _ _ _ _ _ _ _ Q.1.2 (by omega) (by omega) (by omega)).mono (fun _ _ h=>Zak h rfl)) (fun xx=>?_)
    refine xqf 2 [(44, .v (.int .i64 (IntKind.i64.wrap ((((blen p:Nat):Int) + i) - ((bits:Nat):Int)))))] [(6,79,[.v (.bool false), .v (.slice none 0 0), .v (.int .i64 0)]),(3,79,[.v (.bool sp), .v (.slice P1 pl pc), .v (.int .i64 i)]),(4,79,[.v (.bool sq), .v (.slice Q1 ql qc), .v (.int .i64 k)])] ?_
    rw [show IntKind.i64.wrap (((blen p:Nat):Int) + i - ((bits:Nat):Int))=((blen p:Nat):Int) + i - ((bits:Nat):Int) from by rw [IntKind.wrap_i64]; omega]
    refine xqf 1 [(45, .v (.int .i64 (IntKind.i64.wrap ((((blen p:Nat):Int) + i - ((bits:Nat):Int)) - 2))))] [(6,79,[.v (.bool false), .v (.slice none 0 0), .v (.int .i64 0)]),(3,79,[.v (.bool sp), .v (.slice P1 pl pc), .v (.int .i64 i)]),(4,79,[.v (.bool sq), .v (.slice Q1 ql qc), .v (.int .i64 k)])] ?_
    rw [show IntKind.i64.wrap (((blen p:Nat):Int) + i - ((bits:Nat):Int) - 2)=((blen p:Nat):Int) + i - ((bits:Nat):Int) - 2 from by rw [IntKind.wrap_i64]; omega]
    refine xqf 1 [(46, .v (.int .i64 (if (((blen p:Nat):Int) + i - ((bits:Nat):Int) - 2) < i then (((blen p:Nat):Int) + i - ((bits:Nat):Int) - 2) else i)))] [(6,79,[.v (.bool false), .v (.slice none 0 0), .v (.int .i64 0)]),(3,79,[.v (.bool sp), .v (.slice P1 pl pc), .v (.int .i64 i)]),(4,79,[.v (.bool sq), .v (.slice Q1 ql qc), .v (.int .i64 k)])] ?_
    rw [(show (if ((blen p:Nat):Int) + i - ((bits:Nat):Int) - 2 < i then ((blen p:Nat):Int) + i - ((bits:Nat):Int) - 2 else i)=z from ZhW.trans hz)]
    refine xqf 1 [(8, .v (.int .i64 z))] [(6,79,[.v (.bool false), .v (.slice none 0 0), .v (.int .i64 0)]),(3,79,[.v (.bool sp), .v (.slice P1 pl pc), .v (.int .i64 i)]),(4,79,[.v (.bool sq), .v (.slice Q1 ql qc), .v (.int .i64 k)])] ?_
    refine xz (xe (Zab (Zac (Zaa (xq 1 [(47, .v (.agg #[.bool sq, .slice Q1 ql qc, .int .i64 k]))] [] ?_)))))
    refine xqc 121 [.agg #[.bool sq, .slice Q1 ql qc, .int .i64 k]] 48 (fun _:Unit=>.int .i64 (((blen q:Nat):Int) + k)) _ (fun w R Q=>(ZeI _ _ _ _ _ _ _ Q.1.2 (by omega) (by omega) (by omega)).mono (fun _ _ h=>Zak h rfl)) (fun xx=>?_)
    refine xq 2 [(50, .v (.bool (decide ((((blen q:Nat):Int) + k)≤z))))] [] ?_
    refine xe (Zab ?_)
    refine Zas ((decide ((((blen q:Nat):Int) + k)≤z))) (by kernel_rfl) (fun hb15=>?_) (fun hb15=>?_)
    ·have hb15':=of_decide_eq_true hb15
     refine Zaa (xq 2 [(52, .v (.bool sq))] [] ?_)
     refine ZcB (d:=53) (fun zb:Nat=>.slice (some ⟨zb,0,none⟩) 1 1) (fun zb zw=>Blk 94 zw zb #[.int .u64 1]) (by kernel_rfl) (by kernel_rfl) (by kernel_rfl) (by kernel_rfl) (by kernel_rfl) (by kernel_rfl) (fun w R Q=>Zb0 (t:=77) (e:=94) (n:=1) (sz:=1) (z:=.int .u64 0) (parts:=#[(0,Operand.const (Value.int IntKind.u64 1))]) (by kernel_rfl) (by kernel_rfl) (by kernel_rfl) (by kernel_rfl) (by kernel_rfl) (by kernel_rfl)) (fun b16=>?_)
     refine xr 2 [(2, .v (.int .i64 ((bits:Nat):Int))),(3, .p 3 0),(4, .p 4 0),(6, .p 6 0),(7, .v (.int .i64 0)),(52, .v (.bool sq)),eS1 53 (some ⟨b16,0,none⟩) 1 1,(55, .v (.int .i64 (IntKind.i64.wrap (z - 1))))] [(6,79,[.v (.bool false), .v (.slice none 0 0), .v (.int .i64 0)]),(3,79,[.v (.bool sp), .v (.slice P1 pl pc), .v (.int .i64 i)]),(4,79,[.v (.bool sq), .v (.slice Q1 ql qc), .v (.int .i64 k)])] ?_
     rw [show IntKind.i64.wrap (z - 1)=z - 1 from by rw [IntKind.wrap_i64]; omega]
     refine xq 2 [] [(4,79,[.v (.bool sq), .v (.slice (some ⟨b16,0,none⟩) 1 1), .v (.int .i64 (z - 1))])] ?_
     refine xe (Zab (Zac ?_))
     obtain ⟨low,hlow⟩:∃ z':Int,min i (z - 1)=z':=⟨_,rfl⟩
     obtain ⟨u1,hu1⟩:∃ u:Nat,i - low=u:=Int.eq_ofNat_of_zero_le (by omega)
     obtain ⟨u2,hu2⟩:∃ u:Nat,(z - 1) - low=u:=Int.eq_ofNat_of_zero_le (by omega)
     have hS:addR s x e t y f bits=addR sp p i sq 1 (z - 1) bits:=hsum.trans (Zk3 _ _ _ _ hb0 hp0 hq0 (by omega) (by omega) (by omega))
     rw [Zjn hlow hu1 hu2] at hS
     have hv1:u1≤100000000:=by omega
     have hv2:u2≤100000000:=by omega
     have hlo1 : -4294967296≤low:=by omega
     have hlo2:low≤4294967296:=by omega
     obtain ⟨a,ha⟩:∃ a,p * 2 ^ u1=a:=⟨_,rfl⟩
     obtain ⟨b,hb'⟩:∃ b,1 * 2 ^ u2=b:=⟨_,rfl⟩
     have hwa:wl a≤4000000:=by rw [← ha]; exact ZiM (by omega) hv1
     have hwb:wl b≤4000000:=by rw [← hb']; exact ZiM (Nat.le_trans (ZdT.2 (by rw [Zal]; decide)) (by decide)) hv2
     have ha0:0 < a:=by rw [← ha]; exact Nat.mul_pos hp0 (p2 u1)
     rw [ha,hb'] at hS
     refine Zaa (xq 5 [(61, .v (.int .i64 (if (z - 1) < i then (z - 1) else i)))] [] ?_)
     rw [(show (if (z - 1) < i then (z - 1) else i)=low from ZhW.trans hlow)]
     refine xq 1 [(9, .v (.int .i64 low))] [] ?_
     refine xe (Zab (Zac ?_))
     refine SXc.weak [(2, .v (.int .i64 ((bits:Nat):Int))),(3, .p 3 0),(4, .p 4 0),(6, .p 6 0),(7, .v (.int .i64 0)),(9, .v (.int .i64 low))] [(6,79,[.v (.bool false), .v (.slice none 0 0), .v (.int .i64 0)]),(3,79,[.v (.bool sp), .v (.slice P1 pl pc), .v (.int .i64 i)]),(4,79,[.v (.bool sq), .v (.slice (some ⟨b16,0,none⟩) 1 1), .v (.int .i64 (z - 1))])] (ZaB.of (by kernel_rfl)) (by kernel_rfl) (fun _ h=>h) ?_
     refine Zbr 16 (by kernel_rfl) (by kernel_rfl) ZaA ?_
     refine xqf 6 [eS1 63 P1 pl pc,(67, .v (.int .i64 (IntKind.i64.wrap (i - low))))] [(6,79,[.v (.bool false), .v (.slice none 0 0), .v (.int .i64 0)]),(3,79,[.v (.bool sp), .v (.slice P1 pl pc), .v (.int .i64 i)]),(4,79,[.v (.bool sq), .v (.slice (some ⟨b16,0,none⟩) 1 1), .v (.int .i64 (z - 1))])] ?_
     rw [show IntKind.i64.wrap (i - low)=((u1:Nat):Int) from by rw [IntKind.wrap_i64]; omega]
     refine xqd 66 [.slice P1 pl pc, .int .i64 ((u1:Nat):Int)] 68 ZaJ _ (fun w R Q=>(Zdn u1 Q.1.1.1.1.2 (by omega) (by omega)).mono (fun _ _ h=>Zay (by rw [ha] at h; exact h))) (fun xx=>?_)
     obtain ⟨A17,l17,c17⟩:=xx
     refine xqf 6 [eS1 70 (some ⟨b16,0,none⟩) 1 1,(74, .v (.int .i64 (IntKind.i64.wrap ((z - 1) - low))))] [(6,79,[.v (.bool false), .v (.slice none 0 0), .v (.int .i64 0)]),(3,79,[.v (.bool sp), .v (.slice P1 pl pc), .v (.int .i64 i)]),(4,79,[.v (.bool sq), .v (.slice (some ⟨b16,0,none⟩) 1 1), .v (.int .i64 (z - 1))])] ?_
     rw [show IntKind.i64.wrap ((z - 1) - low)=((u2:Nat):Int) from by rw [IntKind.wrap_i64]; omega]
     refine xqd 66 [.slice (some ⟨b16,0,none⟩) 1 1, .int .i64 ((u2:Nat):Int)] 75 ZaJ _ (fun w R Q=>(Zdn u2 (ZdL Q.1.2) wl_1 (by omega)).mono (fun _ _ h=>Zay (by rw [hb'] at h; exact h))) (fun xx=>?_)
     obtain ⟨A18,l18,c18⟩:=xx
     refine xqf 2 [eS1 10 A17 l17 c17,eS1 11 A18 l18 c18] [(6,79,[.v (.bool false), .v (.slice none 0 0), .v (.int .i64 0)]),(3,79,[.v (.bool sp), .v (.slice P1 pl pc), .v (.int .i64 i)]),(4,79,[.v (.bool sq), .v (.slice (some ⟨b16,0,none⟩) 1 1), .v (.int .i64 (z - 1))])] ?_
     refine xz (xe (Zab (Zac (Zax (Zac (Zaa (xq 6 [(76, .v (.bool (sp == sq)))] [] ?_)))))))
     refine xe (Zab ?_)
     refine Zas ((sp == sq)) (by kernel_rfl) (fun hb19=>?_) (fun hb19=>?_)
     ·have hss:sp=sq:=eq_of_beq hb19
      refine Zac ?_
      refine Zbr 10 (by kernel_rfl) (by kernel_rfl) ZaA ?_
      refine xqf 4 [(83, .v (.bool sp)),eS1 84 A17 l17 c17,eS1 85 A18 l18 c18] [(6,79,[.v (.bool false), .v (.slice none 0 0), .v (.int .i64 0)]),(3,79,[.v (.bool sp), .v (.slice P1 pl pc), .v (.int .i64 i)]),(4,79,[.v (.bool sq), .v (.slice (some ⟨b16,0,none⟩) 1 1), .v (.int .i64 (z - 1))])] ?_
      refine xqd 126 [.slice A17 l17 c17, .slice A18 l18 c18] 86 ZaJ _ (fun w R Q=>(Zcq Q.1.2 Q.2 (by omega) (by omega)).mono (fun _ _=>Zay)) (fun xx=>?_)
      obtain ⟨A20,l20,c20⟩:=xx
      refine xqf 2 [(87, .v (.int .i64 low)),(88, .v (.int .i64 ((bits:Nat):Int)))] [(6,79,[.v (.bool false), .v (.slice none 0 0), .v (.int .i64 0)]),(3,79,[.v (.bool sp), .v (.slice P1 pl pc), .v (.int .i64 i)]),(4,79,[.v (.bool sq), .v (.slice (some ⟨b16,0,none⟩) 1 1), .v (.int .i64 (z - 1))])] ?_
      obtain ⟨r21,hr21⟩:∃ r,Zbe sp (a + b) (low) bits false=r:=⟨_,rfl⟩
      refine xqd 123 [.bool sp, .slice A20 l20 c20, .int .i64 low, .int .i64 ((bits:Nat):Int), .func (.func 125) #[] #[]] 89 (shNb r21) _ (fun w R Q=>((show Calls _ _ _ _ (ZaN w r21) from by rw [← hr21]; exact ZbX sp _ _ _ _ low _ _ Q.1.1.1.1.1.1.1.1 Q.2 (by have:=Zlt hwa hwb; omega) (by omega) (by omega) (by omega))).mono (fun _ _=>ZaK)) (fun xx=>?_)
      obtain ⟨A21,l21,c21⟩:=xx
      refine xqf 2 [(90, .v (.agg #[.bool r21.s, .slice A21 l21 c21, .int .i64 r21.e])),(91, .v (.int .i64 r21.err))] [(6,79,[.v (.bool false), .v (.slice none 0 0), .v (.int .i64 0)]),(3,79,[.v (.bool sp), .v (.slice P1 pl pc), .v (.int .i64 i)]),(4,79,[.v (.bool sq), .v (.slice (some ⟨b16,0,none⟩) 1 1), .v (.int .i64 (z - 1))])] ?_
      refine xz (xq 2 [(7, .v (.int .i64 r21.err))] [(6,79,[.v (.bool r21.s), .v (.slice A21 l21 c21), .v (.int .i64 r21.e)])] ?_)
      refine xe (Zab (Zai (Zbl (Zah ?_))))
      refine Zag (v:=.tuple #[.agg #[.bool r21.s, .slice A21 l21 c21, .int .i64 r21.e], .int .i64 r21.err]) (by kernel_rfl) (fun w' R Q=>?_)
      rw [show sumR s x e t y f bits=addR s x e t y f bits from by unfold sumR; rw [if_neg (by omega),if_neg (by omega)],hS]
      rw [Zin ha0 hss,← Zbi _ _ _ hb0,hr21]
      exact ⟨(A21,l21,c21),rfl,Q.2,R⟩
     ·have hss:¬ sp=sq:=fun e'=>by rw [e'] at hb19; simp at hb19
      refine Zac (Zaa (xq 2 [eS1 93 A17 l17 c17,eS1 94 A18 l18 c18] [] ?_))
      refine xqc 122 [.slice A17 l17 c17, .slice A18 l18 c18] 95 (fun _:Unit=>.int .i64 (cmpI ((a:Nat):Int) ((b:Nat):Int))) _ (fun w R Q=>(Zep Q.1.2 Q.2 (by omega)).mono (fun _ _ h=>Zak h rfl)) (fun xx=>?_)
      refine xq 2 [(92, .v (.bool (decide ((cmpI ((a:Nat):Int) ((b:Nat):Int)) ≥ 0))))] [] ?_
      refine xe (Zab ?_)
      refine Zas ((decide ((cmpI ((a:Nat):Int) ((b:Nat):Int)) ≥ 0))) (by kernel_rfl) (fun hb22=>?_) (fun hb22=>?_)
      ·have hle:b≤a:=by have:=Zgs.1 (of_decide_eq_true hb22); omega
       refine Zac ?_
       refine Zbr 10 (by kernel_rfl) (by kernel_rfl) ZaA ?_
       refine xqf 4 [(98, .v (.bool sp)),eS1 99 A17 l17 c17,eS1 100 A18 l18 c18] [(6,79,[.v (.bool false), .v (.slice none 0 0), .v (.int .i64 0)]),(3,79,[.v (.bool sp), .v (.slice P1 pl pc), .v (.int .i64 i)]),(4,79,[.v (.bool sq), .v (.slice (some ⟨b16,0,none⟩) 1 1), .v (.int .i64 (z - 1))])] ?_
       refine xqd 127 [.slice A17 l17 c17, .slice A18 l18 c18] 101 ZaJ _ (fun w R Q=>(Zd7 Q.1.1.2 Q.1.2 (by omega) hle).mono (fun _ _=>Zay)) (fun xx=>?_)
       obtain ⟨A23,l23,c23⟩:=xx
       refine xqf 2 [(102, .v (.int .i64 low)),(103, .v (.int .i64 ((bits:Nat):Int)))] [(6,79,[.v (.bool false), .v (.slice none 0 0), .v (.int .i64 0)]),(3,79,[.v (.bool sp), .v (.slice P1 pl pc), .v (.int .i64 i)]),(4,79,[.v (.bool sq), .v (.slice (some ⟨b16,0,none⟩) 1 1), .v (.int .i64 (z - 1))])] ?_
       obtain ⟨r24,hr24⟩:∃ r,Zbe sp (a - b) (low) bits false=r:=⟨_,rfl⟩
       refine xqd 123 [.bool sp, .slice A23 l23 c23, .int .i64 low, .int .i64 ((bits:Nat):Int), .func (.func 125) #[] #[]] 104 (shNb r24) _ (fun w R Q=>((show Calls _ _ _ _ (ZaN w r24) from by rw [← hr24]; exact ZbX sp _ _ _ _ low _ _ Q.1.1.1.1.1.1.1.1.1 Q.2 (Nat.le_trans (Zbc (Nat.sub_le _ _)) (by omega)) (by omega) (by omega) (by omega))).mono (fun _ _=>ZaK)) (fun xx=>?_)
       obtain ⟨A24,l24,c24⟩:=xx
       refine xqf 2 [(105, .v (.agg #[.bool r24.s, .slice A24 l24 c24, .int .i64 r24.e])),(106, .v (.int .i64 r24.err))] [(6,79,[.v (.bool false), .v (.slice none 0 0), .v (.int .i64 0)]),(3,79,[.v (.bool sp), .v (.slice P1 pl pc), .v (.int .i64 i)]),(4,79,[.v (.bool sq), .v (.slice (some ⟨b16,0,none⟩) 1 1), .v (.int .i64 (z - 1))])] ?_
       refine xz (xq 2 [(7, .v (.int .i64 r24.err))] [(6,79,[.v (.bool r24.s), .v (.slice A24 l24 c24), .v (.int .i64 r24.e)])] ?_)
       refine xe (Zab (Zai (Zbl (Zah ?_))))
       refine Zag (v:=.tuple #[.agg #[.bool r24.s, .slice A24 l24 c24, .int .i64 r24.e], .int .i64 r24.err]) (by kernel_rfl) (fun w' R Q=>?_)
       rw [show sumR s x e t y f bits=addR s x e t y f bits from by unfold sumR; rw [if_neg (by omega),if_neg (by omega)],hS]
       rw [ZhB hss hle,← Zbi _ _ _ hb0,hr24]
       exact ⟨(A24,l24,c24),rfl,Q.2,R⟩
      ·have hlt:a < b:=by have:=mt Zgs.2 (of_decide_eq_false hb22); omega
       refine Zam (Zbk (Zab (Zac ?_)))
       refine Zbr 10 (by kernel_rfl) (by kernel_rfl) ZaA ?_
       refine xqf 4 [(108, .v (.bool sq)),eS1 109 A18 l18 c18,eS1 110 A17 l17 c17] [(6,79,[.v (.bool false), .v (.slice none 0 0), .v (.int .i64 0)]),(3,79,[.v (.bool sp), .v (.slice P1 pl pc), .v (.int .i64 i)]),(4,79,[.v (.bool sq), .v (.slice (some ⟨b16,0,none⟩) 1 1), .v (.int .i64 (z - 1))])] ?_
       refine xqd 127 [.slice A18 l18 c18, .slice A17 l17 c17] 111 ZaJ _ (fun w R Q=>(Zd7 Q.1.2 Q.1.1.2 (by omega) (by omega)).mono (fun _ _=>Zay)) (fun xx=>?_)
       obtain ⟨A25,l25,c25⟩:=xx
       refine xqf 2 [(112, .v (.int .i64 low)),(113, .v (.int .i64 ((bits:Nat):Int)))] [(6,79,[.v (.bool false), .v (.slice none 0 0), .v (.int .i64 0)]),(3,79,[.v (.bool sp), .v (.slice P1 pl pc), .v (.int .i64 i)]),(4,79,[.v (.bool sq), .v (.slice (some ⟨b16,0,none⟩) 1 1), .v (.int .i64 (z - 1))])] ?_
       obtain ⟨r26,hr26⟩:∃ r,Zbe sq (b - a) (low) bits false=r:=⟨_,rfl⟩
       refine xqd 123 [.bool sq, .slice A25 l25 c25, .int .i64 low, .int .i64 ((bits:Nat):Int), .func (.func 125) #[] #[]] 114 (shNb r26) _ (fun w R Q=>((show Calls _ _ _ _ (ZaN w r26) from by rw [← hr26]; exact ZbX sq _ _ _ _ low _ _ Q.1.1.1.1.1.1.1.1.1 Q.2 (Nat.le_trans (Zbc (Nat.sub_le _ _)) (by omega)) (by omega) (by omega) (by omega))).mono (fun _ _=>ZaK)) (fun xx=>?_)
       obtain ⟨A26,l26,c26⟩:=xx
       refine xqf 2 [(115, .v (.agg #[.bool r26.s, .slice A26 l26 c26, .int .i64 r26.e])),(116, .v (.int .i64 r26.err))] [(6,79,[.v (.bool false), .v (.slice none 0 0), .v (.int .i64 0)]),(3,79,[.v (.bool sp), .v (.slice P1 pl pc), .v (.int .i64 i)]),(4,79,[.v (.bool sq), .v (.slice (some ⟨b16,0,none⟩) 1 1), .v (.int .i64 (z - 1))])] ?_
       refine xz (xq 2 [(7, .v (.int .i64 r26.err))] [(6,79,[.v (.bool r26.s), .v (.slice A26 l26 c26), .v (.int .i64 r26.e)])] ?_)
       refine xe (Zab (Zai ?_))
       refine Zag (v:=.tuple #[.agg #[.bool r26.s, .slice A26 l26 c26, .int .i64 r26.e], .int .i64 r26.err]) (by kernel_rfl) (fun w' R Q=>?_)
       rw [show sumR s x e t y f bits=addR s x e t y f bits from by unfold sumR; rw [if_neg (by omega),if_neg (by omega)],hS]
       rw [ZgJ hss hlt,← Zbi _ _ _ hb0,hr26]
       exact ⟨(A26,l26,c26),rfl,Q.2,R⟩
    ·have hb15':=of_decide_eq_false hb15
     refine Zam (Zab (Zac ?_))
     obtain ⟨low,hlow⟩:∃ z':Int,min i k=z':=⟨_,rfl⟩
     obtain ⟨u1,hu1⟩:∃ u:Nat,i - low=u:=Int.eq_ofNat_of_zero_le (by omega)
     obtain ⟨u2,hu2⟩:∃ u:Nat,k - low=u:=Int.eq_ofNat_of_zero_le (by omega)
     have hS:=hsum
     rw [Zjn hlow hu1 hu2] at hS
     have hv1:u1≤100000000:=by omega
     have hv2:u2≤100000000:=by omega
     have hlo1 : -4294967296≤low:=by omega
     have hlo2:low≤4294967296:=by omega
     obtain ⟨a,ha⟩:∃ a,p * 2 ^ u1=a:=⟨_,rfl⟩
     obtain ⟨b,hb'⟩:∃ b,q * 2 ^ u2=b:=⟨_,rfl⟩
     have hwa:wl a≤4000000:=by rw [← ha]; exact ZiM (by omega) hv1
     have hwb:wl b≤4000000:=by rw [← hb']; exact ZiM (by omega) hv2
     have ha0:0 < a:=by rw [← ha]; exact Nat.mul_pos hp0 (p2 u1)
     rw [ha,hb'] at hS
     refine Zaa (xq 5 [(61, .v (.int .i64 (if k < i then k else i)))] [] ?_)
     rw [(show (if k < i then k else i)=low from ZhW.trans hlow)]
     refine xq 1 [(9, .v (.int .i64 low))] [] ?_
     refine xe (Zab (Zac ?_))
     refine SXc.weak [(2, .v (.int .i64 ((bits:Nat):Int))),(3, .p 3 0),(4, .p 4 0),(6, .p 6 0),(7, .v (.int .i64 0)),(9, .v (.int .i64 low))] [(6,79,[.v (.bool false), .v (.slice none 0 0), .v (.int .i64 0)]),(3,79,[.v (.bool sp), .v (.slice P1 pl pc), .v (.int .i64 i)]),(4,79,[.v (.bool sq), .v (.slice Q1 ql qc), .v (.int .i64 k)])] (ZaB.of (by kernel_rfl)) (by kernel_rfl) (fun _ h=>h) ?_
     refine Zbr 16 (by kernel_rfl) (by kernel_rfl) ZaA ?_
     refine xqf 6 [eS1 63 P1 pl pc,(67, .v (.int .i64 (IntKind.i64.wrap (i - low))))] [(6,79,[.v (.bool false), .v (.slice none 0 0), .v (.int .i64 0)]),(3,79,[.v (.bool sp), .v (.slice P1 pl pc), .v (.int .i64 i)]),(4,79,[.v (.bool sq), .v (.slice Q1 ql qc), .v (.int .i64 k)])] ?_
     rw [show IntKind.i64.wrap (i - low)=((u1:Nat):Int) from by rw [IntKind.wrap_i64]; omega]
     refine xqd 66 [.slice P1 pl pc, .int .i64 ((u1:Nat):Int)] 68 ZaJ _ (fun w R Q=>(Zdn u1 Q.1.1.1.2 (by omega) (by omega)).mono (fun _ _ h=>Zay (by rw [ha] at h; exact h))) (fun xx=>?_)
     obtain ⟨A27,l27,c27⟩:=xx
     refine xqf 6 [eS1 70 Q1 ql qc,(74, .v (.int .i64 (IntKind.i64.wrap (k - low))))] [(6,79,[.v (.bool false), .v (.slice none 0 0), .v (.int .i64 0)]),(3,79,[.v (.bool sp), .v (.slice P1 pl pc), .v (.int .i64 i)]),(4,79,[.v (.bool sq), .v (.slice Q1 ql qc), .v (.int .i64 k)])] ?_
     rw [show IntKind.i64.wrap (k - low)=((u2:Nat):Int) from by rw [IntKind.wrap_i64]; omega]
     refine xqd 66 [.slice Q1 ql qc, .int .i64 ((u2:Nat):Int)] 75 ZaJ _ (fun w R Q=>(Zdn u2 Q.1.1.1.2 (by omega) (by omega)).mono (fun _ _ h=>Zay (by rw [hb'] at h; exact h))) (fun xx=>?_)
     obtain ⟨A28,l28,c28⟩:=xx
     refine xqf 2 [eS1 10 A27 l27 c27,eS1 11 A28 l28 c28] [(6,79,[.v (.bool false), .v (.slice none 0 0), .v (.int .i64 0)]),(3,79,[.v (.bool sp), .v (.slice P1 pl pc), .v (.int .i64 i)]),(4,79,[.v (.bool sq), .v (.slice Q1 ql qc), .v (.int .i64 k)])] ?_
     refine xz (xe (Zab (Zac (Zax (Zac (Zaa (xq 6 [(76, .v (.bool (sp == sq)))] [] ?_)))))))
     refine xe (Zab ?_)
     refine Zas ((sp == sq)) (by kernel_rfl) (fun hb29=>?_) (fun hb29=>?_)
     ·have hss:sp=sq:=eq_of_beq hb29
      refine Zac ?_
      refine Zbr 10 (by kernel_rfl) (by kernel_rfl) ZaA ?_
      refine xqf 4 [(83, .v (.bool sp)),eS1 84 A27 l27 c27,eS1 85 A28 l28 c28] [(6,79,[.v (.bool false), .v (.slice none 0 0), .v (.int .i64 0)]),(3,79,[.v (.bool sp), .v (.slice P1 pl pc), .v (.int .i64 i)]),(4,79,[.v (.bool sq), .v (.slice Q1 ql qc), .v (.int .i64 k)])] ?_
      refine xqd 126 [.slice A27 l27 c27, .slice A28 l28 c28] 86 ZaJ _ (fun w R Q=>(Zcq Q.1.2 Q.2 (by omega) (by omega)).mono (fun _ _=>Zay)) (fun xx=>?_)
      obtain ⟨A30,l30,c30⟩:=xx
      refine xqf 2 [(87, .v (.int .i64 low)),(88, .v (.int .i64 ((bits:Nat):Int)))] [(6,79,[.v (.bool false), .v (.slice none 0 0), .v (.int .i64 0)]),(3,79,[.v (.bool sp), .v (.slice P1 pl pc), .v (.int .i64 i)]),(4,79,[.v (.bool sq), .v (.slice Q1 ql qc), .v (.int .i64 k)])] ?_
      obtain ⟨r31,hr31⟩:∃ r,Zbe sp (a + b) (low) bits false=r:=⟨_,rfl⟩
      refine xqd 123 [.bool sp, .slice A30 l30 c30, .int .i64 low, .int .i64 ((bits:Nat):Int), .func (.func 125) #[] #[]] 89 (shNb r31) _ (fun w R Q=>((show Calls _ _ _ _ (ZaN w r31) from by rw [← hr31]; exact ZbX sp _ _ _ _ low _ _ Q.1.1.1.1.1.1.1 Q.2 (by have:=Zlt hwa hwb; omega) (by omega) (by omega) (by omega))).mono (fun _ _=>ZaK)) (fun xx=>?_)
      obtain ⟨A31,l31,c31⟩:=xx
      refine xqf 2 [(90, .v (.agg #[.bool r31.s, .slice A31 l31 c31, .int .i64 r31.e])),(91, .v (.int .i64 r31.err))] [(6,79,[.v (.bool false), .v (.slice none 0 0), .v (.int .i64 0)]),(3,79,[.v (.bool sp), .v (.slice P1 pl pc), .v (.int .i64 i)]),(4,79,[.v (.bool sq), .v (.slice Q1 ql qc), .v (.int .i64 k)])] ?_
      refine xz (xq 2 [(7, .v (.int .i64 r31.err))] [(6,79,[.v (.bool r31.s), .v (.slice A31 l31 c31), .v (.int .i64 r31.e)])] ?_)
      refine xe (Zab (Zai (Zbl (Zah ?_))))
      refine Zag (v:=.tuple #[.agg #[.bool r31.s, .slice A31 l31 c31, .int .i64 r31.e], .int .i64 r31.err]) (by kernel_rfl) (fun w' R Q=>?_)
      rw [show sumR s x e t y f bits=addR s x e t y f bits from by unfold sumR; rw [if_neg (by omega),if_neg (by omega)],hS]
      rw [Zin ha0 hss,← Zbi _ _ _ hb0,hr31]
      exact ⟨(A31,l31,c31),rfl,Q.2,R⟩
     ·have hss:¬ sp=sq:=fun e'=>by rw [e'] at hb29; simp at hb29
      refine Zac (Zaa (xq 2 [eS1 93 A27 l27 c27,eS1 94 A28 l28 c28] [] ?_))
      refine xqc 122 [.slice A27 l27 c27, .slice A28 l28 c28] 95 (fun _:Unit=>.int .i64 (cmpI ((a:Nat):Int) ((b:Nat):Int))) _ (fun w R Q=>(Zep Q.1.2 Q.2 (by omega)).mono (fun _ _ h=>Zak h rfl)) (fun xx=>?_)
      refine xq 2 [(92, .v (.bool (decide ((cmpI ((a:Nat):Int) ((b:Nat):Int)) ≥ 0))))] [] ?_
      refine xe (Zab ?_)
      refine Zas ((decide ((cmpI ((a:Nat):Int) ((b:Nat):Int)) ≥ 0))) (by kernel_rfl) (fun hb32=>?_) (fun hb32=>?_)
      ·have hle:b≤a:=by have:=Zgs.1 (of_decide_eq_true hb32); omega
       refine Zac ?_
       refine Zbr 10 (by kernel_rfl) (by kernel_rfl) ZaA ?_
       refine xqf 4 [(98, .v (.bool sp)),eS1 99 A27 l27 c27,eS1 100 A28 l28 c28] [(6,79,[.v (.bool false), .v (.slice none 0 0), .v (.int .i64 0)]),(3,79,[.v (.bool sp), .v (.slice P1 pl pc), .v (.int .i64 i)]),(4,79,[.v (.bool sq), .v (.slice Q1 ql qc), .v (.int .i64 k)])] ?_
       refine xqd 127 [.slice A27 l27 c27, .slice A28 l28 c28] 101 ZaJ _ (fun w R Q=>(Zd7 Q.1.1.2 Q.1.2 (by omega) hle).mono (fun _ _=>Zay)) (fun xx=>?_)
       obtain ⟨A33,l33,c33⟩:=xx
       refine xqf 2 [(102, .v (.int .i64 low)),(103, .v (.int .i64 ((bits:Nat):Int)))] [(6,79,[.v (.bool false), .v (.slice none 0 0), .v (.int .i64 0)]),(3,79,[.v (.bool sp), .v (.slice P1 pl pc), .v (.int .i64 i)]),(4,79,[.v (.bool sq), .v (.slice Q1 ql qc), .v (.int .i64 k)])] ?_
       obtain ⟨r34,hr34⟩:∃ r,Zbe sp (a - b) (low) bits false=r:=⟨_,rfl⟩
       refine xqd 123 [.bool sp, .slice A33 l33 c33, .int .i64 low, .int .i64 ((bits:Nat):Int), .func (.func 125) #[] #[]] 104 (shNb r34) _ (fun w R Q=>((show Calls _ _ _ _ (ZaN w r34) from by rw [← hr34]; exact ZbX sp _ _ _ _ low _ _ Q.1.1.1.1.1.1.1.1 Q.2 (Nat.le_trans (Zbc (Nat.sub_le _ _)) (by omega)) (by omega) (by omega) (by omega))).mono (fun _ _=>ZaK)) (fun xx=>?_)
       obtain ⟨A34,l34,c34⟩:=xx
       refine xqf 2 [(105, .v (.agg #[.bool r34.s, .slice A34 l34 c34, .int .i64 r34.e])),(106, .v (.int .i64 r34.err))] [(6,79,[.v (.bool false), .v (.slice none 0 0), .v (.int .i64 0)]),(3,79,[.v (.bool sp), .v (.slice P1 pl pc), .v (.int .i64 i)]),(4,79,[.v (.bool sq), .v (.slice Q1 ql qc), .v (.int .i64 k)])] ?_
       refine xz (xq 2 [(7, .v (.int .i64 r34.err))] [(6,79,[.v (.bool r34.s), .v (.slice A34 l34 c34), .v (.int .i64 r34.e)])] ?_)
       refine xe (Zab (Zai (Zbl (Zah ?_))))
       refine Zag (v:=.tuple #[.agg #[.bool r34.s, .slice A34 l34 c34, .int .i64 r34.e], .int .i64 r34.err]) (by kernel_rfl) (fun w' R Q=>?_)
       rw [show sumR s x e t y f bits=addR s x e t y f bits from by unfold sumR; rw [if_neg (by omega),if_neg (by omega)],hS]
       rw [ZhB hss hle,← Zbi _ _ _ hb0,hr34]
       exact ⟨(A34,l34,c34),rfl,Q.2,R⟩
      ·have hlt:a < b:=by have:=mt Zgs.2 (of_decide_eq_false hb32); omega
       refine Zam (Zbk (Zab (Zac ?_)))
       refine Zbr 10 (by kernel_rfl) (by kernel_rfl) ZaA ?_
       refine xqf 4 [(108, .v (.bool sq)),eS1 109 A28 l28 c28,eS1 110 A27 l27 c27] [(6,79,[.v (.bool false), .v (.slice none 0 0), .v (.int .i64 0)]),(3,79,[.v (.bool sp), .v (.slice P1 pl pc), .v (.int .i64 i)]),(4,79,[.v (.bool sq), .v (.slice Q1 ql qc), .v (.int .i64 k)])] ?_
       refine xqd 127 [.slice A28 l28 c28, .slice A27 l27 c27] 111 ZaJ _ (fun w R Q=>(Zd7 Q.1.2 Q.1.1.2 (by omega) (by omega)).mono (fun _ _=>Zay)) (fun xx=>?_)
       obtain ⟨A35,l35,c35⟩:=xx
       refine xqf 2 [(112, .v (.int .i64 low)),(113, .v (.int .i64 ((bits:Nat):Int)))] [(6,79,[.v (.bool false), .v (.slice none 0 0), .v (.int .i64 0)]),(3,79,[.v (.bool sp), .v (.slice P1 pl pc), .v (.int .i64 i)]),(4,79,[.v (.bool sq), .v (.slice Q1 ql qc), .v (.int .i64 k)])] ?_
       obtain ⟨r36,hr36⟩:∃ r,Zbe sq (b - a) (low) bits false=r:=⟨_,rfl⟩
       refine xqd 123 [.bool sq, .slice A35 l35 c35, .int .i64 low, .int .i64 ((bits:Nat):Int), .func (.func 125) #[] #[]] 114 (shNb r36) _ (fun w R Q=>((show Calls _ _ _ _ (ZaN w r36) from by rw [← hr36]; exact ZbX sq _ _ _ _ low _ _ Q.1.1.1.1.1.1.1.1 Q.2 (Nat.le_trans (Zbc (Nat.sub_le _ _)) (by omega)) (by omega) (by omega) (by omega))).mono (fun _ _=>ZaK)) (fun xx=>?_)
       obtain ⟨A36,l36,c36⟩:=xx
       refine xqf 2 [(115, .v (.agg #[.bool r36.s, .slice A36 l36 c36, .int .i64 r36.e])),(116, .v (.int .i64 r36.err))] [(6,79,[.v (.bool false), .v (.slice none 0 0), .v (.int .i64 0)]),(3,79,[.v (.bool sp), .v (.slice P1 pl pc), .v (.int .i64 i)]),(4,79,[.v (.bool sq), .v (.slice Q1 ql qc), .v (.int .i64 k)])] ?_
       refine xz (xq 2 [(7, .v (.int .i64 r36.err))] [(6,79,[.v (.bool r36.s), .v (.slice A36 l36 c36), .v (.int .i64 r36.e)])] ?_)
       refine xe (Zab (Zai ?_))
       refine Zag (v:=.tuple #[.agg #[.bool r36.s, .slice A36 l36 c36, .int .i64 r36.e], .int .i64 r36.err]) (by kernel_rfl) (fun w' R Q=>?_)
       rw [show sumR s x e t y f bits=addR s x e t y f bits from by unfold sumR; rw [if_neg (by omega),if_neg (by omega)],hS]
       rw [ZgJ hss hlt,← Zbi _ _ _ hb0,hr36]
       exact ⟨(A36,l36,c36),rfl,Q.2,R⟩
end Go.Proofs.YtklpdkpcocnglaaGreatDoor

namespace Go.Proofs.YtklpdkpcocnglaaGreatDoor
open Go.RowKit
def Zbg (q:Rat):List UInt8:=if q.den=1 then Lib.itoa q.num else Lib.itoa q.num ++ [47] ++ Lib.itoa (q.den:Int)
end Go.Proofs.YtklpdkpcocnglaaGreatDoor

namespace Go.Proofs.YtklpdkpcocnglaaGreatDoor
open Go.RowKit
theorem Zm7 {x y:Int} (hy:0 < y):(Rat.divInt x y).num=x.tdiv (Int.gcd x y:Int)∧((Rat.divInt x y).den:Int)=y.tdiv (Int.gcd x y:Int):=by
 have hd1:(Int.gcd x y:Int) ∣ x:=Int.gcd_dvd_left _ _
 have hd2:(Int.gcd x y:Int) ∣ y:=Int.gcd_dvd_right _ _
 rw [Rat.num_divInt,Rat.den_divInt,if_neg (by omega),Int.sign_eq_one_of_pos hy,Int.one_mul,Int.gcd_comm y x,Int.tdiv_eq_ediv_of_dvd hd1,Int.tdiv_eq_ediv_of_dvd hd2]
 refine ⟨rfl,?_⟩
 rw [Int.natCast_ediv]
 congr 1
 omega
theorem Zjr {x y:Int} (hy:0 < y) (h:((Int.gcd x y:Nat):Int)=1):(Rat.divInt x y).num=x∧((Rat.divInt x y).den:Int)=y:=by
 have:=Zm7 (x:=x) hy
 rwa [h,Int.tdiv_one,Int.tdiv_one] at this
end Go.Proofs.YtklpdkpcocnglaaGreatDoor

namespace Go.Proofs.YtklpdkpcocnglaaGreatDoor
open Go.RowKit
theorem ZhC {c:UInt8} (h:Zaq c=true):UInt8.ofNat (48 + (c.toNat - 48))=c:=by
 have:=ZcT h
 apply UInt8.toNat.inj
 rw [UInt8.toNat_ofNat']
 have:=c.toNat_lt
 omega
theorem Zmh:∀ (k:Nat) (l:List UInt8),l.length=k→l.all Zaq=true→l≠[]→l.head? ≠ some 48→Lib.decDigits (Zaj l)=l:=by
 intro k
 induction k with
 | zero=>intro l hl _ h0; exact absurd (List.length_eq_zero_iff.1 hl) h0
 | succ k ih =>
   intro l hl hd h0 h48
   obtain ⟨l',c,rfl⟩:∃ l' c,l=l' ++ [c]:=by
    rcases List.eq_nil_or_concat l with h | ⟨l',c,h⟩
    ·exact absurd h h0
    ·exact ⟨l',c,by simpa using h⟩
   rw [List.all_append,Bool.and_eq_true] at hd
   have hc:Zaq c=true:=by simpa using hd.2
   have hcb:=ZcT hc
   rw [Zc5]
   by_cases hl0:l'=[]
   ·subst hl0
    have e:Zaj []=0:=rfl
    rw [e,Nat.mul_zero,Nat.zero_add,Zcp (by omega),ZhC hc]; rfl
   ·have hh:l'.head? ≠ some 48:=by
     rw [List.head?_append] at h48
     cases hx:l'.head? with
     | none=>exact absurd (List.head?_eq_none_iff.1 hx) hl0
     | some x=>rw [hx] at h48; exact h48
    have h1:=ih l' (by simp at hl; exact hl) hd.1 hl0 hh
    have hp:=(Zfk hd.1 hl0 hh).1
    rw [Zfu (by omega),show (10 * Zaj l' + (c.toNat - 48)) / 10=Zaj l' by omega,show (10 * Zaj l' + (c.toNat - 48)) % 10=c.toNat - 48 by omega,h1,ZhC hc]
theorem Zj0 (n:Nat):(Lib.decDigits n).head? ≠ some 45:=by
 intro e
 cases h:Lib.decDigits n with
 | nil=>exact Zbu n h
 | cons x xs =>
   rw [h] at e
   simp only [List.head?_cons,Option.some.injEq] at e
   subst e
   have:=Zcb n
   rw [h] at this
   simp only [List.all_cons,Bool.and_eq_true] at this
   exact absurd this.1 (by decide)
theorem Ze5 {p:UInt8→Bool} {l r:List UInt8} {c:UInt8} (h:l.all p=true) (hc:p c=false):(l ++ c :: r).takeWhile p=l∧(l ++ c :: r).dropWhile p=c :: r:=by
 induction l with
 | nil=>simp [hc]
 | cons x xs ih =>
   simp only [List.all_cons,Bool.and_eq_true] at h
   obtain ⟨h1,h2⟩:=ih h.2
   rw [List.cons_append,List.takeWhile_cons,List.dropWhile_cons,h.1]
   simp [h1,h2]
theorem ZgL (z:Int) (r:List UInt8):Zaz (Lib.itoa z ++ r)=(decide (z < 0),Lib.decDigits z.natAbs ++ r):=by
 by_cases h:z < 0
 ·rw [Zfv h,decide_eq_true h]
  unfold Zaz
  rw [if_pos (by simp)]
  rfl
 ·rw [Zgt (by omega),decide_eq_false h]
  unfold Zaz
  rw [if_neg]
  intro e
  rw [List.head?_append] at e
  cases hx:(Lib.decDigits z.natAbs).head? with
  | none=>exact absurd (List.head?_eq_none_iff.1 hx) (Zbu _)
  | some c =>
    rw [hx] at e
    exact Zj0 _ (hx.trans e)
theorem Zmi (z:Int):sg (decide (z < 0)) z.natAbs=z:=by
 unfold sg
 split
 ·rename_i h; have:=of_decide_eq_true h; omega
 ·rename_i h; have:¬ z < 0:=fun k=>h (decide_eq_true k); omega
theorem Zk8 {q:Rat} (h:q.den=1):((q.num:Int):Rat)=q:=by
 apply Rat.ext<;>simp [h]
theorem Zoz {q:Rat} (h:q.den≠1):q.num≠0:=by
 intro e
 have:=q.reduced
 rw [e] at this
 simp [Nat.Coprime] at this
 exact h this
theorem ZbF (n:Nat):Lib.itoa (n:Int)=Lib.decDigits n:=by
 rw [Zgt (by omega),Int.natAbs_natCast]
theorem Zk9 {q:Rat} (h:q.den≠1):ZaI (Zbg q)=(decide (q.num < 0),Lib.decDigits q.num.natAbs,Lib.decDigits q.den,true):=by
 have hn:=Zoz h
 have hd:=q.den_nz
 unfold Zbg
 rw [if_neg h,ZbF,List.append_assoc]
 unfold ZaI
 rw [ZgL]
 simp only []
 obtain ⟨h1,h2⟩:=Ze5 (p:=Zaq) (r:=Lib.decDigits q.den) (c:=47) (Zcb q.num.natAbs) (by decide)
 have e:Lib.decDigits q.num.natAbs ++ ([47] ++ Lib.decDigits q.den)=Lib.decDigits q.num.natAbs ++ 47 :: Lib.decDigits q.den:=rfl
 rw [e,h1,h2]
 have hh:=Zdg q.num.natAbs (by omega)
 rw [if_neg (fun e=>hh (by rw [e]; rfl)),if_neg (fun e=>e.elim (Zbu _) hh),if_neg (by simp),if_neg (by simp)]
 simp only [List.tail_cons]
 obtain ⟨h3,h4⟩:=Zda (Zcb q.den)
 rw [h3,h4]
 have hh2:=Zdg q.den (by omega)
 have h49:Lib.decDigits q.den≠[49]:=fun e=>by
  have:=ZcF q.den
  rw [e] at this
  exact h (by rw [← this]; rfl)
 have hne:=Zbu q.den
 simp [hh2,h49,hne]
theorem Zmj (q:Rat):Zbb (Zbg q)=some q:=by
 by_cases h:q.den=1
 ·unfold Zbg
  rw [if_pos h,Zmg,Zk8 h]
 ·unfold Zbb
  rw [Zk9 h]
  simp only []
  rw [if_neg (Zbu _),ZcF,ZcF,if_pos q.reduced,Zmi,Rat.mkRat_self]
theorem Zip {neg:Bool} {a:Nat} (h:a=0→neg=false):(sg neg a < 0 ↔ neg=true)∧(sg neg a).natAbs=a:=by
 cases neg with
 | false=>simp [sg]
 | true =>
   have:a≠0:=fun e=>by cases h e
   simp [sg]; omega
theorem Zgu {neg:Bool} {a:Nat} (h:a=0→neg=false):Lib.itoa (sg neg a)=(if neg then [45] else []) ++ Lib.decDigits a:=by
 obtain ⟨h1,h2⟩:=Zip h
 cases neg with
 | false=>rw [Zgt (by simp [sg]),h2]; rfl
 | true=>rw [Zfv (h1.2 rfl),h2]; rfl
theorem Zj1 {l r:List UInt8} {neg:Bool} (h:Zaz l=(neg,r)):l=(if neg then [45] else []) ++ r:=by
 unfold Zaz at h
 split at h
 ·rename_i hh
  injection h with h1 h2
  subst h1 h2
  cases l with
  | nil=>cases hh
  | cons x xs=>simp at hh; subst hh; rfl
 ·injection h with h1 h2
  subst h1 h2
  rfl
theorem Zdz {l:List UInt8} {q:Rat} (h:Zbb l=some q):Zbg q=l:=by
 unfold Zbb at h
 cases hs:ZaI l with
 | mk neg r =>
   obtain ⟨num,den,ok⟩:=r
   rw [hs] at h
   cases ok with
   | false=>cases h
   | true =>
     simp only [] at h
     have hdg:=Zc9 hs
     obtain ⟨s1,s2⟩:=Zhs hs
     cases hu:Zaz l with
     | mk neg' t =>
       have hl:=Zj1 hu
       have htw:t.takeWhile Zaq ++ t.dropWhile Zaq=t:=List.takeWhile_append_dropWhile
       unfold ZaI at hs
       rw [hu] at hs
       simp only [] at hs
       split at hs
       ·-- zero
        rename_i h48
        injection hs with e1 hs; injection hs with e2 hs; injection hs with e3 e4
        subst e1 e2 e3
        simp at e4
        rw [if_pos rfl,h48] at h
        have hv:Zaj [48]=0:=rfl
        rw [hv] at h
        injection h with h
        rw [e4.1] at h hl
        rw [← h,hl,← htw,h48,e4.2]
        simp only [sg]
        unfold Zbg
        rw [if_pos (by simp)]
        have:Lib.itoa ((0:Nat):Int)=[48]:=by rw [ZbF,Zcp (by omega)]; rfl
        simpa using this
       split at hs
       ·injection hs with _ hs; injection hs with _ hs; injection hs with _ hs; cases hs
       rename_i hn
       have hn1:t.takeWhile Zaq≠[]:=fun e=>hn (Or.inl e)
       have hn2:(t.takeWhile Zaq).head? ≠ some 48:=fun e=>hn (Or.inr e)
       have hdn:=Zmh _ _ rfl (Zbz (p:=Zaq) t) hn1 hn2
       split at hs
       ·rename_i hr
        injection hs with e1 hs; injection hs with e2 hs; injection hs with e3 _
        subst e1 e2 e3
        rw [if_pos rfl] at h
        injection h with h
        rw [← h]
        unfold Zbg
        rw [if_pos (by simp)]
        have hnum:(((sg neg' (Zaj (t.takeWhile Zaq)):Int)):Rat).num=sg neg' (Zaj (t.takeWhile Zaq)):=rfl
        rw [hnum,Zgu (fun e=>(s2 e).1),hdn,hl]
        rw [hr,List.append_nil] at htw
        rw [htw]
       split at hs
       ·injection hs with _ hs; injection hs with _ hs; injection hs with _ hs; cases hs
       ·rename_i hr h47
        injection hs with e1 hs; injection hs with e2 hs; injection hs with e3 e4
        subst e1 e2
        rw [e3] at e4
        simp at e4
        obtain ⟨⟨⟨k1,k2⟩,k3⟩,k4⟩:=e4
        rw [if_neg k2] at h
        split at h
        ·rename_i hg
         injection h with h
         have h2:=s1 k2
         have hq:q.num=sg neg' (Zaj (t.takeWhile Zaq))∧q.den=Zaj den:=by
          have:=Zjr (x:=sg neg' (Zaj (t.takeWhile Zaq))) (y:=(Zaj den:Int)) (by omega) (by
           unfold Int.gcd
           rw [(Zip (fun e=>(s2 e).1)).2,Int.natAbs_natCast,hg]; rfl)
          rw [Rat.divInt_ofNat,h] at this
          exact ⟨this.1,by have:=this.2; omega⟩
         unfold Zbg
         rw [if_neg (by rw [hq.2]; omega),hq.1,hq.2,Zgu (fun e=>(s2 e).1),hdn,ZbF,Zmh _ _ rfl hdg.2.1 k2 k3,hl]
         have htail:t.dropWhile Zaq=47 :: den:=by
          cases hx:t.dropWhile Zaq with
          | nil=>exact absurd hx hr
          | cons c r =>
            rw [hx] at h47 k1 e3
            simp at h47 k1 e3
            subst h47
            have:=List.takeWhile_append_dropWhile (p:=Zaq) (l:=r)
            rw [e3,k1,List.append_nil] at this
            rw [this]
         rw [htail] at htw
         rw [List.append_assoc,List.append_assoc]
         congr 1
        ·cases h
theorem Zm8 {l:List UInt8} {q:Rat}:Zbb l=some q ↔ Zbg q=l :=
 ⟨Zdz,fun h=>by rw [← h]; exact Zmj q⟩
end Go.Proofs.YtklpdkpcocnglaaGreatDoor

namespace Go.Proofs.YtklpdkpcocnglaaGreatDoor
open Go.RowKit
def fvB (s:List UInt8) (e:Int):Bool :=
 if s=[48] then decide (e=0)
 else decide ((Zaz s).2≠[]∧(Zaz s).2.head? ≠ some 48∧okE e∧(Zaz s).2.all Zaq=true∧Zaj (Zaz s).2 % 2=1)
def flM (s:List UInt8):Int:=sg (Zaz s).1 (Zaj (Zaz s).2)
theorem Zmk:Lib.itoa 0=[48]:=by
 rw [show (0:Int)=((0:Nat):Int) from rfl,ZbF,Zcp (by omega)]; rfl
theorem Zm9:flM [48]=0:=by decide
theorem ZdR (z:Int):Zaz (Lib.itoa z)=(decide (z < 0),Lib.decDigits z.natAbs):=by
 have:=ZgL z []
 rwa [List.append_nil,List.append_nil] at this
theorem Zna (z:Int):flM (Lib.itoa z)=z:=by
 unfold flM; rw [ZdR,ZcF]; exact Zmi z
theorem ZnW (z e:Int):fvB (Lib.itoa z) e=decide ((z=0∧e=0)∨(z % 2=1∧okE e)):=by
 unfold fvB
 by_cases hz:z=0
 ·subst hz
  rw [Zmk,if_pos rfl]
  by_cases he:e=0
  ·subst he; rfl
  ·rw [decide_eq_false he]
   symm
   exact decide_eq_false (fun h=>by rcases h with h | h<;>omega)
 ·have hn:¬ Lib.itoa z=[48]:=fun h=>hz (by rw [← Zna z,h,Zm9])
  rw [if_neg hn,ZdR]
  refine decide_eq_decide.2 ⟨fun ⟨_,_,h3,_,h5⟩=>Or.inr ⟨?_,h3⟩,fun h=>?_⟩
  ·rw [ZcF] at h5; omega
  ·rcases h with ⟨h,_⟩ | ⟨h1,h2⟩
   ·exact absurd h hz
   ·exact ⟨Zbu _,Zdg _ (by omega),h2,Zcb _,by rw [ZcF]; omega⟩
theorem Znb {l:List UInt8} {c:UInt8} (h:(l ++ [c]).all Zaq=true):Zaj (l ++ [c]) % 2=c.toNat % 2:=by
 rw [Zc5]
 have hc:Zaq c=true:=by rw [List.all_append] at h; simp at h; exact h.2
 have:=ZcT hc
 omega
end Go.Proofs.YtklpdkpcocnglaaGreatDoor

namespace Go.Proofs.YtklpdkpcocnglaaGreatDoor
open Go.RowKit
noncomputable def valF (l:List UInt8):Rat:=(Zbb l).getD 0
end Go.Proofs.YtklpdkpcocnglaaGreatDoor

namespace Go.Proofs.YtklpdkpcocnglaaGreatDoor
open Go.RowKit
end Go.Proofs.YtklpdkpcocnglaaGreatDoor

namespace Go.Proofs.YtklpdkpcocnglaaGreatDoor
open Go.RowKit
end Go.Proofs.YtklpdkpcocnglaaGreatDoor

namespace Go.Proofs.YtklpdkpcocnglaaGreatDoor
open Go.RowKit
theorem Zml {l:List UInt8} (hd:l.all Zaq=true) (hl:l.length≤570):wl (Zaj l)≤30:=by
 rw [Zbq]
 have h1:=ZbN l hd
 obtain ⟨k,hk⟩:∃ k,k=30:=⟨_,rfl⟩
 have h2:10 ^ l.length≤10 ^ (19 * k):=Nat.pow_le_pow_right (by omega) (by omega)
 rw [← hk]
 rw [Nat.pow_mul] at h2
 have h3:(10 ^ 19) ^ k≤W64 ^ k:=Nat.pow_le_pow_left (by rw [Zal]; decide) k
 exact Nat.lt_of_lt_of_le h1 (Nat.le_trans h2 h3)
end Go.Proofs.YtklpdkpcocnglaaGreatDoor

namespace Go.Proofs.YtklpdkpcocnglaaGreatDoor
open Go.RowKit
theorem Zmm {l:List UInt8} (h:Zbb l=none):valF l=0:=by unfold valF; rw [h]; rfl
theorem ZeJ {l:List UInt8} {q:Rat} (h:Zbb l=some q):valF l=q:=by unfold valF; rw [h]; rfl
end Go.Proofs.YtklpdkpcocnglaaGreatDoor

namespace Go.Proofs.YtklpdkpcocnglaaGreatDoor
open Go.RowKit Go.Sort
end Go.Proofs.YtklpdkpcocnglaaGreatDoor

namespace Go.Proofs.YtklpdkpcocnglaaGreatDoor
open Go.RowKit
end Go.Proofs.YtklpdkpcocnglaaGreatDoor

namespace Go.Proofs.YtklpdkpcocnglaaGreatDoor
open Go.RowKit
end Go.Proofs.YtklpdkpcocnglaaGreatDoor

namespace Go.Proofs.YtklpdkpcocnglaaGreatDoor
open Go.RowKit
end Go.Proofs.YtklpdkpcocnglaaGreatDoor

namespace Go.Proofs.YtklpdkpcocnglaaGreatDoor
open Go.RowKit
section
variable {s t:ByteArray} {p q r:Rat} {w:World}
end
end Go.Proofs.YtklpdkpcocnglaaGreatDoor

namespace Go.Proofs.YtklpdkpcocnglaaGreatDoor
open Go.RowKit
theorem Zlb {w w':World} {e:Ending} {l:List UInt8} (h:ZgX w l e w'):Zci (fun x:Int × Int × Bool=>.tuple #[.agg #[.int .i64 x.1, .int .i64 x.2.1], .bool x.2.2]) (fun x _=>Zec l x.1 x.2.1 x.2.2) w e w':=by
 obtain ⟨a,b,ok,rfl,hS,Q⟩:=h
 exact ⟨(a,b,ok),rfl,Q,BoxN.pure hS⟩
abbrev ShSp:=Bool × ByteArray × ByteArray × Bool
theorem Zlc {w w':World} {e:Ending} {s:ByteArray} (h:ZgU s w e w'):Zci (fun x:ShSp=>.tuple #[.agg #[.bool x.1, .string x.2.1, .string x.2.2.1], .bool x.2.2.2]) (fun x _=>ZaI (bytes s)=(x.1,bytes x.2.1,bytes x.2.2.1,x.2.2.2)) w e w':=by
 obtain ⟨neg,t,d,ok,rfl,hS,Q⟩:=h
 exact ⟨(neg,t,d,ok),rfl,Q,BoxN.pure hS⟩
theorem Zko {x:ByteArray} (h:bytes x=[]):(x.toList == (⟨#[]⟩:ByteArray).toList)=true:=by
 rw [Lib.toList_data,Lib.toList_data,show x.data.toList=[] from h]; rfl
theorem Zkp {x:ByteArray} (h:¬ bytes x=[]):(x.toList == (⟨#[]⟩:ByteArray).toList)=false:=by
 rw [Lib.toList_data,Lib.toList_data]
 exact beq_eq_false_iff_ne.2 h
theorem Zmo {l:List UInt8} {neg:Bool} {t d:List UInt8} (h:ZaI l=(neg,t,d,false)):Zbb l=none:=by unfold Zbb; rw [h]
theorem Zmp {l:List UInt8} {neg:Bool} {t d:List UInt8} (h:ZaI l=(neg,t,d,true)) (hd:d=[]):(Zbb l).isSome=true:=by unfold Zbb; rw [h]; simp [hd]
theorem Zmq {l:List UInt8} {neg:Bool} {t d:List UInt8} (h:ZaI l=(neg,t,d,true)) (hd:¬ d=[]):(Zbb l).isSome=decide (((Int.gcd (Zaj t:Int) (Zaj d:Int):Nat):Int)=1):=by
 unfold Zbb
 rw [h]
 have e:Int.gcd (Zaj t:Int) (Zaj d:Int)=Nat.gcd (Zaj t) (Zaj d):=rfl
 rw [e]
 simp only [if_neg hd]
 by_cases hg:Nat.gcd (Zaj t) (Zaj d)=1
 ·rw [if_pos hg,hg]; rfl
 ·rw [if_neg hg]; simp; omega
theorem Zld {l:List UInt8} {a b:Int} (h:Zec l a b true):(Zbb l).isSome=true:=by
 rcases h with ⟨_,q,h,_⟩ | ⟨h,_⟩
 ·rw [h]; rfl
 ·cases h
theorem ZeL (s:ByteArray) (w:World) (hg:Glob w) (hs:(bytes s).length≤570) :
 Calls Tryz.prog 54 #[.string s] w (RetV w (.bool (Zbb (bytes s)).isSome)):=by
 have hs8:s.size≤1099511627776:=by rw [Zan] at hs; omega
 refine Zau (Φ:=fun w=>Glob w) Tryz.func54 rfl (by kernel_rfl) (fun w' hf=>hg.ext hf) ?_
 refine Zac (Zaa (xr 1 [(0, .v (.string s)),(2, .v (.bool false))] [] ?_))
 refine xe (Zab (Zac (Zac (Zaa (xr 1 [(0, .v (.string s)),(2, .v (.bool false)),(8, .v (.string s))] [] ?_)))))
 refine xc 92 [.string s] 9 (fun x:Int × Int × Bool=>.tuple #[.agg #[.int .i64 x.1, .int .i64 x.2.1], .bool x.2.2]) _ (fun w R Q=>(ZiB s _ hs8).mono (fun _ _=>Zlb)) (fun xx=>?_)
 obtain ⟨sa,sb,xok⟩:=xx
 rcases xok with _ | _
 ·refine xr 6 [(0, .v (.string s)),(2, .v (.bool false)),(4, .v (.bool false))] [] ?_
  refine xe (Zab (Zac (Zaa (xr 1 [(0, .v (.string s)),(2, .v (.bool false)),(12, .v (.bool false))] [] ?_))))
  refine xe (Zab (xb (Zam (Zab (Zac (Zaa (xr 1 [(2, .v (.bool false)),(14, .v (.string s))] [] ?_)))))))
  refine xc 93 [.string s] 15 (fun x:ShSp=>.tuple #[.agg #[.bool x.1, .string x.2.1, .string x.2.2.1], .bool x.2.2.2]) _ (fun w R Q=>(Zii s _ hs8).mono (fun _ _=>Zlc)) (fun xx=>?_)
  obtain ⟨xneg,xt,sd,yok⟩:=xx
  rcases yok with _ | _
  ·refine xr 6 [(2, .v (.bool false)),(5, .p 5 0),(6, .v (.bool false))] [(5,123,[.v (.bool xneg), .v (.string xt), .v (.string sd)])] ?_
   refine xe (Zab (Zac (Zac ?_)))
   refine SXc.know (p:=ZaI (bytes s)=(xneg,bytes xt,bytes sd,false)) (fun w _ Q=>Q.2) (fun HK=>?_)
   refine Zaa (xr 7 [(2, .v (.bool false)),(5, .p 5 0),(6, .v (.bool false)),(24, .v (.bool true))] [(5,123,[.v (.bool xneg), .v (.string xt), .v (.string sd)])] ?_)
   refine xe (Zab (xa (Zac (Zaa (xr 2 [(2, .v (.bool false)),(5, .p 5 0)] [(5,123,[.v (.bool xneg), .v (.string xt), .v (.string sd)])] ?_)))))
   refine xe (Zab (Zai (Zah ?_)))
   refine Zag (v:=.bool false) (by kernel_rfl) (fun w' R Q=>?_)
   exact ⟨by rw [Zmo HK]; rfl,R⟩
  ·refine xr 6 [(2, .v (.bool false)),(5, .p 5 0),(6, .v (.bool true))] [(5,123,[.v (.bool xneg), .v (.string xt), .v (.string sd)])] ?_
   refine xe (Zab (Zac (Zac ?_)))
   refine SXc.know (p:=ZaI (bytes s)=(xneg,bytes xt,bytes sd,true)) (fun w _ Q=>Q.2) (fun HK=>?_)
   by_cases hd:bytes sd=[]
   ·refine Zaa (xr 6 [(2, .v (.bool false)),(5, .p 5 0),(6, .v (.bool true)),(20, .v (.bool false)),(23, .v (.bool ((sd:ByteArray).toList == (⟨#[]⟩:ByteArray).toList)))] [(5,123,[.v (.bool xneg), .v (.string xt), .v (.string sd)])] ?_)
    rw [Zko hd]
    refine xr 1 [(2, .v (.bool false)),(5, .p 5 0),(6, .v (.bool true)),(24, .v (.bool true))] [(5,123,[.v (.bool xneg), .v (.string xt), .v (.string sd)])] ?_
    refine xe (Zab (xa (Zac (Zaa (xr 2 [(2, .v (.bool true)),(5, .p 5 0)] [(5,123,[.v (.bool xneg), .v (.string xt), .v (.string sd)])] ?_)))))
    refine xe (Zab (Zai (Zah ?_)))
    refine Zag (v:=.bool true) (by kernel_rfl) (fun w' R Q=>?_)
    exact ⟨by rw [Zmp HK hd],R⟩
   ·refine Zaa (xr 6 [(2, .v (.bool false)),(5, .p 5 0),(6, .v (.bool true)),(20, .v (.bool false)),(23, .v (.bool ((sd:ByteArray).toList == (⟨#[]⟩:ByteArray).toList)))] [(5,123,[.v (.bool xneg), .v (.string xt), .v (.string sd)])] ?_)
    rw [Zkp hd]
    refine xr 1 [(2, .v (.bool false)),(5, .p 5 0),(6, .v (.bool true)),(24, .v (.bool false))] [(5,123,[.v (.bool xneg), .v (.string xt), .v (.string sd)])] ?_
    refine xe (Zab (xb (Zam (Zab (Zac ?_)))))
    obtain ⟨hdigxt,hdigsd,hll⟩:=Zc9 HK
    have hprsxt:Zfj xt.size:=by unfold Zfj; rw [← Zan]; omega
    have hprssd:Zfj sd.size:=by unfold Zfj; rw [← Zan]; omega
    have hwt:wl ((Zaj (bytes xt):Nat):Int).natAbs≤79:=by rw [Int.natAbs_natCast]; exact Nat.le_trans (Zml hdigxt (by omega)) (by decide)
    have hwd:wl ((Zaj (bytes sd):Nat):Int).natAbs≤79:=by rw [Int.natAbs_natCast]; exact Nat.le_trans (Zml hdigsd (by omega)) (by decide)
    have hft:Fits ((Zaj (bytes xt):Nat):Int):=by unfold Fits; omega
    have hfd:Fits ((Zaj (bytes sd):Nat):Int):=by unfold Fits; omega
    refine Zbr 9 (by kernel_rfl) (by kernel_rfl) ZaA ?_
    refine xf 2 [(2, .v (.bool false)),(5, .p 5 0),(27, .v (.string xt))] [(5,123,[.v (.bool xneg), .v (.string xt), .v (.string sd)])] ?_
    refine xd 94 [.string xt] 28 Zht _ (fun w R Q=>(ZfY xt _ hdigxt hprsxt).mono (fun _ _=>ZgV)) (fun xx=>?_)
    obtain ⟨s10,A10,l10,c10⟩:=xx
    refine xf 2 [(2, .v (.bool false)),eI2 28 s10 A10 l10 c10,(30, .v (.string sd))] [(5,123,[.v (.bool xneg), .v (.string xt), .v (.string sd)])] ?_
    refine xd 94 [.string sd] 31 Zht _ (fun w R Q=>(ZfY sd _ hdigsd hprssd).mono (fun _ _=>ZgV)) (fun xx=>?_)
    obtain ⟨s11,A11,l11,c11⟩:=xx
    refine xf 0 [(2, .v (.bool false)),eI2 28 s10 A10 l10 c10,eI2 31 s11 A11 l11 c11] [(5,123,[.v (.bool xneg), .v (.string xt), .v (.string sd)])] ?_
    refine xd 95 [vI2 s10 A10 l10 c10,vI2 s11 A11 l11 c11] 32 Zht _ (fun w R Q=>(ZnF _ _ ((Zaj (bytes xt):Int)) ((Zaj (bytes sd):Int)) _ Q.1.1.1.1 Q.1.2 Q.2 hft hfd (ZiJ.words hwt hwd)).mono (fun _ _=>ZgV)) (fun xx=>?_)
    obtain ⟨s12,A12,l12,c12⟩:=xx
    refine xf 0 [(2, .v (.bool false)),eI2 32 s12 A12 l12 c12] [(5,123,[.v (.bool xneg), .v (.string xt), .v (.string sd)])] ?_
    refine xd 96 [vI2 s12 A12 l12 c12] 33 (fun _:Unit=>.bool (decide ((((Int.gcd ((Zaj (bytes xt):Int)) ((Zaj (bytes sd):Int)):Nat):Int))=1))) _ (fun w R Q=>(ZlS _ (((Int.gcd ((Zaj (bytes xt):Int)) ((Zaj (bytes sd):Int)):Nat):Int)) _ Q.2).mono (fun _ _ h=>Zak h rfl)) (fun xx=>?_)
    refine xf 1 [(2, .v (.bool (decide ((((Int.gcd ((Zaj (bytes xt):Int)) ((Zaj (bytes sd):Int)):Nat):Int))=1))))] [(5,123,[.v (.bool xneg), .v (.string xt), .v (.string sd)])] ?_
    refine xz (xe (Zab (Zai ?_)))
    refine Zag (v:=.bool (decide ((((Int.gcd ((Zaj (bytes xt):Int)) ((Zaj (bytes sd):Int)):Nat):Int))=1))) (by kernel_rfl) (fun w' R Q=>?_)
    exact ⟨by rw [Zmq HK hd],R⟩
 ·refine xr 6 [(0, .v (.string s)),(2, .v (.bool false)),(4, .v (.bool true))] [] ?_
  refine xe (Zab (Zac (Zaa (xr 1 [(0, .v (.string s)),(2, .v (.bool false)),(12, .v (.bool true))] [] ?_))))
  refine xe (Zab (xa (Zac (Zaa (xr 1 [(0, .v (.string s)),(2, .v (.bool true))] [] ?_)))))
  refine xe (Zab (Zai (Zah ?_)))
  refine Zag (v:=.bool true) (by kernel_rfl) (fun w' R Q=>?_)
  exact ⟨by rw [Zld Q.2],R⟩
end Go.Proofs.YtklpdkpcocnglaaGreatDoor

namespace Go.Proofs.YtklpdkpcocnglaaGreatDoor
open Go.RowKit
section
variable {l r a t b:List UInt8} {neg:Bool} {c:UInt8}
end
/-! ### Za0 of small numbers -/
theorem Zfw {n:Nat} (h:n < 10):Lib.itoa (n:Int)=[UInt8.ofNat (48 + n)]:=by
 unfold Lib.itoa
 rw [if_neg (by omega),Int.toNat_natCast,Lib.decDigits,dif_pos h]
theorem ZgY {q:Rat} {n:Nat} (h:n < 10) (h1:q.num=(n:Int)) (h2:q.den=1):Zbg q=[UInt8.ofNat (48 + n)]:=by
 unfold Zbg; rw [if_pos h2,h1,Zfw h]
theorem t1:Zbg (mkRat 1 1)=[49]:=ZgY (n:=1) (by decide) (by decide) (by decide)
theorem t3:Zbg (mkRat 3 1)=[51]:=ZgY (n:=3) (by decide) (by decide) (by decide)
end Go.Proofs.YtklpdkpcocnglaaGreatDoor

namespace Go.Proofs.YtklpdkpcocnglaaGreatDoor
open Go.RowKit
section
variable {w w':World} {e:Ending} {s:ByteArray}
theorem Zle (h:Zjc s w e w'):Zci (fun x:ByteArray × Bool=>.tuple #[.string x.1, .bool x.2]) (fun x _=>Zaz (bytes s)=(x.2,bytes x.1)) w e w':=by
 obtain ⟨r,neg,rfl,h,rfl⟩:=h
 exact ⟨(r,neg),rfl,Fr.refl _ _,BoxN.pure h⟩
end
theorem Zkq {a b:ByteArray} (h:bytes a=bytes b):a=b:=by
 cases a with | mk a=>cases b with | mk b=>simp only [bytes] at h; rw [Array.toList_inj.1 h]
def e4:Nat:=400
end Go.Proofs.YtklpdkpcocnglaaGreatDoor

namespace Go.Proofs.YtklpdkpcocnglaaGreatDoor
open Go.RowKit
end Go.Proofs.YtklpdkpcocnglaaGreatDoor

namespace Go.Proofs.YtklpdkpcocnglaaGreatDoor
open Go.RowKit
theorem Zkr {s:ByteArray} (h:bytes s=[48]):(s.toList == (⟨#[48]⟩:ByteArray).toList)=true:=by
 rw [Lib.toList_data,Lib.toList_data,show s.data.toList=[48] from h]; rfl
theorem Zks {s:ByteArray} (h:¬ bytes s=[48]):(s.toList == (⟨#[48]⟩:ByteArray).toList)=false:=by
 rw [Lib.toList_data,Lib.toList_data]; exact beq_eq_false_iff_ne.2 h
theorem zt:Zbg 0=[48]:=ZgY (n:=0) (by decide) (by decide) (by decide)
theorem Zc6 {P:Program} {o:Oper} {ρ:Operand→Value} {w:World} {t:TypeId} {x i:Operand} {b:ByteArray} {k:Nat} {c:UInt8} (ho:o.op=Op.index t x i) (ht:P.underlying t=some .string) (hx:ρ x=.string b) (hi:ρ i=.int .i64 (k:Int)) (hc:b[k]? = some c):(execOp ρ o).run P w=.ok (.value (.int .u8 (c.toNat:Int))) w:=by
 simp [execOp,ho,Instr.index,asIntOf,underlying,ht,hx,hi,hc,Result.andThen]
end Go.Proofs.YtklpdkpcocnglaaGreatDoor

namespace Go.Proofs.YtklpdkpcocnglaaGreatDoor
open Go.RowKit
end Go.Proofs.YtklpdkpcocnglaaGreatDoor

namespace Go.Proofs.YtklpdkpcocnglaaGreatDoor
open Go.RowKit
theorem ZnX (a b:List UInt8):(⟨a.toArray⟩:ByteArray) ++ ⟨b.toArray⟩=⟨(a ++ b).toArray⟩:=by
 apply ByteArray.ext
 simp
end Go.Proofs.YtklpdkpcocnglaaGreatDoor

namespace Go.Proofs.YtklpdkpcocnglaaGreatDoor
open Go.RowKit
end Go.Proofs.YtklpdkpcocnglaaGreatDoor

namespace Go.Proofs.YtklpdkpcocnglaaGreatDoor
open Go.RowKit
end Go.Proofs.YtklpdkpcocnglaaGreatDoor

namespace Go.Proofs.YtklpdkpcocnglaaGreatDoor
open Go.RowKit
def ZaT (c:UInt8):Bool:=c != 47
theorem Zgb {l:List UInt8} (h:l.all Zaq=true):l.all ZaT=true:=by
 rw [List.all_eq_true] at *
 intro x hx
 have:=h x hx
 unfold ZaT
 simp
 rintro rfl
 exact absurd this (by decide)
theorem Zmr {t:ByteArray} {p:Nat} (hp:p=((bytes t).takeWhile ZaT).length):bytes (t.extract 0 p)=(bytes t).takeWhile ZaT∧bytes (t.extract (p + 1) t.size)=(bytes t).drop (p + 1):=by
 rw [Zbp,Zbp]
 refine ⟨?_,?_⟩
 ·rw [List.drop_zero,Nat.sub_zero,hp]
  have:=List.takeWhile_prefix ZaT (l:=bytes t)
  exact (List.prefix_iff_eq_take.1 this).symm
 ·rw [List.take_of_length_le (by rw [List.length_drop,Zan]; exact Nat.le_refl _)]
theorem Znc {s:ByteArray} (h:¬ bytes s=[]):∃ c,(bytes s).head? = some c∧s[0]? = some c:=by
 obtain ⟨h1,_⟩:=ZdJ h
 exact ⟨s[0],ZdW h1,by simp [h1]⟩
theorem Znd {s:ByteArray} (h:¬ bytes s=[]):1≤s.size:=(ZdJ h).1
end Go.Proofs.YtklpdkpcocnglaaGreatDoor

namespace Go.Proofs.YtklpdkpcocnglaaGreatDoor
open Go.RowKit
section
variable {w w':World} {e:Ending} {l:List UInt8}
end
end Go.Proofs.YtklpdkpcocnglaaGreatDoor

namespace Go.Proofs.YtklpdkpcocnglaaGreatDoor
open Go.RowKit
end Go.Proofs.YtklpdkpcocnglaaGreatDoor

namespace Go.Proofs.YtklpdkpcocnglaaGreatDoor
open Go.RowKit
theorem ZeQ:∀ l:List UInt8,Lib.indexByte l 47=if (l.takeWhile ZaT).length < l.length then ((l.takeWhile ZaT).length:Int) else -1
 | []=>by simp [Lib.indexByte]
 | b :: l=>by
   have ih:=ZeQ l
   unfold Lib.indexByte
   by_cases hb:b=47
   ·subst hb; simp [ZaT]
   ·have h1:(b == (47:UInt8))=false:=by simpa using hb
    have h2:ZaT b=true:=by simp [ZaT,hb]
    rw [h1,ih]
    simp only [List.takeWhile_cons,h2,List.length_cons,if_true,Bool.false_eq_true,if_false]
    generalize (l.takeWhile ZaT).length=k
    generalize l.length=n
    by_cases h3:k < n
    ·have h4:k + 1 < n + 1:=by omega
     have h5:(((k:Nat):Int) == -1)=false:=by simp
     rw [if_pos h4,if_pos h3]
     simp only [h5,Bool.false_eq_true,if_false]
     omega
    ·have h4:¬ k + 1 < n + 1:=by omega
     rw [if_neg h4,if_neg h3]
     rfl
theorem ZoA {s:ByteArray} (h:bytes s=[47]):(0:Int)=Lib.indexByte (bytes s) 47:=by rw [h]; rfl
theorem ZnY {s:ByteArray} (h:bytes s=[47]):((⟨#[47]⟩:ByteArray).toList == s.toList)=true:=by
 rw [Lib.toList_data,Lib.toList_data,show s.data.toList=[47] from h]; rfl
theorem ZnZ {s:ByteArray} (h:¬ bytes s=[47]):((⟨#[47]⟩:ByteArray).toList == s.toList)=false:=by
 rw [Lib.toList_data,Lib.toList_data]; exact beq_eq_false_iff_ne.2 (fun e=>h e.symm)
theorem Zn0 {p:Nat} (h:p≤1000000):IntKind.i64.wrap (((p:Nat):Int) + ((⟨#[47]⟩:ByteArray).size:Int))=((p + 1:Nat):Int):=by
 rw [show (((⟨#[47]⟩:ByteArray).size:Nat):Int)=1 from rfl,IntKind.wrap_i64]; omega
theorem Zkt (z:Int):(Lib.itoa z).all ZaT=true:=by
 rcases Int.lt_or_le z 0 with h | h
 ·rw [Zfv h,List.all_append,Zgb (Zcb _)]; rfl
 ·rw [show z=((z.toNat:Nat):Int) by omega,ZbF]; exact Zgb (Zcb _)
theorem Zir {l:List UInt8} {q:Rat} (h:Zbb l=some q) (h1:q.den=1):l=Lib.itoa q.num∧l.length≤(l.takeWhile ZaT).length:=by
 have ht:Zbg q=l:=Zdz h
 have e:l=Lib.itoa q.num:=by rw [← ht]; unfold Zbg; rw [if_pos h1]
 refine ⟨e,?_⟩
 have:=Zkt q.num
 rw [← e] at this
 rw [(Zda this).1]
 exact Nat.le_refl _
theorem Zms {l:List UInt8} {q:Rat} (h:Zbb l=some q) (h1:¬ q.den=1):l.takeWhile ZaT=Lib.itoa q.num∧l.drop ((l.takeWhile ZaT).length + 1)=Lib.itoa (q.den:Int)∧(l.takeWhile ZaT).length < l.length:=by
 have ht:Zbg q=l:=Zdz h
 have e:l=Lib.itoa q.num ++ 47 :: Lib.itoa (q.den:Int):=by rw [← ht]; unfold Zbg; rw [if_neg h1]; simp
 obtain ⟨e1,e2⟩:=Ze5 (p:=ZaT) (r:=Lib.itoa (q.den:Int)) (c:=47) (Zkt q.num) (by decide)
 rw [← e] at e1 e2
 refine ⟨e1,?_,?_⟩
 ·rw [e1,e,← List.drop_drop,List.drop_left]; rfl
 ·rw [e1,e]; simp
theorem Zlf:Ending.returned (.tuple #[.string ⟨#[48]⟩, .string ⟨#[49]⟩])=Ending.returned (.tuple #[.string ⟨(Lib.itoa (0:Rat).num).toArray⟩, .string ⟨(Lib.itoa ((0:Rat).den:Int)).toArray⟩]):=by
 rw [show (0:Rat).num=((0:Nat):Int) from rfl,show ((0:Rat).den:Int)=((1:Nat):Int) from rfl,Zfw (by decide),Zfw (by decide)]; rfl
theorem Zj4 (s:ByteArray):Ending.returned (.tuple #[.string s, .string ⟨#[49]⟩])=Ending.returned (.tuple #[.string ⟨(bytes s).toArray⟩, .string ⟨(Lib.itoa ((1:Nat):Int)).toArray⟩]):=by
 rw [Zfw (by decide)]; rfl
theorem Zmt (s:ByteArray) (w:World):Calls Tryz.prog 224 #[.string s, .int .u8 (((47:UInt8).toNat:Nat):Int)] w (RetV w (.int .i64 (Lib.indexByte (bytes s) 47))):=by
 refine (Tryz.stringslite_IndexByte s (((47:UInt8).toNat:Nat):Int) w).mono ?_
 rintro e w' ⟨rfl,rfl⟩
 exact ⟨rfl,Fr.refl _ _⟩
theorem Ze6 (s:ByteArray) (w:World) :
 Calls Tryz.prog 198 #[.string s, .string ⟨#[47]⟩] w (RetV w (.int .i64 (Lib.indexByte (bytes s) 47))):=by
 refine Zau (Φ:=fun w=>True) Tryz.func198 rfl (by kernel_rfl) (fun w' hf=>trivial) ?_
 refine Zac (Zaa (xr 1 [(0, .v (.string s)),(1, .v (.string ⟨#[47]⟩)),(4, .v (.int .i64 0))] [] ?_))
 refine xe (Zab (Zac (Zaa (xr 2 [(0, .v (.string s)),(1, .v (.string ⟨#[47]⟩)),(4, .v (.int .i64 0)),(15, .v (.int .i64 ((⟨#[47]⟩:ByteArray).size:Int)))] [] ?_))))
 rw [(show (((⟨#[47]⟩:ByteArray).size:Nat):Int)=1 from rfl)]
 refine xr 1 [(0, .v (.string s)),(1, .v (.string ⟨#[47]⟩)),(4, .v (.int .i64 0)),(5, .v (.int .i64 1))] [] ?_
 refine xe (Zab (Zac (Zax (Zac ?_))))
 by_cases h47:bytes s=[47]
 ·refine Zaa (xr 6 [(0, .v (.string s)),(1, .v (.string ⟨#[47]⟩)),(4, .v (.int .i64 0)),(5, .v (.int .i64 1)),(19, .v (.bool false)),(22, .v (.bool ((⟨#[47]⟩:ByteArray).toList == (s:ByteArray).toList)))] [] ?_)
  rw [ZnY h47]
  refine xr 2 [(0, .v (.string s)),(1, .v (.string ⟨#[47]⟩)),(4, .v (.int .i64 0)),(5, .v (.int .i64 1)),(16, .v (.bool true))] [] ?_
  refine xe (Zab (xa (Zac (Zaa (xr 1 [(0, .v (.string s)),(1, .v (.string ⟨#[47]⟩)),(4, .v (.int .i64 0)),(5, .v (.int .i64 1))] [] ?_)))))
  refine xe (Zab (Zai (Zbl (Zah ?_))))
  refine Zag (v:=.int .i64 0) (by kernel_rfl) (fun w' R Q=>?_)
  exact ⟨by rw [← ZoA h47],R⟩
 ·refine Zaa (xr 6 [(0, .v (.string s)),(1, .v (.string ⟨#[47]⟩)),(4, .v (.int .i64 0)),(5, .v (.int .i64 1)),(19, .v (.bool false)),(22, .v (.bool ((⟨#[47]⟩:ByteArray).toList == (s:ByteArray).toList)))] [] ?_)
  rw [ZnZ h47]
  refine xr 2 [(0, .v (.string s)),(1, .v (.string ⟨#[47]⟩)),(4, .v (.int .i64 0)),(5, .v (.int .i64 1)),(16, .v (.bool false))] [] ?_
  refine xe (Zab (xb (Zac (Zaa (xr 3 [(0, .v (.string s)),(1, .v (.string ⟨#[47]⟩)),(4, .v (.int .i64 0)),(5, .v (.int .i64 1)),(24, .v (.bool true))] [] ?_)))))
  refine xe (Zab (xa (Zac (Zaa (xr 2 [(0, .v (.string s)),(1, .v (.string ⟨#[47]⟩)),(4, .v (.int .i64 0)),(5, .v (.int .i64 1)),(27, .v (.string s)),(28, .v (.string ⟨#[47]⟩))] [] ?_)))))
  refine Zb8 29 (.int .u8 (((47:UInt8).toNat:Nat):Int)) (by kernel_rfl) (by kernel_rfl) (by kernel_rfl) (by kernel_rfl) (by kernel_rfl) (by kernel_rfl) (fun w R Q=>Zc6 (c:=47) (b:=⟨#[47]⟩) (t:=9) (x:=.tmp 28) (k:=0) (i:=.const (.int .i64 0)) (by kernel_rfl) (by kernel_rfl) (by kernel_rfl) (by rfl) (by rfl)) ?_
  refine xr 0 [(0, .v (.string s)),(1, .v (.string ⟨#[47]⟩)),(4, .v (.int .i64 0)),(5, .v (.int .i64 1)),(27, .v (.string s)),(29, .v (.int .u8 (((47:UInt8).toNat:Nat):Int)))] [] ?_
  refine xc 224 [.string s, .int .u8 (((47:UInt8).toNat:Nat):Int)] 30 (fun _:Unit=>.int .i64 (Lib.indexByte (bytes s) 47)) _ (fun w R Q=>(Zmt s _).mono (fun _ _ h=>Zak h rfl)) (fun xx=>?_)
  refine xr 1 [(0, .v (.string s)),(1, .v (.string ⟨#[47]⟩)),(4, .v (.int .i64 (Lib.indexByte (bytes s) 47))),(5, .v (.int .i64 1))] [] ?_
  refine xe (Zab (Zai (Zbl (Zah ?_))))
  refine Zag (v:=.int .i64 (Lib.indexByte (bytes s) 47)) (by kernel_rfl) (fun w' R Q=>?_)
  exact ⟨rfl,R⟩
theorem Zjt (s x y:ByteArray) (p:Nat) (w:World) (h1:s.size≤100000) (hp:p=((bytes s).takeWhile ZaT).length) (hlt:p < s.size) (hx:s.extract 0 p=x) (hy:s.extract (p + 1) s.size=y) :
 Calls Tryz.prog 173 #[.string s, .string ⟨#[47]⟩] w (RetV w (.tuple #[.string x, .string y, .bool true])):=by
 have hlt':((bytes s).takeWhile ZaT).length < (bytes s).length:=by rw [← hp,Zan]; exact hlt
 refine Zau (Φ:=fun w=>True) Tryz.func173 rfl (by kernel_rfl) (fun w' hf=>trivial) ?_
 refine Zac (Zaa (xr 3 [(0, .v (.string s)),(1, .v (.string ⟨#[47]⟩)),(4, .v (.string ⟨#[]⟩)),(5, .v (.string ⟨#[]⟩)),(6, .v (.bool false))] [] ?_))
 refine xe (Zab (Zac (Zac (Zaa (xr 2 [(0, .v (.string s)),(1, .v (.string ⟨#[47]⟩)),(4, .v (.string ⟨#[]⟩)),(5, .v (.string ⟨#[]⟩)),(6, .v (.bool false)),(8, .v (.string s)),(9, .v (.string ⟨#[47]⟩))] [] ?_)))))
 refine xc 198 [.string s, .string ⟨#[47]⟩] 10 (fun _:Unit=>.int .i64 ((p:Nat):Int)) _ (fun w R Q=>(Ze6 s _).mono (fun _ _ h=>Zak h (by rw [ZeQ,if_pos hlt',← hp]))) (fun xx=>?_)
 refine xr 1 [(0, .v (.string s)),(1, .v (.string ⟨#[47]⟩)),(4, .v (.string ⟨#[]⟩)),(5, .v (.string ⟨#[]⟩)),(6, .v (.bool false)),(7, .v (.int .i64 ((p:Nat):Int)))] [] ?_
 refine xe (Zab (Zac (Zaa (xr 2 [(0, .v (.string s)),(1, .v (.string ⟨#[47]⟩)),(4, .v (.string ⟨#[]⟩)),(5, .v (.string ⟨#[]⟩)),(6, .v (.bool false)),(7, .v (.int .i64 ((p:Nat):Int))),(12, .v (.bool (decide (((p:Nat):Int) ≥ 0))))] [] ?_))))
 rw [(show decide (((p:Nat):Int) ≥ 0)=true from decide_eq_true (by omega))]
 refine xr 0 [(0, .v (.string s)),(1, .v (.string ⟨#[47]⟩)),(4, .v (.string ⟨#[]⟩)),(5, .v (.string ⟨#[]⟩)),(6, .v (.bool false)),(7, .v (.int .i64 ((p:Nat):Int))),(12, .v (.bool true))] [] ?_
 refine xe (Zab (xa (Zac ?_)))
 refine Zbr 12 (by kernel_rfl) (by kernel_rfl) ZaA ?_
 refine xf 2 [(0, .v (.string s)),(1, .v (.string ⟨#[47]⟩)),(4, .v (.string ⟨#[]⟩)),(5, .v (.string ⟨#[]⟩)),(6, .v (.bool false)),(7, .v (.int .i64 ((p:Nat):Int))),(13, .v (.string s)),(14, .v (.int .i64 ((p:Nat):Int)))] [] ?_
 refine Zgm 15 (.string x) (by kernel_rfl) (by kernel_rfl) (by kernel_rfl) (by kernel_rfl) (by kernel_rfl) (by kernel_rfl) (fun w Q=>ZfZ 0 p (t:=9) (x:=(Operand.tmp 13)) (lo:=none) (hi:=(some (Operand.tmp 14))) (by kernel_rfl) (by kernel_rfl) (by kernel_rfl) (Or.inl ⟨rfl,rfl⟩) (Or.inr (by kernel_rfl)) (by omega) (by omega) hx) ?_
 refine xf 5 [(0, .v (.string s)),(4, .v (.string ⟨#[]⟩)),(5, .v (.string ⟨#[]⟩)),(6, .v (.bool false)),(15, .v (.string x)),(16, .v (.string s)),(20, .v (.int .i64 (IntKind.i64.wrap (((p:Nat):Int) + ((⟨#[47]⟩:ByteArray).size:Int)))))] [] ?_
 rw [Zn0 (p:=p) (by omega)]
 refine Zgm 21 (.string y) (by kernel_rfl) (by kernel_rfl) (by kernel_rfl) (by kernel_rfl) (by kernel_rfl) (by kernel_rfl) (fun w Q=>ZfZ (p + 1) _ (t:=9) (x:=(Operand.tmp 16)) (lo:=(some (Operand.tmp 20))) (hi:=none) (by kernel_rfl) (by kernel_rfl) (by kernel_rfl) (Or.inr (by kernel_rfl)) (Or.inl ⟨rfl,rfl⟩) (by omega) (Nat.le_refl _) hy) ?_
 refine xf 3 [(0, .v (.string s)),(4, .v (.string x)),(5, .v (.string y)),(6, .v (.bool true))] [] ?_
 refine xz (xe (Zab (Zai (Zah ?_))))
 refine Zag (v:=.tuple #[.string x, .string y, .bool true]) (by kernel_rfl) (fun w' R Q=>?_)
 exact ⟨rfl,R⟩
theorem Zj5 (s:ByteArray) (w:World) (hlt':¬ ((bytes s).takeWhile ZaT).length < (bytes s).length) :
 Calls Tryz.prog 173 #[.string s, .string ⟨#[47]⟩] w (RetV w (.tuple #[.string s, .string ⟨#[]⟩, .bool false])):=by
 refine Zau (Φ:=fun w=>True) Tryz.func173 rfl (by kernel_rfl) (fun w' hf=>trivial) ?_
 refine Zac (Zaa (xr 3 [(0, .v (.string s)),(1, .v (.string ⟨#[47]⟩)),(4, .v (.string ⟨#[]⟩)),(5, .v (.string ⟨#[]⟩)),(6, .v (.bool false))] [] ?_))
 refine xe (Zab (Zac (Zac (Zaa (xr 2 [(0, .v (.string s)),(1, .v (.string ⟨#[47]⟩)),(4, .v (.string ⟨#[]⟩)),(5, .v (.string ⟨#[]⟩)),(6, .v (.bool false)),(8, .v (.string s)),(9, .v (.string ⟨#[47]⟩))] [] ?_)))))
 refine xc 198 [.string s, .string ⟨#[47]⟩] 10 (fun _:Unit=>.int .i64 (-1)) _ (fun w R Q=>(Ze6 s _).mono (fun _ _ h=>Zak h (by rw [ZeQ,if_neg hlt']))) (fun xx=>?_)
 refine xr 1 [(0, .v (.string s)),(1, .v (.string ⟨#[47]⟩)),(4, .v (.string ⟨#[]⟩)),(5, .v (.string ⟨#[]⟩)),(6, .v (.bool false)),(7, .v (.int .i64 (-1)))] [] ?_
 refine xe (Zab (Zac (Zaa (xr 2 [(0, .v (.string s)),(1, .v (.string ⟨#[47]⟩)),(4, .v (.string ⟨#[]⟩)),(5, .v (.string ⟨#[]⟩)),(6, .v (.bool false)),(7, .v (.int .i64 (-1))),(12, .v (.bool false))] [] ?_))))
 refine xe (Zab (xb (Zam (Zab (Zac (Zaa (xr 4 [(4, .v (.string s)),(5, .v (.string ⟨#[]⟩)),(6, .v (.bool false))] [] ?_)))))))
 refine xe (Zab (Zai ?_))
 refine Zag (v:=.tuple #[.string s, .string ⟨#[]⟩, .bool false]) (by kernel_rfl) (fun w' R Q=>?_)
 exact ⟨rfl,R⟩
theorem Zlg (s x y:ByteArray) (p:Nat) (w:World) (h1:s.size≤100000) (hp:p=((bytes s).takeWhile ZaT).length) (hlt:p < s.size) (hx:s.extract 0 p=x) (hy:s.extract (p + 1) s.size=y) :
 Calls Tryz.prog 141 #[.string s, .string ⟨#[47]⟩] w (RetV w (.tuple #[.string x, .string y, .bool true])):=by
 refine Zau (Φ:=fun w=>True) Tryz.func141 rfl (by kernel_rfl) (fun w' hf=>trivial) ?_
 refine Zac (Zaa (xr 3 [(0, .v (.string s)),(1, .v (.string ⟨#[47]⟩)),(4, .v (.string ⟨#[]⟩)),(5, .v (.string ⟨#[]⟩)),(6, .v (.bool false))] [] ?_))
 refine xe (Zab (Zac (Zaa (xr 2 [(4, .v (.string ⟨#[]⟩)),(5, .v (.string ⟨#[]⟩)),(6, .v (.bool false)),(7, .v (.string s)),(8, .v (.string ⟨#[47]⟩))] [] ?_))))
 refine xc 173 [.string s, .string ⟨#[47]⟩] 9 (fun _:Unit=>.tuple #[.string x, .string y, .bool true]) _ (fun w R Q=>(Zjt s x y p _ h1 hp hlt hx hy).mono (fun _ _ h=>Zak h rfl)) (fun xx=>?_)
 refine xr 6 [(4, .v (.string x)),(5, .v (.string y)),(6, .v (.bool true))] [] ?_
 refine xe (Zab (Zai ?_))
 refine Zag (v:=.tuple #[.string x, .string y, .bool true]) (by kernel_rfl) (fun w' R Q=>?_)
 exact ⟨rfl,R⟩
theorem Zmu (s:ByteArray) (w:World) (hlt':¬ ((bytes s).takeWhile ZaT).length < (bytes s).length) :
 Calls Tryz.prog 141 #[.string s, .string ⟨#[47]⟩] w (RetV w (.tuple #[.string s, .string ⟨#[]⟩, .bool false])):=by
 refine Zau (Φ:=fun w=>True) Tryz.func141 rfl (by kernel_rfl) (fun w' hf=>trivial) ?_
 refine Zac (Zaa (xr 3 [(0, .v (.string s)),(1, .v (.string ⟨#[47]⟩)),(4, .v (.string ⟨#[]⟩)),(5, .v (.string ⟨#[]⟩)),(6, .v (.bool false))] [] ?_))
 refine xe (Zab (Zac (Zaa (xr 2 [(4, .v (.string ⟨#[]⟩)),(5, .v (.string ⟨#[]⟩)),(6, .v (.bool false)),(7, .v (.string s)),(8, .v (.string ⟨#[47]⟩))] [] ?_))))
 refine xc 173 [.string s, .string ⟨#[47]⟩] 9 (fun _:Unit=>.tuple #[.string s, .string ⟨#[]⟩, .bool false]) _ (fun w R Q=>(Zj5 s _ hlt').mono (fun _ _ h=>Zak h rfl)) (fun xx=>?_)
 refine xr 6 [(4, .v (.string s)),(5, .v (.string ⟨#[]⟩)),(6, .v (.bool false))] [] ?_
 refine xe (Zab (Zai ?_))
 refine Zag (v:=.tuple #[.string s, .string ⟨#[]⟩, .bool false]) (by kernel_rfl) (fun w' R Q=>?_)
 exact ⟨rfl,R⟩
theorem Zlh (s:ByteArray) (w:World) (hg:Glob w) (hs:(bytes s).length≤570) :
 Calls Tryz.prog 98 #[.string s] w (RetV w (.tuple #[.string ⟨(Lib.itoa (valF (bytes s)).num).toArray⟩, .string ⟨(Lib.itoa ((valF (bytes s)).den:Int)).toArray⟩])):=by
 refine Zau (Φ:=fun w=>Glob w) Tryz.func98 rfl (by kernel_rfl) (fun w' hf=>hg.ext hf) ?_
 refine Zac (Zaa (xr 2 [(0, .v (.string s)),(2, .v (.string ⟨#[]⟩)),(3, .v (.string ⟨#[]⟩))] [] ?_))
 refine xe (Zab (Zac (Zac (Zaa (xr 1 [(0, .v (.string s)),(2, .v (.string ⟨#[]⟩)),(3, .v (.string ⟨#[]⟩)),(7, .v (.string s))] [] ?_)))))
 by_cases hv:(Zbb (bytes s)).isSome=true
 ·obtain ⟨q,hq⟩:=Option.isSome_iff_exists.1 hv
  have hV:=ZeJ hq
  refine xc 54 [.string s] 8 (fun _:Unit=>.bool true) _ (fun w R Q=>(ZeL s _ Q hs).mono (fun _ _ h=>Zak h (by rw [hv]))) (fun xx=>?_)
  refine xr 1 [(0, .v (.string s)),(2, .v (.string ⟨#[]⟩)),(3, .v (.string ⟨#[]⟩)),(9, .v (.bool false))] [] ?_
  refine xe (Zab (xb (Zam (Zab (Zac (Zaa (xr 1 [(2, .v (.string ⟨#[]⟩)),(3, .v (.string ⟨#[]⟩)),(11, .v (.string s))] [] ?_)))))))
  by_cases hd1:q.den=1
  ·refine xc 141 [.string s, .string ⟨#[47]⟩] 12 (fun _:Unit=>.tuple #[.string s, .string ⟨#[]⟩, .bool false]) _ (fun w R Q=>(Zmu s _ (by have:=(Zir hq hd1).2; omega)).mono (fun _ _ h=>Zak h rfl)) (fun xx=>?_)
   refine xr 7 [(2, .v (.string ⟨#[]⟩)),(3, .v (.string ⟨#[]⟩)),(4, .v (.string s)),(5, .v (.string ⟨#[]⟩)),(6, .v (.bool false))] [] ?_
   refine xe (Zab (Zac (Zac (Zaa (xr 2 [(2, .v (.string ⟨#[]⟩)),(3, .v (.string ⟨#[]⟩)),(4, .v (.string s)),(5, .v (.string ⟨#[]⟩)),(17, .v (.bool true))] [] ?_)))))
   refine xe (Zab (xa (Zac (Zaa (xr 3 [(2, .v (.string s)),(3, .v (.string ⟨#[49]⟩)),(4, .v (.string s)),(5, .v (.string ⟨#[]⟩))] [] ?_)))))
   refine xe (Zab (Zai (Zah ?_)))
   refine Zag (v:=.tuple #[.string s, .string ⟨#[49]⟩]) (by kernel_rfl) (fun w' R Q=>?_)
   exact ⟨by rw [hV,hd1,← (Zir hq hd1).1]; exact Zj4 s,R⟩
  ·obtain ⟨e1,e2,e3⟩:=Zms hq hd1
   obtain ⟨p,hp⟩:∃ p,p=((bytes s).takeWhile ZaT).length:=⟨_,rfl⟩
   rw [← hp] at e2 e3
   have hpl:p < s.size:=by rw [← Zan]; exact e3
   obtain ⟨x,hx⟩:∃ x,s.extract 0 p=x:=⟨_,rfl⟩
   obtain ⟨y,hy⟩:∃ y,s.extract (p + 1) s.size=y:=⟨_,rfl⟩
   have hX:x=⟨(Lib.itoa (q.num)).toArray⟩:=Zkq (by rw [← hx,(Zmr hp).1,e1,ZcU])
   have hY:y=⟨(Lib.itoa (q.den:Int)).toArray⟩:=Zkq (by rw [← hy,(Zmr hp).2,e2,ZcU])
   refine xc 141 [.string s, .string ⟨#[47]⟩] 12 (fun _:Unit=>.tuple #[.string x, .string y, .bool true]) _ (fun w R Q=>(Zlg s x y p _ (by rw [← Zan]; omega) hp hpl hx hy).mono (fun _ _ h=>Zak h rfl)) (fun xx=>?_)
   refine xr 7 [(2, .v (.string ⟨#[]⟩)),(3, .v (.string ⟨#[]⟩)),(4, .v (.string x)),(5, .v (.string y)),(6, .v (.bool true))] [] ?_
   refine xe (Zab (Zac (Zac (Zaa (xr 2 [(2, .v (.string ⟨#[]⟩)),(3, .v (.string ⟨#[]⟩)),(4, .v (.string x)),(5, .v (.string y)),(17, .v (.bool false))] [] ?_)))))
   refine xe (Zab (xb (Zam (Zab (Zac (Zaa (xr 4 [(2, .v (.string x)),(3, .v (.string y))] [] ?_)))))))
   refine xe (Zab (Zai ?_))
   refine Zag (v:=.tuple #[.string x, .string y]) (by kernel_rfl) (fun w' R Q=>?_)
   exact ⟨by rw [hV,hX,hY],R⟩
 ·have hV:valF (bytes s)=0:=Zmm (by cases h:Zbb (bytes s) with | none=>rfl | some q=>rw [h] at hv; exact absurd rfl hv)
  refine xc 54 [.string s] 8 (fun _:Unit=>.bool false) _ (fun w R Q=>(ZeL s _ Q hs).mono (fun _ _ h=>Zak h (by rw [Bool.eq_false_iff.2 hv]))) (fun xx=>?_)
  refine xr 1 [(0, .v (.string s)),(2, .v (.string ⟨#[]⟩)),(3, .v (.string ⟨#[]⟩)),(9, .v (.bool true))] [] ?_
  refine xe (Zab (xa (Zac (Zaa (xr 2 [(0, .v (.string s)),(2, .v (.string ⟨#[48]⟩)),(3, .v (.string ⟨#[49]⟩))] [] ?_)))))
  refine xe (Zab (Zai (Zah ?_)))
  refine Zag (v:=.tuple #[.string ⟨#[48]⟩, .string ⟨#[49]⟩]) (by kernel_rfl) (fun w' R Q=>?_)
  exact ⟨by rw [hV]; exact Zlf,R⟩
end Go.Proofs.YtklpdkpcocnglaaGreatDoor

namespace Go.Proofs.YtklpdkpcocnglaaGreatDoor
open Go.RowKit
def Zku (s:ByteArray) (w:World) (e:Ending) (w':World):Prop:=∃ (r:ByteArray) (neg:Bool),e=.returned (.tuple #[.bool neg, .string r])∧Zaz (bytes s)=(neg,bytes r)∧Ext w w'
def ZhD (x:ByteArray × Bool):Value:=.tuple #[.bool x.2, .string x.1]
theorem Zgc {s:ByteArray} {w w':World} {e:Ending} (h:Zku s w e w'):Zci ZhD (fun x _=>Zaz (bytes s)=(x.2,bytes x.1)) w e w':=by
 obtain ⟨r,neg,rfl,h,Q⟩:=h
 exact ⟨(r,neg),rfl,Q,BoxN.pure h⟩
theorem Zne {t:ByteArray} {i:Nat} {c:UInt8} (hI:((bytes t).take i).all Zaq=true) (hc:t[i]? = some c) (h1:¬ (c.toNat:Int) < 48) (h2:¬ (c.toNat:Int) > 57):((bytes t).take (i + 1)).all Zaq=true:=by
 have hi:i < t.size:=by
  rcases Nat.lt_or_ge i t.size with h' | h'
  ·exact h'
  ·rw [getElem?_neg t i (by omega)] at hc; cases hc
 have hc':t[i]=c:=by
  rw [getElem?_pos t i hi] at hc
  injection hc
 rw [ZeC _ _ hi,List.all_append,hI,hc']
 have:Zaq c=true:=by unfold Zaq; simp; omega
 simp [this]
theorem Zkv {t:ByteArray} {i:Nat} {c:UInt8} (hc:t[i]? = some c) (h:(c.toNat:Int) < 48∨(c.toNat:Int) > 57):¬ (bytes t).all Zaq=true:=by
 have hi:i < t.size:=by
  rcases Nat.lt_or_ge i t.size with h' | h'
  ·exact h'
  ·rw [getElem?_neg t i (by omega)] at hc; cases hc
 have hc':t[i]=c:=by
  rw [getElem?_pos t i hi] at hc
  injection hc
 intro ha
 have hm:t[i] ∈ bytes t:=by
  rw [← ZgT t hi]; exact List.getElem_mem _
 have:=ZcT (List.all_eq_true.1 ha _ hm)
 rw [hc'] at this
 unfold Zaq at *
 have h2:=List.all_eq_true.1 ha _ hm
 rw [hc'] at h2
 simp at h2
 omega
section
variable {s r:ByteArray} {neg:Bool} {x:Int}
theorem ZoN (h:bytes s=[48]):fvB (bytes s) x=(x == 0):=by unfold fvB; rw [if_pos h]; rfl
theorem Ze7 (h:¬ bytes s=[48]) (hM:Zaz (bytes s)=(neg,bytes r)) (hb:bytes r=[]∨(bytes r).head? = some 48∨¬ okE x∨¬ (bytes r).all Zaq=true):fvB (bytes s) x=false:=by
 unfold fvB
 rw [if_neg h,hM]
 refine decide_eq_false ?_
 rintro ⟨h1,h2,h3,h4,_⟩
 rcases hb with hb | hb | hb | hb
 ·exact h1 hb
 ·exact h2 hb
 ·exact hb h3
 ·exact hb h4
theorem Zn1 {c c0:UInt8} (h:¬ bytes s=[48]) (hM:Zaz (bytes s)=(neg,bytes r)) (h0:r[0]? = some c0) (hz:¬ (c0.toNat:Int)=48) (h1:¬ x < -1048576) (h2:¬ x > 1048576) (hd:(bytes r).all Zaq=true) {k:Nat} (hk:r.size=k + 1) (hc:r[k]? = some c):fvB (bytes s) x=(((c.toNat % 2:Nat):Int) == 1):=by
 have e:bytes r=(bytes r).take k ++ [c]:=by
  have h':k < r.size:=by omega
  have:=ZeC r k h'
  rw [List.take_of_length_le (by rw [Zan]; omega)] at this
  rw [getElem?_pos r k h'] at hc
  injection hc with hc
  rw [hc] at this
  exact this
 have hp:Zaj (bytes r) % 2=c.toNat % 2:=by
  rw [e] at hd ⊢
  exact Znb hd
 have hh:(bytes r).head? = some c0:=by
  have h':0 < r.size:=by omega
  rw [getElem?_pos r 0 h'] at h0
  injection h0 with h0
  rw [← h0]; exact ZdW h'
 unfold fvB
 rw [if_neg h,hM]
 have h8:c0.toNat≠48:=by omega
 show decide _=decide _
 refine decide_eq_decide.2 ⟨fun q=>?_,fun q=>⟨?_,?_,⟨by omega,by omega⟩,hd,?_⟩⟩
 ·have:=q.2.2.2.2
  show ((c.toNat % 2:Nat):Int)=1
  rw [hp] at this; omega
 ·intro e'
  have e2:bytes r=[]:=e'
  have:(bytes r).length=0:=by rw [e2]; rfl
  rw [Zan] at this; omega
 ·rw [hh]; intro e; injection e with e; exact h8 (by rw [e]; rfl)
 ·have q':((c.toNat % 2:Nat):Int)=1:=q
  show Zaj (bytes r) % 2=1
  rw [hp]; omega
end
theorem Znf {P:Program} {o:Oper} {ρ:Operand→Value} {w:World} {t k:TypeId} {x y:Operand} {c:UInt8} (ho:o.op=Op.binOp .and t x y k) (hx:ρ x=.int .u8 (c.toNat:Int)) (hy:ρ y=.int .u8 1):(execOp ρ o).run P w=.ok (.value (.int .u8 ((c.toNat % 2:Nat):Int))) w:=by
 have h:bits .and .u8 (c.toNat:Int) 1=((c.toNat % 2:Nat):Int):=by
  have hc:=c.toNat_lt
  have h1:(BitVec.ofInt 8 (c.toNat:Int)).toNat=c.toNat:=by
   rw [BitVec.ofInt_natCast,BitVec.toNat_ofNat]; exact Nat.mod_eq_of_lt (by omega)
  show IntKind.u8.wrap ((BitVec.ofInt 8 (c.toNat:Int) &&& BitVec.ofInt 8 1).toNat:Int)=_
  rw [BitVec.toNat_and,h1,show (BitVec.ofInt 8 1).toNat=1 from rfl,Nat.and_one_is_mod,IntKind.wrap_u8]; omega
 rw [← h]
 simp only [execOp,ho,hx,hy,eqGuard,binOp]
 rfl
theorem Zgd (s:ByteArray) (w:World) :
 Calls Tryz.prog 63 #[.string s] w (Zku s w):=by
 refine Zau (Φ:=fun w=>True) Tryz.func63 rfl (by kernel_rfl) (fun w' hf=>trivial) ?_
 refine Zac (Zaa (xr 2 [(0, .v (.string s)),(2, .v (.bool false)),(3, .v (.string ⟨#[]⟩))] [] ?_))
 refine xe (Zab (Zac (Zaa (xr 1 [(2, .v (.bool false)),(3, .v (.string ⟨#[]⟩)),(7, .v (.string s))] [] ?_))))
 refine xc 104 [.string s, .string ⟨#[45]⟩] 8 (fun x:ByteArray × Bool=>.tuple #[.string x.1, .bool x.2]) _ (fun w R Q=>(ZfX s _).mono (fun _ _=>Zle)) (fun xx=>?_)
 obtain ⟨r,neg⟩:=xx
 refine xr 5 [(2, .v (.bool false)),(3, .v (.string ⟨#[]⟩)),(4, .v (.string r)),(5, .v (.bool neg))] [] ?_
 refine xe (Zab (Zac (Zaa (xr 4 [(2, .v (.bool neg)),(3, .v (.string r))] [] ?_))))
 refine xe (Zab (Zai ?_))
 refine Zag (v:=.tuple #[.bool neg, .string r]) (by kernel_rfl) (fun w' R Q=>?_)
 exact ⟨r,neg,rfl,Q.2,R⟩
theorem Zfx (s:ByteArray) (x:Int) (w:World) (hs:(bytes s).length≤1000000) :
 Calls Tryz.prog 19 #[.agg #[.string s, .int .i64 x]] w (RetV w (.bool (fvB (bytes s) x))):=by
 refine Zau (Φ:=fun w=>True) Tryz.func19 rfl (by kernel_rfl) (fun w' hf=>trivial) ?_
 refine Zac (Zaa (xq 2 [(1, .p 1 0),(2, .v (.bool false))] [(1,24,[.v (.string s), .v (.int .i64 x)])] ?_))
 refine xe (Zab (Zac (Zac ?_)))
 by_cases h48:bytes s=[48]
 ·refine Zaa (xq 3 [(8, .v (.bool ((s:ByteArray).toList == (⟨#[48]⟩:ByteArray).toList)))] [] ?_)
  rw [Zkr h48]
  refine xe (Zab (xa (Zac (Zaa (xq 4 [(2, .v (.bool ((x:Int) == 0)))] [] ?_)))))
  refine xe (Zab (Zai (Zah ?_)))
  refine Zag (v:=.bool ((x:Int) == 0)) (by kernel_rfl) (fun w' R Q=>?_)
  exact ⟨by rw [ZoN h48],R⟩
 ·refine Zaa (xq 3 [(8, .v (.bool ((s:ByteArray).toList == (⟨#[48]⟩:ByteArray).toList)))] [] ?_)
  rw [Zks h48]
  refine xe (Zab (xb (Zam (Zab (Zac (Zaa (xq 2 [(14, .v (.string s))] [] ?_)))))))
  refine xqc 63 [.string s] 15 ZhD _ (fun w R Q=>(Zgd s _).mono (fun _ _=>Zgc)) (fun xx=>?_)
  obtain ⟨r,neg⟩:=xx
  refine xq 5 [(4, .v (.string r))] [] ?_
  refine xe (Zab (Zac (Zac ?_)))
  refine SXc.know (p:=Zaz (bytes s)=(neg,bytes r)) (fun w _ Q=>Q.2) (fun HM=>?_)
  have hrl:r.size≤1000000:=by have:=Zih HM; rw [Zan] at this; omega
  by_cases he:bytes r=[]
  ·refine Zaa (xq 2 [(19, .v (.bool ((r:ByteArray).toList == (⟨#[]⟩:ByteArray).toList)))] [] ?_)
   rw [Zko he]
   refine xq 15 [(34, .v (.bool true))] [] ?_
   refine xe (Zab (xa (Zac (Zaa (xq 1 [(2, .v (.bool false))] [] ?_)))))
   refine xe (Zab (Zai (Zah ?_)))
   refine Zag (v:=.bool false) (by kernel_rfl) (fun w' R Q=>?_)
   exact ⟨by rw [Ze7 h48 HM (Or.inl he)],R⟩
  ·obtain ⟨c0,h0,hc0⟩:=Znc he
   have hs0:=Znd he
   refine Zaa (xq 2 [(19, .v (.bool ((r:ByteArray).toList == (⟨#[]⟩:ByteArray).toList)))] [] ?_)
   rw [Zkp he]
   refine xq 2 [(20, .v (.bool false)),(21, .v (.string r))] [] ?_
   refine Zb8 22 (.int .u8 (c0.toNat:Int)) (by kernel_rfl) (by kernel_rfl) (by kernel_rfl) (by kernel_rfl) (by kernel_rfl) (by kernel_rfl) (fun w R Q=>Zc6 (t:=9) (x:=.tmp 21) (k:=0) (i:=.const (.int .i64 0)) (by kernel_rfl) (by kernel_rfl) (by kernel_rfl) (by rfl) hc0) ?_
   refine xr 3 [(1, .p 1 0),(2, .v (.bool false)),(4, .v (.string r)),(25, .v (.bool (((c0.toNat:Int):Int) == 48)))] [(1,24,[.v (.string s), .v (.int .i64 x)])] ?_
   rcases bl2 ((((c0.toNat:Int):Int) == 48)) with hb10 | hb10
   ·rw [hb10]
    have hb10':=beq_iff_eq.1 hb10
    refine xq 9 [(34, .v (.bool true))] [] ?_
    refine xe (Zab (xa (Zac (Zaa (xq 1 [(2, .v (.bool false))] [] ?_)))))
    refine xe (Zab (Zai (Zah ?_)))
    refine Zag (v:=.bool false) (by kernel_rfl) (fun w' R Q=>?_)
    exact ⟨by rw [Ze7 h48 HM (Or.inr (Or.inl (by rw [h0,show c0=48 from UInt8.toNat_inj.1 (by show c0.toNat=48; omega)])))],R⟩
   ·rw [hb10]
    have hb10':=Za5 hb10
    refine xq 5 [(30, .v (.bool (decide (x < (-1048576)))))] [] ?_
    rcases bl2 ((decide (x < (-1048576)))) with hb11 | hb11
    ·rw [hb11]
     have hb11':=of_decide_eq_true hb11
     refine xq 4 [(34, .v (.bool true))] [] ?_
     refine xe (Zab (xa (Zac (Zaa (xq 1 [(2, .v (.bool false))] [] ?_)))))
     refine xe (Zab (Zai (Zah ?_)))
     refine Zag (v:=.bool false) (by kernel_rfl) (fun w' R Q=>?_)
     exact ⟨by rw [Ze7 h48 HM (Or.inr (Or.inr (Or.inl (by rintro ⟨h1,h2⟩; omega))))],R⟩
    ·rw [hb11]
     have hb11':=of_decide_eq_false hb11
     refine xq 4 [(34, .v (.bool (decide (x > 1048576))))] [] ?_
     refine xe (Zab ?_)
     refine Zas ((decide (x > 1048576))) (by kernel_rfl) (fun hb12=>?_) (fun hb12=>?_)
     ·have hb12':=of_decide_eq_true hb12
      refine Zac (Zaa (xq 1 [(2, .v (.bool false))] [] ?_))
      refine xe (Zab (Zai (Zah ?_)))
      refine Zag (v:=.bool false) (by kernel_rfl) (fun w' R Q=>?_)
      exact ⟨by rw [Ze7 h48 HM (Or.inr (Or.inr (Or.inl (by rintro ⟨h1,h2⟩; omega))))],R⟩
     ·have hb12':=of_decide_eq_false hb12
      refine Zam (Zab (Zac (Zac (Zaa (xq 3 [(36, .v (.int .i64 ((r).size:Int))),(37, .v (.int .i64 0))] [] ?_)))))
      refine xe (Zab (Zax ?_))
      refine SXc.weak [(2, .v (.bool false)),(4, .v (.string r)),(36, .v (.int .i64 ((r).size:Int))),(37, .v (.int .i64 ((0:Nat):Int)))] [] (Ψ:=fun w=>True) (ZaB.of (by kernel_rfl)) (by kernel_rfl) (fun w Q=>trivial) ?_
      refine Zbv (fun nn ss ff=>∃ (k:Nat),ss=ofL [(2, .v (.bool false)),(4, .v (.string r)),(36, .v (.int .i64 ((r).size:Int))),(37, .v (.int .i64 ((k:Nat):Int)))] []∧ff=(fun w=>True)∧(k≤r.size)∧(((bytes r).take k).all Zaq=true)∧nn=(r.size - k)) ((r.size - 0)) ⟨0,rfl,rfl,(Nat.zero_le _),rfl,rfl⟩ ?_
      rintro nn ss ff ⟨k,rfl,rfl,hk,HD,rfl⟩
      refine Zac (Zaa (xq 1 [(38, .v (.bool (decide (((k:Nat):Int) < ((r).size:Int)))))] [] ?_))
      refine xe (Zab (Zac ?_))
      refine Zas ((decide (((k:Nat):Int) < ((r).size:Int)))) (by kernel_rfl) (fun hb13=>?_) (fun hb13=>?_)
      ·have hb13':=of_decide_eq_true hb13
       have hlt:k < r.size:=by omega
       obtain ⟨c,hc⟩:∃ c,r[k]? = some c:=⟨r[k],by simp [hlt]⟩
       refine Zam (Zab (Zac (Zax (Zac (Zaa (xq 2 [(5, .v (.int .i64 ((k:Nat):Int)))] [] ?_))))))
       refine xe (Zab (Zac (Zaa (xq 2 [(40, .v (.string r)),(41, .v (.int .i64 ((k:Nat):Int)))] [] ?_))))
       refine Zb8 42 (.int .u8 (c.toNat:Int)) (by kernel_rfl) (by kernel_rfl) (by kernel_rfl) (by kernel_rfl) (by kernel_rfl) (by kernel_rfl) (fun w R Q=>Zc6 (t:=9) (x:=.tmp 40) (k:=k) (i:=.tmp 41) (by kernel_rfl) (by kernel_rfl) (by kernel_rfl) (by kernel_rfl) hc) ?_
       refine xr 2 [(2, .v (.bool false)),(4, .v (.string r)),(5, .v (.int .i64 ((k:Nat):Int))),(36, .v (.int .i64 ((r).size:Int))),(37, .v (.int .i64 ((k:Nat):Int))),(44, .v (.bool (decide ((c.toNat:Int) < 48))))] [] ?_
       rcases bl2 ((decide ((c.toNat:Int) < 48))) with hb14 | hb14
       ·rw [hb14]
        have hb14':=of_decide_eq_true hb14
        refine xq 5 [(49, .v (.bool true))] [] ?_
        refine xe (Zab (xa (Zac (Zaa (xq 1 [(2, .v (.bool false))] [] ?_)))))
        refine xe (Zab (Zai (Zbl (Zah (Zah (Zbl (Zah ?_)))))))
        refine Zag (v:=.bool false) (by kernel_rfl) (fun w' R Q=>?_)
        exact ⟨by rw [Ze7 h48 HM (Or.inr (Or.inr (Or.inr (Zkv hc (by omega)))))],R⟩
       ·rw [hb14]
        have hb14':=of_decide_eq_false hb14
        refine xq 2 [(45, .v (.string r)),(46, .v (.int .i64 ((k:Nat):Int)))] [] ?_
        refine Zb8 47 (.int .u8 (c.toNat:Int)) (by kernel_rfl) (by kernel_rfl) (by kernel_rfl) (by kernel_rfl) (by kernel_rfl) (by kernel_rfl) (fun w R Q=>Zc6 (t:=9) (x:=.tmp 45) (k:=k) (i:=.tmp 46) (by kernel_rfl) (by kernel_rfl) (by kernel_rfl) (by kernel_rfl) hc) ?_
        refine xr 2 [(2, .v (.bool false)),(4, .v (.string r)),(36, .v (.int .i64 ((r).size:Int))),(37, .v (.int .i64 ((k:Nat):Int))),(49, .v (.bool (decide ((c.toNat:Int) > 57))))] [] ?_
        refine xe (Zab ?_)
        refine Zas ((decide ((c.toNat:Int) > 57))) (by kernel_rfl) (fun hb15=>?_) (fun hb15=>?_)
        ·have hb15':=of_decide_eq_true hb15
         refine Zac (Zaa (xq 1 [(2, .v (.bool false))] [] ?_))
         refine xe (Zab (Zai (Zbl (Zah (Zah (Zbl (Zah ?_)))))))
         refine Zag (v:=.bool false) (by kernel_rfl) (fun w' R Q=>?_)
         exact ⟨by rw [Ze7 h48 HM (Or.inr (Or.inr (Or.inr (Zkv hc (by omega)))))],R⟩
        ·have hb15':=of_decide_eq_false hb15
         refine Zam (Zbk (Zab (Zaa (xq 1 [(50, .v (.int .i64 (IntKind.i64.wrap (((k:Nat):Int) + 1))))] [] ?_))))
         rw [show IntKind.i64.wrap (((k:Nat):Int) + 1)=((k + 1:Nat):Int) from by rw [IntKind.wrap_i64]; omega]
         refine xq 1 [(37, .v (.int .i64 ((k + 1:Nat):Int)))] [] ?_
         refine xe ?_
         refine SXq.weak [(2, .v (.bool false)),(4, .v (.string r)),(36, .v (.int .i64 ((r).size:Int))),(37, .v (.int .i64 (((k + 1):Nat):Int)))] [] (Ψ:=fun w=>True) (ZaB.of (by kernel_rfl)) (by kernel_rfl) (fun w Q=>trivial) ?_
         exact Za3 ((r.size - (k + 1))) (by omega) ⟨(k + 1),rfl,rfl,hlt,(Zne HD hc (by omega) (by omega)),rfl⟩
      ·have hb13':=of_decide_eq_false hb13
       have hall:(bytes r).all Zaq=true:=by have h:=HD; rw [List.take_of_length_le (by rw [Zan]; omega)] at h; exact h
       refine Zbf (Zap (Zap (Zbs (Zab (Zac ?_)))))
       obtain ⟨k1,hk1⟩:∃ k1,r.size=k1 + 1:=⟨r.size - 1,by omega⟩
       obtain ⟨c,hc⟩:∃ c,r[k1]? = some c:=⟨r[k1],by simp [hk1]⟩
       refine Zaa (xq 4 [(51, .v (.string r)),(54, .v (.int .i64 (IntKind.i64.wrap (((r).size:Int) - 1))))] [] ?_)
       rw [show IntKind.i64.wrap ((r.size:Int) - 1)=((k1:Nat):Int) from by rw [IntKind.wrap_i64]; omega]
       refine Zb8 55 (.int .u8 (c.toNat:Int)) (by kernel_rfl) (by kernel_rfl) (by kernel_rfl) (by kernel_rfl) (by kernel_rfl) (by kernel_rfl) (fun w R Q=>Zc6 (t:=9) (x:=.tmp 51) (k:=k1) (i:=.tmp 54) (by kernel_rfl) (by kernel_rfl) (by kernel_rfl) (by kernel_rfl) hc) ?_
       refine xr 0 [(2, .v (.bool false)),(55, .v (.int .u8 (c.toNat:Int)))] [] ?_
       refine Zb8 56 (.int .u8 ((c.toNat % 2:Nat):Int)) (by kernel_rfl) (by kernel_rfl) (by kernel_rfl) (by kernel_rfl) (by kernel_rfl) (by kernel_rfl) (fun w R Q=>Znf (t:=5) (k:=5) (x:=.tmp 55) (y:=.const (.int .u8 1)) (by kernel_rfl) (by kernel_rfl) (by kernel_rfl)) ?_
       refine xr 2 [(2, .v (.bool ((((c.toNat % 2:Nat):Int):Int) == 1)))] [] ?_
       refine xe (Zab (Zai ?_))
       refine Zag (v:=.bool ((((c.toNat % 2:Nat):Int):Int) == 1)) (by kernel_rfl) (fun w' R Q=>?_)
       exact ⟨by rw [Zn1 h48 HM hc0 (by omega) (by omega) (by omega) hall hk1 hc],R⟩
theorem Zb1 (b:Int) (w:World) :
 Calls Tryz.prog 55 #[.int .i64 b] w (RetV w (.bool (decide (8≤b∧b≤1024)))):=by
 refine Zau (Φ:=fun w=>True) Tryz.func55 rfl (by kernel_rfl) (fun w' hf=>trivial) ?_
 refine Zac (Zaa (xq 1 [(2, .v (.bool false))] [] ?_))
 refine xe (Zab (Zac (Zaa (xq 3 [(5, .v (.bool (decide (b ≥ 8))))] [] ?_))))
 rcases bl2 ((decide (b ≥ 8))) with hb10 | hb10
 ·rw [hb10]
  have hb10':=of_decide_eq_true hb10
  refine xq 4 [(2, .v (.bool (decide (b≤1024))))] [] ?_
  refine xe (Zab (Zai ?_))
  refine Zag (v:=.bool (decide (b≤1024))) (by kernel_rfl) (fun w' R Q=>?_)
  exact ⟨congrArg (fun b=>Ending.returned (Value.bool b)) (decide_eq_decide.2 ⟨fun h=>⟨by omega,h⟩,fun h=>h.2⟩),R⟩
 ·rw [hb10]
  have hb10':=of_decide_eq_false hb10
  refine xq 4 [(2, .v (.bool false))] [] ?_
  refine xe (Zab (Zai ?_))
  refine Zag (v:=.bool false) (by kernel_rfl) (fun w' R Q=>?_)
  exact ⟨by rw [decide_eq_false (p:=8≤b∧b≤1024) (by omega)],R⟩
end Go.Proofs.YtklpdkpcocnglaaGreatDoor

namespace Go.Proofs.YtklpdkpcocnglaaGreatDoor
open Go.RowKit Go.Sort
def Zeq (w:World) (l:List UInt8) (e:Ending) (w':World):Prop:=e=.returned (.string ⟨l.toArray⟩)∧Ext w w'
set_option maxHeartbeats 2000000 in
theorem ZfH (u:Nat) (w:World) (hu:u < 100) :
 Calls Tryz.prog 151 #[.int .u64 (u:Int), .int .i64 10] w (Zeq w (Lib.decDigits u)):=by
 have iu:(u:Int) < 100:=by omega
 go_enter Tryz.func151,Tryz.ntmps151
 go_wp2_with (go_at_call 179; refine (Tryz.internal_strconv_small u hu _).mono ?_; rintro e w' ⟨rfl,rfl⟩)
 go_ret
 exact ⟨rfl,Fr.refl _ _⟩
set_option maxHeartbeats 4000000 in
theorem Zgx (u nd:Nat) (w:World) (hg:Glob w) (hu:100≤u) (hu64:u < 18446744073709551616) (hnd:Lib.nDigits u=nd) :
 Calls Tryz.prog 151 #[.int .u64 (u:Int), .int .i64 10] w (Zeq w (Lib.decDigits u)):=by
 have hlen:=Zjo u (by rw [Zal]; exact hu64)
 have hln:=Lib.decDigits_length u
 rw [hnd] at hln
 rw [hln] at hlen
 have hal:Tryz.prog.arrayLen 202=24:=by simp [Program.arrayLen,Tryz.underlying202]
 have hsl:∀ W,(Instr.sliceAt 202 (.pointer (some ⟨w.heap.size,0,none⟩)) none (some (.int .i64 (nd:Int))) none).run Tryz.prog W=.ok (.slice (some ⟨w.heap.size,0,none⟩) nd 24) W:=fun W=>by
  rw [run_sliceAt_array_h W 202 ⟨w.heap.size,0,none⟩ (by simp [Program.arrayLen,Program.elem,Tryz.underlying202]) .i64 (nd:Int) (by omega) (by rw [hal]; omega)]
  go_simp
 have hH0:=Lib.holds_zero0 w 202 nd (by omega)
 have hfmt:=Tryz.internal_strconv_formatBase10 w.heap.size 0 24 u (Array.replicate nd 0) (w.alloc (.cells Lib.zeros24 202)) hH0 (by rw [Array.size_replicate,← hnd]; exact Lib.lt_pow_nDigits u) hu64 (by rw [Array.size_replicate]; omega)
 have hnum:=Tryz.internal_strconv_numDigits u (by omega) hu64 (w.alloc (.cells Lib.zeros24 202)) (Lib.tabIs_alloc hg.1 _)
 rw [Array.size_replicate] at hfmt
 rw [hnd] at hnum
 have HH0:=zh hH0
 have HD:=zh hln
 have HND:=zh hnd
 have iu:(100:Int)≤(u:Int):=by omega
 clear hH0 hal hln hnd hg
 go_enter Tryz.func151,Tryz.ntmps151
 go_wp2_with (go_at_call 180; refine hnum.mono ?_; rintro e w' ⟨rfl,rfl⟩)
 go_at_call 181
 refine hfmt.mono ?_
 rintro e w' ⟨rfl,k,v',dk,rfl,hF⟩
 have hcv:(convert 143 9 (.slice (some ⟨w.heap.size,0,none⟩) nd 24)).run Tryz.prog ((putRow (fun (b:UInt8)=>Value.int .u8 (b.toNat:Int)) (w.alloc (.cells Lib.zeros24 202)) w.heap.size 0 dk).drewN k)=.ok (.string ⟨(Lib.decDigits u).toArray⟩) ((putRow (fun (b:UInt8)=>Value.int .u8 (b.toNat:Int)) (w.alloc (.cells Lib.zeros24 202)) w.heap.size 0 dk).drewN k):=by
  have h:=run_convert_bytes_back (P:=Tryz.prog) ((putRow (fun (b:UInt8)=>Value.int .u8 (b.toNat:Int)) (w.alloc (.cells Lib.zeros24 202)) w.heap.size 0 dk).drewN k) 143 9 5 ⟨w.heap.size,0,none⟩ 24 (Lib.decDigits u) Tryz.underlying143 Tryz.underlying5 Tryz.underlying9 (fun j hj=>by
   rw [Lib.row_is_numeral (by rw [HND.out]; exact hF) j hj,Lib.add_plain,World.cell?_drewN]
   exact cell?_putRow (fun (b:UInt8)=>Value.int .u8 (b.toNat:Int)) _ w.heap.size 0 _ dk HH0.out (by rw [hF.size,Array.size_replicate]) j (by rw [hF.size]; rw [HD.out] at hj; exact hj))
  rw [HD.out] at h
  exact h
 obtain ⟨os,eo⟩:=Lib.fin_at w (.cells Lib.zeros24 202) dk k 0
 have Q:Ext w ((putRow (fun (b:UInt8)=>Value.int .u8 (b.toNat:Int)) (w.alloc (.cells Lib.zeros24 202)) w.heap.size 0 dk).drewN k):=by
  rw [eo]; exact Fr.ofBelow (Lib.below_grow _ w (Nat.le_refl _) k os)
 generalize (putRow (fun (b:UInt8)=>Value.int .u8 (b.toNat:Int)) (w.alloc (.cells Lib.zeros24 202)) w.heap.size 0 dk).drewN k=w1 at Q hcv ⊢
 have HE:=zh Q
 clear Q eo hF hfmt hnum
 go_wp2
 go_ret
 exact ⟨rfl,HE.out⟩
set_option maxHeartbeats 1000000 in
theorem ZhX (u:Nat) (w:World) (hg:Glob w) (hu:u < W64) :
 Calls Tryz.prog 110 #[.int .u64 (u:Int), .int .i64 10] w (Zeq w (Lib.decDigits u)):=by
 have h:Calls Tryz.prog 151 #[.int .u64 (u:Int), .int .i64 10] w (Zeq w (Lib.decDigits u)):=by
  rcases Nat.lt_or_ge u 100 with h | h
  ·exact ZfH u w h
  ·exact Zgx u _ w hg h (by rw [Zal] at hu; exact hu) rfl
 have H:=zh h
 clear h hg hu
 go_enter Tryz.func110,Tryz.ntmps110
 go_wp2_with fail
 refine H.out.mono ?_
 rintro e w' ⟨rfl,Q⟩
 have HE:=zh Q
 clear Q
 go_wp2
 go_ret
 exact ⟨rfl,HE.out⟩
end Go.Proofs.YtklpdkpcocnglaaGreatDoor

namespace Go.Proofs.YtklpdkpcocnglaaGreatDoor
open Go.RowKit
def chV:List Nat→Nat
 | []=>0
 | c :: cs=>c + 10 ^ 19 * chV cs
theorem Zfz (c:Nat):∀ cs:List Nat,chV (cs ++ [c])=chV cs + (10 ^ 19) ^ cs.length * c
 | []=>by simp [chV]
 | d :: cs=>by
   show d + 10 ^ 19 * chV (cs ++ [c])=d + 10 ^ 19 * chV cs + (10 ^ 19) ^ (cs.length + 1) * c
   rw [Zfz c cs,Nat.pow_succ (m:=cs.length) (n:=10 ^ 19),Nat.mul_add,← Nat.mul_assoc,Nat.mul_comm (10 ^ 19) ((10 ^ 19) ^ cs.length),Nat.add_assoc]
structure ChR (n:Nat) (cs:List Nat) (r:Nat):Prop where
 eq:n=chV cs + (10 ^ 19) ^ cs.length * r
 lt:∀ c ∈ cs,c < 10 ^ 19
 top:r=0→cs≠[]→∃ l c,cs=l ++ [c]∧0 < c
theorem ChR.start (n:Nat):ChR n [] n:=⟨by simp [chV],fun c h=>by simp at h,fun _ h=>absurd rfl h⟩
theorem ChR.step {n r:Nat} {cs:List Nat} (h:ChR n cs r) (hr:0 < r):ChR n (cs ++ [r % 10 ^ 19]) (r / 10 ^ 19):=by
 refine ⟨?_,fun c hc=>?_,fun h0 _=>⟨cs,_,rfl,?_⟩⟩
 ·rw [Zfz,List.length_append,List.length_singleton,Nat.pow_succ (m:=cs.length) (n:=10 ^ 19),Nat.mul_assoc,Nat.add_assoc,← Nat.mul_add,Nat.mod_add_div]
  exact h.eq
 ·rcases List.mem_append.1 hc with h1 | h1
  ·exact h.lt c h1
  ·rw [List.mem_singleton.1 h1]; exact Nat.mod_lt _ (by decide)
 ·have h1:=Nat.mod_add_div r (10 ^ 19)
  rw [h0,Nat.mul_zero,Nat.add_zero] at h1
  omega
theorem Zkw {cs:List Nat} (h:∃ l c,cs=l ++ [c]∧0 < c):0 < chV cs:=by
 obtain ⟨l,c,rfl,hc⟩:=h
 rw [Zfz]
 have:=Nat.mul_pos (Nat.pow_pos (n:=l.length) (show 0 < 10 ^ 19 by decide)) hc
 omega
theorem Zjw {cs:List Nat} {i:Nat} (hi:i < cs.length) (h:∃ l c,cs=l ++ [c]∧0 < c):∃ l c,cs.drop i=l ++ [c]∧0 < c:=by
 obtain ⟨l,c,rfl,hc⟩:=h
 rw [List.length_append,List.length_singleton] at hi
 exact ⟨l.drop i,c,List.drop_append_of_le_length (by omega),hc⟩
theorem Zng {cs:List Nat} {i c:Nat} (hi:i < cs.length) (hc:cs[i]?.getD 0=c) (hlt:∀ c ∈ cs,c < 10 ^ 19) (ht:∃ l c,cs=l ++ [c]∧0 < c) :
 Zbw (chV (cs.drop i))=if i + 1 < cs.length then Zbw (chV (cs.drop (i + 1))) ++ (List.replicate (19 - (Lib.decDigits c).length) 48 ++ Lib.decDigits c) else Lib.decDigits c:=by
 have hd:cs.drop i=c :: cs.drop (i + 1):=by
  rw [List.drop_eq_getElem_cons hi]
  rw [List.getElem?_eq_getElem hi] at hc
  simp only [Option.getD_some] at hc
  rw [hc]
 have hcl:c < 10 ^ 19:=by
  rw [List.getElem?_eq_getElem hi] at hc
  simp only [Option.getD_some] at hc
  rw [← hc]; exact hlt _ (List.getElem_mem hi)
 rw [hd]
 show Zbw (c + 10 ^ 19 * chV (cs.drop (i + 1)))=_
 by_cases h:i + 1 < cs.length
 ·rw [if_pos h,Nat.add_comm,Nat.mul_comm,ZiA (Zkw (Zjw h ht)) 19 c hcl,Zm5 (by omega) hcl]
 ·rw [if_neg h,List.drop_of_length_le (by omega)]
  show Zbw (c + 10 ^ 19 * 0)=_
  have h1:=Zkw (Zjw hi ht)
  rw [hd,List.drop_of_length_le (by omega)] at h1
  rw [Nat.mul_zero,Nat.add_zero]
  exact ZcE (by simp [chV] at h1; omega)
end Go.Proofs.YtklpdkpcocnglaaGreatDoor

namespace Go.Proofs.YtklpdkpcocnglaaGreatDoor
open Go.RowKit
set_option maxHeartbeats 2000000 in
theorem ZjB (t:ByteArray) (v:Nat) (w:World) (hd:(bytes t).all Zaq=true) (hv:Zaj (bytes t)=v) (h0:t.size≠0) (hm:t.size≤1099511627776) (hb:v < 18446744073709551616) :
 Calls Tryz.prog 144 #[.string t, .int .i64 10, .int .i64 64] w fun e w'=>e=.returned (.tuple #[.int .u64 (v:Int), .nilIface])∧Ext w w':=by
 have hp:Lib.parseUint10 0 t.data.toList=.ok v:=by
  have h:=pu10 (bytes t) 0 hd (by rw [Nat.zero_mul,Nat.zero_add,hv]; exact hb)
  rw [Nat.zero_mul,Nat.zero_add,hv] at h
  exact h
 have h:=Tryz.internal_strconv_ParseUint_10_b64 t h0 (by omega) w
 rw [hp] at h
 have h2:Calls Tryz.prog 176 #[.string t, .int .i64 10, .int .i64 64] w fun e w'=>e=.returned (.tuple #[.int .u64 (v:Int), .nilIface])∧Ext w w':=by
  refine h.mono ?_
  rintro e w' ⟨rfl,rfl⟩
  exact ⟨rfl,rfl,rfl,rfl,by rw [Lib.bytesWorld_size]; omega,fun i hi _=>Lib.bytesWorld_at_old _ _ _ i hi⟩
 have H:=zh h2
 clear h h2 hp hd hv hb
 go_enter Tryz.func144,Tryz.ntmps144
 go_wp2_with fail
 refine H.out.mono ?_
 rintro e w' ⟨rfl,Q⟩
 have HE:=zh Q
 clear Q
 go_wp2
 go_ret2
 exact ⟨rfl,HE.out⟩
def Zli (w wr:World) (T:Nat) (d:ByteArray) (A:Option Addr) (cap:Nat) (xs:List Nat):Prop :=
 Buf .u64 94 wr A cap xs∧PaR T (bytes d) xs∧Ext w wr∧∀ b,ZaC A b→w.heap.size≤b
set_option maxHeartbeats 4000000 in
theorem ZfB (d:ByteArray) (w:World) (T:Nat) (hd:(bytes d).all Zaq=true) (hT:Zaj (bytes d)=T) (hw:wl T≤1048576) (hl:d.size≤1099511627776) :
 Calls Tryz.prog 100 #[.string d] w (ZaQ w T):=by
 have HS:=zh (PaR.start hd hT)
 clear hd hT
 have ha:=Zee
 go_enter Tryz.func100,Tryz.ntmps100
 go_wp2
 go_loopw [0,3] (fun v0 v3 wr=>∃ (d:ByteArray) (A:Option Addr) (cap:Nat) (xs:List Nat),v0=.string d∧v3=.slice A xs.length cap∧d.size≤1099511627776∧Hid (Zli w wr T d A cap xs)) (fun v0 _ _=>match v0 with | .string d=>d.size | _=>0)
 case atStart=>exact ⟨d,none,0,[],rfl,rfl,hl,Buf.nil,HS.out,Fr.refl _ _,fun b hb=>by obtain ⟨a,ha,_⟩:=hb; cases ha⟩
 case round =>
  obtain ⟨d,A,cap,xs,rfl,rfl,hl,hR⟩:=hrel
  by_cases hpos:0 < d.size
  ·have hlen:=hR.out.2.1.len
   obtain ⟨n,hn⟩:∃ n,d.size=n:=⟨_,rfl⟩
   obtain ⟨z,hz⟩:∃ z,(n - 1) % 19=z:=⟨_,rfl⟩
   have hz18:z≤18:=by omega
   have hzn:z + 1≤n:=by have:=Nat.mod_le (n - 1) 19; omega
   have e1:((n:Int) - 1) % 19=(z:Int):=by omega
   have hn1:(1:Int)≤(n:Int):=by omega
   have hn2:(0:Int)≤(n:Int) - 1:=by omega
   have hzI:((z:Int) + 1)≤(n:Int):=by omega
   have hzT:((z:Int) + 1).toNat=z + 1:=by omega
   have hbl:(bytes d).length=n:=by rw [Zan]; exact hn
   have hes:(d.extract 0 (z + 1)).size=z + 1:=by rw [ByteArray.size_extract]; omega
   have hbs:bytes (d.extract 0 (z + 1))=(bytes d).take (z + 1):=by rw [Zbp]; simp
   obtain ⟨c,hc⟩:∃ c,Zaj ((bytes d).take (z + 1))=c:=⟨_,rfl⟩
   have hcb:=hR.out.2.1.chunk (z:=z) (by omega) (by rw [hbl]; exact hz)
   rw [hc] at hcb
   have hPU:∀ W,Calls Tryz.prog 144 #[.string (d.extract 0 (z + 1)), .int .i64 10, .int .i64 64] W fun e w'=>e=.returned (.tuple #[.int .u64 (c:Int), .nilIface])∧Ext W w':=fun W =>
    ZjB _ c W (by
     rw [hbs,List.all_eq_true]; intro x hx
     exact List.all_eq_true.1 hR.out.2.1.all _ (List.mem_of_mem_take hx)) (by rw [hbs]; exact hc) (by rw [hes]; omega) (by rw [hes]; omega) (by omega)
   have hd2:bytes (d.extract (z + 1) d.size)=(bytes d).drop (z + 1):=by
    rw [Zbp,List.take_of_length_le (by rw [List.length_drop,Zan]; exact Nat.le_refl _)]
   have hd2s:(d.extract (z + 1) d.size).size=d.size - (z + 1):=by rw [ByteArray.size_extract]; omega
   have Hd2:=zh hd2
   have Hd2s:=zh hd2s
   have HPU:=zh hPU
   have Hhz:Hid (((bytes d).length - 1) % 19=z):=by unfold Hid; rw [hbl]; exact hz
   have Hbl:Hid (0 < (bytes d).length):=by unfold Hid; omega
   have Hc:=zh hc
   have Hn:=zh hn
   clear hd2 hd2s hPU hbs hes hbl hc hz
   go_wp2_with fail
   refine (HPU.out _).mono ?_
   rintro e wB ⟨rfl,hext⟩
   have HX:=zh hext
   clear hext
   have hzd:z + 1≤d.size:=by rw [Hn.out]; exact hzn
   clear hn
   go_wp2_with fail
   have HR0:=zh hR.out.1
   have HP:=zh hR.out.2.1
   have HE0:=zh hR.out.2.2.1
   have HN0:=zh hR.out.2.2.2
   have hd2l:(d.extract (z + 1) d.size).size≤1099511627776:=by rw [Hd2s.out]; omega
   have hmeas:Hid ((d.extract (z + 1) d.size).size < d.size):=by rw [Hid,Hd2s.out]; omega
   have HStep:Hid (∀ m q,ZbW xs 10000000000000000000 c xs.length m q→PaR T (bytes (d.extract (z + 1) d.size)) (if q=0 then m else m ++ [q])):=by
    intro m q hM
    rw [Hd2.out]
    exact HP.out.step Hbl.out Hhz.out (by rw [Hc.out]; exact hM)
   generalize d.extract (z + 1) d.size=d2 at *
   have HcW:Hid (c < W64):=by unfold Hid; rw [Zal]; omega
   have HpW:Hid (10000000000000000000 < W64):=by unfold Hid; rw [Zal]; omega
   go_loopw [5,32] (fun v9 v44 wx=>∃ (k q:Nat) (m:List Nat),k≤xs.length∧v44=.int .i64 (k:Int)∧v9=.int .u64 (q:Int)∧Hid (ZbW xs 10000000000000000000 c k m q)∧Hid (Buf .u64 94 wx A cap m)∧Hid (Fr (ZaC A) wB wx)) (fun _ v _=>xs.length - (intOf v).toNat)
   case atStart=>exact ⟨0,c,xs,by omega,rfl,rfl,ZbW.start HP.out.dig HcW.out,HR0.out.ext HX.out,Fr.refl _ _⟩
   case round =>
    obtain ⟨k,q,m,hk,rfl,rfl,hM,hB,hF⟩:=hrel
    have hml:m.length=xs.length:=hM.out.1
    by_cases hlt:k < xs.length
    ·obtain ⟨b,rfl,hO,hC,hmc,hcm⟩:=hB.out.open_ (by intro e; rw [e] at hml; simp at hml; omega)
     obtain ⟨y,hy⟩:∃ y,m[k]?.getD 0=y:=⟨_,rfl⟩
     have hcell:=hO.cell (i:=k) (by omega)
     rw [hy] at hcell
     have hfrz:=hO.frozen k
     have HyW:Hid (y < W64):=hy ▸ hM.out.2.2.1.getD Zaf k
     have HM2:=zh (hM.out.step hlt hy HpW.out)
     have HB2:=fun v=>Buf.set_ hO hC hmc hcm k v (by omega)
     have HBh:=zh HB2
     have HqW:=zh hM.out.2.2.2.1
     have HW:Hid (IntKind.u64.wrap ((ZaE y 10000000000000000000:Int) + (Zav (Zao y 10000000000000000000) q 0:Int))=(maHi y 10000000000000000000 q:Int)):=by
      have h:=Ze2 HyW.out HpW.out HqW.out
      unfold Hid maHi at *
      rw [← Int.natCast_add,ZbA _ h]
     have hblt2:=hO.lt
     have Hml:=zh hml
     clear hO hC hmc hcm hy HB2 hml
     go_wp2_with (go_at_call 145; refine (ZdS _ _ HyW.out HpW.out _).mono ?_; rintro e w' ⟨rfl,rfl⟩)
     go_roundw
     case rel=>exact ⟨k + 1,_,_,by omega,by go_num,by rw [HW.out],HM2.out,HBh.out _,hF.out.setCell (p:=⟨b,k,none⟩) (Or.inl ⟨_,rfl,rfl⟩) _⟩
     case measure=>simp [intOf]; omega
    ·obtain rfl:k=xs.length:=by omega
     have HEx:Hid (Ext w wr):=(HE0.out.trans HX.out).next hF.out (fun i hi hb=>by have:=HN0.out i hb; omega)
     by_cases hq:q=0
     ·subst hq
      have hS:=HStep.out m 0 hM.out
      rw [if_pos rfl] at hS
      have HNew:Hid (Zli w wr T d2 A cap m):=⟨hB.out,hS,HEx.out,HN0.out⟩
      have Hml:=zh hml
      clear hS hml
      go_wp2
      go_roundw
      case rel=>exact ⟨d2,A,cap,m,rfl,by rw [Hml.out],hd2l,HNew.out⟩
      case measure=>exact hmeas.out
     ·have hq':(0:Int) < (q:Int):=by omega
      have hS:=HStep.out m q hM.out
      rw [if_neg hq] at hS
      have HNum:=zh hS
      have Hml:=zh hml
      have hSh:Hid (Zad .u64 (wr.alloc (.cells #[.int .u64 (q:Int)] 94)) (some ⟨wr.heap.size,0,none⟩) [q]):=(Own.new wr 94 .u64 [q] []).shows0
      clear hS hml hq
      go_wp2_with (at_builtin; refine Hid.out ?_)
      refine zh ?_
      refine Zbm rfl _ _ _ rfl _ .u64 8 Tryz.underlying77 Zcv A (some ⟨wr.heap.size,0,none⟩) xs.length 1 cap 1 rfl rfl m [q] Hml.out rfl (hB.out.ext ((Fr.refl _ _).alloc _)) hSh.out (by simp only [maxLen]; omega) (by omega) ?_
      intro A1 cap1 w2 hB1 hF1 hA1
      have HNew:Hid (Zli w w2 T d2 A1 cap1 (m ++ [q])):=by
       refine ⟨hB1,HNum.out,?_,?_⟩
       ·exact (HEx.out.alloc _).next hF1 (fun i hi hb=>by have:=HN0.out i hb; omega)
       ·intro b hb
        rcases hA1 b hb with h | h
        ·exact HN0.out b h
        ·have:=HEx.out.size; simp at h; omega
      clear hB1 hF1 hA1
      go_wp2
      go_roundw
      case rel=>exact ⟨d2,A1,cap1,m ++ [q],rfl,by rw [List.length_append,Hml.out]; rfl,hd2l,HNew.out⟩
      case measure=>exact hmeas.out
  ·have h0:d.size=0:=by omega
   obtain ⟨h1,h2,h3,h4⟩:=hR.out
   have hN:Hid (ZaQ w T (.returned (.slice A xs.length cap)) wr):=by
    refine ⟨_,rfl,?_,h3⟩
    have hb:bytes d=[]:=List.eq_nil_of_length_eq_zero (by rw [Zan]; exact h0)
    rw [hb] at h2
    exact ⟨A,xs,cap,rfl,h1.len,h1.shows,h2.dig,h2.trim,h2.done⟩
   clear h1 h2 h3 h4
   go_wp2
   go_ret
   exact hN.out
end Go.Proofs.YtklpdkpcocnglaaGreatDoor
