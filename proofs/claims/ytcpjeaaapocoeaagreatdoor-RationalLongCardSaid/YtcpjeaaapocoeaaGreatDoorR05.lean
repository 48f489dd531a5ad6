/-
 My texts Words2, Nat, Nat2 put together.
-/
import Derived.Test.YtcpjeaaapocoeaaGreatDoorR02
import Derived.Deep.QuietTactic
import Derived.BigQuiet
import Derived.Test.YtcpjeaaapocoeaaGreatDoorR01
import Derived.Lib.SliceRun
set_option maxRecDepth 100000
namespace Go.Proofs.YtcpjeaaapocoeaaGreatDoor
open Go.RowKit
def cmpI (a b:Int):Int:=if a < b then -1 else if b < a then 1 else 0
set_option maxHeartbeats 400000 in
theorem Zl6 (x y:Int) (w:World):Calls Tryz.prog 357 #[.int .i64 x, .int .i64 y] w fun e w'=>e=.returned (.int .i64 (cmpI x y))∧w'=w:=by
 go_enter Tryz.func357,Tryz.ntmps357
 go_wp2
 all_goals (go_ret; exact ⟨by simp [cmpI, *]; try omega,rfl⟩)
set_option maxHeartbeats 400000 in
theorem Ziq (x y:Int) (w:World):Calls Tryz.prog 358 #[.int .u64 x, .int .u64 y] w fun e w'=>e=.returned (.int .i64 (cmpI x y))∧w'=w:=by
 go_enter Tryz.func358,Tryz.ntmps358
 go_wp2
 all_goals (go_ret; exact ⟨by simp [cmpI, *]; try omega,rfl⟩)
theorem ZeI {a b:Int} (h:a < b):cmpI a b = -1:=by simp [cmpI,h]
theorem Zfz {a b:Int} (h:b < a):cmpI a b=1:=by unfold cmpI; rw [if_neg (by omega),if_pos h]
theorem ZmR (a:Int):cmpI a a=0:=by simp [cmpI]
theorem ZoB {xs ys:List Nat} (hx:Dig W64 xs) (hy:Dig W64 ys) (tx:Trim xs) (ty:Trim ys) (hl:xs.length≠ys.length):cmpI xs.length ys.length=cmpI (val W64 xs) (val W64 ys):=by
 rcases Nat.lt_or_gt_of_ne hl with h | h
 ·rw [ZeI (by omega),ZeI (by have:=Zdv Zag hx ty h; omega)]
 ·rw [Zfz (by omega),Zfz (by have:=Zdv Zag hy tx h; omega)]
theorem ZmS {xs ys:List Nat} (hx:Dig W64 xs) (hy:Dig W64 ys) (hl:xs.length=ys.length) {k x y:Nat} (hk:k < xs.length) (he:xs.drop (k + 1)=ys.drop (k + 1)) (ex:xs[k]?.getD 0=x) (ey:ys[k]?.getD 0=y) (hne:x≠y) :
 cmpI x y=cmpI (val W64 xs) (val W64 ys):=by
 subst ex ey
 rcases Nat.lt_or_gt_of_ne hne with h | h
 ·rw [ZeI (by omega),ZeI (by have:=Ze7 hx hl k hk he h; omega)]
 ·rw [Zfz (by omega),Zfz (by have:=Ze7 hy hl.symm k (by omega) he.symm h; omega)]
set_option maxHeartbeats 1000000 in
theorem Zcg (A A2:Option Addr) (xs ys:List Nat) (n m c c2:Nat) (w:World) (hn:xs.length=n) (hm:ys.length=m) (hX:Zai .u64 w A xs) (hY:Zai .u64 w A2 ys) (hc:xs.length≤1099511627776) (_:ys.length≤1099511627776)
 (hx:Dig W64 xs) (hy:Dig W64 ys) (tx:Trim xs) (ty:Trim ys) :
 Calls Tryz.prog 306 #[.slice A n c, .slice A2 m c2] w fun e w'=>e=.returned (.int .i64 (cmpI (val W64 xs) (val W64 ys)))∧∃ n,w'=w.drewN n:=by
 subst hn hm
 by_cases hl:xs.length=ys.length
 ·have HX:=zh hX
  have HY:=zh hY
  have HL:=zh hl
  have Hx:=zh hx
  have Hy:=zh hy
  have hne:(((xs.length:Nat):Int) != (ys.length:Nat))=false:=by simp [hl]
  clear hX hY hx hy tx ty hl
  go_enter Tryz.func306,Tryz.ntmps306
  go_wp2
  go_loopw [5] (fun i wr=>∃ k n:Nat,k≤xs.length∧i=.int .i64 ((k:Int) - 1)∧Hid (xs.drop k=ys.drop k)∧Hid (wr=w.drewN n)) (fun i _=>(intOf i + 1).toNat)
  case atStart=>exact ⟨xs.length,0,Nat.le_refl _,rfl,by unfold Hid; rw [List.drop_of_length_le (Nat.le_refl _),List.drop_of_length_le (by rw [HL.out]; exact Nat.le_refl _)],rfl⟩
  case round =>
   obtain ⟨k,n,hk,rfl,Q,hW⟩:=hrel
   obtain rfl:=hW.out
   clear hW
   by_cases hlt:0 < k
   ·obtain ⟨j,rfl⟩:∃ j,k=j + 1:=⟨k - 1,by omega⟩
    have ej:(((j + 1:Nat):Int) - 1)=(j:Int):=by omega
    rw [ej]
    clear ej
    obtain ⟨b,off,rfl,_,hcx⟩:=HX.out.at (i:=j) (by omega)
    obtain ⟨b2,off2,rfl,_,hcy⟩:=HY.out.at (i:=j) (by have:=HL.out; omega)
    obtain ⟨x,ex⟩:∃ x,xs[j]?.getD 0=x:=⟨_,rfl⟩
    obtain ⟨y,ey⟩:∃ y,ys[j]?.getD 0=y:=⟨_,rfl⟩
    rw [ex] at hcx
    rw [ey] at hcy
    have hj2:(j:Int) < (ys.length:Nat):=by have:=HL.out; omega
    have hj1:(j:Int) < (xs.length:Nat):=by omega
    by_cases hd:x=y
    ·subst hd
     have HE:Hid (xs.drop j=ys.drop j):=by
      unfold Hid
      have h1:j < xs.length:=by omega
      have h2:j < ys.length:=by have:=HL.out; omega
      rw [List.drop_eq_getElem_cons h1,List.drop_eq_getElem_cons h2,Q.out]
      rw [List.getElem?_eq_getElem h1] at ex
      rw [List.getElem?_eq_getElem h2] at ey
      simp only [Option.getD_some] at ex ey
      rw [ex,ey]
     clear ex ey Q
     go_wp2
     go_quiet (fail)
     go_wp2
     go_roundw
     case rel=>exact ⟨j,_,by omega,rfl,HE,rfl⟩
     case measure=>simp [intOf]
    ·have HC:=zh (ZmS Hx.out Hy.out HL.out (by omega) Q.out ex ey hd)
     have hd':(((x:Nat):Int) != (y:Nat))=true:=by simp; omega
     clear ex ey Q
     go_wp2
     go_quiet (fail)
     go_wp2
     go_quiet ((go_at_call 358; first | exact Calls.quiet_of_same (Ziq _ _ _) | exact (Ziq _ _ _).mono (fun _ _ h=>⟨h.1,_,h.2⟩)))
     go_wp2
     go_ret
     exact ⟨by rw [← HC.out]; rfl,by simp only [World.drewN_drewN]; exact ⟨_,rfl⟩⟩
   ·obtain rfl:k=0:=by omega
    have HE:xs=ys:=by simpa using Q.out
    have HC:=zh (congrArg (fun l=>cmpI (val W64 xs) (val W64 l)) HE)
    clear Q HE
    go_wp2
    go_ret
    exact ⟨by rw [← (show _=cmpI (val W64 xs) (val W64 ys) from HC.out),ZmR]; rfl,_,rfl⟩
 ·have hne:(((xs.length:Nat):Int) != (ys.length:Nat))=true:=by simp; omega
  have HC:=zh (ZoB hx hy tx ty hl)
  clear hX hY hx hy tx ty
  go_enter Tryz.func306,Tryz.ntmps306
  go_wp2_with (go_at_call 357; refine (Zl6 _ _ _).mono ?_; rintro e w' ⟨rfl,rfl⟩)
  go_ret
  exact ⟨by rw [← HC.out]; rfl,0,rfl⟩
end Go.Proofs.YtcpjeaaapocoeaaGreatDoor

namespace Go.Proofs.YtcpjeaaapocoeaaGreatDoor
open Go.RowKit
def wl (n:Nat):Nat:=if n=0 then 0 else n.log2 / 64 + 1
theorem ZeJ (k:Nat):W64 ^ k=2 ^ (64 * k):=by rw [Nat.pow_mul,Zal]
theorem ZaC {n k:Nat}:wl n≤k ↔ n < W64 ^ k:=by
 unfold wl
 rw [ZeJ]
 split
 ·rename_i h; subst h; simp [Nat.pow_pos]
 ·rename_i h
  rw [← Nat.log2_lt h]; omega
theorem Ze9 (n:Nat):n < W64 ^ wl n:=ZaC.1 (Nat.le_refl _)
theorem Zcl:wl 0=0:=rfl
theorem ZaS {a b:Nat} (h:a≤b):wl a≤wl b:=ZaC.2 (Nat.lt_of_le_of_lt h (Ze9 b))
theorem Zdl (a b:Nat):wl (a * b)≤wl a + wl b:=ZaC.2 (by rw [Nat.pow_add]; exact Nat.mul_lt_mul'' (Ze9 a) (Ze9 b))
theorem Zgx {a b k:Nat} (ha:wl a≤k) (hb:wl b≤k):wl (a + b)≤k + 1:=by
 rw [ZaC] at *
 have:W64 ^ k * 2≤W64 ^ k * W64:=Nat.mul_le_mul_left _ Zfy
 rw [Nat.pow_succ]
 omega
theorem ZaE {xs:List Nat} (hd:Dig W64 xs) (ht:Trim xs):xs.length=wl (val W64 xs):=by
 have h1:=Zcd (n:=wl (val W64 xs)) Zck ht (Ze9 _)
 have h2:wl (val W64 xs)≤xs.length:=ZaC.2 (ZaX hd)
 omega
theorem Zeq {n:Nat} (h:0 < n):0 < wl n:=by
 unfold wl; rw [if_neg (by omega)]; omega
theorem ZcN {n:Nat}:wl n≤1 ↔ n < W64:=by rw [ZaC,Nat.pow_one]
def Zad (w:World) (v:Value) (n:Nat):Prop :=
 ∃ (A:Option Addr) (xs:List Nat) (c:Nat),v=.slice A xs.length c∧xs.length≤c∧Zai .u64 w A xs∧Dig W64 xs∧Trim xs∧val W64 xs=n
theorem Zad.ext {w w':World} {v:Value} {n:Nat} (h:Zad w v n) (hf:Ext w w'):Zad w' v n:=by
 obtain ⟨A,xs,c,h1,h2,h4,h5⟩:=h
 exact ⟨A,xs,c,h1,h2,h4.ext hf,h5⟩
theorem Zad.zero (w:World):Zad w (.slice none 0 0) 0:=⟨none,[],0,rfl,by simp,Zai.nil,Dig.nil,Trim.nil,rfl⟩
def Za0 (w:World) (n:Nat) (e:Ending) (w':World):Prop:=∃ v,e=.returned v∧Zad w' v n∧Ext w w'
def ZaN (w:World) (A A2:Option Addr) (n:Nat) (e:Ending) (w':World):Prop:=∃ B l c,e=.returned (.slice B l c)∧Zad w' (.slice B l c) n∧Ext w w'∧∀ a,B=some a→w.heap.size≤a.block∨B=A∨B=A2
theorem ZaN.ret {w w':World} {A A2:Option Addr} {n:Nat} {e:Ending} (h:ZaN w A A2 n e w'):Za0 w n e w':=by
 obtain ⟨B,l,c,rfl,h1,h2,_⟩:=h
 exact ⟨_,rfl,h1,h2⟩
theorem ZaN.swap {w w':World} {A A2:Option Addr} {n:Nat} {e:Ending} (h:ZaN w A A2 n e w'):ZaN w A2 A n e w':=by
 obtain ⟨B,l,c,rfl,h1,h2,h3⟩:=h
 exact ⟨B,l,c,rfl,h1,h2,fun a ha=>(h3 a ha).imp id Or.symm⟩
theorem ZbR:(Tryz.prog.info? 217).map (fun i=>(i.zero,i.size,i.bytes))=some (some (.int .u64 0),1,8):=by kernel_rfl
theorem Zda:(Tryz.prog.info? 217).map (·.size)=some 1:=by kernel_rfl
theorem Zad.of_own {w:World} {b:Nat} {xs:List Nat} (h:Own .u64 217 w b xs) (hd:Dig W64 xs) {c:Nat} (hc:xs.length≤c):Zad w (.slice (some ⟨b,0,none⟩) (ZbA xs xs.length) c) (val W64 xs):=by
 refine ⟨_,ZaV xs,c,by rw [ZaR],by rw [ZaR]; exact Nat.le_trans (ZcI _ _) hc,h.shows0.take _,Zca hd,ZbP xs,ZaZ _ _⟩
theorem Zkt {xs ys m:List Nat} (hx:Dig W64 xs) (hy:Dig W64 ys) (hl:ys.length≤xs.length) (h:Zoo (xs ++ [0]) ys m):val W64 m=val W64 xs + val W64 ys:=by
 obtain ⟨k,hk⟩:=h
 have h1:=ZaX hx
 have h2:=ZaX hy
 have h3:W64 ^ ys.length≤W64 ^ xs.length:=Nat.pow_le_pow_right Zag hl
 have h4:W64 ^ xs.length * 2≤W64 ^ xs.length * W64:=Nat.mul_le_mul_left _ Zfy
 rw [ZaQ] at hk
 simp only [List.length_append,List.length_singleton,Nat.pow_succ,Zb1,ZcS,Nat.mul_zero,Nat.add_zero] at hk
 rcases Nat.eq_zero_or_pos k with h0 | h0
 ·subst h0; simpa using hk
 ·have:W64 ^ xs.length * W64 * 1≤W64 ^ xs.length * W64 * k:=Nat.mul_le_mul_left _ h0
  omega
set_option maxHeartbeats 1000000 in
theorem Zj0 (A A2:Option Addr) (xs ys:List Nat) (c c2:Nat) (w:World) (hX:Zai .u64 w A xs) (hY:Zai .u64 w A2 ys) (hc:xs.length≤c) (hl:xs.length≤4294967296) (hxy:ys.length≤xs.length)
 (hx:Dig W64 xs) (hy:Dig W64 ys) (tx:Trim xs) (ty:Trim ys) :
 Calls Tryz.prog 300 #[.slice A xs.length c, .slice A2 ys.length c2] w (ZaN w A A2 (val W64 xs + val W64 ys)):=by
 have HX:=zh hX
 have HY:=zh hY
 have Hx:=zh hx
 have Hy:=zh hy
 have Tx:=zh tx
 have Ty:=zh ty
 clear hX hY hx hy tx ty
 by_cases h0:ys.length=0
 ·obtain rfl:ys=[]:=List.length_eq_zero_iff.1 h0
  clear h0 Hy Ty HY hxy
  go_enter Tryz.func300,Tryz.ntmps300
  go_wp2
  go_ret
  exact ⟨_,_,_,rfl,⟨A,xs,c,rfl,hc,HX.out,Hx.out,Tx.out,by simp⟩,Fr.refl _ _,fun a _=>Or.inr (Or.inl rfl)⟩
 ·have h0':(((ys.length:Nat):Int) == 0)=false:=by simp; intro e; simp [e] at h0
  go_enter Tryz.func300,Tryz.ntmps300
  go_wp2_with (first
   | (at_make
      refine ZaD rfl _ _ _ rfl _ _ _ Tryz.underlying133 ZbR _ _ _ _ (xs.length + 1) rfl rfl (by omega) (by omega) (by omega) (by omega) ?_
      intro b w1 hb hO1 _ hF1 hs1
      have HO1:Hid (Own .u64 217 w1 b ([] ++ List.replicate (xs.length + 1) 0 ++ [])):=by simpa [Hid] using hO1
      have HF1:=zh hF1
      have Hb:=zh hb
      clear hO1 hF1 hb hs1)
   | (with_reducible refine Zbg rfl (.tmp 21) (.tmp 22) _ _ rfl _ _ Tryz.underlying133 Zda _ _ _ _ _ _ rfl rfl b [] (List.replicate (xs.length + 1) 0) [] xs (by simp) rfl HO1.out (HX.out.ext HF1.out) (fun _=>rfl) ?_
      intro w2 z hO2 _ hF2 hs2
      have HO2:=zh hO2
      have HF2:=zh hF2
      clear hO2 hF2 hs2))
  have HO3:Hid (Own .u64 217 w2 b ([] ++ (xs ++ [0]) ++ [])):=by
   have h:=HO2.out
   rw [List.take_of_length_le (by simp),List.drop_replicate] at h
   simpa [Hid] using h
  have hA2:Hid (∀ a,A2=some a→a.block≠b):=by
   intro a ha
   obtain ⟨b',off',e',hb',_⟩:=HY.out (by intro e; simp [e] at h0)
   rw [e'] at ha; injection ha with ha; subst ha
   have:=Hb.out
   show b'≠b
   omega
  have HY2:Hid (Zai .u64 w2 A2 ys):=(HY.out.ext HF1.out).fr HF2.out (fun a ha _=>hA2.out a ha)
  refine (Zfs b _ _ _ _ _ [] (xs ++ [0]) [] ys A2 w2 rfl (by simp) rfl HO3.out HY2.out hA2.out (by simp; omega) (by simp; omega) (Hx.out.append (Dig.nil.cons Zag)) Hy.out).mono ?_
  rintro e w3 ⟨rfl,hM⟩
  have HM:=zh hM
  clear hM
  go_wp2_with fail
  obtain ⟨hF3,_,m,hO4,hml,hdm,hsum⟩:=HM.out
  have hml':m.length=xs.length + 1:=by simpa using hml
  have hO4':Own .u64 217 w3 b m:=by simpa using hO4
  have HF3:Hid (Ext w w3):=by
   have hb:=Hb.out
   exact ((HF1.out.next HF2.out (fun i hi e=>by omega)).next hF3 (fun i hi e=>by omega))
  refine (Za5 _ m _ _ w3 hml' hO4'.shows0 (by omega) (by omega)).mono ?_
  rintro e w4 ⟨rfl,rfl⟩
  have HN:=zh (Zad.of_own hO4' hdm (Nat.le_refl _))
  rw [Zkt Hx.out Hy.out hxy hsum,hml'] at HN
  clear HM hF3 hO4 hml hdm hsum hO4'
  have hml2:=zh hml'
  clear hml'
  go_wp2
  go_ret
  exact ⟨_,_,_,by rw [hml2.out]; rfl,HN.out,HF3.out,fun a h=>Or.inl (by injection h with h; subst h; have:=Hb.out; show w.heap.size≤b; omega)⟩
set_option maxHeartbeats 1000000 in
theorem Zj1 (A A2:Option Addr) (xs ys:List Nat) (c c2:Nat) (w:World) (hX:Zai .u64 w A xs) (hY:Zai .u64 w A2 ys) (hc:xs.length≤c) (hl:xs.length≤4294967296) (hxy:ys.length < xs.length)
 (hx:Dig W64 xs) (hy:Dig W64 ys) (tx:Trim xs) (ty:Trim ys) :
 Calls Tryz.prog 300 #[.slice A2 ys.length c2, .slice A xs.length c] w (ZaN w A A2 (val W64 xs + val W64 ys)):=by
 have HX:=zh hX
 have HY:=zh hY
 have Hx:=zh hx
 have Hy:=zh hy
 have Tx:=zh tx
 have Ty:=zh ty
 clear hX hY hx hy tx ty
 by_cases h0:ys.length=0
 ·obtain rfl:ys=[]:=List.length_eq_zero_iff.1 h0
  clear h0 Hy Ty HY
  simp only [List.length_nil] at hxy
  go_enter Tryz.func300,Tryz.ntmps300
  go_wp2
  go_ret
  exact ⟨_,_,_,rfl,⟨A,xs,c,rfl,hc,HX.out,Hx.out,Tx.out,by simp⟩,Fr.refl _ _,fun a _=>Or.inr (Or.inl rfl)⟩
 ·have h0':(((ys.length:Nat):Int) == 0)=false:=by simp; intro e; simp [e] at h0
  go_enter Tryz.func300,Tryz.ntmps300
  go_wp2_with (first
   | (at_make
      refine ZaD rfl _ _ _ rfl _ _ _ Tryz.underlying133 ZbR _ _ _ _ (xs.length + 1) rfl rfl (by omega) (by omega) (by omega) (by omega) ?_
      intro b w1 hb hO1 _ hF1 hs1
      have HO1:Hid (Own .u64 217 w1 b ([] ++ List.replicate (xs.length + 1) 0 ++ [])):=by simpa [Hid] using hO1
      have HF1:=zh hF1
      have Hb:=zh hb
      clear hO1 hF1 hb hs1)
   | (with_reducible refine Zbg rfl (.tmp 21) (.tmp 22) _ _ rfl _ _ Tryz.underlying133 Zda _ _ _ _ _ _ rfl rfl b [] (List.replicate (xs.length + 1) 0) [] xs (by simp) rfl HO1.out (HX.out.ext HF1.out) (fun _=>rfl) ?_
      intro w2 z hO2 _ hF2 hs2
      have HO2:=zh hO2
      have HF2:=zh hF2
      clear hO2 hF2 hs2))
  have HO3:Hid (Own .u64 217 w2 b ([] ++ (xs ++ [0]) ++ [])):=by
   have h:=HO2.out
   rw [List.take_of_length_le (by simp),List.drop_replicate] at h
   simpa [Hid] using h
  have hA2:Hid (∀ a,A2=some a→a.block≠b):=by
   intro a ha
   obtain ⟨b',off',e',hb',_⟩:=HY.out (by intro e; simp [e] at h0)
   rw [e'] at ha; injection ha with ha; subst ha
   have:=Hb.out
   show b'≠b
   omega
  have HY2:Hid (Zai .u64 w2 A2 ys):=(HY.out.ext HF1.out).fr HF2.out (fun a ha _=>hA2.out a ha)
  refine (Zfs b _ _ _ _ _ [] (xs ++ [0]) [] ys A2 w2 rfl (by simp) rfl HO3.out HY2.out hA2.out (by simp; omega) (by simp; omega) (Hx.out.append (Dig.nil.cons Zag)) Hy.out).mono ?_
  rintro e w3 ⟨rfl,hM⟩
  have HM:=zh hM
  clear hM
  go_wp2_with fail
  obtain ⟨hF3,_,m,hO4,hml,hdm,hsum⟩:=HM.out
  have hml':m.length=xs.length + 1:=by simpa using hml
  have hO4':Own .u64 217 w3 b m:=by simpa using hO4
  have HF3:Hid (Ext w w3):=by
   have hb:=Hb.out
   exact ((HF1.out.next HF2.out (fun i hi e=>by omega)).next hF3 (fun i hi e=>by omega))
  refine (Za5 _ m _ _ w3 hml' hO4'.shows0 (by omega) (by omega)).mono ?_
  rintro e w4 ⟨rfl,rfl⟩
  have HN:=zh (Zad.of_own hO4' hdm (Nat.le_refl _))
  rw [Zkt Hx.out Hy.out (Nat.le_of_lt hxy) hsum,hml'] at HN
  clear HM hF3 hO4 hml hdm hsum hO4'
  have hml2:=zh hml'
  clear hml'
  go_wp2
  go_ret
  exact ⟨_,_,_,by rw [hml2.out]; rfl,HN.out,HF3.out,fun a h=>Or.inl (by injection h with h; subst h; have:=Hb.out; show w.heap.size≤b; omega)⟩
theorem Zez (A A2:Option Addr) (l c l2 c2 x y:Nat) (w:World) (hX:Zad w (.slice A l c) x) (hY:Zad w (.slice A2 l2 c2) y) (hx:wl x≤4294967296) (hy:wl y≤4294967296):Calls Tryz.prog 300 #[.slice A l c, .slice A2 l2 c2] w (ZaN w A A2 (x + y)):=by
 obtain ⟨_,xs,_,h,hc,h1,h2,h3,rfl⟩:=hX
 obtain ⟨_,ys,_,h',hc2,k1,k2,k3,rfl⟩:=hY
 injection h with e1 e2 e3
 injection h' with f1 f2 f3
 subst e1 e2 e3 f1 f2 f3
 rw [← ZaE h2 h3] at hx
 rw [← ZaE k2 k3] at hy
 rcases Nat.lt_or_ge xs.length ys.length with hlt | hge
 ·rw [Nat.add_comm]
  exact (Zj1 A2 A ys xs c2 c w k1 h1 hc2 hy hlt k2 h2 k3 h3).mono fun _ _ h=>h.swap
 ·exact Zj0 A A2 xs ys c c2 w h1 k1 hc hx hge h2 k2 h3 k3
theorem Zch (xv yv:Value) (x y:Nat) (w:World) (hX:Zad w xv x) (hY:Zad w yv y) (hx:wl x≤4294967296) (hy:wl y≤4294967296):Calls Tryz.prog 300 #[xv,yv] w (Za0 w (x + y)):=by
 obtain ⟨A,_,c,rfl,_⟩:=id hX
 obtain ⟨A2,_,c2,rfl,_⟩:=id hY
 exact (Zez _ _ _ _ _ _ x y w hX hY hx hy).mono fun _ _ h=>h.ret
end Go.Proofs.YtcpjeaaapocoeaaGreatDoor

namespace Go.Proofs.YtcpjeaaapocoeaaGreatDoor
open Go.RowKit
theorem Zo9 (w:World) (a:Option Addr) (n c:Nat):(binOp .eql 133 (.slice a n c) (.slice none 0 0)).run Tryz.prog w=.ok (.bool a.isNone) w :=
 Lib.run_eql_slice_nil w 133 217 a n c 0 0 Tryz.underlying133
def ZnE (w:World) (xs:List Nat) (e:Ending) (w':World):Prop :=
 ∃ A cap,e=.returned (.slice A xs.length cap)∧Buf .u64 217 w' A cap xs∧Ext w w'∧∀ b,Zah A b→w.heap.size≤b
set_option maxHeartbeats 1000000 in
theorem ZbB (A:Option Addr) (xs:List Nat) (n c:Nat) (w:World) (hn:xs.length=n) (hX:Zai .u64 w A xs) (hl:n≤4294967296) :
 Calls Tryz.prog 307 #[.slice A n c] w (ZnE w xs):=by
 have HX:=zh hX
 have HN:=zh hn
 clear hX hn
 have hnil:=Zo9
 cases A with
 | none =>
   have h0:Hid (xs=[]):=by
    rcases xs with _ | ⟨y,ys⟩
    ·rfl
    ·obtain ⟨b,off,h,_⟩:=HX.out (by simp); cases h
   go_enter Tryz.func307,Tryz.ntmps307
   go_wp2
   go_ret
   rw [h0.out]
   exact ⟨none,0,rfl,Buf.nil,Fr.refl _ _,fun b hb=>by obtain ⟨a,ha,_⟩:=hb; cases ha⟩
 | some ad =>
   go_enter Tryz.func307,Tryz.ntmps307
   go_wp2_with (at_builtin
                refine ZaB rfl _ _ _ rfl _ .u64 8 Tryz.underlying133 ZbR (some ⟨w.heap.size,0,none⟩) (some ad) 0 n 0 c rfl rfl [] xs rfl HN.out ?_ (HX.out.alloc _) (by simp only [maxLen]; omega) (by omega) ?_
                ·exact Or.inr ⟨_,rfl,Own.new w _ _ [] [],⟨#[],heap_alloc_new w _,rfl⟩,Nat.le_refl _,by simp only [maxLen]; omega⟩
                intro A1 cap1 w1 hB1 hF1 hA1
                have HB1:=zh hB1
                have HF1:=zh hF1
                have HA1:=zh hA1
                clear hB1 hF1 hA1)
   go_ret
   refine ⟨A1,cap1,?_,by simpa using HB1.out,?_,?_⟩
   ·rw [HN.out]; simp
   ·refine ((Fr.refl (fun _=>False) w).alloc _).next HF1.out (fun i hi hb=>?_)
    obtain ⟨a,ha,hb⟩:=hb
    injection ha with ha
    subst ha
    simp at hb; omega
   ·intro b hb
    rcases HA1.out b hb with ⟨a,ha,h⟩ | h
    ·injection ha with ha; subst ha; simp at h; omega
    ·simp at h; omega
set_option maxHeartbeats 1000000 in
theorem Zgz (A A2:Option Addr) (xs ys:List Nat) (c c2:Nat) (w:World) (hX:Zai .u64 w A xs) (hY:Zai .u64 w A2 ys) (hc:xs.length≤c) (hl:xs.length≤4294967296) (hxy:ys.length≤xs.length)
 (hx:Dig W64 xs) (hy:Dig W64 ys) (tx:Trim xs) (hle:val W64 ys≤val W64 xs) :
 Calls Tryz.prog 301 #[.slice A xs.length c, .slice A2 ys.length c2] w (ZaN w A A (val W64 xs - val W64 ys)):=by
 have HX:=zh hX
 have HY:=zh hY
 have Hx:=zh hx
 have Hy:=zh hy
 have Tx:=zh tx
 have HL:=zh hle
 clear hX hY hx hy tx hle
 by_cases h0:ys.length=0
 ·obtain rfl:ys=[]:=List.length_eq_zero_iff.1 h0
  clear h0 Hy HY hxy
  go_enter Tryz.func301,Tryz.ntmps301
  go_wp2
  go_ret
  exact ⟨_,_,_,rfl,⟨A,xs,c,rfl,hc,HX.out,Hx.out,Tx.out,by simp⟩,Fr.refl _ _,fun a _=>Or.inr (Or.inl rfl)⟩
 ·have h0':(((ys.length:Nat):Int) == 0)=false:=by simp; intro e; simp [e] at h0
  go_enter Tryz.func301,Tryz.ntmps301
  go_wp2_with fail
  refine (ZbB A xs _ c w rfl HX.out hl).mono ?_
  rintro e w1 ⟨A1,cap1,rfl,hB1,hF1,hA1⟩
  have hne:xs≠[]:=by rintro rfl; simp at hxy; exact h0 (by simp [hxy])
  rcases hB1 with ⟨_,h,_⟩ | ⟨b,rfl,hO1,hC1,hcap1,hcm1⟩
  ·exact absurd h hne
  have hb1:w.heap.size≤b:=hA1 b ⟨_,rfl,rfl⟩
  have HO1:Hid (Own .u64 217 w1 b ([] ++ xs ++ [])):=by simpa [Hid] using hO1
  have HF1:=zh hF1
  clear hO1 hF1 hA1 hC1 hcm1
  go_wp2_with fail
  have hA2:Hid (∀ a,A2=some a→a.block≠b):=by
   intro a ha
   obtain ⟨b',off',e',hb',_⟩:=HY.out (by intro e; simp [e] at h0)
   rw [e'] at ha; injection ha with ha; subst ha
   show b'≠b
   omega
  refine (ZhT b _ _ _ _ _ [] xs [] ys A2 w1 rfl rfl rfl HO1.out (HY.out.ext HF1.out) hA2.out hxy (by omega) Hx.out Hy.out HL.out).mono ?_
  rintro e w2 ⟨rfl,hM⟩
  have HM:=zh hM
  clear hM
  go_wp2_with fail
  obtain ⟨hF2,_,m,hO2,hml,hdm,hdiff⟩:=HM.out
  have hO2':Own .u64 217 w2 b m:=by simpa using hO2
  have HF2:Hid (Ext w w2):=HF1.out.next hF2 (fun i hi e=>by omega)
  refine (Za5 _ m _ _ w2 hml hO2'.shows0 (by omega) (by omega)).mono ?_
  rintro e w3 ⟨rfl,rfl⟩
  have HN:=zh (Zad.of_own (c:=cap1) hO2' hdm (by omega))
  have hd:val W64 m=val W64 xs - val W64 ys:=by unfold ZmQ at hdiff; omega
  rw [hd] at HN
  clear HM hF2 hO2 hdm hdiff hO2' hd hml
  go_wp2
  go_ret
  exact ⟨_,_,_,rfl,HN.out,HF2.out,fun a h=>Or.inl (by injection h with h; subst h; exact hb1)⟩
theorem Zcp (A A2:Option Addr) (l c l2 c2 x y:Nat) (w:World) (hX:Zad w (.slice A l c) x) (hY:Zad w (.slice A2 l2 c2) y) (hx:wl x≤4294967296) (hle:y≤x):Calls Tryz.prog 301 #[.slice A l c, .slice A2 l2 c2] w (ZaN w A A (x - y)):=by
 obtain ⟨_,xs,_,h,hc,h1,h2,h3,rfl⟩:=hX
 obtain ⟨_,ys,_,h',hc2,k1,k2,k3,rfl⟩:=hY
 injection h with e1 e2 e3
 injection h' with f1 f2 f3
 subst e1 e2 e3 f1 f2 f3
 have hy:=ZaS hle
 rw [← ZaE h2 h3] at hx
 rw [← ZaE k2 k3,← ZaE h2 h3] at hy
 exact Zgz A A2 xs ys c c2 w h1 k1 hc hx hy h2 k2 h3 hle
theorem Zbh (xv yv:Value) (x y:Nat) (w:World) (hX:Zad w xv x) (hY:Zad w yv y) (hx:wl x≤4294967296) (hle:y≤x):Calls Tryz.prog 301 #[xv,yv] w (Za0 w (x - y)):=by
 obtain ⟨A,_,c,rfl,_⟩:=id hX
 obtain ⟨A2,_,c2,rfl,_⟩:=id hY
 exact (Zcp _ _ _ _ _ _ x y w hX hY hx hle).mono fun _ _ h=>h.ret
theorem Zad.one (w:World) {x:Nat} (h0:x≠0) (hx:x < W64):Zad (w.alloc (.cells #[.int .u64 (x:Int)] 217)) (.slice (some ⟨w.heap.size,0,none⟩) 1 1) x:=by
 have hO:Own .u64 217 (w.alloc (.cells #[.int .u64 (x:Int)] 217)) w.heap.size [x]:=Own.new w _ _ [x] []
 refine ⟨_,[x],1,rfl,Nat.le_refl _,hO.shows0,Dig.nil.cons hx,?_,by simp⟩
 intro k hk
 simp at hk
 subst hk
 simpa using h0
set_option maxHeartbeats 400000 in
theorem Zgn (x:Nat) (w:World) (hx:x < W64):Calls Tryz.prog 116 #[.int .u64 (x:Int)] w (ZaN w none none x):=by
 have HX:=zh hx
 clear hx
 by_cases h0:x=0
 ·subst h0
  go_enter Tryz.func116,Tryz.ntmps116
  go_wp2
  go_ret
  exact ⟨none,0,0,rfl,Zad.zero _,Fr.refl _ _,fun a h=>by cases h⟩
 ·have h0':(((x:Nat):Int) == 0)=false:=by simp; omega
  go_enter Tryz.func116,Tryz.ntmps116
  go_wp2
  go_ret
  exact ⟨_,_,_,rfl,Zad.one w h0 HX.out,(Fr.refl _ _).alloc _,fun a h=>Or.inl (by injection h with h; subst h; exact Nat.le_refl _)⟩
theorem Zc4 (x:Nat) (w:World) (hx:x < W64):Calls Tryz.prog 116 #[.int .u64 (x:Int)] w (Za0 w x):=(Zgn x w hx).mono fun _ _ h=>h.ret
end Go.Proofs.YtcpjeaaapocoeaaGreatDoor
