/-
 My texts Words2, Nat, Nat2 put together.
-/
import Derived.Test.YthlipnahcbcjkaaGreatDoorR02
import Derived.Deep.QuietTactic
import Derived.BigQuiet
import Derived.Test.YthlipnahcbcjkaaGreatDoorR01
import Derived.Lib.SliceRun
set_option maxRecDepth 100000
namespace Go.Proofs.YthlipnahcbcjkaaGreatDoor
open Go.RowKit
def cmpI (a b:Int):Int:=if a < b then -1 else if b < a then 1 else 0
set_option maxHeartbeats 400000 in
theorem Zmj (x y:Int) (w:World):Calls Tryz.prog 220 #[.int .i64 x, .int .i64 y] w fun e w'=>e=.returned (.int .i64 (cmpI x y))∧w'=w:=by
 go_enter Tryz.func220,Tryz.ntmps220
 go_wp2
 all_goals (go_ret; exact ⟨by simp [cmpI, *]; try omega,rfl⟩)
set_option maxHeartbeats 400000 in
theorem Ziv (x y:Int) (w:World):Calls Tryz.prog 221 #[.int .u64 x, .int .u64 y] w fun e w'=>e=.returned (.int .i64 (cmpI x y))∧w'=w:=by
 go_enter Tryz.func221,Tryz.ntmps221
 go_wp2
 all_goals (go_ret; exact ⟨by simp [cmpI, *]; try omega,rfl⟩)
theorem ZeO {a b:Int} (h:a < b):cmpI a b = -1:=by simp [cmpI,h]
theorem ZfH {a b:Int} (h:b < a):cmpI a b=1:=by unfold cmpI; rw [if_neg (by omega),if_pos h]
theorem ZmV (a:Int):cmpI a a=0:=by simp [cmpI]
theorem Zo0 {xs ys:List Nat} (hx:Dig W64 xs) (hy:Dig W64 ys) (tx:Trim xs) (ty:Trim ys) (hl:xs.length≠ys.length):cmpI xs.length ys.length=cmpI (val W64 xs) (val W64 ys):=by
 rcases Nat.lt_or_gt_of_ne hl with h | h
 ·rw [ZeO (by omega),ZeO (by have:=ZdG Zai hx ty h; omega)]
 ·rw [ZfH (by omega),ZfH (by have:=ZdG Zai hy tx h; omega)]
theorem ZmW {xs ys:List Nat} (hx:Dig W64 xs) (hy:Dig W64 ys) (hl:xs.length=ys.length) {k x y:Nat} (hk:k < xs.length) (he:xs.drop (k + 1)=ys.drop (k + 1)) (ex:xs[k]?.getD 0=x) (ey:ys[k]?.getD 0=y) (hne:x≠y) :
 cmpI x y=cmpI (val W64 xs) (val W64 ys):=by
 subst ex ey
 rcases Nat.lt_or_gt_of_ne hne with h | h
 ·rw [ZeO (by omega),ZeO (by have:=Zfk hx hl k hk he h; omega)]
 ·rw [ZfH (by omega),ZfH (by have:=Zfk hy hl.symm k (by omega) he.symm h; omega)]
set_option maxHeartbeats 1000000 in
theorem ZcN (A A2:Option Addr) (xs ys:List Nat) (n m c c2:Nat) (w:World) (hn:xs.length=n) (hm:ys.length=m) (hX:Zan .u64 w A xs) (hY:Zan .u64 w A2 ys) (hc:xs.length≤1099511627776) (_:ys.length≤1099511627776)
 (hx:Dig W64 xs) (hy:Dig W64 ys) (tx:Trim xs) (ty:Trim ys) :
 Calls Tryz.prog 152 #[.slice A n c, .slice A2 m c2] w fun e w'=>e=.returned (.int .i64 (cmpI (val W64 xs) (val W64 ys)))∧∃ n,w'=w.drewN n:=by
 subst hn hm
 by_cases hl:xs.length=ys.length
 ·have HX:=zh hX
  have HY:=zh hY
  have HL:=zh hl
  have Hx:=zh hx
  have Hy:=zh hy
  have hne:(((xs.length:Nat):Int) != (ys.length:Nat))=false:=by simp [hl]
  clear hX hY hx hy tx ty hl
  go_enter Tryz.func152,Tryz.ntmps152
  go_wp2
  go_loopw [5] (fun i wr=>∃ k n:Nat,k≤xs.length∧i=.int .i64 ((k:Int) - 1)∧Hid (xs.drop k=ys.drop k)∧Hid (wr=w.drewN n)) (fun i _=>(intOf i + 1).toNat)
  case atStart=>exact ⟨xs.length,0,Nat.le_refl _,rfl,by unfold Hid; rw [List.drop_of_length_le (Nat.le_refl _),List.drop_of_length_le (by rw [HL.out]; exact Nat.le_refl _)],rfl⟩
  case round =>
   obtain ⟨k,n,hk,rfl,Q,hW⟩:=hrel
   obtain rfl:=hW.out
   clear hW
   by_cases hlt:0 < k
   ·obtain ⟨j,rfl⟩:∃ j,k=j + 1:=⟨k - 1,by omega⟩
    have ej:(((j + 1:Nat):Int) - 1)=(j:Int):=by omega
    rw [ej]
    clear ej
    obtain ⟨b,off,rfl,_,hcx⟩:=HX.out.at (i:=j) (by omega)
    obtain ⟨b2,off2,rfl,_,hcy⟩:=HY.out.at (i:=j) (by have:=HL.out; omega)
    obtain ⟨x,ex⟩:∃ x,xs[j]?.getD 0=x:=⟨_,rfl⟩
    obtain ⟨y,ey⟩:∃ y,ys[j]?.getD 0=y:=⟨_,rfl⟩
    rw [ex] at hcx
    rw [ey] at hcy
    have hj2:(j:Int) < (ys.length:Nat):=by have:=HL.out; omega
    have hj1:(j:Int) < (xs.length:Nat):=by omega
    by_cases hd:x=y
    ·subst hd
     have HE:Hid (xs.drop j=ys.drop j):=by
      unfold Hid
      have h1:j < xs.length:=by omega
      have h2:j < ys.length:=by have:=HL.out; omega
      rw [List.drop_eq_getElem_cons h1,List.drop_eq_getElem_cons h2,Q.out]
      rw [List.getElem?_eq_getElem h1] at ex
      rw [List.getElem?_eq_getElem h2] at ey
      simp only [Option.getD_some] at ex ey
      rw [ex,ey]
     clear ex ey Q
     go_wp2
     go_quiet (fail)
     go_wp2
     go_roundw
     case rel=>exact ⟨j,_,by omega,rfl,HE,rfl⟩
     case measure=>simp [intOf]
    ·have HC:=zh (ZmW Hx.out Hy.out HL.out (by omega) Q.out ex ey hd)
     have hd':(((x:Nat):Int) != (y:Nat))=true:=by simp; omega
     clear ex ey Q
     go_wp2
     go_quiet (fail)
     go_wp2
     go_quiet ((go_at_call 221; first | exact Calls.quiet_of_same (Ziv _ _ _) | exact (Ziv _ _ _).mono (fun _ _ h=>⟨h.1,_,h.2⟩)))
     go_wp2
     go_ret
     exact ⟨by rw [← HC.out]; rfl,by simp only [World.drewN_drewN]; exact ⟨_,rfl⟩⟩
   ·obtain rfl:k=0:=by omega
    have HE:xs=ys:=by simpa using Q.out
    have HC:=zh (congrArg (fun l=>cmpI (val W64 xs) (val W64 l)) HE)
    clear Q HE
    go_wp2
    go_ret
    exact ⟨by rw [← (show _=cmpI (val W64 xs) (val W64 ys) from HC.out),ZmV]; rfl,_,rfl⟩
 ·have hne:(((xs.length:Nat):Int) != (ys.length:Nat))=true:=by simp; omega
  have HC:=zh (Zo0 hx hy tx ty hl)
  clear hX hY hx hy tx ty
  go_enter Tryz.func152,Tryz.ntmps152
  go_wp2_with (go_at_call 220; refine (Zmj _ _ _).mono ?_; rintro e w' ⟨rfl,rfl⟩)
  go_ret
  exact ⟨by rw [← HC.out]; rfl,0,rfl⟩
end Go.Proofs.YthlipnahcbcjkaaGreatDoor

namespace Go.Proofs.YthlipnahcbcjkaaGreatDoor
open Go.RowKit
def wl (n:Nat):Nat:=if n=0 then 0 else n.log2 / 64 + 1
theorem ZfI (k:Nat):W64 ^ k=2 ^ (64 * k):=by rw [Nat.pow_mul,Zal]
theorem ZbB {n k:Nat}:wl n≤k ↔ n < W64 ^ k:=by
 unfold wl
 rw [ZfI]
 split
 ·rename_i h; subst h; simp [Nat.pow_pos]
 ·rename_i h
  rw [← Nat.log2_lt h]; omega
theorem Ziw (n:Nat):n < W64 ^ wl n:=ZbB.1 (Nat.le_refl _)
theorem ZfJ:wl 0=0:=rfl
theorem Za3 {a b:Nat} (h:a≤b):wl a≤wl b:=ZbB.2 (Nat.lt_of_le_of_lt h (Ziw b))
theorem ZfK (a b:Nat):wl (a * b)≤wl a + wl b:=ZbB.2 (by rw [Nat.pow_add]; exact Nat.mul_lt_mul'' (Ziw a) (Ziw b))
theorem Zaz {xs:List Nat} (hd:Dig W64 xs) (ht:Trim xs):xs.length=wl (val W64 xs):=by
 have h1:=ZdH (n:=wl (val W64 xs)) ZdM ht (Ziw _)
 have h2:wl (val W64 xs)≤xs.length:=ZbB.2 (Za6 hd)
 omega
theorem ZeY {n:Nat} (h:0 < n):0 < wl n:=by
 unfold wl; rw [if_neg (by omega)]; omega
theorem ZcB {n:Nat}:wl n≤1 ↔ n < W64:=by rw [ZbB,Nat.pow_one]
def Zaf (w:World) (v:Value) (n:Nat):Prop :=
 ∃ (A:Option Addr) (xs:List Nat) (c:Nat),v=.slice A xs.length c∧xs.length≤c∧Zan .u64 w A xs∧Dig W64 xs∧Trim xs∧val W64 xs=n
theorem Zaf.ext {w w':World} {v:Value} {n:Nat} (h:Zaf w v n) (hf:Ext w w'):Zaf w' v n:=by
 obtain ⟨A,xs,c,h1,h2,h4,h5⟩:=h
 exact ⟨A,xs,c,h1,h2,h4.ext hf,h5⟩
theorem Zaf.zero (w:World):Zaf w (.slice none 0 0) 0:=⟨none,[],0,rfl,by simp,Zan.nil,Dig.nil,Trim.nil,rfl⟩
def Zba (w:World) (n:Nat) (e:Ending) (w':World):Prop:=∃ v,e=.returned v∧Zaf w' v n∧Ext w w'
theorem Zcq:(Tryz.prog.info? 88).map (fun i=>(i.zero,i.size,i.bytes))=some (some (.int .u64 0),1,8):=by kernel_rfl
theorem Zjj:(Tryz.prog.info? 88).map (·.size)=some 1:=by kernel_rfl
theorem Zaf.of_own {w:World} {b:Nat} {xs:List Nat} (h:Own .u64 88 w b xs) (hd:Dig W64 xs) {c:Nat} (hc:xs.length≤c):Zaf w (.slice (some ⟨b,0,none⟩) (ZbE xs xs.length) c) (val W64 xs):=by
 refine ⟨_,ZaY xs,c,by rw [Zbd],by rw [Zbd]; exact Nat.le_trans (ZdY _ _) hc,h.shows0.take _,Zc2 hd,ZcA xs,Za5 _ _⟩
theorem ZkE {xs ys m:List Nat} (hx:Dig W64 xs) (hy:Dig W64 ys) (hl:ys.length≤xs.length) (h:ZoI (xs ++ [0]) ys m):val W64 m=val W64 xs + val W64 ys:=by
 obtain ⟨k,hk⟩:=h
 have h1:=Za6 hx
 have h2:=Za6 hy
 have h3:W64 ^ ys.length≤W64 ^ xs.length:=Nat.pow_le_pow_right Zai hl
 have h4:W64 ^ xs.length * 2≤W64 ^ xs.length * W64:=Nat.mul_le_mul_left _ ZlX
 rw [Zbn] at hk
 simp only [List.length_append,List.length_singleton,Nat.pow_succ,ZcK,Zc1,Nat.mul_zero,Nat.add_zero] at hk
 rcases Nat.eq_zero_or_pos k with h0 | h0
 ·subst h0; simpa using hk
 ·have:W64 ^ xs.length * W64 * 1≤W64 ^ xs.length * W64 * k:=Nat.mul_le_mul_left _ h0
  omega
set_option maxHeartbeats 1000000 in
theorem Zkf (A A2:Option Addr) (xs ys:List Nat) (c c2:Nat) (w:World) (hX:Zan .u64 w A xs) (hY:Zan .u64 w A2 ys) (hc:xs.length≤c) (hl:xs.length≤4294967296) (hxy:ys.length≤xs.length)
 (hx:Dig W64 xs) (hy:Dig W64 ys) (tx:Trim xs) (ty:Trim ys) :
 Calls Tryz.prog 203 #[.slice A xs.length c, .slice A2 ys.length c2] w (Zba w (val W64 xs + val W64 ys)):=by
 have HX:=zh hX
 have HY:=zh hY
 have Hx:=zh hx
 have Hy:=zh hy
 have Tx:=zh tx
 have Ty:=zh ty
 clear hX hY hx hy tx ty
 by_cases h0:ys.length=0
 ·obtain rfl:ys=[]:=List.length_eq_zero_iff.1 h0
  clear h0 Hy Ty HY hxy
  go_enter Tryz.func203,Tryz.ntmps203
  go_wp2
  go_ret
  exact ⟨_,rfl,⟨A,xs,c,rfl,hc,HX.out,Hx.out,Tx.out,by simp⟩,Fr.refl _ _⟩
 ·have h0':(((ys.length:Nat):Int) == 0)=false:=by simp; intro e; simp [e] at h0
  go_enter Tryz.func203,Tryz.ntmps203
  go_wp2_with (first
   | (at_make
      refine Za2 rfl _ _ _ rfl _ _ _ Tryz.underlying93 Zcq _ _ _ _ (xs.length + 1) rfl rfl (by omega) (by omega) (by omega) (by omega) ?_
      intro b w1 hb hO1 _ hF1 hs1
      have HO1:Hid (Own .u64 88 w1 b ([] ++ List.replicate (xs.length + 1) 0 ++ [])):=by simpa [Hid] using hO1
      have HF1:=zh hF1
      have Hb:=zh hb
      clear hO1 hF1 hb hs1)
   | (with_reducible refine Zdt rfl (.tmp 21) (.tmp 22) _ _ rfl _ _ Tryz.underlying93 Zjj _ _ _ _ _ _ rfl rfl b [] (List.replicate (xs.length + 1) 0) [] xs (by simp) rfl HO1.out (HX.out.ext HF1.out) (fun _=>rfl) ?_
      intro w2 z hO2 _ hF2 hs2
      have HO2:=zh hO2
      have HF2:=zh hF2
      clear hO2 hF2 hs2))
  have HO3:Hid (Own .u64 88 w2 b ([] ++ (xs ++ [0]) ++ [])):=by
   have h:=HO2.out
   rw [List.take_of_length_le (by simp),List.drop_replicate] at h
   simpa [Hid] using h
  have hA2:Hid (∀ a,A2=some a→a.block≠b):=by
   intro a ha
   obtain ⟨b',off',e',hb',_⟩:=HY.out (by intro e; simp [e] at h0)
   rw [e'] at ha; injection ha with ha; subst ha
   have:=Hb.out
   show b'≠b
   omega
  have HY2:Hid (Zan .u64 w2 A2 ys):=(HY.out.ext HF1.out).fr HF2.out (fun a ha _=>hA2.out a ha)
  refine (ZhM b _ _ _ _ _ [] (xs ++ [0]) [] ys A2 w2 rfl (by simp) rfl HO3.out HY2.out hA2.out (by simp; omega) (by simp; omega) (Hx.out.append (Dig.nil.cons Zai)) Hy.out).mono ?_
  rintro e w3 ⟨rfl,hM⟩
  have HM:=zh hM
  clear hM
  go_wp2_with fail
  obtain ⟨hF3,_,m,hO4,hml,hdm,hsum⟩:=HM.out
  have hml':m.length=xs.length + 1:=by simpa using hml
  have hO4':Own .u64 88 w3 b m:=by simpa using hO4
  have HF3:Hid (Ext w w3):=by
   have hb:=Hb.out
   exact ((HF1.out.next HF2.out (fun i hi e=>by omega)).next hF3 (fun i hi e=>by omega))
  refine (ZbA _ m _ _ w3 hml' hO4'.shows0 (by omega) (by omega)).mono ?_
  rintro e w4 ⟨rfl,rfl⟩
  have HN:=zh (Zaf.of_own hO4' hdm (Nat.le_refl _))
  rw [ZkE Hx.out Hy.out hxy hsum,hml'] at HN
  clear HM hF3 hO4 hml hdm hsum hO4'
  have hml2:=zh hml'
  clear hml'
  go_wp2
  go_ret
  exact ⟨_,by rw [hml2.out]; rfl,HN.out,HF3.out⟩
set_option maxHeartbeats 1000000 in
theorem Zkg (A A2:Option Addr) (xs ys:List Nat) (c c2:Nat) (w:World) (hX:Zan .u64 w A xs) (hY:Zan .u64 w A2 ys) (hc:xs.length≤c) (hl:xs.length≤4294967296) (hxy:ys.length < xs.length)
 (hx:Dig W64 xs) (hy:Dig W64 ys) (tx:Trim xs) (ty:Trim ys) :
 Calls Tryz.prog 203 #[.slice A2 ys.length c2, .slice A xs.length c] w (Zba w (val W64 xs + val W64 ys)):=by
 have HX:=zh hX
 have HY:=zh hY
 have Hx:=zh hx
 have Hy:=zh hy
 have Tx:=zh tx
 have Ty:=zh ty
 clear hX hY hx hy tx ty
 by_cases h0:ys.length=0
 ·obtain rfl:ys=[]:=List.length_eq_zero_iff.1 h0
  clear h0 Hy Ty HY
  simp only [List.length_nil] at hxy
  go_enter Tryz.func203,Tryz.ntmps203
  go_wp2
  go_ret
  exact ⟨_,rfl,⟨A,xs,c,rfl,hc,HX.out,Hx.out,Tx.out,by simp⟩,Fr.refl _ _⟩
 ·have h0':(((ys.length:Nat):Int) == 0)=false:=by simp; intro e; simp [e] at h0
  go_enter Tryz.func203,Tryz.ntmps203
  go_wp2_with (first
   | (at_make
      refine Za2 rfl _ _ _ rfl _ _ _ Tryz.underlying93 Zcq _ _ _ _ (xs.length + 1) rfl rfl (by omega) (by omega) (by omega) (by omega) ?_
      intro b w1 hb hO1 _ hF1 hs1
      have HO1:Hid (Own .u64 88 w1 b ([] ++ List.replicate (xs.length + 1) 0 ++ [])):=by simpa [Hid] using hO1
      have HF1:=zh hF1
      have Hb:=zh hb
      clear hO1 hF1 hb hs1)
   | (with_reducible refine Zdt rfl (.tmp 21) (.tmp 22) _ _ rfl _ _ Tryz.underlying93 Zjj _ _ _ _ _ _ rfl rfl b [] (List.replicate (xs.length + 1) 0) [] xs (by simp) rfl HO1.out (HX.out.ext HF1.out) (fun _=>rfl) ?_
      intro w2 z hO2 _ hF2 hs2
      have HO2:=zh hO2
      have HF2:=zh hF2
      clear hO2 hF2 hs2))
  have HO3:Hid (Own .u64 88 w2 b ([] ++ (xs ++ [0]) ++ [])):=by
   have h:=HO2.out
   rw [List.take_of_length_le (by simp),List.drop_replicate] at h
   simpa [Hid] using h
  have hA2:Hid (∀ a,A2=some a→a.block≠b):=by
   intro a ha
   obtain ⟨b',off',e',hb',_⟩:=HY.out (by intro e; simp [e] at h0)
   rw [e'] at ha; injection ha with ha; subst ha
   have:=Hb.out
   show b'≠b
   omega
  have HY2:Hid (Zan .u64 w2 A2 ys):=(HY.out.ext HF1.out).fr HF2.out (fun a ha _=>hA2.out a ha)
  refine (ZhM b _ _ _ _ _ [] (xs ++ [0]) [] ys A2 w2 rfl (by simp) rfl HO3.out HY2.out hA2.out (by simp; omega) (by simp; omega) (Hx.out.append (Dig.nil.cons Zai)) Hy.out).mono ?_
  rintro e w3 ⟨rfl,hM⟩
  have HM:=zh hM
  clear hM
  go_wp2_with fail
  obtain ⟨hF3,_,m,hO4,hml,hdm,hsum⟩:=HM.out
  have hml':m.length=xs.length + 1:=by simpa using hml
  have hO4':Own .u64 88 w3 b m:=by simpa using hO4
  have HF3:Hid (Ext w w3):=by
   have hb:=Hb.out
   exact ((HF1.out.next HF2.out (fun i hi e=>by omega)).next hF3 (fun i hi e=>by omega))
  refine (ZbA _ m _ _ w3 hml' hO4'.shows0 (by omega) (by omega)).mono ?_
  rintro e w4 ⟨rfl,rfl⟩
  have HN:=zh (Zaf.of_own hO4' hdm (Nat.le_refl _))
  rw [ZkE Hx.out Hy.out (Nat.le_of_lt hxy) hsum,hml'] at HN
  clear HM hF3 hO4 hml hdm hsum hO4'
  have hml2:=zh hml'
  clear hml'
  go_wp2
  go_ret
  exact ⟨_,by rw [hml2.out]; rfl,HN.out,HF3.out⟩
theorem ZgM (xv yv:Value) (x y:Nat) (w:World) (hX:Zaf w xv x) (hY:Zaf w yv y) (hx:wl x≤4294967296) (hy:wl y≤4294967296):Calls Tryz.prog 203 #[xv,yv] w (Zba w (x + y)):=by
 obtain ⟨A,xs,c,rfl,hc,h1,h2,h3,rfl⟩:=hX
 obtain ⟨A2,ys,c2,rfl,hc2,k1,k2,k3,rfl⟩:=hY
 rw [← Zaz h2 h3] at hx
 rw [← Zaz k2 k3] at hy
 rcases Nat.lt_or_ge xs.length ys.length with hlt | hge
 ·rw [Nat.add_comm]
  exact Zkg A2 A ys xs c2 c w k1 h1 hc2 hy hlt k2 h2 k3 h3
 ·exact Zkf A A2 xs ys c c2 w h1 k1 hc hx hge h2 k2 h3 k3
end Go.Proofs.YthlipnahcbcjkaaGreatDoor

namespace Go.Proofs.YthlipnahcbcjkaaGreatDoor
open Go.RowKit
theorem ZpC (w:World) (a:Option Addr) (n c:Nat):(binOp .eql 93 (.slice a n c) (.slice none 0 0)).run Tryz.prog w=.ok (.bool a.isNone) w :=
 Lib.run_eql_slice_nil w 93 88 a n c 0 0 Tryz.underlying93
def Zn0 (w:World) (xs:List Nat) (e:Ending) (w':World):Prop :=
 ∃ A cap,e=.returned (.slice A xs.length cap)∧Buf .u64 88 w' A cap xs∧Ext w w'∧∀ b,Zad A b→w.heap.size≤b
set_option maxHeartbeats 1000000 in
theorem ZbG (A:Option Addr) (xs:List Nat) (n c:Nat) (w:World) (hn:xs.length=n) (hX:Zan .u64 w A xs) (hl:n≤4294967296) :
 Calls Tryz.prog 231 #[.slice A n c] w (Zn0 w xs):=by
 have HX:=zh hX
 have HN:=zh hn
 clear hX hn
 have hnil:=ZpC
 cases A with
 | none =>
   have h0:Hid (xs=[]):=by
    rcases xs with _ | ⟨y,ys⟩
    ·rfl
    ·obtain ⟨b,off,h,_⟩:=HX.out (by simp); cases h
   go_enter Tryz.func231,Tryz.ntmps231
   go_wp2
   go_ret
   rw [h0.out]
   exact ⟨none,0,rfl,Buf.nil,Fr.refl _ _,fun b hb=>by obtain ⟨a,ha,_⟩:=hb; cases ha⟩
 | some ad =>
   go_enter Tryz.func231,Tryz.ntmps231
   go_wp2_with (at_builtin
                refine Zay rfl _ _ _ rfl _ .u64 8 Tryz.underlying93 Zcq (some ⟨w.heap.size,0,none⟩) (some ad) 0 n 0 c rfl rfl [] xs rfl HN.out ?_ (HX.out.alloc _) (by simp only [maxLen]; omega) (by omega) ?_
                ·exact Or.inr ⟨_,rfl,Own.new w _ _ [] [],⟨#[],heap_alloc_new w _,rfl⟩,Nat.le_refl _,by simp only [maxLen]; omega⟩
                intro A1 cap1 w1 hB1 hF1 hA1
                have HB1:=zh hB1
                have HF1:=zh hF1
                have HA1:=zh hA1
                clear hB1 hF1 hA1)
   go_ret
   refine ⟨A1,cap1,?_,by simpa using HB1.out,?_,?_⟩
   ·rw [HN.out]; simp
   ·refine ((Fr.refl (fun _=>False) w).alloc _).next HF1.out (fun i hi hb=>?_)
    obtain ⟨a,ha,hb⟩:=hb
    injection ha with ha
    subst ha
    simp at hb; omega
   ·intro b hb
    rcases HA1.out b hb with ⟨a,ha,h⟩ | h
    ·injection ha with ha; subst ha; simp at h; omega
    ·simp at h; omega
set_option maxHeartbeats 1000000 in
theorem ZgO (A A2:Option Addr) (xs ys:List Nat) (c c2:Nat) (w:World) (hX:Zan .u64 w A xs) (hY:Zan .u64 w A2 ys) (hc:xs.length≤c) (hl:xs.length≤4294967296) (hxy:ys.length≤xs.length)
 (hx:Dig W64 xs) (hy:Dig W64 ys) (tx:Trim xs) (hle:val W64 ys≤val W64 xs) :
 Calls Tryz.prog 204 #[.slice A xs.length c, .slice A2 ys.length c2] w (Zba w (val W64 xs - val W64 ys)):=by
 have HX:=zh hX
 have HY:=zh hY
 have Hx:=zh hx
 have Hy:=zh hy
 have Tx:=zh tx
 have HL:=zh hle
 clear hX hY hx hy tx hle
 by_cases h0:ys.length=0
 ·obtain rfl:ys=[]:=List.length_eq_zero_iff.1 h0
  clear h0 Hy HY hxy
  go_enter Tryz.func204,Tryz.ntmps204
  go_wp2
  go_ret
  exact ⟨_,rfl,⟨A,xs,c,rfl,hc,HX.out,Hx.out,Tx.out,by simp⟩,Fr.refl _ _⟩
 ·have h0':(((ys.length:Nat):Int) == 0)=false:=by simp; intro e; simp [e] at h0
  go_enter Tryz.func204,Tryz.ntmps204
  go_wp2_with fail
  refine (ZbG A xs _ c w rfl HX.out hl).mono ?_
  rintro e w1 ⟨A1,cap1,rfl,hB1,hF1,hA1⟩
  have hne:xs≠[]:=by rintro rfl; simp at hxy; exact h0 (by simp [hxy])
  rcases hB1 with ⟨_,h,_⟩ | ⟨b,rfl,hO1,hC1,hcap1,hcm1⟩
  ·exact absurd h hne
  have hb1:w.heap.size≤b:=hA1 b ⟨_,rfl,rfl⟩
  have HO1:Hid (Own .u64 88 w1 b ([] ++ xs ++ [])):=by simpa [Hid] using hO1
  have HF1:=zh hF1
  clear hO1 hF1 hA1 hC1 hcm1
  go_wp2_with fail
  have hA2:Hid (∀ a,A2=some a→a.block≠b):=by
   intro a ha
   obtain ⟨b',off',e',hb',_⟩:=HY.out (by intro e; simp [e] at h0)
   rw [e'] at ha; injection ha with ha; subst ha
   show b'≠b
   omega
  refine (Zh4 b _ _ _ _ _ [] xs [] ys A2 w1 rfl rfl rfl HO1.out (HY.out.ext HF1.out) hA2.out hxy (by omega) Hx.out Hy.out HL.out).mono ?_
  rintro e w2 ⟨rfl,hM⟩
  have HM:=zh hM
  clear hM
  go_wp2_with fail
  obtain ⟨hF2,_,m,hO2,hml,hdm,hdiff⟩:=HM.out
  have hO2':Own .u64 88 w2 b m:=by simpa using hO2
  have HF2:Hid (Ext w w2):=HF1.out.next hF2 (fun i hi e=>by omega)
  refine (ZbA _ m _ _ w2 hml hO2'.shows0 (by omega) (by omega)).mono ?_
  rintro e w3 ⟨rfl,rfl⟩
  have HN:=zh (Zaf.of_own (c:=cap1) hO2' hdm (by omega))
  have hd:val W64 m=val W64 xs - val W64 ys:=by unfold ZmU at hdiff; omega
  rw [hd] at HN
  clear HM hF2 hO2 hdm hdiff hO2' hd hml
  go_wp2
  go_ret
  exact ⟨_,rfl,HN.out,HF2.out⟩
theorem Zcw (xv yv:Value) (x y:Nat) (w:World) (hX:Zaf w xv x) (hY:Zaf w yv y) (hx:wl x≤4294967296) (hle:y≤x):Calls Tryz.prog 204 #[xv,yv] w (Zba w (x - y)):=by
 obtain ⟨A,xs,c,rfl,hc,h1,h2,h3,rfl⟩:=hX
 obtain ⟨A2,ys,c2,rfl,hc2,k1,k2,k3,rfl⟩:=hY
 have hy:=Za3 hle
 rw [← Zaz h2 h3] at hx
 rw [← Zaz k2 k3,← Zaz h2 h3] at hy
 exact ZgO A A2 xs ys c c2 w h1 k1 hc hx hy h2 k2 h3 hle
theorem Zaf.one (w:World) {x:Nat} (h0:x≠0) (hx:x < W64):Zaf (w.alloc (.cells #[.int .u64 (x:Int)] 88)) (.slice (some ⟨w.heap.size,0,none⟩) 1 1) x:=by
 have hO:Own .u64 88 (w.alloc (.cells #[.int .u64 (x:Int)] 88)) w.heap.size [x]:=Own.new w _ _ [x] []
 refine ⟨_,[x],1,rfl,Nat.le_refl _,hO.shows0,Dig.nil.cons hx,?_,by simp⟩
 intro k hk
 simp at hk
 subst hk
 simpa using h0
set_option maxHeartbeats 400000 in
theorem ZcC (x:Nat) (w:World) (hx:x < W64):Calls Tryz.prog 200 #[.int .u64 (x:Int)] w (Zba w x):=by
 have HX:=zh hx
 clear hx
 by_cases h0:x=0
 ·subst h0
  go_enter Tryz.func200,Tryz.ntmps200
  go_wp2
  go_ret
  exact ⟨_,rfl,Zaf.zero _,Fr.refl _ _⟩
 ·have h0':(((x:Nat):Int) == 0)=false:=by simp; omega
  go_enter Tryz.func200,Tryz.ntmps200
  go_wp2
  go_ret
  exact ⟨_,rfl,Zaf.one w h0 HX.out,(Fr.refl _ _).alloc _⟩
end Go.Proofs.YthlipnahcbcjkaaGreatDoor
