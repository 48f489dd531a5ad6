/-
 My texts Words2, Nat, Nat2 put together.
-/
import Derived.Test.YtklpdkpcocnglaaGreatDoorV02
import Derived.Deep.QuietTactic
import Derived.BigQuiet
import Derived.Test.YtklpdkpcocnglaaGreatDoorV01
import Derived.Lib.SliceRun
set_option maxRecDepth 100000
namespace Go.Proofs.YtklpdkpcocnglaaGreatDoor
open Go.RowKit
def cmpI (a b:Int):Int:=if a < b then -1 else if b < a then 1 else 0
set_option maxHeartbeats 400000 in
theorem ZpF (x y:Int) (w:World):Calls Tryz.prog 193 #[.int .i64 x, .int .i64 y] w fun e w'=>e=.returned (.int .i64 (cmpI x y))∧w'=w:=by
 go_enter Tryz.func193,Tryz.ntmps193
 go_wp2
 all_goals (go_ret; exact ⟨by simp [cmpI, *]; try omega,rfl⟩)
set_option maxHeartbeats 400000 in
theorem ZjZ (x y:Int) (w:World):Calls Tryz.prog 194 #[.int .u64 x, .int .u64 y] w fun e w'=>e=.returned (.int .i64 (cmpI x y))∧w'=w:=by
 go_enter Tryz.func194,Tryz.ntmps194
 go_wp2
 all_goals (go_ret; exact ⟨by simp [cmpI, *]; try omega,rfl⟩)
theorem Zb8 {a b:Int} (h:a < b):cmpI a b = -1:=by simp [cmpI,h]
theorem ZcE {a b:Int} (h:b < a):cmpI a b=1:=by unfold cmpI; rw [if_neg (by omega),if_pos h]
theorem Zf8 (a:Int):cmpI a a=0:=by simp [cmpI]
theorem ZkR {xs ys:List Nat} (hx:Dig W64 xs) (hy:Dig W64 ys) (tx:Trim xs) (ty:Trim ys) (hl:xs.length≠ys.length):cmpI xs.length ys.length=cmpI (val W64 xs) (val W64 ys):=by
 rcases Nat.lt_or_gt_of_ne hl with h | h
 ·rw [Zb8 (by omega),Zb8 (by have:=ZcF Zan hx ty h; omega)]
 ·rw [ZcE (by omega),ZcE (by have:=ZcF Zan hy tx h; omega)]
theorem ZhL {xs ys:List Nat} (hx:Dig W64 xs) (hy:Dig W64 ys) (hl:xs.length=ys.length) {k x y:Nat} (hk:k < xs.length) (he:xs.drop (k + 1)=ys.drop (k + 1)) (ex:xs[k]?.getD 0=x) (ey:ys[k]?.getD 0=y) (hne:x≠y) :
 cmpI x y=cmpI (val W64 xs) (val W64 ys):=by
 subst ex ey
 rcases Nat.lt_or_gt_of_ne hne with h | h
 ·rw [Zb8 (by omega),Zb8 (by have:=ZdB hx hl k hk he h; omega)]
 ·rw [ZcE (by omega),ZcE (by have:=ZdB hy hl.symm k (by omega) he.symm h; omega)]
set_option maxHeartbeats 1000000 in
theorem Zdg (A A2:Option Addr) (xs ys:List Nat) (n m c c2:Nat) (w:World) (hn:xs.length=n) (hm:ys.length=m) (hX:Zae .u64 w A xs) (hY:Zae .u64 w A2 ys) (hc:xs.length≤1099511627776) (_:ys.length≤1099511627776)
 (hx:Dig W64 xs) (hy:Dig W64 ys) (tx:Trim xs) (ty:Trim ys) :
 Calls Tryz.prog 164 #[.slice A n c, .slice A2 m c2] w fun e w'=>e=.returned (.int .i64 (cmpI (val W64 xs) (val W64 ys)))∧∃ n,w'=w.drewN n:=by
 subst hn hm
 by_cases hl:xs.length=ys.length
 ·have HX:=zh hX
  have HY:=zh hY
  have HL:=zh hl
  have Hx:=zh hx
  have Hy:=zh hy
  have hne:(((xs.length:Nat):Int) != (ys.length:Nat))=false:=by simp [hl]
  clear hX hY hx hy tx ty hl
  go_enter Tryz.func164,Tryz.ntmps164
  go_wp2
  go_loopw [5] (fun i wr=>∃ k n:Nat,k≤xs.length∧i=.int .i64 ((k:Int) - 1)∧Hid (xs.drop k=ys.drop k)∧Hid (wr=w.drewN n)) (fun i _=>(intOf i + 1).toNat)
  case atStart=>exact ⟨xs.length,0,Nat.le_refl _,rfl,by unfold Hid; rw [List.drop_of_length_le (Nat.le_refl _),List.drop_of_length_le (by rw [HL.out]; exact Nat.le_refl _)],rfl⟩
  case round =>
   obtain ⟨k,n,hk,rfl,Q,hW⟩:=hrel
   obtain rfl:=hW.out
   clear hW
   by_cases hlt:0 < k
   ·obtain ⟨j,rfl⟩:∃ j,k=j + 1:=⟨k - 1,by omega⟩
    have ej:(((j + 1:Nat):Int) - 1)=(j:Int):=by omega
    rw [ej]
    clear ej
    obtain ⟨b,off,rfl,_,hcx⟩:=HX.out.at (i:=j) (by omega)
    obtain ⟨b2,off2,rfl,_,hcy⟩:=HY.out.at (i:=j) (by have:=HL.out; omega)
    obtain ⟨x,ex⟩:∃ x,xs[j]?.getD 0=x:=⟨_,rfl⟩
    obtain ⟨y,ey⟩:∃ y,ys[j]?.getD 0=y:=⟨_,rfl⟩
    rw [ex] at hcx
    rw [ey] at hcy
    have hj2:(j:Int) < (ys.length:Nat):=by have:=HL.out; omega
    have hj1:(j:Int) < (xs.length:Nat):=by omega
    by_cases hd:x=y
    ·subst hd
     have HE:Hid (xs.drop j=ys.drop j):=by
      unfold Hid
      have h1:j < xs.length:=by omega
      have h2:j < ys.length:=by have:=HL.out; omega
      rw [List.drop_eq_getElem_cons h1,List.drop_eq_getElem_cons h2,Q.out]
      rw [List.getElem?_eq_getElem h1] at ex
      rw [List.getElem?_eq_getElem h2] at ey
      simp only [Option.getD_some] at ex ey
      rw [ex,ey]
     clear ex ey Q
     go_wp2
     go_quiet (fail)
     go_wp2
     go_roundw
     case rel=>exact ⟨j,_,by omega,rfl,HE,rfl⟩
     case measure=>simp [intOf]
    ·have HC:=zh (ZhL Hx.out Hy.out HL.out (by omega) Q.out ex ey hd)
     have hd':(((x:Nat):Int) != (y:Nat))=true:=by simp; omega
     clear ex ey Q
     go_wp2
     go_quiet (fail)
     go_wp2
     go_quiet ((go_at_call 194; first | exact Calls.quiet_of_same (ZjZ _ _ _) | exact (ZjZ _ _ _).mono (fun _ _ h=>⟨h.1,_,h.2⟩)))
     go_wp2
     go_ret
     exact ⟨by rw [← HC.out]; rfl,by simp only [World.drewN_drewN]; exact ⟨_,rfl⟩⟩
   ·obtain rfl:k=0:=by omega
    have HE:xs=ys:=by simpa using Q.out
    have HC:=zh (congrArg (fun l=>cmpI (val W64 xs) (val W64 l)) HE)
    clear Q HE
    go_wp2
    go_ret
    exact ⟨by rw [← (show _=cmpI (val W64 xs) (val W64 ys) from HC.out),Zf8]; rfl,_,rfl⟩
 ·have hne:(((xs.length:Nat):Int) != (ys.length:Nat))=true:=by simp; omega
  have HC:=zh (ZkR hx hy tx ty hl)
  clear hX hY hx hy tx ty
  go_enter Tryz.func164,Tryz.ntmps164
  go_wp2_with (go_at_call 193; refine (ZpF _ _ _).mono ?_; rintro e w' ⟨rfl,rfl⟩)
  go_ret
  exact ⟨by rw [← HC.out]; rfl,0,rfl⟩
end Go.Proofs.YtklpdkpcocnglaaGreatDoor

namespace Go.Proofs.YtklpdkpcocnglaaGreatDoor
open Go.RowKit
def wl (n:Nat):Nat:=if n=0 then 0 else n.log2 / 64 + 1
theorem Zd2 (k:Nat):W64 ^ k=2 ^ (64 * k):=by rw [Nat.pow_mul,Zam]
theorem Zb1 {n k:Nat}:wl n≤k ↔ n < W64 ^ k:=by
 unfold wl
 rw [Zd2]
 split
 ·rename_i h; subst h; simp [Nat.pow_pos]
 ·rename_i h
  rw [← Nat.log2_lt h]; omega
theorem ZiD (n:Nat):n < W64 ^ wl n:=Zb1.1 (Nat.le_refl _)
theorem ZoP:wl 0=0:=rfl
theorem Zcm {a b:Nat} (h:a≤b):wl a≤wl b:=Zb1.2 (Nat.lt_of_le_of_lt h (ZiD b))
theorem ZmJ (a b:Nat):wl (a * b)≤wl a + wl b:=Zb1.2 (by rw [Nat.pow_add]; exact Nat.mul_lt_mul'' (ZiD a) (ZiD b))
theorem ZaN {xs:List Nat} (hd:Dig W64 xs) (ht:Trim xs):xs.length=wl (val W64 xs):=by
 have h1:=ZbO (n:=wl (val W64 xs)) Zc1 ht (ZiD _)
 have h2:wl (val W64 xs)≤xs.length:=Zb1.2 (ZaQ hd)
 omega
theorem ZhM {n:Nat} (h:0 < n):0 < wl n:=by
 unfold wl; rw [if_neg (by omega)]; omega
theorem ZfP {n:Nat}:wl n≤1 ↔ n < W64:=by rw [Zb1,Nat.pow_one]
def Zal (w:World) (v:Value) (n:Nat):Prop :=
 ∃ (A:Option Addr) (xs:List Nat) (c:Nat),v=.slice A xs.length c∧xs.length≤c∧Zae .u64 w A xs∧Dig W64 xs∧Trim xs∧val W64 xs=n
theorem Zal.ext {w w':World} {v:Value} {n:Nat} (h:Zal w v n) (hf:Ext w w'):Zal w' v n:=by
 obtain ⟨A,xs,c,h1,h2,h4,h5⟩:=h
 exact ⟨A,xs,c,h1,h2,h4.ext hf,h5⟩
theorem Zal.zero (w:World):Zal w (.slice none 0 0) 0:=⟨none,[],0,rfl,by simp,Zae.nil,Dig.nil,Trim.nil,rfl⟩
def Zbj (w:World) (n:Nat) (e:Ending) (w':World):Prop:=∃ v,e=.returned v∧Zal w' v n∧Ext w w'
theorem Zdo:(Tryz.prog.info? 94).map (fun i=>(i.zero,i.size,i.bytes))=some (some (.int .u64 0),1,8):=by kernel_rfl
theorem Ztd:(Tryz.prog.info? 94).map (·.size)=some 1:=by kernel_rfl
theorem Zal.of_own {w:World} {b:Nat} {xs:List Nat} (h:Own .u64 94 w b xs) (hd:Dig W64 xs) {c:Nat} (hc:xs.length≤c):Zal w (.slice (some ⟨b,0,none⟩) (ZaZ xs xs.length) c) (val W64 xs):=by
 refine ⟨_,ZaT xs,c,by rw [ZaX],by rw [ZaX]; exact Nat.le_trans (Zcz _ _) hc,h.shows0.take _,Zcb hd,Zcg xs,Za8 _ _⟩
end Go.Proofs.YtklpdkpcocnglaaGreatDoor

namespace Go.Proofs.YtklpdkpcocnglaaGreatDoor
open Go.RowKit
theorem Zt8 (w:World) (a:Option Addr) (n c:Nat):(binOp .eql 76 (.slice a n c) (.slice none 0 0)).run Tryz.prog w=.ok (.bool a.isNone) w :=
 Lib.run_eql_slice_nil w 76 94 a n c 0 0 Tryz.underlying76
def ZmK (w:World) (xs:List Nat) (e:Ending) (w':World):Prop :=
 ∃ A cap,e=.returned (.slice A xs.length cap)∧Buf .u64 94 w' A cap xs∧Ext w w'∧∀ b,ZaF A b→w.heap.size≤b
set_option maxHeartbeats 1000000 in
theorem ZcC (A:Option Addr) (xs:List Nat) (n c:Nat) (w:World) (hn:xs.length=n) (hX:Zae .u64 w A xs) (hl:n≤4294967296) :
 Calls Tryz.prog 165 #[.slice A n c] w (ZmK w xs):=by
 have HX:=zh hX
 have HN:=zh hn
 clear hX hn
 have hnil:=Zt8
 cases A with
 | none =>
   have h0:Hid (xs=[]):=by
    rcases xs with _ | ⟨y,ys⟩
    ·rfl
    ·obtain ⟨b,off,h,_⟩:=HX.out (by simp); cases h
   go_enter Tryz.func165,Tryz.ntmps165
   go_wp2
   go_ret
   rw [h0.out]
   exact ⟨none,0,rfl,Buf.nil,Fr.refl _ _,fun b hb=>by obtain ⟨a,ha,_⟩:=hb; cases ha⟩
 | some ad =>
   go_enter Tryz.func165,Tryz.ntmps165
   go_wp2_with (at_builtin
                refine Za6 rfl _ _ _ rfl _ .u64 8 Tryz.underlying76 Zdo (some ⟨w.heap.size,0,none⟩) (some ad) 0 n 0 c rfl rfl [] xs rfl HN.out ?_ (HX.out.alloc _) (by simp only [maxLen]; omega) (by omega) ?_
                ·exact Or.inr ⟨_,rfl,Own.new w _ _ [] [],⟨#[],heap_alloc_new w _,rfl⟩,Nat.le_refl _,by simp only [maxLen]; omega⟩
                intro A1 cap1 w1 hB1 hF1 hA1
                have HB1:=zh hB1
                have HF1:=zh hF1
                have HA1:=zh hA1
                clear hB1 hF1 hA1)
   go_ret
   refine ⟨A1,cap1,?_,by simpa using HB1.out,?_,?_⟩
   ·rw [HN.out]; simp
   ·refine ((Fr.refl (fun _=>False) w).alloc _).next HF1.out (fun i hi hb=>?_)
    obtain ⟨a,ha,hb⟩:=hb
    injection ha with ha
    subst ha
    simp at hb; omega
   ·intro b hb
    rcases HA1.out b hb with ⟨a,ha,h⟩ | h
    ·injection ha with ha; subst ha; simp at h; omega
    ·simp at h; omega
theorem Zal.one (w:World) {x:Nat} (h0:x≠0) (hx:x < W64):Zal (w.alloc (.cells #[.int .u64 (x:Int)] 94)) (.slice (some ⟨w.heap.size,0,none⟩) 1 1) x:=by
 have hO:Own .u64 94 (w.alloc (.cells #[.int .u64 (x:Int)] 94)) w.heap.size [x]:=Own.new w _ _ [x] []
 refine ⟨_,[x],1,rfl,Nat.le_refl _,hO.shows0,Dig.nil.cons hx,?_,by simp⟩
 intro k hk
 simp at hk
 subst hk
 simpa using h0
set_option maxHeartbeats 400000 in
theorem ZdM (x:Nat) (w:World) (hx:x < W64):Calls Tryz.prog 170 #[.int .u64 (x:Int)] w (Zbj w x):=by
 have HX:=zh hx
 clear hx
 by_cases h0:x=0
 ·subst h0
  go_enter Tryz.func170,Tryz.ntmps170
  go_wp2
  go_ret
  exact ⟨_,rfl,Zal.zero _,Fr.refl _ _⟩
 ·have h0':(((x:Nat):Int) == 0)=false:=by simp; omega
  go_enter Tryz.func170,Tryz.ntmps170
  go_wp2
  go_ret
  exact ⟨_,rfl,Zal.one w h0 HX.out,(Fr.refl _ _).alloc _⟩
end Go.Proofs.YtklpdkpcocnglaaGreatDoor
