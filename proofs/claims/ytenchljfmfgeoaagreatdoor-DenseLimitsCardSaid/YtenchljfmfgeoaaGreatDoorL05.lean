/-
 My texts Words2, Nat, Nat2 put together.
-/
import Derived.Test.YtenchljfmfgeoaaGreatDoorL02
import Derived.Deep.QuietTactic
import Derived.BigQuiet
import Derived.Test.YtenchljfmfgeoaaGreatDoorL01
import Derived.Lib.SliceRun
set_option maxRecDepth 100000
namespace Go.Proofs.YtenchljfmfgeoaaGreatDoor
open Go.RowKit
def cmpI (a b:Int):Int:=if a < b then -1 else if b < a then 1 else 0
set_option maxHeartbeats 400000 in
theorem Zm7 (x y:Int) (w:World):Calls Tryz.prog 214 #[.int .i64 x, .int .i64 y] w fun e w'=>e=.returned (.int .i64 (cmpI x y))∧w'=w:=by
 go_enter Tryz.func214,Tryz.ntmps214
 go_wp2
 all_goals (go_ret; exact ⟨by simp [cmpI, *]; try omega,rfl⟩)
set_option maxHeartbeats 400000 in
theorem Ziw (x y:Int) (w:World):Calls Tryz.prog 215 #[.int .u64 x, .int .u64 y] w fun e w'=>e=.returned (.int .i64 (cmpI x y))∧w'=w:=by
 go_enter Tryz.func215,Tryz.ntmps215
 go_wp2
 all_goals (go_ret; exact ⟨by simp [cmpI, *]; try omega,rfl⟩)
theorem ZdJ {a b:Int} (h:a < b):cmpI a b = -1:=by simp [cmpI,h]
theorem Zd7 {a b:Int} (h:b < a):cmpI a b=1:=by unfold cmpI; rw [if_neg (by omega),if_pos h]
theorem ZgV (a:Int):cmpI a a=0:=by simp [cmpI]
theorem Zjh {xs ys:List Nat} (hx:Dig W64 xs) (hy:Dig W64 ys) (tx:Trim xs) (ty:Trim ys) (hl:xs.length≠ys.length):cmpI xs.length ys.length=cmpI (val W64 xs) (val W64 ys):=by
 rcases Nat.lt_or_gt_of_ne hl with h | h
 ·rw [ZdJ (by omega),ZdJ (by have:=ZdF Zah hx ty h; omega)]
 ·rw [Zd7 (by omega),Zd7 (by have:=ZdF Zah hy tx h; omega)]
theorem ZgW {xs ys:List Nat} (hx:Dig W64 xs) (hy:Dig W64 ys) (hl:xs.length=ys.length) {k x y:Nat} (hk:k < xs.length) (he:xs.drop (k + 1)=ys.drop (k + 1)) (ex:xs[k]?.getD 0=x) (ey:ys[k]?.getD 0=y) (hne:x≠y) :
 cmpI x y=cmpI (val W64 xs) (val W64 ys):=by
 subst ex ey
 rcases Nat.lt_or_gt_of_ne hne with h | h
 ·rw [ZdJ (by omega),ZdJ (by have:=Zfa hx hl k hk he h; omega)]
 ·rw [Zd7 (by omega),Zd7 (by have:=Zfa hy hl.symm k (by omega) he.symm h; omega)]
set_option maxHeartbeats 1000000 in
theorem ZcX (A A2:Option Addr) (xs ys:List Nat) (n m c c2:Nat) (w:World) (hn:xs.length=n) (hm:ys.length=m) (hX:Zae .u64 w A xs) (hY:Zae .u64 w A2 ys) (hc:xs.length≤1099511627776) (_:ys.length≤1099511627776)
 (hx:Dig W64 xs) (hy:Dig W64 ys) (tx:Trim xs) (ty:Trim ys) :
 Calls Tryz.prog 184 #[.slice A n c, .slice A2 m c2] w fun e w'=>e=.returned (.int .i64 (cmpI (val W64 xs) (val W64 ys)))∧∃ n,w'=w.drewN n:=by
 subst hn hm
 by_cases hl:xs.length=ys.length
 ·have HX:=zh hX
  have HY:=zh hY
  have HL:=zh hl
  have Hx:=zh hx
  have Hy:=zh hy
  have hne:(((xs.length:Nat):Int) != (ys.length:Nat))=false:=by simp [hl]
  clear hX hY hx hy tx ty hl
  go_enter Tryz.func184,Tryz.ntmps184
  go_wp2
  go_loopw [5] (fun i wr=>∃ k n:Nat,k≤xs.length∧i=.int .i64 ((k:Int) - 1)∧Hid (xs.drop k=ys.drop k)∧Hid (wr=w.drewN n)) (fun i _=>(intOf i + 1).toNat)
  case atStart=>exact ⟨xs.length,0,Nat.le_refl _,rfl,by unfold Hid; rw [List.drop_of_length_le (Nat.le_refl _),List.drop_of_length_le (by rw [HL.out]; exact Nat.le_refl _)],rfl⟩
  case round =>
   obtain ⟨k,n,hk,rfl,Q,hW⟩:=hrel
   obtain rfl:=hW.out
   clear hW
   by_cases hlt:0 < k
   ·obtain ⟨j,rfl⟩:∃ j,k=j + 1:=⟨k - 1,by omega⟩
    have ej:(((j + 1:Nat):Int) - 1)=(j:Int):=by omega
    rw [ej]
    clear ej
    obtain ⟨b,off,rfl,_,hcx⟩:=HX.out.at (i:=j) (by omega)
    obtain ⟨b2,off2,rfl,_,hcy⟩:=HY.out.at (i:=j) (by have:=HL.out; omega)
    obtain ⟨x,ex⟩:∃ x,xs[j]?.getD 0=x:=⟨_,rfl⟩
    obtain ⟨y,ey⟩:∃ y,ys[j]?.getD 0=y:=⟨_,rfl⟩
    rw [ex] at hcx
    rw [ey] at hcy
    have hj2:(j:Int) < (ys.length:Nat):=by have:=HL.out; omega
    have hj1:(j:Int) < (xs.length:Nat):=by omega
    by_cases hd:x=y
    ·subst hd
     have HE:Hid (xs.drop j=ys.drop j):=by
      unfold Hid
      have h1:j < xs.length:=by omega
      have h2:j < ys.length:=by have:=HL.out; omega
      rw [List.drop_eq_getElem_cons h1,List.drop_eq_getElem_cons h2,Q.out]
      rw [List.getElem?_eq_getElem h1] at ex
      rw [List.getElem?_eq_getElem h2] at ey
      simp only [Option.getD_some] at ex ey
      rw [ex,ey]
     clear ex ey Q
     go_wp2
     go_quiet (fail)
     go_wp2
     go_roundw
     case rel=>exact ⟨j,_,by omega,rfl,HE,rfl⟩
     case measure=>simp [intOf]
    ·have HC:=zh (ZgW Hx.out Hy.out HL.out (by omega) Q.out ex ey hd)
     have hd':(((x:Nat):Int) != (y:Nat))=true:=by simp; omega
     clear ex ey Q
     go_wp2
     go_quiet (fail)
     go_wp2
     go_quiet ((go_at_call 215; first | exact Calls.quiet_of_same (Ziw _ _ _) | exact (Ziw _ _ _).mono (fun _ _ h=>⟨h.1,_,h.2⟩)))
     go_wp2
     go_ret
     exact ⟨by rw [← HC.out]; rfl,by simp only [World.drewN_drewN]; exact ⟨_,rfl⟩⟩
   ·obtain rfl:k=0:=by omega
    have HE:xs=ys:=by simpa using Q.out
    have HC:=zh (congrArg (fun l=>cmpI (val W64 xs) (val W64 l)) HE)
    clear Q HE
    go_wp2
    go_ret
    exact ⟨by rw [← (show _=cmpI (val W64 xs) (val W64 ys) from HC.out),ZgV]; rfl,_,rfl⟩
 ·have hne:(((xs.length:Nat):Int) != (ys.length:Nat))=true:=by simp; omega
  have HC:=zh (Zjh hx hy tx ty hl)
  clear hX hY hx hy tx ty
  go_enter Tryz.func184,Tryz.ntmps184
  go_wp2_with (go_at_call 214; refine (Zm7 _ _ _).mono ?_; rintro e w' ⟨rfl,rfl⟩)
  go_ret
  exact ⟨by rw [← HC.out]; rfl,0,rfl⟩
end Go.Proofs.YtenchljfmfgeoaaGreatDoor

namespace Go.Proofs.YtenchljfmfgeoaaGreatDoor
open Go.RowKit
def wl (n:Nat):Nat:=if n=0 then 0 else n.log2 / 64 + 1
theorem Zds (k:Nat):W64 ^ k=2 ^ (64 * k):=by rw [Nat.pow_mul,Zan]
theorem ZbC {n k:Nat}:wl n≤k ↔ n < W64 ^ k:=by
 unfold wl
 rw [Zds]
 split
 ·rename_i h; subst h; simp [Nat.pow_pos]
 ·rename_i h
  rw [← Nat.log2_lt h]; omega
theorem ZhA (n:Nat):n < W64 ^ wl n:=ZbC.1 (Nat.le_refl _)
theorem Zml:wl 0=0:=rfl
theorem ZaU {a b:Nat} (h:a≤b):wl a≤wl b:=ZbC.2 (Nat.lt_of_le_of_lt h (ZhA b))
theorem Zer (a b:Nat):wl (a * b)≤wl a + wl b:=ZbC.2 (by rw [Nat.pow_add]; exact Nat.mul_lt_mul'' (ZhA a) (ZhA b))
theorem ZkJ {a b k:Nat} (ha:wl a≤k) (hb:wl b≤k):wl (a + b)≤k + 1:=by
 rw [ZbC] at *
 have:W64 ^ k * 2≤W64 ^ k * W64:=Nat.mul_le_mul_left _ Zmk
 rw [Nat.pow_succ]
 omega
theorem ZaE {xs:List Nat} (hd:Dig W64 xs) (ht:Trim xs):xs.length=wl (val W64 xs):=by
 have h1:=ZbY (n:=wl (val W64 xs)) ZcK ht (ZhA _)
 have h2:wl (val W64 xs)≤xs.length:=ZbC.2 (Za1 hd)
 omega
theorem ZgX {n:Nat} (h:0 < n):0 < wl n:=by
 unfold wl; rw [if_neg (by omega)]; omega
theorem ZdW {n:Nat}:wl n≤1 ↔ n < W64:=by rw [ZbC,Nat.pow_one]
def Zad (w:World) (v:Value) (n:Nat):Prop :=
 ∃ (A:Option Addr) (xs:List Nat) (c:Nat),v=.slice A xs.length c∧xs.length≤c∧Zae .u64 w A xs∧Dig W64 xs∧Trim xs∧val W64 xs=n
theorem Zad.ext {w w':World} {v:Value} {n:Nat} (h:Zad w v n) (hf:Ext w w'):Zad w' v n:=by
 obtain ⟨A,xs,c,h1,h2,h4,h5⟩:=h
 exact ⟨A,xs,c,h1,h2,h4.ext hf,h5⟩
theorem Zad.zero (w:World):Zad w (.slice none 0 0) 0:=⟨none,[],0,rfl,by simp,Zae.nil,Dig.nil,Trim.nil,rfl⟩
def Za2 (w:World) (n:Nat) (e:Ending) (w':World):Prop:=∃ v,e=.returned v∧Zad w' v n∧Ext w w'
def ZfM (w:World) (A A2:Option Addr) (n:Nat) (e:Ending) (w':World):Prop:=∃ B l c,e=.returned (.slice B l c)∧Zad w' (.slice B l c) n∧Ext w w'∧∀ a,B=some a→w.heap.size≤a.block∨B=A∨B=A2
theorem ZfM.ret {w w':World} {A A2:Option Addr} {n:Nat} {e:Ending} (h:ZfM w A A2 n e w'):Za2 w n e w':=by
 obtain ⟨B,l,c,rfl,h1,h2,_⟩:=h
 exact ⟨_,rfl,h1,h2⟩
theorem Zc3:(Tryz.prog.info? 141).map (fun i=>(i.zero,i.size,i.bytes))=some (some (.int .u64 0),1,8):=by kernel_rfl
theorem Zq9:(Tryz.prog.info? 141).map (·.size)=some 1:=by kernel_rfl
theorem Zad.of_own {w:World} {b:Nat} {xs:List Nat} (h:Own .u64 141 w b xs) (hd:Dig W64 xs) {c:Nat} (hc:xs.length≤c):Zad w (.slice (some ⟨b,0,none⟩) (ZaX xs xs.length) c) (val W64 xs):=by
 refine ⟨_,Zba xs,c,by rw [Zbr],by rw [Zbr]; exact Nat.le_trans (Zdr _ _) hc,h.shows0.take _,ZcF hd,Zck xs,Zbi _ _⟩
end Go.Proofs.YtenchljfmfgeoaaGreatDoor

namespace Go.Proofs.YtenchljfmfgeoaaGreatDoor
open Go.RowKit
theorem Zr8 (w:World) (a:Option Addr) (n c:Nat):(binOp .eql 106 (.slice a n c) (.slice none 0 0)).run Tryz.prog w=.ok (.bool a.isNone) w :=
 Lib.run_eql_slice_nil w 106 141 a n c 0 0 Tryz.underlying106
def ZkK (w:World) (xs:List Nat) (e:Ending) (w':World):Prop :=
 ∃ A cap,e=.returned (.slice A xs.length cap)∧Buf .u64 141 w' A cap xs∧Ext w w'∧∀ b,ZaC A b→w.heap.size≤b
set_option maxHeartbeats 1000000 in
theorem Zcf (A:Option Addr) (xs:List Nat) (n c:Nat) (w:World) (hn:xs.length=n) (hX:Zae .u64 w A xs) (hl:n≤4294967296) :
 Calls Tryz.prog 185 #[.slice A n c] w (ZkK w xs):=by
 have HX:=zh hX
 have HN:=zh hn
 clear hX hn
 have hnil:=Zr8
 cases A with
 | none =>
   have h0:Hid (xs=[]):=by
    rcases xs with _ | ⟨y,ys⟩
    ·rfl
    ·obtain ⟨b,off,h,_⟩:=HX.out (by simp); cases h
   go_enter Tryz.func185,Tryz.ntmps185
   go_wp2
   go_ret
   rw [h0.out]
   exact ⟨none,0,rfl,Buf.nil,Fr.refl _ _,fun b hb=>by obtain ⟨a,ha,_⟩:=hb; cases ha⟩
 | some ad =>
   go_enter Tryz.func185,Tryz.ntmps185
   go_wp2_with (at_builtin
                refine Za9 rfl _ _ _ rfl _ .u64 8 Tryz.underlying106 Zc3 (some ⟨w.heap.size,0,none⟩) (some ad) 0 n 0 c rfl rfl [] xs rfl HN.out ?_ (HX.out.alloc _) (by simp only [maxLen]; omega) (by omega) ?_
                ·exact Or.inr ⟨_,rfl,Own.new w _ _ [] [],⟨#[],heap_alloc_new w _,rfl⟩,Nat.le_refl _,by simp only [maxLen]; omega⟩
                intro A1 cap1 w1 hB1 hF1 hA1
                have HB1:=zh hB1
                have HF1:=zh hF1
                have HA1:=zh hA1
                clear hB1 hF1 hA1)
   go_ret
   refine ⟨A1,cap1,?_,by simpa using HB1.out,?_,?_⟩
   ·rw [HN.out]; simp
   ·refine ((Fr.refl (fun _=>False) w).alloc _).next HF1.out (fun i hi hb=>?_)
    obtain ⟨a,ha,hb⟩:=hb
    injection ha with ha
    subst ha
    simp at hb; omega
   ·intro b hb
    rcases HA1.out b hb with ⟨a,ha,h⟩ | h
    ·injection ha with ha; subst ha; simp at h; omega
    ·simp at h; omega
theorem Zad.one (w:World) {x:Nat} (h0:x≠0) (hx:x < W64):Zad (w.alloc (.cells #[.int .u64 (x:Int)] 141)) (.slice (some ⟨w.heap.size,0,none⟩) 1 1) x:=by
 have hO:Own .u64 141 (w.alloc (.cells #[.int .u64 (x:Int)] 141)) w.heap.size [x]:=Own.new w _ _ [x] []
 refine ⟨_,[x],1,rfl,Nat.le_refl _,hO.shows0,Dig.nil.cons hx,?_,by simp⟩
 intro k hk
 simp at hk
 subst hk
 simpa using h0
set_option maxHeartbeats 400000 in
theorem ZgN (x:Nat) (w:World) (hx:x < W64):Calls Tryz.prog 190 #[.int .u64 (x:Int)] w (ZfM w none none x):=by
 have HX:=zh hx
 clear hx
 by_cases h0:x=0
 ·subst h0
  go_enter Tryz.func190,Tryz.ntmps190
  go_wp2
  go_ret
  exact ⟨none,0,0,rfl,Zad.zero _,Fr.refl _ _,fun a h=>by cases h⟩
 ·have h0':(((x:Nat):Int) == 0)=false:=by simp; omega
  go_enter Tryz.func190,Tryz.ntmps190
  go_wp2
  go_ret
  exact ⟨_,_,_,rfl,Zad.one w h0 HX.out,(Fr.refl _ _).alloc _,fun a h=>Or.inl (by injection h with h; subst h; exact Nat.le_refl _)⟩
theorem ZdX (x:Nat) (w:World) (hx:x < W64):Calls Tryz.prog 190 #[.int .u64 (x:Int)] w (Za2 w x):=(ZgN x w hx).mono fun _ _ h=>h.ret
end Go.Proofs.YtenchljfmfgeoaaGreatDoor
