/-
 My texts Bits, Words1, PrimeW, ShortS put together.
-/
import Derived.Test.YtenchljfmfgeoaaGreatDoorProg
import Derived.Test.YtenchljfmfgeoaaGreatDoorL00
import Derived.Test.YtenchljfmfgeoaaGreatDoorL01
import Derived.Laws.Externs
import Derived.IntWalk
set_option maxRecDepth 100000
namespace Go.Proofs.YtenchljfmfgeoaaGreatDoor
open Go.RowKit
noncomputable def W64:Nat:=Classical.choose (p:=fun n:Nat=>n=18446744073709551616) ⟨_,rfl⟩
theorem Zan:W64=18446744073709551616:=Classical.choose_spec (p:=fun n:Nat=>n=18446744073709551616) ⟨_,rfl⟩
theorem Zah:0 < W64:=by have:=Zan; omega
theorem ZcK:1 < W64:=by have:=Zan; omega
theorem Zmk:2≤W64:=by have:=Zan; omega
noncomputable def Zaw (x y c:Nat):Nat:=(x + y + c) % W64
noncomputable def ZaB (x y c:Nat):Nat:=(x + y + c) / W64
noncomputable def Zbm (x y c:Nat):Nat:=(x + W64 - y - c) % W64
def Zbn (x y c:Nat):Nat:=if x < y + c then 1 else 0
theorem ZcE (x y c:Nat):Zaw x y c + W64 * ZaB x y c=x + y + c:=by
 unfold Zaw ZaB
 exact Nat.mod_add_div _ _
theorem Zdd (x y c:Nat):Zaw x y c < W64:=Nat.mod_lt _ Zah
theorem Zf7 {x y c:Nat} (hx:x < W64) (hy:y < W64) (hc:c≤1):ZaB x y c≤1:=by
 unfold ZaB
 rw [Zan] at *
 omega
theorem ZeY {x y c:Nat} (hx:x < W64) (hy:y < W64) (hc:c≤1):Zbm x y c + y + c=x + W64 * Zbn x y c:=by
 unfold Zbm Zbn
 rw [Zan] at *
 split<;>omega
theorem Zd5 (x y c:Nat):Zbm x y c < W64:=Nat.mod_lt _ Zah
theorem Zf8 (x y c:Nat):Zbn x y c≤1:=by unfold Zbn; split<;>omega
theorem Zcv (x y c:Nat) (hc:c≤1) (w:World) :
 (callFunc 162 #[.int .u64 (x:Int), .int .u64 (y:Int), .int .u64 (c:Int)]).run Tryz.prog w=.ok (.value (.tuple #[.int .u64 (Zaw x y c:Nat), .int .u64 (ZaB x y c:Nat)])) w:=by
 rw [run_callFunc_extern (fn:=Tryz.f162) (by kernel_rfl) (by kernel_rfl) (by kernel_rfl) (by kernel_rfl) (e:=add64Entry) (by kernel_rfl),run_add64 x y c (by omega) (by omega) (by omega) (by omega)]
 simp only [Result.andThen,Zaw,ZaB,Zan]
 congr 5<;>omega
def Ziv:Array Value→Sem Value:=fun args=>do
 let (x, y, b) ← Extern.MathBitsCarry.three "Sub64" args
 pure (Extern.MathBitsCarry.pair ((x + Extern.MathBitsCarry.m64 - y - b) % Extern.MathBitsCarry.m64) (if x < y + b then 1 else 0))
theorem Zn8 {P:Program} (x y b:Nat) (hb:b≤1) (w:World) :
 (Ziv #[.int .u64 x, .int .u64 y, .int .u64 b]).run P w =
  .ok (.tuple #[.int .u64 (((x + 18446744073709551616 - y - b) % 18446744073709551616:Nat):Int), .int .u64 ((if x < y + b then 1 else 0:Nat):Int)]) w:=by
 have:b=0∨b=1:=by omega
 rcases this with rfl | rfl<;>rfl
theorem Zcw (x y c:Nat) (hc:c≤1) (w:World) :
 (callFunc 172 #[.int .u64 (x:Int), .int .u64 (y:Int), .int .u64 (c:Int)]).run Tryz.prog w=.ok (.value (.tuple #[.int .u64 (Zbm x y c:Nat), .int .u64 (Zbn x y c:Nat)])) w:=by
 rw [run_callFunc_extern (fn:=Tryz.f172) (by kernel_rfl) (by kernel_rfl) (by kernel_rfl) (by kernel_rfl) (e:=Ziv) (by kernel_rfl),Zn8 x y c hc]
 simp only [Result.andThen,Zbm,Zbn,Zan]
theorem ZeZ (x y:Nat) (w:World) :
 (callFunc 162 #[.int .u64 (x:Int), .int .u64 (y:Int), .int .u64 0]).run Tryz.prog w=.ok (.value (.tuple #[.int .u64 (Zaw x y 0:Nat), .int .u64 (ZaB x y 0:Nat)])) w:=Zcv x y 0 (by omega) w
theorem ZkH (x y:Nat) (w:World) :
 (callFunc 172 #[.int .u64 (x:Int), .int .u64 (y:Int), .int .u64 0]).run Tryz.prog w=.ok (.value (.tuple #[.int .u64 (Zbm x y 0:Nat), .int .u64 (Zbn x y 0:Nat)])) w:=Zcw x y 0 (by omega) w
end Go.Proofs.YtenchljfmfgeoaaGreatDoor

namespace Go.Proofs.YtenchljfmfgeoaaGreatDoor
open Go.RowKit
def ZaX (xs:List Nat):Nat→Nat
 | 0=>0
 | n + 1=>if xs[n]?.getD 0=0 then ZaX xs n else n + 1
theorem Zdr (xs:List Nat) (n:Nat):ZaX xs n≤n:=by
 induction n with
 | zero=>exact Nat.le_refl _
 | succ n ih=>unfold ZaX; split<;>omega
def Zba (xs:List Nat):List Nat:=xs.take (ZaX xs xs.length)
theorem ZkI (xs:List Nat) (n:Nat) (h:n≤xs.length):Trim (xs.take (ZaX xs n)):=by
 induction n with
 | zero=>intro k hk; simp [ZaX] at hk
 | succ n ih =>
   unfold ZaX
   split
   ·exact ih (by omega)
   ·rename_i hne
    intro k hk
    rw [List.length_take] at hk
    have:k=n:=by omega
    subst this
    rw [List.getElem?_take_of_lt (by omega)]
    exact hne
theorem Zck (xs:List Nat):Trim (Zba xs):=ZkI xs _ (Nat.le_refl _)
theorem ZlS (B:Nat) (xs:List Nat) (n:Nat) (h:n≤xs.length):val B (xs.take (ZaX xs n))=val B (xs.take n):=by
 induction n with
 | zero=>rfl
 | succ n ih =>
   unfold ZaX
   split
   ·rename_i h0
    rw [ih (by omega),Zay n (by omega),h0]; simp
   ·rfl
theorem Zbi (B:Nat) (xs:List Nat):val B (Zba xs)=val B xs:=by
 unfold Zba; rw [ZlS B xs _ (Nat.le_refl _),List.take_length]
theorem Zbr (xs:List Nat):(Zba xs).length=ZaX xs xs.length:=by
 unfold Zba; rw [List.length_take]; have:=Zdr xs xs.length; omega
theorem ZcF {B:Nat} {xs:List Nat} (h:Dig B xs):Dig B (Zba xs):=h.take _
set_option maxHeartbeats 400000 in
theorem ZcW (A:Option Addr) (xs:List Nat) (n c:Nat) (w:World) (hn:xs.length=n) (h:Zae .u64 w A xs) (hc:xs.length≤c) (hm:xs.length≤1099511627776) :
 Calls Tryz.prog 189 #[.slice A n c] w fun e w'=>e=.returned (.slice A (ZaX xs xs.length) c)∧w=w':=by
 subst hn
 have H:=zh h
 clear h
 go_enter Tryz.func189,Tryz.ntmps189
 go_wp2
 go_loop [3] (fun n=>∃ k:Nat,k≤xs.length∧n=.int .i64 k∧Hid (ZaX xs xs.length=ZaX xs k)) (fun n=>(intOf n).toNat)
 case atStart=>exact ⟨xs.length,Nat.le_refl _,rfl,rfl⟩
 case round =>
  obtain ⟨k,hk,rfl,hr⟩:=hrel
  by_cases hlt:0 < k
  ·obtain ⟨b,off,rfl,hb,hcl⟩:=H.out.at (i:=k - 1) (by omega)
   obtain ⟨x,hx⟩:∃ x,xs[k - 1]?.getD 0=x:=⟨_,rfl⟩
   rw [hx] at hcl
   have HX:=zh hx
   clear hx
   by_cases h0:x=0
   ·subst h0
    go_wp2
    go_round
    case rel =>
     refine ⟨k - 1,by omega,by go_num,?_⟩
     have e:=hr.out
     obtain ⟨m,rfl⟩:∃ m,k=m + 1:=⟨k - 1,by omega⟩
     rw [ZaX,if_pos (by simpa using HX.out)] at e
     exact e
    case measure=>simp [intOf]; omega
   ·have hb0:(((x:Nat):Int) == 0)=false:=by simpa using h0
    go_wp2
    go_ret
    refine ⟨?_,rfl⟩
    have e:=hr.out
    obtain ⟨m,rfl⟩:∃ m,k=m + 1:=⟨k - 1,by omega⟩
    have HX':=HX.out
    simp only [Nat.add_sub_cancel] at HX'
    rw [ZaX,if_neg (by rw [HX']; exact h0)] at e
    rw [e]; rfl
  ·obtain rfl:k=0:=by omega
   go_wp2
   go_ret
   exact ⟨by rw [hr.out]; rfl,rfl⟩
theorem set_mid (pre mid post:List Nat) (k v:Nat) (h:k < mid.length):(pre ++ mid ++ post).set (pre.length + k) v=pre ++ mid.set k v ++ post:=by
 rw [List.append_assoc,List.set_append_right _ _ (by omega),Nat.add_sub_cancel_left,List.set_append_left _ _ h,List.append_assoc]
theorem Zq7 (pre mid post:List Nat) (k:Nat) (h:k < mid.length):(pre ++ mid ++ post)[pre.length + k]?.getD 0=mid[k]?.getD 0:=by
 rw [List.append_assoc,List.getElem?_append_right (by omega),Nat.add_sub_cancel_left,List.getElem?_append_left h]
theorem ZaZ (B:Nat) (xs:List Nat) (k v:Nat) (h:k < xs.length):val B ((xs.set k v).take (k + 1))=val B (xs.take k) + B ^ k * v:=by
 rw [Zay k (by simpa using h),List.take_set_of_le (Nat.le_refl k)]
 simp [h]
def Zdf (mid ys:List Nat) (k:Nat) (m:List Nat) (c:Nat):Prop :=
 m.length=mid.length∧m.drop k=mid.drop k∧Dig W64 m∧val W64 (m.take k) + W64 ^ k * c=val W64 (mid.take k) + val W64 (ys.take k)
theorem Zdf.start (mid ys:List Nat) (h:Dig W64 mid):Zdf mid ys 0 mid 0:=⟨rfl,rfl,h,by simp⟩
theorem Zdf.at {mid ys m:List Nat} {k c:Nat} (h:Zdf mid ys k m c):m[k]?.getD 0=mid[k]?.getD 0:=by
 have:=congrArg (fun l=>l[0]?.getD 0) h.2.1
 simpa [List.getElem?_drop] using this
theorem Zdf.step {mid ys m:List Nat} {k c z y:Nat} (h:Zdf mid ys k m c) (hk:k < mid.length) (hz:m[k]?.getD 0=z) (hy:ys[k]?.getD 0=y) (hyl:k < ys.length):Zdf mid ys (k + 1) (m.set k (Zaw z y c)) (ZaB z y c):=by
 have e1:mid[k]?.getD 0=z:=h.at.symm.trans hz
 obtain ⟨h1,h2,h3,h4⟩:=h
 refine ⟨by simpa using h1,?_,h3.set k (Zdd _ _ _),?_⟩
 ·rw [List.drop_set_of_lt (by omega),← List.drop_drop,← List.drop_drop,h2]
 ·rw [ZaZ _ _ _ _ (by omega),Zay k hk,Zay k hyl,e1,hy,Nat.pow_succ]
  exact ZkF _ _ _ _ _ _ _ _ _ _ h4 (ZcE z y c)
theorem Zdf.done {mid ys m:List Nat} {k c:Nat} (h:Zdf mid ys k m c) (hk:ys.length≤k) (hkm:k≤mid.length) (hc:c=0∨k=mid.length):val W64 m + W64 ^ mid.length * c=val W64 mid + val W64 ys:=by
 obtain ⟨h1,h2,h3,h4⟩:=h
 rw [List.take_of_length_le (l:=ys) hk] at h4
 rcases hc with rfl | rfl
 ·rw [ZaT (xs:=m) k,ZaT (xs:=mid) k,h2,h1]
  simp at h4 ⊢
  omega
 ·rw [List.take_of_length_le (by omega),List.take_of_length_le (by omega)] at h4
  exact h4
theorem Own.mid {t:TypeId} {w:World} {b:Nat} {pre mid post:List Nat} (h:Own .u64 t w b (pre ++ mid ++ post)) {k:Nat} (hk:k < mid.length):w.cell? ⟨b,pre.length + k,none⟩=some (.int .u64 ((mid[k]?.getD 0:Nat):Int)):=by
 rw [h.cell (by simp; omega),Zq7 _ _ _ _ hk]
theorem Own.set_mid {t:TypeId} {w:World} {b:Nat} {pre mid post:List Nat} (h:Own .u64 t w b (pre ++ mid ++ post)) {k:Nat} (hk:k < mid.length) (v:Nat):Own .u64 t (w.setCell ⟨b,pre.length + k,none⟩ (.int .u64 (v:Int))) b (pre ++ mid.set k v ++ post):=by
 have:=h.set (pre.length + k) v (by simp; omega)
 rwa [Go.Proofs.YtenchljfmfgeoaaGreatDoor.set_mid _ _ _ _ _ hk] at this
def Zq8 (t:TypeId) (b:Nat) (pre post:List Nat) (n:Nat) (Q:List Nat→Prop) (w w':World):Prop :=
 Fr (· = b) w w'∧Zbl t b w w'∧∃ m,Own .u64 t w' b (pre ++ m ++ post)∧m.length=n∧Dig W64 m∧Q m
end Go.Proofs.YtenchljfmfgeoaaGreatDoor

namespace Go.Proofs.YtenchljfmfgeoaaGreatDoor
open Go.RowKit
end Go.Proofs.YtenchljfmfgeoaaGreatDoor

namespace Go.Proofs.YtenchljfmfgeoaaGreatDoor
open Go.RowKit
end Go.Proofs.YtenchljfmfgeoaaGreatDoor
