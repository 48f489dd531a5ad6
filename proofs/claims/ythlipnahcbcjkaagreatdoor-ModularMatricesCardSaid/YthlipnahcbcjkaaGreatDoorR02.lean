/-
 My texts Bits, Words1, PrimeW put together.
-/
import Derived.Test.YthlipnahcbcjkaaGreatDoorProg
import Derived.Test.YthlipnahcbcjkaaGreatDoorR00
import Derived.Test.YthlipnahcbcjkaaGreatDoorR01
import Derived.Laws.Externs
import Derived.IntWalk
set_option maxRecDepth 100000
namespace Go.Proofs.YthlipnahcbcjkaaGreatDoor
open Go.RowKit
noncomputable def W64:Nat:=Classical.choose (p:=fun n:Nat=>n=18446744073709551616) ⟨_,rfl⟩
theorem Zal:W64=18446744073709551616:=Classical.choose_spec (p:=fun n:Nat=>n=18446744073709551616) ⟨_,rfl⟩
theorem Zai:0 < W64:=by have:=Zal; omega
theorem ZdM:1 < W64:=by have:=Zal; omega
theorem ZlX:2≤W64:=by have:=Zal; omega
noncomputable def Zb9 (x y c:Nat):Nat:=(x + y + c) % W64
noncomputable def ZbQ (x y c:Nat):Nat:=(x + y + c) / W64
noncomputable def ZdX (x y c:Nat):Nat:=(x + W64 - y - c) % W64
def ZcL (x y c:Nat):Nat:=if x < y + c then 1 else 0
theorem Zec (x y c:Nat):Zb9 x y c + W64 * ZbQ x y c=x + y + c:=by
 unfold Zb9 ZbQ
 exact Nat.mod_add_div _ _
theorem ZeU (x y c:Nat):Zb9 x y c < W64:=Nat.mod_lt _ Zai
theorem Zh2 {x y c:Nat} (hx:x < W64) (hy:y < W64) (hc:c≤1):ZbQ x y c≤1:=by
 unfold ZbQ
 rw [Zal] at *
 omega
theorem Zf3 {x y c:Nat} (hx:x < W64) (hy:y < W64) (hc:c≤1):ZdX x y c + y + c=x + W64 * ZcL x y c:=by
 unfold ZdX ZcL
 rw [Zal] at *
 split<;>omega
theorem ZeV (x y c:Nat):ZdX x y c < W64:=Nat.mod_lt _ Zai
theorem Zh3 (x y c:Nat):ZcL x y c≤1:=by unfold ZcL; split<;>omega
theorem Zfl (x y c:Nat) (hc:c≤1) (w:World) :
 (callFunc 271 #[.int .u64 (x:Int), .int .u64 (y:Int), .int .u64 (c:Int)]).run Tryz.prog w=.ok (.value (.tuple #[.int .u64 (Zb9 x y c:Nat), .int .u64 (ZbQ x y c:Nat)])) w:=by
 rw [run_callFunc_extern (fn:=Tryz.f271) (by kernel_rfl) (by kernel_rfl) (by kernel_rfl) (by kernel_rfl) (e:=add64Entry) (by kernel_rfl),run_add64 x y c (by omega) (by omega) (by omega) (by omega)]
 simp only [Result.andThen,Zb9,ZbQ,Zal]
 congr 5<;>omega
def Ziu:Array Value→Sem Value:=fun args=>do
 let (x, y, b) ← Extern.MathBitsCarry.three "Sub64" args
 pure (Extern.MathBitsCarry.pair ((x + Extern.MathBitsCarry.m64 - y - b) % Extern.MathBitsCarry.m64) (if x < y + b then 1 else 0))
theorem ZmS {P:Program} (x y b:Nat) (hb:b≤1) (w:World) :
 (Ziu #[.int .u64 x, .int .u64 y, .int .u64 b]).run P w =
  .ok (.tuple #[.int .u64 (((x + 18446744073709551616 - y - b) % 18446744073709551616:Nat):Int), .int .u64 ((if x < y + b then 1 else 0:Nat):Int)]) w:=by
 have:b=0∨b=1:=by omega
 rcases this with rfl | rfl<;>rfl
theorem Zdc (x y c:Nat) (hc:c≤1) (w:World) :
 (callFunc 276 #[.int .u64 (x:Int), .int .u64 (y:Int), .int .u64 (c:Int)]).run Tryz.prog w=.ok (.value (.tuple #[.int .u64 (ZdX x y c:Nat), .int .u64 (ZcL x y c:Nat)])) w:=by
 rw [run_callFunc_extern (fn:=Tryz.f276) (by kernel_rfl) (by kernel_rfl) (by kernel_rfl) (by kernel_rfl) (e:=Ziu) (by kernel_rfl),ZmS x y c hc]
 simp only [Result.andThen,ZdX,ZcL,Zal]
theorem ZeW (x y:Nat) (w:World) :
 (callFunc 271 #[.int .u64 (x:Int), .int .u64 (y:Int), .int .u64 0]).run Tryz.prog w=.ok (.value (.tuple #[.int .u64 (Zb9 x y 0:Nat), .int .u64 (ZbQ x y 0:Nat)])) w:=Zfl x y 0 (by omega) w
theorem ZkC (x y:Nat) (w:World) :
 (callFunc 276 #[.int .u64 (x:Int), .int .u64 (y:Int), .int .u64 0]).run Tryz.prog w=.ok (.value (.tuple #[.int .u64 (ZdX x y 0:Nat), .int .u64 (ZcL x y 0:Nat)])) w:=Zdc x y 0 (by omega) w
end Go.Proofs.YthlipnahcbcjkaaGreatDoor

namespace Go.Proofs.YthlipnahcbcjkaaGreatDoor
open Go.RowKit
def ZbE (xs:List Nat):Nat→Nat
 | 0=>0
 | n + 1=>if xs[n]?.getD 0=0 then ZbE xs n else n + 1
theorem ZdY (xs:List Nat) (n:Nat):ZbE xs n≤n:=by
 induction n with
 | zero=>exact Nat.le_refl _
 | succ n ih=>unfold ZbE; split<;>omega
def ZaY (xs:List Nat):List Nat:=xs.take (ZbE xs xs.length)
theorem ZkD (xs:List Nat) (n:Nat) (h:n≤xs.length):Trim (xs.take (ZbE xs n)):=by
 induction n with
 | zero=>intro k hk; simp [ZbE] at hk
 | succ n ih =>
   unfold ZbE
   split
   ·exact ih (by omega)
   ·rename_i hne
    intro k hk
    rw [List.length_take] at hk
    have:k=n:=by omega
    subst this
    rw [List.getElem?_take_of_lt (by omega)]
    exact hne
theorem ZcA (xs:List Nat):Trim (ZaY xs):=ZkD xs _ (Nat.le_refl _)
theorem ZlC (B:Nat) (xs:List Nat) (n:Nat) (h:n≤xs.length):val B (xs.take (ZbE xs n))=val B (xs.take n):=by
 induction n with
 | zero=>rfl
 | succ n ih =>
   unfold ZbE
   split
   ·rename_i h0
    rw [ih (by omega),Zav n (by omega),h0]; simp
   ·rfl
theorem Za5 (B:Nat) (xs:List Nat):val B (ZaY xs)=val B xs:=by
 unfold ZaY; rw [ZlC B xs _ (Nat.le_refl _),List.take_length]
theorem Zbd (xs:List Nat):(ZaY xs).length=ZbE xs xs.length:=by
 unfold ZaY; rw [List.length_take]; have:=ZdY xs xs.length; omega
theorem Zc2 {B:Nat} {xs:List Nat} (h:Dig B xs):Dig B (ZaY xs):=h.take _
set_option maxHeartbeats 400000 in
theorem ZbA (A:Option Addr) (xs:List Nat) (n c:Nat) (w:World) (hn:xs.length=n) (h:Zan .u64 w A xs) (hc:xs.length≤c) (hm:xs.length≤1099511627776) :
 Calls Tryz.prog 223 #[.slice A n c] w fun e w'=>e=.returned (.slice A (ZbE xs xs.length) c)∧w=w':=by
 subst hn
 have H:=zh h
 clear h
 go_enter Tryz.func223,Tryz.ntmps223
 go_wp2
 go_loop [3] (fun n=>∃ k:Nat,k≤xs.length∧n=.int .i64 k∧Hid (ZbE xs xs.length=ZbE xs k)) (fun n=>(intOf n).toNat)
 case atStart=>exact ⟨xs.length,Nat.le_refl _,rfl,rfl⟩
 case round =>
  obtain ⟨k,hk,rfl,hr⟩:=hrel
  by_cases hlt:0 < k
  ·obtain ⟨b,off,rfl,hb,hcl⟩:=H.out.at (i:=k - 1) (by omega)
   obtain ⟨x,hx⟩:∃ x,xs[k - 1]?.getD 0=x:=⟨_,rfl⟩
   rw [hx] at hcl
   have HX:=zh hx
   clear hx
   by_cases h0:x=0
   ·subst h0
    go_wp2
    go_round
    case rel =>
     refine ⟨k - 1,by omega,by go_num,?_⟩
     have e:=hr.out
     obtain ⟨m,rfl⟩:∃ m,k=m + 1:=⟨k - 1,by omega⟩
     rw [ZbE,if_pos (by simpa using HX.out)] at e
     exact e
    case measure=>simp [intOf]; omega
   ·have hb0:(((x:Nat):Int) == 0)=false:=by simpa using h0
    go_wp2
    go_ret
    refine ⟨?_,rfl⟩
    have e:=hr.out
    obtain ⟨m,rfl⟩:∃ m,k=m + 1:=⟨k - 1,by omega⟩
    have HX':=HX.out
    simp only [Nat.add_sub_cancel] at HX'
    rw [ZbE,if_neg (by rw [HX']; exact h0)] at e
    rw [e]; rfl
  ·obtain rfl:k=0:=by omega
   go_wp2
   go_ret
   exact ⟨by rw [hr.out]; rfl,rfl⟩
theorem set_mid (pre mid post:List Nat) (k v:Nat) (h:k < mid.length):(pre ++ mid ++ post).set (pre.length + k) v=pre ++ mid.set k v ++ post:=by
 rw [List.append_assoc,List.set_append_right _ _ (by omega),Nat.add_sub_cancel_left,List.set_append_left _ _ h,List.append_assoc]
theorem ZoZ (pre mid post:List Nat) (k:Nat) (h:k < mid.length):(pre ++ mid ++ post)[pre.length + k]?.getD 0=mid[k]?.getD 0:=by
 rw [List.append_assoc,List.getElem?_append_right (by omega),Nat.add_sub_cancel_left,List.getElem?_append_left h]
theorem Zbl (B:Nat) (xs:List Nat) (k v:Nat) (h:k < xs.length):val B ((xs.set k v).take (k + 1))=val B (xs.take k) + B ^ k * v:=by
 rw [Zav k (by simpa using h),List.take_set_of_le (Nat.le_refl k)]
 simp [h]
def ZbT (mid ys:List Nat) (k:Nat) (m:List Nat) (c:Nat):Prop :=
 m.length=mid.length∧m.drop k=mid.drop k∧Dig W64 m∧val W64 (m.take k) + W64 ^ k * c=val W64 (mid.take k) + val W64 (ys.take k)
theorem ZbT.start (mid ys:List Nat) (h:Dig W64 mid):ZbT mid ys 0 mid 0:=⟨rfl,rfl,h,by simp⟩
theorem ZbT.at {mid ys m:List Nat} {k c:Nat} (h:ZbT mid ys k m c):m[k]?.getD 0=mid[k]?.getD 0:=by
 have:=congrArg (fun l=>l[0]?.getD 0) h.2.1
 simpa [List.getElem?_drop] using this
theorem ZbT.step {mid ys m:List Nat} {k c z y:Nat} (h:ZbT mid ys k m c) (hk:k < mid.length) (hz:m[k]?.getD 0=z) (hy:ys[k]?.getD 0=y) (hyl:k < ys.length):ZbT mid ys (k + 1) (m.set k (Zb9 z y c)) (ZbQ z y c):=by
 have e1:mid[k]?.getD 0=z:=h.at.symm.trans hz
 obtain ⟨h1,h2,h3,h4⟩:=h
 refine ⟨by simpa using h1,?_,h3.set k (ZeU _ _ _),?_⟩
 ·rw [List.drop_set_of_lt (by omega),← List.drop_drop,← List.drop_drop,h2]
 ·rw [Zbl _ _ _ _ (by omega),Zav k hk,Zav k hyl,e1,hy,Nat.pow_succ]
  exact Zkz _ _ _ _ _ _ _ _ _ _ h4 (Zec z y c)
theorem ZbT.step0 {mid ys m:List Nat} {k c z:Nat} (h:ZbT mid ys k m c) (hk:k < mid.length) (hz:m[k]?.getD 0=z) (hyl:ys.length≤k):ZbT mid ys (k + 1) (m.set k (Zb9 z 0 c)) (ZbQ z 0 c):=by
 have e1:mid[k]?.getD 0=z:=h.at.symm.trans hz
 obtain ⟨h1,h2,h3,h4⟩:=h
 refine ⟨by simpa using h1,?_,h3.set k (ZeU _ _ _),?_⟩
 ·rw [List.drop_set_of_lt (by omega),← List.drop_drop,← List.drop_drop,h2]
 ·rw [Zbl _ _ _ _ (by omega),Zav k hk,e1,Nat.pow_succ,List.take_of_length_le (l:=ys) (by omega)]
  rw [List.take_of_length_le (l:=ys) (by omega)] at h4
  have:=Zkz _ _ _ _ _ _ 0 _ _ _ h4 (Zec z 0 c)
  simpa using this
theorem ZbT.done {mid ys m:List Nat} {k c:Nat} (h:ZbT mid ys k m c) (hk:ys.length≤k) (hkm:k≤mid.length) (hc:c=0∨k=mid.length):val W64 m + W64 ^ mid.length * c=val W64 mid + val W64 ys:=by
 obtain ⟨h1,h2,h3,h4⟩:=h
 rw [List.take_of_length_le (l:=ys) hk] at h4
 rcases hc with rfl | rfl
 ·rw [ZaM (xs:=m) k,ZaM (xs:=mid) k,h2,h1]
  simp at h4 ⊢
  omega
 ·rw [List.take_of_length_le (by omega),List.take_of_length_le (by omega)] at h4
  exact h4
theorem Own.mid {t:TypeId} {w:World} {b:Nat} {pre mid post:List Nat} (h:Own .u64 t w b (pre ++ mid ++ post)) {k:Nat} (hk:k < mid.length):w.cell? ⟨b,pre.length + k,none⟩=some (.int .u64 ((mid[k]?.getD 0:Nat):Int)):=by
 rw [h.cell (by simp; omega),ZoZ _ _ _ _ hk]
theorem Own.set_mid {t:TypeId} {w:World} {b:Nat} {pre mid post:List Nat} (h:Own .u64 t w b (pre ++ mid ++ post)) {k:Nat} (hk:k < mid.length) (v:Nat):Own .u64 t (w.setCell ⟨b,pre.length + k,none⟩ (.int .u64 (v:Int))) b (pre ++ mid.set k v ++ post):=by
 have:=h.set (pre.length + k) v (by simp; omega)
 rwa [Go.Proofs.YthlipnahcbcjkaaGreatDoor.set_mid _ _ _ _ _ hk] at this
def Zhm (t:TypeId) (b:Nat) (pre post:List Nat) (n:Nat) (Q:List Nat→Prop) (w w':World):Prop :=
 Fr (· = b) w w'∧ZaH t b w w'∧∃ m,Own .u64 t w' b (pre ++ m ++ post)∧m.length=n∧Dig W64 m∧Q m
def ZoI (mid ys m:List Nat):Prop:=∃ k,val W64 m + W64 ^ mid.length * k=val W64 mid + val W64 ys
set_option maxHeartbeats 1000000 in
theorem ZhM (b c c2 off n m:Nat) (pre mid post ys:List Nat) (A:Option Addr) (w:World) (ho:pre.length=off) (hn:mid.length=n) (hym:ys.length=m) (hO:Own .u64 88 w b (pre ++ mid ++ post)) (hY:Zan .u64 w A ys) (hA:∀ a,A=some a→a.block≠b)
 (hl:ys.length≤mid.length) (hm:mid.length≤1099511627776) (hdm:Dig W64 mid) (hdy:Dig W64 ys) :
 Calls Tryz.prog 225 #[.slice (some ⟨b,off,none⟩) n c, .slice A m c2] w fun e w'=>e=.returned (.tuple #[]) ∧
  Zhm 88 b pre post mid.length (ZoI mid ys) w w':=by
 subst ho hn hym
 have HO:=zh hO
 have HY:=zh hY
 have HA:=zh hA
 have Hdm:=zh hdm
 have Hdy:=zh hdy
 clear hO hY hA hdm hdy
 go_enter Tryz.func225,Tryz.ntmps225
 go_wp2
 go_loopw [4,10] (fun cv i wr=>∃ (k cc:Nat) (m:List Nat),k≤ys.length∧i=.int .i64 k∧cc≤1∧cv=.int .u64 cc∧Hid (ZbT mid ys k m cc)∧Hid (Own .u64 88 wr b (pre ++ m ++ post))∧Hid (Fr (· = b) w wr)∧Hid (ZaH 88 b w wr)) (fun _ i _=>ys.length - (intOf i).toNat)
 case atStart=>exact ⟨0,0,mid,by omega,rfl,by omega,rfl,ZbT.start _ _ Hdm.out,HO.out,Fr.refl _ _,ZaH.refl _ _ _⟩
 case round =>
  obtain ⟨k,cc,m,hk,rfl,hcc,rfl,hR,hO1,hF1,hS1⟩:=hrel
  by_cases hlt:k < ys.length
  ·obtain ⟨b2,off2,rfl,hb2,hcy⟩:=(HY.out.fr hF1.out (fun a ha _=>HA.out a ha)).at hlt
   obtain ⟨y,hy⟩:∃ y,ys[k]?.getD 0=y:=⟨_,rfl⟩
   obtain ⟨z,hz⟩:∃ z,m[k]?.getD 0=z:=⟨_,rfl⟩
   have hkm:k < m.length:=by have:=hR.out.1; omega
   have hcz:=hO1.out.mid (k:=k) hkm
   have hfz:=hO1.out.frozen (pre.length + k)
   rw [hy] at hcy
   rw [hz] at hcz
   have HR2:=zh (hR.out.step (by omega) hz hy hlt)
   have hle:ZbQ z y cc≤1:=Zh2 (hz ▸ hR.out.2.2.1.getD Zai k) (hy ▸ Hdy.out.getD Zai k) hcc
   have ha:=Zfl z y cc hcc
   clear hy hz
   go_wp2
   go_roundw
   case rel=>exact ⟨k + 1,_,_,by omega,by go_num,hle,rfl,HR2,hO1.out.set_mid hkm _,hF1.out.setCell (Or.inl rfl) _,hS1.out.setCell _ _ _⟩
   case measure=>simp [intOf]; omega
  ·obtain rfl:k=ys.length:=by omega
   clear hlt
   go_wp2
   obtain ⟨wo,rfl⟩:∃ wo:World,wo=wr:=⟨_,rfl⟩
   go_loopw [4,7] (fun cv i wr=>∃ (k cc:Nat) (m:List Nat),ys.length≤k∧k≤mid.length∧i=.int .i64 k∧cc≤1∧cv=.int .u64 cc∧Hid (ZbT mid ys k m cc)∧Hid (Own .u64 88 wr b (pre ++ m ++ post))∧Hid (Fr (· = b) w wr)∧Hid (ZaH 88 b w wr)) (fun _ i _=>mid.length - (intOf i).toNat)
   case atStart=>exact ⟨_,cc,m,Nat.le_refl _,hl,rfl,hcc,rfl,hR,hO1,hF1,hS1⟩
   case round =>
    clear hR hO1 hF1 hS1 hcc
    obtain ⟨k,c1,m1,hk1,hk2,rfl,hcc,rfl,hR,hO1,hF1,hS1⟩:=hrel
    by_cases hgo:c1≠0∧k < mid.length
    ·obtain ⟨hc0,hlt⟩:=hgo
     obtain rfl:c1=1:=by omega
     obtain ⟨z,hz⟩:∃ z,m1[k]?.getD 0=z:=⟨_,rfl⟩
     have hkm:k < m1.length:=by have:=hR.out.1; omega
     have hcz:=hO1.out.mid (k:=k) hkm
     have hfz:=hO1.out.frozen (pre.length + k)
     rw [hz] at hcz
     have HR2:=zh (hR.out.step0 (by omega) hz hk1)
     have hle:ZbQ z 0 1≤1:=Zh2 (hz ▸ hR.out.2.2.1.getD Zai k) Zai (by omega)
     have ha:∀ w:World,(callFunc 271 #[.int .u64 (z:Int), .int .u64 0, .int .u64 1]).run Tryz.prog w=.ok (.value (.tuple #[.int .u64 (Zb9 z 0 1:Nat), .int .u64 (ZbQ z 0 1:Nat)])) w:=Zfl z 0 1 (by omega)
     clear hz
     go_wp2
     go_roundw
     case rel=>exact ⟨k + 1,_,_,by omega,by omega,by go_num,hle,rfl,HR2,hO1.out.set_mid hkm _,hF1.out.setCell (Or.inl rfl) _,hS1.out.setCell _ _ _⟩
     case measure=>simp [intOf]; omega
    ·have hd:c1=0∨k=mid.length:=by omega
     have HD:=zh (hR.out.done hk1 hk2 hd)
     have hml:=zh hR.out.1
     have hdg:=zh hR.out.2.2.1
     rcases (by omega:c1=0∨c1=1) with rfl | rfl
     ·go_wp2
      go_end0
      exact ⟨rfl,hF1.out,hS1.out,m1,hO1.out,hml.out,hdg.out,_,HD.out⟩
     ·obtain rfl:k=mid.length:=by omega
      go_wp2
      go_end0
      exact ⟨rfl,hF1.out,hS1.out,m1,hO1.out,hml.out,hdg.out,_,HD.out⟩
def Zci (mid ys:List Nat) (k:Nat) (m:List Nat) (c:Nat):Prop :=
 m.length=mid.length∧m.drop k=mid.drop k∧Dig W64 m∧val W64 (m.take k) + val W64 (ys.take k)=val W64 (mid.take k) + W64 ^ k * c
theorem Zci.start (mid ys:List Nat) (h:Dig W64 mid):Zci mid ys 0 mid 0:=⟨rfl,rfl,h,by simp⟩
theorem Zci.at {mid ys m:List Nat} {k c:Nat} (h:Zci mid ys k m c):m[k]?.getD 0=mid[k]?.getD 0:=by
 have:=congrArg (fun l=>l[0]?.getD 0) h.2.1
 simpa [List.getElem?_drop] using this
theorem Zci.step {mid ys m:List Nat} {k c z y:Nat} (h:Zci mid ys k m c) (hk:k < mid.length) (hz:m[k]?.getD 0=z) (hy:ys[k]?.getD 0=y) (hyl:k < ys.length) (hd:Dig W64 ys) (hc:c≤1):Zci mid ys (k + 1) (m.set k (ZdX z y c)) (ZcL z y c):=by
 have e1:mid[k]?.getD 0=z:=h.at.symm.trans hz
 obtain ⟨h1,h2,h3,h4⟩:=h
 have sp:=Zf3 (hz ▸ h3.getD Zai k) (hy ▸ hd.getD Zai k) hc
 refine ⟨by simpa using h1,?_,h3.set k (ZeV _ _ _),?_⟩
 ·rw [List.drop_set_of_lt (by omega),← List.drop_drop,← List.drop_drop,h2]
 ·rw [Zbl _ _ _ _ (by omega),Zav k hk,Zav k hyl,e1,hy,Nat.pow_succ]
  exact ZkA _ _ _ _ _ _ _ _ _ _ h4 sp
theorem Zci.step0 {mid ys m:List Nat} {k c z:Nat} (h:Zci mid ys k m c) (hk:k < mid.length) (hz:m[k]?.getD 0=z) (hyl:ys.length≤k) (hc:c≤1):Zci mid ys (k + 1) (m.set k (ZdX z 0 c)) (ZcL z 0 c):=by
 have e1:mid[k]?.getD 0=z:=h.at.symm.trans hz
 obtain ⟨h1,h2,h3,h4⟩:=h
 have sp:=Zf3 (hz ▸ h3.getD Zai k) Zai hc
 refine ⟨by simpa using h1,?_,h3.set k (ZeV _ _ _),?_⟩
 ·rw [List.drop_set_of_lt (by omega),← List.drop_drop,← List.drop_drop,h2]
 ·rw [Zbl _ _ _ _ (by omega),Zav k hk,e1,Nat.pow_succ,List.take_of_length_le (l:=ys) (by omega)]
  rw [List.take_of_length_le (l:=ys) (by omega)] at h4
  have:=ZkA _ _ _ _ _ _ 0 _ _ _ h4 sp
  simpa using this
theorem Zci.done {mid ys m:List Nat} {k c:Nat} (h:Zci mid ys k m c) (hk:ys.length≤k) (hkm:k≤mid.length) (hc:c=0∨k=mid.length) (hle:val W64 ys≤val W64 mid):val W64 m + val W64 ys=val W64 mid:=by
 obtain ⟨h1,h2,h3,h4⟩:=h
 rw [List.take_of_length_le (l:=ys) hk] at h4
 have hz:c=0→val W64 m + val W64 ys=val W64 mid:=by
  rintro rfl
  rw [ZaM (xs:=m) k,ZaM (xs:=mid) k,h2,h1]
  simp at h4 ⊢
  omega
 rcases hc with hc | rfl
 ·exact hz hc
 ·rw [List.take_of_length_le (by omega),List.take_of_length_le (by omega)] at h4
  rcases Nat.eq_zero_or_pos c with h0 | h0
  ·exact hz h0
  ·have hlt:=Za6 h3
   rw [h1] at hlt
   have:W64 ^ mid.length * 1≤W64 ^ mid.length * c:=Nat.mul_le_mul_left _ h0
   omega
def ZmU (mid ys m:List Nat):Prop:=val W64 m + val W64 ys=val W64 mid
set_option maxHeartbeats 1000000 in
theorem Zh4 (b c c2 off n m:Nat) (pre mid post ys:List Nat) (A:Option Addr) (w:World) (ho:pre.length=off) (hn:mid.length=n) (hym:ys.length=m) (hO:Own .u64 88 w b (pre ++ mid ++ post)) (hY:Zan .u64 w A ys) (hA:∀ a,A=some a→a.block≠b)
 (hl:ys.length≤mid.length) (hm:mid.length≤1099511627776) (hdm:Dig W64 mid) (hdy:Dig W64 ys) (hle0:val W64 ys≤val W64 mid) :
 Calls Tryz.prog 259 #[.slice (some ⟨b,off,none⟩) n c, .slice A m c2] w fun e w'=>e=.returned (.tuple #[]) ∧
  Zhm 88 b pre post mid.length (ZmU mid ys) w w':=by
 subst ho hn hym
 have HO:=zh hO
 have HY:=zh hY
 have HA:=zh hA
 have Hdm:=zh hdm
 have Hdy:=zh hdy
 clear hO hY hA hdm hdy
 go_enter Tryz.func259,Tryz.ntmps259
 go_wp2
 go_loopw [4,10] (fun cv i wr=>∃ (k cc:Nat) (m:List Nat),k≤ys.length∧i=.int .i64 k∧cc≤1∧cv=.int .u64 cc∧Hid (Zci mid ys k m cc)∧Hid (Own .u64 88 wr b (pre ++ m ++ post))∧Hid (Fr (· = b) w wr)∧Hid (ZaH 88 b w wr)) (fun _ i _=>ys.length - (intOf i).toNat)
 case atStart=>exact ⟨0,0,mid,by omega,rfl,by omega,rfl,Zci.start _ _ Hdm.out,HO.out,Fr.refl _ _,ZaH.refl _ _ _⟩
 case round =>
  obtain ⟨k,cc,m,hk,rfl,hcc,rfl,hR,hO1,hF1,hS1⟩:=hrel
  by_cases hlt:k < ys.length
  ·obtain ⟨b2,off2,rfl,hb2,hcy⟩:=(HY.out.fr hF1.out (fun a ha _=>HA.out a ha)).at hlt
   obtain ⟨y,hy⟩:∃ y,ys[k]?.getD 0=y:=⟨_,rfl⟩
   obtain ⟨z,hz⟩:∃ z,m[k]?.getD 0=z:=⟨_,rfl⟩
   have hkm:k < m.length:=by have:=hR.out.1; omega
   have hcz:=hO1.out.mid (k:=k) hkm
   have hfz:=hO1.out.frozen (pre.length + k)
   rw [hy] at hcy
   rw [hz] at hcz
   have HR2:=zh (hR.out.step (by omega) hz hy hlt Hdy.out hcc)
   have hle:ZcL z y cc≤1:=Zh3 _ _ _
   have ha:=Zdc z y cc hcc
   clear hy hz
   go_wp2
   go_roundw
   case rel=>exact ⟨k + 1,_,_,by omega,by go_num,hle,rfl,HR2,hO1.out.set_mid hkm _,hF1.out.setCell (Or.inl rfl) _,hS1.out.setCell _ _ _⟩
   case measure=>simp [intOf]; omega
  ·obtain rfl:k=ys.length:=by omega
   clear hlt
   go_wp2
   obtain ⟨wo,rfl⟩:∃ wo:World,wo=wr:=⟨_,rfl⟩
   go_loopw [4,7] (fun cv i wr=>∃ (k cc:Nat) (m:List Nat),ys.length≤k∧k≤mid.length∧i=.int .i64 k∧cc≤1∧cv=.int .u64 cc∧Hid (Zci mid ys k m cc)∧Hid (Own .u64 88 wr b (pre ++ m ++ post))∧Hid (Fr (· = b) w wr)∧Hid (ZaH 88 b w wr)) (fun _ i _=>mid.length - (intOf i).toNat)
   case atStart=>exact ⟨_,cc,m,Nat.le_refl _,hl,rfl,hcc,rfl,hR,hO1,hF1,hS1⟩
   case round =>
    clear hR hO1 hF1 hS1 hcc
    obtain ⟨k,c1,m1,hk1,hk2,rfl,hcc,rfl,hR,hO1,hF1,hS1⟩:=hrel
    by_cases hgo:c1≠0∧k < mid.length
    ·obtain ⟨hc0,hlt⟩:=hgo
     obtain rfl:c1=1:=by omega
     obtain ⟨z,hz⟩:∃ z,m1[k]?.getD 0=z:=⟨_,rfl⟩
     have hkm:k < m1.length:=by have:=hR.out.1; omega
     have hcz:=hO1.out.mid (k:=k) hkm
     have hfz:=hO1.out.frozen (pre.length + k)
     rw [hz] at hcz
     have HR2:=zh (hR.out.step0 (by omega) hz hk1 hcc)
     have hle:ZcL z 0 1≤1:=Zh3 _ _ _
     have ha:∀ w:World,(callFunc 276 #[.int .u64 (z:Int), .int .u64 0, .int .u64 1]).run Tryz.prog w=.ok (.value (.tuple #[.int .u64 (ZdX z 0 1:Nat), .int .u64 (ZcL z 0 1:Nat)])) w:=Zdc z 0 1 (by omega)
     clear hz
     go_wp2
     go_roundw
     case rel=>exact ⟨k + 1,_,_,by omega,by omega,by go_num,hle,rfl,HR2,hO1.out.set_mid hkm _,hF1.out.setCell (Or.inl rfl) _,hS1.out.setCell _ _ _⟩
     case measure=>simp [intOf]; omega
    ·have hd:c1=0∨k=mid.length:=by omega
     have HD:=zh (hR.out.done hk1 hk2 hd hle0)
     have hml:=zh hR.out.1
     have hdg:=zh hR.out.2.2.1
     rcases (by omega:c1=0∨c1=1) with rfl | rfl
     ·go_wp2
      go_end0
      exact ⟨rfl,hF1.out,hS1.out,m1,hO1.out,hml.out,hdg.out,HD.out⟩
     ·obtain rfl:k=mid.length:=by omega
      go_wp2
      go_end0
      exact ⟨rfl,hF1.out,hS1.out,m1,hO1.out,hml.out,hdg.out,HD.out⟩
end Go.Proofs.YthlipnahcbcjkaaGreatDoor

namespace Go.Proofs.YthlipnahcbcjkaaGreatDoor
open Go.RowKit
set_option maxHeartbeats 1000000 in
theorem ZfA (n:Int) (w:World):Calls Tryz.prog 126 #[.int .i64 n] w fun e w'=>e=.returned (.bool (prB n))∧w=w':=by
 rcases Int.lt_or_le n 2 with h | h2
 ·have hp:=zh (ZcJ.2 (Pr.not_lt h))
  go_enter Tryz.func126,Tryz.ntmps126
  go_wp2
  go_ret
  exact ⟨by rw [hp.out]; rfl,rfl⟩
 rcases Int.lt_or_le 2147483647 n with h | hm
 ·have hp:=zh (ZcJ.2 (Pr.not_gt h))
  have h':¬ n < 2:=by omega
  go_enter Tryz.func126,Tryz.ntmps126
  go_wp2
  go_ret
  exact ⟨by rw [hp.out]; rfl,rfl⟩
 by_cases he:n % 2=0
 ·have hp:Hid (prB n=(n == 2)):=by
   unfold Hid
   by_cases e:n=2
   ·subst e; exact ZdJ.2 Pr.two
   ·rw [ZcJ.2 (Pr.even he e)]; simp [e]
  have he':(n % 2 == 0)=true:=by simp [he]
  clear he
  go_enter Tryz.func126,Tryz.ntmps126
  go_wp2
  go_ret
  exact ⟨by rw [hp.out]; rfl,rfl⟩
 ·have he':(n % 2 == 0)=false:=by simp [he]
  have HE:=zh he
  clear he
  go_enter Tryz.func126,Tryz.ntmps126
  go_wp2
  go_loop [3] (fun v=>∃ d:Int,3≤d∧d≤46342∧v=.int .i64 d∧Hid (Zcm n d∧d % 2≠0)) (fun v=>(46344 - intOf v).toNat)
  case atStart=>exact ⟨3,by omega,by omega,rfl,Zcm.three HE.out,by omega⟩
  case round =>
   obtain ⟨d,hd1,hd2,rfl,hN⟩:=hrel
   obtain ⟨s1,s2⟩:=ZkK (d:=d) (by omega) hd2
   by_cases hlt:d * d≤n
   ·have hd3:=ZhO hm (by omega) hlt
    by_cases hz:n % d=0
    ·have hp:=zh (ZcJ.2 (Pr.not_of_dvd (by omega) hlt hz))
     have hz':(n % d == 0)=true:=by simp [hz]
     clear hz
     go_wp2
     go_ret
     exact ⟨by rw [hp.out]; rfl,rfl⟩
    ·have hz':(n % d == 0)=false:=by simp [hz]
     have HZ:=zh hz
     clear hz
     go_wp2
     go_round
     case rel=>exact ⟨d + 2,by omega,by omega,rfl,hN.out.1.next2 HZ.out HE.out hN.out.2,by have:=hN.out.2; omega⟩
     case measure=>simp [intOf]; omega
   ·have hp:=zh (ZdJ.2 (Pr.of_noDiv h2 hm hN.out.1 (by omega) (by omega)))
    go_wp2
    go_ret
    exact ⟨by rw [hp.out]; rfl,rfl⟩
set_option maxHeartbeats 1000000 in
theorem ZfN (n:Int) (w:World):Calls Tryz.prog 125 #[.int .i64 n] w fun e w'=>e=.returned (.bool (prB n))∧w=w':=by
 rcases Int.lt_or_le n 2 with h | h2
 ·have hp:=zh (ZcJ.2 (Pr.not_lt h))
  go_enter Tryz.func125,Tryz.ntmps125
  go_wp2
  go_ret
  exact ⟨by rw [hp.out]; rfl,rfl⟩
 rcases Int.lt_or_le 2147483647 n with h | hm
 ·have hp:=zh (ZcJ.2 (Pr.not_gt h))
  have h':¬ n < 2:=by omega
  go_enter Tryz.func125,Tryz.ntmps125
  go_wp2
  go_ret
  exact ⟨by rw [hp.out]; rfl,rfl⟩
 go_enter Tryz.func125,Tryz.ntmps125
 go_wp2
 go_loop [3] (fun v=>∃ d:Int,2≤d∧d≤46342∧v=.int .i64 d∧Hid (Zcm n d)) (fun v=>(46344 - intOf v).toNat)
 case atStart=>exact ⟨2,by omega,by omega,rfl,Zcm.two n⟩
 case round =>
  obtain ⟨d,hd1,hd2,rfl,hN⟩:=hrel
  obtain ⟨s1,s2⟩:=ZkK (d:=d) (by omega) hd2
  by_cases hlt:d * d≤n
  ·have hd3:=ZhO hm (by omega) hlt
   by_cases hz:n % d=0
   ·have hp:=zh (ZcJ.2 (Pr.not_of_dvd (by omega) hlt hz))
    have hz':(n % d == 0)=true:=by simp [hz]
    clear hz
    go_wp2
    go_ret
    exact ⟨by rw [hp.out]; rfl,rfl⟩
   ·have hz':(n % d == 0)=false:=by simp [hz]
    have HZ:=zh hz
    clear hz
    go_wp2
    go_round
    case rel=>exact ⟨d + 1,by omega,by omega,rfl,hN.out.next HZ.out⟩
    case measure=>simp [intOf]; omega
  ·have hp:=zh (ZdJ.2 (Pr.of_noDiv h2 hm hN.out (by omega) (by omega)))
   go_wp2
   go_ret
   exact ⟨by rw [hp.out]; rfl,rfl⟩
end Go.Proofs.YthlipnahcbcjkaaGreatDoor
