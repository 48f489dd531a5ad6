/-
 My texts Bits, Words1, PrimeW put together.
-/
import Derived.Test.YthlipnahcbcjkaaGreatDoorProg
import Derived.Test.YthlipnahcbcjkaaGreatDoorQ00
import Derived.Test.YthlipnahcbcjkaaGreatDoorQ01
import Derived.Laws.Externs
import Derived.IntWalk
set_option maxRecDepth 100000
namespace Go.Proofs.YthlipnahcbcjkaaGreatDoor
open Go.RowKit
noncomputable def W64:Nat:=Classical.choose (p:=fun n:Nat=>n=18446744073709551616) ⟨_,rfl⟩
theorem Zai:W64=18446744073709551616:=Classical.choose_spec (p:=fun n:Nat=>n=18446744073709551616) ⟨_,rfl⟩
theorem Zag:0 < W64:=by have:=Zai; omega
theorem Zdu:1 < W64:=by have:=Zai; omega
theorem Zk6:2≤W64:=by have:=Zai; omega
noncomputable def ZbX (x y c:Nat):Nat:=(x + y + c) % W64
noncomputable def ZbG (x y c:Nat):Nat:=(x + y + c) / W64
noncomputable def ZdF (x y c:Nat):Nat:=(x + W64 - y - c) % W64
def Zcv (x y c:Nat):Nat:=if x < y + c then 1 else 0
theorem ZdT (x y c:Nat):ZbX x y c + W64 * ZbG x y c=x + y + c:=by
 unfold ZbX ZbG
 exact Nat.mod_add_div _ _
theorem Zey (x y c:Nat):ZbX x y c < W64:=Nat.mod_lt _ Zag
theorem ZhB {x y c:Nat} (hx:x < W64) (hy:y < W64) (hc:c≤1):ZbG x y c≤1:=by
 unfold ZbG
 rw [Zai] at *
 omega
theorem ZfK {x y c:Nat} (hx:x < W64) (hy:y < W64) (hc:c≤1):ZdF x y c + y + c=x + W64 * Zcv x y c:=by
 unfold ZdF Zcv
 rw [Zai] at *
 split<;>omega
theorem Zez (x y c:Nat):ZdF x y c < W64:=Nat.mod_lt _ Zag
theorem ZhC (x y c:Nat):Zcv x y c≤1:=by unfold Zcv; split<;>omega
theorem Ze0 (x y c:Nat) (hc:c≤1) (w:World) :
 (callFunc 271 #[.int .u64 (x:Int), .int .u64 (y:Int), .int .u64 (c:Int)]).run Tryz.prog w=.ok (.value (.tuple #[.int .u64 (ZbX x y c:Nat), .int .u64 (ZbG x y c:Nat)])) w:=by
 rw [run_callFunc_extern (fn:=Tryz.f271) (by kernel_rfl) (by kernel_rfl) (by kernel_rfl) (by kernel_rfl) (e:=add64Entry) (by kernel_rfl),run_add64 x y c (by omega) (by omega) (by omega) (by omega)]
 simp only [Result.andThen,ZbX,ZbG,Zai]
 congr 5<;>omega
def Zh2:Array Value→Sem Value:=fun args=>do
 let (x, y, b) ← Extern.MathBitsCarry.three "Sub64" args
 pure (Extern.MathBitsCarry.pair ((x + Extern.MathBitsCarry.m64 - y - b) % Extern.MathBitsCarry.m64) (if x < y + b then 1 else 0))
theorem ZlV {P:Program} (x y b:Nat) (hb:b≤1) (w:World) :
 (Zh2 #[.int .u64 x, .int .u64 y, .int .u64 b]).run P w =
  .ok (.tuple #[.int .u64 (((x + 18446744073709551616 - y - b) % 18446744073709551616:Nat):Int), .int .u64 ((if x < y + b then 1 else 0:Nat):Int)]) w:=by
 have:b=0∨b=1:=by omega
 rcases this with rfl | rfl<;>rfl
theorem ZcT (x y c:Nat) (hc:c≤1) (w:World) :
 (callFunc 276 #[.int .u64 (x:Int), .int .u64 (y:Int), .int .u64 (c:Int)]).run Tryz.prog w=.ok (.value (.tuple #[.int .u64 (ZdF x y c:Nat), .int .u64 (Zcv x y c:Nat)])) w:=by
 rw [run_callFunc_extern (fn:=Tryz.f276) (by kernel_rfl) (by kernel_rfl) (by kernel_rfl) (by kernel_rfl) (e:=Zh2) (by kernel_rfl),ZlV x y c hc]
 simp only [Result.andThen,ZdF,Zcv,Zai]
theorem ZeA (x y:Nat) (w:World) :
 (callFunc 271 #[.int .u64 (x:Int), .int .u64 (y:Int), .int .u64 0]).run Tryz.prog w=.ok (.value (.tuple #[.int .u64 (ZbX x y 0:Nat), .int .u64 (ZbG x y 0:Nat)])) w:=Ze0 x y 0 (by omega) w
theorem ZjS (x y:Nat) (w:World) :
 (callFunc 276 #[.int .u64 (x:Int), .int .u64 (y:Int), .int .u64 0]).run Tryz.prog w=.ok (.value (.tuple #[.int .u64 (ZdF x y 0:Nat), .int .u64 (Zcv x y 0:Nat)])) w:=ZcT x y 0 (by omega) w
end Go.Proofs.YthlipnahcbcjkaaGreatDoor

namespace Go.Proofs.YthlipnahcbcjkaaGreatDoor
open Go.RowKit
def Zbw (xs:List Nat):Nat→Nat
 | 0=>0
 | n + 1=>if xs[n]?.getD 0=0 then Zbw xs n else n + 1
theorem ZdG (xs:List Nat) (n:Nat):Zbw xs n≤n:=by
 induction n with
 | zero=>exact Nat.le_refl _
 | succ n ih=>unfold Zbw; split<;>omega
def ZaO (xs:List Nat):List Nat:=xs.take (Zbw xs xs.length)
theorem ZjT (xs:List Nat) (n:Nat) (h:n≤xs.length):Trim (xs.take (Zbw xs n)):=by
 induction n with
 | zero=>intro k hk; simp [Zbw] at hk
 | succ n ih =>
   unfold Zbw
   split
   ·exact ih (by omega)
   ·rename_i hne
    intro k hk
    rw [List.length_take] at hk
    have:k=n:=by omega
    subst this
    rw [List.getElem?_take_of_lt (by omega)]
    exact hne
theorem Zcm (xs:List Nat):Trim (ZaO xs):=ZjT xs _ (Nat.le_refl _)
theorem ZkM (B:Nat) (xs:List Nat) (n:Nat) (h:n≤xs.length):val B (xs.take (Zbw xs n))=val B (xs.take n):=by
 induction n with
 | zero=>rfl
 | succ n ih =>
   unfold Zbw
   split
   ·rename_i h0
    rw [ih (by omega),Zao n (by omega),h0]; simp
   ·rfl
theorem ZaV (B:Nat) (xs:List Nat):val B (ZaO xs)=val B xs:=by
 unfold ZaO; rw [ZkM B xs _ (Nat.le_refl _),List.take_length]
theorem Za5 (xs:List Nat):(ZaO xs).length=Zbw xs xs.length:=by
 unfold ZaO; rw [List.length_take]; have:=ZdG xs xs.length; omega
theorem ZcI {B:Nat} {xs:List Nat} (h:Dig B xs):Dig B (ZaO xs):=h.take _
set_option maxHeartbeats 400000 in
theorem Zbp (A:Option Addr) (xs:List Nat) (n c:Nat) (w:World) (hn:xs.length=n) (h:Zak .u64 w A xs) (hc:xs.length≤c) (hm:xs.length≤1099511627776) :
 Calls Tryz.prog 223 #[.slice A n c] w fun e w'=>e=.returned (.slice A (Zbw xs xs.length) c)∧w=w':=by
 subst hn
 have H:=zh h
 clear h
 go_enter Tryz.func223,Tryz.ntmps223
 go_wp2
 go_loop [3] (fun n=>∃ k:Nat,k≤xs.length∧n=.int .i64 k∧Hid (Zbw xs xs.length=Zbw xs k)) (fun n=>(intOf n).toNat)
 case atStart=>exact ⟨xs.length,Nat.le_refl _,rfl,rfl⟩
 case round =>
  obtain ⟨k,hk,rfl,hr⟩:=hrel
  by_cases hlt:0 < k
  ·obtain ⟨b,off,rfl,hb,hcl⟩:=H.out.at (i:=k - 1) (by omega)
   obtain ⟨x,hx⟩:∃ x,xs[k - 1]?.getD 0=x:=⟨_,rfl⟩
   rw [hx] at hcl
   have HX:=zh hx
   clear hx
   by_cases h0:x=0
   ·subst h0
    go_wp2
    go_round
    case rel =>
     refine ⟨k - 1,by omega,by go_num,?_⟩
     have e:=hr.out
     obtain ⟨m,rfl⟩:∃ m,k=m + 1:=⟨k - 1,by omega⟩
     rw [Zbw,if_pos (by simpa using HX.out)] at e
     exact e
    case measure=>simp [intOf]; omega
   ·have hb0:(((x:Nat):Int) == 0)=false:=by simpa using h0
    go_wp2
    go_ret
    refine ⟨?_,rfl⟩
    have e:=hr.out
    obtain ⟨m,rfl⟩:∃ m,k=m + 1:=⟨k - 1,by omega⟩
    have HX':=HX.out
    simp only [Nat.add_sub_cancel] at HX'
    rw [Zbw,if_neg (by rw [HX']; exact h0)] at e
    rw [e]; rfl
  ·obtain rfl:k=0:=by omega
   go_wp2
   go_ret
   exact ⟨by rw [hr.out]; rfl,rfl⟩
theorem set_mid (pre mid post:List Nat) (k v:Nat) (h:k < mid.length):(pre ++ mid ++ post).set (pre.length + k) v=pre ++ mid.set k v ++ post:=by
 rw [List.append_assoc,List.set_append_right _ _ (by omega),Nat.add_sub_cancel_left,List.set_append_left _ _ h,List.append_assoc]
theorem Zn6 (pre mid post:List Nat) (k:Nat) (h:k < mid.length):(pre ++ mid ++ post)[pre.length + k]?.getD 0=mid[k]?.getD 0:=by
 rw [List.append_assoc,List.getElem?_append_right (by omega),Nat.add_sub_cancel_left,List.getElem?_append_left h]
theorem Zbc (B:Nat) (xs:List Nat) (k v:Nat) (h:k < xs.length):val B ((xs.set k v).take (k + 1))=val B (xs.take k) + B ^ k * v:=by
 rw [Zao k (by simpa using h),List.take_set_of_le (Nat.le_refl k)]
 simp [h]
def ZbJ (mid ys:List Nat) (k:Nat) (m:List Nat) (c:Nat):Prop :=
 m.length=mid.length∧m.drop k=mid.drop k∧Dig W64 m∧val W64 (m.take k) + W64 ^ k * c=val W64 (mid.take k) + val W64 (ys.take k)
theorem ZbJ.start (mid ys:List Nat) (h:Dig W64 mid):ZbJ mid ys 0 mid 0:=⟨rfl,rfl,h,by simp⟩
theorem ZbJ.at {mid ys m:List Nat} {k c:Nat} (h:ZbJ mid ys k m c):m[k]?.getD 0=mid[k]?.getD 0:=by
 have:=congrArg (fun l=>l[0]?.getD 0) h.2.1
 simpa [List.getElem?_drop] using this
theorem ZbJ.step {mid ys m:List Nat} {k c z y:Nat} (h:ZbJ mid ys k m c) (hk:k < mid.length) (hz:m[k]?.getD 0=z) (hy:ys[k]?.getD 0=y) (hyl:k < ys.length):ZbJ mid ys (k + 1) (m.set k (ZbX z y c)) (ZbG z y c):=by
 have e1:mid[k]?.getD 0=z:=h.at.symm.trans hz
 obtain ⟨h1,h2,h3,h4⟩:=h
 refine ⟨by simpa using h1,?_,h3.set k (Zey _ _ _),?_⟩
 ·rw [List.drop_set_of_lt (by omega),← List.drop_drop,← List.drop_drop,h2]
 ·rw [Zbc _ _ _ _ (by omega),Zao k hk,Zao k hyl,e1,hy,Nat.pow_succ]
  exact ZjP _ _ _ _ _ _ _ _ _ _ h4 (ZdT z y c)
theorem ZbJ.step0 {mid ys m:List Nat} {k c z:Nat} (h:ZbJ mid ys k m c) (hk:k < mid.length) (hz:m[k]?.getD 0=z) (hyl:ys.length≤k):ZbJ mid ys (k + 1) (m.set k (ZbX z 0 c)) (ZbG z 0 c):=by
 have e1:mid[k]?.getD 0=z:=h.at.symm.trans hz
 obtain ⟨h1,h2,h3,h4⟩:=h
 refine ⟨by simpa using h1,?_,h3.set k (Zey _ _ _),?_⟩
 ·rw [List.drop_set_of_lt (by omega),← List.drop_drop,← List.drop_drop,h2]
 ·rw [Zbc _ _ _ _ (by omega),Zao k hk,e1,Nat.pow_succ,List.take_of_length_le (l:=ys) (by omega)]
  rw [List.take_of_length_le (l:=ys) (by omega)] at h4
  have:=ZjP _ _ _ _ _ _ 0 _ _ _ h4 (ZdT z 0 c)
  simpa using this
theorem ZbJ.done {mid ys m:List Nat} {k c:Nat} (h:ZbJ mid ys k m c) (hk:ys.length≤k) (hkm:k≤mid.length) (hc:c=0∨k=mid.length):val W64 m + W64 ^ mid.length * c=val W64 mid + val W64 ys:=by
 obtain ⟨h1,h2,h3,h4⟩:=h
 rw [List.take_of_length_le (l:=ys) hk] at h4
 rcases hc with rfl | rfl
 ·rw [ZaG (xs:=m) k,ZaG (xs:=mid) k,h2,h1]
  simp at h4 ⊢
  omega
 ·rw [List.take_of_length_le (by omega),List.take_of_length_le (by omega)] at h4
  exact h4
theorem Own.mid {t:TypeId} {w:World} {b:Nat} {pre mid post:List Nat} (h:Own .u64 t w b (pre ++ mid ++ post)) {k:Nat} (hk:k < mid.length):w.cell? ⟨b,pre.length + k,none⟩=some (.int .u64 ((mid[k]?.getD 0:Nat):Int)):=by
 rw [h.cell (by simp; omega),Zn6 _ _ _ _ hk]
theorem Own.set_mid {t:TypeId} {w:World} {b:Nat} {pre mid post:List Nat} (h:Own .u64 t w b (pre ++ mid ++ post)) {k:Nat} (hk:k < mid.length) (v:Nat):Own .u64 t (w.setCell ⟨b,pre.length + k,none⟩ (.int .u64 (v:Int))) b (pre ++ mid.set k v ++ post):=by
 have:=h.set (pre.length + k) v (by simp; omega)
 rwa [Go.Proofs.YthlipnahcbcjkaaGreatDoor.set_mid _ _ _ _ _ hk] at this
def ZgY (t:TypeId) (b:Nat) (pre post:List Nat) (n:Nat) (Q:List Nat→Prop) (w w':World):Prop :=
 Fr (· = b) w w'∧ZaC t b w w'∧∃ m,Own .u64 t w' b (pre ++ m ++ post)∧m.length=n∧Dig W64 m∧Q m
def ZnR (mid ys m:List Nat):Prop:=∃ k,val W64 m + W64 ^ mid.length * k=val W64 mid + val W64 ys
set_option maxHeartbeats 1000000 in
theorem Zho (b c c2 off n m:Nat) (pre mid post ys:List Nat) (A:Option Addr) (w:World) (ho:pre.length=off) (hn:mid.length=n) (hym:ys.length=m) (hO:Own .u64 88 w b (pre ++ mid ++ post)) (hY:Zak .u64 w A ys) (hA:∀ a,A=some a→a.block≠b)
 (hl:ys.length≤mid.length) (hm:mid.length≤1099511627776) (hdm:Dig W64 mid) (hdy:Dig W64 ys) :
 Calls Tryz.prog 225 #[.slice (some ⟨b,off,none⟩) n c, .slice A m c2] w fun e w'=>e=.returned (.tuple #[]) ∧
  ZgY 88 b pre post mid.length (ZnR mid ys) w w':=by
 subst ho hn hym
 have HO:=zh hO
 have HY:=zh hY
 have HA:=zh hA
 have Hdm:=zh hdm
 have Hdy:=zh hdy
 clear hO hY hA hdm hdy
 go_enter Tryz.func225,Tryz.ntmps225
 go_wp2
 go_loopw [4,10] (fun cv i wr=>∃ (k cc:Nat) (m:List Nat),k≤ys.length∧i=.int .i64 k∧cc≤1∧cv=.int .u64 cc∧Hid (ZbJ mid ys k m cc)∧Hid (Own .u64 88 wr b (pre ++ m ++ post))∧Hid (Fr (· = b) w wr)∧Hid (ZaC 88 b w wr)) (fun _ i _=>ys.length - (intOf i).toNat)
 case atStart=>exact ⟨0,0,mid,by omega,rfl,by omega,rfl,ZbJ.start _ _ Hdm.out,HO.out,Fr.refl _ _,ZaC.refl _ _ _⟩
 case round =>
  obtain ⟨k,cc,m,hk,rfl,hcc,rfl,hR,hO1,hF1,hS1⟩:=hrel
  by_cases hlt:k < ys.length
  ·obtain ⟨b2,off2,rfl,hb2,hcy⟩:=(HY.out.fr hF1.out (fun a ha _=>HA.out a ha)).at hlt
   obtain ⟨y,hy⟩:∃ y,ys[k]?.getD 0=y:=⟨_,rfl⟩
   obtain ⟨z,hz⟩:∃ z,m[k]?.getD 0=z:=⟨_,rfl⟩
   have hkm:k < m.length:=by have:=hR.out.1; omega
   have hcz:=hO1.out.mid (k:=k) hkm
   have hfz:=hO1.out.frozen (pre.length + k)
   rw [hy] at hcy
   rw [hz] at hcz
   have HR2:=zh (hR.out.step (by omega) hz hy hlt)
   have hle:ZbG z y cc≤1:=ZhB (hz ▸ hR.out.2.2.1.getD Zag k) (hy ▸ Hdy.out.getD Zag k) hcc
   have ha:=Ze0 z y cc hcc
   clear hy hz
   go_wp2
   go_roundw
   case rel=>exact ⟨k + 1,_,_,by omega,by go_num,hle,rfl,HR2,hO1.out.set_mid hkm _,hF1.out.setCell (Or.inl rfl) _,hS1.out.setCell _ _ _⟩
   case measure=>simp [intOf]; omega
  ·obtain rfl:k=ys.length:=by omega
   clear hlt
   go_wp2
   obtain ⟨wo,rfl⟩:∃ wo:World,wo=wr:=⟨_,rfl⟩
   go_loopw [4,7] (fun cv i wr=>∃ (k cc:Nat) (m:List Nat),ys.length≤k∧k≤mid.length∧i=.int .i64 k∧cc≤1∧cv=.int .u64 cc∧Hid (ZbJ mid ys k m cc)∧Hid (Own .u64 88 wr b (pre ++ m ++ post))∧Hid (Fr (· = b) w wr)∧Hid (ZaC 88 b w wr)) (fun _ i _=>mid.length - (intOf i).toNat)
   case atStart=>exact ⟨_,cc,m,Nat.le_refl _,hl,rfl,hcc,rfl,hR,hO1,hF1,hS1⟩
   case round =>
    clear hR hO1 hF1 hS1 hcc
    obtain ⟨k,c1,m1,hk1,hk2,rfl,hcc,rfl,hR,hO1,hF1,hS1⟩:=hrel
    by_cases hgo:c1≠0∧k < mid.length
    ·obtain ⟨hc0,hlt⟩:=hgo
     obtain rfl:c1=1:=by omega
     obtain ⟨z,hz⟩:∃ z,m1[k]?.getD 0=z:=⟨_,rfl⟩
     have hkm:k < m1.length:=by have:=hR.out.1; omega
     have hcz:=hO1.out.mid (k:=k) hkm
     have hfz:=hO1.out.frozen (pre.length + k)
     rw [hz] at hcz
     have HR2:=zh (hR.out.step0 (by omega) hz hk1)
     have hle:ZbG z 0 1≤1:=ZhB (hz ▸ hR.out.2.2.1.getD Zag k) Zag (by omega)
     have ha:∀ w:World,(callFunc 271 #[.int .u64 (z:Int), .int .u64 0, .int .u64 1]).run Tryz.prog w=.ok (.value (.tuple #[.int .u64 (ZbX z 0 1:Nat), .int .u64 (ZbG z 0 1:Nat)])) w:=Ze0 z 0 1 (by omega)
     clear hz
     go_wp2
     go_roundw
     case rel=>exact ⟨k + 1,_,_,by omega,by omega,by go_num,hle,rfl,HR2,hO1.out.set_mid hkm _,hF1.out.setCell (Or.inl rfl) _,hS1.out.setCell _ _ _⟩
     case measure=>simp [intOf]; omega
    ·have hd:c1=0∨k=mid.length:=by omega
     have HD:=zh (hR.out.done hk1 hk2 hd)
     have hml:=zh hR.out.1
     have hdg:=zh hR.out.2.2.1
     rcases (by omega:c1=0∨c1=1) with rfl | rfl
     ·go_wp2
      go_end0
      exact ⟨rfl,hF1.out,hS1.out,m1,hO1.out,hml.out,hdg.out,_,HD.out⟩
     ·obtain rfl:k=mid.length:=by omega
      go_wp2
      go_end0
      exact ⟨rfl,hF1.out,hS1.out,m1,hO1.out,hml.out,hdg.out,_,HD.out⟩
def Zb5 (mid ys:List Nat) (k:Nat) (m:List Nat) (c:Nat):Prop :=
 m.length=mid.length∧m.drop k=mid.drop k∧Dig W64 m∧val W64 (m.take k) + val W64 (ys.take k)=val W64 (mid.take k) + W64 ^ k * c
theorem Zb5.start (mid ys:List Nat) (h:Dig W64 mid):Zb5 mid ys 0 mid 0:=⟨rfl,rfl,h,by simp⟩
theorem Zb5.at {mid ys m:List Nat} {k c:Nat} (h:Zb5 mid ys k m c):m[k]?.getD 0=mid[k]?.getD 0:=by
 have:=congrArg (fun l=>l[0]?.getD 0) h.2.1
 simpa [List.getElem?_drop] using this
theorem Zb5.step {mid ys m:List Nat} {k c z y:Nat} (h:Zb5 mid ys k m c) (hk:k < mid.length) (hz:m[k]?.getD 0=z) (hy:ys[k]?.getD 0=y) (hyl:k < ys.length) (hd:Dig W64 ys) (hc:c≤1):Zb5 mid ys (k + 1) (m.set k (ZdF z y c)) (Zcv z y c):=by
 have e1:mid[k]?.getD 0=z:=h.at.symm.trans hz
 obtain ⟨h1,h2,h3,h4⟩:=h
 have sp:=ZfK (hz ▸ h3.getD Zag k) (hy ▸ hd.getD Zag k) hc
 refine ⟨by simpa using h1,?_,h3.set k (Zez _ _ _),?_⟩
 ·rw [List.drop_set_of_lt (by omega),← List.drop_drop,← List.drop_drop,h2]
 ·rw [Zbc _ _ _ _ (by omega),Zao k hk,Zao k hyl,e1,hy,Nat.pow_succ]
  exact ZjQ _ _ _ _ _ _ _ _ _ _ h4 sp
theorem Zb5.step0 {mid ys m:List Nat} {k c z:Nat} (h:Zb5 mid ys k m c) (hk:k < mid.length) (hz:m[k]?.getD 0=z) (hyl:ys.length≤k) (hc:c≤1):Zb5 mid ys (k + 1) (m.set k (ZdF z 0 c)) (Zcv z 0 c):=by
 have e1:mid[k]?.getD 0=z:=h.at.symm.trans hz
 obtain ⟨h1,h2,h3,h4⟩:=h
 have sp:=ZfK (hz ▸ h3.getD Zag k) Zag hc
 refine ⟨by simpa using h1,?_,h3.set k (Zez _ _ _),?_⟩
 ·rw [List.drop_set_of_lt (by omega),← List.drop_drop,← List.drop_drop,h2]
 ·rw [Zbc _ _ _ _ (by omega),Zao k hk,e1,Nat.pow_succ,List.take_of_length_le (l:=ys) (by omega)]
  rw [List.take_of_length_le (l:=ys) (by omega)] at h4
  have:=ZjQ _ _ _ _ _ _ 0 _ _ _ h4 sp
  simpa using this
theorem Zb5.done {mid ys m:List Nat} {k c:Nat} (h:Zb5 mid ys k m c) (hk:ys.length≤k) (hkm:k≤mid.length) (hc:c=0∨k=mid.length) (hle:val W64 ys≤val W64 mid):val W64 m + val W64 ys=val W64 mid:=by
 obtain ⟨h1,h2,h3,h4⟩:=h
 rw [List.take_of_length_le (l:=ys) hk] at h4
 have hz:c=0→val W64 m + val W64 ys=val W64 mid:=by
  rintro rfl
  rw [ZaG (xs:=m) k,ZaG (xs:=mid) k,h2,h1]
  simp at h4 ⊢
  omega
 rcases hc with hc | rfl
 ·exact hz hc
 ·rw [List.take_of_length_le (by omega),List.take_of_length_le (by omega)] at h4
  rcases Nat.eq_zero_or_pos c with h0 | h0
  ·exact hz h0
  ·have hlt:=ZaW h3
   rw [h1] at hlt
   have:W64 ^ mid.length * 1≤W64 ^ mid.length * c:=Nat.mul_le_mul_left _ h0
   omega
def ZlX (mid ys m:List Nat):Prop:=val W64 m + val W64 ys=val W64 mid
set_option maxHeartbeats 1000000 in
theorem ZhD (b c c2 off n m:Nat) (pre mid post ys:List Nat) (A:Option Addr) (w:World) (ho:pre.length=off) (hn:mid.length=n) (hym:ys.length=m) (hO:Own .u64 88 w b (pre ++ mid ++ post)) (hY:Zak .u64 w A ys) (hA:∀ a,A=some a→a.block≠b)
 (hl:ys.length≤mid.length) (hm:mid.length≤1099511627776) (hdm:Dig W64 mid) (hdy:Dig W64 ys) (hle0:val W64 ys≤val W64 mid) :
 Calls Tryz.prog 259 #[.slice (some ⟨b,off,none⟩) n c, .slice A m c2] w fun e w'=>e=.returned (.tuple #[]) ∧
  ZgY 88 b pre post mid.length (ZlX mid ys) w w':=by
 subst ho hn hym
 have HO:=zh hO
 have HY:=zh hY
 have HA:=zh hA
 have Hdm:=zh hdm
 have Hdy:=zh hdy
 clear hO hY hA hdm hdy
 go_enter Tryz.func259,Tryz.ntmps259
 go_wp2
 go_loopw [4,10] (fun cv i wr=>∃ (k cc:Nat) (m:List Nat),k≤ys.length∧i=.int .i64 k∧cc≤1∧cv=.int .u64 cc∧Hid (Zb5 mid ys k m cc)∧Hid (Own .u64 88 wr b (pre ++ m ++ post))∧Hid (Fr (· = b) w wr)∧Hid (ZaC 88 b w wr)) (fun _ i _=>ys.length - (intOf i).toNat)
 case atStart=>exact ⟨0,0,mid,by omega,rfl,by omega,rfl,Zb5.start _ _ Hdm.out,HO.out,Fr.refl _ _,ZaC.refl _ _ _⟩
 case round =>
  obtain ⟨k,cc,m,hk,rfl,hcc,rfl,hR,hO1,hF1,hS1⟩:=hrel
  by_cases hlt:k < ys.length
  ·obtain ⟨b2,off2,rfl,hb2,hcy⟩:=(HY.out.fr hF1.out (fun a ha _=>HA.out a ha)).at hlt
   obtain ⟨y,hy⟩:∃ y,ys[k]?.getD 0=y:=⟨_,rfl⟩
   obtain ⟨z,hz⟩:∃ z,m[k]?.getD 0=z:=⟨_,rfl⟩
   have hkm:k < m.length:=by have:=hR.out.1; omega
   have hcz:=hO1.out.mid (k:=k) hkm
   have hfz:=hO1.out.frozen (pre.length + k)
   rw [hy] at hcy
   rw [hz] at hcz
   have HR2:=zh (hR.out.step (by omega) hz hy hlt Hdy.out hcc)
   have hle:Zcv z y cc≤1:=ZhC _ _ _
   have ha:=ZcT z y cc hcc
   clear hy hz
   go_wp2
   go_roundw
   case rel=>exact ⟨k + 1,_,_,by omega,by go_num,hle,rfl,HR2,hO1.out.set_mid hkm _,hF1.out.setCell (Or.inl rfl) _,hS1.out.setCell _ _ _⟩
   case measure=>simp [intOf]; omega
  ·obtain rfl:k=ys.length:=by omega
   clear hlt
   go_wp2
   obtain ⟨wo,rfl⟩:∃ wo:World,wo=wr:=⟨_,rfl⟩
   go_loopw [4,7] (fun cv i wr=>∃ (k cc:Nat) (m:List Nat),ys.length≤k∧k≤mid.length∧i=.int .i64 k∧cc≤1∧cv=.int .u64 cc∧Hid (Zb5 mid ys k m cc)∧Hid (Own .u64 88 wr b (pre ++ m ++ post))∧Hid (Fr (· = b) w wr)∧Hid (ZaC 88 b w wr)) (fun _ i _=>mid.length - (intOf i).toNat)
   case atStart=>exact ⟨_,cc,m,Nat.le_refl _,hl,rfl,hcc,rfl,hR,hO1,hF1,hS1⟩
   case round =>
    clear hR hO1 hF1 hS1 hcc
    obtain ⟨k,c1,m1,hk1,hk2,rfl,hcc,rfl,hR,hO1,hF1,hS1⟩:=hrel
    by_cases hgo:c1≠0∧k < mid.length
    ·obtain ⟨hc0,hlt⟩:=hgo
     obtain rfl:c1=1:=by omega
     obtain ⟨z,hz⟩:∃ z,m1[k]?.getD 0=z:=⟨_,rfl⟩
     have hkm:k < m1.length:=by have:=hR.out.1; omega
     have hcz:=hO1.out.mid (k:=k) hkm
     have hfz:=hO1.out.frozen (pre.length + k)
     rw [hz] at hcz
     have HR2:=zh (hR.out.step0 (by omega) hz hk1 hcc)
     have hle:Zcv z 0 1≤1:=ZhC _ _ _
     have ha:∀ w:World,(callFunc 276 #[.int .u64 (z:Int), .int .u64 0, .int .u64 1]).run Tryz.prog w=.ok (.value (.tuple #[.int .u64 (ZdF z 0 1:Nat), .int .u64 (Zcv z 0 1:Nat)])) w:=ZcT z 0 1 (by omega)
     clear hz
     go_wp2
     go_roundw
     case rel=>exact ⟨k + 1,_,_,by omega,by omega,by go_num,hle,rfl,HR2,hO1.out.set_mid hkm _,hF1.out.setCell (Or.inl rfl) _,hS1.out.setCell _ _ _⟩
     case measure=>simp [intOf]; omega
    ·have hd:c1=0∨k=mid.length:=by omega
     have HD:=zh (hR.out.done hk1 hk2 hd hle0)
     have hml:=zh hR.out.1
     have hdg:=zh hR.out.2.2.1
     rcases (by omega:c1=0∨c1=1) with rfl | rfl
     ·go_wp2
      go_end0
      exact ⟨rfl,hF1.out,hS1.out,m1,hO1.out,hml.out,hdg.out,HD.out⟩
     ·obtain rfl:k=mid.length:=by omega
      go_wp2
      go_end0
      exact ⟨rfl,hF1.out,hS1.out,m1,hO1.out,hml.out,hdg.out,HD.out⟩
end Go.Proofs.YthlipnahcbcjkaaGreatDoor

namespace Go.Proofs.YthlipnahcbcjkaaGreatDoor
open Go.RowKit
set_option maxHeartbeats 1000000 in
theorem Zfg (n:Int) (w:World):Calls Tryz.prog 126 #[.int .i64 n] w fun e w'=>e=.returned (.bool (prB n))∧w=w':=by
 rcases Int.lt_or_le n 2 with h | h2
 ·have hp:=zh (Zcd.2 (Pr.not_lt h))
  go_enter Tryz.func126,Tryz.ntmps126
  go_wp2
  go_ret
  exact ⟨by rw [hp.out]; rfl,rfl⟩
 rcases Int.lt_or_le 2147483647 n with h | hm
 ·have hp:=zh (Zcd.2 (Pr.not_gt h))
  have h':¬ n < 2:=by omega
  go_enter Tryz.func126,Tryz.ntmps126
  go_wp2
  go_ret
  exact ⟨by rw [hp.out]; rfl,rfl⟩
 by_cases he:n % 2=0
 ·have hp:Hid (prB n=(n == 2)):=by
   unfold Hid
   by_cases e:n=2
   ·subst e; exact ZcV.2 Pr.two
   ·rw [Zcd.2 (Pr.even he e)]; simp [e]
  have he':(n % 2 == 0)=true:=by simp [he]
  clear he
  go_enter Tryz.func126,Tryz.ntmps126
  go_wp2
  go_ret
  exact ⟨by rw [hp.out]; rfl,rfl⟩
 ·have he':(n % 2 == 0)=false:=by simp [he]
  have HE:=zh he
  clear he
  go_enter Tryz.func126,Tryz.ntmps126
  go_wp2
  go_loop [3] (fun v=>∃ d:Int,3≤d∧d≤46342∧v=.int .i64 d∧Hid (ZbM n d∧d % 2≠0)) (fun v=>(46344 - intOf v).toNat)
  case atStart=>exact ⟨3,by omega,by omega,rfl,ZbM.three HE.out,by omega⟩
  case round =>
   obtain ⟨d,hd1,hd2,rfl,hN⟩:=hrel
   obtain ⟨s1,s2⟩:=Zj0 (d:=d) (by omega) hd2
   by_cases hlt:d * d≤n
   ·have hd3:=Zff hm (by omega) hlt
    by_cases hz:n % d=0
    ·have hp:=zh (Zcd.2 (Pr.not_of_dvd (by omega) hlt hz))
     have hz':(n % d == 0)=true:=by simp [hz]
     clear hz
     go_wp2
     go_ret
     exact ⟨by rw [hp.out]; rfl,rfl⟩
    ·have hz':(n % d == 0)=false:=by simp [hz]
     have HZ:=zh hz
     clear hz
     go_wp2
     go_round
     case rel=>exact ⟨d + 2,by omega,by omega,rfl,hN.out.1.next2 HZ.out HE.out hN.out.2,by have:=hN.out.2; omega⟩
     case measure=>simp [intOf]; omega
   ·have hp:=zh (ZcV.2 (Pr.of_noDiv h2 hm hN.out.1 (by omega) (by omega)))
    go_wp2
    go_ret
    exact ⟨by rw [hp.out]; rfl,rfl⟩
set_option maxHeartbeats 1000000 in
theorem Zft (n:Int) (w:World):Calls Tryz.prog 125 #[.int .i64 n] w fun e w'=>e=.returned (.bool (prB n))∧w=w':=by
 rcases Int.lt_or_le n 2 with h | h2
 ·have hp:=zh (Zcd.2 (Pr.not_lt h))
  go_enter Tryz.func125,Tryz.ntmps125
  go_wp2
  go_ret
  exact ⟨by rw [hp.out]; rfl,rfl⟩
 rcases Int.lt_or_le 2147483647 n with h | hm
 ·have hp:=zh (Zcd.2 (Pr.not_gt h))
  have h':¬ n < 2:=by omega
  go_enter Tryz.func125,Tryz.ntmps125
  go_wp2
  go_ret
  exact ⟨by rw [hp.out]; rfl,rfl⟩
 go_enter Tryz.func125,Tryz.ntmps125
 go_wp2
 go_loop [3] (fun v=>∃ d:Int,2≤d∧d≤46342∧v=.int .i64 d∧Hid (ZbM n d)) (fun v=>(46344 - intOf v).toNat)
 case atStart=>exact ⟨2,by omega,by omega,rfl,ZbM.two n⟩
 case round =>
  obtain ⟨d,hd1,hd2,rfl,hN⟩:=hrel
  obtain ⟨s1,s2⟩:=Zj0 (d:=d) (by omega) hd2
  by_cases hlt:d * d≤n
  ·have hd3:=Zff hm (by omega) hlt
   by_cases hz:n % d=0
   ·have hp:=zh (Zcd.2 (Pr.not_of_dvd (by omega) hlt hz))
    have hz':(n % d == 0)=true:=by simp [hz]
    clear hz
    go_wp2
    go_ret
    exact ⟨by rw [hp.out]; rfl,rfl⟩
   ·have hz':(n % d == 0)=false:=by simp [hz]
    have HZ:=zh hz
    clear hz
    go_wp2
    go_round
    case rel=>exact ⟨d + 1,by omega,by omega,rfl,hN.out.next HZ.out⟩
    case measure=>simp [intOf]; omega
  ·have hp:=zh (ZcV.2 (Pr.of_noDiv h2 hm hN.out (by omega) (by omega)))
   go_wp2
   go_ret
   exact ⟨by rw [hp.out]; rfl,rfl⟩
def ZoZ (n:Int) (w:World) (e:Ending) (w':World):Prop:=∃ p ok,e=.returned (.tuple #[.int .i64 p, .bool ok])∧NpIs n p ok∧w=w'
set_option maxHeartbeats 1000000 in
theorem ZhI (n:Int) (w:World):Calls Tryz.prog 56 #[.int .i64 n] w (ZoZ n w):=by
 rcases Int.lt_or_le n 2 with h | h2
 ·go_enter Tryz.func56,Tryz.ntmps56
  go_wp2
  go_ret2
  refine ⟨2,true,rfl,Or.inl ⟨rfl,Pr.two,by omega,fun q k1 k2 k3=>?_⟩,rfl⟩
  have:=k3.1; omega
 rcases Int.lt_or_le 2147483646 n with h | hm
 ·have h':¬ n < 2:=by omega
  have h'':2147483647≤n:=by omega
  go_enter Tryz.func56,Tryz.ntmps56
  go_wp2
  go_ret2
  refine ⟨0,false,rfl,Or.inr ⟨rfl,rfl,fun q k1 k3=>?_⟩,rfl⟩
  have:=k3.2.1; omega
 have h':¬ n < 2:=by omega
 have h'':¬ 2147483647≤n:=by omega
 go_enter Tryz.func56,Tryz.ntmps56
 go_wp2
 go_loop [4] (fun v=>∃ c:Int,1≤c∧c≤2147483647∧v=.int .i64 c∧Hid (NoPr n c∧n < c)) (fun v=>(2147483648 - intOf v).toNat)
 case atStart=>exact ⟨n + 1,by omega,by omega,rfl,NoPr.start n,by omega⟩
 case round =>
  obtain ⟨c,hc1,hc2,rfl,hN⟩:=hrel
  cases hp:prB c with
  | true =>
    have HP:=zh (ZcV.1 hp)
    go_wp2_with (go_at_call 125; refine (Zft _ _).mono ?_; rintro e w' ⟨rfl,rfl⟩)
    go_ret2
    exact ⟨c,true,rfl,Or.inl ⟨rfl,HP.out,hN.out.2,hN.out.1⟩,rfl⟩
  | false =>
    have HP:=zh (Zcd.1 hp)
    have hc3:c < 2147483647:=by
     rcases Int.lt_or_le c 2147483647 with k | k
     ·exact k
     ·exact absurd ((by omega:(2147483647:Int)=c) ▸ Pr.max) HP.out
    go_wp2_with (go_at_call 125; refine (Zft _ _).mono ?_; rintro e w' ⟨rfl,rfl⟩)
    go_round
    case rel=>exact ⟨c + 1,by omega,by omega,rfl,hN.out.1.next HP.out,by have:=hN.out.2; omega⟩
    case measure=>simp [intOf]; omega
end Go.Proofs.YthlipnahcbcjkaaGreatDoor
