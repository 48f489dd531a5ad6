/-
 My texts Bits, Words1, PrimeW, ShortS put together.
-/
import Derived.Test.YtcpjeaaapocoeaaGreatDoorProg
import Derived.Test.YtcpjeaaapocoeaaGreatDoorR00
import Derived.Test.YtcpjeaaapocoeaaGreatDoorR01
import Derived.Laws.Externs
import Derived.IntWalk
set_option maxRecDepth 100000
namespace Go.Proofs.YtcpjeaaapocoeaaGreatDoor
open Go.RowKit
noncomputable def W64:Nat:=Classical.choose (p:=fun n:Nat=>n=18446744073709551616) ⟨_,rfl⟩
theorem Zal:W64=18446744073709551616:=Classical.choose_spec (p:=fun n:Nat=>n=18446744073709551616) ⟨_,rfl⟩
theorem Zag:0 < W64:=by have:=Zal; omega
theorem Zck:1 < W64:=by have:=Zal; omega
theorem Zfy:2≤W64:=by have:=Zal; omega
noncomputable def Zb7 (x y c:Nat):Nat:=(x + y + c) % W64
noncomputable def ZbM (x y c:Nat):Nat:=(x + y + c) / W64
noncomputable def ZdI (x y c:Nat):Nat:=(x + W64 - y - c) % W64
def ZcH (x y c:Nat):Nat:=if x < y + c then 1 else 0
theorem ZdX (x y c:Nat):Zb7 x y c + W64 * ZbM x y c=x + y + c:=by
 unfold Zb7 ZbM
 exact Nat.mod_add_div _ _
theorem ZeO (x y c:Nat):Zb7 x y c < W64:=Nat.mod_lt _ Zag
theorem ZhR {x y c:Nat} (hx:x < W64) (hy:y < W64) (hc:c≤1):ZbM x y c≤1:=by
 unfold ZbM
 rw [Zal] at *
 omega
theorem ZfN {x y c:Nat} (hx:x < W64) (hy:y < W64) (hc:c≤1):ZdI x y c + y + c=x + W64 * ZcH x y c:=by
 unfold ZdI ZcH
 rw [Zal] at *
 split<;>omega
theorem ZeP (x y c:Nat):ZdI x y c < W64:=Nat.mod_lt _ Zag
theorem ZhS (x y c:Nat):ZcH x y c≤1:=by unfold ZcH; split<;>omega
theorem Ze8 (x y c:Nat) (hc:c≤1) (w:World) :
 (callFunc 354 #[.int .u64 (x:Int), .int .u64 (y:Int), .int .u64 (c:Int)]).run Tryz.prog w=.ok (.value (.tuple #[.int .u64 (Zb7 x y c:Nat), .int .u64 (ZbM x y c:Nat)])) w:=by
 rw [run_callFunc_extern (fn:=Tryz.f354) (by kernel_rfl) (by kernel_rfl) (by kernel_rfl) (by kernel_rfl) (e:=add64Entry) (by kernel_rfl),run_add64 x y c (by omega) (by omega) (by omega) (by omega)]
 simp only [Result.andThen,Zb7,ZbM,Zal]
 congr 5<;>omega
def Zip:Array Value→Sem Value:=fun args=>do
 let (x, y, b) ← Extern.MathBitsCarry.three "Sub64" args
 pure (Extern.MathBitsCarry.pair ((x + Extern.MathBitsCarry.m64 - y - b) % Extern.MathBitsCarry.m64) (if x < y + b then 1 else 0))
theorem ZmO {P:Program} (x y b:Nat) (hb:b≤1) (w:World) :
 (Zip #[.int .u64 x, .int .u64 y, .int .u64 b]).run P w =
  .ok (.tuple #[.int .u64 (((x + 18446744073709551616 - y - b) % 18446744073709551616:Nat):Int), .int .u64 ((if x < y + b then 1 else 0:Nat):Int)]) w:=by
 have:b=0∨b=1:=by omega
 rcases this with rfl | rfl<;>rfl
theorem Zc3 (x y c:Nat) (hc:c≤1) (w:World) :
 (callFunc 362 #[.int .u64 (x:Int), .int .u64 (y:Int), .int .u64 (c:Int)]).run Tryz.prog w=.ok (.value (.tuple #[.int .u64 (ZdI x y c:Nat), .int .u64 (ZcH x y c:Nat)])) w:=by
 rw [run_callFunc_extern (fn:=Tryz.f362) (by kernel_rfl) (by kernel_rfl) (by kernel_rfl) (by kernel_rfl) (e:=Zip) (by kernel_rfl),ZmO x y c hc]
 simp only [Result.andThen,ZdI,ZcH,Zal]
theorem ZeQ (x y:Nat) (w:World) :
 (callFunc 354 #[.int .u64 (x:Int), .int .u64 (y:Int), .int .u64 0]).run Tryz.prog w=.ok (.value (.tuple #[.int .u64 (Zb7 x y 0:Nat), .int .u64 (ZbM x y 0:Nat)])) w:=Ze8 x y 0 (by omega) w
theorem Zkr (x y:Nat) (w:World) :
 (callFunc 362 #[.int .u64 (x:Int), .int .u64 (y:Int), .int .u64 0]).run Tryz.prog w=.ok (.value (.tuple #[.int .u64 (ZdI x y 0:Nat), .int .u64 (ZcH x y 0:Nat)])) w:=Zc3 x y 0 (by omega) w
end Go.Proofs.YtcpjeaaapocoeaaGreatDoor

namespace Go.Proofs.YtcpjeaaapocoeaaGreatDoor
open Go.RowKit
def ZbA (xs:List Nat):Nat→Nat
 | 0=>0
 | n + 1=>if xs[n]?.getD 0=0 then ZbA xs n else n + 1
theorem ZcI (xs:List Nat) (n:Nat):ZbA xs n≤n:=by
 induction n with
 | zero=>exact Nat.le_refl _
 | succ n ih=>unfold ZbA; split<;>omega
def ZaV (xs:List Nat):List Nat:=xs.take (ZbA xs xs.length)
theorem Zks (xs:List Nat) (n:Nat) (h:n≤xs.length):Trim (xs.take (ZbA xs n)):=by
 induction n with
 | zero=>intro k hk; simp [ZbA] at hk
 | succ n ih =>
   unfold ZbA
   split
   ·exact ih (by omega)
   ·rename_i hne
    intro k hk
    rw [List.length_take] at hk
    have:k=n:=by omega
    subst this
    rw [List.getElem?_take_of_lt (by omega)]
    exact hne
theorem ZbP (xs:List Nat):Trim (ZaV xs):=Zks xs _ (Nat.le_refl _)
theorem Zlm (B:Nat) (xs:List Nat) (n:Nat) (h:n≤xs.length):val B (xs.take (ZbA xs n))=val B (xs.take n):=by
 induction n with
 | zero=>rfl
 | succ n ih =>
   unfold ZbA
   split
   ·rename_i h0
    rw [ih (by omega),Zaw n (by omega),h0]; simp
   ·rfl
theorem ZaZ (B:Nat) (xs:List Nat):val B (ZaV xs)=val B xs:=by
 unfold ZaV; rw [Zlm B xs _ (Nat.le_refl _),List.take_length]
theorem ZaR (xs:List Nat):(ZaV xs).length=ZbA xs xs.length:=by
 unfold ZaV; rw [List.length_take]; have:=ZcI xs xs.length; omega
theorem Zca {B:Nat} {xs:List Nat} (h:Dig B xs):Dig B (ZaV xs):=h.take _
set_option maxHeartbeats 400000 in
theorem Za5 (A:Option Addr) (xs:List Nat) (n c:Nat) (w:World) (hn:xs.length=n) (h:Zai .u64 w A xs) (hc:xs.length≤c) (hm:xs.length≤1099511627776) :
 Calls Tryz.prog 298 #[.slice A n c] w fun e w'=>e=.returned (.slice A (ZbA xs xs.length) c)∧w=w':=by
 subst hn
 have H:=zh h
 clear h
 go_enter Tryz.func298,Tryz.ntmps298
 go_wp2
 go_loop [3] (fun n=>∃ k:Nat,k≤xs.length∧n=.int .i64 k∧Hid (ZbA xs xs.length=ZbA xs k)) (fun n=>(intOf n).toNat)
 case atStart=>exact ⟨xs.length,Nat.le_refl _,rfl,rfl⟩
 case round =>
  obtain ⟨k,hk,rfl,hr⟩:=hrel
  by_cases hlt:0 < k
  ·obtain ⟨b,off,rfl,hb,hcl⟩:=H.out.at (i:=k - 1) (by omega)
   obtain ⟨x,hx⟩:∃ x,xs[k - 1]?.getD 0=x:=⟨_,rfl⟩
   rw [hx] at hcl
   have HX:=zh hx
   clear hx
   by_cases h0:x=0
   ·subst h0
    go_wp2
    go_round
    case rel =>
     refine ⟨k - 1,by omega,by go_num,?_⟩
     have e:=hr.out
     obtain ⟨m,rfl⟩:∃ m,k=m + 1:=⟨k - 1,by omega⟩
     rw [ZbA,if_pos (by simpa using HX.out)] at e
     exact e
    case measure=>simp [intOf]; omega
   ·have hb0:(((x:Nat):Int) == 0)=false:=by simpa using h0
    go_wp2
    go_ret
    refine ⟨?_,rfl⟩
    have e:=hr.out
    obtain ⟨m,rfl⟩:∃ m,k=m + 1:=⟨k - 1,by omega⟩
    have HX':=HX.out
    simp only [Nat.add_sub_cancel] at HX'
    rw [ZbA,if_neg (by rw [HX']; exact h0)] at e
    rw [e]; rfl
  ·obtain rfl:k=0:=by omega
   go_wp2
   go_ret
   exact ⟨by rw [hr.out]; rfl,rfl⟩
theorem set_mid (pre mid post:List Nat) (k v:Nat) (h:k < mid.length):(pre ++ mid ++ post).set (pre.length + k) v=pre ++ mid.set k v ++ post:=by
 rw [List.append_assoc,List.set_append_right _ _ (by omega),Nat.add_sub_cancel_left,List.set_append_left _ _ h,List.append_assoc]
theorem ZoA (pre mid post:List Nat) (k:Nat) (h:k < mid.length):(pre ++ mid ++ post)[pre.length + k]?.getD 0=mid[k]?.getD 0:=by
 rw [List.append_assoc,List.getElem?_append_right (by omega),Nat.add_sub_cancel_left,List.getElem?_append_left h]
theorem Zbm (B:Nat) (xs:List Nat) (k v:Nat) (h:k < xs.length):val B ((xs.set k v).take (k + 1))=val B (xs.take k) + B ^ k * v:=by
 rw [Zaw k (by simpa using h),List.take_set_of_le (Nat.le_refl k)]
 simp [h]
def ZbQ (mid ys:List Nat) (k:Nat) (m:List Nat) (c:Nat):Prop :=
 m.length=mid.length∧m.drop k=mid.drop k∧Dig W64 m∧val W64 (m.take k) + W64 ^ k * c=val W64 (mid.take k) + val W64 (ys.take k)
theorem ZbQ.start (mid ys:List Nat) (h:Dig W64 mid):ZbQ mid ys 0 mid 0:=⟨rfl,rfl,h,by simp⟩
theorem ZbQ.at {mid ys m:List Nat} {k c:Nat} (h:ZbQ mid ys k m c):m[k]?.getD 0=mid[k]?.getD 0:=by
 have:=congrArg (fun l=>l[0]?.getD 0) h.2.1
 simpa [List.getElem?_drop] using this
theorem ZbQ.step {mid ys m:List Nat} {k c z y:Nat} (h:ZbQ mid ys k m c) (hk:k < mid.length) (hz:m[k]?.getD 0=z) (hy:ys[k]?.getD 0=y) (hyl:k < ys.length):ZbQ mid ys (k + 1) (m.set k (Zb7 z y c)) (ZbM z y c):=by
 have e1:mid[k]?.getD 0=z:=h.at.symm.trans hz
 obtain ⟨h1,h2,h3,h4⟩:=h
 refine ⟨by simpa using h1,?_,h3.set k (ZeO _ _ _),?_⟩
 ·rw [List.drop_set_of_lt (by omega),← List.drop_drop,← List.drop_drop,h2]
 ·rw [Zbm _ _ _ _ (by omega),Zaw k hk,Zaw k hyl,e1,hy,Nat.pow_succ]
  exact Zkn _ _ _ _ _ _ _ _ _ _ h4 (ZdX z y c)
theorem ZbQ.step0 {mid ys m:List Nat} {k c z:Nat} (h:ZbQ mid ys k m c) (hk:k < mid.length) (hz:m[k]?.getD 0=z) (hyl:ys.length≤k):ZbQ mid ys (k + 1) (m.set k (Zb7 z 0 c)) (ZbM z 0 c):=by
 have e1:mid[k]?.getD 0=z:=h.at.symm.trans hz
 obtain ⟨h1,h2,h3,h4⟩:=h
 refine ⟨by simpa using h1,?_,h3.set k (ZeO _ _ _),?_⟩
 ·rw [List.drop_set_of_lt (by omega),← List.drop_drop,← List.drop_drop,h2]
 ·rw [Zbm _ _ _ _ (by omega),Zaw k hk,e1,Nat.pow_succ,List.take_of_length_le (l:=ys) (by omega)]
  rw [List.take_of_length_le (l:=ys) (by omega)] at h4
  have:=Zkn _ _ _ _ _ _ 0 _ _ _ h4 (ZdX z 0 c)
  simpa using this
theorem ZbQ.done {mid ys m:List Nat} {k c:Nat} (h:ZbQ mid ys k m c) (hk:ys.length≤k) (hkm:k≤mid.length) (hc:c=0∨k=mid.length):val W64 m + W64 ^ mid.length * c=val W64 mid + val W64 ys:=by
 obtain ⟨h1,h2,h3,h4⟩:=h
 rw [List.take_of_length_le (l:=ys) hk] at h4
 rcases hc with rfl | rfl
 ·rw [ZaJ (xs:=m) k,ZaJ (xs:=mid) k,h2,h1]
  simp at h4 ⊢
  omega
 ·rw [List.take_of_length_le (by omega),List.take_of_length_le (by omega)] at h4
  exact h4
theorem Own.mid {t:TypeId} {w:World} {b:Nat} {pre mid post:List Nat} (h:Own .u64 t w b (pre ++ mid ++ post)) {k:Nat} (hk:k < mid.length):w.cell? ⟨b,pre.length + k,none⟩=some (.int .u64 ((mid[k]?.getD 0:Nat):Int)):=by
 rw [h.cell (by simp; omega),ZoA _ _ _ _ hk]
theorem Own.set_mid {t:TypeId} {w:World} {b:Nat} {pre mid post:List Nat} (h:Own .u64 t w b (pre ++ mid ++ post)) {k:Nat} (hk:k < mid.length) (v:Nat):Own .u64 t (w.setCell ⟨b,pre.length + k,none⟩ (.int .u64 (v:Int))) b (pre ++ mid.set k v ++ post):=by
 have:=h.set (pre.length + k) v (by simp; omega)
 rwa [Go.Proofs.YtcpjeaaapocoeaaGreatDoor.set_mid _ _ _ _ _ hk] at this
def Zhf (t:TypeId) (b:Nat) (pre post:List Nat) (n:Nat) (Q:List Nat→Prop) (w w':World):Prop :=
 Fr (· = b) w w'∧ZaL t b w w'∧∃ m,Own .u64 t w' b (pre ++ m ++ post)∧m.length=n∧Dig W64 m∧Q m
def Zoo (mid ys m:List Nat):Prop:=∃ k,val W64 m + W64 ^ mid.length * k=val W64 mid + val W64 ys
set_option maxHeartbeats 1000000 in
theorem Zfs (b c c2 off n m:Nat) (pre mid post ys:List Nat) (A:Option Addr) (w:World) (ho:pre.length=off) (hn:mid.length=n) (hym:ys.length=m) (hO:Own .u64 217 w b (pre ++ mid ++ post)) (hY:Zai .u64 w A ys) (hA:∀ a,A=some a→a.block≠b)
 (hl:ys.length≤mid.length) (hm:mid.length≤1099511627776) (hdm:Dig W64 mid) (hdy:Dig W64 ys) :
 Calls Tryz.prog 302 #[.slice (some ⟨b,off,none⟩) n c, .slice A m c2] w fun e w'=>e=.returned (.tuple #[]) ∧
  Zhf 217 b pre post mid.length (Zoo mid ys) w w':=by
 subst ho hn hym
 have HO:=zh hO
 have HY:=zh hY
 have HA:=zh hA
 have Hdm:=zh hdm
 have Hdy:=zh hdy
 clear hO hY hA hdm hdy
 go_enter Tryz.func302,Tryz.ntmps302
 go_wp2
 go_loopw [4,10] (fun cv i wr=>∃ (k cc:Nat) (m:List Nat),k≤ys.length∧i=.int .i64 k∧cc≤1∧cv=.int .u64 cc∧Hid (ZbQ mid ys k m cc)∧Hid (Own .u64 217 wr b (pre ++ m ++ post))∧Hid (Fr (· = b) w wr)∧Hid (ZaL 217 b w wr)) (fun _ i _=>ys.length - (intOf i).toNat)
 case atStart=>exact ⟨0,0,mid,by omega,rfl,by omega,rfl,ZbQ.start _ _ Hdm.out,HO.out,Fr.refl _ _,ZaL.refl _ _ _⟩
 case round =>
  obtain ⟨k,cc,m,hk,rfl,hcc,rfl,hR,hO1,hF1,hS1⟩:=hrel
  by_cases hlt:k < ys.length
  ·obtain ⟨b2,off2,rfl,hb2,hcy⟩:=(HY.out.fr hF1.out (fun a ha _=>HA.out a ha)).at hlt
   obtain ⟨y,hy⟩:∃ y,ys[k]?.getD 0=y:=⟨_,rfl⟩
   obtain ⟨z,hz⟩:∃ z,m[k]?.getD 0=z:=⟨_,rfl⟩
   have hkm:k < m.length:=by have:=hR.out.1; omega
   have hcz:=hO1.out.mid (k:=k) hkm
   have hfz:=hO1.out.frozen (pre.length + k)
   rw [hy] at hcy
   rw [hz] at hcz
   have HR2:=zh (hR.out.step (by omega) hz hy hlt)
   have hle:ZbM z y cc≤1:=ZhR (hz ▸ hR.out.2.2.1.getD Zag k) (hy ▸ Hdy.out.getD Zag k) hcc
   have ha:=Ze8 z y cc hcc
   clear hy hz
   go_wp2
   go_roundw
   case rel=>exact ⟨k + 1,_,_,by omega,by go_num,hle,rfl,HR2,hO1.out.set_mid hkm _,hF1.out.setCell (Or.inl rfl) _,hS1.out.setCell _ _ _⟩
   case measure=>simp [intOf]; omega
  ·obtain rfl:k=ys.length:=by omega
   clear hlt
   go_wp2
   obtain ⟨wo,rfl⟩:∃ wo:World,wo=wr:=⟨_,rfl⟩
   go_loopw [4,7] (fun cv i wr=>∃ (k cc:Nat) (m:List Nat),ys.length≤k∧k≤mid.length∧i=.int .i64 k∧cc≤1∧cv=.int .u64 cc∧Hid (ZbQ mid ys k m cc)∧Hid (Own .u64 217 wr b (pre ++ m ++ post))∧Hid (Fr (· = b) w wr)∧Hid (ZaL 217 b w wr)) (fun _ i _=>mid.length - (intOf i).toNat)
   case atStart=>exact ⟨_,cc,m,Nat.le_refl _,hl,rfl,hcc,rfl,hR,hO1,hF1,hS1⟩
   case round =>
    clear hR hO1 hF1 hS1 hcc
    obtain ⟨k,c1,m1,hk1,hk2,rfl,hcc,rfl,hR,hO1,hF1,hS1⟩:=hrel
    by_cases hgo:c1≠0∧k < mid.length
    ·obtain ⟨hc0,hlt⟩:=hgo
     obtain rfl:c1=1:=by omega
     obtain ⟨z,hz⟩:∃ z,m1[k]?.getD 0=z:=⟨_,rfl⟩
     have hkm:k < m1.length:=by have:=hR.out.1; omega
     have hcz:=hO1.out.mid (k:=k) hkm
     have hfz:=hO1.out.frozen (pre.length + k)
     rw [hz] at hcz
     have HR2:=zh (hR.out.step0 (by omega) hz hk1)
     have hle:ZbM z 0 1≤1:=ZhR (hz ▸ hR.out.2.2.1.getD Zag k) Zag (by omega)
     have ha:∀ w:World,(callFunc 354 #[.int .u64 (z:Int), .int .u64 0, .int .u64 1]).run Tryz.prog w=.ok (.value (.tuple #[.int .u64 (Zb7 z 0 1:Nat), .int .u64 (ZbM z 0 1:Nat)])) w:=Ze8 z 0 1 (by omega)
     clear hz
     go_wp2
     go_roundw
     case rel=>exact ⟨k + 1,_,_,by omega,by omega,by go_num,hle,rfl,HR2,hO1.out.set_mid hkm _,hF1.out.setCell (Or.inl rfl) _,hS1.out.setCell _ _ _⟩
     case measure=>simp [intOf]; omega
    ·have hd:c1=0∨k=mid.length:=by omega
     have HD:=zh (hR.out.done hk1 hk2 hd)
     have hml:=zh hR.out.1
     have hdg:=zh hR.out.2.2.1
     rcases (by omega:c1=0∨c1=1) with rfl | rfl
     ·go_wp2
      go_end0
      exact ⟨rfl,hF1.out,hS1.out,m1,hO1.out,hml.out,hdg.out,_,HD.out⟩
     ·obtain rfl:k=mid.length:=by omega
      go_wp2
      go_end0
      exact ⟨rfl,hF1.out,hS1.out,m1,hO1.out,hml.out,hdg.out,_,HD.out⟩
def Zcf (mid ys:List Nat) (k:Nat) (m:List Nat) (c:Nat):Prop :=
 m.length=mid.length∧m.drop k=mid.drop k∧Dig W64 m∧val W64 (m.take k) + val W64 (ys.take k)=val W64 (mid.take k) + W64 ^ k * c
theorem Zcf.start (mid ys:List Nat) (h:Dig W64 mid):Zcf mid ys 0 mid 0:=⟨rfl,rfl,h,by simp⟩
theorem Zcf.at {mid ys m:List Nat} {k c:Nat} (h:Zcf mid ys k m c):m[k]?.getD 0=mid[k]?.getD 0:=by
 have:=congrArg (fun l=>l[0]?.getD 0) h.2.1
 simpa [List.getElem?_drop] using this
theorem Zcf.step {mid ys m:List Nat} {k c z y:Nat} (h:Zcf mid ys k m c) (hk:k < mid.length) (hz:m[k]?.getD 0=z) (hy:ys[k]?.getD 0=y) (hyl:k < ys.length) (hd:Dig W64 ys) (hc:c≤1):Zcf mid ys (k + 1) (m.set k (ZdI z y c)) (ZcH z y c):=by
 have e1:mid[k]?.getD 0=z:=h.at.symm.trans hz
 obtain ⟨h1,h2,h3,h4⟩:=h
 have sp:=ZfN (hz ▸ h3.getD Zag k) (hy ▸ hd.getD Zag k) hc
 refine ⟨by simpa using h1,?_,h3.set k (ZeP _ _ _),?_⟩
 ·rw [List.drop_set_of_lt (by omega),← List.drop_drop,← List.drop_drop,h2]
 ·rw [Zbm _ _ _ _ (by omega),Zaw k hk,Zaw k hyl,e1,hy,Nat.pow_succ]
  exact Zko _ _ _ _ _ _ _ _ _ _ h4 sp
theorem Zcf.step0 {mid ys m:List Nat} {k c z:Nat} (h:Zcf mid ys k m c) (hk:k < mid.length) (hz:m[k]?.getD 0=z) (hyl:ys.length≤k) (hc:c≤1):Zcf mid ys (k + 1) (m.set k (ZdI z 0 c)) (ZcH z 0 c):=by
 have e1:mid[k]?.getD 0=z:=h.at.symm.trans hz
 obtain ⟨h1,h2,h3,h4⟩:=h
 have sp:=ZfN (hz ▸ h3.getD Zag k) Zag hc
 refine ⟨by simpa using h1,?_,h3.set k (ZeP _ _ _),?_⟩
 ·rw [List.drop_set_of_lt (by omega),← List.drop_drop,← List.drop_drop,h2]
 ·rw [Zbm _ _ _ _ (by omega),Zaw k hk,e1,Nat.pow_succ,List.take_of_length_le (l:=ys) (by omega)]
  rw [List.take_of_length_le (l:=ys) (by omega)] at h4
  have:=Zko _ _ _ _ _ _ 0 _ _ _ h4 sp
  simpa using this
theorem Zcf.done {mid ys m:List Nat} {k c:Nat} (h:Zcf mid ys k m c) (hk:ys.length≤k) (hkm:k≤mid.length) (hc:c=0∨k=mid.length) (hle:val W64 ys≤val W64 mid):val W64 m + val W64 ys=val W64 mid:=by
 obtain ⟨h1,h2,h3,h4⟩:=h
 rw [List.take_of_length_le (l:=ys) hk] at h4
 have hz:c=0→val W64 m + val W64 ys=val W64 mid:=by
  rintro rfl
  rw [ZaJ (xs:=m) k,ZaJ (xs:=mid) k,h2,h1]
  simp at h4 ⊢
  omega
 rcases hc with hc | rfl
 ·exact hz hc
 ·rw [List.take_of_length_le (by omega),List.take_of_length_le (by omega)] at h4
  rcases Nat.eq_zero_or_pos c with h0 | h0
  ·exact hz h0
  ·have hlt:=ZaX h3
   rw [h1] at hlt
   have:W64 ^ mid.length * 1≤W64 ^ mid.length * c:=Nat.mul_le_mul_left _ h0
   omega
def ZmQ (mid ys m:List Nat):Prop:=val W64 m + val W64 ys=val W64 mid
set_option maxHeartbeats 1000000 in
theorem ZhT (b c c2 off n m:Nat) (pre mid post ys:List Nat) (A:Option Addr) (w:World) (ho:pre.length=off) (hn:mid.length=n) (hym:ys.length=m) (hO:Own .u64 217 w b (pre ++ mid ++ post)) (hY:Zai .u64 w A ys) (hA:∀ a,A=some a→a.block≠b)
 (hl:ys.length≤mid.length) (hm:mid.length≤1099511627776) (hdm:Dig W64 mid) (hdy:Dig W64 ys) (hle0:val W64 ys≤val W64 mid) :
 Calls Tryz.prog 355 #[.slice (some ⟨b,off,none⟩) n c, .slice A m c2] w fun e w'=>e=.returned (.tuple #[]) ∧
  Zhf 217 b pre post mid.length (ZmQ mid ys) w w':=by
 subst ho hn hym
 have HO:=zh hO
 have HY:=zh hY
 have HA:=zh hA
 have Hdm:=zh hdm
 have Hdy:=zh hdy
 clear hO hY hA hdm hdy
 go_enter Tryz.func355,Tryz.ntmps355
 go_wp2
 go_loopw [4,10] (fun cv i wr=>∃ (k cc:Nat) (m:List Nat),k≤ys.length∧i=.int .i64 k∧cc≤1∧cv=.int .u64 cc∧Hid (Zcf mid ys k m cc)∧Hid (Own .u64 217 wr b (pre ++ m ++ post))∧Hid (Fr (· = b) w wr)∧Hid (ZaL 217 b w wr)) (fun _ i _=>ys.length - (intOf i).toNat)
 case atStart=>exact ⟨0,0,mid,by omega,rfl,by omega,rfl,Zcf.start _ _ Hdm.out,HO.out,Fr.refl _ _,ZaL.refl _ _ _⟩
 case round =>
  obtain ⟨k,cc,m,hk,rfl,hcc,rfl,hR,hO1,hF1,hS1⟩:=hrel
  by_cases hlt:k < ys.length
  ·obtain ⟨b2,off2,rfl,hb2,hcy⟩:=(HY.out.fr hF1.out (fun a ha _=>HA.out a ha)).at hlt
   obtain ⟨y,hy⟩:∃ y,ys[k]?.getD 0=y:=⟨_,rfl⟩
   obtain ⟨z,hz⟩:∃ z,m[k]?.getD 0=z:=⟨_,rfl⟩
   have hkm:k < m.length:=by have:=hR.out.1; omega
   have hcz:=hO1.out.mid (k:=k) hkm
   have hfz:=hO1.out.frozen (pre.length + k)
   rw [hy] at hcy
   rw [hz] at hcz
   have HR2:=zh (hR.out.step (by omega) hz hy hlt Hdy.out hcc)
   have hle:ZcH z y cc≤1:=ZhS _ _ _
   have ha:=Zc3 z y cc hcc
   clear hy hz
   go_wp2
   go_roundw
   case rel=>exact ⟨k + 1,_,_,by omega,by go_num,hle,rfl,HR2,hO1.out.set_mid hkm _,hF1.out.setCell (Or.inl rfl) _,hS1.out.setCell _ _ _⟩
   case measure=>simp [intOf]; omega
  ·obtain rfl:k=ys.length:=by omega
   clear hlt
   go_wp2
   obtain ⟨wo,rfl⟩:∃ wo:World,wo=wr:=⟨_,rfl⟩
   go_loopw [4,7] (fun cv i wr=>∃ (k cc:Nat) (m:List Nat),ys.length≤k∧k≤mid.length∧i=.int .i64 k∧cc≤1∧cv=.int .u64 cc∧Hid (Zcf mid ys k m cc)∧Hid (Own .u64 217 wr b (pre ++ m ++ post))∧Hid (Fr (· = b) w wr)∧Hid (ZaL 217 b w wr)) (fun _ i _=>mid.length - (intOf i).toNat)
   case atStart=>exact ⟨_,cc,m,Nat.le_refl _,hl,rfl,hcc,rfl,hR,hO1,hF1,hS1⟩
   case round =>
    clear hR hO1 hF1 hS1 hcc
    obtain ⟨k,c1,m1,hk1,hk2,rfl,hcc,rfl,hR,hO1,hF1,hS1⟩:=hrel
    by_cases hgo:c1≠0∧k < mid.length
    ·obtain ⟨hc0,hlt⟩:=hgo
     obtain rfl:c1=1:=by omega
     obtain ⟨z,hz⟩:∃ z,m1[k]?.getD 0=z:=⟨_,rfl⟩
     have hkm:k < m1.length:=by have:=hR.out.1; omega
     have hcz:=hO1.out.mid (k:=k) hkm
     have hfz:=hO1.out.frozen (pre.length + k)
     rw [hz] at hcz
     have HR2:=zh (hR.out.step0 (by omega) hz hk1 hcc)
     have hle:ZcH z 0 1≤1:=ZhS _ _ _
     have ha:∀ w:World,(callFunc 362 #[.int .u64 (z:Int), .int .u64 0, .int .u64 1]).run Tryz.prog w=.ok (.value (.tuple #[.int .u64 (ZdI z 0 1:Nat), .int .u64 (ZcH z 0 1:Nat)])) w:=Zc3 z 0 1 (by omega)
     clear hz
     go_wp2
     go_roundw
     case rel=>exact ⟨k + 1,_,_,by omega,by omega,by go_num,hle,rfl,HR2,hO1.out.set_mid hkm _,hF1.out.setCell (Or.inl rfl) _,hS1.out.setCell _ _ _⟩
     case measure=>simp [intOf]; omega
    ·have hd:c1=0∨k=mid.length:=by omega
     have HD:=zh (hR.out.done hk1 hk2 hd hle0)
     have hml:=zh hR.out.1
     have hdg:=zh hR.out.2.2.1
     rcases (by omega:c1=0∨c1=1) with rfl | rfl
     ·go_wp2
      go_end0
      exact ⟨rfl,hF1.out,hS1.out,m1,hO1.out,hml.out,hdg.out,HD.out⟩
     ·obtain rfl:k=mid.length:=by omega
      go_wp2
      go_end0
      exact ⟨rfl,hF1.out,hS1.out,m1,hO1.out,hml.out,hdg.out,HD.out⟩
end Go.Proofs.YtcpjeaaapocoeaaGreatDoor

namespace Go.Proofs.YtcpjeaaapocoeaaGreatDoor
open Go.RowKit
end Go.Proofs.YtcpjeaaapocoeaaGreatDoor

namespace Go.Proofs.YtcpjeaaapocoeaaGreatDoor
open Go.RowKit
end Go.Proofs.YtcpjeaaapocoeaaGreatDoor
