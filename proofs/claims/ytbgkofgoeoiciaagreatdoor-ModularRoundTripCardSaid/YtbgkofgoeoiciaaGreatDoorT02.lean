/-
 My texts Bits, Words1, PrimeW, ShortS put together.
-/
import Derived.Test.YtbgkofgoeoiciaaGreatDoorProg
import Derived.Test.YtbgkofgoeoiciaaGreatDoorT00
import Derived.Test.YtbgkofgoeoiciaaGreatDoorT01
import Derived.Laws.Externs
import Derived.IntWalk
namespace Go.Proofs.YtbgkofgoeoiciaaGreatDoor
open Go.RowKit
noncomputable def W64:Nat:=Classical.choose (p:=fun n:Nat=>n=18446744073709551616) ⟨_,rfl⟩
theorem W64_eq:W64=18446744073709551616:=Classical.choose_spec (p:=fun n:Nat=>n=18446744073709551616) ⟨_,rfl⟩
theorem W64_pos:0 < W64:=by have:=W64_eq; omega
theorem W64_one:1 < W64:=by have:=W64_eq; omega
theorem W64_two:2≤W64:=by have:=W64_eq; omega
noncomputable def addLo (x y c:Nat):Nat:=(x + y + c) % W64
noncomputable def addHi (x y c:Nat):Nat:=(x + y + c) / W64
noncomputable def subLo (x y c:Nat):Nat:=(x + W64 - y - c) % W64
def subHi (x y c:Nat):Nat:=if x < y + c then 1 else 0
theorem add_spec (x y c:Nat):addLo x y c + W64 * addHi x y c=x + y + c:=by
 unfold addLo addHi
 exact Nat.mod_add_div _ _
theorem addLo_lt (x y c:Nat):addLo x y c < W64:=Nat.mod_lt _ W64_pos
theorem addHi_le {x y c:Nat} (hx:x < W64) (hy:y < W64) (hc:c≤1):addHi x y c≤1:=by
 unfold addHi
 rw [W64_eq] at *
 omega
theorem sub_spec {x y c:Nat} (hx:x < W64) (hy:y < W64) (hc:c≤1):subLo x y c + y + c=x + W64 * subHi x y c:=by
 unfold subLo subHi
 rw [W64_eq] at *
 split<;>omega
theorem subLo_lt (x y c:Nat):subLo x y c < W64:=Nat.mod_lt _ W64_pos
theorem subHi_le (x y c:Nat):subHi x y c≤1:=by unfold subHi; split<;>omega
theorem run_Add64 (x y c:Nat) (hc:c≤1) (w:World) :
 (callFunc 304 #[.int .u64 (x:Int), .int .u64 (y:Int), .int .u64 (c:Int)]).run Tryz.prog w=.ok (.value (.tuple #[.int .u64 (addLo x y c:Nat), .int .u64 (addHi x y c:Nat)])) w:=by
 rw [run_callFunc_extern (fn:=Tryz.f304) (by kernel_rfl) (by kernel_rfl) (by kernel_rfl) (by kernel_rfl) (e:=add64Entry) (by kernel_rfl),run_add64 x y c (by omega) (by omega) (by omega) (by omega)]
 simp only [Result.andThen,addLo,addHi,W64_eq]
 congr 5<;>omega
def sub64Entry:Array Value→Sem Value:=fun args=>do
 let (x, y, b) ← Extern.MathBitsCarry.three "Sub64" args
 pure (Extern.MathBitsCarry.pair ((x + Extern.MathBitsCarry.m64 - y - b) % Extern.MathBitsCarry.m64) (if x < y + b then 1 else 0))
theorem run_sub64 {P:Program} (x y b:Nat) (hb:b≤1) (w:World) :
 (sub64Entry #[.int .u64 x, .int .u64 y, .int .u64 b]).run P w =
  .ok (.tuple #[.int .u64 (((x + 18446744073709551616 - y - b) % 18446744073709551616:Nat):Int), .int .u64 ((if x < y + b then 1 else 0:Nat):Int)]) w:=by
 have:b=0∨b=1:=by omega
 rcases this with rfl | rfl<;>rfl
theorem run_Sub64 (x y c:Nat) (hc:c≤1) (w:World) :
 (callFunc 307 #[.int .u64 (x:Int), .int .u64 (y:Int), .int .u64 (c:Int)]).run Tryz.prog w=.ok (.value (.tuple #[.int .u64 (subLo x y c:Nat), .int .u64 (subHi x y c:Nat)])) w:=by
 rw [run_callFunc_extern (fn:=Tryz.f307) (by kernel_rfl) (by kernel_rfl) (by kernel_rfl) (by kernel_rfl) (e:=sub64Entry) (by kernel_rfl),run_sub64 x y c hc]
 simp only [Result.andThen,subLo,subHi,W64_eq]
theorem run_Add64_c0 (x y:Nat) (w:World) :
 (callFunc 304 #[.int .u64 (x:Int), .int .u64 (y:Int), .int .u64 0]).run Tryz.prog w=.ok (.value (.tuple #[.int .u64 (addLo x y 0:Nat), .int .u64 (addHi x y 0:Nat)])) w:=run_Add64 x y 0 (by omega) w
theorem run_Sub64_c0 (x y:Nat) (w:World) :
 (callFunc 307 #[.int .u64 (x:Int), .int .u64 (y:Int), .int .u64 0]).run Tryz.prog w=.ok (.value (.tuple #[.int .u64 (subLo x y 0:Nat), .int .u64 (subHi x y 0:Nat)])) w:=run_Sub64 x y 0 (by omega) w
end Go.Proofs.YtbgkofgoeoiciaaGreatDoor

namespace Go.Proofs.YtbgkofgoeoiciaaGreatDoor
open Go.RowKit
def trimLen (xs:List Nat):Nat→Nat
 | 0=>0
 | n + 1=>if xs[n]?.getD 0=0 then trimLen xs n else n + 1
theorem trimLen_le (xs:List Nat) (n:Nat):trimLen xs n≤n:=by
 induction n with
 | zero=>exact Nat.le_refl _
 | succ n ih=>unfold trimLen; split<;>omega
def trimmed (xs:List Nat):List Nat:=xs.take (trimLen xs xs.length)
theorem trimLen_trim (xs:List Nat) (n:Nat) (h:n≤xs.length):Trim (xs.take (trimLen xs n)):=by
 induction n with
 | zero=>intro k hk; simp [trimLen] at hk
 | succ n ih =>
   unfold trimLen
   split
   ·exact ih (by omega)
   ·rename_i hne
    intro k hk
    rw [List.length_take] at hk
    have:k=n:=by omega
    subst this
    rw [List.getElem?_take_of_lt (by omega)]
    exact hne
theorem trimmed_trim (xs:List Nat):Trim (trimmed xs):=trimLen_trim xs _ (Nat.le_refl _)
theorem trimLen_val (B:Nat) (xs:List Nat) (n:Nat) (h:n≤xs.length):val B (xs.take (trimLen xs n))=val B (xs.take n):=by
 induction n with
 | zero=>rfl
 | succ n ih =>
   unfold trimLen
   split
   ·rename_i h0
    rw [ih (by omega),val_take_succ n (by omega),h0]; simp
   ·rfl
theorem trimmed_val (B:Nat) (xs:List Nat):val B (trimmed xs)=val B xs:=by
 unfold trimmed; rw [trimLen_val B xs _ (Nat.le_refl _),List.take_length]
theorem trimmed_length (xs:List Nat):(trimmed xs).length=trimLen xs xs.length:=by
 unfold trimmed; rw [List.length_take]; have:=trimLen_le xs xs.length; omega
theorem trimmed_dig {B:Nat} {xs:List Nat} (h:Dig B xs):Dig B (trimmed xs):=h.take _
set_option maxHeartbeats 400000 in
theorem trim_any (A:Option Addr) (xs:List Nat) (n c:Nat) (w:World) (hn:xs.length=n) (h:Shows .u64 w A xs) (hc:xs.length≤c) (hm:xs.length≤1099511627776) :
 Calls Tryz.prog 263 #[.slice A n c] w fun e w'=>e=.returned (.slice A (trimLen xs xs.length) c)∧w=w':=by
 subst hn
 have H:=zh h
 clear h
 go_enter Tryz.func263,Tryz.ntmps263
 go_wp2
 go_loop [3] (fun n=>∃ k:Nat,k≤xs.length∧n=.int .i64 k∧Hid (trimLen xs xs.length=trimLen xs k)) (fun n=>(intOf n).toNat)
 case atStart=>exact ⟨xs.length,Nat.le_refl _,rfl,rfl⟩
 case round =>
  obtain ⟨k,hk,rfl,hr⟩:=hrel
  by_cases hlt:0 < k
  ·obtain ⟨b,off,rfl,hb,hcl⟩:=H.out.at (i:=k - 1) (by omega)
   obtain ⟨x,hx⟩:∃ x,xs[k - 1]?.getD 0=x:=⟨_,rfl⟩
   rw [hx] at hcl
   have HX:=zh hx
   clear hx
   by_cases h0:x=0
   ·subst h0
    go_wp2
    go_round
    case rel =>
     refine ⟨k - 1,by omega,by go_num,?_⟩
     have e:=hr.out
     obtain ⟨m,rfl⟩:∃ m,k=m + 1:=⟨k - 1,by omega⟩
     rw [trimLen,if_pos (by simpa using HX.out)] at e
     exact e
    case measure=>simp [intOf]; omega
   ·have hb0:(((x:Nat):Int) == 0)=false:=by simpa using h0
    go_wp2
    go_ret
    refine ⟨?_,rfl⟩
    have e:=hr.out
    obtain ⟨m,rfl⟩:∃ m,k=m + 1:=⟨k - 1,by omega⟩
    have HX':=HX.out
    simp only [Nat.add_sub_cancel] at HX'
    rw [trimLen,if_neg (by rw [HX']; exact h0)] at e
    rw [e]; rfl
  ·obtain rfl:k=0:=by omega
   go_wp2
   go_ret
   exact ⟨by rw [hr.out]; rfl,rfl⟩
theorem set_mid (pre mid post:List Nat) (k v:Nat) (h:k < mid.length):(pre ++ mid ++ post).set (pre.length + k) v=pre ++ mid.set k v ++ post:=by
 rw [List.append_assoc,List.set_append_right _ _ (by omega),Nat.add_sub_cancel_left,List.set_append_left _ _ h,List.append_assoc]
theorem get_mid (pre mid post:List Nat) (k:Nat) (h:k < mid.length):(pre ++ mid ++ post)[pre.length + k]?.getD 0=mid[k]?.getD 0:=by
 rw [List.append_assoc,List.getElem?_append_right (by omega),Nat.add_sub_cancel_left,List.getElem?_append_left h]
theorem take_set_succ (B:Nat) (xs:List Nat) (k v:Nat) (h:k < xs.length):val B ((xs.set k v).take (k + 1))=val B (xs.take k) + B ^ k * v:=by
 rw [val_take_succ k (by simpa using h),List.take_set_of_le (Nat.le_refl k)]
 simp [h]
def AddRel (mid ys:List Nat) (k:Nat) (m:List Nat) (c:Nat):Prop :=
 m.length=mid.length∧m.drop k=mid.drop k∧Dig W64 m∧val W64 (m.take k) + W64 ^ k * c=val W64 (mid.take k) + val W64 (ys.take k)
theorem AddRel.start (mid ys:List Nat) (h:Dig W64 mid):AddRel mid ys 0 mid 0:=⟨rfl,rfl,h,by simp⟩
theorem AddRel.at {mid ys m:List Nat} {k c:Nat} (h:AddRel mid ys k m c):m[k]?.getD 0=mid[k]?.getD 0:=by
 have:=congrArg (fun l=>l[0]?.getD 0) h.2.1
 simpa [List.getElem?_drop] using this
theorem AddRel.step {mid ys m:List Nat} {k c z y:Nat} (h:AddRel mid ys k m c) (hk:k < mid.length) (hz:m[k]?.getD 0=z) (hy:ys[k]?.getD 0=y) (hyl:k < ys.length):AddRel mid ys (k + 1) (m.set k (addLo z y c)) (addHi z y c):=by
 have e1:mid[k]?.getD 0=z:=h.at.symm.trans hz
 obtain ⟨h1,h2,h3,h4⟩:=h
 refine ⟨by simpa using h1,?_,h3.set k (addLo_lt _ _ _),?_⟩
 ·rw [List.drop_set_of_lt (by omega),← List.drop_drop,← List.drop_drop,h2]
 ·rw [take_set_succ _ _ _ _ (by omega),val_take_succ k hk,val_take_succ k hyl,e1,hy,Nat.pow_succ]
  exact step_add _ _ _ _ _ _ _ _ _ _ h4 (add_spec z y c)
theorem AddRel.step0 {mid ys m:List Nat} {k c z:Nat} (h:AddRel mid ys k m c) (hk:k < mid.length) (hz:m[k]?.getD 0=z) (hyl:ys.length≤k):AddRel mid ys (k + 1) (m.set k (addLo z 0 c)) (addHi z 0 c):=by
 have e1:mid[k]?.getD 0=z:=h.at.symm.trans hz
 obtain ⟨h1,h2,h3,h4⟩:=h
 refine ⟨by simpa using h1,?_,h3.set k (addLo_lt _ _ _),?_⟩
 ·rw [List.drop_set_of_lt (by omega),← List.drop_drop,← List.drop_drop,h2]
 ·rw [take_set_succ _ _ _ _ (by omega),val_take_succ k hk,e1,Nat.pow_succ,List.take_of_length_le (l:=ys) (by omega)]
  rw [List.take_of_length_le (l:=ys) (by omega)] at h4
  have:=step_add _ _ _ _ _ _ 0 _ _ _ h4 (add_spec z 0 c)
  simpa using this
theorem AddRel.done {mid ys m:List Nat} {k c:Nat} (h:AddRel mid ys k m c) (hk:ys.length≤k) (hkm:k≤mid.length) (hc:c=0∨k=mid.length):val W64 m + W64 ^ mid.length * c=val W64 mid + val W64 ys:=by
 obtain ⟨h1,h2,h3,h4⟩:=h
 rw [List.take_of_length_le (l:=ys) hk] at h4
 rcases hc with rfl | rfl
 ·rw [val_take_drop (xs:=m) k,val_take_drop (xs:=mid) k,h2,h1]
  simp at h4 ⊢
  omega
 ·rw [List.take_of_length_le (by omega),List.take_of_length_le (by omega)] at h4
  exact h4
theorem Own.mid {t:TypeId} {w:World} {b:Nat} {pre mid post:List Nat} (h:Own .u64 t w b (pre ++ mid ++ post)) {k:Nat} (hk:k < mid.length):w.cell? ⟨b,pre.length + k,none⟩=some (.int .u64 ((mid[k]?.getD 0:Nat):Int)):=by
 rw [h.cell (by simp; omega),get_mid _ _ _ _ hk]
theorem Own.set_mid {t:TypeId} {w:World} {b:Nat} {pre mid post:List Nat} (h:Own .u64 t w b (pre ++ mid ++ post)) {k:Nat} (hk:k < mid.length) (v:Nat):Own .u64 t (w.setCell ⟨b,pre.length + k,none⟩ (.int .u64 (v:Int))) b (pre ++ mid.set k v ++ post):=by
 have:=h.set (pre.length + k) v (by simp; omega)
 rwa [Go.Proofs.YtbgkofgoeoiciaaGreatDoor.set_mid _ _ _ _ _ hk] at this
def MidPost (t:TypeId) (b:Nat) (pre post:List Nat) (n:Nat) (Q:List Nat→Prop) (w w':World):Prop :=
 Fr (· = b) w w'∧SameCap t b w w'∧∃ m,Own .u64 t w' b (pre ++ m ++ post)∧m.length=n∧Dig W64 m∧Q m
def SumOf (mid ys m:List Nat):Prop:=∃ k,val W64 m + W64 ^ mid.length * k=val W64 mid + val W64 ys
set_option maxHeartbeats 1000000 in
theorem addInto_any (b c c2 off n m:Nat) (pre mid post ys:List Nat) (A:Option Addr) (w:World) (ho:pre.length=off) (hn:mid.length=n) (hym:ys.length=m) (hO:Own .u64 148 w b (pre ++ mid ++ post)) (hY:Shows .u64 w A ys) (hA:∀ a,A=some a→a.block≠b)
 (hl:ys.length≤mid.length) (hm:mid.length≤1099511627776) (hdm:Dig W64 mid) (hdy:Dig W64 ys) :
 Calls Tryz.prog 265 #[.slice (some ⟨b,off,none⟩) n c, .slice A m c2] w fun e w'=>e=.returned (.tuple #[]) ∧
  MidPost 148 b pre post mid.length (SumOf mid ys) w w':=by
 subst ho hn hym
 have HO:=zh hO
 have HY:=zh hY
 have HA:=zh hA
 have Hdm:=zh hdm
 have Hdy:=zh hdy
 clear hO hY hA hdm hdy
 go_enter Tryz.func265,Tryz.ntmps265
 go_wp2
 go_loopw [4,10] (fun cv i wr=>∃ (k cc:Nat) (m:List Nat),k≤ys.length∧i=.int .i64 k∧cc≤1∧cv=.int .u64 cc∧Hid (AddRel mid ys k m cc)∧Hid (Own .u64 148 wr b (pre ++ m ++ post))∧Hid (Fr (· = b) w wr)∧Hid (SameCap 148 b w wr)) (fun _ i _=>ys.length - (intOf i).toNat)
 case atStart=>exact ⟨0,0,mid,by omega,rfl,by omega,rfl,AddRel.start _ _ Hdm.out,HO.out,Fr.refl _ _,SameCap.refl _ _ _⟩
 case round =>
  obtain ⟨k,cc,m,hk,rfl,hcc,rfl,hR,hO1,hF1,hS1⟩:=hrel
  by_cases hlt:k < ys.length
  ·obtain ⟨b2,off2,rfl,hb2,hcy⟩:=(HY.out.fr hF1.out (fun a ha _=>HA.out a ha)).at hlt
   obtain ⟨y,hy⟩:∃ y,ys[k]?.getD 0=y:=⟨_,rfl⟩
   obtain ⟨z,hz⟩:∃ z,m[k]?.getD 0=z:=⟨_,rfl⟩
   have hkm:k < m.length:=by have:=hR.out.1; omega
   have hcz:=hO1.out.mid (k:=k) hkm
   have hfz:=hO1.out.frozen (pre.length + k)
   rw [hy] at hcy
   rw [hz] at hcz
   have HR2:=zh (hR.out.step (by omega) hz hy hlt)
   have hle:addHi z y cc≤1:=addHi_le (hz ▸ hR.out.2.2.1.getD W64_pos k) (hy ▸ Hdy.out.getD W64_pos k) hcc
   have ha:=run_Add64 z y cc hcc
   clear hy hz
   go_wp2
   go_roundw
   case rel=>exact ⟨k + 1,_,_,by omega,by go_num,hle,rfl,HR2,hO1.out.set_mid hkm _,hF1.out.setCell (Or.inl rfl) _,hS1.out.setCell _ _ _⟩
   case measure=>simp [intOf]; omega
  ·obtain rfl:k=ys.length:=by omega
   clear hlt
   go_wp2
   obtain ⟨wo,rfl⟩:∃ wo:World,wo=wr:=⟨_,rfl⟩
   go_loopw [4,7] (fun cv i wr=>∃ (k cc:Nat) (m:List Nat),ys.length≤k∧k≤mid.length∧i=.int .i64 k∧cc≤1∧cv=.int .u64 cc∧Hid (AddRel mid ys k m cc)∧Hid (Own .u64 148 wr b (pre ++ m ++ post))∧Hid (Fr (· = b) w wr)∧Hid (SameCap 148 b w wr)) (fun _ i _=>mid.length - (intOf i).toNat)
   case atStart=>exact ⟨_,cc,m,Nat.le_refl _,hl,rfl,hcc,rfl,hR,hO1,hF1,hS1⟩
   case round =>
    clear hR hO1 hF1 hS1 hcc
    obtain ⟨k,c1,m1,hk1,hk2,rfl,hcc,rfl,hR,hO1,hF1,hS1⟩:=hrel
    by_cases hgo:c1≠0∧k < mid.length
    ·obtain ⟨hc0,hlt⟩:=hgo
     obtain rfl:c1=1:=by omega
     obtain ⟨z,hz⟩:∃ z,m1[k]?.getD 0=z:=⟨_,rfl⟩
     have hkm:k < m1.length:=by have:=hR.out.1; omega
     have hcz:=hO1.out.mid (k:=k) hkm
     have hfz:=hO1.out.frozen (pre.length + k)
     rw [hz] at hcz
     have HR2:=zh (hR.out.step0 (by omega) hz hk1)
     have hle:addHi z 0 1≤1:=addHi_le (hz ▸ hR.out.2.2.1.getD W64_pos k) W64_pos (by omega)
     have ha:∀ w:World,(callFunc 304 #[.int .u64 (z:Int), .int .u64 0, .int .u64 1]).run Tryz.prog w=.ok (.value (.tuple #[.int .u64 (addLo z 0 1:Nat), .int .u64 (addHi z 0 1:Nat)])) w:=run_Add64 z 0 1 (by omega)
     clear hz
     go_wp2
     go_roundw
     case rel=>exact ⟨k + 1,_,_,by omega,by omega,by go_num,hle,rfl,HR2,hO1.out.set_mid hkm _,hF1.out.setCell (Or.inl rfl) _,hS1.out.setCell _ _ _⟩
     case measure=>simp [intOf]; omega
    ·have hd:c1=0∨k=mid.length:=by omega
     have HD:=zh (hR.out.done hk1 hk2 hd)
     have hml:=zh hR.out.1
     have hdg:=zh hR.out.2.2.1
     rcases (by omega:c1=0∨c1=1) with rfl | rfl
     ·go_wp2
      go_end0
      exact ⟨rfl,hF1.out,hS1.out,m1,hO1.out,hml.out,hdg.out,_,HD.out⟩
     ·obtain rfl:k=mid.length:=by omega
      go_wp2
      go_end0
      exact ⟨rfl,hF1.out,hS1.out,m1,hO1.out,hml.out,hdg.out,_,HD.out⟩
def SubRel (mid ys:List Nat) (k:Nat) (m:List Nat) (c:Nat):Prop :=
 m.length=mid.length∧m.drop k=mid.drop k∧Dig W64 m∧val W64 (m.take k) + val W64 (ys.take k)=val W64 (mid.take k) + W64 ^ k * c
theorem SubRel.start (mid ys:List Nat) (h:Dig W64 mid):SubRel mid ys 0 mid 0:=⟨rfl,rfl,h,by simp⟩
theorem SubRel.at {mid ys m:List Nat} {k c:Nat} (h:SubRel mid ys k m c):m[k]?.getD 0=mid[k]?.getD 0:=by
 have:=congrArg (fun l=>l[0]?.getD 0) h.2.1
 simpa [List.getElem?_drop] using this
theorem SubRel.step {mid ys m:List Nat} {k c z y:Nat} (h:SubRel mid ys k m c) (hk:k < mid.length) (hz:m[k]?.getD 0=z) (hy:ys[k]?.getD 0=y) (hyl:k < ys.length) (hd:Dig W64 ys) (hc:c≤1):SubRel mid ys (k + 1) (m.set k (subLo z y c)) (subHi z y c):=by
 have e1:mid[k]?.getD 0=z:=h.at.symm.trans hz
 obtain ⟨h1,h2,h3,h4⟩:=h
 have sp:=sub_spec (hz ▸ h3.getD W64_pos k) (hy ▸ hd.getD W64_pos k) hc
 refine ⟨by simpa using h1,?_,h3.set k (subLo_lt _ _ _),?_⟩
 ·rw [List.drop_set_of_lt (by omega),← List.drop_drop,← List.drop_drop,h2]
 ·rw [take_set_succ _ _ _ _ (by omega),val_take_succ k hk,val_take_succ k hyl,e1,hy,Nat.pow_succ]
  exact step_sub _ _ _ _ _ _ _ _ _ _ h4 sp
theorem SubRel.step0 {mid ys m:List Nat} {k c z:Nat} (h:SubRel mid ys k m c) (hk:k < mid.length) (hz:m[k]?.getD 0=z) (hyl:ys.length≤k) (hc:c≤1):SubRel mid ys (k + 1) (m.set k (subLo z 0 c)) (subHi z 0 c):=by
 have e1:mid[k]?.getD 0=z:=h.at.symm.trans hz
 obtain ⟨h1,h2,h3,h4⟩:=h
 have sp:=sub_spec (hz ▸ h3.getD W64_pos k) W64_pos hc
 refine ⟨by simpa using h1,?_,h3.set k (subLo_lt _ _ _),?_⟩
 ·rw [List.drop_set_of_lt (by omega),← List.drop_drop,← List.drop_drop,h2]
 ·rw [take_set_succ _ _ _ _ (by omega),val_take_succ k hk,e1,Nat.pow_succ,List.take_of_length_le (l:=ys) (by omega)]
  rw [List.take_of_length_le (l:=ys) (by omega)] at h4
  have:=step_sub _ _ _ _ _ _ 0 _ _ _ h4 sp
  simpa using this
theorem SubRel.done {mid ys m:List Nat} {k c:Nat} (h:SubRel mid ys k m c) (hk:ys.length≤k) (hkm:k≤mid.length) (hc:c=0∨k=mid.length) (hle:val W64 ys≤val W64 mid):val W64 m + val W64 ys=val W64 mid:=by
 obtain ⟨h1,h2,h3,h4⟩:=h
 rw [List.take_of_length_le (l:=ys) hk] at h4
 have hz:c=0→val W64 m + val W64 ys=val W64 mid:=by
  rintro rfl
  rw [val_take_drop (xs:=m) k,val_take_drop (xs:=mid) k,h2,h1]
  simp at h4 ⊢
  omega
 rcases hc with hc | rfl
 ·exact hz hc
 ·rw [List.take_of_length_le (by omega),List.take_of_length_le (by omega)] at h4
  rcases Nat.eq_zero_or_pos c with h0 | h0
  ·exact hz h0
  ·have hlt:=val_lt h3
   rw [h1] at hlt
   have:W64 ^ mid.length * 1≤W64 ^ mid.length * c:=Nat.mul_le_mul_left _ h0
   omega
def DiffOf (mid ys m:List Nat):Prop:=val W64 m + val W64 ys=val W64 mid
set_option maxHeartbeats 1000000 in
theorem subtractFrom_any (b c c2 off n m:Nat) (pre mid post ys:List Nat) (A:Option Addr) (w:World) (ho:pre.length=off) (hn:mid.length=n) (hym:ys.length=m) (hO:Own .u64 148 w b (pre ++ mid ++ post)) (hY:Shows .u64 w A ys) (hA:∀ a,A=some a→a.block≠b)
 (hl:ys.length≤mid.length) (hm:mid.length≤1099511627776) (hdm:Dig W64 mid) (hdy:Dig W64 ys) (hle0:val W64 ys≤val W64 mid) :
 Calls Tryz.prog 282 #[.slice (some ⟨b,off,none⟩) n c, .slice A m c2] w fun e w'=>e=.returned (.tuple #[]) ∧
  MidPost 148 b pre post mid.length (DiffOf mid ys) w w':=by
 subst ho hn hym
 have HO:=zh hO
 have HY:=zh hY
 have HA:=zh hA
 have Hdm:=zh hdm
 have Hdy:=zh hdy
 clear hO hY hA hdm hdy
 go_enter Tryz.func282,Tryz.ntmps282
 go_wp2
 go_loopw [4,10] (fun cv i wr=>∃ (k cc:Nat) (m:List Nat),k≤ys.length∧i=.int .i64 k∧cc≤1∧cv=.int .u64 cc∧Hid (SubRel mid ys k m cc)∧Hid (Own .u64 148 wr b (pre ++ m ++ post))∧Hid (Fr (· = b) w wr)∧Hid (SameCap 148 b w wr)) (fun _ i _=>ys.length - (intOf i).toNat)
 case atStart=>exact ⟨0,0,mid,by omega,rfl,by omega,rfl,SubRel.start _ _ Hdm.out,HO.out,Fr.refl _ _,SameCap.refl _ _ _⟩
 case round =>
  obtain ⟨k,cc,m,hk,rfl,hcc,rfl,hR,hO1,hF1,hS1⟩:=hrel
  by_cases hlt:k < ys.length
  ·obtain ⟨b2,off2,rfl,hb2,hcy⟩:=(HY.out.fr hF1.out (fun a ha _=>HA.out a ha)).at hlt
   obtain ⟨y,hy⟩:∃ y,ys[k]?.getD 0=y:=⟨_,rfl⟩
   obtain ⟨z,hz⟩:∃ z,m[k]?.getD 0=z:=⟨_,rfl⟩
   have hkm:k < m.length:=by have:=hR.out.1; omega
   have hcz:=hO1.out.mid (k:=k) hkm
   have hfz:=hO1.out.frozen (pre.length + k)
   rw [hy] at hcy
   rw [hz] at hcz
   have HR2:=zh (hR.out.step (by omega) hz hy hlt Hdy.out hcc)
   have hle:subHi z y cc≤1:=subHi_le _ _ _
   have ha:=run_Sub64 z y cc hcc
   clear hy hz
   go_wp2
   go_roundw
   case rel=>exact ⟨k + 1,_,_,by omega,by go_num,hle,rfl,HR2,hO1.out.set_mid hkm _,hF1.out.setCell (Or.inl rfl) _,hS1.out.setCell _ _ _⟩
   case measure=>simp [intOf]; omega
  ·obtain rfl:k=ys.length:=by omega
   clear hlt
   go_wp2
   obtain ⟨wo,rfl⟩:∃ wo:World,wo=wr:=⟨_,rfl⟩
   go_loopw [4,7] (fun cv i wr=>∃ (k cc:Nat) (m:List Nat),ys.length≤k∧k≤mid.length∧i=.int .i64 k∧cc≤1∧cv=.int .u64 cc∧Hid (SubRel mid ys k m cc)∧Hid (Own .u64 148 wr b (pre ++ m ++ post))∧Hid (Fr (· = b) w wr)∧Hid (SameCap 148 b w wr)) (fun _ i _=>mid.length - (intOf i).toNat)
   case atStart=>exact ⟨_,cc,m,Nat.le_refl _,hl,rfl,hcc,rfl,hR,hO1,hF1,hS1⟩
   case round =>
    clear hR hO1 hF1 hS1 hcc
    obtain ⟨k,c1,m1,hk1,hk2,rfl,hcc,rfl,hR,hO1,hF1,hS1⟩:=hrel
    by_cases hgo:c1≠0∧k < mid.length
    ·obtain ⟨hc0,hlt⟩:=hgo
     obtain rfl:c1=1:=by omega
     obtain ⟨z,hz⟩:∃ z,m1[k]?.getD 0=z:=⟨_,rfl⟩
     have hkm:k < m1.length:=by have:=hR.out.1; omega
     have hcz:=hO1.out.mid (k:=k) hkm
     have hfz:=hO1.out.frozen (pre.length + k)
     rw [hz] at hcz
     have HR2:=zh (hR.out.step0 (by omega) hz hk1 hcc)
     have hle:subHi z 0 1≤1:=subHi_le _ _ _
     have ha:∀ w:World,(callFunc 307 #[.int .u64 (z:Int), .int .u64 0, .int .u64 1]).run Tryz.prog w=.ok (.value (.tuple #[.int .u64 (subLo z 0 1:Nat), .int .u64 (subHi z 0 1:Nat)])) w:=run_Sub64 z 0 1 (by omega)
     clear hz
     go_wp2
     go_roundw
     case rel=>exact ⟨k + 1,_,_,by omega,by omega,by go_num,hle,rfl,HR2,hO1.out.set_mid hkm _,hF1.out.setCell (Or.inl rfl) _,hS1.out.setCell _ _ _⟩
     case measure=>simp [intOf]; omega
    ·have hd:c1=0∨k=mid.length:=by omega
     have HD:=zh (hR.out.done hk1 hk2 hd hle0)
     have hml:=zh hR.out.1
     have hdg:=zh hR.out.2.2.1
     rcases (by omega:c1=0∨c1=1) with rfl | rfl
     ·go_wp2
      go_end0
      exact ⟨rfl,hF1.out,hS1.out,m1,hO1.out,hml.out,hdg.out,HD.out⟩
     ·obtain rfl:k=mid.length:=by omega
      go_wp2
      go_end0
      exact ⟨rfl,hF1.out,hS1.out,m1,hO1.out,hml.out,hdg.out,HD.out⟩
end Go.Proofs.YtbgkofgoeoiciaaGreatDoor

namespace Go.Proofs.YtbgkofgoeoiciaaGreatDoor
open Go.RowKit
set_option maxHeartbeats 1000000 in
theorem isPrime_any (n:Int) (w:World):Calls Tryz.prog 165 #[.int .i64 n] w fun e w'=>e=.returned (.bool (prB n))∧w=w':=by
 rcases Int.lt_or_le n 2 with h | h2
 ·have hp:=zh (prB_false.2 (Pr.not_lt h))
  go_enter Tryz.func165,Tryz.ntmps165
  go_wp2
  go_ret
  exact ⟨by rw [hp.out]; rfl,rfl⟩
 rcases Int.lt_or_le 2147483647 n with h | hm
 ·have hp:=zh (prB_false.2 (Pr.not_gt h))
  have h':¬ n < 2:=by omega
  go_enter Tryz.func165,Tryz.ntmps165
  go_wp2
  go_ret
  exact ⟨by rw [hp.out]; rfl,rfl⟩
 by_cases he:n % 2=0
 ·have hp:Hid (prB n=(n == 2)):=by
   unfold Hid
   by_cases e:n=2
   ·subst e; exact prB_true.2 Pr.two
   ·rw [prB_false.2 (Pr.even he e)]; simp [e]
  have he':(n % 2 == 0)=true:=by simp [he]
  clear he
  go_enter Tryz.func165,Tryz.ntmps165
  go_wp2
  go_ret
  exact ⟨by rw [hp.out]; rfl,rfl⟩
 ·have he':(n % 2 == 0)=false:=by simp [he]
  have HE:=zh he
  clear he
  go_enter Tryz.func165,Tryz.ntmps165
  go_wp2
  go_loop [3] (fun v=>∃ d:Int,3≤d∧d≤46342∧v=.int .i64 d∧Hid (NoDiv n d∧d % 2≠0)) (fun v=>(46344 - intOf v).toNat)
  case atStart=>exact ⟨3,by omega,by omega,rfl,NoDiv.three HE.out,by omega⟩
  case round =>
   obtain ⟨d,hd1,hd2,rfl,hN⟩:=hrel
   obtain ⟨s1,s2⟩:=pr_sq_le (d:=d) (by omega) hd2
   by_cases hlt:d * d≤n
   ·have hd3:=pr_sq_bound hm (by omega) hlt
    by_cases hz:n % d=0
    ·have hp:=zh (prB_false.2 (Pr.not_of_dvd (by omega) hlt hz))
     have hz':(n % d == 0)=true:=by simp [hz]
     clear hz
     go_wp2
     go_ret
     exact ⟨by rw [hp.out]; rfl,rfl⟩
    ·have hz':(n % d == 0)=false:=by simp [hz]
     have HZ:=zh hz
     clear hz
     go_wp2
     go_round
     case rel=>exact ⟨d + 2,by omega,by omega,rfl,hN.out.1.next2 HZ.out HE.out hN.out.2,by have:=hN.out.2; omega⟩
     case measure=>simp [intOf]; omega
   ·have hp:=zh (prB_true.2 (Pr.of_noDiv h2 hm hN.out.1 (by omega) (by omega)))
    go_wp2
    go_ret
    exact ⟨by rw [hp.out]; rfl,rfl⟩
def NpRet (n:Int) (w:World) (e:Ending) (w':World):Prop:=∃ p ok,e=.returned (.tuple #[.int .i64 p, .bool ok])∧NpIs n p ok∧w=w'
set_option maxHeartbeats 1000000 in
theorem nextPrime_hi (n:Int) (w:World) (h:1 < n) (h2:n≤9223372036854775807):Calls Tryz.prog 69 #[.int .i64 n] w (NpRet n w):=by
 have h1:1≤n:=by omega
 go_enter Tryz.func69,Tryz.ntmps69
 go_wp2
 go_loop [4] (fun v=>∃ c:Int,1≤c∧c≤9223372036854775807∧v=.int .i64 c∧Hid (NoPr n (c + 1)∧n≤c)) (fun v=>(2147483648 - intOf v).toNat)
 case atStart=>exact ⟨n,h1,h2,rfl,NoPr.start n,Int.le_refl _⟩
 case round =>
  obtain ⟨c,hc1,hc2,rfl,hN⟩:=hrel
  by_cases hlt:c < 2147483647
  ·cases hp:prB (c + 1) with
   | true =>
     have HP:=zh (prB_true.1 hp)
     go_wp2_with (go_at_call 165; refine (isPrime_any _ _).mono ?_; rintro e w' ⟨rfl,rfl⟩)
     go_ret2
     exact ⟨c + 1,true,rfl,Or.inl ⟨rfl,HP.out,by have:=hN.out.2; omega,hN.out.1⟩,rfl⟩
   | false =>
     have HP:=zh (prB_false.1 hp)
     go_wp2_with (go_at_call 165; refine (isPrime_any _ _).mono ?_; rintro e w' ⟨rfl,rfl⟩)
     go_round
     case rel=>exact ⟨c + 1,by omega,by omega,rfl,hN.out.1.next HP.out,by have:=hN.out.2; omega⟩
     case measure=>simp [intOf]; omega
  ·go_wp2
   go_ret2
   refine ⟨0,false,rfl,Or.inr ⟨rfl,rfl,fun q h1 h2=>?_⟩,rfl⟩
   have h3:=h2.2.1
   exact hN.out.1 q h1 (by omega) h2
set_option maxHeartbeats 1000000 in
theorem nextPrime_lo (n:Int) (w:World) (h:n < 1):Calls Tryz.prog 69 #[.int .i64 n] w (NpRet 1 w):=by
 go_enter Tryz.func69,Tryz.ntmps69
 go_wp2
 go_loop [4] (fun v=>∃ c:Int,1≤c∧c≤9223372036854775807∧v=.int .i64 c∧Hid (NoPr 1 (c + 1)∧1≤c)) (fun v=>(2147483648 - intOf v).toNat)
 case atStart=>exact ⟨1,by omega,by omega,rfl,NoPr.start 1,Int.le_refl _⟩
 case round =>
  obtain ⟨c,hc1,hc2,rfl,hN⟩:=hrel
  by_cases hlt:c < 2147483647
  ·cases hp:prB (c + 1) with
   | true =>
     have HP:=zh (prB_true.1 hp)
     go_wp2_with (go_at_call 165; refine (isPrime_any _ _).mono ?_; rintro e w' ⟨rfl,rfl⟩)
     go_ret2
     exact ⟨c + 1,true,rfl,Or.inl ⟨rfl,HP.out,by have:=hN.out.2; omega,hN.out.1⟩,rfl⟩
   | false =>
     have HP:=zh (prB_false.1 hp)
     go_wp2_with (go_at_call 165; refine (isPrime_any _ _).mono ?_; rintro e w' ⟨rfl,rfl⟩)
     go_round
     case rel=>exact ⟨c + 1,by omega,by omega,rfl,hN.out.1.next HP.out,by have:=hN.out.2; omega⟩
     case measure=>simp [intOf]; omega
  ·go_wp2
   go_ret2
   refine ⟨0,false,rfl,Or.inr ⟨rfl,rfl,fun q h1 h2=>?_⟩,rfl⟩
   have h3:=h2.2.1
   exact hN.out.1 q h1 (by omega) h2
set_option maxHeartbeats 1000000 in
theorem nextPrime_one (w:World):Calls Tryz.prog 69 #[.int .i64 1] w (NpRet 1 w):=by
 go_enter Tryz.func69,Tryz.ntmps69
 go_wp2
 go_loop [4] (fun v=>∃ c:Int,1≤c∧c≤9223372036854775807∧v=.int .i64 c∧Hid (NoPr 1 (c + 1)∧1≤c)) (fun v=>(2147483648 - intOf v).toNat)
 case atStart=>exact ⟨1,by omega,by omega,rfl,NoPr.start 1,Int.le_refl _⟩
 case round =>
  obtain ⟨c,hc1,hc2,rfl,hN⟩:=hrel
  by_cases hlt:c < 2147483647
  ·cases hp:prB (c + 1) with
   | true =>
     have HP:=zh (prB_true.1 hp)
     go_wp2_with (go_at_call 165; refine (isPrime_any _ _).mono ?_; rintro e w' ⟨rfl,rfl⟩)
     go_ret2
     exact ⟨c + 1,true,rfl,Or.inl ⟨rfl,HP.out,by have:=hN.out.2; omega,hN.out.1⟩,rfl⟩
   | false =>
     have HP:=zh (prB_false.1 hp)
     go_wp2_with (go_at_call 165; refine (isPrime_any _ _).mono ?_; rintro e w' ⟨rfl,rfl⟩)
     go_round
     case rel=>exact ⟨c + 1,by omega,by omega,rfl,hN.out.1.next HP.out,by have:=hN.out.2; omega⟩
     case measure=>simp [intOf]; omega
  ·go_wp2
   go_ret2
   refine ⟨0,false,rfl,Or.inr ⟨rfl,rfl,fun q h1 h2=>?_⟩,rfl⟩
   have h3:=h2.2.1
   exact hN.out.1 q h1 (by omega) h2
theorem nextPrime_any (n:Int) (w:World) (h2:n≤9223372036854775807):Calls Tryz.prog 69 #[.int .i64 n] w (NpRet n w):=by
 rcases Int.lt_or_le 1 n with h | h
 ·exact nextPrime_hi n w h h2
 ·rcases (by omega:n < 1∨n=1) with h | rfl
  ·refine (nextPrime_lo n w h).mono ?_
   rintro e w' ⟨p,ok,rfl,hN,rfl⟩
   exact ⟨p,ok,rfl,hN.low (Int.le_refl _) (by omega),rfl⟩
  ·exact nextPrime_one w
end Go.Proofs.YtbgkofgoeoiciaaGreatDoor

namespace Go.Proofs.YtbgkofgoeoiciaaGreatDoor
open Go.RowKit
end Go.Proofs.YtbgkofgoeoiciaaGreatDoor
