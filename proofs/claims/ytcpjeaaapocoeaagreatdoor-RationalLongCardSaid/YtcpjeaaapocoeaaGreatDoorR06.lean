/-
 My texts MulWords, Mul, Madd, App, Ka, Wds put together.
-/
import Derived.Test.YtcpjeaaapocoeaaGreatDoorR04
import Derived.Test.YtcpjeaaapocoeaaGreatDoorR05
set_option maxRecDepth 100000
namespace Go.Proofs.YtcpjeaaapocoeaaGreatDoor
open Go.RowKit
theorem Zbz (a:Nat) (ha:a < W64):IntKind.u64.wrap (a:Int)=(a:Int):=by rw [Zal] at ha; rw [IntKind.wrap_u64]; omega
noncomputable def ZhV (z x u c:Nat):Nat:=Zb7 z (Zb7 (Zbo x u) c 0) 0
noncomputable def ZdZ (z x u c:Nat):Nat:=Zco x u + ZbM (Zbo x u) c 0 + ZbM z (Zb7 (Zbo x u) c 0) 0
theorem Zku (z x u c:Nat):ZhV z x u c + W64 * ZdZ z x u c=z + x * u + c:=by
 have h1:=ZfO x u
 have h2:=ZdX (Zbo x u) c 0
 have h3:=ZdX z (Zb7 (Zbo x u) c 0) 0
 unfold ZhV ZdZ
 rw [Nat.mul_add,Nat.mul_add]
 omega
theorem ZhW {a b:Nat} (ha:a < W64) (hb:b < W64):a * b + W64 + W64≤W64 * W64 + 1:=by
 have h1:a * b≤(W64 - 1) * (W64 - 1):=Nat.mul_le_mul (by omega) (by omega)
 rw [Zal] at *
 omega
theorem ZeT (a:Nat) {n:Nat} (h:W64 * a < W64 * n):a < n:=Nat.lt_of_mul_lt_mul_left h
theorem ZhJ {z x u c:Nat} (hz:z < W64) (hx:x < W64) (hu:u < W64) (hc:c < W64):ZdZ z x u c < W64:=by
 have h1:=Zku z x u c
 have h2:=ZhW hx hu
 exact ZeT _ (by omega)
theorem ZoC {z x u c:Nat} (hz:z < W64) (hx:x < W64) (hu:u < W64) (hc:c < W64) :
 IntKind.u64.wrap (IntKind.u64.wrap ((Zco x u:Int) + (ZbM (Zbo x u) c 0:Int)) + (ZbM z (Zb7 (Zbo x u) c 0) 0:Int))=(ZdZ z x u c:Int):=by
 have h:=ZhJ hz hx hu hc
 unfold ZdZ at *
 rw [← Int.natCast_add,Zbz _ (by omega),← Int.natCast_add,Zbz _ h]
def Zc5 (mid xs:List Nat) (u k:Nat) (m:List Nat) (c:Nat):Prop :=
 m.length=mid.length∧m.drop k=mid.drop k∧Dig W64 m∧c < W64∧val W64 (m.take k) + W64 ^ k * c=val W64 (mid.take k) + val W64 (xs.take k) * u
theorem Zc5.start (mid xs:List Nat) (u:Nat) (h:Dig W64 mid):Zc5 mid xs u 0 mid 0:=⟨rfl,rfl,h,Zag,by simp⟩
theorem Zc5.at {mid xs m:List Nat} {u k c:Nat} (h:Zc5 mid xs u k m c):m[k]?.getD 0=mid[k]?.getD 0:=by
 have:=congrArg (fun l=>l[0]?.getD 0) h.2.1
 simpa [List.getElem?_drop] using this
theorem Zc5.step {mid xs m:List Nat} {u k c z x:Nat} (h:Zc5 mid xs u k m c) (hk:k < mid.length) (hz:m[k]?.getD 0=z) (hx:xs[k]?.getD 0=x) (hxl:k < xs.length) (hxd:Dig W64 xs) (hu:u < W64):Zc5 mid xs u (k + 1) (m.set k (ZhV z x u c)) (ZdZ z x u c):=by
 have e1:mid[k]?.getD 0=z:=h.at.symm.trans hz
 obtain ⟨h1,h2,h3,h5,h4⟩:=h
 refine ⟨by simpa using h1,?_,h3.set k (ZeO _ _ _),ZhJ (hz ▸ h3.getD Zag k) (hx ▸ hxd.getD Zag k) hu h5,?_⟩
 ·rw [List.drop_set_of_lt (by omega),← List.drop_drop,← List.drop_drop,h2]
 ·rw [Zbm _ _ _ _ (by omega),Zaw k hk,Zaw k hxl,e1,hx,Nat.pow_succ]
  exact ZnC _ _ _ _ _ _ _ _ _ _ _ h4 (Zku z x u c)
def Zkg (mid xs:List Nat) (u cc:Nat) (m:List Nat):Prop:=val W64 m + W64 ^ mid.length * cc=val W64 mid + val W64 xs * u
theorem Zc5.done {mid xs m:List Nat} {u c:Nat} (h:Zc5 mid xs u xs.length m c) (hl:xs.length=mid.length):Zkg mid xs u c m:=by
 obtain ⟨h1,h2,h3,h5,h4⟩:=h
 rw [List.take_of_length_le (by omega),List.take_of_length_le (by omega),List.take_of_length_le (by omega),hl] at h4
 exact h4
def ZoD (t:TypeId) (b:Nat) (pre mid post xs:List Nat) (u:Nat) (w:World) (e:Ending) (w':World):Prop :=
 ∃ cc,e=.returned (.int .u64 (cc:Nat))∧cc < W64∧Zhf t b pre post mid.length (Zkg mid xs u cc) w w'
set_option maxHeartbeats 1000000 in
theorem ZfA (b c c2 off n m u:Nat) (pre mid post xs:List Nat) (A:Option Addr) (w:World) (ho:pre.length=off) (hn:mid.length=n) (hxm:xs.length=m) (hO:Own .u64 217 w b (pre ++ mid ++ post)) (hX:Zai .u64 w A xs) (hA:∀ a,A=some a→a.block≠b)
 (hl:xs.length=mid.length) (hm:mid.length≤1099511627776) (hdm:Dig W64 mid) (hdx:Dig W64 xs) (hu:u < W64) :
 Calls Tryz.prog 297 #[.slice (some ⟨b,off,none⟩) n c, .slice A m c2, .int .u64 (u:Int)] w (ZoD 217 b pre mid post xs u w):=by
 subst ho hn hxm
 have HO:=zh hO
 have HX:=zh hX
 have HA:=zh hA
 have Hdm:=zh hdm
 have Hdx:=zh hdx
 have HL:=zh hl
 have HU:=zh hu
 have hle:xs.length≤mid.length:=by omega
 clear hO hX hA hdm hdx hl hu
 go_enter Tryz.func297,Tryz.ntmps297
 go_wp2
 go_loopw [7,16] (fun cv i wr=>∃ (k cc:Nat) (m:List Nat),k≤xs.length∧i=.int .i64 k∧cv=.int .u64 cc∧Hid (Zc5 mid xs u k m cc)∧Hid (Own .u64 217 wr b (pre ++ m ++ post))∧Hid (Fr (· = b) w wr)∧Hid (ZaL 217 b w wr)) (fun _ i _=>xs.length - (intOf i).toNat)
 case atStart=>exact ⟨0,0,mid,by omega,rfl,rfl,Zc5.start _ _ _ Hdm.out,HO.out,Fr.refl _ _,ZaL.refl _ _ _⟩
 case round =>
  obtain ⟨k,cc,m,hk,rfl,rfl,hR,hO1,hF1,hS1⟩:=hrel
  by_cases hlt:k < xs.length
  ·obtain ⟨b2,off2,rfl,hb2,hcx⟩:=(HX.out.fr hF1.out (fun a ha _=>HA.out a ha)).at hlt
   obtain ⟨x,ex⟩:∃ x,xs[k]?.getD 0=x:=⟨_,rfl⟩
   obtain ⟨z,ez⟩:∃ z,m[k]?.getD 0=z:=⟨_,rfl⟩
   have hkm:k < m.length:=by have:=hR.out.1; omega
   have hcz:=hO1.out.mid (k:=k) hkm
   have hfz:=hO1.out.frozen (pre.length + k)
   rw [ex] at hcx
   rw [ez] at hcz
   have Hx:Hid (x < W64):=ex ▸ Hdx.out.getD Zag k
   have HR2:=zh (hR.out.step (by omega) ez ex hlt Hdx.out HU.out)
   have HW:=zh (ZoC (ez ▸ hR.out.2.2.1.getD Zag k) Hx.out HU.out hR.out.2.2.2.1)
   clear ex ez
   have ha:=ZeQ
   go_wp2_with (go_at_call 353; refine (Zep _ _ Hx.out HU.out _).mono ?_; rintro e w' ⟨rfl,rfl⟩)
   go_roundw
   case rel=>exact ⟨k + 1,_,_,by omega,by go_num,by rw [HW.out],HR2,hO1.out.set_mid hkm _,hF1.out.setCell (Or.inl rfl) _,hS1.out.setCell _ _ _⟩
   case measure=>simp [intOf]; omega
  ·obtain rfl:k=xs.length:=by omega
   go_wp2
   go_ret
   exact ⟨cc,rfl,hR.out.2.2.2.1,hF1.out,hS1.out,m,hO1.out,hR.out.1,hR.out.2.2.1,hR.out.done HL.out⟩
noncomputable def Zfa (z x u c:Nat):Nat:=ZdI z (Zb7 (Zbo x u) c 0) 0
noncomputable def ZdC (z x u c:Nat):Nat:=Zco x u + ZbM (Zbo x u) c 0 + ZcH z (Zb7 (Zbo x u) c 0) 0
theorem ZjB {z:Nat} (hz:z < W64) (x u c:Nat):Zfa z x u c + x * u + c=z + W64 * ZdC z x u c:=by
 have h1:=ZfO x u
 have h2:=ZdX (Zbo x u) c 0
 have h3:=ZfN hz (ZeO (Zbo x u) c 0) (c:=0) (by omega)
 unfold Zfa ZdC
 rw [Nat.mul_add,Nat.mul_add]
 omega
theorem ZgA {z x u c:Nat} (hz:z < W64) (hx:x < W64) (hu:u < W64) (hc:c < W64):ZdC z x u c < W64:=by
 have h1:=ZjB hz x u c
 have h2:=ZhW hx hu
 have h3:Zfa z x u c < W64:=ZeP _ _ _
 exact ZeT _ (by omega)
theorem ZnF {z x u c:Nat} (hz:z < W64) (hx:x < W64) (hu:u < W64) (hc:c < W64) :
 IntKind.u64.wrap (IntKind.u64.wrap ((Zco x u:Int) + (ZbM (Zbo x u) c 0:Int)) + (ZcH z (Zb7 (Zbo x u) c 0) 0:Int))=(ZdC z x u c:Int):=by
 have h:=ZgA hz hx hu hc
 unfold ZdC at *
 rw [← Int.natCast_add,Zbz _ (by omega),← Int.natCast_add,Zbz _ h]
def ZcC (mid xs:List Nat) (u k:Nat) (m:List Nat) (c:Nat):Prop :=
 m.length=mid.length∧m.drop k=mid.drop k∧Dig W64 m∧c < W64∧val W64 (m.take k) + val W64 (xs.take k) * u=val W64 (mid.take k) + W64 ^ k * c
theorem ZcC.start (mid xs:List Nat) (u:Nat) (h:Dig W64 mid):ZcC mid xs u 0 mid 0:=⟨rfl,rfl,h,Zag,by simp⟩
theorem ZcC.at {mid xs m:List Nat} {u k c:Nat} (h:ZcC mid xs u k m c):m[k]?.getD 0=mid[k]?.getD 0:=by
 have:=congrArg (fun l=>l[0]?.getD 0) h.2.1
 simpa [List.getElem?_drop] using this
theorem ZcC.step {mid xs m:List Nat} {u k c z x:Nat} (h:ZcC mid xs u k m c) (hk:k < mid.length) (hz:m[k]?.getD 0=z) (hx:xs[k]?.getD 0=x) (hxl:k < xs.length) (hxd:Dig W64 xs) (hu:u < W64):ZcC mid xs u (k + 1) (m.set k (Zfa z x u c)) (ZdC z x u c):=by
 have e1:mid[k]?.getD 0=z:=h.at.symm.trans hz
 obtain ⟨h1,h2,h3,h5,h4⟩:=h
 have hzd:z < W64:=hz ▸ h3.getD Zag k
 refine ⟨by simpa using h1,?_,h3.set k (ZeP _ _ _),ZgA hzd (hx ▸ hxd.getD Zag k) hu h5,?_⟩
 ·rw [List.drop_set_of_lt (by omega),← List.drop_drop,← List.drop_drop,h2]
 ·rw [Zbm _ _ _ _ (by omega),Zaw k hk,Zaw k hxl,e1,hx,Nat.pow_succ]
  exact ZmM _ _ _ _ _ _ _ _ _ _ _ h4 (ZjB hzd x u c)
def Zkv (mid xs:List Nat) (u cc:Nat) (m:List Nat):Prop:=val W64 m + val W64 xs * u=val W64 mid + W64 ^ mid.length * cc
theorem ZcC.done {mid xs m:List Nat} {u c:Nat} (h:ZcC mid xs u xs.length m c) (hl:xs.length=mid.length):Zkv mid xs u c m:=by
 obtain ⟨h1,h2,h3,h5,h4⟩:=h
 rw [List.take_of_length_le (by omega),List.take_of_length_le (by omega),List.take_of_length_le (by omega),hl] at h4
 exact h4
def ZnG (t:TypeId) (b:Nat) (pre mid post xs:List Nat) (u:Nat) (w:World) (e:Ending) (w':World):Prop :=
 ∃ cc,e=.returned (.int .u64 (cc:Nat))∧cc < W64∧Zhf t b pre post mid.length (Zkv mid xs u cc) w w'
set_option maxHeartbeats 1000000 in
theorem Zgr (b c c2 off n m u:Nat) (pre mid post xs:List Nat) (A:Option Addr) (w:World) (ho:pre.length=off) (hn:mid.length=n) (hxm:xs.length=m) (hO:Own .u64 217 w b (pre ++ mid ++ post)) (hX:Zai .u64 w A xs) (hA:∀ a,A=some a→a.block≠b)
 (hl:xs.length=mid.length) (hm:mid.length≤1099511627776) (hdm:Dig W64 mid) (hdx:Dig W64 xs) (hu:u < W64) :
 Calls Tryz.prog 395 #[.slice (some ⟨b,off,none⟩) n c, .slice A m c2, .int .u64 (u:Int)] w (ZnG 217 b pre mid post xs u w):=by
 subst ho hn hxm
 have HO:=zh hO
 have HX:=zh hX
 have HA:=zh hA
 have Hdm:=zh hdm
 have Hdx:=zh hdx
 have HL:=zh hl
 have HU:=zh hu
 have hle:xs.length≤mid.length:=by omega
 clear hO hX hA hdm hdx hl hu
 go_enter Tryz.func395,Tryz.ntmps395
 go_wp2
 go_loopw [7,16] (fun cv i wr=>∃ (k cc:Nat) (m:List Nat),k≤xs.length∧i=.int .i64 k∧cv=.int .u64 cc∧Hid (ZcC mid xs u k m cc)∧Hid (Own .u64 217 wr b (pre ++ m ++ post))∧Hid (Fr (· = b) w wr)∧Hid (ZaL 217 b w wr)) (fun _ i _=>xs.length - (intOf i).toNat)
 case atStart=>exact ⟨0,0,mid,by omega,rfl,rfl,ZcC.start _ _ _ Hdm.out,HO.out,Fr.refl _ _,ZaL.refl _ _ _⟩
 case round =>
  obtain ⟨k,cc,m,hk,rfl,rfl,hR,hO1,hF1,hS1⟩:=hrel
  by_cases hlt:k < xs.length
  ·obtain ⟨b2,off2,rfl,hb2,hcx⟩:=(HX.out.fr hF1.out (fun a ha _=>HA.out a ha)).at hlt
   obtain ⟨x,ex⟩:∃ x,xs[k]?.getD 0=x:=⟨_,rfl⟩
   obtain ⟨z,ez⟩:∃ z,m[k]?.getD 0=z:=⟨_,rfl⟩
   have hkm:k < m.length:=by have:=hR.out.1; omega
   have hcz:=hO1.out.mid (k:=k) hkm
   have hfz:=hO1.out.frozen (pre.length + k)
   rw [ex] at hcx
   rw [ez] at hcz
   have Hx:Hid (x < W64):=ex ▸ Hdx.out.getD Zag k
   have HR2:=zh (hR.out.step (by omega) ez ex hlt Hdx.out HU.out)
   have HW:=zh (ZnF (ez ▸ hR.out.2.2.1.getD Zag k) Hx.out HU.out hR.out.2.2.2.1)
   clear ex ez
   have ha:=ZeQ
   have hsb:=Zkr
   go_wp2_with (go_at_call 353; refine (Zep _ _ Hx.out HU.out _).mono ?_; rintro e w' ⟨rfl,rfl⟩)
   go_roundw
   case rel=>exact ⟨k + 1,_,_,by omega,by go_num,by rw [HW.out],HR2,hO1.out.set_mid hkm _,hF1.out.setCell (Or.inl rfl) _,hS1.out.setCell _ _ _⟩
   case measure=>simp [intOf]; omega
  ·obtain rfl:k=xs.length:=by omega
   go_wp2
   go_ret
   exact ⟨cc,rfl,hR.out.2.2.2.1,hF1.out,hS1.out,m,hO1.out,hR.out.1,hR.out.2.2.1,hR.out.done HL.out⟩
end Go.Proofs.YtcpjeaaapocoeaaGreatDoor

namespace Go.Proofs.YtcpjeaaapocoeaaGreatDoor
open Go.RowKit
theorem Zkx (zs:List Nat) (k n:Nat):zs.take k ++ (zs.drop k).take n ++ zs.drop (k + n)=zs:=by
 rw [List.append_assoc,← List.drop_drop,List.take_append_drop,List.take_append_drop]
def ZbS (xs ys:List Nat) (k:Nat) (zs:List Nat):Prop :=
 zs.length=xs.length + ys.length∧Dig W64 zs∧val W64 (zs.take (k + xs.length))=val W64 xs * val W64 (ys.take k)
theorem ZbS.start (xs ys:List Nat):ZbS xs ys 0 (List.replicate (xs.length + ys.length) 0):=by
 refine ⟨by simp,Dig.replicate Zag _,?_⟩
 rw [List.take_replicate,Zbd]; simp
theorem ZbS.step {xs ys zs m:List Nat} {k y cc:Nat} (h:ZbS xs ys k zs) (hk:k < ys.length) (hy:ys[k]?.getD 0=y) (hm:m.length=xs.length) (hd:Dig W64 m) (hc:cc < W64)
 (hq:Zkg ((zs.drop k).take xs.length) xs y cc m):ZbS xs ys (k + 1) ((zs.take k ++ m ++ zs.drop (k + xs.length)).set (k + xs.length) cc):=by
 obtain ⟨h1,h2,h3⟩:=h
 have hl:(zs.take k ++ m).length=k + xs.length:=by simp [hm]; omega
 refine ⟨by simp [hm]; omega,Dig.set (((h2.take k).append hd).append (h2.drop _)) _ hc,?_⟩
 have e1:((zs.take k ++ m ++ zs.drop (k + xs.length)).set (k + xs.length) cc).take (k + 1 + xs.length)=zs.take k ++ m ++ [cc]:=by
  rw [List.set_append_right _ _ (by omega),hl,Nat.sub_self,List.take_append,hl,List.take_of_length_le (by omega)]
  congr 1
  have:k + 1 + xs.length - (k + xs.length)=1:=by omega
  rw [this]
  have hne:0 < (zs.drop (k + xs.length)).length:=by simp; omega
  cases hz:zs.drop (k + xs.length) with
  | nil=>rw [hz] at hne; simp at hne
  | cons a l=>simp
 rw [e1,ZaQ,hl,ZaQ,Zaw k hk,hy]
 have hlk:(zs.take k).length=k:=by simp; omega
 have e2:val W64 (zs.take (k + xs.length))=val W64 (zs.take k) + W64 ^ k * val W64 ((zs.drop k).take xs.length):=by
  have:zs.take (k + xs.length)=zs.take k ++ (zs.drop k).take xs.length:=by rw [List.take_add]
  rw [this,ZaQ,hlk]
 unfold Zkg at hq
 have hml:((zs.drop k).take xs.length).length=xs.length:=by simp; omega
 rw [hml] at hq
 rw [hlk,Nat.pow_add,Nat.mul_add,← h3,e2]
 simp only [Zb1,ZcS,Nat.mul_zero,Nat.add_zero]
 have e3:=congrArg (W64 ^ k * ·) hq
 simp only [Nat.mul_add] at e3
 have e4:W64 ^ k * W64 ^ xs.length * cc=W64 ^ k * (W64 ^ xs.length * cc):=Nat.mul_assoc _ _ _
 have e5:val W64 xs * (W64 ^ k * y)=W64 ^ k * (val W64 xs * y):=Nat.mul_left_comm _ _ _
 omega
theorem ZbS.done {xs ys zs:List Nat} (h:ZbS xs ys ys.length zs):val W64 zs=val W64 xs * val W64 ys:=by
 obtain ⟨h1,h2,h3⟩:=h
 rw [List.take_of_length_le (by omega),List.take_of_length_le (by omega)] at h3
 exact h3
set_option maxHeartbeats 1000000 in
theorem ZgB (A A2:Option Addr) (xs ys:List Nat) (c c2:Nat) (w:World) (hX:Zai .u64 w A xs) (hY:Zai .u64 w A2 ys) (hc:xs.length≤c) (hl:xs.length≤4294967296) (hxy:ys.length≤xs.length) (h40:ys.length < 40)
 (hx:Dig W64 xs) (hy:Dig W64 ys) (tx:Trim xs) :
 Calls Tryz.prog 226 #[.slice A xs.length c, .slice A2 ys.length c2] w (ZaN w A A2 (val W64 xs * val W64 ys)):=by
 have HX:=zh hX
 have HY:=zh hY
 have Hx:=zh hx
 have Hy:=zh hy
 have Tx:=zh tx
 clear hX hY hx hy tx
 by_cases h0:ys.length=0
 ·obtain rfl:ys=[]:=List.length_eq_zero_iff.1 h0
  clear h0 Hy HY hxy h40
  go_enter Tryz.func226,Tryz.ntmps226
  go_wp2
  go_ret
  exact ⟨none,0,0,rfl,by simpa using Zad.zero w,Fr.refl _ _,fun a h=>by cases h⟩
 have h0':(((ys.length:Nat):Int) == 0)=false:=by simp; intro e; simp [e] at h0
 by_cases h1:ys=[1]
 ·subst h1
  obtain ⟨b2,off2,rfl,hb2,hcy⟩:=HY.out.at (i:=0) (by simp)
  have hcy':w.cell? ⟨b2,off2,none⟩=some (.int .u64 1):=by simpa using hcy
  have hxy':1≤xs.length:=by simpa using hxy
  clear h0 Hy HY hxy h40 hcy h0'
  go_enter Tryz.func226,Tryz.ntmps226
  go_wp2
  go_ret
  exact ⟨_,_,_,rfl,⟨A,xs,c,rfl,hc,HX.out,Hx.out,Tx.out,by simp⟩,Fr.refl _ _,fun a _=>Or.inr (Or.inl rfl)⟩
 ·have hone:Hid (ys.length=1→ys[0]?.getD 0≠1):=by
   intro e1 e2
   obtain ⟨y,rfl⟩:=List.length_eq_one_iff.1 e1
   simp at e2; exact h1 (by rw [e2])
  clear h1
  obtain ⟨y0,ey0⟩:∃ y0,ys[0]?.getD 0=y0:=⟨_,rfl⟩
  obtain ⟨b2,off2,rfl,hb2,hcy⟩:=HY.out.at (i:=0) (by omega)
  rw [ey0] at hcy
  have hcy':w.cell? ⟨b2,off2,none⟩=some (.int .u64 (y0:Nat)):=by simpa using hcy
  clear hcy
  have hcases:(((ys.length:Nat):Int) == 1)=false∨((((ys.length:Nat):Int) == 1)=true∧(((y0:Nat):Int) == 1)=false):=by
   by_cases e1:ys.length=1
   ·refine Or.inr ⟨by simp [e1],?_⟩
    have:=hone.out e1
    rw [ey0] at this
    simp; omega
   ·refine Or.inl ?_
    simp; omega
  clear ey0 hone
  have hylen:0 < ys.length:=by omega
  clear h0
  rcases hcases with hc1 | ⟨hc1,hc2'⟩
  all_goals
   go_enter Tryz.func226,Tryz.ntmps226
   go_wp2_with (at_make
                refine ZaD rfl _ _ _ rfl _ _ _ Tryz.underlying133 ZbR _ _ _ _ (xs.length + ys.length) rfl rfl (by omega) (by omega) (by omega) (by omega) ?_
                intro b w1 hb hO1 _ hF1 hs1
                have HO1:=zh hO1
                have HF1:=zh hF1
                have Hb:=zh hb
                clear hO1 hF1 hb hs1)
   go_loopw [55] (fun i wr=>∃ (k:Nat) (zs:List Nat),k≤ys.length∧i=.int .i64 k∧Hid (ZbS xs ys k zs)∧Hid (Own .u64 217 wr b zs)∧Hid (Ext w wr)) (fun i _=>ys.length - (intOf i).toNat)
   case atStart=>exact ⟨0,_,by omega,rfl,ZbS.start _ _,HO1.out,HF1.out⟩
   case round =>
    obtain ⟨k,zs,hk,rfl,hR,hO2,hF2⟩:=hrel
    by_cases hlt:k < ys.length
    ·obtain ⟨b3,off3,e3,hb3,hck⟩:=(HY.out.ext hF2.out).at hlt
     injection e3 with e3
     injection e3 with e31 e32
     subst e31 e32
     obtain ⟨y,ey⟩:∃ y,ys[k]?.getD 0=y:=⟨_,rfl⟩
     rw [ey] at hck
     have EY:=zh ey
     clear ey
     have hkk:k < xs.length + ys.length:=by omega
     have hkx:k + xs.length≤xs.length + ys.length:=by omega
     have HA:Hid (∀ a,A=some a→a.block≠b):=by
      intro a ha
      obtain ⟨b',off',e',hb',_⟩:=HX.out.at (i:=0) (by omega)
      rw [e'] at ha; injection ha with ha; subst ha
      have:=Hb.out
      show b'≠b
      omega
     have hzl:=hR.out.1
     have HO3:Hid (Own .u64 217 wr b (zs.take k ++ (zs.drop k).take xs.length ++ zs.drop (k + xs.length))):=by rw [Zkx]; exact hO2.out
     have Hyd:Hid (y < W64):=EY.out ▸ Hy.out.getD Zag k
     have HM:=zh (ZfA b (xs.length + ys.length - k) c k xs.length xs.length y (zs.take k) ((zs.drop k).take xs.length) (zs.drop (k + xs.length)) xs A wr (by simp; omega) (by simp; omega) rfl HO3.out (HX.out.ext hF2.out) HA.out (by simp; omega) (by simp; omega) ((hR.out.2.1.drop k).take _) Hx.out Hyd.out)
     clear hzl
     go_wp2_with fail
     refine HM.out.mono ?_
     rintro e w2 ⟨cc,rfl,hcc,hF3,_,m,hO4,hml,hdm,hq⟩
     have hml':m.length=xs.length:=by rw [hml]; simp; have:=hR.out.1; omega
     have hzl:=hR.out.1
     have hlen:k + xs.length < (zs.take k ++ m ++ zs.drop (k + xs.length)).length:=by simp; omega
     have hcs:=hO4.cell hlen
     have hfs:=hO4.frozen (k + xs.length)
     obtain ⟨v0,hv0⟩:∃ v0,(zs.take k ++ m ++ zs.drop (k + xs.length))[k + xs.length]?.getD 0=v0:=⟨_,rfl⟩
     rw [hv0] at hcs
     have HR2:=zh (hR.out.step hlt EY.out hml' hdm hcc hq)
     have HO5:=zh (hO4.set (k + xs.length) cc hlen)
     have HF5:Hid (Ext w w2):=hF2.out.next hF3 (fun i hi e=>by have:=Hb.out; omega)
     clear hcc hF3 hO4 hml hdm hq hv0 hzl hlen hml' HM HO3
     go_wp2
     go_roundw
     case rel=>exact ⟨k + 1,_,by omega,by go_num,HR2,HO5.out,HF5.out.setCell (Or.inr (by have:=Hb.out; show w.heap.size≤b; omega)) _⟩
     case measure=>simp [intOf]; omega
    ·obtain rfl:k=ys.length:=by omega
     have hz:=hR.out.1
     have HT:=zh (Za5 _ zs (xs.length + ys.length) (xs.length + ys.length) wr hz hO2.out.shows0 (by omega) (by omega))
     have HN:=zh (Zad.of_own (c:=xs.length + ys.length) hO2.out hR.out.2.1 (by omega))
     rw [hR.out.done] at HN
     clear hz
     go_wp2_with fail
     refine HT.out.mono ?_
     rintro e w2 ⟨rfl,rfl⟩
     clear HT
     go_wp2
     go_ret
     exact ⟨_,_,_,rfl,HN.out,hF2.out,fun a h=>Or.inl (by injection h with h; subst h; have:=Hb.out; show w.heap.size≤b; omega)⟩
set_option maxHeartbeats 1000000 in
theorem ZgC (A A2:Option Addr) (xs ys:List Nat) (c c2:Nat) (w:World) (hX:Zai .u64 w A xs) (hY:Zai .u64 w A2 ys) (hc:xs.length≤c) (hl:xs.length≤4294967296) (hxy:ys.length < xs.length) (h40:ys.length < 40)
 (hx:Dig W64 xs) (hy:Dig W64 ys) (tx:Trim xs) :
 Calls Tryz.prog 226 #[.slice A2 ys.length c2, .slice A xs.length c] w (ZaN w A A2 (val W64 xs * val W64 ys)):=by
 have HX:=zh hX
 have HY:=zh hY
 have Hx:=zh hx
 have Hy:=zh hy
 have Tx:=zh tx
 clear hX hY hx hy tx
 by_cases h0:ys.length=0
 ·obtain rfl:ys=[]:=List.length_eq_zero_iff.1 h0
  clear h0 Hy HY h40
  simp only [List.length_nil] at hxy
  go_enter Tryz.func226,Tryz.ntmps226
  go_wp2
  go_ret
  exact ⟨none,0,0,rfl,by simpa using Zad.zero w,Fr.refl _ _,fun a h=>by cases h⟩
 have h0':(((ys.length:Nat):Int) == 0)=false:=by simp; intro e; simp [e] at h0
 by_cases h1:ys=[1]
 ·subst h1
  obtain ⟨b2,off2,rfl,hb2,hcy⟩:=HY.out.at (i:=0) (by simp)
  have hcy':w.cell? ⟨b2,off2,none⟩=some (.int .u64 1):=by simpa using hcy
  have hxy':1 < xs.length:=by simpa using hxy
  clear h0 Hy HY hxy h40 hcy h0'
  go_enter Tryz.func226,Tryz.ntmps226
  go_wp2
  go_ret
  exact ⟨_,_,_,rfl,⟨A,xs,c,rfl,hc,HX.out,Hx.out,Tx.out,by simp⟩,Fr.refl _ _,fun a _=>Or.inr (Or.inl rfl)⟩
 ·have hone:Hid (ys.length=1→ys[0]?.getD 0≠1):=by
   intro e1 e2
   obtain ⟨y,rfl⟩:=List.length_eq_one_iff.1 e1
   simp at e2; exact h1 (by rw [e2])
  clear h1
  obtain ⟨y0,ey0⟩:∃ y0,ys[0]?.getD 0=y0:=⟨_,rfl⟩
  obtain ⟨b2,off2,rfl,hb2,hcy⟩:=HY.out.at (i:=0) (by omega)
  rw [ey0] at hcy
  have hcy':w.cell? ⟨b2,off2,none⟩=some (.int .u64 (y0:Nat)):=by simpa using hcy
  clear hcy
  have hcases:(((ys.length:Nat):Int) == 1)=false∨((((ys.length:Nat):Int) == 1)=true∧(((y0:Nat):Int) == 1)=false):=by
   by_cases e1:ys.length=1
   ·refine Or.inr ⟨by simp [e1],?_⟩
    have:=hone.out e1
    rw [ey0] at this
    simp; omega
   ·refine Or.inl ?_
    simp; omega
  clear ey0 hone
  have hylen:0 < ys.length:=by omega
  clear h0
  rcases hcases with hc1 | ⟨hc1,hc2'⟩
  all_goals
   go_enter Tryz.func226,Tryz.ntmps226
   go_wp2_with (at_make
                refine ZaD rfl _ _ _ rfl _ _ _ Tryz.underlying133 ZbR _ _ _ _ (xs.length + ys.length) rfl rfl (by omega) (by omega) (by omega) (by omega) ?_
                intro b w1 hb hO1 _ hF1 hs1
                have HO1:=zh hO1
                have HF1:=zh hF1
                have Hb:=zh hb
                clear hO1 hF1 hb hs1)
   go_loopw [55] (fun i wr=>∃ (k:Nat) (zs:List Nat),k≤ys.length∧i=.int .i64 k∧Hid (ZbS xs ys k zs)∧Hid (Own .u64 217 wr b zs)∧Hid (Ext w wr)) (fun i _=>ys.length - (intOf i).toNat)
   case atStart=>exact ⟨0,_,by omega,rfl,ZbS.start _ _,HO1.out,HF1.out⟩
   case round =>
    obtain ⟨k,zs,hk,rfl,hR,hO2,hF2⟩:=hrel
    by_cases hlt:k < ys.length
    ·obtain ⟨b3,off3,e3,hb3,hck⟩:=(HY.out.ext hF2.out).at hlt
     injection e3 with e3
     injection e3 with e31 e32
     subst e31 e32
     obtain ⟨y,ey⟩:∃ y,ys[k]?.getD 0=y:=⟨_,rfl⟩
     rw [ey] at hck
     have EY:=zh ey
     clear ey
     have hkk:k < xs.length + ys.length:=by omega
     have hkx:k + xs.length≤xs.length + ys.length:=by omega
     have HA:Hid (∀ a,A=some a→a.block≠b):=by
      intro a ha
      obtain ⟨b',off',e',hb',_⟩:=HX.out.at (i:=0) (by omega)
      rw [e'] at ha; injection ha with ha; subst ha
      have:=Hb.out
      show b'≠b
      omega
     have hzl:=hR.out.1
     have HO3:Hid (Own .u64 217 wr b (zs.take k ++ (zs.drop k).take xs.length ++ zs.drop (k + xs.length))):=by rw [Zkx]; exact hO2.out
     have Hyd:Hid (y < W64):=EY.out ▸ Hy.out.getD Zag k
     have HM:=zh (ZfA b (xs.length + ys.length - k) c k xs.length xs.length y (zs.take k) ((zs.drop k).take xs.length) (zs.drop (k + xs.length)) xs A wr (by simp; omega) (by simp; omega) rfl HO3.out (HX.out.ext hF2.out) HA.out (by simp; omega) (by simp; omega) ((hR.out.2.1.drop k).take _) Hx.out Hyd.out)
     clear hzl
     go_wp2_with fail
     refine HM.out.mono ?_
     rintro e w2 ⟨cc,rfl,hcc,hF3,_,m,hO4,hml,hdm,hq⟩
     have hml':m.length=xs.length:=by rw [hml]; simp; have:=hR.out.1; omega
     have hzl:=hR.out.1
     have hlen:k + xs.length < (zs.take k ++ m ++ zs.drop (k + xs.length)).length:=by simp; omega
     have hcs:=hO4.cell hlen
     have hfs:=hO4.frozen (k + xs.length)
     obtain ⟨v0,hv0⟩:∃ v0,(zs.take k ++ m ++ zs.drop (k + xs.length))[k + xs.length]?.getD 0=v0:=⟨_,rfl⟩
     rw [hv0] at hcs
     have HR2:=zh (hR.out.step hlt EY.out hml' hdm hcc hq)
     have HO5:=zh (hO4.set (k + xs.length) cc hlen)
     have HF5:Hid (Ext w w2):=hF2.out.next hF3 (fun i hi e=>by have:=Hb.out; omega)
     clear hcc hF3 hO4 hml hdm hq hv0 hzl hlen hml' HM HO3
     go_wp2
     go_roundw
     case rel=>exact ⟨k + 1,_,by omega,by go_num,HR2,HO5.out,HF5.out.setCell (Or.inr (by have:=Hb.out; show w.heap.size≤b; omega)) _⟩
     case measure=>simp [intOf]; omega
    ·obtain rfl:k=ys.length:=by omega
     have hz:=hR.out.1
     have HT:=zh (Za5 _ zs (xs.length + ys.length) (xs.length + ys.length) wr hz hO2.out.shows0 (by omega) (by omega))
     have HN:=zh (Zad.of_own (c:=xs.length + ys.length) hO2.out hR.out.2.1 (by omega))
     rw [hR.out.done] at HN
     clear hz
     go_wp2_with fail
     refine HT.out.mono ?_
     rintro e w2 ⟨rfl,rfl⟩
     clear HT
     go_wp2
     go_ret
     exact ⟨_,_,_,rfl,HN.out,hF2.out,fun a h=>Or.inl (by injection h with h; subst h; have:=Hb.out; show w.heap.size≤b; omega)⟩
theorem Zer (A A2:Option Addr) (l c l2 c2 x y:Nat) (w:World) (hX:Zad w (.slice A l c) x) (hY:Zad w (.slice A2 l2 c2) y) (hx:wl x≤4294967296) (hy:wl y≤4294967296) (h40:wl x < 40∨wl y < 40):Calls Tryz.prog 226 #[.slice A l c, .slice A2 l2 c2] w (ZaN w A A2 (x * y)):=by
 obtain ⟨A',xs,c',e,hc,h1,h2,h3,rfl⟩:=hX
 obtain ⟨A2',ys,c2',e2,hc2,k1,k2,k3,rfl⟩:=hY
 injection e with e3 e4 e5
 subst e3 e4 e5
 injection e2 with e3 e4 e5
 subst e3 e4 e5
 rw [← ZaE h2 h3] at hx h40
 rw [← ZaE k2 k3] at hy h40
 rcases Nat.lt_or_ge xs.length ys.length with hlt | hge
 ·rw [Nat.mul_comm]
  exact (ZgC A2 A ys xs c2 c w k1 h1 hc2 hy hlt (by omega) k2 h2 k3).mono fun _ _ h=>h.swap
 ·exact ZgB A A2 xs ys c c2 w h1 k1 hc hx hge (by omega) h2 k2 h3
theorem Zcz (xv yv:Value) (x y:Nat) (w:World) (hX:Zad w xv x) (hY:Zad w yv y) (hx:wl x≤4294967296) (hy:wl y≤4294967296) (h40:wl x < 40∨wl y < 40):Calls Tryz.prog 226 #[xv,yv] w (Za0 w (x * y)):=by
 obtain ⟨A,xs,c,rfl,_⟩:=id hX
 obtain ⟨A2,ys,c2,rfl,_⟩:=id hY
 exact (Zer A A2 _ c _ c2 x y w hX hY hx hy h40).mono fun _ _ h=>h.ret
end Go.Proofs.YtcpjeaaapocoeaaGreatDoor

namespace Go.Proofs.YtcpjeaaapocoeaaGreatDoor
open Go.RowKit
noncomputable def maLo (x y c:Nat):Nat:=Zb7 (Zbo x y) c 0
noncomputable def maHi (x y c:Nat):Nat:=Zco x y + ZbM (Zbo x y) c 0
theorem Zhk (x y c:Nat):maLo x y c + W64 * maHi x y c=x * y + c:=by
 have h1:=ZfO x y
 have h2:=ZdX (Zbo x y) c 0
 unfold maLo maHi
 rw [Nat.mul_add]
 omega
theorem Zjm (x y c:Nat):maLo x y c < W64:=ZeO _ _ _
theorem Zhl {x y c:Nat} (hx:x < W64) (hy:y < W64) (hc:c < W64):maHi x y c < W64:=by
 have h1:=Zhk x y c
 have h2:=ZhW hx hy
 exact ZeT _ (by omega)
set_option maxHeartbeats 1000000 in
theorem Zbi (x y c:Nat) (w:World) (hx:x < W64) (hy:y < W64) (hc:c < W64) :
 Calls Tryz.prog 356 #[.int .u64 (x:Int), .int .u64 (y:Int), .int .u64 (c:Int)] w fun e w'=>e=.returned (.tuple #[.int .u64 (maLo x y c:Int), .int .u64 (maHi x y c:Int)])∧w=w':=by
 have HX:=zh hx
 have HY:=zh hy
 have HW:Hid (IntKind.u64.wrap ((Zco x y:Int) + (ZbM (Zbo x y) c 0:Int))=(maHi x y c:Int)):=by
  have h:=Zhl hx hy hc
  unfold Hid maHi at *
  rw [← Int.natCast_add,Zbz _ h]
 clear hx hy hc
 have ha:=ZeQ
 go_enter Tryz.func356,Tryz.ntmps356
 go_wp2_with (go_at_call 353; refine (Zep _ _ HX.out HY.out _).mono ?_; rintro e w' ⟨rfl,rfl⟩)
 go_ret2
 exact ⟨by rw [← HW.out]; rfl,rfl⟩
end Go.Proofs.YtcpjeaaapocoeaaGreatDoor

namespace Go.Proofs.YtcpjeaaapocoeaaGreatDoor
def ZbV (u v:Nat) (xs ys os:List Nat) (k:Nat) (zs:List Nat) (cM cN bo:Nat):Prop :=
 zs.length=os.length∧zs.drop k=os.drop k∧Dig W64 zs∧cM < W64∧cN < W64∧bo≤1 ∧
  val W64 (zs.take k) + u * val W64 (xs.take k) + W64 ^ k * cN=v * val W64 (ys.take k) + W64 ^ k * (cM + bo)
theorem ZbV.start {u v:Nat} {xs ys os:List Nat} (h:Dig W64 os):ZbV u v xs ys os 0 os 0 0 0:=⟨rfl,rfl,h,Zag,Zag,by omega,by simp⟩
theorem ZnR (Bk B V X Y u v x y cM cN bo m n cM' cN' d bo':Nat) (h1:V + u * X + Bk * cN=v * Y + Bk * (cM + bo)) (h2:m + B * cM'=x * u + cM) (h3:n + B * cN'=y * v + cN) (h4:d + m + bo=n + B * bo') :
 V + Bk * d + u * (X + Bk * x) + Bk * B * cN'=v * (Y + Bk * y) + Bk * B * (cM' + bo'):=by
 have e2:=congrArg (Bk * ·) h2
 have e3:=congrArg (Bk * ·) h3
 have e4:=congrArg (Bk * ·) h4
 simp only [Nat.mul_add] at e2 e3 e4 h1 ⊢
 have a1:u * (Bk * x)=Bk * (x * u):=by rw [Nat.mul_left_comm,Nat.mul_comm u]
 have a2:v * (Bk * y)=Bk * (y * v):=by rw [Nat.mul_left_comm,Nat.mul_comm v]
 have a3:Bk * (B * cM')=Bk * B * cM':=(Nat.mul_assoc _ _ _).symm
 have a4:Bk * (B * cN')=Bk * B * cN':=(Nat.mul_assoc _ _ _).symm
 have a5:Bk * (B * bo')=Bk * B * bo':=(Nat.mul_assoc _ _ _).symm
 rw [a1,a2]
 rw [a3] at e2
 rw [a4] at e3
 rw [a5] at e4
 omega
theorem ZbV.step {u v:Nat} {xs ys os zs:List Nat} {k cM cN bo x y:Nat} (h:ZbV u v xs ys os k zs cM cN bo) (hu:u < W64) (hv:v < W64) (hkx:k < xs.length) (hky:k < ys.length) (hko:k < os.length) (dx:Dig W64 xs) (dy:Dig W64 ys) (hx:xs[k]?.getD 0=x) (hy:ys[k]?.getD 0=y) :
 ZbV u v xs ys os (k + 1) (zs.set k (ZdI (maLo y v cN) (maLo x u cM) bo)) (maHi x u cM) (maHi y v cN) (ZcH (maLo y v cN) (maLo x u cM) bo):=by
 obtain ⟨h1,h2,h3,h4,h5,h6,h7⟩:=h
 have hxW:x < W64:=hx ▸ dx.getD Zag k
 have hyW:y < W64:=hy ▸ dy.getD Zag k
 have hkz:k < zs.length:=by omega
 refine ⟨by simpa using h1,?_,h3.set k (ZeP _ _ _),Zhl hxW hu h4,Zhl hyW hv h5,ZhS _ _ _,?_⟩
 ·rw [List.drop_set_of_lt (by omega)]
  have:=congrArg (List.drop 1) h2
  simpa [List.drop_drop,Nat.add_comm] using this
 ·rw [Zaw k (by simpa using hkz),Zaw k hkx,Zaw k hky,hx,hy,List.take_set_of_le (Nat.le_refl _),List.getElem?_set_self hkz,Nat.pow_succ]
  exact ZnR _ _ _ _ _ _ _ _ _ _ _ _ _ _ _ _ _ _ h7 (Zhk x u cM) (Zhk y v cN) (ZfN (Zjm _ _ _) (Zjm _ _ _) h6)
theorem ZbV.at {u v:Nat} {xs ys os zs:List Nat} {k cM cN bo:Nat} (h:ZbV u v xs ys os k zs cM cN bo):zs[k]?.getD 0=os[k]?.getD 0:=by
 have:=congrArg (fun l:List Nat=>l[0]?.getD 0) h.2.1
 simpa using this
theorem ZbV.done {u v R:Nat} {xs ys os zs:List Nat} {cM cN bo:Nat} (h:ZbV u v xs ys os os.length zs cM cN bo) (hx:xs.length=os.length) (hy:ys.length=os.length) (hR:R + u * val W64 xs=v * val W64 ys) (hlt:R < W64 ^ os.length):val W64 zs=R∧Dig W64 zs∧zs.length=os.length:=by
 obtain ⟨h1,_,h3,_,_,_,h7⟩:=h
 rw [List.take_of_length_le (by omega),List.take_of_length_le (by omega),List.take_of_length_le (by omega),← hR] at h7
 have hz:=ZaX h3
 rw [h1] at hz
 have e:val W64 zs + W64 ^ os.length * cN=R + W64 ^ os.length * (cM + bo):=by omega
 have m1:(val W64 zs + W64 ^ os.length * cN) % W64 ^ os.length=val W64 zs:=by rw [Nat.add_mul_mod_self_left,Nat.mod_eq_of_lt hz]
 have m2:(R + W64 ^ os.length * (cM + bo)) % W64 ^ os.length=R:=by rw [Nat.add_mul_mod_self_left,Nat.mod_eq_of_lt hlt]
 rw [e,m2] at m1
 exact ⟨m1.symm,h3,h1⟩
end Go.Proofs.YtcpjeaaapocoeaaGreatDoor

namespace Go.Proofs.YtcpjeaaapocoeaaGreatDoor
open Go.RowKit
theorem Zeu {B:Nat} {xs:List Nat} (hB:0 < B) (h:Dig B xs) (k:Nat):val B (xs.take k)=val B xs % B ^ k∧val B (xs.drop k)=val B xs / B ^ k:=by
 have hp:0 < B ^ k:=Nat.pow_pos hB
 rcases Nat.lt_or_ge xs.length k with hk | hk
 ·have h1:=ZaX h
  have h2:B ^ xs.length≤B ^ k:=Nat.pow_le_pow_right hB (by omega)
  rw [List.take_of_length_le (by omega),List.drop_of_length_le (by omega),Nat.mod_eq_of_lt (by omega),Nat.div_eq_of_lt (by omega)]
  exact ⟨rfl,rfl⟩
 ·have h1:=ZaJ (B:=B) (xs:=xs) k
  have h2:=ZaX (h.take k)
  rw [List.length_take,Nat.min_eq_left hk] at h2
  rw [Nat.min_eq_left hk] at h1
  rw [h1]
  generalize val B (xs.take k)=a at *
  generalize val B (xs.drop k)=b at *
  generalize B ^ k=P at *
  rw [Nat.add_mul_mod_self_left,Nat.mod_eq_of_lt h2,Nat.add_mul_div_left _ _ hp,Nat.div_eq_of_lt h2,Nat.zero_add]
  exact ⟨rfl,rfl⟩
theorem Zad.row {w:World} {A:Option Addr} {l c n:Nat} (h:Zad w (.slice A l c) n):∃ xs:List Nat,xs.length=l∧xs.length≤c∧Zai .u64 w A xs∧Dig W64 xs∧Trim xs∧val W64 xs=n∧l=wl n:=by
 obtain ⟨A',xs,c',he,hc,hS,hd,ht,hv⟩:=h
 injection he with e1 e2 e3
 subst e1 e2 e3
 exact ⟨xs,rfl,hc,hS,hd,ht,hv,by rw [ZaE hd ht,hv]⟩
theorem Zad.opens {w:World} {v:Value} {n:Nat} (h:Zad w v n):∃ A l c,v=.slice A l c:=by
 obtain ⟨A',xs,c',he,_⟩:=h
 exact ⟨A',_,c',he⟩
theorem Trim.drop {xs:List Nat} (h:Trim xs) (k:Nat):Trim (xs.drop k):=by
 intro j hj
 rw [List.length_drop] at hj
 rw [List.getElem?_drop]
 exact h (k + j) (by omega)
theorem Zdz {A:Option Addr} {l c n k:Nat} (w:World) (hN:Zad w (.slice A l c) n) (hk:k≤l) (hl:l≤1099511627776) :
 Calls Tryz.prog 298 #[.slice A k c] w (Za0 w (n % W64 ^ k)):=by
 obtain ⟨xs,hxl,hc,hS,hd,ht,hv,_⟩:=hN.row
 have hk':(xs.take k).length=k:=by rw [List.length_take]; omega
 refine (Za5 A (xs.take k) k c w hk' (hS.take k) (by omega) (by omega)).mono ?_
 rintro e w' ⟨rfl,rfl⟩
 refine ⟨_,rfl,⟨A,ZaV (xs.take k),c,by rw [ZaR],by rw [ZaR]; exact Nat.le_trans (ZcI _ _) (by omega),(hS.take k).take _,Zca (hd.take k),ZbP _,by rw [ZaZ,(Zeu Zag hd k).1,hv]⟩,Fr.refl _ _⟩
theorem Zad.high {w:World} {A:Option Addr} {l c n k:Nat} (hN:Zad w (.slice A l c) n) (hk:k≤l):Zad w (.slice (if c=k then A else A.map (·.add k)) (l - k) (c - k)) (n / W64 ^ k):=by
 obtain ⟨xs,hxl,hc,hS,hd,ht,hv,_⟩:=hN.row
 exact ⟨_,xs.drop k,c - k,by rw [List.length_drop,hxl],by rw [List.length_drop]; omega,hS.cut (by omega) hc,hd.drop k,ht.drop k,by rw [(Zeu Zag hd k).2,hv]⟩
theorem ZfK {n k:Nat} (h:wl n≤k):n % W64 ^ k=n:=Nat.mod_eq_of_lt (ZaC.1 h)
theorem ZfL {n k:Nat} (h:wl n≤k):n / W64 ^ k=0:=Nat.div_eq_of_lt (ZaC.1 h)
theorem Ze1 (v:Value) (n k:Nat) (w:World) (hN:Zad w v n) (hn:wl n≤4294967296) :
 Calls Tryz.prog 388 #[v, .int .i64 (k:Int)] w (Za0 w (n % W64 ^ k)):=by
 obtain ⟨A,l,c,rfl⟩:=hN.opens
 obtain ⟨xs,hxl,hc,_,_,_,_,hw⟩:=hN.row
 have hlc:l≤c:=by omega
 have hl:l≤4294967296:=by omega
 rcases Nat.lt_or_ge l k with h | h
 ·have HT:=zh (Zdz (k:=l) w hN (Nat.le_refl _) (by omega))
  have e:n % W64 ^ l=n % W64 ^ k:=by rw [ZfK (by omega),ZfK (by omega)]
  rw [e] at HT
  have hlt:(l:Int) < (k:Int):=by omega
  have hmin:min (k:Int) (l:Int)=(l:Int):=by omega
  clear hxl hc hw hN e
  go_enter Tryz.func388,Tryz.ntmps388
  go_wp2_with fail
  refine HT.out.mono ?_
  rintro e w' ⟨v,rfl,hN,Q⟩
  have HN:=zh hN
  have HE:=zh Q
  clear hN Q
  go_wp2
  go_ret
  exact ⟨_,rfl,HN.out,HE.out⟩
 ·have HT:=zh (Zdz (k:=k) w hN h (by omega))
  have hlt:¬ (l:Int) < (k:Int):=by omega
  have hmin:min (k:Int) (l:Int)=(k:Int):=by omega
  have hkc:k≤c:=by omega
  clear hxl hc hw hN
  go_enter Tryz.func388,Tryz.ntmps388
  go_wp2_with fail
  refine HT.out.mono ?_
  rintro e w' ⟨v,rfl,hN,Q⟩
  have HN:=zh hN
  have HE:=zh Q
  clear hN Q
  go_wp2
  go_ret
  exact ⟨_,rfl,HN.out,HE.out⟩
theorem ZcQ (v:Value) (n k:Nat) (w:World) (hN:Zad w v n) :
 Calls Tryz.prog 389 #[v, .int .i64 (k:Int)] w (Za0 w (n / W64 ^ k)):=by
 obtain ⟨A,l,c,rfl⟩:=hN.opens
 obtain ⟨xs,hxl,hc,_,_,_,_,hw⟩:=hN.row
 have hlc:l≤c:=by omega
 rcases Nat.lt_or_ge l k with h | h
 ·have HT:=zh (hN.high (k:=l) (Nat.le_refl _))
  have e:n / W64 ^ l=n / W64 ^ k:=by rw [ZfL (by omega),ZfL (by omega)]
  rw [e] at HT
  have hlt:(l:Int) < (k:Int):=by omega
  have hmin:min (k:Int) (l:Int)=(l:Int):=by omega
  clear hxl hc hw hN e
  by_cases hck:c=l
  ·rw [if_pos hck,hck,Nat.sub_self] at HT
   go_enter Tryz.func389,Tryz.ntmps389
   go_wp2
   go_ret
   exact ⟨_,rfl,HT.out,Fr.refl _ _⟩
  ·rw [if_neg hck,Nat.sub_self] at HT
   go_enter Tryz.func389,Tryz.ntmps389
   go_wp2
   go_ret
   exact ⟨_,rfl,HT.out,Fr.refl _ _⟩
 ·have HT:=zh (hN.high h)
  have hlt:¬ (l:Int) < (k:Int):=by omega
  have hmin:min (k:Int) (l:Int)=(k:Int):=by omega
  have hkc:k≤c:=by omega
  clear hxl hc hw hN
  by_cases hck:c=k
  ·rw [if_pos hck,hck,Nat.sub_self] at HT
   go_enter Tryz.func389,Tryz.ntmps389
   go_wp2
   go_ret
   exact ⟨_,rfl,HT.out,Fr.refl _ _⟩
  ·rw [if_neg hck] at HT
   go_enter Tryz.func389,Tryz.ntmps389
   go_wp2
   go_ret
   exact ⟨_,rfl,HT.out,Fr.refl _ _⟩
theorem Zn0 {xs ys:List Nat} {k:Nat} (hl:xs.length≤k):val W64 (xs ++ List.replicate (k - xs.length) 0 ++ ys)=val W64 xs + W64 ^ k * val W64 ys:=by
 rw [ZaQ,ZaQ,Zbd,Nat.mul_zero,Nat.add_zero,List.length_append,List.length_replicate,Nat.add_sub_cancel' hl]
theorem Zn1 {ys:List Nat} {k n:Nat} (h:ys.length≤k):[] ++ (ys.take (List.replicate (k + n) 0).length ++ (List.replicate (k + n) 0).drop ys.length) ++ []=ys ++ List.replicate (k - ys.length) 0 ++ List.replicate n 0 ++ []:=by
 rw [List.length_replicate,List.take_of_length_le (by omega),List.drop_replicate,List.nil_append,List.append_nil,List.append_nil,List.append_assoc,List.replicate_append_replicate]
 congr 2
 omega
set_option maxHeartbeats 1000000 in
theorem Zev (v v2:Value) (a b k:Nat) (w:World) (hA:Zad w v a) (hB:Zad w v2 b) (ha:wl a≤4294967296) (hb:wl b≤k) (hk0:0 < k) (hk:k≤4294967296) :
 Calls Tryz.prog 391 #[v,v2, .int .i64 (k:Int)] w (ZaN w none none (b + W64 ^ k * a)):=by
 obtain ⟨A,l,c,rfl⟩:=hA.opens
 obtain ⟨A2,l2,c2,rfl⟩:=hB.opens
 obtain ⟨xs,rfl,hc,hS,hd,ht,rfl,hw⟩:=hA.row
 obtain ⟨ys,rfl,hc2,hS2,hd2,ht2,rfl,hw2⟩:=hB.row
 have hl:xs.length≤4294967296:=by omega
 have hl2:ys.length≤k:=by omega
 have HX:=zh hS
 have HY:=zh hS2
 have Hx:=zh hd
 have Hy:=zh hd2
 have HT:=zh (Zn0 (xs:=ys) (ys:=xs) hl2)
 have HV:=zh (Zn1 (n:=xs.length) hl2)
 have hpl:(ys ++ List.replicate (k - ys.length) 0).length=k:=by rw [List.length_append,List.length_replicate]; omega
 clear hS hS2 hd hd2 ht ht2 hw hw2 hA hB ha hb
 obtain ⟨pre,epre⟩:∃ pre,ys ++ List.replicate (k - ys.length) 0=pre:=⟨_,rfl⟩
 have Hpd:Hid (Dig W64 pre):=by unfold Hid; rw [← epre]; exact Hy.out.append (Dig.replicate Zag _)
 rw [epre] at hpl HT HV
 clear epre
 obtain ⟨xl,exl⟩:∃ n,xs.length=n:=⟨_,rfl⟩
 rw [exl] at hc hl HV ⊢
 have EX:=zh exl
 clear exl
 rcases Nat.eq_zero_or_pos xl with rfl | hx0
 ·go_enter Tryz.func391,Tryz.ntmps391
  go_wp2_with (first
   | (with_reducible refine Zbg rfl (.tmp 13) (.tmp 14) _ _ rfl _ _ Tryz.underlying133 Zda _ _ _ _ _ _ rfl rfl R [] (List.replicate (k + 0) 0) [] ys (by rw [List.length_replicate]<;>omega) rfl HO1.out (HY.out.ext HF1.out) (fun _=>rfl) ?_
      intro w3 z hO3 _ hF3 hs3
      rw [HV.out] at hO3
      have HO3:=zh hO3
      have HF3:=zh (HF1.out.next hF3 (fun i hi e=>by have:=HR.out; omega))
      clear hO3 hF3 hs3)
   | (with_reducible refine Zbg rfl (.tmp 18) (.tmp 19) _ _ rfl _ _ Tryz.underlying133 Zda _ _ _ _ _ _ rfl rfl R pre (List.replicate 0 0) [] xs (by rw [List.length_replicate]<;>omega) (by have:=EX.out; omega) HO3.out (HX.out.ext HF3.out) (fun h=>by first | (rw [hpl]; done) | exact absurd h (by simp)) ?_
      intro w4 z4 hO4 _ hF4 hs4
      rw [List.length_replicate,List.take_of_length_le (Nat.le_of_eq EX.out),EX.out,List.drop_replicate,Nat.sub_self,List.replicate_zero,List.append_nil,List.append_nil] at hO4
      have HO4:=zh hO4
      have HF4:=zh (HF3.out.next hF4 (fun i hi e=>by have:=HR.out; omega))
      clear hO4 hF4 hs4)
   | (at_make
      refine ZaD rfl _ _ _ rfl _ _ _ Tryz.underlying133 ZbR _ _ _ _ (k + 0) rfl rfl (by omega) (by omega) (by omega) (by omega) ?_
      intro R w1 hR hO1 _ hF1 hs1
      have HO1:Hid (Own .u64 217 w1 R ([] ++ List.replicate (k + 0) 0 ++ [])):=by simpa [Hid] using hO1
      have HF1:=zh hF1
      have HR:=zh hR
      clear hO1 hF1 hR hs1))
  have hd5:Dig W64 (pre ++ xs):=Hpd.out.append Hx.out
  have hl5:(pre ++ xs).length=k + 0:=by rw [List.length_append,hpl,EX.out]
  have HN:=zh (Za5 (some ⟨R,0,none⟩) (pre ++ xs) (k + 0) (k + 0) w4 hl5 HO4.out.shows0 (by omega) (by omega))
  have HR5:=zh (Zad.of_own HO4.out hd5 (c:=k + 0) (by omega))
  rw [HT.out] at HR5
  clear hd5 hl5
  go_wp2_with fail
  refine HN.out.mono ?_
  rintro e w5 ⟨rfl,rfl⟩
  go_wp2
  go_ret
  exact ⟨_,_,_,rfl,by have h:=HR5.out; rw [List.length_append,hpl] at h; exact h,HF4.out,fun a h=>Or.inl (by injection h with h; subst h; have:=HR.out; show w.heap.size≤R; omega)⟩
 ·go_enter Tryz.func391,Tryz.ntmps391
  go_wp2_with (first
   | (with_reducible refine Zbg rfl (.tmp 13) (.tmp 14) _ _ rfl _ _ Tryz.underlying133 Zda _ _ _ _ _ _ rfl rfl R [] (List.replicate (k + xl) 0) [] ys (by rw [List.length_replicate]<;>omega) rfl HO1.out (HY.out.ext HF1.out) (fun _=>rfl) ?_
      intro w3 z hO3 _ hF3 hs3
      rw [HV.out] at hO3
      have HO3:=zh hO3
      have HF3:=zh (HF1.out.next hF3 (fun i hi e=>by have:=HR.out; omega))
      clear hO3 hF3 hs3)
   | (with_reducible refine Zbg rfl (.tmp 18) (.tmp 19) _ _ rfl _ _ Tryz.underlying133 Zda _ _ _ _ _ _ rfl rfl R pre (List.replicate xl 0) [] xs (by rw [List.length_replicate]<;>omega) (by have:=EX.out; omega) HO3.out (HX.out.ext HF3.out) (fun h=>by first | (rw [hpl]; done) | exact absurd h (by simp)) ?_
      intro w4 z4 hO4 _ hF4 hs4
      rw [List.length_replicate,List.take_of_length_le (Nat.le_of_eq EX.out),EX.out,List.drop_replicate,Nat.sub_self,List.replicate_zero,List.append_nil,List.append_nil] at hO4
      have HO4:=zh hO4
      have HF4:=zh (HF3.out.next hF4 (fun i hi e=>by have:=HR.out; omega))
      clear hO4 hF4 hs4)
   | (at_make
      refine ZaD rfl _ _ _ rfl _ _ _ Tryz.underlying133 ZbR _ _ _ _ (k + xl) rfl rfl (by omega) (by omega) (by omega) (by omega) ?_
      intro R w1 hR hO1 _ hF1 hs1
      have HO1:Hid (Own .u64 217 w1 R ([] ++ List.replicate (k + xl) 0 ++ [])):=by simpa [Hid] using hO1
      have HF1:=zh hF1
      have HR:=zh hR
      clear hO1 hF1 hR hs1))
  have hd5:Dig W64 (pre ++ xs):=Hpd.out.append Hx.out
  have hl5:(pre ++ xs).length=k + xl:=by rw [List.length_append,hpl,EX.out]
  have HN:=zh (Za5 (some ⟨R,0,none⟩) (pre ++ xs) (k + xl) (k + xl) w4 hl5 HO4.out.shows0 (by omega) (by omega))
  have HR5:=zh (Zad.of_own HO4.out hd5 (c:=k + xl) (by omega))
  rw [HT.out] at HR5
  clear hd5 hl5
  go_wp2_with fail
  refine HN.out.mono ?_
  rintro e w5 ⟨rfl,rfl⟩
  go_wp2
  go_ret
  exact ⟨_,_,_,rfl,by have h:=HR5.out; rw [List.length_append,hpl] at h; exact h,HF4.out,fun a h=>Or.inl (by injection h with h; subst h; have:=HR.out; show w.heap.size≤R; omega)⟩
end Go.Proofs.YtcpjeaaapocoeaaGreatDoor

namespace Go.Proofs.YtcpjeaaapocoeaaGreatDoor
open Go.RowKit
noncomputable def wds (n:Nat):List Nat:=if _h:n=0 then [] else (n % W64) :: wds (n / W64)
termination_by n
decreasing_by exact Nat.div_lt_self (by omega) Zck
theorem Zbr:∀ n,Dig W64 (wds n)∧val W64 (wds n)=n:=by
 intro n
 induction n using Nat.strongRecOn with
 | ind n ih =>
   rw [wds]
   split
   ·rename_i h; exact ⟨Dig.nil,by simp [h]⟩
   ·rename_i h
    obtain ⟨h1,h2⟩:=ih (n / W64) (Nat.div_lt_self (by omega) Zck)
    exact ⟨h1.cons (Nat.mod_lt _ Zag),by rw [Zb1,h2]; exact Nat.mod_add_div _ _⟩
theorem Zh7:∀ n,Trim (wds n):=by
 intro n
 induction n using Nat.strongRecOn with
 | ind n ih =>
   rw [wds]
   split
   ·exact Trim.nil
   ·rename_i h
    have h1:=ih (n / W64) (Nat.div_lt_self (by omega) Zck)
    intro k hk
    rcases Nat.eq_zero_or_pos (n / W64) with e | e
    ·rw [e,wds,dif_pos rfl] at hk ⊢
     simp at hk
     subst hk
     have:=Nat.mod_add_div n W64
     rw [e] at this
     simp; omega
    ·obtain ⟨m,rfl⟩:∃ m,k=m + 1:=⟨k - 1,by
      have:wds (n / W64)≠[]:=fun e'=>by have:=(Zbr (n / W64)).2; rw [e'] at this; simp at this; omega
      have:=List.length_pos_iff.2 this
      simp at hk; omega⟩
     have:=h1 m (by simpa using hk)
     simpa using this
theorem Znl {xs:List Nat} {n:Nat} (hd:Dig W64 xs) (ht:Trim xs) (hv:val W64 xs=n):xs=wds n:=Zkq Zck hd (Zbr n).1 ht (Zh7 n) (hv.trans (Zbr n).2.symm)
theorem ZeM (n:Nat):(wds n).length=wl n:=by rw [ZaE (Zbr n).1 (Zh7 n),(Zbr n).2]
theorem Zad.shows {w:World} {A:Option Addr} {l c n:Nat} (h:Zad w (.slice A l c) n):Zai .u64 w A (wds n):=by
 obtain ⟨A',xs,c',e,h1,h2,h3,h4,h5⟩:=h
 injection e with e1 e2 e3
 subst e1
 rw [← Znl h3 h4 h5]; exact h2
theorem Zad.lens {w:World} {A:Option Addr} {l c n:Nat} (h:Zad w (.slice A l c) n):l=(wds n).length∧(wds n).length≤c:=by
 obtain ⟨A',xs,c',e,h1,h2,h3,h4,h5⟩:=h
 injection e with e1 e2 e3
 subst e3
 rw [← Znl h3 h4 h5]; exact ⟨e2,h1⟩
theorem Zai.lt {k:IntKind} {w:World} {A:Option Addr} {xs:List Nat} (h:Zai k w A xs) (hne:0 < xs.length) {a:Addr} (ha:A=some a):a.block < w.heap.size:=by
 obtain ⟨b,o,e,hb,_⟩:=h.at hne
 rw [ha] at e; injection e with e; rw [e]; exact hb
theorem tdqK (a c:Nat) (h:a < 9223372036854775808):IntKind.i64.wrap (((a:Nat):Int).tdiv (c:Int))=((a / c:Nat):Int):=by
 rw [← Int.ofNat_tdiv,IntKind.wrap_i64]
 have:=Nat.div_le_self a c
 generalize a / c=q at *
 omega
end Go.Proofs.YtcpjeaaapocoeaaGreatDoor
