/-
 My texts MulWords, Mul, Madd, App put together.
-/
import Derived.Test.YthlipnahcbcjkaaGreatDoorR04
import Derived.Test.YthlipnahcbcjkaaGreatDoorR05
set_option maxRecDepth 100000
namespace Go.Proofs.YthlipnahcbcjkaaGreatDoor
open Go.RowKit
theorem Zbh (a:Nat) (ha:a < W64):IntKind.u64.wrap (a:Int)=(a:Int):=by rw [Zal] at ha; rw [IntKind.wrap_u64]; omega
noncomputable def Zh5 (z x u c:Nat):Nat:=Zb9 z (Zb9 (Zbx x u) c 0) 0
noncomputable def Zee (z x u c:Nat):Nat:=ZcM x u + ZbQ (Zbx x u) c 0 + ZbQ z (Zb9 (Zbx x u) c 0) 0
theorem ZkF (z x u c:Nat):Zh5 z x u c + W64 * Zee z x u c=z + x * u + c:=by
 have h1:=Zf4 x u
 have h2:=Zec (Zbx x u) c 0
 have h3:=Zec z (Zb9 (Zbx x u) c 0) 0
 unfold Zh5 Zee
 rw [Nat.mul_add,Nat.mul_add]
 omega
theorem Zh6 {a b:Nat} (ha:a < W64) (hb:b < W64):a * b + W64 + W64≤W64 * W64 + 1:=by
 have h1:a * b≤(W64 - 1) * (W64 - 1):=Nat.mul_le_mul (by omega) (by omega)
 rw [Zal] at *
 omega
theorem Ze0 (a:Nat) {n:Nat} (h:W64 * a < W64 * n):a < n:=Nat.lt_of_mul_lt_mul_left h
theorem ZhN {z x u c:Nat} (hz:z < W64) (hx:x < W64) (hu:u < W64) (hc:c < W64):Zee z x u c < W64:=by
 have h1:=ZkF z x u c
 have h2:=Zh6 hx hu
 exact Ze0 _ (by omega)
theorem Zo1 {z x u c:Nat} (hz:z < W64) (hx:x < W64) (hu:u < W64) (hc:c < W64) :
 IntKind.u64.wrap (IntKind.u64.wrap ((ZcM x u:Int) + (ZbQ (Zbx x u) c 0:Int)) + (ZbQ z (Zb9 (Zbx x u) c 0) 0:Int))=(Zee z x u c:Int):=by
 have h:=ZhN hz hx hu hc
 unfold Zee at *
 rw [← Int.natCast_add,Zbh _ (by omega),← Int.natCast_add,Zbh _ h]
def Zdd (mid xs:List Nat) (u k:Nat) (m:List Nat) (c:Nat):Prop :=
 m.length=mid.length∧m.drop k=mid.drop k∧Dig W64 m∧c < W64∧val W64 (m.take k) + W64 ^ k * c=val W64 (mid.take k) + val W64 (xs.take k) * u
theorem Zdd.start (mid xs:List Nat) (u:Nat) (h:Dig W64 mid):Zdd mid xs u 0 mid 0:=⟨rfl,rfl,h,Zai,by simp⟩
theorem Zdd.at {mid xs m:List Nat} {u k c:Nat} (h:Zdd mid xs u k m c):m[k]?.getD 0=mid[k]?.getD 0:=by
 have:=congrArg (fun l=>l[0]?.getD 0) h.2.1
 simpa [List.getElem?_drop] using this
theorem Zdd.step {mid xs m:List Nat} {u k c z x:Nat} (h:Zdd mid xs u k m c) (hk:k < mid.length) (hz:m[k]?.getD 0=z) (hx:xs[k]?.getD 0=x) (hxl:k < xs.length) (hxd:Dig W64 xs) (hu:u < W64):Zdd mid xs u (k + 1) (m.set k (Zh5 z x u c)) (Zee z x u c):=by
 have e1:mid[k]?.getD 0=z:=h.at.symm.trans hz
 obtain ⟨h1,h2,h3,h5,h4⟩:=h
 refine ⟨by simpa using h1,?_,h3.set k (ZeU _ _ _),ZhN (hz ▸ h3.getD Zai k) (hx ▸ hxd.getD Zai k) hu h5,?_⟩
 ·rw [List.drop_set_of_lt (by omega),← List.drop_drop,← List.drop_drop,h2]
 ·rw [Zbl _ _ _ _ (by omega),Zav k hk,Zav k hxl,e1,hx,Nat.pow_succ]
  exact ZnY _ _ _ _ _ _ _ _ _ _ _ h4 (ZkF z x u c)
def Zks (mid xs:List Nat) (u cc:Nat) (m:List Nat):Prop:=val W64 m + W64 ^ mid.length * cc=val W64 mid + val W64 xs * u
theorem Zdd.done {mid xs m:List Nat} {u c:Nat} (h:Zdd mid xs u xs.length m c) (hl:xs.length=mid.length):Zks mid xs u c m:=by
 obtain ⟨h1,h2,h3,h5,h4⟩:=h
 rw [List.take_of_length_le (by omega),List.take_of_length_le (by omega),List.take_of_length_le (by omega),hl] at h4
 exact h4
def Zo2 (t:TypeId) (b:Nat) (pre mid post xs:List Nat) (u:Nat) (w:World) (e:Ending) (w':World):Prop :=
 ∃ cc,e=.returned (.int .u64 (cc:Nat))∧cc < W64∧Zhm t b pre post mid.length (Zks mid xs u cc) w w'
set_option maxHeartbeats 1000000 in
theorem ZfL (b c c2 off n m u:Nat) (pre mid post xs:List Nat) (A:Option Addr) (w:World) (ho:pre.length=off) (hn:mid.length=n) (hxm:xs.length=m) (hO:Own .u64 88 w b (pre ++ mid ++ post)) (hX:Zan .u64 w A xs) (hA:∀ a,A=some a→a.block≠b)
 (hl:xs.length=mid.length) (hm:mid.length≤1099511627776) (hdm:Dig W64 mid) (hdx:Dig W64 xs) (hu:u < W64) :
 Calls Tryz.prog 222 #[.slice (some ⟨b,off,none⟩) n c, .slice A m c2, .int .u64 (u:Int)] w (Zo2 88 b pre mid post xs u w):=by
 subst ho hn hxm
 have HO:=zh hO
 have HX:=zh hX
 have HA:=zh hA
 have Hdm:=zh hdm
 have Hdx:=zh hdx
 have HL:=zh hl
 have HU:=zh hu
 have hle:xs.length≤mid.length:=by omega
 clear hO hX hA hdm hdx hl hu
 go_enter Tryz.func222,Tryz.ntmps222
 go_wp2
 go_loopw [7,16] (fun cv i wr=>∃ (k cc:Nat) (m:List Nat),k≤xs.length∧i=.int .i64 k∧cv=.int .u64 cc∧Hid (Zdd mid xs u k m cc)∧Hid (Own .u64 88 wr b (pre ++ m ++ post))∧Hid (Fr (· = b) w wr)∧Hid (ZaH 88 b w wr)) (fun _ i _=>xs.length - (intOf i).toNat)
 case atStart=>exact ⟨0,0,mid,by omega,rfl,rfl,Zdd.start _ _ _ Hdm.out,HO.out,Fr.refl _ _,ZaH.refl _ _ _⟩
 case round =>
  obtain ⟨k,cc,m,hk,rfl,rfl,hR,hO1,hF1,hS1⟩:=hrel
  by_cases hlt:k < xs.length
  ·obtain ⟨b2,off2,rfl,hb2,hcx⟩:=(HX.out.fr hF1.out (fun a ha _=>HA.out a ha)).at hlt
   obtain ⟨x,ex⟩:∃ x,xs[k]?.getD 0=x:=⟨_,rfl⟩
   obtain ⟨z,ez⟩:∃ z,m[k]?.getD 0=z:=⟨_,rfl⟩
   have hkm:k < m.length:=by have:=hR.out.1; omega
   have hcz:=hO1.out.mid (k:=k) hkm
   have hfz:=hO1.out.frozen (pre.length + k)
   rw [ex] at hcx
   rw [ez] at hcz
   have Hx:Hid (x < W64):=ex ▸ Hdx.out.getD Zai k
   have HR2:=zh (hR.out.step (by omega) ez ex hlt Hdx.out HU.out)
   have HW:=zh (Zo1 (ez ▸ hR.out.2.2.1.getD Zai k) Hx.out HU.out hR.out.2.2.2.1)
   clear ex ez
   have ha:=ZeW
   go_wp2_with (go_at_call 270; refine (Zfm _ _ Hx.out HU.out _).mono ?_; rintro e w' ⟨rfl,rfl⟩)
   go_roundw
   case rel=>exact ⟨k + 1,_,_,by omega,by go_num,by rw [HW.out],HR2,hO1.out.set_mid hkm _,hF1.out.setCell (Or.inl rfl) _,hS1.out.setCell _ _ _⟩
   case measure=>simp [intOf]; omega
  ·obtain rfl:k=xs.length:=by omega
   go_wp2
   go_ret
   exact ⟨cc,rfl,hR.out.2.2.2.1,hF1.out,hS1.out,m,hO1.out,hR.out.1,hR.out.2.2.1,hR.out.done HL.out⟩
noncomputable def Zfn (z x u c:Nat):Nat:=ZdX z (Zb9 (Zbx x u) c 0) 0
noncomputable def ZdN (z x u c:Nat):Nat:=ZcM x u + ZbQ (Zbx x u) c 0 + ZcL z (Zb9 (Zbx x u) c 0) 0
theorem ZjL {z:Nat} (hz:z < W64) (x u c:Nat):Zfn z x u c + x * u + c=z + W64 * ZdN z x u c:=by
 have h1:=Zf4 x u
 have h2:=Zec (Zbx x u) c 0
 have h3:=Zf3 hz (ZeU (Zbx x u) c 0) (c:=0) (by omega)
 unfold Zfn ZdN
 rw [Nat.mul_add,Nat.mul_add]
 omega
theorem ZgP {z x u c:Nat} (hz:z < W64) (hx:x < W64) (hu:u < W64) (hc:c < W64):ZdN z x u c < W64:=by
 have h1:=ZjL hz x u c
 have h2:=Zh6 hx hu
 have h3:Zfn z x u c < W64:=ZeV _ _ _
 exact Ze0 _ (by omega)
theorem Zn1 {z x u c:Nat} (hz:z < W64) (hx:x < W64) (hu:u < W64) (hc:c < W64) :
 IntKind.u64.wrap (IntKind.u64.wrap ((ZcM x u:Int) + (ZbQ (Zbx x u) c 0:Int)) + (ZcL z (Zb9 (Zbx x u) c 0) 0:Int))=(ZdN z x u c:Int):=by
 have h:=ZgP hz hx hu hc
 unfold ZdN at *
 rw [← Int.natCast_add,Zbh _ (by omega),← Int.natCast_add,Zbh _ h]
def ZcD (mid xs:List Nat) (u k:Nat) (m:List Nat) (c:Nat):Prop :=
 m.length=mid.length∧m.drop k=mid.drop k∧Dig W64 m∧c < W64∧val W64 (m.take k) + val W64 (xs.take k) * u=val W64 (mid.take k) + W64 ^ k * c
theorem ZcD.start (mid xs:List Nat) (u:Nat) (h:Dig W64 mid):ZcD mid xs u 0 mid 0:=⟨rfl,rfl,h,Zai,by simp⟩
theorem ZcD.at {mid xs m:List Nat} {u k c:Nat} (h:ZcD mid xs u k m c):m[k]?.getD 0=mid[k]?.getD 0:=by
 have:=congrArg (fun l=>l[0]?.getD 0) h.2.1
 simpa [List.getElem?_drop] using this
theorem ZcD.step {mid xs m:List Nat} {u k c z x:Nat} (h:ZcD mid xs u k m c) (hk:k < mid.length) (hz:m[k]?.getD 0=z) (hx:xs[k]?.getD 0=x) (hxl:k < xs.length) (hxd:Dig W64 xs) (hu:u < W64):ZcD mid xs u (k + 1) (m.set k (Zfn z x u c)) (ZdN z x u c):=by
 have e1:mid[k]?.getD 0=z:=h.at.symm.trans hz
 obtain ⟨h1,h2,h3,h5,h4⟩:=h
 have hzd:z < W64:=hz ▸ h3.getD Zai k
 refine ⟨by simpa using h1,?_,h3.set k (ZeV _ _ _),ZgP hzd (hx ▸ hxd.getD Zai k) hu h5,?_⟩
 ·rw [List.drop_set_of_lt (by omega),← List.drop_drop,← List.drop_drop,h2]
 ·rw [Zbl _ _ _ _ (by omega),Zav k hk,Zav k hxl,e1,hx,Nat.pow_succ]
  exact ZmQ _ _ _ _ _ _ _ _ _ _ _ h4 (ZjL hzd x u c)
def ZkG (mid xs:List Nat) (u cc:Nat) (m:List Nat):Prop:=val W64 m + val W64 xs * u=val W64 mid + W64 ^ mid.length * cc
theorem ZcD.done {mid xs m:List Nat} {u c:Nat} (h:ZcD mid xs u xs.length m c) (hl:xs.length=mid.length):ZkG mid xs u c m:=by
 obtain ⟨h1,h2,h3,h5,h4⟩:=h
 rw [List.take_of_length_le (by omega),List.take_of_length_le (by omega),List.take_of_length_le (by omega),hl] at h4
 exact h4
def Zn2 (t:TypeId) (b:Nat) (pre mid post xs:List Nat) (u:Nat) (w:World) (e:Ending) (w':World):Prop :=
 ∃ cc,e=.returned (.int .u64 (cc:Nat))∧cc < W64∧Zhm t b pre post mid.length (ZkG mid xs u cc) w w'
set_option maxHeartbeats 1000000 in
theorem ZgI (b c c2 off n m u:Nat) (pre mid post xs:List Nat) (A:Option Addr) (w:World) (ho:pre.length=off) (hn:mid.length=n) (hxm:xs.length=m) (hO:Own .u64 88 w b (pre ++ mid ++ post)) (hX:Zan .u64 w A xs) (hA:∀ a,A=some a→a.block≠b)
 (hl:xs.length=mid.length) (hm:mid.length≤1099511627776) (hdm:Dig W64 mid) (hdx:Dig W64 xs) (hu:u < W64) :
 Calls Tryz.prog 301 #[.slice (some ⟨b,off,none⟩) n c, .slice A m c2, .int .u64 (u:Int)] w (Zn2 88 b pre mid post xs u w):=by
 subst ho hn hxm
 have HO:=zh hO
 have HX:=zh hX
 have HA:=zh hA
 have Hdm:=zh hdm
 have Hdx:=zh hdx
 have HL:=zh hl
 have HU:=zh hu
 have hle:xs.length≤mid.length:=by omega
 clear hO hX hA hdm hdx hl hu
 go_enter Tryz.func301,Tryz.ntmps301
 go_wp2
 go_loopw [7,16] (fun cv i wr=>∃ (k cc:Nat) (m:List Nat),k≤xs.length∧i=.int .i64 k∧cv=.int .u64 cc∧Hid (ZcD mid xs u k m cc)∧Hid (Own .u64 88 wr b (pre ++ m ++ post))∧Hid (Fr (· = b) w wr)∧Hid (ZaH 88 b w wr)) (fun _ i _=>xs.length - (intOf i).toNat)
 case atStart=>exact ⟨0,0,mid,by omega,rfl,rfl,ZcD.start _ _ _ Hdm.out,HO.out,Fr.refl _ _,ZaH.refl _ _ _⟩
 case round =>
  obtain ⟨k,cc,m,hk,rfl,rfl,hR,hO1,hF1,hS1⟩:=hrel
  by_cases hlt:k < xs.length
  ·obtain ⟨b2,off2,rfl,hb2,hcx⟩:=(HX.out.fr hF1.out (fun a ha _=>HA.out a ha)).at hlt
   obtain ⟨x,ex⟩:∃ x,xs[k]?.getD 0=x:=⟨_,rfl⟩
   obtain ⟨z,ez⟩:∃ z,m[k]?.getD 0=z:=⟨_,rfl⟩
   have hkm:k < m.length:=by have:=hR.out.1; omega
   have hcz:=hO1.out.mid (k:=k) hkm
   have hfz:=hO1.out.frozen (pre.length + k)
   rw [ex] at hcx
   rw [ez] at hcz
   have Hx:Hid (x < W64):=ex ▸ Hdx.out.getD Zai k
   have HR2:=zh (hR.out.step (by omega) ez ex hlt Hdx.out HU.out)
   have HW:=zh (Zn1 (ez ▸ hR.out.2.2.1.getD Zai k) Hx.out HU.out hR.out.2.2.2.1)
   clear ex ez
   have ha:=ZeW
   have hsb:=ZkC
   go_wp2_with (go_at_call 270; refine (Zfm _ _ Hx.out HU.out _).mono ?_; rintro e w' ⟨rfl,rfl⟩)
   go_roundw
   case rel=>exact ⟨k + 1,_,_,by omega,by go_num,by rw [HW.out],HR2,hO1.out.set_mid hkm _,hF1.out.setCell (Or.inl rfl) _,hS1.out.setCell _ _ _⟩
   case measure=>simp [intOf]; omega
  ·obtain rfl:k=xs.length:=by omega
   go_wp2
   go_ret
   exact ⟨cc,rfl,hR.out.2.2.2.1,hF1.out,hS1.out,m,hO1.out,hR.out.1,hR.out.2.2.1,hR.out.done HL.out⟩
end Go.Proofs.YthlipnahcbcjkaaGreatDoor

namespace Go.Proofs.YthlipnahcbcjkaaGreatDoor
open Go.RowKit
theorem ZkI (zs:List Nat) (k n:Nat):zs.take k ++ (zs.drop k).take n ++ zs.drop (k + n)=zs:=by
 rw [List.append_assoc,← List.drop_drop,List.take_append_drop,List.take_append_drop]
def ZbU (xs ys:List Nat) (k:Nat) (zs:List Nat):Prop :=
 zs.length=xs.length + ys.length∧Dig W64 zs∧val W64 (zs.take (k + xs.length))=val W64 xs * val W64 (ys.take k)
theorem ZbU.start (xs ys:List Nat):ZbU xs ys 0 (List.replicate (xs.length + ys.length) 0):=by
 refine ⟨by simp,Dig.replicate Zai _,?_⟩
 rw [List.take_replicate,ZcT]; simp
theorem ZbU.step {xs ys zs m:List Nat} {k y cc:Nat} (h:ZbU xs ys k zs) (hk:k < ys.length) (hy:ys[k]?.getD 0=y) (hm:m.length=xs.length) (hd:Dig W64 m) (hc:cc < W64)
 (hq:Zks ((zs.drop k).take xs.length) xs y cc m):ZbU xs ys (k + 1) ((zs.take k ++ m ++ zs.drop (k + xs.length)).set (k + xs.length) cc):=by
 obtain ⟨h1,h2,h3⟩:=h
 have hl:(zs.take k ++ m).length=k + xs.length:=by simp [hm]; omega
 refine ⟨by simp [hm]; omega,Dig.set (((h2.take k).append hd).append (h2.drop _)) _ hc,?_⟩
 have e1:((zs.take k ++ m ++ zs.drop (k + xs.length)).set (k + xs.length) cc).take (k + 1 + xs.length)=zs.take k ++ m ++ [cc]:=by
  rw [List.set_append_right _ _ (by omega),hl,Nat.sub_self,List.take_append,hl,List.take_of_length_le (by omega)]
  congr 1
  have:k + 1 + xs.length - (k + xs.length)=1:=by omega
  rw [this]
  have hne:0 < (zs.drop (k + xs.length)).length:=by simp; omega
  cases hz:zs.drop (k + xs.length) with
  | nil=>rw [hz] at hne; simp at hne
  | cons a l=>simp
 rw [e1,Zbn,hl,Zbn,Zav k hk,hy]
 have hlk:(zs.take k).length=k:=by simp; omega
 have e2:val W64 (zs.take (k + xs.length))=val W64 (zs.take k) + W64 ^ k * val W64 ((zs.drop k).take xs.length):=by
  have:zs.take (k + xs.length)=zs.take k ++ (zs.drop k).take xs.length:=by rw [List.take_add]
  rw [this,Zbn,hlk]
 unfold Zks at hq
 have hml:((zs.drop k).take xs.length).length=xs.length:=by simp; omega
 rw [hml] at hq
 rw [hlk,Nat.pow_add,Nat.mul_add,← h3,e2]
 simp only [ZcK,Zc1,Nat.mul_zero,Nat.add_zero]
 have e3:=congrArg (W64 ^ k * ·) hq
 simp only [Nat.mul_add] at e3
 have e4:W64 ^ k * W64 ^ xs.length * cc=W64 ^ k * (W64 ^ xs.length * cc):=Nat.mul_assoc _ _ _
 have e5:val W64 xs * (W64 ^ k * y)=W64 ^ k * (val W64 xs * y):=Nat.mul_left_comm _ _ _
 omega
theorem ZbU.done {xs ys zs:List Nat} (h:ZbU xs ys ys.length zs):val W64 zs=val W64 xs * val W64 ys:=by
 obtain ⟨h1,h2,h3⟩:=h
 rw [List.take_of_length_le (by omega),List.take_of_length_le (by omega)] at h3
 exact h3
set_option maxHeartbeats 1000000 in
theorem ZgQ (A A2:Option Addr) (xs ys:List Nat) (c c2:Nat) (w:World) (hX:Zan .u64 w A xs) (hY:Zan .u64 w A2 ys) (hc:xs.length≤c) (hl:xs.length≤4294967296) (hxy:ys.length≤xs.length) (h40:ys.length < 40)
 (hx:Dig W64 xs) (hy:Dig W64 ys) (tx:Trim xs) :
 Calls Tryz.prog 153 #[.slice A xs.length c, .slice A2 ys.length c2] w (Zba w (val W64 xs * val W64 ys)):=by
 have HX:=zh hX
 have HY:=zh hY
 have Hx:=zh hx
 have Hy:=zh hy
 have Tx:=zh tx
 clear hX hY hx hy tx
 by_cases h0:ys.length=0
 ·obtain rfl:ys=[]:=List.length_eq_zero_iff.1 h0
  clear h0 Hy HY hxy h40
  go_enter Tryz.func153,Tryz.ntmps153
  go_wp2
  go_ret
  exact ⟨_,rfl,by simpa using Zaf.zero w,Fr.refl _ _⟩
 have h0':(((ys.length:Nat):Int) == 0)=false:=by simp; intro e; simp [e] at h0
 by_cases h1:ys=[1]
 ·subst h1
  obtain ⟨b2,off2,rfl,hb2,hcy⟩:=HY.out.at (i:=0) (by simp)
  have hcy':w.cell? ⟨b2,off2,none⟩=some (.int .u64 1):=by simpa using hcy
  have hxy':1≤xs.length:=by simpa using hxy
  clear h0 Hy HY hxy h40 hcy h0'
  go_enter Tryz.func153,Tryz.ntmps153
  go_wp2
  go_ret
  exact ⟨_,rfl,⟨A,xs,c,rfl,hc,HX.out,Hx.out,Tx.out,by simp⟩,Fr.refl _ _⟩
 ·have hone:Hid (ys.length=1→ys[0]?.getD 0≠1):=by
   intro e1 e2
   obtain ⟨y,rfl⟩:=List.length_eq_one_iff.1 e1
   simp at e2; exact h1 (by rw [e2])
  clear h1
  obtain ⟨y0,ey0⟩:∃ y0,ys[0]?.getD 0=y0:=⟨_,rfl⟩
  obtain ⟨b2,off2,rfl,hb2,hcy⟩:=HY.out.at (i:=0) (by omega)
  rw [ey0] at hcy
  have hcy':w.cell? ⟨b2,off2,none⟩=some (.int .u64 (y0:Nat)):=by simpa using hcy
  clear hcy
  have hcases:(((ys.length:Nat):Int) == 1)=false∨((((ys.length:Nat):Int) == 1)=true∧(((y0:Nat):Int) == 1)=false):=by
   by_cases e1:ys.length=1
   ·refine Or.inr ⟨by simp [e1],?_⟩
    have:=hone.out e1
    rw [ey0] at this
    simp; omega
   ·refine Or.inl ?_
    simp; omega
  clear ey0 hone
  have hylen:0 < ys.length:=by omega
  clear h0
  rcases hcases with hc1 | ⟨hc1,hc2'⟩
  all_goals
   go_enter Tryz.func153,Tryz.ntmps153
   go_wp2_with (at_make
                refine Za2 rfl _ _ _ rfl _ _ _ Tryz.underlying93 Zcq _ _ _ _ (xs.length + ys.length) rfl rfl (by omega) (by omega) (by omega) (by omega) ?_
                intro b w1 hb hO1 _ hF1 hs1
                have HO1:=zh hO1
                have HF1:=zh hF1
                have Hb:=zh hb
                clear hO1 hF1 hb hs1)
   go_loopw [55] (fun i wr=>∃ (k:Nat) (zs:List Nat),k≤ys.length∧i=.int .i64 k∧Hid (ZbU xs ys k zs)∧Hid (Own .u64 88 wr b zs)∧Hid (Ext w wr)) (fun i _=>ys.length - (intOf i).toNat)
   case atStart=>exact ⟨0,_,by omega,rfl,ZbU.start _ _,HO1.out,HF1.out⟩
   case round =>
    obtain ⟨k,zs,hk,rfl,hR,hO2,hF2⟩:=hrel
    by_cases hlt:k < ys.length
    ·obtain ⟨b3,off3,e3,hb3,hck⟩:=(HY.out.ext hF2.out).at hlt
     injection e3 with e3
     injection e3 with e31 e32
     subst e31 e32
     obtain ⟨y,ey⟩:∃ y,ys[k]?.getD 0=y:=⟨_,rfl⟩
     rw [ey] at hck
     have EY:=zh ey
     clear ey
     have hkk:k < xs.length + ys.length:=by omega
     have hkx:k + xs.length≤xs.length + ys.length:=by omega
     have HA:Hid (∀ a,A=some a→a.block≠b):=by
      intro a ha
      obtain ⟨b',off',e',hb',_⟩:=HX.out.at (i:=0) (by omega)
      rw [e'] at ha; injection ha with ha; subst ha
      have:=Hb.out
      show b'≠b
      omega
     have hzl:=hR.out.1
     have HO3:Hid (Own .u64 88 wr b (zs.take k ++ (zs.drop k).take xs.length ++ zs.drop (k + xs.length))):=by rw [ZkI]; exact hO2.out
     have Hyd:Hid (y < W64):=EY.out ▸ Hy.out.getD Zai k
     have HM:=zh (ZfL b (xs.length + ys.length - k) c k xs.length xs.length y (zs.take k) ((zs.drop k).take xs.length) (zs.drop (k + xs.length)) xs A wr (by simp; omega) (by simp; omega) rfl HO3.out (HX.out.ext hF2.out) HA.out (by simp; omega) (by simp; omega) ((hR.out.2.1.drop k).take _) Hx.out Hyd.out)
     clear hzl
     go_wp2_with fail
     refine HM.out.mono ?_
     rintro e w2 ⟨cc,rfl,hcc,hF3,_,m,hO4,hml,hdm,hq⟩
     have hml':m.length=xs.length:=by rw [hml]; simp; have:=hR.out.1; omega
     have hzl:=hR.out.1
     have hlen:k + xs.length < (zs.take k ++ m ++ zs.drop (k + xs.length)).length:=by simp; omega
     have hcs:=hO4.cell hlen
     have hfs:=hO4.frozen (k + xs.length)
     obtain ⟨v0,hv0⟩:∃ v0,(zs.take k ++ m ++ zs.drop (k + xs.length))[k + xs.length]?.getD 0=v0:=⟨_,rfl⟩
     rw [hv0] at hcs
     have HR2:=zh (hR.out.step hlt EY.out hml' hdm hcc hq)
     have HO5:=zh (hO4.set (k + xs.length) cc hlen)
     have HF5:Hid (Ext w w2):=hF2.out.next hF3 (fun i hi e=>by have:=Hb.out; omega)
     clear hcc hF3 hO4 hml hdm hq hv0 hzl hlen hml' HM HO3
     go_wp2
     go_roundw
     case rel=>exact ⟨k + 1,_,by omega,by go_num,HR2,HO5.out,HF5.out.setCell (Or.inr (by have:=Hb.out; show w.heap.size≤b; omega)) _⟩
     case measure=>simp [intOf]; omega
    ·obtain rfl:k=ys.length:=by omega
     have hz:=hR.out.1
     have HT:=zh (ZbA _ zs (xs.length + ys.length) (xs.length + ys.length) wr hz hO2.out.shows0 (by omega) (by omega))
     have HN:=zh (Zaf.of_own (c:=xs.length + ys.length) hO2.out hR.out.2.1 (by omega))
     rw [hR.out.done] at HN
     clear hz
     go_wp2_with fail
     refine HT.out.mono ?_
     rintro e w2 ⟨rfl,rfl⟩
     clear HT
     go_wp2
     go_ret
     exact ⟨_,rfl,HN.out,hF2.out⟩
set_option maxHeartbeats 1000000 in
theorem ZgR (A A2:Option Addr) (xs ys:List Nat) (c c2:Nat) (w:World) (hX:Zan .u64 w A xs) (hY:Zan .u64 w A2 ys) (hc:xs.length≤c) (hl:xs.length≤4294967296) (hxy:ys.length < xs.length) (h40:ys.length < 40)
 (hx:Dig W64 xs) (hy:Dig W64 ys) (tx:Trim xs) :
 Calls Tryz.prog 153 #[.slice A2 ys.length c2, .slice A xs.length c] w (Zba w (val W64 xs * val W64 ys)):=by
 have HX:=zh hX
 have HY:=zh hY
 have Hx:=zh hx
 have Hy:=zh hy
 have Tx:=zh tx
 clear hX hY hx hy tx
 by_cases h0:ys.length=0
 ·obtain rfl:ys=[]:=List.length_eq_zero_iff.1 h0
  clear h0 Hy HY h40
  simp only [List.length_nil] at hxy
  go_enter Tryz.func153,Tryz.ntmps153
  go_wp2
  go_ret
  exact ⟨_,rfl,by simpa using Zaf.zero w,Fr.refl _ _⟩
 have h0':(((ys.length:Nat):Int) == 0)=false:=by simp; intro e; simp [e] at h0
 by_cases h1:ys=[1]
 ·subst h1
  obtain ⟨b2,off2,rfl,hb2,hcy⟩:=HY.out.at (i:=0) (by simp)
  have hcy':w.cell? ⟨b2,off2,none⟩=some (.int .u64 1):=by simpa using hcy
  have hxy':1 < xs.length:=by simpa using hxy
  clear h0 Hy HY hxy h40 hcy h0'
  go_enter Tryz.func153,Tryz.ntmps153
  go_wp2
  go_ret
  exact ⟨_,rfl,⟨A,xs,c,rfl,hc,HX.out,Hx.out,Tx.out,by simp⟩,Fr.refl _ _⟩
 ·have hone:Hid (ys.length=1→ys[0]?.getD 0≠1):=by
   intro e1 e2
   obtain ⟨y,rfl⟩:=List.length_eq_one_iff.1 e1
   simp at e2; exact h1 (by rw [e2])
  clear h1
  obtain ⟨y0,ey0⟩:∃ y0,ys[0]?.getD 0=y0:=⟨_,rfl⟩
  obtain ⟨b2,off2,rfl,hb2,hcy⟩:=HY.out.at (i:=0) (by omega)
  rw [ey0] at hcy
  have hcy':w.cell? ⟨b2,off2,none⟩=some (.int .u64 (y0:Nat)):=by simpa using hcy
  clear hcy
  have hcases:(((ys.length:Nat):Int) == 1)=false∨((((ys.length:Nat):Int) == 1)=true∧(((y0:Nat):Int) == 1)=false):=by
   by_cases e1:ys.length=1
   ·refine Or.inr ⟨by simp [e1],?_⟩
    have:=hone.out e1
    rw [ey0] at this
    simp; omega
   ·refine Or.inl ?_
    simp; omega
  clear ey0 hone
  have hylen:0 < ys.length:=by omega
  clear h0
  rcases hcases with hc1 | ⟨hc1,hc2'⟩
  all_goals
   go_enter Tryz.func153,Tryz.ntmps153
   go_wp2_with (at_make
                refine Za2 rfl _ _ _ rfl _ _ _ Tryz.underlying93 Zcq _ _ _ _ (xs.length + ys.length) rfl rfl (by omega) (by omega) (by omega) (by omega) ?_
                intro b w1 hb hO1 _ hF1 hs1
                have HO1:=zh hO1
                have HF1:=zh hF1
                have Hb:=zh hb
                clear hO1 hF1 hb hs1)
   go_loopw [55] (fun i wr=>∃ (k:Nat) (zs:List Nat),k≤ys.length∧i=.int .i64 k∧Hid (ZbU xs ys k zs)∧Hid (Own .u64 88 wr b zs)∧Hid (Ext w wr)) (fun i _=>ys.length - (intOf i).toNat)
   case atStart=>exact ⟨0,_,by omega,rfl,ZbU.start _ _,HO1.out,HF1.out⟩
   case round =>
    obtain ⟨k,zs,hk,rfl,hR,hO2,hF2⟩:=hrel
    by_cases hlt:k < ys.length
    ·obtain ⟨b3,off3,e3,hb3,hck⟩:=(HY.out.ext hF2.out).at hlt
     injection e3 with e3
     injection e3 with e31 e32
     subst e31 e32
     obtain ⟨y,ey⟩:∃ y,ys[k]?.getD 0=y:=⟨_,rfl⟩
     rw [ey] at hck
     have EY:=zh ey
     clear ey
     have hkk:k < xs.length + ys.length:=by omega
     have hkx:k + xs.length≤xs.length + ys.length:=by omega
     have HA:Hid (∀ a,A=some a→a.block≠b):=by
      intro a ha
      obtain ⟨b',off',e',hb',_⟩:=HX.out.at (i:=0) (by omega)
      rw [e'] at ha; injection ha with ha; subst ha
      have:=Hb.out
      show b'≠b
      omega
     have hzl:=hR.out.1
     have HO3:Hid (Own .u64 88 wr b (zs.take k ++ (zs.drop k).take xs.length ++ zs.drop (k + xs.length))):=by rw [ZkI]; exact hO2.out
     have Hyd:Hid (y < W64):=EY.out ▸ Hy.out.getD Zai k
     have HM:=zh (ZfL b (xs.length + ys.length - k) c k xs.length xs.length y (zs.take k) ((zs.drop k).take xs.length) (zs.drop (k + xs.length)) xs A wr (by simp; omega) (by simp; omega) rfl HO3.out (HX.out.ext hF2.out) HA.out (by simp; omega) (by simp; omega) ((hR.out.2.1.drop k).take _) Hx.out Hyd.out)
     clear hzl
     go_wp2_with fail
     refine HM.out.mono ?_
     rintro e w2 ⟨cc,rfl,hcc,hF3,_,m,hO4,hml,hdm,hq⟩
     have hml':m.length=xs.length:=by rw [hml]; simp; have:=hR.out.1; omega
     have hzl:=hR.out.1
     have hlen:k + xs.length < (zs.take k ++ m ++ zs.drop (k + xs.length)).length:=by simp; omega
     have hcs:=hO4.cell hlen
     have hfs:=hO4.frozen (k + xs.length)
     obtain ⟨v0,hv0⟩:∃ v0,(zs.take k ++ m ++ zs.drop (k + xs.length))[k + xs.length]?.getD 0=v0:=⟨_,rfl⟩
     rw [hv0] at hcs
     have HR2:=zh (hR.out.step hlt EY.out hml' hdm hcc hq)
     have HO5:=zh (hO4.set (k + xs.length) cc hlen)
     have HF5:Hid (Ext w w2):=hF2.out.next hF3 (fun i hi e=>by have:=Hb.out; omega)
     clear hcc hF3 hO4 hml hdm hq hv0 hzl hlen hml' HM HO3
     go_wp2
     go_roundw
     case rel=>exact ⟨k + 1,_,by omega,by go_num,HR2,HO5.out,HF5.out.setCell (Or.inr (by have:=Hb.out; show w.heap.size≤b; omega)) _⟩
     case measure=>simp [intOf]; omega
    ·obtain rfl:k=ys.length:=by omega
     have hz:=hR.out.1
     have HT:=zh (ZbA _ zs (xs.length + ys.length) (xs.length + ys.length) wr hz hO2.out.shows0 (by omega) (by omega))
     have HN:=zh (Zaf.of_own (c:=xs.length + ys.length) hO2.out hR.out.2.1 (by omega))
     rw [hR.out.done] at HN
     clear hz
     go_wp2_with fail
     refine HT.out.mono ?_
     rintro e w2 ⟨rfl,rfl⟩
     clear HT
     go_wp2
     go_ret
     exact ⟨_,rfl,HN.out,hF2.out⟩
theorem Zb6 (xv yv:Value) (x y:Nat) (w:World) (hX:Zaf w xv x) (hY:Zaf w yv y) (hx:wl x≤4294967296) (hy:wl y≤4294967296) (h40:wl x < 40∨wl y < 40):Calls Tryz.prog 153 #[xv,yv] w (Zba w (x * y)):=by
 obtain ⟨A,xs,c,rfl,hc,h1,h2,h3,rfl⟩:=hX
 obtain ⟨A2,ys,c2,rfl,hc2,k1,k2,k3,rfl⟩:=hY
 rw [← Zaz h2 h3] at hx h40
 rw [← Zaz k2 k3] at hy h40
 rcases Nat.lt_or_ge xs.length ys.length with hlt | hge
 ·rw [Nat.mul_comm]
  exact ZgR A2 A ys xs c2 c w k1 h1 hc2 hy hlt (by omega) k2 h2 k3
 ·exact ZgQ A A2 xs ys c c2 w h1 k1 hc hx hge (by omega) h2 k2 h3
end Go.Proofs.YthlipnahcbcjkaaGreatDoor

namespace Go.Proofs.YthlipnahcbcjkaaGreatDoor
open Go.RowKit
noncomputable def maLo (x y c:Nat):Nat:=Zb9 (Zbx x y) c 0
noncomputable def maHi (x y c:Nat):Nat:=ZcM x y + ZbQ (Zbx x y) c 0
theorem Zhr (x y c:Nat):maLo x y c + W64 * maHi x y c=x * y + c:=by
 have h1:=Zf4 x y
 have h2:=Zec (Zbx x y) c 0
 unfold maLo maHi
 rw [Nat.mul_add]
 omega
theorem Zjt (x y c:Nat):maLo x y c < W64:=ZeU _ _ _
theorem Zhs {x y c:Nat} (hx:x < W64) (hy:y < W64) (hc:c < W64):maHi x y c < W64:=by
 have h1:=Zhr x y c
 have h2:=Zh6 hx hy
 exact Ze0 _ (by omega)
set_option maxHeartbeats 1000000 in
theorem Zbg (x y c:Nat) (w:World) (hx:x < W64) (hy:y < W64) (hc:c < W64) :
 Calls Tryz.prog 275 #[.int .u64 (x:Int), .int .u64 (y:Int), .int .u64 (c:Int)] w fun e w'=>e=.returned (.tuple #[.int .u64 (maLo x y c:Int), .int .u64 (maHi x y c:Int)])∧w=w':=by
 have HX:=zh hx
 have HY:=zh hy
 have HW:Hid (IntKind.u64.wrap ((ZcM x y:Int) + (ZbQ (Zbx x y) c 0:Int))=(maHi x y c:Int)):=by
  have h:=Zhs hx hy hc
  unfold Hid maHi at *
  rw [← Int.natCast_add,Zbh _ h]
 clear hx hy hc
 have ha:=ZeW
 go_enter Tryz.func275,Tryz.ntmps275
 go_wp2_with (go_at_call 270; refine (Zfm _ _ HX.out HY.out _).mono ?_; rintro e w' ⟨rfl,rfl⟩)
 go_ret2
 exact ⟨by rw [← HW.out]; rfl,rfl⟩
end Go.Proofs.YthlipnahcbcjkaaGreatDoor

namespace Go.Proofs.YthlipnahcbcjkaaGreatDoor
def ZbV (u v:Nat) (xs ys os:List Nat) (k:Nat) (zs:List Nat) (cM cN bo:Nat):Prop :=
 zs.length=os.length∧zs.drop k=os.drop k∧Dig W64 zs∧cM < W64∧cN < W64∧bo≤1 ∧
  val W64 (zs.take k) + u * val W64 (xs.take k) + W64 ^ k * cN=v * val W64 (ys.take k) + W64 ^ k * (cM + bo)
theorem ZbV.start {u v:Nat} {xs ys os:List Nat} (h:Dig W64 os):ZbV u v xs ys os 0 os 0 0 0:=⟨rfl,rfl,h,Zai,Zai,by omega,by simp⟩
theorem Zob (Bk B V X Y u v x y cM cN bo m n cM' cN' d bo':Nat) (h1:V + u * X + Bk * cN=v * Y + Bk * (cM + bo)) (h2:m + B * cM'=x * u + cM) (h3:n + B * cN'=y * v + cN) (h4:d + m + bo=n + B * bo') :
 V + Bk * d + u * (X + Bk * x) + Bk * B * cN'=v * (Y + Bk * y) + Bk * B * (cM' + bo'):=by
 have e2:=congrArg (Bk * ·) h2
 have e3:=congrArg (Bk * ·) h3
 have e4:=congrArg (Bk * ·) h4
 simp only [Nat.mul_add] at e2 e3 e4 h1 ⊢
 have a1:u * (Bk * x)=Bk * (x * u):=by rw [Nat.mul_left_comm,Nat.mul_comm u]
 have a2:v * (Bk * y)=Bk * (y * v):=by rw [Nat.mul_left_comm,Nat.mul_comm v]
 have a3:Bk * (B * cM')=Bk * B * cM':=(Nat.mul_assoc _ _ _).symm
 have a4:Bk * (B * cN')=Bk * B * cN':=(Nat.mul_assoc _ _ _).symm
 have a5:Bk * (B * bo')=Bk * B * bo':=(Nat.mul_assoc _ _ _).symm
 rw [a1,a2]
 rw [a3] at e2
 rw [a4] at e3
 rw [a5] at e4
 omega
theorem ZbV.step {u v:Nat} {xs ys os zs:List Nat} {k cM cN bo x y:Nat} (h:ZbV u v xs ys os k zs cM cN bo) (hu:u < W64) (hv:v < W64) (hkx:k < xs.length) (hky:k < ys.length) (hko:k < os.length) (dx:Dig W64 xs) (dy:Dig W64 ys) (hx:xs[k]?.getD 0=x) (hy:ys[k]?.getD 0=y) :
 ZbV u v xs ys os (k + 1) (zs.set k (ZdX (maLo y v cN) (maLo x u cM) bo)) (maHi x u cM) (maHi y v cN) (ZcL (maLo y v cN) (maLo x u cM) bo):=by
 obtain ⟨h1,h2,h3,h4,h5,h6,h7⟩:=h
 have hxW:x < W64:=hx ▸ dx.getD Zai k
 have hyW:y < W64:=hy ▸ dy.getD Zai k
 have hkz:k < zs.length:=by omega
 refine ⟨by simpa using h1,?_,h3.set k (ZeV _ _ _),Zhs hxW hu h4,Zhs hyW hv h5,Zh3 _ _ _,?_⟩
 ·rw [List.drop_set_of_lt (by omega)]
  have:=congrArg (List.drop 1) h2
  simpa [List.drop_drop,Nat.add_comm] using this
 ·rw [Zav k (by simpa using hkz),Zav k hkx,Zav k hky,hx,hy,List.take_set_of_le (Nat.le_refl _),List.getElem?_set_self hkz,Nat.pow_succ]
  exact Zob _ _ _ _ _ _ _ _ _ _ _ _ _ _ _ _ _ _ h7 (Zhr x u cM) (Zhr y v cN) (Zf3 (Zjt _ _ _) (Zjt _ _ _) h6)
theorem ZbV.at {u v:Nat} {xs ys os zs:List Nat} {k cM cN bo:Nat} (h:ZbV u v xs ys os k zs cM cN bo):zs[k]?.getD 0=os[k]?.getD 0:=by
 have:=congrArg (fun l:List Nat=>l[0]?.getD 0) h.2.1
 simpa using this
theorem ZbV.done {u v R:Nat} {xs ys os zs:List Nat} {cM cN bo:Nat} (h:ZbV u v xs ys os os.length zs cM cN bo) (hx:xs.length=os.length) (hy:ys.length=os.length) (hR:R + u * val W64 xs=v * val W64 ys) (hlt:R < W64 ^ os.length):val W64 zs=R∧Dig W64 zs∧zs.length=os.length:=by
 obtain ⟨h1,_,h3,_,_,_,h7⟩:=h
 rw [List.take_of_length_le (by omega),List.take_of_length_le (by omega),List.take_of_length_le (by omega),← hR] at h7
 have hz:=Za6 h3
 rw [h1] at hz
 have e:val W64 zs + W64 ^ os.length * cN=R + W64 ^ os.length * (cM + bo):=by omega
 have m1:(val W64 zs + W64 ^ os.length * cN) % W64 ^ os.length=val W64 zs:=by rw [Nat.add_mul_mod_self_left,Nat.mod_eq_of_lt hz]
 have m2:(R + W64 ^ os.length * (cM + bo)) % W64 ^ os.length=R:=by rw [Nat.add_mul_mod_self_left,Nat.mod_eq_of_lt hlt]
 rw [e,m2] at m1
 exact ⟨m1.symm,h3,h1⟩
end Go.Proofs.YthlipnahcbcjkaaGreatDoor
