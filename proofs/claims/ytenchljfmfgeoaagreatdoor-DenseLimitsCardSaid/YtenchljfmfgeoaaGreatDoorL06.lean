/-
 My texts MulWords, Mul, Madd, App, Wds, Ka put together.
-/
import Derived.Test.YtenchljfmfgeoaaGreatDoorL04
import Derived.Test.YtenchljfmfgeoaaGreatDoorL05
set_option maxRecDepth 100000
namespace Go.Proofs.YtenchljfmfgeoaaGreatDoor
open Go.RowKit
theorem ZbI (a:Nat) (ha:a < W64):IntKind.u64.wrap (a:Int)=(a:Int):=by rw [Zan] at ha; rw [IntKind.wrap_u64]; omega
theorem Zf9 {a b:Nat} (ha:a < W64) (hb:b < W64):a * b + W64 + W64≤W64 * W64 + 1:=by
 have h1:a * b≤(W64 - 1) * (W64 - 1):=Nat.mul_le_mul (by omega) (by omega)
 rw [Zan] at *
 omega
theorem ZdY (a:Nat) {n:Nat} (h:W64 * a < W64 * n):a < n:=Nat.lt_of_mul_lt_mul_left h
noncomputable def Zfb (z x u c:Nat):Nat:=Zbm z (Zaw (Zat x u) c 0) 0
noncomputable def ZdK (z x u c:Nat):Nat:=ZaN x u + ZaB (Zat x u) c 0 + Zbn z (Zaw (Zat x u) c 0) 0
theorem ZjN {z:Nat} (hz:z < W64) (x u c:Nat):Zfb z x u c + x * u + c=z + W64 * ZdK z x u c:=by
 have h1:=Zde x u
 have h2:=ZcE (Zat x u) c 0
 have h3:=ZeY hz (Zdd (Zat x u) c 0) (c:=0) (by omega)
 unfold Zfb ZdK
 rw [Nat.mul_add,Nat.mul_add]
 omega
theorem ZgZ {z x u c:Nat} (hz:z < W64) (hx:x < W64) (hu:u < W64) (hc:c < W64):ZdK z x u c < W64:=by
 have h1:=ZjN hz x u c
 have h2:=Zf9 hx hu
 have h3:Zfb z x u c < W64:=Zd5 _ _ _
 exact ZdY _ (by omega)
theorem ZpG {z x u c:Nat} (hz:z < W64) (hx:x < W64) (hu:u < W64) (hc:c < W64) :
 IntKind.u64.wrap (IntKind.u64.wrap ((ZaN x u:Int) + (ZaB (Zat x u) c 0:Int)) + (Zbn z (Zaw (Zat x u) c 0) 0:Int))=(ZdK z x u c:Int):=by
 have h:=ZgZ hz hx hu hc
 unfold ZdK at *
 rw [← Int.natCast_add,ZbI _ (by omega),← Int.natCast_add,ZbI _ h]
def ZcL (mid xs:List Nat) (u k:Nat) (m:List Nat) (c:Nat):Prop :=
 m.length=mid.length∧m.drop k=mid.drop k∧Dig W64 m∧c < W64∧val W64 (m.take k) + val W64 (xs.take k) * u=val W64 (mid.take k) + W64 ^ k * c
theorem ZcL.start (mid xs:List Nat) (u:Nat) (h:Dig W64 mid):ZcL mid xs u 0 mid 0:=⟨rfl,rfl,h,Zah,by simp⟩
theorem ZcL.at {mid xs m:List Nat} {u k c:Nat} (h:ZcL mid xs u k m c):m[k]?.getD 0=mid[k]?.getD 0:=by
 have:=congrArg (fun l=>l[0]?.getD 0) h.2.1
 simpa [List.getElem?_drop] using this
theorem ZcL.step {mid xs m:List Nat} {u k c z x:Nat} (h:ZcL mid xs u k m c) (hk:k < mid.length) (hz:m[k]?.getD 0=z) (hx:xs[k]?.getD 0=x) (hxl:k < xs.length) (hxd:Dig W64 xs) (hu:u < W64):ZcL mid xs u (k + 1) (m.set k (Zfb z x u c)) (ZdK z x u c):=by
 have e1:mid[k]?.getD 0=z:=h.at.symm.trans hz
 obtain ⟨h1,h2,h3,h5,h4⟩:=h
 have hzd:z < W64:=hz ▸ h3.getD Zah k
 refine ⟨by simpa using h1,?_,h3.set k (Zd5 _ _ _),ZgZ hzd (hx ▸ hxd.getD Zah k) hu h5,?_⟩
 ·rw [List.drop_set_of_lt (by omega),← List.drop_drop,← List.drop_drop,h2]
 ·rw [ZaZ _ _ _ _ (by omega),Zay k hk,Zay k hxl,e1,hx,Nat.pow_succ]
  exact Zn6 _ _ _ _ _ _ _ _ _ _ _ h4 (ZjN hzd x u c)
def ZkL (mid xs:List Nat) (u cc:Nat) (m:List Nat):Prop:=val W64 m + val W64 xs * u=val W64 mid + W64 ^ mid.length * cc
theorem ZcL.done {mid xs m:List Nat} {u c:Nat} (h:ZcL mid xs u xs.length m c) (hl:xs.length=mid.length):ZkL mid xs u c m:=by
 obtain ⟨h1,h2,h3,h5,h4⟩:=h
 rw [List.take_of_length_le (by omega),List.take_of_length_le (by omega),List.take_of_length_le (by omega),hl] at h4
 exact h4
def ZpH (t:TypeId) (b:Nat) (pre mid post xs:List Nat) (u:Nat) (w:World) (e:Ending) (w':World):Prop :=
 ∃ cc,e=.returned (.int .u64 (cc:Nat))∧cc < W64∧Zq8 t b pre post mid.length (ZkL mid xs u cc) w w'
set_option maxHeartbeats 1000000 in
theorem ZgR (b c c2 off n m u:Nat) (pre mid post xs:List Nat) (A:Option Addr) (w:World) (ho:pre.length=off) (hn:mid.length=n) (hxm:xs.length=m) (hO:Own .u64 141 w b (pre ++ mid ++ post)) (hX:Zae .u64 w A xs) (hA:∀ a,A=some a→a.block≠b)
 (hl:xs.length=mid.length) (hm:mid.length≤1099511627776) (hdm:Dig W64 mid) (hdx:Dig W64 xs) (hu:u < W64) :
 Calls Tryz.prog 244 #[.slice (some ⟨b,off,none⟩) n c, .slice A m c2, .int .u64 (u:Int)] w (ZpH 141 b pre mid post xs u w):=by
 subst ho hn hxm
 have HO:=zh hO
 have HX:=zh hX
 have HA:=zh hA
 have Hdm:=zh hdm
 have Hdx:=zh hdx
 have HL:=zh hl
 have HU:=zh hu
 have hle:xs.length≤mid.length:=by omega
 clear hO hX hA hdm hdx hl hu
 go_enter Tryz.func244,Tryz.ntmps244
 go_wp2
 go_loopw [7,16] (fun cv i wr=>∃ (k cc:Nat) (m:List Nat),k≤xs.length∧i=.int .i64 k∧cv=.int .u64 cc∧Hid (ZcL mid xs u k m cc)∧Hid (Own .u64 141 wr b (pre ++ m ++ post))∧Hid (Fr (· = b) w wr)∧Hid (Zbl 141 b w wr)) (fun _ i _=>xs.length - (intOf i).toNat)
 case atStart=>exact ⟨0,0,mid,by omega,rfl,rfl,ZcL.start _ _ _ Hdm.out,HO.out,Fr.refl _ _,Zbl.refl _ _ _⟩
 case round =>
  obtain ⟨k,cc,m,hk,rfl,rfl,hR,hO1,hF1,hS1⟩:=hrel
  by_cases hlt:k < xs.length
  ·obtain ⟨b2,off2,rfl,hb2,hcx⟩:=(HX.out.fr hF1.out (fun a ha _=>HA.out a ha)).at hlt
   obtain ⟨x,ex⟩:∃ x,xs[k]?.getD 0=x:=⟨_,rfl⟩
   obtain ⟨z,ez⟩:∃ z,m[k]?.getD 0=z:=⟨_,rfl⟩
   have hkm:k < m.length:=by have:=hR.out.1; omega
   have hcz:=hO1.out.mid (k:=k) hkm
   have hfz:=hO1.out.frozen (pre.length + k)
   rw [ex] at hcx
   rw [ez] at hcz
   have Hx:Hid (x < W64):=ex ▸ Hdx.out.getD Zah k
   have HR2:=zh (hR.out.step (by omega) ez ex hlt Hdx.out HU.out)
   have HW:=zh (ZpG (ez ▸ hR.out.2.2.1.getD Zah k) Hx.out HU.out hR.out.2.2.2.1)
   clear ex ez
   have ha:=ZeZ
   have hsb:=ZkH
   go_wp2_with (go_at_call 161; refine (Zeq _ _ Hx.out HU.out _).mono ?_; rintro e w' ⟨rfl,rfl⟩)
   go_roundw
   case rel=>exact ⟨k + 1,_,_,by omega,by go_num,by rw [HW.out],HR2,hO1.out.set_mid hkm _,hF1.out.setCell (Or.inl rfl) _,hS1.out.setCell _ _ _⟩
   case measure=>simp [intOf]; omega
  ·obtain rfl:k=xs.length:=by omega
   go_wp2
   go_ret
   exact ⟨cc,rfl,hR.out.2.2.2.1,hF1.out,hS1.out,m,hO1.out,hR.out.1,hR.out.2.2.1,hR.out.done HL.out⟩
end Go.Proofs.YtenchljfmfgeoaaGreatDoor

namespace Go.Proofs.YtenchljfmfgeoaaGreatDoor
open Go.RowKit
theorem Zr9 (zs:List Nat) (k n:Nat):zs.take k ++ (zs.drop k).take n ++ zs.drop (k + n)=zs:=by
 rw [List.append_assoc,← List.drop_drop,List.take_append_drop,List.take_append_drop]
end Go.Proofs.YtenchljfmfgeoaaGreatDoor

namespace Go.Proofs.YtenchljfmfgeoaaGreatDoor
open Go.RowKit
noncomputable def maLo (x y c:Nat):Nat:=Zaw (Zat x y) c 0
noncomputable def maHi (x y c:Nat):Nat:=ZaN x y + ZaB (Zat x y) c 0
theorem ZhH (x y c:Nat):maLo x y c + W64 * maHi x y c=x * y + c:=by
 have h1:=Zde x y
 have h2:=ZcE (Zat x y) c 0
 unfold maLo maHi
 rw [Nat.mul_add]
 omega
theorem Zjo (x y c:Nat):maLo x y c < W64:=Zdd _ _ _
theorem ZfY {x y c:Nat} (hx:x < W64) (hy:y < W64) (hc:c < W64):maHi x y c < W64:=by
 have h1:=ZhH x y c
 have h2:=Zf9 hx hy
 exact ZdY _ (by omega)
set_option maxHeartbeats 1000000 in
theorem ZbB (x y c:Nat) (w:World) (hx:x < W64) (hy:y < W64) (hc:c < W64) :
 Calls Tryz.prog 218 #[.int .u64 (x:Int), .int .u64 (y:Int), .int .u64 (c:Int)] w fun e w'=>e=.returned (.tuple #[.int .u64 (maLo x y c:Int), .int .u64 (maHi x y c:Int)])∧w=w':=by
 have HX:=zh hx
 have HY:=zh hy
 have HW:Hid (IntKind.u64.wrap ((ZaN x y:Int) + (ZaB (Zat x y) c 0:Int))=(maHi x y c:Int)):=by
  have h:=ZfY hx hy hc
  unfold Hid maHi at *
  rw [← Int.natCast_add,ZbI _ h]
 clear hx hy hc
 have ha:=ZeZ
 go_enter Tryz.func218,Tryz.ntmps218
 go_wp2_with (go_at_call 161; refine (Zeq _ _ HX.out HY.out _).mono ?_; rintro e w' ⟨rfl,rfl⟩)
 go_ret2
 exact ⟨by rw [← HW.out]; rfl,rfl⟩
end Go.Proofs.YtenchljfmfgeoaaGreatDoor

namespace Go.Proofs.YtenchljfmfgeoaaGreatDoor
def Zb2 (u v:Nat) (xs ys os:List Nat) (k:Nat) (zs:List Nat) (cM cN bo:Nat):Prop :=
 zs.length=os.length∧zs.drop k=os.drop k∧Dig W64 zs∧cM < W64∧cN < W64∧bo≤1 ∧
  val W64 (zs.take k) + u * val W64 (xs.take k) + W64 ^ k * cN=v * val W64 (ys.take k) + W64 ^ k * (cM + bo)
theorem Zb2.start {u v:Nat} {xs ys os:List Nat} (h:Dig W64 os):Zb2 u v xs ys os 0 os 0 0 0:=⟨rfl,rfl,h,Zah,Zah,by omega,by simp⟩
theorem ZpR (Bk B V X Y u v x y cM cN bo m n cM' cN' d bo':Nat) (h1:V + u * X + Bk * cN=v * Y + Bk * (cM + bo)) (h2:m + B * cM'=x * u + cM) (h3:n + B * cN'=y * v + cN) (h4:d + m + bo=n + B * bo') :
 V + Bk * d + u * (X + Bk * x) + Bk * B * cN'=v * (Y + Bk * y) + Bk * B * (cM' + bo'):=by
 have e2:=congrArg (Bk * ·) h2
 have e3:=congrArg (Bk * ·) h3
 have e4:=congrArg (Bk * ·) h4
 simp only [Nat.mul_add] at e2 e3 e4 h1 ⊢
 have a1:u * (Bk * x)=Bk * (x * u):=by rw [Nat.mul_left_comm,Nat.mul_comm u]
 have a2:v * (Bk * y)=Bk * (y * v):=by rw [Nat.mul_left_comm,Nat.mul_comm v]
 have a3:Bk * (B * cM')=Bk * B * cM':=(Nat.mul_assoc _ _ _).symm
 have a4:Bk * (B * cN')=Bk * B * cN':=(Nat.mul_assoc _ _ _).symm
 have a5:Bk * (B * bo')=Bk * B * bo':=(Nat.mul_assoc _ _ _).symm
 rw [a1,a2]
 rw [a3] at e2
 rw [a4] at e3
 rw [a5] at e4
 omega
theorem Zb2.step {u v:Nat} {xs ys os zs:List Nat} {k cM cN bo x y:Nat} (h:Zb2 u v xs ys os k zs cM cN bo) (hu:u < W64) (hv:v < W64) (hkx:k < xs.length) (hky:k < ys.length) (hko:k < os.length) (dx:Dig W64 xs) (dy:Dig W64 ys) (hx:xs[k]?.getD 0=x) (hy:ys[k]?.getD 0=y) :
 Zb2 u v xs ys os (k + 1) (zs.set k (Zbm (maLo y v cN) (maLo x u cM) bo)) (maHi x u cM) (maHi y v cN) (Zbn (maLo y v cN) (maLo x u cM) bo):=by
 obtain ⟨h1,h2,h3,h4,h5,h6,h7⟩:=h
 have hxW:x < W64:=hx ▸ dx.getD Zah k
 have hyW:y < W64:=hy ▸ dy.getD Zah k
 have hkz:k < zs.length:=by omega
 refine ⟨by simpa using h1,?_,h3.set k (Zd5 _ _ _),ZfY hxW hu h4,ZfY hyW hv h5,Zf8 _ _ _,?_⟩
 ·rw [List.drop_set_of_lt (by omega)]
  have:=congrArg (List.drop 1) h2
  simpa [List.drop_drop,Nat.add_comm] using this
 ·rw [Zay k (by simpa using hkz),Zay k hkx,Zay k hky,hx,hy,List.take_set_of_le (Nat.le_refl _),List.getElem?_set_self hkz,Nat.pow_succ]
  exact ZpR _ _ _ _ _ _ _ _ _ _ _ _ _ _ _ _ _ _ h7 (ZhH x u cM) (ZhH y v cN) (ZeY (Zjo _ _ _) (Zjo _ _ _) h6)
theorem Zb2.at {u v:Nat} {xs ys os zs:List Nat} {k cM cN bo:Nat} (h:Zb2 u v xs ys os k zs cM cN bo):zs[k]?.getD 0=os[k]?.getD 0:=by
 have:=congrArg (fun l:List Nat=>l[0]?.getD 0) h.2.1
 simpa using this
theorem Zb2.done {u v R:Nat} {xs ys os zs:List Nat} {cM cN bo:Nat} (h:Zb2 u v xs ys os os.length zs cM cN bo) (hx:xs.length=os.length) (hy:ys.length=os.length) (hR:R + u * val W64 xs=v * val W64 ys) (hlt:R < W64 ^ os.length):val W64 zs=R∧Dig W64 zs∧zs.length=os.length:=by
 obtain ⟨h1,_,h3,_,_,_,h7⟩:=h
 rw [List.take_of_length_le (by omega),List.take_of_length_le (by omega),List.take_of_length_le (by omega),← hR] at h7
 have hz:=Za1 h3
 rw [h1] at hz
 have e:val W64 zs + W64 ^ os.length * cN=R + W64 ^ os.length * (cM + bo):=by omega
 have m1:(val W64 zs + W64 ^ os.length * cN) % W64 ^ os.length=val W64 zs:=by rw [Nat.add_mul_mod_self_left,Nat.mod_eq_of_lt hz]
 have m2:(R + W64 ^ os.length * (cM + bo)) % W64 ^ os.length=R:=by rw [Nat.add_mul_mod_self_left,Nat.mod_eq_of_lt hlt]
 rw [e,m2] at m1
 exact ⟨m1.symm,h3,h1⟩
end Go.Proofs.YtenchljfmfgeoaaGreatDoor

namespace Go.Proofs.YtenchljfmfgeoaaGreatDoor
open Go.RowKit
noncomputable def wds (n:Nat):List Nat:=if _h:n=0 then [] else (n % W64) :: wds (n / W64)
termination_by n
decreasing_by exact Nat.div_lt_self (by omega) ZcK
theorem Zc1:∀ n,Dig W64 (wds n)∧val W64 (wds n)=n:=by
 intro n
 induction n using Nat.strongRecOn with
 | ind n ih =>
   rw [wds]
   split
   ·rename_i h; exact ⟨Dig.nil,by simp [h]⟩
   ·rename_i h
    obtain ⟨h1,h2⟩:=ih (n / W64) (Nat.div_lt_self (by omega) ZcK)
    exact ⟨h1.cons (Nat.mod_lt _ Zah),by rw [ZcV,h2]; exact Nat.mod_add_div _ _⟩
theorem Zil:∀ n,Trim (wds n):=by
 intro n
 induction n using Nat.strongRecOn with
 | ind n ih =>
   rw [wds]
   split
   ·exact Trim.nil
   ·rename_i h
    have h1:=ih (n / W64) (Nat.div_lt_self (by omega) ZcK)
    intro k hk
    rcases Nat.eq_zero_or_pos (n / W64) with e | e
    ·rw [e,wds,dif_pos rfl] at hk ⊢
     simp at hk
     subst hk
     have:=Nat.mod_add_div n W64
     rw [e] at this
     simp; omega
    ·obtain ⟨m,rfl⟩:∃ m,k=m + 1:=⟨k - 1,by
      have:wds (n / W64)≠[]:=fun e'=>by have:=(Zc1 (n / W64)).2; rw [e'] at this; simp at this; omega
      have:=List.length_pos_iff.2 this
      simp at hk; omega⟩
     have:=h1 m (by simpa using hk)
     simpa using this
theorem ZoK {xs:List Nat} {n:Nat} (hd:Dig W64 xs) (ht:Trim xs) (hv:val W64 xs=n):xs=wds n:=ZkG ZcK hd (Zc1 n).1 ht (Zil n) (hv.trans (Zc1 n).2.symm)
theorem ZmC (n:Nat):(wds n).length=wl n:=by rw [ZaE (Zc1 n).1 (Zil n),(Zc1 n).2]
theorem Zad.shows {w:World} {A:Option Addr} {l c n:Nat} (h:Zad w (.slice A l c) n):Zae .u64 w A (wds n):=by
 obtain ⟨A',xs,c',e,h1,h2,h3,h4,h5⟩:=h
 injection e with e1 e2 e3
 subst e1
 rw [← ZoK h3 h4 h5]; exact h2
theorem Zad.lens {w:World} {A:Option Addr} {l c n:Nat} (h:Zad w (.slice A l c) n):l=(wds n).length∧(wds n).length≤c:=by
 obtain ⟨A',xs,c',e,h1,h2,h3,h4,h5⟩:=h
 injection e with e1 e2 e3
 subst e3
 rw [← ZoK h3 h4 h5]; exact ⟨e2,h1⟩
theorem Zae.lt {k:IntKind} {w:World} {A:Option Addr} {xs:List Nat} (h:Zae k w A xs) (hne:0 < xs.length) {a:Addr} (ha:A=some a):a.block < w.heap.size:=by
 obtain ⟨b,o,e,hb,_⟩:=h.at hne
 rw [ha] at e; injection e with e; rw [e]; exact hb
end Go.Proofs.YtenchljfmfgeoaaGreatDoor

namespace Go.Proofs.YtenchljfmfgeoaaGreatDoor
open Go.RowKit
end Go.Proofs.YtenchljfmfgeoaaGreatDoor
