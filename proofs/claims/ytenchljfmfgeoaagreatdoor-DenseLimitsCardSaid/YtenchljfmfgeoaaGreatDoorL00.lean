/-
 My texts Math, DivMath, Lehmer, Rp, Prime put together.
-/
set_option maxRecDepth 100000
namespace Go.Proofs.YtenchljfmfgeoaaGreatDoor
def val (B:Nat):List Nat→Nat
 | []=>0
 | x :: xs=>x + B * val B xs
def Dig (B:Nat) (xs:List Nat):Prop:=∀ x ∈ xs,x < B
def Trim (xs:List Nat):Prop:=∀ k,xs.length=k + 1→(xs[k]?.getD 0)≠0
variable {B:Nat} {xs ys:List Nat}
@[simp] theorem Zdq:val B []=0:=rfl
@[simp] theorem ZcV (x:Nat):val B (x :: xs)=x + B * val B xs:=rfl
theorem ZbP:val B (xs ++ ys)=val B xs + B ^ xs.length * val B ys:=by
 induction xs with
 | nil=>simp
 | cons x xs ih=>simp [ih,Nat.pow_succ,Nat.mul_add,Nat.add_assoc]; rw [← Nat.mul_assoc,Nat.mul_comm B]
theorem Dig.nil:Dig B []:=fun _ h=>by cases h
theorem Dig.cons {x:Nat} (h:x < B) (hs:Dig B xs):Dig B (x :: xs):=fun y hy=>by
 rcases List.mem_cons.1 hy with rfl | hy
 ·exact h
 ·exact hs y hy
theorem Dig.head {x:Nat} (h:Dig B (x :: xs)):x < B:=h x (by simp)
theorem Dig.tail {x:Nat} (h:Dig B (x :: xs)):Dig B xs:=fun y hy=>h y (by simp [hy])
theorem Dig.append (h:Dig B xs) (k:Dig B ys):Dig B (xs ++ ys):=fun y hy=>by
 rcases List.mem_append.1 hy with hy | hy
 ·exact h y hy
 ·exact k y hy
theorem Dig.take (h:Dig B xs) (k:Nat):Dig B (xs.take k):=fun y hy=>h y (List.mem_of_mem_take hy)
theorem Dig.drop (h:Dig B xs) (k:Nat):Dig B (xs.drop k):=fun y hy=>h y (List.mem_of_mem_drop hy)
theorem Dig.getD (h:Dig B xs) (hB:0 < B) (k:Nat):(xs[k]?.getD 0) < B:=by
 rcases Nat.lt_or_ge k xs.length with hk | hk
 ·rw [List.getElem?_eq_getElem hk]; exact h _ (List.getElem_mem hk)
 ·rw [List.getElem?_eq_none hk]; exact hB
theorem Dig.set (h:Dig B xs) (k:Nat) {v:Nat} (hv:v < B):Dig B (xs.set k v):=fun y hy=>by
 rcases List.mem_or_eq_of_mem_set hy with hy | hy
 ·exact h y hy
 ·exact hy ▸ hv
theorem Dig.replicate (hB:0 < B) (n:Nat):Dig B (List.replicate n 0):=fun y hy=>by
 rw [(List.mem_replicate.1 hy).2]; exact hB
theorem Za1 (h:Dig B xs):val B xs < B ^ xs.length:=by
 induction xs with
 | nil=>simp
 | cons x xs ih =>
   have h1:=h.head
   have h2:=ih h.tail
   have h3:B * (val B xs + 1)≤B * B ^ xs.length:=Nat.mul_le_mul_left B h2
   rw [ZcV,List.length_cons,Nat.pow_succ,Nat.mul_comm (B ^ _)]
   rw [Nat.mul_add] at h3
   omega
theorem Zcq (n:Nat):val B (List.replicate n 0)=0:=by
 induction n with
 | zero=>rfl
 | succ n ih=>simp [List.replicate_succ,ih]
theorem Zay (k:Nat) (h:k < xs.length):val B (xs.take (k + 1))=val B (xs.take k) + B ^ k * (xs[k]?.getD 0):=by
 rw [List.take_succ_eq_append_getElem h,ZbP]
 have:(xs.take k).length=k:=by simp; omega
 rw [this]
 simp [List.getElem?_eq_getElem h]
theorem ZaT (k:Nat):val B xs=val B (xs.take k) + B ^ (min k xs.length) * val B (xs.drop k):=by
 conv=>lhs; rw [← List.take_append_drop k xs,ZbP]
 simp
theorem Zq5 (h:Dig B xs) (k:Dig B ys) (hl:xs.length=ys.length) (hv:val B xs=val B ys):xs=ys:=by
 induction xs generalizing ys with
 | nil=>cases ys with | nil=>rfl | cons=>cases hl
 | cons x xs ih =>
   cases ys with
   | nil=>cases hl
   | cons y ys =>
     have hx:=h.head
     have hy:=k.head
     simp only [ZcV] at hv
     have e1:x=y:=by
      have:=congrArg (· % B) hv
      simpa [Nat.add_mul_mod_self_left,Nat.mod_eq_of_lt hx,Nat.mod_eq_of_lt hy] using this
     subst e1
     have e2:val B xs=val B ys:=Nat.eq_of_mul_eq_mul_left (by omega:0 < B) (by omega)
     rw [ih h.tail k.tail (by simpa using hl) e2]
theorem ZkF (P B V X Y x y c d c':Nat) (h1:V + P * c=X + Y) (h2:d + B * c'=x + y + c):V + P * d + P * B * c'=X + P * x + (Y + P * y):=by
 have h3:=congrArg (P * ·) h2
 simp only [Nat.mul_add] at h3
 rw [Nat.mul_assoc]
 omega
theorem ZpE (P B V X Y x y b d b':Nat) (h1:V + Y=X + P * b) (h2:d + y + b=x + B * b'):V + P * d + (Y + P * y)=X + P * x + P * B * b':=by
 have h3:=congrArg (P * ·) h2
 simp only [Nat.mul_add] at h3
 rw [Nat.mul_assoc]
 omega
theorem Zn6 (P B V Z X w z x c d c':Nat) (h1:V + X * w=Z + P * c) (h2:d + x * w + c=z + B * c'):V + P * d + (X + P * x) * w=Z + P * z + P * B * c':=by
 have h3:=congrArg (P * ·) h2
 simp only [Nat.mul_add] at h3
 rw [Nat.mul_assoc,Nat.add_mul,Nat.mul_assoc]
 omega
theorem Zic (B V Q w r x q r':Nat) (h1:V=Q * w + r) (h2:r * B + x=q * w + r'):x + B * V=(q + B * Q) * w + r':=by
 subst h1
 rw [Nat.mul_add,Nat.add_mul,Nat.mul_assoc]
 have:B * r=r * B:=Nat.mul_comm _ _
 omega
theorem Zr7 (v2 v' t3 u' R q2:Nat) (B:Nat) (hv':v' < R) (hq:q2 < B) (hBv:B * R≤v2 * R) (hq2:q2 * v2≤t3) :
 q2 * (v2 * R + v')≤(t3 * R + u') + (v2 * R + v'):=by
 have h1:q2 * v2 * R≤t3 * R:=Nat.mul_le_mul_right R hq2
 have h2:q2 * v'≤B * R:=Nat.mul_le_mul (by omega) (by omega)
 rw [Nat.mul_add,← Nat.mul_assoc]
 omega
theorem Zn7 (v2 v' t3 u' R q2:Nat) (hu':u' < R) (hq2:t3 < (q2 + 1) * v2):t3 * R + u' < (q2 + 1) * (v2 * R + v'):=by
 have h1:(t3 + 1) * R≤(q2 + 1) * v2 * R:=Nat.mul_le_mul_right R hq2
 rw [Nat.mul_add,← Nat.mul_assoc]
 rw [Nat.add_mul t3,Nat.one_mul] at h1
 omega
theorem ZaI (k:Nat) (h:k < xs.length):val B (xs.drop k)=(xs[k]?.getD 0) + B * val B (xs.drop (k + 1)):=by
 rw [List.drop_eq_getElem_cons h,ZcV,List.getElem?_eq_getElem h]; rfl
theorem Zfa (hx:Dig B xs) (hl:xs.length=ys.length) (k:Nat) (hk:k < xs.length) (he:xs.drop (k + 1)=ys.drop (k + 1)) (hd:(xs[k]?.getD 0) < (ys[k]?.getD 0)):val B xs < val B ys:=by
 rw [ZaT (xs:=xs) k,ZaT (xs:=ys) k,ZaI k hk,ZaI k (by omega),he,Nat.min_eq_left (by omega),Nat.min_eq_left (by omega)]
 have h1:=Za1 (hx.take k)
 rw [List.length_take,Nat.min_eq_left (by omega)] at h1
 have h2:B ^ k * ((xs[k]?.getD 0) + 1)≤B ^ k * (ys[k]?.getD 0):=Nat.mul_le_mul_left _ hd
 rw [Nat.mul_add,Nat.mul_add]
 rw [Nat.mul_add] at h2
 omega
theorem ZgT (h:Trim xs) {k:Nat} (hk:xs.length=k + 1):B ^ k≤val B xs:=by
 rw [ZaT (xs:=xs) k,ZaI k (by omega),List.drop_of_length_le (by omega:xs.length≤k + 1),Nat.min_eq_left (by omega)]
 have h1:B ^ k * 1≤B ^ k * (xs[k]?.getD 0):=Nat.mul_le_mul_left _ (by have:=h k hk; omega)
 simp only [Zdq,Nat.mul_zero,Nat.add_zero]
 omega
theorem ZdF (hB:0 < B) (hx:Dig B xs) (hy:Trim ys) (hl:xs.length < ys.length):val B xs < val B ys:=by
 obtain ⟨k,hk⟩:∃ k,ys.length=k + 1:=⟨ys.length - 1,by omega⟩
 have h1:=Za1 hx
 have h2:=ZgT (B:=B) hy hk
 have h3:B ^ xs.length≤B ^ k:=Nat.pow_le_pow_right hB (by omega)
 omega
theorem ZbY (hB:1 < B) (hx:Trim xs) {n:Nat} (h:val B xs < B ^ n):xs.length≤n:=by
 rcases Nat.lt_or_ge n xs.length with hl | hl
 ·obtain ⟨k,hk⟩:∃ k,xs.length=k + 1:=⟨xs.length - 1,by omega⟩
  have h2:=ZgT (B:=B) hx hk
  have h3:B ^ n≤B ^ k:=Nat.pow_le_pow_right (by omega) (by omega)
  omega
 ·exact hl
theorem ZkG (hB:1 < B) (h:Dig B xs) (k:Dig B ys) (hx:Trim xs) (hy:Trim ys) (hv:val B xs=val B ys):xs=ys:=by
 have h1:xs.length≤ys.length:=ZbY hB hx (hv ▸ Za1 k)
 have h2:ys.length≤xs.length:=ZbY hB hy (hv ▸ Za1 h)
 exact Zq5 h k (by omega) hv
theorem Trim.nil:Trim []:=fun k hk=>by simp at hk
theorem ZdU (h:Trim xs) (hB:0 < B) (hne:xs≠[]):0 < val B xs:=by
 obtain ⟨k,hk⟩:∃ k,xs.length=k + 1:=⟨xs.length - 1,by have:=List.length_pos_iff.2 hne; omega⟩
 have h2:=ZgT (B:=B) h hk
 have:=Nat.pow_pos (n:=k) hB
 omega
theorem Zki (h:Trim xs) (hB:0 < B) (hv:val B xs=0):xs=[]:=by
 rcases xs with _ | ⟨x,xs⟩
 ·rfl
 ·have:=ZdU h hB (by simp); omega
end Go.Proofs.YtenchljfmfgeoaaGreatDoor

namespace Go.Proofs.YtenchljfmfgeoaaGreatDoor
def Zcj (H U v1 v0 u q r:Nat):Prop:=q * v1 + r=U∧(U * H + u) / (v1 * H + v0)≤q
theorem Zhz {H U v1 v0 u q r:Nat} (hU:U < v1 * H + v0) (hu:u < H) (hq:H≤q) (h:Zcj H U v1 v0 u q r):Zcj H U v1 v0 u (q - 1) (r + v1):=by
 obtain ⟨h1,h2⟩:=h
 have hQ:(U * H + u) / (v1 * H + v0) < H:=by
  rw [Nat.div_lt_iff_lt_mul (by omega)]
  have:(U + 1) * H≤(v1 * H + v0) * H:=Nat.mul_le_mul_right H hU
  rw [Nat.add_mul U 1 H,Nat.one_mul] at this
  rw [Nat.mul_comm H]
  omega
 refine ⟨?_,by omega⟩
 obtain ⟨p,rfl⟩:∃ p,q=p + 1:=⟨q - 1,by omega⟩
 rw [Nat.add_mul] at h1
 simp only [Nat.add_sub_cancel]
 omega
theorem Ze0 {H U v1 v0 u q r:Nat} (hv:0 < v1 * H + v0) (hq:H * r + u < q * v0) (h:Zcj H U v1 v0 u q r):Zcj H U v1 v0 u (q - 1) (r + v1):=by
 obtain ⟨h1,h2⟩:=h
 have hq0:q≠0:=by rintro rfl; omega
 have hlt:(U * H + u) / (v1 * H + v0) < q:=by
  rw [Nat.div_lt_iff_lt_mul hv,Nat.mul_add,← Nat.mul_assoc]
  have:U * H=q * v1 * H + r * H:=by rw [← h1,Nat.add_mul]
  rw [Nat.mul_comm H r] at hq
  omega
 refine ⟨?_,by omega⟩
 obtain ⟨p,rfl⟩:∃ p,q=p + 1:=⟨q - 1,by omega⟩
 rw [Nat.add_mul] at h1
 simp only [Nat.add_sub_cancel]
 omega
theorem Zd6 {H U v1 v0 u q r:Nat} (hv:0 < v1 * H + v0) (hq:q * v0≤H * r + u) (h:Zcj H U v1 v0 u q r):q=(U * H + u) / (v1 * H + v0):=by
 obtain ⟨h1,h2⟩:=h
 refine Nat.le_antisymm ?_ h2
 rw [Nat.le_div_iff_mul_le hv,Nat.mul_add,← Nat.mul_assoc]
 have:U * H=q * v1 * H + r * H:=by rw [← h1,Nat.add_mul]
 rw [Nat.mul_comm H r] at hq
 omega
theorem Zce {H U v1 v0 u q r:Nat} (hU:U < v1 * H + v0) (hv0:v0 < H) (hr:H≤r) (h:Zcj H U v1 v0 u q r):q=(U * H + u) / (v1 * H + v0):=by
 refine Zd6 (by omega) ?_ h
 obtain ⟨h1,h2⟩:=h
 have hq:q < H:=by
  have:q * v1 < H * v1:=by rw [Nat.mul_comm H]; omega
  exact Nat.lt_of_mul_lt_mul_right this
 have h3:q * v0≤H * H:=Nat.mul_le_mul (by omega) (by omega)
 have h4:H * H≤H * r:=Nat.mul_le_mul_left H hr
 omega
theorem Zq6 {H Y U u1 u0:Nat} (hY:0 < Y) (hU:U < Y) (hu1:u1 < H) (hu0:u0 < H) :
 (U * H + u1) / Y < H∧(U * H + u1) % Y < Y∧((U * H + u1) % Y * H + u0) / Y < H ∧
 (U * (H * H) + u1 * H + u0) / Y=(U * H + u1) / Y * H + ((U * H + u1) % Y * H + u0) / Y∧(U * (H * H) + u1 * H + u0) % Y=((U * H + u1) % Y * H + u0) % Y:=by
 have hlt:∀ a b:Nat,a < Y→b < H→(a * H + b) / Y < H:=by
  intro a b ha hb
  rw [Nat.div_lt_iff_lt_mul hY]
  have:(a + 1) * H≤Y * H:=Nat.mul_le_mul_right H ha
  rw [Nat.add_mul a 1 H,Nat.one_mul] at this
  rw [Nat.mul_comm H]
  omega
 have hm:(U * H + u1) % Y < Y:=Nat.mod_lt _ hY
 have e:=Nat.div_add_mod (U * H + u1) Y
 have e2:U * (H * H) + u1 * H + u0=Y * ((U * H + u1) / Y * H) + ((U * H + u1) % Y * H + u0):=by
  have:(U * H + u1) * H=(Y * ((U * H + u1) / Y) + (U * H + u1) % Y) * H:=by rw [e]
  rw [Nat.add_mul,Nat.add_mul,Nat.mul_assoc U,Nat.mul_assoc Y] at this
  omega
 refine ⟨hlt _ _ hU hu1,hm,hlt _ _ hm hu0,?_,?_⟩
 ·rw [e2,Nat.mul_add_div hY]
 ·rw [e2,Nat.mul_add_mod]
theorem ZjM (N y p:Nat) (hp:0 < p):N * p / (y * p)=N / y∧N * p % (y * p) / p=N % y:=by
 refine ⟨Nat.mul_div_mul_right N y hp,?_⟩
 rw [Nat.mul_mod_mul_right,Nat.mul_div_cancel _ hp]
theorem ZlR (hi lo s:Nat) (hs:s≤63) :
 (hi * 18446744073709551616 + lo) * 2 ^ s=(hi * 2 ^ s + lo / 2 ^ (64 - s)) * (4294967296 * 4294967296) + (lo * 2 ^ s % 18446744073709551616) / 4294967296 * 4294967296 + (lo * 2 ^ s % 18446744073709551616) % 4294967296:=by
 have h64:(18446744073709551616:Nat)=2 ^ (64 - s) * 2 ^ s:=by rw [← Nat.pow_add,show 64 - s + s=64 by omega]
 have e1:lo * 2 ^ s=lo / 2 ^ (64 - s) * 18446744073709551616 + lo * 2 ^ s % 18446744073709551616:=by
  have h1:=Nat.div_add_mod (lo * 2 ^ s) 18446744073709551616
  have h2:lo * 2 ^ s / 18446744073709551616=lo / 2 ^ (64 - s):=by
   rw [h64,Nat.mul_div_mul_right _ _ (Nat.pow_pos (by omega))]
  rw [h2,Nat.mul_comm] at h1
  omega
 generalize hT:lo * 2 ^ s % 18446744073709551616=T at *
 have e2:=Nat.div_add_mod T 4294967296
 have e3:(hi * 18446744073709551616 + lo) * 2 ^ s=hi * 2 ^ s * 18446744073709551616 + lo * 2 ^ s:=by
  rw [Nat.add_mul,Nat.mul_right_comm]
 rw [e3,e1]
 generalize hi * 2 ^ s=A at *
 generalize lo / 2 ^ (64 - s)=C at *
 rw [Nat.add_mul]
 omega
end Go.Proofs.YtenchljfmfgeoaaGreatDoor

namespace Go.Proofs.YtenchljfmfgeoaaGreatDoor
def ZhG (a b:Nat) (odd:Bool) (u0 u1 v0 v1:Nat):Prop :=
 v0=0∨∃ r0 r1:Nat,r1 < r0∧r0≤b ∧
  (if odd then r0 + v0 * b=u0 * a∧r1 + u1 * a=v1 * b∧u0 * v1=u1 * v0 + 1 else r0 + u0 * a=v0 * b∧r1 + v1 * b=u1 * a∧u1 * v0=u0 * v1 + 1)
def Zcl (A B a b:Nat) (odd:Bool) (f s u0 u1 u2 v0 v1 v2:Nat):Prop :=
 (if odd then f + u1 * A=v1 * B∧s + v2 * B=u2 * A∧u2 * v1=u1 * v2 + 1 else f + v1 * B=u1 * A∧s + u2 * A=v2 * B∧u1 * v2=u2 * v1 + 1) ∧
 f * v2 + s * v1=A∧f * u2 + s * u1=B∧u2≤v2∧1≤v2∧s≤f ∧
 ((v1=0∧u1=1∧odd=false∧u2=0∧v2=1)∨(u1≤v1∧1≤v1∧∃ r:Nat,r≤b∧if odd then r + u1 * a=v1 * b else r + v1 * b=u1 * a)) ∧
 ZhG a b odd u0 u1 v0 v1
theorem Zcl.start {A B a b:Nat} (h:B≤A):Zcl A B a b false A B 0 1 0 0 0 1:=by
 refine ⟨by simp,by simp,by simp,by omega,by omega,h,Or.inl ⟨rfl,rfl,rfl,rfl,rfl⟩,Or.inl rfl⟩
theorem Zl0 {K A B a' b' f s u1 u2 v1 v2:Nat} (ha:a' < K) (hb:b' < K) (h1:f + v1 * B=u1 * A) (h2:s + u2 * A=v2 * B) (huv:u2≤v2) (hs:v2≤s) (hfs:v1 + v2 + s≤f) (hv:1≤v2) :
 ∃ r0 r1:Nat,r1 < r0∧r0 + v1 * (B * K + b')=u1 * (A * K + a')∧r1 + u2 * (A * K + a')=v2 * (B * K + b'):=by
 have e1:u1 * (A * K + a')=f * K + v1 * (B * K) + u1 * a':=by
  rw [Nat.mul_add,← Nat.mul_assoc,← h1,Nat.add_mul,Nat.mul_assoc]
 have e2:v2 * (B * K + b')=s * K + u2 * (A * K) + v2 * b':=by
  rw [Nat.mul_add,← Nat.mul_assoc,← h2,Nat.add_mul,Nat.mul_assoc]
 have b1:v1 * b'≤v1 * K:=Nat.mul_le_mul_left _ (by omega)
 have b2:u2 * a'≤v2 * K:=Nat.mul_le_mul huv (by omega)
 have b3:(v1 + v2) * b' + (v1 + v2)≤(v1 + v2) * K:=by
  have:(v1 + v2) * (b' + 1)≤(v1 + v2) * K:=Nat.mul_le_mul_left _ hb
  rw [Nat.mul_add] at this; omega
 have b4:v2 * K≤s * K:=Nat.mul_le_mul_right _ hs
 have b5:(v1 + v2 + s) * K≤f * K:=Nat.mul_le_mul_right _ hfs
 rw [Nat.add_mul (v1 + v2)] at b5
 rw [Nat.add_mul v1 v2 b'] at b3
 refine ⟨f * K + u1 * a' - v1 * b',s * K + v2 * b' - u2 * a',?_,?_,?_⟩
 ·have:=Nat.mul_le_mul_left v1 (Nat.le_of_lt hb)
  rw [Nat.add_mul] at b5 b3
  omega
 ·rw [e1,Nat.mul_add]
  rw [Nat.add_mul] at b5
  omega
 ·rw [e2,Nat.mul_add]
  omega
theorem Znl {K A B a' b' f s u1 u2 v1 v2:Nat} (ha:a' < K) (hb:b' < K) (h1:f + u1 * A=v1 * B) (h2:s + v2 * B=u2 * A) (huv1:u1≤v1) (huv:u2≤v2) (hs:v2≤s) (hfs:v1 + v2 + s≤f) (hv:1≤v2) :
 ∃ r0 r1:Nat,r1 < r0∧r0 + u1 * (A * K + a')=v1 * (B * K + b')∧r1 + v2 * (B * K + b')=u2 * (A * K + a'):=by
 have e1:v1 * (B * K + b')=f * K + u1 * (A * K) + v1 * b':=by
  rw [Nat.mul_add,← Nat.mul_assoc,← h1,Nat.add_mul,Nat.mul_assoc]
 have e2:u2 * (A * K + a')=s * K + v2 * (B * K) + u2 * a':=by
  rw [Nat.mul_add,← Nat.mul_assoc,← h2,Nat.add_mul,Nat.mul_assoc]
 have b1:u1 * a'≤v1 * K:=Nat.mul_le_mul huv1 (by omega)
 have b2:v2 * b'≤v2 * K:=Nat.mul_le_mul_left _ (by omega)
 have b6:u2 * a' + v2≤v2 * K∨a'=0:=by
  rcases Nat.eq_zero_or_pos a' with h | h
  ·exact Or.inr h
  ·left
   have:v2 * (a' + 1)≤v2 * K:=Nat.mul_le_mul_left _ ha
   rw [Nat.mul_add] at this
   have:=Nat.mul_le_mul_right a' huv
   omega
 have b4:v2 * K≤s * K:=Nat.mul_le_mul_right _ hs
 have b5:(v1 + v2 + s) * K≤f * K:=Nat.mul_le_mul_right _ hfs
 rw [Nat.add_mul (v1 + v2),Nat.add_mul v1 v2] at b5
 have hK:1≤K:=by omega
 have b7:v2 * 1≤v2 * K:=Nat.mul_le_mul_left _ hK
 refine ⟨f * K + v1 * b' - u1 * a',s * K + u2 * a' - v2 * b',?_,?_,?_⟩
 ·rcases b6 with b6 | b6
  ·omega
  ·subst b6
   simp only [Nat.mul_zero] at *
   omega
 ·rw [e1,Nat.mul_add]; omega
 ·rw [e2,Nat.mul_add]; omega
theorem Zcl.step {A B a b K a' b':Nat} {odd:Bool} {f s u0 u1 u2 v0 v1 v2 q s':Nat} (h:Zcl A B a b odd f s u0 u1 u2 v0 v1 v2) (ha:a=A * K + a') (hb:b=B * K + b') (ha':a' < K) (hb':b' < K)
 (g1:v2≤s) (g2:v1 + v2 + s≤f) (hq:f=q * s + s') (hs':s' < s) (hq1:1≤q):Zcl A B a b (!odd) s s' u1 u2 (u1 + q * u2) v1 v2 (v1 + q * v2):=by
 obtain ⟨h1,h2,h3,h4,h5,h6,h7,_⟩:=h
 have hqv:1 * v2≤q * v2:=Nat.mul_le_mul_right _ hq1
 have hquv:q * u2≤q * v2:=Nat.mul_le_mul_left _ h4
 have hA:s * (v1 + q * v2) + s' * v2=A:=by
  rw [← h2,hq,Nat.mul_add,Nat.add_mul]
  have:q * s * v2=s * (q * v2):=by rw [Nat.mul_comm q,Nat.mul_assoc]
  omega
 have hB:s * (u1 + q * u2) + s' * u2=B:=by
  rw [← h3,hq,Nat.mul_add,Nat.add_mul]
  have:q * s * u2=s * (q * u2):=by rw [Nat.mul_comm q,Nat.mul_assoc]
  omega
 cases odd with
 | false =>
   simp only [Bool.false_eq_true,if_false] at h1 h7
   obtain ⟨i1,i2,i3⟩:=h1
   obtain ⟨r0,r1,k1,k2,k3⟩:=Zl0 ha' hb' i1 i2 h4 g1 g2 h5
   rw [← ha,← hb] at k2 k3
   have hsign:s' + (v1 + q * v2) * B=(u1 + q * u2) * A:=by
    rw [Nat.add_mul,Nat.add_mul,Nat.mul_assoc,Nat.mul_assoc,← i2,Nat.mul_add,← i1,hq]
    omega
   have hdet:(u1 + q * u2) * v2=u2 * (v1 + q * v2) + 1:=by
    rw [Nat.add_mul,Nat.mul_add,i3,Nat.mul_left_comm u2,Nat.mul_assoc]
    omega
   have hr:v1≠0→r0≤b:=by
    intro hv
    rcases h7 with ⟨hv',_⟩ | ⟨_,_,r,hr1,hr2⟩
    ·exact absurd hv' hv
    ·omega
   have hr1:r1≤b:=by
    rcases h7 with ⟨_,_,_,e1,e2⟩ | ⟨_,_,r,hr1,hr2⟩
    ·subst e1 e2; simp at k3; omega
    ·omega
   refine ⟨?_,hA,hB,?_,by omega,by omega,Or.inr ⟨h4,h5,r1,hr1,?_⟩,?_⟩
   ·simp only [Bool.not_false,if_true]
    exact ⟨i2,hsign,hdet⟩
   ·rcases h7 with ⟨e1,e2,_,e3,e4⟩ | ⟨hu,_⟩
    ·subst e1 e2 e3 e4; simp; omega
    ·omega
   ·simp only [Bool.not_false,if_true]
    exact k3
   ·by_cases hv:v1=0
    ·exact Or.inl hv
    ·refine Or.inr ⟨r0,r1,k1,hr hv,?_⟩
     simp only [Bool.not_false,if_true]
     exact ⟨k2,k3,i3⟩
 | true =>
   simp only [if_true] at h1 h7
   obtain ⟨i1,i2,i3⟩:=h1
   have h7':u1≤v1∧1≤v1∧∃ r,r≤b∧r + u1 * a=v1 * b:=by
    rcases h7 with ⟨_,_,e,_⟩ | h
    ·cases e
    ·exact h
   obtain ⟨hu,hv1,r,hr1,hr2⟩:=h7'
   obtain ⟨r0,r1,k1,k2,k3⟩:=Znl ha' hb' i1 i2 hu h4 g1 g2 h5
   rw [← ha,← hb] at k2 k3
   have hsign:s' + (u1 + q * u2) * A=(v1 + q * v2) * B:=by
    rw [Nat.add_mul,Nat.add_mul,Nat.mul_assoc,Nat.mul_assoc,← i2,Nat.mul_add,← i1,hq]
    omega
   have hdet:u2 * (v1 + q * v2)=(u1 + q * u2) * v2 + 1:=by
    rw [Nat.add_mul,Nat.mul_add,i3,Nat.mul_left_comm u2,Nat.mul_assoc]
    omega
   refine ⟨?_,hA,hB,by omega,by omega,by omega,Or.inr ⟨h4,h5,r1,by omega,?_⟩,?_⟩
   ·simp only [Bool.not_true,Bool.false_eq_true,if_false]
    exact ⟨i2,hsign,hdet⟩
   ·simp only [Bool.not_true,Bool.false_eq_true,if_false]
    exact k3
   ·refine Or.inr ⟨r0,r1,k1,by omega,?_⟩
    simp only [Bool.not_true,Bool.false_eq_true,if_false]
    exact ⟨k2,k3,i3⟩
theorem ZhG.pair {a b:Nat} {odd:Bool} {u0 u1 v0 v1:Nat} (h:ZhG a b odd u0 u1 v0 v1) (hv:v0≠0) :
 ∃ r0 r1:Nat,r1 < r0∧r0≤b∧Nat.gcd r0 r1=Nat.gcd a b∧(if odd then r0 + v0 * b=u0 * a∧r1 + u1 * a=v1 * b else r0 + u0 * a=v0 * b∧r1 + v1 * b=u1 * a):=by
 rcases h with h | ⟨r0,r1,h1,h2,h3⟩
 ·exact absurd h hv
 refine ⟨r0,r1,h1,h2,?_,?_⟩
 ·have key:v1 * r0 + v0 * r1=a∧u1 * r0 + u0 * r1=b∧(∀ g,g ∣ a→g ∣ b→g ∣ r0∧g ∣ r1):=by
   cases odd with
   | false =>
     simp only [Bool.false_eq_true,if_false] at h3
     obtain ⟨i1,i2,i3⟩:=h3
     have e1:=congrArg (v1 * ·) i1
     have e2:=congrArg (v0 * ·) i2
     have e3:=congrArg (u1 * ·) i1
     have e4:=congrArg (u0 * ·) i2
     have e5:=congrArg (· * a) i3
     have e6:=congrArg (· * b) i3
     simp only [Nat.mul_add,Nat.add_mul,Nat.one_mul] at e1 e2 e3 e4 e5 e6
     refine ⟨?_,?_,fun g ga gb=>⟨?_,?_⟩⟩
     ·simp only [Nat.mul_comm,Nat.mul_left_comm] at *; omega
     ·simp only [Nat.mul_comm,Nat.mul_left_comm] at *; omega
     ·exact (Nat.dvd_add_left (Nat.dvd_mul_left_of_dvd ga u0)).1 (i1 ▸ Nat.dvd_mul_left_of_dvd gb v0)
     ·exact (Nat.dvd_add_left (Nat.dvd_mul_left_of_dvd gb v1)).1 (i2 ▸ Nat.dvd_mul_left_of_dvd ga u1)
   | true =>
     simp only [if_true] at h3
     obtain ⟨i1,i2,i3⟩:=h3
     have e1:=congrArg (v1 * ·) i1
     have e2:=congrArg (v0 * ·) i2
     have e3:=congrArg (u1 * ·) i1
     have e4:=congrArg (u0 * ·) i2
     have e5:=congrArg (· * a) i3
     have e6:=congrArg (· * b) i3
     simp only [Nat.mul_add,Nat.add_mul,Nat.one_mul] at e1 e2 e3 e4 e5 e6
     refine ⟨?_,?_,fun g ga gb=>⟨?_,?_⟩⟩
     ·simp only [Nat.mul_comm,Nat.mul_left_comm] at *; omega
     ·simp only [Nat.mul_comm,Nat.mul_left_comm] at *; omega
     ·exact (Nat.dvd_add_left (Nat.dvd_mul_left_of_dvd gb v0)).1 (i1 ▸ Nat.dvd_mul_left_of_dvd ga u0)
     ·exact (Nat.dvd_add_left (Nat.dvd_mul_left_of_dvd ga u1)).1 (i2 ▸ Nat.dvd_mul_left_of_dvd gb v1)
  obtain ⟨k1,k2,k3⟩:=key
  refine Nat.dvd_antisymm (Nat.dvd_gcd ?_ ?_) (Nat.dvd_gcd ?_ ?_)
  ·rw [← k1]; exact Nat.dvd_add (Nat.dvd_mul_left_of_dvd (Nat.gcd_dvd_left _ _) _) (Nat.dvd_mul_left_of_dvd (Nat.gcd_dvd_right _ _) _)
  ·rw [← k2]; exact Nat.dvd_add (Nat.dvd_mul_left_of_dvd (Nat.gcd_dvd_left _ _) _) (Nat.dvd_mul_left_of_dvd (Nat.gcd_dvd_right _ _) _)
  ·exact (k3 _ (Nat.gcd_dvd_left _ _) (Nat.gcd_dvd_right _ _)).1
  ·exact (k3 _ (Nat.gcd_dvd_left _ _) (Nat.gcd_dvd_right _ _)).2
 ·cases odd with
  | false=>simp only [Bool.false_eq_true,if_false] at h3 ⊢; exact ⟨h3.1,h3.2.1⟩
  | true=>simp only [if_true] at h3 ⊢; exact ⟨h3.1,h3.2.1⟩
end Go.Proofs.YtenchljfmfgeoaaGreatDoor

namespace Go.Proofs.YtenchljfmfgeoaaGreatDoor
end Go.Proofs.YtenchljfmfgeoaaGreatDoor

namespace Go.Proofs.YtenchljfmfgeoaaGreatDoor
end Go.Proofs.YtenchljfmfgeoaaGreatDoor
