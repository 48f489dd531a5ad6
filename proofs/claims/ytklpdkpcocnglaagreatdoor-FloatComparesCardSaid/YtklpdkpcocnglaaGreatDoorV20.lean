/-
 My texts Nc, Sh2, FvmL, FcmL put together.
-/
import Derived.Test.YtklpdkpcocnglaaGreatDoorV19
set_option maxRecDepth 100000
namespace Go.Proofs.YtklpdkpcocnglaaGreatDoor
open Go.RowKit
theorem ZsN (p q:Rat):(p - q).num.sign=(p.num * q.den - q.num * p.den).sign:=by
 have h:=Rat.sub_def' p q
 have hd:p.den * q.den≠0:=Nat.mul_ne_zero (by have:=p.den_pos; omega) (by have:=q.den_pos; omega)
 obtain ⟨m,hm,h1,_⟩:=Rat.mkRat_num_den (n':=(p - q).num) (d':=(p - q).den) (z':=(p - q).den_nz) (c:=(p - q).reduced) hd h.symm
 rw [h1,Int.sign_mul,show ((m:Nat):Int).sign=1 from Int.sign_eq_one_of_pos (by omega),Int.mul_one]
def Vz (z x:Int):Prop:=(z=0∧x=0)∨z % 2=1
theorem Zl9 {z x:Int} (h:Vz z x):∃ a b:Nat,(exQ z x).num=z * 2 ^ a∧(exQ z x).den=2 ^ b∧x=a - b:=by
 by_cases hx:0≤x
 ·obtain ⟨k,hk⟩:=Int.eq_ofNat_of_zero_le hx
  rw [ZiU hk]
  exact ⟨k,0,rfl,rfl,by omega⟩
 ·obtain ⟨k,hk⟩:=Int.eq_ofNat_of_zero_le (show 0 ≤ -x by omega)
  have hz:z % 2=1:=by rcases h with h | h<;>omega
  obtain ⟨k1,k2⟩:=ZkL (k:=k) hz
  rw [Zli hk hx]
  exact ⟨0,k,by rw [k1]; simp,k2,by omega⟩
def cmpZ (z x z' y:Int):Int:=(z * 2 ^ (x - min x y).toNat - z' * 2 ^ (y - min x y).toNat).sign
theorem ZuH {z x z' y:Int} (h:Vz z x) (h':Vz z' y):(exQ z x - exQ z' y).num.sign=cmpZ z x z' y:=by
 obtain ⟨a,b,e1,e2,e3⟩:=Zl9 h
 obtain ⟨c,d,f1,f2,f3⟩:=Zl9 h'
 obtain ⟨t,ht⟩:∃ t:Nat,(b:Int) + d + min x y=t:=Int.eq_ofNat_of_zero_le (by omega)
 obtain ⟨u,hu⟩:∃ u,(x - min x y).toNat=u:=⟨_,rfl⟩
 obtain ⟨v,hv⟩:∃ v,(y - min x y).toNat=v:=⟨_,rfl⟩
 rw [ZsN,e1,e2,f1,f2]
 unfold cmpZ
 rw [hu,hv]
 have c1:z * 2 ^ a * ((2 ^ d:Nat):Int)=z * 2 ^ u * 2 ^ t:=by
  rw [Int.natCast_pow,Int.mul_assoc,Int.mul_assoc]
  show z * (2 ^ a * 2 ^ d)=_
  rw [← Int.pow_add,← Int.pow_add,show a + d=u + t by omega]
 have c2:z' * 2 ^ c * ((2 ^ b:Nat):Int)=z' * 2 ^ v * 2 ^ t:=by
  rw [Int.natCast_pow,Int.mul_assoc,Int.mul_assoc]
  show z' * (2 ^ c * 2 ^ b)=_
  rw [← Int.pow_add,← Int.pow_add,show c + b=v + t by omega]
 rw [c1,c2,← Int.sub_mul,Int.sign_mul,show ((2:Int) ^ t).sign=1 from Int.sign_eq_one_of_pos (Int.pow_pos (by decide)),Int.mul_one]
theorem Zma {k:Nat} (h:0 < k):(2:Int) ^ k % 2=0:=by
 obtain ⟨j,rfl⟩:∃ j,k=j + 1:=⟨k - 1,by omega⟩
 rw [Int.pow_succ]; omega
theorem ZsO {z x z' y:Int} (h:Vz z x) (h':Vz z' y):cmpZ z x z' y=0 ↔ z=z'∧x=y:=by
 unfold cmpZ
 rw [Int.sign_eq_zero_iff_zero]
 rcases Int.lt_trichotomy x y with hl | hl | hl
 ·rw [show min x y=x by omega,show (x - x).toNat=0 by omega,Int.pow_zero,Int.mul_one]
  have hp:=Zma (k:=(y - x).toNat) (by omega)
  have hpp:=Int.pow_pos (n:=2) (m:=(y - x).toNat) (by decide)
  refine ⟨fun he=>?_,fun he=>by omega⟩
  generalize (2:Int) ^ (y - x).toNat=P at *
  obtain ⟨Q,rfl⟩:∃ Q,P=2 * Q:=⟨P / 2,by omega⟩
  have e2:z' * (2 * Q)=2 * (z' * Q):=by rw [← Int.mul_assoc,Int.mul_comm z' 2,Int.mul_assoc]
  rw [e2] at he
  rcases h with ⟨h1,h2⟩ | h
  ·rcases h' with ⟨h3,h4⟩ | h'
   ·omega
   ·exfalso
    have h5:z' * Q=0:=by omega
    rcases Int.mul_eq_zero.1 h5 with h6 | h6
    ·omega
    ·omega
  ·omega
 ·subst hl
  rw [show min x x=x by omega,show (x - x).toNat=0 by omega,Int.pow_zero,Int.mul_one,Int.mul_one]
  omega
 ·rw [show min x y=y by omega,show (y - y).toNat=0 by omega,Int.pow_zero,Int.mul_one]
  have hp:=Zma (k:=(x - y).toNat) (by omega)
  have hpp:=Int.pow_pos (n:=2) (m:=(x - y).toNat) (by decide)
  refine ⟨fun he=>?_,fun he=>by omega⟩
  generalize (2:Int) ^ (x - y).toNat=P at *
  obtain ⟨Q,rfl⟩:∃ Q,P=2 * Q:=⟨P / 2,by omega⟩
  have e2:z * (2 * Q)=2 * (z * Q):=by rw [← Int.mul_assoc,Int.mul_comm z 2,Int.mul_assoc]
  rw [e2] at he
  rcases h' with ⟨h1,h2⟩ | h'
  ·rcases h with ⟨h3,h4⟩ | h
   ·omega
   ·exfalso
    have h5:z * Q=0:=by omega
    rcases Int.mul_eq_zero.1 h5 with h6 | h6
    ·omega
    ·omega
  ·omega
def cmpN (s:Bool) (a:Nat) (t:Bool) (b:Nat):Int:=(sg s a - sg t b).sign
def cmpV (s:Bool) (m:Nat) (e:Int) (t:Bool) (n:Nat) (f:Int):Int:=cmpZ (sg s m) e (sg t n) f
theorem ZrV (s:Bool) (m i:Nat):sg s m * 2 ^ i=sg s (m * 2 ^ i):=by
 unfold sg
 split
 ·rw [Int.natCast_mul,Int.natCast_pow,Int.neg_mul]; rfl
 ·rw [Int.natCast_mul,Int.natCast_pow]; rfl
theorem ZfI {s t:Bool} {m n u v:Nat} {e f low:Int} (hl:min e f=low) (h1:e - low=u) (h2:f - low=v):cmpV s m e t n f=cmpN s (m * 2 ^ u) t (n * 2 ^ v):=by
 unfold cmpV cmpZ cmpN
 rw [hl,h1,h2,Int.toNat_natCast,Int.toNat_natCast,ZrV,ZrV]
theorem Zeq (s:Bool) (m:Nat) (e:Int) (t:Bool) (n:Nat) (f:Int):∃ a b:Nat,cmpV s m e t n f=cmpN s a t b∧(0 < m→0 < a)∧(0 < n→0 < b)∧(m=0→a=0)∧(n=0→b=0):=by
 obtain ⟨u,hu⟩:=Int.eq_ofNat_of_zero_le (show 0≤e - min e f by omega)
 obtain ⟨v,hv⟩:=Int.eq_ofNat_of_zero_le (show 0≤f - min e f by omega)
 exact ⟨m * 2 ^ u,n * 2 ^ v,ZfI rfl hu hv,fun h=>Nat.mul_pos h (p2 u),fun h=>Nat.mul_pos h (p2 v),fun h=>by rw [h,Nat.zero_mul],fun h=>by rw [h,Nat.zero_mul]⟩
theorem Ze2 {z:Int} (h:0 < z):z.sign=1:=Int.sign_eq_one_of_pos h
theorem Ze3 {z:Int} (h:z < 0):z.sign = -1:=Int.sign_eq_neg_one_of_neg h
theorem ZtZ (a b:Nat):cmpN true a true b=cmpN false b false a:=by unfold cmpN sg; congr 1; simp; omega
theorem Zpv (m n:Nat) (e f:Int):cmpV true m e true n f=cmpV false n f false m e:=by
 obtain ⟨u,hu⟩:=Int.eq_ofNat_of_zero_le (show 0≤e - min e f by omega)
 obtain ⟨v,hv⟩:=Int.eq_ofNat_of_zero_le (show 0≤f - min e f by omega)
 rw [ZfI rfl hu hv,ZfI (Int.min_comm f e) hv hu,ZtZ]
theorem ZkM {a b:Nat} (h:blen a < blen b):a < b:=by
 have h0:0 < b:=by
  rcases Nat.eq_zero_or_pos b with e | e
  ·rw [e,Zda] at h; omega
  ·exact e
 exact Nat.lt_of_lt_of_le (Zc6 a) (Nat.le_trans (Nat.pow_le_pow_right (by decide) (by omega)) (Zf2 h0))
theorem ZfJ {v z:Int} (hv:0 < v) (hz:0 < z):v.sign=z.sign:=by rw [Ze2 hv,Ze2 hz]
theorem ZfK {v z:Int} (hv:v < 0) (hz:z < 0):v.sign=z.sign:=by rw [Ze3 hv,Ze3 hz]
theorem ZnU {p q:Nat} {i k:Int} (hp:0 < p) (hq:0 < q) (h:((blen p:Nat):Int) + i≠((blen q:Nat):Int) + k):cmpV false p i false q k=((((blen p:Nat):Int) + i) - (((blen q:Nat):Int) + k)).sign:=by
 obtain ⟨u,hu⟩:=Int.eq_ofNat_of_zero_le (show 0≤i - min i k by omega)
 obtain ⟨v,hv⟩:=Int.eq_ofNat_of_zero_le (show 0≤k - min i k by omega)
 rw [ZfI rfl hu hv]
 have h1:=Zgp hp u
 have h2:=Zgp hq v
 unfold cmpN sg
 rw [if_neg (by decide),if_neg (by decide)]
 rcases Int.lt_or_gt_of_ne h with h3 | h3
 ·have:=ZkM (show blen (p * 2 ^ u) < blen (q * 2 ^ v) by omega)
  rw [Ze3 (by omega),Ze3 (by omega)]
 ·have:=ZkM (show blen (q * 2 ^ v) < blen (p * 2 ^ u) by omega)
  rw [Ze2 (by omega),Ze2 (by omega)]
theorem ZnV (a b:Nat):(cmpI ((a:Nat):Int) ((b:Nat):Int)).sign=cmpN false a false b ∧ -1≤cmpI ((a:Nat):Int) ((b:Nat):Int)∧cmpI ((a:Nat):Int) ((b:Nat):Int)≤1:=by
 unfold cmpN sg
 rw [if_neg (by decide),if_neg (by decide)]
 rcases Nat.lt_trichotomy a b with h | h | h
 ·rw [Zb8 (by omega),Ze3 (z:=(a:Int) - b) (by omega)]; exact ⟨rfl,by omega,by omega⟩
 ·rw [h,Zf8,Int.sub_self]; exact ⟨rfl,by omega,by omega⟩
 ·rw [ZcE (by omega),Ze2 (z:=(a:Int) - b) (by omega)]; exact ⟨rfl,by omega,by omega⟩
def Zs7 (w:World) (σ:Int) (e:Ending) (w':World):Prop:=∃ v:Int,e=.returned (.int .i64 v)∧(v.sign=σ ∧ -4294967296≤v∧v≤4294967296)∧Ext w w'
theorem ZiV {w w':World} {e:Ending} {σ:Int} (h:Zs7 w σ e w'):Zbx (fun v:Int=>.int .i64 v) (fun v _=>v.sign=σ ∧ -4294967296≤v∧v≤4294967296) w e w':=by
 obtain ⟨v,rfl,hv,Q⟩:=h
 exact ⟨v,rfl,Q,BoxN.pure hv⟩
theorem ZiW {a b:Int}:(if b > a then b else a)=max a b:=by omega
theorem Zfz (v:Int):min (max v (-1)) 1=v.sign:=by
 rcases Int.lt_trichotomy v 0 with h | h | h
 ·rw [Ze3 h]; omega
 ·rw [h]; rfl
 ·rw [Ze2 h]; omega
theorem ZaD (s:Bool) (A:Option Addr) (l c x:Nat) (e:Int) (w:World) (hX:Zal w (.slice A l c) x) :
 Calls Tryz.prog 119 #[.agg #[.bool s, .slice A l c, .int .i64 e]] w (RetV w (.int .i64 (if x=0 then 0 else if s=true then (-1) else 1))):=by
 refine Zaz (Φ:=fun w=>Zal w (.slice A l c) (x)) Tryz.func119 rfl (by kernel_rfl) (fun w' hf=>hX.ext hf) ?_
 refine Zac ?_
 have hln:=hX.len0
 have hzz:=@Zgz x
 refine Zab (xq 2 [(1, .p 1 0),(2, .v (.int .i64 0))] [(1,79,[.v (.bool s), .v (.slice A l c), .v (.int .i64 e)])] ?_)
 refine xe (Zaa (Zac (ZaO (Zac (Zab (xq 5 [(3, .v (.bool ((((l:Nat):Int):Int) == 0)))] [] ?_))))))
 refine xe (Zaa ?_)
 refine ZaA (((((l:Nat):Int):Int) == 0)) (by kernel_rfl) (fun hb10=>?_) (fun hb10=>?_)
 ·have hb10':=beq_iff_eq.1 hb10
  have h0:x=0:=by omega
  refine Zac (Zab (xq 1 [(2, .v (.int .i64 0))] [] ?_))
  refine xe (Zaa (Zaj (Zbv (Zak ?_))))
  refine Zaf (v:=.int .i64 0) (by kernel_rfl) (fun w' R Q=>?_)
  exact ⟨by rw [if_pos h0],R⟩
 ·have hb10':=ZbS hb10
  have h0:¬ x=0:=by omega
  refine Zac (Zab (xq 3 [(8, .v (.bool s))] [] ?_))
  refine xe (Zaa ?_)
  refine ZaA (s) (by kernel_rfl) (fun hb11=>?_) (fun hb11=>?_)
  ·have hs1:=hb11
   refine Zac (Zab (xq 1 [(2, .v (.int .i64 (-1)))] [] ?_))
   refine xe (Zaa (Zaj (Zbv (Zak ?_))))
   refine Zaf (v:=.int .i64 (-1)) (by kernel_rfl) (fun w' R Q=>?_)
   exact ⟨by rw [if_neg h0,if_pos hs1],R⟩
  ·have hs1:=hb11
   refine Zap (ZbK (Zaa (Zac (Zab (xq 1 [(2, .v (.int .i64 1))] [] ?_)))))
   refine xe (Zaa (Zaj ?_))
   refine Zaf (v:=.int .i64 1) (by kernel_rfl) (fun w' R Q=>?_)
   exact ⟨by rw [if_neg h0,if_neg (by rw [hs1]; decide)],R⟩
theorem Zmb (s:Bool) (A:Option Addr) (l c x:Nat) (e:Int) (w:World) (hX:Zal w (.slice A l c) x) (hx0:0 < x) :
 Calls Tryz.prog 120 #[.agg #[.bool s, .slice A l c, .int .i64 e]] w (RetV w (.agg #[.bool (!s), .slice A l c, .int .i64 e])):=by
 refine Zaz (Φ:=fun w=>Zal w (.slice A l c) (x)) Tryz.func120 rfl (by kernel_rfl) (fun w' hf=>hX.ext hf) ?_
 refine Zac ?_
 have hln:=hX.len0
 have hzz:=ZhM hx0
 refine Zab (xq 2 [(1, .p 1 0),(2, .p 2 0)] [(2,79,[.v (.bool false), .v (.slice none 0 0), .v (.int .i64 0)]),(1,79,[.v (.bool s), .v (.slice A l c), .v (.int .i64 e)])] ?_)
 refine xe (Zaa (Zac (Zac (Zab (xq 4 [(6, .v (.bool (decide (((l:Nat):Int) > 0))))] [] ?_)))))
 refine xe (Zaa ?_)
 refine ZaA ((decide (((l:Nat):Int) > 0))) (by kernel_rfl) (fun hb10=>?_) (fun hb10=>?_)
 ·have hb10':=of_decide_eq_true hb10
  refine Zab (xq 5 [] [(1,79,[.v (.bool (!s)), .v (.slice A l c), .v (.int .i64 e)])] ?_)
  refine xe (Zaa (Zac (Zab (xq 2 [] [(2,79,[.v (.bool (!s)), .v (.slice A l c), .v (.int .i64 e)])] ?_))))
  refine xe (Zaa (Zaj ?_))
  refine Zaf (v:=.agg #[.bool (!s), .slice A l c, .int .i64 e]) (by kernel_rfl) (fun w' R Q=>?_)
  exact ⟨rfl,R⟩
 ·have hb10':=of_decide_eq_false hb10
  refine Zap (Zaa (Zac (Zab (xq 2 [] [(2,79,[.v (.bool s), .v (.slice A l c), .v (.int .i64 e)])] ?_))))
  refine xe (Zaa (Zaj ?_))
  refine Zaf (v:=.agg #[.bool s, .slice A l c, .int .i64 e]) (by kernel_rfl) (fun w' R Q=>?_)
  exfalso; omega
theorem Zem (s:Bool) (A:Option Addr) (l c x:Nat) (e:Int) (t:Bool) (B:Option Addr) (m d y:Nat) (f:Int) (w:World) (hX:Zal w (.slice A l c) x) (hwx:wl x≤100000) (he1 : -1073741824≤e) (he2:e≤1073741824) (hY:Zal w (.slice B m d) y) (hwy:wl y≤100000) (hf1 : -1073741824≤f) (hf2:f≤1073741824) (hsm:s=true→0 < x) (htm:t=true→0 < y) :
 Calls Tryz.prog 80 #[.agg #[.bool s, .slice A l c, .int .i64 e], .agg #[.bool t, .slice B m d, .int .i64 f]] w (Zs7 w (cmpV s x e t y f)):=by
 refine Zaz (Φ:=fun w=>(Zal w (.slice A l c) (x)∧Zal w (.slice B m d) (y))) Tryz.func80 rfl (by kernel_rfl) (fun w' hf=>⟨hX.ext hf,hY.ext hf⟩) ?_
 refine Zac ?_
 have hbx:=ZeY x
 have hby:=ZeY y
 by_cases hx0:x=0
 ·have hs':s=false:=by cases s with | false=>rfl | true=>exact absurd (hsm rfl) (by omega)
  clear hsm
  subst hs'
  by_cases hy0:y=0
  ·have ht':t=false:=by cases t with | false=>rfl | true=>exact absurd (htm rfl) (by omega)
   clear htm
   subst ht'
   refine Zab (xq 3 [(2, .p 2 0),(3, .p 3 0),(4, .v (.int .i64 0))] [(3,79,[.v (.bool false), .v (.slice B m d), .v (.int .i64 f)]),(2,79,[.v (.bool false), .v (.slice A l c), .v (.int .i64 e)])] ?_)
   refine xe (Zaa (Zac (Zac ?_)))
   refine ZaC 10 (by kernel_rfl) (by kernel_rfl) Zah ?_
   refine xqg 1 [(6, .v (.agg #[.bool false, .slice A l c, .int .i64 e]))] ?_
   refine xqd 119 [.agg #[.bool false, .slice A l c, .int .i64 e]] 7 (fun _:Unit=>.int .i64 0) _ (fun w R Q=>(ZaD false A l c x e _ Q.1).mono (fun _ _ h=>Zad h (by rw [if_pos hx0]))) (fun xx=>?_)
   refine xqg 1 [(8, .v (.agg #[.bool false, .slice B m d, .int .i64 f]))] ?_
   refine xqd 119 [.agg #[.bool false, .slice B m d, .int .i64 f]] 9 (fun _:Unit=>.int .i64 0) _ (fun w R Q=>(ZaD false B m d y f _ Q.1.2).mono (fun _ _ h=>Zad h (by rw [if_pos hy0]))) (fun xx=>?_)
   refine xqg 3 [(11, .v (.bool false)),(12, .v (.agg #[.bool false, .slice A l c, .int .i64 e]))] ?_
   refine xqd 119 [.agg #[.bool false, .slice A l c, .int .i64 e]] 13 (fun _:Unit=>.int .i64 0) _ (fun w R Q=>(ZaD false A l c x e _ Q.1.1.1).mono (fun _ _ h=>Zad h (by rw [if_pos hx0]))) (fun xx=>?_)
   refine xqg 2 [(15, .v (.bool true))] ?_
   refine xz (xe (Zaa (xa (Zac ?_))))
   refine ZaC 6 (by kernel_rfl) (by kernel_rfl) Zah ?_
   refine xqg 1 [(16, .v (.agg #[.bool false, .slice A l c, .int .i64 e]))] ?_
   refine xqd 119 [.agg #[.bool false, .slice A l c, .int .i64 e]] 17 (fun _:Unit=>.int .i64 0) _ (fun w R Q=>(ZaD false A l c x e _ Q.1.1.1.1).mono (fun _ _ h=>Zad h (by rw [if_pos hx0]))) (fun xx=>?_)
   refine xqg 1 [(18, .v (.agg #[.bool false, .slice B m d, .int .i64 f]))] ?_
   refine xqd 119 [.agg #[.bool false, .slice B m d, .int .i64 f]] 19 (fun _:Unit=>.int .i64 0) _ (fun w R Q=>(ZaD false B m d y f _ Q.1.1.1.1.2).mono (fun _ _ h=>Zad h (by rw [if_pos hy0]))) (fun xx=>?_)
   refine xqg 1 [(20, .v (.int .i64 (IntKind.i64.wrap (0 - 0))))] ?_
   rw [show (IntKind.i64.wrap (0 - 0))=0 from rfl]
   refine xqg 1 [(4, .v (.int .i64 0))] ?_
   refine xz (xe (Zaa (Zaj (Zak ?_))))
   refine Zaf (v:=.int .i64 0) (by kernel_rfl) (fun w' R Q=>?_)
   obtain ⟨a,b,hc,ha1,hb1,ha0,hb0⟩:=Zeq false x e false y f
   have ha2:=ha0 hx0
   have hb2:=hb0 hy0
   exact ⟨_,rfl,⟨by rw [hc]; unfold cmpN sg; rw [ha2,hb2]; rfl,by omega,by omega⟩,R⟩
  ·by_cases ht1:t=true
   ·have ht':t=true:=by simpa using ht1
    clear ht1 htm
    subst ht'
    refine Zab (xq 3 [(2, .p 2 0),(3, .p 3 0),(4, .v (.int .i64 0))] [(3,79,[.v (.bool true), .v (.slice B m d), .v (.int .i64 f)]),(2,79,[.v (.bool false), .v (.slice A l c), .v (.int .i64 e)])] ?_)
    refine xe (Zaa (Zac (Zac ?_)))
    refine ZaC 10 (by kernel_rfl) (by kernel_rfl) Zah ?_
    refine xqg 1 [(6, .v (.agg #[.bool false, .slice A l c, .int .i64 e]))] ?_
    refine xqd 119 [.agg #[.bool false, .slice A l c, .int .i64 e]] 7 (fun _:Unit=>.int .i64 0) _ (fun w R Q=>(ZaD false A l c x e _ Q.1).mono (fun _ _ h=>Zad h (by rw [if_pos hx0]))) (fun xx=>?_)
    refine xqg 1 [(8, .v (.agg #[.bool true, .slice B m d, .int .i64 f]))] ?_
    refine xqd 119 [.agg #[.bool true, .slice B m d, .int .i64 f]] 9 (fun _:Unit=>.int .i64 (-1)) _ (fun w R Q=>(ZaD true B m d y f _ Q.1.2).mono (fun _ _ h=>Zad h (by rw [if_neg hy0,if_pos rfl]))) (fun xx=>?_)
    refine xqg 6 [(15, .v (.bool true))] ?_
    refine xz (xe (Zaa (xa (Zac ?_))))
    refine ZaC 6 (by kernel_rfl) (by kernel_rfl) Zah ?_
    refine xqg 1 [(16, .v (.agg #[.bool false, .slice A l c, .int .i64 e]))] ?_
    refine xqd 119 [.agg #[.bool false, .slice A l c, .int .i64 e]] 17 (fun _:Unit=>.int .i64 0) _ (fun w R Q=>(ZaD false A l c x e _ Q.1.1.1).mono (fun _ _ h=>Zad h (by rw [if_pos hx0]))) (fun xx=>?_)
    refine xqg 1 [(18, .v (.agg #[.bool true, .slice B m d, .int .i64 f]))] ?_
    refine xqd 119 [.agg #[.bool true, .slice B m d, .int .i64 f]] 19 (fun _:Unit=>.int .i64 (-1)) _ (fun w R Q=>(ZaD true B m d y f _ Q.1.1.1.2).mono (fun _ _ h=>Zad h (by rw [if_neg hy0,if_pos rfl]))) (fun xx=>?_)
    refine xqg 1 [(20, .v (.int .i64 (IntKind.i64.wrap (0 - (-1)))))] ?_
    rw [show (IntKind.i64.wrap (0 - (-1)))=1 from rfl]
    refine xqg 1 [(4, .v (.int .i64 1))] ?_
    refine xz (xe (Zaa (Zaj (Zak ?_))))
    refine Zaf (v:=.int .i64 1) (by kernel_rfl) (fun w' R Q=>?_)
    obtain ⟨a,b,hc,ha1,hb1,ha0,hb0⟩:=Zeq false x e true y f
    have ha2:=ha0 hx0
    have hb2:=hb1 (by omega)
    exact ⟨_,rfl,⟨by rw [hc]; unfold cmpN sg; simp only [if_true,if_false,Bool.false_eq_true]; first | exact ZfJ (by omega) (by omega) | exact ZfK (by omega) (by omega),by omega,by omega⟩,R⟩
   ·have ht':t=false:=by simpa using ht1
    clear ht1 htm
    subst ht'
    refine Zab (xq 3 [(2, .p 2 0),(3, .p 3 0),(4, .v (.int .i64 0))] [(3,79,[.v (.bool false), .v (.slice B m d), .v (.int .i64 f)]),(2,79,[.v (.bool false), .v (.slice A l c), .v (.int .i64 e)])] ?_)
    refine xe (Zaa (Zac (Zac ?_)))
    refine ZaC 10 (by kernel_rfl) (by kernel_rfl) Zah ?_
    refine xqg 1 [(6, .v (.agg #[.bool false, .slice A l c, .int .i64 e]))] ?_
    refine xqd 119 [.agg #[.bool false, .slice A l c, .int .i64 e]] 7 (fun _:Unit=>.int .i64 0) _ (fun w R Q=>(ZaD false A l c x e _ Q.1).mono (fun _ _ h=>Zad h (by rw [if_pos hx0]))) (fun xx=>?_)
    refine xqg 1 [(8, .v (.agg #[.bool false, .slice B m d, .int .i64 f]))] ?_
    refine xqd 119 [.agg #[.bool false, .slice B m d, .int .i64 f]] 9 (fun _:Unit=>.int .i64 1) _ (fun w R Q=>(ZaD false B m d y f _ Q.1.2).mono (fun _ _ h=>Zad h (by rw [if_neg hy0,if_neg (by decide)]))) (fun xx=>?_)
    refine xqg 6 [(15, .v (.bool true))] ?_
    refine xz (xe (Zaa (xa (Zac ?_))))
    refine ZaC 6 (by kernel_rfl) (by kernel_rfl) Zah ?_
    refine xqg 1 [(16, .v (.agg #[.bool false, .slice A l c, .int .i64 e]))] ?_
    refine xqd 119 [.agg #[.bool false, .slice A l c, .int .i64 e]] 17 (fun _:Unit=>.int .i64 0) _ (fun w R Q=>(ZaD false A l c x e _ Q.1.1.1).mono (fun _ _ h=>Zad h (by rw [if_pos hx0]))) (fun xx=>?_)
    refine xqg 1 [(18, .v (.agg #[.bool false, .slice B m d, .int .i64 f]))] ?_
    refine xqd 119 [.agg #[.bool false, .slice B m d, .int .i64 f]] 19 (fun _:Unit=>.int .i64 1) _ (fun w R Q=>(ZaD false B m d y f _ Q.1.1.1.2).mono (fun _ _ h=>Zad h (by rw [if_neg hy0,if_neg (by decide)]))) (fun xx=>?_)
    refine xqg 1 [(20, .v (.int .i64 (IntKind.i64.wrap (0 - 1))))] ?_
    rw [show (IntKind.i64.wrap (0 - 1)) = -1 from rfl]
    refine xqg 1 [(4, .v (.int .i64 (-1)))] ?_
    refine xz (xe (Zaa (Zaj (Zak ?_))))
    refine Zaf (v:=.int .i64 (-1)) (by kernel_rfl) (fun w' R Q=>?_)
    obtain ⟨a,b,hc,ha1,hb1,ha0,hb0⟩:=Zeq false x e false y f
    have ha2:=ha0 hx0
    have hb2:=hb1 (by omega)
    exact ⟨_,rfl,⟨by rw [hc]; unfold cmpN sg; simp only [if_false,Bool.false_eq_true]; first | exact ZfJ (by omega) (by omega) | exact ZfK (by omega) (by omega),by omega,by omega⟩,R⟩
 ·by_cases hs1:s=true
  ·have hs':s=true:=by simpa using hs1
   clear hs1 hsm
   subst hs'
   by_cases hy0:y=0
   ·have ht':t=false:=by cases t with | false=>rfl | true=>exact absurd (htm rfl) (by omega)
    clear htm
    subst ht'
    refine Zab (xq 3 [(2, .p 2 0),(3, .p 3 0),(4, .v (.int .i64 0))] [(3,79,[.v (.bool false), .v (.slice B m d), .v (.int .i64 f)]),(2,79,[.v (.bool true), .v (.slice A l c), .v (.int .i64 e)])] ?_)
    refine xe (Zaa (Zac (Zac ?_)))
    refine ZaC 10 (by kernel_rfl) (by kernel_rfl) Zah ?_
    refine xqg 1 [(6, .v (.agg #[.bool true, .slice A l c, .int .i64 e]))] ?_
    refine xqd 119 [.agg #[.bool true, .slice A l c, .int .i64 e]] 7 (fun _:Unit=>.int .i64 (-1)) _ (fun w R Q=>(ZaD true A l c x e _ Q.1).mono (fun _ _ h=>Zad h (by rw [if_neg hx0,if_pos rfl]))) (fun xx=>?_)
    refine xqg 1 [(8, .v (.agg #[.bool false, .slice B m d, .int .i64 f]))] ?_
    refine xqd 119 [.agg #[.bool false, .slice B m d, .int .i64 f]] 9 (fun _:Unit=>.int .i64 0) _ (fun w R Q=>(ZaD false B m d y f _ Q.1.2).mono (fun _ _ h=>Zad h (by rw [if_pos hy0]))) (fun xx=>?_)
    refine xqg 6 [(15, .v (.bool true))] ?_
    refine xz (xe (Zaa (xa (Zac ?_))))
    refine ZaC 6 (by kernel_rfl) (by kernel_rfl) Zah ?_
    refine xqg 1 [(16, .v (.agg #[.bool true, .slice A l c, .int .i64 e]))] ?_
    refine xqd 119 [.agg #[.bool true, .slice A l c, .int .i64 e]] 17 (fun _:Unit=>.int .i64 (-1)) _ (fun w R Q=>(ZaD true A l c x e _ Q.1.1.1).mono (fun _ _ h=>Zad h (by rw [if_neg hx0,if_pos rfl]))) (fun xx=>?_)
    refine xqg 1 [(18, .v (.agg #[.bool false, .slice B m d, .int .i64 f]))] ?_
    refine xqd 119 [.agg #[.bool false, .slice B m d, .int .i64 f]] 19 (fun _:Unit=>.int .i64 0) _ (fun w R Q=>(ZaD false B m d y f _ Q.1.1.1.2).mono (fun _ _ h=>Zad h (by rw [if_pos hy0]))) (fun xx=>?_)
    refine xqg 1 [(20, .v (.int .i64 (IntKind.i64.wrap ((-1) - 0))))] ?_
    rw [show (IntKind.i64.wrap ((-1) - 0)) = -1 from rfl]
    refine xqg 1 [(4, .v (.int .i64 (-1)))] ?_
    refine xz (xe (Zaa (Zaj (Zak ?_))))
    refine Zaf (v:=.int .i64 (-1)) (by kernel_rfl) (fun w' R Q=>?_)
    obtain ⟨a,b,hc,ha1,hb1,ha0,hb0⟩:=Zeq true x e false y f
    have ha2:=ha1 (by omega)
    have hb2:=hb0 hy0
    exact ⟨_,rfl,⟨by rw [hc]; unfold cmpN sg; simp only [if_true,if_false,Bool.false_eq_true]; first | exact ZfJ (by omega) (by omega) | exact ZfK (by omega) (by omega),by omega,by omega⟩,R⟩
   ·by_cases ht1:t=true
    ·have ht':t=true:=by simpa using ht1
     clear ht1 htm
     subst ht'
     refine Zab (xq 3 [(2, .p 2 0),(3, .p 3 0),(4, .v (.int .i64 0))] [(3,79,[.v (.bool true), .v (.slice B m d), .v (.int .i64 f)]),(2,79,[.v (.bool true), .v (.slice A l c), .v (.int .i64 e)])] ?_)
     refine xe (Zaa (Zac (Zac ?_)))
     refine ZaC 10 (by kernel_rfl) (by kernel_rfl) Zah ?_
     refine xqg 1 [(6, .v (.agg #[.bool true, .slice A l c, .int .i64 e]))] ?_
     refine xqd 119 [.agg #[.bool true, .slice A l c, .int .i64 e]] 7 (fun _:Unit=>.int .i64 (-1)) _ (fun w R Q=>(ZaD true A l c x e _ Q.1).mono (fun _ _ h=>Zad h (by rw [if_neg hx0,if_pos rfl]))) (fun xx=>?_)
     refine xqg 1 [(8, .v (.agg #[.bool true, .slice B m d, .int .i64 f]))] ?_
     refine xqd 119 [.agg #[.bool true, .slice B m d, .int .i64 f]] 9 (fun _:Unit=>.int .i64 (-1)) _ (fun w R Q=>(ZaD true B m d y f _ Q.1.2).mono (fun _ _ h=>Zad h (by rw [if_neg hy0,if_pos rfl]))) (fun xx=>?_)
     refine xqg 3 [(11, .v (.bool false)),(12, .v (.agg #[.bool true, .slice A l c, .int .i64 e]))] ?_
     refine xqd 119 [.agg #[.bool true, .slice A l c, .int .i64 e]] 13 (fun _:Unit=>.int .i64 (-1)) _ (fun w R Q=>(ZaD true A l c x e _ Q.1.1.1).mono (fun _ _ h=>Zad h (by rw [if_neg hx0,if_pos rfl]))) (fun xx=>?_)
     refine xqg 2 [(15, .v (.bool false))] ?_
     refine xz (xe (Zaa (xb (Zap (Zaa (Zac (Zac (Zab (xq 2 [(22, .v (.bool true))] [] ?_)))))))))
     refine xe (Zaa (xa ?_))
     refine ZaC 6 (by kernel_rfl) (by kernel_rfl) Zah ?_
     refine xqg 1 [(23, .v (.agg #[.bool true, .slice B m d, .int .i64 f]))] ?_
     refine xqd 120 [.agg #[.bool true, .slice B m d, .int .i64 f]] 24 (fun _:Unit=>.agg #[.bool false, .slice B m d, .int .i64 f]) _ (fun w R Q=>(Zmb true B m d y f _ Q.1.1.1.2 (by omega)).mono (fun _ _ h=>Zad h rfl)) (fun xx=>?_)
     refine xqg 1 [(25, .v (.agg #[.bool true, .slice A l c, .int .i64 e]))] ?_
     refine xqd 120 [.agg #[.bool true, .slice A l c, .int .i64 e]] 26 (fun _:Unit=>.agg #[.bool false, .slice A l c, .int .i64 e]) _ (fun w R Q=>(Zmb true A l c x e _ Q.1.1.1.1.1 (by omega)).mono (fun _ _ h=>Zad h rfl)) (fun xx=>?_)
     refine xqf 2 [] [(3,79,[.v (.bool false), .v (.slice A l c), .v (.int .i64 e)]),(2,79,[.v (.bool false), .v (.slice B m d), .v (.int .i64 f)]),(3,79,[.v (.bool true), .v (.slice B m d), .v (.int .i64 f)]),(2,79,[.v (.bool true), .v (.slice A l c), .v (.int .i64 e)])] ?_
     refine xz (xe (Zaa (Zac (Zac ?_))))
     have hp0:0 < y:=by omega
     have hq0:0 < x:=by omega
     refine SXc.weak [(2, .p 2 0),(3, .p 3 0),(4, .v (.int .i64 0))] [(3,79,[.v (.bool false), .v (.slice A l c), .v (.int .i64 e)]),(2,79,[.v (.bool false), .v (.slice B m d), .v (.int .i64 f)])] (ZaG.of (by kernel_rfl)) (by kernel_rfl) (fun _ h=>h) ?_
     refine ZaC 5 (by kernel_rfl) (by kernel_rfl) Zah ?_
     refine xqg 1 [(27, .v (.agg #[.bool false, .slice B m d, .int .i64 f]))] ?_
     refine xqd 121 [.agg #[.bool false, .slice B m d, .int .i64 f]] 28 (fun _:Unit=>.int .i64 (((blen y:Nat):Int) + f)) _ (fun w R Q=>(Zdb _ _ _ _ _ _ _ Q.1.1.1.1.1.2 (by omega) (by omega) (by omega)).mono (fun _ _ h=>Zad h rfl)) (fun xx=>?_)
     refine xqg 1 [(29, .v (.agg #[.bool false, .slice A l c, .int .i64 e]))] ?_
     refine xqd 121 [.agg #[.bool false, .slice A l c, .int .i64 e]] 30 (fun _:Unit=>.int .i64 (((blen x:Nat):Int) + e)) _ (fun w R Q=>(Zdb _ _ _ _ _ _ _ Q.1.1.1.1.1.1.1 (by omega) (by omega) (by omega)).mono (fun _ _ h=>Zad h rfl)) (fun xx=>?_)
     refine xqg 1 [(31, .v (.bool (((((blen y:Nat):Int) + f):Int) != (((blen x:Nat):Int) + e))))] ?_
     refine xz (xe (Zaa ?_))
     refine ZaA ((((((blen y:Nat):Int) + f):Int) != (((blen x:Nat):Int) + e))) (by kernel_rfl) (fun hb10=>?_) (fun hb10=>?_)
     ·have hb10':=ZdW hb10
      refine Zac ?_
      refine ZaC 6 (by kernel_rfl) (by kernel_rfl) Zah ?_
      refine xqg 1 [(32, .v (.agg #[.bool false, .slice B m d, .int .i64 f]))] ?_
      refine xqd 121 [.agg #[.bool false, .slice B m d, .int .i64 f]] 33 (fun _:Unit=>.int .i64 (((blen y:Nat):Int) + f)) _ (fun w R Q=>(Zdb _ _ _ _ _ _ _ Q.1.1.1.1.1.1.1.2 (by omega) (by omega) (by omega)).mono (fun _ _ h=>Zad h rfl)) (fun xx=>?_)
      refine xqg 1 [(34, .v (.agg #[.bool false, .slice A l c, .int .i64 e]))] ?_
      refine xqd 121 [.agg #[.bool false, .slice A l c, .int .i64 e]] 35 (fun _:Unit=>.int .i64 (((blen x:Nat):Int) + e)) _ (fun w R Q=>(Zdb _ _ _ _ _ _ _ Q.1.1.1.1.1.1.1.1.1 (by omega) (by omega) (by omega)).mono (fun _ _ h=>Zad h rfl)) (fun xx=>?_)
      refine xqg 1 [(36, .v (.int .i64 (IntKind.i64.wrap ((((blen y:Nat):Int) + f) - (((blen x:Nat):Int) + e)))))] ?_
      rw [show IntKind.i64.wrap ((((blen y:Nat):Int) + f) - (((blen x:Nat):Int) + e))=(((blen y:Nat):Int) + f) - (((blen x:Nat):Int) + e) from by rw [IntKind.wrap_i64]; omega]
      refine xqg 1 [(4, .v (.int .i64 ((((blen y:Nat):Int) + f) - (((blen x:Nat):Int) + e))))] ?_
      refine xz (xe (Zaa (Zaj (Zak ?_))))
      refine Zaf (v:=.int .i64 ((((blen y:Nat):Int) + f) - (((blen x:Nat):Int) + e))) (by kernel_rfl) (fun w' R Q=>?_)
      exact ⟨_,rfl,⟨by rw [Zpv]; rw [ZnU hp0 hq0 (by omega)],by omega,by omega⟩,R⟩
     ·have hb10':=ZdX hb10
      refine Zap (Zaa (Zac ?_))
      obtain ⟨low,hlow⟩:∃ z':Int,min f e=z':=⟨_,rfl⟩
      obtain ⟨u1,hu1⟩:∃ u:Nat,f - low=u:=Int.eq_ofNat_of_zero_le (by omega)
      obtain ⟨u2,hu2⟩:∃ u:Nat,e - low=u:=Int.eq_ofNat_of_zero_le (by omega)
      have hp1:=ZdY hp0
      have hq1:=ZdY hq0
      have hv1:u1≤100000000:=by omega
      have hv2:u2≤100000000:=by omega
      obtain ⟨a,ha⟩:∃ a,y * 2 ^ u1=a:=⟨_,rfl⟩
      obtain ⟨b,hb'⟩:∃ b,x * 2 ^ u2=b:=⟨_,rfl⟩
      have hwa:wl a≤4000000:=by rw [← ha]; exact ZmC (by omega) hv1
      have hwb:wl b≤4000000:=by rw [← hb']; exact ZmC (by omega) hv2
      have hS:cmpV false y f false x e=cmpN false a false b:=by rw [ZfI hlow hu1 hu2,ha,hb']
      obtain ⟨n1,n2,n3⟩:=ZnV a b
      refine Zab (xq 5 [(41, .v (.int .i64 (if e < f then e else f)))] [] ?_)
      rw [(show (if e < f then e else f)=low from ZfF.trans hlow)]
      refine xq 1 [(5, .v (.int .i64 low))] [] ?_
      refine xe (Zaa (Zac ?_))
      refine SXc.weak [(2, .p 2 0),(3, .p 3 0),(4, .v (.int .i64 0)),(5, .v (.int .i64 low))] [(3,79,[.v (.bool false), .v (.slice A l c), .v (.int .i64 e)]),(2,79,[.v (.bool false), .v (.slice B m d), .v (.int .i64 f)])] (ZaG.of (by kernel_rfl)) (by kernel_rfl) (fun _ h=>h) ?_
      refine ZaC 16 (by kernel_rfl) (by kernel_rfl) Zah ?_
      refine xqg 6 [eS1 43 B m d,(47, .v (.int .i64 (IntKind.i64.wrap (f - low))))] ?_
      rw [show IntKind.i64.wrap (f - low)=((u1:Nat):Int) from by rw [IntKind.wrap_i64]; omega]
      refine xqd 66 [.slice B m d, .int .i64 ((u1:Nat):Int)] 48 Za7 _ (fun w R Q=>(Zeu u1 Q.1.1.1.1.1.1.1.2 (by omega) (by omega)).mono (fun _ _ h=>Zbd (by rw [ha] at h; exact h))) (fun xx=>?_)
      obtain ⟨A11,l11,c11⟩:=xx
      refine xqg 6 [eS1 50 A l c,(54, .v (.int .i64 (IntKind.i64.wrap (e - low))))] ?_
      rw [show IntKind.i64.wrap (e - low)=((u2:Nat):Int) from by rw [IntKind.wrap_i64]; omega]
      refine xqd 66 [.slice A l c, .int .i64 ((u2:Nat):Int)] 55 Za7 _ (fun w R Q=>(Zeu u2 Q.1.1.1.1.1.1.1.1.1 (by omega) (by omega)).mono (fun _ _ h=>Zbd (by rw [hb'] at h; exact h))) (fun xx=>?_)
      obtain ⟨A12,l12,c12⟩:=xx
      refine xqd 122 [.slice A11 l11 c11, .slice A12 l12 c12] 56 (fun _:Unit=>.int .i64 (cmpI ((a:Nat):Int) ((b:Nat):Int))) _ (fun w R Q=>(Zf3 Q.1.2 Q.2 (by omega)).mono (fun _ _ h=>Zad h rfl)) (fun xx=>?_)
      refine xqg 1 [(4, .v (.int .i64 (cmpI ((a:Nat):Int) ((b:Nat):Int))))] ?_
      refine xz (xe (Zaa (Zaj ?_)))
      refine Zaf (v:=.int .i64 (cmpI ((a:Nat):Int) ((b:Nat):Int))) (by kernel_rfl) (fun w' R Q=>?_)
      exact ⟨_,rfl,⟨by rw [Zpv]; rw [hS]; exact n1,by omega,by omega⟩,R⟩
    ·have ht':t=false:=by simpa using ht1
     clear ht1 htm
     subst ht'
     refine Zab (xq 3 [(2, .p 2 0),(3, .p 3 0),(4, .v (.int .i64 0))] [(3,79,[.v (.bool false), .v (.slice B m d), .v (.int .i64 f)]),(2,79,[.v (.bool true), .v (.slice A l c), .v (.int .i64 e)])] ?_)
     refine xe (Zaa (Zac (Zac ?_)))
     refine ZaC 10 (by kernel_rfl) (by kernel_rfl) Zah ?_
     refine xqg 1 [(6, .v (.agg #[.bool true, .slice A l c, .int .i64 e]))] ?_
     refine xqd 119 [.agg #[.bool true, .slice A l c, .int .i64 e]] 7 (fun _:Unit=>.int .i64 (-1)) _ (fun w R Q=>(ZaD true A l c x e _ Q.1).mono (fun _ _ h=>Zad h (by rw [if_neg hx0,if_pos rfl]))) (fun xx=>?_)
     refine xqg 1 [(8, .v (.agg #[.bool false, .slice B m d, .int .i64 f]))] ?_
     refine xqd 119 [.agg #[.bool false, .slice B m d, .int .i64 f]] 9 (fun _:Unit=>.int .i64 1) _ (fun w R Q=>(ZaD false B m d y f _ Q.1.2).mono (fun _ _ h=>Zad h (by rw [if_neg hy0,if_neg (by decide)]))) (fun xx=>?_)
     refine xqg 6 [(15, .v (.bool true))] ?_
     refine xz (xe (Zaa (xa (Zac ?_))))
     refine ZaC 6 (by kernel_rfl) (by kernel_rfl) Zah ?_
     refine xqg 1 [(16, .v (.agg #[.bool true, .slice A l c, .int .i64 e]))] ?_
     refine xqd 119 [.agg #[.bool true, .slice A l c, .int .i64 e]] 17 (fun _:Unit=>.int .i64 (-1)) _ (fun w R Q=>(ZaD true A l c x e _ Q.1.1.1).mono (fun _ _ h=>Zad h (by rw [if_neg hx0,if_pos rfl]))) (fun xx=>?_)
     refine xqg 1 [(18, .v (.agg #[.bool false, .slice B m d, .int .i64 f]))] ?_
     refine xqd 119 [.agg #[.bool false, .slice B m d, .int .i64 f]] 19 (fun _:Unit=>.int .i64 1) _ (fun w R Q=>(ZaD false B m d y f _ Q.1.1.1.2).mono (fun _ _ h=>Zad h (by rw [if_neg hy0,if_neg (by decide)]))) (fun xx=>?_)
     refine xqg 1 [(20, .v (.int .i64 (IntKind.i64.wrap ((-1) - 1))))] ?_
     rw [show (IntKind.i64.wrap ((-1) - 1)) = -2 from rfl]
     refine xqg 1 [(4, .v (.int .i64 (-2)))] ?_
     refine xz (xe (Zaa (Zaj (Zak ?_))))
     refine Zaf (v:=.int .i64 (-2)) (by kernel_rfl) (fun w' R Q=>?_)
     obtain ⟨a,b,hc,ha1,hb1,ha0,hb0⟩:=Zeq true x e false y f
     have ha2:=ha1 (by omega)
     have hb2:=hb1 (by omega)
     exact ⟨_,rfl,⟨by rw [hc]; unfold cmpN sg; simp only [if_true,if_false,Bool.false_eq_true]; first | exact ZfJ (by omega) (by omega) | exact ZfK (by omega) (by omega),by omega,by omega⟩,R⟩
  ·have hs':s=false:=by simpa using hs1
   clear hs1 hsm
   subst hs'
   by_cases hy0:y=0
   ·have ht':t=false:=by cases t with | false=>rfl | true=>exact absurd (htm rfl) (by omega)
    clear htm
    subst ht'
    refine Zab (xq 3 [(2, .p 2 0),(3, .p 3 0),(4, .v (.int .i64 0))] [(3,79,[.v (.bool false), .v (.slice B m d), .v (.int .i64 f)]),(2,79,[.v (.bool false), .v (.slice A l c), .v (.int .i64 e)])] ?_)
    refine xe (Zaa (Zac (Zac ?_)))
    refine ZaC 10 (by kernel_rfl) (by kernel_rfl) Zah ?_
    refine xqg 1 [(6, .v (.agg #[.bool false, .slice A l c, .int .i64 e]))] ?_
    refine xqd 119 [.agg #[.bool false, .slice A l c, .int .i64 e]] 7 (fun _:Unit=>.int .i64 1) _ (fun w R Q=>(ZaD false A l c x e _ Q.1).mono (fun _ _ h=>Zad h (by rw [if_neg hx0,if_neg (by decide)]))) (fun xx=>?_)
    refine xqg 1 [(8, .v (.agg #[.bool false, .slice B m d, .int .i64 f]))] ?_
    refine xqd 119 [.agg #[.bool false, .slice B m d, .int .i64 f]] 9 (fun _:Unit=>.int .i64 0) _ (fun w R Q=>(ZaD false B m d y f _ Q.1.2).mono (fun _ _ h=>Zad h (by rw [if_pos hy0]))) (fun xx=>?_)
    refine xqg 6 [(15, .v (.bool true))] ?_
    refine xz (xe (Zaa (xa (Zac ?_))))
    refine ZaC 6 (by kernel_rfl) (by kernel_rfl) Zah ?_
    refine xqg 1 [(16, .v (.agg #[.bool false, .slice A l c, .int .i64 e]))] ?_
    refine xqd 119 [.agg #[.bool false, .slice A l c, .int .i64 e]] 17 (fun _:Unit=>.int .i64 1) _ (fun w R Q=>(ZaD false A l c x e _ Q.1.1.1).mono (fun _ _ h=>Zad h (by rw [if_neg hx0,if_neg (by decide)]))) (fun xx=>?_)
    refine xqg 1 [(18, .v (.agg #[.bool false, .slice B m d, .int .i64 f]))] ?_
    refine xqd 119 [.agg #[.bool false, .slice B m d, .int .i64 f]] 19 (fun _:Unit=>.int .i64 0) _ (fun w R Q=>(ZaD false B m d y f _ Q.1.1.1.2).mono (fun _ _ h=>Zad h (by rw [if_pos hy0]))) (fun xx=>?_)
    refine xqg 1 [(20, .v (.int .i64 (IntKind.i64.wrap (1 - 0))))] ?_
    rw [show (IntKind.i64.wrap (1 - 0))=1 from rfl]
    refine xqg 1 [(4, .v (.int .i64 1))] ?_
    refine xz (xe (Zaa (Zaj (Zak ?_))))
    refine Zaf (v:=.int .i64 1) (by kernel_rfl) (fun w' R Q=>?_)
    obtain ⟨a,b,hc,ha1,hb1,ha0,hb0⟩:=Zeq false x e false y f
    have ha2:=ha1 (by omega)
    have hb2:=hb0 hy0
    exact ⟨_,rfl,⟨by rw [hc]; unfold cmpN sg; simp only [if_false,Bool.false_eq_true]; first | exact ZfJ (by omega) (by omega) | exact ZfK (by omega) (by omega),by omega,by omega⟩,R⟩
   ·by_cases ht1:t=true
    ·have ht':t=true:=by simpa using ht1
     clear ht1 htm
     subst ht'
     refine Zab (xq 3 [(2, .p 2 0),(3, .p 3 0),(4, .v (.int .i64 0))] [(3,79,[.v (.bool true), .v (.slice B m d), .v (.int .i64 f)]),(2,79,[.v (.bool false), .v (.slice A l c), .v (.int .i64 e)])] ?_)
     refine xe (Zaa (Zac (Zac ?_)))
     refine ZaC 10 (by kernel_rfl) (by kernel_rfl) Zah ?_
     refine xqg 1 [(6, .v (.agg #[.bool false, .slice A l c, .int .i64 e]))] ?_
     refine xqd 119 [.agg #[.bool false, .slice A l c, .int .i64 e]] 7 (fun _:Unit=>.int .i64 1) _ (fun w R Q=>(ZaD false A l c x e _ Q.1).mono (fun _ _ h=>Zad h (by rw [if_neg hx0,if_neg (by decide)]))) (fun xx=>?_)
     refine xqg 1 [(8, .v (.agg #[.bool true, .slice B m d, .int .i64 f]))] ?_
     refine xqd 119 [.agg #[.bool true, .slice B m d, .int .i64 f]] 9 (fun _:Unit=>.int .i64 (-1)) _ (fun w R Q=>(ZaD true B m d y f _ Q.1.2).mono (fun _ _ h=>Zad h (by rw [if_neg hy0,if_pos rfl]))) (fun xx=>?_)
     refine xqg 6 [(15, .v (.bool true))] ?_
     refine xz (xe (Zaa (xa (Zac ?_))))
     refine ZaC 6 (by kernel_rfl) (by kernel_rfl) Zah ?_
     refine xqg 1 [(16, .v (.agg #[.bool false, .slice A l c, .int .i64 e]))] ?_
     refine xqd 119 [.agg #[.bool false, .slice A l c, .int .i64 e]] 17 (fun _:Unit=>.int .i64 1) _ (fun w R Q=>(ZaD false A l c x e _ Q.1.1.1).mono (fun _ _ h=>Zad h (by rw [if_neg hx0,if_neg (by decide)]))) (fun xx=>?_)
     refine xqg 1 [(18, .v (.agg #[.bool true, .slice B m d, .int .i64 f]))] ?_
     refine xqd 119 [.agg #[.bool true, .slice B m d, .int .i64 f]] 19 (fun _:Unit=>.int .i64 (-1)) _ (fun w R Q=>(ZaD true B m d y f _ Q.1.1.1.2).mono (fun _ _ h=>Zad h (by rw [if_neg hy0,if_pos rfl]))) (fun xx=>?_)
     refine xqg 1 [(20, .v (.int .i64 (IntKind.i64.wrap (1 - (-1)))))] ?_
     rw [show (IntKind.i64.wrap (1 - (-1)))=2 from rfl]
     refine xqg 1 [(4, .v (.int .i64 2))] ?_
     refine xz (xe (Zaa (Zaj (Zak ?_))))
     refine Zaf (v:=.int .i64 2) (by kernel_rfl) (fun w' R Q=>?_)
     obtain ⟨a,b,hc,ha1,hb1,ha0,hb0⟩:=Zeq false x e true y f
     have ha2:=ha1 (by omega)
     have hb2:=hb1 (by omega)
     exact ⟨_,rfl,⟨by rw [hc]; unfold cmpN sg; simp only [if_true,if_false,Bool.false_eq_true]; first | exact ZfJ (by omega) (by omega) | exact ZfK (by omega) (by omega),by omega,by omega⟩,R⟩
    ·have ht':t=false:=by simpa using ht1
     clear ht1 htm
     subst ht'
     refine Zab (xq 3 [(2, .p 2 0),(3, .p 3 0),(4, .v (.int .i64 0))] [(3,79,[.v (.bool false), .v (.slice B m d), .v (.int .i64 f)]),(2,79,[.v (.bool false), .v (.slice A l c), .v (.int .i64 e)])] ?_)
     refine xe (Zaa (Zac (Zac ?_)))
     refine ZaC 10 (by kernel_rfl) (by kernel_rfl) Zah ?_
     refine xqg 1 [(6, .v (.agg #[.bool false, .slice A l c, .int .i64 e]))] ?_
     refine xqd 119 [.agg #[.bool false, .slice A l c, .int .i64 e]] 7 (fun _:Unit=>.int .i64 1) _ (fun w R Q=>(ZaD false A l c x e _ Q.1).mono (fun _ _ h=>Zad h (by rw [if_neg hx0,if_neg (by decide)]))) (fun xx=>?_)
     refine xqg 1 [(8, .v (.agg #[.bool false, .slice B m d, .int .i64 f]))] ?_
     refine xqd 119 [.agg #[.bool false, .slice B m d, .int .i64 f]] 9 (fun _:Unit=>.int .i64 1) _ (fun w R Q=>(ZaD false B m d y f _ Q.1.2).mono (fun _ _ h=>Zad h (by rw [if_neg hy0,if_neg (by decide)]))) (fun xx=>?_)
     refine xqg 3 [(11, .v (.bool false)),(12, .v (.agg #[.bool false, .slice A l c, .int .i64 e]))] ?_
     refine xqd 119 [.agg #[.bool false, .slice A l c, .int .i64 e]] 13 (fun _:Unit=>.int .i64 1) _ (fun w R Q=>(ZaD false A l c x e _ Q.1.1.1).mono (fun _ _ h=>Zad h (by rw [if_neg hx0,if_neg (by decide)]))) (fun xx=>?_)
     refine xqg 2 [(15, .v (.bool false))] ?_
     refine xz (xe (Zaa (xb (Zap (Zaa (Zac (Zac (Zab (xq 2 [(22, .v (.bool false))] [] ?_)))))))))
     refine xe (Zaa (xb (Zap (Zaa (Zac (Zac ?_))))))
     have hp0:0 < x:=by omega
     have hq0:0 < y:=by omega
     refine ZaC 5 (by kernel_rfl) (by kernel_rfl) Zah ?_
     refine xqg 1 [(27, .v (.agg #[.bool false, .slice A l c, .int .i64 e]))] ?_
     refine xqd 121 [.agg #[.bool false, .slice A l c, .int .i64 e]] 28 (fun _:Unit=>.int .i64 (((blen x:Nat):Int) + e)) _ (fun w R Q=>(Zdb _ _ _ _ _ _ _ Q.1.1.1.1 (by omega) (by omega) (by omega)).mono (fun _ _ h=>Zad h rfl)) (fun xx=>?_)
     refine xqg 1 [(29, .v (.agg #[.bool false, .slice B m d, .int .i64 f]))] ?_
     refine xqd 121 [.agg #[.bool false, .slice B m d, .int .i64 f]] 30 (fun _:Unit=>.int .i64 (((blen y:Nat):Int) + f)) _ (fun w R Q=>(Zdb _ _ _ _ _ _ _ Q.1.1.1.1.2 (by omega) (by omega) (by omega)).mono (fun _ _ h=>Zad h rfl)) (fun xx=>?_)
     refine xqg 1 [(31, .v (.bool (((((blen x:Nat):Int) + e):Int) != (((blen y:Nat):Int) + f))))] ?_
     refine xz (xe (Zaa ?_))
     refine ZaA ((((((blen x:Nat):Int) + e):Int) != (((blen y:Nat):Int) + f))) (by kernel_rfl) (fun hb13=>?_) (fun hb13=>?_)
     ·have hb13':=ZdW hb13
      refine Zac ?_
      refine ZaC 6 (by kernel_rfl) (by kernel_rfl) Zah ?_
      refine xqg 1 [(32, .v (.agg #[.bool false, .slice A l c, .int .i64 e]))] ?_
      refine xqd 121 [.agg #[.bool false, .slice A l c, .int .i64 e]] 33 (fun _:Unit=>.int .i64 (((blen x:Nat):Int) + e)) _ (fun w R Q=>(Zdb _ _ _ _ _ _ _ Q.1.1.1.1.1.1 (by omega) (by omega) (by omega)).mono (fun _ _ h=>Zad h rfl)) (fun xx=>?_)
      refine xqg 1 [(34, .v (.agg #[.bool false, .slice B m d, .int .i64 f]))] ?_
      refine xqd 121 [.agg #[.bool false, .slice B m d, .int .i64 f]] 35 (fun _:Unit=>.int .i64 (((blen y:Nat):Int) + f)) _ (fun w R Q=>(Zdb _ _ _ _ _ _ _ Q.1.1.1.1.1.1.2 (by omega) (by omega) (by omega)).mono (fun _ _ h=>Zad h rfl)) (fun xx=>?_)
      refine xqg 1 [(36, .v (.int .i64 (IntKind.i64.wrap ((((blen x:Nat):Int) + e) - (((blen y:Nat):Int) + f)))))] ?_
      rw [show IntKind.i64.wrap ((((blen x:Nat):Int) + e) - (((blen y:Nat):Int) + f))=(((blen x:Nat):Int) + e) - (((blen y:Nat):Int) + f) from by rw [IntKind.wrap_i64]; omega]
      refine xqg 1 [(4, .v (.int .i64 ((((blen x:Nat):Int) + e) - (((blen y:Nat):Int) + f))))] ?_
      refine xz (xe (Zaa (Zaj (Zak ?_))))
      refine Zaf (v:=.int .i64 ((((blen x:Nat):Int) + e) - (((blen y:Nat):Int) + f))) (by kernel_rfl) (fun w' R Q=>?_)
      exact ⟨_,rfl,⟨by rw [ZnU hp0 hq0 (by omega)],by omega,by omega⟩,R⟩
     ·have hb13':=ZdX hb13
      refine Zap (Zaa (Zac ?_))
      obtain ⟨low,hlow⟩:∃ z':Int,min e f=z':=⟨_,rfl⟩
      obtain ⟨u1,hu1⟩:∃ u:Nat,e - low=u:=Int.eq_ofNat_of_zero_le (by omega)
      obtain ⟨u2,hu2⟩:∃ u:Nat,f - low=u:=Int.eq_ofNat_of_zero_le (by omega)
      have hp1:=ZdY hp0
      have hq1:=ZdY hq0
      have hv1:u1≤100000000:=by omega
      have hv2:u2≤100000000:=by omega
      obtain ⟨a,ha⟩:∃ a,x * 2 ^ u1=a:=⟨_,rfl⟩
      obtain ⟨b,hb'⟩:∃ b,y * 2 ^ u2=b:=⟨_,rfl⟩
      have hwa:wl a≤4000000:=by rw [← ha]; exact ZmC (by omega) hv1
      have hwb:wl b≤4000000:=by rw [← hb']; exact ZmC (by omega) hv2
      have hS:cmpV false x e false y f=cmpN false a false b:=by rw [ZfI hlow hu1 hu2,ha,hb']
      obtain ⟨n1,n2,n3⟩:=ZnV a b
      refine Zab (xq 5 [(41, .v (.int .i64 (if f < e then f else e)))] [] ?_)
      rw [(show (if f < e then f else e)=low from ZfF.trans hlow)]
      refine xq 1 [(5, .v (.int .i64 low))] [] ?_
      refine xe (Zaa (Zac ?_))
      refine SXc.weak [(2, .p 2 0),(3, .p 3 0),(4, .v (.int .i64 0)),(5, .v (.int .i64 low))] [(3,79,[.v (.bool false), .v (.slice B m d), .v (.int .i64 f)]),(2,79,[.v (.bool false), .v (.slice A l c), .v (.int .i64 e)])] (ZaG.of (by kernel_rfl)) (by kernel_rfl) (fun _ h=>h) ?_
      refine ZaC 16 (by kernel_rfl) (by kernel_rfl) Zah ?_
      refine xqg 6 [eS1 43 A l c,(47, .v (.int .i64 (IntKind.i64.wrap (e - low))))] ?_
      rw [show IntKind.i64.wrap (e - low)=((u1:Nat):Int) from by rw [IntKind.wrap_i64]; omega]
      refine xqd 66 [.slice A l c, .int .i64 ((u1:Nat):Int)] 48 Za7 _ (fun w R Q=>(Zeu u1 Q.1.1.1.1.1.1 (by omega) (by omega)).mono (fun _ _ h=>Zbd (by rw [ha] at h; exact h))) (fun xx=>?_)
      obtain ⟨A14,l14,c14⟩:=xx
      refine xqg 6 [eS1 50 B m d,(54, .v (.int .i64 (IntKind.i64.wrap (f - low))))] ?_
      rw [show IntKind.i64.wrap (f - low)=((u2:Nat):Int) from by rw [IntKind.wrap_i64]; omega]
      refine xqd 66 [.slice B m d, .int .i64 ((u2:Nat):Int)] 55 Za7 _ (fun w R Q=>(Zeu u2 Q.1.1.1.1.1.1.2 (by omega) (by omega)).mono (fun _ _ h=>Zbd (by rw [hb'] at h; exact h))) (fun xx=>?_)
      obtain ⟨A15,l15,c15⟩:=xx
      refine xqd 122 [.slice A14 l14 c14, .slice A15 l15 c15] 56 (fun _:Unit=>.int .i64 (cmpI ((a:Nat):Int) ((b:Nat):Int))) _ (fun w R Q=>(Zf3 Q.1.2 Q.2 (by omega)).mono (fun _ _ h=>Zad h rfl)) (fun xx=>?_)
      refine xqg 1 [(4, .v (.int .i64 (cmpI ((a:Nat):Int) ((b:Nat):Int))))] ?_
      refine xz (xe (Zaa (Zaj ?_)))
      refine Zaf (v:=.int .i64 (cmpI ((a:Nat):Int) ((b:Nat):Int))) (by kernel_rfl) (fun w' R Q=>?_)
      exact ⟨_,rfl,⟨by rw [hS]; exact n1,by omega,by omega⟩,R⟩
theorem Zd1 {l:List UInt8} {x:Int} (hl:l.length≤100000):wl (ldR l x).m≤100000 ∧ -1048576≤(ldR l x).e∧(ldR l x).e≤1048576∧((ldR l x).s=true→0 < (ldR l x).m):=by
 refine ⟨ZkJ hl,?_⟩
 by_cases hv:fvB l x=true
 ·have h:=ZcY hv
  rw [show ldR l x=⟨(Zay l).1,Zag (Zay l).2,x,0⟩ from if_pos hv]
  exact ⟨h.1,h.2.1,h.2.2.2⟩
 ·rw [show ldR l x=⟨false,0,0,0⟩ from if_neg hv]
  exact ⟨by show (-1048576:Int)≤0; omega,by show (0:Int)≤1048576; omega,fun h=>by cases h⟩
def cmpL (l l':List UInt8) (x y:Int):Int:=cmpV (ldR l x).s (ldR l x).m (ldR l x).e (ldR l' y).s (ldR l' y).m (ldR l' y).e
theorem ZaY (s t:ByteArray) (x y:Int) (w:World) (hs:(bytes s).length≤100000) (hs2:(bytes t).length≤100000) :
 Calls Tryz.prog 43 #[.agg #[.string s, .int .i64 x], .agg #[.string t, .int .i64 y]] w (RetV w (.int .i64 (cmpL (bytes s) (bytes t) x y))):=by
 unfold cmpL
 refine Zaz (Φ:=fun w=>True) Tryz.func43 rfl (by kernel_rfl) (fun w' hf=>trivial) ?_
 refine Zac (Zab (xq 3 [(2, .p 2 0),(3, .p 3 0),(4, .v (.int .i64 0))] [(3,24,[.v (.string t), .v (.int .i64 y)]),(2,24,[.v (.string s), .v (.int .i64 x)])] ?_))
 refine xe (Zaa (Zac (Zab (xq 1 [(10, .v (.agg #[.string s, .int .i64 x]))] [] ?_))))
 by_cases hv:fvB (bytes s) x=true
 ·obtain ⟨r10,hr10⟩:∃ r,ldR (bytes s) x=r:=⟨_,rfl⟩
  have hfv:=ZcY hv
  have hwl:wl r10.m≤100000:=by rw [← hr10]; exact ZkJ hs
  have hre:r10.e=x:=by rw [← hr10,show ldR (bytes s) x=_ from if_pos hv]
  have hrs:r10.s=true→0 < r10.m:=by rw [← hr10,show ldR (bytes s) x=_ from if_pos hv]; exact hfv.2.2.2
  refine xqc 64 [.agg #[.string s, .int .i64 x]] 11 (shLd true r10) _ (fun w R Q=>((show Calls _ _ _ _ (Zfg w true r10) from by rw [← hr10,← hv]; exact Zdd s x _ hs)).mono (fun _ _=>Zez)) (fun xx=>?_)
  obtain ⟨A10,l10,c10⟩:=xx
  refine xq 6 [(5, .p 5 0)] [(5,79,[.v (.bool r10.s), .v (.slice A10 l10 c10), .v (.int .i64 r10.e)])] ?_
  refine xe (Zaa (Zac (Zab (xq 1 [(15, .v (.agg #[.string t, .int .i64 y]))] [] ?_))))
  by_cases hv2:fvB (bytes t) y=true
  ·obtain ⟨r11,hr11⟩:∃ r,ldR (bytes t) y=r:=⟨_,rfl⟩
   have hfv2:=ZcY hv2
   have hwl2:wl r11.m≤100000:=by rw [← hr11]; exact ZkJ hs2
   have hre2:r11.e=y:=by rw [← hr11,show ldR (bytes t) y=_ from if_pos hv2]
   have hrs2:r11.s=true→0 < r11.m:=by rw [← hr11,show ldR (bytes t) y=_ from if_pos hv2]; exact hfv2.2.2.2
   refine xqc 64 [.agg #[.string t, .int .i64 y]] 16 (shLd true r11) _ (fun w R Q=>((show Calls _ _ _ _ (Zfg w true r11) from by rw [← hr11,← hv2]; exact Zdd t y _ hs2)).mono (fun _ _=>Zez)) (fun xx=>?_)
   obtain ⟨A11,l11,c11⟩:=xx
   refine xq 6 [(7, .p 7 0)] [(7,79,[.v (.bool r11.s), .v (.slice A11 l11 c11), .v (.int .i64 r11.e)])] ?_
   refine xe (Zaa (Zac ?_))
   have hq1:=Zd1 (l:=bytes s) (x:=x) hs
   rw [hr10] at hq1
   obtain ⟨hw1,he11,he12,hs1⟩:=hq1
   have hq2:=Zd1 (l:=bytes t) (x:=y) hs2
   rw [hr11] at hq2
   obtain ⟨hw2,he21,he22,hs2'⟩:=hq2
   refine Zab (xq 2 [(19, .v (.agg #[.bool r10.s, .slice A10 l10 c10, .int .i64 r10.e])),(20, .v (.agg #[.bool r11.s, .slice A11 l11 c11, .int .i64 r11.e]))] [] ?_)
   refine xqc 80 [.agg #[.bool r10.s, .slice A10 l10 c10, .int .i64 r10.e], .agg #[.bool r11.s, .slice A11 l11 c11, .int .i64 r11.e]] 21 (fun v:Int=>.int .i64 v) _ (fun w R Q=>(Zem _ _ _ _ _ _ _ _ _ _ _ _ _ Q.1.2 hw1 (by omega) (by omega) Q.2 hw2 (by omega) (by omega) hs1 hs2').mono (fun _ _=>ZiV)) (fun v=>?_)
   refine xq 1 [(22, .v (.int .i64 (if (-1) > v then (-1) else v)))] [] ?_
   rw [ZiW]
   refine xq 1 [(23, .v (.int .i64 (if 1 < (max v ((-1))) then 1 else (max v ((-1))))))] [] ?_
   rw [ZfF]
   refine xq 1 [(4, .v (.int .i64 (min ((max v ((-1)))) 1)))] [] ?_
   refine xe (Zaa (Zaj ?_))
   refine Zaf (v:=.int .i64 (min ((max v ((-1)))) 1)) (by kernel_rfl) (fun w' R Q=>?_)
   exact ⟨by rw [Zfz,(Q.2).1,hr10,hr11],R⟩
  ·obtain ⟨r12,hr12⟩:∃ r,ldR (bytes t) y=r:=⟨_,rfl⟩
   refine xqc 64 [.agg #[.string t, .int .i64 y]] 16 (shLd false r12) _ (fun w R Q=>((show Calls _ _ _ _ (Zfg w false r12) from by rw [← hr12,← Bool.eq_false_iff.2 hv2]; exact Zdd t y _ hs2)).mono (fun _ _=>Zez)) (fun xx=>?_)
   obtain ⟨A12,l12,c12⟩:=xx
   refine xq 6 [(7, .p 7 0)] [(7,79,[.v (.bool r12.s), .v (.slice A12 l12 c12), .v (.int .i64 r12.e)])] ?_
   refine xe (Zaa (Zac ?_))
   have hq1:=Zd1 (l:=bytes s) (x:=x) hs
   rw [hr10] at hq1
   obtain ⟨hw1,he11,he12,hs1⟩:=hq1
   have hq2:=Zd1 (l:=bytes t) (x:=y) hs2
   rw [hr12] at hq2
   obtain ⟨hw2,he21,he22,hs2'⟩:=hq2
   refine Zab (xq 2 [(19, .v (.agg #[.bool r10.s, .slice A10 l10 c10, .int .i64 r10.e])),(20, .v (.agg #[.bool r12.s, .slice A12 l12 c12, .int .i64 r12.e]))] [] ?_)
   refine xqc 80 [.agg #[.bool r10.s, .slice A10 l10 c10, .int .i64 r10.e], .agg #[.bool r12.s, .slice A12 l12 c12, .int .i64 r12.e]] 21 (fun v:Int=>.int .i64 v) _ (fun w R Q=>(Zem _ _ _ _ _ _ _ _ _ _ _ _ _ Q.1.2 hw1 (by omega) (by omega) Q.2 hw2 (by omega) (by omega) hs1 hs2').mono (fun _ _=>ZiV)) (fun v=>?_)
   refine xq 1 [(22, .v (.int .i64 (if (-1) > v then (-1) else v)))] [] ?_
   rw [ZiW]
   refine xq 1 [(23, .v (.int .i64 (if 1 < (max v ((-1))) then 1 else (max v ((-1))))))] [] ?_
   rw [ZfF]
   refine xq 1 [(4, .v (.int .i64 (min ((max v ((-1)))) 1)))] [] ?_
   refine xe (Zaa (Zaj ?_))
   refine Zaf (v:=.int .i64 (min ((max v ((-1)))) 1)) (by kernel_rfl) (fun w' R Q=>?_)
   exact ⟨by rw [Zfz,(Q.2).1,hr10,hr12],R⟩
 ·obtain ⟨r13,hr13⟩:∃ r,ldR (bytes s) x=r:=⟨_,rfl⟩
  refine xqc 64 [.agg #[.string s, .int .i64 x]] 11 (shLd false r13) _ (fun w R Q=>((show Calls _ _ _ _ (Zfg w false r13) from by rw [← hr13,← Bool.eq_false_iff.2 hv]; exact Zdd s x _ hs)).mono (fun _ _=>Zez)) (fun xx=>?_)
  obtain ⟨A13,l13,c13⟩:=xx
  refine xq 6 [(5, .p 5 0)] [(5,79,[.v (.bool r13.s), .v (.slice A13 l13 c13), .v (.int .i64 r13.e)])] ?_
  refine xe (Zaa (Zac (Zab (xq 1 [(15, .v (.agg #[.string t, .int .i64 y]))] [] ?_))))
  by_cases hv2:fvB (bytes t) y=true
  ·obtain ⟨r14,hr14⟩:∃ r,ldR (bytes t) y=r:=⟨_,rfl⟩
   have hfv2:=ZcY hv2
   have hwl2:wl r14.m≤100000:=by rw [← hr14]; exact ZkJ hs2
   have hre2:r14.e=y:=by rw [← hr14,show ldR (bytes t) y=_ from if_pos hv2]
   have hrs2:r14.s=true→0 < r14.m:=by rw [← hr14,show ldR (bytes t) y=_ from if_pos hv2]; exact hfv2.2.2.2
   refine xqc 64 [.agg #[.string t, .int .i64 y]] 16 (shLd true r14) _ (fun w R Q=>((show Calls _ _ _ _ (Zfg w true r14) from by rw [← hr14,← hv2]; exact Zdd t y _ hs2)).mono (fun _ _=>Zez)) (fun xx=>?_)
   obtain ⟨A14,l14,c14⟩:=xx
   refine xq 6 [(7, .p 7 0)] [(7,79,[.v (.bool r14.s), .v (.slice A14 l14 c14), .v (.int .i64 r14.e)])] ?_
   refine xe (Zaa (Zac ?_))
   have hq1:=Zd1 (l:=bytes s) (x:=x) hs
   rw [hr13] at hq1
   obtain ⟨hw1,he11,he12,hs1⟩:=hq1
   have hq2:=Zd1 (l:=bytes t) (x:=y) hs2
   rw [hr14] at hq2
   obtain ⟨hw2,he21,he22,hs2'⟩:=hq2
   refine Zab (xq 2 [(19, .v (.agg #[.bool r13.s, .slice A13 l13 c13, .int .i64 r13.e])),(20, .v (.agg #[.bool r14.s, .slice A14 l14 c14, .int .i64 r14.e]))] [] ?_)
   refine xqc 80 [.agg #[.bool r13.s, .slice A13 l13 c13, .int .i64 r13.e], .agg #[.bool r14.s, .slice A14 l14 c14, .int .i64 r14.e]] 21 (fun v:Int=>.int .i64 v) _ (fun w R Q=>(Zem _ _ _ _ _ _ _ _ _ _ _ _ _ Q.1.2 hw1 (by omega) (by omega) Q.2 hw2 (by omega) (by omega) hs1 hs2').mono (fun _ _=>ZiV)) (fun v=>?_)
   refine xq 1 [(22, .v (.int .i64 (if (-1) > v then (-1) else v)))] [] ?_
   rw [ZiW]
   refine xq 1 [(23, .v (.int .i64 (if 1 < (max v ((-1))) then 1 else (max v ((-1))))))] [] ?_
   rw [ZfF]
   refine xq 1 [(4, .v (.int .i64 (min ((max v ((-1)))) 1)))] [] ?_
   refine xe (Zaa (Zaj ?_))
   refine Zaf (v:=.int .i64 (min ((max v ((-1)))) 1)) (by kernel_rfl) (fun w' R Q=>?_)
   exact ⟨by rw [Zfz,(Q.2).1,hr13,hr14],R⟩
  ·obtain ⟨r15,hr15⟩:∃ r,ldR (bytes t) y=r:=⟨_,rfl⟩
   refine xqc 64 [.agg #[.string t, .int .i64 y]] 16 (shLd false r15) _ (fun w R Q=>((show Calls _ _ _ _ (Zfg w false r15) from by rw [← hr15,← Bool.eq_false_iff.2 hv2]; exact Zdd t y _ hs2)).mono (fun _ _=>Zez)) (fun xx=>?_)
   obtain ⟨A15,l15,c15⟩:=xx
   refine xq 6 [(7, .p 7 0)] [(7,79,[.v (.bool r15.s), .v (.slice A15 l15 c15), .v (.int .i64 r15.e)])] ?_
   refine xe (Zaa (Zac ?_))
   have hq1:=Zd1 (l:=bytes s) (x:=x) hs
   rw [hr13] at hq1
   obtain ⟨hw1,he11,he12,hs1⟩:=hq1
   have hq2:=Zd1 (l:=bytes t) (x:=y) hs2
   rw [hr15] at hq2
   obtain ⟨hw2,he21,he22,hs2'⟩:=hq2
   refine Zab (xq 2 [(19, .v (.agg #[.bool r13.s, .slice A13 l13 c13, .int .i64 r13.e])),(20, .v (.agg #[.bool r15.s, .slice A15 l15 c15, .int .i64 r15.e]))] [] ?_)
   refine xqc 80 [.agg #[.bool r13.s, .slice A13 l13 c13, .int .i64 r13.e], .agg #[.bool r15.s, .slice A15 l15 c15, .int .i64 r15.e]] 21 (fun v:Int=>.int .i64 v) _ (fun w R Q=>(Zem _ _ _ _ _ _ _ _ _ _ _ _ _ Q.1.2 hw1 (by omega) (by omega) Q.2 hw2 (by omega) (by omega) hs1 hs2').mono (fun _ _=>ZiV)) (fun v=>?_)
   refine xq 1 [(22, .v (.int .i64 (if (-1) > v then (-1) else v)))] [] ?_
   rw [ZiW]
   refine xq 1 [(23, .v (.int .i64 (if 1 < (max v ((-1))) then 1 else (max v ((-1))))))] [] ?_
   rw [ZfF]
   refine xq 1 [(4, .v (.int .i64 (min ((max v ((-1)))) 1)))] [] ?_
   refine xe (Zaa (Zaj ?_))
   refine Zaf (v:=.int .i64 (min ((max v ((-1)))) 1)) (by kernel_rfl) (fun w' R Q=>?_)
   exact ⟨by rw [Zfz,(Q.2).1,hr13,hr15],R⟩
end Go.Proofs.YtklpdkpcocnglaaGreatDoor

namespace Go.Proofs.YtklpdkpcocnglaaGreatDoor
open Go.RowKit
def ZfA (s:ByteArray) (x:Int):Prop:=s.size≤200 ∧ -300≤x∧x≤300
instance (s:ByteArray) (x:Int):Decidable (ZfA s x):=inferInstanceAs (Decidable (_∧_))
def ZuI (s:ByteArray) (x:Int):Prop:=s.size≤200∧¬ (x > 300∧x < 1048276)∧¬ (x < -300∧x > -1048276)
instance (s:ByteArray) (x:Int):Decidable (ZuI s x):=inferInstanceAs (Decidable (_∧_))
set_option maxHeartbeats 4000000 in
theorem Zmc (b:Nat) (s t:ByteArray) (x y:Int) (w:World) (hB:Blk 24 w b #[.string s, .int .i64 x, .string t, .int .i64 y]) :
 Calls Tryz.prog 40 #[.slice (some ⟨b,0,none⟩) 2 2] w (RetV w (.bool (decide (ZfA s x∧ZfA t y)))):=by
 have HB:=zh hB
 clear hB
 obtain ⟨d,hd⟩:∃ d,decide (ZfA s x∧ZfA t y)=d:=⟨_,rfl⟩
 rw [hd]
 have HD:=zh hd
 clear hd
 go_enter Tryz.func40,Tryz.ntmps40
 go_wp2
 go_loopw [7] (fun v7 wr=>∃ k:Nat,k≤2∧v7=.int .i64 (k:Int)∧(1≤k→ZfA s x)∧(2≤k→ZfA t y)∧Hid (Ext w wr)) (fun v _=>2 - (intOf v).toNat)
 case atStart=>exact ⟨0,by omega,rfl,(fun h=>by omega),(fun h=>by omega),Fr.refl _ _⟩
 case round =>
  obtain ⟨k,hk,rfl,hin,hin2,Q⟩:=hrel
  by_cases hlt:k < 2
  ·have hBr:=HB.out.ext Q.out
   have c0:=hBr.cell 0
   have c1:=hBr.cell 1
   have c2:=hBr.cell 2
   have c3:=hBr.cell 3
   clear hBr
   rcases (by omega:k=0∨k=1) with rfl | rfl
   ·by_cases h0:(s.size:Int) > 200
    ·have HF:Hid (d=false):=HD.out.symm.trans (decide_eq_false (fun h=>by have h':=h.1; obtain ⟨g1,g2,g3⟩:=h'; omega))
     go_wp2
     go_ret
     exact ⟨(congrArg (fun q=>Ending.returned (Value.bool q)) HF.out).symm,Q.out.alloc _⟩
    ·by_cases h1:x > 300
     ·have HF:Hid (d=false):=HD.out.symm.trans (decide_eq_false (fun h=>by have h':=h.1; obtain ⟨g1,g2,g3⟩:=h'; omega))
      go_wp2
      go_ret
      exact ⟨(congrArg (fun q=>Ending.returned (Value.bool q)) HF.out).symm,Q.out.alloc _⟩
     ·by_cases h2:x < -300
      ·have HF:Hid (d=false):=HD.out.symm.trans (decide_eq_false (fun h=>by have h':=h.1; obtain ⟨g1,g2,g3⟩:=h'; omega))
       go_wp2
       go_ret
       exact ⟨(congrArg (fun q=>Ending.returned (Value.bool q)) HF.out).symm,Q.out.alloc _⟩
      ·go_wp2
       go_roundw
       case rel=>exact ⟨1,by omega,rfl,(fun _=>⟨by omega,by omega,by omega⟩),(fun h=>by omega),Q.out.alloc _⟩
       case measure=>simp [intOf]
   ·by_cases h0:(t.size:Int) > 200
    ·have HF:Hid (d=false):=HD.out.symm.trans (decide_eq_false (fun h=>by have h':=h.2; obtain ⟨g1,g2,g3⟩:=h'; omega))
     go_wp2
     go_ret
     exact ⟨(congrArg (fun q=>Ending.returned (Value.bool q)) HF.out).symm,Q.out.alloc _⟩
    ·by_cases h1:y > 300
     ·have HF:Hid (d=false):=HD.out.symm.trans (decide_eq_false (fun h=>by have h':=h.2; obtain ⟨g1,g2,g3⟩:=h'; omega))
      go_wp2
      go_ret
      exact ⟨(congrArg (fun q=>Ending.returned (Value.bool q)) HF.out).symm,Q.out.alloc _⟩
     ·by_cases h2:y < -300
      ·have HF:Hid (d=false):=HD.out.symm.trans (decide_eq_false (fun h=>by have h':=h.2; obtain ⟨g1,g2,g3⟩:=h'; omega))
       go_wp2
       go_ret
       exact ⟨(congrArg (fun q=>Ending.returned (Value.bool q)) HF.out).symm,Q.out.alloc _⟩
      ·go_wp2
       go_roundw
       case rel=>exact ⟨2,by omega,rfl,(fun _=>hin (by omega)),(fun h=>⟨by omega,by omega,by omega⟩),Q.out.alloc _⟩
       case measure=>simp [intOf]
  ·obtain rfl:k=2:=by omega
   have HF:Hid (d=true):=HD.out.symm.trans (decide_eq_true ⟨hin (by omega),hin2 (by omega)⟩)
   go_wp2
   go_ret
   exact ⟨(congrArg (fun q=>Ending.returned (Value.bool q)) HF.out).symm,Q.out⟩
end Go.Proofs.YtklpdkpcocnglaaGreatDoor

namespace Go.Proofs.YtklpdkpcocnglaaGreatDoor
open Go.RowKit
end Go.Proofs.YtklpdkpcocnglaaGreatDoor

namespace Go.Proofs.YtklpdkpcocnglaaGreatDoor
open Go.RowKit
def efl (l:List UInt8) (x:Int):Int:=if fvB l x=true then x else 0
theorem ZmD (l:List UInt8) (x:Int):Vz (zfl l x) (efl l x):=by
 unfold zfl efl
 by_cases hv:fvB l x=true
 ·rw [if_pos hv,if_pos hv]
  rcases (Zs6 hv).2 with h | h
  ·exact Or.inl h
  ·exact Or.inr h.1
 ·rw [if_neg hv,if_neg hv]
  exact Or.inl ⟨rfl,rfl⟩
theorem ld_z (l:List UInt8) (x:Int):sg (ldR l x).s (ldR l x).m=zfl l x∧(ldR l x).e=efl l x:=by
 unfold zfl efl
 by_cases hv:fvB l x=true
 ·rw [if_pos hv,if_pos hv,show ldR l x=⟨(Zay l).1,Zag (Zay l).2,x,0⟩ from if_pos hv]
  exact ⟨rfl,rfl⟩
 ·rw [if_neg hv,if_neg hv,show ldR l x=⟨false,0,0,0⟩ from if_neg hv]
  exact ⟨rfl,rfl⟩
section
variable {l l':List UInt8} {x y:Int}
theorem Zis:cmpL l l' x y=cmpZ (zfl l x) (efl l x) (zfl l' y) (efl l' y):=by
 unfold cmpL cmpV
 rw [(ld_z l x).1,(ld_z l x).2,(ld_z l' y).1,(ld_z l' y).2]
theorem ZiX:(exQ (zfl l x) (efl l x) - exQ (zfl l' y) (efl l' y)).num.sign=cmpL l l' x y:=by
 rw [Zis]; exact ZuH (ZmD _ _) (ZmD _ _)
theorem Zde:cmpL l' l y x = -(cmpL l l' x y):=by
 rw [Zis,Zis]
 unfold cmpZ
 rw [Int.min_comm (efl l' y),← Int.sign_neg,Int.neg_sub]
theorem Zgy:cmpL l l' x y=0 ↔ zfl l x=zfl l' y∧efl l x=efl l' y:=by
 rw [Zis]; exact ZsO (ZmD _ _) (ZmD _ _)
theorem ZiY : -1≤cmpL l l' x y∧cmpL l l' x y≤1:=by
 rw [Zis]
 unfold cmpZ
 generalize (_ - _:Int)=a
 rcases Int.lt_trichotomy a 0 with h | h | h
 ·rw [Ze3 h]; omega
 ·rw [h]; decide
 ·rw [Ze2 h]; omega
end
theorem ZeB (z z' x y:Int) {r:Bool} (h:decide (z=z'∧x=y)=r):(((⟨(Lib.itoa z).toArray⟩:ByteArray).toList == (⟨(Lib.itoa z').toArray⟩:ByteArray).toList) && (x == y))=r:=by
 rw [Zlf,Zdm,← h]
 have hi:Lib.itoa z=Lib.itoa z' ↔ z=z':=⟨fun e=>by rw [← Zf5 z,e,Zf5],fun e=>by rw [e]⟩
 simp only [hi,Bool.decide_and]
 congr 1
theorem Zcl (k:Nat):ml 0≤k:=ZaW.2 (Nat.pow_pos Zau)
theorem ZbI {l:List UInt8} {x:Int} (hl:l.length≤1000) (hx1 : -1000≤x) (hx2:x≤1000):ZcU (exQ (zfl l x) (efl l x)):=by
 unfold zfl efl
 by_cases hv:fvB l x=true
 ·rw [if_pos hv,if_pos hv]
  have:=ZuW hv hl hx1 hx2
  exact ⟨Nat.le_trans this.1 (by decide),Nat.le_trans this.2 (by decide)⟩
 ·rw [if_neg hv,if_neg hv,show exQ 0 0=((0:Int):Rat) from ZiU (k:=0) rfl]
  exact ⟨by show ml 0≤100000; exact Zcl _,by show ml 1≤100000; exact Nat.le_trans Ziq (by decide)⟩
theorem Zi5 (s t:ByteArray) (x y:Int) (w:World) (hg:Glob w) :
 Calls Tryz.prog 7 #[.agg #[.string s, .int .i64 x], .agg #[.string t, .int .i64 y]] w (RetV w (.bool true)):=by
 refine Zaz (Φ:=fun w=>Glob w) Tryz.func7 rfl (by kernel_rfl) (fun w' hf=>hg.ext hf) ?_
 refine Zac (Zab (xq 3 [(2, .p 2 0),(3, .p 3 0),(4, .v (.bool false))] [(3,24,[.v (.string t), .v (.int .i64 y)]),(2,24,[.v (.string s), .v (.int .i64 x)])] ?_))
 refine xe (Zaa (Zac (Zac ?_)))
 by_cases ht:ZfA s x∧ZfA t y
 ·obtain ⟨⟨hz1,hx1,hx2⟩,⟨hz2,hy1,hy2⟩⟩:=id ht
  have hs:(bytes s).length≤200:=by rw [Zao]; exact hz1
  have hs2:(bytes t).length≤200:=by rw [Zao]; exact hz2
  refine Zab (xq 2 [(10, .v (.agg #[.string s, .int .i64 x])),(11, .v (.agg #[.string t, .int .i64 y]))] [] ?_)
  refine Zd4 (d:=12) (fun zb:Nat=>.slice (some ⟨zb,0,none⟩) 2 2) (fun zb zw=>Blk 24 zw zb #[.string s, .int .i64 x, .string t, .int .i64 y]) (by kernel_rfl) (by kernel_rfl) (by kernel_rfl) (by kernel_rfl) (by kernel_rfl) (by kernel_rfl) (fun w R Q=>Zdy (t:=108) (e:=24) (n:=2) (sz:=2) (z:=.agg #[.string ⟨#[]⟩, .int .i64 0]) (parts:=#[(0,Operand.tmp 10),(1,Operand.tmp 11)]) (by kernel_rfl) (by kernel_rfl) (by kernel_rfl) (by kernel_rfl) (by kernel_rfl) (by kernel_rfl)) (fun b10=>?_)
  refine xr 0 [(2, .p 2 0),(3, .p 3 0),(4, .v (.bool false)),eS1 12 (some ⟨b10,0,none⟩) 2 2] [(3,24,[.v (.string t), .v (.int .i64 y)]),(2,24,[.v (.string s), .v (.int .i64 x)])] ?_
  refine xqc 40 [.slice (some ⟨b10,0,none⟩) 2 2] 13 (fun _:Unit=>.bool true) _ (fun w R Q=>(Zmc b10 s t x y _ Q.2).mono (fun _ _ h=>Zad h (by rw [decide_eq_true ht]))) (fun xx=>?_)
  refine xq 1 [(14, .v (.bool false))] [] ?_
  refine xe (Zaa (xb (Zap (Zaa (Zac (Zab (xq 1 [(17, .v (.agg #[.string s, .int .i64 x]))] [] ?_)))))))
  by_cases hv:fvB (bytes s) x=true
  ·refine xqc 35 [.agg #[.string s, .int .i64 x]] 18 (shRF true x) _ (fun w R Q=>(Zht s x _ _ (by omega) hv rfl).mono (fun _ _=>ZiS)) (fun xx=>?_)
   obtain ⟨s11,A11,l11,c11⟩:=xx
   refine xq 6 [(5, .p 5 0)] [(5,52,[.v (.bool s11), .v (.slice A11 l11 c11), .v (.int .i64 x)])] ?_
   refine xe (Zaa (Zac (Zab (xq 1 [(22, .v (.agg #[.string t, .int .i64 y]))] [] ?_))))
   by_cases hv2:fvB (bytes t) y=true
   ·refine xqc 35 [.agg #[.string t, .int .i64 y]] 23 (shRF true y) _ (fun w R Q=>(Zht t y _ _ (by omega) hv2 rfl).mono (fun _ _=>ZiS)) (fun xx=>?_)
    obtain ⟨s12,A12,l12,c12⟩:=xx
    refine xq 6 [(7, .p 7 0)] [(7,52,[.v (.bool s12), .v (.slice A12 l12 c12), .v (.int .i64 y)])] ?_
    refine xe (Zaa (Zac (Zac (Zab (xq 1 [(26, .v (.agg #[.string s, .int .i64 x]))] [] ?_)))))
    refine xqc 42 [.agg #[.string s, .int .i64 x]] 27 (fun _:Unit=>.bool true) _ (fun w R Q=>(Zck s x _ (by omega)).mono (fun _ _ h=>Zad h (by rw [hv]))) (fun xx=>?_)
    refine xq 1 [(28, .v (.bool false))] [] ?_
    refine xe (Zaa (xb (Zap (Zaa (Zac (Zac (Zab (xq 1 [(30, .v (.agg #[.string t, .int .i64 y]))] [] ?_))))))))
    refine xqc 42 [.agg #[.string t, .int .i64 y]] 31 (fun _:Unit=>.bool true) _ (fun w R Q=>(Zck t y _ (by omega)).mono (fun _ _ h=>Zad h (by rw [hv2]))) (fun xx=>?_)
    refine xq 1 [(32, .v (.bool false))] [] ?_
    refine xe (Zaa (xb (Zap (Zaa (Zac ?_)))))
    obtain ⟨σ,hσ⟩:∃ σ,cmpL (bytes s) (bytes t) x y=σ:=⟨_,rfl⟩
    have hσb:=@ZiY (bytes s) (bytes t) x y
    have hσ0:=@Zgy (bytes s) (bytes t) x y
    rw [hσ] at hσb hσ0
    have hza:zfl (bytes s) x=flM (bytes s):=if_pos hv
    have hea:efl (bytes s) x=x:=if_pos hv
    have hq1:exQ (zfl (bytes s) x) (efl (bytes s) x)=exQ (flM (bytes s)) x:=by rw [hza,hea]
    have hzb:zfl (bytes t) y=flM (bytes t):=if_pos hv2
    have heb:efl (bytes t) y=y:=if_pos hv2
    have hq2:exQ (zfl (bytes t) y) (efl (bytes t) y)=exQ (flM (bytes t)) y:=by rw [hzb,heb]
    have hcmp:(exQ (flM (bytes s)) x - exQ (flM (bytes t)) y).num.sign=σ:=by have h:=@ZiX (bytes s) (bytes t) x y; rw [hq1,hq2,hσ] at h; exact h
    rw [hza,hea,hzb,heb] at hσ0
    by_cases h0:σ=0
    ·refine ZaC 6 (by kernel_rfl) (by kernel_rfl) Zah ?_
     refine xqg 1 [(34, .v (.agg #[.bool s11, .slice A11 l11 c11, .int .i64 x]))] ?_
     refine xqd 41 [.agg #[.bool s11, .slice A11 l11 c11, .int .i64 x]] 35 Zbf _ (fun w R Q=>(Zbn s11 A11 l11 c11 (flM (bytes s)) x _ Q.1.1.1.2 (Zd8 hv (by omega)) (by omega) (by omega)).mono (fun _ _=>Za4)) (fun xx=>?_)
     obtain ⟨s13,A13,l13,c13,t13,B13,m13,d13⟩:=xx
     refine xqg 1 [(36, .v (.agg #[.bool s12, .slice A12 l12 c12, .int .i64 y]))] ?_
     refine xqd 41 [.agg #[.bool s12, .slice A12 l12 c12, .int .i64 y]] 37 Zbf _ (fun w R Q=>(Zbn s12 A12 l12 c12 (flM (bytes t)) y _ Q.1.1.1.2 (Zd8 hv2 (by omega)) (by omega) (by omega)).mono (fun _ _=>Za4)) (fun xx=>?_)
     obtain ⟨s14,A14,l14,c14,t14,B14,m14,d14⟩:=xx
     refine xqd 28 [vR4 s13 A13 l13 c13 t13 B13 m13 d13,vR4 s14 A14 l14 c14 t14 B14 m14 d14] 38 (fun _:Unit=>.int .i64 σ) _ (fun w R Q=>(Zdc _ _ _ _ _ Q.1.2 Q.2 (by rw [← hq1]; exact ZbI (by omega) (by omega) (by omega)) (by rw [← hq2]; exact ZbI (by omega) (by omega) (by omega))).mono (fun _ _ h=>Zad h (by rw [hcmp]))) (fun xx=>?_)
     refine xqg 1 [(9, .v (.int .i64 σ))] ?_
     refine xz (xe (Zaa (Zac ?_)))
     refine ZcI 27 [0,1,3,3,15,3,63,127,255,511,511,2047,511,4607,16383,32767,65535,131071,262143,131071,655359,131071,3801087,7995391,16777215,33554431,67108863] (by kernel_rfl) (by kernel_rfl) Zah ?_
     refine xqd 14 [] 39 (fun _:Unit=>.bool true) _ (fun w R Q=>(ZbL _ Q.1.1.1.1.1.1.1.1.1).mono (fun _ _ h=>Zad h rfl)) (fun xx=>?_)
     refine xqg 3 [(40, .v (.bool true)),(41, .v (.agg #[.string s, .int .i64 x])),(42, .v (.agg #[.string t, .int .i64 y]))] ?_
     refine xqd 43 [.agg #[.string s, .int .i64 x], .agg #[.string t, .int .i64 y]] 43 (fun _:Unit=>.int .i64 σ) _ (fun w R Q=>(ZaY s t x y _ (by omega) (by omega)).mono (fun _ _ h=>Zad h (by rw [hσ]))) (fun xx=>?_)
     refine xqg 2 [(45, .v (.bool ((σ:Int) == σ)))] ?_
     rw [ZbC]
     refine xqg 4 [(47, .v (.bool true)),(48, .v (.agg #[.string t, .int .i64 y])),(49, .v (.agg #[.string s, .int .i64 x]))] ?_
     refine xqd 43 [.agg #[.string t, .int .i64 y], .agg #[.string s, .int .i64 x]] 50 (fun _:Unit=>.int .i64 (-σ)) _ (fun w R Q=>(ZaY t s y x _ (by omega) (by omega)).mono (fun _ _ h=>Zad h (by rw [Zde,hσ]))) (fun xx=>?_)
     refine xqg 2 [(52, .v (.int .i64 (IntKind.i64.wrap (0 - (σ)))))] ?_
     rw [show IntKind.i64.wrap (0 - (σ)) = -σ from by rw [IntKind.wrap_i64]; omega]
     refine xqg 1 [(53, .v (.bool (((-σ):Int) == (-σ))))] ?_
     rw [ZbC]
     refine xqg 4 [(55, .v (.bool true)),(57, .v (.bool ((σ:Int) == 0)))] ?_
     rw [show ((σ:Int) == 0)=true from beq_iff_eq.2 h0]
     refine xqg 1 [(58, .v (.agg #[.bool s11, .slice A11 l11 c11, .int .i64 x]))] ?_
     refine xqd 38 [.agg #[.bool s11, .slice A11 l11 c11, .int .i64 x]] 59 (fun _:Unit=>.agg #[.string ⟨(Lib.itoa (flM (bytes s))).toArray⟩, .int .i64 x]) _ (fun w R Q=>(Zbi s11 A11 l11 c11 (flM (bytes s)) x _ Q.1.1.1.1.1.1.1.1.1.2 (Zfo hv (by omega))).mono (fun _ _ h=>Zad h rfl)) (fun xx=>?_)
     refine xqg 1 [(60, .v (.agg #[.bool s12, .slice A12 l12 c12, .int .i64 y]))] ?_
     refine xqd 38 [.agg #[.bool s12, .slice A12 l12 c12, .int .i64 y]] 61 (fun _:Unit=>.agg #[.string ⟨(Lib.itoa (flM (bytes t))).toArray⟩, .int .i64 y]) _ (fun w R Q=>(Zbi s12 A12 l12 c12 (flM (bytes t)) y _ Q.1.1.1.1.1.1.1.1.1.2 (Zfo hv2 (by omega))).mono (fun _ _ h=>Zad h rfl)) (fun xx=>?_)
     refine xqj 62 (.bool true) (fun w Q=>ZdA (.tmp 59) (.tmp 61) 24 ⟨(Lib.itoa (flM (bytes s))).toArray⟩ ⟨(Lib.itoa (flM (bytes t))).toArray⟩ x y true (by kernel_rfl) (by kernel_rfl) (by kernel_rfl) (ZeB _ _ _ _ (decide_eq_true (hσ0.1 h0)))) ?_
     refine xqg 3 [(4, .v (.bool true))] ?_
     refine xz (xe (Zaa (Zaj ?_)))
     refine Zaf (v:=.bool true) (by kernel_rfl) (fun w' R Q=>?_)
     exact ⟨rfl,R⟩
    ·refine ZaC 6 (by kernel_rfl) (by kernel_rfl) Zah ?_
     refine xqg 1 [(34, .v (.agg #[.bool s11, .slice A11 l11 c11, .int .i64 x]))] ?_
     refine xqd 41 [.agg #[.bool s11, .slice A11 l11 c11, .int .i64 x]] 35 Zbf _ (fun w R Q=>(Zbn s11 A11 l11 c11 (flM (bytes s)) x _ Q.1.1.1.2 (Zd8 hv (by omega)) (by omega) (by omega)).mono (fun _ _=>Za4)) (fun xx=>?_)
     obtain ⟨s15,A15,l15,c15,t15,B15,m15,d15⟩:=xx
     refine xqg 1 [(36, .v (.agg #[.bool s12, .slice A12 l12 c12, .int .i64 y]))] ?_
     refine xqd 41 [.agg #[.bool s12, .slice A12 l12 c12, .int .i64 y]] 37 Zbf _ (fun w R Q=>(Zbn s12 A12 l12 c12 (flM (bytes t)) y _ Q.1.1.1.2 (Zd8 hv2 (by omega)) (by omega) (by omega)).mono (fun _ _=>Za4)) (fun xx=>?_)
     obtain ⟨s16,A16,l16,c16,t16,B16,m16,d16⟩:=xx
     refine xqd 28 [vR4 s15 A15 l15 c15 t15 B15 m15 d15,vR4 s16 A16 l16 c16 t16 B16 m16 d16] 38 (fun _:Unit=>.int .i64 σ) _ (fun w R Q=>(Zdc _ _ _ _ _ Q.1.2 Q.2 (by rw [← hq1]; exact ZbI (by omega) (by omega) (by omega)) (by rw [← hq2]; exact ZbI (by omega) (by omega) (by omega))).mono (fun _ _ h=>Zad h (by rw [hcmp]))) (fun xx=>?_)
     refine xqg 1 [(9, .v (.int .i64 σ))] ?_
     refine xz (xe (Zaa (Zac ?_)))
     refine ZcI 27 [0,1,3,3,15,3,63,127,255,511,511,2047,511,4607,16383,32767,65535,131071,262143,131071,655359,131071,3801087,7995391,16777215,33554431,67108863] (by kernel_rfl) (by kernel_rfl) Zah ?_
     refine xqd 14 [] 39 (fun _:Unit=>.bool true) _ (fun w R Q=>(ZbL _ Q.1.1.1.1.1.1.1.1.1).mono (fun _ _ h=>Zad h rfl)) (fun xx=>?_)
     refine xqg 3 [(40, .v (.bool true)),(41, .v (.agg #[.string s, .int .i64 x])),(42, .v (.agg #[.string t, .int .i64 y]))] ?_
     refine xqd 43 [.agg #[.string s, .int .i64 x], .agg #[.string t, .int .i64 y]] 43 (fun _:Unit=>.int .i64 σ) _ (fun w R Q=>(ZaY s t x y _ (by omega) (by omega)).mono (fun _ _ h=>Zad h (by rw [hσ]))) (fun xx=>?_)
     refine xqg 2 [(45, .v (.bool ((σ:Int) == σ)))] ?_
     rw [ZbC]
     refine xqg 4 [(47, .v (.bool true)),(48, .v (.agg #[.string t, .int .i64 y])),(49, .v (.agg #[.string s, .int .i64 x]))] ?_
     refine xqd 43 [.agg #[.string t, .int .i64 y], .agg #[.string s, .int .i64 x]] 50 (fun _:Unit=>.int .i64 (-σ)) _ (fun w R Q=>(ZaY t s y x _ (by omega) (by omega)).mono (fun _ _ h=>Zad h (by rw [Zde,hσ]))) (fun xx=>?_)
     refine xqg 2 [(52, .v (.int .i64 (IntKind.i64.wrap (0 - (σ)))))] ?_
     rw [show IntKind.i64.wrap (0 - (σ)) = -σ from by rw [IntKind.wrap_i64]; omega]
     refine xqg 1 [(53, .v (.bool (((-σ):Int) == (-σ))))] ?_
     rw [ZbC]
     refine xqg 4 [(55, .v (.bool true)),(57, .v (.bool ((σ:Int) == 0)))] ?_
     rw [show ((σ:Int) == 0)=false from beq_eq_false_iff_ne.2 h0]
     refine xqg 1 [(58, .v (.agg #[.bool s11, .slice A11 l11 c11, .int .i64 x]))] ?_
     refine xqd 38 [.agg #[.bool s11, .slice A11 l11 c11, .int .i64 x]] 59 (fun _:Unit=>.agg #[.string ⟨(Lib.itoa (flM (bytes s))).toArray⟩, .int .i64 x]) _ (fun w R Q=>(Zbi s11 A11 l11 c11 (flM (bytes s)) x _ Q.1.1.1.1.1.1.1.1.1.2 (Zfo hv (by omega))).mono (fun _ _ h=>Zad h rfl)) (fun xx=>?_)
     refine xqg 1 [(60, .v (.agg #[.bool s12, .slice A12 l12 c12, .int .i64 y]))] ?_
     refine xqd 38 [.agg #[.bool s12, .slice A12 l12 c12, .int .i64 y]] 61 (fun _:Unit=>.agg #[.string ⟨(Lib.itoa (flM (bytes t))).toArray⟩, .int .i64 y]) _ (fun w R Q=>(Zbi s12 A12 l12 c12 (flM (bytes t)) y _ Q.1.1.1.1.1.1.1.1.1.2 (Zfo hv2 (by omega))).mono (fun _ _ h=>Zad h rfl)) (fun xx=>?_)
     refine xqj 62 (.bool false) (fun w Q=>ZdA (.tmp 59) (.tmp 61) 24 ⟨(Lib.itoa (flM (bytes s))).toArray⟩ ⟨(Lib.itoa (flM (bytes t))).toArray⟩ x y false (by kernel_rfl) (by kernel_rfl) (by kernel_rfl) (ZeB _ _ _ _ (decide_eq_false (fun h=>h0 (hσ0.2 h))))) ?_
     refine xqg 3 [(4, .v (.bool true))] ?_
     refine xz (xe (Zaa (Zaj ?_)))
     refine Zaf (v:=.bool true) (by kernel_rfl) (fun w' R Q=>?_)
     exact ⟨rfl,R⟩
   ·refine xqc 35 [.agg #[.string t, .int .i64 y]] 23 (fun y:ShI × Int=>shRF false y.2 y.1) _ (fun w R Q=>(Zhu t y _ (by omega) hv2).mono (fun _ _=>ZiT)) (fun xx=>?_)
    obtain ⟨⟨s17,A17,l17,c17⟩,e17⟩:=xx
    refine xq 6 [(7, .p 7 0)] [(7,52,[.v (.bool s17), .v (.slice A17 l17 c17), .v (.int .i64 e17)])] ?_
    refine xe (Zaa (Zac (Zac (Zab (xq 1 [(26, .v (.agg #[.string s, .int .i64 x]))] [] ?_)))))
    refine xqc 42 [.agg #[.string s, .int .i64 x]] 27 (fun _:Unit=>.bool true) _ (fun w R Q=>(Zck s x _ (by omega)).mono (fun _ _ h=>Zad h (by rw [hv]))) (fun xx=>?_)
    refine xq 1 [(28, .v (.bool false))] [] ?_
    refine xe (Zaa (xb (Zap (Zaa (Zac (Zac (Zab (xq 1 [(30, .v (.agg #[.string t, .int .i64 y]))] [] ?_))))))))
    refine xqc 42 [.agg #[.string t, .int .i64 y]] 31 (fun _:Unit=>.bool false) _ (fun w R Q=>(Zck t y _ (by omega)).mono (fun _ _ h=>Zad h (by rw [Bool.eq_false_iff.2 hv2]))) (fun xx=>?_)
    refine xq 1 [(32, .v (.bool true))] [] ?_
    refine xe (Zaa (xa (Zab (xq 2 [] [(7,52,[.v (.bool false), .v (.slice none 0 0), .v (.int .i64 0)])] ?_))))
    refine xe (Zaa (Zac ?_))
    obtain ⟨σ,hσ⟩:∃ σ,cmpL (bytes s) (bytes t) x y=σ:=⟨_,rfl⟩
    have hσb:=@ZiY (bytes s) (bytes t) x y
    have hσ0:=@Zgy (bytes s) (bytes t) x y
    rw [hσ] at hσb hσ0
    have hza:zfl (bytes s) x=flM (bytes s):=if_pos hv
    have hea:efl (bytes s) x=x:=if_pos hv
    have hq1:exQ (zfl (bytes s) x) (efl (bytes s) x)=exQ (flM (bytes s)) x:=by rw [hza,hea]
    have hzb:zfl (bytes t) y=0:=if_neg hv2
    have heb:efl (bytes t) y=0:=if_neg hv2
    have hq2:exQ (zfl (bytes t) y) (efl (bytes t) y)=exQ (0) 0:=by rw [hzb,heb]
    have hcmp:(exQ (flM (bytes s)) x - exQ (0) 0).num.sign=σ:=by have h:=@ZiX (bytes s) (bytes t) x y; rw [hq1,hq2,hσ] at h; exact h
    rw [hza,hea,hzb,heb] at hσ0
    by_cases h0:σ=0
    ·refine ZaC 6 (by kernel_rfl) (by kernel_rfl) Zah ?_
     refine xqg 1 [(34, .v (.agg #[.bool s11, .slice A11 l11 c11, .int .i64 x]))] ?_
     refine xqd 41 [.agg #[.bool s11, .slice A11 l11 c11, .int .i64 x]] 35 Zbf _ (fun w R Q=>(Zbn s11 A11 l11 c11 (flM (bytes s)) x _ Q.1.1.1.2 (Zd8 hv (by omega)) (by omega) (by omega)).mono (fun _ _=>Za4)) (fun xx=>?_)
     obtain ⟨s18,A18,l18,c18,t18,B18,m18,d18⟩:=xx
     refine xqg 1 [(36, .v (.agg #[.bool false, .slice none 0 0, .int .i64 0]))] ?_
     refine xqd 41 [.agg #[.bool false, .slice none 0 0, .int .i64 0]] 37 Zbf _ (fun w R Q=>(Zbn false none 0 0 (0) 0 _ (Zai.nil _) (Zcl _) (by omega) (by omega)).mono (fun _ _=>Za4)) (fun xx=>?_)
     obtain ⟨s19,A19,l19,c19,t19,B19,m19,d19⟩:=xx
     refine xqd 28 [vR4 s18 A18 l18 c18 t18 B18 m18 d18,vR4 s19 A19 l19 c19 t19 B19 m19 d19] 38 (fun _:Unit=>.int .i64 σ) _ (fun w R Q=>(Zdc _ _ _ _ _ Q.1.2 Q.2 (by rw [← hq1]; exact ZbI (by omega) (by omega) (by omega)) (by rw [← hq2]; exact ZbI (by omega) (by omega) (by omega))).mono (fun _ _ h=>Zad h (by rw [hcmp]))) (fun xx=>?_)
     refine xqg 1 [(9, .v (.int .i64 σ))] ?_
     refine xz (xe (Zaa (Zac ?_)))
     refine ZcI 27 [0,1,3,3,15,3,63,127,255,511,511,2047,511,4607,16383,32767,65535,131071,262143,131071,655359,131071,3801087,7995391,16777215,33554431,67108863] (by kernel_rfl) (by kernel_rfl) Zah ?_
     refine xqd 14 [] 39 (fun _:Unit=>.bool true) _ (fun w R Q=>(ZbL _ Q.1.1.1.1.1.1.1.1.1).mono (fun _ _ h=>Zad h rfl)) (fun xx=>?_)
     refine xqg 3 [(40, .v (.bool true)),(41, .v (.agg #[.string s, .int .i64 x])),(42, .v (.agg #[.string t, .int .i64 y]))] ?_
     refine xqd 43 [.agg #[.string s, .int .i64 x], .agg #[.string t, .int .i64 y]] 43 (fun _:Unit=>.int .i64 σ) _ (fun w R Q=>(ZaY s t x y _ (by omega) (by omega)).mono (fun _ _ h=>Zad h (by rw [hσ]))) (fun xx=>?_)
     refine xqg 2 [(45, .v (.bool ((σ:Int) == σ)))] ?_
     rw [ZbC]
     refine xqg 4 [(47, .v (.bool true)),(48, .v (.agg #[.string t, .int .i64 y])),(49, .v (.agg #[.string s, .int .i64 x]))] ?_
     refine xqd 43 [.agg #[.string t, .int .i64 y], .agg #[.string s, .int .i64 x]] 50 (fun _:Unit=>.int .i64 (-σ)) _ (fun w R Q=>(ZaY t s y x _ (by omega) (by omega)).mono (fun _ _ h=>Zad h (by rw [Zde,hσ]))) (fun xx=>?_)
     refine xqg 2 [(52, .v (.int .i64 (IntKind.i64.wrap (0 - (σ)))))] ?_
     rw [show IntKind.i64.wrap (0 - (σ)) = -σ from by rw [IntKind.wrap_i64]; omega]
     refine xqg 1 [(53, .v (.bool (((-σ):Int) == (-σ))))] ?_
     rw [ZbC]
     refine xqg 4 [(55, .v (.bool true)),(57, .v (.bool ((σ:Int) == 0)))] ?_
     rw [show ((σ:Int) == 0)=true from beq_iff_eq.2 h0]
     refine xqg 1 [(58, .v (.agg #[.bool s11, .slice A11 l11 c11, .int .i64 x]))] ?_
     refine xqd 38 [.agg #[.bool s11, .slice A11 l11 c11, .int .i64 x]] 59 (fun _:Unit=>.agg #[.string ⟨(Lib.itoa (flM (bytes s))).toArray⟩, .int .i64 x]) _ (fun w R Q=>(Zbi s11 A11 l11 c11 (flM (bytes s)) x _ Q.1.1.1.1.1.1.1.1.1.2 (Zfo hv (by omega))).mono (fun _ _ h=>Zad h rfl)) (fun xx=>?_)
     refine xqg 1 [(60, .v (.agg #[.bool false, .slice none 0 0, .int .i64 0]))] ?_
     refine xqd 38 [.agg #[.bool false, .slice none 0 0, .int .i64 0]] 61 (fun _:Unit=>.agg #[.string ⟨(Lib.itoa (0)).toArray⟩, .int .i64 0]) _ (fun w R Q=>(Zbi false none 0 0 (0) 0 _ (Zai.nil _) (Zcl _)).mono (fun _ _ h=>Zad h rfl)) (fun xx=>?_)
     refine xqj 62 (.bool true) (fun w Q=>ZdA (.tmp 59) (.tmp 61) 24 ⟨(Lib.itoa (flM (bytes s))).toArray⟩ ⟨(Lib.itoa (0)).toArray⟩ x 0 true (by kernel_rfl) (by kernel_rfl) (by kernel_rfl) (ZeB _ _ _ _ (decide_eq_true (hσ0.1 h0)))) ?_
     refine xqg 3 [(4, .v (.bool true))] ?_
     refine xz (xe (Zaa (Zaj ?_)))
     refine Zaf (v:=.bool true) (by kernel_rfl) (fun w' R Q=>?_)
     exact ⟨rfl,R⟩
    ·refine ZaC 6 (by kernel_rfl) (by kernel_rfl) Zah ?_
     refine xqg 1 [(34, .v (.agg #[.bool s11, .slice A11 l11 c11, .int .i64 x]))] ?_
     refine xqd 41 [.agg #[.bool s11, .slice A11 l11 c11, .int .i64 x]] 35 Zbf _ (fun w R Q=>(Zbn s11 A11 l11 c11 (flM (bytes s)) x _ Q.1.1.1.2 (Zd8 hv (by omega)) (by omega) (by omega)).mono (fun _ _=>Za4)) (fun xx=>?_)
     obtain ⟨s20,A20,l20,c20,t20,B20,m20,d20⟩:=xx
     refine xqg 1 [(36, .v (.agg #[.bool false, .slice none 0 0, .int .i64 0]))] ?_
     refine xqd 41 [.agg #[.bool false, .slice none 0 0, .int .i64 0]] 37 Zbf _ (fun w R Q=>(Zbn false none 0 0 (0) 0 _ (Zai.nil _) (Zcl _) (by omega) (by omega)).mono (fun _ _=>Za4)) (fun xx=>?_)
     obtain ⟨s21,A21,l21,c21,t21,B21,m21,d21⟩:=xx
     refine xqd 28 [vR4 s20 A20 l20 c20 t20 B20 m20 d20,vR4 s21 A21 l21 c21 t21 B21 m21 d21] 38 (fun _:Unit=>.int .i64 σ) _ (fun w R Q=>(Zdc _ _ _ _ _ Q.1.2 Q.2 (by rw [← hq1]; exact ZbI (by omega) (by omega) (by omega)) (by rw [← hq2]; exact ZbI (by omega) (by omega) (by omega))).mono (fun _ _ h=>Zad h (by rw [hcmp]))) (fun xx=>?_)
     refine xqg 1 [(9, .v (.int .i64 σ))] ?_
     refine xz (xe (Zaa (Zac ?_)))
     refine ZcI 27 [0,1,3,3,15,3,63,127,255,511,511,2047,511,4607,16383,32767,65535,131071,262143,131071,655359,131071,3801087,7995391,16777215,33554431,67108863] (by kernel_rfl) (by kernel_rfl) Zah ?_
     refine xqd 14 [] 39 (fun _:Unit=>.bool true) _ (fun w R Q=>(ZbL _ Q.1.1.1.1.1.1.1.1.1).mono (fun _ _ h=>Zad h rfl)) (fun xx=>?_)
     refine xqg 3 [(40, .v (.bool true)),(41, .v (.agg #[.string s, .int .i64 x])),(42, .v (.agg #[.string t, .int .i64 y]))] ?_
     refine xqd 43 [.agg #[.string s, .int .i64 x], .agg #[.string t, .int .i64 y]] 43 (fun _:Unit=>.int .i64 σ) _ (fun w R Q=>(ZaY s t x y _ (by omega) (by omega)).mono (fun _ _ h=>Zad h (by rw [hσ]))) (fun xx=>?_)
     refine xqg 2 [(45, .v (.bool ((σ:Int) == σ)))] ?_
     rw [ZbC]
     refine xqg 4 [(47, .v (.bool true)),(48, .v (.agg #[.string t, .int .i64 y])),(49, .v (.agg #[.string s, .int .i64 x]))] ?_
     refine xqd 43 [.agg #[.string t, .int .i64 y], .agg #[.string s, .int .i64 x]] 50 (fun _:Unit=>.int .i64 (-σ)) _ (fun w R Q=>(ZaY t s y x _ (by omega) (by omega)).mono (fun _ _ h=>Zad h (by rw [Zde,hσ]))) (fun xx=>?_)
     refine xqg 2 [(52, .v (.int .i64 (IntKind.i64.wrap (0 - (σ)))))] ?_
     rw [show IntKind.i64.wrap (0 - (σ)) = -σ from by rw [IntKind.wrap_i64]; omega]
     refine xqg 1 [(53, .v (.bool (((-σ):Int) == (-σ))))] ?_
     rw [ZbC]
     refine xqg 4 [(55, .v (.bool true)),(57, .v (.bool ((σ:Int) == 0)))] ?_
     rw [show ((σ:Int) == 0)=false from beq_eq_false_iff_ne.2 h0]
     refine xqg 1 [(58, .v (.agg #[.bool s11, .slice A11 l11 c11, .int .i64 x]))] ?_
     refine xqd 38 [.agg #[.bool s11, .slice A11 l11 c11, .int .i64 x]] 59 (fun _:Unit=>.agg #[.string ⟨(Lib.itoa (flM (bytes s))).toArray⟩, .int .i64 x]) _ (fun w R Q=>(Zbi s11 A11 l11 c11 (flM (bytes s)) x _ Q.1.1.1.1.1.1.1.1.1.2 (Zfo hv (by omega))).mono (fun _ _ h=>Zad h rfl)) (fun xx=>?_)
     refine xqg 1 [(60, .v (.agg #[.bool false, .slice none 0 0, .int .i64 0]))] ?_
     refine xqd 38 [.agg #[.bool false, .slice none 0 0, .int .i64 0]] 61 (fun _:Unit=>.agg #[.string ⟨(Lib.itoa (0)).toArray⟩, .int .i64 0]) _ (fun w R Q=>(Zbi false none 0 0 (0) 0 _ (Zai.nil _) (Zcl _)).mono (fun _ _ h=>Zad h rfl)) (fun xx=>?_)
     refine xqj 62 (.bool false) (fun w Q=>ZdA (.tmp 59) (.tmp 61) 24 ⟨(Lib.itoa (flM (bytes s))).toArray⟩ ⟨(Lib.itoa (0)).toArray⟩ x 0 false (by kernel_rfl) (by kernel_rfl) (by kernel_rfl) (ZeB _ _ _ _ (decide_eq_false (fun h=>h0 (hσ0.2 h))))) ?_
     refine xqg 3 [(4, .v (.bool true))] ?_
     refine xz (xe (Zaa (Zaj ?_)))
     refine Zaf (v:=.bool true) (by kernel_rfl) (fun w' R Q=>?_)
     exact ⟨rfl,R⟩
  ·refine xqc 35 [.agg #[.string s, .int .i64 x]] 18 (fun y:ShI × Int=>shRF false y.2 y.1) _ (fun w R Q=>(Zhu s x _ (by omega) hv).mono (fun _ _=>ZiT)) (fun xx=>?_)
   obtain ⟨⟨s22,A22,l22,c22⟩,e22⟩:=xx
   refine xq 6 [(5, .p 5 0)] [(5,52,[.v (.bool s22), .v (.slice A22 l22 c22), .v (.int .i64 e22)])] ?_
   refine xe (Zaa (Zac (Zab (xq 1 [(22, .v (.agg #[.string t, .int .i64 y]))] [] ?_))))
   by_cases hv2:fvB (bytes t) y=true
   ·refine xqc 35 [.agg #[.string t, .int .i64 y]] 23 (shRF true y) _ (fun w R Q=>(Zht t y _ _ (by omega) hv2 rfl).mono (fun _ _=>ZiS)) (fun xx=>?_)
    obtain ⟨s23,A23,l23,c23⟩:=xx
    refine xq 6 [(7, .p 7 0)] [(7,52,[.v (.bool s23), .v (.slice A23 l23 c23), .v (.int .i64 y)])] ?_
    refine xe (Zaa (Zac (Zac (Zab (xq 1 [(26, .v (.agg #[.string s, .int .i64 x]))] [] ?_)))))
    refine xqc 42 [.agg #[.string s, .int .i64 x]] 27 (fun _:Unit=>.bool false) _ (fun w R Q=>(Zck s x _ (by omega)).mono (fun _ _ h=>Zad h (by rw [Bool.eq_false_iff.2 hv]))) (fun xx=>?_)
    refine xq 1 [(28, .v (.bool true))] [] ?_
    refine xe (Zaa (xa (Zab (xq 2 [] [(5,52,[.v (.bool false), .v (.slice none 0 0), .v (.int .i64 0)])] ?_))))
    refine xe (Zaa (Zac (Zac (Zab (xq 1 [(30, .v (.agg #[.string t, .int .i64 y]))] [] ?_)))))
    refine xqc 42 [.agg #[.string t, .int .i64 y]] 31 (fun _:Unit=>.bool true) _ (fun w R Q=>(Zck t y _ (by omega)).mono (fun _ _ h=>Zad h (by rw [hv2]))) (fun xx=>?_)
    refine xq 1 [(32, .v (.bool false))] [] ?_
    refine xe (Zaa (xb (Zap (Zaa (Zac ?_)))))
    obtain ⟨σ,hσ⟩:∃ σ,cmpL (bytes s) (bytes t) x y=σ:=⟨_,rfl⟩
    have hσb:=@ZiY (bytes s) (bytes t) x y
    have hσ0:=@Zgy (bytes s) (bytes t) x y
    rw [hσ] at hσb hσ0
    have hza:zfl (bytes s) x=0:=if_neg hv
    have hea:efl (bytes s) x=0:=if_neg hv
    have hq1:exQ (zfl (bytes s) x) (efl (bytes s) x)=exQ (0) 0:=by rw [hza,hea]
    have hzb:zfl (bytes t) y=flM (bytes t):=if_pos hv2
    have heb:efl (bytes t) y=y:=if_pos hv2
    have hq2:exQ (zfl (bytes t) y) (efl (bytes t) y)=exQ (flM (bytes t)) y:=by rw [hzb,heb]
    have hcmp:(exQ (0) 0 - exQ (flM (bytes t)) y).num.sign=σ:=by have h:=@ZiX (bytes s) (bytes t) x y; rw [hq1,hq2,hσ] at h; exact h
    rw [hza,hea,hzb,heb] at hσ0
    by_cases h0:σ=0
    ·refine ZaC 6 (by kernel_rfl) (by kernel_rfl) Zah ?_
     refine xqg 1 [(34, .v (.agg #[.bool false, .slice none 0 0, .int .i64 0]))] ?_
     refine xqd 41 [.agg #[.bool false, .slice none 0 0, .int .i64 0]] 35 Zbf _ (fun w R Q=>(Zbn false none 0 0 (0) 0 _ (Zai.nil _) (Zcl _) (by omega) (by omega)).mono (fun _ _=>Za4)) (fun xx=>?_)
     obtain ⟨s24,A24,l24,c24,t24,B24,m24,d24⟩:=xx
     refine xqg 1 [(36, .v (.agg #[.bool s23, .slice A23 l23 c23, .int .i64 y]))] ?_
     refine xqd 41 [.agg #[.bool s23, .slice A23 l23 c23, .int .i64 y]] 37 Zbf _ (fun w R Q=>(Zbn s23 A23 l23 c23 (flM (bytes t)) y _ Q.1.1.1.2 (Zd8 hv2 (by omega)) (by omega) (by omega)).mono (fun _ _=>Za4)) (fun xx=>?_)
     obtain ⟨s25,A25,l25,c25,t25,B25,m25,d25⟩:=xx
     refine xqd 28 [vR4 s24 A24 l24 c24 t24 B24 m24 d24,vR4 s25 A25 l25 c25 t25 B25 m25 d25] 38 (fun _:Unit=>.int .i64 σ) _ (fun w R Q=>(Zdc _ _ _ _ _ Q.1.2 Q.2 (by rw [← hq1]; exact ZbI (by omega) (by omega) (by omega)) (by rw [← hq2]; exact ZbI (by omega) (by omega) (by omega))).mono (fun _ _ h=>Zad h (by rw [hcmp]))) (fun xx=>?_)
     refine xqg 1 [(9, .v (.int .i64 σ))] ?_
     refine xz (xe (Zaa (Zac ?_)))
     refine ZcI 27 [0,1,3,3,15,3,63,127,255,511,511,2047,511,4607,16383,32767,65535,131071,262143,131071,655359,131071,3801087,7995391,16777215,33554431,67108863] (by kernel_rfl) (by kernel_rfl) Zah ?_
     refine xqd 14 [] 39 (fun _:Unit=>.bool true) _ (fun w R Q=>(ZbL _ Q.1.1.1.1.1.1.1.1.1).mono (fun _ _ h=>Zad h rfl)) (fun xx=>?_)
     refine xqg 3 [(40, .v (.bool true)),(41, .v (.agg #[.string s, .int .i64 x])),(42, .v (.agg #[.string t, .int .i64 y]))] ?_
     refine xqd 43 [.agg #[.string s, .int .i64 x], .agg #[.string t, .int .i64 y]] 43 (fun _:Unit=>.int .i64 σ) _ (fun w R Q=>(ZaY s t x y _ (by omega) (by omega)).mono (fun _ _ h=>Zad h (by rw [hσ]))) (fun xx=>?_)
     refine xqg 2 [(45, .v (.bool ((σ:Int) == σ)))] ?_
     rw [ZbC]
     refine xqg 4 [(47, .v (.bool true)),(48, .v (.agg #[.string t, .int .i64 y])),(49, .v (.agg #[.string s, .int .i64 x]))] ?_
     refine xqd 43 [.agg #[.string t, .int .i64 y], .agg #[.string s, .int .i64 x]] 50 (fun _:Unit=>.int .i64 (-σ)) _ (fun w R Q=>(ZaY t s y x _ (by omega) (by omega)).mono (fun _ _ h=>Zad h (by rw [Zde,hσ]))) (fun xx=>?_)
     refine xqg 2 [(52, .v (.int .i64 (IntKind.i64.wrap (0 - (σ)))))] ?_
     rw [show IntKind.i64.wrap (0 - (σ)) = -σ from by rw [IntKind.wrap_i64]; omega]
     refine xqg 1 [(53, .v (.bool (((-σ):Int) == (-σ))))] ?_
     rw [ZbC]
     refine xqg 4 [(55, .v (.bool true)),(57, .v (.bool ((σ:Int) == 0)))] ?_
     rw [show ((σ:Int) == 0)=true from beq_iff_eq.2 h0]
     refine xqg 1 [(58, .v (.agg #[.bool false, .slice none 0 0, .int .i64 0]))] ?_
     refine xqd 38 [.agg #[.bool false, .slice none 0 0, .int .i64 0]] 59 (fun _:Unit=>.agg #[.string ⟨(Lib.itoa (0)).toArray⟩, .int .i64 0]) _ (fun w R Q=>(Zbi false none 0 0 (0) 0 _ (Zai.nil _) (Zcl _)).mono (fun _ _ h=>Zad h rfl)) (fun xx=>?_)
     refine xqg 1 [(60, .v (.agg #[.bool s23, .slice A23 l23 c23, .int .i64 y]))] ?_
     refine xqd 38 [.agg #[.bool s23, .slice A23 l23 c23, .int .i64 y]] 61 (fun _:Unit=>.agg #[.string ⟨(Lib.itoa (flM (bytes t))).toArray⟩, .int .i64 y]) _ (fun w R Q=>(Zbi s23 A23 l23 c23 (flM (bytes t)) y _ Q.1.1.1.1.1.1.1.1.1.2 (Zfo hv2 (by omega))).mono (fun _ _ h=>Zad h rfl)) (fun xx=>?_)
     refine xqj 62 (.bool true) (fun w Q=>ZdA (.tmp 59) (.tmp 61) 24 ⟨(Lib.itoa (0)).toArray⟩ ⟨(Lib.itoa (flM (bytes t))).toArray⟩ 0 y true (by kernel_rfl) (by kernel_rfl) (by kernel_rfl) (ZeB _ _ _ _ (decide_eq_true (hσ0.1 h0)))) ?_
     refine xqg 3 [(4, .v (.bool true))] ?_
     refine xz (xe (Zaa (Zaj ?_)))
     refine Zaf (v:=.bool true) (by kernel_rfl) (fun w' R Q=>?_)
     exact ⟨rfl,R⟩
    ·refine ZaC 6 (by kernel_rfl) (by kernel_rfl) Zah ?_
     refine xqg 1 [(34, .v (.agg #[.bool false, .slice none 0 0, .int .i64 0]))] ?_
     refine xqd 41 [.agg #[.bool false, .slice none 0 0, .int .i64 0]] 35 Zbf _ (fun w R Q=>(Zbn false none 0 0 (0) 0 _ (Zai.nil _) (Zcl _) (by omega) (by omega)).mono (fun _ _=>Za4)) (fun xx=>?_)
     obtain ⟨s26,A26,l26,c26,t26,B26,m26,d26⟩:=xx
     refine xqg 1 [(36, .v (.agg #[.bool s23, .slice A23 l23 c23, .int .i64 y]))] ?_
     refine xqd 41 [.agg #[.bool s23, .slice A23 l23 c23, .int .i64 y]] 37 Zbf _ (fun w R Q=>(Zbn s23 A23 l23 c23 (flM (bytes t)) y _ Q.1.1.1.2 (Zd8 hv2 (by omega)) (by omega) (by omega)).mono (fun _ _=>Za4)) (fun xx=>?_)
     obtain ⟨s27,A27,l27,c27,t27,B27,m27,d27⟩:=xx
     refine xqd 28 [vR4 s26 A26 l26 c26 t26 B26 m26 d26,vR4 s27 A27 l27 c27 t27 B27 m27 d27] 38 (fun _:Unit=>.int .i64 σ) _ (fun w R Q=>(Zdc _ _ _ _ _ Q.1.2 Q.2 (by rw [← hq1]; exact ZbI (by omega) (by omega) (by omega)) (by rw [← hq2]; exact ZbI (by omega) (by omega) (by omega))).mono (fun _ _ h=>Zad h (by rw [hcmp]))) (fun xx=>?_)
     refine xqg 1 [(9, .v (.int .i64 σ))] ?_
     refine xz (xe (Zaa (Zac ?_)))
     refine ZcI 27 [0,1,3,3,15,3,63,127,255,511,511,2047,511,4607,16383,32767,65535,131071,262143,131071,655359,131071,3801087,7995391,16777215,33554431,67108863] (by kernel_rfl) (by kernel_rfl) Zah ?_
     refine xqd 14 [] 39 (fun _:Unit=>.bool true) _ (fun w R Q=>(ZbL _ Q.1.1.1.1.1.1.1.1.1).mono (fun _ _ h=>Zad h rfl)) (fun xx=>?_)
     refine xqg 3 [(40, .v (.bool true)),(41, .v (.agg #[.string s, .int .i64 x])),(42, .v (.agg #[.string t, .int .i64 y]))] ?_
     refine xqd 43 [.agg #[.string s, .int .i64 x], .agg #[.string t, .int .i64 y]] 43 (fun _:Unit=>.int .i64 σ) _ (fun w R Q=>(ZaY s t x y _ (by omega) (by omega)).mono (fun _ _ h=>Zad h (by rw [hσ]))) (fun xx=>?_)
     refine xqg 2 [(45, .v (.bool ((σ:Int) == σ)))] ?_
     rw [ZbC]
     refine xqg 4 [(47, .v (.bool true)),(48, .v (.agg #[.string t, .int .i64 y])),(49, .v (.agg #[.string s, .int .i64 x]))] ?_
     refine xqd 43 [.agg #[.string t, .int .i64 y], .agg #[.string s, .int .i64 x]] 50 (fun _:Unit=>.int .i64 (-σ)) _ (fun w R Q=>(ZaY t s y x _ (by omega) (by omega)).mono (fun _ _ h=>Zad h (by rw [Zde,hσ]))) (fun xx=>?_)
     refine xqg 2 [(52, .v (.int .i64 (IntKind.i64.wrap (0 - (σ)))))] ?_
     rw [show IntKind.i64.wrap (0 - (σ)) = -σ from by rw [IntKind.wrap_i64]; omega]
     refine xqg 1 [(53, .v (.bool (((-σ):Int) == (-σ))))] ?_
     rw [ZbC]
     refine xqg 4 [(55, .v (.bool true)),(57, .v (.bool ((σ:Int) == 0)))] ?_
     rw [show ((σ:Int) == 0)=false from beq_eq_false_iff_ne.2 h0]
     refine xqg 1 [(58, .v (.agg #[.bool false, .slice none 0 0, .int .i64 0]))] ?_
     refine xqd 38 [.agg #[.bool false, .slice none 0 0, .int .i64 0]] 59 (fun _:Unit=>.agg #[.string ⟨(Lib.itoa (0)).toArray⟩, .int .i64 0]) _ (fun w R Q=>(Zbi false none 0 0 (0) 0 _ (Zai.nil _) (Zcl _)).mono (fun _ _ h=>Zad h rfl)) (fun xx=>?_)
     refine xqg 1 [(60, .v (.agg #[.bool s23, .slice A23 l23 c23, .int .i64 y]))] ?_
     refine xqd 38 [.agg #[.bool s23, .slice A23 l23 c23, .int .i64 y]] 61 (fun _:Unit=>.agg #[.string ⟨(Lib.itoa (flM (bytes t))).toArray⟩, .int .i64 y]) _ (fun w R Q=>(Zbi s23 A23 l23 c23 (flM (bytes t)) y _ Q.1.1.1.1.1.1.1.1.1.2 (Zfo hv2 (by omega))).mono (fun _ _ h=>Zad h rfl)) (fun xx=>?_)
     refine xqj 62 (.bool false) (fun w Q=>ZdA (.tmp 59) (.tmp 61) 24 ⟨(Lib.itoa (0)).toArray⟩ ⟨(Lib.itoa (flM (bytes t))).toArray⟩ 0 y false (by kernel_rfl) (by kernel_rfl) (by kernel_rfl) (ZeB _ _ _ _ (decide_eq_false (fun h=>h0 (hσ0.2 h))))) ?_
     refine xqg 3 [(4, .v (.bool true))] ?_
     refine xz (xe (Zaa (Zaj ?_)))
     refine Zaf (v:=.bool true) (by kernel_rfl) (fun w' R Q=>?_)
     exact ⟨rfl,R⟩
   ·refine xqc 35 [.agg #[.string t, .int .i64 y]] 23 (fun y:ShI × Int=>shRF false y.2 y.1) _ (fun w R Q=>(Zhu t y _ (by omega) hv2).mono (fun _ _=>ZiT)) (fun xx=>?_)
    obtain ⟨⟨s28,A28,l28,c28⟩,e28⟩:=xx
    refine xq 6 [(7, .p 7 0)] [(7,52,[.v (.bool s28), .v (.slice A28 l28 c28), .v (.int .i64 e28)])] ?_
    refine xe (Zaa (Zac (Zac (Zab (xq 1 [(26, .v (.agg #[.string s, .int .i64 x]))] [] ?_)))))
    refine xqc 42 [.agg #[.string s, .int .i64 x]] 27 (fun _:Unit=>.bool false) _ (fun w R Q=>(Zck s x _ (by omega)).mono (fun _ _ h=>Zad h (by rw [Bool.eq_false_iff.2 hv]))) (fun xx=>?_)
    refine xq 1 [(28, .v (.bool true))] [] ?_
    refine xe (Zaa (xa (Zab (xq 2 [] [(5,52,[.v (.bool false), .v (.slice none 0 0), .v (.int .i64 0)])] ?_))))
    refine xe (Zaa (Zac (Zac (Zab (xq 1 [(30, .v (.agg #[.string t, .int .i64 y]))] [] ?_)))))
    refine xqc 42 [.agg #[.string t, .int .i64 y]] 31 (fun _:Unit=>.bool false) _ (fun w R Q=>(Zck t y _ (by omega)).mono (fun _ _ h=>Zad h (by rw [Bool.eq_false_iff.2 hv2]))) (fun xx=>?_)
    refine xq 1 [(32, .v (.bool true))] [] ?_
    refine xe (Zaa (xa (Zab (xq 2 [] [(7,52,[.v (.bool false), .v (.slice none 0 0), .v (.int .i64 0)])] ?_))))
    refine xe (Zaa (Zac ?_))
    obtain ⟨σ,hσ⟩:∃ σ,cmpL (bytes s) (bytes t) x y=σ:=⟨_,rfl⟩
    have hσb:=@ZiY (bytes s) (bytes t) x y
    have hσ0:=@Zgy (bytes s) (bytes t) x y
    rw [hσ] at hσb hσ0
    have hza:zfl (bytes s) x=0:=if_neg hv
    have hea:efl (bytes s) x=0:=if_neg hv
    have hq1:exQ (zfl (bytes s) x) (efl (bytes s) x)=exQ (0) 0:=by rw [hza,hea]
    have hzb:zfl (bytes t) y=0:=if_neg hv2
    have heb:efl (bytes t) y=0:=if_neg hv2
    have hq2:exQ (zfl (bytes t) y) (efl (bytes t) y)=exQ (0) 0:=by rw [hzb,heb]
    have hcmp:(exQ (0) 0 - exQ (0) 0).num.sign=σ:=by have h:=@ZiX (bytes s) (bytes t) x y; rw [hq1,hq2,hσ] at h; exact h
    rw [hza,hea,hzb,heb] at hσ0
    by_cases h0:σ=0
    ·refine ZaC 6 (by kernel_rfl) (by kernel_rfl) Zah ?_
     refine xqg 1 [(34, .v (.agg #[.bool false, .slice none 0 0, .int .i64 0]))] ?_
     refine xqd 41 [.agg #[.bool false, .slice none 0 0, .int .i64 0]] 35 Zbf _ (fun w R Q=>(Zbn false none 0 0 (0) 0 _ (Zai.nil _) (Zcl _) (by omega) (by omega)).mono (fun _ _=>Za4)) (fun xx=>?_)
     obtain ⟨s29,A29,l29,c29,t29,B29,m29,d29⟩:=xx
     refine xqg 1 [(36, .v (.agg #[.bool false, .slice none 0 0, .int .i64 0]))] ?_
     refine xqd 41 [.agg #[.bool false, .slice none 0 0, .int .i64 0]] 37 Zbf _ (fun w R Q=>(Zbn false none 0 0 (0) 0 _ (Zai.nil _) (Zcl _) (by omega) (by omega)).mono (fun _ _=>Za4)) (fun xx=>?_)
     obtain ⟨s30,A30,l30,c30,t30,B30,m30,d30⟩:=xx
     refine xqd 28 [vR4 s29 A29 l29 c29 t29 B29 m29 d29,vR4 s30 A30 l30 c30 t30 B30 m30 d30] 38 (fun _:Unit=>.int .i64 σ) _ (fun w R Q=>(Zdc _ _ _ _ _ Q.1.2 Q.2 (by rw [← hq1]; exact ZbI (by omega) (by omega) (by omega)) (by rw [← hq2]; exact ZbI (by omega) (by omega) (by omega))).mono (fun _ _ h=>Zad h (by rw [hcmp]))) (fun xx=>?_)
     refine xqg 1 [(9, .v (.int .i64 σ))] ?_
     refine xz (xe (Zaa (Zac ?_)))
     refine ZcI 27 [0,1,3,3,15,3,63,127,255,511,511,2047,511,4607,16383,32767,65535,131071,262143,131071,655359,131071,3801087,7995391,16777215,33554431,67108863] (by kernel_rfl) (by kernel_rfl) Zah ?_
     refine xqd 14 [] 39 (fun _:Unit=>.bool true) _ (fun w R Q=>(ZbL _ Q.1.1.1.1.1.1.1.1.1).mono (fun _ _ h=>Zad h rfl)) (fun xx=>?_)
     refine xqg 3 [(40, .v (.bool true)),(41, .v (.agg #[.string s, .int .i64 x])),(42, .v (.agg #[.string t, .int .i64 y]))] ?_
     refine xqd 43 [.agg #[.string s, .int .i64 x], .agg #[.string t, .int .i64 y]] 43 (fun _:Unit=>.int .i64 σ) _ (fun w R Q=>(ZaY s t x y _ (by omega) (by omega)).mono (fun _ _ h=>Zad h (by rw [hσ]))) (fun xx=>?_)
     refine xqg 2 [(45, .v (.bool ((σ:Int) == σ)))] ?_
     rw [ZbC]
     refine xqg 4 [(47, .v (.bool true)),(48, .v (.agg #[.string t, .int .i64 y])),(49, .v (.agg #[.string s, .int .i64 x]))] ?_
     refine xqd 43 [.agg #[.string t, .int .i64 y], .agg #[.string s, .int .i64 x]] 50 (fun _:Unit=>.int .i64 (-σ)) _ (fun w R Q=>(ZaY t s y x _ (by omega) (by omega)).mono (fun _ _ h=>Zad h (by rw [Zde,hσ]))) (fun xx=>?_)
     refine xqg 2 [(52, .v (.int .i64 (IntKind.i64.wrap (0 - (σ)))))] ?_
     rw [show IntKind.i64.wrap (0 - (σ)) = -σ from by rw [IntKind.wrap_i64]; omega]
     refine xqg 1 [(53, .v (.bool (((-σ):Int) == (-σ))))] ?_
     rw [ZbC]
     refine xqg 4 [(55, .v (.bool true)),(57, .v (.bool ((σ:Int) == 0)))] ?_
     rw [show ((σ:Int) == 0)=true from beq_iff_eq.2 h0]
     refine xqg 1 [(58, .v (.agg #[.bool false, .slice none 0 0, .int .i64 0]))] ?_
     refine xqd 38 [.agg #[.bool false, .slice none 0 0, .int .i64 0]] 59 (fun _:Unit=>.agg #[.string ⟨(Lib.itoa (0)).toArray⟩, .int .i64 0]) _ (fun w R Q=>(Zbi false none 0 0 (0) 0 _ (Zai.nil _) (Zcl _)).mono (fun _ _ h=>Zad h rfl)) (fun xx=>?_)
     refine xqg 1 [(60, .v (.agg #[.bool false, .slice none 0 0, .int .i64 0]))] ?_
     refine xqd 38 [.agg #[.bool false, .slice none 0 0, .int .i64 0]] 61 (fun _:Unit=>.agg #[.string ⟨(Lib.itoa (0)).toArray⟩, .int .i64 0]) _ (fun w R Q=>(Zbi false none 0 0 (0) 0 _ (Zai.nil _) (Zcl _)).mono (fun _ _ h=>Zad h rfl)) (fun xx=>?_)
     refine xqj 62 (.bool true) (fun w Q=>ZdA (.tmp 59) (.tmp 61) 24 ⟨(Lib.itoa (0)).toArray⟩ ⟨(Lib.itoa (0)).toArray⟩ 0 0 true (by kernel_rfl) (by kernel_rfl) (by kernel_rfl) (ZeB _ _ _ _ (decide_eq_true (hσ0.1 h0)))) ?_
     refine xqg 3 [(4, .v (.bool true))] ?_
     refine xz (xe (Zaa (Zaj ?_)))
     refine Zaf (v:=.bool true) (by kernel_rfl) (fun w' R Q=>?_)
     exact ⟨rfl,R⟩
    ·refine ZaC 6 (by kernel_rfl) (by kernel_rfl) Zah ?_
     refine xqg 1 [(34, .v (.agg #[.bool false, .slice none 0 0, .int .i64 0]))] ?_
     refine xqd 41 [.agg #[.bool false, .slice none 0 0, .int .i64 0]] 35 Zbf _ (fun w R Q=>(Zbn false none 0 0 (0) 0 _ (Zai.nil _) (Zcl _) (by omega) (by omega)).mono (fun _ _=>Za4)) (fun xx=>?_)
     obtain ⟨s31,A31,l31,c31,t31,B31,m31,d31⟩:=xx
     refine xqg 1 [(36, .v (.agg #[.bool false, .slice none 0 0, .int .i64 0]))] ?_
     refine xqd 41 [.agg #[.bool false, .slice none 0 0, .int .i64 0]] 37 Zbf _ (fun w R Q=>(Zbn false none 0 0 (0) 0 _ (Zai.nil _) (Zcl _) (by omega) (by omega)).mono (fun _ _=>Za4)) (fun xx=>?_)
     obtain ⟨s32,A32,l32,c32,t32,B32,m32,d32⟩:=xx
     refine xqd 28 [vR4 s31 A31 l31 c31 t31 B31 m31 d31,vR4 s32 A32 l32 c32 t32 B32 m32 d32] 38 (fun _:Unit=>.int .i64 σ) _ (fun w R Q=>(Zdc _ _ _ _ _ Q.1.2 Q.2 (by rw [← hq1]; exact ZbI (by omega) (by omega) (by omega)) (by rw [← hq2]; exact ZbI (by omega) (by omega) (by omega))).mono (fun _ _ h=>Zad h (by rw [hcmp]))) (fun xx=>?_)
     refine xqg 1 [(9, .v (.int .i64 σ))] ?_
     refine xz (xe (Zaa (Zac ?_)))
     refine ZcI 27 [0,1,3,3,15,3,63,127,255,511,511,2047,511,4607,16383,32767,65535,131071,262143,131071,655359,131071,3801087,7995391,16777215,33554431,67108863] (by kernel_rfl) (by kernel_rfl) Zah ?_
     refine xqd 14 [] 39 (fun _:Unit=>.bool true) _ (fun w R Q=>(ZbL _ Q.1.1.1.1.1.1.1.1.1).mono (fun _ _ h=>Zad h rfl)) (fun xx=>?_)
     refine xqg 3 [(40, .v (.bool true)),(41, .v (.agg #[.string s, .int .i64 x])),(42, .v (.agg #[.string t, .int .i64 y]))] ?_
     refine xqd 43 [.agg #[.string s, .int .i64 x], .agg #[.string t, .int .i64 y]] 43 (fun _:Unit=>.int .i64 σ) _ (fun w R Q=>(ZaY s t x y _ (by omega) (by omega)).mono (fun _ _ h=>Zad h (by rw [hσ]))) (fun xx=>?_)
     refine xqg 2 [(45, .v (.bool ((σ:Int) == σ)))] ?_
     rw [ZbC]
     refine xqg 4 [(47, .v (.bool true)),(48, .v (.agg #[.string t, .int .i64 y])),(49, .v (.agg #[.string s, .int .i64 x]))] ?_
     refine xqd 43 [.agg #[.string t, .int .i64 y], .agg #[.string s, .int .i64 x]] 50 (fun _:Unit=>.int .i64 (-σ)) _ (fun w R Q=>(ZaY t s y x _ (by omega) (by omega)).mono (fun _ _ h=>Zad h (by rw [Zde,hσ]))) (fun xx=>?_)
     refine xqg 2 [(52, .v (.int .i64 (IntKind.i64.wrap (0 - (σ)))))] ?_
     rw [show IntKind.i64.wrap (0 - (σ)) = -σ from by rw [IntKind.wrap_i64]; omega]
     refine xqg 1 [(53, .v (.bool (((-σ):Int) == (-σ))))] ?_
     rw [ZbC]
     refine xqg 4 [(55, .v (.bool true)),(57, .v (.bool ((σ:Int) == 0)))] ?_
     rw [show ((σ:Int) == 0)=false from beq_eq_false_iff_ne.2 h0]
     refine xqg 1 [(58, .v (.agg #[.bool false, .slice none 0 0, .int .i64 0]))] ?_
     refine xqd 38 [.agg #[.bool false, .slice none 0 0, .int .i64 0]] 59 (fun _:Unit=>.agg #[.string ⟨(Lib.itoa (0)).toArray⟩, .int .i64 0]) _ (fun w R Q=>(Zbi false none 0 0 (0) 0 _ (Zai.nil _) (Zcl _)).mono (fun _ _ h=>Zad h rfl)) (fun xx=>?_)
     refine xqg 1 [(60, .v (.agg #[.bool false, .slice none 0 0, .int .i64 0]))] ?_
     refine xqd 38 [.agg #[.bool false, .slice none 0 0, .int .i64 0]] 61 (fun _:Unit=>.agg #[.string ⟨(Lib.itoa (0)).toArray⟩, .int .i64 0]) _ (fun w R Q=>(Zbi false none 0 0 (0) 0 _ (Zai.nil _) (Zcl _)).mono (fun _ _ h=>Zad h rfl)) (fun xx=>?_)
     refine xqj 62 (.bool false) (fun w Q=>ZdA (.tmp 59) (.tmp 61) 24 ⟨(Lib.itoa (0)).toArray⟩ ⟨(Lib.itoa (0)).toArray⟩ 0 0 false (by kernel_rfl) (by kernel_rfl) (by kernel_rfl) (ZeB _ _ _ _ (decide_eq_false (fun h=>h0 (hσ0.2 h))))) ?_
     refine xqg 3 [(4, .v (.bool true))] ?_
     refine xz (xe (Zaa (Zaj ?_)))
     refine Zaf (v:=.bool true) (by kernel_rfl) (fun w' R Q=>?_)
     exact ⟨rfl,R⟩
 ·refine Zab (xq 2 [(10, .v (.agg #[.string s, .int .i64 x])),(11, .v (.agg #[.string t, .int .i64 y]))] [] ?_)
  refine Zd4 (d:=12) (fun zb:Nat=>.slice (some ⟨zb,0,none⟩) 2 2) (fun zb zw=>Blk 24 zw zb #[.string s, .int .i64 x, .string t, .int .i64 y]) (by kernel_rfl) (by kernel_rfl) (by kernel_rfl) (by kernel_rfl) (by kernel_rfl) (by kernel_rfl) (fun w R Q=>Zdy (t:=108) (e:=24) (n:=2) (sz:=2) (z:=.agg #[.string ⟨#[]⟩, .int .i64 0]) (parts:=#[(0,Operand.tmp 10),(1,Operand.tmp 11)]) (by kernel_rfl) (by kernel_rfl) (by kernel_rfl) (by kernel_rfl) (by kernel_rfl) (by kernel_rfl)) (fun b33=>?_)
  refine xr 0 [(2, .p 2 0),(3, .p 3 0),(4, .v (.bool false)),eS1 12 (some ⟨b33,0,none⟩) 2 2] [(3,24,[.v (.string t), .v (.int .i64 y)]),(2,24,[.v (.string s), .v (.int .i64 x)])] ?_
  refine xqc 40 [.slice (some ⟨b33,0,none⟩) 2 2] 13 (fun _:Unit=>.bool false) _ (fun w R Q=>(Zmc b33 s t x y _ Q.2).mono (fun _ _ h=>Zad h (by rw [decide_eq_false ht]))) (fun xx=>?_)
  refine xq 1 [(14, .v (.bool true))] [] ?_
  refine xe (Zaa (xa (Zac (Zab ?_))))
  refine xqc 14 [] 15 (fun _:Unit=>.bool true) _ (fun w R Q=>(ZbL _ Q.1.1).mono (fun _ _ h=>Zad h rfl)) (fun xx=>?_)
  refine xq 1 [(4, .v (.bool true))] [] ?_
  refine xe (Zaa (Zaj (Zak ?_)))
  refine Zaf (v:=.bool true) (by kernel_rfl) (fun w' R Q=>?_)
  exact ⟨rfl,R⟩
end Go.Proofs.YtklpdkpcocnglaaGreatDoor
