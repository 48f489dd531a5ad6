/-
 My texts Fvl, FvmL put together.
-/
import Derived.Test.YtklpdkpcocnglaaGreatDoorY21
import Derived.Test.YtklpdkpcocnglaaGreatDoorY22
set_option maxRecDepth 100000
namespace Go.Proofs.YtklpdkpcocnglaaGreatDoor
open Go.RowKit
def zfl (l:List UInt8) (x:Int):Int:=if fvB l x=true then flM l else 0
theorem ZrH {s r:ByteArray} {x:Int} {neg:Bool} (hv:fvB (bytes s) x=true) (h48:¬ bytes s=[48]) (hM:Zap (bytes s)=(neg,bytes r)):flM (bytes s)≠0∧Lib.itoa (-(flM (bytes s)))=(if neg then bytes r else 45 :: bytes r):=by
 have h:=hv
 unfold fvB at h
 rw [if_neg h48] at h
 obtain ⟨h1,h2,h3,h4,h5⟩:=of_decide_eq_true h
 rw [hM] at h1 h2 h4 h5
 have hd:=ZkE _ _ rfl h4 h1 h2
 have hf:flM (bytes s)=sg neg (Zae (bytes r)):=by unfold flM; rw [hM]
 have hp:Zae (bytes r)≠0:=fun e=>by rw [e] at h5; cases h5
 refine ⟨?_,?_⟩
 ·rw [hf]; unfold sg; split<;>omega
 ·rw [hf,show -(sg neg (Zae (bytes r)))=sg (!neg) (Zae (bytes r)) by unfold sg; cases neg<;>simp,Ze2 (fun h=>absurd h hp),hd]
  cases neg<;>rfl
theorem Zuk {l:List UInt8} {x:Int} (hv:fvB l x=true) (h:l=[48]):flM l=0∧x=0:=by
 subst h
 unfold fvB at hv
 rw [if_pos rfl] at hv
 exact ⟨ZjJ,of_decide_eq_true hv⟩
def ZsM (w:World) (z x:Int) (e:Ending) (w':World):Prop:=∃ y:ShI,e=.returned (shF x y)∧Zao w' (ZaM y) z∧Ext w w'
theorem ZtE {w w':World} {e:Ending} {z x:Int} (h:ZsM w z x e w'):Zbx (shF x) (fun y w=>Zao w (ZaM y) z) w e w':=by
 obtain ⟨y,rfl,hI,Q⟩:=h
 exact ⟨y,rfl,Q,boxn Q (fun S w'' hS hF=>hI.nrb hS hF)⟩
def exQ (z x:Int):Rat:=if 0≤x then ((z * 2 ^ x.toNat:Int):Rat) else Rat.divInt z (2 ^ (-x).toNat)
theorem ZfM {z x:Int} {k:Nat} (h:x=k):exQ z x=((z * 2 ^ k:Int):Rat):=by unfold exQ; rw [if_pos (by omega),h,Int.toNat_natCast]
theorem ZiV {z x:Int} {k:Nat} (h : -x=k) (h0:¬ 0≤x):exQ z x=Rat.divInt z (2 ^ k):=by unfold exQ; rw [if_neg h0,h,Int.toNat_natCast]
theorem ZhC {z:Int} {k:Nat} (hz:z % 2=1):(Rat.divInt z (2 ^ k)).num=z∧(Rat.divInt z (2 ^ k)).den=2 ^ k:=by
 have hc:z.natAbs.Coprime (2 ^ k):=by
  refine Nat.Coprime.pow_right k ?_
  rw [Nat.coprime_comm,Nat.Coprime,Nat.gcd_rec,show z.natAbs % 2=1 by omega]; decide
 have h:=Rat.num_divInt_den ⟨z,2 ^ k,by have:=p2 k; omega,hc⟩
 have e:(((2:Nat) ^ k:Nat):Int)=(2:Int) ^ k:=by rw [Int.natCast_pow]; rfl
 dsimp only at h
 rw [e] at h
 rw [h]
 exact ⟨rfl,rfl⟩
theorem ZtF {l:List UInt8} {x:Int} (hv:fvB l x=true):Zaz (exQ (flM l) x)=exT l x:=by
 obtain ⟨h1,h2⟩:=Zli hv
 by_cases h0:flM l=0
 ·have hx:x=0:=by omega
  rw [ZnP hv h0,h0,ZfM (k:=0) (by omega),Int.zero_mul,ZjO]
  exact ZdW
 ·have hodd:flM l % 2=1:=by omega
  by_cases hx:0≤x
  ·obtain ⟨k,hk⟩:=Int.eq_ofNat_of_zero_le hx
   rw [ZfM hk,ZjO]
   unfold exT
   rw [if_pos hv,if_neg h0,if_neg (by omega),hk,Int.toNat_natCast]
  ·obtain ⟨k,hk⟩:=Int.eq_ofNat_of_zero_le (show 0 ≤ -x by omega)
   obtain ⟨k1,k2⟩:=ZhC (k:=k) hodd
   have hk1:1 < 2 ^ k:=Nat.one_lt_two_pow (by omega)
   rw [ZiV hk hx]
   unfold Zaz exT
   rw [k1,k2,if_neg (by omega),if_pos hv,if_neg h0,if_pos (by omega),hk,Int.toNat_natCast,ZbN,← h1]
theorem ZnQ {a b:Nat} (h:a < 32 * b):ml (2 ^ a)≤b:=Zbh.2 (by rw [show W32=2 ^ 32 by rw [Zav],← Nat.pow_mul]; exact Nat.pow_lt_pow_right (by decide) h)
theorem ZrI {a b i j:Nat} (ha:ml a≤i) (hb:ml b≤j):ml (a * b)≤i + j:=by
 refine Zbh.2 ?_
 rw [Nat.pow_add]
 exact Nat.mul_lt_mul'' (Zbh.1 ha) (Zbh.1 hb)
theorem ZtG {n k:Nat} (hn:ml n≤1000) (hk:k≤1000):ml (n * 2 ^ k)≤2000:=by
 have h1:=ZnQ (a:=k) (b:=40) (by omega)
 have h2:=ZrI hn h1
 omega
theorem Zda {l:List UInt8} {x:Int} (h:fvB l x=true) (hl:l.length≤1000):ml (flM l).natAbs≤1000:=by
 rw [ZfL]
 have h1:=Zg1 (Zbi _ (ZbZ h).2.2.1)
 have h2:=Zd7 l
 omega
theorem Zql {l:List UInt8} {x:Int} (hv:fvB l x=true) (hl:l.length≤1000) (hx1 : -1000≤x) (hx2:x≤1000):ml (exQ (flM l) x).num.natAbs≤65536∧ml (exQ (flM l) x).den≤65536:=by
 have hm:=Zda hv hl
 by_cases hx:0≤x
 ·obtain ⟨k,hk⟩:=Int.eq_ofNat_of_zero_le hx
  rw [ZfM hk]
  refine ⟨?_,Ziy⟩
  show ml (flM l * 2 ^ k).natAbs≤65536
  rw [Int.natAbs_mul,show ((2:Int) ^ k).natAbs=2 ^ k by rw [Int.natAbs_pow]; rfl]
  exact Nat.le_trans (ZtG hm (by omega)) (by decide)
 ·obtain ⟨k,hk⟩:=Int.eq_ofNat_of_zero_le (show 0 ≤ -x by omega)
  have hodd:flM l % 2=1:=by have:=(Zli hv).2; omega
  obtain ⟨k1,k2⟩:=ZhC (k:=k) hodd
  rw [ZiV hk hx,k1,k2]
  exact ⟨Nat.le_trans hm (by decide),Nat.le_trans (ZnQ (b:=40) (by omega)) (by decide)⟩
set_option maxHeartbeats 4000000 in
theorem Zmb (b:Nat) (s:ByteArray) (x:Int) (w:World) (hB:Blk 24 w b #[.string s, .int .i64 x]) (hs:s.size≤200) :
 Calls Tryz.prog 40 #[.slice (some ⟨b,0,none⟩) 1 1] w (RetV w (.bool (decide (-300≤x∧x≤300)))):=by
 have HB:=zh hB
 clear hB
 obtain ⟨d,hd⟩:∃ d,decide (-300≤x∧x≤300)=d:=⟨_,rfl⟩
 rw [hd]
 have HD:=zh hd
 clear hd
 go_enter Tryz.func40,Tryz.ntmps40
 go_wp2
 go_loopw [7] (fun v7 wr=>∃ k:Nat,k≤1∧v7=.int .i64 (k:Int)∧(k=1 → -300≤x∧x≤300)∧Hid (Ext w wr)) (fun v _=>1 - (intOf v).toNat)
 case atStart=>exact ⟨0,by omega,rfl,(fun h=>by omega),Fr.refl _ _⟩
 case round =>
  obtain ⟨k,hk,rfl,hin,Q⟩:=hrel
  by_cases hlt:k < 1
  ·obtain rfl:k=0:=by omega
   have hBr:=HB.out.ext Q.out
   have c0:=hBr.cell 0
   have c1:=hBr.cell 1
   clear hBr
   by_cases h1:x > 300
   ·have HF:Hid (d=false):=HD.out.symm.trans (decide_eq_false (by omega))
    go_wp2
    go_ret
    exact ⟨(congrArg (fun q=>Ending.returned (Value.bool q)) HF.out).symm,Q.out.alloc _⟩
   ·by_cases h2:x < -300
    ·have HF:Hid (d=false):=HD.out.symm.trans (decide_eq_false (by omega))
     go_wp2
     go_ret
     exact ⟨(congrArg (fun q=>Ending.returned (Value.bool q)) HF.out).symm,Q.out.alloc _⟩
    ·go_wp2
     go_roundw
     case rel=>exact ⟨1,by omega,rfl,(fun _=>⟨by omega,by omega⟩),Q.out.alloc _⟩
     case measure=>simp [intOf]
  ·obtain rfl:k=1:=by omega
   have HF:Hid (d=true):=HD.out.symm.trans (decide_eq_true (hin rfl))
   go_wp2
   go_ret
   exact ⟨(congrArg (fun q=>Ending.returned (Value.bool q)) HF.out).symm,Q.out⟩
theorem ZnR (s:ByteArray) (x:Int) (w:World) (hs:(bytes s).length≤100000) :
 Calls Tryz.prog 36 #[.agg #[.string s, .int .i64 x]] w (RetV w (.agg #[.string ⟨(Lib.itoa (-(zfl (bytes s) x))).toArray⟩, .int .i64 (if fvB (bytes s) x=true then x else 0)])):=by
 refine Zay (Φ:=fun w=>True) Tryz.func36 rfl (by kernel_rfl) (fun w' hf=>trivial) ?_
 refine Zac (Zab (xq 2 [(1, .p 1 0),(2, .p 2 0)] [(2,24,[.v (.string ⟨#[]⟩), .v (.int .i64 0)]),(1,24,[.v (.string s), .v (.int .i64 x)])] ?_))
 refine xe (Zaa (Zac (Zac ?_)))
 by_cases hv:fvB (bytes s) x=true
 ·by_cases h48:bytes s=[48]
  ·refine Zab (xq 1 [(5, .v (.agg #[.string s, .int .i64 x]))] [] ?_)
   refine xqc 19 [.agg #[.string s, .int .i64 x]] 6 (fun _:Unit=>.bool true) _ (fun w R Q=>(ZcC s x _ (by omega)).mono (fun _ _ h=>Zad h (by rw [hv]))) (fun xx=>?_)
   refine xq 5 [(8, .v (.bool false)),(11, .v (.bool ((s:ByteArray).toList == (⟨#[48]⟩:ByteArray).toList)))] [] ?_
   rw [Zlj h48]
   refine xq 1 [(12, .v (.bool true))] [] ?_
   refine xe (Zaa (xa (Zac (Zab (xq 2 [] [(2,24,[.v (.string ⟨#[48]⟩), .v (.int .i64 0)])] ?_)))))
   refine xe (Zaa (Zai (Zah ?_)))
   refine Zaf (v:=.agg #[.string ⟨#[48]⟩, .int .i64 0]) (by kernel_rfl) (fun w' R Q=>?_)
   obtain ⟨e1,e2⟩:=Zuk hv h48
   exact ⟨by rw [show zfl (bytes s) x=0 from by unfold zfl; rw [if_pos hv,e1],if_pos hv,Int.neg_zero,ZdW,e2],R⟩
  ·refine Zab (xq 1 [(5, .v (.agg #[.string s, .int .i64 x]))] [] ?_)
   refine xqc 19 [.agg #[.string s, .int .i64 x]] 6 (fun _:Unit=>.bool true) _ (fun w R Q=>(ZcC s x _ (by omega)).mono (fun _ _ h=>Zad h (by rw [hv]))) (fun xx=>?_)
   refine xq 5 [(8, .v (.bool false)),(11, .v (.bool ((s:ByteArray).toList == (⟨#[48]⟩:ByteArray).toList)))] [] ?_
   rw [Zlk h48]
   refine xq 1 [(12, .v (.bool false))] [] ?_
   refine xe (Zaa (xb (Zaq (Zaa (Zac (Zab (xq 2 [(16, .v (.string s))] [] ?_)))))))
   refine xqc 63 [.string s] 17 Ziw _ (fun w R Q=>(ZgB s _).mono (fun _ _=>ZgA)) (fun xx=>?_)
   obtain ⟨r,neg⟩:=xx
   refine xq 5 [(3, .v (.bool neg)),(4, .v (.string r))] [] ?_
   refine xe (Zaa (Zac (Zac ?_)))
   refine SXc.know (p:=Zap (bytes s)=(neg,bytes r)) (fun w _ Q=>Q.2) (fun HM=>?_)
   obtain ⟨hz1,hz2⟩:=ZrH hv h48 HM
   have hrl:=Zd7 (bytes s)
   rw [HM] at hrl
   have hrl2:(bytes r).length≤100000:=Nat.le_trans hrl hs
   refine Zab (xq 2 [(21, .v (.bool (!neg)))] [] ?_)
   refine xe (Zaa ?_)
   refine ZaA ((!neg)) (by kernel_rfl) (fun hb10=>?_) (fun hb10=>?_)
   ·have hng:neg=false:=by simpa using hb10
    refine Zab (xq 1 [(22, .v (.string r))] [] ?_)
    refine Zbn 23 (.string (⟨#[45]⟩ ++ r)) (by kernel_rfl) (by kernel_rfl) (by kernel_rfl) (by kernel_rfl) (by kernel_rfl) (by kernel_rfl) (fun w R Q=>ZeI (x:=(Operand.const (Value.string { data:=#[45] }))) (y:=(Operand.tmp 22)) (t:=9) (k:=9) (by kernel_rfl) (by kernel_rfl) (by kernel_rfl) (by have h1:=Zam r; have h2:(⟨#[45]⟩:ByteArray).size=1:=rfl; omega) rfl) ?_
    refine xr 1 [(1, .p 1 0),(2, .p 2 0),(4, .v (.string (⟨#[45]⟩ ++ r)))] [(2,24,[.v (.string ⟨#[]⟩), .v (.int .i64 0)]),(1,24,[.v (.string s), .v (.int .i64 x)])] ?_
    refine xe (Zaa (Zac (Zab (xq 5 [] [(2,24,[.v (.string (⟨#[45]⟩ ++ r)), .v (.int .i64 x)])] ?_))))
    refine xe (Zaa (Zai ?_))
    refine Zaf (v:=.agg #[.string (⟨#[45]⟩ ++ r), .int .i64 x]) (by kernel_rfl) (fun w' R Q=>?_)
    have hst:(⟨#[45]⟩ ++ r:ByteArray)=⟨(Lib.itoa (-(zfl (bytes s) x))).toArray⟩:=ZgZ (by rw [ZbY,show zfl (bytes s) x=flM (bytes s) from if_pos hv,hz2,hng]; simp [bytes])
    exact ⟨by rw [hst,if_pos hv],R⟩
   ·have hng:neg=true:=by simpa using hb10
    refine Zaq (Zaa (Zac (Zab (xq 5 [] [(2,24,[.v (.string r), .v (.int .i64 x)])] ?_))))
    refine xe (Zaa (Zai ?_))
    refine Zaf (v:=.agg #[.string r, .int .i64 x]) (by kernel_rfl) (fun w' R Q=>?_)
    have hst:r=⟨(Lib.itoa (-(zfl (bytes s) x))).toArray⟩:=ZgZ (by rw [ZbY,show zfl (bytes s) x=flM (bytes s) from if_pos hv,hz2,hng]; rfl)
    exact ⟨by rw [hst,if_pos hv],R⟩
 ·by_cases h48:bytes s=[48]
  ·refine Zab (xq 1 [(5, .v (.agg #[.string s, .int .i64 x]))] [] ?_)
   refine xqc 19 [.agg #[.string s, .int .i64 x]] 6 (fun _:Unit=>.bool false) _ (fun w R Q=>(ZcC s x _ (by omega)).mono (fun _ _ h=>Zad h (by rw [Bool.eq_false_iff.2 hv]))) (fun xx=>?_)
   refine xq 6 [(12, .v (.bool true))] [] ?_
   refine xe (Zaa (xa (Zac (Zab (xq 2 [] [(2,24,[.v (.string ⟨#[48]⟩), .v (.int .i64 0)])] ?_)))))
   refine xe (Zaa (Zai (Zah ?_)))
   refine Zaf (v:=.agg #[.string ⟨#[48]⟩, .int .i64 0]) (by kernel_rfl) (fun w' R Q=>?_)
   exact ⟨by rw [show zfl (bytes s) x=0 from if_neg hv,if_neg hv,Int.neg_zero,ZdW],R⟩
  ·refine Zab (xq 1 [(5, .v (.agg #[.string s, .int .i64 x]))] [] ?_)
   refine xqc 19 [.agg #[.string s, .int .i64 x]] 6 (fun _:Unit=>.bool false) _ (fun w R Q=>(ZcC s x _ (by omega)).mono (fun _ _ h=>Zad h (by rw [Bool.eq_false_iff.2 hv]))) (fun xx=>?_)
   refine xq 6 [(12, .v (.bool true))] [] ?_
   refine xe (Zaa (xa (Zac (Zab (xq 2 [] [(2,24,[.v (.string ⟨#[48]⟩), .v (.int .i64 0)])] ?_)))))
   refine xe (Zaa (Zai (Zah ?_)))
   refine Zaf (v:=.agg #[.string ⟨#[48]⟩, .int .i64 0]) (by kernel_rfl) (fun w' R Q=>?_)
   exact ⟨by rw [show zfl (bytes s) x=0 from if_neg hv,if_neg hv,Int.neg_zero,ZdW],R⟩
theorem Zqm (s:Bool) (A:Option Addr) (l c:Nat) (z x:Int) (w:World) (hN:Zao w (.agg #[.bool s, .slice A l c]) z) :
 Calls Tryz.prog 39 #[.agg #[.bool s, .slice A l c, .int .i64 x]] w (ZsM w (-z) x):=by
 refine Zay (Φ:=fun w=>Zao w (.agg #[.bool s, .slice A l c]) (z)) Tryz.func39 rfl (by kernel_rfl) (fun w' hf=>hN.ext hf) ?_
 refine Zac (Zab (xq 2 [(1, .p 1 0),(2, .p 2 0)] [(2,52,[.v (.bool false), .v (.slice none 0 0), .v (.int .i64 0)]),(1,52,[.v (.bool s), .v (.slice A l c), .v (.int .i64 x)])] ?_))
 refine xe (Zaa (Zac ?_))
 refine ZaD 7 (by kernel_rfl) (by kernel_rfl) Zaj ?_
 refine xqf 2 [eI2 4 s A l c] [(2,52,[.v (.bool false), .v (.slice none 0 0), .v (.int .i64 0)]),(1,52,[.v (.bool s), .v (.slice A l c), .v (.int .i64 x)])] ?_
 refine xqd 68 [vI2 s A l c] 5 ZaM _ (fun w R Q=>(Zhn _ z _ Q).mono (fun _ _=>ZaS)) (fun xx=>?_)
 obtain ⟨s10,A10,l10,c10⟩:=xx
 refine xqf 4 [] [(2,52,[.v (.bool s10), .v (.slice A10 l10 c10), .v (.int .i64 x)]),(2,52,[.v (.bool false), .v (.slice none 0 0), .v (.int .i64 0)]),(1,52,[.v (.bool s), .v (.slice A l c), .v (.int .i64 x)])] ?_
 refine xz (xe (Zaa (Zai ?_)))
 refine Zaf (v:=.agg #[.bool s10, .slice A10 l10 c10, .int .i64 x]) (by kernel_rfl) (fun w' R Q=>?_)
 exact ⟨(s10,A10,l10,c10),rfl,Q.2,R⟩
theorem Zbd (s:Bool) (A:Option Addr) (l c:Nat) (z x:Int) (w:World) (hN:Zao w (.agg #[.bool s, .slice A l c]) z) (hz:ml z.natAbs≤1000) (hx1 : -1000≤x) (hx2:x≤1000) :
 Calls Tryz.prog 41 #[.agg #[.bool s, .slice A l c, .int .i64 x]] w (Zc4 w (exQ z x)):=by
 refine Zay (Φ:=fun w=>Zao w (.agg #[.bool s, .slice A l c]) (z)) Tryz.func41 rfl (by kernel_rfl) (fun w' hf=>hN.ext hf) ?_
 refine Zac (Zab (xq 2 [(1, .p 1 0),(2, .p 2 0)] [bR4 2 34 false none 0 0 false none 0 0,(1,52,[.v (.bool s), .v (.slice A l c), .v (.int .i64 x)])] ?_))
 refine xe (Zaa (Zac (Zac (Zab (xq 3 [(5, .v (.bool (decide (x ≥ 0))))] [] ?_)))))
 refine xe (Zaa ?_)
 refine ZaA ((decide (x ≥ 0))) (by kernel_rfl) (fun hb10=>?_) (fun hb10=>?_)
 ·have hb10':=of_decide_eq_true hb10
  refine Zac ?_
  obtain ⟨k,hk⟩:=Int.eq_ofNat_of_zero_le (show 0≤x by omega)
  have hk1:k≤1000:=by omega
  rw [hk]
  subst hk
  refine Zab (xq 4 [eI2 7 s A l c,(9, .v (.int .i64 ((k:Nat):Int)))] [] ?_)
  refine xqc 25 [vI2 s A l c, .int .i64 ((k:Nat):Int)] 10 ZaM _ (fun w R Q=>(Zma _ z k _ Q (nfit (k:=1000) hz (by decide)) (by omega)).mono (fun _ _=>ZaS)) (fun xx=>?_)
  obtain ⟨s11,A11,l11,c11⟩:=xx
  refine xq 2 [] [bR4 2 34 s11 A11 l11 c11 false none 0 0] ?_
  refine xe (Zaa (Zai (Zah ?_)))
  refine Zaf (v:=.agg #[.bool s11, .slice A11 l11 c11, .bool false, .slice none 0 0]) (by kernel_rfl) (fun w' R Q=>?_)
  exact ⟨_,rfl,by rw [ZfM rfl]; exact ZnN Q.2,R⟩
 ·have hb10':=of_decide_eq_false hb10
  refine Zaq (Zaa (Zac ?_))
  obtain ⟨k,hk⟩:=Int.eq_ofNat_of_zero_le (show 0 ≤ -x by omega)
  have hk1:k≤1000:=by omega
  refine ZaD 9 (by kernel_rfl) (by kernel_rfl) Zaj ?_
  refine xqf 2 [eI2 13 s A l c] [bR4 2 34 false none 0 0 false none 0 0,(1,52,[.v (.bool s), .v (.slice A l c), .v (.int .i64 x)])] ?_
  refine xqd 24 [.int .i64 1] 14 ZaM _ (fun w R Q=>(Zh8 1 _ (by decide) (by decide)).mono (fun _ _=>ZaS)) (fun xx=>?_)
  obtain ⟨s12,A12,l12,c12⟩:=xx
  refine xqf 3 [(17, .v (.int .i64 (IntKind.i64.wrap (0 - (x)))))] [bR4 2 34 false none 0 0 false none 0 0,(1,52,[.v (.bool s), .v (.slice A l c), .v (.int .i64 x)])] ?_
  rw [show IntKind.i64.wrap (0 - x)=((k:Nat):Int) from by rw [IntKind.wrap_i64]; omega]
  refine xqd 25 [vI2 s12 A12 l12 c12, .int .i64 ((k:Nat):Int)] 18 ZaM _ (fun w R Q=>(Zma _ ((1:Int)) k _ Q.2 (nfit (k:=1) (Zbh.2 (by rw [Zav]; decide)) (by decide)) (by omega)).mono (fun _ _=>ZaS)) (fun xx=>?_)
  obtain ⟨s13,A13,l13,c13⟩:=xx
  refine xqd 23 [vI2 s A l c,vI2 s13 A13 l13 c13] 19 Zbf _ (fun w R Q=>(Zgx _ _ _ _ _ Q.1.1 Q.2 (nfit (k:=1000) hz (by decide)) (nfit (k:=40) (by rw [Int.one_mul,Int.natAbs_pow]; exact ZnQ (by omega)) (by decide)) (by rw [Int.one_mul]; have:=Int.pow_pos (n:=2) (m:=k) (by decide); omega)).mono (fun _ _=>Za0)) (fun xx=>?_)
  obtain ⟨s14,A14,l14,c14,t14,B14,m14,d14⟩:=xx
  refine xqf 1 [] [bR4 2 34 s14 A14 l14 c14 t14 B14 m14 d14,bR4 2 34 false none 0 0 false none 0 0,(1,52,[.v (.bool s), .v (.slice A l c), .v (.int .i64 x)])] ?_
  refine xz (xe (Zaa (Zai ?_)))
  refine Zaf (v:=.agg #[.bool s14, .slice A14 l14 c14, .bool t14, .slice B14 m14 d14]) (by kernel_rfl) (fun w' R Q=>?_)
  exact ⟨_,rfl,by rw [ZiV hk (by omega)]; have h:=Q.2; rw [Int.one_mul] at h; exact h,R⟩
end Go.Proofs.YtklpdkpcocnglaaGreatDoor

namespace Go.Proofs.YtklpdkpcocnglaaGreatDoor
open Go.RowKit
theorem ZtH {o:Oper} {ρ:Operand→Value} {w:World} (x y:Operand) (k:TypeId) (a a':ByteArray) (d d':Int) (r:Bool) (ho:o.op=Op.binOp .neq 24 x y k) (hx:ρ x=.agg #[.string a, .int .i64 d]) (hy:ρ y=.agg #[.string a', .int .i64 d'])
 (hr:(!((a.toList == a'.toList) && (d == d')))=r):(execOp ρ o).run Tryz.prog w=.ok (.value (.bool r)) w:=by
 have hm:Tryz.prog.eqGuardType Tryz.prog.depth 24=false:=by kernel_rfl
 subst hr
 simp only [execOp,ho,hx,hy,Sem.run_bind,run_eqGuard_agg w _ _ _ _ _ _ hm,Result.andThen_ok,run_neq_struct,Zpf,Sem.run_pure]
theorem ZrJ {a:Int}:((a:Int) != a)=false:=by simp
theorem Zul (a:ByteArray) (d:Int):(!((a.toList == a.toList) && (d == d)))=false:=by simp
theorem Zum {l:List UInt8} {x:Int} (hv:fvB l x=true):(ldR l x).m=(flM l).natAbs:=by rw [ZfL]; unfold ldR; rw [if_pos hv]
theorem Zuv {l:List UInt8} {x:Int} (hv:¬ fvB l x=true):(ldR l x).m=0:=by unfold ldR; rw [if_neg hv]
theorem Zlu (s:ByteArray) (x:Int) (w:World) (hg:Glob w) :
 Calls Tryz.prog 6 #[.agg #[.string s, .int .i64 x]] w (RetV w (.bool true)):=by
 refine Zay (Φ:=fun w=>Glob w) Tryz.func6 rfl (by kernel_rfl) (fun w' hf=>hg.ext hf) ?_
 refine Zac (Zab (xq 2 [(1, .p 1 0),(2, .v (.bool false))] [(1,24,[.v (.string s), .v (.int .i64 x)])] ?_))
 refine xe (Zaa (Zac (Zac (Zab (xq 4 [(8, .v (.bool (decide (((s).size:Int) > 200))))] [] ?_)))))
 refine xe (Zaa ?_)
 refine ZaA ((decide (((s).size:Int) > 200))) (by kernel_rfl) (fun hb10=>?_) (fun hb10=>?_)
 ·have hb10':=of_decide_eq_true hb10
  refine Zac (Zab ?_)
  refine xqc 14 [] 9 (fun _:Unit=>.bool true) _ (fun w R Q=>(Zbe _ Q).mono (fun _ _ h=>Zad h rfl)) (fun xx=>?_)
  refine xq 1 [(2, .v (.bool true))] [] ?_
  refine xe (Zaa (Zai (Zah ?_)))
  refine Zaf (v:=.bool true) (by kernel_rfl) (fun w' R Q=>?_)
  exact ⟨rfl,R⟩
 ·have hb10':=of_decide_eq_false hb10
  refine Zaq (Zaa (Zac ?_))
  have hs:(bytes s).length≤200:=by rw [Zam]; omega
  refine Zab (xq 1 [(11, .v (.agg #[.string s, .int .i64 x]))] [] ?_)
  by_cases hv:fvB (bytes s) x=true
  ·refine xqc 35 [.agg #[.string s, .int .i64 x]] 12 (shRF true x) _ (fun w R Q=>(Ze4 s x _ _ (by omega) hv rfl).mono (fun _ _=>ZfJ)) (fun xx=>?_)
   obtain ⟨s11,A11,l11,c11⟩:=xx
   refine xq 6 [(3, .p 3 0),(4, .v (.bool true))] [(3,52,[.v (.bool s11), .v (.slice A11 l11 c11), .v (.int .i64 x)])] ?_
   refine xe (Zaa (Zac (Zac (Zab (xq 2 [(16, .v (.bool false))] [] ?_)))))
   refine xe (Zaa (xb (Zaq (Zaa (Zac (Zac ?_))))))
   refine ZbS 19 [0,1,3,7,15,31,15,79,255,511,1023,2047,4095,8191,4095,32767,65535,131071,262143] (by kernel_rfl) (by kernel_rfl) Zaj ?_
   refine xqf 1 [(39, .v (.agg #[.string s, .int .i64 x]))] [(3,52,[.v (.bool s11), .v (.slice A11 l11 c11), .v (.int .i64 x)]),(1,24,[.v (.string s), .v (.int .i64 x)])] ?_
   refine xqd 19 [.agg #[.string s, .int .i64 x]] 40 (fun _:Unit=>.bool true) _ (fun w R Q=>(ZcC s x _ (by omega)).mono (fun _ _ h=>Zad h (by rw [hv]))) (fun xx=>?_)
   refine xqf 3 [(42, .v (.bool false)),(43, .v (.agg #[.string s, .int .i64 x]))] [(3,52,[.v (.bool s11), .v (.slice A11 l11 c11), .v (.int .i64 x)]),(1,24,[.v (.string s), .v (.int .i64 x)])] ?_
   refine xqd 20 [.agg #[.string s, .int .i64 x]] 44 (fun _:Unit=>.int .i64 ((blen (flM (bytes s)).natAbs:Nat):Int)) _ (fun w R Q=>(Zix s x _ (by omega)).mono (fun _ _ h=>Zad h (by rw [Zum hv]))) (fun xx=>?_)
   refine xqf 2 [eI2 46 s11 A11 l11 c11] [(3,52,[.v (.bool s11), .v (.slice A11 l11 c11), .v (.int .i64 x)]),(1,24,[.v (.string s), .v (.int .i64 x)])] ?_
   refine xqd 37 [vI2 s11 A11 l11 c11] 47 (fun _:Unit=>.int .i64 ((blen (flM (bytes s)).natAbs:Nat):Int)) _ (fun w R Q=>(ZcF _ _ _ Q.1.1.2 (nfit (k:=1000) (Zda hv (by omega)) (by decide))).mono (fun _ _ h=>Zad h (rfl))) (fun xx=>?_)
   refine xqf 1 [(48, .v (.bool ((((blen (flM (bytes s)).natAbs:Nat):Int):Int) != ((blen (flM (bytes s)).natAbs:Nat):Int))))] [(3,52,[.v (.bool s11), .v (.slice A11 l11 c11), .v (.int .i64 x)]),(1,24,[.v (.string s), .v (.int .i64 x)])] ?_
   rw [ZrJ]
   refine xqf 3 [(50, .v (.bool false)),(51, .v (.agg #[.string s, .int .i64 x]))] [(3,52,[.v (.bool s11), .v (.slice A11 l11 c11), .v (.int .i64 x)]),(1,24,[.v (.string s), .v (.int .i64 x)])] ?_
   refine xqd 36 [.agg #[.string s, .int .i64 x]] 52 (fun _:Unit=>.agg #[.string ⟨(Lib.itoa (-(flM (bytes s)))).toArray⟩, .int .i64 x]) _ (fun w R Q=>(ZnR s x _ (by omega)).mono (fun _ _ h=>Zad h (by rw [show zfl (bytes s) x=flM (bytes s) from if_pos hv,if_pos hv]))) (fun xx=>?_)
   refine xqf 1 [(53, .v (.agg #[.bool s11, .slice A11 l11 c11, .int .i64 x]))] [(3,52,[.v (.bool s11), .v (.slice A11 l11 c11), .v (.int .i64 x)]),(1,24,[.v (.string s), .v (.int .i64 x)])] ?_
   refine xqd 39 [.agg #[.bool s11, .slice A11 l11 c11, .int .i64 x]] 54 (shF x) _ (fun w R Q=>(Zqm s11 A11 l11 c11 _ x _ Q.1.1.1.1.2).mono (fun _ _=>ZtE)) (fun xx=>?_)
   obtain ⟨s12,A12,l12,c12⟩:=xx
   refine xqd 38 [.agg #[.bool s12, .slice A12 l12 c12, .int .i64 x]] 55 (fun _:Unit=>.agg #[.string ⟨(Lib.itoa (-(flM (bytes s)))).toArray⟩, .int .i64 x]) _ (fun w R Q=>(Za6 s12 A12 l12 c12 (-(flM (bytes s))) x _ Q.2 (by rw [Int.natAbs_neg]; exact ZdX hv (by omega))).mono (fun _ _ h=>Zad h rfl)) (fun xx=>?_)
   refine Zb7 56 (.bool false) (by kernel_rfl) (by kernel_rfl) (by kernel_rfl) (by kernel_rfl) (by kernel_rfl) (by kernel_rfl) (fun w Q=>ZtH (.tmp 52) (.tmp 55) 24 ⟨(Lib.itoa (-(flM (bytes s)))).toArray⟩ ⟨(Lib.itoa (-(flM (bytes s)))).toArray⟩ x x false (by kernel_rfl) (by kernel_rfl) (by kernel_rfl) (Zul _ _)) ?_
   refine xf 1 [(1, .p 1 0),(2, .v (.bool false)),(3, .p 3 0),(57, .v (.bool false))] [(3,52,[.v (.bool s11), .v (.slice A11 l11 c11), .v (.int .i64 x)]),(1,24,[.v (.string s), .v (.int .i64 x)])] ?_
   refine xz (xe (Zaa (xb (Zaq (Zaa (Zac ?_))))))
   by_cases ht : -300≤x∧x≤300
   ·refine ZbS 16 [0,1,3,7,15,31,63,127,255,127,1023,2047,4095,8191,16383,32767] (by kernel_rfl) (by kernel_rfl) Zaj ?_
    refine xqd 14 [] 58 (fun _:Unit=>.bool true) _ (fun w R Q=>(Zbe _ Q.1.1.1.1.1.1.1).mono (fun _ _ h=>Zad h rfl)) (fun xx=>?_)
    refine xqf 2 [(59, .v (.bool true)),(60, .v (.agg #[.string s, .int .i64 x]))] [(3,52,[.v (.bool s11), .v (.slice A11 l11 c11), .v (.int .i64 x)]),(1,24,[.v (.string s), .v (.int .i64 x)])] ?_
    refine ZiR 61 (fun zb:Nat=>.slice (some ⟨zb,0,none⟩) 1 1) (fun zb zw=>Blk 24 zw zb #[.string s, .int .i64 x]) (by kernel_rfl) (by kernel_rfl) (by kernel_rfl) (by kernel_rfl) (by kernel_rfl) (by kernel_rfl) (by kernel_rfl) (fun w R Q=>Zcd (t:=108) (e:=24) (n:=1) (sz:=2) (z:=.agg #[.string ⟨#[]⟩, .int .i64 0]) (parts:=#[(0,Operand.tmp 60)]) (by kernel_rfl) (by kernel_rfl) (by kernel_rfl) (by kernel_rfl) (by kernel_rfl) (by kernel_rfl)) (fun b13=>?_)
    refine xf 0 [(1, .p 1 0),(2, .v (.bool false)),(3, .p 3 0),(59, .v (.bool true)),eS1 61 (some ⟨b13,0,none⟩) 1 1] [(3,52,[.v (.bool s11), .v (.slice A11 l11 c11), .v (.int .i64 x)]),(1,24,[.v (.string s), .v (.int .i64 x)])] ?_
    refine xqd 40 [.slice (some ⟨b13,0,none⟩) 1 1] 62 (fun _:Unit=>.bool true) _ (fun w R Q=>(Zmb b13 s x _ Q.2 (by omega)).mono (fun _ _ h=>Zad h (by rw [decide_eq_true ht]))) (fun xx=>?_)
    refine xqf 3 [(64, .v (.bool false)),(65, .v (.agg #[.string s, .int .i64 x]))] [(3,52,[.v (.bool s11), .v (.slice A11 l11 c11), .v (.int .i64 x)]),(1,24,[.v (.string s), .v (.int .i64 x)])] ?_
    refine xqd 22 [.agg #[.string s, .int .i64 x]] 66 (fun _:Unit=>.string ⟨(exT (bytes s) x).toArray⟩) _ (fun w R Q=>(ZkO s x _ Q.1.1.1.1.1.1.1.1.1.1 (by omega) (fun h=>by omega)).mono (fun _ _ h=>Zad h (rfl))) (fun xx=>?_)
    refine xqf 1 [(67, .v (.agg #[.bool s11, .slice A11 l11 c11, .int .i64 x]))] [(3,52,[.v (.bool s11), .v (.slice A11 l11 c11), .v (.int .i64 x)]),(1,24,[.v (.string s), .v (.int .i64 x)])] ?_
    refine xqd 41 [.agg #[.bool s11, .slice A11 l11 c11, .int .i64 x]] 68 Zbf _ (fun w R Q=>(Zbd s11 A11 l11 c11 _ x _ Q.1.1.1.1.1.1.1.1.1.1.2 (Zda hv (by omega)) (by omega) (by omega)).mono (fun _ _=>Za0)) (fun xx=>?_)
    obtain ⟨s14,A14,l14,c14,t14,B14,m14,d14⟩:=xx
    refine xqd 31 [vR4 s14 A14 l14 c14 t14 B14 m14 d14] 69 (fun _:Unit=>.string ⟨(exT (bytes s) x).toArray⟩) _ (fun w R Q=>(Zgy _ _ _ Q.2 (Zql hv (by omega) (by omega) (by omega)).1 (Zql hv (by omega) (by omega) (by omega)).2).mono (fun _ _ h=>Zad h (by rw [ZtF hv]))) (fun xx=>?_)
    refine xqf 1 [(70, .v (.bool ((⟨(exT (bytes s) x).toArray⟩:ByteArray).toList == (⟨(exT (bytes s) x).toArray⟩:ByteArray).toList)))] [(3,52,[.v (.bool s11), .v (.slice A11 l11 c11), .v (.int .i64 x)]),(1,24,[.v (.string s), .v (.int .i64 x)])] ?_
    rw [Znb]
    refine xqf 3 [(2, .v (.bool true))] [(3,52,[.v (.bool s11), .v (.slice A11 l11 c11), .v (.int .i64 x)]),(1,24,[.v (.string s), .v (.int .i64 x)])] ?_
    refine xz (xe (Zaa (Zai ?_)))
    refine Zaf (v:=.bool true) (by kernel_rfl) (fun w' R Q=>?_)
    exact ⟨rfl,R⟩
   ·refine ZbS 16 [0,1,3,7,15,31,63,127,255,127,1023,2047,4095,8191,16383,32767] (by kernel_rfl) (by kernel_rfl) Zaj ?_
    refine xqd 14 [] 58 (fun _:Unit=>.bool true) _ (fun w R Q=>(Zbe _ Q.1.1.1.1.1.1.1).mono (fun _ _ h=>Zad h rfl)) (fun xx=>?_)
    refine xqf 2 [(59, .v (.bool true)),(60, .v (.agg #[.string s, .int .i64 x]))] [(3,52,[.v (.bool s11), .v (.slice A11 l11 c11), .v (.int .i64 x)]),(1,24,[.v (.string s), .v (.int .i64 x)])] ?_
    refine ZiR 61 (fun zb:Nat=>.slice (some ⟨zb,0,none⟩) 1 1) (fun zb zw=>Blk 24 zw zb #[.string s, .int .i64 x]) (by kernel_rfl) (by kernel_rfl) (by kernel_rfl) (by kernel_rfl) (by kernel_rfl) (by kernel_rfl) (by kernel_rfl) (fun w R Q=>Zcd (t:=108) (e:=24) (n:=1) (sz:=2) (z:=.agg #[.string ⟨#[]⟩, .int .i64 0]) (parts:=#[(0,Operand.tmp 60)]) (by kernel_rfl) (by kernel_rfl) (by kernel_rfl) (by kernel_rfl) (by kernel_rfl) (by kernel_rfl)) (fun b15=>?_)
    refine xf 0 [(1, .p 1 0),(2, .v (.bool false)),(3, .p 3 0),(59, .v (.bool true)),eS1 61 (some ⟨b15,0,none⟩) 1 1] [(3,52,[.v (.bool s11), .v (.slice A11 l11 c11), .v (.int .i64 x)]),(1,24,[.v (.string s), .v (.int .i64 x)])] ?_
    refine xqd 40 [.slice (some ⟨b15,0,none⟩) 1 1] 62 (fun _:Unit=>.bool false) _ (fun w R Q=>(Zmb b15 s x _ Q.2 (by omega)).mono (fun _ _ h=>Zad h (by rw [decide_eq_false ht]))) (fun xx=>?_)
    refine xqf 11 [(2, .v (.bool true))] [(3,52,[.v (.bool s11), .v (.slice A11 l11 c11), .v (.int .i64 x)]),(1,24,[.v (.string s), .v (.int .i64 x)])] ?_
    refine xz (xe (Zaa (Zai ?_)))
    refine Zaf (v:=.bool true) (by kernel_rfl) (fun w' R Q=>?_)
    exact ⟨rfl,R⟩
  ·refine xqc 35 [.agg #[.string s, .int .i64 x]] 12 (fun y:ShI × Int=>shRF false y.2 y.1) _ (fun w R Q=>(Ze5 s x _ (by omega) hv).mono (fun _ _=>ZfK)) (fun xx=>?_)
   obtain ⟨⟨s16,A16,l16,c16⟩,e16⟩:=xx
   refine xq 6 [(3, .p 3 0),(4, .v (.bool false))] [(3,52,[.v (.bool s16), .v (.slice A16 l16 c16), .v (.int .i64 e16)])] ?_
   refine xe (Zaa (Zac (Zac (Zab (xq 2 [(16, .v (.bool true))] [] ?_)))))
   refine xe (Zaa (xa (Zac (Zab ?_))))
   refine xqc 14 [] 17 (fun _:Unit=>.bool true) _ (fun w R Q=>(Zbe _ Q.1).mono (fun _ _ h=>Zad h rfl)) (fun xx=>?_)
   refine xq 2 [(18, .v (.bool true)),(19, .v (.agg #[.string s, .int .i64 x]))] [] ?_
   refine xqc 19 [.agg #[.string s, .int .i64 x]] 20 (fun _:Unit=>.bool false) _ (fun w R Q=>(ZcC s x _ (by omega)).mono (fun _ _ h=>Zad h (by rw [Bool.eq_false_iff.2 hv]))) (fun xx=>?_)
   refine xq 4 [(23, .v (.bool true)),(24, .v (.agg #[.string s, .int .i64 x]))] [] ?_
   refine xqc 20 [.agg #[.string s, .int .i64 x]] 25 (fun _:Unit=>.int .i64 0) _ (fun w R Q=>(Zix s x _ (by omega)).mono (fun _ _ h=>Zad h (by rw [Zuv hv]; rfl))) (fun xx=>?_)
   refine xq 4 [(28, .v (.bool true)),(29, .v (.agg #[.string s, .int .i64 x]))] [] ?_
   refine xqc 22 [.agg #[.string s, .int .i64 x]] 30 (fun _:Unit=>.string ⟨#[48]⟩) _ (fun w R Q=>(ZkO s x _ Q.1.1.1.1 (by omega) (fun h=>absurd h hv)).mono (fun _ _ h=>Zad h (by rw [show exT (bytes s) x=[48] from if_neg hv]))) (fun xx=>?_)
   refine xq 1 [(31, .v (.bool ((⟨#[48]⟩:ByteArray).toList == (⟨#[48]⟩:ByteArray).toList)))] [] ?_
   rw [Znb]
   refine xq 3 [(33, .v (.bool true)),(34, .v (.agg #[.string s, .int .i64 x]))] [] ?_
   refine xqc 36 [.agg #[.string s, .int .i64 x]] 35 (fun _:Unit=>.agg #[.string ⟨#[48]⟩, .int .i64 0]) _ (fun w R Q=>(ZnR s x _ (by omega)).mono (fun _ _ h=>Zad h (by rw [show zfl (bytes s) x=0 from if_neg hv,if_neg hv,Int.neg_zero,ZdW]))) (fun xx=>?_)
   refine xq 1 [(36, .v (.agg #[.string ⟨#[48]⟩, .int .i64 0]))] [] ?_
   refine Zbn 37 (.bool true) (by kernel_rfl) (by kernel_rfl) (by kernel_rfl) (by kernel_rfl) (by kernel_rfl) (by kernel_rfl) (fun w R Q=>Zc9 (.tmp 35) (.tmp 36) 24 ⟨#[48]⟩ ⟨#[48]⟩ 0 0 true (by kernel_rfl) (by kernel_rfl) (by kernel_rfl) (Zqh _ _)) ?_
   refine xr 2 [(1, .p 1 0),(2, .v (.bool true)),(3, .p 3 0)] [(3,52,[.v (.bool s16), .v (.slice A16 l16 c16), .v (.int .i64 e16)]),(1,24,[.v (.string s), .v (.int .i64 x)])] ?_
   refine xe (Zaa (Zai (Zah ?_)))
   refine Zaf (v:=.bool true) (by kernel_rfl) (fun w' R Q=>?_)
   exact ⟨rfl,R⟩
end Go.Proofs.YtklpdkpcocnglaaGreatDoor
