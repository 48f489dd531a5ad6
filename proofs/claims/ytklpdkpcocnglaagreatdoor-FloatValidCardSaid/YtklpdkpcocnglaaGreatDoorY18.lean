/-
 My texts Nw, Fu, FlD, Fp put together.
-/
import Derived.Test.YtklpdkpcocnglaaGreatDoorY17
import Derived.Test.YtklpdkpcocnglaaGreatDoorY08
import Derived.Test.YtklpdkpcocnglaaGreatDoorY15
set_option maxRecDepth 100000
namespace Go.Proofs.YtklpdkpcocnglaaGreatDoor
open Go.RowKit
def Zpb (s:ByteArray) (w:World) (e:Ending) (w':World):Prop:=∃ (r:ByteArray) (neg:Bool),e=.returned (.tuple #[.bool neg, .string r])∧Zap (bytes s)=(neg,bytes r)∧Ext w w'
def Ziw (x:ByteArray × Bool):Value:=.tuple #[.bool x.2, .string x.1]
theorem ZgA {s:ByteArray} {w w':World} {e:Ending} (h:Zpb s w e w'):Zbx Ziw (fun x _=>Zap (bytes s)=(x.2,bytes x.1)) w e w':=by
 obtain ⟨r,neg,rfl,h,Q⟩:=h
 exact ⟨(r,neg),rfl,Q,BoxN.pure h⟩
theorem Zsq {t:ByteArray} {i:Nat} {c:UInt8} (hI:((bytes t).take i).all Zat=true) (hc:t[i]? = some c) (h1:¬ (c.toNat:Int) < 48) (h2:¬ (c.toNat:Int) > 57):((bytes t).take (i + 1)).all Zat=true:=by
 have hi:i < t.size:=by
  rcases Nat.lt_or_ge i t.size with h' | h'
  ·exact h'
  ·rw [getElem?_neg t i (by omega)] at hc; cases hc
 have hc':t[i]=c:=by
  rw [getElem?_pos t i hi] at hc
  injection hc
 rw [Zfm _ _ hi,List.all_append,hI,hc']
 have:Zat c=true:=by unfold Zat; simp; omega
 simp [this]
theorem Zpc {t:ByteArray} {i:Nat} {c:UInt8} (hc:t[i]? = some c) (h:(c.toNat:Int) < 48∨(c.toNat:Int) > 57):¬ (bytes t).all Zat=true:=by
 have hi:i < t.size:=by
  rcases Nat.lt_or_ge i t.size with h' | h'
  ·exact h'
  ·rw [getElem?_neg t i (by omega)] at hc; cases hc
 have hc':t[i]=c:=by
  rw [getElem?_pos t i hi] at hc
  injection hc
 intro ha
 have hm:t[i] ∈ bytes t:=by
  rw [← Zhf t hi]; exact List.getElem_mem _
 have:=ZdS (List.all_eq_true.1 ha _ hm)
 rw [hc'] at this
 unfold Zat at *
 have h2:=List.all_eq_true.1 ha _ hm
 rw [hc'] at h2
 simp at h2
 omega
section
variable {s r:ByteArray} {neg:Bool} {x:Int}
theorem Zus (h:bytes s=[48]):fvB (bytes s) x=(x == 0):=by unfold fvB; rw [if_pos h]; rfl
theorem Zg3 (h:¬ bytes s=[48]) (hM:Zap (bytes s)=(neg,bytes r)) (hb:bytes r=[]∨(bytes r).head? = some 48∨¬ okE x∨¬ (bytes r).all Zat=true):fvB (bytes s) x=false:=by
 unfold fvB
 rw [if_neg h,hM]
 refine decide_eq_false ?_
 rintro ⟨h1,h2,h3,h4,_⟩
 rcases hb with hb | hb | hb | hb
 ·exact h1 hb
 ·exact h2 hb
 ·exact hb h3
 ·exact hb h4
theorem Ztv {c c0:UInt8} (h:¬ bytes s=[48]) (hM:Zap (bytes s)=(neg,bytes r)) (h0:r[0]? = some c0) (hz:¬ (c0.toNat:Int)=48) (h1:¬ x < -1048576) (h2:¬ x > 1048576) (hd:(bytes r).all Zat=true) {k:Nat} (hk:r.size=k + 1) (hc:r[k]? = some c):fvB (bytes s) x=(((c.toNat % 2:Nat):Int) == 1):=by
 have e:bytes r=(bytes r).take k ++ [c]:=by
  have h':k < r.size:=by omega
  have:=Zfm r k h'
  rw [List.take_of_length_le (by rw [Zam]; omega)] at this
  rw [getElem?_pos r k h'] at hc
  injection hc with hc
  rw [hc] at this
  exact this
 have hp:Zae (bytes r) % 2=c.toNat % 2:=by
  rw [e] at hd ⊢
  exact Zsn hd
 have hh:(bytes r).head? = some c0:=by
  have h':0 < r.size:=by omega
  rw [getElem?_pos r 0 h'] at h0
  injection h0 with h0
  rw [← h0]; exact Zfn h'
 unfold fvB
 rw [if_neg h,hM]
 have h8:c0.toNat≠48:=by omega
 show decide _=decide _
 refine decide_eq_decide.2 ⟨fun q=>?_,fun q=>⟨?_,?_,⟨by omega,by omega⟩,hd,?_⟩⟩
 ·have:=q.2.2.2.2
  show ((c.toNat % 2:Nat):Int)=1
  rw [hp] at this; omega
 ·intro e'
  have e2:bytes r=[]:=e'
  have:(bytes r).length=0:=by rw [e2]; rfl
  rw [Zam] at this; omega
 ·rw [hh]; intro e; injection e with e; exact h8 (by rw [e]; rfl)
 ·have q':((c.toNat % 2:Nat):Int)=1:=q
  show Zae (bytes r) % 2=1
  rw [hp]; omega
end
theorem Zsr {P:Program} {o:Oper} {ρ:Operand→Value} {w:World} {t k:TypeId} {x y:Operand} {c:UInt8} (ho:o.op=Op.binOp .and t x y k) (hx:ρ x=.int .u8 (c.toNat:Int)) (hy:ρ y=.int .u8 1):(execOp ρ o).run P w=.ok (.value (.int .u8 ((c.toNat % 2:Nat):Int))) w:=by
 have h:bits .and .u8 (c.toNat:Int) 1=((c.toNat % 2:Nat):Int):=by
  have hc:=c.toNat_lt
  have h1:(BitVec.ofInt 8 (c.toNat:Int)).toNat=c.toNat:=by
   rw [BitVec.ofInt_natCast,BitVec.toNat_ofNat]; exact Nat.mod_eq_of_lt (by omega)
  show IntKind.u8.wrap ((BitVec.ofInt 8 (c.toNat:Int) &&& BitVec.ofInt 8 1).toNat:Int)=_
  rw [BitVec.toNat_and,h1,show (BitVec.ofInt 8 1).toNat=1 from rfl,Nat.and_one_is_mod,IntKind.wrap_u8]; omega
 rw [← h]
 simp only [execOp,ho,hx,hy,eqGuard,binOp]
 rfl
theorem ZgB (s:ByteArray) (w:World) :
 Calls Tryz.prog 63 #[.string s] w (Zpb s w):=by
 refine Zay (Φ:=fun w=>True) Tryz.func63 rfl (by kernel_rfl) (fun w' hf=>trivial) ?_
 refine Zac (Zab (xr 2 [(0, .v (.string s)),(2, .v (.bool false)),(3, .v (.string ⟨#[]⟩))] [] ?_))
 refine xe (Zaa (Zac (Zab (xr 1 [(2, .v (.bool false)),(3, .v (.string ⟨#[]⟩)),(7, .v (.string s))] [] ?_))))
 refine xc 104 [.string s, .string ⟨#[45]⟩] 8 (fun x:ByteArray × Bool=>.tuple #[.string x.1, .bool x.2]) _ (fun w R Q=>(Zib s _).mono (fun _ _=>Zp0)) (fun xx=>?_)
 obtain ⟨r,neg⟩:=xx
 refine xr 5 [(2, .v (.bool false)),(3, .v (.string ⟨#[]⟩)),(4, .v (.string r)),(5, .v (.bool neg))] [] ?_
 refine xe (Zaa (Zac (Zab (xr 4 [(2, .v (.bool neg)),(3, .v (.string r))] [] ?_))))
 refine xe (Zaa (Zai ?_))
 refine Zaf (v:=.tuple #[.bool neg, .string r]) (by kernel_rfl) (fun w' R Q=>?_)
 exact ⟨r,neg,rfl,Q.2,R⟩
theorem ZcC (s:ByteArray) (x:Int) (w:World) (hs:(bytes s).length≤1000000) :
 Calls Tryz.prog 19 #[.agg #[.string s, .int .i64 x]] w (RetV w (.bool (fvB (bytes s) x))):=by
 refine Zay (Φ:=fun w=>True) Tryz.func19 rfl (by kernel_rfl) (fun w' hf=>trivial) ?_
 refine Zac (Zab (xq 2 [(1, .p 1 0),(2, .v (.bool false))] [(1,24,[.v (.string s), .v (.int .i64 x)])] ?_))
 refine xe (Zaa (Zac (Zac ?_)))
 by_cases h48:bytes s=[48]
 ·refine Zab (xq 3 [(8, .v (.bool ((s:ByteArray).toList == (⟨#[48]⟩:ByteArray).toList)))] [] ?_)
  rw [Zlj h48]
  refine xe (Zaa (xa (Zac (Zab (xq 4 [(2, .v (.bool ((x:Int) == 0)))] [] ?_)))))
  refine xe (Zaa (Zai (Zah ?_)))
  refine Zaf (v:=.bool ((x:Int) == 0)) (by kernel_rfl) (fun w' R Q=>?_)
  exact ⟨by rw [Zus h48],R⟩
 ·refine Zab (xq 3 [(8, .v (.bool ((s:ByteArray).toList == (⟨#[48]⟩:ByteArray).toList)))] [] ?_)
  rw [Zlk h48]
  refine xe (Zaa (xb (Zaq (Zaa (Zac (Zab (xq 2 [(14, .v (.string s))] [] ?_)))))))
  refine xqc 63 [.string s] 15 Ziw _ (fun w R Q=>(ZgB s _).mono (fun _ _=>ZgA)) (fun xx=>?_)
  obtain ⟨r,neg⟩:=xx
  refine xq 5 [(4, .v (.string r))] [] ?_
  refine xe (Zaa (Zac (Zac ?_)))
  refine SXc.know (p:=Zap (bytes s)=(neg,bytes r)) (fun w _ Q=>Q.2) (fun HM=>?_)
  have hrl:r.size≤1000000:=by have:=ZlM HM; rw [Zam] at this; omega
  by_cases he:bytes r=[]
  ·refine Zab (xq 2 [(19, .v (.bool ((r:ByteArray).toList == (⟨#[]⟩:ByteArray).toList)))] [] ?_)
   rw [Zo3 he]
   refine xq 15 [(34, .v (.bool true))] [] ?_
   refine xe (Zaa (xa (Zac (Zab (xq 1 [(2, .v (.bool false))] [] ?_)))))
   refine xe (Zaa (Zai (Zah ?_)))
   refine Zaf (v:=.bool false) (by kernel_rfl) (fun w' R Q=>?_)
   exact ⟨by rw [Zg3 h48 HM (Or.inl he)],R⟩
  ·obtain ⟨c0,h0,hc0⟩:=Znz he
   have hs0:=ZjN he
   refine Zab (xq 2 [(19, .v (.bool ((r:ByteArray).toList == (⟨#[]⟩:ByteArray).toList)))] [] ?_)
   rw [Zo4 he]
   refine xq 2 [(20, .v (.bool false)),(21, .v (.string r))] [] ?_
   refine Zbn 22 (.int .u8 (c0.toNat:Int)) (by kernel_rfl) (by kernel_rfl) (by kernel_rfl) (by kernel_rfl) (by kernel_rfl) (by kernel_rfl) (fun w R Q=>Zef (t:=9) (x:=.tmp 21) (k:=0) (i:=.const (.int .i64 0)) (by kernel_rfl) (by kernel_rfl) (by kernel_rfl) (by rfl) hc0) ?_
   refine xr 3 [(1, .p 1 0),(2, .v (.bool false)),(4, .v (.string r)),(25, .v (.bool (((c0.toNat:Int):Int) == 48)))] [(1,24,[.v (.string s), .v (.int .i64 x)])] ?_
   rcases bl2 ((((c0.toNat:Int):Int) == 48)) with hb10 | hb10
   ·rw [hb10]
    have hb10':=beq_iff_eq.1 hb10
    refine xq 9 [(34, .v (.bool true))] [] ?_
    refine xe (Zaa (xa (Zac (Zab (xq 1 [(2, .v (.bool false))] [] ?_)))))
    refine xe (Zaa (Zai (Zah ?_)))
    refine Zaf (v:=.bool false) (by kernel_rfl) (fun w' R Q=>?_)
    exact ⟨by rw [Zg3 h48 HM (Or.inr (Or.inl (by rw [h0,show c0=48 from UInt8.toNat_inj.1 (by show c0.toNat=48; omega)])))],R⟩
   ·rw [hb10]
    have hb10':=ZbP hb10
    refine xq 5 [(30, .v (.bool (decide (x < (-1048576)))))] [] ?_
    rcases bl2 ((decide (x < (-1048576)))) with hb11 | hb11
    ·rw [hb11]
     have hb11':=of_decide_eq_true hb11
     refine xq 4 [(34, .v (.bool true))] [] ?_
     refine xe (Zaa (xa (Zac (Zab (xq 1 [(2, .v (.bool false))] [] ?_)))))
     refine xe (Zaa (Zai (Zah ?_)))
     refine Zaf (v:=.bool false) (by kernel_rfl) (fun w' R Q=>?_)
     exact ⟨by rw [Zg3 h48 HM (Or.inr (Or.inr (Or.inl (by rintro ⟨h1,h2⟩; omega))))],R⟩
    ·rw [hb11]
     have hb11':=of_decide_eq_false hb11
     refine xq 4 [(34, .v (.bool (decide (x > 1048576))))] [] ?_
     refine xe (Zaa ?_)
     refine ZaA ((decide (x > 1048576))) (by kernel_rfl) (fun hb12=>?_) (fun hb12=>?_)
     ·have hb12':=of_decide_eq_true hb12
      refine Zac (Zab (xq 1 [(2, .v (.bool false))] [] ?_))
      refine xe (Zaa (Zai (Zah ?_)))
      refine Zaf (v:=.bool false) (by kernel_rfl) (fun w' R Q=>?_)
      exact ⟨by rw [Zg3 h48 HM (Or.inr (Or.inr (Or.inl (by rintro ⟨h1,h2⟩; omega))))],R⟩
     ·have hb12':=of_decide_eq_false hb12
      refine Zaq (Zaa (Zac (Zac (Zab (xq 3 [(36, .v (.int .i64 ((r).size:Int))),(37, .v (.int .i64 0))] [] ?_)))))
      refine xe (Zaa (ZaO ?_))
      refine SXc.weak [(2, .v (.bool false)),(4, .v (.string r)),(36, .v (.int .i64 ((r).size:Int))),(37, .v (.int .i64 ((0:Nat):Int)))] [] (Ψ:=fun w=>True) (ZaL.of (by kernel_rfl)) (by kernel_rfl) (fun w Q=>trivial) ?_
      refine Zco (fun nn ss ff=>∃ (k:Nat),ss=ofL [(2, .v (.bool false)),(4, .v (.string r)),(36, .v (.int .i64 ((r).size:Int))),(37, .v (.int .i64 ((k:Nat):Int)))] []∧ff=(fun w=>True)∧(k≤r.size)∧(((bytes r).take k).all Zat=true)∧nn=(r.size - k)) ((r.size - 0)) ⟨0,rfl,rfl,(Nat.zero_le _),rfl,rfl⟩ ?_
      rintro nn ss ff ⟨k,rfl,rfl,hk,HD,rfl⟩
      refine Zac (Zab (xq 1 [(38, .v (.bool (decide (((k:Nat):Int) < ((r).size:Int)))))] [] ?_))
      refine xe (Zaa (Zac ?_))
      refine ZaA ((decide (((k:Nat):Int) < ((r).size:Int)))) (by kernel_rfl) (fun hb13=>?_) (fun hb13=>?_)
      ·have hb13':=of_decide_eq_true hb13
       have hlt:k < r.size:=by omega
       obtain ⟨c,hc⟩:∃ c,r[k]? = some c:=⟨r[k],by simp [hlt]⟩
       refine Zaq (Zaa (Zac (ZaO (Zac (Zab (xq 2 [(5, .v (.int .i64 ((k:Nat):Int)))] [] ?_))))))
       refine xe (Zaa (Zac (Zab (xq 2 [(40, .v (.string r)),(41, .v (.int .i64 ((k:Nat):Int)))] [] ?_))))
       refine Zbn 42 (.int .u8 (c.toNat:Int)) (by kernel_rfl) (by kernel_rfl) (by kernel_rfl) (by kernel_rfl) (by kernel_rfl) (by kernel_rfl) (fun w R Q=>Zef (t:=9) (x:=.tmp 40) (k:=k) (i:=.tmp 41) (by kernel_rfl) (by kernel_rfl) (by kernel_rfl) (by kernel_rfl) hc) ?_
       refine xr 2 [(2, .v (.bool false)),(4, .v (.string r)),(5, .v (.int .i64 ((k:Nat):Int))),(36, .v (.int .i64 ((r).size:Int))),(37, .v (.int .i64 ((k:Nat):Int))),(44, .v (.bool (decide ((c.toNat:Int) < 48))))] [] ?_
       rcases bl2 ((decide ((c.toNat:Int) < 48))) with hb14 | hb14
       ·rw [hb14]
        have hb14':=of_decide_eq_true hb14
        refine xq 5 [(49, .v (.bool true))] [] ?_
        refine xe (Zaa (xa (Zac (Zab (xq 1 [(2, .v (.bool false))] [] ?_)))))
        refine xe (Zaa (Zai (Zbv (Zah (Zah (Zbv (Zah ?_)))))))
        refine Zaf (v:=.bool false) (by kernel_rfl) (fun w' R Q=>?_)
        exact ⟨by rw [Zg3 h48 HM (Or.inr (Or.inr (Or.inr (Zpc hc (by omega)))))],R⟩
       ·rw [hb14]
        have hb14':=of_decide_eq_false hb14
        refine xq 2 [(45, .v (.string r)),(46, .v (.int .i64 ((k:Nat):Int)))] [] ?_
        refine Zbn 47 (.int .u8 (c.toNat:Int)) (by kernel_rfl) (by kernel_rfl) (by kernel_rfl) (by kernel_rfl) (by kernel_rfl) (by kernel_rfl) (fun w R Q=>Zef (t:=9) (x:=.tmp 45) (k:=k) (i:=.tmp 46) (by kernel_rfl) (by kernel_rfl) (by kernel_rfl) (by kernel_rfl) hc) ?_
        refine xr 2 [(2, .v (.bool false)),(4, .v (.string r)),(36, .v (.int .i64 ((r).size:Int))),(37, .v (.int .i64 ((k:Nat):Int))),(49, .v (.bool (decide ((c.toNat:Int) > 57))))] [] ?_
        refine xe (Zaa ?_)
        refine ZaA ((decide ((c.toNat:Int) > 57))) (by kernel_rfl) (fun hb15=>?_) (fun hb15=>?_)
        ·have hb15':=of_decide_eq_true hb15
         refine Zac (Zab (xq 1 [(2, .v (.bool false))] [] ?_))
         refine xe (Zaa (Zai (Zbv (Zah (Zah (Zbv (Zah ?_)))))))
         refine Zaf (v:=.bool false) (by kernel_rfl) (fun w' R Q=>?_)
         exact ⟨by rw [Zg3 h48 HM (Or.inr (Or.inr (Or.inr (Zpc hc (by omega)))))],R⟩
        ·have hb15':=of_decide_eq_false hb15
         refine Zaq (ZbT (Zaa (Zab (xq 1 [(50, .v (.int .i64 (IntKind.i64.wrap (((k:Nat):Int) + 1))))] [] ?_))))
         rw [show IntKind.i64.wrap (((k:Nat):Int) + 1)=((k + 1:Nat):Int) from by rw [IntKind.wrap_i64]; omega]
         refine xq 1 [(37, .v (.int .i64 ((k + 1:Nat):Int)))] [] ?_
         refine xe ?_
         refine SXq.weak [(2, .v (.bool false)),(4, .v (.string r)),(36, .v (.int .i64 ((r).size:Int))),(37, .v (.int .i64 (((k + 1):Nat):Int)))] [] (Ψ:=fun w=>True) (ZaL.of (by kernel_rfl)) (by kernel_rfl) (fun w Q=>trivial) ?_
         exact ZbA ((r.size - (k + 1))) (by omega) ⟨(k + 1),rfl,rfl,hlt,(Zsq HD hc (by omega) (by omega)),rfl⟩
      ·have hb13':=of_decide_eq_false hb13
       have hall:(bytes r).all Zat=true:=by have h:=HD; rw [List.take_of_length_le (by rw [Zam]; omega)] at h; exact h
       refine ZbD (ZaB (ZaB (ZbU (Zaa (Zac ?_)))))
       obtain ⟨k1,hk1⟩:∃ k1,r.size=k1 + 1:=⟨r.size - 1,by omega⟩
       obtain ⟨c,hc⟩:∃ c,r[k1]? = some c:=⟨r[k1],by simp [hk1]⟩
       refine Zab (xq 4 [(51, .v (.string r)),(54, .v (.int .i64 (IntKind.i64.wrap (((r).size:Int) - 1))))] [] ?_)
       rw [show IntKind.i64.wrap ((r.size:Int) - 1)=((k1:Nat):Int) from by rw [IntKind.wrap_i64]; omega]
       refine Zbn 55 (.int .u8 (c.toNat:Int)) (by kernel_rfl) (by kernel_rfl) (by kernel_rfl) (by kernel_rfl) (by kernel_rfl) (by kernel_rfl) (fun w R Q=>Zef (t:=9) (x:=.tmp 51) (k:=k1) (i:=.tmp 54) (by kernel_rfl) (by kernel_rfl) (by kernel_rfl) (by kernel_rfl) hc) ?_
       refine xr 0 [(2, .v (.bool false)),(55, .v (.int .u8 (c.toNat:Int)))] [] ?_
       refine Zbn 56 (.int .u8 ((c.toNat % 2:Nat):Int)) (by kernel_rfl) (by kernel_rfl) (by kernel_rfl) (by kernel_rfl) (by kernel_rfl) (by kernel_rfl) (fun w R Q=>Zsr (t:=5) (k:=5) (x:=.tmp 55) (y:=.const (.int .u8 1)) (by kernel_rfl) (by kernel_rfl) (by kernel_rfl)) ?_
       refine xr 2 [(2, .v (.bool ((((c.toNat % 2:Nat):Int):Int) == 1)))] [] ?_
       refine xe (Zaa (Zai ?_))
       refine Zaf (v:=.bool ((((c.toNat % 2:Nat):Int):Int) == 1)) (by kernel_rfl) (fun w' R Q=>?_)
       exact ⟨by rw [Ztv h48 HM hc0 (by omega) (by omega) (by omega) hall hk1 hc],R⟩
theorem Zjp (b:Int) (w:World) :
 Calls Tryz.prog 55 #[.int .i64 b] w (RetV w (.bool (decide (8≤b∧b≤1024)))):=by
 refine Zay (Φ:=fun w=>True) Tryz.func55 rfl (by kernel_rfl) (fun w' hf=>trivial) ?_
 refine Zac (Zab (xq 1 [(2, .v (.bool false))] [] ?_))
 refine xe (Zaa (Zac (Zab (xq 3 [(5, .v (.bool (decide (b ≥ 8))))] [] ?_))))
 rcases bl2 ((decide (b ≥ 8))) with hb10 | hb10
 ·rw [hb10]
  have hb10':=of_decide_eq_true hb10
  refine xq 4 [(2, .v (.bool (decide (b≤1024))))] [] ?_
  refine xe (Zaa (Zai ?_))
  refine Zaf (v:=.bool (decide (b≤1024))) (by kernel_rfl) (fun w' R Q=>?_)
  exact ⟨congrArg (fun b=>Ending.returned (Value.bool b)) (decide_eq_decide.2 ⟨fun h=>⟨by omega,h⟩,fun h=>h.2⟩),R⟩
 ·rw [hb10]
  have hb10':=of_decide_eq_false hb10
  refine xq 4 [(2, .v (.bool false))] [] ?_
  refine xe (Zaa (Zai ?_))
  refine Zaf (v:=.bool false) (by kernel_rfl) (fun w' R Q=>?_)
  exact ⟨by rw [decide_eq_false (p:=8≤b∧b≤1024) (by omega)],R⟩
end Go.Proofs.YtklpdkpcocnglaaGreatDoor

namespace Go.Proofs.YtklpdkpcocnglaaGreatDoor
open Go.RowKit Go.Sort
def Zf8 (w:World) (l:List UInt8) (e:Ending) (w':World):Prop:=e=.returned (.string ⟨l.toArray⟩)∧Ext w w'
set_option maxHeartbeats 2000000 in
theorem ZhM (u:Nat) (w:World) (hu:u < 100) :
 Calls Tryz.prog 151 #[.int .u64 (u:Int), .int .i64 10] w (Zf8 w (Lib.decDigits u)):=by
 have iu:(u:Int) < 100:=by omega
 go_enter Tryz.func151,Tryz.ntmps151
 go_wp2_with (go_at_call 179; refine (Tryz.internal_strconv_small u hu _).mono ?_; rintro e w' ⟨rfl,rfl⟩)
 go_ret
 exact ⟨rfl,Fr.refl _ _⟩
set_option maxHeartbeats 4000000 in
theorem Zi3 (u nd:Nat) (w:World) (hg:Glob w) (hu:100≤u) (hu64:u < 18446744073709551616) (hnd:Lib.nDigits u=nd) :
 Calls Tryz.prog 151 #[.int .u64 (u:Int), .int .i64 10] w (Zf8 w (Lib.decDigits u)):=by
 have hlen:=Zns u (by rw [Zal]; exact hu64)
 have hln:=Lib.decDigits_length u
 rw [hnd] at hln
 rw [hln] at hlen
 have hal:Tryz.prog.arrayLen 202=24:=by simp [Program.arrayLen,Tryz.underlying202]
 have hsl:∀ W,(Instr.sliceAt 202 (.pointer (some ⟨w.heap.size,0,none⟩)) none (some (.int .i64 (nd:Int))) none).run Tryz.prog W=.ok (.slice (some ⟨w.heap.size,0,none⟩) nd 24) W:=fun W=>by
  rw [run_sliceAt_array_h W 202 ⟨w.heap.size,0,none⟩ (by simp [Program.arrayLen,Program.elem,Tryz.underlying202]) .i64 (nd:Int) (by omega) (by rw [hal]; omega)]
  go_simp
 have hH0:=Lib.holds_zero0 w 202 nd (by omega)
 have hfmt:=Tryz.internal_strconv_formatBase10 w.heap.size 0 24 u (Array.replicate nd 0) (w.alloc (.cells Lib.zeros24 202)) hH0 (by rw [Array.size_replicate,← hnd]; exact Lib.lt_pow_nDigits u) hu64 (by rw [Array.size_replicate]; omega)
 have hnum:=Tryz.internal_strconv_numDigits u (by omega) hu64 (w.alloc (.cells Lib.zeros24 202)) (Lib.tabIs_alloc hg.1 _)
 rw [Array.size_replicate] at hfmt
 rw [hnd] at hnum
 have HH0:=zh hH0
 have HD:=zh hln
 have HND:=zh hnd
 have iu:(100:Int)≤(u:Int):=by omega
 clear hH0 hal hln hnd hg
 go_enter Tryz.func151,Tryz.ntmps151
 go_wp2_with (go_at_call 180; refine hnum.mono ?_; rintro e w' ⟨rfl,rfl⟩)
 go_at_call 181
 refine hfmt.mono ?_
 rintro e w' ⟨rfl,k,v',dk,rfl,hF⟩
 have hcv:(convert 143 9 (.slice (some ⟨w.heap.size,0,none⟩) nd 24)).run Tryz.prog ((putRow (fun (b:UInt8)=>Value.int .u8 (b.toNat:Int)) (w.alloc (.cells Lib.zeros24 202)) w.heap.size 0 dk).drewN k)=.ok (.string ⟨(Lib.decDigits u).toArray⟩) ((putRow (fun (b:UInt8)=>Value.int .u8 (b.toNat:Int)) (w.alloc (.cells Lib.zeros24 202)) w.heap.size 0 dk).drewN k):=by
  have h:=run_convert_bytes_back (P:=Tryz.prog) ((putRow (fun (b:UInt8)=>Value.int .u8 (b.toNat:Int)) (w.alloc (.cells Lib.zeros24 202)) w.heap.size 0 dk).drewN k) 143 9 5 ⟨w.heap.size,0,none⟩ 24 (Lib.decDigits u) Tryz.underlying143 Tryz.underlying5 Tryz.underlying9 (fun j hj=>by
   rw [Lib.row_is_numeral (by rw [HND.out]; exact hF) j hj,Lib.add_plain,World.cell?_drewN]
   exact cell?_putRow (fun (b:UInt8)=>Value.int .u8 (b.toNat:Int)) _ w.heap.size 0 _ dk HH0.out (by rw [hF.size,Array.size_replicate]) j (by rw [hF.size]; rw [HD.out] at hj; exact hj))
  rw [HD.out] at h
  exact h
 obtain ⟨os,eo⟩:=Lib.fin_at w (.cells Lib.zeros24 202) dk k 0
 have Q:Ext w ((putRow (fun (b:UInt8)=>Value.int .u8 (b.toNat:Int)) (w.alloc (.cells Lib.zeros24 202)) w.heap.size 0 dk).drewN k):=by
  rw [eo]; exact Fr.ofBelow (Lib.below_grow _ w (Nat.le_refl _) k os)
 generalize (putRow (fun (b:UInt8)=>Value.int .u8 (b.toNat:Int)) (w.alloc (.cells Lib.zeros24 202)) w.heap.size 0 dk).drewN k=w1 at Q hcv ⊢
 have HE:=zh Q
 clear Q eo hF hfmt hnum
 go_wp2
 go_ret
 exact ⟨rfl,HE.out⟩
set_option maxHeartbeats 1000000 in
theorem Zlm (u:Nat) (w:World) (hg:Glob w) (hu:u < W64) :
 Calls Tryz.prog 110 #[.int .u64 (u:Int), .int .i64 10] w (Zf8 w (Lib.decDigits u)):=by
 have h:Calls Tryz.prog 151 #[.int .u64 (u:Int), .int .i64 10] w (Zf8 w (Lib.decDigits u)):=by
  rcases Nat.lt_or_ge u 100 with h | h
  ·exact ZhM u w h
  ·exact Zi3 u _ w hg h (by rw [Zal] at hu; exact hu) rfl
 have H:=zh h
 clear h hg hu
 go_enter Tryz.func110,Tryz.ntmps110
 go_wp2_with fail
 refine H.out.mono ?_
 rintro e w' ⟨rfl,Q⟩
 have HE:=zh Q
 clear Q
 go_wp2
 go_ret
 exact ⟨rfl,HE.out⟩
end Go.Proofs.YtklpdkpcocnglaaGreatDoor

namespace Go.Proofs.YtklpdkpcocnglaaGreatDoor
open Go.RowKit
def chV:List Nat→Nat
 | []=>0
 | c :: cs=>c + 10 ^ 19 * chV cs
theorem Zhw (c:Nat):∀ cs:List Nat,chV (cs ++ [c])=chV cs + (10 ^ 19) ^ cs.length * c
 | []=>by simp [chV]
 | d :: cs=>by
   show d + 10 ^ 19 * chV (cs ++ [c])=d + 10 ^ 19 * chV cs + (10 ^ 19) ^ (cs.length + 1) * c
   rw [Zhw c cs,Nat.pow_succ (m:=cs.length) (n:=10 ^ 19),Nat.mul_add,← Nat.mul_assoc,Nat.mul_comm (10 ^ 19) ((10 ^ 19) ^ cs.length),Nat.add_assoc]
structure ChR (n:Nat) (cs:List Nat) (r:Nat):Prop where
 eq:n=chV cs + (10 ^ 19) ^ cs.length * r
 lt:∀ c ∈ cs,c < 10 ^ 19
 top:r=0→cs≠[]→∃ l c,cs=l ++ [c]∧0 < c
theorem ChR.start (n:Nat):ChR n [] n:=⟨by simp [chV],fun c h=>by simp at h,fun _ h=>absurd rfl h⟩
theorem ChR.step {n r:Nat} {cs:List Nat} (h:ChR n cs r) (hr:0 < r):ChR n (cs ++ [r % 10 ^ 19]) (r / 10 ^ 19):=by
 refine ⟨?_,fun c hc=>?_,fun h0 _=>⟨cs,_,rfl,?_⟩⟩
 ·rw [Zhw,List.length_append,List.length_singleton,Nat.pow_succ (m:=cs.length) (n:=10 ^ 19),Nat.mul_assoc,Nat.add_assoc,← Nat.mul_add,Nat.mod_add_div]
  exact h.eq
 ·rcases List.mem_append.1 hc with h1 | h1
  ·exact h.lt c h1
  ·rw [List.mem_singleton.1 h1]; exact Nat.mod_lt _ (by decide)
 ·have h1:=Nat.mod_add_div r (10 ^ 19)
  rw [h0,Nat.mul_zero,Nat.add_zero] at h1
  omega
theorem Zpd {cs:List Nat} (h:∃ l c,cs=l ++ [c]∧0 < c):0 < chV cs:=by
 obtain ⟨l,c,rfl,hc⟩:=h
 rw [Zhw]
 have:=Nat.mul_pos (Nat.pow_pos (n:=l.length) (show 0 < 10 ^ 19 by decide)) hc
 omega
theorem ZnF {cs:List Nat} {i:Nat} (hi:i < cs.length) (h:∃ l c,cs=l ++ [c]∧0 < c):∃ l c,cs.drop i=l ++ [c]∧0 < c:=by
 obtain ⟨l,c,rfl,hc⟩:=h
 rw [List.length_append,List.length_singleton] at hi
 exact ⟨l.drop i,c,List.drop_append_of_le_length (by omega),hc⟩
theorem Zss {cs:List Nat} {i c:Nat} (hi:i < cs.length) (hc:cs[i]?.getD 0=c) (hlt:∀ c ∈ cs,c < 10 ^ 19) (ht:∃ l c,cs=l ++ [c]∧0 < c) :
 ZaZ (chV (cs.drop i))=if i + 1 < cs.length then ZaZ (chV (cs.drop (i + 1))) ++ (List.replicate (19 - (Lib.decDigits c).length) 48 ++ Lib.decDigits c) else Lib.decDigits c:=by
 have hd:cs.drop i=c :: cs.drop (i + 1):=by
  rw [List.drop_eq_getElem_cons hi]
  rw [List.getElem?_eq_getElem hi] at hc
  simp only [Option.getD_some] at hc
  rw [hc]
 have hcl:c < 10 ^ 19:=by
  rw [List.getElem?_eq_getElem hi] at hc
  simp only [Option.getD_some] at hc
  rw [← hc]; exact hlt _ (List.getElem_mem hi)
 rw [hd]
 show ZaZ (c + 10 ^ 19 * chV (cs.drop (i + 1)))=_
 by_cases h:i + 1 < cs.length
 ·rw [if_pos h,Nat.add_comm,Nat.mul_comm,Zmo (Zpd (ZnF h ht)) 19 c hcl,Zsk (by omega) hcl]
 ·rw [if_neg h,List.drop_of_length_le (by omega)]
  show ZaZ (c + 10 ^ 19 * 0)=_
  have h1:=Zpd (ZnF hi ht)
  rw [hd,List.drop_of_length_le (by omega)] at h1
  rw [Nat.mul_zero,Nat.add_zero]
  exact ZbQ (by simp [chV] at h1; omega)
end Go.Proofs.YtklpdkpcocnglaaGreatDoor

namespace Go.Proofs.YtklpdkpcocnglaaGreatDoor
open Go.RowKit
set_option maxHeartbeats 2000000 in
theorem ZnJ (t:ByteArray) (v:Nat) (w:World) (hd:(bytes t).all Zat=true) (hv:Zae (bytes t)=v) (h0:t.size≠0) (hm:t.size≤1099511627776) (hb:v < 18446744073709551616) :
 Calls Tryz.prog 144 #[.string t, .int .i64 10, .int .i64 64] w fun e w'=>e=.returned (.tuple #[.int .u64 (v:Int), .nilIface])∧Ext w w':=by
 have hp:Lib.parseUint10 0 t.data.toList=.ok v:=by
  have h:=pu10 (bytes t) 0 hd (by rw [Nat.zero_mul,Nat.zero_add,hv]; exact hb)
  rw [Nat.zero_mul,Nat.zero_add,hv] at h
  exact h
 have h:=Tryz.internal_strconv_ParseUint_10_b64 t h0 (by omega) w
 rw [hp] at h
 have h2:Calls Tryz.prog 176 #[.string t, .int .i64 10, .int .i64 64] w fun e w'=>e=.returned (.tuple #[.int .u64 (v:Int), .nilIface])∧Ext w w':=by
  refine h.mono ?_
  rintro e w' ⟨rfl,rfl⟩
  exact ⟨rfl,rfl,rfl,rfl,by rw [Lib.bytesWorld_size]; omega,fun i hi _=>Lib.bytesWorld_at_old _ _ _ i hi⟩
 have H:=zh h2
 clear h h2 hp hd hv hb
 go_enter Tryz.func144,Tryz.ntmps144
 go_wp2_with fail
 refine H.out.mono ?_
 rintro e w' ⟨rfl,Q⟩
 have HE:=zh Q
 clear Q
 go_wp2
 go_ret2
 exact ⟨rfl,HE.out⟩
def Zqc (w wr:World) (T:Nat) (d:ByteArray) (A:Option Addr) (cap:Nat) (xs:List Nat):Prop :=
 Buf .u64 94 wr A cap xs∧PaR T (bytes d) xs∧Ext w wr∧∀ b,ZaE A b→w.heap.size≤b
set_option maxHeartbeats 4000000 in
theorem Zhy (d:ByteArray) (w:World) (T:Nat) (hd:(bytes d).all Zat=true) (hT:Zae (bytes d)=T) (hw:wl T≤1048576) (hl:d.size≤1099511627776) :
 Calls Tryz.prog 100 #[.string d] w (Zbg w T):=by
 have HS:=zh (PaR.start hd hT)
 clear hd hT
 have ha:=ZfS
 go_enter Tryz.func100,Tryz.ntmps100
 go_wp2
 go_loopw [0,3] (fun v0 v3 wr=>∃ (d:ByteArray) (A:Option Addr) (cap:Nat) (xs:List Nat),v0=.string d∧v3=.slice A xs.length cap∧d.size≤1099511627776∧Hid (Zqc w wr T d A cap xs)) (fun v0 _ _=>match v0 with | .string d=>d.size | _=>0)
 case atStart=>exact ⟨d,none,0,[],rfl,rfl,hl,Buf.nil,HS.out,Fr.refl _ _,fun b hb=>by obtain ⟨a,ha,_⟩:=hb; cases ha⟩
 case round =>
  obtain ⟨d,A,cap,xs,rfl,rfl,hl,hR⟩:=hrel
  by_cases hpos:0 < d.size
  ·have hlen:=hR.out.2.1.len
   obtain ⟨n,hn⟩:∃ n,d.size=n:=⟨_,rfl⟩
   obtain ⟨z,hz⟩:∃ z,(n - 1) % 19=z:=⟨_,rfl⟩
   have hz18:z≤18:=by omega
   have hzn:z + 1≤n:=by have:=Nat.mod_le (n - 1) 19; omega
   have e1:((n:Int) - 1) % 19=(z:Int):=by omega
   have hn1:(1:Int)≤(n:Int):=by omega
   have hn2:(0:Int)≤(n:Int) - 1:=by omega
   have hzI:((z:Int) + 1)≤(n:Int):=by omega
   have hzT:((z:Int) + 1).toNat=z + 1:=by omega
   have hbl:(bytes d).length=n:=by rw [Zam]; exact hn
   have hes:(d.extract 0 (z + 1)).size=z + 1:=by rw [ByteArray.size_extract]; omega
   have hbs:bytes (d.extract 0 (z + 1))=(bytes d).take (z + 1):=by rw [Zbs]; simp
   obtain ⟨c,hc⟩:∃ c,Zae ((bytes d).take (z + 1))=c:=⟨_,rfl⟩
   have hcb:=hR.out.2.1.chunk (z:=z) (by omega) (by rw [hbl]; exact hz)
   rw [hc] at hcb
   have hPU:∀ W,Calls Tryz.prog 144 #[.string (d.extract 0 (z + 1)), .int .i64 10, .int .i64 64] W fun e w'=>e=.returned (.tuple #[.int .u64 (c:Int), .nilIface])∧Ext W w':=fun W =>
    ZnJ _ c W (by
     rw [hbs,List.all_eq_true]; intro x hx
     exact List.all_eq_true.1 hR.out.2.1.all _ (List.mem_of_mem_take hx)) (by rw [hbs]; exact hc) (by rw [hes]; omega) (by rw [hes]; omega) (by omega)
   have hd2:bytes (d.extract (z + 1) d.size)=(bytes d).drop (z + 1):=by
    rw [Zbs,List.take_of_length_le (by rw [List.length_drop,Zam]; exact Nat.le_refl _)]
   have hd2s:(d.extract (z + 1) d.size).size=d.size - (z + 1):=by rw [ByteArray.size_extract]; omega
   have Hd2:=zh hd2
   have Hd2s:=zh hd2s
   have HPU:=zh hPU
   have Hhz:Hid (((bytes d).length - 1) % 19=z):=by unfold Hid; rw [hbl]; exact hz
   have Hbl:Hid (0 < (bytes d).length):=by unfold Hid; omega
   have Hc:=zh hc
   have Hn:=zh hn
   clear hd2 hd2s hPU hbs hes hbl hc hz
   go_wp2_with fail
   refine (HPU.out _).mono ?_
   rintro e wB ⟨rfl,hext⟩
   have HX:=zh hext
   clear hext
   have hzd:z + 1≤d.size:=by rw [Hn.out]; exact hzn
   clear hn
   go_wp2_with fail
   have HR0:=zh hR.out.1
   have HP:=zh hR.out.2.1
   have HE0:=zh hR.out.2.2.1
   have HN0:=zh hR.out.2.2.2
   have hd2l:(d.extract (z + 1) d.size).size≤1099511627776:=by rw [Hd2s.out]; omega
   have hmeas:Hid ((d.extract (z + 1) d.size).size < d.size):=by rw [Hid,Hd2s.out]; omega
   have HStep:Hid (∀ m q,ZcB xs 10000000000000000000 c xs.length m q→PaR T (bytes (d.extract (z + 1) d.size)) (if q=0 then m else m ++ [q])):=by
    intro m q hM
    rw [Hd2.out]
    exact HP.out.step Hbl.out Hhz.out (by rw [Hc.out]; exact hM)
   generalize d.extract (z + 1) d.size=d2 at *
   have HcW:Hid (c < W64):=by unfold Hid; rw [Zal]; omega
   have HpW:Hid (10000000000000000000 < W64):=by unfold Hid; rw [Zal]; omega
   go_loopw [5,32] (fun v9 v44 wx=>∃ (k q:Nat) (m:List Nat),k≤xs.length∧v44=.int .i64 (k:Int)∧v9=.int .u64 (q:Int)∧Hid (ZcB xs 10000000000000000000 c k m q)∧Hid (Buf .u64 94 wx A cap m)∧Hid (Fr (ZaE A) wB wx)) (fun _ v _=>xs.length - (intOf v).toNat)
   case atStart=>exact ⟨0,c,xs,by omega,rfl,rfl,ZcB.start HP.out.dig HcW.out,HR0.out.ext HX.out,Fr.refl _ _⟩
   case round =>
    obtain ⟨k,q,m,hk,rfl,rfl,hM,hB,hF⟩:=hrel
    have hml:m.length=xs.length:=hM.out.1
    by_cases hlt:k < xs.length
    ·obtain ⟨b,rfl,hO,hC,hmc,hcm⟩:=hB.out.open_ (by intro e; rw [e] at hml; simp at hml; omega)
     obtain ⟨y,hy⟩:∃ y,m[k]?.getD 0=y:=⟨_,rfl⟩
     have hcell:=hO.cell (i:=k) (by omega)
     rw [hy] at hcell
     have hfrz:=hO.frozen k
     have HyW:Hid (y < W64):=hy ▸ hM.out.2.2.1.getD Zan k
     have HM2:=zh (hM.out.step hlt hy HpW.out)
     have HB2:=fun v=>Buf.set_ hO hC hmc hcm k v (by omega)
     have HBh:=zh HB2
     have HqW:=zh hM.out.2.2.2.1
     have HW:Hid (IntKind.u64.wrap ((Zbj y 10000000000000000000:Int) + (ZaT (ZaG y 10000000000000000000) q 0:Int))=(maHi y 10000000000000000000 q:Int)):=by
      have h:=ZgU HyW.out HpW.out HqW.out
      unfold Hid maHi at *
      rw [← Int.natCast_add,ZaQ _ h]
     have hblt2:=hO.lt
     have Hml:=zh hml
     clear hO hC hmc hcm hy HB2 hml
     go_wp2_with (go_at_call 145; refine (Zfj _ _ HyW.out HpW.out _).mono ?_; rintro e w' ⟨rfl,rfl⟩)
     go_roundw
     case rel=>exact ⟨k + 1,_,_,by omega,by go_num,by rw [HW.out],HM2.out,HBh.out _,hF.out.setCell (p:=⟨b,k,none⟩) (Or.inl ⟨_,rfl,rfl⟩) _⟩
     case measure=>simp [intOf]; omega
    ·obtain rfl:k=xs.length:=by omega
     have HEx:Hid (Ext w wr):=(HE0.out.trans HX.out).next hF.out (fun i hi hb=>by have:=HN0.out i hb; omega)
     by_cases hq:q=0
     ·subst hq
      have hS:=HStep.out m 0 hM.out
      rw [if_pos rfl] at hS
      have HNew:Hid (Zqc w wr T d2 A cap m):=⟨hB.out,hS,HEx.out,HN0.out⟩
      have Hml:=zh hml
      clear hS hml
      go_wp2
      go_roundw
      case rel=>exact ⟨d2,A,cap,m,rfl,by rw [Hml.out],hd2l,HNew.out⟩
      case measure=>exact hmeas.out
     ·have hq':(0:Int) < (q:Int):=by omega
      have hS:=HStep.out m q hM.out
      rw [if_neg hq] at hS
      have HNum:=zh hS
      have Hml:=zh hml
      have hSh:Hid (Zag .u64 (wr.alloc (.cells #[.int .u64 (q:Int)] 94)) (some ⟨wr.heap.size,0,none⟩) [q]):=(Own.new wr 94 .u64 [q] []).shows0
      clear hS hml hq
      go_wp2_with (at_builtin; refine Hid.out ?_)
      refine zh ?_
      refine Za4 rfl _ _ _ rfl _ .u64 8 Tryz.underlying77 Zdn A (some ⟨wr.heap.size,0,none⟩) xs.length 1 cap 1 rfl rfl m [q] Hml.out rfl (hB.out.ext ((Fr.refl _ _).alloc _)) hSh.out (by simp only [maxLen]; omega) (by omega) ?_
      intro A1 cap1 w2 hB1 hF1 hA1
      have HNew:Hid (Zqc w w2 T d2 A1 cap1 (m ++ [q])):=by
       refine ⟨hB1,HNum.out,?_,?_⟩
       ·exact (HEx.out.alloc _).next hF1 (fun i hi hb=>by have:=HN0.out i hb; omega)
       ·intro b hb
        rcases hA1 b hb with h | h
        ·exact HN0.out b h
        ·have:=HEx.out.size; simp at h; omega
      clear hB1 hF1 hA1
      go_wp2
      go_roundw
      case rel=>exact ⟨d2,A1,cap1,m ++ [q],rfl,by rw [List.length_append,Hml.out]; rfl,hd2l,HNew.out⟩
      case measure=>exact hmeas.out
  ·have h0:d.size=0:=by omega
   obtain ⟨h1,h2,h3,h4⟩:=hR.out
   have hN:Hid (Zbg w T (.returned (.slice A xs.length cap)) wr):=by
    refine ⟨_,rfl,?_,h3⟩
    have hb:bytes d=[]:=List.eq_nil_of_length_eq_zero (by rw [Zam]; exact h0)
    rw [hb] at h2
    exact ⟨A,xs,cap,rfl,h1.len,h1.shows,h2.dig,h2.trim,h2.done⟩
   clear h1 h2 h3 h4
   go_wp2
   go_ret
   exact hN.out
end Go.Proofs.YtklpdkpcocnglaaGreatDoor
