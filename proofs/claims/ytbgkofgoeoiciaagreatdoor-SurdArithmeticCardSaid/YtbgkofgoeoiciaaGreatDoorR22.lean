/-
 My texts Sdr, SdF, SdG, Nm, Pp, Sre, SdT, SdL, SdLa put together.
-/
import Derived.Test.YtbgkofgoeoiciaaGreatDoorR21
import Derived.Test.YtbgkofgoeoiciaaGreatDoorR19
import Derived.Test.YtbgkofgoeoiciaaGreatDoorR02
set_option maxRecDepth 100000
namespace Go.Proofs.YtbgkofgoeoiciaaGreatDoor
open Go.RowKit
theorem ZtN {d e:Int} (h:¬ Blg d e):blg d e=false:=by
 cases hb:blg d e with
 | false=>rfl
 | true=>exact absurd (Zo4.1 hb) h
theorem Zta {a b:Rat} {d:Int} (h:(d == 1)=true):Sd.build a b d=⟨a + b,0,1⟩:=by unfold Sd.build; exact if_pos (eq_of_beq h)
theorem Zo8 {a b:Rat} {d:Int} (h:(d == 1)=false):Sd.build a b d=nv a b d:=by unfold Sd.build nv; exact if_neg (ZqW h)
open Classical in
noncomputable def divV (x y:Sd):Value:=if y.a=0∧y.b=0 then .tuple #[zS, .int .i64 5] else okS (x.over y)
theorem ZqX {x:Sd} (h:x.a=0∧x.b=0):(decide (x.a.num=0) && decide (x.b.num=0))=true:=by rw [h.1,h.2]; rfl
theorem ZqY {x:Sd} (h:¬ (x.a=0∧x.b=0)):(decide (x.a.num=0) && decide (x.b.num=0))=false:=by
 rw [Bool.and_eq_false_iff,decide_eq_false_iff_not,decide_eq_false_iff_not,Rat.num_eq_zero,Rat.num_eq_zero]
 by_cases h1:x.a=0
 ·exact Or.inr fun h2=>h ⟨h1,h2⟩
 ·exact Or.inl h1
theorem ZjB (N R M:Nat) (w:World) (hN:N≤1000000) (hS:SqF N R M) :
 Calls Tryz.prog 95 #[.int .i64 ((N:Nat):Int)] w (RetV w (.tuple #[.int .i64 ((R:Nat):Int), .int .i64 ((M:Nat):Int)])):=by
 refine Zan (Φ:=fun w=>True) Tryz.func95 rfl (by kernel_rfl) (fun w' hf=>trivial) ?_
 refine Zac (Zab (xr 2 [(0, .v (.int .i64 ((N:Nat):Int))),(2, .v (.int .i64 0)),(3, .v (.int .i64 0))] [] ?_))
 refine xe (Zaa (Zac (Zab (xr 1 [(0, .v (.int .i64 ((N:Nat):Int))),(2, .v (.int .i64 0)),(3, .v (.int .i64 0)),(4, .v (.int .i64 1))] [] ?_))))
 refine xe (Zaa (Zac (Zac (Zab (xr 1 [(0, .v (.int .i64 ((N:Nat):Int))),(2, .v (.int .i64 0)),(3, .v (.int .i64 0)),(4, .v (.int .i64 1)),(5, .v (.int .i64 2))] [] ?_)))))
 refine xe (Zaa (ZaK ?_))
 refine SXc.weak [(0, .v (.int .i64 ((N:Nat):Int))),(4, .v (.int .i64 ((1:Nat):Int))),(5, .v (.int .i64 ((2:Nat):Int)))] [] (Ψ:=fun w=>True) (ZbT.of (by kernel_rfl)) (by kernel_rfl) (fun w Q=>trivial) ?_
 refine ZgE (fun nn ss ff=>∃ (m r k:Nat),ss=ofL [(0, .v (.int .i64 ((m:Nat):Int))),(4, .v (.int .i64 ((r:Nat):Int))),(5, .v (.int .i64 ((k:Nat):Int)))] []∧ff=(fun w=>True)∧(r * r * m=N)∧(0 < m)∧(m≤1000000)∧(ZcC k m)∧(2≤k)∧(k≤1001)∧nn=(2000 - k)) ((2000 - 2)) ⟨N,1,2,rfl,rfl,(by omega),hS.pos,hN,(ZcC.two N),(by omega),(by omega),rfl⟩ ?_
 rintro nn ss ff ⟨m,r,k,rfl,rfl,hmul,hm0,hmN,hF,hk2,hk3,rfl⟩
 refine Zac (Zac (Zab (xr 3 [(0, .v (.int .i64 ((m:Nat):Int))),(4, .v (.int .i64 ((r:Nat):Int))),(5, .v (.int .i64 ((k:Nat):Int))),(8, .v (.int .i64 (IntKind.i64.wrap (((k:Nat):Int) * ((k:Nat):Int)))))] [] ?_)))
 rw [nmul (Zkv (by omega))]
 refine xr 2 [(0, .v (.int .i64 ((m:Nat):Int))),(4, .v (.int .i64 ((r:Nat):Int))),(5, .v (.int .i64 ((k:Nat):Int))),(10, .v (.bool (decide (((k * k:Nat):Int)≤((m:Nat):Int)))))] [] ?_
 refine xe (Zaa ?_)
 refine Zbb ((decide (((k * k:Nat):Int)≤((m:Nat):Int)))) (by kernel_rfl) (fun hb10=>?_) (fun hb10=>?_)
 ·have hle:=le_t hb10
  have hk1:=k_le hle (by omega)
  refine ZaA (Zaa (Zac (ZaK (ZaK ?_))))
  refine SXc.weak [(0, .v (.int .i64 ((m:Nat):Int))),(4, .v (.int .i64 ((r:Nat):Int))),(5, .v (.int .i64 ((k:Nat):Int)))] [] (Ψ:=fun w=>True) (ZbT.of (by kernel_rfl)) (by kernel_rfl) (fun w Q=>trivial) ?_
  refine ZgE (fun nn ss ff=>∃ (m2 r2:Nat),ss=ofL [(0, .v (.int .i64 ((m2:Nat):Int))),(4, .v (.int .i64 ((r2:Nat):Int))),(5, .v (.int .i64 ((k:Nat):Int)))] []∧ff=(fun w=>True)∧(r2 * r2 * m2=N)∧(0 < m2)∧(m2≤1000000)∧(ZcC k m2)∧nn=(0 + m2)) ((0 + m)) ⟨m,r,rfl,rfl,hmul,hm0,hmN,hF,rfl⟩ ?_
  rintro nn ss ff ⟨m2,r2,rfl,rfl,hmul2,hm2,hm2N,hF2,rfl⟩
  refine Zac (Zac (Zab (xr 4 [(0, .v (.int .i64 ((m2:Nat):Int))),(4, .v (.int .i64 ((r2:Nat):Int))),(5, .v (.int .i64 ((k:Nat):Int))),(13, .v (.int .i64 ((m2:Nat):Int))),(16, .v (.int .i64 (IntKind.i64.wrap (((k:Nat):Int) * ((k:Nat):Int)))))] [] ?_)))
  rw [nmul (Zkv (by omega))]
  refine xl 17 (.int .i64 ((m2 % (k * k):Nat):Int)) (fun w S Q=>Zo5 (t:=3) (k:=3) (x:=.tmp 13) (y:=.tmp 16) (a:=m2) (b:=k * k) (by kernel_rfl) (by kernel_rfl) (by kernel_rfl) (by have:=kk4 hk2; omega)) ?_
  refine xr 1 [(0, .v (.int .i64 ((m2:Nat):Int))),(4, .v (.int .i64 ((r2:Nat):Int))),(5, .v (.int .i64 ((k:Nat):Int))),(18, .v (.bool ((((m2 % (k * k):Nat):Int):Int) == 0)))] [] ?_
  refine xe (Zaa ?_)
  refine Zbb (((((m2 % (k * k):Nat):Int):Int) == 0)) (by kernel_rfl) (fun hb11=>?_) (fun hb11=>?_)
  ·have hd:=md_t hb11
   refine ZaA (Zaa (ZaK (Zac (Zab (xr 4 [(0, .v (.int .i64 ((m2:Nat):Int))),(4, .v (.int .i64 ((r2:Nat):Int))),(5, .v (.int .i64 ((k:Nat):Int))),(19, .v (.int .i64 ((m2:Nat):Int))),(22, .v (.int .i64 (IntKind.i64.wrap (((k:Nat):Int) * ((k:Nat):Int)))))] [] ?_)))))
   rw [nmul (Zkv (by omega))]
   refine xl 23 (.int .i64 ((m2 / (k * k):Nat):Int)) (fun w S Q=>Zs8 (t:=3) (k:=3) (x:=.tmp 19) (y:=.tmp 22) (a:=m2) (b:=k * k) (by kernel_rfl) (by kernel_rfl) (by kernel_rfl) (by have:=kk4 hk2; omega) (by omega)) ?_
   refine xr 1 [(0, .v (.int .i64 ((m2 / (k * k):Nat):Int))),(4, .v (.int .i64 ((r2:Nat):Int))),(5, .v (.int .i64 ((k:Nat):Int)))] [] ?_
   refine xe (Zaa (Zab (xr 3 [(0, .v (.int .i64 ((m2 / (k * k):Nat):Int))),(4, .v (.int .i64 ((r2:Nat):Int))),(5, .v (.int .i64 ((k:Nat):Int))),(26, .v (.int .i64 (IntKind.i64.wrap (((r2:Nat):Int) * ((k:Nat):Int)))))] [] ?_)))
   rw [nmul (Zt4 (sq_r hmul2 hm2 hN) (by omega))]
   refine xr 1 [(0, .v (.int .i64 ((m2 / (k * k):Nat):Int))),(4, .v (.int .i64 ((r2 * k:Nat):Int))),(5, .v (.int .i64 ((k:Nat):Int)))] [] ?_
   refine xe (ZcB ?_)
   refine SXq.weak [(0, .v (.int .i64 (((m2 / (k * k)):Nat):Int))),(4, .v (.int .i64 (((r2 * k):Nat):Int))),(5, .v (.int .i64 ((k:Nat):Int)))] [] (Ψ:=fun w=>True) (ZbT.of (by kernel_rfl)) (by kernel_rfl) (fun w Q=>trivial) ?_
   have hq:=ZtM hm2 hd (kk4 hk2)
   exact ZfP ((0 + (m2 / (k * k)))) (by have:=hq.2; omega) ⟨(m2 / (k * k)),(r2 * k),rfl,rfl,(Zs9 hmul2 hd),hq.1,(by omega),(hF2.div (Nat.dvd_of_mod_eq_zero hd)),rfl⟩
  ·have hd:=md_f hb11
   refine Zfm (Zbq (Zbq (ZgB (ZcB (Zaa (Zab (xr 2 [(0, .v (.int .i64 ((m2:Nat):Int))),(4, .v (.int .i64 ((r2:Nat):Int))),(5, .v (.int .i64 ((k:Nat):Int))),(12, .v (.int .i64 (IntKind.i64.wrap (((k:Nat):Int) + 1))))] [] ?_)))))))
   rw [ninc (by omega)]
   refine xr 1 [(0, .v (.int .i64 ((m2:Nat):Int))),(4, .v (.int .i64 ((r2:Nat):Int))),(5, .v (.int .i64 ((k + 1:Nat):Int)))] [] ?_
   refine xe ?_
   refine SXq.weak [(0, .v (.int .i64 ((m2:Nat):Int))),(4, .v (.int .i64 ((r2:Nat):Int))),(5, .v (.int .i64 (((k + 1):Nat):Int)))] [] (Ψ:=fun w=>True) (ZbT.of (by kernel_rfl)) (by kernel_rfl) (fun w Q=>trivial) ?_
   exact ZfP ((2000 - (k + 1))) (by omega) ⟨m2,r2,(k + 1),rfl,rfl,hmul2,hm2,hm2N,(hF2.next (fun h=>hd (Nat.mod_eq_zero_of_dvd h))),(by omega),(by omega),rfl⟩
 ·have hle:=le_f hb10
  refine Zfm (Zbq (Zbq (ZgB (Zaa (Zac (Zab (xr 4 [(2, .v (.int .i64 ((r:Nat):Int))),(3, .v (.int .i64 ((m:Nat):Int)))] [] ?_)))))))
  refine xe (Zaa (Zah ?_))
  refine Zae (v:=.tuple #[.int .i64 ((r:Nat):Int), .int .i64 ((m:Nat):Int)]) (by kernel_rfl) (fun w' S Q=>?_)
  obtain ⟨rfl,rfl⟩:=SqF.eq ⟨hmul,hS.pos,hF.free hm0 hle⟩ hS
  exact ⟨rfl,S⟩
theorem ZfU (d:Int) (R M:Nat) (w:World) (h0:0 < d) (h1:d≤1000000) (hS:SqF d.toNat R M):Calls Tryz.prog 95 #[.int .i64 d] w (RetV w (.tuple #[.int .i64 ((R:Nat):Int), .int .i64 ((M:Nat):Int)])):=by
 obtain ⟨n,rfl⟩:=Int.eq_ofNat_of_zero_le (show 0≤d by omega)
 exact ZjB n R M w (by omega) hS
theorem Zc8 (a b:ByteArray) (d:Int) (w:World) (hg:Glob w) (L:(bytes a).length≤570∧(bytes b).length≤570) :
 Calls Tryz.prog 102 #[.agg #[.string a, .string b, .int .i64 d]] w (ZmB w (rdS (bytes a) (bytes b) d)):=by
 refine Zan (Φ:=fun w=>Glob w) Tryz.func102 rfl (by kernel_rfl) (fun w' hf=>hg.ext hf) ?_
 refine Zac (Zab (xr 3 [(1, .p 1 0),(2, .p 2 0),(3, .v (.bool false))] [bW 2 120 nQ nQ 0,bS3 1 23 a b d] ?_))
 refine xe (Zaa (Zac (Zab (xr 2 [(1, .p 1 0),(2, .p 2 0),(3, .v (.bool false)),(12, .v (.string a))] [bW 2 120 nQ nQ 0,bS3 1 23 a b d] ?_))))
 rcases ZcK (ZaH (bytes a)) with ha | ⟨qa,ha⟩
 ·refine xc 92 [.string a] 13 (fun x:ShQ=>.tuple #[Zak x, .bool false]) _ (fun w S Q=>(Zd6 a _ Q (ZdW.of_len (by omega))).mono (fun _ _ h=>ZgF h ha)) (fun X10=>?_)
  refine xr 6 [(1, .p 1 0),(2, .p 2 0),(3, .v (.bool false)),(4, .p 4 0),(5, .v (.bool false))] [bQ 4 116 X10,bW 2 120 nQ nQ 0,bS3 1 23 a b d] ?_
  refine xe (Zaa (Zac (Zab (xr 2 [(1, .p 1 0),(2, .p 2 0),(3, .v (.bool false)),(4, .p 4 0),(5, .v (.bool false)),(18, .v (.string b))] [bQ 4 116 X10,bW 2 120 nQ nQ 0,bS3 1 23 a b d] ?_))))
  refine xc 92 [.string b] 19 (fun u0:Bool × ShQ=>.tuple #[Zak u0.2, .bool u0.1]) _ (fun w S Q=>(Zd6 b _ Q.1 (ZdW.of_len (by omega))).mono (fun _ _=>Zmw)) (fun xx=>?_)
  obtain ⟨b12,X11⟩:=xx
  refine xr 6 [(1, .p 1 0),(2, .p 2 0),(3, .v (.bool false)),(4, .p 4 0),(5, .v (.bool false)),(6, .p 6 0),(7, .v (.bool b12))] [bQ 6 116 X11,bQ 4 116 X10,bW 2 120 nQ nQ 0,bS3 1 23 a b d] ?_
  refine xe (Zaa (Zac (Zac (Zab (xr 6 [(1, .p 1 0),(2, .p 2 0),(3, .v (.bool false)),(4, .p 4 0),(6, .p 6 0),(27, .v (.bool true))] [bQ 6 116 X11,bQ 4 116 X10,bW 2 120 nQ nQ 0,bS3 1 23 a b d] ?_)))))
  refine xe (Zaa (xa (Zac (Zab (xr 3 [(1, .p 1 0),(2, .p 2 0),(3, .v (.bool false)),(4, .p 4 0),(6, .p 6 0)] [bQ 6 116 X11,bQ 4 116 X10,bW 2 120 nQ nQ 0,bS3 1 23 a b d] ?_)))))
  refine xe (Zaa (Zah (Zaj ?_)))
  refine Zae (v:=.tuple #[.agg #[.bool false, .slice none 0 0, .bool false, .slice none 0 0, .bool false, .slice none 0 0, .bool false, .slice none 0 0, .int .i64 0], .bool false]) (by kernel_rfl) (fun w' S Q=>?_)
  exact ⟨_,_,_,rfl,(SdIs.of (Zap.nil _) (Zap.nil _)),S,Or.inr ⟨rfl,Zo2 ha⟩⟩
 ·refine xc 92 [.string a] 13 (fun x:ShQ=>.tuple #[Zak x, .bool true]) _ (fun w S Q=>(Zd6 a _ Q (ZdW.of_len (by omega))).mono (fun _ _ h=>ZdP h ha)) (fun X13=>?_)
  refine xr 6 [(1, .p 1 0),(2, .p 2 0),(3, .v (.bool false)),(4, .p 4 0),(5, .v (.bool true))] [bQ 4 116 X13,bW 2 120 nQ nQ 0,bS3 1 23 a b d] ?_
  refine xe (Zaa (Zac (Zab (xr 2 [(1, .p 1 0),(2, .p 2 0),(3, .v (.bool false)),(4, .p 4 0),(5, .v (.bool true)),(18, .v (.string b))] [bQ 4 116 X13,bW 2 120 nQ nQ 0,bS3 1 23 a b d] ?_))))
  rcases ZcK (ZaH (bytes b)) with hb | ⟨qb,hb⟩
  ·refine xc 92 [.string b] 19 (fun x:ShQ=>.tuple #[Zak x, .bool false]) _ (fun w S Q=>(Zd6 b _ Q.1 (ZdW.of_len (by omega))).mono (fun _ _ h=>ZgF h hb)) (fun X14=>?_)
   refine xr 6 [(1, .p 1 0),(2, .p 2 0),(3, .v (.bool false)),(4, .p 4 0),(5, .v (.bool true)),(6, .p 6 0),(7, .v (.bool false))] [bQ 6 116 X14,bQ 4 116 X13,bW 2 120 nQ nQ 0,bS3 1 23 a b d] ?_
   refine xe (Zaa (Zac (Zac (Zab (xr 6 [(1, .p 1 0),(2, .p 2 0),(3, .v (.bool false)),(4, .p 4 0),(6, .p 6 0),(27, .v (.bool true))] [bQ 6 116 X14,bQ 4 116 X13,bW 2 120 nQ nQ 0,bS3 1 23 a b d] ?_)))))
   refine xe (Zaa (xa (Zac (Zab (xr 3 [(1, .p 1 0),(2, .p 2 0),(3, .v (.bool false)),(4, .p 4 0),(6, .p 6 0)] [bQ 6 116 X14,bQ 4 116 X13,bW 2 120 nQ nQ 0,bS3 1 23 a b d] ?_)))))
   refine xe (Zaa (Zah (Zaj ?_)))
   refine Zae (v:=.tuple #[.agg #[.bool false, .slice none 0 0, .bool false, .slice none 0 0, .bool false, .slice none 0 0, .bool false, .slice none 0 0, .int .i64 0], .bool false]) (by kernel_rfl) (fun w' S Q=>?_)
   exact ⟨_,_,_,rfl,(SdIs.of (Zap.nil _) (Zap.nil _)),S,Or.inr ⟨rfl,Zo3 hb⟩⟩
  ·refine xc 92 [.string b] 19 (fun x:ShQ=>.tuple #[Zak x, .bool true]) _ (fun w S Q=>(Zd6 b _ Q.1 (ZdW.of_len (by omega))).mono (fun _ _ h=>ZdP h hb)) (fun X15=>?_)
   refine xr 6 [(1, .p 1 0),(2, .p 2 0),(3, .v (.bool false)),(4, .p 4 0),(5, .v (.bool true)),(6, .p 6 0),(7, .v (.bool true))] [bQ 6 116 X15,bQ 4 116 X13,bW 2 120 nQ nQ 0,bS3 1 23 a b d] ?_
   refine xe (Zaa (Zac (Zac (Zab (xr 6 [(1, .p 1 0),(2, .p 2 0),(3, .v (.bool false)),(4, .p 4 0),(6, .p 6 0),(27, .v (.bool false))] [bQ 6 116 X15,bQ 4 116 X13,bW 2 120 nQ nQ 0,bS3 1 23 a b d] ?_)))))
   refine xe (Zaa (xb (ZaA (Zaa (Zac (Zac (Zab (xr 3 [(1, .p 1 0),(2, .p 2 0),(3, .v (.bool false)),(4, .p 4 0),(6, .p 6 0),(31, .v (.bool ((d:Int) == 1)))] [bQ 6 116 X15,bQ 4 116 X13,bW 2 120 nQ nQ 0,bS3 1 23 a b d] ?_))))))))
   refine xe (Zaa ?_)
   refine Zbb (((d:Int) == 1)) (by kernel_rfl) (fun hb16=>?_) (fun hb16=>?_)
   ·refine Zac ?_
    refine ZaE 6 (by kernel_rfl) (by kernel_rfl) Zal ?_
    refine xf 1 [(1, .p 1 0),(2, .p 2 0),(3, .v (.bool false)),(4, .p 4 0),(6, .p 6 0),eQ 32 X13] [bQ 6 116 X15,bQ 4 116 X13,bW 2 120 nQ nQ 0,bS3 1 23 a b d] ?_
    refine xd 93 [vQ X13] 33 (shSd 1) _ (fun w S Q=>(ZnD _ qa _ Q.1.2).mono (fun _ _=>ZbA)) (fun xx=>?_)
    obtain ⟨X17,X18⟩:=xx
    refine xf 1 [(1, .p 1 0),(2, .p 2 0),(3, .v (.bool false)),(4, .p 4 0),(6, .p 6 0),eW 33 X17 X18 1,eQ 34 X15] [bQ 6 116 X15,bQ 4 116 X13,bW 2 120 nQ nQ 0,bS3 1 23 a b d] ?_
    by_cases hzqb:qb.num=0
    ·refine xd 192 [vQ X15] 35 (fun _:Unit=>.bool true) _ (fun w S Q=>(ZcU _ qb _ Q.1.2).mono (fun _ _ h=>Zaf h (by rw [decide_eq_true hzqb]))) (fun xx=>?_)
     refine xf 2 [(1, .p 1 0),(2, .p 2 0),(3, .v (.bool true)),(4, .p 4 0),(6, .p 6 0)] [bW 2 120 X17 X18 1,bQ 6 116 X15,bQ 4 116 X13,bW 2 120 nQ nQ 0,bS3 1 23 a b d] ?_
     refine xz (xe (Zaa (Zah (Zaj ?_))))
     refine Zae (v:=.tuple #[vW X17 X18 1, .bool true]) (by kernel_rfl) (fun w' S Q=>?_)
     exact ⟨_,_,_,rfl,(SdIs.of Q.1.2.1 Q.1.2.2),S,Or.inl ⟨rfl,ZqV ha hb hb16 hzqb⟩⟩
    ·refine xd 192 [vQ X15] 35 (fun _:Unit=>.bool false) _ (fun w S Q=>(ZcU _ qb _ Q.1.2).mono (fun _ _ h=>Zaf h (by rw [decide_eq_false hzqb]))) (fun xx=>?_)
     refine xf 2 [(1, .p 1 0),(2, .p 2 0),(3, .v (.bool false)),(4, .p 4 0),(6, .p 6 0)] [bW 2 120 X17 X18 1,bQ 6 116 X15,bQ 4 116 X13,bW 2 120 nQ nQ 0,bS3 1 23 a b d] ?_
     refine xz (xe (Zaa (Zah (Zaj ?_))))
     refine Zae (v:=.tuple #[vW X17 X18 1, .bool false]) (by kernel_rfl) (fun w' S Q=>?_)
     exact ⟨_,_,_,rfl,(SdIs.of Q.1.2.1 Q.1.2.2),S,Or.inr ⟨rfl,ZlU ha hb hb16 hzqb⟩⟩
   ·refine ZaA (Zaa (Zac (Zac (Zab (xr 4 [(1, .p 1 0),(2, .p 2 0),(3, .v (.bool false)),(4, .p 4 0),(6, .p 6 0),(39, .v (.bool (decide (d < 2))))] [bQ 6 116 X15,bQ 4 116 X13,bW 2 120 nQ nQ 0,bS3 1 23 a b d] ?_)))))
    rcases ZeC ((decide (d < 2))) with hb19 | hb19
    ·rw [hb19]
     have thb19:=of_decide_eq_true hb19
     refine xr 8 [(1, .p 1 0),(2, .p 2 0),(3, .v (.bool false)),(4, .p 4 0),(6, .p 6 0),(47, .v (.bool true))] [bQ 6 116 X15,bQ 4 116 X13,bW 2 120 nQ nQ 0,bS3 1 23 a b d] ?_
     refine xe (Zaa (xa (Zac (Zab (xr 3 [(1, .p 1 0),(2, .p 2 0),(3, .v (.bool false)),(4, .p 4 0),(6, .p 6 0)] [bQ 6 116 X15,bQ 4 116 X13,bW 2 120 nQ nQ 0,bS3 1 23 a b d] ?_)))))
     refine xe (Zaa (Zah (Zaj ?_)))
     refine Zae (v:=.tuple #[.agg #[.bool false, .slice none 0 0, .bool false, .slice none 0 0, .bool false, .slice none 0 0, .bool false, .slice none 0 0, .int .i64 0], .bool false]) (by kernel_rfl) (fun w' S Q=>?_)
     exact ⟨_,_,_,rfl,(SdIs.of (Zap.nil _) (Zap.nil _)),S,Or.inr ⟨rfl,Ze7 ha hb hb16 (by omega)⟩⟩
    ·rw [hb19]
     have thb19:=of_decide_eq_false hb19
     refine xr 5 [(1, .p 1 0),(2, .p 2 0),(3, .v (.bool false)),(4, .p 4 0),(6, .p 6 0),(44, .v (.bool (decide (d > 1000000))))] [bQ 6 116 X15,bQ 4 116 X13,bW 2 120 nQ nQ 0,bS3 1 23 a b d] ?_
     rcases ZeC ((decide (d > 1000000))) with hb20 | hb20
     ·rw [hb20]
      have thb20:=of_decide_eq_true hb20
      refine xr 3 [(1, .p 1 0),(2, .p 2 0),(3, .v (.bool false)),(4, .p 4 0),(6, .p 6 0),(47, .v (.bool true))] [bQ 6 116 X15,bQ 4 116 X13,bW 2 120 nQ nQ 0,bS3 1 23 a b d] ?_
      refine xe (Zaa (xa (Zac (Zab (xr 3 [(1, .p 1 0),(2, .p 2 0),(3, .v (.bool false)),(4, .p 4 0),(6, .p 6 0)] [bQ 6 116 X15,bQ 4 116 X13,bW 2 120 nQ nQ 0,bS3 1 23 a b d] ?_)))))
      refine xe (Zaa (Zah (Zaj ?_)))
      refine Zae (v:=.tuple #[.agg #[.bool false, .slice none 0 0, .bool false, .slice none 0 0, .bool false, .slice none 0 0, .bool false, .slice none 0 0, .int .i64 0], .bool false]) (by kernel_rfl) (fun w' S Q=>?_)
      exact ⟨_,_,_,rfl,(SdIs.of (Zap.nil _) (Zap.nil _)),S,Or.inr ⟨rfl,Ze7 ha hb hb16 (by omega)⟩⟩
     ·rw [hb20]
      have thb20:=of_decide_eq_false hb20
      refine xr 1 [(1, .p 1 0),(2, .p 2 0),(3, .v (.bool false)),(4, .p 4 0),(6, .p 6 0),(44, .v (.bool false)),eQ 45 X15] [bQ 6 116 X15,bQ 4 116 X13,bW 2 120 nQ nQ 0,bS3 1 23 a b d] ?_
      by_cases hzqb:qb.num=0
      ·refine xc 192 [vQ X15] 46 (fun _:Unit=>.bool true) _ (fun w S Q=>(ZcU _ qb _ Q.2).mono (fun _ _ h=>Zaf h (by rw [decide_eq_true hzqb]))) (fun xx=>?_)
       refine xr 1 [(1, .p 1 0),(2, .p 2 0),(3, .v (.bool false)),(4, .p 4 0),(6, .p 6 0),(47, .v (.bool true))] [bQ 6 116 X15,bQ 4 116 X13,bW 2 120 nQ nQ 0,bS3 1 23 a b d] ?_
       refine xe (Zaa (xa (Zac (Zab (xr 3 [(1, .p 1 0),(2, .p 2 0),(3, .v (.bool false)),(4, .p 4 0),(6, .p 6 0)] [bQ 6 116 X15,bQ 4 116 X13,bW 2 120 nQ nQ 0,bS3 1 23 a b d] ?_)))))
       refine xe (Zaa (Zah (Zaj ?_)))
       refine Zae (v:=.tuple #[.agg #[.bool false, .slice none 0 0, .bool false, .slice none 0 0, .bool false, .slice none 0 0, .bool false, .slice none 0 0, .int .i64 0], .bool false]) (by kernel_rfl) (fun w' S Q=>?_)
       exact ⟨_,_,_,rfl,(SdIs.of (Zap.nil _) (Zap.nil _)),S,Or.inr ⟨rfl,Ze7 ha hb hb16 (Or.inr (Or.inr (Or.inl hzqb)))⟩⟩
      ·refine xc 192 [vQ X15] 46 (fun _:Unit=>.bool false) _ (fun w S Q=>(ZcU _ qb _ Q.2).mono (fun _ _ h=>Zaf h (by rw [decide_eq_false hzqb]))) (fun xx=>?_)
       refine xr 1 [(1, .p 1 0),(2, .p 2 0),(3, .v (.bool false)),(4, .p 4 0),(6, .p 6 0),(47, .v (.bool false))] [bQ 6 116 X15,bQ 4 116 X13,bW 2 120 nQ nQ 0,bS3 1 23 a b d] ?_
       refine xe (Zaa (xb (ZaA (Zaa (Zac (Zac (Zab (xr 2 [(1, .p 1 0),(2, .p 2 0),(3, .v (.bool false)),(4, .p 4 0),(6, .p 6 0),(51, .v (.int .i64 d))] [bQ 6 116 X15,bQ 4 116 X13,bW 2 120 nQ nQ 0,bS3 1 23 a b d] ?_))))))))
       obtain ⟨R,M,hS⟩:=ZpI _ (d).toNat (Nat.le_refl _) (by omega)
       refine xc 95 [.int .i64 d] 52 (fun _:Unit=>.tuple #[.int .i64 ((R:Nat):Int), .int .i64 ((M:Nat):Int)]) _ (fun w S Q=>(ZfU d R M _ (by omega) (by omega) hS).mono (fun _ _ h=>Zaf h rfl)) (fun xx=>?_)
       refine xr 5 [(1, .p 1 0),(2, .p 2 0),(3, .v (.bool false)),(4, .p 4 0),(6, .p 6 0),(8, .v (.int .i64 ((R:Nat):Int)))] [bQ 6 116 X15,bQ 4 116 X13,bW 2 120 nQ nQ 0,bS3 1 23 a b d] ?_
       refine xe (Zaa (Zac (Zab (xr 2 [(1, .p 1 0),(2, .p 2 0),(3, .v (.bool false)),(4, .p 4 0),(6, .p 6 0),(56, .v (.bool ((((R:Nat):Int):Int) != 1)))] [bQ 6 116 X15,bQ 4 116 X13,bW 2 120 nQ nQ 0,bS3 1 23 a b d] ?_))))
       refine xe (Zaa ?_)
       refine Zbb (((((R:Nat):Int):Int) != 1)) (by kernel_rfl) (fun hb21=>?_) (fun hb21=>?_)
       ·refine Zac (Zab (xr 3 [(1, .p 1 0),(2, .p 2 0),(3, .v (.bool false)),(4, .p 4 0),(6, .p 6 0)] [bQ 6 116 X15,bQ 4 116 X13,bW 2 120 nQ nQ 0,bS3 1 23 a b d] ?_))
        refine xe (Zaa (Zah (Zaj ?_)))
        refine Zae (v:=.tuple #[.agg #[.bool false, .slice none 0 0, .bool false, .slice none 0 0, .bool false, .slice none 0 0, .bool false, .slice none 0 0, .int .i64 0], .bool false]) (by kernel_rfl) (fun w' S Q=>?_)
        exact ⟨_,_,_,rfl,(SdIs.of (Zap.nil _) (Zap.nil _)),S,Or.inr ⟨rfl,Ze7 ha hb hb16 (Or.inr (Or.inr (Or.inr (Zt5 hS hb21))))⟩⟩
       ·refine ZaA (Zaa (Zac (Zab (xr 7 [(2, .p 2 0),(3, .v (.bool true))] [bW 2 120 X13 X15 d] ?_))))
        refine xe (Zaa (Zah ?_))
        refine Zae (v:=.tuple #[vW X13 X15 d, .bool true]) (by kernel_rfl) (fun w' S Q=>?_)
        exact ⟨_,_,_,rfl,(SdIs.of Q.1.1.1.2 Q.1.1.2),S,Or.inl ⟨rfl,Zsr ha hb (by omega) (by omega) hzqb (Zt6 hS hb21)⟩⟩
theorem Zbx (a b a' b':ByteArray) (d d':Int) (w:World) (hg:Glob w) (L:(bytes a).length≤570∧(bytes b).length≤570) (L':(bytes a').length≤570∧(bytes b').length≤570) :
 Calls Tryz.prog 115 #[.agg #[.string a, .string b, .int .i64 d], .agg #[.string a', .string b', .int .i64 d']] w (Zkw w (rdS (bytes a) (bytes b) d) (rdS (bytes a') (bytes b') d')):=by
 refine Zan (Φ:=fun w=>Glob w) Tryz.func115 rfl (by kernel_rfl) (fun w' hf=>hg.ext hf) ?_
 refine Zac (Zab (xr 5 [(2, .p 2 0),(3, .p 3 0),(4, .p 4 0),(5, .p 5 0),(6, .v (.int .i64 0))] [bW 5 120 nQ nQ 0,bW 4 120 nQ nQ 0,bS3 3 23 a' b' d',bS3 2 23 a b d] ?_))
 refine xe (Zaa (Zac (Zab (xr 1 [(3, .p 3 0),(4, .p 4 0),(5, .p 5 0),(6, .v (.int .i64 0)),eS3 12 a b d] [bW 5 120 nQ nQ 0,bW 4 120 nQ nQ 0,bS3 3 23 a' b' d'] ?_))))
 rcases ZcK (rdS (bytes a) (bytes b) d) with hx | ⟨x,hx⟩
 ·refine xc 102 [vS3 a b d] 13 (fun u0:Int × ShS=>.tuple #[shSd u0.1 u0.2, .bool false]) _ (fun w R Q=>(Zc8 a b d _ Q L).mono (fun _ _ h=>ZfR h hx)) (fun xx=>?_)
  obtain ⟨d12d,X10,X11⟩:=xx
  refine xr 6 [(3, .p 3 0),(4, .p 4 0),(5, .p 5 0),(6, .v (.int .i64 0)),(7, .p 7 0),(8, .v (.bool false))] [bW 7 120 X10 X11 d12d,bW 5 120 nQ nQ 0,bW 4 120 nQ nQ 0,bS3 3 23 a' b' d'] ?_
  refine xe (Zaa (Zac (Zab (xr 1 [(4, .p 4 0),(5, .p 5 0),(6, .v (.int .i64 0)),(7, .p 7 0),(8, .v (.bool false)),eS3 17 a' b' d'] [bW 7 120 X10 X11 d12d,bW 5 120 nQ nQ 0,bW 4 120 nQ nQ 0] ?_))))
  refine xc 102 [vS3 a' b' d'] 18 (fun u0:Bool × Int × ShS=>.tuple #[shSd u0.2.1 u0.2.2, .bool u0.1]) _ (fun w R Q=>(Zc8 a' b' d' _ Q.1 L').mono (fun _ _=>Zot)) (fun xx=>?_)
  obtain ⟨b15,d15d,X13,X14⟩:=xx
  refine xr 6 [(4, .p 4 0),(5, .p 5 0),(6, .v (.int .i64 0)),(7, .p 7 0),(8, .v (.bool false)),(9, .p 9 0),(10, .v (.bool b15))] [bW 9 120 X13 X14 d15d,bW 7 120 X10 X11 d12d,bW 5 120 nQ nQ 0,bW 4 120 nQ nQ 0] ?_
  refine xe (Zaa (Zac (ZaK (Zac (Zab (xr 7 [(4, .p 4 0),(5, .p 5 0),(6, .v (.int .i64 0)),(7, .p 7 0),(9, .p 9 0),(21, .v (.bool true))] [bW 9 120 X13 X14 d15d,bW 7 120 X10 X11 d12d,bW 5 120 nQ nQ 0,bW 4 120 nQ nQ 0] ?_))))))
  refine xe (Zaa (xa (Zac (Zab (xr 5 [(4, .p 4 0),(5, .p 5 0),(6, .v (.int .i64 1)),(7, .p 7 0),(9, .p 9 0)] [bW 9 120 X13 X14 d15d,bW 7 120 X10 X11 d12d,bW 5 120 nQ nQ 0,bW 4 120 nQ nQ 0] ?_)))))
  refine xe (Zaa (Zah (ZaM (Zaj ?_))))
  refine Zae (v:=.tuple #[.agg #[.bool false, .slice none 0 0, .bool false, .slice none 0 0, .bool false, .slice none 0 0, .bool false, .slice none 0 0, .int .i64 0], .agg #[.bool false, .slice none 0 0, .bool false, .slice none 0 0, .bool false, .slice none 0 0, .bool false, .slice none 0 0, .int .i64 0], .int .i64 1]) (by kernel_rfl) (fun w' R Q=>?_)
  exact Or.inl ⟨Or.inl hx,rfl,R⟩
 ·refine xc 102 [vS3 a b d] 13 (fun u0:ShS=>.tuple #[shSd x.d u0, .bool true]) _ (fun w R Q=>(Zc8 a b d _ Q L).mono (fun _ _ h=>ZeD h hx)) (fun xx=>?_)
  obtain ⟨X16,X17⟩:=xx
  refine xr 6 [(3, .p 3 0),(4, .p 4 0),(5, .p 5 0),(6, .v (.int .i64 0)),(7, .p 7 0),(8, .v (.bool true))] [bW 7 120 X16 X17 x.d,bW 5 120 nQ nQ 0,bW 4 120 nQ nQ 0,bS3 3 23 a' b' d'] ?_
  refine xe (Zaa (Zac (Zab (xr 1 [(4, .p 4 0),(5, .p 5 0),(6, .v (.int .i64 0)),(7, .p 7 0),(8, .v (.bool true)),eS3 17 a' b' d'] [bW 7 120 X16 X17 x.d,bW 5 120 nQ nQ 0,bW 4 120 nQ nQ 0] ?_))))
  rcases ZcK (rdS (bytes a') (bytes b') d') with hy | ⟨y,hy⟩
  ·refine xc 102 [vS3 a' b' d'] 18 (fun u0:Int × ShS=>.tuple #[shSd u0.1 u0.2, .bool false]) _ (fun w R Q=>(Zc8 a' b' d' _ Q.1 L').mono (fun _ _ h=>ZfR h hy)) (fun xx=>?_)
   obtain ⟨d20d,X18,X19⟩:=xx
   refine xr 6 [(4, .p 4 0),(5, .p 5 0),(6, .v (.int .i64 0)),(7, .p 7 0),(8, .v (.bool true)),(9, .p 9 0),(10, .v (.bool false))] [bW 9 120 X18 X19 d20d,bW 7 120 X16 X17 x.d,bW 5 120 nQ nQ 0,bW 4 120 nQ nQ 0] ?_
   refine xe (Zaa (Zac (ZaK (Zac (Zab (xr 7 [(4, .p 4 0),(5, .p 5 0),(6, .v (.int .i64 0)),(7, .p 7 0),(9, .p 9 0),(21, .v (.bool true))] [bW 9 120 X18 X19 d20d,bW 7 120 X16 X17 x.d,bW 5 120 nQ nQ 0,bW 4 120 nQ nQ 0] ?_))))))
   refine xe (Zaa (xa (Zac (Zab (xr 5 [(4, .p 4 0),(5, .p 5 0),(6, .v (.int .i64 1)),(7, .p 7 0),(9, .p 9 0)] [bW 9 120 X18 X19 d20d,bW 7 120 X16 X17 x.d,bW 5 120 nQ nQ 0,bW 4 120 nQ nQ 0] ?_)))))
   refine xe (Zaa (Zah (ZaM (Zaj ?_))))
   refine Zae (v:=.tuple #[.agg #[.bool false, .slice none 0 0, .bool false, .slice none 0 0, .bool false, .slice none 0 0, .bool false, .slice none 0 0, .int .i64 0], .agg #[.bool false, .slice none 0 0, .bool false, .slice none 0 0, .bool false, .slice none 0 0, .bool false, .slice none 0 0, .int .i64 0], .int .i64 1]) (by kernel_rfl) (fun w' R Q=>?_)
   exact Or.inl ⟨Or.inr hy,rfl,R⟩
  ·refine xc 102 [vS3 a' b' d'] 18 (fun u0:ShS=>.tuple #[shSd y.d u0, .bool true]) _ (fun w R Q=>(Zc8 a' b' d' _ Q.1 L').mono (fun _ _ h=>ZeD h hy)) (fun xx=>?_)
   obtain ⟨X21,X22⟩:=xx
   refine xr 6 [(4, .p 4 0),(5, .p 5 0),(6, .v (.int .i64 0)),(7, .p 7 0),(8, .v (.bool true)),(9, .p 9 0),(10, .v (.bool true))] [bW 9 120 X21 X22 y.d,bW 7 120 X16 X17 x.d,bW 5 120 nQ nQ 0,bW 4 120 nQ nQ 0] ?_
   refine xe (Zaa (Zac (ZaK (Zac (Zab (xr 7 [(4, .p 4 0),(5, .p 5 0),(6, .v (.int .i64 0)),(7, .p 7 0),(9, .p 9 0),(21, .v (.bool false))] [bW 9 120 X21 X22 y.d,bW 7 120 X16 X17 x.d,bW 5 120 nQ nQ 0,bW 4 120 nQ nQ 0] ?_))))))
   refine xe (Zaa (xb (Zac (Zab (xr 4 [(4, .p 4 0),(5, .p 5 0),(6, .v (.int .i64 0)),(7, .p 7 0),(9, .p 9 0),(32, .v (.int .i64 x.d)),(34, .v (.int .i64 y.d))] [bW 9 120 X21 X22 y.d,bW 7 120 X16 X17 x.d,bW 5 120 nQ nQ 0,bW 4 120 nQ nQ 0] ?_)))))
   by_cases hB:Blg x.d y.d
   ·refine xc 185 [.int .i64 x.d, .int .i64 y.d] 35 (fun _:Unit=>.bool true) _ (fun w R Q=>(Zku x.d y.d _).mono (fun _ _ h=>Zaf h (by rw [Zo4.2 hB]))) (fun xx=>?_)
    refine xr 2 [(4, .p 4 0),(5, .p 5 0),(6, .v (.int .i64 0)),(7, .p 7 0),(9, .p 9 0),(30, .v (.bool false))] [bW 9 120 X21 X22 y.d,bW 7 120 X16 X17 x.d,bW 5 120 nQ nQ 0,bW 4 120 nQ nQ 0] ?_
    refine xe (Zaa (xb (ZaA (ZcB (Zaa (Zac ?_))))))
    refine ZaE 5 (by kernel_rfl) (by kernel_rfl) Zal ?_
    refine xf 5 [(4, .p 4 0),(5, .p 5 0),(6, .v (.int .i64 0))] [bW 5 120 X21 X22 y.d,bW 4 120 X16 X17 x.d,bW 9 120 X21 X22 y.d,bW 7 120 X16 X17 x.d,bW 5 120 nQ nQ 0,bW 4 120 nQ nQ 0] ?_
    refine xz (xe (Zaa (Zah ?_)))
    refine Zae (v:=.tuple #[vW X16 X17 x.d,vW X21 X22 y.d, .int .i64 0]) (by kernel_rfl) (fun w' R Q=>?_)
    exact Or.inr (Or.inr ⟨_,_,_,_,hx,hy,hB,rfl,(SdIs.of Q.1.1.2.1 Q.1.1.2.2),(SdIs.of Q.1.2.1 Q.1.2.2),R⟩)
   ·refine xc 185 [.int .i64 x.d, .int .i64 y.d] 35 (fun _:Unit=>.bool false) _ (fun w R Q=>(Zku x.d y.d _).mono (fun _ _ h=>Zaf h (by rw [ZtN hB]))) (fun xx=>?_)
    refine xr 2 [(4, .p 4 0),(5, .p 5 0),(6, .v (.int .i64 0)),(7, .p 7 0),(9, .p 9 0),(30, .v (.bool true))] [bW 9 120 X21 X22 y.d,bW 7 120 X16 X17 x.d,bW 5 120 nQ nQ 0,bW 4 120 nQ nQ 0] ?_
    refine xe (Zaa (xa (Zac (Zab (xr 5 [(4, .p 4 0),(5, .p 5 0),(6, .v (.int .i64 9)),(7, .p 7 0),(9, .p 9 0)] [bW 9 120 X21 X22 y.d,bW 7 120 X16 X17 x.d,bW 5 120 nQ nQ 0,bW 4 120 nQ nQ 0] ?_)))))
    refine xe (Zaa (Zah (ZaM (Zaj ?_))))
    refine Zae (v:=.tuple #[.agg #[.bool false, .slice none 0 0, .bool false, .slice none 0 0, .bool false, .slice none 0 0, .bool false, .slice none 0 0, .int .i64 0], .agg #[.bool false, .slice none 0 0, .bool false, .slice none 0 0, .bool false, .slice none 0 0, .bool false, .slice none 0 0, .int .i64 0], .int .i64 9]) (by kernel_rfl) (fun w' R Q=>?_)
    exact Or.inr (Or.inl ⟨_,_,hx,hy,hB,rfl,R⟩)
theorem ZqZ (vx vy:Value) (x:Sd) (y:Sd) (w:World) (hg:Glob w) (hhx:SdIs w vx x) (hhy:SdIs w vy y) {jx:Nat} (zx:Sz x jx) {jy:Nat} (zy:Sz y jy) (hj:jx + jy≤722) :
 Calls Tryz.prog 119 #[vx,vy] w (Zfh w (x.plus y.neg)):=by
 obtain ⟨X0,X1,rfl,hx1,hx2⟩:=hhx.shq
 obtain ⟨X2,X3,rfl,hy1,hy2⟩:=hhy.shq
 refine Zan (Φ:=fun w=>((((Glob w∧Zap w (Zak X0) (x.a))∧Zap w (Zak X1) (x.b))∧Zap w (Zak X2) (y.a))∧Zap w (Zak X3) (y.b))) Tryz.func119 rfl (by kernel_rfl) (fun w' hf=>⟨⟨⟨⟨hg.ext hf,hx1.ext hf⟩,hx2.ext hf⟩,hy1.ext hf⟩,hy2.ext hf⟩) ?_
 refine Zac (Zab (xr 3 [(2, .p 2 0),(3, .p 3 0),(4, .p 4 0)] [bW 4 120 nQ nQ 0,bW 3 120 X2 X3 y.d,bW 2 120 X0 X1 x.d] ?_))
 refine xe (Zaa (Zac ?_))
 refine ZaE 5 (by kernel_rfl) (by kernel_rfl) Zal ?_
 refine xf 2 [(4, .p 4 0),eW 5 X0 X1 x.d,eW 6 X2 X3 y.d] [bW 4 120 nQ nQ 0,bW 3 120 X2 X3 y.d,bW 2 120 X0 X1 x.d] ?_
 refine xd 120 [vW X2 X3 y.d] 7 (shSd y.neg.d) _ (fun w R Q=>(ZjA _ y _ (SdIs.of Q.1.2 Q.2)).mono (fun _ _=>ZbA)) (fun xx=>?_)
 obtain ⟨X10,X11⟩:=xx
 refine xf 0 [(4, .p 4 0),eW 5 X0 X1 x.d,eW 7 X10 X11 y.neg.d] [bW 4 120 nQ nQ 0,bW 3 120 X2 X3 y.d,bW 2 120 X0 X1 x.d] ?_
 refine xd 114 [vW X0 X1 x.d,vW X10 X11 y.neg.d] 8 (shSd ((x.plus y.neg).d)) _ (fun w R Q=>(Zif _ _ x y.neg _ Q.1.1.1.1.1 (SdIs.of Q.1.1.1.1.2 Q.1.1.1.2) (SdIs.of Q.2.1 Q.2.2) zx zy.neg (by omega)).mono (fun _ _=>ZbA)) (fun xx=>?_)
 obtain ⟨⟨s12,A12,l12,c12,t12,B12,m12,d12⟩,⟨s13,A13,l13,c13,t13,B13,m13,d13⟩⟩:=xx
 refine xf 1 [(4, .p 4 0)] [(4,120,[.v (.bool s12), .v (.slice A12 l12 c12), .v (.bool t12), .v (.slice B12 m12 d12), .v (.bool s13), .v (.slice A13 l13 c13), .v (.bool t13), .v (.slice B13 m13 d13), .v (.int .i64 ((x.plus y.neg).d))]),bW 4 120 nQ nQ 0,bW 3 120 X2 X3 y.d,bW 2 120 X0 X1 x.d] ?_
 refine xz (xe (Zaa (Zah ?_)))
 refine Zae (v:=.agg #[.bool s12, .slice A12 l12 c12, .bool t12, .slice B12 m12 d12, .bool s13, .slice A13 l13 c13, .bool t13, .slice B13 m13 d13, .int .i64 ((x.plus y.neg).d)]) (by kernel_rfl) (fun w' R Q=>?_)
 exact ⟨_,rfl,(SdIs.of Q.2.1 Q.2.2),R⟩
theorem Zig (a b a' b':ByteArray) (d d':Int) (w:World) (hg:Glob w) (L:(bytes a).length≤570∧(bytes b).length≤570) (L':(bytes a').length≤570∧(bytes b').length≤570) (vf:Value) {ff:Sd→Sd→Value} (hx:rdS (bytes a) (bytes b) d=none∨rdS (bytes a') (bytes b') d'=none) :
 Calls Tryz.prog 112 #[.agg #[.string a, .string b, .int .i64 d], .agg #[.string a', .string b', .int .i64 d'],vf] w (RetV w (opV (rdS (bytes a) (bytes b) d) (rdS (bytes a') (bytes b') d') ff zS)):=by
 refine Zan (Φ:=fun w=>Glob w) Tryz.func112 rfl (by kernel_rfl) (fun w' hf=>hg.ext hf) ?_
 refine Zac (Zab (xr 4 [(2, .v (vf)),(3, .p 3 0),(4, .p 4 0),(6, .p 6 0),(7, .v (.int .i64 0))] [bS3 6 23 ⟨#[]⟩ ⟨#[]⟩ 0,bS3 4 23 a' b' d',bS3 3 23 a b d] ?_))
 refine xe (Zaa (Zac (Zab (xr 2 [(2, .v (vf)),(6, .p 6 0),(7, .v (.int .i64 0)),eS3 12 a b d,eS3 13 a' b' d'] [bS3 6 23 ⟨#[]⟩ ⟨#[]⟩ 0] ?_))))
 refine xc 115 [vS3 a b d,vS3 a' b' d'] 14 (fun _:Unit=>.tuple #[zV,zV, .int .i64 1]) _ (fun w R Q=>(Zbx a b a' b' d d' _ Q L L').mono (fun _ _ h=>ZfT h hx)) (fun xx=>?_)
 refine xr 9 [(2, .v (vf)),(6, .p 6 0),(7, .v (.int .i64 0)),(8, .p 8 0),(9, .p 9 0),(10, .v (.int .i64 1))] [bV9 9 120 false none 0 0 false none 0 0 false none 0 0 false none 0 0 0,bV9 8 120 false none 0 0 false none 0 0 false none 0 0 false none 0 0 0,bS3 6 23 ⟨#[]⟩ ⟨#[]⟩ 0] ?_
 refine xe (Zaa (Zac (Zac (Zab (xr 2 [(2, .v (vf)),(6, .p 6 0),(7, .v (.int .i64 0)),(8, .p 8 0),(9, .p 9 0),(10, .v (.int .i64 1)),(19, .v (.bool true))] [bV9 9 120 false none 0 0 false none 0 0 false none 0 0 false none 0 0 0,bV9 8 120 false none 0 0 false none 0 0 false none 0 0 false none 0 0 0,bS3 6 23 ⟨#[]⟩ ⟨#[]⟩ 0] ?_)))))
 refine xe (Zaa (xa (Zac (Zab (xr 4 [(2, .v (vf)),(6, .p 6 0),(7, .v (.int .i64 1)),(8, .p 8 0),(9, .p 9 0)] [bV9 9 120 false none 0 0 false none 0 0 false none 0 0 false none 0 0 0,bV9 8 120 false none 0 0 false none 0 0 false none 0 0 false none 0 0 0,bS3 6 23 ⟨#[]⟩ ⟨#[]⟩ 0] ?_)))))
 refine xe (Zaa (Zah (Zaj ?_)))
 refine Zae (v:=.tuple #[.agg #[.string ⟨#[]⟩, .string ⟨#[]⟩, .int .i64 0], .int .i64 1]) (by kernel_rfl) (fun w' R Q=>?_)
 exact ⟨by rw [ZaX hx],R⟩
theorem ZjC (a b a' b':ByteArray) (d d':Int) (w:World) (hg:Glob w) (L:(bytes a).length≤570∧(bytes b).length≤570) (L':(bytes a').length≤570∧(bytes b').length≤570) (vf:Value) {ff:Sd→Sd→Value} {x y:Sd} (hx:rdS (bytes a) (bytes b) d=some x) (hy:rdS (bytes a') (bytes b') d'=some y) (hB:¬ Blg x.d y.d) :
 Calls Tryz.prog 112 #[.agg #[.string a, .string b, .int .i64 d], .agg #[.string a', .string b', .int .i64 d'],vf] w (RetV w (opV (rdS (bytes a) (bytes b) d) (rdS (bytes a') (bytes b') d') ff zS)):=by
 refine Zan (Φ:=fun w=>Glob w) Tryz.func112 rfl (by kernel_rfl) (fun w' hf=>hg.ext hf) ?_
 refine Zac (Zab (xr 4 [(2, .v (vf)),(3, .p 3 0),(4, .p 4 0),(6, .p 6 0),(7, .v (.int .i64 0))] [bS3 6 23 ⟨#[]⟩ ⟨#[]⟩ 0,bS3 4 23 a' b' d',bS3 3 23 a b d] ?_))
 refine xe (Zaa (Zac (Zab (xr 2 [(2, .v (vf)),(6, .p 6 0),(7, .v (.int .i64 0)),eS3 12 a b d,eS3 13 a' b' d'] [bS3 6 23 ⟨#[]⟩ ⟨#[]⟩ 0] ?_))))
 refine xc 115 [vS3 a b d,vS3 a' b' d'] 14 (fun _:Unit=>.tuple #[zV,zV, .int .i64 9]) _ (fun w R Q=>(Zbx a b a' b' d d' _ Q L L').mono (fun _ _ h=>Zgo h hx hy hB)) (fun xx=>?_)
 refine xr 9 [(2, .v (vf)),(6, .p 6 0),(7, .v (.int .i64 0)),(8, .p 8 0),(9, .p 9 0),(10, .v (.int .i64 9))] [bV9 9 120 false none 0 0 false none 0 0 false none 0 0 false none 0 0 0,bV9 8 120 false none 0 0 false none 0 0 false none 0 0 false none 0 0 0,bS3 6 23 ⟨#[]⟩ ⟨#[]⟩ 0] ?_
 refine xe (Zaa (Zac (Zac (Zab (xr 2 [(2, .v (vf)),(6, .p 6 0),(7, .v (.int .i64 0)),(8, .p 8 0),(9, .p 9 0),(10, .v (.int .i64 9)),(19, .v (.bool true))] [bV9 9 120 false none 0 0 false none 0 0 false none 0 0 false none 0 0 0,bV9 8 120 false none 0 0 false none 0 0 false none 0 0 false none 0 0 0,bS3 6 23 ⟨#[]⟩ ⟨#[]⟩ 0] ?_)))))
 refine xe (Zaa (xa (Zac (Zab (xr 4 [(2, .v (vf)),(6, .p 6 0),(7, .v (.int .i64 9)),(8, .p 8 0),(9, .p 9 0)] [bV9 9 120 false none 0 0 false none 0 0 false none 0 0 false none 0 0 0,bV9 8 120 false none 0 0 false none 0 0 false none 0 0 false none 0 0 0,bS3 6 23 ⟨#[]⟩ ⟨#[]⟩ 0] ?_)))))
 refine xe (Zaa (Zah (Zaj ?_)))
 refine Zae (v:=.tuple #[.agg #[.string ⟨#[]⟩, .string ⟨#[]⟩, .int .i64 0], .int .i64 9]) (by kernel_rfl) (fun w' R Q=>?_)
 exact ⟨by rw [ZbB hx hy hB],R⟩
theorem Zou (a b a' b':ByteArray) (d d':Int) (w:World) (hg:Glob w) (L:(bytes a).length≤570∧(bytes b).length≤570) (L':(bytes a').length≤570∧(bytes b').length≤570) {x y:Sd} (hx:rdS (bytes a) (bytes b) d=some x) (hy:rdS (bytes a') (bytes b') d'=some y) (hB:Blg x.d y.d) {j k:Nat} (Zx:∀ x,rdS (bytes a) (bytes b) d=some x→Sz x j) (Zy:∀ x,rdS (bytes a') (bytes b') d'=some x→Sz x k) (hj:j + k≤700) :
 Calls Tryz.prog 112 #[.agg #[.string a, .string b, .int .i64 d], .agg #[.string a', .string b', .int .i64 d'], .func (.func 114) #[] #[]] w (RetV w (opV (rdS (bytes a) (bytes b) d) (rdS (bytes a') (bytes b') d') (fun x y=>okS (x.plus y)) zS)):=by
 have zx:=Zx _ hx
 have zy:=Zy _ hy
 refine Zan (Φ:=fun w=>Glob w) Tryz.func112 rfl (by kernel_rfl) (fun w' hf=>hg.ext hf) ?_
 refine Zac (Zab (xr 4 [(2, .v (.func (.func 114) #[] #[])),(3, .p 3 0),(4, .p 4 0),(6, .p 6 0),(7, .v (.int .i64 0))] [bS3 6 23 ⟨#[]⟩ ⟨#[]⟩ 0,bS3 4 23 a' b' d',bS3 3 23 a b d] ?_))
 refine xe (Zaa (Zac (Zab (xr 2 [(2, .v (.func (.func 114) #[] #[])),(6, .p 6 0),(7, .v (.int .i64 0)),eS3 12 a b d,eS3 13 a' b' d'] [bS3 6 23 ⟨#[]⟩ ⟨#[]⟩ 0] ?_))))
 refine xc 115 [vS3 a b d,vS3 a' b' d'] 14 (fun u:ShS × ShS=>.tuple #[shSd x.d u.1,shSd y.d u.2, .int .i64 0]) _ (fun w R Q=>(Zbx a b a' b' d d' _ Q L L').mono (fun _ _ h=>Zd0 h hx hy hB)) (fun xx=>?_)
 obtain ⟨⟨X10,X11⟩,⟨X12,X13⟩⟩:=xx
 refine xr 9 [(2, .v (.func (.func 114) #[] #[])),(6, .p 6 0),(7, .v (.int .i64 0)),(8, .p 8 0),(9, .p 9 0),(10, .v (.int .i64 0))] [bW 9 120 X12 X13 y.d,bW 8 120 X10 X11 x.d,bS3 6 23 ⟨#[]⟩ ⟨#[]⟩ 0] ?_
 refine xe (Zaa (Zac (Zac (Zab (xr 2 [(2, .v (.func (.func 114) #[] #[])),(6, .p 6 0),(7, .v (.int .i64 0)),(8, .p 8 0),(9, .p 9 0),(10, .v (.int .i64 0)),(19, .v (.bool false))] [bW 9 120 X12 X13 y.d,bW 8 120 X10 X11 x.d,bS3 6 23 ⟨#[]⟩ ⟨#[]⟩ 0] ?_)))))
 refine xe (Zaa (xb (ZaA (Zaa (Zac (Zab (xr 3 [(6, .p 6 0),(7, .v (.int .i64 0)),(22, .v (.func (.func 114) #[] #[])),eW 23 X10 X11 x.d,eW 24 X12 X13 y.d] [bS3 6 23 ⟨#[]⟩ ⟨#[]⟩ 0] ?_)))))))
 refine xc 114 [vW X10 X11 x.d,vW X12 X13 y.d] 25 (shSd ((x.plus y).d)) _ (fun w R Q=>(Zif _ _ x y _ Q.1 (SdIs.of Q.2.1.1.1 Q.2.1.1.2) (SdIs.of Q.2.1.2 Q.2.2) zx zy (by omega)).mono (fun _ _=>ZbA)) (fun xx=>?_)
 obtain ⟨X14,X15⟩:=xx
 refine xr 0 [(6, .p 6 0),(7, .v (.int .i64 0)),(25, .v (vW X14 X15 ((x.plus y).d)))] [bS3 6 23 ⟨#[]⟩ ⟨#[]⟩ 0] ?_
 refine xc 94 [vW X14 X15 ((x.plus y).d)] 26 (fun _:Unit=>vS3 ⟨(Zad ((x.plus y).a)).toArray⟩ ⟨(Zad ((x.plus y).b)).toArray⟩ ((x.plus y).d)) _ (fun w R Q=>(ZdQ _ (x.plus y) _ Q.1.1 (SdIs.of Q.2.1 Q.2.2) (j:=(j + k + 1)) (zx.plus zy).a (zx.plus zy).b (by omega)).mono (fun _ _ h=>Zaf h rfl)) (fun xx=>?_)
 refine xr 2 [(6, .p 6 0),(7, .v (.int .i64 0))] [bS3 6 23 ⟨(Zad ((x.plus y).a)).toArray⟩ ⟨(Zad ((x.plus y).b)).toArray⟩ ((x.plus y).d)] ?_
 refine xe (Zaa (Zah ?_))
 refine Zae (v:=.tuple #[.agg #[.string ⟨(Zad ((x.plus y).a)).toArray⟩, .string ⟨(Zad ((x.plus y).b)).toArray⟩, .int .i64 ((x.plus y).d)], .int .i64 0]) (by kernel_rfl) (fun w' R Q=>?_)
 exact ⟨by rw [Zbk hx hy hB],R⟩
theorem ZlV (a b a' b':ByteArray) (d d':Int) (w:World) (hg:Glob w) (L:(bytes a).length≤570∧(bytes b).length≤570) (L':(bytes a').length≤570∧(bytes b').length≤570) (hx:rdS (bytes a) (bytes b) d=none∨rdS (bytes a') (bytes b') d'=none) :
 Calls Tryz.prog 32 #[.agg #[.string a, .string b, .int .i64 d], .agg #[.string a', .string b', .int .i64 d']] w (RetV w (opV (rdS (bytes a) (bytes b) d) (rdS (bytes a') (bytes b') d') (fun x y=>okS (x.plus y)) zS)):=by
 refine Zan (Φ:=fun w=>Glob w) Tryz.func32 rfl (by kernel_rfl) (fun w' hf=>hg.ext hf) ?_
 refine Zac (Zab (xr 4 [(2, .p 2 0),(3, .p 3 0),(4, .p 4 0),(5, .v (.int .i64 0))] [bS3 4 23 ⟨#[]⟩ ⟨#[]⟩ 0,bS3 3 23 a' b' d',bS3 2 23 a b d] ?_))
 refine xe (Zaa (Zac (Zab (xr 2 [(4, .p 4 0),(5, .v (.int .i64 0)),eS3 6 a b d,eS3 7 a' b' d'] [bS3 4 23 ⟨#[]⟩ ⟨#[]⟩ 0] ?_))))
 refine xc 112 [vS3 a b d,vS3 a' b' d', .func (.func 114) #[] #[]] 8 (fun _:Unit=>.tuple #[vS3 ⟨#[]⟩ ⟨#[]⟩ 0, .int .i64 1]) _ (fun w R Q=>(Zig a b a' b' d d' _ Q L L' (.func (.func 114) #[] #[]) (ff:=fun x y=>okS (x.plus y)) hx).mono (fun _ _ h=>Zaf h (by rw [ZaX hx]))) (fun xx=>?_)
 refine xr 4 [(4, .p 4 0),(5, .v (.int .i64 1))] [bS3 4 23 ⟨#[]⟩ ⟨#[]⟩ 0] ?_
 refine xe (Zaa (Zah ?_))
 refine Zae (v:=.tuple #[.agg #[.string ⟨#[]⟩, .string ⟨#[]⟩, .int .i64 0], .int .i64 1]) (by kernel_rfl) (fun w' R Q=>?_)
 exact ⟨by rw [ZaX hx],R⟩
theorem Zr0 (a b a' b':ByteArray) (d d':Int) (w:World) (hg:Glob w) (L:(bytes a).length≤570∧(bytes b).length≤570) (L':(bytes a').length≤570∧(bytes b').length≤570) {x y:Sd} (hx:rdS (bytes a) (bytes b) d=some x) (hy:rdS (bytes a') (bytes b') d'=some y) (hB:¬ Blg x.d y.d) :
 Calls Tryz.prog 32 #[.agg #[.string a, .string b, .int .i64 d], .agg #[.string a', .string b', .int .i64 d']] w (RetV w (opV (rdS (bytes a) (bytes b) d) (rdS (bytes a') (bytes b') d') (fun x y=>okS (x.plus y)) zS)):=by
 refine Zan (Φ:=fun w=>Glob w) Tryz.func32 rfl (by kernel_rfl) (fun w' hf=>hg.ext hf) ?_
 refine Zac (Zab (xr 4 [(2, .p 2 0),(3, .p 3 0),(4, .p 4 0),(5, .v (.int .i64 0))] [bS3 4 23 ⟨#[]⟩ ⟨#[]⟩ 0,bS3 3 23 a' b' d',bS3 2 23 a b d] ?_))
 refine xe (Zaa (Zac (Zab (xr 2 [(4, .p 4 0),(5, .v (.int .i64 0)),eS3 6 a b d,eS3 7 a' b' d'] [bS3 4 23 ⟨#[]⟩ ⟨#[]⟩ 0] ?_))))
 refine xc 112 [vS3 a b d,vS3 a' b' d', .func (.func 114) #[] #[]] 8 (fun _:Unit=>.tuple #[vS3 ⟨#[]⟩ ⟨#[]⟩ 0, .int .i64 9]) _ (fun w R Q=>(ZjC a b a' b' d d' _ Q L L' (.func (.func 114) #[] #[]) (ff:=fun x y=>okS (x.plus y)) hx hy hB).mono (fun _ _ h=>Zaf h (by rw [ZbB hx hy hB]))) (fun xx=>?_)
 refine xr 4 [(4, .p 4 0),(5, .v (.int .i64 9))] [bS3 4 23 ⟨#[]⟩ ⟨#[]⟩ 0] ?_
 refine xe (Zaa (Zah ?_))
 refine Zae (v:=.tuple #[.agg #[.string ⟨#[]⟩, .string ⟨#[]⟩, .int .i64 0], .int .i64 9]) (by kernel_rfl) (fun w' R Q=>?_)
 exact ⟨by rw [ZbB hx hy hB],R⟩
theorem Zr1 (a b a' b':ByteArray) (d d':Int) (w:World) (hg:Glob w) (L:(bytes a).length≤570∧(bytes b).length≤570) (L':(bytes a').length≤570∧(bytes b').length≤570) {x y:Sd} (hx:rdS (bytes a) (bytes b) d=some x) (hy:rdS (bytes a') (bytes b') d'=some y) (hB:Blg x.d y.d) {j k:Nat} (Zx:∀ x,rdS (bytes a) (bytes b) d=some x→Sz x j) (Zy:∀ x,rdS (bytes a') (bytes b') d'=some x→Sz x k) (hj:j + k≤700) :
 Calls Tryz.prog 32 #[.agg #[.string a, .string b, .int .i64 d], .agg #[.string a', .string b', .int .i64 d']] w (RetV w (opV (rdS (bytes a) (bytes b) d) (rdS (bytes a') (bytes b') d') (fun x y=>okS (x.plus y)) zS)):=by
 have zx:=Zx _ hx
 have zy:=Zy _ hy
 refine Zan (Φ:=fun w=>Glob w) Tryz.func32 rfl (by kernel_rfl) (fun w' hf=>hg.ext hf) ?_
 refine Zac (Zab (xr 4 [(2, .p 2 0),(3, .p 3 0),(4, .p 4 0),(5, .v (.int .i64 0))] [bS3 4 23 ⟨#[]⟩ ⟨#[]⟩ 0,bS3 3 23 a' b' d',bS3 2 23 a b d] ?_))
 refine xe (Zaa (Zac (Zab (xr 2 [(4, .p 4 0),(5, .v (.int .i64 0)),eS3 6 a b d,eS3 7 a' b' d'] [bS3 4 23 ⟨#[]⟩ ⟨#[]⟩ 0] ?_))))
 refine xc 112 [vS3 a b d,vS3 a' b' d', .func (.func 114) #[] #[]] 8 (fun _:Unit=>.tuple #[.agg #[.string ⟨(Zad (x.plus y).a).toArray⟩, .string ⟨(Zad (x.plus y).b).toArray⟩, .int .i64 (x.plus y).d], .int .i64 0]) _ (fun w R Q=>(Zou a b a' b' d d' _ Q L L' hx hy hB Zx Zy hj).mono (fun _ _ h=>Zaf h (by rw [Zbk hx hy hB]))) (fun xx=>?_)
 refine xr 4 [(4, .p 4 0),(5, .v (.int .i64 0))] [(4,23,[.v (.string ⟨(Zad (x.plus y).a).toArray⟩), .v (.string ⟨(Zad (x.plus y).b).toArray⟩), .v (.int .i64 (x.plus y).d)])] ?_
 refine xe (Zaa (Zah ?_))
 refine Zae (v:=.tuple #[.agg #[.string ⟨(Zad (x.plus y).a).toArray⟩, .string ⟨(Zad (x.plus y).b).toArray⟩, .int .i64 (x.plus y).d], .int .i64 0]) (by kernel_rfl) (fun w' R Q=>?_)
 exact ⟨by rw [Zbk hx hy hB],R⟩
theorem Zov (a b a' b':ByteArray) (d d':Int) (w:World) (hg:Glob w) (L:(bytes a).length≤570∧(bytes b).length≤570) (L':(bytes a').length≤570∧(bytes b').length≤570) {x y:Sd} (hx:rdS (bytes a) (bytes b) d=some x) (hy:rdS (bytes a') (bytes b') d'=some y) (hB:Blg x.d y.d) {j k:Nat} (Zx:∀ x,rdS (bytes a) (bytes b) d=some x→Sz x j) (Zy:∀ x,rdS (bytes a') (bytes b') d'=some x→Sz x k) (hj:j + k≤700) :
 Calls Tryz.prog 112 #[.agg #[.string a, .string b, .int .i64 d], .agg #[.string a', .string b', .int .i64 d'], .func (.func 119) #[] #[]] w (RetV w (opV (rdS (bytes a) (bytes b) d) (rdS (bytes a') (bytes b') d') (fun x y=>okS (x.plus y.neg)) zS)):=by
 have zx:=Zx _ hx
 have zy:=Zy _ hy
 refine Zan (Φ:=fun w=>Glob w) Tryz.func112 rfl (by kernel_rfl) (fun w' hf=>hg.ext hf) ?_
 refine Zac (Zab (xr 4 [(2, .v (.func (.func 119) #[] #[])),(3, .p 3 0),(4, .p 4 0),(6, .p 6 0),(7, .v (.int .i64 0))] [bS3 6 23 ⟨#[]⟩ ⟨#[]⟩ 0,bS3 4 23 a' b' d',bS3 3 23 a b d] ?_))
 refine xe (Zaa (Zac (Zab (xr 2 [(2, .v (.func (.func 119) #[] #[])),(6, .p 6 0),(7, .v (.int .i64 0)),eS3 12 a b d,eS3 13 a' b' d'] [bS3 6 23 ⟨#[]⟩ ⟨#[]⟩ 0] ?_))))
 refine xc 115 [vS3 a b d,vS3 a' b' d'] 14 (fun u:ShS × ShS=>.tuple #[shSd x.d u.1,shSd y.d u.2, .int .i64 0]) _ (fun w R Q=>(Zbx a b a' b' d d' _ Q L L').mono (fun _ _ h=>Zd0 h hx hy hB)) (fun xx=>?_)
 obtain ⟨⟨X10,X11⟩,⟨X12,X13⟩⟩:=xx
 refine xr 9 [(2, .v (.func (.func 119) #[] #[])),(6, .p 6 0),(7, .v (.int .i64 0)),(8, .p 8 0),(9, .p 9 0),(10, .v (.int .i64 0))] [bW 9 120 X12 X13 y.d,bW 8 120 X10 X11 x.d,bS3 6 23 ⟨#[]⟩ ⟨#[]⟩ 0] ?_
 refine xe (Zaa (Zac (Zac (Zab (xr 2 [(2, .v (.func (.func 119) #[] #[])),(6, .p 6 0),(7, .v (.int .i64 0)),(8, .p 8 0),(9, .p 9 0),(10, .v (.int .i64 0)),(19, .v (.bool false))] [bW 9 120 X12 X13 y.d,bW 8 120 X10 X11 x.d,bS3 6 23 ⟨#[]⟩ ⟨#[]⟩ 0] ?_)))))
 refine xe (Zaa (xb (ZaA (Zaa (Zac (Zab (xr 3 [(6, .p 6 0),(7, .v (.int .i64 0)),(22, .v (.func (.func 119) #[] #[])),eW 23 X10 X11 x.d,eW 24 X12 X13 y.d] [bS3 6 23 ⟨#[]⟩ ⟨#[]⟩ 0] ?_)))))))
 refine xc 119 [vW X10 X11 x.d,vW X12 X13 y.d] 25 (shSd ((x.plus y.neg).d)) _ (fun w R Q=>(ZqZ _ _ x y _ Q.1 (SdIs.of Q.2.1.1.1 Q.2.1.1.2) (SdIs.of Q.2.1.2 Q.2.2) zx zy (by omega)).mono (fun _ _=>ZbA)) (fun xx=>?_)
 obtain ⟨X14,X15⟩:=xx
 refine xr 0 [(6, .p 6 0),(7, .v (.int .i64 0)),(25, .v (vW X14 X15 ((x.plus y.neg).d)))] [bS3 6 23 ⟨#[]⟩ ⟨#[]⟩ 0] ?_
 refine xc 94 [vW X14 X15 ((x.plus y.neg).d)] 26 (fun _:Unit=>vS3 ⟨(Zad ((x.plus y.neg).a)).toArray⟩ ⟨(Zad ((x.plus y.neg).b)).toArray⟩ ((x.plus y.neg).d)) _ (fun w R Q=>(ZdQ _ (x.plus y.neg) _ Q.1.1 (SdIs.of Q.2.1 Q.2.2) (j:=(j + k + 1)) (zx.plus zy.neg).a (zx.plus zy.neg).b (by omega)).mono (fun _ _ h=>Zaf h rfl)) (fun xx=>?_)
 refine xr 2 [(6, .p 6 0),(7, .v (.int .i64 0))] [bS3 6 23 ⟨(Zad ((x.plus y.neg).a)).toArray⟩ ⟨(Zad ((x.plus y.neg).b)).toArray⟩ ((x.plus y.neg).d)] ?_
 refine xe (Zaa (Zah ?_))
 refine Zae (v:=.tuple #[.agg #[.string ⟨(Zad ((x.plus y.neg).a)).toArray⟩, .string ⟨(Zad ((x.plus y.neg).b)).toArray⟩, .int .i64 ((x.plus y.neg).d)], .int .i64 0]) (by kernel_rfl) (fun w' R Q=>?_)
 exact ⟨by rw [Zbk hx hy hB],R⟩
theorem ZlW (a b a' b':ByteArray) (d d':Int) (w:World) (hg:Glob w) (L:(bytes a).length≤570∧(bytes b).length≤570) (L':(bytes a').length≤570∧(bytes b').length≤570) (hx:rdS (bytes a) (bytes b) d=none∨rdS (bytes a') (bytes b') d'=none) :
 Calls Tryz.prog 35 #[.agg #[.string a, .string b, .int .i64 d], .agg #[.string a', .string b', .int .i64 d']] w (RetV w (opV (rdS (bytes a) (bytes b) d) (rdS (bytes a') (bytes b') d') (fun x y=>okS (x.plus y.neg)) zS)):=by
 refine Zan (Φ:=fun w=>Glob w) Tryz.func35 rfl (by kernel_rfl) (fun w' hf=>hg.ext hf) ?_
 refine Zac (Zab (xr 4 [(2, .p 2 0),(3, .p 3 0),(4, .p 4 0),(5, .v (.int .i64 0))] [bS3 4 23 ⟨#[]⟩ ⟨#[]⟩ 0,bS3 3 23 a' b' d',bS3 2 23 a b d] ?_))
 refine xe (Zaa (Zac (Zab (xr 2 [(4, .p 4 0),(5, .v (.int .i64 0)),eS3 6 a b d,eS3 7 a' b' d'] [bS3 4 23 ⟨#[]⟩ ⟨#[]⟩ 0] ?_))))
 refine xc 112 [vS3 a b d,vS3 a' b' d', .func (.func 119) #[] #[]] 8 (fun _:Unit=>.tuple #[vS3 ⟨#[]⟩ ⟨#[]⟩ 0, .int .i64 1]) _ (fun w R Q=>(Zig a b a' b' d d' _ Q L L' (.func (.func 119) #[] #[]) (ff:=fun x y=>okS (x.plus y)) hx).mono (fun _ _ h=>Zaf h (by rw [ZaX hx]))) (fun xx=>?_)
 refine xr 4 [(4, .p 4 0),(5, .v (.int .i64 1))] [bS3 4 23 ⟨#[]⟩ ⟨#[]⟩ 0] ?_
 refine xe (Zaa (Zah ?_))
 refine Zae (v:=.tuple #[.agg #[.string ⟨#[]⟩, .string ⟨#[]⟩, .int .i64 0], .int .i64 1]) (by kernel_rfl) (fun w' R Q=>?_)
 exact ⟨by rw [ZaX hx],R⟩
theorem Zr2 (a b a' b':ByteArray) (d d':Int) (w:World) (hg:Glob w) (L:(bytes a).length≤570∧(bytes b).length≤570) (L':(bytes a').length≤570∧(bytes b').length≤570) {x y:Sd} (hx:rdS (bytes a) (bytes b) d=some x) (hy:rdS (bytes a') (bytes b') d'=some y) (hB:¬ Blg x.d y.d) :
 Calls Tryz.prog 35 #[.agg #[.string a, .string b, .int .i64 d], .agg #[.string a', .string b', .int .i64 d']] w (RetV w (opV (rdS (bytes a) (bytes b) d) (rdS (bytes a') (bytes b') d') (fun x y=>okS (x.plus y.neg)) zS)):=by
 refine Zan (Φ:=fun w=>Glob w) Tryz.func35 rfl (by kernel_rfl) (fun w' hf=>hg.ext hf) ?_
 refine Zac (Zab (xr 4 [(2, .p 2 0),(3, .p 3 0),(4, .p 4 0),(5, .v (.int .i64 0))] [bS3 4 23 ⟨#[]⟩ ⟨#[]⟩ 0,bS3 3 23 a' b' d',bS3 2 23 a b d] ?_))
 refine xe (Zaa (Zac (Zab (xr 2 [(4, .p 4 0),(5, .v (.int .i64 0)),eS3 6 a b d,eS3 7 a' b' d'] [bS3 4 23 ⟨#[]⟩ ⟨#[]⟩ 0] ?_))))
 refine xc 112 [vS3 a b d,vS3 a' b' d', .func (.func 119) #[] #[]] 8 (fun _:Unit=>.tuple #[vS3 ⟨#[]⟩ ⟨#[]⟩ 0, .int .i64 9]) _ (fun w R Q=>(ZjC a b a' b' d d' _ Q L L' (.func (.func 119) #[] #[]) (ff:=fun x y=>okS (x.plus y)) hx hy hB).mono (fun _ _ h=>Zaf h (by rw [ZbB hx hy hB]))) (fun xx=>?_)
 refine xr 4 [(4, .p 4 0),(5, .v (.int .i64 9))] [bS3 4 23 ⟨#[]⟩ ⟨#[]⟩ 0] ?_
 refine xe (Zaa (Zah ?_))
 refine Zae (v:=.tuple #[.agg #[.string ⟨#[]⟩, .string ⟨#[]⟩, .int .i64 0], .int .i64 9]) (by kernel_rfl) (fun w' R Q=>?_)
 exact ⟨by rw [ZbB hx hy hB],R⟩
theorem Zr3 (a b a' b':ByteArray) (d d':Int) (w:World) (hg:Glob w) (L:(bytes a).length≤570∧(bytes b).length≤570) (L':(bytes a').length≤570∧(bytes b').length≤570) {x y:Sd} (hx:rdS (bytes a) (bytes b) d=some x) (hy:rdS (bytes a') (bytes b') d'=some y) (hB:Blg x.d y.d) {j k:Nat} (Zx:∀ x,rdS (bytes a) (bytes b) d=some x→Sz x j) (Zy:∀ x,rdS (bytes a') (bytes b') d'=some x→Sz x k) (hj:j + k≤700) :
 Calls Tryz.prog 35 #[.agg #[.string a, .string b, .int .i64 d], .agg #[.string a', .string b', .int .i64 d']] w (RetV w (opV (rdS (bytes a) (bytes b) d) (rdS (bytes a') (bytes b') d') (fun x y=>okS (x.plus y.neg)) zS)):=by
 have zx:=Zx _ hx
 have zy:=Zy _ hy
 refine Zan (Φ:=fun w=>Glob w) Tryz.func35 rfl (by kernel_rfl) (fun w' hf=>hg.ext hf) ?_
 refine Zac (Zab (xr 4 [(2, .p 2 0),(3, .p 3 0),(4, .p 4 0),(5, .v (.int .i64 0))] [bS3 4 23 ⟨#[]⟩ ⟨#[]⟩ 0,bS3 3 23 a' b' d',bS3 2 23 a b d] ?_))
 refine xe (Zaa (Zac (Zab (xr 2 [(4, .p 4 0),(5, .v (.int .i64 0)),eS3 6 a b d,eS3 7 a' b' d'] [bS3 4 23 ⟨#[]⟩ ⟨#[]⟩ 0] ?_))))
 refine xc 112 [vS3 a b d,vS3 a' b' d', .func (.func 119) #[] #[]] 8 (fun _:Unit=>.tuple #[.agg #[.string ⟨(Zad (x.plus y.neg).a).toArray⟩, .string ⟨(Zad (x.plus y.neg).b).toArray⟩, .int .i64 (x.plus y.neg).d], .int .i64 0]) _ (fun w R Q=>(Zov a b a' b' d d' _ Q L L' hx hy hB Zx Zy hj).mono (fun _ _ h=>Zaf h (by rw [Zbk hx hy hB]))) (fun xx=>?_)
 refine xr 4 [(4, .p 4 0),(5, .v (.int .i64 0))] [(4,23,[.v (.string ⟨(Zad (x.plus y.neg).a).toArray⟩), .v (.string ⟨(Zad (x.plus y.neg).b).toArray⟩), .v (.int .i64 (x.plus y.neg).d)])] ?_
 refine xe (Zaa (Zah ?_))
 refine Zae (v:=.tuple #[.agg #[.string ⟨(Zad (x.plus y.neg).a).toArray⟩, .string ⟨(Zad (x.plus y.neg).b).toArray⟩, .int .i64 (x.plus y.neg).d], .int .i64 0]) (by kernel_rfl) (fun w' R Q=>?_)
 exact ⟨by rw [Zbk hx hy hB],R⟩
theorem Zow (a b a' b':ByteArray) (d d':Int) (w:World) (hg:Glob w) (L:(bytes a).length≤570∧(bytes b).length≤570) (L':(bytes a').length≤570∧(bytes b').length≤570) {x y:Sd} (hx:rdS (bytes a) (bytes b) d=some x) (hy:rdS (bytes a') (bytes b') d'=some y) (hB:Blg x.d y.d) {j k:Nat} (Zx:∀ x,rdS (bytes a) (bytes b) d=some x→Sz x j) (Zy:∀ x,rdS (bytes a') (bytes b') d'=some x→Sz x k) (hj:j + k≤350) :
 Calls Tryz.prog 112 #[.agg #[.string a, .string b, .int .i64 d], .agg #[.string a', .string b', .int .i64 d'], .func (.func 113) #[] #[]] w (RetV w (opV (rdS (bytes a) (bytes b) d) (rdS (bytes a') (bytes b') d') (fun x y=>okS (x.times y)) zS)):=by
 have zx:=Zx _ hx
 have zy:=Zy _ hy
 refine Zan (Φ:=fun w=>Glob w) Tryz.func112 rfl (by kernel_rfl) (fun w' hf=>hg.ext hf) ?_
 refine Zac (Zab (xr 4 [(2, .v (.func (.func 113) #[] #[])),(3, .p 3 0),(4, .p 4 0),(6, .p 6 0),(7, .v (.int .i64 0))] [bS3 6 23 ⟨#[]⟩ ⟨#[]⟩ 0,bS3 4 23 a' b' d',bS3 3 23 a b d] ?_))
 refine xe (Zaa (Zac (Zab (xr 2 [(2, .v (.func (.func 113) #[] #[])),(6, .p 6 0),(7, .v (.int .i64 0)),eS3 12 a b d,eS3 13 a' b' d'] [bS3 6 23 ⟨#[]⟩ ⟨#[]⟩ 0] ?_))))
 refine xc 115 [vS3 a b d,vS3 a' b' d'] 14 (fun u:ShS × ShS=>.tuple #[shSd x.d u.1,shSd y.d u.2, .int .i64 0]) _ (fun w R Q=>(Zbx a b a' b' d d' _ Q L L').mono (fun _ _ h=>Zd0 h hx hy hB)) (fun xx=>?_)
 obtain ⟨⟨X10,X11⟩,⟨X12,X13⟩⟩:=xx
 refine xr 9 [(2, .v (.func (.func 113) #[] #[])),(6, .p 6 0),(7, .v (.int .i64 0)),(8, .p 8 0),(9, .p 9 0),(10, .v (.int .i64 0))] [bW 9 120 X12 X13 y.d,bW 8 120 X10 X11 x.d,bS3 6 23 ⟨#[]⟩ ⟨#[]⟩ 0] ?_
 refine xe (Zaa (Zac (Zac (Zab (xr 2 [(2, .v (.func (.func 113) #[] #[])),(6, .p 6 0),(7, .v (.int .i64 0)),(8, .p 8 0),(9, .p 9 0),(10, .v (.int .i64 0)),(19, .v (.bool false))] [bW 9 120 X12 X13 y.d,bW 8 120 X10 X11 x.d,bS3 6 23 ⟨#[]⟩ ⟨#[]⟩ 0] ?_)))))
 refine xe (Zaa (xb (ZaA (Zaa (Zac (Zab (xr 3 [(6, .p 6 0),(7, .v (.int .i64 0)),(22, .v (.func (.func 113) #[] #[])),eW 23 X10 X11 x.d,eW 24 X12 X13 y.d] [bS3 6 23 ⟨#[]⟩ ⟨#[]⟩ 0] ?_)))))))
 refine xc 113 [vW X10 X11 x.d,vW X12 X13 y.d] 25 (shSd ((x.times y).d)) _ (fun w R Q=>(Zhi _ _ x y _ Q.1 (SdIs.of Q.2.1.1.1 Q.2.1.1.2) (SdIs.of Q.2.1.2 Q.2.2) zx zy (by omega)).mono (fun _ _=>ZbA)) (fun xx=>?_)
 obtain ⟨X14,X15⟩:=xx
 refine xr 0 [(6, .p 6 0),(7, .v (.int .i64 0)),(25, .v (vW X14 X15 ((x.times y).d)))] [bS3 6 23 ⟨#[]⟩ ⟨#[]⟩ 0] ?_
 refine xc 94 [vW X14 X15 ((x.times y).d)] 26 (fun _:Unit=>vS3 ⟨(Zad ((x.times y).a)).toArray⟩ ⟨(Zad ((x.times y).b)).toArray⟩ ((x.times y).d)) _ (fun w R Q=>(ZdQ _ (x.times y) _ Q.1.1 (SdIs.of Q.2.1 Q.2.2) (j:=(2 * (j + k) + 8)) (zx.times zy).a (zx.times zy).b (by omega)).mono (fun _ _ h=>Zaf h rfl)) (fun xx=>?_)
 refine xr 2 [(6, .p 6 0),(7, .v (.int .i64 0))] [bS3 6 23 ⟨(Zad ((x.times y).a)).toArray⟩ ⟨(Zad ((x.times y).b)).toArray⟩ ((x.times y).d)] ?_
 refine xe (Zaa (Zah ?_))
 refine Zae (v:=.tuple #[.agg #[.string ⟨(Zad ((x.times y).a)).toArray⟩, .string ⟨(Zad ((x.times y).b)).toArray⟩, .int .i64 ((x.times y).d)], .int .i64 0]) (by kernel_rfl) (fun w' R Q=>?_)
 exact ⟨by rw [Zbk hx hy hB],R⟩
theorem ZlX (a b a' b':ByteArray) (d d':Int) (w:World) (hg:Glob w) (L:(bytes a).length≤570∧(bytes b).length≤570) (L':(bytes a').length≤570∧(bytes b').length≤570) (hx:rdS (bytes a) (bytes b) d=none∨rdS (bytes a') (bytes b') d'=none) :
 Calls Tryz.prog 31 #[.agg #[.string a, .string b, .int .i64 d], .agg #[.string a', .string b', .int .i64 d']] w (RetV w (opV (rdS (bytes a) (bytes b) d) (rdS (bytes a') (bytes b') d') (fun x y=>okS (x.times y)) zS)):=by
 refine Zan (Φ:=fun w=>Glob w) Tryz.func31 rfl (by kernel_rfl) (fun w' hf=>hg.ext hf) ?_
 refine Zac (Zab (xr 4 [(2, .p 2 0),(3, .p 3 0),(4, .p 4 0),(5, .v (.int .i64 0))] [bS3 4 23 ⟨#[]⟩ ⟨#[]⟩ 0,bS3 3 23 a' b' d',bS3 2 23 a b d] ?_))
 refine xe (Zaa (Zac (Zab (xr 2 [(4, .p 4 0),(5, .v (.int .i64 0)),eS3 6 a b d,eS3 7 a' b' d'] [bS3 4 23 ⟨#[]⟩ ⟨#[]⟩ 0] ?_))))
 refine xc 112 [vS3 a b d,vS3 a' b' d', .func (.func 113) #[] #[]] 8 (fun _:Unit=>.tuple #[vS3 ⟨#[]⟩ ⟨#[]⟩ 0, .int .i64 1]) _ (fun w R Q=>(Zig a b a' b' d d' _ Q L L' (.func (.func 113) #[] #[]) (ff:=fun x y=>okS (x.plus y)) hx).mono (fun _ _ h=>Zaf h (by rw [ZaX hx]))) (fun xx=>?_)
 refine xr 4 [(4, .p 4 0),(5, .v (.int .i64 1))] [bS3 4 23 ⟨#[]⟩ ⟨#[]⟩ 0] ?_
 refine xe (Zaa (Zah ?_))
 refine Zae (v:=.tuple #[.agg #[.string ⟨#[]⟩, .string ⟨#[]⟩, .int .i64 0], .int .i64 1]) (by kernel_rfl) (fun w' R Q=>?_)
 exact ⟨by rw [ZaX hx],R⟩
theorem Zr4 (a b a' b':ByteArray) (d d':Int) (w:World) (hg:Glob w) (L:(bytes a).length≤570∧(bytes b).length≤570) (L':(bytes a').length≤570∧(bytes b').length≤570) {x y:Sd} (hx:rdS (bytes a) (bytes b) d=some x) (hy:rdS (bytes a') (bytes b') d'=some y) (hB:¬ Blg x.d y.d) :
 Calls Tryz.prog 31 #[.agg #[.string a, .string b, .int .i64 d], .agg #[.string a', .string b', .int .i64 d']] w (RetV w (opV (rdS (bytes a) (bytes b) d) (rdS (bytes a') (bytes b') d') (fun x y=>okS (x.times y)) zS)):=by
 refine Zan (Φ:=fun w=>Glob w) Tryz.func31 rfl (by kernel_rfl) (fun w' hf=>hg.ext hf) ?_
 refine Zac (Zab (xr 4 [(2, .p 2 0),(3, .p 3 0),(4, .p 4 0),(5, .v (.int .i64 0))] [bS3 4 23 ⟨#[]⟩ ⟨#[]⟩ 0,bS3 3 23 a' b' d',bS3 2 23 a b d] ?_))
 refine xe (Zaa (Zac (Zab (xr 2 [(4, .p 4 0),(5, .v (.int .i64 0)),eS3 6 a b d,eS3 7 a' b' d'] [bS3 4 23 ⟨#[]⟩ ⟨#[]⟩ 0] ?_))))
 refine xc 112 [vS3 a b d,vS3 a' b' d', .func (.func 113) #[] #[]] 8 (fun _:Unit=>.tuple #[vS3 ⟨#[]⟩ ⟨#[]⟩ 0, .int .i64 9]) _ (fun w R Q=>(ZjC a b a' b' d d' _ Q L L' (.func (.func 113) #[] #[]) (ff:=fun x y=>okS (x.plus y)) hx hy hB).mono (fun _ _ h=>Zaf h (by rw [ZbB hx hy hB]))) (fun xx=>?_)
 refine xr 4 [(4, .p 4 0),(5, .v (.int .i64 9))] [bS3 4 23 ⟨#[]⟩ ⟨#[]⟩ 0] ?_
 refine xe (Zaa (Zah ?_))
 refine Zae (v:=.tuple #[.agg #[.string ⟨#[]⟩, .string ⟨#[]⟩, .int .i64 0], .int .i64 9]) (by kernel_rfl) (fun w' R Q=>?_)
 exact ⟨by rw [ZbB hx hy hB],R⟩
theorem Zr5 (a b a' b':ByteArray) (d d':Int) (w:World) (hg:Glob w) (L:(bytes a).length≤570∧(bytes b).length≤570) (L':(bytes a').length≤570∧(bytes b').length≤570) {x y:Sd} (hx:rdS (bytes a) (bytes b) d=some x) (hy:rdS (bytes a') (bytes b') d'=some y) (hB:Blg x.d y.d) {j k:Nat} (Zx:∀ x,rdS (bytes a) (bytes b) d=some x→Sz x j) (Zy:∀ x,rdS (bytes a') (bytes b') d'=some x→Sz x k) (hj:j + k≤350) :
 Calls Tryz.prog 31 #[.agg #[.string a, .string b, .int .i64 d], .agg #[.string a', .string b', .int .i64 d']] w (RetV w (opV (rdS (bytes a) (bytes b) d) (rdS (bytes a') (bytes b') d') (fun x y=>okS (x.times y)) zS)):=by
 have zx:=Zx _ hx
 have zy:=Zy _ hy
 refine Zan (Φ:=fun w=>Glob w) Tryz.func31 rfl (by kernel_rfl) (fun w' hf=>hg.ext hf) ?_
 refine Zac (Zab (xr 4 [(2, .p 2 0),(3, .p 3 0),(4, .p 4 0),(5, .v (.int .i64 0))] [bS3 4 23 ⟨#[]⟩ ⟨#[]⟩ 0,bS3 3 23 a' b' d',bS3 2 23 a b d] ?_))
 refine xe (Zaa (Zac (Zab (xr 2 [(4, .p 4 0),(5, .v (.int .i64 0)),eS3 6 a b d,eS3 7 a' b' d'] [bS3 4 23 ⟨#[]⟩ ⟨#[]⟩ 0] ?_))))
 refine xc 112 [vS3 a b d,vS3 a' b' d', .func (.func 113) #[] #[]] 8 (fun _:Unit=>.tuple #[.agg #[.string ⟨(Zad (x.times y).a).toArray⟩, .string ⟨(Zad (x.times y).b).toArray⟩, .int .i64 (x.times y).d], .int .i64 0]) _ (fun w R Q=>(Zow a b a' b' d d' _ Q L L' hx hy hB Zx Zy hj).mono (fun _ _ h=>Zaf h (by rw [Zbk hx hy hB]))) (fun xx=>?_)
 refine xr 4 [(4, .p 4 0),(5, .v (.int .i64 0))] [(4,23,[.v (.string ⟨(Zad (x.times y).a).toArray⟩), .v (.string ⟨(Zad (x.times y).b).toArray⟩), .v (.int .i64 (x.times y).d)])] ?_
 refine xe (Zaa (Zah ?_))
 refine Zae (v:=.tuple #[.agg #[.string ⟨(Zad (x.times y).a).toArray⟩, .string ⟨(Zad (x.times y).b).toArray⟩, .int .i64 (x.times y).d], .int .i64 0]) (by kernel_rfl) (fun w' R Q=>?_)
 exact ⟨by rw [Zbk hx hy hB],R⟩
theorem ZlY (a b a' b':ByteArray) (d d':Int) (w:World) (hg:Glob w) (L:(bytes a).length≤570∧(bytes b).length≤570) (L':(bytes a').length≤570∧(bytes b').length≤570) (hx:rdS (bytes a) (bytes b) d=none∨rdS (bytes a') (bytes b') d'=none) :
 Calls Tryz.prog 33 #[.agg #[.string a, .string b, .int .i64 d], .agg #[.string a', .string b', .int .i64 d']] w (RetV w (opV (rdS (bytes a) (bytes b) d) (rdS (bytes a') (bytes b') d') divV zS)):=by
 refine Zan (Φ:=fun w=>Glob w) Tryz.func33 rfl (by kernel_rfl) (fun w' hf=>hg.ext hf) ?_
 refine Zac (Zab (xr 4 [(2, .p 2 0),(3, .p 3 0),(4, .p 4 0),(5, .v (.int .i64 0))] [bS3 4 23 ⟨#[]⟩ ⟨#[]⟩ 0,bS3 3 23 a' b' d',bS3 2 23 a b d] ?_))
 refine xe (Zaa (Zac (Zab (xr 2 [(4, .p 4 0),(5, .v (.int .i64 0)),eS3 10 a b d,eS3 11 a' b' d'] [bS3 4 23 ⟨#[]⟩ ⟨#[]⟩ 0] ?_))))
 refine xc 115 [vS3 a b d,vS3 a' b' d'] 12 (fun _:Unit=>.tuple #[zV,zV, .int .i64 1]) _ (fun w R Q=>(Zbx a b a' b' d d' _ Q L L').mono (fun _ _ h=>ZfT h hx)) (fun xx=>?_)
 refine xr 9 [(4, .p 4 0),(5, .v (.int .i64 0)),(6, .p 6 0),(7, .p 7 0),(8, .v (.int .i64 1))] [bV9 7 120 false none 0 0 false none 0 0 false none 0 0 false none 0 0 0,bV9 6 120 false none 0 0 false none 0 0 false none 0 0 false none 0 0 0,bS3 4 23 ⟨#[]⟩ ⟨#[]⟩ 0] ?_
 refine xe (Zaa (Zac (ZaK (Zac (Zab (xr 3 [(4, .p 4 0),(5, .v (.int .i64 0)),(6, .p 6 0),(7, .p 7 0),(8, .v (.int .i64 1)),(16, .v (.bool true))] [bV9 7 120 false none 0 0 false none 0 0 false none 0 0 false none 0 0 0,bV9 6 120 false none 0 0 false none 0 0 false none 0 0 false none 0 0 0,bS3 4 23 ⟨#[]⟩ ⟨#[]⟩ 0] ?_))))))
 refine xe (Zaa (xa (Zac (Zab (xr 4 [(4, .p 4 0),(5, .v (.int .i64 1)),(6, .p 6 0),(7, .p 7 0)] [bV9 7 120 false none 0 0 false none 0 0 false none 0 0 false none 0 0 0,bV9 6 120 false none 0 0 false none 0 0 false none 0 0 false none 0 0 0,bS3 4 23 ⟨#[]⟩ ⟨#[]⟩ 0] ?_)))))
 refine xe (Zaa (Zah (ZaM (Zaj ?_))))
 refine Zae (v:=.tuple #[.agg #[.string ⟨#[]⟩, .string ⟨#[]⟩, .int .i64 0], .int .i64 1]) (by kernel_rfl) (fun w' R Q=>?_)
 exact ⟨by rw [ZaX hx],R⟩
theorem Zr6 (a b a' b':ByteArray) (d d':Int) (w:World) (hg:Glob w) (L:(bytes a).length≤570∧(bytes b).length≤570) (L':(bytes a').length≤570∧(bytes b').length≤570) {x y:Sd} (hx:rdS (bytes a) (bytes b) d=some x) (hy:rdS (bytes a') (bytes b') d'=some y) (hB:¬ Blg x.d y.d) :
 Calls Tryz.prog 33 #[.agg #[.string a, .string b, .int .i64 d], .agg #[.string a', .string b', .int .i64 d']] w (RetV w (opV (rdS (bytes a) (bytes b) d) (rdS (bytes a') (bytes b') d') divV zS)):=by
 refine Zan (Φ:=fun w=>Glob w) Tryz.func33 rfl (by kernel_rfl) (fun w' hf=>hg.ext hf) ?_
 refine Zac (Zab (xr 4 [(2, .p 2 0),(3, .p 3 0),(4, .p 4 0),(5, .v (.int .i64 0))] [bS3 4 23 ⟨#[]⟩ ⟨#[]⟩ 0,bS3 3 23 a' b' d',bS3 2 23 a b d] ?_))
 refine xe (Zaa (Zac (Zab (xr 2 [(4, .p 4 0),(5, .v (.int .i64 0)),eS3 10 a b d,eS3 11 a' b' d'] [bS3 4 23 ⟨#[]⟩ ⟨#[]⟩ 0] ?_))))
 refine xc 115 [vS3 a b d,vS3 a' b' d'] 12 (fun _:Unit=>.tuple #[zV,zV, .int .i64 9]) _ (fun w R Q=>(Zbx a b a' b' d d' _ Q L L').mono (fun _ _ h=>Zgo h hx hy hB)) (fun xx=>?_)
 refine xr 9 [(4, .p 4 0),(5, .v (.int .i64 0)),(6, .p 6 0),(7, .p 7 0),(8, .v (.int .i64 9))] [bV9 7 120 false none 0 0 false none 0 0 false none 0 0 false none 0 0 0,bV9 6 120 false none 0 0 false none 0 0 false none 0 0 false none 0 0 0,bS3 4 23 ⟨#[]⟩ ⟨#[]⟩ 0] ?_
 refine xe (Zaa (Zac (ZaK (Zac (Zab (xr 3 [(4, .p 4 0),(5, .v (.int .i64 0)),(6, .p 6 0),(7, .p 7 0),(8, .v (.int .i64 9)),(16, .v (.bool true))] [bV9 7 120 false none 0 0 false none 0 0 false none 0 0 false none 0 0 0,bV9 6 120 false none 0 0 false none 0 0 false none 0 0 false none 0 0 0,bS3 4 23 ⟨#[]⟩ ⟨#[]⟩ 0] ?_))))))
 refine xe (Zaa (xa (Zac (Zab (xr 4 [(4, .p 4 0),(5, .v (.int .i64 9)),(6, .p 6 0),(7, .p 7 0)] [bV9 7 120 false none 0 0 false none 0 0 false none 0 0 false none 0 0 0,bV9 6 120 false none 0 0 false none 0 0 false none 0 0 false none 0 0 0,bS3 4 23 ⟨#[]⟩ ⟨#[]⟩ 0] ?_)))))
 refine xe (Zaa (Zah (ZaM (Zaj ?_))))
 refine Zae (v:=.tuple #[.agg #[.string ⟨#[]⟩, .string ⟨#[]⟩, .int .i64 0], .int .i64 9]) (by kernel_rfl) (fun w' R Q=>?_)
 exact ⟨by rw [ZbB hx hy hB],R⟩
theorem ZnE (a b a' b':ByteArray) (d d':Int) (w:World) (hg:Glob w) (L:(bytes a).length≤570∧(bytes b).length≤570) (L':(bytes a').length≤570∧(bytes b').length≤570) {x y:Sd} (hx:rdS (bytes a) (bytes b) d=some x) (hy:rdS (bytes a') (bytes b') d'=some y) (hB:Blg x.d y.d) {j k:Nat} (Zx:∀ x,rdS (bytes a) (bytes b) d=some x→Sz x j) (Zy:∀ x,rdS (bytes a') (bytes b') d'=some x→Sz x k) (hj:2 * j + 6 * k≤700) :
 Calls Tryz.prog 33 #[.agg #[.string a, .string b, .int .i64 d], .agg #[.string a', .string b', .int .i64 d']] w (RetV w (opV (rdS (bytes a) (bytes b) d) (rdS (bytes a') (bytes b') d') divV zS)):=by
 have zx:=Zx _ hx
 have zy:=Zy _ hy
 refine Zan (Φ:=fun w=>Glob w) Tryz.func33 rfl (by kernel_rfl) (fun w' hf=>hg.ext hf) ?_
 refine Zac (Zab (xr 4 [(2, .p 2 0),(3, .p 3 0),(4, .p 4 0),(5, .v (.int .i64 0))] [bS3 4 23 ⟨#[]⟩ ⟨#[]⟩ 0,bS3 3 23 a' b' d',bS3 2 23 a b d] ?_))
 refine xe (Zaa (Zac (Zab (xr 2 [(4, .p 4 0),(5, .v (.int .i64 0)),eS3 10 a b d,eS3 11 a' b' d'] [bS3 4 23 ⟨#[]⟩ ⟨#[]⟩ 0] ?_))))
 refine xc 115 [vS3 a b d,vS3 a' b' d'] 12 (fun u:ShS × ShS=>.tuple #[shSd x.d u.1,shSd y.d u.2, .int .i64 0]) _ (fun w R Q=>(Zbx a b a' b' d d' _ Q L L').mono (fun _ _ h=>Zd0 h hx hy hB)) (fun xx=>?_)
 obtain ⟨⟨X10,X11⟩,⟨X12,X13⟩⟩:=xx
 refine xr 9 [(4, .p 4 0),(5, .v (.int .i64 0)),(6, .p 6 0),(7, .p 7 0),(8, .v (.int .i64 0))] [bW 7 120 X12 X13 y.d,bW 6 120 X10 X11 x.d,bS3 4 23 ⟨#[]⟩ ⟨#[]⟩ 0] ?_
 refine xe (Zaa (Zac (ZaK (Zac (Zab (xr 3 [(4, .p 4 0),(5, .v (.int .i64 0)),(6, .p 6 0),(7, .p 7 0),(8, .v (.int .i64 0)),(16, .v (.bool false))] [bW 7 120 X12 X13 y.d,bW 6 120 X10 X11 x.d,bS3 4 23 ⟨#[]⟩ ⟨#[]⟩ 0] ?_))))))
 refine xe (Zaa (xb (Zac (Zab (xr 1 [(4, .p 4 0),(5, .v (.int .i64 0)),(6, .p 6 0),(7, .p 7 0),eW 22 X12 X13 y.d] [bW 7 120 X12 X13 y.d,bW 6 120 X10 X11 x.d,bS3 4 23 ⟨#[]⟩ ⟨#[]⟩ 0] ?_)))))
 by_cases hZ:y.a=0∧y.b=0
 ·refine xc 116 [vW X12 X13 y.d] 23 (fun _:Unit=>.bool true) _ (fun w R Q=>(ZlS _ y _ (SdIs.of Q.2.1.2 Q.2.2)).mono (fun _ _ h=>Zaf h (by rw [ZqX hZ]))) (fun xx=>?_)
  refine xr 1 [(4, .p 4 0),(5, .v (.int .i64 0)),(6, .p 6 0),(7, .p 7 0),(21, .v (.bool true))] [bW 7 120 X12 X13 y.d,bW 6 120 X10 X11 x.d,bS3 4 23 ⟨#[]⟩ ⟨#[]⟩ 0] ?_
  refine xe (Zaa (xa (Zac (Zab (xr 3 [(4, .p 4 0),(5, .v (.int .i64 5)),(6, .p 6 0),(7, .p 7 0)] [bW 7 120 X12 X13 y.d,bW 6 120 X10 X11 x.d,bS3 4 23 ⟨#[]⟩ ⟨#[]⟩ 0] ?_)))))
  refine xe (Zaa (Zah (ZaM (Zaj ?_))))
  refine Zae (v:=.tuple #[.agg #[.string ⟨#[]⟩, .string ⟨#[]⟩, .int .i64 0], .int .i64 5]) (by kernel_rfl) (fun w' R Q=>?_)
  exact ⟨by rw [Zbk hx hy hB]; unfold divV; rw [if_pos hZ],R⟩
 ·refine xc 116 [vW X12 X13 y.d] 23 (fun _:Unit=>.bool false) _ (fun w R Q=>(ZlS _ y _ (SdIs.of Q.2.1.2 Q.2.2)).mono (fun _ _ h=>Zaf h (by rw [ZqY hZ]))) (fun xx=>?_)
  refine xr 1 [(4, .p 4 0),(5, .v (.int .i64 0)),(6, .p 6 0),(7, .p 7 0),(21, .v (.bool false))] [bW 7 120 X12 X13 y.d,bW 6 120 X10 X11 x.d,bS3 4 23 ⟨#[]⟩ ⟨#[]⟩ 0] ?_
  refine xe (Zaa (xb (ZaA (ZcB (Zaa (Zac (Zab (xr 2 [(4, .p 4 0),(5, .v (.int .i64 0)),eW 25 X10 X11 x.d,eW 26 X12 X13 y.d] [bS3 4 23 ⟨#[]⟩ ⟨#[]⟩ 0] ?_))))))))
  refine xc 117 [vW X10 X11 x.d,vW X12 X13 y.d] 27 (shSd ((x.over y).d)) _ (fun w R Q=>(ZqU _ _ x y _ Q.1.1 (SdIs.of Q.1.2.1.1.1 Q.1.2.1.1.2) (SdIs.of Q.1.2.1.2 Q.1.2.2) zx zy (by omega) (by omega)).mono (fun _ _=>ZbA)) (fun xx=>?_)
  obtain ⟨X14,X15⟩:=xx
  refine xr 0 [(4, .p 4 0),(5, .v (.int .i64 0)),(27, .v (vW X14 X15 ((x.over y).d)))] [bS3 4 23 ⟨#[]⟩ ⟨#[]⟩ 0] ?_
  refine xc 94 [vW X14 X15 ((x.over y).d)] 28 (fun _:Unit=>vS3 ⟨(Zad ((x.over y).a)).toArray⟩ ⟨(Zad ((x.over y).b)).toArray⟩ ((x.over y).d)) _ (fun w R Q=>(ZdQ _ (x.over y) _ Q.1.1.1 (SdIs.of Q.2.1 Q.2.2) (j:=(2 * (j + k) + 8 + (4 * k + 8))) (zx.over zy).a (zx.over zy).b (by omega)).mono (fun _ _ h=>Zaf h rfl)) (fun xx=>?_)
  refine xr 2 [(4, .p 4 0),(5, .v (.int .i64 0))] [bS3 4 23 ⟨(Zad ((x.over y).a)).toArray⟩ ⟨(Zad ((x.over y).b)).toArray⟩ ((x.over y).d)] ?_
  refine xe (Zaa (Zah ?_))
  refine Zae (v:=.tuple #[.agg #[.string ⟨(Zad ((x.over y).a)).toArray⟩, .string ⟨(Zad ((x.over y).b)).toArray⟩, .int .i64 ((x.over y).d)], .int .i64 0]) (by kernel_rfl) (fun w' R Q=>?_)
  exact ⟨by rw [Zbk hx hy hB]; unfold divV; rw [if_neg hZ],R⟩
theorem Zhw (a b a' b':ByteArray) (d d':Int) (w:World) (hg:Glob w) (L:(bytes a).length≤570∧(bytes b).length≤570) (L':(bytes a').length≤570∧(bytes b').length≤570) (hx:rdS (bytes a) (bytes b) d=none∨rdS (bytes a') (bytes b') d'=none) :
 Calls Tryz.prog 38 #[.agg #[.string a, .string b, .int .i64 d], .agg #[.string a', .string b', .int .i64 d']] w (RetV w (opV (rdS (bytes a) (bytes b) d) (rdS (bytes a') (bytes b') d') (fun x y=>.tuple #[.int .i64 (x.plus y.neg).sgn, .int .i64 0]) (.int .i64 0))):=by
 refine Zan (Φ:=fun w=>Glob w) Tryz.func38 rfl (by kernel_rfl) (fun w' hf=>hg.ext hf) ?_
 refine Zac (Zab (xr 4 [(2, .p 2 0),(3, .p 3 0),(4, .v (.int .i64 0)),(5, .v (.int .i64 0))] [bS3 3 23 a' b' d',bS3 2 23 a b d] ?_))
 refine xe (Zaa (Zac (Zab (xr 2 [(4, .v (.int .i64 0)),(5, .v (.int .i64 0)),eS3 10 a b d,eS3 11 a' b' d'] [] ?_))))
 refine xc 115 [vS3 a b d,vS3 a' b' d'] 12 (fun _:Unit=>.tuple #[zV,zV, .int .i64 1]) _ (fun w R Q=>(Zbx a b a' b' d d' _ Q L L').mono (fun _ _ h=>ZfT h hx)) (fun xx=>?_)
 refine xr 9 [(4, .v (.int .i64 0)),(5, .v (.int .i64 0)),(6, .p 6 0),(7, .p 7 0),(8, .v (.int .i64 1))] [bV9 7 120 false none 0 0 false none 0 0 false none 0 0 false none 0 0 0,bV9 6 120 false none 0 0 false none 0 0 false none 0 0 false none 0 0 0] ?_
 refine xe (Zaa (Zac (Zac (Zab (xr 2 [(4, .v (.int .i64 0)),(5, .v (.int .i64 0)),(6, .p 6 0),(7, .p 7 0),(8, .v (.int .i64 1)),(17, .v (.bool true))] [bV9 7 120 false none 0 0 false none 0 0 false none 0 0 false none 0 0 0,bV9 6 120 false none 0 0 false none 0 0 false none 0 0 false none 0 0 0] ?_)))))
 refine xe (Zaa (xa (Zac (Zab (xr 3 [(4, .v (.int .i64 0)),(5, .v (.int .i64 1)),(6, .p 6 0),(7, .p 7 0)] [bV9 7 120 false none 0 0 false none 0 0 false none 0 0 false none 0 0 0,bV9 6 120 false none 0 0 false none 0 0 false none 0 0 false none 0 0 0] ?_)))))
 refine xe (Zaa (Zah (Zaj ?_)))
 refine Zae (v:=.tuple #[.int .i64 0, .int .i64 1]) (by kernel_rfl) (fun w' R Q=>?_)
 exact ⟨by rw [ZaX hx],R⟩
theorem ZnF (a b a' b':ByteArray) (d d':Int) (w:World) (hg:Glob w) (L:(bytes a).length≤570∧(bytes b).length≤570) (L':(bytes a').length≤570∧(bytes b').length≤570) {x y:Sd} (hx:rdS (bytes a) (bytes b) d=some x) (hy:rdS (bytes a') (bytes b') d'=some y) (hB:¬ Blg x.d y.d) :
 Calls Tryz.prog 38 #[.agg #[.string a, .string b, .int .i64 d], .agg #[.string a', .string b', .int .i64 d']] w (RetV w (opV (rdS (bytes a) (bytes b) d) (rdS (bytes a') (bytes b') d') (fun x y=>.tuple #[.int .i64 (x.plus y.neg).sgn, .int .i64 0]) (.int .i64 0))):=by
 refine Zan (Φ:=fun w=>Glob w) Tryz.func38 rfl (by kernel_rfl) (fun w' hf=>hg.ext hf) ?_
 refine Zac (Zab (xr 4 [(2, .p 2 0),(3, .p 3 0),(4, .v (.int .i64 0)),(5, .v (.int .i64 0))] [bS3 3 23 a' b' d',bS3 2 23 a b d] ?_))
 refine xe (Zaa (Zac (Zab (xr 2 [(4, .v (.int .i64 0)),(5, .v (.int .i64 0)),eS3 10 a b d,eS3 11 a' b' d'] [] ?_))))
 refine xc 115 [vS3 a b d,vS3 a' b' d'] 12 (fun _:Unit=>.tuple #[zV,zV, .int .i64 9]) _ (fun w R Q=>(Zbx a b a' b' d d' _ Q L L').mono (fun _ _ h=>Zgo h hx hy hB)) (fun xx=>?_)
 refine xr 9 [(4, .v (.int .i64 0)),(5, .v (.int .i64 0)),(6, .p 6 0),(7, .p 7 0),(8, .v (.int .i64 9))] [bV9 7 120 false none 0 0 false none 0 0 false none 0 0 false none 0 0 0,bV9 6 120 false none 0 0 false none 0 0 false none 0 0 false none 0 0 0] ?_
 refine xe (Zaa (Zac (Zac (Zab (xr 2 [(4, .v (.int .i64 0)),(5, .v (.int .i64 0)),(6, .p 6 0),(7, .p 7 0),(8, .v (.int .i64 9)),(17, .v (.bool true))] [bV9 7 120 false none 0 0 false none 0 0 false none 0 0 false none 0 0 0,bV9 6 120 false none 0 0 false none 0 0 false none 0 0 false none 0 0 0] ?_)))))
 refine xe (Zaa (xa (Zac (Zab (xr 3 [(4, .v (.int .i64 0)),(5, .v (.int .i64 9)),(6, .p 6 0),(7, .p 7 0)] [bV9 7 120 false none 0 0 false none 0 0 false none 0 0 false none 0 0 0,bV9 6 120 false none 0 0 false none 0 0 false none 0 0 false none 0 0 0] ?_)))))
 refine xe (Zaa (Zah (Zaj ?_)))
 refine Zae (v:=.tuple #[.int .i64 0, .int .i64 9]) (by kernel_rfl) (fun w' R Q=>?_)
 exact ⟨by rw [ZbB hx hy hB],R⟩
theorem ZnG (a b a' b':ByteArray) (d d':Int) (w:World) (hg:Glob w) (L:(bytes a).length≤570∧(bytes b).length≤570) (L':(bytes a').length≤570∧(bytes b').length≤570) {x y:Sd} (hx:rdS (bytes a) (bytes b) d=some x) (hy:rdS (bytes a') (bytes b') d'=some y) (hB:Blg x.d y.d) {j k:Nat} (Zx:∀ x,rdS (bytes a) (bytes b) d=some x→Sz x j) (Zy:∀ x,rdS (bytes a') (bytes b') d'=some x→Sz x k) (hj:j + k≤340) :
 Calls Tryz.prog 38 #[.agg #[.string a, .string b, .int .i64 d], .agg #[.string a', .string b', .int .i64 d']] w (RetV w (opV (rdS (bytes a) (bytes b) d) (rdS (bytes a') (bytes b') d') (fun x y=>.tuple #[.int .i64 (x.plus y.neg).sgn, .int .i64 0]) (.int .i64 0))):=by
 have zx:=Zx _ hx
 have zy:=Zy _ hy
 refine Zan (Φ:=fun w=>Glob w) Tryz.func38 rfl (by kernel_rfl) (fun w' hf=>hg.ext hf) ?_
 refine Zac (Zab (xr 4 [(2, .p 2 0),(3, .p 3 0),(4, .v (.int .i64 0)),(5, .v (.int .i64 0))] [bS3 3 23 a' b' d',bS3 2 23 a b d] ?_))
 refine xe (Zaa (Zac (Zab (xr 2 [(4, .v (.int .i64 0)),(5, .v (.int .i64 0)),eS3 10 a b d,eS3 11 a' b' d'] [] ?_))))
 refine xc 115 [vS3 a b d,vS3 a' b' d'] 12 (fun u:ShS × ShS=>.tuple #[shSd x.d u.1,shSd y.d u.2, .int .i64 0]) _ (fun w R Q=>(Zbx a b a' b' d d' _ Q L L').mono (fun _ _ h=>Zd0 h hx hy hB)) (fun xx=>?_)
 obtain ⟨⟨X10,X11⟩,⟨X12,X13⟩⟩:=xx
 refine xr 9 [(4, .v (.int .i64 0)),(5, .v (.int .i64 0)),(6, .p 6 0),(7, .p 7 0),(8, .v (.int .i64 0))] [bW 7 120 X12 X13 y.d,bW 6 120 X10 X11 x.d] ?_
 refine xe (Zaa (Zac (Zac (Zab (xr 2 [(4, .v (.int .i64 0)),(5, .v (.int .i64 0)),(6, .p 6 0),(7, .p 7 0),(8, .v (.int .i64 0)),(17, .v (.bool false))] [bW 7 120 X12 X13 y.d,bW 6 120 X10 X11 x.d] ?_)))))
 refine xe (Zaa (xb (ZaA (Zaa (Zac ?_)))))
 refine ZaE 7 (by kernel_rfl) (by kernel_rfl) Zal ?_
 refine xf 2 [(4, .v (.int .i64 0)),(5, .v (.int .i64 0)),eW 19 X10 X11 x.d,eW 20 X12 X13 y.d] [bW 7 120 X12 X13 y.d,bW 6 120 X10 X11 x.d] ?_
 refine xd 120 [vW X12 X13 y.d] 21 (shSd y.neg.d) _ (fun w R Q=>(ZjA _ y _ (SdIs.of Q.2.1.2 Q.2.2)).mono (fun _ _=>ZbA)) (fun xx=>?_)
 obtain ⟨X14,X15⟩:=xx
 refine xf 0 [(4, .v (.int .i64 0)),(5, .v (.int .i64 0)),eW 19 X10 X11 x.d,eW 21 X14 X15 y.neg.d] [bW 7 120 X12 X13 y.d,bW 6 120 X10 X11 x.d] ?_
 refine xd 114 [vW X10 X11 x.d,vW X14 X15 y.neg.d] 22 (shSd ((x.plus y.neg).d)) _ (fun w R Q=>(Zif _ _ x y.neg _ Q.1.1 (SdIs.of Q.1.2.1.1.1 Q.1.2.1.1.2) (SdIs.of Q.2.1 Q.2.2) zx zy.neg (by omega)).mono (fun _ _=>ZbA)) (fun xx=>?_)
 obtain ⟨X16,X17⟩:=xx
 refine xf 0 [(4, .v (.int .i64 0)),(5, .v (.int .i64 0)),(22, .v (vW X16 X17 ((x.plus y.neg).d)))] [bW 7 120 X12 X13 y.d,bW 6 120 X10 X11 x.d] ?_
 refine xd 108 [vW X16 X17 ((x.plus y.neg).d)] 23 (fun _:Unit=>.int .i64 (x.plus y.neg).sgn) _ (fun w R Q=>(ZlT _ (x.plus y.neg) _ Q.1.1.1 (SdIs.of Q.2.1 Q.2.2) (zx.plus zy.neg) (by omega)).mono (fun _ _ h=>Zaf h rfl)) (fun xx=>?_)
 refine xf 2 [(4, .v (.int .i64 (x.plus y.neg).sgn)),(5, .v (.int .i64 0))] [bW 7 120 X12 X13 y.d,bW 6 120 X10 X11 x.d] ?_
 refine xz (xe (Zaa (Zah ?_)))
 refine Zae (v:=.tuple #[.int .i64 (x.plus y.neg).sgn, .int .i64 0]) (by kernel_rfl) (fun w' R Q=>?_)
 exact ⟨by rw [Zbk hx hy hB],R⟩
theorem Zq0 (a b:ByteArray) (d:Int) (w:World) (hg:Glob w) (L:(bytes a).length≤570∧(bytes b).length≤570) (hx:rdS (bytes a) (bytes b) d=none) :
 Calls Tryz.prog 40 #[.agg #[.string a, .string b, .int .i64 d]] w (RetV w (opU (rdS (bytes a) (bytes b) d) (fun x=>okS x.neg) zS)):=by
 refine Zan (Φ:=fun w=>Glob w) Tryz.func40 rfl (by kernel_rfl) (fun w' hf=>hg.ext hf) ?_
 refine Zac (Zab (xr 3 [(1, .p 1 0),(2, .p 2 0),(3, .v (.int .i64 0))] [bS3 2 23 ⟨#[]⟩ ⟨#[]⟩ 0,bS3 1 23 a b d] ?_))
 refine xe (Zaa (Zac (Zab (xr 1 [(2, .p 2 0),(3, .v (.int .i64 0)),eS3 7 a b d] [bS3 2 23 ⟨#[]⟩ ⟨#[]⟩ 0] ?_))))
 refine xc 102 [vS3 a b d] 8 (fun u0:Int × ShS=>.tuple #[shSd u0.1 u0.2, .bool false]) _ (fun w R Q=>(Zc8 a b d _ Q L).mono (fun _ _ h=>ZfR h hx)) (fun xx=>?_)
 obtain ⟨d12d,X10,X11⟩:=xx
 refine xr 6 [(2, .p 2 0),(3, .v (.int .i64 0)),(4, .p 4 0),(5, .v (.bool false))] [bW 4 120 X10 X11 d12d,bS3 2 23 ⟨#[]⟩ ⟨#[]⟩ 0] ?_
 refine xe (Zaa (Zac (Zac (Zab (xr 2 [(2, .p 2 0),(3, .v (.int .i64 0)),(4, .p 4 0),(12, .v (.bool true))] [bW 4 120 X10 X11 d12d,bS3 2 23 ⟨#[]⟩ ⟨#[]⟩ 0] ?_)))))
 refine xe (Zaa (xa (Zac (Zab (xr 3 [(2, .p 2 0),(3, .v (.int .i64 1)),(4, .p 4 0)] [bW 4 120 X10 X11 d12d,bS3 2 23 ⟨#[]⟩ ⟨#[]⟩ 0] ?_)))))
 refine xe (Zaa (Zah (Zaj ?_)))
 refine Zae (v:=.tuple #[.agg #[.string ⟨#[]⟩, .string ⟨#[]⟩, .int .i64 0], .int .i64 1]) (by kernel_rfl) (fun w' R Q=>?_)
 exact ⟨by rw [Zo7 hx],R⟩
theorem Zr7 (a b:ByteArray) (d:Int) (w:World) (hg:Glob w) (L:(bytes a).length≤570∧(bytes b).length≤570) {x:Sd} (hx:rdS (bytes a) (bytes b) d=some x) {j:Nat} (Zx:∀ x,rdS (bytes a) (bytes b) d=some x→Sz x j) (hj:j≤350) :
 Calls Tryz.prog 40 #[.agg #[.string a, .string b, .int .i64 d]] w (RetV w (opU (rdS (bytes a) (bytes b) d) (fun x=>okS x.neg) zS)):=by
 have zx:=Zx _ hx
 refine Zan (Φ:=fun w=>Glob w) Tryz.func40 rfl (by kernel_rfl) (fun w' hf=>hg.ext hf) ?_
 refine Zac (Zab (xr 3 [(1, .p 1 0),(2, .p 2 0),(3, .v (.int .i64 0))] [bS3 2 23 ⟨#[]⟩ ⟨#[]⟩ 0,bS3 1 23 a b d] ?_))
 refine xe (Zaa (Zac (Zab (xr 1 [(2, .p 2 0),(3, .v (.int .i64 0)),eS3 7 a b d] [bS3 2 23 ⟨#[]⟩ ⟨#[]⟩ 0] ?_))))
 refine xc 102 [vS3 a b d] 8 (fun u0:ShS=>.tuple #[shSd x.d u0, .bool true]) _ (fun w R Q=>(Zc8 a b d _ Q L).mono (fun _ _ h=>ZeD h hx)) (fun xx=>?_)
 obtain ⟨X10,X11⟩:=xx
 refine xr 6 [(2, .p 2 0),(3, .v (.int .i64 0)),(4, .p 4 0),(5, .v (.bool true))] [bW 4 120 X10 X11 x.d,bS3 2 23 ⟨#[]⟩ ⟨#[]⟩ 0] ?_
 refine xe (Zaa (Zac (Zac (Zab (xr 2 [(2, .p 2 0),(3, .v (.int .i64 0)),(4, .p 4 0),(12, .v (.bool false))] [bW 4 120 X10 X11 x.d,bS3 2 23 ⟨#[]⟩ ⟨#[]⟩ 0] ?_)))))
 refine xe (Zaa (xb (ZaA (Zaa (Zac (Zab (xr 1 [(2, .p 2 0),(3, .v (.int .i64 0)),eW 14 X10 X11 x.d] [bS3 2 23 ⟨#[]⟩ ⟨#[]⟩ 0] ?_)))))))
 refine xc 120 [vW X10 X11 x.d] 15 (shSd x.neg.d) _ (fun w R Q=>(ZjA _ x _ (SdIs.of Q.2.1 Q.2.2)).mono (fun _ _=>ZbA)) (fun xx=>?_)
 obtain ⟨X12,X13⟩:=xx
 refine xr 0 [(2, .p 2 0),(3, .v (.int .i64 0)),eW 15 X12 X13 x.neg.d] [bS3 2 23 ⟨#[]⟩ ⟨#[]⟩ 0] ?_
 refine xc 94 [vW X12 X13 x.neg.d] 16 (fun _:Unit=>vS3 ⟨(Zad x.neg.a).toArray⟩ ⟨(Zad x.neg.b).toArray⟩ x.neg.d) _ (fun w R Q=>(ZdQ _ x.neg _ Q.1.1 (SdIs.of Q.2.1 Q.2.2) (j:=j) zx.neg.a zx.neg.b (by omega)).mono (fun _ _ h=>Zaf h rfl)) (fun xx=>?_)
 refine xr 2 [(2, .p 2 0),(3, .v (.int .i64 0))] [bS3 2 23 ⟨(Zad x.neg.a).toArray⟩ ⟨(Zad x.neg.b).toArray⟩ x.neg.d] ?_
 refine xe (Zaa (Zah ?_))
 refine Zae (v:=.tuple #[.agg #[.string ⟨(Zad x.neg.a).toArray⟩, .string ⟨(Zad x.neg.b).toArray⟩, .int .i64 x.neg.d], .int .i64 0]) (by kernel_rfl) (fun w' R Q=>?_)
 exact ⟨by rw [ZgG hx],R⟩
theorem Zq1 (a b:ByteArray) (d:Int) (w:World) (hg:Glob w) (L:(bytes a).length≤570∧(bytes b).length≤570) {x:Sd} (hx:rdS (bytes a) (bytes b) d=some x) {j:Nat} (Zx:∀ x,rdS (bytes a) (bytes b) d=some x→Sz x j) (hj:j≤350) :
 Calls Tryz.prog 25 #[.agg #[.string a, .string b, .int .i64 d]] w (RetV w (opU (rdS (bytes a) (bytes b) d) (fun x=>.tuple #[.int .i64 x.sgn, .int .i64 0]) (.int .i64 0))):=by
 have zx:=Zx _ hx
 refine Zan (Φ:=fun w=>Glob w) Tryz.func25 rfl (by kernel_rfl) (fun w' hf=>hg.ext hf) ?_
 refine Zac (Zab (xr 3 [(1, .p 1 0),(2, .v (.int .i64 0)),(3, .v (.int .i64 0))] [bS3 1 23 a b d] ?_))
 refine xe (Zaa (Zac (Zab (xr 1 [(2, .v (.int .i64 0)),(3, .v (.int .i64 0)),eS3 7 a b d] [] ?_))))
 refine xc 102 [vS3 a b d] 8 (fun u0:ShS=>.tuple #[shSd x.d u0, .bool true]) _ (fun w R Q=>(Zc8 a b d _ Q L).mono (fun _ _ h=>ZeD h hx)) (fun xx=>?_)
 obtain ⟨X10,X11⟩:=xx
 refine xr 6 [(2, .v (.int .i64 0)),(3, .v (.int .i64 0)),(4, .p 4 0),(5, .v (.bool true))] [bW 4 120 X10 X11 x.d] ?_
 refine xe (Zaa (Zac (Zac (Zab (xr 2 [(2, .v (.int .i64 0)),(3, .v (.int .i64 0)),(4, .p 4 0),(12, .v (.bool false))] [bW 4 120 X10 X11 x.d] ?_)))))
 refine xe (Zaa (xb (ZaA (Zaa (Zac (Zab (xr 1 [(2, .v (.int .i64 0)),(3, .v (.int .i64 0)),eW 13 X10 X11 x.d] [] ?_)))))))
 refine xc 108 [vW X10 X11 x.d] 14 (fun _:Unit=>.int .i64 x.sgn) _ (fun w R Q=>(ZlT _ x _ Q.1 (SdIs.of Q.2.1 Q.2.2) zx (by omega)).mono (fun _ _ h=>Zaf h rfl)) (fun xx=>?_)
 refine xr 2 [(2, .v (.int .i64 x.sgn)),(3, .v (.int .i64 0))] [] ?_
 refine xe (Zaa (Zah ?_))
 refine Zae (v:=.tuple #[.int .i64 x.sgn, .int .i64 0]) (by kernel_rfl) (fun w' R Q=>?_)
 exact ⟨by rw [ZgG hx],R⟩
end Go.Proofs.YtbgkofgoeoiciaaGreatDoor

namespace Go.Proofs.YtbgkofgoeoiciaaGreatDoor
open Go.RowKit
open Sd
section
variable {x y z:Sd}
theorem ZiC (hx:x.Ok) (hy:y.Ok) (hb:Blg x.d y.d):∃ D,Fld D∧∃ a b a' b',x=nv a b D∧y=nv a' b' D:=by
 obtain ⟨D,hD,e1,e2⟩:=ZtG hx hy hb
 exact ⟨D,hD,_,_,_,_,e1,e2⟩
theorem Zq2 (hx:x.Ok):∃ D,Fld D∧∃ a b,x=nv a b D:=by
 obtain ⟨D,hD,h1,h2⟩:=hx.field
 exact ⟨D,hD,_,_,h2 D h1⟩
theorem Zq3 (hx:x.Ok) (hy:y.Ok) (hb:Blg x.d y.d):(x.plus y).Ok∧x.rplus 1 y=x.plus y:=by
 obtain ⟨D,hD,a,b,a',b',rfl,rfl⟩:=ZiC hx hy hb
 rw [ZoW hD,Zjy hD]
 exact ⟨hD.nv_ok _ _,Zd7 (by grind) (by grind)⟩
theorem ZnH (hx:x.Ok) (hy:y.Ok) (hb:Blg x.d y.d):(x.plus y.neg).Ok∧x.rplus (-1) y=x.plus y.neg:=by
 obtain ⟨D,hD,a,b,a',b',rfl,rfl⟩:=ZiC hx hy hb
 rw [Znv hD,ZoW hD,Zjy hD]
 exact ⟨hD.nv_ok _ _,Zd7 (by grind) (by grind)⟩
theorem Zq4 (hx:x.Ok) (hy:y.Ok) (hb:Blg x.d y.d):(x.times y).Ok∧x.rtimes y=x.times y:=by
 obtain ⟨D,hD,a,b,a',b',rfl,rfl⟩:=ZiC hx hy hb
 rw [Zjx hD,Zic hD]
 exact ⟨hD.nv_ok _ _,rfl⟩
theorem nv_z {D:Int} (_hD:Fld D) {a b:Rat}:((nv a b D).a=0∧(nv a b D).b=0) ↔ (a=0∧b=0):=by rw [nv_a,nv_b]
theorem ZtO (hx:x.Ok) (hy:y.Ok) (hb:Blg x.d y.d) (h0:¬ (y.a=0∧y.b=0)):(x.over y).Ok∧x.rover y=x.over y:=by
 obtain ⟨D,hD,a,b,a',b',rfl,rfl⟩:=ZiC hx hy hb
 rw [nv_z hD] at h0
 rw [ZrW hD _ _ _ _ h0,ZoX hD]
 exact ⟨hD.nv_ok _ _,rfl⟩
theorem Zq5 (hx:x.Ok):x.neg.Ok∧x.conj.Ok∧x.rnorm=x.norm∧x.rsgn=x.sgn:=by
 obtain ⟨D,hD,a,b,rfl⟩:=Zq2 hx
 rw [Znv hD,ZgD hD,Znw hD,Zk8 hD,Zs2 hD]
 exact ⟨hD.nv_ok _ _,hD.nv_ok _ _,rfl,rfl⟩
theorem Zkx (hx:x.Ok):(Sd.mk 0 0 1).rplus (-1) x=x.neg:=by
 obtain ⟨D,hD,a,b,rfl⟩:=Zq2 hx
 rw [← Zc5 0 D,Zjy hD,Znv hD]
 exact Zd7 (by grind) (by grind)
end
theorem ZtP {z:Sd} (hz:z.Ok):rdS (Zad z.a) (Zad z.b) z.d=some z:=ZeR (Zgb _) (Zgb _) hz
end Go.Proofs.YtbgkofgoeoiciaaGreatDoor

namespace Go.Proofs.YtbgkofgoeoiciaaGreatDoor
open Go.RowKit
open Sd
theorem Zhj {a b:Rat} {d:Int} {k:Nat} (ha:Dq a k) (hb:Dq b k) (h1:1≤d) (h2:d≤1000000):Sz (Sd.build a b d) (2 * k + 1):=by
 have hz:Dq 0 (2 * k + 1):=Dq.zero (by omega)
 unfold Sd.build
 split
 ·exact ⟨(ha.add hb).up (by omega),hz,(by decide:(1:Int)≤1),(by decide:(1:Int)≤1000000)⟩
 ·split
  ·exact ⟨ha.up (by omega),hz,(by decide:(1:Int)≤1),(by decide:(1:Int)≤1000000)⟩
  ·exact ⟨ha.up (by omega),hb.up (by omega),h1,h2⟩
theorem Ztb (a b:Rat) (d:Int):(Sd.build a b d).d=1∨(Sd.build a b d).d=d:=by
 unfold Sd.build
 split
 ·exact Or.inl rfl
 ·split
  ·exact Or.inl rfl
  ·exact Or.inr rfl
theorem ZtQ {d e:Int} (hB:Blg d e) (h1:1≤d) (h2:d≤1000000) (h3:1≤e) (h4:e≤1000000):1≤fld d e∧fld d e≤1000000:=by
 unfold Blg at hB
 unfold fld
 split
 ·omega
 ·split
  ·omega
  ·omega
section
variable {x y:Sd} {j k:Nat}
theorem Sz.fl (h:Sz x j) (h':Sz y k) (hB:Blg x.d y.d):1≤fld x.d y.d∧fld x.d y.d≤1000000:=ZtQ hB h.lo h.hi h'.lo h'.hi
theorem Dq.fl (h:Sz x j) (h':Sz y k) (hB:Blg x.d y.d):Dq ((fld x.d y.d:Int):Rat) 7:=by
 have h1:=h.fl h' hB
 exact Dq.int (k:=7) (by rw [show (10:Nat) ^ 7=10000000 by decide]; omega) (by decide)
theorem Sz.rplus {c:Rat} (h:Sz x j) (h':Sz y k) (hc:Dq c 1) (hB:Blg x.d y.d):Sz (x.rplus c y) (2 * (j + k) + 5) :=
 (Zhj (k:=j + (1 + k) + 1) (h.a.add (hc.mul h'.a)) (h.b.add (hc.mul h'.b)) (h.fl h' hB).1 (h.fl h' hB).2).up (by omega)
theorem Sz.rtimes (h:Sz x j) (h':Sz y k) (hB:Blg x.d y.d):Sz (x.rtimes y) (4 * (j + k) + 17) :=
 (Zhj (k:=2 * (j + k) + 8) (((h.a.mul h'.a).add ((Dq.fl h h' hB).mul (h.b.mul h'.b))).up (by omega)) (((h.a.mul h'.b).add (h.b.mul h'.a)).up (by omega)) (h.fl h' hB).1 (h.fl h' hB).2).up (by omega)
theorem ZnI (x:Sd):Blg x.d x.conj.d:=Or.inr (Or.inr rfl)
theorem Sz.rnorm (h:Sz x j):Dq x.rnorm (8 * j + 17):=(h.rtimes h.conj (ZnI x)).a.up (by omega)
theorem Zl0 (hB:Blg x.d y.d) (a b:Rat):Blg x.d (Sd.build a b y.d).d:=by
 rcases Ztb a b y.d with e | e<;>rw [e]
 ·exact Or.inr (Or.inl rfl)
 ·exact hB
theorem Zei {q:Rat} {k:Nat} (h:Dq q k) (hk:1≤k):Dq (1 / q) k:=by rw [Rat.div_def,Rat.one_mul]; exact h.inv hk
theorem Sz.rover (h:Sz x j) (h':Sz y k) (hB:Blg x.d y.d):Sz (x.rover y) (4 * (j + (2 * (k + (8 * k + 17)) + 1)) + 17) :=
 h.rtimes (Zhj (h'.conj.a.mul (Zei h'.rnorm (by omega))) (h'.conj.b.mul (Zei h'.rnorm (by omega))) h'.conj.lo h'.conj.hi) (Zl0 hB _ _)
theorem ZpQ (hB:¬ Blg x.d y.d):((fld x.d y.d:Int) == 0)=true:=by
 unfold Blg at hB
 unfold fld
 rw [if_neg (by omega),if_neg (by omega)]; rfl
theorem ZnJ (h:Sz x j) (h':Sz y k) (hB:Blg x.d y.d):((fld x.d y.d:Int) == 0)=false:=by
 have:=(h.fl h' hB).1
 rw [beq_eq_false_iff_ne]; omega
end
theorem fld1 {d e:Int} (h:(d == 1)=true):fld d e=e:=by unfold fld; exact if_pos (Or.inl (eq_of_beq h))
theorem fld2 {d e:Int} (_h:(d == 1)=false) (h':(d == e)=true):fld d e=e:=by unfold fld; exact if_pos (Or.inr (eq_of_beq h'))
theorem fld3 {d e:Int} (h:(d == 1)=false) (h':(d == e)=false) (h'':(e == 1)=true):fld d e=d:=by
 unfold fld; rw [if_neg (by rintro (e1 | e1)<;>subst e1<;>simp at h h'),if_pos (eq_of_beq h'')]
theorem fld4 {d e:Int} (h:(d == 1)=false) (h':(d == e)=false) (h'':(e == 1)=false):fld d e=0:=by
 unfold fld; rw [if_neg (by rintro (e1 | e1)<;>subst e1<;>simp at h h'),if_neg (by rintro e1; subst e1; simp at h'')]
theorem Zq7 (a b:Int):IntKind.i64.wrap (a.sign * b.sign)=a.sign * b.sign:=by
 rcases Zkg a with ⟨_,h⟩ | ⟨_,h⟩ | ⟨_,h⟩<;>rcases Zkg b with ⟨_,h'⟩ | ⟨_,h'⟩ | ⟨_,h'⟩<;>rw [h,h']<;>decide
theorem ZgH:valF [49]=1:=Zpa (ZcW (n:=1) (by decide) (by decide) (by decide))
theorem Zb5:valF [45,49] = -1:=Zpa (ZlZ (n:=1) (by decide) (by decide) (by decide) (by decide))
end Go.Proofs.YtbgkofgoeoiciaaGreatDoor

namespace Go.Proofs.YtbgkofgoeoiciaaGreatDoor
open Go.RowKit
theorem Zr8 (s:ByteArray) (w:World) (hs:s.size≤65536) :
 Calls Tryz.prog 63 #[.string s] w (ZbF w (valF (bytes s))):=by
 refine Zan (Φ:=fun w=>True) Tryz.func63 rfl (by kernel_rfl) (fun w' hf=>trivial) ?_
 refine Zac (Zab (xr 1 [(0, .v (.string s)),(2, .p 2 0)] [bR4 2 36 false none 0 0 false none 0 0] ?_))
 refine xe (Zaa (Zac (Zab (xr 1 [(2, .p 2 0),(6, .v (.string s))] [bR4 2 36 false none 0 0 false none 0 0] ?_))))
 rcases ZcK (ZaH (bytes s)) with hr | ⟨q,hr⟩
 ·refine xc 100 [.string s] 7 (fun x:ShQ=>.tuple #[Zak x, .bool false]) _ (fun w R Q=>(ZdH s _ (by omega)).mono (fun _ _ h=>Zez h hr)) (fun xx=>?_)
  obtain ⟨s10,A10,l10,c10,t10,B10,m10,d10⟩:=xx
  refine xr 6 [(2, .p 2 0),(3, .p 3 0),(4, .v (.bool false))] [bR4 3 36 s10 A10 l10 c10 t10 B10 m10 d10,bR4 2 36 false none 0 0 false none 0 0] ?_
  refine xe (Zaa (Zac (Zac (Zab (xr 2 [(2, .p 2 0),(3, .p 3 0),(11, .v (.bool true))] [bR4 3 36 s10 A10 l10 c10 t10 B10 m10 d10,bR4 2 36 false none 0 0 false none 0 0] ?_)))))
  refine xe (Zaa (xa (Zac (Zab (xr 2 [(2, .p 2 0),(3, .p 3 0)] [bR4 3 36 s10 A10 l10 c10 t10 B10 m10 d10,bR4 2 36 false none 0 0 false none 0 0] ?_)))))
  refine xe (Zaa (Zah (Zaj ?_)))
  refine Zae (v:=.agg #[.bool false, .slice none 0 0, .bool false, .slice none 0 0]) (by kernel_rfl) (fun w' R Q=>?_)
  exact ⟨_,rfl,by rw [Zqx hr]; exact Zai.nil _,R⟩
 ·refine xc 100 [.string s] 7 (fun x:ShQ=>.tuple #[Zak x, .bool true]) _ (fun w R Q=>(ZdH s _ (by omega)).mono (fun _ _ h=>ZeA h hr)) (fun xx=>?_)
  obtain ⟨s11,A11,l11,c11,t11,B11,m11,d11⟩:=xx
  refine xr 6 [(2, .p 2 0),(3, .p 3 0),(4, .v (.bool true))] [bR4 3 36 s11 A11 l11 c11 t11 B11 m11 d11,bR4 2 36 false none 0 0 false none 0 0] ?_
  refine xe (Zaa (Zac (Zac (Zab (xr 2 [(2, .p 2 0),(3, .p 3 0),(11, .v (.bool false))] [bR4 3 36 s11 A11 l11 c11 t11 B11 m11 d11,bR4 2 36 false none 0 0 false none 0 0] ?_)))))
  refine xe (Zaa (xb (ZaA (Zaa (Zac (Zab (xr 2 [(2, .p 2 0)] [bR4 2 36 s11 A11 l11 c11 t11 B11 m11 d11] ?_)))))))
  refine xe (Zaa (Zah ?_))
  refine Zae (v:=.agg #[.bool s11, .slice A11 l11 c11, .bool t11, .slice B11 m11 d11]) (by kernel_rfl) (fun w' R Q=>?_)
  exact ⟨_,rfl,by rw [Zlz hr]; exact Q.2,R⟩
end Go.Proofs.YtbgkofgoeoiciaaGreatDoor

namespace Go.Proofs.YtbgkofgoeoiciaaGreatDoor
open Go.RowKit
abbrev eN5 (k:Nat) (x:Int):Nat × AV:=(k, .v (.int .i64 x))
theorem ZnK (z:Int) (w:World) (h1 : -9223372036854775808≤z) (h2:z≤9223372036854775807) :
 Calls Tryz.prog 77 #[.int .i64 z] w (ZbF w ((z:Int):Rat)):=by
 refine Zan (Φ:=fun w=>True) Tryz.func77 rfl (by kernel_rfl) (fun w' hf=>trivial) ?_
 refine Zac (Zab (xr 1 [eN5 0 z,(2, .p 2 0)] [bR4 2 36 false none 0 0 false none 0 0] ?_))
 refine xe (Zaa (Zac (Zab (xr 1 [(2, .p 2 0),eN5 3 z] [bR4 2 36 false none 0 0 false none 0 0] ?_))))
 refine xc 177 [.int .i64 z] 4 ZaB _ (fun w R Q=>(Zh3 z _ h1 h2).mono (fun _ _=>ZaI)) (fun xx=>?_)
 obtain ⟨s10,A10,l10,c10⟩:=xx
 refine xr 2 [(2, .p 2 0)] [bR4 2 36 s10 A10 l10 c10 false none 0 0] ?_
 refine xe (Zaa (Zah ?_))
 refine Zae (v:=.agg #[.bool s10, .slice A10 l10 c10, .bool false, .slice none 0 0]) (by kernel_rfl) (fun w' R Q=>?_)
 exact ⟨_,rfl,Zai.whole Q.2,R⟩
end Go.Proofs.YtbgkofgoeoiciaaGreatDoor

namespace Go.Proofs.YtbgkofgoeoiciaaGreatDoor
open Go.RowKit
theorem ZmC {q:Rat} (h:q.num=0):((q.num.sign:Int) == 0)=true:=by rw [h]; rfl
theorem ZmD {q:Rat} (h:¬ q.num=0):((q.num.sign:Int) == 0)=false:=by rw [beq_eq_false_iff_ne]; exact fun e=>h (Int.sign_eq_zero_iff_zero.1 e)
theorem Zt7 {q:Rat} (h:q.num=0):((q.num.sign:Int) != 0)=false:=by rw [h]; rfl
theorem Zt8 {q:Rat} (h:¬ q.num=0):((q.num.sign:Int) != 0)=true:=by rw [bne_iff_ne]; exact fun e=>h (Int.sign_eq_zero_iff_zero.1 e)
theorem Ztc (a b:Rat) {d:Int} (h:(d == 1)=true):Sd.build a b d=⟨a + b,0,1⟩:=Zta h
theorem Zr9 (a:Rat) {b:Rat} {d:Int} (h:(d == 1)=false) (h':b.num=0):Sd.build a b d=⟨a,0,1⟩:=by rw [Zo8 h,Rat.num_eq_zero.1 h',Zc5]
theorem ZtR (a:Rat) {b:Rat} {d:Int} (h:(d == 1)=false) (h':¬ b.num=0):Sd.build a b d=⟨a,b,d⟩:=by rw [Zo8 h,Zgg _ _ (fun e=>h' (by rw [e]; rfl))]
open Classical in
noncomputable def Zhk (x y:Sd):Value:=if y.a=0∧y.b=0 then .tuple #[zS, .int .i64 5] else okS (x.rover y)
theorem Zq8 {N:Nat} (h:Free N):@decide (Free N) (Classical.propDecidable _)=true:=@decide_eq_true _ (Classical.propDecidable _) h
theorem Zq9 {N:Nat} (h:¬ Free N):@decide (Free N) (Classical.propDecidable _)=false:=@decide_eq_false _ (Classical.propDecidable _) h
theorem Zlb {o o':Option Sd} {x:Sd} (h:o=none∨o'=none) (hx:o=some x):o'=none:=by
 rcases h with h | h
 ·rw [hx] at h; cases h
 ·exact h
theorem ZgI:Dq 1 1:=⟨by decide,by decide⟩
theorem ZnL (vp:Value) (p:Rat) (w:World) (hhp:Zai w vp p)  :
 Calls Tryz.prog 74 #[vp] w (ZfQ w ⟨p,0,1⟩):=by
 obtain ⟨s8,A8,l8,c8,t8,B8,m8,d8,rfl⟩:=hhp.shp
 refine Zan (Φ:=fun w=>Zai w (.agg #[.bool s8, .slice A8 l8 c8, .bool t8, .slice B8 m8 d8]) (p)) Tryz.func74 rfl (by kernel_rfl) (fun w' hf=>hhp.ext hf) ?_
 refine Zac (Zab (xr 2 [(1, .p 1 0),(2, .p 2 0)] [bV9 2 38 false none 0 0 false none 0 0 false none 0 0 false none 0 0 0,bR4 1 36 s8 A8 l8 c8 t8 B8 m8 d8] ?_))
 refine xe (Zaa (Zac (Zab (xr 3 [(2, .p 2 0)] [bV9 2 38 s8 A8 l8 c8 t8 B8 m8 d8 false none 0 0 false none 0 0 1] ?_))))
 refine xe (Zaa (Zah ?_))
 refine Zae (v:=.agg #[.bool s8, .slice A8 l8 c8, .bool t8, .slice B8 m8 d8, .bool false, .slice none 0 0, .bool false, .slice none 0 0, .int .i64 1]) (by kernel_rfl) (fun w' R Q=>?_)
 exact ⟨_,rfl,(ZaT.of Q (Zai.nil _)),R⟩
theorem ZcQ (s0:Bool) (A0:Option Addr) (l0:Nat) (c0:Nat) (t0:Bool) (B0:Option Addr) (m0:Nat) (d0:Nat) (s1:Bool) (A1:Option Addr) (l1:Nat) (c1:Nat) (t1:Bool) (B1:Option Addr) (m1:Nat) (d1:Nat) (s2:Bool) (A2:Option Addr) (l2:Nat) (c2:Nat) (t2:Bool) (B2:Option Addr) (m2:Nat) (d2:Nat) (s3:Bool) (A3:Option Addr) (l3:Nat) (c3:Nat) (t3:Bool) (B3:Option Addr) (m3:Nat) (d3:Nat) (d e:Int) (w:World) :
 Calls Tryz.prog 118 #[.agg #[.bool s0, .slice A0 l0 c0, .bool t0, .slice B0 m0 d0, .bool s1, .slice A1 l1 c1, .bool t1, .slice B1 m1 d1, .int .i64 d], .agg #[.bool s2, .slice A2 l2 c2, .bool t2, .slice B2 m2 d2, .bool s3, .slice A3 l3 c3, .bool t3, .slice B3 m3 d3, .int .i64 e]] w (RetV w (.int .i64 (Sd.fld d e))):=by
 refine Zan (Φ:=fun w=>True) Tryz.func118 rfl (by kernel_rfl) (fun w' hf=>trivial) ?_
 refine Zac (Zab (xr 3 [(2, .p 2 0),(3, .p 3 0),(4, .v (.int .i64 0))] [bV9 3 38 s2 A2 l2 c2 t2 B2 m2 d2 s3 A3 l3 c3 t3 B3 m3 d3 e,bV9 2 38 s0 A0 l0 c0 t0 B0 m0 d0 s1 A1 l1 c1 t1 B1 m1 d1 d] ?_))
 refine xe (Zaa (Zac (ZaK (Zac (Zab (xr 4 [(2, .p 2 0),(3, .p 3 0),(4, .v (.int .i64 0)),(9, .v (.bool ((d:Int) == 1)))] [bV9 3 38 s2 A2 l2 c2 t2 B2 m2 d2 s3 A3 l3 c3 t3 B3 m3 d3 e,bV9 2 38 s0 A0 l0 c0 t0 B0 m0 d0 s1 A1 l1 c1 t1 B1 m1 d1 d] ?_))))))
 rcases ZeC (((d:Int) == 1)) with hb10 | hb10
 ·rw [hb10]
  refine xr 7 [(2, .p 2 0),(3, .p 3 0),(4, .v (.int .i64 0)),(5, .v (.bool true))] [bV9 3 38 s2 A2 l2 c2 t2 B2 m2 d2 s3 A3 l3 c3 t3 B3 m3 d3 e,bV9 2 38 s0 A0 l0 c0 t0 B0 m0 d0 s1 A1 l1 c1 t1 B1 m1 d1 d] ?_
  refine xe (Zaa (xa (Zac (Zab (xr 3 [(4, .v (.int .i64 e))] [] ?_)))))
  refine xe (Zaa (Zah (ZaM (Zaj ?_))))
  refine Zae (v:=.int .i64 e) (by kernel_rfl) (fun w' R Q=>?_)
  exact ⟨by rw [fld1 hb10],R⟩
 ·rw [hb10]
  refine xr 7 [(2, .p 2 0),(3, .p 3 0),(4, .v (.int .i64 0)),(5, .v (.bool ((d:Int) == e)))] [bV9 3 38 s2 A2 l2 c2 t2 B2 m2 d2 s3 A3 l3 c3 t3 B3 m3 d3 e,bV9 2 38 s0 A0 l0 c0 t0 B0 m0 d0 s1 A1 l1 c1 t1 B1 m1 d1 d] ?_
  refine xe (Zaa ?_)
  refine Zbb (((d:Int) == e)) (by kernel_rfl) (fun hb11=>?_) (fun hb11=>?_)
  ·refine Zac (Zab (xr 3 [(4, .v (.int .i64 e))] [] ?_))
   refine xe (Zaa (Zah (ZaM (Zaj ?_))))
   refine Zae (v:=.int .i64 e) (by kernel_rfl) (fun w' R Q=>?_)
   exact ⟨by rw [fld2 hb10 hb11],R⟩
  ·refine Zac (Zab (xr 4 [(2, .p 2 0),(4, .v (.int .i64 0)),(18, .v (.bool ((e:Int) == 1)))] [bV9 2 38 s0 A0 l0 c0 t0 B0 m0 d0 s1 A1 l1 c1 t1 B1 m1 d1 d] ?_))
   refine xe (Zaa ?_)
   refine Zbb (((e:Int) == 1)) (by kernel_rfl) (fun hb12=>?_) (fun hb12=>?_)
   ·refine Zac (Zab (xr 3 [(4, .v (.int .i64 d))] [] ?_))
    refine xe (Zaa (Zah (ZaM (Zaj ?_))))
    refine Zae (v:=.int .i64 d) (by kernel_rfl) (fun w' R Q=>?_)
    exact ⟨by rw [fld3 hb10 hb11 hb12],R⟩
   ·refine ZaA (ZcB (Zaa (Zac (Zab (xr 1 [(4, .v (.int .i64 0))] [] ?_)))))
    refine xe (Zaa (Zah ?_))
    refine Zae (v:=.int .i64 0) (by kernel_rfl) (fun w' R Q=>?_)
    exact ⟨by rw [fld4 hb10 hb11 hb12],R⟩
theorem Zl1 (vx:Value) (x:Sd) (w:World) (hhx:ZaT w vx x)  :
 Calls Tryz.prog 121 #[vx] w (RetV w (.bool (decide (x.a.num=0) && decide (x.b.num=0)))):=by
 obtain ⟨X0,X1,rfl,hx1,hx2⟩:=hhx.shq
 refine Zan (Φ:=fun w=>(Zai w (Zak X0) (x.a)∧Zai w (Zak X1) (x.b))) Tryz.func121 rfl (by kernel_rfl) (fun w' hf=>⟨hx1.ext hf,hx2.ext hf⟩) ?_
 refine Zac (Zab (xr 2 [(1, .p 1 0),(2, .v (.bool false))] [bW 1 38 X0 X1 x.d] ?_))
 refine xe (Zaa (Zac (Zab (xr 2 [(1, .p 1 0),(2, .v (.bool false)),eQ 4 X0] [bW 1 38 X0 X1 x.d] ?_))))
 by_cases hzxa:x.a.num=0
 ·refine xc 103 [vQ X0] 5 (fun _:Unit=>.int .i64 x.a.num.sign) _ (fun w R Q=>(Zbh _ x.a _ Q.1).mono (fun _ _ h=>Zaf h rfl)) (fun xx=>?_)
  refine xr 1 [(1, .p 1 0),(2, .v (.bool false)),(6, .v (.bool ((x.a.num.sign:Int) == 0)))] [bW 1 38 X0 X1 x.d] ?_
  rw [ZmC hzxa]
  refine xr 3 [(2, .v (.bool false)),(7, .v (.bool true)),eQ 9 X1] [] ?_
  by_cases hzxb:x.b.num=0
  ·refine xc 103 [vQ X1] 10 (fun _:Unit=>.int .i64 x.b.num.sign) _ (fun w R Q=>(Zbh _ x.b _ Q.1.2).mono (fun _ _ h=>Zaf h rfl)) (fun xx=>?_)
   refine xr 1 [(2, .v (.bool false)),(7, .v (.bool true)),(11, .v (.bool ((x.b.num.sign:Int) == 0)))] [] ?_
   rw [ZmC hzxb]
   refine xr 2 [(2, .v (.bool true))] [] ?_
   refine xe (Zaa (Zah ?_))
   refine Zae (v:=.bool true) (by kernel_rfl) (fun w' R Q=>?_)
   exact ⟨by simp [hzxa,hzxb],R⟩
  ·refine xc 103 [vQ X1] 10 (fun _:Unit=>.int .i64 x.b.num.sign) _ (fun w R Q=>(Zbh _ x.b _ Q.1.2).mono (fun _ _ h=>Zaf h rfl)) (fun xx=>?_)
   refine xr 1 [(2, .v (.bool false)),(7, .v (.bool true)),(11, .v (.bool ((x.b.num.sign:Int) == 0)))] [] ?_
   rw [ZmD hzxb]
   refine xr 2 [(2, .v (.bool false))] [] ?_
   refine xe (Zaa (Zah ?_))
   refine Zae (v:=.bool false) (by kernel_rfl) (fun w' R Q=>?_)
   exact ⟨by simp [hzxa,hzxb],R⟩
 ·refine xc 103 [vQ X0] 5 (fun _:Unit=>.int .i64 x.a.num.sign) _ (fun w R Q=>(Zbh _ x.a _ Q.1).mono (fun _ _ h=>Zaf h rfl)) (fun xx=>?_)
  refine xr 1 [(1, .p 1 0),(2, .v (.bool false)),(6, .v (.bool ((x.a.num.sign:Int) == 0)))] [bW 1 38 X0 X1 x.d] ?_
  rw [ZmD hzxa]
  refine xr 7 [(2, .v (.bool false))] [] ?_
  refine xe (Zaa (Zah ?_))
  refine Zae (v:=.bool false) (by kernel_rfl) (fun w' R Q=>?_)
  exact ⟨by simp [hzxa],R⟩
theorem Zl2 (vx:Value) (x:Sd) (w:World) (hhx:ZaT w vx x)  :
 Calls Tryz.prog 27 #[vx] w (ZfQ w x.conj):=by
 obtain ⟨X0,X1,rfl,hx1,hx2⟩:=hhx.shq
 refine Zan (Φ:=fun w=>(Zai w (Zak X0) (x.a)∧Zai w (Zak X1) (x.b))) Tryz.func27 rfl (by kernel_rfl) (fun w' hf=>⟨hx1.ext hf,hx2.ext hf⟩) ?_
 refine Zac (Zab (xr 2 [(1, .p 1 0),(2, .p 2 0)] [bW 2 38 nQ nQ 0,bW 1 38 X0 X1 x.d] ?_))
 refine xe (Zaa (Zac ?_))
 refine ZaE 9 (by kernel_rfl) (by kernel_rfl) Zal ?_
 refine xf 4 [(1, .p 1 0),(2, .p 2 0),eQ 4 X0,eQ 6 X1] [bW 2 38 nQ nQ 0,bW 1 38 X0 X1 x.d] ?_
 refine xd 109 [vQ X1] 7 Zak _ (fun w R Q=>(ZlL _ x.b _ Q.2).mono (fun _ _=>ZaJ)) (fun X10=>?_)
 refine xf 4 [(2, .p 2 0)] [bW 2 38 X0 X10 x.d,bW 2 38 nQ nQ 0,bW 1 38 X0 X1 x.d] ?_
 refine xz (xe (Zaa (Zah ?_)))
 refine Zae (v:=vW X0 X10 x.d) (by kernel_rfl) (fun w' R Q=>?_)
 exact ⟨_,rfl,(ZaT.of Q.1.1 Q.2),R⟩
theorem Zhl (vx:Value) (x:Sd) (w:World) (hhx:ZaT w vx x) {j:Nat} (za:Dq x.a j) (zb:Dq x.b j) (hj:j≤65536) :
 Calls Tryz.prog 26 #[vx] w (RetV w (.agg #[.string ⟨(Zad x.a).toArray⟩, .string ⟨(Zad x.b).toArray⟩, .int .i64 x.d])):=by
 obtain ⟨X0,X1,rfl,hx1,hx2⟩:=hhx.shq
 refine Zan (Φ:=fun w=>(Zai w (Zak X0) (x.a)∧Zai w (Zak X1) (x.b))) Tryz.func26 rfl (by kernel_rfl) (fun w' hf=>⟨hx1.ext hf,hx2.ext hf⟩) ?_
 refine Zac (Zab (xr 2 [(1, .p 1 0),(2, .p 2 0)] [bS3 2 23 ⟨#[]⟩ ⟨#[]⟩ 0,bW 1 38 X0 X1 x.d] ?_))
 refine xe (Zaa (Zac ?_))
 refine ZaE 10 (by kernel_rfl) (by kernel_rfl) Zal ?_
 refine xf 2 [(1, .p 1 0),(2, .p 2 0),eQ 4 X0] [bS3 2 23 ⟨#[]⟩ ⟨#[]⟩ 0,bW 1 38 X0 X1 x.d] ?_
 refine xd 28 [vQ X0] 5 (fun _:Unit=>.string ⟨(Zad x.a).toArray⟩) _ (fun w R Q=>(Zsn (k:=j) Q.1 za (by omega)).mono (fun _ _ h=>Zaf h rfl)) (fun xx=>?_)
 refine xf 2 [(1, .p 1 0),(2, .p 2 0),(5, .v (.string ⟨(Zad x.a).toArray⟩)),eQ 7 X1] [bS3 2 23 ⟨#[]⟩ ⟨#[]⟩ 0,bW 1 38 X0 X1 x.d] ?_
 refine xd 28 [vQ X1] 8 (fun _:Unit=>.string ⟨(Zad x.b).toArray⟩) _ (fun w R Q=>(Zsn (k:=j) Q.1.2 zb (by omega)).mono (fun _ _ h=>Zaf h rfl)) (fun xx=>?_)
 refine xf 4 [(2, .p 2 0)] [bS3 2 23 ⟨(Zad x.a).toArray⟩ ⟨(Zad x.b).toArray⟩ x.d,bS3 2 23 ⟨#[]⟩ ⟨#[]⟩ 0,bW 1 38 X0 X1 x.d] ?_
 refine xz (xe (Zaa (Zah ?_)))
 refine Zae (v:=.agg #[.string ⟨(Zad x.a).toArray⟩, .string ⟨(Zad x.b).toArray⟩, .int .i64 x.d]) (by kernel_rfl) (fun w' R Q=>?_)
 exact ⟨rfl,R⟩
theorem Zhm (vp vq:Value) (p:Rat) (q:Rat) (d:Int) (w:World) (hhp:Zai w vp p) (hhq:Zai w vq q) (hp:Zbu p) (hq:Zbu q) :
 Calls Tryz.prog 75 #[vp,vq, .int .i64 d] w (ZfQ w (Sd.build p q d)):=by
 obtain ⟨X8,rfl⟩:=hhp.shq
 obtain ⟨X9,rfl⟩:=hhq.shq
 refine Zan (Φ:=fun w=>(Zai w (Zak X8) (p)∧Zai w (Zak X9) (q))) Tryz.func75 rfl (by kernel_rfl) (fun w' hf=>⟨hhp.ext hf,hhq.ext hf⟩) ?_
 refine Zac (Zab (xr 3 [(2, .v (.int .i64 d)),(3, .p 3 0),(4, .p 4 0),(6, .p 6 0)] [bW 6 38 nQ nQ 0,bQ 4 36 X9,bQ 3 36 X8] ?_))
 refine xe (Zaa (Zac (Zac (Zab (xr 2 [(2, .v (.int .i64 d)),(3, .p 3 0),(4, .p 4 0),(6, .p 6 0),(8, .v (.bool ((d:Int) == 1)))] [bW 6 38 nQ nQ 0,bQ 4 36 X9,bQ 3 36 X8] ?_)))))
 refine xe (Zaa ?_)
 refine Zbb (((d:Int) == 1)) (by kernel_rfl) (fun hb10=>?_) (fun hb10=>?_)
 ·refine Zac (Zab (xr 2 [(2, .v (.int .i64 d)),(3, .p 3 0),(4, .p 4 0),(6, .p 6 0),eQ 9 X8,eQ 10 X9] [bW 6 38 nQ nQ 0,bQ 4 36 X9,bQ 3 36 X8] ?_))
  refine xc 176 [vQ X8,vQ X9] 11 Zak _ (fun w R Q=>(Zeg _ _ p q _ Q.1 Q.2 hp hq).mono (fun _ _=>ZaJ)) (fun X11=>?_)
  refine xr 0 [(2, .v (.int .i64 d)),(3, .p 3 0),(4, .p 4 0),(6, .p 6 0),eQ 11 X11] [bW 6 38 nQ nQ 0,bQ 4 36 X9,bQ 3 36 X8] ?_
  refine xc 74 [vQ X11] 12 (shSd 1) _ (fun w R Q=>(ZnL _ (p + q) _ Q.2).mono (fun _ _=>Zcn)) (fun xx=>?_)
  obtain ⟨X12,X13⟩:=xx
  refine xr 1 [(2, .v (.int .i64 d)),(3, .p 3 0),(4, .p 4 0),(6, .p 6 0)] [bW 6 38 X12 X13 1,bQ 4 36 X9,bQ 3 36 X8] ?_
  refine xe (Zaa (Zah (Zaj ?_)))
  refine Zae (v:=vW X12 X13 1) (by kernel_rfl) (fun w' R Q=>?_)
  exact ⟨_,rfl,by rw [Ztc _ _ hb10]; exact (ZaT.of Q.2.1 Q.2.2),R⟩
 ·refine ZaA (Zaa (Zac (Zac (Zab (xr 1 [(2, .v (.int .i64 d)),(3, .p 3 0),(4, .p 4 0),(6, .p 6 0),eQ 13 X9] [bW 6 38 nQ nQ 0,bQ 4 36 X9,bQ 3 36 X8] ?_)))))
  by_cases hzq:q.num=0
  ·refine xc 103 [vQ X9] 14 (fun _:Unit=>.int .i64 q.num.sign) _ (fun w R Q=>(Zbh _ q _ Q.2).mono (fun _ _ h=>Zaf h rfl)) (fun xx=>?_)
   refine xr 1 [(2, .v (.int .i64 d)),(3, .p 3 0),(4, .p 4 0),(6, .p 6 0),(15, .v (.bool ((q.num.sign:Int) == 0)))] [bW 6 38 nQ nQ 0,bQ 4 36 X9,bQ 3 36 X8] ?_
   rw [ZmC hzq]
   refine xr 0 [(2, .v (.int .i64 d)),(3, .p 3 0),(4, .p 4 0),(6, .p 6 0),(15, .v (.bool true))] [bW 6 38 nQ nQ 0,bQ 4 36 X9,bQ 3 36 X8] ?_
   refine xe (Zaa (xa (Zac (Zab (xr 1 [(2, .v (.int .i64 d)),(3, .p 3 0),(4, .p 4 0),(6, .p 6 0),eQ 16 X8] [bW 6 38 nQ nQ 0,bQ 4 36 X9,bQ 3 36 X8] ?_)))))
   refine xc 74 [vQ X8] 17 (shSd 1) _ (fun w R Q=>(ZnL _ p _ Q.1.1).mono (fun _ _=>Zcn)) (fun xx=>?_)
   obtain ⟨X14,X15⟩:=xx
   refine xr 1 [(2, .v (.int .i64 d)),(3, .p 3 0),(4, .p 4 0),(6, .p 6 0)] [bW 6 38 X14 X15 1,bQ 4 36 X9,bQ 3 36 X8] ?_
   refine xe (Zaa (Zah (Zaj ?_)))
   refine Zae (v:=vW X14 X15 1) (by kernel_rfl) (fun w' R Q=>?_)
   exact ⟨_,rfl,by rw [Zr9 _ hb10 hzq]; exact (ZaT.of Q.2.1 Q.2.2),R⟩
  ·refine xc 103 [vQ X9] 14 (fun _:Unit=>.int .i64 q.num.sign) _ (fun w R Q=>(Zbh _ q _ Q.2).mono (fun _ _ h=>Zaf h rfl)) (fun xx=>?_)
   refine xr 1 [(2, .v (.int .i64 d)),(3, .p 3 0),(4, .p 4 0),(6, .p 6 0),(15, .v (.bool ((q.num.sign:Int) == 0)))] [bW 6 38 nQ nQ 0,bQ 4 36 X9,bQ 3 36 X8] ?_
   rw [ZmD hzq]
   refine xr 0 [(2, .v (.int .i64 d)),(3, .p 3 0),(4, .p 4 0),(6, .p 6 0),(15, .v (.bool false))] [bW 6 38 nQ nQ 0,bQ 4 36 X9,bQ 3 36 X8] ?_
   refine xe (Zaa (xb (ZaA (Zaa (Zac (Zab (xr 5 [(6, .p 6 0)] [bW 6 38 X8 X9 d] ?_)))))))
   refine xe (Zaa (Zah ?_))
   refine Zae (v:=vW X8 X9 d) (by kernel_rfl) (fun w' R Q=>?_)
   exact ⟨_,rfl,by rw [ZtR _ hb10 hzq]; exact (ZaT.of Q.1.1 Q.1.2),R⟩
theorem Zra (vx vc vy:Value) (x y:Sd) (c:Rat) (w:World) (hhx:ZaT w vx x) (hhy:ZaT w vy y) (hhc:Zai w vc c) {jx jy:Nat} (zx:Sz x jx) (zy:Sz y jy) (zc:Dq c 1) (_hB:Blg x.d y.d) (hj:jx + jy≤40000) :
 Calls Tryz.prog 76 #[vx,vc,vy] w (ZfQ w (x.rplus c y)):=by
 obtain ⟨X0,X1,rfl,hx1,hx2⟩:=hhx.shq
 obtain ⟨X2,X3,rfl,hy1,hy2⟩:=hhy.shq
 obtain ⟨X8,rfl⟩:=hhc.shq
 refine Zan (Φ:=fun w=>((((Zai w (Zak X0) (x.a)∧Zai w (Zak X1) (x.b))∧Zai w (Zak X8) (c))∧Zai w (Zak X2) (y.a))∧Zai w (Zak X3) (y.b))) Tryz.func76 rfl (by kernel_rfl) (fun w' hf=>⟨⟨⟨⟨hx1.ext hf,hx2.ext hf⟩,hhc.ext hf⟩,hy1.ext hf⟩,hy2.ext hf⟩) ?_
 refine Zac (Zab (xr 4 [(3, .p 3 0),(4, .p 4 0),(5, .p 5 0),(6, .p 6 0)] [bW 6 38 nQ nQ 0,bW 5 38 X2 X3 y.d,bQ 4 36 X8,bW 3 38 X0 X1 x.d] ?_))
 refine xe (Zaa (Zac ?_))
 refine Zg3 19 [0,1,0,0,8,28,63,0,128,0,0,1024,3711,8191,0,0,65535,131071,262143] (by kernel_rfl) (by kernel_rfl) Zal ?_
 refine xf 5 [(3, .p 3 0),(4, .p 4 0),(5, .p 5 0),(6, .p 6 0),eQ 8 X0,eQ 9 X8,eQ 11 X2] [bW 6 38 nQ nQ 0,bW 5 38 X2 X3 y.d,bQ 4 36 X8,bW 3 38 X0 X1 x.d] ?_
 refine xd 101 [vQ X8,vQ X2] 12 Zak _ (fun w R Q=>(Zb2 _ _ c y.a _ Q.1.1.2 Q.1.2 (zc.rfit (by omega)) (zy.a.rfit (by omega))).mono (fun _ _=>ZaJ)) (fun X10=>?_)
 refine xf 0 [(3, .p 3 0),(4, .p 4 0),(5, .p 5 0),(6, .p 6 0),eQ 8 X0,eQ 12 X10] [bW 6 38 nQ nQ 0,bW 5 38 X2 X3 y.d,bQ 4 36 X8,bW 3 38 X0 X1 x.d] ?_
 refine xd 176 [vQ X0,vQ X10] 13 Zak _ (fun w R Q=>(Zeg _ _ x.a (c * y.a) _ Q.1.1.1.1.1 Q.2 (zx.a.rfit (by omega)) ((zc.mul zy.a).rfit (by omega))).mono (fun _ _=>ZaJ)) (fun X11=>?_)
 refine xf 5 [(3, .p 3 0),(5, .p 5 0),(6, .p 6 0),eQ 13 X11,eQ 15 X1,eQ 16 X8,eQ 18 X3] [bW 6 38 nQ nQ 0,bW 5 38 X2 X3 y.d,bQ 4 36 X8,bW 3 38 X0 X1 x.d] ?_
 refine xd 101 [vQ X8,vQ X3] 19 Zak _ (fun w R Q=>(Zb2 _ _ c y.b _ Q.1.1.1.1.2 Q.1.1.2 (zc.rfit (by omega)) (zy.b.rfit (by omega))).mono (fun _ _=>ZaJ)) (fun X12=>?_)
 refine xf 0 [(3, .p 3 0),(5, .p 5 0),(6, .p 6 0),eQ 13 X11,eQ 15 X1,eQ 19 X12] [bW 6 38 nQ nQ 0,bW 5 38 X2 X3 y.d,bQ 4 36 X8,bW 3 38 X0 X1 x.d] ?_
 refine xd 176 [vQ X1,vQ X12] 20 Zak _ (fun w R Q=>(Zeg _ _ x.b (c * y.b) _ Q.1.1.1.1.1.1.2 Q.2 (zx.b.rfit (by omega)) ((zc.mul zy.b).rfit (by omega))).mono (fun _ _=>ZaJ)) (fun X13=>?_)
 refine xf 2 [(6, .p 6 0),eQ 13 X11,eQ 20 X13,eW 21 X0 X1 x.d,eW 22 X2 X3 y.d] [bW 6 38 nQ nQ 0,bW 5 38 X2 X3 y.d,bQ 4 36 X8,bW 3 38 X0 X1 x.d] ?_
 refine xd 118 [vW X0 X1 x.d,vW X2 X3 y.d] 23 (fun _:Unit=>.int .i64 (Sd.fld x.d y.d)) _ (fun w R Q=>(ZcQ _ _ _ _ _ _ _ _ _ _ _ _ _ _ _ _ _ _ _ _ _ _ _ _ _ _ _ _ _ _ _ _ _ _ _).mono (fun _ _ h=>Zaf h rfl)) (fun xx=>?_)
 refine xf 0 [(6, .p 6 0),eQ 13 X11,eQ 20 X13,(23, .v (.int .i64 (Sd.fld x.d y.d)))] [bW 6 38 nQ nQ 0,bW 5 38 X2 X3 y.d,bQ 4 36 X8,bW 3 38 X0 X1 x.d] ?_
 refine xd 75 [vQ X11,vQ X13, .int .i64 (Sd.fld x.d y.d)] 24 (shSd ((Sd.build (x.a + (c * y.a)) (x.b + (c * y.b)) (Sd.fld x.d y.d)).d)) _ (fun w R Q=>(Zhm _ _ (x.a + (c * y.a)) (x.b + (c * y.b)) (Sd.fld x.d y.d) _ Q.1.1.1.2 Q.1.2 ((zx.a.add (zc.mul zy.a)).rfit (by omega)) ((zx.b.add (zc.mul zy.b)).rfit (by omega))).mono (fun _ _=>Zcn)) (fun xx=>?_)
 obtain ⟨⟨s14,A14,l14,c14,t14,B14,m14,d14⟩,⟨s15,A15,l15,c15,t15,B15,m15,d15⟩⟩:=xx
 refine xf 1 [(6, .p 6 0)] [(6,38,[.v (.bool s14), .v (.slice A14 l14 c14), .v (.bool t14), .v (.slice B14 m14 d14), .v (.bool s15), .v (.slice A15 l15 c15), .v (.bool t15), .v (.slice B15 m15 d15), .v (.int .i64 ((Sd.build (x.a + (c * y.a)) (x.b + (c * y.b)) (Sd.fld x.d y.d)).d))]),bW 6 38 nQ nQ 0,bW 5 38 X2 X3 y.d,bQ 4 36 X8,bW 3 38 X0 X1 x.d] ?_
 refine xz (xe (Zaa (Zah ?_)))
 refine Zae (v:=.agg #[.bool s14, .slice A14 l14 c14, .bool t14, .slice B14 m14 d14, .bool s15, .slice A15 l15 c15, .bool t15, .slice B15 m15 d15, .int .i64 ((Sd.build (x.a + (c * y.a)) (x.b + (c * y.b)) (Sd.fld x.d y.d)).d)]) (by kernel_rfl) (fun w' R Q=>?_)
 exact ⟨_,rfl,(ZaT.of Q.2.1 Q.2.2),R⟩
theorem Zhn (vx vy:Value) (x:Sd) (y:Sd) (w:World) (hhx:ZaT w vx x) (hhy:ZaT w vy y) {jx:Nat} (zx:Sz x jx) {jy:Nat} (zy:Sz y jy) (hB:Blg x.d y.d) (hj:jx + jy≤40000) :
 Calls Tryz.prog 78 #[vx,vy] w (ZfQ w (x.rtimes y)):=by
 obtain ⟨X0,X1,rfl,hx1,hx2⟩:=hhx.shq
 obtain ⟨X2,X3,rfl,hy1,hy2⟩:=hhy.shq
 have hfl:=zx.fl zy hB
 refine Zan (Φ:=fun w=>(((Zai w (Zak X0) (x.a)∧Zai w (Zak X1) (x.b))∧Zai w (Zak X2) (y.a))∧Zai w (Zak X3) (y.b))) Tryz.func78 rfl (by kernel_rfl) (fun w' hf=>⟨⟨⟨hx1.ext hf,hx2.ext hf⟩,hy1.ext hf⟩,hy2.ext hf⟩) ?_
 refine Zac (Zab (xr 3 [(2, .p 2 0),(3, .p 3 0),(4, .p 4 0)] [bW 4 38 nQ nQ 0,bW 3 38 X2 X3 y.d,bW 2 38 X0 X1 x.d] ?_))
 refine xe (Zaa (Zac (Zab (xr 2 [(2, .p 2 0),(3, .p 3 0),(4, .p 4 0),eW 7 X0 X1 x.d,eW 8 X2 X3 y.d] [bW 4 38 nQ nQ 0,bW 3 38 X2 X3 y.d,bW 2 38 X0 X1 x.d] ?_))))
 refine xc 118 [vW X0 X1 x.d,vW X2 X3 y.d] 9 (fun _:Unit=>.int .i64 (Sd.fld x.d y.d)) _ (fun w R Q=>(ZcQ _ _ _ _ _ _ _ _ _ _ _ _ _ _ _ _ _ _ _ _ _ _ _ _ _ _ _ _ _ _ _ _ _ _ _).mono (fun _ _ h=>Zaf h rfl)) (fun xx=>?_)
 refine xr 1 [(2, .p 2 0),(3, .p 3 0),(4, .p 4 0),(5, .v (.int .i64 (Sd.fld x.d y.d)))] [bW 4 38 nQ nQ 0,bW 3 38 X2 X3 y.d,bW 2 38 X0 X1 x.d] ?_
 refine xe (Zaa (Zac ?_))
 refine ZaE 16 (by kernel_rfl) (by kernel_rfl) Zal ?_
 refine xf 4 [(2, .p 2 0),(3, .p 3 0),(4, .p 4 0),(5, .v (.int .i64 (Sd.fld x.d y.d))),eQ 11 X0,eQ 13 X2] [bW 4 38 nQ nQ 0,bW 3 38 X2 X3 y.d,bW 2 38 X0 X1 x.d] ?_
 refine xd 101 [vQ X0,vQ X2] 14 Zak _ (fun w R Q=>(Zb2 _ _ x.a y.a _ Q.1.1.1.1 Q.1.1.2 (zx.a.rfit (by omega)) (zy.a.rfit (by omega))).mono (fun _ _=>ZaJ)) (fun X10=>?_)
 refine xf 1 [(2, .p 2 0),(3, .p 3 0),(4, .p 4 0),(5, .v (.int .i64 (Sd.fld x.d y.d))),eQ 14 X10,(15, .v (.int .i64 (Sd.fld x.d y.d)))] [bW 4 38 nQ nQ 0,bW 3 38 X2 X3 y.d,bW 2 38 X0 X1 x.d] ?_
 refine xd 77 [.int .i64 (Sd.fld x.d y.d)] 16 Zak _ (fun w R Q=>(ZnK (Sd.fld x.d y.d) _ (by omega) (by omega)).mono (fun _ _=>ZaJ)) (fun X11=>?_)
 refine xf 4 [(2, .p 2 0),(3, .p 3 0),(4, .p 4 0),(5, .v (.int .i64 (Sd.fld x.d y.d))),eQ 14 X10,eQ 16 X11,eQ 18 X1,eQ 20 X3] [bW 4 38 nQ nQ 0,bW 3 38 X2 X3 y.d,bW 2 38 X0 X1 x.d] ?_
 refine xd 101 [vQ X1,vQ X3] 21 Zak _ (fun w R Q=>(Zb2 _ _ x.b y.b _ Q.1.1.1.1.1.2 Q.1.1.1.2 (zx.b.rfit (by omega)) (zy.b.rfit (by omega))).mono (fun _ _=>ZaJ)) (fun X12=>?_)
 refine xf 0 [(2, .p 2 0),(3, .p 3 0),(4, .p 4 0),(5, .v (.int .i64 (Sd.fld x.d y.d))),eQ 14 X10,eQ 16 X11,eQ 21 X12] [bW 4 38 nQ nQ 0,bW 3 38 X2 X3 y.d,bW 2 38 X0 X1 x.d] ?_
 refine xd 101 [vQ X11,vQ X12] 22 Zak _ (fun w R Q=>(Zb2 _ _ (((Sd.fld x.d y.d:Int):Rat)) (x.b * y.b) _ Q.1.2 Q.2 ((Dq.fl zx zy hB).rfit (by omega)) ((zx.b.mul zy.b).rfit (by omega))).mono (fun _ _=>ZaJ)) (fun X13=>?_)
 refine xf 0 [(2, .p 2 0),(3, .p 3 0),(4, .p 4 0),(5, .v (.int .i64 (Sd.fld x.d y.d))),eQ 14 X10,eQ 22 X13] [bW 4 38 nQ nQ 0,bW 3 38 X2 X3 y.d,bW 2 38 X0 X1 x.d] ?_
 refine xd 176 [vQ X10,vQ X13] 23 Zak _ (fun w R Q=>(Zeg _ _ (x.a * y.a) ((((Sd.fld x.d y.d:Int):Rat)) * (x.b * y.b)) _ Q.1.1.1.2 Q.2 ((zx.a.mul zy.a).rfit (by omega)) (((Dq.fl zx zy hB).mul (zx.b.mul zy.b)).rfit (by omega))).mono (fun _ _=>ZaJ)) (fun X14=>?_)
 refine xf 2 [(2, .p 2 0),(3, .p 3 0),(4, .p 4 0),(5, .v (.int .i64 (Sd.fld x.d y.d))),(6, .p 6 0)] [bQ 6 36 X14,bR4 6 36 false none 0 0 false none 0 0,bW 4 38 nQ nQ 0,bW 3 38 X2 X3 y.d,bW 2 38 X0 X1 x.d] ?_
 refine xz (xe (Zaa (Zac ?_)))
 refine ZaE 15 (by kernel_rfl) (by kernel_rfl) Zal ?_
 refine xf 5 [(2, .p 2 0),(3, .p 3 0),(4, .p 4 0),(5, .v (.int .i64 (Sd.fld x.d y.d))),eQ 24 X14,eQ 26 X0,eQ 28 X3] [bQ 6 36 X14,bR4 6 36 false none 0 0 false none 0 0,bW 4 38 nQ nQ 0,bW 3 38 X2 X3 y.d,bW 2 38 X0 X1 x.d] ?_
 refine xd 101 [vQ X0,vQ X3] 29 Zak _ (fun w R Q=>(Zb2 _ _ x.a y.b _ Q.1.1.1.1.1.1.1.1.1 Q.1.1.1.1.1.1.2 (zx.a.rfit (by omega)) (zy.b.rfit (by omega))).mono (fun _ _=>ZaJ)) (fun X15=>?_)
 refine xf 4 [(4, .p 4 0),(5, .v (.int .i64 (Sd.fld x.d y.d))),eQ 24 X14,eQ 29 X15,eQ 31 X1,eQ 33 X2] [bQ 6 36 X14,bR4 6 36 false none 0 0 false none 0 0,bW 4 38 nQ nQ 0,bW 3 38 X2 X3 y.d,bW 2 38 X0 X1 x.d] ?_
 refine xd 101 [vQ X1,vQ X2] 34 Zak _ (fun w R Q=>(Zb2 _ _ x.b y.a _ Q.1.1.1.1.1.1.1.1.1.2 Q.1.1.1.1.1.1.1.1.2 (zx.b.rfit (by omega)) (zy.a.rfit (by omega))).mono (fun _ _=>ZaJ)) (fun X16=>?_)
 refine xf 0 [(4, .p 4 0),(5, .v (.int .i64 (Sd.fld x.d y.d))),eQ 24 X14,eQ 29 X15,eQ 34 X16] [bQ 6 36 X14,bR4 6 36 false none 0 0 false none 0 0,bW 4 38 nQ nQ 0,bW 3 38 X2 X3 y.d,bW 2 38 X0 X1 x.d] ?_
 refine xd 176 [vQ X15,vQ X16] 35 Zak _ (fun w R Q=>(Zeg _ _ (x.a * y.b) (x.b * y.a) _ Q.1.2 Q.2 ((zx.a.mul zy.b).rfit (by omega)) ((zx.b.mul zy.a).rfit (by omega))).mono (fun _ _=>ZaJ)) (fun X17=>?_)
 refine xf 1 [(4, .p 4 0),eQ 24 X14,eQ 35 X17,(36, .v (.int .i64 (Sd.fld x.d y.d)))] [bQ 6 36 X14,bR4 6 36 false none 0 0 false none 0 0,bW 4 38 nQ nQ 0,bW 3 38 X2 X3 y.d,bW 2 38 X0 X1 x.d] ?_
 refine xd 75 [vQ X14,vQ X17, .int .i64 (Sd.fld x.d y.d)] 37 (shSd ((Sd.build ((x.a * y.a) + ((((Sd.fld x.d y.d:Int):Rat)) * (x.b * y.b))) ((x.a * y.b) + (x.b * y.a)) (Sd.fld x.d y.d)).d)) _ (fun w R Q=>(Zhm _ _ ((x.a * y.a) + ((((Sd.fld x.d y.d:Int):Rat)) * (x.b * y.b))) ((x.a * y.b) + (x.b * y.a)) (Sd.fld x.d y.d) _ Q.1.1.1.2 Q.2 (((zx.a.mul zy.a).add ((Dq.fl zx zy hB).mul (zx.b.mul zy.b))).rfit (by omega)) (((zx.a.mul zy.b).add (zx.b.mul zy.a)).rfit (by omega))).mono (fun _ _=>Zcn)) (fun xx=>?_)
 obtain ⟨⟨s18,A18,l18,c18,t18,B18,m18,d18⟩,⟨s19,A19,l19,c19,t19,B19,m19,d19⟩⟩:=xx
 refine xf 1 [(4, .p 4 0)] [(4,38,[.v (.bool s18), .v (.slice A18 l18 c18), .v (.bool t18), .v (.slice B18 m18 d18), .v (.bool s19), .v (.slice A19 l19 c19), .v (.bool t19), .v (.slice B19 m19 d19), .v (.int .i64 ((Sd.build ((x.a * y.a) + ((((Sd.fld x.d y.d:Int):Rat)) * (x.b * y.b))) ((x.a * y.b) + (x.b * y.a)) (Sd.fld x.d y.d)).d))]),bQ 6 36 X14,bR4 6 36 false none 0 0 false none 0 0,bW 4 38 nQ nQ 0,bW 3 38 X2 X3 y.d,bW 2 38 X0 X1 x.d] ?_
 refine xz (xe (Zaa (Zah ?_)))
 refine Zae (v:=.agg #[.bool s18, .slice A18 l18 c18, .bool t18, .slice B18 m18 d18, .bool s19, .slice A19 l19 c19, .bool t19, .slice B19 m19 d19, .int .i64 ((Sd.build ((x.a * y.a) + ((((Sd.fld x.d y.d:Int):Rat)) * (x.b * y.b))) ((x.a * y.b) + (x.b * y.a)) (Sd.fld x.d y.d)).d)]) (by kernel_rfl) (fun w' R Q=>?_)
 exact ⟨_,rfl,(ZaT.of Q.2.1 Q.2.2),R⟩
theorem Zrb (vx:Value) (x:Sd) (w:World) (hhx:ZaT w vx x) {jx:Nat} (zx:Sz x jx) (hj:jx≤20000) :
 Calls Tryz.prog 29 #[vx] w (ZbF w x.rnorm):=by
 obtain ⟨X0,X1,rfl,hx1,hx2⟩:=hhx.shq
 refine Zan (Φ:=fun w=>(Zai w (Zak X0) (x.a)∧Zai w (Zak X1) (x.b))) Tryz.func29 rfl (by kernel_rfl) (fun w' hf=>⟨hx1.ext hf,hx2.ext hf⟩) ?_
 refine Zac (Zab (xr 2 [(1, .p 1 0),(2, .p 2 0)] [bR4 2 36 false none 0 0 false none 0 0,bW 1 38 X0 X1 x.d] ?_))
 refine xe (Zaa (Zac ?_))
 refine ZaE 6 (by kernel_rfl) (by kernel_rfl) Zal ?_
 refine xf 2 [(2, .p 2 0),eW 3 X0 X1 x.d,eW 4 X0 X1 x.d] [bR4 2 36 false none 0 0 false none 0 0,bW 1 38 X0 X1 x.d] ?_
 refine xd 27 [vW X0 X1 x.d] 5 (shSd x.conj.d) _ (fun w R Q=>(Zl2 _ x _ (ZaT.of Q.1 Q.2)).mono (fun _ _=>Zcn)) (fun xx=>?_)
 obtain ⟨X10,X11⟩:=xx
 refine xf 0 [(2, .p 2 0),eW 3 X0 X1 x.d,eW 5 X10 X11 x.conj.d] [bR4 2 36 false none 0 0 false none 0 0,bW 1 38 X0 X1 x.d] ?_
 refine xd 78 [vW X0 X1 x.d,vW X10 X11 x.conj.d] 6 (shSd ((x.rtimes x.conj).d)) _ (fun w R Q=>(Zhn _ _ x x.conj _ (ZaT.of Q.1.1 Q.1.2) (ZaT.of Q.2.1 Q.2.2) zx zx.conj (ZnI x) (by omega)).mono (fun _ _=>Zcn)) (fun xx=>?_)
 obtain ⟨X12,X13⟩:=xx
 refine xf 2 [(2, .p 2 0)] [bQ 2 36 X12,bR4 2 36 false none 0 0 false none 0 0,bW 1 38 X0 X1 x.d] ?_
 refine xz (xe (Zaa (Zah ?_)))
 refine Zae (v:=Zak X12) (by kernel_rfl) (fun w' R Q=>?_)
 exact ⟨_,rfl,Q.2.1,R⟩
theorem Zrc (vx vy:Value) (x:Sd) (y:Sd) (w:World) (hhx:ZaT w vx x) (hhy:ZaT w vy y) {jx:Nat} (zx:Sz x jx) {jy:Nat} (zy:Sz y jy) (hB:Blg x.d y.d) (hj:jx + 20 * jy≤20000) :
 Calls Tryz.prog 122 #[vx,vy] w (ZfQ w (x.rover y)):=by
 obtain ⟨X0,X1,rfl,hx1,hx2⟩:=hhx.shq
 obtain ⟨X2,X3,rfl,hy1,hy2⟩:=hhy.shq
 refine Zan (Φ:=fun w=>(((Zai w (Zak X0) (x.a)∧Zai w (Zak X1) (x.b))∧Zai w (Zak X2) (y.a))∧Zai w (Zak X3) (y.b))) Tryz.func122 rfl (by kernel_rfl) (fun w' hf=>⟨⟨⟨hx1.ext hf,hx2.ext hf⟩,hy1.ext hf⟩,hy2.ext hf⟩) ?_
 refine Zac (Zab (xr 3 [(2, .p 2 0),(3, .p 3 0),(4, .p 4 0)] [bW 4 38 nQ nQ 0,bW 3 38 X2 X3 y.d,bW 2 38 X0 X1 x.d] ?_))
 refine xe (Zaa (Zac ?_))
 refine ZaE 6 (by kernel_rfl) (by kernel_rfl) Zal ?_
 refine xd 77 [.int .i64 1] 7 Zak _ (fun w R Q=>(ZnK 1 _ (by omega) (by omega)).mono (fun _ _ h=>ZaJ (by rw [show (((1:Int)):Rat)=1 from rfl] at h; exact h))) (fun X10=>?_)
 refine xf 1 [(2, .p 2 0),(3, .p 3 0),(4, .p 4 0),eQ 7 X10,eW 8 X2 X3 y.d] [bW 4 38 nQ nQ 0,bW 3 38 X2 X3 y.d,bW 2 38 X0 X1 x.d] ?_
 refine xd 29 [vW X2 X3 y.d] 9 Zak _ (fun w R Q=>(Zrb _ y _ (ZaT.of Q.1.1.2 Q.1.2) zy (by omega)).mono (fun _ _=>ZaJ)) (fun X11=>?_)
 refine xf 0 [(2, .p 2 0),(3, .p 3 0),(4, .p 4 0),eQ 7 X10,eQ 9 X11] [bW 4 38 nQ nQ 0,bW 3 38 X2 X3 y.d,bW 2 38 X0 X1 x.d] ?_
 refine xd 203 [vQ X10,vQ X11] 10 Zak _ (fun w R Q=>(ZqJ _ _ 1 y.rnorm _ Q.1.2 Q.2 (Dq.rfit (k:=1) ZgI (by decide)) (zy.rnorm.rfit (by omega))).mono (fun _ _=>ZaJ)) (fun X12=>?_)
 refine xf 2 [(2, .p 2 0),(3, .p 3 0),(4, .p 4 0),(5, .p 5 0)] [bQ 5 36 X12,bR4 5 36 false none 0 0 false none 0 0,bW 4 38 nQ nQ 0,bW 3 38 X2 X3 y.d,bW 2 38 X0 X1 x.d] ?_
 refine xz (xe (Zaa (Zac (Zab (xr 1 [(2, .p 2 0),(4, .p 4 0),(5, .p 5 0),eW 11 X2 X3 y.d] [bQ 5 36 X12,bW 4 38 nQ nQ 0,bW 2 38 X0 X1 x.d] ?_)))))
 refine xc 27 [vW X2 X3 y.d] 12 (shSd y.conj.d) _ (fun w R Q=>(Zl2 _ y _ (ZaT.of Q.1.1.1.1.2 Q.1.1.1.2)).mono (fun _ _=>Zcn)) (fun xx=>?_)
 obtain ⟨X13,X14⟩:=xx
 refine xr 2 [(2, .p 2 0),(4, .p 4 0),(5, .p 5 0),(6, .p 6 0)] [bW 6 38 X13 X14 y.conj.d,bQ 5 36 X12,bW 4 38 nQ nQ 0,bW 2 38 X0 X1 x.d] ?_
 refine xe (Zaa (Zac ?_))
 refine ZaE 14 (by kernel_rfl) (by kernel_rfl) Zal ?_
 refine xf 4 [(4, .p 4 0),(5, .p 5 0),(6, .p 6 0),eW 13 X0 X1 x.d,eQ 15 X13,eQ 16 X12] [bW 6 38 X13 X14 y.conj.d,bQ 5 36 X12,bW 4 38 nQ nQ 0,bW 2 38 X0 X1 x.d] ?_
 refine xd 101 [vQ X13,vQ X12] 17 Zak _ (fun w R Q=>(Zb2 _ _ y.conj.a (1 / y.rnorm) _ Q.2.1 Q.1.2 (zy.conj.a.rfit (by omega)) ((Zei zy.rnorm (by omega)).rfit (by omega))).mono (fun _ _=>ZaJ)) (fun X15=>?_)
 refine xf 3 [(4, .p 4 0),(6, .p 6 0),eW 13 X0 X1 x.d,eQ 17 X15,eQ 19 X14,eQ 20 X12] [bW 6 38 X13 X14 y.conj.d,bQ 5 36 X12,bW 4 38 nQ nQ 0,bW 2 38 X0 X1 x.d] ?_
 refine xd 101 [vQ X14,vQ X12] 21 Zak _ (fun w R Q=>(Zb2 _ _ y.conj.b (1 / y.rnorm) _ Q.1.2.2 Q.1.1.2 (zy.conj.b.rfit (by omega)) ((Zei zy.rnorm (by omega)).rfit (by omega))).mono (fun _ _=>ZaJ)) (fun X16=>?_)
 refine xf 2 [(4, .p 4 0),eW 13 X0 X1 x.d,eQ 17 X15,eQ 21 X16,(23, .v (.int .i64 y.conj.d))] [bW 6 38 X13 X14 y.conj.d,bQ 5 36 X12,bW 4 38 nQ nQ 0,bW 2 38 X0 X1 x.d] ?_
 refine xd 75 [vQ X15,vQ X16, .int .i64 y.conj.d] 24 (shSd ((Sd.build (y.conj.a * (1 / y.rnorm)) (y.conj.b * (1 / y.rnorm)) y.conj.d).d)) _ (fun w R Q=>(Zhm _ _ (y.conj.a * (1 / y.rnorm)) (y.conj.b * (1 / y.rnorm)) y.conj.d _ Q.1.2 Q.2 ((zy.conj.a.mul (Zei zy.rnorm (by omega))).rfit (by omega)) ((zy.conj.b.mul (Zei zy.rnorm (by omega))).rfit (by omega))).mono (fun _ _=>Zcn)) (fun xx=>?_)
 obtain ⟨⟨s17,A17,l17,c17,t17,B17,m17,d17⟩,⟨s18,A18,l18,c18,t18,B18,m18,d18⟩⟩:=xx
 refine xf 0 [(4, .p 4 0),eW 13 X0 X1 x.d,(24, .v (.agg #[.bool s17, .slice A17 l17 c17, .bool t17, .slice B17 m17 d17, .bool s18, .slice A18 l18 c18, .bool t18, .slice B18 m18 d18, .int .i64 ((Sd.build (y.conj.a * (1 / y.rnorm)) (y.conj.b * (1 / y.rnorm)) y.conj.d).d)]))] [bW 6 38 X13 X14 y.conj.d,bQ 5 36 X12,bW 4 38 nQ nQ 0,bW 2 38 X0 X1 x.d] ?_
 refine xd 78 [vW X0 X1 x.d, .agg #[.bool s17, .slice A17 l17 c17, .bool t17, .slice B17 m17 d17, .bool s18, .slice A18 l18 c18, .bool t18, .slice B18 m18 d18, .int .i64 ((Sd.build (y.conj.a * (1 / y.rnorm)) (y.conj.b * (1 / y.rnorm)) y.conj.d).d)]] 25 (shSd ((x.rtimes (Sd.build (y.conj.a * (1 / y.rnorm)) (y.conj.b * (1 / y.rnorm)) y.conj.d)).d)) _ (fun w R Q=>(Zhn _ _ x (Sd.build (y.conj.a * (1 / y.rnorm)) (y.conj.b * (1 / y.rnorm)) y.conj.d) _ (ZaT.of Q.1.1.1.1.1.1.1.1.1.1 Q.1.1.1.1.1.1.1.1.1.2) (ZaT.of Q.2.1 Q.2.2) zx (Zhj (Dq.up (zy.conj.a.mul (Zei zy.rnorm (by omega))) (Nat.le_refl _)) (Dq.up (zy.conj.b.mul (Zei zy.rnorm (by omega))) (Nat.le_refl _)) zy.conj.lo zy.conj.hi) (Zl0 hB _ _) (by omega)).mono (fun _ _=>Zcn)) (fun xx=>?_)
 obtain ⟨⟨s19,A19,l19,c19,t19,B19,m19,d19⟩,⟨s20,A20,l20,c20,t20,B20,m20,d20⟩⟩:=xx
 refine xf 1 [(4, .p 4 0)] [(4,38,[.v (.bool s19), .v (.slice A19 l19 c19), .v (.bool t19), .v (.slice B19 m19 d19), .v (.bool s20), .v (.slice A20 l20 c20), .v (.bool t20), .v (.slice B20 m20 d20), .v (.int .i64 ((x.rtimes (Sd.build (y.conj.a * (1 / y.rnorm)) (y.conj.b * (1 / y.rnorm)) y.conj.d)).d))]),bW 6 38 X13 X14 y.conj.d,bQ 5 36 X12,bW 4 38 nQ nQ 0,bW 2 38 X0 X1 x.d] ?_
 refine xz (xe (Zaa (Zah ?_)))
 refine Zae (v:=.agg #[.bool s19, .slice A19 l19 c19, .bool t19, .slice B19 m19 d19, .bool s20, .slice A20 l20 c20, .bool t20, .slice B20 m20 d20, .int .i64 ((x.rtimes (Sd.build (y.conj.a * (1 / y.rnorm)) (y.conj.b * (1 / y.rnorm)) y.conj.d)).d)]) (by kernel_rfl) (fun w' R Q=>?_)
 exact ⟨_,rfl,(ZaT.of Q.2.1 Q.2.2),R⟩
theorem Zsa (vx:Value) (x:Sd) (w:World) (hhx:ZaT w vx x) {jx:Nat} (zx:Sz x jx) (hj:jx≤20000) :
 Calls Tryz.prog 30 #[vx] w (RetV w (.int .i64 x.rsgn)):=by
 obtain ⟨X0,X1,rfl,hx1,hx2⟩:=hhx.shq
 have hd1:=zx.lo
 have hd2:=zx.hi
 refine Zan (Φ:=fun w=>(Zai w (Zak X0) (x.a)∧Zai w (Zak X1) (x.b))) Tryz.func30 rfl (by kernel_rfl) (fun w' hf=>⟨hx1.ext hf,hx2.ext hf⟩) ?_
 refine Zac (Zab (xr 2 [(1, .p 1 0),(2, .v (.int .i64 0))] [bW 1 38 X0 X1 x.d] ?_))
 refine xe (Zaa (Zac ?_))
 refine ZaE 8 (by kernel_rfl) (by kernel_rfl) Zal ?_
 refine xf 2 [(1, .p 1 0),(2, .v (.int .i64 0)),eQ 6 X0] [bW 1 38 X0 X1 x.d] ?_
 refine xd 103 [vQ X0] 7 (fun _:Unit=>.int .i64 x.a.num.sign) _ (fun w R Q=>(Zbh _ x.a _ Q.1).mono (fun _ _ h=>Zaf h rfl)) (fun xx=>?_)
 refine xf 2 [(1, .p 1 0),(2, .v (.int .i64 0)),(7, .v (.int .i64 x.a.num.sign)),eQ 9 X1] [bW 1 38 X0 X1 x.d] ?_
 refine xd 103 [vQ X1] 10 (fun _:Unit=>.int .i64 x.b.num.sign) _ (fun w R Q=>(Zbh _ x.b _ Q.1.2).mono (fun _ _ h=>Zaf h rfl)) (fun xx=>?_)
 refine xf 2 [(1, .p 1 0),(2, .v (.int .i64 0)),(3, .v (.int .i64 x.a.num.sign)),(4, .v (.int .i64 x.b.num.sign))] [bW 1 38 X0 X1 x.d] ?_
 refine xz (xe (Zaa (Zac (Zac (Zab (xr 3 [(1, .p 1 0),(2, .v (.int .i64 0)),(3, .v (.int .i64 x.a.num.sign)),(4, .v (.int .i64 x.b.num.sign)),(13, .v (.bool ((x.a.num.sign:Int) == 0)))] [bW 1 38 X0 X1 x.d] ?_))))))
 rcases ZeC (((x.a.num.sign:Int) == 0)) with hb10 | hb10
 ·rw [hb10]
  refine xr 8 [(1, .p 1 0),(2, .v (.int .i64 0)),(3, .v (.int .i64 x.a.num.sign)),(4, .v (.int .i64 x.b.num.sign)),(21, .v (.bool true))] [bW 1 38 X0 X1 x.d] ?_
  refine xe (Zaa (xa (Zac (Zac (Zab (xr 2 [(1, .p 1 0),(2, .v (.int .i64 0)),(3, .v (.int .i64 x.a.num.sign)),(4, .v (.int .i64 x.b.num.sign)),(23, .v (.bool ((x.a.num.sign:Int) == 0)))] [bW 1 38 X0 X1 x.d] ?_))))))
  rw [hb10]
  refine xr 0 [(1, .p 1 0),(2, .v (.int .i64 0)),(3, .v (.int .i64 x.a.num.sign)),(4, .v (.int .i64 x.b.num.sign)),(23, .v (.bool true))] [bW 1 38 X0 X1 x.d] ?_
  refine xe (Zaa (xa (Zac (Zab (xr 2 [(1, .p 1 0),(2, .v (.int .i64 x.b.num.sign)),(3, .v (.int .i64 x.a.num.sign))] [bW 1 38 X0 X1 x.d] ?_)))))
  refine xe (Zaa (Zah (Zaj (Zaj ?_))))
  refine Zae (v:=.int .i64 x.b.num.sign) (by kernel_rfl) (fun w' R Q=>?_)
  exact ⟨by unfold Sd.rsgn; simp_all,R⟩
 ·rw [hb10]
  refine xr 4 [(1, .p 1 0),(2, .v (.int .i64 0)),(3, .v (.int .i64 x.a.num.sign)),(4, .v (.int .i64 x.b.num.sign)),(17, .v (.bool ((x.b.num.sign:Int) == 0)))] [bW 1 38 X0 X1 x.d] ?_
  rcases ZeC (((x.b.num.sign:Int) == 0)) with hb11 | hb11
  ·rw [hb11]
   refine xr 4 [(1, .p 1 0),(2, .v (.int .i64 0)),(3, .v (.int .i64 x.a.num.sign)),(4, .v (.int .i64 x.b.num.sign)),(21, .v (.bool true))] [bW 1 38 X0 X1 x.d] ?_
   refine xe (Zaa (xa (Zac (Zac (Zab (xr 2 [(1, .p 1 0),(2, .v (.int .i64 0)),(3, .v (.int .i64 x.a.num.sign)),(4, .v (.int .i64 x.b.num.sign)),(23, .v (.bool ((x.a.num.sign:Int) == 0)))] [bW 1 38 X0 X1 x.d] ?_))))))
   rw [hb10]
   refine xr 0 [(1, .p 1 0),(2, .v (.int .i64 0)),(3, .v (.int .i64 x.a.num.sign)),(4, .v (.int .i64 x.b.num.sign)),(23, .v (.bool false))] [bW 1 38 X0 X1 x.d] ?_
   refine xe (Zaa (xb (ZaA (Zaa (Zac (Zab (xr 2 [(1, .p 1 0),(2, .v (.int .i64 x.a.num.sign)),(3, .v (.int .i64 x.a.num.sign))] [bW 1 38 X0 X1 x.d] ?_)))))))
   refine xe (Zaa (Zah (Zaj ?_)))
   refine Zae (v:=.int .i64 x.a.num.sign) (by kernel_rfl) (fun w' R Q=>?_)
   exact ⟨by unfold Sd.rsgn; simp_all,R⟩
  ·rw [hb11]
   refine xr 4 [(1, .p 1 0),(2, .v (.int .i64 0)),(3, .v (.int .i64 x.a.num.sign)),(4, .v (.int .i64 x.b.num.sign)),(21, .v (.bool ((x.a.num.sign:Int) == x.b.num.sign)))] [bW 1 38 X0 X1 x.d] ?_
   refine xe (Zaa ?_)
   refine Zbb (((x.a.num.sign:Int) == x.b.num.sign)) (by kernel_rfl) (fun hb12=>?_) (fun hb12=>?_)
   ·refine Zac (Zac (Zab (xr 2 [(1, .p 1 0),(2, .v (.int .i64 0)),(3, .v (.int .i64 x.a.num.sign)),(4, .v (.int .i64 x.b.num.sign)),(23, .v (.bool ((x.a.num.sign:Int) == 0)))] [bW 1 38 X0 X1 x.d] ?_)))
    rw [hb10]
    refine xr 0 [(1, .p 1 0),(2, .v (.int .i64 0)),(3, .v (.int .i64 x.a.num.sign)),(4, .v (.int .i64 x.b.num.sign)),(23, .v (.bool false))] [bW 1 38 X0 X1 x.d] ?_
    refine xe (Zaa (xb (ZaA (Zaa (Zac (Zab (xr 2 [(1, .p 1 0),(2, .v (.int .i64 x.a.num.sign)),(3, .v (.int .i64 x.a.num.sign))] [bW 1 38 X0 X1 x.d] ?_)))))))
    refine xe (Zaa (Zah (Zaj ?_)))
    refine Zae (v:=.int .i64 x.a.num.sign) (by kernel_rfl) (fun w' R Q=>?_)
    exact ⟨by unfold Sd.rsgn; simp_all,R⟩
   ·refine ZaA (Zaa (Zac ?_))
    refine Zg3 19 [0,0,2,0,8,30,0,64,254,0,512,0,2048,8190,16382,32766,65534,131071,262143] (by kernel_rfl) (by kernel_rfl) Zal ?_
    refine xf 5 [(1, .p 1 0),(2, .v (.int .i64 0)),(26, .v (.int .i64 x.a.num.sign)),eQ 28 X0,eQ 30 X0] [bW 1 38 X0 X1 x.d] ?_
    refine xd 101 [vQ X0,vQ X0] 31 Zak _ (fun w R Q=>(Zb2 _ _ x.a x.a _ Q.1.1.1 Q.1.1.1 (zx.a.rfit (by omega)) (zx.a.rfit (by omega))).mono (fun _ _=>ZaJ)) (fun X13=>?_)
    refine xf 2 [(1, .p 1 0),(2, .v (.int .i64 0)),(26, .v (.int .i64 x.a.num.sign)),eQ 31 X13,(33, .v (.int .i64 x.d))] [bW 1 38 X0 X1 x.d] ?_
    refine xd 77 [.int .i64 x.d] 34 Zak _ (fun w R Q=>(ZnK x.d _ (by omega) (by omega)).mono (fun _ _=>ZaJ)) (fun X14=>?_)
    refine xf 4 [(2, .v (.int .i64 0)),(26, .v (.int .i64 x.a.num.sign)),eQ 31 X13,eQ 34 X14,eQ 36 X1,eQ 38 X1] [bW 1 38 X0 X1 x.d] ?_
    refine xd 101 [vQ X1,vQ X1] 39 Zak _ (fun w R Q=>(Zb2 _ _ x.b x.b _ Q.1.1.1.1.2 Q.1.1.1.1.2 (zx.b.rfit (by omega)) (zx.b.rfit (by omega))).mono (fun _ _=>ZaJ)) (fun X15=>?_)
    refine xf 0 [(2, .v (.int .i64 0)),(26, .v (.int .i64 x.a.num.sign)),eQ 31 X13,eQ 34 X14,eQ 39 X15] [bW 1 38 X0 X1 x.d] ?_
    refine xd 101 [vQ X14,vQ X15] 40 Zak _ (fun w R Q=>(Zb2 _ _ (((x.d:Int):Rat)) (x.b * x.b) _ Q.1.2 Q.2 (zx.d.rfit (by omega)) ((zx.b.mul zx.b).rfit (by omega))).mono (fun _ _=>ZaJ)) (fun X16=>?_)
    refine xf 0 [(2, .v (.int .i64 0)),(26, .v (.int .i64 x.a.num.sign)),eQ 31 X13,eQ 40 X16] [bW 1 38 X0 X1 x.d] ?_
    refine xd 111 [vQ X13,vQ X16] 41 Zak _ (fun w R Q=>(ZqI _ _ (x.a * x.a) ((((x.d:Int):Rat)) * (x.b * x.b)) _ Q.1.1.1.2 Q.2 ((zx.a.mul zx.a).rfit (by omega)) ((zx.d.mul (zx.b.mul zx.b)).rfit (by omega))).mono (fun _ _=>ZaJ)) (fun X17=>?_)
    refine xf 0 [(2, .v (.int .i64 0)),(26, .v (.int .i64 x.a.num.sign)),eQ 41 X17] [bW 1 38 X0 X1 x.d] ?_
    refine xd 103 [vQ X17] 42 (fun _:Unit=>.int .i64 ((x.a * x.a) - ((((x.d:Int):Rat)) * (x.b * x.b))).num.sign) _ (fun w R Q=>(Zbh _ ((x.a * x.a) - ((((x.d:Int):Rat)) * (x.b * x.b))) _ Q.2).mono (fun _ _ h=>Zaf h rfl)) (fun xx=>?_)
    refine xf 1 [(2, .v (.int .i64 0)),(43, .v (.int .i64 (IntKind.i64.wrap (x.a.num.sign * ((x.a * x.a) - ((((x.d:Int):Rat)) * (x.b * x.b))).num.sign))))] [bW 1 38 X0 X1 x.d] ?_
    rw [Zq7 _ _]
    refine xf 1 [(2, .v (.int .i64 (x.a.num.sign * (x.a * x.a - ((x.d:Int):Rat) * (x.b * x.b)).num.sign)))] [bW 1 38 X0 X1 x.d] ?_
    refine xz (xe (Zaa (Zah ?_)))
    refine Zae (v:=.int .i64 (x.a.num.sign * (x.a * x.a - ((x.d:Int):Rat) * (x.b * x.b)).num.sign)) (by kernel_rfl) (fun w' R Q=>?_)
    exact ⟨by unfold Sd.rsgn; simp_all,R⟩
theorem Zrd (N:Nat) (w:World) (h0:0 < N) (hN:N≤1000000) :
 Calls Tryz.prog 104 #[.int .i64 ((N:Nat):Int)] w (RetV w (.bool (@decide (Free N) (Classical.propDecidable _)))):=by
 refine Zan (Φ:=fun w=>True) Tryz.func104 rfl (by kernel_rfl) (fun w' hf=>trivial) ?_
 refine Zac (Zab (xr 1 [(0, .v (.int .i64 ((N:Nat):Int))),(2, .v (.bool false))] [] ?_))
 refine xe (Zaa (Zac (Zac (Zab (xr 1 [(0, .v (.int .i64 ((N:Nat):Int))),(2, .v (.bool false)),(3, .v (.int .i64 2))] [] ?_)))))
 refine xe (Zaa (ZaK ?_))
 refine SXc.weak [(0, .v (.int .i64 ((N:Nat):Int))),(3, .v (.int .i64 ((2:Nat):Int)))] [] (Ψ:=fun w=>True) (ZbT.of (by kernel_rfl)) (by kernel_rfl) (fun w Q=>trivial) ?_
 refine ZgE (fun nn ss ff=>∃ (k:Nat),ss=ofL [(0, .v (.int .i64 ((N:Nat):Int))),(3, .v (.int .i64 ((k:Nat):Int)))] []∧ff=(fun w=>True)∧(ZcC k N)∧(2≤k)∧(k≤1001)∧nn=(2000 - k)) ((2000 - 2)) ⟨2,rfl,rfl,(ZcC.two N),(by omega),(by omega),rfl⟩ ?_
 rintro nn ss ff ⟨k,rfl,rfl,hF,hk2,hk3,rfl⟩
 refine Zac (Zac (Zab (xr 3 [(0, .v (.int .i64 ((N:Nat):Int))),(3, .v (.int .i64 ((k:Nat):Int))),(6, .v (.int .i64 (IntKind.i64.wrap (((k:Nat):Int) * ((k:Nat):Int)))))] [] ?_)))
 rw [nmul (Zkv (by omega))]
 refine xr 2 [(0, .v (.int .i64 ((N:Nat):Int))),(3, .v (.int .i64 ((k:Nat):Int))),(8, .v (.bool (decide (((k * k:Nat):Int)≤((N:Nat):Int)))))] [] ?_
 refine xe (Zaa ?_)
 refine Zbb ((decide (((k * k:Nat):Int)≤((N:Nat):Int)))) (by kernel_rfl) (fun hb10=>?_) (fun hb10=>?_)
 ·have hle:=le_t hb10
  have hk1:=k_le hle (by omega)
  refine ZaA (Zaa (Zac (ZaK (Zac (Zab (xr 4 [(0, .v (.int .i64 ((N:Nat):Int))),(3, .v (.int .i64 ((k:Nat):Int))),(11, .v (.int .i64 ((N:Nat):Int))),(14, .v (.int .i64 (IntKind.i64.wrap (((k:Nat):Int) * ((k:Nat):Int)))))] [] ?_))))))
  rw [nmul (Zkv (by omega))]
  refine xl 15 (.int .i64 ((N % (k * k):Nat):Int)) (fun w R Q=>Zo5 (t:=3) (k:=3) (x:=.tmp 11) (y:=.tmp 14) (a:=N) (b:=k * k) (by kernel_rfl) (by kernel_rfl) (by kernel_rfl) (by have:=kk4 hk2; omega)) ?_
  refine xr 1 [(0, .v (.int .i64 ((N:Nat):Int))),(3, .v (.int .i64 ((k:Nat):Int))),(16, .v (.bool ((((N % (k * k):Nat):Int):Int) == 0)))] [] ?_
  refine xe (Zaa ?_)
  refine Zbb (((((N % (k * k):Nat):Int):Int) == 0)) (by kernel_rfl) (fun hb11=>?_) (fun hb11=>?_)
  ·have hd:=md_t hb11
   refine Zac (Zab (xr 1 [(0, .v (.int .i64 ((N:Nat):Int))),(2, .v (.bool false)),(3, .v (.int .i64 ((k:Nat):Int)))] [] ?_))
   refine xe (Zaa (Zah (ZaM (Zaj (Zaj (ZaM (Zaj ?_)))))))
   refine Zae (v:=.bool false) (by kernel_rfl) (fun w' R Q=>?_)
   exact ⟨by rw [Zq9 (ZrZ hk2 hd)],R⟩
  ·have hd:=md_f hb11
   refine ZaA (ZcB (Zaa (Zab (xr 2 [(0, .v (.int .i64 ((N:Nat):Int))),(3, .v (.int .i64 ((k:Nat):Int))),(10, .v (.int .i64 (IntKind.i64.wrap (((k:Nat):Int) + 1))))] [] ?_))))
   rw [ninc (by omega)]
   refine xr 1 [(0, .v (.int .i64 ((N:Nat):Int))),(3, .v (.int .i64 ((k + 1:Nat):Int)))] [] ?_
   refine xe ?_
   refine SXq.weak [(0, .v (.int .i64 ((N:Nat):Int))),(3, .v (.int .i64 (((k + 1):Nat):Int)))] [] (Ψ:=fun w=>True) (ZbT.of (by kernel_rfl)) (by kernel_rfl) (fun w Q=>trivial) ?_
   exact ZfP ((2000 - (k + 1))) (by omega) ⟨(k + 1),rfl,rfl,(hF.next (fun h=>hd (Nat.mod_eq_zero_of_dvd h))),(by omega),(by omega),rfl⟩
 ·have hle:=le_f hb10
  refine Zfm (Zbq (Zbq (ZgB (Zaa (Zac (Zab (xr 1 [(2, .v (.bool true))] [] ?_)))))))
  refine xe (Zaa (Zah ?_))
  refine Zae (v:=.bool true) (by kernel_rfl) (fun w' R Q=>?_)
  exact ⟨by rw [Zq8 (hF.free h0 hle)],R⟩
theorem Zl3 (d:Int) (b:Bool) (w:World) (h0:0 < d) (h1:d≤1000000) (hb:@decide (Free d.toNat) (Classical.propDecidable _)=b):Calls Tryz.prog 104 #[.int .i64 d] w (RetV w (.bool b)):=by
 obtain ⟨n,rfl⟩:=Int.eq_ofNat_of_zero_le (show 0≤d by omega)
 subst hb
 exact Zrd n w (by omega) (by omega)
theorem Ztd {A B:List UInt8} {D:Int} {p q:Rat} (h1:ZaH A=some p) (h2:ZaH B=some q) (hD:(D == 1)=true) (hq:q.num=0):rdS A B D=some ⟨p,q,1⟩:=by
 rw [ZqV h1 h2 hD hq,Rat.num_eq_zero.1 hq]
theorem Za0 (a b:ByteArray) (d:Int) (w:World) (L:(bytes a).length≤570∧(bytes b).length≤570) :
 Calls Tryz.prog 22 #[.agg #[.string a, .string b, .int .i64 d]] w (Zkt w (rdS (bytes a) (bytes b) d)):=by
 refine Zan (Φ:=fun w=>True) Tryz.func22 rfl (by kernel_rfl) (fun w' hf=>trivial) ?_
 refine Zac (Zab (xr 3 [(1, .p 1 0),(2, .p 2 0),(3, .v (.bool false))] [bW 2 38 nQ nQ 0,bS3 1 23 a b d] ?_))
 refine xe (Zaa (Zac (Zab (xr 2 [(1, .p 1 0),(2, .p 2 0),(3, .v (.bool false)),(10, .v (.string a))] [bW 2 38 nQ nQ 0,bS3 1 23 a b d] ?_))))
 rcases ZcK (ZaH (bytes a)) with ha | ⟨qa,ha⟩
 ·refine xc 100 [.string a] 11 (fun x:ShQ=>.tuple #[Zak x, .bool false]) _ (fun w R Q=>(ZdH a _ (by rw [← Zav]; omega)).mono (fun _ _ h=>Zez h ha)) (fun X10=>?_)
  refine xr 6 [(1, .p 1 0),(2, .p 2 0),(3, .v (.bool false)),(4, .p 4 0),(5, .v (.bool false))] [bQ 4 36 X10,bW 2 38 nQ nQ 0,bS3 1 23 a b d] ?_
  refine xe (Zaa (Zac (Zab (xr 2 [(1, .p 1 0),(2, .p 2 0),(3, .v (.bool false)),(4, .p 4 0),(5, .v (.bool false)),(16, .v (.string b))] [bQ 4 36 X10,bW 2 38 nQ nQ 0,bS3 1 23 a b d] ?_))))
  refine xc 100 [.string b] 17 (fun u0:Bool × ShQ=>.tuple #[Zak u0.2, .bool u0.1]) _ (fun w R Q=>(ZdH b _ (by rw [← Zav]; omega)).mono (fun _ _=>Zk9)) (fun xx=>?_)
  obtain ⟨b12,X11⟩:=xx
  refine xr 6 [(1, .p 1 0),(2, .p 2 0),(3, .v (.bool false)),(4, .p 4 0),(5, .v (.bool false)),(6, .p 6 0),(7, .v (.bool b12))] [bQ 6 36 X11,bQ 4 36 X10,bW 2 38 nQ nQ 0,bS3 1 23 a b d] ?_
  refine xe (Zaa (Zac (Zac (Zab (xr 6 [(1, .p 1 0),(2, .p 2 0),(3, .v (.bool false)),(4, .p 4 0),(6, .p 6 0),(25, .v (.bool true))] [bQ 6 36 X11,bQ 4 36 X10,bW 2 38 nQ nQ 0,bS3 1 23 a b d] ?_)))))
  refine xe (Zaa (xa (Zac (Zab (xr 3 [(1, .p 1 0),(2, .p 2 0),(3, .v (.bool false)),(4, .p 4 0),(6, .p 6 0)] [bQ 6 36 X11,bQ 4 36 X10,bW 2 38 nQ nQ 0,bS3 1 23 a b d] ?_)))))
  refine xe (Zaa (Zah (Zaj ?_)))
  refine Zae (v:=.tuple #[.agg #[.bool false, .slice none 0 0, .bool false, .slice none 0 0, .bool false, .slice none 0 0, .bool false, .slice none 0 0, .int .i64 0], .bool false]) (by kernel_rfl) (fun w' R Q=>?_)
  exact ⟨_,_,_,rfl,(ZaT.of (Zai.nil _) (Zai.nil _)),R,Or.inr ⟨rfl,Zo2 ha⟩⟩
 ·refine xc 100 [.string a] 11 (fun x:ShQ=>.tuple #[Zak x, .bool true]) _ (fun w R Q=>(ZdH a _ (by rw [← Zav]; omega)).mono (fun _ _ h=>ZeA h ha)) (fun X13=>?_)
  refine xr 6 [(1, .p 1 0),(2, .p 2 0),(3, .v (.bool false)),(4, .p 4 0),(5, .v (.bool true))] [bQ 4 36 X13,bW 2 38 nQ nQ 0,bS3 1 23 a b d] ?_
  refine xe (Zaa (Zac (Zab (xr 2 [(1, .p 1 0),(2, .p 2 0),(3, .v (.bool false)),(4, .p 4 0),(5, .v (.bool true)),(16, .v (.string b))] [bQ 4 36 X13,bW 2 38 nQ nQ 0,bS3 1 23 a b d] ?_))))
  rcases ZcK (ZaH (bytes b)) with hb | ⟨qb,hb⟩
  ·refine xc 100 [.string b] 17 (fun x:ShQ=>.tuple #[Zak x, .bool false]) _ (fun w R Q=>(ZdH b _ (by rw [← Zav]; omega)).mono (fun _ _ h=>Zez h hb)) (fun X14=>?_)
   refine xr 6 [(1, .p 1 0),(2, .p 2 0),(3, .v (.bool false)),(4, .p 4 0),(5, .v (.bool true)),(6, .p 6 0),(7, .v (.bool false))] [bQ 6 36 X14,bQ 4 36 X13,bW 2 38 nQ nQ 0,bS3 1 23 a b d] ?_
   refine xe (Zaa (Zac (Zac (Zab (xr 6 [(1, .p 1 0),(2, .p 2 0),(3, .v (.bool false)),(4, .p 4 0),(6, .p 6 0),(25, .v (.bool true))] [bQ 6 36 X14,bQ 4 36 X13,bW 2 38 nQ nQ 0,bS3 1 23 a b d] ?_)))))
   refine xe (Zaa (xa (Zac (Zab (xr 3 [(1, .p 1 0),(2, .p 2 0),(3, .v (.bool false)),(4, .p 4 0),(6, .p 6 0)] [bQ 6 36 X14,bQ 4 36 X13,bW 2 38 nQ nQ 0,bS3 1 23 a b d] ?_)))))
   refine xe (Zaa (Zah (Zaj ?_)))
   refine Zae (v:=.tuple #[.agg #[.bool false, .slice none 0 0, .bool false, .slice none 0 0, .bool false, .slice none 0 0, .bool false, .slice none 0 0, .int .i64 0], .bool false]) (by kernel_rfl) (fun w' R Q=>?_)
   exact ⟨_,_,_,rfl,(ZaT.of (Zai.nil _) (Zai.nil _)),R,Or.inr ⟨rfl,Zo3 hb⟩⟩
  ·refine xc 100 [.string b] 17 (fun x:ShQ=>.tuple #[Zak x, .bool true]) _ (fun w R Q=>(ZdH b _ (by rw [← Zav]; omega)).mono (fun _ _ h=>ZeA h hb)) (fun X15=>?_)
   refine xr 6 [(1, .p 1 0),(2, .p 2 0),(3, .v (.bool false)),(4, .p 4 0),(5, .v (.bool true)),(6, .p 6 0),(7, .v (.bool true))] [bQ 6 36 X15,bQ 4 36 X13,bW 2 38 nQ nQ 0,bS3 1 23 a b d] ?_
   refine xe (Zaa (Zac (Zac (Zab (xr 6 [(1, .p 1 0),(2, .p 2 0),(3, .v (.bool false)),(4, .p 4 0),(6, .p 6 0),(25, .v (.bool false))] [bQ 6 36 X15,bQ 4 36 X13,bW 2 38 nQ nQ 0,bS3 1 23 a b d] ?_)))))
   refine xe (Zaa (xb (ZaA (Zaa (Zac (Zac (Zab (xr 3 [(1, .p 1 0),(2, .p 2 0),(3, .v (.bool false)),(4, .p 4 0),(6, .p 6 0),(29, .v (.bool ((d:Int) == 1)))] [bQ 6 36 X15,bQ 4 36 X13,bW 2 38 nQ nQ 0,bS3 1 23 a b d] ?_))))))))
   refine xe (Zaa ?_)
   refine Zbb (((d:Int) == 1)) (by kernel_rfl) (fun hb16=>?_) (fun hb16=>?_)
   ·refine Zac ?_
    refine ZaE 8 (by kernel_rfl) (by kernel_rfl) Zal ?_
    refine xf 4 [(1, .p 1 0),(2, .p 2 0),(3, .v (.bool false)),(4, .p 4 0),(6, .p 6 0),eW 32 X13 X15 1,eQ 33 X15] [bQ 6 36 X15,bQ 4 36 X13,bW 2 38 nQ nQ 0,bS3 1 23 a b d] ?_
    by_cases hzqb:qb.num=0
    ·refine xd 103 [vQ X15] 34 (fun _:Unit=>.int .i64 qb.num.sign) _ (fun w R Q=>(Zbh _ qb _ Q.2).mono (fun _ _ h=>Zaf h rfl)) (fun xx=>?_)
     refine xf 1 [(1, .p 1 0),(2, .p 2 0),(3, .v (.bool false)),(4, .p 4 0),(6, .p 6 0),eW 32 X13 X15 1,(35, .v (.bool ((qb.num.sign:Int) == 0)))] [bQ 6 36 X15,bQ 4 36 X13,bW 2 38 nQ nQ 0,bS3 1 23 a b d] ?_
     rw [ZmC hzqb]
     refine xf 2 [(1, .p 1 0),(2, .p 2 0),(3, .v (.bool true)),(4, .p 4 0),(6, .p 6 0)] [bW 2 38 X13 X15 1,bQ 6 36 X15,bQ 4 36 X13,bW 2 38 nQ nQ 0,bS3 1 23 a b d] ?_
     refine xz (xe (Zaa (Zah (Zaj ?_))))
     refine Zae (v:=.tuple #[vW X13 X15 1, .bool true]) (by kernel_rfl) (fun w' R Q=>?_)
     exact ⟨_,_,_,rfl,(ZaT.of Q.1.1.2 Q.1.2),R,Or.inl ⟨rfl,Ztd ha hb hb16 hzqb⟩⟩
    ·refine xd 103 [vQ X15] 34 (fun _:Unit=>.int .i64 qb.num.sign) _ (fun w R Q=>(Zbh _ qb _ Q.2).mono (fun _ _ h=>Zaf h rfl)) (fun xx=>?_)
     refine xf 1 [(1, .p 1 0),(2, .p 2 0),(3, .v (.bool false)),(4, .p 4 0),(6, .p 6 0),eW 32 X13 X15 1,(35, .v (.bool ((qb.num.sign:Int) == 0)))] [bQ 6 36 X15,bQ 4 36 X13,bW 2 38 nQ nQ 0,bS3 1 23 a b d] ?_
     rw [ZmD hzqb]
     refine xf 2 [(1, .p 1 0),(2, .p 2 0),(3, .v (.bool false)),(4, .p 4 0),(6, .p 6 0)] [bW 2 38 X13 X15 1,bQ 6 36 X15,bQ 4 36 X13,bW 2 38 nQ nQ 0,bS3 1 23 a b d] ?_
     refine xz (xe (Zaa (Zah (Zaj ?_))))
     refine Zae (v:=.tuple #[vW X13 X15 1, .bool false]) (by kernel_rfl) (fun w' R Q=>?_)
     exact ⟨_,_,_,rfl,(ZaT.of Q.1.1.2 Q.1.2),R,Or.inr ⟨rfl,ZlU ha hb hb16 hzqb⟩⟩
   ·refine ZaA (Zaa (Zac ?_))
    refine Zg3 25 [0,0,0,4,15,0,32,96,224,480,992,2016,4064,8160,16352,32736,65504,131040,262112,524256,1048544,2097120,4194272,2097151,16777215] (by kernel_rfl) (by kernel_rfl) Zal ?_
    refine xf 9 [(1, .p 1 0),(2, .p 2 0),(3, .v (.bool false)),(6, .p 6 0),eW 40 X13 X15 d,(44, .v (.bool (decide (d ≥ 2))))] [bQ 6 36 X15,bQ 4 36 X13,bW 2 38 nQ nQ 0,bS3 1 23 a b d] ?_
    rcases ZeC ((decide (d ≥ 2))) with hb17 | hb17
    ·rw [hb17]
     have thb17:=of_decide_eq_true hb17
     refine xf 5 [(1, .p 1 0),(2, .p 2 0),(3, .v (.bool false)),(6, .p 6 0),eW 40 X13 X15 d,(49, .v (.bool (decide (d≤1000000))))] [bQ 6 36 X15,bQ 4 36 X13,bW 2 38 nQ nQ 0,bS3 1 23 a b d] ?_
     rcases ZeC ((decide (d≤1000000))) with hb18 | hb18
     ·rw [hb18]
      have thb18:=of_decide_eq_true hb18
      refine xf 2 [(2, .p 2 0),(3, .v (.bool false)),(6, .p 6 0),eW 40 X13 X15 d,(49, .v (.bool true)),(51, .v (.int .i64 d))] [bQ 6 36 X15,bQ 4 36 X13,bW 2 38 nQ nQ 0,bS3 1 23 a b d] ?_
      by_cases hfr:Free (d).toNat
      ·refine xd 104 [.int .i64 d] 52 (fun _:Unit=>.bool true) _ (fun w R Q=>(Zl3 d true _ (by omega) (by omega) (Zq8 hfr)).mono (fun _ _ h=>Zaf h rfl)) (fun xx=>?_)
       refine xf 3 [(2, .p 2 0),(3, .v (.bool false)),eW 40 X13 X15 d,(54, .v (.bool true)),eQ 55 X15] [bQ 6 36 X15,bQ 4 36 X13,bW 2 38 nQ nQ 0,bS3 1 23 a b d] ?_
       by_cases hzqb:qb.num=0
       ·refine xd 103 [vQ X15] 56 (fun _:Unit=>.int .i64 qb.num.sign) _ (fun w R Q=>(Zbh _ qb _ Q.1.2).mono (fun _ _ h=>Zaf h rfl)) (fun xx=>?_)
        refine xf 1 [(2, .p 2 0),(3, .v (.bool false)),eW 40 X13 X15 d,(54, .v (.bool true)),(57, .v (.bool ((qb.num.sign:Int) != 0)))] [bQ 6 36 X15,bQ 4 36 X13,bW 2 38 nQ nQ 0,bS3 1 23 a b d] ?_
        rw [Zt7 hzqb]
        refine xf 3 [(2, .p 2 0),(3, .v (.bool false))] [bW 2 38 X13 X15 d,bQ 6 36 X15,bQ 4 36 X13,bW 2 38 nQ nQ 0,bS3 1 23 a b d] ?_
        refine xz (xe (Zaa (Zah ?_)))
        refine Zae (v:=.tuple #[vW X13 X15 d, .bool false]) (by kernel_rfl) (fun w' R Q=>?_)
        exact ⟨_,_,_,rfl,(ZaT.of Q.1.1.1.2 Q.1.1.2),R,Or.inr ⟨rfl,Ze7 ha hb hb16 (Or.inr (Or.inr (Or.inl hzqb)))⟩⟩
       ·refine xd 103 [vQ X15] 56 (fun _:Unit=>.int .i64 qb.num.sign) _ (fun w R Q=>(Zbh _ qb _ Q.1.2).mono (fun _ _ h=>Zaf h rfl)) (fun xx=>?_)
        refine xf 1 [(2, .p 2 0),(3, .v (.bool false)),eW 40 X13 X15 d,(54, .v (.bool true)),(57, .v (.bool ((qb.num.sign:Int) != 0)))] [bQ 6 36 X15,bQ 4 36 X13,bW 2 38 nQ nQ 0,bS3 1 23 a b d] ?_
        rw [Zt8 hzqb]
        refine xf 3 [(2, .p 2 0),(3, .v (.bool true))] [bW 2 38 X13 X15 d,bQ 6 36 X15,bQ 4 36 X13,bW 2 38 nQ nQ 0,bS3 1 23 a b d] ?_
        refine xz (xe (Zaa (Zah ?_)))
        refine Zae (v:=.tuple #[vW X13 X15 d, .bool true]) (by kernel_rfl) (fun w' R Q=>?_)
        exact ⟨_,_,_,rfl,(ZaT.of Q.1.1.1.2 Q.1.1.2),R,Or.inl ⟨rfl,Zsr ha hb (by omega) (by omega) hzqb hfr⟩⟩
      ·refine xd 104 [.int .i64 d] 52 (fun _:Unit=>.bool false) _ (fun w R Q=>(Zl3 d false _ (by omega) (by omega) (Zq9 hfr)).mono (fun _ _ h=>Zaf h rfl)) (fun xx=>?_)
       refine xf 8 [(2, .p 2 0),(3, .v (.bool false))] [bW 2 38 X13 X15 d,bQ 6 36 X15,bQ 4 36 X13,bW 2 38 nQ nQ 0,bS3 1 23 a b d] ?_
       refine xz (xe (Zaa (Zah ?_)))
       refine Zae (v:=.tuple #[vW X13 X15 d, .bool false]) (by kernel_rfl) (fun w' R Q=>?_)
       exact ⟨_,_,_,rfl,(ZaT.of Q.1.1.2 Q.1.2),R,Or.inr ⟨rfl,Ze7 ha hb hb16 (Or.inr (Or.inr (Or.inr hfr)))⟩⟩
     ·rw [hb18]
      have thb18:=of_decide_eq_false hb18
      refine xf 11 [(2, .p 2 0),(3, .v (.bool false))] [bW 2 38 X13 X15 d,bQ 6 36 X15,bQ 4 36 X13,bW 2 38 nQ nQ 0,bS3 1 23 a b d] ?_
      refine xz (xe (Zaa (Zah ?_)))
      refine Zae (v:=.tuple #[vW X13 X15 d, .bool false]) (by kernel_rfl) (fun w' R Q=>?_)
      exact ⟨_,_,_,rfl,(ZaT.of Q.1.2 Q.2),R,Or.inr ⟨rfl,Ze7 ha hb hb16 (by omega)⟩⟩
    ·rw [hb17]
     have thb17:=of_decide_eq_false hb17
     refine xf 16 [(2, .p 2 0),(3, .v (.bool false))] [bW 2 38 X13 X15 d,bQ 6 36 X15,bQ 4 36 X13,bW 2 38 nQ nQ 0,bS3 1 23 a b d] ?_
     refine xz (xe (Zaa (Zah ?_)))
     refine Zae (v:=.tuple #[vW X13 X15 d, .bool false]) (by kernel_rfl) (fun w' R Q=>?_)
     exact ⟨_,_,_,rfl,(ZaT.of Q.1.2 Q.2),R,Or.inr ⟨rfl,Ze7 ha hb hb16 (by omega)⟩⟩
theorem ZdR (a b a' b':ByteArray) (d d':Int) (w:World) (L:(bytes a).length≤570∧(bytes b).length≤570) (L':(bytes a').length≤570∧(bytes b').length≤570) (cc:ByteArray) (c:Rat) (_hc:valF (bytes cc)=c) (_hcs:cc.size≤65536) (_zc:Dq c 1) (hxy:rdS (bytes a) (bytes b) d=none∨rdS (bytes a') (bytes b') d'=none) :
 Calls Tryz.prog 34 #[.agg #[.string a, .string b, .int .i64 d], .string cc, .agg #[.string a', .string b', .int .i64 d']] w (RetV w (opV (rdS (bytes a) (bytes b) d) (rdS (bytes a') (bytes b') d') (fun x y=>okS (x.rplus c y)) zS)):=by
 refine Zan (Φ:=fun w=>True) Tryz.func34 rfl (by kernel_rfl) (fun w' hf=>trivial) ?_
 refine Zac (Zab (xr 4 [(1, .v (.string cc)),(3, .p 3 0),(5, .p 5 0),(6, .p 6 0),(7, .v (.int .i64 0))] [bS3 6 23 ⟨#[]⟩ ⟨#[]⟩ 0,bS3 5 23 a' b' d',bS3 3 23 a b d] ?_))
 refine xe (Zaa (Zac (Zab (xr 1 [(1, .v (.string cc)),(5, .p 5 0),(6, .p 6 0),(7, .v (.int .i64 0)),eS3 13 a b d] [bS3 6 23 ⟨#[]⟩ ⟨#[]⟩ 0,bS3 5 23 a' b' d'] ?_))))
 rcases ZcK (rdS (bytes a) (bytes b) d) with hx | ⟨x,hx⟩
 ·refine xc 22 [vS3 a b d] 14 (fun u0:Int × ShS=>.tuple #[shSd u0.1 u0.2, .bool false]) _ (fun w R Q=>(Za0 a b d _ L).mono (fun _ _ h=>ZcL h hx)) (fun xx=>?_)
  obtain ⟨d12d,X10,X11⟩:=xx
  refine xr 6 [(1, .v (.string cc)),(5, .p 5 0),(6, .p 6 0),(7, .v (.int .i64 0)),(8, .p 8 0),(9, .v (.bool false))] [bW 8 38 X10 X11 d12d,bS3 6 23 ⟨#[]⟩ ⟨#[]⟩ 0,bS3 5 23 a' b' d'] ?_
  refine xe (Zaa (Zac (Zab (xr 1 [(1, .v (.string cc)),(6, .p 6 0),(7, .v (.int .i64 0)),(8, .p 8 0),(9, .v (.bool false)),eS3 18 a' b' d'] [bW 8 38 X10 X11 d12d,bS3 6 23 ⟨#[]⟩ ⟨#[]⟩ 0] ?_))))
  refine xc 22 [vS3 a' b' d'] 19 (fun u0:Bool × Int × ShS=>.tuple #[shSd u0.2.1 u0.2.2, .bool u0.1]) _ (fun w R Q=>(Za0 a' b' d' _ L').mono (fun _ _=>ZfS)) (fun xx=>?_)
  obtain ⟨b15,d15d,X13,X14⟩:=xx
  refine xr 6 [(1, .v (.string cc)),(6, .p 6 0),(7, .v (.int .i64 0)),(8, .p 8 0),(9, .v (.bool false)),(10, .p 10 0),(11, .v (.bool b15))] [bW 10 38 X13 X14 d15d,bW 8 38 X10 X11 d12d,bS3 6 23 ⟨#[]⟩ ⟨#[]⟩ 0] ?_
  refine xe (Zaa (Zac (ZaK (Zac (Zab (xr 7 [(1, .v (.string cc)),(6, .p 6 0),(7, .v (.int .i64 0)),(8, .p 8 0),(10, .p 10 0),(22, .v (.bool true))] [bW 10 38 X13 X14 d15d,bW 8 38 X10 X11 d12d,bS3 6 23 ⟨#[]⟩ ⟨#[]⟩ 0] ?_))))))
  refine xe (Zaa (xa (Zac (Zab (xr 3 [(1, .v (.string cc)),(6, .p 6 0),(7, .v (.int .i64 1)),(8, .p 8 0),(10, .p 10 0)] [bW 10 38 X13 X14 d15d,bW 8 38 X10 X11 d12d,bS3 6 23 ⟨#[]⟩ ⟨#[]⟩ 0] ?_)))))
  refine xe (Zaa (Zah (ZaM (Zaj ?_))))
  refine Zae (v:=.tuple #[.agg #[.string ⟨#[]⟩, .string ⟨#[]⟩, .int .i64 0], .int .i64 1]) (by kernel_rfl) (fun w' R Q=>?_)
  exact ⟨by rw [ZaX hxy],R⟩
 ·refine xc 22 [vS3 a b d] 14 (fun u0:ShS=>.tuple #[shSd x.d u0, .bool true]) _ (fun w R Q=>(Za0 a b d _ L).mono (fun _ _ h=>Za3 h hx)) (fun xx=>?_)
  obtain ⟨X16,X17⟩:=xx
  refine xr 6 [(1, .v (.string cc)),(5, .p 5 0),(6, .p 6 0),(7, .v (.int .i64 0)),(8, .p 8 0),(9, .v (.bool true))] [bW 8 38 X16 X17 x.d,bS3 6 23 ⟨#[]⟩ ⟨#[]⟩ 0,bS3 5 23 a' b' d'] ?_
  refine xe (Zaa (Zac (Zab (xr 1 [(1, .v (.string cc)),(6, .p 6 0),(7, .v (.int .i64 0)),(8, .p 8 0),(9, .v (.bool true)),eS3 18 a' b' d'] [bW 8 38 X16 X17 x.d,bS3 6 23 ⟨#[]⟩ ⟨#[]⟩ 0] ?_))))
  have hy:=Zlb hxy hx
  refine xc 22 [vS3 a' b' d'] 19 (fun u0:Int × ShS=>.tuple #[shSd u0.1 u0.2, .bool false]) _ (fun w R Q=>(Za0 a' b' d' _ L').mono (fun _ _ h=>ZcL h hy)) (fun xx=>?_)
  obtain ⟨d20d,X18,X19⟩:=xx
  refine xr 6 [(1, .v (.string cc)),(6, .p 6 0),(7, .v (.int .i64 0)),(8, .p 8 0),(9, .v (.bool true)),(10, .p 10 0),(11, .v (.bool false))] [bW 10 38 X18 X19 d20d,bW 8 38 X16 X17 x.d,bS3 6 23 ⟨#[]⟩ ⟨#[]⟩ 0] ?_
  refine xe (Zaa (Zac (ZaK (Zac (Zab (xr 7 [(1, .v (.string cc)),(6, .p 6 0),(7, .v (.int .i64 0)),(8, .p 8 0),(10, .p 10 0),(22, .v (.bool true))] [bW 10 38 X18 X19 d20d,bW 8 38 X16 X17 x.d,bS3 6 23 ⟨#[]⟩ ⟨#[]⟩ 0] ?_))))))
  refine xe (Zaa (xa (Zac (Zab (xr 3 [(1, .v (.string cc)),(6, .p 6 0),(7, .v (.int .i64 1)),(8, .p 8 0),(10, .p 10 0)] [bW 10 38 X18 X19 d20d,bW 8 38 X16 X17 x.d,bS3 6 23 ⟨#[]⟩ ⟨#[]⟩ 0] ?_)))))
  refine xe (Zaa (Zah (ZaM (Zaj ?_))))
  refine Zae (v:=.tuple #[.agg #[.string ⟨#[]⟩, .string ⟨#[]⟩, .int .i64 0], .int .i64 1]) (by kernel_rfl) (fun w' R Q=>?_)
  exact ⟨by rw [ZaX hxy],R⟩
theorem Zih (a b a' b':ByteArray) (d d':Int) (w:World) (L:(bytes a).length≤570∧(bytes b).length≤570) (L':(bytes a').length≤570∧(bytes b').length≤570) (cc:ByteArray) (c:Rat) (_hc:valF (bytes cc)=c) (_hcs:cc.size≤65536) (_zc:Dq c 1) {x y:Sd} (hx:rdS (bytes a) (bytes b) d=some x) (hy:rdS (bytes a') (bytes b') d'=some y) (hB:¬ Blg x.d y.d) :
 Calls Tryz.prog 34 #[.agg #[.string a, .string b, .int .i64 d], .string cc, .agg #[.string a', .string b', .int .i64 d']] w (RetV w (opV (rdS (bytes a) (bytes b) d) (rdS (bytes a') (bytes b') d') (fun x y=>okS (x.rplus c y)) zS)):=by
 refine Zan (Φ:=fun w=>True) Tryz.func34 rfl (by kernel_rfl) (fun w' hf=>trivial) ?_
 refine Zac (Zab (xr 4 [(1, .v (.string cc)),(3, .p 3 0),(5, .p 5 0),(6, .p 6 0),(7, .v (.int .i64 0))] [bS3 6 23 ⟨#[]⟩ ⟨#[]⟩ 0,bS3 5 23 a' b' d',bS3 3 23 a b d] ?_))
 refine xe (Zaa (Zac (Zab (xr 1 [(1, .v (.string cc)),(5, .p 5 0),(6, .p 6 0),(7, .v (.int .i64 0)),eS3 13 a b d] [bS3 6 23 ⟨#[]⟩ ⟨#[]⟩ 0,bS3 5 23 a' b' d'] ?_))))
 refine xc 22 [vS3 a b d] 14 (fun u0:ShS=>.tuple #[shSd x.d u0, .bool true]) _ (fun w R Q=>(Za0 a b d _ L).mono (fun _ _ h=>Za3 h hx)) (fun xx=>?_)
 obtain ⟨X10,X11⟩:=xx
 refine xr 6 [(1, .v (.string cc)),(5, .p 5 0),(6, .p 6 0),(7, .v (.int .i64 0)),(8, .p 8 0),(9, .v (.bool true))] [bW 8 38 X10 X11 x.d,bS3 6 23 ⟨#[]⟩ ⟨#[]⟩ 0,bS3 5 23 a' b' d'] ?_
 refine xe (Zaa (Zac (Zab (xr 1 [(1, .v (.string cc)),(6, .p 6 0),(7, .v (.int .i64 0)),(8, .p 8 0),(9, .v (.bool true)),eS3 18 a' b' d'] [bW 8 38 X10 X11 x.d,bS3 6 23 ⟨#[]⟩ ⟨#[]⟩ 0] ?_))))
 refine xc 22 [vS3 a' b' d'] 19 (fun u0:ShS=>.tuple #[shSd y.d u0, .bool true]) _ (fun w R Q=>(Za0 a' b' d' _ L').mono (fun _ _ h=>Za3 h hy)) (fun xx=>?_)
 obtain ⟨X12,X13⟩:=xx
 refine xr 6 [(1, .v (.string cc)),(6, .p 6 0),(7, .v (.int .i64 0)),(8, .p 8 0),(9, .v (.bool true)),(10, .p 10 0),(11, .v (.bool true))] [bW 10 38 X12 X13 y.d,bW 8 38 X10 X11 x.d,bS3 6 23 ⟨#[]⟩ ⟨#[]⟩ 0] ?_
 refine xe (Zaa (Zac (ZaK (Zac (Zab (xr 7 [(1, .v (.string cc)),(6, .p 6 0),(7, .v (.int .i64 0)),(8, .p 8 0),(10, .p 10 0),(22, .v (.bool false))] [bW 10 38 X12 X13 y.d,bW 8 38 X10 X11 x.d,bS3 6 23 ⟨#[]⟩ ⟨#[]⟩ 0] ?_))))))
 refine xe (Zaa (xb (Zac (Zab (xr 2 [(1, .v (.string cc)),(6, .p 6 0),(7, .v (.int .i64 0)),(8, .p 8 0),(10, .p 10 0),eW 31 X10 X11 x.d,eW 32 X12 X13 y.d] [bW 10 38 X12 X13 y.d,bW 8 38 X10 X11 x.d,bS3 6 23 ⟨#[]⟩ ⟨#[]⟩ 0] ?_)))))
 refine xc 118 [vW X10 X11 x.d,vW X12 X13 y.d] 33 (fun _:Unit=>.int .i64 (Sd.fld x.d y.d)) _ (fun w R Q=>(ZcQ _ _ _ _ _ _ _ _ _ _ _ _ _ _ _ _ _ _ _ _ _ _ _ _ _ _ _ _ _ _ _ _ _ _ _).mono (fun _ _ h=>Zaf h rfl)) (fun xx=>?_)
 refine xr 1 [(1, .v (.string cc)),(6, .p 6 0),(7, .v (.int .i64 0)),(8, .p 8 0),(10, .p 10 0),(34, .v (.bool (((Sd.fld x.d y.d):Int) == 0)))] [bW 10 38 X12 X13 y.d,bW 8 38 X10 X11 x.d,bS3 6 23 ⟨#[]⟩ ⟨#[]⟩ 0] ?_
 rw [ZpQ hB]
 refine xr 1 [(1, .v (.string cc)),(6, .p 6 0),(7, .v (.int .i64 0)),(8, .p 8 0),(10, .p 10 0),(30, .v (.bool true))] [bW 10 38 X12 X13 y.d,bW 8 38 X10 X11 x.d,bS3 6 23 ⟨#[]⟩ ⟨#[]⟩ 0] ?_
 refine xe (Zaa (xa (Zac (Zab (xr 3 [(1, .v (.string cc)),(6, .p 6 0),(7, .v (.int .i64 9)),(8, .p 8 0),(10, .p 10 0)] [bW 10 38 X12 X13 y.d,bW 8 38 X10 X11 x.d,bS3 6 23 ⟨#[]⟩ ⟨#[]⟩ 0] ?_)))))
 refine xe (Zaa (Zah (ZaM (Zaj ?_))))
 refine Zae (v:=.tuple #[.agg #[.string ⟨#[]⟩, .string ⟨#[]⟩, .int .i64 0], .int .i64 9]) (by kernel_rfl) (fun w' R Q=>?_)
 exact ⟨by rw [ZbB hx hy hB],R⟩
theorem Zre (a b a' b':ByteArray) (d d':Int) (w:World) (L:(bytes a).length≤570∧(bytes b).length≤570) (L':(bytes a').length≤570∧(bytes b').length≤570) (cc:ByteArray) (c:Rat) (hc:valF (bytes cc)=c) (hcs:cc.size≤65536) (zc:Dq c 1) {x y:Sd} (hx:rdS (bytes a) (bytes b) d=some x) (hy:rdS (bytes a') (bytes b') d'=some y) (hB:Blg x.d y.d) {j k:Nat} (Zx:∀ x,rdS (bytes a) (bytes b) d=some x→Sz x j) (Zy:∀ x,rdS (bytes a') (bytes b') d'=some x→Sz x k) (hj:j + k≤20000) :
 Calls Tryz.prog 34 #[.agg #[.string a, .string b, .int .i64 d], .string cc, .agg #[.string a', .string b', .int .i64 d']] w (RetV w (opV (rdS (bytes a) (bytes b) d) (rdS (bytes a') (bytes b') d') (fun x y=>okS (x.rplus c y)) zS)):=by
 have zx:=Zx _ hx
 have zy:=Zy _ hy
 refine Zan (Φ:=fun w=>True) Tryz.func34 rfl (by kernel_rfl) (fun w' hf=>trivial) ?_
 refine Zac (Zab (xr 4 [(1, .v (.string cc)),(3, .p 3 0),(5, .p 5 0),(6, .p 6 0),(7, .v (.int .i64 0))] [bS3 6 23 ⟨#[]⟩ ⟨#[]⟩ 0,bS3 5 23 a' b' d',bS3 3 23 a b d] ?_))
 refine xe (Zaa (Zac (Zab (xr 1 [(1, .v (.string cc)),(5, .p 5 0),(6, .p 6 0),(7, .v (.int .i64 0)),eS3 13 a b d] [bS3 6 23 ⟨#[]⟩ ⟨#[]⟩ 0,bS3 5 23 a' b' d'] ?_))))
 refine xc 22 [vS3 a b d] 14 (fun u0:ShS=>.tuple #[shSd x.d u0, .bool true]) _ (fun w R Q=>(Za0 a b d _ L).mono (fun _ _ h=>Za3 h hx)) (fun xx=>?_)
 obtain ⟨X10,X11⟩:=xx
 refine xr 6 [(1, .v (.string cc)),(5, .p 5 0),(6, .p 6 0),(7, .v (.int .i64 0)),(8, .p 8 0),(9, .v (.bool true))] [bW 8 38 X10 X11 x.d,bS3 6 23 ⟨#[]⟩ ⟨#[]⟩ 0,bS3 5 23 a' b' d'] ?_
 refine xe (Zaa (Zac (Zab (xr 1 [(1, .v (.string cc)),(6, .p 6 0),(7, .v (.int .i64 0)),(8, .p 8 0),(9, .v (.bool true)),eS3 18 a' b' d'] [bW 8 38 X10 X11 x.d,bS3 6 23 ⟨#[]⟩ ⟨#[]⟩ 0] ?_))))
 refine xc 22 [vS3 a' b' d'] 19 (fun u0:ShS=>.tuple #[shSd y.d u0, .bool true]) _ (fun w R Q=>(Za0 a' b' d' _ L').mono (fun _ _ h=>Za3 h hy)) (fun xx=>?_)
 obtain ⟨X12,X13⟩:=xx
 refine xr 6 [(1, .v (.string cc)),(6, .p 6 0),(7, .v (.int .i64 0)),(8, .p 8 0),(9, .v (.bool true)),(10, .p 10 0),(11, .v (.bool true))] [bW 10 38 X12 X13 y.d,bW 8 38 X10 X11 x.d,bS3 6 23 ⟨#[]⟩ ⟨#[]⟩ 0] ?_
 refine xe (Zaa (Zac (ZaK (Zac (Zab (xr 7 [(1, .v (.string cc)),(6, .p 6 0),(7, .v (.int .i64 0)),(8, .p 8 0),(10, .p 10 0),(22, .v (.bool false))] [bW 10 38 X12 X13 y.d,bW 8 38 X10 X11 x.d,bS3 6 23 ⟨#[]⟩ ⟨#[]⟩ 0] ?_))))))
 refine xe (Zaa (xb (Zac (Zab (xr 2 [(1, .v (.string cc)),(6, .p 6 0),(7, .v (.int .i64 0)),(8, .p 8 0),(10, .p 10 0),eW 31 X10 X11 x.d,eW 32 X12 X13 y.d] [bW 10 38 X12 X13 y.d,bW 8 38 X10 X11 x.d,bS3 6 23 ⟨#[]⟩ ⟨#[]⟩ 0] ?_)))))
 refine xc 118 [vW X10 X11 x.d,vW X12 X13 y.d] 33 (fun _:Unit=>.int .i64 (Sd.fld x.d y.d)) _ (fun w R Q=>(ZcQ _ _ _ _ _ _ _ _ _ _ _ _ _ _ _ _ _ _ _ _ _ _ _ _ _ _ _ _ _ _ _ _ _ _ _).mono (fun _ _ h=>Zaf h rfl)) (fun xx=>?_)
 refine xr 1 [(1, .v (.string cc)),(6, .p 6 0),(7, .v (.int .i64 0)),(8, .p 8 0),(10, .p 10 0),(34, .v (.bool (((Sd.fld x.d y.d):Int) == 0)))] [bW 10 38 X12 X13 y.d,bW 8 38 X10 X11 x.d,bS3 6 23 ⟨#[]⟩ ⟨#[]⟩ 0] ?_
 rw [ZnJ zx zy hB]
 refine xr 1 [(1, .v (.string cc)),(6, .p 6 0),(7, .v (.int .i64 0)),(8, .p 8 0),(10, .p 10 0),(30, .v (.bool false))] [bW 10 38 X12 X13 y.d,bW 8 38 X10 X11 x.d,bS3 6 23 ⟨#[]⟩ ⟨#[]⟩ 0] ?_
 refine xe (Zaa (xb (ZaA (ZcB (Zaa (Zac ?_))))))
 refine ZaE 8 (by kernel_rfl) (by kernel_rfl) Zal ?_
 refine xf 2 [(6, .p 6 0),(7, .v (.int .i64 0)),(10, .p 10 0),eW 36 X10 X11 x.d,(37, .v (.string cc))] [bW 10 38 X12 X13 y.d,bW 8 38 X10 X11 x.d,bS3 6 23 ⟨#[]⟩ ⟨#[]⟩ 0] ?_
 refine xd 63 [.string cc] 38 Zak _ (fun w R Q=>(Zr8 cc _ (by omega)).mono (fun _ _ h=>ZaJ (by rw [hc] at h; exact h))) (fun X14=>?_)
 refine xf 1 [(6, .p 6 0),(7, .v (.int .i64 0)),eW 36 X10 X11 x.d,eQ 38 X14,eW 39 X12 X13 y.d] [bW 10 38 X12 X13 y.d,bW 8 38 X10 X11 x.d,bS3 6 23 ⟨#[]⟩ ⟨#[]⟩ 0] ?_
 refine xd 76 [vW X10 X11 x.d,vQ X14,vW X12 X13 y.d] 40 (shSd ((x.rplus c y).d)) _ (fun w R Q=>(Zra _ _ _ x y c _ (ZaT.of Q.1.1.1.2.1 Q.1.1.1.2.2) (ZaT.of Q.1.1.2.1 Q.1.1.2.2) Q.2 zx zy zc hB (by omega)).mono (fun _ _=>Zcn)) (fun xx=>?_)
 obtain ⟨X15,X16⟩:=xx
 refine xf 0 [(6, .p 6 0),(7, .v (.int .i64 0)),(40, .v (vW X15 X16 ((x.rplus c y).d)))] [bW 10 38 X12 X13 y.d,bW 8 38 X10 X11 x.d,bS3 6 23 ⟨#[]⟩ ⟨#[]⟩ 0] ?_
 refine xd 26 [vW X15 X16 ((x.rplus c y).d)] 41 (fun _:Unit=>vS3 ⟨(Zad ((x.rplus c y).a)).toArray⟩ ⟨(Zad ((x.rplus c y).b)).toArray⟩ ((x.rplus c y).d)) _ (fun w R Q=>(Zhl _ (x.rplus c y) _ (ZaT.of Q.2.1 Q.2.2) (j:=(2 * (j + k) + 5)) (zx.rplus zy zc hB).a (zx.rplus zy zc hB).b (by omega)).mono (fun _ _ h=>Zaf h rfl)) (fun xx=>?_)
 refine xf 2 [(6, .p 6 0),(7, .v (.int .i64 0))] [bS3 6 23 ⟨(Zad ((x.rplus c y).a)).toArray⟩ ⟨(Zad ((x.rplus c y).b)).toArray⟩ ((x.rplus c y).d),bW 10 38 X12 X13 y.d,bW 8 38 X10 X11 x.d,bS3 6 23 ⟨#[]⟩ ⟨#[]⟩ 0] ?_
 refine xz (xe (Zaa (Zah ?_)))
 refine Zae (v:=.tuple #[.agg #[.string ⟨(Zad ((x.rplus c y).a)).toArray⟩, .string ⟨(Zad ((x.rplus c y).b)).toArray⟩, .int .i64 ((x.rplus c y).d)], .int .i64 0]) (by kernel_rfl) (fun w' R Q=>?_)
 exact ⟨by rw [Zbk hx hy hB],R⟩
theorem Zl4 (a b a' b':ByteArray) (d d':Int) (w:World) (L:(bytes a).length≤570∧(bytes b).length≤570) (L':(bytes a').length≤570∧(bytes b').length≤570) (hxy:rdS (bytes a) (bytes b) d=none∨rdS (bytes a') (bytes b') d'=none) :
 Calls Tryz.prog 36 #[.agg #[.string a, .string b, .int .i64 d], .agg #[.string a', .string b', .int .i64 d']] w (RetV w (opV (rdS (bytes a) (bytes b) d) (rdS (bytes a') (bytes b') d') (fun x y=>okS (x.rtimes y)) zS)):=by
 refine Zan (Φ:=fun w=>True) Tryz.func36 rfl (by kernel_rfl) (fun w' hf=>trivial) ?_
 refine Zac (Zab (xr 4 [(2, .p 2 0),(3, .p 3 0),(4, .p 4 0),(5, .v (.int .i64 0))] [bS3 4 23 ⟨#[]⟩ ⟨#[]⟩ 0,bS3 3 23 a' b' d',bS3 2 23 a b d] ?_))
 refine xe (Zaa (Zac (Zab (xr 1 [(3, .p 3 0),(4, .p 4 0),(5, .v (.int .i64 0)),eS3 11 a b d] [bS3 4 23 ⟨#[]⟩ ⟨#[]⟩ 0,bS3 3 23 a' b' d'] ?_))))
 rcases ZcK (rdS (bytes a) (bytes b) d) with hx | ⟨x,hx⟩
 ·refine xc 22 [vS3 a b d] 12 (fun u0:Int × ShS=>.tuple #[shSd u0.1 u0.2, .bool false]) _ (fun w R Q=>(Za0 a b d _ L).mono (fun _ _ h=>ZcL h hx)) (fun xx=>?_)
  obtain ⟨d12d,X10,X11⟩:=xx
  refine xr 6 [(3, .p 3 0),(4, .p 4 0),(5, .v (.int .i64 0)),(6, .p 6 0),(7, .v (.bool false))] [bW 6 38 X10 X11 d12d,bS3 4 23 ⟨#[]⟩ ⟨#[]⟩ 0,bS3 3 23 a' b' d'] ?_
  refine xe (Zaa (Zac (Zab (xr 1 [(4, .p 4 0),(5, .v (.int .i64 0)),(6, .p 6 0),(7, .v (.bool false)),eS3 16 a' b' d'] [bW 6 38 X10 X11 d12d,bS3 4 23 ⟨#[]⟩ ⟨#[]⟩ 0] ?_))))
  refine xc 22 [vS3 a' b' d'] 17 (fun u0:Bool × Int × ShS=>.tuple #[shSd u0.2.1 u0.2.2, .bool u0.1]) _ (fun w R Q=>(Za0 a' b' d' _ L').mono (fun _ _=>ZfS)) (fun xx=>?_)
  obtain ⟨b15,d15d,X13,X14⟩:=xx
  refine xr 6 [(4, .p 4 0),(5, .v (.int .i64 0)),(6, .p 6 0),(7, .v (.bool false)),(8, .p 8 0),(9, .v (.bool b15))] [bW 8 38 X13 X14 d15d,bW 6 38 X10 X11 d12d,bS3 4 23 ⟨#[]⟩ ⟨#[]⟩ 0] ?_
  refine xe (Zaa (Zac (ZaK (Zac (Zab (xr 7 [(4, .p 4 0),(5, .v (.int .i64 0)),(6, .p 6 0),(8, .p 8 0),(20, .v (.bool true))] [bW 8 38 X13 X14 d15d,bW 6 38 X10 X11 d12d,bS3 4 23 ⟨#[]⟩ ⟨#[]⟩ 0] ?_))))))
  refine xe (Zaa (xa (Zac (Zab (xr 3 [(4, .p 4 0),(5, .v (.int .i64 1)),(6, .p 6 0),(8, .p 8 0)] [bW 8 38 X13 X14 d15d,bW 6 38 X10 X11 d12d,bS3 4 23 ⟨#[]⟩ ⟨#[]⟩ 0] ?_)))))
  refine xe (Zaa (Zah (ZaM (Zaj ?_))))
  refine Zae (v:=.tuple #[.agg #[.string ⟨#[]⟩, .string ⟨#[]⟩, .int .i64 0], .int .i64 1]) (by kernel_rfl) (fun w' R Q=>?_)
  exact ⟨by rw [ZaX hxy],R⟩
 ·refine xc 22 [vS3 a b d] 12 (fun u0:ShS=>.tuple #[shSd x.d u0, .bool true]) _ (fun w R Q=>(Za0 a b d _ L).mono (fun _ _ h=>Za3 h hx)) (fun xx=>?_)
  obtain ⟨X16,X17⟩:=xx
  refine xr 6 [(3, .p 3 0),(4, .p 4 0),(5, .v (.int .i64 0)),(6, .p 6 0),(7, .v (.bool true))] [bW 6 38 X16 X17 x.d,bS3 4 23 ⟨#[]⟩ ⟨#[]⟩ 0,bS3 3 23 a' b' d'] ?_
  refine xe (Zaa (Zac (Zab (xr 1 [(4, .p 4 0),(5, .v (.int .i64 0)),(6, .p 6 0),(7, .v (.bool true)),eS3 16 a' b' d'] [bW 6 38 X16 X17 x.d,bS3 4 23 ⟨#[]⟩ ⟨#[]⟩ 0] ?_))))
  have hy:=Zlb hxy hx
  refine xc 22 [vS3 a' b' d'] 17 (fun u0:Int × ShS=>.tuple #[shSd u0.1 u0.2, .bool false]) _ (fun w R Q=>(Za0 a' b' d' _ L').mono (fun _ _ h=>ZcL h hy)) (fun xx=>?_)
  obtain ⟨d20d,X18,X19⟩:=xx
  refine xr 6 [(4, .p 4 0),(5, .v (.int .i64 0)),(6, .p 6 0),(7, .v (.bool true)),(8, .p 8 0),(9, .v (.bool false))] [bW 8 38 X18 X19 d20d,bW 6 38 X16 X17 x.d,bS3 4 23 ⟨#[]⟩ ⟨#[]⟩ 0] ?_
  refine xe (Zaa (Zac (ZaK (Zac (Zab (xr 7 [(4, .p 4 0),(5, .v (.int .i64 0)),(6, .p 6 0),(8, .p 8 0),(20, .v (.bool true))] [bW 8 38 X18 X19 d20d,bW 6 38 X16 X17 x.d,bS3 4 23 ⟨#[]⟩ ⟨#[]⟩ 0] ?_))))))
  refine xe (Zaa (xa (Zac (Zab (xr 3 [(4, .p 4 0),(5, .v (.int .i64 1)),(6, .p 6 0),(8, .p 8 0)] [bW 8 38 X18 X19 d20d,bW 6 38 X16 X17 x.d,bS3 4 23 ⟨#[]⟩ ⟨#[]⟩ 0] ?_)))))
  refine xe (Zaa (Zah (ZaM (Zaj ?_))))
  refine Zae (v:=.tuple #[.agg #[.string ⟨#[]⟩, .string ⟨#[]⟩, .int .i64 0], .int .i64 1]) (by kernel_rfl) (fun w' R Q=>?_)
  exact ⟨by rw [ZaX hxy],R⟩
theorem Zsb (a b a' b':ByteArray) (d d':Int) (w:World) (L:(bytes a).length≤570∧(bytes b).length≤570) (L':(bytes a').length≤570∧(bytes b').length≤570) {x y:Sd} (hx:rdS (bytes a) (bytes b) d=some x) (hy:rdS (bytes a') (bytes b') d'=some y) (hB:¬ Blg x.d y.d) :
 Calls Tryz.prog 36 #[.agg #[.string a, .string b, .int .i64 d], .agg #[.string a', .string b', .int .i64 d']] w (RetV w (opV (rdS (bytes a) (bytes b) d) (rdS (bytes a') (bytes b') d') (fun x y=>okS (x.rtimes y)) zS)):=by
 refine Zan (Φ:=fun w=>True) Tryz.func36 rfl (by kernel_rfl) (fun w' hf=>trivial) ?_
 refine Zac (Zab (xr 4 [(2, .p 2 0),(3, .p 3 0),(4, .p 4 0),(5, .v (.int .i64 0))] [bS3 4 23 ⟨#[]⟩ ⟨#[]⟩ 0,bS3 3 23 a' b' d',bS3 2 23 a b d] ?_))
 refine xe (Zaa (Zac (Zab (xr 1 [(3, .p 3 0),(4, .p 4 0),(5, .v (.int .i64 0)),eS3 11 a b d] [bS3 4 23 ⟨#[]⟩ ⟨#[]⟩ 0,bS3 3 23 a' b' d'] ?_))))
 refine xc 22 [vS3 a b d] 12 (fun u0:ShS=>.tuple #[shSd x.d u0, .bool true]) _ (fun w R Q=>(Za0 a b d _ L).mono (fun _ _ h=>Za3 h hx)) (fun xx=>?_)
 obtain ⟨X10,X11⟩:=xx
 refine xr 6 [(3, .p 3 0),(4, .p 4 0),(5, .v (.int .i64 0)),(6, .p 6 0),(7, .v (.bool true))] [bW 6 38 X10 X11 x.d,bS3 4 23 ⟨#[]⟩ ⟨#[]⟩ 0,bS3 3 23 a' b' d'] ?_
 refine xe (Zaa (Zac (Zab (xr 1 [(4, .p 4 0),(5, .v (.int .i64 0)),(6, .p 6 0),(7, .v (.bool true)),eS3 16 a' b' d'] [bW 6 38 X10 X11 x.d,bS3 4 23 ⟨#[]⟩ ⟨#[]⟩ 0] ?_))))
 refine xc 22 [vS3 a' b' d'] 17 (fun u0:ShS=>.tuple #[shSd y.d u0, .bool true]) _ (fun w R Q=>(Za0 a' b' d' _ L').mono (fun _ _ h=>Za3 h hy)) (fun xx=>?_)
 obtain ⟨X12,X13⟩:=xx
 refine xr 6 [(4, .p 4 0),(5, .v (.int .i64 0)),(6, .p 6 0),(7, .v (.bool true)),(8, .p 8 0),(9, .v (.bool true))] [bW 8 38 X12 X13 y.d,bW 6 38 X10 X11 x.d,bS3 4 23 ⟨#[]⟩ ⟨#[]⟩ 0] ?_
 refine xe (Zaa (Zac (ZaK (Zac (Zab (xr 7 [(4, .p 4 0),(5, .v (.int .i64 0)),(6, .p 6 0),(8, .p 8 0),(20, .v (.bool false))] [bW 8 38 X12 X13 y.d,bW 6 38 X10 X11 x.d,bS3 4 23 ⟨#[]⟩ ⟨#[]⟩ 0] ?_))))))
 refine xe (Zaa (xb (Zac (Zab (xr 2 [(4, .p 4 0),(5, .v (.int .i64 0)),(6, .p 6 0),(8, .p 8 0),eW 29 X10 X11 x.d,eW 30 X12 X13 y.d] [bW 8 38 X12 X13 y.d,bW 6 38 X10 X11 x.d,bS3 4 23 ⟨#[]⟩ ⟨#[]⟩ 0] ?_)))))
 refine xc 118 [vW X10 X11 x.d,vW X12 X13 y.d] 31 (fun _:Unit=>.int .i64 (Sd.fld x.d y.d)) _ (fun w R Q=>(ZcQ _ _ _ _ _ _ _ _ _ _ _ _ _ _ _ _ _ _ _ _ _ _ _ _ _ _ _ _ _ _ _ _ _ _ _).mono (fun _ _ h=>Zaf h rfl)) (fun xx=>?_)
 refine xr 1 [(4, .p 4 0),(5, .v (.int .i64 0)),(6, .p 6 0),(8, .p 8 0),(32, .v (.bool (((Sd.fld x.d y.d):Int) == 0)))] [bW 8 38 X12 X13 y.d,bW 6 38 X10 X11 x.d,bS3 4 23 ⟨#[]⟩ ⟨#[]⟩ 0] ?_
 rw [ZpQ hB]
 refine xr 1 [(4, .p 4 0),(5, .v (.int .i64 0)),(6, .p 6 0),(8, .p 8 0),(28, .v (.bool true))] [bW 8 38 X12 X13 y.d,bW 6 38 X10 X11 x.d,bS3 4 23 ⟨#[]⟩ ⟨#[]⟩ 0] ?_
 refine xe (Zaa (xa (Zac (Zab (xr 3 [(4, .p 4 0),(5, .v (.int .i64 9)),(6, .p 6 0),(8, .p 8 0)] [bW 8 38 X12 X13 y.d,bW 6 38 X10 X11 x.d,bS3 4 23 ⟨#[]⟩ ⟨#[]⟩ 0] ?_)))))
 refine xe (Zaa (Zah (ZaM (Zaj ?_))))
 refine Zae (v:=.tuple #[.agg #[.string ⟨#[]⟩, .string ⟨#[]⟩, .int .i64 0], .int .i64 9]) (by kernel_rfl) (fun w' R Q=>?_)
 exact ⟨by rw [ZbB hx hy hB],R⟩
theorem Zsc (a b a' b':ByteArray) (d d':Int) (w:World) (L:(bytes a).length≤570∧(bytes b).length≤570) (L':(bytes a').length≤570∧(bytes b').length≤570) {x y:Sd} (hx:rdS (bytes a) (bytes b) d=some x) (hy:rdS (bytes a') (bytes b') d'=some y) (hB:Blg x.d y.d) {j k:Nat} (Zx:∀ x,rdS (bytes a) (bytes b) d=some x→Sz x j) (Zy:∀ x,rdS (bytes a') (bytes b') d'=some x→Sz x k) (hj:j + k≤10000) :
 Calls Tryz.prog 36 #[.agg #[.string a, .string b, .int .i64 d], .agg #[.string a', .string b', .int .i64 d']] w (RetV w (opV (rdS (bytes a) (bytes b) d) (rdS (bytes a') (bytes b') d') (fun x y=>okS (x.rtimes y)) zS)):=by
 have zx:=Zx _ hx
 have zy:=Zy _ hy
 refine Zan (Φ:=fun w=>True) Tryz.func36 rfl (by kernel_rfl) (fun w' hf=>trivial) ?_
 refine Zac (Zab (xr 4 [(2, .p 2 0),(3, .p 3 0),(4, .p 4 0),(5, .v (.int .i64 0))] [bS3 4 23 ⟨#[]⟩ ⟨#[]⟩ 0,bS3 3 23 a' b' d',bS3 2 23 a b d] ?_))
 refine xe (Zaa (Zac (Zab (xr 1 [(3, .p 3 0),(4, .p 4 0),(5, .v (.int .i64 0)),eS3 11 a b d] [bS3 4 23 ⟨#[]⟩ ⟨#[]⟩ 0,bS3 3 23 a' b' d'] ?_))))
 refine xc 22 [vS3 a b d] 12 (fun u0:ShS=>.tuple #[shSd x.d u0, .bool true]) _ (fun w R Q=>(Za0 a b d _ L).mono (fun _ _ h=>Za3 h hx)) (fun xx=>?_)
 obtain ⟨X10,X11⟩:=xx
 refine xr 6 [(3, .p 3 0),(4, .p 4 0),(5, .v (.int .i64 0)),(6, .p 6 0),(7, .v (.bool true))] [bW 6 38 X10 X11 x.d,bS3 4 23 ⟨#[]⟩ ⟨#[]⟩ 0,bS3 3 23 a' b' d'] ?_
 refine xe (Zaa (Zac (Zab (xr 1 [(4, .p 4 0),(5, .v (.int .i64 0)),(6, .p 6 0),(7, .v (.bool true)),eS3 16 a' b' d'] [bW 6 38 X10 X11 x.d,bS3 4 23 ⟨#[]⟩ ⟨#[]⟩ 0] ?_))))
 refine xc 22 [vS3 a' b' d'] 17 (fun u0:ShS=>.tuple #[shSd y.d u0, .bool true]) _ (fun w R Q=>(Za0 a' b' d' _ L').mono (fun _ _ h=>Za3 h hy)) (fun xx=>?_)
 obtain ⟨X12,X13⟩:=xx
 refine xr 6 [(4, .p 4 0),(5, .v (.int .i64 0)),(6, .p 6 0),(7, .v (.bool true)),(8, .p 8 0),(9, .v (.bool true))] [bW 8 38 X12 X13 y.d,bW 6 38 X10 X11 x.d,bS3 4 23 ⟨#[]⟩ ⟨#[]⟩ 0] ?_
 refine xe (Zaa (Zac (ZaK (Zac (Zab (xr 7 [(4, .p 4 0),(5, .v (.int .i64 0)),(6, .p 6 0),(8, .p 8 0),(20, .v (.bool false))] [bW 8 38 X12 X13 y.d,bW 6 38 X10 X11 x.d,bS3 4 23 ⟨#[]⟩ ⟨#[]⟩ 0] ?_))))))
 refine xe (Zaa (xb (Zac (Zab (xr 2 [(4, .p 4 0),(5, .v (.int .i64 0)),(6, .p 6 0),(8, .p 8 0),eW 29 X10 X11 x.d,eW 30 X12 X13 y.d] [bW 8 38 X12 X13 y.d,bW 6 38 X10 X11 x.d,bS3 4 23 ⟨#[]⟩ ⟨#[]⟩ 0] ?_)))))
 refine xc 118 [vW X10 X11 x.d,vW X12 X13 y.d] 31 (fun _:Unit=>.int .i64 (Sd.fld x.d y.d)) _ (fun w R Q=>(ZcQ _ _ _ _ _ _ _ _ _ _ _ _ _ _ _ _ _ _ _ _ _ _ _ _ _ _ _ _ _ _ _ _ _ _ _).mono (fun _ _ h=>Zaf h rfl)) (fun xx=>?_)
 refine xr 1 [(4, .p 4 0),(5, .v (.int .i64 0)),(6, .p 6 0),(8, .p 8 0),(32, .v (.bool (((Sd.fld x.d y.d):Int) == 0)))] [bW 8 38 X12 X13 y.d,bW 6 38 X10 X11 x.d,bS3 4 23 ⟨#[]⟩ ⟨#[]⟩ 0] ?_
 rw [ZnJ zx zy hB]
 refine xr 1 [(4, .p 4 0),(5, .v (.int .i64 0)),(6, .p 6 0),(8, .p 8 0),(28, .v (.bool false))] [bW 8 38 X12 X13 y.d,bW 6 38 X10 X11 x.d,bS3 4 23 ⟨#[]⟩ ⟨#[]⟩ 0] ?_
 refine xe (Zaa (xb (ZaA (ZcB (Zaa (Zac (Zab (xr 2 [(4, .p 4 0),(5, .v (.int .i64 0)),eW 34 X10 X11 x.d,eW 35 X12 X13 y.d] [bS3 4 23 ⟨#[]⟩ ⟨#[]⟩ 0] ?_))))))))
 refine xc 78 [vW X10 X11 x.d,vW X12 X13 y.d] 36 (shSd ((x.rtimes y).d)) _ (fun w R Q=>(Zhn _ _ x y _ (ZaT.of Q.1.1.2.1 Q.1.1.2.2) (ZaT.of Q.1.2.1 Q.1.2.2) zx zy hB (by omega)).mono (fun _ _=>Zcn)) (fun xx=>?_)
 obtain ⟨X14,X15⟩:=xx
 refine xr 0 [(4, .p 4 0),(5, .v (.int .i64 0)),(36, .v (vW X14 X15 ((x.rtimes y).d)))] [bS3 4 23 ⟨#[]⟩ ⟨#[]⟩ 0] ?_
 refine xc 26 [vW X14 X15 ((x.rtimes y).d)] 37 (fun _:Unit=>vS3 ⟨(Zad ((x.rtimes y).a)).toArray⟩ ⟨(Zad ((x.rtimes y).b)).toArray⟩ ((x.rtimes y).d)) _ (fun w R Q=>(Zhl _ (x.rtimes y) _ (ZaT.of Q.2.1 Q.2.2) (j:=(4 * (j + k) + 17)) (zx.rtimes zy hB).a (zx.rtimes zy hB).b (by omega)).mono (fun _ _ h=>Zaf h rfl)) (fun xx=>?_)
 refine xr 2 [(4, .p 4 0),(5, .v (.int .i64 0))] [bS3 4 23 ⟨(Zad ((x.rtimes y).a)).toArray⟩ ⟨(Zad ((x.rtimes y).b)).toArray⟩ ((x.rtimes y).d)] ?_
 refine xe (Zaa (Zah ?_))
 refine Zae (v:=.tuple #[.agg #[.string ⟨(Zad ((x.rtimes y).a)).toArray⟩, .string ⟨(Zad ((x.rtimes y).b)).toArray⟩, .int .i64 ((x.rtimes y).d)], .int .i64 0]) (by kernel_rfl) (fun w' R Q=>?_)
 exact ⟨by rw [Zbk hx hy hB],R⟩
theorem Zl5 (a b a' b':ByteArray) (d d':Int) (w:World) (L:(bytes a).length≤570∧(bytes b).length≤570) (L':(bytes a').length≤570∧(bytes b').length≤570) (hxy:rdS (bytes a) (bytes b) d=none∨rdS (bytes a') (bytes b') d'=none) :
 Calls Tryz.prog 37 #[.agg #[.string a, .string b, .int .i64 d], .agg #[.string a', .string b', .int .i64 d']] w (RetV w (opV (rdS (bytes a) (bytes b) d) (rdS (bytes a') (bytes b') d') Zhk zS)):=by
 refine Zan (Φ:=fun w=>True) Tryz.func37 rfl (by kernel_rfl) (fun w' hf=>trivial) ?_
 refine Zac (Zab (xr 4 [(2, .p 2 0),(3, .p 3 0),(4, .p 4 0),(5, .v (.int .i64 0))] [bS3 4 23 ⟨#[]⟩ ⟨#[]⟩ 0,bS3 3 23 a' b' d',bS3 2 23 a b d] ?_))
 refine xe (Zaa (Zac (Zab (xr 1 [(3, .p 3 0),(4, .p 4 0),(5, .v (.int .i64 0)),eS3 11 a b d] [bS3 4 23 ⟨#[]⟩ ⟨#[]⟩ 0,bS3 3 23 a' b' d'] ?_))))
 rcases ZcK (rdS (bytes a) (bytes b) d) with hx | ⟨x,hx⟩
 ·refine xc 22 [vS3 a b d] 12 (fun u0:Int × ShS=>.tuple #[shSd u0.1 u0.2, .bool false]) _ (fun w R Q=>(Za0 a b d _ L).mono (fun _ _ h=>ZcL h hx)) (fun xx=>?_)
  obtain ⟨d12d,X10,X11⟩:=xx
  refine xr 6 [(3, .p 3 0),(4, .p 4 0),(5, .v (.int .i64 0)),(6, .p 6 0),(7, .v (.bool false))] [bW 6 38 X10 X11 d12d,bS3 4 23 ⟨#[]⟩ ⟨#[]⟩ 0,bS3 3 23 a' b' d'] ?_
  refine xe (Zaa (Zac (Zab (xr 1 [(4, .p 4 0),(5, .v (.int .i64 0)),(6, .p 6 0),(7, .v (.bool false)),eS3 16 a' b' d'] [bW 6 38 X10 X11 d12d,bS3 4 23 ⟨#[]⟩ ⟨#[]⟩ 0] ?_))))
  refine xc 22 [vS3 a' b' d'] 17 (fun u0:Bool × Int × ShS=>.tuple #[shSd u0.2.1 u0.2.2, .bool u0.1]) _ (fun w R Q=>(Za0 a' b' d' _ L').mono (fun _ _=>ZfS)) (fun xx=>?_)
  obtain ⟨b15,d15d,X13,X14⟩:=xx
  refine xr 6 [(4, .p 4 0),(5, .v (.int .i64 0)),(6, .p 6 0),(7, .v (.bool false)),(8, .p 8 0),(9, .v (.bool b15))] [bW 8 38 X13 X14 d15d,bW 6 38 X10 X11 d12d,bS3 4 23 ⟨#[]⟩ ⟨#[]⟩ 0] ?_
  refine xe (Zaa (Zac (ZaK (Zac (Zab (xr 7 [(4, .p 4 0),(5, .v (.int .i64 0)),(6, .p 6 0),(8, .p 8 0),(20, .v (.bool true))] [bW 8 38 X13 X14 d15d,bW 6 38 X10 X11 d12d,bS3 4 23 ⟨#[]⟩ ⟨#[]⟩ 0] ?_))))))
  refine xe (Zaa (xa (Zac (Zab (xr 3 [(4, .p 4 0),(5, .v (.int .i64 1)),(6, .p 6 0),(8, .p 8 0)] [bW 8 38 X13 X14 d15d,bW 6 38 X10 X11 d12d,bS3 4 23 ⟨#[]⟩ ⟨#[]⟩ 0] ?_)))))
  refine xe (Zaa (Zah (ZaM (Zaj ?_))))
  refine Zae (v:=.tuple #[.agg #[.string ⟨#[]⟩, .string ⟨#[]⟩, .int .i64 0], .int .i64 1]) (by kernel_rfl) (fun w' R Q=>?_)
  exact ⟨by rw [ZaX hxy],R⟩
 ·refine xc 22 [vS3 a b d] 12 (fun u0:ShS=>.tuple #[shSd x.d u0, .bool true]) _ (fun w R Q=>(Za0 a b d _ L).mono (fun _ _ h=>Za3 h hx)) (fun xx=>?_)
  obtain ⟨X16,X17⟩:=xx
  refine xr 6 [(3, .p 3 0),(4, .p 4 0),(5, .v (.int .i64 0)),(6, .p 6 0),(7, .v (.bool true))] [bW 6 38 X16 X17 x.d,bS3 4 23 ⟨#[]⟩ ⟨#[]⟩ 0,bS3 3 23 a' b' d'] ?_
  refine xe (Zaa (Zac (Zab (xr 1 [(4, .p 4 0),(5, .v (.int .i64 0)),(6, .p 6 0),(7, .v (.bool true)),eS3 16 a' b' d'] [bW 6 38 X16 X17 x.d,bS3 4 23 ⟨#[]⟩ ⟨#[]⟩ 0] ?_))))
  have hy:=Zlb hxy hx
  refine xc 22 [vS3 a' b' d'] 17 (fun u0:Int × ShS=>.tuple #[shSd u0.1 u0.2, .bool false]) _ (fun w R Q=>(Za0 a' b' d' _ L').mono (fun _ _ h=>ZcL h hy)) (fun xx=>?_)
  obtain ⟨d20d,X18,X19⟩:=xx
  refine xr 6 [(4, .p 4 0),(5, .v (.int .i64 0)),(6, .p 6 0),(7, .v (.bool true)),(8, .p 8 0),(9, .v (.bool false))] [bW 8 38 X18 X19 d20d,bW 6 38 X16 X17 x.d,bS3 4 23 ⟨#[]⟩ ⟨#[]⟩ 0] ?_
  refine xe (Zaa (Zac (ZaK (Zac (Zab (xr 7 [(4, .p 4 0),(5, .v (.int .i64 0)),(6, .p 6 0),(8, .p 8 0),(20, .v (.bool true))] [bW 8 38 X18 X19 d20d,bW 6 38 X16 X17 x.d,bS3 4 23 ⟨#[]⟩ ⟨#[]⟩ 0] ?_))))))
  refine xe (Zaa (xa (Zac (Zab (xr 3 [(4, .p 4 0),(5, .v (.int .i64 1)),(6, .p 6 0),(8, .p 8 0)] [bW 8 38 X18 X19 d20d,bW 6 38 X16 X17 x.d,bS3 4 23 ⟨#[]⟩ ⟨#[]⟩ 0] ?_)))))
  refine xe (Zaa (Zah (ZaM (Zaj ?_))))
  refine Zae (v:=.tuple #[.agg #[.string ⟨#[]⟩, .string ⟨#[]⟩, .int .i64 0], .int .i64 1]) (by kernel_rfl) (fun w' R Q=>?_)
  exact ⟨by rw [ZaX hxy],R⟩
theorem Zsd (a b a' b':ByteArray) (d d':Int) (w:World) (L:(bytes a).length≤570∧(bytes b).length≤570) (L':(bytes a').length≤570∧(bytes b').length≤570) {x y:Sd} (hx:rdS (bytes a) (bytes b) d=some x) (hy:rdS (bytes a') (bytes b') d'=some y) (hB:¬ Blg x.d y.d) :
 Calls Tryz.prog 37 #[.agg #[.string a, .string b, .int .i64 d], .agg #[.string a', .string b', .int .i64 d']] w (RetV w (opV (rdS (bytes a) (bytes b) d) (rdS (bytes a') (bytes b') d') Zhk zS)):=by
 refine Zan (Φ:=fun w=>True) Tryz.func37 rfl (by kernel_rfl) (fun w' hf=>trivial) ?_
 refine Zac (Zab (xr 4 [(2, .p 2 0),(3, .p 3 0),(4, .p 4 0),(5, .v (.int .i64 0))] [bS3 4 23 ⟨#[]⟩ ⟨#[]⟩ 0,bS3 3 23 a' b' d',bS3 2 23 a b d] ?_))
 refine xe (Zaa (Zac (Zab (xr 1 [(3, .p 3 0),(4, .p 4 0),(5, .v (.int .i64 0)),eS3 11 a b d] [bS3 4 23 ⟨#[]⟩ ⟨#[]⟩ 0,bS3 3 23 a' b' d'] ?_))))
 refine xc 22 [vS3 a b d] 12 (fun u0:ShS=>.tuple #[shSd x.d u0, .bool true]) _ (fun w R Q=>(Za0 a b d _ L).mono (fun _ _ h=>Za3 h hx)) (fun xx=>?_)
 obtain ⟨X10,X11⟩:=xx
 refine xr 6 [(3, .p 3 0),(4, .p 4 0),(5, .v (.int .i64 0)),(6, .p 6 0),(7, .v (.bool true))] [bW 6 38 X10 X11 x.d,bS3 4 23 ⟨#[]⟩ ⟨#[]⟩ 0,bS3 3 23 a' b' d'] ?_
 refine xe (Zaa (Zac (Zab (xr 1 [(4, .p 4 0),(5, .v (.int .i64 0)),(6, .p 6 0),(7, .v (.bool true)),eS3 16 a' b' d'] [bW 6 38 X10 X11 x.d,bS3 4 23 ⟨#[]⟩ ⟨#[]⟩ 0] ?_))))
 refine xc 22 [vS3 a' b' d'] 17 (fun u0:ShS=>.tuple #[shSd y.d u0, .bool true]) _ (fun w R Q=>(Za0 a' b' d' _ L').mono (fun _ _ h=>Za3 h hy)) (fun xx=>?_)
 obtain ⟨X12,X13⟩:=xx
 refine xr 6 [(4, .p 4 0),(5, .v (.int .i64 0)),(6, .p 6 0),(7, .v (.bool true)),(8, .p 8 0),(9, .v (.bool true))] [bW 8 38 X12 X13 y.d,bW 6 38 X10 X11 x.d,bS3 4 23 ⟨#[]⟩ ⟨#[]⟩ 0] ?_
 refine xe (Zaa (Zac (ZaK (Zac (Zab (xr 7 [(4, .p 4 0),(5, .v (.int .i64 0)),(6, .p 6 0),(8, .p 8 0),(20, .v (.bool false))] [bW 8 38 X12 X13 y.d,bW 6 38 X10 X11 x.d,bS3 4 23 ⟨#[]⟩ ⟨#[]⟩ 0] ?_))))))
 refine xe (Zaa (xb (Zac (Zab (xr 2 [(4, .p 4 0),(5, .v (.int .i64 0)),(6, .p 6 0),(8, .p 8 0),eW 29 X10 X11 x.d,eW 30 X12 X13 y.d] [bW 8 38 X12 X13 y.d,bW 6 38 X10 X11 x.d,bS3 4 23 ⟨#[]⟩ ⟨#[]⟩ 0] ?_)))))
 refine xc 118 [vW X10 X11 x.d,vW X12 X13 y.d] 31 (fun _:Unit=>.int .i64 (Sd.fld x.d y.d)) _ (fun w R Q=>(ZcQ _ _ _ _ _ _ _ _ _ _ _ _ _ _ _ _ _ _ _ _ _ _ _ _ _ _ _ _ _ _ _ _ _ _ _).mono (fun _ _ h=>Zaf h rfl)) (fun xx=>?_)
 refine xr 1 [(4, .p 4 0),(5, .v (.int .i64 0)),(6, .p 6 0),(8, .p 8 0),(32, .v (.bool (((Sd.fld x.d y.d):Int) == 0)))] [bW 8 38 X12 X13 y.d,bW 6 38 X10 X11 x.d,bS3 4 23 ⟨#[]⟩ ⟨#[]⟩ 0] ?_
 rw [ZpQ hB]
 refine xr 1 [(4, .p 4 0),(5, .v (.int .i64 0)),(6, .p 6 0),(8, .p 8 0),(28, .v (.bool true))] [bW 8 38 X12 X13 y.d,bW 6 38 X10 X11 x.d,bS3 4 23 ⟨#[]⟩ ⟨#[]⟩ 0] ?_
 refine xe (Zaa (xa (Zac (Zab (xr 3 [(4, .p 4 0),(5, .v (.int .i64 9)),(6, .p 6 0),(8, .p 8 0)] [bW 8 38 X12 X13 y.d,bW 6 38 X10 X11 x.d,bS3 4 23 ⟨#[]⟩ ⟨#[]⟩ 0] ?_)))))
 refine xe (Zaa (Zah (ZaM (Zaj ?_))))
 refine Zae (v:=.tuple #[.agg #[.string ⟨#[]⟩, .string ⟨#[]⟩, .int .i64 0], .int .i64 9]) (by kernel_rfl) (fun w' R Q=>?_)
 exact ⟨by rw [ZbB hx hy hB],R⟩
theorem ZnM (a b a' b':ByteArray) (d d':Int) (w:World) (L:(bytes a).length≤570∧(bytes b).length≤570) (L':(bytes a').length≤570∧(bytes b').length≤570) {x y:Sd} (hx:rdS (bytes a) (bytes b) d=some x) (hy:rdS (bytes a') (bytes b') d'=some y) (hB:Blg x.d y.d) {j k:Nat} (Zx:∀ x,rdS (bytes a) (bytes b) d=some x→Sz x j) (Zy:∀ x,rdS (bytes a') (bytes b') d'=some x→Sz x k) (hj:j + 20 * k≤5000) :
 Calls Tryz.prog 37 #[.agg #[.string a, .string b, .int .i64 d], .agg #[.string a', .string b', .int .i64 d']] w (RetV w (opV (rdS (bytes a) (bytes b) d) (rdS (bytes a') (bytes b') d') Zhk zS)):=by
 have zx:=Zx _ hx
 have zy:=Zy _ hy
 refine Zan (Φ:=fun w=>True) Tryz.func37 rfl (by kernel_rfl) (fun w' hf=>trivial) ?_
 refine Zac (Zab (xr 4 [(2, .p 2 0),(3, .p 3 0),(4, .p 4 0),(5, .v (.int .i64 0))] [bS3 4 23 ⟨#[]⟩ ⟨#[]⟩ 0,bS3 3 23 a' b' d',bS3 2 23 a b d] ?_))
 refine xe (Zaa (Zac (Zab (xr 1 [(3, .p 3 0),(4, .p 4 0),(5, .v (.int .i64 0)),eS3 11 a b d] [bS3 4 23 ⟨#[]⟩ ⟨#[]⟩ 0,bS3 3 23 a' b' d'] ?_))))
 refine xc 22 [vS3 a b d] 12 (fun u0:ShS=>.tuple #[shSd x.d u0, .bool true]) _ (fun w R Q=>(Za0 a b d _ L).mono (fun _ _ h=>Za3 h hx)) (fun xx=>?_)
 obtain ⟨X10,X11⟩:=xx
 refine xr 6 [(3, .p 3 0),(4, .p 4 0),(5, .v (.int .i64 0)),(6, .p 6 0),(7, .v (.bool true))] [bW 6 38 X10 X11 x.d,bS3 4 23 ⟨#[]⟩ ⟨#[]⟩ 0,bS3 3 23 a' b' d'] ?_
 refine xe (Zaa (Zac (Zab (xr 1 [(4, .p 4 0),(5, .v (.int .i64 0)),(6, .p 6 0),(7, .v (.bool true)),eS3 16 a' b' d'] [bW 6 38 X10 X11 x.d,bS3 4 23 ⟨#[]⟩ ⟨#[]⟩ 0] ?_))))
 refine xc 22 [vS3 a' b' d'] 17 (fun u0:ShS=>.tuple #[shSd y.d u0, .bool true]) _ (fun w R Q=>(Za0 a' b' d' _ L').mono (fun _ _ h=>Za3 h hy)) (fun xx=>?_)
 obtain ⟨X12,X13⟩:=xx
 refine xr 6 [(4, .p 4 0),(5, .v (.int .i64 0)),(6, .p 6 0),(7, .v (.bool true)),(8, .p 8 0),(9, .v (.bool true))] [bW 8 38 X12 X13 y.d,bW 6 38 X10 X11 x.d,bS3 4 23 ⟨#[]⟩ ⟨#[]⟩ 0] ?_
 refine xe (Zaa (Zac (ZaK (Zac (Zab (xr 7 [(4, .p 4 0),(5, .v (.int .i64 0)),(6, .p 6 0),(8, .p 8 0),(20, .v (.bool false))] [bW 8 38 X12 X13 y.d,bW 6 38 X10 X11 x.d,bS3 4 23 ⟨#[]⟩ ⟨#[]⟩ 0] ?_))))))
 refine xe (Zaa (xb (Zac (Zab (xr 2 [(4, .p 4 0),(5, .v (.int .i64 0)),(6, .p 6 0),(8, .p 8 0),eW 29 X10 X11 x.d,eW 30 X12 X13 y.d] [bW 8 38 X12 X13 y.d,bW 6 38 X10 X11 x.d,bS3 4 23 ⟨#[]⟩ ⟨#[]⟩ 0] ?_)))))
 refine xc 118 [vW X10 X11 x.d,vW X12 X13 y.d] 31 (fun _:Unit=>.int .i64 (Sd.fld x.d y.d)) _ (fun w R Q=>(ZcQ _ _ _ _ _ _ _ _ _ _ _ _ _ _ _ _ _ _ _ _ _ _ _ _ _ _ _ _ _ _ _ _ _ _ _).mono (fun _ _ h=>Zaf h rfl)) (fun xx=>?_)
 refine xr 1 [(4, .p 4 0),(5, .v (.int .i64 0)),(6, .p 6 0),(8, .p 8 0),(32, .v (.bool (((Sd.fld x.d y.d):Int) == 0)))] [bW 8 38 X12 X13 y.d,bW 6 38 X10 X11 x.d,bS3 4 23 ⟨#[]⟩ ⟨#[]⟩ 0] ?_
 rw [ZnJ zx zy hB]
 refine xr 1 [(4, .p 4 0),(5, .v (.int .i64 0)),(6, .p 6 0),(8, .p 8 0),(28, .v (.bool false))] [bW 8 38 X12 X13 y.d,bW 6 38 X10 X11 x.d,bS3 4 23 ⟨#[]⟩ ⟨#[]⟩ 0] ?_
 refine xe (Zaa (xb (Zac (Zab (xr 1 [(4, .p 4 0),(5, .v (.int .i64 0)),(6, .p 6 0),(8, .p 8 0),eW 35 X12 X13 y.d] [bW 8 38 X12 X13 y.d,bW 6 38 X10 X11 x.d,bS3 4 23 ⟨#[]⟩ ⟨#[]⟩ 0] ?_)))))
 by_cases hZ:y.a=0∧y.b=0
 ·refine xc 121 [vW X12 X13 y.d] 36 (fun _:Unit=>.bool true) _ (fun w R Q=>(Zl1 _ y _ (ZaT.of Q.1.2.1 Q.1.2.2)).mono (fun _ _ h=>Zaf h (by rw [ZqX hZ]))) (fun xx=>?_)
  refine xr 1 [(4, .p 4 0),(5, .v (.int .i64 0)),(6, .p 6 0),(8, .p 8 0),(34, .v (.bool true))] [bW 8 38 X12 X13 y.d,bW 6 38 X10 X11 x.d,bS3 4 23 ⟨#[]⟩ ⟨#[]⟩ 0] ?_
  refine xe (Zaa (xa (Zac (Zab (xr 3 [(4, .p 4 0),(5, .v (.int .i64 5)),(6, .p 6 0),(8, .p 8 0)] [bW 8 38 X12 X13 y.d,bW 6 38 X10 X11 x.d,bS3 4 23 ⟨#[]⟩ ⟨#[]⟩ 0] ?_)))))
  refine xe (Zaa (Zah (ZaM (Zaj ?_))))
  refine Zae (v:=.tuple #[.agg #[.string ⟨#[]⟩, .string ⟨#[]⟩, .int .i64 0], .int .i64 5]) (by kernel_rfl) (fun w' R Q=>?_)
  exact ⟨by rw [Zbk hx hy hB]; unfold Zhk; rw [if_pos hZ],R⟩
 ·refine xc 121 [vW X12 X13 y.d] 36 (fun _:Unit=>.bool false) _ (fun w R Q=>(Zl1 _ y _ (ZaT.of Q.1.2.1 Q.1.2.2)).mono (fun _ _ h=>Zaf h (by rw [ZqY hZ]))) (fun xx=>?_)
  refine xr 1 [(4, .p 4 0),(5, .v (.int .i64 0)),(6, .p 6 0),(8, .p 8 0),(34, .v (.bool false))] [bW 8 38 X12 X13 y.d,bW 6 38 X10 X11 x.d,bS3 4 23 ⟨#[]⟩ ⟨#[]⟩ 0] ?_
  refine xe (Zaa (xb (ZaA (ZcB (Zaa (Zac (Zab (xr 2 [(4, .p 4 0),(5, .v (.int .i64 0)),eW 38 X10 X11 x.d,eW 39 X12 X13 y.d] [bS3 4 23 ⟨#[]⟩ ⟨#[]⟩ 0] ?_))))))))
  refine xc 122 [vW X10 X11 x.d,vW X12 X13 y.d] 40 (shSd ((x.rover y).d)) _ (fun w R Q=>(Zrc _ _ x y _ (ZaT.of Q.1.1.1.2.1 Q.1.1.1.2.2) (ZaT.of Q.1.1.2.1 Q.1.1.2.2) zx zy hB (by omega)).mono (fun _ _=>Zcn)) (fun xx=>?_)
  obtain ⟨X14,X15⟩:=xx
  refine xr 0 [(4, .p 4 0),(5, .v (.int .i64 0)),(40, .v (vW X14 X15 ((x.rover y).d)))] [bS3 4 23 ⟨#[]⟩ ⟨#[]⟩ 0] ?_
  refine xc 26 [vW X14 X15 ((x.rover y).d)] 41 (fun _:Unit=>vS3 ⟨(Zad ((x.rover y).a)).toArray⟩ ⟨(Zad ((x.rover y).b)).toArray⟩ ((x.rover y).d)) _ (fun w R Q=>(Zhl _ (x.rover y) _ (ZaT.of Q.2.1 Q.2.2) (j:=(4 * (j + (2 * (k + (8 * k + 17)) + 1)) + 17)) (Sz.rover zx zy hB).a (Sz.rover zx zy hB).b (by omega)).mono (fun _ _ h=>Zaf h rfl)) (fun xx=>?_)
  refine xr 2 [(4, .p 4 0),(5, .v (.int .i64 0))] [bS3 4 23 ⟨(Zad ((x.rover y).a)).toArray⟩ ⟨(Zad ((x.rover y).b)).toArray⟩ ((x.rover y).d)] ?_
  refine xe (Zaa (Zah ?_))
  refine Zae (v:=.tuple #[.agg #[.string ⟨(Zad ((x.rover y).a)).toArray⟩, .string ⟨(Zad ((x.rover y).b)).toArray⟩, .int .i64 ((x.rover y).d)], .int .i64 0]) (by kernel_rfl) (fun w' R Q=>?_)
  exact ⟨by rw [Zbk hx hy hB]; unfold Zhk; rw [if_neg hZ],R⟩
theorem Zrf (a b:ByteArray) (d:Int) (w:World) (L:(bytes a).length≤570∧(bytes b).length≤570) {x:Sd} (hx:rdS (bytes a) (bytes b) d=some x) {j:Nat} (zx:Sz x j) (hj:j≤20000) :
 Calls Tryz.prog 123 #[.agg #[.string a, .string b, .int .i64 d]] w (RetV w (opU (rdS (bytes a) (bytes b) d) (fun x=>.tuple #[.int .i64 x.rsgn, .int .i64 0]) (.int .i64 0))):=by
 refine Zan (Φ:=fun w=>True) Tryz.func123 rfl (by kernel_rfl) (fun w' hf=>trivial) ?_
 refine Zac (Zab (xr 3 [(1, .p 1 0),(2, .v (.int .i64 0)),(3, .v (.int .i64 0))] [bS3 1 23 a b d] ?_))
 refine xe (Zaa (Zac (Zab (xr 1 [(2, .v (.int .i64 0)),(3, .v (.int .i64 0)),eS3 7 a b d] [] ?_))))
 refine xc 22 [vS3 a b d] 8 (fun u0:ShS=>.tuple #[shSd x.d u0, .bool true]) _ (fun w R Q=>(Za0 a b d _ L).mono (fun _ _ h=>Za3 h hx)) (fun xx=>?_)
 obtain ⟨X10,X11⟩:=xx
 refine xr 6 [(2, .v (.int .i64 0)),(3, .v (.int .i64 0)),(4, .p 4 0),(5, .v (.bool true))] [bW 4 38 X10 X11 x.d] ?_
 refine xe (Zaa (Zac (Zac (Zab (xr 2 [(2, .v (.int .i64 0)),(3, .v (.int .i64 0)),(4, .p 4 0),(12, .v (.bool false))] [bW 4 38 X10 X11 x.d] ?_)))))
 refine xe (Zaa (xb (ZaA (Zaa (Zac (Zab (xr 1 [(2, .v (.int .i64 0)),(3, .v (.int .i64 0)),eW 13 X10 X11 x.d] [] ?_)))))))
 refine xc 30 [vW X10 X11 x.d] 14 (fun _:Unit=>.int .i64 x.rsgn) _ (fun w R Q=>(Zsa _ x _ (ZaT.of Q.2.1 Q.2.2) zx (by omega)).mono (fun _ _ h=>Zaf h rfl)) (fun xx=>?_)
 refine xr 2 [(2, .v (.int .i64 x.rsgn)),(3, .v (.int .i64 0))] [] ?_
 refine xe (Zaa (Zah ?_))
 refine Zae (v:=.tuple #[.int .i64 x.rsgn, .int .i64 0]) (by kernel_rfl) (fun w' R Q=>?_)
 exact ⟨by rw [ZgG hx],R⟩
end Go.Proofs.YtbgkofgoeoiciaaGreatDoor

namespace Go.Proofs.YtbgkofgoeoiciaaGreatDoor
open Go.RowKit
open Sd
structure TIs (a b:ByteArray) (d:Int) (x:Sd) (j:Nat):Prop where
 rd:rdS (bytes a) (bytes b) d=some x
 len:(bytes a).length≤570∧(bytes b).length≤570
 sz:Sz x j
abbrev tB (q:Rat):ByteArray:=⟨(Zad q).toArray⟩
theorem TIs.of {r:Sd} {j:Nat} (hr:r.Ok) (hz:Sz r j) (h1:1≤j) (hj:2 * j + 3≤570):TIs (tB r.a) (tB r.b) r.d r j:=by
 refine ⟨?_,?_,hz⟩
 ·rw [Zha,Zha]; exact ZtP hr
 ·rw [Zha,Zha]; exact ⟨ZlC h1 hz.a hj,ZlC h1 hz.b hj⟩
theorem TIs.in {a b:ByteArray} {d:Int} {x:Sd} {k:Nat} (h:rdS (bytes a) (bytes b) d=some x) (ha:(bytes a).length≤k) (hb:(bytes b).length≤k) (h1:1≤k) (hk:k≤570):TIs a b d x k :=
 ⟨h,⟨Nat.le_trans ha hk,Nat.le_trans hb hk⟩,ZtL h ha hb h1⟩
theorem TIs.ok {a b:ByteArray} {d:Int} {x:Sd} {j:Nat} (h:TIs a b d x j):x.Ok:=(ZnC h.rd).2.2.2
theorem TIs.zz {a b:ByteArray} {d:Int} {x:Sd} {j:Nat} (h:TIs a b d x j):∀ y,rdS (bytes a) (bytes b) d=some y→Sz y j:=fun y hy=>by
 have:=h.rd.symm.trans hy; injection this with e; exact e ▸ h.sz
section
variable {a b a' b':ByteArray} {d d':Int} {x y r:Sd} {j k:Nat} {w:World}
theorem lMul (hg:Glob w) (hx:TIs a b d x j) (hy:TIs a' b' d' y k) (hB:Blg x.d y.d) (hr:x.times y=r) (hj:j + k≤350) :
 Calls Tryz.prog 31 #[.agg #[.string a, .string b, .int .i64 d], .agg #[.string a', .string b', .int .i64 d']] w (RetV w (okS r)):=by
 have h:=Zr5 a b a' b' d d' w hg hx.len hy.len hx.rd hy.rd hB hx.zz hy.zz hj
 rw [Zbk hx.rd hy.rd hB,hr] at h; exact h
theorem lAdd (hg:Glob w) (hx:TIs a b d x j) (hy:TIs a' b' d' y k) (hB:Blg x.d y.d) (hr:x.plus y=r) (hj:j + k≤700) :
 Calls Tryz.prog 32 #[.agg #[.string a, .string b, .int .i64 d], .agg #[.string a', .string b', .int .i64 d']] w (RetV w (okS r)):=by
 have h:=Zr1 a b a' b' d d' w hg hx.len hy.len hx.rd hy.rd hB hx.zz hy.zz hj
 rw [Zbk hx.rd hy.rd hB,hr] at h; exact h
theorem lSub (hg:Glob w) (hx:TIs a b d x j) (hy:TIs a' b' d' y k) (hB:Blg x.d y.d) (hr:x.plus y.neg=r) (hj:j + k≤700) :
 Calls Tryz.prog 35 #[.agg #[.string a, .string b, .int .i64 d], .agg #[.string a', .string b', .int .i64 d']] w (RetV w (okS r)):=by
 have h:=Zr3 a b a' b' d d' w hg hx.len hy.len hx.rd hy.rd hB hx.zz hy.zz hj
 rw [Zbk hx.rd hy.rd hB,hr] at h; exact h
theorem lDiv (hg:Glob w) (hx:TIs a b d x j) (hy:TIs a' b' d' y k) (hB:Blg x.d y.d) (h0:¬ (y.a=0∧y.b=0)) (hr:x.over y=r) (hj:2 * j + 6 * k≤700) :
 Calls Tryz.prog 33 #[.agg #[.string a, .string b, .int .i64 d], .agg #[.string a', .string b', .int .i64 d']] w (RetV w (okS r)):=by
 have h:=ZnE a b a' b' d d' w hg hx.len hy.len hx.rd hy.rd hB hx.zz hy.zz hj
 rw [Zbk hx.rd hy.rd hB] at h; unfold divV at h; rw [if_neg h0,hr] at h; exact h
theorem Zua (hg:Glob w) (hx:TIs a b d x j) (hy:TIs a' b' d' y k) (hB:Blg x.d y.d) (h0:y.a=0∧y.b=0) (hj:2 * j + 6 * k≤700) :
 Calls Tryz.prog 33 #[.agg #[.string a, .string b, .int .i64 d], .agg #[.string a', .string b', .int .i64 d']] w (RetV w (.tuple #[zS, .int .i64 5])):=by
 have h:=ZnE a b a' b' d d' w hg hx.len hy.len hx.rd hy.rd hB hx.zz hy.zz hj
 rw [Zbk hx.rd hy.rd hB] at h; unfold divV at h; rw [if_pos h0] at h; exact h
theorem lCmp {n:Int} (hg:Glob w) (hx:TIs a b d x j) (hy:TIs a' b' d' y k) (hB:Blg x.d y.d) (hr:(x.plus y.neg).sgn=n) (hj:j + k≤340) :
 Calls Tryz.prog 38 #[.agg #[.string a, .string b, .int .i64 d], .agg #[.string a', .string b', .int .i64 d']] w (RetV w (.tuple #[.int .i64 n, .int .i64 0])):=by
 have h:=ZnG a b a' b' d d' w hg hx.len hy.len hx.rd hy.rd hB hx.zz hy.zz hj
 rw [Zbk hx.rd hy.rd hB,hr] at h; exact h
theorem lNeg (hg:Glob w) (hx:TIs a b d x j) (hr:x.neg=r) (hj:j≤350):Calls Tryz.prog 40 #[.agg #[.string a, .string b, .int .i64 d]] w (RetV w (okS r)):=by
 have h:=Zr7 a b d w hg hx.len hx.rd hx.zz hj
 rw [ZgG hx.rd,hr] at h; exact h
theorem Zub {n:Int} (hg:Glob w) (hx:TIs a b d x j) (hr:x.sgn=n) (hj:j≤350):Calls Tryz.prog 25 #[.agg #[.string a, .string b, .int .i64 d]] w (RetV w (.tuple #[.int .i64 n, .int .i64 0])):=by
 have h:=Zq1 a b d w hg hx.len hx.rd hx.zz hj
 rw [ZgG hx.rd,hr] at h; exact h
-- the reference
theorem Zfi {cc:ByteArray} {c:Rat} (hc:valF (bytes cc)=c) (hcs:cc.size≤65536) (zc:Dq c 1) (hx:TIs a b d x j) (hy:TIs a' b' d' y k) (hB:Blg x.d y.d) (hr:x.rplus c y=r) (hj:j + k≤20000) :
 Calls Tryz.prog 34 #[.agg #[.string a, .string b, .int .i64 d], .string cc, .agg #[.string a', .string b', .int .i64 d']] w (RetV w (okS r)):=by
 have h:=Zre a b a' b' d d' w hx.len hy.len cc c hc hcs zc hx.rd hy.rd hB hx.zz hy.zz hj
 rw [Zbk hx.rd hy.rd hB,hr] at h; exact h
theorem Zss (hx:TIs a b d x j) (hy:TIs a' b' d' y k) (hB:Blg x.d y.d) (hr:x.rtimes y=r) (hj:j + k≤10000) :
 Calls Tryz.prog 36 #[.agg #[.string a, .string b, .int .i64 d], .agg #[.string a', .string b', .int .i64 d']] w (RetV w (okS r)):=by
 have h:=Zsc a b a' b' d d' w hx.len hy.len hx.rd hy.rd hB hx.zz hy.zz hj
 rw [Zbk hx.rd hy.rd hB,hr] at h; exact h
theorem Zuc (hx:TIs a b d x j) (hy:TIs a' b' d' y k) (hB:Blg x.d y.d) (h0:¬ (y.a=0∧y.b=0)) (hr:x.rover y=r) (hj:j + 20 * k≤5000) :
 Calls Tryz.prog 37 #[.agg #[.string a, .string b, .int .i64 d], .agg #[.string a', .string b', .int .i64 d']] w (RetV w (okS r)):=by
 have h:=ZnM a b a' b' d d' w hx.len hy.len hx.rd hy.rd hB hx.zz hy.zz hj
 rw [Zbk hx.rd hy.rd hB] at h; unfold Zhk at h; rw [if_neg h0,hr] at h; exact h
theorem ZtT (hx:TIs a b d x j) (hy:TIs a' b' d' y k) (hB:Blg x.d y.d) (h0:y.a=0∧y.b=0) (hj:j + 20 * k≤5000) :
 Calls Tryz.prog 37 #[.agg #[.string a, .string b, .int .i64 d], .agg #[.string a', .string b', .int .i64 d']] w (RetV w (.tuple #[zS, .int .i64 5])):=by
 have h:=ZnM a b a' b' d d' w hx.len hy.len hx.rd hy.rd hB hx.zz hy.zz hj
 rw [Zbk hx.rd hy.rd hB] at h; unfold Zhk at h; rw [if_pos h0] at h; exact h
theorem ZtU {n:Int} (hx:TIs a b d x j) (hr:x.rsgn=n) (hj:j≤20000):Calls Tryz.prog 123 #[.agg #[.string a, .string b, .int .i64 d]] w (RetV w (.tuple #[.int .i64 n, .int .i64 0])):=by
 have h:=Zrf a b d w hx.len hx.rd hx.sz hj
 rw [ZgG hx.rd,hr] at h; exact h
end
def ZeE (l:List (ByteArray × ByteArray × Int)):List Value:=l.flatMap fun p=>[.string p.1, .string p.2.1, .int .i64 p.2.2]
theorem Zl7:∀ (l:List (ByteArray × ByteArray × Int)) (i:Nat) (p:ByteArray × ByteArray × Int),l[i]? = some p→(ZeE l)[i * 3]? = some (.string p.1)∧(ZeE l)[i * 3 + 1]? = some (.string p.2.1)
 | [],i,p,h=>by simp at h
 | q :: l,0,p,h=>by
   simp at h; subst h
   exact ⟨rfl,rfl⟩
 | q :: l,i + 1,p,h=>by
   simp at h
   have:=Zl7 l i p h
   simp only [ZeE,List.flatMap_cons,Nat.succ_mul] at this ⊢
   exact this
theorem Zpb {e:TypeId} {w:World} {g i:Nat} {l:List (ByteArray × ByteArray × Int)} {p:ByteArray × ByteArray × Int} (hB:Blk e w g (ZeE l).toArray) (hp:l[i]? = some p) :
 w.cell? ⟨g,i * 3,none⟩=some (.string p.1)∧w.cell? ⟨g,i * 3 + 1,none⟩=some (.string p.2.1):=by
 obtain ⟨h1,h2⟩:=Zl7 l i p hp
 rw [hB.cell,hB.cell]
 exact ⟨by simpa using h1,by simpa using h2⟩
def okP (p:ByteArray × ByteArray × Int):Bool:=decide ((p.1.size:Int)≤40) && decide ((p.2.1.size:Int)≤40)
theorem ZtV (p:ByteArray × ByteArray × Int):[p.1,p.2.1].all (fun s=>decide ((s.size:Int)≤40))=okP p:=by simp [okP]
theorem ZtW {l:List (ByteArray × ByteArray × Int)} {i:Nat} {p:ByteArray × ByteArray × Int} (hp:l[i]? = some p) (h:okP p=false):l.all okP=false:=by
 rw [List.all_eq_false]; exact ⟨p,List.mem_of_getElem? hp,by rw [h]; decide⟩
theorem Ztg {l:List (ByteArray × ByteArray × Int)} {i:Nat} (h:∀ j p,j < i→l[j]? = some p→okP p=true) (hi:¬ i < l.length):l.all okP=true:=by
 rw [List.all_eq_true]
 intro p hp
 obtain ⟨j,hj,rfl⟩:=List.getElem_of_mem hp
 exact h j _ (by omega) (List.getElem?_eq_getElem hj)
theorem Zse {l:List (ByteArray × ByteArray × Int)} {i:Nat} {p:ByteArray × ByteArray × Int} (h:∀ j p,j < i→l[j]? = some p→okP p=true) (hp:l[i]? = some p) (hk:okP p=true):∀ j p,j < i + 1→l[j]? = some p→okP p=true:=fun j q hj hq=>by
 by_cases e:j=i
 ·subst e; rw [hp] at hq; injection hq with hq; subst hq; exact hk
 ·exact h j q (by omega) hq
end Go.Proofs.YtbgkofgoeoiciaaGreatDoor

namespace Go.Proofs.YtbgkofgoeoiciaaGreatDoor
open Go.RowKit
theorem Zpc {p:ByteArray × ByteArray × Int} (h:okP p=true):(bytes p.1).length≤40∧(bytes p.2.1).length≤40:=by
 unfold okP at h
 rw [Bool.and_eq_true,decide_eq_true_eq,decide_eq_true_eq] at h
 rw [Zav,Zav]; omega
section
variable {a b a' b' a'' b'':ByteArray} {d d' d'':Int}
theorem Zsf (h:[(a,b,d),(a',b',d')].all okP=true):(bytes a).length≤40∧(bytes b).length≤40∧(bytes a').length≤40∧(bytes b').length≤40:=by
 simp only [List.all_cons,List.all_nil,Bool.and_true,Bool.and_eq_true] at h
 have h1:=Zpc h.1; have h2:=Zpc h.2
 exact ⟨h1.1,h1.2,h2.1,h2.2⟩
end
theorem Zgi (x:Int):(x != x)=false:=by simp
theorem Zud:SqF (8:Int).toNat 2 2:=⟨by decide,by decide,Zgh.free⟩
theorem ZpR:ZaH [48]=some 0:=ZfM.2 (ZcW (n:=0) (by decide) (by decide) (by decide))
theorem ZpS:ZaH [49]=some 1:=ZfM.2 (ZcW (n:=1) (by decide) (by decide) (by decide))
theorem Zue:ZaH [51]=some 3:=ZfM.2 (ZcW (n:=3) (by decide) (by decide) (by decide))
theorem ZtX:ZaH [45,50]=some (-2):=ZfM.2 (ZlZ (n:=2) (by decide) (by decide) (by decide) (by decide))
theorem ZtY:(tB (0:Rat))=⟨#[48]⟩:=by show (⟨(Zad 0).toArray⟩:ByteArray)=_; rw [ZcW (q:=0) (n:=0) (by decide) (by decide) (by decide)]; rfl
theorem ZtZ:(tB (1:Rat))=⟨#[49]⟩:=by show (⟨(Zad 1).toArray⟩:ByteArray)=_; rw [ZcW (q:=1) (n:=1) (by decide) (by decide) (by decide)]; rfl
theorem Zrh:(tB (2:Rat))=⟨#[50]⟩:=by show (⟨(Zad 2).toArray⟩:ByteArray)=_; rw [ZcW (q:=2) (n:=2) (by decide) (by decide) (by decide)]; rfl
theorem Zuf:okS ⟨2,0,1⟩=.tuple #[.agg #[.string ⟨#[50]⟩, .string ⟨#[48]⟩, .int .i64 1], .int .i64 0]:=by
 show Value.tuple #[.agg #[.string (tB 2), .string (tB 0), .int .i64 1], .int .i64 0]=_
 rw [Zrh,ZtY]
theorem Zky:Dq 1 1:=⟨by decide,by decide⟩
theorem Zug:okS (nv 1 (1 * ((2:Int):Rat)) 2)=.tuple #[.agg #[.string ⟨#[49]⟩, .string ⟨#[50]⟩, .int .i64 2], .int .i64 0]:=by
 have h:(1:Rat) * ((2:Int):Rat)=2:=by decide +kernel
 rw [h,Zgg _ _ (by decide)]
 show Value.tuple #[.agg #[.string (tB 1), .string (tB 2), .int .i64 2], .int .i64 0]=_
 rw [ZtZ,Zrh]
theorem Zuh:TIs ⟨#[51]⟩ ⟨#[45,50]⟩ 2 ⟨3,-2,2⟩ 1:=by
 have h:rdS (bytes ⟨#[51]⟩) (bytes ⟨#[45,50]⟩) 2=some ⟨3,-2,2⟩:=ZeR Zue ZtX (Or.inr ⟨by decide,by decide,by decide,Zgh.free⟩)
 exact ⟨h,by decide,⟨⟨by decide,by decide⟩,⟨by decide,by decide⟩,by decide,by decide⟩⟩
theorem Zst:TIs ⟨#[48]⟩ ⟨#[49]⟩ 2 ⟨0,1,2⟩ 1:=by
 have h:rdS (bytes ⟨#[48]⟩) (bytes ⟨#[49]⟩) 2=some ⟨0,1,2⟩:=ZeR ZpR ZpS (Or.inr ⟨by decide,by decide,by decide,Zgh.free⟩)
 exact ⟨h,by decide,⟨⟨by decide,by decide⟩,⟨by decide,by decide⟩,by decide,by decide⟩⟩
theorem ZdS:Dq (-1) 1:=⟨by decide,by decide⟩
theorem tz0:TIs ⟨#[48]⟩ ⟨#[48]⟩ 1 ⟨0,0,1⟩ 1:=by
 have h:rdS (bytes ⟨#[48]⟩) (bytes ⟨#[48]⟩) 1=some ⟨0,0,1⟩:=ZeR ZpR ZpR (Or.inl ⟨rfl,rfl⟩)
 exact ⟨h,by decide,⟨⟨by decide,by decide⟩,⟨by decide,by decide⟩,by decide,by decide⟩⟩
theorem Zsg:Sd.times ⟨0,1,2⟩ ⟨0,1,2⟩=⟨2,0,1⟩:=by
 have h1:(0:Rat) * 0 + 1 * 1 * ((max (2:Int) 2:Int):Rat)=2:=by decide +kernel
 have h2:(0:Rat) * 1 + 1 * 0=0:=by decide +kernel
 unfold Sd.times
 simp only []
 rw [h1,h2,Zc5]
theorem Zri (gb n:Nat) (l:List (ByteArray × ByteArray × Int)) (w:World) (hB:Blk 23 w gb (ZeE l).toArray) (hl:l.length=n) (hn:n≤1000) (r:Bool) (hr:l.all okP=r) :
 Calls Tryz.prog 15 #[.slice (some ⟨gb,0,none⟩) n n] w (RetV w (.bool r)):=by
 refine Zan (Φ:=fun w=>Blk 23 w gb (ZeE l).toArray) Tryz.func15 rfl (by kernel_rfl) (fun w' hf=>hB.ext hf) ?_
 refine Zac (Zab (xr 1 [eS1 0 (some ⟨gb,0,none⟩) n n,(2, .v (.bool false))] [] ?_))
 refine xe (Zaa (Zac (Zac (Zab (xr 1 [eS1 0 (some ⟨gb,0,none⟩) n n,(2, .v (.bool false)),(3, .v (.int .i64 0))] [] ?_)))))
 refine xe (Zaa (ZaK ?_))
 refine SXc.weak [(0, .v (.slice (some ⟨gb,0,none⟩) n n)),(3, .v (.int .i64 ((0:Nat):Int)))] [] (Ψ:=fun w=>Blk 23 w gb (ZeE l).toArray) (ZbT.of (by kernel_rfl)) (by kernel_rfl) (fun w Q=>Q) ?_
 refine ZgE (fun nn ss ff=>∃ (i:Nat),ss=ofL [(0, .v (.slice (some ⟨gb,0,none⟩) n n)),(3, .v (.int .i64 ((i:Nat):Int)))] []∧ff=(fun w=>Blk 23 w gb (ZeE l).toArray)∧(i≤n)∧(∀ j p,j < i→l[j]? = some p→okP p=true)∧nn=(1 + n - i)) ((1 + n - 0)) ⟨0,rfl,rfl,(by omega),(fun j p hj=>by omega),rfl⟩ ?_
 rintro nn ss ff ⟨i,rfl,rfl,hi,hS,rfl⟩
 refine Zac (Zac (Zab (xr 4 [eS1 0 (some ⟨gb,0,none⟩) n n,(3, .v (.int .i64 ((i:Nat):Int))),(7, .v (.bool (decide (((i:Nat):Int) < ((n:Nat):Int)))))] [] ?_)))
 refine xe (Zaa ?_)
 refine Zbb ((decide (((i:Nat):Int) < ((n:Nat):Int)))) (by kernel_rfl) (fun hb10=>?_) (fun hb10=>?_)
 ·have hlt:i < n:=by have:=of_decide_eq_true hb10; omega
  obtain ⟨p,hp⟩:∃ p,l[i]? = some p:=⟨_,List.getElem?_eq_getElem (by omega)⟩
  refine ZaA (Zaa (Zac (ZaK (Zac ?_))))
  refine Zg3 13 [0,0,3,7,15,0,0,96,224,480,1023,2047,4095] (by kernel_rfl) (by kernel_rfl) Zal ?_
  refine xf 2 [eS1 0 (some ⟨gb,0,none⟩) n n,(3, .v (.int .i64 ((i:Nat):Int))),eS1 10 (some ⟨gb,0,none⟩) n n,(11, .v (.int .i64 ((i:Nat):Int)))] [] ?_
  refine xm 12 (.pointer (some ⟨gb,i * 3,none⟩)) (fun w Q=>Zl6 (g:=gb) (len:=n) (cap:=n) (i:=i) (x:=.tmp 10) (ix:=.tmp 11) (e:=23) (t:=86) (by kernel_rfl) (by kernel_rfl) (by kernel_rfl) (by kernel_rfl) (by kernel_rfl) hlt) ?_
  refine xf 1 [eS1 0 (some ⟨gb,0,none⟩) n n,(3, .v (.int .i64 ((i:Nat):Int))),(13, .v (.pointer (some ⟨gb,i * 3,none⟩)))] [] ?_
  refine xm 14 (.string p.1) (fun w Q=>Zi6 (x:=.tmp 13) (t:=9) (g:=gb) (off:=i * 3) (by kernel_rfl) (by kernel_rfl) (by kernel_rfl) (Zpb Q hp).1) ?_
  refine xf 2 [eS1 0 (some ⟨gb,0,none⟩) n n,(3, .v (.int .i64 ((i:Nat):Int))),(14, .v (.string p.1)),eS1 15 (some ⟨gb,0,none⟩) n n,(16, .v (.int .i64 ((i:Nat):Int)))] [] ?_
  refine xm 17 (.pointer (some ⟨gb,i * 3,none⟩)) (fun w Q=>Zl6 (g:=gb) (len:=n) (cap:=n) (i:=i) (x:=.tmp 15) (ix:=.tmp 16) (e:=23) (t:=86) (by kernel_rfl) (by kernel_rfl) (by kernel_rfl) (by kernel_rfl) (by kernel_rfl) hlt) ?_
  refine xf 1 [eS1 0 (some ⟨gb,0,none⟩) n n,(3, .v (.int .i64 ((i:Nat):Int))),(14, .v (.string p.1)),(18, .v (.pointer (some ⟨gb,i * 3 + 1,none⟩)))] [] ?_
  refine xm 19 (.string p.2.1) (fun w Q=>Zi6 (x:=.tmp 18) (t:=9) (g:=gb) (off:=i * 3 + 1) (by kernel_rfl) (by kernel_rfl) (by kernel_rfl) (Zpb Q hp).2) ?_
  refine xf 0 [eS1 0 (some ⟨gb,0,none⟩) n n,(3, .v (.int .i64 ((i:Nat):Int))),(14, .v (.string p.1)),(19, .v (.string p.2.1))] [] ?_
  refine Zs3 20 (fun zb:Nat=>.slice (some ⟨zb,0,none⟩) 2 2) (fun zb zw=>Blk 9 zw zb #[.string p.1, .string p.2.1]) (by kernel_rfl) (by kernel_rfl) (by kernel_rfl) (by kernel_rfl) (by kernel_rfl) (by kernel_rfl) (by kernel_rfl) (fun w R Q=>Zi5 (t:=111) (e:=9) (n:=2) (sz:=1) (z:=.string ⟨#[]⟩) (parts:=#[(0,Operand.tmp 14),(1,Operand.tmp 19)]) (by kernel_rfl) (by kernel_rfl) (by kernel_rfl) (by kernel_rfl) (by kernel_rfl) (by kernel_rfl)) (fun b11=>?_)
  refine xf 0 [eS1 0 (some ⟨gb,0,none⟩) n n,(3, .v (.int .i64 ((i:Nat):Int))),eS1 20 (some ⟨b11,0,none⟩) 2 2] [] ?_
  obtain ⟨b,hb⟩:∃ b,okP p=b:=⟨_,rfl⟩
  refine xd 16 [.int .i64 40, .slice (some ⟨b11,0,none⟩) 2 2] 21 (fun _:Unit=>.bool b) _ (fun w R Q=>(ZtC Q.2 ((ZtV p).trans hb)).mono (fun _ _ h=>Zaf h rfl)) (fun xx=>?_)
  rcases b with _ | _
  ·refine xf 1 [eS1 0 (some ⟨gb,0,none⟩) n n,(3, .v (.int .i64 ((i:Nat):Int))),(22, .v (.bool true))] [] ?_
   refine xz (xe (Zaa (xa (Zac (Zab (xr 1 [eS1 0 (some ⟨gb,0,none⟩) n n,(2, .v (.bool false)),(3, .v (.int .i64 ((i:Nat):Int)))] [] ?_))))))
   refine xe (Zaa (Zah (ZaM (Zaj (Zaj (ZaM (Zaj ?_)))))))
   refine Zae (v:=.bool false) (by kernel_rfl) (fun w' R Q=>?_)
   exact ⟨by rw [← hr,ZtW hp hb],R⟩
  ·refine xf 1 [eS1 0 (some ⟨gb,0,none⟩) n n,(3, .v (.int .i64 ((i:Nat):Int))),(22, .v (.bool false))] [] ?_
   refine xz (xe (Zaa (xb (ZaA (ZcB (Zaa (Zab (xr 2 [eS1 0 (some ⟨gb,0,none⟩) n n,(3, .v (.int .i64 ((i:Nat):Int))),(9, .v (.int .i64 (IntKind.i64.wrap (((i:Nat):Int) + 1))))] [] ?_))))))))
   rw [ninc (by omega)]
   refine xr 1 [eS1 0 (some ⟨gb,0,none⟩) n n,(3, .v (.int .i64 ((i + 1:Nat):Int)))] [] ?_
   refine xe ?_
   refine SXq.weak [(0, .v (.slice (some ⟨gb,0,none⟩) n n)),(3, .v (.int .i64 (((i + 1):Nat):Int)))] [] (Ψ:=fun w=>Blk 23 w gb (ZeE l).toArray) (ZbT.of (by kernel_rfl)) (by kernel_rfl) (fun w Q=>Q.1.1) ?_
   exact ZfP ((1 + n - (i + 1))) (by omega) ⟨(i + 1),rfl,rfl,(by omega),(Zse hS hp hb),rfl⟩
 ·have hge:¬ i < l.length:=by have:=of_decide_eq_false hb10; omega
  refine Zfm (Zbq (Zbq (ZgB (Zaa (Zac (Zab (xr 1 [(2, .v (.bool true))] [] ?_)))))))
  refine xe (Zaa (Zah ?_))
  refine Zae (v:=.bool true) (by kernel_rfl) (fun w' R Q=>?_)
  exact ⟨by rw [← hr,Ztg hS hge],R⟩
theorem Zth (w:World) (hg:Glob w) :
 Calls Tryz.prog 18 #[.string ⟨#[49]⟩, .string ⟨#[49]⟩, .int .i64 8] w (RetV w (.tuple #[.agg #[.string ⟨#[49]⟩, .string ⟨#[50]⟩, .int .i64 2], .int .i64 0])):=by
 refine Zan (Φ:=fun w=>Glob w) Tryz.func18 rfl (by kernel_rfl) (fun w' hf=>hg.ext hf) ?_
 refine Zac (Zab (xr 2 [(0, .v (.string ⟨#[49]⟩)),(1, .v (.string ⟨#[49]⟩)),(2, .v (.int .i64 8)),(6, .p 6 0),(7, .v (.int .i64 0))] [bS3 6 23 ⟨#[]⟩ ⟨#[]⟩ 0] ?_))
 refine xe (Zaa (Zac (Zab (xr 1 [(1, .v (.string ⟨#[49]⟩)),(2, .v (.int .i64 8)),(6, .p 6 0),(7, .v (.int .i64 0)),(15, .v (.string ⟨#[49]⟩))] [bS3 6 23 ⟨#[]⟩ ⟨#[]⟩ 0] ?_))))
 refine xc 92 [.string ⟨#[49]⟩] 16 (fun x:ShQ=>.tuple #[Zak x, .bool true]) _ (fun w R Q=>(Zd6 ⟨#[49]⟩ _ Q (ZdW.of_len (by decide))).mono (fun _ _ h=>ZdP h ZpS)) (fun X10=>?_)
 refine xr 6 [(1, .v (.string ⟨#[49]⟩)),(2, .v (.int .i64 8)),(6, .p 6 0),(7, .v (.int .i64 0)),(8, .p 8 0),(9, .v (.bool true))] [bQ 8 116 X10,bS3 6 23 ⟨#[]⟩ ⟨#[]⟩ 0] ?_
 refine xe (Zaa (Zac (Zab (xr 1 [(2, .v (.int .i64 8)),(6, .p 6 0),(7, .v (.int .i64 0)),(8, .p 8 0),(9, .v (.bool true)),(20, .v (.string ⟨#[49]⟩))] [bQ 8 116 X10,bS3 6 23 ⟨#[]⟩ ⟨#[]⟩ 0] ?_))))
 refine xc 92 [.string ⟨#[49]⟩] 21 (fun x:ShQ=>.tuple #[Zak x, .bool true]) _ (fun w R Q=>(Zd6 ⟨#[49]⟩ _ Q.1 (ZdW.of_len (by decide))).mono (fun _ _ h=>ZdP h ZpS)) (fun X11=>?_)
 refine xr 6 [(2, .v (.int .i64 8)),(6, .p 6 0),(7, .v (.int .i64 0)),(8, .p 8 0),(9, .v (.bool true)),(10, .p 10 0),(11, .v (.bool true))] [bQ 10 116 X11,bQ 8 116 X10,bS3 6 23 ⟨#[]⟩ ⟨#[]⟩ 0] ?_
 refine xe (Zaa (Zac (ZaK (Zac (Zab (xr 7 [(2, .v (.int .i64 8)),(6, .p 6 0),(7, .v (.int .i64 0)),(8, .p 8 0),(10, .p 10 0),(24, .v (.bool false))] [bQ 10 116 X11,bQ 8 116 X10,bS3 6 23 ⟨#[]⟩ ⟨#[]⟩ 0] ?_))))))
 refine xe (Zaa (xb (Zac (Zab (xr 7 [(2, .v (.int .i64 8)),(6, .p 6 0),(7, .v (.int .i64 0)),(8, .p 8 0),(10, .p 10 0),(32, .v (.bool false))] [bQ 10 116 X11,bQ 8 116 X10,bS3 6 23 ⟨#[]⟩ ⟨#[]⟩ 0] ?_)))))
 refine xe (Zaa (xb (Zac (Zab (xr 3 [(2, .v (.int .i64 8)),(6, .p 6 0),(7, .v (.int .i64 0)),(8, .p 8 0),(10, .p 10 0),(40, .v (.bool false))] [bQ 10 116 X11,bQ 8 116 X10,bS3 6 23 ⟨#[]⟩ ⟨#[]⟩ 0] ?_)))))
 refine xe (Zaa (xb (ZaA (ZcB (Zaa (Zac (Zab (xr 1 [(6, .p 6 0),(7, .v (.int .i64 0)),(8, .p 8 0),(10, .p 10 0),(47, .v (.int .i64 8))] [bQ 10 116 X11,bQ 8 116 X10,bS3 6 23 ⟨#[]⟩ ⟨#[]⟩ 0] ?_))))))))
 refine xc 95 [.int .i64 8] 48 (fun _:Unit=>.tuple #[.int .i64 2, .int .i64 2]) _ (fun w R Q=>(ZfU 8 2 2 _ (by decide) (by decide) Zud).mono (fun _ _ h=>Zaf h (rfl))) (fun xx=>?_)
 refine xr 5 [(6, .p 6 0),(7, .v (.int .i64 0)),(8, .p 8 0),(10, .p 10 0),(12, .v (.int .i64 2)),(13, .v (.int .i64 2))] [bQ 10 116 X11,bQ 8 116 X10,bS3 6 23 ⟨#[]⟩ ⟨#[]⟩ 0] ?_
 refine xe (Zaa (Zac ?_))
 refine ZaE 5 (by kernel_rfl) (by kernel_rfl) Zal ?_
 refine xf 2 [(6, .p 6 0),(7, .v (.int .i64 0)),(8, .p 8 0),(10, .p 10 0),(13, .v (.int .i64 2)),eQ 51 X11,(52, .v (.int .i64 2))] [bQ 10 116 X11,bQ 8 116 X10,bS3 6 23 ⟨#[]⟩ ⟨#[]⟩ 0] ?_
 refine xd 97 [.int .i64 2] 53 Zak _ (fun w R Q=>(ZlP 2 _ (by decide) (by decide)).mono (fun _ _=>Za7)) (fun X12=>?_)
 refine xf 0 [(6, .p 6 0),(7, .v (.int .i64 0)),(8, .p 8 0),(10, .p 10 0),(13, .v (.int .i64 2)),eQ 51 X11,eQ 53 X12] [bQ 10 116 X11,bQ 8 116 X10,bS3 6 23 ⟨#[]⟩ ⟨#[]⟩ 0] ?_
 refine xd 96 [vQ X11,vQ X12] 54 Zak _ (fun w R Q=>(ZdE _ _ 1 (((2:Int):Rat)) _ Q.1.1.1.1 Q.1.1.2 Q.2 (Zky.fit (by omega)) ((Dq.int (d:=2) (k:=1) (by decide) (by decide)).fit (by omega))).mono (fun _ _=>Za7)) (fun X13=>?_)
 refine xf 1 [(6, .p 6 0),(7, .v (.int .i64 0)),(8, .p 8 0),(10, .p 10 0),(13, .v (.int .i64 2))] [bQ 10 116 X13,bQ 10 116 X11,bQ 8 116 X10,bS3 6 23 ⟨#[]⟩ ⟨#[]⟩ 0] ?_
 refine xz (xe (Zaa (Zac (Zac (Zab (xr 2 [(6, .p 6 0),(7, .v (.int .i64 0)),(8, .p 8 0),(10, .p 10 0),(13, .v (.int .i64 2)),(56, .v (.bool false))] [bQ 10 116 X13,bQ 8 116 X10,bS3 6 23 ⟨#[]⟩ ⟨#[]⟩ 0] ?_))))))
 refine xe (Zaa (xb (ZaA (Zaa (Zac (Zab (xr 3 [(6, .p 6 0),(7, .v (.int .i64 0)),eQ 62 X10,eQ 63 X13,(64, .v (.int .i64 2))] [bS3 6 23 ⟨#[]⟩ ⟨#[]⟩ 0] ?_)))))))
 refine xc 99 [vQ X10,vQ X13, .int .i64 2] 65 (shSd ((nv 1 (1 * (((2:Int):Rat))) 2).d)) _ (fun w R Q=>(Zhh _ _ 1 (1 * (((2:Int):Rat))) 2 _ Q.1.1.1.1.2 Q.2).mono (fun _ _=>ZbA)) (fun xx=>?_)
 obtain ⟨⟨s14,A14,l14,c14,t14,B14,m14,d14⟩,⟨s15,A15,l15,c15,t15,B15,m15,d15⟩⟩:=xx
 refine xr 0 [(6, .p 6 0),(7, .v (.int .i64 0)),(65, .v (.agg #[.bool s14, .slice A14 l14 c14, .bool t14, .slice B14 m14 d14, .bool s15, .slice A15 l15 c15, .bool t15, .slice B15 m15 d15, .int .i64 ((nv 1 (1 * (((2:Int):Rat))) 2).d)]))] [bS3 6 23 ⟨#[]⟩ ⟨#[]⟩ 0] ?_
 refine xc 94 [.agg #[.bool s14, .slice A14 l14 c14, .bool t14, .slice B14 m14 d14, .bool s15, .slice A15 l15 c15, .bool t15, .slice B15 m15 d15, .int .i64 ((nv 1 (1 * (((2:Int):Rat))) 2).d)]] 66 (fun _:Unit=>.agg #[.string ⟨(Zad ((nv 1 (1 * (((2:Int):Rat))) 2).a)).toArray⟩, .string ⟨(Zad ((nv 1 (1 * (((2:Int):Rat))) 2).b)).toArray⟩, .int .i64 ((nv 1 (1 * (((2:Int):Rat))) 2).d)]) _ (fun w R Q=>(ZdQ _ (nv 1 (1 * (((2:Int):Rat))) 2) _ Q.1.1.1.1.1.1 (SdIs.of Q.2.1 Q.2.2) (j:=2) (Zks (k:=2) (Zky.up (by decide)) (Zky.mul (Dq.int (d:=2) (k:=1) (by decide) (by decide))) (by decide) (by decide)).a (Zks (k:=2) (Zky.up (by decide)) (Zky.mul (Dq.int (d:=2) (k:=1) (by decide) (by decide))) (by decide) (by decide)).b (by omega)).mono (fun _ _ h=>Zaf h rfl)) (fun xx=>?_)
 refine xr 2 [(6, .p 6 0),(7, .v (.int .i64 0))] [(6,23,[.v (.string ⟨(Zad ((nv 1 (1 * (((2:Int):Rat))) 2).a)).toArray⟩), .v (.string ⟨(Zad ((nv 1 (1 * (((2:Int):Rat))) 2).b)).toArray⟩), .v (.int .i64 ((nv 1 (1 * (((2:Int):Rat))) 2).d))])] ?_
 refine xe (Zaa (Zah ?_))
 refine Zae (v:=.tuple #[.agg #[.string ⟨(Zad ((nv 1 (1 * (((2:Int):Rat))) 2).a)).toArray⟩, .string ⟨(Zad ((nv 1 (1 * (((2:Int):Rat))) 2).b)).toArray⟩, .int .i64 ((nv 1 (1 * (((2:Int):Rat))) 2).d)], .int .i64 0]) (by kernel_rfl) (fun w' R Q=>?_)
 exact ⟨congrArg _ Zug,R⟩
theorem Zi7 (w:World) (hg:Glob w) :
 Calls Tryz.prog 17 #[] w (RetV w (.bool true)):=by
 refine Zan (Φ:=fun w=>Glob w) Tryz.func17 rfl (by kernel_rfl) (fun w' hf=>hg.ext hf) ?_
 refine Zac (Zab (xr 1 [(0, .v (.bool false))] [] ?_))
 refine xe (Zaa (Zac (Zab ?_)))
 refine xc 18 [.string ⟨#[49]⟩, .string ⟨#[49]⟩, .int .i64 8] 8 (fun _:Unit=>.tuple #[vS3 ⟨#[49]⟩ ⟨#[50]⟩ 2, .int .i64 0]) _ (fun w R Q=>(Zth _ Q).mono (fun _ _ h=>Zaf h (rfl))) (fun xx=>?_)
 refine xr 6 [(0, .v (.bool false)),(1, .p 1 0),(2, .v (.int .i64 0))] [bS3 1 23 ⟨#[49]⟩ ⟨#[50]⟩ 2] ?_
 refine xe (Zaa (Zac (Zab (xr 1 [(0, .v (.bool false)),(1, .p 1 0),(2, .v (.int .i64 0)),eS3 12 ⟨#[51]⟩ ⟨#[45,50]⟩ 2] [bS3 1 23 ⟨#[49]⟩ ⟨#[50]⟩ 2] ?_))))
 refine xc 25 [vS3 ⟨#[51]⟩ ⟨#[45,50]⟩ 2] 13 (fun _:Unit=>.tuple #[.int .i64 1, .int .i64 0]) _ (fun w R Q=>(Zub Q.1 Zuh (show Sd.sgn ⟨3,-2,2⟩=1 by decide +kernel) (by decide)).mono (fun _ _ h=>Zaf h (rfl))) (fun xx=>?_)
 refine xr 5 [(0, .v (.bool false)),(1, .p 1 0),(2, .v (.int .i64 0)),(3, .v (.int .i64 1)),(4, .v (.int .i64 0))] [bS3 1 23 ⟨#[49]⟩ ⟨#[50]⟩ 2] ?_
 refine xe (Zaa (Zac (Zab (xr 2 [(0, .v (.bool false)),(1, .p 1 0),(2, .v (.int .i64 0)),(3, .v (.int .i64 1)),(4, .v (.int .i64 0)),eS3 17 ⟨#[48]⟩ ⟨#[49]⟩ 2,eS3 18 ⟨#[48]⟩ ⟨#[49]⟩ 2] [bS3 1 23 ⟨#[49]⟩ ⟨#[50]⟩ 2] ?_))))
 refine xc 31 [vS3 ⟨#[48]⟩ ⟨#[49]⟩ 2,vS3 ⟨#[48]⟩ ⟨#[49]⟩ 2] 19 (fun _:Unit=>.tuple #[vS3 ⟨#[50]⟩ ⟨#[48]⟩ 1, .int .i64 0]) _ (fun w R Q=>(lMul Q.1.1 Zst Zst (Or.inr (Or.inr rfl)) (show Sd.times ⟨0,1,2⟩ ⟨0,1,2⟩=⟨2,0,1⟩ from Zsg) (by decide)).mono (fun _ _ h=>Zaf h (Zuf))) (fun xx=>?_)
 refine xr 6 [(0, .v (.bool false)),(1, .p 1 0),(2, .v (.int .i64 0)),(3, .v (.int .i64 1)),(4, .v (.int .i64 0)),(5, .p 5 0),(6, .v (.int .i64 0))] [bS3 5 23 ⟨#[50]⟩ ⟨#[48]⟩ 1,bS3 1 23 ⟨#[49]⟩ ⟨#[50]⟩ 2] ?_
 refine xe (Zaa (Zac (Zab (xr 13 [(0, .v (.bool false)),(3, .v (.int .i64 1)),(5, .p 5 0),(32, .v (.bool true)),eS3 33 ⟨#[49]⟩ ⟨#[50]⟩ 2,eS3 34 ⟨#[49]⟩ ⟨#[50]⟩ 2] [bS3 5 23 ⟨#[50]⟩ ⟨#[48]⟩ 1] ?_))))
 refine xl 35 (.bool true) (fun w R Q=>Zlc ((Operand.tmp 33)) ((Operand.tmp 34)) 23 ⟨#[49]⟩ ⟨#[50]⟩ 2) ?_
 refine xr 8 [(0, .v (.bool false)),(41, .v (.bool true)),eS3 42 ⟨#[50]⟩ ⟨#[48]⟩ 1,eS3 43 ⟨#[50]⟩ ⟨#[48]⟩ 1] [] ?_
 refine xl 44 (.bool true) (fun w R Q=>Zlc ((Operand.tmp 42)) ((Operand.tmp 43)) 23 ⟨#[50]⟩ ⟨#[48]⟩ 1) ?_
 refine xr 2 [(0, .v (.bool true))] [] ?_
 refine xe (Zaa (Zah ?_))
 refine Zae (v:=.bool true) (by kernel_rfl) (fun w' R Q=>?_)
 exact ⟨rfl,R⟩
end Go.Proofs.YtbgkofgoeoiciaaGreatDoor

namespace Go.Proofs.YtbgkofgoeoiciaaGreatDoor
open Go.RowKit
theorem Zkz (a1 a2 b1 b2:ByteArray) (da db:Int) (w:World) (La:(bytes a1).length≤570∧(bytes a2).length≤570) (Lb:(bytes b1).length≤570∧(bytes b2).length≤570) (hx:rdS (bytes a1) (bytes a2) da=none∨rdS (bytes b1) (bytes b2) db=none) :
 Calls Tryz.prog 39 #[.agg #[.string a1, .string a2, .int .i64 da], .agg #[.string b1, .string b2, .int .i64 db]] w (RetV w (.tuple #[.int .i64 0, .int .i64 1])):=by
 refine Zan (Φ:=fun w=>True) Tryz.func39 rfl (by kernel_rfl) (fun w' hf=>trivial) ?_
 refine Zac (Zab (xr 4 [(2, .p 2 0),(3, .p 3 0),(4, .v (.int .i64 0)),(5, .v (.int .i64 0))] [bS3 3 23 b1 b2 db,bS3 2 23 a1 a2 da] ?_))
 refine xe (Zaa (Zac (Zab (xr 2 [(4, .v (.int .i64 0)),(5, .v (.int .i64 0)),eS3 9 a1 a2 da,eS3 10 b1 b2 db] [] ?_))))
 refine xc 34 [vS3 a1 a2 da, .string ⟨#[45,49]⟩,vS3 b1 b2 db] 11 (fun _:Unit=>.tuple #[vS3 ⟨#[]⟩ ⟨#[]⟩ 0, .int .i64 1]) _ (fun w R Q=>(ZdR a1 a2 b1 b2 da db _ La Lb ⟨#[45,49]⟩ (-1) Zb5 (by decide) ZdS hx).mono (fun _ _ h=>Zaf h (by rw [ZaX hx]))) (fun xx=>?_)
 refine xr 6 [(4, .v (.int .i64 0)),(5, .v (.int .i64 0)),(6, .p 6 0),(7, .v (.int .i64 1))] [bS3 6 23 ⟨#[]⟩ ⟨#[]⟩ 0] ?_
 refine xe (Zaa (Zac (Zac (Zab (xr 2 [(4, .v (.int .i64 0)),(5, .v (.int .i64 0)),(6, .p 6 0),(7, .v (.int .i64 1)),(15, .v (.bool true))] [bS3 6 23 ⟨#[]⟩ ⟨#[]⟩ 0] ?_)))))
 refine xe (Zaa (xa (Zac (Zab (xr 3 [(4, .v (.int .i64 0)),(5, .v (.int .i64 1)),(6, .p 6 0)] [bS3 6 23 ⟨#[]⟩ ⟨#[]⟩ 0] ?_)))))
 refine xe (Zaa (Zah (Zaj ?_)))
 refine Zae (v:=.tuple #[.int .i64 0, .int .i64 1]) (by kernel_rfl) (fun w' R Q=>?_)
 exact ⟨rfl,R⟩
theorem Zrj (a1 a2 b1 b2:ByteArray) (da db:Int) (w:World) (La:(bytes a1).length≤570∧(bytes a2).length≤570) (Lb:(bytes b1).length≤570∧(bytes b2).length≤570) {x y:Sd} (hx:rdS (bytes a1) (bytes a2) da=some x) (hy:rdS (bytes b1) (bytes b2) db=some y) (hB:¬ Blg x.d y.d) :
 Calls Tryz.prog 39 #[.agg #[.string a1, .string a2, .int .i64 da], .agg #[.string b1, .string b2, .int .i64 db]] w (RetV w (.tuple #[.int .i64 0, .int .i64 9])):=by
 refine Zan (Φ:=fun w=>True) Tryz.func39 rfl (by kernel_rfl) (fun w' hf=>trivial) ?_
 refine Zac (Zab (xr 4 [(2, .p 2 0),(3, .p 3 0),(4, .v (.int .i64 0)),(5, .v (.int .i64 0))] [bS3 3 23 b1 b2 db,bS3 2 23 a1 a2 da] ?_))
 refine xe (Zaa (Zac (Zab (xr 2 [(4, .v (.int .i64 0)),(5, .v (.int .i64 0)),eS3 9 a1 a2 da,eS3 10 b1 b2 db] [] ?_))))
 refine xc 34 [vS3 a1 a2 da, .string ⟨#[45,49]⟩,vS3 b1 b2 db] 11 (fun _:Unit=>.tuple #[vS3 ⟨#[]⟩ ⟨#[]⟩ 0, .int .i64 9]) _ (fun w R Q=>(Zih a1 a2 b1 b2 da db _ La Lb ⟨#[45,49]⟩ (-1) Zb5 (by decide) ZdS hx hy hB).mono (fun _ _ h=>Zaf h (by rw [ZbB hx hy hB]))) (fun xx=>?_)
 refine xr 6 [(4, .v (.int .i64 0)),(5, .v (.int .i64 0)),(6, .p 6 0),(7, .v (.int .i64 9))] [bS3 6 23 ⟨#[]⟩ ⟨#[]⟩ 0] ?_
 refine xe (Zaa (Zac (Zac (Zab (xr 2 [(4, .v (.int .i64 0)),(5, .v (.int .i64 0)),(6, .p 6 0),(7, .v (.int .i64 9)),(15, .v (.bool true))] [bS3 6 23 ⟨#[]⟩ ⟨#[]⟩ 0] ?_)))))
 refine xe (Zaa (xa (Zac (Zab (xr 3 [(4, .v (.int .i64 0)),(5, .v (.int .i64 9)),(6, .p 6 0)] [bS3 6 23 ⟨#[]⟩ ⟨#[]⟩ 0] ?_)))))
 refine xe (Zaa (Zah (Zaj ?_)))
 refine Zae (v:=.tuple #[.int .i64 0, .int .i64 9]) (by kernel_rfl) (fun w' R Q=>?_)
 exact ⟨rfl,R⟩
theorem Zl8 (a1 a2 b1 b2:ByteArray) (da db:Int) (w:World) {x y:Sd} (TX:TIs a1 a2 da x 40) (TY:TIs b1 b2 db y 40) (hB:Blg x.d y.d) {z:Sd} (hz:x.plus y.neg=z) :
 Calls Tryz.prog 39 #[.agg #[.string a1, .string a2, .int .i64 da], .agg #[.string b1, .string b2, .int .i64 db]] w (RetV w (.tuple #[.int .i64 z.sgn, .int .i64 0])):=by
 have ES:=ZnH TX.ok TY.ok hB
 have zz:=TX.sz.plus TY.sz.neg
 rw [hz] at zz
 have hzo:=ES.1
 rw [hz] at hzo
 have TZ:=TIs.of hzo zz (by decide) (by decide)
 have OF:=(Zq5 hzo).2.2.2
 refine Zan (Φ:=fun w=>True) Tryz.func39 rfl (by kernel_rfl) (fun w' hf=>trivial) ?_
 refine Zac (Zab (xr 4 [(2, .p 2 0),(3, .p 3 0),(4, .v (.int .i64 0)),(5, .v (.int .i64 0))] [bS3 3 23 b1 b2 db,bS3 2 23 a1 a2 da] ?_))
 refine xe (Zaa (Zac (Zab (xr 2 [(4, .v (.int .i64 0)),(5, .v (.int .i64 0)),eS3 9 a1 a2 da,eS3 10 b1 b2 db] [] ?_))))
 refine xc 34 [vS3 a1 a2 da, .string ⟨#[45,49]⟩,vS3 b1 b2 db] 11 (fun _:Unit=>.tuple #[vS3 (tB z.a) (tB z.b) z.d, .int .i64 0]) _ (fun w R Q=>(Zfi (cc:=⟨#[45,49]⟩) (c := -1) Zb5 (by decide) ZdS TX TY hB (ES.2.trans hz) (by decide)).mono (fun _ _ h=>Zaf h (rfl))) (fun xx=>?_)
 refine xr 6 [(4, .v (.int .i64 0)),(5, .v (.int .i64 0)),(6, .p 6 0),(7, .v (.int .i64 0))] [bS3 6 23 (tB z.a) (tB z.b) z.d] ?_
 refine xe (Zaa (Zac (Zac (Zab (xr 2 [(4, .v (.int .i64 0)),(5, .v (.int .i64 0)),(6, .p 6 0),(7, .v (.int .i64 0)),(15, .v (.bool false))] [bS3 6 23 (tB z.a) (tB z.b) z.d] ?_)))))
 refine xe (Zaa (xb (ZaA (Zaa (Zac (Zab (xr 1 [(4, .v (.int .i64 0)),(5, .v (.int .i64 0)),eS3 17 (tB z.a) (tB z.b) z.d] [] ?_)))))))
 refine xc 123 [vS3 (tB z.a) (tB z.b) z.d] 18 (fun _:Unit=>.tuple #[.int .i64 z.sgn, .int .i64 0]) _ (fun w R Q=>(ZtU TZ OF (by decide)).mono (fun _ _ h=>Zaf h (rfl))) (fun xx=>?_)
 refine xr 4 [(4, .v (.int .i64 z.sgn)),(5, .v (.int .i64 0))] [] ?_
 refine xe (Zaa (Zah ?_))
 refine Zae (v:=.tuple #[.int .i64 z.sgn, .int .i64 0]) (by kernel_rfl) (fun w' R Q=>?_)
 exact ⟨rfl,R⟩
structure ArV (a1 a2 b1 b2:ByteArray) (da db:Int) (v1 v2 v3 v4 v5 v6:Value):Prop where
 add:∀ w,Glob w→Calls Tryz.prog 32 #[.agg #[.string a1, .string a2, .int .i64 da], .agg #[.string b1, .string b2, .int .i64 db]] w (RetV w v1)
 add':∀ w,Calls Tryz.prog 34 #[.agg #[.string a1, .string a2, .int .i64 da], .string ⟨#[49]⟩, .agg #[.string b1, .string b2, .int .i64 db]] w (RetV w v1)
 sub:∀ w,Glob w→Calls Tryz.prog 35 #[.agg #[.string a1, .string a2, .int .i64 da], .agg #[.string b1, .string b2, .int .i64 db]] w (RetV w v2)
 sub':∀ w,Calls Tryz.prog 34 #[.agg #[.string a1, .string a2, .int .i64 da], .string ⟨#[45,49]⟩, .agg #[.string b1, .string b2, .int .i64 db]] w (RetV w v2)
 mul:∀ w,Glob w→Calls Tryz.prog 31 #[.agg #[.string a1, .string a2, .int .i64 da], .agg #[.string b1, .string b2, .int .i64 db]] w (RetV w v3)
 mul':∀ w,Calls Tryz.prog 36 #[.agg #[.string a1, .string a2, .int .i64 da], .agg #[.string b1, .string b2, .int .i64 db]] w (RetV w v3)
 div:∀ w,Glob w→Calls Tryz.prog 33 #[.agg #[.string a1, .string a2, .int .i64 da], .agg #[.string b1, .string b2, .int .i64 db]] w (RetV w v4)
 div':∀ w,Calls Tryz.prog 37 #[.agg #[.string a1, .string a2, .int .i64 da], .agg #[.string b1, .string b2, .int .i64 db]] w (RetV w v4)
 cmp:∀ w,Glob w→Calls Tryz.prog 38 #[.agg #[.string a1, .string a2, .int .i64 da], .agg #[.string b1, .string b2, .int .i64 db]] w (RetV w v5)
 cmp':∀ w,Calls Tryz.prog 39 #[.agg #[.string a1, .string a2, .int .i64 da], .agg #[.string b1, .string b2, .int .i64 db]] w (RetV w v5)
 neg:∀ w,Glob w→Calls Tryz.prog 40 #[.agg #[.string a1, .string a2, .int .i64 da]] w (RetV w v6)
 neg':∀ w,Calls Tryz.prog 34 #[.agg #[.string ⟨#[48]⟩, .string ⟨#[48]⟩, .int .i64 1], .string ⟨#[45,49]⟩, .agg #[.string a1, .string a2, .int .i64 da]] w (RetV w v6)
theorem Zii (a1 a2 b1 b2:ByteArray) (da db:Int) (w:World) (hg:Glob w) (HS:(bytes a1).length≤40∧(bytes a2).length≤40∧(bytes b1).length≤40∧(bytes b2).length≤40→∃ (p1 q1 p2 q2 p3 q3 p4 q4 p6 q6:ByteArray) (k1 n1 k2 n2 k3 n3 k4 n4 k5 n5 k6 n6:Int),ArV a1 a2 b1 b2 da db (.tuple #[.agg #[.string p1, .string q1, .int .i64 k1], .int .i64 n1]) (.tuple #[.agg #[.string p2, .string q2, .int .i64 k2], .int .i64 n2]) (.tuple #[.agg #[.string p3, .string q3, .int .i64 k3], .int .i64 n3]) (.tuple #[.agg #[.string p4, .string q4, .int .i64 k4], .int .i64 n4]) (.tuple #[.int .i64 k5, .int .i64 n5]) (.tuple #[.agg #[.string p6, .string q6, .int .i64 k6], .int .i64 n6])) :
 Calls Tryz.prog 6 #[.agg #[.string a1, .string a2, .int .i64 da], .agg #[.string b1, .string b2, .int .i64 db]] w (RetV w (.bool true)):=by
 obtain ⟨r,hr⟩:∃ r,[(a1,a2,da),(b1,b2,db)].all okP=r:=⟨_,rfl⟩
 refine Zan (Φ:=fun w=>Glob w) Tryz.func6 rfl (by kernel_rfl) (fun w' hf=>hg.ext hf) ?_
 refine Zac (Zab (xr 3 [(2, .p 2 0),(3, .p 3 0),(4, .v (.bool false))] [bS3 3 23 b1 b2 db,bS3 2 23 a1 a2 da] ?_))
 refine xe (Zaa (Zac (Zac (Zab (xr 2 [(2, .p 2 0),(3, .p 3 0),(4, .v (.bool false)),eS3 15 a1 a2 da,eS3 16 b1 b2 db] [bS3 3 23 b1 b2 db,bS3 2 23 a1 a2 da] ?_)))))
 refine ZkX (d:=17) (fun zb:Nat=>.slice (some ⟨zb,0,none⟩) 2 2) (fun zb zw=>Blk 23 zw zb #[.string a1, .string a2, .int .i64 da, .string b1, .string b2, .int .i64 db]) (by kernel_rfl) (by kernel_rfl) (by kernel_rfl) (by kernel_rfl) (by kernel_rfl) (by kernel_rfl) (fun w R Q=>Zi5 (t:=86) (e:=23) (n:=2) (sz:=3) (z:=.agg #[.string ⟨#[]⟩, .string ⟨#[]⟩, .int .i64 0]) (parts:=#[(0,Operand.tmp 15),(1,Operand.tmp 16)]) (by kernel_rfl) (by kernel_rfl) (by kernel_rfl) (by kernel_rfl) (by kernel_rfl) (by kernel_rfl)) (fun b10=>?_)
 refine xr 0 [(2, .p 2 0),(3, .p 3 0),(4, .v (.bool false)),eS1 17 (some ⟨b10,0,none⟩) 2 2] [bS3 3 23 b1 b2 db,bS3 2 23 a1 a2 da] ?_
 refine xc 15 [.slice (some ⟨b10,0,none⟩) 2 2] 18 (fun _:Unit=>.bool r) _ (fun w R Q=>(Zri _ 2 [(a1,a2,da),(b1,b2,db)] _ Q.2 rfl (by decide) r hr).mono (fun _ _ h=>Zaf h rfl)) (fun xx=>?_)
 rcases r with _ | _
 ·refine xr 1 [(2, .p 2 0),(3, .p 3 0),(4, .v (.bool false)),(19, .v (.bool true))] [bS3 3 23 b1 b2 db,bS3 2 23 a1 a2 da] ?_
  refine xe (Zaa (xa (Zac (Zab ?_))))
  refine xc 17 [] 20 (fun _:Unit=>.bool true) _ (fun w R Q=>(Zi7 _ Q.1.1).mono (fun _ _ h=>Zaf h rfl)) (fun xx=>?_)
  refine xr 1 [(2, .p 2 0),(3, .p 3 0),(4, .v (.bool true))] [bS3 3 23 b1 b2 db,bS3 2 23 a1 a2 da] ?_
  refine xe (Zaa (Zah (Zaj ?_)))
  refine Zae (v:=.bool true) (by kernel_rfl) (fun w' R Q=>?_)
  exact ⟨rfl,R⟩
 ·have HL:=Zsf hr
  obtain ⟨p1,q1,p2,q2,p3,q3,p4,q4,p6,q6,k1,n1,k2,n2,k3,n3,k4,n4,k5,n5,k6,n6,H⟩:=HS HL
  refine xr 1 [(2, .p 2 0),(3, .p 3 0),(4, .v (.bool false)),(19, .v (.bool false))] [bS3 3 23 b1 b2 db,bS3 2 23 a1 a2 da] ?_
  refine xe (Zaa (xb (ZaA (Zaa (Zac (Zab (xr 2 [(2, .p 2 0),(3, .p 3 0),(4, .v (.bool false)),eS3 22 a1 a2 da,eS3 23 b1 b2 db] [bS3 3 23 b1 b2 db,bS3 2 23 a1 a2 da] ?_)))))))
  refine xc 32 [vS3 a1 a2 da,vS3 b1 b2 db] 24 (fun _:Unit=>.tuple #[vS3 p1 q1 k1, .int .i64 n1]) _ (fun w R Q=>(H.add _ Q.1.1).mono (fun _ _ h=>Zaf h (rfl))) (fun xx=>?_)
  refine xr 6 [(2, .p 2 0),(3, .p 3 0),(4, .v (.bool false)),(5, .p 5 0),(6, .v (.int .i64 n1))] [bS3 5 23 p1 q1 k1,bS3 3 23 b1 b2 db,bS3 2 23 a1 a2 da] ?_
  refine xe (Zaa (Zac (Zab (xr 2 [(2, .p 2 0),(3, .p 3 0),(4, .v (.bool false)),(5, .p 5 0),(6, .v (.int .i64 n1)),eS3 28 a1 a2 da,eS3 29 b1 b2 db] [bS3 5 23 p1 q1 k1,bS3 3 23 b1 b2 db,bS3 2 23 a1 a2 da] ?_))))
  refine xc 34 [vS3 a1 a2 da, .string ⟨#[49]⟩,vS3 b1 b2 db] 30 (fun _:Unit=>.tuple #[vS3 p1 q1 k1, .int .i64 n1]) _ (fun w R Q=>(H.add' _).mono (fun _ _ h=>Zaf h rfl)) (fun xx=>?_)
  refine xr 6 [(2, .p 2 0),(3, .p 3 0),(4, .v (.bool false)),(5, .p 5 0),(6, .v (.int .i64 n1)),(7, .p 7 0),(8, .v (.int .i64 n1))] [bS3 7 23 p1 q1 k1,bS3 5 23 p1 q1 k1,bS3 3 23 b1 b2 db,bS3 2 23 a1 a2 da] ?_
  refine xe (Zaa (Zac (Zab (xr 2 [(2, .p 2 0),(3, .p 3 0),(4, .v (.bool false)),(5, .p 5 0),(6, .v (.int .i64 n1)),(7, .p 7 0),(8, .v (.int .i64 n1)),eS3 34 a1 a2 da,eS3 35 b1 b2 db] [bS3 7 23 p1 q1 k1,bS3 5 23 p1 q1 k1,bS3 3 23 b1 b2 db,bS3 2 23 a1 a2 da] ?_))))
  refine xc 35 [vS3 a1 a2 da,vS3 b1 b2 db] 36 (fun _:Unit=>.tuple #[vS3 p2 q2 k2, .int .i64 n2]) _ (fun w R Q=>(H.sub _ Q.1.1.1.1).mono (fun _ _ h=>Zaf h (rfl))) (fun xx=>?_)
  refine xr 6 [(2, .p 2 0),(3, .p 3 0),(4, .v (.bool false)),(5, .p 5 0),(6, .v (.int .i64 n1)),(7, .p 7 0),(8, .v (.int .i64 n1)),(9, .p 9 0),(10, .v (.int .i64 n2))] [bS3 9 23 p2 q2 k2,bS3 7 23 p1 q1 k1,bS3 5 23 p1 q1 k1,bS3 3 23 b1 b2 db,bS3 2 23 a1 a2 da] ?_
  refine xe (Zaa (Zac (Zab (xr 2 [(2, .p 2 0),(3, .p 3 0),(4, .v (.bool false)),(5, .p 5 0),(6, .v (.int .i64 n1)),(7, .p 7 0),(8, .v (.int .i64 n1)),(9, .p 9 0),(10, .v (.int .i64 n2)),eS3 40 a1 a2 da,eS3 41 b1 b2 db] [bS3 9 23 p2 q2 k2,bS3 7 23 p1 q1 k1,bS3 5 23 p1 q1 k1,bS3 3 23 b1 b2 db,bS3 2 23 a1 a2 da] ?_))))
  refine xc 34 [vS3 a1 a2 da, .string ⟨#[45,49]⟩,vS3 b1 b2 db] 42 (fun _:Unit=>.tuple #[vS3 p2 q2 k2, .int .i64 n2]) _ (fun w R Q=>(H.sub' _).mono (fun _ _ h=>Zaf h rfl)) (fun xx=>?_)
  refine xr 6 [(2, .p 2 0),(3, .p 3 0),(4, .v (.bool false)),(5, .p 5 0),(6, .v (.int .i64 n1)),(7, .p 7 0),(8, .v (.int .i64 n1)),(9, .p 9 0),(10, .v (.int .i64 n2)),(11, .p 11 0),(12, .v (.int .i64 n2))] [bS3 11 23 p2 q2 k2,bS3 9 23 p2 q2 k2,bS3 7 23 p1 q1 k1,bS3 5 23 p1 q1 k1,bS3 3 23 b1 b2 db,bS3 2 23 a1 a2 da] ?_
  refine xe (Zaa (Zac (Zac (Zab (xr 2 [(2, .p 2 0),(3, .p 3 0),(4, .v (.bool false)),(5, .p 5 0),(6, .v (.int .i64 n1)),(7, .p 7 0),(8, .v (.int .i64 n1)),(9, .p 9 0),(10, .v (.int .i64 n2)),(11, .p 11 0),(12, .v (.int .i64 n2)),eS3 45 p1 q1 k1,eS3 46 p1 q1 k1] [bS3 11 23 p2 q2 k2,bS3 9 23 p2 q2 k2,bS3 7 23 p1 q1 k1,bS3 5 23 p1 q1 k1,bS3 3 23 b1 b2 db,bS3 2 23 a1 a2 da] ?_)))))
  refine xl 47 (.bool false) (fun w R Q=>ZiD ((Operand.tmp 45)) ((Operand.tmp 46)) 23 p1 q1 k1) ?_
  refine xr 4 [(2, .p 2 0),(3, .p 3 0),(4, .v (.bool false)),(5, .p 5 0),(6, .v (.int .i64 n1)),(7, .p 7 0),(8, .v (.int .i64 n1)),(9, .p 9 0),(10, .v (.int .i64 n2)),(11, .p 11 0),(12, .v (.int .i64 n2)),(48, .v (.bool false)),(51, .v (.bool ((n1:Int) != n1)))] [bS3 11 23 p2 q2 k2,bS3 9 23 p2 q2 k2,bS3 7 23 p1 q1 k1,bS3 5 23 p1 q1 k1,bS3 3 23 b1 b2 db,bS3 2 23 a1 a2 da] ?_
  rw [Zgi]
  refine xr 4 [(2, .p 2 0),(3, .p 3 0),(4, .v (.bool false)),(5, .p 5 0),(6, .v (.int .i64 n1)),(7, .p 7 0),(8, .v (.int .i64 n1)),(9, .p 9 0),(10, .v (.int .i64 n2)),(11, .p 11 0),(12, .v (.int .i64 n2)),(53, .v (.bool false)),eS3 54 p2 q2 k2,eS3 55 p2 q2 k2] [bS3 11 23 p2 q2 k2,bS3 9 23 p2 q2 k2,bS3 7 23 p1 q1 k1,bS3 5 23 p1 q1 k1,bS3 3 23 b1 b2 db,bS3 2 23 a1 a2 da] ?_
  refine xl 56 (.bool false) (fun w R Q=>ZiD ((Operand.tmp 54)) ((Operand.tmp 55)) 23 p2 q2 k2) ?_
  refine xr 5 [(2, .p 2 0),(3, .p 3 0),(4, .v (.bool false)),(5, .p 5 0),(6, .v (.int .i64 n1)),(7, .p 7 0),(8, .v (.int .i64 n1)),(9, .p 9 0),(10, .v (.int .i64 n2)),(11, .p 11 0),(12, .v (.int .i64 n2)),(58, .v (.bool false)),(61, .v (.bool ((n2:Int) != n2)))] [bS3 11 23 p2 q2 k2,bS3 9 23 p2 q2 k2,bS3 7 23 p1 q1 k1,bS3 5 23 p1 q1 k1,bS3 3 23 b1 b2 db,bS3 2 23 a1 a2 da] ?_
  rw [Zgi]
  refine xr 1 [(2, .p 2 0),(3, .p 3 0),(4, .v (.bool false)),(5, .p 5 0),(6, .v (.int .i64 n1)),(7, .p 7 0),(8, .v (.int .i64 n1)),(9, .p 9 0),(10, .v (.int .i64 n2)),(11, .p 11 0),(12, .v (.int .i64 n2)),(62, .v (.bool false))] [bS3 11 23 p2 q2 k2,bS3 9 23 p2 q2 k2,bS3 7 23 p1 q1 k1,bS3 5 23 p1 q1 k1,bS3 3 23 b1 b2 db,bS3 2 23 a1 a2 da] ?_
  refine xe (Zaa (xb (ZaA (Zaa (Zac (Zab (xr 2 [(2, .p 2 0),(3, .p 3 0),(4, .v (.bool false)),(5, .p 5 0),(6, .v (.int .i64 n1)),(7, .p 7 0),(8, .v (.int .i64 n1)),(9, .p 9 0),(10, .v (.int .i64 n2)),(11, .p 11 0),(12, .v (.int .i64 n2)),eS3 64 a1 a2 da,eS3 65 b1 b2 db] [bS3 11 23 p2 q2 k2,bS3 9 23 p2 q2 k2,bS3 7 23 p1 q1 k1,bS3 5 23 p1 q1 k1,bS3 3 23 b1 b2 db,bS3 2 23 a1 a2 da] ?_)))))))
  refine xc 31 [vS3 a1 a2 da,vS3 b1 b2 db] 66 (fun _:Unit=>.tuple #[vS3 p3 q3 k3, .int .i64 n3]) _ (fun w R Q=>(H.mul _ Q.1.1.1.1.1.1).mono (fun _ _ h=>Zaf h (rfl))) (fun xx=>?_)
  refine xr 5 [(2, .p 2 0),(3, .p 3 0),(4, .v (.bool false)),(5, .p 5 0),(6, .v (.int .i64 n3)),(7, .p 7 0),(8, .v (.int .i64 n1)),(9, .p 9 0),(10, .v (.int .i64 n2)),(11, .p 11 0),(12, .v (.int .i64 n2))] [bS3 11 23 p2 q2 k2,bS3 9 23 p2 q2 k2,bS3 7 23 p1 q1 k1,bS3 5 23 p3 q3 k3,bS3 3 23 b1 b2 db,bS3 2 23 a1 a2 da] ?_
  refine xe (Zaa (Zac (Zab (xr 2 [(2, .p 2 0),(3, .p 3 0),(4, .v (.bool false)),(5, .p 5 0),(6, .v (.int .i64 n3)),(7, .p 7 0),(8, .v (.int .i64 n1)),(9, .p 9 0),(10, .v (.int .i64 n2)),(11, .p 11 0),(12, .v (.int .i64 n2)),eS3 70 a1 a2 da,eS3 71 b1 b2 db] [bS3 11 23 p2 q2 k2,bS3 9 23 p2 q2 k2,bS3 7 23 p1 q1 k1,bS3 5 23 p3 q3 k3,bS3 3 23 b1 b2 db,bS3 2 23 a1 a2 da] ?_))))
  refine xc 36 [vS3 a1 a2 da,vS3 b1 b2 db] 72 (fun _:Unit=>.tuple #[vS3 p3 q3 k3, .int .i64 n3]) _ (fun w R Q=>(H.mul' _).mono (fun _ _ h=>Zaf h (rfl))) (fun xx=>?_)
  refine xr 5 [(2, .p 2 0),(3, .p 3 0),(4, .v (.bool false)),(5, .p 5 0),(6, .v (.int .i64 n3)),(7, .p 7 0),(8, .v (.int .i64 n3)),(9, .p 9 0),(10, .v (.int .i64 n2)),(11, .p 11 0),(12, .v (.int .i64 n2))] [bS3 11 23 p2 q2 k2,bS3 9 23 p2 q2 k2,bS3 7 23 p3 q3 k3,bS3 5 23 p3 q3 k3,bS3 3 23 b1 b2 db,bS3 2 23 a1 a2 da] ?_
  refine xe (Zaa (Zac (Zab (xr 2 [(2, .p 2 0),(3, .p 3 0),(4, .v (.bool false)),(5, .p 5 0),(6, .v (.int .i64 n3)),(7, .p 7 0),(8, .v (.int .i64 n3)),(9, .p 9 0),(10, .v (.int .i64 n2)),(11, .p 11 0),(12, .v (.int .i64 n2)),eS3 76 a1 a2 da,eS3 77 b1 b2 db] [bS3 11 23 p2 q2 k2,bS3 9 23 p2 q2 k2,bS3 7 23 p3 q3 k3,bS3 5 23 p3 q3 k3,bS3 3 23 b1 b2 db,bS3 2 23 a1 a2 da] ?_))))
  refine xc 33 [vS3 a1 a2 da,vS3 b1 b2 db] 78 (fun _:Unit=>.tuple #[vS3 p4 q4 k4, .int .i64 n4]) _ (fun w R Q=>(H.div _ Q.1.1.1.1.1.1.1.1).mono (fun _ _ h=>Zaf h (rfl))) (fun xx=>?_)
  refine xr 5 [(2, .p 2 0),(3, .p 3 0),(4, .v (.bool false)),(5, .p 5 0),(6, .v (.int .i64 n3)),(7, .p 7 0),(8, .v (.int .i64 n3)),(9, .p 9 0),(10, .v (.int .i64 n4)),(11, .p 11 0),(12, .v (.int .i64 n2))] [bS3 11 23 p2 q2 k2,bS3 9 23 p4 q4 k4,bS3 7 23 p3 q3 k3,bS3 5 23 p3 q3 k3,bS3 3 23 b1 b2 db,bS3 2 23 a1 a2 da] ?_
  refine xe (Zaa (Zac (Zab (xr 2 [(2, .p 2 0),(3, .p 3 0),(4, .v (.bool false)),(5, .p 5 0),(6, .v (.int .i64 n3)),(7, .p 7 0),(8, .v (.int .i64 n3)),(9, .p 9 0),(10, .v (.int .i64 n4)),(11, .p 11 0),(12, .v (.int .i64 n2)),eS3 82 a1 a2 da,eS3 83 b1 b2 db] [bS3 11 23 p2 q2 k2,bS3 9 23 p4 q4 k4,bS3 7 23 p3 q3 k3,bS3 5 23 p3 q3 k3,bS3 3 23 b1 b2 db,bS3 2 23 a1 a2 da] ?_))))
  refine xc 37 [vS3 a1 a2 da,vS3 b1 b2 db] 84 (fun _:Unit=>.tuple #[vS3 p4 q4 k4, .int .i64 n4]) _ (fun w R Q=>(H.div' _).mono (fun _ _ h=>Zaf h (rfl))) (fun xx=>?_)
  refine xr 5 [(2, .p 2 0),(3, .p 3 0),(4, .v (.bool false)),(5, .p 5 0),(6, .v (.int .i64 n3)),(7, .p 7 0),(8, .v (.int .i64 n3)),(9, .p 9 0),(10, .v (.int .i64 n4)),(11, .p 11 0),(12, .v (.int .i64 n4))] [bS3 11 23 p4 q4 k4,bS3 9 23 p4 q4 k4,bS3 7 23 p3 q3 k3,bS3 5 23 p3 q3 k3,bS3 3 23 b1 b2 db,bS3 2 23 a1 a2 da] ?_
  refine xe (Zaa (Zac (Zac (Zab (xr 2 [(2, .p 2 0),(3, .p 3 0),(4, .v (.bool false)),(5, .p 5 0),(6, .v (.int .i64 n3)),(7, .p 7 0),(8, .v (.int .i64 n3)),(9, .p 9 0),(10, .v (.int .i64 n4)),(11, .p 11 0),(12, .v (.int .i64 n4)),eS3 87 p3 q3 k3,eS3 88 p3 q3 k3] [bS3 11 23 p4 q4 k4,bS3 9 23 p4 q4 k4,bS3 7 23 p3 q3 k3,bS3 5 23 p3 q3 k3,bS3 3 23 b1 b2 db,bS3 2 23 a1 a2 da] ?_)))))
  refine xl 89 (.bool false) (fun w R Q=>ZiD ((Operand.tmp 87)) ((Operand.tmp 88)) 23 p3 q3 k3) ?_
  refine xr 4 [(2, .p 2 0),(3, .p 3 0),(4, .v (.bool false)),(5, .p 5 0),(6, .v (.int .i64 n3)),(7, .p 7 0),(8, .v (.int .i64 n3)),(9, .p 9 0),(10, .v (.int .i64 n4)),(11, .p 11 0),(12, .v (.int .i64 n4)),(90, .v (.bool false)),(93, .v (.bool ((n3:Int) != n3)))] [bS3 11 23 p4 q4 k4,bS3 9 23 p4 q4 k4,bS3 7 23 p3 q3 k3,bS3 5 23 p3 q3 k3,bS3 3 23 b1 b2 db,bS3 2 23 a1 a2 da] ?_
  rw [Zgi]
  refine xr 4 [(2, .p 2 0),(3, .p 3 0),(4, .v (.bool false)),(5, .p 5 0),(6, .v (.int .i64 n3)),(7, .p 7 0),(8, .v (.int .i64 n3)),(10, .v (.int .i64 n4)),(12, .v (.int .i64 n4)),(95, .v (.bool false)),eS3 96 p4 q4 k4,eS3 97 p4 q4 k4] [bS3 7 23 p3 q3 k3,bS3 5 23 p3 q3 k3,bS3 3 23 b1 b2 db,bS3 2 23 a1 a2 da] ?_
  refine xl 98 (.bool false) (fun w R Q=>ZiD ((Operand.tmp 96)) ((Operand.tmp 97)) 23 p4 q4 k4) ?_
  refine xr 5 [(2, .p 2 0),(3, .p 3 0),(4, .v (.bool false)),(5, .p 5 0),(6, .v (.int .i64 n3)),(7, .p 7 0),(8, .v (.int .i64 n3)),(10, .v (.int .i64 n4)),(12, .v (.int .i64 n4)),(100, .v (.bool false)),(103, .v (.bool ((n4:Int) != n4)))] [bS3 7 23 p3 q3 k3,bS3 5 23 p3 q3 k3,bS3 3 23 b1 b2 db,bS3 2 23 a1 a2 da] ?_
  rw [Zgi]
  refine xr 1 [(2, .p 2 0),(3, .p 3 0),(4, .v (.bool false)),(5, .p 5 0),(6, .v (.int .i64 n3)),(7, .p 7 0),(8, .v (.int .i64 n3)),(10, .v (.int .i64 n4)),(12, .v (.int .i64 n4)),(104, .v (.bool false))] [bS3 7 23 p3 q3 k3,bS3 5 23 p3 q3 k3,bS3 3 23 b1 b2 db,bS3 2 23 a1 a2 da] ?_
  refine xe (Zaa (xb (ZaA (Zaa (Zac (Zab (xr 2 [(2, .p 2 0),(3, .p 3 0),(4, .v (.bool false)),(5, .p 5 0),(6, .v (.int .i64 n3)),(7, .p 7 0),(8, .v (.int .i64 n3)),(10, .v (.int .i64 n4)),(12, .v (.int .i64 n4)),eS3 106 a1 a2 da,eS3 107 b1 b2 db] [bS3 7 23 p3 q3 k3,bS3 5 23 p3 q3 k3,bS3 3 23 b1 b2 db,bS3 2 23 a1 a2 da] ?_)))))))
  refine xc 38 [vS3 a1 a2 da,vS3 b1 b2 db] 108 (fun _:Unit=>.tuple #[.int .i64 k5, .int .i64 n5]) _ (fun w R Q=>(H.cmp _ Q.1.1.1.1.1.1.1.1.1.1).mono (fun _ _ h=>Zaf h (rfl))) (fun xx=>?_)
  refine xr 5 [(2, .p 2 0),(3, .p 3 0),(4, .v (.bool false)),(5, .p 5 0),(6, .v (.int .i64 n5)),(7, .p 7 0),(8, .v (.int .i64 n3)),(10, .v (.int .i64 n4)),(12, .v (.int .i64 n4)),(13, .v (.int .i64 k5))] [bS3 7 23 p3 q3 k3,bS3 5 23 p3 q3 k3,bS3 3 23 b1 b2 db,bS3 2 23 a1 a2 da] ?_
  refine xe (Zaa (Zac (Zab (xr 2 [(2, .p 2 0),(4, .v (.bool false)),(5, .p 5 0),(6, .v (.int .i64 n5)),(7, .p 7 0),(8, .v (.int .i64 n3)),(10, .v (.int .i64 n4)),(12, .v (.int .i64 n4)),(13, .v (.int .i64 k5)),eS3 112 a1 a2 da,eS3 113 b1 b2 db] [bS3 7 23 p3 q3 k3,bS3 5 23 p3 q3 k3,bS3 2 23 a1 a2 da] ?_))))
  refine xc 39 [vS3 a1 a2 da,vS3 b1 b2 db] 114 (fun _:Unit=>.tuple #[.int .i64 k5, .int .i64 n5]) _ (fun w R Q=>(H.cmp' _).mono (fun _ _ h=>Zaf h (rfl))) (fun xx=>?_)
  refine xr 5 [(2, .p 2 0),(4, .v (.bool false)),(5, .p 5 0),(6, .v (.int .i64 n5)),(7, .p 7 0),(8, .v (.int .i64 n5)),(10, .v (.int .i64 n4)),(12, .v (.int .i64 n4)),(13, .v (.int .i64 k5)),(14, .v (.int .i64 k5))] [bS3 7 23 p3 q3 k3,bS3 5 23 p3 q3 k3,bS3 2 23 a1 a2 da] ?_
  refine xe (Zaa (Zac (Zab (xr 1 [(2, .p 2 0),(4, .v (.bool false)),(5, .p 5 0),(6, .v (.int .i64 n5)),(7, .p 7 0),(8, .v (.int .i64 n5)),(10, .v (.int .i64 n4)),(12, .v (.int .i64 n4)),(13, .v (.int .i64 k5)),(14, .v (.int .i64 k5)),eS3 118 a1 a2 da] [bS3 7 23 p3 q3 k3,bS3 5 23 p3 q3 k3,bS3 2 23 a1 a2 da] ?_))))
  refine xc 40 [vS3 a1 a2 da] 119 (fun _:Unit=>.tuple #[vS3 p6 q6 k6, .int .i64 n6]) _ (fun w R Q=>(H.neg _ Q.1.1.1.1.1.1.1.1.1.1.1.1).mono (fun _ _ h=>Zaf h (rfl))) (fun xx=>?_)
  refine xr 5 [(2, .p 2 0),(4, .v (.bool false)),(5, .p 5 0),(6, .v (.int .i64 n5)),(7, .p 7 0),(8, .v (.int .i64 n5)),(10, .v (.int .i64 n6)),(12, .v (.int .i64 n4)),(13, .v (.int .i64 k5)),(14, .v (.int .i64 k5))] [bS3 7 23 p3 q3 k3,bS3 5 23 p6 q6 k6,bS3 2 23 a1 a2 da] ?_
  refine xe (Zaa (Zac (Zab (xr 2 [(4, .v (.bool false)),(5, .p 5 0),(6, .v (.int .i64 n5)),(7, .p 7 0),(8, .v (.int .i64 n5)),(10, .v (.int .i64 n6)),(12, .v (.int .i64 n4)),(13, .v (.int .i64 k5)),(14, .v (.int .i64 k5)),eS3 123 ⟨#[48]⟩ ⟨#[48]⟩ 1,eS3 124 a1 a2 da] [bS3 7 23 p3 q3 k3,bS3 5 23 p6 q6 k6] ?_))))
  refine xc 34 [vS3 ⟨#[48]⟩ ⟨#[48]⟩ 1, .string ⟨#[45,49]⟩,vS3 a1 a2 da] 125 (fun _:Unit=>.tuple #[vS3 p6 q6 k6, .int .i64 n6]) _ (fun w R Q=>(H.neg' _).mono (fun _ _ h=>Zaf h rfl)) (fun xx=>?_)
  refine xr 5 [(4, .v (.bool false)),(5, .p 5 0),(6, .v (.int .i64 n5)),(7, .p 7 0),(8, .v (.int .i64 n5)),(10, .v (.int .i64 n6)),(12, .v (.int .i64 n6)),(13, .v (.int .i64 k5)),(14, .v (.int .i64 k5))] [bS3 7 23 p6 q6 k6,bS3 5 23 p6 q6 k6] ?_
  refine xe (Zaa (Zac (Zab (xr 3 [(4, .v (.bool false)),(5, .p 5 0),(6, .v (.int .i64 n5)),(7, .p 7 0),(8, .v (.int .i64 n5)),(10, .v (.int .i64 n6)),(12, .v (.int .i64 n6)),(130, .v (.bool ((k5:Int) == k5)))] [bS3 7 23 p6 q6 k6,bS3 5 23 p6 q6 k6] ?_))))
  rw [Zjz]
  refine xr 4 [(4, .v (.bool false)),(5, .p 5 0),(7, .p 7 0),(10, .v (.int .i64 n6)),(12, .v (.int .i64 n6)),(131, .v (.bool true)),(134, .v (.bool ((n5:Int) == n5)))] [bS3 7 23 p6 q6 k6,bS3 5 23 p6 q6 k6] ?_
  rw [Zjz]
  refine xr 4 [(4, .v (.bool false)),(10, .v (.int .i64 n6)),(12, .v (.int .i64 n6)),(136, .v (.bool true)),eS3 137 p6 q6 k6,eS3 138 p6 q6 k6] [] ?_
  refine xl 139 (.bool true) (fun w R Q=>Zlc ((Operand.tmp 137)) ((Operand.tmp 138)) 23 p6 q6 k6) ?_
  refine xr 5 [(4, .v (.bool false)),(141, .v (.bool true)),(144, .v (.bool ((n6:Int) == n6)))] [] ?_
  rw [Zjz]
  refine xr 2 [(4, .v (.bool false)),(146, .v (.bool true))] [] ?_
  refine xc 17 [] 147 (fun _:Unit=>.bool true) _ (fun w R Q=>(Zi7 _ Q.1.1.1.1.1.1.1.1.1.1.1.1.1.1).mono (fun _ _ h=>Zaf h rfl)) (fun xx=>?_)
  refine xr 2 [(4, .v (.bool true))] [] ?_
  refine xe (Zaa (Zah ?_))
  refine Zae (v:=.bool true) (by kernel_rfl) (fun w' R Q=>?_)
  exact ⟨rfl,R⟩
theorem cv {f:FuncId} {args:Array Value} {w:World} {v v':Value} (e:v=v') (h:Calls Tryz.prog f args w (RetV w v)):Calls Tryz.prog f args w (RetV w v'):=e ▸ h
theorem ar_A (a1 a2 b1 b2:ByteArray) (da db:Int) (HL:(bytes a1).length≤40∧(bytes a2).length≤40∧(bytes b1).length≤40∧(bytes b2).length≤40) (hx:rdS (bytes a1) (bytes a2) da=none):∃ (p1 q1 p2 q2 p3 q3 p4 q4 p6 q6:ByteArray) (k1 n1 k2 n2 k3 n3 k4 n4 k5 n5 k6 n6:Int),ArV a1 a2 b1 b2 da db (.tuple #[.agg #[.string p1, .string q1, .int .i64 k1], .int .i64 n1]) (.tuple #[.agg #[.string p2, .string q2, .int .i64 k2], .int .i64 n2]) (.tuple #[.agg #[.string p3, .string q3, .int .i64 k3], .int .i64 n3]) (.tuple #[.agg #[.string p4, .string q4, .int .i64 k4], .int .i64 n4]) (.tuple #[.int .i64 k5, .int .i64 n5]) (.tuple #[.agg #[.string p6, .string q6, .int .i64 k6], .int .i64 n6]):=by
 have La:(bytes a1).length≤570∧(bytes a2).length≤570:=by omega
 have Lb:(bytes b1).length≤570∧(bytes b2).length≤570:=by omega
 exact ⟨⟨#[]⟩,⟨#[]⟩,⟨#[]⟩,⟨#[]⟩,⟨#[]⟩,⟨#[]⟩,⟨#[]⟩,⟨#[]⟩,⟨#[]⟩,⟨#[]⟩,0,1,0,1,0,1,0,1,0,1,0,1,⟨fun w hg=>cv (ZaX (Or.inl hx)) (ZlV a1 a2 b1 b2 da db w hg La Lb (Or.inl hx)),fun w=>cv (ZaX (Or.inl hx)) (ZdR a1 a2 b1 b2 da db w La Lb ⟨#[49]⟩ 1 ZgH (by decide) ZgI (Or.inl hx)),fun w hg=>cv (ZaX (Or.inl hx)) (ZlW a1 a2 b1 b2 da db w hg La Lb (Or.inl hx)),fun w=>cv (ZaX (Or.inl hx)) (ZdR a1 a2 b1 b2 da db w La Lb ⟨#[45,49]⟩ (-1) Zb5 (by decide) ZdS (Or.inl hx)),fun w hg=>cv (ZaX (Or.inl hx)) (ZlX a1 a2 b1 b2 da db w hg La Lb (Or.inl hx)),fun w=>cv (ZaX (Or.inl hx)) (Zl4 a1 a2 b1 b2 da db w La Lb (Or.inl hx)),fun w hg=>cv (ZaX (Or.inl hx)) (ZlY a1 a2 b1 b2 da db w hg La Lb (Or.inl hx)),fun w=>cv (ZaX (Or.inl hx)) (Zl5 a1 a2 b1 b2 da db w La Lb (Or.inl hx)),fun w hg=>cv (ZaX (Or.inl hx)) (Zhw a1 a2 b1 b2 da db w hg La Lb (Or.inl hx)),fun w=>Zkz a1 a2 b1 b2 da db w La Lb (Or.inl hx),fun w hg=>cv (Zo7 hx) (Zq0 a1 a2 da w hg La hx),fun w=>cv (ZaX (Or.inr hx)) (ZdR _ _ a1 a2 _ da w (by decide) La ⟨#[45,49]⟩ (-1) Zb5 (by decide) ZdS (Or.inr hx))⟩⟩
theorem ar_B (a1 a2 b1 b2:ByteArray) (da db:Int) (HL:(bytes a1).length≤40∧(bytes a2).length≤40∧(bytes b1).length≤40∧(bytes b2).length≤40) {x:Sd} (hx:rdS (bytes a1) (bytes a2) da=some x) (hy:rdS (bytes b1) (bytes b2) db=none):∃ (p1 q1 p2 q2 p3 q3 p4 q4 p6 q6:ByteArray) (k1 n1 k2 n2 k3 n3 k4 n4 k5 n5 k6 n6:Int),ArV a1 a2 b1 b2 da db (.tuple #[.agg #[.string p1, .string q1, .int .i64 k1], .int .i64 n1]) (.tuple #[.agg #[.string p2, .string q2, .int .i64 k2], .int .i64 n2]) (.tuple #[.agg #[.string p3, .string q3, .int .i64 k3], .int .i64 n3]) (.tuple #[.agg #[.string p4, .string q4, .int .i64 k4], .int .i64 n4]) (.tuple #[.int .i64 k5, .int .i64 n5]) (.tuple #[.agg #[.string p6, .string q6, .int .i64 k6], .int .i64 n6]):=by
 have La:(bytes a1).length≤570∧(bytes a2).length≤570:=by omega
 have Lb:(bytes b1).length≤570∧(bytes b2).length≤570:=by omega
 have TX:TIs a1 a2 da x 40:=TIs.in hx HL.1 HL.2.1 (by decide) (by decide)
 have EN:=Zkx TX.ok
 exact ⟨⟨#[]⟩,⟨#[]⟩,⟨#[]⟩,⟨#[]⟩,⟨#[]⟩,⟨#[]⟩,⟨#[]⟩,⟨#[]⟩,_,_,0,1,0,1,0,1,0,1,0,1,_,_,⟨fun w hg=>cv (ZaX (Or.inr hy)) (ZlV a1 a2 b1 b2 da db w hg La Lb (Or.inr hy)),fun w=>cv (ZaX (Or.inr hy)) (ZdR a1 a2 b1 b2 da db w La Lb ⟨#[49]⟩ 1 ZgH (by decide) ZgI (Or.inr hy)),fun w hg=>cv (ZaX (Or.inr hy)) (ZlW a1 a2 b1 b2 da db w hg La Lb (Or.inr hy)),fun w=>cv (ZaX (Or.inr hy)) (ZdR a1 a2 b1 b2 da db w La Lb ⟨#[45,49]⟩ (-1) Zb5 (by decide) ZdS (Or.inr hy)),fun w hg=>cv (ZaX (Or.inr hy)) (ZlX a1 a2 b1 b2 da db w hg La Lb (Or.inr hy)),fun w=>cv (ZaX (Or.inr hy)) (Zl4 a1 a2 b1 b2 da db w La Lb (Or.inr hy)),fun w hg=>cv (ZaX (Or.inr hy)) (ZlY a1 a2 b1 b2 da db w hg La Lb (Or.inr hy)),fun w=>cv (ZaX (Or.inr hy)) (Zl5 a1 a2 b1 b2 da db w La Lb (Or.inr hy)),fun w hg=>cv (ZaX (Or.inr hy)) (Zhw a1 a2 b1 b2 da db w hg La Lb (Or.inr hy)),fun w=>Zkz a1 a2 b1 b2 da db w La Lb (Or.inr hy),fun w hg=>lNeg hg TX rfl (by decide),fun w=>Zfi (cc:=⟨#[45,49]⟩) (c := -1) Zb5 (by decide) ZdS tz0 TX (Or.inl rfl) EN (by decide)⟩⟩
theorem ar_C (a1 a2 b1 b2:ByteArray) (da db:Int) (HL:(bytes a1).length≤40∧(bytes a2).length≤40∧(bytes b1).length≤40∧(bytes b2).length≤40) {x y:Sd} (hx:rdS (bytes a1) (bytes a2) da=some x) (hy:rdS (bytes b1) (bytes b2) db=some y) (hB:¬ Blg x.d y.d):∃ (p1 q1 p2 q2 p3 q3 p4 q4 p6 q6:ByteArray) (k1 n1 k2 n2 k3 n3 k4 n4 k5 n5 k6 n6:Int),ArV a1 a2 b1 b2 da db (.tuple #[.agg #[.string p1, .string q1, .int .i64 k1], .int .i64 n1]) (.tuple #[.agg #[.string p2, .string q2, .int .i64 k2], .int .i64 n2]) (.tuple #[.agg #[.string p3, .string q3, .int .i64 k3], .int .i64 n3]) (.tuple #[.agg #[.string p4, .string q4, .int .i64 k4], .int .i64 n4]) (.tuple #[.int .i64 k5, .int .i64 n5]) (.tuple #[.agg #[.string p6, .string q6, .int .i64 k6], .int .i64 n6]):=by
 have La:(bytes a1).length≤570∧(bytes a2).length≤570:=by omega
 have Lb:(bytes b1).length≤570∧(bytes b2).length≤570:=by omega
 have TX:TIs a1 a2 da x 40:=TIs.in hx HL.1 HL.2.1 (by decide) (by decide)
 have EN:=Zkx TX.ok
 exact ⟨⟨#[]⟩,⟨#[]⟩,⟨#[]⟩,⟨#[]⟩,⟨#[]⟩,⟨#[]⟩,⟨#[]⟩,⟨#[]⟩,_,_,0,9,0,9,0,9,0,9,0,9,_,_,⟨fun w hg=>cv (ZbB hx hy hB) (Zr0 a1 a2 b1 b2 da db w hg La Lb hx hy hB),fun w=>cv (ZbB hx hy hB) (Zih a1 a2 b1 b2 da db w La Lb ⟨#[49]⟩ 1 ZgH (by decide) ZgI hx hy hB),fun w hg=>cv (ZbB hx hy hB) (Zr2 a1 a2 b1 b2 da db w hg La Lb hx hy hB),fun w=>cv (ZbB hx hy hB) (Zih a1 a2 b1 b2 da db w La Lb ⟨#[45,49]⟩ (-1) Zb5 (by decide) ZdS hx hy hB),fun w hg=>cv (ZbB hx hy hB) (Zr4 a1 a2 b1 b2 da db w hg La Lb hx hy hB),fun w=>cv (ZbB hx hy hB) (Zsb a1 a2 b1 b2 da db w La Lb hx hy hB),fun w hg=>cv (ZbB hx hy hB) (Zr6 a1 a2 b1 b2 da db w hg La Lb hx hy hB),fun w=>cv (ZbB hx hy hB) (Zsd a1 a2 b1 b2 da db w La Lb hx hy hB),fun w hg=>cv (ZbB hx hy hB) (ZnF a1 a2 b1 b2 da db w hg La Lb hx hy hB),fun w=>Zrj a1 a2 b1 b2 da db w La Lb hx hy hB,fun w hg=>lNeg hg TX rfl (by decide),fun w=>Zfi (cc:=⟨#[45,49]⟩) (c := -1) Zb5 (by decide) ZdS tz0 TX (Or.inl rfl) EN (by decide)⟩⟩
theorem ar_D (a1 a2 b1 b2:ByteArray) (da db:Int) (HL:(bytes a1).length≤40∧(bytes a2).length≤40∧(bytes b1).length≤40∧(bytes b2).length≤40) {x y:Sd} (hx:rdS (bytes a1) (bytes a2) da=some x) (hy:rdS (bytes b1) (bytes b2) db=some y) (hB:Blg x.d y.d) (hZ:(y.a=0∧y.b=0)):∃ (p1 q1 p2 q2 p3 q3 p4 q4 p6 q6:ByteArray) (k1 n1 k2 n2 k3 n3 k4 n4 k5 n5 k6 n6:Int),ArV a1 a2 b1 b2 da db (.tuple #[.agg #[.string p1, .string q1, .int .i64 k1], .int .i64 n1]) (.tuple #[.agg #[.string p2, .string q2, .int .i64 k2], .int .i64 n2]) (.tuple #[.agg #[.string p3, .string q3, .int .i64 k3], .int .i64 n3]) (.tuple #[.agg #[.string p4, .string q4, .int .i64 k4], .int .i64 n4]) (.tuple #[.int .i64 k5, .int .i64 n5]) (.tuple #[.agg #[.string p6, .string q6, .int .i64 k6], .int .i64 n6]):=by
 have TX:TIs a1 a2 da x 40:=TIs.in hx HL.1 HL.2.1 (by decide) (by decide)
 have EN:=Zkx TX.ok
 have TY:TIs b1 b2 db y 40:=TIs.in hy HL.2.2.1 HL.2.2.2 (by decide) (by decide)
 exact ⟨_,_,_,_,_,_,_,_,_,_,_,_,_,_,_,_,_,_,_,_,_,_,⟨fun w hg=>lAdd hg TX TY hB rfl (by decide),fun w=>Zfi (cc:=⟨#[49]⟩) (c:=1) ZgH (by decide) ZgI TX TY hB (Zq3 TX.ok TY.ok hB).2 (by decide),fun w hg=>lSub hg TX TY hB rfl (by decide),fun w=>Zfi (cc:=⟨#[45,49]⟩) (c:=(-1)) Zb5 (by decide) ZdS TX TY hB (ZnH TX.ok TY.ok hB).2 (by decide),fun w hg=>lMul hg TX TY hB rfl (by decide),fun w=>Zss TX TY hB (Zq4 TX.ok TY.ok hB).2 (by decide),fun w hg=>Zua hg TX TY hB hZ (by decide),fun w=>ZtT TX TY hB hZ (by decide),fun w hg=>lCmp hg TX TY hB rfl (by decide),fun w=>Zl8 a1 a2 b1 b2 da db w TX TY hB rfl,fun w hg=>lNeg hg TX rfl (by decide),fun w=>Zfi (cc:=⟨#[45,49]⟩) (c := -1) Zb5 (by decide) ZdS tz0 TX (Or.inl rfl) EN (by decide)⟩⟩
theorem ar_E (a1 a2 b1 b2:ByteArray) (da db:Int) (HL:(bytes a1).length≤40∧(bytes a2).length≤40∧(bytes b1).length≤40∧(bytes b2).length≤40) {x y:Sd} (hx:rdS (bytes a1) (bytes a2) da=some x) (hy:rdS (bytes b1) (bytes b2) db=some y) (hB:Blg x.d y.d) (hZ:¬ (y.a=0∧y.b=0)):∃ (p1 q1 p2 q2 p3 q3 p4 q4 p6 q6:ByteArray) (k1 n1 k2 n2 k3 n3 k4 n4 k5 n5 k6 n6:Int),ArV a1 a2 b1 b2 da db (.tuple #[.agg #[.string p1, .string q1, .int .i64 k1], .int .i64 n1]) (.tuple #[.agg #[.string p2, .string q2, .int .i64 k2], .int .i64 n2]) (.tuple #[.agg #[.string p3, .string q3, .int .i64 k3], .int .i64 n3]) (.tuple #[.agg #[.string p4, .string q4, .int .i64 k4], .int .i64 n4]) (.tuple #[.int .i64 k5, .int .i64 n5]) (.tuple #[.agg #[.string p6, .string q6, .int .i64 k6], .int .i64 n6]):=by
 have TX:TIs a1 a2 da x 40:=TIs.in hx HL.1 HL.2.1 (by decide) (by decide)
 have EN:=Zkx TX.ok
 have TY:TIs b1 b2 db y 40:=TIs.in hy HL.2.2.1 HL.2.2.2 (by decide) (by decide)
 exact ⟨_,_,_,_,_,_,_,_,_,_,_,_,_,_,_,_,_,_,_,_,_,_,⟨fun w hg=>lAdd hg TX TY hB rfl (by decide),fun w=>Zfi (cc:=⟨#[49]⟩) (c:=1) ZgH (by decide) ZgI TX TY hB (Zq3 TX.ok TY.ok hB).2 (by decide),fun w hg=>lSub hg TX TY hB rfl (by decide),fun w=>Zfi (cc:=⟨#[45,49]⟩) (c:=(-1)) Zb5 (by decide) ZdS TX TY hB (ZnH TX.ok TY.ok hB).2 (by decide),fun w hg=>lMul hg TX TY hB rfl (by decide),fun w=>Zss TX TY hB (Zq4 TX.ok TY.ok hB).2 (by decide),fun w hg=>lDiv hg TX TY hB hZ rfl (by decide),fun w=>Zuc TX TY hB hZ (ZtO TX.ok TY.ok hB hZ).2 (by decide),fun w hg=>lCmp hg TX TY hB rfl (by decide),fun w=>Zl8 a1 a2 b1 b2 da db w TX TY hB rfl,fun w hg=>lNeg hg TX rfl (by decide),fun w=>Zfi (cc:=⟨#[45,49]⟩) (c := -1) Zb5 (by decide) ZdS tz0 TX (Or.inl rfl) EN (by decide)⟩⟩
theorem Zij (a1 a2 b1 b2:ByteArray) (da db:Int) (w:World) (hg:Glob w):Calls Tryz.prog 6 #[.agg #[.string a1, .string a2, .int .i64 da], .agg #[.string b1, .string b2, .int .i64 db]] w (RetV w (.bool true)):=by
 refine Zii a1 a2 b1 b2 da db w hg fun HL=>?_
 rcases ZcK (rdS (bytes a1) (bytes a2) da) with hx | ⟨x,hx⟩
 ·exact ar_A a1 a2 b1 b2 da db HL hx
 rcases ZcK (rdS (bytes b1) (bytes b2) db) with hy | ⟨y,hy⟩
 ·exact ar_B a1 a2 b1 b2 da db HL hx hy
 by_cases hB:Blg x.d y.d
 ·by_cases hZ:y.a=0∧y.b=0
  ·exact ar_D a1 a2 b1 b2 da db HL hx hy hB hZ
  ·exact ar_E a1 a2 b1 b2 da db HL hx hy hB hZ
 ·exact ar_C a1 a2 b1 b2 da db HL hx hy hB
end Go.Proofs.YtbgkofgoeoiciaaGreatDoor
