/-
 My texts Aw1, Gq put together.
-/
import Derived.Test.YthlipnahcbcjkaaGreatDoorM16
import Derived.Test.YthlipnahcbcjkaaGreatDoorM11
set_option maxRecDepth 100000
namespace Go.Proofs.YthlipnahcbcjkaaGreatDoor
open Go.RowKit
theorem Zfw (w:World) (hg:Glob w) :
 Calls Tryz.prog 21 #[] w (RetV w (.bool true)):=by
 refine ZaB (Φ:=fun w=>Glob w) Tryz.func21 rfl (by kernel_rfl) (fun w' hf=>hg.ext hf) ?_
 refine Zac (Zab (xr 1 [(0, .v (.bool false))] [] ?_))
 refine xe (Zaa (Zac (Zab ?_)))
 refine xc 67 [.string ⟨#[45,48,54,47,52]⟩] 6 (fun _:Unit=>.tuple #[.string ⟨#[45,51,47,50]⟩, .int .i64 0]) _ (fun w R Q=>(ZrM _ Q).mono (fun _ _ h=>Zae h (rfl))) (fun xx=>?_)
 refine xr 5 [(0, .v (.bool false)),(1, .v (.string ⟨#[45,51,47,50]⟩)),(2, .v (.int .i64 0))] [] ?_
 refine xe (Zaa (Zac (Zab ?_)))
 refine xc 68 [.string ⟨#[49]⟩, .string ⟨#[51]⟩] 10 (fun _:Unit=>.tuple #[.string ⟨#[49,47,51]⟩, .bool true]) _ (fun w R Q=>(Zs0 ⟨#[49]⟩ ⟨#[51]⟩ _ Q.1 (by decide) (by decide) Zuf).mono (fun _ _ h=>Zae h (by rw [show bytes ⟨#[49]⟩=[49] from rfl,show bytes ⟨#[51]⟩=[51] from rfl,ZtK]))) (fun xx=>?_)
 refine xr 5 [(0, .v (.bool false)),(1, .v (.string ⟨#[45,51,47,50]⟩)),(2, .v (.int .i64 0)),(3, .v (.string ⟨#[49,47,51]⟩)),(4, .v (.bool true))] [] ?_
 refine xe (Zaa (Zac (Zab (xr 2 [(0, .v (.bool false)),(2, .v (.int .i64 0)),(3, .v (.string ⟨#[49,47,51]⟩)),(4, .v (.bool true)),(14, .v (.bool ((⟨#[45,51,47,50]⟩:ByteArray).toList == (⟨#[45,51,47,50]⟩:ByteArray).toList)))] [] ?_))))
 rw [ZcP]
 refine xr 7 [(0, .v (.bool false)),(4, .v (.bool true)),(19, .v (.bool true)),(21, .v (.bool ((⟨#[49,47,51]⟩:ByteArray).toList == (⟨#[49,47,51]⟩:ByteArray).toList)))] [] ?_
 rw [ZcP]
 refine xr 5 [(0, .v (.bool false)),(26, .v (.bool true))] [] ?_
 refine xc 69 [.string ⟨#[49,47,50]⟩, .string ⟨#[49,47,51]⟩] 27 (fun _:Unit=>.string ⟨#[53,47,54]⟩) _ (fun w R Q=>(ZrK ⟨#[49,47,50]⟩ ⟨#[49,47,51]⟩ _ Q.1.1 (by decide) (by decide)).mono (fun _ _ h=>Zae h (by rw [show bytes ⟨#[49,47,50]⟩=[49,47,50] from rfl,show bytes ⟨#[49,47,51]⟩=[49,47,51] from rfl,ZtL]))) (fun xx=>?_)
 refine xr 1 [(0, .v (.bool false)),(26, .v (.bool true)),(28, .v (.bool ((⟨#[53,47,54]⟩:ByteArray).toList == (⟨#[53,47,54]⟩:ByteArray).toList)))] [] ?_
 rw [ZcP]
 refine xr 2 [(0, .v (.bool false)),(30, .v (.bool true))] [] ?_
 refine xc 70 [.string ⟨#[45,50,47,51]⟩, .string ⟨#[51]⟩] 31 (fun _:Unit=>.string ⟨#[45,50]⟩) _ (fun w R Q=>(ZrL ⟨#[45,50,47,51]⟩ ⟨#[51]⟩ _ Q.1.1.1 (by decide) (by decide)).mono (fun _ _ h=>Zae h (by rw [show bytes ⟨#[45,50,47,51]⟩=[45,50,47,51] from rfl,show bytes ⟨#[51]⟩=[51] from rfl,ZtM]))) (fun xx=>?_)
 refine xr 1 [(0, .v (.bool false)),(30, .v (.bool true)),(32, .v (.bool ((⟨#[45,50]⟩:ByteArray).toList == (⟨#[45,50]⟩:ByteArray).toList)))] [] ?_
 rw [ZcP]
 refine xr 2 [(0, .v (.bool false)),(34, .v (.bool true))] [] ?_
 refine xc 71 [.string ⟨#[49,47,51]⟩, .string ⟨#[49,47,50]⟩] 35 (fun _:Unit=>.int .i64 (-1)) _ (fun w R Q=>(Znv ⟨#[49,47,51]⟩ ⟨#[49,47,50]⟩ _ Q.1.1.1.1 (by decide) (by decide)).mono (fun _ _ h=>Zae h (by rw [show bytes ⟨#[49,47,51]⟩=[49,47,51] from rfl,show bytes ⟨#[49,47,50]⟩=[49,47,50] from rfl,ZtN]))) (fun xx=>?_)
 refine xr 3 [(0, .v (.bool true))] [] ?_
 refine xe (Zaa (Zan ?_))
 refine Zag (v:=.bool true) (by kernel_rfl) (fun w' R Q=>?_)
 exact ⟨rfl,R⟩
end Go.Proofs.YthlipnahcbcjkaaGreatDoor

namespace Go.Proofs.YthlipnahcbcjkaaGreatDoor
open Go.RowKit
def gcdQ (a b:Rat):Rat:=Rat.divInt ((Int.gcd (a.num * b.den) (b.num * a.den):Nat):Int) (a.den * b.den)
theorem ZkM (a b:Rat):(0:Int) < (a.den:Int) * b.den:=by
 have:=Rat.den_pos a; have:=Rat.den_pos b
 exact Int.mul_pos (by omega) (by omega)
theorem Zpw {q:Rat} (h:¬ denF q=0):denF q=(q.den:Int):=by
 unfold denF at h ⊢
 split
 ·rename_i h1; rw [if_pos h1] at h; exact absurd rfl h
 ·rfl
theorem Zug {x y:Int} (hy:0 < y) (h:x.tmod y < 0):decide (IntKind.i64.wrap (((x).tmod (y)).sign * (y).sign) < 0)=true:=by
 rw [Int.sign_eq_neg_one_of_neg h,Int.sign_eq_one_of_pos hy]; decide
theorem Zuh {x y:Int} (hy:0 < y) (h:¬ x.tmod y < 0):decide (IntKind.i64.wrap (((x).tmod (y)).sign * (y).sign) < 0)=false:=by
 rw [Int.sign_eq_one_of_pos hy]
 rcases Zfc (x.tmod y) with ⟨h1,_⟩ | ⟨_,h2⟩ | ⟨_,h2⟩
 ·exact absurd h1 h
 ·rw [h2]; decide
 ·rw [h2]; decide
theorem Zqz {x y:Int} (hy:0 < y) (h:x.tmod y < 0):x.tdiv y - 1=x / y:=by
 have h1:=Int.mul_tdiv_add_tmod x y
 have h2:=Int.mul_ediv_add_emod x y
 have h3:=Int.emod_nonneg x (show y≠0 by omega)
 have h4:=Int.emod_lt_of_pos x hy
 have h5:=Int.lt_tmod_of_pos x hy
 have h6:y * (x.tdiv y - 1 - x / y)=x % y - x.tmod y - y:=by
  rw [Int.mul_sub,Int.mul_sub,Int.mul_one]; omega
 have h7:x.tdiv y - 1 - x / y=0:=by
  rcases Int.lt_trichotomy (x.tdiv y - 1 - x / y) 0 with h | h | h
  ·have:=Int.mul_le_mul_of_nonneg_left (show x.tdiv y - 1 - x / y ≤ -1 by omega) (Int.le_of_lt hy); rw [h6] at this; omega
  ·exact h
  ·have:=Int.mul_le_mul_of_nonneg_left (show 1≤x.tdiv y - 1 - x / y by omega) (Int.le_of_lt hy); rw [h6] at this; omega
 omega
theorem ZqA {x y:Int} (hy:0 < y) (h:¬ x.tmod y < 0):x.tdiv y=x / y:=by
 have h1:=Int.mul_tdiv_add_tmod x y
 have h2:=Int.mul_ediv_add_emod x y
 have h3:=Int.emod_nonneg x (show y≠0 by omega)
 have h4:=Int.emod_lt_of_pos x hy
 have h5:=Int.tmod_lt_of_pos x hy
 have h6:y * (x.tdiv y - x / y)=x % y - x.tmod y:=by
  rw [Int.mul_sub]; omega
 have h7:x.tdiv y - x / y=0:=by
  rcases Int.lt_trichotomy (x.tdiv y - x / y) 0 with h | h | h
  ·have:=Int.mul_le_mul_of_nonneg_left (show x.tdiv y - x / y ≤ -1 by omega) (Int.le_of_lt hy); rw [h6] at this; omega
  ·exact h
  ·have:=Int.mul_le_mul_of_nonneg_left (show 1≤x.tdiv y - x / y by omega) (Int.le_of_lt hy); rw [h6] at this; omega
 omega
theorem ZkN (q:Rat):(q.num / q.den).natAbs≤q.num.natAbs:=by
 have hd:=Rat.den_pos q
 have h2:=Int.mul_ediv_add_emod q.num q.den
 have h3:=Int.emod_nonneg q.num (denI q)
 have h4:=Int.emod_lt_of_pos q.num (show (0:Int) < q.den by omega)
 rcases Int.lt_or_le (q.num / q.den) 0 with h | h
 ·have h5:q.num < 0:=by
   rcases Int.lt_or_le q.num 0 with h6 | h6
   ·exact h6
   ·have:=Int.ediv_nonneg h6 (show (0:Int)≤q.den by omega); omega
  have h7:q.num≤q.num / q.den:=by
   rw [Int.le_ediv_iff_mul_le (by omega)]
   have:=Int.mul_le_mul_of_nonpos_left (show q.num≤0 by omega) (show (1:Int)≤q.den by omega)
   omega
  omega
 ·have h7:q.num / q.den≤q.num:=by
   have h8:0≤q.num:=by
    rcases Int.lt_or_le q.num 0 with h6 | h6
    ·have:=Int.ediv_neg_of_neg_of_pos h6 (show (0:Int) < q.den by omega); omega
    ·exact h6
   exact Int.ediv_le_self _ h8
  omega
theorem ZrN {x y:Int} (hy:y≠0):(Rat.divInt x y).num.natAbs≤x.natAbs∧(Rat.divInt x y).den≤y.natAbs:=by
 constructor
 ·rw [Rat.num_divInt,Int.natAbs_ediv_of_dvd]
  ·refine Nat.le_trans (Nat.div_le_self _ _) ?_
   rw [Int.natAbs_mul]
   rcases Int.lt_or_gt_of_ne hy with h | h
   ·rw [Int.sign_eq_neg_one_of_neg h]; simp
   ·rw [Int.sign_eq_one_of_pos h]; simp
  ·exact Int.dvd_mul_of_dvd_right (Int.gcd_dvd_right _ _)
 ·rw [Rat.den_divInt,if_neg hy]
  exact Nat.div_le_self _ _
theorem ZtP {p q:Rat} (hp:Zbb p 30) (hq:Zbb q 30):Zbn (gcdQ p q).num.natAbs∧Zbn (gcdQ p q).den:=by
 have h1:wl (Int.gcd (p.num * q.den) (q.num * p.den))≤60:=by
  have a1:=wlm hp.1 (wlc hq.2)
  have a2:=wlm hq.1 (wlc hp.2)
  by_cases h0:q.num * p.den=0
  ·rw [h0,Int.gcd_zero]; exact a1
  ·exact wlg a2 h0
 have h2:wl ((p.den:Int) * q.den).natAbs≤60:=wlm (wlc hp.2) (wlc hq.2)
 have hD:=ZkM p q
 have e:=ZrN (x:=((Int.gcd (p.num * q.den) (q.num * p.den):Nat):Int)) (y:=(p.den:Int) * q.den) (by omega)
 rw [Int.natAbs_natCast] at e
 have h3:wl (gcdQ p q).num.natAbs≤60:=Nat.le_trans (Za0 e.1) h1
 have h4:wl (gcdQ p q).den≤60:=Nat.le_trans (Za0 e.2) h2
 unfold Zbn; omega
theorem Zui {p q:Rat} (hp:Zbb p 30) (hq:Zbb q 30):wl (((Int.gcd (p.num * q.den) (q.num * p.den):Nat):Int)).natAbs≤60:=by
 rw [Int.natAbs_natCast]
 have a1:=wlm hp.1 (wlc hq.2)
 have a2:=wlm hq.1 (wlc hp.2)
 by_cases h0:q.num * p.den=0
 ·rw [h0,Int.gcd_zero]; exact a1
 ·exact wlg a2 h0
theorem zt:Zaf 0=[48]:=ZjG (n:=0) (by decide) (by decide) (by decide)
theorem Znx (a b:Value) (x y:Int) (w:World) (ha:Zav w a x) (hb:Zav w b y) (hx:Fits x) (h80:wl y.natAbs < 80) (hy:0 < y) :
 Calls Tryz.prog 164 #[a,b] w (Zbp w (x / y)):=by
 obtain ⟨s0,A0,l0,c0,rfl⟩:=ha.shape
 obtain ⟨s1,A1,l1,c1,rfl⟩:=hb.shape
 refine ZaB (Φ:=fun w=>(Zav w (.agg #[.bool s0, .slice A0 l0 c0]) (x)∧Zav w (.agg #[.bool s1, .slice A1 l1 c1]) (y))) Tryz.func164 rfl (by kernel_rfl) (fun w' hf=>⟨ha.ext hf,hb.ext hf⟩) ?_
 refine Zac (Zab (xr 3 [(2, .p 2 0),(3, .p 3 0),(4, .p 4 0)] [bI2 4 105 false none 0 0,bI2 3 105 s1 A1 l1 c1,bI2 2 105 s0 A0 l0 c0] ?_))
 refine xe (Zaa (Zac (Zab (xr 2 [(3, .p 3 0),(4, .p 4 0),eI2 8 s0 A0 l0 c0,eI2 9 s1 A1 l1 c1] [bI2 4 105 false none 0 0,bI2 3 105 s1 A1 l1 c1] ?_))))
 refine xc 207 [vI2 s0 A0 l0 c0,vI2 s1 A1 l1 c1] 10 Zdp _ (fun w R Q=>(Zkb _ _ (x) (y) _ Q.1 Q.2 hx h80 (by omega)).mono (fun _ _=>Zfj)) (fun xx=>?_)
 obtain ⟨⟨s10,A10,l10,c10⟩,⟨s11,A11,l11,c11⟩⟩:=xx
 refine xr 7 [(3, .p 3 0),(4, .p 4 0),(5, .p 5 0),(6, .p 6 0)] [bI2 6 105 s11 A11 l11 c11,bI2 5 105 s10 A10 l10 c10,bI2 4 105 false none 0 0,bI2 3 105 s1 A1 l1 c1] ?_
 refine xe (Zaa (Zac (Zac ?_)))
 by_cases hr:x.tmod y < 0
 ·refine ZaE 6 (by kernel_rfl) (by kernel_rfl) Zaj ?_
  refine xf 1 [(3, .p 3 0),(4, .p 4 0),(5, .p 5 0),eI2 13 s11 A11 l11 c11] [bI2 6 105 s11 A11 l11 c11,bI2 5 105 s10 A10 l10 c10,bI2 4 105 false none 0 0,bI2 3 105 s1 A1 l1 c1] ?_
  refine xd 168 [vI2 s11 A11 l11 c11] 14 (fun _:Unit=>.int .i64 ((x).tmod (y)).sign) _ (fun w R Q=>(Zc9 _ ((x).tmod (y)) _ Q.2.2).mono (fun _ _ h=>Zae h rfl)) (fun xx=>?_)
  refine xf 1 [(4, .p 4 0),(5, .p 5 0),(14, .v (.int .i64 ((x).tmod (y)).sign)),eI2 15 s1 A1 l1 c1] [bI2 6 105 s11 A11 l11 c11,bI2 5 105 s10 A10 l10 c10,bI2 4 105 false none 0 0,bI2 3 105 s1 A1 l1 c1] ?_
  refine xd 168 [vI2 s1 A1 l1 c1] 16 (fun _:Unit=>.int .i64 (y).sign) _ (fun w R Q=>(Zc9 _ (y) _ Q.1.1.2).mono (fun _ _ h=>Zae h rfl)) (fun xx=>?_)
  refine xf 2 [(4, .p 4 0),(5, .p 5 0),(18, .v (.bool (decide ((IntKind.i64.wrap (((x).tmod (y)).sign * (y).sign)) < 0))))] [bI2 6 105 s11 A11 l11 c11,bI2 5 105 s10 A10 l10 c10,bI2 4 105 false none 0 0,bI2 3 105 s1 A1 l1 c1] ?_
  rw [Zug hy hr]
  refine xf 0 [(4, .p 4 0),(5, .p 5 0),(18, .v (.bool true))] [bI2 6 105 s11 A11 l11 c11,bI2 5 105 s10 A10 l10 c10,bI2 4 105 false none 0 0,bI2 3 105 s1 A1 l1 c1] ?_
  refine xz (xe (Zaa (xa (Zac ?_))))
  refine ZaE 4 (by kernel_rfl) (by kernel_rfl) Zaj ?_
  refine xf 1 [(4, .p 4 0),(5, .p 5 0),eI2 19 s10 A10 l10 c10] [bI2 6 105 s11 A11 l11 c11,bI2 5 105 s10 A10 l10 c10,bI2 4 105 false none 0 0,bI2 3 105 s1 A1 l1 c1] ?_
  refine xd 128 [.int .i64 1] 20 Zam _ (fun w R Q=>(Zlb 1 _ (by rw [Zai]; omega) (by decide) (by decide)).mono (fun _ _=>Zaq)) (fun xx=>?_)
  obtain ⟨s12,A12,l12,c12⟩:=xx
  refine xf 0 [(4, .p 4 0),(5, .p 5 0),eI2 19 s10 A10 l10 c10,eI2 20 s12 A12 l12 c12] [bI2 6 105 s11 A11 l11 c11,bI2 5 105 s10 A10 l10 c10,bI2 4 105 false none 0 0,bI2 3 105 s1 A1 l1 c1] ?_
  refine xd 208 [vI2 s10 A10 l10 c10,vI2 s12 A12 l12 c12] 21 Zam _ (fun w R Q=>(ZsB _ _ ((x).tdiv (y)) (1) _ Q.1.1.1.2.1 Q.2 (fit (Nat.le_trans (Za0 (by rw [Int.natAbs_tdiv]; exact Nat.div_le_self _ _)) hx) (by decide)) (fit (k:=1) (Zdh.2 (by rw [Zai]; decide)) (by decide))).mono (fun _ _ h=>Zaq (by rw [Zqz hy hr] at h; exact h))) (fun xx=>?_)
  obtain ⟨s13,A13,l13,c13⟩:=xx
  refine xf 1 [(4, .p 4 0),(5, .p 5 0)] [bI2 4 105 s13 A13 l13 c13,bI2 6 105 s11 A11 l11 c11,bI2 5 105 s10 A10 l10 c10,bI2 4 105 false none 0 0,bI2 3 105 s1 A1 l1 c1] ?_
  refine xz (xe (Zaa (Zan (Zao ?_))))
  refine Zag (v:=.agg #[.bool s13, .slice A13 l13 c13]) (by kernel_rfl) (fun w' R Q=>?_)
  exact ⟨_,rfl,Q.2,R⟩
 ·refine ZaE 6 (by kernel_rfl) (by kernel_rfl) Zaj ?_
  refine xf 1 [(3, .p 3 0),(4, .p 4 0),(5, .p 5 0),eI2 13 s11 A11 l11 c11] [bI2 6 105 s11 A11 l11 c11,bI2 5 105 s10 A10 l10 c10,bI2 4 105 false none 0 0,bI2 3 105 s1 A1 l1 c1] ?_
  refine xd 168 [vI2 s11 A11 l11 c11] 14 (fun _:Unit=>.int .i64 ((x).tmod (y)).sign) _ (fun w R Q=>(Zc9 _ ((x).tmod (y)) _ Q.2.2).mono (fun _ _ h=>Zae h rfl)) (fun xx=>?_)
  refine xf 1 [(4, .p 4 0),(5, .p 5 0),(14, .v (.int .i64 ((x).tmod (y)).sign)),eI2 15 s1 A1 l1 c1] [bI2 6 105 s11 A11 l11 c11,bI2 5 105 s10 A10 l10 c10,bI2 4 105 false none 0 0,bI2 3 105 s1 A1 l1 c1] ?_
  refine xd 168 [vI2 s1 A1 l1 c1] 16 (fun _:Unit=>.int .i64 (y).sign) _ (fun w R Q=>(Zc9 _ (y) _ Q.1.1.2).mono (fun _ _ h=>Zae h rfl)) (fun xx=>?_)
  refine xf 2 [(4, .p 4 0),(5, .p 5 0),(18, .v (.bool (decide ((IntKind.i64.wrap (((x).tmod (y)).sign * (y).sign)) < 0))))] [bI2 6 105 s11 A11 l11 c11,bI2 5 105 s10 A10 l10 c10,bI2 4 105 false none 0 0,bI2 3 105 s1 A1 l1 c1] ?_
  rw [Zuh hy hr]
  refine xf 0 [(4, .p 4 0),(5, .p 5 0),(18, .v (.bool false))] [bI2 6 105 s11 A11 l11 c11,bI2 5 105 s10 A10 l10 c10,bI2 4 105 false none 0 0,bI2 3 105 s1 A1 l1 c1] ?_
  refine xz (xe (Zaa (xb (ZaA (Zaa (Zac (Zab (xr 2 [(4, .p 4 0)] [bI2 4 105 s10 A10 l10 c10] ?_))))))))
  refine xe (Zaa (Zan ?_))
  refine Zag (v:=.agg #[.bool s10, .slice A10 l10 c10]) (by kernel_rfl) (fun w' R Q=>?_)
  exact ⟨_,rfl,(by rw [← ZqA hy hr]; exact Q.1.1.2.1),R⟩
theorem ZkO (a:Value) (q:Rat) (w:World) (ha:ZaC w a q) (hq:Zbb q 38) :
 Calls Tryz.prog 83 #[a] w (Zbp w ((q).num / (q).den)):=by
 obtain ⟨s0,A0,l0,c0,t0,B0,m0,d0,rfl⟩:=ha.shp
 refine ZaB (Φ:=fun w=>ZaC w (.agg #[.bool s0, .slice A0 l0 c0, .bool t0, .slice B0 m0 d0]) (q)) Tryz.func83 rfl (by kernel_rfl) (fun w' hf=>ha.ext hf) ?_
 refine Zac (Zab (xr 2 [(1, .p 1 0),(2, .p 2 0)] [bI2 2 105 false none 0 0,bR4 1 107 s0 A0 l0 c0 t0 B0 m0 d0] ?_))
 refine xe (Zaa (Zac (Zac (Zab (xr 2 [(1, .p 1 0),(2, .p 2 0),eI2 4 t0 B0 m0 d0] [bI2 2 105 false none 0 0,bR4 1 107 s0 A0 l0 c0 t0 B0 m0 d0] ?_)))))
 by_cases hzd:denF q=0
 ·refine xc 141 [vI2 t0 B0 m0 d0] 5 (fun _:Unit=>.bool true) _ (fun w R Q=>(ZaG _ (denF (q)) _ Q.den).mono (fun _ _ h=>Zae h (by rw [decide_eq_true hzd]))) (fun xx=>?_)
  refine xr 0 [(1, .p 1 0),(2, .p 2 0),(5, .v (.bool true))] [bI2 2 105 false none 0 0,bR4 1 107 s0 A0 l0 c0 t0 B0 m0 d0] ?_
  refine xe (Zaa (xa (Zac (Zab (xr 3 [(1, .p 1 0),(2, .p 2 0)] [bI2 2 105 s0 A0 l0 c0,bR4 1 107 s0 A0 l0 c0 t0 B0 m0 d0] ?_)))))
  refine xe (Zaa (Zan (Zao ?_)))
  refine Zag (v:=.agg #[.bool s0, .slice A0 l0 c0]) (by kernel_rfl) (fun w' R Q=>?_)
  exact ⟨_,rfl,(by rw [Zev.1 hzd]; show Zav _ _ ((q).num / ((1:Nat):Int)); rw [show (((1:Nat)):Int)=1 from rfl,Int.ediv_one]; exact Q.1.num),R⟩
 ·refine xc 141 [vI2 t0 B0 m0 d0] 5 (fun _:Unit=>.bool false) _ (fun w R Q=>(ZaG _ (denF (q)) _ Q.den).mono (fun _ _ h=>Zae h (by rw [decide_eq_false hzd]))) (fun xx=>?_)
  refine xr 0 [(1, .p 1 0),(2, .p 2 0),(5, .v (.bool false))] [bI2 2 105 false none 0 0,bR4 1 107 s0 A0 l0 c0 t0 B0 m0 d0] ?_
  refine xe (Zaa (xb (ZaA (Zaa (Zac (Zab (xr 4 [(2, .p 2 0),eI2 9 s0 A0 l0 c0,eI2 11 t0 B0 m0 d0] [bI2 2 105 false none 0 0] ?_)))))))
  refine xc 164 [vI2 s0 A0 l0 c0,vI2 t0 B0 m0 d0] 12 Zam _ (fun w R Q=>(Znx _ _ (q).num (denF q) _ Q.1.num Q.1.den (fit hq.1 (by decide)) (by rw [Zpw hzd]; exact Nat.lt_of_le_of_lt (wlc hq.2) (by decide)) (by rw [Zpw hzd]; have:=Rat.den_pos q; omega)).mono (fun _ _ h=>Zaq (by rw [Zpw hzd] at h; exact h))) (fun xx=>?_)
  obtain ⟨s10,A10,l10,c10⟩:=xx
  refine xr 1 [(2, .p 2 0)] [bI2 2 105 s10 A10 l10 c10] ?_
  refine xe (Zaa (Zan ?_))
  refine Zag (v:=.agg #[.bool s10, .slice A10 l10 c10]) (by kernel_rfl) (fun w' R Q=>?_)
  exact ⟨_,rfl,Q.2,R⟩
theorem Zpx (s:ByteArray) (w:World) (hg:Glob w) (hs:(bytes s).length≤570) :
 Calls Tryz.prog 24 #[.string s] w (RetV w (.string ⟨(Lib.itoa ((valF (bytes s)).num / (valF (bytes s)).den)).toArray⟩)):=by
 have fa:=Zbr hs
 refine ZaB (Φ:=fun w=>Glob w) Tryz.func24 rfl (by kernel_rfl) (fun w' hf=>hg.ext hf) ?_
 refine Zac (Zab (xr 1 [(0, .v (.string s)),(2, .v (.string ⟨#[]⟩))] [] ?_))
 refine xe (Zaa (Zac (Zab (xr 1 [(2, .v (.string ⟨#[]⟩)),(3, .v (.string s))] [] ?_))))
 refine xc 72 [.string s] 4 ZaJ _ (fun w R Q=>(Zbj s _ Q (ZbC.of_len hs)).mono (fun _ _=>ZaL)) (fun xx=>?_)
 obtain ⟨s10,A10,l10,c10,t10,B10,m10,d10⟩:=xx
 refine xr 0 [(2, .v (.string ⟨#[]⟩)),eR4 4 s10 A10 l10 c10 t10 B10 m10 d10] [] ?_
 refine xc 83 [vR4 s10 A10 l10 c10 t10 B10 m10 d10] 5 Zam _ (fun w R Q=>(ZkO _ (valF (bytes s)) _ Q.2 (fa.up (by decide))).mono (fun _ _=>Zaq)) (fun xx=>?_)
 obtain ⟨s11,A11,l11,c11⟩:=xx
 refine xr 0 [(2, .v (.string ⟨#[]⟩)),eI2 5 s11 A11 l11 c11] [] ?_
 refine xc 84 [vI2 s11 A11 l11 c11] 6 (fun _:Unit=>.string ⟨(Lib.itoa ((valF (bytes s)).num / (valF (bytes s)).den)).toArray⟩) _ (fun w R Q=>(Zg3 _ ((valF (bytes s)).num / (valF (bytes s)).den) _ Q.1.1 Q.2 (by have:=Nat.le_trans (Za0 (ZkN (valF (bytes s)))) fa.1; unfold Zbn; omega)).mono (fun _ _ h=>Zae h rfl)) (fun xx=>?_)
 refine xr 1 [(2, .v (.string ⟨(Lib.itoa ((valF (bytes s)).num / (valF (bytes s)).den)).toArray⟩))] [] ?_
 refine xe (Zaa (Zan ?_))
 refine Zag (v:=.string ⟨(Lib.itoa ((valF (bytes s)).num / (valF (bytes s)).den)).toArray⟩) (by kernel_rfl) (fun w' R Q=>?_)
 exact ⟨rfl,R⟩
theorem ZrO (s t:ByteArray) (w:World) (hg:Glob w) (hs:(bytes s).length≤570) (ht:(bytes t).length≤570) :
 Calls Tryz.prog 28 #[.string s, .string t] w (RetV w (.string ⟨(Zaf (gcdQ (valF (bytes s)) (valF (bytes t)))).toArray⟩)):=by
 have fa:=Zbr hs
 have fb:=Zbr ht
 have HP:=ZtP fa fb
 have HG:=Zui fa fb
 refine ZaB (Φ:=fun w=>Glob w) Tryz.func28 rfl (by kernel_rfl) (fun w' hf=>hg.ext hf) ?_
 refine Zac (Zab (xr 1 [(0, .v (.string s)),(1, .v (.string t)),(4, .v (.string ⟨#[]⟩))] [] ?_))
 refine xe (Zaa (Zac (Zab (xr 1 [(1, .v (.string t)),(4, .v (.string ⟨#[]⟩)),(8, .v (.string s))] [] ?_))))
 refine xc 72 [.string s] 9 ZaJ _ (fun w R Q=>(Zbj s _ Q (ZbC.of_len hs)).mono (fun _ _=>ZaL)) (fun xx=>?_)
 obtain ⟨s10,A10,l10,c10,t10,B10,m10,d10⟩:=xx
 refine xr 1 [(4, .v (.string ⟨#[]⟩)),eR4 9 s10 A10 l10 c10 t10 B10 m10 d10,(10, .v (.string t))] [] ?_
 refine xc 72 [.string t] 11 ZaJ _ (fun w R Q=>(Zbj t _ Q.1 (ZbC.of_len ht)).mono (fun _ _=>ZaL)) (fun xx=>?_)
 obtain ⟨s11,A11,l11,c11,t11,B11,m11,d11⟩:=xx
 refine xr 4 [(4, .v (.string ⟨#[]⟩)),(5, .p 5 0),(6, .p 6 0)] [bR4 6 107 s11 A11 l11 c11 t11 B11 m11 d11,bR4 5 107 s10 A10 l10 c10 t10 B10 m10 d10] ?_
 refine xe (Zaa (Zac ?_))
 refine ZaE 13 (by kernel_rfl) (by kernel_rfl) Zaj ?_
 refine xf 3 [(4, .v (.string ⟨#[]⟩)),(5, .p 5 0),(6, .p 6 0),eI2 13 s10 A10 l10 c10,eR4 14 s11 A11 l11 c11 t11 B11 m11 d11] [bR4 6 107 s11 A11 l11 c11 t11 B11 m11 d11,bR4 5 107 s10 A10 l10 c10 t10 B10 m10 d10] ?_
 refine xd 74 [vR4 s11 A11 l11 c11 t11 B11 m11 d11] 15 Zam _ (fun w R Q=>(Zbg _ (valF (bytes t)) _ Q.2).mono (fun _ _=>Zaq)) (fun xx=>?_)
 obtain ⟨s12,A12,l12,c12⟩:=xx
 refine xf 0 [(4, .v (.string ⟨#[]⟩)),(5, .p 5 0),(6, .p 6 0),eI2 13 s10 A10 l10 c10,eI2 15 s12 A12 l12 c12] [bR4 6 107 s11 A11 l11 c11 t11 B11 m11 d11,bR4 5 107 s10 A10 l10 c10 t10 B10 m10 d10] ?_
 refine xd 89 [vI2 s10 A10 l10 c10,vI2 s12 A12 l12 c12] 16 Zam _ (fun w R Q=>(Zbe _ _ ((valF (bytes s)).num) (((valF (bytes t)).den:Int)) _ Q.1.1.2.num Q.2 (fit fa.1 (by decide)) (fit (wlc fb.2) (by decide)) (Or.inl (Nat.lt_of_le_of_lt fa.1 (by decide)))).mono (fun _ _=>Zaq)) (fun xx=>?_)
 obtain ⟨s13,A13,l13,c13⟩:=xx
 refine xf 3 [(4, .v (.string ⟨#[]⟩)),(5, .p 5 0),(6, .p 6 0),eI2 16 s13 A13 l13 c13,eI2 18 s11 A11 l11 c11,eR4 19 s10 A10 l10 c10 t10 B10 m10 d10] [bR4 6 107 s11 A11 l11 c11 t11 B11 m11 d11,bR4 5 107 s10 A10 l10 c10 t10 B10 m10 d10] ?_
 refine xd 74 [vR4 s10 A10 l10 c10 t10 B10 m10 d10] 20 Zam _ (fun w R Q=>(Zbg _ (valF (bytes s)) _ Q.1.1.1.2).mono (fun _ _=>Zaq)) (fun xx=>?_)
 obtain ⟨s14,A14,l14,c14⟩:=xx
 refine xf 0 [(4, .v (.string ⟨#[]⟩)),(5, .p 5 0),(6, .p 6 0),eI2 16 s13 A13 l13 c13,eI2 18 s11 A11 l11 c11,eI2 20 s14 A14 l14 c14] [bR4 6 107 s11 A11 l11 c11 t11 B11 m11 d11,bR4 5 107 s10 A10 l10 c10 t10 B10 m10 d10] ?_
 refine xd 89 [vI2 s11 A11 l11 c11,vI2 s14 A14 l14 c14] 21 Zam _ (fun w R Q=>(Zbe _ _ ((valF (bytes t)).num) (((valF (bytes s)).den:Int)) _ Q.1.1.1.2.num Q.2 (fit fb.1 (by decide)) (fit (wlc fa.2) (by decide)) (Or.inl (Nat.lt_of_le_of_lt fb.1 (by decide)))).mono (fun _ _=>Zaq)) (fun xx=>?_)
 obtain ⟨s15,A15,l15,c15⟩:=xx
 refine xf 0 [(4, .v (.string ⟨#[]⟩)),(5, .p 5 0),(6, .p 6 0),eI2 16 s13 A13 l13 c13,eI2 21 s15 A15 l15 c15] [bR4 6 107 s11 A11 l11 c11 t11 B11 m11 d11,bR4 5 107 s10 A10 l10 c10 t10 B10 m10 d10] ?_
 refine xd 90 [vI2 s13 A13 l13 c13,vI2 s15 A15 l15 c15] 22 Zam _ (fun w R Q=>(ZdY _ _ ((valF (bytes s)).num * ((valF (bytes t)).den:Int)) ((valF (bytes t)).num * ((valF (bytes s)).den:Int)) _ Q.1.1.1.1.1.1 Q.1.1.2 Q.2 (fit (wlm fa.1 (wlc fb.2)) (by decide)) (fit (wlm fb.1 (wlc fa.2)) (by decide)) (ZcR.words (Nat.le_trans (wlm fa.1 (wlc fb.2)) (by decide)) (Nat.le_trans (wlm fb.1 (wlc fa.2)) (by decide)))).mono (fun _ _=>Zaq)) (fun xx=>?_)
 obtain ⟨s16,A16,l16,c16⟩:=xx
 refine xf 2 [(4, .v (.string ⟨#[]⟩)),(5, .p 5 0),(6, .p 6 0),(7, .p 7 0)] [bI2 7 105 s16 A16 l16 c16,bI2 7 105 false none 0 0,bR4 6 107 s11 A11 l11 c11 t11 B11 m11 d11,bR4 5 107 s10 A10 l10 c10 t10 B10 m10 d10] ?_
 refine xz (xe (Zaa (Zac ?_)))
 refine ZaE 9 (by kernel_rfl) (by kernel_rfl) Zaj ?_
 refine xf 2 [(4, .v (.string ⟨#[]⟩)),(6, .p 6 0),eI2 23 s16 A16 l16 c16,eR4 24 s10 A10 l10 c10 t10 B10 m10 d10] [bI2 7 105 s16 A16 l16 c16,bI2 7 105 false none 0 0,bR4 6 107 s11 A11 l11 c11 t11 B11 m11 d11,bR4 5 107 s10 A10 l10 c10 t10 B10 m10 d10] ?_
 refine xd 74 [vR4 s10 A10 l10 c10 t10 B10 m10 d10] 25 Zam _ (fun w R Q=>(Zbg _ (valF (bytes s)) _ Q.1.1.1.1.1.1.2).mono (fun _ _=>Zaq)) (fun xx=>?_)
 obtain ⟨s17,A17,l17,c17⟩:=xx
 refine xf 1 [(4, .v (.string ⟨#[]⟩)),eI2 23 s16 A16 l16 c16,eI2 25 s17 A17 l17 c17,eR4 26 s11 A11 l11 c11 t11 B11 m11 d11] [bI2 7 105 s16 A16 l16 c16,bI2 7 105 false none 0 0,bR4 6 107 s11 A11 l11 c11 t11 B11 m11 d11,bR4 5 107 s10 A10 l10 c10 t10 B10 m10 d10] ?_
 refine xd 74 [vR4 s11 A11 l11 c11 t11 B11 m11 d11] 27 Zam _ (fun w R Q=>(Zbg _ (valF (bytes t)) _ Q.1.1.1.1.1.1.2).mono (fun _ _=>Zaq)) (fun xx=>?_)
 obtain ⟨s18,A18,l18,c18⟩:=xx
 refine xf 0 [(4, .v (.string ⟨#[]⟩)),eI2 23 s16 A16 l16 c16,eI2 25 s17 A17 l17 c17,eI2 27 s18 A18 l18 c18] [bI2 7 105 s16 A16 l16 c16,bI2 7 105 false none 0 0,bR4 6 107 s11 A11 l11 c11 t11 B11 m11 d11,bR4 5 107 s10 A10 l10 c10 t10 B10 m10 d10] ?_
 refine xd 89 [vI2 s17 A17 l17 c17,vI2 s18 A18 l18 c18] 28 Zam _ (fun w R Q=>(Zbe _ _ (((valF (bytes s)).den:Int)) (((valF (bytes t)).den:Int)) _ Q.1.2 Q.2 (fit (wlc fa.2) (by decide)) (fit (wlc fb.2) (by decide)) (Or.inl (Nat.lt_of_le_of_lt (wlc fa.2) (by decide)))).mono (fun _ _=>Zaq)) (fun xx=>?_)
 obtain ⟨s19,A19,l19,c19⟩:=xx
 refine xf 0 [(4, .v (.string ⟨#[]⟩)),eI2 23 s16 A16 l16 c16,eI2 28 s19 A19 l19 c19] [bI2 7 105 s16 A16 l16 c16,bI2 7 105 false none 0 0,bR4 6 107 s11 A11 l11 c11 t11 B11 m11 d11,bR4 5 107 s10 A10 l10 c10 t10 B10 m10 d10] ?_
 refine xd 91 [vI2 s16 A16 l16 c16,vI2 s19 A19 l19 c19] 29 ZaJ _ (fun w R Q=>(Zid _ _ (((Int.gcd ((valF (bytes s)).num * ((valF (bytes t)).den:Int)) ((valF (bytes t)).num * ((valF (bytes s)).den:Int)):Nat):Int)) (((valF (bytes s)).den:Int) * ((valF (bytes t)).den:Int)) _ Q.1.1.1.1.1.1.1.1.1.1 Q.1.1.1.2 Q.2 (fit HG (by decide)) (fit (wlm (wlc fa.2) (wlc fb.2)) (by decide)) (ZcR.words (Nat.le_trans HG (by decide)) (Nat.le_trans (wlm (wlc fa.2) (wlc fb.2)) (by decide))) (Nat.lt_of_le_of_lt (wlm (wlc fa.2) (wlc fb.2)) (by decide)) (by have:=ZkM (valF (bytes s)) (valF (bytes t)); omega)).mono (fun _ _ h=>ZaL (by rw [show Rat.divInt (((Int.gcd ((valF (bytes s)).num * ((valF (bytes t)).den:Int)) ((valF (bytes t)).num * ((valF (bytes s)).den:Int)):Nat):Int)) (((valF (bytes s)).den:Int) * ((valF (bytes t)).den:Int))=gcdQ (valF (bytes s)) (valF (bytes t)) from rfl] at h; exact h))) (fun xx=>?_)
 obtain ⟨s20,A20,l20,c20,t20,B20,m20,d20⟩:=xx
 refine xf 0 [(4, .v (.string ⟨#[]⟩)),eR4 29 s20 A20 l20 c20 t20 B20 m20 d20] [bI2 7 105 s16 A16 l16 c16,bI2 7 105 false none 0 0,bR4 6 107 s11 A11 l11 c11 t11 B11 m11 d11,bR4 5 107 s10 A10 l10 c10 t10 B10 m10 d10] ?_
 refine xd 76 [vR4 s20 A20 l20 c20 t20 B20 m20 d20] 30 (fun _:Unit=>.string ⟨(Zaf (gcdQ (valF (bytes s)) (valF (bytes t)))).toArray⟩) _ (fun w R Q=>(Zda _ (gcdQ (valF (bytes s)) (valF (bytes t))) _ Q.1.1.1.1.1.1.1.1.1.1.1 Q.2 HP.1 HP.2).mono (fun _ _ h=>Zae h rfl)) (fun xx=>?_)
 refine xf 1 [(4, .v (.string ⟨(Zaf (gcdQ (valF (bytes s)) (valF (bytes t)))).toArray⟩))] [bI2 7 105 s16 A16 l16 c16,bI2 7 105 false none 0 0,bR4 6 107 s11 A11 l11 c11 t11 B11 m11 d11,bR4 5 107 s10 A10 l10 c10 t10 B10 m10 d10] ?_
 refine xz (xe (Zaa (Zan ?_)))
 refine Zag (v:=.string ⟨(Zaf (gcdQ (valF (bytes s)) (valF (bytes t)))).toArray⟩) (by kernel_rfl) (fun w' R Q=>?_)
 exact ⟨rfl,R⟩
end Go.Proofs.YthlipnahcbcjkaaGreatDoor
