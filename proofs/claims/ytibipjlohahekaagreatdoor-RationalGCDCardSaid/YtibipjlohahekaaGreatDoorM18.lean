/-
 My texts Gq, GqL put together.
-/
import Derived.Test.YtibipjlohahekaaGreatDoorM17
import Derived.Test.YtibipjlohahekaaGreatDoorM11
namespace Go.Proofs.YtibipjlohahekaaGreatDoor
open Go.RowKit
def gcdQ (a b : Rat) : Rat := Rat.divInt ((Int.gcd (a.num * b.den) (b.num * a.den) : Nat) : Int) (a.den * b.den)
theorem gq_pos (a b : Rat) : (0 : Int) < (a.den : Int) * b.den := by
 have := Rat.den_pos a; have := Rat.den_pos b
 exact Int.mul_pos (by omega) (by omega)
theorem int_div1 (k : Int) : Rat.divInt k 1 = (k : Rat) := Rat.num_divInt_den ((k : Int) : Rat)
theorem gcdQ_of {b c g : Rat} {y z : Int} (hg : 0 < g.num) (hb : b = y * g) (hc : c = z * g) (hyz : Int.gcd y z = 1) : gcdQ b c = g := by
 have cross : ∀ (q : Rat) (k : Int),q = k * g → q.num * g.den = k * g.num * q.den := fun q k h => by
  have h1 : Rat.divInt (k * g.num) (1 * g.den) = q := by rw [← Rat.divInt_mul_divInt,Rat.num_divInt_den,int_div1,h]
  have h2 := frac_cross (by have := g.den_nz; omega) h1
  rw [Int.one_mul] at h2; exact h2
 have hb' := cross b y hb
 have hc' := cross c z hc
 have key : (Int.gcd (b.num * c.den) (c.num * b.den) : Nat) * g.den = g.num.natAbs * (b.den * c.den) := by
  have e1 : b.num * c.den * g.den = y * (g.num * b.den * c.den) := by
   rw [Int.mul_right_comm,hb']; simp only [Int.mul_assoc]
  have e2 : c.num * b.den * g.den = z * (g.num * b.den * c.den) := by
   rw [Int.mul_right_comm,hc',Int.mul_assoc,Int.mul_assoc,Int.mul_comm (c.den : Int),← Int.mul_assoc g.num]
  have h1 := Int.gcd_mul_right (b.num * c.den) (g.den : Int) (c.num * b.den)
  rw [e1,e2,Int.gcd_mul_right,hyz,Nat.one_mul,Int.natAbs_natCast] at h1
  rw [← h1,Int.natAbs_mul,Int.natAbs_mul,Int.natAbs_natCast,Int.natAbs_natCast,Nat.mul_assoc]
 unfold gcdQ
 rw [← Rat.num_divInt_den g,Rat.divInt_eq_divInt_iff (by have := gq_pos b c; omega) (denI g)]
 have : ((Int.gcd (b.num * c.den) (c.num * b.den) : Nat) : Int) * (g.den : Int) = (g.num.natAbs : Int) * ((b.den : Int) * c.den) := by exact_mod_cast key
 rw [this]
 have : (g.num.natAbs : Int) = g.num := by omega
 rw [this]
theorem gq_num {a b : Rat} (h : ¬ (a.num = 0 ∧ b.num = 0)) : 0 < (gcdQ a b).num := by
 have h1 : 0 < Int.gcd (a.num * b.den) (b.num * a.den) := by
  rcases Nat.eq_zero_or_pos (Int.gcd (a.num * b.den) (b.num * a.den)) with e | e
  ·exfalso
   obtain ⟨e1,e2⟩ := Int.gcd_eq_zero_iff.1 e
   have d1 := denI a
   have d2 := denI b
   exact h ⟨(Int.mul_eq_zero.1 e1).resolve_right d2,(Int.mul_eq_zero.1 e2).resolve_right d1⟩
  ·exact e
 have hD := gq_pos a b
 have h2 : (gcdQ a b).num * ((a.den : Int) * b.den) = ((Int.gcd (a.num * b.den) (b.num * a.den) : Nat) : Int) * (gcdQ a b).den := frac_cross (by omega) rfl
 rcases Int.lt_or_le 0 (gcdQ a b).num with h3 | h3
 ·exact h3
 ·exfalso
  have h4 := Int.mul_le_mul_of_nonneg_right h3 (Int.le_of_lt hD)
  rw [h2,Int.zero_mul] at h4
  have h5 : (0 : Int) < ((Int.gcd (a.num * b.den) (b.num * a.den) : Nat) : Int) * (gcdQ a b).den := Int.mul_pos (by omega) (by have := Rat.den_pos (gcdQ a b); omega)
  omega
theorem gq_zero {a b : Rat} (h : a.num = 0 ∧ b.num = 0) : gcdQ a b = 0 := by
 unfold gcdQ
 rw [h.1,h.2,Int.zero_mul,Int.zero_mul]
 exact Rat.zero_divInt _
theorem gq_quo {a b : Rat} (h : ¬ (a.num = 0 ∧ b.num = 0)) : ∃ x y : Int,a = x * gcdQ a b ∧ b = y * gcdQ a b ∧ Int.gcd x y = 1 := by
 obtain ⟨G,hG⟩ : ∃ G,Int.gcd (a.num * b.den) (b.num * a.den) = G := ⟨_,rfl⟩
 have hpos : 0 < G := by
  rw [← hG]
  rcases Nat.eq_zero_or_pos (Int.gcd (a.num * b.den) (b.num * a.den)) with e | e
  ·exfalso
   obtain ⟨e1,e2⟩ := Int.gcd_eq_zero_iff.1 e
   exact h ⟨(Int.mul_eq_zero.1 e1).resolve_right (denI b),(Int.mul_eq_zero.1 e2).resolve_right (denI a)⟩
  ·exact e
 obtain ⟨x,hx⟩ : (G : Int) ∣ a.num * b.den := by rw [← hG]; exact Int.gcd_dvd_left _ _
 obtain ⟨y,hy⟩ : (G : Int) ∣ b.num * a.den := by rw [← hG]; exact Int.gcd_dvd_right _ _
 have hD := gq_pos a b
 have key : ∀ (q : Rat) (k : Int),q.num * ((a.den : Int) * b.den) = k * G * q.den → q = k * gcdQ a b := fun q k e => by
  unfold gcdQ
  rw [hG,← int_div1,Rat.divInt_mul_divInt,Int.one_mul]
  conv => lhs; rw [← Rat.num_divInt_den q]
  exact (Rat.divInt_eq_divInt_iff (denI q) (by omega)).2 e
 refine ⟨x,y,key a x ?_,key b y ?_,?_⟩
 ·rw [Int.mul_comm x,← hx,← Int.mul_assoc,Int.mul_right_comm]
 ·rw [Int.mul_comm y,← hy,Int.mul_assoc]
 ·have h1 := Int.gcd_mul_left (G : Int) x y
  rw [← hx,← hy,hG,Int.natAbs_natCast] at h1
  have h2 : G * 1 = G * Int.gcd x y := by rw [Nat.mul_one]; exact h1
  exact (Nat.eq_of_mul_eq_mul_left hpos h2).symm
theorem gqden {q : Rat} (h : ¬ denF q = 0) : denF q = (q.den : Int) := by
 unfold denF at h ⊢
 split
 ·rename_i h1; rw [if_pos h1] at h; exact absurd rfl h
 ·rfl
theorem fq_lt {x y : Int} (hy : 0 < y) (h : x.tmod y < 0) : decide (IntKind.i64.wrap (((x).tmod (y)).sign * (y).sign) < 0) = true := by
 rw [Int.sign_eq_neg_one_of_neg h,Int.sign_eq_one_of_pos hy]; decide
theorem fq_ge {x y : Int} (hy : 0 < y) (h : ¬ x.tmod y < 0) : decide (IntKind.i64.wrap (((x).tmod (y)).sign * (y).sign) < 0) = false := by
 rw [Int.sign_eq_one_of_pos hy]
 rcases sign3 (x.tmod y) with ⟨h1,_⟩ | ⟨_,h2⟩ | ⟨_,h2⟩
 ·exact absurd h1 h
 ·rw [h2]; decide
 ·rw [h2]; decide
theorem fq_neg {x y : Int} (hy : 0 < y) (h : x.tmod y < 0) : x.tdiv y - 1 = x / y := by
 have h1 := Int.mul_tdiv_add_tmod x y
 have h2 := Int.mul_ediv_add_emod x y
 have h3 := Int.emod_nonneg x (show y ≠ 0 by omega)
 have h4 := Int.emod_lt_of_pos x hy
 have h5 := Int.lt_tmod_of_pos x hy
 have h6 : y * (x.tdiv y - 1 - x / y) = x % y - x.tmod y - y := by
  rw [Int.mul_sub,Int.mul_sub,Int.mul_one]; omega
 have h7 : x.tdiv y - 1 - x / y = 0 := by
  rcases Int.lt_trichotomy (x.tdiv y - 1 - x / y) 0 with h | h | h
  ·have := Int.mul_le_mul_of_nonneg_left (show x.tdiv y - 1 - x / y ≤ -1 by omega) (Int.le_of_lt hy); rw [h6] at this; omega
  ·exact h
  ·have := Int.mul_le_mul_of_nonneg_left (show 1 ≤ x.tdiv y - 1 - x / y by omega) (Int.le_of_lt hy); rw [h6] at this; omega
 omega
theorem fq_pos {x y : Int} (hy : 0 < y) (h : ¬ x.tmod y < 0) : x.tdiv y = x / y := by
 have h1 := Int.mul_tdiv_add_tmod x y
 have h2 := Int.mul_ediv_add_emod x y
 have h3 := Int.emod_nonneg x (show y ≠ 0 by omega)
 have h4 := Int.emod_lt_of_pos x hy
 have h5 := Int.tmod_lt_of_pos x hy
 have h6 : y * (x.tdiv y - x / y) = x % y - x.tmod y := by
  rw [Int.mul_sub]; omega
 have h7 : x.tdiv y - x / y = 0 := by
  rcases Int.lt_trichotomy (x.tdiv y - x / y) 0 with h | h | h
  ·have := Int.mul_le_mul_of_nonneg_left (show x.tdiv y - x / y ≤ -1 by omega) (Int.le_of_lt hy); rw [h6] at this; omega
  ·exact h
  ·have := Int.mul_le_mul_of_nonneg_left (show 1 ≤ x.tdiv y - x / y by omega) (Int.le_of_lt hy); rw [h6] at this; omega
 omega
theorem fq_abs (q : Rat) : (q.num / q.den).natAbs ≤ q.num.natAbs := by
 have hd := Rat.den_pos q
 have h2 := Int.mul_ediv_add_emod q.num q.den
 have h3 := Int.emod_nonneg q.num (denI q)
 have h4 := Int.emod_lt_of_pos q.num (show (0 : Int) < q.den by omega)
 rcases Int.lt_or_le (q.num / q.den) 0 with h | h
 ·have h5 : q.num < 0 := by
   rcases Int.lt_or_le q.num 0 with h6 | h6
   ·exact h6
   ·have := Int.ediv_nonneg h6 (show (0 : Int) ≤ q.den by omega); omega
  have h7 : q.num ≤ q.num / q.den := by
   rw [Int.le_ediv_iff_mul_le (by omega)]
   have := Int.mul_le_mul_of_nonpos_left (show q.num ≤ 0 by omega) (show (1 : Int) ≤ q.den by omega)
   omega
  omega
 ·have h7 : q.num / q.den ≤ q.num := by
   have h8 : 0 ≤ q.num := by
    rcases Int.lt_or_le q.num 0 with h6 | h6
    ·have := Int.ediv_neg_of_neg_of_pos h6 (show (0 : Int) < q.den by omega); omega
    ·exact h6
   exact Int.ediv_le_self _ h8
  omega
theorem frac_ml' {x y : Int} (hy : y ≠ 0) : (Rat.divInt x y).num.natAbs ≤ x.natAbs ∧ (Rat.divInt x y).den ≤ y.natAbs := by
 constructor
 ·rw [Rat.num_divInt,Int.natAbs_ediv_of_dvd]
  ·refine Nat.le_trans (Nat.div_le_self _ _) ?_
   rw [Int.natAbs_mul]
   rcases Int.lt_or_gt_of_ne hy with h | h
   ·rw [Int.sign_eq_neg_one_of_neg h]; simp
   ·rw [Int.sign_eq_one_of_pos h]; simp
  ·exact Int.dvd_mul_of_dvd_right (Int.gcd_dvd_right _ _)
 ·rw [Rat.den_divInt,if_neg hy]
  exact Nat.div_le_self _ _
theorem prt_gq {p q : Rat} (hp : QFits p 30) (hq : QFits q 30) : PrtOk (gcdQ p q).num.natAbs ∧ PrtOk (gcdQ p q).den := by
 have h1 : wl (Int.gcd (p.num * q.den) (q.num * p.den)) ≤ 60 := by
  have a1 := wlm hp.1 (wlc hq.2)
  have a2 := wlm hq.1 (wlc hp.2)
  by_cases h0 : q.num * p.den = 0
  ·rw [h0,Int.gcd_zero]; exact a1
  ·exact wlg a2 h0
 have h2 : wl ((p.den : Int) * q.den).natAbs ≤ 60 := wlm (wlc hp.2) (wlc hq.2)
 have hD := gq_pos p q
 have e := frac_ml' (x := ((Int.gcd (p.num * q.den) (q.num * p.den) : Nat) : Int)) (y := (p.den : Int) * q.den) (by omega)
 rw [Int.natAbs_natCast] at e
 have h3 : wl (gcdQ p q).num.natAbs ≤ 60 := Nat.le_trans (wl_mono e.1) h1
 have h4 : wl (gcdQ p q).den ≤ 60 := Nat.le_trans (wl_mono e.2) h2
 unfold PrtOk; omega
theorem lit48_t {s : ByteArray} (h : bytes s = [48]) : (s.toList == (⟨#[48]⟩ : ByteArray).toList) = true := by
 rw [Lib.toList_data,Lib.toList_data,show s.data.toList = [48] from h]; rfl
theorem lit48_f {s : ByteArray} (h : ¬ bytes s = [48]) : (s.toList == (⟨#[48]⟩ : ByteArray).toList) = false := by
 rw [Lib.toList_data,Lib.toList_data]; exact beq_eq_false_iff_ne.2 h
theorem sgn_txt {l : List UInt8} {q : Rat} {c : UInt8} (h : readF l = some q) (hc : l.head? = some c) : (c = 45 → q.num < 0) ∧ (c ≠ 45 → 0 ≤ q.num) := by
 have ht := text_of_read h
 have key : ∃ r,l = Lib.itoa q.num ++ r := by
  rw [← ht]; unfold ratText
  split
  ·exact ⟨[],by simp⟩
  ·exact ⟨[47] ++ Lib.itoa (q.den : Int),by simp⟩
 obtain ⟨r,hr⟩ := key
 rcases Int.lt_or_le q.num 0 with h1 | h1
 ·rw [hr,itoa_neg h1] at hc
  simp at hc
  exact ⟨fun _ => h1,fun e => absurd hc.symm e⟩
 ·refine ⟨fun e => ?_,fun _ => h1⟩
  exfalso
  rw [hr,show q.num = ((q.num.toNat : Nat) : Int) by omega,itoa_den] at hc
  have hne := decDigits_ne q.num.toNat
  have := head_dec_ne q.num.toNat
  cases hd : Lib.decDigits q.num.toNat with
  | nil => exact hne hd
  | cons x xs => rw [hd] at hc this; simp at hc this; exact this (hc.trans e)
theorem zero_txt {l : List UInt8} {q : Rat} (h : readF l = some q) (h0 : q.num = 0) : l = [48] := by
 have ht := text_of_read h
 have hq : q = 0 := Rat.num_eq_zero.1 h0
 rw [← ht,hq]; exact rt_whole (n := 0) (by decide) (by decide) (by decide)
theorem gq_wl {p q : Rat} (hp : QFits p 30) (hq : QFits q 30) : wl (((Int.gcd (p.num * q.den) (q.num * p.den) : Nat) : Int)).natAbs ≤ 60 := by
 rw [Int.natAbs_natCast]
 have a1 := wlm hp.1 (wlc hq.2)
 have a2 := wlm hq.1 (wlc hp.2)
 by_cases h0 : q.num * p.den = 0
 ·rw [h0,Int.gcd_zero]; exact a1
 ·exact wlg a2 h0
theorem zt : ratText 0 = [48] := rt_whole (n := 0) (by decide) (by decide) (by decide)
theorem str_head' {s : ByteArray} (h : ¬ bytes s = []) : ∃ c,(bytes s).head? = some c ∧ s[0]? = some c := by
 obtain ⟨h1,_⟩ := head_of h
 exact ⟨s[0],head_byte h1,by simp [h1]⟩
theorem u8_ne' {c b : UInt8} (h : ¬ c = b) : ((c.toNat : Int) == (b.toNat : Int)) = false := by
 have : c.toNat ≠ b.toNat := fun e => h (UInt8.toNat_inj.1 e)
 simp; omega
theorem run_stridx' {P : Program} {o : Oper} {ρ : Operand → Value} {w : World} {t : TypeId} {x i : Operand} {b : ByteArray} {k : Nat} {c : UInt8} (ho : o.op = Op.index t x i) (ht : P.underlying t = some .string) (hx : ρ x = .string b) (hi : ρ i = .int .i64 (k : Int)) (hc : b[k]? = some c) : (execOp ρ o).run P w = .ok (.value (.int .u8 (c.toNat : Int))) w := by
 simp [execOp,ho,Instr.index,asIntOf,underlying,ht,hx,hi,hc,Result.andThen]
set_option maxRecDepth 100000 in
theorem FloorQuo_any (a b : Value) (x y : Int) (w : World) (ha : IntIs w a x) (hb : IntIs w b y) (hx : Fits x) (h80 : wl y.natAbs < 80) (hy : 0 < y) :
 Calls Tryz.prog 138 #[a,b] w (RetInt w (x / y)) := by
 obtain ⟨s0,A0,l0,c0,rfl⟩ := ha.shape
 obtain ⟨s1,A1,l1,c1,rfl⟩ := hb.shape
 refine sx_enter (Φ := fun w => (IntIs w (.agg #[.bool s0, .slice A0 l0 c0]) (x) ∧ IntIs w (.agg #[.bool s1, .slice A1 l1 c1]) (y))) Tryz.func138 rfl (by kernel_rfl) (fun w' hf => ⟨ha.ext hf,hb.ext hf⟩) ?_
 refine sx_seq (sx_region (xr 3 [(2, .p 2 0),(3, .p 3 0),(4, .p 4 0)] [bI2 4 63 false none 0 0,bI2 3 63 s1 A1 l1 c1,bI2 2 63 s0 A0 l0 c0] ?_))
 refine xe (sx_next (sx_seq (sx_region (xr 2 [(3, .p 3 0),(4, .p 4 0),eI2 8 s0 A0 l0 c0,eI2 9 s1 A1 l1 c1] [bI2 4 63 false none 0 0,bI2 3 63 s1 A1 l1 c1] ?_))))
 refine xc 154 [vI2 s0 A0 l0 c0,vI2 s1 A1 l1 c1] 10 shInt2 _ (fun w hE hΦ => (QuoRem_any _ _ (x) (y) _ hΦ.1 hΦ.2 hx h80 (by omega)).mono (fun _ _ h => post_Int2 h)) (fun xx => ?_)
 obtain ⟨⟨s10,A10,l10,c10⟩,⟨s11,A11,l11,c11⟩⟩ := xx
 refine xr 7 [(3, .p 3 0),(4, .p 4 0),(5, .p 5 0),(6, .p 6 0)] [bI2 6 63 s11 A11 l11 c11,bI2 5 63 s10 A10 l10 c10,bI2 4 63 false none 0 0,bI2 3 63 s1 A1 l1 c1] ?_
 refine xe (sx_next (sx_seq (sx_seq ?_)))
 by_cases hr : x.tmod y < 0
 ·refine sx_draw 6 (by kernel_rfl) (by kernel_rfl) follows_mixed' ?_
  refine xf 1 [(3, .p 3 0),(4, .p 4 0),(5, .p 5 0),eI2 13 s11 A11 l11 c11] [bI2 6 63 s11 A11 l11 c11,bI2 5 63 s10 A10 l10 c10,bI2 4 63 false none 0 0,bI2 3 63 s1 A1 l1 c1] ?_
  refine xd 115 [vI2 s11 A11 l11 c11] 14 (fun _ : Unit => .int .i64 ((x).tmod (y)).sign) _ (fun w hE hΦ => (Sign_any _ ((x).tmod (y)) _ hΦ.2.2).mono (fun _ _ h => post_val h rfl)) (fun xx => ?_)
  refine xf 1 [(4, .p 4 0),(5, .p 5 0),(14, .v (.int .i64 ((x).tmod (y)).sign)),eI2 15 s1 A1 l1 c1] [bI2 6 63 s11 A11 l11 c11,bI2 5 63 s10 A10 l10 c10,bI2 4 63 false none 0 0,bI2 3 63 s1 A1 l1 c1] ?_
  refine xd 115 [vI2 s1 A1 l1 c1] 16 (fun _ : Unit => .int .i64 (y).sign) _ (fun w hE hΦ => (Sign_any _ (y) _ hΦ.1.1.2).mono (fun _ _ h => post_val h rfl)) (fun xx => ?_)
  refine xf 2 [(4, .p 4 0),(5, .p 5 0),(18, .v (.bool (decide ((IntKind.i64.wrap (((x).tmod (y)).sign * (y).sign)) < 0))))] [bI2 6 63 s11 A11 l11 c11,bI2 5 63 s10 A10 l10 c10,bI2 4 63 false none 0 0,bI2 3 63 s1 A1 l1 c1] ?_
  rw [fq_lt hy hr]
  refine xf 0 [(4, .p 4 0),(5, .p 5 0),(18, .v (.bool true))] [bI2 6 63 s11 A11 l11 c11,bI2 5 63 s10 A10 l10 c10,bI2 4 63 false none 0 0,bI2 3 63 s1 A1 l1 c1] ?_
  refine xz (xe (sx_next (xa (sx_seq ?_))))
  refine sx_draw 4 (by kernel_rfl) (by kernel_rfl) follows_mixed' ?_
  refine xf 1 [(4, .p 4 0),(5, .p 5 0),eI2 19 s10 A10 l10 c10] [bI2 6 63 s11 A11 l11 c11,bI2 5 63 s10 A10 l10 c10,bI2 4 63 false none 0 0,bI2 3 63 s1 A1 l1 c1] ?_
  refine xd 58 [.int .i64 1] 20 shInt _ (fun w hE hΦ => (New_pos 1 _ (by rw [W64_eq]; omega) (by decide) (by decide)).mono (fun _ _ h => post_Int h)) (fun xx => ?_)
  obtain ⟨s12,A12,l12,c12⟩ := xx
  refine xf 0 [(4, .p 4 0),(5, .p 5 0),eI2 19 s10 A10 l10 c10,eI2 20 s12 A12 l12 c12] [bI2 6 63 s11 A11 l11 c11,bI2 5 63 s10 A10 l10 c10,bI2 4 63 false none 0 0,bI2 3 63 s1 A1 l1 c1] ?_
  refine xd 170 [vI2 s10 A10 l10 c10,vI2 s12 A12 l12 c12] 21 shInt _ (fun w hE hΦ => (Sub_any _ _ ((x).tdiv (y)) (1) _ hΦ.1.1.1.2.1 hΦ.2 (fit (Nat.le_trans (wl_mono (by rw [Int.natAbs_tdiv]; exact Nat.div_le_self _ _)) hx) (by decide)) (fit (k := 1) (wl_one.2 (by rw [W64_eq]; decide)) (by decide))).mono (fun _ _ h => post_Int (by rw [fq_neg hy hr] at h; exact h))) (fun xx => ?_)
  obtain ⟨s13,A13,l13,c13⟩ := xx
  refine xf 1 [(4, .p 4 0),(5, .p 5 0)] [bI2 4 63 s13 A13 l13 c13,bI2 6 63 s11 A11 l11 c11,bI2 5 63 s10 A10 l10 c10,bI2 4 63 false none 0 0,bI2 3 63 s1 A1 l1 c1] ?_
  refine xz (xe (sx_next (sx_ret (sx_then_ret ?_))))
  refine sx_done (v := .agg #[.bool s13, .slice A13 l13 c13]) (by kernel_rfl) (fun w' hE hΦ => ?_)
  exact ⟨_,rfl,hΦ.2,hE⟩
 ·refine sx_draw 6 (by kernel_rfl) (by kernel_rfl) follows_mixed' ?_
  refine xf 1 [(3, .p 3 0),(4, .p 4 0),(5, .p 5 0),eI2 13 s11 A11 l11 c11] [bI2 6 63 s11 A11 l11 c11,bI2 5 63 s10 A10 l10 c10,bI2 4 63 false none 0 0,bI2 3 63 s1 A1 l1 c1] ?_
  refine xd 115 [vI2 s11 A11 l11 c11] 14 (fun _ : Unit => .int .i64 ((x).tmod (y)).sign) _ (fun w hE hΦ => (Sign_any _ ((x).tmod (y)) _ hΦ.2.2).mono (fun _ _ h => post_val h rfl)) (fun xx => ?_)
  refine xf 1 [(4, .p 4 0),(5, .p 5 0),(14, .v (.int .i64 ((x).tmod (y)).sign)),eI2 15 s1 A1 l1 c1] [bI2 6 63 s11 A11 l11 c11,bI2 5 63 s10 A10 l10 c10,bI2 4 63 false none 0 0,bI2 3 63 s1 A1 l1 c1] ?_
  refine xd 115 [vI2 s1 A1 l1 c1] 16 (fun _ : Unit => .int .i64 (y).sign) _ (fun w hE hΦ => (Sign_any _ (y) _ hΦ.1.1.2).mono (fun _ _ h => post_val h rfl)) (fun xx => ?_)
  refine xf 2 [(4, .p 4 0),(5, .p 5 0),(18, .v (.bool (decide ((IntKind.i64.wrap (((x).tmod (y)).sign * (y).sign)) < 0))))] [bI2 6 63 s11 A11 l11 c11,bI2 5 63 s10 A10 l10 c10,bI2 4 63 false none 0 0,bI2 3 63 s1 A1 l1 c1] ?_
  rw [fq_ge hy hr]
  refine xf 0 [(4, .p 4 0),(5, .p 5 0),(18, .v (.bool false))] [bI2 6 63 s11 A11 l11 c11,bI2 5 63 s10 A10 l10 c10,bI2 4 63 false none 0 0,bI2 3 63 s1 A1 l1 c1] ?_
  refine xz (xe (sx_next (xb (sx_skip (sx_next (sx_seq (sx_region (xr 2 [(4, .p 4 0)] [bI2 4 63 s10 A10 l10 c10] ?_))))))))
  refine xe (sx_next (sx_ret ?_))
  refine sx_done (v := .agg #[.bool s10, .slice A10 l10 c10]) (by kernel_rfl) (fun w' hE hΦ => ?_)
  exact ⟨_,rfl,(by rw [← fq_pos hy hr]; exact hΦ.1.1.2.1),hE⟩
set_option maxRecDepth 100000 in
theorem QFloor_any (a : Value) (q : Rat) (w : World) (ha : RatIs w a q) (hq : QFits q 38) :
 Calls Tryz.prog 91 #[a] w (RetInt w ((q).num / (q).den)) := by
 obtain ⟨s0,A0,l0,c0,t0,B0,m0,d0,rfl⟩ := ha.shp
 refine sx_enter (Φ := fun w => RatIs w (.agg #[.bool s0, .slice A0 l0 c0, .bool t0, .slice B0 m0 d0]) (q)) Tryz.func91 rfl (by kernel_rfl) (fun w' hf => ha.ext hf) ?_
 refine sx_seq (sx_region (xr 2 [(1, .p 1 0),(2, .p 2 0)] [bI2 2 63 false none 0 0,bR4 1 70 s0 A0 l0 c0 t0 B0 m0 d0] ?_))
 refine xe (sx_next (sx_seq (sx_seq (sx_region (xr 2 [(1, .p 1 0),(2, .p 2 0),eI2 4 t0 B0 m0 d0] [bI2 2 63 false none 0 0,bR4 1 70 s0 A0 l0 c0 t0 B0 m0 d0] ?_)))))
 by_cases hzd : denF q = 0
 ·refine xc 60 [vI2 t0 B0 m0 d0] 5 (fun _ : Unit => .bool true) _ (fun w hE hΦ => (IsZero_any _ (denF (q)) _ hΦ.den).mono (fun _ _ h => post_val h (by rw [decide_eq_true hzd]))) (fun xx => ?_)
  refine xr 0 [(1, .p 1 0),(2, .p 2 0),(5, .v (.bool true))] [bI2 2 63 false none 0 0,bR4 1 70 s0 A0 l0 c0 t0 B0 m0 d0] ?_
  refine xe (sx_next (xa (sx_seq (sx_region (xr 3 [(1, .p 1 0),(2, .p 2 0)] [bI2 2 63 s0 A0 l0 c0,bR4 1 70 s0 A0 l0 c0 t0 B0 m0 d0] ?_)))))
  refine xe (sx_next (sx_ret (sx_then_ret ?_)))
  refine sx_done (v := .agg #[.bool s0, .slice A0 l0 c0]) (by kernel_rfl) (fun w' hE hΦ => ?_)
  exact ⟨_,rfl,(by rw [denF_zero.1 hzd]; show IntIs _ _ ((q).num / ((1 : Nat) : Int)); rw [show (((1 : Nat)) : Int) = 1 from rfl,Int.ediv_one]; exact hΦ.1.num),hE⟩
 ·refine xc 60 [vI2 t0 B0 m0 d0] 5 (fun _ : Unit => .bool false) _ (fun w hE hΦ => (IsZero_any _ (denF (q)) _ hΦ.den).mono (fun _ _ h => post_val h (by rw [decide_eq_false hzd]))) (fun xx => ?_)
  refine xr 0 [(1, .p 1 0),(2, .p 2 0),(5, .v (.bool false))] [bI2 2 63 false none 0 0,bR4 1 70 s0 A0 l0 c0 t0 B0 m0 d0] ?_
  refine xe (sx_next (xb (sx_skip (sx_next (sx_seq (sx_region (xr 4 [(2, .p 2 0),eI2 9 s0 A0 l0 c0,eI2 11 t0 B0 m0 d0] [bI2 2 63 false none 0 0] ?_)))))))
  refine xc 138 [vI2 s0 A0 l0 c0,vI2 t0 B0 m0 d0] 12 shInt _ (fun w hE hΦ => (FloorQuo_any _ _ (q).num (denF q) _ hΦ.1.num hΦ.1.den (fit hq.1 (by decide)) (by rw [gqden hzd]; exact Nat.lt_of_le_of_lt (wlc hq.2) (by decide)) (by rw [gqden hzd]; have := Rat.den_pos q; omega)).mono (fun _ _ h => post_Int (by rw [gqden hzd] at h; exact h))) (fun xx => ?_)
  obtain ⟨s10,A10,l10,c10⟩ := xx
  refine xr 1 [(2, .p 2 0)] [bI2 2 63 s10 A10 l10 c10] ?_
  refine xe (sx_next (sx_ret ?_))
  refine sx_done (v := .agg #[.bool s10, .slice A10 l10 c10]) (by kernel_rfl) (fun w' hE hΦ => ?_)
  exact ⟨_,rfl,hΦ.2,hE⟩
set_option maxRecDepth 100000 in
theorem TFloor_any (s : ByteArray) (w : World) (hg : Glob w) (hs : (bytes s).length ≤ 570) :
 Calls Tryz.prog 34 #[.string s] w (RetV w (.string ⟨(Lib.itoa ((valF (bytes s)).num / (valF (bytes s)).den)).toArray⟩)) := by
 have fa := valF_fits hs
 refine sx_enter (Φ := fun w => Glob w) Tryz.func34 rfl (by kernel_rfl) (fun w' hf => hg.ext hf) ?_
 refine sx_seq (sx_region (xr 1 [(0, .v (.string s)),(2, .v (.string ⟨#[]⟩))] [] ?_))
 refine xe (sx_next (sx_seq (sx_region (xr 1 [(2, .v (.string ⟨#[]⟩)),(3, .v (.string s))] [] ?_))))
 refine xc 75 [.string s] 4 shRat _ (fun w hE hΦ => (value_any s _ hΦ (ReadOk.of_len hs)).mono (fun _ _ h => post_Rat h)) (fun xx => ?_)
 obtain ⟨s10,A10,l10,c10,t10,B10,m10,d10⟩ := xx
 refine xr 0 [(2, .v (.string ⟨#[]⟩)),eR4 4 s10 A10 l10 c10 t10 B10 m10 d10] [] ?_
 refine xc 91 [vR4 s10 A10 l10 c10 t10 B10 m10 d10] 5 shInt _ (fun w hE hΦ => (QFloor_any _ (valF (bytes s)) _ hΦ.2 (fa.up (by decide))).mono (fun _ _ h => post_Int h)) (fun xx => ?_)
 obtain ⟨s11,A11,l11,c11⟩ := xx
 refine xr 0 [(2, .v (.string ⟨#[]⟩)),eI2 5 s11 A11 l11 c11] [] ?_
 refine xc 92 [vI2 s11 A11 l11 c11] 6 (fun _ : Unit => .string ⟨(Lib.itoa ((valF (bytes s)).num / (valF (bytes s)).den)).toArray⟩) _ (fun w hE hΦ => (String_any _ ((valF (bytes s)).num / (valF (bytes s)).den) _ hΦ.1.1 hΦ.2 (by have := Nat.le_trans (wl_mono (fq_abs (valF (bytes s)))) fa.1; unfold PrtOk; omega)).mono (fun _ _ h => post_val h rfl)) (fun xx => ?_)
 refine xr 1 [(2, .v (.string ⟨(Lib.itoa ((valF (bytes s)).num / (valF (bytes s)).den)).toArray⟩))] [] ?_
 refine xe (sx_next (sx_ret ?_))
 refine sx_done (v := .string ⟨(Lib.itoa ((valF (bytes s)).num / (valF (bytes s)).den)).toArray⟩) (by kernel_rfl) (fun w' hE hΦ => ?_)
 exact ⟨rfl,hE⟩
set_option maxRecDepth 100000 in
theorem TGCD_any (s t : ByteArray) (w : World) (hg : Glob w) (hs : (bytes s).length ≤ 570) (ht : (bytes t).length ≤ 570) :
 Calls Tryz.prog 32 #[.string s, .string t] w (RetV w (.string ⟨(ratText (gcdQ (valF (bytes s)) (valF (bytes t)))).toArray⟩)) := by
 have fa := valF_fits hs
 have fb := valF_fits ht
 have HP := prt_gq fa fb
 have HG := gq_wl fa fb
 refine sx_enter (Φ := fun w => Glob w) Tryz.func32 rfl (by kernel_rfl) (fun w' hf => hg.ext hf) ?_
 refine sx_seq (sx_region (xr 1 [(0, .v (.string s)),(1, .v (.string t)),(4, .v (.string ⟨#[]⟩))] [] ?_))
 refine xe (sx_next (sx_seq (sx_region (xr 1 [(1, .v (.string t)),(4, .v (.string ⟨#[]⟩)),(8, .v (.string s))] [] ?_))))
 refine xc 75 [.string s] 9 shRat _ (fun w hE hΦ => (value_any s _ hΦ (ReadOk.of_len hs)).mono (fun _ _ h => post_Rat h)) (fun xx => ?_)
 obtain ⟨s10,A10,l10,c10,t10,B10,m10,d10⟩ := xx
 refine xr 1 [(4, .v (.string ⟨#[]⟩)),eR4 9 s10 A10 l10 c10 t10 B10 m10 d10,(10, .v (.string t))] [] ?_
 refine xc 75 [.string t] 11 shRat _ (fun w hE hΦ => (value_any t _ hΦ.1 (ReadOk.of_len ht)).mono (fun _ _ h => post_Rat h)) (fun xx => ?_)
 obtain ⟨s11,A11,l11,c11,t11,B11,m11,d11⟩ := xx
 refine xr 4 [(4, .v (.string ⟨#[]⟩)),(5, .p 5 0),(6, .p 6 0)] [bR4 6 70 s11 A11 l11 c11 t11 B11 m11 d11,bR4 5 70 s10 A10 l10 c10 t10 B10 m10 d10] ?_
 refine xe (sx_next (sx_seq ?_))
 refine sx_draw 13 (by kernel_rfl) (by kernel_rfl) follows_mixed' ?_
 refine xf 3 [(4, .v (.string ⟨#[]⟩)),(5, .p 5 0),(6, .p 6 0),eI2 13 s10 A10 l10 c10,eR4 14 s11 A11 l11 c11 t11 B11 m11 d11] [bR4 6 70 s11 A11 l11 c11 t11 B11 m11 d11,bR4 5 70 s10 A10 l10 c10 t10 B10 m10 d10] ?_
 refine xd 89 [vR4 s11 A11 l11 c11 t11 B11 m11 d11] 15 shInt _ (fun w hE hΦ => (Den_any _ (valF (bytes t)) _ hΦ.2).mono (fun _ _ h => post_Int h)) (fun xx => ?_)
 obtain ⟨s12,A12,l12,c12⟩ := xx
 refine xf 0 [(4, .v (.string ⟨#[]⟩)),(5, .p 5 0),(6, .p 6 0),eI2 13 s10 A10 l10 c10,eI2 15 s12 A12 l12 c12] [bR4 6 70 s11 A11 l11 c11 t11 B11 m11 d11,bR4 5 70 s10 A10 l10 c10 t10 B10 m10 d10] ?_
 refine xd 88 [vI2 s10 A10 l10 c10,vI2 s12 A12 l12 c12] 16 shInt _ (fun w hE hΦ => (Mul_any _ _ ((valF (bytes s)).num) (((valF (bytes t)).den : Int)) _ hΦ.1.1.2.num hΦ.2 (fit fa.1 (by decide)) (fit (wlc fb.2) (by decide)) (Or.inl (Nat.lt_of_le_of_lt fa.1 (by decide)))).mono (fun _ _ h => post_Int h)) (fun xx => ?_)
 obtain ⟨s13,A13,l13,c13⟩ := xx
 refine xf 3 [(4, .v (.string ⟨#[]⟩)),(5, .p 5 0),(6, .p 6 0),eI2 16 s13 A13 l13 c13,eI2 18 s11 A11 l11 c11,eR4 19 s10 A10 l10 c10 t10 B10 m10 d10] [bR4 6 70 s11 A11 l11 c11 t11 B11 m11 d11,bR4 5 70 s10 A10 l10 c10 t10 B10 m10 d10] ?_
 refine xd 89 [vR4 s10 A10 l10 c10 t10 B10 m10 d10] 20 shInt _ (fun w hE hΦ => (Den_any _ (valF (bytes s)) _ hΦ.1.1.1.2).mono (fun _ _ h => post_Int h)) (fun xx => ?_)
 obtain ⟨s14,A14,l14,c14⟩ := xx
 refine xf 0 [(4, .v (.string ⟨#[]⟩)),(5, .p 5 0),(6, .p 6 0),eI2 16 s13 A13 l13 c13,eI2 18 s11 A11 l11 c11,eI2 20 s14 A14 l14 c14] [bR4 6 70 s11 A11 l11 c11 t11 B11 m11 d11,bR4 5 70 s10 A10 l10 c10 t10 B10 m10 d10] ?_
 refine xd 88 [vI2 s11 A11 l11 c11,vI2 s14 A14 l14 c14] 21 shInt _ (fun w hE hΦ => (Mul_any _ _ ((valF (bytes t)).num) (((valF (bytes s)).den : Int)) _ hΦ.1.1.1.2.num hΦ.2 (fit fb.1 (by decide)) (fit (wlc fa.2) (by decide)) (Or.inl (Nat.lt_of_le_of_lt fb.1 (by decide)))).mono (fun _ _ h => post_Int h)) (fun xx => ?_)
 obtain ⟨s15,A15,l15,c15⟩ := xx
 refine xf 0 [(4, .v (.string ⟨#[]⟩)),(5, .p 5 0),(6, .p 6 0),eI2 16 s13 A13 l13 c13,eI2 21 s15 A15 l15 c15] [bR4 6 70 s11 A11 l11 c11 t11 B11 m11 d11,bR4 5 70 s10 A10 l10 c10 t10 B10 m10 d10] ?_
 refine xd 90 [vI2 s13 A13 l13 c13,vI2 s15 A15 l15 c15] 22 shInt _ (fun w hE hΦ => (GCD_any _ _ ((valF (bytes s)).num * ((valF (bytes t)).den : Int)) ((valF (bytes t)).num * ((valF (bytes s)).den : Int)) _ hΦ.1.1.1.1.1.1 hΦ.1.1.2 hΦ.2 (fit (wlm fa.1 (wlc fb.2)) (by decide)) (fit (wlm fb.1 (wlc fa.2)) (by decide)) (GcdOk.words (Nat.le_trans (wlm fa.1 (wlc fb.2)) (by decide)) (Nat.le_trans (wlm fb.1 (wlc fa.2)) (by decide)))).mono (fun _ _ h => post_Int h)) (fun xx => ?_)
 obtain ⟨s16,A16,l16,c16⟩ := xx
 refine xf 2 [(4, .v (.string ⟨#[]⟩)),(5, .p 5 0),(6, .p 6 0),(7, .p 7 0)] [bI2 7 63 s16 A16 l16 c16,bI2 7 63 false none 0 0,bR4 6 70 s11 A11 l11 c11 t11 B11 m11 d11,bR4 5 70 s10 A10 l10 c10 t10 B10 m10 d10] ?_
 refine xz (xe (sx_next (sx_seq ?_)))
 refine sx_draw 9 (by kernel_rfl) (by kernel_rfl) follows_mixed' ?_
 refine xf 2 [(4, .v (.string ⟨#[]⟩)),(6, .p 6 0),eI2 23 s16 A16 l16 c16,eR4 24 s10 A10 l10 c10 t10 B10 m10 d10] [bI2 7 63 s16 A16 l16 c16,bI2 7 63 false none 0 0,bR4 6 70 s11 A11 l11 c11 t11 B11 m11 d11,bR4 5 70 s10 A10 l10 c10 t10 B10 m10 d10] ?_
 refine xd 89 [vR4 s10 A10 l10 c10 t10 B10 m10 d10] 25 shInt _ (fun w hE hΦ => (Den_any _ (valF (bytes s)) _ hΦ.1.1.1.1.1.1.2).mono (fun _ _ h => post_Int h)) (fun xx => ?_)
 obtain ⟨s17,A17,l17,c17⟩ := xx
 refine xf 1 [(4, .v (.string ⟨#[]⟩)),eI2 23 s16 A16 l16 c16,eI2 25 s17 A17 l17 c17,eR4 26 s11 A11 l11 c11 t11 B11 m11 d11] [bI2 7 63 s16 A16 l16 c16,bI2 7 63 false none 0 0,bR4 6 70 s11 A11 l11 c11 t11 B11 m11 d11,bR4 5 70 s10 A10 l10 c10 t10 B10 m10 d10] ?_
 refine xd 89 [vR4 s11 A11 l11 c11 t11 B11 m11 d11] 27 shInt _ (fun w hE hΦ => (Den_any _ (valF (bytes t)) _ hΦ.1.1.1.1.1.1.2).mono (fun _ _ h => post_Int h)) (fun xx => ?_)
 obtain ⟨s18,A18,l18,c18⟩ := xx
 refine xf 0 [(4, .v (.string ⟨#[]⟩)),eI2 23 s16 A16 l16 c16,eI2 25 s17 A17 l17 c17,eI2 27 s18 A18 l18 c18] [bI2 7 63 s16 A16 l16 c16,bI2 7 63 false none 0 0,bR4 6 70 s11 A11 l11 c11 t11 B11 m11 d11,bR4 5 70 s10 A10 l10 c10 t10 B10 m10 d10] ?_
 refine xd 88 [vI2 s17 A17 l17 c17,vI2 s18 A18 l18 c18] 28 shInt _ (fun w hE hΦ => (Mul_any _ _ (((valF (bytes s)).den : Int)) (((valF (bytes t)).den : Int)) _ hΦ.1.2 hΦ.2 (fit (wlc fa.2) (by decide)) (fit (wlc fb.2) (by decide)) (Or.inl (Nat.lt_of_le_of_lt (wlc fa.2) (by decide)))).mono (fun _ _ h => post_Int h)) (fun xx => ?_)
 obtain ⟨s19,A19,l19,c19⟩ := xx
 refine xf 0 [(4, .v (.string ⟨#[]⟩)),eI2 23 s16 A16 l16 c16,eI2 28 s19 A19 l19 c19] [bI2 7 63 s16 A16 l16 c16,bI2 7 63 false none 0 0,bR4 6 70 s11 A11 l11 c11 t11 B11 m11 d11,bR4 5 70 s10 A10 l10 c10 t10 B10 m10 d10] ?_
 refine xd 62 [vI2 s16 A16 l16 c16,vI2 s19 A19 l19 c19] 29 shRat _ (fun w hE hΦ => (Fraction_any _ _ (((Int.gcd ((valF (bytes s)).num * ((valF (bytes t)).den : Int)) ((valF (bytes t)).num * ((valF (bytes s)).den : Int)) : Nat) : Int)) (((valF (bytes s)).den : Int) * ((valF (bytes t)).den : Int)) _ hΦ.1.1.1.1.1.1.1.1.1.1 hΦ.1.1.1.2 hΦ.2 (fit HG (by decide)) (fit (wlm (wlc fa.2) (wlc fb.2)) (by decide)) (GcdOk.words (Nat.le_trans HG (by decide)) (Nat.le_trans (wlm (wlc fa.2) (wlc fb.2)) (by decide))) (Nat.lt_of_le_of_lt (wlm (wlc fa.2) (wlc fb.2)) (by decide)) (by have := gq_pos (valF (bytes s)) (valF (bytes t)); omega)).mono (fun _ _ h => post_Rat (by rw [show Rat.divInt (((Int.gcd ((valF (bytes s)).num * ((valF (bytes t)).den : Int)) ((valF (bytes t)).num * ((valF (bytes s)).den : Int)) : Nat) : Int)) (((valF (bytes s)).den : Int) * ((valF (bytes t)).den : Int)) = gcdQ (valF (bytes s)) (valF (bytes t)) from rfl] at h; exact h))) (fun xx => ?_)
 obtain ⟨s20,A20,l20,c20,t20,B20,m20,d20⟩ := xx
 refine xf 0 [(4, .v (.string ⟨#[]⟩)),eR4 29 s20 A20 l20 c20 t20 B20 m20 d20] [bI2 7 63 s16 A16 l16 c16,bI2 7 63 false none 0 0,bR4 6 70 s11 A11 l11 c11 t11 B11 m11 d11,bR4 5 70 s10 A10 l10 c10 t10 B10 m10 d10] ?_
 refine xd 63 [vR4 s20 A20 l20 c20 t20 B20 m20 d20] 30 (fun _ : Unit => .string ⟨(ratText (gcdQ (valF (bytes s)) (valF (bytes t)))).toArray⟩) _ (fun w hE hΦ => (RString_any _ (gcdQ (valF (bytes s)) (valF (bytes t))) _ hΦ.1.1.1.1.1.1.1.1.1.1.1 hΦ.2 HP.1 HP.2).mono (fun _ _ h => post_val h rfl)) (fun xx => ?_)
 refine xf 1 [(4, .v (.string ⟨(ratText (gcdQ (valF (bytes s)) (valF (bytes t)))).toArray⟩))] [bI2 7 63 s16 A16 l16 c16,bI2 7 63 false none 0 0,bR4 6 70 s11 A11 l11 c11 t11 B11 m11 d11,bR4 5 70 s10 A10 l10 c10 t10 B10 m10 d10] ?_
 refine xz (xe (sx_next (sx_ret ?_)))
 refine sx_done (v := .string ⟨(ratText (gcdQ (valF (bytes s)) (valF (bytes t)))).toArray⟩) (by kernel_rfl) (fun w' hE hΦ => ?_)
 exact ⟨rfl,hE⟩
set_option maxRecDepth 100000 in
theorem TSign_any (s : ByteArray) (w : World) (hg : Glob w) (hs : (bytes s).length ≤ 570) :
 Calls Tryz.prog 33 #[.string s] w (RetV w (.int .i64 (valF (bytes s)).num.sign)) := by
 refine sx_enter (Φ := fun w => Glob w) Tryz.func33 rfl (by kernel_rfl) (fun w' hf => hg.ext hf) ?_
 refine sx_seq (sx_region (xr 1 [(0, .v (.string s)),(2, .v (.int .i64 0))] [] ?_))
 refine xe (sx_next (sx_seq (sx_block (sx_seq ?_))))
 by_cases h48 : bytes s = [48]
 ·refine sx_region (xr 2 [(0, .v (.string s)),(2, .v (.int .i64 0)),(5, .v (.bool ((s : ByteArray).toList == (⟨#[48]⟩ : ByteArray).toList)))] [] ?_)
  rw [lit48_t h48]
  refine xr 6 [(0, .v (.string s)),(2, .v (.int .i64 0)),(3, .v (.bool true))] [] ?_
  refine xe (sx_next (xa (sx_seq (sx_region (xr 1 [(2, .v (.int .i64 0))] [] ?_)))))
  refine xe (sx_next (sx_ret (sx_in_ret (sx_then_ret ?_))))
  refine sx_done (v := .int .i64 0) (by kernel_rfl) (fun w' hE hΦ => ?_)
  exact ⟨by rw [valF_of (show ratText 0 = bytes s by rw [h48]; exact zt)]; rfl,hE⟩
 ·refine sx_region (xr 2 [(0, .v (.string s)),(2, .v (.int .i64 0)),(5, .v (.bool ((s : ByteArray).toList == (⟨#[48]⟩ : ByteArray).toList)))] [] ?_)
  rw [lit48_f h48]
  refine xr 2 [(0, .v (.string s)),(2, .v (.int .i64 0)),(6, .v (.bool false)),(7, .v (.string s))] [] ?_
  by_cases hv : (readF (bytes s)).isSome = true
  ·obtain ⟨q,hq⟩ := Option.isSome_iff_exists.1 hv
   obtain ⟨c0,h0,hc0⟩ := str_head' (s := s) (fun e => by rw [e,show readF [] = none from rfl] at hq; cases hq)
   refine xc 52 [.string s] 8 (fun _ : Unit => .bool true) _ (fun w hE hΦ => (Valid_any s _ hΦ hs).mono (fun _ _ h => post_val h (by rw [hv]))) (fun xx => ?_)
   refine xr 3 [(0, .v (.string s)),(2, .v (.int .i64 0)),(3, .v (.bool false))] [] ?_
   refine xe (sx_next (xb (sx_seq ?_)))
   by_cases hm : c0 = 45
   ·refine sx_region (xr 1 [(2, .v (.int .i64 0)),(12, .v (.string s))] [] ?_)
    refine sx_look 13 (.int .u8 (c0.toNat : Int)) (by kernel_rfl) (by kernel_rfl) (by kernel_rfl) (by kernel_rfl) (by kernel_rfl) (by kernel_rfl) (fun w hE hΦ => run_stridx' (t := 9) (x := .tmp 12) (k := 0) (i := .const (.int .i64 0)) (by kernel_rfl) (by kernel_rfl) (by kernel_rfl) (by rfl) hc0) ?_
    refine xr 1 [(2, .v (.int .i64 0)),(14, .v (.bool (((c0.toNat : Int) : Int) == 45)))] [] ?_
    rw [(show ((c0.toNat : Int) == 45) = true from by rw [hm]; rfl)]
    refine xr 1 [(2, .v (.int .i64 0)),(11, .v (.bool true))] [] ?_
    refine xe (sx_next (xa (sx_seq (sx_region (xr 1 [(2, .v (.int .i64 (-1)))] [] ?_)))))
    refine xe (sx_next (sx_ret (sx_in_ret (sx_then_ret ?_))))
    refine sx_done (v := .int .i64 (-1)) (by kernel_rfl) (fun w' hE hΦ => ?_)
    exact ⟨by rw [valF_some hq,Int.sign_eq_neg_one_of_neg ((sgn_txt hq h0).1 hm)],hE⟩
   ·refine sx_region (xr 1 [(2, .v (.int .i64 0)),(12, .v (.string s))] [] ?_)
    refine sx_look 13 (.int .u8 (c0.toNat : Int)) (by kernel_rfl) (by kernel_rfl) (by kernel_rfl) (by kernel_rfl) (by kernel_rfl) (by kernel_rfl) (fun w hE hΦ => run_stridx' (t := 9) (x := .tmp 12) (k := 0) (i := .const (.int .i64 0)) (by kernel_rfl) (by kernel_rfl) (by kernel_rfl) (by rfl) hc0) ?_
    refine xr 1 [(2, .v (.int .i64 0)),(14, .v (.bool (((c0.toNat : Int) : Int) == 45)))] [] ?_
    rw [(show ((c0.toNat : Int) == 45) = false from u8_ne' (b := 45) hm)]
    refine xr 1 [(2, .v (.int .i64 0)),(11, .v (.bool false))] [] ?_
    refine xe (sx_next (xb (sx_skip (sx_out (sx_next (sx_seq (sx_region (xr 1 [(2, .v (.int .i64 1))] [] ?_))))))))
    refine xe (sx_next (sx_ret ?_))
    refine sx_done (v := .int .i64 1) (by kernel_rfl) (fun w' hE hΦ => ?_)
    exact ⟨by rw [valF_some hq,Int.sign_eq_one_of_pos (by have h1 := (sgn_txt hq h0).2 hm; have h2 : q.num ≠ 0 := fun e => h48 (zero_txt hq e); omega)],hE⟩
  ·refine xc 52 [.string s] 8 (fun _ : Unit => .bool false) _ (fun w hE hΦ => (Valid_any s _ hΦ hs).mono (fun _ _ h => post_val h (by rw [Bool.eq_false_iff.2 hv]))) (fun xx => ?_)
   refine xr 3 [(0, .v (.string s)),(2, .v (.int .i64 0)),(3, .v (.bool true))] [] ?_
   refine xe (sx_next (xa (sx_seq (sx_region (xr 1 [(2, .v (.int .i64 0))] [] ?_)))))
   refine xe (sx_next (sx_ret (sx_in_ret (sx_then_ret ?_))))
   refine sx_done (v := .int .i64 0) (by kernel_rfl) (fun w' hE hΦ => ?_)
   exact ⟨by rw [valF_none (by cases h : readF (bytes s) with | none => rfl | some q => rw [h] at hv; exact absurd rfl hv)]; rfl,hE⟩
end Go.Proofs.YtibipjlohahekaaGreatDoor

namespace Go.Proofs.YtibipjlohahekaaGreatDoor
open Go.RowKit
section
variable {s t : ByteArray} {p q r : Rat} {w : World}
theorem sGCD (hg : Glob w) (hp : StrIs s p) (hq : StrIs t q) (hr : gcdQ p q = r) : Calls Tryz.prog 32 #[.string s, .string t] w (RetV w (.string ⟨(ratText r).toArray⟩)) := by
 have := TGCD_any s t w hg hp.2 hq.2
 rwa [hp.1,hq.1,hr] at this
theorem sSign (hg : Glob w) (hp : StrIs s p) : Calls Tryz.prog 33 #[.string s] w (RetV w (.int .i64 (p).num.sign)) := by
 have := TSign_any s w hg hp.2
 rwa [hp.1] at this
theorem sFloor (hg : Glob w) (hp : StrIs s p) : Calls Tryz.prog 34 #[.string s] w (RetV w (.string ⟨(Lib.itoa ((p).num / (p).den)).toArray⟩)) := by
 have := TFloor_any s w hg hp.2
 rwa [hp.1] at this
end
theorem sg_z {q : Rat} (h : q.num = 0) : ((q.num.sign : Int) == 0) = true := by rw [h]; rfl
theorem sg_nz {q : Rat} (h : ¬ q.num = 0) : ((q.num.sign : Int) == 0) = false := by
 rw [beq_eq_false_iff_ne]; exact fun e => h (Int.sign_eq_zero_iff_zero.1 e)
theorem one_txt : ratText 1 = [49] := rt_whole (n := 1) (by decide) (by decide) (by decide)
theorem int_txt (x : Int) : ratText ((x : Int) : Rat) = Lib.itoa x := by unfold ratText; exact if_pos rfl
theorem floor_int (x : Int) : Lib.itoa (((x : Int) : Rat).num / (((x : Int) : Rat).den : Int)) = ratText ((x : Int) : Rat) := by
 rw [int_txt,show ((x : Int) : Rat).num = x from rfl,show (((x : Int) : Rat).den : Int) = 1 from rfl,Int.ediv_one]
theorem gq_small {a b : Rat} (ha : a.num.natAbs < 10 ^ 100 ∧ a.den < 10 ^ 100) (hb : b.num.natAbs < 10 ^ 100 ∧ b.den < 10 ^ 100) : (gcdQ a b).num.natAbs < 10 ^ 201 ∧ (gcdQ a b).den < 10 ^ 201 := by
 obtain ⟨k,hk⟩ : ∃ k,100 = k := ⟨_,rfl⟩
 rw [hk] at ha hb
 have h201 : (201 : Nat) = 2 * k + 1 := by omega
 rw [h201]
 have mm : ∀ x y : Nat,x < 10 ^ k → y < 10 ^ k → x * y < 10 ^ (2 * k) := fun x y hx hy => by
  have := Nat.mul_lt_mul'' hx hy
  rwa [← Nat.pow_add,show k + k = 2 * k by omega] at this
 have m1 := mm _ _ ha.1 hb.2
 have m2 := mm _ _ hb.1 ha.2
 have m3 := mm _ _ ha.2 hb.2
 refine frac_small (by have := gq_pos a b; omega) rfl ?_ ?_
 ·rw [Int.natAbs_natCast,Nat.pow_succ]
  have e1 : (a.num * b.den).natAbs = a.num.natAbs * b.den := by rw [Int.natAbs_mul,Int.natAbs_natCast]
  have e2 : (b.num * a.den).natAbs = b.num.natAbs * a.den := by rw [Int.natAbs_mul,Int.natAbs_natCast]
  rcases Nat.eq_zero_or_pos (a.num * b.den).natAbs with h | h
  ·have : Int.gcd (a.num * b.den) (b.num * a.den) = (b.num * a.den).natAbs := by unfold Int.gcd; rw [h,Nat.gcd_zero_left]
   rw [this,e2]; omega
  ·have : Int.gcd (a.num * b.den) (b.num * a.den) ≤ (a.num * b.den).natAbs := Nat.gcd_le_left _ h
   omega
 ·rw [Int.natAbs_mul,Int.natAbs_natCast,Int.natAbs_natCast,Nat.pow_succ]; omega
theorem quo_abs {a g : Rat} {x : Int} (hg : 0 < g.num) (h : a = x * g) (ha : a.num.natAbs < 10 ^ 100) (hd : g.den < 10 ^ 201) : x.natAbs < 10 ^ (100 + 201) := by
 have h1 : Rat.divInt (x * g.num) (1 * g.den) = a := by rw [← Rat.divInt_mul_divInt,Rat.num_divInt_den,int_div1,h]
 have h2 := frac_cross (by have := g.den_nz; omega) h1
 rw [Int.one_mul] at h2
 have h3 := congrArg Int.natAbs h2
 rw [Int.natAbs_mul,Int.natAbs_mul,Int.natAbs_mul,Int.natAbs_natCast,Int.natAbs_natCast] at h3
 have hgn : 0 < g.num.natAbs := by omega
 have had := Rat.den_pos a
 have h4 : x.natAbs ≤ x.natAbs * g.num.natAbs * a.den := Nat.le_trans (Nat.le_mul_of_pos_right _ hgn) (Nat.le_mul_of_pos_right _ had)
 rw [← h3] at h4
 have h5 := Nat.mul_lt_mul'' ha hd
 rw [← Nat.pow_add] at h5
 exact Nat.lt_of_le_of_lt h4 h5
theorem int_len {x : Int} {k : Nat} (h : x.natAbs < 10 ^ k) (hk : 1 ≤ k := by decide) (hk2 : k + 1 ≤ 570 := by decide) : (ratText ((x : Int) : Rat)).length ≤ 570 := by
 rw [int_txt]; exact Nat.le_trans (itoa_le hk h) hk2
theorem up_small {a : Rat} (ha : a.num.natAbs < 10 ^ 100 ∧ a.den < 10 ^ 100) : a.num.natAbs < 10 ^ 120 ∧ a.den < 10 ^ 120 :=
 ⟨Nat.lt_of_lt_of_le ha.1 (Nat.pow_le_pow_right (by omega) (by decide)),Nat.lt_of_lt_of_le ha.2 (Nat.pow_le_pow_right (by omega) (by decide))⟩
theorem mul_small {a b : Rat} (ha : a.num.natAbs < 10 ^ 100 ∧ a.den < 10 ^ 100) (hb : b.num.natAbs < 10 ^ 20 ∧ b.den < 10 ^ 20) : (a * b).num.natAbs < 10 ^ 120 ∧ (a * b).den < 10 ^ 120 := by
 have h1 := Nat.mul_lt_mul'' ha.1 hb.1
 have h2 := Nat.mul_lt_mul'' ha.2 hb.2
 rw [← Nat.pow_add] at h1 h2
 exact frac_small (Int.mul_ne_zero (denI a) (denI b)) (rat_mul_frac a b) (by rw [Int.natAbs_mul]; exact h1) (by rw [Int.natAbs_mul,Int.natAbs_natCast,Int.natAbs_natCast]; exact h2)
theorem rat_mul_div (x g : Rat) (h : g ≠ 0) : x * g / g = x := by grind
theorem rat_comb (a b g x y n : Rat) (ha : a = x * g) (hb : b = y * g) : a + b * n = (x + n * y) * g := by grind
set_option maxRecDepth 100000 in
theorem rationalGCD_any (a b : ByteArray) (n : Int) (w : World) (hg : Glob w) (hn1 : -9223372036854775808 ≤ n) (hn2 : n ≤ 9223372036854775807) :
 Calls Tryz.prog 8 #[.string a, .string b, .int .i64 n] w (RetV w (.bool true)) := by
 obtain ⟨r,hr⟩ : ∃ r,[a,b].all (fun s => decide ((s.size : Int) ≤ 100)) = r := ⟨_,rfl⟩
 obtain ⟨A,hA⟩ : ∃ q,valF (bytes a) = q := ⟨_,rfl⟩
 obtain ⟨B,hB⟩ : ∃ q,valF (bytes b) = q := ⟨_,rfl⟩
 obtain ⟨G,hG⟩ : ∃ q : Rat,gcdQ A B = q := ⟨_,rfl⟩
 refine sx_enter (Φ := fun w => Glob w) Tryz.func8 rfl (by kernel_rfl) (fun w' hf => hg.ext hf) ?_
 refine sx_seq (sx_region (xr 1 [(0, .v (.string a)),(1, .v (.string b)),(2, .v (.int .i64 n)),(6, .v (.bool false))] [] ?_))
 refine xe (sx_next (sx_seq (sx_seq (sx_region (xr 2 [(0, .v (.string a)),(1, .v (.string b)),(2, .v (.int .i64 n)),(6, .v (.bool false)),(12, .v (.string a)),(13, .v (.string b))] [] ?_)))))
 refine sx_does (d := 14) (fun zb : Nat => .slice (some ⟨zb,0,none⟩) 2 2) (fun zb zw => Blk 9 zw zb #[.string a, .string b]) (by kernel_rfl) (by kernel_rfl) (by kernel_rfl) (by kernel_rfl) (by kernel_rfl) (by kernel_rfl) (fun w hE hΦ => does_bslice (t := 80) (e := 9) (n := 2) (sz := 1) (z := .string ⟨#[]⟩) (parts := #[(0,Operand.tmp 12),(1,Operand.tmp 13)]) (by kernel_rfl) (by kernel_rfl) (by kernel_rfl) (by kernel_rfl) (by kernel_rfl) (by kernel_rfl)) (fun b10 => ?_)
 refine xr 0 [(0, .v (.string a)),(1, .v (.string b)),(2, .v (.int .i64 n)),(6, .v (.bool false)),eS1 14 (some ⟨b10,0,none⟩) 2 2] [] ?_
 refine xc 17 [.int .i64 100, .slice (some ⟨b10,0,none⟩) 2 2] 15 (fun _ : Unit => .bool r) _ (fun w hE hΦ => (short2 hΦ.2 hr).mono (fun _ _ h => post_val h rfl)) (fun xx => ?_)
 rcases r with _ | _
 ·refine xr 1 [(0, .v (.string a)),(1, .v (.string b)),(2, .v (.int .i64 n)),(6, .v (.bool false)),(16, .v (.bool true))] [] ?_
  refine xe (sx_next (xa (sx_seq (sx_region ?_))))
  refine xc 13 [] 17 (fun _ : Unit => .bool true) _ (fun w hE hΦ => (awake1_any _ hΦ.1.1).mono (fun _ _ h => post_val h rfl)) (fun xx => ?_)
  refine xr 1 [(0, .v (.string a)),(1, .v (.string b)),(2, .v (.int .i64 n)),(6, .v (.bool true))] [] ?_
  refine xe (sx_next (sx_ret (sx_then_ret ?_)))
  refine sx_done (v := .bool true) (by kernel_rfl) (fun w' hE hΦ => ?_)
  exact ⟨rfl,hE⟩
 ·have HL := short_all2 hr
  have La : (bytes a).length ≤ 100 := by have := HL.1; omega
  have Lb : (bytes b).length ≤ 100 := by have := HL.2; omega
  have DA := valF_dec La (by decide)
  have DB := valF_dec Lb (by decide)
  rw [hA] at DA
  rw [hB] at DB
  have SA : StrIs a A := ⟨hA,Nat.le_trans La (by decide)⟩
  have SB : StrIs b B := ⟨hB,Nat.le_trans Lb (by decide)⟩
  have SG : StrIs ⟨(ratText G).toArray⟩ G := StrIs.of (by rw [← hG]; exact small_len (k := 201) (by decide) (gq_small DA DB) (by decide))
  refine xr 1 [(0, .v (.string a)),(1, .v (.string b)),(2, .v (.int .i64 n)),(6, .v (.bool false)),(16, .v (.bool false))] [] ?_
  refine xe (sx_next (xb (sx_skip (sx_next (sx_seq (sx_region (xr 2 [(0, .v (.string a)),(1, .v (.string b)),(2, .v (.int .i64 n)),(6, .v (.bool false)),(18, .v (.string a)),(19, .v (.string b))] [] ?_)))))))
  refine xc 32 [.string a, .string b] 20 (fun _ : Unit => .string ⟨(ratText G).toArray⟩) _ (fun w hE hΦ => (sGCD hΦ.1.1 SA SB hG).mono (fun _ _ h => post_val h rfl)) (fun xx => ?_)
  refine xr 1 [(0, .v (.string a)),(1, .v (.string b)),(2, .v (.int .i64 n)),(6, .v (.bool false)),(7, .v (.string ⟨(ratText G).toArray⟩))] [] ?_
  refine xe (sx_next (sx_seq (sx_seq ?_)))
  by_cases hz : A.num = 0 ∧ B.num = 0
  ·have hGz : G.num = 0 := by rw [← hG,gq_zero hz]; rfl
   refine sx_region (xr 1 [(0, .v (.string a)),(1, .v (.string b)),(2, .v (.int .i64 n)),(6, .v (.bool false)),(7, .v (.string ⟨(ratText G).toArray⟩)),(21, .v (.string ⟨(ratText G).toArray⟩))] [] ?_)
   refine xc 33 [.string ⟨(ratText G).toArray⟩] 22 (fun _ : Unit => .int .i64 (G).num.sign) _ (fun w hE hΦ => (sSign hΦ.1.1.1 SG).mono (fun _ _ h => post_val h rfl)) (fun xx => ?_)
   refine xr 1 [(0, .v (.string a)),(1, .v (.string b)),(2, .v (.int .i64 n)),(6, .v (.bool false)),(7, .v (.string ⟨(ratText G).toArray⟩)),(23, .v (.bool (((G).num.sign : Int) == 0)))] [] ?_
   rw [sg_z hGz]
   refine xr 0 [(0, .v (.string a)),(1, .v (.string b)),(2, .v (.int .i64 n)),(6, .v (.bool false)),(7, .v (.string ⟨(ratText G).toArray⟩)),(23, .v (.bool true))] [] ?_
   refine xe (sx_next (xa (sx_seq (sx_region (xr 1 [(0, .v (.string a)),(1, .v (.string b)),(2, .v (.int .i64 n)),(6, .v (.bool false)),(7, .v (.string ⟨(ratText G).toArray⟩)),(24, .v (.string a))] [] ?_)))))
   refine xc 33 [.string a] 25 (fun _ : Unit => .int .i64 (A).num.sign) _ (fun w hE hΦ => (sSign hΦ.1.1.1.1 SA).mono (fun _ _ h => post_val h rfl)) (fun xx => ?_)
   refine xr 1 [(0, .v (.string a)),(1, .v (.string b)),(2, .v (.int .i64 n)),(6, .v (.bool false)),(7, .v (.string ⟨(ratText G).toArray⟩)),(26, .v (.bool (((A).num.sign : Int) == 0)))] [] ?_
   rw [sg_z hz.1]
   refine xr 2 [(0, .v (.string a)),(1, .v (.string b)),(2, .v (.int .i64 n)),(6, .v (.bool false)),(7, .v (.string ⟨(ratText G).toArray⟩)),(27, .v (.bool true)),(28, .v (.string b))] [] ?_
   refine xc 33 [.string b] 29 (fun _ : Unit => .int .i64 (B).num.sign) _ (fun w hE hΦ => (sSign hΦ.1.1.1.1.1 SB).mono (fun _ _ h => post_val h rfl)) (fun xx => ?_)
   refine xr 1 [(0, .v (.string a)),(1, .v (.string b)),(2, .v (.int .i64 n)),(6, .v (.bool false)),(7, .v (.string ⟨(ratText G).toArray⟩)),(27, .v (.bool true)),(30, .v (.bool (((B).num.sign : Int) == 0)))] [] ?_
   rw [sg_z hz.2]
   refine xr 2 [(0, .v (.string a)),(1, .v (.string b)),(2, .v (.int .i64 n)),(6, .v (.bool false)),(7, .v (.string ⟨(ratText G).toArray⟩)),(32, .v (.bool true))] [] ?_
   refine xc 13 [] 33 (fun _ : Unit => .bool true) _ (fun w hE hΦ => (awake1_any _ hΦ.1.1.1.1.1.1).mono (fun _ _ h => post_val h rfl)) (fun xx => ?_)
   refine xr 2 [(0, .v (.string a)),(1, .v (.string b)),(2, .v (.int .i64 n)),(6, .v (.bool true)),(7, .v (.string ⟨(ratText G).toArray⟩))] [] ?_
   refine xe (sx_next (sx_ret (sx_then_ret ?_)))
   refine sx_done (v := .bool true) (by kernel_rfl) (fun w' hE hΦ => ?_)
   exact ⟨rfl,hE⟩
  ·have hGp : 0 < G.num := by rw [← hG]; exact gq_num hz
   have hG0 : ¬ G.num = 0 := by omega
   have hGn : G ≠ 0 := fun e => hG0 (by rw [e]; rfl)
   obtain ⟨x,y,hax,hby,hxy⟩ := gq_quo hz
   rw [hG] at hax hby
   have SDG := gq_small DA DB
   rw [hG] at SDG
   obtain ⟨X,hX⟩ : ∃ q : Rat,((x : Int) : Rat) = q := ⟨_,rfl⟩
   obtain ⟨Y,hY⟩ : ∃ q : Rat,((y : Int) : Rat) = q := ⟨_,rfl⟩
   have SX : StrIs ⟨(ratText X).toArray⟩ X := StrIs.of (by rw [← hX]; exact int_len (quo_abs hGp hax DA.1 SDG.2))
   have SY : StrIs ⟨(ratText Y).toArray⟩ Y := StrIs.of (by rw [← hY]; exact int_len (quo_abs hGp hby DB.1 SDG.2))
   have hAX : A / G = X := by rw [hax,← hX]; exact rat_mul_div _ _ hGn
   have hBY : B / G = Y := by rw [hby,← hY]; exact rat_mul_div _ _ hGn
   have hXY : gcdQ X Y = 1 := by rw [← hX,← hY]; exact gcdQ_of (y := x) (z := y) (by decide) (Rat.mul_one _).symm (Rat.mul_one _).symm hxy
   obtain ⟨N,hN⟩ : ∃ q : Rat,((n : Int) : Rat) = q := ⟨_,rfl⟩
   have DN : N.num.natAbs < 10 ^ 20 ∧ N.den < 10 ^ 20 := by rw [← hN]; exact ⟨by show n.natAbs < 10 ^ 20; omega,by show 1 < 10 ^ 20; decide⟩
   have SN : StrIs ⟨(ratText N).toArray⟩ N := StrIs.of (small_len (by decide) DN (by decide))
   obtain ⟨M,hM⟩ : ∃ q : Rat,B * N = q := ⟨_,rfl⟩
   have DM := mul_small DB DN
   rw [hM] at DM
   have SM : StrIs ⟨(ratText M).toArray⟩ M := StrIs.of (small_len (by decide) DM (by decide))
   obtain ⟨C,hC⟩ : ∃ q : Rat,A + M = q := ⟨_,rfl⟩
   have DC := (res_small (k := 120) (up_small DA) DM).1
   rw [hC] at DC
   have SC : StrIs ⟨(ratText C).toArray⟩ C := StrIs.of (small_len (by decide) DC (by decide))
   have hBC : gcdQ B C = G := gcdQ_of (y := y) (z := x + n * y) hGp hby (by rw [← hC,← hM,← hN,Rat.intCast_add,Rat.intCast_mul]; exact rat_comb _ _ _ _ _ _ hax hby) (by rw [Int.gcd_add_mul_right_right,Int.gcd_comm]; exact hxy)
   refine sx_region (xr 1 [(0, .v (.string a)),(1, .v (.string b)),(2, .v (.int .i64 n)),(6, .v (.bool false)),(7, .v (.string ⟨(ratText G).toArray⟩)),(21, .v (.string ⟨(ratText G).toArray⟩))] [] ?_)
   refine xc 33 [.string ⟨(ratText G).toArray⟩] 22 (fun _ : Unit => .int .i64 (G).num.sign) _ (fun w hE hΦ => (sSign hΦ.1.1.1 SG).mono (fun _ _ h => post_val h rfl)) (fun xx => ?_)
   refine xr 1 [(0, .v (.string a)),(1, .v (.string b)),(2, .v (.int .i64 n)),(6, .v (.bool false)),(7, .v (.string ⟨(ratText G).toArray⟩)),(23, .v (.bool (((G).num.sign : Int) == 0)))] [] ?_
   rw [sg_nz hG0]
   refine xr 0 [(0, .v (.string a)),(1, .v (.string b)),(2, .v (.int .i64 n)),(6, .v (.bool false)),(7, .v (.string ⟨(ratText G).toArray⟩)),(23, .v (.bool false))] [] ?_
   refine xe (sx_next (xb (sx_skip (sx_next (sx_seq (sx_region (xr 2 [(0, .v (.string a)),(1, .v (.string b)),(2, .v (.int .i64 n)),(6, .v (.bool false)),(7, .v (.string ⟨(ratText G).toArray⟩)),(36, .v (.string a)),(37, .v (.string ⟨(ratText G).toArray⟩))] [] ?_)))))))
   refine xc 19 [.string a, .string ⟨(ratText G).toArray⟩] 38 (fun _ : Unit => .tuple #[.string ⟨(ratText X).toArray⟩, .bool true]) _ (fun w hE hΦ => (sDiv1 hΦ.1.1.1.1 SA SG hG0 hAX).mono (fun _ _ h => post_val h rfl)) (fun xx => ?_)
   refine xr 5 [(0, .v (.string a)),(1, .v (.string b)),(2, .v (.int .i64 n)),(6, .v (.bool false)),(7, .v (.string ⟨(ratText G).toArray⟩)),(8, .v (.string ⟨(ratText X).toArray⟩)),(9, .v (.bool true))] [] ?_
   refine xe (sx_next (sx_seq (sx_region (xr 2 [(0, .v (.string a)),(1, .v (.string b)),(2, .v (.int .i64 n)),(6, .v (.bool false)),(7, .v (.string ⟨(ratText G).toArray⟩)),(8, .v (.string ⟨(ratText X).toArray⟩)),(9, .v (.bool true)),(42, .v (.string b)),(43, .v (.string ⟨(ratText G).toArray⟩))] [] ?_))))
   refine xc 19 [.string b, .string ⟨(ratText G).toArray⟩] 44 (fun _ : Unit => .tuple #[.string ⟨(ratText Y).toArray⟩, .bool true]) _ (fun w hE hΦ => (sDiv1 hΦ.1.1.1.1.1 SB SG hG0 hBY).mono (fun _ _ h => post_val h rfl)) (fun xx => ?_)
   refine xr 5 [(0, .v (.string a)),(1, .v (.string b)),(2, .v (.int .i64 n)),(6, .v (.bool false)),(7, .v (.string ⟨(ratText G).toArray⟩)),(8, .v (.string ⟨(ratText X).toArray⟩)),(9, .v (.bool true)),(10, .v (.string ⟨(ratText Y).toArray⟩)),(11, .v (.bool true))] [] ?_
   refine xe (sx_next (sx_seq (sx_region (xr 7 [(0, .v (.string a)),(1, .v (.string b)),(2, .v (.int .i64 n)),(6, .v (.bool false)),(7, .v (.string ⟨(ratText G).toArray⟩)),(8, .v (.string ⟨(ratText X).toArray⟩)),(10, .v (.string ⟨(ratText Y).toArray⟩)),(51, .v (.bool true)),(52, .v (.string ⟨(ratText X).toArray⟩)),(53, .v (.string ⟨(ratText X).toArray⟩))] [] ?_))))
   refine xc 34 [.string ⟨(ratText X).toArray⟩] 54 (fun _ : Unit => .string ⟨(ratText X).toArray⟩) _ (fun w hE hΦ => (sFloor hΦ.1.1.1.1.1.1 SX).mono (fun _ _ h => post_val h (by rw [← hX,floor_int]))) (fun xx => ?_)
   refine xr 1 [(0, .v (.string a)),(1, .v (.string b)),(2, .v (.int .i64 n)),(6, .v (.bool false)),(7, .v (.string ⟨(ratText G).toArray⟩)),(8, .v (.string ⟨(ratText X).toArray⟩)),(10, .v (.string ⟨(ratText Y).toArray⟩)),(51, .v (.bool true)),(55, .v (.bool ((⟨(ratText X).toArray⟩ : ByteArray).toList == (⟨(ratText X).toArray⟩ : ByteArray).toList)))] [] ?_
   rw [str_self]
   refine xr 4 [(0, .v (.string a)),(1, .v (.string b)),(2, .v (.int .i64 n)),(6, .v (.bool false)),(7, .v (.string ⟨(ratText G).toArray⟩)),(8, .v (.string ⟨(ratText X).toArray⟩)),(10, .v (.string ⟨(ratText Y).toArray⟩)),(57, .v (.bool true)),(58, .v (.string ⟨(ratText Y).toArray⟩)),(59, .v (.string ⟨(ratText Y).toArray⟩))] [] ?_
   refine xc 34 [.string ⟨(ratText Y).toArray⟩] 60 (fun _ : Unit => .string ⟨(ratText Y).toArray⟩) _ (fun w hE hΦ => (sFloor hΦ.1.1.1.1.1.1.1 SY).mono (fun _ _ h => post_val h (by rw [← hY,floor_int]))) (fun xx => ?_)
   refine xr 1 [(0, .v (.string a)),(1, .v (.string b)),(2, .v (.int .i64 n)),(6, .v (.bool false)),(7, .v (.string ⟨(ratText G).toArray⟩)),(8, .v (.string ⟨(ratText X).toArray⟩)),(10, .v (.string ⟨(ratText Y).toArray⟩)),(57, .v (.bool true)),(61, .v (.bool ((⟨(ratText Y).toArray⟩ : ByteArray).toList == (⟨(ratText Y).toArray⟩ : ByteArray).toList)))] [] ?_
   rw [str_self]
   refine xr 4 [(0, .v (.string a)),(1, .v (.string b)),(2, .v (.int .i64 n)),(6, .v (.bool false)),(7, .v (.string ⟨(ratText G).toArray⟩)),(63, .v (.bool true)),(64, .v (.string ⟨(ratText X).toArray⟩)),(65, .v (.string ⟨(ratText Y).toArray⟩))] [] ?_
   refine xc 32 [.string ⟨(ratText X).toArray⟩, .string ⟨(ratText Y).toArray⟩] 66 (fun _ : Unit => .string ⟨#[49]⟩) _ (fun w hE hΦ => (sGCD hΦ.1.1.1.1.1.1.1.1 SX SY hXY).mono (fun _ _ h => post_val h (by rw [one_txt]))) (fun xx => ?_)
   refine xr 1 [(0, .v (.string a)),(1, .v (.string b)),(2, .v (.int .i64 n)),(6, .v (.bool false)),(7, .v (.string ⟨(ratText G).toArray⟩)),(63, .v (.bool true)),(67, .v (.bool ((⟨#[49]⟩ : ByteArray).toList == (⟨#[49]⟩ : ByteArray).toList)))] [] ?_
   rw [str_self]
   refine xr 6 [(6, .v (.bool false)),(7, .v (.string ⟨(ratText G).toArray⟩)),(69, .v (.bool true)),(70, .v (.string b)),(71, .v (.string a)),(72, .v (.string b)),(73, .v (.int .i64 n))] [] ?_
   refine xc 35 [.int .i64 n] 74 (fun _ : Unit => .string ⟨(ratText N).toArray⟩) _ (fun w hE hΦ => (FromInt_any n _ hΦ.1.1.1.1.1.1.1.1.1 hn1 hn2).mono (fun _ _ h => post_val h (by rw [← hN,int_txt]))) (fun xx => ?_)
   refine xr 0 [(6, .v (.bool false)),(7, .v (.string ⟨(ratText G).toArray⟩)),(69, .v (.bool true)),(70, .v (.string b)),(71, .v (.string a)),(72, .v (.string b)),(74, .v (.string ⟨(ratText N).toArray⟩))] [] ?_
   refine xc 27 [.string b, .string ⟨(ratText N).toArray⟩] 75 (fun _ : Unit => .string ⟨(ratText M).toArray⟩) _ (fun w hE hΦ => (sMul hΦ.1.1.1.1.1.1.1.1.1.1 SB SN hM).mono (fun _ _ h => post_val h rfl)) (fun xx => ?_)
   refine xr 0 [(6, .v (.bool false)),(7, .v (.string ⟨(ratText G).toArray⟩)),(69, .v (.bool true)),(70, .v (.string b)),(71, .v (.string a)),(75, .v (.string ⟨(ratText M).toArray⟩))] [] ?_
   refine xc 23 [.string a, .string ⟨(ratText M).toArray⟩] 76 (fun _ : Unit => .string ⟨(ratText C).toArray⟩) _ (fun w hE hΦ => (sAdd hΦ.1.1.1.1.1.1.1.1.1.1.1 SA SM hC).mono (fun _ _ h => post_val h rfl)) (fun xx => ?_)
   refine xr 0 [(6, .v (.bool false)),(7, .v (.string ⟨(ratText G).toArray⟩)),(69, .v (.bool true)),(70, .v (.string b)),(76, .v (.string ⟨(ratText C).toArray⟩))] [] ?_
   refine xc 32 [.string b, .string ⟨(ratText C).toArray⟩] 77 (fun _ : Unit => .string ⟨(ratText G).toArray⟩) _ (fun w hE hΦ => (sGCD hΦ.1.1.1.1.1.1.1.1.1.1.1.1 SB SC hBC).mono (fun _ _ h => post_val h rfl)) (fun xx => ?_)
   refine xr 2 [(6, .v (.bool false)),(69, .v (.bool true)),(79, .v (.bool ((⟨(ratText G).toArray⟩ : ByteArray).toList == (⟨(ratText G).toArray⟩ : ByteArray).toList)))] [] ?_
   rw [str_self]
   refine xr 2 [(6, .v (.bool false)),(81, .v (.bool true))] [] ?_
   refine xc 13 [] 82 (fun _ : Unit => .bool true) _ (fun w hE hΦ => (awake1_any _ hΦ.1.1.1.1.1.1.1.1.1.1.1.1.1).mono (fun _ _ h => post_val h rfl)) (fun xx => ?_)
   refine xr 2 [(6, .v (.bool true))] [] ?_
   refine xe (sx_next (sx_ret ?_))
   refine sx_done (v := .bool true) (by kernel_rfl) (fun w' hE hΦ => ?_)
   exact ⟨rfl,hE⟩
end Go.Proofs.YtibipjlohahekaaGreatDoor
