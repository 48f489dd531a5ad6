/-
 My texts Tx, Dc, Len, Pa, Aw1, FdL put together.
-/
import Derived.Test.YtibipjlohahekaaGreatDoorM17
import Derived.Test.YtibipjlohahekaaGreatDoorM13
import Derived.Test.YtibipjlohahekaaGreatDoorM15
import Derived.Test.YtibipjlohahekaaGreatDoorM02
namespace Go.Proofs.YtibipjlohahekaaGreatDoor
open Go.RowKit
abbrev Sh5 := Int × Int × Int × Int × Bool
def shTwo (x : Sh5) : Value := .tuple #[.agg #[.int .i64 x.1, .int .i64 x.2.1], .agg #[.int .i64 x.2.2.1, .int .i64 x.2.2.2.1], .bool x.2.2.2.2]
theorem post_Two {w w' : World} {e : Ending} {l l' : List UInt8} (h : RetTwoShort w l l' e w') : PostC shTwo (fun x _ => x.2.2.2.2 = true → ShortIs l x.1 x.2.1 true ∧ ShortIs l' x.2.2.1 x.2.2.2.1 true) w e w' := by
 obtain ⟨a,b,a',b',ok,rfl,hS,hE⟩ := h
 exact ⟨(a,b,a',b',ok),rfl,hE,BoxN.pure hS⟩
theorem short_two {l l' : List UInt8} {a b a' b' : Int} (h : ShortIs l a b true ∧ ShortIs l' a' b' true) :
 ∃ p q : Rat,valF l = p ∧ valF l' = q ∧ p.num = a ∧ (p.den : Int) = b ∧ q.num = a' ∧ (q.den : Int) = b' ∧ -1000000000 < a ∧ a < 1000000000 ∧ 1 ≤ b ∧ b < 1000000000 ∧ -1000000000 < a' ∧ a' < 1000000000 ∧ 1 ≤ b' ∧ b' < 1000000000 := by
 obtain ⟨p,h1,h2,h3,h4,h5,h6,h7⟩ := h.1.ok
 obtain ⟨q,k1,k2,k3,k4,k5,k6,k7⟩ := h.2.ok
 exact ⟨p,q,valF_some h1,valF_some k1,h2,h3,k2,k3,h4,h5,h6,h7,k4,k5,k6,k7⟩
theorem mul_bound {a b : Int} (h1 : -1000000000 < a) (h2 : a < 1000000000) (h3 : -1000000000 < b) (h4 : b < 1000000000) : -1000000000000000000 ≤ a * b ∧ a * b ≤ 1000000000000000000 := by
 have ha : a.natAbs ≤ 1000000000 := by omega
 have hb : b.natAbs ≤ 1000000000 := by omega
 have h := Nat.mul_le_mul ha hb
 rw [← Int.natAbs_mul] at h
 omega
theorem wrap_id {x : Int} (h1 : -9223372036854775808 ≤ x) (h2 : x ≤ 9223372036854775807) : IntKind.i64.wrap x = x := by
 rw [IntKind.wrap_i64]
 omega
theorem wAdd {l l' : List UInt8} {a b a' b' : Int} (h : ShortIs l a b true ∧ ShortIs l' a' b' true) :
 ∃ N D : Int,IntKind.i64.wrap (IntKind.i64.wrap (a * b') + IntKind.i64.wrap (a' * b)) = N ∧ IntKind.i64.wrap (b * b') = D ∧ 1 ≤ D ∧ N.natAbs ≤ 4000000000000000000 ∧ D.natAbs ≤ 4000000000000000000 ∧ Rat.divInt N D = valF l + valF l' := by
 obtain ⟨p,q,rfl,rfl,e1,e2,e3,e4,b1,b2,b3,b4,b5,b6,b7,b8⟩ := short_two h
 have m1 := mul_bound b1 b2 (show -1000000000 < b' by omega) b8
 have m2 := mul_bound b5 b6 (show -1000000000 < b by omega) b4
 have m3 := mul_bound (show -1000000000 < b by omega) b4 (show -1000000000 < b' by omega) b8
 have m4 : 1 ≤ b * b' := Int.mul_pos (by omega) (by omega)
 refine ⟨_,_,rfl,rfl,?_⟩
 rw [wrap_id (x := a * b') (by omega) (by omega),wrap_id (x := a' * b) (by omega) (by omega),wrap_id (x := b * b') (by omega) (by omega),wrap_id (by omega) (by omega)]
 refine ⟨m4,by omega,by omega,?_⟩
 rw [← e1,← e2,← e3,← e4]
 exact rat_add_frac _ _
theorem wSub {l l' : List UInt8} {a b a' b' : Int} (h : ShortIs l a b true ∧ ShortIs l' a' b' true) :
 ∃ N D : Int,IntKind.i64.wrap (IntKind.i64.wrap (a * b') - IntKind.i64.wrap (a' * b)) = N ∧ IntKind.i64.wrap (b * b') = D ∧ 1 ≤ D ∧ N.natAbs ≤ 4000000000000000000 ∧ D.natAbs ≤ 4000000000000000000 ∧ Rat.divInt N D = valF l - valF l' := by
 obtain ⟨p,q,rfl,rfl,e1,e2,e3,e4,b1,b2,b3,b4,b5,b6,b7,b8⟩ := short_two h
 have m1 := mul_bound b1 b2 (show -1000000000 < b' by omega) b8
 have m2 := mul_bound b5 b6 (show -1000000000 < b by omega) b4
 have m3 := mul_bound (show -1000000000 < b by omega) b4 (show -1000000000 < b' by omega) b8
 have m4 : 1 ≤ b * b' := Int.mul_pos (by omega) (by omega)
 refine ⟨_,_,rfl,rfl,?_⟩
 rw [wrap_id (x := a * b') (by omega) (by omega),wrap_id (x := a' * b) (by omega) (by omega),wrap_id (x := b * b') (by omega) (by omega),wrap_id (by omega) (by omega)]
 refine ⟨m4,by omega,by omega,?_⟩
 rw [← e1,← e2,← e3,← e4]
 have := rat_add_frac (valF l) (-valF l')
 rw [rneg_num,rneg_den,Int.neg_mul,← Int.sub_eq_add_neg] at this
 rw [this,Rat.sub_eq_add_neg]
theorem wMul {l l' : List UInt8} {a b a' b' : Int} (h : ShortIs l a b true ∧ ShortIs l' a' b' true) :
 ∃ N D : Int,IntKind.i64.wrap (a * a') = N ∧ IntKind.i64.wrap (b * b') = D ∧ 1 ≤ D ∧ N.natAbs ≤ 4000000000000000000 ∧ D.natAbs ≤ 4000000000000000000 ∧ Rat.divInt N D = valF l * valF l' := by
 obtain ⟨p,q,rfl,rfl,e1,e2,e3,e4,b1,b2,b3,b4,b5,b6,b7,b8⟩ := short_two h
 have m1 := mul_bound b1 b2 b5 b6
 have m3 := mul_bound (show -1000000000 < b by omega) b4 (show -1000000000 < b' by omega) b8
 have m4 : 1 ≤ b * b' := Int.mul_pos (by omega) (by omega)
 refine ⟨_,_,rfl,rfl,?_⟩
 rw [wrap_id (x := a * a') (by omega) (by omega),wrap_id (x := b * b') (by omega) (by omega)]
 refine ⟨m4,by omega,by omega,?_⟩
 rw [← e1,← e2,← e3,← e4]
 exact rat_mul_frac _ _
theorem wDiv {l l' : List UInt8} {a b a' b' : Int} (h : ShortIs l a b true ∧ ShortIs l' a' b' true) (h0 : a' ≠ 0) :
 ∃ N D : Int,IntKind.i64.wrap (a * b') = N ∧ IntKind.i64.wrap (b * a') = D ∧ D ≠ 0 ∧ N.natAbs ≤ 4000000000000000000 ∧ D.natAbs ≤ 4000000000000000000 ∧ Rat.divInt N D = valF l / valF l' := by
 obtain ⟨p,q,rfl,rfl,e1,e2,e3,e4,b1,b2,b3,b4,b5,b6,b7,b8⟩ := short_two h
 have m1 := mul_bound b1 b2 (show -1000000000 < b' by omega) b8
 have m3 := mul_bound (show -1000000000 < b by omega) b4 b5 b6
 have m4 : b * a' ≠ 0 := Int.mul_ne_zero (by omega) h0
 refine ⟨_,_,rfl,rfl,?_⟩
 rw [wrap_id (x := a * b') (by omega) (by omega),wrap_id (x := b * a') (by omega) (by omega)]
 refine ⟨m4,by omega,by omega,?_⟩
 rw [← e1,← e2,← e3,← e4]
 exact rat_div_frac _ _
theorem wCmp {l l' : List UInt8} {a b a' b' : Int} (h : ShortIs l a b true ∧ ShortIs l' a' b' true) : cmpI (IntKind.i64.wrap (a * b')) (IntKind.i64.wrap (a' * b)) = (valF l - valF l').num.sign := by
 obtain ⟨p,q,rfl,rfl,e1,e2,e3,e4,b1,b2,b3,b4,b5,b6,b7,b8⟩ := short_two h
 have m1 := mul_bound b1 b2 (show -1000000000 < b' by omega) b8
 have m2 := mul_bound b5 b6 (show -1000000000 < b by omega) b4
 rw [wrap_id (x := a * b') (by omega) (by omega),wrap_id (x := a' * b) (by omega) (by omega),← e1,← e2,← e3,← e4]
 exact cmp_cross _ _
theorem prt_add {p q : Rat} (hp : QFits p 30) (hq : QFits q 30) : PrtOk (p + q).num.natAbs ∧ PrtOk (p + q).den := by
 have e : mkRat (p.num * q.den + q.num * p.den) (p.den * q.den) = p + q := by rw [← rat_add_frac,← Int.natCast_mul]; rfl
 obtain ⟨k1,k2⟩ := mkRat_parts' (p.num * q.den + q.num * p.den) (p.den * q.den) (Nat.mul_ne_zero p.den_nz q.den_nz)
 rw [e] at k1 k2
 have h1 := wlq (y := ((Nat.gcd (p.num * q.den + q.num * p.den).natAbs (p.den * q.den) : Nat) : Int)) (wla (a := 60) (wlm hp.1 (wlc hq.2)) (wlm hq.1 (wlc hp.2)))
 have h2 := wl_mul p.den q.den
 have h3 : wl (p.den * q.den) ≤ 60 := by have := hp.2; have := hq.2; omega
 have h4 := wld (m := Nat.gcd (p.num * q.den + q.num * p.den).natAbs (p.den * q.den)) h3
 unfold PrtOk
 rw [k1,k2]
 omega
theorem prt_sub {p q : Rat} (hp : QFits p 30) (hq : QFits q 30) : PrtOk (p - q).num.natAbs ∧ PrtOk (p - q).den := by
 rw [Rat.sub_eq_add_neg]; exact prt_add hp hq.neg
theorem prt_mul {p q : Rat} (hp : QFits p 30) (hq : QFits q 30) : PrtOk (p * q).num.natAbs ∧ PrtOk (p * q).den := by
 obtain ⟨k1,k2⟩ := rmul_parts p q
 have h1 := wlm (wlq (y := ((Int.gcd p.num q.den : Nat) : Int)) hp.1) (wlq (y := ((Int.gcd q.num p.den : Nat) : Int)) hq.1)
 have h2 := wl_mul (p.den / Int.gcd q.num p.den) (q.den / Int.gcd p.num q.den)
 have h3 := wld (m := Int.gcd q.num p.den) hp.2
 have h4 := wld (m := Int.gcd p.num q.den) hq.2
 unfold PrtOk
 rw [k1,k2]
 omega
theorem prt_div {p q : Rat} (hp : QFits p 30) (hq : QFits q 30) : PrtOk (p / q).num.natAbs ∧ PrtOk (p / q).den := by
 rw [Rat.div_def]; exact prt_mul hp hq.inv
set_option maxRecDepth 100000 in
theorem TAdd_any (s t : ByteArray) (w : World) (hg : Glob w) (hs : (bytes s).length ≤ 570) (ht : (bytes t).length ≤ 570) :
 Calls Tryz.prog 23 #[.string s, .string t] w (RetV w (.string ⟨(ratText (valF (bytes s) + valF (bytes t))).toArray⟩)) := by
 have hs8 : s.size ≤ 1099511627776 := by rw [bytes_length] at hs; omega
 have ht8 : t.size ≤ 1099511627776 := by rw [bytes_length] at ht; omega
 have fa := valF_fits hs
 have fb := valF_fits ht
 have hP := prt_add fa fb
 refine sx_enter (Φ := fun w => Glob w) Tryz.func23 rfl (by kernel_rfl) (fun w' hf => hg.ext hf) ?_
 refine sx_seq ?_
 refine sx_region ?_
 refine sx_run 1 [(0, .v (.string s)),(1, .v (.string t)),(4, .v (.string ⟨#[]⟩))] [] (by kernel_rfl) (by kernel_rfl) ?_
 refine sx_end (by kernel_rfl) ?_
 refine sx_next ?_
 refine sx_seq ?_
 refine sx_seq ?_
 refine sx_region ?_
 refine sx_run 2 [(0, .v (.string s)),(1, .v (.string t)),(4, .v (.string ⟨#[]⟩)),(9, .v (.string s)),(10, .v (.string t))] [] (by kernel_rfl) (by kernel_rfl) ?_
 refine sx_call 73 [.string s, .string t] 11 shTwo _ (by kernel_rfl) (by kernel_rfl) (fun w hE hΦ => (readTwo_any s t _ hs8 ht8).mono (fun _ _ h => post_Two h)) (fun xx => ?_)
 obtain ⟨x10,y10,u10,v10,ok10⟩ := xx
 cases ok10
 ·refine sx_run 9 [(0, .v (.string s)),(1, .v (.string t)),(4, .v (.string ⟨#[]⟩)),(5, .p 5 0),(6, .p 6 0),(7, .v (.bool false))] [(6,84,[.v (.int .i64 u10), .v (.int .i64 v10)]),(5,84,[.v (.int .i64 x10), .v (.int .i64 y10)])] (by kernel_rfl) (by kernel_rfl) ?_
  refine sx_end (by kernel_rfl) ?_
  refine sx_next ?_
  refine sx_seq ?_
  refine sx_region ?_
  refine sx_run 1 [(0, .v (.string s)),(1, .v (.string t)),(4, .v (.string ⟨#[]⟩)),(5, .p 5 0),(6, .p 6 0),(15, .v (.bool false))] [(6,84,[.v (.int .i64 u10), .v (.int .i64 v10)]),(5,84,[.v (.int .i64 x10), .v (.int .i64 y10)])] (by kernel_rfl) (by kernel_rfl) ?_
  refine sx_end (by kernel_rfl) ?_
  refine sx_next ?_
  refine sx_cond_f (by kernel_rfl) ?_
  refine sx_skip ?_
  refine sx_next ?_
  refine sx_seq ?_
  refine sx_region ?_
  refine sx_run 1 [(1, .v (.string t)),(4, .v (.string ⟨#[]⟩)),(33, .v (.string s))] [] (by kernel_rfl) (by kernel_rfl) ?_
  refine sx_call 75 [.string s] 34 shRat _ (by kernel_rfl) (by kernel_rfl) (fun w hE hΦ => (value_any s _ hΦ.1 (ReadOk.of_len hs)).mono (fun _ _ h => post_Rat h)) (fun xx => ?_)
  obtain ⟨s11,A11,l11,c11,t11,B11,m11,d11⟩ := xx
  refine sx_run 1 [(4, .v (.string ⟨#[]⟩)),(34, .v (.agg #[.bool s11, .slice A11 l11 c11, .bool t11, .slice B11 m11 d11])),(35, .v (.string t))] [] (by kernel_rfl) (by kernel_rfl) ?_
  refine sx_call 75 [.string t] 36 shRat _ (by kernel_rfl) (by kernel_rfl) (fun w hE hΦ => (value_any t _ hΦ.1.1 (ReadOk.of_len ht)).mono (fun _ _ h => post_Rat h)) (fun xx => ?_)
  obtain ⟨s12,A12,l12,c12,t12,B12,m12,d12⟩ := xx
  refine sx_run 0 [(4, .v (.string ⟨#[]⟩)),(34, .v (.agg #[.bool s11, .slice A11 l11 c11, .bool t11, .slice B11 m11 d11])),(36, .v (.agg #[.bool s12, .slice A12 l12 c12, .bool t12, .slice B12 m12 d12]))] [] (by kernel_rfl) (by kernel_rfl) ?_
  refine sx_call 80 [.agg #[.bool s11, .slice A11 l11 c11, .bool t11, .slice B11 m11 d11], .agg #[.bool s12, .slice A12 l12 c12, .bool t12, .slice B12 m12 d12]] 37 shRat _ (by kernel_rfl) (by kernel_rfl) (fun w hE hΦ => (QAdd_any _ _ (valF (bytes s)) (valF (bytes t)) _ hΦ.1.1.1 hΦ.1.2 hΦ.2 (fa.up (by decide)) (fb.up (by decide))).mono (fun _ _ h => post_Rat h)) (fun xx => ?_)
  obtain ⟨s13,A13,l13,c13,t13,B13,m13,d13⟩ := xx
  refine sx_run 0 [(4, .v (.string ⟨#[]⟩)),(37, .v (.agg #[.bool s13, .slice A13 l13 c13, .bool t13, .slice B13 m13 d13]))] [] (by kernel_rfl) (by kernel_rfl) ?_
  refine sx_call 63 [.agg #[.bool s13, .slice A13 l13 c13, .bool t13, .slice B13 m13 d13]] 38 (fun _ : Unit => .string ⟨(ratText (valF (bytes s) + valF (bytes t))).toArray⟩) _ (by kernel_rfl) (by kernel_rfl) (fun w hE hΦ => (RString_any _ (valF (bytes s) + valF (bytes t)) _ hΦ.1.1.1.1 hΦ.2 hP.1 hP.2).mono (fun _ _ h => post_val h rfl)) (fun xx => ?_)
  refine sx_run 1 [(4, .v (.string ⟨(ratText (valF (bytes s) + valF (bytes t))).toArray⟩))] [] (by kernel_rfl) (by kernel_rfl) ?_
  refine sx_end (by kernel_rfl) ?_
  refine sx_next ?_
  refine sx_ret ?_
  refine sx_done (v := .string ⟨(ratText (valF (bytes s) + valF (bytes t))).toArray⟩) (by kernel_rfl) (fun w' hE hΦ => ?_)
  exact ⟨rfl,hE⟩
 ·refine sx_run 9 [(0, .v (.string s)),(1, .v (.string t)),(4, .v (.string ⟨#[]⟩)),(5, .p 5 0),(6, .p 6 0),(7, .v (.bool true))] [(6,84,[.v (.int .i64 u10), .v (.int .i64 v10)]),(5,84,[.v (.int .i64 x10), .v (.int .i64 y10)])] (by kernel_rfl) (by kernel_rfl) ?_
  refine sx_end (by kernel_rfl) ?_
  refine sx_next ?_
  refine sx_seq ?_
  refine sx_region ?_
  refine sx_run 1 [(0, .v (.string s)),(1, .v (.string t)),(4, .v (.string ⟨#[]⟩)),(5, .p 5 0),(6, .p 6 0),(15, .v (.bool true))] [(6,84,[.v (.int .i64 u10), .v (.int .i64 v10)]),(5,84,[.v (.int .i64 x10), .v (.int .i64 y10)])] (by kernel_rfl) (by kernel_rfl) ?_
  refine sx_end (by kernel_rfl) ?_
  refine sx_next ?_
  refine sx_cond_t (by kernel_rfl) ?_
  refine sx_seq ?_
  refine sx_region ?_
  refine sx_run 16 [(0, .v (.string s)),(1, .v (.string t)),(4, .v (.string ⟨#[]⟩)),(26, .v (.int .i64 (IntKind.i64.wrap ((IntKind.i64.wrap (x10 * v10)) + (IntKind.i64.wrap (u10 * y10)))))),(31, .v (.int .i64 (IntKind.i64.wrap (y10 * v10))))] [] (by kernel_rfl) (by kernel_rfl) ?_
  refine sx_call 74 [.int .i64 (IntKind.i64.wrap ((IntKind.i64.wrap (x10 * v10)) + (IntKind.i64.wrap (u10 * y10)))), .int .i64 (IntKind.i64.wrap (y10 * v10))] 32 (fun _ : Unit => .string ⟨(ratText (valF (bytes s) + valF (bytes t))).toArray⟩) _ (by kernel_rfl) (by kernel_rfl) (fun w hE hΦ => by obtain ⟨N,D,e1,e2,d0,n1,n2,e3⟩ := wAdd (hΦ.2 rfl); rw [e1,e2]; exact (formatShort_any N D _ _ hΦ.1 n1 n2 (by omega) e3).mono (fun _ _ h => post_val h rfl)) (fun xx => ?_)
  refine sx_run 1 [(0, .v (.string s)),(1, .v (.string t)),(4, .v (.string ⟨(ratText (valF (bytes s) + valF (bytes t))).toArray⟩))] [] (by kernel_rfl) (by kernel_rfl) ?_
  refine sx_end (by kernel_rfl) ?_
  refine sx_next ?_
  refine sx_ret ?_
  refine sx_then_ret ?_
  refine sx_done (v := .string ⟨(ratText (valF (bytes s) + valF (bytes t))).toArray⟩) (by kernel_rfl) (fun w' hE hΦ => ?_)
  exact ⟨rfl,hE⟩
set_option maxRecDepth 100000 in
theorem TSub_any (s t : ByteArray) (w : World) (hg : Glob w) (hs : (bytes s).length ≤ 570) (ht : (bytes t).length ≤ 570) :
 Calls Tryz.prog 25 #[.string s, .string t] w (RetV w (.string ⟨(ratText (valF (bytes s) - valF (bytes t))).toArray⟩)) := by
 have hs8 : s.size ≤ 1099511627776 := by rw [bytes_length] at hs; omega
 have ht8 : t.size ≤ 1099511627776 := by rw [bytes_length] at ht; omega
 have fa := valF_fits hs
 have fb := valF_fits ht
 have hP := prt_sub fa fb
 refine sx_enter (Φ := fun w => Glob w) Tryz.func25 rfl (by kernel_rfl) (fun w' hf => hg.ext hf) ?_
 refine sx_seq ?_
 refine sx_region ?_
 refine sx_run 1 [(0, .v (.string s)),(1, .v (.string t)),(4, .v (.string ⟨#[]⟩))] [] (by kernel_rfl) (by kernel_rfl) ?_
 refine sx_end (by kernel_rfl) ?_
 refine sx_next ?_
 refine sx_seq ?_
 refine sx_seq ?_
 refine sx_region ?_
 refine sx_run 2 [(0, .v (.string s)),(1, .v (.string t)),(4, .v (.string ⟨#[]⟩)),(9, .v (.string s)),(10, .v (.string t))] [] (by kernel_rfl) (by kernel_rfl) ?_
 refine sx_call 73 [.string s, .string t] 11 shTwo _ (by kernel_rfl) (by kernel_rfl) (fun w hE hΦ => (readTwo_any s t _ hs8 ht8).mono (fun _ _ h => post_Two h)) (fun xx => ?_)
 obtain ⟨x10,y10,u10,v10,ok10⟩ := xx
 cases ok10
 ·refine sx_run 9 [(0, .v (.string s)),(1, .v (.string t)),(4, .v (.string ⟨#[]⟩)),(5, .p 5 0),(6, .p 6 0),(7, .v (.bool false))] [(6,84,[.v (.int .i64 u10), .v (.int .i64 v10)]),(5,84,[.v (.int .i64 x10), .v (.int .i64 y10)])] (by kernel_rfl) (by kernel_rfl) ?_
  refine sx_end (by kernel_rfl) ?_
  refine sx_next ?_
  refine sx_seq ?_
  refine sx_region ?_
  refine sx_run 1 [(0, .v (.string s)),(1, .v (.string t)),(4, .v (.string ⟨#[]⟩)),(5, .p 5 0),(6, .p 6 0),(15, .v (.bool false))] [(6,84,[.v (.int .i64 u10), .v (.int .i64 v10)]),(5,84,[.v (.int .i64 x10), .v (.int .i64 y10)])] (by kernel_rfl) (by kernel_rfl) ?_
  refine sx_end (by kernel_rfl) ?_
  refine sx_next ?_
  refine sx_cond_f (by kernel_rfl) ?_
  refine sx_skip ?_
  refine sx_next ?_
  refine sx_seq ?_
  refine sx_region ?_
  refine sx_run 1 [(1, .v (.string t)),(4, .v (.string ⟨#[]⟩)),(33, .v (.string s))] [] (by kernel_rfl) (by kernel_rfl) ?_
  refine sx_call 75 [.string s] 34 shRat _ (by kernel_rfl) (by kernel_rfl) (fun w hE hΦ => (value_any s _ hΦ.1 (ReadOk.of_len hs)).mono (fun _ _ h => post_Rat h)) (fun xx => ?_)
  obtain ⟨s11,A11,l11,c11,t11,B11,m11,d11⟩ := xx
  refine sx_run 1 [(4, .v (.string ⟨#[]⟩)),(34, .v (.agg #[.bool s11, .slice A11 l11 c11, .bool t11, .slice B11 m11 d11])),(35, .v (.string t))] [] (by kernel_rfl) (by kernel_rfl) ?_
  refine sx_call 75 [.string t] 36 shRat _ (by kernel_rfl) (by kernel_rfl) (fun w hE hΦ => (value_any t _ hΦ.1.1 (ReadOk.of_len ht)).mono (fun _ _ h => post_Rat h)) (fun xx => ?_)
  obtain ⟨s12,A12,l12,c12,t12,B12,m12,d12⟩ := xx
  refine sx_run 0 [(4, .v (.string ⟨#[]⟩)),(34, .v (.agg #[.bool s11, .slice A11 l11 c11, .bool t11, .slice B11 m11 d11])),(36, .v (.agg #[.bool s12, .slice A12 l12 c12, .bool t12, .slice B12 m12 d12]))] [] (by kernel_rfl) (by kernel_rfl) ?_
  refine sx_call 81 [.agg #[.bool s11, .slice A11 l11 c11, .bool t11, .slice B11 m11 d11], .agg #[.bool s12, .slice A12 l12 c12, .bool t12, .slice B12 m12 d12]] 37 shRat _ (by kernel_rfl) (by kernel_rfl) (fun w hE hΦ => (QSub_any _ _ (valF (bytes s)) (valF (bytes t)) _ hΦ.1.1.1 hΦ.1.2 hΦ.2 (fa.up (by decide)) (fb.up (by decide))).mono (fun _ _ h => post_Rat h)) (fun xx => ?_)
  obtain ⟨s13,A13,l13,c13,t13,B13,m13,d13⟩ := xx
  refine sx_run 0 [(4, .v (.string ⟨#[]⟩)),(37, .v (.agg #[.bool s13, .slice A13 l13 c13, .bool t13, .slice B13 m13 d13]))] [] (by kernel_rfl) (by kernel_rfl) ?_
  refine sx_call 63 [.agg #[.bool s13, .slice A13 l13 c13, .bool t13, .slice B13 m13 d13]] 38 (fun _ : Unit => .string ⟨(ratText (valF (bytes s) - valF (bytes t))).toArray⟩) _ (by kernel_rfl) (by kernel_rfl) (fun w hE hΦ => (RString_any _ (valF (bytes s) - valF (bytes t)) _ hΦ.1.1.1.1 hΦ.2 hP.1 hP.2).mono (fun _ _ h => post_val h rfl)) (fun xx => ?_)
  refine sx_run 1 [(4, .v (.string ⟨(ratText (valF (bytes s) - valF (bytes t))).toArray⟩))] [] (by kernel_rfl) (by kernel_rfl) ?_
  refine sx_end (by kernel_rfl) ?_
  refine sx_next ?_
  refine sx_ret ?_
  refine sx_done (v := .string ⟨(ratText (valF (bytes s) - valF (bytes t))).toArray⟩) (by kernel_rfl) (fun w' hE hΦ => ?_)
  exact ⟨rfl,hE⟩
 ·refine sx_run 9 [(0, .v (.string s)),(1, .v (.string t)),(4, .v (.string ⟨#[]⟩)),(5, .p 5 0),(6, .p 6 0),(7, .v (.bool true))] [(6,84,[.v (.int .i64 u10), .v (.int .i64 v10)]),(5,84,[.v (.int .i64 x10), .v (.int .i64 y10)])] (by kernel_rfl) (by kernel_rfl) ?_
  refine sx_end (by kernel_rfl) ?_
  refine sx_next ?_
  refine sx_seq ?_
  refine sx_region ?_
  refine sx_run 1 [(0, .v (.string s)),(1, .v (.string t)),(4, .v (.string ⟨#[]⟩)),(5, .p 5 0),(6, .p 6 0),(15, .v (.bool true))] [(6,84,[.v (.int .i64 u10), .v (.int .i64 v10)]),(5,84,[.v (.int .i64 x10), .v (.int .i64 y10)])] (by kernel_rfl) (by kernel_rfl) ?_
  refine sx_end (by kernel_rfl) ?_
  refine sx_next ?_
  refine sx_cond_t (by kernel_rfl) ?_
  refine sx_seq ?_
  refine sx_region ?_
  refine sx_run 16 [(0, .v (.string s)),(1, .v (.string t)),(4, .v (.string ⟨#[]⟩)),(26, .v (.int .i64 (IntKind.i64.wrap ((IntKind.i64.wrap (x10 * v10)) - (IntKind.i64.wrap (u10 * y10)))))),(31, .v (.int .i64 (IntKind.i64.wrap (y10 * v10))))] [] (by kernel_rfl) (by kernel_rfl) ?_
  refine sx_call 74 [.int .i64 (IntKind.i64.wrap ((IntKind.i64.wrap (x10 * v10)) - (IntKind.i64.wrap (u10 * y10)))), .int .i64 (IntKind.i64.wrap (y10 * v10))] 32 (fun _ : Unit => .string ⟨(ratText (valF (bytes s) - valF (bytes t))).toArray⟩) _ (by kernel_rfl) (by kernel_rfl) (fun w hE hΦ => by obtain ⟨N,D,e1,e2,d0,n1,n2,e3⟩ := wSub (hΦ.2 rfl); rw [e1,e2]; exact (formatShort_any N D _ _ hΦ.1 n1 n2 (by omega) e3).mono (fun _ _ h => post_val h rfl)) (fun xx => ?_)
  refine sx_run 1 [(0, .v (.string s)),(1, .v (.string t)),(4, .v (.string ⟨(ratText (valF (bytes s) - valF (bytes t))).toArray⟩))] [] (by kernel_rfl) (by kernel_rfl) ?_
  refine sx_end (by kernel_rfl) ?_
  refine sx_next ?_
  refine sx_ret ?_
  refine sx_then_ret ?_
  refine sx_done (v := .string ⟨(ratText (valF (bytes s) - valF (bytes t))).toArray⟩) (by kernel_rfl) (fun w' hE hΦ => ?_)
  exact ⟨rfl,hE⟩
set_option maxRecDepth 100000 in
theorem TMul_any (s t : ByteArray) (w : World) (hg : Glob w) (hs : (bytes s).length ≤ 570) (ht : (bytes t).length ≤ 570) :
 Calls Tryz.prog 27 #[.string s, .string t] w (RetV w (.string ⟨(ratText (valF (bytes s) * valF (bytes t))).toArray⟩)) := by
 have hs8 : s.size ≤ 1099511627776 := by rw [bytes_length] at hs; omega
 have ht8 : t.size ≤ 1099511627776 := by rw [bytes_length] at ht; omega
 have fa := valF_fits hs
 have fb := valF_fits ht
 have hP := prt_mul fa fb
 refine sx_enter (Φ := fun w => Glob w) Tryz.func27 rfl (by kernel_rfl) (fun w' hf => hg.ext hf) ?_
 refine sx_seq ?_
 refine sx_region ?_
 refine sx_run 1 [(0, .v (.string s)),(1, .v (.string t)),(4, .v (.string ⟨#[]⟩))] [] (by kernel_rfl) (by kernel_rfl) ?_
 refine sx_end (by kernel_rfl) ?_
 refine sx_next ?_
 refine sx_seq ?_
 refine sx_seq ?_
 refine sx_region ?_
 refine sx_run 2 [(0, .v (.string s)),(1, .v (.string t)),(4, .v (.string ⟨#[]⟩)),(9, .v (.string s)),(10, .v (.string t))] [] (by kernel_rfl) (by kernel_rfl) ?_
 refine sx_call 73 [.string s, .string t] 11 shTwo _ (by kernel_rfl) (by kernel_rfl) (fun w hE hΦ => (readTwo_any s t _ hs8 ht8).mono (fun _ _ h => post_Two h)) (fun xx => ?_)
 obtain ⟨x10,y10,u10,v10,ok10⟩ := xx
 cases ok10
 ·refine sx_run 9 [(0, .v (.string s)),(1, .v (.string t)),(4, .v (.string ⟨#[]⟩)),(5, .p 5 0),(6, .p 6 0),(7, .v (.bool false))] [(6,84,[.v (.int .i64 u10), .v (.int .i64 v10)]),(5,84,[.v (.int .i64 x10), .v (.int .i64 y10)])] (by kernel_rfl) (by kernel_rfl) ?_
  refine sx_end (by kernel_rfl) ?_
  refine sx_next ?_
  refine sx_seq ?_
  refine sx_region ?_
  refine sx_run 1 [(0, .v (.string s)),(1, .v (.string t)),(4, .v (.string ⟨#[]⟩)),(5, .p 5 0),(6, .p 6 0),(15, .v (.bool false))] [(6,84,[.v (.int .i64 u10), .v (.int .i64 v10)]),(5,84,[.v (.int .i64 x10), .v (.int .i64 y10)])] (by kernel_rfl) (by kernel_rfl) ?_
  refine sx_end (by kernel_rfl) ?_
  refine sx_next ?_
  refine sx_cond_f (by kernel_rfl) ?_
  refine sx_skip ?_
  refine sx_next ?_
  refine sx_seq ?_
  refine sx_region ?_
  refine sx_run 1 [(1, .v (.string t)),(4, .v (.string ⟨#[]⟩)),(27, .v (.string s))] [] (by kernel_rfl) (by kernel_rfl) ?_
  refine sx_call 75 [.string s] 28 shRat _ (by kernel_rfl) (by kernel_rfl) (fun w hE hΦ => (value_any s _ hΦ.1 (ReadOk.of_len hs)).mono (fun _ _ h => post_Rat h)) (fun xx => ?_)
  obtain ⟨s11,A11,l11,c11,t11,B11,m11,d11⟩ := xx
  refine sx_run 1 [(4, .v (.string ⟨#[]⟩)),(28, .v (.agg #[.bool s11, .slice A11 l11 c11, .bool t11, .slice B11 m11 d11])),(29, .v (.string t))] [] (by kernel_rfl) (by kernel_rfl) ?_
  refine sx_call 75 [.string t] 30 shRat _ (by kernel_rfl) (by kernel_rfl) (fun w hE hΦ => (value_any t _ hΦ.1.1 (ReadOk.of_len ht)).mono (fun _ _ h => post_Rat h)) (fun xx => ?_)
  obtain ⟨s12,A12,l12,c12,t12,B12,m12,d12⟩ := xx
  refine sx_run 0 [(4, .v (.string ⟨#[]⟩)),(28, .v (.agg #[.bool s11, .slice A11 l11 c11, .bool t11, .slice B11 m11 d11])),(30, .v (.agg #[.bool s12, .slice A12 l12 c12, .bool t12, .slice B12 m12 d12]))] [] (by kernel_rfl) (by kernel_rfl) ?_
  refine sx_call 82 [.agg #[.bool s11, .slice A11 l11 c11, .bool t11, .slice B11 m11 d11], .agg #[.bool s12, .slice A12 l12 c12, .bool t12, .slice B12 m12 d12]] 31 shRat _ (by kernel_rfl) (by kernel_rfl) (fun w hE hΦ => (QMul_any _ _ (valF (bytes s)) (valF (bytes t)) _ hΦ.1.1.1 hΦ.1.2 hΦ.2 (fa.up (by decide)) (fb.up (by decide))).mono (fun _ _ h => post_Rat h)) (fun xx => ?_)
  obtain ⟨s13,A13,l13,c13,t13,B13,m13,d13⟩ := xx
  refine sx_run 0 [(4, .v (.string ⟨#[]⟩)),(31, .v (.agg #[.bool s13, .slice A13 l13 c13, .bool t13, .slice B13 m13 d13]))] [] (by kernel_rfl) (by kernel_rfl) ?_
  refine sx_call 63 [.agg #[.bool s13, .slice A13 l13 c13, .bool t13, .slice B13 m13 d13]] 32 (fun _ : Unit => .string ⟨(ratText (valF (bytes s) * valF (bytes t))).toArray⟩) _ (by kernel_rfl) (by kernel_rfl) (fun w hE hΦ => (RString_any _ (valF (bytes s) * valF (bytes t)) _ hΦ.1.1.1.1 hΦ.2 hP.1 hP.2).mono (fun _ _ h => post_val h rfl)) (fun xx => ?_)
  refine sx_run 1 [(4, .v (.string ⟨(ratText (valF (bytes s) * valF (bytes t))).toArray⟩))] [] (by kernel_rfl) (by kernel_rfl) ?_
  refine sx_end (by kernel_rfl) ?_
  refine sx_next ?_
  refine sx_ret ?_
  refine sx_done (v := .string ⟨(ratText (valF (bytes s) * valF (bytes t))).toArray⟩) (by kernel_rfl) (fun w' hE hΦ => ?_)
  exact ⟨rfl,hE⟩
 ·refine sx_run 9 [(0, .v (.string s)),(1, .v (.string t)),(4, .v (.string ⟨#[]⟩)),(5, .p 5 0),(6, .p 6 0),(7, .v (.bool true))] [(6,84,[.v (.int .i64 u10), .v (.int .i64 v10)]),(5,84,[.v (.int .i64 x10), .v (.int .i64 y10)])] (by kernel_rfl) (by kernel_rfl) ?_
  refine sx_end (by kernel_rfl) ?_
  refine sx_next ?_
  refine sx_seq ?_
  refine sx_region ?_
  refine sx_run 1 [(0, .v (.string s)),(1, .v (.string t)),(4, .v (.string ⟨#[]⟩)),(5, .p 5 0),(6, .p 6 0),(15, .v (.bool true))] [(6,84,[.v (.int .i64 u10), .v (.int .i64 v10)]),(5,84,[.v (.int .i64 x10), .v (.int .i64 y10)])] (by kernel_rfl) (by kernel_rfl) ?_
  refine sx_end (by kernel_rfl) ?_
  refine sx_next ?_
  refine sx_cond_t (by kernel_rfl) ?_
  refine sx_seq ?_
  refine sx_region ?_
  refine sx_run 10 [(0, .v (.string s)),(1, .v (.string t)),(4, .v (.string ⟨#[]⟩)),(20, .v (.int .i64 (IntKind.i64.wrap (x10 * u10)))),(25, .v (.int .i64 (IntKind.i64.wrap (y10 * v10))))] [] (by kernel_rfl) (by kernel_rfl) ?_
  refine sx_call 74 [.int .i64 (IntKind.i64.wrap (x10 * u10)), .int .i64 (IntKind.i64.wrap (y10 * v10))] 26 (fun _ : Unit => .string ⟨(ratText (valF (bytes s) * valF (bytes t))).toArray⟩) _ (by kernel_rfl) (by kernel_rfl) (fun w hE hΦ => by obtain ⟨N,D,e1,e2,d0,n1,n2,e3⟩ := wMul (hΦ.2 rfl); rw [e1,e2]; exact (formatShort_any N D _ _ hΦ.1 n1 n2 (by omega) e3).mono (fun _ _ h => post_val h rfl)) (fun xx => ?_)
  refine sx_run 1 [(0, .v (.string s)),(1, .v (.string t)),(4, .v (.string ⟨(ratText (valF (bytes s) * valF (bytes t))).toArray⟩))] [] (by kernel_rfl) (by kernel_rfl) ?_
  refine sx_end (by kernel_rfl) ?_
  refine sx_next ?_
  refine sx_ret ?_
  refine sx_then_ret ?_
  refine sx_done (v := .string ⟨(ratText (valF (bytes s) * valF (bytes t))).toArray⟩) (by kernel_rfl) (fun w' hE hΦ => ?_)
  exact ⟨rfl,hE⟩
set_option maxRecDepth 100000 in
theorem TDiv_zero (s t : ByteArray) (w : World) (hg : Glob w) (hs : (bytes s).length ≤ 570) (ht : (bytes t).length ≤ 570) (h0 : (valF (bytes t)).num = 0) :
 Calls Tryz.prog 19 #[.string s, .string t] w (RetV w (.tuple #[.string ⟨#[]⟩, .bool false])) := by
 have hs8 : s.size ≤ 1099511627776 := by rw [bytes_length] at hs; omega
 have ht8 : t.size ≤ 1099511627776 := by rw [bytes_length] at ht; omega
 have fa := valF_fits hs
 have fb := valF_fits ht
 have hP := prt_div fa fb
 refine sx_enter (Φ := fun w => Glob w) Tryz.func19 rfl (by kernel_rfl) (fun w' hf => hg.ext hf) ?_
 refine sx_seq ?_
 refine sx_region ?_
 refine sx_run 2 [(0, .v (.string s)),(1, .v (.string t)),(4, .v (.string ⟨#[]⟩)),(5, .v (.bool false))] [] (by kernel_rfl) (by kernel_rfl) ?_
 refine sx_end (by kernel_rfl) ?_
 refine sx_next ?_
 refine sx_seq ?_
 refine sx_seq ?_
 refine sx_region ?_
 refine sx_run 2 [(0, .v (.string s)),(1, .v (.string t)),(4, .v (.string ⟨#[]⟩)),(5, .v (.bool false)),(11, .v (.string s)),(12, .v (.string t))] [] (by kernel_rfl) (by kernel_rfl) ?_
 refine sx_call 73 [.string s, .string t] 13 shTwo _ (by kernel_rfl) (by kernel_rfl) (fun w hE hΦ => (readTwo_any s t _ hs8 ht8).mono (fun _ _ h => post_Two h)) (fun xx => ?_)
 obtain ⟨x10,y10,u10,v10,ok10⟩ := xx
 cases ok10
 ·refine sx_run 9 [(0, .v (.string s)),(1, .v (.string t)),(4, .v (.string ⟨#[]⟩)),(5, .v (.bool false)),(6, .p 6 0),(7, .p 7 0),(8, .v (.bool false))] [(7,84,[.v (.int .i64 u10), .v (.int .i64 v10)]),(6,84,[.v (.int .i64 x10), .v (.int .i64 y10)])] (by kernel_rfl) (by kernel_rfl) ?_
  refine sx_end (by kernel_rfl) ?_
  refine sx_next ?_
  refine sx_seq ?_
  refine sx_region ?_
  refine sx_run 6 [(0, .v (.string s)),(1, .v (.string t)),(4, .v (.string ⟨#[]⟩)),(5, .v (.bool false)),(6, .p 6 0),(7, .p 7 0),(22, .v (.bool false))] [(7,84,[.v (.int .i64 u10), .v (.int .i64 v10)]),(6,84,[.v (.int .i64 x10), .v (.int .i64 y10)])] (by kernel_rfl) (by kernel_rfl) ?_
  refine sx_end (by kernel_rfl) ?_
  refine sx_next ?_
  refine sx_cond_f (by kernel_rfl) ?_
  refine sx_skip ?_
  refine sx_next ?_
  refine sx_seq ?_
  refine sx_region ?_
  refine sx_run 1 [(0, .v (.string s)),(4, .v (.string ⟨#[]⟩)),(5, .v (.bool false)),(34, .v (.string t))] [] (by kernel_rfl) (by kernel_rfl) ?_
  refine sx_call 75 [.string t] 35 shRat _ (by kernel_rfl) (by kernel_rfl) (fun w hE hΦ => (value_any t _ hΦ.1 (ReadOk.of_len ht)).mono (fun _ _ h => post_Rat h)) (fun xx => ?_)
  obtain ⟨s11,A11,l11,c11,t11,B11,m11,d11⟩ := xx
  refine sx_run 2 [(0, .v (.string s)),(4, .v (.string ⟨#[]⟩)),(5, .v (.bool false)),(9, .p 9 0)] [(9,70,[.v (.bool s11), .v (.slice A11 l11 c11), .v (.bool t11), .v (.slice B11 m11 d11)])] (by kernel_rfl) (by kernel_rfl) ?_
  refine sx_end (by kernel_rfl) ?_
  refine sx_next ?_
  refine sx_seq ?_
  refine sx_seq ?_
  refine sx_region ?_
  refine sx_run 1 [(0, .v (.string s)),(4, .v (.string ⟨#[]⟩)),(5, .v (.bool false)),(9, .p 9 0),(36, .v (.agg #[.bool s11, .slice A11 l11 c11, .bool t11, .slice B11 m11 d11]))] [(9,70,[.v (.bool s11), .v (.slice A11 l11 c11), .v (.bool t11), .v (.slice B11 m11 d11)])] (by kernel_rfl) (by kernel_rfl) ?_
  refine sx_call 76 [.agg #[.bool s11, .slice A11 l11 c11, .bool t11, .slice B11 m11 d11]] 37 (fun _ : Unit => .bool true) _ (by kernel_rfl) (by kernel_rfl) (fun w hE hΦ => (QIsZero_any _ (valF (bytes t)) _ hΦ.2).mono (fun _ _ h => post_val h (by rw [decide_eq_true h0]))) (fun xx => ?_)
  refine sx_run 0 [(0, .v (.string s)),(4, .v (.string ⟨#[]⟩)),(5, .v (.bool false)),(9, .p 9 0),(37, .v (.bool true))] [(9,70,[.v (.bool s11), .v (.slice A11 l11 c11), .v (.bool t11), .v (.slice B11 m11 d11)])] (by kernel_rfl) (by kernel_rfl) ?_
  refine sx_end (by kernel_rfl) ?_
  refine sx_next ?_
  refine sx_cond_t (by kernel_rfl) ?_
  refine sx_seq ?_
  refine sx_region ?_
  refine sx_run 2 [(0, .v (.string s)),(4, .v (.string ⟨#[]⟩)),(5, .v (.bool false)),(9, .p 9 0)] [(9,70,[.v (.bool s11), .v (.slice A11 l11 c11), .v (.bool t11), .v (.slice B11 m11 d11)])] (by kernel_rfl) (by kernel_rfl) ?_
  refine sx_end (by kernel_rfl) ?_
  refine sx_next ?_
  refine sx_ret ?_
  refine sx_then_ret ?_
  refine sx_done (v := .tuple #[.string ⟨#[]⟩, .bool false]) (by kernel_rfl) (fun w' hE hΦ => ?_)
  exact ⟨rfl,hE⟩
 ·refine sx_run 9 [(0, .v (.string s)),(1, .v (.string t)),(4, .v (.string ⟨#[]⟩)),(5, .v (.bool false)),(6, .p 6 0),(7, .p 7 0),(8, .v (.bool true))] [(7,84,[.v (.int .i64 u10), .v (.int .i64 v10)]),(6,84,[.v (.int .i64 x10), .v (.int .i64 y10)])] (by kernel_rfl) (by kernel_rfl) ?_
  refine sx_end (by kernel_rfl) ?_
  refine sx_next ?_
  refine sx_seq ?_
  refine sx_region ?_
  refine sx_run 6 [(0, .v (.string s)),(1, .v (.string t)),(4, .v (.string ⟨#[]⟩)),(5, .v (.bool false)),(6, .p 6 0),(7, .p 7 0),(22, .v (.bool ((u10 : Int) != 0)))] [(7,84,[.v (.int .i64 u10), .v (.int .i64 v10)]),(6,84,[.v (.int .i64 x10), .v (.int .i64 y10)])] (by kernel_rfl) (by kernel_rfl) ?_
  refine sx_end (by kernel_rfl) ?_
  refine sx_next ?_
  refine sx_cond (((u10 : Int) != 0)) (by kernel_rfl) (fun hb12 => ?_) (fun hb12 => ?_)
  ·refine SXc.know (p := False) (fun w hE hΦ => ?_) (fun h => h.elim)
   obtain ⟨p',q',e1,e2,e3,e4,e5,_⟩ := short_two (hΦ.2 rfl)
   rw [e2,show q'.num = u10 from e5] at h0; rw [h0] at hb12; cases hb12
  ·refine sx_skip ?_
   refine sx_next ?_
   refine sx_seq ?_
   refine sx_region ?_
   refine sx_run 1 [(0, .v (.string s)),(4, .v (.string ⟨#[]⟩)),(5, .v (.bool false)),(34, .v (.string t))] [] (by kernel_rfl) (by kernel_rfl) ?_
   refine sx_call 75 [.string t] 35 shRat _ (by kernel_rfl) (by kernel_rfl) (fun w hE hΦ => (value_any t _ hΦ.1 (ReadOk.of_len ht)).mono (fun _ _ h => post_Rat h)) (fun xx => ?_)
   obtain ⟨s13,A13,l13,c13,t13,B13,m13,d13⟩ := xx
   refine sx_run 2 [(0, .v (.string s)),(4, .v (.string ⟨#[]⟩)),(5, .v (.bool false)),(9, .p 9 0)] [(9,70,[.v (.bool s13), .v (.slice A13 l13 c13), .v (.bool t13), .v (.slice B13 m13 d13)])] (by kernel_rfl) (by kernel_rfl) ?_
   refine sx_end (by kernel_rfl) ?_
   refine sx_next ?_
   refine sx_seq ?_
   refine sx_seq ?_
   refine sx_region ?_
   refine sx_run 1 [(0, .v (.string s)),(4, .v (.string ⟨#[]⟩)),(5, .v (.bool false)),(9, .p 9 0),(36, .v (.agg #[.bool s13, .slice A13 l13 c13, .bool t13, .slice B13 m13 d13]))] [(9,70,[.v (.bool s13), .v (.slice A13 l13 c13), .v (.bool t13), .v (.slice B13 m13 d13)])] (by kernel_rfl) (by kernel_rfl) ?_
   refine sx_call 76 [.agg #[.bool s13, .slice A13 l13 c13, .bool t13, .slice B13 m13 d13]] 37 (fun _ : Unit => .bool true) _ (by kernel_rfl) (by kernel_rfl) (fun w hE hΦ => (QIsZero_any _ (valF (bytes t)) _ hΦ.2).mono (fun _ _ h => post_val h (by rw [decide_eq_true h0]))) (fun xx => ?_)
   refine sx_run 0 [(0, .v (.string s)),(4, .v (.string ⟨#[]⟩)),(5, .v (.bool false)),(9, .p 9 0),(37, .v (.bool true))] [(9,70,[.v (.bool s13), .v (.slice A13 l13 c13), .v (.bool t13), .v (.slice B13 m13 d13)])] (by kernel_rfl) (by kernel_rfl) ?_
   refine sx_end (by kernel_rfl) ?_
   refine sx_next ?_
   refine sx_cond_t (by kernel_rfl) ?_
   refine sx_seq ?_
   refine sx_region ?_
   refine sx_run 2 [(0, .v (.string s)),(4, .v (.string ⟨#[]⟩)),(5, .v (.bool false)),(9, .p 9 0)] [(9,70,[.v (.bool s13), .v (.slice A13 l13 c13), .v (.bool t13), .v (.slice B13 m13 d13)])] (by kernel_rfl) (by kernel_rfl) ?_
   refine sx_end (by kernel_rfl) ?_
   refine sx_next ?_
   refine sx_ret ?_
   refine sx_then_ret ?_
   refine sx_done (v := .tuple #[.string ⟨#[]⟩, .bool false]) (by kernel_rfl) (fun w' hE hΦ => ?_)
   exact ⟨rfl,hE⟩
set_option maxRecDepth 100000 in
theorem TDiv_nz (s t : ByteArray) (w : World) (hg : Glob w) (hs : (bytes s).length ≤ 570) (ht : (bytes t).length ≤ 570) (h0 : ¬ (valF (bytes t)).num = 0) :
 Calls Tryz.prog 19 #[.string s, .string t] w (RetV w (.tuple #[.string ⟨(ratText (valF (bytes s) / valF (bytes t))).toArray⟩, .bool true])) := by
 have hs8 : s.size ≤ 1099511627776 := by rw [bytes_length] at hs; omega
 have ht8 : t.size ≤ 1099511627776 := by rw [bytes_length] at ht; omega
 have fa := valF_fits hs
 have fb := valF_fits ht
 have hP := prt_div fa fb
 refine sx_enter (Φ := fun w => Glob w) Tryz.func19 rfl (by kernel_rfl) (fun w' hf => hg.ext hf) ?_
 refine sx_seq ?_
 refine sx_region ?_
 refine sx_run 2 [(0, .v (.string s)),(1, .v (.string t)),(4, .v (.string ⟨#[]⟩)),(5, .v (.bool false))] [] (by kernel_rfl) (by kernel_rfl) ?_
 refine sx_end (by kernel_rfl) ?_
 refine sx_next ?_
 refine sx_seq ?_
 refine sx_seq ?_
 refine sx_region ?_
 refine sx_run 2 [(0, .v (.string s)),(1, .v (.string t)),(4, .v (.string ⟨#[]⟩)),(5, .v (.bool false)),(11, .v (.string s)),(12, .v (.string t))] [] (by kernel_rfl) (by kernel_rfl) ?_
 refine sx_call 73 [.string s, .string t] 13 shTwo _ (by kernel_rfl) (by kernel_rfl) (fun w hE hΦ => (readTwo_any s t _ hs8 ht8).mono (fun _ _ h => post_Two h)) (fun xx => ?_)
 obtain ⟨x10,y10,u10,v10,ok10⟩ := xx
 cases ok10
 ·refine sx_run 9 [(0, .v (.string s)),(1, .v (.string t)),(4, .v (.string ⟨#[]⟩)),(5, .v (.bool false)),(6, .p 6 0),(7, .p 7 0),(8, .v (.bool false))] [(7,84,[.v (.int .i64 u10), .v (.int .i64 v10)]),(6,84,[.v (.int .i64 x10), .v (.int .i64 y10)])] (by kernel_rfl) (by kernel_rfl) ?_
  refine sx_end (by kernel_rfl) ?_
  refine sx_next ?_
  refine sx_seq ?_
  refine sx_region ?_
  refine sx_run 6 [(0, .v (.string s)),(1, .v (.string t)),(4, .v (.string ⟨#[]⟩)),(5, .v (.bool false)),(6, .p 6 0),(7, .p 7 0),(22, .v (.bool false))] [(7,84,[.v (.int .i64 u10), .v (.int .i64 v10)]),(6,84,[.v (.int .i64 x10), .v (.int .i64 y10)])] (by kernel_rfl) (by kernel_rfl) ?_
  refine sx_end (by kernel_rfl) ?_
  refine sx_next ?_
  refine sx_cond_f (by kernel_rfl) ?_
  refine sx_skip ?_
  refine sx_next ?_
  refine sx_seq ?_
  refine sx_region ?_
  refine sx_run 1 [(0, .v (.string s)),(4, .v (.string ⟨#[]⟩)),(5, .v (.bool false)),(34, .v (.string t))] [] (by kernel_rfl) (by kernel_rfl) ?_
  refine sx_call 75 [.string t] 35 shRat _ (by kernel_rfl) (by kernel_rfl) (fun w hE hΦ => (value_any t _ hΦ.1 (ReadOk.of_len ht)).mono (fun _ _ h => post_Rat h)) (fun xx => ?_)
  obtain ⟨s11,A11,l11,c11,t11,B11,m11,d11⟩ := xx
  refine sx_run 2 [(0, .v (.string s)),(4, .v (.string ⟨#[]⟩)),(5, .v (.bool false)),(9, .p 9 0)] [(9,70,[.v (.bool s11), .v (.slice A11 l11 c11), .v (.bool t11), .v (.slice B11 m11 d11)])] (by kernel_rfl) (by kernel_rfl) ?_
  refine sx_end (by kernel_rfl) ?_
  refine sx_next ?_
  refine sx_seq ?_
  refine sx_seq ?_
  refine sx_region ?_
  refine sx_run 1 [(0, .v (.string s)),(4, .v (.string ⟨#[]⟩)),(5, .v (.bool false)),(9, .p 9 0),(36, .v (.agg #[.bool s11, .slice A11 l11 c11, .bool t11, .slice B11 m11 d11]))] [(9,70,[.v (.bool s11), .v (.slice A11 l11 c11), .v (.bool t11), .v (.slice B11 m11 d11)])] (by kernel_rfl) (by kernel_rfl) ?_
  refine sx_call 76 [.agg #[.bool s11, .slice A11 l11 c11, .bool t11, .slice B11 m11 d11]] 37 (fun _ : Unit => .bool false) _ (by kernel_rfl) (by kernel_rfl) (fun w hE hΦ => (QIsZero_any _ (valF (bytes t)) _ hΦ.2).mono (fun _ _ h => post_val h (by rw [decide_eq_false h0]))) (fun xx => ?_)
  refine sx_run 0 [(0, .v (.string s)),(4, .v (.string ⟨#[]⟩)),(5, .v (.bool false)),(9, .p 9 0),(37, .v (.bool false))] [(9,70,[.v (.bool s11), .v (.slice A11 l11 c11), .v (.bool t11), .v (.slice B11 m11 d11)])] (by kernel_rfl) (by kernel_rfl) ?_
  refine sx_end (by kernel_rfl) ?_
  refine sx_next ?_
  refine sx_cond_f (by kernel_rfl) ?_
  refine sx_skip ?_
  refine sx_next ?_
  refine sx_seq ?_
  refine sx_draw 7 (by kernel_rfl) (by kernel_rfl) follows_mixed' ?_
  refine st_flt 1 [(4, .v (.string ⟨#[]⟩)),(5, .v (.bool false)),(9, .p 9 0),(38, .v (.string s))] [(9,70,[.v (.bool s11), .v (.slice A11 l11 c11), .v (.bool t11), .v (.slice B11 m11 d11)])] (by kernel_rfl) (by kernel_rfl) ?_
  refine st_call 75 [.string s] 39 shRat _ (by kernel_rfl) (by kernel_rfl) (by kernel_rfl) (fun w hE hΦ => (value_any s _ hΦ.1.1.1 (ReadOk.of_len hs)).mono (fun _ _ h => post_Rat h)) (fun xx => ?_)
  obtain ⟨s12,A12,l12,c12,t12,B12,m12,d12⟩ := xx
  refine st_flt 1 [(4, .v (.string ⟨#[]⟩)),(5, .v (.bool false)),(39, .v (.agg #[.bool s12, .slice A12 l12 c12, .bool t12, .slice B12 m12 d12])),(40, .v (.agg #[.bool s11, .slice A11 l11 c11, .bool t11, .slice B11 m11 d11]))] [(9,70,[.v (.bool s11), .v (.slice A11 l11 c11), .v (.bool t11), .v (.slice B11 m11 d11)])] (by kernel_rfl) (by kernel_rfl) ?_
  refine st_call 77 [.agg #[.bool s12, .slice A12 l12 c12, .bool t12, .slice B12 m12 d12], .agg #[.bool s11, .slice A11 l11 c11, .bool t11, .slice B11 m11 d11]] 41 shRat _ (by kernel_rfl) (by kernel_rfl) (by kernel_rfl) (fun w hE hΦ => (QDiv_any _ _ (valF (bytes s)) (valF (bytes t)) _ hΦ.1.1.1.1 hΦ.2 hΦ.1.1.2 (fa.up (by decide)) (fb.up (by decide))).mono (fun _ _ h => post_Rat h)) (fun xx => ?_)
  obtain ⟨s13,A13,l13,c13,t13,B13,m13,d13⟩ := xx
  refine st_flt 0 [(4, .v (.string ⟨#[]⟩)),(5, .v (.bool false)),(41, .v (.agg #[.bool s13, .slice A13 l13 c13, .bool t13, .slice B13 m13 d13]))] [(9,70,[.v (.bool s11), .v (.slice A11 l11 c11), .v (.bool t11), .v (.slice B11 m11 d11)])] (by kernel_rfl) (by kernel_rfl) ?_
  refine st_call 63 [.agg #[.bool s13, .slice A13 l13 c13, .bool t13, .slice B13 m13 d13]] 42 (fun _ : Unit => .string ⟨(ratText (valF (bytes s) / valF (bytes t))).toArray⟩) _ (by kernel_rfl) (by kernel_rfl) (by kernel_rfl) (fun w hE hΦ => (RString_any _ (valF (bytes s) / valF (bytes t)) _ hΦ.1.1.1.1.1 hΦ.2 hP.1 hP.2).mono (fun _ _ h => post_val h rfl)) (fun xx => ?_)
  refine st_flt 2 [(4, .v (.string ⟨(ratText (valF (bytes s) / valF (bytes t))).toArray⟩)),(5, .v (.bool true))] [(9,70,[.v (.bool s11), .v (.slice A11 l11 c11), .v (.bool t11), .v (.slice B11 m11 d11)])] (by kernel_rfl) (by kernel_rfl) ?_
  refine st_end (by kernel_rfl) ?_
  refine sx_end (by kernel_rfl) ?_
  refine sx_next ?_
  refine sx_ret ?_
  refine sx_done (v := .tuple #[.string ⟨(ratText (valF (bytes s) / valF (bytes t))).toArray⟩, .bool true]) (by kernel_rfl) (fun w' hE hΦ => ?_)
  exact ⟨rfl,hE⟩
 ·refine sx_run 9 [(0, .v (.string s)),(1, .v (.string t)),(4, .v (.string ⟨#[]⟩)),(5, .v (.bool false)),(6, .p 6 0),(7, .p 7 0),(8, .v (.bool true))] [(7,84,[.v (.int .i64 u10), .v (.int .i64 v10)]),(6,84,[.v (.int .i64 x10), .v (.int .i64 y10)])] (by kernel_rfl) (by kernel_rfl) ?_
  refine sx_end (by kernel_rfl) ?_
  refine sx_next ?_
  refine sx_seq ?_
  refine sx_region ?_
  refine sx_run 6 [(0, .v (.string s)),(1, .v (.string t)),(4, .v (.string ⟨#[]⟩)),(5, .v (.bool false)),(6, .p 6 0),(7, .p 7 0),(22, .v (.bool ((u10 : Int) != 0)))] [(7,84,[.v (.int .i64 u10), .v (.int .i64 v10)]),(6,84,[.v (.int .i64 x10), .v (.int .i64 y10)])] (by kernel_rfl) (by kernel_rfl) ?_
  refine sx_end (by kernel_rfl) ?_
  refine sx_next ?_
  refine sx_cond (((u10 : Int) != 0)) (by kernel_rfl) (fun hb14 => ?_) (fun hb14 => ?_)
  ·refine sx_seq ?_
   refine sx_region ?_
   refine sx_run 10 [(0, .v (.string s)),(1, .v (.string t)),(4, .v (.string ⟨#[]⟩)),(5, .v (.bool false)),(27, .v (.int .i64 (IntKind.i64.wrap (x10 * v10)))),(32, .v (.int .i64 (IntKind.i64.wrap (y10 * u10))))] [] (by kernel_rfl) (by kernel_rfl) ?_
   refine sx_call 74 [.int .i64 (IntKind.i64.wrap (x10 * v10)), .int .i64 (IntKind.i64.wrap (y10 * u10))] 33 (fun _ : Unit => .string ⟨(ratText (valF (bytes s) / valF (bytes t))).toArray⟩) _ (by kernel_rfl) (by kernel_rfl) (fun w hE hΦ => by obtain ⟨N,D,e1,e2,d0,n1,n2,e3⟩ := wDiv (hΦ.2 rfl) (by rw [bne_iff_ne] at hb14; exact hb14); rw [e1,e2]; exact (formatShort_any N D _ _ hΦ.1 n1 n2 d0 e3).mono (fun _ _ h => post_val h rfl)) (fun xx => ?_)
   refine sx_run 2 [(0, .v (.string s)),(1, .v (.string t)),(4, .v (.string ⟨(ratText (valF (bytes s) / valF (bytes t))).toArray⟩)),(5, .v (.bool true))] [] (by kernel_rfl) (by kernel_rfl) ?_
   refine sx_end (by kernel_rfl) ?_
   refine sx_next ?_
   refine sx_ret ?_
   refine sx_then_ret ?_
   refine sx_done (v := .tuple #[.string ⟨(ratText (valF (bytes s) / valF (bytes t))).toArray⟩, .bool true]) (by kernel_rfl) (fun w' hE hΦ => ?_)
   exact ⟨rfl,hE⟩
  ·refine sx_skip ?_
   refine sx_next ?_
   refine sx_seq ?_
   refine sx_region ?_
   refine sx_run 1 [(0, .v (.string s)),(4, .v (.string ⟨#[]⟩)),(5, .v (.bool false)),(34, .v (.string t))] [] (by kernel_rfl) (by kernel_rfl) ?_
   refine sx_call 75 [.string t] 35 shRat _ (by kernel_rfl) (by kernel_rfl) (fun w hE hΦ => (value_any t _ hΦ.1 (ReadOk.of_len ht)).mono (fun _ _ h => post_Rat h)) (fun xx => ?_)
   obtain ⟨s15,A15,l15,c15,t15,B15,m15,d15⟩ := xx
   refine sx_run 2 [(0, .v (.string s)),(4, .v (.string ⟨#[]⟩)),(5, .v (.bool false)),(9, .p 9 0)] [(9,70,[.v (.bool s15), .v (.slice A15 l15 c15), .v (.bool t15), .v (.slice B15 m15 d15)])] (by kernel_rfl) (by kernel_rfl) ?_
   refine sx_end (by kernel_rfl) ?_
   refine sx_next ?_
   refine sx_seq ?_
   refine sx_seq ?_
   refine sx_region ?_
   refine sx_run 1 [(0, .v (.string s)),(4, .v (.string ⟨#[]⟩)),(5, .v (.bool false)),(9, .p 9 0),(36, .v (.agg #[.bool s15, .slice A15 l15 c15, .bool t15, .slice B15 m15 d15]))] [(9,70,[.v (.bool s15), .v (.slice A15 l15 c15), .v (.bool t15), .v (.slice B15 m15 d15)])] (by kernel_rfl) (by kernel_rfl) ?_
   refine sx_call 76 [.agg #[.bool s15, .slice A15 l15 c15, .bool t15, .slice B15 m15 d15]] 37 (fun _ : Unit => .bool false) _ (by kernel_rfl) (by kernel_rfl) (fun w hE hΦ => (QIsZero_any _ (valF (bytes t)) _ hΦ.2).mono (fun _ _ h => post_val h (by rw [decide_eq_false h0]))) (fun xx => ?_)
   refine sx_run 0 [(0, .v (.string s)),(4, .v (.string ⟨#[]⟩)),(5, .v (.bool false)),(9, .p 9 0),(37, .v (.bool false))] [(9,70,[.v (.bool s15), .v (.slice A15 l15 c15), .v (.bool t15), .v (.slice B15 m15 d15)])] (by kernel_rfl) (by kernel_rfl) ?_
   refine sx_end (by kernel_rfl) ?_
   refine sx_next ?_
   refine sx_cond_f (by kernel_rfl) ?_
   refine sx_skip ?_
   refine sx_next ?_
   refine sx_seq ?_
   refine sx_draw 7 (by kernel_rfl) (by kernel_rfl) follows_mixed' ?_
   refine st_flt 1 [(4, .v (.string ⟨#[]⟩)),(5, .v (.bool false)),(9, .p 9 0),(38, .v (.string s))] [(9,70,[.v (.bool s15), .v (.slice A15 l15 c15), .v (.bool t15), .v (.slice B15 m15 d15)])] (by kernel_rfl) (by kernel_rfl) ?_
   refine st_call 75 [.string s] 39 shRat _ (by kernel_rfl) (by kernel_rfl) (by kernel_rfl) (fun w hE hΦ => (value_any s _ hΦ.1.1.1 (ReadOk.of_len hs)).mono (fun _ _ h => post_Rat h)) (fun xx => ?_)
   obtain ⟨s16,A16,l16,c16,t16,B16,m16,d16⟩ := xx
   refine st_flt 1 [(4, .v (.string ⟨#[]⟩)),(5, .v (.bool false)),(39, .v (.agg #[.bool s16, .slice A16 l16 c16, .bool t16, .slice B16 m16 d16])),(40, .v (.agg #[.bool s15, .slice A15 l15 c15, .bool t15, .slice B15 m15 d15]))] [(9,70,[.v (.bool s15), .v (.slice A15 l15 c15), .v (.bool t15), .v (.slice B15 m15 d15)])] (by kernel_rfl) (by kernel_rfl) ?_
   refine st_call 77 [.agg #[.bool s16, .slice A16 l16 c16, .bool t16, .slice B16 m16 d16], .agg #[.bool s15, .slice A15 l15 c15, .bool t15, .slice B15 m15 d15]] 41 shRat _ (by kernel_rfl) (by kernel_rfl) (by kernel_rfl) (fun w hE hΦ => (QDiv_any _ _ (valF (bytes s)) (valF (bytes t)) _ hΦ.1.1.1.1 hΦ.2 hΦ.1.1.2 (fa.up (by decide)) (fb.up (by decide))).mono (fun _ _ h => post_Rat h)) (fun xx => ?_)
   obtain ⟨s17,A17,l17,c17,t17,B17,m17,d17⟩ := xx
   refine st_flt 0 [(4, .v (.string ⟨#[]⟩)),(5, .v (.bool false)),(41, .v (.agg #[.bool s17, .slice A17 l17 c17, .bool t17, .slice B17 m17 d17]))] [(9,70,[.v (.bool s15), .v (.slice A15 l15 c15), .v (.bool t15), .v (.slice B15 m15 d15)])] (by kernel_rfl) (by kernel_rfl) ?_
   refine st_call 63 [.agg #[.bool s17, .slice A17 l17 c17, .bool t17, .slice B17 m17 d17]] 42 (fun _ : Unit => .string ⟨(ratText (valF (bytes s) / valF (bytes t))).toArray⟩) _ (by kernel_rfl) (by kernel_rfl) (by kernel_rfl) (fun w hE hΦ => (RString_any _ (valF (bytes s) / valF (bytes t)) _ hΦ.1.1.1.1.1 hΦ.2 hP.1 hP.2).mono (fun _ _ h => post_val h rfl)) (fun xx => ?_)
   refine st_flt 2 [(4, .v (.string ⟨(ratText (valF (bytes s) / valF (bytes t))).toArray⟩)),(5, .v (.bool true))] [(9,70,[.v (.bool s15), .v (.slice A15 l15 c15), .v (.bool t15), .v (.slice B15 m15 d15)])] (by kernel_rfl) (by kernel_rfl) ?_
   refine st_end (by kernel_rfl) ?_
   refine sx_end (by kernel_rfl) ?_
   refine sx_next ?_
   refine sx_ret ?_
   refine sx_done (v := .tuple #[.string ⟨(ratText (valF (bytes s) / valF (bytes t))).toArray⟩, .bool true]) (by kernel_rfl) (fun w' hE hΦ => ?_)
   exact ⟨rfl,hE⟩
set_option maxRecDepth 100000 in
theorem TCompare_any (s t : ByteArray) (w : World) (hg : Glob w) (hs : (bytes s).length ≤ 570) (ht : (bytes t).length ≤ 570) :
 Calls Tryz.prog 29 #[.string s, .string t] w (RetV w (.int .i64 (valF (bytes s) - valF (bytes t)).num.sign)) := by
 have hs8 : s.size ≤ 1099511627776 := by rw [bytes_length] at hs; omega
 have ht8 : t.size ≤ 1099511627776 := by rw [bytes_length] at ht; omega
 have fa := valF_fits hs
 have fb := valF_fits ht
 refine sx_enter (Φ := fun w => Glob w) Tryz.func29 rfl (by kernel_rfl) (fun w' hf => hg.ext hf) ?_
 refine sx_seq ?_
 refine sx_region ?_
 refine sx_run 1 [(0, .v (.string s)),(1, .v (.string t)),(4, .v (.int .i64 0))] [] (by kernel_rfl) (by kernel_rfl) ?_
 refine sx_end (by kernel_rfl) ?_
 refine sx_next ?_
 refine sx_seq ?_
 refine sx_seq ?_
 refine sx_region ?_
 refine sx_run 2 [(0, .v (.string s)),(1, .v (.string t)),(4, .v (.int .i64 0)),(9, .v (.string s)),(10, .v (.string t))] [] (by kernel_rfl) (by kernel_rfl) ?_
 refine sx_call 73 [.string s, .string t] 11 shTwo _ (by kernel_rfl) (by kernel_rfl) (fun w hE hΦ => (readTwo_any s t _ hs8 ht8).mono (fun _ _ h => post_Two h)) (fun xx => ?_)
 obtain ⟨x10,y10,u10,v10,ok10⟩ := xx
 cases ok10
 ·refine sx_run 9 [(0, .v (.string s)),(1, .v (.string t)),(4, .v (.int .i64 0)),(5, .p 5 0),(6, .p 6 0),(7, .v (.bool false))] [(6,84,[.v (.int .i64 u10), .v (.int .i64 v10)]),(5,84,[.v (.int .i64 x10), .v (.int .i64 y10)])] (by kernel_rfl) (by kernel_rfl) ?_
  refine sx_end (by kernel_rfl) ?_
  refine sx_next ?_
  refine sx_seq ?_
  refine sx_region ?_
  refine sx_run 1 [(0, .v (.string s)),(1, .v (.string t)),(4, .v (.int .i64 0)),(5, .p 5 0),(6, .p 6 0),(15, .v (.bool false))] [(6,84,[.v (.int .i64 u10), .v (.int .i64 v10)]),(5,84,[.v (.int .i64 x10), .v (.int .i64 y10)])] (by kernel_rfl) (by kernel_rfl) ?_
  refine sx_end (by kernel_rfl) ?_
  refine sx_next ?_
  refine sx_cond_f (by kernel_rfl) ?_
  refine sx_skip ?_
  refine sx_next ?_
  refine sx_seq ?_
  refine sx_region ?_
  refine sx_run 1 [(1, .v (.string t)),(4, .v (.int .i64 0)),(27, .v (.string s))] [] (by kernel_rfl) (by kernel_rfl) ?_
  refine sx_call 75 [.string s] 28 shRat _ (by kernel_rfl) (by kernel_rfl) (fun w hE hΦ => (value_any s _ hΦ.1 (ReadOk.of_len hs)).mono (fun _ _ h => post_Rat h)) (fun xx => ?_)
  obtain ⟨s11,A11,l11,c11,t11,B11,m11,d11⟩ := xx
  refine sx_run 1 [(4, .v (.int .i64 0)),(28, .v (.agg #[.bool s11, .slice A11 l11 c11, .bool t11, .slice B11 m11 d11])),(29, .v (.string t))] [] (by kernel_rfl) (by kernel_rfl) ?_
  refine sx_call 75 [.string t] 30 shRat _ (by kernel_rfl) (by kernel_rfl) (fun w hE hΦ => (value_any t _ hΦ.1.1 (ReadOk.of_len ht)).mono (fun _ _ h => post_Rat h)) (fun xx => ?_)
  obtain ⟨s12,A12,l12,c12,t12,B12,m12,d12⟩ := xx
  refine sx_run 0 [(4, .v (.int .i64 0)),(28, .v (.agg #[.bool s11, .slice A11 l11 c11, .bool t11, .slice B11 m11 d11])),(30, .v (.agg #[.bool s12, .slice A12 l12 c12, .bool t12, .slice B12 m12 d12]))] [] (by kernel_rfl) (by kernel_rfl) ?_
  refine sx_call 84 [.agg #[.bool s11, .slice A11 l11 c11, .bool t11, .slice B11 m11 d11], .agg #[.bool s12, .slice A12 l12 c12, .bool t12, .slice B12 m12 d12]] 31 (fun _ : Unit => .int .i64 (valF (bytes s) - valF (bytes t)).num.sign) _ (by kernel_rfl) (by kernel_rfl) (fun w hE hΦ => (QCompare_any _ _ (valF (bytes s)) (valF (bytes t)) _ hΦ.1.2 hΦ.2 (fa.up (by decide)) (fb.up (by decide))).mono (fun _ _ h => post_val h rfl)) (fun xx => ?_)
  refine sx_run 1 [(4, .v (.int .i64 (valF (bytes s) - valF (bytes t)).num.sign))] [] (by kernel_rfl) (by kernel_rfl) ?_
  refine sx_end (by kernel_rfl) ?_
  refine sx_next ?_
  refine sx_ret ?_
  refine sx_done (v := .int .i64 (valF (bytes s) - valF (bytes t)).num.sign) (by kernel_rfl) (fun w' hE hΦ => ?_)
  exact ⟨rfl,hE⟩
 ·refine sx_run 9 [(0, .v (.string s)),(1, .v (.string t)),(4, .v (.int .i64 0)),(5, .p 5 0),(6, .p 6 0),(7, .v (.bool true))] [(6,84,[.v (.int .i64 u10), .v (.int .i64 v10)]),(5,84,[.v (.int .i64 x10), .v (.int .i64 y10)])] (by kernel_rfl) (by kernel_rfl) ?_
  refine sx_end (by kernel_rfl) ?_
  refine sx_next ?_
  refine sx_seq ?_
  refine sx_region ?_
  refine sx_run 1 [(0, .v (.string s)),(1, .v (.string t)),(4, .v (.int .i64 0)),(5, .p 5 0),(6, .p 6 0),(15, .v (.bool true))] [(6,84,[.v (.int .i64 u10), .v (.int .i64 v10)]),(5,84,[.v (.int .i64 x10), .v (.int .i64 y10)])] (by kernel_rfl) (by kernel_rfl) ?_
  refine sx_end (by kernel_rfl) ?_
  refine sx_next ?_
  refine sx_cond_t (by kernel_rfl) ?_
  refine sx_seq ?_
  refine sx_region ?_
  refine sx_run 10 [(0, .v (.string s)),(1, .v (.string t)),(4, .v (.int .i64 0)),(20, .v (.int .i64 (IntKind.i64.wrap (x10 * v10)))),(25, .v (.int .i64 (IntKind.i64.wrap (u10 * y10))))] [] (by kernel_rfl) (by kernel_rfl) ?_
  refine sx_call 83 [.int .i64 (IntKind.i64.wrap (x10 * v10)), .int .i64 (IntKind.i64.wrap (u10 * y10))] 26 (fun _ : Unit => .int .i64 (valF (bytes s) - valF (bytes t)).num.sign) _ (by kernel_rfl) (by kernel_rfl) (fun w hE hΦ => by rw [← wCmp (hΦ.2 rfl)]; exact (compareInts_any _ _ _).mono (fun _ _ h => post_val (v := _) ⟨h.1,h.2 ▸ Fr.refl _ _⟩ rfl)) (fun xx => ?_)
  refine sx_run 1 [(0, .v (.string s)),(1, .v (.string t)),(4, .v (.int .i64 (valF (bytes s) - valF (bytes t)).num.sign))] [] (by kernel_rfl) (by kernel_rfl) ?_
  refine sx_end (by kernel_rfl) ?_
  refine sx_next ?_
  refine sx_ret ?_
  refine sx_then_ret ?_
  refine sx_done (v := .int .i64 (valF (bytes s) - valF (bytes t)).num.sign) (by kernel_rfl) (fun w' hE hΦ => ?_)
  exact ⟨rfl,hE⟩
end Go.Proofs.YtibipjlohahekaaGreatDoor

namespace Go.Proofs.YtibipjlohahekaaGreatDoor
open Go.RowKit
theorem readF_dec {l : List UInt8} {q : Rat} {k : Nat} (h : readF l = some q) (hl : l.length ≤ k) (hk : 1 ≤ k) : q.num.natAbs < 10 ^ k ∧ q.den < 10 ^ k := by
 unfold readF at h
 obtain ⟨⟨neg,num,den,ok⟩,hS⟩ : ∃ x,splitF l = x := ⟨_,rfl⟩
 rw [hS] at h
 cases ok with
 | false => cases h
 | true =>
   obtain ⟨d1,d2,d3⟩ := splitF_digits hS
   have hn : ∀ z,(sg neg z).natAbs = z := fun z => by unfold sg; split <;> omega
   have w1 : decVal num < 10 ^ k := Nat.lt_of_lt_of_le (decVal_lt num d1) (Nat.pow_le_pow_right (by omega) (by omega))
   have w2 : decVal den < 10 ^ k := Nat.lt_of_lt_of_le (decVal_lt den d2) (Nat.pow_le_pow_right (by omega) (by omega))
   simp only [] at h
   split at h
   ·injection h with h
    subst h
    refine ⟨?_,?_⟩
    ·show (sg neg (decVal num)).natAbs < 10 ^ k
     rw [hn]; exact w1
    ·show 1 < 10 ^ k
     exact Nat.one_lt_pow (by omega) (by omega)
   ·split at h
    ·rename_i hne hg
     injection h with h
     subst h
     have h2 := (splitF_den hS).1 hne
     obtain ⟨e1,e2⟩ := mkRat_parts (z := sg neg (decVal num)) h2 (by rw [hn]; exact hg)
     refine ⟨by rw [e1,hn]; exact w1,?_⟩
     have e3 : (mkRat (sg neg (decVal num)) (decVal den)).den = decVal den := by
      unfold denF at e2
      split at e2 <;> omega
     rw [e3]; exact w2
    ·cases h
theorem frac_cross {q : Rat} {n d : Int} (hd : d ≠ 0) (h : Rat.divInt n d = q) : q.num * d = n * q.den := by
 have h1 := (Rat.divInt_eq_divInt_iff (denI q) hd (n₁ := q.num) (n₂ := n)).1 (by rw [Rat.num_divInt_den,h])
 exact h1
end Go.Proofs.YtibipjlohahekaaGreatDoor

namespace Go.Proofs.YtibipjlohahekaaGreatDoor
open Go.RowKit
theorem valF_dec {l : List UInt8} {k : Nat} (hl : l.length ≤ k) (hk : 1 ≤ k) : (valF l).num.natAbs < 10 ^ k ∧ (valF l).den < 10 ^ k := by
 cases h : readF l with
 | none => rw [valF_none h]; exact ⟨Nat.pow_pos (by omega),Nat.one_lt_pow (by omega) (by omega)⟩
 | some q => rw [valF_some h]; exact readF_dec h hl hk
theorem text_len {q : Rat} {k : Nat} (hk : 1 ≤ k) (h1 : q.num.natAbs < 10 ^ k) (h2 : q.den < 10 ^ k) : (ratText q).length ≤ 2 * k + 3 := by
 have a1 := itoa_le hk h1
 have a2 := itoa_le (z := (q.den : Int)) hk (by rw [Int.natAbs_natCast]; exact h2)
 unfold ratText
 split
 ·omega
 ·simp only [List.length_append,List.length_cons,List.length_nil]
  omega
theorem frac_small {q : Rat} {n d : Int} {k : Nat} (hd : d ≠ 0) (h : Rat.divInt n d = q) (h1 : n.natAbs < 10 ^ k) (h2 : d.natAbs < 10 ^ k) : q.num.natAbs < 10 ^ k ∧ q.den < 10 ^ k := by
 have hc := frac_cross hd h
 have hn : q.num.natAbs * d.natAbs = n.natAbs * q.den := by
  have := congrArg Int.natAbs hc
  rwa [Int.natAbs_mul,Int.natAbs_mul,Int.natAbs_natCast] at this
 have hcop := q.reduced
 have hd1 : q.den ∣ d.natAbs := (Nat.Coprime.symm hcop).dvd_of_dvd_mul_left ⟨n.natAbs,by rw [hn,Nat.mul_comm]⟩
 have hd0 : 0 < d.natAbs := by omega
 have hde := Nat.le_of_dvd hd0 hd1
 refine ⟨?_,by omega⟩
 have hn1 : q.num.natAbs ∣ n.natAbs := hcop.dvd_of_dvd_mul_right ⟨d.natAbs,hn.symm⟩
 rcases Nat.eq_zero_or_pos n.natAbs with e | e
 ·rw [e,Nat.zero_mul] at hn
  rcases Nat.mul_eq_zero.1 hn with e2 | e2
  ·rw [e2]; exact Nat.pow_pos (by omega)
  ·omega
 ·have := Nat.le_of_dvd e hn1; omega
theorem res_small {a b : Rat} {k : Nat} (ha : a.num.natAbs < 10 ^ k ∧ a.den < 10 ^ k) (hb : b.num.natAbs < 10 ^ k ∧ b.den < 10 ^ k) :
 ((a + b).num.natAbs < 10 ^ (2 * k + 1) ∧ (a + b).den < 10 ^ (2 * k + 1)) ∧ ((a * b).num.natAbs < 10 ^ (2 * k) ∧ (a * b).den < 10 ^ (2 * k)) ∧ (b.num ≠ 0 → (a / b).num.natAbs < 10 ^ (2 * k) ∧ (a / b).den < 10 ^ (2 * k)) := by
 have mm : ∀ x y : Nat,x < 10 ^ k → y < 10 ^ k → x * y < 10 ^ (2 * k) := fun x y hx hy => by
  have := Nat.mul_lt_mul'' hx hy
  rwa [← Nat.pow_add,show k + k = 2 * k by omega] at this
 have up : ∀ x : Nat,x < 10 ^ (2 * k) → x < 10 ^ (2 * k + 1) := fun x hx => by
  rw [Nat.pow_succ]; omega
 have m1 := mm _ _ ha.1 hb.2
 have m2 := mm _ _ hb.1 ha.2
 have m3 := mm _ _ ha.2 hb.2
 have m4 := mm _ _ ha.1 hb.1
 have m5 := mm _ _ ha.2 hb.1
 have hs : (a.num * b.den + b.num * a.den).natAbs < 10 ^ (2 * k + 1) := by
  have := Int.natAbs_add_le (a.num * b.den) (b.num * a.den)
  rw [Int.natAbs_mul,Int.natAbs_mul,Int.natAbs_natCast,Int.natAbs_natCast] at this
  rw [Nat.pow_succ]; omega
 have hd : ((a.den : Int) * b.den).natAbs < 10 ^ (2 * k) := by rw [Int.natAbs_mul,Int.natAbs_natCast,Int.natAbs_natCast]; exact m3
 have nz := Int.mul_ne_zero (denI a) (denI b)
 exact ⟨frac_small nz (rat_add_frac a b) hs (up _ hd),frac_small nz (rat_mul_frac a b) (by rw [Int.natAbs_mul]; exact m4) hd,
  fun h0 => frac_small (Int.mul_ne_zero (denI a) h0) (rat_div_frac a b) (by rw [Int.natAbs_mul,Int.natAbs_natCast]; exact m1) (by rw [Int.natAbs_mul,Int.natAbs_natCast]; exact m5)⟩
theorem neg_small {b : Rat} {n : Nat} (hb : b.num.natAbs < n ∧ b.den < n) : (-b).num.natAbs < n ∧ (-b).den < n := by
 rw [rneg_num,rneg_den,Int.natAbs_neg]; exact hb
theorem sub_small {a b : Rat} {k : Nat} (ha : a.num.natAbs < 10 ^ k ∧ a.den < 10 ^ k) (hb : b.num.natAbs < 10 ^ k ∧ b.den < 10 ^ k) : (a - b).num.natAbs < 10 ^ (2 * k + 1) ∧ (a - b).den < 10 ^ (2 * k + 1) := by
 rw [Rat.sub_eq_add_neg]; exact (res_small ha (neg_small hb)).1
theorem small_len {q : Rat} {k n : Nat} (hk : 1 ≤ k) (h : q.num.natAbs < 10 ^ k ∧ q.den < 10 ^ k) (hn : 2 * k + 3 ≤ n) : (ratText q).length ≤ n := Nat.le_trans (text_len hk h.1 h.2) hn
def StrIs (s : ByteArray) (p : Rat) : Prop := valF (bytes s) = p ∧ (bytes s).length ≤ 570
theorem StrIs.of {p : Rat} (h : (ratText p).length ≤ 570) : StrIs ⟨(ratText p).toArray⟩ p := ⟨by rw [bytes_of]; exact valF_some (read_text p),by rw [bytes_of]; exact h⟩
section
variable {s t : ByteArray} {p q r : Rat} {w : World}
theorem sAdd (hg : Glob w) (hp : StrIs s p) (hq : StrIs t q) (hr : p + q = r) : Calls Tryz.prog 23 #[.string s, .string t] w (RetV w (.string ⟨(ratText r).toArray⟩)) := by
 have := TAdd_any s t w hg hp.2 hq.2
 rwa [hp.1,hq.1,hr] at this
theorem sSub (hg : Glob w) (hp : StrIs s p) (hq : StrIs t q) (hr : p - q = r) : Calls Tryz.prog 25 #[.string s, .string t] w (RetV w (.string ⟨(ratText r).toArray⟩)) := by
 have := TSub_any s t w hg hp.2 hq.2
 rwa [hp.1,hq.1,hr] at this
theorem sMul (hg : Glob w) (hp : StrIs s p) (hq : StrIs t q) (hr : p * q = r) : Calls Tryz.prog 27 #[.string s, .string t] w (RetV w (.string ⟨(ratText r).toArray⟩)) := by
 have := TMul_any s t w hg hp.2 hq.2
 rwa [hp.1,hq.1,hr] at this
theorem sDiv0 (hg : Glob w) (hp : StrIs s p) (hq : StrIs t q) (h0 : q.num = 0) : Calls Tryz.prog 19 #[.string s, .string t] w (RetV w (.tuple #[.string ⟨#[]⟩, .bool false])) :=
 TDiv_zero s t w hg hp.2 hq.2 (by rw [hq.1]; exact h0)
theorem sDiv1 (hg : Glob w) (hp : StrIs s p) (hq : StrIs t q) (h0 : ¬ q.num = 0) (hr : p / q = r) : Calls Tryz.prog 19 #[.string s, .string t] w (RetV w (.tuple #[.string ⟨(ratText r).toArray⟩, .bool true])) := by
 have := TDiv_nz s t w hg hp.2 hq.2 (by rw [hq.1]; exact h0)
 rwa [hp.1,hq.1,hr] at this
theorem sCmp {k : Int} (hg : Glob w) (hp : StrIs s p) (hq : StrIs t q) (hr : (p - q).num.sign = k) : Calls Tryz.prog 29 #[.string s, .string t] w (RetV w (.int .i64 k)) := by
 have := TCompare_any s t w hg hp.2 hq.2
 rwa [hp.1,hq.1,hr] at this
end
theorem short_all3 {n : Int} {a b c : ByteArray} (h : [a,b,c].all (fun s => decide ((s.size : Int) ≤ n)) = true) : ((bytes a).length : Int) ≤ n ∧ ((bytes b).length : Int) ≤ n ∧ ((bytes c).length : Int) ≤ n := by
 simp only [List.all_cons,List.all_nil,Bool.and_true,Bool.and_eq_true,decide_eq_true_eq] at h
 rw [bytes_length,bytes_length,bytes_length]; exact h
theorem short3 {n : Int} {e : TypeId} {b : Nat} {x y z : ByteArray} {w : World} (hB : Blk e w b #[.string x, .string y, .string z]) {r : Bool} (hr : [x,y,z].all (fun s => decide ((s.size : Int) ≤ n)) = r) :
 Calls Tryz.prog 17 #[.int .i64 n, .slice (some ⟨b,0,none⟩) 3 3] w (RetV w (.bool r)) :=
 (keepShort_any n b 3 [x,y,z] w rfl (by omega) (fun i hi => by
  rcases (by omega : i = 0 ∨ i = 1 ∨ i = 2) with e | e | e <;> subst e <;> rw [hB.cell] <;> rfl) r hr).mono (fun _ _ h => ⟨h.1,h.2 ▸ Fr.refl _ _⟩)
end Go.Proofs.YtibipjlohahekaaGreatDoor

namespace Go.Proofs.YtibipjlohahekaaGreatDoor
open Go.RowKit
section
variable {w w' : World} {e : Ending} {s : ByteArray}
theorem post_Minus (h : RetMinus s w e w') : PostC (fun x : ByteArray × Bool => .tuple #[.string x.1, .bool x.2]) (fun x _ => unsign (bytes s) = (x.2,bytes x.1)) w e w' := by
 obtain ⟨r,neg,rfl,h,rfl⟩ := h
 exact ⟨(r,neg),rfl,Fr.refl _ _,BoxN.pure h⟩
theorem post_Cut (h : RetCut s w e w') : PostC (fun x : ByteArray × ByteArray => .tuple #[.string x.1, .string x.2]) (fun x _ => bytes x.1 = (bytes s).takeWhile isDig ∧ bytes x.2 = (bytes s).dropWhile isDig) w e w' := by
 obtain ⟨t,u,rfl,h1,h2,n,rfl⟩ := h
 exact ⟨(t,u),rfl,(Fr.refl _ _).drewN n,BoxN.pure ⟨h1,h2⟩⟩
end
theorem str_cons {u : ByteArray} (h : ¬ bytes u = []) : ∃ c v,u = ⟨(c :: v).toArray⟩ := by
 cases h' : bytes u with
 | nil => exact absurd h' h
 | cons c v => exact ⟨c,v,by cases u with | mk d => simp only [bytes] at h'; rw [← h']⟩
theorem str_cons_ne (c : UInt8) (v : List UInt8) : ¬ bytes ⟨(c :: v).toArray⟩ = [] := by rw [bytes_of]; simp
theorem str_cons_size (c : UInt8) (v : List UInt8) : 1 ≤ (⟨(c :: v).toArray⟩ : ByteArray).size := by rw [← bytes_length,bytes_of]; simp
theorem str_ext {a b : ByteArray} (h : bytes a = bytes b) : a = b := by
 cases a with | mk a => cases b with | mk b => simp only [bytes] at h; rw [Array.toList_inj.1 h]
theorem str_first (c : UInt8) (v : List UInt8) : (⟨(c :: v).toArray⟩ : ByteArray).extract 0 1 = ⟨[c].toArray⟩ := str_ext (by rw [bytes_extract,bytes_of,bytes_of]; simp)
theorem str_rest (c : UInt8) (v : List UInt8) : (⟨(c :: v).toArray⟩ : ByteArray).extract 1 (⟨(c :: v).toArray⟩ : ByteArray).size = ⟨(v).toArray⟩ := str_ext (by rw [bytes_extract,← bytes_length,bytes_of,bytes_of]; simp)
theorem str_one {c d : UInt8} (h : ¬ c = d) : ((⟨[c].toArray⟩ : ByteArray).toList == (⟨#[d]⟩ : ByteArray).toList) = false := by
 rw [Lib.toList_data,Lib.toList_data]; simpa using h
theorem bytes_cat (a b : ByteArray) : bytes (a ++ b) = bytes a ++ bytes b := by
 show (a ++ b).data.toList = _
 rw [ByteArray.data_append,Array.toList_append]
def e4 : Nat := 400
theorem p4dec {l : List UInt8} (hd : l.all isDig = true) (hl : l.length ≤ 400) : ((decVal l : Nat) : Int).natAbs < 10 ^ e4 := by
 rw [Int.natAbs_natCast]; exact Nat.lt_of_lt_of_le (decVal_lt l hd) (Nat.pow_le_pow_right (by omega) hl)
theorem p4pow {k : Nat} (hk : k < 400) : ((10 ^ k : Nat) : Int).natAbs < 10 ^ e4 := by
 rw [Int.natAbs_natCast]; exact Nat.pow_lt_pow_right (by omega) hk
theorem p4one : (1 : Int).natAbs < 10 ^ e4 := Nat.one_lt_pow (by decide) (by omega)
theorem p4neg {z : Int} (h : z.natAbs < 10 ^ e4) : (-z).natAbs < 10 ^ e4 := by rw [Int.natAbs_neg]; exact h
theorem p4pw (k : Nat) (hk : k = 400) : 10 ^ k ≤ W64 ^ 30 := by
 obtain ⟨a,rfl,ha⟩ : ∃ a,k = a + a ∧ a = 200 := ⟨200,by omega,rfl⟩
 have h1 : 10 ^ a ≤ W64 ^ 15 := by subst ha; rw [W64_eq]; decide
 rw [Nat.pow_add,show (30 : Nat) = 15 + 15 from rfl,Nat.pow_add]
 exact Nat.mul_le_mul h1 h1
theorem p4wln {n : Nat} (h : n < 10 ^ e4) : wl n ≤ 30 := wl_le_iff.2 (Nat.lt_of_lt_of_le h (p4pw e4 rfl))
theorem p4w {z : Int} (h : z.natAbs < 10 ^ e4) : wl z.natAbs ≤ 79 := Nat.le_trans (p4wln h) (by decide)
theorem p4lt {z : Int} (h : z.natAbs < 10 ^ e4) : wl z.natAbs < 80 := Nat.lt_of_le_of_lt (p4wln h) (by decide)
theorem p4fit {z : Int} (h : z.natAbs < 10 ^ e4) : Fits z := by have := p4wln h; unfold Fits; omega
theorem p4wl {k : Nat} (hk : k < 400) : wl (10 ^ k) < 40 := Nat.lt_of_le_of_lt (p4wln (Nat.pow_lt_pow_right (by omega) hk)) (by decide)
theorem p4nz (k : Nat) : ¬ ((10 ^ k : Nat) : Int) = 0 := by have := Nat.pow_pos (n := k) (show 0 < 10 by omega); omega
theorem p4z {n : Nat} (h : (n : Int) = 0) : n = 0 := by omega
theorem p4n {n : Nat} (h : ¬ (n : Int) = 0) : ¬ n = 0 := by omega
theorem p4prs {x : ByteArray} (h : (bytes x).length ≤ 400) : PrsOk x.size := by unfold PrsOk; rw [← bytes_length]; omega
theorem p4prt {x y : Int} (hy : ¬ y = 0) (hx : x.natAbs < 10 ^ e4) (h : y.natAbs < 10 ^ e4) : PrtOk (Rat.divInt x y).num.natAbs ∧ PrtOk (Rat.divInt x y).den := by
 have e : ∀ n : Nat,n < 10 ^ e4 → PrtOk n := fun n hn => by have := p4wln hn; unfold PrtOk; omega
 obtain ⟨h1,h2⟩ := frac_small hy rfl hx h
 exact ⟨e _ h1,e _ h2⟩
theorem p4len {x : ByteArray} (h : (bytes x).length ≤ 400) : IntKind.u64.wrap ((x.size : Nat) : Int) = (((bytes x).length : Nat) : Int) := by
 rw [bytes_length] at h ⊢
 rw [IntKind.wrap_u64]; omega
theorem p4lim {x : ByteArray} (h : (bytes x).length ≤ 400) : decide ((x.size : Int) > 8192) = false := by
 rw [bytes_length] at h; exact decide_eq_false (by omega)
theorem p4ten : wl 10 < 40 := Nat.lt_of_le_of_lt (wl_one.2 (by rw [W64_eq]; decide)) (by decide)
set_option maxRecDepth 100000 in
theorem Parse_any (s : ByteArray) (w : World) (hg : Glob w) (hs : (bytes s).length ≤ 400) :
 Calls Tryz.prog 14 #[.string s] w (RetV w (.tuple #[.string ⟨(parseF (bytes s)).1.toArray⟩, .int .i64 (parseF (bytes s)).2])) := by
 refine sx_enter (Φ := fun w => Glob w) Tryz.func14 rfl (by kernel_rfl) (fun w' hf => hg.ext hf) ?_
 refine sx_seq ?_
 refine sx_region ?_
 refine sx_run 2 [(0, .v (.string s)),(2, .v (.string ⟨#[]⟩)),(3, .v (.int .i64 0))] [] (by kernel_rfl) (by kernel_rfl) ?_
 refine sx_end (by kernel_rfl) ?_
 refine sx_next ?_
 refine sx_seq ?_
 refine sx_seq ?_
 refine sx_region ?_
 refine sx_run 3 [(0, .v (.string s)),(2, .v (.string ⟨#[]⟩)),(3, .v (.int .i64 0)),(13, .v (.bool (decide (((s).size : Int) > 8192))))] [] (by kernel_rfl) (by kernel_rfl) ?_
 rw [p4lim hs]
 refine sx_run 0 [(0, .v (.string s)),(2, .v (.string ⟨#[]⟩)),(3, .v (.int .i64 0)),(13, .v (.bool false))] [] (by kernel_rfl) (by kernel_rfl) ?_
 refine sx_end (by kernel_rfl) ?_
 refine sx_next ?_
 refine sx_cond_f (by kernel_rfl) ?_
 refine sx_skip ?_
 refine sx_next ?_
 refine sx_seq ?_
 refine sx_region ?_
 refine sx_run 1 [(2, .v (.string ⟨#[]⟩)),(3, .v (.int .i64 0)),(15, .v (.string s))] [] (by kernel_rfl) (by kernel_rfl) ?_
 refine sx_call 55 [.string s, .string ⟨#[45]⟩] 16 (fun x : ByteArray × Bool => .tuple #[.string x.1, .bool x.2]) _ (by kernel_rfl) (by kernel_rfl) (fun w hE hΦ => (cutMinus_any s _).mono (fun _ _ h => post_Minus h)) (fun xx => ?_)
 obtain ⟨r,neg⟩ := xx
 rcases neg with _ | _
 ·refine sx_run 5 [(2, .v (.string ⟨#[]⟩)),(3, .v (.int .i64 0)),(4, .v (.string r)),(5, .v (.bool false))] [] (by kernel_rfl) (by kernel_rfl) ?_
  refine sx_end (by kernel_rfl) ?_
  refine sx_next ?_
  refine sx_seq ?_
  refine SXc.know (p := unsign (bytes s) = (false,bytes r)) (fun w _ hΦ => hΦ.2) (fun HM => ?_)
  have lr : (bytes r).length ≤ 400 := Nat.le_trans (unsign_le HM) hs
  have h8r : r.size ≤ 1099511627776 := by rw [bytes_length] at lr; omega
  refine sx_region ?_
  refine sx_run 1 [(2, .v (.string ⟨#[]⟩)),(3, .v (.int .i64 0)),(4, .v (.string r)),(5, .v (.bool false)),(20, .v (.string r))] [] (by kernel_rfl) (by kernel_rfl) ?_
  refine sx_call 56 [.string r] 21 (fun x : ByteArray × ByteArray => .tuple #[.string x.1, .string x.2]) _ (by kernel_rfl) (by kernel_rfl) (fun w hE hΦ => (cutDigits_any r _ h8r).mono (fun _ _ h => post_Cut h)) (fun xx => ?_)
  obtain ⟨t,u⟩ := xx
  refine sx_run 5 [(2, .v (.string ⟨#[]⟩)),(3, .v (.int .i64 0)),(4, .v (.string u)),(5, .v (.bool false)),(6, .v (.string t))] [] (by kernel_rfl) (by kernel_rfl) ?_
  refine sx_end (by kernel_rfl) ?_
  refine sx_next ?_
  refine sx_seq ?_
  refine sx_region ?_
  refine sx_run 2 [(2, .v (.string ⟨#[]⟩)),(3, .v (.int .i64 0)),(4, .v (.string u)),(5, .v (.bool false)),(6, .v (.string t)),(7, .v (.string ⟨#[]⟩)),(8, .v (.string ⟨#[]⟩))] [] (by kernel_rfl) (by kernel_rfl) ?_
  refine sx_end (by kernel_rfl) ?_
  refine sx_next ?_
  refine sx_seq ?_
  refine sx_seq ?_
  refine SXc.know (p := bytes t = (bytes r).takeWhile isDig ∧ bytes u = (bytes r).dropWhile isDig) (fun w _ hΦ => hΦ.2) (fun HC => ?_)
  obtain ⟨HT,HU⟩ := HC
  have dt : (bytes t).all isDig = true := by rw [HT]; exact all_takeWhile _
  have lt : (bytes t).length + (bytes u).length ≤ 400 := by rw [HT,HU]; exact Nat.le_trans (Nat.le_of_eq (by rw [← List.length_append,List.takeWhile_append_dropWhile])) lr
  by_cases ht : bytes t = []
  ·by_cases hu : bytes u = []
   ·refine sx_region ?_
    refine sx_run 2 [(2, .v (.string ⟨#[]⟩)),(3, .v (.int .i64 0)),(4, .v (.string u)),(5, .v (.bool false)),(6, .v (.string t)),(7, .v (.string ⟨#[]⟩)),(8, .v (.string ⟨#[]⟩)),(25, .v (.bool (!((u : ByteArray).toList == (⟨#[]⟩ : ByteArray).toList))))] [] (by kernel_rfl) (by kernel_rfl) ?_
    rw [str_nil hu,Bool.not_true]
    refine sx_run 0 [(2, .v (.string ⟨#[]⟩)),(3, .v (.int .i64 0)),(4, .v (.string u)),(5, .v (.bool false)),(6, .v (.string t)),(7, .v (.string ⟨#[]⟩)),(8, .v (.string ⟨#[]⟩)),(25, .v (.bool false))] [] (by kernel_rfl) (by kernel_rfl) ?_
    refine sx_end (by kernel_rfl) ?_
    refine sx_next ?_
    refine sx_cond_f (by kernel_rfl) ?_
    refine sx_skip ?_
    refine sx_next ?_
    refine sx_seq ?_
    refine sx_seq ?_
    refine sx_region ?_
    refine sx_run 2 [(2, .v (.string ⟨#[]⟩)),(3, .v (.int .i64 0)),(4, .v (.string u)),(5, .v (.bool false)),(6, .v (.string t)),(7, .v (.string ⟨#[]⟩)),(8, .v (.string ⟨#[]⟩)),(35, .v (.bool ((t : ByteArray).toList == (⟨#[]⟩ : ByteArray).toList)))] [] (by kernel_rfl) (by kernel_rfl) ?_
    rw [str_nil ht]
    refine sx_run 12 [(2, .v (.string ⟨#[]⟩)),(3, .v (.int .i64 0)),(5, .v (.bool false)),(6, .v (.string t)),(7, .v (.string ⟨#[]⟩)),(8, .v (.string ⟨#[]⟩)),(47, .v (.bool true))] [] (by kernel_rfl) (by kernel_rfl) ?_
    refine sx_end (by kernel_rfl) ?_
    refine sx_next ?_
    refine sx_cond_t (by kernel_rfl) ?_
    refine sx_seq ?_
    refine sx_region ?_
    refine sx_run 2 [(2, .v (.string ⟨#[]⟩)),(3, .v (.int .i64 6)),(5, .v (.bool false)),(6, .v (.string t)),(7, .v (.string ⟨#[]⟩)),(8, .v (.string ⟨#[]⟩))] [] (by kernel_rfl) (by kernel_rfl) ?_
    refine sx_end (by kernel_rfl) ?_
    refine sx_next ?_
    refine sx_ret ?_
    refine sx_then_ret ?_
    refine sx_done (v := .tuple #[.string ⟨#[]⟩, .int .i64 6]) (by kernel_rfl) (fun w' hE hΦ => ?_)
    exact ⟨by (rw [parse_nil HM HT.symm (HU.symm.trans hu) ht]) <;> rfl,hE⟩
   ·obtain ⟨c,v,rfl⟩ := str_cons hu
    rw [bytes_of (c :: v)] at HU lt
    have lv : v.length ≤ 400 := by rw [List.length_cons] at lt; omega
    have h8v : (⟨(v).toArray⟩ : ByteArray).size ≤ 1099511627776 := by rw [← bytes_length,bytes_of]; omega
    refine sx_region ?_
    refine sx_run 2 [(2, .v (.string ⟨#[]⟩)),(3, .v (.int .i64 0)),(4, .v (.string ⟨(c :: v).toArray⟩)),(5, .v (.bool false)),(6, .v (.string t)),(7, .v (.string ⟨#[]⟩)),(8, .v (.string ⟨#[]⟩)),(25, .v (.bool (!((⟨(c :: v).toArray⟩ : ByteArray).toList == (⟨#[]⟩ : ByteArray).toList))))] [] (by kernel_rfl) (by kernel_rfl) ?_
    rw [str_not (str_cons_ne c v),Bool.not_false]
    refine sx_run 0 [(2, .v (.string ⟨#[]⟩)),(3, .v (.int .i64 0)),(4, .v (.string ⟨(c :: v).toArray⟩)),(5, .v (.bool false)),(6, .v (.string t)),(7, .v (.string ⟨#[]⟩)),(8, .v (.string ⟨#[]⟩)),(25, .v (.bool true))] [] (by kernel_rfl) (by kernel_rfl) ?_
    refine sx_end (by kernel_rfl) ?_
    refine sx_next ?_
    refine sx_cond_t (by kernel_rfl) ?_
    refine sx_seq ?_
    refine sx_region ?_
    refine sx_run 1 [(2, .v (.string ⟨#[]⟩)),(3, .v (.int .i64 0)),(4, .v (.string ⟨(c :: v).toArray⟩)),(5, .v (.bool false)),(6, .v (.string t)),(7, .v (.string ⟨#[]⟩)),(8, .v (.string ⟨#[]⟩)),(26, .v (.string ⟨(c :: v).toArray⟩))] [] (by kernel_rfl) (by kernel_rfl) ?_
    refine sx_look 27 (.string ⟨[c].toArray⟩) (by kernel_rfl) (by kernel_rfl) (by kernel_rfl) (by kernel_rfl) (by kernel_rfl) (by kernel_rfl) (fun w hE hΦ => run_strslice 0 1 (t := 9) (x := (Operand.tmp 26)) (lo := none) (hi := (some (Operand.const (Value.int IntKind.i64 1)))) (by kernel_rfl) (by kernel_rfl) (by kernel_rfl) (Or.inl ⟨rfl,rfl⟩) (Or.inr rfl) (by omega) (str_cons_size c v) (str_first c v)) ?_
    refine sx_run 1 [(2, .v (.string ⟨#[]⟩)),(3, .v (.int .i64 0)),(4, .v (.string ⟨(c :: v).toArray⟩)),(5, .v (.bool false)),(6, .v (.string t)),(7, .v (.string ⟨[c].toArray⟩)),(8, .v (.string ⟨#[]⟩))] [] (by kernel_rfl) (by kernel_rfl) ?_
    refine sx_end (by kernel_rfl) ?_
    refine sx_next ?_
    refine sx_region ?_
    refine sx_run 1 [(2, .v (.string ⟨#[]⟩)),(3, .v (.int .i64 0)),(4, .v (.string ⟨(c :: v).toArray⟩)),(5, .v (.bool false)),(6, .v (.string t)),(7, .v (.string ⟨[c].toArray⟩)),(8, .v (.string ⟨#[]⟩)),(29, .v (.string ⟨(c :: v).toArray⟩))] [] (by kernel_rfl) (by kernel_rfl) ?_
    refine sx_look 30 (.string ⟨(v).toArray⟩) (by kernel_rfl) (by kernel_rfl) (by kernel_rfl) (by kernel_rfl) (by kernel_rfl) (by kernel_rfl) (fun w hE hΦ => run_strslice 1 _ (t := 9) (x := (Operand.tmp 29)) (lo := (some (Operand.const (Value.int IntKind.i64 1)))) (hi := none) (by kernel_rfl) (by kernel_rfl) (by kernel_rfl) (Or.inr rfl) (Or.inl ⟨rfl,rfl⟩) (str_cons_size c v) (Nat.le_refl _) (str_rest c v)) ?_
    refine sx_run 0 [(2, .v (.string ⟨#[]⟩)),(3, .v (.int .i64 0)),(4, .v (.string ⟨(c :: v).toArray⟩)),(5, .v (.bool false)),(6, .v (.string t)),(7, .v (.string ⟨[c].toArray⟩)),(8, .v (.string ⟨#[]⟩)),(30, .v (.string ⟨(v).toArray⟩))] [] (by kernel_rfl) (by kernel_rfl) ?_
    refine sx_call 56 [.string ⟨(v).toArray⟩] 31 (fun x : ByteArray × ByteArray => .tuple #[.string x.1, .string x.2]) _ (by kernel_rfl) (by kernel_rfl) (fun w hE hΦ => (cutDigits_any ⟨(v).toArray⟩ _ h8v).mono (fun _ _ h => post_Cut h)) (fun xx => ?_)
    obtain ⟨t2,u2⟩ := xx
    refine sx_run 5 [(2, .v (.string ⟨#[]⟩)),(3, .v (.int .i64 0)),(4, .v (.string u2)),(5, .v (.bool false)),(6, .v (.string t)),(7, .v (.string ⟨[c].toArray⟩)),(8, .v (.string t2))] [] (by kernel_rfl) (by kernel_rfl) ?_
    refine sx_end (by kernel_rfl) ?_
    refine sx_next ?_
    refine sx_seq ?_
    refine sx_seq ?_
    refine SXc.know (p := bytes t2 = v.takeWhile isDig ∧ bytes u2 = v.dropWhile isDig) (fun w _ hΦ => by have h := hΦ.2; rwa [bytes_of] at h) (fun HC2 => ?_)
    obtain ⟨HT2,HU2⟩ := HC2
    have dt2 : (bytes t2).all isDig = true := by rw [HT2]; exact all_takeWhile _
    have lt2 : (bytes t2).length ≤ v.length := by rw [HT2]; exact (List.takeWhile_prefix isDig).length_le
    by_cases ht2 : bytes t2 = []
    ·by_cases hu2 : bytes u2 = []
     ·refine sx_region ?_
      refine sx_run 2 [(2, .v (.string ⟨#[]⟩)),(3, .v (.int .i64 0)),(4, .v (.string u2)),(5, .v (.bool false)),(6, .v (.string t)),(7, .v (.string ⟨[c].toArray⟩)),(8, .v (.string t2)),(35, .v (.bool ((t : ByteArray).toList == (⟨#[]⟩ : ByteArray).toList)))] [] (by kernel_rfl) (by kernel_rfl) ?_
      rw [str_nil ht]
      refine sx_run 12 [(2, .v (.string ⟨#[]⟩)),(3, .v (.int .i64 0)),(5, .v (.bool false)),(6, .v (.string t)),(7, .v (.string ⟨[c].toArray⟩)),(8, .v (.string t2)),(47, .v (.bool true))] [] (by kernel_rfl) (by kernel_rfl) ?_
      refine sx_end (by kernel_rfl) ?_
      refine sx_next ?_
      refine sx_cond_t (by kernel_rfl) ?_
      refine sx_seq ?_
      refine sx_region ?_
      refine sx_run 2 [(2, .v (.string ⟨#[]⟩)),(3, .v (.int .i64 6)),(5, .v (.bool false)),(6, .v (.string t)),(7, .v (.string ⟨[c].toArray⟩)),(8, .v (.string t2))] [] (by kernel_rfl) (by kernel_rfl) ?_
      refine sx_end (by kernel_rfl) ?_
      refine sx_next ?_
      refine sx_ret ?_
      refine sx_then_ret ?_
      refine sx_done (v := .tuple #[.string ⟨#[]⟩, .int .i64 6]) (by kernel_rfl) (fun w' hE hΦ => ?_)
      exact ⟨by (rw [parse_bad HM HT.symm HU.symm HT2.symm (Or.inl ht)]) <;> rfl,hE⟩
     ·refine sx_region ?_
      refine sx_run 2 [(2, .v (.string ⟨#[]⟩)),(3, .v (.int .i64 0)),(4, .v (.string u2)),(5, .v (.bool false)),(6, .v (.string t)),(7, .v (.string ⟨[c].toArray⟩)),(8, .v (.string t2)),(35, .v (.bool ((t : ByteArray).toList == (⟨#[]⟩ : ByteArray).toList)))] [] (by kernel_rfl) (by kernel_rfl) ?_
      rw [str_nil ht]
      refine sx_run 12 [(2, .v (.string ⟨#[]⟩)),(3, .v (.int .i64 0)),(5, .v (.bool false)),(6, .v (.string t)),(7, .v (.string ⟨[c].toArray⟩)),(8, .v (.string t2)),(47, .v (.bool true))] [] (by kernel_rfl) (by kernel_rfl) ?_
      refine sx_end (by kernel_rfl) ?_
      refine sx_next ?_
      refine sx_cond_t (by kernel_rfl) ?_
      refine sx_seq ?_
      refine sx_region ?_
      refine sx_run 2 [(2, .v (.string ⟨#[]⟩)),(3, .v (.int .i64 6)),(5, .v (.bool false)),(6, .v (.string t)),(7, .v (.string ⟨[c].toArray⟩)),(8, .v (.string t2))] [] (by kernel_rfl) (by kernel_rfl) ?_
      refine sx_end (by kernel_rfl) ?_
      refine sx_next ?_
      refine sx_ret ?_
      refine sx_then_ret ?_
      refine sx_done (v := .tuple #[.string ⟨#[]⟩, .int .i64 6]) (by kernel_rfl) (fun w' hE hΦ => ?_)
      exact ⟨by (rw [parse_bad HM HT.symm HU.symm HT2.symm (Or.inl ht)]) <;> rfl,hE⟩
    ·by_cases hu2 : bytes u2 = []
     ·refine sx_region ?_
      refine sx_run 2 [(2, .v (.string ⟨#[]⟩)),(3, .v (.int .i64 0)),(4, .v (.string u2)),(5, .v (.bool false)),(6, .v (.string t)),(7, .v (.string ⟨[c].toArray⟩)),(8, .v (.string t2)),(35, .v (.bool ((t : ByteArray).toList == (⟨#[]⟩ : ByteArray).toList)))] [] (by kernel_rfl) (by kernel_rfl) ?_
      rw [str_nil ht]
      refine sx_run 12 [(2, .v (.string ⟨#[]⟩)),(3, .v (.int .i64 0)),(5, .v (.bool false)),(6, .v (.string t)),(7, .v (.string ⟨[c].toArray⟩)),(8, .v (.string t2)),(47, .v (.bool true))] [] (by kernel_rfl) (by kernel_rfl) ?_
      refine sx_end (by kernel_rfl) ?_
      refine sx_next ?_
      refine sx_cond_t (by kernel_rfl) ?_
      refine sx_seq ?_
      refine sx_region ?_
      refine sx_run 2 [(2, .v (.string ⟨#[]⟩)),(3, .v (.int .i64 6)),(5, .v (.bool false)),(6, .v (.string t)),(7, .v (.string ⟨[c].toArray⟩)),(8, .v (.string t2))] [] (by kernel_rfl) (by kernel_rfl) ?_
      refine sx_end (by kernel_rfl) ?_
      refine sx_next ?_
      refine sx_ret ?_
      refine sx_then_ret ?_
      refine sx_done (v := .tuple #[.string ⟨#[]⟩, .int .i64 6]) (by kernel_rfl) (fun w' hE hΦ => ?_)
      exact ⟨by (rw [parse_bad HM HT.symm HU.symm HT2.symm (Or.inl ht)]) <;> rfl,hE⟩
     ·refine sx_region ?_
      refine sx_run 2 [(2, .v (.string ⟨#[]⟩)),(3, .v (.int .i64 0)),(4, .v (.string u2)),(5, .v (.bool false)),(6, .v (.string t)),(7, .v (.string ⟨[c].toArray⟩)),(8, .v (.string t2)),(35, .v (.bool ((t : ByteArray).toList == (⟨#[]⟩ : ByteArray).toList)))] [] (by kernel_rfl) (by kernel_rfl) ?_
      rw [str_nil ht]
      refine sx_run 12 [(2, .v (.string ⟨#[]⟩)),(3, .v (.int .i64 0)),(5, .v (.bool false)),(6, .v (.string t)),(7, .v (.string ⟨[c].toArray⟩)),(8, .v (.string t2)),(47, .v (.bool true))] [] (by kernel_rfl) (by kernel_rfl) ?_
      refine sx_end (by kernel_rfl) ?_
      refine sx_next ?_
      refine sx_cond_t (by kernel_rfl) ?_
      refine sx_seq ?_
      refine sx_region ?_
      refine sx_run 2 [(2, .v (.string ⟨#[]⟩)),(3, .v (.int .i64 6)),(5, .v (.bool false)),(6, .v (.string t)),(7, .v (.string ⟨[c].toArray⟩)),(8, .v (.string t2))] [] (by kernel_rfl) (by kernel_rfl) ?_
      refine sx_end (by kernel_rfl) ?_
      refine sx_next ?_
      refine sx_ret ?_
      refine sx_then_ret ?_
      refine sx_done (v := .tuple #[.string ⟨#[]⟩, .int .i64 6]) (by kernel_rfl) (fun w' hE hΦ => ?_)
      exact ⟨by (rw [parse_bad HM HT.symm HU.symm HT2.symm (Or.inl ht)]) <;> rfl,hE⟩
  ·by_cases hu : bytes u = []
   ·refine sx_region ?_
    refine sx_run 2 [(2, .v (.string ⟨#[]⟩)),(3, .v (.int .i64 0)),(4, .v (.string u)),(5, .v (.bool false)),(6, .v (.string t)),(7, .v (.string ⟨#[]⟩)),(8, .v (.string ⟨#[]⟩)),(25, .v (.bool (!((u : ByteArray).toList == (⟨#[]⟩ : ByteArray).toList))))] [] (by kernel_rfl) (by kernel_rfl) ?_
    rw [str_nil hu,Bool.not_true]
    refine sx_run 0 [(2, .v (.string ⟨#[]⟩)),(3, .v (.int .i64 0)),(4, .v (.string u)),(5, .v (.bool false)),(6, .v (.string t)),(7, .v (.string ⟨#[]⟩)),(8, .v (.string ⟨#[]⟩)),(25, .v (.bool false))] [] (by kernel_rfl) (by kernel_rfl) ?_
    refine sx_end (by kernel_rfl) ?_
    refine sx_next ?_
    refine sx_cond_f (by kernel_rfl) ?_
    refine sx_skip ?_
    refine sx_next ?_
    refine sx_seq ?_
    refine sx_seq ?_
    refine sx_region ?_
    refine sx_run 2 [(2, .v (.string ⟨#[]⟩)),(3, .v (.int .i64 0)),(4, .v (.string u)),(5, .v (.bool false)),(6, .v (.string t)),(7, .v (.string ⟨#[]⟩)),(8, .v (.string ⟨#[]⟩)),(35, .v (.bool ((t : ByteArray).toList == (⟨#[]⟩ : ByteArray).toList)))] [] (by kernel_rfl) (by kernel_rfl) ?_
    rw [str_not ht]
    refine sx_run 3 [(2, .v (.string ⟨#[]⟩)),(3, .v (.int .i64 0)),(5, .v (.bool false)),(6, .v (.string t)),(7, .v (.string ⟨#[]⟩)),(8, .v (.string ⟨#[]⟩)),(36, .v (.bool false)),(38, .v (.bool (!((u : ByteArray).toList == (⟨#[]⟩ : ByteArray).toList))))] [] (by kernel_rfl) (by kernel_rfl) ?_
    rw [str_nil hu,Bool.not_true]
    refine sx_run 4 [(2, .v (.string ⟨#[]⟩)),(3, .v (.int .i64 0)),(5, .v (.bool false)),(6, .v (.string t)),(7, .v (.string ⟨#[]⟩)),(8, .v (.string ⟨#[]⟩)),(40, .v (.bool false)),(42, .v (.bool (!((⟨#[]⟩ : ByteArray).toList == (⟨#[]⟩ : ByteArray).toList))))] [] (by kernel_rfl) (by kernel_rfl) ?_
    rw [str_self,Bool.not_true]
    refine sx_run 5 [(2, .v (.string ⟨#[]⟩)),(3, .v (.int .i64 0)),(5, .v (.bool false)),(6, .v (.string t)),(7, .v (.string ⟨#[]⟩)),(8, .v (.string ⟨#[]⟩)),(47, .v (.bool false))] [] (by kernel_rfl) (by kernel_rfl) ?_
    refine sx_end (by kernel_rfl) ?_
    refine sx_next ?_
    refine sx_cond_f (by kernel_rfl) ?_
    refine sx_skip ?_
    refine sx_next ?_
    refine sx_seq ?_
    have S1 : (decVal (bytes t) : Int).natAbs < 10 ^ e4 := p4dec dt (by omega)
    refine sx_region ?_
    refine sx_run 1 [(2, .v (.string ⟨#[]⟩)),(3, .v (.int .i64 0)),(5, .v (.bool false)),(6, .v (.string t)),(7, .v (.string ⟨#[]⟩)),(8, .v (.string ⟨#[]⟩)),(48, .v (.string t))] [] (by kernel_rfl) (by kernel_rfl) ?_
    refine sx_call 57 [.string t] 49 shInt _ (by kernel_rfl) (by kernel_rfl) (fun w hE hΦ => (intParse_any t _ dt (p4prs (by omega))).mono (fun _ _ h => post_Int h)) (fun xx => ?_)
    obtain ⟨s10,A10,l10,c10⟩ := xx
    refine sx_run 0 [(2, .v (.string ⟨#[]⟩)),(3, .v (.int .i64 0)),(5, .v (.bool false)),(6, .v (.string t)),(7, .v (.string ⟨#[]⟩)),(8, .v (.string ⟨#[]⟩)),(49, .v (.agg #[.bool s10, .slice A10 l10 c10]))] [] (by kernel_rfl) (by kernel_rfl) ?_
    refine sx_call 58 [.int .i64 1] 50 shInt _ (by kernel_rfl) (by kernel_rfl) (fun w hE hΦ => (New_pos 1 _ (by rw [W64_eq]; omega) (by decide) (by decide)).mono (fun _ _ h => post_Int h)) (fun xx => ?_)
    obtain ⟨s11,A11,l11,c11⟩ := xx
    refine sx_run 4 [(2, .v (.string ⟨#[]⟩)),(3, .v (.int .i64 0)),(5, .v (.bool false)),(6, .v (.string t)),(7, .v (.string ⟨#[]⟩)),(8, .v (.string ⟨#[]⟩)),(9, .p 9 0),(10, .p 10 0)] [(10,63,[.v (.bool s11), .v (.slice A11 l11 c11)]),(9,63,[.v (.bool s10), .v (.slice A10 l10 c10)])] (by kernel_rfl) (by kernel_rfl) ?_
    refine sx_end (by kernel_rfl) ?_
    refine sx_next ?_
    refine sx_seq ?_
    refine sx_seq ?_
    refine sx_region ?_
    refine sx_run 1 [(2, .v (.string ⟨#[]⟩)),(3, .v (.int .i64 0)),(5, .v (.bool false)),(6, .v (.string t)),(8, .v (.string ⟨#[]⟩)),(9, .p 9 0),(10, .p 10 0),(51, .v (.string ⟨#[]⟩))] [(10,63,[.v (.bool s11), .v (.slice A11 l11 c11)]),(9,63,[.v (.bool s10), .v (.slice A10 l10 c10)])] (by kernel_rfl) (by kernel_rfl) ?_
    refine sx_end (by kernel_rfl) ?_
    refine sx_next ?_
    refine sx_block ?_
    refine sx_seq ?_
    refine sx_region ?_
    refine sx_run 1 [(2, .v (.string ⟨#[]⟩)),(3, .v (.int .i64 0)),(5, .v (.bool false)),(6, .v (.string t)),(8, .v (.string ⟨#[]⟩)),(9, .p 9 0),(10, .p 10 0),(51, .v (.string ⟨#[]⟩)),(53, .v (.bool ((⟨#[]⟩ : ByteArray).toList == (⟨#[]⟩ : ByteArray).toList)))] [(10,63,[.v (.bool s11), .v (.slice A11 l11 c11)]),(9,63,[.v (.bool s10), .v (.slice A10 l10 c10)])] (by kernel_rfl) (by kernel_rfl) ?_
    rw [str_self]
    refine sx_run 1 [(2, .v (.string ⟨#[]⟩)),(3, .v (.int .i64 0)),(5, .v (.bool false)),(6, .v (.string t)),(8, .v (.string ⟨#[]⟩)),(9, .p 9 0),(10, .p 10 0),(51, .v (.string ⟨#[]⟩)),(52, .v (.bool true))] [(10,63,[.v (.bool s11), .v (.slice A11 l11 c11)]),(9,63,[.v (.bool s10), .v (.slice A10 l10 c10)])] (by kernel_rfl) (by kernel_rfl) ?_
    refine sx_end (by kernel_rfl) ?_
    refine sx_next ?_
    refine sx_cond_t (by kernel_rfl) ?_
    refine sx_skip ?_
    refine sx_out ?_
    refine sx_next ?_
    refine sx_seq ?_
    refine sx_seq ?_
    refine sx_region ?_
    refine sx_run 1 [(2, .v (.string ⟨#[]⟩)),(3, .v (.int .i64 0)),(5, .v (.bool false)),(9, .p 9 0),(10, .p 10 0),(69, .v (.agg #[.bool s11, .slice A11 l11 c11]))] [(10,63,[.v (.bool s11), .v (.slice A11 l11 c11)]),(9,63,[.v (.bool s10), .v (.slice A10 l10 c10)])] (by kernel_rfl) (by kernel_rfl) ?_
    refine sx_call 60 [.agg #[.bool s11, .slice A11 l11 c11]] 70 (fun _ : Unit => .bool false) _ (by kernel_rfl) (by kernel_rfl) (fun w hE hΦ => (IsZero_any _ (1) _ hΦ.2).mono (fun _ _ h => post_val h (by rw [decide_eq_false (p := (1) = 0) (by decide)]))) (fun xx => ?_)
    refine sx_run 0 [(2, .v (.string ⟨#[]⟩)),(3, .v (.int .i64 0)),(5, .v (.bool false)),(9, .p 9 0),(10, .p 10 0),(70, .v (.bool false))] [(10,63,[.v (.bool s11), .v (.slice A11 l11 c11)]),(9,63,[.v (.bool s10), .v (.slice A10 l10 c10)])] (by kernel_rfl) (by kernel_rfl) ?_
    refine sx_end (by kernel_rfl) ?_
    refine sx_next ?_
    refine sx_cond_f (by kernel_rfl) ?_
    refine sx_skip ?_
    refine sx_next ?_
    refine sx_seq ?_
    refine sx_seq ?_
    refine sx_region ?_
    refine sx_run 1 [(2, .v (.string ⟨#[]⟩)),(3, .v (.int .i64 0)),(9, .p 9 0),(10, .p 10 0),(71, .v (.bool false))] [(10,63,[.v (.bool s11), .v (.slice A11 l11 c11)]),(9,63,[.v (.bool s10), .v (.slice A10 l10 c10)])] (by kernel_rfl) (by kernel_rfl) ?_
    refine sx_end (by kernel_rfl) ?_
    refine sx_next ?_
    refine sx_cond_f (by kernel_rfl) ?_
    refine sx_skip ?_
    refine sx_next ?_
    refine sx_seq ?_
    refine sx_region ?_
    refine sx_run 2 [(2, .v (.string ⟨#[]⟩)),(3, .v (.int .i64 0)),(74, .v (.agg #[.bool s10, .slice A10 l10 c10])),(75, .v (.agg #[.bool s11, .slice A11 l11 c11]))] [] (by kernel_rfl) (by kernel_rfl) ?_
    refine sx_call 62 [.agg #[.bool s10, .slice A10 l10 c10], .agg #[.bool s11, .slice A11 l11 c11]] 76 shRat _ (by kernel_rfl) (by kernel_rfl) (fun w hE hΦ => (Fraction_any _ _ ((decVal (bytes t) : Int)) (1) _ hΦ.1.1.1.1.1 hΦ.1.1.2 hΦ.1.2 (p4fit S1) (p4fit p4one) (GcdOk.words (p4w S1) (p4w p4one)) (p4lt p4one) (by decide)).mono (fun _ _ h => post_Rat h)) (fun xx => ?_)
    obtain ⟨s12,A12,l12,c12,t12,B12,m12,d12⟩ := xx
    refine sx_run 0 [(2, .v (.string ⟨#[]⟩)),(3, .v (.int .i64 0)),(76, .v (.agg #[.bool s12, .slice A12 l12 c12, .bool t12, .slice B12 m12 d12]))] [] (by kernel_rfl) (by kernel_rfl) ?_
    refine sx_call 63 [.agg #[.bool s12, .slice A12 l12 c12, .bool t12, .slice B12 m12 d12]] 77 (fun _ : Unit => .string ⟨(ratText (Rat.divInt ((decVal (bytes t) : Int)) (1))).toArray⟩) _ (by kernel_rfl) (by kernel_rfl) (fun w hE hΦ => (RString_any _ (Rat.divInt ((decVal (bytes t) : Int)) (1)) _ hΦ.1.1.1.1.1.1 hΦ.2 (p4prt (by decide) S1 p4one).1 (p4prt (by decide) S1 p4one).2).mono (fun _ _ h => post_val h rfl)) (fun xx => ?_)
    refine sx_run 2 [(2, .v (.string ⟨(ratText (Rat.divInt ((decVal (bytes t) : Int)) (1))).toArray⟩)),(3, .v (.int .i64 0))] [] (by kernel_rfl) (by kernel_rfl) ?_
    refine sx_end (by kernel_rfl) ?_
    refine sx_next ?_
    refine sx_ret ?_
    refine sx_done (v := .tuple #[.string ⟨(ratText (Rat.divInt ((decVal (bytes t) : Int)) (1))).toArray⟩, .int .i64 0]) (by kernel_rfl) (fun w' hE hΦ => ?_)
    exact ⟨by (rw [parse_int HM HT.symm (HU.symm.trans hu) ht]) <;> rfl,hE⟩
   ·obtain ⟨c,v,rfl⟩ := str_cons hu
    rw [bytes_of (c :: v)] at HU lt
    have lv : v.length ≤ 400 := by rw [List.length_cons] at lt; omega
    have h8v : (⟨(v).toArray⟩ : ByteArray).size ≤ 1099511627776 := by rw [← bytes_length,bytes_of]; omega
    refine sx_region ?_
    refine sx_run 2 [(2, .v (.string ⟨#[]⟩)),(3, .v (.int .i64 0)),(4, .v (.string ⟨(c :: v).toArray⟩)),(5, .v (.bool false)),(6, .v (.string t)),(7, .v (.string ⟨#[]⟩)),(8, .v (.string ⟨#[]⟩)),(25, .v (.bool (!((⟨(c :: v).toArray⟩ : ByteArray).toList == (⟨#[]⟩ : ByteArray).toList))))] [] (by kernel_rfl) (by kernel_rfl) ?_
    rw [str_not (str_cons_ne c v),Bool.not_false]
    refine sx_run 0 [(2, .v (.string ⟨#[]⟩)),(3, .v (.int .i64 0)),(4, .v (.string ⟨(c :: v).toArray⟩)),(5, .v (.bool false)),(6, .v (.string t)),(7, .v (.string ⟨#[]⟩)),(8, .v (.string ⟨#[]⟩)),(25, .v (.bool true))] [] (by kernel_rfl) (by kernel_rfl) ?_
    refine sx_end (by kernel_rfl) ?_
    refine sx_next ?_
    refine sx_cond_t (by kernel_rfl) ?_
    refine sx_seq ?_
    refine sx_region ?_
    refine sx_run 1 [(2, .v (.string ⟨#[]⟩)),(3, .v (.int .i64 0)),(4, .v (.string ⟨(c :: v).toArray⟩)),(5, .v (.bool false)),(6, .v (.string t)),(7, .v (.string ⟨#[]⟩)),(8, .v (.string ⟨#[]⟩)),(26, .v (.string ⟨(c :: v).toArray⟩))] [] (by kernel_rfl) (by kernel_rfl) ?_
    refine sx_look 27 (.string ⟨[c].toArray⟩) (by kernel_rfl) (by kernel_rfl) (by kernel_rfl) (by kernel_rfl) (by kernel_rfl) (by kernel_rfl) (fun w hE hΦ => run_strslice 0 1 (t := 9) (x := (Operand.tmp 26)) (lo := none) (hi := (some (Operand.const (Value.int IntKind.i64 1)))) (by kernel_rfl) (by kernel_rfl) (by kernel_rfl) (Or.inl ⟨rfl,rfl⟩) (Or.inr rfl) (by omega) (str_cons_size c v) (str_first c v)) ?_
    refine sx_run 1 [(2, .v (.string ⟨#[]⟩)),(3, .v (.int .i64 0)),(4, .v (.string ⟨(c :: v).toArray⟩)),(5, .v (.bool false)),(6, .v (.string t)),(7, .v (.string ⟨[c].toArray⟩)),(8, .v (.string ⟨#[]⟩))] [] (by kernel_rfl) (by kernel_rfl) ?_
    refine sx_end (by kernel_rfl) ?_
    refine sx_next ?_
    refine sx_region ?_
    refine sx_run 1 [(2, .v (.string ⟨#[]⟩)),(3, .v (.int .i64 0)),(4, .v (.string ⟨(c :: v).toArray⟩)),(5, .v (.bool false)),(6, .v (.string t)),(7, .v (.string ⟨[c].toArray⟩)),(8, .v (.string ⟨#[]⟩)),(29, .v (.string ⟨(c :: v).toArray⟩))] [] (by kernel_rfl) (by kernel_rfl) ?_
    refine sx_look 30 (.string ⟨(v).toArray⟩) (by kernel_rfl) (by kernel_rfl) (by kernel_rfl) (by kernel_rfl) (by kernel_rfl) (by kernel_rfl) (fun w hE hΦ => run_strslice 1 _ (t := 9) (x := (Operand.tmp 29)) (lo := (some (Operand.const (Value.int IntKind.i64 1)))) (hi := none) (by kernel_rfl) (by kernel_rfl) (by kernel_rfl) (Or.inr rfl) (Or.inl ⟨rfl,rfl⟩) (str_cons_size c v) (Nat.le_refl _) (str_rest c v)) ?_
    refine sx_run 0 [(2, .v (.string ⟨#[]⟩)),(3, .v (.int .i64 0)),(4, .v (.string ⟨(c :: v).toArray⟩)),(5, .v (.bool false)),(6, .v (.string t)),(7, .v (.string ⟨[c].toArray⟩)),(8, .v (.string ⟨#[]⟩)),(30, .v (.string ⟨(v).toArray⟩))] [] (by kernel_rfl) (by kernel_rfl) ?_
    refine sx_call 56 [.string ⟨(v).toArray⟩] 31 (fun x : ByteArray × ByteArray => .tuple #[.string x.1, .string x.2]) _ (by kernel_rfl) (by kernel_rfl) (fun w hE hΦ => (cutDigits_any ⟨(v).toArray⟩ _ h8v).mono (fun _ _ h => post_Cut h)) (fun xx => ?_)
    obtain ⟨t2,u2⟩ := xx
    refine sx_run 5 [(2, .v (.string ⟨#[]⟩)),(3, .v (.int .i64 0)),(4, .v (.string u2)),(5, .v (.bool false)),(6, .v (.string t)),(7, .v (.string ⟨[c].toArray⟩)),(8, .v (.string t2))] [] (by kernel_rfl) (by kernel_rfl) ?_
    refine sx_end (by kernel_rfl) ?_
    refine sx_next ?_
    refine sx_seq ?_
    refine sx_seq ?_
    refine SXc.know (p := bytes t2 = v.takeWhile isDig ∧ bytes u2 = v.dropWhile isDig) (fun w _ hΦ => by have h := hΦ.2; rwa [bytes_of] at h) (fun HC2 => ?_)
    obtain ⟨HT2,HU2⟩ := HC2
    have dt2 : (bytes t2).all isDig = true := by rw [HT2]; exact all_takeWhile _
    have lt2 : (bytes t2).length ≤ v.length := by rw [HT2]; exact (List.takeWhile_prefix isDig).length_le
    by_cases ht2 : bytes t2 = []
    ·by_cases hu2 : bytes u2 = []
     ·refine sx_region ?_
      refine sx_run 2 [(2, .v (.string ⟨#[]⟩)),(3, .v (.int .i64 0)),(4, .v (.string u2)),(5, .v (.bool false)),(6, .v (.string t)),(7, .v (.string ⟨[c].toArray⟩)),(8, .v (.string t2)),(35, .v (.bool ((t : ByteArray).toList == (⟨#[]⟩ : ByteArray).toList)))] [] (by kernel_rfl) (by kernel_rfl) ?_
      rw [str_not ht]
      refine sx_run 3 [(2, .v (.string ⟨#[]⟩)),(3, .v (.int .i64 0)),(5, .v (.bool false)),(6, .v (.string t)),(7, .v (.string ⟨[c].toArray⟩)),(8, .v (.string t2)),(36, .v (.bool false)),(38, .v (.bool (!((u2 : ByteArray).toList == (⟨#[]⟩ : ByteArray).toList))))] [] (by kernel_rfl) (by kernel_rfl) ?_
      rw [str_nil hu2,Bool.not_true]
      refine sx_run 4 [(2, .v (.string ⟨#[]⟩)),(3, .v (.int .i64 0)),(5, .v (.bool false)),(6, .v (.string t)),(7, .v (.string ⟨[c].toArray⟩)),(8, .v (.string t2)),(40, .v (.bool false)),(42, .v (.bool (!((⟨[c].toArray⟩ : ByteArray).toList == (⟨#[]⟩ : ByteArray).toList))))] [] (by kernel_rfl) (by kernel_rfl) ?_
      rw [str_not (str_cons_ne c []),Bool.not_false]
      refine sx_run 3 [(2, .v (.string ⟨#[]⟩)),(3, .v (.int .i64 0)),(5, .v (.bool false)),(6, .v (.string t)),(7, .v (.string ⟨[c].toArray⟩)),(8, .v (.string t2)),(40, .v (.bool false)),(43, .v (.bool true)),(45, .v (.bool ((t2 : ByteArray).toList == (⟨#[]⟩ : ByteArray).toList)))] [] (by kernel_rfl) (by kernel_rfl) ?_
      rw [str_nil ht2]
      refine sx_run 2 [(2, .v (.string ⟨#[]⟩)),(3, .v (.int .i64 0)),(5, .v (.bool false)),(6, .v (.string t)),(7, .v (.string ⟨[c].toArray⟩)),(8, .v (.string t2)),(47, .v (.bool true))] [] (by kernel_rfl) (by kernel_rfl) ?_
      refine sx_end (by kernel_rfl) ?_
      refine sx_next ?_
      refine sx_cond_t (by kernel_rfl) ?_
      refine sx_seq ?_
      refine sx_region ?_
      refine sx_run 2 [(2, .v (.string ⟨#[]⟩)),(3, .v (.int .i64 6)),(5, .v (.bool false)),(6, .v (.string t)),(7, .v (.string ⟨[c].toArray⟩)),(8, .v (.string t2))] [] (by kernel_rfl) (by kernel_rfl) ?_
      refine sx_end (by kernel_rfl) ?_
      refine sx_next ?_
      refine sx_ret ?_
      refine sx_then_ret ?_
      refine sx_done (v := .tuple #[.string ⟨#[]⟩, .int .i64 6]) (by kernel_rfl) (fun w' hE hΦ => ?_)
      exact ⟨by (rw [parse_bad HM HT.symm HU.symm HT2.symm (Or.inr (Or.inl ht2))]) <;> rfl,hE⟩
     ·refine sx_region ?_
      refine sx_run 2 [(2, .v (.string ⟨#[]⟩)),(3, .v (.int .i64 0)),(4, .v (.string u2)),(5, .v (.bool false)),(6, .v (.string t)),(7, .v (.string ⟨[c].toArray⟩)),(8, .v (.string t2)),(35, .v (.bool ((t : ByteArray).toList == (⟨#[]⟩ : ByteArray).toList)))] [] (by kernel_rfl) (by kernel_rfl) ?_
      rw [str_not ht]
      refine sx_run 3 [(2, .v (.string ⟨#[]⟩)),(3, .v (.int .i64 0)),(5, .v (.bool false)),(6, .v (.string t)),(7, .v (.string ⟨[c].toArray⟩)),(8, .v (.string t2)),(36, .v (.bool false)),(38, .v (.bool (!((u2 : ByteArray).toList == (⟨#[]⟩ : ByteArray).toList))))] [] (by kernel_rfl) (by kernel_rfl) ?_
      rw [str_not hu2,Bool.not_false]
      refine sx_run 9 [(2, .v (.string ⟨#[]⟩)),(3, .v (.int .i64 0)),(5, .v (.bool false)),(6, .v (.string t)),(7, .v (.string ⟨[c].toArray⟩)),(8, .v (.string t2)),(47, .v (.bool true))] [] (by kernel_rfl) (by kernel_rfl) ?_
      refine sx_end (by kernel_rfl) ?_
      refine sx_next ?_
      refine sx_cond_t (by kernel_rfl) ?_
      refine sx_seq ?_
      refine sx_region ?_
      refine sx_run 2 [(2, .v (.string ⟨#[]⟩)),(3, .v (.int .i64 6)),(5, .v (.bool false)),(6, .v (.string t)),(7, .v (.string ⟨[c].toArray⟩)),(8, .v (.string t2))] [] (by kernel_rfl) (by kernel_rfl) ?_
      refine sx_end (by kernel_rfl) ?_
      refine sx_next ?_
      refine sx_ret ?_
      refine sx_then_ret ?_
      refine sx_done (v := .tuple #[.string ⟨#[]⟩, .int .i64 6]) (by kernel_rfl) (fun w' hE hΦ => ?_)
      exact ⟨by (rw [parse_bad HM HT.symm HU.symm HT2.symm (Or.inr (Or.inl ht2))]) <;> rfl,hE⟩
    ·by_cases hu2 : bytes u2 = []
     ·refine sx_region ?_
      refine sx_run 2 [(2, .v (.string ⟨#[]⟩)),(3, .v (.int .i64 0)),(4, .v (.string u2)),(5, .v (.bool false)),(6, .v (.string t)),(7, .v (.string ⟨[c].toArray⟩)),(8, .v (.string t2)),(35, .v (.bool ((t : ByteArray).toList == (⟨#[]⟩ : ByteArray).toList)))] [] (by kernel_rfl) (by kernel_rfl) ?_
      rw [str_not ht]
      refine sx_run 3 [(2, .v (.string ⟨#[]⟩)),(3, .v (.int .i64 0)),(5, .v (.bool false)),(6, .v (.string t)),(7, .v (.string ⟨[c].toArray⟩)),(8, .v (.string t2)),(36, .v (.bool false)),(38, .v (.bool (!((u2 : ByteArray).toList == (⟨#[]⟩ : ByteArray).toList))))] [] (by kernel_rfl) (by kernel_rfl) ?_
      rw [str_nil hu2,Bool.not_true]
      refine sx_run 4 [(2, .v (.string ⟨#[]⟩)),(3, .v (.int .i64 0)),(5, .v (.bool false)),(6, .v (.string t)),(7, .v (.string ⟨[c].toArray⟩)),(8, .v (.string t2)),(40, .v (.bool false)),(42, .v (.bool (!((⟨[c].toArray⟩ : ByteArray).toList == (⟨#[]⟩ : ByteArray).toList))))] [] (by kernel_rfl) (by kernel_rfl) ?_
      rw [str_not (str_cons_ne c []),Bool.not_false]
      refine sx_run 3 [(2, .v (.string ⟨#[]⟩)),(3, .v (.int .i64 0)),(5, .v (.bool false)),(6, .v (.string t)),(7, .v (.string ⟨[c].toArray⟩)),(8, .v (.string t2)),(40, .v (.bool false)),(43, .v (.bool true)),(45, .v (.bool ((t2 : ByteArray).toList == (⟨#[]⟩ : ByteArray).toList)))] [] (by kernel_rfl) (by kernel_rfl) ?_
      rw [str_not ht2]
      refine sx_run 2 [(2, .v (.string ⟨#[]⟩)),(3, .v (.int .i64 0)),(5, .v (.bool false)),(6, .v (.string t)),(7, .v (.string ⟨[c].toArray⟩)),(8, .v (.string t2)),(47, .v (.bool false))] [] (by kernel_rfl) (by kernel_rfl) ?_
      refine sx_end (by kernel_rfl) ?_
      refine sx_next ?_
      refine sx_cond_f (by kernel_rfl) ?_
      refine sx_skip ?_
      refine sx_next ?_
      refine sx_seq ?_
      have S1 : (decVal (bytes t) : Int).natAbs < 10 ^ e4 := p4dec dt (by omega)
      rw [List.length_cons] at lt
      have S2 : (decVal (bytes t2) : Int).natAbs < 10 ^ e4 := p4dec dt2 (by omega)
      have S3 : (decVal (bytes t ++ bytes t2) : Int).natAbs < 10 ^ e4 := p4dec (by rw [List.all_append,dt,dt2]; rfl) (by rw [List.length_append]; omega)
      have SK : ((10 ^ (bytes t2).length : Nat) : Int).natAbs < 10 ^ e4 := p4pow (by omega)
      refine sx_region ?_
      refine sx_run 1 [(2, .v (.string ⟨#[]⟩)),(3, .v (.int .i64 0)),(5, .v (.bool false)),(6, .v (.string t)),(7, .v (.string ⟨[c].toArray⟩)),(8, .v (.string t2)),(48, .v (.string t))] [] (by kernel_rfl) (by kernel_rfl) ?_
      refine sx_call 57 [.string t] 49 shInt _ (by kernel_rfl) (by kernel_rfl) (fun w hE hΦ => (intParse_any t _ dt (p4prs (by omega))).mono (fun _ _ h => post_Int h)) (fun xx => ?_)
      obtain ⟨s13,A13,l13,c13⟩ := xx
      refine sx_run 0 [(2, .v (.string ⟨#[]⟩)),(3, .v (.int .i64 0)),(5, .v (.bool false)),(6, .v (.string t)),(7, .v (.string ⟨[c].toArray⟩)),(8, .v (.string t2)),(49, .v (.agg #[.bool s13, .slice A13 l13 c13]))] [] (by kernel_rfl) (by kernel_rfl) ?_
      refine sx_call 58 [.int .i64 1] 50 shInt _ (by kernel_rfl) (by kernel_rfl) (fun w hE hΦ => (New_pos 1 _ (by rw [W64_eq]; omega) (by decide) (by decide)).mono (fun _ _ h => post_Int h)) (fun xx => ?_)
      obtain ⟨s14,A14,l14,c14⟩ := xx
      refine sx_run 4 [(2, .v (.string ⟨#[]⟩)),(3, .v (.int .i64 0)),(5, .v (.bool false)),(6, .v (.string t)),(7, .v (.string ⟨[c].toArray⟩)),(8, .v (.string t2)),(9, .p 9 0),(10, .p 10 0)] [(10,63,[.v (.bool s14), .v (.slice A14 l14 c14)]),(9,63,[.v (.bool s13), .v (.slice A13 l13 c13)])] (by kernel_rfl) (by kernel_rfl) ?_
      refine sx_end (by kernel_rfl) ?_
      refine sx_next ?_
      refine sx_seq ?_
      refine sx_seq ?_
      refine sx_region ?_
      refine sx_run 1 [(2, .v (.string ⟨#[]⟩)),(3, .v (.int .i64 0)),(5, .v (.bool false)),(6, .v (.string t)),(8, .v (.string t2)),(9, .p 9 0),(10, .p 10 0),(51, .v (.string ⟨[c].toArray⟩))] [(10,63,[.v (.bool s14), .v (.slice A14 l14 c14)]),(9,63,[.v (.bool s13), .v (.slice A13 l13 c13)])] (by kernel_rfl) (by kernel_rfl) ?_
      refine sx_end (by kernel_rfl) ?_
      refine sx_next ?_
      refine sx_block ?_
      refine sx_seq ?_
      refine sx_region ?_
      refine sx_run 1 [(2, .v (.string ⟨#[]⟩)),(3, .v (.int .i64 0)),(5, .v (.bool false)),(6, .v (.string t)),(8, .v (.string t2)),(9, .p 9 0),(10, .p 10 0),(51, .v (.string ⟨[c].toArray⟩)),(53, .v (.bool ((⟨[c].toArray⟩ : ByteArray).toList == (⟨#[]⟩ : ByteArray).toList)))] [(10,63,[.v (.bool s14), .v (.slice A14 l14 c14)]),(9,63,[.v (.bool s13), .v (.slice A13 l13 c13)])] (by kernel_rfl) (by kernel_rfl) ?_
      rw [str_not (str_cons_ne c [])]
      refine sx_run 1 [(2, .v (.string ⟨#[]⟩)),(3, .v (.int .i64 0)),(5, .v (.bool false)),(6, .v (.string t)),(8, .v (.string t2)),(9, .p 9 0),(10, .p 10 0),(51, .v (.string ⟨[c].toArray⟩)),(52, .v (.bool false))] [(10,63,[.v (.bool s14), .v (.slice A14 l14 c14)]),(9,63,[.v (.bool s13), .v (.slice A13 l13 c13)])] (by kernel_rfl) (by kernel_rfl) ?_
      refine sx_end (by kernel_rfl) ?_
      refine sx_next ?_
      refine sx_cond_f (by kernel_rfl) ?_
      refine sx_seq ?_
      by_cases h47 : c = 47
      ·subst h47
       refine sx_region ?_
       refine sx_run 1 [(2, .v (.string ⟨#[]⟩)),(3, .v (.int .i64 0)),(5, .v (.bool false)),(6, .v (.string t)),(8, .v (.string t2)),(9, .p 9 0),(10, .p 10 0),(51, .v (.string ⟨[47].toArray⟩)),(55, .v (.bool ((⟨[47].toArray⟩ : ByteArray).toList == (⟨#[47]⟩ : ByteArray).toList)))] [(10,63,[.v (.bool s14), .v (.slice A14 l14 c14)]),(9,63,[.v (.bool s13), .v (.slice A13 l13 c13)])] (by kernel_rfl) (by kernel_rfl) ?_
       rw [str_self]
       refine sx_run 1 [(2, .v (.string ⟨#[]⟩)),(3, .v (.int .i64 0)),(5, .v (.bool false)),(6, .v (.string t)),(8, .v (.string t2)),(9, .p 9 0),(10, .p 10 0),(51, .v (.string ⟨[47].toArray⟩)),(54, .v (.bool true))] [(10,63,[.v (.bool s14), .v (.slice A14 l14 c14)]),(9,63,[.v (.bool s13), .v (.slice A13 l13 c13)])] (by kernel_rfl) (by kernel_rfl) ?_
       refine sx_end (by kernel_rfl) ?_
       refine sx_next ?_
       refine sx_cond_t (by kernel_rfl) ?_
       refine sx_region ?_
       refine sx_run 1 [(2, .v (.string ⟨#[]⟩)),(3, .v (.int .i64 0)),(5, .v (.bool false)),(9, .p 9 0),(10, .p 10 0),(56, .v (.string t2))] [(10,63,[.v (.bool s14), .v (.slice A14 l14 c14)]),(9,63,[.v (.bool s13), .v (.slice A13 l13 c13)])] (by kernel_rfl) (by kernel_rfl) ?_
       refine sx_call 57 [.string t2] 57 shInt _ (by kernel_rfl) (by kernel_rfl) (fun w hE hΦ => (intParse_any t2 _ dt2 (p4prs (by omega))).mono (fun _ _ h => post_Int h)) (fun xx => ?_)
       obtain ⟨s15,A15,l15,c15⟩ := xx
       refine sx_run 1 [(2, .v (.string ⟨#[]⟩)),(3, .v (.int .i64 0)),(5, .v (.bool false)),(9, .p 9 0),(10, .p 10 0)] [(10,63,[.v (.bool s15), .v (.slice A15 l15 c15)]),(9,63,[.v (.bool s13), .v (.slice A13 l13 c13)])] (by kernel_rfl) (by kernel_rfl) ?_
       refine sx_end (by kernel_rfl) ?_
       refine sx_out ?_
       refine sx_next ?_
       refine sx_seq ?_
       refine sx_seq ?_
       refine sx_region ?_
       refine sx_run 1 [(2, .v (.string ⟨#[]⟩)),(3, .v (.int .i64 0)),(5, .v (.bool false)),(9, .p 9 0),(10, .p 10 0),(69, .v (.agg #[.bool s15, .slice A15 l15 c15]))] [(10,63,[.v (.bool s15), .v (.slice A15 l15 c15)]),(9,63,[.v (.bool s13), .v (.slice A13 l13 c13)])] (by kernel_rfl) (by kernel_rfl) ?_
       by_cases hz16 : ((decVal (bytes t2) : Int)) = 0
       ·refine sx_call 60 [.agg #[.bool s15, .slice A15 l15 c15]] 70 (fun _ : Unit => .bool true) _ (by kernel_rfl) (by kernel_rfl) (fun w hE hΦ => (IsZero_any _ ((decVal (bytes t2) : Int)) _ hΦ.2).mono (fun _ _ h => post_val h (by rw [decide_eq_true (p := ((decVal (bytes t2) : Int)) = 0) hz16]))) (fun xx => ?_)
        refine sx_run 0 [(2, .v (.string ⟨#[]⟩)),(3, .v (.int .i64 0)),(5, .v (.bool false)),(9, .p 9 0),(10, .p 10 0),(70, .v (.bool true))] [(10,63,[.v (.bool s15), .v (.slice A15 l15 c15)]),(9,63,[.v (.bool s13), .v (.slice A13 l13 c13)])] (by kernel_rfl) (by kernel_rfl) ?_
        refine sx_end (by kernel_rfl) ?_
        refine sx_next ?_
        refine sx_cond_t (by kernel_rfl) ?_
        refine sx_seq ?_
        refine sx_region ?_
        refine sx_run 2 [(2, .v (.string ⟨#[]⟩)),(3, .v (.int .i64 5)),(5, .v (.bool false)),(9, .p 9 0),(10, .p 10 0)] [(10,63,[.v (.bool s15), .v (.slice A15 l15 c15)]),(9,63,[.v (.bool s13), .v (.slice A13 l13 c13)])] (by kernel_rfl) (by kernel_rfl) ?_
        refine sx_end (by kernel_rfl) ?_
        refine sx_next ?_
        refine sx_ret ?_
        refine sx_then_ret ?_
        refine sx_done (v := .tuple #[.string ⟨#[]⟩, .int .i64 5]) (by kernel_rfl) (fun w' hE hΦ => ?_)
        exact ⟨by (rw [parse_zero HM HT.symm HU.symm HT2.symm (by rintro (h | h | h); exact ht h; exact ht2 h; rw [← HU2] at h; exact h hu2) (p4z hz16)]) <;> rfl,hE⟩
       ·refine sx_call 60 [.agg #[.bool s15, .slice A15 l15 c15]] 70 (fun _ : Unit => .bool false) _ (by kernel_rfl) (by kernel_rfl) (fun w hE hΦ => (IsZero_any _ ((decVal (bytes t2) : Int)) _ hΦ.2).mono (fun _ _ h => post_val h (by rw [decide_eq_false (p := ((decVal (bytes t2) : Int)) = 0) hz16]))) (fun xx => ?_)
        refine sx_run 0 [(2, .v (.string ⟨#[]⟩)),(3, .v (.int .i64 0)),(5, .v (.bool false)),(9, .p 9 0),(10, .p 10 0),(70, .v (.bool false))] [(10,63,[.v (.bool s15), .v (.slice A15 l15 c15)]),(9,63,[.v (.bool s13), .v (.slice A13 l13 c13)])] (by kernel_rfl) (by kernel_rfl) ?_
        refine sx_end (by kernel_rfl) ?_
        refine sx_next ?_
        refine sx_cond_f (by kernel_rfl) ?_
        refine sx_skip ?_
        refine sx_next ?_
        refine sx_seq ?_
        refine sx_seq ?_
        refine sx_region ?_
        refine sx_run 1 [(2, .v (.string ⟨#[]⟩)),(3, .v (.int .i64 0)),(9, .p 9 0),(10, .p 10 0),(71, .v (.bool false))] [(10,63,[.v (.bool s15), .v (.slice A15 l15 c15)]),(9,63,[.v (.bool s13), .v (.slice A13 l13 c13)])] (by kernel_rfl) (by kernel_rfl) ?_
        refine sx_end (by kernel_rfl) ?_
        refine sx_next ?_
        refine sx_cond_f (by kernel_rfl) ?_
        refine sx_skip ?_
        refine sx_next ?_
        refine sx_seq ?_
        refine sx_region ?_
        refine sx_run 2 [(2, .v (.string ⟨#[]⟩)),(3, .v (.int .i64 0)),(74, .v (.agg #[.bool s13, .slice A13 l13 c13])),(75, .v (.agg #[.bool s15, .slice A15 l15 c15]))] [] (by kernel_rfl) (by kernel_rfl) ?_
        refine sx_call 62 [.agg #[.bool s13, .slice A13 l13 c13], .agg #[.bool s15, .slice A15 l15 c15]] 76 shRat _ (by kernel_rfl) (by kernel_rfl) (fun w hE hΦ => (Fraction_any _ _ ((decVal (bytes t) : Int)) ((decVal (bytes t2) : Int)) _ hΦ.1.1.1.1.1.1.1 hΦ.1.1.1.2 hΦ.1.2 (p4fit S1) (p4fit S2) (GcdOk.words (p4w S1) (p4w S2)) (p4lt S2) hz16).mono (fun _ _ h => post_Rat h)) (fun xx => ?_)
        obtain ⟨s17,A17,l17,c17,t17,B17,m17,d17⟩ := xx
        refine sx_run 0 [(2, .v (.string ⟨#[]⟩)),(3, .v (.int .i64 0)),(76, .v (.agg #[.bool s17, .slice A17 l17 c17, .bool t17, .slice B17 m17 d17]))] [] (by kernel_rfl) (by kernel_rfl) ?_
        refine sx_call 63 [.agg #[.bool s17, .slice A17 l17 c17, .bool t17, .slice B17 m17 d17]] 77 (fun _ : Unit => .string ⟨(ratText (Rat.divInt ((decVal (bytes t) : Int)) ((decVal (bytes t2) : Int)))).toArray⟩) _ (by kernel_rfl) (by kernel_rfl) (fun w hE hΦ => (RString_any _ (Rat.divInt ((decVal (bytes t) : Int)) ((decVal (bytes t2) : Int))) _ hΦ.1.1.1.1.1.1.1.1 hΦ.2 (p4prt hz16 S1 S2).1 (p4prt hz16 S1 S2).2).mono (fun _ _ h => post_val h rfl)) (fun xx => ?_)
        refine sx_run 2 [(2, .v (.string ⟨(ratText (Rat.divInt ((decVal (bytes t) : Int)) ((decVal (bytes t2) : Int)))).toArray⟩)),(3, .v (.int .i64 0))] [] (by kernel_rfl) (by kernel_rfl) ?_
        refine sx_end (by kernel_rfl) ?_
        refine sx_next ?_
        refine sx_ret ?_
        refine sx_done (v := .tuple #[.string ⟨(ratText (Rat.divInt ((decVal (bytes t) : Int)) ((decVal (bytes t2) : Int)))).toArray⟩, .int .i64 0]) (by kernel_rfl) (fun w' hE hΦ => ?_)
        exact ⟨by (rw [parse_frac HM HT.symm HU.symm HT2.symm (by rintro (h | h | h); exact ht h; exact ht2 h; rw [← HU2] at h; exact h hu2) (p4n hz16)]) <;> rfl,hE⟩
      ·by_cases h46 : c = 46
       ·subst h46
        refine sx_region ?_
        refine sx_run 1 [(2, .v (.string ⟨#[]⟩)),(3, .v (.int .i64 0)),(5, .v (.bool false)),(6, .v (.string t)),(8, .v (.string t2)),(9, .p 9 0),(10, .p 10 0),(51, .v (.string ⟨[46].toArray⟩)),(55, .v (.bool ((⟨[46].toArray⟩ : ByteArray).toList == (⟨#[47]⟩ : ByteArray).toList)))] [(10,63,[.v (.bool s14), .v (.slice A14 l14 c14)]),(9,63,[.v (.bool s13), .v (.slice A13 l13 c13)])] (by kernel_rfl) (by kernel_rfl) ?_
        rw [str_one (by decide)]
        refine sx_run 1 [(2, .v (.string ⟨#[]⟩)),(3, .v (.int .i64 0)),(5, .v (.bool false)),(6, .v (.string t)),(8, .v (.string t2)),(9, .p 9 0),(10, .p 10 0),(51, .v (.string ⟨[46].toArray⟩)),(54, .v (.bool false))] [(10,63,[.v (.bool s14), .v (.slice A14 l14 c14)]),(9,63,[.v (.bool s13), .v (.slice A13 l13 c13)])] (by kernel_rfl) (by kernel_rfl) ?_
        refine sx_end (by kernel_rfl) ?_
        refine sx_next ?_
        refine sx_cond_f (by kernel_rfl) ?_
        refine sx_seq ?_
        refine sx_region ?_
        refine sx_run 1 [(2, .v (.string ⟨#[]⟩)),(3, .v (.int .i64 0)),(5, .v (.bool false)),(6, .v (.string t)),(8, .v (.string t2)),(9, .p 9 0),(10, .p 10 0),(59, .v (.bool ((⟨[46].toArray⟩ : ByteArray).toList == (⟨#[46]⟩ : ByteArray).toList)))] [(10,63,[.v (.bool s14), .v (.slice A14 l14 c14)]),(9,63,[.v (.bool s13), .v (.slice A13 l13 c13)])] (by kernel_rfl) (by kernel_rfl) ?_
        rw [str_self]
        refine sx_run 1 [(2, .v (.string ⟨#[]⟩)),(3, .v (.int .i64 0)),(5, .v (.bool false)),(6, .v (.string t)),(8, .v (.string t2)),(9, .p 9 0),(10, .p 10 0),(58, .v (.bool true))] [(10,63,[.v (.bool s14), .v (.slice A14 l14 c14)]),(9,63,[.v (.bool s13), .v (.slice A13 l13 c13)])] (by kernel_rfl) (by kernel_rfl) ?_
        refine sx_end (by kernel_rfl) ?_
        refine sx_next ?_
        refine sx_cond_t (by kernel_rfl) ?_
        refine sx_seq ?_
        refine sx_region ?_
        refine sx_run 2 [(2, .v (.string ⟨#[]⟩)),(3, .v (.int .i64 0)),(5, .v (.bool false)),(8, .v (.string t2)),(9, .p 9 0),(10, .p 10 0),(60, .v (.string t)),(61, .v (.string t2))] [(10,63,[.v (.bool s14), .v (.slice A14 l14 c14)]),(9,63,[.v (.bool s13), .v (.slice A13 l13 c13)])] (by kernel_rfl) (by kernel_rfl) ?_
        refine sx_look 62 (.string (t ++ t2)) (by kernel_rfl) (by kernel_rfl) (by kernel_rfl) (by kernel_rfl) (by kernel_rfl) (by kernel_rfl) (fun w hE hΦ => run_stradd (x := (Operand.tmp 60)) (y := (Operand.tmp 61)) (t := 9) (k := 9) (by kernel_rfl) (by kernel_rfl) (by kernel_rfl) (by rw [← bytes_length,← bytes_length]; omega) rfl) ?_
        refine sx_run 0 [(2, .v (.string ⟨#[]⟩)),(3, .v (.int .i64 0)),(5, .v (.bool false)),(8, .v (.string t2)),(9, .p 9 0),(10, .p 10 0),(62, .v (.string (t ++ t2)))] [(10,63,[.v (.bool s14), .v (.slice A14 l14 c14)]),(9,63,[.v (.bool s13), .v (.slice A13 l13 c13)])] (by kernel_rfl) (by kernel_rfl) ?_
        refine sx_call 57 [.string (t ++ t2)] 63 shInt _ (by kernel_rfl) (by kernel_rfl) (fun w hE hΦ => (intParse_any (t ++ t2) _ (by rw [bytes_cat,List.all_append,dt,dt2]; rfl) (p4prs (by rw [bytes_cat,List.length_append]; omega))).mono (fun _ _ h => post_Int (by rw [bytes_cat] at h; exact h))) (fun xx => ?_)
        obtain ⟨s18,A18,l18,c18⟩ := xx
        refine sx_run 1 [(2, .v (.string ⟨#[]⟩)),(3, .v (.int .i64 0)),(5, .v (.bool false)),(8, .v (.string t2)),(9, .p 9 0),(10, .p 10 0)] [(10,63,[.v (.bool s14), .v (.slice A14 l14 c14)]),(9,63,[.v (.bool s18), .v (.slice A18 l18 c18)])] (by kernel_rfl) (by kernel_rfl) ?_
        refine sx_end (by kernel_rfl) ?_
        refine sx_next ?_
        refine sx_region ?_
        refine sx_call 58 [.int .i64 10] 64 shInt _ (by kernel_rfl) (by kernel_rfl) (fun w hE hΦ => (New_pos 10 _ (by rw [W64_eq]; omega) (by decide) (by decide)).mono (fun _ _ h => post_Int h)) (fun xx => ?_)
        obtain ⟨s19,A19,l19,c19⟩ := xx
        refine sx_run 3 [(2, .v (.string ⟨#[]⟩)),(3, .v (.int .i64 0)),(5, .v (.bool false)),(9, .p 9 0),(10, .p 10 0),(64, .v (.agg #[.bool s19, .slice A19 l19 c19])),(67, .v (.int .u64 (IntKind.u64.wrap (((t2).size : Int)))))] [(10,63,[.v (.bool s14), .v (.slice A14 l14 c14)]),(9,63,[.v (.bool s18), .v (.slice A18 l18 c18)])] (by kernel_rfl) (by kernel_rfl) ?_
        rw [p4len (show (bytes t2).length ≤ 400 by omega)]
        refine sx_call 59 [.agg #[.bool s19, .slice A19 l19 c19], .int .u64 (((bytes t2).length : Nat) : Int)] 68 shInt _ (by kernel_rfl) (by kernel_rfl) (fun w hE hΦ => (Pow_pos _ 10 (bytes t2).length _ hΦ.2 (p4wl (by omega)) p4ten (by omega)).mono (fun _ _ h => post_Int h)) (fun xx => ?_)
        obtain ⟨s20,A20,l20,c20⟩ := xx
        refine sx_run 1 [(2, .v (.string ⟨#[]⟩)),(3, .v (.int .i64 0)),(5, .v (.bool false)),(9, .p 9 0),(10, .p 10 0)] [(10,63,[.v (.bool s20), .v (.slice A20 l20 c20)]),(9,63,[.v (.bool s18), .v (.slice A18 l18 c18)])] (by kernel_rfl) (by kernel_rfl) ?_
        refine sx_end (by kernel_rfl) ?_
        refine sx_out ?_
        refine sx_next ?_
        refine sx_seq ?_
        refine sx_seq ?_
        refine sx_region ?_
        refine sx_run 1 [(2, .v (.string ⟨#[]⟩)),(3, .v (.int .i64 0)),(5, .v (.bool false)),(9, .p 9 0),(10, .p 10 0),(69, .v (.agg #[.bool s20, .slice A20 l20 c20]))] [(10,63,[.v (.bool s20), .v (.slice A20 l20 c20)]),(9,63,[.v (.bool s18), .v (.slice A18 l18 c18)])] (by kernel_rfl) (by kernel_rfl) ?_
        refine sx_call 60 [.agg #[.bool s20, .slice A20 l20 c20]] 70 (fun _ : Unit => .bool false) _ (by kernel_rfl) (by kernel_rfl) (fun w hE hΦ => (IsZero_any _ (((10 ^ (bytes t2).length : Nat) : Int)) _ hΦ.2).mono (fun _ _ h => post_val h (by rw [decide_eq_false (p := (((10 ^ (bytes t2).length : Nat) : Int)) = 0) (p4nz _)]))) (fun xx => ?_)
        refine sx_run 0 [(2, .v (.string ⟨#[]⟩)),(3, .v (.int .i64 0)),(5, .v (.bool false)),(9, .p 9 0),(10, .p 10 0),(70, .v (.bool false))] [(10,63,[.v (.bool s20), .v (.slice A20 l20 c20)]),(9,63,[.v (.bool s18), .v (.slice A18 l18 c18)])] (by kernel_rfl) (by kernel_rfl) ?_
        refine sx_end (by kernel_rfl) ?_
        refine sx_next ?_
        refine sx_cond_f (by kernel_rfl) ?_
        refine sx_skip ?_
        refine sx_next ?_
        refine sx_seq ?_
        refine sx_seq ?_
        refine sx_region ?_
        refine sx_run 1 [(2, .v (.string ⟨#[]⟩)),(3, .v (.int .i64 0)),(9, .p 9 0),(10, .p 10 0),(71, .v (.bool false))] [(10,63,[.v (.bool s20), .v (.slice A20 l20 c20)]),(9,63,[.v (.bool s18), .v (.slice A18 l18 c18)])] (by kernel_rfl) (by kernel_rfl) ?_
        refine sx_end (by kernel_rfl) ?_
        refine sx_next ?_
        refine sx_cond_f (by kernel_rfl) ?_
        refine sx_skip ?_
        refine sx_next ?_
        refine sx_seq ?_
        refine sx_region ?_
        refine sx_run 2 [(2, .v (.string ⟨#[]⟩)),(3, .v (.int .i64 0)),(74, .v (.agg #[.bool s18, .slice A18 l18 c18])),(75, .v (.agg #[.bool s20, .slice A20 l20 c20]))] [] (by kernel_rfl) (by kernel_rfl) ?_
        refine sx_call 62 [.agg #[.bool s18, .slice A18 l18 c18], .agg #[.bool s20, .slice A20 l20 c20]] 76 shRat _ (by kernel_rfl) (by kernel_rfl) (fun w hE hΦ => (Fraction_any _ _ ((decVal (bytes t ++ bytes t2) : Int)) (((10 ^ (bytes t2).length : Nat) : Int)) _ hΦ.1.1.1.1.1.1.1.1.1 hΦ.1.1.1.2 hΦ.1.2 (p4fit S3) (p4fit SK) (GcdOk.words (p4w S3) (p4w SK)) (p4lt SK) (p4nz _)).mono (fun _ _ h => post_Rat h)) (fun xx => ?_)
        obtain ⟨s21,A21,l21,c21,t21,B21,m21,d21⟩ := xx
        refine sx_run 0 [(2, .v (.string ⟨#[]⟩)),(3, .v (.int .i64 0)),(76, .v (.agg #[.bool s21, .slice A21 l21 c21, .bool t21, .slice B21 m21 d21]))] [] (by kernel_rfl) (by kernel_rfl) ?_
        refine sx_call 63 [.agg #[.bool s21, .slice A21 l21 c21, .bool t21, .slice B21 m21 d21]] 77 (fun _ : Unit => .string ⟨(ratText (Rat.divInt ((decVal (bytes t ++ bytes t2) : Int)) (((10 ^ (bytes t2).length : Nat) : Int)))).toArray⟩) _ (by kernel_rfl) (by kernel_rfl) (fun w hE hΦ => (RString_any _ (Rat.divInt ((decVal (bytes t ++ bytes t2) : Int)) (((10 ^ (bytes t2).length : Nat) : Int))) _ hΦ.1.1.1.1.1.1.1.1.1.1 hΦ.2 (p4prt (p4nz _) S3 SK).1 (p4prt (p4nz _) S3 SK).2).mono (fun _ _ h => post_val h rfl)) (fun xx => ?_)
        refine sx_run 2 [(2, .v (.string ⟨(ratText (Rat.divInt ((decVal (bytes t ++ bytes t2) : Int)) (((10 ^ (bytes t2).length : Nat) : Int)))).toArray⟩)),(3, .v (.int .i64 0))] [] (by kernel_rfl) (by kernel_rfl) ?_
        refine sx_end (by kernel_rfl) ?_
        refine sx_next ?_
        refine sx_ret ?_
        refine sx_done (v := .tuple #[.string ⟨(ratText (Rat.divInt ((decVal (bytes t ++ bytes t2) : Int)) (((10 ^ (bytes t2).length : Nat) : Int)))).toArray⟩, .int .i64 0]) (by kernel_rfl) (fun w' hE hΦ => ?_)
        exact ⟨by (rw [parse_point HM HT.symm HU.symm HT2.symm (by rintro (h | h | h); exact ht h; exact ht2 h; rw [← HU2] at h; exact h hu2)]) <;> rfl,hE⟩
       ·refine sx_region ?_
        refine sx_run 1 [(2, .v (.string ⟨#[]⟩)),(3, .v (.int .i64 0)),(5, .v (.bool false)),(6, .v (.string t)),(8, .v (.string t2)),(9, .p 9 0),(10, .p 10 0),(51, .v (.string ⟨[c].toArray⟩)),(55, .v (.bool ((⟨[c].toArray⟩ : ByteArray).toList == (⟨#[47]⟩ : ByteArray).toList)))] [(10,63,[.v (.bool s14), .v (.slice A14 l14 c14)]),(9,63,[.v (.bool s13), .v (.slice A13 l13 c13)])] (by kernel_rfl) (by kernel_rfl) ?_
        rw [str_one h47]
        refine sx_run 1 [(2, .v (.string ⟨#[]⟩)),(3, .v (.int .i64 0)),(5, .v (.bool false)),(6, .v (.string t)),(8, .v (.string t2)),(9, .p 9 0),(10, .p 10 0),(51, .v (.string ⟨[c].toArray⟩)),(54, .v (.bool false))] [(10,63,[.v (.bool s14), .v (.slice A14 l14 c14)]),(9,63,[.v (.bool s13), .v (.slice A13 l13 c13)])] (by kernel_rfl) (by kernel_rfl) ?_
        refine sx_end (by kernel_rfl) ?_
        refine sx_next ?_
        refine sx_cond_f (by kernel_rfl) ?_
        refine sx_seq ?_
        refine sx_region ?_
        refine sx_run 1 [(2, .v (.string ⟨#[]⟩)),(3, .v (.int .i64 0)),(5, .v (.bool false)),(6, .v (.string t)),(8, .v (.string t2)),(9, .p 9 0),(10, .p 10 0),(59, .v (.bool ((⟨[c].toArray⟩ : ByteArray).toList == (⟨#[46]⟩ : ByteArray).toList)))] [(10,63,[.v (.bool s14), .v (.slice A14 l14 c14)]),(9,63,[.v (.bool s13), .v (.slice A13 l13 c13)])] (by kernel_rfl) (by kernel_rfl) ?_
        rw [str_one h46]
        refine sx_run 1 [(2, .v (.string ⟨#[]⟩)),(3, .v (.int .i64 0)),(5, .v (.bool false)),(6, .v (.string t)),(8, .v (.string t2)),(9, .p 9 0),(10, .p 10 0),(58, .v (.bool false))] [(10,63,[.v (.bool s14), .v (.slice A14 l14 c14)]),(9,63,[.v (.bool s13), .v (.slice A13 l13 c13)])] (by kernel_rfl) (by kernel_rfl) ?_
        refine sx_end (by kernel_rfl) ?_
        refine sx_next ?_
        refine sx_cond_f (by kernel_rfl) ?_
        refine sx_seq ?_
        refine sx_region ?_
        refine sx_run 2 [(2, .v (.string ⟨#[]⟩)),(3, .v (.int .i64 6)),(5, .v (.bool false)),(9, .p 9 0),(10, .p 10 0)] [(10,63,[.v (.bool s14), .v (.slice A14 l14 c14)]),(9,63,[.v (.bool s13), .v (.slice A13 l13 c13)])] (by kernel_rfl) (by kernel_rfl) ?_
        refine sx_end (by kernel_rfl) ?_
        refine sx_next ?_
        refine sx_ret ?_
        refine sx_in_ret ?_
        refine sx_then_ret ?_
        refine sx_done (v := .tuple #[.string ⟨#[]⟩, .int .i64 6]) (by kernel_rfl) (fun w' hE hΦ => ?_)
        exact ⟨by (rw [parse_other HM HT.symm HU.symm HT2.symm h47 h46]) <;> rfl,hE⟩
     ·refine sx_region ?_
      refine sx_run 2 [(2, .v (.string ⟨#[]⟩)),(3, .v (.int .i64 0)),(4, .v (.string u2)),(5, .v (.bool false)),(6, .v (.string t)),(7, .v (.string ⟨[c].toArray⟩)),(8, .v (.string t2)),(35, .v (.bool ((t : ByteArray).toList == (⟨#[]⟩ : ByteArray).toList)))] [] (by kernel_rfl) (by kernel_rfl) ?_
      rw [str_not ht]
      refine sx_run 3 [(2, .v (.string ⟨#[]⟩)),(3, .v (.int .i64 0)),(5, .v (.bool false)),(6, .v (.string t)),(7, .v (.string ⟨[c].toArray⟩)),(8, .v (.string t2)),(36, .v (.bool false)),(38, .v (.bool (!((u2 : ByteArray).toList == (⟨#[]⟩ : ByteArray).toList))))] [] (by kernel_rfl) (by kernel_rfl) ?_
      rw [str_not hu2,Bool.not_false]
      refine sx_run 9 [(2, .v (.string ⟨#[]⟩)),(3, .v (.int .i64 0)),(5, .v (.bool false)),(6, .v (.string t)),(7, .v (.string ⟨[c].toArray⟩)),(8, .v (.string t2)),(47, .v (.bool true))] [] (by kernel_rfl) (by kernel_rfl) ?_
      refine sx_end (by kernel_rfl) ?_
      refine sx_next ?_
      refine sx_cond_t (by kernel_rfl) ?_
      refine sx_seq ?_
      refine sx_region ?_
      refine sx_run 2 [(2, .v (.string ⟨#[]⟩)),(3, .v (.int .i64 6)),(5, .v (.bool false)),(6, .v (.string t)),(7, .v (.string ⟨[c].toArray⟩)),(8, .v (.string t2))] [] (by kernel_rfl) (by kernel_rfl) ?_
      refine sx_end (by kernel_rfl) ?_
      refine sx_next ?_
      refine sx_ret ?_
      refine sx_then_ret ?_
      refine sx_done (v := .tuple #[.string ⟨#[]⟩, .int .i64 6]) (by kernel_rfl) (fun w' hE hΦ => ?_)
      exact ⟨by (rw [parse_bad HM HT.symm HU.symm HT2.symm (Or.inr (Or.inr (by rw [← HU2]; exact hu2)))]) <;> rfl,hE⟩
 ·refine sx_run 5 [(2, .v (.string ⟨#[]⟩)),(3, .v (.int .i64 0)),(4, .v (.string r)),(5, .v (.bool true))] [] (by kernel_rfl) (by kernel_rfl) ?_
  refine sx_end (by kernel_rfl) ?_
  refine sx_next ?_
  refine sx_seq ?_
  refine SXc.know (p := unsign (bytes s) = (true,bytes r)) (fun w _ hΦ => hΦ.2) (fun HM => ?_)
  have lr : (bytes r).length ≤ 400 := Nat.le_trans (unsign_le HM) hs
  have h8r : r.size ≤ 1099511627776 := by rw [bytes_length] at lr; omega
  refine sx_region ?_
  refine sx_run 1 [(2, .v (.string ⟨#[]⟩)),(3, .v (.int .i64 0)),(4, .v (.string r)),(5, .v (.bool true)),(20, .v (.string r))] [] (by kernel_rfl) (by kernel_rfl) ?_
  refine sx_call 56 [.string r] 21 (fun x : ByteArray × ByteArray => .tuple #[.string x.1, .string x.2]) _ (by kernel_rfl) (by kernel_rfl) (fun w hE hΦ => (cutDigits_any r _ h8r).mono (fun _ _ h => post_Cut h)) (fun xx => ?_)
  obtain ⟨t,u⟩ := xx
  refine sx_run 5 [(2, .v (.string ⟨#[]⟩)),(3, .v (.int .i64 0)),(4, .v (.string u)),(5, .v (.bool true)),(6, .v (.string t))] [] (by kernel_rfl) (by kernel_rfl) ?_
  refine sx_end (by kernel_rfl) ?_
  refine sx_next ?_
  refine sx_seq ?_
  refine sx_region ?_
  refine sx_run 2 [(2, .v (.string ⟨#[]⟩)),(3, .v (.int .i64 0)),(4, .v (.string u)),(5, .v (.bool true)),(6, .v (.string t)),(7, .v (.string ⟨#[]⟩)),(8, .v (.string ⟨#[]⟩))] [] (by kernel_rfl) (by kernel_rfl) ?_
  refine sx_end (by kernel_rfl) ?_
  refine sx_next ?_
  refine sx_seq ?_
  refine sx_seq ?_
  refine SXc.know (p := bytes t = (bytes r).takeWhile isDig ∧ bytes u = (bytes r).dropWhile isDig) (fun w _ hΦ => hΦ.2) (fun HC => ?_)
  obtain ⟨HT,HU⟩ := HC
  have dt : (bytes t).all isDig = true := by rw [HT]; exact all_takeWhile _
  have lt : (bytes t).length + (bytes u).length ≤ 400 := by rw [HT,HU]; exact Nat.le_trans (Nat.le_of_eq (by rw [← List.length_append,List.takeWhile_append_dropWhile])) lr
  by_cases ht : bytes t = []
  ·by_cases hu : bytes u = []
   ·refine sx_region ?_
    refine sx_run 2 [(2, .v (.string ⟨#[]⟩)),(3, .v (.int .i64 0)),(4, .v (.string u)),(5, .v (.bool true)),(6, .v (.string t)),(7, .v (.string ⟨#[]⟩)),(8, .v (.string ⟨#[]⟩)),(25, .v (.bool (!((u : ByteArray).toList == (⟨#[]⟩ : ByteArray).toList))))] [] (by kernel_rfl) (by kernel_rfl) ?_
    rw [str_nil hu,Bool.not_true]
    refine sx_run 0 [(2, .v (.string ⟨#[]⟩)),(3, .v (.int .i64 0)),(4, .v (.string u)),(5, .v (.bool true)),(6, .v (.string t)),(7, .v (.string ⟨#[]⟩)),(8, .v (.string ⟨#[]⟩)),(25, .v (.bool false))] [] (by kernel_rfl) (by kernel_rfl) ?_
    refine sx_end (by kernel_rfl) ?_
    refine sx_next ?_
    refine sx_cond_f (by kernel_rfl) ?_
    refine sx_skip ?_
    refine sx_next ?_
    refine sx_seq ?_
    refine sx_seq ?_
    refine sx_region ?_
    refine sx_run 2 [(2, .v (.string ⟨#[]⟩)),(3, .v (.int .i64 0)),(4, .v (.string u)),(5, .v (.bool true)),(6, .v (.string t)),(7, .v (.string ⟨#[]⟩)),(8, .v (.string ⟨#[]⟩)),(35, .v (.bool ((t : ByteArray).toList == (⟨#[]⟩ : ByteArray).toList)))] [] (by kernel_rfl) (by kernel_rfl) ?_
    rw [str_nil ht]
    refine sx_run 12 [(2, .v (.string ⟨#[]⟩)),(3, .v (.int .i64 0)),(5, .v (.bool true)),(6, .v (.string t)),(7, .v (.string ⟨#[]⟩)),(8, .v (.string ⟨#[]⟩)),(47, .v (.bool true))] [] (by kernel_rfl) (by kernel_rfl) ?_
    refine sx_end (by kernel_rfl) ?_
    refine sx_next ?_
    refine sx_cond_t (by kernel_rfl) ?_
    refine sx_seq ?_
    refine sx_region ?_
    refine sx_run 2 [(2, .v (.string ⟨#[]⟩)),(3, .v (.int .i64 6)),(5, .v (.bool true)),(6, .v (.string t)),(7, .v (.string ⟨#[]⟩)),(8, .v (.string ⟨#[]⟩))] [] (by kernel_rfl) (by kernel_rfl) ?_
    refine sx_end (by kernel_rfl) ?_
    refine sx_next ?_
    refine sx_ret ?_
    refine sx_then_ret ?_
    refine sx_done (v := .tuple #[.string ⟨#[]⟩, .int .i64 6]) (by kernel_rfl) (fun w' hE hΦ => ?_)
    exact ⟨by (rw [parse_nil HM HT.symm (HU.symm.trans hu) ht]) <;> rfl,hE⟩
   ·obtain ⟨c,v,rfl⟩ := str_cons hu
    rw [bytes_of (c :: v)] at HU lt
    have lv : v.length ≤ 400 := by rw [List.length_cons] at lt; omega
    have h8v : (⟨(v).toArray⟩ : ByteArray).size ≤ 1099511627776 := by rw [← bytes_length,bytes_of]; omega
    refine sx_region ?_
    refine sx_run 2 [(2, .v (.string ⟨#[]⟩)),(3, .v (.int .i64 0)),(4, .v (.string ⟨(c :: v).toArray⟩)),(5, .v (.bool true)),(6, .v (.string t)),(7, .v (.string ⟨#[]⟩)),(8, .v (.string ⟨#[]⟩)),(25, .v (.bool (!((⟨(c :: v).toArray⟩ : ByteArray).toList == (⟨#[]⟩ : ByteArray).toList))))] [] (by kernel_rfl) (by kernel_rfl) ?_
    rw [str_not (str_cons_ne c v),Bool.not_false]
    refine sx_run 0 [(2, .v (.string ⟨#[]⟩)),(3, .v (.int .i64 0)),(4, .v (.string ⟨(c :: v).toArray⟩)),(5, .v (.bool true)),(6, .v (.string t)),(7, .v (.string ⟨#[]⟩)),(8, .v (.string ⟨#[]⟩)),(25, .v (.bool true))] [] (by kernel_rfl) (by kernel_rfl) ?_
    refine sx_end (by kernel_rfl) ?_
    refine sx_next ?_
    refine sx_cond_t (by kernel_rfl) ?_
    refine sx_seq ?_
    refine sx_region ?_
    refine sx_run 1 [(2, .v (.string ⟨#[]⟩)),(3, .v (.int .i64 0)),(4, .v (.string ⟨(c :: v).toArray⟩)),(5, .v (.bool true)),(6, .v (.string t)),(7, .v (.string ⟨#[]⟩)),(8, .v (.string ⟨#[]⟩)),(26, .v (.string ⟨(c :: v).toArray⟩))] [] (by kernel_rfl) (by kernel_rfl) ?_
    refine sx_look 27 (.string ⟨[c].toArray⟩) (by kernel_rfl) (by kernel_rfl) (by kernel_rfl) (by kernel_rfl) (by kernel_rfl) (by kernel_rfl) (fun w hE hΦ => run_strslice 0 1 (t := 9) (x := (Operand.tmp 26)) (lo := none) (hi := (some (Operand.const (Value.int IntKind.i64 1)))) (by kernel_rfl) (by kernel_rfl) (by kernel_rfl) (Or.inl ⟨rfl,rfl⟩) (Or.inr rfl) (by omega) (str_cons_size c v) (str_first c v)) ?_
    refine sx_run 1 [(2, .v (.string ⟨#[]⟩)),(3, .v (.int .i64 0)),(4, .v (.string ⟨(c :: v).toArray⟩)),(5, .v (.bool true)),(6, .v (.string t)),(7, .v (.string ⟨[c].toArray⟩)),(8, .v (.string ⟨#[]⟩))] [] (by kernel_rfl) (by kernel_rfl) ?_
    refine sx_end (by kernel_rfl) ?_
    refine sx_next ?_
    refine sx_region ?_
    refine sx_run 1 [(2, .v (.string ⟨#[]⟩)),(3, .v (.int .i64 0)),(4, .v (.string ⟨(c :: v).toArray⟩)),(5, .v (.bool true)),(6, .v (.string t)),(7, .v (.string ⟨[c].toArray⟩)),(8, .v (.string ⟨#[]⟩)),(29, .v (.string ⟨(c :: v).toArray⟩))] [] (by kernel_rfl) (by kernel_rfl) ?_
    refine sx_look 30 (.string ⟨(v).toArray⟩) (by kernel_rfl) (by kernel_rfl) (by kernel_rfl) (by kernel_rfl) (by kernel_rfl) (by kernel_rfl) (fun w hE hΦ => run_strslice 1 _ (t := 9) (x := (Operand.tmp 29)) (lo := (some (Operand.const (Value.int IntKind.i64 1)))) (hi := none) (by kernel_rfl) (by kernel_rfl) (by kernel_rfl) (Or.inr rfl) (Or.inl ⟨rfl,rfl⟩) (str_cons_size c v) (Nat.le_refl _) (str_rest c v)) ?_
    refine sx_run 0 [(2, .v (.string ⟨#[]⟩)),(3, .v (.int .i64 0)),(4, .v (.string ⟨(c :: v).toArray⟩)),(5, .v (.bool true)),(6, .v (.string t)),(7, .v (.string ⟨[c].toArray⟩)),(8, .v (.string ⟨#[]⟩)),(30, .v (.string ⟨(v).toArray⟩))] [] (by kernel_rfl) (by kernel_rfl) ?_
    refine sx_call 56 [.string ⟨(v).toArray⟩] 31 (fun x : ByteArray × ByteArray => .tuple #[.string x.1, .string x.2]) _ (by kernel_rfl) (by kernel_rfl) (fun w hE hΦ => (cutDigits_any ⟨(v).toArray⟩ _ h8v).mono (fun _ _ h => post_Cut h)) (fun xx => ?_)
    obtain ⟨t2,u2⟩ := xx
    refine sx_run 5 [(2, .v (.string ⟨#[]⟩)),(3, .v (.int .i64 0)),(4, .v (.string u2)),(5, .v (.bool true)),(6, .v (.string t)),(7, .v (.string ⟨[c].toArray⟩)),(8, .v (.string t2))] [] (by kernel_rfl) (by kernel_rfl) ?_
    refine sx_end (by kernel_rfl) ?_
    refine sx_next ?_
    refine sx_seq ?_
    refine sx_seq ?_
    refine SXc.know (p := bytes t2 = v.takeWhile isDig ∧ bytes u2 = v.dropWhile isDig) (fun w _ hΦ => by have h := hΦ.2; rwa [bytes_of] at h) (fun HC2 => ?_)
    obtain ⟨HT2,HU2⟩ := HC2
    have dt2 : (bytes t2).all isDig = true := by rw [HT2]; exact all_takeWhile _
    have lt2 : (bytes t2).length ≤ v.length := by rw [HT2]; exact (List.takeWhile_prefix isDig).length_le
    by_cases ht2 : bytes t2 = []
    ·by_cases hu2 : bytes u2 = []
     ·refine sx_region ?_
      refine sx_run 2 [(2, .v (.string ⟨#[]⟩)),(3, .v (.int .i64 0)),(4, .v (.string u2)),(5, .v (.bool true)),(6, .v (.string t)),(7, .v (.string ⟨[c].toArray⟩)),(8, .v (.string t2)),(35, .v (.bool ((t : ByteArray).toList == (⟨#[]⟩ : ByteArray).toList)))] [] (by kernel_rfl) (by kernel_rfl) ?_
      rw [str_nil ht]
      refine sx_run 12 [(2, .v (.string ⟨#[]⟩)),(3, .v (.int .i64 0)),(5, .v (.bool true)),(6, .v (.string t)),(7, .v (.string ⟨[c].toArray⟩)),(8, .v (.string t2)),(47, .v (.bool true))] [] (by kernel_rfl) (by kernel_rfl) ?_
      refine sx_end (by kernel_rfl) ?_
      refine sx_next ?_
      refine sx_cond_t (by kernel_rfl) ?_
      refine sx_seq ?_
      refine sx_region ?_
      refine sx_run 2 [(2, .v (.string ⟨#[]⟩)),(3, .v (.int .i64 6)),(5, .v (.bool true)),(6, .v (.string t)),(7, .v (.string ⟨[c].toArray⟩)),(8, .v (.string t2))] [] (by kernel_rfl) (by kernel_rfl) ?_
      refine sx_end (by kernel_rfl) ?_
      refine sx_next ?_
      refine sx_ret ?_
      refine sx_then_ret ?_
      refine sx_done (v := .tuple #[.string ⟨#[]⟩, .int .i64 6]) (by kernel_rfl) (fun w' hE hΦ => ?_)
      exact ⟨by (rw [parse_bad HM HT.symm HU.symm HT2.symm (Or.inl ht)]) <;> rfl,hE⟩
     ·refine sx_region ?_
      refine sx_run 2 [(2, .v (.string ⟨#[]⟩)),(3, .v (.int .i64 0)),(4, .v (.string u2)),(5, .v (.bool true)),(6, .v (.string t)),(7, .v (.string ⟨[c].toArray⟩)),(8, .v (.string t2)),(35, .v (.bool ((t : ByteArray).toList == (⟨#[]⟩ : ByteArray).toList)))] [] (by kernel_rfl) (by kernel_rfl) ?_
      rw [str_nil ht]
      refine sx_run 12 [(2, .v (.string ⟨#[]⟩)),(3, .v (.int .i64 0)),(5, .v (.bool true)),(6, .v (.string t)),(7, .v (.string ⟨[c].toArray⟩)),(8, .v (.string t2)),(47, .v (.bool true))] [] (by kernel_rfl) (by kernel_rfl) ?_
      refine sx_end (by kernel_rfl) ?_
      refine sx_next ?_
      refine sx_cond_t (by kernel_rfl) ?_
      refine sx_seq ?_
      refine sx_region ?_
      refine sx_run 2 [(2, .v (.string ⟨#[]⟩)),(3, .v (.int .i64 6)),(5, .v (.bool true)),(6, .v (.string t)),(7, .v (.string ⟨[c].toArray⟩)),(8, .v (.string t2))] [] (by kernel_rfl) (by kernel_rfl) ?_
      refine sx_end (by kernel_rfl) ?_
      refine sx_next ?_
      refine sx_ret ?_
      refine sx_then_ret ?_
      refine sx_done (v := .tuple #[.string ⟨#[]⟩, .int .i64 6]) (by kernel_rfl) (fun w' hE hΦ => ?_)
      exact ⟨by (rw [parse_bad HM HT.symm HU.symm HT2.symm (Or.inl ht)]) <;> rfl,hE⟩
    ·by_cases hu2 : bytes u2 = []
     ·refine sx_region ?_
      refine sx_run 2 [(2, .v (.string ⟨#[]⟩)),(3, .v (.int .i64 0)),(4, .v (.string u2)),(5, .v (.bool true)),(6, .v (.string t)),(7, .v (.string ⟨[c].toArray⟩)),(8, .v (.string t2)),(35, .v (.bool ((t : ByteArray).toList == (⟨#[]⟩ : ByteArray).toList)))] [] (by kernel_rfl) (by kernel_rfl) ?_
      rw [str_nil ht]
      refine sx_run 12 [(2, .v (.string ⟨#[]⟩)),(3, .v (.int .i64 0)),(5, .v (.bool true)),(6, .v (.string t)),(7, .v (.string ⟨[c].toArray⟩)),(8, .v (.string t2)),(47, .v (.bool true))] [] (by kernel_rfl) (by kernel_rfl) ?_
      refine sx_end (by kernel_rfl) ?_
      refine sx_next ?_
      refine sx_cond_t (by kernel_rfl) ?_
      refine sx_seq ?_
      refine sx_region ?_
      refine sx_run 2 [(2, .v (.string ⟨#[]⟩)),(3, .v (.int .i64 6)),(5, .v (.bool true)),(6, .v (.string t)),(7, .v (.string ⟨[c].toArray⟩)),(8, .v (.string t2))] [] (by kernel_rfl) (by kernel_rfl) ?_
      refine sx_end (by kernel_rfl) ?_
      refine sx_next ?_
      refine sx_ret ?_
      refine sx_then_ret ?_
      refine sx_done (v := .tuple #[.string ⟨#[]⟩, .int .i64 6]) (by kernel_rfl) (fun w' hE hΦ => ?_)
      exact ⟨by (rw [parse_bad HM HT.symm HU.symm HT2.symm (Or.inl ht)]) <;> rfl,hE⟩
     ·refine sx_region ?_
      refine sx_run 2 [(2, .v (.string ⟨#[]⟩)),(3, .v (.int .i64 0)),(4, .v (.string u2)),(5, .v (.bool true)),(6, .v (.string t)),(7, .v (.string ⟨[c].toArray⟩)),(8, .v (.string t2)),(35, .v (.bool ((t : ByteArray).toList == (⟨#[]⟩ : ByteArray).toList)))] [] (by kernel_rfl) (by kernel_rfl) ?_
      rw [str_nil ht]
      refine sx_run 12 [(2, .v (.string ⟨#[]⟩)),(3, .v (.int .i64 0)),(5, .v (.bool true)),(6, .v (.string t)),(7, .v (.string ⟨[c].toArray⟩)),(8, .v (.string t2)),(47, .v (.bool true))] [] (by kernel_rfl) (by kernel_rfl) ?_
      refine sx_end (by kernel_rfl) ?_
      refine sx_next ?_
      refine sx_cond_t (by kernel_rfl) ?_
      refine sx_seq ?_
      refine sx_region ?_
      refine sx_run 2 [(2, .v (.string ⟨#[]⟩)),(3, .v (.int .i64 6)),(5, .v (.bool true)),(6, .v (.string t)),(7, .v (.string ⟨[c].toArray⟩)),(8, .v (.string t2))] [] (by kernel_rfl) (by kernel_rfl) ?_
      refine sx_end (by kernel_rfl) ?_
      refine sx_next ?_
      refine sx_ret ?_
      refine sx_then_ret ?_
      refine sx_done (v := .tuple #[.string ⟨#[]⟩, .int .i64 6]) (by kernel_rfl) (fun w' hE hΦ => ?_)
      exact ⟨by (rw [parse_bad HM HT.symm HU.symm HT2.symm (Or.inl ht)]) <;> rfl,hE⟩
  ·by_cases hu : bytes u = []
   ·refine sx_region ?_
    refine sx_run 2 [(2, .v (.string ⟨#[]⟩)),(3, .v (.int .i64 0)),(4, .v (.string u)),(5, .v (.bool true)),(6, .v (.string t)),(7, .v (.string ⟨#[]⟩)),(8, .v (.string ⟨#[]⟩)),(25, .v (.bool (!((u : ByteArray).toList == (⟨#[]⟩ : ByteArray).toList))))] [] (by kernel_rfl) (by kernel_rfl) ?_
    rw [str_nil hu,Bool.not_true]
    refine sx_run 0 [(2, .v (.string ⟨#[]⟩)),(3, .v (.int .i64 0)),(4, .v (.string u)),(5, .v (.bool true)),(6, .v (.string t)),(7, .v (.string ⟨#[]⟩)),(8, .v (.string ⟨#[]⟩)),(25, .v (.bool false))] [] (by kernel_rfl) (by kernel_rfl) ?_
    refine sx_end (by kernel_rfl) ?_
    refine sx_next ?_
    refine sx_cond_f (by kernel_rfl) ?_
    refine sx_skip ?_
    refine sx_next ?_
    refine sx_seq ?_
    refine sx_seq ?_
    refine sx_region ?_
    refine sx_run 2 [(2, .v (.string ⟨#[]⟩)),(3, .v (.int .i64 0)),(4, .v (.string u)),(5, .v (.bool true)),(6, .v (.string t)),(7, .v (.string ⟨#[]⟩)),(8, .v (.string ⟨#[]⟩)),(35, .v (.bool ((t : ByteArray).toList == (⟨#[]⟩ : ByteArray).toList)))] [] (by kernel_rfl) (by kernel_rfl) ?_
    rw [str_not ht]
    refine sx_run 3 [(2, .v (.string ⟨#[]⟩)),(3, .v (.int .i64 0)),(5, .v (.bool true)),(6, .v (.string t)),(7, .v (.string ⟨#[]⟩)),(8, .v (.string ⟨#[]⟩)),(36, .v (.bool false)),(38, .v (.bool (!((u : ByteArray).toList == (⟨#[]⟩ : ByteArray).toList))))] [] (by kernel_rfl) (by kernel_rfl) ?_
    rw [str_nil hu,Bool.not_true]
    refine sx_run 4 [(2, .v (.string ⟨#[]⟩)),(3, .v (.int .i64 0)),(5, .v (.bool true)),(6, .v (.string t)),(7, .v (.string ⟨#[]⟩)),(8, .v (.string ⟨#[]⟩)),(40, .v (.bool false)),(42, .v (.bool (!((⟨#[]⟩ : ByteArray).toList == (⟨#[]⟩ : ByteArray).toList))))] [] (by kernel_rfl) (by kernel_rfl) ?_
    rw [str_self,Bool.not_true]
    refine sx_run 5 [(2, .v (.string ⟨#[]⟩)),(3, .v (.int .i64 0)),(5, .v (.bool true)),(6, .v (.string t)),(7, .v (.string ⟨#[]⟩)),(8, .v (.string ⟨#[]⟩)),(47, .v (.bool false))] [] (by kernel_rfl) (by kernel_rfl) ?_
    refine sx_end (by kernel_rfl) ?_
    refine sx_next ?_
    refine sx_cond_f (by kernel_rfl) ?_
    refine sx_skip ?_
    refine sx_next ?_
    refine sx_seq ?_
    have S1 : (decVal (bytes t) : Int).natAbs < 10 ^ e4 := p4dec dt (by omega)
    refine sx_region ?_
    refine sx_run 1 [(2, .v (.string ⟨#[]⟩)),(3, .v (.int .i64 0)),(5, .v (.bool true)),(6, .v (.string t)),(7, .v (.string ⟨#[]⟩)),(8, .v (.string ⟨#[]⟩)),(48, .v (.string t))] [] (by kernel_rfl) (by kernel_rfl) ?_
    refine sx_call 57 [.string t] 49 shInt _ (by kernel_rfl) (by kernel_rfl) (fun w hE hΦ => (intParse_any t _ dt (p4prs (by omega))).mono (fun _ _ h => post_Int h)) (fun xx => ?_)
    obtain ⟨s22,A22,l22,c22⟩ := xx
    refine sx_run 0 [(2, .v (.string ⟨#[]⟩)),(3, .v (.int .i64 0)),(5, .v (.bool true)),(6, .v (.string t)),(7, .v (.string ⟨#[]⟩)),(8, .v (.string ⟨#[]⟩)),(49, .v (.agg #[.bool s22, .slice A22 l22 c22]))] [] (by kernel_rfl) (by kernel_rfl) ?_
    refine sx_call 58 [.int .i64 1] 50 shInt _ (by kernel_rfl) (by kernel_rfl) (fun w hE hΦ => (New_pos 1 _ (by rw [W64_eq]; omega) (by decide) (by decide)).mono (fun _ _ h => post_Int h)) (fun xx => ?_)
    obtain ⟨s23,A23,l23,c23⟩ := xx
    refine sx_run 4 [(2, .v (.string ⟨#[]⟩)),(3, .v (.int .i64 0)),(5, .v (.bool true)),(6, .v (.string t)),(7, .v (.string ⟨#[]⟩)),(8, .v (.string ⟨#[]⟩)),(9, .p 9 0),(10, .p 10 0)] [(10,63,[.v (.bool s23), .v (.slice A23 l23 c23)]),(9,63,[.v (.bool s22), .v (.slice A22 l22 c22)])] (by kernel_rfl) (by kernel_rfl) ?_
    refine sx_end (by kernel_rfl) ?_
    refine sx_next ?_
    refine sx_seq ?_
    refine sx_seq ?_
    refine sx_region ?_
    refine sx_run 1 [(2, .v (.string ⟨#[]⟩)),(3, .v (.int .i64 0)),(5, .v (.bool true)),(6, .v (.string t)),(8, .v (.string ⟨#[]⟩)),(9, .p 9 0),(10, .p 10 0),(51, .v (.string ⟨#[]⟩))] [(10,63,[.v (.bool s23), .v (.slice A23 l23 c23)]),(9,63,[.v (.bool s22), .v (.slice A22 l22 c22)])] (by kernel_rfl) (by kernel_rfl) ?_
    refine sx_end (by kernel_rfl) ?_
    refine sx_next ?_
    refine sx_block ?_
    refine sx_seq ?_
    refine sx_region ?_
    refine sx_run 1 [(2, .v (.string ⟨#[]⟩)),(3, .v (.int .i64 0)),(5, .v (.bool true)),(6, .v (.string t)),(8, .v (.string ⟨#[]⟩)),(9, .p 9 0),(10, .p 10 0),(51, .v (.string ⟨#[]⟩)),(53, .v (.bool ((⟨#[]⟩ : ByteArray).toList == (⟨#[]⟩ : ByteArray).toList)))] [(10,63,[.v (.bool s23), .v (.slice A23 l23 c23)]),(9,63,[.v (.bool s22), .v (.slice A22 l22 c22)])] (by kernel_rfl) (by kernel_rfl) ?_
    rw [str_self]
    refine sx_run 1 [(2, .v (.string ⟨#[]⟩)),(3, .v (.int .i64 0)),(5, .v (.bool true)),(6, .v (.string t)),(8, .v (.string ⟨#[]⟩)),(9, .p 9 0),(10, .p 10 0),(51, .v (.string ⟨#[]⟩)),(52, .v (.bool true))] [(10,63,[.v (.bool s23), .v (.slice A23 l23 c23)]),(9,63,[.v (.bool s22), .v (.slice A22 l22 c22)])] (by kernel_rfl) (by kernel_rfl) ?_
    refine sx_end (by kernel_rfl) ?_
    refine sx_next ?_
    refine sx_cond_t (by kernel_rfl) ?_
    refine sx_skip ?_
    refine sx_out ?_
    refine sx_next ?_
    refine sx_seq ?_
    refine sx_seq ?_
    refine sx_region ?_
    refine sx_run 1 [(2, .v (.string ⟨#[]⟩)),(3, .v (.int .i64 0)),(5, .v (.bool true)),(9, .p 9 0),(10, .p 10 0),(69, .v (.agg #[.bool s23, .slice A23 l23 c23]))] [(10,63,[.v (.bool s23), .v (.slice A23 l23 c23)]),(9,63,[.v (.bool s22), .v (.slice A22 l22 c22)])] (by kernel_rfl) (by kernel_rfl) ?_
    refine sx_call 60 [.agg #[.bool s23, .slice A23 l23 c23]] 70 (fun _ : Unit => .bool false) _ (by kernel_rfl) (by kernel_rfl) (fun w hE hΦ => (IsZero_any _ (1) _ hΦ.2).mono (fun _ _ h => post_val h (by rw [decide_eq_false (p := (1) = 0) (by decide)]))) (fun xx => ?_)
    refine sx_run 0 [(2, .v (.string ⟨#[]⟩)),(3, .v (.int .i64 0)),(5, .v (.bool true)),(9, .p 9 0),(10, .p 10 0),(70, .v (.bool false))] [(10,63,[.v (.bool s23), .v (.slice A23 l23 c23)]),(9,63,[.v (.bool s22), .v (.slice A22 l22 c22)])] (by kernel_rfl) (by kernel_rfl) ?_
    refine sx_end (by kernel_rfl) ?_
    refine sx_next ?_
    refine sx_cond_f (by kernel_rfl) ?_
    refine sx_skip ?_
    refine sx_next ?_
    refine sx_seq ?_
    refine sx_seq ?_
    refine sx_region ?_
    refine sx_run 1 [(2, .v (.string ⟨#[]⟩)),(3, .v (.int .i64 0)),(9, .p 9 0),(10, .p 10 0),(71, .v (.bool true))] [(10,63,[.v (.bool s23), .v (.slice A23 l23 c23)]),(9,63,[.v (.bool s22), .v (.slice A22 l22 c22)])] (by kernel_rfl) (by kernel_rfl) ?_
    refine sx_end (by kernel_rfl) ?_
    refine sx_next ?_
    refine sx_cond_t (by kernel_rfl) ?_
    refine sx_region ?_
    refine sx_run 1 [(2, .v (.string ⟨#[]⟩)),(3, .v (.int .i64 0)),(9, .p 9 0),(10, .p 10 0),(72, .v (.agg #[.bool s22, .slice A22 l22 c22]))] [(10,63,[.v (.bool s23), .v (.slice A23 l23 c23)]),(9,63,[.v (.bool s22), .v (.slice A22 l22 c22)])] (by kernel_rfl) (by kernel_rfl) ?_
    refine sx_call 61 [.agg #[.bool s22, .slice A22 l22 c22]] 73 shInt _ (by kernel_rfl) (by kernel_rfl) (fun w hE hΦ => (Neg_any _ ((decVal (bytes t) : Int)) _ hΦ.1.1.2).mono (fun _ _ h => post_Int h)) (fun xx => ?_)
    obtain ⟨s24,A24,l24,c24⟩ := xx
    refine sx_run 1 [(2, .v (.string ⟨#[]⟩)),(3, .v (.int .i64 0)),(9, .p 9 0),(10, .p 10 0)] [(10,63,[.v (.bool s23), .v (.slice A23 l23 c23)]),(9,63,[.v (.bool s24), .v (.slice A24 l24 c24)])] (by kernel_rfl) (by kernel_rfl) ?_
    refine sx_end (by kernel_rfl) ?_
    refine sx_next ?_
    refine sx_seq ?_
    refine sx_region ?_
    refine sx_run 2 [(2, .v (.string ⟨#[]⟩)),(3, .v (.int .i64 0)),(74, .v (.agg #[.bool s24, .slice A24 l24 c24])),(75, .v (.agg #[.bool s23, .slice A23 l23 c23]))] [] (by kernel_rfl) (by kernel_rfl) ?_
    refine sx_call 62 [.agg #[.bool s24, .slice A24 l24 c24], .agg #[.bool s23, .slice A23 l23 c23]] 76 shRat _ (by kernel_rfl) (by kernel_rfl) (fun w hE hΦ => (Fraction_any _ _ (-(decVal (bytes t) : Int)) (1) _ hΦ.1.1.1.1.1.1 hΦ.2 hΦ.1.1.2 (p4fit (p4neg S1)) (p4fit p4one) (GcdOk.words (p4w (p4neg S1)) (p4w p4one)) (p4lt p4one) (by decide)).mono (fun _ _ h => post_Rat h)) (fun xx => ?_)
    obtain ⟨s25,A25,l25,c25,t25,B25,m25,d25⟩ := xx
    refine sx_run 0 [(2, .v (.string ⟨#[]⟩)),(3, .v (.int .i64 0)),(76, .v (.agg #[.bool s25, .slice A25 l25 c25, .bool t25, .slice B25 m25 d25]))] [] (by kernel_rfl) (by kernel_rfl) ?_
    refine sx_call 63 [.agg #[.bool s25, .slice A25 l25 c25, .bool t25, .slice B25 m25 d25]] 77 (fun _ : Unit => .string ⟨(ratText (Rat.divInt (-(decVal (bytes t) : Int)) (1))).toArray⟩) _ (by kernel_rfl) (by kernel_rfl) (fun w hE hΦ => (RString_any _ (Rat.divInt (-(decVal (bytes t) : Int)) (1)) _ hΦ.1.1.1.1.1.1.1 hΦ.2 (p4prt (by decide) (p4neg S1) p4one).1 (p4prt (by decide) (p4neg S1) p4one).2).mono (fun _ _ h => post_val h rfl)) (fun xx => ?_)
    refine sx_run 2 [(2, .v (.string ⟨(ratText (Rat.divInt (-(decVal (bytes t) : Int)) (1))).toArray⟩)),(3, .v (.int .i64 0))] [] (by kernel_rfl) (by kernel_rfl) ?_
    refine sx_end (by kernel_rfl) ?_
    refine sx_next ?_
    refine sx_ret ?_
    refine sx_done (v := .tuple #[.string ⟨(ratText (Rat.divInt (-(decVal (bytes t) : Int)) (1))).toArray⟩, .int .i64 0]) (by kernel_rfl) (fun w' hE hΦ => ?_)
    exact ⟨by (rw [parse_int HM HT.symm (HU.symm.trans hu) ht]) <;> rfl,hE⟩
   ·obtain ⟨c,v,rfl⟩ := str_cons hu
    rw [bytes_of (c :: v)] at HU lt
    have lv : v.length ≤ 400 := by rw [List.length_cons] at lt; omega
    have h8v : (⟨(v).toArray⟩ : ByteArray).size ≤ 1099511627776 := by rw [← bytes_length,bytes_of]; omega
    refine sx_region ?_
    refine sx_run 2 [(2, .v (.string ⟨#[]⟩)),(3, .v (.int .i64 0)),(4, .v (.string ⟨(c :: v).toArray⟩)),(5, .v (.bool true)),(6, .v (.string t)),(7, .v (.string ⟨#[]⟩)),(8, .v (.string ⟨#[]⟩)),(25, .v (.bool (!((⟨(c :: v).toArray⟩ : ByteArray).toList == (⟨#[]⟩ : ByteArray).toList))))] [] (by kernel_rfl) (by kernel_rfl) ?_
    rw [str_not (str_cons_ne c v),Bool.not_false]
    refine sx_run 0 [(2, .v (.string ⟨#[]⟩)),(3, .v (.int .i64 0)),(4, .v (.string ⟨(c :: v).toArray⟩)),(5, .v (.bool true)),(6, .v (.string t)),(7, .v (.string ⟨#[]⟩)),(8, .v (.string ⟨#[]⟩)),(25, .v (.bool true))] [] (by kernel_rfl) (by kernel_rfl) ?_
    refine sx_end (by kernel_rfl) ?_
    refine sx_next ?_
    refine sx_cond_t (by kernel_rfl) ?_
    refine sx_seq ?_
    refine sx_region ?_
    refine sx_run 1 [(2, .v (.string ⟨#[]⟩)),(3, .v (.int .i64 0)),(4, .v (.string ⟨(c :: v).toArray⟩)),(5, .v (.bool true)),(6, .v (.string t)),(7, .v (.string ⟨#[]⟩)),(8, .v (.string ⟨#[]⟩)),(26, .v (.string ⟨(c :: v).toArray⟩))] [] (by kernel_rfl) (by kernel_rfl) ?_
    refine sx_look 27 (.string ⟨[c].toArray⟩) (by kernel_rfl) (by kernel_rfl) (by kernel_rfl) (by kernel_rfl) (by kernel_rfl) (by kernel_rfl) (fun w hE hΦ => run_strslice 0 1 (t := 9) (x := (Operand.tmp 26)) (lo := none) (hi := (some (Operand.const (Value.int IntKind.i64 1)))) (by kernel_rfl) (by kernel_rfl) (by kernel_rfl) (Or.inl ⟨rfl,rfl⟩) (Or.inr rfl) (by omega) (str_cons_size c v) (str_first c v)) ?_
    refine sx_run 1 [(2, .v (.string ⟨#[]⟩)),(3, .v (.int .i64 0)),(4, .v (.string ⟨(c :: v).toArray⟩)),(5, .v (.bool true)),(6, .v (.string t)),(7, .v (.string ⟨[c].toArray⟩)),(8, .v (.string ⟨#[]⟩))] [] (by kernel_rfl) (by kernel_rfl) ?_
    refine sx_end (by kernel_rfl) ?_
    refine sx_next ?_
    refine sx_region ?_
    refine sx_run 1 [(2, .v (.string ⟨#[]⟩)),(3, .v (.int .i64 0)),(4, .v (.string ⟨(c :: v).toArray⟩)),(5, .v (.bool true)),(6, .v (.string t)),(7, .v (.string ⟨[c].toArray⟩)),(8, .v (.string ⟨#[]⟩)),(29, .v (.string ⟨(c :: v).toArray⟩))] [] (by kernel_rfl) (by kernel_rfl) ?_
    refine sx_look 30 (.string ⟨(v).toArray⟩) (by kernel_rfl) (by kernel_rfl) (by kernel_rfl) (by kernel_rfl) (by kernel_rfl) (by kernel_rfl) (fun w hE hΦ => run_strslice 1 _ (t := 9) (x := (Operand.tmp 29)) (lo := (some (Operand.const (Value.int IntKind.i64 1)))) (hi := none) (by kernel_rfl) (by kernel_rfl) (by kernel_rfl) (Or.inr rfl) (Or.inl ⟨rfl,rfl⟩) (str_cons_size c v) (Nat.le_refl _) (str_rest c v)) ?_
    refine sx_run 0 [(2, .v (.string ⟨#[]⟩)),(3, .v (.int .i64 0)),(4, .v (.string ⟨(c :: v).toArray⟩)),(5, .v (.bool true)),(6, .v (.string t)),(7, .v (.string ⟨[c].toArray⟩)),(8, .v (.string ⟨#[]⟩)),(30, .v (.string ⟨(v).toArray⟩))] [] (by kernel_rfl) (by kernel_rfl) ?_
    refine sx_call 56 [.string ⟨(v).toArray⟩] 31 (fun x : ByteArray × ByteArray => .tuple #[.string x.1, .string x.2]) _ (by kernel_rfl) (by kernel_rfl) (fun w hE hΦ => (cutDigits_any ⟨(v).toArray⟩ _ h8v).mono (fun _ _ h => post_Cut h)) (fun xx => ?_)
    obtain ⟨t2,u2⟩ := xx
    refine sx_run 5 [(2, .v (.string ⟨#[]⟩)),(3, .v (.int .i64 0)),(4, .v (.string u2)),(5, .v (.bool true)),(6, .v (.string t)),(7, .v (.string ⟨[c].toArray⟩)),(8, .v (.string t2))] [] (by kernel_rfl) (by kernel_rfl) ?_
    refine sx_end (by kernel_rfl) ?_
    refine sx_next ?_
    refine sx_seq ?_
    refine sx_seq ?_
    refine SXc.know (p := bytes t2 = v.takeWhile isDig ∧ bytes u2 = v.dropWhile isDig) (fun w _ hΦ => by have h := hΦ.2; rwa [bytes_of] at h) (fun HC2 => ?_)
    obtain ⟨HT2,HU2⟩ := HC2
    have dt2 : (bytes t2).all isDig = true := by rw [HT2]; exact all_takeWhile _
    have lt2 : (bytes t2).length ≤ v.length := by rw [HT2]; exact (List.takeWhile_prefix isDig).length_le
    by_cases ht2 : bytes t2 = []
    ·by_cases hu2 : bytes u2 = []
     ·refine sx_region ?_
      refine sx_run 2 [(2, .v (.string ⟨#[]⟩)),(3, .v (.int .i64 0)),(4, .v (.string u2)),(5, .v (.bool true)),(6, .v (.string t)),(7, .v (.string ⟨[c].toArray⟩)),(8, .v (.string t2)),(35, .v (.bool ((t : ByteArray).toList == (⟨#[]⟩ : ByteArray).toList)))] [] (by kernel_rfl) (by kernel_rfl) ?_
      rw [str_not ht]
      refine sx_run 3 [(2, .v (.string ⟨#[]⟩)),(3, .v (.int .i64 0)),(5, .v (.bool true)),(6, .v (.string t)),(7, .v (.string ⟨[c].toArray⟩)),(8, .v (.string t2)),(36, .v (.bool false)),(38, .v (.bool (!((u2 : ByteArray).toList == (⟨#[]⟩ : ByteArray).toList))))] [] (by kernel_rfl) (by kernel_rfl) ?_
      rw [str_nil hu2,Bool.not_true]
      refine sx_run 4 [(2, .v (.string ⟨#[]⟩)),(3, .v (.int .i64 0)),(5, .v (.bool true)),(6, .v (.string t)),(7, .v (.string ⟨[c].toArray⟩)),(8, .v (.string t2)),(40, .v (.bool false)),(42, .v (.bool (!((⟨[c].toArray⟩ : ByteArray).toList == (⟨#[]⟩ : ByteArray).toList))))] [] (by kernel_rfl) (by kernel_rfl) ?_
      rw [str_not (str_cons_ne c []),Bool.not_false]
      refine sx_run 3 [(2, .v (.string ⟨#[]⟩)),(3, .v (.int .i64 0)),(5, .v (.bool true)),(6, .v (.string t)),(7, .v (.string ⟨[c].toArray⟩)),(8, .v (.string t2)),(40, .v (.bool false)),(43, .v (.bool true)),(45, .v (.bool ((t2 : ByteArray).toList == (⟨#[]⟩ : ByteArray).toList)))] [] (by kernel_rfl) (by kernel_rfl) ?_
      rw [str_nil ht2]
      refine sx_run 2 [(2, .v (.string ⟨#[]⟩)),(3, .v (.int .i64 0)),(5, .v (.bool true)),(6, .v (.string t)),(7, .v (.string ⟨[c].toArray⟩)),(8, .v (.string t2)),(47, .v (.bool true))] [] (by kernel_rfl) (by kernel_rfl) ?_
      refine sx_end (by kernel_rfl) ?_
      refine sx_next ?_
      refine sx_cond_t (by kernel_rfl) ?_
      refine sx_seq ?_
      refine sx_region ?_
      refine sx_run 2 [(2, .v (.string ⟨#[]⟩)),(3, .v (.int .i64 6)),(5, .v (.bool true)),(6, .v (.string t)),(7, .v (.string ⟨[c].toArray⟩)),(8, .v (.string t2))] [] (by kernel_rfl) (by kernel_rfl) ?_
      refine sx_end (by kernel_rfl) ?_
      refine sx_next ?_
      refine sx_ret ?_
      refine sx_then_ret ?_
      refine sx_done (v := .tuple #[.string ⟨#[]⟩, .int .i64 6]) (by kernel_rfl) (fun w' hE hΦ => ?_)
      exact ⟨by (rw [parse_bad HM HT.symm HU.symm HT2.symm (Or.inr (Or.inl ht2))]) <;> rfl,hE⟩
     ·refine sx_region ?_
      refine sx_run 2 [(2, .v (.string ⟨#[]⟩)),(3, .v (.int .i64 0)),(4, .v (.string u2)),(5, .v (.bool true)),(6, .v (.string t)),(7, .v (.string ⟨[c].toArray⟩)),(8, .v (.string t2)),(35, .v (.bool ((t : ByteArray).toList == (⟨#[]⟩ : ByteArray).toList)))] [] (by kernel_rfl) (by kernel_rfl) ?_
      rw [str_not ht]
      refine sx_run 3 [(2, .v (.string ⟨#[]⟩)),(3, .v (.int .i64 0)),(5, .v (.bool true)),(6, .v (.string t)),(7, .v (.string ⟨[c].toArray⟩)),(8, .v (.string t2)),(36, .v (.bool false)),(38, .v (.bool (!((u2 : ByteArray).toList == (⟨#[]⟩ : ByteArray).toList))))] [] (by kernel_rfl) (by kernel_rfl) ?_
      rw [str_not hu2,Bool.not_false]
      refine sx_run 9 [(2, .v (.string ⟨#[]⟩)),(3, .v (.int .i64 0)),(5, .v (.bool true)),(6, .v (.string t)),(7, .v (.string ⟨[c].toArray⟩)),(8, .v (.string t2)),(47, .v (.bool true))] [] (by kernel_rfl) (by kernel_rfl) ?_
      refine sx_end (by kernel_rfl) ?_
      refine sx_next ?_
      refine sx_cond_t (by kernel_rfl) ?_
      refine sx_seq ?_
      refine sx_region ?_
      refine sx_run 2 [(2, .v (.string ⟨#[]⟩)),(3, .v (.int .i64 6)),(5, .v (.bool true)),(6, .v (.string t)),(7, .v (.string ⟨[c].toArray⟩)),(8, .v (.string t2))] [] (by kernel_rfl) (by kernel_rfl) ?_
      refine sx_end (by kernel_rfl) ?_
      refine sx_next ?_
      refine sx_ret ?_
      refine sx_then_ret ?_
      refine sx_done (v := .tuple #[.string ⟨#[]⟩, .int .i64 6]) (by kernel_rfl) (fun w' hE hΦ => ?_)
      exact ⟨by (rw [parse_bad HM HT.symm HU.symm HT2.symm (Or.inr (Or.inl ht2))]) <;> rfl,hE⟩
    ·by_cases hu2 : bytes u2 = []
     ·refine sx_region ?_
      refine sx_run 2 [(2, .v (.string ⟨#[]⟩)),(3, .v (.int .i64 0)),(4, .v (.string u2)),(5, .v (.bool true)),(6, .v (.string t)),(7, .v (.string ⟨[c].toArray⟩)),(8, .v (.string t2)),(35, .v (.bool ((t : ByteArray).toList == (⟨#[]⟩ : ByteArray).toList)))] [] (by kernel_rfl) (by kernel_rfl) ?_
      rw [str_not ht]
      refine sx_run 3 [(2, .v (.string ⟨#[]⟩)),(3, .v (.int .i64 0)),(5, .v (.bool true)),(6, .v (.string t)),(7, .v (.string ⟨[c].toArray⟩)),(8, .v (.string t2)),(36, .v (.bool false)),(38, .v (.bool (!((u2 : ByteArray).toList == (⟨#[]⟩ : ByteArray).toList))))] [] (by kernel_rfl) (by kernel_rfl) ?_
      rw [str_nil hu2,Bool.not_true]
      refine sx_run 4 [(2, .v (.string ⟨#[]⟩)),(3, .v (.int .i64 0)),(5, .v (.bool true)),(6, .v (.string t)),(7, .v (.string ⟨[c].toArray⟩)),(8, .v (.string t2)),(40, .v (.bool false)),(42, .v (.bool (!((⟨[c].toArray⟩ : ByteArray).toList == (⟨#[]⟩ : ByteArray).toList))))] [] (by kernel_rfl) (by kernel_rfl) ?_
      rw [str_not (str_cons_ne c []),Bool.not_false]
      refine sx_run 3 [(2, .v (.string ⟨#[]⟩)),(3, .v (.int .i64 0)),(5, .v (.bool true)),(6, .v (.string t)),(7, .v (.string ⟨[c].toArray⟩)),(8, .v (.string t2)),(40, .v (.bool false)),(43, .v (.bool true)),(45, .v (.bool ((t2 : ByteArray).toList == (⟨#[]⟩ : ByteArray).toList)))] [] (by kernel_rfl) (by kernel_rfl) ?_
      rw [str_not ht2]
      refine sx_run 2 [(2, .v (.string ⟨#[]⟩)),(3, .v (.int .i64 0)),(5, .v (.bool true)),(6, .v (.string t)),(7, .v (.string ⟨[c].toArray⟩)),(8, .v (.string t2)),(47, .v (.bool false))] [] (by kernel_rfl) (by kernel_rfl) ?_
      refine sx_end (by kernel_rfl) ?_
      refine sx_next ?_
      refine sx_cond_f (by kernel_rfl) ?_
      refine sx_skip ?_
      refine sx_next ?_
      refine sx_seq ?_
      have S1 : (decVal (bytes t) : Int).natAbs < 10 ^ e4 := p4dec dt (by omega)
      rw [List.length_cons] at lt
      have S2 : (decVal (bytes t2) : Int).natAbs < 10 ^ e4 := p4dec dt2 (by omega)
      have S3 : (decVal (bytes t ++ bytes t2) : Int).natAbs < 10 ^ e4 := p4dec (by rw [List.all_append,dt,dt2]; rfl) (by rw [List.length_append]; omega)
      have SK : ((10 ^ (bytes t2).length : Nat) : Int).natAbs < 10 ^ e4 := p4pow (by omega)
      refine sx_region ?_
      refine sx_run 1 [(2, .v (.string ⟨#[]⟩)),(3, .v (.int .i64 0)),(5, .v (.bool true)),(6, .v (.string t)),(7, .v (.string ⟨[c].toArray⟩)),(8, .v (.string t2)),(48, .v (.string t))] [] (by kernel_rfl) (by kernel_rfl) ?_
      refine sx_call 57 [.string t] 49 shInt _ (by kernel_rfl) (by kernel_rfl) (fun w hE hΦ => (intParse_any t _ dt (p4prs (by omega))).mono (fun _ _ h => post_Int h)) (fun xx => ?_)
      obtain ⟨s26,A26,l26,c26⟩ := xx
      refine sx_run 0 [(2, .v (.string ⟨#[]⟩)),(3, .v (.int .i64 0)),(5, .v (.bool true)),(6, .v (.string t)),(7, .v (.string ⟨[c].toArray⟩)),(8, .v (.string t2)),(49, .v (.agg #[.bool s26, .slice A26 l26 c26]))] [] (by kernel_rfl) (by kernel_rfl) ?_
      refine sx_call 58 [.int .i64 1] 50 shInt _ (by kernel_rfl) (by kernel_rfl) (fun w hE hΦ => (New_pos 1 _ (by rw [W64_eq]; omega) (by decide) (by decide)).mono (fun _ _ h => post_Int h)) (fun xx => ?_)
      obtain ⟨s27,A27,l27,c27⟩ := xx
      refine sx_run 4 [(2, .v (.string ⟨#[]⟩)),(3, .v (.int .i64 0)),(5, .v (.bool true)),(6, .v (.string t)),(7, .v (.string ⟨[c].toArray⟩)),(8, .v (.string t2)),(9, .p 9 0),(10, .p 10 0)] [(10,63,[.v (.bool s27), .v (.slice A27 l27 c27)]),(9,63,[.v (.bool s26), .v (.slice A26 l26 c26)])] (by kernel_rfl) (by kernel_rfl) ?_
      refine sx_end (by kernel_rfl) ?_
      refine sx_next ?_
      refine sx_seq ?_
      refine sx_seq ?_
      refine sx_region ?_
      refine sx_run 1 [(2, .v (.string ⟨#[]⟩)),(3, .v (.int .i64 0)),(5, .v (.bool true)),(6, .v (.string t)),(8, .v (.string t2)),(9, .p 9 0),(10, .p 10 0),(51, .v (.string ⟨[c].toArray⟩))] [(10,63,[.v (.bool s27), .v (.slice A27 l27 c27)]),(9,63,[.v (.bool s26), .v (.slice A26 l26 c26)])] (by kernel_rfl) (by kernel_rfl) ?_
      refine sx_end (by kernel_rfl) ?_
      refine sx_next ?_
      refine sx_block ?_
      refine sx_seq ?_
      refine sx_region ?_
      refine sx_run 1 [(2, .v (.string ⟨#[]⟩)),(3, .v (.int .i64 0)),(5, .v (.bool true)),(6, .v (.string t)),(8, .v (.string t2)),(9, .p 9 0),(10, .p 10 0),(51, .v (.string ⟨[c].toArray⟩)),(53, .v (.bool ((⟨[c].toArray⟩ : ByteArray).toList == (⟨#[]⟩ : ByteArray).toList)))] [(10,63,[.v (.bool s27), .v (.slice A27 l27 c27)]),(9,63,[.v (.bool s26), .v (.slice A26 l26 c26)])] (by kernel_rfl) (by kernel_rfl) ?_
      rw [str_not (str_cons_ne c [])]
      refine sx_run 1 [(2, .v (.string ⟨#[]⟩)),(3, .v (.int .i64 0)),(5, .v (.bool true)),(6, .v (.string t)),(8, .v (.string t2)),(9, .p 9 0),(10, .p 10 0),(51, .v (.string ⟨[c].toArray⟩)),(52, .v (.bool false))] [(10,63,[.v (.bool s27), .v (.slice A27 l27 c27)]),(9,63,[.v (.bool s26), .v (.slice A26 l26 c26)])] (by kernel_rfl) (by kernel_rfl) ?_
      refine sx_end (by kernel_rfl) ?_
      refine sx_next ?_
      refine sx_cond_f (by kernel_rfl) ?_
      refine sx_seq ?_
      by_cases h47 : c = 47
      ·subst h47
       refine sx_region ?_
       refine sx_run 1 [(2, .v (.string ⟨#[]⟩)),(3, .v (.int .i64 0)),(5, .v (.bool true)),(6, .v (.string t)),(8, .v (.string t2)),(9, .p 9 0),(10, .p 10 0),(51, .v (.string ⟨[47].toArray⟩)),(55, .v (.bool ((⟨[47].toArray⟩ : ByteArray).toList == (⟨#[47]⟩ : ByteArray).toList)))] [(10,63,[.v (.bool s27), .v (.slice A27 l27 c27)]),(9,63,[.v (.bool s26), .v (.slice A26 l26 c26)])] (by kernel_rfl) (by kernel_rfl) ?_
       rw [str_self]
       refine sx_run 1 [(2, .v (.string ⟨#[]⟩)),(3, .v (.int .i64 0)),(5, .v (.bool true)),(6, .v (.string t)),(8, .v (.string t2)),(9, .p 9 0),(10, .p 10 0),(51, .v (.string ⟨[47].toArray⟩)),(54, .v (.bool true))] [(10,63,[.v (.bool s27), .v (.slice A27 l27 c27)]),(9,63,[.v (.bool s26), .v (.slice A26 l26 c26)])] (by kernel_rfl) (by kernel_rfl) ?_
       refine sx_end (by kernel_rfl) ?_
       refine sx_next ?_
       refine sx_cond_t (by kernel_rfl) ?_
       refine sx_region ?_
       refine sx_run 1 [(2, .v (.string ⟨#[]⟩)),(3, .v (.int .i64 0)),(5, .v (.bool true)),(9, .p 9 0),(10, .p 10 0),(56, .v (.string t2))] [(10,63,[.v (.bool s27), .v (.slice A27 l27 c27)]),(9,63,[.v (.bool s26), .v (.slice A26 l26 c26)])] (by kernel_rfl) (by kernel_rfl) ?_
       refine sx_call 57 [.string t2] 57 shInt _ (by kernel_rfl) (by kernel_rfl) (fun w hE hΦ => (intParse_any t2 _ dt2 (p4prs (by omega))).mono (fun _ _ h => post_Int h)) (fun xx => ?_)
       obtain ⟨s28,A28,l28,c28⟩ := xx
       refine sx_run 1 [(2, .v (.string ⟨#[]⟩)),(3, .v (.int .i64 0)),(5, .v (.bool true)),(9, .p 9 0),(10, .p 10 0)] [(10,63,[.v (.bool s28), .v (.slice A28 l28 c28)]),(9,63,[.v (.bool s26), .v (.slice A26 l26 c26)])] (by kernel_rfl) (by kernel_rfl) ?_
       refine sx_end (by kernel_rfl) ?_
       refine sx_out ?_
       refine sx_next ?_
       refine sx_seq ?_
       refine sx_seq ?_
       refine sx_region ?_
       refine sx_run 1 [(2, .v (.string ⟨#[]⟩)),(3, .v (.int .i64 0)),(5, .v (.bool true)),(9, .p 9 0),(10, .p 10 0),(69, .v (.agg #[.bool s28, .slice A28 l28 c28]))] [(10,63,[.v (.bool s28), .v (.slice A28 l28 c28)]),(9,63,[.v (.bool s26), .v (.slice A26 l26 c26)])] (by kernel_rfl) (by kernel_rfl) ?_
       by_cases hz29 : ((decVal (bytes t2) : Int)) = 0
       ·refine sx_call 60 [.agg #[.bool s28, .slice A28 l28 c28]] 70 (fun _ : Unit => .bool true) _ (by kernel_rfl) (by kernel_rfl) (fun w hE hΦ => (IsZero_any _ ((decVal (bytes t2) : Int)) _ hΦ.2).mono (fun _ _ h => post_val h (by rw [decide_eq_true (p := ((decVal (bytes t2) : Int)) = 0) hz29]))) (fun xx => ?_)
        refine sx_run 0 [(2, .v (.string ⟨#[]⟩)),(3, .v (.int .i64 0)),(5, .v (.bool true)),(9, .p 9 0),(10, .p 10 0),(70, .v (.bool true))] [(10,63,[.v (.bool s28), .v (.slice A28 l28 c28)]),(9,63,[.v (.bool s26), .v (.slice A26 l26 c26)])] (by kernel_rfl) (by kernel_rfl) ?_
        refine sx_end (by kernel_rfl) ?_
        refine sx_next ?_
        refine sx_cond_t (by kernel_rfl) ?_
        refine sx_seq ?_
        refine sx_region ?_
        refine sx_run 2 [(2, .v (.string ⟨#[]⟩)),(3, .v (.int .i64 5)),(5, .v (.bool true)),(9, .p 9 0),(10, .p 10 0)] [(10,63,[.v (.bool s28), .v (.slice A28 l28 c28)]),(9,63,[.v (.bool s26), .v (.slice A26 l26 c26)])] (by kernel_rfl) (by kernel_rfl) ?_
        refine sx_end (by kernel_rfl) ?_
        refine sx_next ?_
        refine sx_ret ?_
        refine sx_then_ret ?_
        refine sx_done (v := .tuple #[.string ⟨#[]⟩, .int .i64 5]) (by kernel_rfl) (fun w' hE hΦ => ?_)
        exact ⟨by (rw [parse_zero HM HT.symm HU.symm HT2.symm (by rintro (h | h | h); exact ht h; exact ht2 h; rw [← HU2] at h; exact h hu2) (p4z hz29)]) <;> rfl,hE⟩
       ·refine sx_call 60 [.agg #[.bool s28, .slice A28 l28 c28]] 70 (fun _ : Unit => .bool false) _ (by kernel_rfl) (by kernel_rfl) (fun w hE hΦ => (IsZero_any _ ((decVal (bytes t2) : Int)) _ hΦ.2).mono (fun _ _ h => post_val h (by rw [decide_eq_false (p := ((decVal (bytes t2) : Int)) = 0) hz29]))) (fun xx => ?_)
        refine sx_run 0 [(2, .v (.string ⟨#[]⟩)),(3, .v (.int .i64 0)),(5, .v (.bool true)),(9, .p 9 0),(10, .p 10 0),(70, .v (.bool false))] [(10,63,[.v (.bool s28), .v (.slice A28 l28 c28)]),(9,63,[.v (.bool s26), .v (.slice A26 l26 c26)])] (by kernel_rfl) (by kernel_rfl) ?_
        refine sx_end (by kernel_rfl) ?_
        refine sx_next ?_
        refine sx_cond_f (by kernel_rfl) ?_
        refine sx_skip ?_
        refine sx_next ?_
        refine sx_seq ?_
        refine sx_seq ?_
        refine sx_region ?_
        refine sx_run 1 [(2, .v (.string ⟨#[]⟩)),(3, .v (.int .i64 0)),(9, .p 9 0),(10, .p 10 0),(71, .v (.bool true))] [(10,63,[.v (.bool s28), .v (.slice A28 l28 c28)]),(9,63,[.v (.bool s26), .v (.slice A26 l26 c26)])] (by kernel_rfl) (by kernel_rfl) ?_
        refine sx_end (by kernel_rfl) ?_
        refine sx_next ?_
        refine sx_cond_t (by kernel_rfl) ?_
        refine sx_region ?_
        refine sx_run 1 [(2, .v (.string ⟨#[]⟩)),(3, .v (.int .i64 0)),(9, .p 9 0),(10, .p 10 0),(72, .v (.agg #[.bool s26, .slice A26 l26 c26]))] [(10,63,[.v (.bool s28), .v (.slice A28 l28 c28)]),(9,63,[.v (.bool s26), .v (.slice A26 l26 c26)])] (by kernel_rfl) (by kernel_rfl) ?_
        refine sx_call 61 [.agg #[.bool s26, .slice A26 l26 c26]] 73 shInt _ (by kernel_rfl) (by kernel_rfl) (fun w hE hΦ => (Neg_any _ ((decVal (bytes t) : Int)) _ hΦ.1.1.1.2).mono (fun _ _ h => post_Int h)) (fun xx => ?_)
        obtain ⟨s30,A30,l30,c30⟩ := xx
        refine sx_run 1 [(2, .v (.string ⟨#[]⟩)),(3, .v (.int .i64 0)),(9, .p 9 0),(10, .p 10 0)] [(10,63,[.v (.bool s28), .v (.slice A28 l28 c28)]),(9,63,[.v (.bool s30), .v (.slice A30 l30 c30)])] (by kernel_rfl) (by kernel_rfl) ?_
        refine sx_end (by kernel_rfl) ?_
        refine sx_next ?_
        refine sx_seq ?_
        refine sx_region ?_
        refine sx_run 2 [(2, .v (.string ⟨#[]⟩)),(3, .v (.int .i64 0)),(74, .v (.agg #[.bool s30, .slice A30 l30 c30])),(75, .v (.agg #[.bool s28, .slice A28 l28 c28]))] [] (by kernel_rfl) (by kernel_rfl) ?_
        refine sx_call 62 [.agg #[.bool s30, .slice A30 l30 c30], .agg #[.bool s28, .slice A28 l28 c28]] 76 shRat _ (by kernel_rfl) (by kernel_rfl) (fun w hE hΦ => (Fraction_any _ _ (-(decVal (bytes t) : Int)) ((decVal (bytes t2) : Int)) _ hΦ.1.1.1.1.1.1.1.1 hΦ.2 hΦ.1.1.2 (p4fit (p4neg S1)) (p4fit S2) (GcdOk.words (p4w (p4neg S1)) (p4w S2)) (p4lt S2) hz29).mono (fun _ _ h => post_Rat h)) (fun xx => ?_)
        obtain ⟨s31,A31,l31,c31,t31,B31,m31,d31⟩ := xx
        refine sx_run 0 [(2, .v (.string ⟨#[]⟩)),(3, .v (.int .i64 0)),(76, .v (.agg #[.bool s31, .slice A31 l31 c31, .bool t31, .slice B31 m31 d31]))] [] (by kernel_rfl) (by kernel_rfl) ?_
        refine sx_call 63 [.agg #[.bool s31, .slice A31 l31 c31, .bool t31, .slice B31 m31 d31]] 77 (fun _ : Unit => .string ⟨(ratText (Rat.divInt (-(decVal (bytes t) : Int)) ((decVal (bytes t2) : Int)))).toArray⟩) _ (by kernel_rfl) (by kernel_rfl) (fun w hE hΦ => (RString_any _ (Rat.divInt (-(decVal (bytes t) : Int)) ((decVal (bytes t2) : Int))) _ hΦ.1.1.1.1.1.1.1.1.1 hΦ.2 (p4prt hz29 (p4neg S1) S2).1 (p4prt hz29 (p4neg S1) S2).2).mono (fun _ _ h => post_val h rfl)) (fun xx => ?_)
        refine sx_run 2 [(2, .v (.string ⟨(ratText (Rat.divInt (-(decVal (bytes t) : Int)) ((decVal (bytes t2) : Int)))).toArray⟩)),(3, .v (.int .i64 0))] [] (by kernel_rfl) (by kernel_rfl) ?_
        refine sx_end (by kernel_rfl) ?_
        refine sx_next ?_
        refine sx_ret ?_
        refine sx_done (v := .tuple #[.string ⟨(ratText (Rat.divInt (-(decVal (bytes t) : Int)) ((decVal (bytes t2) : Int)))).toArray⟩, .int .i64 0]) (by kernel_rfl) (fun w' hE hΦ => ?_)
        exact ⟨by (rw [parse_frac HM HT.symm HU.symm HT2.symm (by rintro (h | h | h); exact ht h; exact ht2 h; rw [← HU2] at h; exact h hu2) (p4n hz29)]) <;> rfl,hE⟩
      ·by_cases h46 : c = 46
       ·subst h46
        refine sx_region ?_
        refine sx_run 1 [(2, .v (.string ⟨#[]⟩)),(3, .v (.int .i64 0)),(5, .v (.bool true)),(6, .v (.string t)),(8, .v (.string t2)),(9, .p 9 0),(10, .p 10 0),(51, .v (.string ⟨[46].toArray⟩)),(55, .v (.bool ((⟨[46].toArray⟩ : ByteArray).toList == (⟨#[47]⟩ : ByteArray).toList)))] [(10,63,[.v (.bool s27), .v (.slice A27 l27 c27)]),(9,63,[.v (.bool s26), .v (.slice A26 l26 c26)])] (by kernel_rfl) (by kernel_rfl) ?_
        rw [str_one (by decide)]
        refine sx_run 1 [(2, .v (.string ⟨#[]⟩)),(3, .v (.int .i64 0)),(5, .v (.bool true)),(6, .v (.string t)),(8, .v (.string t2)),(9, .p 9 0),(10, .p 10 0),(51, .v (.string ⟨[46].toArray⟩)),(54, .v (.bool false))] [(10,63,[.v (.bool s27), .v (.slice A27 l27 c27)]),(9,63,[.v (.bool s26), .v (.slice A26 l26 c26)])] (by kernel_rfl) (by kernel_rfl) ?_
        refine sx_end (by kernel_rfl) ?_
        refine sx_next ?_
        refine sx_cond_f (by kernel_rfl) ?_
        refine sx_seq ?_
        refine sx_region ?_
        refine sx_run 1 [(2, .v (.string ⟨#[]⟩)),(3, .v (.int .i64 0)),(5, .v (.bool true)),(6, .v (.string t)),(8, .v (.string t2)),(9, .p 9 0),(10, .p 10 0),(59, .v (.bool ((⟨[46].toArray⟩ : ByteArray).toList == (⟨#[46]⟩ : ByteArray).toList)))] [(10,63,[.v (.bool s27), .v (.slice A27 l27 c27)]),(9,63,[.v (.bool s26), .v (.slice A26 l26 c26)])] (by kernel_rfl) (by kernel_rfl) ?_
        rw [str_self]
        refine sx_run 1 [(2, .v (.string ⟨#[]⟩)),(3, .v (.int .i64 0)),(5, .v (.bool true)),(6, .v (.string t)),(8, .v (.string t2)),(9, .p 9 0),(10, .p 10 0),(58, .v (.bool true))] [(10,63,[.v (.bool s27), .v (.slice A27 l27 c27)]),(9,63,[.v (.bool s26), .v (.slice A26 l26 c26)])] (by kernel_rfl) (by kernel_rfl) ?_
        refine sx_end (by kernel_rfl) ?_
        refine sx_next ?_
        refine sx_cond_t (by kernel_rfl) ?_
        refine sx_seq ?_
        refine sx_region ?_
        refine sx_run 2 [(2, .v (.string ⟨#[]⟩)),(3, .v (.int .i64 0)),(5, .v (.bool true)),(8, .v (.string t2)),(9, .p 9 0),(10, .p 10 0),(60, .v (.string t)),(61, .v (.string t2))] [(10,63,[.v (.bool s27), .v (.slice A27 l27 c27)]),(9,63,[.v (.bool s26), .v (.slice A26 l26 c26)])] (by kernel_rfl) (by kernel_rfl) ?_
        refine sx_look 62 (.string (t ++ t2)) (by kernel_rfl) (by kernel_rfl) (by kernel_rfl) (by kernel_rfl) (by kernel_rfl) (by kernel_rfl) (fun w hE hΦ => run_stradd (x := (Operand.tmp 60)) (y := (Operand.tmp 61)) (t := 9) (k := 9) (by kernel_rfl) (by kernel_rfl) (by kernel_rfl) (by rw [← bytes_length,← bytes_length]; omega) rfl) ?_
        refine sx_run 0 [(2, .v (.string ⟨#[]⟩)),(3, .v (.int .i64 0)),(5, .v (.bool true)),(8, .v (.string t2)),(9, .p 9 0),(10, .p 10 0),(62, .v (.string (t ++ t2)))] [(10,63,[.v (.bool s27), .v (.slice A27 l27 c27)]),(9,63,[.v (.bool s26), .v (.slice A26 l26 c26)])] (by kernel_rfl) (by kernel_rfl) ?_
        refine sx_call 57 [.string (t ++ t2)] 63 shInt _ (by kernel_rfl) (by kernel_rfl) (fun w hE hΦ => (intParse_any (t ++ t2) _ (by rw [bytes_cat,List.all_append,dt,dt2]; rfl) (p4prs (by rw [bytes_cat,List.length_append]; omega))).mono (fun _ _ h => post_Int (by rw [bytes_cat] at h; exact h))) (fun xx => ?_)
        obtain ⟨s32,A32,l32,c32⟩ := xx
        refine sx_run 1 [(2, .v (.string ⟨#[]⟩)),(3, .v (.int .i64 0)),(5, .v (.bool true)),(8, .v (.string t2)),(9, .p 9 0),(10, .p 10 0)] [(10,63,[.v (.bool s27), .v (.slice A27 l27 c27)]),(9,63,[.v (.bool s32), .v (.slice A32 l32 c32)])] (by kernel_rfl) (by kernel_rfl) ?_
        refine sx_end (by kernel_rfl) ?_
        refine sx_next ?_
        refine sx_region ?_
        refine sx_call 58 [.int .i64 10] 64 shInt _ (by kernel_rfl) (by kernel_rfl) (fun w hE hΦ => (New_pos 10 _ (by rw [W64_eq]; omega) (by decide) (by decide)).mono (fun _ _ h => post_Int h)) (fun xx => ?_)
        obtain ⟨s33,A33,l33,c33⟩ := xx
        refine sx_run 3 [(2, .v (.string ⟨#[]⟩)),(3, .v (.int .i64 0)),(5, .v (.bool true)),(9, .p 9 0),(10, .p 10 0),(64, .v (.agg #[.bool s33, .slice A33 l33 c33])),(67, .v (.int .u64 (IntKind.u64.wrap (((t2).size : Int)))))] [(10,63,[.v (.bool s27), .v (.slice A27 l27 c27)]),(9,63,[.v (.bool s32), .v (.slice A32 l32 c32)])] (by kernel_rfl) (by kernel_rfl) ?_
        rw [p4len (show (bytes t2).length ≤ 400 by omega)]
        refine sx_call 59 [.agg #[.bool s33, .slice A33 l33 c33], .int .u64 (((bytes t2).length : Nat) : Int)] 68 shInt _ (by kernel_rfl) (by kernel_rfl) (fun w hE hΦ => (Pow_pos _ 10 (bytes t2).length _ hΦ.2 (p4wl (by omega)) p4ten (by omega)).mono (fun _ _ h => post_Int h)) (fun xx => ?_)
        obtain ⟨s34,A34,l34,c34⟩ := xx
        refine sx_run 1 [(2, .v (.string ⟨#[]⟩)),(3, .v (.int .i64 0)),(5, .v (.bool true)),(9, .p 9 0),(10, .p 10 0)] [(10,63,[.v (.bool s34), .v (.slice A34 l34 c34)]),(9,63,[.v (.bool s32), .v (.slice A32 l32 c32)])] (by kernel_rfl) (by kernel_rfl) ?_
        refine sx_end (by kernel_rfl) ?_
        refine sx_out ?_
        refine sx_next ?_
        refine sx_seq ?_
        refine sx_seq ?_
        refine sx_region ?_
        refine sx_run 1 [(2, .v (.string ⟨#[]⟩)),(3, .v (.int .i64 0)),(5, .v (.bool true)),(9, .p 9 0),(10, .p 10 0),(69, .v (.agg #[.bool s34, .slice A34 l34 c34]))] [(10,63,[.v (.bool s34), .v (.slice A34 l34 c34)]),(9,63,[.v (.bool s32), .v (.slice A32 l32 c32)])] (by kernel_rfl) (by kernel_rfl) ?_
        refine sx_call 60 [.agg #[.bool s34, .slice A34 l34 c34]] 70 (fun _ : Unit => .bool false) _ (by kernel_rfl) (by kernel_rfl) (fun w hE hΦ => (IsZero_any _ (((10 ^ (bytes t2).length : Nat) : Int)) _ hΦ.2).mono (fun _ _ h => post_val h (by rw [decide_eq_false (p := (((10 ^ (bytes t2).length : Nat) : Int)) = 0) (p4nz _)]))) (fun xx => ?_)
        refine sx_run 0 [(2, .v (.string ⟨#[]⟩)),(3, .v (.int .i64 0)),(5, .v (.bool true)),(9, .p 9 0),(10, .p 10 0),(70, .v (.bool false))] [(10,63,[.v (.bool s34), .v (.slice A34 l34 c34)]),(9,63,[.v (.bool s32), .v (.slice A32 l32 c32)])] (by kernel_rfl) (by kernel_rfl) ?_
        refine sx_end (by kernel_rfl) ?_
        refine sx_next ?_
        refine sx_cond_f (by kernel_rfl) ?_
        refine sx_skip ?_
        refine sx_next ?_
        refine sx_seq ?_
        refine sx_seq ?_
        refine sx_region ?_
        refine sx_run 1 [(2, .v (.string ⟨#[]⟩)),(3, .v (.int .i64 0)),(9, .p 9 0),(10, .p 10 0),(71, .v (.bool true))] [(10,63,[.v (.bool s34), .v (.slice A34 l34 c34)]),(9,63,[.v (.bool s32), .v (.slice A32 l32 c32)])] (by kernel_rfl) (by kernel_rfl) ?_
        refine sx_end (by kernel_rfl) ?_
        refine sx_next ?_
        refine sx_cond_t (by kernel_rfl) ?_
        refine sx_region ?_
        refine sx_run 1 [(2, .v (.string ⟨#[]⟩)),(3, .v (.int .i64 0)),(9, .p 9 0),(10, .p 10 0),(72, .v (.agg #[.bool s32, .slice A32 l32 c32]))] [(10,63,[.v (.bool s34), .v (.slice A34 l34 c34)]),(9,63,[.v (.bool s32), .v (.slice A32 l32 c32)])] (by kernel_rfl) (by kernel_rfl) ?_
        refine sx_call 61 [.agg #[.bool s32, .slice A32 l32 c32]] 73 shInt _ (by kernel_rfl) (by kernel_rfl) (fun w hE hΦ => (Neg_any _ ((decVal (bytes t ++ bytes t2) : Int)) _ hΦ.1.1.1.2).mono (fun _ _ h => post_Int h)) (fun xx => ?_)
        obtain ⟨s35,A35,l35,c35⟩ := xx
        refine sx_run 1 [(2, .v (.string ⟨#[]⟩)),(3, .v (.int .i64 0)),(9, .p 9 0),(10, .p 10 0)] [(10,63,[.v (.bool s34), .v (.slice A34 l34 c34)]),(9,63,[.v (.bool s35), .v (.slice A35 l35 c35)])] (by kernel_rfl) (by kernel_rfl) ?_
        refine sx_end (by kernel_rfl) ?_
        refine sx_next ?_
        refine sx_seq ?_
        refine sx_region ?_
        refine sx_run 2 [(2, .v (.string ⟨#[]⟩)),(3, .v (.int .i64 0)),(74, .v (.agg #[.bool s35, .slice A35 l35 c35])),(75, .v (.agg #[.bool s34, .slice A34 l34 c34]))] [] (by kernel_rfl) (by kernel_rfl) ?_
        refine sx_call 62 [.agg #[.bool s35, .slice A35 l35 c35], .agg #[.bool s34, .slice A34 l34 c34]] 76 shRat _ (by kernel_rfl) (by kernel_rfl) (fun w hE hΦ => (Fraction_any _ _ (-(decVal (bytes t ++ bytes t2) : Int)) (((10 ^ (bytes t2).length : Nat) : Int)) _ hΦ.1.1.1.1.1.1.1.1.1.1 hΦ.2 hΦ.1.1.2 (p4fit (p4neg S3)) (p4fit SK) (GcdOk.words (p4w (p4neg S3)) (p4w SK)) (p4lt SK) (p4nz _)).mono (fun _ _ h => post_Rat h)) (fun xx => ?_)
        obtain ⟨s36,A36,l36,c36,t36,B36,m36,d36⟩ := xx
        refine sx_run 0 [(2, .v (.string ⟨#[]⟩)),(3, .v (.int .i64 0)),(76, .v (.agg #[.bool s36, .slice A36 l36 c36, .bool t36, .slice B36 m36 d36]))] [] (by kernel_rfl) (by kernel_rfl) ?_
        refine sx_call 63 [.agg #[.bool s36, .slice A36 l36 c36, .bool t36, .slice B36 m36 d36]] 77 (fun _ : Unit => .string ⟨(ratText (Rat.divInt (-(decVal (bytes t ++ bytes t2) : Int)) (((10 ^ (bytes t2).length : Nat) : Int)))).toArray⟩) _ (by kernel_rfl) (by kernel_rfl) (fun w hE hΦ => (RString_any _ (Rat.divInt (-(decVal (bytes t ++ bytes t2) : Int)) (((10 ^ (bytes t2).length : Nat) : Int))) _ hΦ.1.1.1.1.1.1.1.1.1.1.1 hΦ.2 (p4prt (p4nz _) (p4neg S3) SK).1 (p4prt (p4nz _) (p4neg S3) SK).2).mono (fun _ _ h => post_val h rfl)) (fun xx => ?_)
        refine sx_run 2 [(2, .v (.string ⟨(ratText (Rat.divInt (-(decVal (bytes t ++ bytes t2) : Int)) (((10 ^ (bytes t2).length : Nat) : Int)))).toArray⟩)),(3, .v (.int .i64 0))] [] (by kernel_rfl) (by kernel_rfl) ?_
        refine sx_end (by kernel_rfl) ?_
        refine sx_next ?_
        refine sx_ret ?_
        refine sx_done (v := .tuple #[.string ⟨(ratText (Rat.divInt (-(decVal (bytes t ++ bytes t2) : Int)) (((10 ^ (bytes t2).length : Nat) : Int)))).toArray⟩, .int .i64 0]) (by kernel_rfl) (fun w' hE hΦ => ?_)
        exact ⟨by (rw [parse_point HM HT.symm HU.symm HT2.symm (by rintro (h | h | h); exact ht h; exact ht2 h; rw [← HU2] at h; exact h hu2)]) <;> rfl,hE⟩
       ·refine sx_region ?_
        refine sx_run 1 [(2, .v (.string ⟨#[]⟩)),(3, .v (.int .i64 0)),(5, .v (.bool true)),(6, .v (.string t)),(8, .v (.string t2)),(9, .p 9 0),(10, .p 10 0),(51, .v (.string ⟨[c].toArray⟩)),(55, .v (.bool ((⟨[c].toArray⟩ : ByteArray).toList == (⟨#[47]⟩ : ByteArray).toList)))] [(10,63,[.v (.bool s27), .v (.slice A27 l27 c27)]),(9,63,[.v (.bool s26), .v (.slice A26 l26 c26)])] (by kernel_rfl) (by kernel_rfl) ?_
        rw [str_one h47]
        refine sx_run 1 [(2, .v (.string ⟨#[]⟩)),(3, .v (.int .i64 0)),(5, .v (.bool true)),(6, .v (.string t)),(8, .v (.string t2)),(9, .p 9 0),(10, .p 10 0),(51, .v (.string ⟨[c].toArray⟩)),(54, .v (.bool false))] [(10,63,[.v (.bool s27), .v (.slice A27 l27 c27)]),(9,63,[.v (.bool s26), .v (.slice A26 l26 c26)])] (by kernel_rfl) (by kernel_rfl) ?_
        refine sx_end (by kernel_rfl) ?_
        refine sx_next ?_
        refine sx_cond_f (by kernel_rfl) ?_
        refine sx_seq ?_
        refine sx_region ?_
        refine sx_run 1 [(2, .v (.string ⟨#[]⟩)),(3, .v (.int .i64 0)),(5, .v (.bool true)),(6, .v (.string t)),(8, .v (.string t2)),(9, .p 9 0),(10, .p 10 0),(59, .v (.bool ((⟨[c].toArray⟩ : ByteArray).toList == (⟨#[46]⟩ : ByteArray).toList)))] [(10,63,[.v (.bool s27), .v (.slice A27 l27 c27)]),(9,63,[.v (.bool s26), .v (.slice A26 l26 c26)])] (by kernel_rfl) (by kernel_rfl) ?_
        rw [str_one h46]
        refine sx_run 1 [(2, .v (.string ⟨#[]⟩)),(3, .v (.int .i64 0)),(5, .v (.bool true)),(6, .v (.string t)),(8, .v (.string t2)),(9, .p 9 0),(10, .p 10 0),(58, .v (.bool false))] [(10,63,[.v (.bool s27), .v (.slice A27 l27 c27)]),(9,63,[.v (.bool s26), .v (.slice A26 l26 c26)])] (by kernel_rfl) (by kernel_rfl) ?_
        refine sx_end (by kernel_rfl) ?_
        refine sx_next ?_
        refine sx_cond_f (by kernel_rfl) ?_
        refine sx_seq ?_
        refine sx_region ?_
        refine sx_run 2 [(2, .v (.string ⟨#[]⟩)),(3, .v (.int .i64 6)),(5, .v (.bool true)),(9, .p 9 0),(10, .p 10 0)] [(10,63,[.v (.bool s27), .v (.slice A27 l27 c27)]),(9,63,[.v (.bool s26), .v (.slice A26 l26 c26)])] (by kernel_rfl) (by kernel_rfl) ?_
        refine sx_end (by kernel_rfl) ?_
        refine sx_next ?_
        refine sx_ret ?_
        refine sx_in_ret ?_
        refine sx_then_ret ?_
        refine sx_done (v := .tuple #[.string ⟨#[]⟩, .int .i64 6]) (by kernel_rfl) (fun w' hE hΦ => ?_)
        exact ⟨by (rw [parse_other HM HT.symm HU.symm HT2.symm h47 h46]) <;> rfl,hE⟩
     ·refine sx_region ?_
      refine sx_run 2 [(2, .v (.string ⟨#[]⟩)),(3, .v (.int .i64 0)),(4, .v (.string u2)),(5, .v (.bool true)),(6, .v (.string t)),(7, .v (.string ⟨[c].toArray⟩)),(8, .v (.string t2)),(35, .v (.bool ((t : ByteArray).toList == (⟨#[]⟩ : ByteArray).toList)))] [] (by kernel_rfl) (by kernel_rfl) ?_
      rw [str_not ht]
      refine sx_run 3 [(2, .v (.string ⟨#[]⟩)),(3, .v (.int .i64 0)),(5, .v (.bool true)),(6, .v (.string t)),(7, .v (.string ⟨[c].toArray⟩)),(8, .v (.string t2)),(36, .v (.bool false)),(38, .v (.bool (!((u2 : ByteArray).toList == (⟨#[]⟩ : ByteArray).toList))))] [] (by kernel_rfl) (by kernel_rfl) ?_
      rw [str_not hu2,Bool.not_false]
      refine sx_run 9 [(2, .v (.string ⟨#[]⟩)),(3, .v (.int .i64 0)),(5, .v (.bool true)),(6, .v (.string t)),(7, .v (.string ⟨[c].toArray⟩)),(8, .v (.string t2)),(47, .v (.bool true))] [] (by kernel_rfl) (by kernel_rfl) ?_
      refine sx_end (by kernel_rfl) ?_
      refine sx_next ?_
      refine sx_cond_t (by kernel_rfl) ?_
      refine sx_seq ?_
      refine sx_region ?_
      refine sx_run 2 [(2, .v (.string ⟨#[]⟩)),(3, .v (.int .i64 6)),(5, .v (.bool true)),(6, .v (.string t)),(7, .v (.string ⟨[c].toArray⟩)),(8, .v (.string t2))] [] (by kernel_rfl) (by kernel_rfl) ?_
      refine sx_end (by kernel_rfl) ?_
      refine sx_next ?_
      refine sx_ret ?_
      refine sx_then_ret ?_
      refine sx_done (v := .tuple #[.string ⟨#[]⟩, .int .i64 6]) (by kernel_rfl) (fun w' hE hΦ => ?_)
      exact ⟨by (rw [parse_bad HM HT.symm HU.symm HT2.symm (Or.inr (Or.inr (by rw [← HU2]; exact hu2)))]) <;> rfl,hE⟩
end Go.Proofs.YtibipjlohahekaaGreatDoor

namespace Go.Proofs.YtibipjlohahekaaGreatDoor
open Go.RowKit
set_option maxRecDepth 100000 in
theorem awake1_any (w : World) (hg : Glob w) :
 Calls Tryz.prog 13 #[] w (RetV w (.bool true)) := by
 refine sx_enter (Φ := fun w => Glob w) Tryz.func13 rfl (by kernel_rfl) (fun w' hf => hg.ext hf) ?_
 refine sx_seq ?_
 refine sx_region ?_
 refine sx_run 1 [(0, .v (.bool false))] [] (by kernel_rfl) (by kernel_rfl) ?_
 refine sx_end (by kernel_rfl) ?_
 refine sx_next ?_
 refine sx_seq ?_
 refine sx_region ?_
 refine sx_call 14 [.string ⟨#[45,48,54,47,52]⟩] 6 (fun _ : Unit => .tuple #[.string ⟨#[45,51,47,50]⟩, .int .i64 0]) _ (by kernel_rfl) (by kernel_rfl) (fun w hE hΦ => (Parse_any ⟨#[45,48,54,47,52]⟩ _ hΦ (by decide)).mono (fun _ _ h => post_val h (by rw [show bytes ⟨#[45,48,54,47,52]⟩ = [45,48,54,47,52] from rfl,aw_parse]))) (fun xx => ?_)
 refine sx_run 5 [(0, .v (.bool false)),(1, .v (.string ⟨#[45,51,47,50]⟩)),(2, .v (.int .i64 0))] [] (by kernel_rfl) (by kernel_rfl) ?_
 refine sx_end (by kernel_rfl) ?_
 refine sx_next ?_
 refine sx_seq ?_
 refine sx_region ?_
 refine sx_call 19 [.string ⟨#[49]⟩, .string ⟨#[51]⟩] 10 (fun _ : Unit => .tuple #[.string ⟨#[49,47,51]⟩, .bool true]) _ (by kernel_rfl) (by kernel_rfl) (fun w hE hΦ => (TDiv_nz ⟨#[49]⟩ ⟨#[51]⟩ _ hΦ.1 (by decide) (by decide) aw_nz).mono (fun _ _ h => post_val h (by rw [show bytes ⟨#[49]⟩ = [49] from rfl,show bytes ⟨#[51]⟩ = [51] from rfl,aw_div]))) (fun xx => ?_)
 refine sx_run 5 [(0, .v (.bool false)),(1, .v (.string ⟨#[45,51,47,50]⟩)),(2, .v (.int .i64 0)),(3, .v (.string ⟨#[49,47,51]⟩)),(4, .v (.bool true))] [] (by kernel_rfl) (by kernel_rfl) ?_
 refine sx_end (by kernel_rfl) ?_
 refine sx_next ?_
 refine sx_seq ?_
 refine sx_region ?_
 refine sx_run 2 [(0, .v (.bool false)),(2, .v (.int .i64 0)),(3, .v (.string ⟨#[49,47,51]⟩)),(4, .v (.bool true)),(14, .v (.bool ((⟨#[45,51,47,50]⟩ : ByteArray).toList == (⟨#[45,51,47,50]⟩ : ByteArray).toList)))] [] (by kernel_rfl) (by kernel_rfl) ?_
 rw [str_self]
 refine sx_run 7 [(0, .v (.bool false)),(4, .v (.bool true)),(19, .v (.bool true)),(21, .v (.bool ((⟨#[49,47,51]⟩ : ByteArray).toList == (⟨#[49,47,51]⟩ : ByteArray).toList)))] [] (by kernel_rfl) (by kernel_rfl) ?_
 rw [str_self]
 refine sx_run 5 [(0, .v (.bool false)),(26, .v (.bool true))] [] (by kernel_rfl) (by kernel_rfl) ?_
 refine sx_call 23 [.string ⟨#[49,47,50]⟩, .string ⟨#[49,47,51]⟩] 27 (fun _ : Unit => .string ⟨#[53,47,54]⟩) _ (by kernel_rfl) (by kernel_rfl) (fun w hE hΦ => (TAdd_any ⟨#[49,47,50]⟩ ⟨#[49,47,51]⟩ _ hΦ.1.1 (by decide) (by decide)).mono (fun _ _ h => post_val h (by rw [show bytes ⟨#[49,47,50]⟩ = [49,47,50] from rfl,show bytes ⟨#[49,47,51]⟩ = [49,47,51] from rfl,aw_add]))) (fun xx => ?_)
 refine sx_run 1 [(0, .v (.bool false)),(26, .v (.bool true)),(28, .v (.bool ((⟨#[53,47,54]⟩ : ByteArray).toList == (⟨#[53,47,54]⟩ : ByteArray).toList)))] [] (by kernel_rfl) (by kernel_rfl) ?_
 rw [str_self]
 refine sx_run 2 [(0, .v (.bool false)),(30, .v (.bool true))] [] (by kernel_rfl) (by kernel_rfl) ?_
 refine sx_call 27 [.string ⟨#[45,50,47,51]⟩, .string ⟨#[51]⟩] 31 (fun _ : Unit => .string ⟨#[45,50]⟩) _ (by kernel_rfl) (by kernel_rfl) (fun w hE hΦ => (TMul_any ⟨#[45,50,47,51]⟩ ⟨#[51]⟩ _ hΦ.1.1.1 (by decide) (by decide)).mono (fun _ _ h => post_val h (by rw [show bytes ⟨#[45,50,47,51]⟩ = [45,50,47,51] from rfl,show bytes ⟨#[51]⟩ = [51] from rfl,aw_mul]))) (fun xx => ?_)
 refine sx_run 1 [(0, .v (.bool false)),(30, .v (.bool true)),(32, .v (.bool ((⟨#[45,50]⟩ : ByteArray).toList == (⟨#[45,50]⟩ : ByteArray).toList)))] [] (by kernel_rfl) (by kernel_rfl) ?_
 rw [str_self]
 refine sx_run 2 [(0, .v (.bool false)),(34, .v (.bool true))] [] (by kernel_rfl) (by kernel_rfl) ?_
 refine sx_call 29 [.string ⟨#[49,47,51]⟩, .string ⟨#[49,47,50]⟩] 35 (fun _ : Unit => .int .i64 (-1)) _ (by kernel_rfl) (by kernel_rfl) (fun w hE hΦ => (TCompare_any ⟨#[49,47,51]⟩ ⟨#[49,47,50]⟩ _ hΦ.1.1.1.1 (by decide) (by decide)).mono (fun _ _ h => post_val h (by rw [show bytes ⟨#[49,47,51]⟩ = [49,47,51] from rfl,show bytes ⟨#[49,47,50]⟩ = [49,47,50] from rfl,aw_cmp]))) (fun xx => ?_)
 refine sx_run 3 [(0, .v (.bool true))] [] (by kernel_rfl) (by kernel_rfl) ?_
 refine sx_end (by kernel_rfl) ?_
 refine sx_next ?_
 refine sx_ret ?_
 refine sx_done (v := .bool true) (by kernel_rfl) (fun w' hE hΦ => ?_)
 exact ⟨rfl,hE⟩
end Go.Proofs.YtibipjlohahekaaGreatDoor

namespace Go.Proofs.YtibipjlohahekaaGreatDoor
open Go.RowKit
theorem t0 : ratText 0 = [48] := rt_whole (n := 0) (by decide) (by decide) (by decide)
theorem not_pos {k : Int} (h : ¬ k > 0) : decide (k ≤ 0) = true := decide_eq_true (by omega)
theorem rat_sub_add (a b : Rat) : a - b + b = a := by grind
theorem rat_shift (a b c : Rat) : a + c - (b + c) = a - b := by grind
theorem rat_div_mul (a b : Rat) (h : ¬ b.num = 0) : a / b * b = a := by
 have : b ≠ 0 := fun e => h (by rw [e]; rfl)
 grind
set_option maxRecDepth 100000 in
theorem rationalField_any (a b c : ByteArray) (w : World) (hg : Glob w) :
 Calls Tryz.prog 6 #[.string a, .string b, .string c] w (RetV w (.bool true)) := by
 obtain ⟨r,hr⟩ : ∃ r,[a,b,c].all (fun s => decide ((s.size : Int) ≤ 100)) = r := ⟨_,rfl⟩
 obtain ⟨A,hA⟩ : ∃ q,valF (bytes a) = q := ⟨_,rfl⟩
 obtain ⟨B,hB⟩ : ∃ q,valF (bytes b) = q := ⟨_,rfl⟩
 obtain ⟨C,hC⟩ : ∃ q,valF (bytes c) = q := ⟨_,rfl⟩
 obtain ⟨AB,hAB⟩ : ∃ q : Rat,A * B = q := ⟨_,rfl⟩
 obtain ⟨BC,hBC⟩ : ∃ q : Rat,B * C = q := ⟨_,rfl⟩
 obtain ⟨T,hT⟩ : ∃ q : Rat,A * B * C = q := ⟨_,rfl⟩
 obtain ⟨U,hU⟩ : ∃ q : Rat,B + C = q := ⟨_,rfl⟩
 obtain ⟨AC,hAC⟩ : ∃ q : Rat,A * C = q := ⟨_,rfl⟩
 obtain ⟨V,hV⟩ : ∃ q : Rat,A * (B + C) = q := ⟨_,rfl⟩
 obtain ⟨W,hW⟩ : ∃ q : Rat,A + B = q := ⟨_,rfl⟩
 obtain ⟨X,hX⟩ : ∃ q : Rat,A + B + C = q := ⟨_,rfl⟩
 obtain ⟨Y,hY⟩ : ∃ q : Rat,A - B = q := ⟨_,rfl⟩
 obtain ⟨Q,hQ⟩ : ∃ q : Rat,A / B = q := ⟨_,rfl⟩
 obtain ⟨I,hI⟩ : ∃ q : Rat,A + C = q := ⟨_,rfl⟩
 obtain ⟨k,hk⟩ : ∃ k,(A - B).num.sign = k := ⟨_,rfl⟩
 refine sx_enter (Φ := fun w => Glob w) Tryz.func6 rfl (by kernel_rfl) (fun w' hf => hg.ext hf) ?_
 refine sx_seq ?_
 refine sx_region ?_
 refine sx_run 1 [(0, .v (.string a)),(1, .v (.string b)),(2, .v (.string c)),(6, .v (.bool false))] [] (by kernel_rfl) (by kernel_rfl) ?_
 refine sx_end (by kernel_rfl) ?_
 refine sx_next ?_
 refine sx_seq ?_
 refine sx_seq ?_
 refine sx_region ?_
 refine sx_run 3 [(0, .v (.string a)),(1, .v (.string b)),(2, .v (.string c)),(6, .v (.bool false)),(11, .v (.string a)),(12, .v (.string b)),(13, .v (.string c))] [] (by kernel_rfl) (by kernel_rfl) ?_
 refine sx_does (d := 14) (fun zb : Nat => .slice (some ⟨zb,0,none⟩) 3 3) (fun zb zw => Blk 9 zw zb #[.string a, .string b, .string c]) (by kernel_rfl) (by kernel_rfl) (by kernel_rfl) (by kernel_rfl) (by kernel_rfl) (by kernel_rfl) (fun w hE hΦ => does_bslice (t := 80) (e := 9) (n := 3) (sz := 1) (z := .string ⟨#[]⟩) (parts := #[(0,Operand.tmp 11),(1,Operand.tmp 12),(2,Operand.tmp 13)]) (by kernel_rfl) (by kernel_rfl) (by kernel_rfl) (by kernel_rfl) (by kernel_rfl) (by kernel_rfl)) (fun b10 => ?_)
 refine sx_run 0 [(0, .v (.string a)),(1, .v (.string b)),(2, .v (.string c)),(6, .v (.bool false)),(14, .v (.slice (some ⟨b10,0,none⟩) 3 3))] [] (by kernel_rfl) (by kernel_rfl) ?_
 refine sx_call 17 [.int .i64 100, .slice (some ⟨b10,0,none⟩) 3 3] 15 (fun _ : Unit => .bool r) _ (by kernel_rfl) (by kernel_rfl) (fun w hE hΦ => (short3 hΦ.2 hr).mono (fun _ _ h => post_val h rfl)) (fun xx => ?_)
 rcases r with _ | _
 ·refine sx_run 1 [(0, .v (.string a)),(1, .v (.string b)),(2, .v (.string c)),(6, .v (.bool false)),(16, .v (.bool true))] [] (by kernel_rfl) (by kernel_rfl) ?_
  refine sx_end (by kernel_rfl) ?_
  refine sx_next ?_
  refine sx_cond_t (by kernel_rfl) ?_
  refine sx_seq ?_
  refine sx_region ?_
  refine sx_call 13 [] 17 (fun _ : Unit => .bool true) _ (by kernel_rfl) (by kernel_rfl) (fun w hE hΦ => (awake1_any _ hΦ.1.1).mono (fun _ _ h => post_val h rfl)) (fun xx => ?_)
  refine sx_run 1 [(0, .v (.string a)),(1, .v (.string b)),(2, .v (.string c)),(6, .v (.bool true))] [] (by kernel_rfl) (by kernel_rfl) ?_
  refine sx_end (by kernel_rfl) ?_
  refine sx_next ?_
  refine sx_ret ?_
  refine sx_then_ret ?_
  refine sx_done (v := .bool true) (by kernel_rfl) (fun w' hE hΦ => ?_)
  exact ⟨rfl,hE⟩
 ·have HL := short_all3 hr
  have La : (bytes a).length ≤ 100 := by have := HL.1; omega
  have Lb : (bytes b).length ≤ 100 := by have := HL.2.1; omega
  have Lc : (bytes c).length ≤ 100 := by have := HL.2.2; omega
  have DA := valF_dec La (by decide)
  have DB := valF_dec Lb (by decide)
  have DC := valF_dec Lc (by decide)
  rw [hA] at DA
  rw [hB] at DB
  rw [hC] at DC
  have SA : StrIs a A := ⟨hA,Nat.le_trans La (by decide)⟩
  have SB : StrIs b B := ⟨hB,Nat.le_trans Lb (by decide)⟩
  have SC : StrIs c C := ⟨hC,Nat.le_trans Lc (by decide)⟩
  have SZ : StrIs ⟨#[48]⟩ 0 := ⟨valF_of t0,by decide⟩
  have EAB := small_len (by decide) (res_small DA DB).2.1 (show _ ≤ 570 by decide)
  rw [hAB] at EAB
  have SAB := StrIs.of EAB
  have EBC := small_len (by decide) (res_small DB DC).2.1 (show _ ≤ 570 by decide)
  rw [hBC] at EBC
  have SBC := StrIs.of EBC
  have EU := small_len (by decide) (res_small DB DC).1 (show _ ≤ 570 by decide)
  rw [hU] at EU
  have SU := StrIs.of EU
  have EAC := small_len (by decide) (res_small DA DC).2.1 (show _ ≤ 570 by decide)
  rw [hAC] at EAC
  have SAC := StrIs.of EAC
  have EW := small_len (by decide) (res_small DA DB).1 (show _ ≤ 570 by decide)
  rw [hW] at EW
  have SW := StrIs.of EW
  have EI := small_len (by decide) (res_small DA DC).1 (show _ ≤ 570 by decide)
  rw [hI] at EI
  have SI := StrIs.of EI
  have EY := small_len (by decide) (sub_small DA DB) (show _ ≤ 570 by decide)
  rw [hY] at EY
  have SY := StrIs.of EY
  have r1 : AB * C = T := by rw [← hAB]; exact hT
  have r2 : A * BC = T := by rw [← hBC,← Rat.mul_assoc]; exact hT
  have r3 : B * A = AB := by rw [Rat.mul_comm]; exact hAB
  have r4 : A * U = V := by rw [← hU]; exact hV
  have r5 : AB + AC = V := by rw [← hAB,← hAC,← Rat.mul_add]; exact hV
  have r6 : W + C = X := by rw [← hW]; exact hX
  have r7 : A + U = X := by rw [← hU,← Rat.add_assoc]; exact hX
  have r8 : Y + B = A := by rw [← hY]; exact rat_sub_add A B
  have r9 : A + 0 = A := Rat.add_zero A
  have rk : (I - U).num.sign = k := by rw [← hI,← hU,rat_shift]; exact hk
  refine sx_run 1 [(0, .v (.string a)),(1, .v (.string b)),(2, .v (.string c)),(6, .v (.bool false)),(16, .v (.bool false))] [] (by kernel_rfl) (by kernel_rfl) ?_
  refine sx_end (by kernel_rfl) ?_
  refine sx_next ?_
  refine sx_cond_f (by kernel_rfl) ?_
  refine sx_skip ?_
  refine sx_next ?_
  refine sx_seq ?_
  refine sx_region ?_
  refine sx_run 2 [(0, .v (.string a)),(1, .v (.string b)),(2, .v (.string c)),(6, .v (.bool false)),(18, .v (.string a)),(19, .v (.string b))] [] (by kernel_rfl) (by kernel_rfl) ?_
  refine sx_call 27 [.string a, .string b] 20 (fun _ : Unit => .string ⟨(ratText AB).toArray⟩) _ (by kernel_rfl) (by kernel_rfl) (fun w hE hΦ => (sMul hΦ.1.1 SA SB hAB).mono (fun _ _ h => post_val h rfl)) (fun xx => ?_)
  refine sx_run 2 [(0, .v (.string a)),(1, .v (.string b)),(2, .v (.string c)),(6, .v (.bool false)),(20, .v (.string ⟨(ratText AB).toArray⟩)),(21, .v (.string b)),(22, .v (.string c))] [] (by kernel_rfl) (by kernel_rfl) ?_
  refine sx_call 27 [.string b, .string c] 23 (fun _ : Unit => .string ⟨(ratText BC).toArray⟩) _ (by kernel_rfl) (by kernel_rfl) (fun w hE hΦ => (sMul hΦ.1.1.1 SB SC hBC).mono (fun _ _ h => post_val h rfl)) (fun xx => ?_)
  refine sx_run 2 [(0, .v (.string a)),(1, .v (.string b)),(2, .v (.string c)),(6, .v (.bool false)),(7, .v (.string ⟨(ratText AB).toArray⟩)),(8, .v (.string ⟨(ratText BC).toArray⟩))] [] (by kernel_rfl) (by kernel_rfl) ?_
  refine sx_end (by kernel_rfl) ?_
  refine sx_next ?_
  refine sx_seq ?_
  refine sx_seq ?_
  refine sx_region ?_
  refine sx_run 2 [(0, .v (.string a)),(1, .v (.string b)),(2, .v (.string c)),(6, .v (.bool false)),(7, .v (.string ⟨(ratText AB).toArray⟩)),(8, .v (.string ⟨(ratText BC).toArray⟩)),(24, .v (.string ⟨(ratText AB).toArray⟩)),(25, .v (.string c))] [] (by kernel_rfl) (by kernel_rfl) ?_
  refine sx_call 27 [.string ⟨(ratText AB).toArray⟩, .string c] 26 (fun _ : Unit => .string ⟨(ratText T).toArray⟩) _ (by kernel_rfl) (by kernel_rfl) (fun w hE hΦ => (sMul hΦ.1.1.1.1 SAB SC r1).mono (fun _ _ h => post_val h rfl)) (fun xx => ?_)
  refine sx_run 2 [(0, .v (.string a)),(1, .v (.string b)),(2, .v (.string c)),(6, .v (.bool false)),(7, .v (.string ⟨(ratText AB).toArray⟩)),(26, .v (.string ⟨(ratText T).toArray⟩)),(27, .v (.string a)),(28, .v (.string ⟨(ratText BC).toArray⟩))] [] (by kernel_rfl) (by kernel_rfl) ?_
  refine sx_call 27 [.string a, .string ⟨(ratText BC).toArray⟩] 29 (fun _ : Unit => .string ⟨(ratText T).toArray⟩) _ (by kernel_rfl) (by kernel_rfl) (fun w hE hΦ => (sMul hΦ.1.1.1.1.1 SA SBC r2).mono (fun _ _ h => post_val h rfl)) (fun xx => ?_)
  refine sx_run 1 [(0, .v (.string a)),(1, .v (.string b)),(2, .v (.string c)),(6, .v (.bool false)),(7, .v (.string ⟨(ratText AB).toArray⟩)),(30, .v (.bool (!((⟨(ratText T).toArray⟩ : ByteArray).toList == (⟨(ratText T).toArray⟩ : ByteArray).toList))))] [] (by kernel_rfl) (by kernel_rfl) ?_
  rw [str_self,Bool.not_true]
  refine sx_run 4 [(0, .v (.string a)),(1, .v (.string b)),(2, .v (.string c)),(6, .v (.bool false)),(7, .v (.string ⟨(ratText AB).toArray⟩)),(31, .v (.bool false)),(32, .v (.string ⟨(ratText AB).toArray⟩)),(33, .v (.string b)),(34, .v (.string a))] [] (by kernel_rfl) (by kernel_rfl) ?_
  refine sx_call 27 [.string b, .string a] 35 (fun _ : Unit => .string ⟨(ratText AB).toArray⟩) _ (by kernel_rfl) (by kernel_rfl) (fun w hE hΦ => (sMul hΦ.1.1.1.1.1.1 SB SA r3).mono (fun _ _ h => post_val h rfl)) (fun xx => ?_)
  refine sx_run 1 [(0, .v (.string a)),(1, .v (.string b)),(2, .v (.string c)),(6, .v (.bool false)),(7, .v (.string ⟨(ratText AB).toArray⟩)),(31, .v (.bool false)),(36, .v (.bool (!((⟨(ratText AB).toArray⟩ : ByteArray).toList == (⟨(ratText AB).toArray⟩ : ByteArray).toList))))] [] (by kernel_rfl) (by kernel_rfl) ?_
  rw [str_self,Bool.not_true]
  refine sx_run 5 [(0, .v (.string a)),(1, .v (.string b)),(2, .v (.string c)),(6, .v (.bool false)),(7, .v (.string ⟨(ratText AB).toArray⟩)),(38, .v (.bool false)),(39, .v (.string a)),(40, .v (.string b)),(41, .v (.string c))] [] (by kernel_rfl) (by kernel_rfl) ?_
  refine sx_call 23 [.string b, .string c] 42 (fun _ : Unit => .string ⟨(ratText U).toArray⟩) _ (by kernel_rfl) (by kernel_rfl) (fun w hE hΦ => (sAdd hΦ.1.1.1.1.1.1.1 SB SC hU).mono (fun _ _ h => post_val h rfl)) (fun xx => ?_)
  refine sx_run 0 [(0, .v (.string a)),(1, .v (.string b)),(2, .v (.string c)),(6, .v (.bool false)),(7, .v (.string ⟨(ratText AB).toArray⟩)),(38, .v (.bool false)),(39, .v (.string a)),(42, .v (.string ⟨(ratText U).toArray⟩))] [] (by kernel_rfl) (by kernel_rfl) ?_
  refine sx_call 27 [.string a, .string ⟨(ratText U).toArray⟩] 43 (fun _ : Unit => .string ⟨(ratText V).toArray⟩) _ (by kernel_rfl) (by kernel_rfl) (fun w hE hΦ => (sMul hΦ.1.1.1.1.1.1.1.1 SA SU r4).mono (fun _ _ h => post_val h rfl)) (fun xx => ?_)
  refine sx_run 3 [(0, .v (.string a)),(1, .v (.string b)),(2, .v (.string c)),(6, .v (.bool false)),(38, .v (.bool false)),(43, .v (.string ⟨(ratText V).toArray⟩)),(44, .v (.string ⟨(ratText AB).toArray⟩)),(45, .v (.string a)),(46, .v (.string c))] [] (by kernel_rfl) (by kernel_rfl) ?_
  refine sx_call 27 [.string a, .string c] 47 (fun _ : Unit => .string ⟨(ratText AC).toArray⟩) _ (by kernel_rfl) (by kernel_rfl) (fun w hE hΦ => (sMul hΦ.1.1.1.1.1.1.1.1.1 SA SC hAC).mono (fun _ _ h => post_val h rfl)) (fun xx => ?_)
  refine sx_run 0 [(0, .v (.string a)),(1, .v (.string b)),(2, .v (.string c)),(6, .v (.bool false)),(38, .v (.bool false)),(43, .v (.string ⟨(ratText V).toArray⟩)),(44, .v (.string ⟨(ratText AB).toArray⟩)),(47, .v (.string ⟨(ratText AC).toArray⟩))] [] (by kernel_rfl) (by kernel_rfl) ?_
  refine sx_call 23 [.string ⟨(ratText AB).toArray⟩, .string ⟨(ratText AC).toArray⟩] 48 (fun _ : Unit => .string ⟨(ratText V).toArray⟩) _ (by kernel_rfl) (by kernel_rfl) (fun w hE hΦ => (sAdd hΦ.1.1.1.1.1.1.1.1.1.1 SAB SAC r5).mono (fun _ _ h => post_val h rfl)) (fun xx => ?_)
  refine sx_run 1 [(0, .v (.string a)),(1, .v (.string b)),(2, .v (.string c)),(6, .v (.bool false)),(38, .v (.bool false)),(49, .v (.bool (!((⟨(ratText V).toArray⟩ : ByteArray).toList == (⟨(ratText V).toArray⟩ : ByteArray).toList))))] [] (by kernel_rfl) (by kernel_rfl) ?_
  rw [str_self,Bool.not_true]
  refine sx_run 1 [(0, .v (.string a)),(1, .v (.string b)),(2, .v (.string c)),(6, .v (.bool false)),(50, .v (.bool false))] [] (by kernel_rfl) (by kernel_rfl) ?_
  refine sx_end (by kernel_rfl) ?_
  refine sx_next ?_
  refine sx_cond_f (by kernel_rfl) ?_
  refine sx_skip ?_
  refine sx_next ?_
  refine sx_seq ?_
  refine sx_seq ?_
  refine sx_region ?_
  refine sx_run 2 [(0, .v (.string a)),(1, .v (.string b)),(2, .v (.string c)),(6, .v (.bool false)),(51, .v (.string a)),(52, .v (.string b))] [] (by kernel_rfl) (by kernel_rfl) ?_
  refine sx_call 23 [.string a, .string b] 53 (fun _ : Unit => .string ⟨(ratText W).toArray⟩) _ (by kernel_rfl) (by kernel_rfl) (fun w hE hΦ => (sAdd hΦ.1.1.1.1.1.1.1.1.1.1.1 SA SB hW).mono (fun _ _ h => post_val h rfl)) (fun xx => ?_)
  refine sx_run 1 [(0, .v (.string a)),(1, .v (.string b)),(2, .v (.string c)),(6, .v (.bool false)),(53, .v (.string ⟨(ratText W).toArray⟩)),(54, .v (.string c))] [] (by kernel_rfl) (by kernel_rfl) ?_
  refine sx_call 23 [.string ⟨(ratText W).toArray⟩, .string c] 55 (fun _ : Unit => .string ⟨(ratText X).toArray⟩) _ (by kernel_rfl) (by kernel_rfl) (fun w hE hΦ => (sAdd hΦ.1.1.1.1.1.1.1.1.1.1.1.1 SW SC r6).mono (fun _ _ h => post_val h rfl)) (fun xx => ?_)
  refine sx_run 3 [(0, .v (.string a)),(1, .v (.string b)),(2, .v (.string c)),(6, .v (.bool false)),(55, .v (.string ⟨(ratText X).toArray⟩)),(56, .v (.string a)),(57, .v (.string b)),(58, .v (.string c))] [] (by kernel_rfl) (by kernel_rfl) ?_
  refine sx_call 23 [.string b, .string c] 59 (fun _ : Unit => .string ⟨(ratText U).toArray⟩) _ (by kernel_rfl) (by kernel_rfl) (fun w hE hΦ => (sAdd hΦ.1.1.1.1.1.1.1.1.1.1.1.1.1 SB SC hU).mono (fun _ _ h => post_val h rfl)) (fun xx => ?_)
  refine sx_run 0 [(0, .v (.string a)),(1, .v (.string b)),(2, .v (.string c)),(6, .v (.bool false)),(55, .v (.string ⟨(ratText X).toArray⟩)),(56, .v (.string a)),(59, .v (.string ⟨(ratText U).toArray⟩))] [] (by kernel_rfl) (by kernel_rfl) ?_
  refine sx_call 23 [.string a, .string ⟨(ratText U).toArray⟩] 60 (fun _ : Unit => .string ⟨(ratText X).toArray⟩) _ (by kernel_rfl) (by kernel_rfl) (fun w hE hΦ => (sAdd hΦ.1.1.1.1.1.1.1.1.1.1.1.1.1.1 SA SU r7).mono (fun _ _ h => post_val h rfl)) (fun xx => ?_)
  refine sx_run 1 [(0, .v (.string a)),(1, .v (.string b)),(2, .v (.string c)),(6, .v (.bool false)),(61, .v (.bool (!((⟨(ratText X).toArray⟩ : ByteArray).toList == (⟨(ratText X).toArray⟩ : ByteArray).toList))))] [] (by kernel_rfl) (by kernel_rfl) ?_
  rw [str_self,Bool.not_true]
  refine sx_run 3 [(0, .v (.string a)),(1, .v (.string b)),(2, .v (.string c)),(6, .v (.bool false)),(62, .v (.bool false)),(63, .v (.string a)),(64, .v (.string b))] [] (by kernel_rfl) (by kernel_rfl) ?_
  refine sx_call 25 [.string a, .string b] 65 (fun _ : Unit => .string ⟨(ratText Y).toArray⟩) _ (by kernel_rfl) (by kernel_rfl) (fun w hE hΦ => (sSub hΦ.1.1.1.1.1.1.1.1.1.1.1.1.1.1.1 SA SB hY).mono (fun _ _ h => post_val h rfl)) (fun xx => ?_)
  refine sx_run 1 [(0, .v (.string a)),(1, .v (.string b)),(2, .v (.string c)),(6, .v (.bool false)),(62, .v (.bool false)),(65, .v (.string ⟨(ratText Y).toArray⟩)),(66, .v (.string b))] [] (by kernel_rfl) (by kernel_rfl) ?_
  refine sx_call 23 [.string ⟨(ratText Y).toArray⟩, .string b] 67 (fun _ : Unit => .string ⟨(ratText A).toArray⟩) _ (by kernel_rfl) (by kernel_rfl) (fun w hE hΦ => (sAdd hΦ.1.1.1.1.1.1.1.1.1.1.1.1.1.1.1.1 SY SB r8).mono (fun _ _ h => post_val h rfl)) (fun xx => ?_)
  refine sx_run 1 [(0, .v (.string a)),(1, .v (.string b)),(2, .v (.string c)),(6, .v (.bool false)),(62, .v (.bool false)),(67, .v (.string ⟨(ratText A).toArray⟩)),(68, .v (.string a))] [] (by kernel_rfl) (by kernel_rfl) ?_
  refine sx_call 23 [.string a, .string ⟨#[48]⟩] 69 (fun _ : Unit => .string ⟨(ratText A).toArray⟩) _ (by kernel_rfl) (by kernel_rfl) (fun w hE hΦ => (sAdd hΦ.1.1.1.1.1.1.1.1.1.1.1.1.1.1.1.1.1 SA SZ r9).mono (fun _ _ h => post_val h rfl)) (fun xx => ?_)
  refine sx_run 1 [(0, .v (.string a)),(1, .v (.string b)),(2, .v (.string c)),(6, .v (.bool false)),(62, .v (.bool false)),(70, .v (.bool (!((⟨(ratText A).toArray⟩ : ByteArray).toList == (⟨(ratText A).toArray⟩ : ByteArray).toList))))] [] (by kernel_rfl) (by kernel_rfl) ?_
  rw [str_self,Bool.not_true]
  refine sx_run 1 [(0, .v (.string a)),(1, .v (.string b)),(2, .v (.string c)),(6, .v (.bool false)),(71, .v (.bool false))] [] (by kernel_rfl) (by kernel_rfl) ?_
  refine sx_end (by kernel_rfl) ?_
  refine sx_next ?_
  refine sx_cond_f (by kernel_rfl) ?_
  refine sx_skip ?_
  refine sx_next ?_
  refine sx_seq ?_
  refine sx_seq ?_
  refine sx_region ?_
  refine sx_run 2 [(0, .v (.string a)),(1, .v (.string b)),(2, .v (.string c)),(6, .v (.bool false)),(73, .v (.string a)),(74, .v (.string b))] [] (by kernel_rfl) (by kernel_rfl) ?_
  by_cases h0 : (B).num = 0
  ·refine sx_call 19 [.string a, .string b] 75 (fun _ : Unit => .tuple #[.string ⟨#[]⟩, .bool false]) _ (by kernel_rfl) (by kernel_rfl) (fun w hE hΦ => (sDiv0 hΦ.1.1.1.1.1.1.1.1.1.1.1.1.1.1.1.1.1.1 SA SB h0).mono (fun _ _ h => post_val h rfl)) (fun xx => ?_)
   refine sx_run 5 [(0, .v (.string a)),(1, .v (.string b)),(2, .v (.string c)),(6, .v (.bool false)),(9, .v (.string ⟨#[]⟩)),(10, .v (.bool false))] [] (by kernel_rfl) (by kernel_rfl) ?_
   refine sx_end (by kernel_rfl) ?_
   refine sx_next ?_
   refine sx_seq ?_
   refine sx_region ?_
   refine sx_run 9 [(0, .v (.string a)),(1, .v (.string b)),(2, .v (.string c)),(6, .v (.bool false)),(86, .v (.bool false))] [] (by kernel_rfl) (by kernel_rfl) ?_
   refine sx_end (by kernel_rfl) ?_
   refine sx_next ?_
   refine sx_cond_f (by kernel_rfl) ?_
   refine sx_skip ?_
   refine sx_next ?_
   refine sx_seq ?_
   refine sx_region ?_
   refine sx_run 2 [(0, .v (.string a)),(1, .v (.string b)),(2, .v (.string c)),(6, .v (.bool false)),(87, .v (.string a)),(88, .v (.string b))] [] (by kernel_rfl) (by kernel_rfl) ?_
   by_cases hp : k > 0
   ·refine sx_call 29 [.string a, .string b] 89 (fun _ : Unit => .int .i64 k) _ (by kernel_rfl) (by kernel_rfl) (fun w hE hΦ => (sCmp hΦ.1.1.1.1.1.1.1.1.1.1.1.1.1.1.1.1.1.1.1 SA SB hk).mono (fun _ _ h => post_val h rfl)) (fun xx => ?_)
    refine sx_run 1 [(0, .v (.string a)),(1, .v (.string b)),(2, .v (.string c)),(6, .v (.bool false)),(90, .v (.bool (decide (k > 0))))] [] (by kernel_rfl) (by kernel_rfl) ?_
    rw [decide_eq_true hp]
    refine sx_run 11 [(6, .v (.bool false)),(101, .v (.bool true))] [] (by kernel_rfl) (by kernel_rfl) ?_
    refine sx_call 13 [] 102 (fun _ : Unit => .bool true) _ (by kernel_rfl) (by kernel_rfl) (fun w hE hΦ => (awake1_any _ hΦ.1.1.1.1.1.1.1.1.1.1.1.1.1.1.1.1.1.1.1.1).mono (fun _ _ h => post_val h rfl)) (fun xx => ?_)
    refine sx_run 2 [(6, .v (.bool true))] [] (by kernel_rfl) (by kernel_rfl) ?_
    refine sx_end (by kernel_rfl) ?_
    refine sx_next ?_
    refine sx_ret ?_
    refine sx_done (v := .bool true) (by kernel_rfl) (fun w' hE hΦ => ?_)
    exact ⟨rfl,hE⟩
   ·refine sx_call 29 [.string a, .string b] 89 (fun _ : Unit => .int .i64 k) _ (by kernel_rfl) (by kernel_rfl) (fun w hE hΦ => (sCmp hΦ.1.1.1.1.1.1.1.1.1.1.1.1.1.1.1.1.1.1.1 SA SB hk).mono (fun _ _ h => post_val h rfl)) (fun xx => ?_)
    refine sx_run 1 [(0, .v (.string a)),(1, .v (.string b)),(2, .v (.string c)),(6, .v (.bool false)),(90, .v (.bool (decide (k > 0))))] [] (by kernel_rfl) (by kernel_rfl) ?_
    rw [decide_eq_false hp]
    refine sx_run 3 [(1, .v (.string b)),(2, .v (.string c)),(6, .v (.bool false)),(91, .v (.bool false)),(92, .v (.string a)),(93, .v (.string c))] [] (by kernel_rfl) (by kernel_rfl) ?_
    refine sx_call 23 [.string a, .string c] 94 (fun _ : Unit => .string ⟨(ratText I).toArray⟩) _ (by kernel_rfl) (by kernel_rfl) (fun w hE hΦ => (sAdd hΦ.1.1.1.1.1.1.1.1.1.1.1.1.1.1.1.1.1.1.1.1 SA SC hI).mono (fun _ _ h => post_val h rfl)) (fun xx => ?_)
    refine sx_run 2 [(6, .v (.bool false)),(91, .v (.bool false)),(94, .v (.string ⟨(ratText I).toArray⟩)),(95, .v (.string b)),(96, .v (.string c))] [] (by kernel_rfl) (by kernel_rfl) ?_
    refine sx_call 23 [.string b, .string c] 97 (fun _ : Unit => .string ⟨(ratText U).toArray⟩) _ (by kernel_rfl) (by kernel_rfl) (fun w hE hΦ => (sAdd hΦ.1.1.1.1.1.1.1.1.1.1.1.1.1.1.1.1.1.1.1.1.1 SB SC hU).mono (fun _ _ h => post_val h rfl)) (fun xx => ?_)
    refine sx_run 0 [(6, .v (.bool false)),(91, .v (.bool false)),(94, .v (.string ⟨(ratText I).toArray⟩)),(97, .v (.string ⟨(ratText U).toArray⟩))] [] (by kernel_rfl) (by kernel_rfl) ?_
    refine sx_call 29 [.string ⟨(ratText I).toArray⟩, .string ⟨(ratText U).toArray⟩] 98 (fun _ : Unit => .int .i64 k) _ (by kernel_rfl) (by kernel_rfl) (fun w hE hΦ => (sCmp hΦ.1.1.1.1.1.1.1.1.1.1.1.1.1.1.1.1.1.1.1.1.1.1 SI SU rk).mono (fun _ _ h => post_val h rfl)) (fun xx => ?_)
    refine sx_run 1 [(6, .v (.bool false)),(91, .v (.bool false)),(99, .v (.bool (decide (k ≤ 0))))] [] (by kernel_rfl) (by kernel_rfl) ?_
    rw [not_pos hp]
    refine sx_run 2 [(6, .v (.bool false)),(101, .v (.bool true))] [] (by kernel_rfl) (by kernel_rfl) ?_
    refine sx_call 13 [] 102 (fun _ : Unit => .bool true) _ (by kernel_rfl) (by kernel_rfl) (fun w hE hΦ => (awake1_any _ hΦ.1.1.1.1.1.1.1.1.1.1.1.1.1.1.1.1.1.1.1.1.1.1.1).mono (fun _ _ h => post_val h rfl)) (fun xx => ?_)
    refine sx_run 2 [(6, .v (.bool true))] [] (by kernel_rfl) (by kernel_rfl) ?_
    refine sx_end (by kernel_rfl) ?_
    refine sx_next ?_
    refine sx_ret ?_
    refine sx_done (v := .bool true) (by kernel_rfl) (fun w' hE hΦ => ?_)
    exact ⟨rfl,hE⟩
  ·have EQ := small_len (by decide) ((res_small DA DB).2.2 h0) (show _ ≤ 570 by decide)
   rw [hQ] at EQ
   have SQ := StrIs.of EQ
   have rq : Q * B = A := by rw [← hQ]; exact rat_div_mul A B h0
   refine sx_call 19 [.string a, .string b] 75 (fun _ : Unit => .tuple #[.string ⟨(ratText Q).toArray⟩, .bool true]) _ (by kernel_rfl) (by kernel_rfl) (fun w hE hΦ => (sDiv1 hΦ.1.1.1.1.1.1.1.1.1.1.1.1.1.1.1.1.1.1 SA SB h0 hQ).mono (fun _ _ h => post_val h rfl)) (fun xx => ?_)
   refine sx_run 5 [(0, .v (.string a)),(1, .v (.string b)),(2, .v (.string c)),(6, .v (.bool false)),(9, .v (.string ⟨(ratText Q).toArray⟩)),(10, .v (.bool true))] [] (by kernel_rfl) (by kernel_rfl) ?_
   refine sx_end (by kernel_rfl) ?_
   refine sx_next ?_
   refine sx_seq ?_
   refine sx_region ?_
   refine sx_run 4 [(0, .v (.string a)),(1, .v (.string b)),(2, .v (.string c)),(6, .v (.bool false)),(79, .v (.bool true)),(80, .v (.string ⟨(ratText Q).toArray⟩)),(81, .v (.string b))] [] (by kernel_rfl) (by kernel_rfl) ?_
   refine sx_call 27 [.string ⟨(ratText Q).toArray⟩, .string b] 82 (fun _ : Unit => .string ⟨(ratText A).toArray⟩) _ (by kernel_rfl) (by kernel_rfl) (fun w hE hΦ => (sMul hΦ.1.1.1.1.1.1.1.1.1.1.1.1.1.1.1.1.1.1.1 SQ SB rq).mono (fun _ _ h => post_val h rfl)) (fun xx => ?_)
   refine sx_run 1 [(0, .v (.string a)),(1, .v (.string b)),(2, .v (.string c)),(6, .v (.bool false)),(79, .v (.bool true)),(82, .v (.string ⟨(ratText A).toArray⟩)),(83, .v (.string a))] [] (by kernel_rfl) (by kernel_rfl) ?_
   refine sx_call 23 [.string a, .string ⟨#[48]⟩] 84 (fun _ : Unit => .string ⟨(ratText A).toArray⟩) _ (by kernel_rfl) (by kernel_rfl) (fun w hE hΦ => (sAdd hΦ.1.1.1.1.1.1.1.1.1.1.1.1.1.1.1.1.1.1.1.1 SA SZ r9).mono (fun _ _ h => post_val h rfl)) (fun xx => ?_)
   refine sx_run 1 [(0, .v (.string a)),(1, .v (.string b)),(2, .v (.string c)),(6, .v (.bool false)),(79, .v (.bool true)),(85, .v (.bool (!((⟨(ratText A).toArray⟩ : ByteArray).toList == (⟨(ratText A).toArray⟩ : ByteArray).toList))))] [] (by kernel_rfl) (by kernel_rfl) ?_
   rw [str_self,Bool.not_true]
   refine sx_run 1 [(0, .v (.string a)),(1, .v (.string b)),(2, .v (.string c)),(6, .v (.bool false)),(86, .v (.bool false))] [] (by kernel_rfl) (by kernel_rfl) ?_
   refine sx_end (by kernel_rfl) ?_
   refine sx_next ?_
   refine sx_cond_f (by kernel_rfl) ?_
   refine sx_skip ?_
   refine sx_next ?_
   refine sx_seq ?_
   refine sx_region ?_
   refine sx_run 2 [(0, .v (.string a)),(1, .v (.string b)),(2, .v (.string c)),(6, .v (.bool false)),(87, .v (.string a)),(88, .v (.string b))] [] (by kernel_rfl) (by kernel_rfl) ?_
   by_cases hp : k > 0
   ·refine sx_call 29 [.string a, .string b] 89 (fun _ : Unit => .int .i64 k) _ (by kernel_rfl) (by kernel_rfl) (fun w hE hΦ => (sCmp hΦ.1.1.1.1.1.1.1.1.1.1.1.1.1.1.1.1.1.1.1.1.1 SA SB hk).mono (fun _ _ h => post_val h rfl)) (fun xx => ?_)
    refine sx_run 1 [(0, .v (.string a)),(1, .v (.string b)),(2, .v (.string c)),(6, .v (.bool false)),(90, .v (.bool (decide (k > 0))))] [] (by kernel_rfl) (by kernel_rfl) ?_
    rw [decide_eq_true hp]
    refine sx_run 11 [(6, .v (.bool false)),(101, .v (.bool true))] [] (by kernel_rfl) (by kernel_rfl) ?_
    refine sx_call 13 [] 102 (fun _ : Unit => .bool true) _ (by kernel_rfl) (by kernel_rfl) (fun w hE hΦ => (awake1_any _ hΦ.1.1.1.1.1.1.1.1.1.1.1.1.1.1.1.1.1.1.1.1.1.1).mono (fun _ _ h => post_val h rfl)) (fun xx => ?_)
    refine sx_run 2 [(6, .v (.bool true))] [] (by kernel_rfl) (by kernel_rfl) ?_
    refine sx_end (by kernel_rfl) ?_
    refine sx_next ?_
    refine sx_ret ?_
    refine sx_done (v := .bool true) (by kernel_rfl) (fun w' hE hΦ => ?_)
    exact ⟨rfl,hE⟩
   ·refine sx_call 29 [.string a, .string b] 89 (fun _ : Unit => .int .i64 k) _ (by kernel_rfl) (by kernel_rfl) (fun w hE hΦ => (sCmp hΦ.1.1.1.1.1.1.1.1.1.1.1.1.1.1.1.1.1.1.1.1.1 SA SB hk).mono (fun _ _ h => post_val h rfl)) (fun xx => ?_)
    refine sx_run 1 [(0, .v (.string a)),(1, .v (.string b)),(2, .v (.string c)),(6, .v (.bool false)),(90, .v (.bool (decide (k > 0))))] [] (by kernel_rfl) (by kernel_rfl) ?_
    rw [decide_eq_false hp]
    refine sx_run 3 [(1, .v (.string b)),(2, .v (.string c)),(6, .v (.bool false)),(91, .v (.bool false)),(92, .v (.string a)),(93, .v (.string c))] [] (by kernel_rfl) (by kernel_rfl) ?_
    refine sx_call 23 [.string a, .string c] 94 (fun _ : Unit => .string ⟨(ratText I).toArray⟩) _ (by kernel_rfl) (by kernel_rfl) (fun w hE hΦ => (sAdd hΦ.1.1.1.1.1.1.1.1.1.1.1.1.1.1.1.1.1.1.1.1.1.1 SA SC hI).mono (fun _ _ h => post_val h rfl)) (fun xx => ?_)
    refine sx_run 2 [(6, .v (.bool false)),(91, .v (.bool false)),(94, .v (.string ⟨(ratText I).toArray⟩)),(95, .v (.string b)),(96, .v (.string c))] [] (by kernel_rfl) (by kernel_rfl) ?_
    refine sx_call 23 [.string b, .string c] 97 (fun _ : Unit => .string ⟨(ratText U).toArray⟩) _ (by kernel_rfl) (by kernel_rfl) (fun w hE hΦ => (sAdd hΦ.1.1.1.1.1.1.1.1.1.1.1.1.1.1.1.1.1.1.1.1.1.1.1 SB SC hU).mono (fun _ _ h => post_val h rfl)) (fun xx => ?_)
    refine sx_run 0 [(6, .v (.bool false)),(91, .v (.bool false)),(94, .v (.string ⟨(ratText I).toArray⟩)),(97, .v (.string ⟨(ratText U).toArray⟩))] [] (by kernel_rfl) (by kernel_rfl) ?_
    refine sx_call 29 [.string ⟨(ratText I).toArray⟩, .string ⟨(ratText U).toArray⟩] 98 (fun _ : Unit => .int .i64 k) _ (by kernel_rfl) (by kernel_rfl) (fun w hE hΦ => (sCmp hΦ.1.1.1.1.1.1.1.1.1.1.1.1.1.1.1.1.1.1.1.1.1.1.1.1 SI SU rk).mono (fun _ _ h => post_val h rfl)) (fun xx => ?_)
    refine sx_run 1 [(6, .v (.bool false)),(91, .v (.bool false)),(99, .v (.bool (decide (k ≤ 0))))] [] (by kernel_rfl) (by kernel_rfl) ?_
    rw [not_pos hp]
    refine sx_run 2 [(6, .v (.bool false)),(101, .v (.bool true))] [] (by kernel_rfl) (by kernel_rfl) ?_
    refine sx_call 13 [] 102 (fun _ : Unit => .bool true) _ (by kernel_rfl) (by kernel_rfl) (fun w hE hΦ => (awake1_any _ hΦ.1.1.1.1.1.1.1.1.1.1.1.1.1.1.1.1.1.1.1.1.1.1.1.1.1).mono (fun _ _ h => post_val h rfl)) (fun xx => ?_)
    refine sx_run 2 [(6, .v (.bool true))] [] (by kernel_rfl) (by kernel_rfl) ?_
    refine sx_end (by kernel_rfl) ?_
    refine sx_next ?_
    refine sx_ret ?_
    refine sx_done (v := .bool true) (by kernel_rfl) (fun w' hE hΦ => ?_)
    exact ⟨rfl,hE⟩
end Go.Proofs.YtibipjlohahekaaGreatDoor
