/-
 My texts Small, Rat2, RStr, Frac, Rt, Reduce, Whole, Gen put together.
-/
import Derived.Test.YtibipjlohahekaaGreatDoorM14
import Derived.Test.YtibipjlohahekaaGreatDoorM13
import Derived.Outline
import Derived.Test.YtibipjlohahekaaGreatDoorM11
import Derived.Test.YtibipjlohahekaaGreatDoorM10
namespace Go.Proofs.YtibipjlohahekaaGreatDoor
open Go.RowKit
theorem follows_mixed : Tryz.prog.follows .mixedOrders = true := by kernel_rfl
theorem yields_int {ops : Array Oper} {S : World → Prop} {o : Oper} {a : Act} {p : Operand} {g : Nat} {x y : Value} (hg : o.guard = none) (ho : o.op = Op.load 63 p) (hp : a.eval p = .pointer (some ⟨g,0,none⟩))
 (hc : ∀ w,S w → w.cell? ⟨g,0,none⟩ = some x ∧ w.cell? ⟨g,1,none⟩ = some y) : YieldsIf Tryz.prog ops S o (.agg #[x,y]) a :=
 Or.inl ⟨by unfold Region.wanted; rw [hg],fun w hS => by
  obtain ⟨h0,h1⟩ := hc w hS
  simp only [execOp,ho,hp]
  simp [go_sem,h0,h1]⟩
theorem keepI2 {t t' : TypeId} {w w' : World} {g g' : Nat} {x y x' y' : Value} (h : Blk t w g #[x,y]) (h' : Blk t' w g' #[x',y']) (hF : Ext w w') :
 (w'.cell? ⟨g,0,none⟩ = some x ∧ w'.cell? ⟨g,1,none⟩ = some y) ∧ (w'.cell? ⟨g',0,none⟩ = some x' ∧ w'.cell? ⟨g',1,none⟩ = some y') :=
 ⟨⟨(h.ext hF).cell 0,(h.ext hF).cell 1⟩,⟨(h'.ext hF).cell 0,(h'.ext hF).cell 1⟩⟩
end Go.Proofs.YtibipjlohahekaaGreatDoor

namespace Go.Proofs.YtibipjlohahekaaGreatDoor
open Go.RowKit
def IntAt (w : World) (g : Nat) (z : Int) : Prop := ∃ s A l c,Blk 63 w g #[.bool s, .slice A l c] ∧ IntIs w (.agg #[.bool s, .slice A l c]) z
theorem IntAt.ext {w w' : World} {g : Nat} {z : Int} (h : IntAt w g z) (hF : Ext w w') : IntAt w' g z := by
 obtain ⟨s,A,l,c,h1,h2⟩ := h
 exact ⟨s,A,l,c,h1.ext hF,h2.ext hF⟩
theorem IntAt.put {w : World} {g : Nat} {z z' : Int} {s : Bool} {A : Option Addr} {l c : Nat} (h : IntAt w g z) (hI : IntIs w (.agg #[.bool s, .slice A l c]) z') : IntAt ((w.setCell ⟨g,0,none⟩ (.bool s)).setCell ⟨g,1,none⟩ (.slice A l c)) g z' := by
 obtain ⟨s0,A0,l0,c0,h1,_⟩ := h
 exact ⟨s,A,l,c,(h1.set_ 0 _).set_ 1 _,hI.other h1 noWords2 (Fr.set2 _ _)⟩
theorem IntAt.away {w : World} {g r : Nat} {z z0 : Int} {a b : Value} (h : IntAt w g z) (hr : IntAt w r z0) (hne : g ≠ r) : IntAt ((w.setCell ⟨r,0,none⟩ a).setCell ⟨r,1,none⟩ b) g z := by
 obtain ⟨s,A,l,c,h1,h2⟩ := h
 obtain ⟨s0,A0,l0,c0,k1,_⟩ := hr
 exact ⟨s,A,l,c,h1.fr (Fr.set2 _ _) hne,h2.other k1 noWords2 (Fr.set2 _ _)⟩
theorem IntIs.away {w : World} {r : Nat} {v : Value} {z z0 : Int} {a b : Value} (h : IntIs w v z) (hr : IntAt w r z0) : IntIs ((w.setCell ⟨r,0,none⟩ a).setCell ⟨r,1,none⟩ b) v z := by
 obtain ⟨s0,A0,l0,c0,k1,_⟩ := hr
 exact h.other k1 noWords2 (Fr.set2 _ _)
def RetRat (w : World) (q : Rat) (e : Ending) (w' : World) : Prop := ∃ v,e = .returned v ∧ RatIs w' v q ∧ Ext w w'
theorem fin_rat {fn : Func} {t : Tmp} {tmps : Array Value} {w w' : World} {r : Nat} {s s' : Bool} {A B : Option Addr} {l c l' c' : Nat} {q : Rat} (hres : fn.results = #[.cell t 70]) (ht : tmps[t]? = some (.pointer (some ⟨r,0,none⟩)))
 (hB : Blk 70 w' r #[.bool s, .slice A l c, .bool s', .slice B l' c']) (hI : IntIs w' (.agg #[.bool s, .slice A l c]) q.num) (hI' : IntIs w' (.agg #[.bool s', .slice B l' c']) (denF q)) (hE : Ext w w') :
 bodyPost Tryz.prog fn (RetRat w q) .ret ⟨tmps,[]⟩ w' := by
 obtain ⟨h0,h1,h2,h4,_⟩ := hB.cell4
 exact bodyPost_ret (v := .agg #[.bool s, .slice A l c, .bool s', .slice B l' c']) (by simp [results,hres,ht,go_sem,h0,h1,h2,h4]) rfl ⟨_,rfl,⟨_,_,_,_,_,_,_,_,rfl,hI,hI'⟩,hE⟩
theorem denF_zero {q : Rat} : denF q = 0 ↔ q.den = 1 := by
 unfold denF
 have := q.den_nz
 split <;> omega
set_option maxHeartbeats 1000000 in
set_option maxRecDepth 100000 in
theorem lowest_any (a b : Value) (x y : Int) (q : Rat) (w : World) (ha : IntIs w a x) (hb : IntIs w b y) (hq : q.num = x ∧ (q.den : Int) = y) : Calls Tryz.prog 95 #[a,b] w (RetRat w q) := by
 obtain ⟨s,A,l,c,rfl⟩ := ha.shape
 obtain ⟨t,B,l',c',rfl⟩ := hb.shape
 have HA := zh ha
 have HB := zh hb
 have HQ := zh hq
 clear ha hb hq
 go_enter Tryz.func95,Tryz.ntmps95
 go_wp2_with fail
 generalize hwb : World.alloc (World.alloc (World.alloc w _) _) _ = wb
 have hE : Ext w wb := hwb ▸ (((Fr.refl _ _).alloc _).alloc _).alloc _
 have hB0 : Blk 63 wb w.heap.size #[.bool s, .slice A l c] := hwb ▸ ((Blk.new _ _ _).alloc _).alloc _
 have hB1 : Blk 63 wb (w.heap.size + 1) #[.bool t, .slice B l' c'] := by
  have h := (Blk.new (w.alloc (.cells #[.bool s, .slice A l c] 63)) 63 #[.bool t, .slice B l' c']).alloc (.cells #[.bool false, .slice none 0 0, .bool false, .slice none 0 0] 70)
  have e : (w.alloc (.cells #[.bool s, .slice A l c] 63)).heap.size = w.heap.size + 1 := by simp
  rw [e] at h
  exact hwb ▸ h
 have hB2 : Blk 70 wb (w.heap.size + 1 + 1) #[.bool false, .slice none 0 0, .bool false, .slice none 0 0] := by
  have h := Blk.new ((w.alloc (.cells #[.bool s, .slice A l c] 63)).alloc (.cells #[.bool t, .slice B l' c'] 63)) 70 #[.bool false, .slice none 0 0, .bool false, .slice none 0 0]
  have e : ((w.alloc (.cells #[.bool s, .slice A l c] 63)).alloc (.cells #[.bool t, .slice B l' c'] 63)).heap.size = w.heap.size + 1 + 1 := by simp
  rw [e] at h
  exact hwb ▸ h
 clear hwb
 refine (IsOne_any _ y _ (HB.out.ext hE)).mono ?_
 by_cases h1 : y = 1
 ·rw [decide_eq_true h1]
  rintro e w1 ⟨rfl,hF⟩
  have HE := zh (hE.trans hF)
  have HB0 := zh (hB0.ext hF)
  have HB2 := zh (hB2.ext hF)
  have HD : Hid (denF q = 0) := denF_zero.2 (by have := HQ.out.2; omega)
  obtain ⟨x0,x1,_,_⟩ := HB0.out.cell2
  obtain ⟨y0,y1,y2,y3,y4,y5,y6,y7⟩ := HB2.out.cell4
  clear hE hF hB0 hB1 hB2 h1
  go_wp2
  refine fin_rat rfl rfl (HB2.out.put4 _ _ _ _) ?_ ?_ (Fr.local_ HE.out (Fr.set4 _ _ _ _) (by omega))
  ·rw [HQ.out.1]; exact (HA.out.ext HE.out).other HB2.out noWords4 (Fr.set4 _ _ _ _)
  ·rw [HD.out]; exact IntIs.zero _
 ·rw [decide_eq_false h1]
  rintro e w1 ⟨rfl,hF⟩
  have HE := zh (hE.trans hF)
  have HB0 := zh (hB0.ext hF)
  have HB1 := zh (hB1.ext hF)
  have HB2 := zh (hB2.ext hF)
  have HD : Hid (denF q = y) := by
   have := HQ.out.2
   unfold Hid denF; rw [if_neg (by omega)]; exact this
  obtain ⟨x0,x1,_,_⟩ := HB0.out.cell2
  obtain ⟨z0,z1,_,_⟩ := HB1.out.cell2
  obtain ⟨y0,y1,y2,y3,y4,y5,y6,y7⟩ := HB2.out.cell4
  clear hE hF hB0 hB1 hB2 h1
  go_wp2
  refine fin_rat rfl rfl (HB2.out.put4 _ _ _ _) ?_ ?_ (Fr.local_ HE.out (Fr.set4 _ _ _ _) (by omega))
  ·rw [HQ.out.1]; exact (HA.out.ext HE.out).other HB2.out noWords4 (Fr.set4 _ _ _ _)
  ·rw [HD.out]; exact (HB.out.ext HE.out).other HB2.out noWords4 (Fr.set4 _ _ _ _)
end Go.Proofs.YtibipjlohahekaaGreatDoor

namespace Go.Proofs.YtibipjlohahekaaGreatDoor
open Go.RowKit
def ratText (q : Rat) : List UInt8 := if q.den = 1 then Lib.itoa q.num else Lib.itoa q.num ++ [47] ++ Lib.itoa (q.den : Int)
set_option maxHeartbeats 2000000 in
set_option maxRecDepth 100000 in
theorem RString_frac (a : Value) (q : Rat) (w : World) (hg : Glob w) (ha : RatIs w a q) (hn : PrtOk q.num.natAbs) (hd : PrtOk q.den) (h1 : q.den ≠ 1) (hl : (Lib.itoa q.num).length ≤ 68719476736) : Calls Tryz.prog 63 #[a] w (RetV w (.string ⟨(ratText q).toArray⟩)) := by
 obtain ⟨s,t,A,B,l,c,l',c',rfl,hIn,hId⟩ := ha
 have hdf : denF q = (q.den : Int) := by unfold denF; rw [if_neg h1]
 have hd0 : ¬ denF q = 0 := fun h => h1 (denF_zero.1 h)
 have HM : Hid (ratText q = Lib.itoa q.num ++ [47] ++ Lib.itoa (q.den : Int)) := by unfold Hid ratText; rw [if_neg h1]
 rw [hdf] at hId
 have HIn := zh hIn
 have HId := zh hId
 have HG := zh hg
 have HPn := zh hn
 have HPd : Hid (PrtOk ((q.den : Int)).natAbs) := by unfold Hid; rw [Int.natAbs_natCast]; exact hd
 have hne := itoa_ne (q.den : Int)
 rw [hdf] at hd0
 generalize hm : ratText q = m at *
 have hmne : m ≠ [] := by rw [HM.out]; simp
 generalize q.num = x at *
 generalize (q.den : Int) = y at *
 clear hg hn hd h1 hIn hId hdf hm hne
 go_enter Tryz.func63,Tryz.ntmps63
 go_wp2_with fail
 generalize hwb : World.alloc w _ = wb
 obtain ⟨hB0,hE0⟩ := Blk.one hwb
 clear hwb
 refine (IsZero_any _ y _ (HId.out.ext hE0)).mono ?_
 rw [decide_eq_false hd0]
 rintro e w1 ⟨rfl,hF1⟩
 have HB1 := zh (hB0.ext hF1)
 have HE1 := zh (hE0.trans hF1)
 obtain ⟨x0,x1,x2,x3,_,_,_,_⟩ := HB1.out.cell4
 clear hB0 hE0 hF1 hd0
 go_wp2_with fail
 refine (Append_any _ x none 0 0 [] w1 _ (Fr.refl _ _) (HG.out.ext HE1.out) (HIn.out.ext HE1.out) HPn.out rfl Buf.nil Newer.nil (by omega)).mono ?_
 rw [List.nil_append]
 rintro e w2 ⟨A2,cap2,rfl,hT2,hF2,hA2⟩
 have hN2 : Newer w1 A2 := (Newer.nil (w0 := w1)).next (Fr.refl _ _) hA2
 have hE2 : Ext w1 w2 := (Newer.nil (w0 := w1)).ext (Fr.refl _ _) hF2
 have HT2 := zh hT2
 have HN2 := zh hN2
 have HE2 := zh hE2
 clear hT2 hF2 hA2 hN2 hE2 x0 x1 x2 x3
 obtain ⟨n,hnl⟩ : ∃ n,(Lib.itoa x).length = n := ⟨_,rfl⟩
 rw [hnl] at hl ⊢
 have HNL := zh hnl
 clear hnl
 have HS : Hid (Shows .u8 (w2.alloc (.cells #[.int .u8 47] 5)) (some ⟨w2.heap.size,0,none⟩) (nats [47])) := (Own.new w2 5 .u8 [47] []).shows0
 go_wp2_with (at_builtin; refine Hid.out ?_)
 refine zh ?_
 refine wpList_append_words rfl _ _ _ rfl _ .u8 1 Tryz.underlying28 info8 A2 (some ⟨w2.heap.size,0,none⟩) n 1 cap2 1 rfl rfl (nats (Lib.itoa x)) (nats [47]) (by rw [nats_length]; exact HNL.out) rfl (HT2.out.ext ((Fr.refl _ _).alloc _)) HS.out (by simp only [maxLen]; omega) (by omega) ?_
 intro A3 cap3 w3 hB3 hF3 hA3
 have hE3 : Ext w1 w3 := HN2.out.ext (HE2.out.alloc _) hF3
 have hN3 : Newer w1 A3 := HN2.out.next (w := w2) HE2.out (fun b hb => (hA3 b hb).imp id (fun h => by simp at h; omega))
 have hT3 : TBuf w3 A3 cap3 (Lib.itoa x ++ [47]) := by show Buf _ _ _ _ _ (nats (Lib.itoa x ++ [47])); rw [nats_append]; exact hB3
 have HT3 := zh hT3
 have HN3 := zh hN3
 have HE3 := zh hE3
 have HB3 := zh (HB1.out.ext hE3)
 obtain ⟨x0,x1,x2,x3,_,_,_,_⟩ := HB3.out.cell4
 clear hB3 hF3 hA3 hE3 hN3 hT3
 go_wp2_with fail
 refine (Append_any _ y A3 cap3 (n + 1) (Lib.itoa x ++ [47]) w1 _ HE3.out (HG.out.ext HE1.out) (HId.out.ext HE1.out) HPd.out (by rw [List.length_append,HNL.out]; rfl) HT3.out HN3.out (by omega)).mono ?_
 rw [← HM.out]
 rintro e w4 ⟨A4,cap4,rfl,hT4,hF4,hA4⟩
 have HE4 : Hid (Ext w w4) := HE1.out.trans (HN3.out.ext HE3.out hF4)
 obtain ⟨b,rfl,hc⟩ := TBuf.bytes hT4 hmne
 have hcv := run_convert_bytes_back (P := Tryz.prog) w4 28 9 5 ⟨b,0,none⟩ cap4 m Tryz.underlying28 Tryz.underlying5 Tryz.underlying9 hc
 clear hT4 hF4 hA4 hc hmne x0 x1 x2 x3
 go_wp2
 go_ret
 exact ⟨rfl,HE4.out⟩
end Go.Proofs.YtibipjlohahekaaGreatDoor

namespace Go.Proofs.YtibipjlohahekaaGreatDoor
open Go.RowKit
set_option maxHeartbeats 2000000 in
set_option maxRecDepth 100000 in
theorem Quo_any (a b : Value) (x y : Int) (w : World) (ha : IntIs w a x) (hb : IntIs w b y) (hx : Fits x) (hy : wl y.natAbs < 80) (h0 : y ≠ 0) : Calls Tryz.prog 116 #[a,b] w (RetInt w (x.tdiv y)) := by
 obtain ⟨s,A,l,c,rfl⟩ := ha.shape
 obtain ⟨t,B,l',c',rfl⟩ := hb.shape
 have HA := zh ha
 have HB := zh hb
 have HX := zh hx
 have HY := zh hy
 have H0 := zh h0
 clear ha hb hx hy h0
 go_enter Tryz.func116,Tryz.ntmps116
 go_wp2_with fail
 generalize hwb : World.alloc (World.alloc (World.alloc w _) _) _ = wb
 obtain ⟨hB0,hB1,hB2,hE⟩ := three_blocks hwb
 clear hwb
 refine (IsOne_any _ y _ (HB.out.ext hE)).mono ?_
 by_cases h1 : y = 1
 ·rw [decide_eq_true h1]
  rintro e w1 ⟨rfl,hF⟩
  have HE := zh (hE.trans hF)
  have HB0 := zh (hB0.ext hF)
  have HB2 := zh (hB2.ext hF)
  have HQ : Hid (x.tdiv y = x) := by unfold Hid; rw [h1]; exact Int.tdiv_one x
  obtain ⟨x0,x1,_,_⟩ := HB0.out.cell2
  obtain ⟨y0,y1,y2,y3⟩ := HB2.out.cell2
  clear hE hF hB0 hB1 hB2 h1
  go_wp2
  refine fin_int2 rfl rfl (by omega) HE.out HB2.out (Fr.refl _ _) ?_
  rw [HQ.out]; exact HA.out.ext HE.out
 ·rw [decide_eq_false h1]
  rintro e w1 ⟨rfl,hF⟩
  have HE := zh (hE.trans hF)
  have HB0 := zh (hB0.ext hF)
  have HB1 := zh (hB1.ext hF)
  have HB2 := zh (hB2.ext hF)
  obtain ⟨x0,x1,_,_⟩ := HB0.out.cell2
  obtain ⟨z0,z1,_,_⟩ := HB1.out.cell2
  clear hE hF hB0 hB1 hB2 h1
  go_wp2_with fail
  refine (QuoRem_any _ _ x y _ (HA.out.ext HE.out) (HB.out.ext HE.out) HX.out HY.out H0.out).mono ?_
  rintro e w2 ⟨u1,u2,rfl,hN1,hN2,hF1⟩
  obtain ⟨s1,A1,l1,c1,rfl⟩ := hN1.shape
  obtain ⟨s2,A2,l2,c2,rfl⟩ := hN2.shape
  have HN1 := zh hN1
  have HE2 := zh (HE.out.trans hF1)
  have HB2' := zh (HB2.out.ext hF1)
  obtain ⟨y0,y1,y2,y3⟩ := HB2'.out.cell2
  have hlt1 := HB2'.out.lt
  have hlt2 := Nat.lt_succ_of_lt hlt1
  clear hN1 hN2 hF1 x0 x1 z0 z1
  go_wp2
  have hB := (HB2'.out.set_ 0 (.bool s1)).set_ 1 (.slice A1 l1 c1)
  refine bodyPost_ret (results_int rfl _ _ (w.heap.size + 1 + 1) _ _ rfl ((hB.alloc _).alloc _)) rfl ⟨_,rfl,?_,(((HE2.out.setCell (Or.inr (by simp; omega)) _).setCell (Or.inr (by simp; omega)) _).alloc _).alloc _⟩
  exact (HN1.out.store2 HB2'.out).ext (((Fr.refl _ _).alloc _).alloc _)
theorem frac_blocks {t u : TypeId} {w wb : World} {x y z : Array Value} (h : ((w.alloc (.cells x t)).alloc (.cells y t)).alloc (.cells z u) = wb) :
 Blk t wb w.heap.size x ∧ Blk t wb (w.heap.size + 1) y ∧ Blk u wb (w.heap.size + 1 + 1) z ∧ Ext w wb := by
 obtain ⟨h0,h1,h2⟩ := two_blocks (t := t) (w := w) (x := x) (y := y) rfl
 subst h
 have e2 : ((w.alloc (.cells x t)).alloc (.cells y t)).heap.size = w.heap.size + 1 + 1 := by simp
 have h3 := Blk.new ((w.alloc (.cells x t)).alloc (.cells y t)) u z
 rw [e2] at h3
 exact ⟨h0.alloc _,h1.alloc _,h3,h2.alloc _⟩
theorem keepI3 {t t' t'' : TypeId} {w w' : World} {g g' g'' : Nat} {x y x' y' x'' y'' : Value} (h : Blk t w g #[x,y]) (h' : Blk t' w g' #[x',y']) (h'' : Blk t'' w g'' #[x'',y'']) (hF : Ext w w') :
 (w'.cell? ⟨g,0,none⟩ = some x ∧ w'.cell? ⟨g,1,none⟩ = some y) ∧ (w'.cell? ⟨g',0,none⟩ = some x' ∧ w'.cell? ⟨g',1,none⟩ = some y') ∧ (w'.cell? ⟨g'',0,none⟩ = some x'' ∧ w'.cell? ⟨g'',1,none⟩ = some y'') :=
 ⟨⟨(h.ext hF).cell 0,(h.ext hF).cell 1⟩,⟨(h'.ext hF).cell 0,(h'.ext hF).cell 1⟩,⟨(h''.ext hF).cell 0,(h''.ext hF).cell 1⟩⟩
theorem gcd_ne {x y : Int} (hy : 0 < y) : ((Int.gcd x y : Nat) : Int) ≠ 0 := by
 have : Int.gcd x y ≠ 0 := fun h => by rw [Int.gcd_eq_zero_iff] at h; omega
 omega
theorem gcd_wl {x y : Int} (hy : 0 < y) (h : wl y.natAbs < 80) : wl (((Int.gcd x y : Nat) : Int)).natAbs < 80 := by
 have h1 : Int.gcd x y ≤ y.natAbs := Nat.gcd_le_right _ (by omega)
 have := wl_mono h1
 rw [Int.natAbs_natCast]
 omega
theorem frac_gcd {x y : Int} (hy : 0 < y) : (Rat.divInt x y).num = x.tdiv (Int.gcd x y : Int) ∧ ((Rat.divInt x y).den : Int) = y.tdiv (Int.gcd x y : Int) := by
 have hd1 : (Int.gcd x y : Int) ∣ x := Int.gcd_dvd_left _ _
 have hd2 : (Int.gcd x y : Int) ∣ y := Int.gcd_dvd_right _ _
 rw [Rat.num_divInt,Rat.den_divInt,if_neg (by omega),Int.sign_eq_one_of_pos hy,Int.one_mul,Int.gcd_comm y x,Int.tdiv_eq_ediv_of_dvd hd1,Int.tdiv_eq_ediv_of_dvd hd2]
 refine ⟨rfl,?_⟩
 rw [Int.natCast_ediv]
 congr 1
 omega
theorem frac_coprime {x y : Int} (hy : 0 < y) (h : ((Int.gcd x y : Nat) : Int) = 1) : (Rat.divInt x y).num = x ∧ ((Rat.divInt x y).den : Int) = y := by
 have := frac_gcd (x := x) hy
 rwa [h,Int.tdiv_one,Int.tdiv_one] at this
theorem frac_one {x y : Int} (h : y = 1) : (Rat.divInt x y).num = x ∧ denF (Rat.divInt x y) = 0 := by
 have h1 := frac_coprime (x := x) (y := y) (by omega) (by rw [h,Int.gcd_one]; rfl)
 refine ⟨h1.1,denF_zero.2 ?_⟩
 have := h1.2
 omega
set_option maxHeartbeats 4000000 in
set_option maxRecDepth 100000 in
theorem Fraction_pos (a b : Value) (x y : Int) (w : World) (hgl : Glob w) (ha : IntIs w a x) (hb : IntIs w b y) (hfx : Fits x) (hfy : Fits y) (hgk : GcdOk x y) (h80 : wl y.natAbs < 80) (hx0 : x ≠ 0) (hy : 0 < y) : Calls Tryz.prog 62 #[a,b] w (RetRat w (Rat.divInt x y)) := by
 obtain ⟨s,A,l,c,rfl⟩ := ha.shape
 obtain ⟨t,B,l',c',rfl⟩ := hb.shape
 have HA := zh ha
 have HB := zh hb
 have HGl := zh hgl
 have HFx := zh hfx
 have HFy := zh hfy
 have HGk := zh hgk
 have Hy80 := zh h80
 clear ha hb hfx hfy hgk h80 hgl
 go_enter Tryz.func62,Tryz.ntmps62
 go_wp2_with fail
 generalize hwb : World.alloc (World.alloc (World.alloc w _) _) _ = wb
 obtain ⟨hB0,hB1,hB2,hE⟩ := frac_blocks hwb
 have HX : Hid (IntAt wb w.heap.size x) := ⟨_,_,_,_,hB0,HA.out.ext hE⟩
 have HY : Hid (IntAt wb (w.heap.size + 1) y) := ⟨_,_,_,_,hB1,HB.out.ext hE⟩
 have HR := zh hB2
 have HE := zh hE
 have hrR : w.heap.size ≤ w.heap.size + 1 + 1 := by omega
 have hXY : w.heap.size ≠ w.heap.size + 1 := by omega
 have hXR : w.heap.size ≠ w.heap.size + 1 + 1 := by omega
 have hYR : w.heap.size + 1 ≠ w.heap.size + 1 + 1 := by omega
 have HB1 := zh (HB.out.ext hE)
 clear hwb hB0 hB1 hB2 hE HA HB
 generalize hRr : w.heap.size + 1 + 1 = Rr at *
 generalize hYy : w.heap.size + 1 = Y at *
 obtain ⟨X,hXx⟩ : ∃ X,w.heap.size = X := ⟨_,rfl⟩
 rw [hXx] at HX hXY hXR
 rw [hXx]
 refine (IsZero_any _ y _ HB1.out).mono ?_
 rw [decide_eq_false (show ¬ y = 0 by omega)]
 rintro e w1 ⟨rfl,hF⟩
 clear HB1
 replace HX := zh (HX.out.ext hF)
 replace HY := zh (HY.out.ext hF)
 replace HR := zh (HR.out.ext hF)
 replace HE := zh (HE.out.trans hF)
 clear hF
 obtain ⟨sx,Ax,lx,cx,hBx,hIx⟩ := HX.out
 obtain ⟨sy,Ay,ly,cy,hBy,hIy⟩ := HY.out
 obtain ⟨bx0,bx1,bx2,bx3⟩ := hBx.cell2
 obtain ⟨by0,by1,by2,by3⟩ := hBy.cell2
 have HIx := zh hIx
 have HIy := zh hIy
 have HBx := zh hBx
 have HBy := zh hBy
 clear hBx hBy hIx hIy
 go_wp2_with fail
 refine (IsZero_any _ x _ HIx.out).mono ?_
 rw [decide_eq_false hx0]
 rintro e w2 ⟨rfl,hF⟩
 clear bx0 bx1 bx2 bx3 by0 by1 by2 by3 HIx HIy HBx HBy
 replace HX := zh (HX.out.ext hF)
 replace HY := zh (HY.out.ext hF)
 replace HR := zh (HR.out.ext hF)
 replace HE := zh (HE.out.trans hF)
 clear hF
 obtain ⟨sx,Ax,lx,cx,hBx,hIx⟩ := HX.out
 obtain ⟨sy,Ay,ly,cy,hBy,hIy⟩ := HY.out
 obtain ⟨bx0,bx1,bx2,bx3⟩ := hBx.cell2
 obtain ⟨by0,by1,by2,by3⟩ := hBy.cell2
 have HIx := zh hIx
 have HIy := zh hIy
 have HBx := zh hBx
 have HBy := zh hBy
 clear hBx hBy hIx hIy
 go_wp2_with fail
 refine (Sign_any _ y _ HIy.out).mono ?_
 rw [Int.sign_eq_one_of_pos hy]
 rintro e w3 ⟨rfl,hF⟩
 clear bx0 bx1 bx2 bx3 by0 by1 by2 by3 HIx HIy HBx HBy
 replace HX := zh (HX.out.ext hF)
 replace HY := zh (HY.out.ext hF)
 replace HR := zh (HR.out.ext hF)
 replace HE := zh (HE.out.trans hF)
 clear hF
 have HG : Hid (Glob _) := HGl.out.ext HE.out
 obtain ⟨sx,Ax,lx,cx,hBx,hIx⟩ := HX.out
 obtain ⟨sy,Ay,ly,cy,hBy,hIy⟩ := HY.out
 obtain ⟨bx0,bx1,bx2,bx3⟩ := hBx.cell2
 obtain ⟨by0,by1,by2,by3⟩ := hBy.cell2
 have HIx := zh hIx
 have HIy := zh hIy
 have HBx := zh hBx
 have HBy := zh hBy
 clear hBx hBy hIx hIy
 go_wp2_with fail
 refine (IsOne_any _ y _ HIy.out).mono ?_
 by_cases h1 : y = 1
 ·rw [decide_eq_true h1]
  rintro e wa ⟨rfl,hF⟩
  have HQ : Hid ((Rat.divInt x y).num = x ∧ denF (Rat.divInt x y) = 0) := frac_one h1
  clear bx0 bx1 bx2 bx3 by0 by1 by2 by3 HIx HIy HBx HBy
  replace HX := zh (HX.out.ext hF)
  replace HY := zh (HY.out.ext hF)
  replace HR := zh (HR.out.ext hF)
  replace HE := zh (HE.out.trans hF)
  clear hF
  obtain ⟨sx,Ax,lx,cx,hBx,hIx⟩ := HX.out
  obtain ⟨sy,Ay,ly,cy,hBy,hIy⟩ := HY.out
  obtain ⟨bx0,bx1,bx2,bx3⟩ := hBx.cell2
  obtain ⟨by0,by1,by2,by3⟩ := hBy.cell2
  have HIx := zh hIx
  have HIy := zh hIy
  have HBx := zh hBx
  have HBy := zh hBy
  clear hBx hBy hIx hIy
  obtain ⟨y0,y1,y2,y3,y4,y5,y6,y7⟩ := HR.out.cell4
  clear h1
  go_wp2
  refine fin_rat rfl rfl (HR.out.put4 _ _ _ _) ?_ ?_ (Fr.local_ HE.out (Fr.set4 _ _ _ _) hrR)
  ·rw [HQ.out.1]; exact HIx.out.other HR.out noWords4 (Fr.set4 _ _ _ _)
  ·rw [HQ.out.2]; exact IntIs.zero _
 ·rw [decide_eq_false h1]
  rintro e wa ⟨rfl,hF⟩
  clear bx0 bx1 bx2 bx3 by0 by1 by2 by3 HIx HIy HBx HBy
  replace HX := zh (HX.out.ext hF)
  replace HY := zh (HY.out.ext hF)
  replace HR := zh (HR.out.ext hF)
  replace HE := zh (HE.out.trans hF)
  clear hF
  obtain ⟨sx,Ax,lx,cx,hBx,hIx⟩ := HX.out
  obtain ⟨sy,Ay,ly,cy,hBy,hIy⟩ := HY.out
  obtain ⟨bx0,bx1,bx2,bx3⟩ := hBx.cell2
  obtain ⟨by0,by1,by2,by3⟩ := hBy.cell2
  have HIx := zh hIx
  have HIy := zh hIy
  have HBx := zh hBx
  have HBy := zh hBy
  clear hBx hBy hIx hIy
  clear h1
  go_wp2_with fail
  refine (GCD_any _ _ x y _ (HGl.out.ext HE.out) HIx.out HIy.out HFx.out HFy.out HGk.out).mono ?_
  rintro e wg ⟨ug,rfl,hIg,hF⟩
  obtain ⟨sg_,Ag,lg,cg,rfl⟩ := hIg.shape
  have HIg := zh hIg
  clear hIg
  clear bx0 bx1 bx2 bx3 by0 by1 by2 by3 HIx HIy HBx HBy
  replace HX := zh (HX.out.ext hF)
  replace HY := zh (HY.out.ext hF)
  replace HR := zh (HR.out.ext hF)
  replace HE := zh (HE.out.trans hF)
  clear hF
  obtain ⟨sx,Ax,lx,cx,hBx,hIx⟩ := HX.out
  obtain ⟨sy,Ay,ly,cy,hBy,hIy⟩ := HY.out
  obtain ⟨bx0,bx1,bx2,bx3⟩ := hBx.cell2
  obtain ⟨by0,by1,by2,by3⟩ := hBy.cell2
  have HIx := zh hIx
  have HIy := zh hIy
  have HBx := zh hBx
  have HBy := zh hBy
  clear hBx hBy hIx hIy
  go_wp2_with fail
  generalize hwb : World.alloc wg _ = wh
  obtain ⟨hBg,hF⟩ := Blk.one hwb
  have HAg : Hid (IntAt wh wg.heap.size (Int.gcd x y : Int)) := ⟨_,_,_,_,hBg,HIg.out.ext hF⟩
  have hXg : X < wg.heap.size := HBx.out.lt
  have hYg : Y < wg.heap.size := HBy.out.lt
  have hRg : Rr < wg.heap.size := HR.out.lt
  generalize wg.heap.size = G at *
  replace HIg := zh (HIg.out.ext hF)
  clear hwb
  clear bx0 bx1 bx2 bx3 by0 by1 by2 by3 HIx HIy HBx HBy
  replace HX := zh (HX.out.ext hF)
  replace HY := zh (HY.out.ext hF)
  replace HR := zh (HR.out.ext hF)
  replace HE := zh (HE.out.trans hF)
  clear hF
  obtain ⟨sx,Ax,lx,cx,hBx,hIx⟩ := HX.out
  obtain ⟨sy,Ay,ly,cy,hBy,hIy⟩ := HY.out
  obtain ⟨bx0,bx1,bx2,bx3⟩ := hBx.cell2
  obtain ⟨by0,by1,by2,by3⟩ := hBy.cell2
  have HIx := zh hIx
  have HIy := zh hIy
  have HBx := zh hBx
  have HBy := zh hBy
  clear hBx hBy hIx hIy
  refine (IsOne_any _ _ _ HIg.out).mono ?_
  by_cases h2 : ((Int.gcd x y : Nat) : Int) = 1
  ·rw [decide_eq_true h2]
   rintro e wi ⟨rfl,hF⟩
   have HQ : Hid ((Rat.divInt x y).num = x ∧ ((Rat.divInt x y).den : Int) = y) := frac_coprime hy h2
   clear h2 HAg HIg
   clear bx0 bx1 bx2 bx3 by0 by1 by2 by3 HIx HIy HBx HBy
   replace HX := zh (HX.out.ext hF)
   replace HY := zh (HY.out.ext hF)
   replace HR := zh (HR.out.ext hF)
   replace HE := zh (HE.out.trans hF)
   clear hF
   obtain ⟨sx,Ax,lx,cx,hBx,hIx⟩ := HX.out
   obtain ⟨sy,Ay,ly,cy,hBy,hIy⟩ := HY.out
   obtain ⟨bx0,bx1,bx2,bx3⟩ := hBx.cell2
   obtain ⟨by0,by1,by2,by3⟩ := hBy.cell2
   have HIx := zh hIx
   have HIy := zh hIy
   have HBx := zh hBx
   have HBy := zh hBy
   clear hBx hBy hIx hIy
   go_wp2_with fail
   refine (lowest_any _ _ x y (Rat.divInt x y) _ HIx.out HIy.out HQ.out).mono ?_
   rintro e wl_ ⟨ul,rfl,hRl,hF⟩
   obtain ⟨s,t,A,B,l,c,l',c',rfl,hIn,hId⟩ := hRl
   have HIn := zh hIn
   have HId := zh hId
   clear hIn hId
   clear bx0 bx1 bx2 bx3 by0 by1 by2 by3 HIx HIy HBx HBy
   replace HX := zh (HX.out.ext hF)
   replace HY := zh (HY.out.ext hF)
   replace HR := zh (HR.out.ext hF)
   replace HE := zh (HE.out.trans hF)
   clear hF
   obtain ⟨y0,y1,y2,y3,y4,y5,y6,y7⟩ := HR.out.cell4
   go_wp2
   exact fin_rat rfl rfl (HR.out.put4 _ _ _ _) (HIn.out.other HR.out noWords4 (Fr.set4 _ _ _ _)) (HId.out.other HR.out noWords4 (Fr.set4 _ _ _ _)) (Fr.local_ HE.out (Fr.set4 _ _ _ _) hrR)
  ·rw [decide_eq_false h2]
   rintro e wi ⟨rfl,hF⟩
   have HQ : Hid ((Rat.divInt x y).num = x.tdiv (Int.gcd x y : Int) ∧ ((Rat.divInt x y).den : Int) = y.tdiv (Int.gcd x y : Int)) := frac_gcd hy
   have Hg0 : Hid (((Int.gcd x y : Nat) : Int) ≠ 0) := gcd_ne hy
   have Hg80 : Hid (wl (((Int.gcd x y : Nat) : Int)).natAbs < 80) := gcd_wl hy Hy80.out
   clear h2 HIg
   clear bx0 bx1 bx2 bx3 by0 by1 by2 by3 HIx HIy HBx HBy
   replace HX := zh (HX.out.ext hF)
   replace HY := zh (HY.out.ext hF)
   replace HR := zh (HR.out.ext hF)
   replace HAg := zh (HAg.out.ext hF)
   replace HE := zh (HE.out.trans hF)
   clear hF
   obtain ⟨sx,Ax,lx,cx,hBx,hIx⟩ := HX.out
   obtain ⟨sy,Ay,ly,cy,hBy,hIy⟩ := HY.out
   obtain ⟨bx0,bx1,bx2,bx3⟩ := hBx.cell2
   obtain ⟨by0,by1,by2,by3⟩ := hBy.cell2
   have HIx := zh hIx
   have HIy := zh hIy
   have HBx := zh hBx
   have HBy := zh hBy
   clear hBx hBy hIx hIy
   obtain ⟨sg_,Ag,lg,cg,hBg,hIg⟩ := HAg.out
   have HBg := zh hBg
   have HIg := zh hIg
   clear hBg hIg
   generalize ((Int.gcd x y : Nat) : Int) = g at *
   obtain ⟨x',hx'⟩ : ∃ x',x.tdiv g = x' := ⟨_,rfl⟩
   obtain ⟨y',hy'⟩ : ∃ y',y.tdiv g = y' := ⟨_,rfl⟩
   go_wp2_with fail
   refine wp_region_T 6 (fun w' => (w'.cell? ⟨X,0,none⟩ = some (.bool sx) ∧ w'.cell? ⟨X,1,none⟩ = some (.slice Ax lx cx)) ∧ (w'.cell? ⟨Y,0,none⟩ = some (.bool sy) ∧ w'.cell? ⟨Y,1,none⟩ = some (.slice Ay ly cy)) ∧ (w'.cell? ⟨G,0,none⟩ = some (.bool sg_) ∧ w'.cell? ⟨G,1,none⟩ = some (.slice Ag lg cg))) follows_mixed ?_
   refine wpT_take 0 rfl (by kernel_rfl) (fun _ _ _ h => h) (keepI3 HBx.out HBy.out HBg.out (Fr.refl _ _).drew) (fun _ => yields_int rfl rfl rfl (fun _ h => h.1)) (fun hS => ?_)
   refine wpT_take 1 rfl (by kernel_rfl) (fun _ _ _ h => h) hS (fun _ => yields_int rfl rfl rfl (fun _ h => h.2.2)) (fun hS => ?_)
   refine wpT_take 3 rfl (by kernel_rfl) (fun _ _ _ h => h) hS (fun _ => yields_int rfl rfl rfl (fun _ h => h.2.1)) (fun hS => ?_)
   refine wpT_take 4 rfl (by kernel_rfl) (fun _ _ _ h => h) hS (fun _ => yields_int rfl rfl rfl (fun _ h => h.2.2)) (fun hS => ?_)
   refine wpT_only 2 rfl (by kernel_rfl) rfl (fun K hK => ?_)
   go_simp
   refine (Quo_any _ _ x g _ (HIx.out.ext (Fr.refl _ _).drew) (HIg.out.ext (Fr.refl _ _).drew) HFx.out Hg80.out Hg0.out).mono ?_
   rw [hx']
   rintro e wq ⟨uq,rfl,hIq,hFq⟩
   obtain ⟨sq,Aq,lq,cq,rfl⟩ := hIq.shape
   replace hFq := Fr.undrew hFq
   refine hK _ _ (keepI3 HBx.out HBy.out HBg.out hFq) ?_
   refine wpT_only 5 rfl (by kernel_rfl) rfl (fun K hK => ?_)
   go_simp
   refine (Quo_any _ _ y g _ (HIy.out.ext hFq) (HIg.out.ext hFq) HFy.out Hg80.out Hg0.out).mono ?_
   rw [hy']
   rintro e wr ⟨ur,rfl,hIr,hFr⟩
   obtain ⟨sr,Ar,lr,cr,rfl⟩ := hIr.shape
   refine hK _ _ (keepI3 HBx.out HBy.out HBg.out (hFq.trans hFr)) ?_
   clear hK
   have hIq := hIq.ext hFr
   have hF := hFq.trans hFr
   have HIq := zh hIq
   have HIr := zh hIr
   have HQ' : Hid ((Rat.divInt x y).num = x' ∧ ((Rat.divInt x y).den : Int) = y') := by rw [Hid,← hx',← hy']; exact HQ.out
   clear hFq hFr hIr hIq hx' hy' HAg HIg HBg hS
   clear bx0 bx1 bx2 bx3 by0 by1 by2 by3 HIx HIy HBx HBy
   replace HX := zh (HX.out.ext hF)
   replace HY := zh (HY.out.ext hF)
   replace HR := zh (HR.out.ext hF)
   replace HE := zh (HE.out.trans hF)
   clear hF
   obtain ⟨sx,Ax,lx,cx,hBx,hIx⟩ := HX.out
   obtain ⟨sy,Ay,ly,cy,hBy,hIy⟩ := HY.out
   obtain ⟨bx0,bx1,bx2,bx3⟩ := hBx.cell2
   obtain ⟨by0,by1,by2,by3⟩ := hBy.cell2
   have HIx := zh hIx
   have HIy := zh hIy
   have HBx := zh hBx
   have HBy := zh hBy
   clear hBx hBy hIx hIy
   refine wpT_tail (l := [_,_]) 6 rfl (by kernel_rfl) ?_
   go_wp2_with fail
   have k1 := IntIs.away (a := .bool sq) (b := .slice Aq lq cq) HIq.out HX.out
   have k2 := IntIs.away (a := .bool sq) (b := .slice Aq lq cq) HIr.out HX.out
   have k3 := HX.out.put HIq.out
   have k4 := IntAt.away (a := .bool sq) (b := .slice Aq lq cq) HY.out HX.out (Ne.symm hXY)
   have k5 := HR.out.fr (Fr.set2 (r := X) (i := 0) (j := 1) (.bool sq) (.slice Aq lq cq)) (Ne.symm hXR)
   have k6 := Fr.local_ HE.out (Fr.set2 (r := X) (i := 0) (j := 1) (.bool sq) (.slice Aq lq cq)) (Nat.le_of_eq hXx)
   generalize World.setCell (World.setCell _ ⟨X,0,none⟩ _) ⟨X,1,none⟩ _ = wx at *
   have m1 := IntIs.away (a := .bool sr) (b := .slice Ar lr cr) k1 k4
   have m2 := IntIs.away (a := .bool sr) (b := .slice Ar lr cr) k2 k4
   have m5 := k5.fr (Fr.set2 (r := Y) (i := 0) (j := 1) (.bool sr) (.slice Ar lr cr)) (Ne.symm hYR)
   have m6 := Fr.local_ k6 (Fr.set2 (r := Y) (i := 0) (j := 1) (.bool sr) (.slice Ar lr cr)) (by omega)
   generalize World.setCell (World.setCell wx ⟨Y,0,none⟩ _) ⟨Y,1,none⟩ _ = wy at *
   have HR2 := zh m5
   have HE2 := zh m6
   refine (lowest_any _ _ x' y' (Rat.divInt x y) _ m1 m2 HQ'.out).mono ?_
   rintro e wl_ ⟨ul,rfl,hRl,hF⟩
   obtain ⟨s,t,A,B,l,c,l',c',rfl,hIn,hId⟩ := hRl
   have HIn := zh hIn
   have HId := zh hId
   have HR3 := zh (HR2.out.ext hF)
   have HE3 := zh (HE2.out.trans hF)
   clear hIn hId hF k1 k2 k3 k4 k5 k6 m1 m2 m5 m6
   obtain ⟨y0,y1,y2,y3,y4,y5,y6,y7⟩ := HR3.out.cell4
   go_wp2
   exact fin_rat rfl rfl (HR3.out.put4 _ _ _ _) (HIn.out.other HR3.out noWords4 (Fr.set4 _ _ _ _)) (HId.out.other HR3.out noWords4 (Fr.set4 _ _ _ _)) (Fr.local_ HE3.out (Fr.set4 _ _ _ _) hrR)
set_option maxHeartbeats 4000000 in
set_option maxRecDepth 100000 in
theorem Fraction_zero (a b : Value) (x y : Int) (w : World) (ha : IntIs w a x) (hb : IntIs w b y) (hx0 : x = 0) (hy : y ≠ 0) : Calls Tryz.prog 62 #[a,b] w (RetRat w 0) := by
 obtain ⟨s,A,l,c,rfl⟩ := ha.shape
 obtain ⟨t,B,l',c',rfl⟩ := hb.shape
 have HA := zh ha
 have HB := zh hb
 clear ha hb
 go_enter Tryz.func62,Tryz.ntmps62
 go_wp2_with fail
 generalize hwb : World.alloc (World.alloc (World.alloc w _) _) _ = wb
 obtain ⟨hB0,hB1,hB2,hE⟩ := frac_blocks hwb
 have HX : Hid (IntAt wb w.heap.size x) := ⟨_,_,_,_,hB0,HA.out.ext hE⟩
 have HY : Hid (IntAt wb (w.heap.size + 1) y) := ⟨_,_,_,_,hB1,HB.out.ext hE⟩
 have HR := zh hB2
 have HE := zh hE
 have HB1 := zh (HB.out.ext hE)
 clear hwb hB0 hB1 hB2 hE HA HB
 refine (IsZero_any _ y _ HB1.out).mono ?_
 rw [decide_eq_false hy]
 rintro e w1 ⟨rfl,hF⟩
 clear HB1
 replace HX := zh (HX.out.ext hF)
 replace HY := zh (HY.out.ext hF)
 replace HR := zh (HR.out.ext hF)
 replace HE := zh (HE.out.trans hF)
 clear hF
 obtain ⟨sx,Ax,lx,cx,hBx,hIx⟩ := HX.out
 obtain ⟨sy,Ay,ly,cy,hBy,hIy⟩ := HY.out
 obtain ⟨bx0,bx1,bx2,bx3⟩ := hBx.cell2
 obtain ⟨by0,by1,by2,by3⟩ := hBy.cell2
 have HIx := zh hIx
 have HIy := zh hIy
 have HBx := zh hBx
 have HBy := zh hBy
 clear hBx hBy hIx hIy
 go_wp2_with fail
 refine (IsZero_any _ x _ HIx.out).mono ?_
 rw [decide_eq_true hx0]
 rintro e w2 ⟨rfl,hF⟩
 clear bx0 bx1 bx2 bx3 by0 by1 by2 by3 HIx HIy HBx HBy
 replace HX := zh (HX.out.ext hF)
 replace HY := zh (HY.out.ext hF)
 replace HR := zh (HR.out.ext hF)
 replace HE := zh (HE.out.trans hF)
 clear hF
 obtain ⟨y0,y1,y2,y3,y4,y5,y6,y7⟩ := HR.out.cell4
 clear hx0 hy
 go_wp2
 exact fin_rat rfl rfl (HR.out.put4 _ _ _ _) (IntIs.zero _) (IntIs.zero _) (Fr.local_ HE.out (Fr.set4 _ _ _ _) (by omega))
set_option maxHeartbeats 4000000 in
set_option maxRecDepth 100000 in
theorem Fraction_neg (a b : Value) (xo yo x y : Int) (w : World) (hgl : Glob w) (ha : IntIs w a xo) (hb : IntIs w b yo) (hxo : -xo = x) (hyo : -yo = y) (hfx : Fits x) (hfy : Fits y) (hgk : GcdOk x y) (h80 : wl y.natAbs < 80) (hx0 : x ≠ 0) (hy : 0 < y) : Calls Tryz.prog 62 #[a,b] w (RetRat w (Rat.divInt x y)) := by
 obtain ⟨s,A,l,c,rfl⟩ := ha.shape
 obtain ⟨t,B,l',c',rfl⟩ := hb.shape
 have HA := zh ha
 have HB := zh hb
 have HGl := zh hgl
 have HFx := zh hfx
 have HFy := zh hfy
 have HGk := zh hgk
 have Hy80 := zh h80
 have Hxo := zh hxo
 have Hyo := zh hyo
 have hyn : yo < 0 := by omega
 have hxn : ¬ xo = 0 := by omega
 clear ha hb hfx hfy hgk h80 hgl hxo hyo
 go_enter Tryz.func62,Tryz.ntmps62
 go_wp2_with fail
 generalize hwb : World.alloc (World.alloc (World.alloc w _) _) _ = wb
 obtain ⟨hB0,hB1,hB2,hE⟩ := frac_blocks hwb
 have HX : Hid (IntAt wb w.heap.size xo) := ⟨_,_,_,_,hB0,HA.out.ext hE⟩
 have HY : Hid (IntAt wb (w.heap.size + 1) yo) := ⟨_,_,_,_,hB1,HB.out.ext hE⟩
 have HR := zh hB2
 have HE := zh hE
 have hrR : w.heap.size ≤ w.heap.size + 1 + 1 := by omega
 have hXY : w.heap.size ≠ w.heap.size + 1 := by omega
 have hXR : w.heap.size ≠ w.heap.size + 1 + 1 := by omega
 have hYR : w.heap.size + 1 ≠ w.heap.size + 1 + 1 := by omega
 have HB1 := zh (HB.out.ext hE)
 clear hwb hB0 hB1 hB2 hE HA HB
 generalize hRr : w.heap.size + 1 + 1 = Rr at *
 generalize hYy : w.heap.size + 1 = Y at *
 obtain ⟨X,hXx⟩ : ∃ X,w.heap.size = X := ⟨_,rfl⟩
 rw [hXx] at HX hXY hXR
 rw [hXx]
 refine (IsZero_any _ yo _ HB1.out).mono ?_
 rw [decide_eq_false (show ¬ yo = 0 by omega)]
 rintro e w1 ⟨rfl,hF⟩
 clear HB1
 replace HX := zh (HX.out.ext hF)
 replace HY := zh (HY.out.ext hF)
 replace HR := zh (HR.out.ext hF)
 replace HE := zh (HE.out.trans hF)
 clear hF
 obtain ⟨sx,Ax,lx,cx,hBx,hIx⟩ := HX.out
 obtain ⟨sy,Ay,ly,cy,hBy,hIy⟩ := HY.out
 obtain ⟨bx0,bx1,bx2,bx3⟩ := hBx.cell2
 obtain ⟨by0,by1,by2,by3⟩ := hBy.cell2
 have HIx := zh hIx
 have HIy := zh hIy
 have HBx := zh hBx
 have HBy := zh hBy
 clear hBx hBy hIx hIy
 go_wp2_with fail
 refine (IsZero_any _ xo _ HIx.out).mono ?_
 rw [decide_eq_false hxn]
 rintro e w2 ⟨rfl,hF⟩
 clear bx0 bx1 bx2 bx3 by0 by1 by2 by3 HIx HIy HBx HBy
 replace HX := zh (HX.out.ext hF)
 replace HY := zh (HY.out.ext hF)
 replace HR := zh (HR.out.ext hF)
 replace HE := zh (HE.out.trans hF)
 clear hF
 obtain ⟨sx,Ax,lx,cx,hBx,hIx⟩ := HX.out
 obtain ⟨sy,Ay,ly,cy,hBy,hIy⟩ := HY.out
 obtain ⟨bx0,bx1,bx2,bx3⟩ := hBx.cell2
 obtain ⟨by0,by1,by2,by3⟩ := hBy.cell2
 have HIx := zh hIx
 have HIy := zh hIy
 have HBx := zh hBx
 have HBy := zh hBy
 clear hBx hBy hIx hIy
 go_wp2_with fail
 refine (Sign_any _ yo _ HIy.out).mono ?_
 rw [Int.sign_eq_neg_one_of_neg hyn]
 rintro e w3 ⟨rfl,hF⟩
 clear bx0 bx1 bx2 bx3 by0 by1 by2 by3 HIx HIy HBx HBy
 replace HX := zh (HX.out.ext hF)
 replace HY := zh (HY.out.ext hF)
 replace HR := zh (HR.out.ext hF)
 replace HE := zh (HE.out.trans hF)
 clear hF
 obtain ⟨sx,Ax,lx,cx,hBx,hIx⟩ := HX.out
 obtain ⟨sy,Ay,ly,cy,hBy,hIy⟩ := HY.out
 obtain ⟨bx0,bx1,bx2,bx3⟩ := hBx.cell2
 obtain ⟨by0,by1,by2,by3⟩ := hBy.cell2
 have HIx := zh hIx
 have HIy := zh hIy
 have HBx := zh hBx
 have HBy := zh hBy
 clear hBx hBy hIx hIy
 go_wp2_with fail
 refine wp_region_T 4 (fun w' => (w'.cell? ⟨X,0,none⟩ = some (.bool sx) ∧ w'.cell? ⟨X,1,none⟩ = some (.slice Ax lx cx)) ∧ (w'.cell? ⟨Y,0,none⟩ = some (.bool sy) ∧ w'.cell? ⟨Y,1,none⟩ = some (.slice Ay ly cy))) follows_mixed ?_
 refine wpT_take 0 rfl (by kernel_rfl) (fun _ _ _ h => h) (keepI2 HBx.out HBy.out (Fr.refl _ _).drew) (fun _ => yields_int rfl rfl rfl (fun _ h => h.1)) (fun hS => ?_)
 refine wpT_take 2 rfl (by kernel_rfl) (fun _ _ _ h => h) hS (fun _ => yields_int rfl rfl rfl (fun _ h => h.2)) (fun hS => ?_)
 refine wpT_only 1 rfl (by kernel_rfl) rfl (fun K hK => ?_)
 go_simp
 refine (Neg_any _ xo _ (HIx.out.ext (Fr.refl _ _).drew)).mono ?_
 rw [Hxo.out]
 rintro e wq ⟨uq,rfl,hIq,hFq⟩
 obtain ⟨sq,Aq,lq,cq,rfl⟩ := hIq.shape
 replace hFq := Fr.undrew hFq
 refine hK _ _ (keepI2 HBx.out HBy.out hFq) ?_
 refine wpT_only 3 rfl (by kernel_rfl) rfl (fun K hK => ?_)
 go_simp
 refine (Neg_any _ yo _ (HIy.out.ext hFq)).mono ?_
 rw [Hyo.out]
 rintro e wr ⟨ur,rfl,hIr,hFr⟩
 obtain ⟨sr,Ar,lr,cr,rfl⟩ := hIr.shape
 refine hK _ _ (keepI2 HBx.out HBy.out (hFq.trans hFr)) ?_
 clear hK
 have hIq := hIq.ext hFr
 have hF := hFq.trans hFr
 have HIq := zh hIq
 have HIr := zh hIr
 clear hFq hFr hIr hIq hS
 clear bx0 bx1 bx2 bx3 by0 by1 by2 by3 HIx HIy HBx HBy
 replace HX := zh (HX.out.ext hF)
 replace HY := zh (HY.out.ext hF)
 replace HR := zh (HR.out.ext hF)
 replace HE := zh (HE.out.trans hF)
 clear hF
 obtain ⟨sx,Ax,lx,cx,hBx,hIx⟩ := HX.out
 obtain ⟨sy,Ay,ly,cy,hBy,hIy⟩ := HY.out
 obtain ⟨bx0,bx1,bx2,bx3⟩ := hBx.cell2
 obtain ⟨by0,by1,by2,by3⟩ := hBy.cell2
 have HIx := zh hIx
 have HIy := zh hIy
 have HBx := zh hBx
 have HBy := zh hBy
 clear hBx hBy hIx hIy
 refine wpT_tail (l := [_,_]) 4 rfl (by kernel_rfl) ?_
 go_wp2_with fail
 have k1 := IntIs.away (a := .bool sq) (b := .slice Aq lq cq) HIq.out HX.out
 have k2 := IntIs.away (a := .bool sq) (b := .slice Aq lq cq) HIr.out HX.out
 have k3 := HX.out.put HIq.out
 have k4 := IntAt.away (a := .bool sq) (b := .slice Aq lq cq) HY.out HX.out (Ne.symm hXY)
 have k5 := HR.out.fr (Fr.set2 (r := X) (i := 0) (j := 1) (.bool sq) (.slice Aq lq cq)) (Ne.symm hXR)
 have k6 := Fr.local_ HE.out (Fr.set2 (r := X) (i := 0) (j := 1) (.bool sq) (.slice Aq lq cq)) (Nat.le_of_eq hXx)
 generalize World.setCell (World.setCell _ ⟨X,0,none⟩ _) ⟨X,1,none⟩ _ = wx at *
 have m1 := IntIs.away (a := .bool sr) (b := .slice Ar lr cr) k1 k4
 have m3 := IntAt.away (a := .bool sr) (b := .slice Ar lr cr) k3 k4 hXY
 have m4 := k4.put k2
 have m2 := IntIs.away (a := .bool sr) (b := .slice Ar lr cr) k2 k4
 have m5 := k5.fr (Fr.set2 (r := Y) (i := 0) (j := 1) (.bool sr) (.slice Ar lr cr)) (Ne.symm hYR)
 have m6 := Fr.local_ k6 (Fr.set2 (r := Y) (i := 0) (j := 1) (.bool sr) (.slice Ar lr cr)) (by omega)
 generalize World.setCell (World.setCell wx ⟨Y,0,none⟩ _) ⟨Y,1,none⟩ _ = wy at *
 replace HX : Hid (IntAt wy X x) := m3
 replace HY : Hid (IntAt wy Y y) := m4
 replace HR := zh m5
 replace HE := zh m6
 refine (IsOne_any _ y _ m2).mono ?_
 clear k1 k2 k3 k4 k5 k6 m1 m2 m3 m4 m5 m6 HIq HIr
 clear bx0 bx1 bx2 bx3 by0 by1 by2 by3 HIx HIy HBx HBy
 obtain ⟨sx,Ax,lx,cx,hBx,hIx⟩ := HX.out
 obtain ⟨sy,Ay,ly,cy,hBy,hIy⟩ := HY.out
 obtain ⟨bx0,bx1,bx2,bx3⟩ := hBx.cell2
 obtain ⟨by0,by1,by2,by3⟩ := hBy.cell2
 have HIx := zh hIx
 have HIy := zh hIy
 have HBx := zh hBx
 have HBy := zh hBy
 clear hBx hBy hIx hIy
 have HG : Hid (Glob _) := HGl.out.ext HE.out
 by_cases h1 : y = 1
 ·rw [decide_eq_true h1]
  rintro e wa ⟨rfl,hF⟩
  have HQ : Hid ((Rat.divInt x y).num = x ∧ denF (Rat.divInt x y) = 0) := frac_one h1
  clear bx0 bx1 bx2 bx3 by0 by1 by2 by3 HIx HIy HBx HBy
  replace HX := zh (HX.out.ext hF)
  replace HY := zh (HY.out.ext hF)
  replace HR := zh (HR.out.ext hF)
  replace HE := zh (HE.out.trans hF)
  clear hF
  obtain ⟨sx,Ax,lx,cx,hBx,hIx⟩ := HX.out
  obtain ⟨sy,Ay,ly,cy,hBy,hIy⟩ := HY.out
  obtain ⟨bx0,bx1,bx2,bx3⟩ := hBx.cell2
  obtain ⟨by0,by1,by2,by3⟩ := hBy.cell2
  have HIx := zh hIx
  have HIy := zh hIy
  have HBx := zh hBx
  have HBy := zh hBy
  clear hBx hBy hIx hIy
  obtain ⟨y0,y1,y2,y3,y4,y5,y6,y7⟩ := HR.out.cell4
  clear h1
  go_wp2
  refine fin_rat rfl rfl (HR.out.put4 _ _ _ _) ?_ ?_ (Fr.local_ HE.out (Fr.set4 _ _ _ _) hrR)
  ·rw [HQ.out.1]; exact HIx.out.other HR.out noWords4 (Fr.set4 _ _ _ _)
  ·rw [HQ.out.2]; exact IntIs.zero _
 ·rw [decide_eq_false h1]
  rintro e wa ⟨rfl,hF⟩
  clear bx0 bx1 bx2 bx3 by0 by1 by2 by3 HIx HIy HBx HBy
  replace HX := zh (HX.out.ext hF)
  replace HY := zh (HY.out.ext hF)
  replace HR := zh (HR.out.ext hF)
  replace HE := zh (HE.out.trans hF)
  clear hF
  obtain ⟨sx,Ax,lx,cx,hBx,hIx⟩ := HX.out
  obtain ⟨sy,Ay,ly,cy,hBy,hIy⟩ := HY.out
  obtain ⟨bx0,bx1,bx2,bx3⟩ := hBx.cell2
  obtain ⟨by0,by1,by2,by3⟩ := hBy.cell2
  have HIx := zh hIx
  have HIy := zh hIy
  have HBx := zh hBx
  have HBy := zh hBy
  clear hBx hBy hIx hIy
  clear h1
  go_wp2_with fail
  refine (GCD_any _ _ x y _ (HGl.out.ext HE.out) HIx.out HIy.out HFx.out HFy.out HGk.out).mono ?_
  rintro e wg ⟨ug,rfl,hIg,hF⟩
  obtain ⟨sg_,Ag,lg,cg,rfl⟩ := hIg.shape
  have HIg := zh hIg
  clear hIg
  clear bx0 bx1 bx2 bx3 by0 by1 by2 by3 HIx HIy HBx HBy
  replace HX := zh (HX.out.ext hF)
  replace HY := zh (HY.out.ext hF)
  replace HR := zh (HR.out.ext hF)
  replace HE := zh (HE.out.trans hF)
  clear hF
  obtain ⟨sx,Ax,lx,cx,hBx,hIx⟩ := HX.out
  obtain ⟨sy,Ay,ly,cy,hBy,hIy⟩ := HY.out
  obtain ⟨bx0,bx1,bx2,bx3⟩ := hBx.cell2
  obtain ⟨by0,by1,by2,by3⟩ := hBy.cell2
  have HIx := zh hIx
  have HIy := zh hIy
  have HBx := zh hBx
  have HBy := zh hBy
  clear hBx hBy hIx hIy
  go_wp2_with fail
  generalize hwb : World.alloc wg _ = wh
  obtain ⟨hBg,hF⟩ := Blk.one hwb
  have HAg : Hid (IntAt wh wg.heap.size (Int.gcd x y : Int)) := ⟨_,_,_,_,hBg,HIg.out.ext hF⟩
  have hXg : X < wg.heap.size := HBx.out.lt
  have hYg : Y < wg.heap.size := HBy.out.lt
  have hRg : Rr < wg.heap.size := HR.out.lt
  generalize wg.heap.size = G at *
  replace HIg := zh (HIg.out.ext hF)
  clear hwb
  clear bx0 bx1 bx2 bx3 by0 by1 by2 by3 HIx HIy HBx HBy
  replace HX := zh (HX.out.ext hF)
  replace HY := zh (HY.out.ext hF)
  replace HR := zh (HR.out.ext hF)
  replace HE := zh (HE.out.trans hF)
  clear hF
  obtain ⟨sx,Ax,lx,cx,hBx,hIx⟩ := HX.out
  obtain ⟨sy,Ay,ly,cy,hBy,hIy⟩ := HY.out
  obtain ⟨bx0,bx1,bx2,bx3⟩ := hBx.cell2
  obtain ⟨by0,by1,by2,by3⟩ := hBy.cell2
  have HIx := zh hIx
  have HIy := zh hIy
  have HBx := zh hBx
  have HBy := zh hBy
  clear hBx hBy hIx hIy
  refine (IsOne_any _ _ _ HIg.out).mono ?_
  by_cases h2 : ((Int.gcd x y : Nat) : Int) = 1
  ·rw [decide_eq_true h2]
   rintro e wi ⟨rfl,hF⟩
   have HQ : Hid ((Rat.divInt x y).num = x ∧ ((Rat.divInt x y).den : Int) = y) := frac_coprime hy h2
   clear h2 HAg HIg
   clear bx0 bx1 bx2 bx3 by0 by1 by2 by3 HIx HIy HBx HBy
   replace HX := zh (HX.out.ext hF)
   replace HY := zh (HY.out.ext hF)
   replace HR := zh (HR.out.ext hF)
   replace HE := zh (HE.out.trans hF)
   clear hF
   obtain ⟨sx,Ax,lx,cx,hBx,hIx⟩ := HX.out
   obtain ⟨sy,Ay,ly,cy,hBy,hIy⟩ := HY.out
   obtain ⟨bx0,bx1,bx2,bx3⟩ := hBx.cell2
   obtain ⟨by0,by1,by2,by3⟩ := hBy.cell2
   have HIx := zh hIx
   have HIy := zh hIy
   have HBx := zh hBx
   have HBy := zh hBy
   clear hBx hBy hIx hIy
   go_wp2_with fail
   refine (lowest_any _ _ x y (Rat.divInt x y) _ HIx.out HIy.out HQ.out).mono ?_
   rintro e wl_ ⟨ul,rfl,hRl,hF⟩
   obtain ⟨s,t,A,B,l,c,l',c',rfl,hIn,hId⟩ := hRl
   have HIn := zh hIn
   have HId := zh hId
   clear hIn hId
   clear bx0 bx1 bx2 bx3 by0 by1 by2 by3 HIx HIy HBx HBy
   replace HX := zh (HX.out.ext hF)
   replace HY := zh (HY.out.ext hF)
   replace HR := zh (HR.out.ext hF)
   replace HE := zh (HE.out.trans hF)
   clear hF
   obtain ⟨y0,y1,y2,y3,y4,y5,y6,y7⟩ := HR.out.cell4
   go_wp2
   exact fin_rat rfl rfl (HR.out.put4 _ _ _ _) (HIn.out.other HR.out noWords4 (Fr.set4 _ _ _ _)) (HId.out.other HR.out noWords4 (Fr.set4 _ _ _ _)) (Fr.local_ HE.out (Fr.set4 _ _ _ _) hrR)
  ·rw [decide_eq_false h2]
   rintro e wi ⟨rfl,hF⟩
   have HQ : Hid ((Rat.divInt x y).num = x.tdiv (Int.gcd x y : Int) ∧ ((Rat.divInt x y).den : Int) = y.tdiv (Int.gcd x y : Int)) := frac_gcd hy
   have Hg0 : Hid (((Int.gcd x y : Nat) : Int) ≠ 0) := gcd_ne hy
   have Hg80 : Hid (wl (((Int.gcd x y : Nat) : Int)).natAbs < 80) := gcd_wl hy Hy80.out
   clear h2 HIg
   clear bx0 bx1 bx2 bx3 by0 by1 by2 by3 HIx HIy HBx HBy
   replace HX := zh (HX.out.ext hF)
   replace HY := zh (HY.out.ext hF)
   replace HR := zh (HR.out.ext hF)
   replace HAg := zh (HAg.out.ext hF)
   replace HE := zh (HE.out.trans hF)
   clear hF
   obtain ⟨sx,Ax,lx,cx,hBx,hIx⟩ := HX.out
   obtain ⟨sy,Ay,ly,cy,hBy,hIy⟩ := HY.out
   obtain ⟨bx0,bx1,bx2,bx3⟩ := hBx.cell2
   obtain ⟨by0,by1,by2,by3⟩ := hBy.cell2
   have HIx := zh hIx
   have HIy := zh hIy
   have HBx := zh hBx
   have HBy := zh hBy
   clear hBx hBy hIx hIy
   obtain ⟨sg_,Ag,lg,cg,hBg,hIg⟩ := HAg.out
   have HBg := zh hBg
   have HIg := zh hIg
   clear hBg hIg
   generalize ((Int.gcd x y : Nat) : Int) = g at *
   obtain ⟨x',hx'⟩ : ∃ x',x.tdiv g = x' := ⟨_,rfl⟩
   obtain ⟨y',hy'⟩ : ∃ y',y.tdiv g = y' := ⟨_,rfl⟩
   go_wp2_with fail
   refine wp_region_T 6 (fun w' => (w'.cell? ⟨X,0,none⟩ = some (.bool sx) ∧ w'.cell? ⟨X,1,none⟩ = some (.slice Ax lx cx)) ∧ (w'.cell? ⟨Y,0,none⟩ = some (.bool sy) ∧ w'.cell? ⟨Y,1,none⟩ = some (.slice Ay ly cy)) ∧ (w'.cell? ⟨G,0,none⟩ = some (.bool sg_) ∧ w'.cell? ⟨G,1,none⟩ = some (.slice Ag lg cg))) follows_mixed ?_
   refine wpT_take 0 rfl (by kernel_rfl) (fun _ _ _ h => h) (keepI3 HBx.out HBy.out HBg.out (Fr.refl _ _).drew) (fun _ => yields_int rfl rfl rfl (fun _ h => h.1)) (fun hS => ?_)
   refine wpT_take 1 rfl (by kernel_rfl) (fun _ _ _ h => h) hS (fun _ => yields_int rfl rfl rfl (fun _ h => h.2.2)) (fun hS => ?_)
   refine wpT_take 3 rfl (by kernel_rfl) (fun _ _ _ h => h) hS (fun _ => yields_int rfl rfl rfl (fun _ h => h.2.1)) (fun hS => ?_)
   refine wpT_take 4 rfl (by kernel_rfl) (fun _ _ _ h => h) hS (fun _ => yields_int rfl rfl rfl (fun _ h => h.2.2)) (fun hS => ?_)
   refine wpT_only 2 rfl (by kernel_rfl) rfl (fun K hK => ?_)
   go_simp
   refine (Quo_any _ _ x g _ (HIx.out.ext (Fr.refl _ _).drew) (HIg.out.ext (Fr.refl _ _).drew) HFx.out Hg80.out Hg0.out).mono ?_
   rw [hx']
   rintro e wq ⟨uq,rfl,hIq,hFq⟩
   obtain ⟨sq,Aq,lq,cq,rfl⟩ := hIq.shape
   replace hFq := Fr.undrew hFq
   refine hK _ _ (keepI3 HBx.out HBy.out HBg.out hFq) ?_
   refine wpT_only 5 rfl (by kernel_rfl) rfl (fun K hK => ?_)
   go_simp
   refine (Quo_any _ _ y g _ (HIy.out.ext hFq) (HIg.out.ext hFq) HFy.out Hg80.out Hg0.out).mono ?_
   rw [hy']
   rintro e wr ⟨ur,rfl,hIr,hFr⟩
   obtain ⟨sr,Ar,lr,cr,rfl⟩ := hIr.shape
   refine hK _ _ (keepI3 HBx.out HBy.out HBg.out (hFq.trans hFr)) ?_
   clear hK
   have hIq := hIq.ext hFr
   have hF := hFq.trans hFr
   have HIq := zh hIq
   have HIr := zh hIr
   have HQ' : Hid ((Rat.divInt x y).num = x' ∧ ((Rat.divInt x y).den : Int) = y') := by rw [Hid,← hx',← hy']; exact HQ.out
   clear hFq hFr hIr hIq hx' hy' HAg HIg HBg hS
   clear bx0 bx1 bx2 bx3 by0 by1 by2 by3 HIx HIy HBx HBy
   replace HX := zh (HX.out.ext hF)
   replace HY := zh (HY.out.ext hF)
   replace HR := zh (HR.out.ext hF)
   replace HE := zh (HE.out.trans hF)
   clear hF
   obtain ⟨sx,Ax,lx,cx,hBx,hIx⟩ := HX.out
   obtain ⟨sy,Ay,ly,cy,hBy,hIy⟩ := HY.out
   obtain ⟨bx0,bx1,bx2,bx3⟩ := hBx.cell2
   obtain ⟨by0,by1,by2,by3⟩ := hBy.cell2
   have HIx := zh hIx
   have HIy := zh hIy
   have HBx := zh hBx
   have HBy := zh hBy
   clear hBx hBy hIx hIy
   refine wpT_tail (l := [_,_]) 6 rfl (by kernel_rfl) ?_
   go_wp2_with fail
   have k1 := IntIs.away (a := .bool sq) (b := .slice Aq lq cq) HIq.out HX.out
   have k2 := IntIs.away (a := .bool sq) (b := .slice Aq lq cq) HIr.out HX.out
   have k3 := HX.out.put HIq.out
   have k4 := IntAt.away (a := .bool sq) (b := .slice Aq lq cq) HY.out HX.out (Ne.symm hXY)
   have k5 := HR.out.fr (Fr.set2 (r := X) (i := 0) (j := 1) (.bool sq) (.slice Aq lq cq)) (Ne.symm hXR)
   have k6 := Fr.local_ HE.out (Fr.set2 (r := X) (i := 0) (j := 1) (.bool sq) (.slice Aq lq cq)) (Nat.le_of_eq hXx)
   generalize World.setCell (World.setCell _ ⟨X,0,none⟩ _) ⟨X,1,none⟩ _ = wx at *
   have m1 := IntIs.away (a := .bool sr) (b := .slice Ar lr cr) k1 k4
   have m2 := IntIs.away (a := .bool sr) (b := .slice Ar lr cr) k2 k4
   have m5 := k5.fr (Fr.set2 (r := Y) (i := 0) (j := 1) (.bool sr) (.slice Ar lr cr)) (Ne.symm hYR)
   have m6 := Fr.local_ k6 (Fr.set2 (r := Y) (i := 0) (j := 1) (.bool sr) (.slice Ar lr cr)) (by omega)
   generalize World.setCell (World.setCell wx ⟨Y,0,none⟩ _) ⟨Y,1,none⟩ _ = wy at *
   have HR2 := zh m5
   have HE2 := zh m6
   refine (lowest_any _ _ x' y' (Rat.divInt x y) _ m1 m2 HQ'.out).mono ?_
   rintro e wl_ ⟨ul,rfl,hRl,hF⟩
   obtain ⟨s,t,A,B,l,c,l',c',rfl,hIn,hId⟩ := hRl
   have HIn := zh hIn
   have HId := zh hId
   have HR3 := zh (HR2.out.ext hF)
   have HE3 := zh (HE2.out.trans hF)
   clear hIn hId hF k1 k2 k3 k4 k5 k6 m1 m2 m5 m6
   obtain ⟨y0,y1,y2,y3,y4,y5,y6,y7⟩ := HR3.out.cell4
   go_wp2
   exact fin_rat rfl rfl (HR3.out.put4 _ _ _ _) (HIn.out.other HR3.out noWords4 (Fr.set4 _ _ _ _)) (HId.out.other HR3.out noWords4 (Fr.set4 _ _ _ _)) (Fr.local_ HE3.out (Fr.set4 _ _ _ _) hrR)
theorem Fraction_any (a b : Value) (x y : Int) (w : World) (hgl : Glob w) (ha : IntIs w a x) (hb : IntIs w b y) (hfx : Fits x) (hfy : Fits y) (hgk : GcdOk x y) (h80 : wl y.natAbs < 80) (hy : y ≠ 0) : Calls Tryz.prog 62 #[a,b] w (RetRat w (Rat.divInt x y)) := by
 by_cases hx : x = 0
 ·have h := Fraction_zero a b x y w ha hb hx hy
  rwa [hx,Rat.zero_divInt]
 rcases Int.lt_or_le 0 y with h | h
 ·exact Fraction_pos a b x y w hgl ha hb hfx hfy hgk h80 hx h
 ·rw [← Rat.neg_divInt_neg]
  refine Fraction_neg a b x y (-x) (-y) w hgl ha hb rfl rfl ?_ ?_ ?_ ?_ (by omega) (by omega)
  ·unfold Fits; rw [Int.natAbs_neg]; exact hfx
  ·unfold Fits; rw [Int.natAbs_neg]; exact hfy
  ·unfold GcdOk; rw [Int.natAbs_neg,Int.natAbs_neg]; exact hgk
  ·rw [Int.natAbs_neg]; exact h80
end Go.Proofs.YtibipjlohahekaaGreatDoor

namespace Go.Proofs.YtibipjlohahekaaGreatDoor
open Go.RowKit
theorem digit_back {c : UInt8} (h : isDig c = true) : UInt8.ofNat (48 + (c.toNat - 48)) = c := by
 have := isDig_le h
 apply UInt8.toNat.inj
 rw [UInt8.toNat_ofNat']
 have := c.toNat_lt
 omega
theorem dec_of : ∀ (k : Nat) (l : List UInt8),l.length = k → l.all isDig = true → l ≠ [] → l.head? ≠ some 48 → Lib.decDigits (decVal l) = l := by
 intro k
 induction k with
 | zero => intro l hl _ h0; exact absurd (List.length_eq_zero_iff.1 hl) h0
 | succ k ih =>
   intro l hl hd h0 h48
   obtain ⟨l',c,rfl⟩ : ∃ l' c,l = l' ++ [c] := by
    rcases List.eq_nil_or_concat l with h | ⟨l',c,h⟩
    ·exact absurd h h0
    ·exact ⟨l',c,by simpa using h⟩
   rw [List.all_append,Bool.and_eq_true] at hd
   have hc : isDig c = true := by simpa using hd.2
   have hcb := isDig_le hc
   rw [decVal_snoc]
   by_cases hl0 : l' = []
   ·subst hl0
    have e : decVal [] = 0 := rfl
    rw [e,Nat.mul_zero,Nat.zero_add,dec_one (by omega),digit_back hc]; rfl
   ·have hh : l'.head? ≠ some 48 := by
     rw [List.head?_append] at h48
     cases hx : l'.head? with
     | none => exact absurd (List.head?_eq_none_iff.1 hx) hl0
     | some x => rw [hx] at h48; exact h48
    have h1 := ih l' (by simp at hl; exact hl) hd.1 hl0 hh
    have hp := (decVal_pos hd.1 hl0 hh).1
    rw [dec_succ (by omega),show (10 * decVal l' + (c.toNat - 48)) / 10 = decVal l' by omega,show (10 * decVal l' + (c.toNat - 48)) % 10 = c.toNat - 48 by omega,h1,digit_back hc]
theorem head_dec_ne (n : Nat) : (Lib.decDigits n).head? ≠ some 45 := by
 intro e
 cases h : Lib.decDigits n with
 | nil => exact decDigits_ne n h
 | cons x xs =>
   rw [h] at e
   simp only [List.head?_cons,Option.some.injEq] at e
   subst e
   have := dec_all n
   rw [h] at this
   simp only [List.all_cons,Bool.and_eq_true] at this
   exact absurd this.1 (by decide)
theorem takeWhile_stop {p : UInt8 → Bool} {l r : List UInt8} {c : UInt8} (h : l.all p = true) (hc : p c = false) : (l ++ c :: r).takeWhile p = l ∧ (l ++ c :: r).dropWhile p = c :: r := by
 induction l with
 | nil => simp [hc]
 | cons x xs ih =>
   simp only [List.all_cons,Bool.and_eq_true] at h
   obtain ⟨h1,h2⟩ := ih h.2
   rw [List.cons_append,List.takeWhile_cons,List.dropWhile_cons,h.1]
   simp [h1,h2]
theorem unsign_itoa (z : Int) (r : List UInt8) : unsign (Lib.itoa z ++ r) = (decide (z < 0),Lib.decDigits z.natAbs ++ r) := by
 by_cases h : z < 0
 ·rw [itoa_neg h,decide_eq_true h]
  unfold unsign
  rw [if_pos (by simp)]
  rfl
 ·rw [itoa_nn (by omega),decide_eq_false h]
  unfold unsign
  rw [if_neg]
  intro e
  rw [List.head?_append] at e
  cases hx : (Lib.decDigits z.natAbs).head? with
  | none => exact absurd (List.head?_eq_none_iff.1 hx) (decDigits_ne _)
  | some c =>
    rw [hx] at e
    exact head_dec_ne _ (hx.trans e)
theorem sg_abs (z : Int) : sg (decide (z < 0)) z.natAbs = z := by
 unfold sg
 split
 ·rename_i h; have := of_decide_eq_true h; omega
 ·rename_i h; have : ¬ z < 0 := fun k => h (decide_eq_true k); omega
theorem whole_self {q : Rat} (h : q.den = 1) : ((q.num : Int) : Rat) = q := by
 apply Rat.ext <;> simp [h]
theorem num_ne {q : Rat} (h : q.den ≠ 1) : q.num ≠ 0 := by
 intro e
 have := q.reduced
 rw [e] at this
 simp [Nat.Coprime] at this
 exact h this
theorem itoa_den (n : Nat) : Lib.itoa (n : Int) = Lib.decDigits n := by
 rw [itoa_nn (by omega),Int.natAbs_natCast]
theorem split_text {q : Rat} (h : q.den ≠ 1) : splitF (ratText q) = (decide (q.num < 0),Lib.decDigits q.num.natAbs,Lib.decDigits q.den,true) := by
 have hn := num_ne h
 have hd := q.den_nz
 unfold ratText
 rw [if_neg h,itoa_den,List.append_assoc]
 unfold splitF
 rw [unsign_itoa]
 simp only []
 obtain ⟨h1,h2⟩ := takeWhile_stop (p := isDig) (r := Lib.decDigits q.den) (c := 47) (dec_all q.num.natAbs) (by decide)
 have e : Lib.decDigits q.num.natAbs ++ ([47] ++ Lib.decDigits q.den) = Lib.decDigits q.num.natAbs ++ 47 :: Lib.decDigits q.den := rfl
 rw [e,h1,h2]
 have hh := dec_head q.num.natAbs (by omega)
 rw [if_neg (fun e => hh (by rw [e]; rfl)),if_neg (fun e => e.elim (decDigits_ne _) hh),if_neg (by simp),if_neg (by simp)]
 simp only [List.tail_cons]
 obtain ⟨h3,h4⟩ := takeWhile_all (dec_all q.den)
 rw [h3,h4]
 have hh2 := dec_head q.den (by omega)
 have h49 : Lib.decDigits q.den ≠ [49] := fun e => by
  have := dec_val q.den
  rw [e] at this
  exact h (by rw [← this]; rfl)
 have hne := decDigits_ne q.den
 simp [hh2,h49,hne]
theorem read_text (q : Rat) : readF (ratText q) = some q := by
 by_cases h : q.den = 1
 ·unfold ratText
  rw [if_pos h,read_itoa,whole_self h]
 ·unfold readF
  rw [split_text h]
  simp only []
  rw [if_neg (decDigits_ne _),dec_val,dec_val,if_pos q.reduced,sg_abs,Rat.mkRat_self]
theorem sg_neg_lt {neg : Bool} {a : Nat} (h : a = 0 → neg = false) : (sg neg a < 0 ↔ neg = true) ∧ (sg neg a).natAbs = a := by
 cases neg with
 | false => simp [sg]
 | true =>
   have : a ≠ 0 := fun e => by cases h e
   simp [sg]; omega
theorem itoa_sg {neg : Bool} {a : Nat} (h : a = 0 → neg = false) : Lib.itoa (sg neg a) = (if neg then [45] else []) ++ Lib.decDigits a := by
 obtain ⟨h1,h2⟩ := sg_neg_lt h
 cases neg with
 | false => rw [itoa_nn (by simp [sg]),h2]; rfl
 | true => rw [itoa_neg (h1.2 rfl),h2]; rfl
theorem unsign_back {l r : List UInt8} {neg : Bool} (h : unsign l = (neg,r)) : l = (if neg then [45] else []) ++ r := by
 unfold unsign at h
 split at h
 ·rename_i hh
  injection h with h1 h2
  subst h1 h2
  cases l with
  | nil => cases hh
  | cons x xs => simp at hh; subst hh; rfl
 ·injection h with h1 h2
  subst h1 h2
  rfl
theorem text_of_read {l : List UInt8} {q : Rat} (h : readF l = some q) : ratText q = l := by
 unfold readF at h
 cases hs : splitF l with
 | mk neg r =>
   obtain ⟨num,den,ok⟩ := r
   rw [hs] at h
   cases ok with
   | false => cases h
   | true =>
     simp only [] at h
     have hdg := splitF_digits hs
     obtain ⟨s1,s2⟩ := splitF_den hs
     cases hu : unsign l with
     | mk neg' t =>
       have hl := unsign_back hu
       have htw : t.takeWhile isDig ++ t.dropWhile isDig = t := List.takeWhile_append_dropWhile
       unfold splitF at hs
       rw [hu] at hs
       simp only [] at hs
       split at hs
       ·-- zero
        rename_i h48
        injection hs with e1 hs; injection hs with e2 hs; injection hs with e3 e4
        subst e1 e2 e3
        simp at e4
        rw [if_pos rfl,h48] at h
        have hv : decVal [48] = 0 := rfl
        rw [hv] at h
        injection h with h
        rw [e4.1] at h hl
        rw [← h,hl,← htw,h48,e4.2]
        simp only [sg]
        unfold ratText
        rw [if_pos (by simp)]
        have : Lib.itoa ((0 : Nat) : Int) = [48] := by rw [itoa_den,dec_one (by omega)]; rfl
        simpa using this
       split at hs
       ·injection hs with _ hs; injection hs with _ hs; injection hs with _ hs; cases hs
       rename_i hn
       have hn1 : t.takeWhile isDig ≠ [] := fun e => hn (Or.inl e)
       have hn2 : (t.takeWhile isDig).head? ≠ some 48 := fun e => hn (Or.inr e)
       have hdn := dec_of _ _ rfl (all_takeWhile (p := isDig) t) hn1 hn2
       split at hs
       ·rename_i hr
        injection hs with e1 hs; injection hs with e2 hs; injection hs with e3 _
        subst e1 e2 e3
        rw [if_pos rfl] at h
        injection h with h
        rw [← h]
        unfold ratText
        rw [if_pos (by simp)]
        have hnum : (((sg neg' (decVal (t.takeWhile isDig)) : Int)) : Rat).num = sg neg' (decVal (t.takeWhile isDig)) := rfl
        rw [hnum,itoa_sg (fun e => (s2 e).1),hdn,hl]
        rw [hr,List.append_nil] at htw
        rw [htw]
       split at hs
       ·injection hs with _ hs; injection hs with _ hs; injection hs with _ hs; cases hs
       ·rename_i hr h47
        injection hs with e1 hs; injection hs with e2 hs; injection hs with e3 e4
        subst e1 e2
        rw [e3] at e4
        simp at e4
        obtain ⟨⟨⟨k1,k2⟩,k3⟩,k4⟩ := e4
        rw [if_neg k2] at h
        split at h
        ·rename_i hg
         injection h with h
         have h2 := s1 k2
         have hq : q.num = sg neg' (decVal (t.takeWhile isDig)) ∧ q.den = decVal den := by
          have := frac_coprime (x := sg neg' (decVal (t.takeWhile isDig))) (y := (decVal den : Int)) (by omega) (by
           unfold Int.gcd
           rw [(sg_neg_lt (fun e => (s2 e).1)).2,Int.natAbs_natCast,hg]; rfl)
          rw [Rat.divInt_ofNat,h] at this
          exact ⟨this.1,by have := this.2; omega⟩
         unfold ratText
         rw [if_neg (by rw [hq.2]; omega),hq.1,hq.2,itoa_sg (fun e => (s2 e).1),hdn,itoa_den,dec_of _ _ rfl hdg.2.1 k2 k3,hl]
         have htail : t.dropWhile isDig = 47 :: den := by
          cases hx : t.dropWhile isDig with
          | nil => exact absurd hx hr
          | cons c r =>
            rw [hx] at h47 k1 e3
            simp at h47 k1 e3
            subst h47
            have := List.takeWhile_append_dropWhile (p := isDig) (l := r)
            rw [e3,k1,List.append_nil] at this
            rw [this]
         rw [htail] at htw
         rw [List.append_assoc,List.append_assoc]
         congr 1
        ·cases h
theorem read_iff {l : List UInt8} {q : Rat} : readF l = some q ↔ ratText q = l :=
 ⟨text_of_read,fun h => by rw [← h]; exact read_text q⟩
end Go.Proofs.YtibipjlohahekaaGreatDoor

namespace Go.Proofs.YtibipjlohahekaaGreatDoor
open Go.RowKit
theorem denF_den {q : Rat} (h : q.den ≠ 1) : denF q = (q.den : Int) := by unfold denF; rw [if_neg h]
set_option maxHeartbeats 1000000 in
set_option maxRecDepth 100000 in
theorem Den_any (a : Value) (q : Rat) (w : World) (ha : RatIs w a q) : Calls Tryz.prog 89 #[a] w (RetInt w (q.den : Int)) := by
 obtain ⟨s,t,A,B,l,c,l',c',rfl,hn,hd⟩ := ha
 have HD := zh hd
 clear hn hd
 go_enter Tryz.func89,Tryz.ntmps89
 go_wp2_with fail
 generalize hwb : World.alloc (World.alloc w _) _ = wb
 have hB0 : Blk 70 wb w.heap.size #[.bool s, .slice A l c, .bool t, .slice B l' c'] := hwb ▸ (Blk.new _ _ _).alloc _
 have hB1 : Blk 63 wb (w.heap.size + 1) #[.bool false, .slice none 0 0] := by
  have h := Blk.new (w.alloc (.cells #[.bool s, .slice A l c, .bool t, .slice B l' c'] 70)) 63 #[.bool false, .slice none 0 0]
  have e : (w.alloc (.cells #[.bool s, .slice A l c, .bool t, .slice B l' c'] 70)).heap.size = w.heap.size + 1 := by simp
  rw [e,hwb] at h
  exact h
 have hE : Ext w wb := hwb ▸ ((Fr.refl _ _).alloc _).alloc _
 clear hwb
 by_cases h1 : q.den = 1
 ·have hz := denF_zero.2 h1
  rw [hz] at HD
  refine (IsZero_any _ _ _ (HD.out.ext hE)).mono ?_
  rw [decide_eq_true rfl]
  rintro e w1 ⟨rfl,hF⟩
  have HB1 := zh (hB1.ext hF)
  have HE := zh (hE.trans hF)
  have HQ : Hid ((q.den : Int) = 1) := by unfold Hid; omega
  clear hB0 hB1 hE hF hz h1
  go_wp2_with fail
  refine (New_pos 1 _ W64_one rfl rfl).mono ?_
  rintro e w2 ⟨u2,rfl,hI2,hF2⟩
  obtain ⟨s2,B2,l2,c3,rfl⟩ := hI2.shape
  have hB2 := HB1.out.ext hF2
  obtain ⟨x0,x1,x2,x3⟩ := hB2.cell2
  have HB2 := zh hB2
  have HI2 := zh hI2
  have HE2 := zh (HE.out.trans hF2)
  clear hB2 hI2 hF2
  go_wp2
  refine fin_int0 rfl rfl ((HB2.out.set_ 0 _).set_ 1 _) (by rw [HQ.out]; exact HI2.out.store2 HB2.out) ((HE2.out.setCell (Or.inr (by show _ ≤ w.heap.size + 1; omega)) _).setCell (Or.inr (by show _ ≤ w.heap.size + 1; omega)) _)
 ·have hz := denF_den h1
  have hne : denF q ≠ 0 := by rw [hz]; have := q.den_nz; omega
  refine (IsZero_any _ _ _ (HD.out.ext hE)).mono ?_
  rw [decide_eq_false hne]
  rintro e w1 ⟨rfl,hF⟩
  rw [hz] at HD
  have HI2 := zh (HD.out.ext (hE.trans hF))
  have HB1 := zh (hB1.ext hF)
  have HE := zh (hE.trans hF)
  obtain ⟨y0,y1,y2,y3,y4⟩ := (hB0.ext hF).cell4
  obtain ⟨x0,x1,x2,x3⟩ := HB1.out.cell2
  clear hB0 hB1 hE hF hz h1 hne HD
  go_wp2
  exact fin_int0 rfl rfl ((HB1.out.set_ 0 _).set_ 1 _) (HI2.out.store2 HB1.out) ((HE.out.setCell (Or.inr (by show _ ≤ w.heap.size + 1; omega)) _).setCell (Or.inr (by show _ ≤ w.heap.size + 1; omega)) _)
noncomputable def valF (l : List UInt8) : Rat := (readF l).getD 0
set_option maxHeartbeats 1000000 in
set_option maxRecDepth 100000 in
theorem value_any (s : ByteArray) (w : World) (hg : Glob w) (hok : ReadOk (bytes s)) : Calls Tryz.prog 75 #[.string s] w (RetRat w (valF (bytes s))) := by
 have HG := zh hg
 have HO := zh hok
 clear hg hok
 go_enter Tryz.func75,Tryz.ntmps75
 go_wp2_with fail
 generalize hwb : World.alloc w _ = wb
 obtain ⟨hB0,hE0⟩ := Blk.one hwb
 clear hwb
 refine (Read_any s _ (HG.out.ext hE0) HO.out).mono ?_
 rintro e w1 ⟨v,ok,rfl,hF1,hR⟩
 have hq : RatIs w1 v (valF (bytes s)) := by
  unfold valF
  rcases hR with ⟨_,q,h1,h2⟩ | ⟨_,h1,h2⟩
  ·rw [h1]; exact h2
  ·rw [h1]; exact h2
 obtain ⟨a,b,A,B,l,c,l',c',rfl,hn,hd⟩ := hq
 have HB := zh (hB0.ext hF1)
 have HE := zh (hE0.trans hF1)
 have HN := zh hn
 have HD := zh hd
 have hlt := (hB0.ext hF1).lt
 obtain ⟨y0,y1,y2,y3,y4,y5,y6,y7⟩ := (hB0.ext hF1).cell4
 clear hB0 hE0 hF1 hR hn hd
 generalize hr : w.heap.size = r at *
 have HR := zh hr
 clear hr
 go_wp2
 have hB2 := HB.out.put4 (.bool a) (.slice A l c) (.bool b) (.slice B l' c')
 have hF2 : Fr (fun i => i = r) w1 ((((w1.setCell ⟨r,0,none⟩ (.bool a)).setCell ⟨r,1,none⟩ (.slice A l c)).setCell ⟨r,2,none⟩ (.bool b)).setCell ⟨r,3,none⟩ (.slice B l' c')) := Fr.set4 _ _ _ _
 refine fin_rat rfl rfl (hB2.alloc _) ((HN.out.other HB.out noWords4 hF2).ext ((Fr.refl _ _).alloc _)) ((HD.out.other HB.out noWords4 hF2).ext ((Fr.refl _ _).alloc _)) ((Fr.local_ HE.out hF2 (by rw [HR.out]; exact Nat.le_refl _)).alloc _)
end Go.Proofs.YtibipjlohahekaaGreatDoor

namespace Go.Proofs.YtibipjlohahekaaGreatDoor
open Go.RowKit
theorem FormatInt_any (n : Int) (w : World) (hg : Glob w) (h0 : -9223372036854775808 ≤ n) (h1 : n ≤ 9223372036854775807) :
 Calls Tryz.prog 93 #[.int .i64 n, .int .i64 10] w (RetV w (.string ⟨(Lib.itoa n).toArray⟩)) :=
 (Tryz.strconv_FormatInt_10 n h0 h1 w hg.1).mono (by
  rintro e w' ⟨rfl,k,os,rfl⟩
  exact ⟨rfl,Fr.ofBelow (Lib.below_grow _ w (Nat.le_refl _) k os)⟩)
set_option maxHeartbeats 1000000 in
theorem FromInt_any (n : Int) (w : World) (hg : Glob w) (h0 : -9223372036854775808 ≤ n) (h1 : n ≤ 9223372036854775807) :
 Calls Tryz.prog 35 #[.int .i64 n] w (RetV w (.string ⟨(Lib.itoa n).toArray⟩)) := by
 have H := zh (FormatInt_any n w hg h0 h1)
 generalize Lib.itoa n = t at *
 clear hg
 go_enter Tryz.func35,Tryz.ntmps35
 go_wp2_with fail
 refine H.out.mono ?_
 rintro e w1 ⟨rfl,hF⟩
 have HF := zh hF
 clear hF
 go_wp2
 go_ret
 exact ⟨rfl,HF.out⟩
set_option maxHeartbeats 1000000 in
theorem formatShort_one (n : Int) (w : World) (hg : Glob w) (h0 : -9223372036854775808 ≤ n) (h1 : n ≤ 9223372036854775807) :
 Calls Tryz.prog 74 #[.int .i64 n, .int .i64 1] w (RetV w (.string ⟨(Lib.itoa n).toArray⟩)) := by
 have H := zh (FormatInt_any n w hg h0 h1)
 generalize Lib.itoa n = t at *
 clear hg
 go_enter Tryz.func74,Tryz.ntmps74
 go_wp2_with fail
 refine H.out.mono ?_
 rintro e w1 ⟨rfl,hF⟩
 have HF := zh hF
 clear hF
 go_wp2
 go_ret
 exact ⟨rfl,HF.out⟩
def RetI64 (w : World) (z : Int) (e : Ending) (w' : World) : Prop :=
 ∃ (z' : Int) (ok : Bool),e = .returned (.tuple #[.int .i64 z', .bool ok]) ∧ Hid (ok = true → z' = z ∧ -9223372036854775808 ≤ z ∧ z ≤ 9223372036854775807) ∧ Ext w w'
set_option maxHeartbeats 1000000 in
set_option maxRecDepth 100000 in
theorem Int64_any (a : Value) (z : Int) (w : World) (ha : IntIs w a z) : Calls Tryz.prog 117 #[a] w (RetI64 w z) := by
 obtain ⟨s,A,l,c,rfl,hN,hz,h0⟩ := ha.open
 obtain ⟨A',xs,c',he,hc,hX,hd,ht,hv⟩ := hN
 injection he with e1 e2 e3
 subst e1 e2 e3
 match xs,hX,hd,ht,hv with
 | [],hX,hd,ht,hv =>
   have hz0 : z = 0 := by simp at hv; omega
   have HZ : Hid ((0 : Int) = z ∧ -9223372036854775808 ≤ z ∧ z ≤ 9223372036854775807) := by unfold Hid; omega
   clear hX hd ht hv hz h0 hc hz0
   go_enter Tryz.func117,Tryz.ntmps117
   go_wp2
   go_ret2
   exact ⟨0,true,rfl,(fun _ => HZ.out),(Fr.refl _ _).alloc _⟩
 | [x],hX,hd,ht,hv =>
   obtain ⟨b,off,rfl,hb,hc0⟩ := hX.at (i := 0) (by simp)
   simp at hc0
   have hne := Nat.ne_of_lt hb
   have hxv : x = z.natAbs := by simpa using hv
   have hxW : x < 18446744073709551616 := by have := hd x (by simp); rwa [W64_eq] at this
   cases s with
   | false =>
     have hzz : z = (x : Int) := by simp [sg] at hz; omega
     by_cases hle : x ≤ 9223372036854775807
     ·have HZ : Hid ((x : Int) = z ∧ -9223372036854775808 ≤ z ∧ z ≤ 9223372036854775807) := by unfold Hid; omega
      have f1 : IntKind.i64.wrap (x : Int) = (x : Int) := IntWalk.i64_in _ (by omega)
      have t1 : decide ((x : Int) ≤ 9223372036854775807) = true := by simp; omega
      clear hX hd ht hv hz h0 hc hxv hzz hle hxW
      go_enter Tryz.func117,Tryz.ntmps117
      go_wp2
      go_ret2
      exact ⟨x,true,rfl,(fun _ => HZ.out),(Fr.refl _ _).alloc _⟩
     ·have t1 : decide ((x : Int) ≤ 9223372036854775807) = false := by simp; omega
      clear hX hd ht hv hz h0 hc hxv hzz hle hxW
      go_enter Tryz.func117,Tryz.ntmps117
      go_wp2
      go_ret2
      exact ⟨0,false,rfl,(fun h => by cases h),(Fr.refl _ _).alloc _⟩
   | true =>
     have hzz : z = -(x : Int) := by simp [sg] at hz; omega
     by_cases hle : x ≤ 9223372036854775808
     ·have HZ : Hid (-(x : Int) = z ∧ -9223372036854775808 ≤ z ∧ z ≤ 9223372036854775807) := by unfold Hid; omega
      have f1 : IntKind.i64.wrap (IntKind.u64.wrap (-(x : Int))) = -(x : Int) := by
       rw [IntKind.wrap_u64,IntKind.wrap_i64]; omega
      have t1 : decide ((x : Int) ≤ 9223372036854775808) = true := by simp; omega
      clear hX hd ht hv hz h0 hc hxv hzz hle hxW
      go_enter Tryz.func117,Tryz.ntmps117
      go_wp2
      go_ret2
      exact ⟨-(x : Int),true,rfl,(fun _ => HZ.out),(Fr.refl _ _).alloc _⟩
     ·have t1 : decide ((x : Int) ≤ 9223372036854775808) = false := by simp; omega
      clear hX hd ht hv hz h0 hc hxv hzz hle hxW
      go_enter Tryz.func117,Tryz.ntmps117
      go_wp2
      go_ret2
      exact ⟨0,false,rfl,(fun h => by cases h),(Fr.refl _ _).alloc _⟩
 | x :: y :: ys,hX,hd,ht,hv =>
   obtain ⟨b,off,rfl,hb,hc0⟩ := hX.at (i := 0) (by simp)
   simp at hc0
   have hne := Nat.ne_of_lt hb
   obtain ⟨k,hk⟩ : ∃ k,(x :: y :: ys).length = k := ⟨_,rfl⟩
   have hk2 : 2 ≤ k := by simp at hk; omega
   rw [hk]
   have t0 : ((k : Int) == 0) = false := by simp; omega
   clear hX hd ht hv hz h0 hc hk
   go_enter Tryz.func117,Tryz.ntmps117
   go_wp2
   go_ret2
   exact ⟨0,false,rfl,(fun h => by cases h),(Fr.refl _ _).alloc _⟩
set_option maxHeartbeats 1000000 in
set_option maxRecDepth 100000 in
theorem RString_whole (a : Value) (q : Rat) (w : World) (hg : Glob w) (ha : RatIs w a q) (h1 : q.den = 1) (hp : PrtOk q.num.natAbs) :
 Calls Tryz.prog 63 #[a] w (RetV w (.string ⟨(Lib.itoa q.num).toArray⟩)) := by
 obtain ⟨s,t,A,B,l,c,l',c',rfl,hn,hd⟩ := ha
 rw [denF_zero.2 h1] at hd
 generalize q.num = z at *
 have HN := zh hn
 have HD := zh hd
 have HG := zh hg
 have HP := zh hp
 clear hn hd h1 hg hp
 go_enter Tryz.func63,Tryz.ntmps63
 go_wp2_with fail
 generalize hwb : World.alloc w _ = wb
 obtain ⟨hB0,hE0⟩ := Blk.one hwb
 clear hwb
 refine (IsZero_any _ 0 _ (HD.out.ext hE0)).mono ?_
 rw [decide_eq_true rfl]
 rintro e w1 ⟨rfl,hF1⟩
 have HB1 := zh (hB0.ext hF1)
 have HE1 := zh (hE0.trans hF1)
 obtain ⟨x0,x1,x2,x3,_⟩ := (hB0.ext hF1).cell4
 clear hB0 hE0 hF1
 go_wp2_with fail
 refine (Int64_any _ z _ (HN.out.ext HE1.out)).mono ?_
 rintro e w2 ⟨z',ok,rfl,hR,hF2⟩
 have HB2 := zh (HB1.out.ext hF2)
 have HE2 := zh (HE1.out.trans hF2)
 obtain ⟨y0,y1,y2,y3,_⟩ := (HB1.out.ext hF2).cell4
 clear hF2 x0 x1 x2 x3 HB1 HE1
 cases ok with
 | true =>
   obtain ⟨rfl,r1,r2⟩ := hR.out rfl
   have HC := zh (FromInt_any z' w2 (HG.out.ext HE2.out) r1 r2)
   generalize Lib.itoa z' = txt at *
   clear r1 r2
   go_wp2_with fail
   refine HC.out.mono ?_
   rintro e w3 ⟨rfl,hF3⟩
   have HE3 := zh (HE2.out.trans hF3)
   clear hF3
   go_wp2
   go_ret
   exact ⟨rfl,HE3.out⟩
 | false =>
   have HC := zh (String_any _ z w2 (HG.out.ext HE2.out) (HN.out.ext HE2.out) HP.out)
   generalize Lib.itoa z = txt at *
   clear hR
   go_wp2_with fail
   refine HC.out.mono ?_
   rintro e w3 ⟨rfl,hF3⟩
   have HE3 := zh (HE2.out.trans hF3)
   clear hF3
   go_wp2
   go_ret
   exact ⟨rfl,HE3.out⟩
end Go.Proofs.YtibipjlohahekaaGreatDoor

namespace Go.Proofs.YtibipjlohahekaaGreatDoor
open Go.RowKit
theorem follows_mixed' : Tryz.prog.follows .mixedOrders = true := by kernel_rfl
def NoRow (cs : Array Value) : Prop := ∀ (i : Nat) (k : IntKind) (z : Int),cs[i]? = some (.int k z) → k = .i64
theorem noRow2 {s : Bool} {A : Option Addr} {l c : Nat} : NoRow #[.bool s, .slice A l c] := by
 intro i k z; rcases i with _ | _ | i <;> simp
theorem Shows.other {k : IntKind} {t : TypeId} {w w' : World} {r : Nat} {A : Option Addr} {xs : List Nat} {cs : Array Value} (h : Shows k w A xs) (hk : k ≠ .i64) (hB : Blk t w r cs) (hc : NoRow cs) (hF : Fr (fun i => i = r) w w') : Shows k w' A xs := by
 cases xs with
 | nil => exact Shows.nil
 | cons x xs =>
   refine h.fr hF (fun ad hA hlt e => ?_)
   obtain ⟨g,off,e',_,hcl⟩ := h.at (i := 0) (by simp)
   rw [e'] at hA
   injection hA with hA
   subst hA
   simp at e
   subst e
   rw [hB.cell] at hcl
   exact hk (hc _ _ _ hcl)
theorem MagIs.oth {t : TypeId} {w w' : World} {r n : Nat} {u : Value} {cs : Array Value} (h : MagIs w u n) (hB : Blk t w r cs) (hc : NoRow cs) (hF : Fr (fun i => i = r) w w') : MagIs w' u n := by
 obtain ⟨A',xs,c',h1,h2,h3,h4⟩ := h
 exact ⟨A',xs,c',h1,h2,h3.other (by decide) hB hc hF,h4⟩
theorem NumIs.oth {t : TypeId} {w w' : World} {r : Nat} {v : Value} {z : Int} {cs : Array Value} (h : NumIs w v z) (hB : Blk t w r cs) (hc : NoRow cs) (hF : Fr (fun i => i = r) w w') : NumIs w' v z := by
 obtain ⟨s',u,n,h1,h2,h3⟩ := h
 exact ⟨s',u,n,h1,h2.oth hB hc hF,h3⟩
theorem NumIs.shp {w : World} {v : Value} {z : Int} (h : NumIs w v z) : ∃ (s : Bool) (A : Option Addr) (l c : Nat),v = .agg #[.bool s, .slice A l c] := by
 obtain ⟨s,A,l,c,h,_⟩ := h.open
 exact ⟨s,A,l,c,h⟩
theorem IntIs.shp {w : World} {v : Value} {z : Int} (h : IntIs w v z) : ∃ (s : Bool) (A : Option Addr) (l c : Nat),v = .agg #[.bool s, .slice A l c] := h.shape
theorem NumIs.nil (w : World) : NumIs w (.agg #[.bool false, .slice none 0 0]) 0 := ⟨false,_,0,rfl,MagIs.zero w,fun _ => rfl,rfl⟩
theorem IntIs.nil (w : World) : IntIs w (.agg #[.bool false, .slice none 0 0]) 0 := IntIs.zero w
theorem RatIs.nil (w : World) : RatIs w (.agg #[.bool false, .slice none 0 0, .bool false, .slice none 0 0]) 0 := RatIs.zero w
theorem RatIs.shp {w : World} {v : Value} {q : Rat} (h : RatIs w v q) : ∃ (s : Bool) (A : Option Addr) (l c : Nat) (t : Bool) (B : Option Addr) (l' c' : Nat),v = .agg #[.bool s, .slice A l c, .bool t, .slice B l' c'] := by
 obtain ⟨s,t,A,B,l,c,l',c',h,_⟩ := h
 exact ⟨s,A,l,c,t,B,l',c',h⟩
theorem agg4_inj {a b c d a' b' c' d' : Value} (h : Value.agg #[a,b,c,d] = .agg #[a',b',c',d']) : a = a' ∧ b = b' ∧ c = c' ∧ d = d' := by
 injection h with h
 simpa using h
theorem RatIs.num {w : World} {a b c d : Value} {q : Rat} (h : RatIs w (.agg #[a,b,c,d]) q) : IntIs w (.agg #[a,b]) q.num := by
 obtain ⟨s,t,A,B,l,c,l',c',h,h1,h2⟩ := h
 obtain ⟨rfl,rfl,rfl,rfl⟩ := agg4_inj h
 exact h1
theorem RatIs.den {w : World} {a b c d : Value} {q : Rat} (h : RatIs w (.agg #[a,b,c,d]) q) : IntIs w (.agg #[c,d]) (denF q) := by
 obtain ⟨s,t,A,B,l,c,l',c',h,h1,h2⟩ := h
 obtain ⟨rfl,rfl,rfl,rfl⟩ := agg4_inj h
 exact h2
theorem RatIs.of {w : World} {s t : Bool} {A B : Option Addr} {l c l' c' : Nat} {q : Rat} (h1 : IntIs w (.agg #[.bool s, .slice A l c]) q.num) (h2 : IntIs w (.agg #[.bool t, .slice B l' c']) (denF q)) : RatIs w (.agg #[.bool s, .slice A l c, .bool t, .slice B l' c']) q :=
 ⟨_,_,_,_,_,_,_,_,rfl,h1,h2⟩
def NRatIs (w : World) (v : Value) (q : Rat) : Prop := ∃ (s t : Bool) (A B : Option Addr) (l c l' c' : Nat),v = .agg #[.bool s, .slice A l c, .bool t, .slice B l' c'] ∧ NumIs w (.agg #[.bool s, .slice A l c]) q.num ∧ NumIs w (.agg #[.bool t, .slice B l' c']) (denF q)
theorem NRatIs.ext {w w' : World} {v : Value} {q : Rat} (h : NRatIs w v q) (hf : Ext w w') : NRatIs w' v q := by
 obtain ⟨s,t,A,B,l,c,l',c',h1,h2,h3⟩ := h
 exact ⟨s,t,A,B,l,c,l',c',h1,h2.ext hf,h3.ext hf⟩
theorem NRatIs.shp {w : World} {v : Value} {q : Rat} (h : NRatIs w v q) : ∃ (s : Bool) (A : Option Addr) (l c : Nat) (t : Bool) (B : Option Addr) (l' c' : Nat),v = .agg #[.bool s, .slice A l c, .bool t, .slice B l' c'] := by
 obtain ⟨s,t,A,B,l,c,l',c',h,_⟩ := h
 exact ⟨s,A,l,c,t,B,l',c',h⟩
theorem NRatIs.num {w : World} {a b c d : Value} {q : Rat} (h : NRatIs w (.agg #[a,b,c,d]) q) : NumIs w (.agg #[a,b]) q.num := by
 obtain ⟨s,t,A,B,l,c,l',c',h,h1,h2⟩ := h
 obtain ⟨rfl,rfl,rfl,rfl⟩ := agg4_inj h
 exact h1
theorem NRatIs.den {w : World} {a b c d : Value} {q : Rat} (h : NRatIs w (.agg #[a,b,c,d]) q) : NumIs w (.agg #[c,d]) (denF q) := by
 obtain ⟨s,t,A,B,l,c,l',c',h,h1,h2⟩ := h
 obtain ⟨rfl,rfl,rfl,rfl⟩ := agg4_inj h
 exact h2
theorem NRatIs.of {w : World} {s t : Bool} {A B : Option Addr} {l c l' c' : Nat} {q : Rat} (h1 : NumIs w (.agg #[.bool s, .slice A l c]) q.num) (h2 : NumIs w (.agg #[.bool t, .slice B l' c']) (denF q)) : NRatIs w (.agg #[.bool s, .slice A l c, .bool t, .slice B l' c']) q :=
 ⟨_,_,_,_,_,_,_,_,rfl,h1,h2⟩
def RetNRat (w : World) (q : Rat) (e : Ending) (w' : World) : Prop := ∃ v,e = .returned v ∧ NRatIs w' v q ∧ Ext w w'
theorem blocks1 {t0 : TypeId} {w wb : World} {c0 : Array Value} (h : w.alloc (.cells c0 t0) = wb) : Blk t0 wb w.heap.size c0 ∧ Ext w wb := by
 subst h; exact ⟨Blk.new _ _ _,(Fr.refl _ _).alloc _⟩
theorem blocks2 {t0 t1 : TypeId} {w wb : World} {c0 c1 : Array Value} (h : (w.alloc (.cells c0 t0)).alloc (.cells c1 t1) = wb) : Blk t0 wb w.heap.size c0 ∧ Blk t1 wb (w.heap.size + 1) c1 ∧ Ext w wb := by
 obtain ⟨b0,e0⟩ := blocks1 (w := w) (c0 := c0) (t0 := t0) rfl
 have e : (w.alloc (.cells c0 t0)).heap.size = w.heap.size + 1 := by simp
 obtain ⟨b1,e1⟩ := blocks1 h
 rw [e] at b1
 exact ⟨b0.ext e1,b1,e0.trans e1⟩
theorem blocks3 {t0 t1 t2 : TypeId} {w wb : World} {c0 c1 c2 : Array Value} (h : ((w.alloc (.cells c0 t0)).alloc (.cells c1 t1)).alloc (.cells c2 t2) = wb) : Blk t0 wb w.heap.size c0 ∧ Blk t1 wb (w.heap.size + 1) c1 ∧ Blk t2 wb (w.heap.size + 1 + 1) c2 ∧ Ext w wb := by
 obtain ⟨b0,b1,e0⟩ := blocks2 (w := w) (c0 := c0) (t0 := t0) (c1 := c1) (t1 := t1) rfl
 have e : ((w.alloc (.cells c0 t0)).alloc (.cells c1 t1)).heap.size = w.heap.size + 1 + 1 := by simp
 obtain ⟨b2,e2⟩ := blocks1 h
 rw [e] at b2
 exact ⟨b0.ext e2,b1.ext e2,b2,e0.trans e2⟩
theorem blocks4 {t0 t1 t2 t3 : TypeId} {w wb : World} {c0 c1 c2 c3 : Array Value} (h : (((w.alloc (.cells c0 t0)).alloc (.cells c1 t1)).alloc (.cells c2 t2)).alloc (.cells c3 t3) = wb) : Blk t0 wb w.heap.size c0 ∧ Blk t1 wb (w.heap.size + 1) c1 ∧ Blk t2 wb (w.heap.size + 1 + 1) c2 ∧ Blk t3 wb (w.heap.size + 1 + 1 + 1) c3 ∧ Ext w wb := by
 obtain ⟨b0,b1,b2,e0⟩ := blocks3 (w := w) (c0 := c0) (t0 := t0) (c1 := c1) (t1 := t1) (c2 := c2) (t2 := t2) rfl
 have e : (((w.alloc (.cells c0 t0)).alloc (.cells c1 t1)).alloc (.cells c2 t2)).heap.size = w.heap.size + 1 + 1 + 1 := by simp
 obtain ⟨b3,e3⟩ := blocks1 h
 rw [e] at b3
 exact ⟨b0.ext e3,b1.ext e3,b2.ext e3,b3,e0.trans e3⟩
theorem Blk.two {t : TypeId} {w : World} {g : Nat} {cs : Array Value} {x y : Value} (h : Blk t w g cs) (o : Nat) (hx : cs[o]? = some x) (hy : cs[o + 1]? = some y) : w.cell? ⟨g,o,none⟩ = some x ∧ w.cell? ⟨g,o + 1,none⟩ = some y :=
 ⟨(h.cell o).trans hx,(h.cell (o + 1)).trans hy⟩
theorem Blk.one' {t : TypeId} {w : World} {g : Nat} {cs : Array Value} {x : Value} (h : Blk t w g cs) (o : Nat) (hx : cs[o]? = some x) : w.cell? ⟨g,o,none⟩ = some x := (h.cell o).trans hx
section
variable {ops : Array Oper} {S : World → Prop} {o : Oper} {a : Act} {p : Operand} {g off : Nat} {x y z u v : Value}
theorem ym (hw : Region.wanted o (yielded ops a.tmps) = true) (ho : o.op = Op.move p) (hp : a.eval p = v) : YieldsIf Tryz.prog ops S o v a :=
 Or.inl ⟨hw,fun w _ => by simp only [execOp,ho,hp]; simp [go_sem]⟩
theorem yl_NumInt (hw : Region.wanted o (yielded ops a.tmps) = true) (ho : o.op = Op.load 33 p) (hp : a.eval p = .pointer (some ⟨g,off,none⟩)) (hc : ∀ w,S w → w.cell? ⟨g,off,none⟩ = some x ∧ w.cell? ⟨g,off + 1,none⟩ = some y) : YieldsIf Tryz.prog ops S o (.agg #[x,y]) a :=
 Or.inl ⟨hw,fun w hS => by
  obtain ⟨h0,h1⟩ := hc w hS
  simp only [execOp,ho,hp]
  simp [go_sem,h0,h1]⟩
theorem yl_bool (hw : Region.wanted o (yielded ops a.tmps) = true) (ho : o.op = Op.load 4 p) (hp : a.eval p = .pointer (some ⟨g,off,none⟩)) (hc : ∀ w,S w → w.cell? ⟨g,off,none⟩ = some x) : YieldsIf Tryz.prog ops S o x a :=
 Or.inl ⟨hw,fun w hS => by
  have h0 := hc w hS
  simp only [execOp,ho,hp]
  simp [go_sem,h0]⟩
theorem ya_NumInt0 (hw : Region.wanted o (yielded ops a.tmps) = true) (ho : o.op = Op.fieldAddr 33 p 0) (hp : a.eval p = .pointer (some ⟨g,off,none⟩)) : YieldsIf Tryz.prog ops S o (.pointer (some ⟨g,off,none⟩)) a :=
 Or.inl ⟨hw,fun w _ => by simp only [execOp,ho,hp]; simp [go_sem]⟩
theorem yne_bool {b c : Bool} {q : Operand} (hw : Region.wanted o (yielded ops a.tmps) = true) (ho : o.op = Op.binOp .neq 4 p q 4) (hp : a.eval p = .bool b) (hq : a.eval q = .bool c) : YieldsIf Tryz.prog ops S o (.bool (b != c)) a :=
 Or.inl ⟨hw,fun w _ => by simp only [execOp,ho,hp,hq]; simp [go_sem]; cases b <;> cases c <;> rfl⟩
end
end Go.Proofs.YtibipjlohahekaaGreatDoor
