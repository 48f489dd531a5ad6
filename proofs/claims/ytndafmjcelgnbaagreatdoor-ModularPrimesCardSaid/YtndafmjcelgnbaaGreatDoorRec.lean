/-
  modular.ReconstructRatio: the Euclidean algorithm that it runs, and its walk.
-/
import Derived.Test.YtndafmjcelgnbaaGreatDoorFrac
import Derived.Deep.DeepCutAuto
import Derived.Deep.LoopGhost
namespace Go.Proofs.YtndafmjcelgnbaaGreatDoor
open Go.RowKit

/-- The Euclidean algorithm from the rests r0, r1 with the factors t0, t1 ends with the rest r and the factor t. -/
inductive RecRun (m : Int) : Int → Int → Int → Int → Int → Int → Prop
  | done {r0 r1 t0 t1 : Int} (h : r1 * r1 * 2 < m) : RecRun m r0 r1 t0 t1 r1 t1
  | step {r0 r1 t0 t1 r t : Int} (h : ¬ r1 * r1 * 2 < m) (k : RecRun m r1 (r0.tmod r1) t1 (t0 - r0.tdiv r1 * t1) r t) : RecRun m r0 r1 t0 t1 r t
theorem RecRun.unique {m r0 r1 t0 t1 r t r' t' : Int} (h : RecRun m r0 r1 t0 t1 r t) (k : RecRun m r0 r1 t0 t1 r' t') : r = r' ∧ t = t' := by
  induction h with
  | done h =>
    cases k with
    | done => exact ⟨rfl, rfl⟩
    | step h' => exact absurd h h'
  | step h _ ih =>
    cases k with
    | done h' => exact absurd h' h
    | step _ k => exact ih k
/-- what holds at the head of every round -/
structure RecInv (m r0 r1 t0 t1 : Int) : Prop where
  nonneg : 0 ≤ r1
  lt : r1 < r0
  le : r0 ≤ m
  sum : (t1.natAbs : Int) * r0 + (t0.natAbs : Int) * r1 = m
  alt : (0 ≤ t0 ∧ t1 ≤ 0) ∨ (t0 ≤ 0 ∧ 0 ≤ t1)
theorem RecInv.start {m r : Int} (h0 : 0 ≤ r) (hr : r < m) : RecInv m m r 0 1 := ⟨h0, hr, Int.le_refl _, by simp, Or.inr ⟨Int.le_refl _, by omega⟩⟩
theorem RecInv.next {m r0 r1 t0 t1 : Int} (h : RecInv m r0 r1 t0 t1) (h1 : 0 < r1) : RecInv m r1 (r0.tmod r1) t1 (t0 - r0.tdiv r1 * t1) := by
  obtain ⟨h2, h3, h4, h5, h6⟩ := h
  have e1 : r0.tdiv r1 = r0 / r1 := Int.tdiv_eq_ediv_of_nonneg (by omega)
  have e2 : r0.tmod r1 = r0 % r1 := Int.tmod_eq_emod_of_nonneg (by omega)
  rw [e1, e2]
  have hq : 0 ≤ r0 / r1 := Int.ediv_nonneg (by omega) h2
  have hd := Int.mul_ediv_add_emod r0 r1
  have hm0 := Int.emod_nonneg r0 (show r1 ≠ 0 by omega)
  have hm1 := Int.emod_lt_of_pos r0 h1
  generalize r0 / r1 = q at *
  generalize r0 % r1 = r2 at *
  have habs : ((t0 - q * t1).natAbs : Int) = (t0.natAbs : Int) + q * (t1.natAbs : Int) := by
    rcases h6 with ⟨a, b⟩ | ⟨a, b⟩
    · have e3 : (t1.natAbs : Int) = -t1 := by omega
      have e4 : (t0.natAbs : Int) = t0 := by omega
      have hp : 0 ≤ q * -t1 := Int.mul_nonneg hq (by omega)
      rw [e3, e4, Int.mul_neg]
      rw [Int.mul_neg] at hp
      omega
    · have e3 : (t1.natAbs : Int) = t1 := by omega
      have e4 : (t0.natAbs : Int) = -t0 := by omega
      have hp : 0 ≤ q * t1 := Int.mul_nonneg hq b
      rw [e3, e4]
      omega
  refine ⟨hm0, hm1, by omega, ?_, ?_⟩
  · rw [habs, Int.add_mul]
    rw [← hd, Int.mul_add] at h5
    rw [← h5, Int.mul_right_comm q, Int.mul_assoc q, Int.mul_comm (t1.natAbs : Int) (r1 * q), Int.mul_right_comm r1 q, Int.mul_comm q, Int.mul_comm r1 (t1.natAbs : Int)]
    omega
  · rcases h6 with ⟨a, b⟩ | ⟨a, b⟩
    · right
      have hp : 0 ≤ q * -t1 := Int.mul_nonneg hq (by omega)
      rw [Int.mul_neg] at hp
      exact ⟨b, by omega⟩
    · left
      have hp : 0 ≤ q * t1 := Int.mul_nonneg hq b
      exact ⟨b, by omega⟩
theorem RecInv.bound {m r0 r1 t0 t1 : Int} (h : RecInv m r0 r1 t0 t1) : t1.natAbs ≤ m.natAbs ∧ r0.natAbs ≤ m.natAbs ∧ r1.natAbs ≤ m.natAbs ∧ (0 < r1 → t0.natAbs ≤ m.natAbs) := by
  obtain ⟨h2, h3, h4, h5, _⟩ := h
  have a1 : 0 ≤ (t1.natAbs : Int) * r0 := Int.mul_nonneg (by omega) (by omega)
  have a2 : 0 ≤ (t0.natAbs : Int) * r1 := Int.mul_nonneg (by omega) h2
  have a3 : (t1.natAbs : Int) * 1 ≤ (t1.natAbs : Int) * r0 := Int.mul_le_mul_of_nonneg_left (by omega) (by omega)
  refine ⟨by omega, by omega, by omega, fun h1 => ?_⟩
  have a4 : (t0.natAbs : Int) * 1 ≤ (t0.natAbs : Int) * r1 := Int.mul_le_mul_of_nonneg_left (by omega) (by omega)
  omega

/-- two new blocks hold the integers x and y -/
def TwoNew (wb wx : World) (g h : Nat) (x y : Int) : Prop := IntAt wx g x ∧ IntAt wx h y ∧ Ext wb wx ∧ g ≠ h ∧ wb.heap.size ≤ g ∧ wb.heap.size ≤ h
theorem IntAt.new {w : World} {z : Int} {s : Bool} {A : Option Addr} {l c : Nat} (hI : IntIs w (.agg #[.bool s, .slice A l c]) z) : IntAt (w.alloc (.cells #[.bool s, .slice A l c] 67)) w.heap.size z :=
  ⟨s, A, l, c, Blk.new _ _ _, hI.ext ((Fr.refl _ _).alloc _)⟩

theorem blk_second (w : World) (t : TypeId) (x y : Array Value) : Blk t ((w.alloc (.cells x t)).alloc (.cells y t)) (w.heap.size + 1) y := by
  have e : (w.alloc (.cells x t)).heap.size = w.heap.size + 1 := by simp
  have h1 := Blk.new (w.alloc (.cells x t)) t y
  rwa [e] at h1
theorem intAt_zero {w : World} {g : Nat} (h : Blk 67 w g #[.bool false, .slice none 0 0]) : IntAt w g 0 := ⟨_, _, _, _, h, IntIs.zero w⟩
/-- the blocks of ReconstructRatio: the modulus, the result, the two rests and the two factors -/
structure RecMem (w wr : World) (M R b r f g : Nat) (m r0 r1 t0 t1 : Int) : Prop where
  ext : Ext w wr
  mod : IntAt wr M m
  res : Blk 80 wr R #[.bool false, .slice none 0 0, .bool false, .slice none 0 0]
  rest0 : IntAt wr b r0
  rest1 : IntAt wr r r1
  fac0 : IntAt wr f t0
  fac1 : IntAt wr g t1
theorem RecMem.on {w wr wx : World} {M R b r f g : Nat} {m r0 r1 t0 t1 : Int} (h : RecMem w wr M R b r f g m r0 r1 t0 t1) (hF : Ext wr wx) : RecMem w wx M R b r f g m r0 r1 t0 t1 :=
  ⟨h.ext.trans hF, h.mod.ext hF, h.res.ext hF, h.rest0.ext hF, h.rest1.ext hF, h.fac0.ext hF, h.fac1.ext hF⟩
/-- the blocks are different, and new -/
def RecNe (w : World) (M R b r f g : Nat) : Prop := w.heap.size ≤ M ∧ w.heap.size ≤ R ∧ M ≠ R ∧ M < b ∧ M < r ∧ R < b ∧ R < r ∧ b ≠ r ∧ b < f ∧ r < f ∧ b < g ∧ r < g ∧ f ≠ g
section
variable {w wr : World} {M R b r f g : Nat} {m r0 r1 t0 t1 z : Int} {s : Bool} {A : Option Addr} {l c : Nat}
theorem RecMem.put0 (h : RecMem w wr M R b r f g m r0 r1 t0 t1) (hd : RecNe w M R b r f g) (hI : IntIs wr (.agg #[.bool s, .slice A l c]) z) : RecMem w ((wr.setCell ⟨b, 0, none⟩ (.bool s)).setCell ⟨b, 1, none⟩ (.slice A l c)) M R b r f g m z r1 t0 t1 := by
  unfold RecNe at hd
  exact ⟨Fr.local_ h.ext (Fr.set2 _ _) (by omega), h.mod.away h.rest0 (by omega), h.res.fr (Fr.set2 (r := b) (i := 0) (j := 1) _ _) (by omega), h.rest0.put hI, h.rest1.away h.rest0 (by omega), h.fac0.away h.rest0 (by omega), h.fac1.away h.rest0 (by omega)⟩
theorem RecMem.put1 (h : RecMem w wr M R b r f g m r0 r1 t0 t1) (hd : RecNe w M R b r f g) (hI : IntIs wr (.agg #[.bool s, .slice A l c]) z) : RecMem w ((wr.setCell ⟨r, 0, none⟩ (.bool s)).setCell ⟨r, 1, none⟩ (.slice A l c)) M R b r f g m r0 z t0 t1 := by
  unfold RecNe at hd
  exact ⟨Fr.local_ h.ext (Fr.set2 _ _) (by omega), h.mod.away h.rest1 (by omega), h.res.fr (Fr.set2 (r := r) (i := 0) (j := 1) _ _) (by omega), h.rest0.away h.rest1 (by omega), h.rest1.put hI, h.fac0.away h.rest1 (by omega), h.fac1.away h.rest1 (by omega)⟩
theorem RecMem.put2 (h : RecMem w wr M R b r f g m r0 r1 t0 t1) (hd : RecNe w M R b r f g) (hI : IntIs wr (.agg #[.bool s, .slice A l c]) z) : RecMem w ((wr.setCell ⟨f, 0, none⟩ (.bool s)).setCell ⟨f, 1, none⟩ (.slice A l c)) M R b r f g m r0 r1 z t1 := by
  unfold RecNe at hd
  exact ⟨Fr.local_ h.ext (Fr.set2 _ _) (by omega), h.mod.away h.fac0 (by omega), h.res.fr (Fr.set2 (r := f) (i := 0) (j := 1) _ _) (by omega), h.rest0.away h.fac0 (by omega), h.rest1.away h.fac0 (by omega), h.fac0.put hI, h.fac1.away h.fac0 (by omega)⟩
theorem RecMem.put3 (h : RecMem w wr M R b r f g m r0 r1 t0 t1) (hd : RecNe w M R b r f g) (hI : IntIs wr (.agg #[.bool s, .slice A l c]) z) : RecMem w ((wr.setCell ⟨g, 0, none⟩ (.bool s)).setCell ⟨g, 1, none⟩ (.slice A l c)) M R b r f g m r0 r1 t0 z := by
  unfold RecNe at hd
  exact ⟨Fr.local_ h.ext (Fr.set2 _ _) (by omega), h.mod.away h.fac1 (by omega), h.res.fr (Fr.set2 (r := g) (i := 0) (j := 1) _ _) (by omega), h.rest0.away h.fac1 (by omega), h.rest1.away h.fac1 (by omega), h.fac0.away h.fac1 (by omega), h.fac1.put hI⟩
end
def RecSt (w wr : World) (M R b r f g : Nat) (v m r0 r1 t0 t1 : Int) : Prop :=
  RecMem w wr M R b r f g m r0 r1 t0 t1 ∧ RecInv m r0 r1 t0 t1 ∧ ∀ x y, RecRun m r0 r1 t0 t1 x y → RecRun m m (v % m) 0 1 x y
/-- the greatest common divisors of numbers one of which is not greater than m are covered -/
def GcdAll (m : Int) : Prop := ∀ x y : Int, x.natAbs ≤ m.natAbs ∨ y.natAbs ≤ m.natAbs → GcdOk x y
theorem GcdAll.small {m : Int} (h : m.natAbs < W64) : GcdAll m := fun x y hxy => by
  unfold GcdOk
  rcases hxy with h1 | h1
  · exact Nat.lt_of_le_of_lt (Nat.min_le_left _ _) (by omega)
  · exact Nat.lt_of_le_of_lt (Nat.min_le_right _ _) (by omega)
/-- the result of ReconstructRatio -/
def RecIs (v m : Int) (q : Rat) (ok : Bool) : Prop := ∃ r t : Int, RecRun m m (v % m) 0 1 r t ∧ 
  ((ok = true ∧ t * t * 2 < m ∧ Int.gcd t m = 1 ∧ Int.gcd t r = 1 ∧ q = Rat.divInt r t) ∨ (ok = false ∧ ¬ (t * t * 2 < m ∧ Int.gcd t m = 1 ∧ Int.gcd t r = 1) ∧ q = 0))
def RetRec (w : World) (v m : Int) (e : Ending) (w' : World) : Prop := ∃ x q ok, e = .returned (.tuple #[x, .bool ok]) ∧ RatIs w' x q ∧ RecIs v m q ok ∧ Ext w w'
theorem fin_rec {fn : Func} {tmps : Array Value} {w wz : World} {r : Nat} {ok : Bool} {s t : Bool} {A B : Option Addr} {l c l' c' : Nat} {v m : Int} {q : Rat} (hres : fn.results = #[.cell 4 80, .tmp 5]) (ht : tmps[4]? = some (.pointer (some ⟨r, 0, none⟩))) (h3 : tmps[5]? = some (.bool ok))
    (hB : Blk 80 wz r #[.bool s, .slice A l c, .bool t, .slice B l' c']) (hE : Ext w wz) (hR : RatIs wz (.agg #[.bool s, .slice A l c, .bool t, .slice B l' c']) q) (hI : RecIs v m q ok) :
    bodyPost Tryz.prog fn (RetRec w v m) .ret ⟨tmps, []⟩ wz := by
  obtain ⟨h0, h1, h2, h4, _⟩ := hB.cell4
  exact bodyPost_ret (v := .tuple #[.agg #[.bool s, .slice A l c, .bool t, .slice B l' c'], .bool ok]) (by simp [results, hres, ht, h3, go_sem, h0, h1, h2, h4]) rfl ⟨_, q, ok, rfl, hR, hI, hE⟩
theorem keepF2 {t t' : TypeId} {w : World} {g g' r i j : Nat} {x y x' y' a b : Value} (h : Blk t w g #[x, y]) (h' : Blk t' w g' #[x', y']) (hg : g ≠ r) (hg' : g' ≠ r) :
    ((((w.setCell ⟨r, i, none⟩ a).setCell ⟨r, j, none⟩ b).drew.cell? ⟨g, 0, none⟩ = some x ∧ ((w.setCell ⟨r, i, none⟩ a).setCell ⟨r, j, none⟩ b).drew.cell? ⟨g, 1, none⟩ = some y) ∧ (((w.setCell ⟨r, i, none⟩ a).setCell ⟨r, j, none⟩ b).drew.cell? ⟨g', 0, none⟩ = some x' ∧ ((w.setCell ⟨r, i, none⟩ a).setCell ⟨r, j, none⟩ b).drew.cell? ⟨g', 1, none⟩ = some y')) :=
  ⟨⟨(h.fr (Fr.set2 a b) hg).cell 0, (h.fr (Fr.set2 a b) hg).cell 1⟩, ⟨(h'.fr (Fr.set2 a b) hg').cell 0, (h'.fr (Fr.set2 a b) hg').cell 1⟩⟩
section
variable {wb w1 : World} {x y : Int} {s s' : Bool} {A A' : Option Addr} {l c l' c' : Nat}
abbrev bx (s : Bool) (A : Option Addr) (l c : Nat) : Obj := .cells #[.bool s, .slice A l c] 67
theorem two_new1 (hX : Ext wb w1) (hx : IntIs w1 (.agg #[.bool s, .slice A l c]) x) (hy : IntIs w1 (.agg #[.bool s', .slice A' l' c']) y) : TwoNew wb ((w1.alloc (bx s A l c)).alloc (bx s' A' l' c')) w1.heap.size (w1.heap.size + 1) x y := by
  refine ⟨(IntAt.new hx).ext ((Fr.refl _ _).alloc _), ⟨_, _, _, _, blk_second _ _ _ _, hy.ext (((Fr.refl _ _).alloc _).alloc _)⟩, (hX.alloc _).alloc _, by omega, hX.size, by have := hX.size; omega⟩
theorem two_new2 (hX : Ext wb w1) (hx : IntIs w1 (.agg #[.bool s, .slice A l c]) x) (hy : IntIs w1 (.agg #[.bool s', .slice A' l' c']) y) : TwoNew wb ((w1.alloc (bx s' A' l' c')).alloc (bx s A l c)) (w1.heap.size + 1) w1.heap.size x y := by
  obtain ⟨h1, h2, h3, h4, h5, h6⟩ := two_new1 hX hy hx
  exact ⟨h2, h1, h3, Ne.symm h4, h6, h5⟩
theorem two_new3 (hX : Ext wb w1) (hb : Blk 67 w1 wb.heap.size #[.bool false, .slice none 0 0]) (hx : IntIs w1 (.agg #[.bool s, .slice A l c]) x) (hy : IntIs w1 (.agg #[.bool s', .slice A' l' c']) y) :
    TwoNew wb (((w1.setCell ⟨wb.heap.size, 0, none⟩ (.bool s)).setCell ⟨wb.heap.size, 1, none⟩ (.slice A l c)).alloc (bx s' A' l' c')) wb.heap.size w1.heap.size x y := by
  have h1 := (intAt_zero hb).put hx
  have h2 := IntIs.away (a := .bool s) (b := .slice A l c) hy (intAt_zero hb)
  have h3 := Fr.local_ hX (Fr.set2 (r := wb.heap.size) (i := 0) (j := 1) (.bool s) (.slice A l c)) (Nat.le_refl _)
  have e : ((w1.setCell ⟨wb.heap.size, 0, none⟩ (.bool s)).setCell ⟨wb.heap.size, 1, none⟩ (.slice A l c)).heap.size = w1.heap.size := by simp [World.setCell]
  have h4 := IntAt.new h2
  rw [e] at h4
  exact ⟨h1.ext ((Fr.refl _ _).alloc _), h4, h3.alloc _, Nat.ne_of_lt hb.lt, Nat.le_refl _, hX.size⟩
theorem two_new4 (hX : Ext wb w1) (hb : Blk 67 w1 wb.heap.size #[.bool false, .slice none 0 0]) (hx : IntIs w1 (.agg #[.bool s, .slice A l c]) x) (hy : IntIs w1 (.agg #[.bool s', .slice A' l' c']) y) :
    TwoNew wb (((w1.setCell ⟨wb.heap.size, 0, none⟩ (.bool s')).setCell ⟨wb.heap.size, 1, none⟩ (.slice A' l' c')).alloc (bx s A l c)) w1.heap.size wb.heap.size x y := by
  obtain ⟨h1, h2, h3, h4, h5, h6⟩ := two_new3 hX hb hy hx
  exact ⟨h2, h1, h3, Ne.symm h4, h6, h5⟩
theorem two_new5 (hX : Ext wb w1) (hb : Blk 67 w1 wb.heap.size #[.bool false, .slice none 0 0]) (hb2 : Blk 67 w1 (wb.heap.size + 1) #[.bool false, .slice none 0 0]) (hx : IntIs w1 (.agg #[.bool s, .slice A l c]) x) (hy : IntIs w1 (.agg #[.bool s', .slice A' l' c']) y) :
    TwoNew wb ((((w1.setCell ⟨wb.heap.size, 0, none⟩ (.bool s)).setCell ⟨wb.heap.size, 1, none⟩ (.slice A l c)).setCell ⟨wb.heap.size + 1, 0, none⟩ (.bool s')).setCell ⟨wb.heap.size + 1, 1, none⟩ (.slice A' l' c')) wb.heap.size (wb.heap.size + 1) x y := by
  have h1 := (intAt_zero hb).put hx
  have h2 := IntIs.away (a := .bool s) (b := .slice A l c) hy (intAt_zero hb)
  have h3 := Fr.local_ hX (Fr.set2 (r := wb.heap.size) (i := 0) (j := 1) (.bool s) (.slice A l c)) (Nat.le_refl _)
  have h4 := IntAt.away (a := .bool s) (b := .slice A l c) (intAt_zero hb2) (intAt_zero hb) (by omega)
  have h5 := Fr.local_ h3 (Fr.set2 (r := wb.heap.size + 1) (i := 0) (j := 1) (.bool s') (.slice A' l' c')) (by omega)
  exact ⟨h1.away h4 (by omega), h4.put h2, h5, by omega, Nat.le_refl _, by omega⟩
theorem two_new6 (hX : Ext wb w1) (hb : Blk 67 w1 wb.heap.size #[.bool false, .slice none 0 0]) (hb2 : Blk 67 w1 (wb.heap.size + 1) #[.bool false, .slice none 0 0]) (hx : IntIs w1 (.agg #[.bool s, .slice A l c]) x) (hy : IntIs w1 (.agg #[.bool s', .slice A' l' c']) y) :
    TwoNew wb ((((w1.setCell ⟨wb.heap.size + 1, 0, none⟩ (.bool s)).setCell ⟨wb.heap.size + 1, 1, none⟩ (.slice A l c)).setCell ⟨wb.heap.size, 0, none⟩ (.bool s')).setCell ⟨wb.heap.size, 1, none⟩ (.slice A' l' c')) (wb.heap.size + 1) wb.heap.size x y := by
  have h1 := (intAt_zero hb2).put hx
  have h2 := IntIs.away (a := .bool s) (b := .slice A l c) hy (intAt_zero hb2)
  have h3 := Fr.local_ hX (Fr.set2 (r := wb.heap.size + 1) (i := 0) (j := 1) (.bool s) (.slice A l c)) (by omega)
  have h4 := IntAt.away (a := .bool s) (b := .slice A l c) (intAt_zero hb) (intAt_zero hb2) (by omega)
  have h5 := Fr.local_ h3 (Fr.set2 (r := wb.heap.size) (i := 0) (j := 1) (.bool s') (.slice A' l' c')) (Nat.le_refl _)
  exact ⟨h1.away h4 (by omega), h4.put h2, h5, by omega, by omega, Nat.le_refl _⟩
end

set_option maxHeartbeats 4000000 in
set_option maxRecDepth 100000 in
theorem ReconstructRatio_any (a b : Value) (v m : Int) (w : World) (hgl : Glob w) (ha : IntIs w a v) (hb : IntIs w b m) (hv : Fits v) (hm : wl m.natAbs < 39) (h2 : 2 ≤ m) (hga : GcdAll m) : Calls Tryz.prog 64 #[a, b] w (RetRec w v m) := by
  obtain ⟨s, A, l, c, rfl⟩ := ha.shape
  obtain ⟨t, B, l', c', rfl⟩ := hb.shape
  have HA := Lib.hid ha
  have HB := Lib.hid hb
  have HGl := Lib.hid hgl
  have HV := Lib.hid hv
  have HM := Lib.hid hm
  have HGA := Lib.hid hga
  clear ha hb hgl hv hm hga
  go_enter Tryz.func64, Tryz.ntmps64
  go_wp2_with fail
  generalize hwb : World.alloc (World.alloc (World.alloc w _) _) _ = wb
  obtain ⟨hB0, hB1, hB2, hE⟩ := frac_blocks hwb
  have HB0 := Lib.hid hB0
  have HB1 := Lib.hid hB1
  have HR := Lib.hid hB2
  have HE := Lib.hid hE
  clear hwb hB0 hB1 hB2 hE
  go_cut [6, 7] (fun s6 s7 wx => ∃ g6 g7 : Nat, s6 = .pointer (some ⟨g6, 0, none⟩) ∧ s7 = .pointer (some ⟨g7, 0, none⟩) ∧ Hid (TwoNew wb wx g6 g7 m (v % m)))
  case first =>
    refine wp_region_T 6 (fun w' => (w'.cell? ⟨w.heap.size, 0, none⟩ = some (.bool s) ∧ w'.cell? ⟨w.heap.size, 1, none⟩ = some (.slice A l c)) ∧ (w'.cell? ⟨w.heap.size + 1, 0, none⟩ = some (.bool t) ∧ w'.cell? ⟨w.heap.size + 1, 1, none⟩ = some (.slice B l' c'))) follows_mixed ?_
    refine wpT_take 0 rfl (by kernel_rfl) (fun _ _ _ h => h) (keepI2 HB0.out HB1.out ((Fr.refl _ _).drew)) (fun _ => yields_int rfl rfl rfl (fun _ h => h.2)) (fun hS => ?_)
    refine wpT_take 1 rfl (by kernel_rfl) (fun _ _ _ h => h) hS (fun _ => yields_int rfl rfl rfl (fun _ h => h.1)) (fun hS => ?_)
    refine wpT_take 2 rfl (by kernel_rfl) (fun _ _ _ h => h) hS (fun _ => yields_int rfl rfl rfl (fun _ h => h.2)) (fun hS => ?_)
    refine wpT_each (rs := [3, 4, 5]) (by kernel_rfl) (forall_three ?_ ?_ ?_)
    · refine ⟨_, rfl, rfl, fun K hK => ?_⟩
      go_simp
      refine (Mod_any _ _ v m _ (HA.out.ext (HE.out.trans ((Fr.refl _ _).drew))) (HB.out.ext (HE.out.trans ((Fr.refl _ _).drew))) HV.out (by have := HM.out; omega) (by omega)).mono ?_
      rintro e w1 ⟨u1, rfl, hI1, hF1⟩
      obtain ⟨s1, A1, l1, c1, rfl⟩ := hI1.shape
      have hX : Ext wb w1 := ((Fr.refl _ _).drew).trans hF1
      refine hK _ _ (keepI2 HB0.out HB1.out (hX)) ?_
      refine wpT_each (rs := [4, 5]) (by kernel_rfl) (forall_two ?_ ?_)
      · refine ⟨_, rfl, rfl, fun K hK => ?_⟩
        go_simp
        refine hK _ _ (keepI2 HB0.out HB1.out (hX.alloc _)) ?_
        refine wpT_each (rs := [5]) (by kernel_rfl) (forall_one ?_)
        refine ⟨_, rfl, rfl, fun K hK => ?_⟩
        go_simp
        refine hK _ _ (keepI2 HB0.out HB1.out ((hX.alloc _).alloc _)) ?_
        refine wpT_tail (l := [_, _]) 6 rfl (by kernel_rfl) ?_
        go_wp2_with fail
        go_meet
        exact ⟨_, _, rfl, rfl, two_new1 hX (HB.out.ext (HE.out.trans hX)) hI1⟩
      · refine ⟨_, rfl, rfl, fun K hK => ?_⟩
        go_simp
        refine hK _ _ (keepI2 HB0.out HB1.out (hX.alloc _)) ?_
        refine wpT_each (rs := [4]) (by kernel_rfl) (forall_one ?_)
        refine ⟨_, rfl, rfl, fun K hK => ?_⟩
        go_simp
        refine hK _ _ (keepI2 HB0.out HB1.out ((hX.alloc _).alloc _)) ?_
        refine wpT_tail (l := [_, _]) 6 rfl (by kernel_rfl) ?_
        go_wp2_with fail
        go_meet
        exact ⟨_, _, rfl, rfl, two_new2 hX (HB.out.ext (HE.out.trans hX)) hI1⟩
    · refine ⟨_, rfl, rfl, fun K hK => ?_⟩
      go_simp
      refine hK _ _ (keepI2 HB0.out HB1.out (((Fr.refl _ _).drew).alloc _)) ?_
      refine wpT_each (rs := [3, 5]) (by kernel_rfl) (forall_two ?_ ?_)
      · refine ⟨_, rfl, rfl, fun K hK => ?_⟩
        go_simp
        refine (Mod_any _ _ v m _ (HA.out.ext (HE.out.trans (((Fr.refl _ _).drew).alloc _))) (HB.out.ext (HE.out.trans (((Fr.refl _ _).drew).alloc _))) HV.out (by have := HM.out; omega) (by omega)).mono ?_
        rintro e w1 ⟨u1, rfl, hI1, hF1⟩
        obtain ⟨s1, A1, l1, c1, rfl⟩ := hI1.shape
        have hX : Ext wb w1 := (((Fr.refl _ _).drew).alloc _).trans hF1
        refine hK _ _ (keepI2 HB0.out HB1.out (hX)) ?_
        refine wpT_each (rs := [5]) (by kernel_rfl) (forall_one ?_)
        refine ⟨_, rfl, rfl, fun K hK => ?_⟩
        go_simp
        refine hK _ _ (keepI2 HB0.out HB1.out (hX.alloc _)) ?_
        have hb := (Blk.new wb 67 #[.bool false, .slice none 0 0]).ext (Fr.undrew hF1)
        obtain ⟨f0, f1, f2, f3⟩ := hb.cell2
        have hlt := hb.lt
        have hne := Nat.ne_of_lt hlt
        refine wpT_tail (l := [_, _]) 6 rfl (by kernel_rfl) ?_
        go_wp2_with fail
        go_meet
        exact ⟨_, _, rfl, rfl, two_new3 hX hb (HB.out.ext (HE.out.trans hX)) hI1⟩
      · refine ⟨_, rfl, rfl, fun K hK => ?_⟩
        go_simp
        refine hK _ _ (keepI2 HB0.out HB1.out ((((Fr.refl _ _).drew).alloc _).alloc _)) ?_
        refine wpT_each (rs := [3]) (by kernel_rfl) (forall_one ?_)
        refine ⟨_, rfl, rfl, fun K hK => ?_⟩
        go_simp
        refine (Mod_any _ _ v m _ (HA.out.ext (HE.out.trans ((((Fr.refl _ _).drew).alloc _).alloc _))) (HB.out.ext (HE.out.trans ((((Fr.refl _ _).drew).alloc _).alloc _))) HV.out (by have := HM.out; omega) (by omega)).mono ?_
        rintro e w1 ⟨u1, rfl, hI1, hF1⟩
        obtain ⟨s1, A1, l1, c1, rfl⟩ := hI1.shape
        have hX : Ext wb w1 := ((((Fr.refl _ _).drew).alloc _).alloc _).trans hF1
        refine hK _ _ (keepI2 HB0.out HB1.out (hX)) ?_
        have hb := ((Blk.new wb 67 #[.bool false, .slice none 0 0]).alloc (.cells #[.bool false, .slice none 0 0] 67)).ext (Fr.undrew hF1)
        have hb2 := (blk_second wb 67 #[.bool false, .slice none 0 0] #[.bool false, .slice none 0 0]).ext (Fr.undrew hF1)
        obtain ⟨f0, f1, f2, f3⟩ := hb.cell2
        obtain ⟨f4, f5, f6, f7⟩ := hb2.cell2
        refine wpT_tail (l := [_, _]) 6 rfl (by kernel_rfl) ?_
        go_wp2_with fail
        go_meet
        exact ⟨_, _, rfl, rfl, two_new5 hX hb hb2 (HB.out.ext (HE.out.trans hX)) hI1⟩
    · refine ⟨_, rfl, rfl, fun K hK => ?_⟩
      go_simp
      refine hK _ _ (keepI2 HB0.out HB1.out (((Fr.refl _ _).drew).alloc _)) ?_
      refine wpT_each (rs := [3, 4]) (by kernel_rfl) (forall_two ?_ ?_)
      · refine ⟨_, rfl, rfl, fun K hK => ?_⟩
        go_simp
        refine (Mod_any _ _ v m _ (HA.out.ext (HE.out.trans (((Fr.refl _ _).drew).alloc _))) (HB.out.ext (HE.out.trans (((Fr.refl _ _).drew).alloc _))) HV.out (by have := HM.out; omega) (by omega)).mono ?_
        rintro e w1 ⟨u1, rfl, hI1, hF1⟩
        obtain ⟨s1, A1, l1, c1, rfl⟩ := hI1.shape
        have hX : Ext wb w1 := (((Fr.refl _ _).drew).alloc _).trans hF1
        refine hK _ _ (keepI2 HB0.out HB1.out (hX)) ?_
        refine wpT_each (rs := [4]) (by kernel_rfl) (forall_one ?_)
        refine ⟨_, rfl, rfl, fun K hK => ?_⟩
        go_simp
        refine hK _ _ (keepI2 HB0.out HB1.out (hX.alloc _)) ?_
        have hb := (Blk.new wb 67 #[.bool false, .slice none 0 0]).ext (Fr.undrew hF1)
        obtain ⟨f0, f1, f2, f3⟩ := hb.cell2
        have hlt := hb.lt
        have hne := Nat.ne_of_lt hlt
        refine wpT_tail (l := [_, _]) 6 rfl (by kernel_rfl) ?_
        go_wp2_with fail
        go_meet
        exact ⟨_, _, rfl, rfl, two_new4 hX hb (HB.out.ext (HE.out.trans hX)) hI1⟩
      · refine ⟨_, rfl, rfl, fun K hK => ?_⟩
        go_simp
        refine hK _ _ (keepI2 HB0.out HB1.out ((((Fr.refl _ _).drew).alloc _).alloc _)) ?_
        refine wpT_each (rs := [3]) (by kernel_rfl) (forall_one ?_)
        refine ⟨_, rfl, rfl, fun K hK => ?_⟩
        go_simp
        refine (Mod_any _ _ v m _ (HA.out.ext (HE.out.trans ((((Fr.refl _ _).drew).alloc _).alloc _))) (HB.out.ext (HE.out.trans ((((Fr.refl _ _).drew).alloc _).alloc _))) HV.out (by have := HM.out; omega) (by omega)).mono ?_
        rintro e w1 ⟨u1, rfl, hI1, hF1⟩
        obtain ⟨s1, A1, l1, c1, rfl⟩ := hI1.shape
        have hX : Ext wb w1 := ((((Fr.refl _ _).drew).alloc _).alloc _).trans hF1
        refine hK _ _ (keepI2 HB0.out HB1.out (hX)) ?_
        have hb := ((Blk.new wb 67 #[.bool false, .slice none 0 0]).alloc (.cells #[.bool false, .slice none 0 0] 67)).ext (Fr.undrew hF1)
        have hb2 := (blk_second wb 67 #[.bool false, .slice none 0 0] #[.bool false, .slice none 0 0]).ext (Fr.undrew hF1)
        obtain ⟨f0, f1, f2, f3⟩ := hb.cell2
        obtain ⟨f4, f5, f6, f7⟩ := hb2.cell2
        refine wpT_tail (l := [_, _]) 6 rfl (by kernel_rfl) ?_
        go_wp2_with fail
        go_meet
        exact ⟨_, _, rfl, rfl, two_new6 hX hb hb2 (HB.out.ext (HE.out.trans hX)) hI1⟩
  case rest =>
    obtain ⟨g6, g7, rfl, rfl, hT⟩ := hcut
    obtain ⟨h6, h7, hEc, hne67, hl6, hl7⟩ := hT.out
    have hR1 := HR.out.ext hEc
    have hM1 : IntAt wc (w.heap.size + 1) m := ⟨_, _, _, _, HB1.out.ext hEc, HB.out.ext (HE.out.trans hEc)⟩
    have hsz : w.heap.size + 1 + 1 < wb.heap.size := HR.out.lt
    have hmod0 := Int.emod_nonneg v (show m ≠ 0 by omega)
    have hmod1 := Int.emod_lt_of_pos v (show 0 < m by omega)
    have H6 := Lib.hid h6
    have H7 := Lib.hid h7
    have HEc := Lib.hid (HE.out.trans hEc)
    have HR1 := Lib.hid hR1
    have HM1 := Lib.hid hM1
    have hc6 := h6.lt
    have hc7 := h7.lt
    clear h6 h7 hEc hT hR1 hM1 HB0 HB1 HR HE HA HV
    generalize hMM : w.heap.size + 1 = M at *
    generalize hRR : M + 1 = R at *
    have d1 : w.heap.size ≤ M := by omega
    have d2 : w.heap.size ≤ R := by omega
    have d3 : M ≠ R := by omega
    have d4 : M < g6 := by omega
    have d5 : M < g7 := by omega
    have d6 : R < g6 := by omega
    have d7 : R < g7 := by omega
    clear hMM hRR hsz hl6 hl7
    clear wb
    go_wp2_with fail
    refine (New_pos 0 _ W64_pos rfl rfl).mono ?_
    rintro e w1 ⟨u1, rfl, hI1, hF1⟩
    obtain ⟨s1, B1, l1, c1, rfl⟩ := hI1.shape
    go_wp2_with fail
    refine (New_pos 1 _ W64_one rfl rfl).mono ?_
    rintro e w2 ⟨u2, rfl, hI2, hF2⟩
    obtain ⟨s2, B2, l2, c2, rfl⟩ := hI2.shape
    have HTN := Lib.hid (two_new1 (hF1.trans hF2) (hI1.ext hF2) hI2)
    have d8 : g6 < w2.heap.size := Nat.lt_of_lt_of_le hc6 (hF1.trans hF2).size
    have d9 : g7 < w2.heap.size := Nat.lt_of_lt_of_le hc7 (hF1.trans hF2).size
    clear hI1 hI2 hF1 hF2 hc6 hc7
    go_wp2
    generalize hwx : World.alloc (World.alloc w2 _) _ = wx
    have HST : Hid (RecSt w wx M R g6 g7 w2.heap.size (w2.heap.size + 1) v m m (v % m) 0 1) := by
      have h := HTN.out
      rw [show (w2.alloc (bx s1 B1 l1 c1)).alloc (bx s2 B2 l2 c2) = wx from hwx] at h
      obtain ⟨k1, k2, k3, _⟩ := h
      exact ⟨⟨HEc.out.trans k3, HM1.out.ext k3, HR1.out.ext k3, H6.out.ext k3, H7.out.ext k3, k1, k2⟩, RecInv.start hmod0 hmod1, fun _ _ h => h⟩
    have hfg : w2.heap.size ≠ w2.heap.size + 1 := by omega
    have d10 : g6 < w2.heap.size + 1 := by omega
    have d11 : g7 < w2.heap.size + 1 := by omega
    generalize w2.heap.size + 1 = g at *
    generalize w2.heap.size = f at *
    clear hwx HTN H6 H7 HEc HR1 HM1 hmod0 hmod1 w1 w2
    have HNE : Hid (RecNe w M R g6 g7 f g) := ⟨d1, d2, d3, d4, d5, d6, d7, hne67, d8, d9, d10, d11, hfg⟩
    go_loopg [10] (v % m).toNat (fun k _ wr => ∃ r0 r1 t0 t1 : Int, k = r1.toNat ∧ Hid (RecSt w wr M R g6 g7 f g v m r0 r1 t0 t1))
    case atStart => exact ⟨m, v % m, 0, 1, rfl, HST.out⟩
    case round =>
      obtain ⟨r0, r1, t0, t1, hk, hST⟩ := hrel
      have HK := Lib.hid hk
      clear hk HST
      obtain ⟨hMem, hInv, hRun⟩ := hST.out
      obtain ⟨b1, b2, b3, b4⟩ := hInv.bound
      have HInv := Lib.hid hInv
      have HRun := Lib.hid hRun
      have HMem := Lib.hid hMem
      have W1 : Hid (wl t1.natAbs < 39) := Nat.lt_of_le_of_lt (wl_mono b1) HM.out
      have W2 : Hid (wl r0.natAbs < 39) := Nat.lt_of_le_of_lt (wl_mono b2) HM.out
      have W3 : Hid (wl r1.natAbs < 39) := Nat.lt_of_le_of_lt (wl_mono b3) HM.out
      have W4 : Hid (0 < r1 → wl t0.natAbs < 39) := fun h => Nat.lt_of_le_of_lt (wl_mono (b4 h)) HM.out
      have HB3 := Lib.hid b3
      have FM : Hid (Fits m) := by have := HM.out; unfold Hid Fits; omega
      obtain ⟨sm, Am, lm, cm, hBm, hIm⟩ := hMem.mod
      obtain ⟨sr, Ar, lr, cr, hBr, hIr⟩ := hMem.rest1
      obtain ⟨m0, m1, _, _⟩ := hBm.cell2
      obtain ⟨n0, n1, _, _⟩ := hBr.cell2
      clear hST hMem hInv hRun b1 b2 b3 b4
      go_wp2_with fail
      refine (isSmall_any _ _ r1 m _ hIr hIm (by have := W3.out; omega) FM.out).mono ?_
      by_cases hsm : r1 * r1 * 2 < m
      · have HSM := Lib.hid hsm
        rw [decide_eq_true hsm]
        rintro e w1 ⟨rfl, hF1⟩
        replace HMem := Lib.hid (HMem.out.on hF1)
        clear hBm hIm hBr hIr m0 m1 n0 n1 hF1 hsm
        obtain ⟨sm, Am, lm, cm, hBm, hIm⟩ := HMem.out.mod
        obtain ⟨sg_, Ag, lg, cg, hBg, hIg⟩ := HMem.out.fac1
        obtain ⟨m0, m1, _, _⟩ := hBm.cell2
        obtain ⟨n0, n1, _, _⟩ := hBg.cell2
        go_wp2_with fail
        refine (isSmall_any _ _ t1 m _ hIg hIm (by have := W1.out; omega) FM.out).mono ?_
        by_cases hst : t1 * t1 * 2 < m
        · have HST := Lib.hid hst
          rw [decide_eq_true hst]
          rintro e w2 ⟨rfl, hF1⟩
          replace HMem := Lib.hid (HMem.out.on hF1)
          clear hBm hIm hBg hIg m0 m1 n0 n1 hF1 hst
          obtain ⟨sm, Am, lm, cm, hBm, hIm⟩ := HMem.out.mod
          obtain ⟨sg_, Ag, lg, cg, hBg, hIg⟩ := HMem.out.fac1
          obtain ⟨m0, m1, _, _⟩ := hBm.cell2
          obtain ⟨n0, n1, _, _⟩ := hBg.cell2
          go_wp2_with fail
          refine (GCD_any _ _ t1 m _ (HGl.out.ext HMem.out.ext) hIg hIm (by have := W1.out; unfold Fits; omega) FM.out (HGA.out _ _ (Or.inr (Nat.le_refl _)))).mono ?_
          rintro e w3 ⟨u3, rfl, hI3, hF1⟩
          obtain ⟨s3, A3, l3, c3, rfl⟩ := hI3.shape
          have HI3 := Lib.hid hI3
          replace HMem := Lib.hid (HMem.out.on hF1)
          clear hBm hIm hBg hIg m0 m1 n0 n1 hF1 hI3
          go_wp2_with fail
          refine (IsOne_any _ _ _ HI3.out).mono ?_
          clear HI3
          by_cases hg1 : ((Int.gcd t1 m : Nat) : Int) = 1
          · rw [decide_eq_true hg1]
            have HG1 : Hid (Int.gcd t1 m = 1) := by unfold Hid; omega
            rintro e w4 ⟨rfl, hF1⟩
            replace HMem := Lib.hid (HMem.out.on hF1)
            clear hF1 hg1
            obtain ⟨sr, Ar, lr, cr, hBr, hIr⟩ := HMem.out.rest1
            obtain ⟨sg_, Ag, lg, cg, hBg, hIg⟩ := HMem.out.fac1
            obtain ⟨m0, m1, _, _⟩ := hBr.cell2
            obtain ⟨n0, n1, _, _⟩ := hBg.cell2
            go_wp2_with fail
            refine (GCD_any _ _ t1 r1 _ (HGl.out.ext HMem.out.ext) hIg hIr (by have := W1.out; unfold Fits; omega) (by have := W3.out; unfold Fits; omega) (HGA.out _ _ (Or.inr HB3.out))).mono ?_
            rintro e w5 ⟨u5, rfl, hI5, hF1⟩
            obtain ⟨s5, A5, l5, c5, rfl⟩ := hI5.shape
            have HI5 := Lib.hid hI5
            replace HMem := Lib.hid (HMem.out.on hF1)
            clear hBr hIr hBg hIg m0 m1 n0 n1 hF1 hI5
            go_wp2_with fail
            refine (IsOne_any _ _ _ HI5.out).mono ?_
            clear HI5
            by_cases hg2 : ((Int.gcd t1 r1 : Nat) : Int) = 1
            · rw [decide_eq_true hg2]
              have HG2 : Hid (Int.gcd t1 r1 = 1) := by unfold Hid; omega
              have Ht0 : Hid (t1 ≠ 0) := fun e0 => by
                have h1 := HG1.out
                rw [e0] at h1
                simp at h1
                omega
              rintro e w6 ⟨rfl, hF1⟩
              have HRi : Hid (RecIs v m (Rat.divInt r1 t1) true) := ⟨r1, t1, HRun.out _ _ (RecRun.done HSM.out), Or.inl ⟨rfl, HST.out, HG1.out, HG2.out, rfl⟩⟩
              replace HMem := Lib.hid (HMem.out.on hF1)
              clear hF1 hg2
              obtain ⟨sr, Ar, lr, cr, hBr, hIr⟩ := HMem.out.rest1
              obtain ⟨sg_, Ag, lg, cg, hBg, hIg⟩ := HMem.out.fac1
              obtain ⟨m0, m1, _, _⟩ := hBr.cell2
              obtain ⟨n0, n1, _, _⟩ := hBg.cell2
              go_wp2_with fail
              refine (Fraction_any _ _ r1 t1 _ (HGl.out.ext HMem.out.ext) hIr hIg (by have := W3.out; unfold Fits; omega) (by have := W1.out; unfold Fits; omega) (HGA.out _ _ (Or.inl HB3.out)) (by have := W1.out; omega) Ht0.out).mono ?_
              rintro e w7 ⟨u7, rfl, hR7, hF1⟩
              obtain ⟨s, t, A, B, l, c, l', c', rfl, hIn, hId⟩ := hR7
              have HIn := Lib.hid hIn
              have HId := Lib.hid hId
              replace HMem := Lib.hid (HMem.out.on hF1)
              clear hBr hIr hBg hIg m0 m1 n0 n1 hF1 hIn hId
              obtain ⟨z0, z1, z2, z3, z4, z5, z6, z7⟩ := HMem.out.res.cell4
              go_wp2
              exact fin_rec rfl rfl rfl (HMem.out.res.put4 _ _ _ _) (Fr.local_ HMem.out.ext (Fr.set4 _ _ _ _) d2) ⟨_, _, _, _, _, _, _, _, rfl, HIn.out.other HMem.out.res noWords4 (Fr.set4 _ _ _ _), HId.out.other HMem.out.res noWords4 (Fr.set4 _ _ _ _)⟩ HRi.out
            · rw [decide_eq_false hg2]
              have HG2 : Hid (¬ Int.gcd t1 r1 = 1) := by unfold Hid; omega
              clear hg2
              rintro e w6 ⟨rfl, hF⟩
              have HRi : Hid (RecIs v m 0 false) := ⟨r1, t1, HRun.out _ _ (RecRun.done HSM.out), Or.inr ⟨rfl, fun hh => HG2.out hh.2.2, rfl⟩⟩
              replace HMem := Lib.hid (HMem.out.on hF)
              clear hF
              obtain ⟨z0, z1, z2, z3, z4, z5, z6, z7⟩ := HMem.out.res.cell4
              go_wp2
              exact fin_rec rfl rfl rfl (HMem.out.res.put4 _ _ _ _) (Fr.local_ HMem.out.ext (Fr.set4 _ _ _ _) d2) (RatIs.zero _) HRi.out
          · rw [decide_eq_false hg1]
            have HG1 : Hid (¬ Int.gcd t1 m = 1) := by unfold Hid; omega
            clear hg1
            rintro e w4 ⟨rfl, hF⟩
            have HRi : Hid (RecIs v m 0 false) := ⟨r1, t1, HRun.out _ _ (RecRun.done HSM.out), Or.inr ⟨rfl, fun hh => HG1.out hh.2.1, rfl⟩⟩
            replace HMem := Lib.hid (HMem.out.on hF)
            clear hF
            obtain ⟨z0, z1, z2, z3, z4, z5, z6, z7⟩ := HMem.out.res.cell4
            go_wp2
            exact fin_rec rfl rfl rfl (HMem.out.res.put4 _ _ _ _) (Fr.local_ HMem.out.ext (Fr.set4 _ _ _ _) d2) (RatIs.zero _) HRi.out
        · rw [decide_eq_false hst]
          have HST := Lib.hid hst
          clear hst hBm hIm hBg hIg m0 m1 n0 n1
          rintro e w2 ⟨rfl, hF⟩
          have HRi : Hid (RecIs v m 0 false) := ⟨r1, t1, HRun.out _ _ (RecRun.done HSM.out), Or.inr ⟨rfl, fun hh => HST.out hh.1, rfl⟩⟩
          replace HMem := Lib.hid (HMem.out.on hF)
          clear hF
          obtain ⟨z0, z1, z2, z3, z4, z5, z6, z7⟩ := HMem.out.res.cell4
          go_wp2
          exact fin_rec rfl rfl rfl (HMem.out.res.put4 _ _ _ _) (Fr.local_ HMem.out.ext (Fr.set4 _ _ _ _) d2) (RatIs.zero _) HRi.out
      · rw [decide_eq_false hsm]
        rintro e w1 ⟨rfl, hF1⟩
        have HSM := Lib.hid hsm
        have hr1 : 0 < r1 := by
          have := HInv.out.nonneg
          rcases Int.lt_or_le 0 r1 with h | h
          · exact h
          · exfalso; apply hsm; have e0 : r1 = 0 := by omega
            rw [e0]; omega
        replace HMem := Lib.hid (HMem.out.on hF1)
        clear hBm hIm hBr hIr m0 m1 n0 n1 hF1 hsm
        obtain ⟨s0, A0, l0, c0, hB0, hI0⟩ := HMem.out.rest0
        obtain ⟨s7, A7, l7, c7, hB7, hI7⟩ := HMem.out.rest1
        obtain ⟨m0, m1, _, _⟩ := hB0.cell2
        obtain ⟨n0, n1, _, _⟩ := hB7.cell2
        go_wp2_with fail
        refine (QuoRem_any _ _ r0 r1 _ hI0 hI7 (by have := W2.out; unfold Fits; omega) (by have := W3.out; omega) (by omega)).mono ?_
        rintro e w2 ⟨u1, u2, rfl, hN1, hN2, hF2⟩
        obtain ⟨sq, Aq, lq, cq, rfl⟩ := hN1.shape
        obtain ⟨sn, An, ln, cn, rfl⟩ := hN2.shape
        have HI7 := Lib.hid (hI7.ext hF2)
        have HTN := Lib.hid (two_new1 (Fr.refl _ _) hN1 hN2)
        replace HMem := Lib.hid (HMem.out.on hF2)
        have e10 : g < w2.heap.size := HMem.out.fac1.lt
        have e11 : f < w2.heap.size := HMem.out.fac0.lt
        have HWq : Hid (wl (r0.tdiv r1).natAbs < 39) := by
          have h1 : (r0.tdiv r1).natAbs ≤ r0.natAbs := by rw [Int.natAbs_tdiv]; exact Nat.div_le_self _ _
          exact Nat.lt_of_le_of_lt (wl_mono h1) W2.out
        have HNx := Lib.hid (HInv.out.next hr1)
        have HRn : Hid (∀ x y, RecRun m r1 (r0.tmod r1) t1 (t0 - r0.tdiv r1 * t1) x y → RecRun m m (v % m) 0 1 x y) := fun x y h => HRun.out x y (RecRun.step (Int.not_lt.2 HSM.out) h)
        have hmeas : Hid ((r0.tmod r1).toNat < gk) := by
          have h1 := HNx.out.lt
          have h2 := HNx.out.nonneg
          have := HK.out
          unfold Hid; omega
        clear hN1 hN2 hF2 hB0 hI0 hB7 hI7 m0 m1 n0 n1 HSM HInv HRun
        go_wp2_with fail
        generalize hw3 : World.alloc (World.alloc w2 _) _ = w3
        have hTN := HTN.out
        rw [show (w2.alloc (bx sq Aq lq cq)).alloc (bx sn An ln cn) = w3 from hw3] at hTN
        obtain ⟨h10, h11, hE3, hne10, _, _⟩ := hTN
        replace HMem := Lib.hid (HMem.out.on hE3)
        replace HI7 := Lib.hid (HI7.out.ext hE3)
        have e12 : g < w2.heap.size + 1 := by omega
        have e13 : f < w2.heap.size + 1 := by omega
        have H10 := Lib.hid h10
        have H11 := Lib.hid h11
        generalize w2.heap.size + 1 = G11 at *
        generalize w2.heap.size = G10 at *
        clear hw3 HTN hE3 h10 h11
        obtain ⟨s7', A7', l7', c7', hB7, hI7⟩ := HMem.out.rest1
        obtain ⟨s11, A11, l11, c11, hB11, hI11⟩ := H11.out
        obtain ⟨s6, A6, l6, c6, hB6, _⟩ := HMem.out.rest0
        obtain ⟨p0, p1, p2, p3⟩ := hB6.cell2
        have hD := HNE.out
        unfold RecNe at hD
        refine wp_region_T 3 (fun w' => (w'.cell? ⟨g7, 0, none⟩ = some (.bool s7') ∧ w'.cell? ⟨g7, 1, none⟩ = some (.slice A7' l7' c7')) ∧ (w'.cell? ⟨G11, 0, none⟩ = some (.bool s11) ∧ w'.cell? ⟨G11, 1, none⟩ = some (.slice A11 l11 c11))) follows_mixed ?_
        refine wpT_take 0 rfl (by kernel_rfl) (fun _ _ _ h => h) (keepI2 hB7 hB11 (Fr.refl _ _).drew) (fun _ => yields_int rfl rfl rfl (fun _ h => h.1)) (fun hS => ?_)
        refine wpT_take 1 rfl (by kernel_rfl) (fun _ _ _ h => h) hS (fun _ => yields_int rfl rfl rfl (fun _ h => h.2)) (fun hS => ?_)
        refine wpT_only 2 rfl (by kernel_rfl) rfl (fun K hK => ?_)
        go_simp
        refine hK _ _ (keepF2 hB7 hB11 (r := g6) (i := 0) (j := 1) (by omega) (by omega)) ?_
        have kA := (HMem.out.put0 HNE.out hI7).on (Fr.refl _ _).drew
        have kI := (IntIs.away (a := .bool s7') (b := .slice A7' l7' c7') hI11 HMem.out.rest0).ext (Fr.refl _ _).drew
        have k10 := (IntAt.away (a := .bool s7') (b := .slice A7' l7' c7') H10.out HMem.out.rest0 (by omega)).ext (Fr.refl _ _).drew
        first
          | generalize World.drew (World.setCell (World.setCell w3 _ _) _ _) = wA at *
          | generalize World.setCell (World.setCell (World.drew w3) _ _) _ _ = wA at *
        have HMA := Lib.hid kA
        have HIA := Lib.hid kI
        have H10A := Lib.hid k10
        obtain ⟨s7'', A7'', l7'', c7'', hB7'', _⟩ := kA.rest1
        obtain ⟨q0, q1, q2, q3⟩ := hB7''.cell2
        clear kA kI k10 hK hS hB7 hI7 hB11 hI11 hB6 p0 p1 p2 p3 HI7 H10 H11 hB7'' HMem
        refine wpT_tail (l := [_]) 3 rfl (by kernel_rfl) ?_
        go_wp2_with fail
        have kB := HMA.out.put1 HNE.out HIA.out
        have k10 := IntAt.away (a := .bool s11) (b := .slice A11 l11 c11) H10A.out HMA.out.rest1 (by omega)
        generalize World.setCell (World.setCell wA _ _) _ _ = wB at *
        have HMB := Lib.hid kB
        have H10B := Lib.hid k10
        clear kB k10 q0 q1 q2 q3 HMA HIA H10A
        obtain ⟨sf, Af, lf, cf, hBf, hIf⟩ := HMB.out.fac0
        obtain ⟨sg_, Ag, lg, cg, hBg, hIg⟩ := HMB.out.fac1
        obtain ⟨st, At, lt, ct, hBt, hIt⟩ := H10B.out
        refine wp_region_T 6 (fun w' => (w'.cell? ⟨g, 0, none⟩ = some (.bool sg_) ∧ w'.cell? ⟨g, 1, none⟩ = some (.slice Ag lg cg)) ∧ (w'.cell? ⟨f, 0, none⟩ = some (.bool sf) ∧ w'.cell? ⟨f, 1, none⟩ = some (.slice Af lf cf)) ∧ (w'.cell? ⟨G10, 0, none⟩ = some (.bool st) ∧ w'.cell? ⟨G10, 1, none⟩ = some (.slice At lt ct))) follows_mixed ?_
        refine wpT_take 0 rfl (by kernel_rfl) (fun _ _ _ h => h) (keepI3 hBg hBf hBt (Fr.refl _ _).drew) (fun _ => yields_int rfl rfl rfl (fun _ h => h.1)) (fun hS => ?_)
        refine wpT_take 1 rfl (by kernel_rfl) (fun _ _ _ h => h) hS (fun _ => yields_int rfl rfl rfl (fun _ h => h.2.1)) (fun hS => ?_)
        refine wpT_take 2 rfl (by kernel_rfl) (fun _ _ _ h => h) hS (fun _ => yields_int rfl rfl rfl (fun _ h => h.2.2)) (fun hS => ?_)
        refine wpT_take 3 rfl (by kernel_rfl) (fun _ _ _ h => h) hS (fun _ => yields_int rfl rfl rfl (fun _ h => h.1)) (fun hS => ?_)
        refine wpT_only 4 rfl (by kernel_rfl) rfl (fun K hK => ?_)
        go_simp
        refine (Mul_any _ _ (r0.tdiv r1) t1 _ (hIt.ext (Fr.refl _ _).drew) (hIg.ext (Fr.refl _ _).drew) (by have := HWq.out; unfold Fits; omega) (by have := W1.out; unfold Fits; omega) (Or.inr (by have := W1.out; omega))).mono ?_
        rintro e wM ⟨uM, rfl, hIM, hFM⟩
        obtain ⟨sM, AM, lM, cM, rfl⟩ := hIM.shape
        replace hFM := Fr.undrew hFM
        refine hK _ _ (keepI3 hBg hBf hBt hFM) ?_
        refine wpT_only 5 rfl (by kernel_rfl) rfl (fun K hK => ?_)
        go_simp
        refine (Sub_any _ _ t0 (r0.tdiv r1 * t1) _ (hIf.ext hFM) hIM (by have := W4.out hr1; unfold Fits; omega) (by have h1 := wl_mul (r0.tdiv r1).natAbs t1.natAbs; have := HWq.out; have := W1.out; unfold Fits; rw [Int.natAbs_mul]; omega)).mono ?_
        rintro e wS ⟨uS, rfl, hIS, hFS⟩
        obtain ⟨sS, AS, lS, cS, rfl⟩ := hIS.shape
        refine hK _ _ (keepI3 hBg hBf hBt (hFM.trans hFS)) ?_
        have HMC := Lib.hid (HMB.out.on (hFM.trans hFS))
        have HIg := Lib.hid (hIg.ext (hFM.trans hFS))
        have HIS := Lib.hid hIS
        clear hK hS hBf hIf hBg hIg hBt hIt hIM hFM hIS hFS HMB H10B
        obtain ⟨sf', Af', lf', cf', hBf', _⟩ := HMC.out.fac0
        obtain ⟨sg', Ag', lg', cg', hBg', _⟩ := HMC.out.fac1
        obtain ⟨p0, p1, p2, p3⟩ := hBf'.cell2
        obtain ⟨q0, q1, q2, q3⟩ := hBg'.cell2
        clear hBf' hBg'
        refine wpT_tail (l := [_, _]) 6 rfl (by kernel_rfl) ?_
        go_wp2
        have kC := HMC.out.put2 HNE.out HIg.out
        have kI := IntIs.away (a := .bool sg_) (b := .slice Ag lg cg) HIS.out HMC.out.fac0
        have kD := kC.put3 HNE.out kI
        go_roundg (r0.tmod r1).toNat
        case measure => exact hmeas.out
        case rel => exact ⟨r1, r0.tmod r1, t1, t0 - r0.tdiv r1 * t1, rfl, kD, HNx.out, HRn.out⟩
end Go.Proofs.YtndafmjcelgnbaaGreatDoor
