/-
  Words for memory: a frame (which blocks may have changed), a slice that shows a list of numbers, a block that is known whole.
-/
import Derived.WalkKit
import Derived.WalkSpells
import Derived.WalkLawsBesides
import Derived.Lib.Hide
import Derived.Deep.Draws
import Derived.Laws.Rows
import Derived.Laws.MakeOwn
import Derived.Laws.CopyOwn
import Derived.Deep.OwnRows
import Derived.OwnWalk
namespace Go.Proofs.YtndafmjcelgnbaaGreatDoor
open Go.RowKit

/-- From w to w' only blocks in S, and what is new, may have changed. -/
structure Fr (S : Nat → Prop) (w w' : World) : Prop where
  os : w'.os = w.os
  tape : w'.tape = w.tape
  output : w'.output = w.output
  size : w.heap.size ≤ w'.heap.size
  block : ∀ i, i < w.heap.size → ¬ S i → w'.heap[i]? = w.heap[i]?

/-- Nothing that was there has changed. -/
abbrev Ext (w w' : World) : Prop := Fr (fun _ => False) w w'

section
variable {S T : Nat → Prop} {w w' w'' : World}
theorem Fr.refl (S : Nat → Prop) (w : World) : Fr S w w := ⟨rfl, rfl, rfl, Nat.le_refl _, fun _ _ _ => rfl⟩
theorem Fr.trans (h : Fr S w w') (k : Fr S w' w'') : Fr S w w'' :=
  ⟨k.os.trans h.os, k.tape.trans h.tape, k.output.trans h.output, Nat.le_trans h.size k.size, fun i hi hs => (k.block i (Nat.lt_of_lt_of_le hi h.size) hs).trans (h.block i hi hs)⟩
theorem Fr.mono (h : Fr S w w') (hS : ∀ i, i < w.heap.size → S i → T i) : Fr T w w' :=
  ⟨h.os, h.tape, h.output, h.size, fun i hi ht => h.block i hi (fun hs => ht (hS i hi hs))⟩
/-- a step that may have changed blocks that the frame lets change, or that are new -/
theorem Fr.next (h : Fr S w w') (k : Fr T w' w'') (hT : ∀ i, i < w.heap.size → T i → S i) : Fr S w w'' :=
  ⟨k.os.trans h.os, k.tape.trans h.tape, k.output.trans h.output, Nat.le_trans h.size k.size, fun i hi hs => (k.block i (Nat.lt_of_lt_of_le hi h.size) (fun ht => hs (hT i hi ht))).trans (h.block i hi hs)⟩
theorem Fr.ext (h : Fr S w w') (k : Ext w' w'') : Fr S w w'' := h.next k (fun _ _ hf => hf.elim)
theorem Fr.alloc (h : Fr S w w') (o : Obj) : Fr S w (w'.alloc o) :=
  h.next (T := fun _ => False) ⟨rfl, rfl, rfl, by simp, fun i hi _ => Below.heap_alloc _ _ _ hi⟩ (fun _ _ hf => hf.elim)
theorem Fr.drew (h : Fr S w w') : Fr S w w'.drew := ⟨h.os, h.tape, h.output, h.size, h.block⟩
theorem Fr.drewN (h : Fr S w w') (n : Nat) : Fr S w (w'.drewN n) := ⟨h.os, h.tape, h.output, h.size, h.block⟩
theorem Fr.setCell (h : Fr S w w') {p : Addr} (hp : S p.block ∨ w.heap.size ≤ p.block) (u : Value) : Fr S w (w'.setCell p u) :=
  h.next (T := fun i => i = p.block) ⟨rfl, rfl, rfl, by simp [World.setCell], fun i _ hs => Below.heap_setCell _ _ _ _ hs⟩
    (fun i hi he => by rcases hp with hp | hp; · exact he ▸ hp
                       · omega)
theorem Fr.ofGrown {row : Option Nat} (h : w.grownBy w' row) : Fr (fun i => row = some i) w w' :=
  ⟨h.os, h.tape, h.output, h.size, fun i hi hs => h.block i hi (fun e => hs e.symm)⟩
theorem Fr.toBelow (h : Ext w w') : Below w.heap.size w w' := ⟨h.os, h.tape, h.output, h.size, fun i hi => h.block i hi (fun f => f)⟩
theorem Fr.ofBelow (h : Below w.heap.size w w') : Ext w w' := ⟨h.os, h.tape, h.output, h.size, fun i hi _ => h.block i hi⟩
theorem Fr.cell (h : Fr S w w') {p : Addr} (hp : p.block < w.heap.size) (hs : ¬ S p.block) : w'.cell? p = w.cell? p :=
  World.cell?_of_block (w := w) (h.block p.block hp hs)
theorem Fr.frozen (h : Fr S w w') {p : Addr} (hp : p.block < w.heap.size) (hs : ¬ S p.block) : w'.frozen? p = w.frozen? p :=
  World.frozen?_of_block (w := w) (h.block p.block hp hs)
end

/-- The slice with the address A shows the numbers xs, as integers of kind k, in a block that lies below the number B. -/
def Shows (k : IntKind) (w : World) (A : Option Addr) (xs : List Nat) : Prop :=
  xs ≠ [] → ∃ b off, A = some ⟨b, off, none⟩ ∧ b < w.heap.size ∧ ∀ i, i < xs.length → w.cell? ⟨b, off + i, none⟩ = some (.int k ((xs[i]?.getD 0 : Nat) : Int))

section
variable {S : Nat → Prop} {k : IntKind} {w w' : World} {A : Option Addr} {xs : List Nat}
theorem Shows.nil : Shows k w A [] := fun h => absurd rfl h
theorem Shows.fr (h : Shows k w A xs) (hf : Fr S w w') (hs : ∀ a, A = some a → a.block < w.heap.size → ¬ S a.block) : Shows k w' A xs := fun hne => by
  obtain ⟨b, off, rfl, hb, hc⟩ := h hne
  exact ⟨b, off, rfl, Nat.lt_of_lt_of_le hb hf.size, fun i hi => (hf.cell (p := ⟨b, off + i, none⟩) hb (hs ⟨b, off, none⟩ rfl hb)).trans (hc i hi)⟩
theorem Shows.ext (h : Shows k w A xs) (hf : Ext w w') : Shows k w' A xs := h.fr hf (fun _ _ _ f => f)
theorem Shows.alloc (h : Shows k w A xs) (o : Obj) : Shows k (w.alloc o) A xs := h.ext ((Fr.refl _ w).alloc o)
theorem Shows.drew (h : Shows k w A xs) : Shows k w.drew A xs := h
theorem Shows.drewN (h : Shows k w A xs) (n : Nat) : Shows k (w.drewN n) A xs := h
theorem Shows.take (h : Shows k w A xs) (n : Nat) : Shows k w A (xs.take n) := fun hne => by
  obtain ⟨b, off, rfl, hb, hc⟩ := h (fun e => hne (by simp [e]))
  refine ⟨b, off, rfl, hb, fun i hi => ?_⟩
  rw [List.length_take] at hi
  rw [hc i (by omega), List.getElem?_take_of_lt (by omega)]
theorem Shows.drop {b off : Nat} (h : Shows k w (some ⟨b, off, none⟩) xs) (n : Nat) : Shows k w (some ⟨b, off + n, none⟩) (xs.drop n) := fun hne => by
  obtain ⟨b', off', he, hb, hc⟩ := h (fun e => hne (by simp [e]))
  injection he with he; injection he with h1 h2; subst h1; subst h2
  refine ⟨b, off + n, rfl, hb, fun i hi => ?_⟩
  rw [List.length_drop] at hi
  rw [Nat.add_assoc, hc (n + i) (by omega), List.getElem?_drop]
theorem Shows.at (h : Shows k w A xs) {i : Nat} (hi : i < xs.length) : ∃ b off, A = some ⟨b, off, none⟩ ∧ b < w.heap.size ∧ w.cell? ⟨b, off + i, none⟩ = some (.int k ((xs[i]?.getD 0 : Nat) : Int)) := by
  obtain ⟨b, off, he, hb, hc⟩ := h (by intro e; simp [e] at hi)
  exact ⟨b, off, he, hb, hc i hi⟩
/-- what 's[n:]' makes of the address -/
theorem Shows.cut (h : Shows k w A xs) {n c : Nat} (hn : n ≤ xs.length) (hc : xs.length ≤ c) : Shows k w (if c = n then A else A.map (·.add n)) (xs.drop n) := by
  by_cases e : xs.length = n
  · rw [List.drop_of_length_le (by omega)]; exact Shows.nil
  · rw [if_neg (by omega)]
    intro hne
    obtain ⟨b, off, rfl, hb, _⟩ := h (fun e' => hne (by simp [e']))
    have h2 := h.drop n hne
    by_cases h0 : n = 0
    · subst h0; simpa [Addr.add] using h2
    · simpa [Addr.add, h0] using h2
end

/-- The cells that hold the numbers xs, with others behind them. -/
def cellsOf (k : IntKind) (xs : List Nat) (tail : List Value) : Array Value := ((xs.map fun x : Nat => Value.int k (x : Int)) ++ tail).toArray

theorem cellsOf_at {k : IntKind} {xs : List Nat} {tail : List Value} {i : Nat} (h : i < xs.length) : (cellsOf k xs tail)[i]? = some (.int k ((xs[i]?.getD 0 : Nat) : Int)) := by
  simp [cellsOf, List.getElem?_append_left, h]
theorem cellsOf_set (k : IntKind) (xs : List Nat) (tail : List Value) (i v : Nat) (h : i < xs.length) : (cellsOf k xs tail).setIfInBounds i (.int k (v : Int)) = cellsOf k (xs.set i v) tail := by
  simp [cellsOf, List.map_set, List.set_append_left, h]
theorem cellsOf_size (k : IntKind) (xs : List Nat) (tail : List Value) : (cellsOf k xs tail).size = xs.length + tail.length := by simp [cellsOf]

/-- Block b, of elements of type t, begins with the numbers xs; nothing of it is frozen. -/
def Own (k : IntKind) (t : TypeId) (w : World) (b : Nat) (xs : List Nat) : Prop := ∃ tail, w.heap[b]? = some (.cells (cellsOf k xs tail) t (0, 0))
/-- Block b has cap cells. -/
def CapIs (t : TypeId) (w : World) (b cap : Nat) : Prop := ∃ cur, w.heap[b]? = some (.cells cur t (0, 0)) ∧ cur.size = cap

section
variable {S : Nat → Prop} {k : IntKind} {t : TypeId} {w w' : World} {b cap : Nat} {xs : List Nat}
theorem Own.lt (h : Own k t w b xs) : b < w.heap.size := by
  rcases Nat.lt_or_ge b w.heap.size with hlt | hge
  · exact hlt
  · obtain ⟨tail, h⟩ := h; rw [Array.getElem?_eq_none hge] at h; cases h
theorem Own.cell (h : Own k t w b xs) {i : Nat} (hi : i < xs.length) : w.cell? ⟨b, i, none⟩ = some (.int k ((xs[i]?.getD 0 : Nat) : Int)) := by
  obtain ⟨tail, h⟩ := h
  exact (cell_of_row w b i _ t (0, 0) h).trans (cellsOf_at hi)
theorem Own.frozen (h : Own k t w b xs) (i : Nat) : w.frozen? ⟨b, i, none⟩ = false := by
  obtain ⟨tail, h⟩ := h
  simp [World.frozen?, h]
theorem Own.new (w : World) (t : TypeId) (k : IntKind) (xs : List Nat) (tail : List Value) : Own k t (w.alloc (.cells (cellsOf k xs tail) t)) w.heap.size xs := ⟨tail, heap_alloc_new w _⟩
theorem Own.drew (h : Own k t w b xs) : Own k t w.drew b xs := h
theorem Own.drewN (h : Own k t w b xs) (n : Nat) : Own k t (w.drewN n) b xs := h
theorem Own.fr (h : Own k t w b xs) (hf : Fr S w w') (hs : ¬ S b) : Own k t w' b xs := by
  have hl := h.lt
  obtain ⟨tail, h⟩ := h
  exact ⟨tail, (hf.block b hl hs).trans h⟩
theorem Own.ext (h : Own k t w b xs) (hf : Ext w w') : Own k t w' b xs := h.fr hf (fun f => f)
theorem Own.alloc (h : Own k t w b xs) (o : Obj) : Own k t (w.alloc o) b xs := h.ext ((Fr.refl _ w).alloc o)
theorem Own.set (h : Own k t w b xs) (i v : Nat) (hi : i < xs.length) : Own k t (w.setCell ⟨b, i, none⟩ (.int k (v : Int))) b (xs.set i v) := by
  obtain ⟨tail, h⟩ := h
  refine ⟨tail, ?_⟩
  rw [← cellsOf_set _ _ _ _ _ hi]
  simp [World.setCell, Array.getElem?_modify, h]
theorem Own.far (h : Own k t w b xs) {p : Addr} (hp : b ≠ p.block) (u : Value) : Own k t (w.setCell p u) b xs := by
  obtain ⟨tail, h⟩ := h
  exact ⟨tail, (Below.heap_setCell w p u b hp).trans h⟩
theorem Own.shows (h : Own k t w b xs) (off n : Nat) : Shows k w (some ⟨b, off, none⟩) ((xs.drop off).take n) := fun _ => by
  refine ⟨b, off, rfl, h.lt, fun i hi => ?_⟩
  rw [List.length_take, List.length_drop] at hi
  rw [h.cell (by omega), List.getElem?_take_of_lt (by omega), List.getElem?_drop]
theorem Own.shows0 (h : Own k t w b xs) : Shows k w (some ⟨b, 0, none⟩) xs := by
  have := h.shows 0 xs.length
  simpa using this
theorem Own.front {ys : List Nat} (h : Own k t w b (xs ++ ys)) : Own k t w b xs := by
  obtain ⟨tail, h⟩ := h
  exact ⟨(ys.map fun x : Nat => Value.int k (x : Int)) ++ tail, by rw [h]; simp [cellsOf]⟩
theorem Own.take (h : Own k t w b xs) (n : Nat) : Own k t w b (xs.take n) := by
  have h' := h
  rw [← List.take_append_drop n xs] at h'
  exact h'.front
theorem CapIs.fr (h : CapIs t w b cap) (hf : Fr S w w') (hs : ¬ S b) : CapIs t w' b cap := by
  obtain ⟨cur, h, hc⟩ := h
  have hl : b < w.heap.size := by
    rcases Nat.lt_or_ge b w.heap.size with hlt | hge
    · exact hlt
    · rw [Array.getElem?_eq_none hge] at h; cases h
  exact ⟨cur, (hf.block b hl hs).trans h, hc⟩
theorem CapIs.setCell (h : CapIs t w b cap) (g i : Nat) (u : Value) : CapIs t (w.setCell ⟨g, i, none⟩ u) b cap := by
  obtain ⟨cur, h, hc⟩ := h
  by_cases e : b = g
  · subst e
    refine ⟨cur.setIfInBounds i u, ?_, by simpa using hc⟩
    simp [World.setCell, Array.getElem?_modify, h]
  · exact ⟨cur, (Below.heap_setCell w ⟨g, i, none⟩ u b e).trans h, hc⟩
theorem CapIs.setRow (h : CapIs t w b cap) (g : Nat) (cs : Array Value) (hcs : g = b → cs.size = cap) : CapIs t (w.setRow g cs) b cap := by
  obtain ⟨cur, h, hc⟩ := h
  by_cases e : b = g
  · subst e
    exact ⟨cs, setRow_heap w b cur cs t _ h, hcs rfl⟩
  · exact ⟨cur, (setRow_other w g b cs e).trans h, hc⟩
theorem Own.owns (h : Own k t w b xs) (hc : CapIs t w b cap) {base n : Nat} (hb : base ≤ b) (hn : xs.length = n) (hm : cap ≤ maxLen) :
    w.ownsRow base t 1 (.slice (some ⟨b, 0, none⟩) n cap) n (xs.map fun x : Nat => Value.int k (x : Int)) := by
  obtain ⟨tail, h⟩ := h
  obtain ⟨cur, h', hcs⟩ := hc
  rw [h] at h'
  injection h' with h'
  injection h' with h'
  subst h'
  subst hn
  rw [cellsOf_size] at hcs
  refine ⟨by simp, Or.inr ⟨b, cap, _, rfl, hb, h, by omega, hm, by rw [cellsOf_size]; omega, ?_⟩⟩
  simp [cellsOf]
theorem Own.of_owns {base n : Nat} {A : Option Addr} (h : w.ownsRow base t 1 (.slice A n cap) n (xs.map fun x : Nat => Value.int k (x : Int))) (hn : 0 < n) :
    xs.length = n ∧ ∃ b, A = some ⟨b, 0, none⟩ ∧ base ≤ b ∧ Own k t w b xs ∧ CapIs t w b cap ∧ n ≤ cap ∧ cap ≤ maxLen := by
  obtain ⟨h1, h2⟩ := h
  rcases h2 with ⟨_, rfl⟩ | ⟨g, cap', cur, hv, hg, hh, hnc, hcm, hcs, htake⟩
  · omega
  · injection hv with hA hn' hcap
    subst hA hcap
    refine ⟨by simpa using h1, g, rfl, hg, ⟨cur.toList.drop n, ?_⟩, ⟨cur, hh, by simpa using hcs⟩, hnc, hcm⟩
    rw [hh]
    congr 2
    rw [Nat.mul_one] at htake
    simp only [cellsOf]
    rw [← htake, List.take_append_drop]
/-- block b has as many cells as before -/
def SameCap (t : TypeId) (b : Nat) (w w' : World) : Prop := ∀ cap, CapIs t w b cap → CapIs t w' b cap
theorem SameCap.refl (t : TypeId) (b : Nat) (w : World) : SameCap t b w w := fun _ h => h
theorem SameCap.setCell (h : SameCap t b w w') (g i : Nat) (u : Value) : SameCap t b w (w'.setCell ⟨g, i, none⟩ u) := fun cap hc => (h cap hc).setCell g i u
theorem SameCap.trans {w'' : World} (h : SameCap t b w w') (k : SameCap t b w' w'') : SameCap t b w w'' := fun cap hc => k cap (h cap hc)
theorem SameCap.fr (h : SameCap t b w w') {w'' : World} (hf : Fr S w' w'') (hs : ¬ S b) : SameCap t b w w'' := fun cap hc => (h cap hc).fr hf hs
end
theorem madeCells_zero (k : IntKind) (n : Nat) : madeCells #[.int k 0] n = cellsOf k (List.replicate n 0) [] := by
  apply Array.ext
  · simp [madeCells, cellsOf]
  · intro i h1 h2
    simp [madeCells, cellsOf, Nat.mod_one]

/-- 'make([]T, n)': a new block of zeros. -/
theorem wpList_make_words {P : Program} {w : World} {ops : Array Oper} {rest : List Oper} {o : Oper} {a : Act} {Q : Exit → Act → World → Prop}
    (hg : o.guard = none) (l c : Operand) (t : TypeId) (hop : o.op = Op.makeSlice t l c) (e : TypeId) (k : IntKind) (bytes : Nat) (ht : P.underlying t = some (.slice e))
    (hinfo : (P.info? e).map (fun i => (i.zero, i.size, i.bytes)) = some (some (.int k 0), 1, bytes)) (kl kc : IntKind) (ni mi : Int) (n : Nat) (hl : a.eval l = .int kl ni) (hc : a.eval c = .int kc mi) (hn : ni = (n : Nat)) (hmi : mi = (n : Nat))
    (hbytes : bytes * n ≤ 281474976710656) (h63 : n ≤ 9223372036854775807)
    (hK : ∀ (b : Nat) (w' : World), w.heap.size = b → Own k e w' b (List.replicate n 0) → CapIs e w' b n → Ext w w' → w'.heap.size = b + 1 → wpList P ops Q rest (a.put o.dst (.slice (some ⟨b, 0, none⟩) n n)) w') :
    wpList P ops Q (o :: rest) a w := by
  subst hn hmi
  refine wpList_plain hg fun K hK' => ?_
  have hrun := run_make_row' (P := P) t e (.int k 0) bytes ht hinfo rfl kl kc n hbytes h63 w
  rw [madeCells_zero] at hrun
  unfold Oper.wp
  simp [execOp, hop, hl, hc, hrun, Result.andThen]
  exact hK' _ _ (hK _ _ rfl (Own.new w e k _ _) ⟨_, heap_alloc_new w _, by simp [cellsOf_size]⟩ ((Fr.refl _ w).alloc _) (by simp))

theorem Fr.setRow {S : Nat → Prop} {w w' : World} (h : Fr S w w') {g : Nat} (hg : S g ∨ w.heap.size ≤ g) (cs : Array Value) : Fr S w (w'.setRow g cs) :=
  h.next (T := fun i => i = g) ⟨rfl, rfl, rfl, by simp [World.setRow], fun i _ hs => setRow_other w' g i cs hs⟩
    (fun i hi he => by rcases hg with hg | hg; · exact he ▸ hg
                       · omega)

/-- 'copy(dst, src)' into a block that is known. -/
theorem wpList_copy_words {P : Program} {w : World} {ops : Array Oper} {rest : List Oper} {o : Oper} {a : Act} {Q : Exit → Act → World → Prop}
    (hgd : o.guard = none) (d s : Operand) (dT sT : TypeId) (ho : o.op = .call { callee := .builtin .copy, args := #[d, s], argTypes := #[dT, sT] }) (e : TypeId) (k : IntKind)
    (hu : P.underlying dT = some (.slice e)) (hsz : (P.info? e).map (·.size) = some 1) (dp sp : Option Addr) (n m dCap sCap : Nat) (hd : a.eval d = .slice dp n dCap) (hs : a.eval s = .slice sp m sCap)
    (b : Nat) (pre mid post ys : List Nat) (hn : mid.length = n) (hm : ys.length = m) (hO : Own k e w b (pre ++ mid ++ post)) (hY : Shows k w sp ys) (hdp : 0 < mid.length → dp = some ⟨b, pre.length, none⟩)
    (h : ∀ w' z, Own k e w' b (pre ++ (ys.take mid.length ++ mid.drop ys.length) ++ post) → SameCap e b w w' → Fr (· = b) w w' → w'.heap.size = w.heap.size → wpList P ops Q rest (a.put o.dst z) w') :
    wpList P ops Q (o :: rest) a w := by
  subst hn hm
  by_cases h0 : Nat.min ys.length mid.length = 0
  · refine wpList_copy_nothing hgd d s dT sT ho e hu hsz dp sp _ _ _ _ hd hs h0 (h w _ ?_ (fun _ hc => hc) (Fr.refl _ _) rfl)
    have : ys.take mid.length ++ mid.drop ys.length = mid := by
      rcases (by simp only [Nat.min_def] at h0; split at h0 <;> omega : ys.length = 0 ∨ mid.length = 0) with h1 | h1
      · rw [List.length_eq_zero_iff.1 h1]; simp
      · rw [List.length_eq_zero_iff.1 h1]; simp
    rw [this]; exact hO
  · have hmin : 0 < ys.length ∧ 0 < mid.length := by
      simp only [Nat.min_def] at h0; split at h0 <;> omega
    obtain ⟨b2, off2, rfl, hb2, hcs⟩ := hY (by intro e; rw [e] at hmin; simp at hmin)
    have hdp' := hdp hmin.2
    subst hdp'
    obtain ⟨tail, hO⟩ := hO
    have hE : (cellsOf k (pre ++ mid ++ post) tail).toList.take pre.length ++ (((ys.take mid.length).map fun x : Nat => Value.int k (x : Int)) ++ (cellsOf k (pre ++ mid ++ post) tail).toList.drop (pre.length + ((ys.take mid.length).map fun x : Nat => Value.int k (x : Int)).length)) =
        ((pre ++ (ys.take mid.length ++ mid.drop ys.length) ++ post).map fun x : Nat => Value.int k (x : Int)) ++ tail := by
      simp only [cellsOf, List.map_append, List.toList_toArray, List.length_map, List.length_take, List.map_take, List.map_drop, List.append_assoc]
      rw [List.take_append_of_le_length (by simp)]
      rw [show pre.length = (pre.map fun x : Nat => Value.int k (x : Int)).length by simp, List.take_length]
      congr 2
      rw [List.drop_append, List.drop_of_length_le (by simp)]
      simp only [List.length_map, List.nil_append, Nat.add_sub_cancel_left]
      rcases Nat.le_total ys.length mid.length with hle | hle
      · rw [Nat.min_eq_right hle, List.drop_append_of_le_length (by simpa using hle)]
      · rw [Nat.min_eq_left hle, List.drop_append, List.drop_of_length_le (l := List.map _ mid) (by simp), List.drop_of_length_le (l := List.map _ mid) (by simpa using hle)]
        simp
    refine wpList_copy_own hgd d s dT sT ho e hu hsz b pre.length mid.length dCap ⟨b2, off2, none⟩ ys.length sCap hd hs _ e hO ((ys.take mid.length).map fun x : Nat => Value.int k (x : Int)) (by simp [Nat.min_comm]) ?_ (by simp [cellsOf]; omega) (fun v hv => by obtain ⟨x, _, rfl⟩ := List.mem_map.1 hv; rfl) (h _ _ ?_ ?_ ((Fr.refl (· = b) w).setRow (Or.inl rfl) _) (by simp [World.setRow]))
    · intro j v hv
      rw [List.getElem?_map] at hv
      obtain ⟨x, hx, rfl⟩ := Option.map_eq_some_iff.1 hv
      have hj : j < (ys.take mid.length).length := by
        rcases Nat.lt_or_ge j (ys.take mid.length).length with hj | hj
        · exact hj
        · rw [List.getElem?_eq_none hj] at hx; cases hx
      rw [List.length_take] at hj
      have hx' : ys[j]? = some x := by rw [← hx, List.getElem?_take_of_lt (by omega)]
      have := hcs j (by omega)
      rw [hx'] at this
      by_cases e0 : j = 0
      · subst e0; simpa [Addr.add] using this
      · simpa [Addr.add, e0] using this
    · refine ⟨tail, ?_⟩
      rw [setRow_heap w b _ _ e _ hO, hE]
      rfl
    · intro cap hc
      refine hc.setRow b _ (fun _ => ?_)
      obtain ⟨cur, h1, h2⟩ := hc
      rw [hO] at h1
      injection h1 with h1
      injection h1 with h1
      rw [← h2, ← h1, hE, cellsOf_size]
      simp
      omega
end Go.Proofs.YtndafmjcelgnbaaGreatDoor
