/-
  append onto a slice of the call's own, in the words of YtndafmjcelgnbaaGreatDoorMem.
-/
import Derived.Test.YtndafmjcelgnbaaGreatDoorMem
import Derived.Maps.AppendAt
namespace Go.Proofs.YtndafmjcelgnbaaGreatDoor
open Go.RowKit

/-- The slice '.slice A xs.length cap' is nil, or the beginning of a block of the call's own with cap cells, and holds xs. -/
def Buf (k : IntKind) (e : TypeId) (w : World) (A : Option Addr) (cap : Nat) (xs : List Nat) : Prop :=
  (A = none ∧ xs = [] ∧ cap = 0) ∨ ∃ b, A = some ⟨b, 0, none⟩ ∧ Own k e w b xs ∧ CapIs e w b cap ∧ xs.length ≤ cap ∧ cap ≤ maxLen
/-- the block of a slice -/
def AtBlock (A : Option Addr) (i : Nat) : Prop := ∃ a, A = some a ∧ a.block = i

section
variable {S : Nat → Prop} {k : IntKind} {e : TypeId} {w w' : World} {A : Option Addr} {cap : Nat} {xs : List Nat}
theorem Buf.nil : Buf k e w none 0 [] := Or.inl ⟨rfl, rfl, rfl⟩
theorem Buf.fr (h : Buf k e w A cap xs) (hf : Fr S w w') (hs : ∀ b, AtBlock A b → ¬ S b) : Buf k e w' A cap xs := by
  rcases h with h | ⟨b, rfl, h1, h2, h3⟩
  · exact Or.inl h
  · have := hs b ⟨_, rfl, rfl⟩
    exact Or.inr ⟨b, rfl, h1.fr hf this, h2.fr hf this, h3⟩
theorem Buf.ext (h : Buf k e w A cap xs) (hf : Ext w w') : Buf k e w' A cap xs := h.fr hf (fun _ _ f => f)
theorem Buf.shows (h : Buf k e w A cap xs) : Shows k w A xs := by
  rcases h with ⟨_, rfl, _⟩ | ⟨b, rfl, h1, _⟩
  · exact Shows.nil
  · exact h1.shows0
theorem Buf.len (h : Buf k e w A cap xs) : xs.length ≤ cap := by
  rcases h with ⟨_, rfl, rfl⟩ | ⟨b, rfl, _, _, h, _⟩
  · exact Nat.le_refl _
  · exact h
theorem Buf.lt (h : Buf k e w A cap xs) {b : Nat} (hb : AtBlock A b) : b < w.heap.size := by
  rcases h with ⟨rfl, _, _⟩ | ⟨b', rfl, h1, _⟩
  · obtain ⟨a, ha, _⟩ := hb; cases ha
  · obtain ⟨a, ha, rfl⟩ := hb; injection ha with ha; subst ha; exact h1.lt
theorem Buf.owns (h : Buf k e w A cap xs) {base n : Nat} (hb : ∀ b, AtBlock A b → base ≤ b) (hn : xs.length = n) :
    w.ownsRow base e 1 (.slice A n cap) n (xs.map fun x : Nat => Value.int k (x : Int)) := by
  rcases h with ⟨rfl, rfl, rfl⟩ | ⟨b, rfl, h1, h2, h3, h4⟩
  · subst hn; exact ⟨rfl, Or.inl ⟨rfl, rfl⟩⟩
  · exact h1.owns h2 (hb b ⟨_, rfl, rfl⟩) hn h4
theorem Buf.of_owns {base n : Nat} (h : w.ownsRow base e 1 (.slice A n cap) n (xs.map fun x : Nat => Value.int k (x : Int))) : Buf k e w A cap xs := by
  obtain ⟨h1, h2⟩ := h
  rcases h2 with ⟨hv, rfl⟩ | ⟨g, cap', cur, hv, hg, hh, hnc, hcm, hcs, htake⟩
  · injection hv with hA _ hc
    exact Or.inl ⟨hA, by simpa using h1, hc⟩
  · injection hv with hA hn' hcap
    subst hA hcap
    simp only [List.length_map, Nat.mul_one] at h1
    refine Or.inr ⟨g, rfl, ⟨cur.toList.drop n, ?_⟩, ⟨cur, hh, by simpa using hcs⟩, by omega, hcm⟩
    rw [hh]
    congr 2
    rw [Nat.mul_one] at htake
    simp only [cellsOf]
    rw [← htake, List.take_append_drop]
end

theorem run_append_nothing {P : Program} (w : World) (base : Nat) (t ty e : TypeId) (i : TypeInfo) (ht : P.underlying t = some (.slice e)) (hi : P.info? e = some i)
    (v : Value) (n : Nat) (xs : List Value) (hown : w.ownsRow base e 1 v n xs) (c : Nat) : (Builtin.append_ #[t, t] ty #[v, .slice none 0 c]).run P w = .ok v w := by
  rcases hown.2 with ⟨rfl, rfl⟩ | ⟨g, cap, cur, rfl, _, _, hnc, _⟩
  · simp [Builtin.append_, run_underlying ht, sizeOf, typeInfo, hi, Builtin.lenOf, Builtin.firstCells]
  · simp [Builtin.append_, run_underlying ht, sizeOf, typeInfo, hi, Builtin.lenOf, Builtin.firstCells, hnc, storeCells]

/-- 'append(dst, src...)', dst nil or of the call's own. -/
theorem run_append_words {P : Program} (w : World) (t ty e : TypeId) (k : IntKind) (bytes : Nat) (ht : P.underlying t = some (.slice e))
    (hinfo : (P.info? e).map (fun i => (i.zero, i.size, i.bytes)) = some (some (.int k 0), 1, bytes)) (A X : Option Addr) (n m cap c : Nat) (xs news : List Nat) (hn : xs.length = n) (hm : news.length = m)
    (hB : Buf k e w A cap xs) (hX : Shows k w X news) (h63 : n + m ≤ maxLen) (hbytes : (n + m) * bytes ≤ 140737488355328) :
    ∃ A' cap' w', (Builtin.append_ #[t, t] ty #[.slice A n cap, .slice X m c]).run P w = .ok (.slice A' (n + m) cap') w' ∧ Buf k e w' A' cap' (xs ++ news) ∧ Fr (AtBlock A) w w' ∧
      (∀ b, AtBlock A' b → AtBlock A b ∨ b = w.heap.size) := by
  obtain ⟨i, hi, hz, hs, hby⟩ := info_parts hinfo
  have hown := hB.owns (base := 0) (fun _ _ => Nat.zero_le _) hn
  rcases X with _ | ad
  · have h0 : news = [] := by
      rcases news with _ | ⟨y, ys⟩
      · rfl
      · obtain ⟨b, off, h, _⟩ := hX (by simp); cases h
    subst h0
    simp only [List.length_nil] at hm
    subst hm
    exact ⟨A, cap, w, run_append_nothing w 0 t ty e i ht hi _ n _ hown c, by simpa using hB, Fr.refl _ _, fun b hb => Or.inl hb⟩
  · have hcells : ∀ j u, (news.map fun x : Nat => Value.int k (x : Int))[j]? = some u → w.cell? (ad.add j) = some u := by
      intro j u hu
      rw [List.getElem?_map] at hu
      obtain ⟨x, hx, rfl⟩ := Option.map_eq_some_iff.1 hu
      have hj : j < news.length := (List.getElem?_eq_some_iff.1 hx).1
      obtain ⟨b, off, h, _, hc⟩ := hX.at hj
      injection h with h
      subst h
      rw [hx] at hc
      by_cases e0 : j = 0
      · subst e0; simpa [Addr.add] using hc
      · simpa [Addr.add, e0] using hc
    obtain ⟨v', w', hrun, h2, h3, _, h5⟩ := run_append_own_at (P := P) w 0 t ty e i (.int k 0) 1 bytes ht hi hz hs hby rfl (by omega) _ n _ hown ad m c (news.map fun x : Nat => Value.int k (x : Int)) (by simp [hm]) hcells
      (fun u hu => by obtain ⟨x, _, rfl⟩ := List.mem_map.1 hu; rfl) h63 hbytes (Nat.zero_le _)
    rw [← List.map_append] at h2
    obtain ⟨A', cap', rfl⟩ : ∃ A' cap', v' = .slice A' (n + m) cap' := by
      rcases h2.2 with ⟨rfl, h0⟩ | ⟨g, cap', cur, rfl, _⟩
      · rw [h0]; exact ⟨none, 0, rfl⟩
      · exact ⟨_, cap', rfl⟩
    have hob : ∀ (Z : Option Addr) (z1 z2 b : Nat), (Value.slice Z z1 z2).ownBlock = some b ↔ AtBlock Z b := by
      intro Z z1 z2 b
      cases Z with
      | none => simp [Value.ownBlock, AtBlock]
      | some a => simp [Value.ownBlock, AtBlock]
    refine ⟨A', cap', w', hrun, Buf.of_owns h2, (Fr.ofGrown h3).mono (fun i _ hh => (hob _ _ _ _).1 hh), fun b hb => ?_⟩
    rcases h5 with h5 | h5
    · exact Or.inl ((hob _ _ _ _).1 (h5 ▸ (hob A' (n + m) cap' b).2 hb))
    · have := (hob A' (n + m) cap' b).2 hb
      rw [h5] at this
      injection this with this
      exact Or.inr this.symm

theorem wpList_append_words {P : Program} {w : World} {ops : Array Oper} {rest : List Oper} {o : Oper} {a : Act} {Q : Exit → Act → World → Prop} (hgd : o.guard = none) (s x : Operand) (t : TypeId)
    (ho : o.op = .call { callee := .builtin .append, args := #[s, x], argTypes := #[t, t] }) (e : TypeId) (k : IntKind) (bytes : Nat) (ht : P.underlying t = some (.slice e))
    (hinfo : (P.info? e).map (fun i => (i.zero, i.size, i.bytes)) = some (some (.int k 0), 1, bytes)) (A X : Option Addr) (n m cap c : Nat) (hs : a.eval s = .slice A n cap) (hx : a.eval x = .slice X m c)
    (xs news : List Nat) (hn : xs.length = n) (hm : news.length = m) (hB : Buf k e w A cap xs) (hX : Shows k w X news) (h63 : n + m ≤ maxLen) (hbytes : (n + m) * bytes ≤ 140737488355328)
    (h : ∀ A' cap' w', Buf k e w' A' cap' (xs ++ news) → Fr (AtBlock A) w w' → (∀ b, AtBlock A' b → AtBlock A b ∨ b = w.heap.size) → wpList P ops Q rest (a.put o.dst (.slice A' (n + m) cap')) w') : wpList P ops Q (o :: rest) a w := by
  refine wpList_plain hgd fun _ hK => ?_
  obtain ⟨A', cap', w', hrun, h2, h3, h4⟩ := run_append_words (P := P) w t o.type e k bytes ht hinfo A X n m cap c xs news hn hm hB hX h63 hbytes
  unfold Oper.wp execOp
  simp only [ho, resolve, invoke, builtin, Sem.run_bind, Sem.run_pure, Result.andThen_ok, List.map_toArray, List.map_cons, List.map_nil, hs, hx, hrun]
  exact hK _ _ (h A' cap' w' h2 h3 h4)
end Go.Proofs.YtndafmjcelgnbaaGreatDoor
