/-
  Blocks that hold a struct.
-/
import Derived.Test.YtndafmjcelgnbaaGreatDoorMem
namespace Go.Proofs.YtndafmjcelgnbaaGreatDoor
open Go.RowKit

/-- block g is just the cells cs of type t -/
def Blk (t : TypeId) (w : World) (g : Nat) (cs : Array Value) : Prop := w.heap[g]? = some (.cells cs t (0, 0))
section
variable {S : Nat → Prop} {w w' : World} {g : Nat} {t : TypeId} {cs : Array Value}
theorem Blk.lt (h : Blk t w g cs) : g < w.heap.size := by
  rcases Nat.lt_or_ge g w.heap.size with hlt | hge
  · exact hlt
  · unfold Blk at h; rw [Array.getElem?_eq_none hge] at h; cases h
theorem Blk.cell (h : Blk t w g cs) (i : Nat) : w.cell? ⟨g, i, none⟩ = cs[i]? := cell_of_row w g i cs t (0, 0) h
theorem Blk.frozen (h : Blk t w g cs) (i : Nat) : w.frozen? ⟨g, i, none⟩ = false := by
  unfold Blk at h
  simp [World.frozen?, h]
theorem Blk.new (w : World) (t : TypeId) (cs : Array Value) : Blk t (w.alloc (.cells cs t)) w.heap.size cs := heap_alloc_new w _
theorem Blk.set_ (h : Blk t w g cs) (i : Nat) (u : Value) : Blk t (w.setCell ⟨g, i, none⟩ u) g (cs.setIfInBounds i u) := by
  unfold Blk at h ⊢
  simp [World.setCell, Array.getElem?_modify, h]
theorem Blk.far (h : Blk t w g cs) {p : Addr} (hp : g ≠ p.block) (u : Value) : Blk t (w.setCell p u) g cs := (Below.heap_setCell w p u g hp).trans h
theorem Blk.fr (h : Blk t w g cs) (hf : Fr S w w') (hs : ¬ S g) : Blk t w' g cs := (hf.block g h.lt hs).trans h
theorem Blk.ext (h : Blk t w g cs) (hf : Ext w w') : Blk t w' g cs := h.fr hf (fun f => f)
theorem Blk.alloc (h : Blk t w g cs) (o : Obj) : Blk t (w.alloc o) g cs := h.ext ((Fr.refl _ w).alloc o)
theorem Blk.drewN (h : Blk t w g cs) (n : Nat) : Blk t (w.drewN n) g cs := h
end


end Go.Proofs.YtndafmjcelgnbaaGreatDoor
