/-
  Package integer: appendWords, Append, String.
-/
import Derived.Test.YtndafmjcelgnbaaGreatDoorText
import Derived.Test.YtndafmjcelgnbaaGreatDoorInt5
import Derived.Laws.IdiomStrings
namespace Go.Proofs.YtndafmjcelgnbaaGreatDoor
open Go.RowKit Go.Sort

theorem RetText.mono {w w0 : World} {A A0 : Option Addr} {l l' : List UInt8} {e : Ending} {w' : World} (h : RetText w A l e w') (hl : l = l') (hF : Fr (AtBlock A0) w0 w) (hA : ∀ b, AtBlock A b → AtBlock A0 b ∨ w0.heap.size ≤ b) : RetText w0 A0 l' e w' := by
  subst hl
  obtain ⟨A', cap', rfl, hB, hF', hA'⟩ := h
  refine ⟨A', cap', rfl, hB, hF.next hF' (fun i hi hb => ?_), fun b hb => ?_⟩
  · rcases hA i hb with h | h
    · exact h
    · omega
  · rcases hA' b hb with h | h
    · exact hA b h
    · exact Or.inr (Nat.le_trans hF.size h)

set_option maxHeartbeats 2000000 in
set_option maxRecDepth 100000 in
theorem appendWords_zero (A : Option Addr) (cap n : Nat) (l : List UInt8) (xv : Value) (w : World) (hx : NatIs w xv 0) (hn : l.length = n) (hB : TBuf w A cap l) (hl : n ≤ 1099511627776) :
    Calls Tryz.prog 155 #[.slice A n cap, xv] w (RetText w A (l ++ Lib.decDigits 0)) := by
  obtain ⟨A2, xs, c, rfl, _, _, h2, h3, h4⟩ := hx
  have h5 := wl_len h2 h3
  rw [h4, wl_zero] at h5
  obtain rfl : xs = [] := List.length_eq_zero_iff.1 h5
  have HB := Lib.hid hB
  have HN := Lib.hid hn
  clear hB hn h2 h3 h4 h5
  go_enter Tryz.func155, Tryz.ntmps155
  go_wp2_with (at_builtin
               refine wpList_append_words rfl _ _ _ rfl _ .u8 1 Tryz.underlying133 info8 A (some ⟨w.heap.size, 0, none⟩) n 1 cap 1 rfl rfl (nats l) (nats [48]) (by rw [nats_length]; exact HN.out) rfl (HB.out.ext ((Fr.refl _ _).alloc _)) ?_ (by simp only [maxLen]; omega) (by omega) ?_
               · exact (Own.new w 5 .u8 [48] []).shows0
               intro A1 cap1 w2 hB1 hF1 hA1
               have HB1 := Lib.hid hB1
               have HF1 := Lib.hid hF1
               have HA1 := Lib.hid hA1
               clear hB1 hF1 hA1)
  go_ret
  have e0 : Lib.decDigits 0 = [48] := by rw [Lib.decDigits, dif_pos (by omega)]; rfl
  rw [e0]
  refine ⟨A1, cap1, ?_, ?_, ?_, ?_⟩
  · rw [List.length_append, HN.out]; rfl
  · show Buf _ _ _ _ _ (nats (l ++ [48]))
    rw [nats_append]; exact HB1.out
  · exact ((Fr.refl _ _).alloc _).trans HF1.out
  · intro b hb
    rcases HA1.out b hb with h | h
    · exact Or.inl h
    · exact Or.inr (by simp at h; omega)

set_option maxHeartbeats 2000000 in
set_option maxRecDepth 100000 in
theorem appendWords_one (A : Option Addr) (cap n x : Nat) (l : List UInt8) (xv : Value) (w : World) (hg : Glob w) (hx : NatIs w xv x) (h0 : 0 < x) (hW : x < W64) (hn : l.length = n) (hB : TBuf w A cap l) (hl : n ≤ 1099511627776) :
    Calls Tryz.prog 155 #[.slice A n cap, xv] w (RetText w A (l ++ Lib.decDigits x)) := by
  obtain ⟨A2, xs, c, rfl, _, h1, h2, h3, h4⟩ := hx
  have h5 := wl_len h2 h3
  rw [h4] at h5
  have h6 := wl_one.2 hW
  have h7 := wl_pos h0
  obtain ⟨x0, rfl⟩ : ∃ x0, xs = [x0] := by
    match xs, (by omega : xs.length = 1) with
    | [y], _ => exact ⟨y, rfl⟩
  simp at h4
  subst h4
  obtain ⟨b, off, rfl, hb, hc0⟩ := h1.at (i := 0) (by simp)
  simp at hc0
  have hne := Nat.ne_of_lt hb
  have HB := Lib.hid hB
  have HN := Lib.hid hn
  have HG := Lib.hid hg
  have HW := Lib.hid hW
  generalize hm : l ++ Lib.decDigits x0 = m
  have HM := Lib.hid hm
  clear hB hn hg hW h1 h2 h3 h5 h6 h7 hm
  go_enter Tryz.func155, Tryz.ntmps155
  go_wp2_with fail
  refine (AppendUint_any A cap n x0 l w HG.out HW.out HN.out HB.out hl).mono ?_
  rw [HM.out]
  rintro e w' ⟨A1, cap1, rfl, hB, hF, hA⟩
  have HB := Lib.hid hB
  have HF := Lib.hid hF
  have HA := Lib.hid hA
  clear hB hF hA
  go_wp2
  go_ret
  exact ⟨A1, cap1, rfl, HB.out, HF.out, HA.out⟩

/-- the numbers that appendWords is proved for -/
def PrtOk (n : Nat) : Prop := n < W64
/-- the text lies in blocks that are newer than the world w0 -/
def Newer (w0 : World) (A : Option Addr) : Prop := ∀ b, AtBlock A b → w0.heap.size ≤ b
theorem Newer.nil {w0 : World} : Newer w0 none := fun b hb => by obtain ⟨a, ha, _⟩ := hb; cases ha
theorem Newer.next {w0 w : World} {A A' : Option Addr} (h : Newer w0 A) (hE : Ext w0 w) (hA : ∀ b, AtBlock A' b → AtBlock A b ∨ w.heap.size ≤ b) : Newer w0 A' := fun b hb => by
  rcases hA b hb with k | k
  · exact h b k
  · exact Nat.le_trans hE.size k
theorem Newer.ext {w0 w w' : World} {A : Option Addr} (h : Newer w0 A) (hE : Ext w0 w) (hF : Fr (AtBlock A) w w') : Ext w0 w' := hE.next hF (fun i hi hb => by have := h i hb; omega)
theorem appendWords_any (A : Option Addr) (cap n x : Nat) (l : List UInt8) (xv : Value) (w0 w : World) (hE : Ext w0 w) (hg : Glob w0) (hx : NatIs w0 xv x) (hW : PrtOk x) (hn : l.length = n) (hB : TBuf w A cap l) (_hA : Newer w0 A) (hl : n ≤ 1099511627776) :
    Calls Tryz.prog 155 #[.slice A n cap, xv] w (RetText w A (l ++ Lib.decDigits x)) := by
  rcases Nat.eq_zero_or_pos x with h | h
  · subst h; exact appendWords_zero A cap n l xv w (hx.ext hE) hn hB hl
  · exact appendWords_one A cap n x l xv w (hg.ext hE) (hx.ext hE) h hW hn hB hl

theorem TBuf.bytes {w : World} {A : Option Addr} {cap : Nat} {l : List UInt8} (h : TBuf w A cap l) (hl : l ≠ []) : ∃ b, A = some ⟨b, 0, none⟩ ∧ ∀ j (hj : j < l.length), w.cell? ((⟨b, 0, none⟩ : Addr).add j) = some (.int .u8 (l[j].toNat : Int)) := by
  rcases h with ⟨_, h, _⟩ | ⟨b, rfl, hO, _⟩
  · simp [nats] at h; exact absurd h hl
  · refine ⟨b, rfl, fun j hj => ?_⟩
    have := hO.cell (i := j) (by rw [nats_length]; exact hj)
    rw [Lib.add_plain, Nat.zero_add, this]
    simp [nats, hj]
theorem itoa_ne (x : Int) : Lib.itoa x ≠ [] := by
  have h : ∀ u, Lib.decDigits u ≠ [] := fun u h => by
    have h1 := Lib.decDigits_length u
    have h2 := Lib.nDigits_pos u
    rw [h] at h1; simp at h1; omega
  unfold Lib.itoa
  split
  · simp
  · exact h _

set_option maxHeartbeats 2000000 in
set_option maxRecDepth 100000 in
theorem Append_any (a : Value) (x : Int) (A : Option Addr) (cap n : Nat) (l : List UInt8) (w0 w : World) (hE : Ext w0 w) (hg : Glob w0) (ha : IntIs w0 a x) (hx : PrtOk x.natAbs) (hn : l.length = n) (hB : TBuf w A cap l) (hA : Newer w0 A) (hl : n ≤ 1099511627775) :
    Calls Tryz.prog 111 #[a, .slice A n cap] w (RetText w A (l ++ Lib.itoa x)) := by
  obtain ⟨s, A2, l2, c2, rfl, hN, hz, h0⟩ := ha.open
  have HB := Lib.hid hB
  have HN := Lib.hid hn
  have HG := Lib.hid hg
  have HX := Lib.hid hx
  have HNx := Lib.hid hN
  have HE := Lib.hid hE
  have HA := Lib.hid hA
  clear hE hA
  cases s with
  | false =>
    have he : Lib.itoa x = Lib.decDigits x.natAbs := by
      simp [sg] at hz
      unfold Lib.itoa
      rw [if_neg (by omega)]
      congr 1; omega
    generalize hm : l ++ Lib.itoa x = m
    rw [he] at hm
    have HM := Lib.hid hm
    clear hB hn hg hx hN ha hz h0 he hm
    go_enter Tryz.func111, Tryz.ntmps111
    go_wp2_with fail
    refine (appendWords_any A cap n _ l _ w0 _ (HE.out.alloc _) HG.out HNx.out HX.out HN.out (HB.out.ext ((Fr.refl _ _).alloc _)) HA.out (by omega)).mono ?_
    rw [HM.out]
    intro e w' h
    obtain ⟨A1, cap1, rfl, hB, hF, hA⟩ := h.mono rfl ((Fr.refl _ w).alloc _) (fun b hb => Or.inl hb)
    have HB := Lib.hid hB
    have HF := Lib.hid hF
    have HA := Lib.hid hA
    clear hB hF hA h
    go_wp2
    go_ret
    exact ⟨A1, cap1, rfl, HB.out, HF.out, HA.out⟩
  | true =>
    have he : Lib.itoa x = [45] ++ Lib.decDigits x.natAbs := by
      have hne : x ≠ 0 := fun e => by simp [e] at h0
      simp [sg] at hz
      unfold Lib.itoa
      rw [if_pos (by omega)]
      rfl
    generalize hm : l ++ Lib.itoa x = m
    rw [he, ← List.append_assoc] at hm
    have HM := Lib.hid hm
    clear hB hn hg hx hN ha hz h0 he hm
    go_enter Tryz.func111, Tryz.ntmps111
    have hS : Shows .u8 ((w.alloc (.cells #[.bool true, .slice A2 l2 c2] 67)).alloc (.cells #[.int .u8 45] 5)) (some ⟨w.heap.size + 1, 0, none⟩) (nats [45]) := by
      have h := (Own.new (w.alloc (.cells #[.bool true, .slice A2 l2 c2] 67)) 5 .u8 [45] []).shows0
      have e : (w.alloc (.cells #[.bool true, .slice A2 l2 c2] 67)).heap.size = w.heap.size + 1 := by simp
      rw [e] at h
      exact h
    have HS := Lib.hid hS
    clear hS
    go_wp2_with (at_builtin; refine Hid.out ?_)
    refine Lib.hid ?_
    refine wpList_append_words rfl _ _ _ rfl _ .u8 1 Tryz.underlying133 info8 A (some ⟨w.heap.size + 1, 0, none⟩) n 1 cap 1 rfl rfl (nats l) (nats [45]) (by rw [nats_length]; exact HN.out) rfl (HB.out.ext (((Fr.refl _ _).alloc _).alloc _)) HS.out (by simp only [maxLen]; omega) (by omega) ?_
    intro A1 cap1 w2 hB1 hF1 hA1
    have hE1 : Fr (AtBlock A) w w2 := (((Fr.refl _ _).alloc _).alloc _).trans hF1
    have hblk : Blk 67 w2 w.heap.size #[.bool true, .slice A2 l2 c2] := ((Blk.new w _ _).alloc _).fr hF1 (fun h => by have := HB.out.lt h; omega)
    obtain ⟨z0, z1, z2, z3⟩ := hblk.cell2
    have HB1 := Lib.hid hB1
    have HE1 := Lib.hid hE1
    have HA1 : Hid (∀ b, AtBlock A1 b → AtBlock A b ∨ w.heap.size ≤ b) := fun b hb => (hA1 b hb).imp id (fun h => by simp at h; omega)
    clear hB1 hF1 hA1 hE1 hblk
    go_wp2_with fail
    refine (appendWords_any A1 cap1 (n + 1) _ (l ++ [45]) _ w0 _ (HA.out.ext HE.out HE1.out) HG.out HNx.out HX.out (by rw [List.length_append, HN.out]; rfl) (by show Buf _ _ _ _ _ (nats (l ++ [45])); rw [nats_append]; exact HB1.out) (HA.out.next HE.out HA1.out) (by omega)).mono ?_
    rw [HM.out]
    intro e w' h
    obtain ⟨A3, cap3, rfl, hB, hF, hA⟩ := h.mono rfl HE1.out HA1.out
    have HB := Lib.hid hB
    have HF := Lib.hid hF
    have HA := Lib.hid hA
    clear hB hF hA h
    go_wp2
    go_ret
    exact ⟨A3, cap3, rfl, HB.out, HF.out, HA.out⟩

set_option maxHeartbeats 2000000 in
set_option maxRecDepth 100000 in
theorem String_any (a : Value) (x : Int) (w : World) (hg : Glob w) (ha : IntIs w a x) (hx : PrtOk x.natAbs) :
    Calls Tryz.prog 54 #[a] w (RetV w (.string ⟨(Lib.itoa x).toArray⟩)) := by
  obtain ⟨s, A, l, c, rfl⟩ := ha.shape
  have HG := Lib.hid hg
  have HI := Lib.hid ha
  have HX := Lib.hid hx
  have hne := itoa_ne x
  generalize hm : Lib.itoa x = m
  rw [hm] at hne
  have HM := Lib.hid hm
  clear hg ha hx hm
  go_enter Tryz.func54, Tryz.ntmps54
  go_wp2_with fail
  refine (Append_any _ x none 0 0 [] w _ ((Fr.refl _ _).alloc _) HG.out HI.out HX.out rfl Buf.nil Newer.nil (by omega)).mono ?_
  rw [HM.out, List.nil_append]
  rintro e w' ⟨A3, cap3, rfl, hB, hF, hA⟩
  obtain ⟨b, rfl, hc⟩ := TBuf.bytes hB hne
  have hcv := run_convert_bytes_back (P := Tryz.prog) w' 133 9 5 ⟨b, 0, none⟩ cap3 m Tryz.underlying133 Tryz.underlying5 Tryz.underlying9 hc
  have HE : Hid (Ext w w') := (Newer.nil (w0 := w)).ext ((Fr.refl _ _).alloc _) hF
  clear hB hF hA hc hne
  go_wp2
  go_ret
  exact ⟨rfl, HE.out⟩
end Go.Proofs.YtndafmjcelgnbaaGreatDoor
