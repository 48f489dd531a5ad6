/-
  Texts that a call builds: rows of bytes; strconv.AppendUint at base 10.
-/
import Derived.Test.YtndafmjcelgnbaaGreatDoorGlob
import Derived.Test.YtndafmjcelgnbaaGreatDoorAppend
import Derived.Test.YtndafmjcelgnbaaGreatDoorShelf
import Derived.Lib.AppendStr
import Derived.Lib.AppendIntMem
namespace Go.Proofs.YtndafmjcelgnbaaGreatDoor
open Go.RowKit Go.Sort

/-- the bytes as numbers -/
def nats (l : List UInt8) : List Nat := l.map UInt8.toNat
@[simp] theorem nats_length (l : List UInt8) : (nats l).length = l.length := by simp [nats]
theorem nats_append (a b : List UInt8) : nats (a ++ b) = nats a ++ nats b := by simp [nats]
theorem nats_cells (l : List UInt8) : ((nats l).map fun x : Nat => Value.int .u8 (x : Int)) = Lib.byteCells l := by simp [nats, Lib.byteCells]
theorem nats_dig (l : List UInt8) : Dig 256 (nats l) := fun y hy => by
  obtain ⟨b, _, rfl⟩ := List.mem_map.1 hy
  exact b.toNat_lt
/-- a text in a block of the call's own, or nil -/
abbrev TBuf (w : World) (A : Option Addr) (cap : Nat) (l : List UInt8) : Prop := Buf .u8 5 w A cap (nats l)
/-- the result is a text; only the block of the text that came in may have changed -/
def RetText (w : World) (A : Option Addr) (l : List UInt8) (e : Ending) (w' : World) : Prop :=
  ∃ A' cap', e = .returned (.slice A' l.length cap') ∧ TBuf w' A' cap' l ∧ Fr (AtBlock A) w w' ∧ ∀ b, AtBlock A' b → AtBlock A b ∨ w.heap.size ≤ b

theorem info8 : (Tryz.prog.info? 5).map (fun i => (i.zero, i.size, i.bytes)) = some (some (.int .u8 0), 1, 1) := by kernel_rfl

theorem ownBlock_iff (Z : Option Addr) (z1 z2 b : Nat) : (Value.slice Z z1 z2).ownBlock = some b ↔ AtBlock Z b := by
  cases Z with
  | none => simp [Value.ownBlock, AtBlock]
  | some a => simp [Value.ownBlock, AtBlock]

/-- 'append(text, s...)', s a string -/
theorem run_append_str {P : Program} (w : World) (t u ty e : TypeId) (ht : P.underlying t = some (.slice e)) (hu : P.underlying u = some .string)
    (hinfo : (P.info? e).map (fun i => (i.zero, i.size, i.bytes)) = some (some (.int .u8 0), 1, 1)) (A : Option Addr) (n cap : Nat) (xs : List Nat) (hn : xs.length = n) (hB : Buf .u8 e w A cap xs) (s : ByteArray)
    (h63 : n + s.size ≤ maxLen) (hbytes : n + s.size ≤ 140737488355328) :
    ∃ A' cap' w', (Builtin.append_ #[t, u] ty #[.slice A n cap, .string s]).run P w = .ok (.slice A' (n + s.size) cap') w' ∧ Buf .u8 e w' A' cap' (xs ++ nats s.data.toList) ∧ Fr (AtBlock A) w w' ∧
      (∀ b, AtBlock A' b → AtBlock A b ∨ b = w.heap.size) := by
  obtain ⟨i, hi, hz, hs, hby⟩ := info_parts hinfo
  have hown := hB.owns (base := 0) (fun _ _ => Nat.zero_le _) hn
  obtain ⟨v', w', hrun, h2, h3, _⟩ := Lib.run_append_own_string (P := P) w 0 t u ty e i ht hu hi hz hs hby _ n _ hown s h63 hbytes (Nat.zero_le _)
  rw [Lib.strCells_eq, ← nats_cells, ← List.map_append] at h2
  obtain ⟨A', cap', rfl⟩ : ∃ A' cap', v' = .slice A' (n + s.size) cap' := by
    rcases h2.2 with ⟨rfl, h0⟩ | ⟨g, cap', cur, rfl, _⟩
    · rw [h0]; exact ⟨none, 0, rfl⟩
    · exact ⟨_, cap', rfl⟩
  refine ⟨A', cap', w', hrun, Buf.of_owns h2, (Fr.ofGrown h3).mono (fun i _ hh => (ownBlock_iff _ _ _ _).1 hh), ?_⟩
  have hsm : n + s.size ≤ 9223372036854775807 := by simp only [maxLen] at h63; omega
  rcases hB with ⟨rfl, rfl, rfl⟩ | ⟨g, rfl, hO, hC, hle, hcm⟩
  · simp only [List.length_nil] at hn
    subst hn
    by_cases hm : s.size = 0
    · rcases h2.2 with ⟨hv, _⟩ | ⟨g, cap', cur, hv, _⟩
      · injection hv with hv; subst hv
        intro b hb; obtain ⟨a, ha, _⟩ := hb; cases ha
      · have hr : (Builtin.append_ #[t, u] ty #[.slice none 0 0, .string s]).run P w = .ok (.slice none 0 0) w := by
          have hf := Lib.run_firstCells_string (P := P) w 1 s
          rw [hm] at hf
          simp [Builtin.append_, run_underlying ht, run_underlying hu, sizeOf, typeInfo, hi, hs, Builtin.lenOf, hm, hf]
        rw [hr] at hrun
        injection hrun with hrun
        injection hrun with hrun
        subst hrun
        intro b hb; obtain ⟨a, ha, _⟩ := hb; cases ha
    · have hr := run_append_nil_string (P := P) w t u ty e i (.int .u8 0) ht hu hi hz s (by omega) (by omega) (by rw [hby]; omega)
      rw [hr] at hrun
      injection hrun with hrun
      injection hrun with hrun
      subst hrun
      intro b hb
      obtain ⟨a, ha, rfl⟩ := hb
      injection ha with ha; subst ha
      exact Or.inr rfl
  · obtain ⟨tail, hO'⟩ := hO
    obtain ⟨cur, hC1, hC2⟩ := hC
    by_cases hroom : n + s.size ≤ cap
    · have hr := Lib.run_append_room_string (P := P) w t u ty e i ht hu hi hs g n cap cur hC1 s hroom (by omega)
      rw [hr] at hrun
      injection hrun with hrun
      injection hrun with hrun
      subst hrun
      intro b hb; exact Or.inl hb
    · have holds : ∀ j u, (xs.map fun x : Nat => Value.int .u8 (x : Int))[j]? = some u → w.cell? ((⟨g, 0, none⟩ : Addr).add j) = some u := hown.cells (g := g) rfl
      have hr := Lib.run_append_grow_string (P := P) w t u ty e i (.int .u8 0) ht hu hi hz ⟨g, 0, none⟩ n cap _ (by rw [hs]; simpa using hn) holds s (by omega) (by omega) (by rw [hby]; exact growslice_fits (by omega) (by omega))
      rw [hr] at hrun
      injection hrun with hrun
      injection hrun with hrun
      subst hrun
      intro b hb
      obtain ⟨a, ha, rfl⟩ := hb
      injection ha with ha; subst ha
      exact Or.inr rfl

theorem wpList_append_str {P : Program} {w : World} {ops : Array Oper} {rest : List Oper} {o : Oper} {a : Act} {Q : Exit → Act → World → Prop} (hgd : o.guard = none) (s x : Operand) (t u : TypeId)
    (ho : o.op = .call { callee := .builtin .append, args := #[s, x], argTypes := #[t, u] }) (e : TypeId) (ht : P.underlying t = some (.slice e)) (hu : P.underlying u = some .string)
    (hinfo : (P.info? e).map (fun i => (i.zero, i.size, i.bytes)) = some (some (.int .u8 0), 1, 1)) (A : Option Addr) (n cap : Nat) (hs : a.eval s = .slice A n cap) (S : ByteArray) (hx : a.eval x = .string S)
    (xs : List Nat) (hn : xs.length = n) (hB : Buf .u8 e w A cap xs) (h63 : n + S.size ≤ maxLen) (hbytes : n + S.size ≤ 140737488355328)
    (h : ∀ A' cap' w', Buf .u8 e w' A' cap' (xs ++ nats S.data.toList) → Fr (AtBlock A) w w' → (∀ b, AtBlock A' b → AtBlock A b ∨ b = w.heap.size) → wpList P ops Q rest (a.put o.dst (.slice A' (n + S.size) cap')) w') : wpList P ops Q (o :: rest) a w := by
  refine wpList_plain hgd fun _ hK => ?_
  obtain ⟨A', cap', w', hrun, h2, h3, h4⟩ := run_append_str (P := P) w t u o.type e ht hu hinfo A n cap xs hn hB S h63 hbytes
  unfold Oper.wp execOp
  simp only [ho, resolve, invoke, builtin, Sem.run_bind, Sem.run_pure, Result.andThen_ok, List.map_toArray, List.map_cons, List.map_nil, hs, hx, hrun]
  exact hK _ _ (h A' cap' w' h2 h3 h4)

theorem decDigits_le (u : Nat) (hu : u < W64) : (Lib.decDigits u).length ≤ 20 := by
  rw [W64_eq] at hu
  rw [Lib.decDigits_length]
  rcases Nat.eq_zero_or_pos u with h0 | h0
  · subst h0; rw [Lib.nDigits_small (by omega)]; omega
  · have := Lib.numDigits_eq u h0 hu; split at this <;> omega

set_option maxHeartbeats 2000000 in
set_option maxRecDepth 100000 in
theorem intAppendUint_small (A : Option Addr) (cap n u : Nat) (l : List UInt8) (w : World) (hu : u < 100) (hn : l.length = n) (hB : TBuf w A cap l) (hl : n ≤ 1099511627776) :
    Calls Tryz.prog 184 #[.slice A n cap, .int .u64 (u : Int), .int .i64 10] w (RetText w A (l ++ Lib.decDigits u)) := by
  have HB := Lib.hid hB
  have HN := Lib.hid hn
  have hlen := decDigits_le u (by have := W64_eq; omega)
  have hsz : (⟨(Lib.decDigits u).toArray⟩ : ByteArray).size = (Lib.decDigits u).length := by simp [ByteArray.size]
  have Hsz := Lib.hid hsz
  clear hB hn hsz
  go_enter Tryz.func184, Tryz.ntmps184
  go_wp2_with (first
    | (go_at_call 163; refine (Tryz.internal_strconv_small u hu _).mono ?_; rintro e w' ⟨rfl, rfl⟩)
    | (at_builtin
       refine wpList_append_str rfl _ _ _ _ rfl _ Tryz.underlying133 Tryz.underlying9 info8 A n cap rfl ⟨(Lib.decDigits u).toArray⟩ rfl (nats l) (by rw [nats_length]; exact HN.out) HB.out (by rw [Hsz.out]; simp only [maxLen]; omega) (by rw [Hsz.out]; omega) ?_
       intro A1 cap1 w1 hB1 hF1 hA1
       have HB1 := Lib.hid hB1
       have HF1 := Lib.hid hF1
       have HA1 := Lib.hid hA1
       clear hB1 hF1 hA1))
  go_ret
  refine ⟨A1, cap1, ?_, ?_, HF1.out, fun b hb => (HA1.out b hb).imp id (fun h => by omega)⟩
  · rw [List.length_append, HN.out, ← Hsz.out]; rfl
  · show Buf _ _ _ _ _ (nats (l ++ Lib.decDigits u))
    rw [nats_append]; exact HB1.out

set_option maxHeartbeats 4000000 in
set_option maxRecDepth 100000 in
theorem intAppendUint_big (A : Option Addr) (cap n u nd : Nat) (l : List UInt8) (w : World) (hg : Glob w) (hu : 100 ≤ u) (hu64 : u < 18446744073709551616) (hn : l.length = n) (hB : TBuf w A cap l) (hl : n ≤ 1099511627776) (hnd : Lib.nDigits u = nd) :
    Calls Tryz.prog 184 #[.slice A n cap, .int .u64 (u : Int), .int .i64 10] w (RetText w A (l ++ Lib.decDigits u)) := by
  have hlen := decDigits_le u (by rw [W64_eq]; exact hu64)
  have hln := Lib.decDigits_length u
  rw [hnd] at hln
  rw [hln] at hlen
  have hal : Tryz.prog.arrayLen 175 = 24 := by simp [Program.arrayLen, Tryz.underlying175]
  have hsl : ∀ W, (Instr.sliceAt 175 (.pointer (some ⟨w.heap.size, 0, none⟩)) none (some (.int .i64 (nd : Int))) none).run Tryz.prog W = .ok (.slice (some ⟨w.heap.size, 0, none⟩) nd 24) W := fun W => by
    rw [run_sliceAt_array_h W 175 ⟨w.heap.size, 0, none⟩ (by simp [Program.arrayLen, Program.elem, Tryz.underlying175]) .i64 (nd : Int) (by omega) (by rw [hal]; omega)]
    go_simp
  have hH0 := Lib.holds_zero0 w 175 nd (by omega)
  have hfmt := Tryz.internal_strconv_formatBase10 w.heap.size 0 24 u (Array.replicate nd 0) (w.alloc (.cells Lib.zeros24 175)) hH0 (by rw [Array.size_replicate, ← hnd]; exact Lib.lt_pow_nDigits u) hu64 (by rw [Array.size_replicate]; omega)
  have hnum := Tryz.internal_strconv_numDigits u (by omega) hu64 (w.alloc (.cells Lib.zeros24 175)) (Lib.tabIs_alloc hg.1 _)
  rw [Array.size_replicate] at hfmt
  rw [hnd] at hnum
  have HH0 := Lib.hid hH0
  have HB := Lib.hid hB
  have HN := Lib.hid hn
  have HD := Lib.hid hln
  have HND := Lib.hid hnd
  have iu : (100 : Int) ≤ (u : Int) := by omega
  clear hH0 hal hB hn hln hnd hg
  go_enter Tryz.func184, Tryz.ntmps184
  go_wp2_with (go_at_call 164; refine hnum.mono ?_; rintro e w' ⟨rfl, rfl⟩)
  go_at_call 165
  refine hfmt.mono ?_
  rintro e w' ⟨rfl, k, v', dk, rfl, hF⟩
  obtain ⟨os, eo⟩ := Lib.fin_at w (.cells Lib.zeros24 175) dk k 0
  have hE : Ext w ((putRow (fun (b : UInt8) => Value.int .u8 (b.toNat : Int)) (w.alloc (.cells Lib.zeros24 175)) w.heap.size 0 dk).drewN k) := by
    rw [eo]; exact Fr.ofBelow (Lib.below_grow _ w (Nat.le_refl _) k os)
  have hS : Shows .u8 ((putRow (fun (b : UInt8) => Value.int .u8 (b.toNat : Int)) (w.alloc (.cells Lib.zeros24 175)) w.heap.size 0 dk).drewN k) (some ⟨w.heap.size, 0, none⟩) (nats (Lib.decDigits u)) := by
    intro _
    refine ⟨w.heap.size, 0, rfl, ?_, fun i hi => ?_⟩
    · have := hE.size
      have h2 : ((putRow (fun (b : UInt8) => Value.int .u8 (b.toNat : Int)) (w.alloc (.cells Lib.zeros24 175)) w.heap.size 0 dk).drewN k).heap.size = w.heap.size + 1 := by simp [putRow, mapBlock]
      omega
    · rw [nats_length] at hi
      have e5 : (nats (Lib.decDigits u))[i]?.getD 0 = (Lib.decDigits u)[i].toNat := by simp [nats, hi]
      rw [e5, Lib.row_is_numeral (by rw [HND.out]; exact hF) i hi, World.cell?_drewN]
      exact cell?_putRow (fun (b : UInt8) => Value.int .u8 (b.toNat : Int)) _ w.heap.size 0 _ dk HH0.out (by rw [hF.size, Array.size_replicate]) i (by rw [hF.size]; rw [HD.out] at hi; exact hi)
  generalize (putRow (fun (b : UInt8) => Value.int .u8 (b.toNat : Int)) (w.alloc (.cells Lib.zeros24 175)) w.heap.size 0 dk).drewN k = w1 at hE hS ⊢
  have HE := Lib.hid hE
  have HS := Lib.hid hS
  clear hE hS eo hF hfmt hnum
  go_wp2_with (at_builtin
               refine wpList_append_words rfl _ _ _ rfl _ .u8 1 Tryz.underlying133 info8 A (some ⟨w.heap.size, 0, none⟩) n nd cap 24 rfl rfl (nats l) (nats (Lib.decDigits u)) (by rw [nats_length]; exact HN.out) (by rw [nats_length]; exact HD.out) (HB.out.ext HE.out) HS.out (by simp only [maxLen]; omega) (by omega) ?_
               intro A1 cap1 w2 hB1 hF1 hA1
               have HB1 := Lib.hid hB1
               have HF1 := Lib.hid hF1
               have HA1 := Lib.hid hA1
               clear hB1 hF1 hA1)
  go_ret
  refine ⟨A1, cap1, ?_, ?_, ?_, ?_⟩
  · rw [List.length_append, HN.out, HD.out]; rfl
  · show Buf _ _ _ _ _ (nats (l ++ Lib.decDigits u))
    rw [nats_append]; exact HB1.out
  · exact ((HE.out.mono (fun _ _ h => h.elim))).trans HF1.out
  · intro b hb
    rcases HA1.out b hb with h | h
    · exact Or.inl h
    · exact Or.inr (by have := HE.out.size; omega)

set_option maxHeartbeats 1000000 in
/-- strconv.AppendUint at base 10 -/
theorem AppendUint_any (A : Option Addr) (cap n u : Nat) (l : List UInt8) (w : World) (hg : Glob w) (hu : u < W64) (hn : l.length = n) (hB : TBuf w A cap l) (hl : n ≤ 1099511627776) :
    Calls Tryz.prog 179 #[.slice A n cap, .int .u64 (u : Int), .int .i64 10] w (RetText w A (l ++ Lib.decDigits u)) := by
  have h : Calls Tryz.prog 184 #[.slice A n cap, .int .u64 (u : Int), .int .i64 10] w (RetText w A (l ++ Lib.decDigits u)) := by
    rcases Nat.lt_or_ge u 100 with h | h
    · exact intAppendUint_small A cap n u l w h hn hB hl
    · exact intAppendUint_big A cap n u _ l w hg h (by rw [W64_eq] at hu; exact hu) hn hB hl rfl
  have H := Lib.hid h
  clear h hg hu hn hB hl
  go_enter Tryz.func179, Tryz.ntmps179
  go_wp2_with fail
  refine H.out.mono ?_
  rintro e w' ⟨A1, cap1, rfl, hB, hF, hA⟩
  have HB := Lib.hid hB
  have HF := Lib.hid hF
  have HA := Lib.hid hA
  clear hB hF hA
  go_wp2
  go_ret
  exact ⟨A1, cap1, by rw [List.length_append]; rfl, HB.out, HF.out, HA.out⟩
end Go.Proofs.YtndafmjcelgnbaaGreatDoor
