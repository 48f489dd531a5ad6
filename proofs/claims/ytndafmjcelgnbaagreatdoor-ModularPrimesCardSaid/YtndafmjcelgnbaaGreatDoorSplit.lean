/-
  Package rational: cutDigits, split.
-/
import Derived.Test.YtndafmjcelgnbaaGreatDoorInt5
import Derived.Test.YtndafmjcelgnbaaGreatDoorShelf
import Derived.Deep.QuietTactic
import Derived.BigQuiet
import Derived.Outline
import Derived.Lib.Strings
import Derived.RegionTactic
import Derived.BigRegion
namespace Go.Proofs.YtndafmjcelgnbaaGreatDoor
open Go.RowKit

/-- a decimal digit -/
def isDig (c : UInt8) : Bool := decide (48 ≤ c.toNat) && decide (c.toNat ≤ 57)
/-- the bytes of a string -/
abbrev bytes (s : ByteArray) : List UInt8 := s.data.toList
theorem takeWhile_of {p : UInt8 → Bool} : ∀ {l : List UInt8} {k : Nat}, (l.take k).all p = true → (∀ h : k < l.length, p l[k] = false) → l.takeWhile p = l.take k ∧ l.dropWhile p = l.drop k
  | [], k, _, _ => by simp
  | x :: l, 0, _, h => by
    have := h (by simp)
    simp at this
    simp [this]
  | x :: l, k + 1, h1, h2 => by
    simp only [List.take_succ_cons, List.all_cons, Bool.and_eq_true] at h1
    have := takeWhile_of (l := l) (k := k) h1.2 (fun h => by have := h2 (by simp; omega); simpa using this)
    simp [h1.1, this.1, this.2]
theorem bytes_length (s : ByteArray) : (bytes s).length = s.size := Array.length_toList
theorem bytes_extract (s : ByteArray) (a b : Nat) : bytes (s.extract a b) = ((bytes s).drop a).take (b - a) := Lib.extract_data s a b
theorem bytes_at (s : ByteArray) {k : Nat} (h : k < s.size) : (bytes s)[k]'(by rw [bytes_length]; exact h) = s[k] := rfl
theorem take_snoc (s : ByteArray) (k : Nat) (h : k < s.size) : (bytes s).take (k + 1) = (bytes s).take k ++ [s[k]] := by
  rw [List.take_succ_eq_append_getElem (by rw [bytes_length]; exact h)]; rfl
theorem cut_fin {s : ByteArray} {k : Nat} (hR : ((bytes s).take k).all isDig = true) (hd : ∀ h : k < s.size, isDig s[k] = false) :
    bytes (s.extract 0 k) = (bytes s).takeWhile isDig ∧ bytes (s.extract k s.size) = (bytes s).dropWhile isDig := by
  obtain ⟨h1, h2⟩ := takeWhile_of hR (fun h => hd (by rw [bytes_length] at h; exact h))
  rw [bytes_extract, bytes_extract, h1, h2]
  refine ⟨by simp, ?_⟩
  rw [List.take_of_length_le (by rw [List.length_drop, bytes_length]; exact Nat.le_refl _)]
/-- the result of cutDigits -/
def RetCut (s : ByteArray) (w : World) (e : Ending) (w' : World) : Prop :=
  ∃ t u : ByteArray, e = .returned (.tuple #[.string t, .string u]) ∧ bytes t = (bytes s).takeWhile isDig ∧ bytes u = (bytes s).dropWhile isDig ∧ ∃ n, w' = w.drewN n

set_option maxHeartbeats 1000000 in
theorem cutDigits_any (s : ByteArray) (w : World) (hs : s.size ≤ 1099511627776) : Calls Tryz.prog 142 #[.string s] w (RetCut s w) := by
  go_enter Tryz.func142, Tryz.ntmps142
  go_wp2
  go_loop [4] (fun v => ∃ k : Nat, k ≤ s.size ∧ v = .int .i64 (k : Int) ∧ Hid (((bytes s).take k).all isDig = true)) (fun v => s.size - (intOf v).toNat)
  case atStart => exact ⟨0, Nat.zero_le _, rfl, rfl⟩
  case round =>
    obtain ⟨k, hk, rfl, hR⟩ := hrel
    by_cases hlt : k < s.size
    · have hb : isDig s[k] = (decide (48 ≤ s[k].toNat) && decide (s[k].toNat ≤ 57)) := rfl
      have HB := Lib.hid hb
      have hts := Lib.hid (take_snoc s k hlt)
      clear hb
      go_wp2_with fail
      · have h1 : 48 ≤ (s[k].toNat : Int) := by assumption
        have h2 : (s[k].toNat : Int) ≤ 57 := by assumption
        go_round
        case rel =>
          refine ⟨k + 1, by omega, by go_num, ?_⟩
          unfold Hid
          rw [hts.out, List.all_append, hR.out]
          simp only [List.all_cons, List.all_nil, Bool.and_true, Bool.true_and]
          rw [HB.out, decide_eq_true (by omega), decide_eq_true (by omega)]; rfl
        case measure => simp [intOf]; omega
      · have h1 : 57 < (s[k].toNat : Int) := by assumption
        have hfin := Lib.hid (cut_fin hR.out (fun _ => by rw [HB.out, decide_eq_false (p := s[k].toNat ≤ 57) (by omega), Bool.and_false]))
        go_quiet (fail)
        go_wp2
        go_ret2
        exact ⟨_, _, rfl, hfin.out.1, hfin.out.2, _, rfl⟩
      · have h1 : (s[k].toNat : Int) < 48 := by assumption
        have hfin := Lib.hid (cut_fin hR.out (fun _ => by rw [HB.out, decide_eq_false (p := 48 ≤ s[k].toNat) (by omega), Bool.false_and]))
        go_quiet (fail)
        go_wp2
        go_ret2
        exact ⟨_, _, rfl, hfin.out.1, hfin.out.2, _, rfl⟩
    · have hfin := Lib.hid (cut_fin hR.out (fun h => absurd h hlt))
      go_wp2_with fail
      go_quiet (fail)
      go_wp2
      go_ret2
      exact ⟨_, _, rfl, hfin.out.1, hfin.out.2, _, rfl⟩

/-- the text without a sign -/
def unsign (l : List UInt8) : Bool × List UInt8 := if l.head? = some 45 then (true, l.tail) else (false, l)
def RetMinus (s : ByteArray) (w : World) (e : Ending) (w' : World) : Prop := ∃ (r : ByteArray) (neg : Bool), e = .returned (.tuple #[.string r, .bool neg]) ∧ unsign (bytes s) = (neg, bytes r) ∧ w = w'
theorem cutMinus_any (s : ByteArray) (w : World) : Calls Tryz.prog 141 #[.string s, .string ⟨#[45]⟩] w (RetMinus s w) := by
  refine (Tryz.strings_CutPrefix s ⟨#[45]⟩ w).mono ?_
  rintro e w1 ⟨rfl, rfl⟩
  refine ⟨_, _, rfl, ?_, rfl⟩
  unfold unsign
  cases h : s.data.toList with
  | nil => simp [bytes, h, Lib.trimPrefix, Lib.hasPrefix]
  | cons x l =>
    by_cases hx : x = 45
    · subst hx; simp [bytes, h, Lib.trimPrefix, Lib.hasPrefix]
    · have hx' : ¬ 45 = x := fun e => hx e.symm
      simp [bytes, h, Lib.trimPrefix, Lib.hasPrefix, List.isPrefixOf, hx, hx']

/-- the parts of a text of the form of a number, and whether it has this form -/
def splitF (l : List UInt8) : Bool × List UInt8 × List UInt8 × Bool :=
  let p := unsign l
  let num := p.2.takeWhile isDig
  let rest := p.2.dropWhile isDig
  if num = [48] then (p.1, num, [], !p.1 && rest.isEmpty)
  else if num = [] ∨ num.head? = some 48 then (p.1, num, [], false)
  else if rest = [] then (p.1, num, [], true)
  else if rest.head? ≠ some 47 then (p.1, num, [], false)
  else (p.1, num, rest.tail.takeWhile isDig, (rest.tail.dropWhile isDig).isEmpty && !(rest.tail.takeWhile isDig).isEmpty && (rest.tail.takeWhile isDig).head? != some 48 && (rest.tail.takeWhile isDig) != [49])
def RetSplit (s : ByteArray) (w : World) (e : Ending) (w' : World) : Prop :=
  ∃ (neg : Bool) (t d : ByteArray) (ok : Bool), e = .returned (.tuple #[.agg #[.bool neg, .string t, .string d], .bool ok]) ∧ splitF (bytes s) = (neg, bytes t, bytes d, ok) ∧ Ext w w'
theorem unsign_le {l r : List UInt8} {neg : Bool} (h : unsign l = (neg, r)) : r.length ≤ l.length := by
  unfold unsign at h
  split at h <;> (injection h with _ h; subst h; simp)
/-- what the walk asks of a string's first byte -/
theorem head_of {t : ByteArray} (h : bytes t ≠ []) : 0 < t.size ∧ t.toList ≠ [] ∧ t.toList.isEmpty = false := by
  rw [Lib.toList_data]
  have h1 : 0 < t.size := by rw [← bytes_length]; exact List.length_pos_iff.2 h
  exact ⟨h1, h, by simpa using h⟩
theorem head_byte {t : ByteArray} (h : 0 < t.size) : (bytes t).head? = some t[0] := by
  have h1 : 0 < (bytes t).length := by rw [bytes_length]; exact h
  rw [List.head?_eq_getElem?, List.getElem?_eq_getElem h1, bytes_at t h]
theorem byte_eq {b : UInt8} {n : Nat} (hn : n < 256) : ((b.toNat : Int) == (n : Int)) = decide (b = UInt8.ofNat n) := by
  rw [Bool.eq_iff_iff]
  simp
  constructor
  · intro h
    have : b.toNat = n := by omega
    rw [← this]; simp
  · rintro rfl
    simp [Nat.mod_eq_of_lt hn]

theorem Blk.cell3 {t : TypeId} {w : World} {g : Nat} {x y z : Value} (h : Blk t w g #[x, y, z]) : w.cell? ⟨g, 0, none⟩ = some x ∧ w.cell? ⟨g, 1, none⟩ = some y ∧ w.cell? ⟨g, 2, none⟩ = some z ∧ w.frozen? ⟨g, 0, none⟩ = false ∧ w.frozen? ⟨g, 1, none⟩ = false ∧ w.frozen? ⟨g, 2, none⟩ = false :=
  ⟨h.cell 0, h.cell 1, h.cell 2, h.frozen 0, h.frozen 1, h.frozen 2⟩
theorem fin_split {fn : Func} {tmps : Array Value} {w wz : World} {r : Nat} {neg ok : Bool} {s t d : ByteArray} (hres : fn.results = #[.cell 2 120, .tmp 3]) (ht : tmps[2]? = some (.pointer (some ⟨r, 0, none⟩))) (h3 : tmps[3]? = some (.bool ok))
    (hB : Blk 120 wz r #[.bool neg, .string t, .string d]) (hE : Ext w wz) (hS : splitF (bytes s) = (neg, bytes t, bytes d, ok)) : bodyPost Tryz.prog fn (RetSplit s w) .ret ⟨tmps, []⟩ wz := by
  obtain ⟨h0, h1, h2, _⟩ := hB.cell3
  refine bodyPost_ret (v := .tuple #[.agg #[.bool neg, .string t, .string d], .bool ok]) (by simp [results, hres, ht, h3, go_sem, h0, h1, h2]) rfl ⟨neg, t, d, ok, rfl, hS, hE⟩

set_option maxHeartbeats 2000000 in
set_option maxRecDepth 100000 in
theorem split_any (s : ByteArray) (w : World) (hs : s.size ≤ 1099511627776) : Calls Tryz.prog 97 #[.string s] w (RetSplit s w) := by
  go_enter Tryz.func97, Tryz.ntmps97
  go_wp2_with fail
  refine (cutMinus_any s _).mono ?_
  rintro e w1 ⟨r, neg, rfl, hr, rfl⟩
  have hrs : r.size ≤ 1099511627776 := by
    have := unsign_le hr; rw [bytes_length, bytes_length] at this; omega
  have HR := Lib.hid hr
  clear hr
  go_wp2_with fail
  refine (cutDigits_any r _ hrs).mono ?_
  rintro e w1 ⟨t, u, rfl, ht, hu, n1, rfl⟩
  have HT := Lib.hid ht
  have HU := Lib.hid hu
  have hus : u.size ≤ 1099511627776 := by
    have h1 := congrArg List.length hu
    have h2 := (List.dropWhile_suffix isDig (l := bytes r)).sublist.length_le
    rw [bytes_length] at h1
    rw [bytes_length] at h2
    omega
  have HSP : Hid (∀ (d : List UInt8) (ok : Bool), splitF (bytes s) = (neg, bytes t, d, ok) ↔ (if bytes t = [48] then (neg, bytes t, [], !neg && (bytes u).isEmpty)
      else if bytes t = [] ∨ (bytes t).head? = some 48 then (neg, bytes t, [], false)
      else if bytes u = [] then (neg, bytes t, [], true)
      else if (bytes u).head? ≠ some 47 then (neg, bytes t, [], false)
      else (neg, bytes t, (bytes u).tail.takeWhile isDig, ((bytes u).tail.dropWhile isDig).isEmpty && !((bytes u).tail.takeWhile isDig).isEmpty && ((bytes u).tail.takeWhile isDig).head? != some 48 && ((bytes u).tail.takeWhile isDig) != [49])) = (neg, bytes t, d, ok)) := by
    intro d ok
    unfold splitF
    rw [HR.out]
    simp only [← HT.out, ← HU.out]
  clear ht hu
  generalize hwb : World.alloc (World.alloc w _) _ = wb0
  obtain ⟨hBR, hBF, hE⟩ := two_blocks hwb
  clear hwb
  generalize hwb : World.drewN wb0 n1 = wb
  have HBR : Hid (Blk 120 wb w.heap.size #[.bool false, .string ⟨#[]⟩, .string ⟨#[]⟩]) := hwb ▸ hBR.drewN n1
  have HBF : Hid (Blk 120 wb (w.heap.size + 1) #[.bool neg, .string ⟨#[]⟩, .string ⟨#[]⟩]) := hwb ▸ hBF.drewN n1
  have HE : Hid (Ext w wb) := hwb ▸ hE.drewN n1
  clear hwb hBR hBF hE
  clear wb0
  obtain ⟨x0, x1, x2, x3, x4, x5⟩ := HBR.out.cell3
  obtain ⟨y0, y1, y2, y3, y4, y5⟩ := HBF.out.cell3
  have hu1 : u.toList = bytes u := Lib.toList_data u
  have ht1 : t.toList = bytes t := Lib.toList_data t
  have HU1 := Lib.hid hu1
  have HT1 := Lib.hid ht1
  clear hu1 ht1
  by_cases c1 : bytes t = [48]
  · have d1 : (t.toList == [48]) = true := by rw [HT1.out, c1]; rfl
    cases neg with
    | true =>
      have HS : Hid (splitF (bytes s) = (true, bytes t, bytes ⟨#[]⟩, false)) := by
        unfold Hid; rw [HSP.out, if_pos c1]; rfl
      clear c1
      go_wp2
      exact fin_split rfl rfl rfl ((((HBR.out.far (p := ⟨w.heap.size + 1, 1, none⟩) (by simp) (.string t)).set_ 0 (.bool true)).set_ 1 (.string t)).set_ 2 (.string ⟨#[]⟩)) ((((HE.out.setCell (Or.inr (by simp)) _).setCell (Or.inr (by simp)) _).setCell (Or.inr (by simp)) _).setCell (Or.inr (by simp)) _) HS.out
    | false =>
      by_cases c2 : bytes u = []
      · have d2 : u.toList.isEmpty = true := by rw [HU1.out, c2, List.isEmpty_nil]
        have HS : Hid (splitF (bytes s) = (false, bytes t, bytes ⟨#[]⟩, true)) := by
          unfold Hid; rw [HSP.out, if_pos c1, c2]; rfl
        clear c1 c2
        go_wp2
        exact fin_split rfl rfl rfl ((((HBR.out.far (p := ⟨w.heap.size + 1, 1, none⟩) (by simp) (.string t)).set_ 0 (.bool false)).set_ 1 (.string t)).set_ 2 (.string ⟨#[]⟩)) ((((HE.out.setCell (Or.inr (by simp)) _).setCell (Or.inr (by simp)) _).setCell (Or.inr (by simp)) _).setCell (Or.inr (by simp)) _) HS.out
      · have d2 : u.toList.isEmpty = false := (head_of c2).2.2
        have HS : Hid (splitF (bytes s) = (false, bytes t, bytes ⟨#[]⟩, false)) := by
          unfold Hid; rw [HSP.out, if_pos c1, show (bytes u).isEmpty = false by simpa using c2]; rfl
        clear c1 c2
        go_wp2
        exact fin_split rfl rfl rfl ((((HBR.out.far (p := ⟨w.heap.size + 1, 1, none⟩) (by simp) (.string t)).set_ 0 (.bool false)).set_ 1 (.string t)).set_ 2 (.string ⟨#[]⟩)) ((((HE.out.setCell (Or.inr (by simp)) _).setCell (Or.inr (by simp)) _).setCell (Or.inr (by simp)) _).setCell (Or.inr (by simp)) _) HS.out
  have d1 : (t.toList == [48]) = false := by rw [HT1.out]; simpa using c1
  by_cases c2 : bytes t = []
  · have d2 : t.toList = [] := HT1.out.trans c2
    have HS : Hid (splitF (bytes s) = (neg, bytes t, bytes ⟨#[]⟩, false)) := by
      unfold Hid; rw [HSP.out, if_neg c1, if_pos (Or.inl c2)]
    clear c1 c2
    go_wp2
    exact fin_split rfl rfl rfl ((((HBR.out.far (p := ⟨w.heap.size + 1, 1, none⟩) (by simp) (.string t)).set_ 0 (.bool neg)).set_ 1 (.string t)).set_ 2 (.string ⟨#[]⟩)) ((((HE.out.setCell (Or.inr (by simp)) _).setCell (Or.inr (by simp)) _).setCell (Or.inr (by simp)) _).setCell (Or.inr (by simp)) _) HS.out
  obtain ⟨g1, g2, g3⟩ := head_of c2
  have hb0 := byte_eq (b := t[0]) (n := 48) (by omega)
  have hh0 := head_byte g1
  by_cases c3 : t[0] = 48
  · have d3 : ((t[0].toNat : Int) == 48) = true := by rw [show (48 : Int) = ((48 : Nat) : Int) from rfl, hb0]; simpa using c3
    have HS : Hid (splitF (bytes s) = (neg, bytes t, bytes ⟨#[]⟩, false)) := by
      unfold Hid; rw [HSP.out, if_neg c1, if_pos (Or.inr (by rw [hh0, c3]))]
    clear c1 c2 c3 hb0 hh0
    go_wp2
    exact fin_split rfl rfl rfl ((((HBR.out.far (p := ⟨w.heap.size + 1, 1, none⟩) (by simp) (.string t)).set_ 0 (.bool neg)).set_ 1 (.string t)).set_ 2 (.string ⟨#[]⟩)) ((((HE.out.setCell (Or.inr (by simp)) _).setCell (Or.inr (by simp)) _).setCell (Or.inr (by simp)) _).setCell (Or.inr (by simp)) _) HS.out
  have d3 : ((t[0].toNat : Int) == 48) = false := by rw [show (48 : Int) = ((48 : Nat) : Int) from rfl, hb0]; simpa using c3
  have c4 : ¬ (bytes t = [] ∨ (bytes t).head? = some 48) := by
    rintro (h | h)
    · exact c2 h
    · rw [hh0] at h; injection h with h; exact c3 h
  clear hb0 hh0 c3 c2
  by_cases c5 : bytes u = []
  · have d5 : u.toList.isEmpty = true := by rw [HU1.out, c5]; rfl
    have HS : Hid (splitF (bytes s) = (neg, bytes t, bytes ⟨#[]⟩, true)) := by
      unfold Hid; rw [HSP.out, if_neg c1, if_neg c4, if_pos c5]
    clear c1 c4 c5
    go_wp2
    exact fin_split rfl rfl rfl ((((HBR.out.far (p := ⟨w.heap.size + 1, 1, none⟩) (by simp) (.string t)).set_ 0 (.bool neg)).set_ 1 (.string t)).set_ 2 (.string ⟨#[]⟩)) ((((HE.out.setCell (Or.inr (by simp)) _).setCell (Or.inr (by simp)) _).setCell (Or.inr (by simp)) _).setCell (Or.inr (by simp)) _) HS.out
  obtain ⟨k1, k2, k3⟩ := head_of c5
  have hb0 := byte_eq (b := u[0]) (n := 47) (by omega)
  have hh0 := head_byte k1
  by_cases c6 : u[0] = 47
  · have d6 : ((u[0].toNat : Int) != 47) = false := by
      have : ((u[0].toNat : Int) == 47) = true := by rw [show (47 : Int) = ((47 : Nat) : Int) from rfl, hb0]; simpa using c6
      simp [bne, this]
    have H6 : Hid (¬ (bytes u).head? ≠ some 47) := by unfold Hid; rw [hh0, c6]; simp
    have HC : Hid (bytes t ≠ [48] ∧ ¬ (bytes t = [] ∨ (bytes t).head? = some 48) ∧ bytes u ≠ []) := ⟨c1, c4, c5⟩
    clear c1 c4 c5 c6 hb0 hh0
    go_wp2_with fail
    refine (cutDigits_any (u.extract 1 u.size) _ (by rw [ByteArray.size_extract]; omega)).mono ?_
    rintro e w1 ⟨v, x, rfl, hv, hx, n2, rfl⟩
    have ev : bytes (u.extract 1 u.size) = (bytes u).tail := by
      rw [bytes_extract, List.take_of_length_le (by rw [List.length_drop, bytes_length]; exact Nat.le_refl _), List.drop_one]
    rw [ev] at hv hx
    have HF : Hid (∀ ok, (((bytes x).isEmpty && !(bytes v).isEmpty && (bytes v).head? != some 48 && (bytes v) != [49]) = ok) → splitF (bytes s) = (neg, bytes t, bytes v, ok)) := by
      intro ok h
      rw [HSP.out, if_neg HC.out.1, if_neg HC.out.2.1, if_neg HC.out.2.2, if_neg H6.out, ← hv, ← hx, h]
    have hv1 : v.toList = bytes v := Lib.toList_data v
    have hx1 : x.toList = bytes x := Lib.toList_data x
    have HV1 := Lib.hid hv1
    have HX1 := Lib.hid hx1
    clear hv hx ev hv1 hx1 d6
    generalize hwc : World.setCell wb _ _ = wc0
    generalize hwd : World.drewN wc0 n2 = wd
    have HBR2 : Hid (Blk 120 wd w.heap.size #[.bool false, .string ⟨#[]⟩, .string ⟨#[]⟩]) := hwd ▸ hwc ▸ (HBR.out.far (p := ⟨w.heap.size + 1, 1, none⟩) (by simp) _).drewN n2
    have HBF2 : Hid (Blk 120 wd (w.heap.size + 1) #[.bool neg, .string t, .string ⟨#[]⟩]) := hwd ▸ hwc ▸ (HBF.out.set_ 1 _).drewN n2
    have HE2 : Hid (Ext w wd) := hwd ▸ hwc ▸ (HE.out.setCell (Or.inr (by simp)) _).drewN n2
    clear hwd hwc HBR HBF HE x0 x1 x2 x3 x4 x5 y0 y1 y2 y3 y4 y5
    clear wc0
    obtain ⟨x0, x1, x2, x3, x4, x5⟩ := HBR2.out.cell3
    obtain ⟨y0, y1, y2, y3, y4, y5⟩ := HBF2.out.cell3
    go_wp2_with fail
    by_cases q1 : bytes x = []
    · have r1 : x.toList.isEmpty = true := by rw [HX1.out, q1, List.isEmpty_nil]
      by_cases q2 : bytes v = []
      · have r2 : v.toList.isEmpty = true := by rw [HV1.out, q2, List.isEmpty_nil]
        have r2' : v.toList = [] := HV1.out.trans q2
        have HS := Lib.hid (HF.out false (by rw [q1, q2]; rfl))
        clear q1 q2
        go_region
        all_goals go_wp2
        all_goals exact fin_split rfl rfl rfl (((((HBR2.out.far (p := ⟨w.heap.size + 1, 2, none⟩) (by simp) (.string v)).set_ 0 (.bool neg)).set_ 1 (.string t)).set_ 2 (.string v)).drewN 1) (((((HE2.out.setCell (Or.inr (by simp)) _).setCell (Or.inr (by simp)) _).setCell (Or.inr (by simp)) _).setCell (Or.inr (by simp)) _).drewN 1) HS.out
      · obtain ⟨g4, g5, g6⟩ := head_of q2
        have hb1 := byte_eq (b := v[0]) (n := 48) (by omega)
        have hh1 := head_byte g4
        have ne2 : (bytes v).isEmpty = false := by simpa using q2
        by_cases q3 : v[0] = 48
        · have r3 : ((v[0].toNat : Int) == 48) = true := by rw [show (48 : Int) = ((48 : Nat) : Int) from rfl, hb1]; simpa using q3
          have r3' : ((v[0].toNat : Int) != 48) = false := by rw [bne, r3]; rfl
          have HS := Lib.hid (HF.out false (by rw [q1, ne2, hh1, q3]; rfl))
          clear q1 q2 q3 hb1 hh1 ne2 r3
          go_region
          all_goals go_wp2
          all_goals exact fin_split rfl rfl rfl (((((HBR2.out.far (p := ⟨w.heap.size + 1, 2, none⟩) (by simp) (.string v)).set_ 0 (.bool neg)).set_ 1 (.string t)).set_ 2 (.string v)).drewN 1) (((((HE2.out.setCell (Or.inr (by simp)) _).setCell (Or.inr (by simp)) _).setCell (Or.inr (by simp)) _).setCell (Or.inr (by simp)) _).drewN 1) HS.out
        · have r3 : ((v[0].toNat : Int) == 48) = false := by rw [show (48 : Int) = ((48 : Nat) : Int) from rfl, hb1]; simpa using q3
          have r3' : ((v[0].toNat : Int) != 48) = true := by rw [bne, r3]; rfl
          have n3 : ((bytes v).head? != some 48) = true := by rw [hh1]; simpa using q3
          by_cases q4 : bytes v = [49]
          · have r4 : (v.toList == [49]) = true := by rw [HV1.out, q4]; rfl
            have r4' : (v.toList != [49]) = false := by rw [bne, r4]; rfl
            have HS := Lib.hid (HF.out false (by rw [q1, n3, ne2, q4]; rfl))
            clear q1 q2 q3 q4 hb1 hh1 ne2 n3 r3 r4'
            go_region
            all_goals go_wp2
            all_goals exact fin_split rfl rfl rfl (((((HBR2.out.far (p := ⟨w.heap.size + 1, 2, none⟩) (by simp) (.string v)).set_ 0 (.bool neg)).set_ 1 (.string t)).set_ 2 (.string v)).drewN 1) (((((HE2.out.setCell (Or.inr (by simp)) _).setCell (Or.inr (by simp)) _).setCell (Or.inr (by simp)) _).setCell (Or.inr (by simp)) _).drewN 1) HS.out
          · have r4 : (v.toList == [49]) = false := by rw [HV1.out]; simpa using q4
            have r4' : (v.toList != [49]) = true := by rw [bne, r4]; rfl
            have HS := Lib.hid (HF.out true (by rw [q1, n3, ne2, show (bytes v != [49]) = true by rw [bne]; simpa using q4]; rfl))
            clear q1 q2 q3 q4 hb1 hh1 ne2 n3 r3 r4'
            go_region
            all_goals go_wp2
            all_goals exact fin_split rfl rfl rfl (((((HBR2.out.far (p := ⟨w.heap.size + 1, 2, none⟩) (by simp) (.string v)).set_ 0 (.bool neg)).set_ 1 (.string t)).set_ 2 (.string v)).drewN 1) (((((HE2.out.setCell (Or.inr (by simp)) _).setCell (Or.inr (by simp)) _).setCell (Or.inr (by simp)) _).setCell (Or.inr (by simp)) _).drewN 1) HS.out
    · have r1 : x.toList.isEmpty = false := (head_of q1).2.2
      have HS := Lib.hid (HF.out false (by rw [show (bytes x).isEmpty = false by simpa using q1]; rfl))
      clear q1
      go_region
      all_goals go_wp2
      all_goals exact fin_split rfl rfl rfl (((((HBR2.out.far (p := ⟨w.heap.size + 1, 2, none⟩) (by simp) (.string v)).set_ 0 (.bool neg)).set_ 1 (.string t)).set_ 2 (.string v)).drewN 1) (((((HE2.out.setCell (Or.inr (by simp)) _).setCell (Or.inr (by simp)) _).setCell (Or.inr (by simp)) _).setCell (Or.inr (by simp)) _).drewN 1) HS.out
  · have d6 : ((u[0].toNat : Int) != 47) = true := by
      have : ((u[0].toNat : Int) == 47) = false := by rw [show (47 : Int) = ((47 : Nat) : Int) from rfl, hb0]; simpa using c6
      simp [bne, this]
    have HS : Hid (splitF (bytes s) = (neg, bytes t, bytes ⟨#[]⟩, false)) := by
      unfold Hid; rw [HSP.out, if_neg c1, if_neg c4, if_neg c5, if_pos (by rw [hh0]; simpa using c6)]
    clear c1 c4 c5 c6 hb0 hh0
    go_wp2
    exact fin_split rfl rfl rfl ((((HBR.out.far (p := ⟨w.heap.size + 1, 1, none⟩) (by simp) (.string t)).set_ 0 (.bool neg)).set_ 1 (.string t)).set_ 2 (.string ⟨#[]⟩)) ((((HE.out.setCell (Or.inr (by simp)) _).setCell (Or.inr (by simp)) _).setCell (Or.inr (by simp)) _).setCell (Or.inr (by simp)) _) HS.out
end Go.Proofs.YtndafmjcelgnbaaGreatDoor
