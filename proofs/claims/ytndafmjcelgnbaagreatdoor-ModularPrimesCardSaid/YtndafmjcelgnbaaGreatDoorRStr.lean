/-
  Package rational: Ratio.String for a number with a denominator.
-/
import Derived.Test.YtndafmjcelgnbaaGreatDoorRat2
import Derived.Test.YtndafmjcelgnbaaGreatDoorPrint
namespace Go.Proofs.YtndafmjcelgnbaaGreatDoor
open Go.RowKit

/-- the canonical text of a rational number -/
def ratText (q : Rat) : List UInt8 := if q.den = 1 then Lib.itoa q.num else Lib.itoa q.num ++ [47] ++ Lib.itoa (q.den : Int)

set_option maxHeartbeats 2000000 in
set_option maxRecDepth 100000 in
theorem RString_frac (a : Value) (q : Rat) (w : World) (hg : Glob w) (ha : RatIs w a q) (hn : PrtOk q.num.natAbs) (hd : PrtOk q.den) (h1 : q.den ≠ 1) (hl : (Lib.itoa q.num).length ≤ 549755813888) : Calls Tryz.prog 65 #[a] w (RetV w (.string ⟨(ratText q).toArray⟩)) := by
  obtain ⟨s, t, A, B, l, c, l', c', rfl, hIn, hId⟩ := ha
  have hdf : denF q = (q.den : Int) := by unfold denF; rw [if_neg h1]
  have hd0 : ¬ denF q = 0 := fun h => h1 (denF_zero.1 h)
  have HM : Hid (ratText q = Lib.itoa q.num ++ [47] ++ Lib.itoa (q.den : Int)) := by unfold Hid ratText; rw [if_neg h1]
  rw [hdf] at hId
  have HIn := Lib.hid hIn
  have HId := Lib.hid hId
  have HG := Lib.hid hg
  have HPn := Lib.hid hn
  have HPd : Hid (PrtOk ((q.den : Int)).natAbs) := by unfold Hid; rw [Int.natAbs_natCast]; exact hd
  have hne := itoa_ne (q.den : Int)
  rw [hdf] at hd0
  generalize hm : ratText q = m at *
  have hmne : m ≠ [] := by rw [HM.out]; simp
  generalize q.num = x at *
  generalize (q.den : Int) = y at *
  clear hg hn hd h1 hIn hId hdf hm hne
  go_enter Tryz.func65, Tryz.ntmps65
  go_wp2_with fail
  generalize hwb : World.alloc w _ = wb
  obtain ⟨hB0, hE0⟩ := Blk.one hwb
  clear hwb
  refine (IsZero_any _ y _ (HId.out.ext hE0)).mono ?_
  rw [decide_eq_false hd0]
  rintro e w1 ⟨rfl, hF1⟩
  have HB1 := Lib.hid (hB0.ext hF1)
  have HE1 := Lib.hid (hE0.trans hF1)
  obtain ⟨x0, x1, x2, x3, _, _, _, _⟩ := HB1.out.cell4
  clear hB0 hE0 hF1 hd0
  go_wp2_with fail
  refine (Append_any _ x none 0 0 [] w1 _ (Fr.refl _ _) (HG.out.ext HE1.out) (HIn.out.ext HE1.out) HPn.out rfl Buf.nil Newer.nil (by omega)).mono ?_
  rw [List.nil_append]
  rintro e w2 ⟨A2, cap2, rfl, hT2, hF2, hA2⟩
  have hN2 : Newer w1 A2 := (Newer.nil (w0 := w1)).next (Fr.refl _ _) hA2
  have hE2 : Ext w1 w2 := (Newer.nil (w0 := w1)).ext (Fr.refl _ _) hF2
  have HT2 := Lib.hid hT2
  have HN2 := Lib.hid hN2
  have HE2 := Lib.hid hE2
  clear hT2 hF2 hA2 hN2 hE2 x0 x1 x2 x3
  obtain ⟨n, hnl⟩ : ∃ n, (Lib.itoa x).length = n := ⟨_, rfl⟩
  rw [hnl] at hl ⊢
  have HNL := Lib.hid hnl
  clear hnl
  have HS : Hid (Shows .u8 (w2.alloc (.cells #[.int .u8 47] 5)) (some ⟨w2.heap.size, 0, none⟩) (nats [47])) := (Own.new w2 5 .u8 [47] []).shows0
  go_wp2_with (at_builtin; refine Hid.out ?_)
  refine Lib.hid ?_
  refine wpList_append_words rfl _ _ _ rfl _ .u8 1 Tryz.underlying133 info8 A2 (some ⟨w2.heap.size, 0, none⟩) n 1 cap2 1 rfl rfl (nats (Lib.itoa x)) (nats [47]) (by rw [nats_length]; exact HNL.out) rfl (HT2.out.ext ((Fr.refl _ _).alloc _)) HS.out (by simp only [maxLen]; omega) (by omega) ?_
  intro A3 cap3 w3 hB3 hF3 hA3
  have hE3 : Ext w1 w3 := HN2.out.ext (HE2.out.alloc _) hF3
  have hN3 : Newer w1 A3 := HN2.out.next (w := w2) HE2.out (fun b hb => (hA3 b hb).imp id (fun h => by simp at h; omega))
  have hT3 : TBuf w3 A3 cap3 (Lib.itoa x ++ [47]) := by show Buf _ _ _ _ _ (nats (Lib.itoa x ++ [47])); rw [nats_append]; exact hB3
  have HT3 := Lib.hid hT3
  have HN3 := Lib.hid hN3
  have HE3 := Lib.hid hE3
  have HB3 := Lib.hid (HB1.out.ext hE3)
  obtain ⟨x0, x1, x2, x3, _, _, _, _⟩ := HB3.out.cell4
  clear hB3 hF3 hA3 hE3 hN3 hT3
  go_wp2_with fail
  refine (Append_any _ y A3 cap3 (n + 1) (Lib.itoa x ++ [47]) w1 _ HE3.out (HG.out.ext HE1.out) (HId.out.ext HE1.out) HPd.out (by rw [List.length_append, HNL.out]; rfl) HT3.out HN3.out (by omega)).mono ?_
  rw [← HM.out]
  rintro e w4 ⟨A4, cap4, rfl, hT4, hF4, hA4⟩
  have HE4 : Hid (Ext w w4) := HE1.out.trans (HN3.out.ext HE3.out hF4)
  obtain ⟨b, rfl, hc⟩ := TBuf.bytes hT4 hmne
  have hcv := run_convert_bytes_back (P := Tryz.prog) w4 133 9 5 ⟨b, 0, none⟩ cap4 m Tryz.underlying133 Tryz.underlying5 Tryz.underlying9 hc
  clear hT4 hF4 hA4 hc hmne x0 x1 x2 x3
  go_wp2
  go_ret
  exact ⟨rfl, HE4.out⟩
end Go.Proofs.YtndafmjcelgnbaaGreatDoor
