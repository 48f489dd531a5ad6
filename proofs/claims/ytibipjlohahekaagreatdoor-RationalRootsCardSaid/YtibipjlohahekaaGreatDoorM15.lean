/-
 My texts Small, Rat2, RStr, Gen put together.
-/
import Derived.Test.YtibipjlohahekaaGreatDoorM14
import Derived.Test.YtibipjlohahekaaGreatDoorM13
import Derived.Outline
import Derived.Test.YtibipjlohahekaaGreatDoorM11
import Derived.Test.YtibipjlohahekaaGreatDoorM10
namespace Go.Proofs.YtibipjlohahekaaGreatDoor
open Go.RowKit
end Go.Proofs.YtibipjlohahekaaGreatDoor

namespace Go.Proofs.YtibipjlohahekaaGreatDoor
open Go.RowKit
def RetRat (w:World) (q:Rat) (e:Ending) (w':World):Prop:=∃ v,e=.returned v∧RatIs w' v q∧Ext w w'
theorem fin_rat {fn:Func} {t:Tmp} {tmps:Array Value} {w w':World} {r:Nat} {s s':Bool} {A B:Option Addr} {l c l' c':Nat} {q:Rat} (hres:fn.results=#[.cell t 70]) (ht:tmps[t]? = some (.pointer (some ⟨r,0,none⟩)))
 (hB:Blk 70 w' r #[.bool s, .slice A l c, .bool s', .slice B l' c']) (hI:IntIs w' (.agg #[.bool s, .slice A l c]) q.num) (hI':IntIs w' (.agg #[.bool s', .slice B l' c']) (denF q)) (hE:Ext w w') :
 bodyPost Tryz.prog fn (RetRat w q) .ret ⟨tmps,[]⟩ w':=by
 obtain ⟨h0,h1,h2,h4,_⟩:=hB.cell4
 exact bodyPost_ret (v:=.agg #[.bool s, .slice A l c, .bool s', .slice B l' c']) (by simp [results,hres,ht,go_sem,h0,h1,h2,h4]) rfl ⟨_,rfl,⟨_,_,_,_,_,_,_,_,rfl,hI,hI'⟩,hE⟩
theorem denF_zero {q:Rat}:denF q=0 ↔ q.den=1:=by
 unfold denF
 have:=q.den_nz
 split<;>omega
set_option maxHeartbeats 1000000 in
set_option maxRecDepth 100000 in
theorem lowest_any (a b:Value) (x y:Int) (q:Rat) (w:World) (ha:IntIs w a x) (hb:IntIs w b y) (hq:q.num=x∧(q.den:Int)=y):Calls Tryz.prog 95 #[a,b] w (RetRat w q):=by
 obtain ⟨s,A,l,c,rfl⟩:=ha.shape
 obtain ⟨t,B,l',c',rfl⟩:=hb.shape
 have HA:=zh ha
 have HB:=zh hb
 have HQ:=zh hq
 clear ha hb hq
 go_enter Tryz.func95,Tryz.ntmps95
 go_wp2_with fail
 generalize hwb:World.alloc (World.alloc (World.alloc w _) _) _=wb
 have hE:Ext w wb:=hwb ▸ (((Fr.refl _ _).alloc _).alloc _).alloc _
 have hB0:Blk 63 wb w.heap.size #[.bool s, .slice A l c]:=hwb ▸ ((Blk.new _ _ _).alloc _).alloc _
 have hB1:Blk 63 wb (w.heap.size + 1) #[.bool t, .slice B l' c']:=by
  have h:=(Blk.new (w.alloc (.cells #[.bool s, .slice A l c] 63)) 63 #[.bool t, .slice B l' c']).alloc (.cells #[.bool false, .slice none 0 0, .bool false, .slice none 0 0] 70)
  have e:(w.alloc (.cells #[.bool s, .slice A l c] 63)).heap.size=w.heap.size + 1:=by simp
  rw [e] at h
  exact hwb ▸ h
 have hB2:Blk 70 wb (w.heap.size + 1 + 1) #[.bool false, .slice none 0 0, .bool false, .slice none 0 0]:=by
  have h:=Blk.new ((w.alloc (.cells #[.bool s, .slice A l c] 63)).alloc (.cells #[.bool t, .slice B l' c'] 63)) 70 #[.bool false, .slice none 0 0, .bool false, .slice none 0 0]
  have e:((w.alloc (.cells #[.bool s, .slice A l c] 63)).alloc (.cells #[.bool t, .slice B l' c'] 63)).heap.size=w.heap.size + 1 + 1:=by simp
  rw [e] at h
  exact hwb ▸ h
 clear hwb
 refine (IsOne_any _ y _ (HB.out.ext hE)).mono ?_
 by_cases h1:y=1
 ·rw [decide_eq_true h1]
  rintro e w1 ⟨rfl,hF⟩
  have HE:=zh (hE.trans hF)
  have HB0:=zh (hB0.ext hF)
  have HB2:=zh (hB2.ext hF)
  have HD:Hid (denF q=0):=denF_zero.2 (by have:=HQ.out.2; omega)
  obtain ⟨x0,x1,_,_⟩:=HB0.out.cell2
  obtain ⟨y0,y1,y2,y3,y4,y5,y6,y7⟩:=HB2.out.cell4
  clear hE hF hB0 hB1 hB2 h1
  go_wp2
  refine fin_rat rfl rfl (HB2.out.put4 _ _ _ _) ?_ ?_ (Fr.local_ HE.out (Fr.set4 _ _ _ _) (by omega))
  ·rw [HQ.out.1]; exact (HA.out.ext HE.out).other HB2.out noWords4 (Fr.set4 _ _ _ _)
  ·rw [HD.out]; exact IntIs.zero _
 ·rw [decide_eq_false h1]
  rintro e w1 ⟨rfl,hF⟩
  have HE:=zh (hE.trans hF)
  have HB0:=zh (hB0.ext hF)
  have HB1:=zh (hB1.ext hF)
  have HB2:=zh (hB2.ext hF)
  have HD:Hid (denF q=y):=by
   have:=HQ.out.2
   unfold Hid denF; rw [if_neg (by omega)]; exact this
  obtain ⟨x0,x1,_,_⟩:=HB0.out.cell2
  obtain ⟨z0,z1,_,_⟩:=HB1.out.cell2
  obtain ⟨y0,y1,y2,y3,y4,y5,y6,y7⟩:=HB2.out.cell4
  clear hE hF hB0 hB1 hB2 h1
  go_wp2
  refine fin_rat rfl rfl (HB2.out.put4 _ _ _ _) ?_ ?_ (Fr.local_ HE.out (Fr.set4 _ _ _ _) (by omega))
  ·rw [HQ.out.1]; exact (HA.out.ext HE.out).other HB2.out noWords4 (Fr.set4 _ _ _ _)
  ·rw [HD.out]; exact (HB.out.ext HE.out).other HB2.out noWords4 (Fr.set4 _ _ _ _)
end Go.Proofs.YtibipjlohahekaaGreatDoor

namespace Go.Proofs.YtibipjlohahekaaGreatDoor
open Go.RowKit
def ratText (q:Rat):List UInt8:=if q.den=1 then Lib.itoa q.num else Lib.itoa q.num ++ [47] ++ Lib.itoa (q.den:Int)
set_option maxHeartbeats 2000000 in
set_option maxRecDepth 100000 in
theorem RString_frac (a:Value) (q:Rat) (w:World) (hg:Glob w) (ha:RatIs w a q) (hn:PrtOk q.num.natAbs) (hd:PrtOk q.den) (h1:q.den≠1) (hl:(Lib.itoa q.num).length≤68719476736):Calls Tryz.prog 63 #[a] w (RetV w (.string ⟨(ratText q).toArray⟩)):=by
 obtain ⟨s,t,A,B,l,c,l',c',rfl,hIn,hId⟩:=ha
 have hdf:denF q=(q.den:Int):=by unfold denF; rw [if_neg h1]
 have hd0:¬ denF q=0:=fun h=>h1 (denF_zero.1 h)
 have HM:Hid (ratText q=Lib.itoa q.num ++ [47] ++ Lib.itoa (q.den:Int)):=by unfold Hid ratText; rw [if_neg h1]
 rw [hdf] at hId
 have HIn:=zh hIn
 have HId:=zh hId
 have HG:=zh hg
 have HPn:=zh hn
 have HPd:Hid (PrtOk ((q.den:Int)).natAbs):=by unfold Hid; rw [Int.natAbs_natCast]; exact hd
 have hne:=itoa_ne (q.den:Int)
 rw [hdf] at hd0
 generalize hm:ratText q=m at *
 have hmne:m≠[]:=by rw [HM.out]; simp
 generalize q.num=x at *
 generalize (q.den:Int)=y at *
 clear hg hn hd h1 hIn hId hdf hm hne
 go_enter Tryz.func63,Tryz.ntmps63
 go_wp2_with fail
 generalize hwb:World.alloc w _=wb
 obtain ⟨hB0,hE0⟩:=Blk.one hwb
 clear hwb
 refine (IsZero_any _ y _ (HId.out.ext hE0)).mono ?_
 rw [decide_eq_false hd0]
 rintro e w1 ⟨rfl,hF1⟩
 have HB1:=zh (hB0.ext hF1)
 have HE1:=zh (hE0.trans hF1)
 obtain ⟨x0,x1,x2,x3,_,_,_,_⟩:=HB1.out.cell4
 clear hB0 hE0 hF1 hd0
 go_wp2_with fail
 refine (Append_any _ x none 0 0 [] w1 _ (Fr.refl _ _) (HG.out.ext HE1.out) (HIn.out.ext HE1.out) HPn.out rfl Buf.nil Newer.nil (by omega)).mono ?_
 rw [List.nil_append]
 rintro e w2 ⟨A2,cap2,rfl,hT2,hF2,hA2⟩
 have hN2:Newer w1 A2:=(Newer.nil (w0:=w1)).next (Fr.refl _ _) hA2
 have hE2:Ext w1 w2:=(Newer.nil (w0:=w1)).ext (Fr.refl _ _) hF2
 have HT2:=zh hT2
 have HN2:=zh hN2
 have HE2:=zh hE2
 clear hT2 hF2 hA2 hN2 hE2 x0 x1 x2 x3
 obtain ⟨n,hnl⟩:∃ n,(Lib.itoa x).length=n:=⟨_,rfl⟩
 rw [hnl] at hl ⊢
 have HNL:=zh hnl
 clear hnl
 have HS:Hid (Shows .u8 (w2.alloc (.cells #[.int .u8 47] 5)) (some ⟨w2.heap.size,0,none⟩) (nats [47])):=(Own.new w2 5 .u8 [47] []).shows0
 go_wp2_with (at_builtin; refine Hid.out ?_)
 refine zh ?_
 refine wpList_append_words rfl _ _ _ rfl _ .u8 1 Tryz.underlying28 info8 A2 (some ⟨w2.heap.size,0,none⟩) n 1 cap2 1 rfl rfl (nats (Lib.itoa x)) (nats [47]) (by rw [nats_length]; exact HNL.out) rfl (HT2.out.ext ((Fr.refl _ _).alloc _)) HS.out (by simp only [maxLen]; omega) (by omega) ?_
 intro A3 cap3 w3 hB3 hF3 hA3
 have hE3:Ext w1 w3:=HN2.out.ext (HE2.out.alloc _) hF3
 have hN3:Newer w1 A3:=HN2.out.next (w:=w2) HE2.out (fun b hb=>(hA3 b hb).imp id (fun h=>by simp at h; omega))
 have hT3:TBuf w3 A3 cap3 (Lib.itoa x ++ [47]):=by show Buf _ _ _ _ _ (nats (Lib.itoa x ++ [47])); rw [nats_append]; exact hB3
 have HT3:=zh hT3
 have HN3:=zh hN3
 have HE3:=zh hE3
 have HB3:=zh (HB1.out.ext hE3)
 obtain ⟨x0,x1,x2,x3,_,_,_,_⟩:=HB3.out.cell4
 clear hB3 hF3 hA3 hE3 hN3 hT3
 go_wp2_with fail
 refine (Append_any _ y A3 cap3 (n + 1) (Lib.itoa x ++ [47]) w1 _ HE3.out (HG.out.ext HE1.out) (HId.out.ext HE1.out) HPd.out (by rw [List.length_append,HNL.out]; rfl) HT3.out HN3.out (by omega)).mono ?_
 rw [← HM.out]
 rintro e w4 ⟨A4,cap4,rfl,hT4,hF4,hA4⟩
 have HE4:Hid (Ext w w4):=HE1.out.trans (HN3.out.ext HE3.out hF4)
 obtain ⟨b,rfl,hc⟩:=TBuf.bytes hT4 hmne
 have hcv:=run_convert_bytes_back (P:=Tryz.prog) w4 28 9 5 ⟨b,0,none⟩ cap4 m Tryz.underlying28 Tryz.underlying5 Tryz.underlying9 hc
 clear hT4 hF4 hA4 hc hmne x0 x1 x2 x3
 go_wp2
 go_ret
 exact ⟨rfl,HE4.out⟩
end Go.Proofs.YtibipjlohahekaaGreatDoor

namespace Go.Proofs.YtibipjlohahekaaGreatDoor
open Go.RowKit
theorem follows_mixed':Tryz.prog.follows .mixedOrders=true:=by kernel_rfl
theorem IntIs.shp {w:World} {v:Value} {z:Int} (h:IntIs w v z):∃ (s:Bool) (A:Option Addr) (l c:Nat),v=.agg #[.bool s, .slice A l c]:=h.shape
theorem IntIs.nil (w:World):IntIs w (.agg #[.bool false, .slice none 0 0]) 0:=IntIs.zero w
theorem RatIs.nil (w:World):RatIs w (.agg #[.bool false, .slice none 0 0, .bool false, .slice none 0 0]) 0:=RatIs.zero w
theorem RatIs.shp {w:World} {v:Value} {q:Rat} (h:RatIs w v q):∃ (s:Bool) (A:Option Addr) (l c:Nat) (t:Bool) (B:Option Addr) (l' c':Nat),v=.agg #[.bool s, .slice A l c, .bool t, .slice B l' c']:=by
 obtain ⟨s,t,A,B,l,c,l',c',h,_⟩:=h
 exact ⟨s,A,l,c,t,B,l',c',h⟩
theorem agg4_inj {a b c d a' b' c' d':Value} (h:Value.agg #[a,b,c,d]=.agg #[a',b',c',d']):a=a'∧b=b'∧c=c'∧d=d':=by
 injection h with h
 simpa using h
theorem RatIs.num {w:World} {a b c d:Value} {q:Rat} (h:RatIs w (.agg #[a,b,c,d]) q):IntIs w (.agg #[a,b]) q.num:=by
 obtain ⟨s,t,A,B,l,c,l',c',h,h1,h2⟩:=h
 obtain ⟨rfl,rfl,rfl,rfl⟩:=agg4_inj h
 exact h1
theorem RatIs.den {w:World} {a b c d:Value} {q:Rat} (h:RatIs w (.agg #[a,b,c,d]) q):IntIs w (.agg #[c,d]) (denF q):=by
 obtain ⟨s,t,A,B,l,c,l',c',h,h1,h2⟩:=h
 obtain ⟨rfl,rfl,rfl,rfl⟩:=agg4_inj h
 exact h2
theorem RatIs.of {w:World} {s t:Bool} {A B:Option Addr} {l c l' c':Nat} {q:Rat} (h1:IntIs w (.agg #[.bool s, .slice A l c]) q.num) (h2:IntIs w (.agg #[.bool t, .slice B l' c']) (denF q)):RatIs w (.agg #[.bool s, .slice A l c, .bool t, .slice B l' c']) q :=
 ⟨_,_,_,_,_,_,_,_,rfl,h1,h2⟩
section
variable {ops:Array Oper} {S:World→Prop} {o:Oper} {a:Act} {p:Operand} {g off:Nat} {x y z u v:Value}
end
end Go.Proofs.YtibipjlohahekaaGreatDoor
