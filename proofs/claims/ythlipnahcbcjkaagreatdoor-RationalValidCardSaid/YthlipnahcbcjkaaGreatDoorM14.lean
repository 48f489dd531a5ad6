/-
 My texts Small, Rat2, RStr, Gen put together.
-/
import Derived.Test.YthlipnahcbcjkaaGreatDoorM13
import Derived.Test.YthlipnahcbcjkaaGreatDoorM12
import Derived.Outline
import Derived.Test.YthlipnahcbcjkaaGreatDoorM11
import Derived.Test.YthlipnahcbcjkaaGreatDoorM10
set_option maxRecDepth 100000
namespace Go.Proofs.YthlipnahcbcjkaaGreatDoor
open Go.RowKit
end Go.Proofs.YthlipnahcbcjkaaGreatDoor

namespace Go.Proofs.YthlipnahcbcjkaaGreatDoor
open Go.RowKit
def Zkj (w:World) (g:Nat) (z:Int):Prop:=∃ s A l c,Blk 105 w g #[.bool s, .slice A l c]∧Zav w (.agg #[.bool s, .slice A l c]) z
def Zc1 (w:World) (q:Rat) (e:Ending) (w':World):Prop:=∃ v,e=.returned v∧ZaC w' v q∧Ext w w'
theorem Zli {fn:Func} {t:Tmp} {tmps:Array Value} {w w':World} {r:Nat} {s s':Bool} {A B:Option Addr} {l c l' c':Nat} {q:Rat} (hres:fn.results=#[.cell t 107]) (ht:tmps[t]? = some (.pointer (some ⟨r,0,none⟩)))
 (hB:Blk 107 w' r #[.bool s, .slice A l c, .bool s', .slice B l' c']) (hI:Zav w' (.agg #[.bool s, .slice A l c]) q.num) (hI':Zav w' (.agg #[.bool s', .slice B l' c']) (denF q)) (Q:Ext w w') :
 bodyPost Tryz.prog fn (Zc1 w q) .ret ⟨tmps,[]⟩ w':=by
 obtain ⟨h0,h1,h2,h4,_⟩:=hB.cell4
 exact bodyPost_ret (v:=.agg #[.bool s, .slice A l c, .bool s', .slice B l' c']) (by simp [results,hres,ht,go_sem,h0,h1,h2,h4]) rfl ⟨_,rfl,⟨_,_,_,_,_,_,_,_,rfl,hI,hI'⟩,Q⟩
theorem Zev {q:Rat}:denF q=0 ↔ q.den=1:=by
 unfold denF
 have:=q.den_nz
 split<;>omega
set_option maxHeartbeats 1000000 in
theorem Zb0 (a b:Value) (x y:Int) (q:Rat) (w:World) (ha:Zav w a x) (hb:Zav w b y) (hq:q.num=x∧(q.den:Int)=y):Calls Tryz.prog 75 #[a,b] w (Zc1 w q):=by
 obtain ⟨s,A,l,c,rfl⟩:=ha.shape
 obtain ⟨t,B,l',c',rfl⟩:=hb.shape
 have HA:=zh ha
 have HB:=zh hb
 have HQ:=zh hq
 clear ha hb hq
 go_enter Tryz.func75,Tryz.ntmps75
 go_wp2_with fail
 generalize hwb:World.alloc (World.alloc (World.alloc w _) _) _=wb
 have Q:Ext w wb:=hwb ▸ (((Fr.refl _ _).alloc _).alloc _).alloc _
 have hB0:Blk 105 wb w.heap.size #[.bool s, .slice A l c]:=hwb ▸ ((Blk.new _ _ _).alloc _).alloc _
 have hB1:Blk 105 wb (w.heap.size + 1) #[.bool t, .slice B l' c']:=by
  have h:=(Blk.new (w.alloc (.cells #[.bool s, .slice A l c] 105)) 105 #[.bool t, .slice B l' c']).alloc (.cells #[.bool false, .slice none 0 0, .bool false, .slice none 0 0] 107)
  have e:(w.alloc (.cells #[.bool s, .slice A l c] 105)).heap.size=w.heap.size + 1:=by simp
  rw [e] at h
  exact hwb ▸ h
 have hB2:Blk 107 wb (w.heap.size + 1 + 1) #[.bool false, .slice none 0 0, .bool false, .slice none 0 0]:=by
  have h:=Blk.new ((w.alloc (.cells #[.bool s, .slice A l c] 105)).alloc (.cells #[.bool t, .slice B l' c'] 105)) 107 #[.bool false, .slice none 0 0, .bool false, .slice none 0 0]
  have e:((w.alloc (.cells #[.bool s, .slice A l c] 105)).alloc (.cells #[.bool t, .slice B l' c'] 105)).heap.size=w.heap.size + 1 + 1:=by simp
  rw [e] at h
  exact hwb ▸ h
 clear hwb
 refine (Zbq _ y _ (HB.out.ext Q)).mono ?_
 by_cases h1:y=1
 ·rw [decide_eq_true h1]
  rintro e w1 ⟨rfl,hF⟩
  have HE:=zh (Q.trans hF)
  have HB0:=zh (hB0.ext hF)
  have HB2:=zh (hB2.ext hF)
  have HD:Hid (denF q=0):=Zev.2 (by have:=HQ.out.2; omega)
  obtain ⟨x0,x1,_,_⟩:=HB0.out.cell2
  obtain ⟨y0,y1,y2,y3,y4,y5,y6,y7⟩:=HB2.out.cell4
  clear Q hF hB0 hB1 hB2 h1
  go_wp2
  refine Zli rfl rfl (HB2.out.put4 _ _ _ _) ?_ ?_ (Fr.local_ HE.out (Fr.set4 _ _ _ _) (by omega))
  ·rw [HQ.out.1]; exact (HA.out.ext HE.out).other HB2.out ZbB (Fr.set4 _ _ _ _)
  ·rw [HD.out]; exact Zav.zero _
 ·rw [decide_eq_false h1]
  rintro e w1 ⟨rfl,hF⟩
  have HE:=zh (Q.trans hF)
  have HB0:=zh (hB0.ext hF)
  have HB1:=zh (hB1.ext hF)
  have HB2:=zh (hB2.ext hF)
  have HD:Hid (denF q=y):=by
   have:=HQ.out.2
   unfold Hid denF; rw [if_neg (by omega)]; exact this
  obtain ⟨x0,x1,_,_⟩:=HB0.out.cell2
  obtain ⟨z0,z1,_,_⟩:=HB1.out.cell2
  obtain ⟨y0,y1,y2,y3,y4,y5,y6,y7⟩:=HB2.out.cell4
  clear Q hF hB0 hB1 hB2 h1
  go_wp2
  refine Zli rfl rfl (HB2.out.put4 _ _ _ _) ?_ ?_ (Fr.local_ HE.out (Fr.set4 _ _ _ _) (by omega))
  ·rw [HQ.out.1]; exact (HA.out.ext HE.out).other HB2.out ZbB (Fr.set4 _ _ _ _)
  ·rw [HD.out]; exact (HB.out.ext HE.out).other HB2.out ZbB (Fr.set4 _ _ _ _)
end Go.Proofs.YthlipnahcbcjkaaGreatDoor

namespace Go.Proofs.YthlipnahcbcjkaaGreatDoor
open Go.RowKit
def Zaf (q:Rat):List UInt8:=if q.den=1 then Lib.itoa q.num else Lib.itoa q.num ++ [47] ++ Lib.itoa (q.den:Int)
set_option maxHeartbeats 2000000 in
theorem Zm4 (a:Value) (q:Rat) (w:World) (hg:Glob w) (ha:ZaC w a q) (hn:Zbn q.num.natAbs) (hd:Zbn q.den) (h1:q.den≠1) (hl:(Lib.itoa q.num).length≤68719476736):Calls Tryz.prog 76 #[a] w (RetV w (.string ⟨(Zaf q).toArray⟩)):=by
 obtain ⟨s,t,A,B,l,c,l',c',rfl,hIn,hId⟩:=ha
 have hdf:denF q=(q.den:Int):=by unfold denF; rw [if_neg h1]
 have hd0:¬ denF q=0:=fun h=>h1 (Zev.1 h)
 have HM:Hid (Zaf q=Lib.itoa q.num ++ [47] ++ Lib.itoa (q.den:Int)):=by unfold Hid Zaf; rw [if_neg h1]
 rw [hdf] at hId
 have HIn:=zh hIn
 have HId:=zh hId
 have HG:=zh hg
 have HPn:=zh hn
 have HPd:Hid (Zbn ((q.den:Int)).natAbs):=by unfold Hid; rw [Int.natAbs_natCast]; exact hd
 have hne:=ZoB (q.den:Int)
 rw [hdf] at hd0
 generalize hm:Zaf q=m at *
 have hmne:m≠[]:=by rw [HM.out]; simp
 generalize q.num=x at *
 generalize (q.den:Int)=y at *
 clear hg hn hd h1 hIn hId hdf hm hne
 go_enter Tryz.func76,Tryz.ntmps76
 go_wp2_with fail
 generalize hwb:World.alloc w _=wb
 obtain ⟨hB0,hE0⟩:=Blk.one hwb
 clear hwb
 refine (ZaG _ y _ (HId.out.ext hE0)).mono ?_
 rw [decide_eq_false hd0]
 rintro e w1 ⟨rfl,hF1⟩
 have HB1:=zh (hB0.ext hF1)
 have HE1:=zh (hE0.trans hF1)
 obtain ⟨x0,x1,x2,x3,_,_,_,_⟩:=HB1.out.cell4
 clear hB0 hE0 hF1 hd0
 go_wp2_with fail
 refine (Zg2 _ x none 0 0 [] w1 _ (Fr.refl _ _) (HG.out.ext HE1.out) (HIn.out.ext HE1.out) HPn.out rfl Buf.nil ZcA.nil (by omega)).mono ?_
 rw [List.nil_append]
 rintro e w2 ⟨A2,cap2,rfl,hT2,hF2,hA2⟩
 have hN2:ZcA w1 A2:=(ZcA.nil (w0:=w1)).next (Fr.refl _ _) hA2
 have hE2:Ext w1 w2:=(ZcA.nil (w0:=w1)).ext (Fr.refl _ _) hF2
 have HT2:=zh hT2
 have HN2:=zh hN2
 have HE2:=zh hE2
 clear hT2 hF2 hA2 hN2 hE2 x0 x1 x2 x3
 obtain ⟨n,hnl⟩:∃ n,(Lib.itoa x).length=n:=⟨_,rfl⟩
 rw [hnl] at hl ⊢
 have HNL:=zh hnl
 clear hnl
 have HS:Hid (Zar .u8 (w2.alloc (.cells #[.int .u8 47] 5)) (some ⟨w2.heap.size,0,none⟩) (nats [47])):=(Own.new w2 5 .u8 [47] []).shows0
 go_wp2_with (at_builtin; refine Hid.out ?_)
 refine zh ?_
 refine ZaH rfl _ _ _ rfl _ .u8 1 Tryz.underlying196 Zcz A2 (some ⟨w2.heap.size,0,none⟩) n 1 cap2 1 rfl rfl (nats (Lib.itoa x)) (nats [47]) (by rw [ZaM]; exact HNL.out) rfl (HT2.out.ext ((Fr.refl _ _).alloc _)) HS.out (by simp only [maxLen]; omega) (by omega) ?_
 intro A3 cap3 w3 hB3 hF3 hA3
 have hE3:Ext w1 w3:=HN2.out.ext (HE2.out.alloc _) hF3
 have hN3:ZcA w1 A3:=HN2.out.next (w:=w2) HE2.out (fun b hb=>(hA3 b hb).imp id (fun h=>by simp at h; omega))
 have hT3:TBuf w3 A3 cap3 (Lib.itoa x ++ [47]):=by show Buf _ _ _ _ _ (nats (Lib.itoa x ++ [47])); rw [ZbF]; exact hB3
 have HT3:=zh hT3
 have HN3:=zh hN3
 have HE3:=zh hE3
 have HB3:=zh (HB1.out.ext hE3)
 obtain ⟨x0,x1,x2,x3,_,_,_,_⟩:=HB3.out.cell4
 clear hB3 hF3 hA3 hE3 hN3 hT3
 go_wp2_with fail
 refine (Zg2 _ y A3 cap3 (n + 1) (Lib.itoa x ++ [47]) w1 _ HE3.out (HG.out.ext HE1.out) (HId.out.ext HE1.out) HPd.out (by rw [List.length_append,HNL.out]; rfl) HT3.out HN3.out (by omega)).mono ?_
 rw [← HM.out]
 rintro e w4 ⟨A4,cap4,rfl,hT4,hF4,hA4⟩
 have HE4:Hid (Ext w w4):=HE1.out.trans (HN3.out.ext HE3.out hF4)
 obtain ⟨b,rfl,hc⟩:=TBuf.bytes hT4 hmne
 have hcv:=run_convert_bytes_back (P:=Tryz.prog) w4 196 9 5 ⟨b,0,none⟩ cap4 m Tryz.underlying196 Tryz.underlying5 Tryz.underlying9 hc
 clear hT4 hF4 hA4 hc hmne x0 x1 x2 x3
 go_wp2
 go_ret
 exact ⟨rfl,HE4.out⟩
end Go.Proofs.YthlipnahcbcjkaaGreatDoor

namespace Go.Proofs.YthlipnahcbcjkaaGreatDoor
open Go.RowKit
theorem Zaj:Tryz.prog.follows .mixedOrders=true:=by kernel_rfl
def Zkx (cs:Array Value):Prop:=∀ (i:Nat) (k:IntKind) (z:Int),cs[i]? = some (.int k z)→k=.i64
theorem Zbi {s:Bool} {A:Option Addr} {l c:Nat}:Zkx #[.bool s, .slice A l c]:=by
 intro i k z; rcases i with _ | _ | i<;>simp
theorem Zar.other {k:IntKind} {t:TypeId} {w w':World} {r:Nat} {A:Option Addr} {xs:List Nat} {cs:Array Value} (h:Zar k w A xs) (hk:k≠.i64) (hB:Blk t w r cs) (hc:Zkx cs) (hF:Fr (fun i=>i=r) w w'):Zar k w' A xs:=by
 cases xs with
 | nil=>exact Zar.nil
 | cons x xs =>
   refine h.fr hF (fun ad hA hlt e=>?_)
   obtain ⟨g,off,e',_,hcl⟩:=h.at (i:=0) (by simp)
   rw [e'] at hA
   injection hA with hA
   subst hA
   simp at e
   subst e
   rw [hB.cell] at hcl
   exact hk (hc _ _ _ hcl)
theorem Zas.oth {t:TypeId} {w w':World} {r n:Nat} {u:Value} {cs:Array Value} (h:Zas w u n) (hB:Blk t w r cs) (hc:Zkx cs) (hF:Fr (fun i=>i=r) w w'):Zas w' u n:=by
 obtain ⟨A',xs,c',h1,h2,h3,h4⟩:=h
 exact ⟨A',xs,c',h1,h2,h3.other (by decide) hB hc hF,h4⟩
theorem Zap.oth {t:TypeId} {w w':World} {r:Nat} {v:Value} {z:Int} {cs:Array Value} (h:Zap w v z) (hB:Blk t w r cs) (hc:Zkx cs) (hF:Fr (fun i=>i=r) w w'):Zap w' v z:=by
 obtain ⟨s',u,n,h1,h2,h3⟩:=h
 exact ⟨s',u,n,h1,h2.oth hB hc hF,h3⟩
theorem Zap.shp {w:World} {v:Value} {z:Int} (h:Zap w v z):∃ (s:Bool) (A:Option Addr) (l c:Nat),v=.agg #[.bool s, .slice A l c]:=by
 obtain ⟨s,A,l,c,h,_⟩:=h.open
 exact ⟨s,A,l,c,h⟩
theorem Zav.shp {w:World} {v:Value} {z:Int} (h:Zav w v z):∃ (s:Bool) (A:Option Addr) (l c:Nat),v=.agg #[.bool s, .slice A l c]:=h.shape
theorem Zap.nil (w:World):Zap w (.agg #[.bool false, .slice none 0 0]) 0:=⟨false,_,0,rfl,Zas.zero w,fun _=>rfl,rfl⟩
theorem Zav.nil (w:World):Zav w (.agg #[.bool false, .slice none 0 0]) 0:=Zav.zero w
theorem ZaC.nil (w:World):ZaC w (.agg #[.bool false, .slice none 0 0, .bool false, .slice none 0 0]) 0:=ZaC.zero w
theorem ZaC.shp {w:World} {v:Value} {q:Rat} (h:ZaC w v q):∃ (s:Bool) (A:Option Addr) (l c:Nat) (t:Bool) (B:Option Addr) (l' c':Nat),v=.agg #[.bool s, .slice A l c, .bool t, .slice B l' c']:=by
 obtain ⟨s,t,A,B,l,c,l',c',h,_⟩:=h
 exact ⟨s,A,l,c,t,B,l',c',h⟩
theorem Zhg {a b c d a' b' c' d':Value} (h:Value.agg #[a,b,c,d]=.agg #[a',b',c',d']):a=a'∧b=b'∧c=c'∧d=d':=by
 injection h with h
 simpa using h
theorem ZaC.num {w:World} {a b c d:Value} {q:Rat} (h:ZaC w (.agg #[a,b,c,d]) q):Zav w (.agg #[a,b]) q.num:=by
 obtain ⟨s,t,A,B,l,c,l',c',h,h1,h2⟩:=h
 obtain ⟨rfl,rfl,rfl,rfl⟩:=Zhg h
 exact h1
theorem ZaC.den {w:World} {a b c d:Value} {q:Rat} (h:ZaC w (.agg #[a,b,c,d]) q):Zav w (.agg #[c,d]) (denF q):=by
 obtain ⟨s,t,A,B,l,c,l',c',h,h1,h2⟩:=h
 obtain ⟨rfl,rfl,rfl,rfl⟩:=Zhg h
 exact h2
theorem ZaC.of {w:World} {s t:Bool} {A B:Option Addr} {l c l' c':Nat} {q:Rat} (h1:Zav w (.agg #[.bool s, .slice A l c]) q.num) (h2:Zav w (.agg #[.bool t, .slice B l' c']) (denF q)):ZaC w (.agg #[.bool s, .slice A l c, .bool t, .slice B l' c']) q :=
 ⟨_,_,_,_,_,_,_,_,rfl,h1,h2⟩
def Zaz (w:World) (v:Value) (q:Rat):Prop:=∃ (s t:Bool) (A B:Option Addr) (l c l' c':Nat),v=.agg #[.bool s, .slice A l c, .bool t, .slice B l' c']∧Zap w (.agg #[.bool s, .slice A l c]) q.num∧Zap w (.agg #[.bool t, .slice B l' c']) (denF q)
theorem Zaz.ext {w w':World} {v:Value} {q:Rat} (h:Zaz w v q) (hf:Ext w w'):Zaz w' v q:=by
 obtain ⟨s,t,A,B,l,c,l',c',h1,h2,h3⟩:=h
 exact ⟨s,t,A,B,l,c,l',c',h1,h2.ext hf,h3.ext hf⟩
theorem Zaz.oth {t:TypeId} {w w':World} {r:Nat} {v:Value} {q:Rat} {cs:Array Value} (h:Zaz w v q) (hB:Blk t w r cs) (hc:Zkx cs) (hF:Fr (fun i=>i=r) w w'):Zaz w' v q:=by
 obtain ⟨s,t,A,B,l,c,l',c',h1,h2,h3⟩:=h
 exact ⟨s,t,A,B,l,c,l',c',h1,h2.oth hB hc hF,h3.oth hB hc hF⟩
theorem Zaz.shp {w:World} {v:Value} {q:Rat} (h:Zaz w v q):∃ (s:Bool) (A:Option Addr) (l c:Nat) (t:Bool) (B:Option Addr) (l' c':Nat),v=.agg #[.bool s, .slice A l c, .bool t, .slice B l' c']:=by
 obtain ⟨s,t,A,B,l,c,l',c',h,_⟩:=h
 exact ⟨s,A,l,c,t,B,l',c',h⟩
theorem Zaz.num {w:World} {a b c d:Value} {q:Rat} (h:Zaz w (.agg #[a,b,c,d]) q):Zap w (.agg #[a,b]) q.num:=by
 obtain ⟨s,t,A,B,l,c,l',c',h,h1,h2⟩:=h
 obtain ⟨rfl,rfl,rfl,rfl⟩:=Zhg h
 exact h1
theorem Zaz.den {w:World} {a b c d:Value} {q:Rat} (h:Zaz w (.agg #[a,b,c,d]) q):Zap w (.agg #[c,d]) (denF q):=by
 obtain ⟨s,t,A,B,l,c,l',c',h,h1,h2⟩:=h
 obtain ⟨rfl,rfl,rfl,rfl⟩:=Zhg h
 exact h2
theorem Zaz.of {w:World} {s t:Bool} {A B:Option Addr} {l c l' c':Nat} {q:Rat} (h1:Zap w (.agg #[.bool s, .slice A l c]) q.num) (h2:Zap w (.agg #[.bool t, .slice B l' c']) (denF q)):Zaz w (.agg #[.bool s, .slice A l c, .bool t, .slice B l' c']) q :=
 ⟨_,_,_,_,_,_,_,_,rfl,h1,h2⟩
def Zex (w:World) (q:Rat) (e:Ending) (w':World):Prop:=∃ v,e=.returned v∧Zaz w' v q∧Ext w w'
theorem Zaz.nil (w:World):Zaz w (.agg #[.bool false, .slice none 0 0, .bool false, .slice none 0 0]) 0:=⟨_,_,_,_,_,_,_,_,rfl,Zap.nil w,Zap.nil w⟩
theorem ZcW {t0:TypeId} {w wb:World} {c0:Array Value} (h:w.alloc (.cells c0 t0)=wb):Blk t0 wb w.heap.size c0∧Ext w wb:=by
 subst h; exact ⟨Blk.new _ _ _,(Fr.refl _ _).alloc _⟩
theorem ZfE {t0 t1:TypeId} {w wb:World} {c0 c1:Array Value} (h:(w.alloc (.cells c0 t0)).alloc (.cells c1 t1)=wb):Blk t0 wb w.heap.size c0∧Blk t1 wb (w.heap.size + 1) c1∧Ext w wb:=by
 obtain ⟨b0,e0⟩:=ZcW (w:=w) (c0:=c0) (t0:=t0) rfl
 have e:(w.alloc (.cells c0 t0)).heap.size=w.heap.size + 1:=by simp
 obtain ⟨b1,e1⟩:=ZcW h
 rw [e] at b1
 exact ⟨b0.ext e1,b1,e0.trans e1⟩
theorem Zlq {t0 t1 t2:TypeId} {w wb:World} {c0 c1 c2:Array Value} (h:((w.alloc (.cells c0 t0)).alloc (.cells c1 t1)).alloc (.cells c2 t2)=wb):Blk t0 wb w.heap.size c0∧Blk t1 wb (w.heap.size + 1) c1∧Blk t2 wb (w.heap.size + 1 + 1) c2∧Ext w wb:=by
 obtain ⟨b0,b1,e0⟩:=ZfE (w:=w) (c0:=c0) (t0:=t0) (c1:=c1) (t1:=t1) rfl
 have e:((w.alloc (.cells c0 t0)).alloc (.cells c1 t1)).heap.size=w.heap.size + 1 + 1:=by simp
 obtain ⟨b2,e2⟩:=ZcW h
 rw [e] at b2
 exact ⟨b0.ext e2,b1.ext e2,b2,e0.trans e2⟩
theorem ZsQ {t0 t1 t2 t3:TypeId} {w wb:World} {c0 c1 c2 c3:Array Value} (h:(((w.alloc (.cells c0 t0)).alloc (.cells c1 t1)).alloc (.cells c2 t2)).alloc (.cells c3 t3)=wb):Blk t0 wb w.heap.size c0∧Blk t1 wb (w.heap.size + 1) c1∧Blk t2 wb (w.heap.size + 1 + 1) c2∧Blk t3 wb (w.heap.size + 1 + 1 + 1) c3∧Ext w wb:=by
 obtain ⟨b0,b1,b2,e0⟩:=Zlq (w:=w) (c0:=c0) (t0:=t0) (c1:=c1) (t1:=t1) (c2:=c2) (t2:=t2) rfl
 have e:(((w.alloc (.cells c0 t0)).alloc (.cells c1 t1)).alloc (.cells c2 t2)).heap.size=w.heap.size + 1 + 1 + 1:=by simp
 obtain ⟨b3,e3⟩:=ZcW h
 rw [e] at b3
 exact ⟨b0.ext e3,b1.ext e3,b2.ext e3,b3,e0.trans e3⟩
theorem Blk.two {t:TypeId} {w:World} {g:Nat} {cs:Array Value} {x y:Value} (h:Blk t w g cs) (o:Nat) (hx:cs[o]? = some x) (hy:cs[o + 1]? = some y):w.cell? ⟨g,o,none⟩=some x∧w.cell? ⟨g,o + 1,none⟩=some y :=
 ⟨(h.cell o).trans hx,(h.cell (o + 1)).trans hy⟩
theorem Blk.one' {t:TypeId} {w:World} {g:Nat} {cs:Array Value} {x:Value} (h:Blk t w g cs) (o:Nat) (hx:cs[o]? = some x):w.cell? ⟨g,o,none⟩=some x:=(h.cell o).trans hx
section
variable {ops:Array Oper} {S:World→Prop} {o:Oper} {a:Act} {p:Operand} {g off:Nat} {x y z u v:Value}
theorem ym (hw:Region.wanted o (yielded ops a.tmps)=true) (ho:o.op=Op.move p) (hp:a.eval p=v):YieldsIf Tryz.prog ops S o v a :=
 Or.inl ⟨hw,fun w _=>by simp only [execOp,ho,hp]; simp [go_sem]⟩
theorem ZlT (hw:Region.wanted o (yielded ops a.tmps)=true) (ho:o.op=Op.load 43 p) (hp:a.eval p=.pointer (some ⟨g,off,none⟩)) (hc:∀ w,S w→w.cell? ⟨g,off,none⟩=some x∧w.cell? ⟨g,off + 1,none⟩=some y):YieldsIf Tryz.prog ops S o (.agg #[x,y]) a :=
 Or.inl ⟨hw,fun w hS=>by
  obtain ⟨h0,h1⟩:=hc w hS
  simp only [execOp,ho,hp]
  simp [go_sem,h0,h1]⟩
theorem ZiG (hw:Region.wanted o (yielded ops a.tmps)=true) (ho:o.op=Op.load 4 p) (hp:a.eval p=.pointer (some ⟨g,off,none⟩)) (hc:∀ w,S w→w.cell? ⟨g,off,none⟩=some x):YieldsIf Tryz.prog ops S o x a :=
 Or.inl ⟨hw,fun w hS=>by
  have h0:=hc w hS
  simp only [execOp,ho,hp]
  simp [go_sem,h0]⟩
theorem Zfu (hw:Region.wanted o (yielded ops a.tmps)=true) (ho:o.op=Op.fieldAddr 43 p 0) (hp:a.eval p=.pointer (some ⟨g,off,none⟩)):YieldsIf Tryz.prog ops S o (.pointer (some ⟨g,off,none⟩)) a :=
 Or.inl ⟨hw,fun w _=>by simp only [execOp,ho,hp]; simp [go_sem]⟩
theorem ZrE {b c:Bool} {q:Operand} (hw:Region.wanted o (yielded ops a.tmps)=true) (ho:o.op=Op.binOp .neq 4 p q 4) (hp:a.eval p=.bool b) (hq:a.eval q=.bool c):YieldsIf Tryz.prog ops S o (.bool (b != c)) a :=
 Or.inl ⟨hw,fun w _=>by simp only [execOp,ho,hp,hq]; simp [go_sem]; cases b<;>cases c<;>rfl⟩
end
end Go.Proofs.YthlipnahcbcjkaaGreatDoor
