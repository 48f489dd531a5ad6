/-
 My texts Nr, Ng, Nf, Nt, Nd, Len2, SdM, SdA, Nrd, RdK, SdK, Sd, SdQ put together.
-/
import Derived.Test.YtbgkofgoeoiciaaGreatDoorQ17
import Derived.Test.YtbgkofgoeoiciaaGreatDoorQ20
import Derived.Test.YtbgkofgoeoiciaaGreatDoorQ16
import Derived.Test.YtbgkofgoeoiciaaGreatDoorQ19
import Derived.Test.YtbgkofgoeoiciaaGreatDoorQ12
namespace Go.Proofs.YtbgkofgoeoiciaaGreatDoor
open Go.RowKit
theorem make1_ret (neg:Bool) (u:Value) (n:Nat) (w:World) (hu:MagIs w u n):Calls Tryz.prog 194 #[.bool neg,u] w (RetNum w (sg neg n)):=by
 refine (make1_any neg u n w hu).mono ?_
 rintro e w1 ⟨s,rfl,hs,hF⟩
 exact ⟨_,rfl,NumIs.signed (hu.ext hF) hs.out,hF⟩
theorem NumIs.opn {w:World} {s:Bool} {A:Option Addr} {l c:Nat} {z:Int} (h:NumIs w (.agg #[.bool s, .slice A l c]) z):MagIs w (.slice A l c) z.natAbs∧z=sg s z.natAbs∧(z=0→s=false):=by
 obtain ⟨s',A',l',c',he,h1,h2,h3⟩:=h.open
 injection he with he
 simp at he
 obtain ⟨rfl,rfl,rfl,rfl⟩:=he
 exact ⟨h1,h2,h3⟩
theorem NumIs.mag {w:World} {s:Bool} {A:Option Addr} {l c:Nat} {z:Int} (h:NumIs w (.agg #[.bool s, .slice A l c]) z):MagIs w (.slice A l c) z.natAbs:=h.opn.1
theorem neg_sg {w:World} {s:Bool} {A:Option Addr} {l c:Nat} {z:Int} (h:NumIs w (.agg #[.bool s, .slice A l c]) z):sg (!s) z.natAbs = -z:=by
 obtain ⟨_,h2,h3⟩:=h.opn
 cases s<;>simp [sg] at *<;>omega
theorem NFits.neg {x:Int} (h:NFits x):NFits (-x):=by
 unfold NFits at *; rw [Int.natAbs_neg]; exact h
theorem fin_Num {fn:Func} {t:Tmp} {tmps:Array Value} {w w':World} {r:Nat} {x y:Value} {z:Int} (hres:fn.results=#[.cell t 34]) (ht:tmps[t]? = some (.pointer (some ⟨r,0,none⟩)))
 (hB:Blk 34 w' r #[x,y]) (hI:NumIs w' (.agg #[x,y]) z) (hE:Ext w w'):bodyPost Tryz.prog fn (RetNum w z) .ret ⟨tmps,[]⟩ w' :=
 bodyPost_ret (results_num hres _ _ r _ _ ht hB) rfl ⟨_,rfl,hI,hE⟩
theorem NumIs.sneg {w:World} {s:Bool} {A:Option Addr} {l c:Nat} {z:Int} (h:NumIs w (.agg #[.bool s, .slice A l c]) z) (hz:z < 0):s=true:=by
 obtain ⟨_,h2,h3⟩:=h.opn
 cases s with
 | true=>rfl
 | false=>simp [sg] at h2; omega
theorem NumIs.spos {w:World} {s:Bool} {A:Option Addr} {l c:Nat} {z:Int} (h:NumIs w (.agg #[.bool s, .slice A l c]) z) (hz:0≤z):s=false:=by
 obtain ⟨_,h2,h3⟩:=h.opn
 cases s with
 | false=>rfl
 | true=>simp [sg] at h2; exact h3 (by omega)
theorem NumIs.len0 {w:World} {s:Bool} {A:Option Addr} {l c:Nat} {z:Int} (h:NumIs w (.agg #[.bool s, .slice A l c]) z) (hz:z=0):l=0:=by
 obtain ⟨h1,_,_⟩:=h.opn
 obtain ⟨A',xs,c',he,_,_,hd,ht,hv⟩:=h1
 injection he with _ he
 rw [hz] at hv
 have:=eq_nil_of_val ht W32_pos hv
 rw [this] at he
 simpa using he
theorem NumIs.lenp {w:World} {s:Bool} {A:Option Addr} {l c:Nat} {z:Int} (h:NumIs w (.agg #[.bool s, .slice A l c]) z) (hz:z≠0):0 < l:=by
 obtain ⟨h1,_,_⟩:=h.opn
 obtain ⟨A',xs,c',he,_,_,hd,ht,hv⟩:=h1
 injection he with _ he
 rcases Nat.eq_zero_or_pos l with e | e
 ·rw [e] at he
  have:xs=[]:=List.length_eq_zero_iff.1 he.symm
  rw [this] at hv
  simp at hv
  omega
 ·exact e
theorem NumIs.quo {w:World} {s t:Bool} {A B:Option Addr} {l c l' c':Nat} {x y:Int} (h:NumIs w (.agg #[.bool s, .slice A l c]) x) (k:NumIs w (.agg #[.bool t, .slice B l' c']) y):sg (s != t) (x.natAbs / y.natAbs)=x.tdiv y∧sg s (x.natAbs % y.natAbs)=x.tmod y:=by
 obtain ⟨_,h2,h3⟩:=h.opn
 obtain ⟨_,k2,k3⟩:=k.opn
 generalize x.natAbs=m at *
 generalize y.natAbs=n at *
 subst h2 k2
 cases s<;>cases t<;>simp [sg,Int.neg_tdiv,Int.tdiv_neg,Int.neg_tmod,Int.tmod_neg]<;>exact (Int.tmod_eq_emod_of_nonneg (by omega)).symm
def RetNum2 (w:World) (q r:Int) (e:Ending) (w':World):Prop:=∃ u v,e=.returned (.tuple #[u,v])∧NumIs w' u q∧NumIs w' v r∧Ext w w'
theorem fin_Num2 {fn:Func} {t t':Tmp} {tmps:Array Value} {w w':World} {r r':Nat} {x y x' y':Value} {z z':Int} (hres:fn.results=#[.cell t 34, .cell t' 34]) (ht:tmps[t]? = some (.pointer (some ⟨r,0,none⟩))) (ht':tmps[t']? = some (.pointer (some ⟨r',0,none⟩)))
 (hB:Blk 34 w' r #[x,y]) (hB':Blk 34 w' r' #[x',y']) (hI:NumIs w' (.agg #[x,y]) z) (hI':NumIs w' (.agg #[x',y']) z') (hE:Ext w w'):bodyPost Tryz.prog fn (RetNum2 w z z') .ret ⟨tmps,[]⟩ w':=by
 obtain ⟨h0,h1,_⟩:=hB.cell2
 obtain ⟨k0,k1,_⟩:=hB'.cell2
 exact bodyPost_ret (v:=.tuple #[.agg #[x,y], .agg #[x',y']]) (by simp [results,hres,ht,ht',go_sem,h0,h1,k0,k1]) rfl ⟨_,_,rfl,hI,hI',hE⟩
theorem denF_ne {q:Rat} (h:¬ q.den=1):denF q≠0:=by rw [denF_big h]; have:=q.den_nz; omega
set_option maxHeartbeats 2000000 in
set_option maxRecDepth 100000 in
theorem NNeg_any (a:Value) (x:Int) (w:World) (ha:NumIs w a x) :
 Calls Tryz.prog 151 #[a] w (RetNum w (-x)):=by
 obtain ⟨s1,A1,l1,c1,rfl⟩:=ha.shp
 have F2:Hid (NumIs w (.agg #[.bool s1, .slice A1 l1 c1]) (x)):=ha
 clear ha
 have Hs:=zh (neg_sg F2.out)
 go_enter Tryz.func151,Tryz.ntmps151
 go_wp2_with fail
 generalize hwb:World.alloc (World.alloc w _) _=w5
 obtain ⟨b_B3,b_B4,hE0⟩:=blocks2 hwb
 clear hwb
 have B3:=zh b_B3
 have B4:=zh b_B4
 clear b_B3 b_B4
 replace F2:=zh (F2.out.ext hE0)
 have HE:=zh hE0
 clear hE0
 have F6:Hid (MagIs w5 (.slice A1 l1 c1) ((x).natAbs)):=F2.out.mag
 refine (make1_ret ((!s1)) _ _ _ F6.out).mono ?_
 rintro e w7 ⟨_,rfl,hI,hF⟩
 obtain ⟨s8,A8,l8,c8,rfl⟩:=hI.shp
 replace B3:=zh (B3.out.ext hF)
 replace B4:=zh (B4.out.ext hF)
 replace F2:=zh (F2.out.ext hF)
 replace F6:=zh (F6.out.ext hF)
 replace HE:=zh (HE.out.trans hF)
 have F9:Hid (NumIs w7 (.agg #[.bool s8, .slice A8 l8 c8]) (sg ((!s1)) ((x).natAbs))):=hI
 clear hF hI
 obtain ⟨c10_0,c10_1,f10_0,f10_1⟩:=B3.out.cell2
 obtain ⟨c11_0,c11_1,f11_0,f11_1⟩:=B4.out.cell2
 go_wp2
 clear c10_0 c10_1 f10_0 f10_1 c11_0 c11_1 f11_0 f11_1
 have hFs:Fr (fun i=>i=(w.heap.size + 1)) w7 ((w7.setCell ⟨(w.heap.size + 1),0,none⟩ (.bool s8)).setCell ⟨(w.heap.size + 1),1,none⟩ (.slice A8 l8 c8)):=(((Fr.refl (fun i=>i=(w.heap.size + 1)) _).setCell (p:=⟨(w.heap.size + 1),0,none⟩) (Or.inl rfl) _).setCell (p:=⟨(w.heap.size + 1),1,none⟩) (Or.inl rfl) _)
 replace F2:=zh (F2.out.oth B4.out noRow2 hFs)
 replace F6:=zh (F6.out.oth B4.out noRow2 hFs)
 replace F9:=zh (F9.out.oth B4.out noRow2 hFs)
 replace B3:=zh (B3.out.fr hFs (by first | omega | (have:=B3.out.lt; have:=B4.out.lt; omega)))
 replace HE:=zh (HE.out.next hFs (fun i hi e=>by first | omega | (have:=HE.out.size; have:=B4.out.lt; omega)))
 have b_new:Blk 34 ((w7.setCell ⟨(w.heap.size + 1),0,none⟩ (.bool s8)).setCell ⟨(w.heap.size + 1),1,none⟩ (.slice A8 l8 c8)) (w.heap.size + 1) #[.bool s8, .slice A8 l8 c8]:=((B4.out.set_ 0 _).set_ 1 _)
 generalize ((w7.setCell ⟨(w.heap.size + 1),0,none⟩ (.bool s8)).setCell ⟨(w.heap.size + 1),1,none⟩ (.slice A8 l8 c8))=w12 at *
 replace B4:=zh b_new; clear b_new hFs
 exact fin_Num rfl rfl B4.out (by have:=F9.out; rw [Hs.out] at this; exact this) HE.out
set_option maxHeartbeats 2000000 in
set_option maxRecDepth 100000 in
theorem NSign_neg (a:Value) (x:Int) (w:World) (ha:NumIs w a x) (hx:x < 0) :
 Calls Tryz.prog 195 #[a] w (RetV w (.int .i64 (-1))):=by
 obtain ⟨s1,A1,l1,c1,rfl⟩:=ha.shp
 have F2:Hid (NumIs w (.agg #[.bool s1, .slice A1 l1 c1]) (x)):=ha
 clear ha
 obtain rfl:s1=true:=F2.out.sneg hx
 clear hx
 go_enter Tryz.func195,Tryz.ntmps195
 go_wp2
 generalize hwb:World.alloc w _=w4
 obtain ⟨b_B3,hE0⟩:=blocks1 hwb
 clear hwb
 have B3:=zh b_B3
 clear b_B3
 replace F2:=zh (F2.out.ext hE0)
 have HE:=zh hE0
 clear hE0
 go_ret
 exact ⟨rfl,HE.out⟩
set_option maxHeartbeats 2000000 in
set_option maxRecDepth 100000 in
theorem NSign_zero (a:Value) (x:Int) (w:World) (ha:NumIs w a x) (hx:x=0) :
 Calls Tryz.prog 195 #[a] w (RetV w (.int .i64 (0))):=by
 obtain ⟨s1,A1,l1,c1,rfl⟩:=ha.shp
 have F2:Hid (NumIs w (.agg #[.bool s1, .slice A1 l1 c1]) (x)):=ha
 clear ha
 obtain rfl:s1=false:=F2.out.spos (by omega)
 obtain rfl:l1=0:=F2.out.len0 hx
 clear hx
 go_enter Tryz.func195,Tryz.ntmps195
 go_wp2
 generalize hwb:World.alloc w _=w4
 obtain ⟨b_B3,hE0⟩:=blocks1 hwb
 clear hwb
 have B3:=zh b_B3
 clear b_B3
 replace F2:=zh (F2.out.ext hE0)
 have HE:=zh hE0
 clear hE0
 go_ret
 exact ⟨rfl,HE.out⟩
set_option maxHeartbeats 2000000 in
set_option maxRecDepth 100000 in
theorem NSign_pos (a:Value) (x:Int) (w:World) (ha:NumIs w a x) (hx:0 < x) :
 Calls Tryz.prog 195 #[a] w (RetV w (.int .i64 (1))):=by
 obtain ⟨s1,A1,l1,c1,rfl⟩:=ha.shp
 have F2:Hid (NumIs w (.agg #[.bool s1, .slice A1 l1 c1]) (x)):=ha
 clear ha
 obtain rfl:s1=false:=F2.out.spos (by omega)
 have hl:((l1:Int) == 0)=false:=by have:=F2.out.lenp (by omega); simp; omega
 clear hx
 go_enter Tryz.func195,Tryz.ntmps195
 go_wp2
 generalize hwb:World.alloc w _=w4
 obtain ⟨b_B3,hE0⟩:=blocks1 hwb
 clear hwb
 have B3:=zh b_B3
 clear b_B3
 replace F2:=zh (F2.out.ext hE0)
 have HE:=zh hE0
 clear hE0
 go_ret
 exact ⟨rfl,HE.out⟩
theorem NSign_any (a:Value) (x:Int) (w:World) (ha:NumIs w a x):Calls Tryz.prog 195 #[a] w (RetV w (.int .i64 x.sign)):=by
 rcases Int.lt_trichotomy x 0 with h | h | h
 ·rw [Int.sign_eq_neg_one_of_neg h]; exact NSign_neg a x w ha h
 ·rw [h,Int.sign_zero]; exact NSign_zero a x w ha h
 ·rw [Int.sign_eq_one_of_pos h]; exact NSign_pos a x w ha h
set_option maxHeartbeats 2000000 in
set_option maxRecDepth 100000 in
theorem NQuoRem_any (a b:Value) (x y:Int) (w:World) (ha:NumIs w a x) (hb:NumIs w b y) (hx:NFits x) (hy:NFits y) (h0:y≠0) :
 Calls Tryz.prog 216 #[a,b] w (RetNum2 w (x.tdiv y) (x.tmod y)):=by
 obtain ⟨s1,A1,l1,c1,rfl⟩:=ha.shp
 have F2:Hid (NumIs w (.agg #[.bool s1, .slice A1 l1 c1]) (x)):=ha
 clear ha
 obtain ⟨s3,A3,l3,c3,rfl⟩:=hb.shp
 have F4:Hid (NumIs w (.agg #[.bool s3, .slice A3 l3 c3]) (y)):=hb
 clear hb
 have Hx:Hid (ml x.natAbs≤1048576):=hx
 have Hy:Hid (ml y.natAbs≤1048576):=hy
 have H0:Hid (0 < y.natAbs):=by unfold Hid; omega
 have HQ:=zh (F2.out.quo F4.out)
 clear hx hy h0
 go_enter Tryz.func216,Tryz.ntmps216
 go_wp2_with fail
 generalize hwb:World.alloc (World.alloc (World.alloc (World.alloc w _) _) _) _=w9
 obtain ⟨b_B5,b_B6,b_B7,b_B8,hE0⟩:=blocks4 hwb
 clear hwb
 have B5:=zh b_B5
 have B6:=zh b_B6
 have B7:=zh b_B7
 have B8:=zh b_B8
 clear b_B5 b_B6 b_B7 b_B8
 replace F2:=zh (F2.out.ext hE0)
 replace F4:=zh (F4.out.ext hE0)
 have HE:=zh hE0
 clear hE0
 have F10:Hid (MagIs w9 (.slice A1 l1 c1) ((x).natAbs)):=F2.out.mag
 have F11:Hid (MagIs w9 (.slice A3 l3 c3) ((y).natAbs)):=F4.out.mag
 refine (divMag_any _ _ ((x).natAbs) ((y).natAbs) _ F10.out F11.out Hx.out Hy.out H0.out).mono ?_
 rintro e w12 ⟨_,_,rfl,hq,hr,hF⟩
 obtain ⟨Aq13,lq13,cq13,rfl⟩:=hq.slice
 obtain ⟨Ar13,lr13,cr13,rfl⟩:=hr.slice
 replace B5:=zh (B5.out.ext hF)
 replace B6:=zh (B6.out.ext hF)
 replace B7:=zh (B7.out.ext hF)
 replace B8:=zh (B8.out.ext hF)
 replace F2:=zh (F2.out.ext hF)
 replace F4:=zh (F4.out.ext hF)
 replace F10:=zh (F10.out.ext hF)
 replace F11:=zh (F11.out.ext hF)
 replace HE:=zh (HE.out.trans hF)
 have F14:Hid (MagIs w12 (.slice Aq13 lq13 cq13) (((x).natAbs) / ((y).natAbs))):=hq
 have F15:Hid (MagIs w12 (.slice Ar13 lr13 cr13) (((x).natAbs) % ((y).natAbs))):=hr
 clear hF hq hr
 obtain ⟨c16_0,c16_1,f16_0,f16_1⟩:=B5.out.cell2
 obtain ⟨c17_0,c17_1,f17_0,f17_1⟩:=B6.out.cell2
 obtain ⟨c18_0,c18_1,f18_0,f18_1⟩:=B7.out.cell2
 obtain ⟨c19_0,c19_1,f19_0,f19_1⟩:=B8.out.cell2
 go_wp2_with fail
 clear c16_0 c16_1 f16_0 f16_1 c17_0 c17_1 f17_0 f17_1 c18_0 c18_1 f18_0 f18_1 c19_0 c19_1 f19_0 f19_1
 refine wp_region_T 11 (fun W'=>Blk 34 W' w.heap.size #[.bool s1, .slice A1 l1 c1]∧Blk 34 W' (w.heap.size + 1) #[.bool s3, .slice A3 l3 c3]∧Blk 34 W' (w.heap.size + 1 + 1) #[.bool false, .slice none 0 0]∧Blk 34 W' (w.heap.size + 1 + 1 + 1) #[.bool false, .slice none 0 0]) follows_mixed' ?_
 replace B5:=zh (B5.out.ext (Fr.refl _ _).drew)
 replace B6:=zh (B6.out.ext (Fr.refl _ _).drew)
 replace B7:=zh (B7.out.ext (Fr.refl _ _).drew)
 replace B8:=zh (B8.out.ext (Fr.refl _ _).drew)
 replace F2:=zh (F2.out.ext (Fr.refl _ _).drew)
 replace F4:=zh (F4.out.ext (Fr.refl _ _).drew)
 replace F10:=zh (F10.out.ext (Fr.refl _ _).drew)
 replace F11:=zh (F11.out.ext (Fr.refl _ _).drew)
 replace F14:=zh (F14.out.ext (Fr.refl _ _).drew)
 replace F15:=zh (F15.out.ext (Fr.refl _ _).drew)
 replace HE:=zh (HE.out.trans (Fr.refl _ _).drew)
 generalize w12.drew=w20 at *
 have hS:=(⟨B5.out,B6.out,B7.out,B8.out⟩:(fun W'=>Blk 34 W' w.heap.size #[.bool s1, .slice A1 l1 c1]∧Blk 34 W' (w.heap.size + 1) #[.bool s3, .slice A3 l3 c3]∧Blk 34 W' (w.heap.size + 1 + 1) #[.bool false, .slice none 0 0]∧Blk 34 W' (w.heap.size + 1 + 1 + 1) #[.bool false, .slice none 0 0]) w20)
 refine wpT_take 0 rfl (by kernel_rfl) (fun _ _ _ h=>h) hS (fun _=>ya_NumInt0 (g:=w.heap.size) (off:=0) rfl rfl (by kernel_rfl)) (fun hS=>?_)
 refine wpT_take 1 rfl (by kernel_rfl) (fun _ _ _ h=>h) hS (fun _=>yl_bool (g:=w.heap.size) (off:=0) (x:=.bool s1) rfl rfl (by kernel_rfl) (fun _ h=>Blk.one' (h.1) 0 rfl)) (fun hS=>?_)
 refine wpT_take 2 rfl (by kernel_rfl) (fun _ _ _ h=>h) hS (fun _=>ya_NumInt0 (g:=(w.heap.size + 1)) (off:=0) rfl rfl (by kernel_rfl)) (fun hS=>?_)
 refine wpT_take 3 rfl (by kernel_rfl) (fun _ _ _ h=>h) hS (fun _=>yl_bool (g:=(w.heap.size + 1)) (off:=0) (x:=.bool s3) rfl rfl (by kernel_rfl) (fun _ h=>Blk.one' (h.2.1) 0 rfl)) (fun hS=>?_)
 refine wpT_take 4 rfl (by kernel_rfl) (fun _ _ _ h=>h) hS (fun _=>yne_bool (b:=s1) (c:=s3) rfl rfl (by kernel_rfl) (by kernel_rfl)) (fun hS=>?_)
 refine wpT_take 5 rfl (by kernel_rfl) (fun _ _ _ h=>h) hS (fun _=>ym (v:=.slice Aq13 lq13 cq13) rfl rfl (by kernel_rfl)) (fun hS=>?_)
 refine wpT_take 7 rfl (by kernel_rfl) (fun _ _ _ h=>h) hS (fun _=>ya_NumInt0 (g:=w.heap.size) (off:=0) rfl rfl (by kernel_rfl)) (fun hS=>?_)
 refine wpT_take 8 rfl (by kernel_rfl) (fun _ _ _ h=>h) hS (fun _=>yl_bool (g:=w.heap.size) (off:=0) (x:=.bool s1) rfl rfl (by kernel_rfl) (fun _ h=>Blk.one' (h.1) 0 rfl)) (fun hS=>?_)
 refine wpT_take 9 rfl (by kernel_rfl) (fun _ _ _ h=>h) hS (fun _=>ym (v:=.slice Ar13 lr13 cr13) rfl rfl (by kernel_rfl)) (fun hS=>?_)
 refine wpT_only 6 rfl (by kernel_rfl) rfl (fun K hK=>?_)
 go_simp
 clear hS
 refine (make1_ret ((s1 != s3)) _ _ _ F14.out).mono ?_
 rintro e w21 ⟨_,rfl,hI,hF⟩
 obtain ⟨s22,A22,l22,c22,rfl⟩:=hI.shp
 replace B5:=zh (B5.out.ext hF)
 replace B6:=zh (B6.out.ext hF)
 replace B7:=zh (B7.out.ext hF)
 replace B8:=zh (B8.out.ext hF)
 replace F2:=zh (F2.out.ext hF)
 replace F4:=zh (F4.out.ext hF)
 replace F10:=zh (F10.out.ext hF)
 replace F11:=zh (F11.out.ext hF)
 replace F14:=zh (F14.out.ext hF)
 replace F15:=zh (F15.out.ext hF)
 replace HE:=zh (HE.out.trans hF)
 have F23:Hid (NumIs w21 (.agg #[.bool s22, .slice A22 l22 c22]) (sg ((s1 != s3)) (((x).natAbs) / ((y).natAbs)))):=hI
 clear hF hI
 have hS:=(⟨B5.out,B6.out,B7.out,B8.out⟩:(fun W'=>Blk 34 W' w.heap.size #[.bool s1, .slice A1 l1 c1]∧Blk 34 W' (w.heap.size + 1) #[.bool s3, .slice A3 l3 c3]∧Blk 34 W' (w.heap.size + 1 + 1) #[.bool false, .slice none 0 0]∧Blk 34 W' (w.heap.size + 1 + 1 + 1) #[.bool false, .slice none 0 0]) w21)
 refine hK _ _ hS ?_
 clear hK
 refine wpT_only 10 rfl (by kernel_rfl) rfl (fun K hK=>?_)
 go_simp
 clear hS
 refine (make1_ret (s1) _ _ _ F15.out).mono ?_
 rintro e w24 ⟨_,rfl,hI,hF⟩
 obtain ⟨s25,A25,l25,c25,rfl⟩:=hI.shp
 replace B5:=zh (B5.out.ext hF)
 replace B6:=zh (B6.out.ext hF)
 replace B7:=zh (B7.out.ext hF)
 replace B8:=zh (B8.out.ext hF)
 replace F2:=zh (F2.out.ext hF)
 replace F4:=zh (F4.out.ext hF)
 replace F10:=zh (F10.out.ext hF)
 replace F11:=zh (F11.out.ext hF)
 replace F14:=zh (F14.out.ext hF)
 replace F15:=zh (F15.out.ext hF)
 replace F23:=zh (F23.out.ext hF)
 replace HE:=zh (HE.out.trans hF)
 have F26:Hid (NumIs w24 (.agg #[.bool s25, .slice A25 l25 c25]) (sg (s1) (((x).natAbs) % ((y).natAbs)))):=hI
 clear hF hI
 have hS:=(⟨B5.out,B6.out,B7.out,B8.out⟩:(fun W'=>Blk 34 W' w.heap.size #[.bool s1, .slice A1 l1 c1]∧Blk 34 W' (w.heap.size + 1) #[.bool s3, .slice A3 l3 c3]∧Blk 34 W' (w.heap.size + 1 + 1) #[.bool false, .slice none 0 0]∧Blk 34 W' (w.heap.size + 1 + 1 + 1) #[.bool false, .slice none 0 0]) w24)
 refine hK _ _ hS ?_
 clear hK
 refine wpT_tail (l:=[_,_]) 11 rfl (by kernel_rfl) ?_
 clear hS
 obtain ⟨c27_0,c27_1,f27_0,f27_1⟩:=B5.out.cell2
 obtain ⟨c28_0,c28_1,f28_0,f28_1⟩:=B6.out.cell2
 obtain ⟨c29_0,c29_1,f29_0,f29_1⟩:=B7.out.cell2
 obtain ⟨c30_0,c30_1,f30_0,f30_1⟩:=B8.out.cell2
 go_wp2
 clear c27_0 c27_1 f27_0 f27_1 c28_0 c28_1 f28_0 f28_1 c29_0 c29_1 f29_0 f29_1 c30_0 c30_1 f30_0 f30_1
 have hFs:Fr (fun i=>i=(w.heap.size + 1 + 1)) w24 ((w24.setCell ⟨(w.heap.size + 1 + 1),0,none⟩ (.bool s22)).setCell ⟨(w.heap.size + 1 + 1),1,none⟩ (.slice A22 l22 c22)):=(((Fr.refl (fun i=>i=(w.heap.size + 1 + 1)) _).setCell (p:=⟨(w.heap.size + 1 + 1),0,none⟩) (Or.inl rfl) _).setCell (p:=⟨(w.heap.size + 1 + 1),1,none⟩) (Or.inl rfl) _)
 replace F2:=zh (F2.out.oth B7.out noRow2 hFs)
 replace F4:=zh (F4.out.oth B7.out noRow2 hFs)
 replace F10:=zh (F10.out.oth B7.out noRow2 hFs)
 replace F11:=zh (F11.out.oth B7.out noRow2 hFs)
 replace F14:=zh (F14.out.oth B7.out noRow2 hFs)
 replace F15:=zh (F15.out.oth B7.out noRow2 hFs)
 replace F23:=zh (F23.out.oth B7.out noRow2 hFs)
 replace F26:=zh (F26.out.oth B7.out noRow2 hFs)
 replace B5:=zh (B5.out.fr hFs (by first | omega | (have:=B5.out.lt; have:=B7.out.lt; omega)))
 replace B6:=zh (B6.out.fr hFs (by first | omega | (have:=B6.out.lt; have:=B7.out.lt; omega)))
 replace B8:=zh (B8.out.fr hFs (by first | omega | (have:=B8.out.lt; have:=B7.out.lt; omega)))
 replace HE:=zh (HE.out.next hFs (fun i hi e=>by first | omega | (have:=HE.out.size; have:=B7.out.lt; omega)))
 have b_new:Blk 34 ((w24.setCell ⟨(w.heap.size + 1 + 1),0,none⟩ (.bool s22)).setCell ⟨(w.heap.size + 1 + 1),1,none⟩ (.slice A22 l22 c22)) (w.heap.size + 1 + 1) #[.bool s22, .slice A22 l22 c22]:=((B7.out.set_ 0 _).set_ 1 _)
 generalize ((w24.setCell ⟨(w.heap.size + 1 + 1),0,none⟩ (.bool s22)).setCell ⟨(w.heap.size + 1 + 1),1,none⟩ (.slice A22 l22 c22))=w31 at *
 replace B7:=zh b_new; clear b_new hFs
 have hFs:Fr (fun i=>i=(w.heap.size + 1 + 1 + 1)) w31 ((w31.setCell ⟨(w.heap.size + 1 + 1 + 1),0,none⟩ (.bool s25)).setCell ⟨(w.heap.size + 1 + 1 + 1),1,none⟩ (.slice A25 l25 c25)):=(((Fr.refl (fun i=>i=(w.heap.size + 1 + 1 + 1)) _).setCell (p:=⟨(w.heap.size + 1 + 1 + 1),0,none⟩) (Or.inl rfl) _).setCell (p:=⟨(w.heap.size + 1 + 1 + 1),1,none⟩) (Or.inl rfl) _)
 replace F2:=zh (F2.out.oth B8.out noRow2 hFs)
 replace F4:=zh (F4.out.oth B8.out noRow2 hFs)
 replace F10:=zh (F10.out.oth B8.out noRow2 hFs)
 replace F11:=zh (F11.out.oth B8.out noRow2 hFs)
 replace F14:=zh (F14.out.oth B8.out noRow2 hFs)
 replace F15:=zh (F15.out.oth B8.out noRow2 hFs)
 replace F23:=zh (F23.out.oth B8.out noRow2 hFs)
 replace F26:=zh (F26.out.oth B8.out noRow2 hFs)
 replace B5:=zh (B5.out.fr hFs (by first | omega | (have:=B5.out.lt; have:=B8.out.lt; omega)))
 replace B6:=zh (B6.out.fr hFs (by first | omega | (have:=B6.out.lt; have:=B8.out.lt; omega)))
 replace B7:=zh (B7.out.fr hFs (by first | omega | (have:=B7.out.lt; have:=B8.out.lt; omega)))
 replace HE:=zh (HE.out.next hFs (fun i hi e=>by first | omega | (have:=HE.out.size; have:=B8.out.lt; omega)))
 have b_new:Blk 34 ((w31.setCell ⟨(w.heap.size + 1 + 1 + 1),0,none⟩ (.bool s25)).setCell ⟨(w.heap.size + 1 + 1 + 1),1,none⟩ (.slice A25 l25 c25)) (w.heap.size + 1 + 1 + 1) #[.bool s25, .slice A25 l25 c25]:=((B8.out.set_ 0 _).set_ 1 _)
 generalize ((w31.setCell ⟨(w.heap.size + 1 + 1 + 1),0,none⟩ (.bool s25)).setCell ⟨(w.heap.size + 1 + 1 + 1),1,none⟩ (.slice A25 l25 c25))=w32 at *
 replace B8:=zh b_new; clear b_new hFs
 exact fin_Num2 rfl rfl rfl B7.out B8.out (by rw [← HQ.out.1]; exact F23.out) (by rw [← HQ.out.2]; exact F26.out) HE.out
set_option maxHeartbeats 2000000 in
set_option maxRecDepth 100000 in
theorem Nden_one (a:Value) (q:Rat) (w:World) (ha:NRatIs w a q) (hq:q.den=1) :
 Calls Tryz.prog 196 #[a] w (RetNum w (q.den:Int)):=by
 obtain ⟨s1,A1,l1,c1,t1,B1,m1,d1,rfl⟩:=ha.shp
 have F2:Hid (NRatIs w (.agg #[.bool s1, .slice A1 l1 c1, .bool t1, .slice B1 m1 d1]) (q)):=ha
 clear ha
 have Fd:=F2.out.den
 obtain rfl:m1=0:=Fd.len0 (denF_one hq)
 have Hq:Hid ((q.den:Int)=1):=by unfold Hid; omega
 clear Fd hq
 go_enter Tryz.func196,Tryz.ntmps196
 go_wp2_with fail
 generalize hwb:World.alloc (World.alloc w _) _=w5
 obtain ⟨b_B3,b_B4,hE0⟩:=blocks2 hwb
 clear hwb
 have B3:=zh b_B3
 have B4:=zh b_B4
 clear b_B3 b_B4
 replace F2:=zh (F2.out.ext hE0)
 have HE:=zh hE0
 clear hE0
 refine (NFromInt_any 1 _ (by omega) (by omega)).mono ?_
 rintro e w6 ⟨_,rfl,hI,hF⟩
 obtain ⟨s7,A7,l7,c7,rfl⟩:=hI.shp
 replace B3:=zh (B3.out.ext hF)
 replace B4:=zh (B4.out.ext hF)
 replace F2:=zh (F2.out.ext hF)
 replace HE:=zh (HE.out.trans hF)
 have F8:Hid (NumIs w6 (.agg #[.bool s7, .slice A7 l7 c7]) (1)):=hI
 clear hF hI
 obtain ⟨c9_0,c9_1,c9_2,c9_3,f9_0,f9_1,f9_2,f9_3⟩:=B3.out.cell4
 obtain ⟨c10_0,c10_1,f10_0,f10_1⟩:=B4.out.cell2
 go_wp2
 clear c9_0 c9_1 c9_2 c9_3 f9_0 f9_1 f9_2 f9_3 c10_0 c10_1 f10_0 f10_1
 have hFs:Fr (fun i=>i=(w.heap.size + 1)) w6 ((w6.setCell ⟨(w.heap.size + 1),0,none⟩ (.bool s7)).setCell ⟨(w.heap.size + 1),1,none⟩ (.slice A7 l7 c7)):=(((Fr.refl (fun i=>i=(w.heap.size + 1)) _).setCell (p:=⟨(w.heap.size + 1),0,none⟩) (Or.inl rfl) _).setCell (p:=⟨(w.heap.size + 1),1,none⟩) (Or.inl rfl) _)
 replace F2:=zh (F2.out.oth B4.out noRow2 hFs)
 replace F8:=zh (F8.out.oth B4.out noRow2 hFs)
 replace B3:=zh (B3.out.fr hFs (by first | omega | (have:=B3.out.lt; have:=B4.out.lt; omega)))
 replace HE:=zh (HE.out.next hFs (fun i hi e=>by first | omega | (have:=HE.out.size; have:=B4.out.lt; omega)))
 have b_new:Blk 34 ((w6.setCell ⟨(w.heap.size + 1),0,none⟩ (.bool s7)).setCell ⟨(w.heap.size + 1),1,none⟩ (.slice A7 l7 c7)) (w.heap.size + 1) #[.bool s7, .slice A7 l7 c7]:=((B4.out.set_ 0 _).set_ 1 _)
 generalize ((w6.setCell ⟨(w.heap.size + 1),0,none⟩ (.bool s7)).setCell ⟨(w.heap.size + 1),1,none⟩ (.slice A7 l7 c7))=w11 at *
 replace B4:=zh b_new; clear b_new hFs
 exact fin_Num rfl rfl B4.out (by rw [Hq.out]; exact F8.out) HE.out
set_option maxHeartbeats 2000000 in
set_option maxRecDepth 100000 in
theorem Nden_big (a:Value) (q:Rat) (w:World) (ha:NRatIs w a q) (hq:¬ q.den=1) :
 Calls Tryz.prog 196 #[a] w (RetNum w (q.den:Int)):=by
 obtain ⟨s1,A1,l1,c1,t1,B1,m1,d1,rfl⟩:=ha.shp
 have F2:Hid (NRatIs w (.agg #[.bool s1, .slice A1 l1 c1, .bool t1, .slice B1 m1 d1]) (q)):=ha
 clear ha
 have Fd:=F2.out.den
 have hl:((m1:Int) == 0)=false:=by have:=Fd.lenp (denF_ne hq); simp; omega
 have Hq:=zh (denF_big hq)
 clear Fd hq
 go_enter Tryz.func196,Tryz.ntmps196
 go_wp2
 generalize hwb:World.alloc (World.alloc w _) _=w5
 obtain ⟨b_B3,b_B4,hE0⟩:=blocks2 hwb
 clear hwb
 have B3:=zh b_B3
 have B4:=zh b_B4
 clear b_B3 b_B4
 replace F2:=zh (F2.out.ext hE0)
 have HE:=zh hE0
 clear hE0
 have F6:Hid (NumIs w5 (.agg #[.bool t1, .slice B1 m1 d1]) (denF (q))):=F2.out.den
 exact fin_Num rfl rfl B4.out (by rw [← Hq.out]; exact F6.out) HE.out
theorem Nden_any (a:Value) (q:Rat) (w:World) (ha:NRatIs w a q):Calls Tryz.prog 196 #[a] w (RetNum w (q.den:Int)):=by
 by_cases h:q.den=1
 ·exact Nden_one a q w ha h
 ·exact Nden_big a q w ha h
end Go.Proofs.YtbgkofgoeoiciaaGreatDoor

namespace Go.Proofs.YtbgkofgoeoiciaaGreatDoor
open Go.RowKit
def blen (n:Nat):Nat:=if n=0 then 0 else n.log2 + 1
theorem blen_zero:blen 0=0:=rfl
theorem blen_lt (n:Nat):n < 2 ^ blen n:=by
 unfold blen
 split
 ·rename_i h; subst h; decide
 ·rename_i h; exact (Nat.log2_lt h).1 (Nat.lt_succ_self _)
theorem blen_le {n k:Nat}:blen n≤k ↔ n < 2 ^ k:=by
 unfold blen
 split
 ·rename_i h; subst h; simp [Nat.pow_pos]
 ·rename_i h; rw [← Nat.log2_lt h]; omega
theorem blen_half {n:Nat} (h:0 < n):blen n=blen (n / 2) + 1:=by
 have h1:blen (n / 2) + 1≤blen n:=by
  have:blen (n / 2)≤blen n - 1:=blen_le.2 (by
   have h2:=blen_lt n
   have h3:0 < blen n:=by unfold blen; rw [if_neg (by omega)]; omega
   obtain ⟨k,hk⟩:∃ k,blen n=k + 1:=⟨blen n - 1,by omega⟩
   rw [hk] at h2 ⊢
   rw [Nat.pow_succ] at h2
   show n / 2 < 2 ^ (k + 1 - 1)
   rw [Nat.add_sub_cancel]
   omega)
  have h3:0 < blen n:=by unfold blen; rw [if_neg (by omega)]; omega
  omega
 have h2:blen n≤blen (n / 2) + 1:=blen_le.2 (by
  have:=blen_lt (n / 2)
  rw [Nat.pow_succ]
  omega)
 omega
theorem blen_eq_one {n:Nat}:blen n=1 ↔ n=1:=by
 constructor
 ·intro h
  have h1:=blen_lt n
  rw [h] at h1
  rcases Nat.eq_zero_or_pos n with e | e
  ·subst e; rw [blen_zero] at h; omega
  ·omega
 ·rintro rfl; decide
theorem blen_gt_one {n:Nat}:1 < blen n ↔ 1 < n:=by
 rcases Nat.lt_or_ge 1 n with h | h
 ·have:¬ blen n≤1:=fun k=>by have:=blen_le.1 k; omega
  omega
 ·have:blen n≤1:=blen_le.2 (by omega)
  omega
theorem blen_top {B k t low:Nat} (hl:low < 2 ^ (B * k)) (ht:0 < t):blen (low + 2 ^ (B * k) * t)=B * k + blen t:=by
 have h1:=blen_lt t
 have h2:blen (low + 2 ^ (B * k) * t)≤B * k + blen t:=blen_le.2 (by
  rw [Nat.pow_add]
  have:2 ^ (B * k) * (t + 1)≤2 ^ (B * k) * 2 ^ blen t:=Nat.mul_le_mul_left _ h1
  rw [Nat.mul_add] at this
  omega)
 have h3:¬ blen (low + 2 ^ (B * k) * t)≤B * k + blen t - 1:=fun h=>by
  have h4:=blen_le.1 h
  obtain ⟨j,hj⟩:∃ j,blen t=j + 1:=⟨blen t - 1,by have:=blen_half ht; omega⟩
  rw [hj,show B * k + (j + 1) - 1=B * k + j by omega,Nat.pow_add] at h4
  have h5:2 ^ j≤t:=by
   rcases Nat.lt_or_ge t (2 ^ j) with h | h
   ·have:=blen_le.2 h; omega
   ·exact h
  have:2 ^ (B * k) * 2 ^ j≤2 ^ (B * k) * t:=Nat.mul_le_mul_left _ h5
  omega
 have:0 < blen t:=by have:=blen_half ht; omega
 omega
set_option maxHeartbeats 1000000 in
set_option maxRecDepth 100000 in
theorem NBits_any (a:Value) (x:Int) (w:World) (ha:NumIs w a x) (hx:NFits x):Calls Tryz.prog 157 #[a] w (RetV w (.int .i64 (blen x.natAbs:Int))):=by
 obtain ⟨s,A,l,c,rfl⟩:=ha.shp
 have h1:=ha.mag
 have h0:=ha.len0
 obtain ⟨A',xs,c',he,hc,hX,hd,ht,hv⟩:=h1
 injection he with e1 e2 e3
 subst e1 e2 e3
 unfold NFits at hx
 rw [← hv,← ml_len hd ht] at hx
 rw [← hv]
 clear ha h0 hv
 rcases Nat.eq_zero_or_pos xs.length with hl | hl
 ·obtain rfl:xs=[]:=List.length_eq_zero_iff.1 hl
  go_enter Tryz.func157,Tryz.ntmps157
  go_wp2
  go_ret
  exact ⟨rfl,(Fr.refl _ _).alloc _⟩
 ·obtain ⟨k,hk⟩:∃ k,xs.length=k + 1:=⟨xs.length - 1,by omega⟩
  obtain ⟨b,off,rfl,hb,hct⟩:=hX.at (i:=k) (by omega)
  obtain ⟨t,et⟩:∃ t,xs[k]?.getD 0=t:=⟨_,rfl⟩
  rw [et] at hct
  have ht0:0 < t:=by have:=ht k hk; omega
  have EV:val W32 xs=val W32 (xs.take k) + W32 ^ k * t:=by
   have:=val_take_succ (B:=W32) (xs:=xs) k (by omega)
   rw [List.take_of_length_le (by omega),et] at this
   exact this
  have hlow:=val_lt (hd.take k)
  rw [List.length_take,Nat.min_eq_left (by omega),W32_pow] at hlow
  have HB:Hid (blen (val W32 xs)=32 * k + blen t):=by
   unfold Hid
   rw [EV,W32_pow]
   exact blen_top hlow ht0
  have htW:t < W32:=et ▸ hd.getD W32_pos k
  have hbt:blen t≤32:=blen_le.2 (by rw [W32_eq] at htW; exact htW)
  obtain ⟨r,er⟩:∃ r,blen (val W32 xs)=r:=⟨_,rfl⟩
  rw [er] at HB ⊢
  have hne:b≠w.heap.size:=Nat.ne_of_lt hb
  rw [hk]
  clear hX hd ht EV hlow et er htW hc hl
  have g0:(((k:Int) + 1) == 0)=false:=by simp; omega
  go_enter Tryz.func157,Tryz.ntmps157
  go_wp2
  go_loop [3,4] (fun nv tv=>∃ n t':Nat,nv=.int .i64 (n:Int)∧tv=.int .u32 (t':Int)∧Hid (n + blen t'=r)∧n≤32 * k + 32) (fun _ tv=>(intOf tv).toNat)
  case atStart=>exact ⟨32 * k,t,by go_num,rfl,by have:=HB.out; unfold Hid; omega,by omega⟩
  case round =>
   obtain ⟨n,t',rfl,rfl,hR,hn⟩:=hrel
   by_cases hz:0 < t'
   ·have hR2:Hid (n + 1 + blen (t' / 2)=r):=by have h1:=hR.out; rw [blen_half hz] at h1; unfold Hid; omega
    have hle:n + 1≤32 * k + 32:=by
     have h1:=hR.out; have h2:=HB.out; rw [blen_half hz] at h1; omega
    have q1:(t':Int) / 2=((t' / 2:Nat):Int):=rfl
    have hlt:t' / 2 < t':=by omega
    obtain ⟨t2,et2⟩:∃ t2,t' / 2=t2:=⟨_,rfl⟩
    rw [et2] at hR2 q1 hlt
    clear et2
    go_wp2
    go_round
    case rel=>exact ⟨n + 1,t2,by go_num,rfl,hR2,hle⟩
    case measure=>simp [intOf]; omega
   ·obtain rfl:t'=0:=by omega
    have hR2:Hid (n=r):=by have h1:=hR.out; rw [blen_zero] at h1; exact h1
    go_wp2
    go_ret
    exact ⟨by rw [hR2.out]; rfl,(Fr.refl _ _).alloc _⟩
theorem MagIs.inj {w:World} {v:Value} {m n:Nat} (h:MagIs w v m) (k:MagIs w v n):m=n:=by
 obtain ⟨A,xs,c,rfl,_,hX,_,_,rfl⟩:=h
 obtain ⟨A',ys,c',he,_,hY,_,_,rfl⟩:=k
 injection he with e1 e2 e3
 subst e1
 have:xs=ys:=by
  apply List.ext_getElem e2
  intro i h1 h2
  obtain ⟨b,o,rfl,_,c1⟩:=hX.at h1
  obtain ⟨b',o',e',_,c2⟩:=hY.at h2
  injection e' with e'
  injection e' with e3 e4
  subst e3 e4
  rw [c1] at c2
  injection c2 with c2
  injection c2 with _ c2
  rw [List.getElem?_eq_getElem h1,List.getElem?_eq_getElem h2] at c2
  simp only [Option.getD_some] at c2
  omega
 rw [this]
open Classical in
noncomputable def magVal (w:World) (v:Value):Nat:=if h:∃ n,MagIs w v n then Classical.choose h else 0
theorem magVal_eq {w:World} {v:Value} {n:Nat} (h:MagIs w v n):magVal w v=n:=by
 have hx:∃ n,MagIs w v n:=⟨n,h⟩
 unfold magVal
 rw [dif_pos hx]
 exact (Classical.choose_spec hx).inj h
theorem MagIs.len_zero {w:World} {A:Option Addr} {l c n:Nat} (h:MagIs w (.slice A l c) n):(n=0 ↔ l=0)∧l=ml n:=by
 obtain ⟨A',xs,c',he,_,_,hd,ht,hv⟩:=h
 injection he with _ he
 have hl:=ml_len hd ht
 rw [hv] at hl
 refine ⟨⟨fun e=>?_,fun e=>?_⟩,by omega⟩
 ·rw [e,ml_zero] at hl; omega
 ·rw [e] at he
  have:xs=[]:=List.length_eq_zero_iff.1 he.symm
  rw [this] at hv
  simpa using hv.symm
set_option maxHeartbeats 1000000 in
set_option maxRecDepth 100000 in
theorem NGcd_any (a b:Value) (x y:Int) (w:World) (ha:NumIs w a x) (hb:NumIs w b y) (hx:NFits x) (hy:NFits y):Calls Tryz.prog 155 #[a,b] w (RetNum w (Int.gcd x y:Int)):=by
 obtain ⟨s,A,l,c,rfl⟩:=ha.shp
 obtain ⟨t,B,m,d,rfl⟩:=hb.shp
 have HM:=zh ha.mag
 have HN:=zh hb.mag
 have HX:Hid (ml x.natAbs≤1048576):=hx
 have HY:Hid (ml y.natAbs≤1048576):=hy
 obtain ⟨r,er⟩:∃ r,Int.gcd x y=r:=⟨_,rfl⟩
 have HR:Hid (Nat.gcd x.natAbs y.natAbs=r):=er
 rw [er]
 clear ha hb hx hy er
 go_enter Tryz.func155,Tryz.ntmps155
 go_wp2_with fail
 generalize hwb:World.alloc (World.alloc (World.alloc w _) _) _=w1
 obtain ⟨b0,b1,b2,hE0⟩:=blocks3 hwb
 clear hwb
 have HB2:=zh b2
 have HE:=zh hE0
 replace HM:=zh (HM.out.ext hE0)
 replace HN:=zh (HN.out.ext hE0)
 obtain ⟨c0,c1,f0,f1⟩:=b0.cell2
 obtain ⟨c2,c3,f2,f3⟩:=b1.cell2
 clear b0 b1 b2 hE0
 go_quiet (fail)
 clear c0 c1 f0 f1 c2 c3 f2 f3
 go_wp2_with fail
 go_loopw [5,6,7,8] (fun xv yv _ _ wr=>∃ (u v:Nat) (A' B':Option Addr) (l' c' m' d':Nat),xv=.slice A' l' c'∧yv=.slice B' m' d'∧Hid (MagIs wr (.slice A' l' c') u)∧Hid (MagIs wr (.slice B' m' d') v)∧Hid (ml u≤1048576)∧Hid (ml v≤1048576)∧Hid (Nat.gcd u v=r)∧Hid (Ext w1 wr)) (fun _ yv _ _ wr=>magVal wr yv)
 case atStart=>exact ⟨_,_,_,_,_,_,_,_,rfl,rfl,HM.out.ext ((Fr.refl _ _).drewN _),HN.out.ext ((Fr.refl _ _).drewN _),HX,HY,HR,(Fr.refl _ _).drewN _⟩
 case round =>
  obtain ⟨u,v,A',B',l',c',m',d',rfl,rfl,hU,hV,hu,hv,hG,hF⟩:=hrel
  obtain ⟨z1,z2⟩:=hV.out.len_zero
  have hm':m'≤1048576:=by have:=hv.out; omega
  by_cases hm:m'=0
  ·subst hm
   have hv0:v=0:=z1.2 rfl
   have HG:Hid (u=r):=by have:=hG.out; rw [hv0,Nat.gcd_zero_right] at this; exact this
   have HB:=zh (HB2.out.ext hF.out)
   have HEE:=zh (HE.out.trans hF.out)
   clear z1 z2 hv0
   go_wp2_with fail
   refine (make1_ret false _ u _ hU.out).mono ?_
   rintro e w2 ⟨_,rfl,hI,hF2⟩
   obtain ⟨s2,A2,l2,c2,rfl⟩:=hI.shp
   have HI:=zh hI
   have HB':=zh (HB.out.ext hF2)
   have HE':=zh (HEE.out.trans hF2)
   obtain ⟨k0,k1,k2,k3⟩:=HB'.out.cell2
   clear hI hF2
   go_wp2
   have hFs:Fr (fun i=>i=(w.heap.size + 1 + 1)) w2 ((w2.setCell ⟨w.heap.size + 1 + 1,0,none⟩ (.bool s2)).setCell ⟨w.heap.size + 1 + 1,1,none⟩ (.slice A2 l2 c2)):=((Fr.refl (fun i=>i=(w.heap.size + 1 + 1)) _).setCell (p:=⟨w.heap.size + 1 + 1,0,none⟩) (Or.inl rfl) _).setCell (p:=⟨w.heap.size + 1 + 1,1,none⟩) (Or.inl rfl) _
   exact fin_Num rfl rfl ((HB'.out.set_ 0 _).set_ 1 _) (by rw [← HG.out]; exact HI.out.oth HB'.out noRow2 hFs) (HE'.out.next hFs (fun i hi e=>by omega))
  ·have hm0:0 < m':=by omega
   have hv0:0 < v:=by rcases Nat.eq_zero_or_pos v with e | e; · exact absurd (z1.1 e) hm
                      ·exact e
   have HG:Hid (Nat.gcd v (u % v)=r):=by have:=hG.out; rw [Nat.gcd_comm,Nat.gcd_rec,Nat.gcd_comm] at this; exact this
   have hml:=zh (Nat.le_trans (ml_mono (Nat.le_of_lt (Nat.mod_lt u hv0))) hv.out)
   have hlt:=zh (Nat.mod_lt u hv0)
   have HC:=zh (divMag_any _ _ u v wr hU.out hV.out hu.out hv.out hv0)
   clear z1 z2 hv0 hm hG
   go_wp2_with fail
   refine HC.out.mono ?_
   rintro e w2 ⟨_,_,rfl,hq,hr,hF2⟩
   obtain ⟨A2,l2,c2,rfl⟩:=hq.slice
   obtain ⟨A3,l3,c3,rfl⟩:=hr.slice
   have HQr:=zh hr
   have HV2:=zh (hV.out.ext hF2)
   have HF2:=zh (hF.out.trans hF2)
   have hme:Hid (magVal wr (.slice B' m' d')=v):=magVal_eq hV.out
   have hme2:Hid (magVal w2 (.slice A3 l3 c3)=u % v):=magVal_eq hr
   clear hq hr hF2 HC
   go_wp2
   go_roundw
   case rel=>exact ⟨v,u % v,_,_,_,_,_,_,rfl,rfl,HV2,HQr,hv,hml,HG,HF2⟩
   case measure=>rw [hme.out,hme2.out]; exact hlt.out
end Go.Proofs.YtbgkofgoeoiciaaGreatDoor

namespace Go.Proofs.YtbgkofgoeoiciaaGreatDoor
open Go.RowKit
theorem NFits.le {x y:Int} (h:NFits x) (hl:y.natAbs≤x.natAbs):NFits y:=Nat.le_trans (ml_mono hl) h
theorem NFits.gcd {x y:Int} (h:NFits y) (h0:y≠0):NFits (Int.gcd x y:Int):=h.le (by
 have:Int.gcd x y≤y.natAbs:=Nat.gcd_le_right _ (by omega)
 omega)
theorem NFits.tdiv {x y:Int} (h:NFits x):NFits (x.tdiv y):=h.le (by rw [Int.natAbs_tdiv]; exact Nat.div_le_self _ _)
theorem gcd_pos_of {x y:Int} (h:0 < y):0 < Int.gcd x y:=by
 rcases Nat.eq_zero_or_pos (Int.gcd x y) with e | e
 ·have:=(Int.gcd_eq_zero_iff.1 e).2; omega
 ·exact e
def RFits (q:Rat):Prop:=ml q.num.natAbs≤100000∧ml q.den≤100000
theorem mlm {x y:Int} {a b:Nat} (hx:ml x.natAbs≤a) (hy:ml y.natAbs≤b):ml (x * y).natAbs≤a + b:=by
 have h:=ml_mul x.natAbs y.natAbs
 rw [← Int.natAbs_mul] at h
 omega
theorem mla {x y:Int} {a:Nat} (hx:ml x.natAbs≤a) (hy:ml y.natAbs≤a):ml (x + y).natAbs≤a + 1 :=
 Nat.le_trans (ml_mono (Int.natAbs_add_le x y)) (ml_add hx hy)
theorem RFits.neg {q:Rat} (h:RFits q):RFits (-q):=by
 unfold RFits at *
 rw [rneg_num,rneg_den,Int.natAbs_neg]
 exact h
theorem post_Num2 {w w':World} {e:Ending} {a b:Int} (h:RetNum2 w a b e w'):PostC shInt2 (fun x w=>NumIs w (shInt x.1) a∧NumIs w (shInt x.2) b) w e w':=by
 obtain ⟨u,v,rfl,hI,hJ,hE⟩:=h
 obtain ⟨s,A,l,c,rfl⟩:=hI.shp
 obtain ⟨s',A',l',c',rfl⟩:=hJ.shp
 exact ⟨((s,A,l,c),(s',A',l',c')),rfl,hE,boxn hE (fun S w'' hS hF=>⟨hI.nrb hS hF,hJ.nrb hS hF⟩)⟩
theorem nfit {z:Int} {k:Nat} (h:ml z.natAbs≤k) (hk:Nat.ble k 1048576=true):NFits z:=Nat.le_trans h (Nat.le_of_ble_eq_true hk)
theorem mlc {n k:Nat} (h:ml n≤k):ml ((n:Nat):Int).natAbs≤k:=by rw [Int.natAbs_natCast]; exact h
theorem frac_gcd2 {x y:Int} {q:Rat} (hq:Rat.divInt x y=q) (hy:0 < y) (_:1 < ((Int.gcd x y:Nat):Int).natAbs):q.num=x.tdiv ((Int.gcd x y:Nat):Int)∧(q.den:Int)=y.tdiv ((Int.gcd x y:Nat):Int):=by
 rw [← hq]; exact frac_gcd hy
theorem frac_one2 {x y:Int} {q:Rat} (hq:Rat.divInt x y=q) (hy:0 < y) (h:¬ 1 < ((Int.gcd x y:Nat):Int).natAbs):q.num=x∧(q.den:Int)=y:=by
 have h1:=gcd_pos_of (x:=x) hy
 rw [← hq]; exact frac_coprime hy (by omega)
theorem nat_beq_one {n:Nat} (h:(((n:Nat):Int) == 1)=true):n=1:=by have:=eq_of_beq h; omega
theorem nat_bne_one {n:Nat} (h:(((n:Nat):Int) == 1)=false):n≠1:=fun e=>by subst e; cases h
set_option maxRecDepth 100000 in
theorem NFrac_neg (a b:Value) (x y:Int) (q:Rat) (w:World) (ha:NumIs w a x) (hb:NumIs w b y) (hx:NFits x) (hy:NFits y) (h0:y < 0) (hq:Rat.divInt x y=q) :
 Calls Tryz.prog 146 #[a,b] w (RetNRat w q):=by
 obtain ⟨s0,A0,l0,c0,rfl⟩:=ha.shp
 obtain ⟨s1,A1,l1,c1,rfl⟩:=hb.shp
 obtain rfl:s1=true:=hb.sneg h0
 have HFx:NFits (-(x)):=hx.neg
 have HFy:NFits (-(y)):=hy.neg
 have HY:0 < -(y):=by omega
 have HFg:NFits ((Int.gcd (-(x)) (-(y)):Nat):Int):=NFits.gcd HFy (by omega)
 have HG0:((Int.gcd (-(x)) (-(y)):Nat):Int)≠0:=by have:=gcd_pos_of (x := -(x)) HY; omega
 have Hq:Rat.divInt (-(x)) (-(y))=q:=by rw [Rat.neg_divInt_neg]; exact hq
 refine sx_enter (Φ:=fun w=>(NumIs w (.agg #[.bool s0, .slice A0 l0 c0]) (x)∧NumIs w (.agg #[.bool true, .slice A1 l1 c1]) (y))) Tryz.func146 rfl (by kernel_rfl) (fun w' hf=>⟨ha.ext hf,hb.ext hf⟩) ?_
 refine sx_seq (sx_region (xr 3 [(2, .p 2 0),(3, .p 3 0),(4, .p 4 0)] [bR4 4 36 false none 0 0 false none 0 0,bI2 3 34 true A1 l1 c1,bI2 2 34 s0 A0 l0 c0] ?_))
 refine xe (sx_next (sx_seq (sx_seq (sx_region (xr 2 [(2, .p 2 0),(3, .p 3 0),(4, .p 4 0),(7, .v (.bool true))] [bR4 4 36 false none 0 0 false none 0 0,bI2 3 34 true A1 l1 c1,bI2 2 34 s0 A0 l0 c0] ?_)))))
 refine xe (sx_next (xa ?_))
 refine sx_draw 6 (by kernel_rfl) (by kernel_rfl) follows_mixed' ?_
 refine xf 1 [(2, .p 2 0),(3, .p 3 0),(4, .p 4 0),eI2 8 s0 A0 l0 c0] [bR4 4 36 false none 0 0 false none 0 0,bI2 3 34 true A1 l1 c1,bI2 2 34 s0 A0 l0 c0] ?_
 refine xd 151 [vI2 s0 A0 l0 c0] 9 shInt _ (fun w hE hΦ=>(NNeg_any _ (x) _ hΦ.1).mono (fun _ _ h=>post_Num h)) (fun xx=>?_)
 obtain ⟨s10,A10,l10,c10⟩:=xx
 refine xf 1 [(2, .p 2 0),(3, .p 3 0),(4, .p 4 0),eI2 9 s10 A10 l10 c10,eI2 10 true A1 l1 c1] [bR4 4 36 false none 0 0 false none 0 0,bI2 3 34 true A1 l1 c1,bI2 2 34 s0 A0 l0 c0] ?_
 refine xd 151 [vI2 true A1 l1 c1] 11 shInt _ (fun w hE hΦ=>(NNeg_any _ (y) _ hΦ.1.2).mono (fun _ _ h=>post_Num h)) (fun xx=>?_)
 obtain ⟨s11,A11,l11,c11⟩:=xx
 refine xf 2 [(2, .p 2 0),(3, .p 3 0),(4, .p 4 0)] [bI2 3 34 s11 A11 l11 c11,bI2 2 34 s10 A10 l10 c10,bR4 4 36 false none 0 0 false none 0 0,bI2 3 34 true A1 l1 c1,bI2 2 34 s0 A0 l0 c0] ?_
 refine xz (xe (sx_next (sx_seq (sx_region (xr 2 [(2, .p 2 0),(3, .p 3 0),(4, .p 4 0),eI2 12 s10 A10 l10 c10,eI2 13 s11 A11 l11 c11] [bI2 3 34 s11 A11 l11 c11,bI2 2 34 s10 A10 l10 c10,bR4 4 36 false none 0 0 false none 0 0] ?_)))))
 refine xc 155 [vI2 s10 A10 l10 c10,vI2 s11 A11 l11 c11] 14 shInt _ (fun w hE hΦ=>(NGcd_any _ _ (-(x)) (-(y)) _ hΦ.1.2 hΦ.2 HFx HFy).mono (fun _ _ h=>post_Num h)) (fun xx=>?_)
 obtain ⟨s12,A12,l12,c12⟩:=xx
 refine xr 2 [(2, .p 2 0),(3, .p 3 0),(4, .p 4 0),(5, .p 5 0)] [bI2 5 34 s12 A12 l12 c12,bI2 3 34 s11 A11 l11 c11,bI2 2 34 s10 A10 l10 c10,bR4 4 36 false none 0 0 false none 0 0] ?_
 refine xe (sx_next (sx_seq (sx_seq (sx_region (xr 1 [(2, .p 2 0),(3, .p 3 0),(4, .p 4 0),(5, .p 5 0),eI2 15 s12 A12 l12 c12] [bI2 5 34 s12 A12 l12 c12,bI2 3 34 s11 A11 l11 c11,bI2 2 34 s10 A10 l10 c10,bR4 4 36 false none 0 0 false none 0 0] ?_)))))
 refine xc 157 [vI2 s12 A12 l12 c12] 16 (fun _:Unit=>.int .i64 ((blen (((Int.gcd (-(x)) (-(y)):Nat):Int)).natAbs:Nat):Int)) _ (fun w hE hΦ=>(NBits_any _ (((Int.gcd (-(x)) (-(y)):Nat):Int)) _ hΦ.2 HFg).mono (fun _ _ h=>post_val h rfl)) (fun xx=>?_)
 refine xr 1 [(2, .p 2 0),(3, .p 3 0),(4, .p 4 0),(5, .p 5 0),(17, .v (.bool (decide (((blen (((Int.gcd (-(x)) (-(y)):Nat):Int)).natAbs:Nat):Int) > 1))))] [bI2 5 34 s12 A12 l12 c12,bI2 3 34 s11 A11 l11 c11,bI2 2 34 s10 A10 l10 c10,bR4 4 36 false none 0 0 false none 0 0] ?_
 refine xe (sx_next ?_)
 refine sx_cond ((decide (((blen (((Int.gcd (-(x)) (-(y)):Nat):Int)).natAbs:Nat):Int) > 1))) (by kernel_rfl) (fun hb13=>?_) (fun hb13=>?_)
 ·have HQ:=frac_gcd2 Hq HY (blen_gt_one.1 (by have:=of_decide_eq_true hb13; omega))
  refine sx_seq (sx_region (xr 2 [(2, .p 2 0),(3, .p 3 0),(4, .p 4 0),(5, .p 5 0),eI2 19 s10 A10 l10 c10,eI2 20 s12 A12 l12 c12] [bI2 5 34 s12 A12 l12 c12,bI2 3 34 s11 A11 l11 c11,bI2 2 34 s10 A10 l10 c10,bR4 4 36 false none 0 0 false none 0 0] ?_))
  refine xc 216 [vI2 s10 A10 l10 c10,vI2 s12 A12 l12 c12] 21 shInt2 _ (fun w hE hΦ=>(NQuoRem_any _ _ (-(x)) (((Int.gcd (-(x)) (-(y)):Nat):Int)) _ hΦ.1.1.1.2 hΦ.1.2 HFx HFg HG0).mono (fun _ _ h=>post_Num2 h)) (fun xx=>?_)
  obtain ⟨⟨s14,A14,l14,c14⟩,⟨s15,A15,l15,c15⟩⟩:=xx
  refine xr 4 [(2, .p 2 0),(3, .p 3 0),(4, .p 4 0),(5, .p 5 0)] [bI2 5 34 s12 A12 l12 c12,bI2 3 34 s11 A11 l11 c11,bI2 2 34 s14 A14 l14 c14,bR4 4 36 false none 0 0 false none 0 0] ?_
  refine xe (sx_next (sx_region (xr 2 [(2, .p 2 0),(3, .p 3 0),(4, .p 4 0),eI2 25 s11 A11 l11 c11,eI2 26 s12 A12 l12 c12] [bI2 3 34 s11 A11 l11 c11,bI2 2 34 s14 A14 l14 c14,bR4 4 36 false none 0 0 false none 0 0] ?_)))
  refine xc 216 [vI2 s11 A11 l11 c11,vI2 s12 A12 l12 c12] 27 shInt2 _ (fun w hE hΦ=>(NQuoRem_any _ _ (-(y)) (((Int.gcd (-(x)) (-(y)):Nat):Int)) _ hΦ.1.1.1.2 hΦ.1.1.2 HFy HFg HG0).mono (fun _ _ h=>post_Num2 h)) (fun xx=>?_)
  obtain ⟨⟨s16,A16,l16,c16⟩,⟨s17,A17,l17,c17⟩⟩:=xx
  refine xr 4 [(2, .p 2 0),(3, .p 3 0),(4, .p 4 0)] [bI2 3 34 s16 A16 l16 c16,bI2 2 34 s14 A14 l14 c14,bR4 4 36 false none 0 0 false none 0 0] ?_
  refine xe (sx_next (sx_seq (sx_seq (sx_region (xr 1 [(2, .p 2 0),(3, .p 3 0),(4, .p 4 0),eI2 30 s16 A16 l16 c16] [bI2 3 34 s16 A16 l16 c16,bI2 2 34 s14 A14 l14 c14,bR4 4 36 false none 0 0 false none 0 0] ?_)))))
  refine xc 157 [vI2 s16 A16 l16 c16] 31 (fun _:Unit=>.int .i64 ((blen ((-(y)).tdiv (((Int.gcd (-(x)) (-(y)):Nat):Int))).natAbs:Nat):Int)) _ (fun w hE hΦ=>(NBits_any _ ((-(y)).tdiv (((Int.gcd (-(x)) (-(y)):Nat):Int))) _ hΦ.2.1 (NFits.tdiv HFy)).mono (fun _ _ h=>post_val h rfl)) (fun xx=>?_)
  refine xr 1 [(2, .p 2 0),(3, .p 3 0),(4, .p 4 0),(32, .v (.bool ((((blen ((-(y)).tdiv (((Int.gcd (-(x)) (-(y)):Nat):Int))).natAbs:Nat):Int):Int) == 1)))] [bI2 3 34 s16 A16 l16 c16,bI2 2 34 s14 A14 l14 c14,bR4 4 36 false none 0 0 false none 0 0] ?_
  refine xe (sx_next ?_)
  refine sx_cond (((((blen ((-(y)).tdiv (((Int.gcd (-(x)) (-(y)):Nat):Int))).natAbs:Nat):Int):Int) == 1)) (by kernel_rfl) (fun hb18=>?_) (fun hb18=>?_)
  ·have hdhb18:=blen_eq_one.1 (nat_beq_one hb18)
   refine sx_region (xr 2 [(2, .p 2 0),(3, .p 3 0),(4, .p 4 0)] [bI2 3 34 false none 0 0,bI2 2 34 s14 A14 l14 c14,bR4 4 36 false none 0 0 false none 0 0] ?_)
   refine xe (sx_next (sx_seq (sx_region (xr 4 [(4, .p 4 0)] [bR4 4 36 s14 A14 l14 c14 false none 0 0] ?_))))
   refine xe (sx_next (sx_ret ?_))
   refine sx_done (v:=.agg #[.bool s14, .slice A14 l14 c14, .bool false, .slice none 0 0]) (by kernel_rfl) (fun w' hE hΦ=>?_)
   exact ⟨_,rfl,NRatIs.of (by rw [HQ.1]; exact hΦ.1.1.2.1) (by rw [denF_one (by have:=hdhb18; have:=HQ.2; have:=q.den_nz; omega)]; exact (NumIs.nil _)),hE⟩
  ·have hdhb18:=fun h=>nat_bne_one hb18 (blen_eq_one.2 h)
   refine sx_skip (sx_next (sx_seq (sx_region (xr 4 [(4, .p 4 0)] [bR4 4 36 s14 A14 l14 c14 s16 A16 l16 c16] ?_))))
   refine xe (sx_next (sx_ret ?_))
   refine sx_done (v:=.agg #[.bool s14, .slice A14 l14 c14, .bool s16, .slice A16 l16 c16]) (by kernel_rfl) (fun w' hE hΦ=>?_)
   exact ⟨_,rfl,NRatIs.of (by rw [HQ.1]; exact hΦ.1.1.2.1) (by rw [denF_big (fun h=>hdhb18 (by have:=HQ.2; omega)),HQ.2]; exact hΦ.1.2.1),hE⟩
 ·have HQ:=frac_one2 Hq HY (fun h=>absurd (blen_gt_one.2 h) (by have:=of_decide_eq_false hb13; omega))
  refine sx_skip (sx_next (sx_seq (sx_seq (sx_region (xr 1 [(2, .p 2 0),(3, .p 3 0),(4, .p 4 0),eI2 30 s11 A11 l11 c11] [bI2 3 34 s11 A11 l11 c11,bI2 2 34 s10 A10 l10 c10,bR4 4 36 false none 0 0 false none 0 0] ?_)))))
  refine xc 157 [vI2 s11 A11 l11 c11] 31 (fun _:Unit=>.int .i64 ((blen (-(y)).natAbs:Nat):Int)) _ (fun w hE hΦ=>(NBits_any _ (-(y)) _ hΦ.1.1.2 HFy).mono (fun _ _ h=>post_val h rfl)) (fun xx=>?_)
  refine xr 1 [(2, .p 2 0),(3, .p 3 0),(4, .p 4 0),(32, .v (.bool ((((blen (-(y)).natAbs:Nat):Int):Int) == 1)))] [bI2 3 34 s11 A11 l11 c11,bI2 2 34 s10 A10 l10 c10,bR4 4 36 false none 0 0 false none 0 0] ?_
  refine xe (sx_next ?_)
  refine sx_cond (((((blen (-(y)).natAbs:Nat):Int):Int) == 1)) (by kernel_rfl) (fun hb19=>?_) (fun hb19=>?_)
  ·have hdhb19:=blen_eq_one.1 (nat_beq_one hb19)
   refine sx_region (xr 2 [(2, .p 2 0),(3, .p 3 0),(4, .p 4 0)] [bI2 3 34 false none 0 0,bI2 2 34 s10 A10 l10 c10,bR4 4 36 false none 0 0 false none 0 0] ?_)
   refine xe (sx_next (sx_seq (sx_region (xr 4 [(4, .p 4 0)] [bR4 4 36 s10 A10 l10 c10 false none 0 0] ?_))))
   refine xe (sx_next (sx_ret ?_))
   refine sx_done (v:=.agg #[.bool s10, .slice A10 l10 c10, .bool false, .slice none 0 0]) (by kernel_rfl) (fun w' hE hΦ=>?_)
   exact ⟨_,rfl,NRatIs.of (by rw [HQ.1]; exact hΦ.1.1.1.1.2) (by rw [denF_one (by have:=hdhb19; have:=HQ.2; have:=q.den_nz; omega)]; exact (NumIs.nil _)),hE⟩
  ·have hdhb19:=fun h=>nat_bne_one hb19 (blen_eq_one.2 h)
   refine sx_skip (sx_next (sx_seq (sx_region (xr 4 [(4, .p 4 0)] [bR4 4 36 s10 A10 l10 c10 s11 A11 l11 c11] ?_))))
   refine xe (sx_next (sx_ret ?_))
   refine sx_done (v:=.agg #[.bool s10, .slice A10 l10 c10, .bool s11, .slice A11 l11 c11]) (by kernel_rfl) (fun w' hE hΦ=>?_)
   exact ⟨_,rfl,NRatIs.of (by rw [HQ.1]; exact hΦ.1.1.1.1.2) (by rw [denF_big (fun h=>hdhb19 (by have:=HQ.2; omega)),HQ.2]; exact hΦ.1.1.1.2),hE⟩
set_option maxRecDepth 100000 in
theorem NFrac_pos (a b:Value) (x y:Int) (q:Rat) (w:World) (ha:NumIs w a x) (hb:NumIs w b y) (hx:NFits x) (hy:NFits y) (h0:0 < y) (hq:Rat.divInt x y=q) :
 Calls Tryz.prog 146 #[a,b] w (RetNRat w q):=by
 obtain ⟨s0,A0,l0,c0,rfl⟩:=ha.shp
 obtain ⟨s1,A1,l1,c1,rfl⟩:=hb.shp
 obtain rfl:s1=false:=hb.spos (by omega)
 have HFx:NFits (x):=hx
 have HFy:NFits (y):=hy
 have HY:0 < y:=by omega
 have HFg:NFits ((Int.gcd (x) (y):Nat):Int):=NFits.gcd HFy (by omega)
 have HG0:((Int.gcd (x) (y):Nat):Int)≠0:=by have:=gcd_pos_of (x:=x) HY; omega
 have Hq:Rat.divInt (x) (y)=q:=hq
 refine sx_enter (Φ:=fun w=>(NumIs w (.agg #[.bool s0, .slice A0 l0 c0]) (x)∧NumIs w (.agg #[.bool false, .slice A1 l1 c1]) (y))) Tryz.func146 rfl (by kernel_rfl) (fun w' hf=>⟨ha.ext hf,hb.ext hf⟩) ?_
 refine sx_seq (sx_region (xr 3 [(2, .p 2 0),(3, .p 3 0),(4, .p 4 0)] [bR4 4 36 false none 0 0 false none 0 0,bI2 3 34 false A1 l1 c1,bI2 2 34 s0 A0 l0 c0] ?_))
 refine xe (sx_next (sx_seq (sx_seq (sx_region (xr 2 [(2, .p 2 0),(3, .p 3 0),(4, .p 4 0),(7, .v (.bool false))] [bR4 4 36 false none 0 0 false none 0 0,bI2 3 34 false A1 l1 c1,bI2 2 34 s0 A0 l0 c0] ?_)))))
 refine xe (sx_next (xb (sx_skip (sx_next (sx_seq (sx_region (xr 2 [(2, .p 2 0),(3, .p 3 0),(4, .p 4 0),eI2 12 s0 A0 l0 c0,eI2 13 false A1 l1 c1] [bR4 4 36 false none 0 0 false none 0 0,bI2 3 34 false A1 l1 c1,bI2 2 34 s0 A0 l0 c0] ?_)))))))
 refine xc 155 [vI2 s0 A0 l0 c0,vI2 false A1 l1 c1] 14 shInt _ (fun w hE hΦ=>(NGcd_any _ _ (x) (y) _ hΦ.1 hΦ.2 HFx HFy).mono (fun _ _ h=>post_Num h)) (fun xx=>?_)
 obtain ⟨s10,A10,l10,c10⟩:=xx
 refine xr 2 [(2, .p 2 0),(3, .p 3 0),(4, .p 4 0),(5, .p 5 0)] [bI2 5 34 s10 A10 l10 c10,bR4 4 36 false none 0 0 false none 0 0,bI2 3 34 false A1 l1 c1,bI2 2 34 s0 A0 l0 c0] ?_
 refine xe (sx_next (sx_seq (sx_seq (sx_region (xr 1 [(2, .p 2 0),(3, .p 3 0),(4, .p 4 0),(5, .p 5 0),eI2 15 s10 A10 l10 c10] [bI2 5 34 s10 A10 l10 c10,bR4 4 36 false none 0 0 false none 0 0,bI2 3 34 false A1 l1 c1,bI2 2 34 s0 A0 l0 c0] ?_)))))
 refine xc 157 [vI2 s10 A10 l10 c10] 16 (fun _:Unit=>.int .i64 ((blen (((Int.gcd (x) (y):Nat):Int)).natAbs:Nat):Int)) _ (fun w hE hΦ=>(NBits_any _ (((Int.gcd (x) (y):Nat):Int)) _ hΦ.2 HFg).mono (fun _ _ h=>post_val h rfl)) (fun xx=>?_)
 refine xr 1 [(2, .p 2 0),(3, .p 3 0),(4, .p 4 0),(5, .p 5 0),(17, .v (.bool (decide (((blen (((Int.gcd (x) (y):Nat):Int)).natAbs:Nat):Int) > 1))))] [bI2 5 34 s10 A10 l10 c10,bR4 4 36 false none 0 0 false none 0 0,bI2 3 34 false A1 l1 c1,bI2 2 34 s0 A0 l0 c0] ?_
 refine xe (sx_next ?_)
 refine sx_cond ((decide (((blen (((Int.gcd (x) (y):Nat):Int)).natAbs:Nat):Int) > 1))) (by kernel_rfl) (fun hb11=>?_) (fun hb11=>?_)
 ·have HQ:=frac_gcd2 Hq HY (blen_gt_one.1 (by have:=of_decide_eq_true hb11; omega))
  refine sx_seq (sx_region (xr 2 [(2, .p 2 0),(3, .p 3 0),(4, .p 4 0),(5, .p 5 0),eI2 19 s0 A0 l0 c0,eI2 20 s10 A10 l10 c10] [bI2 5 34 s10 A10 l10 c10,bR4 4 36 false none 0 0 false none 0 0,bI2 3 34 false A1 l1 c1,bI2 2 34 s0 A0 l0 c0] ?_))
  refine xc 216 [vI2 s0 A0 l0 c0,vI2 s10 A10 l10 c10] 21 shInt2 _ (fun w hE hΦ=>(NQuoRem_any _ _ (x) (((Int.gcd (x) (y):Nat):Int)) _ hΦ.1.1.1 hΦ.1.2 HFx HFg HG0).mono (fun _ _ h=>post_Num2 h)) (fun xx=>?_)
  obtain ⟨⟨s12,A12,l12,c12⟩,⟨s13,A13,l13,c13⟩⟩:=xx
  refine xr 4 [(2, .p 2 0),(3, .p 3 0),(4, .p 4 0),(5, .p 5 0)] [bI2 5 34 s10 A10 l10 c10,bR4 4 36 false none 0 0 false none 0 0,bI2 3 34 false A1 l1 c1,bI2 2 34 s12 A12 l12 c12] ?_
  refine xe (sx_next (sx_region (xr 2 [(2, .p 2 0),(3, .p 3 0),(4, .p 4 0),eI2 25 false A1 l1 c1,eI2 26 s10 A10 l10 c10] [bR4 4 36 false none 0 0 false none 0 0,bI2 3 34 false A1 l1 c1,bI2 2 34 s12 A12 l12 c12] ?_)))
  refine xc 216 [vI2 false A1 l1 c1,vI2 s10 A10 l10 c10] 27 shInt2 _ (fun w hE hΦ=>(NQuoRem_any _ _ (y) (((Int.gcd (x) (y):Nat):Int)) _ hΦ.1.1.1.2 hΦ.1.1.2 HFy HFg HG0).mono (fun _ _ h=>post_Num2 h)) (fun xx=>?_)
  obtain ⟨⟨s14,A14,l14,c14⟩,⟨s15,A15,l15,c15⟩⟩:=xx
  refine xr 4 [(2, .p 2 0),(3, .p 3 0),(4, .p 4 0)] [bR4 4 36 false none 0 0 false none 0 0,bI2 3 34 s14 A14 l14 c14,bI2 2 34 s12 A12 l12 c12] ?_
  refine xe (sx_next (sx_seq (sx_seq (sx_region (xr 1 [(2, .p 2 0),(3, .p 3 0),(4, .p 4 0),eI2 30 s14 A14 l14 c14] [bR4 4 36 false none 0 0 false none 0 0,bI2 3 34 s14 A14 l14 c14,bI2 2 34 s12 A12 l12 c12] ?_)))))
  refine xc 157 [vI2 s14 A14 l14 c14] 31 (fun _:Unit=>.int .i64 ((blen ((y).tdiv (((Int.gcd (x) (y):Nat):Int))).natAbs:Nat):Int)) _ (fun w hE hΦ=>(NBits_any _ ((y).tdiv (((Int.gcd (x) (y):Nat):Int))) _ hΦ.2.1 (NFits.tdiv HFy)).mono (fun _ _ h=>post_val h rfl)) (fun xx=>?_)
  refine xr 1 [(2, .p 2 0),(3, .p 3 0),(4, .p 4 0),(32, .v (.bool ((((blen ((y).tdiv (((Int.gcd (x) (y):Nat):Int))).natAbs:Nat):Int):Int) == 1)))] [bR4 4 36 false none 0 0 false none 0 0,bI2 3 34 s14 A14 l14 c14,bI2 2 34 s12 A12 l12 c12] ?_
  refine xe (sx_next ?_)
  refine sx_cond (((((blen ((y).tdiv (((Int.gcd (x) (y):Nat):Int))).natAbs:Nat):Int):Int) == 1)) (by kernel_rfl) (fun hb16=>?_) (fun hb16=>?_)
  ·have hdhb16:=blen_eq_one.1 (nat_beq_one hb16)
   refine sx_region (xr 2 [(2, .p 2 0),(3, .p 3 0),(4, .p 4 0)] [bR4 4 36 false none 0 0 false none 0 0,bI2 3 34 false none 0 0,bI2 2 34 s12 A12 l12 c12] ?_)
   refine xe (sx_next (sx_seq (sx_region (xr 4 [(4, .p 4 0)] [bR4 4 36 s12 A12 l12 c12 false none 0 0] ?_))))
   refine xe (sx_next (sx_ret ?_))
   refine sx_done (v:=.agg #[.bool s12, .slice A12 l12 c12, .bool false, .slice none 0 0]) (by kernel_rfl) (fun w' hE hΦ=>?_)
   exact ⟨_,rfl,NRatIs.of (by rw [HQ.1]; exact hΦ.1.1.2.1) (by rw [denF_one (by have:=hdhb16; have:=HQ.2; have:=q.den_nz; omega)]; exact (NumIs.nil _)),hE⟩
  ·have hdhb16:=fun h=>nat_bne_one hb16 (blen_eq_one.2 h)
   refine sx_skip (sx_next (sx_seq (sx_region (xr 4 [(4, .p 4 0)] [bR4 4 36 s12 A12 l12 c12 s14 A14 l14 c14] ?_))))
   refine xe (sx_next (sx_ret ?_))
   refine sx_done (v:=.agg #[.bool s12, .slice A12 l12 c12, .bool s14, .slice A14 l14 c14]) (by kernel_rfl) (fun w' hE hΦ=>?_)
   exact ⟨_,rfl,NRatIs.of (by rw [HQ.1]; exact hΦ.1.1.2.1) (by rw [denF_big (fun h=>hdhb16 (by have:=HQ.2; omega)),HQ.2]; exact hΦ.1.2.1),hE⟩
 ·have HQ:=frac_one2 Hq HY (fun h=>absurd (blen_gt_one.2 h) (by have:=of_decide_eq_false hb11; omega))
  refine sx_skip (sx_next (sx_seq (sx_seq (sx_region (xr 1 [(2, .p 2 0),(3, .p 3 0),(4, .p 4 0),eI2 30 false A1 l1 c1] [bR4 4 36 false none 0 0 false none 0 0,bI2 3 34 false A1 l1 c1,bI2 2 34 s0 A0 l0 c0] ?_)))))
  refine xc 157 [vI2 false A1 l1 c1] 31 (fun _:Unit=>.int .i64 ((blen (y).natAbs:Nat):Int)) _ (fun w hE hΦ=>(NBits_any _ (y) _ hΦ.1.1.2 HFy).mono (fun _ _ h=>post_val h rfl)) (fun xx=>?_)
  refine xr 1 [(2, .p 2 0),(3, .p 3 0),(4, .p 4 0),(32, .v (.bool ((((blen (y).natAbs:Nat):Int):Int) == 1)))] [bR4 4 36 false none 0 0 false none 0 0,bI2 3 34 false A1 l1 c1,bI2 2 34 s0 A0 l0 c0] ?_
  refine xe (sx_next ?_)
  refine sx_cond (((((blen (y).natAbs:Nat):Int):Int) == 1)) (by kernel_rfl) (fun hb17=>?_) (fun hb17=>?_)
  ·have hdhb17:=blen_eq_one.1 (nat_beq_one hb17)
   refine sx_region (xr 2 [(2, .p 2 0),(3, .p 3 0),(4, .p 4 0)] [bR4 4 36 false none 0 0 false none 0 0,bI2 3 34 false none 0 0,bI2 2 34 s0 A0 l0 c0] ?_)
   refine xe (sx_next (sx_seq (sx_region (xr 4 [(4, .p 4 0)] [bR4 4 36 s0 A0 l0 c0 false none 0 0] ?_))))
   refine xe (sx_next (sx_ret ?_))
   refine sx_done (v:=.agg #[.bool s0, .slice A0 l0 c0, .bool false, .slice none 0 0]) (by kernel_rfl) (fun w' hE hΦ=>?_)
   exact ⟨_,rfl,NRatIs.of (by rw [HQ.1]; exact hΦ.1.1.1.1) (by rw [denF_one (by have:=hdhb17; have:=HQ.2; have:=q.den_nz; omega)]; exact (NumIs.nil _)),hE⟩
  ·have hdhb17:=fun h=>nat_bne_one hb17 (blen_eq_one.2 h)
   refine sx_skip (sx_next (sx_seq (sx_region (xr 4 [(4, .p 4 0)] [bR4 4 36 s0 A0 l0 c0 false A1 l1 c1] ?_))))
   refine xe (sx_next (sx_ret ?_))
   refine sx_done (v:=.agg #[.bool s0, .slice A0 l0 c0, .bool false, .slice A1 l1 c1]) (by kernel_rfl) (fun w' hE hΦ=>?_)
   exact ⟨_,rfl,NRatIs.of (by rw [HQ.1]; exact hΦ.1.1.1.1) (by rw [denF_big (fun h=>hdhb17 (by have:=HQ.2; omega)),HQ.2]; exact hΦ.1.1.1.2),hE⟩
theorem NFrac_any (a b:Value) (x y:Int) (w:World) (ha:NumIs w a x) (hb:NumIs w b y) (hx:NFits x) (hy:NFits y) (h0:y≠0):Calls Tryz.prog 146 #[a,b] w (RetNRat w (Rat.divInt x y)):=by
 rcases Int.lt_or_gt_of_ne h0 with h | h
 ·exact NFrac_neg a b x y _ w ha hb hx hy h rfl
 ·exact NFrac_pos a b x y _ w ha hb hx hy h rfl
set_option maxRecDepth 100000 in
theorem NRNeg_any (a:Value) (q:Rat) (w:World) (ha:NRatIs w a q) :
 Calls Tryz.prog 109 #[a] w (RetNRat w (-q)):=by
 obtain ⟨s0,A0,l0,c0,t0,B0,m0,d0,rfl⟩:=ha.shp
 refine sx_enter (Φ:=fun w=>NRatIs w (.agg #[.bool s0, .slice A0 l0 c0, .bool t0, .slice B0 m0 d0]) (q)) Tryz.func109 rfl (by kernel_rfl) (fun w' hf=>ha.ext hf) ?_
 refine sx_seq (sx_region (xr 2 [(1, .p 1 0),(2, .p 2 0)] [bR4 2 36 false none 0 0 false none 0 0,bR4 1 36 s0 A0 l0 c0 t0 B0 m0 d0] ?_))
 refine xe (sx_next (sx_seq ?_))
 refine sx_draw 7 (by kernel_rfl) (by kernel_rfl) follows_mixed' ?_
 refine xf 2 [(1, .p 1 0),(2, .p 2 0),eI2 4 s0 A0 l0 c0] [bR4 2 36 false none 0 0 false none 0 0,bR4 1 36 s0 A0 l0 c0 t0 B0 m0 d0] ?_
 refine xd 151 [vI2 s0 A0 l0 c0] 5 shInt _ (fun w hE hΦ=>(NNeg_any _ ((q).num) _ hΦ.num).mono (fun _ _ h=>post_Num h)) (fun xx=>?_)
 obtain ⟨s10,A10,l10,c10⟩:=xx
 refine xf 4 [(2, .p 2 0)] [bR4 2 36 s10 A10 l10 c10 t0 B0 m0 d0,bR4 2 36 false none 0 0 false none 0 0,bR4 1 36 s0 A0 l0 c0 t0 B0 m0 d0] ?_
 refine xz (xe (sx_next (sx_ret ?_)))
 refine sx_done (v:=.agg #[.bool s10, .slice A10 l10 c10, .bool t0, .slice B0 m0 d0]) (by kernel_rfl) (fun w' hE hΦ=>?_)
 exact ⟨_,rfl,NRatIs.of (by rw [rneg_num]; exact hΦ.2) (by rw [denF_neg]; exact hΦ.1.den),hE⟩
set_option maxRecDepth 100000 in
theorem NRSign_any (a:Value) (q:Rat) (w:World) (ha:NRatIs w a q) :
 Calls Tryz.prog 103 #[a] w (RetV w (.int .i64 q.num.sign)):=by
 obtain ⟨s0,A0,l0,c0,t0,B0,m0,d0,rfl⟩:=ha.shp
 refine sx_enter (Φ:=fun w=>NRatIs w (.agg #[.bool s0, .slice A0 l0 c0, .bool t0, .slice B0 m0 d0]) (q)) Tryz.func103 rfl (by kernel_rfl) (fun w' hf=>ha.ext hf) ?_
 refine sx_seq (sx_region (xr 2 [(1, .p 1 0),(2, .v (.int .i64 0))] [bR4 1 36 s0 A0 l0 c0 t0 B0 m0 d0] ?_))
 refine xe (sx_next (sx_seq (sx_region (xr 2 [(2, .v (.int .i64 0)),eI2 4 s0 A0 l0 c0] [] ?_))))
 refine xc 195 [vI2 s0 A0 l0 c0] 5 (fun _:Unit=>.int .i64 ((q).num).sign) _ (fun w hE hΦ=>(NSign_any _ ((q).num) _ hΦ.num).mono (fun _ _ h=>post_val h rfl)) (fun xx=>?_)
 refine xr 1 [(2, .v (.int .i64 ((q).num).sign))] [] ?_
 refine xe (sx_next (sx_ret ?_))
 refine sx_done (v:=.int .i64 ((q).num).sign) (by kernel_rfl) (fun w' hE hΦ=>?_)
 exact ⟨rfl,hE⟩
set_option maxRecDepth 100000 in
theorem NRAdd_whole (a b:Value) (p q:Rat) (w:World) (ha:NRatIs w a p) (hb:NRatIs w b q) (hp:RFits p) (hq:RFits q) (h1:p.den=1) (h2:q.den=1) :
 Calls Tryz.prog 176 #[a,b] w (RetNRat w (p + q)):=by
 obtain ⟨s0,A0,l0,c0,t0,B0,m0,d0,rfl⟩:=ha.shp
 obtain rfl:m0=0:=ha.den.len0 (denF_one h1)
 obtain ⟨s1,A1,l1,c1,t1,B1,m1,d1,rfl⟩:=hb.shp
 obtain rfl:m1=0:=hb.den.len0 (denF_one h2)
 have S1:ml p.num.natAbs≤100000:=hp.1
 have S2:ml q.num.natAbs≤100000:=hq.1
 have S3:ml ((p.den:Nat):Int).natAbs≤100000:=mlc hp.2
 have S4:ml ((q.den:Nat):Int).natAbs≤100000:=mlc hq.2
 refine sx_enter (Φ:=fun w=>(NRatIs w (.agg #[.bool s0, .slice A0 l0 c0, .bool t0, .slice B0 0 d0]) (p)∧NRatIs w (.agg #[.bool s1, .slice A1 l1 c1, .bool t1, .slice B1 0 d1]) (q))) Tryz.func176 rfl (by kernel_rfl) (fun w' hf=>⟨ha.ext hf,hb.ext hf⟩) ?_
 refine sx_seq (sx_region (xr 3 [(2, .p 2 0),(3, .p 3 0),(4, .p 4 0)] [bR4 4 36 false none 0 0 false none 0 0,bR4 3 36 s1 A1 l1 c1 t1 B1 0 d1,bR4 2 36 s0 A0 l0 c0 t0 B0 0 d0] ?_))
 refine xe (sx_next (sx_seq (sx_seq (sx_region (xr 12 [(2, .p 2 0),(3, .p 3 0),(4, .p 4 0),(16, .v (.bool true))] [bR4 4 36 false none 0 0 false none 0 0,bR4 3 36 s1 A1 l1 c1 t1 B1 0 d1,bR4 2 36 s0 A0 l0 c0 t0 B0 0 d0] ?_)))))
 refine xe (sx_next (xa (sx_seq (sx_region (xr 4 [(2, .p 2 0),(3, .p 3 0),(4, .p 4 0),eI2 18 s0 A0 l0 c0,eI2 20 s1 A1 l1 c1] [bR4 4 36 false none 0 0 false none 0 0,bR4 3 36 s1 A1 l1 c1 t1 B1 0 d1,bR4 2 36 s0 A0 l0 c0 t0 B0 0 d0] ?_)))))
 refine xc 217 [vI2 s0 A0 l0 c0,vI2 s1 A1 l1 c1] 21 shInt _ (fun w hE hΦ=>(NAdd_any _ _ ((p).num) ((q).num) _ hΦ.1.num hΦ.2.num (nfit S1 (by decide)) (nfit S2 (by decide))).mono (fun _ _ h=>post_Num h)) (fun xx=>?_)
 obtain ⟨s10,A10,l10,c10⟩:=xx
 refine xr 2 [(2, .p 2 0),(3, .p 3 0),(4, .p 4 0)] [bR4 4 36 s10 A10 l10 c10 false none 0 0,bR4 3 36 s1 A1 l1 c1 t1 B1 0 d1,bR4 2 36 s0 A0 l0 c0 t0 B0 0 d0] ?_
 refine xe (sx_next (sx_ret (sx_then_ret ?_)))
 refine sx_done (v:=.agg #[.bool s10, .slice A10 l10 c10, .bool false, .slice none 0 0]) (by kernel_rfl) (fun w' hE hΦ=>?_)
 exact ⟨_,rfl,NRatIs.of (by rw [(rat_whole_add h1 h2).1]; exact hΦ.2) (by rw [denF_one (rat_whole_add h1 h2).2]; exact (NumIs.nil _)),hE⟩
set_option maxRecDepth 100000 in
theorem NRAdd_fracl (a b:Value) (p q:Rat) (w:World) (ha:NRatIs w a p) (hb:NRatIs w b q) (hp:RFits p) (hq:RFits q) (h1:¬ p.den=1) :
 Calls Tryz.prog 176 #[a,b] w (RetNRat w (p + q)):=by
 obtain ⟨s0,A0,l0,c0,t0,B0,m0,d0,rfl⟩:=ha.shp
 obtain ⟨k0,rfl⟩:∃ k,m0=k + 1:=⟨m0 - 1,by have:=ha.den.lenp (denF_ne h1); omega⟩
 obtain ⟨s1,A1,l1,c1,t1,B1,m1,d1,rfl⟩:=hb.shp
 have S1:ml p.num.natAbs≤100000:=hp.1
 have S2:ml q.num.natAbs≤100000:=hq.1
 have S3:ml ((p.den:Nat):Int).natAbs≤100000:=mlc hp.2
 have S4:ml ((q.den:Nat):Int).natAbs≤100000:=mlc hq.2
 refine sx_enter (Φ:=fun w=>(NRatIs w (.agg #[.bool s0, .slice A0 l0 c0, .bool t0, .slice B0 (k0 + 1) d0]) (p)∧NRatIs w (.agg #[.bool s1, .slice A1 l1 c1, .bool t1, .slice B1 m1 d1]) (q))) Tryz.func176 rfl (by kernel_rfl) (fun w' hf=>⟨ha.ext hf,hb.ext hf⟩) ?_
 refine sx_seq (sx_region (xr 3 [(2, .p 2 0),(3, .p 3 0),(4, .p 4 0)] [bR4 4 36 false none 0 0 false none 0 0,bR4 3 36 s1 A1 l1 c1 t1 B1 m1 d1,bR4 2 36 s0 A0 l0 c0 t0 B0 (k0 + 1) d0] ?_))
 refine xe (sx_next (sx_seq (sx_seq (sx_region (xr 12 [(2, .p 2 0),(3, .p 3 0),(4, .p 4 0),(16, .v (.bool false))] [bR4 4 36 false none 0 0 false none 0 0,bR4 3 36 s1 A1 l1 c1 t1 B1 m1 d1,bR4 2 36 s0 A0 l0 c0 t0 B0 (k0 + 1) d0] ?_)))))
 refine xe (sx_next (xb (sx_skip (sx_next (sx_seq ?_)))))
 refine sx_draw 18 (by kernel_rfl) (by kernel_rfl) follows_mixed' ?_
 refine xf 3 [(2, .p 2 0),(3, .p 3 0),(4, .p 4 0),eI2 24 s0 A0 l0 c0,eR4 25 s1 A1 l1 c1 t1 B1 m1 d1] [bR4 4 36 false none 0 0 false none 0 0,bR4 3 36 s1 A1 l1 c1 t1 B1 m1 d1,bR4 2 36 s0 A0 l0 c0 t0 B0 (k0 + 1) d0] ?_
 refine xd 196 [vR4 s1 A1 l1 c1 t1 B1 m1 d1] 26 shInt _ (fun w hE hΦ=>(Nden_any _ (q) _ hΦ.2).mono (fun _ _ h=>post_Num h)) (fun xx=>?_)
 obtain ⟨s10,A10,l10,c10⟩:=xx
 refine xf 0 [(2, .p 2 0),(3, .p 3 0),(4, .p 4 0),eI2 24 s0 A0 l0 c0,eI2 26 s10 A10 l10 c10] [bR4 4 36 false none 0 0 false none 0 0,bR4 3 36 s1 A1 l1 c1 t1 B1 m1 d1,bR4 2 36 s0 A0 l0 c0 t0 B0 (k0 + 1) d0] ?_
 refine xd 145 [vI2 s0 A0 l0 c0,vI2 s10 A10 l10 c10] 27 shInt _ (fun w hE hΦ=>(NMul_any _ _ ((p).num) (((q).den:Int)) _ hΦ.1.1.num hΦ.2 (nfit S1 (by decide)) (nfit S4 (by decide))).mono (fun _ _ h=>post_Num h)) (fun xx=>?_)
 obtain ⟨s11,A11,l11,c11⟩:=xx
 refine xf 3 [(2, .p 2 0),(3, .p 3 0),(4, .p 4 0),eI2 27 s11 A11 l11 c11,eI2 29 s1 A1 l1 c1,eR4 30 s0 A0 l0 c0 t0 B0 (k0 + 1) d0] [bR4 4 36 false none 0 0 false none 0 0,bR4 3 36 s1 A1 l1 c1 t1 B1 m1 d1,bR4 2 36 s0 A0 l0 c0 t0 B0 (k0 + 1) d0] ?_
 refine xd 196 [vR4 s0 A0 l0 c0 t0 B0 (k0 + 1) d0] 31 shInt _ (fun w hE hΦ=>(Nden_any _ (p) _ hΦ.1.1.1).mono (fun _ _ h=>post_Num h)) (fun xx=>?_)
 obtain ⟨s12,A12,l12,c12⟩:=xx
 refine xf 0 [(2, .p 2 0),(3, .p 3 0),(4, .p 4 0),eI2 27 s11 A11 l11 c11,eI2 29 s1 A1 l1 c1,eI2 31 s12 A12 l12 c12] [bR4 4 36 false none 0 0 false none 0 0,bR4 3 36 s1 A1 l1 c1 t1 B1 m1 d1,bR4 2 36 s0 A0 l0 c0 t0 B0 (k0 + 1) d0] ?_
 refine xd 145 [vI2 s1 A1 l1 c1,vI2 s12 A12 l12 c12] 32 shInt _ (fun w hE hΦ=>(NMul_any _ _ ((q).num) (((p).den:Int)) _ hΦ.1.1.1.2.num hΦ.2 (nfit S2 (by decide)) (nfit S3 (by decide))).mono (fun _ _ h=>post_Num h)) (fun xx=>?_)
 obtain ⟨s13,A13,l13,c13⟩:=xx
 refine xf 0 [(2, .p 2 0),(3, .p 3 0),(4, .p 4 0),eI2 27 s11 A11 l11 c11,eI2 32 s13 A13 l13 c13] [bR4 4 36 false none 0 0 false none 0 0,bR4 3 36 s1 A1 l1 c1 t1 B1 m1 d1,bR4 2 36 s0 A0 l0 c0 t0 B0 (k0 + 1) d0] ?_
 refine xd 217 [vI2 s11 A11 l11 c11,vI2 s13 A13 l13 c13] 33 shInt _ (fun w hE hΦ=>(NAdd_any _ _ (((p).num) * (((q).den:Int))) (((q).num) * (((p).den:Int))) _ hΦ.1.1.2 hΦ.2 (nfit (mlm S1 S4) (by decide)) (nfit (mlm S2 S3) (by decide))).mono (fun _ _ h=>post_Num h)) (fun xx=>?_)
 obtain ⟨s14,A14,l14,c14⟩:=xx
 refine xf 1 [(3, .p 3 0),(4, .p 4 0),eI2 33 s14 A14 l14 c14,eR4 34 s0 A0 l0 c0 t0 B0 (k0 + 1) d0] [bR4 4 36 false none 0 0 false none 0 0,bR4 3 36 s1 A1 l1 c1 t1 B1 m1 d1,bR4 2 36 s0 A0 l0 c0 t0 B0 (k0 + 1) d0] ?_
 refine xd 196 [vR4 s0 A0 l0 c0 t0 B0 (k0 + 1) d0] 35 shInt _ (fun w hE hΦ=>(Nden_any _ (p) _ hΦ.1.1.1.1.1.1).mono (fun _ _ h=>post_Num h)) (fun xx=>?_)
 obtain ⟨s15,A15,l15,c15⟩:=xx
 refine xf 1 [(4, .p 4 0),eI2 33 s14 A14 l14 c14,eI2 35 s15 A15 l15 c15,eR4 36 s1 A1 l1 c1 t1 B1 m1 d1] [bR4 4 36 false none 0 0 false none 0 0,bR4 3 36 s1 A1 l1 c1 t1 B1 m1 d1,bR4 2 36 s0 A0 l0 c0 t0 B0 (k0 + 1) d0] ?_
 refine xd 196 [vR4 s1 A1 l1 c1 t1 B1 m1 d1] 37 shInt _ (fun w hE hΦ=>(Nden_any _ (q) _ hΦ.1.1.1.1.1.1.2).mono (fun _ _ h=>post_Num h)) (fun xx=>?_)
 obtain ⟨s16,A16,l16,c16⟩:=xx
 refine xf 0 [(4, .p 4 0),eI2 33 s14 A14 l14 c14,eI2 35 s15 A15 l15 c15,eI2 37 s16 A16 l16 c16] [bR4 4 36 false none 0 0 false none 0 0,bR4 3 36 s1 A1 l1 c1 t1 B1 m1 d1,bR4 2 36 s0 A0 l0 c0 t0 B0 (k0 + 1) d0] ?_
 refine xd 145 [vI2 s15 A15 l15 c15,vI2 s16 A16 l16 c16] 38 shInt _ (fun w hE hΦ=>(NMul_any _ _ (((p).den:Int)) (((q).den:Int)) _ hΦ.1.2 hΦ.2 (nfit S3 (by decide)) (nfit S4 (by decide))).mono (fun _ _ h=>post_Num h)) (fun xx=>?_)
 obtain ⟨s17,A17,l17,c17⟩:=xx
 refine xf 0 [(4, .p 4 0),eI2 33 s14 A14 l14 c14,eI2 38 s17 A17 l17 c17] [bR4 4 36 false none 0 0 false none 0 0,bR4 3 36 s1 A1 l1 c1 t1 B1 m1 d1,bR4 2 36 s0 A0 l0 c0 t0 B0 (k0 + 1) d0] ?_
 refine xd 146 [vI2 s14 A14 l14 c14,vI2 s17 A17 l17 c17] 39 shRat _ (fun w hE hΦ=>(NFrac_any _ _ ((((p).num) * (((q).den:Int))) + (((q).num) * (((p).den:Int)))) ((((p).den:Int)) * (((q).den:Int))) _ hΦ.1.1.1.2 hΦ.2 (nfit (mla (a:=200000) (mlm S1 S4) (mlm S2 S3)) (by decide)) (nfit (mlm S3 S4) (by decide)) (Int.mul_ne_zero (denI p) (denI q))).mono (fun _ _ h=>post_NRat (by rw [rat_add_frac] at h; exact h))) (fun xx=>?_)
 obtain ⟨s18,A18,l18,c18,t18,B18,m18,d18⟩:=xx
 refine xf 1 [(4, .p 4 0)] [bR4 4 36 s18 A18 l18 c18 t18 B18 m18 d18,bR4 4 36 false none 0 0 false none 0 0,bR4 3 36 s1 A1 l1 c1 t1 B1 m1 d1,bR4 2 36 s0 A0 l0 c0 t0 B0 (k0 + 1) d0] ?_
 refine xz (xe (sx_next (sx_ret ?_)))
 refine sx_done (v:=.agg #[.bool s18, .slice A18 l18 c18, .bool t18, .slice B18 m18 d18]) (by kernel_rfl) (fun w' hE hΦ=>?_)
 exact ⟨_,rfl,hΦ.2,hE⟩
set_option maxRecDepth 100000 in
theorem NRAdd_fracr (a b:Value) (p q:Rat) (w:World) (ha:NRatIs w a p) (hb:NRatIs w b q) (hp:RFits p) (hq:RFits q) (h1:p.den=1) (h2:¬ q.den=1) :
 Calls Tryz.prog 176 #[a,b] w (RetNRat w (p + q)):=by
 obtain ⟨s0,A0,l0,c0,t0,B0,m0,d0,rfl⟩:=ha.shp
 obtain rfl:m0=0:=ha.den.len0 (denF_one h1)
 obtain ⟨s1,A1,l1,c1,t1,B1,m1,d1,rfl⟩:=hb.shp
 obtain ⟨k1,rfl⟩:∃ k,m1=k + 1:=⟨m1 - 1,by have:=hb.den.lenp (denF_ne h2); omega⟩
 have S1:ml p.num.natAbs≤100000:=hp.1
 have S2:ml q.num.natAbs≤100000:=hq.1
 have S3:ml ((p.den:Nat):Int).natAbs≤100000:=mlc hp.2
 have S4:ml ((q.den:Nat):Int).natAbs≤100000:=mlc hq.2
 refine sx_enter (Φ:=fun w=>(NRatIs w (.agg #[.bool s0, .slice A0 l0 c0, .bool t0, .slice B0 0 d0]) (p)∧NRatIs w (.agg #[.bool s1, .slice A1 l1 c1, .bool t1, .slice B1 (k1 + 1) d1]) (q))) Tryz.func176 rfl (by kernel_rfl) (fun w' hf=>⟨ha.ext hf,hb.ext hf⟩) ?_
 refine sx_seq (sx_region (xr 3 [(2, .p 2 0),(3, .p 3 0),(4, .p 4 0)] [bR4 4 36 false none 0 0 false none 0 0,bR4 3 36 s1 A1 l1 c1 t1 B1 (k1 + 1) d1,bR4 2 36 s0 A0 l0 c0 t0 B0 0 d0] ?_))
 refine xe (sx_next (sx_seq (sx_seq (sx_region (xr 12 [(2, .p 2 0),(3, .p 3 0),(4, .p 4 0),(16, .v (.bool false))] [bR4 4 36 false none 0 0 false none 0 0,bR4 3 36 s1 A1 l1 c1 t1 B1 (k1 + 1) d1,bR4 2 36 s0 A0 l0 c0 t0 B0 0 d0] ?_)))))
 refine xe (sx_next (xb (sx_skip (sx_next (sx_seq ?_)))))
 refine sx_draw 18 (by kernel_rfl) (by kernel_rfl) follows_mixed' ?_
 refine xf 3 [(2, .p 2 0),(3, .p 3 0),(4, .p 4 0),eI2 24 s0 A0 l0 c0,eR4 25 s1 A1 l1 c1 t1 B1 (k1 + 1) d1] [bR4 4 36 false none 0 0 false none 0 0,bR4 3 36 s1 A1 l1 c1 t1 B1 (k1 + 1) d1,bR4 2 36 s0 A0 l0 c0 t0 B0 0 d0] ?_
 refine xd 196 [vR4 s1 A1 l1 c1 t1 B1 (k1 + 1) d1] 26 shInt _ (fun w hE hΦ=>(Nden_any _ (q) _ hΦ.2).mono (fun _ _ h=>post_Num h)) (fun xx=>?_)
 obtain ⟨s10,A10,l10,c10⟩:=xx
 refine xf 0 [(2, .p 2 0),(3, .p 3 0),(4, .p 4 0),eI2 24 s0 A0 l0 c0,eI2 26 s10 A10 l10 c10] [bR4 4 36 false none 0 0 false none 0 0,bR4 3 36 s1 A1 l1 c1 t1 B1 (k1 + 1) d1,bR4 2 36 s0 A0 l0 c0 t0 B0 0 d0] ?_
 refine xd 145 [vI2 s0 A0 l0 c0,vI2 s10 A10 l10 c10] 27 shInt _ (fun w hE hΦ=>(NMul_any _ _ ((p).num) (((q).den:Int)) _ hΦ.1.1.num hΦ.2 (nfit S1 (by decide)) (nfit S4 (by decide))).mono (fun _ _ h=>post_Num h)) (fun xx=>?_)
 obtain ⟨s11,A11,l11,c11⟩:=xx
 refine xf 3 [(2, .p 2 0),(3, .p 3 0),(4, .p 4 0),eI2 27 s11 A11 l11 c11,eI2 29 s1 A1 l1 c1,eR4 30 s0 A0 l0 c0 t0 B0 0 d0] [bR4 4 36 false none 0 0 false none 0 0,bR4 3 36 s1 A1 l1 c1 t1 B1 (k1 + 1) d1,bR4 2 36 s0 A0 l0 c0 t0 B0 0 d0] ?_
 refine xd 196 [vR4 s0 A0 l0 c0 t0 B0 0 d0] 31 shInt _ (fun w hE hΦ=>(Nden_any _ (p) _ hΦ.1.1.1).mono (fun _ _ h=>post_Num h)) (fun xx=>?_)
 obtain ⟨s12,A12,l12,c12⟩:=xx
 refine xf 0 [(2, .p 2 0),(3, .p 3 0),(4, .p 4 0),eI2 27 s11 A11 l11 c11,eI2 29 s1 A1 l1 c1,eI2 31 s12 A12 l12 c12] [bR4 4 36 false none 0 0 false none 0 0,bR4 3 36 s1 A1 l1 c1 t1 B1 (k1 + 1) d1,bR4 2 36 s0 A0 l0 c0 t0 B0 0 d0] ?_
 refine xd 145 [vI2 s1 A1 l1 c1,vI2 s12 A12 l12 c12] 32 shInt _ (fun w hE hΦ=>(NMul_any _ _ ((q).num) (((p).den:Int)) _ hΦ.1.1.1.2.num hΦ.2 (nfit S2 (by decide)) (nfit S3 (by decide))).mono (fun _ _ h=>post_Num h)) (fun xx=>?_)
 obtain ⟨s13,A13,l13,c13⟩:=xx
 refine xf 0 [(2, .p 2 0),(3, .p 3 0),(4, .p 4 0),eI2 27 s11 A11 l11 c11,eI2 32 s13 A13 l13 c13] [bR4 4 36 false none 0 0 false none 0 0,bR4 3 36 s1 A1 l1 c1 t1 B1 (k1 + 1) d1,bR4 2 36 s0 A0 l0 c0 t0 B0 0 d0] ?_
 refine xd 217 [vI2 s11 A11 l11 c11,vI2 s13 A13 l13 c13] 33 shInt _ (fun w hE hΦ=>(NAdd_any _ _ (((p).num) * (((q).den:Int))) (((q).num) * (((p).den:Int))) _ hΦ.1.1.2 hΦ.2 (nfit (mlm S1 S4) (by decide)) (nfit (mlm S2 S3) (by decide))).mono (fun _ _ h=>post_Num h)) (fun xx=>?_)
 obtain ⟨s14,A14,l14,c14⟩:=xx
 refine xf 1 [(3, .p 3 0),(4, .p 4 0),eI2 33 s14 A14 l14 c14,eR4 34 s0 A0 l0 c0 t0 B0 0 d0] [bR4 4 36 false none 0 0 false none 0 0,bR4 3 36 s1 A1 l1 c1 t1 B1 (k1 + 1) d1,bR4 2 36 s0 A0 l0 c0 t0 B0 0 d0] ?_
 refine xd 196 [vR4 s0 A0 l0 c0 t0 B0 0 d0] 35 shInt _ (fun w hE hΦ=>(Nden_any _ (p) _ hΦ.1.1.1.1.1.1).mono (fun _ _ h=>post_Num h)) (fun xx=>?_)
 obtain ⟨s15,A15,l15,c15⟩:=xx
 refine xf 1 [(4, .p 4 0),eI2 33 s14 A14 l14 c14,eI2 35 s15 A15 l15 c15,eR4 36 s1 A1 l1 c1 t1 B1 (k1 + 1) d1] [bR4 4 36 false none 0 0 false none 0 0,bR4 3 36 s1 A1 l1 c1 t1 B1 (k1 + 1) d1,bR4 2 36 s0 A0 l0 c0 t0 B0 0 d0] ?_
 refine xd 196 [vR4 s1 A1 l1 c1 t1 B1 (k1 + 1) d1] 37 shInt _ (fun w hE hΦ=>(Nden_any _ (q) _ hΦ.1.1.1.1.1.1.2).mono (fun _ _ h=>post_Num h)) (fun xx=>?_)
 obtain ⟨s16,A16,l16,c16⟩:=xx
 refine xf 0 [(4, .p 4 0),eI2 33 s14 A14 l14 c14,eI2 35 s15 A15 l15 c15,eI2 37 s16 A16 l16 c16] [bR4 4 36 false none 0 0 false none 0 0,bR4 3 36 s1 A1 l1 c1 t1 B1 (k1 + 1) d1,bR4 2 36 s0 A0 l0 c0 t0 B0 0 d0] ?_
 refine xd 145 [vI2 s15 A15 l15 c15,vI2 s16 A16 l16 c16] 38 shInt _ (fun w hE hΦ=>(NMul_any _ _ (((p).den:Int)) (((q).den:Int)) _ hΦ.1.2 hΦ.2 (nfit S3 (by decide)) (nfit S4 (by decide))).mono (fun _ _ h=>post_Num h)) (fun xx=>?_)
 obtain ⟨s17,A17,l17,c17⟩:=xx
 refine xf 0 [(4, .p 4 0),eI2 33 s14 A14 l14 c14,eI2 38 s17 A17 l17 c17] [bR4 4 36 false none 0 0 false none 0 0,bR4 3 36 s1 A1 l1 c1 t1 B1 (k1 + 1) d1,bR4 2 36 s0 A0 l0 c0 t0 B0 0 d0] ?_
 refine xd 146 [vI2 s14 A14 l14 c14,vI2 s17 A17 l17 c17] 39 shRat _ (fun w hE hΦ=>(NFrac_any _ _ ((((p).num) * (((q).den:Int))) + (((q).num) * (((p).den:Int)))) ((((p).den:Int)) * (((q).den:Int))) _ hΦ.1.1.1.2 hΦ.2 (nfit (mla (a:=200000) (mlm S1 S4) (mlm S2 S3)) (by decide)) (nfit (mlm S3 S4) (by decide)) (Int.mul_ne_zero (denI p) (denI q))).mono (fun _ _ h=>post_NRat (by rw [rat_add_frac] at h; exact h))) (fun xx=>?_)
 obtain ⟨s18,A18,l18,c18,t18,B18,m18,d18⟩:=xx
 refine xf 1 [(4, .p 4 0)] [bR4 4 36 s18 A18 l18 c18 t18 B18 m18 d18,bR4 4 36 false none 0 0 false none 0 0,bR4 3 36 s1 A1 l1 c1 t1 B1 (k1 + 1) d1,bR4 2 36 s0 A0 l0 c0 t0 B0 0 d0] ?_
 refine xz (xe (sx_next (sx_ret ?_)))
 refine sx_done (v:=.agg #[.bool s18, .slice A18 l18 c18, .bool t18, .slice B18 m18 d18]) (by kernel_rfl) (fun w' hE hΦ=>?_)
 exact ⟨_,rfl,hΦ.2,hE⟩
theorem NRAdd_any (a b:Value) (p q:Rat) (w:World) (ha:NRatIs w a p) (hb:NRatIs w b q) (hp:RFits p) (hq:RFits q):Calls Tryz.prog 176 #[a,b] w (RetNRat w (p + q)):=by
 by_cases h1:p.den=1
 ·by_cases h2:q.den=1
  ·exact NRAdd_whole a b p q w ha hb hp hq h1 h2
  ·exact NRAdd_fracr a b p q w ha hb hp hq h1 h2
 ·exact NRAdd_fracl a b p q w ha hb hp hq h1
set_option maxRecDepth 100000 in
theorem NRMul_whole (a b:Value) (p q:Rat) (w:World) (ha:NRatIs w a p) (hb:NRatIs w b q) (hp:RFits p) (hq:RFits q) (h1:p.den=1) (h2:q.den=1) :
 Calls Tryz.prog 101 #[a,b] w (RetNRat w (p * q)):=by
 obtain ⟨s0,A0,l0,c0,t0,B0,m0,d0,rfl⟩:=ha.shp
 obtain rfl:m0=0:=ha.den.len0 (denF_one h1)
 obtain ⟨s1,A1,l1,c1,t1,B1,m1,d1,rfl⟩:=hb.shp
 obtain rfl:m1=0:=hb.den.len0 (denF_one h2)
 have S1:ml p.num.natAbs≤100000:=hp.1
 have S2:ml q.num.natAbs≤100000:=hq.1
 have S3:ml ((p.den:Nat):Int).natAbs≤100000:=mlc hp.2
 have S4:ml ((q.den:Nat):Int).natAbs≤100000:=mlc hq.2
 refine sx_enter (Φ:=fun w=>(NRatIs w (.agg #[.bool s0, .slice A0 l0 c0, .bool t0, .slice B0 0 d0]) (p)∧NRatIs w (.agg #[.bool s1, .slice A1 l1 c1, .bool t1, .slice B1 0 d1]) (q))) Tryz.func101 rfl (by kernel_rfl) (fun w' hf=>⟨ha.ext hf,hb.ext hf⟩) ?_
 refine sx_seq (sx_region (xr 3 [(2, .p 2 0),(3, .p 3 0),(4, .p 4 0)] [bR4 4 36 false none 0 0 false none 0 0,bR4 3 36 s1 A1 l1 c1 t1 B1 0 d1,bR4 2 36 s0 A0 l0 c0 t0 B0 0 d0] ?_))
 refine xe (sx_next (sx_seq (sx_seq (sx_region (xr 12 [(2, .p 2 0),(3, .p 3 0),(4, .p 4 0),(16, .v (.bool true))] [bR4 4 36 false none 0 0 false none 0 0,bR4 3 36 s1 A1 l1 c1 t1 B1 0 d1,bR4 2 36 s0 A0 l0 c0 t0 B0 0 d0] ?_)))))
 refine xe (sx_next (xa (sx_seq (sx_region (xr 4 [(2, .p 2 0),(3, .p 3 0),(4, .p 4 0),eI2 18 s0 A0 l0 c0,eI2 20 s1 A1 l1 c1] [bR4 4 36 false none 0 0 false none 0 0,bR4 3 36 s1 A1 l1 c1 t1 B1 0 d1,bR4 2 36 s0 A0 l0 c0 t0 B0 0 d0] ?_)))))
 refine xc 145 [vI2 s0 A0 l0 c0,vI2 s1 A1 l1 c1] 21 shInt _ (fun w hE hΦ=>(NMul_any _ _ ((p).num) ((q).num) _ hΦ.1.num hΦ.2.num (nfit S1 (by decide)) (nfit S2 (by decide))).mono (fun _ _ h=>post_Num h)) (fun xx=>?_)
 obtain ⟨s10,A10,l10,c10⟩:=xx
 refine xr 2 [(2, .p 2 0),(3, .p 3 0),(4, .p 4 0)] [bR4 4 36 s10 A10 l10 c10 false none 0 0,bR4 3 36 s1 A1 l1 c1 t1 B1 0 d1,bR4 2 36 s0 A0 l0 c0 t0 B0 0 d0] ?_
 refine xe (sx_next (sx_ret (sx_then_ret ?_)))
 refine sx_done (v:=.agg #[.bool s10, .slice A10 l10 c10, .bool false, .slice none 0 0]) (by kernel_rfl) (fun w' hE hΦ=>?_)
 exact ⟨_,rfl,NRatIs.of (by rw [(rat_whole_mul h1 h2).1]; exact hΦ.2) (by rw [denF_one (rat_whole_mul h1 h2).2]; exact (NumIs.nil _)),hE⟩
set_option maxRecDepth 100000 in
theorem NRMul_fracl (a b:Value) (p q:Rat) (w:World) (ha:NRatIs w a p) (hb:NRatIs w b q) (hp:RFits p) (hq:RFits q) (h1:¬ p.den=1) :
 Calls Tryz.prog 101 #[a,b] w (RetNRat w (p * q)):=by
 obtain ⟨s0,A0,l0,c0,t0,B0,m0,d0,rfl⟩:=ha.shp
 obtain ⟨k0,rfl⟩:∃ k,m0=k + 1:=⟨m0 - 1,by have:=ha.den.lenp (denF_ne h1); omega⟩
 obtain ⟨s1,A1,l1,c1,t1,B1,m1,d1,rfl⟩:=hb.shp
 have S1:ml p.num.natAbs≤100000:=hp.1
 have S2:ml q.num.natAbs≤100000:=hq.1
 have S3:ml ((p.den:Nat):Int).natAbs≤100000:=mlc hp.2
 have S4:ml ((q.den:Nat):Int).natAbs≤100000:=mlc hq.2
 refine sx_enter (Φ:=fun w=>(NRatIs w (.agg #[.bool s0, .slice A0 l0 c0, .bool t0, .slice B0 (k0 + 1) d0]) (p)∧NRatIs w (.agg #[.bool s1, .slice A1 l1 c1, .bool t1, .slice B1 m1 d1]) (q))) Tryz.func101 rfl (by kernel_rfl) (fun w' hf=>⟨ha.ext hf,hb.ext hf⟩) ?_
 refine sx_seq (sx_region (xr 3 [(2, .p 2 0),(3, .p 3 0),(4, .p 4 0)] [bR4 4 36 false none 0 0 false none 0 0,bR4 3 36 s1 A1 l1 c1 t1 B1 m1 d1,bR4 2 36 s0 A0 l0 c0 t0 B0 (k0 + 1) d0] ?_))
 refine xe (sx_next (sx_seq (sx_seq (sx_region (xr 12 [(2, .p 2 0),(3, .p 3 0),(4, .p 4 0),(16, .v (.bool false))] [bR4 4 36 false none 0 0 false none 0 0,bR4 3 36 s1 A1 l1 c1 t1 B1 m1 d1,bR4 2 36 s0 A0 l0 c0 t0 B0 (k0 + 1) d0] ?_)))))
 refine xe (sx_next (xb (sx_skip (sx_next (sx_seq ?_)))))
 refine sx_draw 12 (by kernel_rfl) (by kernel_rfl) follows_mixed' ?_
 refine xf 4 [(2, .p 2 0),(3, .p 3 0),(4, .p 4 0),eI2 24 s0 A0 l0 c0,eI2 26 s1 A1 l1 c1] [bR4 4 36 false none 0 0 false none 0 0,bR4 3 36 s1 A1 l1 c1 t1 B1 m1 d1,bR4 2 36 s0 A0 l0 c0 t0 B0 (k0 + 1) d0] ?_
 refine xd 145 [vI2 s0 A0 l0 c0,vI2 s1 A1 l1 c1] 27 shInt _ (fun w hE hΦ=>(NMul_any _ _ ((p).num) ((q).num) _ hΦ.1.num hΦ.2.num (nfit S1 (by decide)) (nfit S2 (by decide))).mono (fun _ _ h=>post_Num h)) (fun xx=>?_)
 obtain ⟨s10,A10,l10,c10⟩:=xx
 refine xf 1 [(3, .p 3 0),(4, .p 4 0),eI2 27 s10 A10 l10 c10,eR4 28 s0 A0 l0 c0 t0 B0 (k0 + 1) d0] [bR4 4 36 false none 0 0 false none 0 0,bR4 3 36 s1 A1 l1 c1 t1 B1 m1 d1,bR4 2 36 s0 A0 l0 c0 t0 B0 (k0 + 1) d0] ?_
 refine xd 196 [vR4 s0 A0 l0 c0 t0 B0 (k0 + 1) d0] 29 shInt _ (fun w hE hΦ=>(Nden_any _ (p) _ hΦ.1.1).mono (fun _ _ h=>post_Num h)) (fun xx=>?_)
 obtain ⟨s11,A11,l11,c11⟩:=xx
 refine xf 1 [(4, .p 4 0),eI2 27 s10 A10 l10 c10,eI2 29 s11 A11 l11 c11,eR4 30 s1 A1 l1 c1 t1 B1 m1 d1] [bR4 4 36 false none 0 0 false none 0 0,bR4 3 36 s1 A1 l1 c1 t1 B1 m1 d1,bR4 2 36 s0 A0 l0 c0 t0 B0 (k0 + 1) d0] ?_
 refine xd 196 [vR4 s1 A1 l1 c1 t1 B1 m1 d1] 31 shInt _ (fun w hE hΦ=>(Nden_any _ (q) _ hΦ.1.1.2).mono (fun _ _ h=>post_Num h)) (fun xx=>?_)
 obtain ⟨s12,A12,l12,c12⟩:=xx
 refine xf 0 [(4, .p 4 0),eI2 27 s10 A10 l10 c10,eI2 29 s11 A11 l11 c11,eI2 31 s12 A12 l12 c12] [bR4 4 36 false none 0 0 false none 0 0,bR4 3 36 s1 A1 l1 c1 t1 B1 m1 d1,bR4 2 36 s0 A0 l0 c0 t0 B0 (k0 + 1) d0] ?_
 refine xd 145 [vI2 s11 A11 l11 c11,vI2 s12 A12 l12 c12] 32 shInt _ (fun w hE hΦ=>(NMul_any _ _ (((p).den:Int)) (((q).den:Int)) _ hΦ.1.2 hΦ.2 (nfit S3 (by decide)) (nfit S4 (by decide))).mono (fun _ _ h=>post_Num h)) (fun xx=>?_)
 obtain ⟨s13,A13,l13,c13⟩:=xx
 refine xf 0 [(4, .p 4 0),eI2 27 s10 A10 l10 c10,eI2 32 s13 A13 l13 c13] [bR4 4 36 false none 0 0 false none 0 0,bR4 3 36 s1 A1 l1 c1 t1 B1 m1 d1,bR4 2 36 s0 A0 l0 c0 t0 B0 (k0 + 1) d0] ?_
 refine xd 146 [vI2 s10 A10 l10 c10,vI2 s13 A13 l13 c13] 33 shRat _ (fun w hE hΦ=>(NFrac_any _ _ (((p).num) * ((q).num)) ((((p).den:Int)) * (((q).den:Int))) _ hΦ.1.1.1.2 hΦ.2 (nfit (mlm S1 S2) (by decide)) (nfit (mlm S3 S4) (by decide)) (Int.mul_ne_zero (denI p) (denI q))).mono (fun _ _ h=>post_NRat (by rw [rat_mul_frac] at h; exact h))) (fun xx=>?_)
 obtain ⟨s14,A14,l14,c14,t14,B14,m14,d14⟩:=xx
 refine xf 1 [(4, .p 4 0)] [bR4 4 36 s14 A14 l14 c14 t14 B14 m14 d14,bR4 4 36 false none 0 0 false none 0 0,bR4 3 36 s1 A1 l1 c1 t1 B1 m1 d1,bR4 2 36 s0 A0 l0 c0 t0 B0 (k0 + 1) d0] ?_
 refine xz (xe (sx_next (sx_ret ?_)))
 refine sx_done (v:=.agg #[.bool s14, .slice A14 l14 c14, .bool t14, .slice B14 m14 d14]) (by kernel_rfl) (fun w' hE hΦ=>?_)
 exact ⟨_,rfl,hΦ.2,hE⟩
set_option maxRecDepth 100000 in
theorem NRMul_fracr (a b:Value) (p q:Rat) (w:World) (ha:NRatIs w a p) (hb:NRatIs w b q) (hp:RFits p) (hq:RFits q) (h1:p.den=1) (h2:¬ q.den=1) :
 Calls Tryz.prog 101 #[a,b] w (RetNRat w (p * q)):=by
 obtain ⟨s0,A0,l0,c0,t0,B0,m0,d0,rfl⟩:=ha.shp
 obtain rfl:m0=0:=ha.den.len0 (denF_one h1)
 obtain ⟨s1,A1,l1,c1,t1,B1,m1,d1,rfl⟩:=hb.shp
 obtain ⟨k1,rfl⟩:∃ k,m1=k + 1:=⟨m1 - 1,by have:=hb.den.lenp (denF_ne h2); omega⟩
 have S1:ml p.num.natAbs≤100000:=hp.1
 have S2:ml q.num.natAbs≤100000:=hq.1
 have S3:ml ((p.den:Nat):Int).natAbs≤100000:=mlc hp.2
 have S4:ml ((q.den:Nat):Int).natAbs≤100000:=mlc hq.2
 refine sx_enter (Φ:=fun w=>(NRatIs w (.agg #[.bool s0, .slice A0 l0 c0, .bool t0, .slice B0 0 d0]) (p)∧NRatIs w (.agg #[.bool s1, .slice A1 l1 c1, .bool t1, .slice B1 (k1 + 1) d1]) (q))) Tryz.func101 rfl (by kernel_rfl) (fun w' hf=>⟨ha.ext hf,hb.ext hf⟩) ?_
 refine sx_seq (sx_region (xr 3 [(2, .p 2 0),(3, .p 3 0),(4, .p 4 0)] [bR4 4 36 false none 0 0 false none 0 0,bR4 3 36 s1 A1 l1 c1 t1 B1 (k1 + 1) d1,bR4 2 36 s0 A0 l0 c0 t0 B0 0 d0] ?_))
 refine xe (sx_next (sx_seq (sx_seq (sx_region (xr 12 [(2, .p 2 0),(3, .p 3 0),(4, .p 4 0),(16, .v (.bool false))] [bR4 4 36 false none 0 0 false none 0 0,bR4 3 36 s1 A1 l1 c1 t1 B1 (k1 + 1) d1,bR4 2 36 s0 A0 l0 c0 t0 B0 0 d0] ?_)))))
 refine xe (sx_next (xb (sx_skip (sx_next (sx_seq ?_)))))
 refine sx_draw 12 (by kernel_rfl) (by kernel_rfl) follows_mixed' ?_
 refine xf 4 [(2, .p 2 0),(3, .p 3 0),(4, .p 4 0),eI2 24 s0 A0 l0 c0,eI2 26 s1 A1 l1 c1] [bR4 4 36 false none 0 0 false none 0 0,bR4 3 36 s1 A1 l1 c1 t1 B1 (k1 + 1) d1,bR4 2 36 s0 A0 l0 c0 t0 B0 0 d0] ?_
 refine xd 145 [vI2 s0 A0 l0 c0,vI2 s1 A1 l1 c1] 27 shInt _ (fun w hE hΦ=>(NMul_any _ _ ((p).num) ((q).num) _ hΦ.1.num hΦ.2.num (nfit S1 (by decide)) (nfit S2 (by decide))).mono (fun _ _ h=>post_Num h)) (fun xx=>?_)
 obtain ⟨s10,A10,l10,c10⟩:=xx
 refine xf 1 [(3, .p 3 0),(4, .p 4 0),eI2 27 s10 A10 l10 c10,eR4 28 s0 A0 l0 c0 t0 B0 0 d0] [bR4 4 36 false none 0 0 false none 0 0,bR4 3 36 s1 A1 l1 c1 t1 B1 (k1 + 1) d1,bR4 2 36 s0 A0 l0 c0 t0 B0 0 d0] ?_
 refine xd 196 [vR4 s0 A0 l0 c0 t0 B0 0 d0] 29 shInt _ (fun w hE hΦ=>(Nden_any _ (p) _ hΦ.1.1).mono (fun _ _ h=>post_Num h)) (fun xx=>?_)
 obtain ⟨s11,A11,l11,c11⟩:=xx
 refine xf 1 [(4, .p 4 0),eI2 27 s10 A10 l10 c10,eI2 29 s11 A11 l11 c11,eR4 30 s1 A1 l1 c1 t1 B1 (k1 + 1) d1] [bR4 4 36 false none 0 0 false none 0 0,bR4 3 36 s1 A1 l1 c1 t1 B1 (k1 + 1) d1,bR4 2 36 s0 A0 l0 c0 t0 B0 0 d0] ?_
 refine xd 196 [vR4 s1 A1 l1 c1 t1 B1 (k1 + 1) d1] 31 shInt _ (fun w hE hΦ=>(Nden_any _ (q) _ hΦ.1.1.2).mono (fun _ _ h=>post_Num h)) (fun xx=>?_)
 obtain ⟨s12,A12,l12,c12⟩:=xx
 refine xf 0 [(4, .p 4 0),eI2 27 s10 A10 l10 c10,eI2 29 s11 A11 l11 c11,eI2 31 s12 A12 l12 c12] [bR4 4 36 false none 0 0 false none 0 0,bR4 3 36 s1 A1 l1 c1 t1 B1 (k1 + 1) d1,bR4 2 36 s0 A0 l0 c0 t0 B0 0 d0] ?_
 refine xd 145 [vI2 s11 A11 l11 c11,vI2 s12 A12 l12 c12] 32 shInt _ (fun w hE hΦ=>(NMul_any _ _ (((p).den:Int)) (((q).den:Int)) _ hΦ.1.2 hΦ.2 (nfit S3 (by decide)) (nfit S4 (by decide))).mono (fun _ _ h=>post_Num h)) (fun xx=>?_)
 obtain ⟨s13,A13,l13,c13⟩:=xx
 refine xf 0 [(4, .p 4 0),eI2 27 s10 A10 l10 c10,eI2 32 s13 A13 l13 c13] [bR4 4 36 false none 0 0 false none 0 0,bR4 3 36 s1 A1 l1 c1 t1 B1 (k1 + 1) d1,bR4 2 36 s0 A0 l0 c0 t0 B0 0 d0] ?_
 refine xd 146 [vI2 s10 A10 l10 c10,vI2 s13 A13 l13 c13] 33 shRat _ (fun w hE hΦ=>(NFrac_any _ _ (((p).num) * ((q).num)) ((((p).den:Int)) * (((q).den:Int))) _ hΦ.1.1.1.2 hΦ.2 (nfit (mlm S1 S2) (by decide)) (nfit (mlm S3 S4) (by decide)) (Int.mul_ne_zero (denI p) (denI q))).mono (fun _ _ h=>post_NRat (by rw [rat_mul_frac] at h; exact h))) (fun xx=>?_)
 obtain ⟨s14,A14,l14,c14,t14,B14,m14,d14⟩:=xx
 refine xf 1 [(4, .p 4 0)] [bR4 4 36 s14 A14 l14 c14 t14 B14 m14 d14,bR4 4 36 false none 0 0 false none 0 0,bR4 3 36 s1 A1 l1 c1 t1 B1 (k1 + 1) d1,bR4 2 36 s0 A0 l0 c0 t0 B0 0 d0] ?_
 refine xz (xe (sx_next (sx_ret ?_)))
 refine sx_done (v:=.agg #[.bool s14, .slice A14 l14 c14, .bool t14, .slice B14 m14 d14]) (by kernel_rfl) (fun w' hE hΦ=>?_)
 exact ⟨_,rfl,hΦ.2,hE⟩
theorem NRMul_any (a b:Value) (p q:Rat) (w:World) (ha:NRatIs w a p) (hb:NRatIs w b q) (hp:RFits p) (hq:RFits q):Calls Tryz.prog 101 #[a,b] w (RetNRat w (p * q)):=by
 by_cases h1:p.den=1
 ·by_cases h2:q.den=1
  ·exact NRMul_whole a b p q w ha hb hp hq h1 h2
  ·exact NRMul_fracr a b p q w ha hb hp hq h1 h2
 ·exact NRMul_fracl a b p q w ha hb hp hq h1
set_option maxRecDepth 100000 in
theorem NRSub_any (a b:Value) (p q:Rat) (w:World) (ha:NRatIs w a p) (hb:NRatIs w b q) (hp:RFits p) (hq:RFits q) :
 Calls Tryz.prog 111 #[a,b] w (RetNRat w (p - q)):=by
 obtain ⟨s0,A0,l0,c0,t0,B0,m0,d0,rfl⟩:=ha.shp
 obtain ⟨s1,A1,l1,c1,t1,B1,m1,d1,rfl⟩:=hb.shp
 refine sx_enter (Φ:=fun w=>(NRatIs w (.agg #[.bool s0, .slice A0 l0 c0, .bool t0, .slice B0 m0 d0]) (p)∧NRatIs w (.agg #[.bool s1, .slice A1 l1 c1, .bool t1, .slice B1 m1 d1]) (q))) Tryz.func111 rfl (by kernel_rfl) (fun w' hf=>⟨ha.ext hf,hb.ext hf⟩) ?_
 refine sx_seq (sx_region (xr 3 [(2, .p 2 0),(3, .p 3 0),(4, .p 4 0)] [bR4 4 36 false none 0 0 false none 0 0,bR4 3 36 s1 A1 l1 c1 t1 B1 m1 d1,bR4 2 36 s0 A0 l0 c0 t0 B0 m0 d0] ?_))
 refine xe (sx_next (sx_seq ?_))
 refine sx_draw 5 (by kernel_rfl) (by kernel_rfl) follows_mixed' ?_
 refine xf 2 [(4, .p 4 0),eR4 5 s0 A0 l0 c0 t0 B0 m0 d0,eR4 6 s1 A1 l1 c1 t1 B1 m1 d1] [bR4 4 36 false none 0 0 false none 0 0,bR4 3 36 s1 A1 l1 c1 t1 B1 m1 d1,bR4 2 36 s0 A0 l0 c0 t0 B0 m0 d0] ?_
 refine xd 109 [vR4 s1 A1 l1 c1 t1 B1 m1 d1] 7 shRat _ (fun w hE hΦ=>(NRNeg_any _ (q) _ hΦ.2).mono (fun _ _ h=>post_NRat h)) (fun xx=>?_)
 obtain ⟨s10,A10,l10,c10,t10,B10,m10,d10⟩:=xx
 refine xf 0 [(4, .p 4 0),eR4 5 s0 A0 l0 c0 t0 B0 m0 d0,eR4 7 s10 A10 l10 c10 t10 B10 m10 d10] [bR4 4 36 false none 0 0 false none 0 0,bR4 3 36 s1 A1 l1 c1 t1 B1 m1 d1,bR4 2 36 s0 A0 l0 c0 t0 B0 m0 d0] ?_
 refine xd 176 [vR4 s0 A0 l0 c0 t0 B0 m0 d0,vR4 s10 A10 l10 c10 t10 B10 m10 d10] 8 shRat _ (fun w hE hΦ=>(NRAdd_any _ _ (p) (-(q)) _ hΦ.1.1 hΦ.2 hp hq.neg).mono (fun _ _ h=>post_NRat (by rw [← Rat.sub_eq_add_neg] at h; exact h))) (fun xx=>?_)
 obtain ⟨s11,A11,l11,c11,t11,B11,m11,d11⟩:=xx
 refine xf 1 [(4, .p 4 0)] [bR4 4 36 s11 A11 l11 c11 t11 B11 m11 d11,bR4 4 36 false none 0 0 false none 0 0,bR4 3 36 s1 A1 l1 c1 t1 B1 m1 d1,bR4 2 36 s0 A0 l0 c0 t0 B0 m0 d0] ?_
 refine xz (xe (sx_next (sx_ret ?_)))
 refine sx_done (v:=.agg #[.bool s11, .slice A11 l11 c11, .bool t11, .slice B11 m11 d11]) (by kernel_rfl) (fun w' hE hΦ=>?_)
 exact ⟨_,rfl,hΦ.2,hE⟩
end Go.Proofs.YtbgkofgoeoiciaaGreatDoor

namespace Go.Proofs.YtbgkofgoeoiciaaGreatDoor
open Go.RowKit
theorem str_cat (a b:List UInt8):(⟨a.toArray⟩:ByteArray) ++ ⟨b.toArray⟩=⟨(a ++ b).toArray⟩:=by
 apply ByteArray.ext
 simp
theorem dec_len {n:Nat} (hn:ml n≤65536):(Lib.decDigits n).length≤655360:=by
 rcases Nat.eq_zero_or_pos n with e | e
 ·rw [e,Lib.decDigits_one (by omega)]; simp
 ·have h1:n < 10 ^ (10 * ml n):=by
   refine Nat.lt_of_lt_of_le (lt_ml n) ?_
   rw [Nat.pow_mul]
   exact Nat.pow_le_pow_left (by rw [W32_eq]; decide) _
  have:=topText_le _ _ h1
  rw [topText_pos e] at this
  omega
set_option maxHeartbeats 2000000 in
set_option maxRecDepth 100000 in
theorem NText_neg_one (a:Value) (q:Rat) (w:World) (ha:NRatIs w a q) (h1:ml q.num.natAbs≤65536) (_:ml q.den≤65536) (hs:q.num < 0) (hd:q.den=1) :
 Calls Tryz.prog 28 #[a] w (RetV w (.string ⟨(ratText q).toArray⟩)):=by
 obtain ⟨s1,A1,l1,c1,t1,B1,m1,d1,rfl⟩:=ha.shp
 have F2:Hid (NRatIs w (.agg #[.bool s1, .slice A1 l1 c1, .bool t1, .slice B1 m1 d1]) (q)):=ha
 clear ha
 obtain rfl:s1=true:=F2.out.num.sneg hs
 have H1:Hid (ml q.num.natAbs≤65536):=h1
 obtain rfl:m1=0:=F2.out.den.len0 (denF_one hd)
 have HT:Hid (ratText q=45 :: Lib.decDigits q.num.natAbs):=by unfold Hid ratText Lib.itoa; rw [if_pos hd,if_pos hs]
 obtain ⟨rt,ert⟩:∃ rt,ratText q=rt:=⟨_,rfl⟩
 rw [ert] at HT ⊢
 clear hs hd h1 ert
 go_enter Tryz.func28,Tryz.ntmps28
 go_wp2_with fail
 generalize hwb:World.alloc w _=w4
 obtain ⟨b_B3,hE0⟩:=blocks1 hwb
 clear hwb
 have B3:=zh b_B3
 clear b_B3
 replace F2:=zh (F2.out.ext hE0)
 have HE:=zh hE0
 clear hE0
 have F5:Hid (NumIs w4 (.agg #[.bool true, .slice A1 l1 c1]) ((q).num)):=F2.out.num
 have F8:Hid (MagIs w4 (.slice A1 l1 c1) (((q).num).natAbs)):=F5.out.mag
 refine (Digits_any true A1 l1 c1 _ _ F8.out (by first | exact H1.out | exact H2.out)).mono ?_
 obtain ⟨t7,et7⟩:∃ t,Lib.decDigits (((q).num).natAbs)=t:=⟨_,rfl⟩
 rw [et7]; have hlen7:t7.length≤655360:=by rw [← et7]; exact dec_len (by first | exact H1.out | exact H2.out)
 have Ht7:=zh et7; clear et7
 rintro e w6 ⟨rfl,hF⟩
 replace B3:=zh (B3.out.ext hF)
 replace F2:=zh (F2.out.ext hF)
 replace F5:=zh (F5.out.ext hF)
 replace F8:=zh (F8.out.ext hF)
 replace HE:=zh (HE.out.trans hF)
 clear hF
 obtain ⟨c9_0,c9_1,c9_2,c9_3,f9_0,f9_1,f9_2,f9_3⟩:=B3.out.cell4
 go_wp2
 clear c9_0 c9_1 c9_2 c9_3 f9_0 f9_1 f9_2 f9_3
 go_ret
 refine ⟨?_,HE.out⟩
 rw [HT.out,Ht7.out]
 show Ending.returned (.string ((⟨#[45]⟩:ByteArray) ++ ⟨t7.toArray⟩))=_
 simp only [str_cat]
 rfl
set_option maxHeartbeats 2000000 in
set_option maxRecDepth 100000 in
theorem NText_neg_big (a:Value) (q:Rat) (w:World) (ha:NRatIs w a q) (h1:ml q.num.natAbs≤65536) (h2:ml q.den≤65536) (hs:q.num < 0) (hd:¬ q.den=1) :
 Calls Tryz.prog 28 #[a] w (RetV w (.string ⟨(ratText q).toArray⟩)):=by
 obtain ⟨s1,A1,l1,c1,t1,B1,m1,d1,rfl⟩:=ha.shp
 have F2:Hid (NRatIs w (.agg #[.bool s1, .slice A1 l1 c1, .bool t1, .slice B1 m1 d1]) (q)):=ha
 clear ha
 obtain rfl:s1=true:=F2.out.num.sneg hs
 have H1:Hid (ml q.num.natAbs≤65536):=h1
 have hl:0 < m1:=F2.out.den.lenp (denF_ne hd)
 have hlb:decide ((0:Int) < (m1:Int))=true:=by rw [decide_eq_true_eq]; omega
 have H2:Hid (ml (denF q).natAbs≤65536):=by unfold Hid; rw [denF_big hd,Int.natAbs_natCast]; exact h2
 have HT:Hid (ratText q=(45 :: Lib.decDigits q.num.natAbs) ++ (47 :: Lib.decDigits (denF q).natAbs)):=by
  unfold Hid ratText
  rw [if_neg hd,denF_big hd,Int.natAbs_natCast,Lib.itoa_nonneg]
  unfold Lib.itoa
  rw [if_pos (show q.num < 0 by omega)]
  simp
 obtain ⟨rt,ert⟩:∃ rt,ratText q=rt:=⟨_,rfl⟩
 rw [ert] at HT ⊢
 clear hs hd h1 h2 ert
 go_enter Tryz.func28,Tryz.ntmps28
 go_wp2_with fail
 generalize hwb:World.alloc w _=w4
 obtain ⟨b_B3,hE0⟩:=blocks1 hwb
 clear hwb
 have B3:=zh b_B3
 clear b_B3
 replace F2:=zh (F2.out.ext hE0)
 have HE:=zh hE0
 clear hE0
 have F5:Hid (NumIs w4 (.agg #[.bool true, .slice A1 l1 c1]) ((q).num)):=F2.out.num
 have F8:Hid (MagIs w4 (.slice A1 l1 c1) (((q).num).natAbs)):=F5.out.mag
 refine (Digits_any true A1 l1 c1 _ _ F8.out (by first | exact H1.out | exact H2.out)).mono ?_
 obtain ⟨t7,et7⟩:∃ t,Lib.decDigits (((q).num).natAbs)=t:=⟨_,rfl⟩
 rw [et7]; have hlen7:t7.length≤655360:=by rw [← et7]; exact dec_len (by first | exact H1.out | exact H2.out)
 have Ht7:=zh et7; clear et7
 rintro e w6 ⟨rfl,hF⟩
 replace B3:=zh (B3.out.ext hF)
 replace F2:=zh (F2.out.ext hF)
 replace F5:=zh (F5.out.ext hF)
 replace F8:=zh (F8.out.ext hF)
 replace HE:=zh (HE.out.trans hF)
 clear hF
 obtain ⟨c9_0,c9_1,c9_2,c9_3,f9_0,f9_1,f9_2,f9_3⟩:=B3.out.cell4
 go_wp2_with fail
 clear c9_0 c9_1 c9_2 c9_3 f9_0 f9_1 f9_2 f9_3
 have F10:Hid (NumIs w6 (.agg #[.bool t1, .slice B1 m1 d1]) (denF (q))):=F2.out.den
 have F13:Hid (MagIs w6 (.slice B1 m1 d1) ((denF (q)).natAbs)):=F10.out.mag
 refine (Digits_any t1 B1 m1 d1 _ _ F13.out (by first | exact H1.out | exact H2.out)).mono ?_
 obtain ⟨t12,et12⟩:∃ t,Lib.decDigits ((denF (q)).natAbs)=t:=⟨_,rfl⟩
 rw [et12]; have hlen12:t12.length≤655360:=by rw [← et12]; exact dec_len (by first | exact H1.out | exact H2.out)
 have Ht12:=zh et12; clear et12
 rintro e w11 ⟨rfl,hF⟩
 replace B3:=zh (B3.out.ext hF)
 replace F2:=zh (F2.out.ext hF)
 replace F5:=zh (F5.out.ext hF)
 replace F8:=zh (F8.out.ext hF)
 replace F10:=zh (F10.out.ext hF)
 replace F13:=zh (F13.out.ext hF)
 replace HE:=zh (HE.out.trans hF)
 clear hF
 obtain ⟨c14_0,c14_1,c14_2,c14_3,f14_0,f14_1,f14_2,f14_3⟩:=B3.out.cell4
 go_wp2
 clear c14_0 c14_1 c14_2 c14_3 f14_0 f14_1 f14_2 f14_3
 go_ret
 refine ⟨?_,HE.out⟩
 rw [HT.out,Ht7.out,Ht12.out]
 show Ending.returned (.string (((⟨#[45]⟩:ByteArray) ++ ⟨t7.toArray⟩) ++ ((⟨#[47]⟩:ByteArray) ++ ⟨t12.toArray⟩)))=_
 simp only [str_cat]
 rfl
set_option maxHeartbeats 2000000 in
set_option maxRecDepth 100000 in
theorem NText_pos_one (a:Value) (q:Rat) (w:World) (ha:NRatIs w a q) (h1:ml q.num.natAbs≤65536) (_:ml q.den≤65536) (hs:0≤q.num) (hd:q.den=1) :
 Calls Tryz.prog 28 #[a] w (RetV w (.string ⟨(ratText q).toArray⟩)):=by
 obtain ⟨s1,A1,l1,c1,t1,B1,m1,d1,rfl⟩:=ha.shp
 have F2:Hid (NRatIs w (.agg #[.bool s1, .slice A1 l1 c1, .bool t1, .slice B1 m1 d1]) (q)):=ha
 clear ha
 obtain rfl:s1=false:=F2.out.num.spos hs
 have H1:Hid (ml q.num.natAbs≤65536):=h1
 obtain rfl:m1=0:=F2.out.den.len0 (denF_one hd)
 have HT:Hid (ratText q=Lib.decDigits q.num.natAbs):=by unfold Hid ratText Lib.itoa; rw [if_pos hd,if_neg (show ¬ q.num < 0 by omega)]; rw [show q.num.toNat=q.num.natAbs by omega]
 obtain ⟨rt,ert⟩:∃ rt,ratText q=rt:=⟨_,rfl⟩
 rw [ert] at HT ⊢
 clear hs hd h1 ert
 go_enter Tryz.func28,Tryz.ntmps28
 go_wp2_with fail
 generalize hwb:World.alloc w _=w4
 obtain ⟨b_B3,hE0⟩:=blocks1 hwb
 clear hwb
 have B3:=zh b_B3
 clear b_B3
 replace F2:=zh (F2.out.ext hE0)
 have HE:=zh hE0
 clear hE0
 have F5:Hid (NumIs w4 (.agg #[.bool false, .slice A1 l1 c1]) ((q).num)):=F2.out.num
 have F8:Hid (MagIs w4 (.slice A1 l1 c1) (((q).num).natAbs)):=F5.out.mag
 refine (Digits_any false A1 l1 c1 _ _ F8.out (by first | exact H1.out | exact H2.out)).mono ?_
 obtain ⟨t7,et7⟩:∃ t,Lib.decDigits (((q).num).natAbs)=t:=⟨_,rfl⟩
 rw [et7]; have hlen7:t7.length≤655360:=by rw [← et7]; exact dec_len (by first | exact H1.out | exact H2.out)
 have Ht7:=zh et7; clear et7
 rintro e w6 ⟨rfl,hF⟩
 replace B3:=zh (B3.out.ext hF)
 replace F2:=zh (F2.out.ext hF)
 replace F5:=zh (F5.out.ext hF)
 replace F8:=zh (F8.out.ext hF)
 replace HE:=zh (HE.out.trans hF)
 clear hF
 obtain ⟨c9_0,c9_1,c9_2,c9_3,f9_0,f9_1,f9_2,f9_3⟩:=B3.out.cell4
 go_wp2
 clear c9_0 c9_1 c9_2 c9_3 f9_0 f9_1 f9_2 f9_3
 go_ret
 refine ⟨?_,HE.out⟩
 rw [HT.out,Ht7.out]
 show Ending.returned (.string (⟨t7.toArray⟩:ByteArray))=_
 rfl
set_option maxHeartbeats 2000000 in
set_option maxRecDepth 100000 in
theorem NText_pos_big (a:Value) (q:Rat) (w:World) (ha:NRatIs w a q) (h1:ml q.num.natAbs≤65536) (h2:ml q.den≤65536) (hs:0≤q.num) (hd:¬ q.den=1) :
 Calls Tryz.prog 28 #[a] w (RetV w (.string ⟨(ratText q).toArray⟩)):=by
 obtain ⟨s1,A1,l1,c1,t1,B1,m1,d1,rfl⟩:=ha.shp
 have F2:Hid (NRatIs w (.agg #[.bool s1, .slice A1 l1 c1, .bool t1, .slice B1 m1 d1]) (q)):=ha
 clear ha
 obtain rfl:s1=false:=F2.out.num.spos hs
 have H1:Hid (ml q.num.natAbs≤65536):=h1
 have hl:0 < m1:=F2.out.den.lenp (denF_ne hd)
 have hlb:decide ((0:Int) < (m1:Int))=true:=by rw [decide_eq_true_eq]; omega
 have H2:Hid (ml (denF q).natAbs≤65536):=by unfold Hid; rw [denF_big hd,Int.natAbs_natCast]; exact h2
 have HT:Hid (ratText q=(Lib.decDigits q.num.natAbs) ++ (47 :: Lib.decDigits (denF q).natAbs)):=by
  unfold Hid ratText
  rw [if_neg hd,denF_big hd,Int.natAbs_natCast,Lib.itoa_nonneg]
  unfold Lib.itoa
  rw [if_neg (show ¬ q.num < 0 by omega)]
  rw [show q.num.toNat=q.num.natAbs by omega]
  simp
 obtain ⟨rt,ert⟩:∃ rt,ratText q=rt:=⟨_,rfl⟩
 rw [ert] at HT ⊢
 clear hs hd h1 h2 ert
 go_enter Tryz.func28,Tryz.ntmps28
 go_wp2_with fail
 generalize hwb:World.alloc w _=w4
 obtain ⟨b_B3,hE0⟩:=blocks1 hwb
 clear hwb
 have B3:=zh b_B3
 clear b_B3
 replace F2:=zh (F2.out.ext hE0)
 have HE:=zh hE0
 clear hE0
 have F5:Hid (NumIs w4 (.agg #[.bool false, .slice A1 l1 c1]) ((q).num)):=F2.out.num
 have F8:Hid (MagIs w4 (.slice A1 l1 c1) (((q).num).natAbs)):=F5.out.mag
 refine (Digits_any false A1 l1 c1 _ _ F8.out (by first | exact H1.out | exact H2.out)).mono ?_
 obtain ⟨t7,et7⟩:∃ t,Lib.decDigits (((q).num).natAbs)=t:=⟨_,rfl⟩
 rw [et7]; have hlen7:t7.length≤655360:=by rw [← et7]; exact dec_len (by first | exact H1.out | exact H2.out)
 have Ht7:=zh et7; clear et7
 rintro e w6 ⟨rfl,hF⟩
 replace B3:=zh (B3.out.ext hF)
 replace F2:=zh (F2.out.ext hF)
 replace F5:=zh (F5.out.ext hF)
 replace F8:=zh (F8.out.ext hF)
 replace HE:=zh (HE.out.trans hF)
 clear hF
 obtain ⟨c9_0,c9_1,c9_2,c9_3,f9_0,f9_1,f9_2,f9_3⟩:=B3.out.cell4
 go_wp2_with fail
 clear c9_0 c9_1 c9_2 c9_3 f9_0 f9_1 f9_2 f9_3
 have F10:Hid (NumIs w6 (.agg #[.bool t1, .slice B1 m1 d1]) (denF (q))):=F2.out.den
 have F13:Hid (MagIs w6 (.slice B1 m1 d1) ((denF (q)).natAbs)):=F10.out.mag
 refine (Digits_any t1 B1 m1 d1 _ _ F13.out (by first | exact H1.out | exact H2.out)).mono ?_
 obtain ⟨t12,et12⟩:∃ t,Lib.decDigits ((denF (q)).natAbs)=t:=⟨_,rfl⟩
 rw [et12]; have hlen12:t12.length≤655360:=by rw [← et12]; exact dec_len (by first | exact H1.out | exact H2.out)
 have Ht12:=zh et12; clear et12
 rintro e w11 ⟨rfl,hF⟩
 replace B3:=zh (B3.out.ext hF)
 replace F2:=zh (F2.out.ext hF)
 replace F5:=zh (F5.out.ext hF)
 replace F8:=zh (F8.out.ext hF)
 replace F10:=zh (F10.out.ext hF)
 replace F13:=zh (F13.out.ext hF)
 replace HE:=zh (HE.out.trans hF)
 clear hF
 obtain ⟨c14_0,c14_1,c14_2,c14_3,f14_0,f14_1,f14_2,f14_3⟩:=B3.out.cell4
 go_wp2
 clear c14_0 c14_1 c14_2 c14_3 f14_0 f14_1 f14_2 f14_3
 go_ret
 refine ⟨?_,HE.out⟩
 rw [HT.out,Ht7.out,Ht12.out]
 show Ending.returned (.string ((⟨t7.toArray⟩:ByteArray) ++ ((⟨#[47]⟩:ByteArray) ++ ⟨t12.toArray⟩)))=_
 simp only [str_cat]
 rfl
theorem NText_all (a:Value) (q:Rat) (w:World) (ha:NRatIs w a q) (h1:ml q.num.natAbs≤65536) (h2:ml q.den≤65536):Calls Tryz.prog 28 #[a] w (RetV w (.string ⟨(ratText q).toArray⟩)):=by
 by_cases hs:q.num < 0
 ·by_cases hd:q.den=1
  ·exact NText_neg_one a q w ha h1 h2 hs hd
  ·exact NText_neg_big a q w ha h1 h2 hs hd
 ·by_cases hd:q.den=1
  ·exact NText_pos_one a q w ha h1 h2 (by omega) hd
  ·exact NText_pos_big a q w ha h1 h2 (by omega) hd
end Go.Proofs.YtbgkofgoeoiciaaGreatDoor

namespace Go.Proofs.YtbgkofgoeoiciaaGreatDoor
open Go.RowKit
def RetFD (w:World) (l:List UInt8) (e:Ending) (w':World):Prop :=
 ∃ v b,e=.returned (.tuple #[v, .bool b])∧b=(l.all isDig && !l.isEmpty)∧NumIs w' v (if l.all isDig then (decVal l:Int) else 0)∧Ext w w'
theorem fin_NumB {fn:Func} {t t':Tmp} {tmps:Array Value} {w w':World} {r:Nat} {x y:Value} {b:Bool} {l:List UInt8} (hres:fn.results=#[.cell t 34, .tmp t']) (ht:tmps[t]? = some (.pointer (some ⟨r,0,none⟩))) (ht':tmps[t']? = some (.bool b))
 (hB:Blk 34 w' r #[x,y]) (hI:NumIs w' (.agg #[x,y]) (if l.all isDig then (decVal l:Int) else 0)) (hb:b=(l.all isDig && !l.isEmpty)) (hE:Ext w w'):bodyPost Tryz.prog fn (RetFD w l) .ret ⟨tmps,[]⟩ w':=by
 obtain ⟨h0,h1,_⟩:=hB.cell2
 exact bodyPost_ret (v:=.tuple #[.agg #[x,y], .bool b]) (by simp [results,hres,ht,ht',go_sem,h0,h1]) rfl ⟨_,_,rfl,hb,hI,hE⟩
theorem MagIs.one_pos {w:World} {b r:Nat} (h:Own .u32 216 w b [r]) (hr:r < W32) (h0:0 < r):MagIs w (.slice (some ⟨b,0,none⟩) 1 1) r :=
 ⟨_,[r],1,rfl,Nat.le_refl _,h.shows0,Dig.cons hr Dig.nil,fun k hk=>by simp at hk; subst hk; simp; omega,by simp⟩
theorem ml_ten {n k:Nat} (h:n < 10 ^ k):ml n≤k:=ml_le_iff.2 (Nat.lt_of_lt_of_le h (Nat.pow_le_pow_left (by rw [W32_eq]; omega) _))
theorem toList_empty (s:ByteArray):s.toList.isEmpty=(bytes s).isEmpty:=by
 rw [Lib.toList_data]
def FdIn (l:List UInt8) (i k v f:Nat):Prop:=k≤9∧i + k≤l.length∧(l.take (i + k)).all isDig=true∧v=decVal ((l.drop i).take k)∧f=10 ^ k
theorem FdIn.bounds {l:List UInt8} {i k v f:Nat} (h:FdIn l i k v f):v < 10 ^ k∧v < 1000000000∧f≤1000000000∧0 < f:=by
 obtain ⟨h1,h2,h3,h4,h5⟩:=h
 have hall:((l.drop i).take k).all isDig=true:=by
  rw [List.all_eq_true] at h3 ⊢
  intro x hx
  refine h3 x ?_
  rw [List.take_add]
  exact List.mem_append_right _ hx
 have:=decVal_lt _ hall
 rw [List.length_take,List.length_drop,Nat.min_eq_left (by omega),← h4] at this
 have h6:10 ^ k≤10 ^ 9:=Nat.pow_le_pow_right (by omega) h1
 have h7:0 < 10 ^ k:=Nat.pow_pos (by omega)
 exact ⟨this,by omega,by omega,by omega⟩
theorem FdIn.step {l:List UInt8} {i k v f:Nat} {c:UInt8} (h:FdIn l i k v f) (hk:k < 9) (hlt:i + k < l.length) (hc:l[i + k]=c) (hd:isDig c=true):FdIn l i (k + 1) (v * 10 + (c.toNat - 48)) (f * 10):=by
 obtain ⟨h1,h2,h3,h4,h5⟩:=h
 refine ⟨by omega,by omega,?_,?_,by rw [h5,Nat.pow_succ]⟩
 ·rw [← Nat.add_assoc,List.take_succ_eq_append_getElem hlt,List.all_append,h3,hc]
  simp [hd]
 ·rw [List.take_succ_eq_append_getElem (by simp; omega),decVal_snoc,← h4,List.getElem_drop,hc]
  omega
theorem FdIn.done {l:List UInt8} {i k v f:Nat} (h:FdIn l i k v f):decVal (l.take i) * f + v=decVal (l.take (i + k)):=by
 obtain ⟨h1,h2,h3,h4,h5⟩:=h
 have:l.take (i + k)=l.take i ++ (l.drop i).take k:=by rw [List.take_add]
 rw [this,decVal_append,List.length_take,List.length_drop,Nat.min_eq_left (by omega),← h4,h5]
theorem not_all {l:List UInt8} {i:Nat} (h:i < l.length) (hd:isDig l[i]=false):l.all isDig=false:=by
 rw [List.all_eq_false]
 exact ⟨l[i],List.getElem_mem h,by simp [hd]⟩
set_option maxHeartbeats 2000000 in
set_option maxRecDepth 100000 in
theorem NFromDigits_any (s:ByteArray) (w:World) (hs:s.size≤65536):Calls Tryz.prog 193 #[.string s] w (RetFD w (bytes s)):=by
 have hbl:=zh (bytes_length s)
 go_enter Tryz.func193,Tryz.ntmps193
 go_wp2_with fail
 generalize hwb:World.alloc w _=w1
 obtain ⟨b0,hE0⟩:=blocks1 hwb
 have HB:=zh b0
 have HE:=zh hE0
 clear hwb b0 hE0
 go_loopw [4,5,6,7,8] (fun mv iv _ _ _ wr=>∃ (i:Nat) (A:Option Addr) (ln c:Nat),i≤s.size∧iv=.int .i64 (i:Int)∧mv=.slice A ln c∧Hid (((bytes s).take i).all isDig=true)∧Hid (MagIs wr (.slice A ln c) (decVal ((bytes s).take i)))∧Hid (Ext w1 wr)) (fun _ iv _ _ _ _=>s.size - (intOf iv).toNat)
 case atStart=>exact ⟨0,none,0,0,by omega,rfl,rfl,by unfold Hid; simp,by unfold Hid; simpa [decVal] using MagIs.zero _,Fr.refl _ _⟩
 case round =>
  obtain ⟨i,A,ln,c,hi,rfl,rfl,hall,hM,hF⟩:=hrel
  by_cases hlt:i < s.size
  ·go_wp2
   go_loop [5,6,7,8] (fun iv vv fv kv=>∃ (k v f:Nat),k≤9∧i + k≤s.size∧v < 1000000000∧f≤1000000000∧0 < f∧iv=.int .i64 ((i + k:Nat):Int)∧vv=.int .u32 (v:Int)∧fv=.int .u32 (f:Int)∧kv=.int .i64 (k:Int)∧Hid (FdIn (bytes s) i k v f)) (fun _ _ _ kv=>9 - (intOf kv).toNat)
   case atStart=>exact ⟨0,0,1,by omega,by omega,by omega,by omega,by omega,rfl,rfl,rfl,rfl,⟨by omega,by rw [hbl.out]; omega,hall.out,by simp [decVal],rfl⟩⟩
   case round =>
    obtain ⟨k,v,f,hk,hik,hv,hf,hf0,rfl,rfl,rfl,rfl,hI⟩:=hrel
    by_cases hgo:k < 9∧i + k < s.size
    ·obtain ⟨g1,g2⟩:=hgo
     have gd1:decide ((k:Int) < 9)=true:=by rw [decide_eq_true_eq]; omega
     have hbk:(bytes s)[i + k]'(by rw [hbl.out]; exact g2)=s[i + k]:=bytes_at s g2
     by_cases hd:isDig s[i + k]=true
     ·have HI2:=zh (hI.out.step g1 (by rw [hbl.out]; exact g2) hbk hd)
      have hb:=isDig_bounds hd
      have hb2:=HI2.out.bounds
      have e1:IntKind.u8.wrap ((s[i + k].toNat:Int) - 48)=((s[i + k].toNat - 48:Nat):Int):=by rw [IntKind.wrap_u8]; omega
      have e1':((s[i + k].toNat:Int) - 48) % 256=((s[i + k].toNat - 48:Nat):Int):=by omega
      obtain ⟨d,ed⟩:∃ d,s[i + k].toNat - 48=d:=⟨_,rfl⟩
      have hd9:d≤9:=by omega
      rw [ed] at HI2 e1 e1' hb2
      have hv2:=hb2.2.1
      have hf2:=hb2.2.2.1
      have x1:(i:Int) + (k:Int) < (s.size:Int):=by omega
      have x2:(0:Int)≤(i:Int) + (k:Int):=by omega
      have x3:(48:Int)≤(s[i + k].toNat:Int):=by omega
      have x4:¬ ((s[i + k].toNat:Int) < 48):=by omega
      have x5:¬ ((57:Int) < (s[i + k].toNat:Int)):=by omega
      have x6:decide ((s[i + k].toNat:Int) < 48)=false:=by rw [decide_eq_false_iff_not]; omega
      have x7:decide ((57:Int) < (s[i + k].toNat:Int))=false:=by rw [decide_eq_false_iff_not]; omega
      have x8:((i:Int) + (k:Int)).toNat=i + k:=by omega
      clear hb2 hbk ed hd
      go_wp2
      go_round
      case rel=>exact ⟨k + 1,v * 10 + d,f * 10,by omega,by omega,hv2,hf2,by omega,by go_num,by go_num,by go_num,by go_num,HI2⟩
      case measure=>simp [intOf]; omega
     ·have hno:Hid ((bytes s).all isDig=false):=not_all (by rw [hbl.out]; exact g2) (by rw [hbk]; simpa using hd)
      have HBx:=zh (HB.out.ext hF.out)
      have HEx:=zh (HE.out.trans hF.out)
      obtain ⟨z0,z1,z2,z3⟩:=HBx.out.cell2
      have x1:(i:Int) + (k:Int) < (s.size:Int):=by omega
      have x2:(0:Int)≤(i:Int) + (k:Int):=by omega
      have x8:((i:Int) + (k:Int)).toNat=i + k:=by omega
      have hFin:Hid (∀ tmps:Array Value,tmps[2]? = some (.pointer (some ⟨w.heap.size,0,none⟩))→tmps[3]? = some (.bool false)→bodyPost Tryz.prog Tryz.f193 (RetFD w (bytes s)) .ret ⟨tmps,[]⟩ ((wr.setCell ⟨w.heap.size,0,none⟩ (.bool false)).setCell ⟨w.heap.size,1,none⟩ (.slice none 0 0))):=by
       intro tmps h2 h3
       have hFs:Fr (fun i=>i=w.heap.size) wr ((wr.setCell ⟨w.heap.size,0,none⟩ (.bool false)).setCell ⟨w.heap.size,1,none⟩ (.slice none 0 0)):=((Fr.refl (fun i=>i=w.heap.size) _).setCell (p:=⟨w.heap.size,0,none⟩) (Or.inl rfl) _).setCell (p:=⟨w.heap.size,1,none⟩) (Or.inl rfl) _
       refine fin_NumB rfl h2 h3 ((HBx.out.set_ 0 _).set_ 1 _) ?_ (by rw [hno.out]; rfl) (HEx.out.next hFs (fun i hi e=>by omega))
       rw [hno.out]; exact NumIs.nil _
      by_cases hlo:s[i + k].toNat < 48
      ·have x3:(s[i + k].toNat:Int) < 48:=by omega
       have x6:decide ((s[i + k].toNat:Int) < 48)=true:=by rw [decide_eq_true_eq]; omega
       clear hbk hd hno
       go_wp2
       exact hFin.out _ rfl rfl
      ·have hhi:57 < s[i + k].toNat:=by
        have:isDig s[i + k]=false:=by simpa using hd
        unfold isDig at this
        simp at this
        omega
       have x3:¬ ((s[i + k].toNat:Int) < 48):=by omega
       have x4:(57:Int) < (s[i + k].toNat:Int):=by omega
       have x6:decide ((s[i + k].toNat:Int) < 48)=false:=by rw [decide_eq_false_iff_not]; omega
       have x7:decide ((57:Int) < (s[i + k].toNat:Int))=true:=by rw [decide_eq_true_eq]; omega
       clear hbk hd hno
       go_wp2
       exact hFin.out _ rfl rfl
    ·have hk1:1≤k:=by
      rcases Nat.eq_zero_or_pos k with e | e
      ·subst e; exact absurd ⟨by omega,by omega⟩ hgo
      ·exact e
     have hfW:Hid (f < W32):=by unfold Hid; rw [W32_eq]; omega
     have hvW:Hid (v < W32):=by unfold Hid; rw [W32_eq]; omega
     have hml1:Hid (ml (decVal ((bytes s).take i))≤1048576):=by
      have h1:=ml_ten (decVal_lt _ hall.out)
      rw [List.length_take,hbl.out] at h1
      unfold Hid; omega
     have hmlf:Hid (ml f≤1048576):=by
      have:=ml_le_iff (n:=f) (k:=1)
      rw [Nat.pow_one] at this
      have:=this.2 hfW.out
      unfold Hid; omega
     have hmlv:Hid (ml v≤1048576):=by
      have:=ml_le_iff (n:=v) (k:=1)
      rw [Nat.pow_one] at this
      have:=this.2 hvW.out
      unfold Hid; omega
     have hdone:=zh hI.out.done
     have hall2:Hid (((bytes s).take (i + k)).all isDig=true):=hI.out.2.2.1
     have hml2:Hid (ml (decVal ((bytes s).take i) * f)≤1048576):=by
      have h1:=ml_ten (decVal_lt _ hall2.out)
      rw [List.length_take,hbl.out] at h1
      have h2:=ml_mono (show decVal ((bytes s).take i) * f≤decVal ((bytes s).take (i + k)) by have:=hdone.out; omega)
      unfold Hid; omega
     have hF0:Hid (0 < f):=hf0
     by_cases h9:k < 9
     ·have g2:¬ ((i:Int) + (k:Int) < (s.size:Int)):=by omega
      have gd1:decide ((k:Int) < 9)=true:=by rw [decide_eq_true_eq]; omega
      have gd2:decide ((i:Int) + (k:Int) < (s.size:Int))=false:=by rw [decide_eq_false_iff_not]; omega
      clear hgo hI
      go_wp2_with fail
      generalize hwb:World.alloc wr _=w2
      have hO2:Own .u32 216 w2 wr.heap.size [f]:=hwb ▸ Own.new wr 216 .u32 [f] []
      have hF2:Ext wr w2:=hwb ▸ (Fr.refl _ _).alloc _
      clear hwb
      refine (mulMag_any _ _ (decVal ((bytes s).take i)) f _ (hM.out.ext hF2) (MagIs.one_pos hO2 hfW.out hF0.out) hml1.out hmlf.out).mono ?_
      rintro e w3 ⟨_,rfl,hN3,hF3⟩
      obtain ⟨A3,l3,c3,rfl⟩:=hN3.slice
      have HN3:=zh hN3
      have HF3:=zh ((hF.out.trans hF2).trans hF3)
      clear hN3 hF3 hF2 hO2
      go_wp2_with fail
      generalize hwb:World.alloc w3 _=w4
      have hO4:Own .u32 216 w4 w3.heap.size [v]:=hwb ▸ Own.new w3 216 .u32 [v] []
      have hF4:Ext w3 w4:=hwb ▸ (Fr.refl _ _).alloc _
      clear hwb
      refine (trim32_any _ [v] 1 1 _ rfl hO4.shows0 (by simp) (by simp)).mono ?_
      rintro e w5 ⟨rfl,rfl⟩
      have HV4:=zh (MagIs.one hO4 hvW.out)
      have HN4:=zh (HN3.out.ext hF4)
      have HF4:=zh (HF3.out.trans hF4)
      clear hO4 hF4 HN3 HF3
      go_wp2_with fail
      refine (addMag_any _ _ _ _ _ HN4.out HV4.out hml2.out hmlv.out).mono ?_
      rintro e w6 ⟨_,rfl,hN6,hF6⟩
      rw [hdone.out] at hN6
      obtain ⟨A6,l6,c6,rfl⟩:=hN6.slice
      have HN6:=zh hN6
      have HF6:=zh (HF4.out.trans hF6)
      clear hN6 hF6
      go_wp2
      go_roundw
      case rel=>exact ⟨i + k,A6,l6,c6,by omega,by go_num,rfl,hall2,HN6,HF6⟩
      case measure=>simp [intOf]; omega
     ·have g2:¬ ((k:Int) < 9):=by omega
      have gd1:decide ((k:Int) < 9)=false:=by rw [decide_eq_false_iff_not]; omega
      clear hgo hI
      go_wp2_with fail
      generalize hwb:World.alloc wr _=w2
      have hO2:Own .u32 216 w2 wr.heap.size [f]:=hwb ▸ Own.new wr 216 .u32 [f] []
      have hF2:Ext wr w2:=hwb ▸ (Fr.refl _ _).alloc _
      clear hwb
      refine (mulMag_any _ _ (decVal ((bytes s).take i)) f _ (hM.out.ext hF2) (MagIs.one_pos hO2 hfW.out hF0.out) hml1.out hmlf.out).mono ?_
      rintro e w3 ⟨_,rfl,hN3,hF3⟩
      obtain ⟨A3,l3,c3,rfl⟩:=hN3.slice
      have HN3:=zh hN3
      have HF3:=zh ((hF.out.trans hF2).trans hF3)
      clear hN3 hF3 hF2 hO2
      go_wp2_with fail
      generalize hwb:World.alloc w3 _=w4
      have hO4:Own .u32 216 w4 w3.heap.size [v]:=hwb ▸ Own.new w3 216 .u32 [v] []
      have hF4:Ext w3 w4:=hwb ▸ (Fr.refl _ _).alloc _
      clear hwb
      refine (trim32_any _ [v] 1 1 _ rfl hO4.shows0 (by simp) (by simp)).mono ?_
      rintro e w5 ⟨rfl,rfl⟩
      have HV4:=zh (MagIs.one hO4 hvW.out)
      have HN4:=zh (HN3.out.ext hF4)
      have HF4:=zh (HF3.out.trans hF4)
      clear hO4 hF4 HN3 HF3
      go_wp2_with fail
      refine (addMag_any _ _ _ _ _ HN4.out HV4.out hml2.out hmlv.out).mono ?_
      rintro e w6 ⟨_,rfl,hN6,hF6⟩
      rw [hdone.out] at hN6
      obtain ⟨A6,l6,c6,rfl⟩:=hN6.slice
      have HN6:=zh hN6
      have HF6:=zh (HF4.out.trans hF6)
      clear hN6 hF6
      go_wp2
      go_roundw
      case rel=>exact ⟨i + k,A6,l6,c6,by omega,by go_num,rfl,hall2,HN6,HF6⟩
      case measure=>simp [intOf]; omega
  ·obtain rfl:i=s.size:=by omega
   have e1:(bytes s).take s.size=bytes s:=List.take_of_length_le (by rw [hbl.out]; exact Nat.le_refl _)
   have HA:Hid ((bytes s).all isDig=true):=by have:=hall.out; rw [e1] at this; exact this
   have HM:Hid (MagIs wr (.slice A ln c) (decVal (bytes s))):=by have:=hM.out; rw [e1] at this; exact this
   have HBx:=zh (HB.out.ext hF.out)
   have HEx:=zh (HE.out.trans hF.out)
   have hbe:=zh (toList_empty s)
   clear e1 hall hM
   go_wp2_with fail
   refine (make1_ret false _ _ _ HM.out).mono ?_
   rintro e w2 ⟨_,rfl,hI,hF2⟩
   obtain ⟨s2,A2,l2,c2,rfl⟩:=hI.shp
   have HI:=zh hI
   have HB':=zh (HBx.out.ext hF2)
   have HE':=zh (HEx.out.trans hF2)
   obtain ⟨k0,k1,k2,k3⟩:=HB'.out.cell2
   clear hI hF2
   go_wp2
   have hFs:Fr (fun i=>i=w.heap.size) w2 ((w2.setCell ⟨w.heap.size,0,none⟩ (.bool s2)).setCell ⟨w.heap.size,1,none⟩ (.slice A2 l2 c2)):=((Fr.refl (fun i=>i=w.heap.size) _).setCell (p:=⟨w.heap.size,0,none⟩) (Or.inl rfl) _).setCell (p:=⟨w.heap.size,1,none⟩) (Or.inl rfl) _
   refine fin_NumB (b := !s.toList.isEmpty) rfl rfl rfl ((HB'.out.set_ 0 _).set_ 1 _) ?_ (by rw [HA.out,hbe.out]; rfl) (HE'.out.next hFs (fun i hi e=>by omega))
   rw [HA.out]
   exact HI.out.oth HB'.out noRow2 hFs
end Go.Proofs.YtbgkofgoeoiciaaGreatDoor

namespace Go.Proofs.YtbgkofgoeoiciaaGreatDoor
open Go.RowKit
theorem small_fits {q:Rat} {k:Nat} (h:q.num.natAbs < 10 ^ k∧q.den < 10 ^ k) (hk:k≤100000):RFits q:=⟨Nat.le_trans (ml_ten h.1) hk,Nat.le_trans (ml_ten h.2) hk⟩
theorem sText {k:Nat} {a:Value} {q:Rat} {w:World} (ha:NRatIs w a q) (h:q.num.natAbs < 10 ^ k∧q.den < 10 ^ k) (hk:k≤65536):Calls Tryz.prog 28 #[a] w (RetV w (.string ⟨(ratText q).toArray⟩)) :=
 NText_all a q w ha (Nat.le_trans (ml_ten h.1) hk) (Nat.le_trans (ml_ten h.2) hk)
end Go.Proofs.YtbgkofgoeoiciaaGreatDoor

namespace Go.Proofs.YtbgkofgoeoiciaaGreatDoor
open Go.RowKit
def Free (m:Nat):Prop:=∀ j,2≤j→¬ j * j ∣ m
structure SqF (d r m:Nat):Prop where
 mul:r * r * m=d
 pos:0 < d
 free:Free m
theorem sq_unique {r m r' m':Nat} (hr:0 < r) (hr':0 < r') (h:r * r * m=r' * r' * m') (hm:Free m) (hm':Free m'):r=r':=by
 have hg:0 < Nat.gcd r r':=Nat.gcd_pos_of_pos_left _ hr
 have hc:=Nat.coprime_div_gcd_div_gcd (m:=r) (n:=r') hg
 obtain ⟨a,ha⟩:=Nat.gcd_dvd_left r r'
 obtain ⟨b,hb⟩:=Nat.gcd_dvd_right r r'
 generalize Nat.gcd r r'=g at hg hc ha hb
 subst ha hb
 rw [Nat.mul_div_cancel_left _ hg,Nat.mul_div_cancel_left _ hg] at hc
 have h2:a * a * m=b * b * m':=by
  refine Nat.eq_of_mul_eq_mul_left (Nat.mul_pos hg hg) ?_
  grind
 have cc:Nat.Coprime (a * a) (b * b):=(hc.mul_right hc).mul_left (hc.mul_right hc)
 have d1:a * a ∣ m':=cc.dvd_of_dvd_mul_left ⟨m,h2.symm⟩
 have d2:b * b ∣ m:=cc.symm.dvd_of_dvd_mul_left ⟨m',h2⟩
 have a1:a≠0:=fun e=>by subst e; omega
 have b1:b≠0:=fun e=>by subst e; omega
 have a2:¬ 2≤a:=fun e=>hm' _ e d1
 have b2:¬ 2≤b:=fun e=>hm _ e d2
 have:a=b:=by omega
 rw [this]
theorem SqF.rpos {d r m:Nat} (h:SqF d r m):0 < r∧0 < m:=by
 have h1:=h.mul; have h2:=h.pos
 refine ⟨Nat.pos_of_ne_zero fun e=>?_,Nat.pos_of_ne_zero fun e=>?_⟩<;>subst e<;>simp at h1<;>omega
theorem SqF.le {d r m:Nat} (h:SqF d r m):r≤d∧m≤d:=by
 have h1:=h.rpos; have h2:=h.mul
 have h3:=Nat.le_mul_of_pos_right (r * r) h1.2
 have h4:=Nat.le_mul_of_pos_right r h1.1
 have h5:=Nat.le_mul_of_pos_left m (Nat.mul_pos h1.1 h1.1)
 omega
theorem SqF.eq {d r m r' m':Nat} (h:SqF d r m) (h':SqF d r' m'):r=r'∧m=m':=by
 have e:r=r':=sq_unique h.rpos.1 h'.rpos.1 (h.mul.trans h'.mul.symm) h.free h'.free
 subst e
 exact ⟨rfl,Nat.eq_of_mul_eq_mul_left (Nat.mul_pos h.rpos.1 h.rpos.1) (h.mul.trans h'.mul.symm)⟩
theorem sqf_exists:∀ n d:Nat,d≤n→0 < d→∃ r m,SqF d r m:=by
 intro n
 induction n with
 | zero=>intro d h1 h2; omega
 | succ n ih =>
   intro d h1 h2
   by_cases hf:Free d
   ·exact ⟨1,d,by omega,h2,hf⟩
   ·unfold Free at hf
    have:∃ j,2≤j∧j * j ∣ d:=Classical.byContradiction fun hn=>hf fun j hj hd=>hn ⟨j,hj,hd⟩
    obtain ⟨j,hj,q,hq⟩:=this
    have q0:0 < q:=Nat.pos_of_ne_zero fun e=>by subst e; omega
    have j4:2 * 2≤j * j:=Nat.mul_le_mul hj hj
    have:q < d:=by rw [hq]; have:=Nat.mul_le_mul_right q j4; omega
    obtain ⟨r,m,hs⟩:=ih q (by omega) q0
    exact ⟨j * r,m,by rw [hq,← hs.mul]; grind,h2,hs.free⟩
def FreeTo (k m:Nat):Prop:=∀ j,2≤j→j < k→¬ j * j ∣ m
theorem FreeTo.next {k m:Nat} (h:FreeTo k m) (hk:¬ k * k ∣ m):FreeTo (k + 1) m:=fun j h1 h2 hd=>by
 by_cases e:j=k
 ·subst e; exact hk hd
 ·exact h j h1 (by omega) hd
theorem FreeTo.div {k m:Nat} (h:FreeTo k m) (hk:k * k ∣ m):FreeTo k (m / (k * k)):=fun j h1 h2 hd =>
 h j h1 h2 (Nat.dvd_trans hd (Nat.div_dvd_of_dvd hk))
theorem FreeTo.free {k m:Nat} (h:FreeTo k m) (h0:0 < m) (hk:m < k * k):Free m:=fun j h1 hd=>by
 by_cases e:j < k
 ·exact h j h1 e hd
 ·have:=Nat.le_of_dvd h0 hd
  have:=Nat.mul_le_mul (show k≤j by omega) (show k≤j by omega)
  omega
theorem FreeTo.two (m:Nat):FreeTo 2 m:=fun j h1 h2=>by omega
theorem Free.no {k m:Nat} (h:Free m) (hk:2≤k):m % (k * k)≠0:=fun e=>h k hk (Nat.dvd_of_mod_eq_zero e)
theorem num_cast (a:Rat):(a.num:Rat)=a * ((a.den:Int):Rat):=by
 have h:mkRat a.num a.den=a:=Rat.mkRat_self a
 have h0:((a.den:Int):Rat)≠0:=fun e=>a.den_nz (by have:=Rat.intCast_inj.1 (e.trans Rat.intCast_zero.symm); omega)
 have h2:Rat.divInt a.num (a.den:Int)=a:=Rat.num_divInt_den a
 rw [Rat.divInt_eq_div] at h2
 rw [Rat.div_def] at h2
 have h3:=Rat.inv_mul_cancel _ h0
 grind
def nrm (a b:Rat) (d:Int):Rat:=a * a + b * (-b) * (d:Rat)
theorem nrm_nz {a b:Rat} {d:Int} (hd:2≤d) (hf:Free d.toNat) (hb:¬ (a=0∧b=0)):nrm a b d≠0:=by
 intro h
 unfold nrm at h
 have ha:=num_cast a
 have hb':=num_cast b
 have h1:((a.num * b.den) * (a.num * b.den):Int)=(b.num * a.den) * (b.num * a.den) * d:=by
  apply Rat.intCast_inj.1
  simp only [Rat.intCast_mul]
  rw [ha,hb']
  generalize ((a.den:Int):Rat)=x at *
  generalize ((b.den:Int):Rat)=y at *
  grind
 have h2:(a.num * b.den).natAbs * (a.num * b.den).natAbs * 1=(b.num * a.den).natAbs * (b.num * a.den).natAbs * d.toNat:=by
  have:=congrArg Int.natAbs h1
  rw [Int.natAbs_mul,Int.natAbs_mul _ d,Int.natAbs_mul (b.num * _)] at this
  rw [Nat.mul_one,this]
  congr 1; omega
 have f1:Free 1:=fun j hj hd=>by
  have:=Nat.le_of_dvd (by omega) hd
  have:=Nat.mul_le_mul hj hj
  omega
 by_cases hz:b.num=0
 ·have e:b=0:=Rat.num_eq_zero.1 hz
  subst e
  refine hb ⟨?_,rfl⟩
  have:a * a=0:=by grind
  grind
 ·have n0:0 < (b.num * a.den).natAbs:=by
   have:=Int.mul_ne_zero hz (denI a); omega
  have m0:0 < (a.num * b.den).natAbs:=by
   refine Nat.pos_of_ne_zero fun e=>?_
   rw [e] at h2
   have:=Nat.mul_pos (Nat.mul_pos n0 n0) (show 0 < d.toNat by omega)
   omega
  have e:=sq_unique m0 n0 h2 f1 hf
  rw [e] at h2
  have:=Nat.eq_of_mul_eq_mul_left (Nat.mul_pos n0 n0) h2
  omega
-- signs
def sg3 (q:Rat):Int:=q.num.sign
theorem sg3_pos {q:Rat}:sg3 q=1 ↔ 0 < q:=by
 unfold sg3
 rw [Int.sign_eq_one_iff_pos,Rat.lt_iff]; simp
theorem sg3_neg {q:Rat}:sg3 q = -1 ↔ q < 0:=by
 unfold sg3
 rw [Int.sign_eq_neg_one_iff_neg,Rat.lt_iff]; simp
theorem sg3_zero {q:Rat}:sg3 q=0 ↔ q=0:=by
 unfold sg3
 rw [Int.sign_eq_zero_iff_zero,Rat.num_eq_zero]
theorem sg3_cases (q:Rat):(q < 0∧sg3 q = -1)∨(q=0∧sg3 q=0)∨(0 < q∧sg3 q=1):=by
 rcases sign3 q.num with ⟨_,h⟩ | ⟨_,h⟩ | ⟨_,h⟩
 ·exact Or.inl ⟨sg3_neg.1 h,h⟩
 ·exact Or.inr (Or.inl ⟨sg3_zero.1 h,h⟩)
 ·exact Or.inr (Or.inr ⟨sg3_pos.1 h,h⟩)
end Go.Proofs.YtbgkofgoeoiciaaGreatDoor

namespace Go.Proofs.YtbgkofgoeoiciaaGreatDoor
open Go.RowKit
structure Sd where
 a:Rat
 b:Rat
 d:Int
def nv (a b:Rat) (d:Int):Sd:=if b=0 then ⟨a,0,1⟩ else ⟨a,b,d⟩
namespace Sd
def times (x y:Sd):Sd:=nv (x.a * y.a + x.b * y.b * ((max x.d y.d:Int):Rat)) (x.a * y.b + x.b * y.a) (max x.d y.d)
def neg (x:Sd):Sd:=⟨-x.a,-x.b,x.d⟩
def conj (x:Sd):Sd:=⟨x.a,-x.b,x.d⟩
def norm (x:Sd):Rat:=(x.times x.conj).a
def sgn (x:Sd):Int :=
 if x.b.num.sign=0∨x.a.num.sign=x.b.num.sign then x.a.num.sign
 else if x.a.num.sign=0 then x.b.num.sign
 else if 0 < x.norm.num.sign then x.a.num.sign else x.b.num.sign
-- the reference
def build (a b:Rat) (d:Int):Sd:=if d=1 then ⟨a + b,0,1⟩ else if b=0 then ⟨a,0,1⟩ else ⟨a,b,d⟩
def fld (d e:Int):Int:=if d=1∨d=e then e else if e=1 then d else 0
def rtimes (x y:Sd):Sd:=build (x.a * y.a + ((fld x.d y.d:Int):Rat) * (x.b * y.b)) (x.a * y.b + x.b * y.a) (fld x.d y.d)
def rnorm (x:Sd):Rat:=(x.rtimes x.conj).a
def rsgn (x:Sd):Int :=
 if x.a.num.sign=0∨x.b.num.sign=0∨x.a.num.sign=x.b.num.sign then (if x.a.num.sign=0 then x.b.num.sign else x.a.num.sign)
 else x.a.num.sign * (x.a * x.a - ((x.d:Int):Rat) * (x.b * x.b)).num.sign
def Ok (x:Sd):Prop:=(x.d=1∧x.b=0)∨(2≤x.d∧x.d≤1000000∧x.b≠0∧Free x.d.toNat)
end Sd
open Sd
structure Fld (D:Int):Prop where
 two:2≤D
 top:D≤1000000
 free:Free D.toNat
def Blg (d e:Int):Prop:=d=1∨e=1∨d=e
theorem nv_a (a b:Rat) (d:Int):(nv a b d).a=a:=by unfold nv; split<;>rfl
theorem nv_b (a b:Rat) (d:Int):(nv a b d).b=b:=by unfold nv; split<;>simp_all
theorem nv_zero (a:Rat) (d:Int):nv a 0 d=⟨a,0,1⟩:=by unfold nv; rw [if_pos rfl]
theorem nv_nz {b:Rat} (a:Rat) (d:Int) (h:b≠0):nv a b d=⟨a,b,d⟩:=by unfold nv; rw [if_neg h]
theorem nv_congr {a a' b b':Rat} {d:Int} (h1:a=a') (h2:b=b'):nv a b d=nv a' b' d:=by rw [h1,h2]
theorem nv_d {a b:Rat} {d e:Int} (h:b=0∨d=e):nv a b d=nv a b e:=by
 rcases h with h | h
 ·subst h; rw [nv_zero,nv_zero]
 ·rw [h]
theorem Fld.nv_ok {D:Int} (h:Fld D) (a b:Rat):(nv a b D).Ok:=by
 unfold nv
 split
 ·exact Or.inl ⟨rfl,rfl⟩
 ·rename_i hb; exact Or.inr ⟨h.two,h.top,hb,h.free⟩
theorem two_field:Fld 2:=⟨by decide,by decide,fun j hj hd=>by
 have:=Nat.le_of_dvd (by decide) hd
 have:=Nat.mul_le_mul hj hj
 have e:(2:Int).toNat=2:=rfl
 omega⟩
theorem Sd.Ok.field {x:Sd} (h:x.Ok):∃ D,Fld D∧(x.d=1∨x.d=D)∧∀ E,(x.d=1∨x.d=E)→x=nv x.a x.b E:=by
 obtain ⟨a,b,d⟩:=x
 rcases h with ⟨h1,h2⟩ | ⟨h1,h2,h3,h4⟩
 ·simp only at h1 h2
  subst h1 h2
  exact ⟨2,two_field,Or.inl rfl,fun E _=>(nv_zero _ _).symm⟩
 ·exact ⟨d,⟨h1,h2,h4⟩,Or.inr rfl,fun E hE=>by
   simp only at hE h1 h3 ⊢
   have:d=E:=by omega
   subst this
   exact (nv_nz a d h3).symm⟩
theorem nvd_cases {D:Int} (_h:Fld D) (a b:Rat):(b=0∧nv a b D=⟨a,0,1⟩)∨(b≠0∧nv a b D=⟨a,b,D⟩):=by
 by_cases e:b=0
 ·subst e; exact Or.inl ⟨rfl,nv_zero _ _⟩
 ·exact Or.inr ⟨e,nv_nz _ _ e⟩
section
variable {D:Int} (h:Fld D) (a b a' b':Rat)
include h
theorem max_nv:(b=0∧b'=0∧max (nv a b D).d (nv a' b' D).d=1)∨max (nv a b D).d (nv a' b' D).d=D:=by
 have:=h.two
 rcases nvd_cases h a b with ⟨h1,e⟩ | ⟨_,e⟩<;>rcases nvd_cases h a' b' with ⟨h2,f⟩ | ⟨_,f⟩<;>rw [e,f]
 ·exact Or.inl ⟨h1,h2,rfl⟩
 ·exact Or.inr (by show max 1 D=D; omega)
 ·exact Or.inr (by show max D 1=D; omega)
 ·exact Or.inr (by show max D D=D; omega)
theorem fld_nv:(b=0∧b'=0∧fld (nv a b D).d (nv a' b' D).d=1)∨fld (nv a b D).d (nv a' b' D).d=D:=by
 have:=h.two
 rcases nvd_cases h a b with ⟨h1,e⟩ | ⟨_,e⟩<;>rcases nvd_cases h a' b' with ⟨h2,f⟩ | ⟨_,f⟩<;>rw [e,f]
 ·exact Or.inl ⟨h1,h2,rfl⟩
 ·exact Or.inr (by show fld 1 D=D; unfold fld; rw [if_pos (Or.inl rfl)])
 ·exact Or.inr (by show fld D 1=D; unfold fld; rw [if_neg (by omega),if_pos rfl])
 ·exact Or.inr (by show fld D D=D; unfold fld; rw [if_pos (Or.inr rfl)])
theorem times_nv:(nv a b D).times (nv a' b' D)=nv (a * a' + b * b' * (D:Rat)) (a * b' + b * a') D:=by
 unfold Sd.times
 rw [nv_a,nv_a,nv_b,nv_b]
 rcases max_nv h a b a' b' with ⟨h1,h2,e⟩ | e
 ·rw [e]; subst h1 h2
  rw [nv_d (e:=D) (Or.inl (by grind))]
  exact nv_congr (by grind) rfl
 ·rw [e]
theorem neg_nv:(nv a b D).neg=nv (-a) (-b) D:=by
 rcases nvd_cases h a b with ⟨h1,e⟩ | ⟨h1,e⟩<;>rw [e]
 ·subst h1
  rw [show (-0:Rat)=0 from rfl,nv_zero]; rfl
 ·rw [nv_nz _ _ (by grind)]; rfl
theorem conj_nv:(nv a b D).conj=nv a (-b) D:=by
 rcases nvd_cases h a b with ⟨h1,e⟩ | ⟨h1,e⟩<;>rw [e]
 ·subst h1
  rw [show (-0:Rat)=0 from rfl,nv_zero]; rfl
 ·rw [nv_nz _ _ (by grind)]; rfl
theorem norm_nv:(nv a b D).norm=nrm a b D:=by
 unfold Sd.norm
 rw [conj_nv h,times_nv h,nv_a]; rfl
theorem build_nv (e:Int) (he:(b=0∧e=1)∨e=D):Sd.build a b e=nv a b D:=by
 have:=h.two
 unfold Sd.build
 rcases he with ⟨h1,h2⟩ | h2
 ·rw [if_pos h2,h1,nv_zero,Rat.add_zero]
 ·subst h2; rw [if_neg (by omega)]; rfl
theorem rtimes_nv:(nv a b D).rtimes (nv a' b' D)=nv (a * a' + b * b' * (D:Rat)) (a * b' + b * a') D:=by
 unfold Sd.rtimes
 rw [nv_a,nv_a,nv_b,nv_b]
 rcases fld_nv h a b a' b' with ⟨h1,h2,e⟩ | e
 ·rw [e]; subst h1 h2
  rw [build_nv h _ _ _ (Or.inl ⟨by grind,rfl⟩)]
  exact nv_congr (by grind) rfl
 ·rw [e,build_nv h _ _ _ (Or.inr rfl)]
  exact nv_congr (by grind) rfl
theorem rnorm_nv:(nv a b D).rnorm=nrm a b D:=by
 unfold Sd.rnorm
 rw [conj_nv h,rtimes_nv h,nv_a]; rfl
theorem sgn_nv:(0 < nrm a b D∧(nv a b D).sgn=sg3 a)∨(nrm a b D < 0∧(nv a b D).sgn=sg3 b)∨(a=0∧b=0∧nrm a b D=0∧(nv a b D).sgn=0):=by
 have hD:(0:Rat) < (D:Rat):=Rat.intCast_pos.2 (by have:=h.two; omega)
 have sq:∀ q:Rat,q≠0→0 < q * q:=fun q hq=>by
  rcases sg3_cases q with ⟨k,_⟩ | ⟨k,_⟩ | ⟨k,_⟩
  ·have:=Rat.mul_pos (show 0 < -q by grind) (show 0 < -q by grind); grind
  ·exact absurd k hq
  ·exact Rat.mul_pos k k
 unfold Sd.sgn
 rw [norm_nv h,nv_a,nv_b]
 change _∨_
 by_cases h0:a=0∧b=0
 ·obtain ⟨rfl,rfl⟩:=h0
  exact Or.inr (Or.inr ⟨rfl,rfl,by unfold nrm; grind,rfl⟩)
 have hn:=nrm_nz h.two h.free h0
 have e1:∀ q:Rat,q.num.sign=sg3 q:=fun q=>rfl
 simp only [e1]
 by_cases hb:b=0
 ·subst hb
  have ha:a≠0:=fun e=>h0 ⟨e,rfl⟩
  refine Or.inl ⟨?_,if_pos (Or.inl rfl)⟩
  have:=sq a ha
  unfold nrm; grind
 have hb3:sg3 b≠0:=fun e=>hb (sg3_zero.1 e)
 by_cases ha:a=0
 ·subst ha
  refine Or.inr (Or.inl ⟨?_,?_⟩)
  ·have:=Rat.mul_pos (sq b hb) hD
   unfold nrm; grind
  ·rw [if_neg (by rintro (e | e)
                  ·exact hb3 e
                  ·exact hb3 (e.symm.trans rfl)),if_pos (show sg3 (0:Rat)=0 from rfl)]
 have ha3:sg3 a≠0:=fun e=>ha (sg3_zero.1 e)
 rcases sg3_cases (nrm a b D) with ⟨k,k3⟩ | ⟨k,k3⟩ | ⟨k,k3⟩
 ·refine Or.inr (Or.inl ⟨k,?_⟩)
  split
  ·rename_i hc; rcases hc with hc | hc
   ·exact absurd hc hb3
   ·exact hc
  ·rw [if_neg (by rw [k3]; decide)]
 ·exact absurd k hn
 ·refine Or.inl ⟨k,?_⟩
  split
  ·rfl
  ·rw [if_pos (by rw [k3]; decide)]
theorem rsgn_nv:(nv a b D).rsgn=(nv a b D).sgn:=by
 have hS:=sgn_nv h a b
 have e1:∀ q:Rat,q.num.sign=sg3 q:=fun q=>rfl
 unfold Sd.rsgn
 rw [nv_a,nv_b]
 simp only [e1]
 by_cases hb:b=0
 ·subst hb
  have hz:sg3 (0:Rat)=0:=rfl
  rw [if_pos (Or.inr (Or.inl hz)),hz]
  rcases hS with ⟨k,e⟩ | ⟨k,e⟩ | ⟨k1,k2,k3,e⟩
  ·rw [e]; split
   ·rename_i e; exact e.symm
   ·rfl
  ·exfalso
   have hq:nrm a 0 D=a * a:=by unfold nrm; grind
   rw [hq] at k
   rcases sg3_cases a with ⟨j,_⟩ | ⟨j,_⟩ | ⟨j,_⟩
   ·have:=Rat.mul_pos (show 0 < -a by grind) (show 0 < -a by grind); grind
   ·subst j; grind
   ·have:=Rat.mul_pos j j; grind
  ·rw [e,k1,hz]; rfl
 rw [nv_nz _ _ hb] at hS ⊢
 simp only []
 rw [show a * a - (D:Rat) * (b * b)=nrm a b D by unfold nrm; grind]
 have hb3:sg3 b≠0:=fun e=>hb (sg3_zero.1 e)
 rcases hS with ⟨k,e⟩ | ⟨k,e⟩ | ⟨k1,k2,k3,e⟩
 ·rw [e,sg3_pos.2 k]
  split
  ·split
   ·rename_i hc hz; exfalso
    have:=sg3_zero.1 hz; subst this
    have hD:(0:Rat) < (D:Rat):=Rat.intCast_pos.2 (by have:=h.two; omega)
    have hbb:0 < b * b:=by
     rcases sg3_cases b with ⟨j,_⟩ | ⟨j,_⟩ | ⟨j,_⟩
     ·have:=Rat.mul_pos (show 0 < -b by grind) (show 0 < -b by grind); grind
     ·exact absurd j hb
     ·exact Rat.mul_pos j j
    have:=Rat.mul_pos hbb hD
    unfold nrm at k; grind
   ·rfl
  ·omega
 ·rw [e,sg3_neg.2 k]
  split
  ·rename_i hc
   split
   ·rfl
   ·rename_i hz
    rcases hc with hc | hc | hc
    ·exact absurd hc hz
    ·exact absurd hc hb3
    ·exact hc
  ·rename_i hc
   have hA:sg3 a = -1∨sg3 a=0∨sg3 a=1:=by rcases sg3_cases a with ⟨_,j⟩ | ⟨_,j⟩ | ⟨_,j⟩<;>omega
   have hB:sg3 b = -1∨sg3 b=0∨sg3 b=1:=by rcases sg3_cases b with ⟨_,j⟩ | ⟨_,j⟩ | ⟨_,j⟩<;>omega
   omega
 ·exact absurd k2 hb
omit h in
end
end Go.Proofs.YtbgkofgoeoiciaaGreatDoor

namespace Go.Proofs.YtbgkofgoeoiciaaGreatDoor
open Go.RowKit
def notSlash (c:UInt8):Bool:=c != 47
def nreadF (l:List UInt8):Option Rat :=
 if (((unsign l).2.takeWhile notSlash).all isDig && !((unsign l).2.takeWhile notSlash).isEmpty)=false then none
 else if (unsign l).2.drop ((unsign l).2.takeWhile notSlash).length=[] then
  (if ratText (((sg (unsign l).1 (decVal ((unsign l).2.takeWhile notSlash)):Int)):Rat)=l then some (((sg (unsign l).1 (decVal ((unsign l).2.takeWhile notSlash)):Int)):Rat) else none)
 else if (((unsign l).2.drop (((unsign l).2.takeWhile notSlash).length + 1)).all isDig && !((unsign l).2.drop (((unsign l).2.takeWhile notSlash).length + 1)).isEmpty)=false∨decVal ((unsign l).2.drop (((unsign l).2.takeWhile notSlash).length + 1))=0 then none
 else (if ratText (Rat.divInt (sg (unsign l).1 (decVal ((unsign l).2.takeWhile notSlash))) (decVal ((unsign l).2.drop (((unsign l).2.takeWhile notSlash).length + 1)):Int))=l then some (Rat.divInt (sg (unsign l).1 (decVal ((unsign l).2.takeWhile notSlash))) (decVal ((unsign l).2.drop (((unsign l).2.takeWhile notSlash).length + 1)):Int)) else none)
theorem nread_some {l:List UInt8} {q:Rat} (h:nreadF l=some q):ratText q=l:=by
 unfold nreadF at h
 split at h
 ·cases h
 split at h
 ·split at h
  ·rename_i e; injection h with h; rw [← h]; exact e
  ·cases h
 split at h
 ·cases h
 ·split at h
  ·rename_i e; injection h with h; rw [← h]; exact e
  ·cases h
theorem dig_notSlash {l:List UInt8} (h:l.all isDig=true):l.all notSlash=true:=by
 rw [List.all_eq_true] at *
 intro x hx
 have:=h x hx
 unfold notSlash
 simp
 rintro rfl
 exact absurd this (by decide)
theorem nread_text (q:Rat):nreadF (ratText q)=some q:=by
 by_cases h:q.den=1
 ·have ht:ratText q=Lib.itoa q.num ++ []:=by unfold ratText; rw [if_pos h,List.append_nil]
  have hu:=unsign_itoa q.num []
  rw [← ht,List.append_nil] at hu
  obtain ⟨h1,h2⟩:=takeWhile_all (dig_notSlash (dec_all q.num.natAbs))
  unfold nreadF
  rw [hu]
  simp only []
  rw [h1,dec_all,dec_val,sg_abs,whole_self h]
  rw [if_neg (by simp [decDigits_ne]),List.drop_of_length_le (Nat.le_refl _),if_pos rfl,if_pos rfl]
 ·have ht:ratText q=Lib.itoa q.num ++ 47 :: Lib.decDigits q.den:=by unfold ratText; rw [if_neg h,itoa_den]; simp
  have hu:=unsign_itoa q.num (47 :: Lib.decDigits q.den)
  rw [← ht] at hu
  obtain ⟨h1,h2⟩:=takeWhile_stop (p:=notSlash) (r:=Lib.decDigits q.den) (c:=47) (dig_notSlash (dec_all q.num.natAbs)) (by decide)
  have hd:=q.den_nz
  have hdr:(Lib.decDigits q.num.natAbs ++ 47 :: Lib.decDigits q.den).drop (Lib.decDigits q.num.natAbs).length=47 :: Lib.decDigits q.den:=by simp
  have hdr2:(Lib.decDigits q.num.natAbs ++ 47 :: Lib.decDigits q.den).drop ((Lib.decDigits q.num.natAbs).length + 1)=Lib.decDigits q.den:=by
   rw [← List.drop_drop,hdr]; rfl
  unfold nreadF
  rw [hu]
  simp only []
  rw [h1,hdr,hdr2,dec_all,dec_all,dec_val,dec_val,sg_abs,Rat.num_divInt_den]
  rw [if_neg (by simp [decDigits_ne]),if_neg (by simp),if_neg (by simp [decDigits_ne]; exact hd),if_pos rfl]
theorem nread_eq (l:List UInt8):nreadF l=readF l:=by
 cases h:nreadF l with
 | some q=>rw [← nread_some h]; exact (read_text q).symm
 | none =>
   cases k:readF l with
   | none=>rfl
   | some q =>
     have:=text_of_read k
     rw [← this,nread_text] at h
     cases h
def RetNRead (w:World) (l:List UInt8) (e:Ending) (w':World):Prop :=
 ∃ v ok q,e=.returned (.tuple #[v, .bool ok])∧Ext w w'∧NRatIs w' v q∧((ok=true∧readF l=some q)∨(ok=false∧readF l=none))
theorem read_end {q:Rat} {s:ByteArray} {b:Bool} (hn:nreadF (bytes s)=if ratText q=bytes s then some q else none) (hb:b=decide (ratText q=bytes s)):(b=true∧readF (bytes s)=some q)∨(b=false∧readF (bytes s)=none):=by
 rw [nread_eq] at hn
 by_cases h:ratText q=bytes s
 ·rw [if_pos h] at hn; left; exact ⟨by rw [hb,decide_eq_true h],hn⟩
 ·rw [if_neg h] at hn; right; exact ⟨by rw [hb,decide_eq_false h],hn⟩
theorem extract_le (t:ByteArray) (a b:Nat):(t.extract a b).size≤t.size:=by
 rw [← bytes_length,bytes_extract,List.length_take,List.length_drop,bytes_length]; omega
theorem takeWhile_len {l:List UInt8} {k:Nat} (h:(l.take k).all notSlash=true) (hs:∀ h:k < l.length,notSlash l[k]=false) (hk:k≤l.length):k=(l.takeWhile notSlash).length:=by
 rw [(takeWhile_of h hs).1,List.length_take]; omega
theorem cut_at {t:ByteArray} {p:Nat} (hp:p=((bytes t).takeWhile notSlash).length):bytes (t.extract 0 p)=(bytes t).takeWhile notSlash∧bytes (t.extract (p + 1) t.size)=(bytes t).drop (p + 1):=by
 rw [bytes_extract,bytes_extract]
 refine ⟨?_,?_⟩
 ·rw [List.drop_zero,Nat.sub_zero,hp]
  have:=List.takeWhile_prefix notSlash (l:=bytes t)
  exact (List.prefix_iff_eq_take.1 this).symm
 ·rw [List.take_of_length_le (by rw [List.length_drop,bytes_length]; exact Nat.le_refl _)]
theorem nread_bad1 {l t:List UInt8} {neg:Bool} (hu:unsign l=(neg,t)) (hb:(((t.takeWhile notSlash)).all isDig && !(t.takeWhile notSlash).isEmpty)=false):nreadF l=none:=by
 unfold nreadF; rw [hu]; simp only []; rw [if_pos hb]
theorem nread_whole {l t:List UInt8} {neg:Bool} (hu:unsign l=(neg,t)) (hb:(((t.takeWhile notSlash)).all isDig && !(t.takeWhile notSlash).isEmpty)=true) (hd:t.length≤(t.takeWhile notSlash).length) :
 nreadF l=if ratText ((sg neg (decVal (t.takeWhile notSlash)):Int):Rat)=l then some ((sg neg (decVal (t.takeWhile notSlash)):Int):Rat) else none:=by
 unfold nreadF; rw [hu]; simp only []; rw [if_neg (by rw [hb]; simp),if_pos (List.drop_of_length_le hd)]
theorem nread_bad2 {l t:List UInt8} {neg:Bool} (hu:unsign l=(neg,t)) (hb:(((t.takeWhile notSlash)).all isDig && !(t.takeWhile notSlash).isEmpty)=true) (hd:(t.takeWhile notSlash).length < t.length)
 (h2:((t.drop ((t.takeWhile notSlash).length + 1)).all isDig && !(t.drop ((t.takeWhile notSlash).length + 1)).isEmpty)=false∨decVal (t.drop ((t.takeWhile notSlash).length + 1))=0):nreadF l=none:=by
 unfold nreadF; rw [hu]; simp only []; rw [if_neg (by rw [hb]; simp),if_neg (fun e=>by have:=congrArg List.length e; simp at this; omega),if_pos h2]
theorem nread_frac {l t:List UInt8} {neg:Bool} (hu:unsign l=(neg,t)) (hb:(((t.takeWhile notSlash)).all isDig && !(t.takeWhile notSlash).isEmpty)=true) (hd:(t.takeWhile notSlash).length < t.length)
 (h2:((t.drop ((t.takeWhile notSlash).length + 1)).all isDig && !(t.drop ((t.takeWhile notSlash).length + 1)).isEmpty)=true) (h3:decVal (t.drop ((t.takeWhile notSlash).length + 1))≠0) :
 nreadF l=if ratText (Rat.divInt (sg neg (decVal (t.takeWhile notSlash))) (decVal (t.drop ((t.takeWhile notSlash).length + 1)):Int))=l then some (Rat.divInt (sg neg (decVal (t.takeWhile notSlash))) (decVal (t.drop ((t.takeWhile notSlash).length + 1)):Int)) else none:=by
 unfold nreadF; rw [hu]; simp only []; rw [if_neg (by rw [hb]; simp),if_neg (fun e=>by have:=congrArg List.length e; simp at this; omega),if_neg (fun e=>e.elim (fun e=>by rw [h2] at e; cases e) h3)]
theorem str_dec {x:List UInt8} {s:ByteArray}:((⟨x.toArray⟩:ByteArray).toList == s.toList)=decide (x=bytes s):=by
 rw [Lib.toList_data,Lib.toList_data]
 by_cases h:x=bytes s
 ·rw [decide_eq_true h]; simp [h]
 ·rw [decide_eq_false h]; simpa using h
theorem ml_decVal {t:ByteArray} (h:(bytes t).all isDig=true) (hs:t.size≤65536):ml (decVal (bytes t))≤65536:=by
 have:=ml_ten (decVal_lt _ h)
 rw [bytes_length] at this
 omega
theorem sg_ml {neg:Bool} {n:Nat}:(sg neg n).natAbs=n:=by cases neg<;>simp [sg]
theorem frac_ml {x y:Int} (hy:y≠0):ml (Rat.divInt x y).num.natAbs≤ml x.natAbs∧ml (Rat.divInt x y).den≤ml y.natAbs:=by
 constructor
 ·refine ml_mono ?_
  rw [Rat.num_divInt,Int.natAbs_ediv_of_dvd]
  ·refine Nat.le_trans (Nat.div_le_self _ _) ?_
   rw [Int.natAbs_mul]
   rcases Int.lt_or_gt_of_ne hy with h | h
   ·rw [Int.sign_eq_neg_one_of_neg h]; simp
   ·rw [Int.sign_eq_one_of_pos h]; simp
  ·exact Int.dvd_mul_of_dvd_right (Int.gcd_dvd_right _ _)
 ·refine ml_mono ?_
  rw [Rat.den_divInt,if_neg hy]
  exact Nat.div_le_self _ _
theorem str_head {s:ByteArray} (h:¬ bytes s=[]):∃ c,(bytes s).head? = some c∧s[0]? = some c:=by
 obtain ⟨h1,_⟩:=head_of h
 exact ⟨s[0],head_byte h1,by simp [h1]⟩
theorem str_size {s:ByteArray} (h:¬ bytes s=[]):1≤s.size:=(head_of h).1
theorem unsign_minus {s:ByteArray} {c:UInt8} (h:(bytes s).head? = some c) (hc:c=45):unsign (bytes s)=(true,bytes (s.extract 1 s.size)):=by
 unfold unsign
 rw [h,hc,if_pos rfl,bytes_extract,List.take_of_length_le (by rw [List.length_drop,bytes_length]; exact Nat.le_refl _),List.drop_one]
theorem unsign_plus {s:ByteArray} {c:UInt8} (h:(bytes s).head? = some c) (hc:¬ c=45):unsign (bytes s)=(false,bytes s):=by
 unfold unsign
 rw [h,if_neg (by simpa using hc)]
theorem u8_eq {c b:UInt8} (h:c=b):((c.toNat:Int) == (b.toNat:Int))=true:=by subst h; simp
theorem u8_ne {c b:UInt8} (h:¬ c=b):((c.toNat:Int) == (b.toNat:Int))=false:=by
 have:c.toNat≠b.toNat:=fun e=>h (UInt8.toNat_inj.1 e)
 simp; omega
theorem nat_lt {a b:Nat} (h:a < b):decide (((a:Nat):Int) < ((b:Nat):Int))=true:=decide_eq_true (by omega)
theorem nat_nlt {a b:Nat} (h:¬ a < b):decide (((a:Nat):Int) < ((b:Nat):Int))=false:=decide_eq_false (by omega)
theorem nat_wrap1 {a:Nat} (h:a≤1000000):IntKind.i64.wrap (((a:Nat):Int) + 1)=((a + 1:Nat):Int):=by rw [IntKind.wrap_i64]; omega
theorem sgn_zero {n:Nat} (h:n=0):(((n:Int).sign:Int) == 0)=true:=by subst h; rfl
theorem sgn_nzero {n:Nat} (h:¬ n=0):(((n:Int).sign:Int) == 0)=false:=by
 rw [beq_eq_false_iff_ne]; exact fun e=>h (by have:=Int.sign_eq_zero_iff_zero.1 e; omega)
theorem post_FD {w w':World} {e:Ending} {l:List UInt8} (h:RetFD w l e w') (hd:l.all isDig=true) (hne:l≠[]):PostC (fun x:ShI=>.tuple #[shInt x, .bool true]) (fun x w=>NumIs w (shInt x) (decVal l:Int)) w e w':=by
 obtain ⟨v,b,rfl,rfl,hI,hE⟩:=h
 rw [if_pos hd] at hI
 obtain ⟨s,A,l',c,rfl⟩:=hI.shp
 refine ⟨(s,A,l',c),?_,hE,boxn hE (fun S w'' hS hF=>hI.nrb hS hF)⟩
 rw [hd,show l.isEmpty=false by simpa using hne]; rfl
theorem run_stridx {P:Program} {o:Oper} {ρ:Operand→Value} {w:World} {t:TypeId} {x i:Operand} {b:ByteArray} {k:Nat} {c:UInt8} (ho:o.op=Op.index t x i) (ht:P.underlying t=some .string) (hx:ρ x=.string b) (hi:ρ i=.int .i64 (k:Int)) (hc:b[k]? = some c):(execOp ρ o).run P w=.ok (.value (.int .u8 (c.toNat:Int))) w:=by
 simp [execOp,ho,Instr.index,asIntOf,underlying,ht,hx,hi,hc,Result.andThen]
theorem post_FDf {w w':World} {e:Ending} {l:List UInt8} (h:RetFD w l e w') (hb:¬ (l.all isDig && !l.isEmpty)=true):PostC (fun x:ShI=>.tuple #[shInt x, .bool false]) (fun _ _=>True) w e w':=by
 obtain ⟨v,b,rfl,rfl,hI,hE⟩:=h
 obtain ⟨s,A,l',c,rfl⟩:=hI.shp
 exact ⟨(s,A,l',c),by rw [Bool.eq_false_iff.2 hb]; rfl,hE,BoxN.pure trivial⟩
theorem dig_parts {l:List UInt8} (h:(l.all isDig && !l.isEmpty)=true):l.all isDig=true∧l≠[]:=by
 rw [Bool.and_eq_true] at h
 exact ⟨h.1,fun e=>by rw [e] at h; simp at h⟩
theorem NRatIs.whole {w:World} {s:Bool} {A:Option Addr} {l c:Nat} {z:Int} (h:NumIs w (.agg #[.bool s, .slice A l c]) z):NRatIs w (.agg #[.bool s, .slice A l c, .bool false, .slice none 0 0]) ((z:Int):Rat) :=
 NRatIs.of h (by rw [denF_one (by rfl)]; exact NumIs.nil _)
theorem rd_fit {z:Int} (h:ml z.natAbs≤65536):NFits z:=nfit h (by decide)
theorem rd_nz {n:Nat} (h:¬ n=0):((n:Nat):Int)≠0:=by omega
theorem ml_one':ml (1:Nat)≤65536:=Nat.le_trans (ml_le_iff.2 (by rw [W32_eq]; decide):ml 1≤1) (by decide)
theorem ns_step {t:ByteArray} {i:Nat} {c:UInt8} (hI:((bytes t).take i).all notSlash=true) (hc:t[i]? = some c) (h:¬ c=47):((bytes t).take (i + 1)).all notSlash=true:=by
 have hi:i < t.size:=by
  rcases Nat.lt_or_ge i t.size with h' | h'
  ·exact h'
  ·rw [getElem?_neg t i (by omega)] at hc; cases hc
 have hc':t[i]=c:=by
  rw [getElem?_pos t i hi] at hc; exact Option.some.inj hc
 rw [take_snoc t i hi,List.all_append,hI,hc']
 simp [notSlash,h]
theorem ns_len {t:ByteArray} {i:Nat} {c:UInt8} (hI:((bytes t).take i).all notSlash=true) (hc:t[i]? = some c) (h:c=47) (hi:i≤t.size):i=((bytes t).takeWhile notSlash).length:=by
 refine takeWhile_len hI (fun hlt=>?_) (by rw [bytes_length]; exact hi)
 have hi':i < t.size:=by rw [← bytes_length]; exact hlt
 rw [getElem?_pos t i hi'] at hc
 have:(bytes t)[i]=47:=(Option.some.inj hc).trans h
 rw [this]; rfl
theorem ns_end {t:ByteArray} (hI:((bytes t).take t.size).all notSlash=true):t.size=((bytes t).takeWhile notSlash).length :=
 takeWhile_len hI (fun h=>by rw [bytes_length] at h; omega) (by rw [bytes_length]; exact Nat.le_refl _)
set_option maxRecDepth 100000 in
theorem NRead_any (s:ByteArray) (w:World) (hs:s.size≤65536) :
 Calls Tryz.prog 100 #[.string s] w (RetNRead w (bytes s)):=by
 refine sx_enter (Φ:=fun w=>True) Tryz.func100 rfl (by kernel_rfl) (fun w' hf=>trivial) ?_
 refine sx_seq (sx_region (xr 2 [(0, .v (.string s)),(2, .p 2 0),(3, .v (.bool false))] [bR4 2 36 false none 0 0 false none 0 0] ?_))
 refine xe (sx_next (sx_seq (sx_region (xr 2 [(0, .v (.string s)),(2, .p 2 0),(3, .v (.bool false)),(4, .v (.string s))] [bR4 2 36 false none 0 0 false none 0 0] ?_))))
 refine xe (sx_next ?_)
 refine sx_cut (fun ss ff=>∃ (b:Bool),ss=ofL [(0, .v (.string s)),(2, .p 2 0),(3, .v (.bool false)),(4, .v (.string s)),(5, .v (.bool b))] [(2,36,[.v (.bool false), .v (.slice none 0 0), .v (.bool false), .v (.slice none 0 0)])]∧ff=(fun w=>True)∧((b=true→unsign (bytes s)=(true,bytes (s.extract 1 s.size))∧1≤s.size)∧(b=false→unsign (bytes s)=(false,bytes s)))) ?_ ?_
 ·by_cases he:bytes s=[]
  ·have hs0:s.size=0:=by rw [← bytes_length,he]; rfl
   refine sx_region (xr 3 [(0, .v (.string s)),(2, .p 2 0),(3, .v (.bool false)),(4, .v (.string s)),(16, .v (.bool (decide (((s).size:Int) > 0))))] [bR4 2 36 false none 0 0 false none 0 0] ?_)
   rw [(show decide (((s).size:Int) > 0)=false from decide_eq_false (by omega))]
   refine xr 6 [(0, .v (.string s)),(2, .p 2 0),(3, .v (.bool false)),(4, .v (.string s)),(5, .v (.bool false))] [bR4 2 36 false none 0 0 false none 0 0] ?_
   refine xe ?_
   refine SXq.weak [(0, .v (.string s)),(2, .p 2 0),(3, .v (.bool false)),(4, .v (.string s)),(5, .v (.bool false))] [(2,36,[.v (.bool false), .v (.slice none 0 0), .v (.bool false), .v (.slice none 0 0)])] (Ψ:=fun w=>True) (SameL.of (by kernel_rfl)) (by kernel_rfl) (fun w hΦ=>trivial) ?_
   exact sx_meet ⟨false,rfl,rfl,⟨fun h=>(by cases h),fun _=>(by unfold unsign; rw [he]; rfl)⟩⟩
  ·obtain ⟨c0,h0,hc0⟩:=str_head he
   have hs0:=str_size he
   by_cases hm:c0=45
   ·refine sx_region (xr 3 [(0, .v (.string s)),(2, .p 2 0),(3, .v (.bool false)),(4, .v (.string s)),(16, .v (.bool (decide (((s).size:Int) > 0))))] [bR4 2 36 false none 0 0 false none 0 0] ?_)
    rw [(show decide (((s).size:Int) > 0)=true from decide_eq_true (by omega))]
    refine xr 2 [(0, .v (.string s)),(2, .p 2 0),(3, .v (.bool false)),(4, .v (.string s)),(17, .v (.bool true)),(18, .v (.string s))] [bR4 2 36 false none 0 0 false none 0 0] ?_
    refine sx_look 19 (.int .u8 (c0.toNat:Int)) (by kernel_rfl) (by kernel_rfl) (by kernel_rfl) (by kernel_rfl) (by kernel_rfl) (by kernel_rfl) (fun w hE hΦ=>run_stridx (t:=9) (x:=.tmp 18) (k:=0) (i:=.const (.int .i64 0)) (by kernel_rfl) (by kernel_rfl) (by kernel_rfl) (by rfl) hc0) ?_
    refine xr 1 [(0, .v (.string s)),(2, .p 2 0),(3, .v (.bool false)),(4, .v (.string s)),(17, .v (.bool true)),(20, .v (.bool (((c0.toNat:Int):Int) == 45)))] [bR4 2 36 false none 0 0 false none 0 0] ?_
    rw [(show ((c0.toNat:Int) == 45)=true from u8_eq hm)]
    refine xr 2 [(0, .v (.string s)),(2, .p 2 0),(3, .v (.bool false)),(4, .v (.string s)),(5, .v (.bool true))] [bR4 2 36 false none 0 0 false none 0 0] ?_
    refine xe ?_
    refine SXq.weak [(0, .v (.string s)),(2, .p 2 0),(3, .v (.bool false)),(4, .v (.string s)),(5, .v (.bool true))] [(2,36,[.v (.bool false), .v (.slice none 0 0), .v (.bool false), .v (.slice none 0 0)])] (Ψ:=fun w=>True) (SameL.of (by kernel_rfl)) (by kernel_rfl) (fun w hΦ=>trivial) ?_
    exact sx_meet ⟨true,rfl,rfl,⟨fun _=>⟨unsign_minus h0 hm,str_size he⟩,fun h=>(by cases h)⟩⟩
   ·refine sx_region (xr 3 [(0, .v (.string s)),(2, .p 2 0),(3, .v (.bool false)),(4, .v (.string s)),(16, .v (.bool (decide (((s).size:Int) > 0))))] [bR4 2 36 false none 0 0 false none 0 0] ?_)
    rw [(show decide (((s).size:Int) > 0)=true from decide_eq_true (by omega))]
    refine xr 2 [(0, .v (.string s)),(2, .p 2 0),(3, .v (.bool false)),(4, .v (.string s)),(17, .v (.bool true)),(18, .v (.string s))] [bR4 2 36 false none 0 0 false none 0 0] ?_
    refine sx_look 19 (.int .u8 (c0.toNat:Int)) (by kernel_rfl) (by kernel_rfl) (by kernel_rfl) (by kernel_rfl) (by kernel_rfl) (by kernel_rfl) (fun w hE hΦ=>run_stridx (t:=9) (x:=.tmp 18) (k:=0) (i:=.const (.int .i64 0)) (by kernel_rfl) (by kernel_rfl) (by kernel_rfl) (by rfl) hc0) ?_
    refine xr 1 [(0, .v (.string s)),(2, .p 2 0),(3, .v (.bool false)),(4, .v (.string s)),(17, .v (.bool true)),(20, .v (.bool (((c0.toNat:Int):Int) == 45)))] [bR4 2 36 false none 0 0 false none 0 0] ?_
    rw [(show ((c0.toNat:Int) == 45)=false from u8_ne (b:=45) hm)]
    refine xr 2 [(0, .v (.string s)),(2, .p 2 0),(3, .v (.bool false)),(4, .v (.string s)),(5, .v (.bool false))] [bR4 2 36 false none 0 0 false none 0 0] ?_
    refine xe ?_
    refine SXq.weak [(0, .v (.string s)),(2, .p 2 0),(3, .v (.bool false)),(4, .v (.string s)),(5, .v (.bool false))] [(2,36,[.v (.bool false), .v (.slice none 0 0), .v (.bool false), .v (.slice none 0 0)])] (Ψ:=fun w=>True) (SameL.of (by kernel_rfl)) (by kernel_rfl) (fun w hΦ=>trivial) ?_
    exact sx_meet ⟨false,rfl,rfl,⟨fun h=>(by cases h),fun _=>unsign_plus h0 hm⟩⟩
 ·rintro ss ff ⟨b,rfl,rfl,HB⟩
  refine sx_cut (fun ss ff=>∃ (t:ByteArray) (ng:Bool),ss=ofL [(0, .v (.string s)),(2, .p 2 0),(3, .v (.bool false)),(4, .v (.string t)),(5, .v (.bool ng))] [(2,36,[.v (.bool false), .v (.slice none 0 0), .v (.bool false), .v (.slice none 0 0)])]∧ff=(fun w=>True)∧(unsign (bytes s)=(ng,bytes t))∧(t.size≤65536)) ?_ ?_
  ·refine sx_seq (sx_region (xr 1 [(0, .v (.string s)),(2, .p 2 0),(3, .v (.bool false)),(4, .v (.string s)),(5, .v (.bool b)),(22, .v (.bool b))] [bR4 2 36 false none 0 0 false none 0 0] ?_))
   refine xe (sx_next ?_)
   refine sx_cond (b) (by kernel_rfl) (fun hb10=>?_) (fun hb10=>?_)
   ·have hbb:=hb10
    obtain ⟨HM0,hsz⟩:=HB.1 hbb
    obtain ⟨t,ht⟩:∃ t,s.extract 1 s.size=t:=⟨_,rfl⟩
    rw [ht] at HM0
    have lt:t.size≤65536:=by rw [← ht,ByteArray.size_extract]; omega
    refine sx_region (xr 1 [(0, .v (.string s)),(2, .p 2 0),(3, .v (.bool false)),(4, .v (.string s)),(5, .v (.bool b)),(23, .v (.string s))] [bR4 2 36 false none 0 0 false none 0 0] ?_)
    refine sx_look 24 (.string t) (by kernel_rfl) (by kernel_rfl) (by kernel_rfl) (by kernel_rfl) (by kernel_rfl) (by kernel_rfl) (fun w hE hΦ=>run_strslice 1 _ (t:=9) (x:=(Operand.tmp 23)) (lo:=(some (Operand.const (Value.int IntKind.i64 1)))) (hi:=none) (by kernel_rfl) (by kernel_rfl) (by kernel_rfl) (Or.inr rfl) (Or.inl ⟨rfl,rfl⟩) hsz (Nat.le_refl _) ht) ?_
    refine xr 1 [(0, .v (.string s)),(2, .p 2 0),(3, .v (.bool false)),(4, .v (.string t)),(5, .v (.bool b))] [bR4 2 36 false none 0 0 false none 0 0] ?_
    refine xe ?_
    refine SXq.weak [(0, .v (.string s)),(2, .p 2 0),(3, .v (.bool false)),(4, .v (.string t)),(5, .v (.bool b))] [(2,36,[.v (.bool false), .v (.slice none 0 0), .v (.bool false), .v (.slice none 0 0)])] (Ψ:=fun w=>True) (SameL.of (by kernel_rfl)) (by kernel_rfl) (fun w hΦ=>trivial) ?_
    exact sx_meet ⟨t,b,rfl,rfl,(by rw [hbb]; exact HM0),lt⟩
   ·have hbb:=hb10
    refine sx_skip ?_
    refine SXq.weak [(0, .v (.string s)),(2, .p 2 0),(3, .v (.bool false)),(4, .v (.string s)),(5, .v (.bool b))] [(2,36,[.v (.bool false), .v (.slice none 0 0), .v (.bool false), .v (.slice none 0 0)])] (Ψ:=fun w=>True) (SameL.of (by kernel_rfl)) (by kernel_rfl) (fun w hΦ=>trivial) ?_
    exact sx_meet ⟨s,b,rfl,rfl,(by rw [hbb]; exact HB.2 hbb),hs⟩
  ·rintro ss ff ⟨t,ng,rfl,rfl,HM,lt⟩
   refine sx_seq (sx_region (xr 3 [(0, .v (.string s)),(2, .p 2 0),(3, .v (.bool false)),(4, .v (.string t)),(5, .v (.bool ng)),(6, .v (.int .i64 ((t).size:Int)))] [bR4 2 36 false none 0 0 false none 0 0] ?_))
   refine xe (sx_next ?_)
   refine sx_cut (fun ss ff=>∃ (p:Nat),ss=ofL [(0, .v (.string s)),(2, .p 2 0),(3, .v (.bool false)),(4, .v (.string t)),(5, .v (.bool ng)),(6, .v (.int .i64 ((p:Nat):Int)))] [(2,36,[.v (.bool false), .v (.slice none 0 0), .v (.bool false), .v (.slice none 0 0)])]∧ff=(fun w=>True)∧(p=((bytes t).takeWhile notSlash).length)∧(p≤t.size)) ?_ ?_
   ·refine sx_seq (sx_region (xr 1 [(0, .v (.string s)),(2, .p 2 0),(3, .v (.bool false)),(4, .v (.string t)),(5, .v (.bool ng)),(6, .v (.int .i64 ((t).size:Int))),(7, .v (.int .i64 0))] [bR4 2 36 false none 0 0 false none 0 0] ?_))
    refine xe (sx_next (sx_block ?_))
    refine SXc.weak [(0, .v (.string s)),(2, .p 2 0),(3, .v (.bool false)),(4, .v (.string t)),(5, .v (.bool ng)),(6, .v (.int .i64 ((t).size:Int))),(7, .v (.int .i64 ((0:Nat):Int)))] [(2,36,[.v (.bool false), .v (.slice none 0 0), .v (.bool false), .v (.slice none 0 0)])] (Ψ:=fun w=>True) (SameL.of (by kernel_rfl)) (by kernel_rfl) (fun w hΦ=>trivial) ?_
    refine sx_loop (fun nn ss ff=>∃ (i:Nat),ss=ofL [(0, .v (.string s)),(2, .p 2 0),(3, .v (.bool false)),(4, .v (.string t)),(5, .v (.bool ng)),(6, .v (.int .i64 ((t).size:Int))),(7, .v (.int .i64 ((i:Nat):Int)))] [(2,36,[.v (.bool false), .v (.slice none 0 0), .v (.bool false), .v (.slice none 0 0)])]∧ff=(fun w=>True)∧(i≤t.size)∧(((bytes t).take i).all notSlash=true)∧nn=t.size - i) (t.size - 0) ⟨0,rfl,rfl,(Nat.zero_le _),rfl,rfl⟩ ?_
    rintro nn ss ff ⟨i,rfl,rfl,hi,hI,rfl⟩
    refine sx_seq (sx_seq (sx_region (xr 4 [(0, .v (.string s)),(2, .p 2 0),(3, .v (.bool false)),(4, .v (.string t)),(5, .v (.bool ng)),(6, .v (.int .i64 ((t).size:Int))),(7, .v (.int .i64 ((i:Nat):Int))),(30, .v (.bool (decide (((i:Nat):Int) < ((t).size:Int)))))] [bR4 2 36 false none 0 0 false none 0 0] ?_)))
    refine xe (sx_next ?_)
    refine sx_cond ((decide (((i:Nat):Int) < ((t).size:Int)))) (by kernel_rfl) (fun hb11=>?_) (fun hb11=>?_)
    ·have hlt:i < t.size:=by have:=of_decide_eq_true hb11; omega
     obtain ⟨c,hc⟩:∃ c,t[i]? = some c:=⟨t[i],by simp [hlt]⟩
     refine sx_skip (sx_next (sx_seq (sx_block (sx_seq ?_))))
     by_cases h47:c=47
     ·refine sx_region (xr 2 [(0, .v (.string s)),(2, .p 2 0),(3, .v (.bool false)),(4, .v (.string t)),(5, .v (.bool ng)),(6, .v (.int .i64 ((t).size:Int))),(7, .v (.int .i64 ((i:Nat):Int))),(33, .v (.string t)),(34, .v (.int .i64 ((i:Nat):Int)))] [bR4 2 36 false none 0 0 false none 0 0] ?_)
      refine sx_look 35 (.int .u8 (c.toNat:Int)) (by kernel_rfl) (by kernel_rfl) (by kernel_rfl) (by kernel_rfl) (by kernel_rfl) (by kernel_rfl) (fun w hE hΦ=>run_stridx (t:=9) (x:=.tmp 33) (k:=i) (i:=.tmp 34) (by kernel_rfl) (by kernel_rfl) (by kernel_rfl) (by kernel_rfl) hc) ?_
      refine xr 1 [(0, .v (.string s)),(2, .p 2 0),(3, .v (.bool false)),(4, .v (.string t)),(5, .v (.bool ng)),(6, .v (.int .i64 ((t).size:Int))),(7, .v (.int .i64 ((i:Nat):Int))),(36, .v (.bool (((c.toNat:Int):Int) == 47)))] [bR4 2 36 false none 0 0 false none 0 0] ?_
      rw [(show ((c.toNat:Int) == 47)=true from u8_eq h47)]
      refine xr 0 [(0, .v (.string s)),(2, .p 2 0),(3, .v (.bool false)),(4, .v (.string t)),(5, .v (.bool ng)),(6, .v (.int .i64 ((t).size:Int))),(7, .v (.int .i64 ((i:Nat):Int))),(36, .v (.bool true))] [bR4 2 36 false none 0 0 false none 0 0] ?_
      refine xe (sx_next (xa (sx_seq (sx_region (xr 2 [(0, .v (.string s)),(2, .p 2 0),(3, .v (.bool false)),(4, .v (.string t)),(5, .v (.bool ng)),(6, .v (.int .i64 ((i:Nat):Int))),(7, .v (.int .i64 ((i:Nat):Int)))] [bR4 2 36 false none 0 0 false none 0 0] ?_)))))
      refine xe (sx_next (sx_exit ?_))
      refine sx_miss (by kernel_rfl) ?_
      refine sx_then_exit (sx_then_exit (sx_hit ?_))
      refine SXq.weak [(0, .v (.string s)),(2, .p 2 0),(3, .v (.bool false)),(4, .v (.string t)),(5, .v (.bool ng)),(6, .v (.int .i64 ((i:Nat):Int)))] [(2,36,[.v (.bool false), .v (.slice none 0 0), .v (.bool false), .v (.slice none 0 0)])] (Ψ:=fun w=>True) (SameL.of (by kernel_rfl)) (by kernel_rfl) (fun w hΦ=>trivial) ?_
      exact sx_meet ⟨i,rfl,rfl,ns_len hI hc h47 hi,hi⟩
     ·refine sx_region (xr 2 [(0, .v (.string s)),(2, .p 2 0),(3, .v (.bool false)),(4, .v (.string t)),(5, .v (.bool ng)),(6, .v (.int .i64 ((t).size:Int))),(7, .v (.int .i64 ((i:Nat):Int))),(33, .v (.string t)),(34, .v (.int .i64 ((i:Nat):Int)))] [bR4 2 36 false none 0 0 false none 0 0] ?_)
      refine sx_look 35 (.int .u8 (c.toNat:Int)) (by kernel_rfl) (by kernel_rfl) (by kernel_rfl) (by kernel_rfl) (by kernel_rfl) (by kernel_rfl) (fun w hE hΦ=>run_stridx (t:=9) (x:=.tmp 33) (k:=i) (i:=.tmp 34) (by kernel_rfl) (by kernel_rfl) (by kernel_rfl) (by kernel_rfl) hc) ?_
      refine xr 1 [(0, .v (.string s)),(2, .p 2 0),(3, .v (.bool false)),(4, .v (.string t)),(5, .v (.bool ng)),(6, .v (.int .i64 ((t).size:Int))),(7, .v (.int .i64 ((i:Nat):Int))),(36, .v (.bool (((c.toNat:Int):Int) == 47)))] [bR4 2 36 false none 0 0 false none 0 0] ?_
      rw [(show ((c.toNat:Int) == 47)=false from u8_ne (b:=47) h47)]
      refine xr 0 [(0, .v (.string s)),(2, .p 2 0),(3, .v (.bool false)),(4, .v (.string t)),(5, .v (.bool ng)),(6, .v (.int .i64 ((t).size:Int))),(7, .v (.int .i64 ((i:Nat):Int))),(36, .v (.bool false))] [bR4 2 36 false none 0 0 false none 0 0] ?_
      refine xe (sx_next (xb (sx_skip (sx_out (sx_next (sx_region (xr 2 [(0, .v (.string s)),(2, .p 2 0),(3, .v (.bool false)),(4, .v (.string t)),(5, .v (.bool ng)),(6, .v (.int .i64 ((t).size:Int))),(7, .v (.int .i64 ((i:Nat):Int))),(32, .v (.int .i64 (IntKind.i64.wrap (((i:Nat):Int) + 1))))] [bR4 2 36 false none 0 0 false none 0 0] ?_)))))))
      rw [nat_wrap1 (a:=i) (by omega)]
      refine xr 1 [(0, .v (.string s)),(2, .p 2 0),(3, .v (.bool false)),(4, .v (.string t)),(5, .v (.bool ng)),(6, .v (.int .i64 ((t).size:Int))),(7, .v (.int .i64 ((i + 1:Nat):Int)))] [bR4 2 36 false none 0 0 false none 0 0] ?_
      refine xe ?_
      refine SXq.weak [(0, .v (.string s)),(2, .p 2 0),(3, .v (.bool false)),(4, .v (.string t)),(5, .v (.bool ng)),(6, .v (.int .i64 ((t).size:Int))),(7, .v (.int .i64 (((i + 1):Nat):Int)))] [(2,36,[.v (.bool false), .v (.slice none 0 0), .v (.bool false), .v (.slice none 0 0)])] (Ψ:=fun w=>True) (SameL.of (by kernel_rfl)) (by kernel_rfl) (fun w hΦ=>trivial) ?_
      exact sx_round (t.size - (i + 1)) (by omega) ⟨(i + 1),rfl,rfl,hlt,ns_step hI hc h47,rfl⟩
    ·have hie:i=t.size:=by have:=of_decide_eq_false hb11; omega
     refine sx_exit (sx_then_exit (sx_then_exit (sx_hit ?_)))
     refine SXq.weak [(0, .v (.string s)),(2, .p 2 0),(3, .v (.bool false)),(4, .v (.string t)),(5, .v (.bool ng)),(6, .v (.int .i64 ((t.size:Nat):Int)))] [(2,36,[.v (.bool false), .v (.slice none 0 0), .v (.bool false), .v (.slice none 0 0)])] (Ψ:=fun w=>True) (SameL.of (by kernel_rfl)) (by kernel_rfl) (fun w hΦ=>trivial) ?_
     exact sx_meet ⟨t.size,rfl,rfl,ns_end (hie ▸ hI),(Nat.le_refl _)⟩
   ·rintro ss ff ⟨p,rfl,rfl,hp,hpt⟩
    refine sx_seq ?_
    obtain ⟨x,hx⟩:∃ x,t.extract 0 p=x:=⟨_,rfl⟩
    have HX:bytes x=(bytes t).takeWhile notSlash:=by rw [← hx]; exact (cut_at hp).1
    have lx:x.size≤65536:=Nat.le_trans (by rw [← hx]; exact extract_le _ _ _) lt
    by_cases hA:((bytes x).all isDig && !(bytes x).isEmpty)=true
    ·obtain ⟨dx,nx⟩:=dig_parts hA
     have MX:ml ((decVal (bytes x):Nat):Int).natAbs≤65536:=by rw [Int.natAbs_natCast]; exact ml_decVal dx lx
     refine sx_region (xr 2 [(0, .v (.string s)),(2, .p 2 0),(3, .v (.bool false)),(4, .v (.string t)),(5, .v (.bool ng)),(6, .v (.int .i64 ((p:Nat):Int))),(39, .v (.string t)),(40, .v (.int .i64 ((p:Nat):Int)))] [bR4 2 36 false none 0 0 false none 0 0] ?_)
     refine sx_look 41 (.string x) (by kernel_rfl) (by kernel_rfl) (by kernel_rfl) (by kernel_rfl) (by kernel_rfl) (by kernel_rfl) (fun w hE hΦ=>run_strslice 0 p (t:=9) (x:=(Operand.tmp 39)) (lo:=none) (hi:=(some (Operand.tmp 40))) (by kernel_rfl) (by kernel_rfl) (by kernel_rfl) (Or.inl ⟨rfl,rfl⟩) (Or.inr (by kernel_rfl)) (by omega) hpt hx) ?_
     refine xr 0 [(0, .v (.string s)),(2, .p 2 0),(3, .v (.bool false)),(4, .v (.string t)),(5, .v (.bool ng)),(6, .v (.int .i64 ((p:Nat):Int))),(41, .v (.string x))] [bR4 2 36 false none 0 0 false none 0 0] ?_
     refine xc 193 [.string x] 42 (fun x:ShI=>.tuple #[shInt x, .bool true]) _ (fun w hE hΦ=>(NFromDigits_any x _ (by omega)).mono (fun _ _ h=>post_FD h dx nx)) (fun xx=>?_)
     obtain ⟨s12,A12,l12,c12⟩:=xx
     refine xr 6 [(0, .v (.string s)),(2, .p 2 0),(3, .v (.bool false)),(4, .v (.string t)),(5, .v (.bool ng)),(6, .v (.int .i64 ((p:Nat):Int))),(8, .p 8 0),(9, .v (.bool true))] [bI2 8 34 s12 A12 l12 c12,bR4 2 36 false none 0 0 false none 0 0] ?_
     refine xe (sx_next (sx_seq (sx_seq (sx_region (xr 2 [(0, .v (.string s)),(2, .p 2 0),(3, .v (.bool false)),(4, .v (.string t)),(5, .v (.bool ng)),(6, .v (.int .i64 ((p:Nat):Int))),(8, .p 8 0),(46, .v (.bool false))] [bI2 8 34 s12 A12 l12 c12,bR4 2 36 false none 0 0 false none 0 0] ?_)))))
     refine xe (sx_next (xb (sx_skip (sx_next (sx_seq (sx_region (xr 3 [(0, .v (.string s)),(2, .p 2 0),(3, .v (.bool false)),(4, .v (.string t)),(6, .v (.int .i64 ((p:Nat):Int))),(48, .v (.bool ng)),eS1 50 A12 l12 c12] [bR4 2 36 false none 0 0 false none 0 0] ?_)))))))
     refine xc 194 [.bool ng, .slice A12 l12 c12] 51 shInt _ (fun w hE hΦ=>(make1_ret _ _ _ _ hΦ.2.mag).mono (fun _ _ h=>post_Num (by rw [show sg ng ((decVal (bytes x):Int)).natAbs=sg ng (decVal (bytes x)) from by rw [Int.natAbs_natCast]] at h; exact h))) (fun xx=>?_)
     obtain ⟨s13,A13,l13,c13⟩:=xx
     refine xr 3 [(0, .v (.string s)),(2, .p 2 0),(3, .v (.bool false)),(4, .v (.string t)),(6, .v (.int .i64 ((p:Nat):Int))),(10, .p 10 0)] [bR4 10 36 s13 A13 l13 c13 false none 0 0,bR4 2 36 false none 0 0 false none 0 0] ?_
     refine xe (sx_next (sx_seq (sx_seq ?_)))
     by_cases hl:p < t.size
     ·obtain ⟨q,hq⟩:∃ q,t.extract (p + 1) t.size=q:=⟨_,rfl⟩
      have HQ:bytes q=(bytes t).drop (p + 1):=by rw [← hq]; exact (cut_at hp).2
      have lq:q.size≤65536:=Nat.le_trans (by rw [← hq]; exact extract_le _ _ _) lt
      refine sx_region (xr 4 [(0, .v (.string s)),(2, .p 2 0),(3, .v (.bool false)),(4, .v (.string t)),(6, .v (.int .i64 ((p:Nat):Int))),(10, .p 10 0),(56, .v (.bool (decide (((p:Nat):Int) < ((t).size:Int)))))] [bR4 10 36 s13 A13 l13 c13 false none 0 0,bR4 2 36 false none 0 0 false none 0 0] ?_)
      rw [nat_lt hl]
      refine xr 0 [(0, .v (.string s)),(2, .p 2 0),(3, .v (.bool false)),(4, .v (.string t)),(6, .v (.int .i64 ((p:Nat):Int))),(10, .p 10 0),(56, .v (.bool true))] [bR4 10 36 s13 A13 l13 c13 false none 0 0,bR4 2 36 false none 0 0 false none 0 0] ?_
      refine xe (sx_next (xa (sx_seq ?_)))
      by_cases hQ:((bytes q).all isDig && !(bytes q).isEmpty)=true
      ·obtain ⟨dq,nq⟩:=dig_parts hQ
       have MQ:ml ((decVal (bytes q):Nat):Int).natAbs≤65536:=by rw [Int.natAbs_natCast]; exact ml_decVal dq lq
       refine sx_region (xr 3 [(0, .v (.string s)),(2, .p 2 0),(3, .v (.bool false)),(10, .p 10 0),(58, .v (.string t)),(60, .v (.int .i64 (IntKind.i64.wrap (((p:Nat):Int) + 1))))] [bR4 10 36 s13 A13 l13 c13 false none 0 0,bR4 2 36 false none 0 0 false none 0 0] ?_)
       rw [nat_wrap1 (a:=p) (by omega)]
       refine sx_look 61 (.string q) (by kernel_rfl) (by kernel_rfl) (by kernel_rfl) (by kernel_rfl) (by kernel_rfl) (by kernel_rfl) (fun w hE hΦ=>run_strslice (p + 1) _ (t:=9) (x:=(Operand.tmp 58)) (lo:=(some (Operand.tmp 60))) (hi:=none) (by kernel_rfl) (by kernel_rfl) (by kernel_rfl) (Or.inr (by kernel_rfl)) (Or.inl ⟨rfl,rfl⟩) (by omega) (Nat.le_refl _) hq) ?_
       refine xr 0 [(0, .v (.string s)),(2, .p 2 0),(3, .v (.bool false)),(10, .p 10 0),(61, .v (.string q))] [bR4 10 36 s13 A13 l13 c13 false none 0 0,bR4 2 36 false none 0 0 false none 0 0] ?_
       refine xc 193 [.string q] 62 (fun x:ShI=>.tuple #[shInt x, .bool true]) _ (fun w hE hΦ=>(NFromDigits_any q _ (by omega)).mono (fun _ _ h=>post_FD h dq nq)) (fun xx=>?_)
       obtain ⟨s14,A14,l14,c14⟩:=xx
       refine xr 6 [(0, .v (.string s)),(2, .p 2 0),(3, .v (.bool false)),(10, .p 10 0),(11, .p 11 0),(12, .v (.bool true))] [bI2 11 34 s14 A14 l14 c14,bR4 10 36 s13 A13 l13 c13 false none 0 0,bR4 2 36 false none 0 0 false none 0 0] ?_
       refine xe (sx_next (sx_seq (sx_seq ?_)))
       by_cases hz:decVal (bytes q)=0
       ·refine sx_region (xr 4 [(0, .v (.string s)),(2, .p 2 0),(3, .v (.bool false)),(10, .p 10 0),(11, .p 11 0),(67, .v (.bool false)),eI2 68 s14 A14 l14 c14] [bI2 11 34 s14 A14 l14 c14,bR4 10 36 s13 A13 l13 c13 false none 0 0,bR4 2 36 false none 0 0 false none 0 0] ?_)
        refine xc 195 [vI2 s14 A14 l14 c14] 69 (fun _:Unit=>.int .i64 ((decVal (bytes q):Int)).sign) _ (fun w hE hΦ=>(NSign_any _ ((decVal (bytes q):Int)) _ hΦ.2).mono (fun _ _ h=>post_val h rfl)) (fun xx=>?_)
        refine xr 1 [(0, .v (.string s)),(2, .p 2 0),(3, .v (.bool false)),(10, .p 10 0),(11, .p 11 0),(67, .v (.bool false)),(70, .v (.bool ((((decVal (bytes q):Int)).sign:Int) == 0)))] [bI2 11 34 s14 A14 l14 c14,bR4 10 36 s13 A13 l13 c13 false none 0 0,bR4 2 36 false none 0 0 false none 0 0] ?_
        rw [sgn_zero hz]
        refine xr 1 [(0, .v (.string s)),(2, .p 2 0),(3, .v (.bool false)),(10, .p 10 0),(11, .p 11 0),(71, .v (.bool true))] [bI2 11 34 s14 A14 l14 c14,bR4 10 36 s13 A13 l13 c13 false none 0 0,bR4 2 36 false none 0 0 false none 0 0] ?_
        refine xe (sx_next (xa (sx_seq (sx_region (xr 3 [(0, .v (.string s)),(2, .p 2 0),(3, .v (.bool false)),(10, .p 10 0),(11, .p 11 0)] [bI2 11 34 s14 A14 l14 c14,bR4 10 36 s13 A13 l13 c13 false none 0 0,bR4 2 36 false none 0 0 false none 0 0] ?_)))))
        refine xe (sx_next (sx_ret (sx_then_ret (sx_then_ret ?_))))
        refine sx_done (v:=.tuple #[.agg #[.bool false, .slice none 0 0, .bool false, .slice none 0 0], .bool false]) (by kernel_rfl) (fun w' hE hΦ=>?_)
        exact ⟨_,false,0,rfl,hE,NRatIs.nil _,Or.inr ⟨rfl,by rw [← nread_eq]; exact nread_bad2 HM (by rw [← HX]; exact hA) (by rw [← hp,bytes_length]; exact hl) (by rw [← hp,← HQ]; exact Or.inr hz)⟩⟩
       ·refine sx_region (xr 4 [(0, .v (.string s)),(2, .p 2 0),(3, .v (.bool false)),(10, .p 10 0),(11, .p 11 0),(67, .v (.bool false)),eI2 68 s14 A14 l14 c14] [bI2 11 34 s14 A14 l14 c14,bR4 10 36 s13 A13 l13 c13 false none 0 0,bR4 2 36 false none 0 0 false none 0 0] ?_)
        refine xc 195 [vI2 s14 A14 l14 c14] 69 (fun _:Unit=>.int .i64 ((decVal (bytes q):Int)).sign) _ (fun w hE hΦ=>(NSign_any _ ((decVal (bytes q):Int)) _ hΦ.2).mono (fun _ _ h=>post_val h rfl)) (fun xx=>?_)
        refine xr 1 [(0, .v (.string s)),(2, .p 2 0),(3, .v (.bool false)),(10, .p 10 0),(11, .p 11 0),(67, .v (.bool false)),(70, .v (.bool ((((decVal (bytes q):Int)).sign:Int) == 0)))] [bI2 11 34 s14 A14 l14 c14,bR4 10 36 s13 A13 l13 c13 false none 0 0,bR4 2 36 false none 0 0 false none 0 0] ?_
        rw [sgn_nzero hz]
        refine xr 1 [(0, .v (.string s)),(2, .p 2 0),(3, .v (.bool false)),(10, .p 10 0),(11, .p 11 0),(71, .v (.bool false))] [bI2 11 34 s14 A14 l14 c14,bR4 10 36 s13 A13 l13 c13 false none 0 0,bR4 2 36 false none 0 0 false none 0 0] ?_
        refine xe (sx_next (xb (sx_skip (sx_next (sx_region (xr 3 [(0, .v (.string s)),(2, .p 2 0),(3, .v (.bool false)),(10, .p 10 0),eI2 74 s13 A13 l13 c13,eI2 75 s14 A14 l14 c14] [bR4 10 36 s13 A13 l13 c13 false none 0 0,bR4 2 36 false none 0 0 false none 0 0] ?_))))))
        refine xc 146 [vI2 s13 A13 l13 c13,vI2 s14 A14 l14 c14] 76 shRat _ (fun w hE hΦ=>(NFrac_any _ _ (sg ng (decVal (bytes x))) ((decVal (bytes q):Int)) _ hΦ.1.1.2 hΦ.1.2 (rd_fit (by rw [sg_ml]; rw [Int.natAbs_natCast] at MX; exact MX)) (rd_fit MQ) (rd_nz hz)).mono (fun _ _ h=>post_NRat h)) (fun xx=>?_)
        obtain ⟨s15,A15,l15,c15,t15,B15,m15,d15⟩:=xx
        refine xr 1 [(0, .v (.string s)),(2, .p 2 0),(3, .v (.bool false)),(10, .p 10 0)] [bR4 10 36 s15 A15 l15 c15 t15 B15 m15 d15,bR4 2 36 false none 0 0 false none 0 0] ?_
        refine xe (sx_next (sx_seq ?_))
        refine sx_draw 7 (by kernel_rfl) (by kernel_rfl) follows_mixed' ?_
        refine xf 2 [(0, .v (.string s)),(2, .p 2 0),(3, .v (.bool false)),eR4 77 s15 A15 l15 c15 t15 B15 m15 d15,eR4 78 s15 A15 l15 c15 t15 B15 m15 d15] [bR4 10 36 s15 A15 l15 c15 t15 B15 m15 d15,bR4 2 36 false none 0 0 false none 0 0] ?_
        refine xd 28 [vR4 s15 A15 l15 c15 t15 B15 m15 d15] 79 (fun _:Unit=>.string ⟨(ratText (Rat.divInt (sg ng (decVal (bytes x))) ((decVal (bytes q):Int)))).toArray⟩) _ (fun w hE hΦ=>(NText_all _ (Rat.divInt (sg ng (decVal (bytes x))) ((decVal (bytes q):Int))) _ hΦ.2 (Nat.le_trans (frac_ml (rd_nz hz)).1 (by rw [sg_ml]; rw [Int.natAbs_natCast] at MX; exact MX)) (Nat.le_trans (frac_ml (rd_nz hz)).2 MQ)).mono (fun _ _ h=>post_val h rfl)) (fun xx=>?_)
        refine xf 4 [(2, .p 2 0),(3, .v (.bool ((⟨(ratText (Rat.divInt (sg ng (decVal (bytes x))) ((decVal (bytes q):Int)))).toArray⟩:ByteArray).toList == (s:ByteArray).toList)))] [bR4 2 36 s15 A15 l15 c15 t15 B15 m15 d15,bR4 10 36 s15 A15 l15 c15 t15 B15 m15 d15,bR4 2 36 false none 0 0 false none 0 0] ?_
        refine xz (xe (sx_next (sx_ret ?_)))
        refine sx_done (v:=.tuple #[.agg #[.bool s15, .slice A15 l15 c15, .bool t15, .slice B15 m15 d15], .bool ((⟨(ratText (Rat.divInt (sg ng (decVal (bytes x))) ((decVal (bytes q):Int)))).toArray⟩:ByteArray).toList == (s:ByteArray).toList)]) (by kernel_rfl) (fun w' hE hΦ=>?_)
        exact ⟨_,_,_,rfl,hE,hΦ.1.2,read_end (by rw [nread_frac HM (by rw [← HX]; exact hA) (by rw [← hp,bytes_length]; exact hl) (by rw [← hp,← HQ]; exact hQ) (by rw [← hp,← HQ]; exact hz),← hp,← HQ,← HX]) str_dec⟩
      ·refine sx_region (xr 3 [(0, .v (.string s)),(2, .p 2 0),(3, .v (.bool false)),(10, .p 10 0),(58, .v (.string t)),(60, .v (.int .i64 (IntKind.i64.wrap (((p:Nat):Int) + 1))))] [bR4 10 36 s13 A13 l13 c13 false none 0 0,bR4 2 36 false none 0 0 false none 0 0] ?_)
       rw [nat_wrap1 (a:=p) (by omega)]
       refine sx_look 61 (.string q) (by kernel_rfl) (by kernel_rfl) (by kernel_rfl) (by kernel_rfl) (by kernel_rfl) (by kernel_rfl) (fun w hE hΦ=>run_strslice (p + 1) _ (t:=9) (x:=(Operand.tmp 58)) (lo:=(some (Operand.tmp 60))) (hi:=none) (by kernel_rfl) (by kernel_rfl) (by kernel_rfl) (Or.inr (by kernel_rfl)) (Or.inl ⟨rfl,rfl⟩) (by omega) (Nat.le_refl _) hq) ?_
       refine xr 0 [(0, .v (.string s)),(2, .p 2 0),(3, .v (.bool false)),(10, .p 10 0),(61, .v (.string q))] [bR4 10 36 s13 A13 l13 c13 false none 0 0,bR4 2 36 false none 0 0 false none 0 0] ?_
       refine xc 193 [.string q] 62 (fun x:ShI=>.tuple #[shInt x, .bool false]) _ (fun w hE hΦ=>(NFromDigits_any q _ (by omega)).mono (fun _ _ h=>post_FDf h hQ)) (fun xx=>?_)
       obtain ⟨s16,A16,l16,c16⟩:=xx
       refine xr 6 [(0, .v (.string s)),(2, .p 2 0),(3, .v (.bool false)),(10, .p 10 0),(11, .p 11 0),(12, .v (.bool false))] [bI2 11 34 s16 A16 l16 c16,bR4 10 36 s13 A13 l13 c13 false none 0 0,bR4 2 36 false none 0 0 false none 0 0] ?_
       refine xe (sx_next (sx_seq (sx_seq (sx_region (xr 7 [(0, .v (.string s)),(2, .p 2 0),(3, .v (.bool false)),(10, .p 10 0),(11, .p 11 0),(71, .v (.bool true))] [bI2 11 34 s16 A16 l16 c16,bR4 10 36 s13 A13 l13 c13 false none 0 0,bR4 2 36 false none 0 0 false none 0 0] ?_)))))
       refine xe (sx_next (xa (sx_seq (sx_region (xr 3 [(0, .v (.string s)),(2, .p 2 0),(3, .v (.bool false)),(10, .p 10 0),(11, .p 11 0)] [bI2 11 34 s16 A16 l16 c16,bR4 10 36 s13 A13 l13 c13 false none 0 0,bR4 2 36 false none 0 0 false none 0 0] ?_)))))
       refine xe (sx_next (sx_ret (sx_then_ret (sx_then_ret ?_))))
       refine sx_done (v:=.tuple #[.agg #[.bool false, .slice none 0 0, .bool false, .slice none 0 0], .bool false]) (by kernel_rfl) (fun w' hE hΦ=>?_)
       exact ⟨_,false,0,rfl,hE,NRatIs.nil _,Or.inr ⟨rfl,by rw [← nread_eq]; exact nread_bad2 HM (by rw [← HX]; exact hA) (by rw [← hp,bytes_length]; exact hl) (by rw [← hp,← HQ]; exact Or.inl (Bool.eq_false_iff.2 hQ))⟩⟩
     ·refine sx_region (xr 4 [(0, .v (.string s)),(2, .p 2 0),(3, .v (.bool false)),(4, .v (.string t)),(6, .v (.int .i64 ((p:Nat):Int))),(10, .p 10 0),(56, .v (.bool (decide (((p:Nat):Int) < ((t).size:Int)))))] [bR4 10 36 s13 A13 l13 c13 false none 0 0,bR4 2 36 false none 0 0 false none 0 0] ?_)
      rw [nat_nlt hl]
      refine xr 0 [(0, .v (.string s)),(2, .p 2 0),(3, .v (.bool false)),(4, .v (.string t)),(6, .v (.int .i64 ((p:Nat):Int))),(10, .p 10 0),(56, .v (.bool false))] [bR4 10 36 s13 A13 l13 c13 false none 0 0,bR4 2 36 false none 0 0 false none 0 0] ?_
      refine xe (sx_next (xb (sx_skip (sx_next (sx_seq ?_)))))
      refine sx_draw 7 (by kernel_rfl) (by kernel_rfl) follows_mixed' ?_
      refine xf 2 [(0, .v (.string s)),(2, .p 2 0),(3, .v (.bool false)),eR4 77 s13 A13 l13 c13 false none 0 0,eR4 78 s13 A13 l13 c13 false none 0 0] [bR4 10 36 s13 A13 l13 c13 false none 0 0,bR4 2 36 false none 0 0 false none 0 0] ?_
      refine xd 28 [vR4 s13 A13 l13 c13 false none 0 0] 79 (fun _:Unit=>.string ⟨(ratText (((sg ng (decVal (bytes x)):Int):Rat))).toArray⟩) _ (fun w hE hΦ=>(NText_all _ (((sg ng (decVal (bytes x)):Int):Rat)) _ (NRatIs.whole hΦ.2) (by show ml (sg ng (decVal (bytes x))).natAbs≤_; rw [sg_ml]; rw [Int.natAbs_natCast] at MX; exact MX) ml_one').mono (fun _ _ h=>post_val h rfl)) (fun xx=>?_)
      refine xf 4 [(2, .p 2 0),(3, .v (.bool ((⟨(ratText (((sg ng (decVal (bytes x)):Int):Rat))).toArray⟩:ByteArray).toList == (s:ByteArray).toList)))] [bR4 2 36 s13 A13 l13 c13 false none 0 0,bR4 10 36 s13 A13 l13 c13 false none 0 0,bR4 2 36 false none 0 0 false none 0 0] ?_
      refine xz (xe (sx_next (sx_ret ?_)))
      refine sx_done (v:=.tuple #[.agg #[.bool s13, .slice A13 l13 c13, .bool false, .slice none 0 0], .bool ((⟨(ratText (((sg ng (decVal (bytes x)):Int):Rat))).toArray⟩:ByteArray).toList == (s:ByteArray).toList)]) (by kernel_rfl) (fun w' hE hΦ=>?_)
      exact ⟨_,_,_,rfl,hE,(NRatIs.whole hΦ.1.2),read_end (by rw [nread_whole HM (by rw [← HX]; exact hA) (by rw [← hp,bytes_length]; omega),← HX]) str_dec⟩
    ·refine sx_region (xr 2 [(0, .v (.string s)),(2, .p 2 0),(3, .v (.bool false)),(4, .v (.string t)),(5, .v (.bool ng)),(6, .v (.int .i64 ((p:Nat):Int))),(39, .v (.string t)),(40, .v (.int .i64 ((p:Nat):Int)))] [bR4 2 36 false none 0 0 false none 0 0] ?_)
     refine sx_look 41 (.string x) (by kernel_rfl) (by kernel_rfl) (by kernel_rfl) (by kernel_rfl) (by kernel_rfl) (by kernel_rfl) (fun w hE hΦ=>run_strslice 0 p (t:=9) (x:=(Operand.tmp 39)) (lo:=none) (hi:=(some (Operand.tmp 40))) (by kernel_rfl) (by kernel_rfl) (by kernel_rfl) (Or.inl ⟨rfl,rfl⟩) (Or.inr (by kernel_rfl)) (by omega) hpt hx) ?_
     refine xr 0 [(0, .v (.string s)),(2, .p 2 0),(3, .v (.bool false)),(4, .v (.string t)),(5, .v (.bool ng)),(6, .v (.int .i64 ((p:Nat):Int))),(41, .v (.string x))] [bR4 2 36 false none 0 0 false none 0 0] ?_
     refine xc 193 [.string x] 42 (fun x:ShI=>.tuple #[shInt x, .bool false]) _ (fun w hE hΦ=>(NFromDigits_any x _ (by omega)).mono (fun _ _ h=>post_FDf h hA)) (fun xx=>?_)
     obtain ⟨s17,A17,l17,c17⟩:=xx
     refine xr 6 [(0, .v (.string s)),(2, .p 2 0),(3, .v (.bool false)),(4, .v (.string t)),(5, .v (.bool ng)),(6, .v (.int .i64 ((p:Nat):Int))),(8, .p 8 0),(9, .v (.bool false))] [bI2 8 34 s17 A17 l17 c17,bR4 2 36 false none 0 0 false none 0 0] ?_
     refine xe (sx_next (sx_seq (sx_seq (sx_region (xr 2 [(0, .v (.string s)),(2, .p 2 0),(3, .v (.bool false)),(4, .v (.string t)),(5, .v (.bool ng)),(6, .v (.int .i64 ((p:Nat):Int))),(8, .p 8 0),(46, .v (.bool true))] [bI2 8 34 s17 A17 l17 c17,bR4 2 36 false none 0 0 false none 0 0] ?_)))))
     refine xe (sx_next (xa (sx_seq (sx_region (xr 3 [(0, .v (.string s)),(2, .p 2 0),(3, .v (.bool false)),(4, .v (.string t)),(5, .v (.bool ng)),(6, .v (.int .i64 ((p:Nat):Int))),(8, .p 8 0)] [bI2 8 34 s17 A17 l17 c17,bR4 2 36 false none 0 0 false none 0 0] ?_)))))
     refine xe (sx_next (sx_ret (sx_then_ret ?_)))
     refine sx_done (v:=.tuple #[.agg #[.bool false, .slice none 0 0, .bool false, .slice none 0 0], .bool false]) (by kernel_rfl) (fun w' hE hΦ=>?_)
     exact ⟨_,false,0,rfl,hE,NRatIs.nil _,Or.inr ⟨rfl,by rw [← nread_eq]; exact nread_bad1 HM (by rw [← HX]; exact Bool.eq_false_iff.2 hA)⟩⟩
end Go.Proofs.YtbgkofgoeoiciaaGreatDoor

namespace Go.Proofs.YtbgkofgoeoiciaaGreatDoor
open Go.RowKit
theorem opt_two {α:Type} (o:Option α):o=none∨∃ x,o=some x:=by cases o; exact Or.inl rfl; exact Or.inr ⟨_,rfl⟩
section
variable {w w':World} {e:Ending} {l:List UInt8}
theorem post_Read_none (h:RetRead w l e w') (hr:readF l=none):PostC (fun x:ShQ=>.tuple #[shRat x, .bool false]) (fun x w=>RatIs w (shRat x) 0) w e w':=by
 obtain ⟨v,ok,rfl,hE,⟨rfl,q,h1,h2⟩ | ⟨rfl,h1,h2⟩⟩:=h
 ·rw [hr] at h1; cases h1
 ·obtain ⟨s,A,l,c,t,B,m,d,rfl⟩:=h2.shp
  exact ⟨(s,A,l,c,t,B,m,d),rfl,hE,boxn hE (fun S w'' hS hF=>h2.nrb hS hF)⟩
theorem post_Read_some {q:Rat} (h:RetRead w l e w') (hr:readF l=some q):PostC (fun x:ShQ=>.tuple #[shRat x, .bool true]) (fun x w=>RatIs w (shRat x) q) w e w':=by
 obtain ⟨v,ok,rfl,hE,⟨rfl,q,h1,h2⟩ | ⟨rfl,h1,h2⟩⟩:=h
 ·rw [hr] at h1; injection h1 with h1; subst h1
  obtain ⟨s,A,l,c,t,B,m,d,rfl⟩:=h2.shp
  exact ⟨(s,A,l,c,t,B,m,d),rfl,hE,boxn hE (fun S w'' hS hF=>h2.nrb hS hF)⟩
 ·rw [hr] at h1; cases h1
theorem post_NRead_none (h:RetNRead w l e w') (hr:readF l=none):PostC (fun x:ShQ=>.tuple #[shRat x, .bool false]) (fun x w=>∃ q,NRatIs w (shRat x) q) w e w':=by
 obtain ⟨v,ok,q,rfl,hE,h2,⟨rfl,h1⟩ | ⟨rfl,h1⟩⟩:=h
 ·rw [hr] at h1; cases h1
 ·obtain ⟨s,A,l,c,t,B,m,d,rfl⟩:=h2.shp
  exact ⟨(s,A,l,c,t,B,m,d),rfl,hE,boxn hE (fun S w'' hS hF=>⟨q,h2.nrb hS hF⟩)⟩
theorem post_NRead_some {q:Rat} (h:RetNRead w l e w') (hr:readF l=some q):PostC (fun x:ShQ=>.tuple #[shRat x, .bool true]) (fun x w=>NRatIs w (shRat x) q) w e w':=by
 obtain ⟨v,ok,q',rfl,hE,h2,⟨rfl,h1⟩ | ⟨rfl,h1⟩⟩:=h
 ·rw [hr] at h1; injection h1 with h1; subst h1
  obtain ⟨s,A,l,c,t,B,m,d,rfl⟩:=h2.shp
  exact ⟨(s,A,l,c,t,B,m,d),rfl,hE,boxn hE (fun S w'' hS hF=>h2.nrb hS hF)⟩
 ·rw [hr] at h1; cases h1
end
end Go.Proofs.YtbgkofgoeoiciaaGreatDoor

namespace Go.Proofs.YtbgkofgoeoiciaaGreatDoor
open Go.RowKit
def Dq (q:Rat) (k:Nat):Prop:=q.num.natAbs < 10 ^ k∧q.den < 10 ^ k
theorem pow_lt_mul {x y j k:Nat} (hx:x < 10 ^ j) (hy:y < 10 ^ k):x * y < 10 ^ (j + k):=by
 have:=Nat.mul_lt_mul'' hx hy
 rwa [← Nat.pow_add] at this
theorem Dq.up {q:Rat} {j k:Nat} (h:Dq q j) (hk:j≤k):Dq q k :=
 ⟨Nat.lt_of_lt_of_le h.1 (Nat.pow_le_pow_right (by omega) hk),Nat.lt_of_lt_of_le h.2 (Nat.pow_le_pow_right (by omega) hk)⟩
theorem Dq.neg {q:Rat} {k:Nat} (h:Dq q k):Dq (-q) k:=neg_small h
theorem Dq.mul {p q:Rat} {j k:Nat} (h:Dq p j) (h':Dq q k):Dq (p * q) (j + k) :=
 frac_small (Int.mul_ne_zero (denI p) (denI q)) (rat_mul_frac p q) (by rw [Int.natAbs_mul]; exact pow_lt_mul h.1 h'.1) (by rw [Int.natAbs_mul,Int.natAbs_natCast,Int.natAbs_natCast]; exact pow_lt_mul h.2 h'.2)
theorem Dq.add {p q:Rat} {j k:Nat} (h:Dq p j) (h':Dq q k):Dq (p + q) (j + k + 1):=by
 have m1:=pow_lt_mul h.1 h'.2
 have m2:=pow_lt_mul h'.1 h.2
 rw [Nat.add_comm k j] at m2
 refine frac_small (Int.mul_ne_zero (denI p) (denI q)) (rat_add_frac p q) ?_ ?_
 ·have:=Int.natAbs_add_le (p.num * q.den) (q.num * p.den)
  rw [Int.natAbs_mul,Int.natAbs_mul,Int.natAbs_natCast,Int.natAbs_natCast] at this
  rw [Nat.pow_succ]; omega
 ·rw [Int.natAbs_mul,Int.natAbs_natCast,Int.natAbs_natCast]
  have:=pow_lt_mul h.2 h'.2
  rw [Nat.pow_succ]; omega
theorem Dq.int {d:Int} {k:Nat} (h:d.natAbs < 10 ^ k) (hk:1≤k):Dq (d:Rat) k:=⟨h,Nat.one_lt_pow (by omega) (by omega)⟩
theorem Dq.zero {k:Nat} (hk:1≤k):Dq 0 k:=⟨Nat.pow_pos (by omega),Nat.one_lt_pow (by omega) (by omega)⟩
theorem wl_ten {x k:Nat} (h:x < 10 ^ k) (hk:k≤722):wl x≤38:=by
 obtain ⟨n,hn⟩:∃ n,38=n:=⟨_,rfl⟩
 rw [hn]
 have h1:x < 10 ^ (19 * n):=Nat.lt_of_lt_of_le h (Nat.pow_le_pow_right (by omega) (by omega))
 have h2:(10 ^ 19) ^ n≤W64 ^ n:=Nat.pow_le_pow_left (by rw [W64_eq]; decide) n
 rw [← Nat.pow_mul] at h2
 exact wl_le_iff.2 (Nat.lt_of_lt_of_le h1 h2)
theorem Dq.fit {q:Rat} {k:Nat} (h:Dq q k) (hk:k≤722):QFits q 38:=⟨wl_ten h.1 hk,wl_ten h.2 hk⟩
theorem Dq.rfit {q:Rat} {k:Nat} (h:Dq q k) (hk:k≤100000):RFits q:=small_fits h hk
structure Sz (x:Sd) (k:Nat):Prop where
 a:Dq x.a k
 b:Dq x.b k
 lo:1≤x.d
 hi:x.d≤1000000
theorem Sz.d {x:Sd} {k:Nat} (h:Sz x k):Dq (x.d:Rat) 7:=by
 have h1:=h.lo; have h2:=h.hi
 exact Dq.int (k:=7) (by rw [show (10:Nat) ^ 7=10000000 by decide]; omega) (by decide)
theorem nv_sz {a b:Rat} {d:Int} {k:Nat} (ha:Dq a k) (hb:Dq b k) (h1:1≤d) (h2:d≤1000000):Sz (nv a b d) k:=by
 refine ⟨by rw [nv_a]; exact ha,by rw [nv_b]; exact hb,?_,?_⟩<;>unfold nv<;>split<;>first | exact h1 | exact h2 | exact (by decide:(1:Int)≤1) | exact (by decide:(1:Int)≤1000000)
theorem Sz.max {x y:Sd} {j k:Nat} (h:Sz x j) (h':Sz y k):1≤max x.d y.d∧max x.d y.d≤1000000:=by
 have h1:=h.lo; have h2:=h.hi; have h3:=h'.lo; have h4:=h'.hi
 omega
theorem Dq.imax {x y:Sd} {j k:Nat} (h:Sz x j) (h':Sz y k):Dq ((max x.d y.d:Int):Rat) 7:=by
 obtain ⟨h1,h2⟩:=h.max h'
 exact Dq.int (k:=7) (by rw [show (10:Nat) ^ 7=10000000 by decide]; omega) (by decide)
theorem Sz.conj {x:Sd} {k:Nat} (h:Sz x k):Sz x.conj k:=⟨h.a,h.b.neg,h.lo,h.hi⟩
theorem Sz.times {x y:Sd} {j k:Nat} (h:Sz x j) (h':Sz y k):Sz (x.times y) (2 * (j + k) + 8) :=
 nv_sz (((h.a.mul h'.a).add ((h.b.mul h'.b).mul (Dq.imax h h'))).up (by omega)) (((h.a.mul h'.b).add (h.b.mul h'.a)).up (by omega)) (h.max h').1 (h.max h').2
theorem Sz.norm {x:Sd} {k:Nat} (h:Sz x k):Dq x.norm (4 * k + 8):=(h.times h.conj).a.up (by omega)
theorem Sd.Ok.dle {x:Sd} (h:x.Ok):1≤x.d∧x.d≤1000000:=by
 rcases h with ⟨h,_⟩ | ⟨h1,h2,_⟩<;>omega
-- structs
abbrev vV9 (x:Bool) (A:Option Addr) (l c:Nat) (y:Bool) (B:Option Addr) (m d:Nat) (x':Bool) (A':Option Addr) (l' c':Nat) (y':Bool) (B':Option Addr) (m' d':Nat) (k:Int):Value:=.agg #[.bool x, .slice A l c, .bool y, .slice B m d, .bool x', .slice A' l' c', .bool y', .slice B' m' d', .int .i64 k]
abbrev bV9 (n:Nat) (t:TypeId) (x:Bool) (A:Option Addr) (l c:Nat) (y:Bool) (B:Option Addr) (m d:Nat) (x':Bool) (A':Option Addr) (l' c':Nat) (y':Bool) (B':Option Addr) (m' d':Nat) (k:Int):Nat × TypeId × List AV:=(n,t,[.v (.bool x), .v (.slice A l c), .v (.bool y), .v (.slice B m d), .v (.bool x'), .v (.slice A' l' c'), .v (.bool y'), .v (.slice B' m' d'), .v (.int .i64 k)])
theorem bool2 (b:Bool):b=true∨b=false:=by cases b<;>simp
theorem imax_eq (a b:Int):(if b > a then b else a)=max a b:=by omega
abbrev ShS:=ShQ × ShQ
def shSd (d:Int) (x:ShS):Value:=.agg #[.bool x.1.1, .slice x.1.2.1 x.1.2.2.1 x.1.2.2.2.1, .bool x.1.2.2.2.2.1, .slice x.1.2.2.2.2.2.1 x.1.2.2.2.2.2.2.1 x.1.2.2.2.2.2.2.2,
 .bool x.2.1, .slice x.2.2.1 x.2.2.2.1 x.2.2.2.2.1, .bool x.2.2.2.2.2.1, .slice x.2.2.2.2.2.2.1 x.2.2.2.2.2.2.2.1 x.2.2.2.2.2.2.2.2, .int .i64 d]
def SdIs (w:World) (v:Value) (x:Sd):Prop:=∃ y:ShS,v=shSd x.d y∧RatIs w (shRat y.1) x.a∧RatIs w (shRat y.2) x.b
def RSdIs (w:World) (v:Value) (x:Sd):Prop:=∃ y:ShS,v=shSd x.d y∧NRatIs w (shRat y.1) x.a∧NRatIs w (shRat y.2) x.b
def RetSd (w:World) (x:Sd) (e:Ending) (w':World):Prop:=∃ v,e=.returned v∧SdIs w' v x∧Ext w w'
def RetRSd (w:World) (x:Sd) (e:Ending) (w':World):Prop:=∃ v,e=.returned v∧RSdIs w' v x∧Ext w w'
section
variable {s t s' t':Bool} {A B A' B':Option Addr} {l c m d l' c' m' d':Nat} {w w':World} {e:Ending} {v:Value} {x:Sd} {a b:Rat} {k:Int}
theorem SdIs.of (h1:RatIs w (.agg #[.bool s, .slice A l c, .bool t, .slice B m d]) a) (h2:RatIs w (.agg #[.bool s', .slice A' l' c', .bool t', .slice B' m' d']) b) :
 SdIs w (.agg #[.bool s, .slice A l c, .bool t, .slice B m d, .bool s', .slice A' l' c', .bool t', .slice B' m' d', .int .i64 k]) ⟨a,b,k⟩:=⟨((s,A,l,c,t,B,m,d),(s',A',l',c',t',B',m',d')),rfl,h1,h2⟩
theorem RSdIs.of (h1:NRatIs w (.agg #[.bool s, .slice A l c, .bool t, .slice B m d]) a) (h2:NRatIs w (.agg #[.bool s', .slice A' l' c', .bool t', .slice B' m' d']) b) :
 RSdIs w (.agg #[.bool s, .slice A l c, .bool t, .slice B m d, .bool s', .slice A' l' c', .bool t', .slice B' m' d', .int .i64 k]) ⟨a,b,k⟩:=⟨((s,A,l,c,t,B,m,d),(s',A',l',c',t',B',m',d')),rfl,h1,h2⟩
theorem post_Sd (h:RetSd w x e w'):PostC (shSd x.d) (fun y w=>RatIs w (shRat y.1) x.a∧RatIs w (shRat y.2) x.b) w e w':=by
 obtain ⟨v,rfl,⟨y,rfl,h1,h2⟩,hE⟩:=h
 exact ⟨y,rfl,hE,boxn hE (fun S w'' hS hF=>⟨h1.nrb hS hF,h2.nrb hS hF⟩)⟩
theorem post_RSd (h:RetRSd w x e w'):PostC (shSd x.d) (fun y w=>NRatIs w (shRat y.1) x.a∧NRatIs w (shRat y.2) x.b) w e w':=by
 obtain ⟨v,rfl,⟨y,rfl,h1,h2⟩,hE⟩:=h
 exact ⟨y,rfl,hE,boxn hE (fun S w'' hS hF=>⟨h1.nrb hS hF,h2.nrb hS hF⟩)⟩
end
-- reading
noncomputable def rdS (a b:List UInt8) (d:Int):Option Sd :=
 match readF a,readF b with
 | some p,some q=>@ite _ (Sd.Ok ⟨p,q,d⟩) (Classical.propDecidable _) (some ⟨p,q,d⟩) none
 | _,_=>none
theorem rdS_some {a b:List UInt8} {d:Int} {p q:Rat} (h1:readF a=some p) (h2:readF b=some q) (h:Sd.Ok ⟨p,q,d⟩):rdS a b d=some ⟨p,q,d⟩:=by
 unfold rdS; rw [h1,h2]; exact if_pos h
theorem rdS_no {a b:List UInt8} {d:Int} {p q:Rat} (h1:readF a=some p) (h2:readF b=some q) (h:¬ Sd.Ok ⟨p,q,d⟩):rdS a b d=none:=by
 unfold rdS; rw [h1,h2]; exact if_neg h
theorem rdS_no1 {a b:List UInt8} {d:Int} (h1:readF a=none):rdS a b d=none:=by
 unfold rdS; rw [h1]
theorem rdS_no2 {a b:List UInt8} {d:Int} (h1:readF b=none):rdS a b d=none:=by
 unfold rdS; rw [h1]; split<;>simp_all
theorem rdS_spec {a b:List UInt8} {d:Int} {x:Sd} (h:rdS a b d=some x):readF a=some x.a∧readF b=some x.b∧x.d=d∧x.Ok:=by
 unfold rdS at h
 split at h
 ·rename_i p q h1 h2
  split at h
  ·rename_i hk
   injection h with h; subst h
   exact ⟨h1,h2,rfl,hk⟩
  ·cases h
 ·cases h
theorem rdS_sz {a b:List UInt8} {d:Int} {x:Sd} {k:Nat} (h:rdS a b d=some x) (ha:a.length≤k) (hb:b.length≤k) (hk:1≤k):Sz x k:=by
 obtain ⟨h1,h2,_,h4⟩:=rdS_spec h
 exact ⟨readF_dec h1 ha hk,readF_dec h2 hb hk,h4.dle.1,h4.dle.2⟩
def RetRd (w:World) (o:Option Sd) (e:Ending) (w':World):Prop:=∃ v ok x,e=.returned (.tuple #[v, .bool ok])∧SdIs w' v x∧Ext w w'∧((ok=true∧o=some x)∨(ok=false∧o=none))
def RetRRd (w:World) (o:Option Sd) (e:Ending) (w':World):Prop:=∃ v ok x,e=.returned (.tuple #[v, .bool ok])∧RSdIs w' v x∧Ext w w'∧((ok=true∧o=some x)∨(ok=false∧o=none))
section
variable {w w':World} {e:Ending} {o:Option Sd}
theorem post_Rd_some {x:Sd} (h:RetRd w o e w') (ho:o=some x):PostC (fun y:ShS=>.tuple #[shSd x.d y, .bool true]) (fun y w=>RatIs w (shRat y.1) x.a∧RatIs w (shRat y.2) x.b) w e w':=by
 obtain ⟨v,ok,x',rfl,⟨y,rfl,h1,h2⟩,hE,⟨rfl,h⟩ | ⟨rfl,h⟩⟩:=h
 ·rw [ho] at h; injection h with h; subst h
  exact ⟨y,rfl,hE,boxn hE (fun S w'' hS hF=>⟨h1.nrb hS hF,h2.nrb hS hF⟩)⟩
 ·rw [ho] at h; cases h
theorem post_RRd_some {x:Sd} (h:RetRRd w o e w') (ho:o=some x):PostC (fun y:ShS=>.tuple #[shSd x.d y, .bool true]) (fun y w=>NRatIs w (shRat y.1) x.a∧NRatIs w (shRat y.2) x.b) w e w':=by
 obtain ⟨v,ok,x',rfl,⟨y,rfl,h1,h2⟩,hE,⟨rfl,h⟩ | ⟨rfl,h⟩⟩:=h
 ·rw [ho] at h; injection h with h; subst h
  exact ⟨y,rfl,hE,boxn hE (fun S w'' hS hF=>⟨h1.nrb hS hF,h2.nrb hS hF⟩)⟩
 ·rw [ho] at h; cases h
theorem post_Rd_none (h:RetRd w o e w') (ho:o=none):PostC (fun y:Int × ShS=>.tuple #[shSd y.1 y.2, .bool false]) (fun _ _=>True) w e w':=by
 obtain ⟨v,ok,x',rfl,⟨y,rfl,h1,h2⟩,hE,⟨rfl,h⟩ | ⟨rfl,h⟩⟩:=h
 ·rw [ho] at h; cases h
 ·exact ⟨(x'.d,y),rfl,hE,BoxN.pure trivial⟩
theorem post_RRd_none (h:RetRRd w o e w') (ho:o=none):PostC (fun y:Int × ShS=>.tuple #[shSd y.1 y.2, .bool false]) (fun _ _=>True) w e w':=by
 obtain ⟨v,ok,x',rfl,⟨y,rfl,h1,h2⟩,hE,⟨rfl,h⟩ | ⟨rfl,h⟩⟩:=h
 ·rw [ho] at h; cases h
 ·exact ⟨(x'.d,y),rfl,hE,BoxN.pure trivial⟩
end
-- a rational number's parts as one variable
abbrev nQ:ShQ:=(false,none,0,0,false,none,0,0)
abbrev vQ (x:ShQ):Value:=.agg #[.bool x.1, .slice x.2.1 x.2.2.1 x.2.2.2.1, .bool x.2.2.2.2.1, .slice x.2.2.2.2.2.1 x.2.2.2.2.2.2.1 x.2.2.2.2.2.2.2]
abbrev eQ (n:Nat) (x:ShQ):Nat × AV:=(n, .v (vQ x))
abbrev bQ (n:Nat) (t:TypeId) (x:ShQ):Nat × TypeId × List AV:=(n,t,[.v (.bool x.1), .v (.slice x.2.1 x.2.2.1 x.2.2.2.1), .v (.bool x.2.2.2.2.1), .v (.slice x.2.2.2.2.2.1 x.2.2.2.2.2.2.1 x.2.2.2.2.2.2.2)])
abbrev vW (x y:ShQ) (k:Int):Value:=vV9 x.1 x.2.1 x.2.2.1 x.2.2.2.1 x.2.2.2.2.1 x.2.2.2.2.2.1 x.2.2.2.2.2.2.1 x.2.2.2.2.2.2.2 y.1 y.2.1 y.2.2.1 y.2.2.2.1 y.2.2.2.2.1 y.2.2.2.2.2.1 y.2.2.2.2.2.2.1 y.2.2.2.2.2.2.2 k
abbrev eW (n:Nat) (x y:ShQ) (k:Int):Nat × AV:=(n, .v (vW x y k))
abbrev bW (n:Nat) (t:TypeId) (x y:ShQ) (k:Int):Nat × TypeId × List AV:=bV9 n t x.1 x.2.1 x.2.2.1 x.2.2.2.1 x.2.2.2.2.1 x.2.2.2.2.2.1 x.2.2.2.2.2.2.1 x.2.2.2.2.2.2.2 y.1 y.2.1 y.2.2.1 y.2.2.2.1 y.2.2.2.2.1 y.2.2.2.2.2.1 y.2.2.2.2.2.2.1 y.2.2.2.2.2.2.2 k
theorem RatIs.shq {w:World} {v:Value} {q:Rat} (h:RatIs w v q):∃ x:ShQ,v=shRat x:=by
 obtain ⟨s,A,l,c,t,B,m,d,rfl⟩:=h.shp
 exact ⟨(s,A,l,c,t,B,m,d),rfl⟩
theorem NRatIs.shq {w:World} {v:Value} {q:Rat} (h:NRatIs w v q):∃ x:ShQ,v=shRat x:=by
 obtain ⟨s,A,l,c,t,B,m,d,rfl⟩:=h.shp
 exact ⟨(s,A,l,c,t,B,m,d),rfl⟩
theorem SdIs.shq {w:World} {v:Value} {x:Sd} (h:SdIs w v x):∃ X Y:ShQ,v=vW X Y x.d∧RatIs w (shRat X) x.a∧RatIs w (shRat Y) x.b:=by
 obtain ⟨⟨X,Y⟩,h1,h2,h3⟩:=h
 exact ⟨X,Y,h1,h2,h3⟩
theorem RSdIs.shq {w:World} {v:Value} {x:Sd} (h:RSdIs w v x):∃ X Y:ShQ,v=vW X Y x.d∧NRatIs w (shRat X) x.a∧NRatIs w (shRat Y) x.b:=by
 obtain ⟨⟨X,Y⟩,h1,h2,h3⟩:=h
 exact ⟨X,Y,h1,h2,h3⟩
end Go.Proofs.YtbgkofgoeoiciaaGreatDoor

namespace Go.Proofs.YtbgkofgoeoiciaaGreatDoor
open Go.RowKit
theorem nv_t {p q:Rat} {d:Int} (h:decide (q.num=0)=true):nv p q d=⟨p,0,1⟩:=by
 have:=Rat.num_eq_zero.1 (of_decide_eq_true h); subst this; exact nv_zero p d
theorem nv_f {p q:Rat} {d:Int} (h:decide (q.num=0)=false):nv p q d=⟨p,q,d⟩:=nv_nz p d (fun e=>of_decide_eq_false h (Rat.num_eq_zero.2 e))
theorem Dq.prt {q:Rat} {k:Nat} (h:Dq q k) (hk:k≤722):PrtOk q.num.natAbs∧PrtOk q.den:=by
 have:=h.fit hk; unfold QFits at this; unfold PrtOk; omega
theorem New_nat (z:Int) (w:World) (h0:0≤z) (h1:z≤1000000):Calls Tryz.prog 171 #[.int .i64 z] w (RetInt w z):=by
 obtain ⟨n,rfl⟩:∃ n:Nat,z=(n:Int):=⟨z.toNat,by omega⟩
 exact New_pos n w (by rw [W64_eq]; omega) (by rw [IntKind.wrap_u64]; omega) (decide_eq_false (by omega))
set_option maxRecDepth 100000 in
theorem Small_any (z:Int) (w:World) (h0:0≤z) (h1:z≤1000000) :
 Calls Tryz.prog 97 #[.int .i64 z] w (RetRat w (z:Rat)):=by
 refine sx_enter (Φ:=fun w=>True) Tryz.func97 rfl (by kernel_rfl) (fun w' hf=>trivial) ?_
 refine sx_seq (sx_region (xr 1 [(0, .v (.int .i64 z)),(2, .p 2 0)] [bR4 2 116 false none 0 0 false none 0 0] ?_))
 refine xe (sx_next (sx_seq (sx_region (xr 1 [(2, .p 2 0),(3, .v (.int .i64 z))] [bR4 2 116 false none 0 0 false none 0 0] ?_))))
 refine xc 171 [.int .i64 z] 4 shInt _ (fun w hE hΦ=>(New_nat z _ h0 h1).mono (fun _ _ h=>post_Int h)) (fun xx=>?_)
 obtain ⟨s10,A10,l10,c10⟩:=xx
 refine xr 2 [(2, .p 2 0)] [bR4 2 116 s10 A10 l10 c10 false none 0 0] ?_
 refine xe (sx_next (sx_ret ?_))
 refine sx_done (v:=.agg #[.bool s10, .slice A10 l10 c10, .bool false, .slice none 0 0]) (by kernel_rfl) (fun w' hE hΦ=>?_)
 exact ⟨_,rfl,RatIs.of hΦ.2 (IntIs.nil _),hE⟩
set_option maxRecDepth 100000 in
theorem SRat_any (vp:Value) (p:Rat) (w:World) (hhp:RatIs w vp p)  :
 Calls Tryz.prog 93 #[vp] w (RetSd w ⟨p,0,1⟩):=by
 obtain ⟨s8,A8,l8,c8,t8,B8,m8,d8,rfl⟩:=hhp.shp
 refine sx_enter (Φ:=fun w=>RatIs w (.agg #[.bool s8, .slice A8 l8 c8, .bool t8, .slice B8 m8 d8]) (p)) Tryz.func93 rfl (by kernel_rfl) (fun w' hf=>hhp.ext hf) ?_
 refine sx_seq (sx_region (xr 2 [(1, .p 1 0),(2, .p 2 0)] [bV9 2 120 false none 0 0 false none 0 0 false none 0 0 false none 0 0 0,bR4 1 116 s8 A8 l8 c8 t8 B8 m8 d8] ?_))
 refine xe (sx_next (sx_seq (sx_region (xr 3 [(2, .p 2 0)] [bV9 2 120 s8 A8 l8 c8 t8 B8 m8 d8 false none 0 0 false none 0 0 1] ?_))))
 refine xe (sx_next (sx_ret ?_))
 refine sx_done (v:=.agg #[.bool s8, .slice A8 l8 c8, .bool t8, .slice B8 m8 d8, .bool false, .slice none 0 0, .bool false, .slice none 0 0, .int .i64 1]) (by kernel_rfl) (fun w' hE hΦ=>?_)
 exact ⟨_,rfl,(SdIs.of hΦ (RatIs.nil _)),hE⟩
set_option maxRecDepth 100000 in
theorem SNew_any (vp vq:Value) (p:Rat) (q:Rat) (d:Int) (w:World) (hhp:RatIs w vp p) (hhq:RatIs w vq q)  :
 Calls Tryz.prog 99 #[vp,vq, .int .i64 d] w (RetSd w (nv p q d)):=by
 obtain ⟨X8,rfl⟩:=hhp.shq
 obtain ⟨X9,rfl⟩:=hhq.shq
 refine sx_enter (Φ:=fun w=>(RatIs w (shRat X8) (p)∧RatIs w (shRat X9) (q))) Tryz.func99 rfl (by kernel_rfl) (fun w' hf=>⟨hhp.ext hf,hhq.ext hf⟩) ?_
 refine sx_seq (sx_region (xr 3 [(2, .v (.int .i64 d)),(3, .p 3 0),(4, .p 4 0),(6, .p 6 0)] [bW 6 120 nQ nQ 0,bQ 4 116 X9,bQ 3 116 X8] ?_))
 refine xe (sx_next (sx_seq (sx_seq (sx_region (xr 1 [(2, .v (.int .i64 d)),(3, .p 3 0),(4, .p 4 0),(6, .p 6 0),eQ 7 X9] [bW 6 120 nQ nQ 0,bQ 4 116 X9,bQ 3 116 X8] ?_)))))
 refine xc 192 [vQ X9] 8 (fun _:Unit=>.bool (decide (q.num=0))) _ (fun w hE hΦ=>(QIsZero_any _ q _ hΦ.2).mono (fun _ _ h=>post_val h rfl)) (fun xx=>?_)
 refine xr 0 [(2, .v (.int .i64 d)),(3, .p 3 0),(4, .p 4 0),(6, .p 6 0),(8, .v (.bool (decide (q.num=0))))] [bW 6 120 nQ nQ 0,bQ 4 116 X9,bQ 3 116 X8] ?_
 refine xe (sx_next ?_)
 refine sx_cond ((decide (q.num=0))) (by kernel_rfl) (fun hb10=>?_) (fun hb10=>?_)
 ·refine sx_seq (sx_region (xr 1 [(2, .v (.int .i64 d)),(3, .p 3 0),(4, .p 4 0),(6, .p 6 0),eQ 9 X8] [bW 6 120 nQ nQ 0,bQ 4 116 X9,bQ 3 116 X8] ?_))
  refine xc 93 [vQ X8] 10 (shSd 1) _ (fun w hE hΦ=>(SRat_any _ p _ hΦ.1.1).mono (fun _ _ h=>post_Sd h)) (fun xx=>?_)
  obtain ⟨X11,X12⟩:=xx
  refine xr 1 [(2, .v (.int .i64 d)),(3, .p 3 0),(4, .p 4 0),(6, .p 6 0)] [bW 6 120 X11 X12 1,bQ 4 116 X9,bQ 3 116 X8] ?_
  refine xe (sx_next (sx_ret (sx_then_ret ?_)))
  refine sx_done (v:=vW X11 X12 1) (by kernel_rfl) (fun w' hE hΦ=>?_)
  exact ⟨_,rfl,by rw [nv_t hb10]; exact (SdIs.of hΦ.2.1 hΦ.2.2),hE⟩
 ·refine sx_skip (sx_next (sx_seq (sx_region (xr 5 [(6, .p 6 0)] [bW 6 120 X8 X9 d] ?_))))
  refine xe (sx_next (sx_ret ?_))
  refine sx_done (v:=vW X8 X9 d) (by kernel_rfl) (fun w' hE hΦ=>?_)
  exact ⟨_,rfl,by rw [nv_f hb10]; exact (SdIs.of hΦ.1.1 hΦ.1.2),hE⟩
set_option maxRecDepth 100000 in
theorem STimes_any (vx vy:Value) (x:Sd) (y:Sd) (w:World) (hg:Glob w) (hhx:SdIs w vx x) (hhy:SdIs w vy y) {jx:Nat} (zx:Sz x jx) {jy:Nat} (zy:Sz y jy) (hj:jx + jy≤700) :
 Calls Tryz.prog 113 #[vx,vy] w (RetSd w (x.times y)):=by
 obtain ⟨X0,X1,rfl,hx1,hx2⟩:=hhx.shq
 obtain ⟨X2,X3,rfl,hy1,hy2⟩:=hhy.shq
 refine sx_enter (Φ:=fun w=>((((Glob w∧RatIs w (shRat X0) (x.a))∧RatIs w (shRat X1) (x.b))∧RatIs w (shRat X2) (y.a))∧RatIs w (shRat X3) (y.b))) Tryz.func113 rfl (by kernel_rfl) (fun w' hf=>⟨⟨⟨⟨hg.ext hf,hx1.ext hf⟩,hx2.ext hf⟩,hy1.ext hf⟩,hy2.ext hf⟩) ?_
 refine sx_seq (sx_region (xr 3 [(2, .p 2 0),(3, .p 3 0),(4, .p 4 0)] [bW 4 120 nQ nQ 0,bW 3 120 X2 X3 y.d,bW 2 120 X0 X1 x.d] ?_))
 refine xe (sx_next (sx_seq (sx_region (xr 5 [(2, .p 2 0),(3, .p 3 0),(4, .p 4 0),(12, .v (.int .i64 (if y.d > x.d then y.d else x.d)))] [bW 4 120 nQ nQ 0,bW 3 120 X2 X3 y.d,bW 2 120 X0 X1 x.d] ?_))))
 rw [imax_eq]
 refine xr 1 [(2, .p 2 0),(3, .p 3 0),(4, .p 4 0),(5, .v (.int .i64 (max x.d y.d)))] [bW 4 120 nQ nQ 0,bW 3 120 X2 X3 y.d,bW 2 120 X0 X1 x.d] ?_
 refine xe (sx_next (sx_seq ?_))
 refine sx_draw 16 (by kernel_rfl) (by kernel_rfl) follows_mixed' ?_
 refine xf 4 [(2, .p 2 0),(3, .p 3 0),(4, .p 4 0),(5, .v (.int .i64 (max x.d y.d))),eQ 14 X0,eQ 16 X2] [bW 4 120 nQ nQ 0,bW 3 120 X2 X3 y.d,bW 2 120 X0 X1 x.d] ?_
 refine xd 96 [vQ X0,vQ X2] 17 shRat _ (fun w hE hΦ=>(QMul_any _ _ x.a y.a _ hΦ.1.1.1.1 hΦ.1.1.1.2 hΦ.1.2 (zx.a.fit (by omega)) (zy.a.fit (by omega))).mono (fun _ _ h=>post_Rat h)) (fun X10=>?_)
 refine xf 4 [(2, .p 2 0),(3, .p 3 0),(4, .p 4 0),(5, .v (.int .i64 (max x.d y.d))),eQ 17 X10,eQ 19 X1,eQ 21 X3] [bW 4 120 nQ nQ 0,bW 3 120 X2 X3 y.d,bW 2 120 X0 X1 x.d] ?_
 refine xd 96 [vQ X1,vQ X3] 22 shRat _ (fun w hE hΦ=>(QMul_any _ _ x.b y.b _ hΦ.1.1.1.1.1 hΦ.1.1.1.2 hΦ.1.2 (zx.b.fit (by omega)) (zy.b.fit (by omega))).mono (fun _ _ h=>post_Rat h)) (fun X11=>?_)
 refine xf 1 [(2, .p 2 0),(3, .p 3 0),(4, .p 4 0),(5, .v (.int .i64 (max x.d y.d))),eQ 17 X10,eQ 22 X11,(23, .v (.int .i64 (max x.d y.d)))] [bW 4 120 nQ nQ 0,bW 3 120 X2 X3 y.d,bW 2 120 X0 X1 x.d] ?_
 refine xd 97 [.int .i64 (max x.d y.d)] 24 shRat _ (fun w hE hΦ=>(Small_any (max x.d y.d) _ (by have:=zx.max zy; omega) (zx.max zy).2).mono (fun _ _ h=>post_Rat h)) (fun X12=>?_)
 refine xf 0 [(2, .p 2 0),(3, .p 3 0),(4, .p 4 0),(5, .v (.int .i64 (max x.d y.d))),eQ 17 X10,eQ 22 X11,eQ 24 X12] [bW 4 120 nQ nQ 0,bW 3 120 X2 X3 y.d,bW 2 120 X0 X1 x.d] ?_
 refine xd 96 [vQ X11,vQ X12] 25 shRat _ (fun w hE hΦ=>(QMul_any _ _ (x.b * y.b) (((max x.d y.d:Int):Rat)) _ hΦ.1.1.1.1.1.1.1 hΦ.1.2 hΦ.2 ((zx.b.mul zy.b).fit (by omega)) ((Dq.imax zx zy).fit (by omega))).mono (fun _ _ h=>post_Rat h)) (fun X13=>?_)
 refine xf 0 [(2, .p 2 0),(3, .p 3 0),(4, .p 4 0),(5, .v (.int .i64 (max x.d y.d))),eQ 17 X10,eQ 25 X13] [bW 4 120 nQ nQ 0,bW 3 120 X2 X3 y.d,bW 2 120 X0 X1 x.d] ?_
 refine xd 98 [vQ X10,vQ X13] 26 shRat _ (fun w hE hΦ=>(QAdd_any _ _ (x.a * y.a) ((x.b * y.b) * (((max x.d y.d:Int):Rat))) _ hΦ.1.1.1.1.1.1.1.1 hΦ.1.1.1.2 hΦ.2 ((zx.a.mul zy.a).fit (by omega)) (((zx.b.mul zy.b).mul (Dq.imax zx zy)).fit (by omega))).mono (fun _ _ h=>post_Rat h)) (fun X14=>?_)
 refine xf 2 [(2, .p 2 0),(3, .p 3 0),(4, .p 4 0),(5, .v (.int .i64 (max x.d y.d))),(6, .p 6 0)] [bQ 6 116 X14,bR4 6 116 false none 0 0 false none 0 0,bW 4 120 nQ nQ 0,bW 3 120 X2 X3 y.d,bW 2 120 X0 X1 x.d] ?_
 refine xz (xe (sx_next (sx_seq ?_)))
 refine sx_draw 13 (by kernel_rfl) (by kernel_rfl) follows_mixed' ?_
 refine xf 4 [(2, .p 2 0),(3, .p 3 0),(4, .p 4 0),(5, .v (.int .i64 (max x.d y.d))),(6, .p 6 0),eQ 28 X0,eQ 30 X3] [bQ 6 116 X14,bR4 6 116 false none 0 0 false none 0 0,bW 4 120 nQ nQ 0,bW 3 120 X2 X3 y.d,bW 2 120 X0 X1 x.d] ?_
 refine xd 96 [vQ X0,vQ X3] 31 shRat _ (fun w hE hΦ=>(QMul_any _ _ x.a y.b _ hΦ.1.1.1.1.1.1.1.1.1 hΦ.1.1.1.1.1.1.1.1.2 hΦ.1.1.1.1.1.2 (zx.a.fit (by omega)) (zy.b.fit (by omega))).mono (fun _ _ h=>post_Rat h)) (fun X15=>?_)
 refine xf 4 [(4, .p 4 0),(5, .v (.int .i64 (max x.d y.d))),(6, .p 6 0),eQ 31 X15,eQ 33 X1,eQ 35 X2] [bQ 6 116 X14,bR4 6 116 false none 0 0 false none 0 0,bW 4 120 nQ nQ 0,bW 3 120 X2 X3 y.d,bW 2 120 X0 X1 x.d] ?_
 refine xd 96 [vQ X1,vQ X2] 36 shRat _ (fun w hE hΦ=>(QMul_any _ _ x.b y.a _ hΦ.1.1.1.1.1.1.1.1.1.1 hΦ.1.1.1.1.1.1.1.1.2 hΦ.1.1.1.1.1.1.1.2 (zx.b.fit (by omega)) (zy.a.fit (by omega))).mono (fun _ _ h=>post_Rat h)) (fun X16=>?_)
 refine xf 0 [(4, .p 4 0),(5, .v (.int .i64 (max x.d y.d))),(6, .p 6 0),eQ 31 X15,eQ 36 X16] [bQ 6 116 X14,bR4 6 116 false none 0 0 false none 0 0,bW 4 120 nQ nQ 0,bW 3 120 X2 X3 y.d,bW 2 120 X0 X1 x.d] ?_
 refine xd 98 [vQ X15,vQ X16] 37 shRat _ (fun w hE hΦ=>(QAdd_any _ _ (x.a * y.b) (x.b * y.a) _ hΦ.1.1.1.1.1.1.1.1.1.1.1 hΦ.1.2 hΦ.2 ((zx.a.mul zy.b).fit (by omega)) ((zx.b.mul zy.a).fit (by omega))).mono (fun _ _ h=>post_Rat h)) (fun X17=>?_)
 refine xf 2 [(4, .p 4 0),(5, .v (.int .i64 (max x.d y.d))),(6, .p 6 0),(7, .p 7 0)] [bQ 7 116 X17,bR4 7 116 false none 0 0 false none 0 0,bQ 6 116 X14,bR4 6 116 false none 0 0 false none 0 0,bW 4 120 nQ nQ 0,bW 3 120 X2 X3 y.d,bW 2 120 X0 X1 x.d] ?_
 refine xz (xe (sx_next (sx_seq (sx_region (xr 3 [(4, .p 4 0),eQ 38 X14,eQ 39 X17,(40, .v (.int .i64 (max x.d y.d)))] [bW 4 120 nQ nQ 0] ?_)))))
 refine xc 99 [vQ X14,vQ X17, .int .i64 (max x.d y.d)] 41 (shSd ((nv ((x.a * y.a) + ((x.b * y.b) * (((max x.d y.d:Int):Rat)))) ((x.a * y.b) + (x.b * y.a)) (max x.d y.d)).d)) _ (fun w hE hΦ=>(SNew_any _ _ ((x.a * y.a) + ((x.b * y.b) * (((max x.d y.d:Int):Rat)))) ((x.a * y.b) + (x.b * y.a)) (max x.d y.d) _ hΦ.1.1.1.2 hΦ.2).mono (fun _ _ h=>post_Sd h)) (fun xx=>?_)
 obtain ⟨⟨s18,A18,l18,c18,t18,B18,m18,d18⟩,⟨s19,A19,l19,c19,t19,B19,m19,d19⟩⟩:=xx
 refine xr 1 [(4, .p 4 0)] [(4,120,[.v (.bool s18), .v (.slice A18 l18 c18), .v (.bool t18), .v (.slice B18 m18 d18), .v (.bool s19), .v (.slice A19 l19 c19), .v (.bool t19), .v (.slice B19 m19 d19), .v (.int .i64 ((nv ((x.a * y.a) + ((x.b * y.b) * (((max x.d y.d:Int):Rat)))) ((x.a * y.b) + (x.b * y.a)) (max x.d y.d)).d))])] ?_
 refine xe (sx_next (sx_ret ?_))
 refine sx_done (v:=.agg #[.bool s18, .slice A18 l18 c18, .bool t18, .slice B18 m18 d18, .bool s19, .slice A19 l19 c19, .bool t19, .slice B19 m19 d19, .int .i64 ((nv ((x.a * y.a) + ((x.b * y.b) * (((max x.d y.d:Int):Rat)))) ((x.a * y.b) + (x.b * y.a)) (max x.d y.d)).d)]) (by kernel_rfl) (fun w' hE hΦ=>?_)
 exact ⟨_,rfl,(SdIs.of hΦ.2.1 hΦ.2.2),hE⟩
set_option maxRecDepth 100000 in
theorem SConj_any (vx:Value) (x:Sd) (w:World) (hhx:SdIs w vx x)  :
 Calls Tryz.prog 105 #[vx] w (RetSd w x.conj):=by
 obtain ⟨X0,X1,rfl,hx1,hx2⟩:=hhx.shq
 refine sx_enter (Φ:=fun w=>(RatIs w (shRat X0) (x.a)∧RatIs w (shRat X1) (x.b))) Tryz.func105 rfl (by kernel_rfl) (fun w' hf=>⟨hx1.ext hf,hx2.ext hf⟩) ?_
 refine sx_seq (sx_region (xr 2 [(1, .p 1 0),(2, .p 2 0)] [bW 2 120 nQ nQ 0,bW 1 120 X0 X1 x.d] ?_))
 refine xe (sx_next (sx_seq ?_))
 refine sx_draw 9 (by kernel_rfl) (by kernel_rfl) follows_mixed' ?_
 refine xf 4 [(1, .p 1 0),(2, .p 2 0),eQ 4 X0,eQ 6 X1] [bW 2 120 nQ nQ 0,bW 1 120 X0 X1 x.d] ?_
 refine xd 197 [vQ X1] 7 shRat _ (fun w hE hΦ=>(QNeg_any _ x.b _ hΦ.2).mono (fun _ _ h=>post_Rat h)) (fun X10=>?_)
 refine xf 4 [(2, .p 2 0)] [bW 2 120 X0 X10 x.d,bW 2 120 nQ nQ 0,bW 1 120 X0 X1 x.d] ?_
 refine xz (xe (sx_next (sx_ret ?_)))
 refine sx_done (v:=vW X0 X10 x.d) (by kernel_rfl) (fun w' hE hΦ=>?_)
 exact ⟨_,rfl,(SdIs.of hΦ.1.1 hΦ.2),hE⟩
set_option maxRecDepth 100000 in
theorem SNorm_any (vx:Value) (x:Sd) (w:World) (hg:Glob w) (hhx:SdIs w vx x) {jx:Nat} (zx:Sz x jx) (hj:jx≤350) :
 Calls Tryz.prog 106 #[vx] w (RetRat w x.norm):=by
 obtain ⟨X0,X1,rfl,hx1,hx2⟩:=hhx.shq
 refine sx_enter (Φ:=fun w=>((Glob w∧RatIs w (shRat X0) (x.a))∧RatIs w (shRat X1) (x.b))) Tryz.func106 rfl (by kernel_rfl) (fun w' hf=>⟨⟨hg.ext hf,hx1.ext hf⟩,hx2.ext hf⟩) ?_
 refine sx_seq (sx_region (xr 2 [(1, .p 1 0),(2, .p 2 0)] [bR4 2 116 false none 0 0 false none 0 0,bW 1 120 X0 X1 x.d] ?_))
 refine xe (sx_next (sx_seq ?_))
 refine sx_draw 6 (by kernel_rfl) (by kernel_rfl) follows_mixed' ?_
 refine xf 2 [(2, .p 2 0),eW 3 X0 X1 x.d,eW 4 X0 X1 x.d] [bR4 2 116 false none 0 0 false none 0 0,bW 1 120 X0 X1 x.d] ?_
 refine xd 105 [vW X0 X1 x.d] 5 (shSd x.conj.d) _ (fun w hE hΦ=>(SConj_any _ x _ (SdIs.of hΦ.1.2 hΦ.2)).mono (fun _ _ h=>post_Sd h)) (fun xx=>?_)
 obtain ⟨X10,X11⟩:=xx
 refine xf 0 [(2, .p 2 0),eW 3 X0 X1 x.d,eW 5 X10 X11 x.conj.d] [bR4 2 116 false none 0 0 false none 0 0,bW 1 120 X0 X1 x.d] ?_
 refine xd 113 [vW X0 X1 x.d,vW X10 X11 x.conj.d] 6 (shSd ((x.times x.conj).d)) _ (fun w hE hΦ=>(STimes_any _ _ x x.conj _ hΦ.1.1.1 (SdIs.of hΦ.1.1.2 hΦ.1.2) (SdIs.of hΦ.2.1 hΦ.2.2) zx zx.conj (by omega)).mono (fun _ _ h=>post_Sd h)) (fun xx=>?_)
 obtain ⟨X12,X13⟩:=xx
 refine xf 2 [(2, .p 2 0)] [bQ 2 116 X12,bR4 2 116 false none 0 0 false none 0 0,bW 1 120 X0 X1 x.d] ?_
 refine xz (xe (sx_next (sx_ret ?_)))
 refine sx_done (v:=shRat X12) (by kernel_rfl) (fun w' hE hΦ=>?_)
 exact ⟨_,rfl,hΦ.2.1,hE⟩
set_option maxRecDepth 100000 in
theorem SSign_any (vx:Value) (x:Sd) (w:World) (hg:Glob w) (hhx:SdIs w vx x) {jx:Nat} (zx:Sz x jx) (hj:jx≤350) :
 Calls Tryz.prog 108 #[vx] w (RetV w (.int .i64 x.sgn)):=by
 obtain ⟨X0,X1,rfl,hx1,hx2⟩:=hhx.shq
 refine sx_enter (Φ:=fun w=>((Glob w∧RatIs w (shRat X0) (x.a))∧RatIs w (shRat X1) (x.b))) Tryz.func108 rfl (by kernel_rfl) (fun w' hf=>⟨⟨hg.ext hf,hx1.ext hf⟩,hx2.ext hf⟩) ?_
 refine sx_seq (sx_region (xr 2 [(1, .p 1 0),(2, .v (.int .i64 0))] [bW 1 120 X0 X1 x.d] ?_))
 refine xe (sx_next (sx_seq ?_))
 refine sx_draw 8 (by kernel_rfl) (by kernel_rfl) follows_mixed' ?_
 refine xf 2 [(1, .p 1 0),(2, .v (.int .i64 0)),eQ 6 X0] [bW 1 120 X0 X1 x.d] ?_
 refine xd 200 [vQ X0] 7 (fun _:Unit=>.int .i64 x.a.num.sign) _ (fun w hE hΦ=>(QSign_any _ x.a _ hΦ.1.2).mono (fun _ _ h=>post_val h rfl)) (fun xx=>?_)
 refine xf 2 [(1, .p 1 0),(2, .v (.int .i64 0)),(7, .v (.int .i64 x.a.num.sign)),eQ 9 X1] [bW 1 120 X0 X1 x.d] ?_
 refine xd 200 [vQ X1] 10 (fun _:Unit=>.int .i64 x.b.num.sign) _ (fun w hE hΦ=>(QSign_any _ x.b _ hΦ.1.2).mono (fun _ _ h=>post_val h rfl)) (fun xx=>?_)
 refine xf 2 [(1, .p 1 0),(2, .v (.int .i64 0)),(3, .v (.int .i64 x.a.num.sign)),(4, .v (.int .i64 x.b.num.sign))] [bW 1 120 X0 X1 x.d] ?_
 refine xz (xe (sx_next (sx_seq (sx_block (sx_seq (sx_region (xr 3 [(1, .p 1 0),(2, .v (.int .i64 0)),(3, .v (.int .i64 x.a.num.sign)),(4, .v (.int .i64 x.b.num.sign)),(14, .v (.bool ((x.b.num.sign:Int) == 0)))] [bW 1 120 X0 X1 x.d] ?_)))))))
 rcases bool2 (((x.b.num.sign:Int) == 0)) with hb10 | hb10
 ·rw [hb10]
  refine xr 5 [(1, .p 1 0),(2, .v (.int .i64 0)),(3, .v (.int .i64 x.a.num.sign)),(4, .v (.int .i64 x.b.num.sign)),(11, .v (.bool true))] [bW 1 120 X0 X1 x.d] ?_
  refine xe (sx_next (xa (sx_seq (sx_region (xr 2 [(2, .v (.int .i64 x.a.num.sign)),(4, .v (.int .i64 x.b.num.sign))] [] ?_)))))
  refine xe (sx_next (sx_ret (sx_in_ret (sx_then_ret ?_))))
  refine sx_done (v:=.int .i64 x.a.num.sign) (by kernel_rfl) (fun w' hE hΦ=>?_)
  exact ⟨by unfold Sd.sgn; simp_all<;>(intro h; omega),hE⟩
 ·rw [hb10]
  refine xr 5 [(1, .p 1 0),(2, .v (.int .i64 0)),(3, .v (.int .i64 x.a.num.sign)),(4, .v (.int .i64 x.b.num.sign)),(11, .v (.bool ((x.a.num.sign:Int) == x.b.num.sign)))] [bW 1 120 X0 X1 x.d] ?_
  refine xe (sx_next ?_)
  refine sx_cond (((x.a.num.sign:Int) == x.b.num.sign)) (by kernel_rfl) (fun hb11=>?_) (fun hb11=>?_)
  ·refine sx_seq (sx_region (xr 2 [(2, .v (.int .i64 x.a.num.sign)),(4, .v (.int .i64 x.b.num.sign))] [] ?_))
   refine xe (sx_next (sx_ret (sx_in_ret (sx_then_ret ?_))))
   refine sx_done (v:=.int .i64 x.a.num.sign) (by kernel_rfl) (fun w' hE hΦ=>?_)
   exact ⟨by unfold Sd.sgn; simp_all<;>(intro h; omega),hE⟩
  ·refine sx_seq (sx_region (xr 3 [(1, .p 1 0),(2, .v (.int .i64 0)),(3, .v (.int .i64 x.a.num.sign)),(4, .v (.int .i64 x.b.num.sign)),(20, .v (.bool ((x.a.num.sign:Int) == 0)))] [bW 1 120 X0 X1 x.d] ?_))
   refine xe (sx_next ?_)
   refine sx_cond (((x.a.num.sign:Int) == 0)) (by kernel_rfl) (fun hb12=>?_) (fun hb12=>?_)
   ·refine sx_seq (sx_region (xr 2 [(2, .v (.int .i64 x.b.num.sign)),(4, .v (.int .i64 x.b.num.sign))] [] ?_))
    refine xe (sx_next (sx_ret (sx_in_ret (sx_then_ret ?_))))
    refine sx_done (v:=.int .i64 x.b.num.sign) (by kernel_rfl) (fun w' hE hΦ=>?_)
    exact ⟨by unfold Sd.sgn; simp_all<;>(intro h; omega),hE⟩
   ·refine sx_seq (sx_region (xr 1 [(2, .v (.int .i64 0)),(3, .v (.int .i64 x.a.num.sign)),(4, .v (.int .i64 x.b.num.sign)),eW 25 X0 X1 x.d] [] ?_))
    refine xc 106 [vW X0 X1 x.d] 26 shRat _ (fun w hE hΦ=>(SNorm_any _ x _ hΦ.1.1.1.1 (SdIs.of hΦ.1.1.1.2 hΦ.1.1.2) zx (by omega)).mono (fun _ _ h=>post_Rat h)) (fun X13=>?_)
    refine xr 0 [(2, .v (.int .i64 0)),(3, .v (.int .i64 x.a.num.sign)),(4, .v (.int .i64 x.b.num.sign)),eQ 26 X13] [] ?_
    refine xc 200 [vQ X13] 27 (fun _:Unit=>.int .i64 x.norm.num.sign) _ (fun w hE hΦ=>(QSign_any _ x.norm _ hΦ.2).mono (fun _ _ h=>post_val h rfl)) (fun xx=>?_)
    refine xr 2 [(2, .v (.int .i64 0)),(3, .v (.int .i64 x.a.num.sign)),(4, .v (.int .i64 x.b.num.sign)),(24, .v (.bool (decide (x.norm.num.sign > 0))))] [] ?_
    refine xe (sx_next ?_)
    refine sx_cond ((decide (x.norm.num.sign > 0))) (by kernel_rfl) (fun hb14=>?_) (fun hb14=>?_)
    ·refine sx_seq (sx_region (xr 2 [(2, .v (.int .i64 x.a.num.sign)),(4, .v (.int .i64 x.b.num.sign))] [] ?_))
     refine xe (sx_next (sx_ret (sx_in_ret (sx_then_ret ?_))))
     refine sx_done (v:=.int .i64 x.a.num.sign) (by kernel_rfl) (fun w' hE hΦ=>?_)
     exact ⟨by unfold Sd.sgn; simp_all<;>(intro h; omega),hE⟩
    ·refine sx_skip (sx_out (sx_next (sx_seq (sx_region (xr 2 [(2, .v (.int .i64 x.b.num.sign))] [] ?_)))))
     refine xe (sx_next (sx_ret ?_))
     refine sx_done (v:=.int .i64 x.b.num.sign) (by kernel_rfl) (fun w' hE hΦ=>?_)
     exact ⟨by unfold Sd.sgn; simp_all<;>(intro h; omega),hE⟩
set_option maxRecDepth 100000 in
theorem SWrite_any (vx:Value) (x:Sd) (w:World) (hg:Glob w) (hhx:SdIs w vx x) {j:Nat} (za:Dq x.a j) (zb:Dq x.b j) (hj:j≤722) :
 Calls Tryz.prog 94 #[vx] w (RetV w (.agg #[.string ⟨(ratText x.a).toArray⟩, .string ⟨(ratText x.b).toArray⟩, .int .i64 x.d])):=by
 obtain ⟨X0,X1,rfl,hx1,hx2⟩:=hhx.shq
 refine sx_enter (Φ:=fun w=>((Glob w∧RatIs w (shRat X0) (x.a))∧RatIs w (shRat X1) (x.b))) Tryz.func94 rfl (by kernel_rfl) (fun w' hf=>⟨⟨hg.ext hf,hx1.ext hf⟩,hx2.ext hf⟩) ?_
 refine sx_seq (sx_region (xr 2 [(1, .p 1 0),(2, .p 2 0)] [(2,23,[.v (.string ⟨#[]⟩), .v (.string ⟨#[]⟩), .v (.int .i64 0)]),bW 1 120 X0 X1 x.d] ?_))
 refine xe (sx_next (sx_seq ?_))
 refine sx_draw 10 (by kernel_rfl) (by kernel_rfl) follows_mixed' ?_
 refine xf 2 [(1, .p 1 0),(2, .p 2 0),eQ 4 X0] [(2,23,[.v (.string ⟨#[]⟩), .v (.string ⟨#[]⟩), .v (.int .i64 0)]),bW 1 120 X0 X1 x.d] ?_
 refine xd 107 [vQ X0] 5 (fun _:Unit=>.string ⟨(ratText x.a).toArray⟩) _ (fun w hE hΦ=>(RString_any _ x.a _ hΦ.1.1 hΦ.1.2 (za.prt (by omega)).1 (za.prt (by omega)).2).mono (fun _ _ h=>post_val h rfl)) (fun xx=>?_)
 refine xf 2 [(1, .p 1 0),(2, .p 2 0),(5, .v (.string ⟨(ratText x.a).toArray⟩)),eQ 7 X1] [(2,23,[.v (.string ⟨#[]⟩), .v (.string ⟨#[]⟩), .v (.int .i64 0)]),bW 1 120 X0 X1 x.d] ?_
 refine xd 107 [vQ X1] 8 (fun _:Unit=>.string ⟨(ratText x.b).toArray⟩) _ (fun w hE hΦ=>(RString_any _ x.b _ hΦ.1.1.1 hΦ.1.2 (zb.prt (by omega)).1 (zb.prt (by omega)).2).mono (fun _ _ h=>post_val h rfl)) (fun xx=>?_)
 refine xf 4 [(2, .p 2 0)] [(2,23,[.v (.string ⟨(ratText x.a).toArray⟩), .v (.string ⟨(ratText x.b).toArray⟩), .v (.int .i64 x.d)]),(2,23,[.v (.string ⟨#[]⟩), .v (.string ⟨#[]⟩), .v (.int .i64 0)]),bW 1 120 X0 X1 x.d] ?_
 refine xz (xe (sx_next (sx_ret ?_)))
 refine sx_done (v:=.agg #[.string ⟨(ratText x.a).toArray⟩, .string ⟨(ratText x.b).toArray⟩, .int .i64 x.d]) (by kernel_rfl) (fun w' hE hΦ=>?_)
 exact ⟨rfl,hE⟩
def blg (d e:Int):Bool:=d == 1 || (e == 1 || d == e)
theorem blg1 {d e:Int} (h:(d == 1)=true):blg d e=true:=by unfold blg; rw [h]; rfl
theorem blg2 {d e:Int} (h:(d == 1)=false) (h':(e == 1)=true):blg d e=true:=by unfold blg; rw [h,h']; rfl
theorem blg3 {d e:Int} (h:(d == 1)=false) (h':(e == 1)=false):blg d e=(d == e):=by unfold blg; rw [h,h']; rfl
theorem blg_iff {d e:Int}:blg d e=true ↔ Blg d e:=by unfold blg Blg; simp
set_option maxRecDepth 100000 in
theorem Belong_any (d e:Int) (w:World) :
 Calls Tryz.prog 185 #[.int .i64 d, .int .i64 e] w (RetV w (.bool (blg d e))):=by
 refine sx_enter (Φ:=fun w=>True) Tryz.func185 rfl (by kernel_rfl) (fun w' hf=>trivial) ?_
 refine sx_seq (sx_region (xr 1 [(0, .v (.int .i64 d)),(1, .v (.int .i64 e)),(4, .v (.bool false))] [] ?_))
 refine xe (sx_next (sx_seq (sx_region (xr 3 [(0, .v (.int .i64 d)),(1, .v (.int .i64 e)),(4, .v (.bool false)),(7, .v (.bool ((d:Int) == 1)))] [] ?_))))
 rcases bool2 (((d:Int) == 1)) with hb10 | hb10
 ·rw [hb10]
  refine xr 9 [(4, .v (.bool true))] [] ?_
  refine xe (sx_next (sx_ret ?_))
  refine sx_done (v:=.bool true) (by kernel_rfl) (fun w' hE hΦ=>?_)
  exact ⟨by rw [blg1 hb10],hE⟩
 ·rw [hb10]
  refine xr 4 [(0, .v (.int .i64 d)),(1, .v (.int .i64 e)),(4, .v (.bool false)),(11, .v (.bool ((e:Int) == 1)))] [] ?_
  rcases bool2 (((e:Int) == 1)) with hb11 | hb11
  ·rw [hb11]
   refine xr 5 [(4, .v (.bool true))] [] ?_
   refine xe (sx_next (sx_ret ?_))
   refine sx_done (v:=.bool true) (by kernel_rfl) (fun w' hE hΦ=>?_)
   exact ⟨by rw [blg2 hb10 hb11],hE⟩
  ·rw [hb11]
   refine xr 5 [(4, .v (.bool ((d:Int) == e)))] [] ?_
   refine xe (sx_next (sx_ret ?_))
   refine sx_done (v:=.bool ((d:Int) == e)) (by kernel_rfl) (fun w' hE hΦ=>?_)
   exact ⟨by rw [blg3 hb10 hb11],hE⟩
end Go.Proofs.YtbgkofgoeoiciaaGreatDoor

namespace Go.Proofs.YtbgkofgoeoiciaaGreatDoor
open Go.RowKit
section
variable {N:Nat} {S0:Nat→Prop} {w0:World} {P:Program} {s:St} {Φ Φ0:World→Prop} {ops:Array Oper} {Q:Exit→Act→World→Prop}
theorem xl {i:Nat} (d:Nat) (y:Value) (hx:∀ w,Fr S0 w0 w→Φ w→(execOp s.rho (opAt ops i)).run P w=.ok (.value y) w) (K:SXi P N S0 w0 ops Q (i + 1) (s.put d (.v y)) Φ) (hi:Nat.blt i ops.size=true:=by kernel_rfl) (hs:noSel (opAt ops i).op=true:=by kernel_rfl)
 (hw:s.wantB ops (opAt ops i)=some true:=by kernel_rfl) (hv:(opAt ops i).op.operands.toList.all s.vB=true:=by kernel_rfl) (hd:(opAt ops i).dst=some d:=by kernel_rfl) (hN:Nat.blt d N=true:=by kernel_rfl):SXi P N S0 w0 ops Q i s Φ:=sx_look d y hi hs hw hv hd hN hx K
theorem xm {n i:Nat} (d:Nat) (y:Value) (hx:∀ w,Φ0 w→(execOp s.rho (opAt ops i)).run P w=.ok (.value y) w) (K:StI P N S0 w0 ops Φ0 Q n (i + 1) (s.put d (.v y)) Φ) (hi:Nat.blt i n=true:=by kernel_rfl) (hk:isLook (opAt ops i).op=true:=by kernel_rfl)
 (hw:s.wantB ops (opAt ops i)=some true:=by kernel_rfl) (hv:(opAt ops i).op.operands.toList.all s.vB=true:=by kernel_rfl) (hd:(opAt ops i).dst=some d:=by kernel_rfl) (hN:Nat.blt d N=true:=by kernel_rfl):StI P N S0 w0 ops Φ0 Q n i s Φ:=st_look d y hi hk hw hv hd hN hx K
end
abbrev vS3 (a b:ByteArray) (d:Int):Value:=.agg #[.string a, .string b, .int .i64 d]
abbrev eS3 (n:Nat) (a b:ByteArray) (d:Int):Nat × AV:=(n, .v (vS3 a b d))
abbrev bS3 (n:Nat) (t:TypeId) (a b:ByteArray) (d:Int):Nat × TypeId × List AV:=(n,t,[.v (.string a), .v (.string b), .v (.int .i64 d)])
section
variable {w w':World} {e:Ending} {l:List UInt8} {o:Option Sd}
theorem post_Read_gen (h:RetRead w l e w'):PostC (fun u0:Bool × ShQ=>.tuple #[shRat u0.2, .bool u0.1]) (fun _ _=>True) w e w':=by
 obtain ⟨v,ok,rfl,hE,h⟩:=h
 obtain ⟨s,A,l,c,t,B,m,d,rfl⟩:∃ s A l c t B m d,v=.agg #[.bool s, .slice A l c, .bool t, .slice B m d]:=by
  rcases h with ⟨_,q,_,h2⟩ | ⟨_,_,h2⟩<;>exact h2.shp
 exact ⟨(ok,s,A,l,c,t,B,m,d),rfl,hE,BoxN.pure trivial⟩
theorem post_NRead_gen (h:RetNRead w l e w'):PostC (fun u0:Bool × ShQ=>.tuple #[shRat u0.2, .bool u0.1]) (fun _ _=>True) w e w':=by
 obtain ⟨v,ok,q,rfl,hE,h2,_⟩:=h
 obtain ⟨s,A,l,c,t,B,m,d,rfl⟩:=h2.shp
 exact ⟨(ok,s,A,l,c,t,B,m,d),rfl,hE,BoxN.pure trivial⟩
theorem post_Rd_gen (h:RetRd w o e w'):PostC (fun u0:Bool × Int × ShS=>.tuple #[shSd u0.2.1 u0.2.2, .bool u0.1]) (fun _ _=>True) w e w':=by
 obtain ⟨v,ok,x',rfl,⟨y,rfl,_⟩,hE,_⟩:=h
 exact ⟨(ok,x'.d,y),rfl,hE,BoxN.pure trivial⟩
end
theorem wrap_sm {z:Int} (h1 : -9223372036854775808≤z) (h2:z≤9223372036854775807):IntKind.i64.wrap z=z:=by
 rw [IntKind.wrap_i64]; omega
theorem run_quo {P:Program} {o:Oper} {ρ:Operand→Value} {w:World} {t k:TypeId} {x y:Operand} {a b:Nat} (ho:o.op=Op.binOp .quo t x y k) (hx:ρ x=.int .i64 ((a:Nat):Int)) (hy:ρ y=.int .i64 ((b:Nat):Int)) (hb:0 < b) (ha:a≤1000000) :
 (execOp ρ o).run P w=.ok (.value (.int .i64 ((a / b:Nat):Int))) w:=by
 have h:¬ ((b:Int)=0):=by omega
 have e:IntKind.i64.wrap ((a:Int).tdiv (b:Int))=((a / b:Nat):Int):=by
  rw [nat_tdiv]; have h1:=Nat.div_le_self a b; generalize a / b=q at *; exact wrap_sm (by omega) (by omega)
 simp only [execOp,ho,hx,hy,eqGuard,binOp,Op.intDiv,if_neg h,e]
 rfl
theorem run_rem {P:Program} {o:Oper} {ρ:Operand→Value} {w:World} {t k:TypeId} {x y:Operand} {a b:Nat} (ho:o.op=Op.binOp .rem t x y k) (hx:ρ x=.int .i64 ((a:Nat):Int)) (hy:ρ y=.int .i64 ((b:Nat):Int)) (hb:0 < b) :
 (execOp ρ o).run P w=.ok (.value (.int .i64 ((a % b:Nat):Int))) w:=by
 have h:¬ ((b:Int)=0):=by omega
 have e:((a:Int).tmod (b:Int))=((a % b:Nat):Int):=by
  rw [Int.tmod_eq_emod_of_nonneg (by omega)]; rfl
 simp only [execOp,ho,hx,hy,eqGuard,binOp,Op.intDiv,if_neg h,e]
 rfl
theorem nmul {a b:Nat} (h:a * b≤1000000000):IntKind.i64.wrap (((a:Nat):Int) * ((b:Nat):Int))=((a * b:Nat):Int):=by
 rw [← Int.natCast_mul]; exact wrap_sm (by omega) (by omega)
theorem ninc {a:Nat} (h:a≤1000000000):IntKind.i64.wrap (((a:Nat):Int) + 1)=((a + 1:Nat):Int):=by
 rw [wrap_sm (by omega) (by omega)]; rfl
theorem kk_le {k:Nat} (h:k≤1001):k * k≤1000000000:=by
 have:=Nat.mul_le_mul h h; omega
theorem le_t {a b:Nat} (h:decide (((a:Nat):Int)≤((b:Nat):Int))=true):a≤b:=by have:=of_decide_eq_true h; omega
theorem le_f {a b:Nat} (h:decide (((a:Nat):Int)≤((b:Nat):Int))=false):b < a:=by have:=of_decide_eq_false h; omega
theorem md_t {a:Nat} (h:(((a:Nat):Int) == 0)=true):a=0:=by have:=eq_of_beq h; omega
theorem md_f {a:Nat} (h:(((a:Nat):Int) == 0)=false):a≠0:=fun e=>by subst e; cases h
theorem k_le {k m:Nat} (h:k * k≤m) (hm:m≤1000000):k≤1000:=by
 refine Decidable.byContradiction fun hc=>?_
 have:=Nat.mul_le_mul (show 1001≤k by omega) (show 1001≤k by omega)
 omega
theorem sq_r {r m N:Nat} (h:r * r * m=N) (h0:0 < m) (hN:N≤1000000):r≤1000:=by
 refine k_le (m:=N) ?_ hN
 rw [← h]; exact Nat.le_mul_of_pos_right _ h0
theorem sq_rk {r k:Nat} (h:r≤1000) (hk:k≤1000):r * k≤1000000000:=by
 have:=Nat.mul_le_mul h hk; omega
theorem sq_div {m j:Nat} (hm:0 < m) (h:m % j=0) (hj:4≤j):0 < m / j∧m / j < m :=
 ⟨Nat.div_pos (Nat.le_of_dvd hm (Nat.dvd_of_mod_eq_zero h)) (by omega),Nat.div_lt_self hm (by omega)⟩
theorem kk4 {k:Nat} (h:2≤k):4≤k * k:=Nat.mul_le_mul h h
theorem sq_step {r k m N:Nat} (hm:r * r * m=N) (h:m % (k * k)=0):r * k * (r * k) * (m / (k * k))=N:=by
 obtain ⟨q,rfl⟩:=Nat.dvd_of_mod_eq_zero h
 by_cases hk:k * k=0
 ·rw [hk] at hm ⊢; grind
 ·rw [Nat.mul_div_cancel_left _ (by omega),← hm]; grind
theorem sqf_one {N R M:Nat} (h:SqF N R M):(R=1 ↔ Free N):=by
 constructor
 ·intro e; have:=h.mul; subst e
  have this:M=N:=by omega
  exact this ▸ h.free
 ·intro hf
  exact (h.eq ⟨by omega,h.pos,hf⟩).1
theorem not_free {N k:Nat} (hk:2≤k) (h:N % (k * k)=0):¬ Free N:=fun hf=>hf.no hk h
theorem sqf_bound {N R M:Nat} (h:SqF N R M) (hN:N≤1000000):R≤1000:=sq_r h.mul h.rpos.2 hN
-- what the readers find
section
variable {A B:List UInt8} {D:Int} {p q:Rat}
theorem rd_one (h1:readF A=some p) (h2:readF B=some q) (hD:(D == 1)=true) (hq:q.num=0):rdS A B D=some ⟨p,0,1⟩:=by
 have e:=eq_of_beq hD; subst e
 have e:=Rat.num_eq_zero.1 hq; subst e
 exact rdS_some h1 h2 (Or.inl ⟨rfl,rfl⟩)
theorem rd_one_no (h1:readF A=some p) (h2:readF B=some q) (hD:(D == 1)=true) (hq:q.num≠0):rdS A B D=none:=by
 have e:=eq_of_beq hD; subst e
 refine rdS_no h1 h2 ?_
 rintro (⟨_,h⟩ | ⟨h,_⟩)
 ·simp only at h; subst h; exact hq rfl
 ·simp only at h; omega
theorem ne_one (h:(D == 1)=false):D≠1:=fun e=>by subst e; cases h
theorem rd_out (h1:readF A=some p) (h2:readF B=some q) (hD:(D == 1)=false) (h:D < 2∨D > 1000000∨q.num=0∨¬ Free D.toNat):rdS A B D=none:=by
 refine rdS_no h1 h2 ?_
 have:=ne_one hD
 rintro (⟨h3,_⟩ | ⟨h3,h4,h5,h6⟩)
 ·exact this h3
 ·simp only at h3 h4 h5 h6
  rcases h with h | h | h | h
  ·omega
  ·omega
  ·exact h5 (Rat.num_eq_zero.1 h)
  ·exact h h6
theorem rd_in (h1:readF A=some p) (h2:readF B=some q) (h3:2≤D) (h4:D≤1000000) (h5:q.num≠0) (h6:Free D.toNat):rdS A B D=some ⟨p,q,D⟩ :=
 rdS_some h1 h2 (Or.inr ⟨h3,h4,fun e=>h5 (by simp only at e; rw [e]; rfl),h6⟩)
end
theorem ne1_t {R N M:Nat} (hS:SqF N R M) (h:(((R:Nat):Int) != 1)=true):¬ Free N:=fun hf=>by
 have:=(sqf_one hS).2 hf; subst this; cases h
theorem ne1_f {R N M:Nat} (hS:SqF N R M) (h:(((R:Nat):Int) != 1)=false):Free N:=by
 refine (sqf_one hS).1 ?_
 have:((R:Nat):Int)=1:=by simpa using h
 omega
-- results
abbrev zS:Value:=.agg #[.string ⟨#[]⟩, .string ⟨#[]⟩, .int .i64 0]
abbrev tS (x:Sd):Value:=.agg #[.string ⟨(ratText x.a).toArray⟩, .string ⟨(ratText x.b).toArray⟩, .int .i64 x.d]
abbrev okS (x:Sd):Value:=.tuple #[tS x, .int .i64 0]
noncomputable def opV (o o':Option Sd) (f:Sd→Sd→Value) (z:Value):Value :=
 match o,o' with
 | some x,some y=>@ite _ (Blg x.d y.d) (Classical.propDecidable _) (f x y) (.tuple #[z, .int .i64 9])
 | _,_=>.tuple #[z, .int .i64 1]
def opU (o:Option Sd) (f:Sd→Value) (z:Value):Value:=match o with | some x=>f x | none=>.tuple #[z, .int .i64 1]
section
variable {o o':Option Sd} {f:Sd→Sd→Value} {g:Sd→Value} {z:Value} {x y:Sd}
theorem opV_ok (h:o=some x) (h':o'=some y) (hb:Blg x.d y.d):opV o o' f z=f x y:=by
 unfold opV; rw [h,h']; exact if_pos hb
theorem opU_bad (h:o=none):opU o g z=.tuple #[z, .int .i64 1]:=by rw [h]; rfl
theorem opU_ok (h:o=some x):opU o g z=g x:=by rw [h]; rfl
end
abbrev zV:Value:=vV9 false none 0 0 false none 0 0 false none 0 0 false none 0 0 0
def RetRd2 (w:World) (o o':Option Sd) (e:Ending) (w':World):Prop :=
 ((o=none∨o'=none)∧e=.returned (.tuple #[zV,zV, .int .i64 1])∧Ext w w') ∨
 (∃ x y,o=some x∧o'=some y∧¬ Blg x.d y.d∧e=.returned (.tuple #[zV,zV, .int .i64 9])∧Ext w w') ∨
 (∃ x y v v',o=some x∧o'=some y∧Blg x.d y.d∧e=.returned (.tuple #[v,v', .int .i64 0])∧SdIs w' v x∧SdIs w' v' y∧Ext w w')
section
variable {w w':World} {e:Ending} {o o':Option Sd} {x y:Sd}
theorem post_Rd2_ok (h:RetRd2 w o o' e w') (ho:o=some x) (ho':o'=some y) (hb:Blg x.d y.d):PostC (fun u:ShS × ShS=>.tuple #[shSd x.d u.1,shSd y.d u.2, .int .i64 0])
 (fun u w=>((RatIs w (shRat u.1.1) x.a∧RatIs w (shRat u.1.2) x.b)∧RatIs w (shRat u.2.1) y.a)∧RatIs w (shRat u.2.2) y.b) w e w':=by
 rcases h with ⟨hb,_⟩ | ⟨x',y',h1,h2,h3,_⟩ | ⟨x',y',v,v',h1,h2,h3,rfl,⟨u,rfl,a1,a2⟩,⟨u',rfl,b1,b2⟩,hE⟩
 ·rw [ho,ho'] at hb; simp at hb
 ·rw [ho] at h1; rw [ho'] at h2; injection h1 with h1; injection h2 with h2; subst h1 h2; exact absurd hb h3
 ·rw [ho] at h1; rw [ho'] at h2; injection h1 with h1; injection h2 with h2; subst h1 h2
  exact ⟨(u,u'),rfl,hE,boxn hE (fun S w'' hS hF=>⟨⟨⟨a1.nrb hS hF,a2.nrb hS hF⟩,b1.nrb hS hF⟩,b2.nrb hS hF⟩)⟩
end
noncomputable def mkV (A B:List UInt8) (d:Int) (R M:Nat):Value :=
 match readF A,readF B with
 | some p,some q=>if d < 0∨d > 1000000 then .tuple #[zS, .int .i64 3] else if d=0 then okS ⟨p,0,1⟩ else okS (Sd.build p (q * (((R:Nat):Int):Rat)) ((M:Nat):Int))
 | _,_=>.tuple #[zS, .int .i64 1]
section
variable {A B:List UInt8} {d:Int} {R M:Nat} {p q:Rat}
theorem mkV_bad1 (h:readF A=none):mkV A B d R M=.tuple #[zS, .int .i64 1]:=by unfold mkV; rw [h]
theorem mkV_bad2 (h:readF B=none):mkV A B d R M=.tuple #[zS, .int .i64 1]:=by unfold mkV; rw [h]; split<;>simp_all
theorem mkV_range (h:readF A=some p) (h':readF B=some q) (hd:d < 0∨d > 1000000):mkV A B d R M=.tuple #[zS, .int .i64 3]:=by unfold mkV; rw [h,h']; exact if_pos hd
theorem mkV_zero (h:readF A=some p) (h':readF B=some q) (hd:d=0):mkV A B d R M=okS ⟨p,0,1⟩:=by
 unfold mkV; rw [h,h']; subst hd; rfl
theorem mkV_ok (h:readF A=some p) (h':readF B=some q) (hd:¬ d < 0) (hd2:¬ d > 1000000) (hd3:d≠0):mkV A B d R M=okS (Sd.build p (q * (((R:Nat):Int):Rat)) ((M:Nat):Int)):=by
 unfold mkV; rw [h,h']; simp only [if_neg (show ¬ (d < 0∨d > 1000000) by omega),if_neg hd3]
end
end Go.Proofs.YtbgkofgoeoiciaaGreatDoor
