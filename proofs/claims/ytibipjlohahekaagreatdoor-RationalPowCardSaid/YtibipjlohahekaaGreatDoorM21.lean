/-
 My texts Nr, Ng, Nf, Nt, Nd, Len2, Nrd, RdK, Nm put together.
-/
import Derived.Test.YtibipjlohahekaaGreatDoorM16
import Derived.Test.YtibipjlohahekaaGreatDoorM20
import Derived.Test.YtibipjlohahekaaGreatDoorM18
import Derived.Test.YtibipjlohahekaaGreatDoorM19
import Derived.Test.YtibipjlohahekaaGreatDoorM14
namespace Go.Proofs.YtibipjlohahekaaGreatDoor
open Go.RowKit
theorem make1_ret (neg:Bool) (u:Value) (n:Nat) (w:World) (hu:MagIs w u n):Calls Tryz.prog 122 #[.bool neg,u] w (RetNum w (sg neg n)):=by
 refine (make1_any neg u n w hu).mono ?_
 rintro e w1 ⟨s,rfl,hs,hF⟩
 exact ⟨_,rfl,NumIs.signed (hu.ext hF) hs.out,hF⟩
theorem NumIs.opn {w:World} {s:Bool} {A:Option Addr} {l c:Nat} {z:Int} (h:NumIs w (.agg #[.bool s, .slice A l c]) z):MagIs w (.slice A l c) z.natAbs∧z=sg s z.natAbs∧(z=0→s=false):=by
 obtain ⟨s',A',l',c',he,h1,h2,h3⟩:=h.open
 injection he with he
 simp at he
 obtain ⟨rfl,rfl,rfl,rfl⟩:=he
 exact ⟨h1,h2,h3⟩
theorem NumIs.mag {w:World} {s:Bool} {A:Option Addr} {l c:Nat} {z:Int} (h:NumIs w (.agg #[.bool s, .slice A l c]) z):MagIs w (.slice A l c) z.natAbs:=h.opn.1
theorem neg_sg {w:World} {s:Bool} {A:Option Addr} {l c:Nat} {z:Int} (h:NumIs w (.agg #[.bool s, .slice A l c]) z):sg (!s) z.natAbs = -z:=by
 obtain ⟨_,h2,h3⟩:=h.opn
 cases s<;>simp [sg] at *<;>omega
theorem NFits.neg {x:Int} (h:NFits x):NFits (-x):=by
 unfold NFits at *; rw [Int.natAbs_neg]; exact h
theorem fin_Num {fn:Func} {t:Tmp} {tmps:Array Value} {w w':World} {r:Nat} {x y:Value} {z:Int} (hres:fn.results=#[.cell t 33]) (ht:tmps[t]? = some (.pointer (some ⟨r,0,none⟩)))
 (hB:Blk 33 w' r #[x,y]) (hI:NumIs w' (.agg #[x,y]) z) (hE:Ext w w'):bodyPost Tryz.prog fn (RetNum w z) .ret ⟨tmps,[]⟩ w' :=
 bodyPost_ret (results_num hres _ _ r _ _ ht hB) rfl ⟨_,rfl,hI,hE⟩
theorem NumIs.sneg {w:World} {s:Bool} {A:Option Addr} {l c:Nat} {z:Int} (h:NumIs w (.agg #[.bool s, .slice A l c]) z) (hz:z < 0):s=true:=by
 obtain ⟨_,h2,h3⟩:=h.opn
 cases s with
 | true=>rfl
 | false=>simp [sg] at h2; omega
theorem NumIs.spos {w:World} {s:Bool} {A:Option Addr} {l c:Nat} {z:Int} (h:NumIs w (.agg #[.bool s, .slice A l c]) z) (hz:0≤z):s=false:=by
 obtain ⟨_,h2,h3⟩:=h.opn
 cases s with
 | false=>rfl
 | true=>simp [sg] at h2; exact h3 (by omega)
theorem NumIs.len0 {w:World} {s:Bool} {A:Option Addr} {l c:Nat} {z:Int} (h:NumIs w (.agg #[.bool s, .slice A l c]) z) (hz:z=0):l=0:=by
 obtain ⟨h1,_,_⟩:=h.opn
 obtain ⟨A',xs,c',he,_,_,hd,ht,hv⟩:=h1
 injection he with _ he
 rw [hz] at hv
 have:=eq_nil_of_val ht W32_pos hv
 rw [this] at he
 simpa using he
theorem NumIs.lenp {w:World} {s:Bool} {A:Option Addr} {l c:Nat} {z:Int} (h:NumIs w (.agg #[.bool s, .slice A l c]) z) (hz:z≠0):0 < l:=by
 obtain ⟨h1,_,_⟩:=h.opn
 obtain ⟨A',xs,c',he,_,_,hd,ht,hv⟩:=h1
 injection he with _ he
 rcases Nat.eq_zero_or_pos l with e | e
 ·rw [e] at he
  have:xs=[]:=List.length_eq_zero_iff.1 he.symm
  rw [this] at hv
  simp at hv
  omega
 ·exact e
theorem NumIs.quo {w:World} {s t:Bool} {A B:Option Addr} {l c l' c':Nat} {x y:Int} (h:NumIs w (.agg #[.bool s, .slice A l c]) x) (k:NumIs w (.agg #[.bool t, .slice B l' c']) y):sg (s != t) (x.natAbs / y.natAbs)=x.tdiv y∧sg s (x.natAbs % y.natAbs)=x.tmod y:=by
 obtain ⟨_,h2,h3⟩:=h.opn
 obtain ⟨_,k2,k3⟩:=k.opn
 generalize x.natAbs=m at *
 generalize y.natAbs=n at *
 subst h2 k2
 cases s<;>cases t<;>simp [sg,Int.neg_tdiv,Int.tdiv_neg,Int.neg_tmod,Int.tmod_neg]<;>exact (Int.tmod_eq_emod_of_nonneg (by omega)).symm
def RetNum2 (w:World) (q r:Int) (e:Ending) (w':World):Prop:=∃ u v,e=.returned (.tuple #[u,v])∧NumIs w' u q∧NumIs w' v r∧Ext w w'
theorem fin_Num2 {fn:Func} {t t':Tmp} {tmps:Array Value} {w w':World} {r r':Nat} {x y x' y':Value} {z z':Int} (hres:fn.results=#[.cell t 33, .cell t' 33]) (ht:tmps[t]? = some (.pointer (some ⟨r,0,none⟩))) (ht':tmps[t']? = some (.pointer (some ⟨r',0,none⟩)))
 (hB:Blk 33 w' r #[x,y]) (hB':Blk 33 w' r' #[x',y']) (hI:NumIs w' (.agg #[x,y]) z) (hI':NumIs w' (.agg #[x',y']) z') (hE:Ext w w'):bodyPost Tryz.prog fn (RetNum2 w z z') .ret ⟨tmps,[]⟩ w':=by
 obtain ⟨h0,h1,_⟩:=hB.cell2
 obtain ⟨k0,k1,_⟩:=hB'.cell2
 exact bodyPost_ret (v:=.tuple #[.agg #[x,y], .agg #[x',y']]) (by simp [results,hres,ht,ht',go_sem,h0,h1,k0,k1]) rfl ⟨_,_,rfl,hI,hI',hE⟩
theorem denF_ne {q:Rat} (h:¬ q.den=1):denF q≠0:=by rw [denF_big h]; have:=q.den_nz; omega
set_option maxHeartbeats 2000000 in
set_option maxRecDepth 100000 in
theorem NNeg_any (a:Value) (x:Int) (w:World) (ha:NumIs w a x) :
 Calls Tryz.prog 70 #[a] w (RetNum w (-x)):=by
 obtain ⟨s1,A1,l1,c1,rfl⟩:=ha.shp
 have F2:Hid (NumIs w (.agg #[.bool s1, .slice A1 l1 c1]) (x)):=ha
 clear ha
 have Hs:=zh (neg_sg F2.out)
 go_enter Tryz.func70,Tryz.ntmps70
 go_wp2_with fail
 generalize hwb:World.alloc (World.alloc w _) _=w5
 obtain ⟨b_B3,b_B4,hE0⟩:=blocks2 hwb
 clear hwb
 have B3:=zh b_B3
 have B4:=zh b_B4
 clear b_B3 b_B4
 replace F2:=zh (F2.out.ext hE0)
 have HE:=zh hE0
 clear hE0
 have F6:Hid (MagIs w5 (.slice A1 l1 c1) ((x).natAbs)):=F2.out.mag
 refine (make1_ret ((!s1)) _ _ _ F6.out).mono ?_
 rintro e w7 ⟨_,rfl,hI,hF⟩
 obtain ⟨s8,A8,l8,c8,rfl⟩:=hI.shp
 replace B3:=zh (B3.out.ext hF)
 replace B4:=zh (B4.out.ext hF)
 replace F2:=zh (F2.out.ext hF)
 replace F6:=zh (F6.out.ext hF)
 replace HE:=zh (HE.out.trans hF)
 have F9:Hid (NumIs w7 (.agg #[.bool s8, .slice A8 l8 c8]) (sg ((!s1)) ((x).natAbs))):=hI
 clear hF hI
 obtain ⟨c10_0,c10_1,f10_0,f10_1⟩:=B3.out.cell2
 obtain ⟨c11_0,c11_1,f11_0,f11_1⟩:=B4.out.cell2
 go_wp2
 clear c10_0 c10_1 f10_0 f10_1 c11_0 c11_1 f11_0 f11_1
 have hFs:Fr (fun i=>i=(w.heap.size + 1)) w7 ((w7.setCell ⟨(w.heap.size + 1),0,none⟩ (.bool s8)).setCell ⟨(w.heap.size + 1),1,none⟩ (.slice A8 l8 c8)):=(((Fr.refl (fun i=>i=(w.heap.size + 1)) _).setCell (p:=⟨(w.heap.size + 1),0,none⟩) (Or.inl rfl) _).setCell (p:=⟨(w.heap.size + 1),1,none⟩) (Or.inl rfl) _)
 replace F2:=zh (F2.out.oth B4.out noRow2 hFs)
 replace F6:=zh (F6.out.oth B4.out noRow2 hFs)
 replace F9:=zh (F9.out.oth B4.out noRow2 hFs)
 replace B3:=zh (B3.out.fr hFs (by first | omega | (have:=B3.out.lt; have:=B4.out.lt; omega)))
 replace HE:=zh (HE.out.next hFs (fun i hi e=>by first | omega | (have:=HE.out.size; have:=B4.out.lt; omega)))
 have b_new:Blk 33 ((w7.setCell ⟨(w.heap.size + 1),0,none⟩ (.bool s8)).setCell ⟨(w.heap.size + 1),1,none⟩ (.slice A8 l8 c8)) (w.heap.size + 1) #[.bool s8, .slice A8 l8 c8]:=((B4.out.set_ 0 _).set_ 1 _)
 generalize ((w7.setCell ⟨(w.heap.size + 1),0,none⟩ (.bool s8)).setCell ⟨(w.heap.size + 1),1,none⟩ (.slice A8 l8 c8))=w12 at *
 replace B4:=zh b_new; clear b_new hFs
 exact fin_Num rfl rfl B4.out (by have:=F9.out; rw [Hs.out] at this; exact this) HE.out
set_option maxHeartbeats 2000000 in
set_option maxRecDepth 100000 in
theorem NSub_any (a b:Value) (x y:Int) (w:World) (ha:NumIs w a x) (hb:NumIs w b y) (hx:NFits x) (hy:NFits y) :
 Calls Tryz.prog 143 #[a,b] w (RetNum w (x - y)):=by
 obtain ⟨s1,A1,l1,c1,rfl⟩:=ha.shp
 have F2:Hid (NumIs w (.agg #[.bool s1, .slice A1 l1 c1]) (x)):=ha
 clear ha
 obtain ⟨s3,A3,l3,c3,rfl⟩:=hb.shp
 have F4:Hid (NumIs w (.agg #[.bool s3, .slice A3 l3 c3]) (y)):=hb
 clear hb
 have Hx:=zh hx
 have Hy:=zh hy
 clear hx hy
 go_enter Tryz.func143,Tryz.ntmps143
 go_wp2_with fail
 generalize hwb:World.alloc (World.alloc (World.alloc w _) _) _=w8
 obtain ⟨b_B5,b_B6,b_B7,hE0⟩:=blocks3 hwb
 clear hwb
 have B5:=zh b_B5
 have B6:=zh b_B6
 have B7:=zh b_B7
 clear b_B5 b_B6 b_B7
 replace F2:=zh (F2.out.ext hE0)
 replace F4:=zh (F4.out.ext hE0)
 have HE:=zh hE0
 clear hE0
 refine wp_region_T 4 (fun W'=>Blk 33 W' w.heap.size #[.bool s1, .slice A1 l1 c1]∧Blk 33 W' (w.heap.size + 1) #[.bool s3, .slice A3 l3 c3]∧Blk 33 W' (w.heap.size + 1 + 1) #[.bool false, .slice none 0 0]) follows_mixed' ?_
 replace B5:=zh (B5.out.ext (Fr.refl _ _).drew)
 replace B6:=zh (B6.out.ext (Fr.refl _ _).drew)
 replace B7:=zh (B7.out.ext (Fr.refl _ _).drew)
 replace F2:=zh (F2.out.ext (Fr.refl _ _).drew)
 replace F4:=zh (F4.out.ext (Fr.refl _ _).drew)
 replace HE:=zh (HE.out.trans (Fr.refl _ _).drew)
 generalize w8.drew=w9 at *
 have hS:=(⟨B5.out,B6.out,B7.out⟩:(fun W'=>Blk 33 W' w.heap.size #[.bool s1, .slice A1 l1 c1]∧Blk 33 W' (w.heap.size + 1) #[.bool s3, .slice A3 l3 c3]∧Blk 33 W' (w.heap.size + 1 + 1) #[.bool false, .slice none 0 0]) w9)
 refine wpT_take 0 rfl (by kernel_rfl) (fun _ _ _ h=>h) hS (fun _=>yl_NumInt (g:=w.heap.size) (off:=0) (x:=.bool s1) (y:=.slice A1 l1 c1) rfl rfl (by kernel_rfl) (fun _ h=>Blk.two (h.1) 0 rfl rfl)) (fun hS=>?_)
 refine wpT_take 1 rfl (by kernel_rfl) (fun _ _ _ h=>h) hS (fun _=>yl_NumInt (g:=(w.heap.size + 1)) (off:=0) (x:=.bool s3) (y:=.slice A3 l3 c3) rfl rfl (by kernel_rfl) (fun _ h=>Blk.two (h.2.1) 0 rfl rfl)) (fun hS=>?_)
 refine wpT_only 2 rfl (by kernel_rfl) rfl (fun K hK=>?_)
 go_simp
 clear hS
 refine (NNeg_any _ (y) _ F4.out).mono ?_
 rintro e w10 ⟨_,rfl,hI,hF⟩
 obtain ⟨s11,A11,l11,c11,rfl⟩:=hI.shp
 replace B5:=zh (B5.out.ext hF)
 replace B6:=zh (B6.out.ext hF)
 replace B7:=zh (B7.out.ext hF)
 replace F2:=zh (F2.out.ext hF)
 replace F4:=zh (F4.out.ext hF)
 replace HE:=zh (HE.out.trans hF)
 have F12:Hid (NumIs w10 (.agg #[.bool s11, .slice A11 l11 c11]) (-(y))):=hI
 clear hF hI
 have hS:=(⟨B5.out,B6.out,B7.out⟩:(fun W'=>Blk 33 W' w.heap.size #[.bool s1, .slice A1 l1 c1]∧Blk 33 W' (w.heap.size + 1) #[.bool s3, .slice A3 l3 c3]∧Blk 33 W' (w.heap.size + 1 + 1) #[.bool false, .slice none 0 0]) w10)
 refine hK _ _ hS ?_
 clear hK
 refine wpT_only 3 rfl (by kernel_rfl) rfl (fun K hK=>?_)
 go_simp
 clear hS
 refine (NAdd_any _ _ (x) (-(y)) _ F2.out F12.out (by first | exact Hx.out | exact Hy.out | exact NFits.neg Hy.out | exact Hx'.out | exact Hy'.out) (by first | exact Hx.out | exact Hy.out | exact NFits.neg Hy.out | exact Hx'.out | exact Hy'.out)).mono ?_
 rintro e w13 ⟨_,rfl,hI,hF⟩
 obtain ⟨s14,A14,l14,c14,rfl⟩:=hI.shp
 replace B5:=zh (B5.out.ext hF)
 replace B6:=zh (B6.out.ext hF)
 replace B7:=zh (B7.out.ext hF)
 replace F2:=zh (F2.out.ext hF)
 replace F4:=zh (F4.out.ext hF)
 replace F12:=zh (F12.out.ext hF)
 replace HE:=zh (HE.out.trans hF)
 have F15:Hid (NumIs w13 (.agg #[.bool s14, .slice A14 l14 c14]) ((x) + (-(y)))):=hI
 clear hF hI
 have hS:=(⟨B5.out,B6.out,B7.out⟩:(fun W'=>Blk 33 W' w.heap.size #[.bool s1, .slice A1 l1 c1]∧Blk 33 W' (w.heap.size + 1) #[.bool s3, .slice A3 l3 c3]∧Blk 33 W' (w.heap.size + 1 + 1) #[.bool false, .slice none 0 0]) w13)
 refine hK _ _ hS ?_
 clear hK
 refine wpT_tail (l:=[_]) 4 rfl (by kernel_rfl) ?_
 clear hS
 obtain ⟨c16_0,c16_1,f16_0,f16_1⟩:=B5.out.cell2
 obtain ⟨c17_0,c17_1,f17_0,f17_1⟩:=B6.out.cell2
 obtain ⟨c18_0,c18_1,f18_0,f18_1⟩:=B7.out.cell2
 go_wp2
 clear c16_0 c16_1 f16_0 f16_1 c17_0 c17_1 f17_0 f17_1 c18_0 c18_1 f18_0 f18_1
 have hFs:Fr (fun i=>i=(w.heap.size + 1 + 1)) w13 ((w13.setCell ⟨(w.heap.size + 1 + 1),0,none⟩ (.bool s14)).setCell ⟨(w.heap.size + 1 + 1),1,none⟩ (.slice A14 l14 c14)):=(((Fr.refl (fun i=>i=(w.heap.size + 1 + 1)) _).setCell (p:=⟨(w.heap.size + 1 + 1),0,none⟩) (Or.inl rfl) _).setCell (p:=⟨(w.heap.size + 1 + 1),1,none⟩) (Or.inl rfl) _)
 replace F2:=zh (F2.out.oth B7.out noRow2 hFs)
 replace F4:=zh (F4.out.oth B7.out noRow2 hFs)
 replace F12:=zh (F12.out.oth B7.out noRow2 hFs)
 replace F15:=zh (F15.out.oth B7.out noRow2 hFs)
 replace B5:=zh (B5.out.fr hFs (by first | omega | (have:=B5.out.lt; have:=B7.out.lt; omega)))
 replace B6:=zh (B6.out.fr hFs (by first | omega | (have:=B6.out.lt; have:=B7.out.lt; omega)))
 replace HE:=zh (HE.out.next hFs (fun i hi e=>by first | omega | (have:=HE.out.size; have:=B7.out.lt; omega)))
 have b_new:Blk 33 ((w13.setCell ⟨(w.heap.size + 1 + 1),0,none⟩ (.bool s14)).setCell ⟨(w.heap.size + 1 + 1),1,none⟩ (.slice A14 l14 c14)) (w.heap.size + 1 + 1) #[.bool s14, .slice A14 l14 c14]:=((B7.out.set_ 0 _).set_ 1 _)
 generalize ((w13.setCell ⟨(w.heap.size + 1 + 1),0,none⟩ (.bool s14)).setCell ⟨(w.heap.size + 1 + 1),1,none⟩ (.slice A14 l14 c14))=w19 at *
 replace B7:=zh b_new; clear b_new hFs
 exact fin_Num rfl rfl B7.out (by rw [Int.sub_eq_add_neg]; exact F15.out) HE.out
set_option maxHeartbeats 2000000 in
set_option maxRecDepth 100000 in
theorem NSign_neg (a:Value) (x:Int) (w:World) (ha:NumIs w a x) (hx:x < 0) :
 Calls Tryz.prog 67 #[a] w (RetV w (.int .i64 (-1))):=by
 obtain ⟨s1,A1,l1,c1,rfl⟩:=ha.shp
 have F2:Hid (NumIs w (.agg #[.bool s1, .slice A1 l1 c1]) (x)):=ha
 clear ha
 obtain rfl:s1=true:=F2.out.sneg hx
 clear hx
 go_enter Tryz.func67,Tryz.ntmps67
 go_wp2
 generalize hwb:World.alloc w _=w4
 obtain ⟨b_B3,hE0⟩:=blocks1 hwb
 clear hwb
 have B3:=zh b_B3
 clear b_B3
 replace F2:=zh (F2.out.ext hE0)
 have HE:=zh hE0
 clear hE0
 go_ret
 exact ⟨rfl,HE.out⟩
set_option maxHeartbeats 2000000 in
set_option maxRecDepth 100000 in
theorem NSign_zero (a:Value) (x:Int) (w:World) (ha:NumIs w a x) (hx:x=0) :
 Calls Tryz.prog 67 #[a] w (RetV w (.int .i64 (0))):=by
 obtain ⟨s1,A1,l1,c1,rfl⟩:=ha.shp
 have F2:Hid (NumIs w (.agg #[.bool s1, .slice A1 l1 c1]) (x)):=ha
 clear ha
 obtain rfl:s1=false:=F2.out.spos (by omega)
 obtain rfl:l1=0:=F2.out.len0 hx
 clear hx
 go_enter Tryz.func67,Tryz.ntmps67
 go_wp2
 generalize hwb:World.alloc w _=w4
 obtain ⟨b_B3,hE0⟩:=blocks1 hwb
 clear hwb
 have B3:=zh b_B3
 clear b_B3
 replace F2:=zh (F2.out.ext hE0)
 have HE:=zh hE0
 clear hE0
 go_ret
 exact ⟨rfl,HE.out⟩
set_option maxHeartbeats 2000000 in
set_option maxRecDepth 100000 in
theorem NSign_pos (a:Value) (x:Int) (w:World) (ha:NumIs w a x) (hx:0 < x) :
 Calls Tryz.prog 67 #[a] w (RetV w (.int .i64 (1))):=by
 obtain ⟨s1,A1,l1,c1,rfl⟩:=ha.shp
 have F2:Hid (NumIs w (.agg #[.bool s1, .slice A1 l1 c1]) (x)):=ha
 clear ha
 obtain rfl:s1=false:=F2.out.spos (by omega)
 have hl:((l1:Int) == 0)=false:=by have:=F2.out.lenp (by omega); simp; omega
 clear hx
 go_enter Tryz.func67,Tryz.ntmps67
 go_wp2
 generalize hwb:World.alloc w _=w4
 obtain ⟨b_B3,hE0⟩:=blocks1 hwb
 clear hwb
 have B3:=zh b_B3
 clear b_B3
 replace F2:=zh (F2.out.ext hE0)
 have HE:=zh hE0
 clear hE0
 go_ret
 exact ⟨rfl,HE.out⟩
theorem NSign_any (a:Value) (x:Int) (w:World) (ha:NumIs w a x):Calls Tryz.prog 67 #[a] w (RetV w (.int .i64 x.sign)):=by
 rcases Int.lt_trichotomy x 0 with h | h | h
 ·rw [Int.sign_eq_neg_one_of_neg h]; exact NSign_neg a x w ha h
 ·rw [h,Int.sign_zero]; exact NSign_zero a x w ha h
 ·rw [Int.sign_eq_one_of_pos h]; exact NSign_pos a x w ha h
set_option maxHeartbeats 2000000 in
set_option maxRecDepth 100000 in
theorem NQuoRem_any (a b:Value) (x y:Int) (w:World) (ha:NumIs w a x) (hb:NumIs w b y) (hx:NFits x) (hy:NFits y) (h0:y≠0) :
 Calls Tryz.prog 125 #[a,b] w (RetNum2 w (x.tdiv y) (x.tmod y)):=by
 obtain ⟨s1,A1,l1,c1,rfl⟩:=ha.shp
 have F2:Hid (NumIs w (.agg #[.bool s1, .slice A1 l1 c1]) (x)):=ha
 clear ha
 obtain ⟨s3,A3,l3,c3,rfl⟩:=hb.shp
 have F4:Hid (NumIs w (.agg #[.bool s3, .slice A3 l3 c3]) (y)):=hb
 clear hb
 have Hx:Hid (ml x.natAbs≤1048576):=hx
 have Hy:Hid (ml y.natAbs≤1048576):=hy
 have H0:Hid (0 < y.natAbs):=by unfold Hid; omega
 have HQ:=zh (F2.out.quo F4.out)
 clear hx hy h0
 go_enter Tryz.func125,Tryz.ntmps125
 go_wp2_with fail
 generalize hwb:World.alloc (World.alloc (World.alloc (World.alloc w _) _) _) _=w9
 obtain ⟨b_B5,b_B6,b_B7,b_B8,hE0⟩:=blocks4 hwb
 clear hwb
 have B5:=zh b_B5
 have B6:=zh b_B6
 have B7:=zh b_B7
 have B8:=zh b_B8
 clear b_B5 b_B6 b_B7 b_B8
 replace F2:=zh (F2.out.ext hE0)
 replace F4:=zh (F4.out.ext hE0)
 have HE:=zh hE0
 clear hE0
 have F10:Hid (MagIs w9 (.slice A1 l1 c1) ((x).natAbs)):=F2.out.mag
 have F11:Hid (MagIs w9 (.slice A3 l3 c3) ((y).natAbs)):=F4.out.mag
 refine (divMag_any _ _ ((x).natAbs) ((y).natAbs) _ F10.out F11.out Hx.out Hy.out H0.out).mono ?_
 rintro e w12 ⟨_,_,rfl,hq,hr,hF⟩
 obtain ⟨Aq13,lq13,cq13,rfl⟩:=hq.slice
 obtain ⟨Ar13,lr13,cr13,rfl⟩:=hr.slice
 replace B5:=zh (B5.out.ext hF)
 replace B6:=zh (B6.out.ext hF)
 replace B7:=zh (B7.out.ext hF)
 replace B8:=zh (B8.out.ext hF)
 replace F2:=zh (F2.out.ext hF)
 replace F4:=zh (F4.out.ext hF)
 replace F10:=zh (F10.out.ext hF)
 replace F11:=zh (F11.out.ext hF)
 replace HE:=zh (HE.out.trans hF)
 have F14:Hid (MagIs w12 (.slice Aq13 lq13 cq13) (((x).natAbs) / ((y).natAbs))):=hq
 have F15:Hid (MagIs w12 (.slice Ar13 lr13 cr13) (((x).natAbs) % ((y).natAbs))):=hr
 clear hF hq hr
 obtain ⟨c16_0,c16_1,f16_0,f16_1⟩:=B5.out.cell2
 obtain ⟨c17_0,c17_1,f17_0,f17_1⟩:=B6.out.cell2
 obtain ⟨c18_0,c18_1,f18_0,f18_1⟩:=B7.out.cell2
 obtain ⟨c19_0,c19_1,f19_0,f19_1⟩:=B8.out.cell2
 go_wp2_with fail
 clear c16_0 c16_1 f16_0 f16_1 c17_0 c17_1 f17_0 f17_1 c18_0 c18_1 f18_0 f18_1 c19_0 c19_1 f19_0 f19_1
 refine wp_region_T 11 (fun W'=>Blk 33 W' w.heap.size #[.bool s1, .slice A1 l1 c1]∧Blk 33 W' (w.heap.size + 1) #[.bool s3, .slice A3 l3 c3]∧Blk 33 W' (w.heap.size + 1 + 1) #[.bool false, .slice none 0 0]∧Blk 33 W' (w.heap.size + 1 + 1 + 1) #[.bool false, .slice none 0 0]) follows_mixed' ?_
 replace B5:=zh (B5.out.ext (Fr.refl _ _).drew)
 replace B6:=zh (B6.out.ext (Fr.refl _ _).drew)
 replace B7:=zh (B7.out.ext (Fr.refl _ _).drew)
 replace B8:=zh (B8.out.ext (Fr.refl _ _).drew)
 replace F2:=zh (F2.out.ext (Fr.refl _ _).drew)
 replace F4:=zh (F4.out.ext (Fr.refl _ _).drew)
 replace F10:=zh (F10.out.ext (Fr.refl _ _).drew)
 replace F11:=zh (F11.out.ext (Fr.refl _ _).drew)
 replace F14:=zh (F14.out.ext (Fr.refl _ _).drew)
 replace F15:=zh (F15.out.ext (Fr.refl _ _).drew)
 replace HE:=zh (HE.out.trans (Fr.refl _ _).drew)
 generalize w12.drew=w20 at *
 have hS:=(⟨B5.out,B6.out,B7.out,B8.out⟩:(fun W'=>Blk 33 W' w.heap.size #[.bool s1, .slice A1 l1 c1]∧Blk 33 W' (w.heap.size + 1) #[.bool s3, .slice A3 l3 c3]∧Blk 33 W' (w.heap.size + 1 + 1) #[.bool false, .slice none 0 0]∧Blk 33 W' (w.heap.size + 1 + 1 + 1) #[.bool false, .slice none 0 0]) w20)
 refine wpT_take 0 rfl (by kernel_rfl) (fun _ _ _ h=>h) hS (fun _=>ya_NumInt0 (g:=w.heap.size) (off:=0) rfl rfl (by kernel_rfl)) (fun hS=>?_)
 refine wpT_take 1 rfl (by kernel_rfl) (fun _ _ _ h=>h) hS (fun _=>yl_bool (g:=w.heap.size) (off:=0) (x:=.bool s1) rfl rfl (by kernel_rfl) (fun _ h=>Blk.one' (h.1) 0 rfl)) (fun hS=>?_)
 refine wpT_take 2 rfl (by kernel_rfl) (fun _ _ _ h=>h) hS (fun _=>ya_NumInt0 (g:=(w.heap.size + 1)) (off:=0) rfl rfl (by kernel_rfl)) (fun hS=>?_)
 refine wpT_take 3 rfl (by kernel_rfl) (fun _ _ _ h=>h) hS (fun _=>yl_bool (g:=(w.heap.size + 1)) (off:=0) (x:=.bool s3) rfl rfl (by kernel_rfl) (fun _ h=>Blk.one' (h.2.1) 0 rfl)) (fun hS=>?_)
 refine wpT_take 4 rfl (by kernel_rfl) (fun _ _ _ h=>h) hS (fun _=>yne_bool (b:=s1) (c:=s3) rfl rfl (by kernel_rfl) (by kernel_rfl)) (fun hS=>?_)
 refine wpT_take 5 rfl (by kernel_rfl) (fun _ _ _ h=>h) hS (fun _=>ym (v:=.slice Aq13 lq13 cq13) rfl rfl (by kernel_rfl)) (fun hS=>?_)
 refine wpT_take 7 rfl (by kernel_rfl) (fun _ _ _ h=>h) hS (fun _=>ya_NumInt0 (g:=w.heap.size) (off:=0) rfl rfl (by kernel_rfl)) (fun hS=>?_)
 refine wpT_take 8 rfl (by kernel_rfl) (fun _ _ _ h=>h) hS (fun _=>yl_bool (g:=w.heap.size) (off:=0) (x:=.bool s1) rfl rfl (by kernel_rfl) (fun _ h=>Blk.one' (h.1) 0 rfl)) (fun hS=>?_)
 refine wpT_take 9 rfl (by kernel_rfl) (fun _ _ _ h=>h) hS (fun _=>ym (v:=.slice Ar13 lr13 cr13) rfl rfl (by kernel_rfl)) (fun hS=>?_)
 refine wpT_only 6 rfl (by kernel_rfl) rfl (fun K hK=>?_)
 go_simp
 clear hS
 refine (make1_ret ((s1 != s3)) _ _ _ F14.out).mono ?_
 rintro e w21 ⟨_,rfl,hI,hF⟩
 obtain ⟨s22,A22,l22,c22,rfl⟩:=hI.shp
 replace B5:=zh (B5.out.ext hF)
 replace B6:=zh (B6.out.ext hF)
 replace B7:=zh (B7.out.ext hF)
 replace B8:=zh (B8.out.ext hF)
 replace F2:=zh (F2.out.ext hF)
 replace F4:=zh (F4.out.ext hF)
 replace F10:=zh (F10.out.ext hF)
 replace F11:=zh (F11.out.ext hF)
 replace F14:=zh (F14.out.ext hF)
 replace F15:=zh (F15.out.ext hF)
 replace HE:=zh (HE.out.trans hF)
 have F23:Hid (NumIs w21 (.agg #[.bool s22, .slice A22 l22 c22]) (sg ((s1 != s3)) (((x).natAbs) / ((y).natAbs)))):=hI
 clear hF hI
 have hS:=(⟨B5.out,B6.out,B7.out,B8.out⟩:(fun W'=>Blk 33 W' w.heap.size #[.bool s1, .slice A1 l1 c1]∧Blk 33 W' (w.heap.size + 1) #[.bool s3, .slice A3 l3 c3]∧Blk 33 W' (w.heap.size + 1 + 1) #[.bool false, .slice none 0 0]∧Blk 33 W' (w.heap.size + 1 + 1 + 1) #[.bool false, .slice none 0 0]) w21)
 refine hK _ _ hS ?_
 clear hK
 refine wpT_only 10 rfl (by kernel_rfl) rfl (fun K hK=>?_)
 go_simp
 clear hS
 refine (make1_ret (s1) _ _ _ F15.out).mono ?_
 rintro e w24 ⟨_,rfl,hI,hF⟩
 obtain ⟨s25,A25,l25,c25,rfl⟩:=hI.shp
 replace B5:=zh (B5.out.ext hF)
 replace B6:=zh (B6.out.ext hF)
 replace B7:=zh (B7.out.ext hF)
 replace B8:=zh (B8.out.ext hF)
 replace F2:=zh (F2.out.ext hF)
 replace F4:=zh (F4.out.ext hF)
 replace F10:=zh (F10.out.ext hF)
 replace F11:=zh (F11.out.ext hF)
 replace F14:=zh (F14.out.ext hF)
 replace F15:=zh (F15.out.ext hF)
 replace F23:=zh (F23.out.ext hF)
 replace HE:=zh (HE.out.trans hF)
 have F26:Hid (NumIs w24 (.agg #[.bool s25, .slice A25 l25 c25]) (sg (s1) (((x).natAbs) % ((y).natAbs)))):=hI
 clear hF hI
 have hS:=(⟨B5.out,B6.out,B7.out,B8.out⟩:(fun W'=>Blk 33 W' w.heap.size #[.bool s1, .slice A1 l1 c1]∧Blk 33 W' (w.heap.size + 1) #[.bool s3, .slice A3 l3 c3]∧Blk 33 W' (w.heap.size + 1 + 1) #[.bool false, .slice none 0 0]∧Blk 33 W' (w.heap.size + 1 + 1 + 1) #[.bool false, .slice none 0 0]) w24)
 refine hK _ _ hS ?_
 clear hK
 refine wpT_tail (l:=[_,_]) 11 rfl (by kernel_rfl) ?_
 clear hS
 obtain ⟨c27_0,c27_1,f27_0,f27_1⟩:=B5.out.cell2
 obtain ⟨c28_0,c28_1,f28_0,f28_1⟩:=B6.out.cell2
 obtain ⟨c29_0,c29_1,f29_0,f29_1⟩:=B7.out.cell2
 obtain ⟨c30_0,c30_1,f30_0,f30_1⟩:=B8.out.cell2
 go_wp2
 clear c27_0 c27_1 f27_0 f27_1 c28_0 c28_1 f28_0 f28_1 c29_0 c29_1 f29_0 f29_1 c30_0 c30_1 f30_0 f30_1
 have hFs:Fr (fun i=>i=(w.heap.size + 1 + 1)) w24 ((w24.setCell ⟨(w.heap.size + 1 + 1),0,none⟩ (.bool s22)).setCell ⟨(w.heap.size + 1 + 1),1,none⟩ (.slice A22 l22 c22)):=(((Fr.refl (fun i=>i=(w.heap.size + 1 + 1)) _).setCell (p:=⟨(w.heap.size + 1 + 1),0,none⟩) (Or.inl rfl) _).setCell (p:=⟨(w.heap.size + 1 + 1),1,none⟩) (Or.inl rfl) _)
 replace F2:=zh (F2.out.oth B7.out noRow2 hFs)
 replace F4:=zh (F4.out.oth B7.out noRow2 hFs)
 replace F10:=zh (F10.out.oth B7.out noRow2 hFs)
 replace F11:=zh (F11.out.oth B7.out noRow2 hFs)
 replace F14:=zh (F14.out.oth B7.out noRow2 hFs)
 replace F15:=zh (F15.out.oth B7.out noRow2 hFs)
 replace F23:=zh (F23.out.oth B7.out noRow2 hFs)
 replace F26:=zh (F26.out.oth B7.out noRow2 hFs)
 replace B5:=zh (B5.out.fr hFs (by first | omega | (have:=B5.out.lt; have:=B7.out.lt; omega)))
 replace B6:=zh (B6.out.fr hFs (by first | omega | (have:=B6.out.lt; have:=B7.out.lt; omega)))
 replace B8:=zh (B8.out.fr hFs (by first | omega | (have:=B8.out.lt; have:=B7.out.lt; omega)))
 replace HE:=zh (HE.out.next hFs (fun i hi e=>by first | omega | (have:=HE.out.size; have:=B7.out.lt; omega)))
 have b_new:Blk 33 ((w24.setCell ⟨(w.heap.size + 1 + 1),0,none⟩ (.bool s22)).setCell ⟨(w.heap.size + 1 + 1),1,none⟩ (.slice A22 l22 c22)) (w.heap.size + 1 + 1) #[.bool s22, .slice A22 l22 c22]:=((B7.out.set_ 0 _).set_ 1 _)
 generalize ((w24.setCell ⟨(w.heap.size + 1 + 1),0,none⟩ (.bool s22)).setCell ⟨(w.heap.size + 1 + 1),1,none⟩ (.slice A22 l22 c22))=w31 at *
 replace B7:=zh b_new; clear b_new hFs
 have hFs:Fr (fun i=>i=(w.heap.size + 1 + 1 + 1)) w31 ((w31.setCell ⟨(w.heap.size + 1 + 1 + 1),0,none⟩ (.bool s25)).setCell ⟨(w.heap.size + 1 + 1 + 1),1,none⟩ (.slice A25 l25 c25)):=(((Fr.refl (fun i=>i=(w.heap.size + 1 + 1 + 1)) _).setCell (p:=⟨(w.heap.size + 1 + 1 + 1),0,none⟩) (Or.inl rfl) _).setCell (p:=⟨(w.heap.size + 1 + 1 + 1),1,none⟩) (Or.inl rfl) _)
 replace F2:=zh (F2.out.oth B8.out noRow2 hFs)
 replace F4:=zh (F4.out.oth B8.out noRow2 hFs)
 replace F10:=zh (F10.out.oth B8.out noRow2 hFs)
 replace F11:=zh (F11.out.oth B8.out noRow2 hFs)
 replace F14:=zh (F14.out.oth B8.out noRow2 hFs)
 replace F15:=zh (F15.out.oth B8.out noRow2 hFs)
 replace F23:=zh (F23.out.oth B8.out noRow2 hFs)
 replace F26:=zh (F26.out.oth B8.out noRow2 hFs)
 replace B5:=zh (B5.out.fr hFs (by first | omega | (have:=B5.out.lt; have:=B8.out.lt; omega)))
 replace B6:=zh (B6.out.fr hFs (by first | omega | (have:=B6.out.lt; have:=B8.out.lt; omega)))
 replace B7:=zh (B7.out.fr hFs (by first | omega | (have:=B7.out.lt; have:=B8.out.lt; omega)))
 replace HE:=zh (HE.out.next hFs (fun i hi e=>by first | omega | (have:=HE.out.size; have:=B8.out.lt; omega)))
 have b_new:Blk 33 ((w31.setCell ⟨(w.heap.size + 1 + 1 + 1),0,none⟩ (.bool s25)).setCell ⟨(w.heap.size + 1 + 1 + 1),1,none⟩ (.slice A25 l25 c25)) (w.heap.size + 1 + 1 + 1) #[.bool s25, .slice A25 l25 c25]:=((B8.out.set_ 0 _).set_ 1 _)
 generalize ((w31.setCell ⟨(w.heap.size + 1 + 1 + 1),0,none⟩ (.bool s25)).setCell ⟨(w.heap.size + 1 + 1 + 1),1,none⟩ (.slice A25 l25 c25))=w32 at *
 replace B8:=zh b_new; clear b_new hFs
 exact fin_Num2 rfl rfl rfl B7.out B8.out (by rw [← HQ.out.1]; exact F23.out) (by rw [← HQ.out.2]; exact F26.out) HE.out
set_option maxHeartbeats 2000000 in
set_option maxRecDepth 100000 in
theorem Nden_one (a:Value) (q:Rat) (w:World) (ha:NRatIs w a q) (hq:q.den=1) :
 Calls Tryz.prog 79 #[a] w (RetNum w (q.den:Int)):=by
 obtain ⟨s1,A1,l1,c1,t1,B1,m1,d1,rfl⟩:=ha.shp
 have F2:Hid (NRatIs w (.agg #[.bool s1, .slice A1 l1 c1, .bool t1, .slice B1 m1 d1]) (q)):=ha
 clear ha
 have Fd:=F2.out.den
 obtain rfl:m1=0:=Fd.len0 (denF_one hq)
 have Hq:Hid ((q.den:Int)=1):=by unfold Hid; omega
 clear Fd hq
 go_enter Tryz.func79,Tryz.ntmps79
 go_wp2_with fail
 generalize hwb:World.alloc (World.alloc w _) _=w5
 obtain ⟨b_B3,b_B4,hE0⟩:=blocks2 hwb
 clear hwb
 have B3:=zh b_B3
 have B4:=zh b_B4
 clear b_B3 b_B4
 replace F2:=zh (F2.out.ext hE0)
 have HE:=zh hE0
 clear hE0
 refine (NFromInt_any 1 _ (by omega) (by omega)).mono ?_
 rintro e w6 ⟨_,rfl,hI,hF⟩
 obtain ⟨s7,A7,l7,c7,rfl⟩:=hI.shp
 replace B3:=zh (B3.out.ext hF)
 replace B4:=zh (B4.out.ext hF)
 replace F2:=zh (F2.out.ext hF)
 replace HE:=zh (HE.out.trans hF)
 have F8:Hid (NumIs w6 (.agg #[.bool s7, .slice A7 l7 c7]) (1)):=hI
 clear hF hI
 obtain ⟨c9_0,c9_1,c9_2,c9_3,f9_0,f9_1,f9_2,f9_3⟩:=B3.out.cell4
 obtain ⟨c10_0,c10_1,f10_0,f10_1⟩:=B4.out.cell2
 go_wp2
 clear c9_0 c9_1 c9_2 c9_3 f9_0 f9_1 f9_2 f9_3 c10_0 c10_1 f10_0 f10_1
 have hFs:Fr (fun i=>i=(w.heap.size + 1)) w6 ((w6.setCell ⟨(w.heap.size + 1),0,none⟩ (.bool s7)).setCell ⟨(w.heap.size + 1),1,none⟩ (.slice A7 l7 c7)):=(((Fr.refl (fun i=>i=(w.heap.size + 1)) _).setCell (p:=⟨(w.heap.size + 1),0,none⟩) (Or.inl rfl) _).setCell (p:=⟨(w.heap.size + 1),1,none⟩) (Or.inl rfl) _)
 replace F2:=zh (F2.out.oth B4.out noRow2 hFs)
 replace F8:=zh (F8.out.oth B4.out noRow2 hFs)
 replace B3:=zh (B3.out.fr hFs (by first | omega | (have:=B3.out.lt; have:=B4.out.lt; omega)))
 replace HE:=zh (HE.out.next hFs (fun i hi e=>by first | omega | (have:=HE.out.size; have:=B4.out.lt; omega)))
 have b_new:Blk 33 ((w6.setCell ⟨(w.heap.size + 1),0,none⟩ (.bool s7)).setCell ⟨(w.heap.size + 1),1,none⟩ (.slice A7 l7 c7)) (w.heap.size + 1) #[.bool s7, .slice A7 l7 c7]:=((B4.out.set_ 0 _).set_ 1 _)
 generalize ((w6.setCell ⟨(w.heap.size + 1),0,none⟩ (.bool s7)).setCell ⟨(w.heap.size + 1),1,none⟩ (.slice A7 l7 c7))=w11 at *
 replace B4:=zh b_new; clear b_new hFs
 exact fin_Num rfl rfl B4.out (by rw [Hq.out]; exact F8.out) HE.out
set_option maxHeartbeats 2000000 in
set_option maxRecDepth 100000 in
theorem Nden_big (a:Value) (q:Rat) (w:World) (ha:NRatIs w a q) (hq:¬ q.den=1) :
 Calls Tryz.prog 79 #[a] w (RetNum w (q.den:Int)):=by
 obtain ⟨s1,A1,l1,c1,t1,B1,m1,d1,rfl⟩:=ha.shp
 have F2:Hid (NRatIs w (.agg #[.bool s1, .slice A1 l1 c1, .bool t1, .slice B1 m1 d1]) (q)):=ha
 clear ha
 have Fd:=F2.out.den
 have hl:((m1:Int) == 0)=false:=by have:=Fd.lenp (denF_ne hq); simp; omega
 have Hq:=zh (denF_big hq)
 clear Fd hq
 go_enter Tryz.func79,Tryz.ntmps79
 go_wp2
 generalize hwb:World.alloc (World.alloc w _) _=w5
 obtain ⟨b_B3,b_B4,hE0⟩:=blocks2 hwb
 clear hwb
 have B3:=zh b_B3
 have B4:=zh b_B4
 clear b_B3 b_B4
 replace F2:=zh (F2.out.ext hE0)
 have HE:=zh hE0
 clear hE0
 have F6:Hid (NumIs w5 (.agg #[.bool t1, .slice B1 m1 d1]) (denF (q))):=F2.out.den
 exact fin_Num rfl rfl B4.out (by rw [← Hq.out]; exact F6.out) HE.out
theorem Nden_any (a:Value) (q:Rat) (w:World) (ha:NRatIs w a q):Calls Tryz.prog 79 #[a] w (RetNum w (q.den:Int)):=by
 by_cases h:q.den=1
 ·exact Nden_one a q w ha h
 ·exact Nden_big a q w ha h
set_option maxHeartbeats 2000000 in
set_option maxRecDepth 100000 in
theorem NDen_any (a:Value) (q:Rat) (w:World) (ha:NRatIs w a q) :
 Calls Tryz.prog 97 #[a] w (RetNum w (q.den:Int)):=by
 obtain ⟨s1,A1,l1,c1,t1,B1,m1,d1,rfl⟩:=ha.shp
 have F2:Hid (NRatIs w (.agg #[.bool s1, .slice A1 l1 c1, .bool t1, .slice B1 m1 d1]) (q)):=ha
 clear ha
 go_enter Tryz.func97,Tryz.ntmps97
 go_wp2_with fail
 generalize hwb:World.alloc (World.alloc w _) _=w5
 obtain ⟨b_B3,b_B4,hE0⟩:=blocks2 hwb
 clear hwb
 have B3:=zh b_B3
 have B4:=zh b_B4
 clear b_B3 b_B4
 replace F2:=zh (F2.out.ext hE0)
 have HE:=zh hE0
 clear hE0
 refine (Nden_any _ (q) _ F2.out).mono ?_
 rintro e w6 ⟨_,rfl,hI,hF⟩
 obtain ⟨s7,A7,l7,c7,rfl⟩:=hI.shp
 replace B3:=zh (B3.out.ext hF)
 replace B4:=zh (B4.out.ext hF)
 replace F2:=zh (F2.out.ext hF)
 replace HE:=zh (HE.out.trans hF)
 have F8:Hid (NumIs w6 (.agg #[.bool s7, .slice A7 l7 c7]) (((q).den:Int))):=hI
 clear hF hI
 obtain ⟨c9_0,c9_1,c9_2,c9_3,f9_0,f9_1,f9_2,f9_3⟩:=B3.out.cell4
 obtain ⟨c10_0,c10_1,f10_0,f10_1⟩:=B4.out.cell2
 go_wp2
 clear c9_0 c9_1 c9_2 c9_3 f9_0 f9_1 f9_2 f9_3 c10_0 c10_1 f10_0 f10_1
 have hFs:Fr (fun i=>i=(w.heap.size + 1)) w6 ((w6.setCell ⟨(w.heap.size + 1),0,none⟩ (.bool s7)).setCell ⟨(w.heap.size + 1),1,none⟩ (.slice A7 l7 c7)):=(((Fr.refl (fun i=>i=(w.heap.size + 1)) _).setCell (p:=⟨(w.heap.size + 1),0,none⟩) (Or.inl rfl) _).setCell (p:=⟨(w.heap.size + 1),1,none⟩) (Or.inl rfl) _)
 replace F2:=zh (F2.out.oth B4.out noRow2 hFs)
 replace F8:=zh (F8.out.oth B4.out noRow2 hFs)
 replace B3:=zh (B3.out.fr hFs (by first | omega | (have:=B3.out.lt; have:=B4.out.lt; omega)))
 replace HE:=zh (HE.out.next hFs (fun i hi e=>by first | omega | (have:=HE.out.size; have:=B4.out.lt; omega)))
 have b_new:Blk 33 ((w6.setCell ⟨(w.heap.size + 1),0,none⟩ (.bool s7)).setCell ⟨(w.heap.size + 1),1,none⟩ (.slice A7 l7 c7)) (w.heap.size + 1) #[.bool s7, .slice A7 l7 c7]:=((B4.out.set_ 0 _).set_ 1 _)
 generalize ((w6.setCell ⟨(w.heap.size + 1),0,none⟩ (.bool s7)).setCell ⟨(w.heap.size + 1),1,none⟩ (.slice A7 l7 c7))=w11 at *
 replace B4:=zh b_new; clear b_new hFs
 exact fin_Num rfl rfl B4.out (by exact F8.out) HE.out
end Go.Proofs.YtibipjlohahekaaGreatDoor

namespace Go.Proofs.YtibipjlohahekaaGreatDoor
open Go.RowKit
def blen (n:Nat):Nat:=if n=0 then 0 else n.log2 + 1
theorem blen_zero:blen 0=0:=rfl
theorem blen_lt (n:Nat):n < 2 ^ blen n:=by
 unfold blen
 split
 ·rename_i h; subst h; decide
 ·rename_i h; exact (Nat.log2_lt h).1 (Nat.lt_succ_self _)
theorem blen_le {n k:Nat}:blen n≤k ↔ n < 2 ^ k:=by
 unfold blen
 split
 ·rename_i h; subst h; simp [Nat.pow_pos]
 ·rename_i h; rw [← Nat.log2_lt h]; omega
theorem blen_half {n:Nat} (h:0 < n):blen n=blen (n / 2) + 1:=by
 have h1:blen (n / 2) + 1≤blen n:=by
  have:blen (n / 2)≤blen n - 1:=blen_le.2 (by
   have h2:=blen_lt n
   have h3:0 < blen n:=by unfold blen; rw [if_neg (by omega)]; omega
   obtain ⟨k,hk⟩:∃ k,blen n=k + 1:=⟨blen n - 1,by omega⟩
   rw [hk] at h2 ⊢
   rw [Nat.pow_succ] at h2
   show n / 2 < 2 ^ (k + 1 - 1)
   rw [Nat.add_sub_cancel]
   omega)
  have h3:0 < blen n:=by unfold blen; rw [if_neg (by omega)]; omega
  omega
 have h2:blen n≤blen (n / 2) + 1:=blen_le.2 (by
  have:=blen_lt (n / 2)
  rw [Nat.pow_succ]
  omega)
 omega
theorem blen_eq_one {n:Nat}:blen n=1 ↔ n=1:=by
 constructor
 ·intro h
  have h1:=blen_lt n
  rw [h] at h1
  rcases Nat.eq_zero_or_pos n with e | e
  ·subst e; rw [blen_zero] at h; omega
  ·omega
 ·rintro rfl; decide
theorem blen_gt_one {n:Nat}:1 < blen n ↔ 1 < n:=by
 rcases Nat.lt_or_ge 1 n with h | h
 ·have:¬ blen n≤1:=fun k=>by have:=blen_le.1 k; omega
  omega
 ·have:blen n≤1:=blen_le.2 (by omega)
  omega
theorem blen_top {B k t low:Nat} (hl:low < 2 ^ (B * k)) (ht:0 < t):blen (low + 2 ^ (B * k) * t)=B * k + blen t:=by
 have h1:=blen_lt t
 have h2:blen (low + 2 ^ (B * k) * t)≤B * k + blen t:=blen_le.2 (by
  rw [Nat.pow_add]
  have:2 ^ (B * k) * (t + 1)≤2 ^ (B * k) * 2 ^ blen t:=Nat.mul_le_mul_left _ h1
  rw [Nat.mul_add] at this
  omega)
 have h3:¬ blen (low + 2 ^ (B * k) * t)≤B * k + blen t - 1:=fun h=>by
  have h4:=blen_le.1 h
  obtain ⟨j,hj⟩:∃ j,blen t=j + 1:=⟨blen t - 1,by have:=blen_half ht; omega⟩
  rw [hj,show B * k + (j + 1) - 1=B * k + j by omega,Nat.pow_add] at h4
  have h5:2 ^ j≤t:=by
   rcases Nat.lt_or_ge t (2 ^ j) with h | h
   ·have:=blen_le.2 h; omega
   ·exact h
  have:2 ^ (B * k) * 2 ^ j≤2 ^ (B * k) * t:=Nat.mul_le_mul_left _ h5
  omega
 have:0 < blen t:=by have:=blen_half ht; omega
 omega
set_option maxHeartbeats 1000000 in
set_option maxRecDepth 100000 in
theorem NBits_any (a:Value) (x:Int) (w:World) (ha:NumIs w a x) (hx:NFits x):Calls Tryz.prog 103 #[a] w (RetV w (.int .i64 (blen x.natAbs:Int))):=by
 obtain ⟨s,A,l,c,rfl⟩:=ha.shp
 have h1:=ha.mag
 have h0:=ha.len0
 obtain ⟨A',xs,c',he,hc,hX,hd,ht,hv⟩:=h1
 injection he with e1 e2 e3
 subst e1 e2 e3
 unfold NFits at hx
 rw [← hv,← ml_len hd ht] at hx
 rw [← hv]
 clear ha h0 hv
 rcases Nat.eq_zero_or_pos xs.length with hl | hl
 ·obtain rfl:xs=[]:=List.length_eq_zero_iff.1 hl
  go_enter Tryz.func103,Tryz.ntmps103
  go_wp2
  go_ret
  exact ⟨rfl,(Fr.refl _ _).alloc _⟩
 ·obtain ⟨k,hk⟩:∃ k,xs.length=k + 1:=⟨xs.length - 1,by omega⟩
  obtain ⟨b,off,rfl,hb,hct⟩:=hX.at (i:=k) (by omega)
  obtain ⟨t,et⟩:∃ t,xs[k]?.getD 0=t:=⟨_,rfl⟩
  rw [et] at hct
  have ht0:0 < t:=by have:=ht k hk; omega
  have EV:val W32 xs=val W32 (xs.take k) + W32 ^ k * t:=by
   have:=val_take_succ (B:=W32) (xs:=xs) k (by omega)
   rw [List.take_of_length_le (by omega),et] at this
   exact this
  have hlow:=val_lt (hd.take k)
  rw [List.length_take,Nat.min_eq_left (by omega),W32_pow] at hlow
  have HB:Hid (blen (val W32 xs)=32 * k + blen t):=by
   unfold Hid
   rw [EV,W32_pow]
   exact blen_top hlow ht0
  have htW:t < W32:=et ▸ hd.getD W32_pos k
  have hbt:blen t≤32:=blen_le.2 (by rw [W32_eq] at htW; exact htW)
  obtain ⟨r,er⟩:∃ r,blen (val W32 xs)=r:=⟨_,rfl⟩
  rw [er] at HB ⊢
  have hne:b≠w.heap.size:=Nat.ne_of_lt hb
  rw [hk]
  clear hX hd ht EV hlow et er htW hc hl
  have g0:(((k:Int) + 1) == 0)=false:=by simp; omega
  go_enter Tryz.func103,Tryz.ntmps103
  go_wp2
  go_loop [3,4] (fun nv tv=>∃ n t':Nat,nv=.int .i64 (n:Int)∧tv=.int .u32 (t':Int)∧Hid (n + blen t'=r)∧n≤32 * k + 32) (fun _ tv=>(intOf tv).toNat)
  case atStart=>exact ⟨32 * k,t,by go_num,rfl,by have:=HB.out; unfold Hid; omega,by omega⟩
  case round =>
   obtain ⟨n,t',rfl,rfl,hR,hn⟩:=hrel
   by_cases hz:0 < t'
   ·have hR2:Hid (n + 1 + blen (t' / 2)=r):=by have h1:=hR.out; rw [blen_half hz] at h1; unfold Hid; omega
    have hle:n + 1≤32 * k + 32:=by
     have h1:=hR.out; have h2:=HB.out; rw [blen_half hz] at h1; omega
    have q1:(t':Int) / 2=((t' / 2:Nat):Int):=rfl
    have hlt:t' / 2 < t':=by omega
    obtain ⟨t2,et2⟩:∃ t2,t' / 2=t2:=⟨_,rfl⟩
    rw [et2] at hR2 q1 hlt
    clear et2
    go_wp2
    go_round
    case rel=>exact ⟨n + 1,t2,by go_num,rfl,hR2,hle⟩
    case measure=>simp [intOf]; omega
   ·obtain rfl:t'=0:=by omega
    have hR2:Hid (n=r):=by have h1:=hR.out; rw [blen_zero] at h1; exact h1
    go_wp2
    go_ret
    exact ⟨by rw [hR2.out]; rfl,(Fr.refl _ _).alloc _⟩
theorem MagIs.inj {w:World} {v:Value} {m n:Nat} (h:MagIs w v m) (k:MagIs w v n):m=n:=by
 obtain ⟨A,xs,c,rfl,_,hX,_,_,rfl⟩:=h
 obtain ⟨A',ys,c',he,_,hY,_,_,rfl⟩:=k
 injection he with e1 e2 e3
 subst e1
 have:xs=ys:=by
  apply List.ext_getElem e2
  intro i h1 h2
  obtain ⟨b,o,rfl,_,c1⟩:=hX.at h1
  obtain ⟨b',o',e',_,c2⟩:=hY.at h2
  injection e' with e'
  injection e' with e3 e4
  subst e3 e4
  rw [c1] at c2
  injection c2 with c2
  injection c2 with _ c2
  rw [List.getElem?_eq_getElem h1,List.getElem?_eq_getElem h2] at c2
  simp only [Option.getD_some] at c2
  omega
 rw [this]
open Classical in
noncomputable def magVal (w:World) (v:Value):Nat:=if h:∃ n,MagIs w v n then Classical.choose h else 0
theorem magVal_eq {w:World} {v:Value} {n:Nat} (h:MagIs w v n):magVal w v=n:=by
 have hx:∃ n,MagIs w v n:=⟨n,h⟩
 unfold magVal
 rw [dif_pos hx]
 exact (Classical.choose_spec hx).inj h
theorem MagIs.len_zero {w:World} {A:Option Addr} {l c n:Nat} (h:MagIs w (.slice A l c) n):(n=0 ↔ l=0)∧l=ml n:=by
 obtain ⟨A',xs,c',he,_,_,hd,ht,hv⟩:=h
 injection he with _ he
 have hl:=ml_len hd ht
 rw [hv] at hl
 refine ⟨⟨fun e=>?_,fun e=>?_⟩,by omega⟩
 ·rw [e,ml_zero] at hl; omega
 ·rw [e] at he
  have:xs=[]:=List.length_eq_zero_iff.1 he.symm
  rw [this] at hv
  simpa using hv.symm
set_option maxHeartbeats 1000000 in
set_option maxRecDepth 100000 in
theorem NGcd_any (a b:Value) (x y:Int) (w:World) (ha:NumIs w a x) (hb:NumIs w b y) (hx:NFits x) (hy:NFits y):Calls Tryz.prog 101 #[a,b] w (RetNum w (Int.gcd x y:Int)):=by
 obtain ⟨s,A,l,c,rfl⟩:=ha.shp
 obtain ⟨t,B,m,d,rfl⟩:=hb.shp
 have HM:=zh ha.mag
 have HN:=zh hb.mag
 have HX:Hid (ml x.natAbs≤1048576):=hx
 have HY:Hid (ml y.natAbs≤1048576):=hy
 obtain ⟨r,er⟩:∃ r,Int.gcd x y=r:=⟨_,rfl⟩
 have HR:Hid (Nat.gcd x.natAbs y.natAbs=r):=er
 rw [er]
 clear ha hb hx hy er
 go_enter Tryz.func101,Tryz.ntmps101
 go_wp2_with fail
 generalize hwb:World.alloc (World.alloc (World.alloc w _) _) _=w1
 obtain ⟨b0,b1,b2,hE0⟩:=blocks3 hwb
 clear hwb
 have HB2:=zh b2
 have HE:=zh hE0
 replace HM:=zh (HM.out.ext hE0)
 replace HN:=zh (HN.out.ext hE0)
 obtain ⟨c0,c1,f0,f1⟩:=b0.cell2
 obtain ⟨c2,c3,f2,f3⟩:=b1.cell2
 clear b0 b1 b2 hE0
 go_quiet (fail)
 clear c0 c1 f0 f1 c2 c3 f2 f3
 go_wp2_with fail
 go_loopw [5,6,7,8] (fun xv yv _ _ wr=>∃ (u v:Nat) (A' B':Option Addr) (l' c' m' d':Nat),xv=.slice A' l' c'∧yv=.slice B' m' d'∧Hid (MagIs wr (.slice A' l' c') u)∧Hid (MagIs wr (.slice B' m' d') v)∧Hid (ml u≤1048576)∧Hid (ml v≤1048576)∧Hid (Nat.gcd u v=r)∧Hid (Ext w1 wr)) (fun _ yv _ _ wr=>magVal wr yv)
 case atStart=>exact ⟨_,_,_,_,_,_,_,_,rfl,rfl,HM.out.ext ((Fr.refl _ _).drewN _),HN.out.ext ((Fr.refl _ _).drewN _),HX,HY,HR,(Fr.refl _ _).drewN _⟩
 case round =>
  obtain ⟨u,v,A',B',l',c',m',d',rfl,rfl,hU,hV,hu,hv,hG,hF⟩:=hrel
  obtain ⟨z1,z2⟩:=hV.out.len_zero
  have hm':m'≤1048576:=by have:=hv.out; omega
  by_cases hm:m'=0
  ·subst hm
   have hv0:v=0:=z1.2 rfl
   have HG:Hid (u=r):=by have:=hG.out; rw [hv0,Nat.gcd_zero_right] at this; exact this
   have HB:=zh (HB2.out.ext hF.out)
   have HEE:=zh (HE.out.trans hF.out)
   clear z1 z2 hv0
   go_wp2_with fail
   refine (make1_ret false _ u _ hU.out).mono ?_
   rintro e w2 ⟨_,rfl,hI,hF2⟩
   obtain ⟨s2,A2,l2,c2,rfl⟩:=hI.shp
   have HI:=zh hI
   have HB':=zh (HB.out.ext hF2)
   have HE':=zh (HEE.out.trans hF2)
   obtain ⟨k0,k1,k2,k3⟩:=HB'.out.cell2
   clear hI hF2
   go_wp2
   have hFs:Fr (fun i=>i=(w.heap.size + 1 + 1)) w2 ((w2.setCell ⟨w.heap.size + 1 + 1,0,none⟩ (.bool s2)).setCell ⟨w.heap.size + 1 + 1,1,none⟩ (.slice A2 l2 c2)):=((Fr.refl (fun i=>i=(w.heap.size + 1 + 1)) _).setCell (p:=⟨w.heap.size + 1 + 1,0,none⟩) (Or.inl rfl) _).setCell (p:=⟨w.heap.size + 1 + 1,1,none⟩) (Or.inl rfl) _
   exact fin_Num rfl rfl ((HB'.out.set_ 0 _).set_ 1 _) (by rw [← HG.out]; exact HI.out.oth HB'.out noRow2 hFs) (HE'.out.next hFs (fun i hi e=>by omega))
  ·have hm0:0 < m':=by omega
   have hv0:0 < v:=by rcases Nat.eq_zero_or_pos v with e | e; · exact absurd (z1.1 e) hm
                      ·exact e
   have HG:Hid (Nat.gcd v (u % v)=r):=by have:=hG.out; rw [Nat.gcd_comm,Nat.gcd_rec,Nat.gcd_comm] at this; exact this
   have hml:=zh (Nat.le_trans (ml_mono (Nat.le_of_lt (Nat.mod_lt u hv0))) hv.out)
   have hlt:=zh (Nat.mod_lt u hv0)
   have HC:=zh (divMag_any _ _ u v wr hU.out hV.out hu.out hv.out hv0)
   clear z1 z2 hv0 hm hG
   go_wp2_with fail
   refine HC.out.mono ?_
   rintro e w2 ⟨_,_,rfl,hq,hr,hF2⟩
   obtain ⟨A2,l2,c2,rfl⟩:=hq.slice
   obtain ⟨A3,l3,c3,rfl⟩:=hr.slice
   have HQr:=zh hr
   have HV2:=zh (hV.out.ext hF2)
   have HF2:=zh (hF.out.trans hF2)
   have hme:Hid (magVal wr (.slice B' m' d')=v):=magVal_eq hV.out
   have hme2:Hid (magVal w2 (.slice A3 l3 c3)=u % v):=magVal_eq hr
   clear hq hr hF2 HC
   go_wp2
   go_roundw
   case rel=>exact ⟨v,u % v,_,_,_,_,_,_,rfl,rfl,HV2,HQr,hv,hml,HG,HF2⟩
   case measure=>rw [hme.out,hme2.out]; exact hlt.out
end Go.Proofs.YtibipjlohahekaaGreatDoor

namespace Go.Proofs.YtibipjlohahekaaGreatDoor
open Go.RowKit
theorem NFits.le {x y:Int} (h:NFits x) (hl:y.natAbs≤x.natAbs):NFits y:=Nat.le_trans (ml_mono hl) h
theorem NFits.gcd {x y:Int} (h:NFits y) (h0:y≠0):NFits (Int.gcd x y:Int):=h.le (by
 have:Int.gcd x y≤y.natAbs:=Nat.gcd_le_right _ (by omega)
 omega)
theorem NFits.tdiv {x y:Int} (h:NFits x):NFits (x.tdiv y):=h.le (by rw [Int.natAbs_tdiv]; exact Nat.div_le_self _ _)
theorem gcd_pos_of {x y:Int} (h:0 < y):0 < Int.gcd x y:=by
 rcases Nat.eq_zero_or_pos (Int.gcd x y) with e | e
 ·have:=(Int.gcd_eq_zero_iff.1 e).2; omega
 ·exact e
def RFits (q:Rat):Prop:=ml q.num.natAbs≤100000∧ml q.den≤100000
theorem mlm {x y:Int} {a b:Nat} (hx:ml x.natAbs≤a) (hy:ml y.natAbs≤b):ml (x * y).natAbs≤a + b:=by
 have h:=ml_mul x.natAbs y.natAbs
 rw [← Int.natAbs_mul] at h
 omega
theorem mla {x y:Int} {a:Nat} (hx:ml x.natAbs≤a) (hy:ml y.natAbs≤a):ml (x + y).natAbs≤a + 1 :=
 Nat.le_trans (ml_mono (Int.natAbs_add_le x y)) (ml_add hx hy)
theorem RFits.neg {q:Rat} (h:RFits q):RFits (-q):=by
 unfold RFits at *
 rw [rneg_num,rneg_den,Int.natAbs_neg]
 exact h
theorem post_Num2 {w w':World} {e:Ending} {a b:Int} (h:RetNum2 w a b e w'):PostC shInt2 (fun x w=>NumIs w (shInt x.1) a∧NumIs w (shInt x.2) b) w e w':=by
 obtain ⟨u,v,rfl,hI,hJ,hE⟩:=h
 obtain ⟨s,A,l,c,rfl⟩:=hI.shp
 obtain ⟨s',A',l',c',rfl⟩:=hJ.shp
 exact ⟨((s,A,l,c),(s',A',l',c')),rfl,hE,boxn hE (fun S w'' hS hF=>⟨hI.nrb hS hF,hJ.nrb hS hF⟩)⟩
theorem nfit {z:Int} {k:Nat} (h:ml z.natAbs≤k) (hk:Nat.ble k 1048576=true):NFits z:=Nat.le_trans h (Nat.le_of_ble_eq_true hk)
theorem mlc {n k:Nat} (h:ml n≤k):ml ((n:Nat):Int).natAbs≤k:=by rw [Int.natAbs_natCast]; exact h
theorem frac_gcd2 {x y:Int} {q:Rat} (hq:Rat.divInt x y=q) (hy:0 < y) (_:1 < ((Int.gcd x y:Nat):Int).natAbs):q.num=x.tdiv ((Int.gcd x y:Nat):Int)∧(q.den:Int)=y.tdiv ((Int.gcd x y:Nat):Int):=by
 rw [← hq]; exact frac_gcd hy
theorem frac_one2 {x y:Int} {q:Rat} (hq:Rat.divInt x y=q) (hy:0 < y) (h:¬ 1 < ((Int.gcd x y:Nat):Int).natAbs):q.num=x∧(q.den:Int)=y:=by
 have h1:=gcd_pos_of (x:=x) hy
 rw [← hq]; exact frac_coprime hy (by omega)
theorem nat_beq_one {n:Nat} (h:(((n:Nat):Int) == 1)=true):n=1:=by have:=eq_of_beq h; omega
theorem nat_bne_one {n:Nat} (h:(((n:Nat):Int) == 1)=false):n≠1:=fun e=>by subst e; cases h
set_option maxRecDepth 100000 in
theorem NFrac_neg (a b:Value) (x y:Int) (q:Rat) (w:World) (ha:NumIs w a x) (hb:NumIs w b y) (hx:NFits x) (hy:NFits y) (h0:y < 0) (hq:Rat.divInt x y=q) :
 Calls Tryz.prog 71 #[a,b] w (RetNRat w q):=by
 obtain ⟨s0,A0,l0,c0,rfl⟩:=ha.shp
 obtain ⟨s1,A1,l1,c1,rfl⟩:=hb.shp
 obtain rfl:s1=true:=hb.sneg h0
 have HFx:NFits (-(x)):=hx.neg
 have HFy:NFits (-(y)):=hy.neg
 have HY:0 < -(y):=by omega
 have HFg:NFits ((Int.gcd (-(x)) (-(y)):Nat):Int):=NFits.gcd HFy (by omega)
 have HG0:((Int.gcd (-(x)) (-(y)):Nat):Int)≠0:=by have:=gcd_pos_of (x := -(x)) HY; omega
 have Hq:Rat.divInt (-(x)) (-(y))=q:=by rw [Rat.neg_divInt_neg]; exact hq
 refine sx_enter (Φ:=fun w=>(NumIs w (.agg #[.bool s0, .slice A0 l0 c0]) (x)∧NumIs w (.agg #[.bool true, .slice A1 l1 c1]) (y))) Tryz.func71 rfl (by kernel_rfl) (fun w' hf=>⟨ha.ext hf,hb.ext hf⟩) ?_
 refine sx_seq (sx_region (xr 3 [(2, .p 2 0),(3, .p 3 0),(4, .p 4 0)] [bR4 4 35 false none 0 0 false none 0 0,bI2 3 33 true A1 l1 c1,bI2 2 33 s0 A0 l0 c0] ?_))
 refine xe (sx_next (sx_seq (sx_seq (sx_region (xr 2 [(2, .p 2 0),(3, .p 3 0),(4, .p 4 0),(7, .v (.bool true))] [bR4 4 35 false none 0 0 false none 0 0,bI2 3 33 true A1 l1 c1,bI2 2 33 s0 A0 l0 c0] ?_)))))
 refine xe (sx_next (xa ?_))
 refine sx_draw 6 (by kernel_rfl) (by kernel_rfl) follows_mixed' ?_
 refine xf 1 [(2, .p 2 0),(3, .p 3 0),(4, .p 4 0),eI2 8 s0 A0 l0 c0] [bR4 4 35 false none 0 0 false none 0 0,bI2 3 33 true A1 l1 c1,bI2 2 33 s0 A0 l0 c0] ?_
 refine xd 70 [vI2 s0 A0 l0 c0] 9 shInt _ (fun w hE hΦ=>(NNeg_any _ (x) _ hΦ.1).mono (fun _ _ h=>post_Num h)) (fun xx=>?_)
 obtain ⟨s10,A10,l10,c10⟩:=xx
 refine xf 1 [(2, .p 2 0),(3, .p 3 0),(4, .p 4 0),eI2 9 s10 A10 l10 c10,eI2 10 true A1 l1 c1] [bR4 4 35 false none 0 0 false none 0 0,bI2 3 33 true A1 l1 c1,bI2 2 33 s0 A0 l0 c0] ?_
 refine xd 70 [vI2 true A1 l1 c1] 11 shInt _ (fun w hE hΦ=>(NNeg_any _ (y) _ hΦ.1.2).mono (fun _ _ h=>post_Num h)) (fun xx=>?_)
 obtain ⟨s11,A11,l11,c11⟩:=xx
 refine xf 2 [(2, .p 2 0),(3, .p 3 0),(4, .p 4 0)] [bI2 3 33 s11 A11 l11 c11,bI2 2 33 s10 A10 l10 c10,bR4 4 35 false none 0 0 false none 0 0,bI2 3 33 true A1 l1 c1,bI2 2 33 s0 A0 l0 c0] ?_
 refine xz (xe (sx_next (sx_seq (sx_region (xr 2 [(2, .p 2 0),(3, .p 3 0),(4, .p 4 0),eI2 12 s10 A10 l10 c10,eI2 13 s11 A11 l11 c11] [bI2 3 33 s11 A11 l11 c11,bI2 2 33 s10 A10 l10 c10,bR4 4 35 false none 0 0 false none 0 0] ?_)))))
 refine xc 101 [vI2 s10 A10 l10 c10,vI2 s11 A11 l11 c11] 14 shInt _ (fun w hE hΦ=>(NGcd_any _ _ (-(x)) (-(y)) _ hΦ.1.2 hΦ.2 HFx HFy).mono (fun _ _ h=>post_Num h)) (fun xx=>?_)
 obtain ⟨s12,A12,l12,c12⟩:=xx
 refine xr 2 [(2, .p 2 0),(3, .p 3 0),(4, .p 4 0),(5, .p 5 0)] [bI2 5 33 s12 A12 l12 c12,bI2 3 33 s11 A11 l11 c11,bI2 2 33 s10 A10 l10 c10,bR4 4 35 false none 0 0 false none 0 0] ?_
 refine xe (sx_next (sx_seq (sx_seq (sx_region (xr 1 [(2, .p 2 0),(3, .p 3 0),(4, .p 4 0),(5, .p 5 0),eI2 15 s12 A12 l12 c12] [bI2 5 33 s12 A12 l12 c12,bI2 3 33 s11 A11 l11 c11,bI2 2 33 s10 A10 l10 c10,bR4 4 35 false none 0 0 false none 0 0] ?_)))))
 refine xc 103 [vI2 s12 A12 l12 c12] 16 (fun _:Unit=>.int .i64 ((blen (((Int.gcd (-(x)) (-(y)):Nat):Int)).natAbs:Nat):Int)) _ (fun w hE hΦ=>(NBits_any _ (((Int.gcd (-(x)) (-(y)):Nat):Int)) _ hΦ.2 HFg).mono (fun _ _ h=>post_val h rfl)) (fun xx=>?_)
 refine xr 1 [(2, .p 2 0),(3, .p 3 0),(4, .p 4 0),(5, .p 5 0),(17, .v (.bool (decide (((blen (((Int.gcd (-(x)) (-(y)):Nat):Int)).natAbs:Nat):Int) > 1))))] [bI2 5 33 s12 A12 l12 c12,bI2 3 33 s11 A11 l11 c11,bI2 2 33 s10 A10 l10 c10,bR4 4 35 false none 0 0 false none 0 0] ?_
 refine xe (sx_next ?_)
 refine sx_cond ((decide (((blen (((Int.gcd (-(x)) (-(y)):Nat):Int)).natAbs:Nat):Int) > 1))) (by kernel_rfl) (fun hb13=>?_) (fun hb13=>?_)
 ·have HQ:=frac_gcd2 Hq HY (blen_gt_one.1 (by have:=of_decide_eq_true hb13; omega))
  refine sx_seq (sx_region (xr 2 [(2, .p 2 0),(3, .p 3 0),(4, .p 4 0),(5, .p 5 0),eI2 19 s10 A10 l10 c10,eI2 20 s12 A12 l12 c12] [bI2 5 33 s12 A12 l12 c12,bI2 3 33 s11 A11 l11 c11,bI2 2 33 s10 A10 l10 c10,bR4 4 35 false none 0 0 false none 0 0] ?_))
  refine xc 125 [vI2 s10 A10 l10 c10,vI2 s12 A12 l12 c12] 21 shInt2 _ (fun w hE hΦ=>(NQuoRem_any _ _ (-(x)) (((Int.gcd (-(x)) (-(y)):Nat):Int)) _ hΦ.1.1.1.2 hΦ.1.2 HFx HFg HG0).mono (fun _ _ h=>post_Num2 h)) (fun xx=>?_)
  obtain ⟨⟨s14,A14,l14,c14⟩,⟨s15,A15,l15,c15⟩⟩:=xx
  refine xr 4 [(2, .p 2 0),(3, .p 3 0),(4, .p 4 0),(5, .p 5 0)] [bI2 5 33 s12 A12 l12 c12,bI2 3 33 s11 A11 l11 c11,bI2 2 33 s14 A14 l14 c14,bR4 4 35 false none 0 0 false none 0 0] ?_
  refine xe (sx_next (sx_region (xr 2 [(2, .p 2 0),(3, .p 3 0),(4, .p 4 0),eI2 25 s11 A11 l11 c11,eI2 26 s12 A12 l12 c12] [bI2 3 33 s11 A11 l11 c11,bI2 2 33 s14 A14 l14 c14,bR4 4 35 false none 0 0 false none 0 0] ?_)))
  refine xc 125 [vI2 s11 A11 l11 c11,vI2 s12 A12 l12 c12] 27 shInt2 _ (fun w hE hΦ=>(NQuoRem_any _ _ (-(y)) (((Int.gcd (-(x)) (-(y)):Nat):Int)) _ hΦ.1.1.1.2 hΦ.1.1.2 HFy HFg HG0).mono (fun _ _ h=>post_Num2 h)) (fun xx=>?_)
  obtain ⟨⟨s16,A16,l16,c16⟩,⟨s17,A17,l17,c17⟩⟩:=xx
  refine xr 4 [(2, .p 2 0),(3, .p 3 0),(4, .p 4 0)] [bI2 3 33 s16 A16 l16 c16,bI2 2 33 s14 A14 l14 c14,bR4 4 35 false none 0 0 false none 0 0] ?_
  refine xe (sx_next (sx_seq (sx_seq (sx_region (xr 1 [(2, .p 2 0),(3, .p 3 0),(4, .p 4 0),eI2 30 s16 A16 l16 c16] [bI2 3 33 s16 A16 l16 c16,bI2 2 33 s14 A14 l14 c14,bR4 4 35 false none 0 0 false none 0 0] ?_)))))
  refine xc 103 [vI2 s16 A16 l16 c16] 31 (fun _:Unit=>.int .i64 ((blen ((-(y)).tdiv (((Int.gcd (-(x)) (-(y)):Nat):Int))).natAbs:Nat):Int)) _ (fun w hE hΦ=>(NBits_any _ ((-(y)).tdiv (((Int.gcd (-(x)) (-(y)):Nat):Int))) _ hΦ.2.1 (NFits.tdiv HFy)).mono (fun _ _ h=>post_val h rfl)) (fun xx=>?_)
  refine xr 1 [(2, .p 2 0),(3, .p 3 0),(4, .p 4 0),(32, .v (.bool ((((blen ((-(y)).tdiv (((Int.gcd (-(x)) (-(y)):Nat):Int))).natAbs:Nat):Int):Int) == 1)))] [bI2 3 33 s16 A16 l16 c16,bI2 2 33 s14 A14 l14 c14,bR4 4 35 false none 0 0 false none 0 0] ?_
  refine xe (sx_next ?_)
  refine sx_cond (((((blen ((-(y)).tdiv (((Int.gcd (-(x)) (-(y)):Nat):Int))).natAbs:Nat):Int):Int) == 1)) (by kernel_rfl) (fun hb18=>?_) (fun hb18=>?_)
  ·have hdhb18:=blen_eq_one.1 (nat_beq_one hb18)
   refine sx_region (xr 2 [(2, .p 2 0),(3, .p 3 0),(4, .p 4 0)] [bI2 3 33 false none 0 0,bI2 2 33 s14 A14 l14 c14,bR4 4 35 false none 0 0 false none 0 0] ?_)
   refine xe (sx_next (sx_seq (sx_region (xr 4 [(4, .p 4 0)] [bR4 4 35 s14 A14 l14 c14 false none 0 0] ?_))))
   refine xe (sx_next (sx_ret ?_))
   refine sx_done (v:=.agg #[.bool s14, .slice A14 l14 c14, .bool false, .slice none 0 0]) (by kernel_rfl) (fun w' hE hΦ=>?_)
   exact ⟨_,rfl,NRatIs.of (by rw [HQ.1]; exact hΦ.1.1.2.1) (by rw [denF_one (by have:=hdhb18; have:=HQ.2; have:=q.den_nz; omega)]; exact (NumIs.nil _)),hE⟩
  ·have hdhb18:=fun h=>nat_bne_one hb18 (blen_eq_one.2 h)
   refine sx_skip (sx_next (sx_seq (sx_region (xr 4 [(4, .p 4 0)] [bR4 4 35 s14 A14 l14 c14 s16 A16 l16 c16] ?_))))
   refine xe (sx_next (sx_ret ?_))
   refine sx_done (v:=.agg #[.bool s14, .slice A14 l14 c14, .bool s16, .slice A16 l16 c16]) (by kernel_rfl) (fun w' hE hΦ=>?_)
   exact ⟨_,rfl,NRatIs.of (by rw [HQ.1]; exact hΦ.1.1.2.1) (by rw [denF_big (fun h=>hdhb18 (by have:=HQ.2; omega)),HQ.2]; exact hΦ.1.2.1),hE⟩
 ·have HQ:=frac_one2 Hq HY (fun h=>absurd (blen_gt_one.2 h) (by have:=of_decide_eq_false hb13; omega))
  refine sx_skip (sx_next (sx_seq (sx_seq (sx_region (xr 1 [(2, .p 2 0),(3, .p 3 0),(4, .p 4 0),eI2 30 s11 A11 l11 c11] [bI2 3 33 s11 A11 l11 c11,bI2 2 33 s10 A10 l10 c10,bR4 4 35 false none 0 0 false none 0 0] ?_)))))
  refine xc 103 [vI2 s11 A11 l11 c11] 31 (fun _:Unit=>.int .i64 ((blen (-(y)).natAbs:Nat):Int)) _ (fun w hE hΦ=>(NBits_any _ (-(y)) _ hΦ.1.1.2 HFy).mono (fun _ _ h=>post_val h rfl)) (fun xx=>?_)
  refine xr 1 [(2, .p 2 0),(3, .p 3 0),(4, .p 4 0),(32, .v (.bool ((((blen (-(y)).natAbs:Nat):Int):Int) == 1)))] [bI2 3 33 s11 A11 l11 c11,bI2 2 33 s10 A10 l10 c10,bR4 4 35 false none 0 0 false none 0 0] ?_
  refine xe (sx_next ?_)
  refine sx_cond (((((blen (-(y)).natAbs:Nat):Int):Int) == 1)) (by kernel_rfl) (fun hb19=>?_) (fun hb19=>?_)
  ·have hdhb19:=blen_eq_one.1 (nat_beq_one hb19)
   refine sx_region (xr 2 [(2, .p 2 0),(3, .p 3 0),(4, .p 4 0)] [bI2 3 33 false none 0 0,bI2 2 33 s10 A10 l10 c10,bR4 4 35 false none 0 0 false none 0 0] ?_)
   refine xe (sx_next (sx_seq (sx_region (xr 4 [(4, .p 4 0)] [bR4 4 35 s10 A10 l10 c10 false none 0 0] ?_))))
   refine xe (sx_next (sx_ret ?_))
   refine sx_done (v:=.agg #[.bool s10, .slice A10 l10 c10, .bool false, .slice none 0 0]) (by kernel_rfl) (fun w' hE hΦ=>?_)
   exact ⟨_,rfl,NRatIs.of (by rw [HQ.1]; exact hΦ.1.1.1.1.2) (by rw [denF_one (by have:=hdhb19; have:=HQ.2; have:=q.den_nz; omega)]; exact (NumIs.nil _)),hE⟩
  ·have hdhb19:=fun h=>nat_bne_one hb19 (blen_eq_one.2 h)
   refine sx_skip (sx_next (sx_seq (sx_region (xr 4 [(4, .p 4 0)] [bR4 4 35 s10 A10 l10 c10 s11 A11 l11 c11] ?_))))
   refine xe (sx_next (sx_ret ?_))
   refine sx_done (v:=.agg #[.bool s10, .slice A10 l10 c10, .bool s11, .slice A11 l11 c11]) (by kernel_rfl) (fun w' hE hΦ=>?_)
   exact ⟨_,rfl,NRatIs.of (by rw [HQ.1]; exact hΦ.1.1.1.1.2) (by rw [denF_big (fun h=>hdhb19 (by have:=HQ.2; omega)),HQ.2]; exact hΦ.1.1.1.2),hE⟩
set_option maxRecDepth 100000 in
theorem NFrac_pos (a b:Value) (x y:Int) (q:Rat) (w:World) (ha:NumIs w a x) (hb:NumIs w b y) (hx:NFits x) (hy:NFits y) (h0:0 < y) (hq:Rat.divInt x y=q) :
 Calls Tryz.prog 71 #[a,b] w (RetNRat w q):=by
 obtain ⟨s0,A0,l0,c0,rfl⟩:=ha.shp
 obtain ⟨s1,A1,l1,c1,rfl⟩:=hb.shp
 obtain rfl:s1=false:=hb.spos (by omega)
 have HFx:NFits (x):=hx
 have HFy:NFits (y):=hy
 have HY:0 < y:=by omega
 have HFg:NFits ((Int.gcd (x) (y):Nat):Int):=NFits.gcd HFy (by omega)
 have HG0:((Int.gcd (x) (y):Nat):Int)≠0:=by have:=gcd_pos_of (x:=x) HY; omega
 have Hq:Rat.divInt (x) (y)=q:=hq
 refine sx_enter (Φ:=fun w=>(NumIs w (.agg #[.bool s0, .slice A0 l0 c0]) (x)∧NumIs w (.agg #[.bool false, .slice A1 l1 c1]) (y))) Tryz.func71 rfl (by kernel_rfl) (fun w' hf=>⟨ha.ext hf,hb.ext hf⟩) ?_
 refine sx_seq (sx_region (xr 3 [(2, .p 2 0),(3, .p 3 0),(4, .p 4 0)] [bR4 4 35 false none 0 0 false none 0 0,bI2 3 33 false A1 l1 c1,bI2 2 33 s0 A0 l0 c0] ?_))
 refine xe (sx_next (sx_seq (sx_seq (sx_region (xr 2 [(2, .p 2 0),(3, .p 3 0),(4, .p 4 0),(7, .v (.bool false))] [bR4 4 35 false none 0 0 false none 0 0,bI2 3 33 false A1 l1 c1,bI2 2 33 s0 A0 l0 c0] ?_)))))
 refine xe (sx_next (xb (sx_skip (sx_next (sx_seq (sx_region (xr 2 [(2, .p 2 0),(3, .p 3 0),(4, .p 4 0),eI2 12 s0 A0 l0 c0,eI2 13 false A1 l1 c1] [bR4 4 35 false none 0 0 false none 0 0,bI2 3 33 false A1 l1 c1,bI2 2 33 s0 A0 l0 c0] ?_)))))))
 refine xc 101 [vI2 s0 A0 l0 c0,vI2 false A1 l1 c1] 14 shInt _ (fun w hE hΦ=>(NGcd_any _ _ (x) (y) _ hΦ.1 hΦ.2 HFx HFy).mono (fun _ _ h=>post_Num h)) (fun xx=>?_)
 obtain ⟨s10,A10,l10,c10⟩:=xx
 refine xr 2 [(2, .p 2 0),(3, .p 3 0),(4, .p 4 0),(5, .p 5 0)] [bI2 5 33 s10 A10 l10 c10,bR4 4 35 false none 0 0 false none 0 0,bI2 3 33 false A1 l1 c1,bI2 2 33 s0 A0 l0 c0] ?_
 refine xe (sx_next (sx_seq (sx_seq (sx_region (xr 1 [(2, .p 2 0),(3, .p 3 0),(4, .p 4 0),(5, .p 5 0),eI2 15 s10 A10 l10 c10] [bI2 5 33 s10 A10 l10 c10,bR4 4 35 false none 0 0 false none 0 0,bI2 3 33 false A1 l1 c1,bI2 2 33 s0 A0 l0 c0] ?_)))))
 refine xc 103 [vI2 s10 A10 l10 c10] 16 (fun _:Unit=>.int .i64 ((blen (((Int.gcd (x) (y):Nat):Int)).natAbs:Nat):Int)) _ (fun w hE hΦ=>(NBits_any _ (((Int.gcd (x) (y):Nat):Int)) _ hΦ.2 HFg).mono (fun _ _ h=>post_val h rfl)) (fun xx=>?_)
 refine xr 1 [(2, .p 2 0),(3, .p 3 0),(4, .p 4 0),(5, .p 5 0),(17, .v (.bool (decide (((blen (((Int.gcd (x) (y):Nat):Int)).natAbs:Nat):Int) > 1))))] [bI2 5 33 s10 A10 l10 c10,bR4 4 35 false none 0 0 false none 0 0,bI2 3 33 false A1 l1 c1,bI2 2 33 s0 A0 l0 c0] ?_
 refine xe (sx_next ?_)
 refine sx_cond ((decide (((blen (((Int.gcd (x) (y):Nat):Int)).natAbs:Nat):Int) > 1))) (by kernel_rfl) (fun hb11=>?_) (fun hb11=>?_)
 ·have HQ:=frac_gcd2 Hq HY (blen_gt_one.1 (by have:=of_decide_eq_true hb11; omega))
  refine sx_seq (sx_region (xr 2 [(2, .p 2 0),(3, .p 3 0),(4, .p 4 0),(5, .p 5 0),eI2 19 s0 A0 l0 c0,eI2 20 s10 A10 l10 c10] [bI2 5 33 s10 A10 l10 c10,bR4 4 35 false none 0 0 false none 0 0,bI2 3 33 false A1 l1 c1,bI2 2 33 s0 A0 l0 c0] ?_))
  refine xc 125 [vI2 s0 A0 l0 c0,vI2 s10 A10 l10 c10] 21 shInt2 _ (fun w hE hΦ=>(NQuoRem_any _ _ (x) (((Int.gcd (x) (y):Nat):Int)) _ hΦ.1.1.1 hΦ.1.2 HFx HFg HG0).mono (fun _ _ h=>post_Num2 h)) (fun xx=>?_)
  obtain ⟨⟨s12,A12,l12,c12⟩,⟨s13,A13,l13,c13⟩⟩:=xx
  refine xr 4 [(2, .p 2 0),(3, .p 3 0),(4, .p 4 0),(5, .p 5 0)] [bI2 5 33 s10 A10 l10 c10,bR4 4 35 false none 0 0 false none 0 0,bI2 3 33 false A1 l1 c1,bI2 2 33 s12 A12 l12 c12] ?_
  refine xe (sx_next (sx_region (xr 2 [(2, .p 2 0),(3, .p 3 0),(4, .p 4 0),eI2 25 false A1 l1 c1,eI2 26 s10 A10 l10 c10] [bR4 4 35 false none 0 0 false none 0 0,bI2 3 33 false A1 l1 c1,bI2 2 33 s12 A12 l12 c12] ?_)))
  refine xc 125 [vI2 false A1 l1 c1,vI2 s10 A10 l10 c10] 27 shInt2 _ (fun w hE hΦ=>(NQuoRem_any _ _ (y) (((Int.gcd (x) (y):Nat):Int)) _ hΦ.1.1.1.2 hΦ.1.1.2 HFy HFg HG0).mono (fun _ _ h=>post_Num2 h)) (fun xx=>?_)
  obtain ⟨⟨s14,A14,l14,c14⟩,⟨s15,A15,l15,c15⟩⟩:=xx
  refine xr 4 [(2, .p 2 0),(3, .p 3 0),(4, .p 4 0)] [bR4 4 35 false none 0 0 false none 0 0,bI2 3 33 s14 A14 l14 c14,bI2 2 33 s12 A12 l12 c12] ?_
  refine xe (sx_next (sx_seq (sx_seq (sx_region (xr 1 [(2, .p 2 0),(3, .p 3 0),(4, .p 4 0),eI2 30 s14 A14 l14 c14] [bR4 4 35 false none 0 0 false none 0 0,bI2 3 33 s14 A14 l14 c14,bI2 2 33 s12 A12 l12 c12] ?_)))))
  refine xc 103 [vI2 s14 A14 l14 c14] 31 (fun _:Unit=>.int .i64 ((blen ((y).tdiv (((Int.gcd (x) (y):Nat):Int))).natAbs:Nat):Int)) _ (fun w hE hΦ=>(NBits_any _ ((y).tdiv (((Int.gcd (x) (y):Nat):Int))) _ hΦ.2.1 (NFits.tdiv HFy)).mono (fun _ _ h=>post_val h rfl)) (fun xx=>?_)
  refine xr 1 [(2, .p 2 0),(3, .p 3 0),(4, .p 4 0),(32, .v (.bool ((((blen ((y).tdiv (((Int.gcd (x) (y):Nat):Int))).natAbs:Nat):Int):Int) == 1)))] [bR4 4 35 false none 0 0 false none 0 0,bI2 3 33 s14 A14 l14 c14,bI2 2 33 s12 A12 l12 c12] ?_
  refine xe (sx_next ?_)
  refine sx_cond (((((blen ((y).tdiv (((Int.gcd (x) (y):Nat):Int))).natAbs:Nat):Int):Int) == 1)) (by kernel_rfl) (fun hb16=>?_) (fun hb16=>?_)
  ·have hdhb16:=blen_eq_one.1 (nat_beq_one hb16)
   refine sx_region (xr 2 [(2, .p 2 0),(3, .p 3 0),(4, .p 4 0)] [bR4 4 35 false none 0 0 false none 0 0,bI2 3 33 false none 0 0,bI2 2 33 s12 A12 l12 c12] ?_)
   refine xe (sx_next (sx_seq (sx_region (xr 4 [(4, .p 4 0)] [bR4 4 35 s12 A12 l12 c12 false none 0 0] ?_))))
   refine xe (sx_next (sx_ret ?_))
   refine sx_done (v:=.agg #[.bool s12, .slice A12 l12 c12, .bool false, .slice none 0 0]) (by kernel_rfl) (fun w' hE hΦ=>?_)
   exact ⟨_,rfl,NRatIs.of (by rw [HQ.1]; exact hΦ.1.1.2.1) (by rw [denF_one (by have:=hdhb16; have:=HQ.2; have:=q.den_nz; omega)]; exact (NumIs.nil _)),hE⟩
  ·have hdhb16:=fun h=>nat_bne_one hb16 (blen_eq_one.2 h)
   refine sx_skip (sx_next (sx_seq (sx_region (xr 4 [(4, .p 4 0)] [bR4 4 35 s12 A12 l12 c12 s14 A14 l14 c14] ?_))))
   refine xe (sx_next (sx_ret ?_))
   refine sx_done (v:=.agg #[.bool s12, .slice A12 l12 c12, .bool s14, .slice A14 l14 c14]) (by kernel_rfl) (fun w' hE hΦ=>?_)
   exact ⟨_,rfl,NRatIs.of (by rw [HQ.1]; exact hΦ.1.1.2.1) (by rw [denF_big (fun h=>hdhb16 (by have:=HQ.2; omega)),HQ.2]; exact hΦ.1.2.1),hE⟩
 ·have HQ:=frac_one2 Hq HY (fun h=>absurd (blen_gt_one.2 h) (by have:=of_decide_eq_false hb11; omega))
  refine sx_skip (sx_next (sx_seq (sx_seq (sx_region (xr 1 [(2, .p 2 0),(3, .p 3 0),(4, .p 4 0),eI2 30 false A1 l1 c1] [bR4 4 35 false none 0 0 false none 0 0,bI2 3 33 false A1 l1 c1,bI2 2 33 s0 A0 l0 c0] ?_)))))
  refine xc 103 [vI2 false A1 l1 c1] 31 (fun _:Unit=>.int .i64 ((blen (y).natAbs:Nat):Int)) _ (fun w hE hΦ=>(NBits_any _ (y) _ hΦ.1.1.2 HFy).mono (fun _ _ h=>post_val h rfl)) (fun xx=>?_)
  refine xr 1 [(2, .p 2 0),(3, .p 3 0),(4, .p 4 0),(32, .v (.bool ((((blen (y).natAbs:Nat):Int):Int) == 1)))] [bR4 4 35 false none 0 0 false none 0 0,bI2 3 33 false A1 l1 c1,bI2 2 33 s0 A0 l0 c0] ?_
  refine xe (sx_next ?_)
  refine sx_cond (((((blen (y).natAbs:Nat):Int):Int) == 1)) (by kernel_rfl) (fun hb17=>?_) (fun hb17=>?_)
  ·have hdhb17:=blen_eq_one.1 (nat_beq_one hb17)
   refine sx_region (xr 2 [(2, .p 2 0),(3, .p 3 0),(4, .p 4 0)] [bR4 4 35 false none 0 0 false none 0 0,bI2 3 33 false none 0 0,bI2 2 33 s0 A0 l0 c0] ?_)
   refine xe (sx_next (sx_seq (sx_region (xr 4 [(4, .p 4 0)] [bR4 4 35 s0 A0 l0 c0 false none 0 0] ?_))))
   refine xe (sx_next (sx_ret ?_))
   refine sx_done (v:=.agg #[.bool s0, .slice A0 l0 c0, .bool false, .slice none 0 0]) (by kernel_rfl) (fun w' hE hΦ=>?_)
   exact ⟨_,rfl,NRatIs.of (by rw [HQ.1]; exact hΦ.1.1.1.1) (by rw [denF_one (by have:=hdhb17; have:=HQ.2; have:=q.den_nz; omega)]; exact (NumIs.nil _)),hE⟩
  ·have hdhb17:=fun h=>nat_bne_one hb17 (blen_eq_one.2 h)
   refine sx_skip (sx_next (sx_seq (sx_region (xr 4 [(4, .p 4 0)] [bR4 4 35 s0 A0 l0 c0 false A1 l1 c1] ?_))))
   refine xe (sx_next (sx_ret ?_))
   refine sx_done (v:=.agg #[.bool s0, .slice A0 l0 c0, .bool false, .slice A1 l1 c1]) (by kernel_rfl) (fun w' hE hΦ=>?_)
   exact ⟨_,rfl,NRatIs.of (by rw [HQ.1]; exact hΦ.1.1.1.1) (by rw [denF_big (fun h=>hdhb17 (by have:=HQ.2; omega)),HQ.2]; exact hΦ.1.1.1.2),hE⟩
theorem NFrac_any (a b:Value) (x y:Int) (w:World) (ha:NumIs w a x) (hb:NumIs w b y) (hx:NFits x) (hy:NFits y) (h0:y≠0):Calls Tryz.prog 71 #[a,b] w (RetNRat w (Rat.divInt x y)):=by
 rcases Int.lt_or_gt_of_ne h0 with h | h
 ·exact NFrac_neg a b x y _ w ha hb hx hy h rfl
 ·exact NFrac_pos a b x y _ w ha hb hx hy h rfl
set_option maxRecDepth 100000 in
theorem NRNeg_any (a:Value) (q:Rat) (w:World) (ha:NRatIs w a q) :
 Calls Tryz.prog 47 #[a] w (RetNRat w (-q)):=by
 obtain ⟨s0,A0,l0,c0,t0,B0,m0,d0,rfl⟩:=ha.shp
 refine sx_enter (Φ:=fun w=>NRatIs w (.agg #[.bool s0, .slice A0 l0 c0, .bool t0, .slice B0 m0 d0]) (q)) Tryz.func47 rfl (by kernel_rfl) (fun w' hf=>ha.ext hf) ?_
 refine sx_seq (sx_region (xr 2 [(1, .p 1 0),(2, .p 2 0)] [bR4 2 35 false none 0 0 false none 0 0,bR4 1 35 s0 A0 l0 c0 t0 B0 m0 d0] ?_))
 refine xe (sx_next (sx_seq ?_))
 refine sx_draw 7 (by kernel_rfl) (by kernel_rfl) follows_mixed' ?_
 refine xf 2 [(1, .p 1 0),(2, .p 2 0),eI2 4 s0 A0 l0 c0] [bR4 2 35 false none 0 0 false none 0 0,bR4 1 35 s0 A0 l0 c0 t0 B0 m0 d0] ?_
 refine xd 70 [vI2 s0 A0 l0 c0] 5 shInt _ (fun w hE hΦ=>(NNeg_any _ ((q).num) _ hΦ.num).mono (fun _ _ h=>post_Num h)) (fun xx=>?_)
 obtain ⟨s10,A10,l10,c10⟩:=xx
 refine xf 4 [(2, .p 2 0)] [bR4 2 35 s10 A10 l10 c10 t0 B0 m0 d0,bR4 2 35 false none 0 0 false none 0 0,bR4 1 35 s0 A0 l0 c0 t0 B0 m0 d0] ?_
 refine xz (xe (sx_next (sx_ret ?_)))
 refine sx_done (v:=.agg #[.bool s10, .slice A10 l10 c10, .bool t0, .slice B0 m0 d0]) (by kernel_rfl) (fun w' hE hΦ=>?_)
 exact ⟨_,rfl,NRatIs.of (by rw [rneg_num]; exact hΦ.2) (by rw [denF_neg]; exact hΦ.1.den),hE⟩
set_option maxRecDepth 100000 in
theorem NRSign_any (a:Value) (q:Rat) (w:World) (ha:NRatIs w a q) :
 Calls Tryz.prog 20 #[a] w (RetV w (.int .i64 q.num.sign)):=by
 obtain ⟨s0,A0,l0,c0,t0,B0,m0,d0,rfl⟩:=ha.shp
 refine sx_enter (Φ:=fun w=>NRatIs w (.agg #[.bool s0, .slice A0 l0 c0, .bool t0, .slice B0 m0 d0]) (q)) Tryz.func20 rfl (by kernel_rfl) (fun w' hf=>ha.ext hf) ?_
 refine sx_seq (sx_region (xr 2 [(1, .p 1 0),(2, .v (.int .i64 0))] [bR4 1 35 s0 A0 l0 c0 t0 B0 m0 d0] ?_))
 refine xe (sx_next (sx_seq (sx_region (xr 2 [(2, .v (.int .i64 0)),eI2 4 s0 A0 l0 c0] [] ?_))))
 refine xc 67 [vI2 s0 A0 l0 c0] 5 (fun _:Unit=>.int .i64 ((q).num).sign) _ (fun w hE hΦ=>(NSign_any _ ((q).num) _ hΦ.num).mono (fun _ _ h=>post_val h rfl)) (fun xx=>?_)
 refine xr 1 [(2, .v (.int .i64 ((q).num).sign))] [] ?_
 refine xe (sx_next (sx_ret ?_))
 refine sx_done (v:=.int .i64 ((q).num).sign) (by kernel_rfl) (fun w' hE hΦ=>?_)
 exact ⟨rfl,hE⟩
set_option maxRecDepth 100000 in
theorem NRAdd_whole (a b:Value) (p q:Rat) (w:World) (ha:NRatIs w a p) (hb:NRatIs w b q) (hp:RFits p) (hq:RFits q) (h1:p.den=1) (h2:q.den=1) :
 Calls Tryz.prog 24 #[a,b] w (RetNRat w (p + q)):=by
 obtain ⟨s0,A0,l0,c0,t0,B0,m0,d0,rfl⟩:=ha.shp
 obtain rfl:m0=0:=ha.den.len0 (denF_one h1)
 obtain ⟨s1,A1,l1,c1,t1,B1,m1,d1,rfl⟩:=hb.shp
 obtain rfl:m1=0:=hb.den.len0 (denF_one h2)
 have S1:ml p.num.natAbs≤100000:=hp.1
 have S2:ml q.num.natAbs≤100000:=hq.1
 have S3:ml ((p.den:Nat):Int).natAbs≤100000:=mlc hp.2
 have S4:ml ((q.den:Nat):Int).natAbs≤100000:=mlc hq.2
 refine sx_enter (Φ:=fun w=>(NRatIs w (.agg #[.bool s0, .slice A0 l0 c0, .bool t0, .slice B0 0 d0]) (p)∧NRatIs w (.agg #[.bool s1, .slice A1 l1 c1, .bool t1, .slice B1 0 d1]) (q))) Tryz.func24 rfl (by kernel_rfl) (fun w' hf=>⟨ha.ext hf,hb.ext hf⟩) ?_
 refine sx_seq (sx_region (xr 3 [(2, .p 2 0),(3, .p 3 0),(4, .p 4 0)] [bR4 4 35 false none 0 0 false none 0 0,bR4 3 35 s1 A1 l1 c1 t1 B1 0 d1,bR4 2 35 s0 A0 l0 c0 t0 B0 0 d0] ?_))
 refine xe (sx_next (sx_seq (sx_seq (sx_region (xr 12 [(2, .p 2 0),(3, .p 3 0),(4, .p 4 0),(16, .v (.bool true))] [bR4 4 35 false none 0 0 false none 0 0,bR4 3 35 s1 A1 l1 c1 t1 B1 0 d1,bR4 2 35 s0 A0 l0 c0 t0 B0 0 d0] ?_)))))
 refine xe (sx_next (xa (sx_seq (sx_region (xr 4 [(2, .p 2 0),(3, .p 3 0),(4, .p 4 0),eI2 18 s0 A0 l0 c0,eI2 20 s1 A1 l1 c1] [bR4 4 35 false none 0 0 false none 0 0,bR4 3 35 s1 A1 l1 c1 t1 B1 0 d1,bR4 2 35 s0 A0 l0 c0 t0 B0 0 d0] ?_)))))
 refine xc 69 [vI2 s0 A0 l0 c0,vI2 s1 A1 l1 c1] 21 shInt _ (fun w hE hΦ=>(NAdd_any _ _ ((p).num) ((q).num) _ hΦ.1.num hΦ.2.num (nfit S1 (by decide)) (nfit S2 (by decide))).mono (fun _ _ h=>post_Num h)) (fun xx=>?_)
 obtain ⟨s10,A10,l10,c10⟩:=xx
 refine xr 2 [(2, .p 2 0),(3, .p 3 0),(4, .p 4 0)] [bR4 4 35 s10 A10 l10 c10 false none 0 0,bR4 3 35 s1 A1 l1 c1 t1 B1 0 d1,bR4 2 35 s0 A0 l0 c0 t0 B0 0 d0] ?_
 refine xe (sx_next (sx_ret (sx_then_ret ?_)))
 refine sx_done (v:=.agg #[.bool s10, .slice A10 l10 c10, .bool false, .slice none 0 0]) (by kernel_rfl) (fun w' hE hΦ=>?_)
 exact ⟨_,rfl,NRatIs.of (by rw [(rat_whole_add h1 h2).1]; exact hΦ.2) (by rw [denF_one (rat_whole_add h1 h2).2]; exact (NumIs.nil _)),hE⟩
set_option maxRecDepth 100000 in
theorem NRAdd_fracl (a b:Value) (p q:Rat) (w:World) (ha:NRatIs w a p) (hb:NRatIs w b q) (hp:RFits p) (hq:RFits q) (h1:¬ p.den=1) :
 Calls Tryz.prog 24 #[a,b] w (RetNRat w (p + q)):=by
 obtain ⟨s0,A0,l0,c0,t0,B0,m0,d0,rfl⟩:=ha.shp
 obtain ⟨k0,rfl⟩:∃ k,m0=k + 1:=⟨m0 - 1,by have:=ha.den.lenp (denF_ne h1); omega⟩
 obtain ⟨s1,A1,l1,c1,t1,B1,m1,d1,rfl⟩:=hb.shp
 have S1:ml p.num.natAbs≤100000:=hp.1
 have S2:ml q.num.natAbs≤100000:=hq.1
 have S3:ml ((p.den:Nat):Int).natAbs≤100000:=mlc hp.2
 have S4:ml ((q.den:Nat):Int).natAbs≤100000:=mlc hq.2
 refine sx_enter (Φ:=fun w=>(NRatIs w (.agg #[.bool s0, .slice A0 l0 c0, .bool t0, .slice B0 (k0 + 1) d0]) (p)∧NRatIs w (.agg #[.bool s1, .slice A1 l1 c1, .bool t1, .slice B1 m1 d1]) (q))) Tryz.func24 rfl (by kernel_rfl) (fun w' hf=>⟨ha.ext hf,hb.ext hf⟩) ?_
 refine sx_seq (sx_region (xr 3 [(2, .p 2 0),(3, .p 3 0),(4, .p 4 0)] [bR4 4 35 false none 0 0 false none 0 0,bR4 3 35 s1 A1 l1 c1 t1 B1 m1 d1,bR4 2 35 s0 A0 l0 c0 t0 B0 (k0 + 1) d0] ?_))
 refine xe (sx_next (sx_seq (sx_seq (sx_region (xr 12 [(2, .p 2 0),(3, .p 3 0),(4, .p 4 0),(16, .v (.bool false))] [bR4 4 35 false none 0 0 false none 0 0,bR4 3 35 s1 A1 l1 c1 t1 B1 m1 d1,bR4 2 35 s0 A0 l0 c0 t0 B0 (k0 + 1) d0] ?_)))))
 refine xe (sx_next (xb (sx_skip (sx_next (sx_seq ?_)))))
 refine sx_draw 18 (by kernel_rfl) (by kernel_rfl) follows_mixed' ?_
 refine xf 3 [(2, .p 2 0),(3, .p 3 0),(4, .p 4 0),eI2 24 s0 A0 l0 c0,eR4 25 s1 A1 l1 c1 t1 B1 m1 d1] [bR4 4 35 false none 0 0 false none 0 0,bR4 3 35 s1 A1 l1 c1 t1 B1 m1 d1,bR4 2 35 s0 A0 l0 c0 t0 B0 (k0 + 1) d0] ?_
 refine xd 79 [vR4 s1 A1 l1 c1 t1 B1 m1 d1] 26 shInt _ (fun w hE hΦ=>(Nden_any _ (q) _ hΦ.2).mono (fun _ _ h=>post_Num h)) (fun xx=>?_)
 obtain ⟨s10,A10,l10,c10⟩:=xx
 refine xf 0 [(2, .p 2 0),(3, .p 3 0),(4, .p 4 0),eI2 24 s0 A0 l0 c0,eI2 26 s10 A10 l10 c10] [bR4 4 35 false none 0 0 false none 0 0,bR4 3 35 s1 A1 l1 c1 t1 B1 m1 d1,bR4 2 35 s0 A0 l0 c0 t0 B0 (k0 + 1) d0] ?_
 refine xd 68 [vI2 s0 A0 l0 c0,vI2 s10 A10 l10 c10] 27 shInt _ (fun w hE hΦ=>(NMul_any _ _ ((p).num) (((q).den:Int)) _ hΦ.1.1.num hΦ.2 (nfit S1 (by decide)) (nfit S4 (by decide))).mono (fun _ _ h=>post_Num h)) (fun xx=>?_)
 obtain ⟨s11,A11,l11,c11⟩:=xx
 refine xf 3 [(2, .p 2 0),(3, .p 3 0),(4, .p 4 0),eI2 27 s11 A11 l11 c11,eI2 29 s1 A1 l1 c1,eR4 30 s0 A0 l0 c0 t0 B0 (k0 + 1) d0] [bR4 4 35 false none 0 0 false none 0 0,bR4 3 35 s1 A1 l1 c1 t1 B1 m1 d1,bR4 2 35 s0 A0 l0 c0 t0 B0 (k0 + 1) d0] ?_
 refine xd 79 [vR4 s0 A0 l0 c0 t0 B0 (k0 + 1) d0] 31 shInt _ (fun w hE hΦ=>(Nden_any _ (p) _ hΦ.1.1.1).mono (fun _ _ h=>post_Num h)) (fun xx=>?_)
 obtain ⟨s12,A12,l12,c12⟩:=xx
 refine xf 0 [(2, .p 2 0),(3, .p 3 0),(4, .p 4 0),eI2 27 s11 A11 l11 c11,eI2 29 s1 A1 l1 c1,eI2 31 s12 A12 l12 c12] [bR4 4 35 false none 0 0 false none 0 0,bR4 3 35 s1 A1 l1 c1 t1 B1 m1 d1,bR4 2 35 s0 A0 l0 c0 t0 B0 (k0 + 1) d0] ?_
 refine xd 68 [vI2 s1 A1 l1 c1,vI2 s12 A12 l12 c12] 32 shInt _ (fun w hE hΦ=>(NMul_any _ _ ((q).num) (((p).den:Int)) _ hΦ.1.1.1.2.num hΦ.2 (nfit S2 (by decide)) (nfit S3 (by decide))).mono (fun _ _ h=>post_Num h)) (fun xx=>?_)
 obtain ⟨s13,A13,l13,c13⟩:=xx
 refine xf 0 [(2, .p 2 0),(3, .p 3 0),(4, .p 4 0),eI2 27 s11 A11 l11 c11,eI2 32 s13 A13 l13 c13] [bR4 4 35 false none 0 0 false none 0 0,bR4 3 35 s1 A1 l1 c1 t1 B1 m1 d1,bR4 2 35 s0 A0 l0 c0 t0 B0 (k0 + 1) d0] ?_
 refine xd 69 [vI2 s11 A11 l11 c11,vI2 s13 A13 l13 c13] 33 shInt _ (fun w hE hΦ=>(NAdd_any _ _ (((p).num) * (((q).den:Int))) (((q).num) * (((p).den:Int))) _ hΦ.1.1.2 hΦ.2 (nfit (mlm S1 S4) (by decide)) (nfit (mlm S2 S3) (by decide))).mono (fun _ _ h=>post_Num h)) (fun xx=>?_)
 obtain ⟨s14,A14,l14,c14⟩:=xx
 refine xf 1 [(3, .p 3 0),(4, .p 4 0),eI2 33 s14 A14 l14 c14,eR4 34 s0 A0 l0 c0 t0 B0 (k0 + 1) d0] [bR4 4 35 false none 0 0 false none 0 0,bR4 3 35 s1 A1 l1 c1 t1 B1 m1 d1,bR4 2 35 s0 A0 l0 c0 t0 B0 (k0 + 1) d0] ?_
 refine xd 79 [vR4 s0 A0 l0 c0 t0 B0 (k0 + 1) d0] 35 shInt _ (fun w hE hΦ=>(Nden_any _ (p) _ hΦ.1.1.1.1.1.1).mono (fun _ _ h=>post_Num h)) (fun xx=>?_)
 obtain ⟨s15,A15,l15,c15⟩:=xx
 refine xf 1 [(4, .p 4 0),eI2 33 s14 A14 l14 c14,eI2 35 s15 A15 l15 c15,eR4 36 s1 A1 l1 c1 t1 B1 m1 d1] [bR4 4 35 false none 0 0 false none 0 0,bR4 3 35 s1 A1 l1 c1 t1 B1 m1 d1,bR4 2 35 s0 A0 l0 c0 t0 B0 (k0 + 1) d0] ?_
 refine xd 79 [vR4 s1 A1 l1 c1 t1 B1 m1 d1] 37 shInt _ (fun w hE hΦ=>(Nden_any _ (q) _ hΦ.1.1.1.1.1.1.2).mono (fun _ _ h=>post_Num h)) (fun xx=>?_)
 obtain ⟨s16,A16,l16,c16⟩:=xx
 refine xf 0 [(4, .p 4 0),eI2 33 s14 A14 l14 c14,eI2 35 s15 A15 l15 c15,eI2 37 s16 A16 l16 c16] [bR4 4 35 false none 0 0 false none 0 0,bR4 3 35 s1 A1 l1 c1 t1 B1 m1 d1,bR4 2 35 s0 A0 l0 c0 t0 B0 (k0 + 1) d0] ?_
 refine xd 68 [vI2 s15 A15 l15 c15,vI2 s16 A16 l16 c16] 38 shInt _ (fun w hE hΦ=>(NMul_any _ _ (((p).den:Int)) (((q).den:Int)) _ hΦ.1.2 hΦ.2 (nfit S3 (by decide)) (nfit S4 (by decide))).mono (fun _ _ h=>post_Num h)) (fun xx=>?_)
 obtain ⟨s17,A17,l17,c17⟩:=xx
 refine xf 0 [(4, .p 4 0),eI2 33 s14 A14 l14 c14,eI2 38 s17 A17 l17 c17] [bR4 4 35 false none 0 0 false none 0 0,bR4 3 35 s1 A1 l1 c1 t1 B1 m1 d1,bR4 2 35 s0 A0 l0 c0 t0 B0 (k0 + 1) d0] ?_
 refine xd 71 [vI2 s14 A14 l14 c14,vI2 s17 A17 l17 c17] 39 shRat _ (fun w hE hΦ=>(NFrac_any _ _ ((((p).num) * (((q).den:Int))) + (((q).num) * (((p).den:Int)))) ((((p).den:Int)) * (((q).den:Int))) _ hΦ.1.1.1.2 hΦ.2 (nfit (mla (a:=200000) (mlm S1 S4) (mlm S2 S3)) (by decide)) (nfit (mlm S3 S4) (by decide)) (Int.mul_ne_zero (denI p) (denI q))).mono (fun _ _ h=>post_NRat (by rw [rat_add_frac] at h; exact h))) (fun xx=>?_)
 obtain ⟨s18,A18,l18,c18,t18,B18,m18,d18⟩:=xx
 refine xf 1 [(4, .p 4 0)] [bR4 4 35 s18 A18 l18 c18 t18 B18 m18 d18,bR4 4 35 false none 0 0 false none 0 0,bR4 3 35 s1 A1 l1 c1 t1 B1 m1 d1,bR4 2 35 s0 A0 l0 c0 t0 B0 (k0 + 1) d0] ?_
 refine xz (xe (sx_next (sx_ret ?_)))
 refine sx_done (v:=.agg #[.bool s18, .slice A18 l18 c18, .bool t18, .slice B18 m18 d18]) (by kernel_rfl) (fun w' hE hΦ=>?_)
 exact ⟨_,rfl,hΦ.2,hE⟩
set_option maxRecDepth 100000 in
theorem NRAdd_fracr (a b:Value) (p q:Rat) (w:World) (ha:NRatIs w a p) (hb:NRatIs w b q) (hp:RFits p) (hq:RFits q) (h1:p.den=1) (h2:¬ q.den=1) :
 Calls Tryz.prog 24 #[a,b] w (RetNRat w (p + q)):=by
 obtain ⟨s0,A0,l0,c0,t0,B0,m0,d0,rfl⟩:=ha.shp
 obtain rfl:m0=0:=ha.den.len0 (denF_one h1)
 obtain ⟨s1,A1,l1,c1,t1,B1,m1,d1,rfl⟩:=hb.shp
 obtain ⟨k1,rfl⟩:∃ k,m1=k + 1:=⟨m1 - 1,by have:=hb.den.lenp (denF_ne h2); omega⟩
 have S1:ml p.num.natAbs≤100000:=hp.1
 have S2:ml q.num.natAbs≤100000:=hq.1
 have S3:ml ((p.den:Nat):Int).natAbs≤100000:=mlc hp.2
 have S4:ml ((q.den:Nat):Int).natAbs≤100000:=mlc hq.2
 refine sx_enter (Φ:=fun w=>(NRatIs w (.agg #[.bool s0, .slice A0 l0 c0, .bool t0, .slice B0 0 d0]) (p)∧NRatIs w (.agg #[.bool s1, .slice A1 l1 c1, .bool t1, .slice B1 (k1 + 1) d1]) (q))) Tryz.func24 rfl (by kernel_rfl) (fun w' hf=>⟨ha.ext hf,hb.ext hf⟩) ?_
 refine sx_seq (sx_region (xr 3 [(2, .p 2 0),(3, .p 3 0),(4, .p 4 0)] [bR4 4 35 false none 0 0 false none 0 0,bR4 3 35 s1 A1 l1 c1 t1 B1 (k1 + 1) d1,bR4 2 35 s0 A0 l0 c0 t0 B0 0 d0] ?_))
 refine xe (sx_next (sx_seq (sx_seq (sx_region (xr 12 [(2, .p 2 0),(3, .p 3 0),(4, .p 4 0),(16, .v (.bool false))] [bR4 4 35 false none 0 0 false none 0 0,bR4 3 35 s1 A1 l1 c1 t1 B1 (k1 + 1) d1,bR4 2 35 s0 A0 l0 c0 t0 B0 0 d0] ?_)))))
 refine xe (sx_next (xb (sx_skip (sx_next (sx_seq ?_)))))
 refine sx_draw 18 (by kernel_rfl) (by kernel_rfl) follows_mixed' ?_
 refine xf 3 [(2, .p 2 0),(3, .p 3 0),(4, .p 4 0),eI2 24 s0 A0 l0 c0,eR4 25 s1 A1 l1 c1 t1 B1 (k1 + 1) d1] [bR4 4 35 false none 0 0 false none 0 0,bR4 3 35 s1 A1 l1 c1 t1 B1 (k1 + 1) d1,bR4 2 35 s0 A0 l0 c0 t0 B0 0 d0] ?_
 refine xd 79 [vR4 s1 A1 l1 c1 t1 B1 (k1 + 1) d1] 26 shInt _ (fun w hE hΦ=>(Nden_any _ (q) _ hΦ.2).mono (fun _ _ h=>post_Num h)) (fun xx=>?_)
 obtain ⟨s10,A10,l10,c10⟩:=xx
 refine xf 0 [(2, .p 2 0),(3, .p 3 0),(4, .p 4 0),eI2 24 s0 A0 l0 c0,eI2 26 s10 A10 l10 c10] [bR4 4 35 false none 0 0 false none 0 0,bR4 3 35 s1 A1 l1 c1 t1 B1 (k1 + 1) d1,bR4 2 35 s0 A0 l0 c0 t0 B0 0 d0] ?_
 refine xd 68 [vI2 s0 A0 l0 c0,vI2 s10 A10 l10 c10] 27 shInt _ (fun w hE hΦ=>(NMul_any _ _ ((p).num) (((q).den:Int)) _ hΦ.1.1.num hΦ.2 (nfit S1 (by decide)) (nfit S4 (by decide))).mono (fun _ _ h=>post_Num h)) (fun xx=>?_)
 obtain ⟨s11,A11,l11,c11⟩:=xx
 refine xf 3 [(2, .p 2 0),(3, .p 3 0),(4, .p 4 0),eI2 27 s11 A11 l11 c11,eI2 29 s1 A1 l1 c1,eR4 30 s0 A0 l0 c0 t0 B0 0 d0] [bR4 4 35 false none 0 0 false none 0 0,bR4 3 35 s1 A1 l1 c1 t1 B1 (k1 + 1) d1,bR4 2 35 s0 A0 l0 c0 t0 B0 0 d0] ?_
 refine xd 79 [vR4 s0 A0 l0 c0 t0 B0 0 d0] 31 shInt _ (fun w hE hΦ=>(Nden_any _ (p) _ hΦ.1.1.1).mono (fun _ _ h=>post_Num h)) (fun xx=>?_)
 obtain ⟨s12,A12,l12,c12⟩:=xx
 refine xf 0 [(2, .p 2 0),(3, .p 3 0),(4, .p 4 0),eI2 27 s11 A11 l11 c11,eI2 29 s1 A1 l1 c1,eI2 31 s12 A12 l12 c12] [bR4 4 35 false none 0 0 false none 0 0,bR4 3 35 s1 A1 l1 c1 t1 B1 (k1 + 1) d1,bR4 2 35 s0 A0 l0 c0 t0 B0 0 d0] ?_
 refine xd 68 [vI2 s1 A1 l1 c1,vI2 s12 A12 l12 c12] 32 shInt _ (fun w hE hΦ=>(NMul_any _ _ ((q).num) (((p).den:Int)) _ hΦ.1.1.1.2.num hΦ.2 (nfit S2 (by decide)) (nfit S3 (by decide))).mono (fun _ _ h=>post_Num h)) (fun xx=>?_)
 obtain ⟨s13,A13,l13,c13⟩:=xx
 refine xf 0 [(2, .p 2 0),(3, .p 3 0),(4, .p 4 0),eI2 27 s11 A11 l11 c11,eI2 32 s13 A13 l13 c13] [bR4 4 35 false none 0 0 false none 0 0,bR4 3 35 s1 A1 l1 c1 t1 B1 (k1 + 1) d1,bR4 2 35 s0 A0 l0 c0 t0 B0 0 d0] ?_
 refine xd 69 [vI2 s11 A11 l11 c11,vI2 s13 A13 l13 c13] 33 shInt _ (fun w hE hΦ=>(NAdd_any _ _ (((p).num) * (((q).den:Int))) (((q).num) * (((p).den:Int))) _ hΦ.1.1.2 hΦ.2 (nfit (mlm S1 S4) (by decide)) (nfit (mlm S2 S3) (by decide))).mono (fun _ _ h=>post_Num h)) (fun xx=>?_)
 obtain ⟨s14,A14,l14,c14⟩:=xx
 refine xf 1 [(3, .p 3 0),(4, .p 4 0),eI2 33 s14 A14 l14 c14,eR4 34 s0 A0 l0 c0 t0 B0 0 d0] [bR4 4 35 false none 0 0 false none 0 0,bR4 3 35 s1 A1 l1 c1 t1 B1 (k1 + 1) d1,bR4 2 35 s0 A0 l0 c0 t0 B0 0 d0] ?_
 refine xd 79 [vR4 s0 A0 l0 c0 t0 B0 0 d0] 35 shInt _ (fun w hE hΦ=>(Nden_any _ (p) _ hΦ.1.1.1.1.1.1).mono (fun _ _ h=>post_Num h)) (fun xx=>?_)
 obtain ⟨s15,A15,l15,c15⟩:=xx
 refine xf 1 [(4, .p 4 0),eI2 33 s14 A14 l14 c14,eI2 35 s15 A15 l15 c15,eR4 36 s1 A1 l1 c1 t1 B1 (k1 + 1) d1] [bR4 4 35 false none 0 0 false none 0 0,bR4 3 35 s1 A1 l1 c1 t1 B1 (k1 + 1) d1,bR4 2 35 s0 A0 l0 c0 t0 B0 0 d0] ?_
 refine xd 79 [vR4 s1 A1 l1 c1 t1 B1 (k1 + 1) d1] 37 shInt _ (fun w hE hΦ=>(Nden_any _ (q) _ hΦ.1.1.1.1.1.1.2).mono (fun _ _ h=>post_Num h)) (fun xx=>?_)
 obtain ⟨s16,A16,l16,c16⟩:=xx
 refine xf 0 [(4, .p 4 0),eI2 33 s14 A14 l14 c14,eI2 35 s15 A15 l15 c15,eI2 37 s16 A16 l16 c16] [bR4 4 35 false none 0 0 false none 0 0,bR4 3 35 s1 A1 l1 c1 t1 B1 (k1 + 1) d1,bR4 2 35 s0 A0 l0 c0 t0 B0 0 d0] ?_
 refine xd 68 [vI2 s15 A15 l15 c15,vI2 s16 A16 l16 c16] 38 shInt _ (fun w hE hΦ=>(NMul_any _ _ (((p).den:Int)) (((q).den:Int)) _ hΦ.1.2 hΦ.2 (nfit S3 (by decide)) (nfit S4 (by decide))).mono (fun _ _ h=>post_Num h)) (fun xx=>?_)
 obtain ⟨s17,A17,l17,c17⟩:=xx
 refine xf 0 [(4, .p 4 0),eI2 33 s14 A14 l14 c14,eI2 38 s17 A17 l17 c17] [bR4 4 35 false none 0 0 false none 0 0,bR4 3 35 s1 A1 l1 c1 t1 B1 (k1 + 1) d1,bR4 2 35 s0 A0 l0 c0 t0 B0 0 d0] ?_
 refine xd 71 [vI2 s14 A14 l14 c14,vI2 s17 A17 l17 c17] 39 shRat _ (fun w hE hΦ=>(NFrac_any _ _ ((((p).num) * (((q).den:Int))) + (((q).num) * (((p).den:Int)))) ((((p).den:Int)) * (((q).den:Int))) _ hΦ.1.1.1.2 hΦ.2 (nfit (mla (a:=200000) (mlm S1 S4) (mlm S2 S3)) (by decide)) (nfit (mlm S3 S4) (by decide)) (Int.mul_ne_zero (denI p) (denI q))).mono (fun _ _ h=>post_NRat (by rw [rat_add_frac] at h; exact h))) (fun xx=>?_)
 obtain ⟨s18,A18,l18,c18,t18,B18,m18,d18⟩:=xx
 refine xf 1 [(4, .p 4 0)] [bR4 4 35 s18 A18 l18 c18 t18 B18 m18 d18,bR4 4 35 false none 0 0 false none 0 0,bR4 3 35 s1 A1 l1 c1 t1 B1 (k1 + 1) d1,bR4 2 35 s0 A0 l0 c0 t0 B0 0 d0] ?_
 refine xz (xe (sx_next (sx_ret ?_)))
 refine sx_done (v:=.agg #[.bool s18, .slice A18 l18 c18, .bool t18, .slice B18 m18 d18]) (by kernel_rfl) (fun w' hE hΦ=>?_)
 exact ⟨_,rfl,hΦ.2,hE⟩
theorem NRAdd_any (a b:Value) (p q:Rat) (w:World) (ha:NRatIs w a p) (hb:NRatIs w b q) (hp:RFits p) (hq:RFits q):Calls Tryz.prog 24 #[a,b] w (RetNRat w (p + q)):=by
 by_cases h1:p.den=1
 ·by_cases h2:q.den=1
  ·exact NRAdd_whole a b p q w ha hb hp hq h1 h2
  ·exact NRAdd_fracr a b p q w ha hb hp hq h1 h2
 ·exact NRAdd_fracl a b p q w ha hb hp hq h1
set_option maxRecDepth 100000 in
theorem NRMul_whole (a b:Value) (p q:Rat) (w:World) (ha:NRatIs w a p) (hb:NRatIs w b q) (hp:RFits p) (hq:RFits q) (h1:p.den=1) (h2:q.den=1) :
 Calls Tryz.prog 28 #[a,b] w (RetNRat w (p * q)):=by
 obtain ⟨s0,A0,l0,c0,t0,B0,m0,d0,rfl⟩:=ha.shp
 obtain rfl:m0=0:=ha.den.len0 (denF_one h1)
 obtain ⟨s1,A1,l1,c1,t1,B1,m1,d1,rfl⟩:=hb.shp
 obtain rfl:m1=0:=hb.den.len0 (denF_one h2)
 have S1:ml p.num.natAbs≤100000:=hp.1
 have S2:ml q.num.natAbs≤100000:=hq.1
 have S3:ml ((p.den:Nat):Int).natAbs≤100000:=mlc hp.2
 have S4:ml ((q.den:Nat):Int).natAbs≤100000:=mlc hq.2
 refine sx_enter (Φ:=fun w=>(NRatIs w (.agg #[.bool s0, .slice A0 l0 c0, .bool t0, .slice B0 0 d0]) (p)∧NRatIs w (.agg #[.bool s1, .slice A1 l1 c1, .bool t1, .slice B1 0 d1]) (q))) Tryz.func28 rfl (by kernel_rfl) (fun w' hf=>⟨ha.ext hf,hb.ext hf⟩) ?_
 refine sx_seq (sx_region (xr 3 [(2, .p 2 0),(3, .p 3 0),(4, .p 4 0)] [bR4 4 35 false none 0 0 false none 0 0,bR4 3 35 s1 A1 l1 c1 t1 B1 0 d1,bR4 2 35 s0 A0 l0 c0 t0 B0 0 d0] ?_))
 refine xe (sx_next (sx_seq (sx_seq (sx_region (xr 12 [(2, .p 2 0),(3, .p 3 0),(4, .p 4 0),(16, .v (.bool true))] [bR4 4 35 false none 0 0 false none 0 0,bR4 3 35 s1 A1 l1 c1 t1 B1 0 d1,bR4 2 35 s0 A0 l0 c0 t0 B0 0 d0] ?_)))))
 refine xe (sx_next (xa (sx_seq (sx_region (xr 4 [(2, .p 2 0),(3, .p 3 0),(4, .p 4 0),eI2 18 s0 A0 l0 c0,eI2 20 s1 A1 l1 c1] [bR4 4 35 false none 0 0 false none 0 0,bR4 3 35 s1 A1 l1 c1 t1 B1 0 d1,bR4 2 35 s0 A0 l0 c0 t0 B0 0 d0] ?_)))))
 refine xc 68 [vI2 s0 A0 l0 c0,vI2 s1 A1 l1 c1] 21 shInt _ (fun w hE hΦ=>(NMul_any _ _ ((p).num) ((q).num) _ hΦ.1.num hΦ.2.num (nfit S1 (by decide)) (nfit S2 (by decide))).mono (fun _ _ h=>post_Num h)) (fun xx=>?_)
 obtain ⟨s10,A10,l10,c10⟩:=xx
 refine xr 2 [(2, .p 2 0),(3, .p 3 0),(4, .p 4 0)] [bR4 4 35 s10 A10 l10 c10 false none 0 0,bR4 3 35 s1 A1 l1 c1 t1 B1 0 d1,bR4 2 35 s0 A0 l0 c0 t0 B0 0 d0] ?_
 refine xe (sx_next (sx_ret (sx_then_ret ?_)))
 refine sx_done (v:=.agg #[.bool s10, .slice A10 l10 c10, .bool false, .slice none 0 0]) (by kernel_rfl) (fun w' hE hΦ=>?_)
 exact ⟨_,rfl,NRatIs.of (by rw [(rat_whole_mul h1 h2).1]; exact hΦ.2) (by rw [denF_one (rat_whole_mul h1 h2).2]; exact (NumIs.nil _)),hE⟩
set_option maxRecDepth 100000 in
theorem NRMul_fracl (a b:Value) (p q:Rat) (w:World) (ha:NRatIs w a p) (hb:NRatIs w b q) (hp:RFits p) (hq:RFits q) (h1:¬ p.den=1) :
 Calls Tryz.prog 28 #[a,b] w (RetNRat w (p * q)):=by
 obtain ⟨s0,A0,l0,c0,t0,B0,m0,d0,rfl⟩:=ha.shp
 obtain ⟨k0,rfl⟩:∃ k,m0=k + 1:=⟨m0 - 1,by have:=ha.den.lenp (denF_ne h1); omega⟩
 obtain ⟨s1,A1,l1,c1,t1,B1,m1,d1,rfl⟩:=hb.shp
 have S1:ml p.num.natAbs≤100000:=hp.1
 have S2:ml q.num.natAbs≤100000:=hq.1
 have S3:ml ((p.den:Nat):Int).natAbs≤100000:=mlc hp.2
 have S4:ml ((q.den:Nat):Int).natAbs≤100000:=mlc hq.2
 refine sx_enter (Φ:=fun w=>(NRatIs w (.agg #[.bool s0, .slice A0 l0 c0, .bool t0, .slice B0 (k0 + 1) d0]) (p)∧NRatIs w (.agg #[.bool s1, .slice A1 l1 c1, .bool t1, .slice B1 m1 d1]) (q))) Tryz.func28 rfl (by kernel_rfl) (fun w' hf=>⟨ha.ext hf,hb.ext hf⟩) ?_
 refine sx_seq (sx_region (xr 3 [(2, .p 2 0),(3, .p 3 0),(4, .p 4 0)] [bR4 4 35 false none 0 0 false none 0 0,bR4 3 35 s1 A1 l1 c1 t1 B1 m1 d1,bR4 2 35 s0 A0 l0 c0 t0 B0 (k0 + 1) d0] ?_))
 refine xe (sx_next (sx_seq (sx_seq (sx_region (xr 12 [(2, .p 2 0),(3, .p 3 0),(4, .p 4 0),(16, .v (.bool false))] [bR4 4 35 false none 0 0 false none 0 0,bR4 3 35 s1 A1 l1 c1 t1 B1 m1 d1,bR4 2 35 s0 A0 l0 c0 t0 B0 (k0 + 1) d0] ?_)))))
 refine xe (sx_next (xb (sx_skip (sx_next (sx_seq ?_)))))
 refine sx_draw 12 (by kernel_rfl) (by kernel_rfl) follows_mixed' ?_
 refine xf 4 [(2, .p 2 0),(3, .p 3 0),(4, .p 4 0),eI2 24 s0 A0 l0 c0,eI2 26 s1 A1 l1 c1] [bR4 4 35 false none 0 0 false none 0 0,bR4 3 35 s1 A1 l1 c1 t1 B1 m1 d1,bR4 2 35 s0 A0 l0 c0 t0 B0 (k0 + 1) d0] ?_
 refine xd 68 [vI2 s0 A0 l0 c0,vI2 s1 A1 l1 c1] 27 shInt _ (fun w hE hΦ=>(NMul_any _ _ ((p).num) ((q).num) _ hΦ.1.num hΦ.2.num (nfit S1 (by decide)) (nfit S2 (by decide))).mono (fun _ _ h=>post_Num h)) (fun xx=>?_)
 obtain ⟨s10,A10,l10,c10⟩:=xx
 refine xf 1 [(3, .p 3 0),(4, .p 4 0),eI2 27 s10 A10 l10 c10,eR4 28 s0 A0 l0 c0 t0 B0 (k0 + 1) d0] [bR4 4 35 false none 0 0 false none 0 0,bR4 3 35 s1 A1 l1 c1 t1 B1 m1 d1,bR4 2 35 s0 A0 l0 c0 t0 B0 (k0 + 1) d0] ?_
 refine xd 79 [vR4 s0 A0 l0 c0 t0 B0 (k0 + 1) d0] 29 shInt _ (fun w hE hΦ=>(Nden_any _ (p) _ hΦ.1.1).mono (fun _ _ h=>post_Num h)) (fun xx=>?_)
 obtain ⟨s11,A11,l11,c11⟩:=xx
 refine xf 1 [(4, .p 4 0),eI2 27 s10 A10 l10 c10,eI2 29 s11 A11 l11 c11,eR4 30 s1 A1 l1 c1 t1 B1 m1 d1] [bR4 4 35 false none 0 0 false none 0 0,bR4 3 35 s1 A1 l1 c1 t1 B1 m1 d1,bR4 2 35 s0 A0 l0 c0 t0 B0 (k0 + 1) d0] ?_
 refine xd 79 [vR4 s1 A1 l1 c1 t1 B1 m1 d1] 31 shInt _ (fun w hE hΦ=>(Nden_any _ (q) _ hΦ.1.1.2).mono (fun _ _ h=>post_Num h)) (fun xx=>?_)
 obtain ⟨s12,A12,l12,c12⟩:=xx
 refine xf 0 [(4, .p 4 0),eI2 27 s10 A10 l10 c10,eI2 29 s11 A11 l11 c11,eI2 31 s12 A12 l12 c12] [bR4 4 35 false none 0 0 false none 0 0,bR4 3 35 s1 A1 l1 c1 t1 B1 m1 d1,bR4 2 35 s0 A0 l0 c0 t0 B0 (k0 + 1) d0] ?_
 refine xd 68 [vI2 s11 A11 l11 c11,vI2 s12 A12 l12 c12] 32 shInt _ (fun w hE hΦ=>(NMul_any _ _ (((p).den:Int)) (((q).den:Int)) _ hΦ.1.2 hΦ.2 (nfit S3 (by decide)) (nfit S4 (by decide))).mono (fun _ _ h=>post_Num h)) (fun xx=>?_)
 obtain ⟨s13,A13,l13,c13⟩:=xx
 refine xf 0 [(4, .p 4 0),eI2 27 s10 A10 l10 c10,eI2 32 s13 A13 l13 c13] [bR4 4 35 false none 0 0 false none 0 0,bR4 3 35 s1 A1 l1 c1 t1 B1 m1 d1,bR4 2 35 s0 A0 l0 c0 t0 B0 (k0 + 1) d0] ?_
 refine xd 71 [vI2 s10 A10 l10 c10,vI2 s13 A13 l13 c13] 33 shRat _ (fun w hE hΦ=>(NFrac_any _ _ (((p).num) * ((q).num)) ((((p).den:Int)) * (((q).den:Int))) _ hΦ.1.1.1.2 hΦ.2 (nfit (mlm S1 S2) (by decide)) (nfit (mlm S3 S4) (by decide)) (Int.mul_ne_zero (denI p) (denI q))).mono (fun _ _ h=>post_NRat (by rw [rat_mul_frac] at h; exact h))) (fun xx=>?_)
 obtain ⟨s14,A14,l14,c14,t14,B14,m14,d14⟩:=xx
 refine xf 1 [(4, .p 4 0)] [bR4 4 35 s14 A14 l14 c14 t14 B14 m14 d14,bR4 4 35 false none 0 0 false none 0 0,bR4 3 35 s1 A1 l1 c1 t1 B1 m1 d1,bR4 2 35 s0 A0 l0 c0 t0 B0 (k0 + 1) d0] ?_
 refine xz (xe (sx_next (sx_ret ?_)))
 refine sx_done (v:=.agg #[.bool s14, .slice A14 l14 c14, .bool t14, .slice B14 m14 d14]) (by kernel_rfl) (fun w' hE hΦ=>?_)
 exact ⟨_,rfl,hΦ.2,hE⟩
set_option maxRecDepth 100000 in
theorem NRMul_fracr (a b:Value) (p q:Rat) (w:World) (ha:NRatIs w a p) (hb:NRatIs w b q) (hp:RFits p) (hq:RFits q) (h1:p.den=1) (h2:¬ q.den=1) :
 Calls Tryz.prog 28 #[a,b] w (RetNRat w (p * q)):=by
 obtain ⟨s0,A0,l0,c0,t0,B0,m0,d0,rfl⟩:=ha.shp
 obtain rfl:m0=0:=ha.den.len0 (denF_one h1)
 obtain ⟨s1,A1,l1,c1,t1,B1,m1,d1,rfl⟩:=hb.shp
 obtain ⟨k1,rfl⟩:∃ k,m1=k + 1:=⟨m1 - 1,by have:=hb.den.lenp (denF_ne h2); omega⟩
 have S1:ml p.num.natAbs≤100000:=hp.1
 have S2:ml q.num.natAbs≤100000:=hq.1
 have S3:ml ((p.den:Nat):Int).natAbs≤100000:=mlc hp.2
 have S4:ml ((q.den:Nat):Int).natAbs≤100000:=mlc hq.2
 refine sx_enter (Φ:=fun w=>(NRatIs w (.agg #[.bool s0, .slice A0 l0 c0, .bool t0, .slice B0 0 d0]) (p)∧NRatIs w (.agg #[.bool s1, .slice A1 l1 c1, .bool t1, .slice B1 (k1 + 1) d1]) (q))) Tryz.func28 rfl (by kernel_rfl) (fun w' hf=>⟨ha.ext hf,hb.ext hf⟩) ?_
 refine sx_seq (sx_region (xr 3 [(2, .p 2 0),(3, .p 3 0),(4, .p 4 0)] [bR4 4 35 false none 0 0 false none 0 0,bR4 3 35 s1 A1 l1 c1 t1 B1 (k1 + 1) d1,bR4 2 35 s0 A0 l0 c0 t0 B0 0 d0] ?_))
 refine xe (sx_next (sx_seq (sx_seq (sx_region (xr 12 [(2, .p 2 0),(3, .p 3 0),(4, .p 4 0),(16, .v (.bool false))] [bR4 4 35 false none 0 0 false none 0 0,bR4 3 35 s1 A1 l1 c1 t1 B1 (k1 + 1) d1,bR4 2 35 s0 A0 l0 c0 t0 B0 0 d0] ?_)))))
 refine xe (sx_next (xb (sx_skip (sx_next (sx_seq ?_)))))
 refine sx_draw 12 (by kernel_rfl) (by kernel_rfl) follows_mixed' ?_
 refine xf 4 [(2, .p 2 0),(3, .p 3 0),(4, .p 4 0),eI2 24 s0 A0 l0 c0,eI2 26 s1 A1 l1 c1] [bR4 4 35 false none 0 0 false none 0 0,bR4 3 35 s1 A1 l1 c1 t1 B1 (k1 + 1) d1,bR4 2 35 s0 A0 l0 c0 t0 B0 0 d0] ?_
 refine xd 68 [vI2 s0 A0 l0 c0,vI2 s1 A1 l1 c1] 27 shInt _ (fun w hE hΦ=>(NMul_any _ _ ((p).num) ((q).num) _ hΦ.1.num hΦ.2.num (nfit S1 (by decide)) (nfit S2 (by decide))).mono (fun _ _ h=>post_Num h)) (fun xx=>?_)
 obtain ⟨s10,A10,l10,c10⟩:=xx
 refine xf 1 [(3, .p 3 0),(4, .p 4 0),eI2 27 s10 A10 l10 c10,eR4 28 s0 A0 l0 c0 t0 B0 0 d0] [bR4 4 35 false none 0 0 false none 0 0,bR4 3 35 s1 A1 l1 c1 t1 B1 (k1 + 1) d1,bR4 2 35 s0 A0 l0 c0 t0 B0 0 d0] ?_
 refine xd 79 [vR4 s0 A0 l0 c0 t0 B0 0 d0] 29 shInt _ (fun w hE hΦ=>(Nden_any _ (p) _ hΦ.1.1).mono (fun _ _ h=>post_Num h)) (fun xx=>?_)
 obtain ⟨s11,A11,l11,c11⟩:=xx
 refine xf 1 [(4, .p 4 0),eI2 27 s10 A10 l10 c10,eI2 29 s11 A11 l11 c11,eR4 30 s1 A1 l1 c1 t1 B1 (k1 + 1) d1] [bR4 4 35 false none 0 0 false none 0 0,bR4 3 35 s1 A1 l1 c1 t1 B1 (k1 + 1) d1,bR4 2 35 s0 A0 l0 c0 t0 B0 0 d0] ?_
 refine xd 79 [vR4 s1 A1 l1 c1 t1 B1 (k1 + 1) d1] 31 shInt _ (fun w hE hΦ=>(Nden_any _ (q) _ hΦ.1.1.2).mono (fun _ _ h=>post_Num h)) (fun xx=>?_)
 obtain ⟨s12,A12,l12,c12⟩:=xx
 refine xf 0 [(4, .p 4 0),eI2 27 s10 A10 l10 c10,eI2 29 s11 A11 l11 c11,eI2 31 s12 A12 l12 c12] [bR4 4 35 false none 0 0 false none 0 0,bR4 3 35 s1 A1 l1 c1 t1 B1 (k1 + 1) d1,bR4 2 35 s0 A0 l0 c0 t0 B0 0 d0] ?_
 refine xd 68 [vI2 s11 A11 l11 c11,vI2 s12 A12 l12 c12] 32 shInt _ (fun w hE hΦ=>(NMul_any _ _ (((p).den:Int)) (((q).den:Int)) _ hΦ.1.2 hΦ.2 (nfit S3 (by decide)) (nfit S4 (by decide))).mono (fun _ _ h=>post_Num h)) (fun xx=>?_)
 obtain ⟨s13,A13,l13,c13⟩:=xx
 refine xf 0 [(4, .p 4 0),eI2 27 s10 A10 l10 c10,eI2 32 s13 A13 l13 c13] [bR4 4 35 false none 0 0 false none 0 0,bR4 3 35 s1 A1 l1 c1 t1 B1 (k1 + 1) d1,bR4 2 35 s0 A0 l0 c0 t0 B0 0 d0] ?_
 refine xd 71 [vI2 s10 A10 l10 c10,vI2 s13 A13 l13 c13] 33 shRat _ (fun w hE hΦ=>(NFrac_any _ _ (((p).num) * ((q).num)) ((((p).den:Int)) * (((q).den:Int))) _ hΦ.1.1.1.2 hΦ.2 (nfit (mlm S1 S2) (by decide)) (nfit (mlm S3 S4) (by decide)) (Int.mul_ne_zero (denI p) (denI q))).mono (fun _ _ h=>post_NRat (by rw [rat_mul_frac] at h; exact h))) (fun xx=>?_)
 obtain ⟨s14,A14,l14,c14,t14,B14,m14,d14⟩:=xx
 refine xf 1 [(4, .p 4 0)] [bR4 4 35 s14 A14 l14 c14 t14 B14 m14 d14,bR4 4 35 false none 0 0 false none 0 0,bR4 3 35 s1 A1 l1 c1 t1 B1 (k1 + 1) d1,bR4 2 35 s0 A0 l0 c0 t0 B0 0 d0] ?_
 refine xz (xe (sx_next (sx_ret ?_)))
 refine sx_done (v:=.agg #[.bool s14, .slice A14 l14 c14, .bool t14, .slice B14 m14 d14]) (by kernel_rfl) (fun w' hE hΦ=>?_)
 exact ⟨_,rfl,hΦ.2,hE⟩
theorem NRMul_any (a b:Value) (p q:Rat) (w:World) (ha:NRatIs w a p) (hb:NRatIs w b q) (hp:RFits p) (hq:RFits q):Calls Tryz.prog 28 #[a,b] w (RetNRat w (p * q)):=by
 by_cases h1:p.den=1
 ·by_cases h2:q.den=1
  ·exact NRMul_whole a b p q w ha hb hp hq h1 h2
  ·exact NRMul_fracr a b p q w ha hb hp hq h1 h2
 ·exact NRMul_fracl a b p q w ha hb hp hq h1
set_option maxRecDepth 100000 in
theorem NRSub_any (a b:Value) (p q:Rat) (w:World) (ha:NRatIs w a p) (hb:NRatIs w b q) (hp:RFits p) (hq:RFits q) :
 Calls Tryz.prog 26 #[a,b] w (RetNRat w (p - q)):=by
 obtain ⟨s0,A0,l0,c0,t0,B0,m0,d0,rfl⟩:=ha.shp
 obtain ⟨s1,A1,l1,c1,t1,B1,m1,d1,rfl⟩:=hb.shp
 refine sx_enter (Φ:=fun w=>(NRatIs w (.agg #[.bool s0, .slice A0 l0 c0, .bool t0, .slice B0 m0 d0]) (p)∧NRatIs w (.agg #[.bool s1, .slice A1 l1 c1, .bool t1, .slice B1 m1 d1]) (q))) Tryz.func26 rfl (by kernel_rfl) (fun w' hf=>⟨ha.ext hf,hb.ext hf⟩) ?_
 refine sx_seq (sx_region (xr 3 [(2, .p 2 0),(3, .p 3 0),(4, .p 4 0)] [bR4 4 35 false none 0 0 false none 0 0,bR4 3 35 s1 A1 l1 c1 t1 B1 m1 d1,bR4 2 35 s0 A0 l0 c0 t0 B0 m0 d0] ?_))
 refine xe (sx_next (sx_seq ?_))
 refine sx_draw 5 (by kernel_rfl) (by kernel_rfl) follows_mixed' ?_
 refine xf 2 [(4, .p 4 0),eR4 5 s0 A0 l0 c0 t0 B0 m0 d0,eR4 6 s1 A1 l1 c1 t1 B1 m1 d1] [bR4 4 35 false none 0 0 false none 0 0,bR4 3 35 s1 A1 l1 c1 t1 B1 m1 d1,bR4 2 35 s0 A0 l0 c0 t0 B0 m0 d0] ?_
 refine xd 47 [vR4 s1 A1 l1 c1 t1 B1 m1 d1] 7 shRat _ (fun w hE hΦ=>(NRNeg_any _ (q) _ hΦ.2).mono (fun _ _ h=>post_NRat h)) (fun xx=>?_)
 obtain ⟨s10,A10,l10,c10,t10,B10,m10,d10⟩:=xx
 refine xf 0 [(4, .p 4 0),eR4 5 s0 A0 l0 c0 t0 B0 m0 d0,eR4 7 s10 A10 l10 c10 t10 B10 m10 d10] [bR4 4 35 false none 0 0 false none 0 0,bR4 3 35 s1 A1 l1 c1 t1 B1 m1 d1,bR4 2 35 s0 A0 l0 c0 t0 B0 m0 d0] ?_
 refine xd 24 [vR4 s0 A0 l0 c0 t0 B0 m0 d0,vR4 s10 A10 l10 c10 t10 B10 m10 d10] 8 shRat _ (fun w hE hΦ=>(NRAdd_any _ _ (p) (-(q)) _ hΦ.1.1 hΦ.2 hp hq.neg).mono (fun _ _ h=>post_NRat (by rw [← Rat.sub_eq_add_neg] at h; exact h))) (fun xx=>?_)
 obtain ⟨s11,A11,l11,c11,t11,B11,m11,d11⟩:=xx
 refine xf 1 [(4, .p 4 0)] [bR4 4 35 s11 A11 l11 c11 t11 B11 m11 d11,bR4 4 35 false none 0 0 false none 0 0,bR4 3 35 s1 A1 l1 c1 t1 B1 m1 d1,bR4 2 35 s0 A0 l0 c0 t0 B0 m0 d0] ?_
 refine xz (xe (sx_next (sx_ret ?_)))
 refine sx_done (v:=.agg #[.bool s11, .slice A11 l11 c11, .bool t11, .slice B11 m11 d11]) (by kernel_rfl) (fun w' hE hΦ=>?_)
 exact ⟨_,rfl,hΦ.2,hE⟩
set_option maxRecDepth 100000 in
theorem NRDiv_any (a b:Value) (p q:Rat) (w:World) (ha:NRatIs w a p) (hb:NRatIs w b q) (hp:RFits p) (hq:RFits q) :
 Calls Tryz.prog 22 #[a,b] w (RetNRat w (p / q)):=by
 obtain ⟨s0,A0,l0,c0,t0,B0,m0,d0,rfl⟩:=ha.shp
 obtain ⟨s1,A1,l1,c1,t1,B1,m1,d1,rfl⟩:=hb.shp
 have S1:ml p.num.natAbs≤100000:=hp.1
 have S2:ml q.num.natAbs≤100000:=hq.1
 have S3:ml ((p.den:Nat):Int).natAbs≤100000:=mlc hp.2
 have S4:ml ((q.den:Nat):Int).natAbs≤100000:=mlc hq.2
 refine sx_enter (Φ:=fun w=>(NRatIs w (.agg #[.bool s0, .slice A0 l0 c0, .bool t0, .slice B0 m0 d0]) (p)∧NRatIs w (.agg #[.bool s1, .slice A1 l1 c1, .bool t1, .slice B1 m1 d1]) (q))) Tryz.func22 rfl (by kernel_rfl) (fun w' hf=>⟨ha.ext hf,hb.ext hf⟩) ?_
 refine sx_seq (sx_region (xr 3 [(2, .p 2 0),(3, .p 3 0),(4, .p 4 0)] [bR4 4 35 false none 0 0 false none 0 0,bR4 3 35 s1 A1 l1 c1 t1 B1 m1 d1,bR4 2 35 s0 A0 l0 c0 t0 B0 m0 d0] ?_))
 refine xe (sx_next (sx_seq (sx_seq (sx_region (xr 1 [(2, .p 2 0),(3, .p 3 0),(4, .p 4 0),eR4 5 s1 A1 l1 c1 t1 B1 m1 d1] [bR4 4 35 false none 0 0 false none 0 0,bR4 3 35 s1 A1 l1 c1 t1 B1 m1 d1,bR4 2 35 s0 A0 l0 c0 t0 B0 m0 d0] ?_)))))
 rcases sign3 ((q).num) with ⟨hz10,hs10⟩ | ⟨hz10,hs10⟩ | ⟨hz10,hs10⟩
 ·refine xc 20 [vR4 s1 A1 l1 c1 t1 B1 m1 d1] 6 (fun _:Unit=>.int .i64 (-1)) _ (fun w hE hΦ=>(NRSign_any _ _ _ hΦ.2).mono (fun _ _ h=>post_val h (by rw [hs10]))) (fun xx=>?_)
  refine xr 1 [(2, .p 2 0),(3, .p 3 0),(4, .p 4 0),(7, .v (.bool false))] [bR4 4 35 false none 0 0 false none 0 0,bR4 3 35 s1 A1 l1 c1 t1 B1 m1 d1,bR4 2 35 s0 A0 l0 c0 t0 B0 m0 d0] ?_
  refine xe (sx_next (xb (sx_skip (sx_next (sx_seq ?_)))))
  refine sx_draw 12 (by kernel_rfl) (by kernel_rfl) follows_mixed' ?_
  refine xf 3 [(2, .p 2 0),(3, .p 3 0),(4, .p 4 0),eI2 10 s0 A0 l0 c0,eR4 11 s1 A1 l1 c1 t1 B1 m1 d1] [bR4 4 35 false none 0 0 false none 0 0,bR4 3 35 s1 A1 l1 c1 t1 B1 m1 d1,bR4 2 35 s0 A0 l0 c0 t0 B0 m0 d0] ?_
  refine xd 79 [vR4 s1 A1 l1 c1 t1 B1 m1 d1] 12 shInt _ (fun w hE hΦ=>(Nden_any _ (q) _ hΦ.1.2).mono (fun _ _ h=>post_Num h)) (fun xx=>?_)
  obtain ⟨s11,A11,l11,c11⟩:=xx
  refine xf 0 [(2, .p 2 0),(3, .p 3 0),(4, .p 4 0),eI2 10 s0 A0 l0 c0,eI2 12 s11 A11 l11 c11] [bR4 4 35 false none 0 0 false none 0 0,bR4 3 35 s1 A1 l1 c1 t1 B1 m1 d1,bR4 2 35 s0 A0 l0 c0 t0 B0 m0 d0] ?_
  refine xd 68 [vI2 s0 A0 l0 c0,vI2 s11 A11 l11 c11] 13 shInt _ (fun w hE hΦ=>(NMul_any _ _ ((p).num) (((q).den:Int)) _ hΦ.1.1.1.num hΦ.2 (nfit S1 (by decide)) (nfit S4 (by decide))).mono (fun _ _ h=>post_Num h)) (fun xx=>?_)
  obtain ⟨s12,A12,l12,c12⟩:=xx
  refine xf 1 [(3, .p 3 0),(4, .p 4 0),eI2 13 s12 A12 l12 c12,eR4 14 s0 A0 l0 c0 t0 B0 m0 d0] [bR4 4 35 false none 0 0 false none 0 0,bR4 3 35 s1 A1 l1 c1 t1 B1 m1 d1,bR4 2 35 s0 A0 l0 c0 t0 B0 m0 d0] ?_
  refine xd 79 [vR4 s0 A0 l0 c0 t0 B0 m0 d0] 15 shInt _ (fun w hE hΦ=>(Nden_any _ (p) _ hΦ.1.1.1.1).mono (fun _ _ h=>post_Num h)) (fun xx=>?_)
  obtain ⟨s13,A13,l13,c13⟩:=xx
  refine xf 2 [(4, .p 4 0),eI2 13 s12 A12 l12 c12,eI2 15 s13 A13 l13 c13,eI2 17 s1 A1 l1 c1] [bR4 4 35 false none 0 0 false none 0 0,bR4 3 35 s1 A1 l1 c1 t1 B1 m1 d1,bR4 2 35 s0 A0 l0 c0 t0 B0 m0 d0] ?_
  refine xd 68 [vI2 s13 A13 l13 c13,vI2 s1 A1 l1 c1] 18 shInt _ (fun w hE hΦ=>(NMul_any _ _ (((p).den:Int)) ((q).num) _ hΦ.2 hΦ.1.1.1.1.2.num (nfit S3 (by decide)) (nfit S2 (by decide))).mono (fun _ _ h=>post_Num h)) (fun xx=>?_)
  obtain ⟨s14,A14,l14,c14⟩:=xx
  refine xf 0 [(4, .p 4 0),eI2 13 s12 A12 l12 c12,eI2 18 s14 A14 l14 c14] [bR4 4 35 false none 0 0 false none 0 0,bR4 3 35 s1 A1 l1 c1 t1 B1 m1 d1,bR4 2 35 s0 A0 l0 c0 t0 B0 m0 d0] ?_
  refine xd 71 [vI2 s12 A12 l12 c12,vI2 s14 A14 l14 c14] 19 shRat _ (fun w hE hΦ=>(NFrac_any _ _ (((p).num) * (((q).den:Int))) ((((p).den:Int)) * ((q).num)) _ hΦ.1.1.2 hΦ.2 (nfit (mlm S1 S4) (by decide)) (nfit (mlm S3 S2) (by decide)) (Int.mul_ne_zero (denI p) (by omega))).mono (fun _ _ h=>post_NRat (by rw [rat_div_frac] at h; exact h))) (fun xx=>?_)
  obtain ⟨s15,A15,l15,c15,t15,B15,m15,d15⟩:=xx
  refine xf 1 [(4, .p 4 0)] [bR4 4 35 s15 A15 l15 c15 t15 B15 m15 d15,bR4 4 35 false none 0 0 false none 0 0,bR4 3 35 s1 A1 l1 c1 t1 B1 m1 d1,bR4 2 35 s0 A0 l0 c0 t0 B0 m0 d0] ?_
  refine xz (xe (sx_next (sx_ret ?_)))
  refine sx_done (v:=.agg #[.bool s15, .slice A15 l15 c15, .bool t15, .slice B15 m15 d15]) (by kernel_rfl) (fun w' hE hΦ=>?_)
  exact ⟨_,rfl,hΦ.2,hE⟩
 ·refine xc 20 [vR4 s1 A1 l1 c1 t1 B1 m1 d1] 6 (fun _:Unit=>.int .i64 0) _ (fun w hE hΦ=>(NRSign_any _ _ _ hΦ.2).mono (fun _ _ h=>post_val h (by rw [hs10]))) (fun xx=>?_)
  refine xr 1 [(2, .p 2 0),(3, .p 3 0),(4, .p 4 0),(7, .v (.bool true))] [bR4 4 35 false none 0 0 false none 0 0,bR4 3 35 s1 A1 l1 c1 t1 B1 m1 d1,bR4 2 35 s0 A0 l0 c0 t0 B0 m0 d0] ?_
  refine xe (sx_next (xa (sx_seq (sx_region (xr 2 [(2, .p 2 0),(3, .p 3 0),(4, .p 4 0)] [bR4 4 35 false none 0 0 false none 0 0,bR4 3 35 s1 A1 l1 c1 t1 B1 m1 d1,bR4 2 35 s0 A0 l0 c0 t0 B0 m0 d0] ?_)))))
  refine xe (sx_next (sx_ret (sx_then_ret ?_)))
  refine sx_done (v:=.agg #[.bool false, .slice none 0 0, .bool false, .slice none 0 0]) (by kernel_rfl) (fun w' hE hΦ=>?_)
  exact ⟨_,rfl,by rw [Rat.num_eq_zero.1 hz10,Rat.div_def,Rat.inv_zero,Rat.mul_zero]; exact NRatIs.nil _,hE⟩
 ·refine xc 20 [vR4 s1 A1 l1 c1 t1 B1 m1 d1] 6 (fun _:Unit=>.int .i64 1) _ (fun w hE hΦ=>(NRSign_any _ _ _ hΦ.2).mono (fun _ _ h=>post_val h (by rw [hs10]))) (fun xx=>?_)
  refine xr 1 [(2, .p 2 0),(3, .p 3 0),(4, .p 4 0),(7, .v (.bool false))] [bR4 4 35 false none 0 0 false none 0 0,bR4 3 35 s1 A1 l1 c1 t1 B1 m1 d1,bR4 2 35 s0 A0 l0 c0 t0 B0 m0 d0] ?_
  refine xe (sx_next (xb (sx_skip (sx_next (sx_seq ?_)))))
  refine sx_draw 12 (by kernel_rfl) (by kernel_rfl) follows_mixed' ?_
  refine xf 3 [(2, .p 2 0),(3, .p 3 0),(4, .p 4 0),eI2 10 s0 A0 l0 c0,eR4 11 s1 A1 l1 c1 t1 B1 m1 d1] [bR4 4 35 false none 0 0 false none 0 0,bR4 3 35 s1 A1 l1 c1 t1 B1 m1 d1,bR4 2 35 s0 A0 l0 c0 t0 B0 m0 d0] ?_
  refine xd 79 [vR4 s1 A1 l1 c1 t1 B1 m1 d1] 12 shInt _ (fun w hE hΦ=>(Nden_any _ (q) _ hΦ.1.2).mono (fun _ _ h=>post_Num h)) (fun xx=>?_)
  obtain ⟨s16,A16,l16,c16⟩:=xx
  refine xf 0 [(2, .p 2 0),(3, .p 3 0),(4, .p 4 0),eI2 10 s0 A0 l0 c0,eI2 12 s16 A16 l16 c16] [bR4 4 35 false none 0 0 false none 0 0,bR4 3 35 s1 A1 l1 c1 t1 B1 m1 d1,bR4 2 35 s0 A0 l0 c0 t0 B0 m0 d0] ?_
  refine xd 68 [vI2 s0 A0 l0 c0,vI2 s16 A16 l16 c16] 13 shInt _ (fun w hE hΦ=>(NMul_any _ _ ((p).num) (((q).den:Int)) _ hΦ.1.1.1.num hΦ.2 (nfit S1 (by decide)) (nfit S4 (by decide))).mono (fun _ _ h=>post_Num h)) (fun xx=>?_)
  obtain ⟨s17,A17,l17,c17⟩:=xx
  refine xf 1 [(3, .p 3 0),(4, .p 4 0),eI2 13 s17 A17 l17 c17,eR4 14 s0 A0 l0 c0 t0 B0 m0 d0] [bR4 4 35 false none 0 0 false none 0 0,bR4 3 35 s1 A1 l1 c1 t1 B1 m1 d1,bR4 2 35 s0 A0 l0 c0 t0 B0 m0 d0] ?_
  refine xd 79 [vR4 s0 A0 l0 c0 t0 B0 m0 d0] 15 shInt _ (fun w hE hΦ=>(Nden_any _ (p) _ hΦ.1.1.1.1).mono (fun _ _ h=>post_Num h)) (fun xx=>?_)
  obtain ⟨s18,A18,l18,c18⟩:=xx
  refine xf 2 [(4, .p 4 0),eI2 13 s17 A17 l17 c17,eI2 15 s18 A18 l18 c18,eI2 17 s1 A1 l1 c1] [bR4 4 35 false none 0 0 false none 0 0,bR4 3 35 s1 A1 l1 c1 t1 B1 m1 d1,bR4 2 35 s0 A0 l0 c0 t0 B0 m0 d0] ?_
  refine xd 68 [vI2 s18 A18 l18 c18,vI2 s1 A1 l1 c1] 18 shInt _ (fun w hE hΦ=>(NMul_any _ _ (((p).den:Int)) ((q).num) _ hΦ.2 hΦ.1.1.1.1.2.num (nfit S3 (by decide)) (nfit S2 (by decide))).mono (fun _ _ h=>post_Num h)) (fun xx=>?_)
  obtain ⟨s19,A19,l19,c19⟩:=xx
  refine xf 0 [(4, .p 4 0),eI2 13 s17 A17 l17 c17,eI2 18 s19 A19 l19 c19] [bR4 4 35 false none 0 0 false none 0 0,bR4 3 35 s1 A1 l1 c1 t1 B1 m1 d1,bR4 2 35 s0 A0 l0 c0 t0 B0 m0 d0] ?_
  refine xd 71 [vI2 s17 A17 l17 c17,vI2 s19 A19 l19 c19] 19 shRat _ (fun w hE hΦ=>(NFrac_any _ _ (((p).num) * (((q).den:Int))) ((((p).den:Int)) * ((q).num)) _ hΦ.1.1.2 hΦ.2 (nfit (mlm S1 S4) (by decide)) (nfit (mlm S3 S2) (by decide)) (Int.mul_ne_zero (denI p) (by omega))).mono (fun _ _ h=>post_NRat (by rw [rat_div_frac] at h; exact h))) (fun xx=>?_)
  obtain ⟨s20,A20,l20,c20,t20,B20,m20,d20⟩:=xx
  refine xf 1 [(4, .p 4 0)] [bR4 4 35 s20 A20 l20 c20 t20 B20 m20 d20,bR4 4 35 false none 0 0 false none 0 0,bR4 3 35 s1 A1 l1 c1 t1 B1 m1 d1,bR4 2 35 s0 A0 l0 c0 t0 B0 m0 d0] ?_
  refine xz (xe (sx_next (sx_ret ?_)))
  refine sx_done (v:=.agg #[.bool s20, .slice A20 l20 c20, .bool t20, .slice B20 m20 d20]) (by kernel_rfl) (fun w' hE hΦ=>?_)
  exact ⟨_,rfl,hΦ.2,hE⟩
set_option maxRecDepth 100000 in
theorem NRCmp_any (a b:Value) (p q:Rat) (w:World) (ha:NRatIs w a p) (hb:NRatIs w b q) (hp:RFits p) (hq:RFits q) :
 Calls Tryz.prog 48 #[a,b] w (RetV w (.int .i64 (p - q).num.sign)):=by
 obtain ⟨s0,A0,l0,c0,t0,B0,m0,d0,rfl⟩:=ha.shp
 obtain ⟨s1,A1,l1,c1,t1,B1,m1,d1,rfl⟩:=hb.shp
 refine sx_enter (Φ:=fun w=>(NRatIs w (.agg #[.bool s0, .slice A0 l0 c0, .bool t0, .slice B0 m0 d0]) (p)∧NRatIs w (.agg #[.bool s1, .slice A1 l1 c1, .bool t1, .slice B1 m1 d1]) (q))) Tryz.func48 rfl (by kernel_rfl) (fun w' hf=>⟨ha.ext hf,hb.ext hf⟩) ?_
 refine sx_seq (sx_region (xr 3 [(2, .p 2 0),(3, .p 3 0),(4, .v (.int .i64 0))] [bR4 3 35 s1 A1 l1 c1 t1 B1 m1 d1,bR4 2 35 s0 A0 l0 c0 t0 B0 m0 d0] ?_))
 refine xe (sx_next (sx_seq (sx_region (xr 2 [(4, .v (.int .i64 0)),eR4 5 s0 A0 l0 c0 t0 B0 m0 d0,eR4 6 s1 A1 l1 c1 t1 B1 m1 d1] [] ?_))))
 refine xc 26 [vR4 s0 A0 l0 c0 t0 B0 m0 d0,vR4 s1 A1 l1 c1 t1 B1 m1 d1] 7 shRat _ (fun w hE hΦ=>(NRSub_any _ _ (p) (q) _ hΦ.1 hΦ.2 hp hq).mono (fun _ _ h=>post_NRat h)) (fun xx=>?_)
 obtain ⟨s10,A10,l10,c10,t10,B10,m10,d10⟩:=xx
 refine xr 0 [(4, .v (.int .i64 0)),eR4 7 s10 A10 l10 c10 t10 B10 m10 d10] [] ?_
 refine xc 20 [vR4 s10 A10 l10 c10 t10 B10 m10 d10] 8 (fun _:Unit=>.int .i64 (p - q).num.sign) _ (fun w hE hΦ=>(NRSign_any _ (p - q) _ hΦ.2).mono (fun _ _ h=>post_val h rfl)) (fun xx=>?_)
 refine xr 1 [(4, .v (.int .i64 (p - q).num.sign))] [] ?_
 refine xe (sx_next (sx_ret ?_))
 refine sx_done (v:=.int .i64 (p - q).num.sign) (by kernel_rfl) (fun w' hE hΦ=>?_)
 exact ⟨rfl,hE⟩
end Go.Proofs.YtibipjlohahekaaGreatDoor

namespace Go.Proofs.YtibipjlohahekaaGreatDoor
open Go.RowKit
theorem str_cat (a b:List UInt8):(⟨a.toArray⟩:ByteArray) ++ ⟨b.toArray⟩=⟨(a ++ b).toArray⟩:=by
 apply ByteArray.ext
 simp
theorem dec_len {n:Nat} (hn:ml n≤65536):(Lib.decDigits n).length≤655360:=by
 rcases Nat.eq_zero_or_pos n with e | e
 ·rw [e,Lib.decDigits_one (by omega)]; simp
 ·have h1:n < 10 ^ (10 * ml n):=by
   refine Nat.lt_of_lt_of_le (lt_ml n) ?_
   rw [Nat.pow_mul]
   exact Nat.pow_le_pow_left (by rw [W32_eq]; decide) _
  have:=topText_le _ _ h1
  rw [topText_pos e] at this
  omega
set_option maxHeartbeats 2000000 in
set_option maxRecDepth 100000 in
theorem NText_neg_one (a:Value) (q:Rat) (w:World) (ha:NRatIs w a q) (h1:ml q.num.natAbs≤65536) (_:ml q.den≤65536) (hs:q.num < 0) (hd:q.den=1) :
 Calls Tryz.prog 21 #[a] w (RetV w (.string ⟨(ratText q).toArray⟩)):=by
 obtain ⟨s1,A1,l1,c1,t1,B1,m1,d1,rfl⟩:=ha.shp
 have F2:Hid (NRatIs w (.agg #[.bool s1, .slice A1 l1 c1, .bool t1, .slice B1 m1 d1]) (q)):=ha
 clear ha
 obtain rfl:s1=true:=F2.out.num.sneg hs
 have H1:Hid (ml q.num.natAbs≤65536):=h1
 obtain rfl:m1=0:=F2.out.den.len0 (denF_one hd)
 have HT:Hid (ratText q=45 :: Lib.decDigits q.num.natAbs):=by unfold Hid ratText Lib.itoa; rw [if_pos hd,if_pos hs]
 obtain ⟨rt,ert⟩:∃ rt,ratText q=rt:=⟨_,rfl⟩
 rw [ert] at HT ⊢
 clear hs hd h1 ert
 go_enter Tryz.func21,Tryz.ntmps21
 go_wp2_with fail
 generalize hwb:World.alloc w _=w4
 obtain ⟨b_B3,hE0⟩:=blocks1 hwb
 clear hwb
 have B3:=zh b_B3
 clear b_B3
 replace F2:=zh (F2.out.ext hE0)
 have HE:=zh hE0
 clear hE0
 have F5:Hid (NumIs w4 (.agg #[.bool true, .slice A1 l1 c1]) ((q).num)):=F2.out.num
 have F8:Hid (MagIs w4 (.slice A1 l1 c1) (((q).num).natAbs)):=F5.out.mag
 refine (Digits_any true A1 l1 c1 _ _ F8.out (by first | exact H1.out | exact H2.out)).mono ?_
 obtain ⟨t7,et7⟩:∃ t,Lib.decDigits (((q).num).natAbs)=t:=⟨_,rfl⟩
 rw [et7]; have hlen7:t7.length≤655360:=by rw [← et7]; exact dec_len (by first | exact H1.out | exact H2.out)
 have Ht7:=zh et7; clear et7
 rintro e w6 ⟨rfl,hF⟩
 replace B3:=zh (B3.out.ext hF)
 replace F2:=zh (F2.out.ext hF)
 replace F5:=zh (F5.out.ext hF)
 replace F8:=zh (F8.out.ext hF)
 replace HE:=zh (HE.out.trans hF)
 clear hF
 obtain ⟨c9_0,c9_1,c9_2,c9_3,f9_0,f9_1,f9_2,f9_3⟩:=B3.out.cell4
 go_wp2
 clear c9_0 c9_1 c9_2 c9_3 f9_0 f9_1 f9_2 f9_3
 go_ret
 refine ⟨?_,HE.out⟩
 rw [HT.out,Ht7.out]
 show Ending.returned (.string ((⟨#[45]⟩:ByteArray) ++ ⟨t7.toArray⟩))=_
 simp only [str_cat]
 rfl
set_option maxHeartbeats 2000000 in
set_option maxRecDepth 100000 in
theorem NText_neg_big (a:Value) (q:Rat) (w:World) (ha:NRatIs w a q) (h1:ml q.num.natAbs≤65536) (h2:ml q.den≤65536) (hs:q.num < 0) (hd:¬ q.den=1) :
 Calls Tryz.prog 21 #[a] w (RetV w (.string ⟨(ratText q).toArray⟩)):=by
 obtain ⟨s1,A1,l1,c1,t1,B1,m1,d1,rfl⟩:=ha.shp
 have F2:Hid (NRatIs w (.agg #[.bool s1, .slice A1 l1 c1, .bool t1, .slice B1 m1 d1]) (q)):=ha
 clear ha
 obtain rfl:s1=true:=F2.out.num.sneg hs
 have H1:Hid (ml q.num.natAbs≤65536):=h1
 have hl:0 < m1:=F2.out.den.lenp (denF_ne hd)
 have hlb:decide ((0:Int) < (m1:Int))=true:=by rw [decide_eq_true_eq]; omega
 have H2:Hid (ml (denF q).natAbs≤65536):=by unfold Hid; rw [denF_big hd,Int.natAbs_natCast]; exact h2
 have HT:Hid (ratText q=(45 :: Lib.decDigits q.num.natAbs) ++ (47 :: Lib.decDigits (denF q).natAbs)):=by
  unfold Hid ratText
  rw [if_neg hd,denF_big hd,Int.natAbs_natCast,Lib.itoa_nonneg]
  unfold Lib.itoa
  rw [if_pos (show q.num < 0 by omega)]
  simp
 obtain ⟨rt,ert⟩:∃ rt,ratText q=rt:=⟨_,rfl⟩
 rw [ert] at HT ⊢
 clear hs hd h1 h2 ert
 go_enter Tryz.func21,Tryz.ntmps21
 go_wp2_with fail
 generalize hwb:World.alloc w _=w4
 obtain ⟨b_B3,hE0⟩:=blocks1 hwb
 clear hwb
 have B3:=zh b_B3
 clear b_B3
 replace F2:=zh (F2.out.ext hE0)
 have HE:=zh hE0
 clear hE0
 have F5:Hid (NumIs w4 (.agg #[.bool true, .slice A1 l1 c1]) ((q).num)):=F2.out.num
 have F8:Hid (MagIs w4 (.slice A1 l1 c1) (((q).num).natAbs)):=F5.out.mag
 refine (Digits_any true A1 l1 c1 _ _ F8.out (by first | exact H1.out | exact H2.out)).mono ?_
 obtain ⟨t7,et7⟩:∃ t,Lib.decDigits (((q).num).natAbs)=t:=⟨_,rfl⟩
 rw [et7]; have hlen7:t7.length≤655360:=by rw [← et7]; exact dec_len (by first | exact H1.out | exact H2.out)
 have Ht7:=zh et7; clear et7
 rintro e w6 ⟨rfl,hF⟩
 replace B3:=zh (B3.out.ext hF)
 replace F2:=zh (F2.out.ext hF)
 replace F5:=zh (F5.out.ext hF)
 replace F8:=zh (F8.out.ext hF)
 replace HE:=zh (HE.out.trans hF)
 clear hF
 obtain ⟨c9_0,c9_1,c9_2,c9_3,f9_0,f9_1,f9_2,f9_3⟩:=B3.out.cell4
 go_wp2_with fail
 clear c9_0 c9_1 c9_2 c9_3 f9_0 f9_1 f9_2 f9_3
 have F10:Hid (NumIs w6 (.agg #[.bool t1, .slice B1 m1 d1]) (denF (q))):=F2.out.den
 have F13:Hid (MagIs w6 (.slice B1 m1 d1) ((denF (q)).natAbs)):=F10.out.mag
 refine (Digits_any t1 B1 m1 d1 _ _ F13.out (by first | exact H1.out | exact H2.out)).mono ?_
 obtain ⟨t12,et12⟩:∃ t,Lib.decDigits ((denF (q)).natAbs)=t:=⟨_,rfl⟩
 rw [et12]; have hlen12:t12.length≤655360:=by rw [← et12]; exact dec_len (by first | exact H1.out | exact H2.out)
 have Ht12:=zh et12; clear et12
 rintro e w11 ⟨rfl,hF⟩
 replace B3:=zh (B3.out.ext hF)
 replace F2:=zh (F2.out.ext hF)
 replace F5:=zh (F5.out.ext hF)
 replace F8:=zh (F8.out.ext hF)
 replace F10:=zh (F10.out.ext hF)
 replace F13:=zh (F13.out.ext hF)
 replace HE:=zh (HE.out.trans hF)
 clear hF
 obtain ⟨c14_0,c14_1,c14_2,c14_3,f14_0,f14_1,f14_2,f14_3⟩:=B3.out.cell4
 go_wp2
 clear c14_0 c14_1 c14_2 c14_3 f14_0 f14_1 f14_2 f14_3
 go_ret
 refine ⟨?_,HE.out⟩
 rw [HT.out,Ht7.out,Ht12.out]
 show Ending.returned (.string (((⟨#[45]⟩:ByteArray) ++ ⟨t7.toArray⟩) ++ ((⟨#[47]⟩:ByteArray) ++ ⟨t12.toArray⟩)))=_
 simp only [str_cat]
 rfl
set_option maxHeartbeats 2000000 in
set_option maxRecDepth 100000 in
theorem NText_pos_one (a:Value) (q:Rat) (w:World) (ha:NRatIs w a q) (h1:ml q.num.natAbs≤65536) (_:ml q.den≤65536) (hs:0≤q.num) (hd:q.den=1) :
 Calls Tryz.prog 21 #[a] w (RetV w (.string ⟨(ratText q).toArray⟩)):=by
 obtain ⟨s1,A1,l1,c1,t1,B1,m1,d1,rfl⟩:=ha.shp
 have F2:Hid (NRatIs w (.agg #[.bool s1, .slice A1 l1 c1, .bool t1, .slice B1 m1 d1]) (q)):=ha
 clear ha
 obtain rfl:s1=false:=F2.out.num.spos hs
 have H1:Hid (ml q.num.natAbs≤65536):=h1
 obtain rfl:m1=0:=F2.out.den.len0 (denF_one hd)
 have HT:Hid (ratText q=Lib.decDigits q.num.natAbs):=by unfold Hid ratText Lib.itoa; rw [if_pos hd,if_neg (show ¬ q.num < 0 by omega)]; rw [show q.num.toNat=q.num.natAbs by omega]
 obtain ⟨rt,ert⟩:∃ rt,ratText q=rt:=⟨_,rfl⟩
 rw [ert] at HT ⊢
 clear hs hd h1 ert
 go_enter Tryz.func21,Tryz.ntmps21
 go_wp2_with fail
 generalize hwb:World.alloc w _=w4
 obtain ⟨b_B3,hE0⟩:=blocks1 hwb
 clear hwb
 have B3:=zh b_B3
 clear b_B3
 replace F2:=zh (F2.out.ext hE0)
 have HE:=zh hE0
 clear hE0
 have F5:Hid (NumIs w4 (.agg #[.bool false, .slice A1 l1 c1]) ((q).num)):=F2.out.num
 have F8:Hid (MagIs w4 (.slice A1 l1 c1) (((q).num).natAbs)):=F5.out.mag
 refine (Digits_any false A1 l1 c1 _ _ F8.out (by first | exact H1.out | exact H2.out)).mono ?_
 obtain ⟨t7,et7⟩:∃ t,Lib.decDigits (((q).num).natAbs)=t:=⟨_,rfl⟩
 rw [et7]; have hlen7:t7.length≤655360:=by rw [← et7]; exact dec_len (by first | exact H1.out | exact H2.out)
 have Ht7:=zh et7; clear et7
 rintro e w6 ⟨rfl,hF⟩
 replace B3:=zh (B3.out.ext hF)
 replace F2:=zh (F2.out.ext hF)
 replace F5:=zh (F5.out.ext hF)
 replace F8:=zh (F8.out.ext hF)
 replace HE:=zh (HE.out.trans hF)
 clear hF
 obtain ⟨c9_0,c9_1,c9_2,c9_3,f9_0,f9_1,f9_2,f9_3⟩:=B3.out.cell4
 go_wp2
 clear c9_0 c9_1 c9_2 c9_3 f9_0 f9_1 f9_2 f9_3
 go_ret
 refine ⟨?_,HE.out⟩
 rw [HT.out,Ht7.out]
 show Ending.returned (.string (⟨t7.toArray⟩:ByteArray))=_
 rfl
set_option maxHeartbeats 2000000 in
set_option maxRecDepth 100000 in
theorem NText_pos_big (a:Value) (q:Rat) (w:World) (ha:NRatIs w a q) (h1:ml q.num.natAbs≤65536) (h2:ml q.den≤65536) (hs:0≤q.num) (hd:¬ q.den=1) :
 Calls Tryz.prog 21 #[a] w (RetV w (.string ⟨(ratText q).toArray⟩)):=by
 obtain ⟨s1,A1,l1,c1,t1,B1,m1,d1,rfl⟩:=ha.shp
 have F2:Hid (NRatIs w (.agg #[.bool s1, .slice A1 l1 c1, .bool t1, .slice B1 m1 d1]) (q)):=ha
 clear ha
 obtain rfl:s1=false:=F2.out.num.spos hs
 have H1:Hid (ml q.num.natAbs≤65536):=h1
 have hl:0 < m1:=F2.out.den.lenp (denF_ne hd)
 have hlb:decide ((0:Int) < (m1:Int))=true:=by rw [decide_eq_true_eq]; omega
 have H2:Hid (ml (denF q).natAbs≤65536):=by unfold Hid; rw [denF_big hd,Int.natAbs_natCast]; exact h2
 have HT:Hid (ratText q=(Lib.decDigits q.num.natAbs) ++ (47 :: Lib.decDigits (denF q).natAbs)):=by
  unfold Hid ratText
  rw [if_neg hd,denF_big hd,Int.natAbs_natCast,Lib.itoa_nonneg]
  unfold Lib.itoa
  rw [if_neg (show ¬ q.num < 0 by omega)]
  rw [show q.num.toNat=q.num.natAbs by omega]
  simp
 obtain ⟨rt,ert⟩:∃ rt,ratText q=rt:=⟨_,rfl⟩
 rw [ert] at HT ⊢
 clear hs hd h1 h2 ert
 go_enter Tryz.func21,Tryz.ntmps21
 go_wp2_with fail
 generalize hwb:World.alloc w _=w4
 obtain ⟨b_B3,hE0⟩:=blocks1 hwb
 clear hwb
 have B3:=zh b_B3
 clear b_B3
 replace F2:=zh (F2.out.ext hE0)
 have HE:=zh hE0
 clear hE0
 have F5:Hid (NumIs w4 (.agg #[.bool false, .slice A1 l1 c1]) ((q).num)):=F2.out.num
 have F8:Hid (MagIs w4 (.slice A1 l1 c1) (((q).num).natAbs)):=F5.out.mag
 refine (Digits_any false A1 l1 c1 _ _ F8.out (by first | exact H1.out | exact H2.out)).mono ?_
 obtain ⟨t7,et7⟩:∃ t,Lib.decDigits (((q).num).natAbs)=t:=⟨_,rfl⟩
 rw [et7]; have hlen7:t7.length≤655360:=by rw [← et7]; exact dec_len (by first | exact H1.out | exact H2.out)
 have Ht7:=zh et7; clear et7
 rintro e w6 ⟨rfl,hF⟩
 replace B3:=zh (B3.out.ext hF)
 replace F2:=zh (F2.out.ext hF)
 replace F5:=zh (F5.out.ext hF)
 replace F8:=zh (F8.out.ext hF)
 replace HE:=zh (HE.out.trans hF)
 clear hF
 obtain ⟨c9_0,c9_1,c9_2,c9_3,f9_0,f9_1,f9_2,f9_3⟩:=B3.out.cell4
 go_wp2_with fail
 clear c9_0 c9_1 c9_2 c9_3 f9_0 f9_1 f9_2 f9_3
 have F10:Hid (NumIs w6 (.agg #[.bool t1, .slice B1 m1 d1]) (denF (q))):=F2.out.den
 have F13:Hid (MagIs w6 (.slice B1 m1 d1) ((denF (q)).natAbs)):=F10.out.mag
 refine (Digits_any t1 B1 m1 d1 _ _ F13.out (by first | exact H1.out | exact H2.out)).mono ?_
 obtain ⟨t12,et12⟩:∃ t,Lib.decDigits ((denF (q)).natAbs)=t:=⟨_,rfl⟩
 rw [et12]; have hlen12:t12.length≤655360:=by rw [← et12]; exact dec_len (by first | exact H1.out | exact H2.out)
 have Ht12:=zh et12; clear et12
 rintro e w11 ⟨rfl,hF⟩
 replace B3:=zh (B3.out.ext hF)
 replace F2:=zh (F2.out.ext hF)
 replace F5:=zh (F5.out.ext hF)
 replace F8:=zh (F8.out.ext hF)
 replace F10:=zh (F10.out.ext hF)
 replace F13:=zh (F13.out.ext hF)
 replace HE:=zh (HE.out.trans hF)
 clear hF
 obtain ⟨c14_0,c14_1,c14_2,c14_3,f14_0,f14_1,f14_2,f14_3⟩:=B3.out.cell4
 go_wp2
 clear c14_0 c14_1 c14_2 c14_3 f14_0 f14_1 f14_2 f14_3
 go_ret
 refine ⟨?_,HE.out⟩
 rw [HT.out,Ht7.out,Ht12.out]
 show Ending.returned (.string ((⟨t7.toArray⟩:ByteArray) ++ ((⟨#[47]⟩:ByteArray) ++ ⟨t12.toArray⟩)))=_
 simp only [str_cat]
 rfl
theorem NText_all (a:Value) (q:Rat) (w:World) (ha:NRatIs w a q) (h1:ml q.num.natAbs≤65536) (h2:ml q.den≤65536):Calls Tryz.prog 21 #[a] w (RetV w (.string ⟨(ratText q).toArray⟩)):=by
 by_cases hs:q.num < 0
 ·by_cases hd:q.den=1
  ·exact NText_neg_one a q w ha h1 h2 hs hd
  ·exact NText_neg_big a q w ha h1 h2 hs hd
 ·by_cases hd:q.den=1
  ·exact NText_pos_one a q w ha h1 h2 (by omega) hd
  ·exact NText_pos_big a q w ha h1 h2 (by omega) hd
end Go.Proofs.YtibipjlohahekaaGreatDoor

namespace Go.Proofs.YtibipjlohahekaaGreatDoor
open Go.RowKit
def RetFD (w:World) (l:List UInt8) (e:Ending) (w':World):Prop :=
 ∃ v b,e=.returned (.tuple #[v, .bool b])∧b=(l.all isDig && !l.isEmpty)∧NumIs w' v (if l.all isDig then (decVal l:Int) else 0)∧Ext w w'
theorem fin_NumB {fn:Func} {t t':Tmp} {tmps:Array Value} {w w':World} {r:Nat} {x y:Value} {b:Bool} {l:List UInt8} (hres:fn.results=#[.cell t 33, .tmp t']) (ht:tmps[t]? = some (.pointer (some ⟨r,0,none⟩))) (ht':tmps[t']? = some (.bool b))
 (hB:Blk 33 w' r #[x,y]) (hI:NumIs w' (.agg #[x,y]) (if l.all isDig then (decVal l:Int) else 0)) (hb:b=(l.all isDig && !l.isEmpty)) (hE:Ext w w'):bodyPost Tryz.prog fn (RetFD w l) .ret ⟨tmps,[]⟩ w':=by
 obtain ⟨h0,h1,_⟩:=hB.cell2
 exact bodyPost_ret (v:=.tuple #[.agg #[x,y], .bool b]) (by simp [results,hres,ht,ht',go_sem,h0,h1]) rfl ⟨_,_,rfl,hb,hI,hE⟩
theorem MagIs.one_pos {w:World} {b r:Nat} (h:Own .u32 114 w b [r]) (hr:r < W32) (h0:0 < r):MagIs w (.slice (some ⟨b,0,none⟩) 1 1) r :=
 ⟨_,[r],1,rfl,Nat.le_refl _,h.shows0,Dig.cons hr Dig.nil,fun k hk=>by simp at hk; subst hk; simp; omega,by simp⟩
theorem ml_ten {n k:Nat} (h:n < 10 ^ k):ml n≤k:=ml_le_iff.2 (Nat.lt_of_lt_of_le h (Nat.pow_le_pow_left (by rw [W32_eq]; omega) _))
theorem toList_empty (s:ByteArray):s.toList.isEmpty=(bytes s).isEmpty:=by
 rw [Lib.toList_data]
def FdIn (l:List UInt8) (i k v f:Nat):Prop:=k≤9∧i + k≤l.length∧(l.take (i + k)).all isDig=true∧v=decVal ((l.drop i).take k)∧f=10 ^ k
theorem FdIn.bounds {l:List UInt8} {i k v f:Nat} (h:FdIn l i k v f):v < 10 ^ k∧v < 1000000000∧f≤1000000000∧0 < f:=by
 obtain ⟨h1,h2,h3,h4,h5⟩:=h
 have hall:((l.drop i).take k).all isDig=true:=by
  rw [List.all_eq_true] at h3 ⊢
  intro x hx
  refine h3 x ?_
  rw [List.take_add]
  exact List.mem_append_right _ hx
 have:=decVal_lt _ hall
 rw [List.length_take,List.length_drop,Nat.min_eq_left (by omega),← h4] at this
 have h6:10 ^ k≤10 ^ 9:=Nat.pow_le_pow_right (by omega) h1
 have h7:0 < 10 ^ k:=Nat.pow_pos (by omega)
 exact ⟨this,by omega,by omega,by omega⟩
theorem FdIn.step {l:List UInt8} {i k v f:Nat} {c:UInt8} (h:FdIn l i k v f) (hk:k < 9) (hlt:i + k < l.length) (hc:l[i + k]=c) (hd:isDig c=true):FdIn l i (k + 1) (v * 10 + (c.toNat - 48)) (f * 10):=by
 obtain ⟨h1,h2,h3,h4,h5⟩:=h
 refine ⟨by omega,by omega,?_,?_,by rw [h5,Nat.pow_succ]⟩
 ·rw [← Nat.add_assoc,List.take_succ_eq_append_getElem hlt,List.all_append,h3,hc]
  simp [hd]
 ·rw [List.take_succ_eq_append_getElem (by simp; omega),decVal_snoc,← h4,List.getElem_drop,hc]
  omega
theorem FdIn.done {l:List UInt8} {i k v f:Nat} (h:FdIn l i k v f):decVal (l.take i) * f + v=decVal (l.take (i + k)):=by
 obtain ⟨h1,h2,h3,h4,h5⟩:=h
 have:l.take (i + k)=l.take i ++ (l.drop i).take k:=by rw [List.take_add]
 rw [this,decVal_append,List.length_take,List.length_drop,Nat.min_eq_left (by omega),← h4,h5]
theorem not_all {l:List UInt8} {i:Nat} (h:i < l.length) (hd:isDig l[i]=false):l.all isDig=false:=by
 rw [List.all_eq_false]
 exact ⟨l[i],List.getElem_mem h,by simp [hd]⟩
set_option maxHeartbeats 2000000 in
set_option maxRecDepth 100000 in
theorem NFromDigits_any (s:ByteArray) (w:World) (hs:s.size≤65536):Calls Tryz.prog 65 #[.string s] w (RetFD w (bytes s)):=by
 have hbl:=zh (bytes_length s)
 go_enter Tryz.func65,Tryz.ntmps65
 go_wp2_with fail
 generalize hwb:World.alloc w _=w1
 obtain ⟨b0,hE0⟩:=blocks1 hwb
 have HB:=zh b0
 have HE:=zh hE0
 clear hwb b0 hE0
 go_loopw [4,5,6,7,8] (fun mv iv _ _ _ wr=>∃ (i:Nat) (A:Option Addr) (ln c:Nat),i≤s.size∧iv=.int .i64 (i:Int)∧mv=.slice A ln c∧Hid (((bytes s).take i).all isDig=true)∧Hid (MagIs wr (.slice A ln c) (decVal ((bytes s).take i)))∧Hid (Ext w1 wr)) (fun _ iv _ _ _ _=>s.size - (intOf iv).toNat)
 case atStart=>exact ⟨0,none,0,0,by omega,rfl,rfl,by unfold Hid; simp,by unfold Hid; simpa [decVal] using MagIs.zero _,Fr.refl _ _⟩
 case round =>
  obtain ⟨i,A,ln,c,hi,rfl,rfl,hall,hM,hF⟩:=hrel
  by_cases hlt:i < s.size
  ·go_wp2
   go_loop [5,6,7,8] (fun iv vv fv kv=>∃ (k v f:Nat),k≤9∧i + k≤s.size∧v < 1000000000∧f≤1000000000∧0 < f∧iv=.int .i64 ((i + k:Nat):Int)∧vv=.int .u32 (v:Int)∧fv=.int .u32 (f:Int)∧kv=.int .i64 (k:Int)∧Hid (FdIn (bytes s) i k v f)) (fun _ _ _ kv=>9 - (intOf kv).toNat)
   case atStart=>exact ⟨0,0,1,by omega,by omega,by omega,by omega,by omega,rfl,rfl,rfl,rfl,⟨by omega,by rw [hbl.out]; omega,hall.out,by simp [decVal],rfl⟩⟩
   case round =>
    obtain ⟨k,v,f,hk,hik,hv,hf,hf0,rfl,rfl,rfl,rfl,hI⟩:=hrel
    by_cases hgo:k < 9∧i + k < s.size
    ·obtain ⟨g1,g2⟩:=hgo
     have gd1:decide ((k:Int) < 9)=true:=by rw [decide_eq_true_eq]; omega
     have hbk:(bytes s)[i + k]'(by rw [hbl.out]; exact g2)=s[i + k]:=bytes_at s g2
     by_cases hd:isDig s[i + k]=true
     ·have HI2:=zh (hI.out.step g1 (by rw [hbl.out]; exact g2) hbk hd)
      have hb:=isDig_bounds hd
      have hb2:=HI2.out.bounds
      have e1:IntKind.u8.wrap ((s[i + k].toNat:Int) - 48)=((s[i + k].toNat - 48:Nat):Int):=by rw [IntKind.wrap_u8]; omega
      have e1':((s[i + k].toNat:Int) - 48) % 256=((s[i + k].toNat - 48:Nat):Int):=by omega
      obtain ⟨d,ed⟩:∃ d,s[i + k].toNat - 48=d:=⟨_,rfl⟩
      have hd9:d≤9:=by omega
      rw [ed] at HI2 e1 e1' hb2
      have hv2:=hb2.2.1
      have hf2:=hb2.2.2.1
      have x1:(i:Int) + (k:Int) < (s.size:Int):=by omega
      have x2:(0:Int)≤(i:Int) + (k:Int):=by omega
      have x3:(48:Int)≤(s[i + k].toNat:Int):=by omega
      have x4:¬ ((s[i + k].toNat:Int) < 48):=by omega
      have x5:¬ ((57:Int) < (s[i + k].toNat:Int)):=by omega
      have x6:decide ((s[i + k].toNat:Int) < 48)=false:=by rw [decide_eq_false_iff_not]; omega
      have x7:decide ((57:Int) < (s[i + k].toNat:Int))=false:=by rw [decide_eq_false_iff_not]; omega
      have x8:((i:Int) + (k:Int)).toNat=i + k:=by omega
      clear hb2 hbk ed hd
      go_wp2
      go_round
      case rel=>exact ⟨k + 1,v * 10 + d,f * 10,by omega,by omega,hv2,hf2,by omega,by go_num,by go_num,by go_num,by go_num,HI2⟩
      case measure=>simp [intOf]; omega
     ·have hno:Hid ((bytes s).all isDig=false):=not_all (by rw [hbl.out]; exact g2) (by rw [hbk]; simpa using hd)
      have HBx:=zh (HB.out.ext hF.out)
      have HEx:=zh (HE.out.trans hF.out)
      obtain ⟨z0,z1,z2,z3⟩:=HBx.out.cell2
      have x1:(i:Int) + (k:Int) < (s.size:Int):=by omega
      have x2:(0:Int)≤(i:Int) + (k:Int):=by omega
      have x8:((i:Int) + (k:Int)).toNat=i + k:=by omega
      have hFin:Hid (∀ tmps:Array Value,tmps[2]? = some (.pointer (some ⟨w.heap.size,0,none⟩))→tmps[3]? = some (.bool false)→bodyPost Tryz.prog Tryz.f65 (RetFD w (bytes s)) .ret ⟨tmps,[]⟩ ((wr.setCell ⟨w.heap.size,0,none⟩ (.bool false)).setCell ⟨w.heap.size,1,none⟩ (.slice none 0 0))):=by
       intro tmps h2 h3
       have hFs:Fr (fun i=>i=w.heap.size) wr ((wr.setCell ⟨w.heap.size,0,none⟩ (.bool false)).setCell ⟨w.heap.size,1,none⟩ (.slice none 0 0)):=((Fr.refl (fun i=>i=w.heap.size) _).setCell (p:=⟨w.heap.size,0,none⟩) (Or.inl rfl) _).setCell (p:=⟨w.heap.size,1,none⟩) (Or.inl rfl) _
       refine fin_NumB rfl h2 h3 ((HBx.out.set_ 0 _).set_ 1 _) ?_ (by rw [hno.out]; rfl) (HEx.out.next hFs (fun i hi e=>by omega))
       rw [hno.out]; exact NumIs.nil _
      by_cases hlo:s[i + k].toNat < 48
      ·have x3:(s[i + k].toNat:Int) < 48:=by omega
       have x6:decide ((s[i + k].toNat:Int) < 48)=true:=by rw [decide_eq_true_eq]; omega
       clear hbk hd hno
       go_wp2
       exact hFin.out _ rfl rfl
      ·have hhi:57 < s[i + k].toNat:=by
        have:isDig s[i + k]=false:=by simpa using hd
        unfold isDig at this
        simp at this
        omega
       have x3:¬ ((s[i + k].toNat:Int) < 48):=by omega
       have x4:(57:Int) < (s[i + k].toNat:Int):=by omega
       have x6:decide ((s[i + k].toNat:Int) < 48)=false:=by rw [decide_eq_false_iff_not]; omega
       have x7:decide ((57:Int) < (s[i + k].toNat:Int))=true:=by rw [decide_eq_true_eq]; omega
       clear hbk hd hno
       go_wp2
       exact hFin.out _ rfl rfl
    ·have hk1:1≤k:=by
      rcases Nat.eq_zero_or_pos k with e | e
      ·subst e; exact absurd ⟨by omega,by omega⟩ hgo
      ·exact e
     have hfW:Hid (f < W32):=by unfold Hid; rw [W32_eq]; omega
     have hvW:Hid (v < W32):=by unfold Hid; rw [W32_eq]; omega
     have hml1:Hid (ml (decVal ((bytes s).take i))≤1048576):=by
      have h1:=ml_ten (decVal_lt _ hall.out)
      rw [List.length_take,hbl.out] at h1
      unfold Hid; omega
     have hmlf:Hid (ml f≤1048576):=by
      have:=ml_le_iff (n:=f) (k:=1)
      rw [Nat.pow_one] at this
      have:=this.2 hfW.out
      unfold Hid; omega
     have hmlv:Hid (ml v≤1048576):=by
      have:=ml_le_iff (n:=v) (k:=1)
      rw [Nat.pow_one] at this
      have:=this.2 hvW.out
      unfold Hid; omega
     have hdone:=zh hI.out.done
     have hall2:Hid (((bytes s).take (i + k)).all isDig=true):=hI.out.2.2.1
     have hml2:Hid (ml (decVal ((bytes s).take i) * f)≤1048576):=by
      have h1:=ml_ten (decVal_lt _ hall2.out)
      rw [List.length_take,hbl.out] at h1
      have h2:=ml_mono (show decVal ((bytes s).take i) * f≤decVal ((bytes s).take (i + k)) by have:=hdone.out; omega)
      unfold Hid; omega
     have hF0:Hid (0 < f):=hf0
     by_cases h9:k < 9
     ·have g2:¬ ((i:Int) + (k:Int) < (s.size:Int)):=by omega
      have gd1:decide ((k:Int) < 9)=true:=by rw [decide_eq_true_eq]; omega
      have gd2:decide ((i:Int) + (k:Int) < (s.size:Int))=false:=by rw [decide_eq_false_iff_not]; omega
      clear hgo hI
      go_wp2_with fail
      generalize hwb:World.alloc wr _=w2
      have hO2:Own .u32 114 w2 wr.heap.size [f]:=hwb ▸ Own.new wr 114 .u32 [f] []
      have hF2:Ext wr w2:=hwb ▸ (Fr.refl _ _).alloc _
      clear hwb
      refine (mulMag_any _ _ (decVal ((bytes s).take i)) f _ (hM.out.ext hF2) (MagIs.one_pos hO2 hfW.out hF0.out) hml1.out hmlf.out).mono ?_
      rintro e w3 ⟨_,rfl,hN3,hF3⟩
      obtain ⟨A3,l3,c3,rfl⟩:=hN3.slice
      have HN3:=zh hN3
      have HF3:=zh ((hF.out.trans hF2).trans hF3)
      clear hN3 hF3 hF2 hO2
      go_wp2_with fail
      generalize hwb:World.alloc w3 _=w4
      have hO4:Own .u32 114 w4 w3.heap.size [v]:=hwb ▸ Own.new w3 114 .u32 [v] []
      have hF4:Ext w3 w4:=hwb ▸ (Fr.refl _ _).alloc _
      clear hwb
      refine (trim32_any _ [v] 1 1 _ rfl hO4.shows0 (by simp) (by simp)).mono ?_
      rintro e w5 ⟨rfl,rfl⟩
      have HV4:=zh (MagIs.one hO4 hvW.out)
      have HN4:=zh (HN3.out.ext hF4)
      have HF4:=zh (HF3.out.trans hF4)
      clear hO4 hF4 HN3 HF3
      go_wp2_with fail
      refine (addMag_any _ _ _ _ _ HN4.out HV4.out hml2.out hmlv.out).mono ?_
      rintro e w6 ⟨_,rfl,hN6,hF6⟩
      rw [hdone.out] at hN6
      obtain ⟨A6,l6,c6,rfl⟩:=hN6.slice
      have HN6:=zh hN6
      have HF6:=zh (HF4.out.trans hF6)
      clear hN6 hF6
      go_wp2
      go_roundw
      case rel=>exact ⟨i + k,A6,l6,c6,by omega,by go_num,rfl,hall2,HN6,HF6⟩
      case measure=>simp [intOf]; omega
     ·have g2:¬ ((k:Int) < 9):=by omega
      have gd1:decide ((k:Int) < 9)=false:=by rw [decide_eq_false_iff_not]; omega
      clear hgo hI
      go_wp2_with fail
      generalize hwb:World.alloc wr _=w2
      have hO2:Own .u32 114 w2 wr.heap.size [f]:=hwb ▸ Own.new wr 114 .u32 [f] []
      have hF2:Ext wr w2:=hwb ▸ (Fr.refl _ _).alloc _
      clear hwb
      refine (mulMag_any _ _ (decVal ((bytes s).take i)) f _ (hM.out.ext hF2) (MagIs.one_pos hO2 hfW.out hF0.out) hml1.out hmlf.out).mono ?_
      rintro e w3 ⟨_,rfl,hN3,hF3⟩
      obtain ⟨A3,l3,c3,rfl⟩:=hN3.slice
      have HN3:=zh hN3
      have HF3:=zh ((hF.out.trans hF2).trans hF3)
      clear hN3 hF3 hF2 hO2
      go_wp2_with fail
      generalize hwb:World.alloc w3 _=w4
      have hO4:Own .u32 114 w4 w3.heap.size [v]:=hwb ▸ Own.new w3 114 .u32 [v] []
      have hF4:Ext w3 w4:=hwb ▸ (Fr.refl _ _).alloc _
      clear hwb
      refine (trim32_any _ [v] 1 1 _ rfl hO4.shows0 (by simp) (by simp)).mono ?_
      rintro e w5 ⟨rfl,rfl⟩
      have HV4:=zh (MagIs.one hO4 hvW.out)
      have HN4:=zh (HN3.out.ext hF4)
      have HF4:=zh (HF3.out.trans hF4)
      clear hO4 hF4 HN3 HF3
      go_wp2_with fail
      refine (addMag_any _ _ _ _ _ HN4.out HV4.out hml2.out hmlv.out).mono ?_
      rintro e w6 ⟨_,rfl,hN6,hF6⟩
      rw [hdone.out] at hN6
      obtain ⟨A6,l6,c6,rfl⟩:=hN6.slice
      have HN6:=zh hN6
      have HF6:=zh (HF4.out.trans hF6)
      clear hN6 hF6
      go_wp2
      go_roundw
      case rel=>exact ⟨i + k,A6,l6,c6,by omega,by go_num,rfl,hall2,HN6,HF6⟩
      case measure=>simp [intOf]; omega
  ·obtain rfl:i=s.size:=by omega
   have e1:(bytes s).take s.size=bytes s:=List.take_of_length_le (by rw [hbl.out]; exact Nat.le_refl _)
   have HA:Hid ((bytes s).all isDig=true):=by have:=hall.out; rw [e1] at this; exact this
   have HM:Hid (MagIs wr (.slice A ln c) (decVal (bytes s))):=by have:=hM.out; rw [e1] at this; exact this
   have HBx:=zh (HB.out.ext hF.out)
   have HEx:=zh (HE.out.trans hF.out)
   have hbe:=zh (toList_empty s)
   clear e1 hall hM
   go_wp2_with fail
   refine (make1_ret false _ _ _ HM.out).mono ?_
   rintro e w2 ⟨_,rfl,hI,hF2⟩
   obtain ⟨s2,A2,l2,c2,rfl⟩:=hI.shp
   have HI:=zh hI
   have HB':=zh (HBx.out.ext hF2)
   have HE':=zh (HEx.out.trans hF2)
   obtain ⟨k0,k1,k2,k3⟩:=HB'.out.cell2
   clear hI hF2
   go_wp2
   have hFs:Fr (fun i=>i=w.heap.size) w2 ((w2.setCell ⟨w.heap.size,0,none⟩ (.bool s2)).setCell ⟨w.heap.size,1,none⟩ (.slice A2 l2 c2)):=((Fr.refl (fun i=>i=w.heap.size) _).setCell (p:=⟨w.heap.size,0,none⟩) (Or.inl rfl) _).setCell (p:=⟨w.heap.size,1,none⟩) (Or.inl rfl) _
   refine fin_NumB (b := !s.toList.isEmpty) rfl rfl rfl ((HB'.out.set_ 0 _).set_ 1 _) ?_ (by rw [HA.out,hbe.out]; rfl) (HE'.out.next hFs (fun i hi e=>by omega))
   rw [HA.out]
   exact HI.out.oth HB'.out noRow2 hFs
end Go.Proofs.YtibipjlohahekaaGreatDoor

namespace Go.Proofs.YtibipjlohahekaaGreatDoor
open Go.RowKit
theorem small_fits {q:Rat} {k:Nat} (h:q.num.natAbs < 10 ^ k∧q.den < 10 ^ k) (hk:k≤100000):RFits q:=⟨Nat.le_trans (ml_ten h.1) hk,Nat.le_trans (ml_ten h.2) hk⟩
theorem sText {k:Nat} {a:Value} {q:Rat} {w:World} (ha:NRatIs w a q) (h:q.num.natAbs < 10 ^ k∧q.den < 10 ^ k) (hk:k≤65536):Calls Tryz.prog 21 #[a] w (RetV w (.string ⟨(ratText q).toArray⟩)) :=
 NText_all a q w ha (Nat.le_trans (ml_ten h.1) hk) (Nat.le_trans (ml_ten h.2) hk)
end Go.Proofs.YtibipjlohahekaaGreatDoor

namespace Go.Proofs.YtibipjlohahekaaGreatDoor
open Go.RowKit
def notSlash (c:UInt8):Bool:=c != 47
def nreadF (l:List UInt8):Option Rat :=
 if (((unsign l).2.takeWhile notSlash).all isDig && !((unsign l).2.takeWhile notSlash).isEmpty)=false then none
 else if (unsign l).2.drop ((unsign l).2.takeWhile notSlash).length=[] then
  (if ratText (((sg (unsign l).1 (decVal ((unsign l).2.takeWhile notSlash)):Int)):Rat)=l then some (((sg (unsign l).1 (decVal ((unsign l).2.takeWhile notSlash)):Int)):Rat) else none)
 else if (((unsign l).2.drop (((unsign l).2.takeWhile notSlash).length + 1)).all isDig && !((unsign l).2.drop (((unsign l).2.takeWhile notSlash).length + 1)).isEmpty)=false∨decVal ((unsign l).2.drop (((unsign l).2.takeWhile notSlash).length + 1))=0 then none
 else (if ratText (Rat.divInt (sg (unsign l).1 (decVal ((unsign l).2.takeWhile notSlash))) (decVal ((unsign l).2.drop (((unsign l).2.takeWhile notSlash).length + 1)):Int))=l then some (Rat.divInt (sg (unsign l).1 (decVal ((unsign l).2.takeWhile notSlash))) (decVal ((unsign l).2.drop (((unsign l).2.takeWhile notSlash).length + 1)):Int)) else none)
theorem nread_some {l:List UInt8} {q:Rat} (h:nreadF l=some q):ratText q=l:=by
 unfold nreadF at h
 split at h
 ·cases h
 split at h
 ·split at h
  ·rename_i e; injection h with h; rw [← h]; exact e
  ·cases h
 split at h
 ·cases h
 ·split at h
  ·rename_i e; injection h with h; rw [← h]; exact e
  ·cases h
theorem dig_notSlash {l:List UInt8} (h:l.all isDig=true):l.all notSlash=true:=by
 rw [List.all_eq_true] at *
 intro x hx
 have:=h x hx
 unfold notSlash
 simp
 rintro rfl
 exact absurd this (by decide)
theorem nread_text (q:Rat):nreadF (ratText q)=some q:=by
 by_cases h:q.den=1
 ·have ht:ratText q=Lib.itoa q.num ++ []:=by unfold ratText; rw [if_pos h,List.append_nil]
  have hu:=unsign_itoa q.num []
  rw [← ht,List.append_nil] at hu
  obtain ⟨h1,h2⟩:=takeWhile_all (dig_notSlash (dec_all q.num.natAbs))
  unfold nreadF
  rw [hu]
  simp only []
  rw [h1,dec_all,dec_val,sg_abs,whole_self h]
  rw [if_neg (by simp [decDigits_ne]),List.drop_of_length_le (Nat.le_refl _),if_pos rfl,if_pos rfl]
 ·have ht:ratText q=Lib.itoa q.num ++ 47 :: Lib.decDigits q.den:=by unfold ratText; rw [if_neg h,itoa_den]; simp
  have hu:=unsign_itoa q.num (47 :: Lib.decDigits q.den)
  rw [← ht] at hu
  obtain ⟨h1,h2⟩:=takeWhile_stop (p:=notSlash) (r:=Lib.decDigits q.den) (c:=47) (dig_notSlash (dec_all q.num.natAbs)) (by decide)
  have hd:=q.den_nz
  have hdr:(Lib.decDigits q.num.natAbs ++ 47 :: Lib.decDigits q.den).drop (Lib.decDigits q.num.natAbs).length=47 :: Lib.decDigits q.den:=by simp
  have hdr2:(Lib.decDigits q.num.natAbs ++ 47 :: Lib.decDigits q.den).drop ((Lib.decDigits q.num.natAbs).length + 1)=Lib.decDigits q.den:=by
   rw [← List.drop_drop,hdr]; rfl
  unfold nreadF
  rw [hu]
  simp only []
  rw [h1,hdr,hdr2,dec_all,dec_all,dec_val,dec_val,sg_abs,Rat.num_divInt_den]
  rw [if_neg (by simp [decDigits_ne]),if_neg (by simp),if_neg (by simp [decDigits_ne]; exact hd),if_pos rfl]
theorem nread_eq (l:List UInt8):nreadF l=readF l:=by
 cases h:nreadF l with
 | some q=>rw [← nread_some h]; exact (read_text q).symm
 | none =>
   cases k:readF l with
   | none=>rfl
   | some q =>
     have:=text_of_read k
     rw [← this,nread_text] at h
     cases h
def RetNRead (w:World) (l:List UInt8) (e:Ending) (w':World):Prop :=
 ∃ v ok q,e=.returned (.tuple #[v, .bool ok])∧Ext w w'∧NRatIs w' v q∧((ok=true∧readF l=some q)∨(ok=false∧readF l=none))
theorem read_end {q:Rat} {s:ByteArray} {b:Bool} (hn:nreadF (bytes s)=if ratText q=bytes s then some q else none) (hb:b=decide (ratText q=bytes s)):(b=true∧readF (bytes s)=some q)∨(b=false∧readF (bytes s)=none):=by
 rw [nread_eq] at hn
 by_cases h:ratText q=bytes s
 ·rw [if_pos h] at hn; left; exact ⟨by rw [hb,decide_eq_true h],hn⟩
 ·rw [if_neg h] at hn; right; exact ⟨by rw [hb,decide_eq_false h],hn⟩
theorem extract_le (t:ByteArray) (a b:Nat):(t.extract a b).size≤t.size:=by
 rw [← bytes_length,bytes_extract,List.length_take,List.length_drop,bytes_length]; omega
theorem takeWhile_len {l:List UInt8} {k:Nat} (h:(l.take k).all notSlash=true) (hs:∀ h:k < l.length,notSlash l[k]=false) (hk:k≤l.length):k=(l.takeWhile notSlash).length:=by
 rw [(takeWhile_of h hs).1,List.length_take]; omega
theorem cut_at {t:ByteArray} {p:Nat} (hp:p=((bytes t).takeWhile notSlash).length):bytes (t.extract 0 p)=(bytes t).takeWhile notSlash∧bytes (t.extract (p + 1) t.size)=(bytes t).drop (p + 1):=by
 rw [bytes_extract,bytes_extract]
 refine ⟨?_,?_⟩
 ·rw [List.drop_zero,Nat.sub_zero,hp]
  have:=List.takeWhile_prefix notSlash (l:=bytes t)
  exact (List.prefix_iff_eq_take.1 this).symm
 ·rw [List.take_of_length_le (by rw [List.length_drop,bytes_length]; exact Nat.le_refl _)]
theorem nread_bad1 {l t:List UInt8} {neg:Bool} (hu:unsign l=(neg,t)) (hb:(((t.takeWhile notSlash)).all isDig && !(t.takeWhile notSlash).isEmpty)=false):nreadF l=none:=by
 unfold nreadF; rw [hu]; simp only []; rw [if_pos hb]
theorem nread_whole {l t:List UInt8} {neg:Bool} (hu:unsign l=(neg,t)) (hb:(((t.takeWhile notSlash)).all isDig && !(t.takeWhile notSlash).isEmpty)=true) (hd:t.length≤(t.takeWhile notSlash).length) :
 nreadF l=if ratText ((sg neg (decVal (t.takeWhile notSlash)):Int):Rat)=l then some ((sg neg (decVal (t.takeWhile notSlash)):Int):Rat) else none:=by
 unfold nreadF; rw [hu]; simp only []; rw [if_neg (by rw [hb]; simp),if_pos (List.drop_of_length_le hd)]
theorem nread_bad2 {l t:List UInt8} {neg:Bool} (hu:unsign l=(neg,t)) (hb:(((t.takeWhile notSlash)).all isDig && !(t.takeWhile notSlash).isEmpty)=true) (hd:(t.takeWhile notSlash).length < t.length)
 (h2:((t.drop ((t.takeWhile notSlash).length + 1)).all isDig && !(t.drop ((t.takeWhile notSlash).length + 1)).isEmpty)=false∨decVal (t.drop ((t.takeWhile notSlash).length + 1))=0):nreadF l=none:=by
 unfold nreadF; rw [hu]; simp only []; rw [if_neg (by rw [hb]; simp),if_neg (fun e=>by have:=congrArg List.length e; simp at this; omega),if_pos h2]
theorem nread_frac {l t:List UInt8} {neg:Bool} (hu:unsign l=(neg,t)) (hb:(((t.takeWhile notSlash)).all isDig && !(t.takeWhile notSlash).isEmpty)=true) (hd:(t.takeWhile notSlash).length < t.length)
 (h2:((t.drop ((t.takeWhile notSlash).length + 1)).all isDig && !(t.drop ((t.takeWhile notSlash).length + 1)).isEmpty)=true) (h3:decVal (t.drop ((t.takeWhile notSlash).length + 1))≠0) :
 nreadF l=if ratText (Rat.divInt (sg neg (decVal (t.takeWhile notSlash))) (decVal (t.drop ((t.takeWhile notSlash).length + 1)):Int))=l then some (Rat.divInt (sg neg (decVal (t.takeWhile notSlash))) (decVal (t.drop ((t.takeWhile notSlash).length + 1)):Int)) else none:=by
 unfold nreadF; rw [hu]; simp only []; rw [if_neg (by rw [hb]; simp),if_neg (fun e=>by have:=congrArg List.length e; simp at this; omega),if_neg (fun e=>e.elim (fun e=>by rw [h2] at e; cases e) h3)]
theorem str_dec {x:List UInt8} {s:ByteArray}:((⟨x.toArray⟩:ByteArray).toList == s.toList)=decide (x=bytes s):=by
 rw [Lib.toList_data,Lib.toList_data]
 by_cases h:x=bytes s
 ·rw [decide_eq_true h]; simp [h]
 ·rw [decide_eq_false h]; simpa using h
theorem ml_decVal {t:ByteArray} (h:(bytes t).all isDig=true) (hs:t.size≤65536):ml (decVal (bytes t))≤65536:=by
 have:=ml_ten (decVal_lt _ h)
 rw [bytes_length] at this
 omega
theorem sg_ml {neg:Bool} {n:Nat}:(sg neg n).natAbs=n:=by cases neg<;>simp [sg]
theorem frac_ml {x y:Int} (hy:y≠0):ml (Rat.divInt x y).num.natAbs≤ml x.natAbs∧ml (Rat.divInt x y).den≤ml y.natAbs:=by
 constructor
 ·refine ml_mono ?_
  rw [Rat.num_divInt,Int.natAbs_ediv_of_dvd]
  ·refine Nat.le_trans (Nat.div_le_self _ _) ?_
   rw [Int.natAbs_mul]
   rcases Int.lt_or_gt_of_ne hy with h | h
   ·rw [Int.sign_eq_neg_one_of_neg h]; simp
   ·rw [Int.sign_eq_one_of_pos h]; simp
  ·exact Int.dvd_mul_of_dvd_right (Int.gcd_dvd_right _ _)
 ·refine ml_mono ?_
  rw [Rat.den_divInt,if_neg hy]
  exact Nat.div_le_self _ _
theorem str_head {s:ByteArray} (h:¬ bytes s=[]):∃ c,(bytes s).head? = some c∧s[0]? = some c:=by
 obtain ⟨h1,_⟩:=head_of h
 exact ⟨s[0],head_byte h1,by simp [h1]⟩
theorem str_size {s:ByteArray} (h:¬ bytes s=[]):1≤s.size:=(head_of h).1
theorem unsign_minus {s:ByteArray} {c:UInt8} (h:(bytes s).head? = some c) (hc:c=45):unsign (bytes s)=(true,bytes (s.extract 1 s.size)):=by
 unfold unsign
 rw [h,hc,if_pos rfl,bytes_extract,List.take_of_length_le (by rw [List.length_drop,bytes_length]; exact Nat.le_refl _),List.drop_one]
theorem unsign_plus {s:ByteArray} {c:UInt8} (h:(bytes s).head? = some c) (hc:¬ c=45):unsign (bytes s)=(false,bytes s):=by
 unfold unsign
 rw [h,if_neg (by simpa using hc)]
theorem u8_eq {c b:UInt8} (h:c=b):((c.toNat:Int) == (b.toNat:Int))=true:=by subst h; simp
theorem u8_ne {c b:UInt8} (h:¬ c=b):((c.toNat:Int) == (b.toNat:Int))=false:=by
 have:c.toNat≠b.toNat:=fun e=>h (UInt8.toNat_inj.1 e)
 simp; omega
theorem nat_lt {a b:Nat} (h:a < b):decide (((a:Nat):Int) < ((b:Nat):Int))=true:=decide_eq_true (by omega)
theorem nat_nlt {a b:Nat} (h:¬ a < b):decide (((a:Nat):Int) < ((b:Nat):Int))=false:=decide_eq_false (by omega)
theorem nat_wrap1 {a:Nat} (h:a≤1000000):IntKind.i64.wrap (((a:Nat):Int) + 1)=((a + 1:Nat):Int):=by rw [IntKind.wrap_i64]; omega
theorem sgn_zero {n:Nat} (h:n=0):(((n:Int).sign:Int) == 0)=true:=by subst h; rfl
theorem sgn_nzero {n:Nat} (h:¬ n=0):(((n:Int).sign:Int) == 0)=false:=by
 rw [beq_eq_false_iff_ne]; exact fun e=>h (by have:=Int.sign_eq_zero_iff_zero.1 e; omega)
theorem post_FD {w w':World} {e:Ending} {l:List UInt8} (h:RetFD w l e w') (hd:l.all isDig=true) (hne:l≠[]):PostC (fun x:ShI=>.tuple #[shInt x, .bool true]) (fun x w=>NumIs w (shInt x) (decVal l:Int)) w e w':=by
 obtain ⟨v,b,rfl,rfl,hI,hE⟩:=h
 rw [if_pos hd] at hI
 obtain ⟨s,A,l',c,rfl⟩:=hI.shp
 refine ⟨(s,A,l',c),?_,hE,boxn hE (fun S w'' hS hF=>hI.nrb hS hF)⟩
 rw [hd,show l.isEmpty=false by simpa using hne]; rfl
theorem run_stridx {P:Program} {o:Oper} {ρ:Operand→Value} {w:World} {t:TypeId} {x i:Operand} {b:ByteArray} {k:Nat} {c:UInt8} (ho:o.op=Op.index t x i) (ht:P.underlying t=some .string) (hx:ρ x=.string b) (hi:ρ i=.int .i64 (k:Int)) (hc:b[k]? = some c):(execOp ρ o).run P w=.ok (.value (.int .u8 (c.toNat:Int))) w:=by
 simp [execOp,ho,Instr.index,asIntOf,underlying,ht,hx,hi,hc,Result.andThen]
theorem post_FDf {w w':World} {e:Ending} {l:List UInt8} (h:RetFD w l e w') (hb:¬ (l.all isDig && !l.isEmpty)=true):PostC (fun x:ShI=>.tuple #[shInt x, .bool false]) (fun _ _=>True) w e w':=by
 obtain ⟨v,b,rfl,rfl,hI,hE⟩:=h
 obtain ⟨s,A,l',c,rfl⟩:=hI.shp
 exact ⟨(s,A,l',c),by rw [Bool.eq_false_iff.2 hb]; rfl,hE,BoxN.pure trivial⟩
theorem dig_parts {l:List UInt8} (h:(l.all isDig && !l.isEmpty)=true):l.all isDig=true∧l≠[]:=by
 rw [Bool.and_eq_true] at h
 exact ⟨h.1,fun e=>by rw [e] at h; simp at h⟩
theorem NRatIs.whole {w:World} {s:Bool} {A:Option Addr} {l c:Nat} {z:Int} (h:NumIs w (.agg #[.bool s, .slice A l c]) z):NRatIs w (.agg #[.bool s, .slice A l c, .bool false, .slice none 0 0]) ((z:Int):Rat) :=
 NRatIs.of h (by rw [denF_one (by rfl)]; exact NumIs.nil _)
theorem rd_fit {z:Int} (h:ml z.natAbs≤65536):NFits z:=nfit h (by decide)
theorem rd_nz {n:Nat} (h:¬ n=0):((n:Nat):Int)≠0:=by omega
theorem ml_one':ml (1:Nat)≤65536:=Nat.le_trans (ml_le_iff.2 (by rw [W32_eq]; decide):ml 1≤1) (by decide)
theorem ns_step {t:ByteArray} {i:Nat} {c:UInt8} (hI:((bytes t).take i).all notSlash=true) (hc:t[i]? = some c) (h:¬ c=47):((bytes t).take (i + 1)).all notSlash=true:=by
 have hi:i < t.size:=by
  rcases Nat.lt_or_ge i t.size with h' | h'
  ·exact h'
  ·rw [getElem?_neg t i (by omega)] at hc; cases hc
 have hc':t[i]=c:=by
  rw [getElem?_pos t i hi] at hc; exact Option.some.inj hc
 rw [take_snoc t i hi,List.all_append,hI,hc']
 simp [notSlash,h]
theorem ns_len {t:ByteArray} {i:Nat} {c:UInt8} (hI:((bytes t).take i).all notSlash=true) (hc:t[i]? = some c) (h:c=47) (hi:i≤t.size):i=((bytes t).takeWhile notSlash).length:=by
 refine takeWhile_len hI (fun hlt=>?_) (by rw [bytes_length]; exact hi)
 have hi':i < t.size:=by rw [← bytes_length]; exact hlt
 rw [getElem?_pos t i hi'] at hc
 have:(bytes t)[i]=47:=(Option.some.inj hc).trans h
 rw [this]; rfl
theorem ns_end {t:ByteArray} (hI:((bytes t).take t.size).all notSlash=true):t.size=((bytes t).takeWhile notSlash).length :=
 takeWhile_len hI (fun h=>by rw [bytes_length] at h; omega) (by rw [bytes_length]; exact Nat.le_refl _)
set_option maxRecDepth 100000 in
theorem NRead_any (s:ByteArray) (w:World) (hs:s.size≤65536) :
 Calls Tryz.prog 72 #[.string s] w (RetNRead w (bytes s)):=by
 refine sx_enter (Φ:=fun w=>True) Tryz.func72 rfl (by kernel_rfl) (fun w' hf=>trivial) ?_
 refine sx_seq (sx_region (xr 2 [(0, .v (.string s)),(2, .p 2 0),(3, .v (.bool false))] [bR4 2 35 false none 0 0 false none 0 0] ?_))
 refine xe (sx_next (sx_seq (sx_region (xr 2 [(0, .v (.string s)),(2, .p 2 0),(3, .v (.bool false)),(4, .v (.string s))] [bR4 2 35 false none 0 0 false none 0 0] ?_))))
 refine xe (sx_next ?_)
 refine sx_cut (fun ss ff=>∃ (b:Bool),ss=ofL [(0, .v (.string s)),(2, .p 2 0),(3, .v (.bool false)),(4, .v (.string s)),(5, .v (.bool b))] [(2,35,[.v (.bool false), .v (.slice none 0 0), .v (.bool false), .v (.slice none 0 0)])]∧ff=(fun w=>True)∧((b=true→unsign (bytes s)=(true,bytes (s.extract 1 s.size))∧1≤s.size)∧(b=false→unsign (bytes s)=(false,bytes s)))) ?_ ?_
 ·by_cases he:bytes s=[]
  ·have hs0:s.size=0:=by rw [← bytes_length,he]; rfl
   refine sx_region (xr 3 [(0, .v (.string s)),(2, .p 2 0),(3, .v (.bool false)),(4, .v (.string s)),(16, .v (.bool (decide (((s).size:Int) > 0))))] [bR4 2 35 false none 0 0 false none 0 0] ?_)
   rw [(show decide (((s).size:Int) > 0)=false from decide_eq_false (by omega))]
   refine xr 6 [(0, .v (.string s)),(2, .p 2 0),(3, .v (.bool false)),(4, .v (.string s)),(5, .v (.bool false))] [bR4 2 35 false none 0 0 false none 0 0] ?_
   refine xe ?_
   refine SXq.weak [(0, .v (.string s)),(2, .p 2 0),(3, .v (.bool false)),(4, .v (.string s)),(5, .v (.bool false))] [(2,35,[.v (.bool false), .v (.slice none 0 0), .v (.bool false), .v (.slice none 0 0)])] (Ψ:=fun w=>True) (SameL.of (by kernel_rfl)) (by kernel_rfl) (fun w hΦ=>trivial) ?_
   exact sx_meet ⟨false,rfl,rfl,⟨fun h=>(by cases h),fun _=>(by unfold unsign; rw [he]; rfl)⟩⟩
  ·obtain ⟨c0,h0,hc0⟩:=str_head he
   have hs0:=str_size he
   by_cases hm:c0=45
   ·refine sx_region (xr 3 [(0, .v (.string s)),(2, .p 2 0),(3, .v (.bool false)),(4, .v (.string s)),(16, .v (.bool (decide (((s).size:Int) > 0))))] [bR4 2 35 false none 0 0 false none 0 0] ?_)
    rw [(show decide (((s).size:Int) > 0)=true from decide_eq_true (by omega))]
    refine xr 2 [(0, .v (.string s)),(2, .p 2 0),(3, .v (.bool false)),(4, .v (.string s)),(17, .v (.bool true)),(18, .v (.string s))] [bR4 2 35 false none 0 0 false none 0 0] ?_
    refine sx_look 19 (.int .u8 (c0.toNat:Int)) (by kernel_rfl) (by kernel_rfl) (by kernel_rfl) (by kernel_rfl) (by kernel_rfl) (by kernel_rfl) (fun w hE hΦ=>run_stridx (t:=9) (x:=.tmp 18) (k:=0) (i:=.const (.int .i64 0)) (by kernel_rfl) (by kernel_rfl) (by kernel_rfl) (by rfl) hc0) ?_
    refine xr 1 [(0, .v (.string s)),(2, .p 2 0),(3, .v (.bool false)),(4, .v (.string s)),(17, .v (.bool true)),(20, .v (.bool (((c0.toNat:Int):Int) == 45)))] [bR4 2 35 false none 0 0 false none 0 0] ?_
    rw [(show ((c0.toNat:Int) == 45)=true from u8_eq hm)]
    refine xr 2 [(0, .v (.string s)),(2, .p 2 0),(3, .v (.bool false)),(4, .v (.string s)),(5, .v (.bool true))] [bR4 2 35 false none 0 0 false none 0 0] ?_
    refine xe ?_
    refine SXq.weak [(0, .v (.string s)),(2, .p 2 0),(3, .v (.bool false)),(4, .v (.string s)),(5, .v (.bool true))] [(2,35,[.v (.bool false), .v (.slice none 0 0), .v (.bool false), .v (.slice none 0 0)])] (Ψ:=fun w=>True) (SameL.of (by kernel_rfl)) (by kernel_rfl) (fun w hΦ=>trivial) ?_
    exact sx_meet ⟨true,rfl,rfl,⟨fun _=>⟨unsign_minus h0 hm,str_size he⟩,fun h=>(by cases h)⟩⟩
   ·refine sx_region (xr 3 [(0, .v (.string s)),(2, .p 2 0),(3, .v (.bool false)),(4, .v (.string s)),(16, .v (.bool (decide (((s).size:Int) > 0))))] [bR4 2 35 false none 0 0 false none 0 0] ?_)
    rw [(show decide (((s).size:Int) > 0)=true from decide_eq_true (by omega))]
    refine xr 2 [(0, .v (.string s)),(2, .p 2 0),(3, .v (.bool false)),(4, .v (.string s)),(17, .v (.bool true)),(18, .v (.string s))] [bR4 2 35 false none 0 0 false none 0 0] ?_
    refine sx_look 19 (.int .u8 (c0.toNat:Int)) (by kernel_rfl) (by kernel_rfl) (by kernel_rfl) (by kernel_rfl) (by kernel_rfl) (by kernel_rfl) (fun w hE hΦ=>run_stridx (t:=9) (x:=.tmp 18) (k:=0) (i:=.const (.int .i64 0)) (by kernel_rfl) (by kernel_rfl) (by kernel_rfl) (by rfl) hc0) ?_
    refine xr 1 [(0, .v (.string s)),(2, .p 2 0),(3, .v (.bool false)),(4, .v (.string s)),(17, .v (.bool true)),(20, .v (.bool (((c0.toNat:Int):Int) == 45)))] [bR4 2 35 false none 0 0 false none 0 0] ?_
    rw [(show ((c0.toNat:Int) == 45)=false from u8_ne (b:=45) hm)]
    refine xr 2 [(0, .v (.string s)),(2, .p 2 0),(3, .v (.bool false)),(4, .v (.string s)),(5, .v (.bool false))] [bR4 2 35 false none 0 0 false none 0 0] ?_
    refine xe ?_
    refine SXq.weak [(0, .v (.string s)),(2, .p 2 0),(3, .v (.bool false)),(4, .v (.string s)),(5, .v (.bool false))] [(2,35,[.v (.bool false), .v (.slice none 0 0), .v (.bool false), .v (.slice none 0 0)])] (Ψ:=fun w=>True) (SameL.of (by kernel_rfl)) (by kernel_rfl) (fun w hΦ=>trivial) ?_
    exact sx_meet ⟨false,rfl,rfl,⟨fun h=>(by cases h),fun _=>unsign_plus h0 hm⟩⟩
 ·rintro ss ff ⟨b,rfl,rfl,HB⟩
  refine sx_cut (fun ss ff=>∃ (t:ByteArray) (ng:Bool),ss=ofL [(0, .v (.string s)),(2, .p 2 0),(3, .v (.bool false)),(4, .v (.string t)),(5, .v (.bool ng))] [(2,35,[.v (.bool false), .v (.slice none 0 0), .v (.bool false), .v (.slice none 0 0)])]∧ff=(fun w=>True)∧(unsign (bytes s)=(ng,bytes t))∧(t.size≤65536)) ?_ ?_
  ·refine sx_seq (sx_region (xr 1 [(0, .v (.string s)),(2, .p 2 0),(3, .v (.bool false)),(4, .v (.string s)),(5, .v (.bool b)),(22, .v (.bool b))] [bR4 2 35 false none 0 0 false none 0 0] ?_))
   refine xe (sx_next ?_)
   refine sx_cond (b) (by kernel_rfl) (fun hb10=>?_) (fun hb10=>?_)
   ·have hbb:=hb10
    obtain ⟨HM0,hsz⟩:=HB.1 hbb
    obtain ⟨t,ht⟩:∃ t,s.extract 1 s.size=t:=⟨_,rfl⟩
    rw [ht] at HM0
    have lt:t.size≤65536:=by rw [← ht,ByteArray.size_extract]; omega
    refine sx_region (xr 1 [(0, .v (.string s)),(2, .p 2 0),(3, .v (.bool false)),(4, .v (.string s)),(5, .v (.bool b)),(23, .v (.string s))] [bR4 2 35 false none 0 0 false none 0 0] ?_)
    refine sx_look 24 (.string t) (by kernel_rfl) (by kernel_rfl) (by kernel_rfl) (by kernel_rfl) (by kernel_rfl) (by kernel_rfl) (fun w hE hΦ=>run_strslice 1 _ (t:=9) (x:=(Operand.tmp 23)) (lo:=(some (Operand.const (Value.int IntKind.i64 1)))) (hi:=none) (by kernel_rfl) (by kernel_rfl) (by kernel_rfl) (Or.inr rfl) (Or.inl ⟨rfl,rfl⟩) hsz (Nat.le_refl _) ht) ?_
    refine xr 1 [(0, .v (.string s)),(2, .p 2 0),(3, .v (.bool false)),(4, .v (.string t)),(5, .v (.bool b))] [bR4 2 35 false none 0 0 false none 0 0] ?_
    refine xe ?_
    refine SXq.weak [(0, .v (.string s)),(2, .p 2 0),(3, .v (.bool false)),(4, .v (.string t)),(5, .v (.bool b))] [(2,35,[.v (.bool false), .v (.slice none 0 0), .v (.bool false), .v (.slice none 0 0)])] (Ψ:=fun w=>True) (SameL.of (by kernel_rfl)) (by kernel_rfl) (fun w hΦ=>trivial) ?_
    exact sx_meet ⟨t,b,rfl,rfl,(by rw [hbb]; exact HM0),lt⟩
   ·have hbb:=hb10
    refine sx_skip ?_
    refine SXq.weak [(0, .v (.string s)),(2, .p 2 0),(3, .v (.bool false)),(4, .v (.string s)),(5, .v (.bool b))] [(2,35,[.v (.bool false), .v (.slice none 0 0), .v (.bool false), .v (.slice none 0 0)])] (Ψ:=fun w=>True) (SameL.of (by kernel_rfl)) (by kernel_rfl) (fun w hΦ=>trivial) ?_
    exact sx_meet ⟨s,b,rfl,rfl,(by rw [hbb]; exact HB.2 hbb),hs⟩
  ·rintro ss ff ⟨t,ng,rfl,rfl,HM,lt⟩
   refine sx_seq (sx_region (xr 3 [(0, .v (.string s)),(2, .p 2 0),(3, .v (.bool false)),(4, .v (.string t)),(5, .v (.bool ng)),(6, .v (.int .i64 ((t).size:Int)))] [bR4 2 35 false none 0 0 false none 0 0] ?_))
   refine xe (sx_next ?_)
   refine sx_cut (fun ss ff=>∃ (p:Nat),ss=ofL [(0, .v (.string s)),(2, .p 2 0),(3, .v (.bool false)),(4, .v (.string t)),(5, .v (.bool ng)),(6, .v (.int .i64 ((p:Nat):Int)))] [(2,35,[.v (.bool false), .v (.slice none 0 0), .v (.bool false), .v (.slice none 0 0)])]∧ff=(fun w=>True)∧(p=((bytes t).takeWhile notSlash).length)∧(p≤t.size)) ?_ ?_
   ·refine sx_seq (sx_region (xr 1 [(0, .v (.string s)),(2, .p 2 0),(3, .v (.bool false)),(4, .v (.string t)),(5, .v (.bool ng)),(6, .v (.int .i64 ((t).size:Int))),(7, .v (.int .i64 0))] [bR4 2 35 false none 0 0 false none 0 0] ?_))
    refine xe (sx_next (sx_block ?_))
    refine SXc.weak [(0, .v (.string s)),(2, .p 2 0),(3, .v (.bool false)),(4, .v (.string t)),(5, .v (.bool ng)),(6, .v (.int .i64 ((t).size:Int))),(7, .v (.int .i64 ((0:Nat):Int)))] [(2,35,[.v (.bool false), .v (.slice none 0 0), .v (.bool false), .v (.slice none 0 0)])] (Ψ:=fun w=>True) (SameL.of (by kernel_rfl)) (by kernel_rfl) (fun w hΦ=>trivial) ?_
    refine sx_loop (fun nn ss ff=>∃ (i:Nat),ss=ofL [(0, .v (.string s)),(2, .p 2 0),(3, .v (.bool false)),(4, .v (.string t)),(5, .v (.bool ng)),(6, .v (.int .i64 ((t).size:Int))),(7, .v (.int .i64 ((i:Nat):Int)))] [(2,35,[.v (.bool false), .v (.slice none 0 0), .v (.bool false), .v (.slice none 0 0)])]∧ff=(fun w=>True)∧(i≤t.size)∧(((bytes t).take i).all notSlash=true)∧nn=t.size - i) (t.size - 0) ⟨0,rfl,rfl,(Nat.zero_le _),rfl,rfl⟩ ?_
    rintro nn ss ff ⟨i,rfl,rfl,hi,hI,rfl⟩
    refine sx_seq (sx_seq (sx_region (xr 4 [(0, .v (.string s)),(2, .p 2 0),(3, .v (.bool false)),(4, .v (.string t)),(5, .v (.bool ng)),(6, .v (.int .i64 ((t).size:Int))),(7, .v (.int .i64 ((i:Nat):Int))),(30, .v (.bool (decide (((i:Nat):Int) < ((t).size:Int)))))] [bR4 2 35 false none 0 0 false none 0 0] ?_)))
    refine xe (sx_next ?_)
    refine sx_cond ((decide (((i:Nat):Int) < ((t).size:Int)))) (by kernel_rfl) (fun hb11=>?_) (fun hb11=>?_)
    ·have hlt:i < t.size:=by have:=of_decide_eq_true hb11; omega
     obtain ⟨c,hc⟩:∃ c,t[i]? = some c:=⟨t[i],by simp [hlt]⟩
     refine sx_skip (sx_next (sx_seq (sx_block (sx_seq ?_))))
     by_cases h47:c=47
     ·refine sx_region (xr 2 [(0, .v (.string s)),(2, .p 2 0),(3, .v (.bool false)),(4, .v (.string t)),(5, .v (.bool ng)),(6, .v (.int .i64 ((t).size:Int))),(7, .v (.int .i64 ((i:Nat):Int))),(33, .v (.string t)),(34, .v (.int .i64 ((i:Nat):Int)))] [bR4 2 35 false none 0 0 false none 0 0] ?_)
      refine sx_look 35 (.int .u8 (c.toNat:Int)) (by kernel_rfl) (by kernel_rfl) (by kernel_rfl) (by kernel_rfl) (by kernel_rfl) (by kernel_rfl) (fun w hE hΦ=>run_stridx (t:=9) (x:=.tmp 33) (k:=i) (i:=.tmp 34) (by kernel_rfl) (by kernel_rfl) (by kernel_rfl) (by kernel_rfl) hc) ?_
      refine xr 1 [(0, .v (.string s)),(2, .p 2 0),(3, .v (.bool false)),(4, .v (.string t)),(5, .v (.bool ng)),(6, .v (.int .i64 ((t).size:Int))),(7, .v (.int .i64 ((i:Nat):Int))),(36, .v (.bool (((c.toNat:Int):Int) == 47)))] [bR4 2 35 false none 0 0 false none 0 0] ?_
      rw [(show ((c.toNat:Int) == 47)=true from u8_eq h47)]
      refine xr 0 [(0, .v (.string s)),(2, .p 2 0),(3, .v (.bool false)),(4, .v (.string t)),(5, .v (.bool ng)),(6, .v (.int .i64 ((t).size:Int))),(7, .v (.int .i64 ((i:Nat):Int))),(36, .v (.bool true))] [bR4 2 35 false none 0 0 false none 0 0] ?_
      refine xe (sx_next (xa (sx_seq (sx_region (xr 2 [(0, .v (.string s)),(2, .p 2 0),(3, .v (.bool false)),(4, .v (.string t)),(5, .v (.bool ng)),(6, .v (.int .i64 ((i:Nat):Int))),(7, .v (.int .i64 ((i:Nat):Int)))] [bR4 2 35 false none 0 0 false none 0 0] ?_)))))
      refine xe (sx_next (sx_exit ?_))
      refine sx_miss (by kernel_rfl) ?_
      refine sx_then_exit (sx_then_exit (sx_hit ?_))
      refine SXq.weak [(0, .v (.string s)),(2, .p 2 0),(3, .v (.bool false)),(4, .v (.string t)),(5, .v (.bool ng)),(6, .v (.int .i64 ((i:Nat):Int)))] [(2,35,[.v (.bool false), .v (.slice none 0 0), .v (.bool false), .v (.slice none 0 0)])] (Ψ:=fun w=>True) (SameL.of (by kernel_rfl)) (by kernel_rfl) (fun w hΦ=>trivial) ?_
      exact sx_meet ⟨i,rfl,rfl,ns_len hI hc h47 hi,hi⟩
     ·refine sx_region (xr 2 [(0, .v (.string s)),(2, .p 2 0),(3, .v (.bool false)),(4, .v (.string t)),(5, .v (.bool ng)),(6, .v (.int .i64 ((t).size:Int))),(7, .v (.int .i64 ((i:Nat):Int))),(33, .v (.string t)),(34, .v (.int .i64 ((i:Nat):Int)))] [bR4 2 35 false none 0 0 false none 0 0] ?_)
      refine sx_look 35 (.int .u8 (c.toNat:Int)) (by kernel_rfl) (by kernel_rfl) (by kernel_rfl) (by kernel_rfl) (by kernel_rfl) (by kernel_rfl) (fun w hE hΦ=>run_stridx (t:=9) (x:=.tmp 33) (k:=i) (i:=.tmp 34) (by kernel_rfl) (by kernel_rfl) (by kernel_rfl) (by kernel_rfl) hc) ?_
      refine xr 1 [(0, .v (.string s)),(2, .p 2 0),(3, .v (.bool false)),(4, .v (.string t)),(5, .v (.bool ng)),(6, .v (.int .i64 ((t).size:Int))),(7, .v (.int .i64 ((i:Nat):Int))),(36, .v (.bool (((c.toNat:Int):Int) == 47)))] [bR4 2 35 false none 0 0 false none 0 0] ?_
      rw [(show ((c.toNat:Int) == 47)=false from u8_ne (b:=47) h47)]
      refine xr 0 [(0, .v (.string s)),(2, .p 2 0),(3, .v (.bool false)),(4, .v (.string t)),(5, .v (.bool ng)),(6, .v (.int .i64 ((t).size:Int))),(7, .v (.int .i64 ((i:Nat):Int))),(36, .v (.bool false))] [bR4 2 35 false none 0 0 false none 0 0] ?_
      refine xe (sx_next (xb (sx_skip (sx_out (sx_next (sx_region (xr 2 [(0, .v (.string s)),(2, .p 2 0),(3, .v (.bool false)),(4, .v (.string t)),(5, .v (.bool ng)),(6, .v (.int .i64 ((t).size:Int))),(7, .v (.int .i64 ((i:Nat):Int))),(32, .v (.int .i64 (IntKind.i64.wrap (((i:Nat):Int) + 1))))] [bR4 2 35 false none 0 0 false none 0 0] ?_)))))))
      rw [nat_wrap1 (a:=i) (by omega)]
      refine xr 1 [(0, .v (.string s)),(2, .p 2 0),(3, .v (.bool false)),(4, .v (.string t)),(5, .v (.bool ng)),(6, .v (.int .i64 ((t).size:Int))),(7, .v (.int .i64 ((i + 1:Nat):Int)))] [bR4 2 35 false none 0 0 false none 0 0] ?_
      refine xe ?_
      refine SXq.weak [(0, .v (.string s)),(2, .p 2 0),(3, .v (.bool false)),(4, .v (.string t)),(5, .v (.bool ng)),(6, .v (.int .i64 ((t).size:Int))),(7, .v (.int .i64 (((i + 1):Nat):Int)))] [(2,35,[.v (.bool false), .v (.slice none 0 0), .v (.bool false), .v (.slice none 0 0)])] (Ψ:=fun w=>True) (SameL.of (by kernel_rfl)) (by kernel_rfl) (fun w hΦ=>trivial) ?_
      exact sx_round (t.size - (i + 1)) (by omega) ⟨(i + 1),rfl,rfl,hlt,ns_step hI hc h47,rfl⟩
    ·have hie:i=t.size:=by have:=of_decide_eq_false hb11; omega
     refine sx_exit (sx_then_exit (sx_then_exit (sx_hit ?_)))
     refine SXq.weak [(0, .v (.string s)),(2, .p 2 0),(3, .v (.bool false)),(4, .v (.string t)),(5, .v (.bool ng)),(6, .v (.int .i64 ((t.size:Nat):Int)))] [(2,35,[.v (.bool false), .v (.slice none 0 0), .v (.bool false), .v (.slice none 0 0)])] (Ψ:=fun w=>True) (SameL.of (by kernel_rfl)) (by kernel_rfl) (fun w hΦ=>trivial) ?_
     exact sx_meet ⟨t.size,rfl,rfl,ns_end (hie ▸ hI),(Nat.le_refl _)⟩
   ·rintro ss ff ⟨p,rfl,rfl,hp,hpt⟩
    refine sx_seq ?_
    obtain ⟨x,hx⟩:∃ x,t.extract 0 p=x:=⟨_,rfl⟩
    have HX:bytes x=(bytes t).takeWhile notSlash:=by rw [← hx]; exact (cut_at hp).1
    have lx:x.size≤65536:=Nat.le_trans (by rw [← hx]; exact extract_le _ _ _) lt
    by_cases hA:((bytes x).all isDig && !(bytes x).isEmpty)=true
    ·obtain ⟨dx,nx⟩:=dig_parts hA
     have MX:ml ((decVal (bytes x):Nat):Int).natAbs≤65536:=by rw [Int.natAbs_natCast]; exact ml_decVal dx lx
     refine sx_region (xr 2 [(0, .v (.string s)),(2, .p 2 0),(3, .v (.bool false)),(4, .v (.string t)),(5, .v (.bool ng)),(6, .v (.int .i64 ((p:Nat):Int))),(39, .v (.string t)),(40, .v (.int .i64 ((p:Nat):Int)))] [bR4 2 35 false none 0 0 false none 0 0] ?_)
     refine sx_look 41 (.string x) (by kernel_rfl) (by kernel_rfl) (by kernel_rfl) (by kernel_rfl) (by kernel_rfl) (by kernel_rfl) (fun w hE hΦ=>run_strslice 0 p (t:=9) (x:=(Operand.tmp 39)) (lo:=none) (hi:=(some (Operand.tmp 40))) (by kernel_rfl) (by kernel_rfl) (by kernel_rfl) (Or.inl ⟨rfl,rfl⟩) (Or.inr (by kernel_rfl)) (by omega) hpt hx) ?_
     refine xr 0 [(0, .v (.string s)),(2, .p 2 0),(3, .v (.bool false)),(4, .v (.string t)),(5, .v (.bool ng)),(6, .v (.int .i64 ((p:Nat):Int))),(41, .v (.string x))] [bR4 2 35 false none 0 0 false none 0 0] ?_
     refine xc 65 [.string x] 42 (fun x:ShI=>.tuple #[shInt x, .bool true]) _ (fun w hE hΦ=>(NFromDigits_any x _ (by omega)).mono (fun _ _ h=>post_FD h dx nx)) (fun xx=>?_)
     obtain ⟨s12,A12,l12,c12⟩:=xx
     refine xr 6 [(0, .v (.string s)),(2, .p 2 0),(3, .v (.bool false)),(4, .v (.string t)),(5, .v (.bool ng)),(6, .v (.int .i64 ((p:Nat):Int))),(8, .p 8 0),(9, .v (.bool true))] [bI2 8 33 s12 A12 l12 c12,bR4 2 35 false none 0 0 false none 0 0] ?_
     refine xe (sx_next (sx_seq (sx_seq (sx_region (xr 2 [(0, .v (.string s)),(2, .p 2 0),(3, .v (.bool false)),(4, .v (.string t)),(5, .v (.bool ng)),(6, .v (.int .i64 ((p:Nat):Int))),(8, .p 8 0),(46, .v (.bool false))] [bI2 8 33 s12 A12 l12 c12,bR4 2 35 false none 0 0 false none 0 0] ?_)))))
     refine xe (sx_next (xb (sx_skip (sx_next (sx_seq (sx_region (xr 3 [(0, .v (.string s)),(2, .p 2 0),(3, .v (.bool false)),(4, .v (.string t)),(6, .v (.int .i64 ((p:Nat):Int))),(48, .v (.bool ng)),eS1 50 A12 l12 c12] [bR4 2 35 false none 0 0 false none 0 0] ?_)))))))
     refine xc 122 [.bool ng, .slice A12 l12 c12] 51 shInt _ (fun w hE hΦ=>(make1_ret _ _ _ _ hΦ.2.mag).mono (fun _ _ h=>post_Num (by rw [show sg ng ((decVal (bytes x):Int)).natAbs=sg ng (decVal (bytes x)) from by rw [Int.natAbs_natCast]] at h; exact h))) (fun xx=>?_)
     obtain ⟨s13,A13,l13,c13⟩:=xx
     refine xr 3 [(0, .v (.string s)),(2, .p 2 0),(3, .v (.bool false)),(4, .v (.string t)),(6, .v (.int .i64 ((p:Nat):Int))),(10, .p 10 0)] [bR4 10 35 s13 A13 l13 c13 false none 0 0,bR4 2 35 false none 0 0 false none 0 0] ?_
     refine xe (sx_next (sx_seq (sx_seq ?_)))
     by_cases hl:p < t.size
     ·obtain ⟨q,hq⟩:∃ q,t.extract (p + 1) t.size=q:=⟨_,rfl⟩
      have HQ:bytes q=(bytes t).drop (p + 1):=by rw [← hq]; exact (cut_at hp).2
      have lq:q.size≤65536:=Nat.le_trans (by rw [← hq]; exact extract_le _ _ _) lt
      refine sx_region (xr 4 [(0, .v (.string s)),(2, .p 2 0),(3, .v (.bool false)),(4, .v (.string t)),(6, .v (.int .i64 ((p:Nat):Int))),(10, .p 10 0),(56, .v (.bool (decide (((p:Nat):Int) < ((t).size:Int)))))] [bR4 10 35 s13 A13 l13 c13 false none 0 0,bR4 2 35 false none 0 0 false none 0 0] ?_)
      rw [nat_lt hl]
      refine xr 0 [(0, .v (.string s)),(2, .p 2 0),(3, .v (.bool false)),(4, .v (.string t)),(6, .v (.int .i64 ((p:Nat):Int))),(10, .p 10 0),(56, .v (.bool true))] [bR4 10 35 s13 A13 l13 c13 false none 0 0,bR4 2 35 false none 0 0 false none 0 0] ?_
      refine xe (sx_next (xa (sx_seq ?_)))
      by_cases hQ:((bytes q).all isDig && !(bytes q).isEmpty)=true
      ·obtain ⟨dq,nq⟩:=dig_parts hQ
       have MQ:ml ((decVal (bytes q):Nat):Int).natAbs≤65536:=by rw [Int.natAbs_natCast]; exact ml_decVal dq lq
       refine sx_region (xr 3 [(0, .v (.string s)),(2, .p 2 0),(3, .v (.bool false)),(10, .p 10 0),(58, .v (.string t)),(60, .v (.int .i64 (IntKind.i64.wrap (((p:Nat):Int) + 1))))] [bR4 10 35 s13 A13 l13 c13 false none 0 0,bR4 2 35 false none 0 0 false none 0 0] ?_)
       rw [nat_wrap1 (a:=p) (by omega)]
       refine sx_look 61 (.string q) (by kernel_rfl) (by kernel_rfl) (by kernel_rfl) (by kernel_rfl) (by kernel_rfl) (by kernel_rfl) (fun w hE hΦ=>run_strslice (p + 1) _ (t:=9) (x:=(Operand.tmp 58)) (lo:=(some (Operand.tmp 60))) (hi:=none) (by kernel_rfl) (by kernel_rfl) (by kernel_rfl) (Or.inr (by kernel_rfl)) (Or.inl ⟨rfl,rfl⟩) (by omega) (Nat.le_refl _) hq) ?_
       refine xr 0 [(0, .v (.string s)),(2, .p 2 0),(3, .v (.bool false)),(10, .p 10 0),(61, .v (.string q))] [bR4 10 35 s13 A13 l13 c13 false none 0 0,bR4 2 35 false none 0 0 false none 0 0] ?_
       refine xc 65 [.string q] 62 (fun x:ShI=>.tuple #[shInt x, .bool true]) _ (fun w hE hΦ=>(NFromDigits_any q _ (by omega)).mono (fun _ _ h=>post_FD h dq nq)) (fun xx=>?_)
       obtain ⟨s14,A14,l14,c14⟩:=xx
       refine xr 6 [(0, .v (.string s)),(2, .p 2 0),(3, .v (.bool false)),(10, .p 10 0),(11, .p 11 0),(12, .v (.bool true))] [bI2 11 33 s14 A14 l14 c14,bR4 10 35 s13 A13 l13 c13 false none 0 0,bR4 2 35 false none 0 0 false none 0 0] ?_
       refine xe (sx_next (sx_seq (sx_seq ?_)))
       by_cases hz:decVal (bytes q)=0
       ·refine sx_region (xr 4 [(0, .v (.string s)),(2, .p 2 0),(3, .v (.bool false)),(10, .p 10 0),(11, .p 11 0),(67, .v (.bool false)),eI2 68 s14 A14 l14 c14] [bI2 11 33 s14 A14 l14 c14,bR4 10 35 s13 A13 l13 c13 false none 0 0,bR4 2 35 false none 0 0 false none 0 0] ?_)
        refine xc 67 [vI2 s14 A14 l14 c14] 69 (fun _:Unit=>.int .i64 ((decVal (bytes q):Int)).sign) _ (fun w hE hΦ=>(NSign_any _ ((decVal (bytes q):Int)) _ hΦ.2).mono (fun _ _ h=>post_val h rfl)) (fun xx=>?_)
        refine xr 1 [(0, .v (.string s)),(2, .p 2 0),(3, .v (.bool false)),(10, .p 10 0),(11, .p 11 0),(67, .v (.bool false)),(70, .v (.bool ((((decVal (bytes q):Int)).sign:Int) == 0)))] [bI2 11 33 s14 A14 l14 c14,bR4 10 35 s13 A13 l13 c13 false none 0 0,bR4 2 35 false none 0 0 false none 0 0] ?_
        rw [sgn_zero hz]
        refine xr 1 [(0, .v (.string s)),(2, .p 2 0),(3, .v (.bool false)),(10, .p 10 0),(11, .p 11 0),(71, .v (.bool true))] [bI2 11 33 s14 A14 l14 c14,bR4 10 35 s13 A13 l13 c13 false none 0 0,bR4 2 35 false none 0 0 false none 0 0] ?_
        refine xe (sx_next (xa (sx_seq (sx_region (xr 3 [(0, .v (.string s)),(2, .p 2 0),(3, .v (.bool false)),(10, .p 10 0),(11, .p 11 0)] [bI2 11 33 s14 A14 l14 c14,bR4 10 35 s13 A13 l13 c13 false none 0 0,bR4 2 35 false none 0 0 false none 0 0] ?_)))))
        refine xe (sx_next (sx_ret (sx_then_ret (sx_then_ret ?_))))
        refine sx_done (v:=.tuple #[.agg #[.bool false, .slice none 0 0, .bool false, .slice none 0 0], .bool false]) (by kernel_rfl) (fun w' hE hΦ=>?_)
        exact ⟨_,false,0,rfl,hE,NRatIs.nil _,Or.inr ⟨rfl,by rw [← nread_eq]; exact nread_bad2 HM (by rw [← HX]; exact hA) (by rw [← hp,bytes_length]; exact hl) (by rw [← hp,← HQ]; exact Or.inr hz)⟩⟩
       ·refine sx_region (xr 4 [(0, .v (.string s)),(2, .p 2 0),(3, .v (.bool false)),(10, .p 10 0),(11, .p 11 0),(67, .v (.bool false)),eI2 68 s14 A14 l14 c14] [bI2 11 33 s14 A14 l14 c14,bR4 10 35 s13 A13 l13 c13 false none 0 0,bR4 2 35 false none 0 0 false none 0 0] ?_)
        refine xc 67 [vI2 s14 A14 l14 c14] 69 (fun _:Unit=>.int .i64 ((decVal (bytes q):Int)).sign) _ (fun w hE hΦ=>(NSign_any _ ((decVal (bytes q):Int)) _ hΦ.2).mono (fun _ _ h=>post_val h rfl)) (fun xx=>?_)
        refine xr 1 [(0, .v (.string s)),(2, .p 2 0),(3, .v (.bool false)),(10, .p 10 0),(11, .p 11 0),(67, .v (.bool false)),(70, .v (.bool ((((decVal (bytes q):Int)).sign:Int) == 0)))] [bI2 11 33 s14 A14 l14 c14,bR4 10 35 s13 A13 l13 c13 false none 0 0,bR4 2 35 false none 0 0 false none 0 0] ?_
        rw [sgn_nzero hz]
        refine xr 1 [(0, .v (.string s)),(2, .p 2 0),(3, .v (.bool false)),(10, .p 10 0),(11, .p 11 0),(71, .v (.bool false))] [bI2 11 33 s14 A14 l14 c14,bR4 10 35 s13 A13 l13 c13 false none 0 0,bR4 2 35 false none 0 0 false none 0 0] ?_
        refine xe (sx_next (xb (sx_skip (sx_next (sx_region (xr 3 [(0, .v (.string s)),(2, .p 2 0),(3, .v (.bool false)),(10, .p 10 0),eI2 74 s13 A13 l13 c13,eI2 75 s14 A14 l14 c14] [bR4 10 35 s13 A13 l13 c13 false none 0 0,bR4 2 35 false none 0 0 false none 0 0] ?_))))))
        refine xc 71 [vI2 s13 A13 l13 c13,vI2 s14 A14 l14 c14] 76 shRat _ (fun w hE hΦ=>(NFrac_any _ _ (sg ng (decVal (bytes x))) ((decVal (bytes q):Int)) _ hΦ.1.1.2 hΦ.1.2 (rd_fit (by rw [sg_ml]; rw [Int.natAbs_natCast] at MX; exact MX)) (rd_fit MQ) (rd_nz hz)).mono (fun _ _ h=>post_NRat h)) (fun xx=>?_)
        obtain ⟨s15,A15,l15,c15,t15,B15,m15,d15⟩:=xx
        refine xr 1 [(0, .v (.string s)),(2, .p 2 0),(3, .v (.bool false)),(10, .p 10 0)] [bR4 10 35 s15 A15 l15 c15 t15 B15 m15 d15,bR4 2 35 false none 0 0 false none 0 0] ?_
        refine xe (sx_next (sx_seq ?_))
        refine sx_draw 7 (by kernel_rfl) (by kernel_rfl) follows_mixed' ?_
        refine xf 2 [(0, .v (.string s)),(2, .p 2 0),(3, .v (.bool false)),eR4 77 s15 A15 l15 c15 t15 B15 m15 d15,eR4 78 s15 A15 l15 c15 t15 B15 m15 d15] [bR4 10 35 s15 A15 l15 c15 t15 B15 m15 d15,bR4 2 35 false none 0 0 false none 0 0] ?_
        refine xd 21 [vR4 s15 A15 l15 c15 t15 B15 m15 d15] 79 (fun _:Unit=>.string ⟨(ratText (Rat.divInt (sg ng (decVal (bytes x))) ((decVal (bytes q):Int)))).toArray⟩) _ (fun w hE hΦ=>(NText_all _ (Rat.divInt (sg ng (decVal (bytes x))) ((decVal (bytes q):Int))) _ hΦ.2 (Nat.le_trans (frac_ml (rd_nz hz)).1 (by rw [sg_ml]; rw [Int.natAbs_natCast] at MX; exact MX)) (Nat.le_trans (frac_ml (rd_nz hz)).2 MQ)).mono (fun _ _ h=>post_val h rfl)) (fun xx=>?_)
        refine xf 4 [(2, .p 2 0),(3, .v (.bool ((⟨(ratText (Rat.divInt (sg ng (decVal (bytes x))) ((decVal (bytes q):Int)))).toArray⟩:ByteArray).toList == (s:ByteArray).toList)))] [bR4 2 35 s15 A15 l15 c15 t15 B15 m15 d15,bR4 10 35 s15 A15 l15 c15 t15 B15 m15 d15,bR4 2 35 false none 0 0 false none 0 0] ?_
        refine xz (xe (sx_next (sx_ret ?_)))
        refine sx_done (v:=.tuple #[.agg #[.bool s15, .slice A15 l15 c15, .bool t15, .slice B15 m15 d15], .bool ((⟨(ratText (Rat.divInt (sg ng (decVal (bytes x))) ((decVal (bytes q):Int)))).toArray⟩:ByteArray).toList == (s:ByteArray).toList)]) (by kernel_rfl) (fun w' hE hΦ=>?_)
        exact ⟨_,_,_,rfl,hE,hΦ.1.2,read_end (by rw [nread_frac HM (by rw [← HX]; exact hA) (by rw [← hp,bytes_length]; exact hl) (by rw [← hp,← HQ]; exact hQ) (by rw [← hp,← HQ]; exact hz),← hp,← HQ,← HX]) str_dec⟩
      ·refine sx_region (xr 3 [(0, .v (.string s)),(2, .p 2 0),(3, .v (.bool false)),(10, .p 10 0),(58, .v (.string t)),(60, .v (.int .i64 (IntKind.i64.wrap (((p:Nat):Int) + 1))))] [bR4 10 35 s13 A13 l13 c13 false none 0 0,bR4 2 35 false none 0 0 false none 0 0] ?_)
       rw [nat_wrap1 (a:=p) (by omega)]
       refine sx_look 61 (.string q) (by kernel_rfl) (by kernel_rfl) (by kernel_rfl) (by kernel_rfl) (by kernel_rfl) (by kernel_rfl) (fun w hE hΦ=>run_strslice (p + 1) _ (t:=9) (x:=(Operand.tmp 58)) (lo:=(some (Operand.tmp 60))) (hi:=none) (by kernel_rfl) (by kernel_rfl) (by kernel_rfl) (Or.inr (by kernel_rfl)) (Or.inl ⟨rfl,rfl⟩) (by omega) (Nat.le_refl _) hq) ?_
       refine xr 0 [(0, .v (.string s)),(2, .p 2 0),(3, .v (.bool false)),(10, .p 10 0),(61, .v (.string q))] [bR4 10 35 s13 A13 l13 c13 false none 0 0,bR4 2 35 false none 0 0 false none 0 0] ?_
       refine xc 65 [.string q] 62 (fun x:ShI=>.tuple #[shInt x, .bool false]) _ (fun w hE hΦ=>(NFromDigits_any q _ (by omega)).mono (fun _ _ h=>post_FDf h hQ)) (fun xx=>?_)
       obtain ⟨s16,A16,l16,c16⟩:=xx
       refine xr 6 [(0, .v (.string s)),(2, .p 2 0),(3, .v (.bool false)),(10, .p 10 0),(11, .p 11 0),(12, .v (.bool false))] [bI2 11 33 s16 A16 l16 c16,bR4 10 35 s13 A13 l13 c13 false none 0 0,bR4 2 35 false none 0 0 false none 0 0] ?_
       refine xe (sx_next (sx_seq (sx_seq (sx_region (xr 7 [(0, .v (.string s)),(2, .p 2 0),(3, .v (.bool false)),(10, .p 10 0),(11, .p 11 0),(71, .v (.bool true))] [bI2 11 33 s16 A16 l16 c16,bR4 10 35 s13 A13 l13 c13 false none 0 0,bR4 2 35 false none 0 0 false none 0 0] ?_)))))
       refine xe (sx_next (xa (sx_seq (sx_region (xr 3 [(0, .v (.string s)),(2, .p 2 0),(3, .v (.bool false)),(10, .p 10 0),(11, .p 11 0)] [bI2 11 33 s16 A16 l16 c16,bR4 10 35 s13 A13 l13 c13 false none 0 0,bR4 2 35 false none 0 0 false none 0 0] ?_)))))
       refine xe (sx_next (sx_ret (sx_then_ret (sx_then_ret ?_))))
       refine sx_done (v:=.tuple #[.agg #[.bool false, .slice none 0 0, .bool false, .slice none 0 0], .bool false]) (by kernel_rfl) (fun w' hE hΦ=>?_)
       exact ⟨_,false,0,rfl,hE,NRatIs.nil _,Or.inr ⟨rfl,by rw [← nread_eq]; exact nread_bad2 HM (by rw [← HX]; exact hA) (by rw [← hp,bytes_length]; exact hl) (by rw [← hp,← HQ]; exact Or.inl (Bool.eq_false_iff.2 hQ))⟩⟩
     ·refine sx_region (xr 4 [(0, .v (.string s)),(2, .p 2 0),(3, .v (.bool false)),(4, .v (.string t)),(6, .v (.int .i64 ((p:Nat):Int))),(10, .p 10 0),(56, .v (.bool (decide (((p:Nat):Int) < ((t).size:Int)))))] [bR4 10 35 s13 A13 l13 c13 false none 0 0,bR4 2 35 false none 0 0 false none 0 0] ?_)
      rw [nat_nlt hl]
      refine xr 0 [(0, .v (.string s)),(2, .p 2 0),(3, .v (.bool false)),(4, .v (.string t)),(6, .v (.int .i64 ((p:Nat):Int))),(10, .p 10 0),(56, .v (.bool false))] [bR4 10 35 s13 A13 l13 c13 false none 0 0,bR4 2 35 false none 0 0 false none 0 0] ?_
      refine xe (sx_next (xb (sx_skip (sx_next (sx_seq ?_)))))
      refine sx_draw 7 (by kernel_rfl) (by kernel_rfl) follows_mixed' ?_
      refine xf 2 [(0, .v (.string s)),(2, .p 2 0),(3, .v (.bool false)),eR4 77 s13 A13 l13 c13 false none 0 0,eR4 78 s13 A13 l13 c13 false none 0 0] [bR4 10 35 s13 A13 l13 c13 false none 0 0,bR4 2 35 false none 0 0 false none 0 0] ?_
      refine xd 21 [vR4 s13 A13 l13 c13 false none 0 0] 79 (fun _:Unit=>.string ⟨(ratText (((sg ng (decVal (bytes x)):Int):Rat))).toArray⟩) _ (fun w hE hΦ=>(NText_all _ (((sg ng (decVal (bytes x)):Int):Rat)) _ (NRatIs.whole hΦ.2) (by show ml (sg ng (decVal (bytes x))).natAbs≤_; rw [sg_ml]; rw [Int.natAbs_natCast] at MX; exact MX) ml_one').mono (fun _ _ h=>post_val h rfl)) (fun xx=>?_)
      refine xf 4 [(2, .p 2 0),(3, .v (.bool ((⟨(ratText (((sg ng (decVal (bytes x)):Int):Rat))).toArray⟩:ByteArray).toList == (s:ByteArray).toList)))] [bR4 2 35 s13 A13 l13 c13 false none 0 0,bR4 10 35 s13 A13 l13 c13 false none 0 0,bR4 2 35 false none 0 0 false none 0 0] ?_
      refine xz (xe (sx_next (sx_ret ?_)))
      refine sx_done (v:=.tuple #[.agg #[.bool s13, .slice A13 l13 c13, .bool false, .slice none 0 0], .bool ((⟨(ratText (((sg ng (decVal (bytes x)):Int):Rat))).toArray⟩:ByteArray).toList == (s:ByteArray).toList)]) (by kernel_rfl) (fun w' hE hΦ=>?_)
      exact ⟨_,_,_,rfl,hE,(NRatIs.whole hΦ.1.2),read_end (by rw [nread_whole HM (by rw [← HX]; exact hA) (by rw [← hp,bytes_length]; omega),← HX]) str_dec⟩
    ·refine sx_region (xr 2 [(0, .v (.string s)),(2, .p 2 0),(3, .v (.bool false)),(4, .v (.string t)),(5, .v (.bool ng)),(6, .v (.int .i64 ((p:Nat):Int))),(39, .v (.string t)),(40, .v (.int .i64 ((p:Nat):Int)))] [bR4 2 35 false none 0 0 false none 0 0] ?_)
     refine sx_look 41 (.string x) (by kernel_rfl) (by kernel_rfl) (by kernel_rfl) (by kernel_rfl) (by kernel_rfl) (by kernel_rfl) (fun w hE hΦ=>run_strslice 0 p (t:=9) (x:=(Operand.tmp 39)) (lo:=none) (hi:=(some (Operand.tmp 40))) (by kernel_rfl) (by kernel_rfl) (by kernel_rfl) (Or.inl ⟨rfl,rfl⟩) (Or.inr (by kernel_rfl)) (by omega) hpt hx) ?_
     refine xr 0 [(0, .v (.string s)),(2, .p 2 0),(3, .v (.bool false)),(4, .v (.string t)),(5, .v (.bool ng)),(6, .v (.int .i64 ((p:Nat):Int))),(41, .v (.string x))] [bR4 2 35 false none 0 0 false none 0 0] ?_
     refine xc 65 [.string x] 42 (fun x:ShI=>.tuple #[shInt x, .bool false]) _ (fun w hE hΦ=>(NFromDigits_any x _ (by omega)).mono (fun _ _ h=>post_FDf h hA)) (fun xx=>?_)
     obtain ⟨s17,A17,l17,c17⟩:=xx
     refine xr 6 [(0, .v (.string s)),(2, .p 2 0),(3, .v (.bool false)),(4, .v (.string t)),(5, .v (.bool ng)),(6, .v (.int .i64 ((p:Nat):Int))),(8, .p 8 0),(9, .v (.bool false))] [bI2 8 33 s17 A17 l17 c17,bR4 2 35 false none 0 0 false none 0 0] ?_
     refine xe (sx_next (sx_seq (sx_seq (sx_region (xr 2 [(0, .v (.string s)),(2, .p 2 0),(3, .v (.bool false)),(4, .v (.string t)),(5, .v (.bool ng)),(6, .v (.int .i64 ((p:Nat):Int))),(8, .p 8 0),(46, .v (.bool true))] [bI2 8 33 s17 A17 l17 c17,bR4 2 35 false none 0 0 false none 0 0] ?_)))))
     refine xe (sx_next (xa (sx_seq (sx_region (xr 3 [(0, .v (.string s)),(2, .p 2 0),(3, .v (.bool false)),(4, .v (.string t)),(5, .v (.bool ng)),(6, .v (.int .i64 ((p:Nat):Int))),(8, .p 8 0)] [bI2 8 33 s17 A17 l17 c17,bR4 2 35 false none 0 0 false none 0 0] ?_)))))
     refine xe (sx_next (sx_ret (sx_then_ret ?_)))
     refine sx_done (v:=.tuple #[.agg #[.bool false, .slice none 0 0, .bool false, .slice none 0 0], .bool false]) (by kernel_rfl) (fun w' hE hΦ=>?_)
     exact ⟨_,false,0,rfl,hE,NRatIs.nil _,Or.inr ⟨rfl,by rw [← nread_eq]; exact nread_bad1 HM (by rw [← HX]; exact Bool.eq_false_iff.2 hA)⟩⟩
end Go.Proofs.YtibipjlohahekaaGreatDoor

namespace Go.Proofs.YtibipjlohahekaaGreatDoor
open Go.RowKit
theorem opt_two {α:Type} (o:Option α):o=none∨∃ x,o=some x:=by cases o; exact Or.inl rfl; exact Or.inr ⟨_,rfl⟩
section
variable {w w':World} {e:Ending} {l:List UInt8}
theorem post_NRead_none (h:RetNRead w l e w') (hr:readF l=none):PostC (fun x:ShQ=>.tuple #[shRat x, .bool false]) (fun x w=>∃ q,NRatIs w (shRat x) q) w e w':=by
 obtain ⟨v,ok,q,rfl,hE,h2,⟨rfl,h1⟩ | ⟨rfl,h1⟩⟩:=h
 ·rw [hr] at h1; cases h1
 ·obtain ⟨s,A,l,c,t,B,m,d,rfl⟩:=h2.shp
  exact ⟨(s,A,l,c,t,B,m,d),rfl,hE,boxn hE (fun S w'' hS hF=>⟨q,h2.nrb hS hF⟩)⟩
theorem post_NRead_some {q:Rat} (h:RetNRead w l e w') (hr:readF l=some q):PostC (fun x:ShQ=>.tuple #[shRat x, .bool true]) (fun x w=>NRatIs w (shRat x) q) w e w':=by
 obtain ⟨v,ok,q',rfl,hE,h2,⟨rfl,h1⟩ | ⟨rfl,h1⟩⟩:=h
 ·rw [hr] at h1; injection h1 with h1; subst h1
  obtain ⟨s,A,l,c,t,B,m,d,rfl⟩:=h2.shp
  exact ⟨(s,A,l,c,t,B,m,d),rfl,hE,boxn hE (fun S w'' hS hF=>h2.nrb hS hF)⟩
 ·rw [hr] at h1; cases h1
end
end Go.Proofs.YtibipjlohahekaaGreatDoor

namespace Go.Proofs.YtibipjlohahekaaGreatDoor
open Go.RowKit
set_option maxRecDepth 100000 in
theorem NNum_any (s:ByteArray) (w:World) (hs:s.size≤65536) :
 Calls Tryz.prog 18 #[.string s] w (RetNRat w (valF (bytes s))):=by
 refine sx_enter (Φ:=fun w=>True) Tryz.func18 rfl (by kernel_rfl) (fun w' hf=>trivial) ?_
 refine sx_seq (sx_region (xr 1 [(0, .v (.string s)),(2, .p 2 0)] [bR4 2 35 false none 0 0 false none 0 0] ?_))
 refine xe (sx_next (sx_seq (sx_region (xr 1 [(2, .p 2 0),(6, .v (.string s))] [bR4 2 35 false none 0 0 false none 0 0] ?_))))
 rcases opt_two (readF (bytes s)) with hr | ⟨q,hr⟩
 ·refine xc 72 [.string s] 7 (fun x:ShQ=>.tuple #[shRat x, .bool false]) _ (fun w hE hΦ=>(NRead_any s _ (by omega)).mono (fun _ _ h=>post_NRead_none h hr)) (fun xx=>?_)
  obtain ⟨s10,A10,l10,c10,t10,B10,m10,d10⟩:=xx
  refine xr 6 [(2, .p 2 0),(3, .p 3 0),(4, .v (.bool false))] [bR4 3 35 s10 A10 l10 c10 t10 B10 m10 d10,bR4 2 35 false none 0 0 false none 0 0] ?_
  refine xe (sx_next (sx_seq (sx_seq (sx_region (xr 2 [(2, .p 2 0),(3, .p 3 0),(11, .v (.bool true))] [bR4 3 35 s10 A10 l10 c10 t10 B10 m10 d10,bR4 2 35 false none 0 0 false none 0 0] ?_)))))
  refine xe (sx_next (xa (sx_seq (sx_region (xr 2 [(2, .p 2 0),(3, .p 3 0)] [bR4 3 35 s10 A10 l10 c10 t10 B10 m10 d10,bR4 2 35 false none 0 0 false none 0 0] ?_)))))
  refine xe (sx_next (sx_ret (sx_then_ret ?_)))
  refine sx_done (v:=.agg #[.bool false, .slice none 0 0, .bool false, .slice none 0 0]) (by kernel_rfl) (fun w' hE hΦ=>?_)
  exact ⟨_,rfl,by rw [valF_none hr]; exact NRatIs.nil _,hE⟩
 ·refine xc 72 [.string s] 7 (fun x:ShQ=>.tuple #[shRat x, .bool true]) _ (fun w hE hΦ=>(NRead_any s _ (by omega)).mono (fun _ _ h=>post_NRead_some h hr)) (fun xx=>?_)
  obtain ⟨s11,A11,l11,c11,t11,B11,m11,d11⟩:=xx
  refine xr 6 [(2, .p 2 0),(3, .p 3 0),(4, .v (.bool true))] [bR4 3 35 s11 A11 l11 c11 t11 B11 m11 d11,bR4 2 35 false none 0 0 false none 0 0] ?_
  refine xe (sx_next (sx_seq (sx_seq (sx_region (xr 2 [(2, .p 2 0),(3, .p 3 0),(11, .v (.bool false))] [bR4 3 35 s11 A11 l11 c11 t11 B11 m11 d11,bR4 2 35 false none 0 0 false none 0 0] ?_)))))
  refine xe (sx_next (xb (sx_skip (sx_next (sx_seq (sx_region (xr 2 [(2, .p 2 0)] [bR4 2 35 s11 A11 l11 c11 t11 B11 m11 d11] ?_)))))))
  refine xe (sx_next (sx_ret ?_))
  refine sx_done (v:=.agg #[.bool s11, .slice A11 l11 c11, .bool t11, .slice B11 m11 d11]) (by kernel_rfl) (fun w' hE hΦ=>?_)
  exact ⟨_,rfl,by rw [valF_some hr]; exact hΦ.2,hE⟩
end Go.Proofs.YtibipjlohahekaaGreatDoor
